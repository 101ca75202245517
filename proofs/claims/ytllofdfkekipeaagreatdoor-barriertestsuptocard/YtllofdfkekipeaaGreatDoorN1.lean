/-
 The second layer: named objects in the place of rows; texts, calls, iterators.
-/
import Derived.Test.YtllofdfkekipeaaGreatDoorV2
set_option linter.all false
noncomputable section
open List(all_cons all_eq_true drop_drop drop_zero getElem?_append_left getElem?_append_right getElem?_cons_zero getElem?_drop getElem?_set getElem?_set_self getElem?_take length_eq_zero_iff mem_append mem_cons mem_iff_getElem? mem_of_getElem? mem_of_mem_drop replicate take take_length)
open Bool(false_eq_true not_eq_true' or_eq_false_iff or_eq_true)
open Option(isSome_iff_exists map_some)
open Nat(le_max_left le_max_right le_refl le_trans)
open Classical(choose_spec)
namespace Go.VE
variable[bT]
inductive Fl where|nil|emp|row|part
 deriving DecidableEq,Inhabited
inductive SV where
 |v(x:V)|own(d:Nat)|ptr(d off:Nat)|el(d i off:Nat)|mp(d:Nat)|clo(f:FuncId)(a b:List SV)|tup(l:List SV)|agg(l:List SV)|yl(id:Nat)
 deriving Inhabited
abbrev Zw:=aY SV
inductive bE where
 |sl(k:Fl)(es:Nat)(xs:List (List V))|box(cs:List SV)|mp(kvs:List (V×V))
abbrev Tb(α:Type):=aY (Nat×α)
def bh{α:Type}:Tb α->Nat->aZ α
 |[],_=>none|(k,v)::r,n=>if k=n then some v else bh r n
def bH{α:Type}:Tb α->Nat->α->Tb α
 |[],n,v=>[(n,v)]|(k,x)::r,n,v=>if k=n then(k,v)::r else(k,x)::bH r n v
def eo{α:Type}(n:Nat):Tb α->Tb α
 |[]=>[]|(k,x)::r=>if k=n then eo n r else(k,x)::eo n r
def o7{α:Type}:Zv->Tb α->Tb α
 |[],g=>g|d::ds,g=>o7 ds (eo d g)
def v8{α:Type}:Tb α->Zv->aY α->Tb α
 |g,p::ps,v::vs=>v8 (bH g p v) ps vs|g,_,_=>g
def k_{α:Type}(g:Tb α):Zv->aZ (Tb α)
 |[]=>some []|n::r=>match bh g n,k_ g r with
  |some v,some t=>some ((n,v)::t)|_,_=>none
structure St where
 g:Tb SV
 m:Tb bE
 pin:List Nat
 want:List (List V)
 more:Bool
 yid:Nat
structure E6 where
 part:Bool
 go:Nat->List (List V)->List V->Option (List (List V))
structure Sys where
 E:Env
 N:Nat->FuncId
 items:FuncId->List V->List V->Option (List (List V))
 yG:FuncId->List V->Option V
 prm:FuncId->Option E6
inductive Arg where
 |s(n:Nat)|k(c:V)|f(name:Nat)
abbrev Z4:=aY Arg
inductive Loc where
 |s(n:Nat)|c(b i:Nat)
inductive Gh where
 |close(d:Nat)|closeB(d:Nat)|canon(l:Loc)(d:Nat)(es:Nat)|keep(gs ms:List Nat)|drop(ds:List Nat)|closeS(l:Loc)
abbrev Z5:=aY Gh
structure RO where
 dst:Option Nat
 gd:Option (Nat×Bool)
 now:Bool
 k:K
 az:List Arg
 dead:List Nat:=[]
 pre:List Gh:=[]
abbrev Zy:=aY RO
inductive RC where
 |skip|ops(l:List RO)|oS(l:List RO)|seq(a b:RC)|cond(x:Arg)(a b:RC)|block(id:Nat)(c:RC)|loop(c:RC)|each(g:Arg)(ps:List Nat)(a b:RC)|exit(id:Nat)|ret|gh(x:Gh)(c:RC)|hg(c:RC)(x:Gh)
inductive RV where
 |s(n:Nat)|ld(n size:Nat)(agg:Bool)
structure RF where
 na:Nat
 rs:List RV
 body:RC
mutual
def SV.cM(d:Nat):SV->Zl
 |.v _=>false|.own e=>e==d|.ptr e _=>e==d|.el e _ _=>e==d|.mp e=>e==d|.clo _ a b=>SV.dy d a||SV.dy d b|.tup l=>SV.dy d l|.agg l=>SV.dy d l|.yl _=>false
def SV.dy(d:Nat):Zw->Zl
 |[]=>false|x::r=>SV.cM d x||SV.dy d r
end
def bE.cM(d:Nat):bE->Zl
 |.box cs=>SV.dy d cs|_=>false
def uL(d:Nat):Tb SV->Zl
 |[]=>false|(_,x)::r=>SV.cM d x||uL d r
def rY(d:Nat):Tb bE->Zl
 |[]=>false|(_,x)::r=>bE.cM d x||rY d r
def St.new(st:St)(d:Nat):Zl:= !(st.pin.contains d)&&(bh st.m d).isNone&& !(uL d st.g)&& !(rY d st.m)
mutual
def SV.tZ(d e:Nat):SV->SV
 |.v x=>.v x|.own k=>.own (if k=d then e else k)|.ptr k o=>.ptr (if k=d then e else k) o|.el k i o=>.el (if k=d then e else k) i o|.mp k=>.mp (if k=d then e else k)|.clo f a b=>.clo f (SV.uv d e a) (SV.uv d e b)|.tup l=>.tup (SV.uv d e l)|.agg l=>.agg (SV.uv d e l)|.yl id=>.yl id
def SV.uv(d e:Nat):Zw->Zw
 |[]=>[]|x::r=>SV.tZ d e x::SV.uv d e r
end
def bE.tZ(d e:Nat):bE->bE
 |.box cs=>.box (SV.uv d e cs)|o=>o
def zo(d e:Nat):Tb SV->Tb SV
 |[]=>[]|(n,x)::r=>(n,x.tZ d e)::zo d e r
def uB(d e:Nat):Tb bE->Tb bE
 |[]=>[]|(n,x)::r=>((if n=d then e else n),x.tZ d e)::uB d e r
mutual
def SV.sub(d:Nat)(w:V):SV->SV
 |.own k=>if k=d then .v w else .own k|.clo f a b=>.clo f (SV.uC d w a) (SV.uC d w b)|.tup l=>.tup (SV.uC d w l)|.agg l=>.agg (SV.uC d w l)|x=>x
def SV.uC(d:Nat)(w:V):Zw->Zw
 |[]=>[]|x::r=>SV.sub d w x::SV.uC d w r
end
def di:Zw->aZ Zu
 |[]=>some []|.v x::r=>(di r).map (x::·)|_::_=>none
def OK(f:Zk)(a b:Zw):SV:=
 match di a,di b with
 |some x,some y=>.v (.clo f x y)|_,_=>.clo f a b
mutual
def SV.B1(d:Nat)(cs:Zu):SV->SV
 |.ptr k o=>if k=d then(if o<=cs.length then .v (.fptr (cs.drop o))else .ptr k o)else .ptr k o|.clo f a b=>OK f (SV.qQ d cs a) (SV.qQ d cs b)|.tup l=>.tup (SV.qQ d cs l)|.agg l=>.agg (SV.qQ d cs l)|x=>x
def SV.qQ(d:Nat)(cs:Zu):Zw->Zw
 |[]=>[]|x::r=>SV.B1 d cs x::SV.qQ d cs r
end
def BG(f:SV->SV):Tb SV->Tb SV
 |[]=>[]|(n,x)::r=>(n,f x)::BG f r
def mapM(f:Zw->Zw):Tb bE->Tb bE
 |[]=>[]|(n,.box cs)::r=>(n,.box (f cs))::mapM f r|(n,o)::r=>(n,o)::mapM f r
mutual
def SV.names:SV->Zv
 |.own d|.ptr d _|.el d _ _|.mp d=>[d]|.clo _ a b=>SV.vD a++SV.vD b|.tup l=>SV.vD l|.agg l=>SV.vD l|_=>[]
def SV.vD:Zw->Zv
 |[]=>[]|x::r=>SV.names x++SV.vD r
end
def pM:Tb SV->Zv
 |[]=>[]|(_,x)::r=>SV.names x++pM r
def ov(k:Fl)(es:Nat)(xs:Zt):V:=
 match k with
 |.nil=>.bG|.emp=>.dw|_=>.fsl es xs
mutual
def V.lvl:Nat->V->Zl
 |n,.fsl _ xs=>match n with|0=>false|n+1=>V.oT n xs
 |n,.fptr cs=>match n with|0=>false|n+1=>V.kW n cs
 |n,.fmap B=>match n with|0=>false|n+1=>V.sy n B
 |n,.agg cs=>match n with|0=>false|n+1=>V.kW n cs
 |n,.tup cs=>match n with|0=>false|n+1=>V.kW n cs
 |n,.clo _ a b=>match n with|0=>false|n+1=>V.kW n a&&V.kW n b
 |_,_=>true
def V.kW:Nat->Zu->Zl
 |_,[]=>true|n,x::r=>V.lvl n x&&V.kW n r
def V.oT:Nat->Zt->Zl
 |_,[]=>true|n,x::r=>V.kW n x&&V.oT n r
def V.sy:Nat->aY (V×V)->Zl
 |_,[]=>true|n,(k,x)::r=>V.lvl n k&&V.lvl n x&&V.sy n r
end
mutual
def shut(m:Tb bE):Nat->SV->aZ V
 |_,.v x=>some x|_,.own d=>match bh m d with
  |some (.sl k es xs)=>some (ov k es xs)|_=>none
 |n+1,.ptr d o=>match bh m d with
  |some (.box cs)=>match cV m n cs with
   |some xs=>if o<=xs.length then some (.fptr (xs.drop o))else none|none=>none
  |_=>none
 |_,.mp d=>match bh m d with
  |some (.mp B)=>some (.fmap B)|_=>none
 |n+1,.clo f a b=>match cV m n a,cV m n b with
  |some x,some y=>some (.clo f x y)|_,_=>none
 |n+1,.tup l=>(cV m n l).map .tup|n+1,.agg l=>(cV m n l).map .agg|_,_=>none
def cV(m:Tb bE):Nat->Zw->aZ Zu
 |_,[]=>some []|n,x::r=>match shut m n x,cV m n r with
  |some y,some s=>some (y::s)|_,_=>none
end
end Go.VE
namespace Go.VE
variable[bT]
mutual
def V.good:V->Zl
 |.hsl ..|.hptr ..|.yld ..|.hmap ..=>false|.fsl _ xs=>V.mS xs|.fptr cs=>V.cr cs|.fmap B=>V.sF B|.clo _ a b=>V.cr a&&V.cr b|.agg cs=>V.cr cs|.tup cs=>V.cr cs|_=>true
def V.cr:Zu->Zl
 |[]=>true|x::r=>V.good x&&V.cr r
def V.mS:Zt->Zl
 |[]=>true|x::r=>V.cr x&&V.mS r
def V.sF:aY (V×V)->Zl
 |[]=>true|(k,x)::r=>V.good k&&V.good x&&V.sF r
end
abbrev dP:=Tb bE
abbrev bZ:=FuncId->aY SV->dP->aZ (aY SV×dP)
def qt(N:Nat->Zk)(g:Tb SV):Arg->aZ SV
 |.s n=>bh g n|.k c=>some (.v c)|.f s=>some (.v (.clo (N s) [] []))
def bV(N:Nat->Zk)(g:Tb SV):Z4->aZ Zw
 |[]=>some []|x::r=>match qt N g x,bV N g r with
  |some v,some vs=>some (v::vs)|_,_=>none
def cD:Fl->Zl
 |.row|.part=>true|_=>false
def kN(m:Tb bE):SV->Zl
 |.own d|.ptr d _|.el d _ _|.mp d=>(bh m d).isSome|.clo ..=>true|_=>false
def vX(m:Tb bE):SV->Zl
 |.v x=>x.one|x=>kN m x
def xy(m:Tb bE):SV->aZ Zw
 |.v x=>some (x.cells.map .v)|.agg l=>some l|x=>if kN m x then some [x]else none
def sL(m:Tb bE)(cells:Zw):aY (Nat×Nat)->Zw->aZ Zw
 |[],[]=>some cells|(off,size)::pl,v::vs=>match xy m v with
  |some c=>if c.length=size/\off+c.length<=cells.length then sL m (cells.take off++c++cells.drop (off+c.length)) pl vs else none|none=>none
 |_,_=>none
def tN(size:Nat)(agg:Zl)(cs:Zw):aZ SV:=
 if cs.length=size then
  if agg then match di cs with
   |some u=>some (.v (.agg u))|none=>some (.agg cs)
  else match cs with
   |[x]=>some x|_=>none
 else none
def wk(N:Nat->Zk)(m:Tb bE):uG->Zw->aZ SV
 |.id,[x]=>some x|.nilc,[.ptr d o]=>if(bh m d).isSome then some (.ptr d o)else none|.nilc,[.el d i o]=>if(bh m d).isSome then some (.el d i o)else none|.pick,[.v (.bool t),a,b]=>some (if t then a else b)|.bin (some .slice) _ .eql,[.own d,.v .bG]=>match bh m d with
  |some (.sl k _ _)=>if k=.emp then none else some (.v (.bool (k==.nil)))|_=>none
 |.bin (some .slice) _ .neq,[.own d,.v .bG]=>match bh m d with
  |some (.sl k _ _)=>if k=.emp then none else some (.v (.bool (!(k==.nil))))|_=>none
 |.fieldAddr off,[.ptr d o]=>if(bh m d).isSome then some (.ptr d (o+off))else none|.fieldAddr off,[.el d i o]=>if(bh m d).isSome then some (.el d i (o+off))else none|.idxS size,[.own d,.v (.int _ i)]=>match bh m d with
  |some (.sl k es xs)=>if cD k/\es=size/\0<=i/\i.toNat<xs.length then some (.el d i.toNat 0)else none|_=>none
 |.idxA len size,[.ptr d o,.v (.int _ i)]=>if 0<=i/\i<len/\(bh m d).isSome then some (.ptr d (o+i.toNat*size))else none|.idxA len size,[.el d j o,.v (.int _ i)]=>if 0<=i/\i<len/\(bh m d).isSome then some (.el d j (o+i.toNat*size))else none|.lenSl,[.own d]=>match bh m d with
  |some (.sl _ _ xs)=>some (.v (.int .i64 xs.length))|_=>none
 |.clo name k,vs=>some (.clo (N name) (vs.take k) (vs.drop k))|.ext i,[.tup l]=>l[i]?|.build zero pl,vs=>(sL m (zero.map .v) pl vs).map .agg|.field off size agg,[.agg l]=>tN size agg ((l.drop off).take size)|_,_=>none
def jy(N:Nat->Zk)(m:Tb bE)(p:uG)(svs:Zw):aZ SV:=
 match di svs with
 |some u=>(bJ N p u).map .v|none=>wk N m p svs
def Ll(m:Tb bE)(d:Nat):SV->Zl
 |.ptr B _=>B != d&&(match bh m B with|some (.box _)=>true|_=>false)|.v (.fptr _)=>true|_=>false
def mo(m:Tb bE):IL->Zw->aZ SV
 |.load size agg,[.ptr d o]=>match bh m d with
  |some (.box cs)=>tN size agg ((cs.drop o).take size)|_=>none
 |.load size agg,[.el d i o]=>match bh m d with
  |some (.sl _ _ xs)=>match xs[i]?with
   |some cs=>((cut cs o size).bind (mk agg)).map .v|none=>none
  |_=>none
 |.load size agg,[.v p]=>((ec [] p size).bind (mk agg)).map .v|.lookup kk z ok,[.mp d,.v k]=>match bh m d with
  |some (.mp B)=>if pL kk k then match gT k B 0 with
   |some (some (_,v))=>some (.v (if ok then .tup [v,.bool true]else v))|some none=>some (.v (if ok then .tup [z,.bool false]else z))|none=>none
   else none
  |_=>none
 |.lookup kk z ok,[.v p,.v k]=>(dS [] (.lookup kk z ok) [p,k]).map .v|.loadF size agg,.ptr d o::l=>if l.all (Ll m d)=true then match bh m d with
  |some (.box cs)=>tN size agg ((cs.drop o).take size)|_=>none
  else none
 |_,_=>none
def eH(fr:Zv):Zw->Zl
 |[]=>true|.v _::r=>eH fr r|.ptr d _::r=> !(fr.contains d)&&eH fr r|.el d _ _::r=> !(fr.contains d)&&eH fr r|.mp d::r=> !(fr.contains d)&&eH fr r|_=>false
def mI(m:Tb bE)(a:Mx)(svs:Zw)(d:Nat):aZ (bE×SV):=
 match a,svs with
 |.alloc _ zero,[]=>some (.box (zero.map .v),.ptr d 0)|.box,[.v x]=>if x.cells.all V.one then some (.box (x.cells.map .v),.ptr d 0)else none|.box,[.agg l]=>if l.all (vX m)then some (.box l,.ptr d 0)else none|.box,[x]=>if kN m x then some (.box [x],.ptr d 0)else none|.makeSl size zero,[.v (.int k n),.v (.int w c)]=>if k=.i64/\w=.i64/\0<=n/\n<=c/\c<=2147483648 then some (.sl (if n=c then .row else .part) size (replicate n.toNat zero),.own d)else none|.buildSl size len zero idx,z=>match di z with
  |some u=>if idx.length=u.length then(eS size (replicate len zero) (idx.zip u)).map λB=>(.sl .row size B,.own d)else none|none=>none
 |.makeMap,[]=>some (.mp [],.mp d)|_,_=>none
def iS(m:Tb bE)(size:Nat):SV->aZ Zt
 |.own d=>match bh m d with
  |some (.sl k es xs)=>if cD k then(if es=size then some xs else none)else some []|_=>none
 |.v .bG=>some []|.v .dw=>some []|.v (.fsl es xs)=>if es=size then some xs else none|_=>none
def HO:SV->Zl
 |.own _|.v .bG|.v .dw=>true|_=>false
def putCells(m:Tb bE)(size o:Nat)(sv:SV)(cs:Zw):aZ Zw:=
 match sv with
 |.v x=>if x.cells.length=size/\o+size<=cs.length/\x.cells.all V.one=true then some (cs.take o++x.cells.map .v++cs.drop (o+size))else none|.agg l=>if l.length=size/\o+size<=cs.length/\l.all (vX m)=true then some (cs.take o++l++cs.drop (o+size))else none|x=>if kN m x=true/\size=1/\o+1<=cs.length then some (cs.take o++[x]++cs.drop (o+1))else none
def giveUp(m:Tb bE):SV->Tb bE
 |.own d=>eo d m|_=>m
def mw(st:St)(dst:aZ Nat):IJ->Zw->aZ (SV×St)
 |.store size,[.ptr d o,x]=>match bh st.m d with
  |some (.box cs)=>(putCells st.m size o x cs).map λcs=>(.v .undef,{st with m:=bH st.m d (.box cs)})|_=>none
 |.store size,[.el d i o,.v x]=>match bh st.m d with
  |some (.sl k es xs)=>match xs[i]?with
   |some cs=>if x.cells.length=size/\o+size<=cs.length/\x.cells.all V.one=true then
    some (.v .undef,{st with m:=bH st.m d (.sl k es (xs.set i (cs.take o++x.cells++cs.drop (o+x.cells.length))))})else none
   |none=>none
  |_=>none
 |.mapUp kk,[.mp d,.v k,.v x]=>match bh st.m d with
  |some (.mp B)=>if pL kk k then(pE k x B).map λB=>(.v .undef,{st with m:=bH st.m d (.mp B)})else none|_=>none
 |.append size,[s,x]=>match iS st.m size s,iS st.m size x with
  |some _,some []=>match dst with
   |some t=>match s with
    |.own d=>match bh st.m d with
     |some ob=>if St.new {st with m:=eo d st.m} t then some (.own t,{st with m:=bH (eo d st.m) t ob})else none|none=>none
    |.v .bG=>if st.new t then some (.own t,{st with m:=bH st.m t (.sl .nil size [])})else none|.v .dw=>if st.new t then some (.own t,{st with m:=bH st.m t (.sl .emp size [])})else none|_=>none
   |none=>none
  |some xs,some ys=>
   if xs.length+ys.length<=2147483648/\HO s=true then
    let m1:=giveUp st.m s
    match dst with
    |some t=>if St.new {st with m:=m1} t then some (.own t,{st with m:=bH m1 t (.sl .row size (xs++ys))})else none|none=>none
   else none
  |_,_=>none
 |.storeF size,.ptr d o::x::l=>if l.all (Ll st.m d)=true then match bh st.m d with
  |some (.box cs)=>(putCells st.m size o x cs).map λcs=>(.v .undef,{st with m:=bH st.m d (.box cs)})|_=>none
  else none
 |_,_=>none
def zk(st:St)(dst:aZ Nat)(size:Nat)(B G:Zl)(d:Nat)(J:Zw):aZ (SV×St):=
 match bh st.m d,di J,dst with
 |some (.sl k es u),some z,some t=>
  if cD k=true/\es=size then
   (me B G z).bind λ(l,h)=>(dR u.length l h).bind λ(l,h)=>
    let w:=eo d st.m
    if St.new {st with m:=w} t then some (.own t,{st with m:=bH w t (.sl .part es ((u.take h).drop l))})else none
  else none
 |_,_,_=>none
def AL:Zw->SV
 |[x]=>x|l=>.tup l
mutual
def SV.EC:SV->Zv
 |.v _=>[]|.own e=>[e]|.ptr e _=>[e]|.el e _ _=>[e]|.mp e=>[e]|.clo _ a b=>SV.xL a++SV.xL b|.tup l=>SV.xL l|.agg l=>SV.xL l|.yl _=>[]
def SV.xL:Zw->Zv
 |[]=>[]|x::r=>SV.EC x++SV.xL r
end
def bE.EC:bE->Zv
 |.box cs=>SV.xL cs|_=>[]
def reach(m:Tb bE):Nat->Zv->Zv->Zv
 |0,_,seen=>seen|_+1,[],seen=>seen|n+1,d::r,seen=>if seen.contains d then reach m n r seen else reach m n ((match bh m d with|some ob=>bE.EC ob|none=>[])++r) (seen++[d])
def handed(m:Tb bE)(l:Zw):aZ dP:=k_ m (reach m 32 (SV.xL l) [])
mutual
def SV.bare:SV->Zl
 |.v x=>x.scalar|.clo _ a b=>SV.vP a&&SV.vP b|.tup l=>SV.vP l|.agg l=>SV.vP l|_=>true
def SV.vP:Zw->Zl
 |[]=>true|x::r=>SV.bare x&&SV.vP r
end
def bE.bare:bE->Zl
 |.box cs=>SV.vP cs|_=>false
def zU(m:Tb bE)(k:Nat):Zl:=match bh m k with
 |some ob=>ob.bare|none=>true
def within(B:Zv)(ob:bE):Zl:=ob.EC.all B.contains
def yC(B:Zv)(m':dP):Zv->Tb bE->aZ (Tb bE)
 |[],m=>some m|d::r,m=>match bh m' d with
  |some ob=>if within B ob then yC B m' r (bH m d ob)else none|none=>none
def nh(m':dP)(l:Zv)(m:Tb bE):aZ (Tb bE):=yC l m' l m
def og(xs:Zt):Zl:=xs.all λx=>x.all V.scalar
def Bm(q:E6)(dst:aZ Nat)(args:Zw)(st:St):aZ (SV×St):=
 match args with
 |.own d::z=>match bh st.m d,di z with
  |some (.sl k es u),some B=>match q.go es u B with
   |some w=>if q.part then match dst with
    |some t=>if St.new {st with m:=eo d st.m} t then some (.own t,{st with m:=bH (eo d st.m) t (if cD k then .sl .part es w else .sl k es u)})else none|none=>none
    else some (.v .undef,{st with m:=bH st.m d (if cD k then .sl k es w else .sl k es u)})
   |none=>none
  |_,_=>none
 |_=>none
def rowsOf:Zw->aZ Zv
 |[]=>some []|.v _::r=>rowsOf r|.own d::r=>(rowsOf r).map (d::·)|_=>none
def gj(S:Sys)(c:bZ)(dst:aZ Nat)(dr now:Zl)(old:Zw->Zl)(f:Zk)(args:Zw)(st:St):aZ (SV×St):=
 if S.E.keep f then
  if now then
   if S.E.own f then
    match cV st.m 8 args with
    |some az=>
     match c f (az.map .v) []with
     |some (rs,m')=>match di rs with
      |some u=>if(result u).scalar then some (.v (result u),st)else none|none=>match rs,dst with
       |.own e::rest,some t=>match bh m' e,di rest with
        |some (.sl .row es z),some u=>
         if V.cG u&&og z&&st.new t then
          some (AL (.own t::u.map .v),{st with m:=bH st.m t (.sl .row es z)})
         else none
        |some (.sl .nil es _),some u=>if V.cG u&&st.new t then some (AL (.own t::u.map .v),{st with m:=bH st.m t (.sl .nil es [])})else none|some (.sl .emp es _),some u=>if V.cG u&&st.new t then some (AL (.own t::u.map .v),{st with m:=bH st.m t (.sl .emp es [])})else none|_,_=>none
       |_,_=>none
     |none=>none
    |none=>none
   else match S.prm f with
    |some q=>if dr then none else Bm q dst args st|none=>match handed st.m args with
    |some os=>match c f args os with
     |some (rs,m')=>match di rs,nh m' (os.map (·.1)) st.m with
      |some u,some w=>if dr&& !(V.cG u&&os.all λx=>zU w x.1)then none else some (.v (result u),{st with m:=w})|none,some w=>if dr then none else match rs,dst with
       |.own e::rest,some t=>match bh m' e,di rest with
        |some (.sl k es z),some u=>if !(os.map (·.1)).contains e&&St.new {st with m:=w} t then some (AL (.own t::u.map .v),{st with m:=bH w t (.sl k es z)})else none|_,_=>none
       |_,_=>none
      |_,_=>none
     |none=>none
    |none=>none
  else if S.E.own f&&old args then match cV st.m 8 args with
   |some az=>match c f (az.map .v) []with
    |some (rs,m')=>match cV m' 8 rs with
     |some u=>if(result u).scalar||(di args).isSome then some (.v (result u),st)else none|none=>none
    |none=>none
   |none=>none
  else none
 else match cV st.m 8 args with
  |some az=>if now||old args then
   match c f (az.map .v) []with
   |some (rs,m')=>match cV m' 8 rs with
    |some u=>if(result u).scalar||(di args).isSome then some (.v (result u),st)
     else if now then(rowsOf args).map λds=>(.v (result u),{st with m:=o7 ds st.m})
     else none
    |none=>none
   |none=>none
   else none
  |none=>none
def gw(m:Tb bE)(fr:Zv)(args:Zw):Zl:=fr.all λd=> !(SV.dy d args)&& !(rY d m)
def Ar:K->Zl
 |.p (.build zero _)=>V.cr zero|.r (.lookup _ z _)=>z.good|.a (.alloc _ zero)=>V.cr zero&&zero.all V.one|.a (.makeSl _ zero)=>V.cr zero|.a (.buildSl _ _ zero _)=>V.cr zero|_=>true
def lN(S:Sys)(c:bZ)(dr:Zl)(fr:Zv)(o:RO)(st:St):aZ (SV×St):=
 match bV S.N st.g o.az with
 |some u=>match o.k with
  |.p (.slice size z B)=>match u with
   |.own d::C=>if dr then none else zk st o.dst size z B d C|u=>(jy S.N st.m (.slice size z B) u).map λx=>(x,st)
  |.p p=>(jy S.N st.m p u).map λx=>(x,st)|.r r=>if !dr||o.now||eH fr u then(mo st.m r u).map λx=>(x,st)else none|.a a=>match o.dst with
   |some d=>if st.new d then(mI st.m a u d).map λ(ob,x)=>(x,{st with m:=bH st.m d ob})else none|none=>none
  |.l l=>if !dr||o.now then mw st o.dst l u else none|.c=>match u with
   |.clo f a b::w=>gj S c o.dst dr (!dr||o.now) (gw st.m fr) f (a++w++b) st|.v (.clo f a b)::w=>gj S c o.dst dr (!dr||o.now) (gw st.m fr) f (a.map .v++w++b.map .v) st|_=>none
  |.b=>if dr then none else match u with
   |[x]=>(iS st.m 1 x).bind λD=>(kY D).map λl=>(.v (.str (lF l)),st)|_=>none
  |.e n=>match u with
   |[.v .bG,x]=>mw st o.dst (.append n) [.v .bG,x]|[.v .dw,x]=>mw st o.dst (.append n) [.v .dw,x]|_=>none
 |none=>none
def c6(st:St)(dst:aZ Nat)(x:SV):St:=
 match dst with
 |none=>st|some d=>{st with g:=bH st.g d x}
def wanted(g:Tb SV):aZ (Nat×Zl)->aZ Zl
 |none=>some true|some (s,b)=>match bh g s with
  |some (.v (.bool c))=>some (c==b)|some (.v _)=>some false|_=>none
def xY(o:RO):aZ Nat:=
 match o.k with
 |.p _|.r _=>none|_=>o.dst
def qE(fr:Zv)(o:RO):Zv:=
 match xY o with
 |some d=>d::fr|none=>fr
def bq(H:bl)(id:Nat):aZ (Nat×Zt):=(H[id]?).bind Ob.rows
mutual
def V.ku:∀{x:V},x.good=true->x.closed=true
 |.hsl ..,h|.hptr ..,h|.yld _,h|.hmap _,h=>by simp[V.good]at h|.fsl ..,_|.fptr ..,_|.fmap ..,_=>rfl|.bool _,_|.int ..,_|.str _,_|.dw,_|.bG,_|.gW,_|.fV,_|.rB,_=>rfl|.clo _ a b,h=>by simp only[V.good,ζh]at h;simp only[V.closed,ζh];exact⟨V.nu h.1,V.nu h.2⟩|.agg cs,h=>by simp only[V.good]at h;simp only[V.closed];exact V.nu h|.tup cs,h=>by simp only[V.good]at h;simp only[V.closed];exact V.nu h
def V.nu:∀{l:Zu},V.cr l=true->V.gX l=true
 |[],_=>rfl|x::r,h=>by simp only[V.cr,ζh]at h;simp only[V.gX,ζh];exact⟨V.ku h.1,V.nu h.2⟩
end
def gO:∀{l:Zu},V.cr l=true↔∀(j:Nat)u,l[j]?=some u->u.good=true
 |[]=>by simp[V.cr]|x::l=>by simp[V.cr,gO];constructor;grind;intro h;exact⟨h 0 x rfl,λj u a=>h (j+1) u Zd⟩
def kq:∀{l:Zt},V.mS l=true↔∀(j:Nat)u,l[j]?=some u->V.cr u=true
 |[]=>by simp[V.mS]|x::l=>by simp[V.mS,kq];constructor;grind;intro h;exact⟨h 0 x rfl,λj u a=>h (j+1) u Zd⟩
def E7:∀{l:aY (V×V)},V.sF l=true↔∀(j:Nat)u,l[j]?=some u->u.1.good=true/\u.2.good=true
 |[]=>by simp[V.sF]|(k,x)::l=>by simp only[V.sF,ζh,E7];constructor;grind;intro h;exact⟨h 0 (k,x) rfl,λj u a=>h (j+1) u Zd⟩
def xW{l:Zu}(n:Nat)(h:V.cr l=true):V.cr (l.drop n)=true:=gO.2 λj u a=>gO.1 h (n+j) u Zd
inductive FR(H:bl)(Z:Nat->Prop):V->V->Prop
 |same(x:V)(h:x.good=true):FR H Z x x|fsl(es:Nat)(xs:List (List V))(id off:Nat)(ys:List (List V))(hz:Z id)(hr:bq H id=some (es,ys))(hl:off+xs.length<=ys.length)
  (hc:∀(i:Nat)a b,xs[i]?=some a->ys[off+i]?=some b->a.length=b.length)
  (hv:∀(i j:Nat)a b u v,xs[i]?=some a->ys[off+i]?=some b->a[j]?=some u->b[j]?=some v->FR H Z u v):FR H Z (.fsl es xs) (.hsl id es off xs.length)
 |fptr(xs:List V)(id el off es:Nat)(ys:List (List V))(cs:List V)(hz:Z id)(hr:bq H id=some (es,ys))(he:ys[el]?=some cs)(ho:off<=cs.length)(hx:xs.length=cs.length-off)
  (hv:∀(j:Nat)u v,xs[j]?=some u->cs[off+j]?=some v->FR H Z u v):FR H Z (.fptr xs) (.hptr id el off)
 |clo(f:FuncId)(a b a' b':List V)(ha:a.length=a'.length)(hb:b.length=b'.length)(hva:∀(j:Nat)u v,a[j]?=some u->a'[j]?=some v->FR H Z u v)(hvb:∀(j:Nat)u v,b[j]?=some u->b'[j]?=some v->FR H Z u v):FR H Z (.clo f a b) (.clo f a' b')|agg(a a':List V)(ha:a.length=a'.length)(hva:∀(j:Nat)u v,a[j]?=some u->a'[j]?=some v->FR H Z u v):FR H Z (.agg a) (.agg a')|tup(a a':List V)(ha:a.length=a'.length)(hva:∀(j:Nat)u v,a[j]?=some u->a'[j]?=some v->FR H Z u v):FR H Z (.tup a) (.tup a')
def c9(H:bl)(Z:Nat->Prop)(xs ys:Zu):Prop:=xs.length=ys.length/\∀(j:Nat)u v,xs[j]?=some u->ys[j]?=some v->FR H Z u v
def fZ(H:bl)(Z:Nat->Prop)(xs ys:Zt):Prop:=xs.length=ys.length/\∀(j:Nat)u v,xs[j]?=some u->ys[j]?=some v->c9 H Z u v
section
variable{H H':bl}{Z Z':Nat->Prop}
def FR.mono(h:∀id,Z id->Z' id/\bq H' id=bq H id){x y:V}(r:FR H Z x y):FR H' Z' x y:=by induction r with|same x h=>exact .same x h|fsl es B id off C D hr J hc hv G=>exact .fsl es B id off C (h id D).1 Zd J hc G|fptr B id el off es C L D hr O Q S hv G=>exact .fptr B id el off es C L (h id D).1 Zd O Q S G|clo f a b w T z U hva W u I=>exact .clo f a b w T z U u I|agg a w z hva u=>exact .agg a w z u|tup a w z hva u=>exact .tup a w z u
def c9.mono(h:∀id,Z id->Z' id/\bq H' id=bq H id){x y:Zu}(r:c9 H Z x y):c9 H' Z' x y:=⟨r.1,λj u v a b=>(r.2 j u v a b).mono h⟩
def fZ.mono(h:∀id,Z id->Z' id/\bq H' id=bq H id){x y:Zt}(r:fZ H Z x y):fZ H' Z' x y:=⟨r.1,λj u v a b=>(r.2 j u v a b).mono h⟩
def c9.nil:c9 H Z [] []:=⟨rfl,Zc⟩
def c9.cons{x y:V}{xs ys:Zu}(h:FR H Z x y)(r:c9 H Z xs ys):c9 H Z (x::xs) (y::ys):=by refine⟨by simp[r.1],λj u v a b=>?_⟩;cases j with|zero=>grind|succ j=>exact r.2 j u v Zd Zd
def c9.inv{x:V}{xs B:Zu}(r:c9 H Z (x::xs) B):∃y ys,B=y::ys/\FR H Z x y/\c9 H Z xs ys:=by cases B with|nil=>have:=r.1;grind|cons y ys=>refine⟨y,ys,rfl,r.2 0 x y rfl rfl,by have:=r.1;grind,λj u v a b=>r.2 (j+1) u v Zd Zd⟩
def c9.cQ{B:Zu}(r:c9 H Z [] B):B=[]:=by have:=r.1;grind
theorem c9.get{xs ys:Zu}(r:c9 H Z xs ys){j:Nat}{u:V}(h:xs[j]?=some u):∃v,ys[j]?=some v/\FR H Z u v:=by
 have w:=(ζe.1 h).1;have:j<ys.length:=by rw[<-r.1];omega
 exact⟨ys[j],ζd this,r.2 j u _ h (ζd this)⟩
theorem fZ.get{xs ys:Zt}(r:fZ H Z xs ys){j:Nat}{u:Zu}(h:xs[j]?=some u):∃v,ys[j]?=some v/\c9 H Z u v:=by
 have w:=(ζe.1 h).1;have:j<ys.length:=by rw[<-r.1];omega
 exact⟨ys[j],ζd this,r.2 j u _ h (ζd this)⟩
def c9.append{a b c d:Zu}(h:c9 H Z a b)(k:c9 H Z c d):c9 H Z (a++c) (b++d):=by refine⟨by simp[h.1,k.1],λj u v e f=>?_⟩;by_cases w:j<a.length;rw[getElem?_append_left w]at e;rw[getElem?_append_left (by rw[<-h.1];omega)]at f;exact h.2 j u v e f;rw[getElem?_append_right Za]at e;rw[getElem?_append_right (by rw[<-h.1];omega),<-h.1]at f;exact k.2 _ u v e f
def fZ.append{a b c d:Zt}(h:fZ H Z a b)(k:fZ H Z c d):fZ H Z (a++c) (b++d):=by refine⟨by simp[h.1,k.1],λj u v e f=>?_⟩;by_cases w:j<a.length;rw[getElem?_append_left w]at e;rw[getElem?_append_left (by rw[<-h.1];omega)]at f;exact h.2 j u v e f;rw[getElem?_append_right Za]at e;rw[getElem?_append_right (by rw[<-h.1];omega),<-h.1]at f;exact k.2 _ u v e f
def c9.take{a b:Zu}(h:c9 H Z a b)(n:Nat):c9 H Z (a.take n) (b.take n):=by
 refine⟨by simp[h.1],λj u v c d=>?_⟩;rw[getElem?_take]at c d;split at c;next w=>rw[if_pos w]at d;exact h.2 j u v c d
 grind
def c9.drop{a b:Zu}(h:c9 H Z a b)(n:Nat):c9 H Z (a.drop n) (b.drop n):=by refine⟨by simp[h.1],λj u v c d=>?_⟩;rw[getElem?_drop]at c d;exact h.2 _ u v c d
def fZ.take{a b:Zt}(h:fZ H Z a b)(n:Nat):fZ H Z (a.take n) (b.take n):=by
 refine⟨by simp[h.1],λj u v c d=>?_⟩;rw[getElem?_take]at c d;split at c;next w=>rw[if_pos w]at d;exact h.2 j u v c d
 grind
def fZ.drop{a b:Zt}(h:fZ H Z a b)(n:Nat):fZ H Z (a.drop n) (b.drop n):=by refine⟨by simp[h.1],λj u v c d=>?_⟩;rw[getElem?_drop]at c d;exact h.2 _ u v c d
theorem c9.set{a b:Zu}(h:c9 H Z a b)(n:Nat){x y:V}(B:FR H Z x y):c9 H Z (a.set n x) (b.set n y):=by refine⟨by simp[h.1],λj u v c d=>?_⟩;rw[getElem?_set]at c d;split at c;grind;rename_i e;rw[if_neg e]at d;exact h.2 j u v c d
theorem fZ.set{a b:Zt}(h:fZ H Z a b)(n:Nat){x y:Zu}(B:c9 H Z x y):fZ H Z (a.set n x) (b.set n y):=by refine⟨by simp[h.1],λj u v c d=>?_⟩;rw[getElem?_set]at c d;split at c;grind;rename_i e;rw[if_neg e]at d;exact h.2 j u v c d
def c9.same{l:Zu}(h:V.cr l=true):c9 H Z l l:=⟨rfl,λj u v a b=>by rw[a]at b;cases b;exact .same u (gO.1 h j u a)⟩
def FR.good{x y:V}(r:FR H Z x y):x.good=true:=by induction r with|same x h=>omega|fsl es C id off D G hr O hc hv I=>refine kq.2 λi a z=>gO.2 λj u c=>?_;grind|fptr C id el off es D Q G hr S T U hv I=>refine gO.2 λj u c=>?_;grind|clo f a b B W z X hva J w L=>simp[V.good];refine⟨gO.2 λj u c=>?_,gO.2 λj u c=>?_⟩;grind;grind|agg a B z hva w=>refine gO.2 λj u c=>?_;grind|tup a B z hva w=>simp[V.good];refine gO.2 λj u c=>?_;grind
def FR.closed{x y:V}(r:FR H Z x y):x.closed=true:=V.ku r.good
def c9.good{xs ys:Zu}(r:c9 H Z xs ys):V.cr xs=true:=gO.2 λj u a=>by have⟨v,_,h⟩:=r.get a;exact h.good
def fZ.good{xs ys:Zt}(r:fZ H Z xs ys):V.mS xs=true:=kq.2 λj u a=>by have⟨v,_,h⟩:=r.get a;exact h.good
def FR.bool{b:Zl}{y:V}(r:FR H Z (.bool b) y):y=.bool b:=by cases r;rfl
def FR.int{k:Zs}{n:Int}{y:V}(r:FR H Z (.int k n) y):y=.int k n:=by cases r;rfl
def FR.str{s:Zq}{y:V}(r:FR H Z (.str s) y):y=.str s:=by cases r;rfl
def FR.dw{y:V}(r:FR H Z .dw y):y=.dw:=by cases r;rfl
def FR.bG{y:V}(r:FR H Z .bG y):y=.bG:=by cases r;rfl
def FR.gW{y:V}(r:FR H Z .gW y):y=.gW:=by cases r;rfl
def FR.fV{y:V}(r:FR H Z .fV y):y=.fV:=by cases r;rfl
def FR.rB{y:V}(r:FR H Z .rB y):y=.rB:=by cases r;rfl
def FR.fmap{B:aY (V×V)}{y:V}(r:FR H Z (.fmap B) y):y=.fmap B:=by cases r;rfl
def FR.iC{a:Zu}{y:V}(r:FR H Z (.agg a) y):∃a',y=.agg a'/\c9 H Z a a':=by cases r with|same _ h=>exact⟨a,rfl,.same (by simpa[V.good]using h)⟩|agg _ a' u hva=>exact⟨a',rfl,u,hva⟩
def FR.qg{a:Zu}{y:V}(r:FR H Z (.tup a) y):∃a',y=.tup a'/\c9 H Z a a':=by cases r with|same _ h=>exact⟨a,rfl,.same (by simpa[V.good]using h)⟩|tup _ a' u hva=>exact⟨a',rfl,u,hva⟩
def FR.jQ{f:Zk}{a b:Zu}{y:V}(r:FR H Z (.clo f a b) y):∃a' B,y=.clo f a' B/\c9 H Z a a'/\c9 H Z b B:=by cases r with|same _ h=>simp[V.good]at h;exact⟨a,b,rfl,.same h.1,.same h.2⟩|clo _ _ _ a' B w z hva u=>exact⟨a',B,rfl,⟨w,hva⟩,⟨z,u⟩⟩
def FR.lX{es:Nat}{xs:Zt}{y:V}(r:FR H Z (.fsl es xs) y):y=.fsl es xs\/
 ∃id off ys,y=.hsl id es off xs.length/\Z id/\bq H id=some (es,ys)/\off+xs.length<=ys.length/\fZ H Z xs ((ys.drop off).take xs.length):=by
 cases r with
 |same _ h=>grind|fsl _ _ id off ys z hr B hc hv=>
  refine .inr ⟨id,off,ys,rfl,z,hr,B,by simp;omega,λj u v a w=>?_⟩
  have C:=(ζe.1 a).1;rw[getElem?_take,if_pos C,getElem?_drop]at w;exact⟨hc j u v a w,λi s t D G=>hv j i u v s t a w D G⟩
def FR.K2{es:Nat}{xs:Zt}{id off:Nat}{ys:Zt}(B:Z id)(c:bq H id=some (es,ys))(G:off+xs.length<=ys.length)(h:fZ H Z xs ((ys.drop off).take xs.length)):
 FR H Z (.fsl es xs) (.hsl id es off xs.length):=by
 have key:∀(i:Nat)a b,xs[i]?=some a->ys[off+i]?=some b->c9 H Z a b:=λi a b w z=>by refine h.2 i a b w ?_;grind
 exact .fsl es xs id off ys B c G (λi a b w z=>(key i a b w z).1) (λi j a b u v w z d e=>(key i a b w z).2 j u v d e)
def FR.l8{xs:Zu}{y:V}(r:FR H Z (.fptr xs) y):y=.fptr xs\/
 ∃id el off es ys cs,y=.hptr id el off/\Z id/\bq H id=some (es,ys)/\ys[el]?=some cs/\off<=cs.length/\c9 H Z xs (cs.drop off):=by
 cases r with
 |same _ h=>grind|fptr _ id el off es ys cs w hr z B D hv=>
  refine .inr ⟨id,el,off,es,ys,cs,rfl,w,hr,z,B,Ze,λj u v a C=>?_⟩
  grind
def FR.Cc{xs:Zu}{id el off es:Nat}{ys:Zt}{cs:Zu}(B:Z id)(a:bq H id=some (es,ys))(G:ys[el]?=some cs)(J:off<=cs.length)(h:c9 H Z xs (cs.drop off)):FR H Z (.fptr xs) (.hptr id el off):=.fptr xs id el off es ys cs B a G J (by have:=h.1;grind) (λj u v b c=>h.2 j u v b Zd)
def FR.cells{x y:V}(r:FR H Z x y):c9 H Z x.cells y.cells:=by
 have one:∀{a b:V},FR H Z a b->c9 H Z [a] [b]:=λh=>.cons h .nil
 cases r with
 |same _ h=>cases x<;>first|exact one (.same _ h)|(exact c9.same h)
 |fsl es z id off B C hr G hc hv=>exact one (.fsl es z id off B C hr G hc hv)|fptr z id el off es B I C hr J L O hv=>exact one (.fptr z id el off es B I C hr J L O hv)|clo f a b w Q u S hva D=>exact one (.clo f a b w Q u S hva D)|agg a w u hva=>exact⟨u,hva⟩|tup a w u hva=>exact one (.tup a w u hva)
def FR.one{x y:V}(r:FR H Z x y):y.one=x.one:=by cases r<;>rfl
def c9.one:∀{xs ys:Zu},c9 H Z xs ys->ys.all V.one=xs.all V.one
 |[],ys,r=>by rw[r.cQ]|x::xs,G,r=>by obtain⟨y,ys,rfl,h,B⟩:=r.inv;simp[h.one,B.one]
def qv:∀{l:Zu},V.cG l=true↔∀(j:Nat)u,l[j]?=some u->u.scalar=true
 |[]=>by simp[V.cG]|x::l=>by simp[V.cG,qv];constructor;grind;intro h;exact⟨h 0 x rfl,λj u a=>h (j+1) u Zd⟩
def FR.scalar{x y:V}(r:FR H Z x y):(x.scalar=true->y=x)/\y.scalar=x.scalar:=by
 have key:∀(a w:Zu),a.length=w.length->(∀(j:Nat)u v,a[j]?=some u->w[j]?=some v->(u.scalar=true->v=u)/\v.scalar=u.scalar)->(V.cG a=true->w=a)/\V.cG w=V.cG a:=by intro a w B G;have b:V.cG a=true->w=a:=(by intro I;refine(List.ext_getElem B λj b C=>?_).symm;exact(((G j _ _ (ζd b) (ζd C)).1 (qv.1 I j _ (ζd b)))).symm);refine⟨b,?_⟩;cases I:V.cG a with|true=>grind|false=>cases D:V.cG w with|false=>rfl|true=>have:V.cG a=true:=qv.2 λj u c=>(by have J:j<w.length:=Zd;have:=(G j u _ c (ζd J)).2;rw[<-this];exact qv.1 D j _ (ζd J));grind
 induction r with|same x h=>grind|fsl=>exact⟨λh=>by simp[V.scalar]at h,rfl⟩|fptr=>exact⟨λh=>by simp[V.scalar]at h,rfl⟩|clo=>exact⟨λh=>by simp[V.scalar]at h,rfl⟩|agg a w B hva z=>have⟨b,C⟩:=key a w B z;exact⟨λh=>by rw[b (by simpa[V.scalar]using h)],by simpa[V.scalar]using C⟩|tup a w B hva z=>have⟨b,C⟩:=key a w B z;exact⟨λh=>by rw[b (by simpa[V.scalar]using h)],by simpa[V.scalar]using C⟩
def c9.scalar{a a':Zu}(r:c9 H Z a a'):(V.cG a=true->a'=a)/\V.cG a'=V.cG a:=by have⟨b,u⟩:=FR.scalar (.tup a a' r.1 r.2);simp[V.scalar]at b u;grind
def qG:∀{l:Zu}{a:Zx},hG l=some a->V.cG l=true
 |[],_,_=>rfl|x::l,a,h=>by unfold hG at h;split at h;grind;(next n r e=>cases e;have⟨b,B,_⟩:=ζf.1 h;simp[V.cG,V.scalar];exact qG B);grind
end
mutual
def jH:∀{x:V},x.scalar=true->x.good=true
 |.bool _,_|.int ..,_|.str _,_|.gW,_|.fV,_|.rB,_|.dw,_|.bG,_=>rfl|.agg cs,h=>by simp only[V.scalar]at h;simp only[V.good];exact pS h|.tup cs,h=>by simp only[V.scalar]at h;simp only[V.good];exact pS h|.fsl ..,h|.hsl ..,h|.fptr ..,h|.hptr ..,h|.clo ..,h|.yld _,h|.fmap _,h|.hmap _,h=>by simp[V.scalar]at h
def pS:∀{l:Zu},V.cG l=true->V.cr l=true
 |[],_=>rfl|x::r,h=>by simp only[V.cG,ζh]at h;simp only[V.cr,ζh];exact⟨jH h.1,pS h.2⟩
end
section
variable{H H':bl}{Z Z':Nat->Prop}
def j7{f:V->aZ V}:∀{xs ys:Zu},xs.length=ys.length->(∀(j:Nat)u v,xs[j]?=some u->ys[j]?=some v->f v=some u)->gV f ys=some xs
 |[],[],_,_=>rfl|[],y::ys,h,_=>Ze|x::xs,[],h,_=>Ze|x::xs,y::ys,h,B=>by simp[gV,B 0 x y rfl rfl,j7 (xs:=xs) (ys:=ys) Zd λj u v a b=>B (j+1) u v Zd Zd]
def Hw{f:V->aZ V}:∀{xs ys:Zt},xs.length=ys.length->(∀(j:Nat)u v,xs[j]?=some u->ys[j]?=some v->gV f v=some u)->lz f ys=some xs
 |[],[],_,_=>rfl|[],y::ys,h,_=>Ze|x::xs,[],h,_=>Ze|x::xs,y::ys,h,B=>by simp[lz,B 0 x y rfl rfl,Hw (xs:=xs) (ys:=ys) Zd λj u v a b=>B (j+1) u v Zd Zd]
def oI:∀{l:Zu},V.gX l=true↔∀(j:Nat)u,l[j]?=some u->u.closed=true
 |[]=>by simp[V.gX]|x::l=>by simp[V.gX,oI];constructor;grind;intro h;exact⟨h 0 x rfl,λj u a=>h (j+1) u Zd⟩
def mb:∀{l:Zu}{n:Nat},V.kW n l=true↔∀(j:Nat)u,l[j]?=some u->u.lvl n=true
 |[],n=>by simp[V.kW]|x::l,n=>by simp[V.kW,mb];constructor;grind;intro h;exact⟨h 0 x rfl,λj u a=>h (j+1) u Zd⟩
def Ee:∀{l:Zt}{n:Nat},V.oT n l=true↔∀(j:Nat)u,l[j]?=some u->V.kW n u=true
 |[],n=>by simp[V.oT]|x::l,n=>by simp[V.oT,Ee];constructor;grind;intro h;exact⟨h 0 x rfl,λj u a=>h (j+1) u Zd⟩
def ez(n:Nat)(H:bl){x:V}(h:x.closed=true):borrow n H x=some x:=jb n H h
def FR.borrow{x y:V}(r:FR H Z x y):∀n,x.lvl n=true->borrow n H y=some x:=by
 induction r with
 |same x h=>exactλn _=>ez n H (V.ku h)|fsl es J id off U W hr X hc d L=>intro n z;cases n with|zero=>simp[V.lvl]at z|succ n=>unfold Go.VE.borrow;unfold bq at hr;simp only[V.closed,false_eq_true,if_false,hr,true_and,if_pos X,ζf];refine⟨J,Hw (by simp;omega) λj u v c B=>?_,rfl⟩;have Y:=(ζe.1 c).1;rw[getElem?_take,if_pos Y,getElem?_drop]at B;refine j7 (hc j u v c B) λi s t Q e=>L j i u v s t c B Q e n (mb.1 (Ee.1 z j u c) i s Q)
 |fptr J id el off es U cs W hr he ho hx d L=>intro n z;cases n with|zero=>simp[V.lvl]at z|succ n=>unfold Go.VE.borrow;unfold bq at hr;simp only[V.closed,false_eq_true,if_false,hr,he,if_pos ho,ζf];refine⟨J,j7 Ze λj u v c B=>?_,rfl⟩;rw[getElem?_drop]at B;exact L j u v c B n (mb.1 z j u c)
 |clo f a b D S G T hva aa C I=>intro n z;cases n with|zero=>simp[V.lvl]at z|succ n=>simp[V.lvl]at z;by_cases w:(V.clo f D S).closed=true;rw[ez _ _ w];simp[V.closed]at w;have e1:D=a:=(by have:=j7 G λj u v c d=>C j u v c d n (mb.1 z.1 j u c);have O:=j7 rfl λj u v c d=>(by rw[c]at d;cases d;exact ez n H (oI.1 w.1 j u c));grind);have e2:S=b:=(by have:=j7 T λj u v c d=>I j u v c d n (mb.1 z.2 j u c);have O:=j7 rfl λj u v c d=>(by rw[c]at d;cases d;exact ez n H (oI.1 w.2 j u c));grind);simp_all;unfold Go.VE.borrow;rw[if_neg w];simp[j7 G λj u v c d=>C j u v c d n (mb.1 z.1 j u c),j7 T λj u v c d=>I j u v c d n (mb.1 z.2 j u c)]
 |agg a D G hva C=>intro n z;cases n with|zero=>simp[V.lvl]at z|succ n=>have g:=j7 G λj u v c d=>C j u v c d n (mb.1 z j u c);by_cases w:(V.agg D).closed=true;rw[ez _ _ w];have O:=j7 rfl λj u v c d=>(by rw[c]at d;cases d;exact ez n H (oI.1 w j u c));grind;unfold Go.VE.borrow;grind
 |tup a D G hva C=>intro n z;cases n with|zero=>simp[V.lvl]at z|succ n=>have g:=j7 G λj u v c d=>C j u v c d n (mb.1 z j u c);by_cases w:(V.tup D).closed=true;rw[ez _ _ w];have O:=j7 rfl λj u v c d=>(by rw[c]at d;cases d;exact ez n H (oI.1 w j u c));grind;unfold Go.VE.borrow;grind
def pV{f:V->Zv}{k:Nat}:∀{l:Zu},k∈cN f l->∃(j:Nat)(u:V),l[j]?=some u/\k∈f u
 |[],h=>by simp[cN]at h|x::l,h=>by simp[cN]at h;rcases h with h|h;exact⟨0,x,rfl,h⟩;have⟨j,u,b,a⟩:=pV h;exact⟨j+1,u,Zd,a⟩
structure Deep(H:bl)(Z:Nat->Prop):Prop where
 row:∀id es ys,Z id->bq H id=some (es,ys)->∀c∈ys,∀u∈c,∃x,FR H Z x u
def FR.b8(J:Deep H Z):∀(n:Nat){x y:V},FR H Z x y->∀k∈b8 n H y,Z k
 |0,x,y,r,k,d=>by simp[Go.VE.b8]at d|n+1,x,y,r,k,d=>by
  unfold Go.VE.b8 at d;split at d;simp_all;rename_i O;have G:∀(a a':Zu),c9 H Z a a'->k∈cN (Go.VE.b8 n H) a'->Z k:=λa a' h d=>by have⟨j,u,e,z⟩:=pV d;have T:j<a.length:=(by rw[h.1];grind);exact FR.b8 J n (h.2 j _ u (ζd T) e) k z
  have row:∀(id:Nat)es w(l:Zu),Z id->bq H id=some (es,w)->(∀u∈l,∃c∈w,u∈c)->k∈cN (Go.VE.b8 n H) l->Z k:=λid es w l B hr L d=>by have⟨j,u,e,z⟩:=pV d;have⟨c,hc,C⟩:=L u (mem_of_getElem? e);have⟨x,Q⟩:=J.row id es w B hr c hc u C;exact FR.b8 J n Q k z
  cases r with
  |same _ h=>exact absurd (V.ku h) O|fsl es U id off w B hr L hc hv=>simp only[mem_cons]at d;rcases d with rfl|d;exact B;rw[show(H[id]?).bind Ob.rows=some (es,w)from hr]at d;exact row id es w _ B hr (λu e=>by have⟨c,hc,C⟩:=List.mem_flatten.1 e;exact⟨c,mem_of_mem_drop (List.mem_of_mem_take hc),C⟩) d
  |fptr U id el off es w W B hr S ho Q hv=>simp only[mem_cons]at d;rcases d with rfl|d;exact B;rw[show(H[id]?).bind Ob.rows=some (es,w)from hr]at d;simp only[S,Option.getD_some]at d;exact row id es w _ B hr (λu e=>⟨W,mem_of_getElem? S,mem_of_mem_drop e⟩) d
  |clo f a b a' X D Y hva I=>simp at d;rcases d with d|d;exact G a a' ⟨D,hva⟩ d;exact G b X ⟨Y,I⟩ d
  |agg a a' D hva=>exact G a a' ⟨D,hva⟩ d|tup a a' D hva=>exact G a a' ⟨D,hva⟩ d
def c9.cut{cs ys r:Zu}{off n:Nat}(h:c9 H Z cs ys)(hc:cut cs off n=some r):∃B,Go.VE.cut ys off n=some B/\c9 H Z r B:=by unfold Go.VE.cut at hc⊢;have u:=(h.drop off).take n;dsimp only at hc⊢;split at hc;simp at hc;subst hc;exact⟨_,by rw[if_pos (by rw[<-u.1];omega)],u⟩;grind
def c9.mk{agg:Zl}{cs ys:Zu}{x:V}(h:c9 H Z cs ys)(B:mk agg cs=some x):∃y,Go.VE.mk agg ys=some y/\FR H Z x y:=by unfold Go.VE.mk at B⊢;split at B;simp at B;subst B;exact⟨_,Zd,.agg _ _ h.1 h.2⟩;split at B;simp at B;obtain⟨y,ys,rfl,a,u⟩:=h.inv;rw[u.cQ];grind;grind
def c9.fill:∀{pl:aY (Nat×Nat)}{vs B cells cells' r:Zu},c9 H Z cells cells'->c9 H Z vs B->kn cells pl vs=some r->∃G,kn cells' pl B=some G/\c9 H Z r G
 |[],vs,B,cells,cells',r,hc,hv,h=>by cases vs with|nil=>rw[hv.cQ];simp[kn]at h⊢;grind|cons v vs=>simp[kn]at h
 |(off,size)::pl,vs,B,cells,cells',r,hc,hv,h=>by cases vs with|nil=>simp[kn]at h|cons v vs=>obtain⟨w,B,rfl,a,J⟩:=hv.inv;have k:=a.cells;simp only[kn]at h⊢;rw[<-k.1,<-hc.1];split at h;simp_all;rename_i e;rw[if_neg e];exact c9.fill (((hc.take off).append k).append (hc.drop _)) J h
def FR.uo{k:KT}{x y J O:V}{b:Zl}(B:FR H Z x J)(G:FR H Z y O)(h:oO k x y=some b):oO k J O=some b:=by unfold oO at h;split at h;rw[B.bG,G.bG];exact h;rw[G.bG];rcases B.lX with rfl|⟨_,_,_,rfl,_⟩<;>exact h;exact absurd B.closed (by simp[V.closed]);rw[B.gW,G.gW];exact h;rw[G.gW];rcases B.l8 with rfl|⟨_,_,_,_,_,_,rfl,_⟩<;>exact h;exact absurd B.closed (by simp[V.closed]);rw[B.fV,G.fV];exact h;rw[G.fV,B.fmap];exact h;exact absurd B.closed (by simp[V.closed]);grind
def FR.kH{a b a' B:Zu}{r:Zl}(G:c9 H Z a a')(J:c9 H Z b B)(h:kH a b=some r):Go.VE.kH a' B=some r:=by unfold Go.VE.kH at h;split at h;rename_i u v c d;rw[G.scalar.1 (qG c),J.scalar.1 (qG d)];unfold Go.VE.kH;grind;grind
def zS{k:KT}{x y:V}{b:Zl}(h:oO k x y=some b):(y=.bG/\(x=.bG\/(∃es xs,x=.fsl es xs)\/∃id es off len,x=.hsl id es off len))\/
 (y=.gW/\(x=.gW\/(∃cs,x=.fptr cs)\/∃id el off,x=.hptr id el off))\/(y=.fV/\(x=.fV\/(∃B,x=.fmap B)\/∃id,x=.hmap id)):=by
 unfold oO at h
 grind
def Hz{k:aZ KT}{e:aZ Nat}{op:BinOp}{x y:V}(G:(y=.bG/\(x=.bG\/(∃es xs,x=.fsl es xs)\/∃id es off len,x=.hsl id es off len))\/
 (y=.gW/\(x=.gW\/(∃cs,x=.fptr cs)\/∃id el off,x=.hptr id el off))\/(y=.fV/\(x=.fV\/(∃B,x=.fmap B)\/∃id,x=.hmap id))):
 lg k e op x y=(match k,op with
 |some k,.eql=>(oO k x y).map .bool|some k,.neq=>(oO k x y).map λt=>.bool !t|_,_=>none):=by
 rcases G with⟨rfl,rfl|⟨_,_,rfl⟩|⟨_,_,_,_,rfl⟩⟩|⟨rfl,rfl|⟨_,rfl⟩|⟨_,_,_,rfl⟩⟩|⟨rfl,rfl|⟨_,rfl⟩|⟨_,rfl⟩⟩<;>cases k<;>cases op<;>rfl
def Im{k:aZ KT}{e:aZ Nat}{op:BinOp}{x y z:V}(h:lg k e op x y=some z):z.good=true:=by
 have w:∀{o:aZ Zl}{z:V},o.map V.bool=some z->z.good=true:=λh=>by obtain⟨_,_,rfl⟩:=ζf.1 h;rfl
 have u:∀{o:aZ Zl}{z:V},(o.map λt=>V.bool !t)=some z->z.good=true:=λh=>by obtain⟨_,_,rfl⟩:=ζf.1 h;rfl
 unfold lg at h;(repeat' split at h)<;>first|(simp at h;subst h;rfl)|exact w h|exact u h|simp at h
def FR.bin{k:aZ KT}{e:aZ Nat}{op:BinOp}{x y J O z:V}(B:FR H Z x J)(G:FR H Z y O)(h:lg k e op x y=some z):lg k e op J O=some z:=by
 have b:=h;unfold lg at h;split at h;rw[B.int,G.int];omega;rw[B.str,G.str];omega;rw[B.bool,G.bool];omega;obtain⟨I,rfl,w⟩:=B.iC;obtain⟨L,rfl,D⟩:=G.iC;split at h;split at h;next C=>obtain⟨r,a,rfl⟩:=ζf.1 h;simp[lg,<-w.1,C,FR.kH w D a]
 grind;split at h;next C=>obtain⟨r,a,rfl⟩:=ζf.1 h;simp[lg,<-w.1,C,FR.kH w D a]
 grind;grind;split at h;obtain⟨r,a,rfl⟩:=ζf.1 h;have u:=FR.uo B G a;rw[Hz (zS u)];grind;obtain⟨r,a,rfl⟩:=ζf.1 h;have u:=FR.uo B G a;rw[Hz (zS u)];grind;grind
def FR.slice{size:Nat}{x O z:V}{l h:Z6}(J:FR H Z x O)(G:g_ size x l h=some z):∃U,g_ size O l h=some U/\FR H Z z U:=by
 have I:∀{n w B:Nat},dR n l h=some (w,B)->B<=n/\w<=B:=by intro n w B e;unfold dR at e;grind
 unfold g_ at G;split at G;rename_i es L;split at G;rename_i Q;obtain⟨⟨w,B⟩,C,rfl⟩:=ζf.1 G;have⟨T,Y⟩:=I C;rcases J.lX with rfl|⟨id,off,S,rfl,W,hr,hl,X⟩;refine⟨_,by simp[g_,if_pos Q,C],.same _ ?_⟩;have b:=J.good;refine kq.2 λj u a=>?_;rw[getElem?_drop,getElem?_take]at a;split at a;exact kq.1 b _ u a;grind;refine⟨.hsl id es (off+w) (B-w),by simp[g_,if_pos Q,C],?_⟩;have D:((L.take B).drop w).length=B-w:=Ze;rw[<-D];refine FR.K2 W hr Zd ?_;have:=(X.take B).drop w;have e:List.drop w (take B (take L.length (List.drop off S)))=take (B-w) (List.drop (off+w) S):=by rw[List.take_take,Nat.min_eq_left T,List.drop_take,drop_drop]
 grind;grind;exact absurd J.closed (by simp[V.closed]);rw[J.dw];obtain⟨_,C,rfl⟩:=ζf.1 G;exact⟨.dw,by simp[g_,C],.same _ rfl⟩;rw[J.bG];obtain⟨_,C,rfl⟩:=ζf.1 G;exact⟨.bG,by simp[g_,C],.same _ rfl⟩;grind
def c9.me{J O:Zl}{U G:Zu}{r:Z6×Z6}(h:c9 H Z U G)(B:me J O U=some r):Go.VE.me J O G=some r:=by unfold Go.VE.me at B;split at B;rw[h.cQ];exact B;obtain⟨_,_,rfl,a,u⟩:=h.inv;rw[a.int,u.cQ];exact B;obtain⟨_,_,rfl,a,u⟩:=h.inv;rw[a.int,u.cQ];exact B;obtain⟨_,_,rfl,a,u⟩:=h.inv;obtain⟨_,_,rfl,w,z⟩:=u.inv;rw[a.int,w.int,z.cQ];exact B;grind
def c9.bJ{N:Nat->Zk}{p:uG}{xs ys:Zu}{z:V}(Y:∀zero pl,p=.build zero pl->V.cr zero=true)(h:c9 H Z xs ys)(B:bJ N p xs=some z):∃O,Go.VE.bJ N p ys=some O/\FR H Z z O:=by
 unfold Go.VE.bJ at B;split at B;obtain⟨y,_,rfl,f,w⟩:=h.inv;rw[w.cQ];simp only[ζa]at B;subst B;exact⟨y,rfl,f⟩;rename_i t a b;obtain⟨w1,_,rfl,f,w⟩:=h.inv;obtain⟨w2,_,rfl,C,D⟩:=w.inv;obtain⟨w3,_,rfl,U,W⟩:=D.inv;rw[f.bool,W.cQ];simp only[ζa]at B;subst B;refine⟨if t=true then w2 else w3,rfl,?_⟩;cases t;exact U;exact C;obtain⟨y,_,rfl,f,w⟩:=h.inv;rw[w.cQ];unfold Ke at B;split at B;exact absurd f.closed (by simp[V.closed]);simp only[ζa]at B;subst B;rcases f.l8 with rfl|⟨_,_,_,_,_,_,rfl,_⟩;exact⟨_,rfl,f⟩;exact⟨_,rfl,f⟩;simp only[ζa]at B;subst B;obtain⟨_,_,rfl,_⟩:=f.jQ;exact⟨_,rfl,f⟩;simp at B;obtain⟨_,_,rfl,f,w⟩:=h.inv;obtain⟨_,_,rfl,C,D⟩:=w.inv;rw[D.cQ];exact⟨z,FR.bin f C B,.same _ (Im B)⟩;obtain⟨_,_,rfl,f,w⟩:=h.inv;rw[f.bool,w.cQ];simp only[ζa]at B;subst B;exact⟨_,rfl,.same _ rfl⟩;obtain⟨_,_,rfl,f,w⟩:=h.inv;rw[f.int,w.cQ];simp only[ζa]at B;subst B;exact⟨_,rfl,.same _ rfl⟩;obtain⟨_,_,rfl,f,w⟩:=h.inv;rw[f.int,w.cQ];simp only[ζa]at B;subst B;exact⟨_,rfl,.same _ rfl⟩;rename_i off p;obtain⟨y,_,rfl,f,w⟩:=h.inv;rw[w.cQ];unfold lq at B;split at B;split at B;rename_i cs q;simp only[ζa]at B;subst B;rcases f.l8 with rfl|⟨id,el,o,es,ys,ds,rfl,X,g,T,aa,S⟩;have m:=f.good;simp only[V.good]at m;exact⟨_,by simp only[Go.VE.bJ,lq,if_pos q],.same _ (by simp only[V.good];exact xW _ m)⟩;refine⟨.hptr id el (o+off),rfl,FR.Cc X g T (by have:=S.1;simp at this;omega) ?_⟩;have:=S.drop off;rw[drop_drop]at this;exact this;simp at B;exact absurd f.closed (by simp[V.closed]);simp at B;rename_i off size agg cs;obtain⟨y,_,rfl,f,w⟩:=h.inv;rw[w.cQ];obtain⟨ab,rfl,hc⟩:=f.iC;have⟨r,g,x⟩:=ζg.1 B;have⟨A,L,J⟩:=hc.cut g;have⟨O,G,I⟩:=J.mk x;exact⟨O,by simp only[Go.VE.bJ,L,ζb,G],I⟩;rename_i size s k n;obtain⟨y,_,rfl,f,w⟩:=h.inv;obtain⟨_,_,rfl,C,D⟩:=w.inv;rw[C.int,D.cQ];unfold lu at B;split at B;simp at B;rename_i Q;split at B;rename_i es xs;split at B;rename_i T;obtain⟨c,hc,rfl⟩:=ζf.1 B;rcases f.lX with rfl|⟨id,off,ys,rfl,X,g,hl,S⟩;have m:=f.good;simp only[V.good]at m;exact⟨_,by simp only[Go.VE.bJ,lu,if_neg Q,if_pos T,hc,map_some],.same _ (by simp only[V.good];exact kq.1 m _ _ hc)⟩;have P:n.toNat<xs.length:=(ζe.1 hc).1;have⟨d,R,ad⟩:=S.get hc;rw[getElem?_take,if_pos P,getElem?_drop]at R;exact⟨.hptr id (off+n.toNat) 0,by simp only[Go.VE.bJ,lu,if_neg Q,if_pos (And.intro T P)],FR.Cc X g R Zc (by simpa using ad)⟩;simp at B;exact absurd f.closed (by simp[V.closed]);simp at B;rename_i len size s k n;obtain⟨y,_,rfl,f,w⟩:=h.inv;obtain⟨_,_,rfl,C,D⟩:=w.inv;rw[C.int,D.cQ];unfold wz at B;split at B;rename_i Q;split at B;split at B;rename_i cs q;simp only[ζa]at B;subst B;rcases f.l8 with rfl|⟨id,el,o,es,ys,ds,rfl,X,g,T,aa,S⟩;have m:=f.good;simp only[V.good]at m;exact⟨_,by simp only[Go.VE.bJ,wz,if_pos Q,if_pos q],.same _ (by simp only[V.good];exact xW _ m)⟩;refine⟨.hptr id el (o+n.toNat*size),by simp only[Go.VE.bJ,wz,if_pos Q],FR.Cc X g T (by have:=S.1;simp at this;omega) ?_⟩;have:=S.drop (n.toNat*size);rw[drop_drop]at this;exact this;simp at B;exact absurd f.closed (by simp[V.closed]);simp at B;simp at B;rename_i s k n;obtain⟨y,_,rfl,f,w⟩:=h.inv;obtain⟨_,_,rfl,C,D⟩:=w.inv;rw[f.str,C.int,D.cQ];split at B;next Q=>obtain⟨c,hc,rfl⟩:=ζf.1 B;exact⟨_,by simp only[Go.VE.bJ,if_pos Q,hc,map_some],.same _ rfl⟩
 simp at B;rename_i len size agg cs k n;obtain⟨y,_,rfl,f,w⟩:=h.inv;obtain⟨_,_,rfl,C,D⟩:=w.inv;rw[C.int,D.cQ];obtain⟨ab,rfl,hc⟩:=f.iC;split at B;next Q=>have⟨r,g,x⟩:=ζg.1 B;have⟨A,L,J⟩:=hc.cut g;have⟨O,G,I⟩:=J.mk x;exact⟨O,by simp only[Go.VE.bJ,if_pos Q,L,ζb,G],I⟩
 simp at B;rename_i lo hi s bs;obtain⟨y,_,rfl,f,w⟩:=h.inv;rw[f.str];have⟨⟨l,h'⟩,E,B⟩:=ζg.1 B;obtain⟨⟨l2,ah⟩,ae,rfl⟩:=ζf.1 B;exact⟨_,by simp only[Go.VE.bJ,w.me E,ζb,ae,map_some],.same _ rfl⟩;rename_i size lo hi s bs;obtain⟨y,_,rfl,f,w⟩:=h.inv;have⟨⟨l,h'⟩,E,B⟩:=ζg.1 B;have⟨O,G,I⟩:=FR.slice f B;exact⟨O,by simp only[Go.VE.bJ,w.me E,ζb,G],I⟩;obtain⟨y,_,rfl,f,w⟩:=h.inv;obtain⟨_,_,rfl,C,D⟩:=w.inv;obtain⟨_,_,rfl,U,W⟩:=D.inv;rw[C.int,U.int,W.cQ];split at B;rename_i hc;simp only[ζa]at B;subst B;refine⟨.dw,?_,.same _ rfl⟩;simp only[ζh]at hc;have:Kb y=true:=by have F:=hc.1.1;unfold Kb at F;split at F;rcases f.lX with rfl|⟨_,_,_,rfl,_⟩<;>rfl;exact absurd f.closed (by simp[V.closed]);rw[f.dw];rfl;rw[f.bG];rfl;simp at F
 simp only[Go.VE.bJ,this,hc.1.2,hc.2,Bool.and_self,if_true];simp at B;rename_i vs zero pl;obtain⟨r,g,rfl⟩:=ζf.1 B;have⟨A,L,J⟩:=c9.fill (c9.same (Y zero pl rfl)) h g;exact⟨.agg A,by simp only[Go.VE.bJ,L,map_some],.agg _ _ J.1 J.2⟩;rename_i vs name k;simp only[ζa]at B;subst B;exact⟨_,rfl,.clo _ _ _ _ _ (h.take k).1 (h.drop k).1 (h.take k).2 (h.drop k).2⟩;rename_i i vs;obtain⟨y,_,rfl,f,w⟩:=h.inv;rw[w.cQ];obtain⟨ws,rfl,hw⟩:=f.qg;have⟨O,G,I⟩:=hw.get B;exact⟨O,G,I⟩;obtain⟨y,_,rfl,f,w⟩:=h.inv;rw[f.str,w.cQ];simp only[ζa]at B;subst B;exact⟨_,rfl,.same _ rfl⟩;obtain⟨y,_,rfl,f,w⟩:=h.inv;rw[w.cQ];unfold mH at B;split at B;simp only[ζa]at B;subst B;rcases f.lX with rfl|⟨_,_,_,rfl,_⟩<;>exact⟨_,rfl,.same _ rfl⟩;exact absurd f.closed (by simp[V.closed]);rw[f.dw];simp only[ζa]at B;subst B;exact⟨_,rfl,.same _ rfl⟩;rw[f.bG];simp only[ζa]at B;subst B;exact⟨_,rfl,.same _ rfl⟩;simp at B;obtain⟨y,_,rfl,f,w⟩:=h.inv;rw[w.cQ];unfold FN at B;split at B;rw[f.bG];simp only[ζa]at B;subst B;exact⟨_,rfl,.same _ rfl⟩;rw[f.dw];simp only[ζa]at B;subst B;exact⟨_,rfl,.same _ rfl⟩;simp at B;obtain⟨_,_,rfl,f,w⟩:=h.inv;obtain⟨_,_,rfl,C,D⟩:=w.inv;rw[f.int,C.int,D.cQ];split at B;next e=>simp only[ζa]at B;subst B;exact⟨_,by simp only[Go.VE.bJ,if_pos e],.same _ rfl⟩
 simp at B;obtain⟨_,_,rfl,f,w⟩:=h.inv;obtain⟨_,_,rfl,C,D⟩:=w.inv;obtain⟨_,_,rfl,U,W⟩:=D.inv;obtain⟨_,_,rfl,h7,h8⟩:=W.inv;rw[f.int,C.int,U.int,h7.int,h8.cQ];split at B;next e=>simp only[ζa]at B;subst B;exact⟨_,by simp only[Go.VE.bJ,if_pos e],.same _ rfl⟩
 simp at B;obtain⟨_,_,rfl,f,w⟩:=h.inv;obtain⟨_,_,rfl,C,D⟩:=w.inv;rw[f.int,C.int,D.cQ];split at B;next e=>simp only[ζa]at B;subst B;exact⟨_,by simp only[Go.VE.bJ,if_pos e],.same _ rfl⟩
 simp at B;obtain⟨_,_,rfl,f,w⟩:=h.inv;obtain⟨_,_,rfl,C,D⟩:=w.inv;rw[f.int,C.int,D.cQ];split at B;rename_i e;simp only[ζa]at B;subst B;refine⟨_,by simp only[Go.VE.bJ,if_pos e],.same _ ?_⟩;simp only[V.good];refine kq.2 λj u K=>?_;have:=List.eq_of_mem_replicate (mem_of_getElem? K);subst this;exact gO.2 λi v M=>jH (all_eq_true.1 e.2.2.2.2.2 v (mem_of_getElem? M));simp at B;split at B;rename_i hc;obtain rfl:=h.scalar.1 hc.1;split at B;rename_i xs af;split at B;rename_i hx;simp only[ζa]at B;subst B;refine⟨_,by simp only[Go.VE.bJ,if_pos hc,af,if_pos hx],.same _ ?_⟩;simp only[V.good];exact kq.2 λj u K=>gO.2 λi v M=>jH (all_eq_true.1 (all_eq_true.1 hx.2 u (mem_of_getElem? K)) v (mem_of_getElem? M));simp at B;simp at B;simp at B;simp only[ζa]at B;subst B;rw[h.cQ];exact⟨_,rfl,.same _ rfl⟩;simp at B
end
def rm(p:Nat×Nat)(k:Fl)(es len:Nat):V:=
 match k with
 |.nil=>.bG|.emp=>.dw|_=>.hsl p.1 es p.2 len
abbrev Nu:=Nat->Nat×Nat
inductive cZ(ν:Nu)(m:Tb bE)(H:bl)(Z:Nat->Prop):SV->V->Prop
 |v(x y:V)(h:FR H Z x y):cZ ν m H Z (.v x) y|own(d:Nat)(y:V)(h:∀ob,bh m d=some ob->∃k es xs,ob=.sl k es xs/\y=rm (ν d) k es xs.length):cZ ν m H Z (.own d) y|ptr(d o:Nat)(y:V)(h:∀ob,bh m d=some ob->∃cs,ob=.box cs/\y=.hptr (ν d).1 0 o):cZ ν m H Z (.ptr d o) y|el(d i o:Nat)(y:V)(h:∀ob,bh m d=some ob->∃k es xs,ob=.sl k es xs/\cD k=true/\y=.hptr (ν d).1 ((ν d).2+i) o):cZ ν m H Z (.el d i o) y|mp(d:Nat)(y:V)(h:∀ob,bh m d=some ob->∃kvs,ob=.mp kvs/\y=.hmap (ν d).1):cZ ν m H Z (.mp d) y|clo(f:FuncId)(a b:List SV)(a' b':List V)(ha:a.length=a'.length)(hb:b.length=b'.length)
  (hva:∀(j:Nat)u v,a[j]?=some u->a'[j]?=some v->cZ ν m H Z u v) (hvb:∀(j:Nat)u v,b[j]?=some u->b'[j]?=some v->cZ ν m H Z u v):cZ ν m H Z (.clo f a b) (.clo f a' b')
 |tup(a:List SV)(a':List V)(ha:a.length=a'.length)(hva:∀(j:Nat)u v,a[j]?=some u->a'[j]?=some v->cZ ν m H Z u v):cZ ν m H Z (.tup a) (.tup a')|agg(a:List SV)(a':List V)(ha:a.length=a'.length)(hva:∀(j:Nat)u v,a[j]?=some u->a'[j]?=some v->cZ ν m H Z u v):cZ ν m H Z (.agg a) (.agg a')|yl(id:Nat):cZ ν m H Z (.yl id) (.yld id)
def bY(ν:Nu)(m:Tb bE)(H:bl)(Z:Nat->Prop)(xs:Zw)(ys:Zu):Prop:=xs.length=ys.length/\∀(j:Nat)u v,xs[j]?=some u->ys[j]?=some v->cZ ν m H Z u v
def cu:bE->Zl
 |.sl k _ _=>cD k|_=>true
def fq(ν:Nu)(m:Tb bE)(id:Nat):Prop:=∃d ob,bh m d=some ob/\cu ob=true/\(ν d).1=id
def uN(H:bl)(Z:Nat->Prop)(ys:Zt):Prop:=∀c∈ys,∀u∈c,∃x,FR H Z x u
def B3(H:bl)(Z:Nat->Prop)(a b:aY (V×V)):Prop:=a.length=b.length/\∀(j:Nat)u v,a[j]?=some u->b[j]?=some v->(u.1=v.1/\u.1.scalar=true)/\FR H Z u.2 v.2
def dX(ν:Nu)(m:Tb bE)(H:bl)(Z:Nat->Prop)(d:Nat):bE->Prop
 |.sl k es xs=>if cD k then∃ys,H[(ν d).1]?=some (.row es ys)/\(ν d).2+xs.length<=ys.length/\fZ H Z xs ((ys.drop (ν d).2).take xs.length)/\uN H Z ys/\(k=.row->(ν d).2=0/\ys.length=xs.length)
  else xs=[]
 |.box cs=>∃es G,H[(ν d).1]?=some (.row es [G])/\bY ν m H Z cs G/\G.all V.one=true|.mp J=>∃B,H[(ν d).1]?=some (.map B)/\B3 H Z J B
structure R(ν:Nu)(Z:Nat->Prop)(st:St)(F:Frame)(H:bl):Prop where
 slot:∀s sv,bh st.g s=some sv->cZ ν st.m H Z sv (get F s)
 obj:∀d ob,bh st.m d=some ob->dX ν st.m H Z d ob
 inj:∀d d' ob ob',bh st.m d=some ob->bh st.m d'=some ob'->cu ob=true->cu ob'=true->(ν d).1=(ν d').1->d=d'
 apart:∀d ob,bh st.m d=some ob->cu ob=true->¬Z (ν d).1
 zrow:∀id,Z id->(bq H id).isSome=true
 deep:Deep H Z
def sameShape:bE->bE->Prop
 |.sl k es xs,.sl J B G=>J=k/\B=es/\G.length=xs.length|.box _,.box _=>True|.mp _,.mp _=>True|_,_=>False
def sameShape.refl(o:bE):sameShape o o:=by cases o<;>simp[sameShape]
def sameShape.trans{a b c:bE}(h:sameShape a b)(k:sameShape b c):sameShape a c:=by cases a<;>cases b<;>cases c<;>simp[sameShape]at*<;>simp_all
structure Ev(Rv:Nat->Prop)(ν:Nu)(Z:Nat->Prop)(st:St)(H:bl)(ν':Nu)(Z':Nat->Prop)(st':St)(H':bl):Prop where
 len:H.length<=H'.length
 same:∀id,id<H.length->¬fq ν st.m id->¬Z id->¬Rv id->H'[id]?=H[id]?
 rows:∀id,Z id->Z' id/\bq H' id=bq H id
 own:∀id,fq ν' st'.m id->fq ν st.m id\/Rv id\/H.length<=id
 frz:∀id,Z' id->Z id\/fq ν st.m id\/Rv id\/H.length<=id
 pin:∀d∈st.pin,∀ob',bh st'.m d=some ob'->∃ob,bh st.m d=some ob/\ν' d=ν d/\sameShape ob ob'
 pins:st'.pin=st.pin
section
variable{Rv Rv':Nat->Prop}{ν ν' ν2:Nu}{Z Z' Z2:Nat->Prop}{st st' st2:St}{m m':Tb bE}{F F':Zo}{H H' H2:bl}
def Ev.refl:Ev Rv ν Z st H ν Z st H:=⟨le_refl _,λ_ _ _ _ _=>rfl,λ_ h=>⟨h,rfl⟩,λ_ h=>.inl h,λ_ h=>.inl h,λ_ _ u h=>⟨u,h,rfl,.refl _⟩,rfl⟩
def Ev.trans(a:Ev Rv ν Z st H ν' Z' st' H')(b:Ev Rv ν' Z' st' H' ν2 Z2 st2 H2):Ev Rv ν Z st H ν2 Z2 st2 H2 where
 len:=le_trans a.len b.len
 same:=λid B u C hr=>by rw[b.same id (Nat.lt_of_lt_of_le B a.len) (λh=>(a.own id h).elim u λh=>h.elim hr λh=>Za) (λh=>(a.frz id h).elim C λh=>h.elim u λh=>h.elim hr λh=>Za) hr,a.same id B u C hr]
 rows:=λid h=>⟨(b.rows id (a.rows id h).1).1,by rw[(b.rows id (a.rows id h).1).2,(a.rows id h).2]⟩
 own:=λid h=>by rcases b.own id h with h|h|h;exact a.own id h;grind;exact .inr (.inr (le_trans a.len h))
 frz:=λid h=>by rcases b.frz id h with h|h|h|h;exact a.frz id h;rcases a.own id h with h|h|h;grind;grind;grind;grind;exact .inr (.inr (.inr (le_trans a.len h)))
 pin:=λd D w h=>by have⟨z,c,I,G⟩:=b.pin d (by rw[a.pins];omega) w h;have⟨ob,k1,k2,k3⟩:=a.pin d D z c;exact⟨ob,k1,Ze,k3.trans G⟩
 pins:=by rw[b.pins,a.pins]
def Ev.weak(h:∀id,Rv id->Rv' id)(a:Ev Rv ν Z st H ν' Z' st' H'):Ev Rv' ν Z st H ν' Z' st' H':=⟨a.len,λid u w z hr=>a.same id u w z (λk=>hr (h id k)),a.rows,λid k=>(a.own id k).imp (λx=>x) (.imp (h id) (λx=>x)),λid k=>(a.frz id k).imp (λx=>x) (.imp (λx=>x) (.imp (h id) (λx=>x))),a.pin,a.pins⟩
def cz{α:Type}:∀(g:Tb α)(n:Nat)(v:α),bh (bH g n v) n=some v
 |[],n,v=>by simp[bH,bh]|(k,x)::r,n,v=>by simp[bH];split;(next h=>simp[bh,h]);rename_i h;simp[bh,h,cz r n v]
def dO{α:Type}:∀(g:Tb α){n k:Nat}(v:α),n≠k->bh (bH g n v) k=bh g k
 |[],n,k,v,h=>by simp[bH,bh,h]|(j,x)::r,n,k,v,h=>by simp[bH];split;(next a=>subst a;simp[bh,h]);simp[bh];split;rfl;exact dO r v h
def rV{α:Type}:∀{g:Tb α}{n:Nat}{v:α},bh g n=some v->bH g n v=g
 |[],n,v,h=>by cases h|(k,x)::r,n,v,h=>by simp[bh]at h;simp[bH];split;grind;rename_i e;rw[if_neg e]at h;rw[rV h]
def vz{α:Type}:∀(g:Tb α)(n:Nat),bh (eo n g) n=none
 |[],n=>rfl|(k,x)::r,n=>by simp[eo];split;exact vz r n;rename_i a;simp[bh];rw[if_neg a];exact vz r n
def vv{α:Type}:∀(g:Tb α){n k:Nat},n≠k->bh (eo n g) k=bh g k
 |[],n,k,h=>rfl|(j,x)::r,n,k,h=>by simp[eo];split;(next a=>subst a;simp[bh];rw[if_neg h];exact vv r h);simp[bh];split;rfl;exact vv r h
def nP{α:Type}{g:Tb α}{n k:Nat}{v:α}(h:bh (eo n g) k=some v):n≠k/\bh g k=some v:=by by_cases e:n=k;subst e;rw[vz]at h;simp_all;rw[vv g e]at h;grind
def n_{α:Type}{k:Nat}{v:α}:∀{ds:Zv}{g:Tb α},bh (o7 ds g) k=some v->bh g k=some v
 |[],_,h=>h|d::ds,g,h=>(nP (n_ h)).2
def p9{α:Type}{g:Tb α}{k:Nat}{v:α}:∀{l:Zv}{r:Tb α},k_ g l=some r->bh r k=some v->bh g k=some v
 |[],r,h,B=>by simp[k_]at h;subst h;simp[bh]at B|n::l,r,h,B=>by simp[k_]at h;split at h;rename_i w t J G;simp at h;subst h;simp[bh]at B;split at B;grind;exact p9 G B;grind
def yb{d:Nat}:∀{g:Tb SV}{s:Nat}{sv:SV},uL d g=false->bh g s=some sv->sv.cM d=false
 |[],_,_,_,h=>by simp[bh]at h|(k,x)::r,s,sv,h,B=>by simp[uL]at h;simp[bh]at B;split at B;grind;exact yb h.2 B
def yq{d:Nat}:∀{g:Tb bE}{s:Nat}{ob:bE},rY d g=false->bh g s=some ob->ob.cM d=false
 |[],_,_,_,h=>by simp[bh]at h|(k,x)::r,s,sv,h,B=>by simp[rY]at h;simp[bh]at B;split at B;grind;exact yq h.2 B
def sS{d:Nat}:∀{l:Zw}{j:Nat}{u:SV},SV.dy d l=false->l[j]?=some u->u.cM d=false
 |[],_,_,_,h=>Ze|x::r,j,u,h,B=>by simp[SV.dy]at h;cases j with|zero=>grind|succ j=>exact sS h.2 (by simpa using B)
def rz{d:Nat}:∀{l:Zw}{j:Nat}{u:SV},l[j]?=some u->u.cM d=true->SV.dy d l=true
 |[],_,_,h,_=>Ze|x::r,j,u,h,B=>by simp[SV.dy];cases j with|zero=>grind|succ j=>exact .inr (rz (j:=j) Zd B)
def cZ.mono{sv:SV}{y:V}(O:∀id,Z id->Z' id/\bq H' id=bq H id)
 (r:cZ ν m H Z sv y)(B:∀d,sv.cM d=true->∀ob',bh m' d=some ob'->∃ob,bh m d=some ob/\ν' d=ν d/\sameShape ob ob'):cZ ν' m' H' Z' sv y:=by
 induction r with
 |v x y h=>exact .v x y (h.mono O)|own d y h=>
  refine .own d y λob' z=>?_
  have⟨ob,e,J,C⟩:=B d (by simp[SV.cM]) ob' z
  obtain⟨k,es,Q,rfl,rfl⟩:=h ob e;cases ob'<;>simp[sameShape]at C
  grind
 |ptr d o y h=>
  refine .ptr d o y λob' z=>?_
  have⟨ob,e,J,C⟩:=B d (by simp[SV.cM]) ob' z
  obtain⟨S,rfl,rfl⟩:=h ob e;cases ob'<;>simp[sameShape]at C
  grind
 |el d i o y h=>
  refine .el d i o y λob' z=>?_
  have⟨ob,e,J,C⟩:=B d (by simp[SV.cM]) ob' z
  obtain⟨k,es,Q,rfl,X,rfl⟩:=h ob e;cases ob'<;>simp[sameShape]at C
  grind
 |mp d y h=>
  refine .mp d y λob' z=>?_
  have⟨ob,e,J,C⟩:=B d (by simp[SV.cM]) ob' z
  obtain⟨S,rfl,rfl⟩:=h ob e;cases ob'<;>simp[sameShape]at C
  grind
 |clo f a b G T I U hva W w L=>exact .clo f a b G T I U (λj u v c g=>w j u v c g λd D=>B d (by simp[SV.cM,rz c D])) (λj u v c g=>L j u v c g λd D=>B d (by simp[SV.cM,rz c D]))|tup a G I hva w=>exact .tup a G I (λj u v c g=>w j u v c g λd D=>B d (by simp[SV.cM,rz c D]))|agg a G I hva w=>exact .agg a G I (λj u v c g=>w j u v c g λd D=>B d (by simp[SV.cM,rz c D]))|yl id=>exact .yl id
def bY.mono{sv:Zw}{y:Zu}(B:∀id,Z id->Z' id/\bq H' id=bq H id)(r:bY ν m H Z sv y)(G:∀d,SV.dy d sv=true->∀ob',bh m' d=some ob'->∃ob,bh m d=some ob/\ν' d=ν d/\sameShape ob ob'):bY ν' m' H' Z' sv y:=⟨r.1,λj u v a b=>(r.2 j u v a b).mono B λd w=>G d (rz a w)⟩
def bY.nil:bY ν m H Z [] []:=⟨rfl,Zc⟩
def bY.cons{x:SV}{y:V}{xs:Zw}{ys:Zu}(h:cZ ν m H Z x y)(r:bY ν m H Z xs ys):bY ν m H Z (x::xs) (y::ys):=by refine⟨by simp[r.1],λj u v a b=>?_⟩;cases j with|zero=>grind|succ j=>exact r.2 j u v Zd Zd
def bY.inv{x:SV}{xs:Zw}{B:Zu}(r:bY ν m H Z (x::xs) B):∃y ys,B=y::ys/\cZ ν m H Z x y/\bY ν m H Z xs ys:=by cases B with|nil=>have:=r.1;grind|cons y ys=>refine⟨y,ys,rfl,r.2 0 x y rfl rfl,by have:=r.1;grind,λj u v a b=>r.2 (j+1) u v Zd Zd⟩
def bY.cQ{B:Zu}(r:bY ν m H Z [] B):B=[]:=by have:=r.1;grind
theorem bY.get{xs:Zw}{ys:Zu}(r:bY ν m H Z xs ys){j:Nat}{u:SV}(h:xs[j]?=some u):∃v,ys[j]?=some v/\cZ ν m H Z u v:=by
 have w:=(ζe.1 h).1;have:j<ys.length:=by rw[<-r.1];omega
 exact⟨ys[j],ζd this,r.2 j u _ h (ζd this)⟩
def bY.append{a c:Zw}{b d:Zu}(h:bY ν m H Z a b)(k:bY ν m H Z c d):bY ν m H Z (a++c) (b++d):=by refine⟨by simp[h.1,k.1],λj u v e f=>?_⟩;by_cases w:j<a.length;rw[getElem?_append_left w]at e;rw[getElem?_append_left (by rw[<-h.1];omega)]at f;exact h.2 j u v e f;rw[getElem?_append_right Za]at e;rw[getElem?_append_right (by rw[<-h.1];omega),<-h.1]at f;exact k.2 _ u v e f
def bY.take{a:Zw}{b:Zu}(h:bY ν m H Z a b)(n:Nat):bY ν m H Z (a.take n) (b.take n):=by
 refine⟨by simp[h.1],λj u v c d=>?_⟩;rw[getElem?_take]at c d;split at c;next w=>rw[if_pos w]at d;exact h.2 j u v c d
 grind
def bY.drop{a:Zw}{b:Zu}(h:bY ν m H Z a b)(n:Nat):bY ν m H Z (a.drop n) (b.drop n):=by refine⟨by simp[h.1],λj u v c d=>?_⟩;rw[getElem?_drop]at c d;exact h.2 _ u v c d
theorem cZ.fr{x y:V}(r:cZ ν m H Z (.v x) y):FR H Z x y:=by cases r;assumption
def bY.qJ{xs ys:Zu}(r:c9 H Z xs ys):bY ν m H Z (xs.map .v) ys:=by refine⟨by simp[r.1],λj u v a b=>?_⟩;rw[List.getElem?_map,ζf]at a;obtain⟨x,w,rfl⟩:=a;exact .v x v (r.2 j x v w b)
def uf:∀{svs:Zw}{xs:Zu},di svs=some xs->svs=xs.map .v
 |[],xs,h=>by simp[di]at h;grind|x::r,xs,h=>by(cases x<;>simp only[di]at h<;>first|grind|skip);obtain⟨t,B,rfl⟩:=ζf.1 h;rw[uf B];rfl
def bY.TU{xs ys:Zu}(r:bY ν m H Z (xs.map .v) ys):c9 H Z xs ys:=by refine⟨by have:=r.1;grind,λj u v b a=>?_⟩;have:(xs.map SV.v)[j]?=some (.v u):=Zd;exact(r.2 j _ v this a).fr
end
section
variable{ν:Nu}{Z:Nat->Prop}{st:St}{m:Tb bE}{F:Zo}{H H1:bl}{N:Nat->Zk}
def oQ(nm:Zk->aZ Nat):Zr->aZ Arg
 |.tmp t=>some (.s t)|.const v=>match ofValue 4 v with
  |some c=>if c.good then some (.k c)else none|none=>none
 |.func f=>(nm f).map .f|.global g=>match bT.gl g with
  |some cs=>if(V.fptr cs).good then some (.k (.fptr cs))else none|none=>none
def D0{nm:Zk->aZ Nat}(G:∀f s,nm f=some s->N s=f){g:Tb SV}(J:∀s sv,bh g s=some sv->cZ ν m H Z sv (get F s)){o:Zr}{x:Arg}{sv:SV}(B:oQ nm o=some x)(a:qt N g x=some sv):
 ∃y,ev F o=some y/\cZ ν m H Z sv y:=by
 cases o with
 |tmp t=>simp[oQ]at B;subst B;exact⟨get F t,rfl,J t sv a⟩|const w=>
  simp[oQ]at B;split at B
  .rename_i c hc;split at B
   next u=>simp at B;subst B;simp[qt]at a;subst a;exact⟨c,hc,.v _ _ (.same _ u)⟩
   grind
  grind
 |func f=>simp[oQ]at B;obtain⟨z,C,rfl⟩:=B;simp[qt]at a;subst a;exact⟨_,rfl,.v _ _ (by rw[G f z C];exact .same _ rfl)⟩|global i=>
  simp[oQ]at B;split at B
  .rename_i c hc;split at B
   next u=>simp at B;subst B;simp[qt]at a;subst a;exact⟨.fptr c,by simp[ev,hc],.v _ _ (.same _ u)⟩
   grind
  grind
def oe{nm:Zk->aZ Nat}(G:∀f s,nm f=some s->N s=f){g:Tb SV}(J:∀s sv,bh g s=some sv->cZ ν m H Z sv (get F s)):∀{os:aY Zr}{xs:Z4}{svs:Zw},
 os.mapM (oQ nm)=some xs->bV N g xs=some svs->∃ys,fH F os=some ys/\bY ν m H Z svs ys
 |[],xs,svs,B,hv=>by simp at B;subst B;simp[bV]at hv;subst hv;exact⟨[],rfl,.nil⟩|o::os,xs,svs,B,hv=>by simp[ζg]at B;obtain⟨x,O,ys,U,rfl⟩:=B;simp[bV]at hv;split at hv;(next v C c w=>simp at hv;subst hv;have⟨a,B,z⟩:=D0 G J O c;have⟨az,b,u⟩:=oe G J U w;exact⟨a::az,by simp[fH,B,b],.cons z u⟩);grind
def cZ.jT{d:Nat}{y:V}(r:cZ ν m H Z (.own d) y){ob:bE}(h:bh m d=some ob):∃k es xs,ob=.sl k es xs/\y=rm (ν d) k es xs.length:=by cases r with|own _ _ u=>grind
def cZ.oG{d o:Nat}{y:V}(r:cZ ν m H Z (.ptr d o) y){ob:bE}(h:bh m d=some ob):∃cs,ob=.box cs/\y=.hptr (ν d).1 0 o:=by cases r with|ptr _ _ _ u=>grind
def cZ.w8{d i o:Nat}{y:V}(r:cZ ν m H Z (.el d i o) y){ob:bE}(h:bh m d=some ob):∃k es xs,ob=.sl k es xs/\cD k=true/\y=.hptr (ν d).1 ((ν d).2+i) o:=by cases r with|el _ _ _ _ u=>grind
def cZ.Ct{d:Nat}{y:V}(r:cZ ν m H Z (.mp d) y){ob:bE}(h:bh m d=some ob):∃B,ob=.mp B/\y=.hmap (ν d).1:=by cases r with|mp _ _ u=>grind
def cZ.jQ{f:Zk}{a b:Zw}{y:V}(r:cZ ν m H Z (.clo f a b) y):∃a' B,y=.clo f a' B/\bY ν m H Z a a'/\bY ν m H Z b B:=by cases r with|clo _ _ _ a' B w z hva u=>exact⟨a',B,rfl,⟨w,hva⟩,⟨z,u⟩⟩
def cZ.qg{a:Zw}{y:V}(r:cZ ν m H Z (.tup a) y):∃a',y=.tup a'/\bY ν m H Z a a':=by cases r with|tup _ a' u hva=>exact⟨a',rfl,u,hva⟩
def cZ.iC{a:Zw}{y:V}(r:cZ ν m H Z (.agg a) y):∃a',y=.agg a'/\bY ν m H Z a a':=by cases r with|agg _ a' u hva=>exact⟨a',rfl,u,hva⟩
def rG{p:Nat×Nat}{k:Fl}{es len:Nat}(h:cD k=true):rm p k es len=.hsl p.1 es p.2 len:=by cases k<;>simp[cD]at h<;>rfl
def lK{x:SV}{y:V}(h:kN m x=true)(r:cZ ν m H Z x y):y.cells=[y]/\y.one=true:=by cases x with|v x=>simp[kN]at h|own d=>have⟨ob,u⟩:=isSome_iff_exists.1 h;obtain⟨k,es,w,rfl,rfl⟩:=r.jT u;cases k<;>exact⟨rfl,rfl⟩|ptr d o=>have⟨ob,u⟩:=isSome_iff_exists.1 h;obtain⟨B,rfl,rfl⟩:=r.oG u;exact⟨rfl,rfl⟩|el d i o=>have⟨ob,u⟩:=isSome_iff_exists.1 h;obtain⟨k,es,w,rfl,_,rfl⟩:=r.w8 u;exact⟨rfl,rfl⟩|mp d=>have⟨ob,u⟩:=isSome_iff_exists.1 h;obtain⟨z,rfl,rfl⟩:=r.Ct u;exact⟨rfl,rfl⟩|clo f a b=>obtain⟨C,D,rfl,_⟩:=r.jQ;exact⟨rfl,rfl⟩|tup l=>simp[kN]at h|agg l=>simp[kN]at h|yl id=>simp[kN]at h
def L_{x:SV}{y:V}(h:vX m x=true)(r:cZ ν m H Z x y):y.one=true:=by
 cases x with
 |v x=>
  have u:=r.fr;have w:x.one=true:=h;have hc:=u.cells;have e:x.cells=[x]:=by cases x<;>first|rfl|(simp[V.one]at w)
  rw[e]at hc;have c:=hc.one;have z:=hc.1
  cases y with
  |agg l=>cases u with|same _ _=>grind|agg _ _ _ _=>simp[V.one]at w
  |tup l=>cases u with|same _ _=>grind|tup _ _ _ _=>simp[V.one]at w
  |_=>rfl
 |own d=>exact(lK (x:=.own d) h r).2|ptr d o=>exact(lK (x:=.ptr d o) h r).2|el d i o=>exact(lK (x:=.el d i o) h r).2|mp d=>exact(lK (x:=.mp d) h r).2|clo f a b=>exact(lK (x:=.clo f a b) h r).2|tup l=>simp[vX,kN]at h|agg l=>simp[vX,kN]at h|yl id=>simp[vX,kN]at h
def Er{l:Zw}{ys:Zu}(h:l.all (vX m)=true)(r:bY ν m H Z l ys):ys.all V.one=true:=by
 refine all_eq_true.2 λy w=>?_;have⟨j,z,e⟩:=List.mem_iff_getElem.1 w;have u:j<l.length:=by rw[r.1];omega
 exact L_ (all_eq_true.1 h _ (List.getElem_mem u)) (r.2 j _ y (ζd u) Zd)
def Mn{x:SV}{y:V}{c:Zw}(h:xy m x=some c)(r:cZ ν m H Z x y):bY ν m H Z c y.cells:=by
 unfold xy at h;split at h;cases h;exact bY.qJ r.fr.cells;cases h;obtain⟨z,rfl,u⟩:=r.iC;exact u;split at h;next w=>cases h;rw[(lK w r).1];exact .cons r .nil
 simp_all
def HL:∀{pl:aY (Nat×Nat)}{vs cells l:Zw}{B cells':Zu},bY ν m H Z cells cells'->bY ν m H Z vs B->sL m cells pl vs=some l->∃G,kn cells' pl B=some G/\bY ν m H Z l G
 |[],[],cells,l,B,cells',hc,hv,h=>by rw[hv.cQ];simp[sL]at h;subst h;exact⟨_,rfl,hc⟩|[],_::_,_,_,_,_,_,_,h=>by simp[sL]at h|_::_,[],_,_,_,_,_,_,h=>by simp[sL]at h|(off,size)::pl,v::vs,cells,l,B,cells',hc,hv,h=>by obtain⟨w,J,rfl,b,O⟩:=hv.inv;simp only[sL]at h;split at h;rename_i c z;have a:=Mn z b;split at h;have⟨G,e1,e2⟩:=HL (cells':=cells'.take off++w.cells++cells'.drop (off+w.cells.length)) (by rw[<-a.1];exact((hc.take off).append a).append (hc.drop _)) O h;have u:w.cells.length=size/\off+w.cells.length<=cells'.length:=(by rw[<-a.1,<-hc.1];omega);simp[kn];grind;simp_all;simp_all
def Gv{size o:Nat}{agg:Zl}{cs:Zw}{B:Zu}{sv:SV}(h:bY ν m H Z cs B)(G:tN size agg ((cs.drop o).take size)=some sv):∃y,(cut B o size).bind (mk agg)=some y/\cZ ν m H Z sv y:=by
 have u:=(h.drop o).take size;unfold tN at G;split at G;have hc:cut B o size=some ((B.drop o).take size):=by unfold cut;rw[if_pos (by rw[<-u.1];omega)]
 rw[hc];split at G;split at G;rename_i I w;cases G;have z:=by rw[uf w]at u;exact u.TU
 exact⟨_,by unfold mk;grind,.v _ _ (.agg _ _ z.1 z.2)⟩;cases G;exact⟨_,by unfold mk;grind,.agg _ _ u.1 u.2⟩;split at G;next x w=>simp at G;subst G;rw[w]at u;have⟨y,J,e,C,D⟩:=u.inv;rw[e,D.cQ];exact⟨y,by unfold mk;grind,C⟩
 grind;grind
def Ph{p:uG}{svs:Zw}{ys:Zu}{sv:SV}(i:∀zero pl,p=.build zero pl->V.cr zero=true)(j:∀d ob,bh m d=some ob->dX ν m H Z d ob)(h:bY ν m H Z svs ys)(B:wk N m p svs=some sv):∃y,bJ N p ys=some y/\cZ ν m H Z sv y:=by
 unfold wk at B;split at B;obtain⟨y,_,rfl,c,w⟩:=h.inv;rw[w.cQ];simp at B;subst B;exact⟨y,rfl,c⟩;obtain⟨y,_,rfl,c,w⟩:=h.inv;rw[w.cQ];split at B;next L=>simp at B;subst B;have⟨ob,u⟩:=isSome_iff_exists.1 L;obtain⟨cs,rfl,rfl⟩:=c.oG u;exact⟨_,rfl,c⟩
 grind;obtain⟨y,_,rfl,c,w⟩:=h.inv;rw[w.cQ];split at B;next L=>simp at B;subst B;have⟨ob,u⟩:=isSome_iff_exists.1 L;obtain⟨k,es,S,rfl,f,rfl⟩:=c.w8 u;exact⟨_,rfl,c⟩
 grind;rename_i t a b;obtain⟨J,_,rfl,c,w⟩:=h.inv;obtain⟨T,_,rfl,G,D⟩:=w.inv;obtain⟨n,_,rfl,F,o⟩:=D.inv;rw[c.fr.bool,o.cQ];simp at B;refine⟨if t=true then T else n,rfl,?_⟩;grind
 .obtain⟨J,_,rfl,c,w⟩:=h.inv;obtain⟨T,_,rfl,G,D⟩:=w.inv;rw[G.fr.bG,D.cQ];split at B
  .rename_i k es S u;split at B;simp_all;simp at B;subst B;obtain⟨U,O,Q,e,rfl⟩:=c.jT u;cases e;cases k<;>first|grind|exact⟨_,rfl,.v _ _ (.same _ rfl)⟩
  grind
 .obtain⟨J,_,rfl,c,w⟩:=h.inv;obtain⟨T,_,rfl,G,D⟩:=w.inv;rw[G.fr.bG,D.cQ];split at B
  .rename_i k es S u;split at B;simp_all;simp at B;subst B;obtain⟨U,O,Q,e,rfl⟩:=c.jT u;cases e;cases k<;>first|grind|exact⟨_,rfl,.v _ _ (.same _ rfl)⟩
  grind
 obtain⟨y,_,rfl,c,w⟩:=h.inv;rw[w.cQ];split at B;next L=>simp at B;subst B;have⟨ob,u⟩:=isSome_iff_exists.1 L;obtain⟨cs,rfl,rfl⟩:=c.oG u;exact⟨_,rfl,.ptr _ _ _ λI C=>Zd⟩
 grind;obtain⟨y,_,rfl,c,w⟩:=h.inv;rw[w.cQ];split at B;next L=>simp at B;subst B;have⟨ob,u⟩:=isSome_iff_exists.1 L;obtain⟨k,es,S,rfl,f,rfl⟩:=c.w8 u;exact⟨_,rfl,.el _ _ _ _ λI C=>by rw[u]at C;cases C;exact⟨_,_,_,rfl,f,rfl⟩⟩
 simp at B;obtain⟨J,_,rfl,c,w⟩:=h.inv;obtain⟨T,_,rfl,G,D⟩:=w.inv;rw[G.fr.int,D.cQ];split at B;rename_i k es S u;split at B;rename_i hc;obtain⟨f,rfl,q,W⟩:=hc;simp at B;subst B;obtain⟨U,O,Q,e,rfl⟩:=c.jT u;cases e;rw[rG f];refine⟨.hptr (ν _).1 ((ν _).2+_) 0,by simp only[bJ,lu,if_neg (Int.not_lt.2 q),true_and,if_pos W];rfl,.el _ _ _ _ λI C=>?_⟩;rw[u]at C;cases C;exact⟨_,_,_,rfl,f,rfl⟩;simp at B;simp at B;obtain⟨J,_,rfl,c,w⟩:=h.inv;obtain⟨T,_,rfl,G,D⟩:=w.inv;rw[G.fr.int,D.cQ];split at B;rename_i hc;simp at B;subst B;have⟨ob,u⟩:=isSome_iff_exists.1 hc.2.2;obtain⟨cs,rfl,rfl⟩:=c.oG u;refine⟨.hptr (ν _).1 0 (_+_),by simp only[bJ,wz,if_pos (And.intro hc.1 hc.2.1)];rfl,.ptr _ _ _ λI C=>?_⟩;rw[u]at C;cases C;exact⟨_,rfl,rfl⟩;simp at B;obtain⟨J,_,rfl,c,w⟩:=h.inv;obtain⟨T,_,rfl,G,D⟩:=w.inv;rw[G.fr.int,D.cQ];split at B;rename_i hc;simp at B;subst B;have⟨ob,u⟩:=isSome_iff_exists.1 hc.2.2;obtain⟨k,es,S,rfl,f,rfl⟩:=c.w8 u;refine⟨.hptr (ν _).1 (_+_) (_+_),by simp only[bJ,wz,if_pos (And.intro hc.1 hc.2.1)];rfl,.el _ _ _ _ λI C=>?_⟩;rw[u]at C;cases C;exact⟨_,_,_,rfl,f,rfl⟩;simp at B;obtain⟨J,_,rfl,c,w⟩:=h.inv;rw[w.cQ];split at B;rename_i k es S u;simp at B;subst B;obtain⟨U,O,Q,e,rfl⟩:=c.jT u;cases e;have:=j _ _ u;simp[dX]at this;cases f:k<;>simp[f,cD]at this⊢;subst this;exact⟨_,rfl,.v _ _ (.same _ rfl)⟩;subst this;exact⟨_,rfl,.v _ _ (.same _ rfl)⟩;exact⟨_,rfl,.v _ _ (.same _ rfl)⟩;exact⟨_,rfl,.v _ _ (.same _ rfl)⟩;simp at B;rename_i vs g k;simp at B;subst B;exact⟨_,rfl,.clo _ _ _ _ _ (h.take k).1 (h.drop k).1 (h.take k).2 (h.drop k).2⟩;obtain⟨J,_,rfl,c,w⟩:=h.inv;rw[w.cQ];obtain⟨r,rfl,X⟩:=c.qg;have⟨z,s,Y⟩:=X.get B;exact⟨z,s,Y⟩;rename_i vs zero pl;obtain⟨l,v,rfl⟩:=ζf.1 B;have⟨x,c,w⟩:=HL (bY.qJ (c9.same (i zero pl rfl))) h v;exact⟨.agg x,by simp[Go.VE.bJ,c],.agg _ _ w.1 w.2⟩;obtain⟨J,_,rfl,c,w⟩:=h.inv;rw[w.cQ];obtain⟨r,rfl,X⟩:=c.iC;have⟨y,A,E⟩:=Gv X B;exact⟨y,by simp[Go.VE.bJ];exact A,E⟩;grind
def F_{p:uG}{svs:Zw}{ys:Zu}{sv:SV}(G:∀zero pl,p=.build zero pl->V.cr zero=true)(J:∀d ob,bh m d=some ob->dX ν m H Z d ob)(h:bY ν m H Z svs ys)(B:jy N m p svs=some sv):
 ∃y,bJ N p ys=some y/\cZ ν m H Z sv y:=by
 unfold jy at B;split at B
 next I u=>obtain⟨z,w,rfl⟩:=ζf.1 B;rw[uf u]at h;have⟨C,a,D⟩:=c9.bJ G h.TU w;exact⟨C,a,.v _ _ D⟩
 exact Ph G J h B
def bY.di{svs:Zw}{xs ys:Zu}(h:bY ν m H Z svs ys)(B:di svs=some xs):c9 H Z xs ys:=by rw[uf B]at h;exact h.TU
def BH{k:V}:∀{a b:aY (V×V)}{i:Nat},B3 H Z a b->(gT k a i=some none->gT k b i=some none)/\∀j v,gT k a i=some (some (j,v))->∃B,gT k b i=some (some (j,B))/\FR H Z v B
 |[],b,i,h=>by have:b=[]:=length_eq_zero_iff.1 (by have:=h.1;grind);subst this;exact⟨λh=>h,λj v h=>by simp[gT]at h⟩|(k1,x)::a,[],i,h=>by have:=h.1;grind|(k1,x)::a,(k2,y)::b,i,h=>by have⟨⟨e,_⟩,z⟩:=h.2 0 _ _ rfl rfl;subst e;have w:B3 H Z a b:=⟨by have:=h.1;grind,λj u v c d=>h.2 (j+1) u v Zd Zd⟩;have C:=BH (i:=i+1) (k:=k) w;simp only[gT];grind
def uR{kk:vE}{k:V}(h:pL kk k=true):k.scalar=true:=by unfold pL at h;split at h;rfl;rfl;simp at h;have⟨a,u⟩:=isSome_iff_exists.1 h.2;exact qG u;grind
def vH{r:IL}{svs:Zw}{ys:Zu}{sv:SV}(P:∀s a,r≠.loadF s a)(Y:∀kk z ok,r=.lookup kk z ok->z.good=true)(h:bY ν m H Z svs ys)(o:∀d,SV.dy d svs=true->∀ob,bh m d=some ob->dX ν m H Z d ob)(B:mo m r svs=some sv):
 ∃y,dS H r ys=some y/\cZ ν m H Z sv y:=by
 unfold mo at B;split at B
 .
  obtain⟨X,_,rfl,b,L⟩:=h.inv;rw[L.cQ];split at B
  .rename_i cs u;obtain⟨an,e,rfl⟩:=b.oG u;obtain⟨es,ao,f,hc,_⟩:=o _ (by simp[SV.dy,SV.cM]) _ u
   obtain⟨y,hy,R⟩:=Gv hc B;refine⟨y,?_,R⟩;simp[dS,ec,f,Ob.rows,getElem?_cons_zero];omega
  grind
 .
  obtain⟨X,_,rfl,b,L⟩:=h.inv;rw[L.cQ];split at B
  .rename_i k es xs u;split at B
   .rename_i cs aa;obtain⟨z,O,rfl⟩:=ζf.1 B;obtain⟨k1,ap,aq,e,g,rfl⟩:=b.w8 u;cases e;have:=o _ (by simp[SV.dy,SV.cM]) _ u
    simp[dX,g]at this;obtain⟨rs,f,hl,C,_⟩:=this;obtain⟨c,hc,ah⟩:=C.get aa;have hj:=(ζe.1 aa).1;rw[getElem?_take,if_pos hj,getElem?_drop]at hc;obtain⟨r1,w,D⟩:=ζg.1 O;obtain⟨r2,S,G⟩:=ah.cut w;obtain⟨n,T,E⟩:=G.mk D;refine⟨n,?_,.v _ _ E⟩;simp[dS,ec,f,Ob.rows,hc,S,T]
   grind
  grind
 .
  rename_i size agg p;obtain⟨X,_,rfl,b,L⟩:=h.inv;rw[L.cQ];obtain⟨z,O,rfl⟩:=ζf.1 B;obtain⟨r1,w,D⟩:=ζg.1 O;unfold ec at w;split at w
  .rename_i cs;rcases b.fr.l8 with rfl|⟨id,el,off,es,ys,ai,rfl,E,f,he,ar,C⟩
   .refine⟨z,by simp[dS,ec,w,D],.v _ _ (.same _ ?_)⟩
    have aj:=by have:=b.fr.good;simpa[V.good]using this
    obtain⟨r',au,G⟩:=(c9.same (H:=H) (Z:=Z) aj).cut w;obtain⟨n,T,I⟩:=G.mk D;exact I.good
   obtain⟨r2,S,G⟩:=C.cut w;obtain⟨n,T,I⟩:=G.mk D;refine⟨n,?_,.v _ _ I⟩;unfold bq at f;simp[dS,ec,f,he];have:cut ai off size=some r2:=by unfold cut at S⊢;grind
   grind
  .grind
  grind
 .
  rename_i kk z ok d k;obtain⟨X,_,rfl,b,L⟩:=h.inv;obtain⟨F,_,rfl,q,t⟩:=L.inv;rw[t.cQ];split at B
  .rename_i U u;split at B
   .rename_i g;obtain⟨_,e,rfl⟩:=b.Ct u;have W:=q.fr.scalar.1 (uR g);subst W;obtain⟨am,f,ak⟩:=o _ (by simp[SV.dy,SV.cM]) _ u
    obtain⟨f1,f2⟩:=BH ak;split at B
    .rename_i j v C;obtain⟨K,al,M⟩:=f2 j v C;simp at B;subst B;refine⟨if ok=true then .tup [K,.bool true]else K,by simp[dS,mA,f,g,al],?_⟩
     cases ok
     .exact .v _ _ M
     refine .v _ _ (.tup _ _ rfl (c9.cons M (.cons (.same _ rfl) .nil)).2)
    .rename_i C;simp at B;subst B;refine⟨if ok=true then .tup [z,.bool false]else z,by simp[dS,mA,f,g,f1 C],?_⟩
     have O:=Y kk z ok rfl;cases ok
     .exact .v _ _ (.same _ O)
     exact .v _ _ (.same _ (by simp[V.good,V.cr,O]))
    grind
   grind
  grind
 .
  rename_i kk z ok p k;obtain⟨X,_,rfl,b,L⟩:=h.inv;obtain⟨F,_,rfl,q,t⟩:=L.inv;rw[t.cQ];obtain⟨x,J,rfl⟩:=ζf.1 B;simp[dS]at J;have O:=Y kk z ok rfl;split at J
  .rename_i U Q;have key:mA H X=some U/\V.sF U=true:=by
    unfold mA at Q;split at Q
    .rw[b.fr.fV];simp at Q;subst Q;exact⟨rfl,rfl⟩
    .rw[b.fr.fmap];simp at Q;subst Q;exact⟨rfl,by have:=b.fr.good;simpa[V.good]using this⟩
    .simp at Q
    simp at Q
   split at J
   .rename_i g;have W:=q.fr.scalar.1 (uR g);subst W;split at J
    .rename_i j v C;simp at J;subst J;have N:=by
      have:∀{l:aY (V×V)}{i:Nat},V.sF l=true->gT F l i=some (some (j,v))->v.good=true:=by intro l;induction l with|nil=>intro i _ h;simp[gT]at h|cons p l ih=>intro i A h;simp[V.sF]at A;simp[gT]at h;split at h;obtain⟨_,rfl⟩:=h;exact A.1.2;exact ih A.2 h;simp at h
      exact this key.2 C
     refine⟨if ok=true then .tup [v,.bool true]else v,by simp[dS,key.1,g,C],?_⟩
     cases ok
     .exact .v _ _ (.same _ N)
     exact .v _ _ (.same _ (by simp[V.good,V.cr,N]))
    .rename_i C;simp at J;subst J;refine⟨if ok=true then .tup [z,.bool false]else z,by simp[dS,key.1,g,C],?_⟩
     cases ok
     .exact .v _ _ (.same _ O)
     exact .v _ _ (.same _ (by simp[V.good,V.cr,O]))
    simp at J
   simp at J
  simp at J
 .exact absurd rfl (P _ _)
 grind
end
section
variable{Rv:Nat->Prop}{ν ν':Nu}{Z Z':Nat->Prop}{st st':St}{m m':Tb bE}{F F':Zo}{H H':bl}
def R.lt(r:R ν Z st F H){id:Nat}(h:fq ν st.m id):id<H.length:=by obtain⟨d,ob,b,u,rfl⟩:=h;have:=r.obj d ob b;cases ob with|sl k es C=>simp only[cu]at u;simp only[dX,u,if_true]at this;have⟨D,a,_⟩:=this;exact(ζe.1 a).1|box G=>have⟨es,z,a,_⟩:=this;exact(ζe.1 a).1|mp B=>have⟨w,a,_⟩:=this;exact(ζe.1 a).1
def R.vw(r:R ν Z st F H){id:Nat}(h:Z id):id<H.length:=by have:=r.zrow id h;unfold bq at this;have⟨x,u⟩:=isSome_iff_exists.1 this;have⟨ob,a,_⟩:=ζg.1 u;exact(ζe.1 a).1
def Deep.mono(d:Deep H Z)(h:∀id,Z id->bq H' id=bq H id):Deep H' Z where
 row:=λid es z w hr c hc u hu=>by rw[h id w]at hr;have⟨x,B⟩:=d.row id es z w hr c hc u hu;exact⟨x,B.mono λk a=>⟨a,h k a⟩⟩
def uN.mono{ys:Zt}(h:∀id,Z id->Z' id/\bq H' id=bq H id)(s:uN H Z ys):uN H' Z' ys:=λc hc u a=>by have⟨x,w⟩:=s c hc u a;exact⟨x,w.mono h⟩
def B3.mono{a b:aY (V×V)}(h:∀id,Z id->Z' id/\bq H' id=bq H id)(s:B3 H Z a b):B3 H' Z' a b:=⟨s.1,λj u v c d=>⟨(s.2 j u v c d).1,(s.2 j u v c d).2.mono h⟩⟩
def dX.mono{d O:Nat}{ob:bE}(B:∀id,Z id->Z' id/\bq H' id=bq H id)(G:ν' O=ν d)(J:cu ob=true->H'[(ν d).1]?=H[(ν d).1]?)
 (U:∀e,ob.cM e=true->∀ob',bh m' e=some ob'->∃ob,bh m e=some ob/\ν' e=ν e/\sameShape ob ob')(o:dX ν m H Z d ob):dX ν' m' H' Z' O ob:=by
 cases ob with
 |sl k es S=>
  simp only[dX,G]at o⊢;split
  next b=>rw[if_pos b]at o;have⟨D,a,u,z,I,L⟩:=o;exact⟨D,by rw[J (by simpa[cu]using b)];exact a,u,z.mono B,I.mono B,L⟩
  rename_i b;rw[if_neg b]at o;exact o
 |box T=>have⟨es,C,a,u,z⟩:=o;exact⟨es,C,by rw[G,J rfl];exact a,u.mono B U,z⟩|mp Q=>have⟨w,a,u⟩:=o;exact⟨w,by rw[G,J rfl];exact a,u.mono B⟩
def iN(ν:Nu)(m:Tb bE)(e:Nat):∀ob',bh m e=some ob'->∃ob,bh m e=some ob/\ν e=ν e/\sameShape ob ob':=λob' h=>⟨ob',h,rfl,.refl _⟩
def R.heap(r:R ν Z st F H)(G:∀id,fq ν st.m id->H'[id]?=H[id]?)(B:∀id,Z id->bq H' id=bq H id):R ν Z st F H' where
 slot:=λs w z=>(r.slot s w z).mono (λid h=>⟨h,B id h⟩) λd _=>iN ν st.m d
 obj:=λd ob u=>dX.mono (λid h=>⟨h,B id h⟩) rfl (λC=>G _ ⟨d,ob,u,C,rfl⟩) (λe _=>iN ν st.m e) (r.obj d ob u)
 inj:=r.inj
 apart:=r.apart
 zrow:=λid h=>by rw[B id h];exact r.zrow id h
 deep:=r.deep.mono B
def R.put(r:R ν Z st F H){d:Nat}{sv:SV}{y:V}(h:cZ ν st.m H Z sv y):R ν Z {st with g:=bH st.g d sv} (set F d y) H where
 slot:=λs x u=>by by_cases e:d=s;subst e;rw[cz]at u;cases u;rw[sw];exact h;rw[dO st.g sv e]at u;rw[ja _ _ e];exact r.slot s x u
 obj:=r.obj
 inj:=r.inj
 apart:=r.apart
 zrow:=r.zrow
 deep:=r.deep
def Ev.slots(g:Tb SV):Ev Rv ν Z st H ν Z {st with g:=g} H:=⟨le_refl _,λ_ _ _ _ _=>rfl,λ_ h=>⟨h,rfl⟩,λ_ h=>.inl h,λ_ h=>.inl h,λ_ _ u h=>⟨u,h,rfl,.refl _⟩,rfl⟩
def iH(ν:Nu)(d:Nat)(p:Nat×Nat):Nu:=λk=>if k=d then p else ν k
def gN(ν:Nu)(d:Nat)(p:Nat×Nat):iH ν d p d=p:=if_pos rfl
def oD(ν:Nu){d k:Nat}(p:Nat×Nat)(h:k≠d):iH ν d p k=ν k:=if_neg h
def mh{d:Nat}(h:st.new d=true):d∉st.pin/\bh st.m d=none/\uL d st.g=false/\rY d st.m=false:=by unfold St.new at h;simp only[ζh,not_eq_true',Option.isNone_iff_eq_none,List.contains_eq_mem,decide_eq_false_iff_not]at h;exact⟨h.1.1.1,h.1.1.2,h.1.2,h.2⟩
def s_{d:Nat}{ob:bE}{p:Nat×Nat}{e:Nat}(h:e≠d):∀ob',bh (bH m d ob) e=some ob'->∃ob,bh m e=some ob/\iH ν d p e=ν e/\sameShape ob ob':=λob' u=>by rw[dO m ob (Ne.symm h)]at u;exact⟨ob',u,oD ν p h,.refl _⟩
def R.add(r:R ν Z st F H){d:Nat}(U:st.new d=true){ob:bE}{p:Nat×Nat}(J:cu ob=true->¬fq ν st.m p.1/\¬Z p.1)(W:dX (iH ν d p) (bH st.m d ob) H Z d ob):
 R (iH ν d p) Z {st with m:=bH st.m d ob} F H:=by
 have⟨X,Y,Q,S⟩:=mh U;have key:∀w u,bh (bH st.m d ob) w=some u->w≠d->bh st.m w=some u:=λw u h e=>by rw[dO st.m ob (Ne.symm e)]at h;exact h
 refine⟨λs T L=>?_,λw u G=>?_,?_,?_,r.zrow,r.deep⟩
 .refine(r.slot s T L).mono (λid h=>⟨h,rfl⟩) λe O=>s_ ?_
  rintro rfl;rw[yb Q L]at O;cases O
 .by_cases e:w=d
  .subst e;simp only at G;rw[cz]at G;cases G;exact W
  have C:=key w u G e;refine dX.mono (λid h=>⟨h,rfl⟩) (oD ν p e) (λ_=>rfl) (λk c=>s_ ?_) (r.obj w u C)
  rintro rfl;rw[yq S C]at c;cases c
 .intro b d2 o1 o2 a D z I B
  by_cases e1:b=d<;>by_cases e2:d2=d
  .rw[e1,e2]
  .subst e1;rw[gN,oD ν p e2]at B;simp only at a;rw[cz]at a;cases a;exact absurd ⟨d2,o2,key d2 o2 D e2,I,B.symm⟩ (J z).1
  .subst e2;rw[gN,oD ν p e1]at B;simp only at D;rw[cz]at D;cases D;exact absurd ⟨b,o1,key b o1 a e1,z,B⟩ (J I).1
  rw[oD ν p e1,oD ν p e2]at B;exact r.inj b d2 o1 o2 (key b o1 a e1) (key d2 o2 D e2) z I B
 intro b o1 a z
 by_cases e1:b=d
 .subst e1;simp only at a;rw[cz]at a;cases a;rw[gN];exact(J z).2
 rw[oD ν p e1];exact r.apart b o1 (key b o1 a e1) z
def DU{d:Nat}{ob:bE}{p:Nat×Nat}{id:Nat}(h:fq (iH ν d p) (bH m d ob) id):fq ν m id\/(cu ob=true/\id=p.1):=by have⟨k,o,a,w,u⟩:=h;by_cases e:k=d;subst e;rw[cz]at a;cases a;rw[gN]at u;exact .inr ⟨w,u.symm⟩;rw[oD ν p e]at u;rw[dO m ob (Ne.symm e)]at a;exact .inl ⟨k,o,a,w,u⟩
def Ev.add{d:Nat}(B:st.new d=true){ob:bE}{p:Nat×Nat}(G:H.length<=H'.length)(J:∀id,id<H.length->¬Rv id->H'[id]?=H[id]?)(O:∀id,Z id->bq H' id=bq H id)
 (U:cu ob=true->Rv p.1\/H.length<=p.1):Ev Rv ν Z st H (iH ν d p) Z {st with m:=bH st.m d ob} H' where
 len:=G
 same:=λid h _ _ hr=>J id h hr
 rows:=λid h=>⟨h,O id h⟩
 own:=λid h=>by rcases DU h with h|⟨a,rfl⟩;exact .inl h;exact .inr (U a)
 frz:=λid h=>.inl h
 pin:=λe w u h=>by have:e≠d:=(by rintro rfl;exact(mh B).1 w);exact s_ this u h
 pins:=rfl
def R.gD(r:R ν Z st F H){d:Nat}{ob ob':bE}(b:bh st.m d=some ob)(J:sameShape ob ob')(W:cu ob'=cu ob)(U:∀id,id≠(ν d).1->H'[id]?=H[id]?)(G:cu ob=true)
 (Y:dX ν (bH st.m d ob') H' Z d ob'):R ν Z {st with m:=bH st.m d ob'} F H':=by
 have z:∀id,Z id->Z id/\bq H' id=bq H id:=λid h=>⟨h,by
  unfold bq;rw[U id (by rintro rfl;exact r.apart d ob b G h)]⟩
 have Q:∀e u,bh (bH st.m d ob') e=some u->∃w,bh st.m e=some w/\ν e=ν e/\sameShape w u:=λe u h=>by by_cases k:e=d;subst k;rw[cz]at h;cases h;exact⟨ob,b,rfl,J⟩;rw[dO st.m ob' (Ne.symm k)]at h;exact⟨u,h,rfl,.refl _⟩
 have C:∀e u,bh (bH st.m d ob') e=some u->∃w,bh st.m e=some w/\cu w=cu u:=λe u h=>by by_cases k:e=d;subst k;rw[cz]at h;cases h;exact⟨ob,b,W.symm⟩;rw[dO st.m ob' (Ne.symm k)]at h;exact⟨u,h,rfl⟩
 refine⟨λs S J=>(r.slot s S J).mono z λe _=>Q e,λD u B=>?_,?_,?_,λid h=>by rw[(z id h).2];exact r.zrow id h,r.deep.mono λid h=>(z id h).2⟩
 .by_cases e:D=d
  .subst e;simp only at B;rw[cz]at B;cases B;exact Y
  simp only at B;rw[dO st.m ob' (Ne.symm e)]at B;refine dX.mono z rfl (λI=>U _ λh=>e (r.inj D d u ob B b I G h)) (λk _=>Q k) (r.obj D u B)
 .intro a d2 o1 o2 c T L X hp;have⟨p1,k1,O⟩:=C a o1 c;have⟨p2,k2,f⟩:=C d2 o2 T;exact r.inj a d2 p1 p2 k1 k2 (by rw[O];exact L) (by rw[f];exact X) hp
 intro a o1 c L;have⟨p1,k1,O⟩:=C a o1 c;exact r.apart a p1 k1 (by rw[O];exact L)
def Ev.gD(r:R ν Z st F H){d:Nat}{ob ob':bE}(a:bh st.m d=some ob)(J:sameShape ob ob')(U:cu ob'=cu ob)(G:∀id,id≠(ν d).1->H'[id]?=H[id]?)(B:cu ob=true)(O:H.length<=H'.length):
 Ev Rv ν Z st H ν Z {st with m:=bH st.m d ob'} H' where
 len:=O
 same:=λid _ z _ _=>G id λe=>z ⟨d,ob,a,B,e.symm⟩
 rows:=λid h=>⟨h,by unfold bq;rw[G id (by rintro rfl;exact r.apart d ob a B h)]⟩
 own:=λid⟨k,o,h1,C,w⟩=>by by_cases e:k=d;subst e;simp only at h1;rw[cz]at h1;cases h1;exact .inl ⟨k,ob,a,B,w⟩;simp only at h1;rw[dO st.m ob' (Ne.symm e)]at h1;exact .inl ⟨k,o,h1,C,w⟩
 frz:=λid h=>.inl h
 pin:=λe _ u h=>by by_cases k:e=d;subst k;simp only at h;rw[cz]at h;cases h;exact⟨ob,a,rfl,J⟩;simp only at h;rw[dO st.m ob' (Ne.symm k)]at h;exact⟨u,h,rfl,.refl _⟩
 pins:=rfl
def R.less(r:R ν Z st F H){g:Tb SV}{m':Tb bE}(a:∀s sv,bh g s=some sv->bh st.g s=some sv)(B:∀d ob,bh m' d=some ob->bh st.m d=some ob):R ν Z {st with g:=g,m:=m'} F H where
 slot:=λs sv z=>(r.slot s sv (a s sv z)).mono (λid h=>⟨h,rfl⟩) λe _ u h=>⟨u,B e u h,rfl,.refl _⟩
 obj:=λd ob C=>dX.mono (λid h=>⟨h,rfl⟩) rfl (λ_=>rfl) (λe _ u h=>⟨u,B e u h,rfl,.refl _⟩) (r.obj d ob (B d ob C))
 inj:=λd w ob u b D=>r.inj d w ob u (B d ob b) (B w u D)
 apart:=λd ob h=>r.apart d ob (B d ob h)
 zrow:=r.zrow
 deep:=r.deep
def Ev.less{g:Tb SV}{m':Tb bE}(B:∀d ob,bh m' d=some ob->bh st.m d=some ob):Ev Rv ν Z st H ν Z {st with g:=g,m:=m'} H:=⟨le_refl _,λ_ _ _ _ _=>rfl,λ_ h=>⟨h,rfl⟩,λ_⟨d,ob,a,w,z⟩=>.inl ⟨d,ob,B d ob a,w,z⟩,λ_ h=>.inl h,λe _ u h=>⟨u,B e u h,rfl,.refl _⟩,rfl⟩
def Ev.heap(B:H.length<=H'.length)(G:∀id,id<H.length->¬fq ν st.m id->¬Z id->¬Rv id->H'[id]?=H[id]?)(J:∀id,Z id->bq H' id=bq H id):Ev Rv ν Z st H ν Z st H':=⟨B,G,λid h=>⟨h,J id h⟩,λ_ h=>.inl h,λ_ h=>.inl h,λ_ _ u h=>⟨u,h,rfl,.refl _⟩,rfl⟩
def fZ.Fy{xs ys:Zt}(h:fZ H Z xs ys):uN H Z ys:=λc hc u b=>by
 have⟨i,z⟩:=mem_iff_getElem?.1 hc;have B:i<xs.length:=by rw[h.1];grind
 have a:=h.2 i _ c (ζd B) z;have⟨j,C⟩:=mem_iff_getElem?.1 b;have w:j<(xs[i]).length:=by rw[a.1];grind
 exact⟨_,a.2 j _ u (ζd w) C⟩
def fZ.same{xs:Zt}(h:V.mS xs=true):fZ H Z xs xs:=⟨rfl,λj u v a b=>by rw[a]at b;cases b;exact c9.same (kq.1 h j u a)⟩
def n9{z:Zu}(h:V.cr z=true):∀n,V.mS (replicate n z)=true
 |0=>rfl|n+1=>by simp[List.replicate_succ,V.mS,h,n9 h n]
def AY{es:Nat}:∀{ps qs:aY (Nat×V)}{xs B r:Zt},fZ H Z xs B->ps.map (·.1)=qs.map (·.1)->c9 H Z (ps.map (·.2)) (qs.map (·.2))->eS es xs ps=some r->∃J,eS es B qs=some J/\fZ H Z r J
 |[],qs,xs,B,r,G,a,O,h=>by have:qs=[]:=Ze;subst this;simp[eS]at h⊢;grind|(i,v)::ps,qs,xs,B,r,G,a,O,h=>by cases qs with|nil=>simp_all|cons q qs=>obtain⟨j,w⟩:=q;simp at a;obtain⟨e,a⟩:=a;subst e;obtain⟨w',C,e,u,z⟩:=O.inv;obtain⟨rfl,rfl⟩:=e;have hc:=u.cells;simp only[eS]at h⊢;split at h;rw[if_pos ⟨by rw[<-hc.1];grind,by rw[<-G.1];grind,by rw[hc.one];grind⟩];exact AY (G.set i hc) a z h;grind
def zip_fst:∀{idx:Zv}{xs:Zu},idx.length=xs.length->(idx.zip xs).map (·.1)=idx
 |[],xs,_=>Zc|i::idx,[],h=>Ze|i::idx,x::xs,h=>by simp[zip_fst (idx:=idx) (xs:=xs) Zd]
def DO:∀{idx:Zv}{xs:Zu},idx.length=xs.length->(idx.zip xs).map (·.2)=xs
 |[],[],_=>Zc|[],x::xs,h=>Ze|i::idx,[],h=>Ze|i::idx,x::xs,h=>by simp[DO (idx:=idx) (xs:=xs) Zd]
def LI{a:Mx}{svs:Zw}{ys:Zu}{d:Nat}{ob:bE}{sv:SV}(b:Ar (.a a)=true)(r:bY ν m H Z svs ys)(h:mI m a svs d=some (ob,sv)):
 ∃o mk,iM a ys=some (o,mk)/\cu ob=true/\o≠.free/\∀(id:Nat)(ν':Nu)(m':Tb bE)(H':bl),ν' d=(id,0)->bh m' d=some ob->H'[id]?=some o->(∀k,Z k->bq H' k=bq H k)->
  (∀e,SV.dy e svs=true->∀ob',bh m' e=some ob'->∃ob,bh m e=some ob/\ν' e=ν e/\sameShape ob ob')->dX ν' m' H' Z d ob/\cZ ν' m' H' Z sv (mk.val id):=by
 unfold mI at h;split at h
 .
  rename_i size zero;obtain⟨rfl,rfl⟩:=h;rw[r.cQ];simp only[Ar,ζh]at b;refine⟨_,_,rfl,rfl,Zc,λid ν' m' H' e1 e2 e3 e4 e5=>⟨⟨_,zero,by rw[e1];omega,bY.qJ (c9.same b.1),b.2⟩,?_⟩⟩
  exact .ptr _ _ _ λob' u=>by rw[e2]at u;cases u;exact⟨_,rfl,by rw[e1];rfl⟩
 .
  split at h
  .rename_i C;obtain⟨rfl,rfl⟩:=h;obtain⟨y,_,rfl,g,B⟩:=r.inv;rw[B.cQ];have hc:=g.fr.cells;refine⟨.row y.cells.length [y.cells],.ptr,by simp[iM,hc.one,C],rfl,Zc,λid ν' m' H' e1 e2 e3 e4 e5=>⟨⟨_,y.cells,by rw[e1];omega,bY.qJ (hc.mono λk b=>⟨b,e4 k b⟩),by rw[hc.one];simp_all⟩,?_⟩⟩
   exact .ptr _ _ _ λob' u=>by rw[e2]at u;cases u;exact⟨_,rfl,by rw[e1];rfl⟩
  grind
 .
  split at h
  .rename_i z;obtain⟨rfl,rfl⟩:=h;obtain⟨y,_,rfl,g,B⟩:=r.inv;rw[B.cQ];obtain⟨O,rfl,U⟩:=g.iC;have J:=Er z U;refine⟨.row O.length [O],.ptr,by simp[iM,V.cells,J],rfl,Zc,λid ν' m' H' e1 e2 e3 e4 e5=>⟨⟨_,O,by rw[e1];omega,U.mono (λk b=>⟨b,e4 k b⟩) λe Q=>e5 e (by simp[SV.dy,SV.cM,Q]),J⟩,?_⟩⟩
   exact .ptr _ _ _ λob' u=>by rw[e2]at u;cases u;exact⟨_,rfl,by rw[e1];rfl⟩
  grind
 .
  split at h
  .rename_i z;obtain⟨rfl,rfl⟩:=h;obtain⟨y,_,rfl,g,B⟩:=r.inv;rw[B.cQ];obtain⟨W,J⟩:=lK z g;refine⟨.row [y].length [[y]],.ptr,by simp[iM,W,J],rfl,Zc,λid ν' m' H' e1 e2 e3 e4 e5=>⟨⟨_,[y],by rw[e1];omega,.cons (g.mono (λk b=>⟨b,e4 k b⟩) λe Q=>e5 e (by simp[SV.dy,Q])) .nil,Ze⟩,?_⟩⟩
   exact .ptr _ _ _ λob' u=>by rw[e2]at u;cases u;exact⟨_,rfl,by rw[e1];rfl⟩
  grind
 .
  rename_i size zero k n l c;obtain⟨_,_,rfl,g,B⟩:=r.inv;obtain⟨_,_,rfl,X,Y⟩:=B.inv;rw[g.fr.int,X.fr.int,Y.cQ];split at h
  .rename_i hc;obtain⟨rfl,rfl⟩:=h;have S:cD (if n=c then Fl.row else Fl.part)=true:=by split<;>rfl
   refine⟨_,_,by simp only[iM];rw[if_pos hc],S,Zc,λid ν' m' H' e1 e2 e3 e4 e5=>⟨?_,?_⟩⟩
   .simp[dX,S,e1];have i:=n9 b c.toNat;have T:n.toNat<=c.toNat:=by omega
    refine⟨_,e3,Ze,?_,(fZ.same i).Fy,λe=>?_⟩
    .simp[Nat.min_eq_left T];exact fZ.same (n9 b _)
    grind
   refine .own _ _ λob' u=>?_
   rw[e2]at u;cases u;exact⟨_,_,_,rfl,by rw[rG S,e1];simp[Mk.val]⟩
  grind
 .
  rename_i vs size len zero idx;split at h
  .rename_i xs hx;split at h
   .rename_i z;obtain⟨rows,j,e⟩:=ζf.1 h;obtain⟨rfl,rfl⟩:=e;have L:=r.di hx;obtain⟨f,D,w⟩:=AY (qs:=idx.zip ys) (fZ.same (n9 b len)) (by rw[zip_fst z,zip_fst (by rw[<-L.1];exact z)]) (by rw[DO z,DO (by rw[<-L.1];exact z)];exact L) j
    have G:f.length=len:=by have:∀{ps:aY (Nat×V)}{a r:Zt},eS size a ps=some r->r.length=a.length:=(by intro ps;induction ps with|nil=>intro a r h;simp[eS]at h;subst h;rfl|cons p ps ih=>intro a r h;simp only[eS]at h;split at h;rw[ih h];simp;simp at h);rw[this D];simp
    refine⟨.row size f,.sl size len,by simp only[iM];rw[if_pos (by rw[<-L.1];exact z),D];rfl,rfl,Zc,λid ν' m' H' e1 e2 e3 e4 e5=>⟨?_,?_⟩⟩
    .have I:=w.mono λk b=>⟨b,e4 k b⟩
     simp only[dX,e1];refine⟨_,e3,by simp[w.1],?_,I.Fy,λ_=>⟨trivial,w.1.symm⟩⟩
     simp[w.1];exact I
    refine .own _ _ λob' u=>?_
    rw[e2]at u;cases u;exact⟨_,_,_,rfl,by rw[w.1,G];simp[rm,e1,Mk.val]⟩
   grind
  grind
 .
  obtain⟨rfl,rfl⟩:=h;rw[r.cQ];refine⟨_,_,rfl,rfl,Zc,λid ν' m' H' e1 e2 e3 e4 e5=>⟨⟨_,by rw[e1];exact e3,rfl,Zc⟩,?_⟩⟩
  exact .mp _ _ λob' u=>by rw[e2]at u;cases u;exact⟨_,rfl,by rw[e1];rfl⟩
 grind
def bY.Up{cs:Zw}{B:Zu}(h:bY ν m H Z cs B){size o:Nat}{x:SV}{y:V}{r:Zw}(O:cZ ν m H Z x y)(G:putCells m size o x cs=some r)(J:B.all V.one=true):
 y.cells.length=size/\o+size<=B.length/\y.cells.all V.one=true/\bY ν m H Z r (B.take o++y.cells++B.drop (o+y.cells.length))/\(B.take o++y.cells++B.drop (o+y.cells.length)).all V.one=true:=by
 have u:∀k:Nat,(B.take k).all V.one=true/\(B.drop k).all V.one=true:=λk=>⟨all_eq_true.2 λz C=>all_eq_true.1 J z (List.mem_of_mem_take C),all_eq_true.2 λz C=>all_eq_true.1 J z (mem_of_mem_drop C)⟩
 unfold putCells at G;split at G
 .split at G
  .rename_i hc;simp only[ζa]at G;subst G;have w:=O.fr.cells;refine⟨by rw[<-w.1];simp_all,by rw[<-h.1];grind,by rw[w.one];grind,?_,?_⟩
   .have e:y.cells.length=size:=by rw[<-w.1];simp_all
    rw[e];exact((h.take o).append (bY.qJ w)).append (h.drop _)
   simp only[List.all_append,(u _).1,(u _).2,w.one,hc.2.2,Bool.and_self]
  grind
 .split at G
  .rename_i hc;simp only[ζa]at G;subst G;obtain⟨D,rfl,I⟩:=O.iC;have L:=Er hc.2.2 I;have e:D.length=size:=by rw[<-I.1];simp_all
   refine⟨e,by rw[<-h.1];grind,L,?_,?_⟩
   .show bY ν m H Z _ (B.take o++D++B.drop (o+D.length));rw[e];exact((h.take o).append I).append (h.drop _)
   simp[(u _).1,(u _).2,V.cells,L]
  grind
 split at G
 .rename_i hc;simp only[ζa]at G;subst G;have⟨Q,S⟩:=lK hc.1 O;rw[Q];refine⟨by simp[hc.2.1],by rw[<-h.1];grind,Ze,?_,?_⟩
  .exact((h.take o).append (.cons O .nil)).append (h.drop _)
  grind
 grind
def tX{size:Nat}{x:SV}{y:V}{xs:Zt}(r:cZ ν m H Z x y)(G:∀d ob,bh m d=some ob->dX ν m H Z d ob)(h:iS m size x=some xs):∃ys,dz H size y=some ys/\fZ H Z xs ys:=by
 unfold iS at h;split at h;split at h;rename_i k es z u;obtain⟨_,_,_,e,rfl⟩:=r.jT u;cases e;have o:=G _ _ u;simp[dX]at o;split at h;rename_i a;rw[if_pos a]at o;split at h;next w=>simp at h;subst h;have⟨ys,b,B,C,_⟩:=o;rw[rG a];exact⟨_,by simp[dz,if_pos w,b,Ob.rows,if_pos B],C⟩
 grind;rename_i a;simp at h;subst h;refine⟨[],?_,rfl,Zc⟩;cases k<;>simp[cD]at a<;>rfl;grind;simp at h;subst h;rw[r.fr.bG];exact⟨[],rfl,rfl,Zc⟩;simp at h;subst h;rw[r.fr.dw];exact⟨[],rfl,rfl,Zc⟩;split at h;rename_i es z w;simp at h;subst h;have c:=r.fr.good;rcases r.fr.lX with rfl|⟨id,off,ys,rfl,D,b,B,C⟩;exact⟨_,by simp[dz,if_pos w],fZ.same (by simpa[V.good]using c)⟩;unfold bq at b;exact⟨_,by simp[dz,if_pos w,b,if_pos B],C⟩;grind;grind
def Ev.re{m1:Tb bE}(B:∀d ob,bh m1 d=some ob->bh st.m d=some ob){d:Nat}(U:d∉st.pin){ob:bE}{p:Nat×Nat}(G:H.length<=H'.length)(J:∀id,id<H.length->¬fq ν st.m id->¬Rv id->H'[id]?=H[id]?)
 (O:∀id,Z id->bq H' id=bq H id)(W:cu ob=true->fq ν st.m p.1\/Rv p.1\/H.length<=p.1):Ev Rv ν Z st H (iH ν d p) Z {st with m:=bH m1 d ob} H' where
 len:=G
 same:=λid h C _ hr=>J id h C hr
 rows:=λid h=>⟨h,O id h⟩
 own:=λid h=>by rcases DU h with h|⟨a,rfl⟩;have⟨k,o,a,w,z⟩:=h;exact .inl ⟨k,o,B k o a,w,z⟩;grind
 frz:=λid h=>.inl h
 pin:=λe D u h=>by have:e≠d:=Zd;have⟨o,a,w,z⟩:=s_ (ν:=ν) (p:=p) this u h;grind
 pins:=rfl
def Kept(dst:aZ Nat)(ν:Nu)(m:Tb bE)(ν':Nu)(m':Tb bE):Prop:=∀e u,dst≠some e->bh m' e=some u->∃ob,bh m e=some ob/\ν' e=ν e/\sameShape ob u
def Kept.refl{dst:aZ Nat}:Kept dst ν m ν m:=λe u _ h=>⟨u,h,rfl,.refl _⟩
def Kept.gD{dst:aZ Nat}{d:Nat}{ob ob':bE}(a:bh m d=some ob)(B:sameShape ob ob'):Kept dst ν m ν (bH m d ob'):=λe u _ h=>by by_cases k:e=d;subst k;rw[cz]at h;grind;rw[dO m ob' (Ne.symm k)]at h;exact⟨u,h,rfl,.refl _⟩
def Kept.add{d:Nat}{ob:bE}{p:Nat×Nat}{m1:Tb bE}(B:∀d ob,bh m1 d=some ob->bh m d=some ob):Kept (some d) ν m (iH ν d p) (bH m1 d ob):=λe u w h=>by have:e≠d:=λh=>w (by rw[h]);have⟨o,a,z,C⟩:=s_ (ν:=ν) (p:=p) this u h;grind
def kf{d:Nat}:∀e ob,bh (eo d m) e=some ob->bh m e=some ob:=λ_ _ h=>(nP h).2
def B3.put{k x y:V}{a b r:aY (V×V)}(J:k.scalar=true)(h:B3 H Z a b)(O:FR H Z x y)(B:pE k x a=some r):∃G,pE k y b=some G/\B3 H Z r G:=by unfold pE at B;obtain⟨f,d⟩:=BH h;split at B;rename_i j v D;simp at B;subst B;obtain⟨L,C,_⟩:=d j v D;refine⟨b.set j (k,y),by unfold pE;rw[C],by simp[h.1],λi u w c z=>?_⟩;rw[getElem?_set]at c z;split at c;grind;rename_i e;rw[if_neg e]at z;exact h.2 i u w c z;simp at B;subst B;refine⟨b++[(k,y)],by unfold pE;simp_all,by simp[h.1],λi u w c z=>?_⟩;by_cases I:i<a.length;rw[getElem?_append_left I]at c;rw[getElem?_append_left (by rw[<-h.1];omega)]at z;exact h.2 i u w c z;rw[getElem?_append_right (by rw[<-h.1];omega),<-h.1]at z;grind;grind
def Jd(r:R ν Z st F H){d:Nat}{cs:Zw}(B:bh st.m d=some (.box cs)):∀{l:Zw}{G:Zu},bY ν st.m H Z l G->l.all (Ll st.m d)=true->G.all (nK (ν d).1)=true:=by intro l;induction l with|nil=>intro G C _;rw[C.cQ];rfl|cons a l O=>intro G C D;obtain⟨w,G,rfl,g1,g2⟩:=C.inv;simp only[all_cons,ζh]at D⊢;refine⟨?_,O g2 D.2⟩;have u:=D.1;unfold Ll at u;split at u;rename_i Q T;simp at u;have⟨I,J⟩:=u;split at J;(next S z=>obtain⟨_,_,rfl⟩:=g1.oG z;simp[nK];exactλe=>I (r.inj Q d _ _ z B rfl rfl e));grind;rcases FR.l8 g1.fr with rfl|⟨id,el,off,_,_,_,rfl,L,_⟩;rfl;simp[nK];rintro rfl;exact r.apart d _ B rfl L;grind
def Bz(r:R ν Z st F H){dst:aZ Nat}{l:IJ}{svs:Zw}{ys:Zu}{sv:SV}(U:bY ν st.m H Z svs ys)(h:mw st dst l svs=some (sv,st')):
 ∃y H' ν',eY H l ys=some (y,H')/\R ν' Z st' F H'/\cZ ν' st'.m H' Z sv y/\Ev (λ_=>False) ν Z st H ν' Z st' H'/\Kept dst ν st.m ν' st'.m:=by
 unfold mw at h;split at h
 .
  rename_i size d o x;obtain⟨_,_,rfl,a,n⟩:=U.inv;obtain⟨y,_,rfl,g,p⟩:=n.inv;rw[p.cQ];split at h
  .rename_i cs B;have⟨av,N,e⟩:=ζf.1 h;obtain⟨rfl,rfl⟩:=e;obtain⟨_,_,rfl⟩:=a.oG B;have⟨es,G,f,hc,W⟩:=r.obj d _ B;have⟨p1,p2,p3,p4,p5⟩:=bY.Up hc g N W;have J:∀id,id≠(ν d).1->(H.set (ν d).1 (.row es [G.take o++y.cells++G.drop (o+y.cells.length)]))[id]?=H[id]?:=λid I=>by grind
   have D:∀id,Z id->Z id/\bq (H.set (ν d).1 (.row es [G.take o++y.cells++G.drop (o+y.cells.length)])) id=bq H id:=λid D=>⟨D,by
    unfold bq;rw[J id (by rintro rfl;exact r.apart d _ B rfl D)]⟩
   refine⟨.undef,H.set (ν d).1 (.row es [G.take o++y.cells++G.drop (o+y.cells.length)]),ν,?_,?_,.v _ _ (.same _ rfl),Ev.gD r B trivial rfl J rfl Zc,Kept.gD B trivial⟩
   .simp only[eY,f,getElem?_cons_zero,if_pos (And.intro p1 (And.intro p2 p3)),List.set_cons_zero]
   refine r.gD B trivial rfl J rfl ⟨es,_,?_,p4.mono D (λe _ Q q=>?_),p5⟩
   .grind
   by_cases k:e=d
   .subst k;rw[cz]at q;cases q;exact⟨_,B,rfl,trivial⟩
   rw[dO st.m _ (Ne.symm k)]at q;exact⟨Q,q,rfl,.refl _⟩
  grind
 .
  rename_i size d i o x;obtain⟨_,_,rfl,a,n⟩:=U.inv;obtain⟨y,_,rfl,g,p⟩:=n.inv;rw[p.cQ];split at h
  .rename_i k es xs B;split at h
   .rename_i cs ai;split at h
    .rename_i hc;obtain⟨rfl,rfl⟩:=h;obtain⟨_,_,_,e,b,rfl⟩:=a.w8 B;cases e;have ob:=r.obj d _ B;simp[dX,b]at ob;have⟨rs,f,P,hf,aj,ak⟩:=ob;have⟨c,al,ae⟩:=hf.get ai;have hi:=(ζe.1 ai).1;rw[getElem?_take,if_pos hi,getElem?_drop]at al;have hy:=g.fr.cells;have A:y.cells.length=size:=by rw[<-hy.1];exact hc.1
     have X:o+size<=c.length:=by rw[<-ae.1];exact hc.2.1
     have q3:y.cells.all V.one=true:=by rw[hy.one];exact hc.2.2
     have C:c9 H Z (cs.take o++x.cells++cs.drop (o+x.cells.length)) (c.take o++y.cells++c.drop (o+y.cells.length)):=by rw[hc.1,A];exact((ae.take o).append hy).append (ae.drop _)
     generalize hN:(c.take o++y.cells++c.drop (o+y.cells.length))=nc at C;have J:∀id,id≠(ν d).1->(H.set (ν d).1 (.row es (rs.set ((ν d).2+i) nc)))[id]?=H[id]?:=λid I=>by rw[getElem?_set];rw[if_neg (Ne.symm I)]
     have L:=b;have D:∀id,Z id->Z id/\bq (H.set (ν d).1 (.row es (rs.set ((ν d).2+i) nc))) id=bq H id:=λid D=>⟨D,by
      unfold bq;rw[J id (by rintro rfl;exact r.apart d _ B L D)]⟩
     have af:sameShape (.sl k es xs) (.sl k es (xs.set i (cs.take o++x.cells++cs.drop (o+x.cells.length)))):=⟨rfl,rfl,Zc⟩
     refine⟨.undef,H.set (ν d).1 (.row es (rs.set ((ν d).2+i) nc)),ν,?_,?_,.v _ _ (.same _ rfl),Ev.gD r B af rfl J L Zc,Kept.gD B af⟩
     .simp only[eY,f,al,if_pos (And.intro A (And.intro X q3)),hN]
     refine r.gD B af rfl J L ?_;simp only[dX,b];have aw:=(ζe.1 f).1;refine⟨_,getElem?_set_self aw,by simpa using P,?_,?_,λe=>?_⟩
     .have e1:take (xs.set i (cs.take o++x.cells++cs.drop (o+x.cells.length))).length (List.drop (ν d).2 (rs.set ((ν d).2+i) nc))=((rs.drop (ν d).2).take xs.length).set i nc:=by
       rw[List.length_set,List.drop_set,if_neg Za,List.take_set]
       congr 1;omega
      rw[e1];exact(hf.set i C).mono D
     .intro cc am u hu;rcases List.mem_or_eq_of_mem_set am with hm|rfl
      .have⟨z,ax⟩:=aj cc hm u hu;exact⟨z,ax.mono D⟩
      have⟨j,hj⟩:=mem_iff_getElem?.1 hu;have an:=(ζe.1 hj).1;rw[<-C.1]at an;exact⟨_,(C.2 j _ u (ζd an) hj).mono D⟩
     have⟨a1,S⟩:=ak e;exact⟨a1,by simpa using S⟩
    simp at h
   grind
  grind
 .
  rename_i kk d k x;obtain⟨_,_,rfl,a,n⟩:=U.inv;obtain⟨k',_,rfl,g,p⟩:=n.inv;obtain⟨y,_,rfl,h5,h6⟩:=p.inv;rw[h6.cQ];split at h
  .rename_i ay B;split at h
   .rename_i b;have⟨aJ,N,e⟩:=ζf.1 h;simp at e;obtain⟨rfl,rfl⟩:=e;obtain⟨_,_,rfl⟩:=a.Ct B;have aA:=g.fr.scalar.1 (uR b);subst aA;have⟨aK,f,aB⟩:=r.obj d _ B;have⟨r',aC,aD⟩:=aB.put (uR b) h5.fr N;have J:∀id,id≠(ν d).1->(H.set (ν d).1 (.map r'))[id]?=H[id]?:=λid I=>by rw[getElem?_set];rw[if_neg (Ne.symm I)]
    have D:∀id,Z id->Z id/\bq (H.set (ν d).1 (.map r')) id=bq H id:=λid D=>⟨D,by
     unfold bq;rw[J id (by rintro rfl;exact r.apart d _ B rfl D)]⟩
    refine⟨.undef,H.set (ν d).1 (.map r'),ν,?_,?_,.v _ _ (.same _ rfl),Ev.gD r B trivial rfl J rfl Zc,Kept.gD B trivial⟩
    .simp[eY,f,b,aC]
    refine r.gD B trivial rfl J rfl ⟨r',?_,aD.mono D⟩;rw[getElem?_set_self (ζe.1 f).1]
   simp at h
  simp at h
 .
  rename_i size s x;obtain⟨y1,_,rfl,a,n⟩:=U.inv;obtain⟨y2,_,rfl,g,p⟩:=n.inv;rw[p.cQ];split at h
  .rename_i xs e1 e2;have⟨a1,p1,_⟩:=tX a r.obj e1;have⟨S,p2,X⟩:=tX g r.obj e2;have:=length_eq_zero_iff.1 (by have:=X.1;simpa using this.symm)
   subst this
   cases dst with
   |none=>simp at h|some t=>
    have lit:∀(k:Fl)(E:V),cD k=false->rm (ν t) k size 0=E->st.new t=true->(∀y,FR H Z E y->y=E)->FR H Z E y1->
     ∃y H' ν',eY H (.append size) [y1,y2]=some (y,H')/\R ν' Z {st with m:=bH st.m t (.sl k size [])} F H'/\cZ ν' (bH st.m t (.sl k size [])) H' Z (.own t) y/\Ev (λ_=>False) ν Z st H ν' Z {st with m:=bH st.m t (.sl k size [])} H'/\Kept (some t) ν st.m ν' (bH st.m t (.sl k size [])):=λk E b aE M hx hf=>by
     have ao:cu (.sl k size [])=true->False:=by simp[cu,b]
     refine⟨y1,H,iH ν t (ν t),by simp[eY,p1,p2],r.add M (λh=>(ao h).elim) (by simp[dX,b]),.own _ _ λQ K=>?_,Ev.add M (le_refl _) (λ_ _ _=>rfl) (λ_ _=>rfl) (λh=>(ao h).elim),Kept.add λ_ _ h=>h⟩
     rw[cz]at K;cases K;exact⟨_,_,_,rfl,by rw[gN,hx _ hf];exact aE.symm⟩
    cases s with
    |own d=>
     dsimp only at h;split at h
     .rename_i ob B;split at h
      .rename_i C;simp at h;obtain⟨rfl,rfl⟩:=h;simp[iS,B]at e1
       cases ob with
       |sl k es Y=>
        obtain⟨_,_,_,e,rfl⟩:=a.jT B;cases e;have r1:R ν Z {st with m:=eo d st.m} F H:=r.less (λ_ _ h=>h) kf
        have⟨n1,_,_,_⟩:=mh C;have ap:dX (iH ν t (ν d)) (bH (eo d st.m) t (.sl k es Y)) H Z t (.sl k es Y):=by have o:=r.obj d _ B;simp[dX,gN]at o⊢;exact o
        refine⟨rm (ν d) k es Y.length,H,iH ν t (ν d),by simp[eY,p1,p2],r1.add C (λhb=>⟨λT=>?_,r.apart d _ B hb⟩) ap,.own _ _ λQ K=>?_,?_,Kept.add kf⟩
        .have⟨k2,o2,g1,g2,g3⟩:=T;have⟨g4,g5⟩:=nP g1;exact g4 (r.inj d k2 _ o2 B g5 hb g2 g3.symm)
        .rw[cz]at K;cases K;exact⟨_,_,_,rfl,by rw[gN]⟩
        by_cases hb:cu (.sl k es Y)=true
        .exact Ev.re (m1:=eo d st.m) kf n1 (le_refl _) (λ_ _ _ _=>rfl) (λ_ _=>rfl) (λ_=>.inl ⟨d,_,B,hb,rfl⟩)
        exact(Ev.less kf).trans (Ev.add C (le_refl _) (λ_ _ _=>rfl) (λ_ _=>rfl) λh=>absurd h hb)
       |box cs=>cases e1|mp ay=>cases e1
      simp at h
     simp at h
    |v E=>
     cases E with
     |bG=>
      dsimp only at h;split at h
      next M=>simp at h;obtain⟨rfl,rfl⟩:=h;exact lit .nil _ rfl rfl M (λy h=>h.bG) a.fr
      simp at h
     |dw=>
      dsimp only at h;split at h
      next M=>simp at h;obtain⟨rfl,rfl⟩:=h;exact lit .emp _ rfl rfl M (λy h=>h.dw) a.fr
      simp at h
     |_=>simp at h
    |_=>simp at h
  .rename_i xs zs I e1 e2;split at h
   .rename_i hc;have⟨a1,p1,A⟩:=tX a r.obj e1;have⟨S,p2,X⟩:=tX g r.obj e2
    cases dst with
    |none=>simp at h|some t=>
     dsimp only at h;generalize aq:giveUp st.m s=m1 at h;split at h
     .rename_i C;simp at h;obtain⟨rfl,rfl⟩:=h;have⟨n1,_,_,_⟩:=mh C;have grow:∃H1,gF H y1=some H1/\H1.length=H.length/\(∀id,¬fq ν st.m id->H1[id]?=H[id]?)/\
       (∀id,fq ν m1 id->H1[id]?=H[id]?)/\(∀id,Z id->bq H1 id=bq H id):=by
       subst aq
       cases s with
       |own d=>
        simp[iS]at e1;split at e1
        .rename_i k es Y B;obtain⟨_,_,_,e,rfl⟩:=a.jT B;cases e
         by_cases b:cD k=true
         .have o:=r.obj d _ B;simp[dX,b]at o;have⟨ys,f,_⟩:=o;have L:=b;have J:∀id,id≠(ν d).1->(H.set (ν d).1 .dead)[id]?=H[id]?:=λid I=>by rw[getElem?_set];rw[if_neg (Ne.symm I)]
          refine⟨H.set (ν d).1 .dead,by rw[rG b];simp[gF,f],Zc,λid T=>J id λe=>T ⟨d,_,B,L,e.symm⟩,λid T=>J id λe=>?_,λid D=>?_⟩
          .have⟨k2,o2,g1,g2,g3⟩:=T;have⟨g4,g5⟩:=nP g1;exact g4 (r.inj d k2 _ o2 B g5 L g2 (by rw[g3,e]))
          unfold bq;rw[J id (by rintro rfl;exact r.apart d _ B L D)]
         refine⟨H,?_,rfl,λ_ _=>rfl,λ_ _=>rfl,λ_ _=>rfl⟩
         cases k<;>simp[cD]at b<;>rfl
        simp at e1
       |v E=>
        refine⟨H,?_,rfl,λ_ _=>rfl,λ_ _=>rfl,λ_ _=>rfl⟩
        cases E<;>simp[HO]at hc
        .rw[a.fr.dw];rfl
        rw[a.fr.bG];rfl
       |_=>simp[HO]at hc
      have⟨H1,g1,g2,g3,g4,g5⟩:=grow;have O:∀e ob,bh m1 e=some ob->bh st.m e=some ob:=by subst aq;cases s<;>first|exactλ_ _ h=>h|exact kf
      have ad:∀id,fq ν m1 id->id<H.length:=λid⟨k,o,w1,w2,w3⟩=>r.lt ⟨k,o,O k o w1,w2,w3⟩
      have aa:∀id,id<H.length->(H1++[Ob.row size (a1++S)])[id]?=H1[id]?:=λid P=>getElem?_append_left (by rw[g2];exact P)
      have ah:∀id,Z id->bq (H1++[Ob.row size (a1++S)]) id=bq H id:=λid D=>by have:=g5 id D;unfold bq at this⊢;rw[aa id (r.vw D)];exact this
      have r1:=r.less (λ_ _ h=>h) O
      have r2:=r1.heap (λid T=>by rw[aa id (ad id T)];exact g4 id T) ah
      have ff:=(A.append X).mono λid D=>⟨D,ah id D⟩
      have ab:(H1++[Ob.row size (a1++S)])[H.length]?=some (.row size (a1++S)):=by rw[<-g2];simp
      refine⟨.hsl H.length size 0 (xs.length+zs.length),H1++[Ob.row size (a1++S)],iH ν t (H.length,0),?_,?_,?_,?_,Kept.add O⟩
      .have ar:S≠[]:=by
        rintro rfl;have aF:=length_eq_zero_iff.1 (by have:=X.1;simpa using this)
        exact I aF
       have aG:a1.length+S.length<=2147483648:=by rw[<-A.1,<-X.1];exact hc.1
       have aH:=A.1;have aI:=X.1
       cases S with
       |nil=>exact absurd rfl ar|cons w ws=>simp only[eY,p1,p2,if_pos aG,g1,map_some,aH,aI]
      .refine r2.add C (λ_=>⟨λT=>?_,λD=>?_⟩) ?_
       .exact absurd (ad _ T) Zc
       .exact absurd (r.vw D) Zc
       simp only[dX,gN];refine⟨_,ab,by simp[A.1,X.1],?_,ff.Fy,λ_=>⟨trivial,by simp[A.1,X.1]⟩⟩
       have:(xs++zs).length=(a1++S).length:=by simp[A.1,X.1]
       rw[this,drop_zero,take_length];exact ff
      .refine .own _ _ λQ K=>?_
       simp only at K;rw[cz]at K;cases K;exact⟨_,_,_,rfl,by simp[rm,gN]⟩
      refine Ev.re O n1 (by simp[g2]) (λid P T _=>?_) ah (λ_=>.inr (.inr (le_refl _)))
      rw[aa id P];exact g3 id T
     simp at h
   simp at h
  simp at h
 .
  rename_i size d o x l;obtain⟨_,_,rfl,a,n⟩:=U.inv;obtain⟨y,aL,rfl,g,p⟩:=n.inv;split at h
  .rename_i au;split at h
   .rename_i cs B;have⟨av,N,e⟩:=ζf.1 h;simp at e;obtain⟨rfl,rfl⟩:=e;obtain⟨_,_,rfl⟩:=a.oG B;have⟨es,G,f,hc,W⟩:=r.obj d _ B;have⟨p1,p2,p3,p4,p5⟩:=bY.Up hc g N W;have J:∀id,id≠(ν d).1->(H.set (ν d).1 (.row es [G.take o++y.cells++G.drop (o+y.cells.length)]))[id]?=H[id]?:=λid I=>by rw[getElem?_set];rw[if_neg (Ne.symm I)]
    have D:∀id,Z id->Z id/\bq (H.set (ν d).1 (.row es [G.take o++y.cells++G.drop (o+y.cells.length)])) id=bq H id:=λid D=>⟨D,by
     unfold bq;rw[J id (by rintro rfl;exact r.apart d _ B rfl D)]⟩
    refine⟨.undef,H.set (ν d).1 (.row es [G.take o++y.cells++G.drop (o+y.cells.length)]),ν,?_,?_,.v _ _ (.same _ rfl),Ev.gD r B trivial rfl J rfl Zc,Kept.gD B trivial⟩
    .simp only[eY,Jd r B p au,if_true,f,getElem?_cons_zero,if_pos (And.intro p1 (And.intro p2 p3)),List.set_cons_zero]
    refine r.gD B trivial rfl J rfl ⟨es,_,?_,p4.mono D (λe _ Q q=>?_),p5⟩
    .have:=(ζe.1 f).1;rw[getElem?_set_self this]
    by_cases k:e=d
    .subst k;rw[cz]at q;cases q;exact⟨_,B,rfl,trivial⟩
    rw[dO st.m _ (Ne.symm k)]at q;exact⟨Q,q,rfl,.refl _⟩
   simp at h
  simp at h
 grind
end
def yM(d:Nat)(st:St):aZ St:=
 match bh st.m d with
 |some (.sl k es u)=>some {st with g:=BG (SV.sub d (ov k es u)) st.g,m:=mapM (SV.uC d (ov k es u)) (eo d st.m)}|_=>none
def Vu(st:St):Loc->aZ SV
 |.s n=>bh st.g n|.c b i=>match bh st.m b with
  |some (.box cs)=>cs[i]?|_=>none
def ghost(x:Gh)(st:St):aZ St:=
 match x with
 |.closeS l=>match Vu st l with
  |some (.own d)=>yM d st|some _=>some st|none=>none
 |.close d=>yM d st|.closeB d=>match bh st.m d with
  |some (.box u)=>match di u with
   |some w=>some {st with g:=BG (SV.B1 d w) st.g,m:=mapM (SV.qQ d w) (eo d st.m)}|none=>none
  |_=>none
 |.canon (.s n) d es=>match bh st.g n with
  |some (.v .bG)=>if st.new d then some {st with g:=bH st.g n (.own d),m:=bH st.m d (.sl .nil es [])}else none|some (.v .dw)=>if st.new d then some {st with g:=bH st.g n (.own d),m:=bH st.m d (.sl .emp es [])}else none|some (.own e)=>if e=d then some st else if st.new d then some {st with g:=zo e d st.g,m:=uB e d st.m}else none|some (.ptr e _)=>if e=d then some st else if st.new d then some {st with g:=zo e d st.g,m:=uB e d st.m}else none|_=>none
 |.canon (.c b i) d es=>match bh st.m b with
  |some (.box u)=>match u[i]?with
   |some (.v .bG)=>if st.new d then some {st with m:=bH (bH st.m d (.sl .nil es [])) b (.box (u.set i (.own d)))}else none|some (.v .dw)=>if st.new d then some {st with m:=bH (bH st.m d (.sl .emp es [])) b (.box (u.set i (.own d)))}else none|some (.own e)=>if e=d then some st else if st.new d then some {st with g:=zo e d st.g,m:=uB e d st.m}else none|_=>none
  |_=>none
 |.keep gs z=>match k_ st.g gs,k_ st.m z with
  |some g,some m=>some {st with g:=g,m:=m}|_,_=>none
 |.drop ds=>some {st with g:=o7 ds st.g}
section
variable{Rv:Nat->Prop}{ν ν':Nu}{Z Z':Nat->Prop}{st st':St}{m m':Tb bE}{F F':Zo}{H H':bl}{N:Nat->Zk}
def MU(r:R ν Z st F H){dst:aZ Nat}{size d:Nat}{O U:Zl}{W:Zw}{ys:Zu}{sv:SV}(G:bY ν st.m H Z (.own d::W) ys)(h:zk st dst size O U d W=some (sv,st')):
 ∃y ν',bJ N (.slice size O U) ys=some y/\R ν' Z st' F H/\cZ ν' st'.m H Z sv y/\Ev Rv ν Z st H ν' Z st' H:=by
 unfold zk at h;obtain⟨g,i,rfl,c,T⟩:=G.inv;split at h
 .rename_i k es D ws t u X;split at h
  .rename_i hk;have⟨⟨l,j⟩,Y,h⟩:=ζg.1 h;have⟨⟨a,b⟩,B,h⟩:=ζg.1 h;dsimp only at h;split at h
   .rename_i w;obtain⟨rfl,rfl⟩:=h;obtain⟨_,_,_,e,rfl⟩:=c.jT u;cases e;have I:b<=D.length/\a<=b:=by
     unfold dR at B
     grind
    have o:=r.obj d _ u;simp[dX,hk.1]at o;have⟨rs,n,p,f,Q,_⟩:=o;have z:=hk.1;have r1:R ν Z {st with m:=eo d st.m} F H:=r.less (λ_ _ h=>h) kf
    have J:¬fq ν (eo d st.m) (ν d).1:=by rintro⟨k2,o2,g1,g2,g3⟩;have⟨g4,g5⟩:=nP g1;exact g4 (r.inj d k2 _ o2 u g5 z g2 g3.symm)
    have C:((D.take b).drop a).length=b-a:=Ze
    refine⟨.hsl (ν d).1 es ((ν d).2+a) (b-a),iH ν t ((ν d).1,(ν d).2+a),?_,?_,?_,?_⟩
    .have L:=bY.di T X;rw[rG hk.1];simp[bJ,L.me Y,g_,if_pos hk.2,B]
    .refine r1.add w (λ_=>⟨J,r.apart d _ u z⟩) ?_
     simp[dX,cD,gN];have:=(f.take b).drop a;have e:List.drop a (take b (take D.length (List.drop (ν d).2 rs)))=take (b-a) (List.drop ((ν d).2+a) rs):=by rw[List.take_take,Nat.min_eq_left I.1,List.drop_take,drop_drop]
     grind
    .refine .own _ _ λq S=>?_
     rw[cz]at S;cases S;exact⟨_,_,_,rfl,by rw[C];simp[rm,gN]⟩
    exact Ev.re (st:=st) kf (mh w).1 (le_refl _) (λ_ _ _ _=>rfl) (λ_ _=>rfl) (λ_=>.inl ⟨d,_,u,z,rfl⟩)
   grind
  grind
 grind
def ES{f:SV->SV}:∀{g:Tb SV}{s:Nat},bh (BG f g) s=(bh g s).map f
 |[],s=>rfl|(k,x)::r,s=>by simp[BG,bh];split;rfl;exact ES
def yu(f:Zw->Zw):bE->bE
 |.box cs=>.box (f cs)|o=>o
def En{f:Zw->Zw}:∀{m:Tb bE}{d:Nat},bh (mapM f m) d=(bh m d).map (yu f)
 |[],d=>rfl|(k,x)::r,d=>by cases x<;>simp[mapM,bh]<;>split<;>first|rfl|exact En
def sW{d:Nat}{w:V}:∀{l:Zw}{j:Nat},(SV.uC d w l)[j]?=(l[j]?).map (SV.sub d w)
 |[],j=>by simp[SV.uC]|x::r,0=>by simp[SV.uC]|x::r,j+1=>by simp[SV.uC,sW]
def rM{d:Nat}{w:Zu}:∀{l:Zw}{j:Nat},(SV.qQ d w l)[j]?=(l[j]?).map (SV.B1 d w)
 |[],j=>by simp[SV.qQ]|x::r,0=>by simp[SV.qQ]|x::r,j+1=>by simp[SV.qQ,rM]
def oL{d:Nat}{w:V}:∀{l:Zw},(SV.uC d w l).length=l.length
 |[]=>rfl|x::r=>by simp[SV.uC,oL]
def nN{d:Nat}{w:Zu}:∀{l:Zw},(SV.qQ d w l).length=l.length
 |[]=>rfl|x::r=>by simp[SV.qQ,nN]
def cZ.sub{sv:SV}{y:V}{d:Nat}{k:Fl}{es:Nat}{xs:Zt}(l:bh m d=some (.sl k es xs))(G:FR H Z' (ov k es xs) (rm (ν d) k es xs.length))(J:∀id,Z id->Z' id)
 (U:∀e ob',bh m' e=some ob'->e≠d/\∃ob,bh m e=some ob/\sameShape ob ob')(r:cZ ν m H Z sv y):cZ ν m' H Z' (sv.sub d (ov k es xs)) y:=by
 have w:∀id,Z id->Z' id/\bq H id=bq H id:=λid h=>⟨J id h,rfl⟩
 have C:∀e ob',bh m' e=some ob'->∃ob,bh m e=some ob/\ν e=ν e/\sameShape ob ob':=λe ob' h=>Zd
 induction r with
 |v x y h=>exact .v x y (h.mono w)|own e y h=>
  simp[SV.sub];split
  next I=>subst I;obtain⟨_,_,_,e1,rfl⟩:=h _ l;cases e1;exact .v _ _ G
  exact(cZ.own e y h).mono w λe _=>C e
 |ptr e o y h=>exact(cZ.ptr e o y h).mono w λe _=>C e|el e i o y h=>exact(cZ.el e i o y h).mono w λe _=>C e|mp e y h=>exact(cZ.mp e y h).mono w λe _=>C e|clo f a b z L D S hva O B Q=>
  refine .clo f _ _ z L (by rw[oL];omega) (by rw[oL];omega) (λj u v c g=>?_) (λj u v c g=>?_)
  .rw[sW,ζf]at c;grind
  rw[sW,ζf]at c;grind
 |tup a z D hva B=>
  refine .tup _ z (by rw[oL];omega) (λj u v c g=>?_)
  rw[sW,ζf]at c;grind
 |agg a z D hva B=>
  refine .agg _ z (by rw[oL];omega) (λj u v c g=>?_)
  rw[sW,ζf]at c;grind
 |yl id=>exact .yl id
theorem RG {f:FuncId} {a b:aY SV} {y:V} (r:cZ ν m H Z (.clo f a b) y):cZ ν m H Z (OK f a b) y:=by
 unfold OK;split
 .rename_i x z D G;cases r with|clo _ _ _ w B I J hva u=>
  have h1:=bY.di (ν:=ν) (m:=m) (H:=H) (Z:=Z) (ys:=w) ⟨I,hva⟩ D;have C:=bY.di (ν:=ν) (m:=m) (H:=H) (Z:=Z) (ys:=B) ⟨J,u⟩ G;exact .v _ _ (.clo f x z w B h1.1 C.1 h1.2 C.2)
 exact r
def cZ.B1{sv:SV}{y:V}{d:Nat}{cs:Zw}{xs:Zu}(k:bh m d=some (.box cs))(O:∀o,o<=xs.length->FR H Z' (.fptr (xs.drop o)) (.hptr (ν d).1 0 o))(U:∀id,Z id->Z' id)
 (W:∀e ob',bh m' e=some ob'->e≠d/\∃ob,bh m e=some ob/\sameShape ob ob')(r:cZ ν m H Z sv y):cZ ν m' H Z' (sv.B1 d xs) y:=by
 have z:∀id,Z id->Z' id/\bq H id=bq H id:=λid h=>⟨U id h,rfl⟩
 have D:∀e ob',bh m' e=some ob'->∃ob,bh m e=some ob/\ν e=ν e/\sameShape ob ob':=λe ob' h=>by have⟨_,ob,l,L⟩:=W e ob' h;exact⟨ob,l,rfl,L⟩
 induction r with
 |v x y h=>exact .v x y (h.mono z)|own e y h=>exact(cZ.own e y h).mono z λe _=>D e|ptr e o y h=>
  simp only[SV.B1];split
  .rename_i Q;subst Q;obtain⟨_,e1,rfl⟩:=h _ k;split
   next S=>exact .v _ _ (O o S)
   exact(cZ.ptr e o _ h).mono z λe _=>D e
  exact(cZ.ptr e o y h).mono z λe _=>D e
 |el e i o y h=>exact(cZ.el e i o y h).mono z λe _=>D e|mp e y h=>exact(cZ.mp e y h).mono z λe _=>D e|clo f a b G T I X hva Y B J=>
  refine RG (.clo f _ _ G T (by rw[nN];exact I) (by rw[nN];exact X) (λj u v c g=>?_) (λj u v c g=>?_))
  .rw[rM,ζf]at c;obtain⟨C,w,rfl⟩:=c;exact B j C v w g
  rw[rM,ζf]at c;obtain⟨C,w,rfl⟩:=c;exact J j C v w g
 |tup a G I hva B=>
  refine .tup _ G (by rw[nN];exact I) (λj u v c g=>?_)
  rw[rM,ζf]at c;obtain⟨C,w,rfl⟩:=c;exact B j C v w g
 |agg a G I hva B=>
  refine .agg _ G (by rw[nN];exact I) (λj u v c g=>?_)
  rw[rM,ζf]at c;obtain⟨C,w,rfl⟩:=c;exact B j C v w g
 |yl id=>exact .yl id
def dX.yu{d:Nat}{ob:bE}{f:Zw->Zw}(G:∀id,Z id->Z' id)(U:∀l,(f l).length=l.length)
 (J:∀cs B,bY ν m H Z cs B->bY ν m' H Z' (f cs) B)(o:dX ν m H Z d ob):dX ν m' H Z' d (yu f ob):=by
 have u:∀id,Z id->Z' id/\bq H id=bq H id:=λid h=>⟨G id h,rfl⟩
 cases ob with
 |sl k es Q=>
  simp[Go.VE.yu,dX]at o⊢;split
  next b=>rw[if_pos b]at o;have⟨D,a,w,C,I,L⟩:=o;exact⟨D,a,w,C.mono u,I.mono u,L⟩
  grind
 |box cs=>have⟨es,B,a,w,C⟩:=o;exact⟨es,B,a,J cs B w,C⟩|mp O=>have⟨z,a,w⟩:=o;exact⟨z,a,w.mono u⟩
def wE{f:Zw->Zw}{ob:bE}:cu (yu f ob)=cu ob:=by cases ob<;>rfl
def KI{f:Zw->Zw}{ob:bE}:sameShape ob (yu f ob):=by cases ob<;>simp[yu,sameShape]
def R.shut(r:R ν Z st F H){d:Nat}{ob:bE}(t:bh st.m d=some ob){fs:SV->SV}{G:Zw->Zw}(A:∀l,(G l).length=l.length)(V:∀l(j:Nat),(G l)[j]?=(l[j]?).map fs)
 (B:∀id,Z' id↔Z id\/(cu ob=true/\id=(ν d).1))(J:cu ob=true->∃es ys,H[(ν d).1]?=some (.row es ys)/\uN H Z ys)
 (hf:∀m',(∀e ob',bh m' e=some ob'->e≠d/\∃ob,bh st.m e=some ob/\sameShape ob ob')->∀sv y,cZ ν st.m H Z sv y->cZ ν m' H Z' (fs sv) y):
 R ν Z' {st with g:=BG fs st.g,m:=mapM G (eo d st.m)} F H/\Ev Rv ν Z st H ν Z' {st with g:=BG fs st.g,m:=mapM G (eo d st.m)} H:=by
 have key:∀e ob',bh (mapM G (eo d st.m)) e=some ob'->e≠d/\∃ob,bh st.m e=some ob/\ob'=yu G ob:=λe ob' h=>by rw[En,ζf]at h;obtain⟨o,a,rfl⟩:=h;have⟨w,E⟩:=nP a;grind
 have L:∀e ob',bh (mapM G (eo d st.m)) e=some ob'->e≠d/\∃ob,bh st.m e=some ob/\sameShape ob ob':=λe ob' h=>by obtain⟨a,o,w,rfl⟩:=key e ob' h;exact⟨a,o,w,KI⟩
 have K:=hf _ L;have T:∀U C,bY ν st.m H Z U C->bY ν (mapM G (eo d st.m)) H Z' (G U) C:=λU C h=>by refine⟨by rw[A];exact h.1,λj u v i hv=>?_⟩;rw[V,ζf]at i;obtain⟨M,W,rfl⟩:=i;exact K M v (h.2 j M v W hv)
 have z:=λid h=>(B id).2 (.inl h)
 refine⟨⟨λs sv S=>?_,λe ob' X=>?_,λb N o1 o2 a w I P hp=>?_,λb o1 a I=>?_,λid h=>?_,⟨λid es ys O f c hc u i=>?_⟩⟩,⟨le_refl _,λ_ _ _ _ _=>rfl,λid h=>⟨z id h,rfl⟩,?_,?_,?_,rfl⟩⟩
 .rw[ES,ζf]at S;obtain⟨Q,Y,rfl⟩:=S;exact K Q _ (r.slot s Q Y)
 .obtain⟨a,o,w,rfl⟩:=key e ob' X;exact dX.yu z A T (r.obj e o w)
 .obtain⟨_,p1,k1,rfl⟩:=key b o1 a;obtain⟨_,p2,k2,rfl⟩:=key N o2 w;rw[wE]at I P;exact r.inj b N p1 p2 k1 k2 I P hp
 .obtain⟨aa,p1,k1,rfl⟩:=key b o1 a;rw[wE]at I;intro O;rcases(B _).1 O with O|⟨D,X⟩
  .exact r.apart b p1 k1 I O
  exact aa (r.inj b d p1 ob k1 t I D X)
 .rcases (B id).1 h with h|⟨D,rfl⟩
  .exact r.zrow id h
  have⟨es,ys,f,_⟩:=J D;unfold bq;rw[f];rfl
 .rcases (B id).1 O with h|⟨D,rfl⟩
  .have⟨x,q⟩:=r.deep.row id es ys h f c hc u i;exact⟨x,q.mono λk n=>⟨z k n,rfl⟩⟩
  have⟨ad,ae,ab,S⟩:=J D;unfold bq at f;rw[ab]at f;obtain⟨_,rfl⟩:=f;have⟨x,q⟩:=S c hc u i;exact⟨x,q.mono λk n=>⟨z k n,rfl⟩⟩
 .rintro id ⟨e,o,a,w,E⟩;obtain⟨_,p,k1,rfl⟩:=key e o a;rw[wE]at w;exact .inl ⟨e,p,k1,w,E⟩
 .intro id h;rcases(B id).1 h with h|⟨D,rfl⟩
  .grind
  exact .inr (.inl ⟨d,ob,t,D,rfl⟩)
 grind
def Gn(r:R ν Z st F H){d:Nat}(h:yM d st=some st'):∃Z',R ν Z' st' F H/\Ev Rv ν Z st H ν Z' st' H:=by
 simp[yM]at h;split at h;rename_i k es w u;simp at h;subst h;have o:=r.obj d _ u;refine⟨λid=>Z id\/(cu (.sl k es w)=true/\id=(ν d).1),R.shut r u (λ_=>oL) (λ_ _=>sW) (λ_=>Iff.rfl) (λB=>?_) (λm' z G y b=>?_)⟩;have a:cD k=true:=B;simp[dX,a]at o;grind;refine cZ.sub u ?_ (λid h=>.inl h) z b;by_cases a:cD k=true;simp[dX,a]at o;have⟨I,b,C,D,J,_⟩:=o;rw[rG a];have e:ov k es w=.fsl es w:=by cases k<;>simp[cD]at a<;>rfl
 rw[e];refine FR.K2 (.inr ⟨a,rfl⟩) (by unfold bq;rw[b];rfl) C (D.mono λid h=>⟨.inl h,rfl⟩);cases k<;>simp[cD]at a;exact .same _ rfl;exact .same _ rfl;grind
def M_(r:R ν Z st F H){d:Nat}(h:ghost (.closeB d) st=some st'):∃Z',R ν Z' st' F H/\Ev Rv ν Z st H ν Z' st' H:=by
 simp[ghost]at h;split at h;rename_i I w;split at h;rename_i J L;simp at h;subst h;have⟨es,z,a,hc,_⟩:=r.obj d _ w;have C:=hc.di L;have O:uN H Z [z]:=by intro c B u b;simp[List.mem_singleton]at B;subst B;have⟨j,Q⟩:=mem_iff_getElem?.1 b;have S:j<J.length:=(by rw[C.1];grind);exact⟨_,C.2 j _ u (ζd S) Q⟩
 refine⟨λid=>Z id\/(cu (.box I)=true/\id=(ν d).1),R.shut r w (λ_=>nN) (λ_ _=>rM) (λ_=>Iff.rfl) (λT=>⟨es,_,a,O⟩) (λm' D U y G=>?_)⟩;refine cZ.B1 w (λo W=>?_) (λid h=>.inl h) D G;exact FR.Cc (.inr ⟨rfl,rfl⟩) (show bq H (ν d).1=some (es,[z])by unfold bq;rw[a];rfl) rfl (by rw[<-C.1];omega) ((C.drop o).mono λid h=>⟨.inl h,rfl⟩);grind;grind
def tc{d e:Nat}:∀{l:Zw}{j:Nat},(SV.uv d e l)[j]?=(l[j]?).map (SV.tZ d e)
 |[],j=>by simp[SV.uv]|x::r,0=>by simp[SV.uv]|x::r,j+1=>by simp[SV.uv,tc]
def oN{d e:Nat}:∀{l:Zw},(SV.uv d e l).length=l.length
 |[]=>rfl|x::r=>by simp[SV.uv,oN]
def EZ{d e:Nat}:∀{g:Tb SV}{s:Nat},bh (zo d e g) s=(bh g s).map (SV.tZ d e)
 |[],s=>rfl|(k,x)::r,s=>by simp[zo,bh];split;rfl;exact EZ
def yS{d e:Nat}(B:d≠e):∀{m:Tb bE}{k:Nat},bh m e=none->bh (uB d e m) k=(if k=d then none else(bh m (if k=e then d else k)).map (bE.tZ d e))
 |[],k,_=>by simp[uB,bh]|(n,x)::r,k,h=>by simp[bh]at h;split at h;simp_all;have G:=yS B (k:=k) h;simp[uB,bh];grind
def uP(ν:Nu)(d e:Nat):Nu:=λk=>if k=e then ν d else ν k
def cZ.tZ{sv:SV}{y:V}{d e:Nat}(U:bh m e=none)(G:sv.cM e=false)(J:d≠e)(r:cZ ν m H Z sv y):cZ (uP ν d e) (uB d e m) H Z (sv.tZ d e) y:=by
 have key:∀k,k≠e->∀w,bh (uB d e m) (if k=d then e else k)=some w->∃ob,bh m k=some ob/\uP ν d e (if k=d then e else k)=ν k/\w=ob.tZ d e:=λk l w h=>by rw[yS J U]at h;by_cases c:k=d;subst c;rw[if_pos rfl,if_neg (Ne.symm J),if_pos rfl,ζf]at h;obtain⟨ob,B,rfl⟩:=h;exact⟨ob,B,by unfold uP;grind,rfl⟩;rw[if_neg c,if_neg c,if_neg l,ζf]at h;obtain⟨ob,B,rfl⟩:=h;exact⟨ob,B,by unfold uP;grind,rfl⟩
 induction r with|v x y h=>exact .v x y h|own k y h=>have l:k≠e:=(by rintro rfl;simp[SV.cM]at G);refine .own _ y λw D=>?_;obtain⟨ob,c,B,rfl⟩:=key k l w D;obtain⟨_,_,_,rfl,rfl⟩:=h ob c;exact⟨_,_,_,rfl,by rw[B]⟩|ptr k o y h=>have l:k≠e:=(by rintro rfl;simp[SV.cM]at G);refine .ptr _ o y λw D=>?_;obtain⟨ob,c,B,rfl⟩:=key k l w D;obtain⟨_,rfl,rfl⟩:=h ob c;exact⟨_,rfl,by rw[B]⟩|el k i o y h=>have l:k≠e:=(by rintro rfl;simp[SV.cM]at G);refine .el _ i o y λw D=>?_;obtain⟨ob,c,B,rfl⟩:=key k l w D;obtain⟨_,_,_,rfl,S,rfl⟩:=h ob c;exact⟨_,_,_,rfl,S,by rw[B]⟩|mp k y h=>have l:k≠e:=(by rintro rfl;simp[SV.cM]at G);refine .mp _ y λw D=>?_;obtain⟨ob,c,B,rfl⟩:=key k l w D;obtain⟨_,rfl,rfl⟩:=h ob c;exact⟨_,rfl,by rw[B]⟩|clo f a b L T Q X hva W C O=>simp[SV.cM]at G;refine .clo f _ _ L T (by rw[oN];omega) (by rw[oN];omega) (λj u v g n=>?_) (λj u v g n=>?_);rw[tc,ζf]at g;obtain⟨I,z,rfl⟩:=g;exact C j I v z n (sS G.1 z);rw[tc,ζf]at g;obtain⟨I,z,rfl⟩:=g;exact O j I v z n (sS G.2 z)|tup a L Q hva C=>refine .tup _ L (by rw[oN];omega) (λj u v g n=>?_);rw[tc,ζf]at g;obtain⟨I,z,rfl⟩:=g;exact C j I v z n (sS G z)|agg a L Q hva C=>refine .agg _ L (by rw[oN];omega) (λj u v g n=>?_);rw[tc,ζf]at g;obtain⟨I,z,rfl⟩:=g;exact C j I v z n (sS G z)|yl id=>exact .yl id
def GU(r:R ν Z st F H){d e:Nat}(B:d≠e)(Y:st.new e=true):R (uP ν d e) Z {st with g:=zo d e st.g,m:=uB d e st.m} F H/\Ev Rv ν Z st H (uP ν d e) Z {st with g:=zo d e st.g,m:=uB d e st.m} H:=by
 have⟨t,J,X,i⟩:=mh Y;have key:∀k w,bh (uB d e st.m) k=some w->∃k0 ob,bh st.m k0=some ob/\w=ob.tZ d e/\uP ν d e k=ν k0/\k≠d/\(k=e/\k0=d\/k≠e/\k0=k):=λk w h=>by rw[yS B J]at h;split at h;simp_all;rename_i a;rw[ζf]at h;obtain⟨ob,z,rfl⟩:=h;by_cases C:k=e;rw[if_pos C]at z;exact⟨d,ob,z,rfl,by unfold uP;grind,a,.inl ⟨C,rfl⟩⟩;rw[if_neg C]at z;exact⟨k,ob,z,rfl,by unfold uP;grind,a,.inr ⟨C,rfl⟩⟩
 have L:∀ob:bE,cu (ob.tZ d e)=cu ob:=λob=>by cases ob<;>rfl
 refine⟨⟨λs sv U=>?_,λk w c=>?_,λb l o1 o2 a z D W x=>?_,λb o1 a D=>?_,r.zrow,r.deep⟩,⟨le_refl _,λ_ _ _ _ _=>rfl,λid h=>⟨h,rfl⟩,?_,λ_ h=>.inl h,?_,rfl⟩⟩;rw[EZ,ζf]at U;obtain⟨O,G,rfl⟩:=U;exact cZ.tZ J (yb X G) B (r.slot s O G);obtain⟨k0,ob,a,rfl,z,_,_⟩:=key k w c;have o:=r.obj k0 ob a;cases ob with|sl fl es xs=>simp[bE.tZ,dX,z]at o⊢;omega|box cs=>have⟨es,Q,g1,g2,g3⟩:=o;have S:=(by have:=yq i a;simpa[bE.cM]using this);refine⟨es,Q,Zd,⟨by rw[oN];exact g2.1,λj u v f n=>?_⟩,g3⟩;rw[tc,ζf]at f;obtain⟨p,I,rfl⟩:=f;exact cZ.tZ J (sS S I) B (g2.2 j p v I n)|mp aa=>simp[bE.tZ,dX,z]at o⊢;omega
 obtain⟨k1,p1,g1,rfl,e1,q,T⟩:=key b o1 a;obtain⟨k2,p2,g2,rfl,e2,y,A⟩:=key l o2 z;rw[L]at D W;have:=r.inj k1 k2 p1 p2 g1 g2 D W Zd;omega;obtain⟨k1,p1,g1,rfl,e1,_⟩:=key b o1 a;rw[L]at D;rw[e1];exact r.apart k1 p1 g1 D;rintro id ⟨k,o,a,z,C⟩;obtain⟨k1,p1,g1,rfl,e1,_⟩:=key k o a;rw[L]at z;exact .inl ⟨k1,p1,g1,z,Zd⟩;intro k c w h;obtain⟨k1,p1,g1,rfl,e1,q,T⟩:=key k w h;rcases T with⟨rfl,_⟩|⟨T,rfl⟩;grind;exact⟨p1,g1,e1,by cases p1<;>simp[bE.tZ,sameShape]⟩
def R.WZ(r:R ν Z st F H){n:Nat}{sv:SV}(h:cZ ν st.m H Z sv (get F n)):R ν Z {st with g:=bH st.g n sv} F H where
 slot:=λs x u=>by by_cases e:n=s;subst e;rw[cz]at u;grind;rw[dO st.g sv e]at u;exact r.slot s x u
 obj:=r.obj
 inj:=r.inj
 apart:=r.apart
 zrow:=r.zrow
 deep:=r.deep
def ML(r:R ν Z st F H){n d es:Nat}{k:Fl}{x:V}(a:ov k es []=x/\cD k=false)(G:bh st.g n=some (.v x))(B:st.new d=true)(J:∀y,FR H Z x y->y=x)(O:rm (ν d) k es 0=x):
 R (iH ν d (ν d)) Z {st with g:=bH st.g n (.own d),m:=bH st.m d (.sl k es [])} F H/\Ev Rv ν Z st H (iH ν d (ν d)) Z {st with g:=bH st.g n (.own d),m:=bH st.m d (.sl k es [])} H:=by
 have u:cu (.sl k es [])=true->False:=by simp[cu,a.2]
 have r1:=r.add B (p:=ν d) (λh=>(u h).elim) (by simp[dX,a.2])
 refine⟨r1.WZ (.own _ _ λz w=>?_),?_⟩
 .rw[cz]at w;cases w;rw[gN,J _ (r.slot n _ G).fr]
  grind
 exact(Ev.add B (le_refl _) (λ_ _ _=>rfl) (λ_ _=>rfl) (λh=>(u h).elim)).trans (Ev.slots _)
def Mt(r:R ν Z st F H){b i d es:Nat}{k:Fl}{x:V}{cs:Zw}(c:cD k=false)(O:bh st.m b=some (.box cs))(U:cs[i]?=some (.v x))(G:st.new d=true)(W:∀y,FR H Z x y->y=x)(Y:rm (ν d) k es 0=x):
 ∃ν',R ν' Z {st with m:=bH (bH st.m d (.sl k es [])) b (.box (cs.set i (.own d)))} F H/\Ev Rv ν Z st H ν' Z {st with m:=bH (bH st.m d (.sl k es [])) b (.box (cs.set i (.own d)))} H:=by
 have B:cu (.sl k es [])=true->False:=by simp[cu,c]
 have r1:=r.add G (p:=ν d) (λh=>(B h).elim) (by simp[dX,c])
 have C:b≠d:=by rintro rfl;rw[(mh G).2.1]at O;cases O
 have z:bh (bH st.m d (.sl k es [])) b=some (.box cs):=by rw[dO _ _ (Ne.symm C)];omega
 have⟨D,I,g,J,S⟩:=r1.obj b _ z;have T:∀e w,bh (bH (bH st.m d (.sl k es [])) b (.box (cs.set i (.own d)))) e=some w->∃ob,bh (bH st.m d (.sl k es [])) e=some ob/\iH ν d (ν d) e=iH ν d (ν d) e/\sameShape ob w:=λe w h=>by by_cases L:e=b;subst L;rw[cz]at h;cases h;exact⟨_,z,rfl,trivial⟩;rw[dO _ _ (Ne.symm L)]at h;exact⟨w,h,rfl,.refl _⟩
 refine⟨iH ν d (ν d),r1.gD z trivial rfl (λ_ _=>rfl) rfl ⟨D,I,g,⟨by simp[J.1],λj u v a f=>?_⟩,S⟩,?_⟩
 .rw[getElem?_set]at a;split at a
  .rename_i e;subst e;split at a
   .cases a;refine .own _ _ λw Q=>?_
    rw[dO _ _ C,cz]at Q;cases Q;rw[gN,W v (J.2 i _ v U f).fr]
    grind
   grind
  exact(J.2 j u v a f).mono (λid h=>⟨h,rfl⟩) λe _=>T e
 exact(Ev.add G (le_refl _) (λ_ _ _=>rfl) (λ_ _=>rfl) (λh=>(B h).elim)).trans (Ev.gD r1 z trivial rfl (λ_ _=>rfl) rfl (le_refl _))
def Oj(r:R ν Z st F H){x:Gh}(h:ghost x st=some st'):∃ν' Z',R ν' Z' st' F H/\Ev Rv ν Z st H ν' Z' st' H:=by cases x with|close d=>have⟨Z',a,b⟩:=Gn (Rv:=Rv) r h;grind|closeS l=>simp[ghost]at h;split at h;have⟨Z',a,b⟩:=Gn (Rv:=Rv) r h;grind;simp at h;subst h;exact⟨ν,Z,r,.refl⟩;grind|closeB d=>have⟨Z',a,b⟩:=M_ (Rv:=Rv) r h;grind|keep gs I=>simp[ghost]at h;split at h;(next g m e C=>simp at h;subst h;exact⟨ν,Z,r.less (λs G w=>p9 e w) (λd ob B=>p9 C B),Ev.less (λd ob B=>p9 C B)⟩);grind|drop ds=>simp[ghost]at h;subst h;exact⟨ν,Z,r.less (λs G w=>n_ w) (λd ob B=>B),Ev.less (λd ob B=>B)⟩|canon l d es=>cases l with|s n=>simp[ghost]at h;split at h;rename_i w;split at h;rename_i u;simp at h;have⟨a,b⟩:=ML (Rv:=Rv) (es:=es) (k:=.nil) r ⟨rfl,rfl⟩ w u (λy h=>h.bG) rfl;grind;grind;rename_i w;split at h;rename_i u;simp at h;have⟨a,b⟩:=ML (Rv:=Rv) (es:=es) (k:=.emp) r ⟨rfl,rfl⟩ w u (λy h=>h.dw) rfl;grind;grind;split at h;simp at h;subst h;exact⟨ν,Z,r,.refl⟩;rename_i z;split at h;rename_i u;simp at h;have⟨a,b⟩:=GU (Rv:=Rv) r z u;grind;grind;split at h;simp at h;subst h;exact⟨ν,Z,r,.refl⟩;rename_i z;split at h;rename_i u;simp at h;have⟨a,b⟩:=GU (Rv:=Rv) r z u;grind;grind;grind|c b i=>simp[ghost]at h;split at h;rename_i J D;split at h;rename_i w;split at h;rename_i u;simp at h;have⟨ν',a,b⟩:=Mt (Rv:=Rv) (es:=es) (k:=.nil) r rfl D w u (λy h=>h.bG) rfl;grind;grind;rename_i w;split at h;rename_i u;simp at h;have⟨ν',a,b⟩:=Mt (Rv:=Rv) (es:=es) (k:=.emp) r rfl D w u (λy h=>h.dw) rfl;grind;grind;split at h;simp at h;subst h;exact⟨ν,Z,r,.refl⟩;rename_i z;split at h;rename_i u;simp at h;have⟨a,b⟩:=GU (Rv:=Rv) r z u;grind;grind;grind;grind
end
structure nW(E:Env)(f:FuncId)(q:E6):Prop where
 keep:E.keep f=true
 own:E.own f=false
 le:∀es xs vs ys,q.go es xs vs=some ys->ys.length<=xs.length/\(q.part=false->ys.length=xs.length)
 none:∀es vs ys,q.go es [] vs=some ys->∀(H:bl)(Z:Nat->Prop)(ws:List V)(w:V),c9 H Z vs ws->(w=.bG\/w=.dw)->∃n X,∀k,n<=k->run E k (.fn f) (w::ws) H=some (if q.part then w else .undef,H++X)
 row:∀es xs vs ys,q.go es xs vs=some ys->∀(H:bl)(Z:Nat->Prop)(ws:List V)(id off:Nat)(rs:List (List V)),c9 H Z vs ws->H[id]?=some (.row es rs)->off+xs.length<=rs.length->
  fZ H Z xs ((rs.drop off).take xs.length)->uN H Z rs->¬Z id->∃n rs' X,(∀k,n<=k->run E k (.fn f) (.hsl id es off xs.length::ws) H=some (if q.part then .hsl id es off ys.length else .undef,(H++X).set id (.row es rs')))/\
   rs'.length=rs.length/\fZ H Z ys ((rs'.drop off).take ys.length)/\uN H Z rs'
section
variable{Rv:Nat->Prop}{ν ν':Nu}{Z Z':Nat->Prop}{st st':St}{m m':Tb bE}{F F':Zo}{H H':bl}
def Ri{E:Env}{f:Zk}{q:E6}(i:nW E f q)(r:R ν Z st F H){args:Zw}{ys:Zu}(K:bY ν st.m H Z args ys){dst:aZ Nat}{sv:SV}(h:Bm q dst args st=some (sv,st')):
 ∃n y H' ν',(∀k,n<=k->run E k (.fn f) ys H=some (y,H'))/\R ν' Z st' F H'/\cZ ν' st'.m H' Z sv y/\Ev Rv ν Z st H ν' Z st' H'/\Kept dst ν st.m ν' st'.m:=by
 unfold Bm at h;split at h
 .rename_i d vs;obtain⟨w,p,rfl,M,N⟩:=K.inv;split at h
  .rename_i k es xs zs u G;have s:=bY.di N G;split at h
   .rename_i ns T;have⟨al,P⟩:=i.le _ _ _ _ T;obtain⟨_,_,_,ee,rfl⟩:=M.jT u;cases ee;have grow:∀X:bl,R ν Z st F (H++X)/\Ev Rv ν Z st H ν Z st (H++X)/\∀id,Z id->bq (H++X) id=bq H id:=λX=>by
     have j:∀id,id<H.length->(H++X)[id]?=H[id]?:=λid h=>getElem?_append_left h
     have G:∀id,Z id->bq (H++X) id=bq H id:=λid h=>by unfold bq;rw[j id (r.vw h)]
     exact⟨r.heap (λid h=>j id (r.lt h)) G,Ev.heap Zc (λid h _ _ _=>j id h) G,G⟩
    have o:=r.obj d _ u
    cases a:cD k with
    |false=>
     simp only[dX,a,false_eq_true,if_false]at o;subst o;have hw:rm (ν d) k es 0=.bG\/rm (ν d) k es 0=.dw:=by cases k<;>simp[rm,cD]at a⊢
     have⟨n,X,L⟩:=i.none _ _ _ T H Z p _ s hw;have⟨b,I,U⟩:=grow X;simp only[a,false_eq_true,if_false]at h;split at h
     .rename_i O;split at h
      .rename_i t;split at h
       .rename_i z;simp only[ζa,ζc]at h;obtain⟨rfl,rfl⟩:=h;have r1:R ν Z {st with m:=eo d st.m} F (H++X):=b.less (g:=st.g) (λ_ _ h=>h) kf
        rw[if_pos O]at L;refine⟨n,_,H++X,iH ν t (ν d),L,r1.add z (λl=>by simp[cu,a]at l) (by simp[dX,a]),?_,?_,Kept.add kf⟩
        .refine .own _ _ λah W=>?_
         simp only at W;rw[cz]at W;cases W;exact⟨_,_,_,rfl,by rw[gN];rfl⟩
        exact I.trans (Ev.re (st:=st) kf (mh z).1 (le_refl _) (λ_ _ _ _=>rfl) (λ_ _=>rfl) (λl=>by simp[cu,a]at l))
       cases h
      cases h
     rename_i O;simp only[ζa,ζc]at h;obtain⟨rfl,rfl⟩:=h;rw[if_neg O]at L;have hu:bH st.m d (.sl k es [])=st.m:=rV u;rw[hu];exact⟨n,_,H++X,ν,L,b,.v _ _ (.same _ rfl),I,.refl⟩
    |true=>
     simp only[dX,a,if_true]at o;have⟨rs,v,hl,hf,ab,Q⟩:=o;have B:cu (.sl k es xs)=true:=a;have⟨n,C,X,L,e1,e2,e3⟩:=i.row _ _ _ _ T H Z p _ _ rs s v hl hf ab (r.apart d _ u B);have⟨b,I,U⟩:=grow X;have ai:(ν d).1<(H++X).length:=by have:=(ζe.1 v).1;simp;omega
     have G:∀id,Z id->Z id/\bq ((H++X).set (ν d).1 (.row es C)) id=bq H id:=λid D=>⟨D,by
      rw[<-U id D];unfold bq;rw[List.getElem?_set_ne];rintro rfl;exact r.apart d _ u B D⟩
     have x:∀id,Z id->bq ((H++X).set (ν d).1 (.row es C)) id=bq (H++X) id:=λid D=>by rw[(G id D).2,U id D]
     have c:∀id,id≠(ν d).1->((H++X).set (ν d).1 (Ob.row es C))[id]?=(H++X)[id]?:=λid aj=>List.getElem?_set_ne (Ne.symm aj)
     have J:((H++X).set (ν d).1 (Ob.row es C))[(ν d).1]?=some (.row es C):=getElem?_set_self ai;rw[rG a];simp only[a,if_true]at h;split at h
     .rename_i O;split at h
      .rename_i t;split at h
       .rename_i z;simp only[ζa,ζc]at h;obtain⟨rfl,rfl⟩:=h;have r1:R ν Z {st with m:=eo d st.m} F (H++X):=b.less (g:=st.g) (λ_ _ h=>h) kf
        have A:¬fq ν (eo d st.m) (ν d).1:=by rintro⟨k2,o2,g1,g2,g3⟩;have⟨g4,g5⟩:=nP g1;exact g4 (r.inj d k2 _ o2 u g5 B g2 g3.symm)
        have r2:R ν Z {st with m:=eo d st.m} F ((H++X).set (ν d).1 (.row es C)):=r1.heap (λid ho=>c id (by rintro rfl;exact A ho)) x
        rw[if_pos O]at L;refine⟨n,_,_,iH ν t (ν d),L,r2.add z (λ_=>⟨A,r.apart d _ u B⟩) ?_,?_,?_,Kept.add kf⟩
        .simp only[dX,cD,if_true,gN];exact⟨C,J,Za,e2.mono G,e3.mono G,λe=>by cases e⟩
        .refine .own _ _ λah W=>?_
         simp only at W;rw[cz]at W;cases W;exact⟨_,_,_,rfl,by rw[gN];rfl⟩
        exact I.trans (Ev.re (st:=st) kf (mh z).1 Zc (λid _ ho _=>c id (by rintro rfl;exact ho ⟨d,_,u,B,rfl⟩)) x (λ_=>.inl ⟨d,_,u,B,rfl⟩))
       cases h
      cases h
     rename_i O;simp only[ζa,ζc]at h;obtain⟨rfl,rfl⟩:=h;rw[if_neg O]at L;have ak:q.part=false:=by simpa using O
     have S:=P ak;have Y:sameShape (.sl k es xs) (.sl k es ns):=⟨rfl,rfl,S⟩;refine⟨n,_,_,ν,L,b.gD u Y rfl c B ?_,.v _ _ (.same _ rfl),I.trans (Ev.gD b u Y rfl c B Zc),Kept.gD u Y⟩
     simp only[dX,a,if_true];exact⟨C,J,Za,e2.mono G,e3.mono G,λe=>⟨(Q e).1,by rw[e1,(Q e).2,S]⟩⟩
   cases h
  cases h
 cases h
end
def wT:Nat->Zw->Tb SV
 |_,[]=>[]|i,v::vs=>(i,v)::wT (i+1) vs
def start(svs:Zw)(B:dP):St:=⟨wT 0 svs,B,B.map (·.1),[],true,0⟩
def jt(S:Sys)(c:bZ):Prop:=∀f u w rs z,c f u w=some (rs,z)->∀(ν:Nu)(Z:Nat->Prop)(args:Zu)(H:bl),(S.E.keep f=true\/H=[])->R ν Z (start u w) args H->bY ν w H Z u args->∃n y H' ν' Z' st' F' B,run S.E n (.fn f) args H=some (y,H')/\y=result B/\st'.m=z/\bY ν' z H' Z' rs B/\R ν' Z' st' F' H'/\Ev (λ_=>False) ν Z (start u w) H ν' Z' st' H'
section
variable{Rv:Nat->Prop}{ν ν':Nu}{Z Z':Nat->Prop}{st st':St}{m m':Tb bE}{F F':Zo}{H H' H1:bl}{N:Nat->Zk}
def N6{k:Fl}{es:Nat}{xs:Zt}{d:Nat}(o:dX ν m H Z d (.sl k es xs)):(ov k es xs).good=true:=by
 by_cases a:cD k=true;simp only[dX,a,if_true]at o;have⟨w,_,_,u,_⟩:=o;have e:ov k es xs=.fsl es xs:=by cases k<;>simp[cD]at a<;>rfl
 rw[e];simp only[V.good];exact u.good;cases k<;>simp[cD]at a<;>rfl
mutual
def L4(G:∀d ob,bh m d=some ob->dX ν m H Z d ob):∀(n:Nat)(sv:SV)(x y:V),shut m n sv=some x->cZ ν m H Z sv y->x.good=true
 |n,.v x,z,y,h,r=>by simp only[shut,ζa]at h;subst h;exact r.fr.good|n,.own d,z,y,h,r=>by simp only[shut]at h;split at h;(next k es xs B=>simp only[ζa]at h;subst h;exact N6 (G d _ B));simp at h|0,.ptr d o,z,y,h,r=>by simp[shut]at h|n+1,.ptr d o,z,y,h,r=>by simp only[shut]at h;split at h;rename_i cs B;split at h;rename_i xs O;split at h;simp only[ζa]at h;subst h;have⟨es,J,_,hc,_⟩:=G d _ B;simp only[V.good];exact xW _ (mQ G n cs xs J O hc);simp at h;simp at h;simp at h|n,.el d i o,z,y,h,r=>by cases n<;>simp[shut]at h|n,.yl id,z,y,h,r=>by cases n<;>simp[shut]at h|n,.mp d,z,y,h,r=>by simp only[shut]at h;split at h;rename_i L B;simp only[ζa]at h;subst h;have⟨w,_,e⟩:=G d _ B;simp only[V.good];refine E7.2 λj u g=>?_;have Q:j<w.length:=(by rw[<-e.1];exact(ζe.1 g).1);have⟨⟨_,c⟩,C⟩:=e.2 j u _ g (ζd Q);exact⟨jH c,C.good⟩;simp at h|0,.clo f a b,z,y,h,r=>by simp[shut]at h|n+1,.clo f a b,z,y,h,r=>by simp only[shut]at h;split at h;(next S x2 c C=>simp only[ζa]at h;subst h;obtain⟨T,U,rfl,W,X⟩:=r.jQ;simp only[V.good,ζh];exact⟨mQ G n a S T c W,mQ G n b x2 U C X⟩);simp at h|0,.tup l,z,y,h,r=>by simp[shut]at h|n+1,.tup l,z,y,h,r=>by simp only[shut]at h;obtain⟨xs,c,rfl⟩:=ζf.1 h;obtain⟨D,rfl,I⟩:=r.qg;simp only[V.good];exact mQ G n l xs D c I|0,.agg l,z,y,h,r=>by simp[shut]at h|n+1,.agg l,z,y,h,r=>by simp only[shut]at h;obtain⟨xs,c,rfl⟩:=ζf.1 h;obtain⟨D,rfl,I⟩:=r.iC;simp only[V.good];exact mQ G n l xs D c I
def mQ(G:∀d ob,bh m d=some ob->dX ν m H Z d ob):∀(n:Nat)(svs:Zw)(xs ys:Zu),cV m n svs=some xs->bY ν m H Z svs ys->V.cr xs=true
 |n,[],xs,ys,h,r=>by simp only[cV,ζa]at h;subst h;rfl|n,sv::svs,xs,ys,h,r=>by simp only[cV]at h;split at h;(next y s a J=>simp only[ζa]at h;subst h;obtain⟨O,B,rfl,r1,r2⟩:=r.inv;simp only[V.cr,ζh];exact⟨L4 G n sv y O a r1,mQ G n svs s B J r2⟩);simp at h
end
def GV{f:V->aZ V}:∀{xs ys:aY (V×V)},xs.length=ys.length->(∀(j:Nat)u v,xs[j]?=some u->ys[j]?=some v->f v.1=some u.1/\f v.2=some u.2)->lp f ys=some xs
 |[],[],_,_=>rfl|[],y::ys,h,_=>by simp at h|x::xs,[],h,_=>by simp at h|(a,b)::xs,(c,d)::ys,h,B=>by have⟨e,G⟩:=B 0 _ _ rfl rfl;simp only at e G;simp only[lp,e,G,GV (xs:=xs) (ys:=ys) (by simpa using h) λj u v g i=>B (j+1) u v (by simpa using g) (by simpa using i)]
def GP:∀{l:aY (V×V)}{n:Nat},V.sy n l=true↔∀(j:Nat)u,l[j]?=some u->u.1.lvl n=true/\u.2.lvl n=true
 |[],n=>by simp[V.sy]|(k,x)::l,n=>by simp only[V.sy,ζh,GP (l:=l)];constructor;rintro⟨b,B⟩ j u a;(cases j with|zero=>simp at a;subst a;exact b|succ j=>exact B j u (by simpa using a));intro h;exact⟨h 0 (k,x) rfl,λj u a=>h (j+1) u (by simpa using a)⟩
def tV{n:Nat}{xs ys:Zu}(G:gV (borrow n H1) ys=some xs)(B:V.gX ys=true):ys=xs:=by
 have w:=j7 (f:=borrow n H1) (xs:=ys) (ys:=ys) rfl λj u v a b=>by rw[a]at b;cases b;exact ez n H1 (oI.1 B j u a)
 rw[G]at w;cases w;rfl
mutual
def Iz{fr:Zv}(J:∀d∈fr,∀e ob,bh m e=some ob->ob.cM d=false)(O:∀d ob,bh m d=some ob->d∉fr->dX ν m H1 Z d ob):
 ∀(n:Nat)(sv:SV)(x y:V),shut m n sv=some x->(∀d∈fr,sv.cM d=false)->cZ ν m H1 Z sv y->∀k,x.lvl k=true->borrow k H1 y=some x
 |n,.v x,z,y,h,B,r,k,hk=>by simp only[shut,ζa]at h;subst h;exact r.fr.borrow k hk|n,.own d,z,y,h,B,r,k,hk=>by simp only[shut]at h;split at h;rename_i q es xs G;simp only[ζa]at h;subst h;obtain⟨_,_,_,e,rfl⟩:=r.jT G;cases e;have C:d∉fr:=λC=>(by have:=B d C;simp[SV.cM]at this);have o:=O d _ G C;by_cases I:cD q=true;simp only[dX,I,if_true]at o;have⟨ys,g,F,H,_⟩:=o;rw[rG I];have e:ov q es xs=.fsl es xs:=(by cases q<;>simp[cD]at I<;>rfl);rw[e]at hk⊢;exact(FR.K2 (Z:=λ_=>True) trivial (show bq H1 (ν d).1=some (es,ys)by unfold bq;rw[g];rfl) F (H.mono λid h=>⟨trivial,rfl⟩)).borrow k hk;cases q<;>simp[cD]at I;exact ez k H1 rfl;exact ez k H1 rfl;simp at h|0,.ptr d o,z,y,h,B,r,k,hk=>by simp[shut]at h|n+1,.ptr d o,z,y,h,B,r,k,hk=>by
  simp only[shut]at h;split at h;rename_i L G;split at h;rename_i xs t;split at h;rename_i K;simp only[ζa]at h;subst h;obtain⟨_,e,rfl⟩:=r.oG G;cases e;have C:d∉fr:=λC=>by have:=B d C;simp[SV.cM]at this
  have⟨es,Q,g,hc,_⟩:=O d _ G C
  cases k with
  |zero=>simp[V.lvl]at hk|succ k=>
   simp only[V.lvl]at hk;have M:∀e∈fr,SV.dy e (L.drop o)=false:=λe N=>by
    have:=J e N d _ G;simp only[bE.cM]at this
    cases P:SV.dy e (L.drop o)with
    |false=>rfl|true=>
     exfalso;have:∀{l:Zw}{j:Nat},SV.dy e (l.drop j)=true->SV.dy e l=true:=by
      intro l
      induction l with
      |nil=>intro j h;simpa using h|cons a l S=>intro j h;cases j with
       |zero=>simpa using h|succ j=>simp only[SV.dy,or_eq_true];exact .inr (S (by simpa using h))
     rw[this P]at *;simp_all
   have T:xs.length=L.length:=by have:∀{l:Zw}{r:Zu},cV m n l=some r->r.length=l.length:=(by intro l;induction l with|nil=>intro r h;simp only[cV,ζa]at h;subst h;rfl|cons a l S=>intro r h;simp only[cV]at h;split at h;(next c U=>simp only[ζa]at h;subst h;simp[S U]);simp at h);exact this t
   have R:cV m n (L.drop o)=some (xs.drop o):=by have:∀{l:Zw}{r:Zu}{j:Nat},cV m n l=some r->cV m n (l.drop j)=some (r.drop j):=(by intro l;induction l with|nil=>intro r j h;simp only[cV,ζa]at h;subst h;simp[cV]|cons a l S=>intro r j h;have h0:=h;simp only[cV]at h;split at h;rename_i c U;simp only[ζa]at h;subst h;(cases j with|zero=>exact h0|succ j=>exact S U);simp at h);exact this t
   have hb:=jO J O n (L.drop o) (xs.drop o) (Q.drop o) R M (hc.drop o) k hk;unfold borrow;simp only[V.closed,false_eq_true,if_false,g,ζb,Ob.rows,getElem?_cons_zero,if_pos (show o<=Q.length by rw[<-hc.1,<-T];exact K),hb,map_some]
  simp at h;simp at h;simp at h
 |n,.el d i o,z,y,h,B,r,k,hk=>by cases n<;>simp[shut]at h|n,.yl id,z,y,h,B,r,k,hk=>by cases n<;>simp[shut]at h|n,.mp d,z,y,h,B,r,k,hk=>by simp only[shut]at h;split at h;rename_i ae G;simp only[ζa]at h;subst h;obtain⟨_,e,rfl⟩:=r.Ct G;cases e;have C:d∉fr:=λC=>(by have:=B d C;simp[SV.cM]at this);have⟨W,g,X⟩:=O d _ G C;(cases k with|zero=>simp[V.lvl]at hk|succ k=>simp only[V.lvl]at hk;unfold borrow;simp only[V.closed,false_eq_true,if_false,g];rw[GV (xs:=ae) (ys:=W) X.1 λj u v A hv=>?_];rfl;have⟨⟨e1,e2⟩,e3⟩:=X.2 j u v A hv;exact⟨by rw[<-e1];exact ez k H1 (V.ku (jH e2)),e3.borrow k (GP.1 hk j u A).2⟩);simp at h
 |0,.clo f a b,z,y,h,B,r,k,hk=>by simp[shut]at h|n+1,.clo f a b,z,y,h,B,r,k,hk=>by simp only[shut]at h;split at h;rename_i x1 x2 c U;simp only[ζa]at h;subst h;obtain⟨a',E,rfl,ra,rb⟩:=r.jQ;(cases k with|zero=>simp[V.lvl]at hk|succ k=>simp only[V.lvl,ζh]at hk;have D:=jO J O n a x1 a' c (λd C=>by have:=B d C;simp only[SV.cM,or_eq_false_iff]at this;exact this.1) ra k hk.1;have Y:=jO J O n b x2 E U (λd C=>by have:=B d C;simp only[SV.cM,or_eq_false_iff]at this;exact this.2) rb k hk.2;by_cases w:(V.clo f a' E).closed=true;rw[ez _ _ w];simp only[V.closed,ζh]at w;rw[tV D w.1,tV Y w.2];unfold borrow;rw[if_neg w];simp only[D,Y]);simp at h|0,.tup l,z,y,h,B,r,k,hk=>by simp[shut]at h|n+1,.tup l,z,y,h,B,r,k,hk=>by simp only[shut]at h;obtain⟨xs,c,rfl⟩:=ζf.1 h;obtain⟨p,rfl,s⟩:=r.qg;cases k with|zero=>simp[V.lvl]at hk|succ k=>simp only[V.lvl]at hk;have D:=jO J O n l xs p c (λd C=>by have:=B d C;simpa[SV.cM]using this) s k hk;by_cases w:(V.tup p).closed=true;rw[ez _ _ w];simp only[V.closed]at w;rw[tV D w];unfold borrow;rw[if_neg w];simp only[D,map_some]
 |0,.agg l,z,y,h,B,r,k,hk=>by simp[shut]at h|n+1,.agg l,z,y,h,B,r,k,hk=>by simp only[shut]at h;obtain⟨xs,c,rfl⟩:=ζf.1 h;obtain⟨p,rfl,s⟩:=r.iC;cases k with|zero=>simp[V.lvl]at hk|succ k=>simp only[V.lvl]at hk;have D:=jO J O n l xs p c (λd C=>by have:=B d C;simpa[SV.cM]using this) s k hk;by_cases w:(V.agg p).closed=true;rw[ez _ _ w];simp only[V.closed]at w;rw[tV D w];unfold borrow;rw[if_neg w];simp only[D,map_some]
def jO{fr:Zv}(B:∀d∈fr,∀e ob,bh m e=some ob->ob.cM d=false)(O:∀d ob,bh m d=some ob->d∉fr->dX ν m H1 Z d ob):
 ∀(n:Nat)(svs:Zw)(xs ys:Zu),cV m n svs=some xs->(∀d∈fr,SV.dy d svs=false)->bY ν m H1 Z svs ys->∀k,V.kW k xs=true->gV (borrow k H1) ys=some xs
 |n,[],xs,ys,h,G,r,k,hk=>by simp only[cV,ζa]at h;subst h;rw[r.cQ];rfl|n,sv::svs,xs,ys,h,G,r,k,hk=>by simp only[cV]at h;split at h;rename_i y s a U;simp only[ζa]at h;subst h;obtain⟨W,J,rfl,r1,r2⟩:=r.inv;simp only[V.kW,ζh]at hk;have w:=Iz B O n sv y W a (λd u=>by have:=G d u;simp only[SV.dy,or_eq_false_iff]at this;exact this.1) r1 k hk.1;have z:=jO B O n svs s J U (λd u=>by have:=G d u;simp only[SV.dy,or_eq_false_iff]at this;exact this.2) r2 k hk.2;simp only[gV,w,z];simp at h
end
end
def Ow(n:Nat):V.kW n []=true:=by cases n<;>rfl
def Nw(n:Nat)(x:V)(r:Zu):V.kW n (x::r)=(V.lvl n x&&V.kW n r):=by cases n<;>rfl
mutual
def Cw:∀{n:Nat}{x:V},V.lvl n x=true->V.lvl (n+1) x=true
 |0,.fsl ..,h=>by simp[V.lvl]at h|0,.fptr ..,h=>by simp[V.lvl]at h|0,.fmap ..,h=>by simp[V.lvl]at h|0,.agg ..,h=>by simp[V.lvl]at h|0,.tup ..,h=>by simp[V.lvl]at h|0,.clo ..,h=>by simp[V.lvl]at h|n+1,.fsl es xs,h=>by simp only[V.lvl]at h⊢;exact BZ h|n+1,.fptr cs,h=>by simp only[V.lvl]at h⊢;exact rK h|n+1,.fmap B,h=>by simp only[V.lvl]at h⊢;exact DK h|n+1,.agg cs,h=>by simp only[V.lvl]at h⊢;exact rK h|n+1,.tup cs,h=>by simp only[V.lvl]at h⊢;exact rK h|n+1,.clo f a b,h=>by simp only[V.lvl,ζh]at h⊢;exact⟨rK h.1,rK h.2⟩|0,.bool _,_|0,.int ..,_|0,.str _,_|0,.gW,_|0,.fV,_|0,.rB,_|0,.dw,_|0,.bG,_|0,.hsl ..,_|0,.hptr ..,_|0,.yld _,_|0,.hmap _,_=>rfl|_+1,.bool _,_|_+1,.int ..,_|_+1,.str _,_|_+1,.gW,_|_+1,.fV,_|_+1,.rB,_|_+1,.dw,_|_+1,.bG,_|_+1,.hsl ..,_|_+1,.hptr ..,_|_+1,.yld _,_|_+1,.hmap _,_=>rfl
def rK:∀{n:Nat}{x:Zu},V.kW n x=true->V.kW (n+1) x=true
 |n,[],_=>Ow _|n,a::l,h=>by rw[Nw,ζh]at h⊢;exact⟨Cw h.1,rK h.2⟩
def BZ:∀{n:Nat}{x:Zt},V.oT n x=true->V.oT (n+1) x=true
 |n,[],_=>by simp only[V.oT]|n,a::l,h=>by simp only[V.oT,ζh]at h⊢;exact⟨rK h.1,BZ h.2⟩
def DK:∀{n:Nat}{x:aY (V×V)},V.sy n x=true->V.sy (n+1) x=true
 |n,[],_=>by simp only[V.sy]|n,(k,v)::l,h=>by simp only[V.sy,ζh]at h⊢;exact⟨⟨Cw h.1.1,Cw h.1.2⟩,DK h.2⟩
end
def xh{n m:Nat}(h:n<=m){x:V}(B:V.lvl n x=true):V.lvl m x=true:=by induction h with|refl=>exact B|step _ u=>exact Cw u
def oE{n m:Nat}(h:n<=m){x:Zu}(B:V.kW n x=true):V.kW m x=true:=by induction h with|refl=>exact B|step _ u=>exact rK u
def PY{n m:Nat}(h:n<=m){x:Zt}(B:V.oT n x=true):V.oT m x=true:=by induction h with|refl=>exact B|step _ u=>exact BZ u
def RL{n m:Nat}(h:n<=m){x:aY (V×V)}(B:V.sy n x=true):V.sy m x=true:=by induction h with|refl=>exact B|step _ u=>exact DK u
mutual
def yN:∀x:V,∃n,V.lvl n x=true
 |.fsl es xs=>let⟨n,h⟩:=Hx xs;⟨n+1,by simp only[V.lvl];exact h⟩|.fptr u=>let⟨n,h⟩:=lW u;⟨n+1,by simp only[V.lvl];exact h⟩|.fmap w=>let⟨n,h⟩:=Jg w;⟨n+1,by simp only[V.lvl];exact h⟩|.agg u=>let⟨n,h⟩:=lW u;⟨n+1,by simp only[V.lvl];exact h⟩|.tup u=>let⟨n,h⟩:=lW u;⟨n+1,by simp only[V.lvl];exact h⟩|.clo f a b=>let⟨n,h⟩:=lW a;let⟨m,k⟩:=lW b;⟨max n m+1,by simp only[V.lvl,ζh];exact⟨oE (le_max_left _ _) h,oE (le_max_right _ _) k⟩⟩|.bool _|.int ..|.str _|.gW|.fV|.rB|.dw|.bG|.hsl ..|.hptr ..|.yld _|.hmap _=>⟨0,rfl⟩
def lW:∀x:Zu,∃n,V.kW n x=true
 |[]=>⟨0,by simp only[V.kW]⟩|a::l=>let⟨n,h⟩:=yN a;let⟨m,k⟩:=lW l;⟨max n m,by simp only[V.kW,ζh];exact⟨xh (le_max_left _ _) h,oE (le_max_right _ _) k⟩⟩
def Hx:∀x:Zt,∃n,V.oT n x=true
 |[]=>⟨0,by simp only[V.oT]⟩|a::l=>let⟨n,h⟩:=lW a;let⟨m,k⟩:=Hx l;⟨max n m,by simp only[V.oT,ζh];exact⟨oE (le_max_left _ _) h,PY (le_max_right _ _) k⟩⟩
def Jg:∀x:aY (V×V),∃n,V.sy n x=true
 |[]=>⟨0,by simp only[V.sy]⟩|(a,b)::l=>let⟨n,h⟩:=yN a;let⟨m,k⟩:=yN b;let⟨q,p⟩:=Jg l;⟨max n (max m q),by simp only[V.sy,ζh];exact⟨⟨xh Za h,xh Za k⟩,RL Za p⟩⟩
end
section
variable{Rv:Nat->Prop}{ν ν':Nu}{Z Z':Nat->Prop}{st st':St}{m m':Tb bE}{F F':Zo}{H H' H1:bl}{N:Nat->Zk}{S:Sys}{c:bZ}
def HF:∀(l:Zw)(i s:Nat)(sv:SV),bh (wT i l) s=some sv->∃j,s=i+j/\l[j]?=some sv
 |[],i,s,sv,h=>by simp[wT,bh]at h|x::l,i,s,sv,h=>by simp only[wT,bh]at h;split at h;(next e=>simp only[ζa]at h;subst h;exact⟨0,Za,rfl⟩);have⟨j,a,B⟩:=HF l (i+1) s sv h;exact⟨j+1,Za,by simpa using B⟩
def wA{svs:Zw}{args:Zu}(h:bY ν m H Z svs args):∀s sv,bh (wT 0 svs) s=some sv->cZ ν m H Z sv (get args s):=λs sv u=>by obtain⟨j,rfl,w⟩:=HF svs 0 s sv u;have⟨y,z,r⟩:=h.get w;rw[Nat.zero_add,Gp args j y z];exact r
def vO{az:Zu}(a:V.cr az=true):R (λ_=>(0,0)) (λ_=>False) (start (az.map .v) []) az []/\bY (λ_=>(0,0)) [] [] (λ_=>False) (az.map .v) az:=by have h:bY (λ_=>(0,0)) [] [] (λ_=>False) (az.map .v) az:=bY.qJ (c9.same a);refine⟨⟨wA h,λd ob u=>by simp[start,bh]at u,λd z ob w u=>by simp[start,bh]at u,λd ob u=>by simp[start,bh]at u,λid h=>h.elim,⟨λid es B h=>h.elim⟩⟩,h⟩
def Fe{xs ys:Zu}(h:c9 H Z xs ys):((result xs).scalar=true->result ys=result xs)/\(result ys).scalar=(result xs).scalar:=by cases xs with|nil=>rw[h.cQ];exact⟨λ_=>rfl,rfl⟩|cons x xs=>obtain⟨y,ys,rfl,a,u⟩:=h.inv;cases xs with|nil=>rw[u.cQ];exact a.scalar|cons x2 xs=>obtain⟨w,ys,rfl,z,B⟩:=u.inv;exact FR.scalar (.tup _ _ h.1 h.2)
def B0(Y:jt S c){f:Zk}{az ys:Zu}{rs:Zw}{m':dP}(g:V.cr az=true)(h:c f (az.map .v) []=some (rs,m'))(O:cV m' 8 rs=some ys):
 ∃n r H2,(∀k,n<=k->run S.E k (.fn f) az []=some (r,H2))/\(∀k,n<=k->borrow k H2 r=some (result ys))/\(result ys).good=true:=by
 have⟨X,r1⟩:=vO g;obtain⟨n,y,H2,ν',Z',st',F',B,i,rfl,Z,Q,T,_⟩:=Y f _ _ _ _ h _ _ az [] (.inr rfl) X r1;subst Z;have C:=mQ T.obj 8 rs ys B O Q;have⟨L,U⟩:=lW ys;refine⟨max n (L+1),result B,H2,λk e=>(nC S.E (le_trans (le_max_left ..) e)).go _ _ _ _ i,λk e=>?_,?_⟩
 .have w:=jO (fr:=[]) (λd D=>by simp at D) (λd ob D _=>T.obj d ob D) 8 rs _ _ O (λd D=>by simp at D) Q
  obtain⟨k,rfl⟩:∃j,k=j+1:=⟨k-1,Za⟩
  have W:=w k (oE Za U)
  have m:=w (k+1) (oE Za U)
  have⟨e1,e2⟩:=iL m
  cases B with
  |nil=>obtain rfl:=List.eq_nil_of_length_eq_zero e1;exact ez _ H2 rfl|cons z B=>
   cases B with
   |nil=>
    obtain⟨y,rfl⟩:∃y,ys=[y]:=by cases ys with|nil=>simp at e1|cons y l=>cases l with|nil=>exact⟨y,rfl⟩|cons _ _=>simp at e1
    have⟨x,o,I⟩:=e2 0 y rfl;cases o;exact I
   |cons z2 B=>
    obtain⟨y,G,l,rfl⟩:∃y G l,ys=y::G::l:=by cases ys with|nil=>simp at e1|cons y l=>cases l with|nil=>simp at e1|cons G l=>exact⟨y,G,l,rfl⟩
    by_cases u:(V.tup (z::z2::B)).closed=true
    .simp only[result];rw[ez _ _ u];simp only[V.closed]at u;rw[tV W u]
    simp only[result];unfold borrow;rw[if_neg u];simp only[W,map_some]
 have:∀{l:Zu},V.cr l=true->(result l).good=true:=by
  intro l J
  cases l with
  |nil=>rfl|cons a l=>cases l with
   |nil=>simp only[V.cr,ζh]at J;exact J.1|cons b l=>simp only[result,V.good];exact J
 exact this C
def DX{f:Zk}{args az:Zu}{y r:V}{H2:bl}{n:Nat}(a:∀k,n<=k->run S.E k (.fn f) az []=some (r,H2))(G:∀k,n<=k->borrow k H2 r=some y)(b:y.good=true){B:Nat}(J:∀k,B<=k->borrows k H args=some az):
 ∀k,max n B<=k->bW (run S.E k) f args H=some y:=λk c=>by
 unfold bW;simp only[nE,J k Za,a k Za,G k Za,V.ku b,if_true]
def qH(B:∀id,Z id->(bq H id).isSome=true){T:Zv}{id:Nat}(h:Z id):bq (cH H T) id=bq H id:=by
 have:=B id h;unfold bq at this⊢;rw[iB];cases u:H[id]?with|none=>rw[u]at this;simp at this|some ob=>
  rw[u]at this;simp only[map_some,ζb];by_cases e:id∈T
  .rw[if_pos e];cases ob<;>first|rfl|simp[Ob.rows]at this
  rw[if_neg e]
def tJ{T:Zv}{id:Nat}(h:id∉T):(cH H T)[id]?=H[id]?:=by rw[iB];cases H[id]?<;>simp[h]
def ze{az:Zu}{args:Zw}{ys:Zu}(B:∀d ob,bh m d=some ob->dX ν m H Z d ob)(h:cV m 8 args=some az)(r:bY ν m H Z args ys):V.cr az=true:=mQ B 8 args az ys h r
def wF{az:Zu}{args:Zw}{ys:Zu}(r:R ν Z st F H)(B:bY ν st.m H Z args ys)(h:cV st.m 8 args=some az):∃n,∀k,n<=k->borrows k H ys=some az:=
 let⟨n,w⟩:=lW az
 ⟨n,λk a=>jO (fr:=[]) (λd u=>Ze) (λd ob u _=>r.obj d ob u) 8 args az ys h (λd u=>Ze) B k (oE a w)⟩
def m_{b id:Nat}(h:id<b):bq (H.take b) id=bq H id:=by unfold bq;grind
def KU{b:Nat}{fr:Zv}{az:Zu}{args:Zw}{ys:Zu}(r:R ν Z st F H)(B:bY ν st.m H Z args ys)(h:cV st.m 8 args=some az)
 (J:∀d ob,bh st.m d=some ob->cu ob=true->d∉fr->(ν d).1<b)(G:∀id,Z id->id<b)(a:gw st.m fr args=true):∃n,∀k,n<=k->borrows k (H.take b) ys=some az:=by
 have⟨n,z⟩:=lW az;refine⟨n,λk f=>?_⟩
 unfold gw at a;have c:∀d∈fr,SV.dy d args=false/\rY d st.m=false:=λd u=>by grind
 have w:∀id,Z id->Z id/\bq (H.take b) id=bq H id:=λid h=>⟨h,m_ (G id h)⟩
 refine jO (λd u e ob C=>yq (c d u).2 C) (λd ob u D=>?_) 8 args az ys h (λd u=>(c d u).1) (B.mono w λe _=>iN ν st.m e) k (oE f z)
 exact dX.mono w rfl (λI=>Zd) (λe _=>iN ν st.m e) (r.obj d ob u)
def IZ(hS:jt S c){ops:Zz}{place:aZ (Nat×Nat)}{dr nw:Zl}{fr:Zv}(ae:dr=place.isSome)(ab:∀b i,place=some (b,i)->nw=true->dD ops i=true)
 (m:∀b i,place=some (b,i)->(∀d ob,bh st.m d=some ob->cu ob=true->d∉fr->(ν d).1<b)/\∀id,Z id->id<b)
 (r:R ν Z st F H){args:Zw}{ys:Zu}(o:bY ν st.m H Z args ys){f:Zk}(e:kG S.E ops place f=false){az:Zu}(K:cV st.m 8 args=some az)(a:(!dr||nw)=true\/gw st.m fr args=true)
 {rs:Zw}{m':dP}{J:Zu}(hc:c f (az.map .v) []=some (rs,m'))(l:cV m' 8 rs=some J)(U:(result J).scalar=true\/(di args).isSome=true):
 ∃n H',(∀k,n<=k->dY S.E (run S.E k) ops place f ys H=some (result J,H'))/\R ν Z st F H'/\cZ ν st.m H' Z (.v (result J)) (result J)/\Ev Rv ν Z st H ν Z st H':=by
 have hg:=ze r.obj K o;have⟨M,rr,H2,p,h2,N⟩:=B0 hS hg hc l;have⟨n2,hb⟩:=wF r o K;have I:=DX p h2 N hb;generalize hn:max M n2=n at I;have C:=I;have Q:∀k,n<=k->cN (b8 k H) ys=cN (b8 n H) ys:=λk e=>yp e (hb n Za)
 have G:∀{H'},cZ ν st.m H' Z (.v (result J)) (result J):=.v _ _ (.same _ N);have D:∀T:Zv,(∀id∈T,Z id)->R ν Z st F (cH H T)/\Ev Rv ν Z st H ν Z st (cH H T):=λT X=>
  ⟨r.heap (λid ho=>tJ λz=>by obtain⟨d,ob,g1,g2,rfl⟩:=ho;exact r.apart d ob g1 g2 (X _ z)) (λid z=>qH r.zrow z),
   Ev.heap (by rw[jS];grind) (λid _ _ l _=>tJ λz=>l (X id z)) (λid z=>qH r.zrow z)⟩
 have L:(di args).isSome=true->(∀id∈cN (b8 n H) ys,Z id)/\True:=λY=>by
  have⟨xs,Y⟩:=isSome_iff_exists.1 Y;have q:=o.di Y;exact⟨λid z=>by
   have⟨j,u,s,P⟩:=pV z;have hj:j<xs.length:=by rw[q.1];grind
   exact FR.b8 r.deep n (q.2 j _ u (ζd hj) s) id P,trivial⟩
 cases place with
 |none=>
  by_cases w:(result J).scalar=true
  .exact⟨n,H,λk B=>by simp[dY,e,C k B,w],r,G,.refl⟩
  obtain⟨X,-⟩:=L (U.resolve_left w);have⟨t,v⟩:=D _ X;exact⟨n,cH H (cN (b8 n H) ys),λk B=>by simp[dY,e,C k B,w,nE,Q k B],t,G,v⟩
 |some bi=>
  have⟨b,i⟩:=bi;have⟨o1,o2⟩:=m b i rfl;have ah:=ae;have g:∀k,bW (run S.E k) f ys (H.take b)=some (result J)->(result J).scalar=false->iI (H.take b) (cN (b8 k (H.take b)) ys)=true/\cN (b8 k H) ys=cN (b8 k (H.take b)) ys:=λk _ ai=>by have⟨xs,Y⟩:=isSome_iff_exists.1 (U.resolve_left Zd);have q:=o.di Y;have W:∀id,Z id->Z id/\bq (H.take b) id=bq H id:=λid h=>⟨h,m_ (o2 id h)⟩;have hd:Deep (H.take b) Z:=⟨λid es ys l hr c hc u s=>by rw[(W id l).2]at hr;have⟨x,Y⟩:=r.deep.row id es ys l hr c hc u s;exact⟨x,Y.mono W⟩⟩;have hZ:∀id∈cN (b8 k (H.take b)) ys,Z id:=λid z=>(by have⟨j,u,s,P⟩:=pV z;have hj:j<xs.length:=(by rw[q.1];grind);exact FR.b8 hd k ((q.2 j _ u (ζd hj) s).mono W) id P);refine⟨?_,tL _ λid z=>o2 id (hZ id z)⟩;unfold iI;rw[all_eq_true];intro id z;have p:=r.zrow id (hZ id z);rw[<-(W id (hZ id z)).2]at p;exact p
  rcases a with a|a
  .have ad:=ab b i rfl Zd
   by_cases w:(result J).scalar=true
   .refine⟨n,H,λk B=>?_,r,G,.refl⟩
    simp[dY,e];split
    next y E=>have:=pQ E;rw[C k B]at this;cases this;simp[w]
    simp[ad,C k B,w]
   obtain⟨X,-⟩:=L (U.resolve_left w);have⟨t,v⟩:=D _ X;refine⟨n,cH H (cN (b8 n H) ys),λk B=>?_,t,G,v⟩
   simp only[dY,e,nE,false_eq_true,if_false];split
   .rename_i y E;have A:=pQ E;rw[C k B]at A;cases A;have⟨f1,f2⟩:=g k E (by simpa using w)
    rw[if_neg w,if_pos f1,<-f2,Q k B]
   simp only[ad,if_true,C k B];rw[if_neg w,Q k B]
  have⟨n3,af⟩:=KU r o K o1 o2 a;have O:=DX p h2 N af
  by_cases w:(result J).scalar=true
  .refine⟨max M n3,H,λk B=>?_,r,G,.refl⟩
   simp[dY,e];have:=O k B;simp[this,w]
  obtain⟨X,-⟩:=L (U.resolve_left w);have⟨t,v⟩:=D _ X;refine⟨max n (max M n3),cH H (cN (b8 n H) ys),λk B=>?_,t,G,v⟩
  simp only[dY,e,nE,false_eq_true,if_false];have A:=O k Za
  have⟨f1,f2⟩:=g k A (by simpa using w)
  simp only[A];rw[if_neg w,if_pos f1,<-f2,Q k Za]
def D1{α:Type}{k:Nat}{v:α}:∀{ds:Zv}{g:Tb α},bh (o7 ds g) k=some v->k∉ds
 |[],_,_=>Zc|d::ds,g,h=>by have a:=D1 (ds:=ds) h;have u:=(nP (n_ h)).1;grind
def ym:∀{args:Zw}{ds:Zv},rowsOf args=some ds->∀(j:Nat)u,args[j]?=some u->(∃x,u=.v x)\/∃d,u=.own d/\d∈ds
 |[],_,_,j,u,hu=>Ze|.v x::r,ds,h,j,u,hu=>by cases j with|zero=>grind|succ j=>exact ym (by simpa[rowsOf]using h) j u Zd
 |.own d::r,ds,h,j,u,hu=>by obtain⟨es,a,rfl⟩:=ζf.1 h;cases j with|zero=>grind|succ j=>rcases ym a j u Zd with k|⟨w,k1,k2⟩;grind;grind
 |.ptr ..::_,_,h,_,_,_|.el ..::_,_,h,_,_,_|.mp _::_,_,h,_,_,_|.clo ..::_,_,h,_,_,_|.tup _::_,_,h,_,_,_|.agg _::_,_,h,_,_,_|.yl _::_,_,h,_,_,_=>by simp[rowsOf]at h
def vB:∀{args:Zw}{ds:Zv}{n:Nat}{az:Zu},rowsOf args=some ds->cV m n args=some az->∀d∈ds,∃ob,bh m d=some ob
 |[],ds,_,_,h,_,d,a=>by simp[rowsOf]at h;grind|x::r,ds,n,az,h,B,d,a=>by
  simp[cV]at B;split at B;rotate_left;cases B;rename_i y s b G
  cases x with
  |v x=>exact vB (by simpa[rowsOf]using h) G d a|own e=>obtain⟨es,g1,rfl⟩:=ζf.1 h;rcases mem_cons.1 a with rfl|a;cases n<;>(simp[shut]at b;grind);exact vB g1 G d a
  |_=>simp[rowsOf]at h
def A9{H0:bl}(U:Deep H0 Z)(Y:∀d ob,bh m d=some ob->cu ob=true->(H0[(ν d).1]?).isSome=true->dX ν m H0 Z d ob){args:Zw}{ys:Zu}(W:bY ν m H0 Z args ys){ds:Zv}(f:rowsOf args=some ds)
 (J:∀d∈ds,∃ob,bh m d=some ob){q id:Nat}(h:id∈cN (b8 q H0) ys):Z id\/∃d ob,d∈ds/\bh m d=some ob/\cu ob=true/\(ν d).1=id/\∃j es off len:Nat,ys[j]?=some (V.hsl id es off len):=by
 have⟨j,y,T,a⟩:=pV h;have X:j<args.length:=by rw[W.1];grind
 have b:=ζd X;have D:=W.2 j _ y b T;rcases ym f j _ b with⟨x,e⟩|⟨d,e,I⟩
 .rw[e]at D;cases D with|v _ _ hf=>exact .inl (FR.b8 U q hf id a)
 rw[e]at D;have⟨ob,C⟩:=J d I;obtain⟨k,es,G,rfl,rfl⟩:=D.jT C
 by_cases w:cD k=true
 .cases q with
  |zero=>simp[b8]at a|succ q=>
  have L:rm (ν d) k es G.length=.hsl (ν d).1 es (ν d).2 G.length:=by cases k<;>first|rfl|cases w
  rw[L]at a;have g:cu (.sl k es G)=true:=w
  by_cases z:(H0[(ν d).1]?).isSome=true
  .have o:=Y d _ C g z;simp[dX,w]at o;have⟨r,l,_,_,n,_⟩:=o;simp only[b8,V.closed,false_eq_true,if_false,l,mem_cons]at a;rcases a with rfl|a
   .grind
   have⟨i,u,b,O⟩:=pV a;have⟨c,hc,Q⟩:=List.mem_flatten.1 (mem_of_getElem? b);have⟨x,p⟩:=n c (mem_of_mem_drop (List.mem_of_mem_take hc)) u Q;exact .inl (FR.b8 U q p id O)
  have B:H0[(ν d).1]?=none:=Zd
  simp[b8,V.closed,B]at a
  grind
 have S:(rm (ν d) k es G.length).closed=true:=by cases k<;>first|rfl|(exact absurd rfl w)
 rw[zg q H0 S]at a;cases a
theorem R8 (hS:jt S c) {ops:aY Oper} {place:aZ (Nat×Nat)} {nw:Bool} (U:∀b i,place=some (b,i)->nw=true->dD ops i=true)
 (hold:∀b i,place=some (b,i)->∀id,Z id->id<b)
 (r:R ν Z st F H) {args:aY SV} {ys:aY V} (ha:bY ν st.m H Z args ys) {f:FuncId} (hk:S.E.keep f=false) {az:aY V} (hs:cV st.m 8 args=some az) (ab:(!place.isSome||nw)=true)
 {rs:aY SV} {m':dP} {J:aY V} (hc:c f (az.map .v) []=some (rs,m')) (W:cV m' 8 rs=some J) (O:(result J).scalar=false) {ds:aY Nat} (hr:rowsOf args=some ds) (Y:∀d∈ds,∃ob,bh st.m d=some ob) :
 ∃n H',(∀k,n<=k->dY S.E (run S.E k) ops place f ys H=some (result J,H'))/\R ν Z { st with m:=o7 ds st.m } F H'/\cZ ν (o7 ds st.m) H' Z (.v (result J)) (result J)/\Ev Rv ν Z st H ν Z { st with m:=o7 ds st.m } H':=by
 have hg:=ze r.obj hs ha;obtain⟨n1,rr,H2,h1,h2,h3⟩:=B0 hS hg hc W;obtain⟨n2,hb⟩:=wF r ha hs;have C:=DX h1 h2 h3 hb;generalize hn:max n1 n2=n at C;have D:=C;have L:∀k,n<=k->cN (b8 k H) ys=cN (b8 n H) ys:=λk hk=>yp hk (hb n Za)
 have X:∀{H'},cZ ν (o7 ds st.m) H' Z (.v (result J)) (result J):=.v _ _ (.same _ h3);have B:∀d ob,bh (o7 ds st.m) d=some ob->bh st.m d=some ob:=λd ob h=>n_ h
 have hT:∀id∈cN (b8 n H) ys,Z id\/∃d ob,d∈ds/\bh st.m d=some ob/\cu ob=true/\(ν d).1=id/\∃j es off len:Nat,ys[j]? = some (V.hsl id es off len):=λid w=>A9 r.deep (λd ob h _ _=>r.obj d ob h) ha hr Y w
 have r2  := r.less (λ_ _ h=>h) B
 have q1  := r2.heap (λid ho=>tJ λw=>by
  obtain⟨d,ob,g1,g2,rfl⟩:=ho;rcases hT _ w with h|⟨d',Q,k1,k2,k3,k4,_⟩
  .exact r.apart d ob (B d ob g1) g2 h
  have:=r.inj d' d Q ob k2 (B d ob g1) k3 g2 k4;subst this;exact D1 g1 k1) (λid w=>qH r.zrow w)
 have q2:Ev Rv ν Z st H ν Z { st with m:=o7 ds st.m } (cH H (cN (b8 n H) ys)):=(Ev.heap (by rw[jS];grind) (λid _ ho W _=>tJ λw=>by
  rcases hT _ w with h|⟨d',Q,k1,k2,k3,k4,_⟩
  .simp_all
  exact ho ⟨d',Q,k2,k3,k4⟩) (λid w=>qH r.zrow w)).trans (Ev.less  B)
 cases place with
 | none=>exact⟨n,cH H (cN (b8 n H) ys),λk z=>by simp[dY,kG,hk,D k z,O,nE,L k z],q1,X,q2⟩
 | some bi=>
  obtain⟨b,i⟩:=bi;have o2:=hold b i rfl;have fits:∀k,bW (run S.E k) f ys (H.take b)=some (result J)->iI (H.take b) (cN (b8 k (H.take b)) ys)=true/\cN (b8 k H) ys=cN (b8 k (H.take b)) ys:=λk hi=>by
   have G:∀id,Z id->Z id/\bq (H.take b) id=bq H id:=λid h=>⟨h,m_ (o2 id h)⟩
   have hd:Deep (H.take b) Z:=⟨λid es ys W hr c hc u hu=>by
    rw[(G id W).2]at hr;obtain⟨x,hx⟩:=r.deep.row id es ys W hr c hc u hu;exact⟨x,hx.mono G⟩⟩
   have ad  := ha.mono G λe _=>iN ν st.m e
   have ae:∀d ob,bh st.m d=some ob->cu ob=true->((H.take b)[(ν d).1]?).isSome=true->dX ν st.m (H.take b) Z d ob:=λd ob h hb af=>
    dX.mono G rfl (λ_=>by
     grind) (λe _=>iN ν st.m e) (r.obj d ob h)
   have aa:∀(j:Nat) (y:V),ys[j]? = some y->(borrow k (H.take b) y).isSome=true:=λj y T=>by
    unfold bW at hi;rw[nE]at hi;split at hi
    .rename_i ah ai;obtain⟨_,hm⟩:=iL ai;have hj:=(ζe.1 T).1;obtain⟨x,ak,al⟩:=hm j _ (ζd (show j<ah.length by omega))
     grind
    cases hi
   have hZ:∀id∈cN (b8 k (H.take b)) ys,id<b/\(bq (H.take b) id).isSome=true:=λid w=>by
    rcases A9 hd ae ad hr Y w with h|⟨d,ob,k1,k2,k3,k4,j,es,off,len,T⟩
    .have:=r.zrow id h
     grind
    have I:=aa j _ T
    cases k with
    | zero=>simp[borrow,V.closed]at I
    | succ k=>
    simp only[borrow,V.closed,Bool.false_eq_true,if_false]at I;split at I
    next am xs hx=>obtain⟨o,ho,_⟩:=ζg.1 hx;have:=(ζe.1 ho).1;rw[List.length_take]at this;exact⟨by omega,by unfold bq;rw[hx];rfl⟩
    cases I
   refine⟨?_,tL _ λid w=>(hZ id w).1⟩
   unfold iI;rw[List.all_eq_true];exact λid w=>(hZ id w).2
  refine⟨n,cH H (cN (b8 n H) ys),λk z=>?_,q1,X,q2⟩
  simp only[dY,kG,hk,nE,Bool.false_and,Bool.false_eq_true,if_false];split
  next y T=>have h9:=pQ T;rw[D k z]at h9;cases h9;obtain⟨f1,f2⟩:=fits k T;rw[if_neg (by rw[O];simp),if_pos f1,<-f2,L k z]
  have aj:=U b i rfl (by simpa using ab)
  simp only[aj,if_true,D k z];rw[if_neg (by rw[O];simp),L k z]
def Ix{xs ys:Zt}(h:fZ H Z xs ys)(B:og xs=true):ys=xs:=by
 refine(List.ext_getElem h.1 λj a z=>?_).symm;have:=h.2 j _ _ (ζd a) (ζd z);have w:=by unfold og at B;rw[all_eq_true]at B;have:=B _ (List.getElem_mem a);rw[all_eq_true]at this;exact qv.2 λk u b=>this u (mem_of_getElem? b)
 exact(this.scalar.1 w).symm
def Cd:∀{B:Zv}{os:Tb bE}{g:Tb bE},k_ g B=some os->∀k ob,bh os k=some ob->bh g k=some ob
 |[],os,g,h,k,ob,hk=>by simp[k_]at h;subst h;simp[bh]at hk|n::r,os,g,h,k,ob,hk=>by simp only[k_]at h;split at h;rename_i v t a G;cases h;simp only[bh]at hk;split at hk;(next e=>subst e;cases hk;exact a);exact Cd G k ob hk;cases h
def Iq{args:Zw}{os:dP}(h:handed m args=some os):∀k ob,bh os k=some ob->bh m k=some ob:=Cd h
mutual
def OE{d:Nat}:∀{x:SV},x.cM d=true->d∈x.EC
 |.v _,h=>by simp[SV.cM]at h|.own e,h|.ptr e _,h|.el e _ _,h|.mp e,h=>by simp[SV.cM]at h;simp[SV.EC,h]|.clo _ a b,h=>by simp only[SV.cM,or_eq_true]at h;simp only[SV.EC,mem_append];rcases h with h|h;exact .inl (um h);exact .inr (um h)
 |.tup l,h|.agg l,h=>by simp only[SV.cM]at h;simp only[SV.EC];exact um h|.yl _,h=>by simp[SV.cM]at h
def um{d:Nat}:∀{l:Zw},SV.dy d l=true->d∈SV.xL l
 |[],h=>by simp[SV.dy]at h|x::r,h=>by simp only[SV.dy,or_eq_true]at h;simp only[SV.xL,mem_append];rcases h with h|h;exact .inl (OE h);exact .inr (um h)
end
def Ba{G:Zv}{ob:bE}(h:within G ob=true){e:Nat}(B:ob.cM e=true):e∈G:=by cases ob with|box w=>unfold within at h;rw[all_eq_true]at h;simpa using h e (um B)|sl k es z=>simp[bE.cM]at B|mp u=>simp[bE.cM]at B
def CB{G:Zv}:∀{l:Zv}{a b:Tb bE},yC G m' l a=some b->(∀k∈l,bh b k=bh m' k/\∃ob,bh m' k=some ob/\within G ob=true)/\∀k,k∉l->bh b k=bh a k
 |[],a,b,h=>by simp[yC]at h;grind|d::r,a,b,h=>by simp[yC]at h;split at h;rename_i ob B;split at h;rename_i O;have⟨g,J⟩:=CB h;refine⟨λk c=>?_,λk c=>?_⟩;by_cases f:k∈r;grind;have e:k=d:=Zd;subst e;exact⟨by rw[J k f,cz,B],ob,B,O⟩;simp at c;rw[J k c.2,dO _ _ (Ne.symm c.1)];grind;grind
def Fi{l:Zv}{a b:Tb bE}(h:nh m' l a=some b):(∀k∈l,bh b k=bh m' k/\∃ob,bh m' k=some ob/\within l ob=true)/\∀k,k∉l->bh b k=bh a k:=CB h
def mem_keys:∀{os:dP}{k:Nat},k∈os.map (·.1)↔∃ob,bh os k=some ob
 |[],k=>by simp[bh]|(d,o)::os,k=>by simp[bh];by_cases e:d=k;simp_all;rw[if_neg e,<-mem_keys];grind
def s6:∀{l:Zw}{j:Nat}{u:SV},SV.vP l=true->l[j]?=some u->u.bare=true
 |[],j,u,h,B=>by simp at B|x::r,j,u,h,B=>by simp only[SV.vP,ζh]at h;cases j with|zero=>simp at B;subst B;exact h.1|succ j=>exact s6 h.2 (by simpa using B)
def cZ.bare{Z2:Nat->Prop}{sv:SV}{y:V}(r:cZ ν m H Z sv y):sv.bare=true->cZ ν m H Z2 sv y:=by induction r with|v x y h=>intro z;have z:x.scalar=true:=z;rw[(h.scalar.1 z)];exact .v _ _ (.same _ (jH z))|own d y h=>intro _;exact .own d y h|ptr d o y h=>intro _;exact .ptr d o y h|el d i o y h=>intro _;exact .el d i o y h|mp d y h=>intro _;exact .mp d y h|clo f a b B G C z hva I w D=>intro h;simp only[SV.bare,ζh]at h;exact .clo f a b B G C z (λj u v c e=>w j u v c e (s6 h.1 c)) λj u v c e=>D j u v c e (s6 h.2 c)|tup a B C hva w=>intro h;exact .tup a B C λj u v c e=>w j u v c e (s6 h c)|agg a B C hva w=>intro h;exact .agg a B C λj u v c e=>w j u v c e (s6 h c)|yl id=>intro _;exact .yl id
def dX.bare{Z2:Nat->Prop}{d:Nat}{ob:bE}(h:ob.bare=true)(o:dX ν m H Z d ob):dX ν m H Z2 d ob:=by cases ob with|box D=>have⟨es,w,b,z,B⟩:=o;exact⟨es,w,b,⟨z.1,λj u v a c=>(z.2 j u v a c).bare (s6 h a)⟩,B⟩|sl k es G=>cases h|mp C=>cases h
def zZ(hS:jt S c){f:Zk}(ae:S.E.keep f=true)(r:R ν Z st F H){args:Zw}{ys:Zu}(ha:bY ν st.m H Z args ys){os:dP}(hh:handed st.m args=some os)
 {rs:Zw}{m':dP}{J:Tb bE}(hc:c f args os=some (rs,m'))(x:nh m' (os.map (·.1)) st.m=some J):
 ∃n H' U Z' G F1 K,(∀k,n<=k->run S.E k (.fn f) ys H=some (result K,H'))/\G.m=m'/\bY U m' H' Z' rs K/\R U Z' G F1 H'/\(∀e ob,bh m' e=some ob->e∉os.map (·.1)->cu ob=true->H.length<=(U e).1)/\
  R ν Z' {st with m:=J} F H'/\Ev Rv ν Z st H ν Z' {st with m:=J} H'/\(∀e ob',bh J e=some ob'->∃ob,bh st.m e=some ob/\ν e=ν e/\sameShape ob ob')/\
  ((∀k∈os.map (·.1),zU J k=true)->R ν Z {st with m:=J} F H'/\Ev Rv ν Z st H ν Z {st with m:=J} H'):=by
 have u:=Iq hh;have ab:=ha.mono (λid h=>⟨h,rfl⟩) λe _ ob' h=>⟨ob',u e ob' h,rfl,.refl _⟩
 have r0:R ν Z (start args os) ys H:=by refine⟨wA ab,λd ob hd=>?_,λd d' ob ob' a B=>r.inj d d' ob ob' (u d ob a) (u d' ob' B),λd ob h=>r.apart d ob (u d ob h),r.zrow,r.deep⟩;exact dX.mono (λid h=>⟨h,rfl⟩) rfl (λ_=>rfl) (λe _ ob' h=>⟨ob',u e ob' h,rfl,.refl _⟩) (r.obj d ob (u d ob hd))
 obtain⟨n,y,H',U,Z',G,F1,K,e1,rfl,rfl,e2,e3,ev⟩:=hS f args os rs m' hc ν Z ys H (.inl ae) r0 ab;have⟨M,b2⟩:=Fi x;have I:∀k ob',k∈os.map (·.1)->bh G.m k=some ob'->∃ob,bh os k=some ob/\U k=ν k/\sameShape ob ob':=λk ob' g h=>ev.pin k g ob' h
 have L:∀id,fq ν os id->fq ν st.m id:=λid⟨k,o,a,B,C⟩=>⟨k,o,u k o a,B,C⟩
 have A:∀ob ob':bE,sameShape ob ob'->cu ob'=cu ob:=λob ob' h=>by cases ob<;>cases ob'<;>simp[sameShape]at h;simp[cu,h.1];rfl;rfl
 have D:∀k ob',bh J k=some ob'->∃ob,bh st.m k=some ob/\sameShape ob ob'/\(k∈os.map (·.1)/\bh G.m k=some ob'/\U k=ν k/\bh os k=some ob/\within (os.map (·.1)) ob'=true\/k∉os.map (·.1)/\ob'=ob):=λk ob' h=>by by_cases g:k∈os.map (·.1);grind;rw[b2 k g]at h;exact⟨ob',h,.refl _,.inr ⟨g,rfl⟩⟩
 have z:∀k ob,k∉os.map (·.1)->bh st.m k=some ob->cu ob=true->H'[(ν k).1]?=H[(ν k).1]?/\¬Z' (ν k).1:=λk ob g h w=>by have ad:¬fq ν os (ν k).1:=(by rintro⟨k2,o2,g1,g2,g3⟩;have:=r.inj k2 k o2 ob (u k2 o2 g1) h g2 w g3;subst this;exact g (mem_keys.2 ⟨o2,g1⟩));have af:=r.lt ⟨k,ob,h,w,rfl⟩;have ah:=r.apart k ob h w;refine⟨ev.same _ af ad ah (λh=>h),λai=>?_⟩;rcases ev.frz _ ai with h|h|h|h;simp_all;exact ad h;omega;omega
 have Y:∀e ob',bh J e=some ob'->∃ob,bh st.m e=some ob/\ν e=ν e/\sameShape ob ob':=λe ob' h=>by have⟨ob,a,B,_⟩:=D e ob' h;exact⟨ob,a,rfl,B⟩
 have i:∀e ob,bh G.m e=some ob->e∉os.map (·.1)->cu ob=true->H.length<=(U e).1:=λe ob q aj w=>by rcases ev.own _ ⟨e,ob,q,w,rfl⟩with⟨k,o,a,B,C⟩|h|h;have g:k∈os.map (·.1):=mem_keys.2 ⟨o,a⟩;have⟨_,ob',h4,_⟩:=M k g;have⟨o2,T,j,l⟩:=I k ob' g h4;have T:bh os k=some o2:=T;have a:bh os k=some o:=a;rw[a]at T;cases T;have:=e3.inj e k ob ob' q h4 w (by rw[A _ _ l];exact B) (by rw[j];exact C.symm);exact absurd (this▸g) aj;exact h.elim;exact h
 have W:∀b t o1 o2,bh J b=some o1->bh J t=some o2->cu o1=true->cu o2=true->(ν b).1=(ν t).1->b=t:=λb t o1 o2 a B k1 k2 hp=>by have⟨p1,g1,v,_⟩:=D b o1 a;have⟨p2,g2,s2,_⟩:=D t o2 B;exact r.inj b t p1 p2 g1 g2 (by rw[<-A _ _ v];omega) (by rw[<-A _ _ s2];omega) hp
 have O:∀id,id<H.length->¬fq ν st.m id->¬Z id->¬Rv id->H'[id]?=H[id]?:=λid hl ho hz _=>ev.same id hl (λh=>ho (L id h)) hz (λh=>h)
 have X:∀id,fq ν J id->fq ν st.m id\/Rv id\/H.length<=id:=by rintro id ⟨k,o,a,B,C⟩;have⟨ob,g1,v,_⟩:=D k o a;exact .inl ⟨k,ob,g1,by rw[<-A _ _ v];omega,C⟩
 have N:∀id,Z id->Z id/\bq H' id=bq H id:=λid h=>⟨h,(ev.rows id h).2⟩
 refine⟨n,H',U,Z',G,F1,K,λk g=>(nC S.E g).go _ _ _ _ e1,rfl,e2,e3,i,⟨λs sv P=>(r.slot s sv P).mono ev.rows λe _=>Y e,λk ob' h=>?_,W,λb o1 a k1=>?_,e3.zrow,e3.deep⟩,⟨ev.len,O,ev.rows,X,?_,λe _=>Y e,rfl⟩,Y,
  λak=>⟨⟨λs sv P=>(r.slot s sv P).mono N λe _=>Y e,λk ob' h=>?_,W,λb o1 a k1=>?_,λid h=>by rw[(ev.rows id h).2];exact r.zrow id h,r.deep.mono λid h=>(ev.rows id h).2⟩,⟨ev.len,O,N,X,λid h=>.inl h,λe _=>Y e,rfl⟩⟩⟩
 .obtain⟨ob,a,B,C|⟨C,rfl⟩⟩:=D k ob' h
  .have⟨T,j,l,q4,q5⟩:=C;refine dX.mono (λid h=>⟨h,rfl⟩) l.symm (λ_=>rfl) (λe q Q B=>?_) (e3.obj k ob' j)
   have E:=Ba q5 q;have⟨u1,al,p,_⟩:=M e E;rw[u1,p]at B;cases B;have⟨_,_,u4,_⟩:=I e Q E p;exact⟨Q,p,u4.symm,.refl _⟩
  exact dX.mono ev.rows rfl (λw=>(z k ob' C a w).1) (λe _=>Y e) (r.obj k ob' a)
 .obtain⟨ob,g1,v,C|⟨C,rfl⟩⟩:=D b o1 a
  .have⟨T,j,l,q4,q5⟩:=C;rw[<-l];exact e3.apart b o1 j k1
  exact(z b o1 C g1 k1).2
 .intro id h;rcases ev.frz id h with h|h|h|h
  .exact .inl h
  .exact .inr (.inl (L id h))
  .exact h.elim
  omega
 .obtain⟨ob,a,B,C|⟨C,rfl⟩⟩:=D k ob' h
  .have⟨T,j,l,q4,q5⟩:=C;have x:=ak k T;unfold zU at x;rw[h]at x;refine dX.bare (Z:=Z') x (dX.mono (λid h=>⟨h,rfl⟩) l.symm (λ_=>rfl) (λe q Q B=>?_) (e3.obj k ob' j))
   have E:=Ba q5 q;have⟨u1,al,p,_⟩:=M e E;rw[u1,p]at B;cases B;have⟨_,_,u4,_⟩:=I e Q E p;exact⟨Q,p,u4.symm,.refl _⟩
  exact dX.mono N rfl (λw=>(z k ob' C a w).1) (λe _=>Y e) (r.obj k ob' a)
 have⟨ob,g1,v,_⟩:=D b o1 a;exact r.apart b ob g1 (by rw[<-A _ _ v];exact k1)
def Rf(O:jt S c){f:Zk}(J:S.E.keep f=true)(r:R ν Z st F H){args:Zw}{ys:Zu}(U:bY ν st.m H Z args ys){os:dP}(W:handed st.m args=some os)
 {rs:Zw}{m':dP}{G:Zu}{B:Tb bE}(hc:c f args os=some (rs,m'))(Y:di rs=some G)(a:nh m' (os.map (·.1)) st.m=some B):
 ∃n y H' Z',(∀k,n<=k->run S.E k (.fn f) ys H=some (y,H'))/\R ν Z' {st with m:=B} F H'/\cZ ν B H' Z' (.v (result G)) y/\Ev Rv ν Z st H ν Z' {st with m:=B} H'/\∀e ob',bh B e=some ob'->∃ob,bh st.m e=some ob/\ν e=ν e/\sameShape ob ob':=by
 have⟨n,H',L,Z',C,F1,w,e1,_,e2,_,_,g1,g2,g3,_⟩:=zZ (Rv:=Rv) O J r U W hc a;refine⟨n,result w,H',Z',e1,g1,?_,g2,g3⟩;have u:=e2.di Y;have:FR H' Z' (result G) (result w):=by cases G with|nil=>rw[u.cQ];exact .same _ rfl|cons x z=>obtain⟨y,D,rfl,g1,g2⟩:=u.inv;cases z with|nil=>rw[g2.cQ];exact g1|cons x2 z=>obtain⟨Q,I,rfl,g3,g4⟩:=g2.inv;exact .tup _ _ u.1 u.2
 exact .v _ _ this
def xC{ys:Zu}(h:V.cG ys=true):(result ys).scalar=true:=by cases ys with|nil=>rfl|cons a l=>cases l with|nil=>simp only[V.cG,ζh]at h;exact h.1|cons b l=>simp[result,V.scalar];omega
def RU(W:jt S c){f:Zk}(J:S.E.keep f=true)(r:R ν Z st F H){args:Zw}{ys:Zu}(Y:bY ν st.m H Z args ys){os:dP}(a:handed st.m args=some os)
 {rs:Zw}{m':dP}{G:Zu}{B:Tb bE}(hc:c f args os=some (rs,m'))(b:di rs=some G)(d:nh m' (os.map (·.1)) st.m=some B)(U:V.cG G=true)(O:∀k∈os.map (·.1),zU B k=true):
 ∃n H',(∀k,n<=k->run S.E k (.fn f) ys H=some (result G,H'))/\R ν Z {st with m:=B} F H'/\cZ ν B H' Z (.v (result G)) (result G)/\Ev Rv ν Z st H ν Z {st with m:=B} H'/\∀e ob',bh B e=some ob'->∃ob,bh st.m e=some ob/\ν e=ν e/\sameShape ob ob':=by
 have⟨n,H',z,Z',u,F1,C,e1,_,e2,_,_,_,_,g3,g4⟩:=zZ (Rv:=Rv) W J r Y a hc d;have⟨g1,g2⟩:=g4 O;have w:=(e2.di b).scalar.1 U;subst w;exact⟨n,H',e1,g1,.v _ _ (.same _ (jH (xC U))),g2,g3⟩
def SO(j:jt S c){f:Zk}(W:S.E.keep f=true)(r:R ν Z st F H){args:Zw}{ys:Zu}(l:bY ν st.m H Z args ys){os:dP}(q:handed st.m args=some os)
 {rest:Zw}{m':dP}{U:Zu}{B:Tb bE}{e t es:Nat}{k:Fl}{xs:Zt}(hc:c f args os=some (.own e::rest,m'))(s:di rest=some U)(v:nh m' (os.map (·.1)) st.m=some B)
 (J:bh m' e=some (.sl k es xs))(O:e∉os.map (·.1))(G:St.new {st with m:=B} t=true):
 ∃n y H' ν' Z',(∀k,n<=k->run S.E k (.fn f) ys H=some (y,H'))/\R ν' Z' {st with m:=bH B t (.sl k es xs)} F H'/\cZ ν' (bH B t (.sl k es xs)) H' Z' (AL (.own t::U.map .v)) y/\Ev Rv ν Z st H ν' Z' {st with m:=bH B t (.sl k es xs)} H'/\Kept (some t) ν st.m ν' (bH B t (.sl k es xs)):=by
 obtain⟨n,H',D,Z',aa,F1,ws,e1,rfl,e2,e3,a,g1,g2,g3,_⟩:=zZ (Rv:=Rv) j W r l q hc v;obtain⟨w,Q,rfl,A,E⟩:=e2.inv;have o:=e3.obj e _ J;have T:cu (.sl k es xs)=true->¬fq ν B (D e).1:=λC=>by rintro⟨k2,o2,g,K,h3⟩;have⟨o3,M,_,Y⟩:=g3 k2 o2 g;have X:cu o3=true:=(by cases o3<;>cases o2<;>simp[sameShape]at Y;rw[<-K];simp[cu,Y.1];rfl;rfl);have ab:=r.lt ⟨k2,o3,M,X,rfl⟩;have:=a e _ J O C;omega
 have N:=g1.add G (ob:=.sl k es xs) (p:=D e) (λC=>⟨T C,e3.apart e _ J C⟩) (by
  simp only[dX,gN];exact o)
 have b:cZ (iH ν t (D e)) (bH B t (.sl k es xs)) H' Z' (.own t) w:=by refine .own _ _ λu i=>?_;rw[cz]at i;cases i;obtain⟨_,_,_,P,rfl⟩:=A.jT J;cases P;exact⟨_,_,_,rfl,by rw[gN]⟩
 have⟨n1,n2,n3,n4⟩:=mh G;refine⟨n,result (w::Q),H',iH ν t (D e),Z',e1,N,?_,⟨g2.len,g2.same,g2.rows,?_,g2.frz,?_,g2.pins⟩,?_⟩
 .have I:=E.di s
  cases U with
  |nil=>rw[I.cQ];exact b|cons x U=>obtain⟨y,ad,rfl,_,_⟩:=I.inv;exact .tup _ _ (by have:=I.1;simp at this⊢;omega) (bY.cons b (bY.qJ I)).2
 .intro id h;rcases DU h with h|⟨g,rfl⟩
  .exact g2.own id h
  exact .inr (.inr (a e _ J O g))
 .intro d L u h;have z:d≠t:=λe=>n1 (e▸L)
  have h:bh (bH B t (.sl k es xs)) d=some u:=h;rw[dO _ _ (Ne.symm z)]at h;have⟨ob,k1,k2,k3⟩:=g2.pin d L u h;exact⟨ob,k1,by rw[oD _ _ z],k3⟩
 intro d u L h;have z:d≠t:=λe=>L (by rw[e])
 rw[dO _ _ (Ne.symm z)]at h;have⟨ob,k1,_,k3⟩:=g3 d u h;exact⟨ob,k1,oD _ _ z,k3⟩
def PI(B:jt S c){f:Zk}{az:Zu}{rs:Zw}{m':dP}(a:V.cr az=true)(h:c f (az.map .v) []=some (rs,m')):
 ∃n H2 ν' Z' st' F' ys,(∀k,n<=k->run S.E k (.fn f) az []=some (result ys,H2))/\st'.m=m'/\bY ν' m' H2 Z' rs ys/\R ν' Z' st' F' H2:=by
 have⟨u,r1⟩:=vO a;obtain⟨n,y,H2,ν',Z',st',F',w,b,rfl,z,C,D,_⟩:=B f _ _ _ _ h _ _ az [] (.inr rfl) u r1;exact⟨n,H2,ν',Z',st',F',w,λk d=>(nC S.E d).go _ _ _ _ b,z,C,D⟩
def De{ys:Zu}(h:V.cG ys=true):V.cG (.bG::ys)=true/\V.cG (.dw::ys)=true:=by simp[V.cG,V.scalar];grind
def bY.TV{ys:Zu}(h:V.cr ys=true):bY ν m H Z (ys.map .v) ys:=bY.qJ (c9.same h)
def PJ(M:jt S c)(hP:∀f q,S.prm f=some q->nW S.E f q){ops:Zz}{place:aZ (Nat×Nat)}{dr nw:Zl}{fr:Zv}(Y:dr=place.isSome)(U:∀b i,place=some (b,i)->nw=true->dD ops i=true)(aj:∀b i,place=some (b,i)->nw=false->dD ops i=false)
 (l:∀b i,place=some (b,i)->(∀d ob,bh st.m d=some ob->cu ob=true->d∉fr->(ν d).1<b)/\∀id,Z id->id<b)
 (r:R ν Z st F H){args:Zw}{ys:Zu}(K:bY ν st.m H Z args ys){f:Zk}{dst:aZ Nat}{sv:SV}(h:gj S c dst dr (!dr||nw) (gw st.m fr) f args st=some (sv,st')):
 ∃n y H' ν' Z',(∀k,n<=k->dY S.E (run S.E k) ops place f ys H=some (y,H'))/\R ν' Z' st' F H'/\cZ ν' st'.m H' Z' sv y/\Ev Rv ν Z st H ν' Z' st' H'/\(dr=true->Z'=Z)/\Kept dst ν st.m ν' st'.m:=by
 unfold gj at h;split at h
 .rename_i g;split at h
  .have C:∀{q:dg}{y:V}{H':bl},fc S.E q f ys H=some (y,H')->dY S.E q ops place f ys H=some (y,H'):=λ{q y H'}hd=>by
    unfold dY
    cases place with
    |none=>rw[if_pos (by simp[kG,g])];omega|some bi=>
     obtain⟨b,i⟩:=bi;have aK:=Y;have aB:=U b i rfl Zd
     rw[if_pos (by simp[kG,g,aB])]
     grind
   split at h
   .
    rename_i L;split at h
    .rename_i az hs;have hg:=ze r.obj hs K;obtain⟨nb,A⟩:=wF r K hs;split at h
     .rename_i rs m' hc;obtain⟨na,H2,ν2,Z2,st2,F2,E,aC,rfl,e3,e4⟩:=PI M hg hc;obtain⟨n,aD,aE⟩:∃n,na<=n/\nb<=n:=⟨max na nb,le_max_left ..,le_max_right ..⟩;have e1:=λk(g:n<=k)=>aC k (le_trans aD g)
      have O:∀k,n<=k->∀{o:aZ (V×bl)},(if(result E).scalar then some (result E,H)else
       match result E with
       |.hsl id es off len=>(qA H.length H2 id es off len).map λ(v,ob)=>(v,H++[ob])|.tup (.hsl id es off len::rest)=>if V.cG rest then(qA H.length H2 id es off len).map λ(v,ob)=>(.tup (v::rest),H++[ob])else none|_=>none)=o->fc S.E (run S.E k) f ys H=o:=λk D o P=>by
       unfold fc j_;rw[if_pos L];simp[nE,A k (le_trans aE D),e1 k D];exact P
      have ak:∀G:Zu,(result G).scalar=true->result E=result G->sv=.v (result G)->st'=st->∃n y H' ν' Z',(∀k,n<=k->dY S.E (run S.E k) ops place f ys H=some (y,H'))/\R ν' Z' st' F H'/\cZ ν' st'.m H' Z' sv y/\Ev Rv ν Z st H ν' Z' st' H'/\(dr=true->Z'=Z)/\Kept dst ν st.m ν' st'.m:=by rintro G h1 h2 rfl rfl;exact⟨n,result G,H,ν,Z,λk D=>C (O k D (by rw[h2,if_pos h1])),r,.v _ _ (.same _ (jH h1)),.refl,λ_=>rfl,.refl⟩
      have emp:∀(k:Fl)(es:Nat)(G:Zu)(rest:Zw),V.cG G=true->∀t,st.new t=true->∀w:V,(k=.nil/\w=.bG\/k=.emp/\w=.dw)->result (w::G)=result E->dst=some t->sv=AL (.own t::G.map .v)->st'={st with m:=bH st.m t (.sl k es [])}->
       ∃n y H' ν' Z',(∀k,n<=k->dY S.E (run S.E k) ops place f ys H=some (y,H'))/\R ν' Z' st' F H'/\cZ ν' st'.m H' Z' sv y/\Ev Rv ν Z st H ν' Z' st' H'/\(dr=true->Z'=Z)/\Kept dst ν st.m ν' st'.m:=by
       rintro k es G rest W t Q w hw al rfl rfl rfl;have ad:cD k=false:=by rcases hw with⟨rfl,_⟩|⟨rfl,_⟩<;>rfl
       have s:cZ (iH ν t (0,0)) (bH st.m t (.sl k es [])) H Z (.own t) w:=by refine .own _ _ λT h'=>?_;rw[cz]at h';cases h';exact⟨_,_,_,rfl,by rcases hw with⟨rfl,rfl⟩|⟨rfl,rfl⟩<;>rfl⟩
       have am:(result (w::G)).scalar=true:=xC (by rcases hw with⟨_,rfl⟩|⟨_,rfl⟩;exact(De W).1;exact(De W).2)
       refine⟨n,result (w::G),H,iH ν t (0,0),Z,λk D=>C (O k D (by rw[<-al,if_pos am])),r.add Q (λA=>by simp[cu,ad]at A) (by simp[dX,ad]),?_,
        Ev.add Q (le_refl _) (λ_ _ _=>rfl) (λ_ _=>rfl) (λA=>by simp[cu,ad]at A),λ_=>rfl,Kept.add λ_ _ h=>h⟩
       cases G with
       |nil=>exact s|cons z G=>exact .tup _ _ Zc (bY.cons s (bY.TV (pS W))).2
      split at h
      .rename_i G J;split at h
       next W=>simp at h;exact ak G W ((Fe (e3.di J)).1 W) h.1.symm h.2.symm
       simp at h
      split at h
      .rename_i e rest t _;obtain⟨w,E,rfl,g1,g2⟩:=e3.inv;split at h
       .
        rename_i es xs G X J;split at h
        .rename_i B;simp at B;obtain⟨⟨c1,N⟩,Q⟩:=B;simp at h;obtain⟨rfl,rfl⟩:=h;have o:=e4.obj e _ X;simp only[dX,if_true]at o;obtain⟨rows,hr,aL,hf,aJ,an⟩:=o;obtain⟨q1,q2⟩:=an trivial;have ae:=by
          have:=Ix hf N;rw[q1,drop_zero,<-q2,take_length]at this;exact this
         subst ae;obtain⟨_,_,_,ee,rfl⟩:=g1.jT X;cases ee;have I:=(g2.di J).scalar.1 c1;subst I;have ao:qA H.length H2 (ν2 e).1 es 0 rows.length=some (.hsl H.length es 0 rows.length,.row es rows):=by unfold qA;rw[hr];simp only[true_and];rw[if_pos];rw[all_eq_true];intro x hx;unfold og at N;rw[all_eq_true]at N;exact N x hx
         have hH:∀id,id<H.length->(H++[Ob.row es rows])[id]?=H[id]?:=λid hl=>getElem?_append_left hl
         have ap:∀id,Z id->bq (H++[Ob.row es rows]) id=bq H id:=λid J=>by unfold bq;rw[hH id (r.vw J)]
         have r2:=r.heap (λid P=>hH id (r.lt P)) ap
         have aq:V.mS rows=true:=by refine kq.2 λj u hu=>?_;unfold og at N;rw[all_eq_true]at N;have:=N u (mem_of_getElem? hu);rw[all_eq_true]at this;exact gO.2 λi v hv=>jH (this v (mem_of_getElem? hv))
         have hR:=r2.add (ob:=.sl .row es rows) (p:=(H.length,0)) Q (λ_=>⟨λP=>absurd (r.lt P) Zc,λJ=>absurd (r.vw J) Zc⟩) (by
          simp only[dX,gN];refine⟨rows,Zc,Zc,?_,(fZ.same aq).Fy,λ_=>⟨trivial,rfl⟩⟩
          rw[drop_zero,take_length];exact fZ.same aq)
         have s:cZ (iH ν t (H.length,0)) (bH st.m t (.sl .row es rows)) (H++[Ob.row es rows]) Z (.own t) (.hsl H.length es 0 rows.length):=by refine .own _ _ λT h'=>?_;rw[cz]at h';cases h';exact⟨_,_,_,rfl,by simp[rm,gN]⟩
         have ar:Ev Rv ν Z st H (iH ν t (H.length,0)) Z {st with m:=bH st.m t (.sl .row es rows)} (H++[Ob.row es rows]):=Ev.add Q Zc (λid hl _=>hH id hl) ap (λ_=>.inr (le_refl _))
         have au:rm (ν2 e) Fl.row es rows.length=.hsl (ν2 e).1 es 0 rows.length:=by simp[rm,q1]
         rw[au]at O
         cases rest with
         |nil=>
          have:=by simp only[di,ζa]at J;exact J.symm
          subst this;refine⟨n,_,_,_,Z,λk D=>C (O k D ?_),hR,s,ar,λ_=>rfl,Kept.add λ_ _ h=>h⟩
          simp[result,V.scalar,ao]
         |cons x2 rest=>
          have aF:∃w2 af,E=w2::af:=by have:=g2.1;cases E with|nil=>simp at this|cons a b=>exact⟨a,b,rfl⟩
          obtain⟨w2,af,rfl⟩:=aF;refine⟨n,_,_,_,Z,λk D=>C (O k D (o:=some (.tup (.hsl H.length es 0 rows.length::w2::af),H++[Ob.row es rows])) ?_),hR,?_,ar,λ_=>rfl,Kept.add λ_ _ h=>h⟩
          .simp only[result,V.scalar,V.cG,Bool.false_and,false_eq_true,if_false];have aG:=by simpa[V.cG]using c1
           simp[aG,ao]
          exact .tup _ _ Zc (bY.cons s (bY.TV (pS c1))).2
        simp at h
       .rename_i es xs G X J;split at h
        next B=>simp at B;simp at h;obtain⟨rfl,rfl⟩:=h;obtain⟨_,_,_,ee,rfl⟩:=g1.jT X;cases ee;have I:=(g2.di J).scalar.1 B.1;subst I;exact emp .nil es E rest B.1 _ B.2 .bG Zc rfl rfl rfl rfl
        simp at h
       .rename_i es xs G X J;split at h
        next B=>simp at B;simp at h;obtain⟨rfl,rfl⟩:=h;obtain⟨_,_,_,ee,rfl⟩:=g1.jT X;cases ee;have I:=(g2.di J).scalar.1 B.1;subst I;exact emp .emp es E rest B.1 _ B.2 .dw Zc rfl rfl rfl rfl
        simp at h
       simp at h
      simp at h
     grind
    grind
   rename_i L;split at h
   .rename_i q hq;split at h
    .simp at h
    rename_i hd;obtain⟨n,y,H',ν',e1,e2,e3,e4,e5⟩:=Ri (hP f q hq) r K h;exact⟨n,y,H',ν',Z,λk D=>C (by unfold fc;rw[if_neg L];exact e1 k D),e2,e3,e4,λh=>absurd h hd,e5⟩
   split at h
   .rename_i os hh;split at h
    .rename_i rs m' hc;split at h
     .rename_i G m2 J A;split at h
      .simp at h
      rename_i aa;simp at h;obtain⟨rfl,rfl⟩:=h
      cases av:dr with
      |false=>obtain⟨n,y,H',Z',e1,e2,e3,e4,e5⟩:=Rf M g r K hh hc J A;exact⟨n,y,H',ν,Z',λk D=>C (by unfold fc;rw[if_neg L];exact e1 k D),e2,e3,e4,(λh=>nomatch h),λe T _=>e5 e T⟩|true=>
       rw[av]at aa;have jd:V.cG G=true/\∀k∈os.map (·.1),zU m2 k=true:=by simp only[Bool.true_and,not_eq_true',Bool.not_eq_false,ζh,all_eq_true]at aa;refine⟨aa.1,λk g=>?_⟩;obtain⟨x,hx,rfl⟩:=List.mem_map.1 g;exact aa.2 x hx
       obtain⟨n,H',e1,e2,e3,e4,e5⟩:=RU (Rv:=Rv) M g r K hh hc J A jd.1 jd.2;exact⟨n,_,H',ν,Z,λk D=>C (by unfold fc;rw[if_neg L];exact e1 k D),e2,e3,e4,λ_=>rfl,λe T _=>e5 e T⟩
     .rename_i m2 J A;split at h
      .simp at h
      rename_i hd;split at h
      .rename_i e rest t;split at h
       .rename_i k es xs G he aH;split at h
        next B=>simp only[ζh,not_eq_true',List.contains_eq_mem,decide_eq_false_iff_not]at B;simp only[ζa,ζc]at h;obtain⟨rfl,rfl⟩:=h;obtain⟨n,y,H',ν',Z',e1,e2,e3,e4,e5⟩:=SO M g r K hh hc aH A he B.1 B.2;exact⟨n,y,H',ν',Z',λk D=>C (by unfold fc;rw[if_neg L];exact e1 k D),e2,e3,e4,λh=>absurd h hd,e5⟩
        simp at h
       simp at h
      simp at h
     simp at h
    simp at h
   simp at h
  rename_i ab;split at h
  .rename_i ah;simp only[ζh]at ah;have ai:kG S.E ops place f=false:=by
    simp only[Bool.not_eq_true,or_eq_false_iff,Bool.not_eq_false']at ab
    cases place with
    |none=>rw[Y]at ab;simp at ab|some bi=>simp[kG,g,ah.1,aj _ _ rfl ab.2]
   split at h
   .rename_i az hs;split at h
    .rename_i rs m' hc;split at h
     .rename_i G J;split at h
      next B=>simp only[or_eq_true]at B;simp at h;obtain⟨rfl,rfl⟩:=h;obtain⟨n,H',e1,e2,e3,e4⟩:=IZ M Y U l r K ai hs (.inr ah.2) hc J B;exact⟨n,_,H',ν,Z,e1,e2,e3,e4,λ_=>rfl,.refl⟩
      simp at h
     simp at h
    simp at h
   simp at h
  simp at h
 rename_i g;have aw:S.E.keep f=false:=by simpa using g
 have ai:kG S.E ops place f=false:=by unfold kG;rw[aw];rfl
 split at h
 .rename_i az hs;split at h
  .rename_i hl;split at h
   .rename_i rs m' hc;split at h
    .rename_i G J;split at h
     .rename_i B;simp only[or_eq_true]at B;simp at h;obtain⟨rfl,rfl⟩:=h;obtain⟨n,H',e1,e2,e3,e4⟩:=IZ M Y U l r K ai hs (by simpa using hl) hc J B
      exact⟨n,_,H',ν,Z,e1,e2,e3,e4,λ_=>rfl,.refl⟩
     rename_i ax;split at h
     .rename_i aI;obtain⟨ds,ay,e⟩:=ζf.1 h;simp at e;obtain⟨rfl,rfl⟩:=e;have aA:(result G).scalar=false:=by
       cases hq:(result G).scalar with
       |false=>rfl|true=>exact absurd (by simp[hq]) ax
      obtain⟨n,H',e1,e2,e3,e4⟩:=R8 M U (λb i hp=>(l b i hp).2) r K aw hs (by rw[<-Y];exact aI) hc J aA ay (vB ay hs)
      exact⟨n,_,H',ν,Z,e1,e2,e3,e4,λ_=>rfl,λe T _ h=>⟨T,n_ h,rfl,.refl _⟩⟩
     simp at h
    simp at h
   simp at h
  simp at h
 simp at h
end
structure CX where
 E:Env
 nm:FuncId->Option Nat
 nt:Nat
def BU(ops:Zz)(o:Oper):aZ (aZ (Nat×Zl)):=
 match o.guard with
 |none=>some none|some (j,b)=>((ops[j]?).bind (·.dst)).map λd=>some (d,b)
def yj(a:Nat):aZ Nat->Zl
 |none=>true|some d=>decide (d<a)
def wO(B:Zl)(ops:Zz)(i:Nat)(k:K)(os:aY Zr):K×aY Zr×Zl:=
 if B&& !dD ops i then match k,os,qW false ops i with
  |.l (.store n),.tmp u::w,some (a,l)=>if u=a then(.l (.storeF n),(.tmp u::w)++l.map .tmp,true)else(k,os,false)|.l (.append n),os,_=>if v_ ops i then(.e n,os,true)else(k,os,false)|.r (.load n ag),[.tmp u],_=>if(oW ops i u).isEmpty then(k,os,false)else(.r (.loadF n ag),.tmp u::(oW ops i u).map .tmp,false)|_,_,_=>(k,os,false)
 else(k,os,B&&dD ops i)
def Ch(B:Zl)(ops:Zz)(i:Nat)(k:K)(os:aY Zr):(wO B ops i k os=(k,os,B&&dD ops i)/\∀n ag a',B=true->dD ops i=false->k=.r (.load n ag)->os=[.tmp a']->oW ops i a'=[])\/
 (B=true/\dD ops i=false/\∃n a l G,k=.l (.store n)/\os=.tmp a::G/\qW false ops i=some (a,l)/\wO B ops i k os=(.l (.storeF n),os++l.map .tmp,true))\/
 (B=true/\dD ops i=false/\∃n ag a,k=.r (.load n ag)/\os=[.tmp a]/\wO B ops i k os=(.r (.loadF n ag),.tmp a::(oW ops i a).map .tmp,false))\/
 (B=true/\dD ops i=false/\v_ ops i=true/\∃n,k=.l (.append n)/\wO B ops i k os=(.e n,os,true)):=by
 unfold wO;split
 .rename_i h;simp only[ζh,not_eq_true']at h;split
  .rename_i n a' G a l hk;split
   next e=>subst e;refine .inr (.inl ⟨h.1,h.2,n,a',l,G,rfl,rfl,hk,?_⟩);simp only[wO,h.1,h.2,hk,Bool.not_false,Bool.and_self,if_true]
   exact .inl ⟨by rw[h.2,Bool.and_false],λn ag a' _ _ e=>by cases e⟩
  .rename_i n;split
   next D=>refine .inr (.inr (.inr ⟨h.1,h.2,D,n,rfl,rfl⟩))
   exact .inl ⟨by rw[h.2,Bool.and_false],λn ag a' _ _ e=>by cases e⟩
  .rename_i n ag a';split
   .rename_i I;refine .inl ⟨by rw[h.2,Bool.and_false],λn ag C _ _ _ e=>?_⟩
    simp only[List.cons.injEq,Operand.tmp.injEq,and_true]at e;subst e;simpa using I
   exact .inr (.inr (.inl ⟨h.1,h.2,n,ag,a',rfl,rfl,rfl⟩))
  rename_i u w z;refine .inl ⟨by rw[h.2,Bool.and_false],λn ag C _ _ e1 e2=>?_⟩
  first|exact(z _ _ _ e1 e2).elim|exact(z _ _ _ _ e1 e2 rfl).elim|exact(u _ _ _ e1 e2).elim|exact(w _ _ _ e1 e2).elim|exact(u _ _ _ _ e1 e2 rfl).elim|exact(w _ _ _ _ e1 e2 rfl).elim
 rename_i h;refine .inl ⟨rfl,λn ag C J L _ _=>?_⟩
 rw[J,L]at h;exact absurd rfl h
def mB(X:CX)(B:Zl)(ops:Zz)(i:Nat)(o:Oper):aZ RO:=
 if yj X.nt o.dst&& !(B&&(cE o.op==.call&&FW ops i))then
  match BU ops o,resolve X.E X.nm o.op with
  |some gd,some (k,os)=>if Ar k then if B&&CV X.E ops i then match k,o.op with
   |.a (.makeSl size zero),.makeSlice ..=>(os.mapM (oQ X.nm)).map λaz=>⟨o.dst,gd,false,.p (.makeC size zero),az,[],[]⟩|.a (.buildSl size len zero idx),.buildSlice ..=>if size≠0/\len=0/\idx=[]then(os.mapM (oQ X.nm)).map λaz=>⟨o.dst,gd,false,.p .emptyC,az,[],[]⟩else(os.mapM (oQ X.nm)).map λaz=>⟨o.dst,gd,false,.p (.buildC size len zero idx),az,[],[]⟩|_,_=>none
   else((wO B ops i k os).2.1.mapM (oQ X.nm)).map λaz=>⟨o.dst,gd,(wO B ops i k os).2.2,(wO B ops i k os).1,az,[],[]⟩else none
  |_,_=>none
 else none
def CT{E:Env}{N:Nat->Zk}{F:Zo}{op:Op}{ys:Zu}{size:Nat}{zero:Zu}{y:V}(G:∃t l c,op=.buildSlice t l c)(h:AI E N F op ys (.a (.buildSl size 0 zero [])))(J:size≠0)(B:bJ N .emptyC ys=some y):o4 E F op=some y:=by
 obtain⟨t,l,c,rfl⟩:=G;have⟨g1,g2⟩:=h;unfold bJ at B;split at B<;>first|(rename_i e;cases e;done)|skip
 simp only[ζa]at B;subst B;have u:=g2 _ (show iM (.buildSl size 0 zero []) []=some (.row size [],.sl size 0)by simp[iM,eS]);unfold o4;rw[u];simp[J];cases B
def zh{es:Nat}:∀{vs:aY (Nat×V)}{xs ys:Zt},eS es xs vs=some ys->ys.length=xs.length
 |[],xs,ys,h=>by simp only[eS,ζa]at h;rw[h]|(i,v)::r,xs,ys,h=>by simp only[eS]at h;split at h;have:=zh h;simpa using this;cases h
def Dm{E:Env}{N:Nat->Zk}{F:Zo}{op:Op}{ys:Zu}{size len:Nat}{zero:Zu}{idx:Zv}{y:V}(G:∃t l c,op=.buildSlice t l c)(h:AI E N F op ys (.a (.buildSl size len zero idx)))(B:bJ N (.buildC size len zero idx) ys=some y):o4 E F op=some y:=by
 obtain⟨t,l,c,rfl⟩:=G;have⟨g1,g2⟩:=h;simp only[bJ]at B;split at B;rename_i hc;split at B;rename_i z u;split at B;rename_i C;have D:len=z.length:=by have:=zh u;rw[this];simp
 have w:=g2 _ (show iM (.buildSl size len zero idx) ys=some (.row size z,.sl size len)by simp only[iM,if_pos hc.2,u,map_some]);unfold o4;rw[w];simp only;rw[if_pos ⟨trivial,D,C.2⟩,C.1];exact B;cases B;cases B;cases B
def CJ{E:Env}{N:Nat->Zk}{F:Zo}{op:Op}{ys:Zu}{size:Nat}{zero:Zu}{y:V}(G:∃t l c,op=.makeSlice t l c)(h:AI E N F op ys (.a (.makeSl size zero)))(B:bJ N (.makeC size zero) ys=some y):o4 E F op=some y:=by
 obtain⟨t,l,c,rfl⟩:=G;have⟨g1,g2⟩:=h;unfold bJ at B;split at B<;>first|(rename_i e;cases e;done)|skip
 rename_i k n I m e;cases e;split at B;rename_i c;obtain⟨rfl,rfl,w,rfl,z,C⟩:=c;have u:=g2 _ (show iM (.makeSl size zero) [.int .i64 n,.int .i64 n]=some (.row size (replicate n.toNat zero),.sl size n.toNat)by simp only[iM,w,z,Int.le_refl,and_self,if_true]);unfold o4;rw[u];simp only;rw[if_pos (by refine⟨by trivial,Zc,all_eq_true.2 λx D=>by rw[List.eq_of_mem_replicate D];exact C⟩),<-B];cases B;cases B
def CW{X:CX}{dr:Zl}{ops:Zz}{i:Nat}{o:Oper}{ro:RO}(hc:mB X dr ops i o=some ro):yj X.nt o.dst=true/\∃g now k az,BU ops o=some g/\ro=⟨o.dst,g,now,k,az,[],[]⟩:=by
 unfold mB at hc;split at hc
 .rename_i u;have u:=(Bool.and_eq_true_iff.1 u).1;split at hc
  .rename_i g k os hg hr;split at hc;(·(repeat' split at hc)<;>first|(cases hc;done)|(obtain⟨az,w,rfl⟩:=ζf.1 hc;exact⟨u,_,_,_,_,hg,rfl⟩));cases hc
  cases hc
 cases hc
def Eb{X:CX}{dr:Zl}{ops:Zz}{i:Nat}{o:Oper}{ro:RO}(hc:mB X dr ops i o=some ro)(B:dr=true)(G:cE o.op=.call):FW ops i=false:=by
 unfold mB at hc;split at hc;next h=>subst B;simp[G]at h;exact h.2
 cases hc
structure Good(X:CX)(S:Sys):Prop where
 E:X.E=S.E
 N:∀f s,X.nm f=some s->S.N s=f
 prm:∀f q,S.prm f=some q->nW S.E f q
section
variable{Rv:Nat->Prop}{ν ν':Nu}{Z Z':Nat->Prop}{st st':St}{m m':Tb bE}{F F':Zo}{H H' H1:bl}{S:Sys}{c:bZ}{X:CX}
def Old(b:Nat)(fr:Zv)(ν:Nu)(Z:Nat->Prop)(m:Tb bE):Prop:=(∀d ob,bh m d=some ob->cu ob=true->d∉fr->(ν d).1<b)/\∀id,Z id->id<b
def nD{fr:Zv}:∀{svs:Zw},eH fr svs=true->∀d∈fr,SV.dy d svs=false
 |[],_,d,_=>rfl|.v _::r,h,d,B=>(nD (svs:=r) (by simpa[eH]using h) d B)|.ptr e _::r,h,d,B=>by simp[eH,not_eq_true']at h;simp[SV.dy,SV.cM];exact⟨λe=>h.1 (e▸B),nD h.2 d B⟩|.el e _ _::r,h,d,B=>by simp[eH,not_eq_true']at h;simp[SV.dy,SV.cM];exact⟨λe=>h.1 (e▸B),nD h.2 d B⟩|.mp e::r,h,d,B=>by simp[eH,not_eq_true']at h;simp[SV.dy,SV.cM];exact⟨λe=>h.1 (e▸B),nD h.2 d B⟩|.own _::r,h,_,_=>by simp[eH]at h|.clo ..::r,h,_,_=>by simp[eH]at h|.tup _::r,h,_,_=>by simp[eH]at h|.agg _::r,h,_,_=>by simp[eH]at h|.yl _::r,h,_,_=>by simp[eH]at h
def Cu(S:Sys)(ops:Zz)(place:aZ (Nat×Nat))(dr:Zl)(F:Zo)(op:Op)(dst:aZ Nat)(ν:Nu)(Z:Nat->Prop)(st:St)(H:bl)(sv:SV)(st':St):Prop:=∃n y H' ν' Z',(∀k,n<=k->cK S.E (run S.E k) ops place F H op=some (y,H'))/\R ν' Z' st' F H'/\cZ ν' st'.m H' Z' sv y/\Ev (λid=>∃b j,place=some (b,j)/\id=b+j) ν Z st H ν' Z' st' H'/\(dr=true->Z'=Z/\Kept dst ν st.m ν' st'.m)
def yz{E:Env}{F:Zo}{H:bl}{place:aZ (Nat×Nat)}{op:Op}{v:V}(h:bK E F op=some v):sO E F H place op=some v:=by unfold sO;rw[h]
def zB:∀{xs ys:Zt}{l:Zx},fZ H Z xs ys->kY xs=some l->kY ys=some l
 |[],ys,l,h,B=>by have:=h.1;have:ys=[]:=List.eq_nil_of_length_eq_zero (by simpa using this.symm);subst this;exact B|x::xs,[],l,h,B=>by have:=h.1;simp at this|x::xs,y::ys,l,h,B=>by unfold kY at B;split at B;(next e=>cases e);rename_i n r e;cases e;obtain⟨k,c,rfl⟩:=ζf.1 B;have d:=h.2 0 _ y rfl rfl;obtain⟨u,z,rfl,p1,p2⟩:=d.inv;rw[p2.cQ,p1.int];have:=zB (xs:=xs) (ys:=ys) ⟨by have:=h.1;simpa using this,λj a b w B=>h.2 (j+1) a b w B⟩ c;simp only[kY,this,map_some];cases B
def LY(gd:Good X S){ops:Zz}{place:aZ (Nat×Nat)}{dr:Zl}{op:Op}{dst:aZ Nat}{p:uG}{svs:Zw}{ys:Zu}(a:Ar (.p p)=true)(r:R ν Z st F H)(rs:bY ν st.m H Z svs ys)
 (B:AI X.E S.N F op ys (.p p)){sv:SV}(h:(jy S.N st.m p svs).map (λx=>(x,st))=some (sv,st')):Cu S ops place dr F op dst ν Z st H sv st':=by
 have⟨x,w,e⟩:=ζf.1 h;obtain⟨rfl,rfl⟩:=e;have⟨y,z,u⟩:=F_ (λzero pl e=>by subst e;simpa[Ar]using a) r.obj rs w
 have⟨b,C⟩:=B;exact⟨0,y,H,ν,Z,λq _=>by unfold cK;rw[b];simp only[<-gd.E,yz (C y z),map_some],r,u,.refl,λ_=>⟨rfl,.refl⟩⟩
def zD(gd:Good X S){ops:Zz}{place:aZ (Nat×Nat)}{dr:Zl}{op:Op}{p:uG}{svs:Zw}{ys:Zu}(O:∀zero pl,p≠.build zero pl)(B:cE op=.alloc)(G:nk X.E ops place=true)(J:∀y,bJ S.N p ys=some y->o4 X.E F op=some y)
 (r:R ν Z st F H)(rs:bY ν st.m H Z svs ys){sv:SV}(h:(jy S.N st.m p svs).map (λx=>(x,st))=some (sv,st')):Cu S ops place dr F op none ν Z st H sv st':=by
 have⟨x,w,e⟩:=ζf.1 h;simp only[ζc]at e;obtain⟨rfl,rfl⟩:=e;have⟨y,z,u⟩:=F_ (N:=S.N) (λzero pl e=>absurd e (O zero pl)) r.obj rs w
 refine⟨0,y,H,ν,Z,λq _=>?_,r,u,.refl,λ_=>⟨rfl,.refl⟩⟩
 unfold cK;rw[B];simp only[G,if_true,<-gd.E,J y z,map_some]
def I4:∀{O B:aY Zr}{vs:Zu},fH F (O++B)=some vs->∃G J,fH F O=some G/\fH F B=some J/\vs=G++J
 |[],B,vs,h=>⟨[],vs,rfl,h,rfl⟩|x::O,B,vs,h=>by obtain⟨a,az,b,U,rfl⟩:=iG h;obtain⟨G,J,g1,g2,rfl⟩:=I4 U;exact⟨a::G,J,by simp[fH,b,g1],g2,rfl⟩
def BJ:∀{l:Zv}{vs:Zu},fH F (l.map Operand.tmp)=some vs->vs=l.map (get F)
 |[],vs,h=>pX h|x::l,vs,h=>by obtain⟨a,az,b,B,rfl⟩:=iG h;simp[ev]at b;subst b;rw[BJ B];rfl
def UL(gd:Good X S){call:dg}{ops:Zz}{b j n a:Nat}{l:Zv}{o:Oper}{B:aY Zr}{ys:Zu}{y:V}(c:resolve X.E X.nm o.op=some (.l (.store n),.tmp a::B))(G:fH F ((.tmp a::B)++l.map Operand.tmp)=some ys)
 (J:qW false ops j=some (a,l))(O:dD ops j=false)(e1:eY H (.storeF n) ys=some (y,H')):cK S.E call ops (some (b,j)) F H o.op=some (y,H'):=by
 obtain⟨W,Y,d,I,rfl⟩:=I4 G;have⟨g1,g2⟩:=iY gd.N c d;obtain⟨w,L,z,Q,rfl⟩:=iG d;simp[ev]at z;have u:∃v,L=[v]:=by have C:∃x,B=[x]:=(by unfold resolve at c;((repeat' split at c)<;>first|grind|skip);(all_goals (try (have⟨_,_,e⟩:=ζf.1 c;simp[K.l.injEq,IJ.store.injEq,reduceCtorEq]at e)));grind);obtain⟨x,rfl⟩:=C;obtain⟨v,Z,_,T,rfl⟩:=iG Q;rw[pX T];grind
 obtain⟨v,rfl⟩:=u;rw[BJ I,<-z]at e1;simp at e1
 cases D:get F a with
 |hptr id el off=>
  rw[D]at e1;simp only[eY]at e1;split at e1
  .have U:pn ops j F=true:=by
    unfold pn
    grind
   unfold cK;rw[g1];simp[U,<-gd.E];refine g2 _ _ ?_;rw[<-z,D];exact e1
  grind
 |_=>rw[D]at e1;simp[eY]at e1
def Fj{E:Env}{nm:Zk->aZ Nat}{op:Op}{s:Nat}{a:Zl}{os:aY Zr}(h:resolve E nm op=some (.r (.loadF s a),os)):False:=by
 unfold resolve at h;(repeat' split at h)<;>first|grind|skip
 all_goals simp_all
def G8{E:Env}{nm:Zk->aZ Nat}{op:Op}{s a':Nat}{a:Zl}{t:Zm}{os:aY Zr}(h:resolve E nm op=some (.r (.load s a),os)):∃t x,op=.load t x/\os=[x]:=by
 unfold resolve at h;(repeat' split at h)<;>first|grind|skip
 all_goals simp_all
 grind
def Nv{E:Env}{nm:Zk->aZ Nat}{ops:Zz}{j:Nat}{op:Op}{q:IL}{os:aY Zr}(a:resolve E nm op=some (.r q,os))(h:∀n ag a',K.r q=.r (.load n ag)->os=[.tmp a']->∀t,op=.load t (.tmp a')->oW ops j a'=[]):nM ops j F op=true:=by
 unfold nM;split;rename_i t a';have:∃n ag,q=.load n ag/\os=[.tmp a']:=by have⟨d,_,e⟩:=ζf.1 a;grind
 grind;rfl
def Sk(gd:Good X S){ops:Zz}{b j n a:Nat}{ag:Zl}{fr:Zv}{o:Oper}{svs:Zw}{ys:Zu}{dst:aZ Nat}{x:SV}(c:resolve X.E X.nm o.op=some (.r (.load n ag),[.tmp a]))(U:fH F (.tmp a::(oW ops j a).map Operand.tmp)=some ys)(rs:bY ν st.m H Z svs ys)
 (W:eH fr svs=true)(A:b<=H.length)(E:∀d ob,bh st.m d=some ob->cu ob=true->d∉fr->(ν d).1<b)(G:∀id,Z id->id<b)(r:R ν Z st F H)(O:mo st.m (.loadF n ag) svs=some x):Cu S ops (some (b,j)) true F o.op dst ν Z st H x st:=by
 obtain⟨w,k,f,m,rfl⟩:=iG U;simp[ev]at f;have K:=BJ m;unfold mo at O;split at O<;>first|(rename_i u;cases u;done)|skip
 .rename_i size agg d off l u;cases u;split at O
  .rename_i C;split at O
   .rename_i cs B;obtain⟨w',M,e,g1,g2⟩:=rs.inv;cases e;have D:=Jd r B g2 C;obtain⟨_,_,rfl⟩:=g1.oG B;have I:∀id,Z id->Z id/\bq (H.take b) id=bq H id:=λid h=>⟨h,m_ (G id h)⟩
    have J:∀id,Z id->Z id/\bq H id=bq (H.take b) id:=λid h=>⟨h,(m_ (G id h)).symm⟩
    have N:d∉fr:=λg=>by have:=nD W d g;simp[SV.dy,SV.cM]at this
    obtain⟨y,p,Q⟩:=vH (r:=.load n ag) (λs a e=>by cases e) (λkk z ok e=>by cases e) (bY.cons (g1.mono I λe _=>iN ν st.m e) .nil) (λi T ob L=>by
     have P:i∉fr:=λg=>by have:=(by simpa[SV.dy,SV.cM]using T);grind
     exact dX.mono I rfl (λhb=>Zd) (λe _=>iN ν st.m e) (r.obj i ob L)) (by simp[mo,B];omega)
    obtain⟨k1,k2⟩:=iY gd.N c (show fH F [.tmp a]=some [.hptr (ν d).1 0 off]from by simp[fH,ev,f])
    have Y:nM ops j F o.op=true:=by obtain⟨t,x',e1,e2⟩:=G8 (a':=0) (t:=0) c;rw[e1];simp at e2;subst e2;simp[nM];intro s hs;have v:get F s∈k:=Zd;have:=all_eq_true.1 D _ v;split;rename_i ai _ _ hg;simp[nK]at this⊢;grind;rfl
    refine⟨0,y,H,ν,Z,λq _=>?_,r,Q.mono J (λe _=>iN ν st.m e),.refl,λ_=>⟨rfl,.refl⟩⟩
    unfold cK;rw[k1];simp[<-gd.E,k2 (H.take b) y p,Y]
   grind
  grind
 grind
def Ds{E:Env}{nm:Zk->aZ Nat}{op:Op}{n:Nat}{os:aY Zr}(h:resolve E nm op=some (.l (.append n),os)){y:V}{ys:Zu}(b:fH F os=some (y::ys))(B:y=.bG\/y=.dw):isApp op=true/\pg F op=true:=by
 have key:∃args u p s x,op=.call {callee:=.builtin .append,args:=args,argTypes:=u}/\args.toList=[s,x]/\os=[s,x]/\p=():=by unfold resolve at h;((repeat' split at h)<;>first|(simp at h;done)|skip);(all_goals (try (have⟨_,_,e⟩:=ζf.1 h;simp only[ζc,K.l.injEq,reduceCtorEq,false_and]at e)));all_goals (simp only[ζa,ζc]at h;obtain⟨_,rfl⟩:=h;exact⟨_,_,(),_,_,rfl,by assumption,rfl,rfl⟩)
 obtain⟨args,u,_,s,x,rfl,c,rfl,_⟩:=key;have⟨a,az,w,z,e⟩:=iG b;cases e;refine⟨rfl,?_⟩;simp only[pg,c,w];rcases B with rfl|rfl<;>rfl
def UF(gd:Good X S)(hS:jt S c){ops:Zz}{place:aZ (Nat×Nat)}{dr:Zl}{fr:Zv}{i:Nat}(G:dr=place.isSome)(M:∀b j,place=some (b,j)->j=i)
 (E:∀b j,place=some (b,j)->b<=H.length/\Old b fr ν Z st.m)
 {o:Oper}{ro:RO}(hc:mB X dr ops i o=some ro)(aG:∀b j,place=some (b,j)->ops[j]?=some o)(an:∀b j,place=some (b,j)->cE o.op=.alloc->H[b+j]?=some .free)
 (r:R ν Z st F H){sv:SV}(h:lN S c dr fr ro st=some (sv,st')):
 Cu S ops place dr F o.op (xY ro) ν Z st H sv st':=by
 have ax:=λU hl=>Eb hc U hl
 unfold mB at hc;split at hc
 .split at hc
  .rename_i g k os hg hr;split at hc
   .rename_i A;split at hc
    .rename_i ai;simp only[ζh]at ai;have ao:nk X.E ops place=true:=by
      cases place with
      |none=>rw[G]at ai;exact absurd ai.1 Zc|some O=>have⟨b,j⟩:=O;rw[M b j rfl];exact ai.2
     split at hc
     .rename_i size zero t l c W;obtain⟨az,K,rfl⟩:=ζf.1 hc;unfold lN at h;split at h
      next L B=>have⟨ys,C,rs⟩:=oe gd.N r.slot K B;have J:=iY gd.N hr C;exact zD gd (λ_ _ e=>by cases e) J.1 ao (λy P=>CJ ⟨_,_,_,W⟩ J P) r rs h
      simp at h
     .rename_i size len zero idx t l c W;split at hc
      .rename_i aH;obtain⟨aI,rfl,rfl⟩:=aH;obtain⟨az,K,rfl⟩:=ζf.1 hc;unfold lN at h;split at h
       next L B=>have⟨ys,C,rs⟩:=oe gd.N r.slot K B;have J:=iY gd.N hr C;exact zD gd (λ_ _ e=>by cases e) J.1 ao (λy P=>CT ⟨_,_,_,W⟩ J aI P) r rs h
       simp at h
      obtain⟨az,K,rfl⟩:=ζf.1 hc;unfold lN at h;split at h
      next L B=>have⟨ys,C,rs⟩:=oe gd.N r.slot K B;have J:=iY gd.N hr C;exact zD gd (λ_ _ e=>by cases e) J.1 ao (λy P=>Dm ⟨_,_,_,W⟩ J P) r rs h
      simp at h
     cases hc
    rename_i aj;have am:nk X.E ops place=false:=by cases place with|none=>rfl|some O=>have⟨b,j⟩:=O;have I:=M b j rfl;cases ay:CV X.E ops j with|false=>exact ay|true=>exact absurd (by rw[G,<-I,ay];rfl) aj
    rcases Ch dr ops i k os with⟨hq,aJ⟩|⟨u,ap,n,a,l,aU,rfl,rfl,aK,hq⟩|⟨u,ap,n,ag,a,rfl,rfl,hq⟩|⟨u,ap,aL,n,rfl,hq⟩
    rotate_left
    .rw[hq]at hc;obtain⟨az,K,rfl⟩:=ζf.1 hc;unfold lN at h;split at h
     .rename_i L B;have⟨ys,C,rs⟩:=oe gd.N r.slot K B;simp only[u,Bool.not_true,Bool.false_or,if_true]at h;have⟨y,H',ν',e1,e2,e3,e4,e5⟩:=Bz r rs h;refine⟨0,y,H',ν',Z,λq _=>?_,e2,e3,e4.weak (λ_ h=>h.elim),λ_=>⟨rfl,e5⟩⟩
      cases place with
      |none=>rw[G]at u;cases u|some O=>have⟨b,j⟩:=O;have I:=M b j rfl;subst I;exact UL gd hr C aK ap e1
     simp at h
    .rw[hq]at hc;obtain⟨az,K,rfl⟩:=ζf.1 hc;unfold lN at h;split at h
     .rename_i L B;have⟨ys,C,rs⟩:=oe gd.N r.slot K B;simp only[u,Bool.not_true,Bool.or_self,Bool.false_or]at h;split at h
      .rename_i aq;have⟨x,hx,e⟩:=ζf.1 h;simp only[ζc]at e;obtain⟨rfl,rfl⟩:=e
       cases place with
       |none=>rw[G]at u;cases u|some O=>have⟨b,j⟩:=O;have I:=M b j rfl;subst I;have⟨aA,ar,ak⟩:=E b j rfl;rw[u];exact Sk gd hr C rs aq aA ar ak r hx
      simp at h
     simp at h
    .rw[hq]at hc;obtain⟨az,K,rfl⟩:=ζf.1 hc;unfold lN at h;split at h
     rotate_left
     .simp at h
     rename_i L B;have⟨ys,C,rs⟩:=oe gd.N r.slot K B;simp only at h;have key:∃e x,(e=V.bG\/e=V.dw)/\L=[.v e,x]/\mw st o.dst (.append n) L=some (sv,st'):=by split at h;exact⟨_,_,.inl rfl,rfl,h⟩;exact⟨_,_,.inr rfl,rfl,h⟩;cases h
     obtain⟨e,x,he,rfl,hl⟩:=key;have⟨y,H',ν',e1,e2,e3,e4,e5⟩:=Bz r rs hl;have⟨g1,g2⟩:=iY gd.N hr C;refine⟨0,y,H',ν',Z,λq _=>?_,e2,e3,e4.weak (λ_ h=>h.elim),λ_=>⟨rfl,e5⟩⟩
     obtain⟨y1,zs,rfl,f1,f2⟩:=rs.inv;have aM:y1=.bG\/y1=.dw:=by cases f1 with|v _ _ hf=>rcases he with rfl|rfl<;>first|exact .inl hf.bG|exact .inr hf.dw
     cases place with
     |none=>rw[G]at u;cases u|some O=>have⟨b,j⟩:=O;have I:=M b j rfl;subst I;have⟨r1,r2⟩:=Ds hr C aM;exact Nk r1 (by rw[<-gd.E];exact g2 _ _ e1) (.inr ⟨aL,r2,(E b j rfl).1⟩)
    rw[hq]at hc;obtain⟨az,K,rfl⟩:=ζf.1 hc;unfold lN at h;split at h
    .rename_i L B;have⟨ys,C,rs⟩:=oe gd.N r.slot K B;have D:=iY gd.N hr C;simp only at h
     cases k with
     |p p=>
      cases p with
      |slice size lo M=>
       simp only at h;split at h
       .rename_i d bs;split at h
        .simp at h
        rename_i au;have⟨y,ν',h1,h2,h3,h4⟩:=MU (N:=S.N) (Rv:=λid=>∃b j,place=some (b,j)/\id=b+j) r rs h
        have⟨g1,g2⟩:=D;exact⟨0,y,H,ν',Z,λq _=>by unfold cK;rw[g1];simp only[<-gd.E,yz (g2 y h1),map_some],h2,h3,h4,λU=>absurd U au⟩
       exact LY gd A r rs D h
      |_=>exact LY gd A r rs D h
     |r q=>
      simp only at h;split at h
      .rename_i Y;have⟨x,hx,e⟩:=ζf.1 h;simp only[ζc]at e;obtain⟨rfl,rfl⟩:=e;have⟨g1,g2⟩:=D;have av:∀kk z ok,q=.lookup kk z ok->z.good=true:=λkk z ok e=>by subst e;simpa[Ar]using A
       have ad:∀s a,q≠.loadF s a:=λs a e=>by subst e;exact Fj hr
       cases place with
       |none=>
        have⟨y,P,ae⟩:=vH ad av rs (λd _ ob U=>r.obj d ob U) hx
        exact⟨0,y,H,ν,Z,λq _=>by unfold cK;rw[g1];simp only[<-gd.E,g2 H y P,map_some],r,ae,.refl,λ_=>⟨rfl,.refl⟩⟩
       |some O=>
        have⟨b,j⟩:=O;have⟨aA,ar,ak⟩:=E b j rfl;have u:dr=true:=G;subst u;have I:=M b j rfl;subst I;simp only[Bool.not_true,Bool.false_or,Bool.true_and]at Y;have aB:nM ops j F o.op=true:=Nv hr λn ag a' e1 e2 t e3=>by by_cases T:dD ops j=true;exact Cz (aG b j rfl) e3 T;exact aJ n ag a' rfl (by simpa using T) e1 e2
        by_cases T:dD ops j=true
        .have⟨y,P,ae⟩:=vH ad av rs (λd _ ob U=>r.obj d ob U) hx
         have hH:=g2 H y P;refine⟨0,y,H,ν,Z,λq _=>?_,r,ae,.refl,λ_=>⟨rfl,.refl⟩⟩
         unfold cK;rw[g1];simp only[<-gd.E,aB,if_true];split
         next v hv=>have:=yF hv;rw[hH]at this;cases this;rfl
         rw[if_pos T,hH];rfl
        have aq:eH fr L=true:=by simpa[T]using Y
        have ab:∀id,Z id->Z id/\bq (H.take b) id=bq H id:=λid h=>⟨h,m_ (ak id h)⟩
        have aC:∀id,Z id->Z id/\bq H id=bq (H.take b) id:=λid h=>⟨h,(m_ (ak id h)).symm⟩
        have⟨y,P,ae⟩:=vH (H:=H.take b) ad av (rs.mono ab λe _=>iN ν st.m e) (λd U ob aD=>by
         have ad:d∉fr:=λhf=>by rw[nD aq d hf]at U;cases U
         exact dX.mono ab rfl (λhb=>by rw[getElem?_take,if_pos (ar d ob aD hb ad)]) (λe _=>iN ν st.m e) (r.obj d ob aD)) hx
        refine⟨0,y,H,ν,Z,λq _=>?_,r,ae.mono aC (λe _=>iN ν st.m e),.refl,λ_=>⟨rfl,.refl⟩⟩
        unfold cK;rw[g1];simp only[<-gd.E,g2 (H.take b) y P,aB,if_true]
      simp at h
     |a q=>
      simp only at h;split at h
      .rename_i d U;split at h
       .rename_i aa;have⟨⟨ob,x⟩,hx,e⟩:=ζf.1 h;simp only[ζc]at e;obtain⟨rfl,rfl⟩:=e;have⟨af,mk,e1,e2,e3,e4⟩:=LI A rs hx;have⟨g1,g2⟩:=D;have⟨n1,n2,n3,n4⟩:=mh aa;have aw:∀p:Nat×Nat,∀e,SV.dy e L=true->∀ah,bh (bH st.m d ob) e=some ah->∃ob,bh st.m e=some ob/\iH ν d p e=ν e/\sameShape ob ah:=λp e he=>by
         refine s_ ?_;rintro rfl;have:∀{xs:Z4}{vs:Zw},bV S.N st.g xs=some vs->SV.dy e vs=false:=by intro xs;induction xs with|nil=>intro vs h;simp only[bV,ζa]at h;subst h;rfl|cons a xs ih=>intro vs h;simp only[bV]at h;split at h;rename_i v aV h1 h2;simp only[ζa]at h;subst h;simp only[SV.dy,or_eq_false_iff];refine⟨?_,ih h2⟩;(cases a with|s n=>exact yb n3 h1|k c=>simp only[qt,ζa]at h1;subst h1;rfl|f s=>simp only[qt,ζa]at h1;subst h1;rfl);simp at h
         rw[this B]at he;cases he
        have fin:∀(id:Nat)(Hn:bl),H.length<=Hn.length->Hn[id]?=some af->(∀k,k<H.length->k≠id->Hn[k]?=H[k]?)->(∀k,fq ν st.m k->k≠id)->(∀k,Z k->k≠id)->
         R (iH ν d (id,0)) Z {st with m:=bH st.m d ob} F Hn/\cZ (iH ν d (id,0)) (bH st.m d ob) Hn Z x (mk.val id)/\(∀k,Z k->bq Hn k=bq H k):=λid Hn hl aN J ho hz=>by
         have ab:∀k,Z k->bq Hn k=bq H k:=λk A=>by unfold bq;rw[J k (r.vw A) (hz k A)]
         have⟨a1,a2⟩:=e4 id (iH ν d (id,0)) (bH st.m d ob) Hn (gN _ _ _) (cz _ _ _) aN ab (aw _);have r2:R ν Z st F Hn:=r.heap (λk A=>J k (r.lt A) (ho k A)) ab
         exact⟨r2.add aa (λ_=>⟨λh=>ho _ h rfl,λh=>hz _ h rfl⟩) a1,a2,ab⟩
        have aE:o.dst=some d:=U
        cases place with
        |none=>
         have⟨f1,f2,f3⟩:=fin H.length (H++[af]) Zc Zc (λk A _=>getElem?_append_left A) (λk A=>Nat.ne_of_lt (r.lt A)) (λk A=>Nat.ne_of_lt (r.vw A))
         refine⟨0,mk.val H.length,H++[af],iH ν d (H.length,0),Z,λq _=>?_,f1,f2,Ev.add aa Zc (λk A _=>getElem?_append_left A) f3 (λ_=>.inr (le_refl _)),λhh=>?_⟩
         .unfold cK;rw[g1];simp only[am,false_eq_true,if_false,<-gd.E,g2 _ e1]
         rw[G]at hh;cases hh
        |some O=>
         have⟨b,j⟩:=O;have hf:=an b j rfl g1;have aO:=(ζe.1 hf).1;have nf:∀k,fq ν st.m k->k≠b+j:=λk A e=>by subst e;have⟨d',ah,w1,w2,w3⟩:=A;have:=r.obj d' ah w1;cases ah with|sl fl es xs=>simp only[cu]at w2;simp only[dX,w2,if_true]at this;have⟨_,Q,_⟩:=this;rw[w3,hf]at Q;cases Q|box cs=>have⟨_,_,Q,_⟩:=this;rw[w3,hf]at Q;cases Q|mp aW=>have⟨_,Q,_⟩:=this;rw[w3,hf]at Q;cases Q
         have nz:∀k,Z k->k≠b+j:=λk A e=>by subst e;have:=r.zrow _ A;unfold bq at this;rw[hf]at this;simp[Ob.rows]at this
         have⟨f1,f2,f3⟩:=fin (b+j) (H.set (b+j) af) Zc (by rw[getElem?_set_self aO]) (λk _ A=>by rw[getElem?_set,if_neg (Ne.symm A)]) nf nz
         refine⟨0,mk.val (b+j),H.set (b+j) af,iH ν d (b+j,0),Z,λq _=>?_,f1,f2,Ev.add aa Zc (λk _ A=>?_) f3 (λ_=>.inl ⟨b,j,rfl,rfl⟩),λ_=>⟨rfl,?_⟩⟩
         .unfold cK;rw[g1];simp only[am,false_eq_true,if_false,<-gd.E,g2 _ e1,hf]
         .rw[getElem?_set,if_neg λe=>A ⟨b,j,rfl,e.symm⟩]
         have:xY ⟨o.dst,g,dr&&dD ops j,.a q,az,[],[]⟩=some d:=aE;have I:=M b j rfl;subst I;rw[this];exact Kept.add λ_ _ h=>h
       simp at h
      simp at h
     |l q=>
      simp only at h;split at h
      .rename_i Y;have⟨y,H',ν',e1,e2,e3,e4,e5⟩:=Bz r rs h;have⟨g1,g2⟩:=D;refine⟨0,y,H',ν',Z,λq _=>?_,e2,e3,e4.weak (λ_ h=>h.elim),λ_=>⟨rfl,e5⟩⟩
       unfold cK;rw[g1];simp only[<-gd.E]
       cases place with
       |none=>exact g2 _ _ e1|some O=>
        have⟨b,j⟩:=O;have u:dr=true:=G;subst u;have I:=M b j rfl;subst I;have T:dD ops j=true:=by simpa using Y
        simp only[T,if_true];exact g2 _ _ e1
      simp at h
     |e n=>exact D.elim|b=>
      simp only at h;split at h
      .cases h
      rename_i au;have aP:dr=false:=by simpa using au
      have aQ:place=none:=by cases place with|none=>rfl|some O=>rw[aP]at G;simp at G
      subst aQ;split at h
      next x=>have⟨xs,h1,h2⟩:=ζg.1 h;have⟨l,h3,e⟩:=ζf.1 h2;simp only[ζc]at e;obtain⟨rfl,rfl⟩:=e;have⟨g1,y,e1,g2⟩:=D;have⟨y',_,e2,r1,r2⟩:=rs.inv;rw[e1]at e2;cases e2;have⟨zs,k1,k2⟩:=tX r1 r.obj h1;have hz:kY zs=some l:=zB k2 h3;have⟨q1,q2⟩:=g2 H zs l k1 hz;exact⟨0,_,H,ν,Z,λq _=>by unfold cK;rw[g1];simp only[sO,<-gd.E,q1,q2,map_some],r,.v _ _ (.same _ rfl),.refl,λ_=>⟨rfl,.refl⟩⟩
      cases h
     |c=>
      simp only at h;have⟨g1,f',aX,e1,e2⟩:=D;have go:∀(f:Zk)(args:Zw)(al:Zu),bY ν st.m H Z args al->jK F o.op=some (.fn f,al)->gj S c o.dst dr (!dr||(dr&&dD ops i)) (gw st.m fr) f args st=some (sv,st')->
       Cu S ops place dr F o.op (xY ⟨o.dst,g,dr&&dD ops i,.c,az,[],[]⟩) ν Z st H sv st':=λf args al aR aF aS=>by
       have⟨n,y,H',ν',Z',p1,p2,p3,p4,p5,p6⟩:=PJ (ops:=ops) (Rv:=λid=>∃b j,place=some (b,j)/\id=b+j) hS gd.prm G (λb j hp hn=>by
        have:=M b j hp;subst this;simp only[ζh]at hn;exact hn.2) (λb j hp hn=>by have:=M b j hp;subst this;rw[G,hp]at hn;simpa using hn) (λb j hp=>(E b j hp).2) r aR aS
       refine⟨n,y,H',ν',Z',λq hq=>?_,p2,p3,p4,λU=>⟨p5 U,p6⟩⟩
       have aT:vj ops place al=true:=by cases place with|none=>rfl|some O=>simp only[vj,M _ _ rfl,ax G g1];rfl
       unfold cK;rw[g1];simp only[aF,aT,if_true];exact p1 q hq
      split at h
      next f a b vs=>have⟨w,ws,ew,r1,r2⟩:=rs.inv;rw[ew]at e1;simp only[List.cons.injEq]at e1;obtain⟨rfl,rfl⟩:=e1;obtain⟨a',b',rfl,ra,rb⟩:=r1.jQ;exact go f _ _ ((ra.append r2).append rb) e2 h
      next f a b vs=>have⟨w,ws,ew,r1,r2⟩:=rs.inv;rw[ew]at e1;simp only[List.cons.injEq]at e1;obtain⟨rfl,rfl⟩:=e1;obtain⟨a',b',rfl,ra,rb⟩:=r1.fr.jQ;exact go f _ _ (((bY.qJ ra).append r2).append (bY.qJ rb)) e2 h
      simp at h
    simp at h
   simp at hc
  simp at hc
 simp at hc
end
def fQ(N:Nat->Zk)(g:Tb SV)(o:RO):aZ (Nat×Zw):=
 match o.k,bV N g o.az with
 |.c,some (.yl id::u)=>some (id,u)|_,_=>none
open Classical in
def fG(S:Sys)(c:bZ)(dr:Zl)(fr:Zv)(o:RO)(st:St):aZ St:=
 match wanted st.g o.gd with
 |some true=>match fQ S.N st.g o with
  |some (id,z)=>if dr then none else match di z,st.want with
   |some B,w::u=>if B=w/\id=st.yid then some (c6 {st with want:=u} o.dst (.v (.bool (st.more|| !u.isEmpty))))else none|_,_=>none
  |none=>(lN S c dr fr o st).map λ(x,st')=>c6 st' o.dst x
 |some false=>some (c6 st o.dst (.v .undef))|none=>none
def RO.strip(o:RO):RO:={o with dead:=[],pre:=[]}
def oA:Z5->St->aZ St
 |[],st=>some st|x::r,st=>(ghost x st).bind (oA r)
def zA:Gh->Zl
 |.keep ..=>true|.drop _=>true|_=>false
def BQ(dr:Zl)(l:Z5)(st:St):aZ St:=if dr then(if l.all zA then oA l st else none)else oA l st
def oZ(ds:Zv)(st:St):St:={st with g:=o7 ds st.g}
def mY(S:Sys)(c:bZ)(dr:Zl):Zv->Zy->St->aZ St
 |_,[],st=>some st|fr,o::r,st=>match(BQ dr o.pre st).bind (fG S c dr fr o.strip)with
  |some st'=>mY S c dr (if dr then qE fr o.strip else fr) r (oZ o.dead st')|none=>none
abbrev JT:=aY (aY V)->(Nat->Prop)->(Nat->Prop)->bl->Prop
structure Yc(S:Sys)(J:JT)(more:Bool)(yid:Nat):Prop where
 wR:∀w O Z H O' Z' H',J w O Z H->H.length<=H'.length->(∀i,i<H.length->¬O i->¬Z i->H'[i]?=H[i]?)->(∀i,Z i->Z' i/\bq H' i=bq H i)->
  (∀i,O' i->O i\/H.length<=i)->(∀i,Z' i->Z i\/O i\/H.length<=i)->J w O' Z' H'
 yield:∀x ws O Z H args,J (x::ws) O Z H->c9 H Z x args->(∀i,Z i->(bq H i).isSome=true)->Deep H Z->(∀i,O i->¬Z i/\i<H.length)->
  ∃n H',run S.E n (.yld yid) args H=some (.bool (more|| !ws.isEmpty),H')/\J ws O Z H'/\H.length<=H'.length/\(∀i,O i->H'[i]?=H[i]?)/\(∀i,Z i->bq H' i=bq H i)
structure Fix(ν:Nu)(st:St)(ν':Nu)(st':St):Prop where
 pin:∀d∈st.pin,∀ob',bh st'.m d=some ob'->∃ob,bh st.m d=some ob/\ν' d=ν d/\sameShape ob ob'
 pins:st'.pin=st.pin
 more:st'.more=st.more
 yid:st'.yid=st.yid
section
variable{Rv:Nat->Prop}{ν ν' ν2:Nu}{Z Z':Nat->Prop}{st st' st2:St}{m m':Tb bE}{F F':Zo}{H H' H1:bl}{S:Sys}{c:bZ}{X:CX}{J:JT}
def Fix.refl:Fix ν st ν st:=⟨λ_ _ u h=>⟨u,h,rfl,.refl _⟩,rfl,rfl,rfl⟩
def Fix.trans(a:Fix ν st ν' st')(b:Fix ν' st' ν2 st2):Fix ν st ν2 st2:=
 ⟨λd z u h=>by
  have⟨w,c,C,B⟩:=b.pin d (by rw[a.pins];omega) u h
  have⟨ob,k1,k2,k3⟩:=a.pin d z w c;exact⟨ob,k1,Ze,k3.trans B⟩,by rw[b.pins,a.pins],by rw[b.more,a.more],by rw[b.yid,a.yid]⟩
def Ev.beside(y:Yc S J st.more st.yid)(a:Ev (λ_=>False) ν Z st H ν' Z' st' H')(B:st'.want=st.want)(j:J st.want (fq ν st.m) Z H):J st'.want (fq ν' st'.m) Z' H':=by
 rw[B];exact y.wR _ _ _ _ _ _ _ j a.len (λi b u w=>a.same i b u w (λh=>h)) a.rows (λi h=>(a.own i h).imp (λh=>h) (λh=>h.elim (λh=>h.elim) (λh=>h)))
  (λi h=>(a.frz i h).imp (λh=>h) (λh=>h.imp (λh=>h) (λh=>h.elim (λh=>h.elim) (λh=>h))))
def uI(G:∀s sv,bh st.g s=some sv->cZ ν m H Z sv (get F s)){ops:Zz}{o:Oper}{gd:aZ (Nat×Zl)}(a:BU ops o=some gd){t:Zl}(B:wanted st.g gd=some t):fM ops F o=t:=by unfold BU at a;unfold fM;cases u:o.guard with|none=>rw[u]at a;simp at a;simp[wanted]at B;grind|some D=>rw[u]at a;obtain⟨d,C,rfl⟩:=ζf.1 a;simp[C];simp[wanted]at B;split at B;(next c hc=>simp at B;subst B;rw[(G d _ hc).fr.bool]);rename_i x I hc;simp at B;subst B;have w:=(G d _ hc).fr;split;rename_i c z;rw[z]at w;cases w;grind;rfl;grind
def MV{q:E6}{dst:aZ Nat}{args:Zw}{sv:SV}(h:Bm q dst args st=some (sv,st')):st'.want=st.want/\st'.pin=st.pin/\st'.more=st.more/\st'.yid=st.yid:=by unfold Bm at h;grind
def On{dr:Zl}{fr:Zv}{ro:RO}{sv:SV}(h:lN S c dr fr ro st=some (sv,st')):st'.want=st.want/\st'.pin=st.pin/\st'.more=st.more/\st'.yid=st.yid:=by
 unfold lN at h;split at h
 .split at h;split at h;split at h;simp at h;unfold zk at h;split at h;split at h;have⟨_,_,h⟩:=ζg.1 h;have⟨_,_,h⟩:=ζg.1 h;dsimp only at h;split at h;simp only[ζa,ζc]at h;obtain⟨_,rfl⟩:=h;exact⟨rfl,rfl,rfl,rfl⟩;simp at h;simp at h;simp at h;have⟨_,_,e⟩:=ζf.1 h;simp only[ζc]at e;obtain⟨_,rfl⟩:=e;exact⟨rfl,rfl,rfl,rfl⟩;have⟨_,_,e⟩:=ζf.1 h;simp only[ζc]at e;obtain⟨_,rfl⟩:=e;exact⟨rfl,rfl,rfl,rfl⟩;split at h;have⟨_,_,e⟩:=ζf.1 h;simp only[ζc]at e;obtain⟨_,rfl⟩:=e;exact⟨rfl,rfl,rfl,rfl⟩;simp at h;split at h;split at h;have⟨_,_,e⟩:=ζf.1 h;simp only[ζc]at e;obtain⟨_,rfl⟩:=e;exact⟨rfl,rfl,rfl,rfl⟩;simp at h;simp at h
  .split at h
   .unfold mw at h;((repeat' split at h)<;>first|(simp at h;done)|(simp only[ζa,ζc]at h;obtain⟨_,rfl⟩:=h;exact⟨rfl,rfl,rfl,rfl⟩)|(have⟨_,_,e⟩:=ζf.1 h;simp only[ζc]at e;obtain⟨_,rfl⟩:=e;exact⟨rfl,rfl,rfl,rfl⟩)|skip);dsimp only at h;(repeat' split at h)<;>first|(simp at h;done)|(simp only[ζa,ζc]at h;obtain⟨_,rfl⟩:=h;exact⟨rfl,rfl,rfl,rfl⟩)
   simp at h
  .have hc:∀{dst dr now u f args},gj S c dst dr now u f args st=some (sv,st')->st'.want=st.want/\st'.pin=st.pin/\st'.more=st.more/\st'.yid=st.yid:=(by intro dst dr now u f args h;unfold gj at h;(repeat' split at h)<;>first|exact MV h|(have⟨_,_,e⟩:=ζf.1 h;simp only[ζc]at e;obtain⟨_,rfl⟩:=e;exact⟨rfl,rfl,rfl,rfl⟩)|(simp at h;done)|(simp only[ζa,ζc]at h;obtain⟨_,rfl⟩:=h;exact⟨rfl,rfl,rfl,rfl⟩));split at h;exact hc h;exact hc h;simp at h
  split at h;simp at h;split at h;have⟨_,_,h⟩:=ζg.1 h;have⟨_,_,e⟩:=ζf.1 h;simp only[ζc]at e;obtain⟨_,rfl⟩:=e;exact⟨rfl,rfl,rfl,rfl⟩;simp at h;have z:∀{dst l w},mw st dst l w=some (sv,st')->st'.want=st.want/\st'.pin=st.pin/\st'.more=st.more/\st'.yid=st.yid:=by intro dst l w h;unfold mw at h;((repeat' split at h)<;>first|(simp at h;done)|(simp only[ζa,ζc]at h;obtain⟨_,rfl⟩:=h;exact⟨rfl,rfl,rfl,rfl⟩)|(have⟨_,_,e⟩:=ζf.1 h;simp only[ζc]at e;obtain⟨_,rfl⟩:=e;exact⟨rfl,rfl,rfl,rfl⟩)|skip);all_goals (dsimp only at h;(repeat' split at h)<;>first|(simp at h;done)|(simp only[ζa,ζc]at h;obtain⟨_,rfl⟩:=h;exact⟨rfl,rfl,rfl,rfl⟩))
  split at h;exact z h;exact z h;simp at h
 simp at h
def AT(r:R ν Z st F H){a:Nat}{dst:aZ Nat}(B:yj a dst=true){sv:SV}{y:V}(h:cZ ν st.m H Z sv y):∃F',jM a F dst y=some F'/\R ν Z (c6 st dst sv) F' H:=by cases dst with|none=>exact⟨F,rfl,r⟩|some d=>have:=(by simpa[yj]using B);exact⟨set F d y,by simp[jM,if_pos this],r.put h⟩
def Dh(st:St)(dst:aZ Nat)(sv:SV):(c6 st dst sv).m=st.m/\(c6 st dst sv).want=st.want/\(c6 st dst sv).pin=st.pin/\(c6 st dst sv).more=st.more/\(c6 st dst sv).yid=st.yid:=by cases dst<;>exact⟨rfl,rfl,rfl,rfl,rfl⟩
def Jo(gd:Good X S)(U:jt S c){ops:Zz}{place:aZ (Nat×Nat)}{dr:Zl}{fr:Zv}{i:Nat}(J:dr=place.isSome)(W:∀b j,place=some (b,j)->j=i)
 (a:∀b j,place=some (b,j)->b<=H.length/\Old b fr ν Z st.m)
 {o:Oper}{ro:RO}(hc:mB X dr ops i o=some ro)(O:∀b j,place=some (b,j)->ops[j]?=some o)(G:∀b j,place=some (b,j)->cE o.op=.alloc->H[b+j]?=some .free)
 (r:R ν Z st F H)(B:fQ S.N st.g ro=none\/dr=true)(h:fG S c dr fr ro st=some st'):
 ∃n F' H' ν' Z',(∀k,n<=k->gm S.E (run S.E k) X.nt ops place o F H=some (F',H'))/\R ν' Z' st' F' H'/\Ev (λid=>∃b j,place=some (b,j)/\id=b+j) ν Z st H ν' Z' st' H'/\
  (dr=true->Z'=Z/\Kept (xY ro) ν st.m ν' st'.m)/\st'.want=st.want/\Fix ν st ν' st':=by
 have I:=hc;obtain⟨w,g,now,k,az,l,rfl⟩:=CW hc;unfold fG at h;split at h
 .rename_i L;have z:=uI r.slot l L;have Y:(lN S c dr fr ⟨o.dst,g,now,k,az,[],[]⟩ st).map (λ(x,st')=>c6 st' o.dst x)=some st':=by
   split at h
   .rename_i id vs D;rcases B with B|B
    .rw[B]at D;cases D
    subst B;simp at h
   exact h
  obtain⟨⟨x,Q⟩,u,rfl⟩:=ζf.1 Y;have⟨n,y,H',ν',Z',e1,e2,e3,e4,e5⟩:=UF gd U J W a I O G r u;have⟨m,T,p,q⟩:=On u;have⟨F',e,f⟩:=AT e2 w e3;have⟨p1,p2,p3,p4,p5⟩:=Dh Q o.dst x;refine⟨n,F',H',ν',Z',λk s=>?_,f,?_,λu=>⟨(e5 u).1,by rw[p1];exact(e5 u).2⟩,by rw[p2,m],⟨λd u=>by rw[p1];exact e4.pin d u,by rw[p3,T],by rw[p4,p],by rw[p5,q]⟩⟩
  .unfold gm;simp only[z,if_true,e1 k s,e,map_some]
  exact⟨e4.len,e4.same,e4.rows,λid h=>e4.own id (by rw[p1]at h;exact h),e4.frz,λd u=>by rw[p1];exact e4.pin d u,by rw[p3,T]⟩
 .rename_i L;have z:=uI r.slot l L;simp only[ζa]at h;subst h;have⟨F',e,f⟩:=AT r w (.v V.undef V.undef (.same _ rfl));have⟨p1,p2,p3,p4,p5⟩:=Dh st o.dst (.v .undef);refine⟨0,F',H,ν,Z,λk _=>?_,f,?_,λ_=>⟨rfl,by rw[p1];exact .refl⟩,p2,⟨λd u=>by rw[p1];exactλC h=>⟨C,h,rfl,.refl _⟩,p3,p4,p5⟩⟩
  .unfold gm;simp only[z,false_eq_true,if_false,e,map_some]
  exact⟨le_refl _,λ_ _ _ _ _=>rfl,λ_ h=>⟨h,rfl⟩,λ_ h=>.inl (by rw[p1]at h;exact h),λ_ h=>.inl h,λd u=>by rw[p1];exactλC h=>⟨C,h,rfl,.refl _⟩,p3⟩
 simp at h
def NX(gd:Good X S)(y:Yc S J st.more st.yid){ops:Zz}{fr:Zv}{i:Nat}{o:Oper}{ro:RO}(hc:mB X false ops i o=some ro)
 (r:R ν Z st F H)(j:J st.want (fq ν st.m) Z H){id:Nat}{vs:Zw}(B:fQ S.N st.g ro=some (id,vs))(G:wanted st.g ro.gd=some true)(h:fG S c false fr ro st=some st'):
 ∃n F' H',(∀k,n<=k->gm S.E (run S.E k) X.nt ops none o F H=some (F',H'))/\R ν Z st' F' H'/\J st'.want (fq ν st'.m) Z H'/\Fix ν st ν st':=by
 unfold mB at hc;simp only[Bool.false_and,false_eq_true,if_false,Bool.not_false,Bool.and_true]at hc;split at hc
 .rename_i C;split at hc
  .rename_i g k os hg hr;split at hc
   .obtain⟨az,W,rfl⟩:=ζf.1 hc;unfold fG at h;simp only at G;have L:=uI r.slot hg G;rw[G]at h;simp only[B,false_eq_true,if_false]at h;unfold fQ at B;split at B
    .rename_i Y aa a D;simp only[ζa,ζc]at B;obtain⟨rfl,rfl⟩:=B;simp only at a D;subst a;have⟨ys,O,rs⟩:=oe gd.N r.slot W D;have⟨g1,v,A,e1,e2⟩:=iY gd.N hr O;have⟨w,E,b,r1,r2⟩:=rs.inv;rw[b]at e1;simp only[List.cons.injEq]at e1;obtain⟨rfl,rfl⟩:=e1;cases r1;simp only at e2;split at h
     .rename_i xs x I hx u;split at h
      .rename_i z;obtain⟨rfl,rfl⟩:=z;simp only[ζa]at h;subst h;rw[u]at j;have⟨n,H',p1,p2,p3,p4,p5⟩:=y.yield _ _ _ _ _ _ j (r2.di hx) r.zrow r.deep (λi T=>⟨by obtain⟨d,ob,e,f,rfl⟩:=T;exact r.apart d ob e f,r.lt T⟩)
       have r3:R ν Z st F H':=r.heap p4 p5;have r4:R ν Z {st with want:=I} F H':=⟨r3.slot,r3.obj,r3.inj,r3.apart,r3.zrow,r3.deep⟩;have⟨F',l,m⟩:=AT (st:={st with want:=I}) r4 C (sv:=.v (.bool (st.more|| !I.isEmpty))) (.v _ _ (.same _ rfl));have⟨U,p,q,s,t⟩:=Dh {st with want:=I} o.dst (.v (.bool (st.more|| !I.isEmpty)));refine⟨n,F',H',λk a=>?_,m,by rw[U,p];exact p2,⟨λd K=>by rw[U];exactλQ h=>⟨Q,h,rfl,.refl _⟩,q,s,t⟩⟩
       unfold gm cK;rw[g1,e2];simp only[L,if_true,(nC S.E a).go _ _ _ _ p1,l,map_some]
      simp at h
     simp at h
    simp at B
   simp at hc
  simp at hc
 simp at hc
def kM(X:CX)(B:Zl)(ops:Zz):Nat->Zz->aZ Zy
 |_,[]=>some []|i,o::r=>match mB X B ops i o,kM X B ops (i+1) r with
  |some ro,some rs=>some (ro::rs)|_,_=>none
def R.xQ(r:R ν Z st F H)(ds:Zv):R ν Z (oZ ds st) F H:=r.less (λs z u=>n_ u) (λd ob w=>w)
def Fix.xQ{ds:Zv}(f:Fix ν (oZ ds st) ν' st'):Fix ν st ν' st':=⟨f.pin,f.pins,f.more,f.yid⟩
def Fix.ghost(r:R ν Z st F H)(y:Yc S J st.more st.yid)(j:J st.want (fq ν st.m) Z H){x:Gh}(h:ghost x st=some st'):∃ν' Z',R ν' Z' st' F H/\J st'.want (fq ν' st'.m) Z' H/\Fix ν st ν' st':=by
 have⟨ν',Z',a,u⟩:=Oj (Rv:=λ_=>False) r h;have w:st'.want=st.want/\st'.more=st.more/\st'.yid=st.yid:=by unfold Go.VE.ghost yM at h;(repeat' split at h)<;>first|grind|grind
 exact⟨ν',Z',a,u.beside y w.1 j,⟨u.pin,u.pins,w.2.1,w.2.2⟩⟩
def Fix.quiet(r:R ν Z st F H):∀{l:Z5}{st':St},l.all zA=true->Go.VE.oA l st=some st'->R ν Z st' F H/\Ev Rv ν Z st H ν Z st' H/\st'.want=st.want/\Fix ν st ν st'/\∀d ob,bh st'.m d=some ob->bh st.m d=some ob:=by intro l;induction l generalizing st with|nil=>intro st' _ h;simp[Go.VE.oA]at h;subst h;exact⟨r,.refl,rfl,.refl,λ_ _ h=>h⟩|cons x l C=>intro st' z h;simp only[all_cons,ζh]at z;have⟨D,a,G⟩:=ζg.1 h;have key:∃g m,D={st with g:=g,m:=m}/\(∀s u,bh g s=some u->bh st.g s=some u)/\∀d ob,bh m d=some ob->bh st.m d=some ob:=(by cases x with|keep gs U=>simp[Go.VE.ghost]at a;split at a;(next g m b I=>simp at a;subst a;exact⟨g,m,rfl,λs u B=>p9 b B,λd ob J=>p9 I J⟩);grind|drop ds=>simp[Go.VE.ghost]at a;subst a;exact⟨_,st.m,rfl,λs u B=>n_ B,λ_ _ h=>h⟩|_=>simp[zA]at z);obtain⟨g,m,rfl,L,w⟩:=key;have⟨a1,O,Q,S,T⟩:=C (r.less L w) z.2 G;exact⟨a1,(Ev.less w).trans O,Q,Fix.trans (st':={st with g:=g,m:=m}) ⟨λd _ ob h=>⟨ob,w d ob h,rfl,.refl _⟩,rfl,rfl,rfl⟩ S,λd ob h=>w d ob (T d ob h)⟩
def Fix.oA:∀{l:Z5}{ν:Nu}{Z:Nat->Prop}{st st':St},R ν Z st F H->Yc S J st.more st.yid->J st.want (fq ν st.m) Z H->oA l st=some st'->∃ν' Z',R ν' Z' st' F H/\J st'.want (fq ν' st'.m) Z' H/\Fix ν st ν' st'
 |[],ν,Z,st,st',r,y,j,h=>by simp[Go.VE.oA]at h;subst h;exact⟨ν,Z,r,j,.refl⟩|x::l,ν,Z,st,st',r,y,j,h=>by have⟨B,b,G⟩:=ζg.1 h;have⟨z,C,r1,u,a⟩:=Fix.ghost r y j b;have⟨ν2,Z2,r2,w,c⟩:=Fix.oA r1 (by rw[a.more,a.yid];omega) u G;exact⟨ν2,Z2,r2,w,a.trans c⟩
def NK(gd:Good X S)(O:jt S c){ops:Zz}{fr:Zv}{i:Nat}{o:Oper}{ro:RO}{B:St}(a:mB X false ops i o=some ro)(y:Yc S J st.more st.yid)(r:R ν Z st F H)(j:J st.want (fq ν st.m) Z H)(G:fG S c false fr ro st=some B):
 ∃n F' H' ν' Z',(∀k,n<=k->gm S.E (run S.E k) X.nt ops none o F H=some (F',H'))/\R ν' Z' B F' H'/\J B.want (fq ν' B.m) Z' H'/\Fix ν st ν' B:=by
 by_cases L:wanted st.g ro.gd=some true
 .cases C:fQ S.N st.g ro with
  |none=>
   have⟨n,F',H',ν',Z',e1,e2,e3,e4,e5,e6⟩:=Jo gd O (place:=none) rfl (λb j h=>by cases h) (λb j h=>by cases h) a (λb j h=>by cases h) (λb j h=>by cases h) r (.inl C) G
   exact⟨n,F',H',ν',Z',e1,e2,(e3.weak (λid⟨b,j,h,_⟩=>by cases h)).beside y e5 j,e6⟩
  |some p=>have⟨id,U⟩:=p;have⟨n,F',H',e1,e2,e3,e4⟩:=NX gd y a r j C L G;exact⟨n,F',H',ν,Z,e1,e2,e3,e4⟩
 have u:fG S c false fr ro st=some B:=G;have Q:fQ S.N st.g {ro with az:=[]}=none:=by unfold fQ;simp[bV]
 obtain⟨n,F',H',ν',Z',e1,e2,e3,e4,e5,e6⟩:∃n F' H' ν' Z',(∀k,n<=k->gm S.E (run S.E k) X.nt ops none o F H=some (F',H'))/\R ν' Z' B F' H'/\Ev (λ_=>False) ν Z st H ν' Z' B H'/\True/\B.want=st.want/\Fix ν st ν' B:=by unfold fG at u;split at u;(next w=>exact absurd w L);rename_i w;simp only[ζa]at u;subst u;unfold mB at a;simp only[Bool.false_and,false_eq_true,if_false,Bool.not_false,Bool.and_true]at a;split at a;rename_i D;split at a;rename_i g k os e m;split at a;obtain⟨az,W,rfl⟩:=ζf.1 a;have I:=uI r.slot e w;have⟨F',f,l⟩:=AT r D (.v V.undef V.undef (.same _ rfl));have⟨p1,p2,p3,p4,p5⟩:=Dh st o.dst (.v .undef);refine⟨0,F',H,ν,Z,λk _=>?_,l,?_,trivial,p2,⟨λd T=>by rw[p1];exactλz h=>⟨z,h,rfl,.refl _⟩,p3,p4,p5⟩⟩;unfold gm;simp only[I,false_eq_true,if_false,f,map_some];exact⟨le_refl _,λ_ _ _ _ _=>rfl,λ_ h=>⟨h,rfl⟩,λ_ h=>.inl (by rw[p1]at h;exact h),λ_ h=>.inl h,λd T=>by rw[p1];exactλz h=>⟨z,h,rfl,.refl _⟩,p3⟩;simp at a;simp at a;simp at a;simp at u
 exact⟨n,F',H',ν',Z',e1,e2,e3.beside y e5 j,e6⟩
def M8(gd:Good X S)(U:jt S c){ops:Zz}{fr:Zv}:∀(rest:Zz){i:Nat}{B:Zy}{ν:Nu}{Z:Nat->Prop}{st st':St}{F:Zo}{H:bl},kM X false ops i rest=some (B.map RO.strip)->mY S c false fr B st=some st'->
 Yc S J st.more st.yid->R ν Z st F H->J st.want (fq ν st.m) Z H->
 ∃n F' H' ν' Z',(∀k,n<=k->lZ S.E (run S.E k) X.nt ops rest F H=some (F',H'))/\R ν' Z' st' F' H'/\J st'.want (fq ν' st'.m) Z' H'/\Fix ν st ν' st'
 |[],i,B,ν,Z,st,st',F,H,hc,h,y,r,j=>by simp only[kM,ζa]at hc;have:=List.map_eq_nil_iff.1 hc.symm;subst this;simp[mY]at h;subst h;exact⟨0,F,H,ν,Z,λ_ _=>rfl,r,j,.refl⟩|o::rest,i,B,ν,Z,st,st',F,H,hc,h,y,r,j=>by simp[kM]at hc;split at hc;rename_i T rs e W;obtain⟨u,w,rfl,C,D⟩:∃u w,B=u::w/\T=u.strip/\rs=w.map RO.strip:=(by cases B with|nil=>simp_all|cons a b=>grind);subst D;simp[mY,<-C]at h;split at h;rename_i z G;have⟨Y,I,G⟩:=ζg.1 G;have⟨A,E,f,g,L⟩:=Fix.oA r y j I;have⟨l,F1,H1,K,M,a1,m,a3,O⟩:=NK gd U e (by rw[L.more,L.yid];omega) f g G;have Q:=L.trans O;have⟨p,q,H2,ν2,Z2,s,t,v,x⟩:=M8 gd U rest W h (by show Yc S J z.more z.yid;rw[Q.more,Q.yid];omega) (R.xQ m u.dead) a3;refine⟨max l p,q,H2,ν2,Z2,λk d=>?_,t,v,Q.trans (Fix.xQ x)⟩;simp[lZ,a1 k (le_trans (le_max_left _ _) d),s k (le_trans (le_max_right _ _) d)];grind;grind
def Old.next{b:Nat}{fr:Zv}{o:RO}(h:Old b fr ν Z m)(a:Kept (xY o) ν m ν' m'):Old b (qE fr o) ν' Z m':=by
 refine⟨λd ob D G w=>?_,h.2⟩;have z:d∉fr:=λL=>w (by unfold qE;grind);have B:xY o≠some d:=λe=>w (by unfold qE;grind);have⟨u,c,I,J⟩:=a d ob B D;have C:cu u=true:=by cases u<;>cases ob<;>simp[sameShape]at J<;>first|rfl|(simp[cu]at G⊢;grind)
 rw[I];exact h.1 d u c C z
def DN(r:R ν Z st F H){id:Nat}(h:fq ν st.m id):H[id]?≠some .free:=by obtain⟨d,ob,a,u,rfl⟩:=h;have:=r.obj d ob a;cases ob with|sl k es C=>simp[cu]at u;simp[dX,u]at this;grind|box D=>have⟨es,z,b,_⟩:=this;grind|mp B=>have⟨w,b,_⟩:=this;grind
def JR(r:R ν Z st F H){id:Nat}(h:Z id):H[id]?≠some .free:=λe=>by have:=r.zrow id h;unfold bq at this;rw[e]at this;simp[Ob.rows]at this
def Ev.xQ{ds:Zv}(e:Ev Rv ν Z (oZ ds st) H ν' Z' st' H'):Ev Rv ν Z st H ν' Z' st' H':=⟨e.len,e.same,e.rows,e.own,e.frz,e.pin,e.pins⟩
def Ni(gd:Good X S)(g:jt S c){ops:Zz}{b k:Nat}(G:qY ops=true->k=ops.length):∀(len:Nat){i:Nat}{B:Zy}{fr:Zv}{ν:Nu}{Z:Nat->Prop}{st st':St}{F:Zo}{H:bl},
 i+len=ops.length->kM X true ops i (ops.drop i)=some (B.map RO.strip)->mY S c true fr B st=some st'->R ν Z st F H->b<=H.length->Old b fr ν Z st.m->(∀j,i<=j->j<k->H[b+j]?=some .free)->
 ∃n F' H' ν',(∀q,n<=q->jJ S.E (run S.E q) X.nt ops b (List.range' i len) F H=some (F',H'))/\R ν' Z st' F' H'/\Ev (λid=>b<=id) ν Z st H ν' Z st' H'/\st'.want=st.want/\Fix ν st ν' st'
 |0,i,B,fr,ν,Z,st,st',F,H,hl,hc,h,r,hb,J,hf=>by rw[List.drop_of_length_le Za]at hc;simp only[kM,ζa]at hc;have:B=[]:=List.map_eq_nil_iff.1 hc.symm;subst this;simp[mY]at h;subst h;exact⟨0,F,H,ν,λ_ _=>rfl,r,.refl,rfl,.refl⟩|len+1,i,B,fr,ν,Z,st,st',F,H,hl,hc,h,r,hb,J,hf=>by
  have l:i<ops.length:=Za;have m:=ζd l;rw[List.drop_eq_getElem_cons l]at hc;simp[kM]at hc;split at hc
  .rename_i ro rs h1 h2;obtain⟨u,w,rfl,Q,T⟩:∃u w,B=u::w/\ro=u.strip/\rs=w.map RO.strip:=by cases B with|nil=>simp_all|cons a b=>grind
   subst T;simp only[mY,<-Q]at h;split at h
   .rename_i ab U;obtain⟨W,z,U⟩:=ζg.1 U;simp only[BQ,if_true]at z;split at z;rotate_left;simp_all;rename_i L;obtain⟨f,o,p,s,t⟩:=Fix.quiet r L z;have J:Old b fr ν Z W.m:=⟨λd ob v=>J.1 d ob (t d ob v),J.2⟩;obtain⟨x,F1,H1,ν1,Z1,a1,y,a3,a4,a5,A⟩:=Jo gd g (place:=some (b,i)) rfl (λO j e=>Zd) (λO j e=>Zd) h1 (λO j e=>Zd) (λO j e ad=>by
     have:qY ops=true:=by
      unfold qY
      grind
     grind) f (.inr rfl) U
    obtain⟨rfl,C⟩:=a4 rfl;have I:=a3.weak λid⟨O,j,e,h⟩=>by cases e;omega
    obtain⟨E,K,H2,ν2,M,N,P,V,b5⟩:=Ni gd g G len Za h2 h (R.xQ y u.dead) (le_trans hb a3.len) (J.next C) (λj ae Y=>by have D:=hf j Za Y;have aa:=(ζe.1 D).1;rw[I.same (b+j) aa (λh=>DN f h D) (λh=>JR f h D) Za];omega);refine⟨max x E,K,H2,ν2,λq L=>?_,N,o.trans ((I.weak λid e=>Za).trans (Ev.xQ P)),by rw[V,<-p];exact a5,s.trans (A.trans (Fix.xQ b5))⟩;simp[List.range'_succ,jJ,m,a1 q (le_trans (le_max_left _ _) L),M q (le_trans (le_max_right _ _) L)]
   grind
  grind
end
def bL(X:CX):Zl->Code->aZ RC
 |_,.skip=>some .skip|_,.label _=>some .skip|_,.region _ ops B=>
  if B then(if vi ops.toList&&Ad ops.toList then(kM X true ops.toList 0 ops.toList).map .oS else none)
  else(kM X false ops.toList 0 ops.toList).map .ops
 |ro,.seq a b=>match bL X ro a,bL X ro b with
  |some a,some b=>some (.seq a b)|_,_=>none
 |ro,.cond c a b=>match oQ X.nm c,bL X ro a,bL X ro b with
  |some x,some a,some b=>some (.cond x a b)|_,_,_=>none
 |ro,.block id c=>(bL X ro c).map (.block id)|ro,.loop c=>(bL X ro c).map .loop|ro,.rangeFunc g ps G J=>
  if ro|| !(ps.toList.all (·<X.nt))then none else
  match oQ X.nm g,bL X true G,bL X true J with
  |some x,some a,some b=>some (.each x ps.toList a b)|_,_,_=>none
 |_,.exit id=>some (.exit id)|_,.ret=>some .ret|_,_=>none
def erase:RC->RC
 |.seq a b=>.seq (erase a) (erase b)|.cond x a b=>.cond x (erase a) (erase b)|.block id c=>.block id (erase c)|.loop c=>.loop (erase c)|.each g ps a b=>.each g ps (erase a) (erase b)|.gh _ c=>erase c|.hg c _=>erase c|.ops l=>.ops (l.map RO.strip)|.oS l=>.oS (l.map RO.strip)|c=>c
def iX(step:St->aZ (Out×St)):Nat->St->aZ (Out×St)
 |0,_=>none|k+1,st=>match step st with
  |some (.norm,st')=>iX step k st'|r=>r
open Classical in
def oa(step:St->aZ (Out×St))(st:St):aZ (Out×St):=if h:∃k r,iX step k st=some r then some (Classical.choose (choose_spec h))else none
def xN{step:St->aZ (Out×St)}:∀{k B:Nat}{st:St}{r:Out×St},k<=B->iX step k st=some r->iX step B st=some r
 |0,_,_,_,_,h=>by simp[iX]at h|k+1,0,_,_,hk,_=>Za|k+1,B+1,st,r,hk,h=>by simp only[iX]at h⊢;split at h;(next st' G=>rw[xN (Nat.le_of_succ_le_succ hk) h]);exact h
def mM{step:St->aZ (Out×St)}{st:St}{r:Out×St}:oa step st=some r↔∃k,iX step k st=some r:=by
 unfold oa;constructor;intro h;split at h;next u=>simp only[ζa]at h;exact⟨_,by rw[<-h];exact choose_spec (choose_spec u)⟩
 simp at h;rintro⟨k,a⟩;have u:∃k r,iX step k st=some r:=⟨k,r,a⟩;rw[dif_pos u];have z:=choose_spec (choose_spec u);have B:=xN (le_max_left (Classical.choose u) k) z;have w:=xN (le_max_right (Classical.choose u) k) a;rw[B]at w;exact w
def iJ(ps:Zv)(A B:St->aZ (Out×St))(st:St)(x:Zu)(m:Tb bE):aZ (Out×Tb bE):=
 if x.length=ps.length then
  match A {g:=v8 st.g ps (x.map .v),m:=m,pin:=st.pin++pM st.g,want:=[],more:=true,yid:=0}with
  |some (.norm,u)=>(B u).map λ(o,st2)=>(o,st2.m)|_=>none
 else none
def qi(step:Zu->Tb bE->aZ (Out×Tb bE)):Zt->Tb bE->aZ (Out×Tb bE)
 |[],m=>some (.norm,m)|x::xs,m=>match step x m with
  |some (.norm,m')=>qi step xs m'|r=>r
def cA(S:Sys)(c:bZ):RC->St->aZ (Out×St)
 |.skip,st=>some (.norm,st)|.ops l,st=>(mY S c false [] l st).map λst=>(.norm,st)|.oS l,st=>(mY S c true [] l st).map λst=>(.norm,st)|.seq a b,st=>match cA S c a st with
  |some (.norm,st')=>cA S c b st'|r=>r
 |.cond x a b,st=>match qt S.N st.g x with
  |some (.v (.bool t))=>if t then cA S c a st else cA S c b st|_=>none
 |.block id a,st=>match cA S c a st with
  |some (.exit B,st')=>if B=id then some (.norm,st')else some (.exit B,st')|r=>r
 |.loop a,st=>oa (cA S c a) st|.each g ps a b,st=>match qt S.N st.g g with
  |some (.v (.clo f x y))=>match S.items f x y with
   |some xs=>(qi (iJ ps (cA S c a) (cA S c b) st) xs st.m).map λ(o,m)=>(o,{st with m:=m})|none=>none
  |_=>none
 |.exit id,st=>some (.exit id,st)|.ret,st=>some (.ret,st)|.gh x a,st=>(ghost x st).bind (cA S c a)|.hg a x,st=>match cA S c a st with
  |some (.norm,st')=>(ghost x st').map λst=>(.norm,st)|r=>r
def fE(S:Sys)(f:Zk)(a b:Zu)(xs:Zt):Prop:=∀u more,(more=true/\u=xs\/more=false/\u≠[]/\∃r,xs=u++r)->∀yid J,Yc S J more yid->∀Z w z H,c9 H Z a w->c9 H Z b z->(∀i,Z i->(bq H i).isSome=true)->Deep H Z->J u (λ_=>False) Z H->∃n y H' B Z',(∀k,n<=k->run S.E k (.fn f) (w++.yld yid::z) H=some (y,H'))/\J [] B Z' H'
section
variable{ν ν' ν2:Nu}{Z Z':Nat->Prop}{st st' st2:St}{m m':Tb bE}{F F':Zo}{H H' H1:bl}{S:Sys}{c:bZ}{X:CX}{J:JT}
end
inductive vQ(step:List V->Tb bE->Option (Out×Tb bE))(o:Out)(mf:Tb bE):List (List V)->Bool->Tb bE->Prop
 |nil(h:o=.norm):vQ step o mf [] true mf|next(x:List V)(ws:List (List V))(more:Bool)(m m1:Tb bE)(h:step x m=some (.norm,m1))(r:vQ step o mf ws more m1):vQ step o mf (x::ws) more m|last(x:List V)(m:Tb bE)(h:step x m=some (o,mf))(ho:o≠.norm):vQ step o mf [x] false m
def B5{step:Zu->Tb bE->aZ (Out×Tb bE)}{o:Out}{G:Tb bE}:∀{xs:Zt}{m:Tb bE},qi step xs m=some (o,G)->
 ∃B more,(more=true/\B=xs\/more=false/\B≠[]/\∃r,xs=B++r)/\vQ step o G B more m
 |[],m,h=>by obtain⟨rfl,rfl⟩:=h;exact⟨[],true,.inl ⟨rfl,rfl⟩,.nil rfl⟩|x::xs,m,h=>by simp[qi]at h;split at h;rename_i m' u;have⟨B,more,hc,a⟩:=B5 h;refine⟨x::B,more,?_,.next x B more m m' u a⟩;grind;refine⟨[x],false,.inr ⟨rfl,Zc,xs,rfl⟩,.last x m h λe=>?_⟩;simp_all
def tY(O0 Z0:Nat->Prop)(H0:bl):JT:=λw O Z H=>w=[]/\H0.length<=H.length/\(∀i,i<H0.length->¬O0 i->¬Z0 i->H[i]?=H0[i]?)/\(∀i,Z0 i->Z i/\bq H i=bq H0 i)/\(∀i,O i->O0 i\/H0.length<=i)/\(∀i,Z i->Z0 i\/O0 i\/H0.length<=i)
section
variable{ν ν' ν2:Nu}{Z Z':Nat->Prop}{st st' st2:St}{m m':Tb bE}{F F':Zo}{H H' H1:bl}{S:Sys}{c:bZ}{X:CX}{J:JT}{O0 Z0:Nat->Prop}{H0:bl}
def tY.wR{w:Zt}{O Z B Z':Nat->Prop}{H H':bl}(j:tY O0 Z0 H0 w O Z H)(G:H.length<=H'.length)(J:∀i,i<H.length->¬O i->¬Z i->H'[i]?=H[i]?)(a:∀i,Z i->Z' i/\bq H' i=bq H i)
 (U:∀i,B i->O i\/H.length<=i)(W:∀i,Z' i->Z i\/O i\/H.length<=i):tY O0 Z0 H0 w B Z' H':=by
 have⟨u,z,D,C,I,L⟩:=j;refine⟨u,le_trans z G,λi b Q S=>?_,λi h=>⟨(a i (C i h).1).1,Zd⟩,λi h=>?_,λi h=>?_⟩
 .grind
 .grind
 grind
def tY.yc{more:Zl}{yid:Nat}:Yc S (tY O0 Z0 H0) more yid where
 wR:=λ_ _ _ _ _ _ _ j a u w z B=>j.wR a u w z B
 yield:=λx C O Z H args j=>by have⟨h,_⟩:=j;cases h
def tY.refl(r:R ν Z st F H):tY (fq ν st.m) Z H [] (fq ν st.m) Z H:=⟨rfl,le_refl _,λ_ _ _ _=>rfl,λi h=>⟨h,rfl⟩,λi h=>.inl h,λi h=>.inl h⟩
mutual
def C6{d:Nat}:∀{sv:SV},sv.cM d=true->d∈sv.names
 |.v _,h=>by simp[SV.cM]at h|.own e,h=>by simp[SV.cM]at h;simp[SV.names,h]|.ptr e _,h=>by simp[SV.cM]at h;simp[SV.names,h]|.el e _ _,h=>by simp[SV.cM]at h;simp[SV.names,h]|.mp e,h=>by simp[SV.cM]at h;simp[SV.names,h]|.clo f a b,h=>by simp only[SV.cM,or_eq_true]at h;simp only[SV.names,mem_append];exact h.imp qz qz|.tup l,h=>by simp only[SV.cM]at h;simp only[SV.names];exact qz h|.agg l,h=>by simp only[SV.cM]at h;simp only[SV.names];exact qz h|.yl _,h=>by simp[SV.cM]at h
def qz{d:Nat}:∀{l:Zw},SV.dy d l=true->d∈SV.vD l
 |[],h=>by simp[SV.dy]at h|x::r,h=>by simp only[SV.dy,or_eq_true]at h;simp only[SV.vD,mem_append];exact h.imp C6 qz
end
def Bf{d:Nat}:∀{g:Tb SV}{s:Nat}{sv:SV},bh g s=some sv->sv.cM d=true->d∈pM g
 |[],s,sv,h,_=>by simp[bh]at h|(k,x)::r,s,sv,h,B=>by simp[bh]at h;simp[pM];split at h;simp at h;subst h;exact .inl (C6 B);exact .inr (Bf h B)
def R.V0(r:R ν Z st F H){Z2:Nat->Prop}(f:∀i,Z2 i->¬fq ν st.m i)(J:∀i,Z2 i->(bq H i).isSome=true)(O:Deep H Z2):R ν (λi=>Z i\/Z2 i) st F H:=by have z:∀i,Z i->(Z i\/Z2 i)/\bq H i=bq H i:=λi h=>⟨.inl h,rfl⟩;have B:∀i,Z2 i->(Z i\/Z2 i)/\bq H i=bq H i:=λi h=>⟨.inr h,rfl⟩;refine⟨λs I L=>(r.slot s I L).mono z λe _=>iN ν st.m e,λd ob w=>dX.mono z rfl (λ_=>rfl) (λe _=>iN ν st.m e) (r.obj d ob w),r.inj,λd ob w D b=>?_,λi a=>?_,⟨λid es G a hr c hc u hu=>?_⟩⟩;rcases b with b|b;exact r.apart d ob w D b;exact f _ b ⟨d,ob,w,D,rfl⟩;exact a.elim (r.zrow i) (J i);rcases a with a|a;have⟨x,C⟩:=r.deep.row id es G a hr c hc u hu;exact⟨x,C.mono z⟩;have⟨x,C⟩:=O.row id es G a hr c hc u hu;exact⟨x,C.mono B⟩
def R.Ui:∀{ps:Zv}{xs:Zu}{vs:Zu}{g:Tb SV}{F:Zo},R ν Z {st with g:=g} F H->c9 H Z xs vs->xs.length=ps.length->R ν Z {st with g:=v8 g ps (xs.map .v)} (xm ps vs F) H
 |[],xs,vs,g,F,r,h,B=>by have:=length_eq_zero_iff.1 B;subst this;exact r|p::ps,[],vs,g,F,r,h,B=>Ze|p::ps,x::xs,vs,g,F,r,h,B=>by obtain⟨w,z,rfl,a,u⟩:=h.inv;exact R.Ui (ps:=ps) (r.put (.v _ _ a)) u Zd
def sn(X:CX)(S:Sys)(ro:Zl)(code:Code)(B:St->aZ (Out×St)):Prop:=∀st o st',B st=some (o,st')->∀(J:JT)ν Z F H,Yc S J st.more st.yid->R ν Z st F H->J st.want (fq ν st.m) Z H->∃n F' H' ν' Z',(∀k,n<=k->exec S.E (run S.E k) k ro X.nt code F H=some (o,F',H'))/\R ν' Z' st' F' H'/\J st'.want (fq ν' st'.m) Z' H'/\Fix ν st ν' st'
def Qf(st:St)(m:Tb bE):St:={g:=st.g,m:=m,pin:=st.pin++pM st.g,want:=[],more:=true,yid:=0}
def JI(X:CX)(st:St)(F:Zo)(ν:Nu)(O0 Z0:Nat->Prop)(H0:bl)(B:Nat)(ps:Zv)(J U:Code)(step:Zu->Tb bE->aZ (Out×Tb bE))(o:Out)(G:Tb bE)(more:Zl):JT:=λw O Z H=>∃m z D u,R z D (Qf st m) F H/\tY O0 Z0 H0 [] (fq z m) D H/\(∀i,O i->¬fq z m i/\¬D i/\i≠B/\H0.length<=i)/\(∀i,Z i->¬fq z m i/\i≠B/\(Z0 i\/H0.length<=i))/\¬fq z m B/\¬D B/\H0.length<=B/\H[B]?=some (.loop u)/\(u.frame=F/\u.nt=X.nt/\u.params=ps/\u.assign=J/\u.body=U)/\(∀d∈st.pin++pM st.g,∀C,bh m d=some C->∃ob,bh st.m d=some ob/\z d=ν d/\sameShape ob C)/\((vQ step o G w more m/\u.st=.ready/\u.pend=none)\/(w=[]/\m=G/\u.st=.done/\u.pend=some o))
def JI.wR{w:Zt}{O Z J Z':Nat->Prop}{H H':bl}{B:Nat}{ps:Zv}{U W:Code}{step:Zu->Tb bE->aZ (Out×Tb bE)}{o:Out}{Y:Tb bE}{more:Zl}
 (j:JI X st F ν O0 Z0 H0 B ps U W step o Y more w O Z H)(d:H.length<=H'.length)(G:∀i,i<H.length->¬O i->¬Z i->H'[i]?=H[i]?)(x:∀i,Z i->Z' i/\bq H' i=bq H i)
 (e:∀i,J i->O i\/H.length<=i)(f:∀i,Z' i->Z i\/O i\/H.length<=i):JI X st F ν O0 Z0 H0 B ps U W step o Y more w J Z' H':=by
 have⟨m,S,I,T,r,g,a,b,k,l,n,p,q,s,t⟩:=j;have z:=λi u=>G i (r.lt u) (λh=>(a i h).1 u) (λh=>(b i h).1 u)
 have C:∀i,I i->bq H' i=bq H i:=λi u=>by by_cases D:Z i;grind;unfold bq;rw[G i (r.vw u) (λh=>(a i h).2.1 u) D]
 have y:=(ζe.1 p).1;refine⟨m,S,I,T,r.heap z C,?_,λi h=>?_,λi h=>?_,k,l,n,?_,q,s,t⟩
 .have⟨j1,L,j3,j4,j5,j6⟩:=g;refine⟨j1,le_trans L d,λi c v Q=>?_,λi h=>⟨(j4 i h).1,Zd⟩,j5,j6⟩
  rw[G i (Nat.lt_of_lt_of_le c L) (λh=>by have:=(a i h).2.2.2;omega) (λh=>by rcases(b i h).2.2 with h|h;exact Q h;omega),j3 i c v Q]
 .rcases e i h with h|h
  .exact a i h
  exact⟨λu=>absurd (r.lt u) Za,λu=>absurd (r.vw u) Za,Za,Za⟩
 .rcases f i h with h|h|h
  .exact b i h
  .exact⟨(a i h).1,(a i h).2.2.1,.inr (a i h).2.2.2⟩
  exact⟨λu=>absurd (r.lt u) Za,Za,.inr Za⟩
 grind
def JI.yield(S:Sys){A B:St->aZ (Out×St)}{P bw:Code}(hA:sn X S true P A)(hB:sn X S true bw B){G:Nat}{ps:Zv}(ay:ps.all (·<X.nt)=true){o:Out}{p:Tb bE}{more:Zl}
 {x:Zu}{f:Zt}{O Z:Nat->Prop}{H:bl}{args:Zu}(j:JI X st F ν O0 Z0 H0 G ps P bw (iJ ps A B st) o p more (x::f) O Z H)
 (hx:c9 H Z x args)(ao:∀i,Z i->(bq H i).isSome=true)(aA:Deep H Z)(aB:∀i,O i->¬Z i/\i<H.length):
 ∃n H',run S.E n (.yld G) args H=some (.bool (more|| !f.isEmpty),H')/\JI X st F ν O0 Z0 H0 G ps P bw (iJ ps A B st) o p more f O Z H'/\H.length<=H'.length/\(∀i,O i->H'[i]?=H[i]?)/\(∀i,Z i->bq H' i=bq H i):=by
 have⟨m,q,g,c,r,ej,d1,t,l1,l2,l3,l4,⟨q1,q2,q3,q4,q5⟩,l6,l7⟩:=j;have aC:vQ (iJ ps A B st) o p (x::f) more m/\c.st=.ready/\c.pend=none:=by grind
 have⟨hE,U,aD⟩:=aC;have W:∃v m1,iJ ps A B st x m=some (v,m1)/\(v=.norm/\vQ (iJ ps A B st) o p f more m1/\(more|| !f.isEmpty)=true\/v≠.norm/\v=o/\m1=p/\f=[]/\more=false):=by cases hE with|next _ _ _ _ m1 h hr=>refine⟨.norm,m1,h,.inl ⟨rfl,hr,?_⟩⟩;cases hr<;>simp|last _ _ h ho=>grind
 have⟨v,m1,z,ad⟩:=W;unfold iJ at z;split at z
 .rename_i ae;split at z
  .rename_i ai aE;have⟨⟨C,st2⟩,aF,e⟩:=ζf.1 z;simp at e;obtain⟨rfl,rfl⟩:=e;have aG:=(ζe.1 l4).1;have r1:=r.V0 (λi u=>(t i u).1) ao aA
   have aH:c9 H (λi=>g i\/Z i) x args:=hx.mono λi u=>⟨.inr u,rfl⟩
   have r2:=R.Ui (st:=Qf st m) r1 aH ae;have⟨nA,F2,H2,ν2,Z2,a1,a2,a3,a4⟩:=hA _ _ _ aE (tY (fq q m) (λi=>g i\/Z i) H) q _ _ H tY.yc r2 (tY.refl r1)
   have⟨b1,b2,b3,b4,y,b6⟩:=a3;have aj:¬(g G\/Z G):=λh=>h.elim l2 λh=>(t G h).2.1 rfl
   have ap:H2[G]?=some (.loop c):=by rw[b3 G aG l1 aj];omega
   have af:G<H2.length:=Za
   have Y:¬fq ν2 ai.m G:=λh=>(y G h).elim l1 λh=>Za
   have ak:¬Z2 G:=λh=>by rcases b6 G h with h|h|h;exact aj h;exact l1 h;omega
   have w:∀(ob:Ob)(Hh:bl)(i:Nat),i≠G->(Hh.set G ob)[i]?=Hh[i]?:=λob Hh i E=>by rw[getElem?_set,if_neg (Ne.symm E)]
   have r3:R ν2 Z2 ai F2 (H2.set G (.loop {c with st:=.busy})):=a2.heap (λi u=>w _ _ i λe=>Y (e▸u)) (λi u=>by unfold bq;rw[w _ _ i λe=>ak (e▸u)])
   have⟨nB,F4,b,K,k,c1,c2,c3,c4⟩:=hB _ _ _ aF (tY (fq ν2 ai.m) Z2 (H2.set G (.loop {c with st:=.busy}))) ν2 Z2 F2 _ tY.yc r3 (by
    rw[b1];exact tY.refl r3)
   have⟨_,g2,g3,g4,g5,g6⟩:=c3;simp at g2 g3 g5 g6;have aq:b[G]?=some (.loop {c with st:=.busy}):=by rw[g3 G af Y ak,getElem?_set_self af]
   have ar:G<b.length:=Za
   have au:=λh=>(g5 G h).elim Y λh=>Za
   have av:¬k G:=λh=>by rcases g6 G h with h|h|h;exact ak h;exact Y h;omega
   generalize M:({c with st:=(if C==.norm then Bg.ready else Bg.done),pend:=(if C==.norm then none else some C)}:ve)=I;have r5:R K k st2 F4 (b.set G (.loop I)):=c2.heap (λi u=>w _ _ i λe=>au (e▸u)) (λi u=>by unfold bq;rw[w _ _ i λe=>av (e▸u)])
   have Q:H.length<=(b.set G (.loop I)).length:=by simp;omega
   have al:∀i,i<H.length->i≠G->¬fq q m i->¬(g i\/Z i)->(b.set G (.loop I))[i]?=H[i]?:=λi a L J l=>by rw[w _ _ i L,g3 i Za (λh=>(y i h).elim J λh=>Za) (λh=>by rcases b6 i h with h|h|h;exact l h;exact J h;omega),w _ _ i L,b3 i a J l]
   have D:∀i,(g i\/Z i)->k i/\bq (b.set G (.loop I)) i=bq H i:=λi u=>by have E:i≠G:=λe=>aj (e▸u);have⟨t1,t2⟩:=b4 i u;have⟨t3,t4⟩:=g4 i t1;refine⟨t3,?_⟩;rw[<-t2];have:bq (H2.set G (.loop {c with st:=.busy})) i=bq H2 i:=(by unfold bq;rw[w _ _ i E]);rw[<-this,<-t4];unfold bq;rw[w _ _ i E]
   have T:∀i,fq K st2.m i->fq q m i\/H.length<=i:=λi u=>by rcases g5 i u with h|h;exact y i h;exact .inr Za
   have ah:∀i,k i->(g i\/Z i)\/fq q m i\/H.length<=i:=λi u=>by rcases g6 i u with h|h|h;exact b6 i h;rcases y i h with h|h;exact .inr (.inl h);exact .inr (.inr h);exact .inr (.inr Za)
   have fx:=a4.trans c4;have r6:R K k (Qf st st2.m) F (b.set G (.loop I)):=⟨λs sv hs=>(r.slot s sv hs).mono (λi u=>D i (.inl u)) λd N am an=>fx.pin d (List.mem_append_right _ (Bf hs N)) am an,r5.obj,r5.inj,r5.apart,r5.zrow,r5.deep⟩
   have ax:run S.E (max nA nB+1) (.yld G) args H=some (.bool (C==.norm),b.set G (.loop I)):=by simp only[run,jD,l4];rw[if_pos (by rw[q3];exact⟨by rw[<-hx.1];exact ae,by rw[q2];exact ay⟩)];rw[q1,q2,q3,q4,q5];rw[a1 _ (le_max_left _ _)];simp only[ap,U];rw[c1 _ (le_max_right _ _)];simp only[aq];rw[<-M]
   refine⟨max nA nB+1,b.set G (.loop I),?_,⟨st2.m,K,k,I,r6,?_,λi u=>?_,λi u=>?_,au,av,l3,?_,?_,λd N am an=>?_,?_⟩,Q,λi u=>?_,λi u=>(D i (.inr u)).2⟩
   .rw[ax];rcases ad with⟨a,_,J⟩|⟨a,_,_,l,h5⟩
    .rw[a,J];rfl
    rw[l,h5]
    cases aI:C with
    |norm=>exact absurd aI a|_=>rfl
   .have⟨j1,j2,j3,j4,j5,j6⟩:=ej;refine⟨rfl,le_trans j2 Q,λi a L J=>?_,λi h=>⟨(D i (.inl (j4 i h).1)).1,by rw[(D i (.inl (j4 i h).1)).2,(j4 i h).2]⟩,λi h=>?_,λi h=>?_⟩
    .rw[al i Za Za (λh=>by rcases j5 i h with h|h;exact L h;omega) (λh=>by
      rcases h with h|h
      .rcases j6 i h with h|h|h;exact J h;exact L h;omega
      rcases(t i h).2.2 with h|h;exact J h;omega),j3 i a L J]
    .rcases T i h with h|h
     .exact j5 i h
     exact .inr Za
    rcases ah i h with(h|h)|h|h
    .exact j6 i h
    .rcases (t i h).2.2 with h|h;exact .inl h;exact .inr (.inr h)
    .rcases j5 i h with h|h;exact .inr (.inl h);exact .inr (.inr h)
    exact .inr (.inr Za)
   .have⟨t1,t2⟩:=aB i u;have⟨t3,t4,t5,t6⟩:=d1 i u;refine⟨λh=>(T i h).elim t3 λh=>Za,λh=>?_,t5,t6⟩
    rcases ah i h with(h|h)|h|h
    .exact t4 h
    .exact t1 h
    .exact t3 h
    omega
   .have⟨t1,t2,t3⟩:=t i u;have aK:i<H.length:=by
     have:=ao i u;unfold bq at this
     cases hh:H[i]?with
     |none=>rw[hh]at this;simp at this|some _=>exact(ζe.1 hh).1
    exact⟨λh=>(T i h).elim t1 λh=>Za,t2,t3⟩
   .rw[getElem?_set_self ar]
   .subst M;exact⟨q1,q2,q3,q4,q5⟩
   .have⟨aJ,a,L,J⟩:=fx.pin d N am an;have⟨ob,k1,k2,k3⟩:=l6 d N aJ a;exact⟨ob,k1,by rw[L,k2],k3.trans J⟩
   .rcases ad with⟨a,L,J⟩|⟨a,L,J,l,h5⟩
    .left;subst a;subst M;exact⟨L,rfl,rfl⟩
    right;subst M;have hb:¬(C==Out.norm)=true:=by simpa using a
    refine⟨l,J,?_,?_⟩
    .show (if(C==Out.norm)=true then Bg.ready else Bg.done)=Bg.done;rw[if_neg hb]
    show(if(C==Out.norm)=true then none else some C)=some o;rw[if_neg hb,L]
   grind
  grind
 grind
end
end Go.VE
