/-
 The second layer: named objects in the place of rows; texts, calls, iterators.
-/
import Derived.Test.YtfgojpmjdgnieaaGreatDoorV2
set_option linter.all false
noncomputable section
open List(all_cons all_eq_true drop_drop drop_zero getElem?_append_left getElem?_append_right getElem?_cons_zero getElem?_drop getElem?_set getElem?_set_self getElem?_take length_eq_zero_iff mem_append mem_cons mem_iff_getElem? mem_of_getElem? mem_of_mem_drop replicate take take_length)
open Bool(false_eq_true not_eq_true' or_eq_false_iff or_eq_true)
open Option(isSome_iff_exists map_some)
open Nat(le_max_left le_max_right le_refl le_trans)
open Classical(choose_spec)
namespace Go.VE
variable[bV]
inductive Fl where|nil|emp|row|part
 deriving DecidableEq,Inhabited
inductive SV where
 |v(x:V)|own(d:Nat)|ptr(d off:Nat)|el(d i off:Nat)|mp(d:Nat)|clo(f:FuncId)(a b:List SV)|tup(l:List SV)|agg(l:List SV)|yl(id:Nat)
 deriving Inhabited
abbrev Zw:=a_ SV
inductive bN where
 |sl(k:Fl)(es:Nat)(xs:List (List V))|box(cs:List SV)|mp(kvs:List (V×V))
abbrev Tb(α:Type):=a_ (Nat×α)
def bB{α:Type}:Tb α->Nat->bt α
 |[],_=>none|(k,v)::r,n=>if k=n then some v else bB r n
def bR{α:Type}:Tb α->Nat->α->Tb α
 |[],n,v=>[(n,v)]|(k,x)::r,n,v=>if k=n then(k,v)::r else(k,x)::bR r n v
def dY{α:Type}(n:Nat):Tb α->Tb α
 |[]=>[]|(k,x)::r=>if k=n then dY n r else(k,x)::dY n r
def oF{α:Type}:Zv->Tb α->Tb α
 |[],g=>g|d::ds,g=>oF ds (dY d g)
def vl{α:Type}:Tb α->Zv->a_ α->Tb α
 |g,p::ps,v::vs=>vl (bR g p v) ps vs|g,_,_=>g
def kF{α:Type}(g:Tb α):Zv->bt (Tb α)
 |[]=>some []|n::r=>match bB g n,kF g r with
  |some v,some t=>some ((n,v)::t)|_,_=>none
structure St where
 g:Tb SV
 m:Tb bN
 pin:List Nat
 want:List (List V)
 more:Bool
 yid:Nat
structure De where
 part:Bool
 go:Nat->List (List V)->List V->Option (List (List V))
structure Sys where
 E:Env
 N:Nat->FuncId
 items:FuncId->List V->List V->Option (List (List V))
 xC:FuncId->List V->Option V
 prm:FuncId->Option De
inductive Arg where
 |s(n:Nat)|k(c:V)|f(name:Nat)
abbrev Z4:=a_ Arg
inductive Loc where
 |s(n:Nat)|c(b i:Nat)
inductive Gh where
 |close(d:Nat)|closeB(d:Nat)|canon(l:Loc)(d:Nat)(es:Nat)|keep(gs ms:List Nat)|drop(ds:List Nat)|closeS(l:Loc)
abbrev Z5:=a_ Gh
structure RO where
 dst:Option Nat
 gd:Option (Nat×Bool)
 now:Bool
 k:K
 az:List Arg
 dead:List Nat:=[]
 pre:List Gh:=[]
abbrev Zx:=a_ RO
inductive RC where
 |skip|ops(l:List RO)|oG(l:List RO)|seq(a b:RC)|cond(x:Arg)(a b:RC)|block(id:Nat)(c:RC)|loop(c:RC)|each(g:Arg)(ps:List Nat)(a b:RC)|exit(id:Nat)|ret|gh(x:Gh)(c:RC)|hg(c:RC)(x:Gh)
inductive RV where
 |s(n:Nat)|ld(n size:Nat)(agg:Bool)
structure RF where
 na:Nat
 rs:List RV
 body:RC
mutual
def SV.c6(d:Nat):SV->Zl
 |.v _=>false|.own e=>e==d|.ptr e _=>e==d|.el e _ _=>e==d|.mp e=>e==d|.clo _ a b=>SV.dD d a||SV.dD d b|.tup l=>SV.dD d l|.agg l=>SV.dD d l|.yl _=>false
def SV.dD(d:Nat):Zw->Zl
 |[]=>false|x::r=>SV.c6 d x||SV.dD d r
end
def bN.c6(d:Nat):bN->Zl
 |.box cs=>SV.dD d cs|_=>false
def ua(d:Nat):Tb SV->Zl
 |[]=>false|(_,x)::r=>SV.c6 d x||ua d r
def rD(d:Nat):Tb bN->Zl
 |[]=>false|(_,x)::r=>bN.c6 d x||rD d r
def St.new(st:St)(d:Nat):Zl:= !(st.pin.contains d)&&(bB st.m d).isNone&& !(ua d st.g)&& !(rD d st.m)
mutual
def SV.s_(d e:Nat):SV->SV
 |.v x=>.v x|.own k=>.own (if k=d then e else k)|.ptr k o=>.ptr (if k=d then e else k) o|.el k i o=>.el (if k=d then e else k) i o|.mp k=>.mp (if k=d then e else k)|.clo f a b=>.clo f (SV.tM d e a) (SV.tM d e b)|.tup l=>.tup (SV.tM d e l)|.agg l=>.agg (SV.tM d e l)|.yl id=>.yl id
def SV.tM(d e:Nat):Zw->Zw
 |[]=>[]|x::r=>SV.s_ d e x::SV.tM d e r
end
def bN.s_(d e:Nat):bN->bN
 |.box cs=>.box (SV.tM d e cs)|o=>o
def yf(d e:Nat):Tb SV->Tb SV
 |[]=>[]|(n,x)::r=>(n,x.s_ d e)::yf d e r
def tP(d e:Nat):Tb bN->Tb bN
 |[]=>[]|(n,x)::r=>((if n=d then e else n),x.s_ d e)::tP d e r
mutual
def SV.sub(d:Nat)(w:V):SV->SV
 |.own k=>if k=d then .v w else .own k|.clo f a b=>.clo f (SV.tE d w a) (SV.tE d w b)|.tup l=>.tup (SV.tE d w l)|.agg l=>.agg (SV.tE d w l)|x=>x
def SV.tE(d:Nat)(w:V):Zw->Zw
 |[]=>[]|x::r=>SV.sub d w x::SV.tE d w r
end
def dA:Zw->bt Zu
 |[]=>some []|.v x::r=>(dA r).map (x::·)|_::_=>none
def Np(f:Zk)(a b:Zw):SV:=
 match dA a,dA b with
 |some x,some y=>.v (.clo f x y)|_,_=>.clo f a b
mutual
def SV.Au(d:Nat)(cs:Zu):SV->SV
 |.ptr k o=>if k=d then(if o<=cs.length then .v (.fptr (cs.drop o))else .ptr k o)else .ptr k o|.clo f a b=>Np f (SV.qn d cs a) (SV.qn d cs b)|.tup l=>.tup (SV.qn d cs l)|.agg l=>.agg (SV.qn d cs l)|x=>x
def SV.qn(d:Nat)(cs:Zu):Zw->Zw
 |[]=>[]|x::r=>SV.Au d cs x::SV.qn d cs r
end
def AI(f:SV->SV):Tb SV->Tb SV
 |[]=>[]|(n,x)::r=>(n,f x)::AI f r
def mapM(f:Zw->Zw):Tb bN->Tb bN
 |[]=>[]|(n,.box cs)::r=>(n,.box (f cs))::mapM f r|(n,o)::r=>(n,o)::mapM f r
mutual
def SV.names:SV->Zv
 |.own d|.ptr d _|.el d _ _|.mp d=>[d]|.clo _ a b=>SV.uS a++SV.uS b|.tup l=>SV.uS l|.agg l=>SV.uS l|_=>[]
def SV.uS:Zw->Zv
 |[]=>[]|x::r=>SV.names x++SV.uS r
end
def oM:Tb SV->Zv
 |[]=>[]|(_,x)::r=>SV.names x++oM r
def nQ(k:Fl)(es:Nat)(xs:Zt):V:=
 match k with
 |.nil=>.bL|.emp=>.dF|_=>.fsl es xs
mutual
def V.lvl:Nat->V->Zl
 |n,.fsl _ xs=>match n with|0=>false|n+1=>V.oE n xs
 |n,.fptr cs=>match n with|0=>false|n+1=>V.kq n cs
 |n,.fmap B=>match n with|0=>false|n+1=>V.rP n B
 |n,.agg cs=>match n with|0=>false|n+1=>V.kq n cs
 |n,.tup cs=>match n with|0=>false|n+1=>V.kq n cs
 |n,.clo _ a b=>match n with|0=>false|n+1=>V.kq n a&&V.kq n b
 |_,_=>true
def V.kq:Nat->Zu->Zl
 |_,[]=>true|n,x::r=>V.lvl n x&&V.kq n r
def V.oE:Nat->Zt->Zl
 |_,[]=>true|n,x::r=>V.kq n x&&V.oE n r
def V.rP:Nat->a_ (V×V)->Zl
 |_,[]=>true|n,(k,x)::r=>V.lvl n k&&V.lvl n x&&V.rP n r
end
mutual
def shut(m:Tb bN):Nat->SV->bt V
 |_,.v x=>some x|_,.own d=>match bB m d with
  |some (.sl k es xs)=>some (nQ k es xs)|_=>none
 |n+1,.ptr d o=>match bB m d with
  |some (.box cs)=>match dh m n cs with
   |some xs=>if o<=xs.length then some (.fptr (xs.drop o))else none|none=>none
  |_=>none
 |_,.mp d=>match bB m d with
  |some (.mp B)=>some (.fmap B)|_=>none
 |n+1,.clo f a b=>match dh m n a,dh m n b with
  |some x,some y=>some (.clo f x y)|_,_=>none
 |n+1,.tup l=>(dh m n l).map .tup|n+1,.agg l=>(dh m n l).map .agg|_,_=>none
def dh(m:Tb bN):Nat->Zw->bt Zu
 |_,[]=>some []|n,x::r=>match shut m n x,dh m n r with
  |some y,some s=>some (y::s)|_,_=>none
end
end Go.VE
namespace Go.VE
variable[bV]
mutual
def V.good:V->Zl
 |.hsl ..|.hptr ..|.yld ..|.hmap ..=>false|.fsl _ xs=>V.lT xs|.fptr cs=>V.cG cs|.fmap B=>V.rG B|.clo _ a b=>V.cG a&&V.cG b|.agg cs=>V.cG cs|.tup cs=>V.cG cs|_=>true
def V.cG:Zu->Zl
 |[]=>true|x::r=>V.good x&&V.cG r
def V.lT:Zt->Zl
 |[]=>true|x::r=>V.cG x&&V.lT r
def V.rG:a_ (V×V)->Zl
 |[]=>true|(k,x)::r=>V.good k&&V.good x&&V.rG r
end
abbrev dQ:=Tb bN
abbrev cg:=FuncId->a_ SV->dQ->bt (a_ SV×dQ)
def pT(N:Nat->Zk)(g:Tb SV):Arg->bt SV
 |.s n=>bB g n|.k c=>some (.v c)|.f s=>some (.v (.clo (N s) [] []))
def cn(N:Nat->Zk)(g:Tb SV):Z4->bt Zw
 |[]=>some []|x::r=>match pT N g x,cn N g r with
  |some v,some vs=>some (v::vs)|_,_=>none
def cN:Fl->Zl
 |.row|.part=>true|_=>false
def lJ(m:Tb bN):SV->Zl
 |.own d|.ptr d _|.el d _ _|.mp d=>(bB m d).isSome|.clo ..=>true|_=>false
def wO(m:Tb bN):SV->Zl
 |.v x=>x.one|x=>lJ m x
def Fy(m:Tb bN):SV->bt Zw
 |.v x=>some (x.cells.map .v)|.agg l=>some l|x=>if lJ m x then some [x]else none
def wV(m:Tb bN)(cells:Zw):a_ (Nat×Nat)->Zw->bt Zw
 |[],[]=>some cells|(off,size)::pl,v::vs=>match Fy m v with
  |some c=>if c.length=size/\off+c.length<=cells.length then wV m (cells.take off++c++cells.drop (off+c.length)) pl vs else none|none=>none
 |_,_=>none
def uf(size:Nat)(agg:Zl)(cs:Zw):bt SV:=
 if cs.length=size then
  if agg then match dA cs with
   |some u=>some (.v (.agg u))|none=>some (.agg cs)
  else match cs with
   |[x]=>some x|_=>none
 else none
def zu(N:Nat->Zk)(m:Tb bN):tQ->Zw->bt SV
 |.id,[x]=>some x|.nilc,[.ptr d o]=>if(bB m d).isSome then some (.ptr d o)else none|.nilc,[.el d i o]=>if(bB m d).isSome then some (.el d i o)else none|.pick,[.v (.bool t),a,b]=>some (if t then a else b)|.bin (some .slice) _ .eql,[.own d,.v .bL]=>match bB m d with
  |some (.sl k _ _)=>if k=.emp then none else some (.v (.bool (k==.nil)))|_=>none
 |.bin (some .slice) _ .neq,[.own d,.v .bL]=>match bB m d with
  |some (.sl k _ _)=>if k=.emp then none else some (.v (.bool (!(k==.nil))))|_=>none
 |.fieldAddr off,[.ptr d o]=>if(bB m d).isSome then some (.ptr d (o+off))else none|.fieldAddr off,[.el d i o]=>if(bB m d).isSome then some (.el d i (o+off))else none|.idxS size,[.own d,.v (.int _ i)]=>match bB m d with
  |some (.sl k es xs)=>if cN k/\es=size/\0<=i/\i.toNat<xs.length then some (.el d i.toNat 0)else none|_=>none
 |.idxA len size,[.ptr d o,.v (.int _ i)]=>if 0<=i/\i<len/\(bB m d).isSome then some (.ptr d (o+i.toNat*size))else none|.idxA len size,[.el d j o,.v (.int _ i)]=>if 0<=i/\i<len/\(bB m d).isSome then some (.el d j (o+i.toNat*size))else none|.lenSl,[.own d]=>match bB m d with
  |some (.sl _ _ xs)=>some (.v (.int .i64 xs.length))|_=>none
 |.clo name k,vs=>some (.clo (N name) (vs.take k) (vs.drop k))|.ext i,[.tup l]=>l[i]?|.build zero pl,vs=>(wV m (zero.map .v) pl vs).map .agg|.field off size agg,[.agg l]=>uf size agg ((l.drop off).take size)|_,_=>none
def jJ(N:Nat->Zk)(m:Tb bN)(p:tQ)(svs:Zw):bt SV:=
 match dA svs with
 |some u=>(bO N p u).map .v|none=>zu N m p svs
def Jt(m:Tb bN)(d:Nat):SV->Zl
 |.ptr B _=>B != d&&(match bB m B with|some (.box _)=>true|_=>false)|.v (.fptr _)=>true|_=>false
def oJ(m:Tb bN):HP->Zw->bt SV
 |.load size agg,[.ptr d o]=>match bB m d with
  |some (.box cs)=>uf size agg ((cs.drop o).take size)|_=>none
 |.load size agg,[.el d i o]=>match bB m d with
  |some (.sl _ _ xs)=>match xs[i]?with
   |some cs=>((cut cs o size).bind (mk agg)).map .v|none=>none
  |_=>none
 |.load size agg,[.v p]=>((dX [] p size).bind (mk agg)).map .v|.lookup kk z ok,[.mp d,.v k]=>match bB m d with
  |some (.mp B)=>if o4 kk k then match hG k B 0 with
   |some (some (_,v))=>some (.v (if ok then .tup [v,.bool true]else v))|some none=>some (.v (if ok then .tup [z,.bool false]else z))|none=>none
   else none
  |_=>none
 |.lookup kk z ok,[.v p,.v k]=>(dZ [] (.lookup kk z ok) [p,k]).map .v|.loadF size agg,.ptr d o::l=>if l.all (Jt m d)=true then match bB m d with
  |some (.box cs)=>uf size agg ((cs.drop o).take size)|_=>none
  else none
 |_,_=>none
def eW(fr:Zv):Zw->Zl
 |[]=>true|.v _::r=>eW fr r|.ptr d _::r=> !(fr.contains d)&&eW fr r|.el d _ _::r=> !(fr.contains d)&&eW fr r|.mp d::r=> !(fr.contains d)&&eW fr r|_=>false
def o9(m:Tb bN)(a:Ki)(svs:Zw)(d:Nat):bt (bN×SV):=
 match a,svs with
 |.alloc _ zero,[]=>some (.box (zero.map .v),.ptr d 0)|.box,[.v x]=>if x.cells.all V.one then some (.box (x.cells.map .v),.ptr d 0)else none|.box,[.agg l]=>if l.all (wO m)then some (.box l,.ptr d 0)else none|.box,[x]=>if lJ m x then some (.box [x],.ptr d 0)else none|.makeSl size zero,[.v (.int k n),.v (.int w c)]=>if k=.i64/\w=.i64/\0<=n/\n<=c/\c<=2147483648 then some (.sl (if n=c then .row else .part) size (replicate n.toNat zero),.own d)else none|.buildSl size len zero idx,z=>match dA z with
  |some u=>if idx.length=u.length then(eR size (replicate len zero) (idx.zip u)).map λB=>(.sl .row size B,.own d)else none|none=>none
 |.makeMap,[]=>some (.mp [],.mp d)|_,_=>none
def iM(m:Tb bN)(size:Nat):SV->bt Zt
 |.own d=>match bB m d with
  |some (.sl k es xs)=>if cN k then(if es=size then some xs else none)else some []|_=>none
 |.v .bL=>some []|.v .dF=>some []|.v (.fsl es xs)=>if es=size then some xs else none|_=>none
def ED:SV->Zl
 |.own _|.v .bL|.v .dF=>true|_=>false
def putCells(m:Tb bN)(size o:Nat)(sv:SV)(cs:Zw):bt Zw:=
 match sv with
 |.v x=>if x.cells.length=size/\o+size<=cs.length/\x.cells.all V.one=true then some (cs.take o++x.cells.map .v++cs.drop (o+size))else none|.agg l=>if l.length=size/\o+size<=cs.length/\l.all (wO m)=true then some (cs.take o++l++cs.drop (o+size))else none|x=>if lJ m x=true/\size=1/\o+1<=cs.length then some (cs.take o++[x]++cs.drop (o+1))else none
def giveUp(m:Tb bN):SV->Tb bN
 |.own d=>dY d m|_=>m
def lX(st:St)(dst:bt Nat):HF->Zw->bt (SV×St)
 |.store size,[.ptr d o,x]=>match bB st.m d with
  |some (.box cs)=>(putCells st.m size o x cs).map λcs=>(.v .undef,{st with m:=bR st.m d (.box cs)})|_=>none
 |.store size,[.el d i o,.v x]=>match bB st.m d with
  |some (.sl k es xs)=>match xs[i]?with
   |some cs=>if x.cells.length=size/\o+size<=cs.length/\x.cells.all V.one=true then
    some (.v .undef,{st with m:=bR st.m d (.sl k es (xs.set i (cs.take o++x.cells++cs.drop (o+x.cells.length))))})else none
   |none=>none
  |_=>none
 |.mapUp kk,[.mp d,.v k,.v x]=>match bB st.m d with
  |some (.mp B)=>if o4 kk k then(oT k x B).map λB=>(.v .undef,{st with m:=bR st.m d (.mp B)})else none|_=>none
 |.append size,[s,x]=>match iM st.m size s,iM st.m size x with
  |some _,some []=>match dst with
   |some t=>match s with
    |.own d=>match bB st.m d with
     |some ob=>if St.new {st with m:=dY d st.m} t then some (.own t,{st with m:=bR (dY d st.m) t ob})else none|none=>none
    |.v .bL=>if st.new t then some (.own t,{st with m:=bR st.m t (.sl .nil size [])})else none|.v .dF=>if st.new t then some (.own t,{st with m:=bR st.m t (.sl .emp size [])})else none|_=>none
   |none=>none
  |some xs,some ys=>
   if xs.length+ys.length<=2147483648/\ED s=true then
    let m1:=giveUp st.m s
    match dst with
    |some t=>if St.new {st with m:=m1} t then some (.own t,{st with m:=bR m1 t (.sl .row size (xs++ys))})else none|none=>none
   else none
  |_,_=>none
 |.storeF size,.ptr d o::x::l=>if l.all (Jt st.m d)=true then match bB st.m d with
  |some (.box cs)=>(putCells st.m size o x cs).map λcs=>(.v .undef,{st with m:=bR st.m d (.box cs)})|_=>none
  else none
 |_,_=>none
def yS(st:St)(dst:bt Nat)(size:Nat)(B D:Zl)(d:Nat)(G:Zw):bt (SV×St):=
 match bB st.m d,dA G,dst with
 |some (.sl k es u),some z,some t=>
  if cN k=true/\es=size then
   (lp B D z).bind λ(l,h)=>(dW u.length l h).bind λ(l,h)=>
    let w:=dY d st.m
    if St.new {st with m:=w} t then some (.own t,{st with m:=bR w t (.sl .part es ((u.take h).drop l))})else none
  else none
 |_,_,_=>none
def zS:Zw->SV
 |[x]=>x|l=>.tup l
mutual
def SV.C_:SV->Zv
 |.v _=>[]|.own e=>[e]|.ptr e _=>[e]|.el e _ _=>[e]|.mp e=>[e]|.clo _ a b=>SV.wH a++SV.wH b|.tup l=>SV.wH l|.agg l=>SV.wH l|.yl _=>[]
def SV.wH:Zw->Zv
 |[]=>[]|x::r=>SV.C_ x++SV.wH r
end
def bN.C_:bN->Zv
 |.box cs=>SV.wH cs|_=>[]
def reach(m:Tb bN):Nat->Zv->Zv->Zv
 |0,_,seen=>seen|_+1,[],seen=>seen|n+1,d::r,seen=>if seen.contains d then reach m n r seen else reach m n ((match bB m d with|some ob=>bN.C_ ob|none=>[])++r) (seen++[d])
def handed(m:Tb bN)(l:Zw):bt dQ:=kF m (reach m 32 (SV.wH l) [])
mutual
def SV.bare:SV->Zl
 |.v x=>x.scalar|.clo _ a b=>SV.vn a&&SV.vn b|.tup l=>SV.vn l|.agg l=>SV.vn l|_=>true
def SV.vn:Zw->Zl
 |[]=>true|x::r=>SV.bare x&&SV.vn r
end
def bN.bare:bN->Zl
 |.box cs=>SV.vn cs|_=>false
def xO(m:Tb bN)(k:Nat):Zl:=match bB m k with
 |some ob=>ob.bare|none=>true
def within(B:Zv)(ob:bN):Zl:=ob.C_.all B.contains
def xd(B:Zv)(m':dQ):Zv->Tb bN->bt (Tb bN)
 |[],m=>some m|d::r,m=>match bB m' d with
  |some ob=>if within B ob then xd B m' r (bR m d ob)else none|none=>none
def mq(m':dQ)(l:Zv)(m:Tb bN):bt (Tb bN):=xd l m' l m
def nH(xs:Zt):Zl:=xs.all λx=>x.all V.scalar
def AX(q:De)(dst:bt Nat)(args:Zw)(st:St):bt (SV×St):=
 match args with
 |.own d::z=>match bB st.m d,dA z with
  |some (.sl k es u),some B=>match q.go es u B with
   |some w=>if q.part then match dst with
    |some t=>if St.new {st with m:=dY d st.m} t then some (.own t,{st with m:=bR (dY d st.m) t (if cN k then .sl .part es w else .sl k es u)})else none|none=>none
    else some (.v .undef,{st with m:=bR st.m d (if cN k then .sl k es w else .sl k es u)})
   |none=>none
  |_,_=>none
 |_=>none
def rowsOf:Zw->bt Zv
 |[]=>some []|.v _::r=>rowsOf r|.own d::r=>(rowsOf r).map (d::·)|_=>none
def fV(S:Sys)(c:cg)(dst:bt Nat)(dr now:Zl)(old:Zw->Zl)(f:Zk)(args:Zw)(st:St):bt (SV×St):=
 if S.E.keep f then
  if now then
   if S.E.own f then
    match dh st.m 8 args with
    |some az=>
     match c f (az.map .v) []with
     |some (rs,m')=>match dA rs with
      |some u=>if(result u).scalar then some (.v (result u),st)else none|none=>match rs,dst with
       |.own e::rest,some t=>match bB m' e,dA rest with
        |some (.sl .row es z),some u=>
         if V.cZ u&&nH z&&st.new t then
          some (zS (.own t::u.map .v),{st with m:=bR st.m t (.sl .row es z)})
         else none
        |some (.sl .nil es _),some u=>if V.cZ u&&st.new t then some (zS (.own t::u.map .v),{st with m:=bR st.m t (.sl .nil es [])})else none|some (.sl .emp es _),some u=>if V.cZ u&&st.new t then some (zS (.own t::u.map .v),{st with m:=bR st.m t (.sl .emp es [])})else none|_,_=>none
       |_,_=>none
     |none=>none
    |none=>none
   else match S.prm f with
    |some q=>if dr then none else AX q dst args st|none=>match handed st.m args with
    |some os=>match c f args os with
     |some (rs,m')=>match dA rs,mq m' (os.map (·.1)) st.m with
      |some u,some w=>if dr&& !(V.cZ u&&os.all λx=>xO w x.1)then none else some (.v (result u),{st with m:=w})|none,some w=>if dr then none else match rs,dst with
       |.own e::rest,some t=>match bB m' e,dA rest with
        |some (.sl k es z),some u=>if !(os.map (·.1)).contains e&&St.new {st with m:=w} t then some (zS (.own t::u.map .v),{st with m:=bR w t (.sl k es z)})else none|_,_=>none
       |_,_=>none
      |_,_=>none
     |none=>none
    |none=>none
  else if S.E.own f&&old args then match dh st.m 8 args with
   |some az=>match c f (az.map .v) []with
    |some (rs,m')=>match dh m' 8 rs with
     |some u=>if(result u).scalar||(dA args).isSome then some (.v (result u),st)else none|none=>none
    |none=>none
   |none=>none
  else none
 else match dh st.m 8 args with
  |some az=>if now||old args then
   match c f (az.map .v) []with
   |some (rs,m')=>match dh m' 8 rs with
    |some u=>if(result u).scalar||(dA args).isSome then some (.v (result u),st)
     else if now then(rowsOf args).map λds=>(.v (result u),{st with m:=oF ds st.m})
     else none
    |none=>none
   |none=>none
   else none
  |none=>none
def gb(m:Tb bN)(fr:Zv)(args:Zw):Zl:=fr.all λd=> !(SV.dD d args)&& !(rD d m)
def zI:K->Zl
 |.p (.build zero _)=>V.cG zero|.r (.lookup _ z _)=>z.good|.a (.alloc _ zero)=>V.cG zero&&zero.all V.one|.a (.makeSl _ zero)=>V.cG zero|.a (.buildSl _ _ zero _)=>V.cG zero|_=>true
def kN(S:Sys)(c:cg)(dr:Zl)(fr:Zv)(o:RO)(st:St):bt (SV×St):=
 match cn S.N st.g o.az with
 |some u=>match o.k with
  |.p (.slice size z B)=>match u with
   |.own d::C=>if dr then none else yS st o.dst size z B d C|u=>(jJ S.N st.m (.slice size z B) u).map λx=>(x,st)
  |.p p=>(jJ S.N st.m p u).map λx=>(x,st)|.r r=>if !dr||o.now||eW fr u then(oJ st.m r u).map λx=>(x,st)else none|.a a=>match o.dst with
   |some d=>if st.new d then(o9 st.m a u d).map λ(ob,x)=>(x,{st with m:=bR st.m d ob})else none|none=>none
  |.l l=>if !dr||o.now then lX st o.dst l u else none|.c=>match u with
   |.clo f a b::w=>fV S c o.dst dr (!dr||o.now) (gb st.m fr) f (a++w++b) st|.v (.clo f a b)::w=>fV S c o.dst dr (!dr||o.now) (gb st.m fr) f (a.map .v++w++b.map .v) st|_=>none
  |.b=>if dr then none else match u with
   |[x]=>(iM st.m 1 x).bind λD=>(kC D).map λl=>(.v (.str (pU l)),st)|_=>none
  |.e n=>match u with
   |[.v .bL,x]=>lX st o.dst (.append n) [.v .bL,x]|[.v .dF,x]=>lX st o.dst (.append n) [.v .dF,x]|_=>none
 |none=>none
def dy(st:St)(dst:bt Nat)(x:SV):St:=
 match dst with
 |none=>st|some d=>{st with g:=bR st.g d x}
def wanted(g:Tb SV):bt (Nat×Zl)->bt Zl
 |none=>some true|some (s,b)=>match bB g s with
  |some (.v (.bool c))=>some (c==b)|some (.v _)=>some false|_=>none
def wT(o:RO):bt Nat:=
 match o.k with
 |.p _|.r _=>none|_=>o.dst
def p_(fr:Zv)(o:RO):Zv:=
 match wT o with
 |some d=>d::fr|none=>fr
def bD(H:bC)(id:Nat):bt (Nat×Zt):=(H[id]?).bind Ob.rows
mutual
def V.jW:∀{x:V},x.good=true->x.closed=true
 |.hsl ..,h|.hptr ..,h|.yld _,h|.hmap _,h=>by simp[V.good]at h|.fsl ..,_|.fptr ..,_|.fmap ..,_=>rfl|.bool _,_|.int ..,_|.str _,_|.dF,_|.bL,_|.gN,_|.fZ,_|.q_,_=>rfl|.clo _ a b,h=>by simp only[V.good,ζh]at h;simp only[V.closed,ζh];exact⟨V.mU h.1,V.mU h.2⟩|.agg cs,h=>by simp only[V.good]at h;simp only[V.closed];exact V.mU h|.tup cs,h=>by simp only[V.good]at h;simp only[V.closed];exact V.mU h
def V.mU:∀{l:Zu},V.cG l=true->V.gP l=true
 |[],_=>rfl|x::r,h=>by simp only[V.cG,ζh]at h;simp only[V.gP,ζh];exact⟨V.jW h.1,V.mU h.2⟩
end
def gG:∀{l:Zu},V.cG l=true↔∀(j:Nat)u,l[j]?=some u->u.good=true
 |[]=>by simp[V.cG]|x::l=>by simp[V.cG,gG];constructor;grind;intro h;exact⟨h 0 x rfl,λj u a=>h (j+1) u Zd⟩
def jX:∀{l:Zt},V.lT l=true↔∀(j:Nat)u,l[j]?=some u->V.cG u=true
 |[]=>by simp[V.lT]|x::l=>by simp[V.lT,jX];constructor;grind;intro h;exact⟨h 0 x rfl,λj u a=>h (j+1) u Zd⟩
def DC:∀{l:a_ (V×V)},V.rG l=true↔∀(j:Nat)u,l[j]?=some u->u.1.good=true/\u.2.good=true
 |[]=>by simp[V.rG]|(k,x)::l=>by simp only[V.rG,ζh,DC];constructor;grind;intro h;exact⟨h 0 (k,x) rfl,λj u a=>h (j+1) u Zd⟩
def wJ{l:Zu}(n:Nat)(h:V.cG l=true):V.cG (l.drop n)=true:=gG.2 λj u a=>gG.1 h (n+j) u Zd
inductive FR(H:bC)(Z:Nat->Prop):V->V->Prop
 |same(x:V)(h:x.good=true):FR H Z x x|fsl(es:Nat)(xs:List (List V))(id off:Nat)(ys:List (List V))(hz:Z id)(hr:bD H id=some (es,ys))(hl:off+xs.length<=ys.length)
  (hc:∀(i:Nat)a b,xs[i]?=some a->ys[off+i]?=some b->a.length=b.length)
  (hv:∀(i j:Nat)a b u v,xs[i]?=some a->ys[off+i]?=some b->a[j]?=some u->b[j]?=some v->FR H Z u v):FR H Z (.fsl es xs) (.hsl id es off xs.length)
 |fptr(xs:List V)(id el off es:Nat)(ys:List (List V))(cs:List V)(hz:Z id)(hr:bD H id=some (es,ys))(he:ys[el]?=some cs)(ho:off<=cs.length)(hx:xs.length=cs.length-off)
  (hv:∀(j:Nat)u v,xs[j]?=some u->cs[off+j]?=some v->FR H Z u v):FR H Z (.fptr xs) (.hptr id el off)
 |clo(f:FuncId)(a b a' b':List V)(ha:a.length=a'.length)(hb:b.length=b'.length)(hva:∀(j:Nat)u v,a[j]?=some u->a'[j]?=some v->FR H Z u v)(hvb:∀(j:Nat)u v,b[j]?=some u->b'[j]?=some v->FR H Z u v):FR H Z (.clo f a b) (.clo f a' b')|agg(a a':List V)(ha:a.length=a'.length)(hva:∀(j:Nat)u v,a[j]?=some u->a'[j]?=some v->FR H Z u v):FR H Z (.agg a) (.agg a')|tup(a a':List V)(ha:a.length=a'.length)(hva:∀(j:Nat)u v,a[j]?=some u->a'[j]?=some v->FR H Z u v):FR H Z (.tup a) (.tup a')
def dn(H:bC)(Z:Nat->Prop)(xs ys:Zu):Prop:=xs.length=ys.length/\∀(j:Nat)u v,xs[j]?=some u->ys[j]?=some v->FR H Z u v
def fR(H:bC)(Z:Nat->Prop)(xs ys:Zt):Prop:=xs.length=ys.length/\∀(j:Nat)u v,xs[j]?=some u->ys[j]?=some v->dn H Z u v
section
variable{H H':bC}{Z Z':Nat->Prop}
def FR.mono(h:∀id,Z id->Z' id/\bD H' id=bD H id){x y:V}(r:FR H Z x y):FR H' Z' x y:=by induction r with|same x h=>exact .same x h|fsl es B id off C D hr J hc hv G=>exact .fsl es B id off C (h id D).1 Zd J hc G|fptr B id el off es C L D hr O Q S hv G=>exact .fptr B id el off es C L (h id D).1 Zd O Q S G|clo f a b w T z U hva W u I=>exact .clo f a b w T z U u I|agg a w z hva u=>exact .agg a w z u|tup a w z hva u=>exact .tup a w z u
def dn.mono(h:∀id,Z id->Z' id/\bD H' id=bD H id){x y:Zu}(r:dn H Z x y):dn H' Z' x y:=⟨r.1,λj u v a b=>(r.2 j u v a b).mono h⟩
def fR.mono(h:∀id,Z id->Z' id/\bD H' id=bD H id){x y:Zt}(r:fR H Z x y):fR H' Z' x y:=⟨r.1,λj u v a b=>(r.2 j u v a b).mono h⟩
def dn.nil:dn H Z [] []:=⟨rfl,Zc⟩
def dn.cons{x y:V}{xs ys:Zu}(h:FR H Z x y)(r:dn H Z xs ys):dn H Z (x::xs) (y::ys):=by refine⟨by simp[r.1],λj u v a b=>?_⟩;cases j with|zero=>grind|succ j=>exact r.2 j u v Zd Zd
def dn.inv{x:V}{xs B:Zu}(r:dn H Z (x::xs) B):∃y ys,B=y::ys/\FR H Z x y/\dn H Z xs ys:=by cases B with|nil=>have:=r.1;grind|cons y ys=>refine⟨y,ys,rfl,r.2 0 x y rfl rfl,by have:=r.1;grind,λj u v a b=>r.2 (j+1) u v Zd Zd⟩
def dn.c8{B:Zu}(r:dn H Z [] B):B=[]:=by have:=r.1;grind
theorem dn.get{xs ys:Zu}(r:dn H Z xs ys){j:Nat}{u:V}(h:xs[j]?=some u):∃v,ys[j]?=some v/\FR H Z u v:=by
 have w:=(ζe.1 h).1;have:j<ys.length:=by rw[<-r.1];omega
 exact⟨ys[j],ζd this,r.2 j u _ h (ζd this)⟩
theorem fR.get{xs ys:Zt}(r:fR H Z xs ys){j:Nat}{u:Zu}(h:xs[j]?=some u):∃v,ys[j]?=some v/\dn H Z u v:=by
 have w:=(ζe.1 h).1;have:j<ys.length:=by rw[<-r.1];omega
 exact⟨ys[j],ζd this,r.2 j u _ h (ζd this)⟩
def dn.append{a b c d:Zu}(h:dn H Z a b)(k:dn H Z c d):dn H Z (a++c) (b++d):=by refine⟨by simp[h.1,k.1],λj u v e f=>?_⟩;by_cases w:j<a.length;rw[getElem?_append_left w]at e;rw[getElem?_append_left (by rw[<-h.1];omega)]at f;exact h.2 j u v e f;rw[getElem?_append_right Za]at e;rw[getElem?_append_right (by rw[<-h.1];omega),<-h.1]at f;exact k.2 _ u v e f
def fR.append{a b c d:Zt}(h:fR H Z a b)(k:fR H Z c d):fR H Z (a++c) (b++d):=by refine⟨by simp[h.1,k.1],λj u v e f=>?_⟩;by_cases w:j<a.length;rw[getElem?_append_left w]at e;rw[getElem?_append_left (by rw[<-h.1];omega)]at f;exact h.2 j u v e f;rw[getElem?_append_right Za]at e;rw[getElem?_append_right (by rw[<-h.1];omega),<-h.1]at f;exact k.2 _ u v e f
def dn.take{a b:Zu}(h:dn H Z a b)(n:Nat):dn H Z (a.take n) (b.take n):=by
 refine⟨by simp[h.1],λj u v c d=>?_⟩;rw[getElem?_take]at c d;split at c;next w=>rw[if_pos w]at d;exact h.2 j u v c d
 grind
def dn.drop{a b:Zu}(h:dn H Z a b)(n:Nat):dn H Z (a.drop n) (b.drop n):=by refine⟨by simp[h.1],λj u v c d=>?_⟩;rw[getElem?_drop]at c d;exact h.2 _ u v c d
def fR.take{a b:Zt}(h:fR H Z a b)(n:Nat):fR H Z (a.take n) (b.take n):=by
 refine⟨by simp[h.1],λj u v c d=>?_⟩;rw[getElem?_take]at c d;split at c;next w=>rw[if_pos w]at d;exact h.2 j u v c d
 grind
def fR.drop{a b:Zt}(h:fR H Z a b)(n:Nat):fR H Z (a.drop n) (b.drop n):=by refine⟨by simp[h.1],λj u v c d=>?_⟩;rw[getElem?_drop]at c d;exact h.2 _ u v c d
theorem dn.set{a b:Zu}(h:dn H Z a b)(n:Nat){x y:V}(B:FR H Z x y):dn H Z (a.set n x) (b.set n y):=by refine⟨by simp[h.1],λj u v c d=>?_⟩;rw[getElem?_set]at c d;split at c;grind;rename_i e;rw[if_neg e]at d;exact h.2 j u v c d
theorem fR.set{a b:Zt}(h:fR H Z a b)(n:Nat){x y:Zu}(B:dn H Z x y):fR H Z (a.set n x) (b.set n y):=by refine⟨by simp[h.1],λj u v c d=>?_⟩;rw[getElem?_set]at c d;split at c;grind;rename_i e;rw[if_neg e]at d;exact h.2 j u v c d
def dn.same{l:Zu}(h:V.cG l=true):dn H Z l l:=⟨rfl,λj u v a b=>by rw[a]at b;cases b;exact .same u (gG.1 h j u a)⟩
def FR.good{x y:V}(r:FR H Z x y):x.good=true:=by induction r with|same x h=>omega|fsl es C id off D G hr O hc hv I=>refine jX.2 λi a z=>gG.2 λj u c=>?_;grind|fptr C id el off es D Q G hr S T U hv I=>refine gG.2 λj u c=>?_;grind|clo f a b B W z X hva J w L=>simp[V.good];refine⟨gG.2 λj u c=>?_,gG.2 λj u c=>?_⟩;grind;grind|agg a B z hva w=>refine gG.2 λj u c=>?_;grind|tup a B z hva w=>simp[V.good];refine gG.2 λj u c=>?_;grind
def FR.closed{x y:V}(r:FR H Z x y):x.closed=true:=V.jW r.good
def dn.good{xs ys:Zu}(r:dn H Z xs ys):V.cG xs=true:=gG.2 λj u a=>by have⟨v,_,h⟩:=r.get a;exact h.good
def fR.good{xs ys:Zt}(r:fR H Z xs ys):V.lT xs=true:=jX.2 λj u a=>by have⟨v,_,h⟩:=r.get a;exact h.good
def FR.bool{b:Zl}{y:V}(r:FR H Z (.bool b) y):y=.bool b:=by cases r;rfl
def FR.int{k:Zs}{n:Int}{y:V}(r:FR H Z (.int k n) y):y=.int k n:=by cases r;rfl
def FR.str{s:Zq}{y:V}(r:FR H Z (.str s) y):y=.str s:=by cases r;rfl
def FR.dF{y:V}(r:FR H Z .dF y):y=.dF:=by cases r;rfl
def FR.bL{y:V}(r:FR H Z .bL y):y=.bL:=by cases r;rfl
def FR.gN{y:V}(r:FR H Z .gN y):y=.gN:=by cases r;rfl
def FR.fZ{y:V}(r:FR H Z .fZ y):y=.fZ:=by cases r;rfl
def FR.q_{y:V}(r:FR H Z .q_ y):y=.q_:=by cases r;rfl
def FR.fmap{B:a_ (V×V)}{y:V}(r:FR H Z (.fmap B) y):y=.fmap B:=by cases r;rfl
def FR.h_{a:Zu}{y:V}(r:FR H Z (.agg a) y):∃a',y=.agg a'/\dn H Z a a':=by cases r with|same _ h=>exact⟨a,rfl,.same (by simpa[V.good]using h)⟩|agg _ a' u hva=>exact⟨a',rfl,u,hva⟩
def FR.pn{a:Zu}{y:V}(r:FR H Z (.tup a) y):∃a',y=.tup a'/\dn H Z a a':=by cases r with|same _ h=>exact⟨a,rfl,.same (by simpa[V.good]using h)⟩|tup _ a' u hva=>exact⟨a',rfl,u,hva⟩
def FR.jD{f:Zk}{a b:Zu}{y:V}(r:FR H Z (.clo f a b) y):∃a' B,y=.clo f a' B/\dn H Z a a'/\dn H Z b B:=by cases r with|same _ h=>simp[V.good]at h;exact⟨a,b,rfl,.same h.1,.same h.2⟩|clo _ _ _ a' B w z hva u=>exact⟨a',B,rfl,⟨w,hva⟩,⟨z,u⟩⟩
def FR.kX{es:Nat}{xs:Zt}{y:V}(r:FR H Z (.fsl es xs) y):y=.fsl es xs\/
 ∃id off ys,y=.hsl id es off xs.length/\Z id/\bD H id=some (es,ys)/\off+xs.length<=ys.length/\fR H Z xs ((ys.drop off).take xs.length):=by
 cases r with
 |same _ h=>grind|fsl _ _ id off ys z hr B hc hv=>
  refine .inr ⟨id,off,ys,rfl,z,hr,B,by simp;omega,λj u v a w=>?_⟩
  have C:=(ζe.1 a).1;rw[getElem?_take,if_pos C,getElem?_drop]at w;exact⟨hc j u v a w,λi s t D G=>hv j i u v s t a w D G⟩
def FR.I5{es:Nat}{xs:Zt}{id off:Nat}{ys:Zt}(B:Z id)(c:bD H id=some (es,ys))(D:off+xs.length<=ys.length)(h:fR H Z xs ((ys.drop off).take xs.length)):
 FR H Z (.fsl es xs) (.hsl id es off xs.length):=by
 have key:∀(i:Nat)a b,xs[i]?=some a->ys[off+i]?=some b->dn H Z a b:=λi a b w z=>by refine h.2 i a b w ?_;grind
 exact .fsl es xs id off ys B c D (λi a b w z=>(key i a b w z).1) (λi j a b u v w z d e=>(key i a b w z).2 j u v d e)
def FR.lz{xs:Zu}{y:V}(r:FR H Z (.fptr xs) y):y=.fptr xs\/
 ∃id el off es ys cs,y=.hptr id el off/\Z id/\bD H id=some (es,ys)/\ys[el]?=some cs/\off<=cs.length/\dn H Z xs (cs.drop off):=by
 cases r with
 |same _ h=>grind|fptr _ id el off es ys cs w hr z B D hv=>
  refine .inr ⟨id,el,off,es,ys,cs,rfl,w,hr,z,B,Ze,λj u v a C=>?_⟩
  grind
def FR.A_{xs:Zu}{id el off es:Nat}{ys:Zt}{cs:Zu}(B:Z id)(a:bD H id=some (es,ys))(D:ys[el]?=some cs)(G:off<=cs.length)(h:dn H Z xs (cs.drop off)):FR H Z (.fptr xs) (.hptr id el off):=.fptr xs id el off es ys cs B a D G (by have:=h.1;grind) (λj u v b c=>h.2 j u v b Zd)
def FR.cells{x y:V}(r:FR H Z x y):dn H Z x.cells y.cells:=by
 have one:∀{a b:V},FR H Z a b->dn H Z [a] [b]:=λh=>.cons h .nil
 cases r with
 |same _ h=>cases x<;>first|exact one (.same _ h)|(exact dn.same h)
 |fsl es z id off B C hr G hc hv=>exact one (.fsl es z id off B C hr G hc hv)|fptr z id el off es B I C hr J L O hv=>exact one (.fptr z id el off es B I C hr J L O hv)|clo f a b w Q u S hva D=>exact one (.clo f a b w Q u S hva D)|agg a w u hva=>exact⟨u,hva⟩|tup a w u hva=>exact one (.tup a w u hva)
def FR.one{x y:V}(r:FR H Z x y):y.one=x.one:=by cases r<;>rfl
def dn.one:∀{xs ys:Zu},dn H Z xs ys->ys.all V.one=xs.all V.one
 |[],ys,r=>by rw[r.c8]|x::xs,D,r=>by obtain⟨y,ys,rfl,h,B⟩:=r.inv;simp[h.one,B.one]
def pY:∀{l:Zu},V.cZ l=true↔∀(j:Nat)u,l[j]?=some u->u.scalar=true
 |[]=>by simp[V.cZ]|x::l=>by simp[V.cZ,pY];constructor;grind;intro h;exact⟨h 0 x rfl,λj u a=>h (j+1) u Zd⟩
def FR.scalar{x y:V}(r:FR H Z x y):(x.scalar=true->y=x)/\y.scalar=x.scalar:=by
 have key:∀(a w:Zu),a.length=w.length->(∀(j:Nat)u v,a[j]?=some u->w[j]?=some v->(u.scalar=true->v=u)/\v.scalar=u.scalar)->(V.cZ a=true->w=a)/\V.cZ w=V.cZ a:=by intro a w B G;have b:V.cZ a=true->w=a:=(by intro I;refine(List.ext_getElem B λj b C=>?_).symm;exact(((G j _ _ (ζd b) (ζd C)).1 (pY.1 I j _ (ζd b)))).symm);refine⟨b,?_⟩;cases I:V.cZ a with|true=>grind|false=>cases D:V.cZ w with|false=>rfl|true=>have:V.cZ a=true:=pY.2 λj u c=>(by have J:j<w.length:=Zd;have:=(G j u _ c (ζd J)).2;rw[<-this];exact pY.1 D j _ (ζd J));grind
 induction r with|same x h=>grind|fsl=>exact⟨λh=>by simp[V.scalar]at h,rfl⟩|fptr=>exact⟨λh=>by simp[V.scalar]at h,rfl⟩|clo=>exact⟨λh=>by simp[V.scalar]at h,rfl⟩|agg a w B hva z=>have⟨b,C⟩:=key a w B z;exact⟨λh=>by rw[b (by simpa[V.scalar]using h)],by simpa[V.scalar]using C⟩|tup a w B hva z=>have⟨b,C⟩:=key a w B z;exact⟨λh=>by rw[b (by simpa[V.scalar]using h)],by simpa[V.scalar]using C⟩
def dn.scalar{a a':Zu}(r:dn H Z a a'):(V.cZ a=true->a'=a)/\V.cZ a'=V.cZ a:=by have⟨b,u⟩:=FR.scalar (.tup a a' r.1 r.2);simp[V.scalar]at b u;grind
def qj:∀{l:Zu}{a:Zy},gY l=some a->V.cZ l=true
 |[],_,_=>rfl|x::l,a,h=>by unfold gY at h;split at h;grind;(next n r e=>cases e;have⟨b,B,_⟩:=ζf.1 h;simp[V.cZ,V.scalar];exact qj B);grind
end
mutual
def jl:∀{x:V},x.scalar=true->x.good=true
 |.bool _,_|.int ..,_|.str _,_|.gN,_|.fZ,_|.q_,_|.dF,_|.bL,_=>rfl|.agg cs,h=>by simp only[V.scalar]at h;simp only[V.good];exact o8 h|.tup cs,h=>by simp only[V.scalar]at h;simp only[V.good];exact o8 h|.fsl ..,h|.hsl ..,h|.fptr ..,h|.hptr ..,h|.clo ..,h|.yld _,h|.fmap _,h|.hmap _,h=>by simp[V.scalar]at h
def o8:∀{l:Zu},V.cZ l=true->V.cG l=true
 |[],_=>rfl|x::r,h=>by simp only[V.cZ,ζh]at h;simp only[V.cG,ζh];exact⟨jl h.1,o8 h.2⟩
end
section
variable{H H':bC}{Z Z':Nat->Prop}
def jO{f:V->bt V}:∀{xs ys:Zu},xs.length=ys.length->(∀(j:Nat)u v,xs[j]?=some u->ys[j]?=some v->f v=some u)->gO f ys=some xs
 |[],[],_,_=>rfl|[],y::ys,h,_=>Ze|x::xs,[],h,_=>Ze|x::xs,y::ys,h,B=>by simp[gO,B 0 x y rfl rfl,jO (xs:=xs) (ys:=ys) Zd λj u v a b=>B (j+1) u v Zd Zd]
def E9{f:V->bt V}:∀{xs ys:Zt},xs.length=ys.length->(∀(j:Nat)u v,xs[j]?=some u->ys[j]?=some v->gO f v=some u)->kG f ys=some xs
 |[],[],_,_=>rfl|[],y::ys,h,_=>Ze|x::xs,[],h,_=>Ze|x::xs,y::ys,h,B=>by simp[kG,B 0 x y rfl rfl,E9 (xs:=xs) (ys:=ys) Zd λj u v a b=>B (j+1) u v Zd Zd]
def oa:∀{l:Zu},V.gP l=true↔∀(j:Nat)u,l[j]?=some u->u.closed=true
 |[]=>by simp[V.gP]|x::l=>by simp[V.gP,oa];constructor;grind;intro h;exact⟨h 0 x rfl,λj u a=>h (j+1) u Zd⟩
def lq:∀{l:Zu}{n:Nat},V.kq n l=true↔∀(j:Nat)u,l[j]?=some u->u.lvl n=true
 |[],n=>by simp[V.kq]|x::l,n=>by simp[V.kq,lq];constructor;grind;intro h;exact⟨h 0 x rfl,λj u a=>h (j+1) u Zd⟩
def DP:∀{l:Zt}{n:Nat},V.oE n l=true↔∀(j:Nat)u,l[j]?=some u->V.kq n u=true
 |[],n=>by simp[V.oE]|x::l,n=>by simp[V.oE,DP];constructor;grind;intro h;exact⟨h 0 x rfl,λj u a=>h (j+1) u Zd⟩
def ei(n:Nat)(H:bC){x:V}(h:x.closed=true):borrow n H x=some x:=iP n H h
def FR.borrow{x y:V}(r:FR H Z x y):∀n,x.lvl n=true->borrow n H y=some x:=by
 induction r with
 |same x h=>exactλn _=>ei n H (V.jW h)|fsl es J id off U W hr X hc d L=>intro n z;cases n with|zero=>simp[V.lvl]at z|succ n=>unfold Go.VE.borrow;unfold bD at hr;simp only[V.closed,false_eq_true,if_false,hr,true_and,if_pos X,ζf];refine⟨J,E9 (by simp;omega) λj u v c B=>?_,rfl⟩;have Y:=(ζe.1 c).1;rw[getElem?_take,if_pos Y,getElem?_drop]at B;refine jO (hc j u v c B) λi s t Q e=>L j i u v s t c B Q e n (lq.1 (DP.1 z j u c) i s Q)
 |fptr J id el off es U cs W hr he ho hx d L=>intro n z;cases n with|zero=>simp[V.lvl]at z|succ n=>unfold Go.VE.borrow;unfold bD at hr;simp only[V.closed,false_eq_true,if_false,hr,he,if_pos ho,ζf];refine⟨J,jO Ze λj u v c B=>?_,rfl⟩;rw[getElem?_drop]at B;exact L j u v c B n (lq.1 z j u c)
 |clo f a b D S G T hva aa C I=>intro n z;cases n with|zero=>simp[V.lvl]at z|succ n=>simp[V.lvl]at z;by_cases w:(V.clo f D S).closed=true;rw[ei _ _ w];simp[V.closed]at w;have e1:D=a:=(by have:=jO G λj u v c d=>C j u v c d n (lq.1 z.1 j u c);have O:=jO rfl λj u v c d=>(by rw[c]at d;cases d;exact ei n H (oa.1 w.1 j u c));grind);have e2:S=b:=(by have:=jO T λj u v c d=>I j u v c d n (lq.1 z.2 j u c);have O:=jO rfl λj u v c d=>(by rw[c]at d;cases d;exact ei n H (oa.1 w.2 j u c));grind);simp_all;unfold Go.VE.borrow;rw[if_neg w];simp[jO G λj u v c d=>C j u v c d n (lq.1 z.1 j u c),jO T λj u v c d=>I j u v c d n (lq.1 z.2 j u c)]
 |agg a D G hva C=>intro n z;cases n with|zero=>simp[V.lvl]at z|succ n=>have g:=jO G λj u v c d=>C j u v c d n (lq.1 z j u c);by_cases w:(V.agg D).closed=true;rw[ei _ _ w];have O:=jO rfl λj u v c d=>(by rw[c]at d;cases d;exact ei n H (oa.1 w j u c));grind;unfold Go.VE.borrow;grind
 |tup a D G hva C=>intro n z;cases n with|zero=>simp[V.lvl]at z|succ n=>have g:=jO G λj u v c d=>C j u v c d n (lq.1 z j u c);by_cases w:(V.tup D).closed=true;rw[ei _ _ w];have O:=jO rfl λj u v c d=>(by rw[c]at d;cases d;exact ei n H (oa.1 w j u c));grind;unfold Go.VE.borrow;grind
def o_{f:V->Zv}{k:Nat}:∀{l:Zu},k∈c7 f l->∃(j:Nat)(u:V),l[j]?=some u/\k∈f u
 |[],h=>by simp[c7]at h|x::l,h=>by simp[c7]at h;rcases h with h|h;exact⟨0,x,rfl,h⟩;have⟨j,u,b,a⟩:=o_ h;exact⟨j+1,u,Zd,a⟩
structure Deep(H:bC)(Z:Nat->Prop):Prop where
 row:∀id es ys,Z id->bD H id=some (es,ys)->∀c∈ys,∀u∈c,∃x,FR H Z x u
def FR.cm(J:Deep H Z):∀(n:Nat){x y:V},FR H Z x y->∀k∈cm n H y,Z k
 |0,x,y,r,k,d=>by simp[Go.VE.cm]at d|n+1,x,y,r,k,d=>by
  unfold Go.VE.cm at d;split at d;simp_all;rename_i O;have G:∀(a a':Zu),dn H Z a a'->k∈c7 (Go.VE.cm n H) a'->Z k:=λa a' h d=>by have⟨j,u,e,z⟩:=o_ d;have T:j<a.length:=(by rw[h.1];grind);exact FR.cm J n (h.2 j _ u (ζd T) e) k z
  have row:∀(id:Nat)es w(l:Zu),Z id->bD H id=some (es,w)->(∀u∈l,∃c∈w,u∈c)->k∈c7 (Go.VE.cm n H) l->Z k:=λid es w l B hr L d=>by have⟨j,u,e,z⟩:=o_ d;have⟨c,g,C⟩:=L u (mem_of_getElem? e);have⟨x,Q⟩:=J.row id es w B hr c g u C;exact FR.cm J n Q k z
  cases r with
  |same _ h=>exact absurd (V.jW h) O|fsl es U id off w B hr L g hv=>simp only[mem_cons]at d;rcases d with rfl|d;exact B;rw[show(H[id]?).bind Ob.rows=some (es,w)from hr]at d;exact row id es w _ B hr (λu e=>by have⟨c,g,C⟩:=List.mem_flatten.1 e;exact⟨c,mem_of_mem_drop (List.mem_of_mem_take g),C⟩) d
  |fptr U id el off es w W B hr S ho Q hv=>simp only[mem_cons]at d;rcases d with rfl|d;exact B;rw[show(H[id]?).bind Ob.rows=some (es,w)from hr]at d;simp only[S,Option.getD_some]at d;exact row id es w _ B hr (λu e=>⟨W,mem_of_getElem? S,mem_of_mem_drop e⟩) d
  |clo f a b a' X D Y hva I=>simp at d;rcases d with d|d;exact G a a' ⟨D,hva⟩ d;exact G b X ⟨Y,I⟩ d
  |agg a a' D hva=>exact G a a' ⟨D,hva⟩ d|tup a a' D hva=>exact G a a' ⟨D,hva⟩ d
def dn.cut{cs ys r:Zu}{off n:Nat}(h:dn H Z cs ys)(a:cut cs off n=some r):∃B,Go.VE.cut ys off n=some B/\dn H Z r B:=by unfold Go.VE.cut at a⊢;have u:=(h.drop off).take n;dsimp only at a⊢;split at a;simp at a;subst a;exact⟨_,by rw[if_pos (by rw[<-u.1];omega)],u⟩;grind
def dn.mk{agg:Zl}{cs ys:Zu}{x:V}(h:dn H Z cs ys)(B:mk agg cs=some x):∃y,Go.VE.mk agg ys=some y/\FR H Z x y:=by unfold Go.VE.mk at B⊢;split at B;simp at B;subst B;exact⟨_,Zd,.agg _ _ h.1 h.2⟩;split at B;simp at B;obtain⟨y,ys,rfl,a,u⟩:=h.inv;rw[u.c8];grind;grind
def dn.fill:∀{pl:a_ (Nat×Nat)}{vs B cells cells' r:Zu},dn H Z cells cells'->dn H Z vs B->jV cells pl vs=some r->∃D,jV cells' pl B=some D/\dn H Z r D
 |[],vs,B,cells,cells',r,hc,hv,h=>by cases vs with|nil=>rw[hv.c8];simp[jV]at h⊢;grind|cons v vs=>simp[jV]at h
 |(off,size)::pl,vs,B,cells,cells',r,hc,hv,h=>by cases vs with|nil=>simp[jV]at h|cons v vs=>obtain⟨w,B,rfl,a,G⟩:=hv.inv;have k:=a.cells;simp only[jV]at h⊢;rw[<-k.1,<-hc.1];split at h;simp_all;rename_i e;rw[if_neg e];exact dn.fill (((hc.take off).append k).append (hc.drop _)) G h
def FR.tu{k:KT}{x y G J:V}{b:Zl}(B:FR H Z x G)(D:FR H Z y J)(h:oc k x y=some b):oc k G J=some b:=by unfold oc at h;split at h;rw[B.bL,D.bL];exact h;rw[D.bL];rcases B.kX with rfl|⟨_,_,_,rfl,_⟩<;>exact h;exact absurd B.closed (by simp[V.closed]);rw[B.gN,D.gN];exact h;rw[D.gN];rcases B.lz with rfl|⟨_,_,_,_,_,_,rfl,_⟩<;>exact h;exact absurd B.closed (by simp[V.closed]);rw[B.fZ,D.fZ];exact h;rw[D.fZ,B.fmap];exact h;exact absurd B.closed (by simp[V.closed]);grind
def FR.j8{a b a' B:Zu}{r:Zl}(D:dn H Z a a')(G:dn H Z b B)(h:j8 a b=some r):Go.VE.j8 a' B=some r:=by unfold Go.VE.j8 at h;split at h;rename_i u v c d;rw[D.scalar.1 (qj c),G.scalar.1 (qj d)];unfold Go.VE.j8;grind;grind
def yN{k:KT}{x y:V}{b:Zl}(h:oc k x y=some b):(y=.bL/\(x=.bL\/(∃es xs,x=.fsl es xs)\/∃id es off len,x=.hsl id es off len))\/
 (y=.gN/\(x=.gN\/(∃cs,x=.fptr cs)\/∃id el off,x=.hptr id el off))\/(y=.fZ/\(x=.fZ\/(∃B,x=.fmap B)\/∃id,x=.hmap id)):=by
 unfold oc at h
 grind
def FH{k:bt KT}{e:bt Nat}{op:BinOp}{x y:V}(D:(y=.bL/\(x=.bL\/(∃es xs,x=.fsl es xs)\/∃id es off len,x=.hsl id es off len))\/
 (y=.gN/\(x=.gN\/(∃cs,x=.fptr cs)\/∃id el off,x=.hptr id el off))\/(y=.fZ/\(x=.fZ\/(∃B,x=.fmap B)\/∃id,x=.hmap id))):
 kK k e op x y=(match k,op with
 |some k,.eql=>(oc k x y).map .bool|some k,.neq=>(oc k x y).map λt=>.bool !t|_,_=>none):=by
 rcases D with⟨rfl,rfl|⟨_,_,rfl⟩|⟨_,_,_,_,rfl⟩⟩|⟨rfl,rfl|⟨_,rfl⟩|⟨_,_,_,rfl⟩⟩|⟨rfl,rfl|⟨_,rfl⟩|⟨_,rfl⟩⟩<;>cases k<;>cases op<;>rfl
def Hf{k:bt KT}{e:bt Nat}{op:BinOp}{x y z:V}(h:kK k e op x y=some z):z.good=true:=by
 have w:∀{o:bt Zl}{z:V},o.map V.bool=some z->z.good=true:=λh=>by obtain⟨_,_,rfl⟩:=ζf.1 h;rfl
 have u:∀{o:bt Zl}{z:V},(o.map λt=>V.bool !t)=some z->z.good=true:=λh=>by obtain⟨_,_,rfl⟩:=ζf.1 h;rfl
 unfold kK at h;(repeat' split at h)<;>first|(simp at h;subst h;rfl)|exact w h|exact u h|simp at h
def FR.bin{k:bt KT}{e:bt Nat}{op:BinOp}{x y G J z:V}(B:FR H Z x G)(D:FR H Z y J)(h:kK k e op x y=some z):kK k e op G J=some z:=by
 have b:=h;unfold kK at h;split at h;rw[B.int,D.int];omega;rw[B.str,D.str];omega;rw[B.bool,D.bool];omega;obtain⟨L,rfl,w⟩:=B.h_;obtain⟨O,rfl,I⟩:=D.h_;split at h;split at h;next C=>obtain⟨r,a,rfl⟩:=ζf.1 h;simp[kK,<-w.1,C,FR.j8 w I a]
 grind;split at h;next C=>obtain⟨r,a,rfl⟩:=ζf.1 h;simp[kK,<-w.1,C,FR.j8 w I a]
 grind;grind;split at h;obtain⟨r,a,rfl⟩:=ζf.1 h;have u:=FR.tu B D a;rw[FH (yN u)];grind;obtain⟨r,a,rfl⟩:=ζf.1 h;have u:=FR.tu B D a;rw[FH (yN u)];grind;grind
def FR.slice{size:Nat}{x O z:V}{l h:Z6}(G:FR H Z x O)(D:gX size x l h=some z):∃U,gX size O l h=some U/\FR H Z z U:=by
 have J:∀{n w B:Nat},dW n l h=some (w,B)->B<=n/\w<=B:=by intro n w B e;unfold dW at e;grind
 unfold gX at D;split at D;rename_i es L;split at D;rename_i Q;obtain⟨⟨w,B⟩,C,rfl⟩:=ζf.1 D;have⟨T,Y⟩:=J C;rcases G.kX with rfl|⟨id,off,S,rfl,W,hr,hl,X⟩;refine⟨_,by simp[gX,if_pos Q,C],.same _ ?_⟩;have b:=G.good;refine jX.2 λj u a=>?_;rw[getElem?_drop,getElem?_take]at a;split at a;exact jX.1 b _ u a;grind;refine⟨.hsl id es (off+w) (B-w),by simp[gX,if_pos Q,C],?_⟩;have I:((L.take B).drop w).length=B-w:=Ze;rw[<-I];refine FR.I5 W hr Zd ?_;have:=(X.take B).drop w;have e:List.drop w (take B (take L.length (List.drop off S)))=take (B-w) (List.drop (off+w) S):=by rw[List.take_take,Nat.min_eq_left T,List.drop_take,drop_drop]
 grind;grind;exact absurd G.closed (by simp[V.closed]);rw[G.dF];obtain⟨_,C,rfl⟩:=ζf.1 D;exact⟨.dF,by simp[gX,C],.same _ rfl⟩;rw[G.bL];obtain⟨_,C,rfl⟩:=ζf.1 D;exact⟨.bL,by simp[gX,C],.same _ rfl⟩;grind
def dn.lp{G J:Zl}{O D:Zu}{r:Z6×Z6}(h:dn H Z O D)(B:lp G J O=some r):Go.VE.lp G J D=some r:=by unfold Go.VE.lp at B;split at B;rw[h.c8];exact B;obtain⟨_,_,rfl,a,u⟩:=h.inv;rw[a.int,u.c8];exact B;obtain⟨_,_,rfl,a,u⟩:=h.inv;rw[a.int,u.c8];exact B;obtain⟨_,_,rfl,a,u⟩:=h.inv;obtain⟨_,_,rfl,w,z⟩:=u.inv;rw[a.int,w.int,z.c8];exact B;grind
def dn.bO{N:Nat->Zk}{p:tQ}{xs ys:Zu}{z:V}(Y:∀zero pl,p=.build zero pl->V.cG zero=true)(h:dn H Z xs ys)(B:bO N p xs=some z):∃O,Go.VE.bO N p ys=some O/\FR H Z z O:=by
 unfold Go.VE.bO at B;split at B;obtain⟨y,_,rfl,f,w⟩:=h.inv;rw[w.c8];simp only[ζa]at B;subst B;exact⟨y,rfl,f⟩;rename_i t a b;obtain⟨w1,_,rfl,f,w⟩:=h.inv;obtain⟨w2,_,rfl,C,D⟩:=w.inv;obtain⟨w3,_,rfl,U,W⟩:=D.inv;rw[f.bool,W.c8];simp only[ζa]at B;subst B;refine⟨if t=true then w2 else w3,rfl,?_⟩;cases t;exact U;exact C;obtain⟨y,_,rfl,f,w⟩:=h.inv;rw[w.c8];unfold JE at B;split at B;exact absurd f.closed (by simp[V.closed]);simp only[ζa]at B;subst B;rcases f.lz with rfl|⟨_,_,_,_,_,_,rfl,_⟩;exact⟨_,rfl,f⟩;exact⟨_,rfl,f⟩;simp only[ζa]at B;subst B;obtain⟨_,_,rfl,_⟩:=f.jD;exact⟨_,rfl,f⟩;simp at B;obtain⟨_,_,rfl,f,w⟩:=h.inv;obtain⟨_,_,rfl,C,D⟩:=w.inv;rw[D.c8];exact⟨z,FR.bin f C B,.same _ (Hf B)⟩;obtain⟨_,_,rfl,f,w⟩:=h.inv;rw[f.bool,w.c8];simp only[ζa]at B;subst B;exact⟨_,rfl,.same _ rfl⟩;obtain⟨_,_,rfl,f,w⟩:=h.inv;rw[f.int,w.c8];simp only[ζa]at B;subst B;exact⟨_,rfl,.same _ rfl⟩;obtain⟨_,_,rfl,f,w⟩:=h.inv;rw[f.int,w.c8];simp only[ζa]at B;subst B;exact⟨_,rfl,.same _ rfl⟩;rename_i off p;obtain⟨y,_,rfl,f,w⟩:=h.inv;rw[w.c8];unfold kH at B;split at B;split at B;rename_i cs x;simp only[ζa]at B;subst B;rcases f.lz with rfl|⟨id,el,o,es,ys,ds,rfl,X,m,T,aa,S⟩;have q:=f.good;simp only[V.good]at q;exact⟨_,by simp only[Go.VE.bO,kH,if_pos x],.same _ (by simp only[V.good];exact wJ _ q)⟩;refine⟨.hptr id el (o+off),rfl,FR.A_ X m T (by have:=S.1;simp at this;omega) ?_⟩;have:=S.drop off;rw[drop_drop]at this;exact this;simp at B;exact absurd f.closed (by simp[V.closed]);simp at B;rename_i off size agg cs;obtain⟨y,_,rfl,f,w⟩:=h.inv;rw[w.c8];obtain⟨ab,rfl,g⟩:=f.h_;have⟨r,m,A⟩:=ζg.1 B;have⟨E,L,J⟩:=g.cut m;have⟨O,G,I⟩:=J.mk A;exact⟨O,by simp only[Go.VE.bO,L,ζb,G],I⟩;rename_i size s k n;obtain⟨y,_,rfl,f,w⟩:=h.inv;obtain⟨_,_,rfl,C,D⟩:=w.inv;rw[C.int,D.c8];unfold kE at B;split at B;simp at B;rename_i Q;split at B;rename_i es xs;split at B;rename_i T;obtain⟨c,g,rfl⟩:=ζf.1 B;rcases f.kX with rfl|⟨id,off,ys,rfl,X,m,hl,S⟩;have q:=f.good;simp only[V.good]at q;exact⟨_,by simp only[Go.VE.bO,kE,if_neg Q,if_pos T,g,map_some],.same _ (by simp only[V.good];exact jX.1 q _ _ g)⟩;have R:n.toNat<xs.length:=(ζe.1 g).1;have⟨d,hd,ad⟩:=S.get g;rw[getElem?_take,if_pos R,getElem?_drop]at hd;exact⟨.hptr id (off+n.toNat) 0,by simp only[Go.VE.bO,kE,if_neg Q,if_pos (And.intro T R)],FR.A_ X m hd Zc (by simpa using ad)⟩;simp at B;exact absurd f.closed (by simp[V.closed]);simp at B;rename_i len size s k n;obtain⟨y,_,rfl,f,w⟩:=h.inv;obtain⟨_,_,rfl,C,D⟩:=w.inv;rw[C.int,D.c8];unfold uX at B;split at B;rename_i Q;split at B;split at B;rename_i cs x;simp only[ζa]at B;subst B;rcases f.lz with rfl|⟨id,el,o,es,ys,ds,rfl,X,m,T,aa,S⟩;have q:=f.good;simp only[V.good]at q;exact⟨_,by simp only[Go.VE.bO,uX,if_pos Q,if_pos x],.same _ (by simp only[V.good];exact wJ _ q)⟩;refine⟨.hptr id el (o+n.toNat*size),by simp only[Go.VE.bO,uX,if_pos Q],FR.A_ X m T (by have:=S.1;simp at this;omega) ?_⟩;have:=S.drop (n.toNat*size);rw[drop_drop]at this;exact this;simp at B;exact absurd f.closed (by simp[V.closed]);simp at B;simp at B;rename_i s k n;obtain⟨y,_,rfl,f,w⟩:=h.inv;obtain⟨_,_,rfl,C,D⟩:=w.inv;rw[f.str,C.int,D.c8];split at B;next Q=>obtain⟨c,g,rfl⟩:=ζf.1 B;exact⟨_,by simp only[Go.VE.bO,if_pos Q,g,map_some],.same _ rfl⟩
 simp at B;rename_i len size agg cs k n;obtain⟨y,_,rfl,f,w⟩:=h.inv;obtain⟨_,_,rfl,C,D⟩:=w.inv;rw[C.int,D.c8];obtain⟨ab,rfl,g⟩:=f.h_;split at B;next Q=>have⟨r,m,A⟩:=ζg.1 B;have⟨E,L,J⟩:=g.cut m;have⟨O,G,I⟩:=J.mk A;exact⟨O,by simp only[Go.VE.bO,if_pos Q,L,ζb,G],I⟩
 simp at B;rename_i lo hi s bs;obtain⟨y,_,rfl,f,w⟩:=h.inv;rw[f.str];have⟨⟨l,h'⟩,F,B⟩:=ζg.1 B;obtain⟨⟨l2,ah⟩,ae,rfl⟩:=ζf.1 B;exact⟨_,by simp only[Go.VE.bO,w.lp F,ζb,ae,map_some],.same _ rfl⟩;rename_i size lo hi s bs;obtain⟨y,_,rfl,f,w⟩:=h.inv;have⟨⟨l,h'⟩,F,B⟩:=ζg.1 B;have⟨O,G,I⟩:=FR.slice f B;exact⟨O,by simp only[Go.VE.bO,w.lp F,ζb,G],I⟩;obtain⟨y,_,rfl,f,w⟩:=h.inv;obtain⟨_,_,rfl,C,D⟩:=w.inv;obtain⟨_,_,rfl,U,W⟩:=D.inv;rw[C.int,U.int,W.c8];split at B;rename_i g;simp only[ζa]at B;subst B;refine⟨.dF,?_,.same _ rfl⟩;simp only[ζh]at g;have:Jm y=true:=by have K:=g.1.1;unfold Jm at K;split at K;rcases f.kX with rfl|⟨_,_,_,rfl,_⟩<;>rfl;exact absurd f.closed (by simp[V.closed]);rw[f.dF];rfl;rw[f.bL];rfl;simp at K
 simp only[Go.VE.bO,this,g.1.2,g.2,Bool.and_self,if_true];simp at B;rename_i vs zero pl;obtain⟨r,m,rfl⟩:=ζf.1 B;have⟨E,L,J⟩:=dn.fill (dn.same (Y zero pl rfl)) h m;exact⟨.agg E,by simp only[Go.VE.bO,L,map_some],.agg _ _ J.1 J.2⟩;rename_i vs name k;simp only[ζa]at B;subst B;exact⟨_,rfl,.clo _ _ _ _ _ (h.take k).1 (h.drop k).1 (h.take k).2 (h.drop k).2⟩;rename_i i vs;obtain⟨y,_,rfl,f,w⟩:=h.inv;rw[w.c8];obtain⟨ws,rfl,hw⟩:=f.pn;have⟨O,G,I⟩:=hw.get B;exact⟨O,G,I⟩;obtain⟨y,_,rfl,f,w⟩:=h.inv;rw[f.str,w.c8];simp only[ζa]at B;subst B;exact⟨_,rfl,.same _ rfl⟩;obtain⟨y,_,rfl,f,w⟩:=h.inv;rw[w.c8];unfold lQ at B;split at B;simp only[ζa]at B;subst B;rcases f.kX with rfl|⟨_,_,_,rfl,_⟩<;>exact⟨_,rfl,.same _ rfl⟩;exact absurd f.closed (by simp[V.closed]);rw[f.dF];simp only[ζa]at B;subst B;exact⟨_,rfl,.same _ rfl⟩;rw[f.bL];simp only[ζa]at B;subst B;exact⟨_,rfl,.same _ rfl⟩;simp at B;obtain⟨y,_,rfl,f,w⟩:=h.inv;rw[w.c8];unfold Gq at B;split at B;rw[f.bL];simp only[ζa]at B;subst B;exact⟨_,rfl,.same _ rfl⟩;rw[f.dF];simp only[ζa]at B;subst B;exact⟨_,rfl,.same _ rfl⟩;simp at B;obtain⟨_,_,rfl,f,w⟩:=h.inv;obtain⟨_,_,rfl,C,D⟩:=w.inv;rw[f.int,C.int,D.c8];split at B;next e=>simp only[ζa]at B;subst B;exact⟨_,by simp only[Go.VE.bO,if_pos e],.same _ rfl⟩
 simp at B;obtain⟨_,_,rfl,f,w⟩:=h.inv;obtain⟨_,_,rfl,C,D⟩:=w.inv;obtain⟨_,_,rfl,U,W⟩:=D.inv;obtain⟨_,_,rfl,h7,h8⟩:=W.inv;rw[f.int,C.int,U.int,h7.int,h8.c8];split at B;next e=>simp only[ζa]at B;subst B;exact⟨_,by simp only[Go.VE.bO,if_pos e],.same _ rfl⟩
 simp at B;obtain⟨_,_,rfl,f,w⟩:=h.inv;obtain⟨_,_,rfl,C,D⟩:=w.inv;rw[f.int,C.int,D.c8];split at B;next e=>simp only[ζa]at B;subst B;exact⟨_,by simp only[Go.VE.bO,if_pos e],.same _ rfl⟩
 simp at B;obtain⟨_,_,rfl,f,w⟩:=h.inv;obtain⟨_,_,rfl,C,D⟩:=w.inv;rw[f.int,C.int,D.c8];split at B;rename_i e;simp only[ζa]at B;subst B;refine⟨_,by simp only[Go.VE.bO,if_pos e],.same _ ?_⟩;simp only[V.good];refine jX.2 λj u M=>?_;have:=List.eq_of_mem_replicate (mem_of_getElem? M);subst this;exact gG.2 λi v P=>jl (all_eq_true.1 e.2.2.2.2.2 v (mem_of_getElem? P));simp at B;split at B;rename_i g;obtain rfl:=h.scalar.1 g.1;split at B;rename_i xs af;split at B;rename_i hx;simp only[ζa]at B;subst B;refine⟨_,by simp only[Go.VE.bO,if_pos g,af,if_pos hx],.same _ ?_⟩;simp only[V.good];exact jX.2 λj u M=>gG.2 λi v P=>jl (all_eq_true.1 (all_eq_true.1 hx.2 u (mem_of_getElem? M)) v (mem_of_getElem? P));simp at B;simp at B;simp at B;simp only[ζa]at B;subst B;rw[h.c8];exact⟨_,rfl,.same _ rfl⟩;simp at B
end
def ri(p:Nat×Nat)(k:Fl)(es len:Nat):V:=
 match k with
 |.nil=>.bL|.emp=>.dF|_=>.hsl p.1 es p.2 len
abbrev Nu:=Nat->Nat×Nat
inductive di(ν:Nu)(m:Tb bN)(H:bC)(Z:Nat->Prop):SV->V->Prop
 |v(x y:V)(h:FR H Z x y):di ν m H Z (.v x) y|own(d:Nat)(y:V)(h:∀ob,bB m d=some ob->∃k es xs,ob=.sl k es xs/\y=ri (ν d) k es xs.length):di ν m H Z (.own d) y|ptr(d o:Nat)(y:V)(h:∀ob,bB m d=some ob->∃cs,ob=.box cs/\y=.hptr (ν d).1 0 o):di ν m H Z (.ptr d o) y|el(d i o:Nat)(y:V)(h:∀ob,bB m d=some ob->∃k es xs,ob=.sl k es xs/\cN k=true/\y=.hptr (ν d).1 ((ν d).2+i) o):di ν m H Z (.el d i o) y|mp(d:Nat)(y:V)(h:∀ob,bB m d=some ob->∃kvs,ob=.mp kvs/\y=.hmap (ν d).1):di ν m H Z (.mp d) y|clo(f:FuncId)(a b:List SV)(a' b':List V)(ha:a.length=a'.length)(hb:b.length=b'.length)
  (hva:∀(j:Nat)u v,a[j]?=some u->a'[j]?=some v->di ν m H Z u v) (hvb:∀(j:Nat)u v,b[j]?=some u->b'[j]?=some v->di ν m H Z u v):di ν m H Z (.clo f a b) (.clo f a' b')
 |tup(a:List SV)(a':List V)(ha:a.length=a'.length)(hva:∀(j:Nat)u v,a[j]?=some u->a'[j]?=some v->di ν m H Z u v):di ν m H Z (.tup a) (.tup a')|agg(a:List SV)(a':List V)(ha:a.length=a'.length)(hva:∀(j:Nat)u v,a[j]?=some u->a'[j]?=some v->di ν m H Z u v):di ν m H Z (.agg a) (.agg a')|yl(id:Nat):di ν m H Z (.yl id) (.yld id)
def b7(ν:Nu)(m:Tb bN)(H:bC)(Z:Nat->Prop)(xs:Zw)(ys:Zu):Prop:=xs.length=ys.length/\∀(j:Nat)u v,xs[j]?=some u->ys[j]?=some v->di ν m H Z u v
def cE:bN->Zl
 |.sl k _ _=>cN k|_=>true
def e9(ν:Nu)(m:Tb bN)(id:Nat):Prop:=∃d ob,bB m d=some ob/\cE ob=true/\(ν d).1=id
def tS(H:bC)(Z:Nat->Prop)(ys:Zt):Prop:=∀c∈ys,∀u∈c,∃x,FR H Z x u
def Cg(H:bC)(Z:Nat->Prop)(a b:a_ (V×V)):Prop:=a.length=b.length/\∀(j:Nat)u v,a[j]?=some u->b[j]?=some v->(u.1=v.1/\u.1.scalar=true)/\FR H Z u.2 v.2
def dV(ν:Nu)(m:Tb bN)(H:bC)(Z:Nat->Prop)(d:Nat):bN->Prop
 |.sl k es xs=>if cN k then∃ys,H[(ν d).1]?=some (.row es ys)/\(ν d).2+xs.length<=ys.length/\fR H Z xs ((ys.drop (ν d).2).take xs.length)/\tS H Z ys/\(k=.row->(ν d).2=0/\ys.length=xs.length)
  else xs=[]
 |.box cs=>∃es D,H[(ν d).1]?=some (.row es [D])/\b7 ν m H Z cs D/\D.all V.one=true|.mp G=>∃B,H[(ν d).1]?=some (.map B)/\Cg H Z G B
structure R(ν:Nu)(Z:Nat->Prop)(st:St)(F:Frame)(H:bC):Prop where
 slot:∀s sv,bB st.g s=some sv->di ν st.m H Z sv (get F s)
 obj:∀d ob,bB st.m d=some ob->dV ν st.m H Z d ob
 inj:∀d d' ob ob',bB st.m d=some ob->bB st.m d'=some ob'->cE ob=true->cE ob'=true->(ν d).1=(ν d').1->d=d'
 apart:∀d ob,bB st.m d=some ob->cE ob=true->¬Z (ν d).1
 zrow:∀id,Z id->(bD H id).isSome=true
 deep:Deep H Z
def sameShape:bN->bN->Prop
 |.sl k es xs,.sl G B D=>G=k/\B=es/\D.length=xs.length|.box _,.box _=>True|.mp _,.mp _=>True|_,_=>False
def sameShape.refl(o:bN):sameShape o o:=by cases o<;>simp[sameShape]
def sameShape.trans{a b c:bN}(h:sameShape a b)(k:sameShape b c):sameShape a c:=by cases a<;>cases b<;>cases c<;>simp[sameShape]at*<;>simp_all
structure Ev(Rv:Nat->Prop)(ν:Nu)(Z:Nat->Prop)(st:St)(H:bC)(ν':Nu)(Z':Nat->Prop)(st':St)(H':bC):Prop where
 len:H.length<=H'.length
 same:∀id,id<H.length->¬e9 ν st.m id->¬Z id->¬Rv id->H'[id]?=H[id]?
 rows:∀id,Z id->Z' id/\bD H' id=bD H id
 own:∀id,e9 ν' st'.m id->e9 ν st.m id\/Rv id\/H.length<=id
 frz:∀id,Z' id->Z id\/e9 ν st.m id\/Rv id\/H.length<=id
 pin:∀d∈st.pin,∀ob',bB st'.m d=some ob'->∃ob,bB st.m d=some ob/\ν' d=ν d/\sameShape ob ob'
 pins:st'.pin=st.pin
section
variable{Rv Rv':Nat->Prop}{ν ν' ν2:Nu}{Z Z' Z2:Nat->Prop}{st st' st2:St}{m m':Tb bN}{F F':Zo}{H H' H2:bC}
def Ev.refl:Ev Rv ν Z st H ν Z st H:=⟨le_refl _,λ_ _ _ _ _=>rfl,λ_ h=>⟨h,rfl⟩,λ_ h=>.inl h,λ_ h=>.inl h,λ_ _ u h=>⟨u,h,rfl,.refl _⟩,rfl⟩
def Ev.trans(a:Ev Rv ν Z st H ν' Z' st' H')(b:Ev Rv ν' Z' st' H' ν2 Z2 st2 H2):Ev Rv ν Z st H ν2 Z2 st2 H2 where
 len:=le_trans a.len b.len
 same:=λid B u C hr=>by rw[b.same id (Nat.lt_of_lt_of_le B a.len) (λh=>(a.own id h).elim u λh=>h.elim hr λh=>Za) (λh=>(a.frz id h).elim C λh=>h.elim u λh=>h.elim hr λh=>Za) hr,a.same id B u C hr]
 rows:=λid h=>⟨(b.rows id (a.rows id h).1).1,by rw[(b.rows id (a.rows id h).1).2,(a.rows id h).2]⟩
 own:=λid h=>by rcases b.own id h with h|h|h;exact a.own id h;grind;exact .inr (.inr (le_trans a.len h))
 frz:=λid h=>by rcases b.frz id h with h|h|h|h;exact a.frz id h;rcases a.own id h with h|h|h;grind;grind;grind;grind;exact .inr (.inr (.inr (le_trans a.len h)))
 pin:=λd D w h=>by have⟨z,c,I,G⟩:=b.pin d (by rw[a.pins];omega) w h;have⟨ob,k1,k2,k3⟩:=a.pin d D z c;exact⟨ob,k1,Ze,k3.trans G⟩
 pins:=by rw[b.pins,a.pins]
def Ev.weak(h:∀id,Rv id->Rv' id)(a:Ev Rv ν Z st H ν' Z' st' H'):Ev Rv' ν Z st H ν' Z' st' H':=⟨a.len,λid u w z hr=>a.same id u w z (λk=>hr (h id k)),a.rows,λid k=>(a.own id k).imp (λx=>x) (.imp (h id) (λx=>x)),λid k=>(a.frz id k).imp (λx=>x) (.imp (λx=>x) (.imp (h id) (λx=>x))),a.pin,a.pins⟩
def cI{α:Type}:∀(g:Tb α)(n:Nat)(v:α),bB (bR g n v) n=some v
 |[],n,v=>by simp[bR,bB]|(k,x)::r,n,v=>by simp[bR];split;(next h=>simp[bB,h]);rename_i h;simp[bB,h,cI r n v]
def dO{α:Type}:∀(g:Tb α){n k:Nat}(v:α),n≠k->bB (bR g n v) k=bB g k
 |[],n,k,v,h=>by simp[bR,bB,h]|(j,x)::r,n,k,v,h=>by simp[bR];split;(next a=>subst a;simp[bB,h]);simp[bB];split;rfl;exact dO r v h
def qV{α:Type}:∀{g:Tb α}{n:Nat}{v:α},bB g n=some v->bR g n v=g
 |[],n,v,h=>by cases h|(k,x)::r,n,v,h=>by simp[bB]at h;simp[bR];split;grind;rename_i e;rw[if_neg e]at h;rw[qV h]
def uz{α:Type}:∀(g:Tb α)(n:Nat),bB (dY n g) n=none
 |[],n=>rfl|(k,x)::r,n=>by simp[dY];split;exact uz r n;rename_i a;simp[bB];rw[if_neg a];exact uz r n
def uQ{α:Type}:∀(g:Tb α){n k:Nat},n≠k->bB (dY n g) k=bB g k
 |[],n,k,h=>rfl|(j,x)::r,n,k,h=>by simp[dY];split;(next a=>subst a;simp[bB];rw[if_neg h];exact uQ r h);simp[bB];split;rfl;exact uQ r h
def ni{α:Type}{g:Tb α}{n k:Nat}{v:α}(h:bB (dY n g) k=some v):n≠k/\bB g k=some v:=by by_cases e:n=k;subst e;rw[uz]at h;simp_all;rw[uQ g e]at h;grind
def nv{α:Type}{k:Nat}{v:α}:∀{ds:Zv}{g:Tb α},bB (oF ds g) k=some v->bB g k=some v
 |[],_,h=>h|d::ds,g,h=>(ni (nv h)).2
def pN{α:Type}{g:Tb α}{k:Nat}{v:α}:∀{l:Zv}{r:Tb α},kF g l=some r->bB r k=some v->bB g k=some v
 |[],r,h,B=>by simp[kF]at h;subst h;simp[bB]at B|n::l,r,h,B=>by simp[kF]at h;split at h;rename_i w t G D;simp at h;subst h;simp[bB]at B;split at B;grind;exact pN D B;grind
def xq{d:Nat}:∀{g:Tb SV}{s:Nat}{sv:SV},ua d g=false->bB g s=some sv->sv.c6 d=false
 |[],_,_,_,h=>by simp[bB]at h|(k,x)::r,s,sv,h,B=>by simp[ua]at h;simp[bB]at B;split at B;grind;exact xq h.2 B
def xw{d:Nat}:∀{g:Tb bN}{s:Nat}{ob:bN},rD d g=false->bB g s=some ob->ob.c6 d=false
 |[],_,_,_,h=>by simp[bB]at h|(k,x)::r,s,sv,h,B=>by simp[rD]at h;simp[bB]at B;split at B;grind;exact xw h.2 B
def sE{d:Nat}:∀{l:Zw}{j:Nat}{u:SV},SV.dD d l=false->l[j]?=some u->u.c6 d=false
 |[],_,_,_,h=>Ze|x::r,j,u,h,B=>by simp[SV.dD]at h;cases j with|zero=>grind|succ j=>exact sE h.2 (by simpa using B)
def qL{d:Nat}:∀{l:Zw}{j:Nat}{u:SV},l[j]?=some u->u.c6 d=true->SV.dD d l=true
 |[],_,_,h,_=>Ze|x::r,j,u,h,B=>by simp[SV.dD];cases j with|zero=>grind|succ j=>exact .inr (qL (j:=j) Zd B)
def di.mono{sv:SV}{y:V}(O:∀id,Z id->Z' id/\bD H' id=bD H id)
 (r:di ν m H Z sv y)(B:∀d,sv.c6 d=true->∀ob',bB m' d=some ob'->∃ob,bB m d=some ob/\ν' d=ν d/\sameShape ob ob'):di ν' m' H' Z' sv y:=by
 induction r with
 |v x y h=>exact .v x y (h.mono O)|own d y h=>
  refine .own d y λob' z=>?_
  have⟨ob,e,J,C⟩:=B d (by simp[SV.c6]) ob' z
  obtain⟨k,es,Q,rfl,rfl⟩:=h ob e;cases ob'<;>simp[sameShape]at C
  grind
 |ptr d o y h=>
  refine .ptr d o y λob' z=>?_
  have⟨ob,e,J,C⟩:=B d (by simp[SV.c6]) ob' z
  obtain⟨S,rfl,rfl⟩:=h ob e;cases ob'<;>simp[sameShape]at C
  grind
 |el d i o y h=>
  refine .el d i o y λob' z=>?_
  have⟨ob,e,J,C⟩:=B d (by simp[SV.c6]) ob' z
  obtain⟨k,es,Q,rfl,X,rfl⟩:=h ob e;cases ob'<;>simp[sameShape]at C
  grind
 |mp d y h=>
  refine .mp d y λob' z=>?_
  have⟨ob,e,J,C⟩:=B d (by simp[SV.c6]) ob' z
  obtain⟨S,rfl,rfl⟩:=h ob e;cases ob'<;>simp[sameShape]at C
  grind
 |clo f a b G T I U hva W w L=>exact .clo f a b G T I U (λj u v c g=>w j u v c g λd D=>B d (by simp[SV.c6,qL c D])) (λj u v c g=>L j u v c g λd D=>B d (by simp[SV.c6,qL c D]))|tup a G I hva w=>exact .tup a G I (λj u v c g=>w j u v c g λd D=>B d (by simp[SV.c6,qL c D]))|agg a G I hva w=>exact .agg a G I (λj u v c g=>w j u v c g λd D=>B d (by simp[SV.c6,qL c D]))|yl id=>exact .yl id
def b7.mono{sv:Zw}{y:Zu}(B:∀id,Z id->Z' id/\bD H' id=bD H id)(r:b7 ν m H Z sv y)(D:∀d,SV.dD d sv=true->∀ob',bB m' d=some ob'->∃ob,bB m d=some ob/\ν' d=ν d/\sameShape ob ob'):b7 ν' m' H' Z' sv y:=⟨r.1,λj u v a b=>(r.2 j u v a b).mono B λd w=>D d (qL a w)⟩
def b7.nil:b7 ν m H Z [] []:=⟨rfl,Zc⟩
def b7.cons{x:SV}{y:V}{xs:Zw}{ys:Zu}(h:di ν m H Z x y)(r:b7 ν m H Z xs ys):b7 ν m H Z (x::xs) (y::ys):=by refine⟨by simp[r.1],λj u v a b=>?_⟩;cases j with|zero=>grind|succ j=>exact r.2 j u v Zd Zd
def b7.inv{x:SV}{xs:Zw}{B:Zu}(r:b7 ν m H Z (x::xs) B):∃y ys,B=y::ys/\di ν m H Z x y/\b7 ν m H Z xs ys:=by cases B with|nil=>have:=r.1;grind|cons y ys=>refine⟨y,ys,rfl,r.2 0 x y rfl rfl,by have:=r.1;grind,λj u v a b=>r.2 (j+1) u v Zd Zd⟩
def b7.c8{B:Zu}(r:b7 ν m H Z [] B):B=[]:=by have:=r.1;grind
theorem b7.get{xs:Zw}{ys:Zu}(r:b7 ν m H Z xs ys){j:Nat}{u:SV}(h:xs[j]?=some u):∃v,ys[j]?=some v/\di ν m H Z u v:=by
 have w:=(ζe.1 h).1;have:j<ys.length:=by rw[<-r.1];omega
 exact⟨ys[j],ζd this,r.2 j u _ h (ζd this)⟩
def b7.append{a c:Zw}{b d:Zu}(h:b7 ν m H Z a b)(k:b7 ν m H Z c d):b7 ν m H Z (a++c) (b++d):=by refine⟨by simp[h.1,k.1],λj u v e f=>?_⟩;by_cases w:j<a.length;rw[getElem?_append_left w]at e;rw[getElem?_append_left (by rw[<-h.1];omega)]at f;exact h.2 j u v e f;rw[getElem?_append_right Za]at e;rw[getElem?_append_right (by rw[<-h.1];omega),<-h.1]at f;exact k.2 _ u v e f
def b7.take{a:Zw}{b:Zu}(h:b7 ν m H Z a b)(n:Nat):b7 ν m H Z (a.take n) (b.take n):=by
 refine⟨by simp[h.1],λj u v c d=>?_⟩;rw[getElem?_take]at c d;split at c;next w=>rw[if_pos w]at d;exact h.2 j u v c d
 grind
def b7.drop{a:Zw}{b:Zu}(h:b7 ν m H Z a b)(n:Nat):b7 ν m H Z (a.drop n) (b.drop n):=by refine⟨by simp[h.1],λj u v c d=>?_⟩;rw[getElem?_drop]at c d;exact h.2 _ u v c d
theorem di.fr{x y:V}(r:di ν m H Z (.v x) y):FR H Z x y:=by cases r;assumption
def b7.qm{xs ys:Zu}(r:dn H Z xs ys):b7 ν m H Z (xs.map .v) ys:=by refine⟨by simp[r.1],λj u v a b=>?_⟩;rw[List.getElem?_map,ζf]at a;obtain⟨x,w,rfl⟩:=a;exact .v x v (r.2 j x v w b)
def ta:∀{svs:Zw}{xs:Zu},dA svs=some xs->svs=xs.map .v
 |[],xs,h=>by simp[dA]at h;grind|x::r,xs,h=>by(cases x<;>simp only[dA]at h<;>first|grind|skip);obtain⟨t,B,rfl⟩:=ζf.1 h;rw[ta B];rfl
def b7.Sz{xs ys:Zu}(r:b7 ν m H Z (xs.map .v) ys):dn H Z xs ys:=by refine⟨by have:=r.1;grind,λj u v b a=>?_⟩;have:(xs.map SV.v)[j]?=some (.v u):=Zd;exact(r.2 j _ v this a).fr
end
section
variable{ν:Nu}{Z:Nat->Prop}{st:St}{m:Tb bN}{F:Zo}{H H1:bC}{N:Nat->Zk}
def oq(nm:Zk->bt Nat):Zr->bt Arg
 |.tmp t=>some (.s t)|.const v=>match ofValue 4 v with
  |some c=>if c.good then some (.k c)else none|none=>none
 |.func f=>(nm f).map .f|.global g=>match bV.gl g with
  |some cs=>if(V.fptr cs).good then some (.k (.fptr cs))else none|none=>none
def Cy{nm:Zk->bt Nat}(D:∀f s,nm f=some s->N s=f){g:Tb SV}(G:∀s sv,bB g s=some sv->di ν m H Z sv (get F s)){o:Zr}{x:Arg}{sv:SV}(B:oq nm o=some x)(a:pT N g x=some sv):
 ∃y,ev F o=some y/\di ν m H Z sv y:=by
 cases o with
 |tmp t=>simp[oq]at B;subst B;exact⟨get F t,rfl,G t sv a⟩|const w=>
  simp[oq]at B;split at B
  .rename_i c hc;split at B
   next u=>simp at B;subst B;simp[pT]at a;subst a;exact⟨c,hc,.v _ _ (.same _ u)⟩
   grind
  grind
 |func f=>simp[oq]at B;obtain⟨z,C,rfl⟩:=B;simp[pT]at a;subst a;exact⟨_,rfl,.v _ _ (by rw[D f z C];exact .same _ rfl)⟩|global i=>
  simp[oq]at B;split at B
  .rename_i c hc;split at B
   next u=>simp at B;subst B;simp[pT]at a;subst a;exact⟨.fptr c,by simp[ev,hc],.v _ _ (.same _ u)⟩
   grind
  grind
def nL{nm:Zk->bt Nat}(D:∀f s,nm f=some s->N s=f){g:Tb SV}(G:∀s sv,bB g s=some sv->di ν m H Z sv (get F s)):∀{os:a_ Zr}{xs:Z4}{svs:Zw},
 os.mapM (oq nm)=some xs->cn N g xs=some svs->∃ys,fu F os=some ys/\b7 ν m H Z svs ys
 |[],xs,svs,B,hv=>by simp at B;subst B;simp[cn]at hv;subst hv;exact⟨[],rfl,.nil⟩|o::os,xs,svs,B,hv=>by simp[ζg]at B;obtain⟨x,J,ys,O,rfl⟩:=B;simp[cn]at hv;split at hv;(next v C c w=>simp at hv;subst hv;have⟨a,B,z⟩:=Cy D G J c;have⟨az,b,u⟩:=nL D G O w;exact⟨a::az,by simp[fu,B,b],.cons z u⟩);grind
def di.jF{d:Nat}{y:V}(r:di ν m H Z (.own d) y){ob:bN}(h:bB m d=some ob):∃k es xs,ob=.sl k es xs/\y=ri (ν d) k es xs.length:=by cases r with|own _ _ u=>grind
def di.og{d o:Nat}{y:V}(r:di ν m H Z (.ptr d o) y){ob:bN}(h:bB m d=some ob):∃cs,ob=.box cs/\y=.hptr (ν d).1 0 o:=by cases r with|ptr _ _ _ u=>grind
def di.vW{d i o:Nat}{y:V}(r:di ν m H Z (.el d i o) y){ob:bN}(h:bB m d=some ob):∃k es xs,ob=.sl k es xs/\cN k=true/\y=.hptr (ν d).1 ((ν d).2+i) o:=by cases r with|el _ _ _ _ u=>grind
def di.BH{d:Nat}{y:V}(r:di ν m H Z (.mp d) y){ob:bN}(h:bB m d=some ob):∃B,ob=.mp B/\y=.hmap (ν d).1:=by cases r with|mp _ _ u=>grind
def di.jD{f:Zk}{a b:Zw}{y:V}(r:di ν m H Z (.clo f a b) y):∃a' B,y=.clo f a' B/\b7 ν m H Z a a'/\b7 ν m H Z b B:=by cases r with|clo _ _ _ a' B w z hva u=>exact⟨a',B,rfl,⟨w,hva⟩,⟨z,u⟩⟩
def di.pn{a:Zw}{y:V}(r:di ν m H Z (.tup a) y):∃a',y=.tup a'/\b7 ν m H Z a a':=by cases r with|tup _ a' u hva=>exact⟨a',rfl,u,hva⟩
def di.h_{a:Zw}{y:V}(r:di ν m H Z (.agg a) y):∃a',y=.agg a'/\b7 ν m H Z a a':=by cases r with|agg _ a' u hva=>exact⟨a',rfl,u,hva⟩
def qJ{p:Nat×Nat}{k:Fl}{es len:Nat}(h:cN k=true):ri p k es len=.hsl p.1 es p.2 len:=by cases k<;>simp[cN]at h<;>rfl
def kR{x:SV}{y:V}(h:lJ m x=true)(r:di ν m H Z x y):y.cells=[y]/\y.one=true:=by cases x with|v x=>simp[lJ]at h|own d=>have⟨ob,u⟩:=isSome_iff_exists.1 h;obtain⟨k,es,w,rfl,rfl⟩:=r.jF u;cases k<;>exact⟨rfl,rfl⟩|ptr d o=>have⟨ob,u⟩:=isSome_iff_exists.1 h;obtain⟨B,rfl,rfl⟩:=r.og u;exact⟨rfl,rfl⟩|el d i o=>have⟨ob,u⟩:=isSome_iff_exists.1 h;obtain⟨k,es,w,rfl,_,rfl⟩:=r.vW u;exact⟨rfl,rfl⟩|mp d=>have⟨ob,u⟩:=isSome_iff_exists.1 h;obtain⟨z,rfl,rfl⟩:=r.BH u;exact⟨rfl,rfl⟩|clo f a b=>obtain⟨C,D,rfl,_⟩:=r.jD;exact⟨rfl,rfl⟩|tup l=>simp[lJ]at h|agg l=>simp[lJ]at h|yl id=>simp[lJ]at h
def K7{x:SV}{y:V}(h:wO m x=true)(r:di ν m H Z x y):y.one=true:=by
 cases x with
 |v x=>
  have u:=r.fr;have w:x.one=true:=h;have c:=u.cells;have e:x.cells=[x]:=by cases x<;>first|rfl|(simp[V.one]at w)
  rw[e]at c;have g:=c.one;have z:=c.1
  cases y with
  |agg l=>cases u with|same _ _=>grind|agg _ _ _ _=>simp[V.one]at w
  |tup l=>cases u with|same _ _=>grind|tup _ _ _ _=>simp[V.one]at w
  |_=>rfl
 |own d=>exact(kR (x:=.own d) h r).2|ptr d o=>exact(kR (x:=.ptr d o) h r).2|el d i o=>exact(kR (x:=.el d i o) h r).2|mp d=>exact(kR (x:=.mp d) h r).2|clo f a b=>exact(kR (x:=.clo f a b) h r).2|tup l=>simp[wO,lJ]at h|agg l=>simp[wO,lJ]at h|yl id=>simp[wO,lJ]at h
def DK{l:Zw}{ys:Zu}(h:l.all (wO m)=true)(r:b7 ν m H Z l ys):ys.all V.one=true:=by
 refine all_eq_true.2 λy w=>?_;have⟨j,z,e⟩:=List.mem_iff_getElem.1 w;have u:j<l.length:=by rw[r.1];omega
 exact K7 (all_eq_true.1 h _ (List.getElem_mem u)) (r.2 j _ y (ζd u) Zd)
def Kk{x:SV}{y:V}{c:Zw}(h:Fy m x=some c)(r:di ν m H Z x y):b7 ν m H Z c y.cells:=by
 unfold Fy at h;split at h;cases h;exact b7.qm r.fr.cells;cases h;obtain⟨z,rfl,u⟩:=r.h_;exact u;split at h;next w=>cases h;rw[(kR w r).1];exact .cons r .nil
 simp_all
def FQ:∀{pl:a_ (Nat×Nat)}{vs cells l:Zw}{B cells':Zu},b7 ν m H Z cells cells'->b7 ν m H Z vs B->wV m cells pl vs=some l->∃D,jV cells' pl B=some D/\b7 ν m H Z l D
 |[],[],cells,l,B,cells',hc,hv,h=>by rw[hv.c8];simp[wV]at h;subst h;exact⟨_,rfl,hc⟩|[],_::_,_,_,_,_,_,_,h=>by simp[wV]at h|_::_,[],_,_,_,_,_,_,h=>by simp[wV]at h|(off,size)::pl,v::vs,cells,l,B,cells',hc,hv,h=>by obtain⟨w,G,rfl,b,J⟩:=hv.inv;simp only[wV]at h;split at h;rename_i c z;have a:=Kk z b;split at h;have⟨D,e1,e2⟩:=FQ (cells':=cells'.take off++w.cells++cells'.drop (off+w.cells.length)) (by rw[<-a.1];exact((hc.take off).append a).append (hc.drop _)) J h;have u:w.cells.length=size/\off+w.cells.length<=cells'.length:=(by rw[<-a.1,<-hc.1];omega);simp[jV];grind;simp_all;simp_all
def Gs{size o:Nat}{agg:Zl}{cs:Zw}{B:Zu}{sv:SV}(h:b7 ν m H Z cs B)(D:uf size agg ((cs.drop o).take size)=some sv):∃y,(cut B o size).bind (mk agg)=some y/\di ν m H Z sv y:=by
 have u:=(h.drop o).take size;unfold uf at D;split at D;have a:cut B o size=some ((B.drop o).take size):=by unfold cut;rw[if_pos (by rw[<-u.1];omega)]
 rw[a];split at D;split at D;rename_i I w;cases D;have z:=by rw[ta w]at u;exact u.Sz
 exact⟨_,by unfold mk;grind,.v _ _ (.agg _ _ z.1 z.2)⟩;cases D;exact⟨_,by unfold mk;grind,.agg _ _ u.1 u.2⟩;split at D;next x w=>simp at D;subst D;rw[w]at u;have⟨y,J,e,C,G⟩:=u.inv;rw[e,G.c8];exact⟨y,by unfold mk;grind,C⟩
 grind;grind
def NN{p:tQ}{svs:Zw}{ys:Zu}{sv:SV}(j:∀zero pl,p=.build zero pl->V.cG zero=true)(n:∀d ob,bB m d=some ob->dV ν m H Z d ob)(h:b7 ν m H Z svs ys)(B:zu N m p svs=some sv):∃y,bO N p ys=some y/\di ν m H Z sv y:=by
 unfold zu at B;split at B;obtain⟨y,_,rfl,c,w⟩:=h.inv;rw[w.c8];simp at B;subst B;exact⟨y,rfl,c⟩;obtain⟨y,_,rfl,c,w⟩:=h.inv;rw[w.c8];split at B;next L=>simp at B;subst B;have⟨ob,u⟩:=isSome_iff_exists.1 L;obtain⟨cs,rfl,rfl⟩:=c.og u;exact⟨_,rfl,c⟩
 grind;obtain⟨y,_,rfl,c,w⟩:=h.inv;rw[w.c8];split at B;next L=>simp at B;subst B;have⟨ob,u⟩:=isSome_iff_exists.1 L;obtain⟨k,es,S,rfl,f,rfl⟩:=c.vW u;exact⟨_,rfl,c⟩
 grind;rename_i t a b;obtain⟨J,_,rfl,c,w⟩:=h.inv;obtain⟨T,_,rfl,G,D⟩:=w.inv;obtain⟨o,_,rfl,K,q⟩:=D.inv;rw[c.fr.bool,q.c8];simp at B;refine⟨if t=true then T else o,rfl,?_⟩;grind
 .obtain⟨J,_,rfl,c,w⟩:=h.inv;obtain⟨T,_,rfl,G,D⟩:=w.inv;rw[G.fr.bL,D.c8];split at B
  .rename_i k es S u;split at B;simp_all;simp at B;subst B;obtain⟨U,O,Q,e,rfl⟩:=c.jF u;cases e;cases k<;>first|grind|exact⟨_,rfl,.v _ _ (.same _ rfl)⟩
  grind
 .obtain⟨J,_,rfl,c,w⟩:=h.inv;obtain⟨T,_,rfl,G,D⟩:=w.inv;rw[G.fr.bL,D.c8];split at B
  .rename_i k es S u;split at B;simp_all;simp at B;subst B;obtain⟨U,O,Q,e,rfl⟩:=c.jF u;cases e;cases k<;>first|grind|exact⟨_,rfl,.v _ _ (.same _ rfl)⟩
  grind
 obtain⟨y,_,rfl,c,w⟩:=h.inv;rw[w.c8];split at B;next L=>simp at B;subst B;have⟨ob,u⟩:=isSome_iff_exists.1 L;obtain⟨cs,rfl,rfl⟩:=c.og u;exact⟨_,rfl,.ptr _ _ _ λI C=>Zd⟩
 grind;obtain⟨y,_,rfl,c,w⟩:=h.inv;rw[w.c8];split at B;next L=>simp at B;subst B;have⟨ob,u⟩:=isSome_iff_exists.1 L;obtain⟨k,es,S,rfl,f,rfl⟩:=c.vW u;exact⟨_,rfl,.el _ _ _ _ λI C=>by rw[u]at C;cases C;exact⟨_,_,_,rfl,f,rfl⟩⟩
 simp at B;obtain⟨J,_,rfl,c,w⟩:=h.inv;obtain⟨T,_,rfl,G,D⟩:=w.inv;rw[G.fr.int,D.c8];split at B;rename_i k es S u;split at B;rename_i g;obtain⟨f,rfl,r,W⟩:=g;simp at B;subst B;obtain⟨U,O,Q,e,rfl⟩:=c.jF u;cases e;rw[qJ f];refine⟨.hptr (ν _).1 ((ν _).2+_) 0,by simp only[bO,kE,if_neg (Int.not_lt.2 r),true_and,if_pos W];rfl,.el _ _ _ _ λI C=>?_⟩;rw[u]at C;cases C;exact⟨_,_,_,rfl,f,rfl⟩;simp at B;simp at B;obtain⟨J,_,rfl,c,w⟩:=h.inv;obtain⟨T,_,rfl,G,D⟩:=w.inv;rw[G.fr.int,D.c8];split at B;rename_i g;simp at B;subst B;have⟨ob,u⟩:=isSome_iff_exists.1 g.2.2;obtain⟨cs,rfl,rfl⟩:=c.og u;refine⟨.hptr (ν _).1 0 (_+_),by simp only[bO,uX,if_pos (And.intro g.1 g.2.1)];rfl,.ptr _ _ _ λI C=>?_⟩;rw[u]at C;cases C;exact⟨_,rfl,rfl⟩;simp at B;obtain⟨J,_,rfl,c,w⟩:=h.inv;obtain⟨T,_,rfl,G,D⟩:=w.inv;rw[G.fr.int,D.c8];split at B;rename_i g;simp at B;subst B;have⟨ob,u⟩:=isSome_iff_exists.1 g.2.2;obtain⟨k,es,S,rfl,f,rfl⟩:=c.vW u;refine⟨.hptr (ν _).1 (_+_) (_+_),by simp only[bO,uX,if_pos (And.intro g.1 g.2.1)];rfl,.el _ _ _ _ λI C=>?_⟩;rw[u]at C;cases C;exact⟨_,_,_,rfl,f,rfl⟩;simp at B;obtain⟨J,_,rfl,c,w⟩:=h.inv;rw[w.c8];split at B;rename_i k es S u;simp at B;subst B;obtain⟨U,O,Q,e,rfl⟩:=c.jF u;cases e;have:=n _ _ u;simp[dV]at this;cases f:k<;>simp[f,cN]at this⊢;subst this;exact⟨_,rfl,.v _ _ (.same _ rfl)⟩;subst this;exact⟨_,rfl,.v _ _ (.same _ rfl)⟩;exact⟨_,rfl,.v _ _ (.same _ rfl)⟩;exact⟨_,rfl,.v _ _ (.same _ rfl)⟩;simp at B;rename_i vs i k;simp at B;subst B;exact⟨_,rfl,.clo _ _ _ _ _ (h.take k).1 (h.drop k).1 (h.take k).2 (h.drop k).2⟩;obtain⟨J,_,rfl,c,w⟩:=h.inv;rw[w.c8];obtain⟨s,rfl,X⟩:=c.pn;have⟨z,v,Y⟩:=X.get B;exact⟨z,v,Y⟩;rename_i vs zero pl;obtain⟨l,x,rfl⟩:=ζf.1 B;have⟨A,c,w⟩:=FQ (b7.qm (dn.same (j zero pl rfl))) h x;exact⟨.agg A,by simp[Go.VE.bO,c],.agg _ _ w.1 w.2⟩;obtain⟨J,_,rfl,c,w⟩:=h.inv;rw[w.c8];obtain⟨s,rfl,X⟩:=c.h_;have⟨y,E,F⟩:=Gs X B;exact⟨y,by simp[Go.VE.bO];exact E,F⟩;grind
def EU{p:tQ}{svs:Zw}{ys:Zu}{sv:SV}(D:∀zero pl,p=.build zero pl->V.cG zero=true)(G:∀d ob,bB m d=some ob->dV ν m H Z d ob)(h:b7 ν m H Z svs ys)(B:jJ N m p svs=some sv):
 ∃y,bO N p ys=some y/\di ν m H Z sv y:=by
 unfold jJ at B;split at B
 next J u=>obtain⟨z,w,rfl⟩:=ζf.1 B;rw[ta u]at h;have⟨C,a,I⟩:=dn.bO D h.Sz w;exact⟨C,a,.v _ _ I⟩
 exact NN D G h B
def b7.dA{svs:Zw}{xs ys:Zu}(h:b7 ν m H Z svs ys)(B:dA svs=some xs):dn H Z xs ys:=by rw[ta B]at h;exact h.Sz
def AU{k:V}:∀{a b:a_ (V×V)}{i:Nat},Cg H Z a b->(hG k a i=some none->hG k b i=some none)/\∀j v,hG k a i=some (some (j,v))->∃B,hG k b i=some (some (j,B))/\FR H Z v B
 |[],b,i,h=>by have:b=[]:=length_eq_zero_iff.1 (by have:=h.1;grind);subst this;exact⟨λh=>h,λj v h=>by simp[hG]at h⟩|(k1,x)::a,[],i,h=>by have:=h.1;grind|(k1,x)::a,(k2,y)::b,i,h=>by have⟨⟨e,_⟩,z⟩:=h.2 0 _ _ rfl rfl;subst e;have w:Cg H Z a b:=⟨by have:=h.1;grind,λj u v c d=>h.2 (j+1) u v Zd Zd⟩;have C:=AU (i:=i+1) (k:=k) w;simp only[hG];grind
def tU{kk:vN}{k:V}(h:o4 kk k=true):k.scalar=true:=by unfold o4 at h;split at h;rfl;rfl;simp at h;have⟨a,u⟩:=isSome_iff_exists.1 h.2;exact qj u;grind
def uG{r:HP}{svs:Zw}{ys:Zu}{sv:SV}(R:∀s a,r≠.loadF s a)(Y:∀kk z ok,r=.lookup kk z ok->z.good=true)(h:b7 ν m H Z svs ys)(q:∀d,SV.dD d svs=true->∀ob,bB m d=some ob->dV ν m H Z d ob)(B:oJ m r svs=some sv):
 ∃y,dZ H r ys=some y/\di ν m H Z sv y:=by
 unfold oJ at B;split at B
 .
  obtain⟨X,_,rfl,b,L⟩:=h.inv;rw[L.c8];split at B
  .rename_i cs u;obtain⟨an,e,rfl⟩:=b.og u;obtain⟨es,ao,f,n,_⟩:=q _ (by simp[SV.dD,SV.c6]) _ u
   obtain⟨y,hy,af⟩:=Gs n B;refine⟨y,?_,af⟩;simp[dZ,dX,f,Ob.rows,getElem?_cons_zero];omega
  grind
 .
  obtain⟨X,_,rfl,b,L⟩:=h.inv;rw[L.c8];split at B
  .rename_i k es xs u;split at B
   .rename_i cs aa;obtain⟨z,O,rfl⟩:=ζf.1 B;obtain⟨k1,ap,aq,e,g,rfl⟩:=b.vW u;cases e;have:=q _ (by simp[SV.dD,SV.c6]) _ u
    simp[dV,g]at this;obtain⟨rs,f,hl,C,_⟩:=this;obtain⟨c,n,ah⟩:=C.get aa;have hj:=(ζe.1 aa).1;rw[getElem?_take,if_pos hj,getElem?_drop]at n;obtain⟨r1,w,D⟩:=ζg.1 O;obtain⟨r2,S,G⟩:=ah.cut w;obtain⟨o,T,F⟩:=G.mk D;refine⟨o,?_,.v _ _ F⟩;simp[dZ,dX,f,Ob.rows,n,S,T]
   grind
  grind
 .
  rename_i size agg p;obtain⟨X,_,rfl,b,L⟩:=h.inv;rw[L.c8];obtain⟨z,O,rfl⟩:=ζf.1 B;obtain⟨r1,w,D⟩:=ζg.1 O;unfold dX at w;split at w
  .rename_i cs;rcases b.fr.lz with rfl|⟨id,el,off,es,ys,ai,rfl,F,f,he,ar,C⟩
   .refine⟨z,by simp[dZ,dX,w,D],.v _ _ (.same _ ?_)⟩
    have aj:=by have:=b.fr.good;simpa[V.good]using this
    obtain⟨r',au,G⟩:=(dn.same (H:=H) (Z:=Z) aj).cut w;obtain⟨o,T,I⟩:=G.mk D;exact I.good
   obtain⟨r2,S,G⟩:=C.cut w;obtain⟨o,T,I⟩:=G.mk D;refine⟨o,?_,.v _ _ I⟩;unfold bD at f;simp[dZ,dX,f,he];have:cut ai off size=some r2:=by unfold cut at S⊢;grind
   grind
  .grind
  grind
 .
  rename_i kk z ok d k;obtain⟨X,_,rfl,b,L⟩:=h.inv;obtain⟨K,_,rfl,t,A⟩:=L.inv;rw[A.c8];split at B
  .rename_i U u;split at B
   .rename_i g;obtain⟨_,e,rfl⟩:=b.BH u;have W:=t.fr.scalar.1 (tU g);subst W;obtain⟨am,f,ak⟩:=q _ (by simp[SV.dD,SV.c6]) _ u
    obtain⟨f1,f2⟩:=AU ak;split at B
    .rename_i j v C;obtain⟨M,al,N⟩:=f2 j v C;simp at B;subst B;refine⟨if ok=true then .tup [M,.bool true]else M,by simp[dZ,me,f,g,al],?_⟩
     cases ok
     .exact .v _ _ N
     refine .v _ _ (.tup _ _ rfl (dn.cons N (.cons (.same _ rfl) .nil)).2)
    .rename_i C;simp at B;subst B;refine⟨if ok=true then .tup [z,.bool false]else z,by simp[dZ,me,f,g,f1 C],?_⟩
     have O:=Y kk z ok rfl;cases ok
     .exact .v _ _ (.same _ O)
     exact .v _ _ (.same _ (by simp[V.good,V.cG,O]))
    grind
   grind
  grind
 .
  rename_i kk z ok p k;obtain⟨X,_,rfl,b,L⟩:=h.inv;obtain⟨K,_,rfl,t,A⟩:=L.inv;rw[A.c8];obtain⟨x,J,rfl⟩:=ζf.1 B;simp[dZ]at J;have O:=Y kk z ok rfl;split at J
  .rename_i U Q;have key:me H X=some U/\V.rG U=true:=by
    unfold me at Q;split at Q
    .rw[b.fr.fZ];simp at Q;subst Q;exact⟨rfl,rfl⟩
    .rw[b.fr.fmap];simp at Q;subst Q;exact⟨rfl,by have:=b.fr.good;simpa[V.good]using this⟩
    .simp at Q
    simp at Q
   split at J
   .rename_i g;have W:=t.fr.scalar.1 (tU g);subst W;split at J
    .rename_i j v C;simp at J;subst J;have P:=by
      have:∀{l:a_ (V×V)}{i:Nat},V.rG l=true->hG K l i=some (some (j,v))->v.good=true:=by intro l;induction l with|nil=>intro i _ h;simp[hG]at h|cons p l ih=>intro i E h;simp[V.rG]at E;simp[hG]at h;split at h;obtain⟨_,rfl⟩:=h;exact E.1.2;exact ih E.2 h;simp at h
      exact this key.2 C
     refine⟨if ok=true then .tup [v,.bool true]else v,by simp[dZ,key.1,g,C],?_⟩
     cases ok
     .exact .v _ _ (.same _ P)
     exact .v _ _ (.same _ (by simp[V.good,V.cG,P]))
    .rename_i C;simp at J;subst J;refine⟨if ok=true then .tup [z,.bool false]else z,by simp[dZ,key.1,g,C],?_⟩
     cases ok
     .exact .v _ _ (.same _ O)
     exact .v _ _ (.same _ (by simp[V.good,V.cG,O]))
    simp at J
   simp at J
  simp at J
 .exact absurd rfl (R _ _)
 grind
end
section
variable{Rv:Nat->Prop}{ν ν':Nu}{Z Z':Nat->Prop}{st st':St}{m m':Tb bN}{F F':Zo}{H H':bC}
def R.lt(r:R ν Z st F H){id:Nat}(h:e9 ν st.m id):id<H.length:=by obtain⟨d,ob,b,u,rfl⟩:=h;have:=r.obj d ob b;cases ob with|sl k es C=>simp only[cE]at u;simp only[dV,u,if_true]at this;have⟨D,a,_⟩:=this;exact(ζe.1 a).1|box G=>have⟨es,z,a,_⟩:=this;exact(ζe.1 a).1|mp B=>have⟨w,a,_⟩:=this;exact(ζe.1 a).1
def R.uD(r:R ν Z st F H){id:Nat}(h:Z id):id<H.length:=by have:=r.zrow id h;unfold bD at this;have⟨x,u⟩:=isSome_iff_exists.1 this;have⟨ob,a,_⟩:=ζg.1 u;exact(ζe.1 a).1
def Deep.mono(d:Deep H Z)(h:∀id,Z id->bD H' id=bD H id):Deep H' Z where
 row:=λid es z w hr c hc u hu=>by rw[h id w]at hr;have⟨x,B⟩:=d.row id es z w hr c hc u hu;exact⟨x,B.mono λk a=>⟨a,h k a⟩⟩
def tS.mono{ys:Zt}(h:∀id,Z id->Z' id/\bD H' id=bD H id)(s:tS H Z ys):tS H' Z' ys:=λc a u b=>by have⟨x,w⟩:=s c a u b;exact⟨x,w.mono h⟩
def Cg.mono{a b:a_ (V×V)}(h:∀id,Z id->Z' id/\bD H' id=bD H id)(s:Cg H Z a b):Cg H' Z' a b:=⟨s.1,λj u v c d=>⟨(s.2 j u v c d).1,(s.2 j u v c d).2.mono h⟩⟩
def dV.mono{d J:Nat}{ob:bN}(B:∀id,Z id->Z' id/\bD H' id=bD H id)(D:ν' J=ν d)(G:cE ob=true->H'[(ν d).1]?=H[(ν d).1]?)
 (O:∀e,ob.c6 e=true->∀ob',bB m' e=some ob'->∃ob,bB m e=some ob/\ν' e=ν e/\sameShape ob ob')(o:dV ν m H Z d ob):dV ν' m' H' Z' J ob:=by
 cases ob with
 |sl k es T=>
  simp only[dV,D]at o⊢;split
  next b=>rw[if_pos b]at o;have⟨I,a,u,z,L,Q⟩:=o;exact⟨I,by rw[G (by simpa[cE]using b)];exact a,u,z.mono B,L.mono B,Q⟩
  rename_i b;rw[if_neg b]at o;exact o
 |box U=>have⟨es,C,a,u,z⟩:=o;exact⟨es,C,by rw[D,G rfl];exact a,u.mono B O,z⟩|mp S=>have⟨w,a,u⟩:=o;exact⟨w,by rw[D,G rfl];exact a,u.mono B⟩
def iE(ν:Nu)(m:Tb bN)(e:Nat):∀ob',bB m e=some ob'->∃ob,bB m e=some ob/\ν e=ν e/\sameShape ob ob':=λob' h=>⟨ob',h,rfl,.refl _⟩
def R.heap(r:R ν Z st F H)(D:∀id,e9 ν st.m id->H'[id]?=H[id]?)(B:∀id,Z id->bD H' id=bD H id):R ν Z st F H' where
 slot:=λs w z=>(r.slot s w z).mono (λid h=>⟨h,B id h⟩) λd _=>iE ν st.m d
 obj:=λd ob u=>dV.mono (λid h=>⟨h,B id h⟩) rfl (λC=>D _ ⟨d,ob,u,C,rfl⟩) (λe _=>iE ν st.m e) (r.obj d ob u)
 inj:=r.inj
 apart:=r.apart
 zrow:=λid h=>by rw[B id h];exact r.zrow id h
 deep:=r.deep.mono B
def R.put(r:R ν Z st F H){d:Nat}{sv:SV}{y:V}(h:di ν st.m H Z sv y):R ν Z {st with g:=bR st.g d sv} (set F d y) H where
 slot:=λs x u=>by by_cases e:d=s;subst e;rw[cI]at u;cases u;rw[rJ];exact h;rw[dO st.g sv e]at u;rw[iV _ _ e];exact r.slot s x u
 obj:=r.obj
 inj:=r.inj
 apart:=r.apart
 zrow:=r.zrow
 deep:=r.deep
def Ev.slots(g:Tb SV):Ev Rv ν Z st H ν Z {st with g:=g} H:=⟨le_refl _,λ_ _ _ _ _=>rfl,λ_ h=>⟨h,rfl⟩,λ_ h=>.inl h,λ_ h=>.inl h,λ_ _ u h=>⟨u,h,rfl,.refl _⟩,rfl⟩
def iz(ν:Nu)(d:Nat)(p:Nat×Nat):Nu:=λk=>if k=d then p else ν k
def gB(ν:Nu)(d:Nat)(p:Nat×Nat):iz ν d p d=p:=if_pos rfl
def oh(ν:Nu){d k:Nat}(p:Nat×Nat)(h:k≠d):iz ν d p k=ν k:=if_neg h
def lC{d:Nat}(h:st.new d=true):d∉st.pin/\bB st.m d=none/\ua d st.g=false/\rD d st.m=false:=by unfold St.new at h;simp only[ζh,not_eq_true',Option.isNone_iff_eq_none,List.contains_eq_mem,decide_eq_false_iff_not]at h;exact⟨h.1.1.1,h.1.1.2,h.1.2,h.2⟩
def sj{d:Nat}{ob:bN}{p:Nat×Nat}{e:Nat}(h:e≠d):∀ob',bB (bR m d ob) e=some ob'->∃ob,bB m e=some ob/\iz ν d p e=ν e/\sameShape ob ob':=λob' u=>by rw[dO m ob (Ne.symm h)]at u;exact⟨ob',u,oh ν p h,.refl _⟩
def R.add(r:R ν Z st F H){d:Nat}(U:st.new d=true){ob:bN}{p:Nat×Nat}(J:cE ob=true->¬e9 ν st.m p.1/\¬Z p.1)(W:dV (iz ν d p) (bR st.m d ob) H Z d ob):
 R (iz ν d p) Z {st with m:=bR st.m d ob} F H:=by
 have⟨X,Y,Q,S⟩:=lC U;have key:∀w u,bB (bR st.m d ob) w=some u->w≠d->bB st.m w=some u:=λw u h e=>by rw[dO st.m ob (Ne.symm e)]at h;exact h
 refine⟨λs T L=>?_,λw u G=>?_,?_,?_,r.zrow,r.deep⟩
 .refine(r.slot s T L).mono (λid h=>⟨h,rfl⟩) λe O=>sj ?_
  rintro rfl;rw[xq Q L]at O;cases O
 .by_cases e:w=d
  .subst e;simp only at G;rw[cI]at G;cases G;exact W
  have C:=key w u G e;refine dV.mono (λid h=>⟨h,rfl⟩) (oh ν p e) (λ_=>rfl) (λk c=>sj ?_) (r.obj w u C)
  rintro rfl;rw[xw S C]at c;cases c
 .intro b d2 o1 o2 a D z I B
  by_cases e1:b=d<;>by_cases e2:d2=d
  .rw[e1,e2]
  .subst e1;rw[gB,oh ν p e2]at B;simp only at a;rw[cI]at a;cases a;exact absurd ⟨d2,o2,key d2 o2 D e2,I,B.symm⟩ (J z).1
  .subst e2;rw[gB,oh ν p e1]at B;simp only at D;rw[cI]at D;cases D;exact absurd ⟨b,o1,key b o1 a e1,z,B⟩ (J I).1
  rw[oh ν p e1,oh ν p e2]at B;exact r.inj b d2 o1 o2 (key b o1 a e1) (key d2 o2 D e2) z I B
 intro b o1 a z
 by_cases e1:b=d
 .subst e1;simp only at a;rw[cI]at a;cases a;rw[gB];exact(J z).2
 rw[oh ν p e1];exact r.apart b o1 (key b o1 a e1) z
def Cu{d:Nat}{ob:bN}{p:Nat×Nat}{id:Nat}(h:e9 (iz ν d p) (bR m d ob) id):e9 ν m id\/(cE ob=true/\id=p.1):=by have⟨k,o,a,w,u⟩:=h;by_cases e:k=d;subst e;rw[cI]at a;cases a;rw[gB]at u;exact .inr ⟨w,u.symm⟩;rw[oh ν p e]at u;rw[dO m ob (Ne.symm e)]at a;exact .inl ⟨k,o,a,w,u⟩
def Ev.add{d:Nat}(B:st.new d=true){ob:bN}{p:Nat×Nat}(D:H.length<=H'.length)(G:∀id,id<H.length->¬Rv id->H'[id]?=H[id]?)(J:∀id,Z id->bD H' id=bD H id)
 (O:cE ob=true->Rv p.1\/H.length<=p.1):Ev Rv ν Z st H (iz ν d p) Z {st with m:=bR st.m d ob} H' where
 len:=D
 same:=λid h _ _ hr=>G id h hr
 rows:=λid h=>⟨h,J id h⟩
 own:=λid h=>by rcases Cu h with h|⟨a,rfl⟩;exact .inl h;exact .inr (O a)
 frz:=λid h=>.inl h
 pin:=λe w u h=>by have:e≠d:=(by rintro rfl;exact(lC B).1 w);exact sj this u h
 pins:=rfl
def R.gq(r:R ν Z st F H){d:Nat}{ob ob':bN}(b:bB st.m d=some ob)(G:sameShape ob ob')(W:cE ob'=cE ob)(U:∀id,id≠(ν d).1->H'[id]?=H[id]?)(D:cE ob=true)
 (Y:dV ν (bR st.m d ob') H' Z d ob'):R ν Z {st with m:=bR st.m d ob'} F H':=by
 have z:∀id,Z id->Z id/\bD H' id=bD H id:=λid h=>⟨h,by
  unfold bD;rw[U id (by rintro rfl;exact r.apart d ob b D h)]⟩
 have Q:∀e u,bB (bR st.m d ob') e=some u->∃w,bB st.m e=some w/\ν e=ν e/\sameShape w u:=λe u h=>by by_cases k:e=d;subst k;rw[cI]at h;cases h;exact⟨ob,b,rfl,G⟩;rw[dO st.m ob' (Ne.symm k)]at h;exact⟨u,h,rfl,.refl _⟩
 have C:∀e u,bB (bR st.m d ob') e=some u->∃w,bB st.m e=some w/\cE w=cE u:=λe u h=>by by_cases k:e=d;subst k;rw[cI]at h;cases h;exact⟨ob,b,W.symm⟩;rw[dO st.m ob' (Ne.symm k)]at h;exact⟨u,h,rfl⟩
 refine⟨λs S G=>(r.slot s S G).mono z λe _=>Q e,λI u B=>?_,?_,?_,λid h=>by rw[(z id h).2];exact r.zrow id h,r.deep.mono λid h=>(z id h).2⟩
 .by_cases e:I=d
  .subst e;simp only at B;rw[cI]at B;cases B;exact Y
  simp only at B;rw[dO st.m ob' (Ne.symm e)]at B;refine dV.mono z rfl (λJ=>U _ λh=>e (r.inj I d u ob B b J D h)) (λk _=>Q k) (r.obj I u B)
 .intro a d2 o1 o2 c T L X hp;have⟨p1,k1,O⟩:=C a o1 c;have⟨p2,k2,f⟩:=C d2 o2 T;exact r.inj a d2 p1 p2 k1 k2 (by rw[O];exact L) (by rw[f];exact X) hp
 intro a o1 c L;have⟨p1,k1,O⟩:=C a o1 c;exact r.apart a p1 k1 (by rw[O];exact L)
def Ev.gq(r:R ν Z st F H){d:Nat}{ob ob':bN}(a:bB st.m d=some ob)(G:sameShape ob ob')(O:cE ob'=cE ob)(D:∀id,id≠(ν d).1->H'[id]?=H[id]?)(B:cE ob=true)(J:H.length<=H'.length):
 Ev Rv ν Z st H ν Z {st with m:=bR st.m d ob'} H' where
 len:=J
 same:=λid _ z _ _=>D id λe=>z ⟨d,ob,a,B,e.symm⟩
 rows:=λid h=>⟨h,by unfold bD;rw[D id (by rintro rfl;exact r.apart d ob a B h)]⟩
 own:=λid⟨k,o,h1,C,w⟩=>by by_cases e:k=d;subst e;simp only at h1;rw[cI]at h1;cases h1;exact .inl ⟨k,ob,a,B,w⟩;simp only at h1;rw[dO st.m ob' (Ne.symm e)]at h1;exact .inl ⟨k,o,h1,C,w⟩
 frz:=λid h=>.inl h
 pin:=λe _ u h=>by by_cases k:e=d;subst k;simp only at h;rw[cI]at h;cases h;exact⟨ob,a,rfl,G⟩;simp only at h;rw[dO st.m ob' (Ne.symm k)]at h;exact⟨u,h,rfl,.refl _⟩
 pins:=rfl
def R.less(r:R ν Z st F H){g:Tb SV}{m':Tb bN}(a:∀s sv,bB g s=some sv->bB st.g s=some sv)(B:∀d ob,bB m' d=some ob->bB st.m d=some ob):R ν Z {st with g:=g,m:=m'} F H where
 slot:=λs sv z=>(r.slot s sv (a s sv z)).mono (λid h=>⟨h,rfl⟩) λe _ u h=>⟨u,B e u h,rfl,.refl _⟩
 obj:=λd ob C=>dV.mono (λid h=>⟨h,rfl⟩) rfl (λ_=>rfl) (λe _ u h=>⟨u,B e u h,rfl,.refl _⟩) (r.obj d ob (B d ob C))
 inj:=λd w ob u b D=>r.inj d w ob u (B d ob b) (B w u D)
 apart:=λd ob h=>r.apart d ob (B d ob h)
 zrow:=r.zrow
 deep:=r.deep
def Ev.less{g:Tb SV}{m':Tb bN}(B:∀d ob,bB m' d=some ob->bB st.m d=some ob):Ev Rv ν Z st H ν Z {st with g:=g,m:=m'} H:=⟨le_refl _,λ_ _ _ _ _=>rfl,λ_ h=>⟨h,rfl⟩,λ_⟨d,ob,a,w,z⟩=>.inl ⟨d,ob,B d ob a,w,z⟩,λ_ h=>.inl h,λe _ u h=>⟨u,B e u h,rfl,.refl _⟩,rfl⟩
def Ev.heap(B:H.length<=H'.length)(D:∀id,id<H.length->¬e9 ν st.m id->¬Z id->¬Rv id->H'[id]?=H[id]?)(G:∀id,Z id->bD H' id=bD H id):Ev Rv ν Z st H ν Z st H':=⟨B,D,λid h=>⟨h,G id h⟩,λ_ h=>.inl h,λ_ h=>.inl h,λ_ _ u h=>⟨u,h,rfl,.refl _⟩,rfl⟩
def fR.Ei{xs ys:Zt}(h:fR H Z xs ys):tS H Z ys:=λc b u d=>by
 have⟨i,z⟩:=mem_iff_getElem?.1 b;have B:i<xs.length:=by rw[h.1];grind
 have a:=h.2 i _ c (ζd B) z;have⟨j,C⟩:=mem_iff_getElem?.1 d;have w:j<(xs[i]).length:=by rw[a.1];grind
 exact⟨_,a.2 j _ u (ζd w) C⟩
def fR.same{xs:Zt}(h:V.lT xs=true):fR H Z xs xs:=⟨rfl,λj u v a b=>by rw[a]at b;cases b;exact dn.same (jX.1 h j u a)⟩
def nu{z:Zu}(h:V.cG z=true):∀n,V.lT (replicate n z)=true
 |0=>rfl|n+1=>by simp[List.replicate_succ,V.lT,h,nu h n]
def Aa{es:Nat}:∀{ps qs:a_ (Nat×V)}{xs B r:Zt},fR H Z xs B->ps.map (·.1)=qs.map (·.1)->dn H Z (ps.map (·.2)) (qs.map (·.2))->eR es xs ps=some r->∃G,eR es B qs=some G/\fR H Z r G
 |[],qs,xs,B,r,D,a,J,h=>by have:qs=[]:=Ze;subst this;simp[eR]at h⊢;grind|(i,v)::ps,qs,xs,B,r,D,a,J,h=>by cases qs with|nil=>simp_all|cons q qs=>obtain⟨j,w⟩:=q;simp at a;obtain⟨e,a⟩:=a;subst e;obtain⟨w',C,e,u,z⟩:=J.inv;obtain⟨rfl,rfl⟩:=e;have b:=u.cells;simp only[eR]at h⊢;split at h;rw[if_pos ⟨by rw[<-b.1];grind,by rw[<-D.1];grind,by rw[b.one];grind⟩];exact Aa (D.set i b) a z h;grind
def zip_fst:∀{idx:Zv}{xs:Zu},idx.length=xs.length->(idx.zip xs).map (·.1)=idx
 |[],xs,_=>Zc|i::idx,[],h=>Ze|i::idx,x::xs,h=>by simp[zip_fst (idx:=idx) (xs:=xs) Zd]
def Ct:∀{idx:Zv}{xs:Zu},idx.length=xs.length->(idx.zip xs).map (·.2)=xs
 |[],[],_=>Zc|[],x::xs,h=>Ze|i::idx,[],h=>Ze|i::idx,x::xs,h=>by simp[Ct (idx:=idx) (xs:=xs) Zd]
def K_{a:Ki}{svs:Zw}{ys:Zu}{d:Nat}{ob:bN}{sv:SV}(b:zI (.a a)=true)(r:b7 ν m H Z svs ys)(h:o9 m a svs d=some (ob,sv)):
 ∃o mk,iF a ys=some (o,mk)/\cE ob=true/\o≠.free/\∀(id:Nat)(ν':Nu)(m':Tb bN)(H':bC),ν' d=(id,0)->bB m' d=some ob->H'[id]?=some o->(∀k,Z k->bD H' k=bD H k)->
  (∀e,SV.dD e svs=true->∀ob',bB m' e=some ob'->∃ob,bB m e=some ob/\ν' e=ν e/\sameShape ob ob')->dV ν' m' H' Z d ob/\di ν' m' H' Z sv (mk.val id):=by
 unfold o9 at h;split at h
 .
  rename_i size zero;obtain⟨rfl,rfl⟩:=h;rw[r.c8];simp only[zI,ζh]at b;refine⟨_,_,rfl,rfl,Zc,λid ν' m' H' e1 e2 e3 e4 e5=>⟨⟨_,zero,by rw[e1];omega,b7.qm (dn.same b.1),b.2⟩,?_⟩⟩
  exact .ptr _ _ _ λob' u=>by rw[e2]at u;cases u;exact⟨_,rfl,by rw[e1];rfl⟩
 .
  split at h
  .rename_i C;obtain⟨rfl,rfl⟩:=h;obtain⟨y,_,rfl,g,B⟩:=r.inv;rw[B.c8];have i:=g.fr.cells;refine⟨.row y.cells.length [y.cells],.ptr,by simp[iF,i.one,C],rfl,Zc,λid ν' m' H' e1 e2 e3 e4 e5=>⟨⟨_,y.cells,by rw[e1];omega,b7.qm (i.mono λk b=>⟨b,e4 k b⟩),by rw[i.one];simp_all⟩,?_⟩⟩
   exact .ptr _ _ _ λob' u=>by rw[e2]at u;cases u;exact⟨_,rfl,by rw[e1];rfl⟩
  grind
 .
  split at h
  .rename_i z;obtain⟨rfl,rfl⟩:=h;obtain⟨y,_,rfl,g,B⟩:=r.inv;rw[B.c8];obtain⟨O,rfl,U⟩:=g.h_;have J:=DK z U;refine⟨.row O.length [O],.ptr,by simp[iF,V.cells,J],rfl,Zc,λid ν' m' H' e1 e2 e3 e4 e5=>⟨⟨_,O,by rw[e1];omega,U.mono (λk b=>⟨b,e4 k b⟩) λe Q=>e5 e (by simp[SV.dD,SV.c6,Q]),J⟩,?_⟩⟩
   exact .ptr _ _ _ λob' u=>by rw[e2]at u;cases u;exact⟨_,rfl,by rw[e1];rfl⟩
  grind
 .
  split at h
  .rename_i z;obtain⟨rfl,rfl⟩:=h;obtain⟨y,_,rfl,g,B⟩:=r.inv;rw[B.c8];obtain⟨W,J⟩:=kR z g;refine⟨.row [y].length [[y]],.ptr,by simp[iF,W,J],rfl,Zc,λid ν' m' H' e1 e2 e3 e4 e5=>⟨⟨_,[y],by rw[e1];omega,.cons (g.mono (λk b=>⟨b,e4 k b⟩) λe Q=>e5 e (by simp[SV.dD,Q])) .nil,Ze⟩,?_⟩⟩
   exact .ptr _ _ _ λob' u=>by rw[e2]at u;cases u;exact⟨_,rfl,by rw[e1];rfl⟩
  grind
 .
  rename_i size zero k n q c;obtain⟨_,_,rfl,g,B⟩:=r.inv;obtain⟨_,_,rfl,X,Y⟩:=B.inv;rw[g.fr.int,X.fr.int,Y.c8];split at h
  .rename_i i;obtain⟨rfl,rfl⟩:=h;have S:cN (if n=c then Fl.row else Fl.part)=true:=by split<;>rfl
   refine⟨_,_,by simp only[iF];rw[if_pos i],S,Zc,λid ν' m' H' e1 e2 e3 e4 e5=>⟨?_,?_⟩⟩
   .simp[dV,S,e1];have j:=nu b c.toNat;have T:n.toNat<=c.toNat:=by omega
    refine⟨_,e3,Ze,?_,(fR.same j).Ei,λe=>?_⟩
    .simp[Nat.min_eq_left T];exact fR.same (nu b _)
    grind
   refine .own _ _ λob' u=>?_
   rw[e2]at u;cases u;exact⟨_,_,_,rfl,by rw[qJ S,e1];simp[Mk.val]⟩
  grind
 .
  rename_i vs size len zero idx;split at h
  .rename_i xs hx;split at h
   .rename_i z;obtain⟨rows,l,e⟩:=ζf.1 h;obtain⟨rfl,rfl⟩:=e;have L:=r.dA hx;obtain⟨f,D,w⟩:=Aa (qs:=idx.zip ys) (fR.same (nu b len)) (by rw[zip_fst z,zip_fst (by rw[<-L.1];exact z)]) (by rw[Ct z,Ct (by rw[<-L.1];exact z)];exact L) l
    have G:f.length=len:=by have:∀{ps:a_ (Nat×V)}{a r:Zt},eR size a ps=some r->r.length=a.length:=(by intro ps;induction ps with|nil=>intro a r h;simp[eR]at h;subst h;rfl|cons p ps ih=>intro a r h;simp only[eR]at h;split at h;rw[ih h];simp;simp at h);rw[this D];simp
    refine⟨.row size f,.sl size len,by simp only[iF];rw[if_pos (by rw[<-L.1];exact z),D];rfl,rfl,Zc,λid ν' m' H' e1 e2 e3 e4 e5=>⟨?_,?_⟩⟩
    .have I:=w.mono λk b=>⟨b,e4 k b⟩
     simp only[dV,e1];refine⟨_,e3,by simp[w.1],?_,I.Ei,λ_=>⟨trivial,w.1.symm⟩⟩
     simp[w.1];exact I
    refine .own _ _ λob' u=>?_
    rw[e2]at u;cases u;exact⟨_,_,_,rfl,by rw[w.1,G];simp[ri,e1,Mk.val]⟩
   grind
  grind
 .
  obtain⟨rfl,rfl⟩:=h;rw[r.c8];refine⟨_,_,rfl,rfl,Zc,λid ν' m' H' e1 e2 e3 e4 e5=>⟨⟨_,by rw[e1];exact e3,rfl,Zc⟩,?_⟩⟩
  exact .mp _ _ λob' u=>by rw[e2]at u;cases u;exact⟨_,rfl,by rw[e1];rfl⟩
 grind
def b7.RD{cs:Zw}{B:Zu}(h:b7 ν m H Z cs B){size o:Nat}{x:SV}{y:V}{r:Zw}(J:di ν m H Z x y)(D:putCells m size o x cs=some r)(G:B.all V.one=true):
 y.cells.length=size/\o+size<=B.length/\y.cells.all V.one=true/\b7 ν m H Z r (B.take o++y.cells++B.drop (o+y.cells.length))/\(B.take o++y.cells++B.drop (o+y.cells.length)).all V.one=true:=by
 have u:∀k:Nat,(B.take k).all V.one=true/\(B.drop k).all V.one=true:=λk=>⟨all_eq_true.2 λz C=>all_eq_true.1 G z (List.mem_of_mem_take C),all_eq_true.2 λz C=>all_eq_true.1 G z (mem_of_mem_drop C)⟩
 unfold putCells at D;split at D
 .split at D
  .rename_i hc;simp only[ζa]at D;subst D;have w:=J.fr.cells;refine⟨by rw[<-w.1];simp_all,by rw[<-h.1];grind,by rw[w.one];grind,?_,?_⟩
   .have e:y.cells.length=size:=by rw[<-w.1];simp_all
    rw[e];exact((h.take o).append (b7.qm w)).append (h.drop _)
   simp only[List.all_append,(u _).1,(u _).2,w.one,hc.2.2,Bool.and_self]
  grind
 .split at D
  .rename_i hc;simp only[ζa]at D;subst D;obtain⟨I,rfl,L⟩:=J.h_;have O:=DK hc.2.2 L;have e:I.length=size:=by rw[<-L.1];simp_all
   refine⟨e,by rw[<-h.1];grind,O,?_,?_⟩
   .show b7 ν m H Z _ (B.take o++I++B.drop (o+I.length));rw[e];exact((h.take o).append L).append (h.drop _)
   simp[(u _).1,(u _).2,V.cells,O]
  grind
 split at D
 .rename_i hc;simp only[ζa]at D;subst D;have⟨Q,S⟩:=kR hc.1 J;rw[Q];refine⟨by simp[hc.2.1],by rw[<-h.1];grind,Ze,?_,?_⟩
  .exact((h.take o).append (.cons J .nil)).append (h.drop _)
  grind
 grind
def tq{size:Nat}{x:SV}{y:V}{xs:Zt}(r:di ν m H Z x y)(D:∀d ob,bB m d=some ob->dV ν m H Z d ob)(h:iM m size x=some xs):∃ys,dH H size y=some ys/\fR H Z xs ys:=by
 unfold iM at h;split at h;split at h;rename_i k es z u;obtain⟨_,_,_,e,rfl⟩:=r.jF u;cases e;have o:=D _ _ u;simp[dV]at o;split at h;rename_i a;rw[if_pos a]at o;split at h;next w=>simp at h;subst h;have⟨ys,b,B,C,_⟩:=o;rw[qJ a];exact⟨_,by simp[dH,if_pos w,b,Ob.rows,if_pos B],C⟩
 grind;rename_i a;simp at h;subst h;refine⟨[],?_,rfl,Zc⟩;cases k<;>simp[cN]at a<;>rfl;grind;simp at h;subst h;rw[r.fr.bL];exact⟨[],rfl,rfl,Zc⟩;simp at h;subst h;rw[r.fr.dF];exact⟨[],rfl,rfl,Zc⟩;split at h;rename_i es z w;simp at h;subst h;have c:=r.fr.good;rcases r.fr.kX with rfl|⟨id,off,ys,rfl,G,b,B,C⟩;exact⟨_,by simp[dH,if_pos w],fR.same (by simpa[V.good]using c)⟩;unfold bD at b;exact⟨_,by simp[dH,if_pos w,b,if_pos B],C⟩;grind;grind
def Ev.re{m1:Tb bN}(B:∀d ob,bB m1 d=some ob->bB st.m d=some ob){d:Nat}(O:d∉st.pin){ob:bN}{p:Nat×Nat}(D:H.length<=H'.length)(G:∀id,id<H.length->¬e9 ν st.m id->¬Rv id->H'[id]?=H[id]?)
 (J:∀id,Z id->bD H' id=bD H id)(U:cE ob=true->e9 ν st.m p.1\/Rv p.1\/H.length<=p.1):Ev Rv ν Z st H (iz ν d p) Z {st with m:=bR m1 d ob} H' where
 len:=D
 same:=λid h C _ hr=>G id h C hr
 rows:=λid h=>⟨h,J id h⟩
 own:=λid h=>by rcases Cu h with h|⟨a,rfl⟩;have⟨k,o,a,w,z⟩:=h;exact .inl ⟨k,o,B k o a,w,z⟩;grind
 frz:=λid h=>.inl h
 pin:=λe I u h=>by have:e≠d:=Zd;have⟨o,a,w,z⟩:=sj (ν:=ν) (p:=p) this u h;grind
 pins:=rfl
def Kept(dst:bt Nat)(ν:Nu)(m:Tb bN)(ν':Nu)(m':Tb bN):Prop:=∀e u,dst≠some e->bB m' e=some u->∃ob,bB m e=some ob/\ν' e=ν e/\sameShape ob u
def Kept.refl{dst:bt Nat}:Kept dst ν m ν m:=λe u _ h=>⟨u,h,rfl,.refl _⟩
def Kept.gq{dst:bt Nat}{d:Nat}{ob ob':bN}(a:bB m d=some ob)(B:sameShape ob ob'):Kept dst ν m ν (bR m d ob'):=λe u _ h=>by by_cases k:e=d;subst k;rw[cI]at h;grind;rw[dO m ob' (Ne.symm k)]at h;exact⟨u,h,rfl,.refl _⟩
def Kept.add{d:Nat}{ob:bN}{p:Nat×Nat}{m1:Tb bN}(B:∀d ob,bB m1 d=some ob->bB m d=some ob):Kept (some d) ν m (iz ν d p) (bR m1 d ob):=λe u w h=>by have:e≠d:=λh=>w (by rw[h]);have⟨o,a,z,C⟩:=sj (ν:=ν) (p:=p) this u h;grind
def jQ{d:Nat}:∀e ob,bB (dY d m) e=some ob->bB m e=some ob:=λ_ _ h=>(ni h).2
def Cg.put{k x y:V}{a b r:a_ (V×V)}(G:k.scalar=true)(h:Cg H Z a b)(O:FR H Z x y)(B:oT k x a=some r):∃D,oT k y b=some D/\Cg H Z r D:=by unfold oT at B;obtain⟨f,d⟩:=AU h;split at B;rename_i j v I;simp at B;subst B;obtain⟨L,C,_⟩:=d j v I;refine⟨b.set j (k,y),by unfold oT;rw[C],by simp[h.1],λi u w c z=>?_⟩;rw[getElem?_set]at c z;split at c;grind;rename_i e;rw[if_neg e]at z;exact h.2 i u w c z;simp at B;subst B;refine⟨b++[(k,y)],by unfold oT;simp_all,by simp[h.1],λi u w c z=>?_⟩;by_cases J:i<a.length;rw[getElem?_append_left J]at c;rw[getElem?_append_left (by rw[<-h.1];omega)]at z;exact h.2 i u w c z;rw[getElem?_append_right (by rw[<-h.1];omega),<-h.1]at z;grind;grind
def HQ(r:R ν Z st F H){d:Nat}{cs:Zw}(B:bB st.m d=some (.box cs)):∀{l:Zw}{D:Zu},b7 ν st.m H Z l D->l.all (Jt st.m d)=true->D.all (mJ (ν d).1)=true:=by intro l;induction l with|nil=>intro D C _;rw[C.c8];rfl|cons a l O=>intro D C G;obtain⟨w,D,rfl,g1,g2⟩:=C.inv;simp only[all_cons,ζh]at G⊢;refine⟨?_,O g2 G.2⟩;have u:=G.1;unfold Jt at u;split at u;rename_i Q T;simp at u;have⟨I,J⟩:=u;split at J;(next S z=>obtain⟨_,_,rfl⟩:=g1.og z;simp[mJ];exactλe=>I (r.inj Q d _ _ z B rfl rfl e));grind;rcases FR.lz g1.fr with rfl|⟨id,el,off,_,_,_,rfl,L,_⟩;rfl;simp[mJ];rintro rfl;exact r.apart d _ B rfl L;grind
def A6(r:R ν Z st F H){dst:bt Nat}{l:HF}{svs:Zw}{ys:Zu}{sv:SV}(U:b7 ν st.m H Z svs ys)(h:lX st dst l svs=some (sv,st')):
 ∃y H' ν',eU H l ys=some (y,H')/\R ν' Z st' F H'/\di ν' st'.m H' Z sv y/\Ev (λ_=>False) ν Z st H ν' Z st' H'/\Kept dst ν st.m ν' st'.m:=by
 unfold lX at h;split at h
 .
  rename_i size d o x;obtain⟨_,_,rfl,a,p⟩:=U.inv;obtain⟨y,_,rfl,n,q⟩:=p.inv;rw[q.c8];split at h
  .rename_i cs B;have⟨au,P,e⟩:=ζf.1 h;obtain⟨rfl,rfl⟩:=e;obtain⟨_,_,rfl⟩:=a.og B;have⟨es,G,f,g,T⟩:=r.obj d _ B;have⟨p1,p2,p3,p4,p5⟩:=b7.RD g n P T;have J:∀id,id≠(ν d).1->(H.set (ν d).1 (.row es [G.take o++y.cells++G.drop (o+y.cells.length)]))[id]?=H[id]?:=λid I=>by grind
   have D:∀id,Z id->Z id/\bD (H.set (ν d).1 (.row es [G.take o++y.cells++G.drop (o+y.cells.length)])) id=bD H id:=λid D=>⟨D,by
    unfold bD;rw[J id (by rintro rfl;exact r.apart d _ B rfl D)]⟩
   refine⟨.undef,H.set (ν d).1 (.row es [G.take o++y.cells++G.drop (o+y.cells.length)]),ν,?_,?_,.v _ _ (.same _ rfl),Ev.gq r B trivial rfl J rfl Zc,Kept.gq B trivial⟩
   .simp only[eU,f,getElem?_cons_zero,if_pos (And.intro p1 (And.intro p2 p3)),List.set_cons_zero]
   refine r.gq B trivial rfl J rfl ⟨es,_,?_,p4.mono D (λe _ Q A=>?_),p5⟩
   .grind
   by_cases k:e=d
   .subst k;rw[cI]at A;cases A;exact⟨_,B,rfl,trivial⟩
   rw[dO st.m _ (Ne.symm k)]at A;exact⟨Q,A,rfl,.refl _⟩
  grind
 .
  rename_i size d i o x;obtain⟨_,_,rfl,a,p⟩:=U.inv;obtain⟨y,_,rfl,n,q⟩:=p.inv;rw[q.c8];split at h
  .rename_i k es xs B;split at h
   .rename_i cs ah;split at h
    .rename_i g;obtain⟨rfl,rfl⟩:=h;obtain⟨_,_,_,e,b,rfl⟩:=a.vW B;cases e;have ob:=r.obj d _ B;simp[dV,b]at ob;have⟨rs,f,hl,hf,ai,aj⟩:=ob;have⟨c,ak,ad⟩:=hf.get ah;have hi:=(ζe.1 ah).1;rw[getElem?_take,if_pos hi,getElem?_drop]at ak;have hy:=n.fr.cells;have E:y.cells.length=size:=by rw[<-hy.1];exact g.1
     have W:o+size<=c.length:=by rw[<-ad.1];exact g.2.1
     have q3:y.cells.all V.one=true:=by rw[hy.one];exact g.2.2
     have C:dn H Z (cs.take o++x.cells++cs.drop (o+x.cells.length)) (c.take o++y.cells++c.drop (o+y.cells.length)):=by rw[g.1,E];exact((ad.take o).append hy).append (ad.drop _)
     generalize hN:(c.take o++y.cells++c.drop (o+y.cells.length))=nc at C;have J:∀id,id≠(ν d).1->(H.set (ν d).1 (.row es (rs.set ((ν d).2+i) nc)))[id]?=H[id]?:=λid I=>by rw[getElem?_set];rw[if_neg (Ne.symm I)]
     have L:=b;have D:∀id,Z id->Z id/\bD (H.set (ν d).1 (.row es (rs.set ((ν d).2+i) nc))) id=bD H id:=λid D=>⟨D,by
      unfold bD;rw[J id (by rintro rfl;exact r.apart d _ B L D)]⟩
     have ae:sameShape (.sl k es xs) (.sl k es (xs.set i (cs.take o++x.cells++cs.drop (o+x.cells.length)))):=⟨rfl,rfl,Zc⟩
     refine⟨.undef,H.set (ν d).1 (.row es (rs.set ((ν d).2+i) nc)),ν,?_,?_,.v _ _ (.same _ rfl),Ev.gq r B ae rfl J L Zc,Kept.gq B ae⟩
     .simp only[eU,f,ak,if_pos (And.intro E (And.intro W q3)),hN]
     refine r.gq B ae rfl J L ?_;simp only[dV,b];have av:=(ζe.1 f).1;refine⟨_,getElem?_set_self av,by simpa using hl,?_,?_,λe=>?_⟩
     .have e1:take (xs.set i (cs.take o++x.cells++cs.drop (o+x.cells.length))).length (List.drop (ν d).2 (rs.set ((ν d).2+i) nc))=((rs.drop (ν d).2).take xs.length).set i nc:=by
       rw[List.length_set,List.drop_set,if_neg Za,List.take_set]
       congr 1;omega
      rw[e1];exact(hf.set i C).mono D
     .intro cc al u hu;rcases List.mem_or_eq_of_mem_set al with hm|rfl
      .have⟨z,aw⟩:=ai cc hm u hu;exact⟨z,aw.mono D⟩
      have⟨j,hj⟩:=mem_iff_getElem?.1 hu;have am:=(ζe.1 hj).1;rw[<-C.1]at am;exact⟨_,(C.2 j _ u (ζd am) hj).mono D⟩
     have⟨a1,a2⟩:=aj e;exact⟨a1,by simpa using a2⟩
    simp at h
   grind
  grind
 .
  rename_i kk d k x;obtain⟨_,_,rfl,a,p⟩:=U.inv;obtain⟨k',_,rfl,n,q⟩:=p.inv;obtain⟨y,_,rfl,h5,h6⟩:=q.inv;rw[h6.c8];split at h
  .rename_i ax B;split at h
   .rename_i b;have⟨aI,P,e⟩:=ζf.1 h;simp at e;obtain⟨rfl,rfl⟩:=e;obtain⟨_,_,rfl⟩:=a.BH B;have ay:=n.fr.scalar.1 (tU b);subst ay;have⟨aJ,f,aA⟩:=r.obj d _ B;have⟨r',aB,aC⟩:=aA.put (tU b) h5.fr P;have J:∀id,id≠(ν d).1->(H.set (ν d).1 (.map r'))[id]?=H[id]?:=λid I=>by rw[getElem?_set];rw[if_neg (Ne.symm I)]
    have D:∀id,Z id->Z id/\bD (H.set (ν d).1 (.map r')) id=bD H id:=λid D=>⟨D,by
     unfold bD;rw[J id (by rintro rfl;exact r.apart d _ B rfl D)]⟩
    refine⟨.undef,H.set (ν d).1 (.map r'),ν,?_,?_,.v _ _ (.same _ rfl),Ev.gq r B trivial rfl J rfl Zc,Kept.gq B trivial⟩
    .simp[eU,f,b,aB]
    refine r.gq B trivial rfl J rfl ⟨r',?_,aC.mono D⟩;rw[getElem?_set_self (ζe.1 f).1]
   simp at h
  simp at h
 .
  rename_i size s x;obtain⟨y1,_,rfl,a,p⟩:=U.inv;obtain⟨y2,_,rfl,n,q⟩:=p.inv;rw[q.c8];split at h
  .rename_i xs e1 e2;have⟨a1,p1,_⟩:=tq a r.obj e1;have⟨a2,p2,W⟩:=tq n r.obj e2;have:=length_eq_zero_iff.1 (by have:=W.1;simpa using this.symm)
   subst this
   cases dst with
   |none=>simp at h|some t=>
    have lit:∀(k:Fl)(K:V),cN k=false->ri (ν t) k size 0=K->st.new t=true->(∀y,FR H Z K y->y=K)->FR H Z K y1->
     ∃y H' ν',eU H (.append size) [y1,y2]=some (y,H')/\R ν' Z {st with m:=bR st.m t (.sl k size [])} F H'/\di ν' (bR st.m t (.sl k size [])) H' Z (.own t) y/\Ev (λ_=>False) ν Z st H ν' Z {st with m:=bR st.m t (.sl k size [])} H'/\Kept (some t) ν st.m ν' (bR st.m t (.sl k size [])):=λk K b aD N hx hf=>by
     have an:cE (.sl k size [])=true->False:=by simp[cE,b]
     refine⟨y1,H,iz ν t (ν t),by simp[eU,p1,p2],r.add N (λh=>(an h).elim) (by simp[dV,b]),.own _ _ λQ M=>?_,Ev.add N (le_refl _) (λ_ _ _=>rfl) (λ_ _=>rfl) (λh=>(an h).elim),Kept.add λ_ _ h=>h⟩
     rw[cI]at M;cases M;exact⟨_,_,_,rfl,by rw[gB,hx _ hf];exact aD.symm⟩
    cases s with
    |own d=>
     dsimp only at h;split at h
     .rename_i ob B;split at h
      .rename_i C;simp at h;obtain⟨rfl,rfl⟩:=h;simp[iM,B]at e1
       cases ob with
       |sl k es X=>
        obtain⟨_,_,_,e,rfl⟩:=a.jF B;cases e;have r1:R ν Z {st with m:=dY d st.m} F H:=r.less (λ_ _ h=>h) jQ
        have⟨n1,_,_,_⟩:=lC C;have ao:dV (iz ν t (ν d)) (bR (dY d st.m) t (.sl k es X)) H Z t (.sl k es X):=by have o:=r.obj d _ B;simp[dV,gB]at o⊢;exact o
        refine⟨ri (ν d) k es X.length,H,iz ν t (ν d),by simp[eU,p1,p2],r1.add C (λhb=>⟨λS=>?_,r.apart d _ B hb⟩) ao,.own _ _ λQ M=>?_,?_,Kept.add jQ⟩
        .have⟨k2,o2,g1,g2,g3⟩:=S;have⟨g4,g5⟩:=ni g1;exact g4 (r.inj d k2 _ o2 B g5 hb g2 g3.symm)
        .rw[cI]at M;cases M;exact⟨_,_,_,rfl,by rw[gB]⟩
        by_cases hb:cE (.sl k es X)=true
        .exact Ev.re (m1:=dY d st.m) jQ n1 (le_refl _) (λ_ _ _ _=>rfl) (λ_ _=>rfl) (λ_=>.inl ⟨d,_,B,hb,rfl⟩)
        exact(Ev.less jQ).trans (Ev.add C (le_refl _) (λ_ _ _=>rfl) (λ_ _=>rfl) λh=>absurd h hb)
       |box cs=>cases e1|mp ax=>cases e1
      simp at h
     simp at h
    |v K=>
     cases K with
     |bL=>
      dsimp only at h;split at h
      next N=>simp at h;obtain⟨rfl,rfl⟩:=h;exact lit .nil _ rfl rfl N (λy h=>h.bL) a.fr
      simp at h
     |dF=>
      dsimp only at h;split at h
      next N=>simp at h;obtain⟨rfl,rfl⟩:=h;exact lit .emp _ rfl rfl N (λy h=>h.dF) a.fr
      simp at h
     |_=>simp at h
    |_=>simp at h
  .rename_i xs zs I e1 e2;split at h
   .rename_i g;have⟨a1,p1,E⟩:=tq a r.obj e1;have⟨a2,p2,W⟩:=tq n r.obj e2
    cases dst with
    |none=>simp at h|some t=>
     dsimp only at h;generalize ap:giveUp st.m s=m1 at h;split at h
     .rename_i C;simp at h;obtain⟨rfl,rfl⟩:=h;have⟨n1,_,_,_⟩:=lC C;have grow:∃H1,gE H y1=some H1/\H1.length=H.length/\(∀id,¬e9 ν st.m id->H1[id]?=H[id]?)/\
       (∀id,e9 ν m1 id->H1[id]?=H[id]?)/\(∀id,Z id->bD H1 id=bD H id):=by
       subst ap
       cases s with
       |own d=>
        simp[iM]at e1;split at e1
        .rename_i k es X B;obtain⟨_,_,_,e,rfl⟩:=a.jF B;cases e
         by_cases b:cN k=true
         .have o:=r.obj d _ B;simp[dV,b]at o;have⟨ys,f,_⟩:=o;have L:=b;have J:∀id,id≠(ν d).1->(H.set (ν d).1 .dead)[id]?=H[id]?:=λid I=>by rw[getElem?_set];rw[if_neg (Ne.symm I)]
          refine⟨H.set (ν d).1 .dead,by rw[qJ b];simp[gE,f],Zc,λid S=>J id λe=>S ⟨d,_,B,L,e.symm⟩,λid S=>J id λe=>?_,λid D=>?_⟩
          .have⟨k2,o2,g1,g2,g3⟩:=S;have⟨g4,g5⟩:=ni g1;exact g4 (r.inj d k2 _ o2 B g5 L g2 (by rw[g3,e]))
          unfold bD;rw[J id (by rintro rfl;exact r.apart d _ B L D)]
         refine⟨H,?_,rfl,λ_ _=>rfl,λ_ _=>rfl,λ_ _=>rfl⟩
         cases k<;>simp[cN]at b<;>rfl
        simp at e1
       |v K=>
        refine⟨H,?_,rfl,λ_ _=>rfl,λ_ _=>rfl,λ_ _=>rfl⟩
        cases K<;>simp[ED]at g
        .rw[a.fr.dF];rfl
        rw[a.fr.bL];rfl
       |_=>simp[ED]at g
      have⟨H1,g1,g2,g3,g4,g5⟩:=grow;have O:∀e ob,bB m1 e=some ob->bB st.m e=some ob:=by subst ap;cases s<;>first|exactλ_ _ h=>h|exact jQ
      have ab:∀id,e9 ν m1 id->id<H.length:=λid⟨k,o,w1,w2,w3⟩=>r.lt ⟨k,o,O k o w1,w2,w3⟩
      have Y:∀id,id<H.length->(H1++[Ob.row size (a1++a2)])[id]?=H1[id]?:=λid hl=>getElem?_append_left (by rw[g2];exact hl)
      have af:∀id,Z id->bD (H1++[Ob.row size (a1++a2)]) id=bD H id:=λid D=>by have:=g5 id D;unfold bD at this⊢;rw[Y id (r.uD D)];exact this
      have r1:=r.less (λ_ _ h=>h) O
      have r2:=r1.heap (λid S=>by rw[Y id (ab id S)];exact g4 id S) af
      have ff:=(E.append W).mono λid D=>⟨D,af id D⟩
      have aa:(H1++[Ob.row size (a1++a2)])[H.length]?=some (.row size (a1++a2)):=by rw[<-g2];simp
      refine⟨.hsl H.length size 0 (xs.length+zs.length),H1++[Ob.row size (a1++a2)],iz ν t (H.length,0),?_,?_,?_,?_,Kept.add O⟩
      .have aq:a2≠[]:=by
        rintro rfl;have aE:=length_eq_zero_iff.1 (by have:=W.1;simpa using this)
        exact I aE
       have aF:a1.length+a2.length<=2147483648:=by rw[<-E.1,<-W.1];exact g.1
       have aG:=E.1;have aH:=W.1
       cases a2 with
       |nil=>exact absurd rfl aq|cons w ws=>simp only[eU,p1,p2,if_pos aF,g1,map_some,aG,aH]
      .refine r2.add C (λ_=>⟨λS=>?_,λD=>?_⟩) ?_
       .exact absurd (ab _ S) Zc
       .exact absurd (r.uD D) Zc
       simp only[dV,gB];refine⟨_,aa,by simp[E.1,W.1],?_,ff.Ei,λ_=>⟨trivial,by simp[E.1,W.1]⟩⟩
       have:(xs++zs).length=(a1++a2).length:=by simp[E.1,W.1]
       rw[this,drop_zero,take_length];exact ff
      .refine .own _ _ λQ M=>?_
       simp only at M;rw[cI]at M;cases M;exact⟨_,_,_,rfl,by simp[ri,gB]⟩
      refine Ev.re O n1 (by simp[g2]) (λid hl S _=>?_) af (λ_=>.inr (.inr (le_refl _)))
      rw[Y id hl];exact g3 id S
     simp at h
   simp at h
  simp at h
 .
  rename_i size d o x l;obtain⟨_,_,rfl,a,p⟩:=U.inv;obtain⟨y,aK,rfl,n,q⟩:=p.inv;split at h
  .rename_i ar;split at h
   .rename_i cs B;have⟨au,P,e⟩:=ζf.1 h;simp at e;obtain⟨rfl,rfl⟩:=e;obtain⟨_,_,rfl⟩:=a.og B;have⟨es,G,f,g,T⟩:=r.obj d _ B;have⟨p1,p2,p3,p4,p5⟩:=b7.RD g n P T;have J:∀id,id≠(ν d).1->(H.set (ν d).1 (.row es [G.take o++y.cells++G.drop (o+y.cells.length)]))[id]?=H[id]?:=λid I=>by rw[getElem?_set];rw[if_neg (Ne.symm I)]
    have D:∀id,Z id->Z id/\bD (H.set (ν d).1 (.row es [G.take o++y.cells++G.drop (o+y.cells.length)])) id=bD H id:=λid D=>⟨D,by
     unfold bD;rw[J id (by rintro rfl;exact r.apart d _ B rfl D)]⟩
    refine⟨.undef,H.set (ν d).1 (.row es [G.take o++y.cells++G.drop (o+y.cells.length)]),ν,?_,?_,.v _ _ (.same _ rfl),Ev.gq r B trivial rfl J rfl Zc,Kept.gq B trivial⟩
    .simp only[eU,HQ r B q ar,if_true,f,getElem?_cons_zero,if_pos (And.intro p1 (And.intro p2 p3)),List.set_cons_zero]
    refine r.gq B trivial rfl J rfl ⟨es,_,?_,p4.mono D (λe _ Q A=>?_),p5⟩
    .have:=(ζe.1 f).1;rw[getElem?_set_self this]
    by_cases k:e=d
    .subst k;rw[cI]at A;cases A;exact⟨_,B,rfl,trivial⟩
    rw[dO st.m _ (Ne.symm k)]at A;exact⟨Q,A,rfl,.refl _⟩
   simp at h
  simp at h
 grind
end
def ya(d:Nat)(st:St):bt St:=
 match bB st.m d with
 |some (.sl k es u)=>some {st with g:=AI (SV.sub d (nQ k es u)) st.g,m:=mapM (SV.tE d (nQ k es u)) (dY d st.m)}|_=>none
def Tg(st:St):Loc->bt SV
 |.s n=>bB st.g n|.c b i=>match bB st.m b with
  |some (.box cs)=>cs[i]?|_=>none
def ghost(x:Gh)(st:St):bt St:=
 match x with
 |.closeS l=>match Tg st l with
  |some (.own d)=>ya d st|some _=>some st|none=>none
 |.close d=>ya d st|.closeB d=>match bB st.m d with
  |some (.box u)=>match dA u with
   |some w=>some {st with g:=AI (SV.Au d w) st.g,m:=mapM (SV.qn d w) (dY d st.m)}|none=>none
  |_=>none
 |.canon (.s n) d es=>match bB st.g n with
  |some (.v .bL)=>if st.new d then some {st with g:=bR st.g n (.own d),m:=bR st.m d (.sl .nil es [])}else none|some (.v .dF)=>if st.new d then some {st with g:=bR st.g n (.own d),m:=bR st.m d (.sl .emp es [])}else none|some (.own e)=>if e=d then some st else if st.new d then some {st with g:=yf e d st.g,m:=tP e d st.m}else none|some (.ptr e _)=>if e=d then some st else if st.new d then some {st with g:=yf e d st.g,m:=tP e d st.m}else none|_=>none
 |.canon (.c b i) d es=>match bB st.m b with
  |some (.box u)=>match u[i]?with
   |some (.v .bL)=>if st.new d then some {st with m:=bR (bR st.m d (.sl .nil es [])) b (.box (u.set i (.own d)))}else none|some (.v .dF)=>if st.new d then some {st with m:=bR (bR st.m d (.sl .emp es [])) b (.box (u.set i (.own d)))}else none|some (.own e)=>if e=d then some st else if st.new d then some {st with g:=yf e d st.g,m:=tP e d st.m}else none|_=>none
  |_=>none
 |.keep gs z=>match kF st.g gs,kF st.m z with
  |some g,some m=>some {st with g:=g,m:=m}|_,_=>none
 |.drop ds=>some {st with g:=oF ds st.g}
section
variable{Rv:Nat->Prop}{ν ν':Nu}{Z Z':Nat->Prop}{st st':St}{m m':Tb bN}{F F':Zo}{H H':bC}{N:Nat->Zk}
def LB(r:R ν Z st F H){dst:bt Nat}{size d:Nat}{O U:Zl}{W:Zw}{ys:Zu}{sv:SV}(D:b7 ν st.m H Z (.own d::W) ys)(h:yS st dst size O U d W=some (sv,st')):
 ∃y ν',bO N (.slice size O U) ys=some y/\R ν' Z st' F H/\di ν' st'.m H Z sv y/\Ev Rv ν Z st H ν' Z st' H:=by
 unfold yS at h;obtain⟨g,i,rfl,c,T⟩:=D.inv;split at h
 .rename_i k es G ws t u X;split at h
  .rename_i hk;have⟨⟨l,j⟩,Y,h⟩:=ζg.1 h;have⟨⟨a,b⟩,B,h⟩:=ζg.1 h;dsimp only at h;split at h
   .rename_i w;obtain⟨rfl,rfl⟩:=h;obtain⟨_,_,_,e,rfl⟩:=c.jF u;cases e;have I:b<=G.length/\a<=b:=by
     unfold dW at B
     grind
    have o:=r.obj d _ u;simp[dV,hk.1]at o;have⟨rs,n,p,f,Q,_⟩:=o;have z:=hk.1;have r1:R ν Z {st with m:=dY d st.m} F H:=r.less (λ_ _ h=>h) jQ
    have J:¬e9 ν (dY d st.m) (ν d).1:=by rintro⟨k2,o2,g1,g2,g3⟩;have⟨g4,g5⟩:=ni g1;exact g4 (r.inj d k2 _ o2 u g5 z g2 g3.symm)
    have C:((G.take b).drop a).length=b-a:=Ze
    refine⟨.hsl (ν d).1 es ((ν d).2+a) (b-a),iz ν t ((ν d).1,(ν d).2+a),?_,?_,?_,?_⟩
    .have L:=b7.dA T X;rw[qJ hk.1];simp[bO,L.lp Y,gX,if_pos hk.2,B]
    .refine r1.add w (λ_=>⟨J,r.apart d _ u z⟩) ?_
     simp[dV,cN,gB];have:=(f.take b).drop a;have e:List.drop a (take b (take G.length (List.drop (ν d).2 rs)))=take (b-a) (List.drop ((ν d).2+a) rs):=by rw[List.take_take,Nat.min_eq_left I.1,List.drop_take,drop_drop]
     grind
    .refine .own _ _ λq S=>?_
     rw[cI]at S;cases S;exact⟨_,_,_,rfl,by rw[C];simp[ri,gB]⟩
    exact Ev.re (st:=st) jQ (lC w).1 (le_refl _) (λ_ _ _ _=>rfl) (λ_ _=>rfl) (λ_=>.inl ⟨d,_,u,z,rfl⟩)
   grind
  grind
 grind
def CZ{f:SV->SV}:∀{g:Tb SV}{s:Nat},bB (AI f g) s=(bB g s).map f
 |[],s=>rfl|(k,x)::r,s=>by simp[AI,bB];split;rfl;exact CZ
def wC(f:Zw->Zw):bN->bN
 |.box cs=>.box (f cs)|o=>o
def Dk{f:Zw->Zw}:∀{m:Tb bN}{d:Nat},bB (mapM f m) d=(bB m d).map (wC f)
 |[],d=>rfl|(k,x)::r,d=>by cases x<;>simp[mapM,bB]<;>split<;>first|rfl|exact Dk
def si{d:Nat}{w:V}:∀{l:Zw}{j:Nat},(SV.tE d w l)[j]?=(l[j]?).map (SV.sub d w)
 |[],j=>by simp[SV.tE]|x::r,0=>by simp[SV.tE]|x::r,j+1=>by simp[SV.tE,si]
def qS{d:Nat}{w:Zu}:∀{l:Zw}{j:Nat},(SV.qn d w l)[j]?=(l[j]?).map (SV.Au d w)
 |[],j=>by simp[SV.qn]|x::r,0=>by simp[SV.qn]|x::r,j+1=>by simp[SV.qn,qS]
def nY{d:Nat}{w:V}:∀{l:Zw},(SV.tE d w l).length=l.length
 |[]=>rfl|x::r=>by simp[SV.tE,nY]
def mI{d:Nat}{w:Zu}:∀{l:Zw},(SV.qn d w l).length=l.length
 |[]=>rfl|x::r=>by simp[SV.qn,mI]
def di.sub{sv:SV}{y:V}{d:Nat}{k:Fl}{es:Nat}{xs:Zt}(l:bB m d=some (.sl k es xs))(G:FR H Z' (nQ k es xs) (ri (ν d) k es xs.length))(J:∀id,Z id->Z' id)
 (U:∀e ob',bB m' e=some ob'->e≠d/\∃ob,bB m e=some ob/\sameShape ob ob')(r:di ν m H Z sv y):di ν m' H Z' (sv.sub d (nQ k es xs)) y:=by
 have w:∀id,Z id->Z' id/\bD H id=bD H id:=λid h=>⟨J id h,rfl⟩
 have C:∀e ob',bB m' e=some ob'->∃ob,bB m e=some ob/\ν e=ν e/\sameShape ob ob':=λe ob' h=>Zd
 induction r with
 |v x y h=>exact .v x y (h.mono w)|own e y h=>
  simp[SV.sub];split
  next I=>subst I;obtain⟨_,_,_,e1,rfl⟩:=h _ l;cases e1;exact .v _ _ G
  exact(di.own e y h).mono w λe _=>C e
 |ptr e o y h=>exact(di.ptr e o y h).mono w λe _=>C e|el e i o y h=>exact(di.el e i o y h).mono w λe _=>C e|mp e y h=>exact(di.mp e y h).mono w λe _=>C e|clo f a b z L D S hva O B Q=>
  refine .clo f _ _ z L (by rw[nY];omega) (by rw[nY];omega) (λj u v c g=>?_) (λj u v c g=>?_)
  .rw[si,ζf]at c;grind
  rw[si,ζf]at c;grind
 |tup a z D hva B=>
  refine .tup _ z (by rw[nY];omega) (λj u v c g=>?_)
  rw[si,ζf]at c;grind
 |agg a z D hva B=>
  refine .agg _ z (by rw[nY];omega) (λj u v c g=>?_)
  rw[si,ζf]at c;grind
 |yl id=>exact .yl id
theorem Pb {f:FuncId} {a b:a_ SV} {y:V} (r:di ν m H Z (.clo f a b) y):di ν m H Z (Np f a b) y:=by
 unfold Np;split
 .rename_i x z D G;cases r with|clo _ _ _ w B I J hva u=>
  have h1:=b7.dA (ν:=ν) (m:=m) (H:=H) (Z:=Z) (ys:=w) ⟨I,hva⟩ D;have C:=b7.dA (ν:=ν) (m:=m) (H:=H) (Z:=Z) (ys:=B) ⟨J,u⟩ G;exact .v _ _ (.clo f x z w B h1.1 C.1 h1.2 C.2)
 exact r
def di.Au{sv:SV}{y:V}{d:Nat}{cs:Zw}{xs:Zu}(k:bB m d=some (.box cs))(O:∀o,o<=xs.length->FR H Z' (.fptr (xs.drop o)) (.hptr (ν d).1 0 o))(U:∀id,Z id->Z' id)
 (W:∀e ob',bB m' e=some ob'->e≠d/\∃ob,bB m e=some ob/\sameShape ob ob')(r:di ν m H Z sv y):di ν m' H Z' (sv.Au d xs) y:=by
 have z:∀id,Z id->Z' id/\bD H id=bD H id:=λid h=>⟨U id h,rfl⟩
 have D:∀e ob',bB m' e=some ob'->∃ob,bB m e=some ob/\ν e=ν e/\sameShape ob ob':=λe ob' h=>by have⟨_,ob,l,L⟩:=W e ob' h;exact⟨ob,l,rfl,L⟩
 induction r with
 |v x y h=>exact .v x y (h.mono z)|own e y h=>exact(di.own e y h).mono z λe _=>D e|ptr e o y h=>
  simp only[SV.Au];split
  .rename_i Q;subst Q;obtain⟨_,e1,rfl⟩:=h _ k;split
   next S=>exact .v _ _ (O o S)
   exact(di.ptr e o _ h).mono z λe _=>D e
  exact(di.ptr e o y h).mono z λe _=>D e
 |el e i o y h=>exact(di.el e i o y h).mono z λe _=>D e|mp e y h=>exact(di.mp e y h).mono z λe _=>D e|clo f a b G T I X hva Y B J=>
  refine Pb (.clo f _ _ G T (by rw[mI];exact I) (by rw[mI];exact X) (λj u v c g=>?_) (λj u v c g=>?_))
  .rw[qS,ζf]at c;obtain⟨C,w,rfl⟩:=c;exact B j C v w g
  rw[qS,ζf]at c;obtain⟨C,w,rfl⟩:=c;exact J j C v w g
 |tup a G I hva B=>
  refine .tup _ G (by rw[mI];exact I) (λj u v c g=>?_)
  rw[qS,ζf]at c;obtain⟨C,w,rfl⟩:=c;exact B j C v w g
 |agg a G I hva B=>
  refine .agg _ G (by rw[mI];exact I) (λj u v c g=>?_)
  rw[qS,ζf]at c;obtain⟨C,w,rfl⟩:=c;exact B j C v w g
 |yl id=>exact .yl id
def dV.wC{d:Nat}{ob:bN}{f:Zw->Zw}(D:∀id,Z id->Z' id)(U:∀l,(f l).length=l.length)
 (G:∀cs B,b7 ν m H Z cs B->b7 ν m' H Z' (f cs) B)(o:dV ν m H Z d ob):dV ν m' H Z' d (wC f ob):=by
 have u:∀id,Z id->Z' id/\bD H id=bD H id:=λid h=>⟨D id h,rfl⟩
 cases ob with
 |sl k es Q=>
  simp[Go.VE.wC,dV]at o⊢;split
  next b=>rw[if_pos b]at o;have⟨I,a,w,C,J,L⟩:=o;exact⟨I,a,w,C.mono u,J.mono u,L⟩
  grind
 |box cs=>have⟨es,B,a,w,C⟩:=o;exact⟨es,B,a,G cs B w,C⟩|mp O=>have⟨z,a,w⟩:=o;exact⟨z,a,w.mono u⟩
def vA{f:Zw->Zw}{ob:bN}:cE (wC f ob)=cE ob:=by cases ob<;>rfl
def JY{f:Zw->Zw}{ob:bN}:sameShape ob (wC f ob):=by cases ob<;>simp[wC,sameShape]
def R.shut(r:R ν Z st F H){d:Nat}{ob:bN}(t:bB st.m d=some ob){fs:SV->SV}{D:Zw->Zw}(A:∀l,(D l).length=l.length)(V:∀l(j:Nat),(D l)[j]?=(l[j]?).map fs)
 (B:∀id,Z' id↔Z id\/(cE ob=true/\id=(ν d).1))(G:cE ob=true->∃es ys,H[(ν d).1]?=some (.row es ys)/\tS H Z ys)
 (hf:∀m',(∀e ob',bB m' e=some ob'->e≠d/\∃ob,bB st.m e=some ob/\sameShape ob ob')->∀sv y,di ν st.m H Z sv y->di ν m' H Z' (fs sv) y):
 R ν Z' {st with g:=AI fs st.g,m:=mapM D (dY d st.m)} F H/\Ev Rv ν Z st H ν Z' {st with g:=AI fs st.g,m:=mapM D (dY d st.m)} H:=by
 have key:∀e ob',bB (mapM D (dY d st.m)) e=some ob'->e≠d/\∃ob,bB st.m e=some ob/\ob'=wC D ob:=λe ob' h=>by rw[Dk,ζf]at h;obtain⟨o,a,rfl⟩:=h;have⟨w,E⟩:=ni a;grind
 have L:∀e ob',bB (mapM D (dY d st.m)) e=some ob'->e≠d/\∃ob,bB st.m e=some ob/\sameShape ob ob':=λe ob' h=>by obtain⟨a,o,w,rfl⟩:=key e ob' h;exact⟨a,o,w,JY⟩
 have K:=hf _ L;have T:∀U C,b7 ν st.m H Z U C->b7 ν (mapM D (dY d st.m)) H Z' (D U) C:=λU C h=>by refine⟨by rw[A];exact h.1,λj u v i hv=>?_⟩;rw[V,ζf]at i;obtain⟨M,W,rfl⟩:=i;exact K M v (h.2 j M v W hv)
 have z:=λid h=>(B id).2 (.inl h)
 refine⟨⟨λs sv S=>?_,λe ob' X=>?_,λb N o1 o2 a w J P hp=>?_,λb o1 a J=>?_,λid h=>?_,⟨λid es ys O f c hc u i=>?_⟩⟩,⟨le_refl _,λ_ _ _ _ _=>rfl,λid h=>⟨z id h,rfl⟩,?_,?_,?_,rfl⟩⟩
 .rw[CZ,ζf]at S;obtain⟨Q,Y,rfl⟩:=S;exact K Q _ (r.slot s Q Y)
 .obtain⟨a,o,w,rfl⟩:=key e ob' X;exact dV.wC z A T (r.obj e o w)
 .obtain⟨_,p1,k1,rfl⟩:=key b o1 a;obtain⟨_,p2,k2,rfl⟩:=key N o2 w;rw[vA]at J P;exact r.inj b N p1 p2 k1 k2 J P hp
 .obtain⟨aa,p1,k1,rfl⟩:=key b o1 a;rw[vA]at J;intro O;rcases(B _).1 O with O|⟨I,X⟩
  .exact r.apart b p1 k1 J O
  exact aa (r.inj b d p1 ob k1 t J I X)
 .rcases (B id).1 h with h|⟨I,rfl⟩
  .exact r.zrow id h
  have⟨es,ys,f,_⟩:=G I;unfold bD;rw[f];rfl
 .rcases (B id).1 O with h|⟨I,rfl⟩
  .have⟨x,q⟩:=r.deep.row id es ys h f c hc u i;exact⟨x,q.mono λk n=>⟨z k n,rfl⟩⟩
  have⟨ad,ae,ab,S⟩:=G I;unfold bD at f;rw[ab]at f;obtain⟨_,rfl⟩:=f;have⟨x,q⟩:=S c hc u i;exact⟨x,q.mono λk n=>⟨z k n,rfl⟩⟩
 .rintro id ⟨e,o,a,w,E⟩;obtain⟨_,p,k1,rfl⟩:=key e o a;rw[vA]at w;exact .inl ⟨e,p,k1,w,E⟩
 .intro id h;rcases(B id).1 h with h|⟨I,rfl⟩
  .grind
  exact .inr (.inl ⟨d,ob,t,I,rfl⟩)
 grind
def Gg(r:R ν Z st F H){d:Nat}(h:ya d st=some st'):∃Z',R ν Z' st' F H/\Ev Rv ν Z st H ν Z' st' H:=by
 simp[ya]at h;split at h;rename_i k es w u;simp at h;subst h;have o:=r.obj d _ u;refine⟨λid=>Z id\/(cE (.sl k es w)=true/\id=(ν d).1),R.shut r u (λ_=>nY) (λ_ _=>si) (λ_=>Iff.rfl) (λB=>?_) (λm' z G y b=>?_)⟩;have a:cN k=true:=B;simp[dV,a]at o;grind;refine di.sub u ?_ (λid h=>.inl h) z b;by_cases a:cN k=true;simp[dV,a]at o;have⟨I,b,C,D,J,_⟩:=o;rw[qJ a];have e:nQ k es w=.fsl es w:=by cases k<;>simp[cN]at a<;>rfl
 rw[e];refine FR.I5 (.inr ⟨a,rfl⟩) (by unfold bD;rw[b];rfl) C (D.mono λid h=>⟨.inl h,rfl⟩);cases k<;>simp[cN]at a;exact .same _ rfl;exact .same _ rfl;grind
def KW(r:R ν Z st F H){d:Nat}(h:ghost (.closeB d) st=some st'):∃Z',R ν Z' st' F H/\Ev Rv ν Z st H ν Z' st' H:=by
 simp[ghost]at h;split at h;rename_i I w;split at h;rename_i J L;simp at h;subst h;have⟨es,z,a,b,_⟩:=r.obj d _ w;have C:=b.dA L;have O:tS H Z [z]:=by intro c B u e;simp[List.mem_singleton]at B;subst B;have⟨j,Q⟩:=mem_iff_getElem?.1 e;have S:j<J.length:=(by rw[C.1];grind);exact⟨_,C.2 j _ u (ζd S) Q⟩
 refine⟨λid=>Z id\/(cE (.box I)=true/\id=(ν d).1),R.shut r w (λ_=>mI) (λ_ _=>qS) (λ_=>Iff.rfl) (λT=>⟨es,_,a,O⟩) (λm' D U y G=>?_)⟩;refine di.Au w (λo W=>?_) (λid h=>.inl h) D G;exact FR.A_ (.inr ⟨rfl,rfl⟩) (show bD H (ν d).1=some (es,[z])by unfold bD;rw[a];rfl) rfl (by rw[<-C.1];omega) ((C.drop o).mono λid h=>⟨.inl h,rfl⟩);grind;grind
def sH{d e:Nat}:∀{l:Zw}{j:Nat},(SV.tM d e l)[j]?=(l[j]?).map (SV.s_ d e)
 |[],j=>by simp[SV.tM]|x::r,0=>by simp[SV.tM]|x::r,j+1=>by simp[SV.tM,sH]
def om{d e:Nat}:∀{l:Zw},(SV.tM d e l).length=l.length
 |[]=>rfl|x::r=>by simp[SV.tM,om]
def DI{d e:Nat}:∀{g:Tb SV}{s:Nat},bB (yf d e g) s=(bB g s).map (SV.s_ d e)
 |[],s=>rfl|(k,x)::r,s=>by simp[yf,bB];split;rfl;exact DI
def yF{d e:Nat}(B:d≠e):∀{m:Tb bN}{k:Nat},bB m e=none->bB (tP d e m) k=(if k=d then none else(bB m (if k=e then d else k)).map (bN.s_ d e))
 |[],k,_=>by simp[tP,bB]|(n,x)::r,k,h=>by simp[bB]at h;split at h;simp_all;have D:=yF B (k:=k) h;simp[tP,bB];grind
def tW(ν:Nu)(d e:Nat):Nu:=λk=>if k=e then ν d else ν k
def di.s_{sv:SV}{y:V}{d e:Nat}(U:bB m e=none)(D:sv.c6 e=false)(J:d≠e)(r:di ν m H Z sv y):di (tW ν d e) (tP d e m) H Z (sv.s_ d e) y:=by
 have key:∀k,k≠e->∀w,bB (tP d e m) (if k=d then e else k)=some w->∃ob,bB m k=some ob/\tW ν d e (if k=d then e else k)=ν k/\w=ob.s_ d e:=λk l w h=>by rw[yF J U]at h;by_cases c:k=d;subst c;rw[if_pos rfl,if_neg (Ne.symm J),if_pos rfl,ζf]at h;obtain⟨ob,B,rfl⟩:=h;exact⟨ob,B,by unfold tW;grind,rfl⟩;rw[if_neg c,if_neg c,if_neg l,ζf]at h;obtain⟨ob,B,rfl⟩:=h;exact⟨ob,B,by unfold tW;grind,rfl⟩
 induction r with|v x y h=>exact .v x y h|own k y h=>have l:k≠e:=(by rintro rfl;simp[SV.c6]at D);refine .own _ y λw G=>?_;obtain⟨ob,c,B,rfl⟩:=key k l w G;obtain⟨_,_,_,rfl,rfl⟩:=h ob c;exact⟨_,_,_,rfl,by rw[B]⟩|ptr k o y h=>have l:k≠e:=(by rintro rfl;simp[SV.c6]at D);refine .ptr _ o y λw G=>?_;obtain⟨ob,c,B,rfl⟩:=key k l w G;obtain⟨_,rfl,rfl⟩:=h ob c;exact⟨_,rfl,by rw[B]⟩|el k i o y h=>have l:k≠e:=(by rintro rfl;simp[SV.c6]at D);refine .el _ i o y λw G=>?_;obtain⟨ob,c,B,rfl⟩:=key k l w G;obtain⟨_,_,_,rfl,S,rfl⟩:=h ob c;exact⟨_,_,_,rfl,S,by rw[B]⟩|mp k y h=>have l:k≠e:=(by rintro rfl;simp[SV.c6]at D);refine .mp _ y λw G=>?_;obtain⟨ob,c,B,rfl⟩:=key k l w G;obtain⟨_,rfl,rfl⟩:=h ob c;exact⟨_,rfl,by rw[B]⟩|clo f a b L T Q X hva W C O=>simp[SV.c6]at D;refine .clo f _ _ L T (by rw[om];omega) (by rw[om];omega) (λj u v g n=>?_) (λj u v g n=>?_);rw[sH,ζf]at g;obtain⟨I,z,rfl⟩:=g;exact C j I v z n (sE D.1 z);rw[sH,ζf]at g;obtain⟨I,z,rfl⟩:=g;exact O j I v z n (sE D.2 z)|tup a L Q hva C=>refine .tup _ L (by rw[om];omega) (λj u v g n=>?_);rw[sH,ζf]at g;obtain⟨I,z,rfl⟩:=g;exact C j I v z n (sE D z)|agg a L Q hva C=>refine .agg _ L (by rw[om];omega) (λj u v g n=>?_);rw[sH,ζf]at g;obtain⟨I,z,rfl⟩:=g;exact C j I v z n (sE D z)|yl id=>exact .yl id
def EZ(r:R ν Z st F H){d e:Nat}(B:d≠e)(Y:st.new e=true):R (tW ν d e) Z {st with g:=yf d e st.g,m:=tP d e st.m} F H/\Ev Rv ν Z st H (tW ν d e) Z {st with g:=yf d e st.g,m:=tP d e st.m} H:=by
 have⟨t,J,X,i⟩:=lC Y;have key:∀k w,bB (tP d e st.m) k=some w->∃k0 ob,bB st.m k0=some ob/\w=ob.s_ d e/\tW ν d e k=ν k0/\k≠d/\(k=e/\k0=d\/k≠e/\k0=k):=λk w h=>by rw[yF B J]at h;split at h;simp_all;rename_i a;rw[ζf]at h;obtain⟨ob,z,rfl⟩:=h;by_cases C:k=e;rw[if_pos C]at z;exact⟨d,ob,z,rfl,by unfold tW;grind,a,.inl ⟨C,rfl⟩⟩;rw[if_neg C]at z;exact⟨k,ob,z,rfl,by unfold tW;grind,a,.inr ⟨C,rfl⟩⟩
 have L:∀ob:bN,cE (ob.s_ d e)=cE ob:=λob=>by cases ob<;>rfl
 refine⟨⟨λs sv U=>?_,λk w c=>?_,λb l o1 o2 a z D W x=>?_,λb o1 a D=>?_,r.zrow,r.deep⟩,⟨le_refl _,λ_ _ _ _ _=>rfl,λid h=>⟨h,rfl⟩,?_,λ_ h=>.inl h,?_,rfl⟩⟩;rw[DI,ζf]at U;obtain⟨O,G,rfl⟩:=U;exact di.s_ J (xq X G) B (r.slot s O G);obtain⟨k0,ob,a,rfl,z,_,_⟩:=key k w c;have o:=r.obj k0 ob a;cases ob with|sl fl es xs=>simp[bN.s_,dV,z]at o⊢;omega|box cs=>have⟨es,Q,g1,g2,g3⟩:=o;have S:=(by have:=xw i a;simpa[bN.c6]using this);refine⟨es,Q,Zd,⟨by rw[om];exact g2.1,λj u v f n=>?_⟩,g3⟩;rw[sH,ζf]at f;obtain⟨p,I,rfl⟩:=f;exact di.s_ J (sE S I) B (g2.2 j p v I n)|mp aa=>simp[bN.s_,dV,z]at o⊢;omega
 obtain⟨k1,p1,g1,rfl,e1,q,T⟩:=key b o1 a;obtain⟨k2,p2,g2,rfl,e2,y,A⟩:=key l o2 z;rw[L]at D W;have:=r.inj k1 k2 p1 p2 g1 g2 D W Zd;omega;obtain⟨k1,p1,g1,rfl,e1,_⟩:=key b o1 a;rw[L]at D;rw[e1];exact r.apart k1 p1 g1 D;rintro id ⟨k,o,a,z,C⟩;obtain⟨k1,p1,g1,rfl,e1,_⟩:=key k o a;rw[L]at z;exact .inl ⟨k1,p1,g1,z,Zd⟩;intro k c w h;obtain⟨k1,p1,g1,rfl,e1,q,T⟩:=key k w h;rcases T with⟨rfl,_⟩|⟨T,rfl⟩;grind;exact⟨p1,g1,e1,by cases p1<;>simp[bN.s_,sameShape]⟩
def R.Ux(r:R ν Z st F H){n:Nat}{sv:SV}(h:di ν st.m H Z sv (get F n)):R ν Z {st with g:=bR st.g n sv} F H where
 slot:=λs x u=>by by_cases e:n=s;subst e;rw[cI]at u;grind;rw[dO st.g sv e]at u;exact r.slot s x u
 obj:=r.obj
 inj:=r.inj
 apart:=r.apart
 zrow:=r.zrow
 deep:=r.deep
def LN(r:R ν Z st F H){n d es:Nat}{k:Fl}{x:V}(a:nQ k es []=x/\cN k=false)(D:bB st.g n=some (.v x))(B:st.new d=true)(G:∀y,FR H Z x y->y=x)(J:ri (ν d) k es 0=x):
 R (iz ν d (ν d)) Z {st with g:=bR st.g n (.own d),m:=bR st.m d (.sl k es [])} F H/\Ev Rv ν Z st H (iz ν d (ν d)) Z {st with g:=bR st.g n (.own d),m:=bR st.m d (.sl k es [])} H:=by
 have u:cE (.sl k es [])=true->False:=by simp[cE,a.2]
 have r1:=r.add B (p:=ν d) (λh=>(u h).elim) (by simp[dV,a.2])
 refine⟨r1.Ux (.own _ _ λz w=>?_),?_⟩
 .rw[cI]at w;cases w;rw[gB,G _ (r.slot n _ D).fr]
  grind
 exact(Ev.add B (le_refl _) (λ_ _ _=>rfl) (λ_ _=>rfl) (λh=>(u h).elim)).trans (Ev.slots _)
def KM(r:R ν Z st F H){b i d es:Nat}{k:Fl}{x:V}{cs:Zw}(c:cN k=false)(O:bB st.m b=some (.box cs))(U:cs[i]?=some (.v x))(D:st.new d=true)(W:∀y,FR H Z x y->y=x)(Y:ri (ν d) k es 0=x):
 ∃ν',R ν' Z {st with m:=bR (bR st.m d (.sl k es [])) b (.box (cs.set i (.own d)))} F H/\Ev Rv ν Z st H ν' Z {st with m:=bR (bR st.m d (.sl k es [])) b (.box (cs.set i (.own d)))} H:=by
 have B:cE (.sl k es [])=true->False:=by simp[cE,c]
 have r1:=r.add D (p:=ν d) (λh=>(B h).elim) (by simp[dV,c])
 have C:b≠d:=by rintro rfl;rw[(lC D).2.1]at O;cases O
 have z:bB (bR st.m d (.sl k es [])) b=some (.box cs):=by rw[dO _ _ (Ne.symm C)];omega
 have⟨G,I,g,J,S⟩:=r1.obj b _ z;have T:∀e w,bB (bR (bR st.m d (.sl k es [])) b (.box (cs.set i (.own d)))) e=some w->∃ob,bB (bR st.m d (.sl k es [])) e=some ob/\iz ν d (ν d) e=iz ν d (ν d) e/\sameShape ob w:=λe w h=>by by_cases L:e=b;subst L;rw[cI]at h;cases h;exact⟨_,z,rfl,trivial⟩;rw[dO _ _ (Ne.symm L)]at h;exact⟨w,h,rfl,.refl _⟩
 refine⟨iz ν d (ν d),r1.gq z trivial rfl (λ_ _=>rfl) rfl ⟨G,I,g,⟨by simp[J.1],λj u v a f=>?_⟩,S⟩,?_⟩
 .rw[getElem?_set]at a;split at a
  .rename_i e;subst e;split at a
   .cases a;refine .own _ _ λw Q=>?_
    rw[dO _ _ C,cI]at Q;cases Q;rw[gB,W v (J.2 i _ v U f).fr]
    grind
   grind
  exact(J.2 j u v a f).mono (λid h=>⟨h,rfl⟩) λe _=>T e
 exact(Ev.add D (le_refl _) (λ_ _ _=>rfl) (λ_ _=>rfl) (λh=>(B h).elim)).trans (Ev.gq r1 z trivial rfl (λ_ _=>rfl) rfl (le_refl _))
def Mm(r:R ν Z st F H){x:Gh}(h:ghost x st=some st'):∃ν' Z',R ν' Z' st' F H/\Ev Rv ν Z st H ν' Z' st' H:=by cases x with|close d=>have⟨Z',a,b⟩:=Gg (Rv:=Rv) r h;grind|closeS l=>simp[ghost]at h;split at h;have⟨Z',a,b⟩:=Gg (Rv:=Rv) r h;grind;simp at h;subst h;exact⟨ν,Z,r,.refl⟩;grind|closeB d=>have⟨Z',a,b⟩:=KW (Rv:=Rv) r h;grind|keep gs I=>simp[ghost]at h;split at h;(next g m e C=>simp at h;subst h;exact⟨ν,Z,r.less (λs G w=>pN e w) (λd ob B=>pN C B),Ev.less (λd ob B=>pN C B)⟩);grind|drop ds=>simp[ghost]at h;subst h;exact⟨ν,Z,r.less (λs G w=>nv w) (λd ob B=>B),Ev.less (λd ob B=>B)⟩|canon l d es=>cases l with|s n=>simp[ghost]at h;split at h;rename_i w;split at h;rename_i u;simp at h;have⟨a,b⟩:=LN (Rv:=Rv) (es:=es) (k:=.nil) r ⟨rfl,rfl⟩ w u (λy h=>h.bL) rfl;grind;grind;rename_i w;split at h;rename_i u;simp at h;have⟨a,b⟩:=LN (Rv:=Rv) (es:=es) (k:=.emp) r ⟨rfl,rfl⟩ w u (λy h=>h.dF) rfl;grind;grind;split at h;simp at h;subst h;exact⟨ν,Z,r,.refl⟩;rename_i z;split at h;rename_i u;simp at h;have⟨a,b⟩:=EZ (Rv:=Rv) r z u;grind;grind;split at h;simp at h;subst h;exact⟨ν,Z,r,.refl⟩;rename_i z;split at h;rename_i u;simp at h;have⟨a,b⟩:=EZ (Rv:=Rv) r z u;grind;grind;grind|c b i=>simp[ghost]at h;split at h;rename_i J D;split at h;rename_i w;split at h;rename_i u;simp at h;have⟨ν',a,b⟩:=KM (Rv:=Rv) (es:=es) (k:=.nil) r rfl D w u (λy h=>h.bL) rfl;grind;grind;rename_i w;split at h;rename_i u;simp at h;have⟨ν',a,b⟩:=KM (Rv:=Rv) (es:=es) (k:=.emp) r rfl D w u (λy h=>h.dF) rfl;grind;grind;split at h;simp at h;subst h;exact⟨ν,Z,r,.refl⟩;rename_i z;split at h;rename_i u;simp at h;have⟨a,b⟩:=EZ (Rv:=Rv) r z u;grind;grind;grind;grind
end
structure nN(E:Env)(f:FuncId)(q:De):Prop where
 keep:E.keep f=true
 own:E.own f=false
 le:∀es xs vs ys,q.go es xs vs=some ys->ys.length<=xs.length/\(q.part=false->ys.length=xs.length)
 none:∀es vs ys,q.go es [] vs=some ys->∀(H:bC)(Z:Nat->Prop)(ws:List V)(w:V),dn H Z vs ws->(w=.bL\/w=.dF)->∃n X,∀k,n<=k->run E k (.fn f) (w::ws) H=some (if q.part then w else .undef,H++X)
 row:∀es xs vs ys,q.go es xs vs=some ys->∀(H:bC)(Z:Nat->Prop)(ws:List V)(id off:Nat)(rs:List (List V)),dn H Z vs ws->H[id]?=some (.row es rs)->off+xs.length<=rs.length->
  fR H Z xs ((rs.drop off).take xs.length)->tS H Z rs->¬Z id->∃n rs' X,(∀k,n<=k->run E k (.fn f) (.hsl id es off xs.length::ws) H=some (if q.part then .hsl id es off ys.length else .undef,(H++X).set id (.row es rs')))/\
   rs'.length=rs.length/\fR H Z ys ((rs'.drop off).take ys.length)/\tS H Z rs'
section
variable{Rv:Nat->Prop}{ν ν':Nu}{Z Z':Nat->Prop}{st st':St}{m m':Tb bN}{F F':Zo}{H H':bC}
def O_{E:Env}{f:Zk}{q:De}(i:nN E f q)(r:R ν Z st F H){args:Zw}{ys:Zu}(K:b7 ν st.m H Z args ys){dst:bt Nat}{sv:SV}(h:AX q dst args st=some (sv,st')):
 ∃n y H' ν',(∀k,n<=k->run E k (.fn f) ys H=some (y,H'))/\R ν' Z st' F H'/\di ν' st'.m H' Z sv y/\Ev Rv ν Z st H ν' Z st' H'/\Kept dst ν st.m ν' st'.m:=by
 unfold AX at h;split at h
 .rename_i d vs;obtain⟨w,p,rfl,M,N⟩:=K.inv;split at h
  .rename_i k es xs zs u G;have s:=b7.dA N G;split at h
   .rename_i ns T;have⟨al,P⟩:=i.le _ _ _ _ T;obtain⟨_,_,_,ee,rfl⟩:=M.jF u;cases ee;have grow:∀X:bC,R ν Z st F (H++X)/\Ev Rv ν Z st H ν Z st (H++X)/\∀id,Z id->bD (H++X) id=bD H id:=λX=>by
     have j:∀id,id<H.length->(H++X)[id]?=H[id]?:=λid h=>getElem?_append_left h
     have G:∀id,Z id->bD (H++X) id=bD H id:=λid h=>by unfold bD;rw[j id (r.uD h)]
     exact⟨r.heap (λid h=>j id (r.lt h)) G,Ev.heap Zc (λid h _ _ _=>j id h) G,G⟩
    have o:=r.obj d _ u
    cases a:cN k with
    |false=>
     simp only[dV,a,false_eq_true,if_false]at o;subst o;have hw:ri (ν d) k es 0=.bL\/ri (ν d) k es 0=.dF:=by cases k<;>simp[ri,cN]at a⊢
     have⟨n,X,L⟩:=i.none _ _ _ T H Z p _ s hw;have⟨b,I,U⟩:=grow X;simp only[a,false_eq_true,if_false]at h;split at h
     .rename_i O;split at h
      .rename_i t;split at h
       .rename_i z;simp only[ζa,ζc]at h;obtain⟨rfl,rfl⟩:=h;have r1:R ν Z {st with m:=dY d st.m} F (H++X):=b.less (g:=st.g) (λ_ _ h=>h) jQ
        rw[if_pos O]at L;refine⟨n,_,H++X,iz ν t (ν d),L,r1.add z (λl=>by simp[cE,a]at l) (by simp[dV,a]),?_,?_,Kept.add jQ⟩
        .refine .own _ _ λah W=>?_
         simp only at W;rw[cI]at W;cases W;exact⟨_,_,_,rfl,by rw[gB];rfl⟩
        exact I.trans (Ev.re (st:=st) jQ (lC z).1 (le_refl _) (λ_ _ _ _=>rfl) (λ_ _=>rfl) (λl=>by simp[cE,a]at l))
       cases h
      cases h
     rename_i O;simp only[ζa,ζc]at h;obtain⟨rfl,rfl⟩:=h;rw[if_neg O]at L;have hu:bR st.m d (.sl k es [])=st.m:=qV u;rw[hu];exact⟨n,_,H++X,ν,L,b,.v _ _ (.same _ rfl),I,.refl⟩
    |true=>
     simp only[dV,a,if_true]at o;have⟨rs,v,hl,hf,ab,Q⟩:=o;have B:cE (.sl k es xs)=true:=a;have⟨n,C,X,L,e1,e2,e3⟩:=i.row _ _ _ _ T H Z p _ _ rs s v hl hf ab (r.apart d _ u B);have⟨b,I,U⟩:=grow X;have ai:(ν d).1<(H++X).length:=by have:=(ζe.1 v).1;simp;omega
     have G:∀id,Z id->Z id/\bD ((H++X).set (ν d).1 (.row es C)) id=bD H id:=λid D=>⟨D,by
      rw[<-U id D];unfold bD;rw[List.getElem?_set_ne];rintro rfl;exact r.apart d _ u B D⟩
     have x:∀id,Z id->bD ((H++X).set (ν d).1 (.row es C)) id=bD (H++X) id:=λid D=>by rw[(G id D).2,U id D]
     have c:∀id,id≠(ν d).1->((H++X).set (ν d).1 (Ob.row es C))[id]?=(H++X)[id]?:=λid aj=>List.getElem?_set_ne (Ne.symm aj)
     have J:((H++X).set (ν d).1 (Ob.row es C))[(ν d).1]?=some (.row es C):=getElem?_set_self ai;rw[qJ a];simp only[a,if_true]at h;split at h
     .rename_i O;split at h
      .rename_i t;split at h
       .rename_i z;simp only[ζa,ζc]at h;obtain⟨rfl,rfl⟩:=h;have r1:R ν Z {st with m:=dY d st.m} F (H++X):=b.less (g:=st.g) (λ_ _ h=>h) jQ
        have A:¬e9 ν (dY d st.m) (ν d).1:=by rintro⟨k2,o2,g1,g2,g3⟩;have⟨g4,g5⟩:=ni g1;exact g4 (r.inj d k2 _ o2 u g5 B g2 g3.symm)
        have r2:R ν Z {st with m:=dY d st.m} F ((H++X).set (ν d).1 (.row es C)):=r1.heap (λid ho=>c id (by rintro rfl;exact A ho)) x
        rw[if_pos O]at L;refine⟨n,_,_,iz ν t (ν d),L,r2.add z (λ_=>⟨A,r.apart d _ u B⟩) ?_,?_,?_,Kept.add jQ⟩
        .simp only[dV,cN,if_true,gB];exact⟨C,J,Za,e2.mono G,e3.mono G,λe=>by cases e⟩
        .refine .own _ _ λah W=>?_
         simp only at W;rw[cI]at W;cases W;exact⟨_,_,_,rfl,by rw[gB];rfl⟩
        exact I.trans (Ev.re (st:=st) jQ (lC z).1 Zc (λid _ ho _=>c id (by rintro rfl;exact ho ⟨d,_,u,B,rfl⟩)) x (λ_=>.inl ⟨d,_,u,B,rfl⟩))
       cases h
      cases h
     rename_i O;simp only[ζa,ζc]at h;obtain⟨rfl,rfl⟩:=h;rw[if_neg O]at L;have ak:q.part=false:=by simpa using O
     have S:=P ak;have Y:sameShape (.sl k es xs) (.sl k es ns):=⟨rfl,rfl,S⟩;refine⟨n,_,_,ν,L,b.gq u Y rfl c B ?_,.v _ _ (.same _ rfl),I.trans (Ev.gq b u Y rfl c B Zc),Kept.gq u Y⟩
     simp only[dV,a,if_true];exact⟨C,J,Za,e2.mono G,e3.mono G,λe=>⟨(Q e).1,by rw[e1,(Q e).2,S]⟩⟩
   cases h
  cases h
 cases h
end
def vC:Nat->Zw->Tb SV
 |_,[]=>[]|i,v::vs=>(i,v)::vC (i+1) vs
def start(svs:Zw)(B:dQ):St:=⟨vC 0 svs,B,B.map (·.1),[],true,0⟩
def jh(S:Sys)(c:cg):Prop:=∀f u w rs z,c f u w=some (rs,z)->∀(ν:Nu)(Z:Nat->Prop)(args:Zu)(H:bC),(S.E.keep f=true\/H=[])->R ν Z (start u w) args H->b7 ν w H Z u args->∃n y H' ν' Z' st' F' B,run S.E n (.fn f) args H=some (y,H')/\y=result B/\st'.m=z/\b7 ν' z H' Z' rs B/\R ν' Z' st' F' H'/\Ev (λ_=>False) ν Z (start u w) H ν' Z' st' H'
section
variable{Rv:Nat->Prop}{ν ν':Nu}{Z Z':Nat->Prop}{st st':St}{m m':Tb bN}{F F':Zo}{H H' H1:bC}{N:Nat->Zk}
def M0{k:Fl}{es:Nat}{xs:Zt}{d:Nat}(o:dV ν m H Z d (.sl k es xs)):(nQ k es xs).good=true:=by
 by_cases a:cN k=true;simp only[dV,a,if_true]at o;have⟨w,_,_,u,_⟩:=o;have e:nQ k es xs=.fsl es xs:=by cases k<;>simp[cN]at a<;>rfl
 rw[e];simp only[V.good];exact u.good;cases k<;>simp[cN]at a<;>rfl
mutual
def Ls(D:∀d ob,bB m d=some ob->dV ν m H Z d ob):∀(n:Nat)(sv:SV)(x y:V),shut m n sv=some x->di ν m H Z sv y->x.good=true
 |n,.v x,z,y,h,r=>by simp only[shut,ζa]at h;subst h;exact r.fr.good|n,.own d,z,y,h,r=>by simp only[shut]at h;split at h;(next k es xs B=>simp only[ζa]at h;subst h;exact M0 (D d _ B));simp at h|0,.ptr d o,z,y,h,r=>by simp[shut]at h|n+1,.ptr d o,z,y,h,r=>by simp only[shut]at h;split at h;rename_i cs B;split at h;rename_i xs O;split at h;simp only[ζa]at h;subst h;have⟨es,G,_,p,_⟩:=D d _ B;simp only[V.good];exact wJ _ (lU D n cs xs G O p);simp at h;simp at h;simp at h|n,.el d i o,z,y,h,r=>by cases n<;>simp[shut]at h|n,.yl id,z,y,h,r=>by cases n<;>simp[shut]at h|n,.mp d,z,y,h,r=>by simp only[shut]at h;split at h;rename_i L B;simp only[ζa]at h;subst h;have⟨w,_,e⟩:=D d _ B;simp only[V.good];refine DC.2 λj u g=>?_;have Q:j<w.length:=(by rw[<-e.1];exact(ζe.1 g).1);have⟨⟨_,c⟩,C⟩:=e.2 j u _ g (ζd Q);exact⟨jl c,C.good⟩;simp at h|0,.clo f a b,z,y,h,r=>by simp[shut]at h|n+1,.clo f a b,z,y,h,r=>by simp only[shut]at h;split at h;(next S x2 c C=>simp only[ζa]at h;subst h;obtain⟨T,U,rfl,W,X⟩:=r.jD;simp only[V.good,ζh];exact⟨lU D n a S T c W,lU D n b x2 U C X⟩);simp at h|0,.tup l,z,y,h,r=>by simp[shut]at h|n+1,.tup l,z,y,h,r=>by simp only[shut]at h;obtain⟨xs,c,rfl⟩:=ζf.1 h;obtain⟨I,rfl,J⟩:=r.pn;simp only[V.good];exact lU D n l xs I c J|0,.agg l,z,y,h,r=>by simp[shut]at h|n+1,.agg l,z,y,h,r=>by simp only[shut]at h;obtain⟨xs,c,rfl⟩:=ζf.1 h;obtain⟨I,rfl,J⟩:=r.h_;simp only[V.good];exact lU D n l xs I c J
def lU(D:∀d ob,bB m d=some ob->dV ν m H Z d ob):∀(n:Nat)(svs:Zw)(xs ys:Zu),dh m n svs=some xs->b7 ν m H Z svs ys->V.cG xs=true
 |n,[],xs,ys,h,r=>by simp only[dh,ζa]at h;subst h;rfl|n,sv::svs,xs,ys,h,r=>by simp only[dh]at h;split at h;(next y s a G=>simp only[ζa]at h;subst h;obtain⟨J,B,rfl,r1,r2⟩:=r.inv;simp only[V.cG,ζh];exact⟨Ls D n sv y J a r1,lU D n svs s B G r2⟩);simp at h
end
def EW{f:V->bt V}:∀{xs ys:a_ (V×V)},xs.length=ys.length->(∀(j:Nat)u v,xs[j]?=some u->ys[j]?=some v->f v.1=some u.1/\f v.2=some u.2)->kD f ys=some xs
 |[],[],_,_=>rfl|[],y::ys,h,_=>by simp at h|x::xs,[],h,_=>by simp at h|(a,b)::xs,(c,d)::ys,h,B=>by have⟨e,D⟩:=B 0 _ _ rfl rfl;simp only at e D;simp only[kD,e,D,EW (xs:=xs) (ys:=ys) (by simpa using h) λj u v g i=>B (j+1) u v (by simpa using g) (by simpa using i)]
def Gw:∀{l:a_ (V×V)}{n:Nat},V.rP n l=true↔∀(j:Nat)u,l[j]?=some u->u.1.lvl n=true/\u.2.lvl n=true
 |[],n=>by simp[V.rP]|(k,x)::l,n=>by simp only[V.rP,ζh,Gw (l:=l)];constructor;rintro⟨b,B⟩ j u a;(cases j with|zero=>simp at a;subst a;exact b|succ j=>exact B j u (by simpa using a));intro h;exact⟨h 0 (k,x) rfl,λj u a=>h (j+1) u (by simpa using a)⟩
def tf{n:Nat}{xs ys:Zu}(D:gO (borrow n H1) ys=some xs)(B:V.gP ys=true):ys=xs:=by
 have w:=jO (f:=borrow n H1) (xs:=ys) (ys:=ys) rfl λj u v a b=>by rw[a]at b;cases b;exact ei n H1 (oa.1 B j u a)
 rw[D]at w;cases w;rfl
mutual
def Hp{fr:Zv}(J:∀d∈fr,∀e ob,bB m e=some ob->ob.c6 d=false)(O:∀d ob,bB m d=some ob->d∉fr->dV ν m H1 Z d ob):
 ∀(n:Nat)(sv:SV)(x y:V),shut m n sv=some x->(∀d∈fr,sv.c6 d=false)->di ν m H1 Z sv y->∀k,x.lvl k=true->borrow k H1 y=some x
 |n,.v x,z,y,h,B,r,k,hk=>by simp only[shut,ζa]at h;subst h;exact r.fr.borrow k hk|n,.own d,z,y,h,B,r,k,hk=>by simp only[shut]at h;split at h;rename_i q es xs D;simp only[ζa]at h;subst h;obtain⟨_,_,_,e,rfl⟩:=r.jF D;cases e;have C:d∉fr:=λC=>(by have:=B d C;simp[SV.c6]at this);have o:=O d _ D C;by_cases I:cN q=true;simp only[dV,I,if_true]at o;have⟨ys,g,H,K,_⟩:=o;rw[qJ I];have e:nQ q es xs=.fsl es xs:=(by cases q<;>simp[cN]at I<;>rfl);rw[e]at hk⊢;exact(FR.I5 (Z:=λ_=>True) trivial (show bD H1 (ν d).1=some (es,ys)by unfold bD;rw[g];rfl) H (K.mono λid h=>⟨trivial,rfl⟩)).borrow k hk;cases q<;>simp[cN]at I;exact ei k H1 rfl;exact ei k H1 rfl;simp at h|0,.ptr d o,z,y,h,B,r,k,hk=>by simp[shut]at h|n+1,.ptr d o,z,y,h,B,r,k,hk=>by
  simp only[shut]at h;split at h;rename_i L D;split at h;rename_i xs t;split at h;rename_i M;simp only[ζa]at h;subst h;obtain⟨_,e,rfl⟩:=r.og D;cases e;have C:d∉fr:=λC=>by have:=B d C;simp[SV.c6]at this
  have⟨es,Q,g,A,_⟩:=O d _ D C
  cases k with
  |zero=>simp[V.lvl]at hk|succ k=>
   simp only[V.lvl]at hk;have N:∀e∈fr,SV.dD e (L.drop o)=false:=λe P=>by
    have:=J e P d _ D;simp only[bN.c6]at this
    cases R:SV.dD e (L.drop o)with
    |false=>rfl|true=>
     exfalso;have:∀{l:Zw}{j:Nat},SV.dD e (l.drop j)=true->SV.dD e l=true:=by
      intro l
      induction l with
      |nil=>intro j h;simpa using h|cons a l S=>intro j h;cases j with
       |zero=>simpa using h|succ j=>simp only[SV.dD,or_eq_true];exact .inr (S (by simpa using h))
     rw[this R]at *;simp_all
   have T:xs.length=L.length:=by have:∀{l:Zw}{r:Zu},dh m n l=some r->r.length=l.length:=(by intro l;induction l with|nil=>intro r h;simp only[dh,ζa]at h;subst h;rfl|cons a l S=>intro r h;simp only[dh]at h;split at h;(next c U=>simp only[ζa]at h;subst h;simp[S U]);simp at h);exact this t
   have ad:dh m n (L.drop o)=some (xs.drop o):=by have:∀{l:Zw}{r:Zu}{j:Nat},dh m n l=some r->dh m n (l.drop j)=some (r.drop j):=(by intro l;induction l with|nil=>intro r j h;simp only[dh,ζa]at h;subst h;simp[dh]|cons a l S=>intro r j h;have h0:=h;simp only[dh]at h;split at h;rename_i c U;simp only[ζa]at h;subst h;(cases j with|zero=>exact h0|succ j=>exact S U);simp at h);exact this t
   have hb:=jx J O n (L.drop o) (xs.drop o) (Q.drop o) ad N (A.drop o) k hk;unfold borrow;simp only[V.closed,false_eq_true,if_false,g,ζb,Ob.rows,getElem?_cons_zero,if_pos (show o<=Q.length by rw[<-A.1,<-T];exact M),hb,map_some]
  simp at h;simp at h;simp at h
 |n,.el d i o,z,y,h,B,r,k,hk=>by cases n<;>simp[shut]at h|n,.yl id,z,y,h,B,r,k,hk=>by cases n<;>simp[shut]at h|n,.mp d,z,y,h,B,r,k,hk=>by simp only[shut]at h;split at h;rename_i ae D;simp only[ζa]at h;subst h;obtain⟨_,e,rfl⟩:=r.BH D;cases e;have C:d∉fr:=λC=>(by have:=B d C;simp[SV.c6]at this);have⟨W,g,X⟩:=O d _ D C;(cases k with|zero=>simp[V.lvl]at hk|succ k=>simp only[V.lvl]at hk;unfold borrow;simp only[V.closed,false_eq_true,if_false,g];rw[EW (xs:=ae) (ys:=W) X.1 λj u v E hv=>?_];rfl;have⟨⟨e1,e2⟩,e3⟩:=X.2 j u v E hv;exact⟨by rw[<-e1];exact ei k H1 (V.jW (jl e2)),e3.borrow k (Gw.1 hk j u E).2⟩);simp at h
 |0,.clo f a b,z,y,h,B,r,k,hk=>by simp[shut]at h|n+1,.clo f a b,z,y,h,B,r,k,hk=>by simp only[shut]at h;split at h;rename_i x1 x2 c U;simp only[ζa]at h;subst h;obtain⟨a',F,rfl,ra,rb⟩:=r.jD;(cases k with|zero=>simp[V.lvl]at hk|succ k=>simp only[V.lvl,ζh]at hk;have G:=jx J O n a x1 a' c (λd C=>by have:=B d C;simp only[SV.c6,or_eq_false_iff]at this;exact this.1) ra k hk.1;have Y:=jx J O n b x2 F U (λd C=>by have:=B d C;simp only[SV.c6,or_eq_false_iff]at this;exact this.2) rb k hk.2;by_cases w:(V.clo f a' F).closed=true;rw[ei _ _ w];simp only[V.closed,ζh]at w;rw[tf G w.1,tf Y w.2];unfold borrow;rw[if_neg w];simp only[G,Y]);simp at h|0,.tup l,z,y,h,B,r,k,hk=>by simp[shut]at h|n+1,.tup l,z,y,h,B,r,k,hk=>by simp only[shut]at h;obtain⟨xs,c,rfl⟩:=ζf.1 h;obtain⟨p,rfl,s⟩:=r.pn;cases k with|zero=>simp[V.lvl]at hk|succ k=>simp only[V.lvl]at hk;have G:=jx J O n l xs p c (λd C=>by have:=B d C;simpa[SV.c6]using this) s k hk;by_cases w:(V.tup p).closed=true;rw[ei _ _ w];simp only[V.closed]at w;rw[tf G w];unfold borrow;rw[if_neg w];simp only[G,map_some]
 |0,.agg l,z,y,h,B,r,k,hk=>by simp[shut]at h|n+1,.agg l,z,y,h,B,r,k,hk=>by simp only[shut]at h;obtain⟨xs,c,rfl⟩:=ζf.1 h;obtain⟨p,rfl,s⟩:=r.h_;cases k with|zero=>simp[V.lvl]at hk|succ k=>simp only[V.lvl]at hk;have G:=jx J O n l xs p c (λd C=>by have:=B d C;simpa[SV.c6]using this) s k hk;by_cases w:(V.agg p).closed=true;rw[ei _ _ w];simp only[V.closed]at w;rw[tf G w];unfold borrow;rw[if_neg w];simp only[G,map_some]
def jx{fr:Zv}(B:∀d∈fr,∀e ob,bB m e=some ob->ob.c6 d=false)(J:∀d ob,bB m d=some ob->d∉fr->dV ν m H1 Z d ob):
 ∀(n:Nat)(svs:Zw)(xs ys:Zu),dh m n svs=some xs->(∀d∈fr,SV.dD d svs=false)->b7 ν m H1 Z svs ys->∀k,V.kq k xs=true->gO (borrow k H1) ys=some xs
 |n,[],xs,ys,h,D,r,k,hk=>by simp only[dh,ζa]at h;subst h;rw[r.c8];rfl|n,sv::svs,xs,ys,h,D,r,k,hk=>by simp only[dh]at h;split at h;rename_i y s a O;simp only[ζa]at h;subst h;obtain⟨U,G,rfl,r1,r2⟩:=r.inv;simp only[V.kq,ζh]at hk;have w:=Hp B J n sv y U a (λd u=>by have:=D d u;simp only[SV.dD,or_eq_false_iff]at this;exact this.1) r1 k hk.1;have z:=jx B J n svs s G O (λd u=>by have:=D d u;simp only[SV.dD,or_eq_false_iff]at this;exact this.2) r2 k hk.2;simp only[gO,w,z];simp at h
end
end
def MP(n:Nat):V.kq n []=true:=by cases n<;>rfl
def Ku(n:Nat)(x:V)(r:Zu):V.kq n (x::r)=(V.lvl n x&&V.kq n r):=by cases n<;>rfl
mutual
def Br:∀{n:Nat}{x:V},V.lvl n x=true->V.lvl (n+1) x=true
 |0,.fsl ..,h=>by simp[V.lvl]at h|0,.fptr ..,h=>by simp[V.lvl]at h|0,.fmap ..,h=>by simp[V.lvl]at h|0,.agg ..,h=>by simp[V.lvl]at h|0,.tup ..,h=>by simp[V.lvl]at h|0,.clo ..,h=>by simp[V.lvl]at h|n+1,.fsl es xs,h=>by simp only[V.lvl]at h⊢;exact Ar h|n+1,.fptr cs,h=>by simp only[V.lvl]at h⊢;exact qM h|n+1,.fmap B,h=>by simp only[V.lvl]at h⊢;exact CF h|n+1,.agg cs,h=>by simp only[V.lvl]at h⊢;exact qM h|n+1,.tup cs,h=>by simp only[V.lvl]at h⊢;exact qM h|n+1,.clo f a b,h=>by simp only[V.lvl,ζh]at h⊢;exact⟨qM h.1,qM h.2⟩|0,.bool _,_|0,.int ..,_|0,.str _,_|0,.gN,_|0,.fZ,_|0,.q_,_|0,.dF,_|0,.bL,_|0,.hsl ..,_|0,.hptr ..,_|0,.yld _,_|0,.hmap _,_=>rfl|_+1,.bool _,_|_+1,.int ..,_|_+1,.str _,_|_+1,.gN,_|_+1,.fZ,_|_+1,.q_,_|_+1,.dF,_|_+1,.bL,_|_+1,.hsl ..,_|_+1,.hptr ..,_|_+1,.yld _,_|_+1,.hmap _,_=>rfl
def qM:∀{n:Nat}{x:Zu},V.kq n x=true->V.kq (n+1) x=true
 |n,[],_=>MP _|n,a::l,h=>by rw[Ku,ζh]at h⊢;exact⟨Br h.1,qM h.2⟩
def Ar:∀{n:Nat}{x:Zt},V.oE n x=true->V.oE (n+1) x=true
 |n,[],_=>by simp only[V.oE]|n,a::l,h=>by simp only[V.oE,ζh]at h⊢;exact⟨qM h.1,Ar h.2⟩
def CF:∀{n:Nat}{x:a_ (V×V)},V.rP n x=true->V.rP (n+1) x=true
 |n,[],_=>by simp only[V.rP]|n,(k,v)::l,h=>by simp only[V.rP,ζh]at h⊢;exact⟨⟨Br h.1.1,Br h.1.2⟩,CF h.2⟩
end
def vS{n m:Nat}(h:n<=m){x:V}(B:V.lvl n x=true):V.lvl m x=true:=by induction h with|refl=>exact B|step _ u=>exact Br u
def nW{n m:Nat}(h:n<=m){x:Zu}(B:V.kq n x=true):V.kq m x=true:=by induction h with|refl=>exact B|step _ u=>exact qM u
def NM{n m:Nat}(h:n<=m){x:Zt}(B:V.oE n x=true):V.oE m x=true:=by induction h with|refl=>exact B|step _ u=>exact Ar u
def Pt{n m:Nat}(h:n<=m){x:a_ (V×V)}(B:V.rP n x=true):V.rP m x=true:=by induction h with|refl=>exact B|step _ u=>exact CF u
mutual
def yV:∀x:V,∃n,V.lvl n x=true
 |.fsl es xs=>let⟨n,h⟩:=FY xs;⟨n+1,by simp only[V.lvl];exact h⟩|.fptr u=>let⟨n,h⟩:=kT u;⟨n+1,by simp only[V.lvl];exact h⟩|.fmap w=>let⟨n,h⟩:=Ib w;⟨n+1,by simp only[V.lvl];exact h⟩|.agg u=>let⟨n,h⟩:=kT u;⟨n+1,by simp only[V.lvl];exact h⟩|.tup u=>let⟨n,h⟩:=kT u;⟨n+1,by simp only[V.lvl];exact h⟩|.clo f a b=>let⟨n,h⟩:=kT a;let⟨m,k⟩:=kT b;⟨max n m+1,by simp only[V.lvl,ζh];exact⟨nW (le_max_left _ _) h,nW (le_max_right _ _) k⟩⟩|.bool _|.int ..|.str _|.gN|.fZ|.q_|.dF|.bL|.hsl ..|.hptr ..|.yld _|.hmap _=>⟨0,rfl⟩
def kT:∀x:Zu,∃n,V.kq n x=true
 |[]=>⟨0,by simp only[V.kq]⟩|a::l=>let⟨n,h⟩:=yV a;let⟨m,k⟩:=kT l;⟨max n m,by simp only[V.kq,ζh];exact⟨vS (le_max_left _ _) h,nW (le_max_right _ _) k⟩⟩
def FY:∀x:Zt,∃n,V.oE n x=true
 |[]=>⟨0,by simp only[V.oE]⟩|a::l=>let⟨n,h⟩:=kT a;let⟨m,k⟩:=FY l;⟨max n m,by simp only[V.oE,ζh];exact⟨nW (le_max_left _ _) h,NM (le_max_right _ _) k⟩⟩
def Ib:∀x:a_ (V×V),∃n,V.rP n x=true
 |[]=>⟨0,by simp only[V.rP]⟩|(a,b)::l=>let⟨n,h⟩:=yV a;let⟨m,k⟩:=yV b;let⟨q,p⟩:=Ib l;⟨max n (max m q),by simp only[V.rP,ζh];exact⟨⟨vS Za h,vS Za k⟩,Pt Za p⟩⟩
end
section
variable{Rv:Nat->Prop}{ν ν':Nu}{Z Z':Nat->Prop}{st st':St}{m m':Tb bN}{F F':Zo}{H H' H1:bC}{N:Nat->Zk}{S:Sys}{c:cg}
def Gz:∀(l:Zw)(i s:Nat)(sv:SV),bB (vC i l) s=some sv->∃j,s=i+j/\l[j]?=some sv
 |[],i,s,sv,h=>by simp[vC,bB]at h|x::l,i,s,sv,h=>by simp only[vC,bB]at h;split at h;(next e=>simp only[ζa]at h;subst h;exact⟨0,Za,rfl⟩);have⟨j,a,B⟩:=Gz l (i+1) s sv h;exact⟨j+1,Za,by simpa using B⟩
def vI{svs:Zw}{args:Zu}(h:b7 ν m H Z svs args):∀s sv,bB (vC 0 svs) s=some sv->di ν m H Z sv (get args s):=λs sv u=>by obtain⟨j,rfl,w⟩:=Gz svs 0 s sv u;have⟨y,z,r⟩:=h.get w;rw[Nat.zero_add,ER args j y z];exact r
def ve{az:Zu}(a:V.cG az=true):R (λ_=>(0,0)) (λ_=>False) (start (az.map .v) []) az []/\b7 (λ_=>(0,0)) [] [] (λ_=>False) (az.map .v) az:=by have h:b7 (λ_=>(0,0)) [] [] (λ_=>False) (az.map .v) az:=b7.qm (dn.same a);refine⟨⟨vI h,λd ob u=>by simp[start,bB]at u,λd z ob w u=>by simp[start,bB]at u,λd ob u=>by simp[start,bB]at u,λid h=>h.elim,⟨λid es B h=>h.elim⟩⟩,h⟩
def D4{xs ys:Zu}(h:dn H Z xs ys):((result xs).scalar=true->result ys=result xs)/\(result ys).scalar=(result xs).scalar:=by cases xs with|nil=>rw[h.c8];exact⟨λ_=>rfl,rfl⟩|cons x xs=>obtain⟨y,ys,rfl,a,u⟩:=h.inv;cases xs with|nil=>rw[u.c8];exact a.scalar|cons x2 xs=>obtain⟨w,ys,rfl,z,B⟩:=u.inv;exact FR.scalar (.tup _ _ h.1 h.2)
def AW(Y:jh S c){f:Zk}{az ys:Zu}{rs:Zw}{m':dQ}(g:V.cG az=true)(h:c f (az.map .v) []=some (rs,m'))(O:dh m' 8 rs=some ys):
 ∃n r H2,(∀k,n<=k->run S.E k (.fn f) az []=some (r,H2))/\(∀k,n<=k->borrow k H2 r=some (result ys))/\(result ys).good=true:=by
 have⟨X,r1⟩:=ve g;obtain⟨n,y,H2,ν',Z',st',F',B,i,rfl,Z,Q,T,_⟩:=Y f _ _ _ _ h _ _ az [] (.inr rfl) X r1;subst Z;have C:=lU T.obj 8 rs ys B O Q;have⟨L,U⟩:=kT ys;refine⟨max n (L+1),result B,H2,λk e=>(mN S.E (le_trans (le_max_left ..) e)).go _ _ _ _ i,λk e=>?_,?_⟩
 .have w:=jx (fr:=[]) (λd D=>by simp at D) (λd ob D _=>T.obj d ob D) 8 rs _ _ O (λd D=>by simp at D) Q
  obtain⟨k,rfl⟩:∃j,k=j+1:=⟨k-1,Za⟩
  have W:=w k (nW Za U)
  have m:=w (k+1) (nW Za U)
  have⟨e1,e2⟩:=iC m
  cases B with
  |nil=>obtain rfl:=List.eq_nil_of_length_eq_zero e1;exact ei _ H2 rfl|cons z B=>
   cases B with
   |nil=>
    obtain⟨y,rfl⟩:∃y,ys=[y]:=by cases ys with|nil=>simp at e1|cons y l=>cases l with|nil=>exact⟨y,rfl⟩|cons _ _=>simp at e1
    have⟨x,o,I⟩:=e2 0 y rfl;cases o;exact I
   |cons z2 B=>
    obtain⟨y,G,l,rfl⟩:∃y G l,ys=y::G::l:=by cases ys with|nil=>simp at e1|cons y l=>cases l with|nil=>simp at e1|cons G l=>exact⟨y,G,l,rfl⟩
    by_cases u:(V.tup (z::z2::B)).closed=true
    .simp only[result];rw[ei _ _ u];simp only[V.closed]at u;rw[tf W u]
    simp only[result];unfold borrow;rw[if_neg u];simp only[W,map_some]
 have:∀{l:Zu},V.cG l=true->(result l).good=true:=by
  intro l J
  cases l with
  |nil=>rfl|cons a l=>cases l with
   |nil=>simp only[V.cG,ζh]at J;exact J.1|cons b l=>simp only[result,V.good];exact J
 exact this C
def CT{f:Zk}{args az:Zu}{y r:V}{H2:bC}{n:Nat}(a:∀k,n<=k->run S.E k (.fn f) az []=some (r,H2))(D:∀k,n<=k->borrow k H2 r=some y)(b:y.good=true){B:Nat}(G:∀k,B<=k->borrows k H args=some az):
 ∀k,max n B<=k->bY (run S.E k) f args H=some y:=λk c=>by
 unfold bY;simp only[mW,G k Za,a k Za,D k Za,V.jW b,if_true]
def qo(B:∀id,Z id->(bD H id).isSome=true){T:Zv}{id:Nat}(h:Z id):bD (cV H T) id=bD H id:=by
 have:=B id h;unfold bD at this⊢;rw[g_];cases u:H[id]?with|none=>rw[u]at this;simp at this|some ob=>
  rw[u]at this;simp only[map_some,ζb];by_cases e:id∈T
  .rw[if_pos e];cases ob<;>first|rfl|simp[Ob.rows]at this
  rw[if_neg e]
def sU{T:Zv}{id:Nat}(h:id∉T):(cV H T)[id]?=H[id]?:=by rw[g_];cases H[id]?<;>simp[h]
def yj{az:Zu}{args:Zw}{ys:Zu}(B:∀d ob,bB m d=some ob->dV ν m H Z d ob)(h:dh m 8 args=some az)(r:b7 ν m H Z args ys):V.cG az=true:=lU B 8 args az ys h r
def vv{az:Zu}{args:Zw}{ys:Zu}(r:R ν Z st F H)(B:b7 ν st.m H Z args ys)(h:dh st.m 8 args=some az):∃n,∀k,n<=k->borrows k H ys=some az:=
 let⟨n,w⟩:=kT az
 ⟨n,λk a=>jx (fr:=[]) (λd u=>Ze) (λd ob u _=>r.obj d ob u) 8 args az ys h (λd u=>Ze) B k (nW a w)⟩
def mh{b id:Nat}(h:id<b):bD (H.take b) id=bD H id:=by unfold bD;grind
def IL{b:Nat}{fr:Zv}{az:Zu}{args:Zw}{ys:Zu}(r:R ν Z st F H)(B:b7 ν st.m H Z args ys)(h:dh st.m 8 args=some az)
 (G:∀d ob,bB st.m d=some ob->cE ob=true->d∉fr->(ν d).1<b)(D:∀id,Z id->id<b)(a:gb st.m fr args=true):∃n,∀k,n<=k->borrows k (H.take b) ys=some az:=by
 have⟨n,z⟩:=kT az;refine⟨n,λk f=>?_⟩
 unfold gb at a;have c:∀d∈fr,SV.dD d args=false/\rD d st.m=false:=λd u=>by grind
 have w:∀id,Z id->Z id/\bD (H.take b) id=bD H id:=λid h=>⟨h,mh (D id h)⟩
 refine jx (λd u e ob C=>xw (c d u).2 C) (λd ob u I=>?_) 8 args az ys h (λd u=>(c d u).1) (B.mono w λe _=>iE ν st.m e) k (nW f z)
 exact dV.mono w rfl (λJ=>Zd) (λe _=>iE ν st.m e) (r.obj d ob u)
def HR(hS:jh S c){ops:Zz}{place:bt (Nat×Nat)}{dr nw:Zl}{fr:Zv}(ae:dr=place.isSome)(ab:∀b i,place=some (b,i)->nw=true->dJ ops i=true)
 (m:∀b i,place=some (b,i)->(∀d ob,bB st.m d=some ob->cE ob=true->d∉fr->(ν d).1<b)/\∀id,Z id->id<b)
 (r:R ν Z st F H){args:Zw}{ys:Zu}(o:b7 ν st.m H Z args ys){f:Zk}(e:jZ S.E ops place f=false){az:Zu}(K:dh st.m 8 args=some az)(a:(!dr||nw)=true\/gb st.m fr args=true)
 {rs:Zw}{m':dQ}{J:Zu}(M:c f (az.map .v) []=some (rs,m'))(l:dh m' 8 rs=some J)(U:(result J).scalar=true\/(dA args).isSome=true):
 ∃n H',(∀k,n<=k->dU S.E (run S.E k) ops place f ys H=some (result J,H'))/\R ν Z st F H'/\di ν st.m H' Z (.v (result J)) (result J)/\Ev Rv ν Z st H ν Z st H':=by
 have hg:=yj r.obj K o;have⟨N,rr,H2,p,h2,P⟩:=AW hS hg M l;have⟨n2,hb⟩:=vv r o K;have I:=CT p h2 P hb;generalize hn:max N n2=n at I;have C:=I;have Q:∀k,n<=k->c7 (cm k H) ys=c7 (cm n H) ys:=λk e=>wE e (hb n Za)
 have G:∀{H'},di ν st.m H' Z (.v (result J)) (result J):=.v _ _ (.same _ P);have D:∀T:Zv,(∀id∈T,Z id)->R ν Z st F (cV H T)/\Ev Rv ν Z st H ν Z st (cV H T):=λT X=>
  ⟨r.heap (λid ho=>sU λz=>by obtain⟨d,ob,g1,g2,rfl⟩:=ho;exact r.apart d ob g1 g2 (X _ z)) (λid z=>qo r.zrow z),
   Ev.heap (by rw[jC];grind) (λid _ _ l _=>sU λz=>l (X id z)) (λid z=>qo r.zrow z)⟩
 have L:(dA args).isSome=true->(∀id∈c7 (cm n H) ys,Z id)/\True:=λY=>by
  have⟨xs,Y⟩:=isSome_iff_exists.1 Y;have q:=o.dA Y;exact⟨λid z=>by
   have⟨j,u,s,aa⟩:=o_ z;have hj:j<xs.length:=by rw[q.1];grind
   exact FR.cm r.deep n (q.2 j _ u (ζd hj) s) id aa,trivial⟩
 cases place with
 |none=>
  by_cases w:(result J).scalar=true
  .exact⟨n,H,λk B=>by simp[dU,e,C k B,w],r,G,.refl⟩
  obtain⟨X,-⟩:=L (U.resolve_left w);have⟨t,v⟩:=D _ X;exact⟨n,cV H (c7 (cm n H) ys),λk B=>by simp[dU,e,C k B,w,mW,Q k B],t,G,v⟩
 |some bi=>
  have⟨b,i⟩:=bi;have⟨o1,o2⟩:=m b i rfl;have ah:=ae;have g:∀k,bY (run S.E k) f ys (H.take b)=some (result J)->(result J).scalar=false->iw (H.take b) (c7 (cm k (H.take b)) ys)=true/\c7 (cm k H) ys=c7 (cm k (H.take b)) ys:=λk _ ai=>by have⟨xs,Y⟩:=isSome_iff_exists.1 (U.resolve_left Zd);have q:=o.dA Y;have W:∀id,Z id->Z id/\bD (H.take b) id=bD H id:=λid h=>⟨h,mh (o2 id h)⟩;have hd:Deep (H.take b) Z:=⟨λid es ys l hr c M u s=>by rw[(W id l).2]at hr;have⟨x,Y⟩:=r.deep.row id es ys l hr c M u s;exact⟨x,Y.mono W⟩⟩;have hZ:∀id∈c7 (cm k (H.take b)) ys,Z id:=λid z=>(by have⟨j,u,s,aa⟩:=o_ z;have hj:j<xs.length:=(by rw[q.1];grind);exact FR.cm hd k ((q.2 j _ u (ζd hj) s).mono W) id aa);refine⟨?_,sS _ λid z=>o2 id (hZ id z)⟩;unfold iw;rw[all_eq_true];intro id z;have p:=r.zrow id (hZ id z);rw[<-(W id (hZ id z)).2]at p;exact p
  rcases a with a|a
  .have ad:=ab b i rfl Zd
   by_cases w:(result J).scalar=true
   .refine⟨n,H,λk B=>?_,r,G,.refl⟩
    simp[dU,e];split
    next y E=>have:=oV E;rw[C k B]at this;cases this;simp[w]
    simp[ad,C k B,w]
   obtain⟨X,-⟩:=L (U.resolve_left w);have⟨t,v⟩:=D _ X;refine⟨n,cV H (c7 (cm n H) ys),λk B=>?_,t,G,v⟩
   simp only[dU,e,mW,false_eq_true,if_false];split
   .rename_i y E;have A:=oV E;rw[C k B]at A;cases A;have⟨f1,f2⟩:=g k E (by simpa using w)
    rw[if_neg w,if_pos f1,<-f2,Q k B]
   simp only[ad,if_true,C k B];rw[if_neg w,Q k B]
  have⟨n3,af⟩:=IL r o K o1 o2 a;have O:=CT p h2 P af
  by_cases w:(result J).scalar=true
  .refine⟨max N n3,H,λk B=>?_,r,G,.refl⟩
   simp[dU,e];have:=O k B;simp[this,w]
  obtain⟨X,-⟩:=L (U.resolve_left w);have⟨t,v⟩:=D _ X;refine⟨max n (max N n3),cV H (c7 (cm n H) ys),λk B=>?_,t,G,v⟩
  simp only[dU,e,mW,false_eq_true,if_false];have A:=O k Za
  have⟨f1,f2⟩:=g k A (by simpa using w)
  simp only[A];rw[if_neg w,if_pos f1,<-f2,Q k Za]
def DH{α:Type}{k:Nat}{v:α}:∀{ds:Zv}{g:Tb α},bB (oF ds g) k=some v->k∉ds
 |[],_,_=>Zc|d::ds,g,h=>by have a:=DH (ds:=ds) h;have u:=(ni (nv h)).1;grind
def wU:∀{args:Zw}{ds:Zv},rowsOf args=some ds->∀(j:Nat)u,args[j]?=some u->(∃x,u=.v x)\/∃d,u=.own d/\d∈ds
 |[],_,_,j,u,hu=>Ze|.v x::r,ds,h,j,u,hu=>by cases j with|zero=>grind|succ j=>exact wU (by simpa[rowsOf]using h) j u Zd
 |.own d::r,ds,h,j,u,hu=>by obtain⟨es,a,rfl⟩:=ζf.1 h;cases j with|zero=>grind|succ j=>rcases wU a j u Zd with k|⟨w,k1,k2⟩;grind;grind
 |.ptr ..::_,_,h,_,_,_|.el ..::_,_,h,_,_,_|.mp _::_,_,h,_,_,_|.clo ..::_,_,h,_,_,_|.tup _::_,_,h,_,_,_|.agg _::_,_,h,_,_,_|.yl _::_,_,h,_,_,_=>by simp[rowsOf]at h
def uE:∀{args:Zw}{ds:Zv}{n:Nat}{az:Zu},rowsOf args=some ds->dh m n args=some az->∀d∈ds,∃ob,bB m d=some ob
 |[],ds,_,_,h,_,d,a=>by simp[rowsOf]at h;grind|x::r,ds,n,az,h,B,d,a=>by
  simp[dh]at B;split at B;rotate_left;cases B;rename_i y s b D
  cases x with
  |v x=>exact uE (by simpa[rowsOf]using h) D d a|own e=>obtain⟨es,g1,rfl⟩:=ζf.1 h;rcases mem_cons.1 a with rfl|a;cases n<;>(simp[shut]at b;grind);exact uE g1 D d a
  |_=>simp[rowsOf]at h
def zW{H0:bC}(U:Deep H0 Z)(Y:∀d ob,bB m d=some ob->cE ob=true->(H0[(ν d).1]?).isSome=true->dV ν m H0 Z d ob){args:Zw}{ys:Zu}(W:b7 ν m H0 Z args ys){ds:Zv}(f:rowsOf args=some ds)
 (J:∀d∈ds,∃ob,bB m d=some ob){q id:Nat}(h:id∈c7 (cm q H0) ys):Z id\/∃d ob,d∈ds/\bB m d=some ob/\cE ob=true/\(ν d).1=id/\∃j es off len:Nat,ys[j]?=some (V.hsl id es off len):=by
 have⟨j,y,T,a⟩:=o_ h;have X:j<args.length:=by rw[W.1];grind
 have b:=ζd X;have D:=W.2 j _ y b T;rcases wU f j _ b with⟨x,e⟩|⟨d,e,I⟩
 .rw[e]at D;cases D with|v _ _ hf=>exact .inl (FR.cm U q hf id a)
 rw[e]at D;have⟨ob,C⟩:=J d I;obtain⟨k,es,G,rfl,rfl⟩:=D.jF C
 by_cases w:cN k=true
 .cases q with
  |zero=>simp[cm]at a|succ q=>
  have L:ri (ν d) k es G.length=.hsl (ν d).1 es (ν d).2 G.length:=by cases k<;>first|rfl|cases w
  rw[L]at a;have g:cE (.sl k es G)=true:=w
  by_cases z:(H0[(ν d).1]?).isSome=true
  .have o:=Y d _ C g z;simp[dV,w]at o;have⟨s,l,_,_,n,_⟩:=o;simp only[cm,V.closed,false_eq_true,if_false,l,mem_cons]at a;rcases a with rfl|a
   .grind
   have⟨i,u,b,O⟩:=o_ a;have⟨c,p,Q⟩:=List.mem_flatten.1 (mem_of_getElem? b);have⟨x,r⟩:=n c (mem_of_mem_drop (List.mem_of_mem_take p)) u Q;exact .inl (FR.cm U q r id O)
  have B:H0[(ν d).1]?=none:=Zd
  simp[cm,V.closed,B]at a
  grind
 have S:(ri (ν d) k es G.length).closed=true:=by cases k<;>first|rfl|(exact absurd rfl w)
 rw[yI q H0 S]at a;cases a
theorem Px (hS:jh S c) {ops:a_ Oper} {place:bt (Nat×Nat)} {nw:Bool} (U:∀b i,place=some (b,i)->nw=true->dJ ops i=true)
 (hold:∀b i,place=some (b,i)->∀id,Z id->id<b)
 (r:R ν Z st F H) {args:a_ SV} {ys:a_ V} (ha:b7 ν st.m H Z args ys) {f:FuncId} (hk:S.E.keep f=false) {az:a_ V} (hs:dh st.m 8 args=some az) (ab:(!place.isSome||nw)=true)
 {rs:a_ SV} {m':dQ} {J:a_ V} (hc:c f (az.map .v) []=some (rs,m')) (W:dh m' 8 rs=some J) (O:(result J).scalar=false) {ds:a_ Nat} (hr:rowsOf args=some ds) (Y:∀d∈ds,∃ob,bB st.m d=some ob) :
 ∃n H',(∀k,n<=k->dU S.E (run S.E k) ops place f ys H=some (result J,H'))/\R ν Z { st with m:=oF ds st.m } F H'/\di ν (oF ds st.m) H' Z (.v (result J)) (result J)/\Ev Rv ν Z st H ν Z { st with m:=oF ds st.m } H':=by
 have hg:=yj r.obj hs ha;obtain⟨n1,rr,H2,h1,h2,h3⟩:=AW hS hg hc W;obtain⟨n2,hb⟩:=vv r ha hs;have C:=CT h1 h2 h3 hb;generalize hn:max n1 n2=n at C;have D:=C;have L:∀k,n<=k->c7 (cm k H) ys=c7 (cm n H) ys:=λk hk=>wE hk (hb n Za)
 have X:∀{H'},di ν (oF ds st.m) H' Z (.v (result J)) (result J):=.v _ _ (.same _ h3);have B:∀d ob,bB (oF ds st.m) d=some ob->bB st.m d=some ob:=λd ob h=>nv h
 have hT:∀id∈c7 (cm n H) ys,Z id\/∃d ob,d∈ds/\bB st.m d=some ob/\cE ob=true/\(ν d).1=id/\∃j es off len:Nat,ys[j]? = some (V.hsl id es off len):=λid w=>zW r.deep (λd ob h _ _=>r.obj d ob h) ha hr Y w
 have r2  := r.less (λ_ _ h=>h) B
 have q1  := r2.heap (λid ho=>sU λw=>by
  obtain⟨d,ob,g1,g2,rfl⟩:=ho;rcases hT _ w with h|⟨d',Q,k1,k2,k3,k4,_⟩
  .exact r.apart d ob (B d ob g1) g2 h
  have:=r.inj d' d Q ob k2 (B d ob g1) k3 g2 k4;subst this;exact DH g1 k1) (λid w=>qo r.zrow w)
 have q2:Ev Rv ν Z st H ν Z { st with m:=oF ds st.m } (cV H (c7 (cm n H) ys)):=(Ev.heap (by rw[jC];grind) (λid _ ho W _=>sU λw=>by
  rcases hT _ w with h|⟨d',Q,k1,k2,k3,k4,_⟩
  .simp_all
  exact ho ⟨d',Q,k2,k3,k4⟩) (λid w=>qo r.zrow w)).trans (Ev.less  B)
 cases place with
 | none=>exact⟨n,cV H (c7 (cm n H) ys),λk z=>by simp[dU,jZ,hk,D k z,O,mW,L k z],q1,X,q2⟩
 | some bi=>
  obtain⟨b,i⟩:=bi;have o2:=hold b i rfl;have fits:∀k,bY (run S.E k) f ys (H.take b)=some (result J)->iw (H.take b) (c7 (cm k (H.take b)) ys)=true/\c7 (cm k H) ys=c7 (cm k (H.take b)) ys:=λk hi=>by
   have G:∀id,Z id->Z id/\bD (H.take b) id=bD H id:=λid h=>⟨h,mh (o2 id h)⟩
   have hd:Deep (H.take b) Z:=⟨λid es ys W hr c hc u hu=>by
    rw[(G id W).2]at hr;obtain⟨x,hx⟩:=r.deep.row id es ys W hr c hc u hu;exact⟨x,hx.mono G⟩⟩
   have ad  := ha.mono G λe _=>iE ν st.m e
   have ae:∀d ob,bB st.m d=some ob->cE ob=true->((H.take b)[(ν d).1]?).isSome=true->dV ν st.m (H.take b) Z d ob:=λd ob h hb af=>
    dV.mono G rfl (λ_=>by
     grind) (λe _=>iE ν st.m e) (r.obj d ob h)
   have aa:∀(j:Nat) (y:V),ys[j]? = some y->(borrow k (H.take b) y).isSome=true:=λj y T=>by
    unfold bY at hi;rw[mW]at hi;split at hi
    .rename_i ah ai;obtain⟨_,hm⟩:=iC ai;have hj:=(ζe.1 T).1;obtain⟨x,ak,al⟩:=hm j _ (ζd (show j<ah.length by omega))
     grind
    cases hi
   have hZ:∀id∈c7 (cm k (H.take b)) ys,id<b/\(bD (H.take b) id).isSome=true:=λid w=>by
    rcases zW hd ae ad hr Y w with h|⟨d,ob,k1,k2,k3,k4,j,es,off,len,T⟩
    .have:=r.zrow id h
     grind
    have I:=aa j _ T
    cases k with
    | zero=>simp[borrow,V.closed]at I
    | succ k=>
    simp only[borrow,V.closed,Bool.false_eq_true,if_false]at I;split at I
    next am xs hx=>obtain⟨o,ho,_⟩:=ζg.1 hx;have:=(ζe.1 ho).1;rw[List.length_take]at this;exact⟨by omega,by unfold bD;rw[hx];rfl⟩
    cases I
   refine⟨?_,sS _ λid w=>(hZ id w).1⟩
   unfold iw;rw[List.all_eq_true];exact λid w=>(hZ id w).2
  refine⟨n,cV H (c7 (cm n H) ys),λk z=>?_,q1,X,q2⟩
  simp only[dU,jZ,hk,mW,Bool.false_and,Bool.false_eq_true,if_false];split
  next y T=>have h9:=oV T;rw[D k z]at h9;cases h9;obtain⟨f1,f2⟩:=fits k T;rw[if_neg (by rw[O];simp),if_pos f1,<-f2,L k z]
  have aj:=U b i rfl (by simpa using ab)
  simp only[aj,if_true,D k z];rw[if_neg (by rw[O];simp),L k z]
def GJ{xs ys:Zt}(h:fR H Z xs ys)(B:nH xs=true):ys=xs:=by
 refine(List.ext_getElem h.1 λj a z=>?_).symm;have:=h.2 j _ _ (ζd a) (ζd z);have w:=by unfold nH at B;rw[all_eq_true]at B;have:=B _ (List.getElem_mem a);rw[all_eq_true]at this;exact pY.2 λk u b=>this u (mem_of_getElem? b)
 exact(this.scalar.1 w).symm
def Cd:∀{B:Zv}{os:Tb bN}{g:Tb bN},kF g B=some os->∀k ob,bB os k=some ob->bB g k=some ob
 |[],os,g,h,k,ob,hk=>by simp[kF]at h;subst h;simp[bB]at hk|n::r,os,g,h,k,ob,hk=>by simp only[kF]at h;split at h;rename_i v t a D;cases h;simp only[bB]at hk;split at hk;(next e=>subst e;cases hk;exact a);exact Cd D k ob hk;cases h
def GV{args:Zw}{os:dQ}(h:handed m args=some os):∀k ob,bB os k=some ob->bB m k=some ob:=Cd h
mutual
def No{d:Nat}:∀{x:SV},x.c6 d=true->d∈x.C_
 |.v _,h=>by simp[SV.c6]at h|.own e,h|.ptr e _,h|.el e _ _,h|.mp e,h=>by simp[SV.c6]at h;simp[SV.C_,h]|.clo _ a b,h=>by simp only[SV.c6,or_eq_true]at h;simp only[SV.C_,mem_append];rcases h with h|h;exact .inl (th h);exact .inr (th h)
 |.tup l,h|.agg l,h=>by simp only[SV.c6]at h;simp only[SV.C_];exact th h|.yl _,h=>by simp[SV.c6]at h
def th{d:Nat}:∀{l:Zw},SV.dD d l=true->d∈SV.wH l
 |[],h=>by simp[SV.dD]at h|x::r,h=>by simp only[SV.dD,or_eq_true]at h;simp only[SV.wH,mem_append];rcases h with h|h;exact .inl (No h);exact .inr (th h)
end
def zX{D:Zv}{ob:bN}(h:within D ob=true){e:Nat}(B:ob.c6 e=true):e∈D:=by cases ob with|box w=>unfold within at h;rw[all_eq_true]at h;simpa using h e (th B)|sl k es z=>simp[bN.c6]at B|mp u=>simp[bN.c6]at B
def B7{D:Zv}:∀{l:Zv}{a b:Tb bN},xd D m' l a=some b->(∀k∈l,bB b k=bB m' k/\∃ob,bB m' k=some ob/\within D ob=true)/\∀k,k∉l->bB b k=bB a k
 |[],a,b,h=>by simp[xd]at h;grind|d::r,a,b,h=>by simp[xd]at h;split at h;rename_i ob B;split at h;rename_i J;have⟨g,G⟩:=B7 h;refine⟨λk c=>?_,λk c=>?_⟩;by_cases f:k∈r;grind;have e:k=d:=Zd;subst e;exact⟨by rw[G k f,cI,B],ob,B,J⟩;simp at c;rw[G k c.2,dO _ _ (Ne.symm c.1)];grind;grind
def D1{l:Zv}{a b:Tb bN}(h:mq m' l a=some b):(∀k∈l,bB b k=bB m' k/\∃ob,bB m' k=some ob/\within l ob=true)/\∀k,k∉l->bB b k=bB a k:=B7 h
def mem_keys:∀{os:dQ}{k:Nat},k∈os.map (·.1)↔∃ob,bB os k=some ob
 |[],k=>by simp[bB]|(d,o)::os,k=>by simp[bB];by_cases e:d=k;simp_all;rw[if_neg e,<-mem_keys];grind
def sF:∀{l:Zw}{j:Nat}{u:SV},SV.vn l=true->l[j]?=some u->u.bare=true
 |[],j,u,h,B=>by simp at B|x::r,j,u,h,B=>by simp only[SV.vn,ζh]at h;cases j with|zero=>simp at B;subst B;exact h.1|succ j=>exact sF h.2 (by simpa using B)
def di.bare{Z2:Nat->Prop}{sv:SV}{y:V}(r:di ν m H Z sv y):sv.bare=true->di ν m H Z2 sv y:=by induction r with|v x y h=>intro z;have z:x.scalar=true:=z;rw[(h.scalar.1 z)];exact .v _ _ (.same _ (jl z))|own d y h=>intro _;exact .own d y h|ptr d o y h=>intro _;exact .ptr d o y h|el d i o y h=>intro _;exact .el d i o y h|mp d y h=>intro _;exact .mp d y h|clo f a b B G C z hva I w D=>intro h;simp only[SV.bare,ζh]at h;exact .clo f a b B G C z (λj u v c e=>w j u v c e (sF h.1 c)) λj u v c e=>D j u v c e (sF h.2 c)|tup a B C hva w=>intro h;exact .tup a B C λj u v c e=>w j u v c e (sF h c)|agg a B C hva w=>intro h;exact .agg a B C λj u v c e=>w j u v c e (sF h c)|yl id=>intro _;exact .yl id
def dV.bare{Z2:Nat->Prop}{d:Nat}{ob:bN}(h:ob.bare=true)(o:dV ν m H Z d ob):dV ν m H Z2 d ob:=by cases ob with|box D=>have⟨es,w,b,z,B⟩:=o;exact⟨es,w,b,⟨z.1,λj u v a c=>(z.2 j u v a c).bare (sF h a)⟩,B⟩|sl k es G=>cases h|mp C=>cases h
def yK(hS:jh S c){f:Zk}(ae:S.E.keep f=true)(r:R ν Z st F H){args:Zw}{ys:Zu}(ha:b7 ν st.m H Z args ys){os:dQ}(hh:handed st.m args=some os)
 {rs:Zw}{m':dQ}{J:Tb bN}(hc:c f args os=some (rs,m'))(x:mq m' (os.map (·.1)) st.m=some J):
 ∃n H' U Z' G F1 K,(∀k,n<=k->run S.E k (.fn f) ys H=some (result K,H'))/\G.m=m'/\b7 U m' H' Z' rs K/\R U Z' G F1 H'/\(∀e ob,bB m' e=some ob->e∉os.map (·.1)->cE ob=true->H.length<=(U e).1)/\
  R ν Z' {st with m:=J} F H'/\Ev Rv ν Z st H ν Z' {st with m:=J} H'/\(∀e ob',bB J e=some ob'->∃ob,bB st.m e=some ob/\ν e=ν e/\sameShape ob ob')/\
  ((∀k∈os.map (·.1),xO J k=true)->R ν Z {st with m:=J} F H'/\Ev Rv ν Z st H ν Z {st with m:=J} H'):=by
 have u:=GV hh;have ab:=ha.mono (λid h=>⟨h,rfl⟩) λe _ ob' h=>⟨ob',u e ob' h,rfl,.refl _⟩
 have r0:R ν Z (start args os) ys H:=by refine⟨vI ab,λd ob hd=>?_,λd d' ob ob' a B=>r.inj d d' ob ob' (u d ob a) (u d' ob' B),λd ob h=>r.apart d ob (u d ob h),r.zrow,r.deep⟩;exact dV.mono (λid h=>⟨h,rfl⟩) rfl (λ_=>rfl) (λe _ ob' h=>⟨ob',u e ob' h,rfl,.refl _⟩) (r.obj d ob (u d ob hd))
 obtain⟨n,y,H',U,Z',G,F1,K,e1,rfl,rfl,e2,e3,ev⟩:=hS f args os rs m' hc ν Z ys H (.inl ae) r0 ab;have⟨M,b2⟩:=D1 x;have I:∀k ob',k∈os.map (·.1)->bB G.m k=some ob'->∃ob,bB os k=some ob/\U k=ν k/\sameShape ob ob':=λk ob' g h=>ev.pin k g ob' h
 have L:∀id,e9 ν os id->e9 ν st.m id:=λid⟨k,o,a,B,C⟩=>⟨k,o,u k o a,B,C⟩
 have A:∀ob ob':bN,sameShape ob ob'->cE ob'=cE ob:=λob ob' h=>by cases ob<;>cases ob'<;>simp[sameShape]at h;simp[cE,h.1];rfl;rfl
 have D:∀k ob',bB J k=some ob'->∃ob,bB st.m k=some ob/\sameShape ob ob'/\(k∈os.map (·.1)/\bB G.m k=some ob'/\U k=ν k/\bB os k=some ob/\within (os.map (·.1)) ob'=true\/k∉os.map (·.1)/\ob'=ob):=λk ob' h=>by by_cases g:k∈os.map (·.1);grind;rw[b2 k g]at h;exact⟨ob',h,.refl _,.inr ⟨g,rfl⟩⟩
 have z:∀k ob,k∉os.map (·.1)->bB st.m k=some ob->cE ob=true->H'[(ν k).1]?=H[(ν k).1]?/\¬Z' (ν k).1:=λk ob g h w=>by have ad:¬e9 ν os (ν k).1:=(by rintro⟨k2,o2,g1,g2,g3⟩;have:=r.inj k2 k o2 ob (u k2 o2 g1) h g2 w g3;subst this;exact g (mem_keys.2 ⟨o2,g1⟩));have af:=r.lt ⟨k,ob,h,w,rfl⟩;have ah:=r.apart k ob h w;refine⟨ev.same _ af ad ah (λh=>h),λai=>?_⟩;rcases ev.frz _ ai with h|h|h|h;simp_all;exact ad h;omega;omega
 have Y:∀e ob',bB J e=some ob'->∃ob,bB st.m e=some ob/\ν e=ν e/\sameShape ob ob':=λe ob' h=>by have⟨ob,a,B,_⟩:=D e ob' h;exact⟨ob,a,rfl,B⟩
 have i:∀e ob,bB G.m e=some ob->e∉os.map (·.1)->cE ob=true->H.length<=(U e).1:=λe ob q aj w=>by rcases ev.own _ ⟨e,ob,q,w,rfl⟩with⟨k,o,a,B,C⟩|h|h;have g:k∈os.map (·.1):=mem_keys.2 ⟨o,a⟩;have⟨_,ob',h4,_⟩:=M k g;have⟨o2,T,j,l⟩:=I k ob' g h4;have T:bB os k=some o2:=T;have a:bB os k=some o:=a;rw[a]at T;cases T;have:=e3.inj e k ob ob' q h4 w (by rw[A _ _ l];exact B) (by rw[j];exact C.symm);exact absurd (this▸g) aj;exact h.elim;exact h
 have W:∀b t o1 o2,bB J b=some o1->bB J t=some o2->cE o1=true->cE o2=true->(ν b).1=(ν t).1->b=t:=λb t o1 o2 a B k1 k2 hp=>by have⟨p1,g1,v,_⟩:=D b o1 a;have⟨p2,g2,s2,_⟩:=D t o2 B;exact r.inj b t p1 p2 g1 g2 (by rw[<-A _ _ v];omega) (by rw[<-A _ _ s2];omega) hp
 have O:∀id,id<H.length->¬e9 ν st.m id->¬Z id->¬Rv id->H'[id]?=H[id]?:=λid hl ho hz _=>ev.same id hl (λh=>ho (L id h)) hz (λh=>h)
 have X:∀id,e9 ν J id->e9 ν st.m id\/Rv id\/H.length<=id:=by rintro id ⟨k,o,a,B,C⟩;have⟨ob,g1,v,_⟩:=D k o a;exact .inl ⟨k,ob,g1,by rw[<-A _ _ v];omega,C⟩
 have N:∀id,Z id->Z id/\bD H' id=bD H id:=λid h=>⟨h,(ev.rows id h).2⟩
 refine⟨n,H',U,Z',G,F1,K,λk g=>(mN S.E g).go _ _ _ _ e1,rfl,e2,e3,i,⟨λs sv P=>(r.slot s sv P).mono ev.rows λe _=>Y e,λk ob' h=>?_,W,λb o1 a k1=>?_,e3.zrow,e3.deep⟩,⟨ev.len,O,ev.rows,X,?_,λe _=>Y e,rfl⟩,Y,
  λak=>⟨⟨λs sv P=>(r.slot s sv P).mono N λe _=>Y e,λk ob' h=>?_,W,λb o1 a k1=>?_,λid h=>by rw[(ev.rows id h).2];exact r.zrow id h,r.deep.mono λid h=>(ev.rows id h).2⟩,⟨ev.len,O,N,X,λid h=>.inl h,λe _=>Y e,rfl⟩⟩⟩
 .obtain⟨ob,a,B,C|⟨C,rfl⟩⟩:=D k ob' h
  .have⟨T,j,l,q4,q5⟩:=C;refine dV.mono (λid h=>⟨h,rfl⟩) l.symm (λ_=>rfl) (λe q Q B=>?_) (e3.obj k ob' j)
   have E:=zX q5 q;have⟨u1,al,p,_⟩:=M e E;rw[u1,p]at B;cases B;have⟨_,_,u4,_⟩:=I e Q E p;exact⟨Q,p,u4.symm,.refl _⟩
  exact dV.mono ev.rows rfl (λw=>(z k ob' C a w).1) (λe _=>Y e) (r.obj k ob' a)
 .obtain⟨ob,g1,v,C|⟨C,rfl⟩⟩:=D b o1 a
  .have⟨T,j,l,q4,q5⟩:=C;rw[<-l];exact e3.apart b o1 j k1
  exact(z b o1 C g1 k1).2
 .intro id h;rcases ev.frz id h with h|h|h|h
  .exact .inl h
  .exact .inr (.inl (L id h))
  .exact h.elim
  omega
 .obtain⟨ob,a,B,C|⟨C,rfl⟩⟩:=D k ob' h
  .have⟨T,j,l,q4,q5⟩:=C;have x:=ak k T;unfold xO at x;rw[h]at x;refine dV.bare (Z:=Z') x (dV.mono (λid h=>⟨h,rfl⟩) l.symm (λ_=>rfl) (λe q Q B=>?_) (e3.obj k ob' j))
   have E:=zX q5 q;have⟨u1,al,p,_⟩:=M e E;rw[u1,p]at B;cases B;have⟨_,_,u4,_⟩:=I e Q E p;exact⟨Q,p,u4.symm,.refl _⟩
  exact dV.mono N rfl (λw=>(z k ob' C a w).1) (λe _=>Y e) (r.obj k ob' a)
 have⟨ob,g1,v,_⟩:=D b o1 a;exact r.apart b ob g1 (by rw[<-A _ _ v];exact k1)
def Qp(J:jh S c){f:Zk}(G:S.E.keep f=true)(r:R ν Z st F H){args:Zw}{ys:Zu}(O:b7 ν st.m H Z args ys){os:dQ}(U:handed st.m args=some os)
 {rs:Zw}{m':dQ}{D:Zu}{B:Tb bN}(a:c f args os=some (rs,m'))(W:dA rs=some D)(Y:mq m' (os.map (·.1)) st.m=some B):
 ∃n y H' Z',(∀k,n<=k->run S.E k (.fn f) ys H=some (y,H'))/\R ν Z' {st with m:=B} F H'/\di ν B H' Z' (.v (result D)) y/\Ev Rv ν Z st H ν Z' {st with m:=B} H'/\∀e ob',bB B e=some ob'->∃ob,bB st.m e=some ob/\ν e=ν e/\sameShape ob ob':=by
 have⟨n,H',Q,Z',C,F1,w,e1,_,e2,_,_,g1,g2,g3,_⟩:=yK (Rv:=Rv) J G r O U a Y;refine⟨n,result w,H',Z',e1,g1,?_,g2,g3⟩;have u:=e2.dA W;have:FR H' Z' (result D) (result w):=by cases D with|nil=>rw[u.c8];exact .same _ rfl|cons x z=>obtain⟨y,I,rfl,g1,g2⟩:=u.inv;cases z with|nil=>rw[g2.c8];exact g1|cons x2 z=>obtain⟨T,L,rfl,g3,g4⟩:=g2.inv;exact .tup _ _ u.1 u.2
 exact .v _ _ this
def vY{ys:Zu}(h:V.cZ ys=true):(result ys).scalar=true:=by cases ys with|nil=>rfl|cons a l=>cases l with|nil=>simp only[V.cZ,ζh]at h;exact h.1|cons b l=>simp[result,V.scalar];omega
def P_(U:jh S c){f:Zk}(G:S.E.keep f=true)(r:R ν Z st F H){args:Zw}{ys:Zu}(W:b7 ν st.m H Z args ys){os:dQ}(Y:handed st.m args=some os)
 {rs:Zw}{m':dQ}{D:Zu}{B:Tb bN}(a:c f args os=some (rs,m'))(b:dA rs=some D)(d:mq m' (os.map (·.1)) st.m=some B)(O:V.cZ D=true)(J:∀k∈os.map (·.1),xO B k=true):
 ∃n H',(∀k,n<=k->run S.E k (.fn f) ys H=some (result D,H'))/\R ν Z {st with m:=B} F H'/\di ν B H' Z (.v (result D)) (result D)/\Ev Rv ν Z st H ν Z {st with m:=B} H'/\∀e ob',bB B e=some ob'->∃ob,bB st.m e=some ob/\ν e=ν e/\sameShape ob ob':=by
 have⟨n,H',z,Z',u,F1,C,e1,_,e2,_,_,_,_,g3,g4⟩:=yK (Rv:=Rv) U G r W Y a d;have⟨g1,g2⟩:=g4 J;have w:=(e2.dA b).scalar.1 O;subst w;exact⟨n,H',e1,g1,.v _ _ (.same _ (jl (vY O))),g2,g3⟩
def PM(j:jh S c){f:Zk}(U:S.E.keep f=true)(r:R ν Z st F H){args:Zw}{ys:Zu}(l:b7 ν st.m H Z args ys){os:dQ}(q:handed st.m args=some os)
 {rest:Zw}{m':dQ}{O:Zu}{B:Tb bN}{e t es:Nat}{k:Fl}{xs:Zt}(s:c f args os=some (.own e::rest,m'))(v:dA rest=some O)(A:mq m' (os.map (·.1)) st.m=some B)
 (G:bB m' e=some (.sl k es xs))(J:e∉os.map (·.1))(D:St.new {st with m:=B} t=true):
 ∃n y H' ν' Z',(∀k,n<=k->run S.E k (.fn f) ys H=some (y,H'))/\R ν' Z' {st with m:=bR B t (.sl k es xs)} F H'/\di ν' (bR B t (.sl k es xs)) H' Z' (zS (.own t::O.map .v)) y/\Ev Rv ν Z st H ν' Z' {st with m:=bR B t (.sl k es xs)} H'/\Kept (some t) ν st.m ν' (bR B t (.sl k es xs)):=by
 obtain⟨n,H',I,Z',aa,F1,ws,e1,rfl,e2,e3,a,g1,g2,g3,_⟩:=yK (Rv:=Rv) j U r l q s A;obtain⟨w,T,rfl,E,K⟩:=e2.inv;have o:=e3.obj e _ G;have W:cE (.sl k es xs)=true->¬e9 ν B (I e).1:=λC=>by rintro⟨k2,o2,g,M,h3⟩;have⟨o3,N,_,Y⟩:=g3 k2 o2 g;have X:cE o3=true:=(by cases o3<;>cases o2<;>simp[sameShape]at Y;rw[<-M];simp[cE,Y.1];rfl;rfl);have ab:=r.lt ⟨k2,o3,N,X,rfl⟩;have:=a e _ G J C;omega
 have P:=g1.add D (ob:=.sl k es xs) (p:=I e) (λC=>⟨W C,e3.apart e _ G C⟩) (by
  simp only[dV,gB];exact o)
 have b:di (iz ν t (I e)) (bR B t (.sl k es xs)) H' Z' (.own t) w:=by refine .own _ _ λu i=>?_;rw[cI]at i;cases i;obtain⟨_,_,_,ee,rfl⟩:=E.jF G;cases ee;exact⟨_,_,_,rfl,by rw[gB]⟩
 have⟨n1,n2,n3,n4⟩:=lC D;refine⟨n,result (w::T),H',iz ν t (I e),Z',e1,P,?_,⟨g2.len,g2.same,g2.rows,?_,g2.frz,?_,g2.pins⟩,?_⟩
 .have L:=K.dA v
  cases O with
  |nil=>rw[L.c8];exact b|cons x O=>obtain⟨y,ad,rfl,_,_⟩:=L.inv;exact .tup _ _ (by have:=L.1;simp at this⊢;omega) (b7.cons b (b7.qm L)).2
 .intro id h;rcases Cu h with h|⟨g,rfl⟩
  .exact g2.own id h
  exact .inr (.inr (a e _ G J g))
 .intro d Q u h;have z:d≠t:=λe=>n1 (e▸Q)
  have h:bB (bR B t (.sl k es xs)) d=some u:=h;rw[dO _ _ (Ne.symm z)]at h;have⟨ob,k1,k2,k3⟩:=g2.pin d Q u h;exact⟨ob,k1,by rw[oh _ _ z],k3⟩
 intro d u Q h;have z:d≠t:=λe=>Q (by rw[e])
 rw[dO _ _ (Ne.symm z)]at h;have⟨ob,k1,_,k3⟩:=g3 d u h;exact⟨ob,k1,oh _ _ z,k3⟩
def NT(B:jh S c){f:Zk}{az:Zu}{rs:Zw}{m':dQ}(a:V.cG az=true)(h:c f (az.map .v) []=some (rs,m')):
 ∃n H2 ν' Z' st' F' ys,(∀k,n<=k->run S.E k (.fn f) az []=some (result ys,H2))/\st'.m=m'/\b7 ν' m' H2 Z' rs ys/\R ν' Z' st' F' H2:=by
 have⟨u,r1⟩:=ve a;obtain⟨n,y,H2,ν',Z',st',F',w,b,rfl,z,C,D,_⟩:=B f _ _ _ _ h _ _ az [] (.inr rfl) u r1;exact⟨n,H2,ν',Z',st',F',w,λk d=>(mN S.E d).go _ _ _ _ b,z,C,D⟩
def Bd{ys:Zu}(h:V.cZ ys=true):V.cZ (.bL::ys)=true/\V.cZ (.dF::ys)=true:=by simp[V.cZ,V.scalar];grind
def b7.RW{ys:Zu}(h:V.cG ys=true):b7 ν m H Z (ys.map .v) ys:=b7.qm (dn.same h)
def MK(M:jh S c)(hP:∀f q,S.prm f=some q->nN S.E f q){ops:Zz}{place:bt (Nat×Nat)}{dr nw:Zl}{fr:Zv}(Y:dr=place.isSome)(U:∀b i,place=some (b,i)->nw=true->dJ ops i=true)(aj:∀b i,place=some (b,i)->nw=false->dJ ops i=false)
 (l:∀b i,place=some (b,i)->(∀d ob,bB st.m d=some ob->cE ob=true->d∉fr->(ν d).1<b)/\∀id,Z id->id<b)
 (r:R ν Z st F H){args:Zw}{ys:Zu}(K:b7 ν st.m H Z args ys){f:Zk}{dst:bt Nat}{sv:SV}(h:fV S c dst dr (!dr||nw) (gb st.m fr) f args st=some (sv,st')):
 ∃n y H' ν' Z',(∀k,n<=k->dU S.E (run S.E k) ops place f ys H=some (y,H'))/\R ν' Z' st' F H'/\di ν' st'.m H' Z' sv y/\Ev Rv ν Z st H ν' Z' st' H'/\(dr=true->Z'=Z)/\Kept dst ν st.m ν' st'.m:=by
 unfold fV at h;split at h
 .rename_i g;split at h
  .have C:∀{q:dw}{y:V}{H':bC},eX S.E q f ys H=some (y,H')->dU S.E q ops place f ys H=some (y,H'):=λ{q y H'}hd=>by
    unfold dU
    cases place with
    |none=>rw[if_pos (by simp[jZ,g])];omega|some bi=>
     obtain⟨b,i⟩:=bi;have aK:=Y;have aB:=U b i rfl Zd
     rw[if_pos (by simp[jZ,g,aB])]
     grind
   split at h
   .
    rename_i L;split at h
    .rename_i az hs;have hg:=yj r.obj hs K;obtain⟨nb,A⟩:=vv r K hs;split at h
     .rename_i rs m' hc;obtain⟨na,H2,ν2,Z2,st2,F2,E,aC,rfl,e3,e4⟩:=NT M hg hc;obtain⟨n,aD,aE⟩:∃n,na<=n/\nb<=n:=⟨max na nb,le_max_left ..,le_max_right ..⟩;have e1:=λk(g:n<=k)=>aC k (le_trans aD g)
      have O:∀k,n<=k->∀{o:bt (V×bC)},(if(result E).scalar then some (result E,H)else
       match result E with
       |.hsl id es off len=>(qa H.length H2 id es off len).map λ(v,ob)=>(v,H++[ob])|.tup (.hsl id es off len::rest)=>if V.cZ rest then(qa H.length H2 id es off len).map λ(v,ob)=>(.tup (v::rest),H++[ob])else none|_=>none)=o->eX S.E (run S.E k) f ys H=o:=λk D o P=>by
       unfold eX jR;rw[if_pos L];simp[mW,A k (le_trans aE D),e1 k D];exact P
      have ak:∀G:Zu,(result G).scalar=true->result E=result G->sv=.v (result G)->st'=st->∃n y H' ν' Z',(∀k,n<=k->dU S.E (run S.E k) ops place f ys H=some (y,H'))/\R ν' Z' st' F H'/\di ν' st'.m H' Z' sv y/\Ev Rv ν Z st H ν' Z' st' H'/\(dr=true->Z'=Z)/\Kept dst ν st.m ν' st'.m:=by rintro G h1 h2 rfl rfl;exact⟨n,result G,H,ν,Z,λk D=>C (O k D (by rw[h2,if_pos h1])),r,.v _ _ (.same _ (jl h1)),.refl,λ_=>rfl,.refl⟩
      have emp:∀(k:Fl)(es:Nat)(G:Zu)(rest:Zw),V.cZ G=true->∀t,st.new t=true->∀w:V,(k=.nil/\w=.bL\/k=.emp/\w=.dF)->result (w::G)=result E->dst=some t->sv=zS (.own t::G.map .v)->st'={st with m:=bR st.m t (.sl k es [])}->
       ∃n y H' ν' Z',(∀k,n<=k->dU S.E (run S.E k) ops place f ys H=some (y,H'))/\R ν' Z' st' F H'/\di ν' st'.m H' Z' sv y/\Ev Rv ν Z st H ν' Z' st' H'/\(dr=true->Z'=Z)/\Kept dst ν st.m ν' st'.m:=by
       rintro k es G rest W t Q w hw al rfl rfl rfl;have ad:cN k=false:=by rcases hw with⟨rfl,_⟩|⟨rfl,_⟩<;>rfl
       have s:di (iz ν t (0,0)) (bR st.m t (.sl k es [])) H Z (.own t) w:=by refine .own _ _ λT h'=>?_;rw[cI]at h';cases h';exact⟨_,_,_,rfl,by rcases hw with⟨rfl,rfl⟩|⟨rfl,rfl⟩<;>rfl⟩
       have am:(result (w::G)).scalar=true:=vY (by rcases hw with⟨_,rfl⟩|⟨_,rfl⟩;exact(Bd W).1;exact(Bd W).2)
       refine⟨n,result (w::G),H,iz ν t (0,0),Z,λk D=>C (O k D (by rw[<-al,if_pos am])),r.add Q (λA=>by simp[cE,ad]at A) (by simp[dV,ad]),?_,
        Ev.add Q (le_refl _) (λ_ _ _=>rfl) (λ_ _=>rfl) (λA=>by simp[cE,ad]at A),λ_=>rfl,Kept.add λ_ _ h=>h⟩
       cases G with
       |nil=>exact s|cons z G=>exact .tup _ _ Zc (b7.cons s (b7.RW (o8 W))).2
      split at h
      .rename_i G J;split at h
       next W=>simp at h;exact ak G W ((D4 (e3.dA J)).1 W) h.1.symm h.2.symm
       simp at h
      split at h
      .rename_i e rest t _;obtain⟨w,E,rfl,g1,g2⟩:=e3.inv;split at h
       .
        rename_i es xs G X J;split at h
        .rename_i B;simp at B;obtain⟨⟨c1,N⟩,Q⟩:=B;simp at h;obtain⟨rfl,rfl⟩:=h;have o:=e4.obj e _ X;simp only[dV,if_true]at o;obtain⟨rows,hr,aL,hf,aJ,an⟩:=o;obtain⟨q1,q2⟩:=an trivial;have ae:=by
          have:=GJ hf N;rw[q1,drop_zero,<-q2,take_length]at this;exact this
         subst ae;obtain⟨_,_,_,ee,rfl⟩:=g1.jF X;cases ee;have I:=(g2.dA J).scalar.1 c1;subst I;have ao:qa H.length H2 (ν2 e).1 es 0 rows.length=some (.hsl H.length es 0 rows.length,.row es rows):=by unfold qa;rw[hr];simp only[true_and];rw[if_pos];rw[all_eq_true];intro x hx;unfold nH at N;rw[all_eq_true]at N;exact N x hx
         have hH:∀id,id<H.length->(H++[Ob.row es rows])[id]?=H[id]?:=λid hl=>getElem?_append_left hl
         have ap:∀id,Z id->bD (H++[Ob.row es rows]) id=bD H id:=λid J=>by unfold bD;rw[hH id (r.uD J)]
         have r2:=r.heap (λid P=>hH id (r.lt P)) ap
         have aq:V.lT rows=true:=by refine jX.2 λj u hu=>?_;unfold nH at N;rw[all_eq_true]at N;have:=N u (mem_of_getElem? hu);rw[all_eq_true]at this;exact gG.2 λi v hv=>jl (this v (mem_of_getElem? hv))
         have hR:=r2.add (ob:=.sl .row es rows) (p:=(H.length,0)) Q (λ_=>⟨λP=>absurd (r.lt P) Zc,λJ=>absurd (r.uD J) Zc⟩) (by
          simp only[dV,gB];refine⟨rows,Zc,Zc,?_,(fR.same aq).Ei,λ_=>⟨trivial,rfl⟩⟩
          rw[drop_zero,take_length];exact fR.same aq)
         have s:di (iz ν t (H.length,0)) (bR st.m t (.sl .row es rows)) (H++[Ob.row es rows]) Z (.own t) (.hsl H.length es 0 rows.length):=by refine .own _ _ λT h'=>?_;rw[cI]at h';cases h';exact⟨_,_,_,rfl,by simp[ri,gB]⟩
         have ar:Ev Rv ν Z st H (iz ν t (H.length,0)) Z {st with m:=bR st.m t (.sl .row es rows)} (H++[Ob.row es rows]):=Ev.add Q Zc (λid hl _=>hH id hl) ap (λ_=>.inr (le_refl _))
         have au:ri (ν2 e) Fl.row es rows.length=.hsl (ν2 e).1 es 0 rows.length:=by simp[ri,q1]
         rw[au]at O
         cases rest with
         |nil=>
          have:=by simp only[dA,ζa]at J;exact J.symm
          subst this;refine⟨n,_,_,_,Z,λk D=>C (O k D ?_),hR,s,ar,λ_=>rfl,Kept.add λ_ _ h=>h⟩
          simp[result,V.scalar,ao]
         |cons x2 rest=>
          have aF:∃w2 af,E=w2::af:=by have:=g2.1;cases E with|nil=>simp at this|cons a b=>exact⟨a,b,rfl⟩
          obtain⟨w2,af,rfl⟩:=aF;refine⟨n,_,_,_,Z,λk D=>C (O k D (o:=some (.tup (.hsl H.length es 0 rows.length::w2::af),H++[Ob.row es rows])) ?_),hR,?_,ar,λ_=>rfl,Kept.add λ_ _ h=>h⟩
          .simp only[result,V.scalar,V.cZ,Bool.false_and,false_eq_true,if_false];have aG:=by simpa[V.cZ]using c1
           simp[aG,ao]
          exact .tup _ _ Zc (b7.cons s (b7.RW (o8 c1))).2
        simp at h
       .rename_i es xs G X J;split at h
        next B=>simp at B;simp at h;obtain⟨rfl,rfl⟩:=h;obtain⟨_,_,_,ee,rfl⟩:=g1.jF X;cases ee;have I:=(g2.dA J).scalar.1 B.1;subst I;exact emp .nil es E rest B.1 _ B.2 .bL Zc rfl rfl rfl rfl
        simp at h
       .rename_i es xs G X J;split at h
        next B=>simp at B;simp at h;obtain⟨rfl,rfl⟩:=h;obtain⟨_,_,_,ee,rfl⟩:=g1.jF X;cases ee;have I:=(g2.dA J).scalar.1 B.1;subst I;exact emp .emp es E rest B.1 _ B.2 .dF Zc rfl rfl rfl rfl
        simp at h
       simp at h
      simp at h
     grind
    grind
   rename_i L;split at h
   .rename_i q hq;split at h
    .simp at h
    rename_i hd;obtain⟨n,y,H',ν',e1,e2,e3,e4,e5⟩:=O_ (hP f q hq) r K h;exact⟨n,y,H',ν',Z,λk D=>C (by unfold eX;rw[if_neg L];exact e1 k D),e2,e3,e4,λh=>absurd h hd,e5⟩
   split at h
   .rename_i os hh;split at h
    .rename_i rs m' hc;split at h
     .rename_i G m2 J A;split at h
      .simp at h
      rename_i aa;simp at h;obtain⟨rfl,rfl⟩:=h
      cases av:dr with
      |false=>obtain⟨n,y,H',Z',e1,e2,e3,e4,e5⟩:=Qp M g r K hh hc J A;exact⟨n,y,H',ν,Z',λk D=>C (by unfold eX;rw[if_neg L];exact e1 k D),e2,e3,e4,(λh=>nomatch h),λe T _=>e5 e T⟩|true=>
       rw[av]at aa;have iW:V.cZ G=true/\∀k∈os.map (·.1),xO m2 k=true:=by simp only[Bool.true_and,not_eq_true',Bool.not_eq_false,ζh,all_eq_true]at aa;refine⟨aa.1,λk g=>?_⟩;obtain⟨x,hx,rfl⟩:=List.mem_map.1 g;exact aa.2 x hx
       obtain⟨n,H',e1,e2,e3,e4,e5⟩:=P_ (Rv:=Rv) M g r K hh hc J A iW.1 iW.2;exact⟨n,_,H',ν,Z,λk D=>C (by unfold eX;rw[if_neg L];exact e1 k D),e2,e3,e4,λ_=>rfl,λe T _=>e5 e T⟩
     .rename_i m2 J A;split at h
      .simp at h
      rename_i hd;split at h
      .rename_i e rest t;split at h
       .rename_i k es xs G he aH;split at h
        next B=>simp only[ζh,not_eq_true',List.contains_eq_mem,decide_eq_false_iff_not]at B;simp only[ζa,ζc]at h;obtain⟨rfl,rfl⟩:=h;obtain⟨n,y,H',ν',Z',e1,e2,e3,e4,e5⟩:=PM M g r K hh hc aH A he B.1 B.2;exact⟨n,y,H',ν',Z',λk D=>C (by unfold eX;rw[if_neg L];exact e1 k D),e2,e3,e4,λh=>absurd h hd,e5⟩
        simp at h
       simp at h
      simp at h
     simp at h
    simp at h
   simp at h
  rename_i ab;split at h
  .rename_i ah;simp only[ζh]at ah;have ai:jZ S.E ops place f=false:=by
    simp only[Bool.not_eq_true,or_eq_false_iff,Bool.not_eq_false']at ab
    cases place with
    |none=>rw[Y]at ab;simp at ab|some bi=>simp[jZ,g,ah.1,aj _ _ rfl ab.2]
   split at h
   .rename_i az hs;split at h
    .rename_i rs m' hc;split at h
     .rename_i G J;split at h
      next B=>simp only[or_eq_true]at B;simp at h;obtain⟨rfl,rfl⟩:=h;obtain⟨n,H',e1,e2,e3,e4⟩:=HR M Y U l r K ai hs (.inr ah.2) hc J B;exact⟨n,_,H',ν,Z,e1,e2,e3,e4,λ_=>rfl,.refl⟩
      simp at h
     simp at h
    simp at h
   simp at h
  simp at h
 rename_i g;have aw:S.E.keep f=false:=by simpa using g
 have ai:jZ S.E ops place f=false:=by unfold jZ;rw[aw];rfl
 split at h
 .rename_i az hs;split at h
  .rename_i hl;split at h
   .rename_i rs m' hc;split at h
    .rename_i G J;split at h
     .rename_i B;simp only[or_eq_true]at B;simp at h;obtain⟨rfl,rfl⟩:=h;obtain⟨n,H',e1,e2,e3,e4⟩:=HR M Y U l r K ai hs (by simpa using hl) hc J B
      exact⟨n,_,H',ν,Z,e1,e2,e3,e4,λ_=>rfl,.refl⟩
     rename_i ax;split at h
     .rename_i aI;obtain⟨ds,ay,e⟩:=ζf.1 h;simp at e;obtain⟨rfl,rfl⟩:=e;have aA:(result G).scalar=false:=by
       cases hq:(result G).scalar with
       |false=>rfl|true=>exact absurd (by simp[hq]) ax
      obtain⟨n,H',e1,e2,e3,e4⟩:=Px M U (λb i hp=>(l b i hp).2) r K aw hs (by rw[<-Y];exact aI) hc J aA ay (uE ay hs)
      exact⟨n,_,H',ν,Z,e1,e2,e3,e4,λ_=>rfl,λe T _ h=>⟨T,nv h,rfl,.refl _⟩⟩
     simp at h
    simp at h
   simp at h
  simp at h
 simp at h
end
structure CX where
 E:Env
 nm:FuncId->Option Nat
 nt:Nat
def AG(ops:Zz)(o:Oper):bt (bt (Nat×Zl)):=
 match o.guard with
 |none=>some none|some (j,b)=>((ops[j]?).bind (·.dst)).map λd=>some (d,b)
def xz(a:Nat):bt Nat->Zl
 |none=>true|some d=>decide (d<a)
def vD(B:Zl)(ops:Zz)(i:Nat)(k:K)(os:a_ Zr):K×a_ Zr×Zl:=
 if B&& !dJ ops i then match k,os,qH false ops i with
  |.l (.store n),.tmp u::w,some (a,l)=>if u=a then(.l (.storeF n),(.tmp u::w)++l.map .tmp,true)else(k,os,false)|.l (.append n),os,_=>if u_ ops i then(.e n,os,true)else(k,os,false)|.r (.load n ag),[.tmp u],_=>if(ow ops i u).isEmpty then(k,os,false)else(.r (.loadF n ag),.tmp u::(ow ops i u).map .tmp,false)|_,_,_=>(k,os,false)
 else(k,os,B&&dJ ops i)
def By(B:Zl)(ops:Zz)(i:Nat)(k:K)(os:a_ Zr):(vD B ops i k os=(k,os,B&&dJ ops i)/\∀n ag a',B=true->dJ ops i=false->k=.r (.load n ag)->os=[.tmp a']->ow ops i a'=[])\/
 (B=true/\dJ ops i=false/\∃n a l D,k=.l (.store n)/\os=.tmp a::D/\qH false ops i=some (a,l)/\vD B ops i k os=(.l (.storeF n),os++l.map .tmp,true))\/
 (B=true/\dJ ops i=false/\∃n ag a,k=.r (.load n ag)/\os=[.tmp a]/\vD B ops i k os=(.r (.loadF n ag),.tmp a::(ow ops i a).map .tmp,false))\/
 (B=true/\dJ ops i=false/\u_ ops i=true/\∃n,k=.l (.append n)/\vD B ops i k os=(.e n,os,true)):=by
 unfold vD;split
 .rename_i h;simp only[ζh,not_eq_true']at h;split
  .rename_i n a' D a l hk;split
   next e=>subst e;refine .inr (.inl ⟨h.1,h.2,n,a',l,D,rfl,rfl,hk,?_⟩);simp only[vD,h.1,h.2,hk,Bool.not_false,Bool.and_self,if_true]
   exact .inl ⟨by rw[h.2,Bool.and_false],λn ag a' _ _ e=>by cases e⟩
  .rename_i n;split
   next C=>refine .inr (.inr (.inr ⟨h.1,h.2,C,n,rfl,rfl⟩))
   exact .inl ⟨by rw[h.2,Bool.and_false],λn ag a' _ _ e=>by cases e⟩
  .rename_i n ag a';split
   .rename_i G;refine .inl ⟨by rw[h.2,Bool.and_false],λn ag a2 _ _ _ e=>?_⟩
    simp only[List.cons.injEq,Operand.tmp.injEq,and_true]at e;subst e;simpa using G
   exact .inr (.inr (.inl ⟨h.1,h.2,n,ag,a',rfl,rfl,rfl⟩))
  rename_i u w z;refine .inl ⟨by rw[h.2,Bool.and_false],λn ag a2 _ _ e1 e2=>?_⟩
  first|exact(z _ _ _ e1 e2).elim|exact(z _ _ _ _ e1 e2 rfl).elim|exact(u _ _ _ e1 e2).elim|exact(w _ _ _ e1 e2).elim|exact(u _ _ _ _ e1 e2 rfl).elim|exact(w _ _ _ _ e1 e2 rfl).elim
 rename_i h;refine .inl ⟨rfl,λn ag a2 I J _ _=>?_⟩
 rw[I,J]at h;exact absurd rfl h
def lF(X:CX)(B:Zl)(ops:Zz)(i:Nat)(o:Oper):bt RO:=
 if xz X.nt o.dst&& !(B&&(cO o.op==.call&&Gc ops i))then
  match AG ops o,resolve X.E X.nm o.op with
  |some gd,some (k,os)=>if zI k then if B&&Be X.E ops i then match k,o.op with
   |.a (.makeSl size zero),.makeSlice ..=>(os.mapM (oq X.nm)).map λaz=>⟨o.dst,gd,false,.p (.makeC size zero),az,[],[]⟩|.a (.buildSl size len zero idx),.buildSlice ..=>if size≠0/\len=0/\idx=[]then(os.mapM (oq X.nm)).map λaz=>⟨o.dst,gd,false,.p .emptyC,az,[],[]⟩else(os.mapM (oq X.nm)).map λaz=>⟨o.dst,gd,false,.p (.buildC size len zero idx),az,[],[]⟩|_,_=>none
   else((vD B ops i k os).2.1.mapM (oq X.nm)).map λaz=>⟨o.dst,gd,(vD B ops i k os).2.2,(vD B ops i k os).1,az,[],[]⟩else none
  |_,_=>none
 else none
def B9{E:Env}{N:Nat->Zk}{F:Zo}{op:Op}{ys:Zu}{size:Nat}{zero:Zu}{y:V}(D:∃t l c,op=.buildSlice t l c)(h:zL E N F op ys (.a (.buildSl size 0 zero [])))(G:size≠0)(B:bO N .emptyC ys=some y):oA E F op=some y:=by
 obtain⟨t,l,c,rfl⟩:=D;have⟨g1,g2⟩:=h;unfold bO at B;split at B<;>first|(rename_i e;cases e;done)|skip
 simp only[ζa]at B;subst B;have u:=g2 _ (show iF (.buildSl size 0 zero []) []=some (.row size [],.sl size 0)by simp[iF,eR]);unfold oA;rw[u];simp[G];cases B
def xT{es:Nat}:∀{vs:a_ (Nat×V)}{xs ys:Zt},eR es xs vs=some ys->ys.length=xs.length
 |[],xs,ys,h=>by simp only[eR,ζa]at h;rw[h]|(i,v)::r,xs,ys,h=>by simp only[eR]at h;split at h;have:=xT h;simpa using this;cases h
def Bi{E:Env}{N:Nat->Zk}{F:Zo}{op:Op}{ys:Zu}{size len:Nat}{zero:Zu}{idx:Zv}{y:V}(D:∃t l c,op=.buildSlice t l c)(h:zL E N F op ys (.a (.buildSl size len zero idx)))(B:bO N (.buildC size len zero idx) ys=some y):oA E F op=some y:=by
 obtain⟨t,l,c,rfl⟩:=D;have⟨g1,g2⟩:=h;simp only[bO]at B;split at B;rename_i a;split at B;rename_i z u;split at B;rename_i C;have G:len=z.length:=by have:=xT u;rw[this];simp
 have w:=g2 _ (show iF (.buildSl size len zero idx) ys=some (.row size z,.sl size len)by simp only[iF,if_pos a.2,u,map_some]);unfold oA;rw[w];simp only;rw[if_pos ⟨trivial,G,C.2⟩,C.1];exact B;cases B;cases B;cases B
def Bz{E:Env}{N:Nat->Zk}{F:Zo}{op:Op}{ys:Zu}{size:Nat}{zero:Zu}{y:V}(D:∃t l c,op=.makeSlice t l c)(h:zL E N F op ys (.a (.makeSl size zero)))(B:bO N (.makeC size zero) ys=some y):oA E F op=some y:=by
 obtain⟨t,l,c,rfl⟩:=D;have⟨g1,g2⟩:=h;unfold bO at B;split at B<;>first|(rename_i e;cases e;done)|skip
 rename_i k n I m e;cases e;split at B;rename_i c;obtain⟨rfl,rfl,w,rfl,z,C⟩:=c;have u:=g2 _ (show iF (.makeSl size zero) [.int .i64 n,.int .i64 n]=some (.row size (replicate n.toNat zero),.sl size n.toNat)by simp only[iF,w,z,Int.le_refl,and_self,if_true]);unfold oA;rw[u];simp only;rw[if_pos (by refine⟨by trivial,Zc,all_eq_true.2 λx G=>by rw[List.eq_of_mem_replicate G];exact C⟩),<-B];cases B;cases B
def Bx{X:CX}{dr:Zl}{ops:Zz}{i:Nat}{o:Oper}{ro:RO}(a:lF X dr ops i o=some ro):xz X.nt o.dst=true/\∃g now k az,AG ops o=some g/\ro=⟨o.dst,g,now,k,az,[],[]⟩:=by
 unfold lF at a;split at a
 .rename_i u;have u:=(Bool.and_eq_true_iff.1 u).1;split at a
  .rename_i g k os hg hr;split at a;(·(repeat' split at a)<;>first|(cases a;done)|(obtain⟨az,w,rfl⟩:=ζf.1 a;exact⟨u,_,_,_,_,hg,rfl⟩));cases a
  cases a
 cases a
def DR{X:CX}{dr:Zl}{ops:Zz}{i:Nat}{o:Oper}{ro:RO}(a:lF X dr ops i o=some ro)(B:dr=true)(D:cO o.op=.call):Gc ops i=false:=by
 unfold lF at a;split at a;next h=>subst B;simp[D]at h;exact h.2
 cases a
structure Good(X:CX)(S:Sys):Prop where
 E:X.E=S.E
 N:∀f s,X.nm f=some s->S.N s=f
 prm:∀f q,S.prm f=some q->nN S.E f q
section
variable{Rv:Nat->Prop}{ν ν':Nu}{Z Z':Nat->Prop}{st st':St}{m m':Tb bN}{F F':Zo}{H H' H1:bC}{S:Sys}{c:cg}{X:CX}
def Old(b:Nat)(fr:Zv)(ν:Nu)(Z:Nat->Prop)(m:Tb bN):Prop:=(∀d ob,bB m d=some ob->cE ob=true->d∉fr->(ν d).1<b)/\∀id,Z id->id<b
def mK{fr:Zv}:∀{svs:Zw},eW fr svs=true->∀d∈fr,SV.dD d svs=false
 |[],_,d,_=>rfl|.v _::r,h,d,B=>(mK (svs:=r) (by simpa[eW]using h) d B)|.ptr e _::r,h,d,B=>by simp[eW,not_eq_true']at h;simp[SV.dD,SV.c6];exact⟨λe=>h.1 (e▸B),mK h.2 d B⟩|.el e _ _::r,h,d,B=>by simp[eW,not_eq_true']at h;simp[SV.dD,SV.c6];exact⟨λe=>h.1 (e▸B),mK h.2 d B⟩|.mp e::r,h,d,B=>by simp[eW,not_eq_true']at h;simp[SV.dD,SV.c6];exact⟨λe=>h.1 (e▸B),mK h.2 d B⟩|.own _::r,h,_,_=>by simp[eW]at h|.clo ..::r,h,_,_=>by simp[eW]at h|.tup _::r,h,_,_=>by simp[eW]at h|.agg _::r,h,_,_=>by simp[eW]at h|.yl _::r,h,_,_=>by simp[eW]at h
def BQ(S:Sys)(ops:Zz)(place:bt (Nat×Nat))(dr:Zl)(F:Zo)(op:Op)(dst:bt Nat)(ν:Nu)(Z:Nat->Prop)(st:St)(H:bC)(sv:SV)(st':St):Prop:=∃n y H' ν' Z',(∀k,n<=k->cW S.E (run S.E k) ops place F H op=some (y,H'))/\R ν' Z' st' F H'/\di ν' st'.m H' Z' sv y/\Ev (λid=>∃b j,place=some (b,j)/\id=b+j) ν Z st H ν' Z' st' H'/\(dr=true->Z'=Z/\Kept dst ν st.m ν' st'.m)
def w6{E:Env}{F:Zo}{H:bC}{place:bt (Nat×Nat)}{op:Op}{v:V}(h:bP E F op=some v):rz E F H place op=some v:=by unfold rz;rw[h]
def yJ:∀{xs ys:Zt}{l:Zy},fR H Z xs ys->kC xs=some l->kC ys=some l
 |[],ys,l,h,B=>by have:=h.1;have:ys=[]:=List.eq_nil_of_length_eq_zero (by simpa using this.symm);subst this;exact B|x::xs,[],l,h,B=>by have:=h.1;simp at this|x::xs,y::ys,l,h,B=>by unfold kC at B;split at B;(next e=>cases e);rename_i n r e;cases e;obtain⟨k,c,rfl⟩:=ζf.1 B;have d:=h.2 0 _ y rfl rfl;obtain⟨u,z,rfl,p1,p2⟩:=d.inv;rw[p2.c8,p1.int];have:=yJ (xs:=xs) (ys:=ys) ⟨by have:=h.1;simpa using this,λj a b w B=>h.2 (j+1) a b w B⟩ c;simp only[kC,this,map_some];cases B
def Kx(gd:Good X S){ops:Zz}{place:bt (Nat×Nat)}{dr:Zl}{op:Op}{dst:bt Nat}{p:tQ}{svs:Zw}{ys:Zu}(a:zI (.p p)=true)(r:R ν Z st F H)(rs:b7 ν st.m H Z svs ys)
 (B:zL X.E S.N F op ys (.p p)){sv:SV}(h:(jJ S.N st.m p svs).map (λx=>(x,st))=some (sv,st')):BQ S ops place dr F op dst ν Z st H sv st':=by
 have⟨x,w,e⟩:=ζf.1 h;obtain⟨rfl,rfl⟩:=e;have⟨y,z,u⟩:=EU (λzero pl e=>by subst e;simpa[zI]using a) r.obj rs w
 have⟨b,C⟩:=B;exact⟨0,y,H,ν,Z,λq _=>by unfold cW;rw[b];simp only[<-gd.E,w6 (C y z),map_some],r,u,.refl,λ_=>⟨rfl,.refl⟩⟩
def yL(gd:Good X S){ops:Zz}{place:bt (Nat×Nat)}{dr:Zl}{op:Op}{p:tQ}{svs:Zw}{ys:Zu}(J:∀zero pl,p≠.build zero pl)(B:cO op=.alloc)(D:mF X.E ops place=true)(G:∀y,bO S.N p ys=some y->oA X.E F op=some y)
 (r:R ν Z st F H)(rs:b7 ν st.m H Z svs ys){sv:SV}(h:(jJ S.N st.m p svs).map (λx=>(x,st))=some (sv,st')):BQ S ops place dr F op none ν Z st H sv st':=by
 have⟨x,w,e⟩:=ζf.1 h;simp only[ζc]at e;obtain⟨rfl,rfl⟩:=e;have⟨y,z,u⟩:=EU (N:=S.N) (λzero pl e=>absurd e (J zero pl)) r.obj rs w
 refine⟨0,y,H,ν,Z,λq _=>?_,r,u,.refl,λ_=>⟨rfl,.refl⟩⟩
 unfold cW;rw[B];simp only[D,if_true,<-gd.E,G y z,map_some]
def HN:∀{J B:a_ Zr}{vs:Zu},fu F (J++B)=some vs->∃D G,fu F J=some D/\fu F B=some G/\vs=D++G
 |[],B,vs,h=>⟨[],vs,rfl,h,rfl⟩|x::J,B,vs,h=>by obtain⟨a,az,b,O,rfl⟩:=iB h;obtain⟨D,G,g1,g2,rfl⟩:=HN O;exact⟨a::D,G,by simp[fu,b,g1],g2,rfl⟩
def AA:∀{l:Zv}{vs:Zu},fu F (l.map Operand.tmp)=some vs->vs=l.map (get F)
 |[],vs,h=>pz h|x::l,vs,h=>by obtain⟨a,az,b,B,rfl⟩:=iB h;simp[ev]at b;subst b;rw[AA B];rfl
def Rf(gd:Good X S){call:dw}{ops:Zz}{b j n a:Nat}{l:Zv}{o:Oper}{B:a_ Zr}{ys:Zu}{y:V}(c:resolve X.E X.nm o.op=some (.l (.store n),.tmp a::B))(D:fu F ((.tmp a::B)++l.map Operand.tmp)=some ys)
 (J:qH false ops j=some (a,l))(O:dJ ops j=false)(e1:eU H (.storeF n) ys=some (y,H')):cW S.E call ops (some (b,j)) F H o.op=some (y,H'):=by
 obtain⟨W,Y,d,I,rfl⟩:=HN D;have⟨g1,g2⟩:=iO gd.N c d;obtain⟨w,L,z,Q,rfl⟩:=iB d;simp[ev]at z;have u:∃v,L=[v]:=by have C:∃x,B=[x]:=(by unfold resolve at c;((repeat' split at c)<;>first|grind|skip);(all_goals (try (have⟨_,_,e⟩:=ζf.1 c;simp[K.l.injEq,HF.store.injEq,reduceCtorEq]at e)));grind);obtain⟨x,rfl⟩:=C;obtain⟨v,Z,_,T,rfl⟩:=iB Q;rw[pz T];grind
 obtain⟨v,rfl⟩:=u;rw[AA I,<-z]at e1;simp at e1
 cases G:get F a with
 |hptr id el off=>
  rw[G]at e1;simp only[eU]at e1;split at e1
  .have U:oU ops j F=true:=by
    unfold oU
    grind
   unfold cW;rw[g1];simp[U,<-gd.E];refine g2 _ _ ?_;rw[<-z,G];exact e1
  grind
 |_=>rw[G]at e1;simp[eU]at e1
def D0{E:Env}{nm:Zk->bt Nat}{op:Op}{s:Nat}{a:Zl}{os:a_ Zr}(h:resolve E nm op=some (.r (.loadF s a),os)):False:=by
 unfold resolve at h;(repeat' split at h)<;>first|grind|skip
 all_goals simp_all
def Fu{E:Env}{nm:Zk->bt Nat}{op:Op}{s a':Nat}{a:Zl}{t:Zm}{os:a_ Zr}(h:resolve E nm op=some (.r (.load s a),os)):∃t x,op=.load t x/\os=[x]:=by
 unfold resolve at h;(repeat' split at h)<;>first|grind|skip
 all_goals simp_all
 grind
def LX{E:Env}{nm:Zk->bt Nat}{ops:Zz}{j:Nat}{op:Op}{q:HP}{os:a_ Zr}(a:resolve E nm op=some (.r q,os))(h:∀n ag a',K.r q=.r (.load n ag)->os=[.tmp a']->∀t,op=.load t (.tmp a')->ow ops j a'=[]):mS ops j F op=true:=by
 unfold mS;split;rename_i t a';have:∃n ag,q=.load n ag/\os=[.tmp a']:=by have⟨d,_,e⟩:=ζf.1 a;grind
 grind;rfl
def O5(gd:Good X S){ops:Zz}{b j n a:Nat}{ag:Zl}{fr:Zv}{o:Oper}{svs:Zw}{ys:Zu}{dst:bt Nat}{x:SV}(c:resolve X.E X.nm o.op=some (.r (.load n ag),[.tmp a]))(U:fu F (.tmp a::(ow ops j a).map Operand.tmp)=some ys)(rs:b7 ν st.m H Z svs ys)
 (W:eW fr svs=true)(A:b<=H.length)(E:∀d ob,bB st.m d=some ob->cE ob=true->d∉fr->(ν d).1<b)(D:∀id,Z id->id<b)(r:R ν Z st F H)(O:oJ st.m (.loadF n ag) svs=some x):BQ S ops (some (b,j)) true F o.op dst ν Z st H x st:=by
 obtain⟨w,k,f,m,rfl⟩:=iB U;simp[ev]at f;have K:=AA m;unfold oJ at O;split at O<;>first|(rename_i u;cases u;done)|skip
 .rename_i size agg d off l u;cases u;split at O
  .rename_i C;split at O
   .rename_i cs B;obtain⟨w',M,e,g1,g2⟩:=rs.inv;cases e;have G:=HQ r B g2 C;obtain⟨_,_,rfl⟩:=g1.og B;have I:∀id,Z id->Z id/\bD (H.take b) id=bD H id:=λid h=>⟨h,mh (D id h)⟩
    have J:∀id,Z id->Z id/\bD H id=bD (H.take b) id:=λid h=>⟨h,(mh (D id h)).symm⟩
    have N:d∉fr:=λg=>by have:=mK W d g;simp[SV.dD,SV.c6]at this
    obtain⟨y,p,Q⟩:=uG (r:=.load n ag) (λs a e=>by cases e) (λkk z ok e=>by cases e) (b7.cons (g1.mono I λe _=>iE ν st.m e) .nil) (λi T ob L=>by
     have P:i∉fr:=λg=>by have:=(by simpa[SV.dD,SV.c6]using T);grind
     exact dV.mono I rfl (λhb=>Zd) (λe _=>iE ν st.m e) (r.obj i ob L)) (by simp[oJ,B];omega)
    obtain⟨k1,k2⟩:=iO gd.N c (show fu F [.tmp a]=some [.hptr (ν d).1 0 off]from by simp[fu,ev,f])
    have Y:mS ops j F o.op=true:=by obtain⟨t,x',e1,e2⟩:=Fu (a':=0) (t:=0) c;rw[e1];simp at e2;subst e2;simp[mS];intro s hs;have v:get F s∈k:=Zd;have:=all_eq_true.1 G _ v;split;rename_i ai _ _ hg;simp[mJ]at this⊢;grind;rfl
    refine⟨0,y,H,ν,Z,λq _=>?_,r,Q.mono J (λe _=>iE ν st.m e),.refl,λ_=>⟨rfl,.refl⟩⟩
    unfold cW;rw[k1];simp[<-gd.E,k2 (H.take b) y p,Y]
   grind
  grind
 grind
def Cr{E:Env}{nm:Zk->bt Nat}{op:Op}{n:Nat}{os:a_ Zr}(h:resolve E nm op=some (.l (.append n),os)){y:V}{ys:Zu}(b:fu F os=some (y::ys))(B:y=.bL\/y=.dF):isApp op=true/\oQ F op=true:=by
 have key:∃args u p s x,op=.call {callee:=.builtin .append,args:=args,argTypes:=u}/\args.toList=[s,x]/\os=[s,x]/\p=():=by unfold resolve at h;((repeat' split at h)<;>first|(simp at h;done)|skip);(all_goals (try (have⟨_,_,e⟩:=ζf.1 h;simp only[ζc,K.l.injEq,reduceCtorEq,false_and]at e)));all_goals (simp only[ζa,ζc]at h;obtain⟨_,rfl⟩:=h;exact⟨_,_,(),_,_,rfl,by assumption,rfl,rfl⟩)
 obtain⟨args,u,_,s,x,rfl,c,rfl,_⟩:=key;have⟨a,az,w,z,e⟩:=iB b;cases e;refine⟨rfl,?_⟩;simp only[oQ,c,w];rcases B with rfl|rfl<;>rfl
def R1(gd:Good X S)(hS:jh S c){ops:Zz}{place:bt (Nat×Nat)}{dr:Zl}{fr:Zv}{i:Nat}(G:dr=place.isSome)(P:∀b j,place=some (b,j)->j=i)
 (K:∀b j,place=some (b,j)->b<=H.length/\Old b fr ν Z st.m)
 {o:Oper}{ro:RO}(E:lF X dr ops i o=some ro)(aG:∀b j,place=some (b,j)->ops[j]?=some o)(an:∀b j,place=some (b,j)->cO o.op=.alloc->H[b+j]?=some .free)
 (r:R ν Z st F H){sv:SV}(h:kN S c dr fr ro st=some (sv,st')):
 BQ S ops place dr F o.op (wT ro) ν Z st H sv st':=by
 have ax:=λU hl=>DR E U hl
 unfold lF at E;split at E
 .split at E
  .rename_i g k os hg hr;split at E
   .rename_i A;split at E
    .rename_i ai;simp only[ζh]at ai;have ao:mF X.E ops place=true:=by
      cases place with
      |none=>rw[G]at ai;exact absurd ai.1 Zc|some O=>have⟨b,j⟩:=O;rw[P b j rfl];exact ai.2
     split at E
     .rename_i size zero t l c W;obtain⟨az,M,rfl⟩:=ζf.1 E;unfold kN at h;split at h
      next L B=>have⟨ys,C,rs⟩:=nL gd.N r.slot M B;have J:=iO gd.N hr C;exact yL gd (λ_ _ e=>by cases e) J.1 ao (λy hy=>Bz ⟨_,_,_,W⟩ J hy) r rs h
      simp at h
     .rename_i size len zero idx t l c W;split at E
      .rename_i aH;obtain⟨aI,rfl,rfl⟩:=aH;obtain⟨az,M,rfl⟩:=ζf.1 E;unfold kN at h;split at h
       next L B=>have⟨ys,C,rs⟩:=nL gd.N r.slot M B;have J:=iO gd.N hr C;exact yL gd (λ_ _ e=>by cases e) J.1 ao (λy hy=>B9 ⟨_,_,_,W⟩ J aI hy) r rs h
       simp at h
      obtain⟨az,M,rfl⟩:=ζf.1 E;unfold kN at h;split at h
      next L B=>have⟨ys,C,rs⟩:=nL gd.N r.slot M B;have J:=iO gd.N hr C;exact yL gd (λ_ _ e=>by cases e) J.1 ao (λy hy=>Bi ⟨_,_,_,W⟩ J hy) r rs h
      simp at h
     cases E
    rename_i aj;have am:mF X.E ops place=false:=by cases place with|none=>rfl|some O=>have⟨b,j⟩:=O;have I:=P b j rfl;cases ay:Be X.E ops j with|false=>exact ay|true=>exact absurd (by rw[G,<-I,ay];rfl) aj
    rcases By dr ops i k os with⟨hq,aJ⟩|⟨u,ap,n,a,l,aU,rfl,rfl,aK,hq⟩|⟨u,ap,n,ag,a,rfl,rfl,hq⟩|⟨u,ap,aL,n,rfl,hq⟩
    rotate_left
    .rw[hq]at E;obtain⟨az,M,rfl⟩:=ζf.1 E;unfold kN at h;split at h
     .rename_i L B;have⟨ys,C,rs⟩:=nL gd.N r.slot M B;simp only[u,Bool.not_true,Bool.false_or,if_true]at h;have⟨y,H',ν',e1,e2,e3,e4,e5⟩:=A6 r rs h;refine⟨0,y,H',ν',Z,λq _=>?_,e2,e3,e4.weak (λ_ h=>h.elim),λ_=>⟨rfl,e5⟩⟩
      cases place with
      |none=>rw[G]at u;cases u|some O=>have⟨b,j⟩:=O;have I:=P b j rfl;subst I;exact Rf gd hr C aK ap e1
     simp at h
    .rw[hq]at E;obtain⟨az,M,rfl⟩:=ζf.1 E;unfold kN at h;split at h
     .rename_i L B;have⟨ys,C,rs⟩:=nL gd.N r.slot M B;simp only[u,Bool.not_true,Bool.or_self,Bool.false_or]at h;split at h
      .rename_i aq;have⟨x,hx,e⟩:=ζf.1 h;simp only[ζc]at e;obtain⟨rfl,rfl⟩:=e
       cases place with
       |none=>rw[G]at u;cases u|some O=>have⟨b,j⟩:=O;have I:=P b j rfl;subst I;have⟨aA,ar,ak⟩:=K b j rfl;rw[u];exact O5 gd hr C rs aq aA ar ak r hx
      simp at h
     simp at h
    .rw[hq]at E;obtain⟨az,M,rfl⟩:=ζf.1 E;unfold kN at h;split at h
     rotate_left
     .simp at h
     rename_i L B;have⟨ys,C,rs⟩:=nL gd.N r.slot M B;simp only at h;have key:∃e x,(e=V.bL\/e=V.dF)/\L=[.v e,x]/\lX st o.dst (.append n) L=some (sv,st'):=by split at h;exact⟨_,_,.inl rfl,rfl,h⟩;exact⟨_,_,.inr rfl,rfl,h⟩;cases h
     obtain⟨e,x,he,rfl,hl⟩:=key;have⟨y,H',ν',e1,e2,e3,e4,e5⟩:=A6 r rs hl;have⟨g1,g2⟩:=iO gd.N hr C;refine⟨0,y,H',ν',Z,λq _=>?_,e2,e3,e4.weak (λ_ h=>h.elim),λ_=>⟨rfl,e5⟩⟩
     obtain⟨y1,zs,rfl,f1,f2⟩:=rs.inv;have aM:y1=.bL\/y1=.dF:=by cases f1 with|v _ _ hf=>rcases he with rfl|rfl<;>first|exact .inl hf.bL|exact .inr hf.dF
     cases place with
     |none=>rw[G]at u;cases u|some O=>have⟨b,j⟩:=O;have I:=P b j rfl;subst I;have⟨r1,r2⟩:=Cr hr C aM;exact L0 r1 (by rw[<-gd.E];exact g2 _ _ e1) (.inr ⟨aL,r2,(K b j rfl).1⟩)
    rw[hq]at E;obtain⟨az,M,rfl⟩:=ζf.1 E;unfold kN at h;split at h
    .rename_i L B;have⟨ys,C,rs⟩:=nL gd.N r.slot M B;have D:=iO gd.N hr C;simp only at h
     cases k with
     |p p=>
      cases p with
      |slice size lo P=>
       simp only at h;split at h
       .rename_i d bs;split at h
        .simp at h
        rename_i au;have⟨y,ν',h1,h2,h3,h4⟩:=LB (N:=S.N) (Rv:=λid=>∃b j,place=some (b,j)/\id=b+j) r rs h
        have⟨g1,g2⟩:=D;exact⟨0,y,H,ν',Z,λq _=>by unfold cW;rw[g1];simp only[<-gd.E,w6 (g2 y h1),map_some],h2,h3,h4,λU=>absurd U au⟩
       exact Kx gd A r rs D h
      |_=>exact Kx gd A r rs D h
     |r q=>
      simp only at h;split at h
      .rename_i Y;have⟨x,hx,e⟩:=ζf.1 h;simp only[ζc]at e;obtain⟨rfl,rfl⟩:=e;have⟨g1,g2⟩:=D;have av:∀kk z ok,q=.lookup kk z ok->z.good=true:=λkk z ok e=>by subst e;simpa[zI]using A
       have ad:∀s a,q≠.loadF s a:=λs a e=>by subst e;exact D0 hr
       cases place with
       |none=>
        have⟨y,hy,ae⟩:=uG ad av rs (λd _ ob U=>r.obj d ob U) hx
        exact⟨0,y,H,ν,Z,λq _=>by unfold cW;rw[g1];simp only[<-gd.E,g2 H y hy,map_some],r,ae,.refl,λ_=>⟨rfl,.refl⟩⟩
       |some O=>
        have⟨b,j⟩:=O;have⟨aA,ar,ak⟩:=K b j rfl;have u:dr=true:=G;subst u;have I:=P b j rfl;subst I;simp only[Bool.not_true,Bool.false_or,Bool.true_and]at Y;have aB:mS ops j F o.op=true:=LX hr λn ag a' e1 e2 t e3=>by by_cases T:dJ ops j=true;exact BP (aG b j rfl) e3 T;exact aJ n ag a' rfl (by simpa using T) e1 e2
        by_cases T:dJ ops j=true
        .have⟨y,hy,ae⟩:=uG ad av rs (λd _ ob U=>r.obj d ob U) hx
         have hH:=g2 H y hy;refine⟨0,y,H,ν,Z,λq _=>?_,r,ae,.refl,λ_=>⟨rfl,.refl⟩⟩
         unfold cW;rw[g1];simp only[<-gd.E,aB,if_true];split
         next v hv=>have:=xB hv;rw[hH]at this;cases this;rfl
         rw[if_pos T,hH];rfl
        have aq:eW fr L=true:=by simpa[T]using Y
        have ab:∀id,Z id->Z id/\bD (H.take b) id=bD H id:=λid h=>⟨h,mh (ak id h)⟩
        have aC:∀id,Z id->Z id/\bD H id=bD (H.take b) id:=λid h=>⟨h,(mh (ak id h)).symm⟩
        have⟨y,hy,ae⟩:=uG (H:=H.take b) ad av (rs.mono ab λe _=>iE ν st.m e) (λd U ob aD=>by
         have ad:d∉fr:=λhf=>by rw[mK aq d hf]at U;cases U
         exact dV.mono ab rfl (λhb=>by rw[getElem?_take,if_pos (ar d ob aD hb ad)]) (λe _=>iE ν st.m e) (r.obj d ob aD)) hx
        refine⟨0,y,H,ν,Z,λq _=>?_,r,ae.mono aC (λe _=>iE ν st.m e),.refl,λ_=>⟨rfl,.refl⟩⟩
        unfold cW;rw[g1];simp only[<-gd.E,g2 (H.take b) y hy,aB,if_true]
      simp at h
     |a q=>
      simp only at h;split at h
      .rename_i d U;split at h
       .rename_i aa;have⟨⟨ob,x⟩,hx,e⟩:=ζf.1 h;simp only[ζc]at e;obtain⟨rfl,rfl⟩:=e;have⟨af,mk,e1,e2,e3,e4⟩:=K_ A rs hx;have⟨g1,g2⟩:=D;have⟨n1,n2,n3,n4⟩:=lC aa;have aw:∀p:Nat×Nat,∀e,SV.dD e L=true->∀ah,bB (bR st.m d ob) e=some ah->∃ob,bB st.m e=some ob/\iz ν d p e=ν e/\sameShape ob ah:=λp e he=>by
         refine sj ?_;rintro rfl;have:∀{xs:Z4}{vs:Zw},cn S.N st.g xs=some vs->SV.dD e vs=false:=by intro xs;induction xs with|nil=>intro vs h;simp only[cn,ζa]at h;subst h;rfl|cons a xs ih=>intro vs h;simp only[cn]at h;split at h;rename_i v aV h1 h2;simp only[ζa]at h;subst h;simp only[SV.dD,or_eq_false_iff];refine⟨?_,ih h2⟩;(cases a with|s n=>exact xq n3 h1|k c=>simp only[pT,ζa]at h1;subst h1;rfl|f s=>simp only[pT,ζa]at h1;subst h1;rfl);simp at h
         rw[this B]at he;cases he
        have fin:∀(id:Nat)(Hn:bC),H.length<=Hn.length->Hn[id]?=some af->(∀k,k<H.length->k≠id->Hn[k]?=H[k]?)->(∀k,e9 ν st.m k->k≠id)->(∀k,Z k->k≠id)->
         R (iz ν d (id,0)) Z {st with m:=bR st.m d ob} F Hn/\di (iz ν d (id,0)) (bR st.m d ob) Hn Z x (mk.val id)/\(∀k,Z k->bD Hn k=bD H k):=λid Hn hl aN J ho hz=>by
         have ab:∀k,Z k->bD Hn k=bD H k:=λk A=>by unfold bD;rw[J k (r.uD A) (hz k A)]
         have⟨a1,a2⟩:=e4 id (iz ν d (id,0)) (bR st.m d ob) Hn (gB _ _ _) (cI _ _ _) aN ab (aw _);have r2:R ν Z st F Hn:=r.heap (λk A=>J k (r.lt A) (ho k A)) ab
         exact⟨r2.add aa (λ_=>⟨λh=>ho _ h rfl,λh=>hz _ h rfl⟩) a1,a2,ab⟩
        have aE:o.dst=some d:=U
        cases place with
        |none=>
         have⟨f1,f2,f3⟩:=fin H.length (H++[af]) Zc Zc (λk A _=>getElem?_append_left A) (λk A=>Nat.ne_of_lt (r.lt A)) (λk A=>Nat.ne_of_lt (r.uD A))
         refine⟨0,mk.val H.length,H++[af],iz ν d (H.length,0),Z,λq _=>?_,f1,f2,Ev.add aa Zc (λk A _=>getElem?_append_left A) f3 (λ_=>.inr (le_refl _)),λhh=>?_⟩
         .unfold cW;rw[g1];simp only[am,false_eq_true,if_false,<-gd.E,g2 _ e1]
         rw[G]at hh;cases hh
        |some O=>
         have⟨b,j⟩:=O;have hf:=an b j rfl g1;have aO:=(ζe.1 hf).1;have nf:∀k,e9 ν st.m k->k≠b+j:=λk A e=>by subst e;have⟨d',ah,w1,w2,w3⟩:=A;have:=r.obj d' ah w1;cases ah with|sl fl es xs=>simp only[cE]at w2;simp only[dV,w2,if_true]at this;have⟨_,Q,_⟩:=this;rw[w3,hf]at Q;cases Q|box cs=>have⟨_,_,Q,_⟩:=this;rw[w3,hf]at Q;cases Q|mp aW=>have⟨_,Q,_⟩:=this;rw[w3,hf]at Q;cases Q
         have nz:∀k,Z k->k≠b+j:=λk A e=>by subst e;have:=r.zrow _ A;unfold bD at this;rw[hf]at this;simp[Ob.rows]at this
         have⟨f1,f2,f3⟩:=fin (b+j) (H.set (b+j) af) Zc (by rw[getElem?_set_self aO]) (λk _ A=>by rw[getElem?_set,if_neg (Ne.symm A)]) nf nz
         refine⟨0,mk.val (b+j),H.set (b+j) af,iz ν d (b+j,0),Z,λq _=>?_,f1,f2,Ev.add aa Zc (λk _ A=>?_) f3 (λ_=>.inl ⟨b,j,rfl,rfl⟩),λ_=>⟨rfl,?_⟩⟩
         .unfold cW;rw[g1];simp only[am,false_eq_true,if_false,<-gd.E,g2 _ e1,hf]
         .rw[getElem?_set,if_neg λe=>A ⟨b,j,rfl,e.symm⟩]
         have:wT ⟨o.dst,g,dr&&dJ ops j,.a q,az,[],[]⟩=some d:=aE;have I:=P b j rfl;subst I;rw[this];exact Kept.add λ_ _ h=>h
       simp at h
      simp at h
     |l q=>
      simp only at h;split at h
      .rename_i Y;have⟨y,H',ν',e1,e2,e3,e4,e5⟩:=A6 r rs h;have⟨g1,g2⟩:=D;refine⟨0,y,H',ν',Z,λq _=>?_,e2,e3,e4.weak (λ_ h=>h.elim),λ_=>⟨rfl,e5⟩⟩
       unfold cW;rw[g1];simp only[<-gd.E]
       cases place with
       |none=>exact g2 _ _ e1|some O=>
        have⟨b,j⟩:=O;have u:dr=true:=G;subst u;have I:=P b j rfl;subst I;have T:dJ ops j=true:=by simpa using Y
        simp only[T,if_true];exact g2 _ _ e1
      simp at h
     |e n=>exact D.elim|b=>
      simp only at h;split at h
      .cases h
      rename_i au;have aP:dr=false:=by simpa using au
      have aQ:place=none:=by cases place with|none=>rfl|some O=>rw[aP]at G;simp at G
      subst aQ;split at h
      next x=>have⟨xs,h1,h2⟩:=ζg.1 h;have⟨l,h3,e⟩:=ζf.1 h2;simp only[ζc]at e;obtain⟨rfl,rfl⟩:=e;have⟨g1,y,e1,g2⟩:=D;have⟨y',_,e2,r1,r2⟩:=rs.inv;rw[e1]at e2;cases e2;have⟨zs,k1,k2⟩:=tq r1 r.obj h1;have hz:kC zs=some l:=yJ k2 h3;have⟨q1,q2⟩:=g2 H zs l k1 hz;exact⟨0,_,H,ν,Z,λq _=>by unfold cW;rw[g1];simp only[rz,<-gd.E,q1,q2,map_some],r,.v _ _ (.same _ rfl),.refl,λ_=>⟨rfl,.refl⟩⟩
      cases h
     |c=>
      simp only at h;have⟨g1,f',aX,e1,e2⟩:=D;have go:∀(f:Zk)(args:Zw)(al:Zu),b7 ν st.m H Z args al->jo F o.op=some (.fn f,al)->fV S c o.dst dr (!dr||(dr&&dJ ops i)) (gb st.m fr) f args st=some (sv,st')->
       BQ S ops place dr F o.op (wT ⟨o.dst,g,dr&&dJ ops i,.c,az,[],[]⟩) ν Z st H sv st':=λf args al aR aF aS=>by
       have⟨n,y,H',ν',Z',p1,p2,p3,p4,p5,p6⟩:=MK (ops:=ops) (Rv:=λid=>∃b j,place=some (b,j)/\id=b+j) hS gd.prm G (λb j hp hn=>by
        have:=P b j hp;subst this;simp only[ζh]at hn;exact hn.2) (λb j hp hn=>by have:=P b j hp;subst this;rw[G,hp]at hn;simpa using hn) (λb j hp=>(K b j hp).2) r aR aS
       refine⟨n,y,H',ν',Z',λq hq=>?_,p2,p3,p4,λU=>⟨p5 U,p6⟩⟩
       have aT:uH ops place al=true:=by cases place with|none=>rfl|some O=>simp only[uH,P _ _ rfl,ax G g1];rfl
       unfold cW;rw[g1];simp only[aF,aT,if_true];exact p1 q hq
      split at h
      next f a b vs=>have⟨w,ws,ew,r1,r2⟩:=rs.inv;rw[ew]at e1;simp only[List.cons.injEq]at e1;obtain⟨rfl,rfl⟩:=e1;obtain⟨a',b',rfl,ra,rb⟩:=r1.jD;exact go f _ _ ((ra.append r2).append rb) e2 h
      next f a b vs=>have⟨w,ws,ew,r1,r2⟩:=rs.inv;rw[ew]at e1;simp only[List.cons.injEq]at e1;obtain⟨rfl,rfl⟩:=e1;obtain⟨a',b',rfl,ra,rb⟩:=r1.fr.jD;exact go f _ _ (((b7.qm ra).append r2).append (b7.qm rb)) e2 h
      simp at h
    simp at h
   simp at E
  simp at E
 simp at E
end
def fE(N:Nat->Zk)(g:Tb SV)(o:RO):bt (Nat×Zw):=
 match o.k,cn N g o.az with
 |.c,some (.yl id::u)=>some (id,u)|_,_=>none
open Classical in
def fq(S:Sys)(c:cg)(dr:Zl)(fr:Zv)(o:RO)(st:St):bt St:=
 match wanted st.g o.gd with
 |some true=>match fE S.N st.g o with
  |some (id,z)=>if dr then none else match dA z,st.want with
   |some B,w::u=>if B=w/\id=st.yid then some (dy {st with want:=u} o.dst (.v (.bool (st.more|| !u.isEmpty))))else none|_,_=>none
  |none=>(kN S c dr fr o st).map λ(x,st')=>dy st' o.dst x
 |some false=>some (dy st o.dst (.v .undef))|none=>none
def RO.strip(o:RO):RO:={o with dead:=[],pre:=[]}
def nS:Z5->St->bt St
 |[],st=>some st|x::r,st=>(ghost x st).bind (nS r)
def zi:Gh->Zl
 |.keep ..=>true|.drop _=>true|_=>false
def A1(dr:Zl)(l:Z5)(st:St):bt St:=if dr then(if l.all zi then nS l st else none)else nS l st
def ou(ds:Zv)(st:St):St:={st with g:=oF ds st.g}
def mg(S:Sys)(c:cg)(dr:Zl):Zv->Zx->St->bt St
 |_,[],st=>some st|fr,o::r,st=>match(A1 dr o.pre st).bind (fq S c dr fr o.strip)with
  |some st'=>mg S c dr (if dr then p_ fr o.strip else fr) r (ou o.dead st')|none=>none
abbrev JT:=a_ (a_ V)->(Nat->Prop)->(Nat->Prop)->bC->Prop
structure Yc(S:Sys)(J:JT)(more:Bool)(yid:Nat):Prop where
 vO:∀w O Z H O' Z' H',J w O Z H->H.length<=H'.length->(∀i,i<H.length->¬O i->¬Z i->H'[i]?=H[i]?)->(∀i,Z i->Z' i/\bD H' i=bD H i)->
  (∀i,O' i->O i\/H.length<=i)->(∀i,Z' i->Z i\/O i\/H.length<=i)->J w O' Z' H'
 yield:∀x ws O Z H args,J (x::ws) O Z H->dn H Z x args->(∀i,Z i->(bD H i).isSome=true)->Deep H Z->(∀i,O i->¬Z i/\i<H.length)->
  ∃n H',run S.E n (.yld yid) args H=some (.bool (more|| !ws.isEmpty),H')/\J ws O Z H'/\H.length<=H'.length/\(∀i,O i->H'[i]?=H[i]?)/\(∀i,Z i->bD H' i=bD H i)
structure Fix(ν:Nu)(st:St)(ν':Nu)(st':St):Prop where
 pin:∀d∈st.pin,∀ob',bB st'.m d=some ob'->∃ob,bB st.m d=some ob/\ν' d=ν d/\sameShape ob ob'
 pins:st'.pin=st.pin
 more:st'.more=st.more
 yid:st'.yid=st.yid
section
variable{Rv:Nat->Prop}{ν ν' ν2:Nu}{Z Z':Nat->Prop}{st st' st2:St}{m m':Tb bN}{F F':Zo}{H H' H1:bC}{S:Sys}{c:cg}{X:CX}{J:JT}
def Fix.refl:Fix ν st ν st:=⟨λ_ _ u h=>⟨u,h,rfl,.refl _⟩,rfl,rfl,rfl⟩
def Fix.trans(a:Fix ν st ν' st')(b:Fix ν' st' ν2 st2):Fix ν st ν2 st2:=
 ⟨λd z u h=>by
  have⟨w,c,C,B⟩:=b.pin d (by rw[a.pins];omega) u h
  have⟨ob,k1,k2,k3⟩:=a.pin d z w c;exact⟨ob,k1,Ze,k3.trans B⟩,by rw[b.pins,a.pins],by rw[b.more,a.more],by rw[b.yid,a.yid]⟩
def Ev.beside(y:Yc S J st.more st.yid)(a:Ev (λ_=>False) ν Z st H ν' Z' st' H')(B:st'.want=st.want)(j:J st.want (e9 ν st.m) Z H):J st'.want (e9 ν' st'.m) Z' H':=by
 rw[B];exact y.vO _ _ _ _ _ _ _ j a.len (λi b u w=>a.same i b u w (λh=>h)) a.rows (λi h=>(a.own i h).imp (λh=>h) (λh=>h.elim (λh=>h.elim) (λh=>h)))
  (λi h=>(a.frz i h).imp (λh=>h) (λh=>h.imp (λh=>h) (λh=>h.elim (λh=>h.elim) (λh=>h))))
def tT(D:∀s sv,bB st.g s=some sv->di ν m H Z sv (get F s)){ops:Zz}{o:Oper}{gd:bt (Nat×Zl)}(a:AG ops o=some gd){t:Zl}(B:wanted st.g gd=some t):fD ops F o=t:=by unfold AG at a;unfold fD;cases u:o.guard with|none=>rw[u]at a;simp at a;simp[wanted]at B;grind|some G=>rw[u]at a;obtain⟨d,C,rfl⟩:=ζf.1 a;simp[C];simp[wanted]at B;split at B;(next c b=>simp at B;subst B;rw[(D d _ b).fr.bool]);rename_i x I b;simp at B;subst B;have w:=(D d _ b).fr;split;rename_i c z;rw[z]at w;cases w;grind;rfl;grind
def Lv{q:De}{dst:bt Nat}{args:Zw}{sv:SV}(h:AX q dst args st=some (sv,st')):st'.want=st.want/\st'.pin=st.pin/\st'.more=st.more/\st'.yid=st.yid:=by unfold AX at h;grind
def Nh{dr:Zl}{fr:Zv}{ro:RO}{sv:SV}(h:kN S c dr fr ro st=some (sv,st')):st'.want=st.want/\st'.pin=st.pin/\st'.more=st.more/\st'.yid=st.yid:=by
 unfold kN at h;split at h
 .split at h;split at h;split at h;simp at h;unfold yS at h;split at h;split at h;have⟨_,_,h⟩:=ζg.1 h;have⟨_,_,h⟩:=ζg.1 h;dsimp only at h;split at h;simp only[ζa,ζc]at h;obtain⟨_,rfl⟩:=h;exact⟨rfl,rfl,rfl,rfl⟩;simp at h;simp at h;simp at h;have⟨_,_,e⟩:=ζf.1 h;simp only[ζc]at e;obtain⟨_,rfl⟩:=e;exact⟨rfl,rfl,rfl,rfl⟩;have⟨_,_,e⟩:=ζf.1 h;simp only[ζc]at e;obtain⟨_,rfl⟩:=e;exact⟨rfl,rfl,rfl,rfl⟩;split at h;have⟨_,_,e⟩:=ζf.1 h;simp only[ζc]at e;obtain⟨_,rfl⟩:=e;exact⟨rfl,rfl,rfl,rfl⟩;simp at h;split at h;split at h;have⟨_,_,e⟩:=ζf.1 h;simp only[ζc]at e;obtain⟨_,rfl⟩:=e;exact⟨rfl,rfl,rfl,rfl⟩;simp at h;simp at h
  .split at h
   .unfold lX at h;((repeat' split at h)<;>first|(simp at h;done)|(simp only[ζa,ζc]at h;obtain⟨_,rfl⟩:=h;exact⟨rfl,rfl,rfl,rfl⟩)|(have⟨_,_,e⟩:=ζf.1 h;simp only[ζc]at e;obtain⟨_,rfl⟩:=e;exact⟨rfl,rfl,rfl,rfl⟩)|skip);dsimp only at h;(repeat' split at h)<;>first|(simp at h;done)|(simp only[ζa,ζc]at h;obtain⟨_,rfl⟩:=h;exact⟨rfl,rfl,rfl,rfl⟩)
   simp at h
  .have hc:∀{dst dr now u f args},fV S c dst dr now u f args st=some (sv,st')->st'.want=st.want/\st'.pin=st.pin/\st'.more=st.more/\st'.yid=st.yid:=(by intro dst dr now u f args h;unfold fV at h;(repeat' split at h)<;>first|exact Lv h|(have⟨_,_,e⟩:=ζf.1 h;simp only[ζc]at e;obtain⟨_,rfl⟩:=e;exact⟨rfl,rfl,rfl,rfl⟩)|(simp at h;done)|(simp only[ζa,ζc]at h;obtain⟨_,rfl⟩:=h;exact⟨rfl,rfl,rfl,rfl⟩));split at h;exact hc h;exact hc h;simp at h
  split at h;simp at h;split at h;have⟨_,_,h⟩:=ζg.1 h;have⟨_,_,e⟩:=ζf.1 h;simp only[ζc]at e;obtain⟨_,rfl⟩:=e;exact⟨rfl,rfl,rfl,rfl⟩;simp at h;have z:∀{dst l w},lX st dst l w=some (sv,st')->st'.want=st.want/\st'.pin=st.pin/\st'.more=st.more/\st'.yid=st.yid:=by intro dst l w h;unfold lX at h;((repeat' split at h)<;>first|(simp at h;done)|(simp only[ζa,ζc]at h;obtain⟨_,rfl⟩:=h;exact⟨rfl,rfl,rfl,rfl⟩)|(have⟨_,_,e⟩:=ζf.1 h;simp only[ζc]at e;obtain⟨_,rfl⟩:=e;exact⟨rfl,rfl,rfl,rfl⟩)|skip);all_goals (dsimp only at h;(repeat' split at h)<;>first|(simp at h;done)|(simp only[ζa,ζc]at h;obtain⟨_,rfl⟩:=h;exact⟨rfl,rfl,rfl,rfl⟩))
  split at h;exact z h;exact z h;simp at h
 simp at h
def zU(r:R ν Z st F H){a:Nat}{dst:bt Nat}(B:xz a dst=true){sv:SV}{y:V}(h:di ν st.m H Z sv y):∃F',jB a F dst y=some F'/\R ν Z (dy st dst sv) F' H:=by cases dst with|none=>exact⟨F,rfl,r⟩|some d=>have:=(by simpa[xz]using B);exact⟨set F d y,by simp[jB,if_pos this],r.put h⟩
def BL(st:St)(dst:bt Nat)(sv:SV):(dy st dst sv).m=st.m/\(dy st dst sv).want=st.want/\(dy st dst sv).pin=st.pin/\(dy st dst sv).more=st.more/\(dy st dst sv).yid=st.yid:=by cases dst<;>exact⟨rfl,rfl,rfl,rfl,rfl⟩
def Ic(gd:Good X S)(U:jh S c){ops:Zz}{place:bt (Nat×Nat)}{dr:Zl}{fr:Zv}{i:Nat}(J:dr=place.isSome)(W:∀b j,place=some (b,j)->j=i)
 (a:∀b j,place=some (b,j)->b<=H.length/\Old b fr ν Z st.m)
 {o:Oper}{ro:RO}(l:lF X dr ops i o=some ro)(O:∀b j,place=some (b,j)->ops[j]?=some o)(D:∀b j,place=some (b,j)->cO o.op=.alloc->H[b+j]?=some .free)
 (r:R ν Z st F H)(B:fE S.N st.g ro=none\/dr=true)(h:fq S c dr fr ro st=some st'):
 ∃n F' H' ν' Z',(∀k,n<=k->fW S.E (run S.E k) X.nt ops place o F H=some (F',H'))/\R ν' Z' st' F' H'/\Ev (λid=>∃b j,place=some (b,j)/\id=b+j) ν Z st H ν' Z' st' H'/\
  (dr=true->Z'=Z/\Kept (wT ro) ν st.m ν' st'.m)/\st'.want=st.want/\Fix ν st ν' st':=by
 have I:=l;obtain⟨w,g,now,k,az,m,rfl⟩:=Bx l;unfold fq at h;split at h
 .rename_i L;have z:=tT r.slot m L;have Y:(kN S c dr fr ⟨o.dst,g,now,k,az,[],[]⟩ st).map (λ(x,st')=>dy st' o.dst x)=some st':=by
   split at h
   .rename_i id vs G;rcases B with B|B
    .rw[B]at G;cases G
    subst B;simp at h
   exact h
  obtain⟨⟨x,Q⟩,u,rfl⟩:=ζf.1 Y;have⟨n,y,H',ν',Z',e1,e2,e3,e4,e5⟩:=R1 gd U J W a I O D r u;have⟨p,T,q,s⟩:=Nh u;have⟨F',e,f⟩:=zU e2 w e3;have⟨p1,p2,p3,p4,p5⟩:=BL Q o.dst x;refine⟨n,F',H',ν',Z',λk t=>?_,f,?_,λu=>⟨(e5 u).1,by rw[p1];exact(e5 u).2⟩,by rw[p2,p],⟨λd u=>by rw[p1];exact e4.pin d u,by rw[p3,T],by rw[p4,q],by rw[p5,s]⟩⟩
  .unfold fW;simp only[z,if_true,e1 k t,e,map_some]
  exact⟨e4.len,e4.same,e4.rows,λid h=>e4.own id (by rw[p1]at h;exact h),e4.frz,λd u=>by rw[p1];exact e4.pin d u,by rw[p3,T]⟩
 .rename_i L;have z:=tT r.slot m L;simp only[ζa]at h;subst h;have⟨F',e,f⟩:=zU r w (.v V.undef V.undef (.same _ rfl));have⟨p1,p2,p3,p4,p5⟩:=BL st o.dst (.v .undef);refine⟨0,F',H,ν,Z,λk _=>?_,f,?_,λ_=>⟨rfl,by rw[p1];exact .refl⟩,p2,⟨λd u=>by rw[p1];exactλC h=>⟨C,h,rfl,.refl _⟩,p3,p4,p5⟩⟩
  .unfold fW;simp only[z,false_eq_true,if_false,e,map_some]
  exact⟨le_refl _,λ_ _ _ _ _=>rfl,λ_ h=>⟨h,rfl⟩,λ_ h=>.inl (by rw[p1]at h;exact h),λ_ h=>.inl h,λd u=>by rw[p1];exactλC h=>⟨C,h,rfl,.refl _⟩,p3⟩
 simp at h
def N6(gd:Good X S)(y:Yc S J st.more st.yid){ops:Zz}{fr:Zv}{i:Nat}{o:Oper}{ro:RO}(a:lF X false ops i o=some ro)
 (r:R ν Z st F H)(j:J st.want (e9 ν st.m) Z H){id:Nat}{vs:Zw}(B:fE S.N st.g ro=some (id,vs))(D:wanted st.g ro.gd=some true)(h:fq S c false fr ro st=some st'):
 ∃n F' H',(∀k,n<=k->fW S.E (run S.E k) X.nt ops none o F H=some (F',H'))/\R ν Z st' F' H'/\J st'.want (e9 ν st'.m) Z H'/\Fix ν st ν st':=by
 unfold lF at a;simp only[Bool.false_and,false_eq_true,if_false,Bool.not_false,Bool.and_true]at a;split at a
 .rename_i C;split at a
  .rename_i g k os hg hr;split at a
   .obtain⟨az,W,rfl⟩:=ζf.1 a;unfold fq at h;simp only at D;have L:=tT r.slot hg D;rw[D]at h;simp only[B,false_eq_true,if_false]at h;unfold fE at B;split at B
    .rename_i Y aa b G;simp only[ζa,ζc]at B;obtain⟨rfl,rfl⟩:=B;simp only at b G;subst b;have⟨ys,O,rs⟩:=nL gd.N r.slot W G;have⟨g1,A,E,e1,e2⟩:=iO gd.N hr O;have⟨w,K,e,r1,r2⟩:=rs.inv;rw[e]at e1;simp only[List.cons.injEq]at e1;obtain⟨rfl,rfl⟩:=e1;cases r1;simp only at e2;split at h
     .rename_i xs x I hx u;split at h
      .rename_i z;obtain⟨rfl,rfl⟩:=z;simp only[ζa]at h;subst h;rw[u]at j;have⟨n,H',p1,p2,p3,p4,p5⟩:=y.yield _ _ _ _ _ _ j (r2.dA hx) r.zrow r.deep (λi T=>⟨by obtain⟨d,ob,f,l,rfl⟩:=T;exact r.apart d ob f l,r.lt T⟩)
       have r3:R ν Z st F H':=r.heap p4 p5;have r4:R ν Z {st with want:=I} F H':=⟨r3.slot,r3.obj,r3.inj,r3.apart,r3.zrow,r3.deep⟩;have⟨F',m,p⟩:=zU (st:={st with want:=I}) r4 C (sv:=.v (.bool (st.more|| !I.isEmpty))) (.v _ _ (.same _ rfl));have⟨U,q,s,t,v⟩:=BL {st with want:=I} o.dst (.v (.bool (st.more|| !I.isEmpty)));refine⟨n,F',H',λk b=>?_,p,by rw[U,q];exact p2,⟨λd M=>by rw[U];exactλQ h=>⟨Q,h,rfl,.refl _⟩,s,t,v⟩⟩
       unfold fW cW;rw[g1,e2];simp only[L,if_true,(mN S.E b).go _ _ _ _ p1,m,map_some]
      simp at h
     simp at h
    simp at B
   simp at a
  simp at a
 simp at a
def ki(X:CX)(B:Zl)(ops:Zz):Nat->Zz->bt Zx
 |_,[]=>some []|i,o::r=>match lF X B ops i o,ki X B ops (i+1) r with
  |some ro,some rs=>some (ro::rs)|_,_=>none
def R.xu(r:R ν Z st F H)(ds:Zv):R ν Z (ou ds st) F H:=r.less (λs z u=>nv u) (λd ob w=>w)
def Fix.xu{ds:Zv}(f:Fix ν (ou ds st) ν' st'):Fix ν st ν' st':=⟨f.pin,f.pins,f.more,f.yid⟩
def Fix.ghost(r:R ν Z st F H)(y:Yc S J st.more st.yid)(j:J st.want (e9 ν st.m) Z H){x:Gh}(h:ghost x st=some st'):∃ν' Z',R ν' Z' st' F H/\J st'.want (e9 ν' st'.m) Z' H/\Fix ν st ν' st':=by
 have⟨ν',Z',a,u⟩:=Mm (Rv:=λ_=>False) r h;have w:st'.want=st.want/\st'.more=st.more/\st'.yid=st.yid:=by unfold Go.VE.ghost ya at h;(repeat' split at h)<;>first|grind|grind
 exact⟨ν',Z',a,u.beside y w.1 j,⟨u.pin,u.pins,w.2.1,w.2.2⟩⟩
def Fix.quiet(r:R ν Z st F H):∀{l:Z5}{st':St},l.all zi=true->Go.VE.nS l st=some st'->R ν Z st' F H/\Ev Rv ν Z st H ν Z st' H/\st'.want=st.want/\Fix ν st ν st'/\∀d ob,bB st'.m d=some ob->bB st.m d=some ob:=by intro l;induction l generalizing st with|nil=>intro st' _ h;simp[Go.VE.nS]at h;subst h;exact⟨r,.refl,rfl,.refl,λ_ _ h=>h⟩|cons x l C=>intro st' z h;simp only[all_cons,ζh]at z;have⟨D,a,G⟩:=ζg.1 h;have key:∃g m,D={st with g:=g,m:=m}/\(∀s u,bB g s=some u->bB st.g s=some u)/\∀d ob,bB m d=some ob->bB st.m d=some ob:=(by cases x with|keep gs T=>simp[Go.VE.ghost]at a;split at a;(next g m b I=>simp at a;subst a;exact⟨g,m,rfl,λs u B=>pN b B,λd ob J=>pN I J⟩);grind|drop ds=>simp[Go.VE.ghost]at a;subst a;exact⟨_,st.m,rfl,λs u B=>nv B,λ_ _ h=>h⟩|_=>simp[zi]at z);obtain⟨g,m,rfl,L,w⟩:=key;have⟨a1,a2,O,Q,S⟩:=C (r.less L w) z.2 G;exact⟨a1,(Ev.less w).trans a2,O,Fix.trans (st':={st with g:=g,m:=m}) ⟨λd _ ob h=>⟨ob,w d ob h,rfl,.refl _⟩,rfl,rfl,rfl⟩ Q,λd ob h=>w d ob (S d ob h)⟩
def Fix.nS:∀{l:Z5}{ν:Nu}{Z:Nat->Prop}{st st':St},R ν Z st F H->Yc S J st.more st.yid->J st.want (e9 ν st.m) Z H->nS l st=some st'->∃ν' Z',R ν' Z' st' F H/\J st'.want (e9 ν' st'.m) Z' H/\Fix ν st ν' st'
 |[],ν,Z,st,st',r,y,j,h=>by simp[Go.VE.nS]at h;subst h;exact⟨ν,Z,r,j,.refl⟩|x::l,ν,Z,st,st',r,y,j,h=>by have⟨B,b,D⟩:=ζg.1 h;have⟨z,C,r1,u,a⟩:=Fix.ghost r y j b;have⟨ν2,Z2,r2,w,c⟩:=Fix.nS r1 (by rw[a.more,a.yid];omega) u D;exact⟨ν2,Z2,r2,w,a.trans c⟩
def ND(gd:Good X S)(O:jh S c){ops:Zz}{fr:Zv}{i:Nat}{o:Oper}{ro:RO}{B:St}(a:lF X false ops i o=some ro)(y:Yc S J st.more st.yid)(r:R ν Z st F H)(j:J st.want (e9 ν st.m) Z H)(G:fq S c false fr ro st=some B):
 ∃n F' H' ν' Z',(∀k,n<=k->fW S.E (run S.E k) X.nt ops none o F H=some (F',H'))/\R ν' Z' B F' H'/\J B.want (e9 ν' B.m) Z' H'/\Fix ν st ν' B:=by
 by_cases L:wanted st.g ro.gd=some true
 .cases C:fE S.N st.g ro with
  |none=>
   have⟨n,F',H',ν',Z',e1,e2,e3,e4,e5,e6⟩:=Ic gd O (place:=none) rfl (λb j h=>by cases h) (λb j h=>by cases h) a (λb j h=>by cases h) (λb j h=>by cases h) r (.inl C) G
   exact⟨n,F',H',ν',Z',e1,e2,(e3.weak (λid⟨b,j,h,_⟩=>by cases h)).beside y e5 j,e6⟩
  |some p=>have⟨id,U⟩:=p;have⟨n,F',H',e1,e2,e3,e4⟩:=N6 gd y a r j C L G;exact⟨n,F',H',ν,Z,e1,e2,e3,e4⟩
 have u:fq S c false fr ro st=some B:=G;have Q:fE S.N st.g {ro with az:=[]}=none:=by unfold fE;simp[cn]
 obtain⟨n,F',H',ν',Z',e1,e2,e3,e4,e5,e6⟩:∃n F' H' ν' Z',(∀k,n<=k->fW S.E (run S.E k) X.nt ops none o F H=some (F',H'))/\R ν' Z' B F' H'/\Ev (λ_=>False) ν Z st H ν' Z' B H'/\True/\B.want=st.want/\Fix ν st ν' B:=by unfold fq at u;split at u;(next w=>exact absurd w L);rename_i w;simp only[ζa]at u;subst u;unfold lF at a;simp only[Bool.false_and,false_eq_true,if_false,Bool.not_false,Bool.and_true]at a;split at a;rename_i D;split at a;rename_i g k os e m;split at a;obtain⟨az,W,rfl⟩:=ζf.1 a;have I:=tT r.slot e w;have⟨F',f,l⟩:=zU r D (.v V.undef V.undef (.same _ rfl));have⟨p1,p2,p3,p4,p5⟩:=BL st o.dst (.v .undef);refine⟨0,F',H,ν,Z,λk _=>?_,l,?_,trivial,p2,⟨λd T=>by rw[p1];exactλz h=>⟨z,h,rfl,.refl _⟩,p3,p4,p5⟩⟩;unfold fW;simp only[I,false_eq_true,if_false,f,map_some];exact⟨le_refl _,λ_ _ _ _ _=>rfl,λ_ h=>⟨h,rfl⟩,λ_ h=>.inl (by rw[p1]at h;exact h),λ_ h=>.inl h,λd T=>by rw[p1];exactλz h=>⟨z,h,rfl,.refl _⟩,p3⟩;simp at a;simp at a;simp at a;simp at u
 exact⟨n,F',H',ν',Z',e1,e2,e3.beside y e5 j,e6⟩
def KP(gd:Good X S)(U:jh S c){ops:Zz}{fr:Zv}:∀(rest:Zz){i:Nat}{B:Zx}{ν:Nu}{Z:Nat->Prop}{st st':St}{F:Zo}{H:bC},ki X false ops i rest=some (B.map RO.strip)->mg S c false fr B st=some st'->
 Yc S J st.more st.yid->R ν Z st F H->J st.want (e9 ν st.m) Z H->
 ∃n F' H' ν' Z',(∀k,n<=k->lu S.E (run S.E k) X.nt ops rest F H=some (F',H'))/\R ν' Z' st' F' H'/\J st'.want (e9 ν' st'.m) Z' H'/\Fix ν st ν' st'
 |[],i,B,ν,Z,st,st',F,H,hc,h,y,r,j=>by simp only[ki,ζa]at hc;have:=List.map_eq_nil_iff.1 hc.symm;subst this;simp[mg]at h;subst h;exact⟨0,F,H,ν,Z,λ_ _=>rfl,r,j,.refl⟩|o::rest,i,B,ν,Z,st,st',F,H,hc,h,y,r,j=>by simp[ki]at hc;split at hc;rename_i T rs e W;obtain⟨u,w,rfl,C,D⟩:∃u w,B=u::w/\T=u.strip/\rs=w.map RO.strip:=(by cases B with|nil=>simp_all|cons a b=>grind);subst D;simp[mg,<-C]at h;split at h;rename_i z G;have⟨Y,I,G⟩:=ζg.1 G;have⟨x,A,f,g,L⟩:=Fix.nS r y j I;have⟨l,F1,H1,E,K,a1,a2,a3,O⟩:=ND gd U e (by rw[L.more,L.yid];omega) f g G;have Q:=L.trans O;have⟨m,p,H2,ν2,Z2,q,s,t,v⟩:=KP gd U rest W h (by show Yc S J z.more z.yid;rw[Q.more,Q.yid];omega) (R.xu a2 u.dead) a3;refine⟨max l m,p,H2,ν2,Z2,λk d=>?_,s,t,Q.trans (Fix.xu v)⟩;simp[lu,a1 k (le_trans (le_max_left _ _) d),q k (le_trans (le_max_right _ _) d)];grind;grind
def Old.next{b:Nat}{fr:Zv}{o:RO}(h:Old b fr ν Z m)(a:Kept (wT o) ν m ν' m'):Old b (p_ fr o) ν' Z m':=by
 refine⟨λd ob D G w=>?_,h.2⟩;have z:d∉fr:=λL=>w (by unfold p_;grind);have B:wT o≠some d:=λe=>w (by unfold p_;grind);have⟨u,c,I,J⟩:=a d ob B D;have C:cE u=true:=by cases u<;>cases ob<;>simp[sameShape]at J<;>first|rfl|(simp[cE]at G⊢;grind)
 rw[I];exact h.1 d u c C z
def CO(r:R ν Z st F H){id:Nat}(h:e9 ν st.m id):H[id]?≠some .free:=by obtain⟨d,ob,a,u,rfl⟩:=h;have:=r.obj d ob a;cases ob with|sl k es C=>simp[cE]at u;simp[dV,u]at this;grind|box D=>have⟨es,z,b,_⟩:=this;grind|mp B=>have⟨w,b,_⟩:=this;grind
def I8(r:R ν Z st F H){id:Nat}(h:Z id):H[id]?≠some .free:=λe=>by have:=r.zrow id h;unfold bD at this;rw[e]at this;simp[Ob.rows]at this
def Ev.xu{ds:Zv}(e:Ev Rv ν Z (ou ds st) H ν' Z' st' H'):Ev Rv ν Z st H ν' Z' st' H':=⟨e.len,e.same,e.rows,e.own,e.frz,e.pin,e.pins⟩
def KV(gd:Good X S)(g:jh S c){ops:Zz}{b k:Nat}(G:qt ops=true->k=ops.length):∀(len:Nat){i:Nat}{B:Zx}{fr:Zv}{ν:Nu}{Z:Nat->Prop}{st st':St}{F:Zo}{H:bC},
 i+len=ops.length->ki X true ops i (ops.drop i)=some (B.map RO.strip)->mg S c true fr B st=some st'->R ν Z st F H->b<=H.length->Old b fr ν Z st.m->(∀j,i<=j->j<k->H[b+j]?=some .free)->
 ∃n F' H' ν',(∀q,n<=q->jq S.E (run S.E q) X.nt ops b (List.range' i len) F H=some (F',H'))/\R ν' Z st' F' H'/\Ev (λid=>b<=id) ν Z st H ν' Z st' H'/\st'.want=st.want/\Fix ν st ν' st'
 |0,i,B,fr,ν,Z,st,st',F,H,hl,hc,h,r,hb,J,hf=>by rw[List.drop_of_length_le Za]at hc;simp only[ki,ζa]at hc;have:B=[]:=List.map_eq_nil_iff.1 hc.symm;subst this;simp[mg]at h;subst h;exact⟨0,F,H,ν,λ_ _=>rfl,r,.refl,rfl,.refl⟩|len+1,i,B,fr,ν,Z,st,st',F,H,hl,hc,h,r,hb,J,hf=>by
  have l:i<ops.length:=Za;have m:=ζd l;rw[List.drop_eq_getElem_cons l]at hc;simp[ki]at hc;split at hc
  .rename_i ro rs h1 h2;obtain⟨u,w,rfl,Q,T⟩:∃u w,B=u::w/\ro=u.strip/\rs=w.map RO.strip:=by cases B with|nil=>simp_all|cons a b=>grind
   subst T;simp only[mg,<-Q]at h;split at h
   .rename_i ab U;obtain⟨W,z,U⟩:=ζg.1 U;simp only[A1,if_true]at z;split at z;rotate_left;simp_all;rename_i L;obtain⟨f,o,p,s,t⟩:=Fix.quiet r L z;have J:Old b fr ν Z W.m:=⟨λd ob v=>J.1 d ob (t d ob v),J.2⟩;obtain⟨x,F1,H1,ν1,Z1,a1,a2,a3,a4,a5,y⟩:=Ic gd g (place:=some (b,i)) rfl (λO j e=>Zd) (λO j e=>Zd) h1 (λO j e=>Zd) (λO j e ad=>by
     have:qt ops=true:=by
      unfold qt
      grind
     grind) f (.inr rfl) U
    obtain⟨rfl,C⟩:=a4 rfl;have I:=a3.weak λid⟨O,j,e,h⟩=>by cases e;omega
    obtain⟨A,E,H2,ν2,K,M,N,P,V⟩:=KV gd g G len Za h2 h (R.xu a2 u.dead) (le_trans hb a3.len) (J.next C) (λj ae Y=>by have D:=hf j Za Y;have aa:=(ζe.1 D).1;rw[I.same (b+j) aa (λh=>CO f h D) (λh=>I8 f h D) Za];omega);refine⟨max x A,E,H2,ν2,λq L=>?_,M,o.trans ((I.weak λid e=>Za).trans (Ev.xu N)),by rw[P,<-p];exact a5,s.trans (y.trans (Fix.xu V))⟩;simp[List.range'_succ,jq,m,a1 q (le_trans (le_max_left _ _) L),K q (le_trans (le_max_right _ _) L)]
   grind
  grind
end
def bQ(X:CX):Zl->Code->bt RC
 |_,.skip=>some .skip|_,.label _=>some .skip|_,.region _ ops B=>
  if B then(if uA ops.toList&&xJ ops.toList then(ki X true ops.toList 0 ops.toList).map .oG else none)
  else(ki X false ops.toList 0 ops.toList).map .ops
 |ro,.seq a b=>match bQ X ro a,bQ X ro b with
  |some a,some b=>some (.seq a b)|_,_=>none
 |ro,.cond c a b=>match oq X.nm c,bQ X ro a,bQ X ro b with
  |some x,some a,some b=>some (.cond x a b)|_,_,_=>none
 |ro,.block id c=>(bQ X ro c).map (.block id)|ro,.loop c=>(bQ X ro c).map .loop|ro,.rangeFunc g ps D G=>
  if ro|| !(ps.toList.all (·<X.nt))then none else
  match oq X.nm g,bQ X true D,bQ X true G with
  |some x,some a,some b=>some (.each x ps.toList a b)|_,_,_=>none
 |_,.exit id=>some (.exit id)|_,.ret=>some .ret|_,_=>none
def erase:RC->RC
 |.seq a b=>.seq (erase a) (erase b)|.cond x a b=>.cond x (erase a) (erase b)|.block id c=>.block id (erase c)|.loop c=>.loop (erase c)|.each g ps a b=>.each g ps (erase a) (erase b)|.gh _ c=>erase c|.hg c _=>erase c|.ops l=>.ops (l.map RO.strip)|.oG l=>.oG (l.map RO.strip)|c=>c
def iT(step:St->bt (Out×St)):Nat->St->bt (Out×St)
 |0,_=>none|k+1,st=>match step st with
  |some (.norm,st')=>iT step k st'|r=>r
open Classical in
def nq(step:St->bt (Out×St))(st:St):bt (Out×St):=if h:∃k r,iT step k st=some r then some (Classical.choose (choose_spec h))else none
def wF{step:St->bt (Out×St)}:∀{k B:Nat}{st:St}{r:Out×St},k<=B->iT step k st=some r->iT step B st=some r
 |0,_,_,_,_,h=>by simp[iT]at h|k+1,0,_,_,hk,_=>Za|k+1,B+1,st,r,hk,h=>by simp only[iT]at h⊢;split at h;(next st' D=>rw[wF (Nat.le_of_succ_le_succ hk) h]);exact h
def lR{step:St->bt (Out×St)}{st:St}{r:Out×St}:nq step st=some r↔∃k,iT step k st=some r:=by
 unfold nq;constructor;intro h;split at h;next u=>simp only[ζa]at h;exact⟨_,by rw[<-h];exact choose_spec (choose_spec u)⟩
 simp at h;rintro⟨k,a⟩;have u:∃k r,iT step k st=some r:=⟨k,r,a⟩;rw[dif_pos u];have z:=choose_spec (choose_spec u);have B:=wF (le_max_left (Classical.choose u) k) z;have w:=wF (le_max_right (Classical.choose u) k) a;rw[B]at w;exact w
def iA(ps:Zv)(A B:St->bt (Out×St))(st:St)(x:Zu)(m:Tb bN):bt (Out×Tb bN):=
 if x.length=ps.length then
  match A {g:=vl st.g ps (x.map .v),m:=m,pin:=st.pin++oM st.g,want:=[],more:=true,yid:=0}with
  |some (.norm,u)=>(B u).map λ(o,st2)=>(o,st2.m)|_=>none
 else none
def pE(step:Zu->Tb bN->bt (Out×Tb bN)):Zt->Tb bN->bt (Out×Tb bN)
 |[],m=>some (.norm,m)|x::xs,m=>match step x m with
  |some (.norm,m')=>pE step xs m'|r=>r
def cM(S:Sys)(c:cg):RC->St->bt (Out×St)
 |.skip,st=>some (.norm,st)|.ops l,st=>(mg S c false [] l st).map λst=>(.norm,st)|.oG l,st=>(mg S c true [] l st).map λst=>(.norm,st)|.seq a b,st=>match cM S c a st with
  |some (.norm,st')=>cM S c b st'|r=>r
 |.cond x a b,st=>match pT S.N st.g x with
  |some (.v (.bool t))=>if t then cM S c a st else cM S c b st|_=>none
 |.block id a,st=>match cM S c a st with
  |some (.exit B,st')=>if B=id then some (.norm,st')else some (.exit B,st')|r=>r
 |.loop a,st=>nq (cM S c a) st|.each g ps a b,st=>match pT S.N st.g g with
  |some (.v (.clo f x y))=>match S.items f x y with
   |some xs=>(pE (iA ps (cM S c a) (cM S c b) st) xs st.m).map λ(o,m)=>(o,{st with m:=m})|none=>none
  |_=>none
 |.exit id,st=>some (.exit id,st)|.ret,st=>some (.ret,st)|.gh x a,st=>(ghost x st).bind (cM S c a)|.hg a x,st=>match cM S c a st with
  |some (.norm,st')=>(ghost x st').map λst=>(.norm,st)|r=>r
def fm(S:Sys)(f:Zk)(a b:Zu)(xs:Zt):Prop:=∀u more,(more=true/\u=xs\/more=false/\u≠[]/\∃r,xs=u++r)->∀yid J,Yc S J more yid->∀Z w z H,dn H Z a w->dn H Z b z->(∀i,Z i->(bD H i).isSome=true)->Deep H Z->J u (λ_=>False) Z H->∃n y H' B Z',(∀k,n<=k->run S.E k (.fn f) (w++.yld yid::z) H=some (y,H'))/\J [] B Z' H'
section
variable{ν ν' ν2:Nu}{Z Z':Nat->Prop}{st st' st2:St}{m m':Tb bN}{F F':Zo}{H H' H1:bC}{S:Sys}{c:cg}{X:CX}{J:JT}
end
inductive vr(step:List V->Tb bN->Option (Out×Tb bN))(o:Out)(mf:Tb bN):List (List V)->Bool->Tb bN->Prop
 |nil(h:o=.norm):vr step o mf [] true mf|next(x:List V)(ws:List (List V))(more:Bool)(m m1:Tb bN)(h:step x m=some (.norm,m1))(r:vr step o mf ws more m1):vr step o mf (x::ws) more m|last(x:List V)(m:Tb bN)(h:step x m=some (o,mf))(ho:o≠.norm):vr step o mf [x] false m
def Co{step:Zu->Tb bN->bt (Out×Tb bN)}{o:Out}{D:Tb bN}:∀{xs:Zt}{m:Tb bN},pE step xs m=some (o,D)->
 ∃B more,(more=true/\B=xs\/more=false/\B≠[]/\∃r,xs=B++r)/\vr step o D B more m
 |[],m,h=>by obtain⟨rfl,rfl⟩:=h;exact⟨[],true,.inl ⟨rfl,rfl⟩,.nil rfl⟩|x::xs,m,h=>by simp[pE]at h;split at h;rename_i m' u;have⟨B,more,b,a⟩:=Co h;refine⟨x::B,more,?_,.next x B more m m' u a⟩;grind;refine⟨[x],false,.inr ⟨rfl,Zc,xs,rfl⟩,.last x m h λe=>?_⟩;simp_all
def tc(O0 Z0:Nat->Prop)(H0:bC):JT:=λw O Z H=>w=[]/\H0.length<=H.length/\(∀i,i<H0.length->¬O0 i->¬Z0 i->H[i]?=H0[i]?)/\(∀i,Z0 i->Z i/\bD H i=bD H0 i)/\(∀i,O i->O0 i\/H0.length<=i)/\(∀i,Z i->Z0 i\/O0 i\/H0.length<=i)
section
variable{ν ν' ν2:Nu}{Z Z':Nat->Prop}{st st' st2:St}{m m':Tb bN}{F F':Zo}{H H' H1:bC}{S:Sys}{c:cg}{X:CX}{J:JT}{O0 Z0:Nat->Prop}{H0:bC}
def tc.vO{w:Zt}{O Z B Z':Nat->Prop}{H H':bC}(j:tc O0 Z0 H0 w O Z H)(D:H.length<=H'.length)(G:∀i,i<H.length->¬O i->¬Z i->H'[i]?=H[i]?)(a:∀i,Z i->Z' i/\bD H' i=bD H i)
 (J:∀i,B i->O i\/H.length<=i)(U:∀i,Z' i->Z i\/O i\/H.length<=i):tc O0 Z0 H0 w B Z' H':=by
 have⟨u,z,I,C,L,Q⟩:=j;refine⟨u,le_trans z D,λi b S T=>?_,λi h=>⟨(a i (C i h).1).1,Zd⟩,λi h=>?_,λi h=>?_⟩
 .grind
 .grind
 grind
def tc.yc{more:Zl}{yid:Nat}:Yc S (tc O0 Z0 H0) more yid where
 vO:=λ_ _ _ _ _ _ _ j a u w z B=>j.vO a u w z B
 yield:=λx C O Z H args j=>by have⟨h,_⟩:=j;cases h
def tc.refl(r:R ν Z st F H):tc (e9 ν st.m) Z H [] (e9 ν st.m) Z H:=⟨rfl,le_refl _,λ_ _ _ _=>rfl,λi h=>⟨h,rfl⟩,λi h=>.inl h,λi h=>.inl h⟩
mutual
def A8{d:Nat}:∀{sv:SV},sv.c6 d=true->d∈sv.names
 |.v _,h=>by simp[SV.c6]at h|.own e,h=>by simp[SV.c6]at h;simp[SV.names,h]|.ptr e _,h=>by simp[SV.c6]at h;simp[SV.names,h]|.el e _ _,h=>by simp[SV.c6]at h;simp[SV.names,h]|.mp e,h=>by simp[SV.c6]at h;simp[SV.names,h]|.clo f a b,h=>by simp only[SV.c6,or_eq_true]at h;simp only[SV.names,mem_append];exact h.imp qb qb|.tup l,h=>by simp only[SV.c6]at h;simp only[SV.names];exact qb h|.agg l,h=>by simp only[SV.c6]at h;simp only[SV.names];exact qb h|.yl _,h=>by simp[SV.c6]at h
def qb{d:Nat}:∀{l:Zw},SV.dD d l=true->d∈SV.uS l
 |[],h=>by simp[SV.dD]at h|x::r,h=>by simp only[SV.dD,or_eq_true]at h;simp only[SV.uS,mem_append];exact h.imp A8 qb
end
def zV{d:Nat}:∀{g:Tb SV}{s:Nat}{sv:SV},bB g s=some sv->sv.c6 d=true->d∈oM g
 |[],s,sv,h,_=>by simp[bB]at h|(k,x)::r,s,sv,h,B=>by simp[bB]at h;simp[oM];split at h;simp at h;subst h;exact .inl (A8 B);exact .inr (zV h B)
def R.TE(r:R ν Z st F H){Z2:Nat->Prop}(f:∀i,Z2 i->¬e9 ν st.m i)(J:∀i,Z2 i->(bD H i).isSome=true)(O:Deep H Z2):R ν (λi=>Z i\/Z2 i) st F H:=by have z:∀i,Z i->(Z i\/Z2 i)/\bD H i=bD H i:=λi h=>⟨.inl h,rfl⟩;have B:∀i,Z2 i->(Z i\/Z2 i)/\bD H i=bD H i:=λi h=>⟨.inr h,rfl⟩;refine⟨λs I L=>(r.slot s I L).mono z λe _=>iE ν st.m e,λd ob w=>dV.mono z rfl (λ_=>rfl) (λe _=>iE ν st.m e) (r.obj d ob w),r.inj,λd ob w D b=>?_,λi a=>?_,⟨λid es G a hr c hc u hu=>?_⟩⟩;rcases b with b|b;exact r.apart d ob w D b;exact f _ b ⟨d,ob,w,D,rfl⟩;exact a.elim (r.zrow i) (J i);rcases a with a|a;have⟨x,C⟩:=r.deep.row id es G a hr c hc u hu;exact⟨x,C.mono z⟩;have⟨x,C⟩:=O.row id es G a hr c hc u hu;exact⟨x,C.mono B⟩
def R.SA:∀{ps:Zv}{xs:Zu}{vs:Zu}{g:Tb SV}{F:Zo},R ν Z {st with g:=g} F H->dn H Z xs vs->xs.length=ps.length->R ν Z {st with g:=vl g ps (xs.map .v)} (vT ps vs F) H
 |[],xs,vs,g,F,r,h,B=>by have:=length_eq_zero_iff.1 B;subst this;exact r|p::ps,[],vs,g,F,r,h,B=>Ze|p::ps,x::xs,vs,g,F,r,h,B=>by obtain⟨w,z,rfl,a,u⟩:=h.inv;exact R.SA (ps:=ps) (r.put (.v _ _ a)) u Zd
def rQ(X:CX)(S:Sys)(ro:Zl)(code:Code)(B:St->bt (Out×St)):Prop:=∀st o st',B st=some (o,st')->∀(J:JT)ν Z F H,Yc S J st.more st.yid->R ν Z st F H->J st.want (e9 ν st.m) Z H->∃n F' H' ν' Z',(∀k,n<=k->exec S.E (run S.E k) k ro X.nt code F H=some (o,F',H'))/\R ν' Z' st' F' H'/\J st'.want (e9 ν' st'.m) Z' H'/\Fix ν st ν' st'
def OV(st:St)(m:Tb bN):St:={g:=st.g,m:=m,pin:=st.pin++oM st.g,want:=[],more:=true,yid:=0}
def JI(X:CX)(st:St)(F:Zo)(ν:Nu)(O0 Z0:Nat->Prop)(H0:bC)(B:Nat)(ps:Zv)(J U:Code)(step:Zu->Tb bN->bt (Out×Tb bN))(o:Out)(G:Tb bN)(more:Zl):JT:=λw O Z H=>∃m z D u,R z D (OV st m) F H/\tc O0 Z0 H0 [] (e9 z m) D H/\(∀i,O i->¬e9 z m i/\¬D i/\i≠B/\H0.length<=i)/\(∀i,Z i->¬e9 z m i/\i≠B/\(Z0 i\/H0.length<=i))/\¬e9 z m B/\¬D B/\H0.length<=B/\H[B]?=some (.loop u)/\(u.frame=F/\u.nt=X.nt/\u.params=ps/\u.assign=J/\u.body=U)/\(∀d∈st.pin++oM st.g,∀C,bB m d=some C->∃ob,bB st.m d=some ob/\z d=ν d/\sameShape ob C)/\((vr step o G w more m/\u.st=.ready/\u.pend=none)\/(w=[]/\m=G/\u.st=.done/\u.pend=some o))
def JI.vO{w:Zt}{O Z J Z':Nat->Prop}{H H':bC}{B:Nat}{ps:Zv}{U W:Code}{step:Zu->Tb bN->bt (Out×Tb bN)}{o:Out}{Y:Tb bN}{more:Zl}
 (j:JI X st F ν O0 Z0 H0 B ps U W step o Y more w O Z H)(d:H.length<=H'.length)(D:∀i,i<H.length->¬O i->¬Z i->H'[i]?=H[i]?)(x:∀i,Z i->Z' i/\bD H' i=bD H i)
 (e:∀i,J i->O i\/H.length<=i)(f:∀i,Z' i->Z i\/O i\/H.length<=i):JI X st F ν O0 Z0 H0 B ps U W step o Y more w J Z' H':=by
 have⟨m,S,I,T,r,g,a,b,k,l,n,p,q,s,t⟩:=j;have z:=λi u=>D i (r.lt u) (λh=>(a i h).1 u) (λh=>(b i h).1 u)
 have C:∀i,I i->bD H' i=bD H i:=λi u=>by by_cases G:Z i;grind;unfold bD;rw[D i (r.uD u) (λh=>(a i h).2.1 u) G]
 have y:=(ζe.1 p).1;refine⟨m,S,I,T,r.heap z C,?_,λi h=>?_,λi h=>?_,k,l,n,?_,q,s,t⟩
 .have⟨j1,L,j3,j4,j5,j6⟩:=g;refine⟨j1,le_trans L d,λi c v Q=>?_,λi h=>⟨(j4 i h).1,Zd⟩,j5,j6⟩
  rw[D i (Nat.lt_of_lt_of_le c L) (λh=>by have:=(a i h).2.2.2;omega) (λh=>by rcases(b i h).2.2 with h|h;exact Q h;omega),j3 i c v Q]
 .rcases e i h with h|h
  .exact a i h
  exact⟨λu=>absurd (r.lt u) Za,λu=>absurd (r.uD u) Za,Za,Za⟩
 .rcases f i h with h|h|h
  .exact b i h
  .exact⟨(a i h).1,(a i h).2.2.1,.inr (a i h).2.2.2⟩
  exact⟨λu=>absurd (r.lt u) Za,Za,.inr Za⟩
 grind
def JI.yield(S:Sys){A B:St->bt (Out×St)}{P bw:Code}(hA:rQ X S true P A)(hB:rQ X S true bw B){D:Nat}{ps:Zv}(ay:ps.all (·<X.nt)=true){o:Out}{p:Tb bN}{more:Zl}
 {x:Zu}{f:Zt}{O Z:Nat->Prop}{H:bC}{args:Zu}(j:JI X st F ν O0 Z0 H0 D ps P bw (iA ps A B st) o p more (x::f) O Z H)
 (hx:dn H Z x args)(ao:∀i,Z i->(bD H i).isSome=true)(aA:Deep H Z)(aB:∀i,O i->¬Z i/\i<H.length):
 ∃n H',run S.E n (.yld D) args H=some (.bool (more|| !f.isEmpty),H')/\JI X st F ν O0 Z0 H0 D ps P bw (iA ps A B st) o p more f O Z H'/\H.length<=H'.length/\(∀i,O i->H'[i]?=H[i]?)/\(∀i,Z i->bD H' i=bD H i):=by
 have⟨m,q,g,c,r,ej,d1,t,l1,l2,l3,l4,⟨q1,q2,q3,q4,q5⟩,l6,l7⟩:=j;have aC:vr (iA ps A B st) o p (x::f) more m/\c.st=.ready/\c.pend=none:=by grind
 have⟨hE,U,aD⟩:=aC;have W:∃v m1,iA ps A B st x m=some (v,m1)/\(v=.norm/\vr (iA ps A B st) o p f more m1/\(more|| !f.isEmpty)=true\/v≠.norm/\v=o/\m1=p/\f=[]/\more=false):=by cases hE with|next _ _ _ _ m1 h hr=>refine⟨.norm,m1,h,.inl ⟨rfl,hr,?_⟩⟩;cases hr<;>simp|last _ _ h ho=>grind
 have⟨v,m1,z,ad⟩:=W;unfold iA at z;split at z
 .rename_i ae;split at z
  .rename_i ai aE;have⟨⟨C,st2⟩,aF,e⟩:=ζf.1 z;simp at e;obtain⟨rfl,rfl⟩:=e;have aG:=(ζe.1 l4).1;have r1:=r.TE (λi u=>(t i u).1) ao aA
   have aH:dn H (λi=>g i\/Z i) x args:=hx.mono λi u=>⟨.inr u,rfl⟩
   have r2:=R.SA (st:=OV st m) r1 aH ae;have⟨nA,F2,H2,ν2,Z2,a1,a2,a3,a4⟩:=hA _ _ _ aE (tc (e9 q m) (λi=>g i\/Z i) H) q _ _ H tc.yc r2 (tc.refl r1)
   have⟨b1,b2,b3,b4,y,b6⟩:=a3;have aj:¬(g D\/Z D):=λh=>h.elim l2 λh=>(t D h).2.1 rfl
   have ap:H2[D]?=some (.loop c):=by rw[b3 D aG l1 aj];omega
   have af:D<H2.length:=Za
   have Y:¬e9 ν2 ai.m D:=λh=>(y D h).elim l1 λh=>Za
   have ak:¬Z2 D:=λh=>by rcases b6 D h with h|h|h;exact aj h;exact l1 h;omega
   have w:∀(ob:Ob)(Hh:bC)(i:Nat),i≠D->(Hh.set D ob)[i]?=Hh[i]?:=λob Hh i E=>by rw[getElem?_set,if_neg (Ne.symm E)]
   have r3:R ν2 Z2 ai F2 (H2.set D (.loop {c with st:=.busy})):=a2.heap (λi u=>w _ _ i λe=>Y (e▸u)) (λi u=>by unfold bD;rw[w _ _ i λe=>ak (e▸u)])
   have⟨nB,F4,b,K,k,c1,c2,c3,c4⟩:=hB _ _ _ aF (tc (e9 ν2 ai.m) Z2 (H2.set D (.loop {c with st:=.busy}))) ν2 Z2 F2 _ tc.yc r3 (by
    rw[b1];exact tc.refl r3)
   have⟨_,g2,g3,g4,g5,g6⟩:=c3;simp at g2 g3 g5 g6;have aq:b[D]?=some (.loop {c with st:=.busy}):=by rw[g3 D af Y ak,getElem?_set_self af]
   have ar:D<b.length:=Za
   have au:=λh=>(g5 D h).elim Y λh=>Za
   have av:¬k D:=λh=>by rcases g6 D h with h|h|h;exact ak h;exact Y h;omega
   generalize M:({c with st:=(if C==.norm then Af.ready else Af.done),pend:=(if C==.norm then none else some C)}:uw)=I;have r5:R K k st2 F4 (b.set D (.loop I)):=c2.heap (λi u=>w _ _ i λe=>au (e▸u)) (λi u=>by unfold bD;rw[w _ _ i λe=>av (e▸u)])
   have Q:H.length<=(b.set D (.loop I)).length:=by simp;omega
   have al:∀i,i<H.length->i≠D->¬e9 q m i->¬(g i\/Z i)->(b.set D (.loop I))[i]?=H[i]?:=λi a L J l=>by rw[w _ _ i L,g3 i Za (λh=>(y i h).elim J λh=>Za) (λh=>by rcases b6 i h with h|h|h;exact l h;exact J h;omega),w _ _ i L,b3 i a J l]
   have G:∀i,(g i\/Z i)->k i/\bD (b.set D (.loop I)) i=bD H i:=λi u=>by have E:i≠D:=λe=>aj (e▸u);have⟨t1,t2⟩:=b4 i u;have⟨t3,t4⟩:=g4 i t1;refine⟨t3,?_⟩;rw[<-t2];have:bD (H2.set D (.loop {c with st:=.busy})) i=bD H2 i:=(by unfold bD;rw[w _ _ i E]);rw[<-this,<-t4];unfold bD;rw[w _ _ i E]
   have T:∀i,e9 K st2.m i->e9 q m i\/H.length<=i:=λi u=>by rcases g5 i u with h|h;exact y i h;exact .inr Za
   have ah:∀i,k i->(g i\/Z i)\/e9 q m i\/H.length<=i:=λi u=>by rcases g6 i u with h|h|h;exact b6 i h;rcases y i h with h|h;exact .inr (.inl h);exact .inr (.inr h);exact .inr (.inr Za)
   have fx:=a4.trans c4;have r6:R K k (OV st st2.m) F (b.set D (.loop I)):=⟨λs sv hs=>(r.slot s sv hs).mono (λi u=>G i (.inl u)) λd N am an=>fx.pin d (List.mem_append_right _ (zV hs N)) am an,r5.obj,r5.inj,r5.apart,r5.zrow,r5.deep⟩
   have ax:run S.E (max nA nB+1) (.yld D) args H=some (.bool (C==.norm),b.set D (.loop I)):=by simp only[run,jv,l4];rw[if_pos (by rw[q3];exact⟨by rw[<-hx.1];exact ae,by rw[q2];exact ay⟩)];rw[q1,q2,q3,q4,q5];rw[a1 _ (le_max_left _ _)];simp only[ap,U];rw[c1 _ (le_max_right _ _)];simp only[aq];rw[<-M]
   refine⟨max nA nB+1,b.set D (.loop I),?_,⟨st2.m,K,k,I,r6,?_,λi u=>?_,λi u=>?_,au,av,l3,?_,?_,λd N am an=>?_,?_⟩,Q,λi u=>?_,λi u=>(G i (.inr u)).2⟩
   .rw[ax];rcases ad with⟨a,_,J⟩|⟨a,_,_,l,h5⟩
    .rw[a,J];rfl
    rw[l,h5]
    cases aI:C with
    |norm=>exact absurd aI a|_=>rfl
   .have⟨j1,j2,j3,j4,j5,j6⟩:=ej;refine⟨rfl,le_trans j2 Q,λi a L J=>?_,λi h=>⟨(G i (.inl (j4 i h).1)).1,by rw[(G i (.inl (j4 i h).1)).2,(j4 i h).2]⟩,λi h=>?_,λi h=>?_⟩
    .rw[al i Za Za (λh=>by rcases j5 i h with h|h;exact L h;omega) (λh=>by
      rcases h with h|h
      .rcases j6 i h with h|h|h;exact J h;exact L h;omega
      rcases(t i h).2.2 with h|h;exact J h;omega),j3 i a L J]
    .rcases T i h with h|h
     .exact j5 i h
     exact .inr Za
    rcases ah i h with(h|h)|h|h
    .exact j6 i h
    .rcases (t i h).2.2 with h|h;exact .inl h;exact .inr (.inr h)
    .rcases j5 i h with h|h;exact .inr (.inl h);exact .inr (.inr h)
    exact .inr (.inr Za)
   .have⟨t1,t2⟩:=aB i u;have⟨t3,t4,t5,t6⟩:=d1 i u;refine⟨λh=>(T i h).elim t3 λh=>Za,λh=>?_,t5,t6⟩
    rcases ah i h with(h|h)|h|h
    .exact t4 h
    .exact t1 h
    .exact t3 h
    omega
   .have⟨t1,t2,t3⟩:=t i u;have aK:i<H.length:=by
     have:=ao i u;unfold bD at this
     cases hh:H[i]?with
     |none=>rw[hh]at this;simp at this|some _=>exact(ζe.1 hh).1
    exact⟨λh=>(T i h).elim t1 λh=>Za,t2,t3⟩
   .rw[getElem?_set_self ar]
   .subst M;exact⟨q1,q2,q3,q4,q5⟩
   .have⟨aJ,a,L,J⟩:=fx.pin d N am an;have⟨ob,k1,k2,k3⟩:=l6 d N aJ a;exact⟨ob,k1,by rw[L,k2],k3.trans J⟩
   .rcases ad with⟨a,L,J⟩|⟨a,L,J,l,h5⟩
    .left;subst a;subst M;exact⟨L,rfl,rfl⟩
    right;subst M;have hb:¬(C==Out.norm)=true:=by simpa using a
    refine⟨l,J,?_,?_⟩
    .show (if(C==Out.norm)=true then Af.ready else Af.done)=Af.done;rw[if_neg hb]
    show(if(C==Out.norm)=true then none else some C)=some o;rw[if_neg hb,L]
   grind
  grind
 grind
end
end Go.VE
