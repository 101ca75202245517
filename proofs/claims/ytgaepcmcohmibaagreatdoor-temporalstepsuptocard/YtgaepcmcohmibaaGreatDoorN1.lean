/- Objects. -/
import Derived.Test.YtgaepcmcohmibaaGreatDoorV2
set_option linter.all false
open List(all_eq_true drop_drop drop_zero getElem?_append_left getElem?_append_right getElem?_drop getElem?_set getElem?_set_ne getElem?_set_self getElem?_take length_eq_zero_iff mem_cons mem_iff_getElem? mem_of_getElem? replicate take_length)
open Bool(false_eq_true not_eq_true' or_eq_false_iff or_eq_true)
open Option(isSome_iff_exists map_some)
open Nat(le_max_left le_max_right le_refl le_trans)
open Prod(fst)
namespace Go.VE
variable[bL]
inductive Fl where|nil|emp|row|part
 deriving DecidableEq,Inhabited
inductive SV where
 |v(x:V)|own(d:Nat)|ptr(d off:Nat)|el(d i off:Nat)|mp(d:Nat)|clo(f:FuncId)(a b:List SV)|tup(l:List SV)|agg(l:List SV)|yl(id:Nat)
 deriving Inhabited
abbrev Zw:=aX SV
inductive bq where
 |sl(k:Fl)(es:Nat)(xs:List (List V))|box(cs:List SV)|mp(kvs:List (V×V))|dp(k:Fl)(xs:List (List V))(h:Option (Nat×Nat))
abbrev Tb(α:Type):=aX (Nat×α)
def bg{α:Type}:Tb α->Nat->aY α
 |[],_=>none|(k,v)::r,n=>if k=n then some v else bg r n
def bu{α:Type}:Tb α->Nat->α->Tb α
 |[],n,v=>[(n,v)]|(k,x)::r,n,v=>if k=n then(k,v)::r else(k,x)::bu r n v
def cR{α:Type}(n:Nat):Tb α->Tb α
 |[]=>[]|(k,x)::r=>if k=n then cR n r else(k,x)::cR n r
def oc{α:Type}:Zv->Tb α->Tb α
 |[],g=>g|d::ds,g=>oc ds (cR d g)
def u7{α:Type}:Tb α->Zv->aX α->Tb α
 |g,p::ps,v::vs=>u7 (bu g p v) ps vs|g,_,_=>g
def kM{α:Type}(g:Tb α):Zv->aY (Tb α)
 |[]=>some []|n::r=>match bg g n,kM g r with
  |some v,some t=>some ((n,v)::t)|_,_=>none
structure St where
 g:Tb SV
 m:Tb bq
 pin:List Nat
 want:List (List V)
 more:Bool
 yid:Nat
structure Dz where
 part:Bool
 go:Nat->List (List V)->List V->Option (List (List V))
structure Sys where
 E:Env
 N:Nat->FuncId
 items:FuncId->List V->List V->Option (List (List V))
 xE:FuncId->List V->Option V
 prm:FuncId->Option Dz
inductive Arg where
 |s(n:Nat)|k(c:V)|f(name:Nat)
abbrev Z4:=aX Arg
inductive Loc where
 |s(n:Nat)|c(b i:Nat)
inductive Gh where
 |melt(d:Nat)|take(d:Nat)(i:Loc)(es t:Nat)|put(d:Nat)|close(d:Nat)|closeB(d:Nat)|canon(l:Loc)(d:Nat)(es:Nat)|keep(gs ms:List Nat)|drop(ds:List Nat)|closeS(l:Loc)
abbrev Z5:=aX Gh
structure RO where
 dst:Option Nat
 gd:Option (Nat×Bool)
 now:Bool
 k:K
 az:List Arg
 dead:List Nat:=[]
 pre:List Gh:=[]
abbrev Zy:=aX RO
inductive RC where
 |skip|ops(l:List RO)|rH(l:List RO)|seq(a b:RC)|cond(x:Arg)(a b:RC)|block(id:Nat)(c:RC)|loop(c:RC)|each(g:Arg)(ps:List Nat)(a b:RC)|exit(id:Nat)|ret|gh(x:Gh)(c:RC)|hg(c:RC)(x:Gh)
inductive RV where
 |s(n:Nat)|ld(n size:Nat)(agg:Bool)
structure RF where
 na:Nat
 rs:List RV
 body:RC
mutual
def SV.cu(d:Nat):SV->Zl
 |.v _=>false|.own e=>e==d|.ptr e _=>e==d|.el e _ _=>e==d|.mp e=>e==d|.clo _ a b=>SV.c_ d a||SV.c_ d b|.tup l=>SV.c_ d l|.agg l=>SV.c_ d l|.yl _=>false
def SV.c_(d:Nat):Zw->Zl
 |[]=>false|x::r=>SV.cu d x||SV.c_ d r
end
def bq.cu(d:Nat):bq->Zl
 |.box cs=>SV.c_ d cs|.dp _ _ (some (_,t))=>t==d|_=>false
def sS(d:Nat):Tb SV->Zl
 |[]=>false|(_,x)::r=>SV.cu d x||sS d r
def rG(d:Nat):Tb bq->Zl
 |[]=>false|(_,x)::r=>bq.cu d x||rG d r
def St.new(st:St)(d:Nat):Zl:= !(st.pin.contains d)&&(bg st.m d).isNone&& !(sS d st.g)&& !(rG d st.m)
mutual
def SV.qU(d e:Nat):SV->SV
 |.v x=>.v x|.own k=>.own (if k=d then e else k)|.ptr k o=>.ptr (if k=d then e else k) o|.el k i o=>.el (if k=d then e else k) i o|.mp k=>.mp (if k=d then e else k)|.clo f a b=>.clo f (SV.tK d e a) (SV.tK d e b)|.tup l=>.tup (SV.tK d e l)|.agg l=>.agg (SV.tK d e l)|.yl id=>.yl id
def SV.tK(d e:Nat):Zw->Zw
 |[]=>[]|x::r=>SV.qU d e x::SV.tK d e r
end
def bq.qU(d e:Nat):bq->bq
 |.box cs=>.box (SV.tK d e cs)|.dp k xs (some (i,t))=>.dp k xs (some (i,if t=d then e else t))|o=>o
def yL(d e:Nat):Tb SV->Tb SV
 |[]=>[]|(n,x)::r=>(n,x.qU d e)::yL d e r
def tP(d e:Nat):Tb bq->Tb bq
 |[]=>[]|(n,x)::r=>((if n=d then e else n),x.qU d e)::tP d e r
mutual
def SV.sub(d:Nat)(w:V):SV->SV
 |.own k=>if k=d then .v w else .own k|.clo f a b=>.clo f (SV.sw d w a) (SV.sw d w b)|.tup l=>.tup (SV.sw d w l)|.agg l=>.agg (SV.sw d w l)|x=>x
def SV.sw(d:Nat)(w:V):Zw->Zw
 |[]=>[]|x::r=>SV.sub d w x::SV.sw d w r
end
def dh:Zw->aY Zu
 |[]=>some []|.v x::r=>(dh r).map (x::·)|_::_=>none
def NW(f:Zk)(a b:Zw):SV:=
 match dh a,dh b with
 |some x,some y=>.v (.clo f x y)|_,_=>.clo f a b
mutual
def SV.Ar(d:Nat)(cs:Zu):SV->SV
 |.ptr k o=>if k=d then(if o<=cs.length then .v (.fptr (cs.drop o))else .ptr k o)else .ptr k o|.clo f a b=>NW f (SV.p_ d cs a) (SV.p_ d cs b)|.tup l=>.tup (SV.p_ d cs l)|.agg l=>.agg (SV.p_ d cs l)|x=>x
def SV.p_(d:Nat)(cs:Zu):Zw->Zw
 |[]=>[]|x::r=>SV.Ar d cs x::SV.p_ d cs r
end
def xM(f:SV->SV):Tb SV->Tb SV
 |[]=>[]|(n,x)::r=>(n,f x)::xM f r
def mapM(f:Zw->Zw):Tb bq->Tb bq
 |[]=>[]|(n,.box cs)::r=>(n,.box (f cs))::mapM f r|(n,o)::r=>(n,o)::mapM f r
mutual
def SV.names:SV->Zv
 |.own d|.ptr d _|.el d _ _|.mp d=>[d]|.clo _ a b=>SV.uJ a++SV.uJ b|.tup l=>SV.uJ l|.agg l=>SV.uJ l|_=>[]
def SV.uJ:Zw->Zv
 |[]=>[]|x::r=>SV.names x++SV.uJ r
end
def oD:Tb SV->Zv
 |[]=>[]|(_,x)::r=>SV.names x++oD r
def jC(k:Fl)(es:Nat)(xs:Zt):V:=
 match k with
 |.nil=>.bD|.emp=>.c7|_=>.fsl es xs
mutual
def V.lvl:Nat->V->Zl
 |n,.fsl _ xs=>match n with|0=>false|n+1=>V.oe n xs
 |n,.fptr cs=>match n with|0=>false|n+1=>V.kn n cs
 |n,.fmap B=>match n with|0=>false|n+1=>V.rA n B
 |n,.agg cs=>match n with|0=>false|n+1=>V.kn n cs
 |n,.tup cs=>match n with|0=>false|n+1=>V.kn n cs
 |n,.clo _ a b=>match n with|0=>false|n+1=>V.kn n a&&V.kn n b
 |_,_=>true
def V.kn:Nat->Zu->Zl
 |_,[]=>true|n,x::r=>V.lvl n x&&V.kn n r
def V.oe:Nat->Zt->Zl
 |_,[]=>true|n,x::r=>V.kn n x&&V.oe n r
def V.rA:Nat->aX (V×V)->Zl
 |_,[]=>true|n,(k,x)::r=>V.lvl n k&&V.lvl n x&&V.rA n r
end
mutual
def shut(m:Tb bq):Nat->SV->aY V
 |_,.v x=>some x|_,.own d=>match bg m d with
  |some (.sl k es xs)=>some (jC k es xs)|some (.dp k xs none)=>some (jC k 1 xs)|_=>none
 |n+1,.ptr d o=>match bg m d with
  |some (.box cs)=>match cU m n cs with
   |some xs=>if o<=xs.length then some (.fptr (xs.drop o))else none|none=>none
  |_=>none
 |_,.mp d=>match bg m d with
  |some (.mp B)=>some (.fmap B)|_=>none
 |n+1,.clo f a b=>match cU m n a,cU m n b with
  |some x,some y=>some (.clo f x y)|_,_=>none
 |n+1,.tup l=>(cU m n l).map .tup|n+1,.agg l=>(cU m n l).map .agg|_,_=>none
def cU(m:Tb bq):Nat->Zw->aY Zu
 |_,[]=>some []|n,x::r=>match shut m n x,cU m n r with
  |some y,some s=>some (y::s)|_,_=>none
end
end Go.VE
namespace Go.VE
variable[bL]
mutual
def V.good:V->Zl
 |.hsl ..|.hptr ..|.yld ..|.hmap ..=>false|.fsl _ xs=>V.l9 xs|.fptr cs=>V.cB cs|.fmap B=>V.rN B|.clo _ a b=>V.cB a&&V.cB b|.agg cs=>V.cB cs|.tup cs=>V.cB cs|_=>true
def V.cB:Zu->Zl
 |[]=>true|x::r=>V.good x&&V.cB r
def V.l9:Zt->Zl
 |[]=>true|x::r=>V.cB x&&V.l9 r
def V.rN:aX (V×V)->Zl
 |[]=>true|(k,x)::r=>V.good k&&V.good x&&V.rN r
end
abbrev dF:=Tb bq
abbrev bU:=FuncId->aX SV->dF->aY (aX SV×dF)
def pM(N:Nat->Zk)(g:Tb SV):Arg->aY SV
 |.s n=>bg g n|.k c=>some (.v c)|.f s=>some (.v (.clo (N s) [] []))
def bV(N:Nat->Zk)(g:Tb SV):Z4->aY Zw
 |[]=>some []|x::r=>match pM N g x,bV N g r with
  |some v,some vs=>some (v::vs)|_,_=>none
def bN:Fl->Zl
 |.row|.part=>true|_=>false
def lP(m:Tb bq):SV->Zl
 |.own d|.ptr d _|.el d _ _|.mp d=>(bg m d).isSome|.clo ..=>true|_=>false
def wN(m:Tb bq):SV->Zl
 |.v x=>x.one|x=>lP m x
def FO(m:Tb bq):SV->aY Zw
 |.v x=>some (x.cells.map .v)|.agg l=>some l|x=>if lP m x then some [x]else none
def wW(m:Tb bq)(cells:Zw):aX (Nat×Nat)->Zw->aY Zw
 |[],[]=>some cells|(off,size)::pl,v::vs=>match FO m v with
  |some c=>if c.length=size/\off+c.length<=cells.length then wW m (cells.take off++c++cells.drop (off+c.length)) pl vs else none|none=>none
 |_,_=>none
def tZ(size:Nat)(agg:Zl)(cs:Zw):aY SV:=
 if cs.length=size then
  if agg then match dh cs with
   |some u=>some (.v (.agg u))|none=>some (.agg cs)
  else match cs with
   |[x]=>some x|_=>none
 else none
def yX(N:Nat->Zk)(m:Tb bq):tV->Zw->aY SV
 |.id,[x]=>some x|.nilc,[.ptr d o]=>if(bg m d).isSome then some (.ptr d o)else none|.nilc,[.el d i o]=>if(bg m d).isSome then some (.el d i o)else none|.pick,[.v (.bool t),a,b]=>some (if t then a else b)|.bin (some .slice) _ .eql,[.own d,.v .bD]=>match bg m d with
  |some (.sl k _ _)=>if k=.emp then none else some (.v (.bool (k==.nil)))|_=>none
 |.bin (some .slice) _ .neq,[.own d,.v .bD]=>match bg m d with
  |some (.sl k _ _)=>if k=.emp then none else some (.v (.bool (!(k==.nil))))|_=>none
 |.fieldAddr off,[.ptr d o]=>if(bg m d).isSome then some (.ptr d (o+off))else none|.fieldAddr off,[.el d i o]=>if(bg m d).isSome then some (.el d i (o+off))else none|.idxS size,[.own d,.v (.int _ i)]=>match bg m d with
  |some (.sl k es xs)=>if bN k/\es=size/\0<=i/\i.toNat<xs.length then some (.el d i.toNat 0)else none|some (.dp k xs _)=>if bN k/\1=size/\0<=i/\i.toNat<xs.length then some (.el d i.toNat 0)else none|_=>none
 |.idxA len size,[.ptr d o,.v (.int _ i)]=>if 0<=i/\i<len/\(bg m d).isSome then some (.ptr d (o+i.toNat*size))else none|.idxA len size,[.el d j o,.v (.int _ i)]=>if 0<=i/\i<len/\(bg m d).isSome then some (.el d j (o+i.toNat*size))else none|.lenSl,[.own d]=>match bg m d with
  |some (.sl _ _ xs)=>some (.v (.int .i64 xs.length))|some (.dp _ xs _)=>some (.v (.int .i64 xs.length))|_=>none
 |.clo name k,vs=>some (.clo (N name) (vs.take k) (vs.drop k))|.ext i,[.tup l]=>l[i]?|.build zero pl,vs=>(wW m (zero.map .v) pl vs).map .agg|.field off size agg,[.agg l]=>tZ size agg ((l.drop off).take size)|_,_=>none
def jF(N:Nat->Zk)(m:Tb bq)(p:tV)(svs:Zw):aY SV:=
 match dh svs with
 |some u=>(bH N p u).map .v|none=>yX N m p svs
def JA(m:Tb bq)(d:Nat):SV->Zl
 |.ptr B _=>B != d&&(match bg m B with|some (.box _)=>true|_=>false)|.v (.fptr _)=>true|_=>false
def og(m:Tb bq):HV->Zw->aY SV
 |.load size agg,[.ptr d o]=>match bg m d with
  |some (.box cs)=>tZ size agg ((cs.drop o).take size)|_=>none
 |.load size agg,[.el d i o]=>match bg m d with
  |some (.sl _ _ xs)=>match xs[i]?with
   |some cs=>((cut cs o size).bind (mk agg)).map .v|none=>none
  |some (.dp _ _ (some (j,t)))=>if j=i/\o=0/\size=1/\agg=false then some (.own t)else none|_=>none
 |.load size agg,[.v p]=>((dZ [] p size).bind (mk agg)).map .v|.lookup kk z ok,[.mp d,.v k]=>match bg m d with
  |some (.mp B)=>if ou kk k then match ig k B 0 with
   |some (some (_,v))=>some (.v (if ok then .tup [v,.bool true]else v))|some none=>some (.v (if ok then .tup [z,.bool false]else z))|none=>none
   else none
  |_=>none
 |.lookup kk z ok,[.v p,.v k]=>(eG [] (.lookup kk z ok) [p,k]).map .v|.loadF size agg,.ptr d o::l=>if l.all (JA m d)=true then match bg m d with
  |some (.box cs)=>tZ size agg ((cs.drop o).take size)|_=>none
  else none
 |_,_=>none
def eD(fr:Zv):Zw->Zl
 |[]=>true|.v _::r=>eD fr r|.ptr d _::r=> !(fr.contains d)&&eD fr r|.el d _ _::r=> !(fr.contains d)&&eD fr r|.mp d::r=> !(fr.contains d)&&eD fr r|_=>false
def mU(m:Tb bq)(a:L5)(svs:Zw)(d:Nat):aY (bq×SV):=
 match a,svs with
 |.alloc _ zero,[]=>some (.box (zero.map .v),.ptr d 0)|.box,[.v x]=>if x.cells.all V.one then some (.box (x.cells.map .v),.ptr d 0)else none|.box,[.agg l]=>if l.all (wN m)then some (.box l,.ptr d 0)else none|.box,[x]=>if lP m x then some (.box [x],.ptr d 0)else none|.makeSl size zero,[.v (.int k n),.v (.int z c)]=>if k=.i64/\z=.i64/\0<=n/\n<=c/\c<=2147483648 then some (.sl (if n=c then .row else .part) size (replicate n.toNat zero),.own d)else none|.buildSl size len zero idx,u=>match dh u with
  |some w=>if idx.length=w.length then(eR size (replicate len zero) (idx.zip w)).map λB=>(.sl .row size B,.own d)else none|none=>match u,zero with
   |[.own t],[.bD]=>if idx=[0]/\len=1/\size=1/\(bg m t).isSome then some (.dp .row [[.bD]] (some (0,t)),.own d)else none|_,_=>none
 |.makeMap,[]=>some (.mp [],.mp d)|_,_=>none
def gV(m:Tb bq)(size:Nat):SV->aY Zt
 |.own d=>match bg m d with
  |some (.sl k es xs)=>if bN k then(if es=size then some xs else none)else some []|_=>none
 |.v .bD=>some []|.v .c7=>some []|.v (.fsl es xs)=>if es=size then some xs else none|_=>none
def FU:SV->Zl
 |.own _|.v .bD|.v .c7=>true|_=>false
def putCells(m:Tb bq)(size o:Nat)(sv:SV)(cs:Zw):aY Zw:=
 match sv with
 |.v x=>if x.cells.length=size/\o+size<=cs.length/\x.cells.all V.one=true then some (cs.take o++x.cells.map .v++cs.drop (o+size))else none|.agg l=>if l.length=size/\o+size<=cs.length/\l.all (wN m)=true then some (cs.take o++l++cs.drop (o+size))else none|x=>if lP m x=true/\size=1/\o+1<=cs.length then some (cs.take o++[x]++cs.drop (o+1))else none
def giveUp(m:Tb bq):SV->Tb bq
 |.own d=>cR d m|_=>m
def yg(st:St)(dst:aY Nat)(size:Nat)(s x:SV):aY (SV×St):=
 match s,x,dst with
 |.own d,.own e,some t=>match bg st.m d,bg st.m e with
  |some (.dp k w none),some (.dp .row u none)=>
   if size=1/\d≠e/\u≠[]/\w.length+u.length<=2147483648 then
    let z:=cR e (cR d st.m)
    if St.new {st with m:=z} t then some (.own t,{st with m:=bu z t (.dp .row (w++u) none)})else none
   else none
  |_,_=>none
 |_,_,_=>none
def jG(st:St)(dst:aY Nat):IA->Zw->aY (SV×St)
 |.store size,[.ptr d o,x]=>match bg st.m d with
  |some (.box cs)=>(putCells st.m size o x cs).map λcs=>(.v .undef,{st with m:=bu st.m d (.box cs)})|_=>none
 |.store size,[.el d i o,.v x]=>match bg st.m d with
  |some (.sl k es xs)=>match xs[i]?with
   |some cs=>if x.cells.length=size/\o+size<=cs.length/\x.cells.all V.one=true then
    some (.v .undef,{st with m:=bu st.m d (.sl k es (xs.set i (cs.take o++x.cells++cs.drop (o+x.cells.length))))})else none
   |none=>none
  |_=>none
 |.store size,[.el d i o,.own t]=>match bg st.m d with
  |some (.dp k xs (some (j,_)))=>if j=i/\o=0/\size=1/\(bg st.m t).isSome/\t≠d then some (.v .undef,{st with m:=bu st.m d (.dp k xs (some (i,t)))})else none|_=>none
 |.mapUp kk,[.mp d,.v k,.v x]=>match bg st.m d with
  |some (.mp B)=>if ou kk k then(ox k x B).map λB=>(.v .undef,{st with m:=bu st.m d (.mp B)})else none|_=>none
 |.append size,[s,x]=>match gV st.m size s,gV st.m size x with
  |some _,some []=>match dst with
   |some t=>match s with
    |.own d=>match bg st.m d with
     |some ob=>if St.new {st with m:=cR d st.m} t then some (.own t,{st with m:=bu (cR d st.m) t ob})else none|none=>none
    |.v .bD=>if st.new t then some (.own t,{st with m:=bu st.m t (.sl .nil size [])})else none|.v .c7=>if st.new t then some (.own t,{st with m:=bu st.m t (.sl .emp size [])})else none|_=>none
   |none=>none
  |some xs,some ys=>
   if xs.length+ys.length<=2147483648/\FU s=true then
    let m1:=giveUp st.m s
    match dst with
    |some t=>if St.new {st with m:=m1} t then some (.own t,{st with m:=bu m1 t (.sl .row size (xs++ys))})else none|none=>none
   else none
  |_,_=>yg st dst size s x
 |.storeF size,.ptr d o::x::l=>if l.all (JA st.m d)=true then match bg st.m d with
  |some (.box cs)=>(putCells st.m size o x cs).map λcs=>(.v .undef,{st with m:=bu st.m d (.box cs)})|_=>none
  else none
 |_,_=>none
def ye(st:St)(dst:aY Nat)(size:Nat)(B D:Zl)(d:Nat)(G:Zw):aY (SV×St):=
 match bg st.m d,dh G,dst with
 |some (.sl k es u),some z,some t=>
  if bN k=true/\es=size then
   (lH B D z).bind λ(l,h)=>(dx u.length l h).bind λ(l,h)=>
    let w:=cR d st.m
    if St.new {st with m:=w} t then some (.own t,{st with m:=bu w t (.sl .part es ((u.take h).drop l))})else none
  else none
 |_,_,_=>none
def y_:Zw->SV
 |[x]=>x|l=>.tup l
mutual
def SV.B8:SV->Zv
 |.v _=>[]|.own e=>[e]|.ptr e _=>[e]|.el e _ _=>[e]|.mp e=>[e]|.clo _ a b=>SV.wv a++SV.wv b|.tup l=>SV.wv l|.agg l=>SV.wv l|.yl _=>[]
def SV.wv:Zw->Zv
 |[]=>[]|x::r=>SV.B8 x++SV.wv r
end
def bq.B8:bq->Zv
 |.box cs=>SV.wv cs|.dp _ _ (some (_,t))=>[t]|_=>[]
def reach(m:Tb bq):Nat->Zv->Zv->Zv
 |0,_,seen=>seen|_+1,[],seen=>seen|n+1,d::r,seen=>if seen.contains d then reach m n r seen else reach m n ((match bg m d with|some ob=>bq.B8 ob|none=>[])++r) (seen++[d])
def handed(m:Tb bq)(l:Zw):aY dF:=kM m (reach m 32 (SV.wv l) [])
mutual
def SV.bare:SV->Zl
 |.v x=>x.scalar|.clo _ a b=>SV.vk a&&SV.vk b|.tup l=>SV.vk l|.agg l=>SV.vk l|_=>true
def SV.vk:Zw->Zl
 |[]=>true|x::r=>SV.bare x&&SV.vk r
end
def bq.bare:bq->Zl
 |.box cs=>SV.vk cs|_=>false
def vV(m:Tb bq)(k:Nat):Zl:=match bg m k with
 |some ob=>ob.bare|none=>true
def within(B:Zv)(ob:bq):Zl:=ob.B8.all B.contains
def wP(B:Zv)(m':dF):Zv->Tb bq->aY (Tb bq)
 |[],m=>some m|d::r,m=>match bg m' d with
  |some ob=>if within B ob then wP B m' r (bu m d ob)else none|none=>none
def mj(m':dF)(l:Zv)(m:Tb bq):aY (Tb bq):=wP l m' l m
def ny(xs:Zt):Zl:=xs.all λx=>x.all V.scalar
def AM(q:Dz)(dst:aY Nat)(args:Zw)(st:St):aY (SV×St):=
 match args with
 |.own d::z=>match bg st.m d,dh z with
  |some (.sl k es u),some B=>match q.go es u B with
   |some w=>if q.part then match dst with
    |some t=>if St.new {st with m:=cR d st.m} t then some (.own t,{st with m:=bu (cR d st.m) t (if bN k then .sl .part es w else .sl k es u)})else none|none=>none
    else some (.v .undef,{st with m:=bu st.m d (if bN k then .sl k es w else .sl k es u)})
   |none=>none
  |_,_=>none
 |_=>none
def rowsOf(m:Tb bq):Zw->aY Zv
 |[]=>some []|.v _::r=>rowsOf m r|.own d::r=>match bg m d with
  |some (.sl ..)=>(rowsOf m r).map (d::·)|_=>none
 |_=>none
def gy(S:Sys)(c:bU)(dst:aY Nat)(dr now:Zl)(old:Zw->Zl)(f:Zk)(args:Zw)(st:St):aY (SV×St):=
 if S.E.keep f then
  if now then
   if S.E.own f then
    match cU st.m 8 args with
    |some az=>
     match c f (az.map .v) []with
     |some (rs,m')=>match dh rs with
      |some u=>if(result u).scalar then some (.v (result u),st)else none|none=>match rs,dst with
       |.own e::rest,some t=>match bg m' e,dh rest with
        |some (.sl .row es z),some u=>
         if V.cM u&&ny z&&st.new t then
          some (y_ (.own t::u.map .v),{st with m:=bu st.m t (.sl .row es z)})
         else none
        |some (.sl .nil es _),some u=>if V.cM u&&st.new t then some (y_ (.own t::u.map .v),{st with m:=bu st.m t (.sl .nil es [])})else none|some (.sl .emp es _),some u=>if V.cM u&&st.new t then some (y_ (.own t::u.map .v),{st with m:=bu st.m t (.sl .emp es [])})else none|_,_=>none
       |_,_=>none
     |none=>none
    |none=>none
   else match S.prm f with
    |some q=>if dr then none else AM q dst args st|none=>match handed st.m args with
    |some os=>match c f args os with
     |some (rs,m')=>match dh rs,mj m' (os.map (·.1)) st.m with
      |some u,some w=>if dr&& !(V.cM u&&os.all λx=>vV w x.1)then none else some (.v (result u),{st with m:=w})|none,some w=>if dr then none else match rs,dst with
       |.own e::rest,some t=>match bg m' e,dh rest with
        |some (.sl k es z),some u=>if !(os.map (·.1)).contains e&&St.new {st with m:=w} t then some (y_ (.own t::u.map .v),{st with m:=bu w t (.sl k es z)})else none|_,_=>none
       |_,_=>none
      |_,_=>none
     |none=>none
    |none=>none
  else if S.E.own f&&old args then match cU st.m 8 args with
   |some az=>match c f (az.map .v) []with
    |some (rs,m')=>match cU m' 8 rs with
     |some u=>if(result u).scalar||(dh args).isSome then some (.v (result u),st)else none|none=>none
    |none=>none
   |none=>none
  else none
 else match cU st.m 8 args with
  |some az=>if now||old args then
   match c f (az.map .v) []with
   |some (rs,m')=>match cU m' 8 rs with
    |some u=>if(result u).scalar||(dh args).isSome then some (.v (result u),st)
     else if now then(rowsOf st.m args).map λds=>(.v (result u),{st with m:=oc ds st.m})
     else none
    |none=>none
   |none=>none
   else none
  |none=>none
def gA(m:Tb bq)(fr:Zv)(args:Zw):Zl:=fr.all λd=> !(SV.c_ d args)&& !(rG d m)
def zp:K->Zl
 |.p (.build zero _)=>V.cB zero|.r (.lookup _ z _)=>z.good|.a (.alloc _ zero)=>V.cB zero&&zero.all V.one|.a (.makeSl _ zero)=>V.cB zero|.a (.buildSl _ _ zero _)=>V.cB zero|_=>true
def kS(S:Sys)(c:bU)(dr:Zl)(fr:Zv)(o:RO)(st:St):aY (SV×St):=
 match bV S.N st.g o.az with
 |some u=>match o.k with
  |.p (.slice size z B)=>match u with
   |.own d::C=>if dr then none else ye st o.dst size z B d C|u=>(jF S.N st.m (.slice size z B) u).map λx=>(x,st)
  |.p p=>(jF S.N st.m p u).map λx=>(x,st)|.r r=>if !dr||o.now||eD fr u then(og st.m r u).map λx=>(x,st)else none|.a a=>match o.dst with
   |some d=>if st.new d then(mU st.m a u d).map λ(ob,x)=>(x,{st with m:=bu st.m d ob})else none|none=>none
  |.l l=>if !dr||o.now then jG st o.dst l u else none|.c=>match u with
   |.clo f a b::w=>gy S c o.dst dr (!dr||o.now) (gA st.m fr) f (a++w++b) st|.v (.clo f a b)::w=>gy S c o.dst dr (!dr||o.now) (gA st.m fr) f (a.map .v++w++b.map .v) st|_=>none
  |.b=>if dr then none else match u with
   |[x]=>(gV st.m 1 x).bind λD=>(kA D).map λl=>(.v (.str (pN l)),st)|_=>none
  |.e n=>match u with
   |[.v .bD,x]=>jG st o.dst (.append n) [.v .bD,x]|[.v .c7,x]=>jG st o.dst (.append n) [.v .c7,x]|_=>none
 |none=>none
def cZ(st:St)(dst:aY Nat)(x:SV):St:=
 match dst with
 |none=>st|some d=>{st with g:=bu st.g d x}
def wanted(g:Tb SV):aY (Nat×Zl)->aY Zl
 |none=>some true|some (s,b)=>match bg g s with
  |some (.v (.bool c))=>some (c==b)|some (.v _)=>some false|_=>none
def w5(o:RO):aY Nat:=
 match o.k with
 |.p _|.r _=>none|_=>o.dst
def pW(fr:Zv)(o:RO):Zv:=
 match w5 o with
 |some d=>d::fr|none=>fr
def bk(H:bh)(id:Nat):aY (Nat×Zt):=(H[id]?).bind Ob.rows
mutual
theorem V.kP:∀{x:V},x.good=true->x.closed=true
 |.hsl ..,h|.hptr ..,h|.yld _,h|.hmap _,h=>by simp[V.good]at h|.fsl ..,_|.fptr ..,_|.fmap ..,_=>rfl|.bool _,_|.int ..,_|.str _,_|.c7,_|.bD,_|.gL,_|.f_,_|.qK,_=>rfl|.clo _ a b,h=>by simp only[V.good,ζh]at h;simp only[V.closed,ζh];exact⟨V.mF h.1,V.mF h.2⟩|.agg cs,h=>by simp only[V.good]at h;simp only[V.closed];exact V.mF h|.tup cs,h=>by simp only[V.good]at h;simp only[V.closed];exact V.mF h
theorem V.mF:∀{l:aX V},V.cB l=true->V.gN l=true
 | [],_=>rfl
 | x::r,h=>by
  simp only[V.cB,ζh]at h;simp only[V.gN,ζh];exact⟨V.kP h.1,V.mF h.2⟩
end
theorem gF:∀{l:Zu},V.cB l=true↔∀(j:Nat)u,l[j]?=some u->u.good=true
 |[]=>by simp[V.cB]|x::l=>by simp[V.cB,gF];constructor;grind;intro h;exact⟨h 0 x rfl,λj u a=>h (j+1) u Zd⟩
theorem jP:∀{l:Zt},V.l9 l=true↔∀(j:Nat)u,l[j]?=some u->V.cB u=true
 |[]=>by simp[V.l9]|x::l=>by simp[V.l9,jP];constructor;grind;intro h;exact⟨h 0 x rfl,λj u a=>h (j+1) u Zd⟩
def DN:∀{l:aX (V×V)},V.rN l=true↔∀(j:Nat)u,l[j]?=some u->u.1.good=true/\u.2.good=true
 |[]=>by simp[V.rN]|(k,x)::l=>by simp only[V.rN,ζh,DN];constructor;grind;intro h;exact⟨h 0 (k,x) rfl,λj u a=>h (j+1) u Zd⟩
theorem wD{l:Zu}(n:Nat)(h:V.cB l=true):V.cB (l.drop n)=true:=gF.2 λj u a=>gF.1 h (n+j) u Zd
inductive FR(H:bh)(Z:Nat->Prop):V->V->Prop
 |same(x:V)(h:x.good=true):FR H Z x x|fsl(es:Nat)(xs:List (List V))(id off:Nat)(ys:List (List V))(hz:Z id)(hr:bk H id=some (es,ys))(hl:off+xs.length<=ys.length)
  (hc:∀(i:Nat)a b,xs[i]?=some a->ys[off+i]?=some b->a.length=b.length)
  (hv:∀(i j:Nat)a b u v,xs[i]?=some a->ys[off+i]?=some b->a[j]?=some u->b[j]?=some v->FR H Z u v):FR H Z (.fsl es xs) (.hsl id es off xs.length)
 |fptr(xs:List V)(id el off es:Nat)(ys:List (List V))(cs:List V)(hz:Z id)(hr:bk H id=some (es,ys))(he:ys[el]?=some cs)(ho:off<=cs.length)(hx:xs.length=cs.length-off)
  (hv:∀(j:Nat)u v,xs[j]?=some u->cs[off+j]?=some v->FR H Z u v):FR H Z (.fptr xs) (.hptr id el off)
 |clo(f:FuncId)(a b a' b':List V)(ha:a.length=a'.length)(hb:b.length=b'.length)(hva:∀(j:Nat)u v,a[j]?=some u->a'[j]?=some v->FR H Z u v)(hvb:∀(j:Nat)u v,b[j]?=some u->b'[j]?=some v->FR H Z u v):FR H Z (.clo f a b) (.clo f a' b')|agg(a a':List V)(ha:a.length=a'.length)(hva:∀(j:Nat)u v,a[j]?=some u->a'[j]?=some v->FR H Z u v):FR H Z (.agg a) (.agg a')|tup(a a':List V)(ha:a.length=a'.length)(hva:∀(j:Nat)u v,a[j]?=some u->a'[j]?=some v->FR H Z u v):FR H Z (.tup a) (.tup a')
def cV(H:bh)(Z:Nat->Prop)(xs ys:Zu):Prop:=xs.length=ys.length/\∀(j:Nat)u v,xs[j]?=some u->ys[j]?=some v->FR H Z u v
def eX(H:bh)(Z:Nat->Prop)(xs ys:Zt):Prop:=xs.length=ys.length/\∀(j:Nat)u v,xs[j]?=some u->ys[j]?=some v->cV H Z u v
section
variable{H H':bh}{Z Z':Nat->Prop}
def FR.mono(h:∀id,Z id->Z' id/\bk H' id=bk H id){x y:V}(r:FR H Z x y):FR H' Z' x y:=by induction r with|same x h=>exact .same x h|fsl es B id off C D hr J hc hv G=>exact .fsl es B id off C (h id D).1 Zd J hc G|fptr B id el off es C L D hr O Q S hv G=>exact .fptr B id el off es C L (h id D).1 Zd O Q S G|clo f a b w T z U hva W u I=>exact .clo f a b w T z U u I|agg a w z hva u=>exact .agg a w z u|tup a w z hva u=>exact .tup a w z u
def cV.mono(h:∀id,Z id->Z' id/\bk H' id=bk H id){x y:Zu}(r:cV H Z x y):cV H' Z' x y:=⟨r.1,λj u v a b=>(r.2 j u v a b).mono h⟩
def eX.mono(h:∀id,Z id->Z' id/\bk H' id=bk H id){x y:Zt}(r:eX H Z x y):eX H' Z' x y:=⟨r.1,λj u v a b=>(r.2 j u v a b).mono h⟩
def cV.nil:cV H Z [] []:=⟨rfl,Zc⟩
def cV.cons{x y:V}{xs ys:Zu}(h:FR H Z x y)(r:cV H Z xs ys):cV H Z (x::xs) (y::ys):=by refine⟨by simp[r.1],λj u v a b=>?_⟩;cases j with|zero=>grind|succ j=>exact r.2 j u v Zd Zd
def cV.inv{x:V}{xs B:Zu}(r:cV H Z (x::xs) B):∃y ys,B=y::ys/\FR H Z x y/\cV H Z xs ys:=by cases B with|nil=>have:=r.1;grind|cons y ys=>refine⟨y,ys,rfl,r.2 0 x y rfl rfl,by have:=r.1;grind,λj u v a b=>r.2 (j+1) u v Zd Zd⟩
def cV.cF{B:Zu}(r:cV H Z [] B):B=[]:=by have:=r.1;grind
theorem cV.get{xs ys:Zu}(r:cV H Z xs ys){j:Nat}{u:V}(h:xs[j]?=some u):∃v,ys[j]?=some v/\FR H Z u v:=by
 have w:=(ζe.1 h).1;have:j<ys.length:=by rw[<-r.1];omega
 exact⟨ys[j],ζd this,r.2 j u _ h (ζd this)⟩
theorem eX.get{xs ys:Zt}(r:eX H Z xs ys){j:Nat}{u:Zu}(h:xs[j]?=some u):∃v,ys[j]?=some v/\cV H Z u v:=by
 have w:=(ζe.1 h).1;have:j<ys.length:=by rw[<-r.1];omega
 exact⟨ys[j],ζd this,r.2 j u _ h (ζd this)⟩
def cV.append{a b c d:Zu}(h:cV H Z a b)(k:cV H Z c d):cV H Z (a++c) (b++d):=by refine⟨by simp[h.1,k.1],λj u v e f=>?_⟩;by_cases w:j<a.length;rw[getElem?_append_left w]at e;rw[getElem?_append_left (by rw[<-h.1];omega)]at f;exact h.2 j u v e f;rw[getElem?_append_right Za]at e;rw[getElem?_append_right (by rw[<-h.1];omega),<-h.1]at f;exact k.2 _ u v e f
def eX.append{a b c d:Zt}(h:eX H Z a b)(k:eX H Z c d):eX H Z (a++c) (b++d):=by refine⟨by simp[h.1,k.1],λj u v e f=>?_⟩;by_cases w:j<a.length;rw[getElem?_append_left w]at e;rw[getElem?_append_left (by rw[<-h.1];omega)]at f;exact h.2 j u v e f;rw[getElem?_append_right Za]at e;rw[getElem?_append_right (by rw[<-h.1];omega),<-h.1]at f;exact k.2 _ u v e f
def cV.take{a b:Zu}(h:cV H Z a b)(n:Nat):cV H Z (a.take n) (b.take n):=by
 refine⟨by simp[h.1],λj u v c d=>?_⟩;rw[getElem?_take]at c d;split at c;next w=>rw[if_pos w]at d;exact h.2 j u v c d
 grind
def cV.drop{a b:Zu}(h:cV H Z a b)(n:Nat):cV H Z (a.drop n) (b.drop n):=by refine⟨by simp[h.1],λj u v c d=>?_⟩;rw[getElem?_drop]at c d;exact h.2 _ u v c d
def eX.take{a b:Zt}(h:eX H Z a b)(n:Nat):eX H Z (a.take n) (b.take n):=by
 refine⟨by simp[h.1],λj u v c d=>?_⟩;rw[getElem?_take]at c d;split at c;next w=>rw[if_pos w]at d;exact h.2 j u v c d
 grind
def eX.drop{a b:Zt}(h:eX H Z a b)(n:Nat):eX H Z (a.drop n) (b.drop n):=by refine⟨by simp[h.1],λj u v c d=>?_⟩;rw[getElem?_drop]at c d;exact h.2 _ u v c d
theorem cV.set{a b:Zu}(h:cV H Z a b)(n:Nat){x y:V}(B:FR H Z x y):cV H Z (a.set n x) (b.set n y):=by refine⟨by simp[h.1],λj u v c d=>?_⟩;rw[getElem?_set]at c d;split at c;grind;rename_i e;rw[if_neg e]at d;exact h.2 j u v c d
theorem eX.set{a b:Zt}(h:eX H Z a b)(n:Nat){x y:Zu}(B:cV H Z x y):eX H Z (a.set n x) (b.set n y):=by refine⟨by simp[h.1],λj u v c d=>?_⟩;rw[getElem?_set]at c d;split at c;grind;rename_i e;rw[if_neg e]at d;exact h.2 j u v c d
theorem cV.same{l:Zu}(h:V.cB l=true):cV H Z l l:=⟨rfl,λj u v a b=>by rw[a]at b;cases b;exact .same u (gF.1 h j u a)⟩
def FR.good{x y:V}(r:FR H Z x y):x.good=true:=by induction r with|same x h=>omega|fsl es C id off D G hr O hc hv I=>refine jP.2 λi a z=>gF.2 λj u c=>?_;grind|fptr C id el off es D Q G hr S T U hv I=>refine gF.2 λj u c=>?_;grind|clo f a b B W z X hva J w L=>simp[V.good];refine⟨gF.2 λj u c=>?_,gF.2 λj u c=>?_⟩;grind;grind|agg a B z hva w=>refine gF.2 λj u c=>?_;grind|tup a B z hva w=>simp[V.good];refine gF.2 λj u c=>?_;grind
theorem FR.closed {x y:V} (r:FR H Z x y):x.closed=true:=V.kP r.good
def cV.good{xs ys:Zu}(r:cV H Z xs ys):V.cB xs=true:=gF.2 λj u a=>by have⟨v,_,h⟩:=r.get a;exact h.good
def eX.good{xs ys:Zt}(r:eX H Z xs ys):V.l9 xs=true:=jP.2 λj u a=>by have⟨v,_,h⟩:=r.get a;exact h.good
def FR.bool{b:Zl}{y:V}(r:FR H Z (.bool b) y):y=.bool b:=by cases r;rfl
def FR.int{k:Zs}{n:Int}{y:V}(r:FR H Z (.int k n) y):y=.int k n:=by cases r;rfl
def FR.str{s:Zq}{y:V}(r:FR H Z (.str s) y):y=.str s:=by cases r;rfl
def FR.c7{y:V}(r:FR H Z .c7 y):y=.c7:=by cases r;rfl
def FR.bD{y:V}(r:FR H Z .bD y):y=.bD:=by cases r;rfl
def FR.gL{y:V}(r:FR H Z .gL y):y=.gL:=by cases r;rfl
def FR.f_{y:V}(r:FR H Z .f_ y):y=.f_:=by cases r;rfl
def FR.qK{y:V}(r:FR H Z .qK y):y=.qK:=by cases r;rfl
def FR.fmap{B:aX (V×V)}{y:V}(r:FR H Z (.fmap B) y):y=.fmap B:=by cases r;rfl
def FR.h_{a:Zu}{y:V}(r:FR H Z (.agg a) y):∃a',y=.agg a'/\cV H Z a a':=by cases r with|same _ h=>exact⟨a,rfl,.same (by simpa[V.good]using h)⟩|agg _ a' u hva=>exact⟨a',rfl,u,hva⟩
def FR.oT{a:Zu}{y:V}(r:FR H Z (.tup a) y):∃a',y=.tup a'/\cV H Z a a':=by cases r with|same _ h=>exact⟨a,rfl,.same (by simpa[V.good]using h)⟩|tup _ a' u hva=>exact⟨a',rfl,u,hva⟩
def FR.jy{f:Zk}{a b:Zu}{y:V}(r:FR H Z (.clo f a b) y):∃a' B,y=.clo f a' B/\cV H Z a a'/\cV H Z b B:=by cases r with|same _ h=>simp[V.good]at h;exact⟨a,b,rfl,.same h.1,.same h.2⟩|clo _ _ _ a' B w z hva u=>exact⟨a',B,rfl,⟨w,hva⟩,⟨z,u⟩⟩
def FR.kW{es:Nat}{xs:Zt}{y:V}(r:FR H Z (.fsl es xs) y):y=.fsl es xs\/
 ∃id off ys,y=.hsl id es off xs.length/\Z id/\bk H id=some (es,ys)/\off+xs.length<=ys.length/\eX H Z xs ((ys.drop off).take xs.length):=by
 cases r with
 |same _ h=>grind|fsl _ _ id off ys z hr B hc hv=>
  refine .inr ⟨id,off,ys,rfl,z,hr,B,by simp;omega,λj u v a w=>?_⟩
  have C:=(ζe.1 a).1;rw[getElem?_take,if_pos C,getElem?_drop]at w;exact⟨hc j u v a w,λi s t D G=>hv j i u v s t a w D G⟩
def FR.Bo{es:Nat}{xs:Zt}{id off:Nat}{ys:Zt}(B:Z id)(c:bk H id=some (es,ys))(D:off+xs.length<=ys.length)(h:eX H Z xs ((ys.drop off).take xs.length)):
 FR H Z (.fsl es xs) (.hsl id es off xs.length):=by
 have key:∀(i:Nat)a b,xs[i]?=some a->ys[off+i]?=some b->cV H Z a b:=λi a b w z=>by refine h.2 i a b w ?_;grind
 exact .fsl es xs id off ys B c D (λi a b w z=>(key i a b w z).1) (λi j a b u v w z d e=>(key i a b w z).2 j u v d e)
def FR.lB{xs:Zu}{y:V}(r:FR H Z (.fptr xs) y):y=.fptr xs\/
 ∃id el off es ys cs,y=.hptr id el off/\Z id/\bk H id=some (es,ys)/\ys[el]?=some cs/\off<=cs.length/\cV H Z xs (cs.drop off):=by
 cases r with
 |same _ h=>grind|fptr _ id el off es ys cs w hr z B D hv=>
  refine .inr ⟨id,el,off,es,ys,cs,rfl,w,hr,z,B,Ze,λj u v a C=>?_⟩
  grind
def FR.Ca{xs:Zu}{id el off es:Nat}{ys:Zt}{cs:Zu}(B:Z id)(a:bk H id=some (es,ys))(D:ys[el]?=some cs)(G:off<=cs.length)(h:cV H Z xs (cs.drop off)):FR H Z (.fptr xs) (.hptr id el off):=.fptr xs id el off es ys cs B a D G (by have:=h.1;grind) (λj u v b c=>h.2 j u v b Zd)
def FR.cells{x y:V}(r:FR H Z x y):cV H Z x.cells y.cells:=by
 have one:∀{a b:V},FR H Z a b->cV H Z [a] [b]:=λh=>.cons h .nil
 cases r with
 |same _ h=>cases x<;>first|exact one (.same _ h)|(exact cV.same h)
 |fsl es z id off B C hr G hc hv=>exact one (.fsl es z id off B C hr G hc hv)|fptr z id el off es B I C hr J L O hv=>exact one (.fptr z id el off es B I C hr J L O hv)|clo f a b w Q u S hva D=>exact one (.clo f a b w Q u S hva D)|agg a w u hva=>exact⟨u,hva⟩|tup a w u hva=>exact one (.tup a w u hva)
def FR.one{x y:V}(r:FR H Z x y):y.one=x.one:=by cases r<;>rfl
def cV.one:∀{xs ys:Zu},cV H Z xs ys->ys.all V.one=xs.all V.one
 |[],ys,r=>by rw[r.cF]|x::xs,D,r=>by obtain⟨y,ys,rfl,h,B⟩:=r.inv;simp[h.one,B.one]
def pS:∀{l:Zu},V.cM l=true↔∀(j:Nat)u,l[j]?=some u->u.scalar=true
 |[]=>by simp[V.cM]|x::l=>by simp[V.cM,pS];constructor;grind;intro h;exact⟨h 0 x rfl,λj u a=>h (j+1) u Zd⟩
def FR.scalar{x y:V}(r:FR H Z x y):(x.scalar=true->y=x)/\y.scalar=x.scalar:=by
 have key:∀(a w:Zu),a.length=w.length->(∀(j:Nat)u v,a[j]?=some u->w[j]?=some v->(u.scalar=true->v=u)/\v.scalar=u.scalar)->(V.cM a=true->w=a)/\V.cM w=V.cM a:=by intro a w B G;have b:V.cM a=true->w=a:=(by intro I;refine(List.ext_getElem B λj b C=>?_).symm;exact(((G j _ _ (ζd b) (ζd C)).1 (pS.1 I j _ (ζd b)))).symm);refine⟨b,?_⟩;cases I:V.cM a with|true=>grind|false=>cases D:V.cM w with|false=>rfl|true=>have:V.cM a=true:=pS.2 λj u c=>(by have J:j<w.length:=Zd;have:=(G j u _ c (ζd J)).2;rw[<-this];exact pS.1 D j _ (ζd J));grind
 induction r with|same x h=>grind|fsl=>exact⟨λh=>by simp[V.scalar]at h,rfl⟩|fptr=>exact⟨λh=>by simp[V.scalar]at h,rfl⟩|clo=>exact⟨λh=>by simp[V.scalar]at h,rfl⟩|agg a w B hva z=>have⟨b,C⟩:=key a w B z;exact⟨λh=>by rw[b (by simpa[V.scalar]using h)],by simpa[V.scalar]using C⟩|tup a w B hva z=>have⟨b,C⟩:=key a w B z;exact⟨λh=>by rw[b (by simpa[V.scalar]using h)],by simpa[V.scalar]using C⟩
def cV.scalar{a a':Zu}(r:cV H Z a a'):(V.cM a=true->a'=a)/\V.cM a'=V.cM a:=by have⟨b,u⟩:=FR.scalar (.tup a a' r.1 r.2);simp[V.scalar]at b u;grind
def qh:∀{l:Zu}{a:Zx},gP l=some a->V.cM l=true
 |[],_,_=>rfl|x::l,a,h=>by unfold gP at h;split at h;grind;(next n r e=>cases e;have⟨b,B,_⟩:=ζf.1 h;simp[V.cM,V.scalar];exact qh B);grind
end
mutual
theorem je:∀{x:V},x.scalar=true->x.good=true
 |.bool _,_|.int ..,_|.str _,_|.gL,_|.f_,_|.qK,_|.c7,_|.bD,_=>rfl|.agg cs,h=>by simp only[V.scalar]at h;simp only[V.good];exact oA h|.tup cs,h=>by simp only[V.scalar]at h;simp only[V.good];exact oA h|.fsl ..,h|.hsl ..,h|.fptr ..,h|.hptr ..,h|.clo ..,h|.yld _,h|.fmap _,h|.hmap _,h=>by simp[V.scalar]at h
theorem oA:∀{l:aX V},V.cM l=true->V.cB l=true
 | [],_=>rfl
 | x::r,h=>by
  simp only[V.cM,ζh]at h;simp only[V.cB,ζh];exact⟨je h.1,oA h.2⟩
end
section
variable{H H':bh}{Z Z':Nat->Prop}
def jM{f:V->aY V}:∀{xs ys:Zu},xs.length=ys.length->(∀(j:Nat)u v,xs[j]?=some u->ys[j]?=some v->f v=some u)->gR f ys=some xs
 |[],[],_,_=>rfl|[],y::ys,h,_=>Ze|x::xs,[],h,_=>Ze|x::xs,y::ys,h,B=>by simp[gR,B 0 x y rfl rfl,jM (xs:=xs) (ys:=ys) Zd λj u v a b=>B (j+1) u v Zd Zd]
def FT{f:V->aY V}:∀{xs ys:Zt},xs.length=ys.length->(∀(j:Nat)u v,xs[j]?=some u->ys[j]?=some v->gR f v=some u)->kI f ys=some xs
 |[],[],_,_=>rfl|[],y::ys,h,_=>Ze|x::xs,[],h,_=>Ze|x::xs,y::ys,h,B=>by simp[kI,B 0 x y rfl rfl,FT (xs:=xs) (ys:=ys) Zd λj u v a b=>B (j+1) u v Zd Zd]
def nT:∀{l:Zu},V.gN l=true↔∀(j:Nat)u,l[j]?=some u->u.closed=true
 |[]=>by simp[V.gN]|x::l=>by simp[V.gN,nT];constructor;grind;intro h;exact⟨h 0 x rfl,λj u a=>h (j+1) u Zd⟩
def lg:∀{l:Zu}{n:Nat},V.kn n l=true↔∀(j:Nat)u,l[j]?=some u->u.lvl n=true
 |[],n=>by simp[V.kn]|x::l,n=>by simp[V.kn,lg];constructor;grind;intro h;exact⟨h 0 x rfl,λj u a=>h (j+1) u Zd⟩
def D4:∀{l:Zt}{n:Nat},V.oe n l=true↔∀(j:Nat)u,l[j]?=some u->V.kn n u=true
 |[],n=>by simp[V.oe]|x::l,n=>by simp[V.oe,D4];constructor;grind;intro h;exact⟨h 0 x rfl,λj u a=>h (j+1) u Zd⟩
theorem dW(n:Nat)(H:bh){x:V}(h:x.closed=true):borrow n H x=some x:=iP n H h
theorem FR.borrow {x y:V} (r:FR H Z x y):∀n,x.lvl n=true->borrow n H y=some x:=by
 induction r with
 | same x h=>grind[dW,V.kP]
 | fsl es J id off U W hr X hc hv L=>
  intro n z
  cases n with
  | zero=>grind[V.lvl]
  | succ n=>
   unfold Go.VE.borrow;unfold bk at hr;simp only[V.closed,Bool.false_eq_true,if_false,hr,true_and,if_pos X,ζf];refine⟨J,FT (by simp;omega) λj u v hu B=>?_,rfl⟩
   have Y  := (ζe.1 hu).1;rw[List.getElem?_take,if_pos Y,List.getElem?_drop]at B;refine jM (hc j u v hu B) λi s t Q ht=>L j i u v s t hu B Q ht n (lg.1 (D4.1 z j u hu) i s Q)
 | fptr J id el off es U cs W hr he ho hx hv L=>
  intro n z
  cases n with
  | zero=>grind[V.lvl]
  | succ n=>
   unfold Go.VE.borrow;unfold bk at hr;simp only[V.closed,Bool.false_eq_true,if_false,hr,he,if_pos ho,ζf];refine⟨J,jM Ze λj u v hu B=>?_,rfl⟩
   rw[List.getElem?_drop]at B;exact L j u v hu B n (lg.1 z j u hu)
 | clo f a b D S G T hva aa C I=>
  intro n z
  cases n with
  | zero=>grind[V.lvl]
  | succ n=>
   simp[V.lvl]at z
   by_cases w:(V.clo f D S).closed=true
   .rw[dW _ _ w];simp[V.closed]at w;have e1:D=a:=by
     have:=jM  G λj u v hu hv=>C j u v hu hv n (lg.1 z.1 j u hu)
     have O:=jM    rfl λj u v hu hv=>by rw[hu]at hv;cases hv;exact dW n H (nT.1 w.1 j u hu)
     grind
    have e2:S=b:=by
     have:=jM  T λj u v hu hv=>I j u v hu hv n (lg.1 z.2 j u hu)
     have O:=jM    rfl λj u v hu hv=>by rw[hu]at hv;cases hv;exact dW n H (nT.1 w.2 j u hu)
     grind
    simp_all
   unfold Go.VE.borrow;rw[if_neg w];simp[jM  G λj u v hu hv=>C j u v hu hv n (lg.1 z.1 j u hu),jM  T λj u v hu hv=>I j u v hu hv n (lg.1 z.2 j u hu)]
 | agg a D G hva C=>
  intro n z
  cases n with
  | zero=>grind[V.lvl]
  | succ n=>
   have hm:=jM  G λj u v hu hv=>C j u v hu hv n (lg.1 z j u hu)
   by_cases w:(V.agg D).closed=true
   .rw[dW _ _ w];have O:=jM    rfl λj u v hu hv=>by rw[hu]at hv;cases hv;exact dW n H (nT.1 w j u hu)
    grind
   grind[Go.VE.borrow]
 | tup a D G hva C=>
  intro n z
  cases n with
  | zero=>grind[V.lvl]
  | succ n=>
   have hm:=jM  G λj u v hu hv=>C j u v hu hv n (lg.1 z j u hu)
   by_cases w:(V.tup D).closed=true
   .rw[dW _ _ w];have O:=jM    rfl λj u v hu hv=>by rw[hu]at hv;cases hv;exact dW n H (nT.1 w j u hu)
    grind
   grind[Go.VE.borrow]
def oF{f:V->Zv}{k:Nat}:∀{l:Zu},k∈cH f l->∃(j:Nat)(u:V),l[j]?=some u/\k∈f u
 |[],h=>by grind[cH]|x::l,h=>by simp[cH]at h;rcases h with h|h;exact⟨0,x,rfl,h⟩;have⟨j,u,b,a⟩:=oF h;exact⟨j+1,u,Zd,a⟩
structure Deep(H:bh)(Z:Nat->Prop):Prop where
 row:∀id es ys,Z id->bk H id=some (es,ys)->∀c∈ys,∀u∈c,∃x,FR H Z x u
theorem FR.bY(D:Deep H Z):∀(n:Nat){x y:V},FR H Z x y->∀k∈bY n H y,Z k
 |0,x,y,r,k,d=>by grind[Go.VE.bY]|n+1,x,y,r,k,d=>by
  unfold Go.VE.bY at d;split at d;simp_all;rename_i O;have pt:∀(a a':Zu),cV H Z a a'->k∈cH (Go.VE.bY n H) a'->Z k:=λa a' h d=>by obtain⟨j,u,e,z⟩:=oF d;have Q:j<a.length:=(by rw[h.1];grind);exact FR.bY D n (h.2 j _ u (ζd Q) e) k z
  have row:∀(id:Nat)es w(l:Zu),Z id->bk H id=some (es,w)->(∀u∈l,∃c∈w,u∈c)->k∈cH (Go.VE.bY n H) l->Z k:=λid es w l B hr J d=>by obtain⟨j,u,e,z⟩:=oF d;obtain⟨c,g,G⟩:=J u (mem_of_getElem? e);obtain⟨x,L⟩:=D.row id es w B hr c g u G;exact FR.bY D n L k z
  cases r with
  |same _ h=>grind[V.kP]|fsl es S id off w B hr J g hv=>simp only[mem_cons]at d;rcases d with rfl|d;exact B;rw[show(H[id]?).bind Ob.rows=some (es,w)from hr]at d;grind[List.mem_flatten]
  |fptr S id el off es w W B hr X Y L hv=>simp only[mem_cons]at d;rcases d with rfl|d;exact B;rw[show(H[id]?).bind Ob.rows=some (es,w)from hr]at d;grind
  |clo f a b a' T C U hva I=>simp at d;rcases d with d|d;exact pt a a' ⟨C,hva⟩ d;exact pt b T ⟨U,I⟩ d
  |agg a a' C hva=>exact pt a a' ⟨C,hva⟩ d|tup a a' C hva=>exact pt a a' ⟨C,hva⟩ d
theorem cV.cut{cs ys r:Zu}{off n:Nat}(h:cV H Z cs ys)(a:cut cs off n=some r):∃B,Go.VE.cut ys off n=some B/\cV H Z r B:=by unfold Go.VE.cut at a⊢;have u:=(h.drop off).take n;dsimp only at a⊢;split at a;simp at a;subst a;exact⟨_,by rw[if_pos (by rw[<-u.1];omega)],u⟩;grind
theorem cV.mk{agg:Zl}{cs ys:Zu}{x:V}(h:cV H Z cs ys)(B:mk agg cs=some x):∃y,Go.VE.mk agg ys=some y/\FR H Z x y:=by unfold Go.VE.mk at B⊢;split at B;simp at B;subst B;exact⟨_,Zd,.agg _ _ h.1 h.2⟩;split at B;simp at B;obtain⟨y,ys,rfl,a,u⟩:=h.inv;rw[u.cF];grind;grind
theorem cV.fill:∀{pl:aX (Nat×Nat)}{vs B cells cells' r:Zu},cV H Z cells cells'->cV H Z vs B->jO cells pl vs=some r->∃D,jO cells' pl B=some D/\cV H Z r D
 |[],vs,B,cells,cells',r,hc,hv,h=>by cases vs with|nil=>rw[hv.cF];grind[jO]|cons v vs=>grind[jO]
 |(off,size)::pl,vs,B,cells,cells',r,hc,hv,h=>by cases vs with|nil=>grind[jO]|cons v vs=>obtain⟨w,B,rfl,a,G⟩:=hv.inv;have k:=a.cells;simp only[jO]at h⊢;rw[<-k.1,<-hc.1];split at h;simp_all;rename_i e;rw[if_neg e];exact cV.fill (((hc.take off).append k).append (hc.drop _)) G h
def FR.tf{k:KT}{x y G J:V}{b:Zl}(B:FR H Z x G)(D:FR H Z y J)(h:nQ k x y=some b):nQ k G J=some b:=by unfold nQ at h;split at h;rw[B.bD,D.bD];exact h;rw[D.bD];rcases B.kW with rfl|⟨_,_,_,rfl,_⟩<;>exact h;exact absurd B.closed (by simp[V.closed]);rw[B.gL,D.gL];exact h;rw[D.gL];rcases B.lB with rfl|⟨_,_,_,_,_,_,rfl,_⟩<;>exact h;exact absurd B.closed (by simp[V.closed]);rw[B.f_,D.f_];exact h;rw[D.f_,B.fmap];exact h;exact absurd B.closed (by simp[V.closed]);grind
theorem FR.jR{a b a' B:Zu}{r:Zl}(D:cV H Z a a')(G:cV H Z b B)(h:jR a b=some r):Go.VE.jR a' B=some r:=by unfold Go.VE.jR at h;split at h;rename_i u v c d;rw[D.scalar.1 (qh c),G.scalar.1 (qh d)];grind[Go.VE.jR];grind
def yz{k:KT}{x y:V}{b:Zl}(h:nQ k x y=some b):(y=.bD/\(x=.bD\/(∃es xs,x=.fsl es xs)\/∃id es off len,x=.hsl id es off len))\/
 (y=.gL/\(x=.gL\/(∃cs,x=.fptr cs)\/∃id el off,x=.hptr id el off))\/(y=.f_/\(x=.f_\/(∃B,x=.fmap B)\/∃id,x=.hmap id)):=by
 unfold nQ at h
 grind
def EJ{k:aY KT}{e:aY Nat}{op:BinOp}{x y:V}(D:(y=.bD/\(x=.bD\/(∃es xs,x=.fsl es xs)\/∃id es off len,x=.hsl id es off len))\/
 (y=.gL/\(x=.gL\/(∃cs,x=.fptr cs)\/∃id el off,x=.hptr id el off))\/(y=.f_/\(x=.f_\/(∃B,x=.fmap B)\/∃id,x=.hmap id))):
 mc k e op x y=(match k,op with
 |some k,.eql=>(nQ k x y).map .bool|some k,.neq=>(nQ k x y).map λt=>.bool !t|_,_=>none):=by
 rcases D with⟨rfl,rfl|⟨_,_,rfl⟩|⟨_,_,_,_,rfl⟩⟩|⟨rfl,rfl|⟨_,rfl⟩|⟨_,_,_,rfl⟩⟩|⟨rfl,rfl|⟨_,rfl⟩|⟨_,rfl⟩⟩<;>cases k<;>cases op<;>rfl
def HD{k:aY KT}{e:aY Nat}{op:BinOp}{x y z:V}(h:mc k e op x y=some z):z.good=true:=by
 have w:∀{o:aY Zl}{z:V},o.map V.bool=some z->z.good=true:=λh=>by obtain⟨_,_,rfl⟩:=ζf.1 h;rfl
 have u:∀{o:aY Zl}{z:V},(o.map λt=>V.bool !t)=some z->z.good=true:=λh=>by obtain⟨_,_,rfl⟩:=ζf.1 h;rfl
 unfold mc at h;(repeat' split at h)<;>first|(simp at h;subst h;rfl)|exact w h|exact u h|simp at h
def FR.bin{k:aY KT}{e:aY Nat}{op:BinOp}{x y G J z:V}(B:FR H Z x G)(D:FR H Z y J)(h:mc k e op x y=some z):mc k e op G J=some z:=by
 have L:=h;unfold mc at h;split at h;rw[B.int,D.int];omega;rw[B.str,D.str];omega;rw[B.bool,D.bool];omega;obtain⟨O,rfl,w⟩:=B.h_;obtain⟨Q,rfl,I⟩:=D.h_;split at h;split at h;next C=>obtain⟨r,a,rfl⟩:=ζf.1 h;simp[mc,<-w.1,C,FR.jR w I a]
 grind;split at h;next C=>obtain⟨r,a,rfl⟩:=ζf.1 h;simp[mc,<-w.1,C,FR.jR w I a]
 grind;grind;split at h;obtain⟨r,a,rfl⟩:=ζf.1 h;have u:=FR.tf B D a;rw[EJ (yz u)];grind;obtain⟨r,a,rfl⟩:=ζf.1 h;have u:=FR.tf B D a;rw[EJ (yz u)];grind;grind
def FR.slice{size:Nat}{x O z:V}{l h:Z6}(G:FR H Z x O)(D:gQ size x l h=some z):∃T,gQ size O l h=some T/\FR H Z z T:=by
 have I:∀{n w B:Nat},dx n l h=some (w,B)->B<=n/\w<=B:=by grind[dx]
 unfold gQ at D;split at D;rename_i es L;split at D;rename_i U;obtain⟨⟨w,B⟩,J,rfl⟩:=ζf.1 D;have⟨W,X⟩:=I J;rcases G.kW with rfl|⟨id,off,Y,rfl,Q,hr,hl,S⟩;refine⟨_,by grind[gQ],.same _ ?_⟩;have b:=G.good;refine jP.2 λj u a=>?_;rw[getElem?_drop,getElem?_take]at a;split at a;exact jP.1 b _ u a;grind;refine⟨.hsl id es (off+w) (B-w),by grind[gQ],?_⟩;have C:((L.take B).drop w).length=B-w:=Ze;rw[<-C];refine FR.Bo Q hr Zd ?_;have:=(S.take B).drop w;grind[List.drop_take,drop_drop];grind;exact absurd G.closed (by simp[V.closed]);rw[G.c7];obtain⟨_,J,rfl⟩:=ζf.1 D;exact⟨.c7,by grind[gQ],.same _ rfl⟩;rw[G.bD];obtain⟨_,J,rfl⟩:=ζf.1 D;exact⟨.bD,by grind[gQ],.same _ rfl⟩;grind
def cV.lH{G J:Zl}{O D:Zu}{r:Z6×Z6}(h:cV H Z O D)(B:lH G J O=some r):Go.VE.lH G J D=some r:=by unfold Go.VE.lH at B;split at B;rw[h.cF];exact B;obtain⟨_,_,rfl,a,u⟩:=h.inv;rw[a.int,u.cF];exact B;obtain⟨_,_,rfl,a,u⟩:=h.inv;rw[a.int,u.cF];exact B;obtain⟨_,_,rfl,a,u⟩:=h.inv;obtain⟨_,_,rfl,w,z⟩:=u.inv;rw[a.int,w.int,z.cF];exact B;grind
def cV.bH{N:Nat->Zk}{p:tV}{xs ys:Zu}{z:V}(Y:∀zero pl,p=.build zero pl->V.cB zero=true)(h:cV H Z xs ys)(B:bH N p xs=some z):∃O,Go.VE.bH N p ys=some O/\FR H Z z O:=by
 unfold Go.VE.bH at B;split at B;obtain⟨y,_,rfl,f,w⟩:=h.inv;rw[w.cF];simp only[ζa]at B;subst B;exact⟨y,rfl,f⟩;rename_i t a b;obtain⟨w1,_,rfl,f,w⟩:=h.inv;obtain⟨R,_,rfl,D,C⟩:=w.inv;obtain⟨w3,_,rfl,U,Q⟩:=C.inv;rw[f.bool,Q.cF];simp only[ζa]at B;subst B;refine⟨if t=true then R else w3,rfl,?_⟩;grind;obtain⟨y,_,rfl,f,w⟩:=h.inv;rw[w.cF];unfold JK at B;split at B;exact absurd f.closed (by simp[V.closed]);simp only[ζa]at B;subst B;rcases f.lB with rfl|⟨_,_,_,_,_,_,rfl,_⟩;exact⟨_,rfl,f⟩;exact⟨_,rfl,f⟩;simp only[ζa]at B;subst B;obtain⟨_,_,rfl,_⟩:=f.jy;exact⟨_,rfl,f⟩;simp at B;obtain⟨_,_,rfl,f,w⟩:=h.inv;obtain⟨_,_,rfl,D,C⟩:=w.inv;rw[C.cF];exact⟨z,FR.bin f D B,.same _ (HD B)⟩;obtain⟨_,_,rfl,f,w⟩:=h.inv;rw[f.bool,w.cF];simp only[ζa]at B;subst B;exact⟨_,rfl,.same _ rfl⟩;obtain⟨_,_,rfl,f,w⟩:=h.inv;rw[f.int,w.cF];simp only[ζa]at B;subst B;exact⟨_,rfl,.same _ rfl⟩;obtain⟨_,_,rfl,f,w⟩:=h.inv;rw[f.int,w.cF];simp only[ζa]at B;subst B;exact⟨_,rfl,.same _ rfl⟩;rename_i off p;obtain⟨y,_,rfl,f,w⟩:=h.inv;rw[w.cF];unfold o7 at B;split at B;split at B;rename_i X ho;simp only[ζa]at B;subst B;rcases f.lB with rfl|⟨id,el,o,es,ys,ds,rfl,S,m,W,aa,L⟩;have q:=f.good;simp only[V.good]at q;exact⟨_,by grind[Go.VE.bH,o7],.same _ (by grind[V.good,wD])⟩;refine⟨.hptr id el (o+off),rfl,FR.Ca S m W (by have:=L.1;grind) ?_⟩;have:=L.drop off;rw[drop_drop]at this;exact this;simp at B;exact absurd f.closed (by simp[V.closed]);simp at B;rename_i off size agg X;obtain⟨y,_,rfl,f,w⟩:=h.inv;rw[w.cF];obtain⟨ab,rfl,g⟩:=f.h_;obtain⟨r,m,x⟩:=ζg.1 B;obtain⟨A,T,G⟩:=g.cut m;obtain⟨O,I,J⟩:=G.mk x;grind[Go.VE.bH];rename_i size s k n;obtain⟨y,_,rfl,f,w⟩:=h.inv;obtain⟨_,_,rfl,D,C⟩:=w.inv;rw[D.int,C.cF];unfold kF at B;split at B;simp at B;rename_i E;split at B;rename_i es xs;split at B;rename_i W;obtain⟨c,g,rfl⟩:=ζf.1 B;rcases f.kW with rfl|⟨id,off,ys,rfl,S,m,hl,L⟩;have q:=f.good;simp only[V.good]at q;exact⟨_,by grind[Go.VE.bH,kF],.same _ (by grind[V.good,jP])⟩;have hj:n.toNat<xs.length:=(ζe.1 g).1;obtain⟨d,M,ae⟩:=L.get g;rw[getElem?_take,if_pos hj,getElem?_drop]at M;exact⟨.hptr id (off+n.toNat) 0,by grind[Go.VE.bH,kF],FR.Ca S m M Zc Zd⟩;simp at B;exact absurd f.closed (by simp[V.closed]);simp at B;rename_i len size s k n;obtain⟨y,_,rfl,f,w⟩:=h.inv;obtain⟨_,_,rfl,D,C⟩:=w.inv;rw[D.int,C.cF];unfold uS at B;split at B;rename_i E;split at B;split at B;rename_i X ho;simp only[ζa]at B;subst B;rcases f.lB with rfl|⟨id,el,o,es,ys,ds,rfl,S,m,W,aa,L⟩;have q:=f.good;simp only[V.good]at q;exact⟨_,by grind[Go.VE.bH,uS],.same _ (by grind[V.good,wD])⟩;refine⟨.hptr id el (o+n.toNat*size),by grind[Go.VE.bH,uS],FR.Ca S m W (by have:=L.1;grind) ?_⟩;have:=L.drop (n.toNat*size);rw[drop_drop]at this;exact this;simp at B;exact absurd f.closed (by simp[V.closed]);simp at B;simp at B;rename_i s k n;obtain⟨y,_,rfl,f,w⟩:=h.inv;obtain⟨_,_,rfl,D,C⟩:=w.inv;rw[f.str,D.int,C.cF];split at B;next E=>obtain⟨c,g,rfl⟩:=ζf.1 B;exact⟨_,by grind[Go.VE.bH],.same _ rfl⟩
 simp at B;rename_i len size agg X k n;obtain⟨y,_,rfl,f,w⟩:=h.inv;obtain⟨_,_,rfl,D,C⟩:=w.inv;rw[D.int,C.cF];obtain⟨ab,rfl,g⟩:=f.h_;split at B;rename_i E;obtain⟨r,m,x⟩:=ζg.1 B;obtain⟨A,T,G⟩:=g.cut m;obtain⟨O,I,J⟩:=G.mk x;grind[Go.VE.bH];simp at B;rename_i lo hi s bs;obtain⟨y,_,rfl,f,w⟩:=h.inv;rw[f.str];obtain⟨⟨l,h'⟩,F,B⟩:=ζg.1 B;obtain⟨⟨l2,af⟩,ad,rfl⟩:=ζf.1 B;exact⟨_,by simp only[Go.VE.bH,w.lH F,ζb,ad,map_some],.same _ rfl⟩;rename_i size lo hi s bs;obtain⟨y,_,rfl,f,w⟩:=h.inv;obtain⟨⟨l,h'⟩,F,B⟩:=ζg.1 B;obtain⟨O,I,J⟩:=FR.slice f B;exact⟨O,by simp only[Go.VE.bH,w.lH F,ζb,I],J⟩;obtain⟨y,_,rfl,f,w⟩:=h.inv;obtain⟨_,_,rfl,D,C⟩:=w.inv;obtain⟨_,_,rfl,U,Q⟩:=C.inv;rw[D.int,U.int,Q.cF];split at B;rename_i g;simp only[ζa]at B;subst B;refine⟨.c7,?_,.same _ rfl⟩;simp only[ζh]at g;have:IF y=true:=by have K:=g.1.1;unfold IF at K;split at K;rcases f.kW with rfl|⟨_,_,_,rfl,_⟩<;>rfl;exact absurd f.closed (by simp[V.closed]);rw[f.c7];rfl;rw[f.bD];rfl;simp at K
 grind[Go.VE.bH];simp at B;rename_i vs zero pl;obtain⟨r,m,rfl⟩:=ζf.1 B;obtain⟨A,T,G⟩:=cV.fill (cV.same (Y zero pl rfl)) h m;exact⟨.agg A,by grind[Go.VE.bH],.agg _ _ G.1 G.2⟩;rename_i vs P k;simp only[ζa]at B;subst B;exact⟨_,rfl,.clo _ _ _ _ _ (h.take k).1 (h.drop k).1 (h.take k).2 (h.drop k).2⟩;rename_i i vs;obtain⟨y,_,rfl,f,w⟩:=h.inv;rw[w.cF];obtain⟨ws,rfl,hw⟩:=f.oT;obtain⟨O,I,J⟩:=hw.get B;exact⟨O,I,J⟩;obtain⟨y,_,rfl,f,w⟩:=h.inv;rw[f.str,w.cF];simp only[ζa]at B;subst B;exact⟨_,rfl,.same _ rfl⟩;obtain⟨y,_,rfl,f,w⟩:=h.inv;rw[w.cF];unfold mK at B;split at B;simp only[ζa]at B;subst B;rcases f.kW with rfl|⟨_,_,_,rfl,_⟩<;>exact⟨_,rfl,.same _ rfl⟩;exact absurd f.closed (by simp[V.closed]);rw[f.c7];simp only[ζa]at B;subst B;exact⟨_,rfl,.same _ rfl⟩;rw[f.bD];simp only[ζa]at B;subst B;exact⟨_,rfl,.same _ rfl⟩;simp at B;obtain⟨y,_,rfl,f,w⟩:=h.inv;rw[w.cF];unfold Ge at B;split at B;rw[f.bD];simp only[ζa]at B;subst B;exact⟨_,rfl,.same _ rfl⟩;rw[f.c7];simp only[ζa]at B;subst B;exact⟨_,rfl,.same _ rfl⟩;simp at B;obtain⟨_,_,rfl,f,w⟩:=h.inv;obtain⟨_,_,rfl,D,C⟩:=w.inv;rw[f.int,D.int,C.cF];split at B;next e=>simp only[ζa]at B;subst B;exact⟨_,by grind[Go.VE.bH],.same _ rfl⟩
 simp at B;obtain⟨_,_,rfl,f,w⟩:=h.inv;obtain⟨_,_,rfl,D,C⟩:=w.inv;obtain⟨_,_,rfl,U,Q⟩:=C.inv;obtain⟨_,_,rfl,h7,h8⟩:=Q.inv;rw[f.int,D.int,U.int,h7.int,h8.cF];split at B;next e=>simp only[ζa]at B;subst B;exact⟨_,by grind[Go.VE.bH],.same _ rfl⟩
 simp at B;obtain⟨_,_,rfl,f,w⟩:=h.inv;obtain⟨_,_,rfl,D,C⟩:=w.inv;rw[f.int,D.int,C.cF];split at B;next e=>simp only[ζa]at B;subst B;exact⟨_,by grind[Go.VE.bH],.same _ rfl⟩
 simp at B;obtain⟨_,_,rfl,f,w⟩:=h.inv;obtain⟨_,_,rfl,D,C⟩:=w.inv;rw[f.int,D.int,C.cF];split at B;rename_i e;simp only[ζa]at B;subst B;refine⟨_,by grind[Go.VE.bH],.same _ ?_⟩;grind[V.good,jP,gF,je];simp at B;split at B;rename_i g;obtain rfl:=h.scalar.1 g.1;split at B;rename_i xs ah;split at B;rename_i hx;simp only[ζa]at B;subst B;refine⟨_,by grind[Go.VE.bH],.same _ ?_⟩;simp only[V.good];exact jP.2 λj u hu=>gF.2 λi v hv=>je (all_eq_true.1 (all_eq_true.1 hx.2 u (mem_of_getElem? hu)) v (mem_of_getElem? hv));simp at B;simp at B;simp at B;simp only[ζa]at B;subst B;rw[h.cF];exact⟨_,rfl,.same _ rfl⟩;simp at B
end
def mM(p:Nat×Nat)(k:Fl)(es len:Nat):V:=
 match k with
 |.nil=>.bD|.emp=>.c7|_=>.hsl p.1 es p.2 len
structure Nu where
 pl:Nat->Nat×Nat
 inn:Nat->Nat->Nat
instance:CoeFun Nu λ_=>Nat->Nat×Nat:=⟨Nu.pl⟩
def Nu.at(ν:Nu)(d:Nat):Nat->Nat
 |0=>(ν d).1|i+1=>ν.inn d i
inductive Vr where
 |sl(k:Fl)(es n:Nat)|box|mp
def bq.tD:bq->Vr
 |.sl k es xs=>.sl k es xs.length|.dp k xs _=>.sl k 1 xs.length|.box _=>.box|.mp _=>.mp
inductive cG(ν:Nu)(m:Tb bq)(H:bh)(Z:Nat->Prop):SV->V->Prop
 |v(x y:V)(h:FR H Z x y):cG ν m H Z (.v x) y|own(d:Nat)(y:V)(h:∀ob,bg m d=some ob->∃k es n,ob.tD=.sl k es n/\y=mM (ν d) k es n):cG ν m H Z (.own d) y|ptr(d o:Nat)(y:V)(h:∀ob,bg m d=some ob->∃cs,ob=.box cs/\y=.hptr (ν d).1 0 o):cG ν m H Z (.ptr d o) y|el(d i o:Nat)(y:V)(h:∀ob,bg m d=some ob->∃k es n,ob.tD=.sl k es n/\bN k=true/\y=.hptr (ν d).1 ((ν d).2+i) o):cG ν m H Z (.el d i o) y|mp(d:Nat)(y:V)(h:∀ob,bg m d=some ob->∃kvs,ob=.mp kvs/\y=.hmap (ν d).1):cG ν m H Z (.mp d) y|clo(f:FuncId)(a b:List SV)(a' b':List V)(ha:a.length=a'.length)(hb:b.length=b'.length)
  (hva:∀(j:Nat)u v,a[j]?=some u->a'[j]?=some v->cG ν m H Z u v) (hvb:∀(j:Nat)u v,b[j]?=some u->b'[j]?=some v->cG ν m H Z u v):cG ν m H Z (.clo f a b) (.clo f a' b')
 |tup(a:List SV)(a':List V)(ha:a.length=a'.length)(hva:∀(j:Nat)u v,a[j]?=some u->a'[j]?=some v->cG ν m H Z u v):cG ν m H Z (.tup a) (.tup a')|agg(a:List SV)(a':List V)(ha:a.length=a'.length)(hva:∀(j:Nat)u v,a[j]?=some u->a'[j]?=some v->cG ν m H Z u v):cG ν m H Z (.agg a) (.agg a')|yl(id:Nat):cG ν m H Z (.yl id) (.yld id)
def bT(ν:Nu)(m:Tb bq)(H:bh)(Z:Nat->Prop)(xs:Zw)(ys:Zu):Prop:=xs.length=ys.length/\∀(j:Nat)u v,xs[j]?=some u->ys[j]?=some v->cG ν m H Z u v
def dJ:bq->Zl
 |.sl k _ _|.dp k _ _=>bN k|_=>true
def bq.pt(ob:bq):Nat->Zl
 |0=>dJ ob|i+1=>match ob with
  |.dp _ xs h=>(match h with|some (j,_)=>j != i|none=>true)&&(match xs[i]?with|some [.fsl ..]=>true|_=>false)|_=>false
def eB(ν:Nu)(m:Tb bq)(id:Nat):Prop:=∃d ob j,bg m d=some ob/\ob.pt j=true/\ν.at d j=id
def s9(H:bh)(Z:Nat->Prop)(ys:Zt):Prop:=∀c∈ys,∀u∈c,∃x,FR H Z x u
def A3(H:bh)(Z:Nat->Prop)(a b:aX (V×V)):Prop:=a.length=b.length/\∀(j:Nat)u v,a[j]?=some u->b[j]?=some v->(u.1=v.1/\u.1.scalar=true)/\FR H Z u.2 v.2
def tE(ν:Nu)(H:bh)(Z:Nat->Prop)(d i:Nat)(x y:Zu):Prop:=(x=y/\(x=[.bD]\/x=[.c7]))\/∃es u w,x=[.fsl es u]/\y=[.hsl (ν.inn d i) es 0 u.length]/\H[ν.inn d i]?=some (.row es w)/\eX H Z u w
def mQ(ν:Nu)(m:Tb bq)(H:bh)(Z:Nat->Prop)(d:Nat)(h:aY (Nat×Nat))(i:Nat)(x y:Zu):Prop:=
 match h with
 |some (j,t)=>if j=i then∃v,y=[v]/\v.one=true/\cG ν m H Z (.own t) v else tE ν H Z d i x y|none=>tE ν H Z d i x y
def cI(ν:Nu)(m:Tb bq)(H:bh)(Z:Nat->Prop)(d:Nat):bq->Prop
 |.sl k es xs=>if bN k then∃ys,H[(ν d).1]?=some (.row es ys)/\(ν d).2+xs.length<=ys.length/\eX H Z xs ((ys.drop (ν d).2).take xs.length)/\s9 H Z ys/\(k=.row->(ν d).2=0/\ys.length=xs.length)
  else xs=[]
 |.box cs=>∃es D,H[(ν d).1]?=some (.row es [D])/\bT ν m H Z cs D/\D.all V.one=true|.mp G=>∃B,H[(ν d).1]?=some (.map B)/\A3 H Z G B|.dp k xs h=>if bN k then k=.row/\(ν d).2=0/\(∀i t,h=some (i,t)->i<xs.length)/\∃ys,H[(ν d).1]?=some (.row 1 ys)/\ys.length=xs.length/\∀i x y,xs[i]?=some x->ys[i]?=some y->mQ ν m H Z d h i x y
  else xs=[]/\h=none
structure R(ν:Nu)(Z:Nat->Prop)(st:St)(F:Frame)(H:bh):Prop where
 slot:∀s sv,bg st.g s=some sv->cG ν st.m H Z sv (get F s)
 obj:∀d ob,bg st.m d=some ob->cI ν st.m H Z d ob
 inj:∀d d' ob ob' j j',bg st.m d=some ob->bg st.m d'=some ob'->ob.pt j=true->ob'.pt j'=true->ν.at d j=ν.at d' j'->d=d'/\j=j'
 apart:∀d ob j,bg st.m d=some ob->ob.pt j=true->¬Z (ν.at d j)
 zrow:∀id,Z id->(bk H id).isSome=true
 deep:Deep H Z
def sameShape(a b:bq):Prop:=b.tD=a.tD
def sameShape.refl(o:bq):sameShape o o:=rfl
def sameShape.trans{a b c:bq}(h:sameShape a b)(k:sameShape b c):sameShape a c:=Eq.trans k h
structure Ev(Rv:Nat->Prop)(ν:Nu)(Z:Nat->Prop)(st:St)(H:bh)(ν':Nu)(Z':Nat->Prop)(st':St)(H':bh):Prop where
 len:H.length<=H'.length
 same:∀id,id<H.length->¬eB ν st.m id->¬Z id->¬Rv id->H'[id]?=H[id]?
 rows:∀id,Z id->Z' id/\bk H' id=bk H id
 own:∀id,eB ν' st'.m id->eB ν st.m id\/Rv id\/H.length<=id
 frz:∀id,Z' id->Z id\/eB ν st.m id\/Rv id\/H.length<=id
 pin:∀d∈st.pin,∀ob',bg st'.m d=some ob'->∃ob,bg st.m d=some ob/\ν' d=ν d/\sameShape ob ob'
 pins:st'.pin=st.pin
section
variable{Rv Rv':Nat->Prop}{ν ν' ν2:Nu}{Z Z' Z2:Nat->Prop}{st st' st2:St}{m m':Tb bq}{F F':Zo}{H H' H2:bh}
def Ev.refl:Ev Rv ν Z st H ν Z st H:=⟨le_refl _,λ_ _ _ _ _=>rfl,λ_ h=>⟨h,rfl⟩,λ_ h=>.inl h,λ_ h=>.inl h,λ_ _ u h=>⟨u,h,rfl,.refl _⟩,rfl⟩
def Ev.trans(a:Ev Rv ν Z st H ν' Z' st' H')(b:Ev Rv ν' Z' st' H' ν2 Z2 st2 H2):Ev Rv ν Z st H ν2 Z2 st2 H2 where
 len:=le_trans a.len b.len
 same:=λid B u C hr=>by rw[b.same id (Nat.lt_of_lt_of_le B a.len) (λh=>(a.own id h).elim u λh=>h.elim hr λh=>Za) (λh=>(a.frz id h).elim C λh=>h.elim u λh=>h.elim hr λh=>Za) hr,a.same id B u C hr]
 rows:=λid h=>⟨(b.rows id (a.rows id h).1).1,by rw[(b.rows id (a.rows id h).1).2,(a.rows id h).2]⟩
 own:=λid h=>by rcases b.own id h with h|h|h;exact a.own id h;grind;exact .inr (.inr (le_trans a.len h))
 frz:=λid h=>by rcases b.frz id h with h|h|h|h;exact a.frz id h;rcases a.own id h with h|h|h;grind;grind;grind;grind;exact .inr (.inr (.inr (le_trans a.len h)))
 pin:=λd D w h=>by have⟨z,c,I,G⟩:=b.pin d (by rw[a.pins];omega) w h;have⟨ob,k1,k2,k3⟩:=a.pin d D z c;exact⟨ob,k1,Ze,k3.trans G⟩
 pins:=by rw[b.pins,a.pins]
def Ev.weak(h:∀id,Rv id->Rv' id)(a:Ev Rv ν Z st H ν' Z' st' H'):Ev Rv' ν Z st H ν' Z' st' H':=⟨a.len,λid u w z hr=>a.same id u w z (λk=>hr (h id k)),a.rows,λid k=>(a.own id k).imp (λx=>x) (.imp (h id) (λx=>x)),λid k=>(a.frz id k).imp (λx=>x) (.imp (λx=>x) (.imp (h id) (λx=>x))),a.pin,a.pins⟩
theorem bX{α:Type}:∀(g:Tb α)(n:Nat)(v:α),bg (bu g n v) n=some v
 |[],n,v=>by simp[bu,bg]|(k,x)::r,n,v=>by simp[bu];split;(next h=>simp[bg,h]);rename_i h;simp[bg,h,bX r n v]
def cA{α:Type}:∀(g:Tb α){n k:Nat}(v:α),n≠k->bg (bu g n v) k=bg g k
 |[],n,k,v,h=>by simp[bu,bg,h]|(j,x)::r,n,k,v,h=>by simp[bu];split;(next a=>subst a;simp[bg,h]);simp[bg];split;rfl;exact cA r v h
def qV{α:Type}:∀{g:Tb α}{n:Nat}{v:α},bg g n=some v->bu g n v=g
 |[],n,v,h=>by cases h|(k,x)::r,n,v,h=>by simp[bg]at h;simp[bu];split;grind;rename_i e;rw[if_neg e]at h;rw[qV h]
def uG{α:Type}:∀(g:Tb α)(n:Nat),bg (cR n g) n=none
 |[],n=>rfl|(k,x)::r,n=>by simp[cR];split;exact uG r n;rename_i a;simp[bg];rw[if_neg a];exact uG r n
def uE{α:Type}:∀(g:Tb α){n k:Nat},n≠k->bg (cR n g) k=bg g k
 |[],n,k,h=>rfl|(j,x)::r,n,k,h=>by simp[cR];split;(next a=>subst a;simp[bg];rw[if_neg h];exact uE r h);simp[bg];split;rfl;exact uE r h
theorem jY{α:Type}{g:Tb α}{n k:Nat}{v:α}(h:bg (cR n g) k=some v):n≠k/\bg g k=some v:=by by_cases e:n=k;subst e;rw[uG]at h;simp_all;rw[uE g e]at h;grind
def nG{α:Type}{k:Nat}{v:α}:∀{ds:Zv}{g:Tb α},bg (oc ds g) k=some v->bg g k=some v
 |[],_,h=>h|d::ds,g,h=>(jY (nG h)).2
def oZ{α:Type}{g:Tb α}{k:Nat}{v:α}:∀{l:Zv}{r:Tb α},kM g l=some r->bg r k=some v->bg g k=some v
 |[],r,h,B=>by simp[kM]at h;subst h;simp[bg]at B|n::l,r,h,B=>by simp[kM]at h;split at h;rename_i w t G D;simp at h;subst h;simp[bg]at B;split at B;grind;exact oZ D B;grind
def wO{d:Nat}:∀{g:Tb SV}{s:Nat}{sv:SV},sS d g=false->bg g s=some sv->sv.cu d=false
 |[],_,_,_,h=>by simp[bg]at h|(k,x)::r,s,sv,h,B=>by simp[sS]at h;simp[bg]at B;split at B;grind;exact wO h.2 B
def qn{d:Nat}:∀{g:Tb bq}{s:Nat}{ob:bq},rG d g=false->bg g s=some ob->ob.cu d=false
 |[],_,_,_,h=>by simp[bg]at h|(k,x)::r,s,sv,h,B=>by simp[rG]at h;simp[bg]at B;split at B;grind;exact qn h.2 B
theorem sA{d:Nat}:∀{l:Zw}{j:Nat}{u:SV},SV.c_ d l=false->l[j]?=some u->u.cu d=false
 |[],_,_,_,h=>Ze|x::r,j,u,h,B=>by simp[SV.c_]at h;cases j with|zero=>grind|succ j=>exact sA h.2 (by simpa using B)
def qE{d:Nat}:∀{l:Zw}{j:Nat}{u:SV},l[j]?=some u->u.cu d=true->SV.c_ d l=true
 |[],_,_,h,_=>Ze|x::r,j,u,h,B=>by simp[SV.c_];cases j with|zero=>grind|succ j=>exact .inr (qE (j:=j) Zd B)
def cG.mono{sv:SV}{y:V}(T:∀id,Z id->Z' id/\bk H' id=bk H id)
 (r:cG ν m H Z sv y)(B:∀d,sv.cu d=true->∀ob',bg m' d=some ob'->∃ob,bg m d=some ob/\ν' d=ν d/\sameShape ob ob'):cG ν' m' H' Z' sv y:=by
 induction r with
 |v x y h=>exact .v x y (h.mono T)|own d y h=>
  refine .own d y λob' z=>?_
  have⟨ob,e,C,D⟩:=B d (by simp[SV.cu]) ob' z
  obtain⟨k,es,n,L,rfl⟩:=h ob e;exact⟨k,es,n,Eq.trans D L,by rw[C]⟩
 |ptr d o y h=>
  refine .ptr d o y λob' z=>?_
  have⟨ob,e,C,D⟩:=B d (by simp[SV.cu]) ob' z
  obtain⟨Q,rfl,rfl⟩:=h ob e;cases ob'<;>cases D;exact⟨_,rfl,by rw[C]⟩
 |el d i o y h=>
  refine .el d i o y λob' z=>?_
  have⟨ob,e,C,D⟩:=B d (by simp[SV.cu]) ob' z
  obtain⟨k,es,n,L,S,rfl⟩:=h ob e;exact⟨k,es,n,Eq.trans D L,S,by rw[C]⟩
 |mp d y h=>
  refine .mp d y λob' z=>?_
  have⟨ob,e,C,D⟩:=B d (by simp[SV.cu]) ob' z
  obtain⟨Q,rfl,rfl⟩:=h ob e;cases ob'<;>cases D;exact⟨_,rfl,by rw[C]⟩
 |clo f a b I U J W hva X w O=>exact .clo f a b I U J W (λj u v c g=>w j u v c g λd G=>B d (by simp[SV.cu,qE c G])) (λj u v c g=>O j u v c g λd G=>B d (by simp[SV.cu,qE c G]))|tup a I J hva w=>exact .tup a I J (λj u v c g=>w j u v c g λd G=>B d (by simp[SV.cu,qE c G]))|agg a I J hva w=>exact .agg a I J (λj u v c g=>w j u v c g λd G=>B d (by simp[SV.cu,qE c G]))|yl id=>exact .yl id
def bT.mono{sv:Zw}{y:Zu}(B:∀id,Z id->Z' id/\bk H' id=bk H id)(r:bT ν m H Z sv y)(D:∀d,SV.c_ d sv=true->∀ob',bg m' d=some ob'->∃ob,bg m d=some ob/\ν' d=ν d/\sameShape ob ob'):bT ν' m' H' Z' sv y:=⟨r.1,λj u v a b=>(r.2 j u v a b).mono B λd w=>D d (qE a w)⟩
def bT.nil:bT ν m H Z [] []:=⟨rfl,Zc⟩
def bT.cons{x:SV}{y:V}{xs:Zw}{ys:Zu}(h:cG ν m H Z x y)(r:bT ν m H Z xs ys):bT ν m H Z (x::xs) (y::ys):=by refine⟨by simp[r.1],λj u v a b=>?_⟩;cases j with|zero=>grind|succ j=>exact r.2 j u v Zd Zd
def bT.inv{x:SV}{xs:Zw}{B:Zu}(r:bT ν m H Z (x::xs) B):∃y ys,B=y::ys/\cG ν m H Z x y/\bT ν m H Z xs ys:=by cases B with|nil=>have:=r.1;grind|cons y ys=>refine⟨y,ys,rfl,r.2 0 x y rfl rfl,by have:=r.1;grind,λj u v a b=>r.2 (j+1) u v Zd Zd⟩
def bT.cF{B:Zu}(r:bT ν m H Z [] B):B=[]:=by have:=r.1;grind
theorem bT.get{xs:Zw}{ys:Zu}(r:bT ν m H Z xs ys){j:Nat}{u:SV}(h:xs[j]?=some u):∃v,ys[j]?=some v/\cG ν m H Z u v:=by
 have w:=(ζe.1 h).1;have:j<ys.length:=by rw[<-r.1];omega
 exact⟨ys[j],ζd this,r.2 j u _ h (ζd this)⟩
def bT.append{a c:Zw}{b d:Zu}(h:bT ν m H Z a b)(k:bT ν m H Z c d):bT ν m H Z (a++c) (b++d):=by refine⟨by simp[h.1,k.1],λj u v e f=>?_⟩;by_cases w:j<a.length;rw[getElem?_append_left w]at e;rw[getElem?_append_left (by rw[<-h.1];omega)]at f;exact h.2 j u v e f;rw[getElem?_append_right Za]at e;rw[getElem?_append_right (by rw[<-h.1];omega),<-h.1]at f;exact k.2 _ u v e f
def bT.take{a:Zw}{b:Zu}(h:bT ν m H Z a b)(n:Nat):bT ν m H Z (a.take n) (b.take n):=by
 refine⟨by simp[h.1],λj u v c d=>?_⟩;rw[getElem?_take]at c d;split at c;next w=>rw[if_pos w]at d;exact h.2 j u v c d
 grind
def bT.drop{a:Zw}{b:Zu}(h:bT ν m H Z a b)(n:Nat):bT ν m H Z (a.drop n) (b.drop n):=by refine⟨by simp[h.1],λj u v c d=>?_⟩;rw[getElem?_drop]at c d;exact h.2 _ u v c d
theorem cG.fr{x y:V}(r:cG ν m H Z (.v x) y):FR H Z x y:=by cases r;assumption
def bT.qc{xs ys:Zu}(r:cV H Z xs ys):bT ν m H Z (xs.map .v) ys:=by refine⟨by simp[r.1],λj u v a b=>?_⟩;rw[List.getElem?_map,ζf]at a;obtain⟨x,w,rfl⟩:=a;exact .v x v (r.2 j x v w b)
def tw:∀{svs:Zw}{xs:Zu},dh svs=some xs->svs=xs.map .v
 |[],xs,h=>by simp[dh]at h;grind|x::r,xs,h=>by(cases x<;>simp only[dh]at h<;>first|grind|skip);obtain⟨t,B,rfl⟩:=ζf.1 h;rw[tw B];rfl
def bT.SP{xs ys:Zu}(r:bT ν m H Z (xs.map .v) ys):cV H Z xs ys:=by refine⟨by have:=r.1;grind,λj u v b a=>?_⟩;have:(xs.map SV.v)[j]?=some (.v u):=Zd;exact(r.2 j _ v this a).fr
end
section
variable{ν:Nu}{Z:Nat->Prop}{st:St}{m:Tb bq}{F:Zo}{H H1:bh}{N:Nat->Zk}
def nX(nm:Zk->aY Nat):Zr->aY Arg
 |.tmp t=>some (.s t)|.const v=>match ofValue 4 v with
  |some c=>if c.good then some (.k c)else none|none=>none
 |.func f=>(nm f).map .f|.global g=>match bL.gl g with
  |some cs=>if(V.fptr cs).good then some (.k (.fptr cs))else none|none=>none
def CG{nm:Zk->aY Nat}(D:∀f s,nm f=some s->N s=f){g:Tb SV}(G:∀s sv,bg g s=some sv->cG ν m H Z sv (get F s)){o:Zr}{x:Arg}{sv:SV}(B:nX nm o=some x)(a:pM N g x=some sv):
 ∃y,ev F o=some y/\cG ν m H Z sv y:=by
 cases o with
 |tmp t=>simp[nX]at B;subst B;exact⟨get F t,rfl,G t sv a⟩|const w=>
  simp[nX]at B;split at B
  .rename_i c hc;split at B
   next u=>simp at B;subst B;simp[pM]at a;subst a;exact⟨c,hc,.v _ _ (.same _ u)⟩
   grind
  grind
 |func f=>simp[nX]at B;obtain⟨z,C,rfl⟩:=B;simp[pM]at a;subst a;exact⟨_,rfl,.v _ _ (by rw[D f z C];exact .same _ rfl)⟩|global i=>
  simp[nX]at B;split at B
  .rename_i c hc;split at B
   next u=>simp at B;subst B;simp[pM]at a;subst a;exact⟨.fptr c,by simp[ev,hc],.v _ _ (.same _ u)⟩
   grind
  grind
def nv{nm:Zk->aY Nat}(D:∀f s,nm f=some s->N s=f){g:Tb SV}(G:∀s sv,bg g s=some sv->cG ν m H Z sv (get F s)):∀{os:aX Zr}{xs:Z4}{svs:Zw},
 os.mapM (nX nm)=some xs->bV N g xs=some svs->∃ys,fe F os=some ys/\bT ν m H Z svs ys
 |[],xs,svs,B,hv=>by simp at B;subst B;simp[bV]at hv;subst hv;exact⟨[],rfl,.nil⟩|o::os,xs,svs,B,hv=>by simp[ζg]at B;obtain⟨x,J,ys,O,rfl⟩:=B;simp[bV]at hv;split at hv;(next v C b w=>simp at hv;subst hv;have⟨a,B,z⟩:=CG D G J b;have⟨az,c,u⟩:=nv D G O w;exact⟨a::az,by grind[fe],.cons z u⟩);grind
def cG.gb{d:Nat}{y:V}(r:cG ν m H Z (.own d) y){ob:bq}(h:bg m d=some ob):∃k es n,ob.tD=.sl k es n/\y=mM (ν d) k es n:=by cases r with|own _ _ u=>grind
def cG.nO{d o:Nat}{y:V}(r:cG ν m H Z (.ptr d o) y){ob:bq}(h:bg m d=some ob):∃cs,ob=.box cs/\y=.hptr (ν d).1 0 o:=by cases r with|ptr _ _ _ u=>grind
def cG.tH{d i o:Nat}{y:V}(r:cG ν m H Z (.el d i o) y){ob:bq}(h:bg m d=some ob):∃k es n,ob.tD=.sl k es n/\bN k=true/\y=.hptr (ν d).1 ((ν d).2+i) o:=by cases r with|el _ _ _ _ u=>grind
def cG.BQ{d:Nat}{y:V}(r:cG ν m H Z (.mp d) y){ob:bq}(h:bg m d=some ob):∃B,ob=.mp B/\y=.hmap (ν d).1:=by cases r with|mp _ _ u=>grind
def cG.jy{f:Zk}{a b:Zw}{y:V}(r:cG ν m H Z (.clo f a b) y):∃a' B,y=.clo f a' B/\bT ν m H Z a a'/\bT ν m H Z b B:=by cases r with|clo _ _ _ a' B w z hva u=>exact⟨a',B,rfl,⟨w,hva⟩,⟨z,u⟩⟩
def cG.oT{a:Zw}{y:V}(r:cG ν m H Z (.tup a) y):∃a',y=.tup a'/\bT ν m H Z a a':=by cases r with|tup _ a' u hva=>exact⟨a',rfl,u,hva⟩
def cG.h_{a:Zw}{y:V}(r:cG ν m H Z (.agg a) y):∃a',y=.agg a'/\bT ν m H Z a a':=by cases r with|agg _ a' u hva=>exact⟨a',rfl,u,hva⟩
def mN{p:Nat×Nat}{k:Fl}{es len:Nat}(h:bN k=true):mM p k es len=.hsl p.1 es p.2 len:=by cases k<;>simp[bN]at h<;>rfl
def jh{x:SV}{y:V}(h:lP m x=true)(r:cG ν m H Z x y):y.cells=[y]/\y.one=true:=by cases x with|v x=>grind[lP]|own d=>have⟨ob,u⟩:=isSome_iff_exists.1 h;obtain⟨k,es,n,_,rfl⟩:=r.gb u;cases k<;>exact⟨rfl,rfl⟩|ptr d o=>have⟨ob,u⟩:=isSome_iff_exists.1 h;obtain⟨z,rfl,rfl⟩:=r.nO u;exact⟨rfl,rfl⟩|el d i o=>have⟨ob,u⟩:=isSome_iff_exists.1 h;obtain⟨k,es,n,_,_,rfl⟩:=r.tH u;exact⟨rfl,rfl⟩|mp d=>have⟨ob,u⟩:=isSome_iff_exists.1 h;obtain⟨w,rfl,rfl⟩:=r.BQ u;exact⟨rfl,rfl⟩|clo f a b=>obtain⟨B,C,rfl,_⟩:=r.jy;exact⟨rfl,rfl⟩|tup l=>grind[lP]|agg l=>grind[lP]|yl id=>grind[lP]
def Ly{x:SV}{y:V}(h:wN m x=true)(r:cG ν m H Z x y):y.one=true:=by
 cases x with
 |v x=>
  have u:=r.fr;have w:x.one=true:=h;have c:=u.cells;have e:x.cells=[x]:=by cases x<;>first|rfl|grind[V.one]
  rw[e]at c;have g:=c.one;have z:=c.1
  cases y with
  |agg l=>cases u with|same _ _=>grind|agg _ _ _ _=>grind[V.one]
  |tup l=>cases u with|same _ _=>grind|tup _ _ _ _=>grind[V.one]
  |_=>rfl
 |own d=>exact(jh (x:=.own d) h r).2|ptr d o=>exact(jh (x:=.ptr d o) h r).2|el d i o=>exact(jh (x:=.el d i o) h r).2|mp d=>exact(jh (x:=.mp d) h r).2|clo f a b=>exact(jh (x:=.clo f a b) h r).2|tup l=>grind[wN,lP]|agg l=>grind[wN,lP]|yl id=>grind[wN,lP]
def D3{l:Zw}{ys:Zu}(h:l.all (wN m)=true)(r:bT ν m H Z l ys):ys.all V.one=true:=by
 refine all_eq_true.2 λy w=>?_;have⟨j,z,e⟩:=List.mem_iff_getElem.1 w;have u:j<l.length:=by rw[r.1];omega
 exact Ly (all_eq_true.1 h _ (List.getElem_mem u)) (r.2 j _ y (ζd u) Zd)
def KW{x:SV}{y:V}{c:Zw}(h:FO m x=some c)(r:cG ν m H Z x y):bT ν m H Z c y.cells:=by
 unfold FO at h;split at h;cases h;exact bT.qc r.fr.cells;cases h;obtain⟨z,rfl,u⟩:=r.h_;exact u;split at h;next w=>cases h;rw[(jh w r).1];exact .cons r .nil
 simp_all
def Fy:∀{pl:aX (Nat×Nat)}{vs cells l:Zw}{B cells':Zu},bT ν m H Z cells cells'->bT ν m H Z vs B->wW m cells pl vs=some l->∃D,jO cells' pl B=some D/\bT ν m H Z l D
 |[],[],cells,l,B,cells',hc,hv,h=>by rw[hv.cF];simp[wW]at h;subst h;exact⟨_,rfl,hc⟩|[],_::_,_,_,_,_,_,_,h=>by grind[wW]|_::_,[],_,_,_,_,_,_,h=>by grind[wW]|(off,size)::pl,v::vs,cells,l,B,cells',hc,hv,h=>by obtain⟨w,G,rfl,b,J⟩:=hv.inv;simp only[wW]at h;split at h;rename_i c z;have a:=KW z b;split at h;have⟨D,e1,e2⟩:=Fy (cells':=cells'.take off++w.cells++cells'.drop (off+w.cells.length)) (by rw[<-a.1];exact((hc.take off).append a).append (hc.drop _)) J h;have u:w.cells.length=size/\off+w.cells.length<=cells'.length:=(by rw[<-a.1,<-hc.1];omega);grind[jO];simp_all;simp_all
theorem Gg{size o:Nat}{agg:Zl}{cs:Zw}{B:Zu}{sv:SV}(h:bT ν m H Z cs B)(D:tZ size agg ((cs.drop o).take size)=some sv):∃y,(cut B o size).bind (mk agg)=some y/\cG ν m H Z sv y:=by
 have u:=(h.drop o).take size;unfold tZ at D;split at D;have a:cut B o size=some ((B.drop o).take size):=by unfold cut;rw[if_pos (by rw[<-u.1];omega)]
 rw[a];split at D;split at D;rename_i G w;cases D;have z:=by rw[tw w]at u;exact u.SP
 exact⟨_,by simp_all[mk],.v _ _ (.agg _ _ z.1 z.2)⟩;cases D;exact⟨_,by simp_all[mk],.agg _ _ u.1 u.2⟩;split at D;rename_i x w;simp at D;subst D;rw[w]at u;have⟨y,I,e,J,C⟩:=u.inv;rw[e,C.cF];grind[mk];grind;grind
theorem OE{p:tV}{svs:Zw}{ys:Zu}{sv:SV}(q:∀zero pl,p=.build zero pl->V.cB zero=true)(i:∀d ob,bg m d=some ob->cI ν m H Z d ob)(h:bT ν m H Z svs ys)(B:yX N m p svs=some sv):∃y,bH N p ys=some y/\cG ν m H Z sv y:=by
 unfold yX at B;split at B;obtain⟨y,_,rfl,c,C⟩:=h.inv;rw[C.cF];simp at B;subst B;exact⟨y,rfl,c⟩;obtain⟨y,_,rfl,c,C⟩:=h.inv;rw[C.cF];split at B;next O=>simp at B;subst B;have⟨ob,u⟩:=isSome_iff_exists.1 O;obtain⟨cs,rfl,rfl⟩:=c.nO u;exact⟨_,rfl,c⟩
 grind;obtain⟨y,_,rfl,c,C⟩:=h.inv;rw[C.cF];split at B;next O=>simp at B;subst B;have⟨ob,u⟩:=isSome_iff_exists.1 O;obtain⟨k,es,n,O,f,rfl⟩:=c.tH u;exact⟨_,rfl,c⟩
 grind;rename_i t a b;obtain⟨S,_,rfl,c,C⟩:=h.inv;obtain⟨U,_,rfl,Q,G⟩:=C.inv;obtain⟨r,_,rfl,K,s⟩:=G.inv;rw[c.fr.bool,s.cF];simp at B;refine⟨if t=true then U else r,rfl,?_⟩;grind
 .obtain⟨S,_,rfl,c,C⟩:=h.inv;obtain⟨U,_,rfl,Q,G⟩:=C.inv;rw[Q.fr.bD,G.cF];split at B
  .rename_i k es W u;split at B;simp_all;simp at B;subst B;obtain⟨X,I,J,e,rfl⟩:=c.gb u;cases e;cases k<;>first|grind|exact⟨_,rfl,.v _ _ (.same _ rfl)⟩
  grind
 .obtain⟨S,_,rfl,c,C⟩:=h.inv;obtain⟨U,_,rfl,Q,G⟩:=C.inv;rw[Q.fr.bD,G.cF];split at B
  .rename_i k es W u;split at B;simp_all;simp at B;subst B;obtain⟨X,I,J,e,rfl⟩:=c.gb u;cases e;cases k<;>first|grind|exact⟨_,rfl,.v _ _ (.same _ rfl)⟩
  grind
 obtain⟨y,_,rfl,c,C⟩:=h.inv;rw[C.cF];split at B;next O=>simp at B;subst B;have⟨ob,u⟩:=isSome_iff_exists.1 O;obtain⟨cs,rfl,rfl⟩:=c.nO u;exact⟨_,rfl,.ptr _ _ _ λL D=>Zd⟩
 grind;obtain⟨y,_,rfl,c,C⟩:=h.inv;rw[C.cF];split at B;next O=>simp at B;subst B;have⟨ob,u⟩:=isSome_iff_exists.1 O;obtain⟨k,es,n,O,f,rfl⟩:=c.tH u;exact⟨_,rfl,.el _ _ _ _ λL D=>by rw[u]at D;grind⟩
 simp at B;obtain⟨S,_,rfl,c,C⟩:=h.inv;obtain⟨U,_,rfl,Q,G⟩:=C.inv;rw[Q.fr.int,G.cF];split at B;rename_i k es W u;split at B;rename_i g;obtain⟨f,rfl,Y,T⟩:=g;simp at B;subst B;obtain⟨X,I,J,e,rfl⟩:=c.gb u;cases e;rw[mN f];refine⟨.hptr (ν _).1 ((ν _).2+_) 0,by simp only[bH,kF,if_neg (Int.not_lt.2 Y),true_and,if_pos T];rfl,.el _ _ _ _ λL D=>?_⟩;rw[u]at D;cases D;exact⟨_,_,_,rfl,f,rfl⟩;simp at B;rename_i k W w u;split at B;rename_i g;obtain⟨f,rfl,Y,T⟩:=g;simp at B;subst B;obtain⟨X,I,J,e,rfl⟩:=c.gb u;cases e;rw[mN f];refine⟨.hptr (ν _).1 ((ν _).2+_) 0,by simp only[bH,kF,if_neg (Int.not_lt.2 Y),true_and,if_pos T];rfl,.el _ _ _ _ λL D=>?_⟩;rw[u]at D;cases D;exact⟨_,_,_,rfl,f,rfl⟩;simp at B;simp at B;obtain⟨S,_,rfl,c,C⟩:=h.inv;obtain⟨U,_,rfl,Q,G⟩:=C.inv;rw[Q.fr.int,G.cF];split at B;rename_i g;simp at B;subst B;have⟨ob,u⟩:=isSome_iff_exists.1 g.2.2;obtain⟨cs,rfl,rfl⟩:=c.nO u;refine⟨.hptr (ν _).1 0 (_+_),by simp only[bH,uS,if_pos (And.intro g.1 g.2.1)];rfl,.ptr _ _ _ λL D=>?_⟩;rw[u]at D;grind;simp at B;obtain⟨S,_,rfl,c,C⟩:=h.inv;obtain⟨U,_,rfl,Q,G⟩:=C.inv;rw[Q.fr.int,G.cF];split at B;rename_i g;simp at B;subst B;have⟨ob,u⟩:=isSome_iff_exists.1 g.2.2;obtain⟨k,es,n,O,f,rfl⟩:=c.tH u;refine⟨.hptr (ν _).1 (_+_) (_+_),by simp only[bH,uS,if_pos (And.intro g.1 g.2.1)];rfl,.el _ _ _ _ λL D=>?_⟩;rw[u]at D;grind;simp at B;obtain⟨S,_,rfl,c,C⟩:=h.inv;rw[C.cF];split at B;rename_i k es W u;simp at B;subst B;obtain⟨X,I,J,e,rfl⟩:=c.gb u;cases e;have:=i _ _ u;simp[cI]at this;cases f:k<;>simp[f,bN]at this⊢;subst this;exact⟨_,rfl,.v _ _ (.same _ rfl)⟩;subst this;exact⟨_,rfl,.v _ _ (.same _ rfl)⟩;exact⟨_,rfl,.v _ _ (.same _ rfl)⟩;exact⟨_,rfl,.v _ _ (.same _ rfl)⟩;rename_i k W w u;simp at B;subst B;obtain⟨X,I,J,e,rfl⟩:=c.gb u;cases e;have:=i _ _ u;simp[cI]at this;cases f:k<;>simp[f,bN]at this⊢;obtain⟨rfl,_⟩:=this;exact⟨_,rfl,.v _ _ (.same _ rfl)⟩;obtain⟨rfl,_⟩:=this;exact⟨_,rfl,.v _ _ (.same _ rfl)⟩;exact⟨_,rfl,.v _ _ (.same _ rfl)⟩;simp at B;rename_i vs j k;simp at B;subst B;exact⟨_,rfl,.clo _ _ _ _ _ (h.take k).1 (h.drop k).1 (h.take k).2 (h.drop k).2⟩;obtain⟨S,_,rfl,c,C⟩:=h.inv;rw[C.cF];obtain⟨v,rfl,o⟩:=c.oT;have⟨z,x,A⟩:=o.get B;exact⟨z,x,A⟩;rename_i vs zero pl;obtain⟨l,E,rfl⟩:=ζf.1 B;have⟨F,c,C⟩:=Fy (bT.qc (cV.same (q zero pl rfl))) h E;exact⟨.agg F,by grind[Go.VE.bH],.agg _ _ C.1 C.2⟩;obtain⟨S,_,rfl,c,C⟩:=h.inv;rw[C.cF];obtain⟨v,rfl,o⟩:=c.h_;grind[Gg,Go.VE.bH];grind
def FG{p:tV}{svs:Zw}{ys:Zu}{sv:SV}(D:∀zero pl,p=.build zero pl->V.cB zero=true)(J:∀d ob,bg m d=some ob->cI ν m H Z d ob)(h:bT ν m H Z svs ys)(B:jF N m p svs=some sv):
 ∃y,bH N p ys=some y/\cG ν m H Z sv y:=by
 unfold jF at B;split at B
 next I u=>obtain⟨z,w,rfl⟩:=ζf.1 B;rw[tw u]at h;have⟨C,a,G⟩:=cV.bH D h.SP w;exact⟨C,a,.v _ _ G⟩
 grind[OE]
def bT.dh{svs:Zw}{xs ys:Zu}(h:bT ν m H Z svs ys)(B:dh svs=some xs):cV H Z xs ys:=by rw[tw B]at h;exact h.SP
def AI{k:V}:∀{a b:aX (V×V)}{i:Nat},A3 H Z a b->(ig k a i=some none->ig k b i=some none)/\∀j v,ig k a i=some (some (j,v))->∃B,ig k b i=some (some (j,B))/\FR H Z v B
 |[],b,i,h=>by have:b=[]:=length_eq_zero_iff.1 (by have:=h.1;grind);grind[ig]|(k1,x)::a,[],i,h=>by have:=h.1;grind|(k1,x)::a,(k2,y)::b,i,h=>by have⟨⟨e,_⟩,z⟩:=h.2 0 _ _ rfl rfl;subst e;have w:A3 H Z a b:=⟨by have:=h.1;grind,λj u v c d=>h.2 (j+1) u v Zd Zd⟩;have C:=AI (i:=i+1) (k:=k) w;grind[ig]
def uk{kk:vl}{k:V}(h:ou kk k=true):k.scalar=true:=by unfold ou at h;split at h;rfl;rfl;simp at h;have⟨a,u⟩:=isSome_iff_exists.1 h.2;exact qh u;grind
def uH{r:HV}{svs:Zw}{ys:Zu}{sv:SV}(al:∀s a,r≠.loadF s a)(U:∀kk z ok,r=.lookup kk z ok->z.good=true)(h:bT ν m H Z svs ys)(n:∀d,SV.c_ d svs=true->∀ob,bg m d=some ob->cI ν m H Z d ob)(B:og m r svs=some sv):
 ∃y,eG H r ys=some y/\cG ν m H Z sv y:=by
 unfold og at B;split at B
 .
  obtain⟨W,_,rfl,b,J⟩:=h.inv;rw[J.cF];split at B
  .rename_i cs u;obtain⟨am,e,rfl⟩:=b.nO u;obtain⟨es,an,g,o,_⟩:=n _ (by simp[SV.c_,SV.cu]) _ u
   grind[Gg,eG,dZ,Ob.rows]
  grind
 .
  obtain⟨W,_,rfl,b,J⟩:=h.inv;rw[J.cF];split at B
  .rename_i k es xs u;split at B
   .rename_i cs X;obtain⟨z,O,rfl⟩:=ζf.1 B;obtain⟨k1,ad,ao,e,f,rfl⟩:=b.tH u;cases e;have:=n _ (by simp[SV.c_,SV.cu]) _ u
    simp[cI,f]at this;obtain⟨rs,g,K,C,_⟩:=this;obtain⟨c,o,ae⟩:=C.get X;have q:=(ζe.1 X).1;rw[getElem?_take,if_pos q,getElem?_drop]at o;obtain⟨r1,w,L⟩:=ζg.1 O;obtain⟨r2,af,D⟩:=ae.cut w;obtain⟨A,Y,M⟩:=D.mk L;refine⟨A,?_,.v _ _ M⟩
    grind[eG,dZ,Ob.rows]
   grind
  .rename_i k xs j t u;split at B
   .rename_i o;obtain⟨rfl,rfl,rfl,rfl⟩:=o;cases B;obtain⟨k1,ad,n1,e,f,rfl⟩:=b.tH u;cases e;have:=n _ (by simp[SV.c_,SV.cu]) _ u
    simp only[cI,f,if_true]at this;obtain⟨_,h0,ah,ys,g,K,C⟩:=this;have q:=ah _ _ rfl;have:=C j _ _ (ζd q) (ζd Za)
    simp only[mQ,if_true]at this;obtain⟨v,e1,e2,e3⟩:=this;exact⟨v,by simp[eG,dZ,g,Ob.rows,h0,K,q,e1,cut,mk],e3⟩
   grind
  grind
 .
  rename_i size agg p;obtain⟨W,_,rfl,b,J⟩:=h.inv;rw[J.cF];obtain⟨z,O,rfl⟩:=ζf.1 B;obtain⟨r1,w,L⟩:=ζg.1 O;unfold dZ at w;split at w
  .rename_i cs;rcases b.fr.lB with rfl|⟨id,el,off,es,ys,ap,rfl,M,g,he,aq,C⟩
   .refine⟨z,by grind[eG,dZ],.v _ _ (.same _ ?_)⟩
    have ai:=by have:=b.fr.good;simpa[V.good]using this
    obtain⟨r',ar,D⟩:=(cV.same (H:=H) (Z:=Z) ai).cut w;obtain⟨A,Y,G⟩:=D.mk L;exact G.good
   obtain⟨r2,af,D⟩:=C.cut w;obtain⟨A,Y,G⟩:=D.mk L;refine⟨A,?_,.v _ _ G⟩
   grind[bk,eG,dZ,cut]
  all_goals grind
 .
  rename_i kk z ok d k;obtain⟨W,_,rfl,b,J⟩:=h.inv;obtain⟨N,_,rfl,E,F⟩:=J.inv;rw[F.cF];split at B
  .rename_i Q u;split at B
   .rename_i f;obtain⟨_,e,rfl⟩:=b.BQ u;have S:=E.fr.scalar.1 (uk f);subst S;obtain⟨ak,g,aj⟩:=n _ (by simp[SV.c_,SV.cu]) _ u
    obtain⟨f1,f2⟩:=AI aj;split at B
    .rename_i j v C;obtain⟨P,au,R⟩:=f2 j v C;simp at B;subst B;refine⟨if ok=true then .tup [P,.bool true]else P,by grind[eG,l_],?_⟩
     cases ok
     .exact .v _ _ R
     refine .v _ _ (.tup _ _ rfl (cV.cons R (.cons (.same _ rfl) .nil)).2)
    .rename_i C;simp at B;subst B;refine⟨if ok=true then .tup [z,.bool false]else z,by grind[eG,l_],?_⟩
     have O:=U kk z ok rfl;cases ok
     .exact .v _ _ (.same _ O)
     exact .v _ _ (.same _ (by grind[V.good,V.cB]))
    grind
   grind
  grind
 .
  rename_i kk z ok p k;obtain⟨W,_,rfl,b,J⟩:=h.inv;obtain⟨N,_,rfl,E,F⟩:=J.inv;rw[F.cF];obtain⟨x,I,rfl⟩:=ζf.1 B;simp[eG]at I;have O:=U kk z ok rfl;split at I
  .rename_i Q T;have key:l_ H W=some Q/\V.rN Q=true:=by
    unfold l_ at T;split at T
    .rw[b.fr.f_];simp at T;subst T;exact⟨rfl,rfl⟩
    .rw[b.fr.fmap];simp at T;subst T;exact⟨rfl,by have:=b.fr.good;grind[V.good]⟩
    all_goals grind
   split at I
   .rename_i f;have S:=E.fr.scalar.1 (uk f);subst S;split at I
    .rename_i j v C;simp at I;subst I;have hv:=by
      have:∀{l:aX (V×V)}{i:Nat},V.rN l=true->ig N l i=some (some (j,v))->v.good=true:=by intro l;induction l with|nil=>grind[ig]|cons p l ih=>intro i hg h;simp[V.rN]at hg;simp[ig]at h;grind
      exact this key.2 C
     refine⟨if ok=true then .tup [v,.bool true]else v,by grind[eG],?_⟩
     cases ok
     .exact .v _ _ (.same _ hv)
     exact .v _ _ (.same _ (by grind[V.good,V.cB]))
    .rename_i C;simp at I;subst I;refine⟨if ok=true then .tup [z,.bool false]else z,by grind[eG],?_⟩
     cases ok
     .exact .v _ _ (.same _ O)
     exact .v _ _ (.same _ (by grind[V.good,V.cB]))
    simp at I
   simp at I
  simp at I
 all_goals grind
end
section
variable{Rv:Nat->Prop}{ν ν':Nu}{Z Z':Nat->Prop}{st st':St}{m m':Tb bq}{F F':Zo}{H H':bh}
def qu{k:Fl}{xs:Zt}{h:aY (Nat×Nat)}{i:Nat}(B:(bq.dp k xs h).pt (i+1)=true):(∀t,h≠some (i,t))/\∃es D,xs[i]?=some [.fsl es D]:=by simp only[bq.pt,ζh]at B;have⟨a,u⟩:=B;refine⟨λt e=>?_,?_⟩;subst e;simp at a;split at u;exact⟨_,_,by assumption⟩;cases u
def mQ.out{d i:Nat}{h:aY (Nat×Nat)}{x y:Zu}(B:∀t,h≠some (i,t)):mQ ν m H Z d h i x y↔tE ν H Z d i x y:=by unfold mQ;split;rename_i j t;have:j≠i:=λe=>B t (by rw[e]);rw[if_neg this];rfl
def cI.at{d:Nat}{ob:bq}(o:cI ν m H Z d ob){j:Nat}(h:ob.pt j=true):∃x,H[ν.at d j]?=some x:=by
 cases j with
 |zero=>have h:dJ ob=true:=h;cases ob with|sl k es z=>simp only[dJ]at h;simp only[cI,h,if_true]at o;exact⟨_,o.choose_spec.1⟩|box J=>have⟨es,C,a,_⟩:=o;exact⟨_,a⟩|mp D=>have⟨B,a,_⟩:=o;exact⟨_,a⟩|dp k z w=>simp only[dJ]at h;simp only[cI,h,if_true]at o;have⟨_,_,_,G,a,_⟩:=o;exact⟨_,a⟩
 |succ i=>
  cases ob with
  |dp k z w=>have⟨b,es,L,u⟩:=qu h;simp only[cI]at o;split at o;have⟨_,_,_,G,a,O,I⟩:=o;have Q:=(ζe.1 u).1;have:=(mQ.out b).1 (I i _ _ u (ζd Za));rcases this with⟨_,h|h⟩|⟨_,_,S,_,_,h,_⟩;cases h;cases h;exact⟨_,h⟩;rw[o.1]at u;cases u
  |_=>simp[bq.pt]at h
def cI.free{d:Nat}{ob:bq}(o:cI ν m H Z d ob){j:Nat}(h:ob.pt j=true):H[ν.at d j]?≠some .free:=by
 cases j with
 |zero=>have h:dJ ob=true:=h;show H[(ν d).1]?≠_;cases ob with|sl k es z=>simp only[dJ]at h;simp only[cI,h,if_true]at o;have⟨B,a,_⟩:=o;rw[a];simp|box J=>have⟨es,D,a,_⟩:=o;rw[a];simp|mp G=>have⟨C,a,_⟩:=o;rw[a];simp|dp k z w=>simp only[dJ]at h;simp only[cI,h,if_true]at o;have⟨_,_,_,B,a,_⟩:=o;rw[a];simp
 |succ i=>
  cases ob with
  |dp k z w=>have⟨b,es,L,u⟩:=qu h;simp only[cI]at o;split at o;have⟨_,_,_,B,a,O,I⟩:=o;have Q:=(ζe.1 u).1;rcases(mQ.out b).1 (I i _ _ u (ζd Za))with⟨_,h|h⟩|⟨_,_,S,_,_,h,_⟩;cases h;cases h;show H[ν.inn d i]?≠_;rw[h];simp;rw[o.1]at u;cases u
  |_=>simp[bq.pt]at h
def R.lt(r:R ν Z st F H){id:Nat}(h:eB ν st.m id):id<H.length:=by obtain⟨d,ob,j,a,u,rfl⟩:=h;have⟨o,w⟩:=(r.obj d ob a).at u;exact(ζe.1 w).1
def R.tv(r:R ν Z st F H){id:Nat}(h:Z id):id<H.length:=by have:=r.zrow id h;unfold bk at this;have⟨x,u⟩:=isSome_iff_exists.1 this;have⟨ob,a,_⟩:=ζg.1 u;exact(ζe.1 a).1
def Deep.mono(d:Deep H Z)(h:∀id,Z id->bk H' id=bk H id):Deep H' Z where
 row:=λid es z w hr c hc u hu=>by rw[h id w]at hr;have⟨x,B⟩:=d.row id es z w hr c hc u hu;exact⟨x,B.mono λk a=>⟨a,h k a⟩⟩
def s9.mono{ys:Zt}(h:∀id,Z id->Z' id/\bk H' id=bk H id)(s:s9 H Z ys):s9 H' Z' ys:=λc a u b=>by have⟨x,w⟩:=s c a u b;exact⟨x,w.mono h⟩
def A3.mono{a b:aX (V×V)}(h:∀id,Z id->Z' id/\bk H' id=bk H id)(s:A3 H Z a b):A3 H' Z' a b:=⟨s.1,λj u v c d=>⟨(s.2 j u v c d).1,(s.2 j u v c d).2.mono h⟩⟩
def cI.mono{d J:Nat}{ob:bq}(B:∀id,Z id->Z' id/\bk H' id=bk H id)(O:ν' J=ν d)(D:∀j,ob.pt j=true->H'[ν.at d j]?=H[ν.at d j]?)
 (U:∀e,ob.cu e=true->∀ob',bg m' e=some ob'->∃ob,bg m e=some ob/\ν' e=ν e/\sameShape ob ob')(o:cI ν m H Z d ob)(W:ν'.inn J=ν.inn d:=by rfl):cI ν' m' H' Z' J ob:=by
 cases ob with
 |sl k es Y=>
  simp only[cI,O]at o⊢;split
  next a=>rw[if_pos a]at o;have⟨I,b,u,C,L,Q⟩:=o;exact⟨I,(D 0 (by simpa[bq.pt,dJ]using a)).trans b,u,C.mono B,L.mono B,Q⟩
  rename_i a;rw[if_neg a]at o;exact o
 |box cs=>have⟨es,S,b,u,C⟩:=o;exact⟨es,S,by rw[O];exact(D 0 rfl).trans b,u.mono B U,C⟩|mp aa=>have⟨G,b,u⟩:=o;exact⟨G,by rw[O];exact(D 0 rfl).trans b,u.mono B⟩|dp k Y w=>
  simp only[cI,O]at o⊢;split
  .rename_i a;rw[if_pos a]at o;have⟨c,b,u,I,C,L,Q⟩:=o;refine⟨c,b,u,I,(D 0 a).trans C,L,λi x y X f=>?_⟩
   have g:(∀t,w≠some (i,t))->tE ν H Z d i x y->tE ν' H' Z' J i x y:=λz h=>by rcases h with h|⟨es,l,n,rfl,rfl,e1,e2⟩;exact .inl h;refine .inr ⟨es,l,n,rfl,by rw[W],?_,e2.mono B⟩;rw[W];have:=D (i+1) (by simp only[bq.pt,X,Bool.and_true];split<;>grind);simp only[Nu.at]at this;rw[this];exact e1
   have T:=Q i x y X f
   by_cases z:∃t,w=some (i,t)
   .obtain⟨t,rfl⟩:=z;simp only[mQ,if_true]at T⊢;have⟨v,e1,e2,e3⟩:=T;exact⟨v,e1,e2,e3.mono B λe p=>U e (by simpa[SV.cu,bq.cu]using p)⟩
   have z:∀t,w≠some (i,t):=λt e=>z ⟨t,e⟩
   exact(mQ.out z).2 (g z ((mQ.out z).1 T))
  rename_i a;rw[if_neg a]at o;exact o
def iC(ν:Nu)(m:Tb bq)(e:Nat):∀ob',bg m e=some ob'->∃ob,bg m e=some ob/\ν e=ν e/\sameShape ob ob':=λob' h=>⟨ob',h,rfl,.refl _⟩
def R.heap(r:R ν Z st F H)(D:∀id,eB ν st.m id->H'[id]?=H[id]?)(B:∀id,Z id->bk H' id=bk H id):R ν Z st F H' where
 slot:=λs w z=>(r.slot s w z).mono (λid h=>⟨h,B id h⟩) λd _=>iC ν st.m d
 obj:=λd ob u=>cI.mono (λid h=>⟨h,B id h⟩) rfl (λj C=>D _ ⟨d,ob,j,u,C,rfl⟩) (λe _=>iC ν st.m e) (r.obj d ob u)
 inj:=r.inj
 apart:=r.apart
 zrow:=λid h=>by rw[B id h];exact r.zrow id h
 deep:=r.deep.mono B
def R.put(r:R ν Z st F H){d:Nat}{sv:SV}{y:V}(h:cG ν st.m H Z sv y):R ν Z {st with g:=bu st.g d sv} (set F d y) H where
 slot:=λs x u=>by by_cases e:d=s;subst e;rw[bX]at u;cases u;rw[rz];exact h;rw[cA st.g sv e]at u;rw[iQ _ _ e];exact r.slot s x u
 obj:=r.obj
 inj:=r.inj
 apart:=r.apart
 zrow:=r.zrow
 deep:=r.deep
def Ev.slots(g:Tb SV):Ev Rv ν Z st H ν Z {st with g:=g} H:=⟨le_refl _,λ_ _ _ _ _=>rfl,λ_ h=>⟨h,rfl⟩,λ_ h=>.inl h,λ_ h=>.inl h,λ_ _ u h=>⟨u,h,rfl,.refl _⟩,rfl⟩
def gW(ν:Nu)(d:Nat)(p:Nat×Nat):Nu:=⟨λk=>if k=d then p else ν k,ν.inn⟩
theorem iD(ν:Nu)(d:Nat)(p:Nat×Nat):gW ν d p d=p:=if_pos rfl
def Cm(ν:Nu){d k:Nat}(p:Nat×Nat)(h:k≠d):gW ν d p k=ν k:=if_neg h
def Is(ν:Nu){d k:Nat}(p:Nat×Nat)(h:k≠d)(j:Nat):(gW ν d p).at k j=ν.at k j:=by cases j with|zero=>simp only[Nu.at,Cm ν p h]|succ i=>rfl
def bq.flat(ob:bq):Prop:=∀j,ob.pt j=true->j=0
def iV{ob:bq}(h:∀k xs w,ob≠.dp k xs w):ob.flat:=λj u=>by cases j with|zero=>rfl|succ i=>cases ob<;>simp[bq.pt]at u h
def jL{d:Nat}(h:st.new d=true):d∉st.pin/\bg st.m d=none/\sS d st.g=false/\rG d st.m=false:=by unfold St.new at h;simp only[ζh,not_eq_true',Option.isNone_iff_eq_none,List.contains_eq_mem,decide_eq_false_iff_not]at h;exact⟨h.1.1.1,h.1.1.2,h.1.2,h.2⟩
def wj{d:Nat}{ob:bq}{p:Nat×Nat}{e:Nat}(h:e≠d):∀ob',bg (bu m d ob) e=some ob'->∃ob,bg m e=some ob/\gW ν d p e=ν e/\sameShape ob ob':=λob' u=>by rw[cA m ob (Ne.symm h)]at u;exact⟨ob',u,Cm ν p h,.refl _⟩
def lW{ob ob':bq}(D:dJ ob'=dJ ob)(B:ob'.flat:=by exact iV Zc):∀j,ob'.pt j=true->ob.pt j=true:=λj h=>by have:=B j h;subst this;exact(show dJ ob=true from D▸h)
def iL(ν:Nu)(d:Nat)(p:Nat×Nat)(f:Nat->Nat):Nu:=⟨λk=>if k=d then p else ν k,λk=>if k=d then f else ν.inn k⟩
def qj(ν:Nu){d k:Nat}(p:Nat×Nat)(f:Nat->Nat)(h:k≠d)(j:Nat):(iL ν d p f).at k j=ν.at k j:=by cases j with|zero=>exact congrArg fst (if_neg h)|succ i=>exact congrFun (if_neg h) i
def lQ(ν:Nu)(d:Nat)(p:Nat×Nat)(f:Nat->Nat):(iL ν d p f) d=p/\(iL ν d p f).inn d=f:=⟨if_pos rfl,if_pos rfl⟩
def NX(ν:Nu)(d:Nat)(p:Nat×Nat):gW ν d p=iL ν d p (ν.inn d):=by
 have:(iL ν d p (ν.inn d)).inn=ν.inn:=funext λk=>by show(if k=d then ν.inn d else ν.inn k)=_;split;(next h=>rw[h]);rfl
 show(⟨_,ν.inn⟩:Nu)=⟨_,(iL ν d p (ν.inn d)).inn⟩;rw[this]
def R.OJ(r:R ν Z st F H){d:Nat}{ob:bq}{p:Nat×Nat}{f:Nat->Nat}(l:bg st.m d=none)(W:sS d st.g=false)(Y:∀e o,bg st.m e=some o->o.cu d=true->cI (iL ν d p f) (bu st.m d ob) H Z e o)
 (O:∀j,ob.pt j=true->¬eB ν st.m ((iL ν d p f).at d j)/\¬Z ((iL ν d p f).at d j))(c:∀j T,ob.pt j=true->ob.pt T=true->(iL ν d p f).at d j=(iL ν d p f).at d T->j=T)(g:cI (iL ν d p f) (bu st.m d ob) H Z d ob):
 R (iL ν d p f) Z {st with m:=bu st.m d ob} F H:=by
 have key:∀w u,bg (bu st.m d ob) w=some u->w≠d->bg st.m w=some u:=λw u h e=>by rw[cA st.m ob (Ne.symm e)]at h;exact h
 have Q:∀e,e≠d->∀u,bg (bu st.m d ob) e=some u->∃ob,bg st.m e=some ob/\(iL ν d p f) e=ν e/\sameShape ob u:=λe D u h=>⟨u,key e u h D,if_neg D,.refl _⟩
 refine⟨λs X G=>?_,λw u J=>?_,?_,?_,r.zrow,r.deep⟩
 .refine(r.slot s X G).mono (λid h=>⟨h,rfl⟩) λe D=>Q e ?_
  rintro rfl;rw[wO W G]at D;cases D
 .by_cases e:w=d
  .subst e;simp only at J;rw[bX]at J;cases J;exact g
  have I:=key w u J e
  by_cases G:u.cu d=true
  .exact Y w u I G
  refine cI.mono (λid h=>⟨h,rfl⟩) (if_neg e) (λ_ _=>rfl) (λk i=>Q k ?_) (r.obj w u I) (if_neg e)
  rintro rfl;exact G i
 .intro b d2 o1 o2 S U a z B L C
  by_cases e1:b=d<;>by_cases e2:d2=d
  .subst e1;subst e2;simp only at a z;rw[bX]at a z;cases a;cases z;exact⟨rfl,c _ _ B L C⟩
  .subst e1;simp only at a;rw[bX]at a;cases a;rw[qj ν p f e2]at C;exact absurd ⟨d2,o2,U,key d2 o2 z e2,L,C.symm⟩ (O _ B).1
  .subst e2;simp only at z;rw[bX]at z;cases z;rw[qj ν p f e1]at C;exact absurd ⟨b,o1,S,key b o1 a e1,B,C⟩ (O _ L).1
  rw[qj ν p f e1,qj ν p f e2]at C;exact r.inj b d2 o1 o2 S U (key b o1 a e1) (key d2 o2 z e2) B L C
 intro b o1 j a B
 by_cases e1:b=d
 .subst e1;simp only at a;rw[bX]at a;cases a;exact(O _ B).2
 rw[qj ν p f e1];exact r.apart b o1 j (key b o1 a e1) B
def R.add(r:R ν Z st F H){d:Nat}(G:st.new d=true){ob:bq}{p:Nat×Nat}(J:dJ ob=true->¬eB ν st.m p.1/\¬Z p.1)(D:cI (gW ν d p) (bu st.m d ob) H Z d ob)(B:ob.flat:=by exact iV Zc):
 R (gW ν d p) Z {st with m:=bu st.m d ob} F H:=by
 have⟨_,w,z,C⟩:=jL G;rw[NX]at D⊢;refine r.OJ w z (λe o h u=>?_) (λj h=>?_) (λj L h I _=>by rw[B _ h,B _ I]) D
 .rw[qn C h]at u;cases u
 have:=B _ h;subst this;simp only[Nu.at,lQ];exact J h
def Fx{d:Nat}{ob:bq}{p:Nat×Nat}{f:Nat->Nat}{id:Nat}(h:eB (iL ν d p f) (bu m d ob) id):eB ν m id\/∃j,ob.pt j=true/\(iL ν d p f).at d j=id:=by have⟨k,o,j,a,w,u⟩:=h;by_cases e:k=d;subst e;rw[bX]at a;cases a;exact .inr ⟨j,w,u⟩;rw[qj ν p f e]at u;rw[cA m ob (Ne.symm e)]at a;exact .inl ⟨k,o,j,a,w,u⟩
def CT{d:Nat}{ob:bq}{p:Nat×Nat}{id:Nat}(h:eB (gW ν d p) (bu m d ob) id)(B:ob.flat:=by exact iV Zc):eB ν m id\/(dJ ob=true/\id=p.1):=by have⟨k,o,j,a,w,u⟩:=h;by_cases e:k=d;subst e;rw[bX]at a;cases a;have:=B _ w;subst this;simp only[Nu.at,iD]at u;exact .inr ⟨w,u.symm⟩;rw[Is ν p e]at u;rw[cA m ob (Ne.symm e)]at a;exact .inl ⟨k,o,j,a,w,u⟩
def Ev.add{d:Nat}(D:st.new d=true){ob:bq}{p:Nat×Nat}(G:H.length<=H'.length)(J:∀id,id<H.length->¬Rv id->H'[id]?=H[id]?)(O:∀id,Z id->bk H' id=bk H id)
 (T:dJ ob=true->Rv p.1\/H.length<=p.1)(B:ob.flat:=by exact iV Zc):Ev Rv ν Z st H (gW ν d p) Z {st with m:=bu st.m d ob} H' where
 len:=G
 same:=λid h _ _ hr=>J id h hr
 rows:=λid h=>⟨h,O id h⟩
 own:=λid h=>by rcases CT h B with h|⟨a,rfl⟩;exact .inl h;exact .inr (T a)
 frz:=λid h=>.inl h
 pin:=λe w u h=>by have:e≠d:=(by rintro rfl;exact(jL D).1 w);exact wj this u h
 pins:=rfl
def R.CE(r:R ν Z st F H){d:Nat}{ob ob':bq}(D:bg st.m d=some ob)(G:sameShape ob ob')(U:∀j,ob'.pt j=true->ob.pt j=true)(T:∀id,(dJ ob=true->id≠(ν d).1)->H'[id]?=H[id]?)
 (W:cI ν (bu st.m d ob') H' Z d ob'):R ν Z {st with m:=bu st.m d ob'} F H':=by
 have z:∀id,Z id->Z id/\bk H' id=bk H id:=λid h=>⟨h,by
  unfold bk;rw[T id (by rintro B rfl;exact r.apart d ob 0 D B h)]⟩
 have S:∀e u,bg (bu st.m d ob') e=some u->∃w,bg st.m e=some w/\ν e=ν e/\sameShape w u:=λe u h=>by by_cases k:e=d;subst k;rw[bX]at h;cases h;exact⟨ob,D,rfl,G⟩;rw[cA st.m ob' (Ne.symm k)]at h;exact⟨u,h,rfl,.refl _⟩
 have I:∀e u,bg (bu st.m d ob') e=some u->∃w,bg st.m e=some w/\∀j,u.pt j=true->w.pt j=true:=λe u h=>by by_cases k:e=d;subst k;rw[bX]at h;cases h;exact⟨ob,D,U⟩;rw[cA st.m ob' (Ne.symm k)]at h;exact⟨u,h,λ_ h=>h⟩
 refine⟨λs X G=>(r.slot s X G).mono z λe _=>S e,λJ u C=>?_,?_,?_,λid h=>by rw[(z id h).2];exact r.zrow id h,r.deep.mono λid h=>(z id h).2⟩
 .by_cases e:J=d
  .subst e;simp only at C;rw[bX]at C;cases C;exact W
  simp only at C;rw[cA st.m ob' (Ne.symm e)]at C;refine cI.mono z rfl (λj L=>T _ λB h=>e (r.inj J d u ob j 0 C D L B h).1) (λk _=>S k) (r.obj J u C)
 .intro a d2 o1 o2 Y j2 b h2 O b2 hp;have⟨p1,k1,Q⟩:=I a o1 b;have⟨p2,k2,c⟩:=I d2 o2 h2;exact r.inj a d2 p1 p2 Y j2 k1 k2 (Q _ O) (c _ b2) hp
 intro a o1 j b O;have⟨p1,k1,Q⟩:=I a o1 b;exact r.apart a p1 j k1 (Q _ O)
def Ev.CE(r:R ν Z st F H){d:Nat}{ob ob':bq}(B:bg st.m d=some ob)(G:sameShape ob ob')(J:∀j,ob'.pt j=true->ob.pt j=true)(D:∀id,(dJ ob=true->id≠(ν d).1)->H'[id]?=H[id]?)(O:H.length<=H'.length):
 Ev Rv ν Z st H ν Z {st with m:=bu st.m d ob'} H' where
 len:=O
 same:=λid _ I _ _=>D id λu e=>I ⟨d,ob,0,B,u,e.symm⟩
 rows:=λid h=>⟨h,by unfold bk;rw[D id (by rintro u rfl;exact r.apart d ob 0 B u h)]⟩
 own:=λid⟨k,o,j,h1,z,C⟩=>by by_cases e:k=d;subst e;simp only at h1;rw[bX]at h1;cases h1;exact .inl ⟨k,ob,j,B,J _ z,C⟩;simp only at h1;rw[cA st.m ob' (Ne.symm e)]at h1;exact .inl ⟨k,o,j,h1,z,C⟩
 frz:=λid h=>.inl h
 pin:=λe _ w h=>by by_cases k:e=d;subst k;simp only at h;rw[bX]at h;cases h;exact⟨ob,B,rfl,G⟩;simp only at h;rw[cA st.m ob' (Ne.symm k)]at h;exact⟨w,h,rfl,.refl _⟩
 pins:=rfl
def R.fZ(r:R ν Z st F H){d:Nat}{ob ob':bq}(D:bg st.m d=some ob)(G:sameShape ob ob')(J:∀j,ob'.pt j=true->ob.pt j=true)(O:∀id,id≠(ν d).1->H'[id]?=H[id]?)(B:dJ ob=true)(T:cI ν (bu st.m d ob') H' Z d ob'):R ν Z {st with m:=bu st.m d ob'} F H':=r.CE D G J (λid h=>O id (h B)) T
def Ev.fZ(r:R ν Z st F H){d:Nat}{ob ob':bq}(D:bg st.m d=some ob)(G:sameShape ob ob')(J:∀j,ob'.pt j=true->ob.pt j=true)(O:∀id,id≠(ν d).1->H'[id]?=H[id]?)(B:dJ ob=true)(T:H.length<=H'.length):Ev Rv ν Z st H ν Z {st with m:=bu st.m d ob'} H':=Ev.CE r D G J (λid h=>O id (h B)) T
def R.less(r:R ν Z st F H){g:Tb SV}{m':Tb bq}(a:∀s sv,bg g s=some sv->bg st.g s=some sv)(B:∀d ob,bg m' d=some ob->bg st.m d=some ob):R ν Z {st with g:=g,m:=m'} F H where
 slot:=λs sv z=>(r.slot s sv (a s sv z)).mono (λid h=>⟨h,rfl⟩) λe _ u h=>⟨u,B e u h,rfl,.refl _⟩
 obj:=λd ob C=>cI.mono (λid h=>⟨h,rfl⟩) rfl (λ_ _=>rfl) (λe _ u h=>⟨u,B e u h,rfl,.refl _⟩) (r.obj d ob (B d ob C))
 inj:=λd w ob u j D b G=>r.inj d w ob u j D (B d ob b) (B w u G)
 apart:=λd ob j h=>r.apart d ob j (B d ob h)
 zrow:=r.zrow
 deep:=r.deep
def Ev.less{g:Tb SV}{m':Tb bq}(B:∀d ob,bg m' d=some ob->bg st.m d=some ob):Ev Rv ν Z st H ν Z {st with g:=g,m:=m'} H:=⟨le_refl _,λ_ _ _ _ _=>rfl,λ_ h=>⟨h,rfl⟩,λ_⟨d,ob,j,a,w,z⟩=>.inl ⟨d,ob,j,B d ob a,w,z⟩,λ_ h=>.inl h,λe _ u h=>⟨u,B e u h,rfl,.refl _⟩,rfl⟩
def Ev.heap(B:H.length<=H'.length)(D:∀id,id<H.length->¬eB ν st.m id->¬Z id->¬Rv id->H'[id]?=H[id]?)(G:∀id,Z id->bk H' id=bk H id):Ev Rv ν Z st H ν Z st H':=⟨B,D,λid h=>⟨h,G id h⟩,λ_ h=>.inl h,λ_ h=>.inl h,λ_ _ u h=>⟨u,h,rfl,.refl _⟩,rfl⟩
def eX.wR{xs ys:Zt}(h:eX H Z xs ys):s9 H Z ys:=λc b u d=>by
 have⟨i,z⟩:=mem_iff_getElem?.1 b;have B:i<xs.length:=by rw[h.1];grind
 have a:=h.2 i _ c (ζd B) z;have⟨j,C⟩:=mem_iff_getElem?.1 d;have w:j<(xs[i]).length:=by rw[a.1];grind
 exact⟨_,a.2 j _ u (ζd w) C⟩
theorem eX.same{xs:Zt}(h:V.l9 xs=true):eX H Z xs xs:=⟨rfl,λj u v a b=>by rw[a]at b;grind[cV.same,jP]⟩
def nk{z:Zu}(h:V.cB z=true):∀n,V.l9 (replicate n z)=true
 |0=>rfl|n+1=>by simp[List.replicate_succ,V.l9,h,nk h n]
def zU{es:Nat}:∀{ps qs:aX (Nat×V)}{xs B r:Zt},eX H Z xs B->ps.map (·.1)=qs.map (·.1)->cV H Z (ps.map (·.2)) (qs.map (·.2))->eR es xs ps=some r->∃G,eR es B qs=some G/\eX H Z r G
 |[],qs,xs,B,r,D,a,J,h=>by simp_all[eR]|(i,v)::ps,qs,xs,B,r,D,a,J,h=>by cases qs with|nil=>simp_all|cons q qs=>obtain⟨j,w⟩:=q;simp at a;obtain⟨e,a⟩:=a;subst e;obtain⟨w',C,e,u,z⟩:=J.inv;obtain⟨rfl,rfl⟩:=e;have b:=u.cells;simp only[eR]at h⊢;split at h;rw[if_pos ⟨by rw[<-b.1];grind,by rw[<-D.1];grind,by rw[b.one];grind⟩];exact zU (D.set i b) a z h;grind
def zip_fst:∀{idx:Zv}{xs:Zu},idx.length=xs.length->(idx.zip xs).map (·.1)=idx
 |[],xs,_=>Zc|i::idx,[],h=>Ze|i::idx,x::xs,h=>by simp[zip_fst (idx:=idx) (xs:=xs) Zd]
def CY:∀{idx:Zv}{xs:Zu},idx.length=xs.length->(idx.zip xs).map (·.2)=xs
 |[],[],_=>Zc|[],x::xs,h=>Ze|i::idx,[],h=>Ze|i::idx,x::xs,h=>by simp[CY (idx:=idx) (xs:=xs) Zd]
def LQ{a:L5}{svs:Zw}{ys:Zu}{d:Nat}{ob:bq}{sv:SV}(b:zp (.a a)=true)(r:bT ν m H Z svs ys)(h:mU m a svs d=some (ob,sv)):
 ∃o mk,kJ a ys=some (o,mk)/\dJ ob=true/\ob.flat/\o≠.free/\∀(id:Nat)(ν':Nu)(m':Tb bq)(H':bh),ν' d=(id,0)->bg m' d=some ob->H'[id]?=some o->(∀k,Z k->bk H' k=bk H k)->
  (∀e,SV.c_ e svs=true->∀ob',bg m' e=some ob'->∃ob,bg m e=some ob/\ν' e=ν e/\sameShape ob ob')->cI ν' m' H' Z d ob/\cG ν' m' H' Z sv (mk.val id):=by
 unfold mU at h;split at h
 .
  rename_i size zero;obtain⟨rfl,rfl⟩:=h;rw[r.cF];simp only[zp,ζh]at b;refine⟨_,_,rfl,rfl,iV Zc,Zc,λid ν' m' H' e1 e2 e3 e4 e5=>⟨⟨_,zero,by rw[e1];omega,bT.qc (cV.same b.1),b.2⟩,?_⟩⟩
  exact .ptr _ _ _ λob' u=>by rw[e2]at u;cases u;exact⟨_,rfl,by rw[e1];rfl⟩
 .
  split at h
  .rename_i C;obtain⟨rfl,rfl⟩:=h;obtain⟨y,_,rfl,f,B⟩:=r.inv;rw[B.cF];have l:=f.fr.cells;refine⟨.row y.cells.length [y.cells],.ptr,by simp[kJ,l.one,C],rfl,iV Zc,Zc,λid ν' m' H' e1 e2 e3 e4 e5=>⟨⟨_,y.cells,by rw[e1];omega,bT.qc (l.mono λk b=>⟨b,e4 k b⟩),by rw[l.one];simp_all⟩,?_⟩⟩
   exact .ptr _ _ _ λob' u=>by rw[e2]at u;cases u;exact⟨_,rfl,by rw[e1];rfl⟩
  grind
 .
  split at h
  .rename_i w;obtain⟨rfl,rfl⟩:=h;obtain⟨y,_,rfl,f,B⟩:=r.inv;rw[B.cF];obtain⟨Q,rfl,W⟩:=f.h_;have D:=D3 w W;refine⟨.row Q.length [Q],.ptr,by grind[kJ,V.cells],rfl,iV Zc,Zc,λid ν' m' H' e1 e2 e3 e4 e5=>⟨⟨_,Q,by rw[e1];omega,W.mono (λk b=>⟨b,e4 k b⟩) λe S=>e5 e (by grind[SV.c_,SV.cu]),D⟩,?_⟩⟩
   exact .ptr _ _ _ λob' u=>by rw[e2]at u;cases u;exact⟨_,rfl,by rw[e1];rfl⟩
  grind
 .
  split at h
  .rename_i w;obtain⟨rfl,rfl⟩:=h;obtain⟨y,_,rfl,f,B⟩:=r.inv;rw[B.cF];obtain⟨X,D⟩:=jh w f;refine⟨.row [y].length [[y]],.ptr,by grind[kJ],rfl,iV Zc,Zc,λid ν' m' H' e1 e2 e3 e4 e5=>⟨⟨_,[y],by rw[e1];omega,.cons (f.mono (λk b=>⟨b,e4 k b⟩) λe S=>e5 e (by grind[SV.c_])) .nil,Ze⟩,?_⟩⟩
   exact .ptr _ _ _ λob' u=>by rw[e2]at u;cases u;exact⟨_,rfl,by rw[e1];rfl⟩
  grind
 .
  rename_i size zero k n F c;obtain⟨_,_,rfl,f,B⟩:=r.inv;obtain⟨_,_,rfl,q,s⟩:=B.inv;rw[f.fr.int,q.fr.int,s.cF];split at h
  .rename_i l;obtain⟨rfl,rfl⟩:=h;have T:bN (if n=c then Fl.row else Fl.part)=true:=by split<;>rfl
   refine⟨_,_,by simp only[kJ];rw[if_pos l],T,iV Zc,Zc,λid ν' m' H' e1 e2 e3 e4 e5=>⟨?_,?_⟩⟩
   .simp[cI,T,e1];have v:=nk b c.toNat;have U:n.toNat<=c.toNat:=by omega
    refine⟨_,e3,Ze,?_,(eX.same v).wR,λe=>?_⟩
    .simp[Nat.min_eq_left U];exact eX.same (nk b _)
    grind
   refine .own _ _ λob' u=>?_
   rw[e2]at u;cases u;exact⟨_,_,_,rfl,by rw[mN T,e1];simp[Mk.val]⟩
  grind
 .
  rename_i vs size len zero idx;split at h
  .rename_i xs G;split at h
   .rename_i w;obtain⟨rows,A,e⟩:=ζf.1 h;obtain⟨rfl,rfl⟩:=e;have O:=r.dh G;obtain⟨g,I,z⟩:=zU (qs:=idx.zip ys) (eX.same (nk b len)) (by rw[zip_fst w,zip_fst (by rw[<-O.1];exact w)]) (by rw[CY w,CY (by rw[<-O.1];exact w)];exact O) A
    have J:g.length=len:=by have:∀{ps:aX (Nat×V)}{a r:Zt},eR size a ps=some r->r.length=a.length:=(by intro ps;induction ps with|nil=>grind[eR]|cons p ps ih=>grind[eR]);rw[this I];simp
    refine⟨.row size g,.sl size len,by simp only[kJ];rw[if_pos (by rw[<-O.1];exact w),I];rfl,rfl,iV Zc,Zc,λid ν' m' H' e1 e2 e3 e4 e5=>⟨?_,?_⟩⟩
    .have L:=z.mono λk b=>⟨b,e4 k b⟩
     simp only[cI,e1];refine⟨_,e3,by simp[z.1],?_,L.wR,λ_=>⟨trivial,z.1.symm⟩⟩
     simp[z.1];exact L
    refine .own _ _ λob' u=>?_
    rw[e2]at u;cases u;exact⟨_,_,_,rfl,by rw[z.1,J];grind[mM,Mk.val]⟩
   grind
  split at h
  .rename_i t _;split at h
   .rename_i l;obtain⟨rfl,rfl,rfl,w⟩:=l;obtain⟨rfl,rfl⟩:=h;obtain⟨y,_,rfl,f,B⟩:=r.inv;rw[B.cF];obtain⟨X,D⟩:=jh (x:=.own t) w f;refine⟨.row 1 [[y]],.sl 1 1,by simp[kJ,eR,X,D],rfl,λj E=>?_,Zc,λid ν' m' H' e1 e2 e3 e4 e5=>⟨?_,?_⟩⟩
    .cases j with
     |zero=>rfl|succ i=>cases i<;>simp[bq.pt]at E
    .simp only[cI,bN,if_true,e1];refine⟨trivial,trivial,λi K e=>by cases e;simp,_,e3,rfl,λi x M G Y=>?_⟩
     cases i with
     |zero=>simp at G Y;subst G;subst Y;simp only[mQ,if_true];exact⟨y,rfl,D,f.mono (λk b=>⟨b,e4 k b⟩) λe S=>e5 e (by simp[SV.c_,S])⟩|succ i=>simp at G
    refine .own _ _ λob' u=>?_
    rw[e2]at u;cases u;exact⟨_,_,_,rfl,by simp[mM,e1,Mk.val]⟩
   cases h
  cases h
 .
  obtain⟨rfl,rfl⟩:=h;rw[r.cF];refine⟨_,_,rfl,rfl,iV Zc,Zc,λid ν' m' H' e1 e2 e3 e4 e5=>⟨⟨_,by rw[e1];exact e3,rfl,Zc⟩,?_⟩⟩
  exact .mp _ _ λob' u=>by rw[e2]at u;cases u;exact⟨_,rfl,by rw[e1];rfl⟩
 grind
def bT.SC{cs:Zw}{B:Zu}(h:bT ν m H Z cs B){size o:Nat}{x:SV}{y:V}{r:Zw}(J:cG ν m H Z x y)(D:putCells m size o x cs=some r)(G:B.all V.one=true):
 y.cells.length=size/\o+size<=B.length/\y.cells.all V.one=true/\bT ν m H Z r (B.take o++y.cells++B.drop (o+y.cells.length))/\(B.take o++y.cells++B.drop (o+y.cells.length)).all V.one=true:=by
 have u:∀k:Nat,(B.take k).all V.one=true/\(B.drop k).all V.one=true:=λk=>⟨all_eq_true.2 λz C=>all_eq_true.1 G z (List.mem_of_mem_take C),all_eq_true.2 λz C=>all_eq_true.1 G z (List.mem_of_mem_drop C)⟩
 unfold putCells at D;split at D
 .split at D
  .rename_i hc;simp only[ζa]at D;subst D;have w:=J.fr.cells;refine⟨by rw[<-w.1];simp_all,by rw[<-h.1];grind,by rw[w.one];grind,?_,?_⟩
   .have e:y.cells.length=size:=by rw[<-w.1];simp_all
    rw[e];exact((h.take o).append (bT.qc w)).append (h.drop _)
   simp only[List.all_append,(u _).1,(u _).2,w.one,hc.2.2,Bool.and_self]
  grind
 .split at D
  .rename_i hc;simp only[ζa]at D;subst D;obtain⟨O,rfl,I⟩:=J.h_;have Q:=D3 hc.2.2 I
   grind[bT,V.cells]
  grind
 split at D
 .rename_i hc;simp only[ζa]at D;subst D;have⟨L,S⟩:=jh hc.1 J;rw[L];refine⟨by simp[hc.2.1],by rw[<-h.1];grind,Ze,?_,?_⟩
  .exact((h.take o).append (.cons J .nil)).append (h.drop _)
  grind
 grind
def tg{size:Nat}{x:SV}{y:V}{xs:Zt}(r:cG ν m H Z x y)(B:∀d ob,bg m d=some ob->cI ν m H Z d ob)(h:gV m size x=some xs):∃ys,dg H size y=some ys/\eX H Z xs ys:=by
 unfold gV at h;split at h;split at h;rename_i k es w u;obtain⟨_,_,_,e,rfl⟩:=r.gb u;cases e;have o:=B _ _ u;simp[cI]at o;split at h;rename_i a;rw[if_pos a]at o;split at h;rename_i z;simp at h;subst h;have⟨ys,b,C,D,_⟩:=o;rw[mN a];grind[dg,Ob.rows];grind;rename_i a;simp at h;subst h;refine⟨[],?_,rfl,Zc⟩;cases k<;>simp[bN]at a<;>rfl;grind;simp at h;subst h;rw[r.fr.bD];exact⟨[],rfl,rfl,Zc⟩;simp at h;subst h;rw[r.fr.c7];exact⟨[],rfl,rfl,Zc⟩
 .split at h
  .rename_i es w z;simp at h;subst h;have c:=r.fr.good;rcases r.fr.kW with rfl|⟨id,off,ys,rfl,G,b,C,D⟩;all_goals simp_all[dg,eX.same,V.good,bk]
  grind
 grind
def Ev.re{m1:Tb bq}(D:∀d ob,bg m1 d=some ob->bg st.m d=some ob){d:Nat}(T:d∉st.pin){ob:bq}{p:Nat×Nat}(G:H.length<=H'.length)(J:∀id,id<H.length->¬eB ν st.m id->¬Rv id->H'[id]?=H[id]?)
 (O:∀id,Z id->bk H' id=bk H id)(U:dJ ob=true->eB ν st.m p.1\/Rv p.1\/H.length<=p.1)(B:ob.flat:=by exact iV Zc):Ev Rv ν Z st H (gW ν d p) Z {st with m:=bu m1 d ob} H' where
 len:=G
 same:=λid h C _ hr=>J id h C hr
 rows:=λid h=>⟨h,O id h⟩
 own:=λid h=>by rcases CT h B with h|⟨a,rfl⟩;have⟨k,o,j,a,w,z⟩:=h;exact .inl ⟨k,o,j,D k o a,w,z⟩;grind
 frz:=λid h=>.inl h
 pin:=λe I u h=>by have:e≠d:=Zd;have⟨o,a,w,z⟩:=wj (ν:=ν) (p:=p) this u h;grind
 pins:=rfl
def Kept(dst:aY Nat)(ν:Nu)(m:Tb bq)(ν':Nu)(m':Tb bq):Prop:=∀e u,dst≠some e->bg m' e=some u->∃ob,bg m e=some ob/\ν' e=ν e/\sameShape ob u/\∀j,u.pt j=true->ob.pt j=true/\ν'.at e j=ν.at e j
def Kept.refl{dst:aY Nat}:Kept dst ν m ν m:=λe u _ h=>⟨u,h,rfl,.refl _,λ_ h=>⟨h,rfl⟩⟩
def Kept.fZ{dst:aY Nat}{d:Nat}{ob ob':bq}(B:bg m d=some ob)(D:sameShape ob ob')(G:∀j,ob'.pt j=true->ob.pt j=true):Kept dst ν m ν (bu m d ob'):=λe u _ h=>by by_cases k:e=d;subst k;rw[bX]at h;cases h;exact⟨ob,B,rfl,D,λj h=>⟨G j h,rfl⟩⟩;rw[cA m ob' (Ne.symm k)]at h;exact⟨u,h,rfl,.refl _,λ_ h=>⟨h,rfl⟩⟩
def Kept.add{d:Nat}{ob:bq}{p:Nat×Nat}{m1:Tb bq}(B:∀d ob,bg m1 d=some ob->bg m d=some ob):Kept (some d) ν m (gW ν d p) (bu m1 d ob):=λe u w h=>by have:e≠d:=λh=>w (by rw[h]);have⟨o,a,z,D⟩:=wj (ν:=ν) (p:=p) this u h;rw[cA _ _ (Ne.symm this)]at h;exact⟨u,B e u h,z,.refl _,λj C=>⟨C,Is ν p this j⟩⟩
def jJ{d:Nat}:∀e ob,bg (cR d m) e=some ob->bg m e=some ob:=λ_ _ h=>(jY h).2
def A3.put{k x y:V}{a b r:aX (V×V)}(G:k.scalar=true)(h:A3 H Z a b)(O:FR H Z x y)(B:ox k x a=some r):∃D,ox k y b=some D/\A3 H Z r D:=by unfold ox at B;obtain⟨d,C⟩:=AI h;split at B;rename_i j v I;simp at B;subst B;obtain⟨Q,J,_⟩:=C j v I;refine⟨b.set j (k,y),by grind[ox],by simp[h.1],λi u w c z=>?_⟩;rw[getElem?_set]at c z;split at c;grind;rename_i e;rw[if_neg e]at z;exact h.2 i u w c z;simp at B;subst B;refine⟨b++[(k,y)],by grind[ox],by simp[h.1],λi u w c z=>?_⟩;by_cases L:i<a.length;rw[getElem?_append_left L]at c;rw[getElem?_append_left (by rw[<-h.1];omega)]at z;exact h.2 i u w c z;rw[getElem?_append_right (by rw[<-h.1];omega),<-h.1]at z;grind;grind
def HL(r:R ν Z st F H){d:Nat}{cs:Zw}(B:bg st.m d=some (.box cs)):∀{l:Zw}{D:Zu},bT ν st.m H Z l D->l.all (JA st.m d)=true->D.all (mO (ν d).1)=true:=by intro l;induction l with|nil=>intro D C _;rw[C.cF];rfl|cons a l O=>intro D C G;obtain⟨w,D,rfl,g1,g2⟩:=C.inv;simp only[List.all_cons,ζh]at G⊢;refine⟨?_,O g2 G.2⟩;have u:=G.1;unfold JA at u;split at u;rename_i Q T;simp at u;have⟨I,J⟩:=u;split at J;(next S z=>obtain⟨_,_,rfl⟩:=g1.nO z;simp[mO];exactλe=>I (r.inj Q d _ _ 0 0 z B rfl rfl e).1);grind;rcases FR.lB g1.fr with rfl|⟨id,el,off,_,_,_,rfl,L,_⟩;rfl;simp[mO];rintro rfl;exact r.apart d _ 0 B rfl L;grind
def FP{d:Nat}{k:Fl}{xs:Zt}(o:cI ν m H Z d (.dp k xs none)):∃rs,dg H 1 (mM (ν d) k 1 xs.length)=some rs/\rs.length=xs.length/\(bN k=true->(ν d).2=0/\H[(ν d).1]?=some (.row 1 rs))/\∀i x y,xs[i]?=some x->rs[i]?=some y->tE ν H Z d i x y:=by
 simp only[cI]at o;split at o;next a=>obtain⟨rfl,o2,-,rs,o3,u,w⟩:=o;exact⟨rs,by simp[mM,dg,o3,Ob.rows,o2,<-u],u,λ_=>⟨o2,o3⟩,w⟩
 rename_i a;obtain⟨rfl,-⟩:=o;exact⟨[],by cases k<;>first|rfl|exact absurd rfl a,rfl,λh=>absurd h a,λi x y h=>by simp at h⟩
def J2{d:Nat}{k:Fl}{xs:Zt}(o:cI ν m H Z d (.dp k xs none))(O:∀id,Z id->Z' id)(D:∀j,(bq.dp k xs none).pt j=true->Z' (ν.at d j)):
 FR H Z' (jC k 1 xs) (mM (ν d) k 1 xs.length)/\∀j,(bq.dp k xs none).pt j=true->∃es ys,H[ν.at d j]?=some (.row es ys)/\s9 H Z' ys:=by
 obtain⟨rs,-,G,a,I⟩:=FP o;have u:∀id,Z id->Z' id/\bk H id=bk H id:=λid h=>⟨O id h,rfl⟩
 have cells:eX H Z' xs rs:=⟨G.symm,λi x y w Q=>by
  rcases I i x y w Q with⟨rfl,h⟩|⟨es,J,z,rfl,rfl,b,B⟩
  .exact cV.same (by rcases h with rfl|rfl<;>rfl)
  have C:=B.1;refine .cons (FR.Bo (ys:=z) (D (i+1) (by simp[bq.pt,w])) (show bk H (ν.inn d i)=some (es,z)by unfold bk;rw[b];rfl) Za ?_) .nil
  rw[drop_zero,C,take_length];exact B.mono u⟩
 refine⟨?_,λj L=>?_⟩
 .by_cases hk:bN k=true
  .rw[mN hk,show jC k 1 xs=.fsl 1 xs from by cases k<;>simp[bN]at hk<;>rfl]
   refine FR.Bo (ys:=rs) (D 0 hk) (show bk H (ν d).1=some (1,rs)by unfold bk;rw[(a hk).2];rfl) (by rw[(a hk).1];omega) ?_
   rw[(a hk).1,drop_zero,<-G,take_length];exact cells
  cases k<;>simp[bN]at hk
  .exact .same _ rfl
  exact .same _ rfl
 cases j with
 |zero=>exact⟨1,rs,(a L).2,cells.wR⟩|succ i=>
  obtain⟨-,es,J,w⟩:=qu L;have S:=(ζe.1 w).1;rcases I i _ _ w (ζd Za)with⟨_,h|h⟩|⟨es,J,z,_,_,b,B⟩
  .cases h
  .cases h
  exact⟨es,z,b,(B.mono u).wR⟩
def QK(r:R ν Z st F H){dst:aY Nat}{size:Nat}{s x sv:SV}{y1 y2:V}(h1:cG ν st.m H Z s y1)(h3:cG ν st.m H Z x y2)(h:yg st dst size s x=some (sv,st')):
 ∃y H' ν',eA H (.append size) [y1,y2]=some (y,H')/\R ν' Z st' F H'/\cG ν' st'.m H' Z sv y/\Ev (λ_=>False) ν Z st H ν' Z st' H'/\Kept dst ν st.m ν' st'.m:=by
 unfold yg at h;split at h
 .rename_i d e t;split at h
  .rename_i k z ys Q he;split at h
   .rename_i hc;obtain⟨rfl,ad,ah,ai⟩:=hc;dsimp only at h;split at h
    .rename_i ae;obtain⟨rfl,rfl⟩:=h;obtain⟨_,_,_,q,rfl⟩:=h1.gb Q;cases q;obtain⟨_,_,_,q,rfl⟩:=h3.gb he;cases q;have⟨a1,p1,n,g1,f1⟩:=FP (r.obj d _ Q);have⟨a2,p2,v,g2,f2⟩:=FP (r.obj e _ he);have⟨n1,n2,n3,n4⟩:=jL ae;have u:∀k ob,bg (cR e (cR d st.m)) k=some ob->k≠d/\k≠e/\bg st.m k=some ob:=λk ob h=>by
      have⟨M,A⟩:=jY h;have⟨N,w4⟩:=jY A;exact⟨Ne.symm N,Ne.symm M,w4⟩
     have grow:∃H1,fP H (mM (ν d) k 1 z.length)=some H1/\H1.length=H.length/\∀id,(bN k=true->id≠(ν d).1)->H1[id]?=H[id]?:=by by_cases a:bN k=true;rw[mN a];exact⟨H.set (ν d).1 .dead,by simp[fP,(g1 a).2],Zc,λid aa=>getElem?_set_ne (Ne.symm (aa a))⟩;exact⟨H,by cases k<;>first|rfl|exact absurd rfl a,rfl,λ_ _=>rfl⟩
     have⟨H1,M,A,N⟩:=grow;have E:∀id,id<H.length->(bN k=true->id≠(ν d).1)->(H1++[Ob.row 1 (a1++a2)])[id]?=H[id]?:=λid hl aa=>by rw[getElem?_append_left Za,N id aa]
     have X:∀id,Z id->bk (H1++[Ob.row 1 (a1++a2)]) id=bk H id:=λid X=>by unfold bk;rw[E id (r.tv X) λa e=>r.apart d _ 0 Q a (by rw[show ν.at d 0=id from e.symm];exact X)]
     have r1:=r.less (m':=cR e (cR d st.m)) (λ_ _ h=>h) λk ob h=>(u k ob h).2.2
     have r2:=r1.heap (H':=H1++[Ob.row 1 (a1++a2)]) (λid Y=>by
      refine E id (r1.lt Y) λa e=>?_
      have⟨k2,o2,j2,O,G,z3⟩:=Y;have⟨z4,z5,P⟩:=u _ _ O;exact z4 (r.inj k2 d o2 _ j2 0 P Q G a (z3.trans e)).1) X
     generalize hf:(λi=>if i<z.length then ν.inn d i else ν.inn e (i-z.length))=f
     have S:∀i,(bq.dp .row (z++ys) none).pt (i+1)=true->∃q T w,bg st.m q=some T/\T.pt (w+1)=true/\f i=ν.at q (w+1)/\(q=d/\w=i/\i<z.length\/q=e/\i=z.length+w):=λi b=>by obtain⟨-,es,zs,I⟩:=qu b;subst hf;by_cases J:i<z.length;rw[getElem?_append_left J]at I;exact⟨d,_,i,Q,by simp[bq.pt,I],by simp[J,Nu.at],.inl ⟨rfl,rfl,J⟩⟩;rw[getElem?_append_right Za]at I;exact⟨e,_,i-z.length,he,by simp[bq.pt,I],by simp[J,Nu.at],.inr ⟨rfl,Za⟩⟩
     have L:∀i,(bq.dp .row (z++ys) none).pt (i+1)=true->eB ν st.m (f i):=λi b=>by have⟨q,T,w,k1,k2,k3,_⟩:=S i b;exact⟨q,T,w+1,k1,k2,k3.symm⟩
     have B:∀i,(iL ν t (H.length,0) f).at t (i+1)=f i:=λi=>congrFun (lQ ν t _ f).2 i
     have U:(iL ν t (H.length,0) f).at t 0=H.length:=congrArg fst (lQ ν t _ f).1;have ab:(H1++[Ob.row 1 (a1++a2)])[H.length]?=some (.row 1 (a1++a2)):=by rw[<-A];simp
     have aq:bN k=true->(bq.dp k z none).pt 0=true:=λh=>h
     refine⟨.hsl H.length 1 0 (a1.length+a2.length),H1++[Ob.row 1 (a1++a2)],iL ν t (H.length,0) f,?_,r2.OJ (p:=(H.length,0)) (f:=f) n2 n3 (λk o a hs=>?_) (λj l=>?_) (λj j' l af b=>?_) ?_,?_,⟨by simp[A],λid hl Y _ _=>?_,λid h=>⟨h,X id h⟩,λid Y=>?_,λid h=>.inl h,λk a C h=>?_,rfl⟩,λk C a h=>?_⟩
     .have:a2≠[]:=by rintro rfl;exact ah (length_eq_zero_iff.1 v.symm)
      cases a2 with
      |nil=>exact absurd rfl this|cons c a2=>simp only[eA,p1,p2,M];rw[if_pos (by rw[n,v];exact ai)];rfl
     .rw[qn n4 a]at hs;cases hs
     .cases j with
      |zero=>rw[U];exact⟨λY=>Nat.lt_irrefl _ (r1.lt Y),λX=>Nat.lt_irrefl _ (r.tv X)⟩|succ i=>
       rw[B];have⟨q,T,w,k1,k2,k3,k4⟩:=S i l;rw[k3];refine⟨λ⟨k5,o5,j5,O,G,z3⟩=>?_,r.apart q T _ k1 k2⟩
       have⟨z4,z5,P⟩:=u _ _ O;have:=(r.inj k5 q o5 T j5 _ P k1 G k2 z3).1;rcases k4 with⟨rfl,_⟩|⟨rfl,_⟩
       .exact z4 this
       exact z5 this
     .cases j with
      |zero=>
       cases j' with
       |zero=>rfl|succ i'=>rw[U,B]at b;have:=r.lt (L i' af);omega
      |succ i=>
       cases j' with
       |zero=>rw[U,B]at b;have:=r.lt (L i l);omega|succ i'=>
        rw[B,B]at b;have⟨q,T,w,k1,k2,k3,k4⟩:=S i l;have⟨q',aj,ar,ak,al,am,an⟩:=S i' af;have⟨e1,e2⟩:=r.inj q q' T aj _ _ k1 ak k2 al (by rw[<-k3,<-am,b])
        rcases k4 with⟨rfl,_⟩|⟨rfl,_⟩<;>rcases an with⟨rfl,_⟩|⟨rfl,_⟩<;>first|omega|(exact absurd e1 ad)|(exact absurd e1.symm ad)
     .simp only[cI,bN,if_true];refine⟨trivial,by rw[(lQ ν t _ f).1],(λi t h=>by cases h),a1++a2,?_,by simp[n,v],λi x y I K=>?_⟩
      .rw[(lQ ν t _ f).1];exact ab
      show tE _ _ _ _ i x y;have go:∀q w,bg st.m q=some (.dp k z none)/\q=d\/bg st.m q=some (.dp .row ys none)/\q=e->f i=ν.inn q w->(∀m g,bg st.m q=some (.dp m g none)->g[w]?=some x)->tE ν H Z q w x y->tE (iL ν t (H.length,0) f) (H1++[Ob.row 1 (a1++a2)]) Z t i x y:=λq w hq ao ap hC=>by rcases hC with h|⟨es,zs,ws,rfl,rfl,O,G⟩;exact .inl h;have J:(iL ν t (H.length,0) f).inn t i=ν.inn q w:=(congrFun (lQ ν t _ f).2 i).trans ao;refine .inr ⟨es,zs,ws,rfl,by rw[J],?_,G.mono λid h=>⟨h,X id h⟩⟩;rw[J,E _ (ζe.1 O).1 λa e=>?_];exact O;have W:∃m g,bg st.m q=some (.dp m g none):=(by rcases hq with h|h<;>exact⟨_,_,h.1⟩);have⟨m,g,W⟩:=W;have:=(r.inj q d _ _ (w+1) 0 W Q (by simp[bq.pt,ap _ _ W]) a e).2;omega
      by_cases J:i<z.length
      .rw[getElem?_append_left J]at I;rw[getElem?_append_left Za]at K
       exact go d i (.inl ⟨Q,rfl⟩) (by rw[<-hf];simp[J]) (λm g h=>by rw[Q]at h;cases h;exact I) (f1 i x y I K)
      rw[getElem?_append_right Za]at I
      rw[getElem?_append_right Za,n]at K
      exact go e (i-z.length) (.inr ⟨he,rfl⟩) (by rw[<-hf];simp[J]) (λm g h=>by rw[he]at h;cases h;exact I) (f2 _ x y I K)
     .refine .own _ _ λC h'=>?_
      rw[bX]at h';cases h';exact⟨_,_,_,rfl,by simp[mM,(lQ ν t _ f).1,n,v]⟩
     .exact E id hl λa e=>Y ⟨d,_,0,Q,a,e.symm⟩
     .rcases Fx Y with⟨k,o,j,O,G,z3⟩|⟨j,O,G⟩
      .exact .inl ⟨k,o,j,(u k o O).2.2,G,z3⟩
      cases j with
      |zero=>rw[U]at G;exact .inr (.inr Za)|succ i=>rw[B]at G;subst G;exact .inl (L i O)
     .have D:k≠t:=by rintro rfl;exact n1 a
      rw[cA _ _ (Ne.symm D)]at h;exact⟨C,(u k C h).2.2,if_neg D,.refl _⟩
     have D:k≠t:=λe=>a (by rw[e])
     rw[cA _ _ (Ne.symm D)]at h;exact⟨C,(u k C h).2.2,if_neg D,.refl _,λj l=>⟨l,qj ν _ f D j⟩⟩
    cases h
   cases h
  cases h
 cases h
def AD(r:R ν Z st F H){dst:aY Nat}{l:IA}{svs:Zw}{ys:Zu}{sv:SV}(Y:bT ν st.m H Z svs ys)(h:jG st dst l svs=some (sv,st')):
 ∃y H' ν',eA H l ys=some (y,H')/\R ν' Z st' F H'/\cG ν' st'.m H' Z sv y/\Ev (λ_=>False) ν Z st H ν' Z st' H'/\Kept dst ν st.m ν' st'.m:=by
 unfold jG at h;split at h
 .
  rename_i size d o x;obtain⟨_,_,rfl,a,n⟩:=Y.inv;obtain⟨y,_,rfl,S,p⟩:=n.inv;rw[p.cF];split at h
  .rename_i cs B;have⟨aw,P,e⟩:=ζf.1 h;obtain⟨rfl,rfl⟩:=e;obtain⟨_,_,rfl⟩:=a.nO B;have⟨es,G,q,f,aa⟩:=r.obj d _ B;have⟨p1,p2,p3,p4,p5⟩:=bT.SC f S P aa;have J:∀id,id≠(ν d).1->(H.set (ν d).1 (.row es [G.take o++y.cells++G.drop (o+y.cells.length)]))[id]?=H[id]?:=λid I=>by grind
   have C:∀id,Z id->Z id/\bk (H.set (ν d).1 (.row es [G.take o++y.cells++G.drop (o+y.cells.length)])) id=bk H id:=λid C=>⟨C,by
    unfold bk;rw[J id (by rintro rfl;exact r.apart d _ 0 B rfl C)]⟩
   refine⟨.undef,H.set (ν d).1 (.row es [G.take o++y.cells++G.drop (o+y.cells.length)]),ν,?_,?_,.v _ _ (.same _ rfl),Ev.fZ r B rfl (lW rfl) J rfl Zc,Kept.fZ B rfl (lW rfl)⟩
   .grind[eA]
   refine r.fZ B rfl (lW rfl) J rfl ⟨es,_,?_,p4.mono C (λe _ L A=>?_),p5⟩
   .grind
   by_cases k:e=d
   .subst k;rw[bX]at A;cases A;exact⟨_,B,rfl,rfl⟩
   rw[cA st.m _ (Ne.symm k)]at A;exact⟨L,A,rfl,.refl _⟩
  grind
 .
  rename_i size d i o x;obtain⟨_,_,rfl,a,n⟩:=Y.inv;obtain⟨y,_,rfl,S,p⟩:=n.inv;rw[p.cF];split at h
  .rename_i k es T B;split at h
   .rename_i cs ak;split at h
    .rename_i f;obtain⟨rfl,rfl⟩:=h;obtain⟨_,_,_,e,b,rfl⟩:=a.tH B;cases e;have ob:=r.obj d _ B;simp[cI,b]at ob;have⟨rs,q,hl,hf,al,aG⟩:=ob;have⟨c,ax,af⟩:=hf.get ak;have hi:=(ζe.1 ak).1;rw[getElem?_take,if_pos hi,getElem?_drop]at ax;have N:=S.fr.cells;have E:y.cells.length=size:=by rw[<-N.1];exact f.1
     have g:o+size<=c.length:=by rw[<-af.1];exact f.2.1
     have q3:y.cells.all V.one=true:=by rw[N.one];exact f.2.2
     have D:cV H Z (cs.take o++x.cells++cs.drop (o+x.cells.length)) (c.take o++y.cells++c.drop (o+y.cells.length)):=by rw[f.1,E];exact((af.take o).append N).append (af.drop _)
     generalize hN:(c.take o++y.cells++c.drop (o+y.cells.length))=nc at D;have J:∀id,id≠(ν d).1->(H.set (ν d).1 (.row es (rs.set ((ν d).2+i) nc)))[id]?=H[id]?:=λid I=>by rw[getElem?_set];rw[if_neg (Ne.symm I)]
     have O:=b;have C:∀id,Z id->Z id/\bk (H.set (ν d).1 (.row es (rs.set ((ν d).2+i) nc))) id=bk H id:=λid C=>⟨C,by
      unfold bk;rw[J id (by rintro rfl;exact r.apart d _ 0 B O C)]⟩
     have Q:sameShape (.sl k es T) (.sl k es (T.set i (cs.take o++x.cells++cs.drop (o+x.cells.length)))):=by simp[sameShape,bq.tD]
     refine⟨.undef,H.set (ν d).1 (.row es (rs.set ((ν d).2+i) nc)),ν,?_,?_,.v _ _ (.same _ rfl),Ev.fZ r B Q (lW rfl) J O Zc,Kept.fZ B Q (lW rfl)⟩
     .grind[eA]
     refine r.fZ B Q (lW rfl) J O ?_;simp only[cI,b];have ah:=(ζe.1 q).1;refine⟨_,getElem?_set_self ah,Zd,?_,?_,λe=>?_⟩
     .have e1:List.take (T.set i (cs.take o++x.cells++cs.drop (o+x.cells.length))).length (List.drop (ν d).2 (rs.set ((ν d).2+i) nc))=((rs.drop (ν d).2).take T.length).set i nc:=by
       rw[List.length_set,List.drop_set,if_neg Za,List.take_set]
       grind
      rw[e1];exact(hf.set i D).mono C
     .intro cc am u hu;rcases List.mem_or_eq_of_mem_set am with hm|rfl
      .have⟨z,ay⟩:=al cc hm u hu;exact⟨z,ay.mono C⟩
      have⟨j,hj⟩:=mem_iff_getElem?.1 hu;have an:=(ζe.1 hj).1;rw[<-D.1]at an;exact⟨_,(D.2 j _ u (ζd an) hj).mono C⟩
     grind
    simp at h
   grind
  grind
 .
  rename_i size d i o t;obtain⟨_,_,rfl,a,n⟩:=Y.inv;obtain⟨y,_,rfl,S,p⟩:=n.inv;rw[p.cF];split at h
  .rename_i k T j w B;split at h
   .rename_i f;obtain⟨rfl,rfl,rfl,hl,aK⟩:=f;obtain⟨rfl,rfl⟩:=h;obtain⟨_,_,_,e,b,rfl⟩:=a.tH B;cases e;have⟨c1,c2⟩:=jh (x:=.own t) hl S;have ob:=r.obj d _ B;simp only[cI,b,if_true]at ob;have⟨o1,o2,o3,rs,q,ao,hf⟩:=ob;have hi:=o3 _ _ rfl;have ah:=(ζe.1 q).1;have aA:∀X,(bq.dp k T (some (j,w))).pt (X+1)=true->ν.inn d X≠(ν d).1:=λX P e=>by
     have:=(r.inj d d _ _ (X+1) 0 B B P b e).2;omega
    have J:∀id,id≠(ν d).1->(H.set (ν d).1 (.row 1 (rs.set j [y])))[id]?=H[id]?:=λid I=>by rw[getElem?_set];rw[if_neg (Ne.symm I)]
    have C:∀id,Z id->Z id/\bk (H.set (ν d).1 (.row 1 (rs.set j [y]))) id=bk H id:=λid C=>⟨C,by
     unfold bk;rw[J id (by rintro rfl;exact r.apart d _ 0 B b C)]⟩
    have ai:∀X,(bq.dp k T (some (j,t))).pt X=true->(bq.dp k T (some (j,w))).pt X=true:=λX h=>h
    have Q:sameShape (.dp k T (some (j,w))) (.dp k T (some (j,t))):=rfl;refine⟨.undef,H.set (ν d).1 (.row 1 (rs.set j [y])),ν,?_,?_,.v _ _ (.same _ rfl),Ev.fZ r B Q ai J b Zc,Kept.fZ B Q ai⟩
    .have:rs[j]?=some rs[j]:=ζd Za
     have h9:=hf j _ _ (ζd hi) this;simp only[mQ,if_true]at h9;have⟨v,e1,_⟩:=h9;simp[eA,q,o2,this,e1,c1,c2]
    refine r.fZ B Q ai J b ?_;simp only[cI,b,if_true];refine⟨o1,o2,λX t' e=>by cases e;exact hi,_,getElem?_set_self ah,by simp[ao],λX x y' hx N=>?_⟩
    by_cases e:j=X
    .subst e;rw[getElem?_set_self Za]at N;cases N
     simp only[mQ,if_true];exact⟨y,rfl,c2,S.mono C λe A L U=>by
      by_cases k':e=d
      .subst k';rw[bX]at U;cases U;exact⟨_,B,rfl,rfl⟩
      rw[cA st.m _ (Ne.symm k')]at U;exact⟨L,U,rfl,.refl _⟩⟩
    rw[getElem?_set_ne e]at N;have h9:=hf X x y' hx N;simp only[mQ,if_neg e]at h9⊢;rcases h9 with h9|⟨es,zs,ws,rfl,rfl,E,g⟩
    .exact .inl h9
    exact .inr ⟨es,zs,ws,rfl,rfl,(J _ (aA X (by simp[bq.pt,hx,e]))).trans E,g.mono C⟩
   cases h
  cases h
 .
  rename_i kk d k x;obtain⟨_,_,rfl,a,n⟩:=Y.inv;obtain⟨k',_,rfl,S,p⟩:=n.inv;obtain⟨y,_,rfl,h5,h6⟩:=p.inv;rw[h6.cF];split at h
  .rename_i aB B;split at h
   .rename_i b;have⟨aH,P,e⟩:=ζf.1 h;simp at e;obtain⟨rfl,rfl⟩:=e;obtain⟨_,_,rfl⟩:=a.BQ B;have aC:=S.fr.scalar.1 (uk b);subst aC;have⟨aI,q,aD⟩:=r.obj d _ B;have⟨r',aL,aE⟩:=aD.put (uk b) h5.fr P;have J:∀id,id≠(ν d).1->(H.set (ν d).1 (.map r'))[id]?=H[id]?:=λid I=>by rw[getElem?_set];rw[if_neg (Ne.symm I)]
    have C:∀id,Z id->Z id/\bk (H.set (ν d).1 (.map r')) id=bk H id:=λid C=>⟨C,by
     unfold bk;rw[J id (by rintro rfl;exact r.apart d _ 0 B rfl C)]⟩
    refine⟨.undef,H.set (ν d).1 (.map r'),ν,?_,?_,.v _ _ (.same _ rfl),Ev.fZ r B rfl (lW rfl) J rfl Zc,Kept.fZ B rfl (lW rfl)⟩
    .grind[eA]
    refine r.fZ B rfl (lW rfl) J rfl ⟨r',?_,aE.mono C⟩;rw[getElem?_set_self (ζe.1 q).1]
   simp at h
  simp at h
 .
  rename_i size s x;obtain⟨y1,_,rfl,a,n⟩:=Y.inv;obtain⟨y2,_,rfl,S,p⟩:=n.inv;rw[p.cF];split at h
  .rename_i T e1 e2;have⟨a1,p1,_⟩:=tg a r.obj e1;have⟨a2,p2,g⟩:=tg S r.obj e2;have:=length_eq_zero_iff.1 (by have:=g.1;simpa using this.symm)
   subst this
   cases dst with
   |none=>simp at h|some t=>
    have lit:∀(k:Fl)(K:V),bN k=false->mM (ν t) k size 0=K->st.new t=true->(∀y,FR H Z K y->y=K)->FR H Z K y1->
     ∃y H' ν',eA H (.append size) [y1,y2]=some (y,H')/\R ν' Z {st with m:=bu st.m t (.sl k size [])} F H'/\cG ν' (bu st.m t (.sl k size [])) H' Z (.own t) y/\Ev (λ_=>False) ν Z st H ν' Z {st with m:=bu st.m t (.sl k size [])} H'/\Kept (some t) ν st.m ν' (bu st.m t (.sl k size [])):=λk K b aM hn hx hf=>by
     have ap:dJ (.sl k size [])=true->False:=by grind[dJ]
     refine⟨y1,H,gW ν t (ν t),by grind[eA],r.add hn (λh=>(ap h).elim) (by grind[cI]),.own _ _ λL U=>?_,Ev.add hn (le_refl _) (λ_ _ _=>rfl) (λ_ _=>rfl) (λh=>(ap h).elim),Kept.add λ_ _ h=>h⟩
     rw[bX]at U;cases U;exact⟨_,_,_,rfl,by rw[iD,hx _ hf];grind⟩
    cases s with
    |own d=>
     dsimp only at h;split at h
     .rename_i ob B;split at h
      .rename_i D;simp at h;obtain⟨rfl,rfl⟩:=h;simp[gV,B]at e1
       cases ob with
       |sl k es ab=>
        obtain⟨_,_,_,e,rfl⟩:=a.gb B;cases e;have r1:R ν Z {st with m:=cR d st.m} F H:=r.less (λ_ _ h=>h) jJ
        have⟨n1,_,_,_⟩:=jL D;have aq:cI (gW ν t (ν d)) (bu (cR d st.m) t (.sl k es ab)) H Z t (.sl k es ab):=by have o:=r.obj d _ B;grind[cI,iD]
        refine⟨mM (ν d) k es ab.length,H,gW ν t (ν d),by grind[eA],r1.add D (λhb=>⟨λM=>?_,r.apart d _ 0 B hb⟩) aq,.own _ _ λL U=>?_,?_,Kept.add jJ⟩
        .have⟨k2,o2,j2,g1,g2,g3⟩:=M;have⟨g4,g5⟩:=jY g1;exact g4 (r.inj d k2 _ o2 0 j2 B g5 hb g2 g3.symm).1
        .rw[bX]at U;cases U;exact⟨_,_,_,rfl,by rw[iD]⟩
        by_cases hb:dJ (.sl k es ab)=true
        .exact Ev.re (m1:=cR d st.m) jJ n1 (le_refl _) (λ_ _ _ _=>rfl) (λ_ _=>rfl) (λ_=>.inl ⟨d,_,0,B,hb,rfl⟩)
        exact(Ev.less jJ).trans (Ev.add D (le_refl _) (λ_ _ _=>rfl) (λ_ _=>rfl) λh=>absurd h hb)
       |box cs=>cases e1|mp aB=>cases e1|dp _ _ _=>cases e1
      simp at h
     simp at h
    |v K=>
     cases K with
     |bD=>
      dsimp only at h;split at h
      next hn=>simp at h;obtain⟨rfl,rfl⟩:=h;exact lit .nil _ rfl rfl hn (λy h=>h.bD) a.fr
      simp at h
     |c7=>
      dsimp only at h;split at h
      next hn=>simp at h;obtain⟨rfl,rfl⟩:=h;exact lit .emp _ rfl rfl hn (λy h=>h.c7) a.fr
      simp at h
     |_=>simp at h
    |_=>simp at h
  .rename_i T zs I e1 e2;split at h
   .rename_i f;have⟨a1,p1,E⟩:=tg a r.obj e1;have⟨a2,p2,g⟩:=tg S r.obj e2
    cases dst with
    |none=>simp at h|some t=>
     dsimp only at h;generalize ar:giveUp st.m s=m1 at h;split at h
     .rename_i D;simp at h;obtain⟨rfl,rfl⟩:=h;have⟨n1,_,_,_⟩:=jL D;have grow:∃H1,fP H y1=some H1/\H1.length=H.length/\(∀id,¬eB ν st.m id->H1[id]?=H[id]?)/\
       (∀id,eB ν m1 id->H1[id]?=H[id]?)/\(∀id,Z id->bk H1 id=bk H id):=by
       subst ar
       cases s with
       |own d=>
        simp[gV]at e1;split at e1
        .rename_i k es ab B;obtain⟨_,_,_,e,rfl⟩:=a.gb B;cases e
         by_cases b:bN k=true
         .have o:=r.obj d _ B;simp[cI,b]at o;have⟨ys,q,_⟩:=o;have O:=b;have J:∀id,id≠(ν d).1->(H.set (ν d).1 .dead)[id]?=H[id]?:=λid I=>by rw[getElem?_set];rw[if_neg (Ne.symm I)]
          refine⟨H.set (ν d).1 .dead,by rw[mN b];grind[fP],Zc,λid M=>J id λe=>M ⟨d,_,0,B,O,e.symm⟩,λid M=>J id λe=>?_,λid C=>?_⟩
          .have⟨k2,o2,j2,g1,g2,g3⟩:=M;have⟨g4,g5⟩:=jY g1;exact g4 (r.inj d k2 _ o2 0 j2 B g5 O g2 (by rw[g3,e];rfl)).1
          unfold bk;rw[J id (by rintro rfl;exact r.apart d _ 0 B O C)]
         refine⟨H,?_,rfl,λ_ _=>rfl,λ_ _=>rfl,λ_ _=>rfl⟩
         cases k<;>simp[bN]at b<;>rfl
        simp at e1
       |v K=>
        refine⟨H,?_,rfl,λ_ _=>rfl,λ_ _=>rfl,λ_ _=>rfl⟩
        cases K<;>simp[FU]at f
        .rw[a.fr.c7];rfl
        rw[a.fr.bD];rfl
       |_=>simp[FU]at f
      have⟨H1,g1,g2,g3,g4,g5⟩:=grow;have W:∀e ob,bg m1 e=some ob->bg st.m e=some ob:=by subst ar;cases s<;>first|exactλ_ _ h=>h|exact jJ
      have au:∀id,eB ν m1 id->id<H.length:=λid⟨k,o,j,w1,w2,w3⟩=>r.lt ⟨k,o,j,W k o w1,w2,w3⟩
      have ad:∀id,id<H.length->(H1++[Ob.row size (a1++a2)])[id]?=H1[id]?:=λid hl=>getElem?_append_left (by rw[g2];exact hl)
      have aj:∀id,Z id->bk (H1++[Ob.row size (a1++a2)]) id=bk H id:=λid C=>by have:=g5 id C;unfold bk at this⊢;rw[ad id (r.tv C)];exact this
      have r1:=r.less (λ_ _ h=>h) W
      have r2:=r1.heap (λid M=>by rw[ad id (au id M)];grind) aj
      have ff:=(E.append g).mono λid C=>⟨C,aj id C⟩
      have ae:(H1++[Ob.row size (a1++a2)])[H.length]?=some (.row size (a1++a2)):=by rw[<-g2];simp
      refine⟨.hsl H.length size 0 (T.length+zs.length),H1++[Ob.row size (a1++a2)],gW ν t (H.length,0),?_,?_,?_,?_,Kept.add W⟩
      .have aJ:a2≠[]:=by
        rintro rfl;have aF:=length_eq_zero_iff.1 (by have:=g.1;simpa using this)
        exact I aF
       have ao:a1.length+a2.length<=2147483648:=by rw[<-E.1,<-g.1];exact f.1
       have aN:=E.1;have aO:=g.1;simp_all[eA]
      .refine r2.add D (λ_=>⟨λM=>?_,λC=>?_⟩) ?_
       .grind
       .exact absurd (r.tv C) Zc
       simp only[cI,iD];refine⟨_,ae,by simp[E.1,g.1],?_,ff.wR,λ_=>⟨trivial,by simp[E.1,g.1]⟩⟩
       have:(T++zs).length=(a1++a2).length:=by simp[E.1,g.1]
       rw[this,drop_zero,take_length];exact ff
      .refine .own _ _ λL U=>?_
       simp only at U;rw[bX]at U;cases U;exact⟨_,_,_,rfl,by simp[mM,iD]⟩
      refine Ev.re W n1 (by simp[g2]) (λid hl M _=>?_) aj (λ_=>.inr (.inr (le_refl _)))
      rw[ad id hl];grind
     simp at h
   simp at h
  have⟨y,H',ν',e1,e2,e3,e4,e5⟩:=QK r a S h;exact⟨y,H',ν',e1,e2,e3,e4,e5⟩
 .
  rename_i size d o x l;obtain⟨_,_,rfl,a,n⟩:=Y.inv;obtain⟨y,aP,rfl,S,p⟩:=n.inv;split at h
  .rename_i av;split at h
   .rename_i cs B;have⟨aw,P,e⟩:=ζf.1 h;simp at e;obtain⟨rfl,rfl⟩:=e;obtain⟨_,_,rfl⟩:=a.nO B;have⟨es,G,q,f,aa⟩:=r.obj d _ B;have⟨p1,p2,p3,p4,p5⟩:=bT.SC f S P aa;have J:∀id,id≠(ν d).1->(H.set (ν d).1 (.row es [G.take o++y.cells++G.drop (o+y.cells.length)]))[id]?=H[id]?:=λid I=>by rw[getElem?_set];rw[if_neg (Ne.symm I)]
    have C:∀id,Z id->Z id/\bk (H.set (ν d).1 (.row es [G.take o++y.cells++G.drop (o+y.cells.length)])) id=bk H id:=λid C=>⟨C,by
     unfold bk;rw[J id (by rintro rfl;exact r.apart d _ 0 B rfl C)]⟩
    refine⟨.undef,H.set (ν d).1 (.row es [G.take o++y.cells++G.drop (o+y.cells.length)]),ν,?_,?_,.v _ _ (.same _ rfl),Ev.fZ r B rfl (lW rfl) J rfl Zc,Kept.fZ B rfl (lW rfl)⟩
    .simp only[eA,HL r B p av,if_true,q,List.getElem?_cons_zero,if_pos (And.intro p1 (And.intro p2 p3)),List.set_cons_zero]
    refine r.fZ B rfl (lW rfl) J rfl ⟨es,_,?_,p4.mono C (λe _ L A=>?_),p5⟩
    .have:=(ζe.1 q).1;rw[getElem?_set_self this]
    by_cases k:e=d
    .subst k;rw[bX]at A;cases A;exact⟨_,B,rfl,rfl⟩
    rw[cA st.m _ (Ne.symm k)]at A;exact⟨L,A,rfl,.refl _⟩
   simp at h
  simp at h
 grind
end
def xL(d:Nat)(st:St):aY St:=
 match bg st.m d with
 |some (.sl k es u)=>some {st with g:=xM (SV.sub d (jC k es u)) st.g,m:=mapM (SV.sw d (jC k es u)) (cR d st.m)}|some (.dp k u none)=>some {st with g:=xM (SV.sub d (jC k 1 u)) st.g,m:=mapM (SV.sw d (jC k 1 u)) (cR d st.m)}|_=>none
def IE(st:St):Loc->aY SV
 |.s n=>bg st.g n|.c b i=>match bg st.m b with
  |some (.box cs)=>cs[i]?|_=>none
def MF:Zu->Zl
 |[.bD]|[.c7]=>true|_=>false
def PB(es:Nat):Zu->aY bq
 |[.bD]=>some (.sl .nil es [])|[.c7]=>some (.sl .emp es [])|[.fsl B D]=>if B=es then some (.sl .row es D)else none|_=>none
def OD(st:St)(l:Loc):aY Nat:=match IE st l with
 |some (.v (.int _ i))=>if 0<=i then some i.toNat else none|_=>none
def zb(d:Nat)(st:St):aY St:=
 match bg st.m d with
 |some (.sl k es u)=>if es=1/\k≠.part/\u.all MF=true then some {st with m:=bu st.m d (.dp k u none)}else none|some (.dp _ _ none)=>some st|_=>none
def zo(d:Nat)(i:Loc)(es t:Nat)(st:St):aY St:=
 match bg st.m d,OD st i with
 |some (.dp k u none),some i=>if bN k=true/\st.new t=true then(u[i]?).bind λx=>(PB es x).map λob=>{st with m:=bu (bu st.m d (.dp k u (some (i,t)))) t ob}else none|_,_=>none
def CW(d:Nat)(st:St):aY St:=
 match bg st.m d with
 |some (.dp k w (some (i,t)))=>match bg st.m t with
  |some (.sl u es z)=>if u≠.part/\t≠d/\bN k=true then some {st with m:=bu (cR t st.m) d (.dp k (w.set i [jC u es z]) none)}else none|_=>none
 |_=>none
def ghost(x:Gh)(st:St):aY St:=
 match x with
 |.closeS l=>match IE st l with
  |some (.own d)=>xL d st|some _=>some st|none=>none
 |.close d=>xL d st|.closeB d=>match bg st.m d with
  |some (.box u)=>match dh u with
   |some w=>some {st with g:=xM (SV.Ar d w) st.g,m:=mapM (SV.p_ d w) (cR d st.m)}|none=>none
  |_=>none
 |.canon (.s n) d es=>match bg st.g n with
  |some (.v .bD)=>if st.new d then some {st with g:=bu st.g n (.own d),m:=bu st.m d (.sl .nil es [])}else none|some (.v .c7)=>if st.new d then some {st with g:=bu st.g n (.own d),m:=bu st.m d (.sl .emp es [])}else none|some (.own e)=>if e=d then some st else if st.new d then some {st with g:=yL e d st.g,m:=tP e d st.m}else none|some (.ptr e _)=>if e=d then some st else if st.new d then some {st with g:=yL e d st.g,m:=tP e d st.m}else none|_=>none
 |.canon (.c b i) d es=>match bg st.m b with
  |some (.box u)=>match u[i]?with
   |some (.v .bD)=>if st.new d then some {st with m:=bu (bu st.m d (.sl .nil es [])) b (.box (u.set i (.own d)))}else none|some (.v .c7)=>if st.new d then some {st with m:=bu (bu st.m d (.sl .emp es [])) b (.box (u.set i (.own d)))}else none|some (.own e)=>if e=d then some st else if st.new d then some {st with g:=yL e d st.g,m:=tP e d st.m}else none|_=>none
  |_=>none
 |.keep gs z=>match kM st.g gs,kM st.m z with
  |some g,some m=>some {st with g:=g,m:=m}|_,_=>none
 |.drop ds=>some {st with g:=oc ds st.g}|.melt d=>zb d st|.take d i es t=>zo d i es t st|.put d=>CW d st
section
variable{Rv:Nat->Prop}{ν ν':Nu}{Z Z':Nat->Prop}{st st':St}{m m':Tb bq}{F F':Zo}{H H':bh}{N:Nat->Zk}
def LI(r:R ν Z st F H){dst:aY Nat}{size d:Nat}{J O:Zl}{T:Zw}{ys:Zu}{sv:SV}(D:bT ν st.m H Z (.own d::T) ys)(h:ye st dst size J O d T=some (sv,st')):
 ∃y ν',bH N (.slice size J O) ys=some y/\R ν' Z st' F H/\cG ν' st'.m H Z sv y/\Ev Rv ν Z st H ν' Z st' H:=by
 unfold ye at h;obtain⟨i,j,rfl,c,U⟩:=D.inv;split at h
 .rename_i k es L ws t u W;split at h
  .rename_i hk;have⟨⟨l,n⟩,X,h⟩:=ζg.1 h;have⟨⟨a,b⟩,C,h⟩:=ζg.1 h;dsimp only at h;split at h
   .rename_i w;obtain⟨rfl,rfl⟩:=h;obtain⟨_,_,_,e,rfl⟩:=c.gb u;cases e;have Y:b<=L.length/\a<=b:=by
     grind[dx]
    have o:=r.obj d _ u;simp[cI,hk.1]at o;have⟨rs,p,q,f,Q,_⟩:=o;have z:=hk.1;have r1:R ν Z {st with m:=cR d st.m} F H:=r.less (λ_ _ h=>h) jJ
    have G:¬eB ν (cR d st.m) (ν d).1:=by rintro⟨k2,o2,g,g1,g2,g3⟩;have⟨g4,g5⟩:=jY g1;exact g4 (r.inj d k2 _ o2 0 g u g5 z g2 g3.symm).1
    have B:((L.take b).drop a).length=b-a:=Ze
    refine⟨.hsl (ν d).1 es ((ν d).2+a) (b-a),gW ν t ((ν d).1,(ν d).2+a),?_,?_,?_,?_⟩
    .have I:=bT.dh U W;rw[mN hk.1];simp[bH,I.lH X,gQ,if_pos hk.2,C]
    .refine r1.add w (λ_=>⟨G,r.apart d _ 0 u z⟩) ?_
     simp[cI,bN,iD];have:=(f.take b).drop a
     grind[List.drop_take,drop_drop]
    .refine .own _ _ λs S=>?_
     rw[bX]at S;cases S;exact⟨_,_,_,rfl,by rw[B];simp[mM,iD]⟩
    exact Ev.re (st:=st) jJ (jL w).1 (le_refl _) (λ_ _ _ _=>rfl) (λ_ _=>rfl) (λ_=>.inl ⟨d,_,0,u,z,rfl⟩)
   grind
  grind
 grind
def DX{f:SV->SV}:∀{g:Tb SV}{s:Nat},bg (xM f g) s=(bg g s).map f
 |[],s=>rfl|(k,x)::r,s=>by simp[xM,bg];split;rfl;exact DX
def xU(f:Zw->Zw):bq->bq
 |.box cs=>.box (f cs)|o=>o
def Df{f:Zw->Zw}:∀{m:Tb bq}{d:Nat},bg (mapM f m) d=(bg m d).map (xU f)
 |[],d=>rfl|(k,x)::r,d=>by cases x<;>simp[mapM,bg]<;>split<;>first|rfl|exact Df
theorem rV{d:Nat}{w:V}:∀{l:Zw}{j:Nat},(SV.sw d w l)[j]?=(l[j]?).map (SV.sub d w)
 |[],j=>by simp[SV.sw]|x::r,0=>by simp[SV.sw]|x::r,j+1=>by simp[SV.sw,rV]
def qQ{d:Nat}{w:Zu}:∀{l:Zw}{j:Nat},(SV.p_ d w l)[j]?=(l[j]?).map (SV.Ar d w)
 |[],j=>by simp[SV.p_]|x::r,0=>by simp[SV.p_]|x::r,j+1=>by simp[SV.p_,qQ]
def me{d:Nat}{w:V}:∀{l:Zw},(SV.sw d w l).length=l.length
 |[]=>rfl|x::r=>by simp[SV.sw,me]
def mI{d:Nat}{w:Zu}:∀{l:Zw},(SV.p_ d w l).length=l.length
 |[]=>rfl|x::r=>by simp[SV.p_,mI]
def cG.sub{sv:SV}{y w:V}{d:Nat}{k:Fl}{es n:Nat}{ob:bq}(J:bg m d=some ob)(G:ob.tD=.sl k es n)(O:FR H Z' w (mM (ν d) k es n))(T:∀id,Z id->Z' id)
 (W:∀e ob',bg m' e=some ob'->e≠d/\∃ob,bg m e=some ob/\sameShape ob ob')(r:cG ν m H Z sv y):cG ν m' H Z' (sv.sub d w) y:=by
 have z:∀id,Z id->Z' id/\bk H id=bk H id:=λid h=>⟨T id h,rfl⟩
 have D:∀e ob',bg m' e=some ob'->∃ob,bg m e=some ob/\ν e=ν e/\sameShape ob ob':=λe ob' h=>Zd
 induction r with
 |v x y h=>exact .v x y (h.mono z)|own e y h=>
  simp[SV.sub];split
  next L=>subst L;obtain⟨_,_,_,e1,rfl⟩:=h _ J;rw[G]at e1;cases e1;exact .v _ _ O
  exact(cG.own e y h).mono z λe _=>D e
 |ptr e o y h=>exact(cG.ptr e o y h).mono z λe _=>D e|el e i o y h=>exact(cG.el e i o y h).mono z λe _=>D e|mp e y h=>exact(cG.mp e y h).mono z λe _=>D e|clo f a b B Q I X hva S C U=>
  refine .clo f _ _ B Q (by rw[me];omega) (by rw[me];omega) (λj u v c g=>?_) (λj u v c g=>?_)
  all_goals grind[rV]
 |tup a B I hva C=>
  refine .tup _ B (by rw[me];omega) (λj u v c g=>?_)
  rw[rV,ζf]at c;grind
 |agg a B I hva C=>
  refine .agg _ B (by rw[me];omega) (λj u v c g=>?_)
  rw[rV,ζf]at c;grind
 |yl id=>exact .yl id
theorem Qm {f:FuncId} {a b:aX SV} {y:V} (r:cG ν m H Z (.clo f a b) y):cG ν m H Z (NW f a b) y:=by
 unfold NW;split
 .rename_i x z D G;cases r with|clo _ _ _ w B I J hva u=>
  have h1:=bT.dh (ν:=ν) (m:=m) (H:=H) (Z:=Z) (ys:=w) ⟨I,hva⟩ D;have C:=bT.dh (ν:=ν) (m:=m) (H:=H) (Z:=Z) (ys:=B) ⟨J,u⟩ G;exact .v _ _ (.clo f x z w B h1.1 C.1 h1.2 C.2)
 exact r
def cG.Ar{sv:SV}{y:V}{d:Nat}{cs:Zw}{xs:Zu}(G:bg m d=some (.box cs))(J:∀o,o<=xs.length->FR H Z' (.fptr (xs.drop o)) (.hptr (ν d).1 0 o))(O:∀id,Z id->Z' id)
 (W:∀e ob',bg m' e=some ob'->e≠d/\∃ob,bg m e=some ob/\sameShape ob ob')(r:cG ν m H Z sv y):cG ν m' H Z' (sv.Ar d xs) y:=by
 have w:∀id,Z id->Z' id/\bk H id=bk H id:=λid h=>⟨O id h,rfl⟩
 have z:∀e ob',bg m' e=some ob'->∃ob,bg m e=some ob/\ν e=ν e/\sameShape ob ob':=λe ob' h=>Zd
 induction r with
 |v x y h=>exact .v x y (h.mono w)|own e y h=>exact(cG.own e y h).mono w λe _=>z e|ptr e o y h=>
  simp only[SV.Ar];split
  .rename_i I;subst I;obtain⟨_,e1,rfl⟩:=h _ G;split
   next L=>exact .v _ _ (J o L)
   exact(cG.ptr e o _ h).mono w λe _=>z e
  exact(cG.ptr e o y h).mono w λe _=>z e
 |el e i o y h=>exact(cG.el e i o y h).mono w λe _=>z e|mp e y h=>exact(cG.mp e y h).mono w λe _=>z e|clo f a b B Q C S hva T D U=>
  refine Qm (.clo f _ _ B Q (by rw[mI];exact C) (by rw[mI];exact S) (λj u v c g=>?_) (λj u v c g=>?_))
  .rw[qQ,ζf]at c;grind
  rw[qQ,ζf]at c;grind
 |tup a B C hva D=>
  refine .tup _ B (by rw[mI];exact C) (λj u v c g=>?_)
  rw[qQ,ζf]at c;grind
 |agg a B C hva D=>
  refine .agg _ B (by rw[mI];exact C) (λj u v c g=>?_)
  rw[qQ,ζf]at c;grind
 |yl id=>exact .yl id
def cI.xU{d:Nat}{ob:bq}{f:Zw->Zw}(J:∀id,Z id->Z' id)(U:∀l,(f l).length=l.length)
 (O:∀cs B,bT ν m H Z cs B->bT ν m' H Z' (f cs) B)(T:∀e ob',bg m' e=some ob'->∃ob,bg m e=some ob/\sameShape ob ob')(o:cI ν m H Z d ob):cI ν m' H Z' d (xU f ob):=by
 have u:∀id,Z id->Z' id/\bk H id=bk H id:=λid h=>⟨J id h,rfl⟩
 cases ob with
 |sl k es G=>
  simp[Go.VE.xU,cI]at o⊢;split
  next b=>rw[if_pos b]at o;have⟨I,a,z,D,L,Q⟩:=o;exact⟨I,a,z,D.mono u,L.mono u,Q⟩
  grind
 |box cs=>have⟨es,B,a,z,D⟩:=o;exact⟨es,B,a,O cs B z,D⟩|mp S=>have⟨C,a,z⟩:=o;exact⟨C,a,z.mono u⟩|dp k G w=>exact cI.mono (ob:=.dp k G w) u rfl (λ_ _=>rfl) (λe _ ob' h=>let⟨ob,a,z⟩:=T e ob' h;⟨ob,a,rfl,z⟩) o
def Cl{f:Zw->Zw}{ob:bq}:(xU f ob).pt=ob.pt:=by cases ob<;>rfl
theorem JF{f:Zw->Zw}{ob:bq}:sameShape ob (xU f ob):=by cases ob<;>rfl
def R.shut(r:R ν Z st F H){d:Nat}{ob:bq}(n:bg st.m d=some ob){fs:SV->SV}{D:Zw->Zw}(q:∀l,(D l).length=l.length)(M:∀l(j:Nat),(D l)[j]?=(l[j]?).map fs)
 (B:∀id,Z' id↔Z id\/∃j,ob.pt j=true/\id=ν.at d j)(G:∀j,ob.pt j=true->∃es ys,H[ν.at d j]?=some (.row es ys)/\s9 H Z' ys)
 (N:∀m',(∀e ob',bg m' e=some ob'->e≠d/\∃ob,bg st.m e=some ob/\sameShape ob ob')->∀sv y,cG ν st.m H Z sv y->cG ν m' H Z' (fs sv) y):
 R ν Z' {st with g:=xM fs st.g,m:=mapM D (cR d st.m)} F H/\Ev Rv ν Z st H ν Z' {st with g:=xM fs st.g,m:=mapM D (cR d st.m)} H:=by
 have key:∀e ob',bg (mapM D (cR d st.m)) e=some ob'->e≠d/\∃ob,bg st.m e=some ob/\ob'=xU D ob:=λe ob' h=>by rw[Df,ζf]at h;obtain⟨o,a,rfl⟩:=h;grind[jY]
 have w:∀e ob',bg (mapM D (cR d st.m)) e=some ob'->e≠d/\∃ob,bg st.m e=some ob/\sameShape ob ob':=λe ob' h=>by obtain⟨a,o,z,rfl⟩:=key e ob' h;grind[JF]
 have t:=N _ w;have U:∀W C,bT ν st.m H Z W C->bT ν (mapM D (cR d st.m)) H Z' (D W) C:=λW C h=>by refine⟨by rw[q];exact h.1,λj u v i P=>?_⟩;rw[M,ζf]at i;obtain⟨A,X,rfl⟩:=i;exact t A v (h.2 j A v X P)
 have I:=λid h=>(B id).2 (.inl h)
 refine⟨⟨λs sv S=>?_,λe ob' Y=>?_,λb E o1 o2 T V a z L K hp=>?_,λb o1 T a L=>?_,λid h=>?_,⟨λid es ys O f c hc u i=>?_⟩⟩,⟨le_refl _,λ_ _ _ _ _=>rfl,λid h=>⟨I id h,rfl⟩,?_,?_,?_,rfl⟩⟩
 .rw[DX,ζf]at S;obtain⟨Q,aa,rfl⟩:=S;exact t Q _ (r.slot s Q aa)
 .obtain⟨a,o,z,rfl⟩:=key e ob' Y;exact cI.xU I q U (λe ob' h=>(w e ob' h).2) (r.obj e o z)
 .obtain⟨_,p1,k1,rfl⟩:=key b o1 a;obtain⟨_,p2,k2,rfl⟩:=key E o2 z;rw[Cl]at L K;exact r.inj b E p1 p2 T V k1 k2 L K hp
 .obtain⟨ab,p1,k1,rfl⟩:=key b o1 a;rw[Cl]at L;intro O;rcases(B _).1 O with O|⟨j,J,Y⟩
  .exact r.apart b p1 T k1 L O
  exact ab (r.inj b d p1 ob T j k1 n L J Y).1
 .rcases (B id).1 h with h|⟨j,J,rfl⟩
  .exact r.zrow id h
  have⟨es,ys,f,_⟩:=G j J;unfold bk;rw[f];rfl
 .rcases (B id).1 O with h|⟨j,J,rfl⟩
  .have⟨x,hx⟩:=r.deep.row id es ys h f c hc u i;exact⟨x,hx.mono λk hk=>⟨I k hk,rfl⟩⟩
  have⟨ae,af,ad,S⟩:=G j J;unfold bk at f;rw[ad]at f;obtain⟨_,rfl⟩:=f;exact S c hc u i
 .rintro id ⟨e,o,j,a,z,h3⟩;obtain⟨_,p,k1,rfl⟩:=key e o a;rw[Cl]at z;exact .inl ⟨e,p,j,k1,z,h3⟩
 .intro id h;rcases(B id).1 h with h|⟨j,J,rfl⟩
  .grind
  exact .inr (.inl ⟨d,ob,j,n,J,rfl⟩)
 grind
def GP(r:R ν Z st F H){d:Nat}(h:xL d st=some st'):∃Z',R ν Z' st' F H/\Ev Rv ν Z st H ν Z' st' H:=by
 unfold xL at h;split at h;rename_i k es z u;simp only[ζa]at h;subst h;have o:=r.obj d _ u;refine⟨λid=>Z id\/∃j,(bq.sl k es z).pt j=true/\id=ν.at d j,R.shut r u (λ_=>me) (λ_ _=>rV) (λ_=>Iff.rfl) (λj B=>?_) (λm' w G y a=>?_)⟩;have:=iV (ob:=.sl k es z) Zc j B;subst this;have b:bN k=true:=B;simp only[cI,b,if_true]at o;have⟨C,a,_,_,D,_⟩:=o;exact⟨es,C,a,D.mono λid h=>⟨.inl h,rfl⟩⟩;refine cG.sub u rfl ?_ (λid h=>.inl h) w a;by_cases b:bN k=true;simp[cI,b]at o;have⟨C,a,I,J,D,_⟩:=o;rw[mN b];have e:jC k es z=.fsl es z:=by cases k<;>simp[bN]at b<;>rfl
 rw[e];refine FR.Bo (.inr ⟨0,b,rfl⟩) (by unfold bk;rw[a];rfl) I (J.mono λid h=>⟨.inl h,rfl⟩);cases k<;>simp[bN]at b;exact .same _ rfl;exact .same _ rfl;rename_i k z u;simp only[ζa]at h;subst h;have⟨c,L⟩:=J2 (Z':=λid=>Z id\/∃j,(bq.dp k z none).pt j=true/\id=ν.at d j) (r.obj d _ u) (λid h=>.inl h) (λj h=>.inr ⟨j,h,rfl⟩);exact⟨_,R.shut r u (λ_=>me) (λ_ _=>rV) (λ_=>Iff.rfl) L (λm' w G y a=>cG.sub u rfl c (λid h=>.inl h) w a)⟩;cases h
def LP(r:R ν Z st F H){d:Nat}(h:ghost (.closeB d) st=some st'):∃Z',R ν Z' st' F H/\Ev Rv ν Z st H ν Z' st' H:=by
 simp[ghost]at h;split at h;rename_i I w;split at h;rename_i J L;simp at h;subst h;have⟨es,z,a,b,_⟩:=r.obj d _ w;have C:=b.dh L;have O:s9 H Z [z]:=by intro c B u e;simp[List.mem_singleton]at B;subst B;have⟨j,Q⟩:=mem_iff_getElem?.1 e;have S:j<J.length:=(by rw[C.1];grind);exact⟨_,C.2 j _ u (ζd S) Q⟩
 refine⟨λid=>Z id\/∃j,(bq.box I).pt j=true/\id=ν.at d j,R.shut r w (λ_=>mI) (λ_ _=>qQ) (λ_=>Iff.rfl) (λj T=>by have:=iV (ob:=.box I) Zc j T;subst this;exact⟨es,_,a,O.mono λid h=>⟨.inl h,rfl⟩⟩) (λm' D U y G=>?_)⟩;refine cG.Ar w (λo W=>?_) (λid h=>.inl h) D G;exact FR.Ca (.inr ⟨0,rfl,rfl⟩) (show bk H (ν d).1=some (es,[z])by unfold bk;rw[a];rfl) rfl (by rw[<-C.1];omega) ((C.drop o).mono λid h=>⟨.inl h,rfl⟩);grind;grind
def rW{d e:Nat}:∀{l:Zw}{j:Nat},(SV.tK d e l)[j]?=(l[j]?).map (SV.qU d e)
 |[],j=>by simp[SV.tK]|x::r,0=>by simp[SV.tK]|x::r,j+1=>by simp[SV.tK,rW]
def nU{d e:Nat}:∀{l:Zw},(SV.tK d e l).length=l.length
 |[]=>rfl|x::r=>by simp[SV.tK,nU]
def Dv{d e:Nat}:∀{g:Tb SV}{s:Nat},bg (yL d e g) s=(bg g s).map (SV.qU d e)
 |[],s=>rfl|(k,x)::r,s=>by simp[yL,bg];split;rfl;exact Dv
def yH{d e:Nat}(B:d≠e):∀{m:Tb bq}{k:Nat},bg m e=none->bg (tP d e m) k=(if k=d then none else(bg m (if k=e then d else k)).map (bq.qU d e))
 |[],k,_=>by simp[tP,bg]|(n,x)::r,k,h=>by simp[bg]at h;split at h;simp_all;have D:=yH B (k:=k) h;grind[tP,bg]
def lE(ν:Nu)(d e:Nat):Nu:=⟨λk=>if k=e then ν d else ν k,λk=>if k=e then ν.inn d else ν.inn k⟩
def Ny(ν:Nu)(d e k j:Nat):(lE ν d e).at k j=ν.at (if k=e then d else k) j:=by cases j<;>simp only[Nu.at,lE]<;>split<;>rfl
def Cz{d e:Nat}{ob:bq}:(ob.qU d e).tD=ob.tD:=by
 cases ob with
 |dp k u w=>rcases w with _|⟨i,t⟩<;>rfl
 |_=>rfl
def Gm{d e:Nat}{ob:bq}:(ob.qU d e).pt=ob.pt:=by
 cases ob with
 |dp k u w=>rcases w with _|⟨i,t⟩<;>rfl
 |_=>rfl
def cG.qU{sv:SV}{y:V}{d e:Nat}(T:bg m e=none)(D:sv.cu e=false)(J:d≠e)(r:cG ν m H Z sv y):cG (lE ν d e) (tP d e m) H Z (sv.qU d e) y:=by
 have key:∀k,k≠e->∀w,bg (tP d e m) (if k=d then e else k)=some w->∃ob,bg m k=some ob/\lE ν d e (if k=d then e else k)=ν k/\w=ob.qU d e:=λk l w h=>by rw[yH J T]at h;by_cases c:k=d;subst c;rw[if_pos rfl,if_neg (Ne.symm J),if_pos rfl,ζf]at h;obtain⟨ob,B,rfl⟩:=h;simp_all[lE];rw[if_neg c,if_neg c,if_neg l,ζf]at h;obtain⟨ob,B,rfl⟩:=h;simp_all[lE]
 induction r with|v x y h=>exact .v x y h|own k y h=>have l:k≠e:=(by simp_all[SV.cu]);refine .own _ y λw G=>?_;obtain⟨ob,c,B,rfl⟩:=key k l w G;obtain⟨_,_,_,D,rfl⟩:=h ob c;exact⟨_,_,_,Cz.trans D,by rw[B]⟩|ptr k o y h=>have l:k≠e:=(by simp_all[SV.cu]);refine .ptr _ o y λw G=>?_;obtain⟨ob,c,B,rfl⟩:=key k l w G;obtain⟨_,rfl,rfl⟩:=h ob c;exact⟨_,rfl,by rw[B]⟩|el k i o y h=>have l:k≠e:=(by simp_all[SV.cu]);refine .el _ i o y λw G=>?_;obtain⟨ob,c,B,rfl⟩:=key k l w G;obtain⟨_,_,_,D,Q,rfl⟩:=h ob c;exact⟨_,_,_,Cz.trans D,Q,by rw[B]⟩|mp k y h=>have l:k≠e:=(by simp_all[SV.cu]);refine .mp _ y λw G=>?_;obtain⟨ob,c,B,rfl⟩:=key k l w G;obtain⟨_,rfl,rfl⟩:=h ob c;exact⟨_,rfl,by rw[B]⟩|clo f a b I S O X hva U C W=>simp[SV.cu]at D;refine .clo f _ _ I S (by rw[nU];omega) (by rw[nU];omega) (λj u v g n=>?_) (λj u v g n=>?_);rw[rW,ζf]at g;obtain⟨L,z,rfl⟩:=g;grind[sA];rw[rW,ζf]at g;obtain⟨L,z,rfl⟩:=g;grind[sA]|tup a I O hva C=>refine .tup _ I (by rw[nU];omega) (λj u v g n=>?_);rw[rW,ζf]at g;obtain⟨L,z,rfl⟩:=g;exact C j L v z n (sA D z)|agg a I O hva C=>refine .agg _ I (by rw[nU];omega) (λj u v g n=>?_);rw[rW,ζf]at g;obtain⟨L,z,rfl⟩:=g;exact C j L v z n (sA D z)|yl id=>exact .yl id
def F9(r:R ν Z st F H){d e:Nat}(D:d≠e)(V:st.new e=true):R (lE ν d e) Z {st with g:=yL d e st.g,m:=tP d e st.m} F H/\Ev Rv ν Z st H (lE ν d e) Z {st with g:=yL d e st.g,m:=tP d e st.m} H:=by
 have⟨n1,U,n3,E⟩:=jL V;have key:∀k z,bg (tP d e st.m) k=some z->∃k0 ob,bg st.m k0=some ob/\z=ob.qU d e/\k0=(if k=e then d else k)/\k≠d/\(k=e/\k0=d\/k≠e/\k0=k):=λk z h=>by rw[yH D U]at h;split at h;simp_all;rename_i a;rw[ζf]at h;obtain⟨ob,B,rfl⟩:=h;by_cases G:k=e;rw[if_pos G]at B;exact⟨d,ob,B,rfl,by grind[lE],a,.inl ⟨G,rfl⟩⟩;rw[if_neg G]at B;exact⟨k,ob,B,rfl,by grind[lE],a,.inr ⟨G,rfl⟩⟩
 have C:∀k j,(lE ν d e).at k j=ν.at (if k=e then d else k) j:=Ny ν d e;have L:∀k,(lE ν d e) k=ν (if k=e then d else k):=λk=>by simp only[lE];split<;>rfl
 have W:∀k,(lE ν d e).inn k=ν.inn (if k=e then d else k):=λk=>by simp only[lE];split<;>rfl
 refine⟨⟨λs sv K=>?_,λk z b=>?_,λc d2 o1 o2 X j2 a B O M J=>?_,λc o1 X a O=>?_,r.zrow,r.deep⟩,⟨le_refl _,λ_ _ _ _ _=>rfl,λid h=>⟨h,rfl⟩,?_,λ_ h=>.inl h,?_,rfl⟩⟩;rw[Dv,ζf]at K;obtain⟨Y,Q,rfl⟩:=K;exact cG.qU U (wO n3 Q) D (r.slot s Y Q);obtain⟨k0,ob,a,rfl,B,_,_⟩:=key k z b;have o:=r.obj k0 ob a;have J:(lE ν d e) k=ν k0:=by rw[L,<-B]
 cases ob with|sl fl es xs=>grind[bq.qU,cI]|box cs=>have⟨es,aa,g1,g2,g3⟩:=o;have I:=(by have:=qn E a;simpa[bq.cu]using this);refine⟨es,aa,by rw[J];exact g1,⟨by rw[nU];exact g2.1,λj u v N hv=>?_⟩,g3⟩;rw[rW,ζf]at N;obtain⟨u',S,rfl⟩:=N;exact cG.qU U (sA I S) D (g2.2 j u' v S hv)|mp ab=>grind[bq.qU,cI]|dp fl xs w=>have hi:(lE ν d e).inn k=ν.inn k0:=(by rw[W,<-B]);have P:∀i x y,tE ν H Z k0 i x y->tE (lE ν d e) H Z k i x y:=λi x y h=>(by unfold tE at h⊢;rw[hi];exact h);have I:=qn E a;rcases w with _|⟨i0,t⟩;simp only[bq.qU,cI,J]at o⊢;split;(next b=>rw[if_pos b]at o;have⟨o1,o2,o3,ys,f,l,n⟩:=o;exact⟨o1,o2,o3,ys,f,l,λi x y p q=>P i x y (n i x y p q)⟩);rename_i b;rw[if_neg b]at o;exact o;simp only[bq.qU,cI,J]at o⊢;split;rename_i b;rw[if_pos b]at o;have⟨o1,o2,o3,ys,f,l,n⟩:=o;refine⟨o1,o2,λi t' e=>by cases e;exact o3 _ _ rfl,ys,f,l,λi x y p q=>?_⟩;have T:=n i x y p q;simp only[mQ]at T⊢;split;(next e0=>rw[if_pos e0]at T;have⟨v,q1,q2,q3⟩:=T;exact⟨v,q1,q2,cG.qU (sv:=.own t) U (by simpa[bq.cu,SV.cu]using I) D q3⟩);rename_i e0;rw[if_neg e0]at T;exact P i x y T;rename_i b;rw[if_neg b]at o;cases o.2
 obtain⟨k1,p1,g1,rfl,e1,c1,A⟩:=key c o1 a;obtain⟨k2,p2,g2,rfl,e2,c3,c4⟩:=key d2 o2 B;rw[Gm]at O M;rw[C,C,<-e1,<-e2]at J;have:=r.inj k1 k2 p1 p2 X j2 g1 g2 O M J;omega;obtain⟨k1,p1,g1,rfl,e1,_⟩:=key c o1 a;rw[Gm]at O;rw[C,<-e1];exact r.apart k1 p1 X g1 O;rintro id ⟨k,o,j,a,B,G⟩;obtain⟨k1,p1,g1,rfl,e1,_⟩:=key k o a;rw[Gm]at B;exact .inl ⟨k1,p1,j,g1,B,by rw[C,<-e1]at G;exact G⟩;intro k b z h;obtain⟨k1,p1,g1,rfl,e1,c1,A⟩:=key k z h;rcases A with⟨rfl,_⟩|⟨A,rfl⟩;grind;exact⟨p1,g1,by rw[L,<-e1],Cz⟩
def R.Vx(r:R ν Z st F H){n:Nat}{sv:SV}(h:cG ν st.m H Z sv (get F n)):R ν Z {st with g:=bu st.g n sv} F H where
 slot:=λs x u=>by by_cases e:n=s;grind[bX];rw[cA st.g sv e]at u;exact r.slot s x u
 obj:=r.obj
 inj:=r.inj
 apart:=r.apart
 zrow:=r.zrow
 deep:=r.deep
def Ms(r:R ν Z st F H){n d es:Nat}{k:Fl}{x:V}(a:jC k es []=x/\bN k=false)(G:bg st.g n=some (.v x))(D:st.new d=true)(J:∀y,FR H Z x y->y=x)(B:mM (ν d) k es 0=x):
 R (gW ν d (ν d)) Z {st with g:=bu st.g n (.own d),m:=bu st.m d (.sl k es [])} F H/\Ev Rv ν Z st H (gW ν d (ν d)) Z {st with g:=bu st.g n (.own d),m:=bu st.m d (.sl k es [])} H:=by
 have u:dJ (.sl k es [])=true->False:=by grind[dJ]
 have r1:=r.add D (p:=ν d) (λh=>(u h).elim) (by grind[cI])
 refine⟨r1.Vx (.own _ _ λz w=>?_),?_⟩
 .rw[bX]at w;cases w;rw[iD,J _ (r.slot n _ G).fr];exact⟨_,_,_,rfl,B.symm⟩
 exact(Ev.add D (le_refl _) (λ_ _ _=>rfl) (λ_ _=>rfl) (λh=>(u h).elim)).trans (Ev.slots _)
def Lu(r:R ν Z st F H){b i d es:Nat}{k:Fl}{x:V}{cs:Zw}(g:bN k=false)(O:bg st.m b=some (.box cs))(T:cs[i]?=some (.v x))(D:st.new d=true)(U:∀y,FR H Z x y->y=x)(G:mM (ν d) k es 0=x):
 ∃ν',R ν' Z {st with m:=bu (bu st.m d (.sl k es [])) b (.box (cs.set i (.own d)))} F H/\Ev Rv ν Z st H ν' Z {st with m:=bu (bu st.m d (.sl k es [])) b (.box (cs.set i (.own d)))} H:=by
 have B:dJ (.sl k es [])=true->False:=by grind[dJ]
 have r1:=r.add D (p:=ν d) (λh=>(B h).elim) (by grind[cI])
 have C:b≠d:=by rintro rfl;rw[(jL D).2.1]at O;cases O
 have z:bg (bu st.m d (.sl k es [])) b=some (.box cs):=by rw[cA _ _ (Ne.symm C)];omega
 have⟨I,J,f,L,W⟩:=r1.obj b _ z;have X:∀e w,bg (bu (bu st.m d (.sl k es [])) b (.box (cs.set i (.own d)))) e=some w->∃ob,bg (bu st.m d (.sl k es [])) e=some ob/\gW ν d (ν d) e=gW ν d (ν d) e/\sameShape ob w:=λe w h=>by by_cases Q:e=b;subst Q;rw[bX]at h;cases h;exact⟨_,z,rfl,rfl⟩;rw[cA _ _ (Ne.symm Q)]at h;exact⟨w,h,rfl,.refl _⟩
 refine⟨gW ν d (ν d),r1.fZ z rfl (lW rfl) (λ_ _=>rfl) rfl ⟨I,J,f,⟨by simp[L.1],λj u v a c=>?_⟩,W⟩,?_⟩
 .rw[getElem?_set]at a;split at a
  .rename_i e;subst e;split at a
   .cases a;refine .own _ _ λw S=>?_
    rw[cA _ _ C,bX]at S;cases S;rw[iD,U v (L.2 i _ v T c).fr];exact⟨_,_,_,rfl,G.symm⟩
   grind
  exact(L.2 j u v a c).mono (λid h=>⟨h,rfl⟩) λe _=>X e
 exact(Ev.add D (le_refl _) (λ_ _ _=>rfl) (λ_ _=>rfl) (λh=>(B h).elim)).trans (Ev.fZ r1 z rfl (lW rfl) (λ_ _=>rfl) rfl (le_refl _))
def Qf(r:R ν Z st F H){d:Nat}(h:zb d st=some st'):R ν Z st' F H/\Ev Rv ν Z st H ν Z st' H:=by
 unfold zb at h;split at h;rename_i k es D u;split at h;rename_i f;obtain⟨rfl,a,w⟩:=f;cases h;have G:∀(i:Nat)(x:Zu),D[i]?=some x->x=[.bD]\/x=[.c7]:=λi x I=>by have:=all_eq_true.1 w x (mem_of_getElem? I);unfold MF at this;split at this;exact .inl rfl;exact .inr rfl;cases this
 have z:∀j,(bq.dp k D none).pt j=true->(bq.sl k 1 D).pt j=true:=λj L=>by cases j with|zero=>exact L|succ i=>obtain⟨-,es,T,I⟩:=qu L;rcases G i _ I with h|h<;>cases h
 have o:=r.obj d _ u;refine⟨r.CE u rfl z (λ_ _=>rfl) ?_,Ev.CE r u rfl z (λ_ _=>rfl) (le_refl _)⟩;simp only[cI]at o⊢;split;rename_i b;rw[if_pos b]at o;have a:k=.row:=by cases k<;>simp_all [bN]
 have⟨Q,o1,o2,o3,U,C⟩:=o;have⟨C,O⟩:=C a;refine⟨a,C,(λi t e=>by cases e),Q,o1,O,λi x y w S=>.inl ⟨?_,G i x w⟩⟩;rw[C,drop_zero,<-O,take_length]at o3;have B:=o3.2 i x y w S;rcases G i x w with rfl|rfl;obtain⟨y,_,rfl,c,J⟩:=B.inv;rw[J.cF,c.bD];obtain⟨y,_,rfl,c,J⟩:=B.inv;rw[J.cF,c.c7];rename_i b;rw[if_neg b]at o;exact⟨o,Zc⟩;cases h;cases h;exact⟨r,.refl⟩;cases h
def QI(r:R ν Z st F H){d es t:Nat}{i:Loc}(h:zo d i es t st=some st'):∃ν',R ν' Z st' F H/\Ev Rv ν Z st H ν' Z st' H:=by
 unfold zo at h;split at h;rotate_left;cases h;rename_i k S i u _;split at h;rotate_left;cases h;rename_i hc;have⟨A,ab⟩:=hc;have⟨x,E,h⟩:=ζg.1 h;obtain⟨ob,b,rfl⟩:=ζf.1 h;have⟨n1,K,n3,n4⟩:=jL ab;have G:d≠t:=by rintro rfl;rw[K]at u;cases u
 have hi:=(ζe.1 E).1;have o:=r.obj d _ u;simp only[cI,A,if_true]at o;obtain⟨o1,o2,-,ys,o3,o4,M⟩:=o;have T:∀j,(bq.dp k S (some (i,t))).pt j=true->j≠i+1/\(bq.dp k S none).pt j=true:=λj I=>by cases j with|zero=>exact⟨Za,I⟩|succ j=>have⟨a,es,D,J⟩:=qu I;exact⟨λe=>a t (by rw[show i=j by omega]),by simp[bq.pt,J]⟩
 have U:∀y,ys[i]?=some y->tE ν H Z d i x y:=λy g=>M i x y E g;obtain⟨y,g⟩:∃y,ys[i]?=some y:=⟨_,ζd Za⟩;have ae:=U y g;obtain⟨v,kk,D,e1,e2,e3,e4,e5,e6⟩:∃v kk D,y=[v]/\v.one=true/\ob=.sl kk es D/\v=mM (ν.inn d i,0) kk es D.length/\(bN kk=true->(bq.dp k S none).pt (i+1)=true/\∃c,H[ν.inn d i]?=some (.row es c)/\eX H Z D c)/\(bN kk=false->D=[]):=by rcases ae with⟨rfl,rfl|rfl⟩|⟨al,D,c,rfl,rfl,N,l⟩;cases b;exact⟨.bD,.nil,[],rfl,rfl,rfl,rfl,(λh=>by cases h),λ_=>rfl⟩;cases b;exact⟨.c7,.emp,[],rfl,rfl,rfl,rfl,(λh=>by cases h),λ_=>rfl⟩;simp only[PB]at b;split at b;(next e=>subst e;cases b;exact⟨_,.row,D,rfl,rfl,rfl,rfl,λ_=>⟨by simp[bq.pt,E],c,N,l⟩,λh=>by cases h⟩);cases b
 subst e3;have r1:R ν Z {st with m:=bu st.m d (.dp k S (some (i,t)))} F H:=by refine r.CE u rfl (λj I=>(T j I).2) (λ_ _=>rfl) ?_;simp only[cI,A,if_true];refine⟨o1,o2,λn t' e=>by cases e;exact hi,ys,o3,o4,λn P V W w=>?_⟩;simp only[mQ];split;(next e=>subst e;rw[g]at w;cases w;exact⟨v,e1,e2,.own _ _ λX q=>by rw[cA _ _ G,K]at q;cases q⟩);exact M n P V W w
 have L:∀e,bg (bu st.m d (.dp k S (some (i,t)))) e=some (.dp k S (some (i,t)))/\e=d\/e≠d/\bg (bu st.m d (.dp k S (some (i,t)))) e=bg st.m e:=λe=>by by_cases C:e=d;subst C;exact .inl ⟨bX _ _ _,rfl⟩;exact .inr ⟨C,cA _ _ (Ne.symm C)⟩
 have hs:=lQ ν t (ν.inn d i,0) (λ_=>0);have ad:(iL ν t (ν.inn d i,0) (λ_=>0)).at t 0=ν.at d (i+1):=congrArg fst hs.1;have O:(bq.sl kk es D).flat:=iV Zc;have af:∀id,Z id->Z id/\bk H id=bk H id:=λid h=>⟨h,rfl⟩;refine⟨iL ν t (ν.inn d i,0) (λ_=>0),r1.OJ (ob:=.sl kk es D) (p:=(ν.inn d i,0)) (f:=λ_=>0) ?_ n3 (λe o C s=>?_) (λj I=>?_) (λj j' I ah _=>by rw[O j I,O j' ah]) ?_,⟨le_refl _,λ_ _ _ _ _=>rfl,af,λid s=>?_,λ_ h=>.inl h,λe C X h=>?_,rfl⟩⟩;rw[cA _ _ G];exact K;rcases L e with⟨a,rfl⟩|⟨a,J⟩;simp only at C;rw[a]at C;cases C;have ai:(iL ν t (ν.inn e i,0) (λ_=>0)) e=ν e:=if_neg G;have aj:(iL ν t (ν.inn e i,0) (λ_=>0)).inn e=ν.inn e:=if_neg G;simp only[cI,A,if_true,ai];refine⟨o1,o2,λn t' e=>by cases e;exact hi,ys,o3,o4,λn P V W w=>?_⟩;simp only[mQ];split;rename_i e9;subst e9;rw[g]at w;cases w;refine⟨v,e1,e2,.own _ _ λX q=>?_⟩;rw[bX]at q;cases q;exact⟨_,_,_,rfl,by rw[hs.1];exact e4⟩;have:=M n P V W w;unfold mQ tE at *;rw[aj];exact this;simp only at C;rw[J]at C;rw[qn n4 C]at s;cases s;have:=O j I;subst this;have z:bN kk=true:=I;rw[ad];refine⟨λ⟨k2,ak,Y,B,Q,z3⟩=>?_,r.apart d _ _ u (e5 z).1⟩;rcases L k2 with⟨a,rfl⟩|⟨a,J⟩;simp only at B;rw[a]at B;cases B;have⟨w1,w2⟩:=T Y Q;exact w1 (r.inj k2 k2 _ _ Y _ u u w2 (e5 z).1 z3).2;simp only at B;rw[J]at B;exact a (r.inj k2 d _ _ Y _ B u Q (e5 z).1 z3).1;simp only[cI];split;rename_i z;have⟨_,c,N,l⟩:=e5 z;rw[hs.1];have hl:=l.1;refine⟨c,N,by simp[hl],?_,l.wR,λ_=>⟨rfl,hl.symm⟩⟩;rw[hl,drop_zero,take_length];exact l;rename_i z;exact e6 (by simpa using z);rcases Fx s with⟨k2,ak,Y,B,Q,z3⟩|⟨j,B,Q⟩;rcases L k2 with⟨a,rfl⟩|⟨a,J⟩;rw[a]at B;cases B;exact .inl ⟨k2,_,Y,u,(T Y Q).2,z3⟩;rw[J]at B;exact .inl ⟨k2,_,Y,B,Q,z3⟩;have:=O j B;subst this;rw[ad]at Q;exact .inl ⟨d,_,i+1,u,(e5 B).1,Q⟩;have aa:e≠t:=by rintro rfl;exact n1 C
 simp only at h;rw[cA _ _ (Ne.symm aa)]at h;rcases L e with⟨a,rfl⟩|⟨a,J⟩;rw[a]at h;cases h;exact⟨_,u,if_neg aa,rfl⟩;rw[J]at h;exact⟨X,h,if_neg aa,.refl _⟩
def RR(r:R ν Z st F H){d:Nat}(h:CW d st=some st'):∃ν',R ν' Z st' F H/\Ev Rv ν Z st H ν' Z st' H:=by
 unfold CW at h;split at h;rotate_left;cases h;rename_i k W i t C;split at h;rotate_left;cases h;rename_i O es T m;split at h;rotate_left;cases h;rename_i hc;have⟨aa,X,V⟩:=hc;cases h;have o:=r.obj d _ C;simp only[cI,V,if_true]at o;have⟨o1,o2,o3,ys,o4,o5,o6⟩:=o;have n:=o3 _ _ rfl;have p:=r.obj t _ m;have z:∀e,e=d/\bg (bu (cR t st.m) d (.dp k (W.set i [jC O es T]) none)) e=some (.dp k (W.set i [jC O es T]) none)\/e≠d/\∀ob,bg (bu (cR t st.m) d (.dp k (W.set i [jC O es T]) none)) e=some ob->e≠t/\bg st.m e=some ob:=λe=>by by_cases Q:e=d;subst Q;exact .inl ⟨rfl,bX _ _ _⟩;refine .inr ⟨Q,λob h=>?_⟩;rw[cA _ _ (Ne.symm Q)]at h;have⟨w1,w2⟩:=jY h;exact⟨Ne.symm w1,w2⟩
 let ν':Nu:=⟨ν.pl,λe u=>if e=d/\u=i then(ν t).1 else ν.inn e u⟩;have ab:∀e,ν' e=ν e:=λ_=>rfl;have D:∀e u,¬(e=d/\u=i)->ν'.inn e u=ν.inn e u:=λe u h=>if_neg h;have B:ν'.inn d i=(ν t).1:=if_pos ⟨rfl,rfl⟩;have A:∀e G,bg (bu (cR t st.m) d (.dp k (W.set i [jC O es T]) none)) e=some G->∃ob,bg st.m e=some ob/\ν' e=ν e/\sameShape ob G:=λe G h=>by rcases z e with⟨rfl,a⟩|⟨a,I⟩;rw[a]at h;cases h;exact⟨_,C,rfl,by simp[sameShape,bq.tD]⟩;exact⟨G,(I _ h).2,rfl,.refl _⟩
 have S:∀id,Z id->Z id/\bk H id=bk H id:=λid h=>⟨h,rfl⟩;have J:∀e ob j,bg (bu (cR t st.m) d (.dp k (W.set i [jC O es T]) none)) e=some ob->ob.pt j=true->∃e0 Y g,bg st.m e0=some Y/\Y.pt g=true/\ν'.at e j=ν.at e0 g/\((e=d/\j=i+1/\e0=t/\g=0)\/(e0=e/\g=j/\e≠t/\¬(e=d/\j=i+1))):=λe ob j h E=>by
  rcases z e with⟨rfl,a⟩|⟨a,I⟩
  .rw[a]at h;cases h;cases j with|zero=>exact⟨e,_,0,C,E,rfl,.inr ⟨rfl,rfl,Ne.symm X,Za⟩⟩|succ u=>
    obtain⟨-,ae,af,L⟩:=qu E;by_cases w:u=i
    .subst w;rw[getElem?_set_self n]at L;have ad:bN O=true:=(by cases O<;>first|rfl|cases L);exact⟨t,_,0,m,ad,B,.inl ⟨rfl,rfl,rfl,rfl⟩⟩
    rw[getElem?_set_ne (Ne.symm w)]at L;exact⟨e,_,u+1,C,by simp[bq.pt,L,Ne.symm w],D e u Za,.inr ⟨rfl,rfl,Ne.symm X,Za⟩⟩
  have⟨l,K⟩:=I _ h;refine⟨e,ob,j,K,E,?_,.inr ⟨rfl,rfl,l,Za⟩⟩;cases j with|zero=>rfl|succ u=>exact D e u Za
 refine⟨ν',⟨λs sv hs=>(r.slot s sv hs).mono S λe _=>A e,λe ob Q=>?_,λM d2 o1 o2 N j2 a I P b2 hp=>?_,λM o1 N a P=>?_,r.zrow,r.deep⟩,⟨le_refl _,λ_ _ _ _ _=>rfl,S,λid⟨e,o,j,a,I,l⟩=>?_,λ_ h=>.inl h,λe _=>A e,rfl⟩⟩;rcases z e with⟨rfl,a⟩|⟨a,I⟩;simp only at Q;rw[a]at Q;cases Q;simp only[cI,V,if_true,ab];refine⟨o1,o2,(λu t' e=>by cases e),ys,o4,by simp[o5],λu x y L hy=>?_⟩;by_cases w:u=i;subst w;rw[getElem?_set_self n]at L;cases L;have U:=o6 u _ y (ζd n) hy;simp only[mQ,if_true]at U;obtain⟨v,rfl,-,hv⟩:=U;obtain⟨_,_,_,q,rfl⟩:=hv.gb m;cases q;show tE ν' H Z e u _ _;simp only[cI]at p;cases O with|nil=>exact .inl ⟨rfl,.inl rfl⟩|emp=>exact .inl ⟨rfl,.inr rfl⟩|row=>simp only[bN,if_true]at p;have⟨ws,p1,p2,p3,p4,p5⟩:=p;have⟨p5,p6⟩:=p5 trivial;rw[p5,drop_zero,<-p6,take_length]at p3;exact .inr ⟨es,T,ws,rfl,by rw[B];simp[mM,p5],by rw[B];exact p1,p3⟩|part=>exact absurd rfl aa
 rw[getElem?_set_ne (Ne.symm w)]at L;have U:=o6 u x y L hy;simp only[mQ,if_neg (Ne.symm w)]at U;show tE ν' H Z e u _ _;unfold tE at U⊢;rw[D e u Za];exact U;have⟨l,K⟩:=I _ Q;exact cI.mono (ν:=ν) (ν':=ν') S rfl (λ_ _=>rfl) (λe' _=>A e') (r.obj e ob K) (funext λu=>D e u Za);have⟨e1,p1,b,k1,c,f,c1⟩:=J M o1 N a P;have⟨e2,p2,q2,k2,l2,u2,c2⟩:=J d2 o2 j2 I b2;have:=r.inj e1 e2 p1 p2 b q2 k1 k2 c l2 (by rw[<-f,<-u2];exact hp);omega;have⟨e1,p1,b,k1,c,f,c1⟩:=J M o1 N a P;rw[f];exact r.apart e1 p1 b k1 c;have⟨e1,p1,b,k1,c,f,c1⟩:=J e o j a I;exact .inl ⟨e1,p1,b,k1,c,by rw[<-f];exact l⟩
def MV(r:R ν Z st F H){x:Gh}(h:ghost x st=some st'):∃ν' Z',R ν' Z' st' F H/\Ev Rv ν Z st H ν' Z' st' H:=by cases x with|close d=>have⟨Z',a,b⟩:=GP (Rv:=Rv) r h;grind|closeS l=>simp[ghost]at h;split at h;have⟨Z',a,b⟩:=GP (Rv:=Rv) r h;grind;simp at h;subst h;exact⟨ν,Z,r,.refl⟩;grind|closeB d=>have⟨Z',a,b⟩:=LP (Rv:=Rv) r h;grind|keep gs I=>simp[ghost]at h;split at h;(next g m e C=>simp at h;subst h;exact⟨ν,Z,r.less (λs G w=>oZ e w) (λd ob B=>oZ C B),Ev.less (λd ob B=>oZ C B)⟩);grind|drop ds=>simp[ghost]at h;subst h;exact⟨ν,Z,r.less (λs G w=>nG w) (λd ob B=>B),Ev.less (λd ob B=>B)⟩|melt d=>have⟨a,b⟩:=Qf (Rv:=Rv) r h;exact⟨ν,Z,a,b⟩|take d i es t=>have⟨ν',a,b⟩:=QI (Rv:=Rv) r h;exact⟨ν',Z,a,b⟩|put d=>have⟨ν',a,b⟩:=RR (Rv:=Rv) r h;exact⟨ν',Z,a,b⟩|canon l d es=>cases l with|s n=>simp[ghost]at h;split at h;rename_i w;split at h;rename_i u;simp at h;have⟨a,b⟩:=Ms (Rv:=Rv) (es:=es) (k:=.nil) r ⟨rfl,rfl⟩ w u (λy h=>h.bD) rfl;grind;grind;rename_i w;split at h;rename_i u;simp at h;have⟨a,b⟩:=Ms (Rv:=Rv) (es:=es) (k:=.emp) r ⟨rfl,rfl⟩ w u (λy h=>h.c7) rfl;grind;grind;split at h;simp at h;subst h;exact⟨ν,Z,r,.refl⟩;rename_i z;split at h;rename_i u;simp at h;have⟨a,b⟩:=F9 (Rv:=Rv) r z u;grind;grind;split at h;simp at h;subst h;exact⟨ν,Z,r,.refl⟩;rename_i z;split at h;rename_i u;simp at h;have⟨a,b⟩:=F9 (Rv:=Rv) r z u;grind;grind;grind|c b i=>simp[ghost]at h;split at h;rename_i J D;split at h;rename_i w;split at h;rename_i u;simp at h;have⟨ν',a,b⟩:=Lu (Rv:=Rv) (es:=es) (k:=.nil) r rfl D w u (λy h=>h.bD) rfl;grind;grind;rename_i w;split at h;rename_i u;simp at h;have⟨ν',a,b⟩:=Lu (Rv:=Rv) (es:=es) (k:=.emp) r rfl D w u (λy h=>h.c7) rfl;grind;grind;split at h;simp at h;subst h;exact⟨ν,Z,r,.refl⟩;rename_i z;split at h;rename_i u;simp at h;have⟨a,b⟩:=F9 (Rv:=Rv) r z u;grind;grind;grind;grind
end
structure nq(E:Env)(f:FuncId)(q:Dz):Prop where
 keep:E.keep f=true
 own:E.own f=false
 le:∀es xs vs ys,q.go es xs vs=some ys->ys.length<=xs.length/\(q.part=false->ys.length=xs.length)
 none:∀es vs ys,q.go es [] vs=some ys->∀(H:bh)(Z:Nat->Prop)(ws:List V)(w:V),cV H Z vs ws->(w=.bD\/w=.c7)->∃n X,∀k,n<=k->run E k (.fn f) (w::ws) H=some (if q.part then w else .undef,H++X)
 row:∀es xs vs ys,q.go es xs vs=some ys->∀(H:bh)(Z:Nat->Prop)(ws:List V)(id off:Nat)(rs:List (List V)),cV H Z vs ws->H[id]?=some (.row es rs)->off+xs.length<=rs.length->
  eX H Z xs ((rs.drop off).take xs.length)->s9 H Z rs->¬Z id->∃n rs' X,(∀k,n<=k->run E k (.fn f) (.hsl id es off xs.length::ws) H=some (if q.part then .hsl id es off ys.length else .undef,(H++X).set id (.row es rs')))/\
   rs'.length=rs.length/\eX H Z ys ((rs'.drop off).take ys.length)/\s9 H Z rs'
section
variable{Rv:Nat->Prop}{ν ν':Nu}{Z Z':Nat->Prop}{st st':St}{m m':Tb bq}{F F':Zo}{H H':bh}
def P5{E:Env}{f:Zk}{q:Dz}(i:nq E f q)(r:R ν Z st F H){args:Zw}{ys:Zu}(K:bT ν st.m H Z args ys){dst:aY Nat}{sv:SV}(h:AM q dst args st=some (sv,st')):
 ∃n y H' ν',(∀k,n<=k->run E k (.fn f) ys H=some (y,H'))/\R ν' Z st' F H'/\cG ν' st'.m H' Z sv y/\Ev Rv ν Z st H ν' Z st' H'/\Kept dst ν st.m ν' st'.m:=by
 unfold AM at h;split at h
 .rename_i d vs;obtain⟨w,p,rfl,M,N⟩:=K.inv;split at h
  .rename_i k es xs zs u G;have s:=bT.dh N G;split at h
   .rename_i ns T;have⟨al,P⟩:=i.le _ _ _ _ T;obtain⟨_,_,_,ee,rfl⟩:=M.gb u;cases ee;have grow:∀X:bh,R ν Z st F (H++X)/\Ev Rv ν Z st H ν Z st (H++X)/\∀id,Z id->bk (H++X) id=bk H id:=λX=>by
     have j:∀id,id<H.length->(H++X)[id]?=H[id]?:=λid h=>getElem?_append_left h
     have G:∀id,Z id->bk (H++X) id=bk H id:=λid h=>by unfold bk;rw[j id (r.tv h)]
     exact⟨r.heap (λid h=>j id (r.lt h)) G,Ev.heap Zc (λid h _ _ _=>j id h) G,G⟩
    have o:=r.obj d _ u
    cases a:bN k with
    |false=>
     simp only[cI,a,false_eq_true,if_false]at o;subst o;have hw:mM (ν d) k es 0=.bD\/mM (ν d) k es 0=.c7:=by cases k<;>simp[mM,bN]at a⊢
     have⟨n,X,L⟩:=i.none _ _ _ T H Z p _ s hw;have⟨b,I,U⟩:=grow X;simp only[a,false_eq_true,if_false]at h;split at h
     .rename_i O;split at h
      .rename_i t;split at h
       .rename_i z;simp only[ζa,ζc]at h;obtain⟨rfl,rfl⟩:=h;have r1:R ν Z {st with m:=cR d st.m} F (H++X):=b.less (g:=st.g) (λ_ _ h=>h) jJ
        rw[if_pos O]at L;refine⟨n,_,H++X,gW ν t (ν d),L,r1.add z (λl=>by simp[dJ,a]at l) (by simp[cI,a]),?_,?_,Kept.add jJ⟩
        .refine .own _ _ λah W=>?_
         simp only at W;rw[bX]at W;cases W;exact⟨_,_,_,rfl,by rw[iD];rfl⟩
        exact I.trans (Ev.re (st:=st) jJ (jL z).1 (le_refl _) (λ_ _ _ _=>rfl) (λ_ _=>rfl) (λl=>by simp[dJ,a]at l))
       cases h
      cases h
     rename_i O;simp only[ζa,ζc]at h;obtain⟨rfl,rfl⟩:=h;rw[if_neg O]at L;have hu:bu st.m d (.sl k es [])=st.m:=qV u;rw[hu];exact⟨n,_,H++X,ν,L,b,.v _ _ (.same _ rfl),I,.refl⟩
    |true=>
     simp only[cI,a,if_true]at o;have⟨rs,v,hl,hf,ab,Q⟩:=o;have B:dJ (.sl k es xs)=true:=a;have⟨n,C,X,L,e1,e2,e3⟩:=i.row _ _ _ _ T H Z p _ _ rs s v hl hf ab (r.apart d _ 0 u B);have⟨b,I,U⟩:=grow X;have ai:(ν d).1<(H++X).length:=by have:=(ζe.1 v).1;simp;omega
     have G:∀id,Z id->Z id/\bk ((H++X).set (ν d).1 (.row es C)) id=bk H id:=λid D=>⟨D,by
      rw[<-U id D];unfold bk;rw[getElem?_set_ne];rintro rfl;exact r.apart d _ 0 u B D⟩
     have x:∀id,Z id->bk ((H++X).set (ν d).1 (.row es C)) id=bk (H++X) id:=λid D=>by rw[(G id D).2,U id D]
     have c:∀id,id≠(ν d).1->((H++X).set (ν d).1 (Ob.row es C))[id]?=(H++X)[id]?:=λid aj=>getElem?_set_ne (Ne.symm aj)
     have J:((H++X).set (ν d).1 (Ob.row es C))[(ν d).1]?=some (.row es C):=getElem?_set_self ai;rw[mN a];simp only[a,if_true]at h;split at h
     .rename_i O;split at h
      .rename_i t;split at h
       .rename_i z;simp only[ζa,ζc]at h;obtain⟨rfl,rfl⟩:=h;have r1:R ν Z {st with m:=cR d st.m} F (H++X):=b.less (g:=st.g) (λ_ _ h=>h) jJ
        have A:¬eB ν (cR d st.m) (ν d).1:=by rintro⟨k2,o2,j2,g1,g2,g3⟩;have⟨g4,g5⟩:=jY g1;exact g4 (r.inj d k2 _ o2 0 j2 u g5 B g2 g3.symm).1
        have r2:R ν Z {st with m:=cR d st.m} F ((H++X).set (ν d).1 (.row es C)):=r1.heap (λid ho=>c id (by rintro rfl;exact A ho)) x
        rw[if_pos O]at L;refine⟨n,_,_,gW ν t (ν d),L,r2.add z (λ_=>⟨A,r.apart d _ 0 u B⟩) ?_,?_,?_,Kept.add jJ⟩
        .simp only[cI,bN,if_true,iD];exact⟨C,J,Za,e2.mono G,e3.mono G,λe=>by cases e⟩
        .refine .own _ _ λah W=>?_
         simp only at W;rw[bX]at W;cases W;exact⟨_,_,_,rfl,by rw[iD];rfl⟩
        exact I.trans (Ev.re (st:=st) jJ (jL z).1 Zc (λid _ ho _=>c id (by rintro rfl;exact ho ⟨d,_,0,u,B,rfl⟩)) x (λ_=>.inl ⟨d,_,0,u,B,rfl⟩))
       cases h
      cases h
     rename_i O;simp only[ζa,ζc]at h;obtain⟨rfl,rfl⟩:=h;rw[if_neg O]at L;have ak:q.part=false:=by simpa using O
     have S:=P ak;have Y:sameShape (.sl k es xs) (.sl k es ns):=by simp[sameShape,bq.tD,S]
     refine⟨n,_,_,ν,L,b.fZ u Y (lW rfl) c B ?_,.v _ _ (.same _ rfl),I.trans (Ev.fZ b u Y (lW rfl) c B Zc),Kept.fZ u Y (lW rfl)⟩
     simp only[cI,a,if_true];exact⟨C,J,Za,e2.mono G,e3.mono G,λe=>⟨(Q e).1,by rw[e1,(Q e).2,S]⟩⟩
   cases h
  cases h
 cases h
end
def vA:Nat->Zw->Tb SV
 |_,[]=>[]|i,v::vs=>(i,v)::vA (i+1) vs
def start(svs:Zw)(B:dF):St:=⟨vA 0 svs,B,B.map (·.1),[],true,0⟩
def iY(S:Sys)(c:bU):Prop:=∀f u w rs z,c f u w=some (rs,z)->∀(ν:Nu)(Z:Nat->Prop)(args:Zu)(H:bh),(S.E.keep f=true\/H=[])->R ν Z (start u w) args H->bT ν w H Z u args->∃n y H' ν' Z' st' F' B,run S.E n (.fn f) args H=some (y,H')/\y=result B/\st'.m=z/\bT ν' z H' Z' rs B/\R ν' Z' st' F' H'/\Ev (λ_=>False) ν Z (start u w) H ν' Z' st' H'
section
variable{Rv:Nat->Prop}{ν ν':Nu}{Z Z':Nat->Prop}{st st':St}{m m':Tb bq}{F F':Zo}{H H' H1:bh}{N:Nat->Zk}
def MN{k:Fl}{es:Nat}{xs:Zt}{d:Nat}(o:cI ν m H Z d (.sl k es xs)):(jC k es xs).good=true:=by
 by_cases a:bN k=true;simp only[cI,a,if_true]at o;have⟨w,_,_,u,_⟩:=o;have e:jC k es xs=.fsl es xs:=by cases k<;>simp[bN]at a<;>rfl
 rw[e];simp only[V.good];exact u.good;cases k<;>simp[bN]at a<;>rfl
mutual
def Lp(D:∀d ob,bg m d=some ob->cI ν m H Z d ob):∀(n:Nat)(sv:SV)(x y:V),shut m n sv=some x->cG ν m H Z sv y->x.good=true
 |n,.v x,z,y,h,r=>by simp only[shut,ζa]at h;subst h;exact r.fr.good|n,.own d,z,y,h,r=>by simp only[shut]at h;split at h;(next k es xs B=>simp only[ζa]at h;subst h;exact MN (D d _ B));(next k xs B=>simp only[ζa]at h;subst h;exact(J2 (Z':=λ_=>True) (D d _ B) (λ_ _=>trivial) (λ_ _=>trivial)).1.good);simp at h|0,.ptr d o,z,y,h,r=>by simp[shut]at h|n+1,.ptr d o,z,y,h,r=>by simp only[shut]at h;split at h;rename_i cs B;split at h;rename_i xs O;split at h;simp only[ζa]at h;subst h;obtain⟨es,G,_,p,_⟩:=D d _ B;simp only[V.good];exact wD _ (lX D n cs xs G O p);simp at h;simp at h;simp at h|n,.el d i o,z,y,h,r=>by cases n<;>simp[shut]at h|n,.yl id,z,y,h,r=>by cases n<;>simp[shut]at h|n,.mp d,z,y,h,r=>by simp only[shut]at h;split at h;rename_i L B;simp only[ζa]at h;subst h;obtain⟨w,_,e⟩:=D d _ B;simp only[V.good];refine DN.2 λj u g=>?_;have Q:j<w.length:=(by rw[<-e.1];exact(ζe.1 g).1);obtain⟨⟨_,c⟩,C⟩:=e.2 j u _ g (ζd Q);exact⟨je c,C.good⟩;simp at h|0,.clo f a b,z,y,h,r=>by simp[shut]at h|n+1,.clo f a b,z,y,h,r=>by simp only[shut]at h;split at h;(next S x2 c C=>simp only[ζa]at h;subst h;obtain⟨T,U,rfl,W,X⟩:=r.jy;simp only[V.good,ζh];exact⟨lX D n a S T c W,lX D n b x2 U C X⟩);simp at h|0,.tup l,z,y,h,r=>by simp[shut]at h|n+1,.tup l,z,y,h,r=>by simp only[shut]at h;obtain⟨xs,c,rfl⟩:=ζf.1 h;obtain⟨I,rfl,J⟩:=r.oT;simp only[V.good];exact lX D n l xs I c J|0,.agg l,z,y,h,r=>by simp[shut]at h|n+1,.agg l,z,y,h,r=>by simp only[shut]at h;obtain⟨xs,c,rfl⟩:=ζf.1 h;obtain⟨I,rfl,J⟩:=r.h_;simp only[V.good];exact lX D n l xs I c J
def lX(D:∀d ob,bg m d=some ob->cI ν m H Z d ob):∀(n:Nat)(svs:Zw)(xs ys:Zu),cU m n svs=some xs->bT ν m H Z svs ys->V.cB xs=true
 |n,[],xs,ys,h,r=>by simp only[cU,ζa]at h;subst h;rfl|n,sv::svs,xs,ys,h,r=>by simp only[cU]at h;split at h;(next y s a G=>simp only[ζa]at h;subst h;obtain⟨J,B,rfl,r1,r2⟩:=r.inv;simp only[V.cB,ζh];exact⟨Lp D n sv y J a r1,lX D n svs s B G r2⟩);simp at h
end
def Gp{f:V->aY V}:∀{xs ys:aX (V×V)},xs.length=ys.length->(∀(j:Nat)u v,xs[j]?=some u->ys[j]?=some v->f v.1=some u.1/\f v.2=some u.2)->kG f ys=some xs
 |[],[],_,_=>rfl|[],y::ys,h,_=>by simp at h|x::xs,[],h,_=>by simp at h|(a,b)::xs,(c,d)::ys,h,B=>by have⟨e,D⟩:=B 0 _ _ rfl rfl;simp only at e D;simp only[kG,e,D,Gp (xs:=xs) (ys:=ys) (by simpa using h) λj u v g i=>B (j+1) u v (by simpa using g) (by simpa using i)]
def Gd:∀{l:aX (V×V)}{n:Nat},V.rA n l=true↔∀(j:Nat)u,l[j]?=some u->u.1.lvl n=true/\u.2.lvl n=true
 |[],n=>by simp[V.rA]|(k,x)::l,n=>by simp only[V.rA,ζh,Gd (l:=l)];constructor;rintro⟨b,B⟩ j u a;(cases j with|zero=>simp at a;subst a;exact b|succ j=>exact B j u (by simpa using a));intro h;exact⟨h 0 (k,x) rfl,λj u a=>h (j+1) u (by simpa using a)⟩
def ta{n:Nat}{xs ys:Zu}(D:gR (borrow n H1) ys=some xs)(B:V.gN ys=true):ys=xs:=by
 have w:=jM (f:=borrow n H1) (xs:=ys) (ys:=ys) rfl λj u v a b=>by rw[a]at b;cases b;exact dW n H1 (nT.1 B j u a)
 rw[D]at w;cases w;rfl
mutual
def Hf{fr:Zv}(J:∀d∈fr,∀e ob,bg m e=some ob->ob.cu d=false)(O:∀d ob,bg m d=some ob->d∉fr->cI ν m H1 Z d ob):
 ∀(n:Nat)(sv:SV)(x y:V),shut m n sv=some x->(∀d∈fr,sv.cu d=false)->cG ν m H1 Z sv y->∀k,x.lvl k=true->borrow k H1 y=some x
 |n,.v x,z,y,h,D,r,k,hk=>by simp only[shut,ζa]at h;subst h;exact r.fr.borrow k hk|n,.own d,z,y,h,D,r,k,hk=>by simp only[shut]at h;split at h;rename_i T es xs B;simp only[ζa]at h;subst h;obtain⟨_,_,_,e,rfl⟩:=r.gb B;cases e;have C:d∉fr:=λC=>(by have:=D d C;simp[SV.cu]at this);have o:=O d _ B C;by_cases I:bN T=true;simp only[cI,I,if_true]at o;obtain⟨ys,g,H,K,_⟩:=o;rw[mN I];have e:jC T es xs=.fsl es xs:=(by cases T<;>simp[bN]at I<;>rfl);rw[e]at hk⊢;exact(FR.Bo (Z:=λ_=>True) trivial (show bk H1 (ν d).1=some (es,ys)by unfold bk;rw[g];rfl) H (K.mono λid h=>⟨trivial,rfl⟩)).borrow k hk;cases T<;>simp[bN]at I;exact dW k H1 rfl;exact dW k H1 rfl;rename_i T xs B;simp only[ζa]at h;subst h;obtain⟨_,_,_,e,rfl⟩:=r.gb B;cases e;have C:d∉fr:=λC=>(by have:=D d C;simp[SV.cu]at this);exact(J2 (Z':=λ_=>True) (O d _ B C) (λ_ _=>trivial) (λ_ _=>trivial)).1.borrow k hk;simp at h|0,.ptr d o,z,y,h,D,r,k,hk=>by simp[shut]at h|n+1,.ptr d o,z,y,h,D,r,k,hk=>by
  simp only[shut]at h;split at h;rename_i L B;split at h;rename_i xs s;split at h;rename_i M;simp only[ζa]at h;subst h;obtain⟨_,e,rfl⟩:=r.nO B;cases e;have C:d∉fr:=λC=>by have:=D d C;simp[SV.cu]at this
  obtain⟨es,Q,g,t,_⟩:=O d _ B C
  cases k with
  |zero=>simp[V.lvl]at hk|succ k=>
   simp only[V.lvl]at hk;have N:∀e∈fr,SV.c_ e (L.drop o)=false:=λe P=>by
    have:=J e P d _ B;simp only[bq.cu]at this
    cases R:SV.c_ e (L.drop o)with
    |false=>rfl|true=>
     exfalso;have:∀{l:Zw}{j:Nat},SV.c_ e (l.drop j)=true->SV.c_ e l=true:=by
      intro l
      induction l with
      |nil=>intro j h;simpa using h|cons a l S=>intro j h;cases j with
       |zero=>simpa using h|succ j=>simp only[SV.c_,or_eq_true];exact .inr (S (by simpa using h))
     rw[this R]at *;simp_all
   have U:xs.length=L.length:=by have:∀{l:Zw}{r:Zu},cU m n l=some r->r.length=l.length:=(by intro l;induction l with|nil=>intro r h;simp only[cU,ζa]at h;subst h;rfl|cons a l S=>intro r h;simp only[cU]at h;split at h;(next c W=>simp only[ζa]at h;subst h;simp[S W]);simp at h);exact this s
   have ae:cU m n (L.drop o)=some (xs.drop o):=by have:∀{l:Zw}{r:Zu}{j:Nat},cU m n l=some r->cU m n (l.drop j)=some (r.drop j):=(by intro l;induction l with|nil=>intro r j h;simp only[cU,ζa]at h;subst h;simp[cU]|cons a l S=>intro r j h;have h0:=h;simp only[cU]at h;split at h;rename_i c W;simp only[ζa]at h;subst h;(cases j with|zero=>exact h0|succ j=>exact S W);simp at h);exact this s
   have hb:=js J O n (L.drop o) (xs.drop o) (Q.drop o) ae N (t.drop o) k hk;unfold borrow;simp only[V.closed,false_eq_true,if_false,g,ζb,Ob.rows,List.getElem?_cons_zero,if_pos (show o<=Q.length by rw[<-t.1,<-U];exact M),hb,map_some]
  simp at h;simp at h;simp at h
 |n,.el d i o,z,y,h,D,r,k,hk=>by cases n<;>simp[shut]at h|n,.yl id,z,y,h,D,r,k,hk=>by cases n<;>simp[shut]at h|n,.mp d,z,y,h,D,r,k,hk=>by simp only[shut]at h;split at h;rename_i af B;simp only[ζa]at h;subst h;obtain⟨_,e,rfl⟩:=r.BQ B;cases e;have C:d∉fr:=λC=>(by have:=D d C;simp[SV.cu]at this);obtain⟨X,g,Y⟩:=O d _ B C;(cases k with|zero=>simp[V.lvl]at hk|succ k=>simp only[V.lvl]at hk;unfold borrow;simp only[V.closed,false_eq_true,if_false,g];rw[Gp (xs:=af) (ys:=X) Y.1 λj u v A hv=>?_];rfl;obtain⟨⟨e1,e2⟩,e3⟩:=Y.2 j u v A hv;exact⟨by rw[<-e1];exact dW k H1 (V.kP (je e2)),e3.borrow k (Gd.1 hk j u A).2⟩);simp at h
 |0,.clo f a b,z,y,h,D,r,k,hk=>by simp[shut]at h|n+1,.clo f a b,z,y,h,D,r,k,hk=>by simp only[shut]at h;split at h;rename_i x1 x2 c W;simp only[ζa]at h;subst h;obtain⟨a',E,rfl,ra,rb⟩:=r.jy;(cases k with|zero=>simp[V.lvl]at hk|succ k=>simp only[V.lvl,ζh]at hk;have G:=js J O n a x1 a' c (λd C=>by have:=D d C;simp only[SV.cu,or_eq_false_iff]at this;exact this.1) ra k hk.1;have F:=js J O n b x2 E W (λd C=>by have:=D d C;simp only[SV.cu,or_eq_false_iff]at this;exact this.2) rb k hk.2;by_cases w:(V.clo f a' E).closed=true;rw[dW _ _ w];simp only[V.closed,ζh]at w;rw[ta G w.1,ta F w.2];unfold borrow;rw[if_neg w];simp only[G,F]);simp at h|0,.tup l,z,y,h,D,r,k,hk=>by simp[shut]at h|n+1,.tup l,z,y,h,D,r,k,hk=>by simp only[shut]at h;obtain⟨xs,c,rfl⟩:=ζf.1 h;obtain⟨p,rfl,q⟩:=r.oT;cases k with|zero=>simp[V.lvl]at hk|succ k=>simp only[V.lvl]at hk;have G:=js J O n l xs p c (λd C=>by have:=D d C;simpa[SV.cu]using this) q k hk;by_cases w:(V.tup p).closed=true;rw[dW _ _ w];simp only[V.closed]at w;rw[ta G w];unfold borrow;rw[if_neg w];simp only[G,map_some]
 |0,.agg l,z,y,h,D,r,k,hk=>by simp[shut]at h|n+1,.agg l,z,y,h,D,r,k,hk=>by simp only[shut]at h;obtain⟨xs,c,rfl⟩:=ζf.1 h;obtain⟨p,rfl,q⟩:=r.h_;cases k with|zero=>simp[V.lvl]at hk|succ k=>simp only[V.lvl]at hk;have G:=js J O n l xs p c (λd C=>by have:=D d C;simpa[SV.cu]using this) q k hk;by_cases w:(V.agg p).closed=true;rw[dW _ _ w];simp only[V.closed]at w;rw[ta G w];unfold borrow;rw[if_neg w];simp only[G,map_some]
def js{fr:Zv}(B:∀d∈fr,∀e ob,bg m e=some ob->ob.cu d=false)(J:∀d ob,bg m d=some ob->d∉fr->cI ν m H1 Z d ob):
 ∀(n:Nat)(svs:Zw)(xs ys:Zu),cU m n svs=some xs->(∀d∈fr,SV.c_ d svs=false)->bT ν m H1 Z svs ys->∀k,V.kn k xs=true->gR (borrow k H1) ys=some xs
 |n,[],xs,ys,h,D,r,k,hk=>by simp only[cU,ζa]at h;subst h;rw[r.cF];rfl|n,sv::svs,xs,ys,h,D,r,k,hk=>by simp only[cU]at h;split at h;rename_i y s a O;simp only[ζa]at h;subst h;obtain⟨T,G,rfl,r1,r2⟩:=r.inv;simp only[V.kn,ζh]at hk;have w:=Hf B J n sv y T a (λd u=>by have:=D d u;simp only[SV.c_,or_eq_false_iff]at this;exact this.1) r1 k hk.1;have z:=js B J n svs s G O (λd u=>by have:=D d u;simp only[SV.c_,or_eq_false_iff]at this;exact this.2) r2 k hk.2;simp only[gR,w,z];simp at h
end
end
def N5(n:Nat):V.kn n []=true:=by cases n<;>rfl
def KU(n:Nat)(x:V)(r:Zu):V.kn n (x::r)=(V.lvl n x&&V.kn n r):=by cases n<;>rfl
mutual
def B1:∀{n:Nat}{x:V},V.lvl n x=true->V.lvl (n+1) x=true
 |0,.fsl ..,h=>by simp[V.lvl]at h|0,.fptr ..,h=>by simp[V.lvl]at h|0,.fmap ..,h=>by simp[V.lvl]at h|0,.agg ..,h=>by simp[V.lvl]at h|0,.tup ..,h=>by simp[V.lvl]at h|0,.clo ..,h=>by simp[V.lvl]at h|n+1,.fsl es xs,h=>by simp only[V.lvl]at h⊢;exact Az h|n+1,.fptr cs,h=>by simp only[V.lvl]at h⊢;exact qO h|n+1,.fmap B,h=>by simp only[V.lvl]at h⊢;exact Cs h|n+1,.agg cs,h=>by simp only[V.lvl]at h⊢;exact qO h|n+1,.tup cs,h=>by simp only[V.lvl]at h⊢;exact qO h|n+1,.clo f a b,h=>by simp only[V.lvl,ζh]at h⊢;exact⟨qO h.1,qO h.2⟩|0,.bool _,_|0,.int ..,_|0,.str _,_|0,.gL,_|0,.f_,_|0,.qK,_|0,.c7,_|0,.bD,_|0,.hsl ..,_|0,.hptr ..,_|0,.yld _,_|0,.hmap _,_=>rfl|_+1,.bool _,_|_+1,.int ..,_|_+1,.str _,_|_+1,.gL,_|_+1,.f_,_|_+1,.qK,_|_+1,.c7,_|_+1,.bD,_|_+1,.hsl ..,_|_+1,.hptr ..,_|_+1,.yld _,_|_+1,.hmap _,_=>rfl
def qO:∀{n:Nat}{x:Zu},V.kn n x=true->V.kn (n+1) x=true
 |n,[],_=>N5 _|n,a::l,h=>by rw[KU,ζh]at h⊢;exact⟨B1 h.1,qO h.2⟩
def Az:∀{n:Nat}{x:Zt},V.oe n x=true->V.oe (n+1) x=true
 |n,[],_=>by simp only[V.oe]|n,a::l,h=>by simp only[V.oe,ζh]at h⊢;exact⟨qO h.1,Az h.2⟩
def Cs:∀{n:Nat}{x:aX (V×V)},V.rA n x=true->V.rA (n+1) x=true
 |n,[],_=>by simp only[V.rA]|n,(k,v)::l,h=>by simp only[V.rA,ζh]at h⊢;exact⟨⟨B1 h.1.1,B1 h.1.2⟩,Cs h.2⟩
end
def vP{n m:Nat}(h:n<=m){x:V}(B:V.lvl n x=true):V.lvl m x=true:=by induction h with|refl=>exact B|step _ u=>exact B1 u
def nR{n m:Nat}(h:n<=m){x:Zu}(B:V.kn n x=true):V.kn m x=true:=by induction h with|refl=>exact B|step _ u=>exact qO u
def Oj{n m:Nat}(h:n<=m){x:Zt}(B:V.oe n x=true):V.oe m x=true:=by induction h with|refl=>exact B|step _ u=>exact Az u
def Q_{n m:Nat}(h:n<=m){x:aX (V×V)}(B:V.rA n x=true):V.rA m x=true:=by induction h with|refl=>exact B|step _ u=>exact Cs u
mutual
def yB:∀x:V,∃n,V.lvl n x=true
 |.fsl es xs=>let⟨n,h⟩:=Gs xs;⟨n+1,by simp only[V.lvl];exact h⟩|.fptr u=>let⟨n,h⟩:=k_ u;⟨n+1,by simp only[V.lvl];exact h⟩|.fmap w=>let⟨n,h⟩:=H6 w;⟨n+1,by simp only[V.lvl];exact h⟩|.agg u=>let⟨n,h⟩:=k_ u;⟨n+1,by simp only[V.lvl];exact h⟩|.tup u=>let⟨n,h⟩:=k_ u;⟨n+1,by simp only[V.lvl];exact h⟩|.clo f a b=>let⟨n,h⟩:=k_ a;let⟨m,k⟩:=k_ b;⟨max n m+1,by simp only[V.lvl,ζh];exact⟨nR (le_max_left _ _) h,nR (le_max_right _ _) k⟩⟩|.bool _|.int ..|.str _|.gL|.f_|.qK|.c7|.bD|.hsl ..|.hptr ..|.yld _|.hmap _=>⟨0,rfl⟩
def k_:∀x:Zu,∃n,V.kn n x=true
 |[]=>⟨0,by simp only[V.kn]⟩|a::l=>let⟨n,h⟩:=yB a;let⟨m,k⟩:=k_ l;⟨max n m,by simp only[V.kn,ζh];exact⟨vP (le_max_left _ _) h,nR (le_max_right _ _) k⟩⟩
def Gs:∀x:Zt,∃n,V.oe n x=true
 |[]=>⟨0,by simp only[V.oe]⟩|a::l=>let⟨n,h⟩:=k_ a;let⟨m,k⟩:=Gs l;⟨max n m,by simp only[V.oe,ζh];exact⟨nR (le_max_left _ _) h,Oj (le_max_right _ _) k⟩⟩
def H6:∀x:aX (V×V),∃n,V.rA n x=true
 |[]=>⟨0,by simp only[V.rA]⟩|(a,b)::l=>let⟨n,h⟩:=yB a;let⟨m,k⟩:=yB b;let⟨q,p⟩:=H6 l;⟨max n (max m q),by simp only[V.rA,ζh];exact⟨⟨vP Za h,vP Za k⟩,Q_ Za p⟩⟩
end
section
variable{Rv:Nat->Prop}{ν ν':Nu}{Z Z':Nat->Prop}{st st':St}{m m':Tb bq}{F F':Zo}{H H' H1:bh}{N:Nat->Zk}{S:Sys}{c:bU}
def EF:∀(l:Zw)(i s:Nat)(sv:SV),bg (vA i l) s=some sv->∃j,s=i+j/\l[j]?=some sv
 |[],i,s,sv,h=>by simp[vA,bg]at h|x::l,i,s,sv,h=>by simp only[vA,bg]at h;split at h;(next e=>simp only[ζa]at h;subst h;exact⟨0,Za,rfl⟩);have⟨j,a,B⟩:=EF l (i+1) s sv h;exact⟨j+1,Za,by simpa using B⟩
def vH{svs:Zw}{args:Zu}(h:bT ν m H Z svs args):∀s sv,bg (vA 0 svs) s=some sv->cG ν m H Z sv (get args s):=λs sv u=>by obtain⟨j,rfl,w⟩:=EF svs 0 s sv u;have⟨y,z,r⟩:=h.get w;rw[Nat.zero_add,E7 args j y z];exact r
def yM{az:Zu}(a:V.cB az=true):R ⟨λ_=>(0,0),λ_ _=>0⟩ (λ_=>False) (start (az.map .v) []) az []/\bT ⟨λ_=>(0,0),λ_ _=>0⟩ [] [] (λ_=>False) (az.map .v) az:=by have h:bT ⟨λ_=>(0,0),λ_ _=>0⟩ [] [] (λ_=>False) (az.map .v) az:=bT.qc (cV.same a);refine⟨⟨vH h,λd ob u=>by simp[start,bg]at u,λd z ob w j B u=>by simp[start,bg]at u,λd ob j u=>by simp[start,bg]at u,λid h=>h.elim,⟨λid es C h=>h.elim⟩⟩,h⟩
def Ed{xs ys:Zu}(h:cV H Z xs ys):((result xs).scalar=true->result ys=result xs)/\(result ys).scalar=(result xs).scalar:=by cases xs with|nil=>rw[h.cF];exact⟨λ_=>rfl,rfl⟩|cons x xs=>obtain⟨y,ys,rfl,a,u⟩:=h.inv;cases xs with|nil=>rw[u.cF];exact a.scalar|cons x2 xs=>obtain⟨w,ys,rfl,z,B⟩:=u.inv;exact FR.scalar (.tup _ _ h.1 h.2)
def Ad(Y:iY S c){f:Zk}{az ys:Zu}{rs:Zw}{m':dF}(g:V.cB az=true)(h:c f (az.map .v) []=some (rs,m'))(O:cU m' 8 rs=some ys):
 ∃n r H2,(∀k,n<=k->run S.E k (.fn f) az []=some (r,H2))/\(∀k,n<=k->borrow k H2 r=some (result ys))/\(result ys).good=true:=by
 have⟨X,r1⟩:=yM g;obtain⟨n,y,H2,ν',Z',st',F',B,i,rfl,Z,Q,T,_⟩:=Y f _ _ _ _ h _ _ az [] (.inr rfl) X r1;subst Z;have C:=lX T.obj 8 rs ys B O Q;have⟨L,U⟩:=k_ ys;refine⟨max n (L+1),result B,H2,λk e=>(nL S.E (le_trans (le_max_left ..) e)).go _ _ _ _ i,λk e=>?_,?_⟩
 .have w:=js (fr:=[]) (λd D=>by simp at D) (λd ob D _=>T.obj d ob D) 8 rs _ _ O (λd D=>by simp at D) Q
  obtain⟨k,rfl⟩:∃j,k=j+1:=⟨k-1,Za⟩
  have W:=w k (nR Za U)
  have m:=w (k+1) (nR Za U)
  have⟨e1,e2⟩:=iA m
  cases B with
  |nil=>obtain rfl:=List.eq_nil_of_length_eq_zero e1;exact dW _ H2 rfl|cons z B=>
   cases B with
   |nil=>
    obtain⟨y,rfl⟩:∃y,ys=[y]:=by cases ys with|nil=>simp at e1|cons y l=>cases l with|nil=>exact⟨y,rfl⟩|cons _ _=>simp at e1
    have⟨x,o,I⟩:=e2 0 y rfl;cases o;exact I
   |cons z2 B=>
    obtain⟨y,G,l,rfl⟩:∃y G l,ys=y::G::l:=by cases ys with|nil=>simp at e1|cons y l=>cases l with|nil=>simp at e1|cons G l=>exact⟨y,G,l,rfl⟩
    by_cases u:(V.tup (z::z2::B)).closed=true
    .simp only[result];rw[dW _ _ u];simp only[V.closed]at u;rw[ta W u]
    simp only[result];unfold borrow;rw[if_neg u];simp only[W,map_some]
 have:∀{l:Zu},V.cB l=true->(result l).good=true:=by
  intro l J
  cases l with
  |nil=>rfl|cons a l=>cases l with
   |nil=>simp only[V.cB,ζh]at J;exact J.1|cons b l=>simp only[result,V.good];exact J
 exact this C
theorem Ck {f:FuncId} {args az:aX V} {y r:V} {H2:bh} {n:Nat} (hr:∀k,n<=k->run S.E k (.fn f) az []=some (r,H2)) (D:∀k,n<=k->borrow k H2 r=some y) (hg:y.good=true) {B:Nat} (G:∀k,B<=k->borrows k H args=some az) :
 ∀k,max n B<=k->bS (run S.E k) f args H=some y:=λk hk=>by
 unfold bS;simp only[mY,G k Za,hr k Za,D k Za,V.kP hg,if_true]
def qa(B:∀id,Z id->(bk H id).isSome=true){T:Zv}{id:Nat}(h:Z id):bk (cD H T) id=bk H id:=by
 have:=B id h;unfold bk at this⊢;rw[ij];cases u:H[id]?with|none=>rw[u]at this;simp at this|some ob=>
  rw[u]at this;simp only[map_some,ζb];by_cases e:id∈T
  .rw[if_pos e];cases ob<;>first|rfl|simp[Ob.rows]at this
  rw[if_neg e]
def sY{T:Zv}{id:Nat}(h:id∉T):(cD H T)[id]?=H[id]?:=by rw[ij];cases H[id]?<;>simp[h]
def yq{az:Zu}{args:Zw}{ys:Zu}(B:∀d ob,bg m d=some ob->cI ν m H Z d ob)(h:cU m 8 args=some az)(r:bT ν m H Z args ys):V.cB az=true:=lX B 8 args az ys h r
def vE{az:Zu}{args:Zw}{ys:Zu}(r:R ν Z st F H)(B:bT ν st.m H Z args ys)(h:cU st.m 8 args=some az):∃n,∀k,n<=k->borrows k H ys=some az:=
 let⟨n,w⟩:=k_ az
 ⟨n,λk a=>js (fr:=[]) (λd u=>Ze) (λd ob u _=>r.obj d ob u) 8 args az ys h (λd u=>Ze) B k (nR a w)⟩
def mh{b id:Nat}(h:id<b):bk (H.take b) id=bk H id:=by grind[bk]
def Jf{b:Nat}{fr:Zv}{az:Zu}{args:Zw}{ys:Zu}(r:R ν Z st F H)(B:bT ν st.m H Z args ys)(h:cU st.m 8 args=some az)
 (D:∀d ob j,bg st.m d=some ob->ob.pt j=true->d∉fr->ν.at d j<b)(G:∀id,Z id->id<b)(a:gA st.m fr args=true):∃n,∀k,n<=k->borrows k (H.take b) ys=some az:=by
 have⟨n,z⟩:=k_ az;refine⟨n,λk f=>?_⟩
 unfold gA at a;have c:∀d∈fr,SV.c_ d args=false/\rG d st.m=false:=λd u=>by grind
 have w:∀id,Z id->Z id/\bk (H.take b) id=bk H id:=λid h=>⟨h,mh (G id h)⟩
 refine js (λd u e ob C=>qn (c d u).2 C) (λd ob u I=>?_) 8 args az ys h (λd u=>(c d u).1) (B.mono w λe _=>iC ν st.m e) k (nR f z)
 exact cI.mono w rfl (λj J=>List.getElem?_take_of_lt (D d ob j u J I)) (λe _=>iC ν st.m e) (r.obj d ob u)
def HM(hS:iY S c){ops:Zz}{place:aY (Nat×Nat)}{dr N:Zl}{fr:Zv}(ad:dr=place.isSome)(aa:∀b i,place=some (b,i)->N=true->dn ops i=true)
 (e:∀b i,place=some (b,i)->(∀d ob j,bg st.m d=some ob->ob.pt j=true->d∉fr->ν.at d j<b)/\∀id,Z id->id<b)
 (r:R ν Z st F H){args:Zw}{ys:Zu}(g:bT ν st.m H Z args ys){f:Zk}(s:jX S.E ops place f=false){az:Zu}(t:cU st.m 8 args=some az)(a:(!dr||N)=true\/gA st.m fr args=true)
 {rs:Zw}{m':dF}{G:Zu}(v:c f (az.map .v) []=some (rs,m'))(Y:cU m' 8 rs=some G)(O:(result G).scalar=true\/(dh args).isSome=true):
 ∃n H',(∀k,n<=k->dI S.E (run S.E k) ops place f ys H=some (result G,H'))/\R ν Z st F H'/\cG ν st.m H' Z (.v (result G)) (result G)/\Ev Rv ν Z st H ν Z st H':=by
 have hg:=yq r.obj t g;have⟨A,rr,H2,l,P,E⟩:=Ad hS hg v Y;have⟨n2,hb⟩:=vE r g t;have I:=Ck l P E hb;generalize hn:max A n2=n at I;have ab:=I;have af:∀k,n<=k->cH (bY k H) ys=cH (bY n H) ys:=λk s=>wI s (hb n Za)
 have C:∀{H'},cG ν st.m H' Z (.v (result G)) (result G):=.v _ _ (.same _ E);have B:∀T:Zv,(∀id∈T,Z id)->R ν Z st F (cD H T)/\Ev Rv ν Z st H ν Z st (cD H T):=λT Q=>
  ⟨r.heap (λid ho=>sY λw=>by obtain⟨d,ob,j,g1,g2,rfl⟩:=ho;exact r.apart d ob j g1 g2 (Q _ w)) (λid w=>qa r.zrow w),
   Ev.heap (by rw[kr];grind) (λid _ _ Y _=>sY λw=>Y (Q id w)) (λid w=>qa r.zrow w)⟩
 have J:(dh args).isSome=true->(∀id∈cH (bY n H) ys,Z id)/\True:=λU=>by
  have⟨xs,U⟩:=isSome_iff_exists.1 U;have m:=g.dh U;exact⟨λid w=>by
   have⟨j,u,o,W⟩:=oF w;have K:j<xs.length:=by rw[m.1];grind
   exact FR.bY r.deep n (m.2 j _ u (ζd K) o) id W,trivial⟩
 cases place with
 |none=>
  by_cases z:(result G).scalar=true
  .exact⟨n,H,λk D=>by grind[dI],r,C,.refl⟩
  obtain⟨Q,-⟩:=J (O.resolve_left z);have⟨p,q⟩:=B _ Q;exact⟨n,cD H (cH (bY n H) ys),λk D=>by grind[dI,mY],p,C,q⟩
 |some bi=>
  have⟨b,i⟩:=bi;have⟨o1,o2⟩:=e b i rfl;have ah:=ad;have fits:∀k,bS (run S.E k) f ys (H.take b)=some (result G)->(result G).scalar=false->iu (H.take b) (cH (bY k (H.take b)) ys)=true/\cH (bY k H) ys=cH (bY k (H.take b)) ys:=λk _ ai=>by have⟨xs,U⟩:=isSome_iff_exists.1 (O.resolve_left Zd);have m:=g.dh U;have L:∀id,Z id->Z id/\bk (H.take b) id=bk H id:=λid h=>⟨h,mh (o2 id h)⟩;have hd:Deep (H.take b) Z:=⟨λid es ys Y hr c v u o=>by rw[(L id Y).2]at hr;have⟨x,U⟩:=r.deep.row id es ys Y hr c v u o;exact⟨x,U.mono L⟩⟩;have M:∀id∈cH (bY k (H.take b)) ys,Z id:=λid w=>(by have⟨j,u,o,W⟩:=oF w;have K:j<xs.length:=(by rw[m.1];grind);exact FR.bY hd k ((m.2 j _ u (ζd K) o).mono L) id W);refine⟨?_,sM _ λid w=>o2 id (M id w)⟩;unfold iu;rw[all_eq_true];intro id w;have l:=r.zrow id (M id w);rw[<-(L id (M id w)).2]at l;exact l
  rcases a with a|a
  .have aj:=aa b i rfl Zd
   by_cases z:(result G).scalar=true
   .refine⟨n,H,λk D=>?_,r,C,.refl⟩
    grind[dI,oJ]
   obtain⟨Q,-⟩:=J (O.resolve_left z);have⟨p,q⟩:=B _ Q;refine⟨n,cD H (cH (bY n H) ys),λk D=>?_,p,C,q⟩
   simp only[dI,s,mY,false_eq_true,if_false];split
   next y hy=>have h9:=oJ hy;rw[ab k D]at h9;grind
   grind
  have⟨n3,ae⟩:=Jf r g t o1 o2 a;have X:=Ck l P E ae
  by_cases z:(result G).scalar=true
  .refine⟨max A n3,H,λk D=>?_,r,C,.refl⟩
   grind[dI]
  obtain⟨Q,-⟩:=J (O.resolve_left z);have⟨p,q⟩:=B _ Q;refine⟨max n (max A n3),cD H (cH (bY n H) ys),λk D=>?_,p,C,q⟩
  simp only[dI,s,mY,false_eq_true,if_false];have h9:=X k Za
  grind
theorem D1{α:Type}{k:Nat}{v:α}:∀{ds:Zv}{g:Tb α},bg (oc ds g) k=some v->k∉ds
 |[],_,_=>Zc|d::ds,g,h=>by have a:=D1 (ds:=ds) h;have u:=(jY (nG h)).1;grind
def uh:∀{args:Zw}{ds:Zv},rowsOf m args=some ds->(∀d∈ds,∃k es xs,bg m d=some (.sl k es xs))/\∀(j:Nat)u,args[j]?=some u->(∃x,u=.v x)\/∃d,u=.own d/\d∈ds
 |[],_,h=>by cases h;simp|.v x::r,ds,h=>by obtain⟨b,B⟩:=uh (args:=r) (by simpa[rowsOf]using h);refine⟨b,λj u c=>?_⟩;cases j with|zero=>grind|succ j=>exact B j u Zd
 |.own d::r,ds,h=>by
  simp only[rowsOf]at h;split at h
  .rename_i k es xs z;obtain⟨C,b,rfl⟩:=ζf.1 h;obtain⟨g1,g2⟩:=uh b;refine⟨λw a=>?_,λj u c=>?_⟩;rcases mem_cons.1 a with rfl|a;exact⟨_,_,_,z⟩;exact g1 w a;cases j with|zero=>grind|succ j=>rcases g2 j u Zd with k|⟨w,k1,k2⟩;all_goals grind
  cases h
 |.ptr ..::_,_,h|.el ..::_,_,h|.mp _::_,_,h|.clo ..::_,_,h|.tup _::_,_,h|.agg _::_,_,h|.yl _::_,_,h=>by simp[rowsOf]at h
def zS{H0:bh}(n:Deep H0 Z)(T:∀d ob,bg m d=some ob->dJ ob=true->(H0[(ν d).1]?).isSome=true->ob.flat->cI ν m H0 Z d ob){args:Zw}{ys:Zu}(O:bT ν m H0 Z args ys){ds:Zv}(f:rowsOf m args=some ds)
 {q id:Nat}(h:id∈cH (bY q H0) ys):Z id\/∃d ob,d∈ds/\bg m d=some ob/\dJ ob=true/\(ν d).1=id/\∃j es off len:Nat,ys[j]?=some (V.hsl id es off len):=by
 have⟨j,y,Q,a⟩:=oF h;have S:j<args.length:=by rw[O.1];grind
 have b:=ζd S;have C:=O.2 j _ y b Q;rcases(uh f).2 j _ b with⟨x,e⟩|⟨d,e,G⟩
 .rw[e]at C;cases C with|v _ _ hf=>grind[FR.bY]
 rw[e]at C;have⟨k,es,D,B⟩:=(uh f).1 d G;obtain⟨_,_,_,U,rfl⟩:=C.gb B;cases U
 by_cases w:bN k=true
 .cases q with
  |zero=>grind[bY]|succ q=>
  have I:mM (ν d) k es D.length=.hsl (ν d).1 es (ν d).2 D.length:=by cases k<;>first|rfl|cases w
  rw[I]at a;have W:dJ (.sl k es D)=true:=w
  by_cases z:(H0[(ν d).1]?).isSome=true
  .have o:=T d _ B W z (iV Zc)
   simp[cI,w]at o;have⟨p,g,_,_,X,_⟩:=o;simp only[bY,V.closed,false_eq_true,if_false,g,mem_cons]at a;rcases a with rfl|a
   .grind
   have⟨i,u,b,Y⟩:=oF a;have⟨c,l,J⟩:=List.mem_flatten.1 (mem_of_getElem? b);have⟨x,r⟩:=X c (List.mem_of_mem_drop (List.mem_of_mem_take l)) u J
   grind[FR.bY]
  grind[bY]
 have L:(mM (ν d) k es D.length).closed=true:=by cases k<;>first|rfl|(exact absurd rfl w)
 rw[xI q H0 L]at a;cases a
theorem QW (hS:iY S c) {ops:aX Oper} {place:aY (Nat×Nat)} {nw:Bool} (ai:∀b i,place=some (b,i)->nw=true->dn ops i=true)
 (hold:∀b i,place=some (b,i)->∀id,Z id->id<b)
 (r:R ν Z st F H) {args:aX SV} {ys:aX V} (U:bT ν st.m H Z args ys) {f:FuncId} (hk:S.E.keep f=false) {az:aX V} (hs:cU st.m 8 args=some az) (aj:(!place.isSome||nw)=true)
 {rs:aX SV} {m':dF} {D:aX V} (hc:c f (az.map .v) []=some (rs,m')) (J:cU m' 8 rs=some D) (ak:(result D).scalar=false) {ds:aX Nat} (hr:rowsOf st.m args=some ds) :
 ∃n H',(∀k,n<=k->dI S.E (run S.E k) ops place f ys H=some (result D,H'))/\R ν Z { st with m:=oc ds st.m } F H'/\cG ν (oc ds st.m) H' Z (.v (result D)) (result D)/\Ev Rv ν Z st H ν Z { st with m:=oc ds st.m } H':=by
 have hg:=yq r.obj hs U;obtain⟨n1,rr,H2,h1,h2,h3⟩:=Ad hS hg hc J;obtain⟨n2,X⟩:=vE r U hs;have B:=Ck h1 h2 h3 X;generalize hn:max n1 n2=n at B;have I:=B;have al:∀k,n<=k->cH (bY k H) ys=cH (bY n H) ys:=λk hk=>wI hk (X n Za)
 have L:∀{H'},cG ν (oc ds st.m) H' Z (.v (result D)) (result D):=.v _ _ (.same _ h3);have z:∀d ob,bg (oc ds st.m) d=some ob->bg st.m d=some ob:=λd ob h=>nG h
 have hT:∀id∈cH (bY n H) ys,Z id\/∃d ob,d∈ds/\bg st.m d=some ob/\dJ ob=true/\(ν d).1=id/\∃j es off len:Nat,ys[j]? = some (V.hsl id es off len):=λid w=>zS r.deep (λd ob h _ _ _=>r.obj d ob h) U hr w
 have r2  := r.less (λ_ _ h=>h) z
 have q1  := r2.heap (λid Y=>sY λw=>by
  obtain⟨d,ob,j,g1,g2,rfl⟩:=Y;rcases hT _ w with h|⟨d',G,k1,k2,k3,k4,_⟩
  .exact r.apart d ob j (z d ob g1) g2 h
  have:=(r.inj d' d G ob 0 j k2 (z d ob g1) k3 g2 k4).1
  grind[D1]) (λid w=>qa r.zrow w)
 have q2:Ev Rv ν Z st H ν Z { st with m:=oc ds st.m } (cD H (cH (bY n H) ys)):=(Ev.heap (by rw[kr];grind) (λid _ Y J _=>sY λw=>by
  rcases hT _ w with h|⟨d',G,k1,k2,k3,k4,_⟩
  .simp_all
  exact Y ⟨d',G,0,k2,k3,k4⟩) (λid w=>qa r.zrow w)).trans (Ev.less  z)
 cases place with
 | none=>exact⟨n,cD H (cH (bY n H) ys),λk O=>by grind[dI,jX,mY],q1,L,q2⟩
 | some bi=>
  obtain⟨b,i⟩:=bi;have o2:=hold b i rfl;have fits:∀k,bS (run S.E k) f ys (H.take b)=some (result D)->iu (H.take b) (cH (bY k (H.take b)) ys)=true/\cH (bY k H) ys=cH (bY k (H.take b)) ys:=λk W=>by
   have C:∀id,Z id->Z id/\bk (H.take b) id=bk H id:=λid h=>⟨h,mh (o2 id h)⟩
   have hd:Deep (H.take b) Z:=⟨λid es ys J hr c hc u hu=>by
    rw[(C id J).2]at hr;obtain⟨x,hx⟩:=r.deep.row id es ys J hr c hc u hu;exact⟨x,hx.mono C⟩⟩
   have aa  := U.mono C λe _=>iC ν st.m e
   have ab:∀d ob,bg st.m d=some ob->dJ ob=true->((H.take b)[(ν d).1]?).isSome=true->ob.flat->cI ν st.m (H.take b) Z d ob:=λd ob h X ad ae=>
    cI.mono C rfl (λj hj=>by
     have:=ae j hj;subst this;simp only[Nu.at]
     grind) (λe _=>iC ν st.m e) (r.obj d ob h)
   have Q:∀(j:Nat) (y:V),ys[j]? = some y->(borrow k (H.take b) y).isSome=true:=λj y T=>by
    unfold bS at W;rw[mY]at W;split at W
    .rename_i af ah;obtain⟨_,hm⟩:=iA ah;have hj:=(ζe.1 T).1;obtain⟨x,am,an⟩:=hm j _ (ζd (show j<af.length by omega))
     grind
    cases W
   have hZ:∀id∈cH (bY k (H.take b)) ys,id<b/\(bk (H.take b) id).isSome=true:=λid w=>by
    rcases zS hd ab aa hr w with h|⟨d,ob,k1,k2,k3,k4,j,es,off,len,T⟩
    .have:=r.zrow id h
     grind
    have ao:=Q j _ T
    cases k with
    | zero=>grind[borrow,V.closed]
    | succ k=>
    grind[borrow,V.closed,bk]
   refine⟨?_,sM _ λid w=>(hZ id w).1⟩
   unfold iu;rw[List.all_eq_true];exact λid w=>(hZ id w).2
  refine⟨n,cD H (cH (bY n H) ys),λk O=>?_,q1,L,q2⟩
  simp only[dI,jX,hk,mY,Bool.false_and,Bool.false_eq_true,if_false];split
  next y T=>have h9:=oJ T;rw[I k O]at h9;grind
  grind
def Hz{xs ys:Zt}(h:eX H Z xs ys)(B:ny xs=true):ys=xs:=by
 refine(List.ext_getElem h.1 λj a z=>?_).symm;have:=h.2 j _ _ (ζd a) (ζd z);have w:=by unfold ny at B;rw[all_eq_true]at B;have:=B _ (List.getElem_mem a);rw[all_eq_true]at this;exact pS.2 λk u b=>this u (mem_of_getElem? b)
 exact(this.scalar.1 w).symm
def BO:∀{B:Zv}{os:Tb bq}{g:Tb bq},kM g B=some os->∀k ob,bg os k=some ob->bg g k=some ob
 |[],os,g,h,k,ob,hk=>by grind[kM,bg]|n::r,os,g,h,k,ob,hk=>by simp only[kM]at h;split at h;rename_i v t a D;cases h;simp only[bg]at hk;split at hk;grind;exact BO D k ob hk;cases h
def Hy{args:Zw}{os:dF}(h:handed m args=some os):∀k ob,bg os k=some ob->bg m k=some ob:=BO h
mutual
def NK{d:Nat}:∀{x:SV},x.cu d=true->d∈x.B8
 |.v _,h=>by simp[SV.cu]at h|.own e,h|.ptr e _,h|.el e _ _,h|.mp e,h=>by simp[SV.cu]at h;simp[SV.B8,h]|.clo _ a b,h=>by simp only[SV.cu,or_eq_true]at h;simp only[SV.B8,List.mem_append];rcases h with h|h;exact .inl (tC h);exact .inr (tC h)
 |.tup l,h|.agg l,h=>by simp only[SV.cu]at h;simp only[SV.B8];exact tC h|.yl _,h=>by simp[SV.cu]at h
def tC{d:Nat}:∀{l:Zw},SV.c_ d l=true->d∈SV.wv l
 |[],h=>by simp[SV.c_]at h|x::r,h=>by simp only[SV.c_,or_eq_true]at h;simp only[SV.wv,List.mem_append];rcases h with h|h;exact .inl (NK h);exact .inr (tC h)
end
def Hg{D:Zv}{ob:bq}(h:within D ob=true){e:Nat}(B:ob.cu e=true):e∈D:=by cases ob with|box C=>unfold within at h;rw[all_eq_true]at h;simpa using h e (tC B)|sl k es u=>grind[bq.cu]|mp z=>grind[bq.cu]|dp k u w=>rcases w with _|⟨i,t⟩;cases B;simp only[bq.cu,beq_iff_eq]at B;subst B;simpa[within,bq.B8]using h
def BL{B:Zv}:∀{l:Zv}{a b:Tb bq},wP B m' l a=some b->(∀k∈l,bg b k=bg m' k/\∃ob,bg m' k=some ob/\within B ob=true)/\∀k,k∉l->bg b k=bg a k
 |[],a,b,h=>by grind[wP]|d::r,a,b,h=>by simp[wP]at h;split at h;rename_i ob D;split at h;rename_i G;have⟨e,J⟩:=BL h;refine⟨λk c=>?_,λk c=>?_⟩;grind[bX];simp_all[cA,Ne.symm];grind;grind
def Eg{l:Zv}{a b:Tb bq}(h:mj m' l a=some b):(∀k∈l,bg b k=bg m' k/\∃ob,bg m' k=some ob/\within l ob=true)/\∀k,k∉l->bg b k=bg a k:=BL h
theorem mem_keys:∀{os:dF}{k:Nat},k∈os.map (·.1)↔∃ob,bg os k=some ob
 |[],k=>by simp[bg]|(d,o)::os,k=>by simp[bg];by_cases e:d=k;simp_all;rw[if_neg e,<-mem_keys];grind
def rZ:∀{l:Zw}{j:Nat}{u:SV},SV.vk l=true->l[j]?=some u->u.bare=true
 |[],j,u,h,B=>by simp at B|x::r,j,u,h,B=>by simp only[SV.vk,ζh]at h;cases j with|zero=>grind|succ j=>exact rZ h.2 (by simpa using B)
theorem cG.bare {Z2:Nat->Prop} {sv:SV} {y:V} (r:cG ν m H Z sv y):sv.bare=true->cG ν m H Z2 sv y:=by
 induction r with
 | v x y h=>
  intro z;have z:x.scalar=true:=z;rw[(h.scalar.1 z)];exact .v _ _ (.same _ (je z))
 | own d y h=>intro _;exact .own d y h
 | ptr d o y h=>intro _;exact .ptr d o y h
 | el d i o y h=>intro _;exact .el d i o y h
 | mp d y h=>intro _;exact .mp d y h
 | clo f a b B G C z hva I w D=>
  intro h;simp only[SV.bare,ζh]at h;exact .clo f a b B G C z (λj u v hu hv=>w j u v hu hv (rZ h.1 hu)) λj u v hu hv=>D j u v hu hv (rZ h.2 hu)
 | tup a B C hva w=>intro h;exact .tup a B C λj u v hu hv=>w j u v hu hv (rZ h hu)
 | agg a B C hva w=>intro h;exact .agg a B C λj u v hu hv=>w j u v hu hv (rZ h hu)
 | yl id=>intro _;exact .yl id
def cI.bare{Z2:Nat->Prop}{d:Nat}{ob:bq}(B:∀e,ν' e=ν e)(h:ob.bare=true)(o:cI ν m H Z d ob):cI ν' m H Z2 d ob:=by cases ob with|box I=>have⟨es,w,b,C,D⟩:=o;exact⟨es,w,by rw[B];exact b,⟨C.1,λj u v a c=>((C.2 j u v a c).bare (Z2:=Z2) (rZ h a)).mono (λid h=>⟨h,rfl⟩) λe _ z h=>⟨z,h,B e,.refl _⟩⟩,D⟩|sl k es J=>cases h|mp G=>cases h|dp _ _ _=>cases h
def yP(hS:iY S c){f:Zk}(ar:S.E.keep f=true)(r:R ν Z st F H){args:Zw}{ys:Zu}(ha:bT ν st.m H Z args ys){os:dF}(hh:handed st.m args=some os)
 {rs:Zw}{m':dF}{O:Tb bq}(hc:c f args os=some (rs,m'))(q:mj m' (os.map (·.1)) st.m=some O):
 ∃n H' T Z' J F1 K ν2,(∀k,n<=k->run S.E k (.fn f) ys H=some (result K,H'))/\J.m=m'/\bT T m' H' Z' rs K/\R T Z' J F1 H'/\(∀e ob,bg m' e=some ob->e∉os.map (·.1)->dJ ob=true->¬eB ν2 O (T e).1/\(eB ν st.m (T e).1\/H.length<=(T e).1))/\(∀e,ν2 e=ν e)/\
  R ν2 Z' {st with m:=O} F H'/\Ev Rv ν Z st H ν2 Z' {st with m:=O} H'/\(∀e ob',bg O e=some ob'->∃ob,bg st.m e=some ob/\ν e=ν e/\sameShape ob ob')/\
  ((∀k∈os.map (·.1),vV O k=true)->R ν Z {st with m:=O} F H'/\Ev Rv ν Z st H ν Z {st with m:=O} H'/\∀dst,Kept dst ν st.m ν O):=by
 have z:=Hy hh;have al:=ha.mono (λid h=>⟨h,rfl⟩) λe _ ob' h=>⟨ob',z e ob' h,rfl,.refl _⟩
 have r0:R ν Z (start args os) ys H:=by refine⟨vH al,λd ob hd=>?_,λd d' ob ob' j j' a B=>r.inj d d' ob ob' j j' (z d ob a) (z d' ob' B),λd ob j h=>r.apart d ob j (z d ob h),r.zrow,r.deep⟩;exact cI.mono (λid h=>⟨h,rfl⟩) rfl (λ_ _=>rfl) (λe _ ob' h=>⟨ob',z e ob' h,rfl,.refl _⟩) (r.obj d ob (z d ob hd))
 obtain⟨n,y,H',T,Z',J,F1,K,e1,rfl,rfl,e2,e3,ev⟩:=hS f args os rs m' hc ν Z ys H (.inl ar) r0 al;have⟨b1,b2⟩:=Eg q;have am:∀k ob',k∈os.map (·.1)->bg J.m k=some ob'->∃ob,bg os k=some ob/\T k=ν k/\sameShape ob ob':=λk ob' l h=>ev.pin k l ob' h
 have I:∀id,eB ν os id->eB ν st.m id:=λid⟨k,o,j,a,B,C⟩=>⟨k,o,j,z k o a,B,C⟩
 have L:∀k ob',bg O k=some ob'->∃ob,bg st.m k=some ob/\sameShape ob ob'/\(k∈os.map (·.1)/\bg J.m k=some ob'/\T k=ν k/\within (os.map (·.1)) ob'=true\/k∉os.map (·.1)/\ob'=ob):=λk ob' h=>by by_cases l:k∈os.map (·.1);grind;rw[b2 k l]at h;exact⟨ob',h,.refl _,.inr ⟨l,rfl⟩⟩
 have u:∀k ob j,k∉os.map (·.1)->bg st.m k=some ob->ob.pt j=true->H'[ν.at k j]?=H[ν.at k j]?/\¬Z' (ν.at k j)/\¬eB T J.m (ν.at k j):=λk ob j l h D=>by
  have P:¬eB ν os (ν.at k j):=by rintro⟨k2,o2,U,g1,g2,g3⟩;have:=(r.inj k2 k o2 ob U j (z k2 o2 g1) h g2 D g3).1;grind[mem_keys]
  have au:=r.lt ⟨k,ob,j,h,D,rfl⟩;have av:=r.apart k ob j h D;refine⟨ev.same _ au P av (λh=>h),λaw=>?_,λho=>?_⟩
  .rcases ev.frz _ aw with h|h|h|h;simp_all;exact P h;all_goals grind
  rcases ev.own _ ho with h|h|h;exact P h;exact h;have h:H.length<=ν.at k j:=h;omega
 have t:∀e ob',bg O e=some ob'->∃ob,bg st.m e=some ob/\ν e=ν e/\sameShape ob ob':=λe ob' h=>by grind
 let ν2:Nu:=⟨ν.pl,λk=>if k∈os.map (·.1)then T.inn k else ν.inn k⟩
 have an:∀k,k∈os.map (·.1)->ν2.inn k=T.inn k:=λk h=>if_pos h
 have ad:∀k,k∉os.map (·.1)->ν2.inn k=ν.inn k:=λk h=>if_neg h
 have W:∀k,k∈os.map (·.1)->T k=ν k->∀j,ν2.at k j=T.at k j:=λk l h j=>by cases j with|zero=>exact congrArg fst h.symm|succ i=>exact congrFun (an k l) i
 have Q:∀k,k∉os.map (·.1)->∀j,ν2.at k j=ν.at k j:=λk l j=>by cases j with|zero=>rfl|succ i=>exact congrFun (ad k l) i
 have ae:∀b g o1 o2 G U,bg O b=some o1->bg O g=some o2->o1.pt G=true->o2.pt U=true->ν2.at b G=ν2.at g U->b=g/\G=U:=λb g o1 o2 G U a B k1 k2 p=>by have⟨p1,g1,s1,c1⟩:=L b o1 a;have⟨p2,g2,s2,c2⟩:=L g o2 B;rcases c1 with⟨w,X,Y,-⟩|⟨w,rfl⟩<;>rcases c2 with⟨v,x,u3,-⟩|⟨v,rfl⟩;rw[W b w Y,W g v u3]at p;exact e3.inj b g o1 o2 G U X x k1 k2 p;rw[W b w Y,Q g v]at p;exact absurd ⟨b,o1,G,X,k1,p⟩ (u g o2 U v g2 k2).2.2;rw[Q b w,W g v u3]at p;exact absurd ⟨g,o2,U,x,k2,p.symm⟩ (u b o1 G w g1 k1).2.2;rw[Q b w,Q g v]at p;exact r.inj b g o1 o2 G U g1 g2 k1 k2 p
 have ao:∀b o1 G,bg O b=some o1->o1.pt G=true->¬Z' (ν2.at b G):=λb o1 G a k1=>by obtain⟨p1,g1,s1,⟨w,X,Y,-⟩|⟨w,rfl⟩⟩:=L b o1 a;rw[W b w Y];exact e3.apart b o1 G X k1;rw[Q b w];exact(u b o1 G w g1 k1).2.1
 have aa:∀id,id<H.length->¬eB ν st.m id->¬Z id->¬Rv id->H'[id]?=H[id]?:=λid hl ho hz _=>ev.same id hl (λh=>ho (I id h)) hz (λh=>h)
 have af:∀id,eB ν2 O id->eB ν st.m id\/Rv id\/H.length<=id:=by rintro id ⟨k,o,j,a,B,C⟩;obtain⟨ob,g1,s1,⟨w,X,Y,-⟩|⟨w,rfl⟩⟩:=L k o a;rw[W k w Y]at C;rcases ev.own id ⟨k,o,j,X,B,C⟩with h|h|h;exact .inl (I id h);exact h.elim;exact .inr (.inr h);rw[Q k w]at C;exact .inl ⟨k,o,j,g1,B,C⟩
 have aj:∀id,Z id->Z id/\bk H' id=bk H id:=λid h=>⟨h,(ev.rows id h).2⟩
 have ah:∀k ob',k∈os.map (·.1)->bg J.m k=some ob'->T k=ν k->within (os.map (·.1)) ob'=true->cI ν2 O H' Z' k ob':=λk ob' w X Y A=>by refine cI.mono (λid h=>⟨h,rfl⟩) Y.symm (λ_ _=>rfl) (λe M ak B=>?_) (e3.obj k ob' X) (an k w);have hm:=Hg A M;have⟨v,aA,x,_⟩:=b1 e hm;rw[v,x]at B;cases B;have⟨_,_,u4,_⟩:=am e ak hm x;exact⟨ak,x,u4.symm,.refl _⟩
 refine⟨n,H',T,Z',J,F1,K,ν2,λk l=>(nL S.E l).go _ _ _ _ e1,rfl,e2,e3,λe ob M ax D=>?_,λ_=>rfl,⟨λs sv hs=>(r.slot s sv hs).mono ev.rows λe _=>t e,λk ob' h=>?_,ae,ao,e3.zrow,e3.deep⟩,⟨ev.len,aa,ev.rows,af,?_,λe _=>t e,rfl⟩,t,λap=>?_⟩
 .have aq:eB T J.m (T e).1:=⟨e,ob,0,M,D,rfl⟩;refine⟨?_,(ev.own _ aq).imp (I _) λh=>h.elim (λh=>h.elim) λh=>h⟩
  rintro⟨k2,o2,U,a,B,C⟩;obtain⟨p1,g1,s1,⟨w,X,Y,-⟩|⟨w,rfl⟩⟩:=L k2 o2 a
  .rw[W k2 w Y]at C;have:=(e3.inj k2 e o2 ob U 0 X M B D C).1;subst this;exact ax w
  rw[Q k2 w]at C;exact(u k2 o2 U w g1 B).2.2 (C▸aq)
 .obtain⟨ob,a,B,⟨w,X,Y,A⟩|⟨C,rfl⟩⟩:=L k ob' h
  .exact ah k ob' w X Y A
  exact cI.mono (ν:=ν) (ν':=ν2) ev.rows rfl (λj D=>(u k ob' j C a D).1) (λe _=>t e) (r.obj k ob' a) (ad k C)
 .intro id h;rcases ev.frz id h with h|h|h|h
  .exact .inl h
  .exact .inr (.inl (I id h))
  all_goals grind
 have E:∀k ob' j,bg O k=some ob'->ob'.pt j=true->ν.at k j=ν2.at k j/\∃ob,bg st.m k=some ob/\sameShape ob ob'/\ob.pt j=true:=λk ob' j h N=>by
  obtain⟨ob,a,B,⟨w,X,Y,A⟩|⟨C,rfl⟩⟩:=L k ob' h
  .have q:=ap k w;unfold vV at q;rw[h]at q;have ay:∃cs,ob'=.box cs:=(by cases ob'<;>first|exact⟨_,rfl⟩|cases q);obtain⟨cs,rfl⟩:=ay;have:=iV (ob:=.box cs) Zc j N;subst this;refine⟨rfl,ob,a,B,?_⟩;cases ob<;>first|rfl|cases B
  exact⟨(Q k C j).symm,ob',a,.refl _,N⟩
 refine⟨⟨λs sv hs=>(r.slot s sv hs).mono aj λe _=>t e,λk ob' h=>?_,λb g o1 o2 G U a B k1 k2 p=>ae b g o1 o2 G U a B k1 k2 (by rw[<-(E b o1 G a k1).1,<-(E g o2 U B k2).1];exact p),λb o1 G a k1 hz=>ao b o1 G a k1 (by rw[<-(E b o1 G a k1).1];exact(ev.rows _ hz).1),λid h=>by rw[(ev.rows id h).2];exact r.zrow id h,r.deep.mono λid h=>(ev.rows id h).2⟩,
  ⟨ev.len,aa,aj,λid⟨k,o,j,a,B,C⟩=>af id ⟨k,o,j,a,B,by rw[<-(E k o j a B).1];exact C⟩,λid h=>.inl h,λe _=>t e,rfl⟩,λdst e ob' _ h=>?_⟩
 .obtain⟨ob,a,B,⟨w,X,Y,A⟩|⟨C,rfl⟩⟩:=L k ob' h
  .have q:=ap k w;unfold vV at q;rw[h]at q;exact cI.bare (ν:=ν2) (Z:=Z') (λ_=>rfl) q (ah k ob' w X Y A)
  exact cI.mono aj rfl (λj D=>(u k ob' j C a D).1) (λe _=>t e) (r.obj k ob' a)
 have⟨ob,a,B,C⟩:=t e ob' h;refine⟨ob,a,rfl,C,λj N=>?_⟩
 have⟨_,ak,g1,_,g3⟩:=E e ob' j h N;rw[a]at g1;cases g1;exact⟨g3,rfl⟩
def PZ(J:iY S c){f:Zk}(G:S.E.keep f=true)(r:R ν Z st F H){args:Zw}{ys:Zu}(O:bT ν st.m H Z args ys){os:dF}(T:handed st.m args=some os)
 {rs:Zw}{m':dF}{B:Zu}{D:Tb bq}(a:c f args os=some (rs,m'))(U:dh rs=some B)(W:mj m' (os.map (·.1)) st.m=some D):
 ∃n y H' ν' Z',(∀k,n<=k->run S.E k (.fn f) ys H=some (y,H'))/\R ν' Z' {st with m:=D} F H'/\cG ν' D H' Z' (.v (result B)) y/\Ev Rv ν Z st H ν' Z' {st with m:=D} H':=by
 have⟨n,H',Q,Z',C,F1,w,ν2,e1,_,e2,_,_,_,g1,g2,_,_⟩:=yP (Rv:=Rv) J G r O T a W;refine⟨n,result w,H',ν2,Z',e1,g1,?_,g2⟩;have u:=e2.dh U;have:FR H' Z' (result B) (result w):=by cases B with|nil=>rw[u.cF];exact .same _ rfl|cons x z=>obtain⟨y,I,rfl,g1,g2⟩:=u.inv;cases z with|nil=>rw[g2.cF];exact g1|cons x2 z=>obtain⟨X,L,rfl,g3,g4⟩:=g2.inv;exact .tup _ _ u.1 u.2
 exact .v _ _ this
def vO{ys:Zu}(h:V.cM ys=true):(result ys).scalar=true:=by cases ys with|nil=>rfl|cons a l=>cases l with|nil=>simp only[V.cM,ζh]at h;exact h.1|cons b l=>grind[result,V.scalar]
def Qp(T:iY S c){f:Zk}(G:S.E.keep f=true)(r:R ν Z st F H){args:Zw}{ys:Zu}(U:bT ν st.m H Z args ys){os:dF}(W:handed st.m args=some os)
 {rs:Zw}{m':dF}{D:Zu}{B:Tb bq}(a:c f args os=some (rs,m'))(Y:dh rs=some D)(b:mj m' (os.map (·.1)) st.m=some B)(O:V.cM D=true)(J:∀k∈os.map (·.1),vV B k=true):
 ∃n H',(∀k,n<=k->run S.E k (.fn f) ys H=some (result D,H'))/\R ν Z {st with m:=B} F H'/\cG ν B H' Z (.v (result D)) (result D)/\Ev Rv ν Z st H ν Z {st with m:=B} H'/\∀dst,Kept dst ν st.m ν B:=by
 obtain⟨n,H',z,Z',u,F1,C,ν2,e1,_,e2,_,_,_,_,_,_,g4⟩:=yP (Rv:=Rv) T G r U W a b;obtain⟨g1,g2,g3⟩:=g4 J;have w:=(e2.dh Y).scalar.1 O;subst w;exact⟨n,H',e1,g1,.v _ _ (.same _ (je (vO O))),g2,g3⟩
def Qg(Y:iY S c){f:Zk}(T:S.E.keep f=true)(r:R ν Z st F H){args:Zw}{ys:Zu}(i:bT ν st.m H Z args ys){os:dF}(j:handed st.m args=some os)
 {rest:Zw}{m':dF}{O:Zu}{D:Tb bq}{e t es:Nat}{k:Fl}{xs:Zt}(l:c f args os=some (.own e::rest,m'))(q:dh rest=some O)(s:mj m' (os.map (·.1)) st.m=some D)
 (G:bg m' e=some (.sl k es xs))(J:e∉os.map (·.1))(B:St.new {st with m:=D} t=true):
 ∃n y H' ν' Z',(∀k,n<=k->run S.E k (.fn f) ys H=some (y,H'))/\R ν' Z' {st with m:=bu D t (.sl k es xs)} F H'/\cG ν' (bu D t (.sl k es xs)) H' Z' (y_ (.own t::O.map .v)) y/\Ev Rv ν Z st H ν' Z' {st with m:=bu D t (.sl k es xs)} H':=by
 obtain⟨n,H',L,Z',X,F1,ws,ν2,e1,rfl,e2,e3,a,Q,g1,g2,g3,_⟩:=yP (Rv:=Rv) Y T r i j l s;obtain⟨w,U,rfl,v,A⟩:=e2.inv;have o:=e3.obj e _ G;have E:=g1.add B (ob:=.sl k es xs) (p:=L e) (λz=>⟨(a e _ G J z).1,e3.apart e _ 0 G z⟩) (by
  grind[cI,iD])
 have b:cG (gW ν2 t (L e)) (bu D t (.sl k es xs)) H' Z' (.own t) w:=by refine .own _ _ λu W=>?_;rw[bX]at W;cases W;obtain⟨_,_,_,K,rfl⟩:=v.gb G;cases K;exact⟨_,_,_,rfl,by rw[iD]⟩
 have⟨M,n2,n3,n4⟩:=jL B;refine⟨n,result (w::U),H',gW ν2 t (L e),Z',e1,E,?_,⟨g2.len,g2.same,g2.rows,?_,g2.frz,?_,g2.pins⟩⟩
 .have I:=A.dh q
  cases O with
  |nil=>rw[I.cF];exact b|cons x O=>obtain⟨y,aa,rfl,_,_⟩:=I.inv;exact .tup _ _ (by have:=I.1;grind) (bT.cons b (bT.qc I)).2
 .intro id h;rcases CT h with h|⟨g,rfl⟩
  .exact g2.own id h
  exact(a e _ G J g).2.imp (λh=>h) .inr
 intro d N u h;have C:d≠t:=λe=>M (e▸N)
 have h:bg (bu D t (.sl k es xs)) d=some u:=h;rw[cA _ _ (Ne.symm C)]at h;have⟨ob,g,_,P⟩:=g3 d u h;exact⟨ob,g,by rw[Cm _ _ C,Q],P⟩
def OI(B:iY S c){f:Zk}{az:Zu}{rs:Zw}{m':dF}(a:V.cB az=true)(h:c f (az.map .v) []=some (rs,m')):
 ∃n H2 ν' Z' st' F' ys,(∀k,n<=k->run S.E k (.fn f) az []=some (result ys,H2))/\st'.m=m'/\bT ν' m' H2 Z' rs ys/\R ν' Z' st' F' H2:=by
 have⟨u,r1⟩:=yM a;obtain⟨n,y,H2,ν',Z',st',F',w,b,rfl,z,C,D,_⟩:=B f _ _ _ _ h _ _ az [] (.inr rfl) u r1;exact⟨n,H2,ν',Z',st',F',w,λk d=>(nL S.E d).go _ _ _ _ b,z,C,D⟩
def J_{ys:Zu}(h:V.cM ys=true):V.cM (.bD::ys)=true/\V.cM (.c7::ys)=true:=by grind[V.cM,V.scalar]
def bT.Sp{ys:Zu}(h:V.cB ys=true):bT ν m H Z (ys.map .v) ys:=bT.qc (cV.same h)
def Of(s:iY S c)(hP:∀f q,S.prm f=some q->nq S.E f q){ops:Zz}{place:aY (Nat×Nat)}{dr nw:Zl}{fr:Zv}(U:dr=place.isSome)(T:∀b i,place=some (b,i)->nw=true->dn ops i=true)(aj:∀b i,place=some (b,i)->nw=false->dn ops i=false)
 (g:∀b i,place=some (b,i)->(∀d ob j,bg st.m d=some ob->ob.pt j=true->d∉fr->ν.at d j<b)/\∀id,Z id->id<b)
 (r:R ν Z st F H){args:Zw}{ys:Zu}(Y:bT ν st.m H Z args ys){f:Zk}{dst:aY Nat}{sv:SV}(h:gy S c dst dr (!dr||nw) (gA st.m fr) f args st=some (sv,st')):
 ∃n y H' ν' Z',(∀k,n<=k->dI S.E (run S.E k) ops place f ys H=some (y,H'))/\R ν' Z' st' F H'/\cG ν' st'.m H' Z' sv y/\Ev Rv ν Z st H ν' Z' st' H'/\(dr=true->Z'=Z/\Kept dst ν st.m ν' st'.m):=by
 unfold gy at h;split at h
 .rename_i A;split at h
  .have C:∀{q:di}{y:V}{H':bh},gf S.E q f ys H=some (y,H')->dI S.E q ops place f ys H=some (y,H'):=λ{q y H'}P=>by
    unfold dI
    cases place with
    |none=>rw[if_pos (by grind[jX])];omega|some bi=>
     obtain⟨b,i⟩:=bi;have aH:=U;have aI:=T b i rfl Zd
     rw[if_pos (by grind[jX])]
     grind
   split at h
   .
    rename_i ab;split at h
    .rename_i az hs;have hg:=yq r.obj hs Y;obtain⟨nb,x⟩:=vE r Y hs;split at h
     .rename_i rs m' hc;obtain⟨na,H2,ν2,Z2,st2,F2,W,aw,rfl,e3,e4⟩:=OI s hg hc;obtain⟨n,ax,aJ⟩:∃n,na<=n/\nb<=n:=⟨max na nb,le_max_left ..,le_max_right ..⟩;have e1:=λk(A:n<=k)=>aw k (le_trans ax A)
      have L:∀k,n<=k->∀{o:aY (V×bh)},(if(result W).scalar then some (result W,H)else
       match result W with
       |.hsl id es off len=>(rE H.length H2 id es off len).map λ(v,ob)=>(v,H++[ob])|.tup (.hsl id es off len::rest)=>if V.cM rest then(rE H.length H2 id es off len).map λ(v,ob)=>(.tup (v::rest),H++[ob])else none|_=>none)=o->gf S.E (run S.E k) f ys H=o:=λk D o M=>by
       unfold gf kX;rw[if_pos ab]
       grind[mY]
      have ak:∀G:Zu,(result G).scalar=true->result W=result G->sv=.v (result G)->st'=st->∃n y H' ν' Z',(∀k,n<=k->dI S.E (run S.E k) ops place f ys H=some (y,H'))/\R ν' Z' st' F H'/\cG ν' st'.m H' Z' sv y/\Ev Rv ν Z st H ν' Z' st' H'/\(dr=true->Z'=Z/\Kept dst ν st.m ν' st'.m):=by rintro G h1 h2 rfl rfl;exact⟨n,result G,H,ν,Z,λk D=>C (L k D (by rw[h2,if_pos h1])),r,.v _ _ (.same _ (je h1)),.refl,λ_=>⟨rfl,.refl⟩⟩
      have emp:∀(k:Fl)(es:Nat)(G:Zu)(rest:Zw),V.cM G=true->∀t,st.new t=true->∀w:V,(k=.nil/\w=.bD\/k=.emp/\w=.c7)->result (w::G)=result W->dst=some t->sv=y_ (.own t::G.map .v)->st'={st with m:=bu st.m t (.sl k es [])}->
       ∃n y H' ν' Z',(∀k,n<=k->dI S.E (run S.E k) ops place f ys H=some (y,H'))/\R ν' Z' st' F H'/\cG ν' st'.m H' Z' sv y/\Ev Rv ν Z st H ν' Z' st' H'/\(dr=true->Z'=Z/\Kept dst ν st.m ν' st'.m):=by
       rintro k es G rest X t O w hw al rfl rfl rfl;have aK:bN k=false:=by rcases hw with⟨rfl,_⟩|⟨rfl,_⟩<;>rfl
       have l:cG (gW ν t (0,0)) (bu st.m t (.sl k es [])) H Z (.own t) w:=by refine .own _ _ λad E=>?_;rw[bX]at E;cases E;exact⟨_,_,_,rfl,by rcases hw with⟨rfl,rfl⟩|⟨rfl,rfl⟩<;>rfl⟩
       have am:(result (w::G)).scalar=true:=vO (by rcases hw with⟨_,rfl⟩|⟨_,rfl⟩;all_goals simp_all[J_])
       refine⟨n,result (w::G),H,gW ν t (0,0),Z,λk D=>C (L k D (by rw[<-al,if_pos am])),r.add O (λx=>by grind[dJ]) (by grind[cI]),?_,
        Ev.add O (le_refl _) (λ_ _ _=>rfl) (λ_ _=>rfl) (λx=>by grind[dJ]),λ_=>⟨rfl,Kept.add λ_ _ h=>h⟩⟩
       cases G with
       |nil=>exact l|cons z G=>exact .tup _ _ Zc (bT.cons l (bT.Sp (oA X))).2
      split at h
      .rename_i G J;split at h
       next X=>simp at h;exact ak G X ((Ed (e3.dh J)).1 X) h.1.symm h.2.symm
       simp at h
      split at h
      .rename_i e rest t _;obtain⟨w,W,rfl,g1,g2⟩:=e3.inv;split at h
       .
        rename_i es xs G Q J;split at h
        .rename_i B;simp at B;obtain⟨⟨c1,N⟩,O⟩:=B;simp at h;obtain⟨rfl,rfl⟩:=h;have o:=e4.obj e _ Q;simp only[cI,if_true]at o;obtain⟨rows,hr,aL,hf,aF,an⟩:=o;obtain⟨q1,q2⟩:=an trivial;have ae:=by
          have:=Hz hf N;rw[q1,drop_zero,<-q2,take_length]at this;exact this
         subst ae;obtain⟨_,_,_,K,rfl⟩:=g1.gb Q;cases K;have I:=(g2.dh J).scalar.1 c1;subst I;have aM:rE H.length H2 (ν2 e).1 es 0 rows.length=some (.hsl H.length es 0 rows.length,.row es rows):=by grind[rE,ny]
         have hH:∀id,id<H.length->(H++[Ob.row es rows])[id]?=H[id]?:=λid hl=>getElem?_append_left hl
         have ao:∀id,Z id->bk (H++[Ob.row es rows]) id=bk H id:=λid J=>by unfold bk;rw[hH id (r.tv J)]
         have r2:=r.heap (λid M=>hH id (r.lt M)) ao
         have ay:V.l9 rows=true:=by refine jP.2 λj u hu=>?_;unfold ny at N;rw[all_eq_true]at N;have:=N u (mem_of_getElem? hu);rw[all_eq_true]at this;grind[gF,je]
         have hR:=r2.add (ob:=.sl .row es rows) (p:=(H.length,0)) O (λ_=>⟨λM=>absurd (r.lt M) Zc,λJ=>absurd (r.tv J) Zc⟩) (by
          simp only[cI,iD];refine⟨rows,Zc,Zc,?_,(eX.same ay).wR,λ_=>⟨trivial,rfl⟩⟩
          rw[drop_zero,take_length]
          grind[eX.same])
         have l:cG (gW ν t (H.length,0)) (bu st.m t (.sl .row es rows)) (H++[Ob.row es rows]) Z (.own t) (.hsl H.length es 0 rows.length):=by refine .own _ _ λad E=>?_;rw[bX]at E;cases E;exact⟨_,_,_,rfl,by simp[mM,iD]⟩
         have ap:Ev Rv ν Z st H (gW ν t (H.length,0)) Z {st with m:=bu st.m t (.sl .row es rows)} (H++[Ob.row es rows]):=Ev.add O Zc (λid hl _=>hH id hl) ao (λ_=>.inr (le_refl _))
         have aq:mM (ν2 e) Fl.row es rows.length=.hsl (ν2 e).1 es 0 rows.length:=by grind[mM]
         rw[aq]at L
         cases rest with
         |nil=>
          have:=by simp only[dh,ζa]at J;exact J.symm
          subst this;refine⟨n,_,_,_,Z,λk D=>C (L k D ?_),hR,l,ap,λ_=>⟨rfl,Kept.add λ_ _ h=>h⟩⟩
          grind[result,V.scalar]
         |cons x2 rest=>
          have aA:∃w2 af,W=w2::af:=by have:=g2.1;cases W with|nil=>simp at this|cons a b=>exact⟨a,b,rfl⟩
          obtain⟨w2,af,rfl⟩:=aA;refine⟨n,_,_,_,Z,λk D=>C (L k D (o:=some (.tup (.hsl H.length es 0 rows.length::w2::af),H++[Ob.row es rows])) ?_),hR,?_,ap,λ_=>⟨rfl,Kept.add λ_ _ h=>h⟩⟩
          .grind[result,V.scalar,V.cM]
          exact .tup _ _ Zc (bT.cons l (bT.Sp (oA c1))).2
        simp at h
       .rename_i es xs G Q J;split at h
        next B=>simp at B;simp at h;obtain⟨rfl,rfl⟩:=h;obtain⟨_,_,_,K,rfl⟩:=g1.gb Q;cases K;have I:=(g2.dh J).scalar.1 B.1;subst I;exact emp .nil es W rest B.1 _ B.2 .bD Zc rfl rfl rfl rfl
        simp at h
       .rename_i es xs G Q J;split at h
        next B=>simp at B;simp at h;obtain⟨rfl,rfl⟩:=h;obtain⟨_,_,_,K,rfl⟩:=g1.gb Q;cases K;have I:=(g2.dh J).scalar.1 B.1;subst I;exact emp .emp es W rest B.1 _ B.2 .c7 Zc rfl rfl rfl rfl
        simp at h
       simp at h
      simp at h
     grind
    grind
   rename_i ab;split at h
   .rename_i q hq;split at h
    .simp at h
    rename_i P;obtain⟨n,y,H',ν',e1,e2,e3,e4,e5⟩:=P5 (hP f q hq) r Y h;exact⟨n,y,H',ν',Z,λk D=>C (by grind[gf]),e2,e3,e4,λh=>absurd h P⟩
   split at h
   .rename_i os hh;split at h
    .rename_i rs m' hc;split at h
     .rename_i G m2 J x;split at h
      .simp at h
      rename_i ar;simp at h;obtain⟨rfl,rfl⟩:=h
      cases au:dr with
      |false=>obtain⟨n,y,H',ν',Z',e1,e2,e3,e4⟩:=PZ s A r Y hh hc J x;exact⟨n,y,H',ν',Z',λk D=>C (by grind[gf]),e2,e3,e4,(λh=>nomatch h)⟩|true=>
       rw[au]at ar;have iR:V.cM G=true/\∀k∈os.map (·.1),vV m2 k=true:=by simp only[Bool.true_and,not_eq_true',Bool.not_eq_false,ζh,all_eq_true]at ar;grind
       obtain⟨n,H',e1,e2,e3,e4,e5⟩:=Qp (Rv:=Rv) s A r Y hh hc J x iR.1 iR.2;exact⟨n,_,H',ν,Z,λk D=>C (by grind[gf]),e2,e3,e4,λ_=>⟨rfl,e5 _⟩⟩
     .rename_i m2 J x;split at h
      .simp at h
      rename_i P;split at h
      .rename_i e rest t;split at h
       .rename_i k es xs G he aB;split at h
        next B=>simp only[ζh,not_eq_true',List.contains_eq_mem,decide_eq_false_iff_not]at B;simp only[ζa,ζc]at h;obtain⟨rfl,rfl⟩:=h;obtain⟨n,y,H',ν',Z',e1,e2,e3,e4⟩:=Qg s A r Y hh hc aB x he B.1 B.2;exact⟨n,y,H',ν',Z',λk D=>C (by grind[gf]),e2,e3,e4,λh=>absurd h P⟩
        simp at h
       simp at h
      simp at h
     simp at h
    simp at h
   simp at h
  rename_i aa;split at h
  .rename_i ah;simp only[ζh]at ah;have ai:jX S.E ops place f=false:=by
    simp only[Bool.not_eq_true,or_eq_false_iff,Bool.not_eq_false']at aa
    cases place with
    |none=>rw[U]at aa;simp at aa|some bi=>simp[jX,A,ah.1,aj _ _ rfl aa.2]
   split at h
   .rename_i az hs;split at h
    .rename_i rs m' hc;split at h
     .rename_i G J;split at h
      next B=>simp only[or_eq_true]at B;simp at h;obtain⟨rfl,rfl⟩:=h;obtain⟨n,H',e1,e2,e3,e4⟩:=HM s U T g r Y ai hs (.inr ah.2) hc J B;exact⟨n,_,H',ν,Z,e1,e2,e3,e4,λ_=>⟨rfl,.refl⟩⟩
      simp at h
     simp at h
    simp at h
   simp at h
  simp at h
 rename_i A;have aC:S.E.keep f=false:=Zd
 have ai:jX S.E ops place f=false:=by simp_all[jX]
 split at h
 .rename_i az hs;split at h
  .rename_i hl;split at h
   .rename_i rs m' hc;split at h
    .rename_i G J;split at h
     .rename_i B;simp only[or_eq_true]at B;simp at h;obtain⟨rfl,rfl⟩:=h;obtain⟨n,H',e1,e2,e3,e4⟩:=HM s U T g r Y ai hs Zd hc J B
      exact⟨n,_,H',ν,Z,e1,e2,e3,e4,λ_=>⟨rfl,.refl⟩⟩
     rename_i aG;split at h
     .rename_i aD;obtain⟨ds,aE,e⟩:=ζf.1 h;simp at e;obtain⟨rfl,rfl⟩:=e;have av:(result G).scalar=false:=by
       grind
      obtain⟨n,H',e1,e2,e3,e4⟩:=QW s T (λb i hp=>(g b i hp).2) r Y aC hs (by rw[<-U];exact aD) hc J av aE
      exact⟨n,_,H',ν,Z,e1,e2,e3,e4,λ_=>⟨rfl,λe ad _ h=>⟨ad,nG h,rfl,.refl _,λ_ h=>⟨h,rfl⟩⟩⟩⟩
     simp at h
    simp at h
   simp at h
  simp at h
 simp at h
end
structure CX where
 E:Env
 nm:FuncId->Option Nat
 nt:Nat
def Af(ops:Zz)(o:Oper):aY (aY (Nat×Zl)):=
 match o.guard with
 |none=>some none|some (j,b)=>((ops[j]?).bind (·.dst)).map λd=>some (d,b)
def wE(a:Nat):aY Nat->Zl
 |none=>true|some d=>decide (d<a)
def vz(B:Zl)(ops:Zz)(i:Nat)(k:K)(os:aX Zr):K×aX Zr×Zl:=
 if B&& !dn ops i then match k,os,qB false ops i with
  |.l (.store n),.tmp u::w,some (a,l)=>if u=a then(.l (.storeF n),(.tmp u::w)++l.map .tmp,true)else(k,os,false)|.l (.append n),os,_=>if ve ops i then(.e n,os,true)else(k,os,false)|.r (.load n ag),[.tmp u],_=>if(oh ops i u).isEmpty then(k,os,false)else(.r (.loadF n ag),.tmp u::(oh ops i u).map .tmp,false)|_,_,_=>(k,os,false)
 else(k,os,B&&dn ops i)
def BK(B:Zl)(ops:Zz)(i:Nat)(k:K)(os:aX Zr):(vz B ops i k os=(k,os,B&&dn ops i)/\∀n ag a',B=true->dn ops i=false->k=.r (.load n ag)->os=[.tmp a']->oh ops i a'=[])\/
 (B=true/\dn ops i=false/\∃n a l D,k=.l (.store n)/\os=.tmp a::D/\qB false ops i=some (a,l)/\vz B ops i k os=(.l (.storeF n),os++l.map .tmp,true))\/
 (B=true/\dn ops i=false/\∃n ag a,k=.r (.load n ag)/\os=[.tmp a]/\vz B ops i k os=(.r (.loadF n ag),.tmp a::(oh ops i a).map .tmp,false))\/
 (B=true/\dn ops i=false/\ve ops i=true/\∃n,k=.l (.append n)/\vz B ops i k os=(.e n,os,true)):=by
 unfold vz;split
 .rename_i h;simp only[ζh,not_eq_true']at h;split
  .rename_i n a' D a l hk;split
   next e=>subst e;refine .inr (.inl ⟨h.1,h.2,n,a',l,D,rfl,rfl,hk,?_⟩);simp only[vz,h.1,h.2,hk,Bool.not_false,Bool.and_self,if_true]
   exact .inl ⟨by rw[h.2,Bool.and_false],λn ag a' _ _ e=>by cases e⟩
  .rename_i n;split
   next C=>refine .inr (.inr (.inr ⟨h.1,h.2,C,n,rfl,rfl⟩))
   exact .inl ⟨by rw[h.2,Bool.and_false],λn ag a' _ _ e=>by cases e⟩
  .rename_i n ag a';split
   .rename_i G;refine .inl ⟨by rw[h.2,Bool.and_false],λn ag a2 _ _ _ e=>?_⟩
    simp only[List.cons.injEq,Operand.tmp.injEq,and_true]at e;subst e;simpa using G
   exact .inr (.inr (.inl ⟨h.1,h.2,n,ag,a',rfl,rfl,rfl⟩))
  rename_i u w z;refine .inl ⟨by rw[h.2,Bool.and_false],λn ag a2 _ _ e1 e2=>?_⟩
  first|exact(z _ _ _ e1 e2).elim|exact(z _ _ _ _ e1 e2 rfl).elim|exact(u _ _ _ e1 e2).elim|exact(w _ _ _ e1 e2).elim|exact(u _ _ _ _ e1 e2 rfl).elim|exact(w _ _ _ _ e1 e2 rfl).elim
 rename_i h;refine .inl ⟨rfl,λn ag a2 I J _ _=>?_⟩
 rw[I,J]at h;exact absurd rfl h
def lF(X:CX)(B:Zl)(ops:Zz)(i:Nat)(o:Oper):aY RO:=
 if wE X.nt o.dst&& !(B&&(cz o.op==.call&&EG ops i))then
  match Af ops o,resolve X.E X.nm o.op with
  |some gd,some (k,os)=>if zp k then if B&&BD X.E ops i then match k,o.op with
   |.a (.makeSl size zero),.makeSlice ..=>(os.mapM (nX X.nm)).map λaz=>⟨o.dst,gd,false,.p (.makeC size zero),az,[],[]⟩|.a (.buildSl size len zero idx),.buildSlice ..=>if size≠0/\len=0/\idx=[]then(os.mapM (nX X.nm)).map λaz=>⟨o.dst,gd,false,.p .emptyC,az,[],[]⟩else(os.mapM (nX X.nm)).map λaz=>⟨o.dst,gd,false,.p (.buildC size len zero idx),az,[],[]⟩|_,_=>none
   else((vz B ops i k os).2.1.mapM (nX X.nm)).map λaz=>⟨o.dst,gd,(vz B ops i k os).2.2,(vz B ops i k os).1,az,[],[]⟩else none
  |_,_=>none
 else none
def BX{E:Env}{N:Nat->Zk}{F:Zo}{op:Op}{ys:Zu}{size:Nat}{zero:Zu}{y:V}(B:∃t l c,op=.buildSlice t l c)(h:zu E N F op ys (.a (.buildSl size 0 zero [])))(G:size≠0)(D:bH N .emptyC ys=some y):nY E F op=some y:=by
 obtain⟨t,l,c,rfl⟩:=B;have⟨g1,g2⟩:=h;unfold bH at D;split at D<;>first|(rename_i e;cases e;done)|skip
 all_goals simp_all[kJ,eR,nY]
def yE{es:Nat}:∀{vs:aX (Nat×V)}{xs ys:Zt},eR es xs vs=some ys->ys.length=xs.length
 |[],xs,ys,h=>by grind[eR]|(i,v)::r,xs,ys,h=>by simp only[eR]at h;split at h;have:=yE h;grind;cases h
def B6{E:Env}{N:Nat->Zk}{F:Zo}{op:Op}{ys:Zu}{size len:Nat}{zero:Zu}{idx:Zv}{y:V}(D:∃t l c,op=.buildSlice t l c)(h:zu E N F op ys (.a (.buildSl size len zero idx)))(B:bH N (.buildC size len zero idx) ys=some y):nY E F op=some y:=by
 obtain⟨t,l,c,rfl⟩:=D;have⟨g1,g2⟩:=h;simp only[bH]at B;split at B;rename_i a;split at B;rename_i w u;split at B;rename_i C;have G:len=w.length:=by have:=yE u;rw[this];simp
 have z:=g2 _ (show kJ (.buildSl size len zero idx) ys=some (.row size w,.sl size len)by grind[kJ]);grind[nY];cases B;cases B;cases B
def BS{E:Env}{N:Nat->Zk}{F:Zo}{op:Op}{ys:Zu}{size:Nat}{zero:Zu}{y:V}(D:∃t l c,op=.makeSlice t l c)(h:zu E N F op ys (.a (.makeSl size zero)))(B:bH N (.makeC size zero) ys=some y):nY E F op=some y:=by
 obtain⟨t,l,c,rfl⟩:=D;have⟨g1,g2⟩:=h;unfold bH at B;split at B<;>first|(rename_i e;cases e;done)|skip
 rename_i k n w m e;cases e;split at B;rename_i c;obtain⟨rfl,rfl,z,rfl,C,G⟩:=c;have u:=g2 _ (show kJ (.makeSl size zero) [.int .i64 n,.int .i64 n]=some (.row size (replicate n.toNat zero),.sl size n.toNat)by grind[kJ]);grind[nY];cases B;cases B
def BZ{X:CX}{dr:Zl}{ops:Zz}{i:Nat}{o:Oper}{ro:RO}(a:lF X dr ops i o=some ro):wE X.nt o.dst=true/\∃g now k az,Af ops o=some g/\ro=⟨o.dst,g,now,k,az,[],[]⟩:=by
 unfold lF at a;split at a
 .rename_i u;have u:=(Bool.and_eq_true_iff.1 u).1;split at a
  .rename_i g k os hg hr;split at a;(·(repeat' split at a)<;>first|(cases a;done)|(obtain⟨az,w,rfl⟩:=ζf.1 a;exact⟨u,_,_,_,_,hg,rfl⟩));cases a
  cases a
 cases a
def DA{X:CX}{dr:Zl}{ops:Zz}{i:Nat}{o:Oper}{ro:RO}(a:lF X dr ops i o=some ro)(B:dr=true)(D:cz o.op=.call):EG ops i=false:=by
 unfold lF at a;split at a;next h=>subst B;simp[D]at h;exact h.2
 cases a
structure Good(X:CX)(S:Sys):Prop where
 E:X.E=S.E
 N:∀f s,X.nm f=some s->S.N s=f
 prm:∀f q,S.prm f=some q->nq S.E f q
section
variable{Rv:Nat->Prop}{ν ν':Nu}{Z Z':Nat->Prop}{st st':St}{m m':Tb bq}{F F':Zo}{H H' H1:bh}{S:Sys}{c:bU}{X:CX}
def Old(b:Nat)(fr:Zv)(ν:Nu)(Z:Nat->Prop)(m:Tb bq):Prop:=(∀d ob j,bg m d=some ob->ob.pt j=true->d∉fr->ν.at d j<b)/\∀id,Z id->id<b
def mJ{fr:Zv}:∀{svs:Zw},eD fr svs=true->∀d∈fr,SV.c_ d svs=false
 |[],_,d,_=>rfl|.v _::r,h,d,B=>(mJ (svs:=r) (by grind[eD]) d B)|.ptr e _::r,h,d,B=>by simp[eD,not_eq_true']at h;simp[SV.c_,SV.cu];exact⟨λe=>h.1 (e▸B),mJ h.2 d B⟩|.el e _ _::r,h,d,B=>by simp[eD,not_eq_true']at h;simp[SV.c_,SV.cu];exact⟨λe=>h.1 (e▸B),mJ h.2 d B⟩|.mp e::r,h,d,B=>by simp[eD,not_eq_true']at h;simp[SV.c_,SV.cu];exact⟨λe=>h.1 (e▸B),mJ h.2 d B⟩|.own _::r,h,_,_=>by grind[eD]|.clo ..::r,h,_,_=>by grind[eD]|.tup _::r,h,_,_=>by grind[eD]|.agg _::r,h,_,_=>by grind[eD]|.yl _::r,h,_,_=>by grind[eD]
def Ch(S:Sys)(ops:Zz)(place:aY (Nat×Nat))(dr:Zl)(F:Zo)(op:Op)(dst:aY Nat)(ν:Nu)(Z:Nat->Prop)(st:St)(H:bh)(sv:SV)(st':St):Prop:=∃n y H' ν' Z',(∀k,n<=k->cE S.E (run S.E k) ops place F H op=some (y,H'))/\R ν' Z' st' F H'/\cG ν' st'.m H' Z' sv y/\Ev (λid=>∃b j,place=some (b,j)/\id=b+j) ν Z st H ν' Z' st' H'/\(dr=true->Z'=Z/\Kept dst ν st.m ν' st'.m)
def wX{E:Env}{F:Zo}{H:bh}{place:aY (Nat×Nat)}{op:Op}{v:V}(h:bF E F op=some v):rD E F H place op=some v:=by simp_all[rD]
def xu:∀{xs ys:Zt}{l:Zx},eX H Z xs ys->kA xs=some l->kA ys=some l
 |[],ys,l,h,B=>by have:=h.1;have:ys=[]:=List.eq_nil_of_length_eq_zero Zd;grind|x::xs,[],l,h,B=>by have:=h.1;simp at this|x::xs,y::ys,l,h,B=>by unfold kA at B;split at B;grind;rename_i n r e;cases e;obtain⟨k,c,rfl⟩:=ζf.1 B;have w:=h.2 0 _ y rfl rfl;obtain⟨u,C,rfl,p1,p2⟩:=w.inv;rw[p2.cF,p1.int];have:=xu (xs:=xs) (ys:=ys) ⟨by have:=h.1;grind,λj a b z B=>h.2 (j+1) a b z B⟩ c;grind[kA];cases B
def Mc(gd:Good X S){ops:Zz}{place:aY (Nat×Nat)}{dr:Zl}{op:Op}{dst:aY Nat}{p:tV}{svs:Zw}{ys:Zu}(b:zp (.p p)=true)(r:R ν Z st F H)(rs:bT ν st.m H Z svs ys)
 (B:zu X.E S.N F op ys (.p p)){sv:SV}(h:(jF S.N st.m p svs).map (λx=>(x,st))=some (sv,st')):Ch S ops place dr F op dst ν Z st H sv st':=by
 have⟨x,w,e⟩:=ζf.1 h;obtain⟨rfl,rfl⟩:=e;have⟨y,z,u⟩:=FG (λzero pl e=>by grind[zp]) r.obj rs w
 have⟨a,C⟩:=B;exact⟨0,y,H,ν,Z,λq _=>by unfold cE;rw[a];simp only[<-gd.E,wX (C y z),map_some],r,u,.refl,λ_=>⟨rfl,.refl⟩⟩
def xz(gd:Good X S){ops:Zz}{place:aY (Nat×Nat)}{dr:Zl}{op:Op}{p:tV}{svs:Zw}{ys:Zu}(J:∀zero pl,p≠.build zero pl)(B:cz op=.alloc)(D:mw X.E ops place=true)(G:∀y,bH S.N p ys=some y->nY X.E F op=some y)
 (r:R ν Z st F H)(rs:bT ν st.m H Z svs ys){sv:SV}(h:(jF S.N st.m p svs).map (λx=>(x,st))=some (sv,st')):Ch S ops place dr F op none ν Z st H sv st':=by
 have⟨x,w,e⟩:=ζf.1 h;simp only[ζc]at e;obtain⟨rfl,rfl⟩:=e;have⟨y,z,u⟩:=FG (N:=S.N) (λzero pl e=>absurd e (J zero pl)) r.obj rs w
 refine⟨0,y,H,ν,Z,λq _=>?_,r,u,.refl,λ_=>⟨rfl,.refl⟩⟩
 unfold cE;rw[B];simp only[D,if_true,<-gd.E,G y z,map_some]
def Iy:∀{D B:aX Zr}{vs:Zu},fe F (D++B)=some vs->∃G J,fe F D=some G/\fe F B=some J/\vs=G++J
 |[],B,vs,h=>⟨[],vs,rfl,h,rfl⟩|x::D,B,vs,h=>by obtain⟨a,az,b,O,rfl⟩:=iw h;obtain⟨G,J,g1,g2,rfl⟩:=Iy O;simp_all[fe]
def AG:∀{l:Zv}{vs:Zu},fe F (l.map Operand.tmp)=some vs->vs=l.map (get F)
 |[],vs,h=>pe h|x::l,vs,h=>by obtain⟨a,az,b,B,rfl⟩:=iw h;simp[ev]at b;subst b;rw[AG B];rfl
def R2(gd:Good X S){call:di}{ops:Zz}{b j n a:Nat}{l:Zv}{o:Oper}{B:aX Zr}{ys:Zu}{y:V}(c:resolve X.E X.nm o.op=some (.l (.store n),.tmp a::B))(D:fe F ((.tmp a::B)++l.map Operand.tmp)=some ys)
 (J:qB false ops j=some (a,l))(O:dn ops j=false)(e1:eA H (.storeF n) ys=some (y,H')):cE S.E call ops (some (b,j)) F H o.op=some (y,H'):=by
 obtain⟨W,Y,d,I,rfl⟩:=Iy D;have⟨g1,g2⟩:=iM gd.N c d;obtain⟨w,L,z,Q,rfl⟩:=iw d;simp[ev]at z;have u:∃v,L=[v]:=by have C:∃x,B=[x]:=(by unfold resolve at c;((repeat' split at c)<;>first|grind|skip);(all_goals (try (have⟨_,_,e⟩:=ζf.1 c;simp[K.l.injEq,IA.store.injEq,reduceCtorEq]at e)));grind);obtain⟨x,rfl⟩:=C;obtain⟨v,Z,_,T,rfl⟩:=iw Q;rw[pe T];grind
 obtain⟨v,rfl⟩:=u;rw[AG I,<-z]at e1;simp at e1
 cases G:get F a with
 |hptr id el off=>
  rw[G]at e1;simp only[eA]at e1;split at e1
  .have U:oK ops j F=true:=by
    unfold oK
    grind
   unfold cE;rw[g1];simp[U,<-gd.E];refine g2 _ _ ?_;rw[<-z,G];exact e1
  grind
 |_=>rw[G]at e1;simp[eA]at e1
def Eb{E:Env}{nm:Zk->aY Nat}{op:Op}{s:Nat}{a:Zl}{os:aX Zr}(h:resolve E nm op=some (.r (.loadF s a),os)):False:=by
 unfold resolve at h;(repeat' split at h)<;>first|grind|skip
 all_goals simp_all
def EU{E:Env}{nm:Zk->aY Nat}{op:Op}{s a':Nat}{a:Zl}{t:Zm}{os:aX Zr}(h:resolve E nm op=some (.r (.load s a),os)):∃t x,op=.load t x/\os=[x]:=by
 unfold resolve at h;(repeat' split at h)<;>first|grind|skip
 all_goals simp_all
 grind
def Md{E:Env}{nm:Zk->aY Nat}{ops:Zz}{j:Nat}{op:Op}{q:HV}{os:aX Zr}(a:resolve E nm op=some (.r q,os))(h:∀n ag a',K.r q=.r (.load n ag)->os=[.tmp a']->∀t,op=.load t (.tmp a')->oh ops j a'=[]):mV ops j F op=true:=by
 unfold mV;split;rename_i t a';have:∃n ag,q=.load n ag/\os=[.tmp a']:=by have⟨d,_,e⟩:=ζf.1 a;grind
 grind;rfl
def QL(gd:Good X S){ops:Zz}{b j n a:Nat}{ag:Zl}{fr:Zv}{o:Oper}{svs:Zw}{ys:Zu}{dst:aY Nat}{x:SV}(f:resolve X.E X.nm o.op=some (.r (.load n ag),[.tmp a]))(T:fe F (.tmp a::(oh ops j a).map Operand.tmp)=some ys)(rs:bT ν st.m H Z svs ys)
 (U:eD fr svs=true)(M:b<=H.length)(W:∀d ob j,bg st.m d=some ob->ob.pt j=true->d∉fr->ν.at d j<b)(D:∀id,Z id->id<b)(r:R ν Z st F H)(O:og st.m (.loadF n ag) svs=some x):Ch S ops (some (b,j)) true F o.op dst ν Z st H x st:=by
 obtain⟨w,i,k,m,rfl⟩:=iw T;simp[ev]at k;have N:=AG m;unfold og at O;split at O<;>first|(rename_i B;cases B;done)|skip
 .rename_i size agg d off l B;cases B;split at O
  .rename_i G;split at O
   .rename_i cs C;obtain⟨w',P,e,g1,g2⟩:=rs.inv;cases e;have I:=HL r C g2 G;obtain⟨_,_,rfl⟩:=g1.nO C;have J:∀id,Z id->Z id/\bk (H.take b) id=bk H id:=λid h=>⟨h,mh (D id h)⟩
    have L:∀id,Z id->Z id/\bk H id=bk (H.take b) id:=λid h=>⟨h,(mh (D id h)).symm⟩
    have ah:d∉fr:=λg=>by have:=mJ U d g;grind[SV.c_,SV.cu]
    obtain⟨y,p,Q⟩:=uH (r:=.load n ag) (λs a e=>by cases e) (λkk z ok e=>by cases e) (bT.cons (g1.mono J λe _=>iC ν st.m e) .nil) (λc Y ob u=>by
     have v:c∉fr:=λg=>by have:=(by simpa[SV.c_,SV.cu]using Y);grind
     exact cI.mono J rfl (λj A=>List.getElem?_take_of_lt (W c ob j u A v)) (λe _=>iC ν st.m e) (r.obj c ob u)) (by simp[og,C];omega)
    obtain⟨k1,k2⟩:=iM gd.N f (show fe F [.tmp a]=some [.hptr (ν d).1 0 off]from by grind[fe])
    have E:mV ops j F o.op=true:=by obtain⟨t,x',e1,e2⟩:=EU (a':=0) (t:=0) f;rw[e1];simp at e2;subst e2;simp[mV];intro s hs;have K:get F s∈i:=Zd;have:=all_eq_true.1 I _ K;grind[mO]
    refine⟨0,y,H,ν,Z,λq _=>?_,r,Q.mono L (λe _=>iC ν st.m e),.refl,λ_=>⟨rfl,.refl⟩⟩
    unfold cE;rw[k1];simp[<-gd.E,k2 (H.take b) y p,E]
   grind
  grind
 grind
def CV{E:Env}{nm:Zk->aY Nat}{op:Op}{n:Nat}{os:aX Zr}(h:resolve E nm op=some (.l (.append n),os)){y:V}{ys:Zu}(b:fe F os=some (y::ys))(B:y=.bD\/y=.c7):isApp op=true/\oH F op=true:=by
 have key:∃args u p s x,op=.call {callee:=.builtin .append,args:=args,argTypes:=u}/\args.toList=[s,x]/\os=[s,x]/\p=():=by unfold resolve at h;((repeat' split at h)<;>first|(simp at h;done)|skip);grind
 obtain⟨args,u,_,s,x,rfl,c,rfl,_⟩:=key;have⟨a,az,w,z,e⟩:=iw b;cases e;refine⟨rfl,?_⟩;simp only[oH,c,w];all_goals grind
def SK(gd:Good X S)(hS:iY S c){ops:Zz}{place:aY (Nat×Nat)}{dr:Zl}{fr:Zv}{i:Nat}(G:dr=place.isSome)(P:∀b j,place=some (b,j)->j=i)
 (K:∀b j,place=some (b,j)->b<=H.length/\Old b fr ν Z st.m)
 {o:Oper}{ro:RO}(E:lF X dr ops i o=some ro)(aF:∀b j,place=some (b,j)->ops[j]?=some o)(am:∀b j,place=some (b,j)->cz o.op=.alloc->H[b+j]?=some .free)
 (r:R ν Z st F H){sv:SV}(h:kS S c dr fr ro st=some (sv,st')):
 Ch S ops place dr F o.op (w5 ro) ν Z st H sv st':=by
 have aw:=λhd hl=>DA E hd hl
 unfold lF at E;split at E
 .split at E
  .rename_i g k os hg hr;split at E
   .rename_i A;split at E
    .rename_i af;simp only[ζh]at af;have an:mw X.E ops place=true:=by
      cases place with
      |none=>rw[G]at af;exact absurd af.1 Zc|some O=>have⟨b,j⟩:=O;rw[P b j rfl];exact af.2
     split at E
     .rename_i size zero t l c U;obtain⟨az,M,rfl⟩:=ζf.1 E;unfold kS at h;split at h
      next L B=>have⟨ys,C,rs⟩:=nv gd.N r.slot M B;have J:=iM gd.N hr C;exact xz gd (λ_ _ e=>by cases e) J.1 an (λy hy=>BS ⟨_,_,_,U⟩ J hy) r rs h
      simp at h
     .rename_i size len zero idx t l c U;split at E
      .rename_i aG;obtain⟨aH,rfl,rfl⟩:=aG;obtain⟨az,M,rfl⟩:=ζf.1 E;unfold kS at h;split at h
       next L B=>have⟨ys,C,rs⟩:=nv gd.N r.slot M B;have J:=iM gd.N hr C;exact xz gd (λ_ _ e=>by cases e) J.1 an (λy hy=>BX ⟨_,_,_,U⟩ J aH hy) r rs h
       simp at h
      obtain⟨az,M,rfl⟩:=ζf.1 E;unfold kS at h;split at h
      next L B=>have⟨ys,C,rs⟩:=nv gd.N r.slot M B;have J:=iM gd.N hr C;exact xz gd (λ_ _ e=>by cases e) J.1 an (λy hy=>B6 ⟨_,_,_,U⟩ J hy) r rs h
      simp at h
     cases E
    rename_i ah;have al:mw X.E ops place=false:=by cases place with|none=>rfl|some O=>have⟨b,j⟩:=O;have I:=P b j rfl;cases ax:BD X.E ops j with|false=>exact ax|true=>exact absurd (by rw[G,<-I,ax];rfl) ah
    rcases BK dr ops i k os with⟨hq,aI⟩|⟨u,ao,n,a,l,aT,rfl,rfl,aJ,hq⟩|⟨u,ao,n,ag,a,rfl,rfl,hq⟩|⟨u,ao,aK,n,rfl,hq⟩
    rotate_left
    .rw[hq]at E;obtain⟨az,M,rfl⟩:=ζf.1 E;unfold kS at h;split at h
     .rename_i L B;have⟨ys,C,rs⟩:=nv gd.N r.slot M B;simp only[u,Bool.not_true,Bool.false_or,if_true]at h;have⟨y,H',ν',e1,e2,e3,e4,e5⟩:=AD r rs h;refine⟨0,y,H',ν',Z,λq _=>?_,e2,e3,e4.weak (λ_ h=>h.elim),λ_=>⟨rfl,e5⟩⟩
      cases place with
      |none=>rw[G]at u;cases u|some O=>have⟨b,j⟩:=O;have I:=P b j rfl;subst I;exact R2 gd hr C aJ ao e1
     simp at h
    .rw[hq]at E;obtain⟨az,M,rfl⟩:=ζf.1 E;unfold kS at h;split at h
     .rename_i L B;have⟨ys,C,rs⟩:=nv gd.N r.slot M B;simp only[u,Bool.not_true,Bool.or_self,Bool.false_or]at h;split at h
      .rename_i ap;have⟨x,hx,e⟩:=ζf.1 h;simp only[ζc]at e;obtain⟨rfl,rfl⟩:=e
       cases place with
       |none=>rw[G]at u;cases u|some O=>have⟨b,j⟩:=O;have I:=P b j rfl;subst I;have⟨ay,aq,ai⟩:=K b j rfl;rw[u];exact QL gd hr C rs ap ay aq ai r hx
      simp at h
     simp at h
    .rw[hq]at E;obtain⟨az,M,rfl⟩:=ζf.1 E;unfold kS at h;split at h
     rotate_left
     .simp at h
     rename_i L B;have⟨ys,C,rs⟩:=nv gd.N r.slot M B;simp only at h;have key:∃e x,(e=V.bD\/e=V.c7)/\L=[.v e,x]/\jG st o.dst (.append n) L=some (sv,st'):=by split at h;exact⟨_,_,.inl rfl,rfl,h⟩;exact⟨_,_,.inr rfl,rfl,h⟩;cases h
     obtain⟨e,x,he,rfl,hl⟩:=key;have⟨y,H',ν',e1,e2,e3,e4,e5⟩:=AD r rs hl;have⟨g1,g2⟩:=iM gd.N hr C;refine⟨0,y,H',ν',Z,λq _=>?_,e2,e3,e4.weak (λ_ h=>h.elim),λ_=>⟨rfl,e5⟩⟩
     obtain⟨y1,zs,rfl,f1,f2⟩:=rs.inv;have aL:y1=.bD\/y1=.c7:=by cases f1 with|v _ _ hf=>rcases he with rfl|rfl<;>first|exact .inl hf.bD|exact .inr hf.c7
     cases place with
     |none=>rw[G]at u;cases u|some O=>have⟨b,j⟩:=O;have I:=P b j rfl;subst I;have⟨r1,r2⟩:=CV hr C aL;exact KF r1 (by rw[<-gd.E];exact g2 _ _ e1) (.inr ⟨aK,r2,(K b j rfl).1⟩)
    rw[hq]at E;obtain⟨az,M,rfl⟩:=ζf.1 E;unfold kS at h;split at h
    .rename_i L B;have⟨ys,C,rs⟩:=nv gd.N r.slot M B;have D:=iM gd.N hr C;simp only at h
     cases k with
     |p p=>
      cases p with
      |slice size lo P=>
       simp only at h;split at h
       .rename_i d bs;split at h
        .simp at h
        rename_i ar;have⟨y,ν',h1,h2,h3,h4⟩:=LI (N:=S.N) (Rv:=λid=>∃b j,place=some (b,j)/\id=b+j) r rs h
        have⟨g1,g2⟩:=D;exact⟨0,y,H,ν',Z,λq _=>by unfold cE;rw[g1];simp only[<-gd.E,wX (g2 y h1),map_some],h2,h3,h4,λhd=>absurd hd ar⟩
       exact Mc gd A r rs D h
      |_=>exact Mc gd A r rs D h
     |r q=>
      simp only at h;split at h
      .rename_i W;have⟨x,hx,e⟩:=ζf.1 h;simp only[ζc]at e;obtain⟨rfl,rfl⟩:=e;have⟨g1,g2⟩:=D;have au:∀kk z ok,q=.lookup kk z ok->z.good=true:=λkk z ok e=>by subst e;simpa[zp]using A
       have ab:∀s a,q≠.loadF s a:=λs a e=>by subst e;exact Eb hr
       cases place with
       |none=>
        have⟨y,hy,ad⟩:=uH ab au rs (λd _ ob hd=>r.obj d ob hd) hx
        exact⟨0,y,H,ν,Z,λq _=>by unfold cE;rw[g1];simp only[<-gd.E,g2 H y hy,map_some],r,ad,.refl,λ_=>⟨rfl,.refl⟩⟩
       |some O=>
        have⟨b,j⟩:=O;have⟨ay,aq,ai⟩:=K b j rfl;have u:dr=true:=G;subst u;have I:=P b j rfl;subst I;simp only[Bool.not_true,Bool.false_or,Bool.true_and]at W;have aA:mV ops j F o.op=true:=Md hr λn ag a' e1 e2 t e3=>by by_cases Q:dn ops j=true;exact A4 (aF b j rfl) e3 Q;exact aI n ag a' rfl (by simpa using Q) e1 e2
        by_cases Q:dn ops j=true
        .have⟨y,hy,ad⟩:=uH ab au rs (λd _ ob hd=>r.obj d ob hd) hx
         have hH:=g2 H y hy;refine⟨0,y,H,ν,Z,λq _=>?_,r,ad,.refl,λ_=>⟨rfl,.refl⟩⟩
         unfold cE;rw[g1];simp only[<-gd.E,aA,if_true];split
         next v hv=>have:=xk hv;rw[hH]at this;cases this;rfl
         rw[if_pos Q,hH];rfl
        have ap:eD fr L=true:=by simpa[Q]using W
        have aa:∀id,Z id->Z id/\bk (H.take b) id=bk H id:=λid h=>⟨h,mh (ai id h)⟩
        have aB:∀id,Z id->Z id/\bk H id=bk (H.take b) id:=λid h=>⟨h,(mh (ai id h)).symm⟩
        have⟨y,hy,ad⟩:=uH (H:=H.take b) ab au (rs.mono aa λe _=>iC ν st.m e) (λd hd ob aC=>by
         have ab:d∉fr:=λhf=>by rw[mJ ap d hf]at hd;cases hd
         exact cI.mono aa rfl (λj hb=>List.getElem?_take_of_lt (aq d ob j aC hb ab)) (λe _=>iC ν st.m e) (r.obj d ob aC)) hx
        refine⟨0,y,H,ν,Z,λq _=>?_,r,ad.mono aB (λe _=>iC ν st.m e),.refl,λ_=>⟨rfl,.refl⟩⟩
        unfold cE;rw[g1];simp only[<-gd.E,g2 (H.take b) y hy,aA,if_true]
      simp at h
     |a q=>
      simp only at h;split at h
      .rename_i d hd;split at h
       .rename_i Y;have⟨⟨ob,x⟩,hx,e⟩:=ζf.1 h;simp only[ζc]at e;obtain⟨rfl,rfl⟩:=e;have⟨ae,mk,e1,e2,T,e3,e4⟩:=LQ A rs hx;have⟨g1,g2⟩:=D;have⟨n1,n2,n3,n4⟩:=jL Y;have av:∀p:Nat×Nat,∀e,SV.c_ e L=true->∀aj,bg (bu st.m d ob) e=some aj->∃ob,bg st.m e=some ob/\gW ν d p e=ν e/\sameShape ob aj:=λp e he=>by
         refine wj ?_;rintro rfl;have:∀{xs:Z4}{vs:Zw},bV S.N st.g xs=some vs->SV.c_ e vs=false:=by intro xs;induction xs with|nil=>intro vs h;simp only[bV,ζa]at h;subst h;rfl|cons a xs ih=>intro vs h;simp only[bV]at h;split at h;rename_i v aU h1 h2;simp only[ζa]at h;subst h;simp only[SV.c_,or_eq_false_iff];refine⟨?_,ih h2⟩;(cases a with|s n=>exact wO n3 h1|k c=>simp only[pM,ζa]at h1;subst h1;rfl|f s=>simp only[pM,ζa]at h1;subst h1;rfl);simp at h
         rw[this B]at he;cases he
        have fin:∀(id:Nat)(Hn:bh),H.length<=Hn.length->Hn[id]?=some ae->(∀k,k<H.length->k≠id->Hn[k]?=H[k]?)->(∀k,eB ν st.m k->k≠id)->(∀k,Z k->k≠id)->
         R (gW ν d (id,0)) Z {st with m:=bu st.m d ob} F Hn/\cG (gW ν d (id,0)) (bu st.m d ob) Hn Z x (mk.val id)/\(∀k,Z k->bk Hn k=bk H k):=λid Hn hl aM J ho hz=>by
         have aa:∀k,Z k->bk Hn k=bk H k:=λk A=>by unfold bk;rw[J k (r.tv A) (hz k A)]
         have⟨a1,a2⟩:=e4 id (gW ν d (id,0)) (bu st.m d ob) Hn (iD _ _ _) (bX _ _ _) aM aa (av _);have r2:R ν Z st F Hn:=r.heap (λk A=>J k (r.lt A) (ho k A)) aa
         exact⟨r2.add Y (λ_=>⟨λh=>ho _ h rfl,λh=>hz _ h rfl⟩) a1 T,a2,aa⟩
        have aD:o.dst=some d:=hd
        cases place with
        |none=>
         have⟨f1,f2,f3⟩:=fin H.length (H++[ae]) Zc Zc (λk A _=>getElem?_append_left A) (λk A=>Nat.ne_of_lt (r.lt A)) (λk A=>Nat.ne_of_lt (r.tv A))
         refine⟨0,mk.val H.length,H++[ae],gW ν d (H.length,0),Z,λq _=>?_,f1,f2,Ev.add Y Zc (λk A _=>getElem?_append_left A) f3 (λ_=>.inr (le_refl _)) T,λhh=>?_⟩
         .unfold cE;rw[g1];simp only[al,false_eq_true,if_false,<-gd.E,g2 _ e1]
         rw[G]at hh;cases hh
        |some O=>
         have⟨b,j⟩:=O;have hf:=am b j rfl g1;have aN:=(ζe.1 hf).1;have nf:∀k,eB ν st.m k->k≠b+j:=λk A e=>by subst e;have⟨d',aj,j',w1,w2,w3⟩:=A;exact(r.obj d' aj w1).free w2 (w3▸hf)
         have nz:∀k,Z k->k≠b+j:=λk A e=>by subst e;have:=r.zrow _ A;unfold bk at this;rw[hf]at this;simp[Ob.rows]at this
         have⟨f1,f2,f3⟩:=fin (b+j) (H.set (b+j) ae) Zc (by rw[getElem?_set_self aN]) (λk _ A=>by rw[getElem?_set,if_neg (Ne.symm A)]) nf nz
         refine⟨0,mk.val (b+j),H.set (b+j) ae,gW ν d (b+j,0),Z,λq _=>?_,f1,f2,Ev.add Y Zc (λk _ A=>?_) f3 (λ_=>.inl ⟨b,j,rfl,rfl⟩) T,λ_=>⟨rfl,?_⟩⟩
         .unfold cE;rw[g1];simp only[al,false_eq_true,if_false,<-gd.E,g2 _ e1,hf]
         .rw[getElem?_set,if_neg λe=>A ⟨b,j,rfl,e.symm⟩]
         have:w5 ⟨o.dst,g,dr&&dn ops j,.a q,az,[],[]⟩=some d:=aD;have I:=P b j rfl;subst I;rw[this];exact Kept.add λ_ _ h=>h
       simp at h
      simp at h
     |l q=>
      simp only at h;split at h
      .rename_i W;have⟨y,H',ν',e1,e2,e3,e4,e5⟩:=AD r rs h;have⟨g1,g2⟩:=D;refine⟨0,y,H',ν',Z,λq _=>?_,e2,e3,e4.weak (λ_ h=>h.elim),λ_=>⟨rfl,e5⟩⟩
       unfold cE;rw[g1];simp only[<-gd.E]
       cases place with
       |none=>exact g2 _ _ e1|some O=>
        have⟨b,j⟩:=O;have u:dr=true:=G;subst u;have I:=P b j rfl;subst I;have Q:dn ops j=true:=by simpa using W
        simp only[Q,if_true];exact g2 _ _ e1
      simp at h
     |e n=>exact D.elim|b=>
      simp only at h;split at h
      .cases h
      rename_i ar;have aO:dr=false:=by simpa using ar
      have aP:place=none:=by cases place with|none=>rfl|some O=>rw[aO]at G;simp at G
      subst aP;split at h
      next x=>have⟨xs,h1,h2⟩:=ζg.1 h;have⟨l,h3,e⟩:=ζf.1 h2;simp only[ζc]at e;obtain⟨rfl,rfl⟩:=e;have⟨g1,y,e1,g2⟩:=D;have⟨y',_,e2,r1,r2⟩:=rs.inv;rw[e1]at e2;cases e2;have⟨zs,k1,k2⟩:=tg r1 r.obj h1;have hz:kA zs=some l:=xu k2 h3;have⟨q1,q2⟩:=g2 H zs l k1 hz;exact⟨0,_,H,ν,Z,λq _=>by unfold cE;rw[g1];simp only[rD,<-gd.E,q1,q2,map_some],r,.v _ _ (.same _ rfl),.refl,λ_=>⟨rfl,.refl⟩⟩
      cases h
     |c=>
      simp only at h;have⟨g1,f',aV,e1,e2⟩:=D;have go:∀(f:Zk)(args:Zw)(ak:Zu),bT ν st.m H Z args ak->jk F o.op=some (.fn f,ak)->gy S c o.dst dr (!dr||(dr&&dn ops i)) (gA st.m fr) f args st=some (sv,st')->
       Ch S ops place dr F o.op (w5 ⟨o.dst,g,dr&&dn ops i,.c,az,[],[]⟩) ν Z st H sv st':=λf args ak aQ aE aR=>by
       have⟨n,y,H',ν',Z',p1,p2,p3,p4,p5⟩:=Of (ops:=ops) (Rv:=λid=>∃b j,place=some (b,j)/\id=b+j) hS gd.prm G (λb j hp hn=>by
        have:=P b j hp;subst this;simp only[ζh]at hn;exact hn.2) (λb j hp hn=>by have:=P b j hp;subst this;rw[G,hp]at hn;simpa using hn) (λb j hp=>(K b j hp).2) r aQ aR
       refine⟨n,y,H',ν',Z',λq hq=>?_,p2,p3,p4,p5⟩
       have aS:uL ops place ak=true:=by cases place with|none=>rfl|some O=>simp only[uL,P _ _ rfl,aw G g1];rfl
       unfold cE;rw[g1];simp only[aE,aS,if_true];exact p1 q hq
      split at h
      next f a b vs=>have⟨w,ws,ew,r1,r2⟩:=rs.inv;rw[ew]at e1;simp only[List.cons.injEq]at e1;obtain⟨rfl,rfl⟩:=e1;obtain⟨a',b',rfl,ra,rb⟩:=r1.jy;exact go f _ _ ((ra.append r2).append rb) e2 h
      next f a b vs=>have⟨w,ws,ew,r1,r2⟩:=rs.inv;rw[ew]at e1;simp only[List.cons.injEq]at e1;obtain⟨rfl,rfl⟩:=e1;obtain⟨a',b',rfl,ra,rb⟩:=r1.fr.jy;exact go f _ _ (((bT.qc ra).append r2).append (bT.qc rb)) e2 h
      simp at h
    simp at h
   simp at E
  simp at E
 simp at E
end
end Go.VE
