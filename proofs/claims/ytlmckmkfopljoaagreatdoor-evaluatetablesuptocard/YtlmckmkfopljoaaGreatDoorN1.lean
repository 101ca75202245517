/-
 The second layer: named objects in the place of rows; texts, calls, iterators.
-/
import Derived.Test.YtlmckmkfopljoaaGreatDoorV2
set_option linter.all false
open List(all_cons all_eq_true drop_drop drop_zero getElem?_append_left getElem?_append_right getElem?_cons_zero getElem?_drop getElem?_set getElem?_set_self getElem?_take length_eq_zero_iff mem_append mem_cons mem_iff_getElem? mem_of_getElem? mem_of_mem_drop replicate take take_length)
open Bool(false_eq_true not_eq_true' or_eq_false_iff or_eq_true)
open Option(isSome_iff_exists map_some)
open Nat(le_max_left le_max_right le_refl le_trans)
open Classical(choose_spec)
namespace Go.VE
variable[b_]
inductive Fl where|nil|emp|row|part
 deriving DecidableEq,Inhabited
inductive SV where
 |v(x:V)|own(d:Nat)|ptr(d off:Nat)|el(d i off:Nat)|mp(d:Nat)|clo(f:FuncId)(a b:List SV)|tup(l:List SV)|agg(l:List SV)|yl(id:Nat)
 deriving Inhabited
abbrev So:=aZ SV
inductive bP where
 |sl(k:Fl)(es:Nat)(xs:List (List V))|box(cs:List SV)|mp(kvs:List (V×V))
abbrev Tb(α:Type):=aZ (Nat×α)
def bp{α:Type}:Tb α->Nat->a_ α
 |[],_=>none|(k,v)::r,n=>if k=n then some v else bp r n
def bT{α:Type}:Tb α->Nat->α->Tb α
 |[],n,v=>[(n,v)]|(k,x)::r,n,v=>if k=n then(k,v)::r else(k,x)::bT r n v
def ey{α:Type}(n:Nat):Tb α->Tb α
 |[]=>[]|(k,x)::r=>if k=n then ey n r else(k,x)::ey n r
def qK{α:Type}:S'->Tb α->Tb α
 |[],g=>g|d::ds,g=>qK ds (ey d g)
def yH{α:Type}:Tb α->S'->aZ α->Tb α
 |g,p::ps,v::vs=>yH (bT g p v) ps vs|g,_,_=>g
def k9{α:Type}(g:Tb α):S'->a_ (Tb α)
 |[]=>some []|n::r=>match bp g n,k9 g r with
  |some v,some t=>some ((n,v)::t)|_,_=>none
structure St where
 g:Tb SV
 m:Tb bP
 pin:List Nat
 want:List (List V)
 more:Bool
 yid:Nat
structure GH where
 part:Bool
 go:Nat->List (List V)->List V->Option (List (List V))
structure Sys where
 E:Env
 N:Nat->FuncId
 items:FuncId->List V->List V->Option (List (List V))
 yB:FuncId->List V->Option V
 prm:FuncId->Option GH
inductive Arg where
 |s(n:Nat)|k(c:V)|f(name:Nat)
abbrev QP:=aZ Arg
inductive Loc where
 |s(n:Nat)|c(b i:Nat)
inductive Gh where
 |close(d:Nat)|closeB(d:Nat)|canon(l:Loc)(d:Nat)(es:Nat)|keep(gs ms:List Nat)|drop(ds:List Nat)|closeS(l:Loc)
abbrev QQ:=aZ Gh
structure RO where
 dst:Option Nat
 gd:Option (Nat×Bool)
 now:Bool
 k:K
 az:List Arg
 dead:List Nat:=[]
 pre:List Gh:=[]
abbrev ST:=aZ RO
inductive RC where
 |skip|ops(l:List RO)|qB(l:List RO)|seq(a b:RC)|cond(x:Arg)(a b:RC)|block(id:Nat)(c:RC)|loop(c:RC)|each(g:Arg)(ps:List Nat)(a b:RC)|exit(id:Nat)|ret|gh(x:Gh)(c:RC)|hg(c:RC)(x:Gh)
inductive RV where
 |s(n:Nat)|ld(n size:Nat)(agg:Bool)
structure RF where
 na:Nat
 rs:List RV
 body:RC
mutual
def SV.c8(d:Nat):SV->X'
 |.v _=>false|.own e=>e==d|.ptr e _=>e==d|.el e _ _=>e==d|.mp e=>e==d|.clo _ a b=>SV.dO d a||SV.dO d b|.tup l=>SV.dO d l|.agg l=>SV.dO d l|.yl _=>false
def SV.dO(d:Nat):So->X'
 |[]=>false|x::r=>SV.c8 d x||SV.dO d r
end
def bP.c8(d:Nat):bP->X'
 |.box cs=>SV.dO d cs|_=>false
def wE(d:Nat):Tb SV->X'
 |[]=>false|(_,x)::r=>SV.c8 d x||wE d r
def uv(d:Nat):Tb bP->X'
 |[]=>false|(_,x)::r=>bP.c8 d x||uv d r
def St.new(st:St)(d:Nat):X':= !(st.pin.contains d)&&(bp st.m d).isNone&& !(wE d st.g)&& !(uv d st.m)
mutual
def SV.vZ(d e:Nat):SV->SV
 |.v x=>.v x|.own k=>.own (if k=d then e else k)|.ptr k o=>.ptr (if k=d then e else k) o|.el k i o=>.el (if k=d then e else k) i o|.mp k=>.mp (if k=d then e else k)|.clo f a b=>.clo f (SV.wA d e a) (SV.wA d e b)|.tup l=>.tup (SV.wA d e l)|.agg l=>.agg (SV.wA d e l)|.yl id=>.yl id
def SV.wA(d e:Nat):So->So
 |[]=>[]|x::r=>SV.vZ d e x::SV.wA d e r
end
def bP.vZ(d e:Nat):bP->bP
 |.box cs=>.box (SV.wA d e cs)|o=>o
def AZ(d e:Nat):Tb SV->Tb SV
 |[]=>[]|(n,x)::r=>(n,x.vZ d e)::AZ d e r
def wC(d e:Nat):Tb bP->Tb bP
 |[]=>[]|(n,x)::r=>((if n=d then e else n),x.vZ d e)::wC d e r
mutual
def SV.sub(d:Nat)(w:V):SV->SV
 |.own k=>if k=d then .v w else .own k|.clo f a b=>.clo f (SV.wq d w a) (SV.wq d w b)|.tup l=>.tup (SV.wq d w l)|.agg l=>.agg (SV.wq d w l)|x=>x
def SV.wq(d:Nat)(w:V):So->So
 |[]=>[]|x::r=>SV.sub d w x::SV.wq d w r
end
def dI:So->a_ T2
 |[]=>some []|.v x::r=>(dI r).map (x::·)|_::_=>none
def SC(f:Y')(a b:So):SV:=
 match dI a,dI b with
 |some x,some y=>.v (.clo f x y)|_,_=>.clo f a b
mutual
def SV.Dw(d:Nat)(cs:T2):SV->SV
 |.ptr k o=>if k=d then(if o<=cs.length then .v (.fptr (cs.drop o))else .ptr k o)else .ptr k o|.clo f a b=>SC f (SV.sN d cs a) (SV.sN d cs b)|.tup l=>.tup (SV.sN d cs l)|.agg l=>.agg (SV.sN d cs l)|x=>x
def SV.sN(d:Nat)(cs:T2):So->So
 |[]=>[]|x::r=>SV.Dw d cs x::SV.sN d cs r
end
def Dg(f:SV->SV):Tb SV->Tb SV
 |[]=>[]|(n,x)::r=>(n,f x)::Dg f r
def mapM(f:So->So):Tb bP->Tb bP
 |[]=>[]|(n,.box cs)::r=>(n,.box (f cs))::mapM f r|(n,o)::r=>(n,o)::mapM f r
mutual
def SV.names:SV->S'
 |.own d|.ptr d _|.el d _ _|.mp d=>[d]|.clo _ a b=>SV.xP a++SV.xP b|.tup l=>SV.xP l|.agg l=>SV.xP l|_=>[]
def SV.xP:So->S'
 |[]=>[]|x::r=>SV.names x++SV.xP r
end
def qZ:Tb SV->S'
 |[]=>[]|(_,x)::r=>SV.names x++qZ r
def pK(k:Fl)(es:Nat)(xs:T'):V:=
 match k with
 |.nil=>.bR|.emp=>.dP|_=>.fsl es xs
mutual
def V.lvl:Nat->V->X'
 |n,.fsl _ xs=>match n with|0=>false|n+1=>V.qC n xs
 |n,.fptr cs=>match n with|0=>false|n+1=>V.mJ n cs
 |n,.fmap B=>match n with|0=>false|n+1=>V.uj n B
 |n,.agg cs=>match n with|0=>false|n+1=>V.mJ n cs
 |n,.tup cs=>match n with|0=>false|n+1=>V.mJ n cs
 |n,.clo _ a b=>match n with|0=>false|n+1=>V.mJ n a&&V.mJ n b
 |_,_=>true
def V.mJ:Nat->T2->X'
 |_,[]=>true|n,x::r=>V.lvl n x&&V.mJ n r
def V.qC:Nat->T'->X'
 |_,[]=>true|n,x::r=>V.mJ n x&&V.qC n r
def V.uj:Nat->aZ (V×V)->X'
 |_,[]=>true|n,(k,x)::r=>V.lvl n k&&V.lvl n x&&V.uj n r
end
mutual
def shut(m:Tb bP):Nat->SV->a_ V
 |_,.v x=>some x|_,.own d=>match bp m d with
  |some (.sl k es xs)=>some (pK k es xs)|_=>none
 |n+1,.ptr d o=>match bp m d with
  |some (.box cs)=>match c_ m n cs with
   |some xs=>if o<=xs.length then some (.fptr (xs.drop o))else none|none=>none
  |_=>none
 |_,.mp d=>match bp m d with
  |some (.mp B)=>some (.fmap B)|_=>none
 |n+1,.clo f a b=>match c_ m n a,c_ m n b with
  |some x,some y=>some (.clo f x y)|_,_=>none
 |n+1,.tup l=>(c_ m n l).map .tup|n+1,.agg l=>(c_ m n l).map .agg|_,_=>none
def c_(m:Tb bP):Nat->So->a_ T2
 |_,[]=>some []|n,x::r=>match shut m n x,c_ m n r with
  |some y,some s=>some (y::s)|_,_=>none
end
end Go.VE
namespace Go.VE
variable[b_]
mutual
def V.good:V->X'
 |.hsl ..|.hptr ..|.yld ..|.hmap ..=>false|.fsl _ xs=>V.oc xs|.fptr cs=>V.cK cs|.fmap B=>V.tZ B|.clo _ a b=>V.cK a&&V.cK b|.agg cs=>V.cK cs|.tup cs=>V.cK cs|_=>true
def V.cK:T2->X'
 |[]=>true|x::r=>V.good x&&V.cK r
def V.oc:T'->X'
 |[]=>true|x::r=>V.cK x&&V.oc r
def V.tZ:aZ (V×V)->X'
 |[]=>true|(k,x)::r=>V.good k&&V.good x&&V.tZ r
end
abbrev dK:=Tb bP
abbrev cm:=FuncId->aZ SV->dK->a_ (aZ SV×dK)
def si(N:Nat->Y')(g:Tb SV):Arg->a_ SV
 |.s n=>bp g n|.k c=>some (.v c)|.f s=>some (.v (.clo (N s) [] []))
def ck(N:Nat->Y')(g:Tb SV):QP->a_ So
 |[]=>some []|x::r=>match si N g x,ck N g r with
  |some v,some vs=>some (v::vs)|_,_=>none
def cT:Fl->X'
 |.row|.part=>true|_=>false
def nU(m:Tb bP):SV->X'
 |.own d|.ptr d _|.el d _ _|.mp d=>(bp m d).isSome|.clo ..=>true|_=>false
def Ac(m:Tb bP):SV->X'
 |.v x=>x.one|x=>nU m x
def JJ(m:Tb bP):SV->a_ So
 |.v x=>some (x.cells.map .v)|.agg l=>some l|x=>if nU m x then some [x]else none
def Ah(m:Tb bP)(cells:So):aZ (Nat×Nat)->So->a_ So
 |[],[]=>some cells|(off,size)::pl,v::vs=>match JJ m v with
  |some c=>if c.length=size/\off+c.length<=cells.length then Ah m (cells.take off++c++cells.drop (off+c.length)) pl vs else none|none=>none
 |_,_=>none
def wV(size:Nat)(agg:X')(cs:So):a_ SV:=
 if cs.length=size then
  if agg then match dI cs with
   |some u=>some (.v (.agg u))|none=>some (.agg cs)
  else match cs with
   |[x]=>some x|_=>none
 else none
def Cw(N:Nat->Y')(m:Tb bP):vN->So->a_ SV
 |.id,[x]=>some x|.nilc,[.ptr d o]=>if(bp m d).isSome then some (.ptr d o)else none|.nilc,[.el d i o]=>if(bp m d).isSome then some (.el d i o)else none|.pick,[.v (.bool t),a,b]=>some (if t then a else b)|.bin (some .slice) _ .eql,[.own d,.v .bR]=>match bp m d with
  |some (.sl k _ _)=>if k=.emp then none else some (.v (.bool (k==.nil)))|_=>none
 |.bin (some .slice) _ .neq,[.own d,.v .bR]=>match bp m d with
  |some (.sl k _ _)=>if k=.emp then none else some (.v (.bool (!(k==.nil))))|_=>none
 |.fieldAddr off,[.ptr d o]=>if(bp m d).isSome then some (.ptr d (o+off))else none|.fieldAddr off,[.el d i o]=>if(bp m d).isSome then some (.el d i (o+off))else none|.idxS size,[.own d,.v (.int _ i)]=>match bp m d with
  |some (.sl k es xs)=>if cT k/\es=size/\0<=i/\i.toNat<xs.length then some (.el d i.toNat 0)else none|_=>none
 |.idxA len size,[.ptr d o,.v (.int _ i)]=>if 0<=i/\i<len/\(bp m d).isSome then some (.ptr d (o+i.toNat*size))else none|.idxA len size,[.el d j o,.v (.int _ i)]=>if 0<=i/\i<len/\(bp m d).isSome then some (.el d j (o+i.toNat*size))else none|.lenSl,[.own d]=>match bp m d with
  |some (.sl _ _ xs)=>some (.v (.int .i64 xs.length))|_=>none
 |.clo name k,vs=>some (.clo (N name) (vs.take k) (vs.drop k))|.ext i,[.tup l]=>l[i]?|.build zero pl,vs=>(Ah m (zero.map .v) pl vs).map .agg|.field off size agg,[.agg l]=>wV size agg ((l.drop off).take size)|_,_=>none
def k7(N:Nat->Y')(m:Tb bP)(p:vN)(svs:So):a_ SV:=
 match dI svs with
 |some u=>(br N p u).map .v|none=>Cw N m p svs
def Nq(m:Tb bP)(d:Nat):SV->X'
 |.ptr B _=>B != d&&(match bp m B with|some (.box _)=>true|_=>false)|.v (.fptr _)=>true|_=>false
def qD(m:Tb bP):LV->So->a_ SV
 |.load size agg,[.ptr d o]=>match bp m d with
  |some (.box cs)=>wV size agg ((cs.drop o).take size)|_=>none
 |.load size agg,[.el d i o]=>match bp m d with
  |some (.sl _ _ xs)=>match xs[i]?with
   |some cs=>((cut cs o size).bind (mk agg)).map .v|none=>none
  |_=>none
 |.load size agg,[.v p]=>((ez [] p size).bind (mk agg)).map .v|.lookup kk z ok,[.mp d,.v k]=>match bp m d with
  |some (.mp B)=>if q9 kk k then match jC k B 0 with
   |some (some (_,v))=>some (.v (if ok then .tup [v,.bool true]else v))|some none=>some (.v (if ok then .tup [z,.bool false]else z))|none=>none
   else none
  |_=>none
 |.lookup kk z ok,[.v p,.v k]=>(fH [] (.lookup kk z ok) [p,k]).map .v|.loadF size agg,.ptr d o::l=>if l.all (Nq m d)=true then match bp m d with
  |some (.box cs)=>wV size agg ((cs.drop o).take size)|_=>none
  else none
 |_,_=>none
def ga(fr:S'):So->X'
 |[]=>true|.v _::r=>ga fr r|.ptr d _::r=> !(fr.contains d)&&ga fr r|.el d _ _::r=> !(fr.contains d)&&ga fr r|.mp d::r=> !(fr.contains d)&&ga fr r|_=>false
def qT(m:Tb bP)(a:Qr)(svs:So)(d:Nat):a_ (bP×SV):=
 match a,svs with
 |.alloc _ zero,[]=>some (.box (zero.map .v),.ptr d 0)|.box,[.v x]=>if x.cells.all V.one then some (.box (x.cells.map .v),.ptr d 0)else none|.box,[.agg l]=>if l.all (Ac m)then some (.box l,.ptr d 0)else none|.box,[x]=>if nU m x then some (.box [x],.ptr d 0)else none|.makeSl size zero,[.v (.int k n),.v (.int w c)]=>if k=.i64/\w=.i64/\0<=n/\n<=c/\c<=2147483648 then some (.sl (if n=c then .row else .part) size (replicate n.toNat zero),.own d)else none|.buildSl size len zero idx,z=>match dI z with
  |some u=>if idx.length=u.length then(fU size (replicate len zero) (idx.zip u)).map λB=>(.sl .row size B,.own d)else none|none=>none
 |.makeMap,[]=>some (.mp [],.mp d)|_,_=>none
def lM(m:Tb bP)(size:Nat):SV->a_ T'
 |.own d=>match bp m d with
  |some (.sl k es xs)=>if cT k then(if es=size then some xs else none)else some []|_=>none
 |.v .bR=>some []|.v .dP=>some []|.v (.fsl es xs)=>if es=size then some xs else none|_=>none
def Kn:SV->X'
 |.own _|.v .bR|.v .dP=>true|_=>false
def putCells(m:Tb bP)(size o:Nat)(sv:SV)(cs:So):a_ So:=
 match sv with
 |.v x=>if x.cells.length=size/\o+size<=cs.length/\x.cells.all V.one=true then some (cs.take o++x.cells.map .v++cs.drop (o+size))else none|.agg l=>if l.length=size/\o+size<=cs.length/\l.all (Ac m)=true then some (cs.take o++l++cs.drop (o+size))else none|x=>if nU m x=true/\size=1/\o+1<=cs.length then some (cs.take o++[x]++cs.drop (o+1))else none
def giveUp(m:Tb bP):SV->Tb bP
 |.own d=>ey d m|_=>m
def ow(st:St)(dst:a_ Nat):LC->So->a_ (SV×St)
 |.store size,[.ptr d o,x]=>match bp st.m d with
  |some (.box cs)=>(putCells st.m size o x cs).map λcs=>(.v .undef,{st with m:=bT st.m d (.box cs)})|_=>none
 |.store size,[.el d i o,.v x]=>match bp st.m d with
  |some (.sl k es xs)=>match xs[i]?with
   |some cs=>if x.cells.length=size/\o+size<=cs.length/\x.cells.all V.one=true then
    some (.v .undef,{st with m:=bT st.m d (.sl k es (xs.set i (cs.take o++x.cells++cs.drop (o+x.cells.length))))})else none
   |none=>none
  |_=>none
 |.mapUp kk,[.mp d,.v k,.v x]=>match bp st.m d with
  |some (.mp B)=>if q9 kk k then(rq k x B).map λB=>(.v .undef,{st with m:=bT st.m d (.mp B)})else none|_=>none
 |.append size,[s,x]=>match lM st.m size s,lM st.m size x with
  |some _,some []=>match dst with
   |some t=>match s with
    |.own d=>match bp st.m d with
     |some ob=>if St.new {st with m:=ey d st.m} t then some (.own t,{st with m:=bT (ey d st.m) t ob})else none|none=>none
    |.v .bR=>if st.new t then some (.own t,{st with m:=bT st.m t (.sl .nil size [])})else none|.v .dP=>if st.new t then some (.own t,{st with m:=bT st.m t (.sl .emp size [])})else none|_=>none
   |none=>none
  |some xs,some ys=>
   if xs.length+ys.length<=2147483648/\Kn s=true then
    let m1:=giveUp st.m s
    match dst with
    |some t=>if St.new {st with m:=m1} t then some (.own t,{st with m:=bT m1 t (.sl .row size (xs++ys))})else none|none=>none
   else none
  |_,_=>none
 |.storeF size,.ptr d o::x::l=>if l.all (Nq st.m d)=true then match bp st.m d with
  |some (.box cs)=>(putCells st.m size o x cs).map λcs=>(.v .undef,{st with m:=bT st.m d (.box cs)})|_=>none
  else none
 |_,_=>none
def A5(st:St)(dst:a_ Nat)(size:Nat)(a b:X')(d:Nat)(bs:So):a_ (SV×St):=
 match bp st.m d,dI bs,dst with
 |some (.sl k es u),some z,some t=>
  if cT k=true/\es=size then
   (mU a b z).bind λ(l,h)=>(dZ u.length l h).bind λ(l,h)=>
    let w:=ey d st.m
    if St.new {st with m:=w} t then some (.own t,{st with m:=bT w t (.sl .part es ((u.take h).drop l))})else none
  else none
 |_,_,_=>none
def Cd:So->SV
 |[x]=>x|l=>.tup l
mutual
def SV.CW:SV->S'
 |.v _=>[]|.own e=>[e]|.ptr e _=>[e]|.el e _ _=>[e]|.mp e=>[e]|.clo _ a b=>SV.s7 a++SV.s7 b|.tup l=>SV.s7 l|.agg l=>SV.s7 l|.yl _=>[]
def SV.s7:So->S'
 |[]=>[]|x::r=>SV.CW x++SV.s7 r
end
def bP.CW:bP->S'
 |.box cs=>SV.s7 cs|_=>[]
def reach(m:Tb bP):Nat->S'->S'->S'
 |0,_,seen=>seen|_+1,[],seen=>seen|n+1,d::r,seen=>if seen.contains d then reach m n r seen else reach m n ((match bp m d with|some ob=>bP.CW ob|none=>[])++r) (seen++[d])
def handed(m:Tb bP)(l:So):a_ dK:=k9 m (reach m 32 (SV.s7 l) [])
mutual
def SV.bare:SV->X'
 |.v x=>x.scalar|.clo _ a b=>SV.yh a&&SV.yh b|.tup l=>SV.yh l|.agg l=>SV.yh l|_=>true
def SV.yh:So->X'
 |[]=>true|x::r=>SV.bare x&&SV.yh r
end
def bP.bare:bP->X'
 |.box cs=>SV.yh cs|_=>false
def zA(m:Tb bP)(k:Nat):X':=match bp m k with
 |some ob=>ob.bare|none=>true
def within(B:S')(ob:bP):X':=ob.CW.all B.contains
def AG(B:S')(m':dK):S'->Tb bP->a_ (Tb bP)
 |[],m=>some m|d::r,m=>match bp m' d with
  |some ob=>if within B ob then AG B m' r (bT m d ob)else none|none=>none
def lR(m':dK)(l:S')(m:Tb bP):a_ (Tb bP):=AG l m' l m
def mR(xs:T'):X':=xs.all λx=>x.all V.scalar
def DL(q:GH)(dst:a_ Nat)(args:So)(st:St):a_ (SV×St):=
 match args with
 |.own d::z=>match bp st.m d,dI z with
  |some (.sl k es u),some B=>match q.go es u B with
   |some w=>if q.part then match dst with
    |some t=>if St.new {st with m:=ey d st.m} t then some (.own t,{st with m:=bT (ey d st.m) t (if cT k then .sl .part es w else .sl k es u)})else none|none=>none
    else some (.v .undef,{st with m:=bT st.m d (if cT k then .sl k es w else .sl k es u)})
   |none=>none
  |_,_=>none
 |_=>none
def rowsOf:So->a_ S'
 |[]=>some []|.v _::r=>rowsOf r|.own d::r=>(rowsOf r).map (d::·)|_=>none
def fc(S:Sys)(c:cm)(dst:a_ Nat)(dr now:X')(old:So->X')(f:Y')(args:So)(st:St):a_ (SV×St):=
 if S.E.keep f then
  if now then
   if S.E.own f then
    match c_ st.m 8 args with
    |some az=>
     match c f (az.map .v) []with
     |some (rs,m')=>match dI rs with
      |some u=>if(result u).scalar then some (.v (result u),st)else none|none=>match rs,dst with
       |.own e::rest,some t=>match bp m' e,dI rest with
        |some (.sl .row es z),some u=>
         if V.cZ u&&mR z&&st.new t then
          some (Cd (.own t::u.map .v),{st with m:=bT st.m t (.sl .row es z)})
         else none
        |some (.sl .nil es _),some u=>if V.cZ u&&st.new t then some (Cd (.own t::u.map .v),{st with m:=bT st.m t (.sl .nil es [])})else none|some (.sl .emp es _),some u=>if V.cZ u&&st.new t then some (Cd (.own t::u.map .v),{st with m:=bT st.m t (.sl .emp es [])})else none|_,_=>none
       |_,_=>none
     |none=>none
    |none=>none
   else match S.prm f with
    |some q=>if dr then none else DL q dst args st|none=>match handed st.m args with
    |some os=>match c f args os with
     |some (rs,m')=>match dI rs,lR m' (os.map (·.1)) st.m with
      |some u,some w=>if dr&& !(V.cZ u&&os.all λx=>zA w x.1)then none else some (.v (result u),{st with m:=w})|none,some w=>if dr then none else match rs,dst with
       |.own e::rest,some t=>match bp m' e,dI rest with
        |some (.sl k es z),some u=>if !(os.map (·.1)).contains e&&St.new {st with m:=w} t then some (Cd (.own t::u.map .v),{st with m:=bT w t (.sl k es z)})else none|_,_=>none
       |_,_=>none
      |_,_=>none
     |none=>none
    |none=>none
  else if S.E.own f&&old args then match c_ st.m 8 args with
   |some az=>match c f (az.map .v) []with
    |some (rs,m')=>match c_ m' 8 rs with
     |some u=>if(result u).scalar||(dI args).isSome then some (.v (result u),st)else none|none=>none
    |none=>none
   |none=>none
  else none
 else match c_ st.m 8 args with
  |some az=>if now||old args then
   match c f (az.map .v) []with
   |some (rs,m')=>match c_ m' 8 rs with
    |some u=>if(result u).scalar||(dI args).isSome then some (.v (result u),st)
     else if now then(rowsOf args).map λds=>(.v (result u),{st with m:=qK ds st.m})
     else none
    |none=>none
   |none=>none
   else none
  |none=>none
def f_(m:Tb bP)(fr:S')(args:So):X':=fr.all λd=> !(SV.dO d args)&& !(uv d m)
def Cc:K->X'
 |.p (.build zero _)=>V.cK zero|.r (.lookup _ z _)=>z.good|.a (.alloc _ zero)=>V.cK zero&&zero.all V.one|.a (.makeSl _ zero)=>V.cK zero|.a (.buildSl _ _ zero _)=>V.cK zero|_=>true
def nN(S:Sys)(c:cm)(dr:X')(fr:S')(o:RO)(st:St):a_ (SV×St):=
 match ck S.N st.g o.az with
 |some u=>match o.k with
  |.p (.slice size lo hi)=>match u with
   |.own d::z=>if dr then none else A5 st o.dst size lo hi d z|u=>(k7 S.N st.m (.slice size lo hi) u).map λx=>(x,st)
  |.p p=>(k7 S.N st.m p u).map λx=>(x,st)|.r r=>if !dr||o.now||ga fr u then(qD st.m r u).map λx=>(x,st)else none|.a a=>match o.dst with
   |some d=>if st.new d then(qT st.m a u d).map λ(ob,x)=>(x,{st with m:=bT st.m d ob})else none|none=>none
  |.l l=>if !dr||o.now then ow st o.dst l u else none|.c=>match u with
   |.clo f a b::w=>fc S c o.dst dr (!dr||o.now) (f_ st.m fr) f (a++w++b) st|.v (.clo f a b)::w=>fc S c o.dst dr (!dr||o.now) (f_ st.m fr) f (a.map .v++w++b.map .v) st|_=>none
  |.b=>if dr then none else match u with
   |[x]=>(lM st.m 1 x).bind λB=>(qW B).map λl=>(.v (.str (MH l)),st)|_=>none
  |.e n=>match u with
   |[.v .bR,x]=>ow st o.dst (.append n) [.v .bR,x]|[.v .dP,x]=>ow st o.dst (.append n) [.v .dP,x]|_=>none
 |none=>none
def dy(st:St)(dst:a_ Nat)(x:SV):St:=
 match dst with
 |none=>st|some d=>{st with g:=bT st.g d x}
def wanted(g:Tb SV):a_ (Nat×X')->a_ X'
 |none=>some true|some (s,b)=>match bp g s with
  |some (.v (.bool c))=>some (c==b)|some (.v _)=>some false|_=>none
def zS(o:RO):a_ Nat:=
 match o.k with
 |.p _|.r _=>none|_=>o.dst
def sC(fr:S')(o:RO):S':=
 match zS o with
 |some d=>d::fr|none=>fr
def bz(H:bq)(id:Nat):a_ (Nat×T'):=(H[id]?).bind Ob.rows
mutual
def V.lU:∀{x:V},x.good=true->x.closed=true
 |.hsl ..,h|.hptr ..,h|.yld _,h|.hmap _,h=>by simp[V.good]at h|.fsl ..,_|.fptr ..,_|.fmap ..,_=>rfl|.bool _,_|.int ..,_|.str _,_|.dP,_|.bR,_|.jc,_|.iB,_|.tw,_=>rfl|.clo _ a b,h=>by simp only[V.good,ζh]at h;simp only[V.closed,ζh];exact⟨V.o5 h.1,V.o5 h.2⟩|.agg cs,h=>by simp only[V.good]at h;simp only[V.closed];exact V.o5 h|.tup cs,h=>by simp only[V.good]at h;simp only[V.closed];exact V.o5 h
def V.o5:∀{l:T2},V.cK l=true->V.mq l=true
 |[],_=>rfl|x::r,h=>by simp only[V.cK,ζh]at h;simp only[V.mq,ζh];exact⟨V.lU h.1,V.o5 h.2⟩
end
def iV:∀{l:T2},V.cK l=true↔∀(j:Nat)u,l[j]?=some u->u.good=true
 |[]=>by simp[V.cK]|x::l=>by simp[V.cK,iV];constructor;grind;intro h;exact⟨h 0 x rfl,λj u a=>h (j+1) u Zac⟩
def lV:∀{l:T'},V.oc l=true↔∀(j:Nat)u,l[j]?=some u->V.cK u=true
 |[]=>by simp[V.oc]|x::l=>by simp[V.oc,lV];constructor;grind;intro h;exact⟨h 0 x rfl,λj u a=>h (j+1) u Zac⟩
def Hr:∀{l:aZ (V×V)},V.tZ l=true↔∀(j:Nat)u,l[j]?=some u->u.1.good=true/\u.2.good=true
 |[]=>by simp[V.tZ]|(k,x)::l=>by simp only[V.tZ,ζh,Hr];constructor;grind;intro h;exact⟨h 0 (k,x) rfl,λj u a=>h (j+1) u Zac⟩
def zI{l:T2}(n:Nat)(h:V.cK l=true):V.cK (l.drop n)=true:=iV.2 λj u a=>iV.1 h (n+j) u Zac
inductive FR(H:bq)(Z:Nat->Prop):V->V->Prop
 |same(x:V)(h:x.good=true):FR H Z x x|fsl(es:Nat)(xs:List (List V))(id off:Nat)(ys:List (List V))(hz:Z id)(hr:bz H id=some (es,ys))(hl:off+xs.length<=ys.length)
  (hc:∀(i:Nat)a b,xs[i]?=some a->ys[off+i]?=some b->a.length=b.length)
  (hv:∀(i j:Nat)a b u v,xs[i]?=some a->ys[off+i]?=some b->a[j]?=some u->b[j]?=some v->FR H Z u v):FR H Z (.fsl es xs) (.hsl id es off xs.length)
 |fptr(xs:List V)(id el off es:Nat)(ys:List (List V))(cs:List V)(hz:Z id)(hr:bz H id=some (es,ys))(he:ys[el]?=some cs)(ho:off<=cs.length)(hx:xs.length=cs.length-off)
  (hv:∀(j:Nat)u v,xs[j]?=some u->cs[off+j]?=some v->FR H Z u v):FR H Z (.fptr xs) (.hptr id el off)
 |clo(f:FuncId)(a b a' b':List V)(ha:a.length=a'.length)(hb:b.length=b'.length)(hva:∀(j:Nat)u v,a[j]?=some u->a'[j]?=some v->FR H Z u v)(hvb:∀(j:Nat)u v,b[j]?=some u->b'[j]?=some v->FR H Z u v):FR H Z (.clo f a b) (.clo f a' b')|agg(a a':List V)(ha:a.length=a'.length)(hva:∀(j:Nat)u v,a[j]?=some u->a'[j]?=some v->FR H Z u v):FR H Z (.agg a) (.agg a')|tup(a a':List V)(ha:a.length=a'.length)(hva:∀(j:Nat)u v,a[j]?=some u->a'[j]?=some v->FR H Z u v):FR H Z (.tup a) (.tup a')
def dB(H:bq)(Z:Nat->Prop)(xs ys:T2):Prop:=xs.length=ys.length/\∀(j:Nat)u v,xs[j]?=some u->ys[j]?=some v->FR H Z u v
def gY(H:bq)(Z:Nat->Prop)(xs ys:T'):Prop:=xs.length=ys.length/\∀(j:Nat)u v,xs[j]?=some u->ys[j]?=some v->dB H Z u v
section
variable{H H':bq}{Z Z':Nat->Prop}
def FR.mono(h:∀id,Z id->Z' id/\bz H' id=bz H id){x y:V}(r:FR H Z x y):FR H' Z' x y:=by induction r with|same x h=>exact .same x h|fsl es B id off C D hr J hc hv G=>exact .fsl es B id off C (h id D).1 Zac J hc G|fptr B id el off es C cs D hr L O Q hv G=>exact .fptr B id el off es C cs (h id D).1 Zac L O Q G|clo f a b w S z T hva U u I=>exact .clo f a b w S z T u I|agg a w z hva u=>exact .agg a w z u|tup a w z hva u=>exact .tup a w z u
def dB.mono(h:∀id,Z id->Z' id/\bz H' id=bz H id){x y:T2}(r:dB H Z x y):dB H' Z' x y:=⟨r.1,λj u v a b=>(r.2 j u v a b).mono h⟩
def gY.mono(h:∀id,Z id->Z' id/\bz H' id=bz H id){x y:T'}(r:gY H Z x y):gY H' Z' x y:=⟨r.1,λj u v a b=>(r.2 j u v a b).mono h⟩
def dB.nil:dB H Z [] []:=⟨rfl,Zab⟩
def dB.cons{x y:V}{xs ys:T2}(h:FR H Z x y)(r:dB H Z xs ys):dB H Z (x::xs) (y::ys):=by refine⟨by simp[r.1],λj u v a b=>?_⟩;cases j with|zero=>grind|succ j=>exact r.2 j u v Zac Zac
def dB.inv{x:V}{xs B:T2}(r:dB H Z (x::xs) B):∃y ys,B=y::ys/\FR H Z x y/\dB H Z xs ys:=by cases B with|nil=>have:=r.1;grind|cons y ys=>refine⟨y,ys,rfl,r.2 0 x y rfl rfl,by have:=r.1;grind,λj u v a b=>r.2 (j+1) u v Zac Zac⟩
def dB.dc{B:T2}(r:dB H Z [] B):B=[]:=by have:=r.1;grind
def dB.get{xs ys:T2}(r:dB H Z xs ys){j:Nat}{u:V}(h:xs[j]?=some u):∃v,ys[j]?=some v/\FR H Z u v:=by
 have w:=(ζe.1 h).1;have:j<ys.length:=by rw[<-r.1];omega
 exact⟨ys[j],ζd this,r.2 j u _ h (ζd this)⟩
def gY.get{xs ys:T'}(r:gY H Z xs ys){j:Nat}{u:T2}(h:xs[j]?=some u):∃v,ys[j]?=some v/\dB H Z u v:=by
 have w:=(ζe.1 h).1;have:j<ys.length:=by rw[<-r.1];omega
 exact⟨ys[j],ζd this,r.2 j u _ h (ζd this)⟩
def dB.append{a b c d:T2}(h:dB H Z a b)(k:dB H Z c d):dB H Z (a++c) (b++d):=by refine⟨by simp[h.1,k.1],λj u v e f=>?_⟩;by_cases w:j<a.length;rw[getElem?_append_left w]at e;rw[getElem?_append_left (by rw[<-h.1];omega)]at f;exact h.2 j u v e f;rw[getElem?_append_right Zaa]at e;rw[getElem?_append_right (by rw[<-h.1];omega),<-h.1]at f;exact k.2 _ u v e f
def gY.append{a b c d:T'}(h:gY H Z a b)(k:gY H Z c d):gY H Z (a++c) (b++d):=by refine⟨by simp[h.1,k.1],λj u v e f=>?_⟩;by_cases w:j<a.length;rw[getElem?_append_left w]at e;rw[getElem?_append_left (by rw[<-h.1];omega)]at f;exact h.2 j u v e f;rw[getElem?_append_right Zaa]at e;rw[getElem?_append_right (by rw[<-h.1];omega),<-h.1]at f;exact k.2 _ u v e f
def dB.take{a b:T2}(h:dB H Z a b)(n:Nat):dB H Z (a.take n) (b.take n):=by
 refine⟨by simp[h.1],λj u v c d=>?_⟩;rw[getElem?_take]at c d;split at c;next w=>rw[if_pos w]at d;exact h.2 j u v c d
 grind
def dB.drop{a b:T2}(h:dB H Z a b)(n:Nat):dB H Z (a.drop n) (b.drop n):=by refine⟨by simp[h.1],λj u v c d=>?_⟩;rw[getElem?_drop]at c d;exact h.2 _ u v c d
def gY.take{a b:T'}(h:gY H Z a b)(n:Nat):gY H Z (a.take n) (b.take n):=by
 refine⟨by simp[h.1],λj u v c d=>?_⟩;rw[getElem?_take]at c d;split at c;next w=>rw[if_pos w]at d;exact h.2 j u v c d
 grind
def gY.drop{a b:T'}(h:gY H Z a b)(n:Nat):gY H Z (a.drop n) (b.drop n):=by refine⟨by simp[h.1],λj u v c d=>?_⟩;rw[getElem?_drop]at c d;exact h.2 _ u v c d
def dB.set{a b:T2}(h:dB H Z a b)(n:Nat){x y:V}(B:FR H Z x y):dB H Z (a.set n x) (b.set n y):=by refine⟨by simp[h.1],λj u v c d=>?_⟩;rw[getElem?_set]at c d;split at c;grind;rename_i e;rw[if_neg e]at d;exact h.2 j u v c d
def gY.set{a b:T'}(h:gY H Z a b)(n:Nat){x y:T2}(B:dB H Z x y):gY H Z (a.set n x) (b.set n y):=by refine⟨by simp[h.1],λj u v c d=>?_⟩;rw[getElem?_set]at c d;split at c;grind;rename_i e;rw[if_neg e]at d;exact h.2 j u v c d
def dB.same{l:T2}(h:V.cK l=true):dB H Z l l:=⟨rfl,λj u v a b=>by rw[a]at b;cases b;exact .same u (iV.1 h j u a)⟩
def FR.good{x y:V}(r:FR H Z x y):x.good=true:=by induction r with|same x h=>omega|fsl es C id off D G hr O hc hv I=>refine lV.2 λi a z=>iV.2 λj u c=>?_;grind|fptr C id el off es D cs G hr Q S T hv I=>refine iV.2 λj u c=>?_;grind|clo f a b B U z W hva J w L=>simp[V.good];refine⟨iV.2 λj u c=>?_,iV.2 λj u c=>?_⟩;grind;grind|agg a B z hva w=>refine iV.2 λj u c=>?_;grind|tup a B z hva w=>simp[V.good];refine iV.2 λj u c=>?_;grind
def FR.closed{x y:V}(r:FR H Z x y):x.closed=true:=V.lU r.good
def dB.good{xs ys:T2}(r:dB H Z xs ys):V.cK xs=true:=iV.2 λj u a=>by have⟨v,_,h⟩:=r.get a;exact h.good
def gY.good{xs ys:T'}(r:gY H Z xs ys):V.oc xs=true:=lV.2 λj u a=>by have⟨v,_,h⟩:=r.get a;exact h.good
def FR.bool{b:X'}{y:V}(r:FR H Z (.bool b) y):y=.bool b:=by cases r;rfl
def FR.int{k:IntKind}{n:Int}{y:V}(r:FR H Z (.int k n) y):y=.int k n:=by cases r;rfl
def FR.str{s:U'}{y:V}(r:FR H Z (.str s) y):y=.str s:=by cases r;rfl
def FR.dP{y:V}(r:FR H Z .dP y):y=.dP:=by cases r;rfl
def FR.bR{y:V}(r:FR H Z .bR y):y=.bR:=by cases r;rfl
def FR.jc{y:V}(r:FR H Z .jc y):y=.jc:=by cases r;rfl
def FR.iB{y:V}(r:FR H Z .iB y):y=.iB:=by cases r;rfl
def FR.tw{y:V}(r:FR H Z .tw y):y=.tw:=by cases r;rfl
def FR.fmap{B:aZ (V×V)}{y:V}(r:FR H Z (.fmap B) y):y=.fmap B:=by cases r;rfl
def FR.jE{a:T2}{y:V}(r:FR H Z (.agg a) y):∃a',y=.agg a'/\dB H Z a a':=by cases r with|same _ h=>exact⟨a,rfl,.same (by simpa[V.good]using h)⟩|agg _ a' u hva=>exact⟨a',rfl,u,hva⟩
def FR.rX{a:T2}{y:V}(r:FR H Z (.tup a) y):∃a',y=.tup a'/\dB H Z a a':=by cases r with|same _ h=>exact⟨a,rfl,.same (by simpa[V.good]using h)⟩|tup _ a' u hva=>exact⟨a',rfl,u,hva⟩
def FR.lq{f:Y'}{a b:T2}{y:V}(r:FR H Z (.clo f a b) y):∃a' B,y=.clo f a' B/\dB H Z a a'/\dB H Z b B:=by cases r with|same _ h=>simp[V.good]at h;exact⟨a,b,rfl,.same h.1,.same h.2⟩|clo _ _ _ a' B w z hva u=>exact⟨a',B,rfl,⟨w,hva⟩,⟨z,u⟩⟩
def FR.nC{es:Nat}{xs:T'}{y:V}(r:FR H Z (.fsl es xs) y):y=.fsl es xs\/
 ∃id off ys,y=.hsl id es off xs.length/\Z id/\bz H id=some (es,ys)/\off+xs.length<=ys.length/\gY H Z xs ((ys.drop off).take xs.length):=by
 cases r with
 |same _ h=>grind|fsl _ _ id off ys z hr B hc hv=>
  refine .inr ⟨id,off,ys,rfl,z,hr,B,by simp;omega,λj u v a w=>?_⟩
  have C:=(ζe.1 a).1;rw[getElem?_take,if_pos C,getElem?_drop]at w;exact⟨hc j u v a w,λi s t D G=>hv j i u v s t a w D G⟩
def FR.Mq{es:Nat}{xs:T'}{id off:Nat}{ys:T'}(B:Z id)(c:bz H id=some (es,ys))(D:off+xs.length<=ys.length)(h:gY H Z xs ((ys.drop off).take xs.length)):
 FR H Z (.fsl es xs) (.hsl id es off xs.length):=by
 have key:∀(i:Nat)a b,xs[i]?=some a->ys[off+i]?=some b->dB H Z a b:=λi a b w z=>by refine h.2 i a b w ?_;grind
 exact .fsl es xs id off ys B c D (λi a b w z=>(key i a b w z).1) (λi j a b u v w z d e=>(key i a b w z).2 j u v d e)
def FR.nK{xs:T2}{y:V}(r:FR H Z (.fptr xs) y):y=.fptr xs\/
 ∃id el off es ys cs,y=.hptr id el off/\Z id/\bz H id=some (es,ys)/\ys[el]?=some cs/\off<=cs.length/\dB H Z xs (cs.drop off):=by
 cases r with
 |same _ h=>grind|fptr _ id el off es ys cs w hr z B D hv=>
  refine .inr ⟨id,el,off,es,ys,cs,rfl,w,hr,z,B,Zad,λj u v a C=>?_⟩
  grind
def FR.ES{xs:T2}{id el off es:Nat}{ys:T'}{cs:T2}(B:Z id)(a:bz H id=some (es,ys))(D:ys[el]?=some cs)(G:off<=cs.length)(h:dB H Z xs (cs.drop off)):FR H Z (.fptr xs) (.hptr id el off):=.fptr xs id el off es ys cs B a D G (by have:=h.1;grind) (λj u v b c=>h.2 j u v b Zac)
def FR.cells{x y:V}(r:FR H Z x y):dB H Z x.cells y.cells:=by
 have one:∀{a b:V},FR H Z a b->dB H Z [a] [b]:=λh=>.cons h .nil
 cases r with
 |same _ h=>cases x<;>first|exact one (.same _ h)|(exact dB.same h)
 |fsl es z id off B C hr G hc hv=>exact one (.fsl es z id off B C hr G hc hv)|fptr z id el off es B cs C hr I J L hv=>exact one (.fptr z id el off es B cs C hr I J L hv)|clo f a b w O u Q hva D=>exact one (.clo f a b w O u Q hva D)|agg a w u hva=>exact⟨u,hva⟩|tup a w u hva=>exact one (.tup a w u hva)
def FR.one{x y:V}(r:FR H Z x y):y.one=x.one:=by cases r<;>rfl
def dB.one:∀{xs ys:T2},dB H Z xs ys->ys.all V.one=xs.all V.one
 |[],ys,r=>by rw[r.dc]|x::xs,D,r=>by obtain⟨y,ys,rfl,h,B⟩:=r.inv;simp[h.one,B.one]
def sx:∀{l:T2},V.cZ l=true↔∀(j:Nat)u,l[j]?=some u->u.scalar=true
 |[]=>by simp[V.cZ]|x::l=>by simp[V.cZ,sx];constructor;grind;intro h;exact⟨h 0 x rfl,λj u a=>h (j+1) u Zac⟩
def FR.scalar{x y:V}(r:FR H Z x y):(x.scalar=true->y=x)/\y.scalar=x.scalar:=by
 have key:∀(a w:T2),a.length=w.length->(∀(j:Nat)u v,a[j]?=some u->w[j]?=some v->(u.scalar=true->v=u)/\v.scalar=u.scalar)->(V.cZ a=true->w=a)/\V.cZ w=V.cZ a:=by intro a w B G;have b:V.cZ a=true->w=a:=(by intro I;refine(List.ext_getElem B λj b C=>?_).symm;exact(((G j _ _ (ζd b) (ζd C)).1 (sx.1 I j _ (ζd b)))).symm);refine⟨b,?_⟩;cases I:V.cZ a with|true=>grind|false=>cases D:V.cZ w with|false=>rfl|true=>have:V.cZ a=true:=sx.2 λj u c=>(by have J:j<w.length:=Zac;have:=(G j u _ c (ζd J)).2;rw[<-this];exact sx.1 D j _ (ζd J));grind
 induction r with|same x h=>grind|fsl=>exact⟨λh=>by simp[V.scalar]at h,rfl⟩|fptr=>exact⟨λh=>by simp[V.scalar]at h,rfl⟩|clo=>exact⟨λh=>by simp[V.scalar]at h,rfl⟩|agg a w B hva z=>have⟨b,C⟩:=key a w B z;exact⟨λh=>by rw[b (by simpa[V.scalar]using h)],by simpa[V.scalar]using C⟩|tup a w B hva z=>have⟨b,C⟩:=key a w B z;exact⟨λh=>by rw[b (by simpa[V.scalar]using h)],by simpa[V.scalar]using C⟩
def dB.scalar{a a':T2}(r:dB H Z a a'):(V.cZ a=true->a'=a)/\V.cZ a'=V.cZ a:=by have⟨b,u⟩:=FR.scalar (.tup a a' r.1 r.2);simp[V.scalar]at b u;grind
def sL:∀{l:T2}{a:SW},jl l=some a->V.cZ l=true
 |[],_,_=>rfl|x::l,a,h=>by unfold jl at h;split at h;grind;(next n r e=>cases e;have⟨b,B,_⟩:=ζf.1 h;simp[V.cZ,V.scalar];exact sL B);grind
end
mutual
def kL:∀{x:V},x.scalar=true->x.good=true
 |.bool _,_|.int ..,_|.str _,_|.jc,_|.iB,_|.tw,_|.dP,_|.bR,_=>rfl|.agg cs,h=>by simp only[V.scalar]at h;simp only[V.good];exact q_ h|.tup cs,h=>by simp only[V.scalar]at h;simp only[V.good];exact q_ h|.fsl ..,h|.hsl ..,h|.fptr ..,h|.hptr ..,h|.clo ..,h|.yld _,h|.fmap _,h|.hmap _,h=>by simp[V.scalar]at h
def q_:∀{l:T2},V.cZ l=true->V.cK l=true
 |[],_=>rfl|x::r,h=>by simp only[V.cZ,ζh]at h;simp only[V.cK,ζh];exact⟨kL h.1,q_ h.2⟩
end
section
variable{H H':bq}{Z Z':Nat->Prop}
def lQ{f:V->a_ V}:∀{xs ys:T2},xs.length=ys.length->(∀(j:Nat)u v,xs[j]?=some u->ys[j]?=some v->f v=some u)->jo f ys=some xs
 |[],[],_,_=>rfl|[],y::ys,h,_=>Zad|x::xs,[],h,_=>Zad|x::xs,y::ys,h,B=>by simp[jo,B 0 x y rfl rfl,lQ (xs:=xs) (ys:=ys) Zac λj u v a b=>B (j+1) u v Zac Zac]
def JF{f:V->a_ V}:∀{xs ys:T'},xs.length=ys.length->(∀(j:Nat)u v,xs[j]?=some u->ys[j]?=some v->jo f v=some u)->mV f ys=some xs
 |[],[],_,_=>rfl|[],y::ys,h,_=>Zad|x::xs,[],h,_=>Zad|x::xs,y::ys,h,B=>by simp[mV,B 0 x y rfl rfl,JF (xs:=xs) (ys:=ys) Zac λj u v a b=>B (j+1) u v Zac Zac]
def ql:∀{l:T2},V.mq l=true↔∀(j:Nat)u,l[j]?=some u->u.closed=true
 |[]=>by simp[V.mq]|x::l=>by simp[V.mq,ql];constructor;grind;intro h;exact⟨h 0 x rfl,λj u a=>h (j+1) u Zac⟩
def nF:∀{l:T2}{n:Nat},V.mJ n l=true↔∀(j:Nat)u,l[j]?=some u->u.lvl n=true
 |[],n=>by simp[V.mJ]|x::l,n=>by simp[V.mJ,nF];constructor;grind;intro h;exact⟨h 0 x rfl,λj u a=>h (j+1) u Zac⟩
def Gv:∀{l:T'}{n:Nat},V.qC n l=true↔∀(j:Nat)u,l[j]?=some u->V.mJ n u=true
 |[],n=>by simp[V.qC]|x::l,n=>by simp[V.qC,Gv];constructor;grind;intro h;exact⟨h 0 x rfl,λj u a=>h (j+1) u Zac⟩
def eC(n:Nat)(H:bq){x:V}(h:x.closed=true):borrow n H x=some x:=lG n H h
def FR.borrow{x y:V}(r:FR H Z x y):∀n,x.lvl n=true->borrow n H y=some x:=by
 induction r with
 |same x h=>exactλn _=>eC n H (V.lU h)|fsl es J id off U W hr X hc d L=>intro n z;cases n with|zero=>simp[V.lvl]at z|succ n=>unfold Go.VE.borrow;unfold bz at hr;simp only[V.closed,false_eq_true,if_false,hr,true_and,if_pos X,ζf];refine⟨J,JF (by simp;omega) λj u v c B=>?_,rfl⟩;have Y:=(ζe.1 c).1;rw[getElem?_take,if_pos Y,getElem?_drop]at B;refine lQ (hc j u v c B) λi s t Q e=>L j i u v s t c B Q e n (nF.1 (Gv.1 z j u c) i s Q)
 |fptr J id el off es U cs W hr he ho hx d L=>intro n z;cases n with|zero=>simp[V.lvl]at z|succ n=>unfold Go.VE.borrow;unfold bz at hr;simp only[V.closed,false_eq_true,if_false,hr,he,if_pos ho,ζf];refine⟨J,lQ Zad λj u v c B=>?_,rfl⟩;rw[getElem?_drop]at B;exact L j u v c B n (nF.1 z j u c)
 |clo f a b D S G T hva aa C I=>intro n z;cases n with|zero=>simp[V.lvl]at z|succ n=>simp[V.lvl]at z;by_cases w:(V.clo f D S).closed=true;rw[eC _ _ w];simp[V.closed]at w;have e1:D=a:=(by have:=lQ G λj u v c d=>C j u v c d n (nF.1 z.1 j u c);have O:=lQ rfl λj u v c d=>(by rw[c]at d;cases d;exact eC n H (ql.1 w.1 j u c));grind);have e2:S=b:=(by have:=lQ T λj u v c d=>I j u v c d n (nF.1 z.2 j u c);have O:=lQ rfl λj u v c d=>(by rw[c]at d;cases d;exact eC n H (ql.1 w.2 j u c));grind);simp_all;unfold Go.VE.borrow;rw[if_neg w];simp[lQ G λj u v c d=>C j u v c d n (nF.1 z.1 j u c),lQ T λj u v c d=>I j u v c d n (nF.1 z.2 j u c)]
 |agg a D G hva C=>intro n z;cases n with|zero=>simp[V.lvl]at z|succ n=>have g:=lQ G λj u v c d=>C j u v c d n (nF.1 z j u c);by_cases w:(V.agg D).closed=true;rw[eC _ _ w];have O:=lQ rfl λj u v c d=>(by rw[c]at d;cases d;exact eC n H (ql.1 w j u c));grind;unfold Go.VE.borrow;grind
 |tup a D G hva C=>intro n z;cases n with|zero=>simp[V.lvl]at z|succ n=>have g:=lQ G λj u v c d=>C j u v c d n (nF.1 z j u c);by_cases w:(V.tup D).closed=true;rw[eC _ _ w];have O:=lQ rfl λj u v c d=>(by rw[c]at d;cases d;exact eC n H (ql.1 w j u c));grind;unfold Go.VE.borrow;grind
def qR{f:V->S'}{k:Nat}:∀{l:T2},k∈c6 f l->∃(j:Nat)(u:V),l[j]?=some u/\k∈f u
 |[],h=>by simp[c6]at h|x::l,h=>by simp[c6]at h;rcases h with h|h;exact⟨0,x,rfl,h⟩;have⟨j,u,b,a⟩:=qR h;exact⟨j+1,u,Zac,a⟩
structure Deep(H:bq)(Z:Nat->Prop):Prop where
 row:∀id es ys,Z id->bz H id=some (es,ys)->∀c∈ys,∀u∈c,∃x,FR H Z x u
def FR.cw(hd:Deep H Z):∀(n:Nat){x y:V},FR H Z x y->∀k∈cw n H y,Z k
 |0,x,y,r,k,d=>by simp[Go.VE.cw]at d|n+1,x,y,r,k,d=>by
  unfold Go.VE.cw at d;split at d;simp_all;rename_i J;have G:∀(a a':T2),dB H Z a a'->k∈c6 (Go.VE.cw n H) a'->Z k:=λa a' h d=>by have⟨j,u,e,z⟩:=qR d;have S:j<a.length:=(by rw[h.1];grind);exact FR.cw hd n (h.2 j _ u (ζd S) e) k z
  have row:∀(id:Nat)es w(l:T2),Z id->bz H id=some (es,w)->(∀u∈l,∃c∈w,u∈c)->k∈c6 (Go.VE.cw n H) l->Z k:=λid es w l B hr L d=>by have⟨j,u,e,z⟩:=qR d;have⟨c,g,C⟩:=L u (mem_of_getElem? e);have⟨x,O⟩:=hd.row id es w B hr c g u C;exact FR.cw hd n O k z
  cases r with
  |same _ h=>exact absurd (V.lU h) J|fsl es T id off w B hr L g hv=>simp only[mem_cons]at d;rcases d with rfl|d;exact B;rw[show(H[id]?).bind Ob.rows=some (es,w)from hr]at d;exact row id es w _ B hr (λu e=>by have⟨c,g,C⟩:=List.mem_flatten.1 e;exact⟨c,mem_of_mem_drop (List.mem_of_mem_take g),C⟩) d
  |fptr T id el off es w cs B hr Q X O hv=>simp only[mem_cons]at d;rcases d with rfl|d;exact B;rw[show(H[id]?).bind Ob.rows=some (es,w)from hr]at d;simp only[Q,Option.getD_some]at d;exact row id es w _ B hr (λu e=>⟨cs,mem_of_getElem? Q,mem_of_mem_drop e⟩) d
  |clo f a b a' U D W hva I=>simp at d;rcases d with d|d;exact G a a' ⟨D,hva⟩ d;exact G b U ⟨W,I⟩ d
  |agg a a' D hva=>exact G a a' ⟨D,hva⟩ d|tup a a' D hva=>exact G a a' ⟨D,hva⟩ d
def dB.cut{cs ys r:T2}{off n:Nat}(h:dB H Z cs ys)(a:cut cs off n=some r):∃B,Go.VE.cut ys off n=some B/\dB H Z r B:=by unfold Go.VE.cut at a⊢;have u:=(h.drop off).take n;dsimp only at a⊢;split at a;simp at a;subst a;exact⟨_,by rw[if_pos (by rw[<-u.1];omega)],u⟩;grind
def dB.mk{agg:X'}{cs ys:T2}{x:V}(h:dB H Z cs ys)(B:mk agg cs=some x):∃y,Go.VE.mk agg ys=some y/\FR H Z x y:=by unfold Go.VE.mk at B⊢;split at B;simp at B;subst B;exact⟨_,Zac,.agg _ _ h.1 h.2⟩;split at B;simp at B;obtain⟨y,ys,rfl,a,u⟩:=h.inv;rw[u.dc];grind;grind
def dB.fill:∀{pl:aZ (Nat×Nat)}{vs B cells cells' r:T2},dB H Z cells cells'->dB H Z vs B->lX cells pl vs=some r->∃D,lX cells' pl B=some D/\dB H Z r D
 |[],vs,B,cells,cells',r,hc,hv,h=>by cases vs with|nil=>rw[hv.dc];simp[lX]at h⊢;grind|cons v vs=>simp[lX]at h
 |(off,size)::pl,vs,B,cells,cells',r,hc,hv,h=>by cases vs with|nil=>simp[lX]at h|cons v vs=>obtain⟨w,B,rfl,a,G⟩:=hv.inv;have k:=a.cells;simp only[lX]at h⊢;rw[<-k.1,<-hc.1];split at h;simp_all;rename_i e;rw[if_neg e];exact dB.fill (((hc.take off).append k).append (hc.drop _)) G h
def FR.v_{k:KT}{x y G J:V}{b:X'}(B:FR H Z x G)(D:FR H Z y J)(h:qu k x y=some b):qu k G J=some b:=by unfold qu at h;split at h;rw[B.bR,D.bR];exact h;rw[D.bR];rcases B.nC with rfl|⟨_,_,_,rfl,_⟩<;>exact h;exact absurd B.closed (by simp[V.closed]);rw[B.jc,D.jc];exact h;rw[D.jc];rcases B.nK with rfl|⟨_,_,_,_,_,_,rfl,_⟩<;>exact h;exact absurd B.closed (by simp[V.closed]);rw[B.iB,D.iB];exact h;rw[D.iB,B.fmap];exact h;exact absurd B.closed (by simp[V.closed]);grind
def FR.me{a b a' B:T2}{r:X'}(D:dB H Z a a')(G:dB H Z b B)(h:me a b=some r):Go.VE.me a' B=some r:=by unfold Go.VE.me at h;split at h;rename_i u v c d;rw[D.scalar.1 (sL c),G.scalar.1 (sL d)];unfold Go.VE.me;grind;grind
def B2{k:KT}{x y:V}{b:X'}(h:qu k x y=some b):(y=.bR/\(x=.bR\/(∃es xs,x=.fsl es xs)\/∃id es off len,x=.hsl id es off len))\/
 (y=.jc/\(x=.jc\/(∃cs,x=.fptr cs)\/∃id el off,x=.hptr id el off))\/(y=.iB/\(x=.iB\/(∃B,x=.fmap B)\/∃id,x=.hmap id)):=by
 unfold qu at h
 grind
def J_{k:a_ KT}{e:a_ Nat}{op:BinOp}{x y:V}(D:(y=.bR/\(x=.bR\/(∃es xs,x=.fsl es xs)\/∃id es off len,x=.hsl id es off len))\/
 (y=.jc/\(x=.jc\/(∃cs,x=.fptr cs)\/∃id el off,x=.hptr id el off))\/(y=.iB/\(x=.iB\/(∃B,x=.fmap B)\/∃id,x=.hmap id))):
 iH k e op x y=(match k,op with
 |some k,.eql=>(qu k x y).map .bool|some k,.neq=>(qu k x y).map λt=>.bool !t|_,_=>none):=by
 rcases D with⟨rfl,rfl|⟨_,_,rfl⟩|⟨_,_,_,_,rfl⟩⟩|⟨rfl,rfl|⟨_,rfl⟩|⟨_,_,_,rfl⟩⟩|⟨rfl,rfl|⟨_,rfl⟩|⟨_,rfl⟩⟩<;>cases k<;>cases op<;>rfl
def Ll{k:a_ KT}{e:a_ Nat}{op:BinOp}{x y z:V}(h:iH k e op x y=some z):z.good=true:=by
 have w:∀{o:a_ X'}{z:V},o.map V.bool=some z->z.good=true:=λh=>by obtain⟨_,_,rfl⟩:=ζf.1 h;rfl
 have u:∀{o:a_ X'}{z:V},(o.map λt=>V.bool !t)=some z->z.good=true:=λh=>by obtain⟨_,_,rfl⟩:=ζf.1 h;rfl
 unfold iH at h;(repeat' split at h)<;>first|(simp at h;subst h;rfl)|exact w h|exact u h|simp at h
def FR.bin{k:a_ KT}{e:a_ Nat}{op:BinOp}{x y G J z:V}(B:FR H Z x G)(D:FR H Z y J)(h:iH k e op x y=some z):iH k e op G J=some z:=by
 have b:=h;unfold iH at h;split at h;rw[B.int,D.int];omega;rw[B.str,D.str];omega;rw[B.bool,D.bool];omega;obtain⟨L,rfl,w⟩:=B.jE;obtain⟨O,rfl,I⟩:=D.jE;split at h;split at h;next C=>obtain⟨r,a,rfl⟩:=ζf.1 h;simp[iH,<-w.1,C,FR.me w I a]
 grind;split at h;next C=>obtain⟨r,a,rfl⟩:=ζf.1 h;simp[iH,<-w.1,C,FR.me w I a]
 grind;grind;split at h;obtain⟨r,a,rfl⟩:=ζf.1 h;have u:=FR.v_ B D a;rw[J_ (B2 u)];grind;obtain⟨r,a,rfl⟩:=ζf.1 h;have u:=FR.v_ B D a;rw[J_ (B2 u)];grind;grind
def FR.slice{size:Nat}{x J z:V}{l h:QR}(D:FR H Z x J)(B:iY size x l h=some z):∃U,iY size J l h=some U/\FR H Z z U:=by
 have G:∀{n a b:Nat},dZ n l h=some (a,b)->b<=n/\a<=b:=by intro n a b e;unfold dZ at e;grind
 unfold iY at B;split at B;rename_i es I;split at B;rename_i L;obtain⟨⟨a,b⟩,w,rfl⟩:=ζf.1 B;have⟨Q,W⟩:=G w;rcases D.nC with rfl|⟨id,off,O,rfl,S,hr,X,T⟩;refine⟨_,by simp[iY,if_pos L,w],.same _ ?_⟩;have d:=D.good;refine lV.2 λj u c=>?_;rw[getElem?_drop,getElem?_take]at c;split at c;exact lV.1 d _ u c;grind;refine⟨.hsl id es (off+a) (b-a),by simp[iY,if_pos L,w],?_⟩;have C:((I.take b).drop a).length=b-a:=Zad;rw[<-C];refine FR.Mq S hr Zac ?_;have:=(T.take b).drop a;have e:List.drop a (take b (take I.length (List.drop off O)))=take (b-a) (List.drop (off+a) O):=by rw[List.take_take,Nat.min_eq_left Q,List.drop_take,drop_drop]
 grind;grind;exact absurd D.closed (by simp[V.closed]);rw[D.dP];obtain⟨_,w,rfl⟩:=ζf.1 B;exact⟨.dP,by simp[iY,w],.same _ rfl⟩;rw[D.bR];obtain⟨_,w,rfl⟩:=ζf.1 B;exact⟨.bR,by simp[iY,w],.same _ rfl⟩;grind
def dB.mU{b c:X'}{bs D:T2}{r:QR×QR}(h:dB H Z bs D)(B:mU b c bs=some r):Go.VE.mU b c D=some r:=by unfold Go.VE.mU at B;split at B;rw[h.dc];exact B;obtain⟨_,_,rfl,a,u⟩:=h.inv;rw[a.int,u.dc];exact B;obtain⟨_,_,rfl,a,u⟩:=h.inv;rw[a.int,u.dc];exact B;obtain⟨_,_,rfl,a,u⟩:=h.inv;obtain⟨_,_,rfl,w,z⟩:=u.inv;rw[a.int,w.int,z.dc];exact B;grind
def dB.br{N:Nat->Y'}{p:vN}{xs ys:T2}{z:V}(Y:∀zero pl,p=.build zero pl->V.cK zero=true)(h:dB H Z xs ys)(hp:br N p xs=some z):∃U,Go.VE.br N p ys=some U/\FR H Z z U:=by
 unfold Go.VE.br at hp;split at hp;obtain⟨y,_,rfl,f,w⟩:=h.inv;rw[w.dc];simp only[ζa]at hp;subst hp;exact⟨y,rfl,f⟩;rename_i t a b;obtain⟨w1,_,rfl,f,w⟩:=h.inv;obtain⟨w2,_,rfl,B,C⟩:=w.inv;obtain⟨w3,_,rfl,S,T⟩:=C.inv;rw[f.bool,T.dc];simp only[ζa]at hp;subst hp;refine⟨if t=true then w2 else w3,rfl,?_⟩;cases t;exact S;exact B;obtain⟨y,_,rfl,f,w⟩:=h.inv;rw[w.dc];unfold NR at hp;split at hp;exact absurd f.closed (by simp[V.closed]);simp only[ζa]at hp;subst hp;rcases f.nK with rfl|⟨_,_,_,_,_,_,rfl,_⟩;exact⟨_,rfl,f⟩;exact⟨_,rfl,f⟩;simp only[ζa]at hp;subst hp;obtain⟨_,_,rfl,_⟩:=f.lq;exact⟨_,rfl,f⟩;simp at hp;obtain⟨_,_,rfl,f,w⟩:=h.inv;obtain⟨_,_,rfl,B,C⟩:=w.inv;rw[C.dc];exact⟨z,FR.bin f B hp,.same _ (Ll hp)⟩;obtain⟨_,_,rfl,f,w⟩:=h.inv;rw[f.bool,w.dc];simp only[ζa]at hp;subst hp;exact⟨_,rfl,.same _ rfl⟩;obtain⟨_,_,rfl,f,w⟩:=h.inv;rw[f.int,w.dc];simp only[ζa]at hp;subst hp;exact⟨_,rfl,.same _ rfl⟩;obtain⟨_,_,rfl,f,w⟩:=h.inv;rw[f.int,w.dc];simp only[ζa]at hp;subst hp;exact⟨_,rfl,.same _ rfl⟩;rename_i off p;obtain⟨y,_,rfl,f,w⟩:=h.inv;rw[w.dc];unfold iX at hp;split at hp;split at hp;rename_i cs X;simp only[ζa]at hp;subst hp;rcases f.nK with rfl|⟨id,el,o,es,ys,ds,rfl,W,m,Q,aa,O⟩;have q:=f.good;simp only[V.good]at q;exact⟨_,by simp only[Go.VE.br,iX,if_pos X],.same _ (by simp only[V.good];exact zI _ q)⟩;refine⟨.hptr id el (o+off),rfl,FR.ES W m Q (by have:=O.1;simp at this;omega) ?_⟩;have:=O.drop off;rw[drop_drop]at this;exact this;simp at hp;exact absurd f.closed (by simp[V.closed]);simp at hp;rename_i off size agg cs;obtain⟨y,_,rfl,f,w⟩:=h.inv;rw[w.dc];obtain⟨ab,rfl,g⟩:=f.jE;have⟨r,m,x⟩:=ζg.1 hp;have⟨A,J,I⟩:=g.cut m;have⟨U,D,G⟩:=I.mk x;exact⟨U,by simp only[Go.VE.br,J,ζb,D],G⟩;rename_i size s k n;obtain⟨y,_,rfl,f,w⟩:=h.inv;obtain⟨_,_,rfl,B,C⟩:=w.inv;rw[B.int,C.dc];unfold m_ at hp;split at hp;simp at hp;rename_i L;split at hp;rename_i es xs;split at hp;rename_i Q;obtain⟨c,g,rfl⟩:=ζf.1 hp;rcases f.nC with rfl|⟨id,off,ys,rfl,W,m,hl,O⟩;have q:=f.good;simp only[V.good]at q;exact⟨_,by simp only[Go.VE.br,m_,if_neg L,if_pos Q,g,map_some],.same _ (by simp only[V.good];exact lV.1 q _ _ g)⟩;have P:n.toNat<xs.length:=(ζe.1 g).1;have⟨d,hd,ad⟩:=O.get g;rw[getElem?_take,if_pos P,getElem?_drop]at hd;exact⟨.hptr id (off+n.toNat) 0,by simp only[Go.VE.br,m_,if_neg L,if_pos (And.intro Q P)],FR.ES W m hd Zab (by simpa using ad)⟩;simp at hp;exact absurd f.closed (by simp[V.closed]);simp at hp;rename_i len size s k n;obtain⟨y,_,rfl,f,w⟩:=h.inv;obtain⟨_,_,rfl,B,C⟩:=w.inv;rw[B.int,C.dc];unfold yz at hp;split at hp;rename_i L;split at hp;split at hp;rename_i cs X;simp only[ζa]at hp;subst hp;rcases f.nK with rfl|⟨id,el,o,es,ys,ds,rfl,W,m,Q,aa,O⟩;have q:=f.good;simp only[V.good]at q;exact⟨_,by simp only[Go.VE.br,yz,if_pos L,if_pos X],.same _ (by simp only[V.good];exact zI _ q)⟩;refine⟨.hptr id el (o+n.toNat*size),by simp only[Go.VE.br,yz,if_pos L],FR.ES W m Q (by have:=O.1;simp at this;omega) ?_⟩;have:=O.drop (n.toNat*size);rw[drop_drop]at this;exact this;simp at hp;exact absurd f.closed (by simp[V.closed]);simp at hp;simp at hp;rename_i s k n;obtain⟨y,_,rfl,f,w⟩:=h.inv;obtain⟨_,_,rfl,B,C⟩:=w.inv;rw[f.str,B.int,C.dc];split at hp;next L=>obtain⟨c,g,rfl⟩:=ζf.1 hp;exact⟨_,by simp only[Go.VE.br,if_pos L,g,map_some],.same _ rfl⟩
 simp at hp;rename_i len size agg cs k n;obtain⟨y,_,rfl,f,w⟩:=h.inv;obtain⟨_,_,rfl,B,C⟩:=w.inv;rw[B.int,C.dc];obtain⟨ab,rfl,g⟩:=f.jE;split at hp;next L=>have⟨r,m,x⟩:=ζg.1 hp;have⟨A,J,I⟩:=g.cut m;have⟨U,D,G⟩:=I.mk x;exact⟨U,by simp only[Go.VE.br,if_pos L,J,ζb,D],G⟩
 simp at hp;rename_i lo hi s bs;obtain⟨y,_,rfl,f,w⟩:=h.inv;rw[f.str];have⟨⟨l,h'⟩,E,hp⟩:=ζg.1 hp;obtain⟨⟨l2,ah⟩,ae,rfl⟩:=ζf.1 hp;exact⟨_,by simp only[Go.VE.br,w.mU E,ζb,ae,map_some],.same _ rfl⟩;rename_i size lo hi s bs;obtain⟨y,_,rfl,f,w⟩:=h.inv;have⟨⟨l,h'⟩,E,hp⟩:=ζg.1 hp;have⟨U,D,G⟩:=FR.slice f hp;exact⟨U,by simp only[Go.VE.br,w.mU E,ζb,D],G⟩;obtain⟨y,_,rfl,f,w⟩:=h.inv;obtain⟨_,_,rfl,B,C⟩:=w.inv;obtain⟨_,_,rfl,S,T⟩:=C.inv;rw[B.int,S.int,T.dc];split at hp;rename_i g;simp only[ζa]at hp;subst hp;refine⟨.dP,?_,.same _ rfl⟩;simp only[ζh]at g;have:Nz y=true:=by have F:=g.1.1;unfold Nz at F;split at F;rcases f.nC with rfl|⟨_,_,_,rfl,_⟩<;>rfl;exact absurd f.closed (by simp[V.closed]);rw[f.dP];rfl;rw[f.bR];rfl;simp at F
 simp only[Go.VE.br,this,g.1.2,g.2,Bool.and_self,if_true];simp at hp;rename_i vs zero pl;obtain⟨r,m,rfl⟩:=ζf.1 hp;have⟨A,J,I⟩:=dB.fill (dB.same (Y zero pl rfl)) h m;exact⟨.agg A,by simp only[Go.VE.br,J,map_some],.agg _ _ I.1 I.2⟩;rename_i vs name k;simp only[ζa]at hp;subst hp;exact⟨_,rfl,.clo _ _ _ _ _ (h.take k).1 (h.drop k).1 (h.take k).2 (h.drop k).2⟩;rename_i i vs;obtain⟨y,_,rfl,f,w⟩:=h.inv;rw[w.dc];obtain⟨ws,rfl,hw⟩:=f.rX;have⟨U,D,G⟩:=hw.get hp;exact⟨U,D,G⟩;obtain⟨y,_,rfl,f,w⟩:=h.inv;rw[f.str,w.dc];simp only[ζa]at hp;subst hp;exact⟨_,rfl,.same _ rfl⟩;obtain⟨y,_,rfl,f,w⟩:=h.inv;rw[w.dc];unfold o8 at hp;split at hp;simp only[ζa]at hp;subst hp;rcases f.nC with rfl|⟨_,_,_,rfl,_⟩<;>exact⟨_,rfl,.same _ rfl⟩;exact absurd f.closed (by simp[V.closed]);rw[f.dP];simp only[ζa]at hp;subst hp;exact⟨_,rfl,.same _ rfl⟩;rw[f.bR];simp only[ζa]at hp;subst hp;exact⟨_,rfl,.same _ rfl⟩;simp at hp;obtain⟨y,_,rfl,f,w⟩:=h.inv;rw[w.dc];unfold Iu at hp;split at hp;rw[f.bR];simp only[ζa]at hp;subst hp;exact⟨_,rfl,.same _ rfl⟩;rw[f.dP];simp only[ζa]at hp;subst hp;exact⟨_,rfl,.same _ rfl⟩;simp at hp;obtain⟨_,_,rfl,f,w⟩:=h.inv;obtain⟨_,_,rfl,B,C⟩:=w.inv;rw[f.int,B.int,C.dc];split at hp;next e=>simp only[ζa]at hp;subst hp;exact⟨_,by simp only[Go.VE.br,if_pos e],.same _ rfl⟩
 simp at hp;obtain⟨_,_,rfl,f,w⟩:=h.inv;obtain⟨_,_,rfl,B,C⟩:=w.inv;obtain⟨_,_,rfl,S,T⟩:=C.inv;obtain⟨_,_,rfl,h7,h8⟩:=T.inv;rw[f.int,B.int,S.int,h7.int,h8.dc];split at hp;next e=>simp only[ζa]at hp;subst hp;exact⟨_,by simp only[Go.VE.br,if_pos e],.same _ rfl⟩
 simp at hp;obtain⟨_,_,rfl,f,w⟩:=h.inv;obtain⟨_,_,rfl,B,C⟩:=w.inv;rw[f.int,B.int,C.dc];split at hp;next e=>simp only[ζa]at hp;subst hp;exact⟨_,by simp only[Go.VE.br,if_pos e],.same _ rfl⟩
 simp at hp;obtain⟨_,_,rfl,f,w⟩:=h.inv;obtain⟨_,_,rfl,B,C⟩:=w.inv;rw[f.int,B.int,C.dc];split at hp;rename_i e;simp only[ζa]at hp;subst hp;refine⟨_,by simp only[Go.VE.br,if_pos e],.same _ ?_⟩;simp only[V.good];refine lV.2 λj u K=>?_;have:=List.eq_of_mem_replicate (mem_of_getElem? K);subst this;exact iV.2 λi v M=>kL (all_eq_true.1 e.2.2.2.2.2 v (mem_of_getElem? M));simp at hp;split at hp;rename_i g;obtain rfl:=h.scalar.1 g.1;split at hp;rename_i xs af;split at hp;rename_i R;simp only[ζa]at hp;subst hp;refine⟨_,by simp only[Go.VE.br,if_pos g,af,if_pos R],.same _ ?_⟩;simp only[V.good];exact lV.2 λj u K=>iV.2 λi v M=>kL (all_eq_true.1 (all_eq_true.1 R.2 u (mem_of_getElem? K)) v (mem_of_getElem? M));simp at hp;simp at hp;simp at hp;simp only[ζa]at hp;subst hp;rw[h.dc];exact⟨_,rfl,.same _ rfl⟩;simp at hp
end
def tO(p:Nat×Nat)(k:Fl)(es len:Nat):V:=
 match k with
 |.nil=>.bR|.emp=>.dP|_=>.hsl p.1 es p.2 len
abbrev Nu:=Nat->Nat×Nat
inductive dw(ν:Nu)(m:Tb bP)(H:bq)(Z:Nat->Prop):SV->V->Prop
 |v(x y:V)(h:FR H Z x y):dw ν m H Z (.v x) y|own(d:Nat)(y:V)(h:∀ob,bp m d=some ob->∃k es xs,ob=.sl k es xs/\y=tO (ν d) k es xs.length):dw ν m H Z (.own d) y|ptr(d o:Nat)(y:V)(h:∀ob,bp m d=some ob->∃cs,ob=.box cs/\y=.hptr (ν d).1 0 o):dw ν m H Z (.ptr d o) y|el(d i o:Nat)(y:V)(h:∀ob,bp m d=some ob->∃k es xs,ob=.sl k es xs/\cT k=true/\y=.hptr (ν d).1 ((ν d).2+i) o):dw ν m H Z (.el d i o) y|mp(d:Nat)(y:V)(h:∀ob,bp m d=some ob->∃kvs,ob=.mp kvs/\y=.hmap (ν d).1):dw ν m H Z (.mp d) y|clo(f:FuncId)(a b:List SV)(a' b':List V)(ha:a.length=a'.length)(hb:b.length=b'.length)
  (hva:∀(j:Nat)u v,a[j]?=some u->a'[j]?=some v->dw ν m H Z u v) (hvb:∀(j:Nat)u v,b[j]?=some u->b'[j]?=some v->dw ν m H Z u v):dw ν m H Z (.clo f a b) (.clo f a' b')
 |tup(a:List SV)(a':List V)(ha:a.length=a'.length)(hva:∀(j:Nat)u v,a[j]?=some u->a'[j]?=some v->dw ν m H Z u v):dw ν m H Z (.tup a) (.tup a')|agg(a:List SV)(a':List V)(ha:a.length=a'.length)(hva:∀(j:Nat)u v,a[j]?=some u->a'[j]?=some v->dw ν m H Z u v):dw ν m H Z (.agg a) (.agg a')|yl(id:Nat):dw ν m H Z (.yl id) (.yld id)
def cn(ν:Nu)(m:Tb bP)(H:bq)(Z:Nat->Prop)(xs:So)(ys:T2):Prop:=xs.length=ys.length/\∀(j:Nat)u v,xs[j]?=some u->ys[j]?=some v->dw ν m H Z u v
def cI:bP->X'
 |.sl k _ _=>cT k|_=>true
def gq(ν:Nu)(m:Tb bP)(id:Nat):Prop:=∃d ob,bp m d=some ob/\cI ob=true/\(ν d).1=id
def wR(H:bq)(Z:Nat->Prop)(ys:T'):Prop:=∀c∈ys,∀u∈c,∃x,FR H Z x u
def Fj(H:bq)(Z:Nat->Prop)(a b:aZ (V×V)):Prop:=a.length=b.length/\∀(j:Nat)u v,a[j]?=some u->b[j]?=some v->(u.1=v.1/\u.1.scalar=true)/\FR H Z u.2 v.2
def eu(ν:Nu)(m:Tb bP)(H:bq)(Z:Nat->Prop)(d:Nat):bP->Prop
 |.sl k es xs=>if cT k then∃ys,H[(ν d).1]?=some (.row es ys)/\(ν d).2+xs.length<=ys.length/\gY H Z xs ((ys.drop (ν d).2).take xs.length)/\wR H Z ys/\(k=.row->(ν d).2=0/\ys.length=xs.length)
  else xs=[]
 |.box cs=>∃es D,H[(ν d).1]?=some (.row es [D])/\cn ν m H Z cs D/\D.all V.one=true|.mp G=>∃B,H[(ν d).1]?=some (.map B)/\Fj H Z G B
structure R(ν:Nu)(Z:Nat->Prop)(st:St)(F:Frame)(H:bq):Prop where
 slot:∀s sv,bp st.g s=some sv->dw ν st.m H Z sv (get F s)
 obj:∀d ob,bp st.m d=some ob->eu ν st.m H Z d ob
 inj:∀d d' ob ob',bp st.m d=some ob->bp st.m d'=some ob'->cI ob=true->cI ob'=true->(ν d).1=(ν d').1->d=d'
 apart:∀d ob,bp st.m d=some ob->cI ob=true->¬Z (ν d).1
 zrow:∀id,Z id->(bz H id).isSome=true
 deep:Deep H Z
def sameShape:bP->bP->Prop
 |.sl k es xs,.sl G B D=>G=k/\B=es/\D.length=xs.length|.box _,.box _=>True|.mp _,.mp _=>True|_,_=>False
def sameShape.refl(o:bP):sameShape o o:=by cases o<;>simp[sameShape]
def sameShape.trans{a b c:bP}(h:sameShape a b)(k:sameShape b c):sameShape a c:=by cases a<;>cases b<;>cases c<;>simp[sameShape]at*<;>simp_all
structure Ev(Rv:Nat->Prop)(ν:Nu)(Z:Nat->Prop)(st:St)(H:bq)(ν':Nu)(Z':Nat->Prop)(st':St)(H':bq):Prop where
 len:H.length<=H'.length
 same:∀id,id<H.length->¬gq ν st.m id->¬Z id->¬Rv id->H'[id]?=H[id]?
 rows:∀id,Z id->Z' id/\bz H' id=bz H id
 own:∀id,gq ν' st'.m id->gq ν st.m id\/Rv id\/H.length<=id
 frz:∀id,Z' id->Z id\/gq ν st.m id\/Rv id\/H.length<=id
 pin:∀d∈st.pin,∀ob',bp st'.m d=some ob'->∃ob,bp st.m d=some ob/\ν' d=ν d/\sameShape ob ob'
 pins:st'.pin=st.pin
section
variable{Rv Rv':Nat->Prop}{ν ν' ν2:Nu}{Z Z' Z2:Nat->Prop}{st st' st2:St}{m m':Tb bP}{F F':WP}{H H' H2:bq}
def Ev.refl:Ev Rv ν Z st H ν Z st H:=⟨le_refl _,λ_ _ _ _ _=>rfl,λ_ h=>⟨h,rfl⟩,λ_ h=>.inl h,λ_ h=>.inl h,λ_ _ u h=>⟨u,h,rfl,.refl _⟩,rfl⟩
def Ev.trans(a:Ev Rv ν Z st H ν' Z' st' H')(b:Ev Rv ν' Z' st' H' ν2 Z2 st2 H2):Ev Rv ν Z st H ν2 Z2 st2 H2 where
 len:=le_trans a.len b.len
 same:=λid B u C hr=>by rw[b.same id (Nat.lt_of_lt_of_le B a.len) (λh=>(a.own id h).elim u λh=>h.elim hr λh=>Zaa) (λh=>(a.frz id h).elim C λh=>h.elim u λh=>h.elim hr λh=>Zaa) hr,a.same id B u C hr]
 rows:=λid h=>⟨(b.rows id (a.rows id h).1).1,by rw[(b.rows id (a.rows id h).1).2,(a.rows id h).2]⟩
 own:=λid h=>by rcases b.own id h with h|h|h;exact a.own id h;grind;exact .inr (.inr (le_trans a.len h))
 frz:=λid h=>by rcases b.frz id h with h|h|h|h;exact a.frz id h;rcases a.own id h with h|h|h;grind;grind;grind;grind;exact .inr (.inr (.inr (le_trans a.len h)))
 pin:=λd hd w h=>by have⟨z,c,I,D⟩:=b.pin d (by rw[a.pins];omega) w h;have⟨ob,k1,J,G⟩:=a.pin d hd z c;exact⟨ob,k1,Zad,G.trans D⟩
 pins:=by rw[b.pins,a.pins]
def Ev.weak(h:∀id,Rv id->Rv' id)(a:Ev Rv ν Z st H ν' Z' st' H'):Ev Rv' ν Z st H ν' Z' st' H':=⟨a.len,λid u w z hr=>a.same id u w z (λk=>hr (h id k)),a.rows,λid k=>(a.own id k).imp (λx=>x) (.imp (h id) (λx=>x)),λid k=>(a.frz id k).imp (λx=>x) (.imp (λx=>x) (.imp (h id) (λx=>x))),a.pin,a.pins⟩
def cO{α:Type}:∀(g:Tb α)(n:Nat)(v:α),bp (bT g n v) n=some v
 |[],n,v=>by simp[bT,bp]|(k,x)::r,n,v=>by simp[bT];split;(next h=>simp[bp,h]);rename_i h;simp[bp,h,cO r n v]
def d_{α:Type}:∀(g:Tb α){n k:Nat}(v:α),n≠k->bp (bT g n v) k=bp g k
 |[],n,k,v,h=>by simp[bT,bp,h]|(j,x)::r,n,k,v,h=>by simp[bT];split;(next a=>subst a;simp[bp,h]);simp[bp];split;rfl;exact d_ r v h
def rm{α:Type}:∀{g:Tb α}{n:Nat}{v:α},bp g n=some v->bT g n v=g
 |[],n,v,h=>by cases h|(k,x)::r,n,v,h=>by simp[bp]at h;simp[bT];split;grind;rename_i e;rw[if_neg e]at h;rw[rm h]
def xz{α:Type}:∀(g:Tb α)(n:Nat),bp (ey n g) n=none
 |[],n=>rfl|(k,x)::r,n=>by simp[ey];split;exact xz r n;rename_i a;simp[bp];rw[if_neg a];exact xz r n
def xT{α:Type}:∀(g:Tb α){n k:Nat},n≠k->bp (ey n g) k=bp g k
 |[],n,k,h=>rfl|(j,x)::r,n,k,h=>by simp[ey];split;(next a=>subst a;simp[bp];rw[if_neg h];exact xT r h);simp[bp];split;rfl;exact xT r h
def pM{α:Type}{g:Tb α}{n k:Nat}{v:α}(h:bp (ey n g) k=some v):n≠k/\bp g k=some v:=by by_cases e:n=k;subst e;rw[xz]at h;simp_all;rw[xT g e]at h;grind
def pS{α:Type}{k:Nat}{v:α}:∀{ds:S'}{g:Tb α},bp (qK ds g) k=some v->bp g k=some v
 |[],_,h=>h|d::ds,g,h=>(pM (pS h)).2
def rN{α:Type}{g:Tb α}{k:Nat}{v:α}:∀{l:S'}{r:Tb α},k9 g l=some r->bp r k=some v->bp g k=some v
 |[],r,h,B=>by simp[k9]at h;subst h;simp[bp]at B|n::l,r,h,B=>by simp[k9]at h;split at h;rename_i w t G D;simp at h;subst h;simp[bp]at B;split at B;grind;exact rN D B;grind
def zK{d:Nat}:∀{g:Tb SV}{s:Nat}{sv:SV},wE d g=false->bp g s=some sv->sv.c8 d=false
 |[],_,_,_,h=>by simp[bp]at h|(k,x)::r,s,sv,h,B=>by simp[wE]at h;simp[bp]at B;split at B;grind;exact zK h.2 B
def z8{d:Nat}:∀{g:Tb bP}{s:Nat}{ob:bP},uv d g=false->bp g s=some ob->ob.c8 d=false
 |[],_,_,_,h=>by simp[bp]at h|(k,x)::r,s,sv,h,B=>by simp[uv]at h;simp[bp]at B;split at B;grind;exact z8 h.2 B
def u5{d:Nat}:∀{l:So}{j:Nat}{u:SV},SV.dO d l=false->l[j]?=some u->u.c8 d=false
 |[],_,_,_,h=>Zad|x::r,j,u,h,B=>by simp[SV.dO]at h;cases j with|zero=>grind|succ j=>exact u5 h.2 (by simpa using B)
def tJ{d:Nat}:∀{l:So}{j:Nat}{u:SV},l[j]?=some u->u.c8 d=true->SV.dO d l=true
 |[],_,_,h,_=>Zad|x::r,j,u,h,B=>by simp[SV.dO];cases j with|zero=>grind|succ j=>exact .inr (tJ (j:=j) Zac B)
def dw.mono{sv:SV}{y:V}(U:∀id,Z id->Z' id/\bz H' id=bz H id)
 (r:dw ν m H Z sv y)(B:∀d,sv.c8 d=true->∀ob',bp m' d=some ob'->∃ob,bp m d=some ob/\ν' d=ν d/\sameShape ob ob'):dw ν' m' H' Z' sv y:=by
 induction r with
 |v x y h=>exact .v x y (h.mono U)|own d y h=>
  refine .own d y λob' z=>?_
  have⟨ob,e,I,C⟩:=B d (by simp[SV.c8]) ob' z
  obtain⟨k,es,L,rfl,rfl⟩:=h ob e;cases ob'<;>simp[sameShape]at C
  grind
 |ptr d o y h=>
  refine .ptr d o y λob' z=>?_
  have⟨ob,e,I,C⟩:=B d (by simp[SV.c8]) ob' z
  obtain⟨cs,rfl,rfl⟩:=h ob e;cases ob'<;>simp[sameShape]at C
  grind
 |el d i o y h=>
  refine .el d i o y λob' z=>?_
  have⟨ob,e,I,C⟩:=B d (by simp[SV.c8]) ob' z
  obtain⟨k,es,L,rfl,T,rfl⟩:=h ob e;cases ob'<;>simp[sameShape]at C
  grind
 |mp d y h=>
  refine .mp d y λob' z=>?_
  have⟨ob,e,I,C⟩:=B d (by simp[SV.c8]) ob' z
  obtain⟨cs,rfl,rfl⟩:=h ob e;cases ob'<;>simp[sameShape]at C
  grind
 |clo f a b D O G Q hva S w J=>exact .clo f a b D O G Q (λj u v c g=>w j u v c g λd hd=>B d (by simp[SV.c8,tJ c hd])) (λj u v c g=>J j u v c g λd hd=>B d (by simp[SV.c8,tJ c hd]))|tup a D G hva w=>exact .tup a D G (λj u v c g=>w j u v c g λd hd=>B d (by simp[SV.c8,tJ c hd]))|agg a D G hva w=>exact .agg a D G (λj u v c g=>w j u v c g λd hd=>B d (by simp[SV.c8,tJ c hd]))|yl id=>exact .yl id
def cn.mono{sv:So}{y:T2}(B:∀id,Z id->Z' id/\bz H' id=bz H id)(r:cn ν m H Z sv y)(D:∀d,SV.dO d sv=true->∀ob',bp m' d=some ob'->∃ob,bp m d=some ob/\ν' d=ν d/\sameShape ob ob'):cn ν' m' H' Z' sv y:=⟨r.1,λj u v a b=>(r.2 j u v a b).mono B λd hd=>D d (tJ a hd)⟩
def cn.nil:cn ν m H Z [] []:=⟨rfl,Zab⟩
def cn.cons{x:SV}{y:V}{xs:So}{ys:T2}(h:dw ν m H Z x y)(r:cn ν m H Z xs ys):cn ν m H Z (x::xs) (y::ys):=by refine⟨by simp[r.1],λj u v a b=>?_⟩;cases j with|zero=>grind|succ j=>exact r.2 j u v Zac Zac
def cn.inv{x:SV}{xs:So}{B:T2}(r:cn ν m H Z (x::xs) B):∃y ys,B=y::ys/\dw ν m H Z x y/\cn ν m H Z xs ys:=by cases B with|nil=>have:=r.1;grind|cons y ys=>refine⟨y,ys,rfl,r.2 0 x y rfl rfl,by have:=r.1;grind,λj u v a b=>r.2 (j+1) u v Zac Zac⟩
def cn.dc{B:T2}(r:cn ν m H Z [] B):B=[]:=by have:=r.1;grind
def cn.get{xs:So}{ys:T2}(r:cn ν m H Z xs ys){j:Nat}{u:SV}(h:xs[j]?=some u):∃v,ys[j]?=some v/\dw ν m H Z u v:=by
 have w:=(ζe.1 h).1;have:j<ys.length:=by rw[<-r.1];omega
 exact⟨ys[j],ζd this,r.2 j u _ h (ζd this)⟩
def cn.append{a c:So}{b d:T2}(h:cn ν m H Z a b)(k:cn ν m H Z c d):cn ν m H Z (a++c) (b++d):=by refine⟨by simp[h.1,k.1],λj u v e f=>?_⟩;by_cases w:j<a.length;rw[getElem?_append_left w]at e;rw[getElem?_append_left (by rw[<-h.1];omega)]at f;exact h.2 j u v e f;rw[getElem?_append_right Zaa]at e;rw[getElem?_append_right (by rw[<-h.1];omega),<-h.1]at f;exact k.2 _ u v e f
def cn.take{a:So}{b:T2}(h:cn ν m H Z a b)(n:Nat):cn ν m H Z (a.take n) (b.take n):=by
 refine⟨by simp[h.1],λj u v c d=>?_⟩;rw[getElem?_take]at c d;split at c;next w=>rw[if_pos w]at d;exact h.2 j u v c d
 grind
def cn.drop{a:So}{b:T2}(h:cn ν m H Z a b)(n:Nat):cn ν m H Z (a.drop n) (b.drop n):=by refine⟨by simp[h.1],λj u v c d=>?_⟩;rw[getElem?_drop]at c d;exact h.2 _ u v c d
def dw.fr{x y:V}(r:dw ν m H Z (.v x) y):FR H Z x y:=by cases r;assumption
def cn.sS{xs ys:T2}(r:dB H Z xs ys):cn ν m H Z (xs.map .v) ys:=by refine⟨by simp[r.1],λj u v a b=>?_⟩;rw[List.getElem?_map,ζf]at a;obtain⟨x,w,rfl⟩:=a;exact .v x v (r.2 j x v w b)
def v7:∀{svs:So}{xs:T2},dI svs=some xs->svs=xs.map .v
 |[],xs,h=>by simp[dI]at h;grind|x::r,xs,h=>by(cases x<;>simp only[dI]at h<;>first|grind|skip);obtain⟨t,B,rfl⟩:=ζf.1 h;rw[v7 B];rfl
def cn.X0{xs ys:T2}(r:cn ν m H Z (xs.map .v) ys):dB H Z xs ys:=by refine⟨by have:=r.1;grind,λj u v b a=>?_⟩;have:(xs.map SV.v)[j]?=some (.v u):=Zac;exact(r.2 j _ v this a).fr
end
section
variable{ν:Nu}{Z:Nat->Prop}{st:St}{m:Tb bP}{F:WP}{H H1:bq}{N:Nat->Y'}
def qz(nm:Y'->a_ Nat):UV->a_ Arg
 |.tmp t=>some (.s t)|.const v=>match ofValue 4 v with
  |some c=>if c.good then some (.k c)else none|none=>none
 |.func f=>(nm f).map .f|.global g=>match b_.gl g with
  |some cs=>if(V.fptr cs).good then some (.k (.fptr cs))else none|none=>none
def Fp{nm:Y'->a_ Nat}(D:∀f s,nm f=some s->N s=f){g:Tb SV}(G:∀s sv,bp g s=some sv->dw ν m H Z sv (get F s)){o:UV}{x:Arg}{sv:SV}(B:qz nm o=some x)(a:si N g x=some sv):
 ∃y,ev F o=some y/\dw ν m H Z sv y:=by
 cases o with
 |tmp t=>simp[qz]at B;subst B;exact⟨get F t,rfl,G t sv a⟩|const w=>
  simp[qz]at B;split at B
  .rename_i c hc;split at B
   next u=>simp at B;subst B;simp[si]at a;subst a;exact⟨c,hc,.v _ _ (.same _ u)⟩
   grind
  grind
 |func f=>simp[qz]at B;obtain⟨z,C,rfl⟩:=B;simp[si]at a;subst a;exact⟨_,rfl,.v _ _ (by rw[D f z C];exact .same _ rfl)⟩|global i=>
  simp[qz]at B;split at B
  .rename_i c hc;split at B
   next u=>simp at B;subst B;simp[si]at a;subst a;exact⟨.fptr c,by simp[ev,hc],.v _ _ (.same _ u)⟩
   grind
  grind
def pV{nm:Y'->a_ Nat}(D:∀f s,nm f=some s->N s=f){g:Tb SV}(G:∀s sv,bp g s=some sv->dw ν m H Z sv (get F s)):∀{os:aZ UV}{xs:QP}{svs:So},
 os.mapM (qz nm)=some xs->ck N g xs=some svs->∃ys,fT F os=some ys/\cn ν m H Z svs ys
 |[],xs,svs,B,hv=>by simp at B;subst B;simp[ck]at hv;subst hv;exact⟨[],rfl,.nil⟩|o::os,xs,svs,B,hv=>by simp[ζg]at B;obtain⟨x,J,ys,U,rfl⟩:=B;simp[ck]at hv;split at hv;(next v C c w=>simp at hv;subst hv;have⟨a,B,z⟩:=Fp D G J c;have⟨az,b,u⟩:=pV D G U w;exact⟨a::az,by simp[fT,B,b],.cons z u⟩);grind
def dw.lu{d:Nat}{y:V}(r:dw ν m H Z (.own d) y){ob:bP}(h:bp m d=some ob):∃k es xs,ob=.sl k es xs/\y=tO (ν d) k es xs.length:=by cases r with|own _ _ u=>grind
def dw.qh{d o:Nat}{y:V}(r:dw ν m H Z (.ptr d o) y){ob:bP}(h:bp m d=some ob):∃cs,ob=.box cs/\y=.hptr (ν d).1 0 o:=by cases r with|ptr _ _ _ u=>grind
def dw.zz{d i o:Nat}{y:V}(r:dw ν m H Z (.el d i o) y){ob:bP}(h:bp m d=some ob):∃k es xs,ob=.sl k es xs/\cT k=true/\y=.hptr (ν d).1 ((ν d).2+i) o:=by cases r with|el _ _ _ _ u=>grind
def dw.EE{d:Nat}{y:V}(r:dw ν m H Z (.mp d) y){ob:bP}(h:bp m d=some ob):∃B,ob=.mp B/\y=.hmap (ν d).1:=by cases r with|mp _ _ u=>grind
def dw.lq{f:Y'}{a b:So}{y:V}(r:dw ν m H Z (.clo f a b) y):∃a' B,y=.clo f a' B/\cn ν m H Z a a'/\cn ν m H Z b B:=by cases r with|clo _ _ _ a' B w z hva u=>exact⟨a',B,rfl,⟨w,hva⟩,⟨z,u⟩⟩
def dw.rX{a:So}{y:V}(r:dw ν m H Z (.tup a) y):∃a',y=.tup a'/\cn ν m H Z a a':=by cases r with|tup _ a' u hva=>exact⟨a',rfl,u,hva⟩
def dw.jE{a:So}{y:V}(r:dw ν m H Z (.agg a) y):∃a',y=.agg a'/\cn ν m H Z a a':=by cases r with|agg _ a' u hva=>exact⟨a',rfl,u,hva⟩
def tn{p:Nat×Nat}{k:Fl}{es len:Nat}(h:cT k=true):tO p k es len=.hsl p.1 es p.2 len:=by cases k<;>simp[cT]at h<;>rfl
def nr{x:SV}{y:V}(h:nU m x=true)(r:dw ν m H Z x y):y.cells=[y]/\y.one=true:=by cases x with|v x=>simp[nU]at h|own d=>have⟨ob,u⟩:=isSome_iff_exists.1 h;obtain⟨k,es,w,rfl,rfl⟩:=r.lu u;cases k<;>exact⟨rfl,rfl⟩|ptr d o=>have⟨ob,u⟩:=isSome_iff_exists.1 h;obtain⟨cs,rfl,rfl⟩:=r.qh u;exact⟨rfl,rfl⟩|el d i o=>have⟨ob,u⟩:=isSome_iff_exists.1 h;obtain⟨k,es,w,rfl,_,rfl⟩:=r.zz u;exact⟨rfl,rfl⟩|mp d=>have⟨ob,u⟩:=isSome_iff_exists.1 h;obtain⟨z,rfl,rfl⟩:=r.EE u;exact⟨rfl,rfl⟩|clo f a b=>obtain⟨B,C,rfl,_⟩:=r.lq;exact⟨rfl,rfl⟩|tup l=>simp[nU]at h|agg l=>simp[nU]at h|yl id=>simp[nU]at h
def OP{x:SV}{y:V}(h:Ac m x=true)(r:dw ν m H Z x y):y.one=true:=by
 cases x with
 |v x=>
  have u:=r.fr;have w:x.one=true:=h;have c:=u.cells;have e:x.cells=[x]:=by cases x<;>first|rfl|(simp[V.one]at w)
  rw[e]at c;have g:=c.one;have z:=c.1
  cases y with
  |agg l=>cases u with|same _ _=>grind|agg _ _ _ _=>simp[V.one]at w
  |tup l=>cases u with|same _ _=>grind|tup _ _ _ _=>simp[V.one]at w
  |_=>rfl
 |own d=>exact(nr (x:=.own d) h r).2|ptr d o=>exact(nr (x:=.ptr d o) h r).2|el d i o=>exact(nr (x:=.el d i o) h r).2|mp d=>exact(nr (x:=.mp d) h r).2|clo f a b=>exact(nr (x:=.clo f a b) h r).2|tup l=>simp[Ac,nU]at h|agg l=>simp[Ac,nU]at h|yl id=>simp[Ac,nU]at h
def Ht{l:So}{ys:T2}(h:l.all (Ac m)=true)(r:cn ν m H Z l ys):ys.all V.one=true:=by
 refine all_eq_true.2 λy w=>?_;have⟨j,z,e⟩:=List.mem_iff_getElem.1 w;have u:j<l.length:=by rw[r.1];omega
 exact OP (all_eq_true.1 h _ (List.getElem_mem u)) (r.2 j _ y (ζd u) Zac)
def PU{x:SV}{y:V}{c:So}(h:JJ m x=some c)(r:dw ν m H Z x y):cn ν m H Z c y.cells:=by
 unfold JJ at h;split at h;cases h;exact cn.sS r.fr.cells;cases h;obtain⟨z,rfl,u⟩:=r.jE;exact u;split at h;next w=>cases h;rw[(nr w r).1];exact .cons r .nil
 simp_all
def Jk:∀{pl:aZ (Nat×Nat)}{vs cells l:So}{B cells':T2},cn ν m H Z cells cells'->cn ν m H Z vs B->Ah m cells pl vs=some l->∃D,lX cells' pl B=some D/\cn ν m H Z l D
 |[],[],cells,l,B,cells',hc,hv,h=>by rw[hv.dc];simp[Ah]at h;subst h;exact⟨_,rfl,hc⟩|[],_::_,_,_,_,_,_,_,h=>by simp[Ah]at h|_::_,[],_,_,_,_,_,_,h=>by simp[Ah]at h|(off,size)::pl,v::vs,cells,l,B,cells',hc,hv,h=>by obtain⟨w,G,rfl,b,J⟩:=hv.inv;simp only[Ah]at h;split at h;rename_i c z;have a:=PU z b;split at h;have⟨D,e1,e2⟩:=Jk (cells':=cells'.take off++w.cells++cells'.drop (off+w.cells.length)) (by rw[<-a.1];exact((hc.take off).append a).append (hc.drop _)) J h;have u:w.cells.length=size/\off+w.cells.length<=cells'.length:=(by rw[<-a.1,<-hc.1];omega);simp[lX];grind;simp_all;simp_all
def IV{size o:Nat}{agg:X'}{cs:So}{B:T2}{sv:SV}(h:cn ν m H Z cs B)(hp:wV size agg ((cs.drop o).take size)=some sv):∃y,(cut B o size).bind (mk agg)=some y/\dw ν m H Z sv y:=by
 have u:=(h.drop o).take size;unfold wV at hp;split at hp;have a:cut B o size=some ((B.drop o).take size):=by unfold cut;rw[if_pos (by rw[<-u.1];omega)]
 rw[a];split at hp;split at hp;rename_i G w;cases hp;have z:=by rw[v7 w]at u;exact u.X0
 exact⟨_,by unfold mk;grind,.v _ _ (.agg _ _ z.1 z.2)⟩;cases hp;exact⟨_,by unfold mk;grind,.agg _ _ u.1 u.2⟩;split at hp;next x w=>simp at hp;subst hp;rw[w]at u;have⟨y,I,e,C,D⟩:=u.inv;rw[e,D.dc];exact⟨y,by unfold mk;grind,C⟩
 grind;grind
def QX{p:vN}{svs:So}{ys:T2}{sv:SV}(i:∀zero pl,p=.build zero pl->V.cK zero=true)(j:∀d ob,bp m d=some ob->eu ν m H Z d ob)(h:cn ν m H Z svs ys)(hp:Cw N m p svs=some sv):∃y,br N p ys=some y/\dw ν m H Z sv y:=by
 unfold Cw at hp;split at hp;obtain⟨y,_,rfl,c,w⟩:=h.inv;rw[w.dc];simp at hp;subst hp;exact⟨y,rfl,c⟩;obtain⟨y,_,rfl,c,w⟩:=h.inv;rw[w.dc];split at hp;next J=>simp at hp;subst hp;have⟨ob,u⟩:=isSome_iff_exists.1 J;obtain⟨cs,rfl,rfl⟩:=c.qh u;exact⟨_,rfl,c⟩
 grind;obtain⟨y,_,rfl,c,w⟩:=h.inv;rw[w.dc];split at hp;next J=>simp at hp;subst hp;have⟨ob,u⟩:=isSome_iff_exists.1 J;obtain⟨k,es,Q,rfl,f,rfl⟩:=c.zz u;exact⟨_,rfl,c⟩
 grind;rename_i t a b;obtain⟨I,_,rfl,c,w⟩:=h.inv;obtain⟨S,_,rfl,D,C⟩:=w.inv;obtain⟨n,_,rfl,E,o⟩:=C.inv;rw[c.fr.bool,o.dc];simp at hp;refine⟨if t=true then S else n,rfl,?_⟩;grind
 .obtain⟨I,_,rfl,c,w⟩:=h.inv;obtain⟨S,_,rfl,D,C⟩:=w.inv;rw[D.fr.bR,C.dc];split at hp
  .rename_i k es Q u;split at hp;simp_all;simp at hp;subst hp;obtain⟨T,L,O,e,rfl⟩:=c.lu u;cases e;cases k<;>first|grind|exact⟨_,rfl,.v _ _ (.same _ rfl)⟩
  grind
 .obtain⟨I,_,rfl,c,w⟩:=h.inv;obtain⟨S,_,rfl,D,C⟩:=w.inv;rw[D.fr.bR,C.dc];split at hp
  .rename_i k es Q u;split at hp;simp_all;simp at hp;subst hp;obtain⟨T,L,O,e,rfl⟩:=c.lu u;cases e;cases k<;>first|grind|exact⟨_,rfl,.v _ _ (.same _ rfl)⟩
  grind
 obtain⟨y,_,rfl,c,w⟩:=h.inv;rw[w.dc];split at hp;next J=>simp at hp;subst hp;have⟨ob,u⟩:=isSome_iff_exists.1 J;obtain⟨cs,rfl,rfl⟩:=c.qh u;exact⟨_,rfl,.ptr _ _ _ λG B=>Zac⟩
 grind;obtain⟨y,_,rfl,c,w⟩:=h.inv;rw[w.dc];split at hp;next J=>simp at hp;subst hp;have⟨ob,u⟩:=isSome_iff_exists.1 J;obtain⟨k,es,Q,rfl,f,rfl⟩:=c.zz u;exact⟨_,rfl,.el _ _ _ _ λG B=>by rw[u]at B;cases B;exact⟨_,_,_,rfl,f,rfl⟩⟩
 simp at hp;obtain⟨I,_,rfl,c,w⟩:=h.inv;obtain⟨S,_,rfl,D,C⟩:=w.inv;rw[D.fr.int,C.dc];split at hp;rename_i k es Q u;split at hp;rename_i g;obtain⟨f,rfl,q,U⟩:=g;simp at hp;subst hp;obtain⟨T,L,O,e,rfl⟩:=c.lu u;cases e;rw[tn f];refine⟨.hptr (ν _).1 ((ν _).2+_) 0,by simp only[br,m_,if_neg (Int.not_lt.2 q),true_and,if_pos U];rfl,.el _ _ _ _ λG B=>?_⟩;rw[u]at B;cases B;exact⟨_,_,_,rfl,f,rfl⟩;simp at hp;simp at hp;obtain⟨I,_,rfl,c,w⟩:=h.inv;obtain⟨S,_,rfl,D,C⟩:=w.inv;rw[D.fr.int,C.dc];split at hp;rename_i g;simp at hp;subst hp;have⟨ob,u⟩:=isSome_iff_exists.1 g.2.2;obtain⟨cs,rfl,rfl⟩:=c.qh u;refine⟨.hptr (ν _).1 0 (_+_),by simp only[br,yz,if_pos (And.intro g.1 g.2.1)];rfl,.ptr _ _ _ λG B=>?_⟩;rw[u]at B;cases B;exact⟨_,rfl,rfl⟩;simp at hp;obtain⟨I,_,rfl,c,w⟩:=h.inv;obtain⟨S,_,rfl,D,C⟩:=w.inv;rw[D.fr.int,C.dc];split at hp;rename_i g;simp at hp;subst hp;have⟨ob,u⟩:=isSome_iff_exists.1 g.2.2;obtain⟨k,es,Q,rfl,f,rfl⟩:=c.zz u;refine⟨.hptr (ν _).1 (_+_) (_+_),by simp only[br,yz,if_pos (And.intro g.1 g.2.1)];rfl,.el _ _ _ _ λG B=>?_⟩;rw[u]at B;cases B;exact⟨_,_,_,rfl,f,rfl⟩;simp at hp;obtain⟨I,_,rfl,c,w⟩:=h.inv;rw[w.dc];split at hp;rename_i k es Q u;simp at hp;subst hp;obtain⟨T,L,O,e,rfl⟩:=c.lu u;cases e;have:=j _ _ u;simp[eu]at this;cases f:k<;>simp[f,cT]at this⊢;subst this;exact⟨_,rfl,.v _ _ (.same _ rfl)⟩;subst this;exact⟨_,rfl,.v _ _ (.same _ rfl)⟩;exact⟨_,rfl,.v _ _ (.same _ rfl)⟩;exact⟨_,rfl,.v _ _ (.same _ rfl)⟩;simp at hp;rename_i vs name k;simp at hp;subst hp;exact⟨_,rfl,.clo _ _ _ _ _ (h.take k).1 (h.drop k).1 (h.take k).2 (h.drop k).2⟩;obtain⟨I,_,rfl,c,w⟩:=h.inv;rw[w.dc];obtain⟨r,rfl,W⟩:=c.rX;have⟨z,s,X⟩:=W.get hp;exact⟨z,s,X⟩;rename_i vs zero pl;obtain⟨l,v,rfl⟩:=ζf.1 hp;have⟨x,c,w⟩:=Jk (cn.sS (dB.same (i zero pl rfl))) h v;exact⟨.agg x,by simp[Go.VE.br,c],.agg _ _ w.1 w.2⟩;obtain⟨I,_,rfl,c,w⟩:=h.inv;rw[w.dc];obtain⟨r,rfl,W⟩:=c.jE;have⟨y,A,Y⟩:=IV W hp;exact⟨y,by simp[Go.VE.br];exact A,Y⟩;grind
def Jn{p:vN}{svs:So}{ys:T2}{sv:SV}(B:∀zero pl,p=.build zero pl->V.cK zero=true)(D:∀d ob,bp m d=some ob->eu ν m H Z d ob)(h:cn ν m H Z svs ys)(hp:k7 N m p svs=some sv):
 ∃y,br N p ys=some y/\dw ν m H Z sv y:=by
 unfold k7 at hp;split at hp
 next I u=>obtain⟨z,w,rfl⟩:=ζf.1 hp;rw[v7 u]at h;have⟨C,a,G⟩:=dB.br B h.X0 w;exact⟨C,a,.v _ _ G⟩
 exact QX B D h hp
def cn.dI{svs:So}{xs ys:T2}(h:cn ν m H Z svs ys)(B:dI svs=some xs):dB H Z xs ys:=by rw[v7 B]at h;exact h.X0
def Db{k:V}:∀{a b:aZ (V×V)}{i:Nat},Fj H Z a b->(jC k a i=some none->jC k b i=some none)/\∀j v,jC k a i=some (some (j,v))->∃B,jC k b i=some (some (j,B))/\FR H Z v B
 |[],b,i,h=>by have:b=[]:=length_eq_zero_iff.1 (by have:=h.1;grind);subst this;exact⟨λh=>h,λj v h=>by simp[jC]at h⟩|(k1,x)::a,[],i,h=>by have:=h.1;grind|(k1,x)::a,(z,y)::b,i,h=>by have⟨⟨e,_⟩,C⟩:=h.2 0 _ _ rfl rfl;subst e;have w:Fj H Z a b:=⟨by have:=h.1;grind,λj u v c d=>h.2 (j+1) u v Zac Zac⟩;have D:=Db (i:=i+1) (k:=k) w;simp only[jC];grind
def wJ{kk:yJ}{k:V}(h:q9 kk k=true):k.scalar=true:=by unfold q9 at h;split at h;rfl;rfl;simp at h;have⟨a,u⟩:=isSome_iff_exists.1 h.2;exact sL u;grind
theorem xK {r:LV} {svs:aZ SV} {ys:aZ V} {sv:SV} (ad:∀s a,r≠.loadF s a) (W:∀kk z ok,r=.lookup kk z ok->z.good=true) (h:cn ν m H Z svs ys) (ho:∀d,SV.dO d svs=true->∀ob,bp m d=some ob->eu ν m H Z d ob) (hp:qD m r svs=some sv) :
 ∃y,fH H r ys=some y/\dw ν m H Z sv y:=by
 unfold qD at hp;split at hp
 .
  obtain⟨X,_,rfl,h1,J⟩:=h.inv;rw[J.dc];split at hp
  .rename_i cs u;obtain⟨am,e,rfl⟩:=h1.qh u;obtain⟨es,an,hr,hc,_⟩:=ho _ (by simp[SV.dO,SV.c8]) _ u
   obtain⟨y,hy,ae⟩:=IV hc hp;refine⟨y,?_,ae⟩;simp[fH,ez,hr,Ob.rows,List.getElem?_cons_zero];omega
  grind
 .
  obtain⟨X,_,rfl,h1,J⟩:=h.inv;rw[J.dc];split at hp
  .rename_i k es xs u;split at hp
   .rename_i cs Y;obtain⟨z,L,rfl⟩:=ζf.1 hp;obtain⟨k1,ao,ap,e,hk,rfl⟩:=h1.zz u;cases e;have:=ho _ (by simp[SV.dO,SV.c8]) _ u
    simp[eu,hk]at this;obtain⟨rs,hr,hl,B,_⟩:=this;obtain⟨c,hc,af⟩:=B.get Y;have hj:=(ζe.1 Y).1;rw[List.getElem?_take,if_pos hj,List.getElem?_drop]at hc;obtain⟨r1,w,C⟩:=ζg.1 L;obtain⟨r2,Q,D⟩:=af.cut w;obtain⟨z',S,aa⟩:=D.mk C;refine⟨z',?_,.v _ _ aa⟩;simp[fH,ez,hr,Ob.rows,hc,Q,S]
   grind
  grind
 .
  rename_i size agg p;obtain⟨X,_,rfl,h1,J⟩:=h.inv;rw[J.dc];obtain⟨z,L,rfl⟩:=ζf.1 hp;obtain⟨r1,w,C⟩:=ζg.1 L;unfold ez at w;split at w
  .rename_i cs;rcases h1.fr.nK with rfl|⟨id,el,off,es,ys,ah,rfl,aa,hr,he,aq,B⟩
   .refine⟨z,by simp[fH,ez,w,C],.v _ _ (.same _ ?_)⟩
    have ai  := by have:=h1.fr.good;simpa [V.good]using this
    obtain⟨r',ar,D⟩:=(dB.same (H:=H) (Z:=Z) ai).cut w;obtain⟨z',S,G⟩:=D.mk C;exact G.good
   obtain⟨r2,Q,D⟩:=B.cut w;obtain⟨z',S,G⟩:=D.mk C;refine⟨z',?_,.v _ _ G⟩;unfold bz at hr;simp[fH,ez,hr,he];have:cut ah off size=some r2:=by
    unfold cut at Q ⊢
    grind
   grind
  .grind
  grind
 .
  rename_i kk z ok d k;obtain⟨X,_,rfl,h1,J⟩:=h.inv;obtain⟨w2,_,rfl,h3,h4⟩:=J.inv;rw[h4.dc];split at hp
  .rename_i T u;split at hp
   .rename_i hk;obtain⟨_,e,rfl⟩:=h1.EE u;have U:=h3.fr.scalar.1 (wJ hk);subst U;obtain⟨al,hr,aj⟩:=ho _ (by simp[SV.dO,SV.c8]) _ u
    obtain⟨f1,f2⟩:=Db   aj;split at hp
    .rename_i j v B;obtain⟨v',ak,ab⟩:=f2 j v B;simp  at hp;subst hp;refine⟨if ok=true then .tup [v',.bool true]else v',by simp[fH,ou,hr,hk,ak],?_⟩
     cases ok
     .exact .v _ _ ab
     refine .v _ _ (.tup _ _ rfl (dB.cons ab (.cons (.same _ rfl) .nil)).2)
    .rename_i B;simp  at hp;subst hp;refine⟨if ok=true then .tup [z,.bool false]else z,by simp[fH,ou,hr,hk,f1 B],?_⟩
     have L:=W kk z ok rfl;cases ok
     .exact .v _ _ (.same _ L)
     exact .v _ _ (.same _ (by simp[V.good,V.cK,L]))
    grind
   grind
  grind
 .
  rename_i kk z ok p k;obtain⟨X,_,rfl,h1,J⟩:=h.inv;obtain⟨w2,_,rfl,h3,h4⟩:=J.inv;rw[h4.dc];obtain⟨x,I,rfl⟩:=ζf.1 hp;simp[fH]at I;have L:=W kk z ok rfl;split at I
  .rename_i T O;have key:ou H X=some T/\V.tZ T=true:=by
    unfold ou at O;split at O
    .rw[h1.fr.iB];simp  at O;subst O;exact⟨rfl,rfl⟩
    .rw[h1.fr.fmap];simp  at O;subst O;exact⟨rfl,by have:=h1.fr.good;simpa [V.good]using this⟩
    .simp at O
    simp at O
   split at I
   .rename_i hk;have U:=h3.fr.scalar.1 (wJ hk);subst U;split at I
    .rename_i j v B;simp  at I;subst I;have hv  := by
      have:∀{l:aZ (V×V)} {i:Nat},V.tZ l=true->jC w2 l i=some (some (j,v))->v.good=true:=by
       intro l
       induction l with
       | nil=>intro i _ h;simp[jC]at h
       | cons p l ih=>
        intro i hg h;simp[V.tZ]at hg;simp[jC]at h;split at h
        .obtain⟨_,rfl⟩:=h;exact hg.1.2
        .exact ih hg.2 h
        simp at h
      exact this key.2 B
     refine⟨if ok=true then .tup [v,.bool true]else v,by simp[fH,key.1,hk,B],?_⟩
     cases ok
     .exact .v _ _ (.same _ hv)
     exact .v _ _ (.same _ (by simp[V.good,V.cK,hv]))
    .rename_i B;simp  at I;subst I;refine⟨if ok=true then .tup [z,.bool false]else z,by simp[fH,key.1,hk,B],?_⟩
     cases ok
     .exact .v _ _ (.same _ L)
     exact .v _ _ (.same _ (by simp[V.good,V.cK,L]))
    simp at I
   simp at I
  simp at I
 .exact absurd rfl (ad _ _)
 grind
end
section
variable{Rv:Nat->Prop}{ν ν':Nu}{Z Z':Nat->Prop}{st st':St}{m m':Tb bP}{F F':WP}{H H':bq}
def R.lt(r:R ν Z st F H){id:Nat}(h:gq ν st.m id):id<H.length:=by obtain⟨d,ob,b,u,rfl⟩:=h;have:=r.obj d ob b;cases ob with|sl k es C=>simp only[cI]at u;simp only[eu,u,if_true]at this;have⟨D,a,_⟩:=this;exact(ζe.1 a).1|box cs=>have⟨es,z,a,_⟩:=this;exact(ζe.1 a).1|mp B=>have⟨w,a,_⟩:=this;exact(ζe.1 a).1
def R.xH(r:R ν Z st F H){id:Nat}(h:Z id):id<H.length:=by have:=r.zrow id h;unfold bz at this;have⟨x,u⟩:=isSome_iff_exists.1 this;have⟨ob,a,_⟩:=ζg.1 u;exact(ζe.1 a).1
def Deep.mono(d:Deep H Z)(h:∀id,Z id->bz H' id=bz H id):Deep H' Z where
 row:=λid es z w hr c hc u hu=>by rw[h id w]at hr;have⟨x,B⟩:=d.row id es z w hr c hc u hu;exact⟨x,B.mono λk a=>⟨a,h k a⟩⟩
def wR.mono{ys:T'}(h:∀id,Z id->Z' id/\bz H' id=bz H id)(s:wR H Z ys):wR H' Z' ys:=λc a u b=>by have⟨x,w⟩:=s c a u b;exact⟨x,w.mono h⟩
def Fj.mono{a b:aZ (V×V)}(h:∀id,Z id->Z' id/\bz H' id=bz H id)(s:Fj H Z a b):Fj H' Z' a b:=⟨s.1,λj u v c d=>⟨(s.2 j u v c d).1,(s.2 j u v c d).2.mono h⟩⟩
def eu.mono{d G:Nat}{ob:bP}(B:∀id,Z id->Z' id/\bz H' id=bz H id)(hd:ν' G=ν d)(D:cI ob=true->H'[(ν d).1]?=H[(ν d).1]?)
 (J:∀e,ob.c8 e=true->∀ob',bp m' e=some ob'->∃ob,bp m e=some ob/\ν' e=ν e/\sameShape ob ob')(o:eu ν m H Z d ob):eu ν' m' H' Z' G ob:=by
 cases ob with
 |sl k es S=>
  simp only[eu,hd]at o⊢;split
  next b=>rw[if_pos b]at o;have⟨I,a,u,z,L,O⟩:=o;exact⟨I,by rw[D (by simpa[cI]using b)];exact a,u,z.mono B,L.mono B,O⟩
  rename_i b;rw[if_neg b]at o;exact o
 |box cs=>have⟨es,C,a,u,z⟩:=o;exact⟨es,C,by rw[hd,D rfl];exact a,u.mono B J,z⟩|mp Q=>have⟨w,a,u⟩:=o;exact⟨w,by rw[hd,D rfl];exact a,u.mono B⟩
def jO(ν:Nu)(m:Tb bP)(e:Nat):∀ob',bp m e=some ob'->∃ob,bp m e=some ob/\ν e=ν e/\sameShape ob ob':=λob' h=>⟨ob',h,rfl,.refl _⟩
def R.heap(r:R ν Z st F H)(D:∀id,gq ν st.m id->H'[id]?=H[id]?)(B:∀id,Z id->bz H' id=bz H id):R ν Z st F H' where
 slot:=λs u w=>(r.slot s u w).mono (λid h=>⟨h,B id h⟩) λd _=>jO ν st.m d
 obj:=λd ob hd=>eu.mono (λid h=>⟨h,B id h⟩) rfl (λz=>D _ ⟨d,ob,hd,z,rfl⟩) (λe _=>jO ν st.m e) (r.obj d ob hd)
 inj:=r.inj
 apart:=r.apart
 zrow:=λid h=>by rw[B id h];exact r.zrow id h
 deep:=r.deep.mono B
def R.put(r:R ν Z st F H){d:Nat}{sv:SV}{y:V}(h:dw ν st.m H Z sv y):R ν Z {st with g:=bT st.g d sv} (set F d y) H where
 slot:=λs x u=>by by_cases e:d=s;subst e;rw[cO]at u;cases u;rw[uo];exact h;rw[d_ st.g sv e]at u;rw[kj _ _ e];exact r.slot s x u
 obj:=r.obj
 inj:=r.inj
 apart:=r.apart
 zrow:=r.zrow
 deep:=r.deep
def Ev.slots(g:Tb SV):Ev Rv ν Z st H ν Z {st with g:=g} H:=⟨le_refl _,λ_ _ _ _ _=>rfl,λ_ h=>⟨h,rfl⟩,λ_ h=>.inl h,λ_ h=>.inl h,λ_ _ u h=>⟨u,h,rfl,.refl _⟩,rfl⟩
def jJ(ν:Nu)(d:Nat)(p:Nat×Nat):Nu:=λk=>if k=d then p else ν k
def iP(ν:Nu)(d:Nat)(p:Nat×Nat):jJ ν d p d=p:=if_pos rfl
def qp(ν:Nu){d k:Nat}(p:Nat×Nat)(h:k≠d):jJ ν d p k=ν k:=if_neg h
def nG{d:Nat}(h:st.new d=true):d∉st.pin/\bp st.m d=none/\wE d st.g=false/\uv d st.m=false:=by unfold St.new at h;simp only[ζh,not_eq_true',Option.isNone_iff_eq_none,List.contains_eq_mem,decide_eq_false_iff_not]at h;exact⟨h.1.1.1,h.1.1.2,h.1.2,h.2⟩
def uP{d:Nat}{ob:bP}{p:Nat×Nat}{e:Nat}(h:e≠d):∀ob',bp (bT m d ob) e=some ob'->∃ob,bp m e=some ob/\jJ ν d p e=ν e/\sameShape ob ob':=λob' u=>by rw[d_ m ob (Ne.symm h)]at u;exact⟨ob',u,qp ν p h,.refl _⟩
def R.add(r:R ν Z st F H){d:Nat}(U:st.new d=true){ob:bP}{p:Nat×Nat}(G:cI ob=true->¬gq ν st.m p.1/\¬Z p.1)(W:eu (jJ ν d p) (bT st.m d ob) H Z d ob):
 R (jJ ν d p) Z {st with m:=bT st.m d ob} F H:=by
 have⟨T,X,O,Q⟩:=nG U;have key:∀w u,bp (bT st.m d ob) w=some u->w≠d->bp st.m w=some u:=λw u h e=>by rw[d_ st.m ob (Ne.symm e)]at h;exact h
 refine⟨λs S J=>?_,λw u hd=>?_,?_,?_,r.zrow,r.deep⟩
 .refine(r.slot s S J).mono (λid h=>⟨h,rfl⟩) λe L=>uP ?_
  rintro rfl;rw[zK O J]at L;cases L
 .by_cases e:w=d
  .subst e;simp only at hd;rw[cO]at hd;cases hd;exact W
  have C:=key w u hd e;refine eu.mono (λid h=>⟨h,rfl⟩) (qp ν p e) (λ_=>rfl) (λk c=>uP ?_) (r.obj w u C)
  rintro rfl;rw[z8 Q C]at c;cases c
 .intro b d2 o1 o2 a D z I B
  by_cases e1:b=d<;>by_cases e2:d2=d
  .rw[e1,e2]
  .subst e1;rw[iP,qp ν p e2]at B;simp only at a;rw[cO]at a;cases a;exact absurd ⟨d2,o2,key d2 o2 D e2,I,B.symm⟩ (G z).1
  .subst e2;rw[iP,qp ν p e1]at B;simp only at D;rw[cO]at D;cases D;exact absurd ⟨b,o1,key b o1 a e1,z,B⟩ (G I).1
  rw[qp ν p e1,qp ν p e2]at B;exact r.inj b d2 o1 o2 (key b o1 a e1) (key d2 o2 D e2) z I B
 intro b o1 a z
 by_cases e1:b=d
 .subst e1;simp only at a;rw[cO]at a;cases a;rw[iP];exact(G z).2
 rw[qp ν p e1];exact r.apart b o1 (key b o1 a e1) z
def Gb{d:Nat}{ob:bP}{p:Nat×Nat}{id:Nat}(h:gq (jJ ν d p) (bT m d ob) id):gq ν m id\/(cI ob=true/\id=p.1):=by have⟨k,o,a,w,u⟩:=h;by_cases e:k=d;subst e;rw[cO]at a;cases a;rw[iP]at u;exact .inr ⟨w,u.symm⟩;rw[qp ν p e]at u;rw[d_ m ob (Ne.symm e)]at a;exact .inl ⟨k,o,a,w,u⟩
def Ev.add{d:Nat}(B:st.new d=true){ob:bP}{p:Nat×Nat}(D:H.length<=H'.length)(G:∀id,id<H.length->¬Rv id->H'[id]?=H[id]?)(J:∀id,Z id->bz H' id=bz H id)
 (hp:cI ob=true->Rv p.1\/H.length<=p.1):Ev Rv ν Z st H (jJ ν d p) Z {st with m:=bT st.m d ob} H' where
 len:=D
 same:=λid h _ _ hr=>G id h hr
 rows:=λid h=>⟨h,J id h⟩
 own:=λid h=>by rcases Gb h with h|⟨a,rfl⟩;exact .inl h;exact .inr (hp a)
 frz:=λid h=>.inl h
 pin:=λe w u h=>by have:e≠d:=(by rintro rfl;exact(nG B).1 w);exact uP this u h
 pins:=rfl
def R.gO(r:R ν Z st F H){d:Nat}{ob ob':bP}(b:bp st.m d=some ob)(D:sameShape ob ob')(W:cI ob'=cI ob)(U:∀id,id≠(ν d).1->H'[id]?=H[id]?)(B:cI ob=true)
 (Y:eu ν (bT st.m d ob') H' Z d ob'):R ν Z {st with m:=bT st.m d ob'} F H':=by
 have z:∀id,Z id->Z id/\bz H' id=bz H id:=λid h=>⟨h,by
  unfold bz;rw[U id (by rintro rfl;exact r.apart d ob b B h)]⟩
 have f:∀e u,bp (bT st.m d ob') e=some u->∃w,bp st.m e=some w/\ν e=ν e/\sameShape w u:=λe u h=>by by_cases k:e=d;subst k;rw[cO]at h;cases h;exact⟨ob,b,rfl,D⟩;rw[d_ st.m ob' (Ne.symm k)]at h;exact⟨u,h,rfl,.refl _⟩
 have C:∀e u,bp (bT st.m d ob') e=some u->∃w,bp st.m e=some w/\cI w=cI u:=λe u h=>by by_cases k:e=d;subst k;rw[cO]at h;cases h;exact⟨ob,b,W.symm⟩;rw[d_ st.m ob' (Ne.symm k)]at h;exact⟨u,h,rfl⟩
 refine⟨λs O D=>(r.slot s O D).mono z λe _=>f e,λG u hd=>?_,?_,?_,λid h=>by rw[(z id h).2];exact r.zrow id h,r.deep.mono λid h=>(z id h).2⟩
 .by_cases e:G=d
  .subst e;simp only at hd;rw[cO]at hd;cases hd;exact Y
  simp only at hd;rw[d_ st.m ob' (Ne.symm e)]at hd;refine eu.mono z rfl (λI=>U _ λh=>e (r.inj G d u ob hd b I B h)) (λk _=>f k) (r.obj G u hd)
 .intro a d2 o1 o2 c Q J S T;have⟨p1,k1,L⟩:=C a o1 c;have⟨p2,X,g⟩:=C d2 o2 Q;exact r.inj a d2 p1 p2 k1 X (by rw[L];exact J) (by rw[g];exact S) T
 intro a o1 c J;have⟨p1,k1,L⟩:=C a o1 c;exact r.apart a p1 k1 (by rw[L];exact J)
def Ev.gO(r:R ν Z st F H){d:Nat}{ob ob':bP}(a:bp st.m d=some ob)(G:sameShape ob ob')(U:cI ob'=cI ob)(D:∀id,id≠(ν d).1->H'[id]?=H[id]?)(B:cI ob=true)(J:H.length<=H'.length):
 Ev Rv ν Z st H ν Z {st with m:=bT st.m d ob'} H' where
 len:=J
 same:=λid _ z _ _=>D id λe=>z ⟨d,ob,a,B,e.symm⟩
 rows:=λid h=>⟨h,by unfold bz;rw[D id (by rintro rfl;exact r.apart d ob a B h)]⟩
 own:=λid⟨k,o,h1,C,w⟩=>by by_cases e:k=d;subst e;simp only at h1;rw[cO]at h1;cases h1;exact .inl ⟨k,ob,a,B,w⟩;simp only at h1;rw[d_ st.m ob' (Ne.symm e)]at h1;exact .inl ⟨k,o,h1,C,w⟩
 frz:=λid h=>.inl h
 pin:=λe _ u h=>by by_cases k:e=d;subst k;simp only at h;rw[cO]at h;cases h;exact⟨ob,a,rfl,G⟩;simp only at h;rw[d_ st.m ob' (Ne.symm k)]at h;exact⟨u,h,rfl,.refl _⟩
 pins:=rfl
def R.less(r:R ν Z st F H){g:Tb SV}{m':Tb bP}(a:∀s sv,bp g s=some sv->bp st.g s=some sv)(B:∀d ob,bp m' d=some ob->bp st.m d=some ob):R ν Z {st with g:=g,m:=m'} F H where
 slot:=λs sv z=>(r.slot s sv (a s sv z)).mono (λid h=>⟨h,rfl⟩) λe _ u h=>⟨u,B e u h,rfl,.refl _⟩
 obj:=λd ob hd=>eu.mono (λid h=>⟨h,rfl⟩) rfl (λ_=>rfl) (λe _ u h=>⟨u,B e u h,rfl,.refl _⟩) (r.obj d ob (B d ob hd))
 inj:=λd w ob u b C=>r.inj d w ob u (B d ob b) (B w u C)
 apart:=λd ob h=>r.apart d ob (B d ob h)
 zrow:=r.zrow
 deep:=r.deep
def Ev.less{g:Tb SV}{m':Tb bP}(B:∀d ob,bp m' d=some ob->bp st.m d=some ob):Ev Rv ν Z st H ν Z {st with g:=g,m:=m'} H:=⟨le_refl _,λ_ _ _ _ _=>rfl,λ_ h=>⟨h,rfl⟩,λ_⟨d,ob,a,w,z⟩=>.inl ⟨d,ob,B d ob a,w,z⟩,λ_ h=>.inl h,λe _ u h=>⟨u,B e u h,rfl,.refl _⟩,rfl⟩
def Ev.heap(B:H.length<=H'.length)(D:∀id,id<H.length->¬gq ν st.m id->¬Z id->¬Rv id->H'[id]?=H[id]?)(G:∀id,Z id->bz H' id=bz H id):Ev Rv ν Z st H ν Z st H':=⟨B,D,λid h=>⟨h,G id h⟩,λ_ h=>.inl h,λ_ h=>.inl h,λ_ _ u h=>⟨u,h,rfl,.refl _⟩,rfl⟩
end
section
variable{Rv:Nat->Prop}{ν ν':Nu}{Z Z':Nat->Prop}{st st':St}{m m':Tb bP}{F F':WP}{H H':bq}
def gY.HZ{xs ys:T'}(h:gY H Z xs ys):wR H Z ys:=λc b u d=>by
 have⟨i,e⟩:=mem_iff_getElem?.1 b;have z:i<xs.length:=by rw[h.1];grind
 have a:=h.2 i _ c (ζd z) e;have⟨j,B⟩:=mem_iff_getElem?.1 d;have w:j<(xs[i]).length:=by rw[a.1];grind
 exact⟨_,a.2 j _ u (ζd w) B⟩
def gY.same{xs:T'}(h:V.oc xs=true):gY H Z xs xs:=⟨rfl,λj u v a b=>by rw[a]at b;cases b;exact dB.same (lV.1 h j u a)⟩
def p9{z:T2}(h:V.cK z=true):∀n,V.oc (replicate n z)=true
 |0=>rfl|n+1=>by simp[List.replicate_succ,V.oc,h,p9 h n]
theorem C0 {es:Nat}:∀{ps qs:aZ (Nat×V)} {xs B r:aZ (aZ V)},gY H Z xs B->ps.map (·.1)=qs.map (·.1)->dB H Z (ps.map (·.2)) (qs.map (·.2))->fU es xs ps=some r->∃G,fU es B qs=some G/\gY H Z r G
 | [],qs,xs,B,r,D,h1,J,h=>by
  have:qs=[]:=by simp_all
  subst this;simp[fU]at h ⊢;grind
 | (i,v)::ps,qs,xs,B,r,D,h1,J,h=>by
  cases qs with
  | nil=>simp_all
  | cons q qs=>
   obtain⟨j,w⟩:=q;simp  at h1;obtain⟨e,h1⟩:=h1;subst e;obtain⟨w',C,e,u,z⟩:=J.inv;obtain⟨rfl,rfl⟩:=e;have hc:=u.cells;simp only[fU]at h ⊢;split at h
   .rw[if_pos ⟨by rw[<-hc.1];grind,by rw[<-D.1];grind,by rw[hc.one];grind⟩]
    exact C0 (D.set i hc) h1 z h
   grind
def zip_fst:∀{idx:S'}{xs:T2},idx.length=xs.length->(idx.zip xs).map (·.1)=idx
 |[],xs,_=>Zab|i::idx,[],h=>Zad|i::idx,x::xs,h=>by simp[zip_fst (idx:=idx) (xs:=xs) Zac]
def FG:∀{idx:S'}{xs:T2},idx.length=xs.length->(idx.zip xs).map (·.2)=xs
 |[],[],_=>Zab|[],x::xs,h=>Zad|i::idx,[],h=>Zad|i::idx,x::xs,h=>by simp[FG (idx:=idx) (xs:=xs) Zac]
theorem OI {a:Qr} {svs:aZ SV} {ys:aZ V} {d:Nat} {ob:bP} {sv:SV} (hk:Cc (.a a)=true) (r:cn ν m H Z svs ys) (h:qT m a svs d=some (ob,sv)) :
 ∃o mk,jg a ys=some (o,mk)/\cI ob=true/\o≠.free/\∀(id:Nat) (ν':Nu) (m':Tb bP) (H':bq),ν' d=(id,0)->bp m' d=some ob->H'[id]? = some o->(∀k,Z k->bz H' k=bz H k) ->
  (∀e,SV.dO e svs=true->∀ob',bp m' e=some ob'->∃ob,bp m e=some ob/\ν' e=ν e/\sameShape ob ob')->eu ν' m' H' Z d ob/\dw ν' m' H' Z sv (mk.val id):=by
 unfold qT at h;split at h
 .
  rename_i size zero;obtain⟨rfl,rfl⟩:=h;rw[r.dc];simp only[Cc,ζh]at hk;refine⟨_,_,rfl,rfl,by simp,λid ν' m' H' e1 e2 e3 e4 e5=>⟨⟨_,zero,by rw[e1];omega,cn.sS (dB.same hk.1),hk.2⟩,?_⟩⟩
  exact .ptr _ _ _ λob' u=>by rw[e2]at u;cases u;exact⟨_,rfl,by rw[e1];rfl⟩
 .
  split at h
  .rename_i C;obtain⟨rfl,rfl⟩:=h;obtain⟨y,_,rfl,h1,B⟩:=r.inv;rw[B.dc];have hc:=h1.fr.cells;refine⟨.row y.cells.length [y.cells],.ptr,by simp[jg,hc.one,C],rfl,by simp,λid ν' m' H' e1 e2 e3 e4 e5=>⟨⟨_,y.cells,by rw[e1];omega,cn.sS (hc.mono λk hk=>⟨hk,e4 k hk⟩),by rw[hc.one];simp_all⟩,?_⟩⟩
   exact .ptr _ _ _ λob' u=>by rw[e2]at u;cases u;exact⟨_,rfl,by rw[e1];rfl⟩
  grind
 .
  split at h
  .rename_i z;obtain⟨rfl,rfl⟩:=h;obtain⟨y,_,rfl,h1,B⟩:=r.inv;rw[B.dc];obtain⟨Q,rfl,W⟩:=h1.jE;have J:=Ht z W;refine⟨.row Q.length [Q],.ptr,by simp[jg,V.cells,J],rfl,by simp,λid ν' m' H' e1 e2 e3 e4 e5=>⟨⟨_,Q,by rw[e1];omega,W.mono (λk hk=>⟨hk,e4 k hk⟩) λe S=>e5 e (by simp[SV.dO,SV.c8,S]),J⟩,?_⟩⟩
   exact .ptr _ _ _ λob' u=>by rw[e2]at u;cases u;exact⟨_,rfl,by rw[e1];rfl⟩
  grind
 .
  split at h
  .rename_i z;obtain⟨rfl,rfl⟩:=h;obtain⟨y,_,rfl,h1,B⟩:=r.inv;rw[B.dc];obtain⟨X,J⟩:=nr z h1;refine⟨.row [y].length [[y]],.ptr,by simp[jg,X,J],rfl,by simp,λid ν' m' H' e1 e2 e3 e4 e5=>⟨⟨_,[y],by rw[e1];omega,.cons (h1.mono (λk hk=>⟨hk,e4 k hk⟩) λe S=>e5 e (by simp[SV.dO,S])) .nil,by simp_all⟩,?_⟩⟩
   exact .ptr _ _ _ λob' u=>by rw[e2]at u;cases u;exact⟨_,rfl,by rw[e1];rfl⟩
  grind
 .
  rename_i size zero k n k' c;obtain⟨_,_,rfl,h1,B⟩:=r.inv;obtain⟨_,_,rfl,Y,h4⟩:=B.inv;rw[h1.fr.int,Y.fr.int,h4.dc];split at h
  .rename_i hc;obtain⟨rfl,rfl⟩:=h;have T:cT (if n=c then Fl.row else Fl.part)=true:=by split <;> rfl
   refine⟨_,_,by simp only[jg];rw[if_pos hc],T,by simp,λid ν' m' H' e1 e2 e3 e4 e5=>⟨?_,?_⟩⟩
   .simp[eu,T,e1];have hg:=p9 hk c.toNat;have U:n.toNat<=c.toNat:=by omega
    refine⟨_,e3,by simp_all,?_,(gY.same hg).HZ,λe=>?_⟩
    .simp[Nat.min_eq_left U];exact gY.same (p9 hk _)
    grind
   refine .own _ _ λob' u=>?_
   rw[e2]at u;cases u;exact⟨_,_,_,rfl,by rw[tn T,e1];simp[Mk.val]⟩
  grind
 .
  rename_i vs size len zero idx;split at h
  .rename_i xs hx;split at h
   .rename_i z;obtain⟨rows,hr,e⟩:=ζf.1 h;obtain⟨rfl,rfl⟩:=e;have L:=r.dI hx;obtain⟨rows',D,w⟩:=C0   (qs:=idx.zip ys) (gY.same (p9 hk len)) (by rw[zip_fst z,zip_fst (by rw[<-L.1];exact z)]) (by rw[FG z,FG (by rw[<-L.1];exact z)];exact L) hr
    have G:rows'.length=len:=by
     have:∀{O:aZ (Nat×V)} {a r:aZ (aZ V)},fU size a O=some r->r.length=a.length:=by
      intro O
      induction O with
      | nil=>intro a r h;simp[fU]at h;subst h;rfl
      | cons p O ih=>
       intro a r h;simp only[fU]at h;split at h
       .rw[ih h];simp
       simp at h
     rw[this D];simp
    refine⟨.row size rows',.sl size len,by simp only[jg];rw[if_pos (by rw[<-L.1];exact z),D];rfl,rfl,by simp,λid ν' m' H' e1 e2 e3 e4 e5=>⟨?_,?_⟩⟩
    .have I:=w.mono   λk hk=>⟨hk,e4 k hk⟩
     simp only[eu,e1];refine⟨_,e3,by simp[w.1],?_,I.HZ,λ_=>⟨trivial,w.1.symm⟩⟩
     simp[w.1];exact I
    refine .own _ _ λob' u=>?_
    rw[e2]at u;cases u;exact⟨_,_,_,rfl,by rw[w.1,G];simp[tO,e1,Mk.val]⟩
   grind
  grind
 .
  obtain⟨rfl,rfl⟩:=h;rw[r.dc];refine⟨_,_,rfl,rfl,by simp,λid ν' m' H' e1 e2 e3 e4 e5=>⟨⟨_,by rw[e1];exact e3,rfl,by simp⟩,?_⟩⟩
  exact .mp _ _ λob' u=>by rw[e2]at u;cases u;exact⟨_,rfl,by rw[e1];rfl⟩
 grind
def cn.X4{cs:So}{B:T2}(h:cn ν m H Z cs B){size o:Nat}{x:SV}{y:V}{r:So}(G:dw ν m H Z x y)(hp:putCells m size o x cs=some r)(D:B.all V.one=true):
 y.cells.length=size/\o+size<=B.length/\y.cells.all V.one=true/\cn ν m H Z r (B.take o++y.cells++B.drop (o+y.cells.length))/\(B.take o++y.cells++B.drop (o+y.cells.length)).all V.one=true:=by
 have u:∀k:Nat,(B.take k).all V.one=true/\(B.drop k).all V.one=true:=λk=>⟨all_eq_true.2 λz C=>all_eq_true.1 D z (List.mem_of_mem_take C),all_eq_true.2 λz C=>all_eq_true.1 D z (mem_of_mem_drop C)⟩
 unfold putCells at hp;split at hp
 .split at hp
  .rename_i hc;simp only[ζa]at hp;subst hp;have w:=G.fr.cells;refine⟨by rw[<-w.1];simp_all,by rw[<-h.1];grind,by rw[w.one];grind,?_,?_⟩
   .have e:y.cells.length=size:=by rw[<-w.1];simp_all
    rw[e];exact((h.take o).append (cn.sS w)).append (h.drop _)
   simp only[List.all_append,(u _).1,(u _).2,w.one,hc.2.2,Bool.and_self]
  grind
 .split at hp
  .rename_i hc;simp only[ζa]at hp;subst hp;obtain⟨I,rfl,J⟩:=G.jE;have L:=Ht hc.2.2 J;have e:I.length=size:=by rw[<-J.1];simp_all
   refine⟨e,by rw[<-h.1];grind,L,?_,?_⟩
   .show cn ν m H Z _ (B.take o++I++B.drop (o+I.length));rw[e];exact((h.take o).append J).append (h.drop _)
   simp[(u _).1,(u _).2,V.cells,L]
  grind
 split at hp
 .rename_i hc;simp only[ζa]at hp;subst hp;have⟨O,Q⟩:=nr hc.1 G;rw[O];refine⟨by simp[hc.2.1],by rw[<-h.1];grind,Zad,?_,?_⟩
  .exact((h.take o).append (.cons G .nil)).append (h.drop _)
  grind
 grind
def vV{size:Nat}{x:SV}{y:V}{xs:T'}(r:dw ν m H Z x y)(D:∀d ob,bp m d=some ob->eu ν m H Z d ob)(h:lM m size x=some xs):∃ys,dQ H size y=some ys/\gY H Z xs ys:=by
 unfold lM at h;split at h;split at h;rename_i k es z u;obtain⟨_,_,_,e,rfl⟩:=r.lu u;cases e;have o:=D _ _ u;simp[eu]at o;split at h;rename_i a;rw[if_pos a]at o;split at h;next w=>simp at h;subst h;have⟨ys,b,B,C,_⟩:=o;rw[tn a];exact⟨_,by simp[dQ,if_pos w,b,Ob.rows,if_pos B],C⟩
 grind;rename_i a;simp at h;subst h;refine⟨[],?_,rfl,Zab⟩;cases k<;>simp[cT]at a<;>rfl;grind;simp at h;subst h;rw[r.fr.bR];exact⟨[],rfl,rfl,Zab⟩;simp at h;subst h;rw[r.fr.dP];exact⟨[],rfl,rfl,Zab⟩;split at h;rename_i es z w;simp at h;subst h;have c:=r.fr.good;rcases r.fr.nC with rfl|⟨id,off,ys,rfl,G,b,B,C⟩;exact⟨_,by simp[dQ,if_pos w],gY.same (by simpa[V.good]using c)⟩;unfold bz at b;exact⟨_,by simp[dQ,if_pos w,b,if_pos B],C⟩;grind;grind
def Ev.re{m1:Tb bP}(B:∀d ob,bp m1 d=some ob->bp st.m d=some ob){d:Nat}(U:d∉st.pin){ob:bP}{p:Nat×Nat}(D:H.length<=H'.length)(G:∀id,id<H.length->¬gq ν st.m id->¬Rv id->H'[id]?=H[id]?)
 (J:∀id,Z id->bz H' id=bz H id)(hp:cI ob=true->gq ν st.m p.1\/Rv p.1\/H.length<=p.1):Ev Rv ν Z st H (jJ ν d p) Z {st with m:=bT m1 d ob} H' where
 len:=D
 same:=λid h C _ hr=>G id h C hr
 rows:=λid h=>⟨h,J id h⟩
 own:=λid h=>by rcases Gb h with h|⟨a,rfl⟩;have⟨k,o,a,w,z⟩:=h;exact .inl ⟨k,o,B k o a,w,z⟩;grind
 frz:=λid h=>.inl h
 pin:=λe I u h=>by have:e≠d:=Zac;have⟨o,a,w,z⟩:=uP (ν:=ν) (p:=p) this u h;grind
 pins:=rfl
def Kept(dst:a_ Nat)(ν:Nu)(m:Tb bP)(ν':Nu)(m':Tb bP):Prop:=∀e u,dst≠some e->bp m' e=some u->∃ob,bp m e=some ob/\ν' e=ν e/\sameShape ob u
def Kept.refl{dst:a_ Nat}:Kept dst ν m ν m:=λe u _ h=>⟨u,h,rfl,.refl _⟩
def Kept.gO{dst:a_ Nat}{d:Nat}{ob ob':bP}(a:bp m d=some ob)(B:sameShape ob ob'):Kept dst ν m ν (bT m d ob'):=λe u _ h=>by by_cases k:e=d;subst k;rw[cO]at h;grind;rw[d_ m ob' (Ne.symm k)]at h;exact⟨u,h,rfl,.refl _⟩
def Kept.add{d:Nat}{ob:bP}{p:Nat×Nat}{m1:Tb bP}(B:∀d ob,bp m1 d=some ob->bp m d=some ob):Kept (some d) ν m (jJ ν d p) (bT m1 d ob):=λe u w h=>by have:e≠d:=λh=>w (by rw[h]);have⟨o,a,z,C⟩:=uP (ν:=ν) (p:=p) this u h;grind
def lT{d:Nat}:∀e ob,bp (ey d m) e=some ob->bp m e=some ob:=λ_ _ h=>(pM h).2
theorem Fj.put {k x y:V} {a b r:aZ (V×V)} (G:k.scalar=true) (h:Fj H Z a b) (J:FR H Z x y) (hp:rq k x a=some r):∃D,rq k y b=some D/\Fj H Z r D:=by
 unfold rq at hp;obtain⟨f1,f2⟩:=Db   h;split at hp
 .rename_i j v C;simp  at hp;subst hp;obtain⟨I,B,_⟩:=f2 j v C;refine⟨b.set j (k,y),by unfold rq;rw[B],by simp[h.1],λi u w hu z=>?_⟩
  rw[List.getElem?_set]at hu z;split at hu
  .grind
  rename_i e;rw[if_neg e]at z;exact h.2 i u w hu z
 .simp  at hp;subst hp;refine⟨b++[(k,y)],by unfold rq;simp_all,by simp[h.1],λi u w hu z=>?_⟩
  by_cases hi:i<a.length
  .rw[List.getElem?_append_left hi]at hu;rw[List.getElem?_append_left (by rw[<-h.1];omega)]at z
   exact h.2 i u w hu z
  rw[List.getElem?_append_right (by rw[<-h.1];omega),<-h.1]at z
  grind
 grind
def LN(r:R ν Z st F H){d:Nat}{cs:So}(B:bp st.m d=some (.box cs)):∀{l:So}{D:T2},cn ν st.m H Z l D->l.all (Nq st.m d)=true->D.all (sq (ν d).1)=true:=by intro l;induction l with|nil=>intro D C _;rw[C.dc];rfl|cons a l O=>intro D C G;obtain⟨w,D,rfl,g1,g2⟩:=C.inv;simp only[all_cons,ζh]at G⊢;refine⟨?_,O g2 G.2⟩;have u:=G.1;unfold Nq at u;split at u;rename_i Q T;simp at u;have⟨I,J⟩:=u;split at J;(next S z=>obtain⟨_,_,rfl⟩:=g1.qh z;simp[sq];exactλe=>I (r.inj Q d _ _ z B rfl rfl e));grind;rcases FR.nK g1.fr with rfl|⟨id,el,off,_,_,_,rfl,L,_⟩;rfl;simp[sq];rintro rfl;exact r.apart d _ B rfl L;grind
def Df(r:R ν Z st F H){dst:a_ Nat}{l:LC}{svs:So}{ys:T2}{sv:SV}(U:cn ν st.m H Z svs ys)(h:ow st dst l svs=some (sv,st')):
 ∃y H' ν',fP H l ys=some (y,H')/\R ν' Z st' F H'/\dw ν' st'.m H' Z sv y/\Ev (λ_=>False) ν Z st H ν' Z st' H'/\Kept dst ν st.m ν' st'.m:=by
 unfold ow at h;split at h
 .
  rename_i size d o x;obtain⟨_,_,rfl,a,q⟩:=U.inv;obtain⟨y,_,rfl,n,A⟩:=q.inv;rw[A.dc];split at h
  .rename_i cs B;have⟨av,hp,e⟩:=ζf.1 h;obtain⟨rfl,rfl⟩:=e;obtain⟨_,_,rfl⟩:=a.qh B;have⟨es,G,f,g,W⟩:=r.obj d _ B;have⟨p1,p2,p3,p4,p5⟩:=cn.X4 g n hp W;have J:∀id,id≠(ν d).1->(H.set (ν d).1 (.row es [G.take o++y.cells++G.drop (o+y.cells.length)]))[id]?=H[id]?:=λid I=>by grind
   have D:∀id,Z id->Z id/\bz (H.set (ν d).1 (.row es [G.take o++y.cells++G.drop (o+y.cells.length)])) id=bz H id:=λid D=>⟨D,by
    unfold bz;rw[J id (by rintro rfl;exact r.apart d _ B rfl D)]⟩
   refine⟨.undef,H.set (ν d).1 (.row es [G.take o++y.cells++G.drop (o+y.cells.length)]),ν,?_,?_,.v _ _ (.same _ rfl),Ev.gO r B trivial rfl J rfl Zab,Kept.gO B trivial⟩
   .simp only[fP,f,getElem?_cons_zero,if_pos (And.intro p1 (And.intro p2 p3)),List.set_cons_zero]
   refine r.gO B trivial rfl J rfl ⟨es,_,?_,p4.mono D (λe _ Q E=>?_),p5⟩
   .grind
   by_cases k:e=d
   .subst k;rw[cO]at E;cases E;exact⟨_,B,rfl,trivial⟩
   rw[d_ st.m _ (Ne.symm k)]at E;exact⟨Q,E,rfl,.refl _⟩
  grind
 .
  rename_i size d i o x;obtain⟨_,_,rfl,a,q⟩:=U.inv;obtain⟨y,_,rfl,n,A⟩:=q.inv;rw[A.dc];split at h
  .rename_i k es xs B;split at h
   .rename_i cs ai;split at h
    .rename_i g;obtain⟨rfl,rfl⟩:=h;obtain⟨_,_,_,e,b,rfl⟩:=a.zz B;cases e;have ob:=r.obj d _ B;simp[eu,b]at ob;have⟨rs,f,hl,hf,aj,ak⟩:=ob;have⟨c,al,ae⟩:=hf.get ai;have hi:=(ζe.1 ai).1;rw[getElem?_take,if_pos hi,getElem?_drop]at al;have hy:=n.fr.cells;have K:y.cells.length=size:=by rw[<-hy.1];exact g.1
     have X:o+size<=c.length:=by rw[<-ae.1];exact g.2.1
     have q3:y.cells.all V.one=true:=by rw[hy.one];exact g.2.2
     have C:dB H Z (cs.take o++x.cells++cs.drop (o+x.cells.length)) (c.take o++y.cells++c.drop (o+y.cells.length)):=by rw[g.1,K];exact((ae.take o).append hy).append (ae.drop _)
     generalize hN:(c.take o++y.cells++c.drop (o+y.cells.length))=nc at C;have J:∀id,id≠(ν d).1->(H.set (ν d).1 (.row es (rs.set ((ν d).2+i) nc)))[id]?=H[id]?:=λid I=>by rw[getElem?_set];rw[if_neg (Ne.symm I)]
     have L:=b;have D:∀id,Z id->Z id/\bz (H.set (ν d).1 (.row es (rs.set ((ν d).2+i) nc))) id=bz H id:=λid D=>⟨D,by
      unfold bz;rw[J id (by rintro rfl;exact r.apart d _ B L D)]⟩
     have af:sameShape (.sl k es xs) (.sl k es (xs.set i (cs.take o++x.cells++cs.drop (o+x.cells.length)))):=⟨rfl,rfl,Zab⟩
     refine⟨.undef,H.set (ν d).1 (.row es (rs.set ((ν d).2+i) nc)),ν,?_,?_,.v _ _ (.same _ rfl),Ev.gO r B af rfl J L Zab,Kept.gO B af⟩
     .simp only[fP,f,al,if_pos (And.intro K (And.intro X q3)),hN]
     refine r.gO B af rfl J L ?_;simp only[eu,b];have aw:=(ζe.1 f).1;refine⟨_,getElem?_set_self aw,by simpa using hl,?_,?_,λe=>?_⟩
     .have e1:take (xs.set i (cs.take o++x.cells++cs.drop (o+x.cells.length))).length (List.drop (ν d).2 (rs.set ((ν d).2+i) nc))=((rs.drop (ν d).2).take xs.length).set i nc:=by
       rw[List.length_set,List.drop_set,if_neg Zaa,List.take_set]
       congr 1;omega
      rw[e1];exact(hf.set i C).mono D
     .intro cc am u hu;rcases List.mem_or_eq_of_mem_set am with hm|rfl
      .have⟨z,ax⟩:=aj cc hm u hu;exact⟨z,ax.mono D⟩
      have⟨j,hj⟩:=mem_iff_getElem?.1 hu;have an:=(ζe.1 hj).1;rw[<-C.1]at an;exact⟨_,(C.2 j _ u (ζd an) hj).mono D⟩
     have⟨p,S⟩:=ak e;exact⟨p,by simpa using S⟩
    simp at h
   grind
  grind
 .
  rename_i kk d k x;obtain⟨_,_,rfl,a,q⟩:=U.inv;obtain⟨k',_,rfl,n,A⟩:=q.inv;obtain⟨y,_,rfl,h5,h6⟩:=A.inv;rw[h6.dc];split at h
  .rename_i ay B;split at h
   .rename_i b;have⟨aJ,hp,e⟩:=ζf.1 h;simp at e;obtain⟨rfl,rfl⟩:=e;obtain⟨_,_,rfl⟩:=a.EE B;have aA:=n.fr.scalar.1 (wJ b);subst aA;have⟨aK,f,aB⟩:=r.obj d _ B;have⟨r',aC,aD⟩:=aB.put (wJ b) h5.fr hp;have J:∀id,id≠(ν d).1->(H.set (ν d).1 (.map r'))[id]?=H[id]?:=λid I=>by rw[getElem?_set];rw[if_neg (Ne.symm I)]
    have D:∀id,Z id->Z id/\bz (H.set (ν d).1 (.map r')) id=bz H id:=λid D=>⟨D,by
     unfold bz;rw[J id (by rintro rfl;exact r.apart d _ B rfl D)]⟩
    refine⟨.undef,H.set (ν d).1 (.map r'),ν,?_,?_,.v _ _ (.same _ rfl),Ev.gO r B trivial rfl J rfl Zab,Kept.gO B trivial⟩
    .simp[fP,f,b,aC]
    refine r.gO B trivial rfl J rfl ⟨r',?_,aD.mono D⟩;rw[getElem?_set_self (ζe.1 f).1]
   simp at h
  simp at h
 .
  rename_i size s x;obtain⟨y1,_,rfl,a,q⟩:=U.inv;obtain⟨y2,_,rfl,n,A⟩:=q.inv;rw[A.dc];split at h
  .rename_i xs e1 e2;have⟨p,p1,_⟩:=vV a r.obj e1;have⟨S,p2,X⟩:=vV n r.obj e2;have:=length_eq_zero_iff.1 (by have:=X.1;simpa using this.symm)
   subst this
   cases dst with
   |none=>simp at h|some t=>
    have lit:∀(k:Fl)(M:V),cT k=false->tO (ν t) k size 0=M->st.new t=true->(∀y,FR H Z M y->y=M)->FR H Z M y1->
     ∃y H' ν',fP H (.append size) [y1,y2]=some (y,H')/\R ν' Z {st with m:=bT st.m t (.sl k size [])} F H'/\dw ν' (bT st.m t (.sl k size [])) H' Z (.own t) y/\Ev (λ_=>False) ν Z st H ν' Z {st with m:=bT st.m t (.sl k size [])} H'/\Kept (some t) ν st.m ν' (bT st.m t (.sl k size [])):=λk M b aE P hx hf=>by
     have ao:cI (.sl k size [])=true->False:=by simp[cI,b]
     refine⟨y1,H,jJ ν t (ν t),by simp[fP,p1,p2],r.add P (λh=>(ao h).elim) (by simp[eu,b]),.own _ _ λQ N=>?_,Ev.add P (le_refl _) (λ_ _ _=>rfl) (λ_ _=>rfl) (λh=>(ao h).elim),Kept.add λ_ _ h=>h⟩
     rw[cO]at N;cases N;exact⟨_,_,_,rfl,by rw[iP,hx _ hf];exact aE.symm⟩
    cases s with
    |own d=>
     dsimp only at h;split at h
     .rename_i ob B;split at h
      .rename_i C;simp at h;obtain⟨rfl,rfl⟩:=h;simp[lM,B]at e1
       cases ob with
       |sl k es Y=>
        obtain⟨_,_,_,e,rfl⟩:=a.lu B;cases e;have r1:R ν Z {st with m:=ey d st.m} F H:=r.less (λ_ _ h=>h) lT
        have⟨n1,_,_,_⟩:=nG C;have ap:eu (jJ ν t (ν d)) (bT (ey d st.m) t (.sl k es Y)) H Z t (.sl k es Y):=by have o:=r.obj d _ B;simp[eu,iP]at o⊢;exact o
        refine⟨tO (ν d) k es Y.length,H,jJ ν t (ν d),by simp[fP,p1,p2],r1.add C (λhb=>⟨λT=>?_,r.apart d _ B hb⟩) ap,.own _ _ λQ N=>?_,?_,Kept.add lT⟩
        .have⟨k2,o2,g1,g2,g3⟩:=T;have⟨g4,g5⟩:=pM g1;exact g4 (r.inj d k2 _ o2 B g5 hb g2 g3.symm)
        .rw[cO]at N;cases N;exact⟨_,_,_,rfl,by rw[iP]⟩
        by_cases hb:cI (.sl k es Y)=true
        .exact Ev.re (m1:=ey d st.m) lT n1 (le_refl _) (λ_ _ _ _=>rfl) (λ_ _=>rfl) (λ_=>.inl ⟨d,_,B,hb,rfl⟩)
        exact(Ev.less lT).trans (Ev.add C (le_refl _) (λ_ _ _=>rfl) (λ_ _=>rfl) λh=>absurd h hb)
       |box cs=>cases e1|mp ay=>cases e1
      simp at h
     simp at h
    |v M=>
     cases M with
     |bR=>
      dsimp only at h;split at h
      next P=>simp at h;obtain⟨rfl,rfl⟩:=h;exact lit .nil _ rfl rfl P (λy h=>h.bR) a.fr
      simp at h
     |dP=>
      dsimp only at h;split at h
      next P=>simp at h;obtain⟨rfl,rfl⟩:=h;exact lit .emp _ rfl rfl P (λy h=>h.dP) a.fr
      simp at h
     |_=>simp at h
    |_=>simp at h
  .rename_i xs zs I e1 e2;split at h
   .rename_i g;have⟨p,p1,K⟩:=vV a r.obj e1;have⟨S,p2,X⟩:=vV n r.obj e2
    cases dst with
    |none=>simp at h|some t=>
     dsimp only at h;generalize aq:giveUp st.m s=m1 at h;split at h
     .rename_i C;simp at h;obtain⟨rfl,rfl⟩:=h;have⟨n1,_,_,_⟩:=nG C;have grow:∃H1,iU H y1=some H1/\H1.length=H.length/\(∀id,¬gq ν st.m id->H1[id]?=H[id]?)/\
       (∀id,gq ν m1 id->H1[id]?=H[id]?)/\(∀id,Z id->bz H1 id=bz H id):=by
       subst aq
       cases s with
       |own d=>
        simp[lM]at e1;split at e1
        .rename_i k es Y B;obtain⟨_,_,_,e,rfl⟩:=a.lu B;cases e
         by_cases b:cT k=true
         .have o:=r.obj d _ B;simp[eu,b]at o;have⟨ys,f,_⟩:=o;have L:=b;have J:∀id,id≠(ν d).1->(H.set (ν d).1 .dead)[id]?=H[id]?:=λid I=>by rw[getElem?_set];rw[if_neg (Ne.symm I)]
          refine⟨H.set (ν d).1 .dead,by rw[tn b];simp[iU,f],Zab,λid T=>J id λe=>T ⟨d,_,B,L,e.symm⟩,λid T=>J id λe=>?_,λid D=>?_⟩
          .have⟨k2,o2,g1,g2,g3⟩:=T;have⟨g4,g5⟩:=pM g1;exact g4 (r.inj d k2 _ o2 B g5 L g2 (by rw[g3,e]))
          unfold bz;rw[J id (by rintro rfl;exact r.apart d _ B L D)]
         refine⟨H,?_,rfl,λ_ _=>rfl,λ_ _=>rfl,λ_ _=>rfl⟩
         cases k<;>simp[cT]at b<;>rfl
        simp at e1
       |v M=>
        refine⟨H,?_,rfl,λ_ _=>rfl,λ_ _=>rfl,λ_ _=>rfl⟩
        cases M<;>simp[Kn]at g
        .rw[a.fr.dP];rfl
        rw[a.fr.bR];rfl
       |_=>simp[Kn]at g
      have⟨H1,g1,g2,g3,g4,g5⟩:=grow;have O:∀e ob,bp m1 e=some ob->bp st.m e=some ob:=by subst aq;cases s<;>first|exactλ_ _ h=>h|exact lT
      have ad:∀id,gq ν m1 id->id<H.length:=λid⟨k,o,w1,w2,w3⟩=>r.lt ⟨k,o,O k o w1,w2,w3⟩
      have aa:∀id,id<H.length->(H1++[Ob.row size (p++S)])[id]?=H1[id]?:=λid hl=>getElem?_append_left (by rw[g2];exact hl)
      have ah:∀id,Z id->bz (H1++[Ob.row size (p++S)]) id=bz H id:=λid D=>by have:=g5 id D;unfold bz at this⊢;rw[aa id (r.xH D)];exact this
      have r1:=r.less (λ_ _ h=>h) O
      have r2:=r1.heap (λid T=>by rw[aa id (ad id T)];exact g4 id T) ah
      have ff:=(K.append X).mono λid D=>⟨D,ah id D⟩
      have ab:(H1++[Ob.row size (p++S)])[H.length]?=some (.row size (p++S)):=by rw[<-g2];simp
      refine⟨.hsl H.length size 0 (xs.length+zs.length),H1++[Ob.row size (p++S)],jJ ν t (H.length,0),?_,?_,?_,?_,Kept.add O⟩
      .have ar:S≠[]:=by
        rintro rfl;have aF:=length_eq_zero_iff.1 (by have:=X.1;simpa using this)
        exact I aF
       have aG:p.length+S.length<=2147483648:=by rw[<-K.1,<-X.1];exact g.1
       have aH:=K.1;have aI:=X.1
       cases S with
       |nil=>exact absurd rfl ar|cons w ws=>simp only[fP,p1,p2,if_pos aG,g1,map_some,aH,aI]
      .refine r2.add C (λ_=>⟨λT=>?_,λD=>?_⟩) ?_
       .exact absurd (ad _ T) Zab
       .exact absurd (r.xH D) Zab
       simp only[eu,iP];refine⟨_,ab,by simp[K.1,X.1],?_,ff.HZ,λ_=>⟨trivial,by simp[K.1,X.1]⟩⟩
       have:(xs++zs).length=(p++S).length:=by simp[K.1,X.1]
       rw[this,drop_zero,take_length];exact ff
      .refine .own _ _ λQ N=>?_
       simp only at N;rw[cO]at N;cases N;exact⟨_,_,_,rfl,by simp[tO,iP]⟩
      refine Ev.re O n1 (by simp[g2]) (λid hl T _=>?_) ah (λ_=>.inr (.inr (le_refl _)))
      rw[aa id hl];exact g3 id T
     simp at h
   simp at h
  simp at h
 .
  rename_i size d o x l;obtain⟨_,_,rfl,a,q⟩:=U.inv;obtain⟨y,aL,rfl,n,A⟩:=q.inv;split at h
  .rename_i au;split at h
   .rename_i cs B;have⟨av,hp,e⟩:=ζf.1 h;simp at e;obtain⟨rfl,rfl⟩:=e;obtain⟨_,_,rfl⟩:=a.qh B;have⟨es,G,f,g,W⟩:=r.obj d _ B;have⟨p1,p2,p3,p4,p5⟩:=cn.X4 g n hp W;have J:∀id,id≠(ν d).1->(H.set (ν d).1 (.row es [G.take o++y.cells++G.drop (o+y.cells.length)]))[id]?=H[id]?:=λid I=>by rw[getElem?_set];rw[if_neg (Ne.symm I)]
    have D:∀id,Z id->Z id/\bz (H.set (ν d).1 (.row es [G.take o++y.cells++G.drop (o+y.cells.length)])) id=bz H id:=λid D=>⟨D,by
     unfold bz;rw[J id (by rintro rfl;exact r.apart d _ B rfl D)]⟩
    refine⟨.undef,H.set (ν d).1 (.row es [G.take o++y.cells++G.drop (o+y.cells.length)]),ν,?_,?_,.v _ _ (.same _ rfl),Ev.gO r B trivial rfl J rfl Zab,Kept.gO B trivial⟩
    .simp only[fP,LN r B A au,if_true,f,getElem?_cons_zero,if_pos (And.intro p1 (And.intro p2 p3)),List.set_cons_zero]
    refine r.gO B trivial rfl J rfl ⟨es,_,?_,p4.mono D (λe _ Q E=>?_),p5⟩
    .have:=(ζe.1 f).1;rw[getElem?_set_self this]
    by_cases k:e=d
    .subst k;rw[cO]at E;cases E;exact⟨_,B,rfl,trivial⟩
    rw[d_ st.m _ (Ne.symm k)]at E;exact⟨Q,E,rfl,.refl _⟩
   simp at h
  simp at h
 grind
end
def Bd(d:Nat)(st:St):a_ St:=
 match bp st.m d with
 |some (.sl k es u)=>some {st with g:=Dg (SV.sub d (pK k es u)) st.g,m:=mapM (SV.wq d (pK k es u)) (ey d st.m)}|_=>none
def YW(st:St):Loc->a_ SV
 |.s n=>bp st.g n|.c b i=>match bp st.m b with
  |some (.box cs)=>cs[i]?|_=>none
def ghost(x:Gh)(st:St):a_ St:=
 match x with
 |.closeS l=>match YW st l with
  |some (.own d)=>Bd d st|some _=>some st|none=>none
 |.close d=>Bd d st|.closeB d=>match bp st.m d with
  |some (.box cs)=>match dI cs with
   |some u=>some {st with g:=Dg (SV.Dw d u) st.g,m:=mapM (SV.sN d u) (ey d st.m)}|none=>none
  |_=>none
 |.canon (.s n) d es=>match bp st.g n with
  |some (.v .bR)=>if st.new d then some {st with g:=bT st.g n (.own d),m:=bT st.m d (.sl .nil es [])}else none|some (.v .dP)=>if st.new d then some {st with g:=bT st.g n (.own d),m:=bT st.m d (.sl .emp es [])}else none|some (.own e)=>if e=d then some st else if st.new d then some {st with g:=AZ e d st.g,m:=wC e d st.m}else none|some (.ptr e _)=>if e=d then some st else if st.new d then some {st with g:=AZ e d st.g,m:=wC e d st.m}else none|_=>none
 |.canon (.c b i) d es=>match bp st.m b with
  |some (.box cs)=>match cs[i]?with
   |some (.v .bR)=>if st.new d then some {st with m:=bT (bT st.m d (.sl .nil es [])) b (.box (cs.set i (.own d)))}else none|some (.v .dP)=>if st.new d then some {st with m:=bT (bT st.m d (.sl .emp es [])) b (.box (cs.set i (.own d)))}else none|some (.own e)=>if e=d then some st else if st.new d then some {st with g:=AZ e d st.g,m:=wC e d st.m}else none|_=>none
  |_=>none
 |.keep gs w=>match k9 st.g gs,k9 st.m w with
  |some g,some m=>some {st with g:=g,m:=m}|_,_=>none
 |.drop ds=>some {st with g:=qK ds st.g}
section
variable{Rv:Nat->Prop}{ν ν':Nu}{Z Z':Nat->Prop}{st st':St}{m m':Tb bP}{F F':WP}{H H':bq}{N:Nat->Y'}
def OK(r:R ν Z st F H){dst:a_ Nat}{size d:Nat}{c f:X'}{bs:So}{ys:T2}{sv:SV}(D:cn ν st.m H Z (.own d::bs) ys)(h:A5 st dst size c f d bs=some (sv,st')):
 ∃y ν',br N (.slice size c f) ys=some y/\R ν' Z st' F H/\dw ν' st'.m H Z sv y/\Ev Rv ν Z st H ν' Z st' H:=by
 unfold A5 at h;obtain⟨i,j,rfl,g,S⟩:=D.inv;split at h
 .rename_i k es G ws t u T;split at h
  .rename_i hk;have⟨⟨l,n⟩,U,h⟩:=ζg.1 h;have⟨⟨a,b⟩,B,h⟩:=ζg.1 h;dsimp only at h;split at h
   .rename_i w;obtain⟨rfl,rfl⟩:=h;obtain⟨_,_,_,e,rfl⟩:=g.lu u;cases e;have I:b<=G.length/\a<=b:=by
     unfold dZ at B
     grind
    have o:=r.obj d _ u;simp[eu,hk.1]at o;have⟨rs,p,q,W,O,_⟩:=o;have z:=hk.1;have r1:R ν Z {st with m:=ey d st.m} F H:=r.less (λ_ _ h=>h) lT
    have J:¬gq ν (ey d st.m) (ν d).1:=by rintro⟨X,o2,g1,g2,g3⟩;have⟨g4,g5⟩:=pM g1;exact g4 (r.inj d X _ o2 u g5 z g2 g3.symm)
    have C:((G.take b).drop a).length=b-a:=Zad
    refine⟨.hsl (ν d).1 es ((ν d).2+a) (b-a),jJ ν t ((ν d).1,(ν d).2+a),?_,?_,?_,?_⟩
    .have L:=cn.dI S T;rw[tn hk.1];simp[br,L.mU U,iY,if_pos hk.2,B]
    .refine r1.add w (λ_=>⟨J,r.apart d _ u z⟩) ?_
     simp[eu,cT,iP];have:=(W.take b).drop a;have e:List.drop a (take b (take G.length (List.drop (ν d).2 rs)))=take (b-a) (List.drop ((ν d).2+a) rs):=by rw[List.take_take,Nat.min_eq_left I.1,List.drop_take,drop_drop]
     grind
    .refine .own _ _ λY Q=>?_
     rw[cO]at Q;cases Q;exact⟨_,_,_,rfl,by rw[C];simp[tO,iP]⟩
    exact Ev.re (st:=st) lT (nG w).1 (le_refl _) (λ_ _ _ _=>rfl) (λ_ _=>rfl) (λ_=>.inl ⟨d,_,u,z,rfl⟩)
   grind
  grind
 grind
def G6{f:SV->SV}:∀{g:Tb SV}{s:Nat},bp (Dg f g) s=(bp g s).map f
 |[],s=>rfl|(k,x)::r,s=>by simp[Dg,bp];split;rfl;exact G6
def Ao(f:So->So):bP->bP
 |.box cs=>.box (f cs)|o=>o
def GW{f:So->So}:∀{m:Tb bP}{d:Nat},bp (mapM f m) d=(bp m d).map (Ao f)
 |[],d=>rfl|(k,x)::r,d=>by cases x<;>simp[mapM,bp]<;>split<;>first|rfl|exact GW
def uN{d:Nat}{w:V}:∀{l:So}{j:Nat},(SV.wq d w l)[j]?=(l[j]?).map (SV.sub d w)
 |[],j=>by simp[SV.wq]|x::r,0=>by simp[SV.wq]|x::r,j+1=>by simp[SV.wq,uN]
def tL{d:Nat}{w:T2}:∀{l:So}{j:Nat},(SV.sN d w l)[j]?=(l[j]?).map (SV.Dw d w)
 |[],j=>by simp[SV.sN]|x::r,0=>by simp[SV.sN]|x::r,j+1=>by simp[SV.sN,tL]
def qt{d:Nat}{w:V}:∀{l:So},(SV.wq d w l).length=l.length
 |[]=>rfl|x::r=>by simp[SV.wq,qt]
def pG{d:Nat}{w:T2}:∀{l:So},(SV.sN d w l).length=l.length
 |[]=>rfl|x::r=>by simp[SV.sN,pG]
def dw.sub{sv:SV}{y:V}{d:Nat}{k:Fl}{es:Nat}{xs:T'}(l:bp m d=some (.sl k es xs))(G:FR H Z' (pK k es xs) (tO (ν d) k es xs.length))(J:∀id,Z id->Z' id)
 (U:∀e ob',bp m' e=some ob'->e≠d/\∃ob,bp m e=some ob/\sameShape ob ob')(r:dw ν m H Z sv y):dw ν m' H Z' (sv.sub d (pK k es xs)) y:=by
 have w:∀id,Z id->Z' id/\bz H id=bz H id:=λid h=>⟨J id h,rfl⟩
 have C:∀e ob',bp m' e=some ob'->∃ob,bp m e=some ob/\ν e=ν e/\sameShape ob ob':=λe ob' h=>Zac
 induction r with
 |v x y h=>exact .v x y (h.mono w)|own e y h=>
  simp[SV.sub];split
  next I=>subst I;obtain⟨_,_,_,e1,rfl⟩:=h _ l;cases e1;exact .v _ _ G
  exact(dw.own e y h).mono w λe _=>C e
 |ptr e o y h=>exact(dw.ptr e o y h).mono w λe _=>C e|el e i o y h=>exact(dw.el e i o y h).mono w λe _=>C e|mp e y h=>exact(dw.mp e y h).mono w λe _=>C e|clo f a b z L D S hva O B Q=>
  refine .clo f _ _ z L (by rw[qt];omega) (by rw[qt];omega) (λj u v c g=>?_) (λj u v c g=>?_)
  .rw[uN,ζf]at c;grind
  rw[uN,ζf]at c;grind
 |tup a z D hva B=>
  refine .tup _ z (by rw[qt];omega) (λj u v c g=>?_)
  rw[uN,ζf]at c;grind
 |agg a z D hva B=>
  refine .agg _ z (by rw[qt];omega) (λj u v c g=>?_)
  rw[uN,ζf]at c;grind
 |yl id=>exact .yl id
theorem VV {f:FuncId} {a b:aZ SV} {y:V} (r:dw ν m H Z (.clo f a b) y):dw ν m H Z (SC f a b) y:=by
 unfold SC;split
 .rename_i x z D G;cases r with|clo _ _ _ w B I J hva u=>
  have h1:=cn.dI (ν:=ν) (m:=m) (H:=H) (Z:=Z) (ys:=w) ⟨I,hva⟩ D;have C:=cn.dI (ν:=ν) (m:=m) (H:=H) (Z:=Z) (ys:=B) ⟨J,u⟩ G;exact .v _ _ (.clo f x z w B h1.1 C.1 h1.2 C.2)
 exact r
def dw.Dw{sv:SV}{y:V}{d:Nat}{cs:So}{xs:T2}(k:bp m d=some (.box cs))(U:∀o,o<=xs.length->FR H Z' (.fptr (xs.drop o)) (.hptr (ν d).1 0 o))(W:∀id,Z id->Z' id)
 (Y:∀e ob',bp m' e=some ob'->e≠d/\∃ob,bp m e=some ob/\sameShape ob ob')(r:dw ν m H Z sv y):dw ν m' H Z' (sv.Dw d xs) y:=by
 have z:∀id,Z id->Z' id/\bz H id=bz H id:=λid h=>⟨W id h,rfl⟩
 have D:∀e ob',bp m' e=some ob'->∃ob,bp m e=some ob/\ν e=ν e/\sameShape ob ob':=λe ob' h=>by have⟨_,ob,l,L⟩:=Y e ob' h;exact⟨ob,l,rfl,L⟩
 induction r with
 |v x y h=>exact .v x y (h.mono z)|own e y h=>exact(dw.own e y h).mono z λe _=>D e|ptr e o y h=>
  simp only[SV.Dw];split
  .rename_i O;subst O;obtain⟨_,e1,rfl⟩:=h _ k;split
   next Q=>exact .v _ _ (U o Q)
   exact(dw.ptr e o _ h).mono z λe _=>D e
  exact(dw.ptr e o y h).mono z λe _=>D e
 |el e i o y h=>exact(dw.el e i o y h).mono z λe _=>D e|mp e y h=>exact(dw.mp e y h).mono z λe _=>D e|clo f a b G S I T hva X B J=>
  refine VV (.clo f _ _ G S (by rw[pG];exact I) (by rw[pG];exact T) (λj u v c g=>?_) (λj u v c g=>?_))
  .rw[tL,ζf]at c;obtain⟨C,w,rfl⟩:=c;exact B j C v w g
  rw[tL,ζf]at c;obtain⟨C,w,rfl⟩:=c;exact J j C v w g
 |tup a G I hva B=>
  refine .tup _ G (by rw[pG];exact I) (λj u v c g=>?_)
  rw[tL,ζf]at c;obtain⟨C,w,rfl⟩:=c;exact B j C v w g
 |agg a G I hva B=>
  refine .agg _ G (by rw[pG];exact I) (λj u v c g=>?_)
  rw[tL,ζf]at c;obtain⟨C,w,rfl⟩:=c;exact B j C v w g
 |yl id=>exact .yl id
def eu.Ao{d:Nat}{ob:bP}{f:So->So}(D:∀id,Z id->Z' id)(U:∀l,(f l).length=l.length)
 (G:∀cs B,cn ν m H Z cs B->cn ν m' H Z' (f cs) B)(o:eu ν m H Z d ob):eu ν m' H Z' d (Ao f ob):=by
 have u:∀id,Z id->Z' id/\bz H id=bz H id:=λid h=>⟨D id h,rfl⟩
 cases ob with
 |sl k es Q=>
  simp[Go.VE.Ao,eu]at o⊢;split
  next b=>rw[if_pos b]at o;have⟨I,a,w,C,J,L⟩:=o;exact⟨I,a,w,C.mono u,J.mono u,L⟩
  grind
 |box cs=>have⟨es,B,a,w,C⟩:=o;exact⟨es,B,a,G cs B w,C⟩|mp O=>have⟨z,a,w⟩:=o;exact⟨z,a,w.mono u⟩
def yW{f:So->So}{ob:bP}:cI (Ao f ob)=cI ob:=by cases ob<;>rfl
def Nj{f:So->So}{ob:bP}:sameShape ob (Ao f ob):=by cases ob<;>simp[Ao,sameShape]
def R.shut(r:R ν Z st F H){d:Nat}{ob:bP}(t:bp st.m d=some ob){fs:SV->SV}{D:So->So}(A:∀l,(D l).length=l.length)(V:∀l(j:Nat),(D l)[j]?=(l[j]?).map fs)
 (B:∀id,Z' id↔Z id\/(cI ob=true/\id=(ν d).1))(G:cI ob=true->∃es ys,H[(ν d).1]?=some (.row es ys)/\wR H Z ys)
 (hf:∀m',(∀e ob',bp m' e=some ob'->e≠d/\∃ob,bp st.m e=some ob/\sameShape ob ob')->∀sv y,dw ν st.m H Z sv y->dw ν m' H Z' (fs sv) y):
 R ν Z' {st with g:=Dg fs st.g,m:=mapM D (ey d st.m)} F H/\Ev Rv ν Z st H ν Z' {st with g:=Dg fs st.g,m:=mapM D (ey d st.m)} H:=by
 have key:∀e ob',bp (mapM D (ey d st.m)) e=some ob'->e≠d/\∃ob,bp st.m e=some ob/\ob'=Ao D ob:=λe ob' h=>by rw[GW,ζf]at h;obtain⟨o,a,rfl⟩:=h;have⟨w,E⟩:=pM a;grind
 have L:∀e ob',bp (mapM D (ey d st.m)) e=some ob'->e≠d/\∃ob,bp st.m e=some ob/\sameShape ob ob':=λe ob' h=>by obtain⟨a,o,w,rfl⟩:=key e ob' h;exact⟨a,o,w,Nj⟩
 have K:=hf _ L;have T:∀cs C,cn ν st.m H Z cs C->cn ν (mapM D (ey d st.m)) H Z' (D cs) C:=λcs C h=>by refine⟨by rw[A];exact h.1,λj u v i hv=>?_⟩;rw[V,ζf]at i;obtain⟨M,U,rfl⟩:=i;exact K M v (h.2 j M v U hv)
 have z:=λid h=>(B id).2 (.inl h)
 refine⟨⟨λs sv S=>?_,λe ob' W=>?_,λb N o1 o2 a w J P hp=>?_,λb o1 a J=>?_,λid h=>?_,⟨λid es ys O f c hc u i=>?_⟩⟩,⟨le_refl _,λ_ _ _ _ _=>rfl,λid h=>⟨z id h,rfl⟩,?_,?_,?_,rfl⟩⟩
 .rw[G6,ζf]at S;obtain⟨Q,X,rfl⟩:=S;exact K Q _ (r.slot s Q X)
 .obtain⟨a,o,w,rfl⟩:=key e ob' W;exact eu.Ao z A T (r.obj e o w)
 .obtain⟨_,p1,k1,rfl⟩:=key b o1 a;obtain⟨_,p2,k2,rfl⟩:=key N o2 w;rw[yW]at J P;exact r.inj b N p1 p2 k1 k2 J P hp
 .obtain⟨Y,p1,k1,rfl⟩:=key b o1 a;rw[yW]at J;intro O;rcases(B _).1 O with O|⟨I,W⟩
  .exact r.apart b p1 k1 J O
  exact Y (r.inj b d p1 ob k1 t J I W)
 .rcases (B id).1 h with h|⟨I,rfl⟩
  .exact r.zrow id h
  have⟨es,ys,f,_⟩:=G I;unfold bz;rw[f];rfl
 .rcases (B id).1 O with h|⟨I,rfl⟩
  .have⟨x,q⟩:=r.deep.row id es ys h f c hc u i;exact⟨x,q.mono λk n=>⟨z k n,rfl⟩⟩
  have⟨ab,ad,aa,S⟩:=G I;unfold bz at f;rw[aa]at f;obtain⟨_,rfl⟩:=f;have⟨x,q⟩:=S c hc u i;exact⟨x,q.mono λk n=>⟨z k n,rfl⟩⟩
 .rintro id ⟨e,o,a,w,E⟩;obtain⟨_,p,k1,rfl⟩:=key e o a;rw[yW]at w;exact .inl ⟨e,p,k1,w,E⟩
 .intro id h;rcases(B id).1 h with h|⟨I,rfl⟩
  .grind
  exact .inr (.inl ⟨d,ob,t,I,rfl⟩)
 grind
def ID(r:R ν Z st F H){d:Nat}(h:Bd d st=some st'):∃Z',R ν Z' st' F H/\Ev Rv ν Z st H ν Z' st' H:=by
 simp[Bd]at h;split at h;rename_i k es w u;simp at h;subst h;have o:=r.obj d _ u;refine⟨λid=>Z id\/(cI (.sl k es w)=true/\id=(ν d).1),R.shut r u (λ_=>qt) (λ_ _=>uN) (λ_=>Iff.rfl) (λB=>?_) (λm' z G y b=>?_)⟩;have a:cT k=true:=B;simp[eu,a]at o;grind;refine dw.sub u ?_ (λid h=>.inl h) z b;by_cases a:cT k=true;simp[eu,a]at o;have⟨I,b,C,D,J,_⟩:=o;rw[tn a];have e:pK k es w=.fsl es w:=by cases k<;>simp[cT]at a<;>rfl
 rw[e];refine FR.Mq (.inr ⟨a,rfl⟩) (by unfold bz;rw[b];rfl) C (D.mono λid h=>⟨.inl h,rfl⟩);cases k<;>simp[cT]at a;exact .same _ rfl;exact .same _ rfl;grind
def O8(r:R ν Z st F H){d:Nat}(h:ghost (.closeB d) st=some st'):∃Z',R ν Z' st' F H/\Ev Rv ν Z st H ν Z' st' H:=by
 simp[ghost]at h;split at h;rename_i cs w;split at h;rename_i I J;simp at h;subst h;have⟨es,z,a,b,_⟩:=r.obj d _ w;have C:=b.dI J;have L:wR H Z [z]:=by intro c B u e;simp[List.mem_singleton]at B;subst B;have⟨j,O⟩:=mem_iff_getElem?.1 e;have Q:j<I.length:=(by rw[C.1];grind);exact⟨_,C.2 j _ u (ζd Q) O⟩
 refine⟨λid=>Z id\/(cI (.box cs)=true/\id=(ν d).1),R.shut r w (λ_=>pG) (λ_ _=>tL) (λ_=>Iff.rfl) (λS=>⟨es,_,a,L⟩) (λm' D T y G=>?_)⟩;refine dw.Dw w (λo U=>?_) (λid h=>.inl h) D G;exact FR.ES (.inr ⟨rfl,rfl⟩) (show bz H (ν d).1=some (es,[z])by unfold bz;rw[a];rfl) rfl (by rw[<-C.1];omega) ((C.drop o).mono λid h=>⟨.inl h,rfl⟩);grind;grind
def uV{d e:Nat}:∀{l:So}{j:Nat},(SV.wA d e l)[j]?=(l[j]?).map (SV.vZ d e)
 |[],j=>by simp[SV.wA]|x::r,0=>by simp[SV.wA]|x::r,j+1=>by simp[SV.wA,uV]
def qm{d e:Nat}:∀{l:So},(SV.wA d e l).length=l.length
 |[]=>rfl|x::r=>by simp[SV.wA,qm]
def Ge{d e:Nat}:∀{g:Tb SV}{s:Nat},bp (AZ d e g) s=(bp g s).map (SV.vZ d e)
 |[],s=>rfl|(k,x)::r,s=>by simp[AZ,bp];split;rfl;exact Ge
def AT{d e:Nat}(B:d≠e):∀{m:Tb bP}{k:Nat},bp m e=none->bp (wC d e m) k=(if k=d then none else(bp m (if k=e then d else k)).map (bP.vZ d e))
 |[],k,_=>by simp[wC,bp]|(n,x)::r,k,h=>by simp[bp]at h;split at h;simp_all;have D:=AT B (k:=k) h;simp[wC,bp];grind
def wW(ν:Nu)(d e:Nat):Nu:=λk=>if k=e then ν d else ν k
def dw.vZ{sv:SV}{y:V}{d e:Nat}(U:bp m e=none)(D:sv.c8 e=false)(J:d≠e)(r:dw ν m H Z sv y):dw (wW ν d e) (wC d e m) H Z (sv.vZ d e) y:=by
 have key:∀k,k≠e->∀w,bp (wC d e m) (if k=d then e else k)=some w->∃ob,bp m k=some ob/\wW ν d e (if k=d then e else k)=ν k/\w=ob.vZ d e:=λk l w h=>by rw[AT J U]at h;by_cases c:k=d;subst c;rw[if_pos rfl,if_neg (Ne.symm J),if_pos rfl,ζf]at h;obtain⟨ob,B,rfl⟩:=h;exact⟨ob,B,by unfold wW;grind,rfl⟩;rw[if_neg c,if_neg c,if_neg l,ζf]at h;obtain⟨ob,B,rfl⟩:=h;exact⟨ob,B,by unfold wW;grind,rfl⟩
 induction r with|v x y h=>exact .v x y h|own k y h=>have l:k≠e:=(by rintro rfl;simp[SV.c8]at D);refine .own _ y λw G=>?_;obtain⟨ob,c,B,rfl⟩:=key k l w G;obtain⟨_,_,_,rfl,rfl⟩:=h ob c;exact⟨_,_,_,rfl,by rw[B]⟩|ptr k o y h=>have l:k≠e:=(by rintro rfl;simp[SV.c8]at D);refine .ptr _ o y λw G=>?_;obtain⟨ob,c,B,rfl⟩:=key k l w G;obtain⟨_,rfl,rfl⟩:=h ob c;exact⟨_,rfl,by rw[B]⟩|el k i o y h=>have l:k≠e:=(by rintro rfl;simp[SV.c8]at D);refine .el _ i o y λw G=>?_;obtain⟨ob,c,B,rfl⟩:=key k l w G;obtain⟨_,_,_,rfl,S,rfl⟩:=h ob c;exact⟨_,_,_,rfl,S,by rw[B]⟩|mp k y h=>have l:k≠e:=(by rintro rfl;simp[SV.c8]at D);refine .mp _ y λw G=>?_;obtain⟨ob,c,B,rfl⟩:=key k l w G;obtain⟨_,rfl,rfl⟩:=h ob c;exact⟨_,rfl,by rw[B]⟩|clo f a b L T Q X hva W C O=>simp[SV.c8]at D;refine .clo f _ _ L T (by rw[qm];omega) (by rw[qm];omega) (λj u v g n=>?_) (λj u v g n=>?_);rw[uV,ζf]at g;obtain⟨I,z,rfl⟩:=g;exact C j I v z n (u5 D.1 z);rw[uV,ζf]at g;obtain⟨I,z,rfl⟩:=g;exact O j I v z n (u5 D.2 z)|tup a L Q hva C=>refine .tup _ L (by rw[qm];omega) (λj u v g n=>?_);rw[uV,ζf]at g;obtain⟨I,z,rfl⟩:=g;exact C j I v z n (u5 D z)|agg a L Q hva C=>refine .agg _ L (by rw[qm];omega) (λj u v g n=>?_);rw[uV,ζf]at g;obtain⟨I,z,rfl⟩:=g;exact C j I v z n (u5 D z)|yl id=>exact .yl id
def Kk(r:R ν Z st F H){d e:Nat}(B:d≠e)(Y:st.new e=true):R (wW ν d e) Z {st with g:=AZ d e st.g,m:=wC d e st.m} F H/\Ev Rv ν Z st H (wW ν d e) Z {st with g:=AZ d e st.g,m:=wC d e st.m} H:=by
 have⟨x,J,X,i⟩:=nG Y;have key:∀k w,bp (wC d e st.m) k=some w->∃k0 ob,bp st.m k0=some ob/\w=ob.vZ d e/\wW ν d e k=ν k0/\k≠d/\(k=e/\k0=d\/k≠e/\k0=k):=λk w h=>by rw[AT B J]at h;split at h;simp_all;rename_i a;rw[ζf]at h;obtain⟨ob,z,rfl⟩:=h;by_cases C:k=e;rw[if_pos C]at z;exact⟨d,ob,z,rfl,by unfold wW;grind,a,.inl ⟨C,rfl⟩⟩;rw[if_neg C]at z;exact⟨k,ob,z,rfl,by unfold wW;grind,a,.inr ⟨C,rfl⟩⟩
 have L:∀ob:bP,cI (ob.vZ d e)=cI ob:=λob=>by cases ob<;>rfl
 refine⟨⟨λs sv U=>?_,λk w c=>?_,λb l o1 o2 a z D W hp=>?_,λb o1 a D=>?_,r.zrow,r.deep⟩,⟨le_refl _,λ_ _ _ _ _=>rfl,λid h=>⟨h,rfl⟩,?_,λ_ h=>.inl h,?_,rfl⟩⟩;rw[Ge,ζf]at U;obtain⟨O,G,rfl⟩:=U;exact dw.vZ J (zK X G) B (r.slot s O G);obtain⟨k0,ob,a,rfl,z,_,_⟩:=key k w c;have o:=r.obj k0 ob a;cases ob with|sl fl es xs=>simp[bP.vZ,eu,z]at o⊢;omega|box cs=>have⟨es,Q,g1,g2,g3⟩:=o;have S:=(by have:=z8 i a;simpa[bP.c8]using this);refine⟨es,Q,Zac,⟨by rw[qm];exact g2.1,λj u v f n=>?_⟩,g3⟩;rw[uV,ζf]at f;obtain⟨p,I,rfl⟩:=f;exact dw.vZ J (u5 S I) B (g2.2 j p v I n)|mp aa=>simp[bP.vZ,eu,z]at o⊢;omega
 obtain⟨k1,p1,g1,rfl,e1,q,T⟩:=key b o1 a;obtain⟨t,p2,g2,rfl,e2,y,A⟩:=key l o2 z;rw[L]at D W;have:=r.inj k1 t p1 p2 g1 g2 D W Zac;omega;obtain⟨k1,p1,g1,rfl,e1,_⟩:=key b o1 a;rw[L]at D;rw[e1];exact r.apart k1 p1 g1 D;rintro id ⟨k,o,a,z,C⟩;obtain⟨k1,p1,g1,rfl,e1,_⟩:=key k o a;rw[L]at z;exact .inl ⟨k1,p1,g1,z,Zac⟩;intro k c w h;obtain⟨k1,p1,g1,rfl,e1,q,T⟩:=key k w h;rcases T with⟨rfl,_⟩|⟨T,rfl⟩;grind;exact⟨p1,g1,e1,by cases p1<;>simp[bP.vZ,sameShape]⟩
def R.say(r:R ν Z st F H){n:Nat}{sv:SV}(h:dw ν st.m H Z sv (get F n)):R ν Z {st with g:=bT st.g n sv} F H where
 slot:=λs x u=>by by_cases e:n=s;subst e;rw[cO]at u;grind;rw[d_ st.g sv e]at u;exact r.slot s x u
 obj:=r.obj
 inj:=r.inj
 apart:=r.apart
 zrow:=r.zrow
 deep:=r.deep
def Ox(r:R ν Z st F H){n d es:Nat}{k:Fl}{x:V}(a:pK k es []=x/\cT k=false)(D:bp st.g n=some (.v x))(B:st.new d=true)(G:∀y,FR H Z x y->y=x)(J:tO (ν d) k es 0=x):
 R (jJ ν d (ν d)) Z {st with g:=bT st.g n (.own d),m:=bT st.m d (.sl k es [])} F H/\Ev Rv ν Z st H (jJ ν d (ν d)) Z {st with g:=bT st.g n (.own d),m:=bT st.m d (.sl k es [])} H:=by
 have u:cI (.sl k es [])=true->False:=by simp[cI,a.2]
 have r1:=r.add B (p:=ν d) (λh=>(u h).elim) (by simp[eu,a.2])
 refine⟨r1.say (.own _ _ λz w=>?_),?_⟩
 .rw[cO]at w;cases w;rw[iP,G _ (r.slot n _ D).fr]
  grind
 exact(Ev.add B (le_refl _) (λ_ _ _=>rfl) (λ_ _=>rfl) (λh=>(u h).elim)).trans (Ev.slots _)
def Pr(r:R ν Z st F H){b i d es:Nat}{k:Fl}{x:V}{cs:So}(c:cT k=false)(U:bp st.m b=some (.box cs))(g:cs[i]?=some (.v x))(D:st.new d=true)(W:∀y,FR H Z x y->y=x)(Y:tO (ν d) k es 0=x):
 ∃ν',R ν' Z {st with m:=bT (bT st.m d (.sl k es [])) b (.box (cs.set i (.own d)))} F H/\Ev Rv ν Z st H ν' Z {st with m:=bT (bT st.m d (.sl k es [])) b (.box (cs.set i (.own d)))} H:=by
 have B:cI (.sl k es [])=true->False:=by simp[cI,c]
 have r1:=r.add D (p:=ν d) (λh=>(B h).elim) (by simp[eu,c])
 have C:b≠d:=by rintro rfl;rw[(nG D).2.1]at U;cases U
 have z:bp (bT st.m d (.sl k es [])) b=some (.box cs):=by rw[d_ _ _ (Ne.symm C)];omega
 have⟨G,I,l,J,Q⟩:=r1.obj b _ z;have n:∀e w,bp (bT (bT st.m d (.sl k es [])) b (.box (cs.set i (.own d)))) e=some w->∃ob,bp (bT st.m d (.sl k es [])) e=some ob/\jJ ν d (ν d) e=jJ ν d (ν d) e/\sameShape ob w:=λe w h=>by by_cases L:e=b;subst L;rw[cO]at h;cases h;exact⟨_,z,rfl,trivial⟩;rw[d_ _ _ (Ne.symm L)]at h;exact⟨w,h,rfl,.refl _⟩
 refine⟨jJ ν d (ν d),r1.gO z trivial rfl (λ_ _=>rfl) rfl ⟨G,I,l,⟨by simp[J.1],λj u v a f=>?_⟩,Q⟩,?_⟩
 .rw[getElem?_set]at a;split at a
  .rename_i e;subst e;split at a
   .cases a;refine .own _ _ λw O=>?_
    rw[d_ _ _ C,cO]at O;cases O;rw[iP,W v (J.2 i _ v g f).fr]
    grind
   grind
  exact(J.2 j u v a f).mono (λid h=>⟨h,rfl⟩) λe _=>n e
 exact(Ev.add D (le_refl _) (λ_ _ _=>rfl) (λ_ _=>rfl) (λh=>(B h).elim)).trans (Ev.gO r1 z trivial rfl (λ_ _=>rfl) rfl (le_refl _))
def SK(r:R ν Z st F H){x:Gh}(h:ghost x st=some st'):∃ν' Z',R ν' Z' st' F H/\Ev Rv ν Z st H ν' Z' st' H:=by cases x with|close d=>have⟨Z',a,b⟩:=ID (Rv:=Rv) r h;grind|closeS l=>simp[ghost]at h;split at h;have⟨Z',a,b⟩:=ID (Rv:=Rv) r h;grind;simp at h;subst h;exact⟨ν,Z,r,.refl⟩;grind|closeB d=>have⟨Z',a,b⟩:=O8 (Rv:=Rv) r h;grind|keep gs G=>simp[ghost]at h;split at h;(next g m e B=>simp at h;subst h;exact⟨ν,Z,r.less (λs D w=>rN e w) (λd ob hd=>rN B hd),Ev.less (λd ob hd=>rN B hd)⟩);grind|drop ds=>simp[ghost]at h;subst h;exact⟨ν,Z,r.less (λs D w=>pS w) (λd ob hd=>hd),Ev.less (λd ob hd=>hd)⟩|canon l d es=>cases l with|s n=>simp[ghost]at h;split at h;rename_i w;split at h;rename_i u;simp at h;have⟨a,b⟩:=Ox (Rv:=Rv) (es:=es) (k:=.nil) r ⟨rfl,rfl⟩ w u (λy h=>h.bR) rfl;grind;grind;rename_i w;split at h;rename_i u;simp at h;have⟨a,b⟩:=Ox (Rv:=Rv) (es:=es) (k:=.emp) r ⟨rfl,rfl⟩ w u (λy h=>h.dP) rfl;grind;grind;split at h;simp at h;subst h;exact⟨ν,Z,r,.refl⟩;rename_i z;split at h;rename_i u;simp at h;have⟨a,b⟩:=Kk (Rv:=Rv) r z u;grind;grind;split at h;simp at h;subst h;exact⟨ν,Z,r,.refl⟩;rename_i z;split at h;rename_i u;simp at h;have⟨a,b⟩:=Kk (Rv:=Rv) r z u;grind;grind;grind|c b i=>simp[ghost]at h;split at h;rename_i cs C;split at h;rename_i w;split at h;rename_i u;simp at h;have⟨ν',a,b⟩:=Pr (Rv:=Rv) (es:=es) (k:=.nil) r rfl C w u (λy h=>h.bR) rfl;grind;grind;rename_i w;split at h;rename_i u;simp at h;have⟨ν',a,b⟩:=Pr (Rv:=Rv) (es:=es) (k:=.emp) r rfl C w u (λy h=>h.dP) rfl;grind;grind;split at h;simp at h;subst h;exact⟨ν,Z,r,.refl⟩;rename_i z;split at h;rename_i u;simp at h;have⟨a,b⟩:=Kk (Rv:=Rv) r z u;grind;grind;grind;grind
end
structure oD(E:Env)(f:FuncId)(q:GH):Prop where
 keep:E.keep f=true
 own:E.own f=false
 le:∀es xs vs ys,q.go es xs vs=some ys->ys.length<=xs.length/\(q.part=false->ys.length=xs.length)
 none:∀es vs ys,q.go es [] vs=some ys->∀(H:bq)(Z:Nat->Prop)(ws:List V)(w:V),dB H Z vs ws->(w=.bR\/w=.dP)->∃n X,∀k,n<=k->run E k (.fn f) (w::ws) H=some (if q.part then w else .undef,H++X)
 row:∀es xs vs ys,q.go es xs vs=some ys->∀(H:bq)(Z:Nat->Prop)(ws:List V)(id off:Nat)(rs:List (List V)),dB H Z vs ws->H[id]?=some (.row es rs)->off+xs.length<=rs.length->
  gY H Z xs ((rs.drop off).take xs.length)->wR H Z rs->¬Z id->∃n rs' X,(∀k,n<=k->run E k (.fn f) (.hsl id es off xs.length::ws) H=some (if q.part then .hsl id es off ys.length else .undef,(H++X).set id (.row es rs')))/\
   rs'.length=rs.length/\gY H Z ys ((rs'.drop off).take ys.length)/\wR H Z rs'
section
variable{Rv:Nat->Prop}{ν ν':Nu}{Z Z':Nat->Prop}{st st':St}{m m':Tb bP}{F F':WP}{H H':bq}
def U_{E:Env}{f:Y'}{q:GH}(i:oD E f q)(r:R ν Z st F H){args:So}{ys:T2}(K:cn ν st.m H Z args ys){dst:a_ Nat}{sv:SV}(h:DL q dst args st=some (sv,st')):
 ∃n y H' ν',(∀k,n<=k->run E k (.fn f) ys H=some (y,H'))/\R ν' Z st' F H'/\dw ν' st'.m H' Z sv y/\Ev Rv ν Z st H ν' Z st' H'/\Kept dst ν st.m ν' st'.m:=by
 unfold DL at h;split at h
 .rename_i d vs;obtain⟨w,p,rfl,M,N⟩:=K.inv;split at h
  .rename_i k es xs zs u G;have s:=cn.dI N G;split at h
   .rename_i ns T;have⟨al,P⟩:=i.le _ _ _ _ T;obtain⟨_,_,_,ee,rfl⟩:=M.lu u;cases ee;have grow:∀X:bq,R ν Z st F (H++X)/\Ev Rv ν Z st H ν Z st (H++X)/\∀id,Z id->bz (H++X) id=bz H id:=λX=>by
     have j:∀id,id<H.length->(H++X)[id]?=H[id]?:=λid h=>getElem?_append_left h
     have G:∀id,Z id->bz (H++X) id=bz H id:=λid h=>by unfold bz;rw[j id (r.xH h)]
     exact⟨r.heap (λid h=>j id (r.lt h)) G,Ev.heap Zab (λid h _ _ _=>j id h) G,G⟩
    have o:=r.obj d _ u
    cases a:cT k with
    |false=>
     simp only[eu,a,false_eq_true,if_false]at o;subst o;have hw:tO (ν d) k es 0=.bR\/tO (ν d) k es 0=.dP:=by cases k<;>simp[tO,cT]at a⊢
     have⟨n,X,L⟩:=i.none _ _ _ T H Z p _ s hw;have⟨b,I,U⟩:=grow X;simp only[a,false_eq_true,if_false]at h;split at h
     .rename_i O;split at h
      .rename_i t;split at h
       .rename_i z;simp only[ζa,ζc]at h;obtain⟨rfl,rfl⟩:=h;have r1:R ν Z {st with m:=ey d st.m} F (H++X):=b.less (g:=st.g) (λ_ _ h=>h) lT
        rw[if_pos O]at L;refine⟨n,_,H++X,jJ ν t (ν d),L,r1.add z (λl=>by simp[cI,a]at l) (by simp[eu,a]),?_,?_,Kept.add lT⟩
        .refine .own _ _ λah W=>?_
         simp only at W;rw[cO]at W;cases W;exact⟨_,_,_,rfl,by rw[iP];rfl⟩
        exact I.trans (Ev.re (st:=st) lT (nG z).1 (le_refl _) (λ_ _ _ _=>rfl) (λ_ _=>rfl) (λl=>by simp[cI,a]at l))
       cases h
      cases h
     rename_i O;simp only[ζa,ζc]at h;obtain⟨rfl,rfl⟩:=h;rw[if_neg O]at L;have hu:bT st.m d (.sl k es [])=st.m:=rm u;rw[hu];exact⟨n,_,H++X,ν,L,b,.v _ _ (.same _ rfl),I,.refl⟩
    |true=>
     simp only[eu,a,if_true]at o;have⟨rs,v,hl,hf,ab,Q⟩:=o;have B:cI (.sl k es xs)=true:=a;have⟨n,C,X,L,e1,e2,e3⟩:=i.row _ _ _ _ T H Z p _ _ rs s v hl hf ab (r.apart d _ u B);have⟨b,I,U⟩:=grow X;have ai:(ν d).1<(H++X).length:=by have:=(ζe.1 v).1;simp;omega
     have G:∀id,Z id->Z id/\bz ((H++X).set (ν d).1 (.row es C)) id=bz H id:=λid D=>⟨D,by
      rw[<-U id D];unfold bz;rw[List.getElem?_set_ne];rintro rfl;exact r.apart d _ u B D⟩
     have x:∀id,Z id->bz ((H++X).set (ν d).1 (.row es C)) id=bz (H++X) id:=λid D=>by rw[(G id D).2,U id D]
     have c:∀id,id≠(ν d).1->((H++X).set (ν d).1 (Ob.row es C))[id]?=(H++X)[id]?:=λid aj=>List.getElem?_set_ne (Ne.symm aj)
     have J:((H++X).set (ν d).1 (Ob.row es C))[(ν d).1]?=some (.row es C):=getElem?_set_self ai;rw[tn a];simp only[a,if_true]at h;split at h
     .rename_i O;split at h
      .rename_i t;split at h
       .rename_i z;simp only[ζa,ζc]at h;obtain⟨rfl,rfl⟩:=h;have r1:R ν Z {st with m:=ey d st.m} F (H++X):=b.less (g:=st.g) (λ_ _ h=>h) lT
        have A:¬gq ν (ey d st.m) (ν d).1:=by rintro⟨k2,o2,g1,g2,g3⟩;have⟨g4,g5⟩:=pM g1;exact g4 (r.inj d k2 _ o2 u g5 B g2 g3.symm)
        have r2:R ν Z {st with m:=ey d st.m} F ((H++X).set (ν d).1 (.row es C)):=r1.heap (λid ho=>c id (by rintro rfl;exact A ho)) x
        rw[if_pos O]at L;refine⟨n,_,_,jJ ν t (ν d),L,r2.add z (λ_=>⟨A,r.apart d _ u B⟩) ?_,?_,?_,Kept.add lT⟩
        .simp only[eu,cT,if_true,iP];exact⟨C,J,Zaa,e2.mono G,e3.mono G,λe=>by cases e⟩
        .refine .own _ _ λah W=>?_
         simp only at W;rw[cO]at W;cases W;exact⟨_,_,_,rfl,by rw[iP];rfl⟩
        exact I.trans (Ev.re (st:=st) lT (nG z).1 Zab (λid _ ho _=>c id (by rintro rfl;exact ho ⟨d,_,u,B,rfl⟩)) x (λ_=>.inl ⟨d,_,u,B,rfl⟩))
       cases h
      cases h
     rename_i O;simp only[ζa,ζc]at h;obtain⟨rfl,rfl⟩:=h;rw[if_neg O]at L;have ak:q.part=false:=by simpa using O
     have S:=P ak;have Y:sameShape (.sl k es xs) (.sl k es ns):=⟨rfl,rfl,S⟩;refine⟨n,_,_,ν,L,b.gO u Y rfl c B ?_,.v _ _ (.same _ rfl),I.trans (Ev.gO b u Y rfl c B Zab),Kept.gO u Y⟩
     simp only[eu,a,if_true];exact⟨C,J,Zaa,e2.mono G,e3.mono G,λe=>⟨(Q e).1,by rw[e1,(Q e).2,S]⟩⟩
   cases h
  cases h
 cases h
end
def wm:Nat->So->Tb SV
 |_,[]=>[]|i,v::vs=>(i,v)::wm (i+1) vs
def start(svs:So)(B:dK):St:=⟨wm 0 svs,B,B.map (·.1),[],true,0⟩
def jV(S:Sys)(c:cm):Prop:=∀f u w rs z,c f u w=some (rs,z)->∀(ν:Nu)(Z:Nat->Prop)(args:T2)(H:bq),(S.E.keep f=true\/H=[])->R ν Z (start u w) args H->cn ν w H Z u args->∃n y H' ν' Z' st' F' B,run S.E n (.fn f) args H=some (y,H')/\y=result B/\st'.m=z/\cn ν' z H' Z' rs B/\R ν' Z' st' F' H'/\Ev (λ_=>False) ν Z (start u w) H ν' Z' st' H'
section
variable{Rv:Nat->Prop}{ν ν':Nu}{Z Z':Nat->Prop}{st st':St}{m m':Tb bP}{F F':WP}{H H' H1:bq}{N:Nat->Y'}
def S8{k:Fl}{es:Nat}{xs:T'}{d:Nat}(o:eu ν m H Z d (.sl k es xs)):(pK k es xs).good=true:=by
 by_cases a:cT k=true;simp only[eu,a,if_true]at o;have⟨w,_,_,u,_⟩:=o;have e:pK k es xs=.fsl es xs:=by cases k<;>simp[cT]at a<;>rfl
 rw[e];simp only[V.good];exact u.good;cases k<;>simp[cT]at a<;>rfl
mutual
def OR(D:∀d ob,bp m d=some ob->eu ν m H Z d ob):∀(n:Nat)(sv:SV)(x y:V),shut m n sv=some x->dw ν m H Z sv y->x.good=true
 |n,.v x,z,y,h,r=>by simp only[shut,ζa]at h;subst h;exact r.fr.good|n,.own d,z,y,h,r=>by simp only[shut]at h;split at h;(next k es xs B=>simp only[ζa]at h;subst h;exact S8 (D d _ B));simp at h|0,.ptr d o,z,y,h,r=>by simp[shut]at h|n+1,.ptr d o,z,y,h,r=>by simp only[shut]at h;split at h;rename_i cs B;split at h;rename_i xs U;split at h;simp only[ζa]at h;subst h;have⟨es,G,_,p,_⟩:=D d _ B;simp only[V.good];exact zI _ (om D n cs xs G U p);simp at h;simp at h;simp at h|n,.el d i o,z,y,h,r=>by cases n<;>simp[shut]at h|n,.yl id,z,y,h,r=>by cases n<;>simp[shut]at h|n,.mp d,z,y,h,r=>by simp only[shut]at h;split at h;rename_i L B;simp only[ζa]at h;subst h;have⟨w,_,e⟩:=D d _ B;simp only[V.good];refine Hr.2 λj u g=>?_;have O:j<w.length:=(by rw[<-e.1];exact(ζe.1 g).1);have⟨⟨_,c⟩,C⟩:=e.2 j u _ g (ζd O);exact⟨kL c,C.good⟩;simp at h|0,.clo f a b,z,y,h,r=>by simp[shut]at h|n+1,.clo f a b,z,y,h,r=>by simp only[shut]at h;split at h;(next Q x2 c C=>simp only[ζa]at h;subst h;obtain⟨S,T,rfl,W,X⟩:=r.lq;simp only[V.good,ζh];exact⟨om D n a Q S c W,om D n b x2 T C X⟩);simp at h|0,.tup l,z,y,h,r=>by simp[shut]at h|n+1,.tup l,z,y,h,r=>by simp only[shut]at h;obtain⟨xs,c,rfl⟩:=ζf.1 h;obtain⟨I,rfl,J⟩:=r.rX;simp only[V.good];exact om D n l xs I c J|0,.agg l,z,y,h,r=>by simp[shut]at h|n+1,.agg l,z,y,h,r=>by simp only[shut]at h;obtain⟨xs,c,rfl⟩:=ζf.1 h;obtain⟨I,rfl,J⟩:=r.jE;simp only[V.good];exact om D n l xs I c J
def om(D:∀d ob,bp m d=some ob->eu ν m H Z d ob):∀(n:Nat)(svs:So)(xs ys:T2),c_ m n svs=some xs->cn ν m H Z svs ys->V.cK xs=true
 |n,[],xs,ys,h,r=>by simp only[c_,ζa]at h;subst h;rfl|n,sv::svs,xs,ys,h,r=>by simp only[c_]at h;split at h;(next y s a G=>simp only[ζa]at h;subst h;obtain⟨J,B,rfl,r1,r2⟩:=r.inv;simp only[V.cK,ζh];exact⟨OR D n sv y J a r1,om D n svs s B G r2⟩);simp at h
end
def Jx{f:V->a_ V}:∀{xs ys:aZ (V×V)},xs.length=ys.length->(∀(j:Nat)u v,xs[j]?=some u->ys[j]?=some v->f v.1=some u.1/\f v.2=some u.2)->mW f ys=some xs
 |[],[],_,_=>rfl|[],y::ys,h,_=>by simp at h|x::xs,[],h,_=>by simp at h|(a,b)::xs,(c,d)::ys,h,B=>by have⟨e,D⟩:=B 0 _ _ rfl rfl;simp only at e D;simp only[mW,e,D,Jx (xs:=xs) (ys:=ys) (by simpa using h) λj u v g i=>B (j+1) u v (by simpa using g) (by simpa using i)]
def Jp:∀{l:aZ (V×V)}{n:Nat},V.uj n l=true↔∀(j:Nat)u,l[j]?=some u->u.1.lvl n=true/\u.2.lvl n=true
 |[],n=>by simp[V.uj]|(k,x)::l,n=>by simp only[V.uj,ζh,Jp (l:=l)];constructor;rintro⟨b,B⟩ j u a;(cases j with|zero=>simp at a;subst a;exact b|succ j=>exact B j u (by simpa using a));intro h;exact⟨h 0 (k,x) rfl,λj u a=>h (j+1) u (by simpa using a)⟩
def vG{n:Nat}{xs ys:T2}(D:jo (borrow n H1) ys=some xs)(B:V.mq ys=true):ys=xs:=by
 have w:=lQ (f:=borrow n H1) (xs:=ys) (ys:=ys) rfl λj u v a b=>by rw[a]at b;cases b;exact eC n H1 (ql.1 B j u a)
 rw[D]at w;cases w;rfl
mutual
def KK{fr:S'}(G:∀d∈fr,∀e ob,bp m e=some ob->ob.c8 d=false)(J:∀d ob,bp m d=some ob->d∉fr->eu ν m H1 Z d ob):
 ∀(n:Nat)(sv:SV)(x y:V),shut m n sv=some x->(∀d∈fr,sv.c8 d=false)->dw ν m H1 Z sv y->∀k,x.lvl k=true->borrow k H1 y=some x
 |n,.v x,z,y,h,B,r,k,hk=>by simp only[shut,ζa]at h;subst h;exact r.fr.borrow k hk|n,.own d,z,y,h,B,r,k,hk=>by simp only[shut]at h;split at h;rename_i Y es xs D;simp only[ζa]at h;subst h;obtain⟨_,_,_,e,rfl⟩:=r.lu D;cases e;have hd:d∉fr:=λhd=>(by have:=B d hd;simp[SV.c8]at this);have o:=J d _ D hd;by_cases I:cT Y=true;simp only[eu,I,if_true]at o;have⟨ys,g,E,F,_⟩:=o;rw[tn I];have e:pK Y es xs=.fsl es xs:=(by cases Y<;>simp[cT]at I<;>rfl);rw[e]at hk⊢;exact(FR.Mq (Z:=λ_=>True) trivial (show bz H1 (ν d).1=some (es,ys)by unfold bz;rw[g];rfl) E (F.mono λid h=>⟨trivial,rfl⟩)).borrow k hk;cases Y<;>simp[cT]at I;exact eC k H1 rfl;exact eC k H1 rfl;simp at h|0,.ptr d o,z,y,h,B,r,k,hk=>by simp[shut]at h|n+1,.ptr d o,z,y,h,B,r,k,hk=>by
  simp only[shut]at h;split at h;rename_i cs D;split at h;rename_i xs q;split at h;rename_i H;simp only[ζa]at h;subst h;obtain⟨_,e,rfl⟩:=r.qh D;cases e;have hd:d∉fr:=λhd=>by have:=B d hd;simp[SV.c8]at this
  have⟨es,L,g,s,_⟩:=J d _ D hd
  cases k with
  |zero=>simp[V.lvl]at hk|succ k=>
   simp only[V.lvl]at hk;have K:∀e∈fr,SV.dO e (cs.drop o)=false:=λe M=>by
    have:=G e M d _ D;simp only[bP.c8]at this
    cases N:SV.dO e (cs.drop o)with
    |false=>rfl|true=>
     exfalso;have:∀{l:So}{j:Nat},SV.dO e (l.drop j)=true->SV.dO e l=true:=by
      intro l
      induction l with
      |nil=>intro j h;simpa using h|cons a l O=>intro j h;cases j with
       |zero=>simpa using h|succ j=>simp only[SV.dO,or_eq_true];exact .inr (O (by simpa using h))
     rw[this N]at *;simp_all
   have Q:xs.length=cs.length:=by have:∀{l:So}{r:T2},c_ m n l=some r->r.length=l.length:=(by intro l;induction l with|nil=>intro r h;simp only[c_,ζa]at h;subst h;rfl|cons a l O=>intro r h;simp only[c_]at h;split at h;(next c S=>simp only[ζa]at h;subst h;simp[O S]);simp at h);exact this q
   have P:c_ m n (cs.drop o)=some (xs.drop o):=by have:∀{l:So}{r:T2}{j:Nat},c_ m n l=some r->c_ m n (l.drop j)=some (r.drop j):=(by intro l;induction l with|nil=>intro r j h;simp only[c_,ζa]at h;subst h;simp[c_]|cons a l O=>intro r j h;have R:=h;simp only[c_]at h;split at h;rename_i c S;simp only[ζa]at h;subst h;(cases j with|zero=>exact R|succ j=>exact O S);simp at h);exact this q
   have hb:=kR G J n (cs.drop o) (xs.drop o) (L.drop o) P K (s.drop o) k hk;unfold borrow;simp only[V.closed,false_eq_true,if_false,g,ζb,Ob.rows,getElem?_cons_zero,if_pos (show o<=L.length by rw[<-s.1,<-Q];exact H),hb,map_some]
  simp at h;simp at h;simp at h
 |n,.el d i o,z,y,h,B,r,k,hk=>by cases n<;>simp[shut]at h|n,.yl id,z,y,h,B,r,k,hk=>by cases n<;>simp[shut]at h|n,.mp d,z,y,h,B,r,k,hk=>by simp only[shut]at h;split at h;rename_i ae D;simp only[ζa]at h;subst h;obtain⟨_,e,rfl⟩:=r.EE D;cases e;have hd:d∉fr:=λhd=>(by have:=B d hd;simp[SV.c8]at this);have⟨T,g,U⟩:=J d _ D hd;(cases k with|zero=>simp[V.lvl]at hk|succ k=>simp only[V.lvl]at hk;unfold borrow;simp only[V.closed,false_eq_true,if_false,g];rw[Jx (xs:=ae) (ys:=T) U.1 λj u v t hv=>?_];rfl;have⟨⟨e1,e2⟩,e3⟩:=U.2 j u v t hv;exact⟨by rw[<-e1];exact eC k H1 (V.lU (kL e2)),e3.borrow k (Jp.1 hk j u t).2⟩);simp at h
 |0,.clo f a b,z,y,h,B,r,k,hk=>by simp[shut]at h|n+1,.clo f a b,z,y,h,B,r,k,hk=>by simp only[shut]at h;split at h;rename_i x1 x2 c S;simp only[ζa]at h;subst h;obtain⟨a',A,rfl,ra,rb⟩:=r.lq;(cases k with|zero=>simp[V.lvl]at hk|succ k=>simp only[V.lvl,ζh]at hk;have C:=kR G J n a x1 a' c (λd hd=>by have:=B d hd;simp only[SV.c8,or_eq_false_iff]at this;exact this.1) ra k hk.1;have W:=kR G J n b x2 A S (λd hd=>by have:=B d hd;simp only[SV.c8,or_eq_false_iff]at this;exact this.2) rb k hk.2;by_cases w:(V.clo f a' A).closed=true;rw[eC _ _ w];simp only[V.closed,ζh]at w;rw[vG C w.1,vG W w.2];unfold borrow;rw[if_neg w];simp only[C,W]);simp at h|0,.tup l,z,y,h,B,r,k,hk=>by simp[shut]at h|n+1,.tup l,z,y,h,B,r,k,hk=>by simp only[shut]at h;obtain⟨xs,c,rfl⟩:=ζf.1 h;obtain⟨X,rfl,p⟩:=r.rX;cases k with|zero=>simp[V.lvl]at hk|succ k=>simp only[V.lvl]at hk;have C:=kR G J n l xs X c (λd hd=>by have:=B d hd;simpa[SV.c8]using this) p k hk;by_cases w:(V.tup X).closed=true;rw[eC _ _ w];simp only[V.closed]at w;rw[vG C w];unfold borrow;rw[if_neg w];simp only[C,map_some]
 |0,.agg l,z,y,h,B,r,k,hk=>by simp[shut]at h|n+1,.agg l,z,y,h,B,r,k,hk=>by simp only[shut]at h;obtain⟨xs,c,rfl⟩:=ζf.1 h;obtain⟨X,rfl,p⟩:=r.jE;cases k with|zero=>simp[V.lvl]at hk|succ k=>simp only[V.lvl]at hk;have C:=kR G J n l xs X c (λd hd=>by have:=B d hd;simpa[SV.c8]using this) p k hk;by_cases w:(V.agg X).closed=true;rw[eC _ _ w];simp only[V.closed]at w;rw[vG C w];unfold borrow;rw[if_neg w];simp only[C,map_some]
def kR{fr:S'}(B:∀d∈fr,∀e ob,bp m e=some ob->ob.c8 d=false)(J:∀d ob,bp m d=some ob->d∉fr->eu ν m H1 Z d ob):
 ∀(n:Nat)(svs:So)(xs ys:T2),c_ m n svs=some xs->(∀d∈fr,SV.dO d svs=false)->cn ν m H1 Z svs ys->∀k,V.mJ k xs=true->jo (borrow k H1) ys=some xs
 |n,[],xs,ys,h,D,r,k,hk=>by simp only[c_,ζa]at h;subst h;rw[r.dc];rfl|n,sv::svs,xs,ys,h,D,r,k,hk=>by simp only[c_]at h;split at h;rename_i y s a U;simp only[ζa]at h;subst h;obtain⟨W,G,rfl,r1,r2⟩:=r.inv;simp only[V.mJ,ζh]at hk;have u:=KK B J n sv y W a (λd hd=>by have:=D d hd;simp only[SV.dO,or_eq_false_iff]at this;exact this.1) r1 k hk.1;have w:=kR B J n svs s G U (λd hd=>by have:=D d hd;simp only[SV.dO,or_eq_false_iff]at this;exact this.2) r2 k hk.2;simp only[jo,u,w];simp at h
end
end
def RG(n:Nat):V.mJ n []=true:=by cases n<;>rfl
def O6(n:Nat)(x:V)(r:T2):V.mJ n (x::r)=(V.lvl n x&&V.mJ n r):=by cases n<;>rfl
mutual
def Fa:∀{n:Nat}{x:V},V.lvl n x=true->V.lvl (n+1) x=true
 |0,.fsl ..,h=>by simp[V.lvl]at h|0,.fptr ..,h=>by simp[V.lvl]at h|0,.fmap ..,h=>by simp[V.lvl]at h|0,.agg ..,h=>by simp[V.lvl]at h|0,.tup ..,h=>by simp[V.lvl]at h|0,.clo ..,h=>by simp[V.lvl]at h|n+1,.fsl es xs,h=>by simp only[V.lvl]at h⊢;exact DW h|n+1,.fptr cs,h=>by simp only[V.lvl]at h⊢;exact tD h|n+1,.fmap B,h=>by simp only[V.lvl]at h⊢;exact FE h|n+1,.agg cs,h=>by simp only[V.lvl]at h⊢;exact tD h|n+1,.tup cs,h=>by simp only[V.lvl]at h⊢;exact tD h|n+1,.clo f a b,h=>by simp only[V.lvl,ζh]at h⊢;exact⟨tD h.1,tD h.2⟩|0,.bool _,_|0,.int ..,_|0,.str _,_|0,.jc,_|0,.iB,_|0,.tw,_|0,.dP,_|0,.bR,_|0,.hsl ..,_|0,.hptr ..,_|0,.yld _,_|0,.hmap _,_=>rfl|_+1,.bool _,_|_+1,.int ..,_|_+1,.str _,_|_+1,.jc,_|_+1,.iB,_|_+1,.tw,_|_+1,.dP,_|_+1,.bR,_|_+1,.hsl ..,_|_+1,.hptr ..,_|_+1,.yld _,_|_+1,.hmap _,_=>rfl
def tD:∀{n:Nat}{x:T2},V.mJ n x=true->V.mJ (n+1) x=true
 |n,[],_=>RG _|n,a::l,h=>by rw[O6,ζh]at h⊢;exact⟨Fa h.1,tD h.2⟩
def DW:∀{n:Nat}{x:T'},V.qC n x=true->V.qC (n+1) x=true
 |n,[],_=>by simp only[V.qC]|n,a::l,h=>by simp only[V.qC,ζh]at h⊢;exact⟨tD h.1,DW h.2⟩
def FE:∀{n:Nat}{x:aZ (V×V)},V.uj n x=true->V.uj (n+1) x=true
 |n,[],_=>by simp only[V.uj]|n,(k,v)::l,h=>by simp only[V.uj,ζh]at h⊢;exact⟨⟨Fa h.1.1,Fa h.1.2⟩,FE h.2⟩
end
def zi{n m:Nat}(h:n<=m){x:V}(B:V.lvl n x=true):V.lvl m x=true:=by induction h with|refl=>exact B|step _ u=>exact Fa u
def qi{n m:Nat}(h:n<=m){x:T2}(B:V.mJ n x=true):V.mJ m x=true:=by induction h with|refl=>exact B|step _ u=>exact tD u
def Sf{n m:Nat}(h:n<=m){x:T'}(B:V.qC n x=true):V.qC m x=true:=by induction h with|refl=>exact B|step _ u=>exact DW u
def UC{n m:Nat}(h:n<=m){x:aZ (V×V)}(B:V.uj n x=true):V.uj m x=true:=by induction h with|refl=>exact B|step _ u=>exact FE u
mutual
def Bx:∀x:V,∃n,V.lvl n x=true
 |.fsl es xs=>let⟨n,h⟩:=JD xs;⟨n+1,by simp only[V.lvl];exact h⟩|.fptr cs=>let⟨n,h⟩:=nu cs;⟨n+1,by simp only[V.lvl];exact h⟩|.fmap u=>let⟨n,h⟩:=L_ u;⟨n+1,by simp only[V.lvl];exact h⟩|.agg cs=>let⟨n,h⟩:=nu cs;⟨n+1,by simp only[V.lvl];exact h⟩|.tup cs=>let⟨n,h⟩:=nu cs;⟨n+1,by simp only[V.lvl];exact h⟩|.clo f a b=>let⟨n,h⟩:=nu a;let⟨m,k⟩:=nu b;⟨max n m+1,by simp only[V.lvl,ζh];exact⟨qi (le_max_left _ _) h,qi (le_max_right _ _) k⟩⟩|.bool _|.int ..|.str _|.jc|.iB|.tw|.dP|.bR|.hsl ..|.hptr ..|.yld _|.hmap _=>⟨0,rfl⟩
def nu:∀x:T2,∃n,V.mJ n x=true
 |[]=>⟨0,by simp only[V.mJ]⟩|a::l=>let⟨n,h⟩:=Bx a;let⟨m,k⟩:=nu l;⟨max n m,by simp only[V.mJ,ζh];exact⟨zi (le_max_left _ _) h,qi (le_max_right _ _) k⟩⟩
def JD:∀x:T',∃n,V.qC n x=true
 |[]=>⟨0,by simp only[V.qC]⟩|a::l=>let⟨n,h⟩:=nu a;let⟨m,k⟩:=JD l;⟨max n m,by simp only[V.qC,ζh];exact⟨qi (le_max_left _ _) h,Sf (le_max_right _ _) k⟩⟩
def L_:∀x:aZ (V×V),∃n,V.uj n x=true
 |[]=>⟨0,by simp only[V.uj]⟩|(a,b)::l=>let⟨n,h⟩:=Bx a;let⟨m,k⟩:=Bx b;let⟨q,p⟩:=L_ l;⟨max n (max m q),by simp only[V.uj,ζh];exact⟨⟨zi Zaa h,zi Zaa k⟩,UC Zaa p⟩⟩
end
def ku(E:Env)(call:dL)(ops:Rd)(place:a_ (Nat×Nat))(f:Y')(args:T2)(H:bq):a_ (V×bq):=
 if mN E ops place f then
  match place with
  |none=>fF E call f args H|some (_,i)=>if dN ops i then fF E call f args H else none
 else match place with
  |none=>match cu call f args H with
   |some y=>some (y,if y.scalar then H else cQ H (c6 (cw call.lv H) args))|none=>none
  |some (b,i)=>match cu call f args (H.take b)with
   |some y=>if y.scalar then some (y,H)else if jN (H.take b) (c6 (cw call.lv (H.take b)) args)then some (y,cQ H (c6 (cw call.lv (H.take b)) args))else none|none=>if dN ops i then match cu call f args H with
    |some y=>some (y,if y.scalar then H else cQ H (c6 (cw call.lv H) args))|none=>none
    else none
section
variable{Rv:Nat->Prop}{ν ν':Nu}{Z Z':Nat->Prop}{st st':St}{m m':Tb bP}{F F':WP}{H H' H1:bq}{N:Nat->Y'}{S:Sys}{c:cm}
def IM:∀(l:So)(i s:Nat)(sv:SV),bp (wm i l) s=some sv->∃j,s=i+j/\l[j]?=some sv
 |[],i,s,sv,h=>by simp[wm,bp]at h|x::l,i,s,sv,h=>by simp only[wm,bp]at h;split at h;(next e=>simp only[ζa]at h;subst h;exact⟨0,Zaa,rfl⟩);have⟨j,a,B⟩:=IM l (i+1) s sv h;exact⟨j+1,Zaa,by simpa using B⟩
def yQ{svs:So}{args:T2}(h:cn ν m H Z svs args):∀s sv,bp (wm 0 svs) s=some sv->dw ν m H Z sv (get args s):=λs sv u=>by obtain⟨j,rfl,w⟩:=IM svs 0 s sv u;have⟨y,z,r⟩:=h.get w;rw[Nat.zero_add,Im args j y z];exact r
def yp{az:T2}(a:V.cK az=true):R (λ_=>(0,0)) (λ_=>False) (start (az.map .v) []) az []/\cn (λ_=>(0,0)) [] [] (λ_=>False) (az.map .v) az:=by have h:cn (λ_=>(0,0)) [] [] (λ_=>False) (az.map .v) az:=cn.sS (dB.same a);refine⟨⟨yQ h,λd ob hd=>by simp[start,bp]at hd,λd w ob u hd=>by simp[start,bp]at hd,λd ob hd=>by simp[start,bp]at hd,λid h=>h.elim,⟨λid es z h=>h.elim⟩⟩,h⟩
def HU{xs ys:T2}(h:dB H Z xs ys):((result xs).scalar=true->result ys=result xs)/\(result ys).scalar=(result xs).scalar:=by cases xs with|nil=>rw[h.dc];exact⟨λ_=>rfl,rfl⟩|cons x xs=>obtain⟨y,ys,rfl,a,u⟩:=h.inv;cases xs with|nil=>rw[u.dc];exact a.scalar|cons x2 xs=>obtain⟨w,ys,rfl,z,B⟩:=u.inv;exact FR.scalar (.tup _ _ h.1 h.2)
def Dj(g:jV S c){f:Y'}{az ys:T2}{rs:So}{m':dK}(i:V.cK az=true)(h:c f (az.map .v) []=some (rs,m'))(J:c_ m' 8 rs=some ys):
 ∃n r H2,(∀k,n<=k->run S.E k (.fn f) az []=some (r,H2))/\(∀k,n<=k->borrow k H2 r=some (result ys))/\(result ys).good=true:=by
 have⟨W,r1⟩:=yp i;obtain⟨n,y,H2,ν',Z',st',F',B,m,rfl,X,O,Q,_⟩:=g f _ _ _ _ h _ _ az [] (.inr rfl) W r1;subst X;have C:=om Q.obj 8 rs ys B J O;have⟨L,T⟩:=nu ys;refine⟨max n (L+1),result B,H2,λk e=>(pg S.E (le_trans (le_max_left ..) e)).go _ _ _ _ m,λk e=>?_,?_⟩
 .have w:=kR (fr:=[]) (λd hd=>by simp at hd) (λd ob hd _=>Q.obj d ob hd) 8 rs _ _ J (λd hd=>by simp at hd) O
  obtain⟨k,rfl⟩:∃j,k=j+1:=⟨k-1,Zaa⟩
  have U:=w k (qi Zaa T)
  have Y:=w (k+1) (qi Zaa T)
  have⟨e1,e2⟩:=jR Y
  cases B with
  |nil=>obtain rfl:=List.eq_nil_of_length_eq_zero e1;exact eC _ H2 rfl|cons z B=>
   cases B with
   |nil=>
    obtain⟨y,rfl⟩:∃y,ys=[y]:=by cases ys with|nil=>simp at e1|cons y l=>cases l with|nil=>exact⟨y,rfl⟩|cons _ _=>simp at e1
    have⟨x,Z,G⟩:=e2 0 y rfl;cases Z;exact G
   |cons z2 B=>
    obtain⟨y,D,l,rfl⟩:∃y D l,ys=y::D::l:=by cases ys with|nil=>simp at e1|cons y l=>cases l with|nil=>simp at e1|cons D l=>exact⟨y,D,l,rfl⟩
    by_cases u:(V.tup (z::z2::B)).closed=true
    .simp only[result];rw[eC _ _ u];simp only[V.closed]at u;rw[vG U u]
    simp only[result];unfold borrow;rw[if_neg u];simp only[U,map_some]
 have:∀{l:T2},V.cK l=true->(result l).good=true:=by
  intro l I
  cases l with
  |nil=>rfl|cons a l=>cases l with
   |nil=>simp only[V.cK,ζh]at I;exact I.1|cons b l=>simp only[result,V.good];exact I
 exact this C
def Ft{f:Y'}{args az:T2}{y r:V}{H2:bq}{n:Nat}(a:∀k,n<=k->run S.E k (.fn f) az []=some (r,H2))(D:∀k,n<=k->borrow k H2 r=some y)(b:y.good=true){B:Nat}(G:∀k,B<=k->borrows k H args=some az):
 ∀k,max n B<=k->cu (run S.E k) f args H=some y:=λk c=>by
 unfold cu;simp only[pE,G k Zaa,a k Zaa,D k Zaa,V.lU b,if_true]
def sQ(B:∀id,Z id->(bz H id).isSome=true){T:S'}{id:Nat}(h:Z id):bz (cQ H T) id=bz H id:=by
 have:=B id h;unfold bz at this⊢;rw[jG];cases u:H[id]?with|none=>rw[u]at this;simp at this|some ob=>
  rw[u]at this;simp only[map_some,ζb];by_cases e:id∈T
  .rw[if_pos e];cases ob<;>first|rfl|simp[Ob.rows]at this
  rw[if_neg e]
def vi{T:S'}{id:Nat}(h:id∉T):(cQ H T)[id]?=H[id]?:=by rw[jG];cases H[id]?<;>simp[h]
end
section
variable{Rv:Nat->Prop}{ν ν':Nu}{Z Z':Nat->Prop}{st st':St}{m m':Tb bP}{F F':WP}{H H' H1:bq}{N:Nat->Y'}{S:Sys}{c:cm}
def A4{az:T2}{args:So}{ys:T2}(B:∀d ob,bp m d=some ob->eu ν m H Z d ob)(h:c_ m 8 args=some az)(r:cn ν m H Z args ys):V.cK az=true:=om B 8 args az ys h r
def yO{az:T2}{args:So}{ys:T2}(r:R ν Z st F H)(B:cn ν st.m H Z args ys)(h:c_ st.m 8 args=some az):∃n,∀k,n<=k->borrows k H ys=some az:=
 let⟨n,u⟩:=nu az
 ⟨n,λk a=>kR (fr:=[]) (λd hd=>Zad) (λd ob hd _=>r.obj d ob hd) 8 args az ys h (λd hd=>Zad) B k (qi a u)⟩
def oI{b id:Nat}(h:id<b):bz (H.take b) id=bz H id:=by unfold bz;grind
def M8{b:Nat}{fr:S'}{az:T2}{args:So}{ys:T2}(r:R ν Z st F H)(B:cn ν st.m H Z args ys)(h:c_ st.m 8 args=some az)
 (G:∀d ob,bp st.m d=some ob->cI ob=true->d∉fr->(ν d).1<b)(D:∀id,Z id->id<b)(a:f_ st.m fr args=true):∃n,∀k,n<=k->borrows k (H.take b) ys=some az:=by
 have⟨n,w⟩:=nu az;refine⟨n,λk f=>?_⟩
 unfold f_ at a;have c:∀d∈fr,SV.dO d args=false/\uv d st.m=false:=λd hd=>by grind
 have u:∀id,Z id->Z id/\bz (H.take b) id=bz H id:=λid h=>⟨h,oI (D id h)⟩
 refine kR (λd hd e ob z=>z8 (c d hd).2 z) (λd ob hd C=>?_) 8 args az ys h (λd hd=>(c d hd).1) (B.mono u λe _=>jO ν st.m e) k (qi f w)
 exact eu.mono u rfl (λI=>Zac) (λe _=>jO ν st.m e) (r.obj d ob hd)
def LQ(hS:jV S c){ops:Rd}{place:a_ (Nat×Nat)}{dr nw:X'}{fr:S'}(ae:dr=place.isSome)(ab:∀b i,place=some (b,i)->nw=true->dN ops i=true)
 (m:∀b i,place=some (b,i)->(∀d ob,bp st.m d=some ob->cI ob=true->d∉fr->(ν d).1<b)/\∀id,Z id->id<b)
 (r:R ν Z st F H){args:So}{ys:T2}(o:cn ν st.m H Z args ys){f:Y'}(e:mN S.E ops place f=false){az:T2}(K:c_ st.m 8 args=some az)(a:(!dr||nw)=true\/f_ st.m fr args=true)
 {rs:So}{m':dK}{J:T2}(M:c f (az.map .v) []=some (rs,m'))(l:c_ m' 8 rs=some J)(U:(result J).scalar=true\/(dI args).isSome=true):
 ∃n H',(∀k,n<=k->ku S.E (run S.E k) ops place f ys H=some (result J,H'))/\R ν Z st F H'/\dw ν st.m H' Z (.v (result J)) (result J)/\Ev Rv ν Z st H ν Z st H':=by
 have hg:=A4 r.obj K o;have⟨N,rr,H2,p,h2,P⟩:=Dj hS hg M l;have⟨n2,hb⟩:=yO r o K;have I:=Ft p h2 P hb;generalize hn:max N n2=n at I;have C:=I;have Q:∀k,n<=k->c6 (cw k H) ys=c6 (cw n H) ys:=λk e=>zJ e (hb n Zaa)
 have G:∀{H'},dw ν st.m H' Z (.v (result J)) (result J):=.v _ _ (.same _ P);have D:∀T:S',(∀id∈T,Z id)->R ν Z st F (cQ H T)/\Ev Rv ν Z st H ν Z st (cQ H T):=λT X=>
  ⟨r.heap (λid ho=>vi λz=>by obtain⟨d,ob,g1,g2,rfl⟩:=ho;exact r.apart d ob g1 g2 (X _ z)) (λid z=>sQ r.zrow z),
   Ev.heap (by rw[lp];grind) (λid _ _ l _=>vi λz=>l (X id z)) (λid z=>sQ r.zrow z)⟩
 have L:(dI args).isSome=true->(∀id∈c6 (cw n H) ys,Z id)/\True:=λY=>by
  have⟨xs,Y⟩:=isSome_iff_exists.1 Y;have q:=o.dI Y;exact⟨λid z=>by
   have⟨j,u,s,aa⟩:=qR z;have hj:j<xs.length:=by rw[q.1];grind
   exact FR.cw r.deep n (q.2 j _ u (ζd hj) s) id aa,trivial⟩
 cases place with
 |none=>
  by_cases w:(result J).scalar=true
  .exact⟨n,H,λk B=>by simp[ku,e,C k B,w],r,G,.refl⟩
  obtain⟨X,-⟩:=L (U.resolve_left w);have⟨t,v⟩:=D _ X;exact⟨n,cQ H (c6 (cw n H) ys),λk B=>by simp[ku,e,C k B,w,pE,Q k B],t,G,v⟩
 |some bi=>
  have⟨b,i⟩:=bi;have⟨o1,o2⟩:=m b i rfl;have ah:=ae;have g:∀k,cu (run S.E k) f ys (H.take b)=some (result J)->(result J).scalar=false->jN (H.take b) (c6 (cw k (H.take b)) ys)=true/\c6 (cw k H) ys=c6 (cw k (H.take b)) ys:=λk _ ai=>by have⟨xs,Y⟩:=isSome_iff_exists.1 (U.resolve_left Zac);have q:=o.dI Y;have W:∀id,Z id->Z id/\bz (H.take b) id=bz H id:=λid h=>⟨h,oI (o2 id h)⟩;have hd:Deep (H.take b) Z:=⟨λid es ys l hr c M u s=>by rw[(W id l).2]at hr;have⟨x,Y⟩:=r.deep.row id es ys l hr c M u s;exact⟨x,Y.mono W⟩⟩;have hZ:∀id∈c6 (cw k (H.take b)) ys,Z id:=λid z=>(by have⟨j,u,s,aa⟩:=qR z;have hj:j<xs.length:=(by rw[q.1];grind);exact FR.cw hd k ((q.2 j _ u (ζd hj) s).mono W) id aa);refine⟨?_,vm _ λid z=>o2 id (hZ id z)⟩;unfold jN;rw[all_eq_true];intro id z;have p:=r.zrow id (hZ id z);rw[<-(W id (hZ id z)).2]at p;exact p
  rcases a with a|a
  .have ad:=ab b i rfl Zac
   by_cases w:(result J).scalar=true
   .refine⟨n,H,λk B=>?_,r,G,.refl⟩
    simp[ku,e];split
    next y E=>have:=ru E;rw[C k B]at this;cases this;simp[w]
    simp[ad,C k B,w]
   obtain⟨X,-⟩:=L (U.resolve_left w);have⟨t,v⟩:=D _ X;refine⟨n,cQ H (c6 (cw n H) ys),λk B=>?_,t,G,v⟩
   simp only[ku,e,pE,false_eq_true,if_false];split
   .rename_i y E;have A:=ru E;rw[C k B]at A;cases A;have⟨f1,f2⟩:=g k E (by simpa using w)
    rw[if_neg w,if_pos f1,<-f2,Q k B]
   simp only[ad,if_true,C k B];rw[if_neg w,Q k B]
  have⟨n3,af⟩:=M8 r o K o1 o2 a;have O:=Ft p h2 P af
  by_cases w:(result J).scalar=true
  .refine⟨max N n3,H,λk B=>?_,r,G,.refl⟩
   simp[ku,e];have:=O k B;simp[this,w]
  obtain⟨X,-⟩:=L (U.resolve_left w);have⟨t,v⟩:=D _ X;refine⟨max n (max N n3),cQ H (c6 (cw n H) ys),λk B=>?_,t,G,v⟩
  simp only[ku,e,pE,false_eq_true,if_false];have A:=O k Zaa
  have⟨f1,f2⟩:=g k A (by simpa using w)
  simp only[A];rw[if_neg w,if_pos f1,<-f2,Q k Zaa]
def GF{α:Type}{k:Nat}{v:α}:∀{ds:S'}{g:Tb α},bp (qK ds g) k=some v->k∉ds
 |[],_,_=>Zab|d::ds,g,h=>by have a:=GF (ds:=ds) h;have u:=(pM (pS h)).1;grind
def AA:∀{args:So}{ds:S'},rowsOf args=some ds->∀(j:Nat)u,args[j]?=some u->(∃x,u=.v x)\/∃d,u=.own d/\d∈ds
 |[],_,_,j,u,hu=>Zad|.v x::r,ds,h,j,u,hu=>by cases j with|zero=>grind|succ j=>exact AA (by simpa[rowsOf]using h) j u Zac
 |.own d::r,ds,h,j,u,hu=>by obtain⟨es,a,rfl⟩:=ζf.1 h;cases j with|zero=>grind|succ j=>rcases AA a j u Zac with k|⟨w,k1,z⟩;grind;grind
 |.ptr ..::_,_,h,_,_,_|.el ..::_,_,h,_,_,_|.mp _::_,_,h,_,_,_|.clo ..::_,_,h,_,_,_|.tup _::_,_,h,_,_,_|.agg _::_,_,h,_,_,_|.yl _::_,_,h,_,_,_=>by simp[rowsOf]at h
def xL:∀{args:So}{ds:S'}{n:Nat}{az:T2},rowsOf args=some ds->c_ m n args=some az->∀d∈ds,∃ob,bp m d=some ob
 |[],ds,_,_,h,_,d,hd=>by simp[rowsOf]at h;grind|x::r,ds,n,az,h,B,d,hd=>by
  simp[c_]at B;split at B;rotate_left;cases B;rename_i y s a D
  cases x with
  |v x=>exact xL (by simpa[rowsOf]using h) D d hd|own e=>obtain⟨es,g1,rfl⟩:=ζf.1 h;rcases mem_cons.1 hd with rfl|hd;cases n<;>(simp[shut]at a;grind);exact xL g1 D d hd
  |_=>simp[rowsOf]at h
def C1{H0:bq}(hd:Deep H0 Z)(W:∀d ob,bp m d=some ob->cI ob=true->(H0[(ν d).1]?).isSome=true->eu ν m H0 Z d ob){args:So}{ys:T2}(U:cn ν m H0 Z args ys){ds:S'}(f:rowsOf args=some ds)
 (J:∀d∈ds,∃ob,bp m d=some ob){q id:Nat}(h:id∈c6 (cw q H0) ys):Z id\/∃d ob,d∈ds/\bp m d=some ob/\cI ob=true/\(ν d).1=id/\∃j es off len:Nat,ys[j]?=some (V.hsl id es off len):=by
 have⟨j,y,T,a⟩:=qR h;have X:j<args.length:=by rw[U.1];grind
 have b:=ζd X;have D:=U.2 j _ y b T;rcases AA f j _ b with⟨x,e⟩|⟨d,e,I⟩
 .rw[e]at D;cases D with|v _ _ Y=>exact .inl (FR.cw hd q Y id a)
 rw[e]at D;have⟨ob,C⟩:=J d I;obtain⟨k,es,G,rfl,rfl⟩:=D.lu C
 by_cases w:cT k=true
 .cases q with
  |zero=>simp[cw]at a|succ q=>
  have L:tO (ν d) k es G.length=.hsl (ν d).1 es (ν d).2 G.length:=by cases k<;>first|rfl|cases w
  rw[L]at a;have g:cI (.sl k es G)=true:=w
  by_cases z:(H0[(ν d).1]?).isSome=true
  .have o:=W d _ C g z;simp[eu,w]at o;have⟨s,l,_,_,n,_⟩:=o;simp only[cw,V.closed,false_eq_true,if_false,l,mem_cons]at a;rcases a with rfl|a
   .grind
   have⟨i,u,b,O⟩:=qR a;have⟨c,p,Q⟩:=List.mem_flatten.1 (mem_of_getElem? b);have⟨x,r⟩:=n c (mem_of_mem_drop (List.mem_of_mem_take p)) u Q;exact .inl (FR.cw hd q r id O)
  have B:H0[(ν d).1]?=none:=Zac
  simp[cw,V.closed,B]at a
  grind
 have S:(tO (ν d) k es G.length).closed=true:=by cases k<;>first|rfl|(exact absurd rfl w)
 rw[JW q H0 S]at a;cases a
theorem Wc (hS:jV S c) {ops:aZ Oper} {place:a_ (Nat×Nat)} {nw:Bool} (W:∀b i,place=some (b,i)->nw=true->dN ops i=true)
 (hold:∀b i,place=some (b,i)->∀id,Z id->id<b)
 (r:R ν Z st F H) {args:aZ SV} {ys:aZ V} (ha:cn ν st.m H Z args ys) {f:FuncId} (hk:S.E.keep f=false) {az:aZ V} (hs:c_ st.m 8 args=some az) (ad:(!place.isSome||nw)=true)
 {rs:aZ SV} {m':dK} {J:aZ V} (hc:c f (az.map .v) []=some (rs,m')) (Y:c_ m' 8 rs=some J) (U:(result J).scalar=false) {ds:aZ Nat} (hr:rowsOf args=some ds) (aa:∀d∈ds,∃ob,bp st.m d=some ob) :
 ∃n H',(∀k,n<=k->ku S.E (run S.E k) ops place f ys H=some (result J,H'))/\R ν Z { st with m:=qK ds st.m } F H'/\dw ν (qK ds st.m) H' Z (.v (result J)) (result J)/\Ev Rv ν Z st H ν Z { st with m:=qK ds st.m } H':=by
 have hg:=A4 r.obj hs ha;obtain⟨n1,rr,H2,h1,h2,h3⟩:=Dj hS hg hc Y;obtain⟨n2,hb⟩:=yO r ha hs;have C:=Ft h1 h2 h3 hb;generalize hn:max n1 n2=n at C;have D:=C;have L:∀k,n<=k->c6 (cw k H) ys=c6 (cw n H) ys:=λk hk=>zJ hk (hb n Zaa)
 have T:∀{H'},dw ν (qK ds st.m) H' Z (.v (result J)) (result J):=.v _ _ (.same _ h3);have B:∀d ob,bp (qK ds st.m) d=some ob->bp st.m d=some ob:=λd ob h=>pS h
 have hT:∀id∈c6 (cw n H) ys,Z id\/∃d ob,d∈ds/\bp st.m d=some ob/\cI ob=true/\(ν d).1=id/\∃j es off len:Nat,ys[j]? = some (V.hsl id es off len):=λid w=>C1 r.deep (λd ob h _ _=>r.obj d ob h) ha hr aa w
 have r2  := r.less (λ_ _ h=>h) B
 have q1  := r2.heap (λid X=>vi λw=>by
  obtain⟨d,ob,g1,g2,rfl⟩:=X;rcases hT _ w with h|⟨d',O,k1,k2,k3,k4,_⟩
  .exact r.apart d ob (B d ob g1) g2 h
  have:=r.inj d' d O ob k2 (B d ob g1) k3 g2 k4;subst this;exact GF g1 k1) (λid w=>sQ r.zrow w)
 have q2:Ev Rv ν Z st H ν Z { st with m:=qK ds st.m } (cQ H (c6 (cw n H) ys)):=(Ev.heap (by rw[lp];grind) (λid _ X Y _=>vi λw=>by
  rcases hT _ w with h|⟨d',O,k1,k2,k3,k4,_⟩
  .simp_all
  exact X ⟨d',O,k2,k3,k4⟩) (λid w=>sQ r.zrow w)).trans (Ev.less  B)
 cases place with
 | none=>exact⟨n,cQ H (c6 (cw n H) ys),λk z=>by simp[ku,mN,hk,D k z,U,pE,L k z],q1,T,q2⟩
 | some bi=>
  obtain⟨b,i⟩:=bi;have o2:=hold b i rfl;have fits:∀k,cu (run S.E k) f ys (H.take b)=some (result J)->jN (H.take b) (c6 (cw k (H.take b)) ys)=true/\c6 (cw k H) ys=c6 (cw k (H.take b)) ys:=λk hi=>by
   have G:∀id,Z id->Z id/\bz (H.take b) id=bz H id:=λid h=>⟨h,oI (o2 id h)⟩
   have hd:Deep (H.take b) Z:=⟨λid es ys Y hr c hc u hu=>by
    rw[(G id Y).2]at hr;obtain⟨x,hx⟩:=r.deep.row id es ys Y hr c hc u hu;exact⟨x,hx.mono G⟩⟩
   have ae  := ha.mono G λe _=>jO ν st.m e
   have af:∀d ob,bp st.m d=some ob->cI ob=true->((H.take b)[(ν d).1]?).isSome=true->eu ν st.m (H.take b) Z d ob:=λd ob h hb ah=>
    eu.mono G rfl (λ_=>by
     grind) (λe _=>jO ν st.m e) (r.obj d ob h)
   have ab:∀(j:Nat) (y:V),ys[j]? = some y->(borrow k (H.take b) y).isSome=true:=λj y Q=>by
    unfold cu at hi;rw[pE]at hi;split at hi
    .rename_i ai aj;obtain⟨_,hm⟩:=jR aj;have hj:=(ζe.1 Q).1;obtain⟨x,al,am⟩:=hm j _ (ζd (show j<ai.length by omega))
     grind
    cases hi
   have hZ:∀id∈c6 (cw k (H.take b)) ys,id<b/\(bz (H.take b) id).isSome=true:=λid w=>by
    rcases C1 hd af ae hr aa w with h|⟨d,ob,k1,k2,k3,k4,j,es,off,len,Q⟩
    .have:=r.zrow id h
     grind
    have I:=ab j _ Q
    cases k with
    | zero=>simp[borrow,V.closed]at I
    | succ k=>
    simp only[borrow,V.closed,Bool.false_eq_true,if_false]at I;split at I
    next an xs hx=>obtain⟨o,X,_⟩:=ζg.1 hx;have:=(ζe.1 X).1;rw[List.length_take]at this;exact⟨by omega,by unfold bz;rw[hx];rfl⟩
    cases I
   refine⟨?_,vm _ λid w=>(hZ id w).1⟩
   unfold jN;rw[List.all_eq_true];exact λid w=>(hZ id w).2
  refine⟨n,cQ H (c6 (cw n H) ys),λk z=>?_,q1,T,q2⟩
  simp only[ku,mN,hk,pE,Bool.false_and,Bool.false_eq_true,if_false];split
  next y Q=>have h9:=ru Q;rw[D k z]at h9;cases h9;obtain⟨f1,f2⟩:=fits k Q;rw[if_neg (by rw[U];simp),if_pos f1,<-f2,L k z]
  have ak:=W b i rfl (by simpa using ad)
  simp only[ak,if_true,D k z];rw[if_neg (by rw[U];simp),L k z]
def Lg{xs ys:T'}(h:gY H Z xs ys)(B:mR xs=true):ys=xs:=by
 refine(List.ext_getElem h.1 λj a z=>?_).symm;have:=h.2 j _ _ (ζd a) (ζd z);have w:=by unfold mR at B;rw[all_eq_true]at B;have:=B _ (List.getElem_mem a);rw[all_eq_true]at this;exact sx.2 λk u b=>this u (mem_of_getElem? b)
 exact(this.scalar.1 w).symm
def ET:∀{B:S'}{os:Tb bP}{g:Tb bP},k9 g B=some os->∀k ob,bp os k=some ob->bp g k=some ob
 |[],os,g,h,k,ob,hk=>by simp[k9]at h;subst h;simp[bp]at hk|n::r,os,g,h,k,ob,hk=>by simp only[k9]at h;split at h;rename_i v t a D;cases h;simp only[bp]at hk;split at hk;(next e=>subst e;cases hk;exact a);exact ET D k ob hk;cases h
def K7{args:So}{os:dK}(h:handed m args=some os):∀k ob,bp os k=some ob->bp m k=some ob:=ET h
mutual
def Sr{d:Nat}:∀{x:SV},x.c8 d=true->d∈x.CW
 |.v _,h=>by simp[SV.c8]at h|.own e,h|.ptr e _,h|.el e _ _,h|.mp e,h=>by simp[SV.c8]at h;simp[SV.CW,h]|.clo _ a b,h=>by simp only[SV.c8,or_eq_true]at h;simp only[SV.CW,mem_append];rcases h with h|h;exact .inl (we h);exact .inr (we h)
 |.tup l,h|.agg l,h=>by simp only[SV.c8]at h;simp only[SV.CW];exact we h|.yl _,h=>by simp[SV.c8]at h
def we{d:Nat}:∀{l:So},SV.dO d l=true->d∈SV.s7 l
 |[],h=>by simp[SV.dO]at h|x::r,h=>by simp only[SV.dO,or_eq_true]at h;simp only[SV.s7,mem_append];rcases h with h|h;exact .inl (Sr h);exact .inr (we h)
end
def CF{D:S'}{ob:bP}(h:within D ob=true){e:Nat}(B:ob.c8 e=true):e∈D:=by cases ob with|box cs=>unfold within at h;rw[all_eq_true]at h;simpa using h e (we B)|sl k es w=>simp[bP.c8]at B|mp u=>simp[bP.c8]at B
def Es{D:S'}:∀{l:S'}{a b:Tb bP},AG D m' l a=some b->(∀k∈l,bp b k=bp m' k/\∃ob,bp m' k=some ob/\within D ob=true)/\∀k,k∉l->bp b k=bp a k
 |[],a,b,h=>by simp[AG]at h;grind|d::r,a,b,h=>by simp[AG]at h;split at h;rename_i ob B;split at h;rename_i hp;have⟨g,G⟩:=Es h;refine⟨λk c=>?_,λk c=>?_⟩;by_cases f:k∈r;grind;have e:k=d:=Zac;subst e;exact⟨by rw[G k f,cO,B],ob,B,hp⟩;simp at c;rw[G k c.2,d_ _ _ (Ne.symm c.1)];grind;grind
def HR{l:S'}{a b:Tb bP}(h:lR m' l a=some b):(∀k∈l,bp b k=bp m' k/\∃ob,bp m' k=some ob/\within l ob=true)/\∀k,k∉l->bp b k=bp a k:=Es h
def mem_keys:∀{os:dK}{k:Nat},k∈os.map (·.1)↔∃ob,bp os k=some ob
 |[],k=>by simp[bp]|(d,o)::os,k=>by simp[bp];by_cases e:d=k;simp_all;rw[if_neg e,<-mem_keys];grind
def uQ:∀{l:So}{j:Nat}{u:SV},SV.yh l=true->l[j]?=some u->u.bare=true
 |[],j,u,h,B=>by simp at B|x::r,j,u,h,B=>by simp only[SV.yh,ζh]at h;cases j with|zero=>simp at B;subst B;exact h.1|succ j=>exact uQ h.2 (by simpa using B)
def dw.bare{Z2:Nat->Prop}{sv:SV}{y:V}(r:dw ν m H Z sv y):sv.bare=true->dw ν m H Z2 sv y:=by induction r with|v x y h=>intro z;have z:x.scalar=true:=z;rw[(h.scalar.1 z)];exact .v _ _ (.same _ (kL z))|own d y h=>intro _;exact .own d y h|ptr d o y h=>intro _;exact .ptr d o y h|el d i o y h=>intro _;exact .el d i o y h|mp d y h=>intro _;exact .mp d y h|clo f a b B G C z hva I w D=>intro h;simp only[SV.bare,ζh]at h;exact .clo f a b B G C z (λj u v c e=>w j u v c e (uQ h.1 c)) λj u v c e=>D j u v c e (uQ h.2 c)|tup a B C hva w=>intro h;exact .tup a B C λj u v c e=>w j u v c e (uQ h c)|agg a B C hva w=>intro h;exact .agg a B C λj u v c e=>w j u v c e (uQ h c)|yl id=>intro _;exact .yl id
def eu.bare{Z2:Nat->Prop}{d:Nat}{ob:bP}(h:ob.bare=true)(o:eu ν m H Z d ob):eu ν m H Z2 d ob:=by cases ob with|box cs=>have⟨es,w,b,z,B⟩:=o;exact⟨es,w,b,⟨z.1,λj u v a c=>(z.2 j u v a c).bare (uQ h a)⟩,B⟩|sl k es D=>cases h|mp C=>cases h
def AW(hS:jV S c){f:Y'}(ae:S.E.keep f=true)(r:R ν Z st F H){args:So}{ys:T2}(ha:cn ν st.m H Z args ys){os:dK}(hh:handed st.m args=some os)
 {rs:So}{m':dK}{J:Tb bP}(hc:c f args os=some (rs,m'))(x:lR m' (os.map (·.1)) st.m=some J):
 ∃n H' U Z' G F1 K,(∀k,n<=k->run S.E k (.fn f) ys H=some (result K,H'))/\G.m=m'/\cn U m' H' Z' rs K/\R U Z' G F1 H'/\(∀e ob,bp m' e=some ob->e∉os.map (·.1)->cI ob=true->H.length<=(U e).1)/\
  R ν Z' {st with m:=J} F H'/\Ev Rv ν Z st H ν Z' {st with m:=J} H'/\(∀e ob',bp J e=some ob'->∃ob,bp st.m e=some ob/\ν e=ν e/\sameShape ob ob')/\
  ((∀k∈os.map (·.1),zA J k=true)->R ν Z {st with m:=J} F H'/\Ev Rv ν Z st H ν Z {st with m:=J} H'):=by
 have u:=K7 hh;have ab:=ha.mono (λid h=>⟨h,rfl⟩) λe _ ob' h=>⟨ob',u e ob' h,rfl,.refl _⟩
 have r0:R ν Z (start args os) ys H:=by refine⟨yQ ab,λd ob hd=>?_,λd d' ob ob' a B=>r.inj d d' ob ob' (u d ob a) (u d' ob' B),λd ob h=>r.apart d ob (u d ob h),r.zrow,r.deep⟩;exact eu.mono (λid h=>⟨h,rfl⟩) rfl (λ_=>rfl) (λe _ ob' h=>⟨ob',u e ob' h,rfl,.refl _⟩) (r.obj d ob (u d ob hd))
 obtain⟨n,y,H',U,Z',G,F1,K,e1,rfl,rfl,e2,e3,ev⟩:=hS f args os rs m' hc ν Z ys H (.inl ae) r0 ab;have⟨M,b2⟩:=HR x;have I:∀k ob',k∈os.map (·.1)->bp G.m k=some ob'->∃ob,bp os k=some ob/\U k=ν k/\sameShape ob ob':=λk ob' g h=>ev.pin k g ob' h
 have L:∀id,gq ν os id->gq ν st.m id:=λid⟨k,o,a,B,C⟩=>⟨k,o,u k o a,B,C⟩
 have A:∀ob ob':bP,sameShape ob ob'->cI ob'=cI ob:=λob ob' h=>by cases ob<;>cases ob'<;>simp[sameShape]at h;simp[cI,h.1];rfl;rfl
 have D:∀k ob',bp J k=some ob'->∃ob,bp st.m k=some ob/\sameShape ob ob'/\(k∈os.map (·.1)/\bp G.m k=some ob'/\U k=ν k/\bp os k=some ob/\within (os.map (·.1)) ob'=true\/k∉os.map (·.1)/\ob'=ob):=λk ob' h=>by by_cases g:k∈os.map (·.1);grind;rw[b2 k g]at h;exact⟨ob',h,.refl _,.inr ⟨g,rfl⟩⟩
 have z:∀k ob,k∉os.map (·.1)->bp st.m k=some ob->cI ob=true->H'[(ν k).1]?=H[(ν k).1]?/\¬Z' (ν k).1:=λk ob g h w=>by have ad:¬gq ν os (ν k).1:=(by rintro⟨N,o2,g1,g2,g3⟩;have:=r.inj N k o2 ob (u N o2 g1) h g2 w g3;subst this;exact g (mem_keys.2 ⟨o2,g1⟩));have af:=r.lt ⟨k,ob,h,w,rfl⟩;have ah:=r.apart k ob h w;refine⟨ev.same _ af ad ah (λh=>h),λai=>?_⟩;rcases ev.frz _ ai with h|h|h|h;simp_all;exact ad h;omega;omega
 have i:∀e ob',bp J e=some ob'->∃ob,bp st.m e=some ob/\ν e=ν e/\sameShape ob ob':=λe ob' h=>by have⟨ob,a,B,_⟩:=D e ob' h;exact⟨ob,a,rfl,B⟩
 have j:∀e ob,bp G.m e=some ob->e∉os.map (·.1)->cI ob=true->H.length<=(U e).1:=λe ob q aj w=>by rcases ev.own _ ⟨e,ob,q,w,rfl⟩with⟨k,o,a,B,C⟩|h|h;have g:k∈os.map (·.1):=mem_keys.2 ⟨o,a⟩;have⟨_,ob',h4,_⟩:=M k g;have⟨o2,T,Y,l⟩:=I k ob' g h4;have T:bp os k=some o2:=T;have a:bp os k=some o:=a;rw[a]at T;cases T;have:=e3.inj e k ob ob' q h4 w (by rw[A _ _ l];exact B) (by rw[Y];exact C.symm);exact absurd (this▸g) aj;exact h.elim;exact h
 have W:∀b t o1 o2,bp J b=some o1->bp J t=some o2->cI o1=true->cI o2=true->(ν b).1=(ν t).1->b=t:=λb t o1 o2 a B k1 N hp=>by have⟨p1,g1,v,_⟩:=D b o1 a;have⟨p2,g2,s2,_⟩:=D t o2 B;exact r.inj b t p1 p2 g1 g2 (by rw[<-A _ _ v];omega) (by rw[<-A _ _ s2];omega) hp
 have O:∀id,id<H.length->¬gq ν st.m id->¬Z id->¬Rv id->H'[id]?=H[id]?:=λid hl ho hz _=>ev.same id hl (λh=>ho (L id h)) hz (λh=>h)
 have X:∀id,gq ν J id->gq ν st.m id\/Rv id\/H.length<=id:=by rintro id ⟨k,o,a,B,C⟩;have⟨ob,g1,v,_⟩:=D k o a;exact .inl ⟨k,ob,g1,by rw[<-A _ _ v];omega,C⟩
 have P:∀id,Z id->Z id/\bz H' id=bz H id:=λid h=>⟨h,(ev.rows id h).2⟩
 refine⟨n,H',U,Z',G,F1,K,λk g=>(pg S.E g).go _ _ _ _ e1,rfl,e2,e3,j,⟨λs sv hs=>(r.slot s sv hs).mono ev.rows λe _=>i e,λk ob' h=>?_,W,λb o1 a k1=>?_,e3.zrow,e3.deep⟩,⟨ev.len,O,ev.rows,X,?_,λe _=>i e,rfl⟩,i,
  λak=>⟨⟨λs sv hs=>(r.slot s sv hs).mono P λe _=>i e,λk ob' h=>?_,W,λb o1 a k1=>?_,λid h=>by rw[(ev.rows id h).2];exact r.zrow id h,r.deep.mono λid h=>(ev.rows id h).2⟩,⟨ev.len,O,P,X,λid h=>.inl h,λe _=>i e,rfl⟩⟩⟩
 .obtain⟨ob,a,B,C|⟨C,rfl⟩⟩:=D k ob' h
  .have⟨T,Y,l,q4,q5⟩:=C;refine eu.mono (λid h=>⟨h,rfl⟩) l.symm (λ_=>rfl) (λe q Q B=>?_) (e3.obj k ob' Y)
   have E:=CF q5 q;have⟨u1,al,p,_⟩:=M e E;rw[u1,p]at B;cases B;have⟨_,_,u4,_⟩:=I e Q E p;exact⟨Q,p,u4.symm,.refl _⟩
  exact eu.mono ev.rows rfl (λw=>(z k ob' C a w).1) (λe _=>i e) (r.obj k ob' a)
 .obtain⟨ob,g1,v,C|⟨C,rfl⟩⟩:=D b o1 a
  .have⟨T,Y,l,q4,q5⟩:=C;rw[<-l];exact e3.apart b o1 Y k1
  exact(z b o1 C g1 k1).2
 .intro id h;rcases ev.frz id h with h|h|h|h
  .exact .inl h
  .exact .inr (.inl (L id h))
  .exact h.elim
  omega
 .obtain⟨ob,a,B,C|⟨C,rfl⟩⟩:=D k ob' h
  .have⟨T,Y,l,q4,q5⟩:=C;have x:=ak k T;unfold zA at x;rw[h]at x;refine eu.bare (Z:=Z') x (eu.mono (λid h=>⟨h,rfl⟩) l.symm (λ_=>rfl) (λe q Q B=>?_) (e3.obj k ob' Y))
   have E:=CF q5 q;have⟨u1,al,p,_⟩:=M e E;rw[u1,p]at B;cases B;have⟨_,_,u4,_⟩:=I e Q E p;exact⟨Q,p,u4.symm,.refl _⟩
  exact eu.mono P rfl (λw=>(z k ob' C a w).1) (λe _=>i e) (r.obj k ob' a)
 have⟨ob,g1,v,_⟩:=D b o1 a;exact r.apart b ob g1 (by rw[<-A _ _ v];exact k1)
def V4(a:jV S c){f:Y'}(G:S.E.keep f=true)(r:R ν Z st F H){args:So}{ys:T2}(J:cn ν st.m H Z args ys){os:dK}(U:handed st.m args=some os)
 {rs:So}{m':dK}{D:T2}{B:Tb bP}(b:c f args os=some (rs,m'))(W:dI rs=some D)(Y:lR m' (os.map (·.1)) st.m=some B):
 ∃n y H' Z',(∀k,n<=k->run S.E k (.fn f) ys H=some (y,H'))/\R ν Z' {st with m:=B} F H'/\dw ν B H' Z' (.v (result D)) y/\Ev Rv ν Z st H ν Z' {st with m:=B} H'/\∀e ob',bp B e=some ob'->∃ob,bp st.m e=some ob/\ν e=ν e/\sameShape ob ob':=by
 have⟨n,H',O,Z',C,F1,w,e1,_,e2,_,_,g1,g2,g3,_⟩:=AW (Rv:=Rv) a G r J U b Y;refine⟨n,result w,H',Z',e1,g1,?_,g2,g3⟩;have u:=e2.dI W;have:FR H' Z' (result D) (result w):=by cases D with|nil=>rw[u.dc];exact .same _ rfl|cons x z=>obtain⟨y,I,rfl,g1,g2⟩:=u.inv;cases z with|nil=>rw[g2.dc];exact g1|cons x2 z=>obtain⟨Q,L,rfl,g3,g4⟩:=g2.inv;exact .tup _ _ u.1 u.2
 exact .v _ _ this
def zo{ys:T2}(h:V.cZ ys=true):(result ys).scalar=true:=by cases ys with|nil=>rfl|cons a l=>cases l with|nil=>simp only[V.cZ,ζh]at h;exact h.1|cons b l=>simp[result,V.scalar];omega
def VS(a:jV S c){f:Y'}(G:S.E.keep f=true)(r:R ν Z st F H){args:So}{ys:T2}(W:cn ν st.m H Z args ys){os:dK}(Y:handed st.m args=some os)
 {rs:So}{m':dK}{D:T2}{B:Tb bP}(b:c f args os=some (rs,m'))(d:dI rs=some D)(g:lR m' (os.map (·.1)) st.m=some B)(U:V.cZ D=true)(J:∀k∈os.map (·.1),zA B k=true):
 ∃n H',(∀k,n<=k->run S.E k (.fn f) ys H=some (result D,H'))/\R ν Z {st with m:=B} F H'/\dw ν B H' Z (.v (result D)) (result D)/\Ev Rv ν Z st H ν Z {st with m:=B} H'/\∀e ob',bp B e=some ob'->∃ob,bp st.m e=some ob/\ν e=ν e/\sameShape ob ob':=by
 have⟨n,H',z,Z',u,F1,C,e1,_,e2,_,_,_,_,g3,g4⟩:=AW (Rv:=Rv) a G r W Y b g;have⟨g1,g2⟩:=g4 J;have w:=(e2.dI d).scalar.1 U;subst w;exact⟨n,H',e1,g1,.v _ _ (.same _ (kL (zo U))),g2,g3⟩
def Vr(l:jV S c){f:Y'}(W:S.E.keep f=true)(r:R ν Z st F H){args:So}{ys:T2}(q:cn ν st.m H Z args ys){os:dK}(s:handed st.m args=some os)
 {rest:So}{m':dK}{U:T2}{B:Tb bP}{e t es:Nat}{k:Fl}{xs:T'}(v:c f args os=some (.own e::rest,m'))(A:dI rest=some U)(E:lR m' (os.map (·.1)) st.m=some B)
 (G:bp m' e=some (.sl k es xs))(J:e∉os.map (·.1))(D:St.new {st with m:=B} t=true):
 ∃n y H' ν' Z',(∀k,n<=k->run S.E k (.fn f) ys H=some (y,H'))/\R ν' Z' {st with m:=bT B t (.sl k es xs)} F H'/\dw ν' (bT B t (.sl k es xs)) H' Z' (Cd (.own t::U.map .v)) y/\Ev Rv ν Z st H ν' Z' {st with m:=bT B t (.sl k es xs)} H'/\Kept (some t) ν st.m ν' (bT B t (.sl k es xs)):=by
 obtain⟨n,H',I,Z',aa,F1,ws,e1,rfl,e2,e3,a,g1,g2,g3,_⟩:=AW (Rv:=Rv) l W r q s v E;obtain⟨w,O,rfl,K,M⟩:=e2.inv;have o:=e3.obj e _ G;have Q:cI (.sl k es xs)=true->¬gq ν B (I e).1:=λC=>by rintro⟨T,o2,g,N,h3⟩;have⟨o3,P,_,i⟩:=g3 T o2 g;have X:cI o3=true:=(by cases o3<;>cases o2<;>simp[sameShape]at i;rw[<-N];simp[cI,i.1];rfl;rfl);have ab:=r.lt ⟨T,o3,P,X,rfl⟩;have:=a e _ G J C;omega
 have hR:=g1.add D (ob:=.sl k es xs) (p:=I e) (λC=>⟨Q C,e3.apart e _ G C⟩) (by
  simp only[eu,iP];exact o)
 have b:dw (jJ ν t (I e)) (bT B t (.sl k es xs)) H' Z' (.own t) w:=by refine .own _ _ λu j=>?_;rw[cO]at j;cases j;obtain⟨_,_,_,ee,rfl⟩:=K.lu G;cases ee;exact⟨_,_,_,rfl,by rw[iP]⟩
 have⟨n1,n2,n3,n4⟩:=nG D;refine⟨n,result (w::O),H',jJ ν t (I e),Z',e1,hR,?_,⟨g2.len,g2.same,g2.rows,?_,g2.frz,?_,g2.pins⟩,?_⟩
 .have L:=M.dI A
  cases U with
  |nil=>rw[L.dc];exact b|cons x U=>obtain⟨y,ad,rfl,_,_⟩:=L.inv;exact .tup _ _ (by have:=L.1;simp at this⊢;omega) (cn.cons b (cn.sS L)).2
 .intro id h;rcases Gb h with h|⟨g,rfl⟩
  .exact g2.own id h
  exact .inr (.inr (a e _ G J g))
 .intro d hd u h;have z:d≠t:=λe=>n1 (e▸hd)
  have h:bp (bT B t (.sl k es xs)) d=some u:=h;rw[d_ _ _ (Ne.symm z)]at h;have⟨ob,k1,T,Y⟩:=g2.pin d hd u h;exact⟨ob,k1,by rw[qp _ _ z],Y⟩
 intro d u hd h;have z:d≠t:=λe=>hd (by rw[e])
 rw[d_ _ _ (Ne.symm z)]at h;have⟨ob,k1,_,Y⟩:=g3 d u h;exact⟨ob,k1,qp _ _ z,Y⟩
def Rm(a:jV S c){f:Y'}{az:T2}{rs:So}{m':dK}(b:V.cK az=true)(h:c f (az.map .v) []=some (rs,m')):
 ∃n H2 ν' Z' st' F' ys,(∀k,n<=k->run S.E k (.fn f) az []=some (result ys,H2))/\st'.m=m'/\cn ν' m' H2 Z' rs ys/\R ν' Z' st' F' H2:=by
 have⟨u,r1⟩:=yp b;obtain⟨n,y,H2,ν',Z',st',F',w,d,rfl,z,B,C,_⟩:=a f _ _ _ _ h _ _ az [] (.inr rfl) u r1;exact⟨n,H2,ν',Z',st',F',w,λk e=>(pg S.E e).go _ _ _ _ d,z,B,C⟩
def E7{ys:T2}(h:V.cZ ys=true):V.cZ (.bR::ys)=true/\V.cZ (.dP::ys)=true:=by simp[V.cZ,V.scalar];grind
def cn.Xz{ys:T2}(h:V.cK ys=true):cn ν m H Z (ys.map .v) ys:=cn.sS (dB.same h)
theorem Sg (hS:jV S c) (hP:∀f q,S.prm f=some q->oD S.E f q) {ops:aZ Oper} {place:a_ (Nat×Nat)} {dr nw:Bool} {fr:aZ Nat} (Y:dr=place.isSome) (U:∀b i,place=some (b,i)->nw=true->dN ops i=true) (aj:∀b i,place=some (b,i)->nw=false->dN ops i=false)
 (hold:∀b i,place=some (b,i)->(∀d ob,bp st.m d=some ob->cI ob=true->d∉fr->(ν d).1<b)/\∀id,Z id->id<b)
 (r:R ν Z st F H) {args:aZ SV} {ys:aZ V} (ha:cn ν st.m H Z args ys) {f:FuncId} {dst:a_ Nat} {sv:SV} (h:fc S c dst dr (!dr||nw) (f_ st.m fr) f args st=some (sv,st')) :
 ∃n y H' ν' Z',(∀k,n<=k->ku S.E (run S.E k) ops place f ys H=some (y,H'))/\R ν' Z' st' F H'/\dw ν' st'.m H' Z' sv y/\Ev Rv ν Z st H ν' Z' st' H'/\(dr=true->Z'=Z)/\Kept dst ν st.m ν' st'.m:=by
 unfold fc at h;split at h
 .rename_i hk;split at h
  .have C:∀{q:dL} {y:V} {H':bq},fF S.E q f ys H=some (y,H')->ku S.E q ops place f ys H=some (y,H'):=λ{q y H'} hd=>by
    unfold ku
    cases place with
    | none=>rw[if_pos (by simp[mN,hk])];omega
    | some bi=>
     obtain⟨b,i⟩:=bi;have aK  := Y;have aB:=U b i rfl Zac
     rw[if_pos (by simp[mN,hk,aB])]
     grind
   split at h
   .
    rename_i L;split at h
    .rename_i az hs;have hg:=A4 r.obj hs ha;obtain⟨nb,hb⟩:=yO r ha hs;split at h
     .rename_i rs m' hc;obtain⟨na,H2,ν2,Z2,st2,F2,ws,aC,rfl,e3,e4⟩:=Rm hS hg hc;obtain⟨n,aD,aE⟩:∃n,na<=n/\nb<=n:=⟨max na nb,Nat.le_max_left ..,Nat.le_max_right ..⟩;have e1:=λk (hk:n<=k)=>aC k (Nat.le_trans aD hk)
      have O:∀k,n<=k->∀{o:a_ (V×bq)},(if(result ws).scalar then some (result ws,H)else
       match result ws with
       | .hsl id es off len=>(sw H.length H2 id es off len).map λ(v,ob)=>(v,H++[ob])
       | .tup (.hsl id es off len::rest)=>if V.cZ rest then(sw H.length H2 id es off len).map λ(v,ob)=>(.tup (v::rest),H++[ob])else none
       | _=>none)=o->fF S.E (run S.E k) f ys H=o:=λk D o ho=>by
       unfold fF lS;rw[if_pos L];simp[pE,hb k (Nat.le_trans aE D),e1 k D];exact ho
      have ak:∀G:aZ V,(result G).scalar=true->result ws=result G->sv=.v (result G)->st'=st->∃n y H' ν' Z',(∀k,n<=k->ku S.E (run S.E k) ops place f ys H=some (y,H'))/\R ν' Z' st' F H'/\dw ν' st'.m H' Z' sv y/\Ev Rv ν Z st H ν' Z' st' H'/\(dr=true->Z'=Z)/\Kept dst ν st.m ν' st'.m:=by
       rintro G h1 h2 rfl rfl;exact⟨n,result G,H,ν,Z,λk D=>C (O k D (by rw[h2,if_pos h1])),r,.v _ _ (.same _ (kL h1)),.refl,λ_=>rfl,.refl⟩
      have emp:∀(k:Fl) (es:Nat) (G:aZ V) (rest:aZ SV),V.cZ G=true->∀t,st.new t=true->∀w:V,(k=.nil/\w=.bR\/k=.emp/\w=.dP)->result (w::G)=result ws->dst=some t->sv=Cd (.own t::G.map .v)->st'={ st with m:=bT st.m t (.sl k es []) } ->
       ∃n y H' ν' Z',(∀k,n<=k->ku S.E (run S.E k) ops place f ys H=some (y,H'))/\R ν' Z' st' F H'/\dw ν' st'.m H' Z' sv y/\Ev Rv ν Z st H ν' Z' st' H'/\(dr=true->Z'=Z)/\Kept dst ν st.m ν' st'.m:=by
       rintro k es G rest W t Q w hw al rfl rfl rfl;have ad:cT k=false:=by rcases hw with⟨rfl,_⟩|⟨rfl,_⟩ <;> rfl
       have hsl:dw (jJ ν t (0,0)) (bT st.m t (.sl k es [])) H Z (.own t) w:=by
        refine .own _ _ λT h'=>?_
        rw[cO]at h';cases h';exact⟨_,_,_,rfl,by rcases hw with⟨rfl,rfl⟩|⟨rfl,rfl⟩ <;> rfl⟩
       have am:(result (w::G)).scalar=true:=zo (by rcases hw with⟨_,rfl⟩|⟨_,rfl⟩;exact(E7 W).1;exact(E7 W).2)
       refine⟨n,result (w::G),H,jJ ν t (0,0),Z,λk D=>C (O k D (by rw[<-al,if_pos am])),r.add Q (λhb=>by simp[cI,ad]at hb) (by simp[eu,ad]),?_,
        Ev.add Q (Nat.le_refl _) (λ_ _ _=>rfl) (λ_ _=>rfl) (λhb=>by simp[cI,ad]at hb),λ_=>rfl,Kept.add λ_ _ h=>h⟩
       cases G with
       | nil=>exact hsl
       | cons z G=>exact .tup _ _ Zab (cn.cons hsl (cn.Xz (q_ W))).2
      split at h
      .rename_i G J;split at h
       next W=>simp  at h;exact ak G W ((HU (e3.dI J)).1 W) h.1.symm h.2.symm
       simp at h
      split at h
      .rename_i e rest t _;obtain⟨w,ws,rfl,g1,g2⟩:=e3.inv;split at h
       .
        rename_i es xs G X J;split at h
        .rename_i B;simp  at B;obtain⟨⟨c1,c2⟩,Q⟩:=B;simp  at h;obtain⟨rfl,rfl⟩:=h;have o:=e4.obj e _ X;simp only[eu,if_true]at o;obtain⟨rows,hr,aL,hf,aJ,an⟩:=o;obtain⟨q1,q2⟩:=an trivial;have ae  := by
          have:=Lg hf c2;rw[q1,List.drop_zero,<-q2,List.take_length]at this;exact this
         subst ae;obtain⟨_,_,_,ee,rfl⟩:=g1.lu X;cases ee;have I  := (g2.dI J).scalar.1 c1;subst I;have ao:sw H.length H2 (ν2 e).1 es 0 rows.length=some (.hsl H.length es 0 rows.length,.row es rows):=by
          unfold sw;rw[hr];simp only[true_and];rw[if_pos];rw[List.all_eq_true];intro x hx;unfold mR at c2;rw[List.all_eq_true]at c2;exact c2 x hx
         have hH:∀id,id<H.length->(H++[Ob.row es rows])[id]? = H[id]? := λid hl=>List.getElem?_append_left hl
         have ap:∀id,Z id->bz (H++[Ob.row es rows]) id=bz H id:=λid J=>by unfold bz;rw[hH id (r.xH J)]
         have r2  := r.heap (λid ho=>hH id (r.lt ho)) ap
         have aq:V.oc rows=true:=by
          refine lV.2 λj u hu=>?_
          unfold mR at c2;rw[List.all_eq_true]at c2;have:=c2 u (List.mem_of_getElem? hu);rw[List.all_eq_true]at this;exact iV.2 λi v hv=>kL (this v (List.mem_of_getElem? hv))
         have hR:=r2.add   (ob:=.sl .row es rows) (p:=(H.length,0)) Q (λ_=>⟨λho=>absurd (r.lt ho) Zab,λJ=>absurd (r.xH J) Zab⟩) (by
          simp only[eu,iP];refine⟨rows,by simp,by simp,?_,(gY.same aq).HZ,λ_=>⟨trivial,rfl⟩⟩
          rw[List.drop_zero,List.take_length];exact gY.same aq)
         have hsl:dw (jJ ν t (H.length,0)) (bT st.m t (.sl .row es rows)) (H++[Ob.row es rows]) Z (.own t) (.hsl H.length es 0 rows.length):=by
          refine .own _ _ λT h'=>?_
          rw[cO]at h';cases h';exact⟨_,_,_,rfl,by simp[tO,iP]⟩
         have ar:Ev Rv ν Z st H (jJ ν t (H.length,0)) Z { st with m:=bT st.m t (.sl .row es rows) } (H++[Ob.row es rows]):=Ev.add Q Zab (λid hl _=>hH id hl) ap (λ_=>.inr (Nat.le_refl _))
         have au:tO (ν2 e) Fl.row es rows.length=.hsl (ν2 e).1 es 0 rows.length:=by simp[tO,q1]
         rw[au]at O
         cases rest with
         | nil=>
          have  := by simp only[dI,ζa]at J;exact J.symm
          subst this;refine⟨n,_,_,_,Z,λk D=>C (O k D  ?_),hR,hsl,ar,λ_=>rfl,Kept.add λ_ _ h=>h⟩
          simp[result,V.scalar,ao]
         | cons x2 rest=>
          have aF:∃w2 af,ws=w2::af:=by
           have:=g2.1
           cases ws with
           | nil=>simp at this
           | cons a b=>exact⟨a,b,rfl⟩
          obtain⟨w2,af,rfl⟩:=aF;refine⟨n,_,_,_,Z,λk D=>C (O k D (o:=some (.tup (.hsl H.length es 0 rows.length::w2::af),H++[Ob.row es rows])) ?_),hR,?_,ar,λ_=>rfl,Kept.add λ_ _ h=>h⟩
          .simp only[result,V.scalar,V.cZ,Bool.false_and,Bool.false_eq_true,if_false];have aG  := by simpa [V.cZ]using c1
           simp[aG,ao]
          exact .tup _ _ Zab (cn.cons hsl (cn.Xz (q_ c1))).2
        simp at h
       .rename_i es xs G X J;split at h
        next B=>simp  at B;simp  at h;obtain⟨rfl,rfl⟩:=h;obtain⟨_,_,_,ee,rfl⟩:=g1.lu X;cases ee;have I:=(g2.dI J).scalar.1 B.1;subst I;exact emp .nil es ws rest B.1 _ B.2 .bR Zab rfl rfl rfl rfl
        simp at h
       .rename_i es xs G X J;split at h
        next B=>simp  at B;simp  at h;obtain⟨rfl,rfl⟩:=h;obtain⟨_,_,_,ee,rfl⟩:=g1.lu X;cases ee;have I:=(g2.dI J).scalar.1 B.1;subst I;exact emp .emp es ws rest B.1 _ B.2 .dP Zab rfl rfl rfl rfl
        simp at h
       simp at h
      simp at h
     grind
    grind
   rename_i L;split at h
   .rename_i q hq;split at h
    .simp at h
    rename_i hd;obtain⟨n,y,H',ν',e1,e2,e3,e4,e5⟩:=U_  (hP f q hq) r ha h;exact⟨n,y,H',ν',Z,λk D=>C (by unfold fF;rw[if_neg L];exact e1 k D),e2,e3,e4,λh=>absurd h hd,e5⟩
   split at h
   .rename_i os hh;split at h
    .rename_i rs m' hc;split at h
     .rename_i G m2 J hb;split at h
      .simp at h
      rename_i aa;simp  at h;obtain⟨rfl,rfl⟩:=h
      cases av:dr with
      | false=>
       obtain⟨n,y,H',Z',e1,e2,e3,e4,e5⟩:=V4  hS hk r ha hh hc J hb;exact⟨n,y,H',ν,Z',λk D=>C (by unfold fF;rw[if_neg L];exact e1 k D),e2,e3,e4,(λh=>nomatch h),λe T _=>e5 e T⟩
      | true=>
       rw[av]at aa;have j8:V.cZ G=true/\∀k∈os.map (·.1),zA m2 k=true:=by
        simp only[Bool.true_and,Bool.not_eq_true',Bool.not_eq_false,ζh,List.all_eq_true]at aa;refine⟨aa.1,λk hk=>?_⟩
        obtain⟨x,hx,rfl⟩:=List.mem_map.1 hk;exact aa.2 x hx
       obtain⟨n,H',e1,e2,e3,e4,e5⟩:=VS (Rv:=Rv) hS hk r ha hh hc J hb j8.1 j8.2;exact⟨n,_,H',ν,Z,λk D=>C (by unfold fF;rw[if_neg L];exact e1 k D),e2,e3,e4,λ_=>rfl,λe T _=>e5 e T⟩
     .rename_i m2 J hb;split at h
      .simp at h
      rename_i hd;split at h
      .rename_i e rest t;split at h
       .rename_i k es xs G he aH;split at h
        next B=>simp only[ζh,Bool.not_eq_true',List.contains_eq_mem,decide_eq_false_iff_not]at B;simp only[ζa,ζc]at h;obtain⟨rfl,rfl⟩:=h;obtain⟨n,y,H',ν',Z',e1,e2,e3,e4,e5⟩:=Vr hS hk r ha hh hc aH hb he B.1 B.2;exact⟨n,y,H',ν',Z',λk D=>C (by unfold fF;rw[if_neg L];exact e1 k D),e2,e3,e4,λh=>absurd h hd,e5⟩
        simp at h
       simp at h
      simp at h
     simp at h
    simp at h
   simp at h
  rename_i ab;split at h
  .rename_i ah;simp only[ζh]at ah;have ai:mN S.E ops place f=false:=by
    simp only[Bool.not_eq_true,Bool.or_eq_false_iff,Bool.not_eq_false']at ab
    cases place with
    | none=>rw[Y]at ab;simp at ab
    | some bi=>simp[mN,hk,ah.1,aj _ _ rfl ab.2]
   split at h
   .rename_i az hs;split at h
    .rename_i rs m' hc;split at h
     .rename_i G J;split at h
      next B=>simp only[Bool.or_eq_true]at B;simp at h;obtain⟨rfl,rfl⟩:=h;obtain⟨n,H',e1,e2,e3,e4⟩:=LQ hS Y U hold r ha ai hs (.inr ah.2) hc J B;exact⟨n,_,H',ν,Z,e1,e2,e3,e4,λ_=>rfl,.refl⟩
      simp at h
     simp at h
    simp at h
   simp at h
  simp at h
 rename_i hk;have aw:S.E.keep f=false:=by simpa using hk
 have ai:mN S.E ops place f=false:=by unfold mN;rw[aw];rfl
 split at h
 .rename_i az hs;split at h
  .rename_i hl;split at h
   .rename_i rs m' hc;split at h
    .rename_i G J;split at h
     .rename_i B;simp only[Bool.or_eq_true]at B;simp  at h;obtain⟨rfl,rfl⟩:=h;obtain⟨n,H',e1,e2,e3,e4⟩:=LQ  hS Y U hold r ha ai hs (by simpa using hl) hc J B
      exact⟨n,_,H',ν,Z,e1,e2,e3,e4,λ_=>rfl,.refl⟩
     rename_i ax;split at h
     .rename_i aI;obtain⟨ds,ay,e⟩:=ζf.1 h;simp  at e;obtain⟨rfl,rfl⟩:=e;have aA:(result G).scalar=false:=by
       cases hq:(result G).scalar with
       | false=>rfl
       | true=>exact absurd (by simp[hq]) ax
      obtain⟨n,H',e1,e2,e3,e4⟩:=Wc  hS U (λb i hp=>(hold b i hp).2) r ha aw hs (by rw[<-Y];exact aI) hc J aA ay (xL ay hs)
      exact⟨n,_,H',ν,Z,e1,e2,e3,e4,λ_=>rfl,λe T _ h=>⟨T,pS h,rfl,.refl _⟩⟩
     simp at h
    simp at h
   simp at h
  simp at h
 simp at h
end
structure CX where
 E:Env
 nm:FuncId->Option Nat
 nt:Nat
def C_(ops:Rd)(o:Oper):a_ (a_ (Nat×X')):=
 match o.guard with
 |none=>some none|some (j,b)=>((ops[j]?).bind (·.dst)).map λd=>some (d,b)
def zW(a:Nat):a_ Nat->X'
 |none=>true|some d=>decide (d<a)
def yR(B:X')(ops:Rd)(i:Nat)(k:K)(os:aZ UV):K×aZ UV×X':=
 if B&& !dN ops i then match k,os,BB ops i with
  |.l (.store n),.tmp u::w,some (a,l)=>if u=a then(.l (.storeF n),(.tmp u::w)++l.map .tmp,true)else(k,os,false)|.l (.append n),os,_=>if ye ops i then(.e n,os,true)else(k,os,false)|.r (.load n ag),[.tmp u],_=>if(qJ ops i u).isEmpty then(k,os,false)else(.r (.loadF n ag),.tmp u::(qJ ops i u).map .tmp,false)|_,_,_=>(k,os,false)
 else(k,os,B&&dN ops i)
def En(B:X')(ops:Rd)(i:Nat)(k:K)(os:aZ UV):(yR B ops i k os=(k,os,B&&dN ops i)/\∀n ag a',B=true->dN ops i=false->k=.r (.load n ag)->os=[.tmp a']->qJ ops i a'=[])\/
 (B=true/\dN ops i=false/\∃n a l D,k=.l (.store n)/\os=.tmp a::D/\BB ops i=some (a,l)/\yR B ops i k os=(.l (.storeF n),os++l.map .tmp,true))\/
 (B=true/\dN ops i=false/\∃n ag a,k=.r (.load n ag)/\os=[.tmp a]/\yR B ops i k os=(.r (.loadF n ag),.tmp a::(qJ ops i a).map .tmp,false))\/
 (B=true/\dN ops i=false/\ye ops i=true/\∃n,k=.l (.append n)/\yR B ops i k os=(.e n,os,true)):=by
 unfold yR;split
 .rename_i h;simp only[ζh,not_eq_true']at h;split
  .rename_i n a' D a l hk;split
   next e=>subst e;refine .inr (.inl ⟨h.1,h.2,n,a',l,D,rfl,rfl,hk,?_⟩);simp only[yR,h.1,h.2,hk,Bool.not_false,Bool.and_self,if_true]
   exact .inl ⟨by rw[h.2,Bool.and_false],λn ag a' _ _ e=>by cases e⟩
  .rename_i n;split
   next G=>refine .inr (.inr (.inr ⟨h.1,h.2,G,n,rfl,rfl⟩))
   exact .inl ⟨by rw[h.2,Bool.and_false],λn ag a' _ _ e=>by cases e⟩
  .rename_i n ag a';split
   .rename_i I;refine .inl ⟨by rw[h.2,Bool.and_false],λn ag C _ _ _ e=>?_⟩
    simp only[List.cons.injEq,Operand.tmp.injEq,and_true]at e;subst e;simpa using I
   exact .inr (.inr (.inl ⟨h.1,h.2,n,ag,a',rfl,rfl,rfl⟩))
  rename_i u w z;refine .inl ⟨by rw[h.2,Bool.and_false],λn ag C _ _ e1 e2=>?_⟩
  first|exact(z _ _ _ e1 e2).elim|exact(z _ _ _ _ e1 e2 rfl).elim|exact(u _ _ _ e1 e2).elim|exact(w _ _ _ e1 e2).elim|exact(u _ _ _ _ e1 e2 rfl).elim|exact(w _ _ _ _ e1 e2 rfl).elim
 rename_i h;refine .inl ⟨rfl,λn ag C hd J _ _=>?_⟩
 rw[hd,J]at h;exact absurd rfl h
def oV(X:CX)(B:X')(ops:Rd)(i:Nat)(o:Oper):a_ RO:=
 if zW X.nt o.dst then
  match C_ ops o,resolve X.E X.nm o.op with
  |some gd,some (k,os)=>if Cc k then if B&&Eu X.E ops i then match k,o.op with
   |.a (.makeSl size zero),.makeSlice ..=>(os.mapM (qz X.nm)).map λaz=>⟨o.dst,gd,false,.p (.makeC size zero),az,[],[]⟩|.a (.buildSl size len zero idx),.buildSlice ..=>if size≠0/\len=0/\idx=[]then(os.mapM (qz X.nm)).map λaz=>⟨o.dst,gd,false,.p .emptyC,az,[],[]⟩else(os.mapM (qz X.nm)).map λaz=>⟨o.dst,gd,false,.p (.buildC size len zero idx),az,[],[]⟩|_,_=>none
   else((yR B ops i k os).2.1.mapM (qz X.nm)).map λaz=>⟨o.dst,gd,(yR B ops i k os).2.2,(yR B ops i k os).1,az,[],[]⟩else none
  |_,_=>none
 else none
def Ee{E:Env}{N:Nat->Y'}{F:WP}{op:Op}{ys:T2}{size:Nat}{zero:T2}{y:V}(D:∃t l c,op=.buildSlice t l c)(h:Cj E N F op ys (.a (.buildSl size 0 zero [])))(G:size≠0)(B:br N .emptyC ys=some y):qN E F op=some y:=by
 obtain⟨t,l,c,rfl⟩:=D;have⟨g1,g2⟩:=h;unfold br at B;split at B<;>first|(rename_i e;cases e;done)|skip
 simp only[ζa]at B;subst B;have u:=g2 _ (show jg (.buildSl size 0 zero []) []=some (.row size [],.sl size 0)by simp[jg,fU]);unfold qN;rw[u];simp[G];cases B
def BZ{es:Nat}:∀{vs:aZ (Nat×V)}{xs ys:T'},fU es xs vs=some ys->ys.length=xs.length
 |[],xs,ys,h=>by simp only[fU,ζa]at h;rw[h]|(i,v)::r,xs,ys,h=>by simp only[fU]at h;split at h;have:=BZ h;simpa using this;cases h
def EW{E:Env}{N:Nat->Y'}{F:WP}{op:Op}{ys:T2}{size len:Nat}{zero:T2}{idx:S'}{y:V}(D:∃t l c,op=.buildSlice t l c)(h:Cj E N F op ys (.a (.buildSl size len zero idx)))(B:br N (.buildC size len zero idx) ys=some y):qN E F op=some y:=by
 obtain⟨t,l,c,rfl⟩:=D;have⟨g1,g2⟩:=h;simp only[br]at B;split at B;rename_i a;split at B;rename_i z u;split at B;rename_i C;have G:len=z.length:=by have:=BZ u;rw[this];simp
 have w:=g2 _ (show jg (.buildSl size len zero idx) ys=some (.row size z,.sl size len)by simp only[jg,if_pos a.2,u,map_some]);unfold qN;rw[w];simp only;rw[if_pos ⟨trivial,G,C.2⟩,C.1];exact B;cases B;cases B;cases B
def EJ{E:Env}{N:Nat->Y'}{F:WP}{op:Op}{ys:T2}{size:Nat}{zero:T2}{y:V}(D:∃t l c,op=.makeSlice t l c)(h:Cj E N F op ys (.a (.makeSl size zero)))(B:br N (.makeC size zero) ys=some y):qN E F op=some y:=by
 obtain⟨t,l,c,rfl⟩:=D;have⟨g1,g2⟩:=h;unfold br at B;split at B<;>first|(rename_i e;cases e;done)|skip
 rename_i k n I m e;cases e;split at B;rename_i c;obtain⟨rfl,rfl,w,rfl,z,C⟩:=c;have u:=g2 _ (show jg (.makeSl size zero) [.int .i64 n,.int .i64 n]=some (.row size (replicate n.toNat zero),.sl size n.toNat)by simp only[jg,w,z,Int.le_refl,and_self,if_true]);unfold qN;rw[u];simp only;rw[if_pos (by refine⟨by trivial,Zab,all_eq_true.2 λx G=>by rw[List.eq_of_mem_replicate G];exact C⟩),<-B];cases B;cases B
def EZ{X:CX}{dr:X'}{ops:Rd}{i:Nat}{o:Oper}{ro:RO}(a:oV X dr ops i o=some ro):zW X.nt o.dst=true/\∃g now k az,C_ ops o=some g/\ro=⟨o.dst,g,now,k,az,[],[]⟩:=by
 unfold oV at a;split at a
 .rename_i hd;split at a
  .rename_i g k os hg hr;split at a;(·(repeat' split at a)<;>first|(cases a;done)|(obtain⟨az,u,rfl⟩:=ζf.1 a;exact⟨hd,_,_,_,_,hg,rfl⟩));cases a
  cases a
 cases a
structure Good(X:CX)(S:Sys):Prop where
 E:X.E=S.E
 N:∀f s,X.nm f=some s->S.N s=f
 prm:∀f q,S.prm f=some q->oD S.E f q
section
variable{Rv:Nat->Prop}{ν ν':Nu}{Z Z':Nat->Prop}{st st':St}{m m':Tb bP}{F F':WP}{H H' H1:bq}{S:Sys}{c:cm}{X:CX}
def Old(b:Nat)(fr:S')(ν:Nu)(Z:Nat->Prop)(m:Tb bP):Prop:=(∀d ob,bp m d=some ob->cI ob=true->d∉fr->(ν d).1<b)/\∀id,Z id->id<b
def pz{fr:S'}:∀{svs:So},ga fr svs=true->∀d∈fr,SV.dO d svs=false
 |[],_,d,_=>rfl|.v _::r,h,d,hd=>(pz (svs:=r) (by simpa[ga]using h) d hd)|.ptr e _::r,h,d,hd=>by simp[ga,not_eq_true']at h;simp[SV.dO,SV.c8];exact⟨λe=>h.1 (e▸hd),pz h.2 d hd⟩|.el e _ _::r,h,d,hd=>by simp[ga,not_eq_true']at h;simp[SV.dO,SV.c8];exact⟨λe=>h.1 (e▸hd),pz h.2 d hd⟩|.mp e::r,h,d,hd=>by simp[ga,not_eq_true']at h;simp[SV.dO,SV.c8];exact⟨λe=>h.1 (e▸hd),pz h.2 d hd⟩|.own _::r,h,_,_=>by simp[ga]at h|.clo ..::r,h,_,_=>by simp[ga]at h|.tup _::r,h,_,_=>by simp[ga]at h|.agg _::r,h,_,_=>by simp[ga]at h|.yl _::r,h,_,_=>by simp[ga]at h
def Ey(S:Sys)(ops:Rd)(place:a_ (Nat×Nat))(dr:X')(F:WP)(op:Op)(dst:a_ Nat)(ν:Nu)(Z:Nat->Prop)(st:St)(H:bq)(sv:SV)(st':St):Prop:=∃n y H' ν' Z',(∀k,n<=k->dJ S.E (run S.E k) ops place F H op=some (y,H'))/\R ν' Z' st' F H'/\dw ν' st'.m H' Z' sv y/\Ev (λid=>∃b j,place=some (b,j)/\id=b+j) ν Z st H ν' Z' st' H'/\(dr=true->Z'=Z/\Kept dst ν st.m ν' st'.m)
def Ad{E:Env}{F:WP}{H:bq}{place:a_ (Nat×Nat)}{op:Op}{v:V}(h:bS E F op=some v):t_ E F H place op=some v:=by unfold t_;rw[h]
def Bt:∀{xs ys:T'}{l:SW},gY H Z xs ys->qW xs=some l->qW ys=some l
 |[],ys,l,h,B=>by have:=h.1;have:ys=[]:=List.eq_nil_of_length_eq_zero (by simpa using this.symm);subst this;exact B|x::xs,[],l,h,B=>by have:=h.1;simp at this|x::xs,y::ys,l,h,B=>by unfold qW at B;split at B;(next e=>cases e);rename_i n r e;cases e;obtain⟨k,c,rfl⟩:=ζf.1 B;have d:=h.2 0 _ y rfl rfl;obtain⟨u,z,rfl,p1,p2⟩:=d.inv;rw[p2.dc,p1.int];have:=Bt (xs:=xs) (ys:=ys) ⟨by have:=h.1;simpa using this,λj a b w B=>h.2 (j+1) a b w B⟩ c;simp only[qW,this,map_some];cases B
def Ol(gd:Good X S){ops:Rd}{place:a_ (Nat×Nat)}{dr:X'}{op:Op}{dst:a_ Nat}{p:vN}{svs:So}{ys:T2}(a:Cc (.p p)=true)(r:R ν Z st F H)(rs:cn ν st.m H Z svs ys)
 (B:Cj X.E S.N F op ys (.p p)){sv:SV}(h:(k7 S.N st.m p svs).map (λx=>(x,st))=some (sv,st')):Ey S ops place dr F op dst ν Z st H sv st':=by
 have⟨x,w,e⟩:=ζf.1 h;obtain⟨rfl,rfl⟩:=e;have⟨y,z,u⟩:=Jn (λzero pl e=>by subst e;simpa[Cc]using a) r.obj rs w
 have⟨b,C⟩:=B;exact⟨0,y,H,ν,Z,λq _=>by unfold dJ;rw[b];simp only[<-gd.E,Ad (C y z),map_some],r,u,.refl,λ_=>⟨rfl,.refl⟩⟩
def BJ(gd:Good X S){ops:Rd}{place:a_ (Nat×Nat)}{dr:X'}{op:Op}{p:vN}{svs:So}{ys:T2}(hp:∀zero pl,p≠.build zero pl)(B:dx op=.alloc)(D:sH X.E ops place=true)(G:∀y,br S.N p ys=some y->qN X.E F op=some y)
 (r:R ν Z st F H)(rs:cn ν st.m H Z svs ys){sv:SV}(h:(k7 S.N st.m p svs).map (λx=>(x,st))=some (sv,st')):Ey S ops place dr F op none ν Z st H sv st':=by
 have⟨x,w,e⟩:=ζf.1 h;simp only[ζc]at e;obtain⟨rfl,rfl⟩:=e;have⟨y,z,u⟩:=Jn (N:=S.N) (λzero pl e=>absurd e (hp zero pl)) r.obj rs w
 refine⟨0,y,H,ν,Z,λq _=>?_,r,u,.refl,λ_=>⟨rfl,.refl⟩⟩
 unfold dJ;rw[B];simp only[D,if_true,<-gd.E,G y z,map_some]
def LS:∀{J B:aZ UV}{vs:T2},fT F (J++B)=some vs->∃D G,fT F J=some D/\fT F B=some G/\vs=D++G
 |[],B,vs,h=>⟨[],vs,rfl,h,rfl⟩|x::J,B,vs,h=>by obtain⟨a,az,b,U,rfl⟩:=jM h;obtain⟨D,G,g1,g2,rfl⟩:=LS U;exact⟨a::D,G,by simp[fT,b,g1],g2,rfl⟩
def Dx:∀{l:S'}{vs:T2},fT F (l.map Operand.tmp)=some vs->vs=l.map (get F)
 |[],vs,h=>rK h|x::l,vs,h=>by obtain⟨a,az,b,B,rfl⟩:=jM h;simp[ev]at b;subst b;rw[Dx B];rfl
def Xe(gd:Good X S){call:dL}{ops:Rd}{b j n a:Nat}{l:S'}{o:Oper}{B:aZ UV}{ys:T2}{y:V}(c:resolve X.E X.nm o.op=some (.l (.store n),.tmp a::B))(D:fT F ((.tmp a::B)++l.map Operand.tmp)=some ys)
 (J:BB ops j=some (a,l))(U:dN ops j=false)(e1:fP H (.storeF n) ys=some (y,H')):dJ S.E call ops (some (b,j)) F H o.op=some (y,H'):=by
 obtain⟨W,Y,d,I,rfl⟩:=LS D;have⟨g1,g2⟩:=ko gd.N c d;obtain⟨w,L,z,O,rfl⟩:=jM d;simp[ev]at z;have u:∃v,L=[v]:=by have C:∃x,B=[x]:=(by unfold resolve at c;((repeat' split at c)<;>first|grind|skip);(all_goals (try (have⟨_,_,e⟩:=ζf.1 c;simp[K.l.injEq,LC.store.injEq,reduceCtorEq]at e)));grind);obtain⟨x,rfl⟩:=C;obtain⟨v,Z,_,Q,rfl⟩:=jM O;rw[rK Q];grind
 obtain⟨v,rfl⟩:=u;rw[Dx I,<-z]at e1;simp at e1
 cases G:get F a with
 |hptr id el off=>
  rw[G]at e1;simp only[fP]at e1;split at e1
  .have T:sY ops j F=true:=by
    unfold sY
    grind
   unfold dJ;rw[g1];simp[T,<-gd.E];refine g2 _ _ ?_;rw[<-z,G];exact e1
  grind
 |_=>rw[G]at e1;simp[fP]at e1
def HW{E:Env}{nm:Y'->a_ Nat}{op:Op}{s:Nat}{a:X'}{os:aZ UV}(h:resolve E nm op=some (.r (.loadF s a),os)):False:=by
 unfold resolve at h;(repeat' split at h)<;>first|grind|skip
 all_goals simp_all
def JQ{E:Env}{nm:Y'->a_ Nat}{op:Op}{s a':Nat}{a:X'}{t:W'}{os:aZ UV}(h:resolve E nm op=some (.r (.load s a),os)):∃t x,op=.load t x/\os=[x]:=by
 unfold resolve at h;(repeat' split at h)<;>first|grind|skip
 all_goals simp_all
 grind
def Pj{E:Env}{nm:Y'->a_ Nat}{ops:Rd}{j:Nat}{op:Op}{q:LV}{os:aZ UV}(a:resolve E nm op=some (.r q,os))(h:∀n ag a',K.r q=.r (.load n ag)->os=[.tmp a']->∀t,op=.load t (.tmp a')->qJ ops j a'=[]):o6 ops j F op=true:=by
 unfold o6;split;rename_i t a';have:∃n ag,q=.load n ag/\os=[.tmp a']:=by have⟨d,_,e⟩:=ζf.1 a;grind
 grind;rfl
theorem VK (gd:Good X S) {ops:aZ Oper} {b j n a:Nat} {ag:Bool} {fr:aZ Nat} {o:Oper} {svs:aZ SV} {ys:aZ V} {dst:a_ Nat} {x:SV} (hr:resolve X.E X.nm o.op=some (.r (.load n ag),[.tmp a])) (W:fT F (.tmp a::(qJ ops j a).map Operand.tmp)=some ys) (rs:cn ν st.m H Z svs ys)
 (Y:ga fr svs=true) (aa:b<=H.length) (ab:∀d ob,bp st.m d=some ob->cI ob=true->d∉fr->(ν d).1<b) (D:∀id,Z id->id<b) (r:R ν Z st F H) (U:qD st.m (.loadF n ag) svs=some x):Ey S ops (some (b,j)) true F o.op dst ν Z st H x st:=by
 obtain⟨w,ws,h1,h2,rfl⟩:=jM W;simp[ev]at h1;have ad:=Dx h2;unfold qD at U;split at U <;> first|(rename_i u;cases u;done)|skip
 .rename_i size agg d off l u;cases u;split at U
  .rename_i C;split at U
   .rename_i cs B;obtain⟨w',ae,e,g1,g2⟩:=rs.inv;cases e;have G:=LN r B g2 C;obtain⟨_,_,rfl⟩:=g1.qh B;have I:∀id,Z id->Z id/\bz (H.take b) id=bz H id:=λid h=>⟨h,oI (D id h)⟩
    have J:∀id,Z id->Z id/\bz H id=bz (H.take b) id:=λid h=>⟨h,(oI (D id h)).symm⟩
    have af:d∉fr:=λhf=>by
     have:=pz Y d hf;simp[SV.dO,SV.c8]at this
    obtain⟨y,hy,O⟩:=xK  (r:=.load n ag)   (λs a e=>by cases e) (λkk z ok e=>by cases e) (cn.cons (g1.mono I λe _=>jO ν st.m e) .nil) (λd2 Q ob L=>by
     have ah:d2∉fr:=λhf=>by
      have  := by simpa [SV.dO,SV.c8]using Q
      grind
     exact eu.mono I rfl (λhb=>by grind) (λe _=>jO ν st.m e) (r.obj d2 ob L))  (by simp[qD,B];omega)
    obtain⟨k1,k2⟩:=ko  gd.N hr (show fT F [.tmp a]=some [.hptr (ν d).1 0 off]from by simp[fT,ev,h1])
    have T:o6 ops j F o.op=true:=by
     obtain⟨t,x',e1,e2⟩:=JQ (a':=0) (t:=0) hr;rw[e1];simp  at e2;subst e2;simp[o6];intro s hs;have hm:get F s∈ws:=by grind
     have:=List.all_eq_true.1 G _ hm;split
     .rename_i ai _ _ hg;simp[sq]at this ⊢
      grind
     rfl
    refine⟨0,y,H,ν,Z,λq _=>?_,r,O.mono J (λe _=>jO ν st.m e),.refl,λ_=>⟨rfl,.refl⟩⟩
    unfold dJ;rw[k1];simp[<-gd.E,k2 (H.take b) y hy,T]
   grind
  grind
 grind
def F_{E:Env}{nm:Y'->a_ Nat}{op:Op}{n:Nat}{os:aZ UV}(h:resolve E nm op=some (.l (.append n),os)){y:V}{ys:T2}(b:fT F os=some (y::ys))(B:y=.bR\/y=.dP):isApp op=true/\qV F op=true:=by
 have key:∃args u p s x,op=.call {callee:=.builtin .append,args:=args,argTypes:=u}/\args.toList=[s,x]/\os=[s,x]/\p=():=by unfold resolve at h;((repeat' split at h)<;>first|(simp at h;done)|skip);(all_goals (try (have⟨_,_,e⟩:=ζf.1 h;simp only[ζc,K.l.injEq,reduceCtorEq,false_and]at e)));all_goals (simp only[ζa,ζc]at h;obtain⟨_,rfl⟩:=h;exact⟨_,_,(),_,_,rfl,by assumption,rfl,rfl⟩)
 obtain⟨args,u,_,s,x,rfl,c,rfl,_⟩:=key;have⟨a,az,w,z,e⟩:=jM b;cases e;refine⟨rfl,?_⟩;simp only[qV,c,w];rcases B with rfl|rfl<;>rfl
def Xp(gd:Good X S)(hS:jV S c){ops:Rd}{place:a_ (Nat×Nat)}{dr:X'}{fr:S'}{i:Nat}(J:dr=place.isSome)(P:∀b j,place=some (b,j)->j=i)
 (K:∀b j,place=some (b,j)->b<=H.length/\Old b fr ν Z st.m)
 {o:Oper}{ro:RO}(E:oV X dr ops i o=some ro)(aE:∀b j,place=some (b,j)->ops[j]?=some o)(al:∀b j,place=some (b,j)->dx o.op=.alloc->H[b+j]?=some .free)
 (r:R ν Z st F H){sv:SV}(h:nN S c dr fr ro st=some (sv,st')):
 Ey S ops place dr F o.op (zS ro) ν Z st H sv st':=by
 unfold oV at E;split at E
 .split at E
  .rename_i g k os hg hr;split at E
   .rename_i A;split at E
    .rename_i ah;simp only[ζh]at ah;have am:sH X.E ops place=true:=by
      cases place with
      |none=>rw[J]at ah;exact absurd ah.1 Zab|some Q=>have⟨b,j⟩:=Q;rw[P b j rfl];exact ah.2
     split at E
     .rename_i size zero t l c U;obtain⟨az,M,rfl⟩:=ζf.1 E;unfold nN at h;split at h
      next L B=>have⟨ys,C,rs⟩:=pV gd.N r.slot M B;have I:=ko gd.N hr C;exact BJ gd (λ_ _ e=>by cases e) I.1 am (λy hy=>EJ ⟨_,_,_,U⟩ I hy) r rs h
      simp at h
     .rename_i size len zero idx t l c U;split at E
      .rename_i aF;obtain⟨aG,rfl,rfl⟩:=aF;obtain⟨az,M,rfl⟩:=ζf.1 E;unfold nN at h;split at h
       next L B=>have⟨ys,C,rs⟩:=pV gd.N r.slot M B;have I:=ko gd.N hr C;exact BJ gd (λ_ _ e=>by cases e) I.1 am (λy hy=>Ee ⟨_,_,_,U⟩ I aG hy) r rs h
       simp at h
      obtain⟨az,M,rfl⟩:=ζf.1 E;unfold nN at h;split at h
      next L B=>have⟨ys,C,rs⟩:=pV gd.N r.slot M B;have I:=ko gd.N hr C;exact BJ gd (λ_ _ e=>by cases e) I.1 am (λy hy=>EW ⟨_,_,_,U⟩ I hy) r rs h
      simp at h
     cases E
    rename_i ai;have ak:sH X.E ops place=false:=by cases place with|none=>rfl|some Q=>have⟨b,j⟩:=Q;have G:=P b j rfl;cases aw:Eu X.E ops j with|false=>exact aw|true=>exact absurd (by rw[J,<-G,aw];rfl) ai
    rcases En dr ops i k os with⟨hq,aH⟩|⟨u,an,n,a,l,aR,rfl,rfl,aI,hq⟩|⟨u,an,n,ag,a,rfl,rfl,hq⟩|⟨u,an,aJ,n,rfl,hq⟩
    rotate_left
    .rw[hq]at E;obtain⟨az,M,rfl⟩:=ζf.1 E;unfold nN at h;split at h
     .rename_i L B;have⟨ys,C,rs⟩:=pV gd.N r.slot M B;simp only[u,Bool.not_true,Bool.false_or,if_true]at h;have⟨y,H',ν',e1,e2,e3,e4,e5⟩:=Df r rs h;refine⟨0,y,H',ν',Z,λq _=>?_,e2,e3,e4.weak (λ_ h=>h.elim),λ_=>⟨rfl,e5⟩⟩
      cases place with
      |none=>rw[J]at u;cases u|some Q=>have⟨b,j⟩:=Q;have G:=P b j rfl;subst G;exact Xe gd hr C aI an e1
     simp at h
    .rw[hq]at E;obtain⟨az,M,rfl⟩:=ζf.1 E;unfold nN at h;split at h
     .rename_i L B;have⟨ys,C,rs⟩:=pV gd.N r.slot M B;simp only[u,Bool.not_true,Bool.or_self,Bool.false_or]at h;split at h
      .rename_i ao;have⟨x,hx,e⟩:=ζf.1 h;simp only[ζc]at e;obtain⟨rfl,rfl⟩:=e
       cases place with
       |none=>rw[J]at u;cases u|some Q=>have⟨b,j⟩:=Q;have G:=P b j rfl;subst G;have⟨ax,ap,aj⟩:=K b j rfl;rw[u];exact VK gd hr C rs ao ax ap aj r hx
      simp at h
     simp at h
    .rw[hq]at E;obtain⟨az,M,rfl⟩:=ζf.1 E;unfold nN at h;split at h
     rotate_left
     .simp at h
     rename_i L B;have⟨ys,C,rs⟩:=pV gd.N r.slot M B;simp only at h;have key:∃e x,(e=V.bR\/e=V.dP)/\L=[.v e,x]/\ow st o.dst (.append n) L=some (sv,st'):=by split at h;exact⟨_,_,.inl rfl,rfl,h⟩;exact⟨_,_,.inr rfl,rfl,h⟩;cases h
     obtain⟨e,x,he,rfl,hl⟩:=key;have⟨y,H',ν',e1,e2,e3,e4,e5⟩:=Df r rs hl;have⟨g1,g2⟩:=ko gd.N hr C;refine⟨0,y,H',ν',Z,λq _=>?_,e2,e3,e4.weak (λ_ h=>h.elim),λ_=>⟨rfl,e5⟩⟩
     obtain⟨y1,zs,rfl,f1,f2⟩:=rs.inv;have aK:y1=.bR\/y1=.dP:=by cases f1 with|v _ _ hf=>rcases he with rfl|rfl<;>first|exact .inl hf.bR|exact .inr hf.dP
     cases place with
     |none=>rw[J]at u;cases u|some Q=>have⟨b,j⟩:=Q;have G:=P b j rfl;subst G;have⟨r1,r2⟩:=F_ hr C aK;exact PJ r1 (by rw[<-gd.E];exact g2 _ _ e1) (.inr ⟨aJ,r2,(K b j rfl).1⟩)
    rw[hq]at E;obtain⟨az,M,rfl⟩:=ζf.1 E;unfold nN at h;split at h
    .rename_i L B;have⟨ys,C,rs⟩:=pV gd.N r.slot M B;have D:=ko gd.N hr C;simp only at h
     cases k with
     |p p=>
      cases p with
      |slice size lo P=>
       simp only at h;split at h
       .rename_i d bs;split at h
        .simp at h
        rename_i aq;have⟨y,ν',h1,h2,h3,h4⟩:=OK (N:=S.N) (Rv:=λid=>∃b j,place=some (b,j)/\id=b+j) r rs h
        have⟨g1,g2⟩:=D;exact⟨0,y,H,ν',Z,λq _=>by unfold dJ;rw[g1];simp only[<-gd.E,Ad (g2 y h1),map_some],h2,h3,h4,λhd=>absurd hd aq⟩
       exact Ol gd A r rs D h
      |_=>exact Ol gd A r rs D h
     |r q=>
      simp only at h;split at h
      .rename_i W;have⟨x,hx,e⟩:=ζf.1 h;simp only[ζc]at e;obtain⟨rfl,rfl⟩:=e;have⟨g1,g2⟩:=D;have ar:∀kk z ok,q=.lookup kk z ok->z.good=true:=λkk z ok e=>by subst e;simpa[Cc]using A
       have ab:∀s a,q≠.loadF s a:=λs a e=>by subst e;exact HW hr
       cases place with
       |none=>
        have⟨y,hy,ad⟩:=xK ab ar rs (λd _ ob hd=>r.obj d ob hd) hx
        exact⟨0,y,H,ν,Z,λq _=>by unfold dJ;rw[g1];simp only[<-gd.E,g2 H y hy,map_some],r,ad,.refl,λ_=>⟨rfl,.refl⟩⟩
       |some Q=>
        have⟨b,j⟩:=Q;have⟨ax,ap,aj⟩:=K b j rfl;have u:dr=true:=J;subst u;have G:=P b j rfl;subst G;simp only[Bool.not_true,Bool.false_or,Bool.true_and]at W;have ay:o6 ops j F o.op=true:=Pj hr λn ag a' e1 e2 t e3=>by by_cases T:dN ops j=true;exact Er (aE b j rfl) e3 T;exact aH n ag a' rfl (by simpa using T) e1 e2
        by_cases T:dN ops j=true
        .have⟨y,hy,ad⟩:=xK ab ar rs (λd _ ob hd=>r.obj d ob hd) hx
         have hH:=g2 H y hy;refine⟨0,y,H,ν,Z,λq _=>?_,r,ad,.refl,λ_=>⟨rfl,.refl⟩⟩
         unfold dJ;rw[g1];simp only[<-gd.E,ay,if_true];split
         next v hv=>have:=AL hv;rw[hH]at this;cases this;rfl
         rw[if_pos T,hH];rfl
        have ao:ga fr L=true:=by simpa[T]using W
        have aa:∀id,Z id->Z id/\bz (H.take b) id=bz H id:=λid h=>⟨h,oI (aj id h)⟩
        have aA:∀id,Z id->Z id/\bz H id=bz (H.take b) id:=λid h=>⟨h,(oI (aj id h)).symm⟩
        have⟨y,hy,ad⟩:=xK (H:=H.take b) ab ar (rs.mono aa λe _=>jO ν st.m e) (λd hd ob aB=>by
         have ab:d∉fr:=λhf=>by rw[pz ao d hf]at hd;cases hd
         exact eu.mono aa rfl (λhb=>by rw[getElem?_take,if_pos (ap d ob aB hb ab)]) (λe _=>jO ν st.m e) (r.obj d ob aB)) hx
        refine⟨0,y,H,ν,Z,λq _=>?_,r,ad.mono aA (λe _=>jO ν st.m e),.refl,λ_=>⟨rfl,.refl⟩⟩
        unfold dJ;rw[g1];simp only[<-gd.E,g2 (H.take b) y hy,ay,if_true]
      simp at h
     |a q=>
      simp only at h;split at h
      .rename_i d hd;split at h
       .rename_i Y;have⟨⟨ob,x⟩,hx,e⟩:=ζf.1 h;simp only[ζc]at e;obtain⟨rfl,rfl⟩:=e;have⟨ae,mk,e1,e2,e3,e4⟩:=OI A rs hx;have⟨g1,g2⟩:=D;have⟨n1,n2,n3,n4⟩:=nG Y;have au:∀p:Nat×Nat,∀e,SV.dO e L=true->∀af,bp (bT st.m d ob) e=some af->∃ob,bp st.m e=some ob/\jJ ν d p e=ν e/\sameShape ob af:=λp e he=>by
         refine uP ?_;rintro rfl;have:∀{xs:QP}{vs:So},ck S.N st.g xs=some vs->SV.dO e vs=false:=by intro xs;induction xs with|nil=>intro vs h;simp only[ck,ζa]at h;subst h;rfl|cons a xs ih=>intro vs h;simp only[ck]at h;split at h;rename_i v aS h1 h2;simp only[ζa]at h;subst h;simp only[SV.dO,or_eq_false_iff];refine⟨?_,ih h2⟩;(cases a with|s n=>exact zK n3 h1|k c=>simp only[si,ζa]at h1;subst h1;rfl|f s=>simp only[si,ζa]at h1;subst h1;rfl);simp at h
         rw[this B]at he;cases he
        have fin:∀(id:Nat)(Hn:bq),H.length<=Hn.length->Hn[id]?=some ae->(∀k,k<H.length->k≠id->Hn[k]?=H[k]?)->(∀k,gq ν st.m k->k≠id)->(∀k,Z k->k≠id)->
         R (jJ ν d (id,0)) Z {st with m:=bT st.m d ob} F Hn/\dw (jJ ν d (id,0)) (bT st.m d ob) Hn Z x (mk.val id)/\(∀k,Z k->bz Hn k=bz H k):=λid Hn hl aL I ho hz=>by
         have aa:∀k,Z k->bz Hn k=bz H k:=λk A=>by unfold bz;rw[I k (r.xH A) (hz k A)]
         have⟨a1,a2⟩:=e4 id (jJ ν d (id,0)) (bT st.m d ob) Hn (iP _ _ _) (cO _ _ _) aL aa (au _);have r2:R ν Z st F Hn:=r.heap (λk A=>I k (r.lt A) (ho k A)) aa
         exact⟨r2.add Y (λ_=>⟨λh=>ho _ h rfl,λh=>hz _ h rfl⟩) a1,a2,aa⟩
        have aC:o.dst=some d:=hd
        cases place with
        |none=>
         have⟨f1,f2,f3⟩:=fin H.length (H++[ae]) Zab Zab (λk A _=>getElem?_append_left A) (λk A=>Nat.ne_of_lt (r.lt A)) (λk A=>Nat.ne_of_lt (r.xH A))
         refine⟨0,mk.val H.length,H++[ae],jJ ν d (H.length,0),Z,λq _=>?_,f1,f2,Ev.add Y Zab (λk A _=>getElem?_append_left A) f3 (λ_=>.inr (le_refl _)),λhh=>?_⟩
         .unfold dJ;rw[g1];simp only[ak,false_eq_true,if_false,<-gd.E,g2 _ e1]
         rw[J]at hh;cases hh
        |some Q=>
         have⟨b,j⟩:=Q;have hf:=al b j rfl g1;have aM:=(ζe.1 hf).1;have nf:∀k,gq ν st.m k->k≠b+j:=λk A e=>by subst e;have⟨d',af,w1,w2,w3⟩:=A;have:=r.obj d' af w1;cases af with|sl fl es xs=>simp only[cI]at w2;simp only[eu,w2,if_true]at this;have⟨_,O,_⟩:=this;rw[w3,hf]at O;cases O|box cs=>have⟨_,_,O,_⟩:=this;rw[w3,hf]at O;cases O|mp aT=>have⟨_,O,_⟩:=this;rw[w3,hf]at O;cases O
         have nz:∀k,Z k->k≠b+j:=λk A e=>by subst e;have:=r.zrow _ A;unfold bz at this;rw[hf]at this;simp[Ob.rows]at this
         have⟨f1,f2,f3⟩:=fin (b+j) (H.set (b+j) ae) Zab (by rw[getElem?_set_self aM]) (λk _ A=>by rw[getElem?_set,if_neg (Ne.symm A)]) nf nz
         refine⟨0,mk.val (b+j),H.set (b+j) ae,jJ ν d (b+j,0),Z,λq _=>?_,f1,f2,Ev.add Y Zab (λk _ A=>?_) f3 (λ_=>.inl ⟨b,j,rfl,rfl⟩),λ_=>⟨rfl,?_⟩⟩
         .unfold dJ;rw[g1];simp only[ak,false_eq_true,if_false,<-gd.E,g2 _ e1,hf]
         .rw[getElem?_set,if_neg λe=>A ⟨b,j,rfl,e.symm⟩]
         have:zS ⟨o.dst,g,dr&&dN ops j,.a q,az,[],[]⟩=some d:=aC;have G:=P b j rfl;subst G;rw[this];exact Kept.add λ_ _ h=>h
       simp at h
      simp at h
     |l q=>
      simp only at h;split at h
      .rename_i W;have⟨y,H',ν',e1,e2,e3,e4,e5⟩:=Df r rs h;have⟨g1,g2⟩:=D;refine⟨0,y,H',ν',Z,λq _=>?_,e2,e3,e4.weak (λ_ h=>h.elim),λ_=>⟨rfl,e5⟩⟩
       unfold dJ;rw[g1];simp only[<-gd.E]
       cases place with
       |none=>exact g2 _ _ e1|some Q=>
        have⟨b,j⟩:=Q;have u:dr=true:=J;subst u;have G:=P b j rfl;subst G;have T:dN ops j=true:=by simpa using W
        simp only[T,if_true];exact g2 _ _ e1
      simp at h
     |e n=>exact D.elim|b=>
      simp only at h;split at h
      .cases h
      rename_i aq;have aN:dr=false:=by simpa using aq
      have aO:place=none:=by cases place with|none=>rfl|some Q=>rw[aN]at J;simp at J
      subst aO;split at h
      next x=>have⟨xs,h1,h2⟩:=ζg.1 h;have⟨l,h3,e⟩:=ζf.1 h2;simp only[ζc]at e;obtain⟨rfl,rfl⟩:=e;have⟨g1,y,e1,g2⟩:=D;have⟨y',_,e2,r1,r2⟩:=rs.inv;rw[e1]at e2;cases e2;have⟨zs,k1,k2⟩:=vV r1 r.obj h1;have hz:qW zs=some l:=Bt k2 h3;have⟨q1,q2⟩:=g2 H zs l k1 hz;exact⟨0,_,H,ν,Z,λq _=>by unfold dJ;rw[g1];simp only[t_,<-gd.E,q1,q2,map_some],r,.v _ _ (.same _ rfl),.refl,λ_=>⟨rfl,.refl⟩⟩
      cases h
     |c=>
      simp only at h;have⟨g1,f',aU,e1,e2⟩:=D;have go:∀(f:Y')(args:So)(av:T2),cn ν st.m H Z args av->kX F o.op=some (.fn f,av)->fc S c o.dst dr (!dr||(dr&&dN ops i)) (f_ st.m fr) f args st=some (sv,st')->
       Ey S ops place dr F o.op (zS ⟨o.dst,g,dr&&dN ops i,.c,az,[],[]⟩) ν Z st H sv st':=λf args av aP aD aQ=>by
       have⟨n,y,H',ν',Z',p1,p2,p3,p4,p5,p6⟩:=Sg (ops:=ops) (Rv:=λid=>∃b j,place=some (b,j)/\id=b+j) hS gd.prm J (λb j hp hn=>by
        have:=P b j hp;subst this;simp only[ζh]at hn;exact hn.2) (λb j hp hn=>by have:=P b j hp;subst this;rw[J,hp]at hn;simpa using hn) (λb j hp=>(K b j hp).2) r aP aQ
       refine⟨n,y,H',ν',Z',λq hq=>?_,p2,p3,p4,λhd=>⟨p5 hd,p6⟩⟩
       unfold dJ;rw[g1];simp only[aD];exact p1 q hq
      split at h
      next f a b vs=>have⟨w,ws,ew,r1,r2⟩:=rs.inv;rw[ew]at e1;simp only[List.cons.injEq]at e1;obtain⟨rfl,rfl⟩:=e1;obtain⟨a',b',rfl,ra,rb⟩:=r1.lq;exact go f _ _ ((ra.append r2).append rb) e2 h
      next f a b vs=>have⟨w,ws,ew,r1,r2⟩:=rs.inv;rw[ew]at e1;simp only[List.cons.injEq]at e1;obtain⟨rfl,rfl⟩:=e1;obtain⟨a',b',rfl,ra,rb⟩:=r1.fr.lq;exact go f _ _ (((cn.sS ra).append r2).append (cn.sS rb)) e2 h
      simp at h
    simp at h
   simp at E
  simp at E
 simp at E
end
def gQ(N:Nat->Y')(g:Tb SV)(o:RO):a_ (Nat×So):=
 match o.k,ck N g o.az with
 |.c,some (.yl id::u)=>some (id,u)|_,_=>none
open Classical in
noncomputable def gA(S:Sys)(c:cm)(dr:X')(fr:S')(o:RO)(st:St):a_ St:=
 match wanted st.g o.gd with
 |some true=>match gQ S.N st.g o with
  |some (id,z)=>if dr then none else match dI z,st.want with
   |some B,w::u=>if B=w/\id=st.yid then some (dy {st with want:=u} o.dst (.v (.bool (st.more|| !u.isEmpty))))else none|_,_=>none
  |none=>(nN S c dr fr o st).map λ(x,st')=>dy st' o.dst x
 |some false=>some (dy st o.dst (.v .undef))|none=>none
def RO.strip(o:RO):RO:={o with dead:=[],pre:=[]}
def qg:QQ->St->a_ St
 |[],st=>some st|x::r,st=>(ghost x st).bind (qg r)
def BG:Gh->X'
 |.keep ..=>true|.drop _=>true|_=>false
def DO(dr:X')(l:QQ)(st:St):a_ St:=if dr then(if l.all BG then qg l st else none)else qg l st
def qG(ds:S')(st:St):St:={st with g:=qK ds st.g}
noncomputable def oB(S:Sys)(c:cm)(dr:X'):S'->ST->St->a_ St
 |_,[],st=>some st|fr,o::r,st=>match(DO dr o.pre st).bind (gA S c dr fr o.strip)with
  |some st'=>oB S c dr (if dr then sC fr o.strip else fr) r (qG o.dead st')|none=>none
abbrev JT:=aZ (aZ V)->(Nat->Prop)->(Nat->Prop)->bq->Prop
structure Yc(S:Sys)(J:JT)(more:Bool)(yid:Nat):Prop where
 xM:∀w O Z H O' Z' H',J w O Z H->H.length<=H'.length->(∀i,i<H.length->¬O i->¬Z i->H'[i]?=H[i]?)->(∀i,Z i->Z' i/\bz H' i=bz H i)->
  (∀i,O' i->O i\/H.length<=i)->(∀i,Z' i->Z i\/O i\/H.length<=i)->J w O' Z' H'
 yield:∀x ws O Z H args,J (x::ws) O Z H->dB H Z x args->(∀i,Z i->(bz H i).isSome=true)->Deep H Z->(∀i,O i->¬Z i/\i<H.length)->
  ∃n H',run S.E n (.yld yid) args H=some (.bool (more|| !ws.isEmpty),H')/\J ws O Z H'/\H.length<=H'.length/\(∀i,O i->H'[i]?=H[i]?)/\(∀i,Z i->bz H' i=bz H i)
structure Fix(ν:Nu)(st:St)(ν':Nu)(st':St):Prop where
 pin:∀d∈st.pin,∀ob',bp st'.m d=some ob'->∃ob,bp st.m d=some ob/\ν' d=ν d/\sameShape ob ob'
 pins:st'.pin=st.pin
 more:st'.more=st.more
 yid:st'.yid=st.yid
section
variable{Rv:Nat->Prop}{ν ν' ν2:Nu}{Z Z':Nat->Prop}{st st' st2:St}{m m':Tb bP}{F F':WP}{H H' H1:bq}{S:Sys}{c:cm}{X:CX}{J:JT}
def Fix.refl:Fix ν st ν st:=⟨λ_ _ u h=>⟨u,h,rfl,.refl _⟩,rfl,rfl,rfl⟩
def Fix.trans(a:Fix ν st ν' st')(b:Fix ν' st' ν2 st2):Fix ν st ν2 st2:=
 ⟨λd hd u h=>by
  have⟨w,c,C,z⟩:=b.pin d (by rw[a.pins];omega) u h
  have⟨ob,k1,D,B⟩:=a.pin d hd w c;exact⟨ob,k1,Zad,B.trans z⟩,by rw[b.pins,a.pins],by rw[b.more,a.more],by rw[b.yid,a.yid]⟩
def Ev.beside(y:Yc S J st.more st.yid)(a:Ev (λ_=>False) ν Z st H ν' Z' st' H')(B:st'.want=st.want)(j:J st.want (gq ν st.m) Z H):J st'.want (gq ν' st'.m) Z' H':=by
 rw[B];exact y.xM _ _ _ _ _ _ _ j a.len (λi b u w=>a.same i b u w (λh=>h)) a.rows (λi h=>(a.own i h).imp (λh=>h) (λh=>h.elim (λh=>h.elim) (λh=>h)))
  (λi h=>(a.frz i h).imp (λh=>h) (λh=>h.imp (λh=>h) (λh=>h.elim (λh=>h.elim) (λh=>h))))
def wU(D:∀s sv,bp st.g s=some sv->dw ν m H Z sv (get F s)){ops:Rd}{o:Oper}{gd:a_ (Nat×X')}(a:C_ ops o=some gd){t:X'}(B:wanted st.g gd=some t):gL ops F o=t:=by unfold C_ at a;unfold gL;cases u:o.guard with|none=>rw[u]at a;simp at a;simp[wanted]at B;grind|some C=>rw[u]at a;obtain⟨d,hd,rfl⟩:=ζf.1 a;simp[hd];simp[wanted]at B;split at B;(next c b=>simp at B;subst B;rw[(D d _ b).fr.bool]);rename_i x G b;simp at B;subst B;have w:=(D d _ b).fr;split;rename_i c z;rw[z]at w;cases w;grind;rfl;grind
def PC{q:GH}{dst:a_ Nat}{args:So}{sv:SV}(h:DL q dst args st=some (sv,st')):st'.want=st.want/\st'.pin=st.pin/\st'.more=st.more/\st'.yid=st.yid:=by unfold DL at h;grind
def QV{dr:X'}{fr:S'}{ro:RO}{sv:SV}(h:nN S c dr fr ro st=some (sv,st')):st'.want=st.want/\st'.pin=st.pin/\st'.more=st.more/\st'.yid=st.yid:=by
 unfold nN at h;split at h
 .split at h;split at h;split at h;simp at h;unfold A5 at h;split at h;split at h;have⟨_,_,h⟩:=ζg.1 h;have⟨_,_,h⟩:=ζg.1 h;dsimp only at h;split at h;simp only[ζa,ζc]at h;obtain⟨_,rfl⟩:=h;exact⟨rfl,rfl,rfl,rfl⟩;simp at h;simp at h;simp at h;have⟨_,_,e⟩:=ζf.1 h;simp only[ζc]at e;obtain⟨_,rfl⟩:=e;exact⟨rfl,rfl,rfl,rfl⟩;have⟨_,_,e⟩:=ζf.1 h;simp only[ζc]at e;obtain⟨_,rfl⟩:=e;exact⟨rfl,rfl,rfl,rfl⟩;split at h;have⟨_,_,e⟩:=ζf.1 h;simp only[ζc]at e;obtain⟨_,rfl⟩:=e;exact⟨rfl,rfl,rfl,rfl⟩;simp at h;split at h;split at h;have⟨_,_,e⟩:=ζf.1 h;simp only[ζc]at e;obtain⟨_,rfl⟩:=e;exact⟨rfl,rfl,rfl,rfl⟩;simp at h;simp at h
  .split at h
   .unfold ow at h;((repeat' split at h)<;>first|(simp at h;done)|(simp only[ζa,ζc]at h;obtain⟨_,rfl⟩:=h;exact⟨rfl,rfl,rfl,rfl⟩)|(have⟨_,_,e⟩:=ζf.1 h;simp only[ζc]at e;obtain⟨_,rfl⟩:=e;exact⟨rfl,rfl,rfl,rfl⟩)|skip);dsimp only at h;(repeat' split at h)<;>first|(simp at h;done)|(simp only[ζa,ζc]at h;obtain⟨_,rfl⟩:=h;exact⟨rfl,rfl,rfl,rfl⟩)
   simp at h
  .have hc:∀{dst dr now old f args},fc S c dst dr now old f args st=some (sv,st')->st'.want=st.want/\st'.pin=st.pin/\st'.more=st.more/\st'.yid=st.yid:=(by intro dst dr now old f args h;unfold fc at h;(repeat' split at h)<;>first|exact PC h|(have⟨_,_,e⟩:=ζf.1 h;simp only[ζc]at e;obtain⟨_,rfl⟩:=e;exact⟨rfl,rfl,rfl,rfl⟩)|(simp at h;done)|(simp only[ζa,ζc]at h;obtain⟨_,rfl⟩:=h;exact⟨rfl,rfl,rfl,rfl⟩));split at h;exact hc h;exact hc h;simp at h
  split at h;simp at h;split at h;have⟨_,_,h⟩:=ζg.1 h;have⟨_,_,e⟩:=ζf.1 h;simp only[ζc]at e;obtain⟨_,rfl⟩:=e;exact⟨rfl,rfl,rfl,rfl⟩;simp at h;have w:∀{dst l u},ow st dst l u=some (sv,st')->st'.want=st.want/\st'.pin=st.pin/\st'.more=st.more/\st'.yid=st.yid:=by intro dst l u h;unfold ow at h;((repeat' split at h)<;>first|(simp at h;done)|(simp only[ζa,ζc]at h;obtain⟨_,rfl⟩:=h;exact⟨rfl,rfl,rfl,rfl⟩)|(have⟨_,_,e⟩:=ζf.1 h;simp only[ζc]at e;obtain⟨_,rfl⟩:=e;exact⟨rfl,rfl,rfl,rfl⟩)|skip);all_goals (dsimp only at h;(repeat' split at h)<;>first|(simp at h;done)|(simp only[ζa,ζc]at h;obtain⟨_,rfl⟩:=h;exact⟨rfl,rfl,rfl,rfl⟩))
  split at h;exact w h;exact w h;simp at h
 simp at h
def B_(r:R ν Z st F H){a:Nat}{dst:a_ Nat}(hd:zW a dst=true){sv:SV}{y:V}(h:dw ν st.m H Z sv y):∃F',kQ a F dst y=some F'/\R ν Z (dy st dst sv) F' H:=by cases dst with|none=>exact⟨F,rfl,r⟩|some d=>have:=(by simpa[zW]using hd);exact⟨set F d y,by simp[kQ,if_pos this],r.put h⟩
def E3(st:St)(dst:a_ Nat)(sv:SV):(dy st dst sv).m=st.m/\(dy st dst sv).want=st.want/\(dy st dst sv).pin=st.pin/\(dy st dst sv).more=st.more/\(dy st dst sv).yid=st.yid:=by cases dst<;>exact⟨rfl,rfl,rfl,rfl,rfl⟩
def L0(gd:Good X S)(p:jV S c){ops:Rd}{place:a_ (Nat×Nat)}{dr:X'}{fr:S'}{i:Nat}(G:dr=place.isSome)(q:∀b j,place=some (b,j)->j=i)
 (a:∀b j,place=some (b,j)->b<=H.length/\Old b fr ν Z st.m)
 {o:Oper}{ro:RO}(l:oV X dr ops i o=some ro)(J:∀b j,place=some (b,j)->ops[j]?=some o)(D:∀b j,place=some (b,j)->dx o.op=.alloc->H[b+j]?=some .free)
 (r:R ν Z st F H)(B:gQ S.N st.g ro=none\/dr=true)(h:gA S c dr fr ro st=some st'):
 ∃n F' H' ν' Z',(∀k,n<=k->iu S.E (run S.E k) X.nt ops place o F H=some (F',H'))/\R ν' Z' st' F' H'/\Ev (λid=>∃b j,place=some (b,j)/\id=b+j) ν Z st H ν' Z' st' H'/\
  (dr=true->Z'=Z/\Kept (zS ro) ν st.m ν' st'.m)/\st'.want=st.want/\Fix ν st ν' st':=by
 have I:=l;obtain⟨u,g,now,k,az,m,rfl⟩:=EZ l;unfold gA at h;split at h
 .rename_i L;have w:=wU r.slot m L;have T:(nN S c dr fr ⟨o.dst,g,now,k,az,[],[]⟩ st).map (λ(x,st')=>dy st' o.dst x)=some st':=by
   split at h
   .rename_i id vs C;rcases B with B|B
    .rw[B]at C;cases C
    subst B;simp at h
   exact h
  obtain⟨⟨x,O⟩,hd,rfl⟩:=ζf.1 T;have⟨n,y,H',ν',Z',e1,e2,e3,e4,e5⟩:=Xp gd p G q a I J D r hd;have⟨U,Q,W,Y⟩:=QV hd;have⟨F',e,f⟩:=B_ e2 u e3;have⟨p1,p2,p3,p4,p5⟩:=E3 O o.dst x;refine⟨n,F',H',ν',Z',λk s=>?_,f,?_,λhd=>⟨(e5 hd).1,by rw[p1];exact(e5 hd).2⟩,by rw[p2,U],⟨λd hd=>by rw[p1];exact e4.pin d hd,by rw[p3,Q],by rw[p4,W],by rw[p5,Y]⟩⟩
  .unfold iu;simp only[w,if_true,e1 k s,e,map_some]
  exact⟨e4.len,e4.same,e4.rows,λid h=>e4.own id (by rw[p1]at h;exact h),e4.frz,λd hd=>by rw[p1];exact e4.pin d hd,by rw[p3,Q]⟩
 .rename_i L;have w:=wU r.slot m L;simp only[ζa]at h;subst h;have⟨F',e,f⟩:=B_ r u (.v V.undef V.undef (.same _ rfl));have⟨p1,p2,p3,p4,p5⟩:=E3 st o.dst (.v .undef);refine⟨0,F',H,ν,Z,λk _=>?_,f,?_,λ_=>⟨rfl,by rw[p1];exact .refl⟩,p2,⟨λd hd=>by rw[p1];exactλz h=>⟨z,h,rfl,.refl _⟩,p3,p4,p5⟩⟩
  .unfold iu;simp only[w,false_eq_true,if_false,e,map_some]
  exact⟨le_refl _,λ_ _ _ _ _=>rfl,λ_ h=>⟨h,rfl⟩,λ_ h=>.inl (by rw[p1]at h;exact h),λ_ h=>.inl h,λd hd=>by rw[p1];exactλz h=>⟨z,h,rfl,.refl _⟩,p3⟩
 simp at h
def Rx(gd:Good X S)(y:Yc S J st.more st.yid){ops:Rd}{fr:S'}{i:Nat}{o:Oper}{ro:RO}(a:oV X false ops i o=some ro)
 (r:R ν Z st F H)(j:J st.want (gq ν st.m) Z H){id:Nat}{vs:So}(B:gQ S.N st.g ro=some (id,vs))(D:wanted st.g ro.gd=some true)(h:gA S c false fr ro st=some st'):
 ∃n F' H',(∀k,n<=k->iu S.E (run S.E k) X.nt ops none o F H=some (F',H'))/\R ν Z st' F' H'/\J st'.want (gq ν st'.m) Z H'/\Fix ν st ν st':=by
 unfold oV at a;simp only[Bool.false_and,false_eq_true,if_false]at a;split at a
 .rename_i C;split at a
  .rename_i g k os hg hr;split at a
   .obtain⟨az,U,rfl⟩:=ζf.1 a;unfold gA at h;simp only at D;have L:=wU r.slot hg D;rw[D]at h;simp only[B,false_eq_true,if_false]at h;unfold gQ at B;split at B
    .rename_i W Y b G;simp only[ζa,ζc]at B;obtain⟨rfl,rfl⟩:=B;simp only at b G;subst b;have⟨ys,O,rs⟩:=pV gd.N r.slot U G;have⟨g1,E,K,e1,e2⟩:=ko gd.N hr O;have⟨w,M,f,r1,r2⟩:=rs.inv;rw[f]at e1;simp only[List.cons.injEq]at e1;obtain⟨rfl,rfl⟩:=e1;cases r1;simp only at e2;split at h
     .rename_i xs x I hx u;split at h
      .rename_i z;obtain⟨rfl,rfl⟩:=z;simp only[ζa]at h;subst h;rw[u]at j;have⟨n,H',p1,p2,p3,p4,p5⟩:=y.yield _ _ _ _ _ _ j (r2.dI hx) r.zrow r.deep (λi e=>⟨by obtain⟨d,ob,l,m,rfl⟩:=e;exact r.apart d ob l m,r.lt e⟩)
       have r3:R ν Z st F H':=r.heap p4 p5;have r4:R ν Z {st with want:=I} F H':=⟨r3.slot,r3.obj,r3.inj,r3.apart,r3.zrow,r3.deep⟩;have⟨F',p,q⟩:=B_ (st:={st with want:=I}) r4 C (sv:=.v (.bool (st.more|| !I.isEmpty))) (.v _ _ (.same _ rfl));have⟨T,s,t,v,A⟩:=E3 {st with want:=I} o.dst (.v (.bool (st.more|| !I.isEmpty)));refine⟨n,F',H',λk b=>?_,q,by rw[T,s];exact p2,⟨λd hd=>by rw[T];exactλQ h=>⟨Q,h,rfl,.refl _⟩,t,v,A⟩⟩
       unfold iu dJ;rw[g1,e2];simp only[L,if_true,(pg S.E b).go _ _ _ _ p1,p,map_some]
      simp at h
     simp at h
    simp at B
   simp at a
  simp at a
 simp at a
def mw(X:CX)(B:X')(ops:Rd):Nat->Rd->a_ ST
 |_,[]=>some []|i,o::r=>match oV X B ops i o,mw X B ops (i+1) r with
  |some ro,some rs=>some (ro::rs)|_,_=>none
def R.An(r:R ν Z st F H)(ds:S'):R ν Z (qG ds st) F H:=r.less (λs w u=>pS u) (λd ob hd=>hd)
def Fix.An{ds:S'}(f:Fix ν (qG ds st) ν' st'):Fix ν st ν' st':=⟨f.pin,f.pins,f.more,f.yid⟩
def Fix.ghost(r:R ν Z st F H)(y:Yc S J st.more st.yid)(j:J st.want (gq ν st.m) Z H){x:Gh}(h:ghost x st=some st'):∃ν' Z',R ν' Z' st' F H/\J st'.want (gq ν' st'.m) Z' H/\Fix ν st ν' st':=by
 have⟨ν',Z',a,u⟩:=SK (Rv:=λ_=>False) r h;have w:st'.want=st.want/\st'.more=st.more/\st'.yid=st.yid:=by unfold Go.VE.ghost Bd at h;(repeat' split at h)<;>first|grind|grind
 exact⟨ν',Z',a,u.beside y w.1 j,⟨u.pin,u.pins,w.2.1,w.2.2⟩⟩
def Fix.quiet(r:R ν Z st F H):∀{l:QQ}{st':St},l.all BG=true->Go.VE.qg l st=some st'->R ν Z st' F H/\Ev Rv ν Z st H ν Z st' H/\st'.want=st.want/\Fix ν st ν st'/\∀d ob,bp st'.m d=some ob->bp st.m d=some ob:=by intro l;induction l generalizing st with|nil=>intro st' _ h;simp[Go.VE.qg]at h;subst h;exact⟨r,.refl,rfl,.refl,λ_ _ h=>h⟩|cons x l C=>intro st' z h;simp only[all_cons,ζh]at z;have⟨D,a,G⟩:=ζg.1 h;have key:∃g m,D={st with g:=g,m:=m}/\(∀s u,bp g s=some u->bp st.g s=some u)/\∀d ob,bp m d=some ob->bp st.m d=some ob:=(by cases x with|keep gs U=>simp[Go.VE.ghost]at a;split at a;(next g m b I=>simp at a;subst a;exact⟨g,m,rfl,λs u B=>rN b B,λd ob hd=>rN I hd⟩);grind|drop ds=>simp[Go.VE.ghost]at a;subst a;exact⟨_,st.m,rfl,λs u B=>pS B,λ_ _ h=>h⟩|_=>simp[BG]at z);obtain⟨g,m,rfl,J,w⟩:=key;have⟨L,O,Q,S,T⟩:=C (r.less J w) z.2 G;exact⟨L,(Ev.less w).trans O,Q,Fix.trans (st':={st with g:=g,m:=m}) ⟨λd _ ob h=>⟨ob,w d ob h,rfl,.refl _⟩,rfl,rfl,rfl⟩ S,λd ob h=>w d ob (T d ob h)⟩
def Fix.qg:∀{l:QQ}{ν:Nu}{Z:Nat->Prop}{st st':St},R ν Z st F H->Yc S J st.more st.yid->J st.want (gq ν st.m) Z H->qg l st=some st'->∃ν' Z',R ν' Z' st' F H/\J st'.want (gq ν' st'.m) Z' H/\Fix ν st ν' st'
 |[],ν,Z,st,st',r,y,j,h=>by simp[Go.VE.qg]at h;subst h;exact⟨ν,Z,r,j,.refl⟩|x::l,ν,Z,st,st',r,y,j,h=>by have⟨B,b,D⟩:=ζg.1 h;have⟨z,C,r1,u,a⟩:=Fix.ghost r y j b;have⟨ν2,Z2,r2,w,c⟩:=Fix.qg r1 (by rw[a.more,a.yid];omega) u D;exact⟨ν2,Z2,r2,w,a.trans c⟩
def S0(gd:Good X S)(e:jV S c){ops:Rd}{fr:S'}{i:Nat}{o:Oper}{ro:RO}{B:St}(a:oV X false ops i o=some ro)(y:Yc S J st.more st.yid)(r:R ν Z st F H)(j:J st.want (gq ν st.m) Z H)(G:gA S c false fr ro st=some B):
 ∃n F' H' ν' Z',(∀k,n<=k->iu S.E (run S.E k) X.nt ops none o F H=some (F',H'))/\R ν' Z' B F' H'/\J B.want (gq ν' B.m) Z' H'/\Fix ν st ν' B:=by
 by_cases L:wanted st.g ro.gd=some true
 .cases C:gQ S.N st.g ro with
  |none=>
   have⟨n,F',H',ν',Z',e1,e2,e3,e4,e5,e6⟩:=L0 gd e (place:=none) rfl (λb j h=>by cases h) (λb j h=>by cases h) a (λb j h=>by cases h) (λb j h=>by cases h) r (.inl C) G
   exact⟨n,F',H',ν',Z',e1,e2,(e3.weak (λid⟨b,j,h,_⟩=>by cases h)).beside y e5 j,e6⟩
  |some p=>have⟨id,Q⟩:=p;have⟨n,F',H',e1,e2,e3,e4⟩:=Rx gd y a r j C L G;exact⟨n,F',H',ν,Z,e1,e2,e3,e4⟩
 have u:gA S c false fr ro st=some B:=G;have O:gQ S.N st.g {ro with az:=[]}=none:=by unfold gQ;simp[ck]
 obtain⟨n,F',H',ν',Z',e1,e2,e3,e4,e5,e6⟩:∃n F' H' ν' Z',(∀k,n<=k->iu S.E (run S.E k) X.nt ops none o F H=some (F',H'))/\R ν' Z' B F' H'/\Ev (λ_=>False) ν Z st H ν' Z' B H'/\True/\B.want=st.want/\Fix ν st ν' B:=by unfold gA at u;split at u;(next w=>exact absurd w L);rename_i w;simp only[ζa]at u;subst u;unfold oV at a;simp only[Bool.false_and,false_eq_true,if_false]at a;split at a;rename_i D;split at a;rename_i g k os f q;split at a;obtain⟨az,T,rfl⟩:=ζf.1 a;have I:=wU r.slot f w;have⟨F',l,m⟩:=B_ r D (.v V.undef V.undef (.same _ rfl));have⟨p1,p2,p3,p4,p5⟩:=E3 st o.dst (.v .undef);refine⟨0,F',H,ν,Z,λk _=>?_,m,?_,trivial,p2,⟨λd hd=>by rw[p1];exactλz h=>⟨z,h,rfl,.refl _⟩,p3,p4,p5⟩⟩;unfold iu;simp only[I,false_eq_true,if_false,l,map_some];exact⟨le_refl _,λ_ _ _ _ _=>rfl,λ_ h=>⟨h,rfl⟩,λ_ h=>.inl (by rw[p1]at h;exact h),λ_ h=>.inl h,λd hd=>by rw[p1];exactλz h=>⟨z,h,rfl,.refl _⟩,p3⟩;simp at a;simp at a;simp at a;simp at u
 exact⟨n,F',H',ν',Z',e1,e2,e3.beside y e5 j,e6⟩
def Qb(gd:Good X S)(d:jV S c){ops:Rd}{fr:S'}:∀(rest:Rd){i:Nat}{B:ST}{ν:Nu}{Z:Nat->Prop}{st st':St}{F:WP}{H:bq},mw X false ops i rest=some (B.map RO.strip)->oB S c false fr B st=some st'->
 Yc S J st.more st.yid->R ν Z st F H->J st.want (gq ν st.m) Z H->
 ∃n F' H' ν' Z',(∀k,n<=k->nH S.E (run S.E k) X.nt ops rest F H=some (F',H'))/\R ν' Z' st' F' H'/\J st'.want (gq ν' st'.m) Z' H'/\Fix ν st ν' st'
 |[],i,B,ν,Z,st,st',F,H,hc,h,y,r,j=>by simp only[mw,ζa]at hc;have:=List.map_eq_nil_iff.1 hc.symm;subst this;simp[oB]at h;subst h;exact⟨0,F,H,ν,Z,λ_ _=>rfl,r,j,.refl⟩|o::rest,i,B,ν,Z,st,st',F,H,hc,h,y,r,j=>by simp[mw]at hc;split at hc;rename_i T rs f U;obtain⟨u,w,rfl,C,D⟩:∃u w,B=u::w/\T=u.strip/\rs=w.map RO.strip:=(by cases B with|nil=>simp_all|cons a b=>grind);subst D;simp[oB,<-C]at h;split at h;rename_i z G;have⟨W,I,G⟩:=ζg.1 G;have⟨E,K,g,Y,L⟩:=Fix.qg r y j I;have⟨l,F1,H1,M,N,m,p,a3,O⟩:=S0 gd d f (by rw[L.more,L.yid];omega) g Y G;have Q:=L.trans O;have⟨q,s,H2,ν2,Z2,t,v,x,A⟩:=Qb gd d rest U h (by show Yc S J z.more z.yid;rw[Q.more,Q.yid];omega) (R.An p u.dead) a3;refine⟨max l q,s,H2,ν2,Z2,λk e=>?_,v,x,Q.trans (Fix.An A)⟩;simp[nH,m k (le_trans (le_max_left _ _) e),t k (le_trans (le_max_right _ _) e)];grind;grind
def Old.next{b:Nat}{fr:S'}{o:RO}(h:Old b fr ν Z m)(a:Kept (zS o) ν m ν' m'):Old b (sC fr o) ν' Z m':=by
 refine⟨λd ob hd D w=>?_,h.2⟩;have z:d∉fr:=λJ=>w (by unfold sC;grind);have B:zS o≠some d:=λe=>w (by unfold sC;grind);have⟨u,c,G,I⟩:=a d ob B hd;have C:cI u=true:=by cases u<;>cases ob<;>simp[sameShape]at I<;>first|rfl|(simp[cI]at D⊢;grind)
 rw[G];exact h.1 d u c C z
def F9(r:R ν Z st F H){id:Nat}(h:gq ν st.m id):H[id]?≠some .free:=by obtain⟨d,ob,a,u,rfl⟩:=h;have:=r.obj d ob a;cases ob with|sl k es C=>simp[cI]at u;simp[eu,u]at this;grind|box cs=>have⟨es,z,b,_⟩:=this;grind|mp B=>have⟨w,b,_⟩:=this;grind
def NN(r:R ν Z st F H){id:Nat}(h:Z id):H[id]?≠some .free:=λe=>by have:=r.zrow id h;unfold bz at this;rw[e]at this;simp[Ob.rows]at this
def Ev.An{ds:S'}(e:Ev Rv ν Z (qG ds st) H ν' Z' st' H'):Ev Rv ν Z st H ν' Z' st' H':=⟨e.len,e.same,e.rows,e.own,e.frz,e.pin,e.pins⟩
theorem Pt (gd:Good X S) (hS:jV S c) {ops:aZ Oper} {b k:Nat} (G:s8 ops=true->k=ops.length):∀(len:Nat) {i:Nat} {B:aZ RO} {fr:aZ Nat} {ν:Nu} {Z:Nat->Prop} {st st':St} {F:Frame} {H:bq},
 i+len=ops.length->mw X true ops i (ops.drop i)=some (B.map RO.strip)->oB S c true fr B st=some st'->R ν Z st F H->b<=H.length->Old b fr ν Z st.m->(∀j,i<=j->j<k->H[b+j]? = some .free) ->
 ∃n F' H' ν',(∀q,n<=q->lg S.E (run S.E q) X.nt ops b (List.range' i len) F H=some (F',H'))/\R ν' Z st' F' H'/\Ev (λid=>b<=id) ν Z st H ν' Z st' H'/\st'.want=st.want/\Fix ν st ν' st'
 | 0,i,B,fr,ν,Z,st,st',F,H,hl,hc,h,r,hb,J,hf=>by
  rw[List.drop_of_length_le Zaa]at hc
  simp only[mw,ζa]at hc;have:B=[]:=List.map_eq_nil_iff.1 hc.symm;subst this;simp[oB]at h;subst h;exact⟨0,F,H,ν,λ_ _=>rfl,r,.refl,rfl,.refl⟩
 | len+1,i,B,fr,ν,Z,st,st',F,H,hl,hc,h,r,hb,J,hf=>by
  have hi:i<ops.length:=by omega
  have hg  := ζd hi;rw[List.drop_eq_getElem_cons hi]at hc;simp[mw]at hc;split at hc
  .rename_i ro rs h1 h2;obtain⟨u,w,rfl,Q,T⟩:∃u w,B=u::w/\ro=u.strip/\rs=w.map RO.strip:=by
    cases B with
    | nil=>simp_all
    | cons a b=>grind
   subst T;simp only[oB,<-Q]at h;split at h
   .rename_i ab U;obtain⟨W,z,U⟩:=ζg.1 U;simp only[DO,if_true]at z;split at z
    rotate_left
    .simp_all
    rename_i L;obtain⟨rg,eg,wg,fg,sg⟩:=Fix.quiet r L z;have J:Old b fr ν Z W.m:=⟨λd ob hd=>J.1 d ob (sg d ob hd),J.2⟩
    obtain⟨n1,F1,H1,ν1,Z1,a1,a2,a3,a4,a5,a6⟩:=L0 gd hS (place:=some (b,i))  rfl (λO j e=>by grind) (λO j e=>by grind) h1 (λO j e=>by grind) (λO j e ad=>by
     have:s8 ops=true:=by
      unfold s8
      grind
     grind) rg (.inr rfl) U
    obtain⟨rfl,C⟩:=a4 rfl;have I  := a3.weak λid ⟨O,j,e,h⟩=>by cases e;omega
    obtain⟨n2,F2,H2,ν2,b1,b2,b3,b4,b5⟩:=Pt gd hS G len Zaa h2 h (R.An a2 u.dead) (Nat.le_trans hb a3.len) (J.next C) (λj ae Y=>by
     have D:=hf j Zaa Y
     have aa:=(ζe.1 D).1;rw[I.same (b+j) aa (λh=>F9 rg h D) (λh=>NN rg h D) Zaa]
     omega)
    refine⟨max n1 n2,F2,H2,ν2,λq L=>?_,b2,eg.trans ((I.weak λid e=>by omega).trans (Ev.An b3)),by rw[b4,<-wg];exact a5,fg.trans (a6.trans (Fix.An b5))⟩
    simp[List.range'_succ,lg,hg,a1 q (Nat.le_trans (Nat.le_max_left _ _) L),b1 q (Nat.le_trans (Nat.le_max_right _ _) L)]
   grind
  grind
end
def bU(X:CX):X'->Code->a_ RC
 |_,.skip=>some .skip|_,.label _=>some .skip|_,.region _ ops B=>
  if B then(if xR ops.toList&&Bq ops.toList then(mw X true ops.toList 0 ops.toList).map .qB else none)
  else(mw X false ops.toList 0 ops.toList).map .ops
 |ro,.seq a b=>match bU X ro a,bU X ro b with
  |some a,some b=>some (.seq a b)|_,_=>none
 |ro,.cond c a b=>match qz X.nm c,bU X ro a,bU X ro b with
  |some x,some a,some b=>some (.cond x a b)|_,_,_=>none
 |ro,.block id c=>(bU X ro c).map (.block id)|ro,.loop c=>(bU X ro c).map .loop|ro,.rangeFunc g ps D G=>
  if ro|| !(ps.toList.all (·<X.nt))then none else
  match qz X.nm g,bU X true D,bU X true G with
  |some x,some a,some b=>some (.each x ps.toList a b)|_,_,_=>none
 |_,.exit id=>some (.exit id)|_,.ret=>some .ret|_,_=>none
def erase:RC->RC
 |.seq a b=>.seq (erase a) (erase b)|.cond x a b=>.cond x (erase a) (erase b)|.block id c=>.block id (erase c)|.loop c=>.loop (erase c)|.each g ps a b=>.each g ps (erase a) (erase b)|.gh _ c=>erase c|.hg c _=>erase c|.ops l=>.ops (l.map RO.strip)|.qB l=>.qB (l.map RO.strip)|c=>c
def kn(step:St->a_ (Out×St)):Nat->St->a_ (Out×St)
 |0,_=>none|k+1,st=>match step st with
  |some (.norm,st')=>kn step k st'|r=>r
open Classical in
noncomputable def p8(step:St->a_ (Out×St))(st:St):a_ (Out×St):=if h:∃k r,kn step k st=some r then some (Classical.choose (choose_spec h))else none
def Ar{step:St->a_ (Out×St)}:∀{k B:Nat}{st:St}{r:Out×St},k<=B->kn step k st=some r->kn step B st=some r
 |0,_,_,_,_,h=>by simp[kn]at h|k+1,0,_,_,hk,_=>Zaa|k+1,B+1,st,r,hk,h=>by simp only[kn]at h⊢;split at h;(next st' D=>rw[Ar (Nat.le_of_succ_le_succ hk) h]);exact h
def oa{step:St->a_ (Out×St)}{st:St}{r:Out×St}:p8 step st=some r↔∃k,kn step k st=some r:=by
 unfold p8;constructor;intro h;split at h;next u=>simp only[ζa]at h;exact⟨_,by rw[<-h];exact choose_spec (choose_spec u)⟩
 simp at h;rintro⟨k,a⟩;have u:∃k r,kn step k st=some r:=⟨k,r,a⟩;rw[dif_pos u];have z:=choose_spec (choose_spec u);have B:=Ar (le_max_left (Classical.choose u) k) z;have w:=Ar (le_max_right (Classical.choose u) k) a;rw[B]at w;exact w
def jL(ps:S')(A B:St->a_ (Out×St))(st:St)(x:T2)(m:Tb bP):a_ (Out×Tb bP):=
 if x.length=ps.length then
  match A {g:=yH st.g ps (x.map .v),m:=m,pin:=st.pin++qZ st.g,want:=[],more:=true,yid:=0}with
  |some (.norm,u)=>(B u).map λ(o,st2)=>(o,st2.m)|_=>none
 else none
def rR(step:T2->Tb bP->a_ (Out×Tb bP)):T'->Tb bP->a_ (Out×Tb bP)
 |[],m=>some (.norm,m)|x::xs,m=>match step x m with
  |some (.norm,m')=>rR step xs m'|r=>r
noncomputable def cR(S:Sys)(c:cm):RC->St->a_ (Out×St)
 |.skip,st=>some (.norm,st)|.ops l,st=>(oB S c false [] l st).map λst=>(.norm,st)|.qB l,st=>(oB S c true [] l st).map λst=>(.norm,st)|.seq a b,st=>match cR S c a st with
  |some (.norm,st')=>cR S c b st'|r=>r
 |.cond x a b,st=>match si S.N st.g x with
  |some (.v (.bool t))=>if t then cR S c a st else cR S c b st|_=>none
 |.block id a,st=>match cR S c a st with
  |some (.exit B,st')=>if B=id then some (.norm,st')else some (.exit B,st')|r=>r
 |.loop a,st=>p8 (cR S c a) st|.each g ps a b,st=>match si S.N st.g g with
  |some (.v (.clo f x y))=>match S.items f x y with
   |some xs=>(rR (jL ps (cR S c a) (cR S c b) st) xs st.m).map λ(o,m)=>(o,{st with m:=m})|none=>none
  |_=>none
 |.exit id,st=>some (.exit id,st)|.ret,st=>some (.ret,st)|.gh x a,st=>(ghost x st).bind (cR S c a)|.hg a x,st=>match cR S c a st with
  |some (.norm,st')=>(ghost x st').map λst=>(.norm,st)|r=>r
def eF(S:Sys)(f:Y')(a b:T2)(xs:T'):Prop:=∀u more,(more=true/\u=xs\/more=false/\u≠[]/\∃r,xs=u++r)->∀yid J,Yc S J more yid->∀Z w z H,dB H Z a w->dB H Z b z->(∀i,Z i->(bz H i).isSome=true)->Deep H Z->J u (λ_=>False) Z H->∃n y H' B Z',(∀k,n<=k->run S.E k (.fn f) (w++.yld yid::z) H=some (y,H'))/\J [] B Z' H'
section
variable{ν ν' ν2:Nu}{Z Z':Nat->Prop}{st st' st2:St}{m m':Tb bP}{F F':WP}{H H' H1:bq}{S:Sys}{c:cm}{X:CX}{J:JT}
end
inductive yI(step:List V->Tb bP->Option (Out×Tb bP))(o:Out)(mf:Tb bP):List (List V)->Bool->Tb bP->Prop
 |nil(h:o=.norm):yI step o mf [] true mf|next(x:List V)(ws:List (List V))(more:Bool)(m m1:Tb bP)(h:step x m=some (.norm,m1))(r:yI step o mf ws more m1):yI step o mf (x::ws) more m|last(x:List V)(m:Tb bP)(h:step x m=some (o,mf))(ho:o≠.norm):yI step o mf [x] false m
def Ej{step:T2->Tb bP->a_ (Out×Tb bP)}{o:Out}{D:Tb bP}:∀{xs:T'}{m:Tb bP},rR step xs m=some (o,D)->
 ∃B more,(more=true/\B=xs\/more=false/\B≠[]/\∃r,xs=B++r)/\yI step o D B more m
 |[],m,h=>by obtain⟨rfl,rfl⟩:=h;exact⟨[],true,.inl ⟨rfl,rfl⟩,.nil rfl⟩|x::xs,m,h=>by simp[rR]at h;split at h;rename_i m' u;have⟨B,more,b,a⟩:=Ej h;refine⟨x::B,more,?_,.next x B more m m' u a⟩;grind;refine⟨[x],false,.inr ⟨rfl,Zab,xs,rfl⟩,.last x m h λe=>?_⟩;simp_all
def vX(O0 Z0:Nat->Prop)(H0:bq):JT:=λw O Z H=>w=[]/\H0.length<=H.length/\(∀i,i<H0.length->¬O0 i->¬Z0 i->H[i]?=H0[i]?)/\(∀i,Z0 i->Z i/\bz H i=bz H0 i)/\(∀i,O i->O0 i\/H0.length<=i)/\(∀i,Z i->Z0 i\/O0 i\/H0.length<=i)
section
variable{ν ν' ν2:Nu}{Z Z':Nat->Prop}{st st' st2:St}{m m':Tb bP}{F F':WP}{H H' H1:bq}{S:Sys}{c:cm}{X:CX}{J:JT}{O0 Z0:Nat->Prop}{H0:bq}
def vX.xM{w:T'}{O Z B Z':Nat->Prop}{H H':bq}(j:vX O0 Z0 H0 w O Z H)(D:H.length<=H'.length)(G:∀i,i<H.length->¬O i->¬Z i->H'[i]?=H[i]?)(a:∀i,Z i->Z' i/\bz H' i=bz H i)
 (J:∀i,B i->O i\/H.length<=i)(U:∀i,Z' i->Z i\/O i\/H.length<=i):vX O0 Z0 H0 w B Z' H':=by
 have⟨u,z,I,C,L,Q⟩:=j;refine⟨u,le_trans z D,λi b S T=>?_,λi h=>⟨(a i (C i h).1).1,Zac⟩,λi h=>?_,λi h=>?_⟩
 .grind
 .grind
 grind
def vX.yc{more:X'}{yid:Nat}:Yc S (vX O0 Z0 H0) more yid where
 xM:=λ_ _ _ _ _ _ _ j a u w z B=>j.xM a u w z B
 yield:=λx C O Z H args j=>by have⟨h,_⟩:=j;cases h
def vX.refl(r:R ν Z st F H):vX (gq ν st.m) Z H [] (gq ν st.m) Z H:=⟨rfl,le_refl _,λ_ _ _ _=>rfl,λi h=>⟨h,rfl⟩,λi h=>.inl h,λi h=>.inl h⟩
mutual
def D7{d:Nat}:∀{sv:SV},sv.c8 d=true->d∈sv.names
 |.v _,h=>by simp[SV.c8]at h|.own e,h=>by simp[SV.c8]at h;simp[SV.names,h]|.ptr e _,h=>by simp[SV.c8]at h;simp[SV.names,h]|.el e _ _,h=>by simp[SV.c8]at h;simp[SV.names,h]|.mp e,h=>by simp[SV.c8]at h;simp[SV.names,h]|.clo f a b,h=>by simp only[SV.c8,or_eq_true]at h;simp only[SV.names,mem_append];exact h.imp sy sy|.tup l,h=>by simp only[SV.c8]at h;simp only[SV.names];exact sy h|.agg l,h=>by simp only[SV.c8]at h;simp only[SV.names];exact sy h|.yl _,h=>by simp[SV.c8]at h
def sy{d:Nat}:∀{l:So},SV.dO d l=true->d∈SV.xP l
 |[],h=>by simp[SV.dO]at h|x::r,h=>by simp only[SV.dO,or_eq_true]at h;simp only[SV.xP,mem_append];exact h.imp D7 sy
end
def CV{d:Nat}:∀{g:Tb SV}{s:Nat}{sv:SV},bp g s=some sv->sv.c8 d=true->d∈qZ g
 |[],s,sv,h,_=>by simp[bp]at h|(k,x)::r,s,sv,h,B=>by simp[bp]at h;simp[qZ];split at h;simp at h;subst h;exact .inl (D7 B);exact .inr (CV h B)
def R.YX(r:R ν Z st F H){Z2:Nat->Prop}(f:∀i,Z2 i->¬gq ν st.m i)(G:∀i,Z2 i->(bz H i).isSome=true)(J:Deep H Z2):R ν (λi=>Z i\/Z2 i) st F H:=by have w:∀i,Z i->(Z i\/Z2 i)/\bz H i=bz H i:=λi h=>⟨.inl h,rfl⟩;have z:∀i,Z2 i->(Z i\/Z2 i)/\bz H i=bz H i:=λi h=>⟨.inr h,rfl⟩;refine⟨λs I L=>(r.slot s I L).mono w λe _=>jO ν st.m e,λd ob hd=>eu.mono w rfl (λ_=>rfl) (λe _=>jO ν st.m e) (r.obj d ob hd),r.inj,λd ob hd C b=>?_,λi a=>?_,⟨λid es D a hr c hc u hu=>?_⟩⟩;rcases b with b|b;exact r.apart d ob hd C b;exact f _ b ⟨d,ob,hd,C,rfl⟩;exact a.elim (r.zrow i) (G i);rcases a with a|a;have⟨x,B⟩:=r.deep.row id es D a hr c hc u hu;exact⟨x,B.mono w⟩;have⟨x,B⟩:=J.row id es D a hr c hc u hu;exact⟨x,B.mono z⟩
def R.Xj:∀{ps:S'}{xs:T2}{vs:T2}{g:Tb SV}{F:WP},R ν Z {st with g:=g} F H->dB H Z xs vs->xs.length=ps.length->R ν Z {st with g:=yH g ps (xs.map .v)} (zm ps vs F) H
 |[],xs,vs,g,F,r,h,B=>by have:=length_eq_zero_iff.1 B;subst this;exact r|p::ps,[],vs,g,F,r,h,B=>Zad|p::ps,x::xs,vs,g,F,r,h,B=>by obtain⟨w,z,rfl,a,u⟩:=h.inv;exact R.Xj (ps:=ps) (r.put (.v _ _ a)) u Zac
def uz(X:CX)(S:Sys)(ro:X')(code:Code)(B:St->a_ (Out×St)):Prop:=∀st o st',B st=some (o,st')->∀(J:JT)ν Z F H,Yc S J st.more st.yid->R ν Z st F H->J st.want (gq ν st.m) Z H->∃n F' H' ν' Z',(∀k,n<=k->exec S.E (run S.E k) k ro X.nt code F H=some (o,F',H'))/\R ν' Z' st' F' H'/\J st'.want (gq ν' st'.m) Z' H'/\Fix ν st ν' st'
def TY(st:St)(m:Tb bP):St:={g:=st.g,m:=m,pin:=st.pin++qZ st.g,want:=[],more:=true,yid:=0}
def JI(X:CX)(st:St)(F:WP)(ν:Nu)(O0 Z0:Nat->Prop)(H0:bq)(B:Nat)(ps:S')(J U:Code)(step:T2->Tb bP->a_ (Out×Tb bP))(o:Out)(G:Tb bP)(more:X'):JT:=λw O Z H=>∃m z D u,R z D (TY st m) F H/\vX O0 Z0 H0 [] (gq z m) D H/\(∀i,O i->¬gq z m i/\¬D i/\i≠B/\H0.length<=i)/\(∀i,Z i->¬gq z m i/\i≠B/\(Z0 i\/H0.length<=i))/\¬gq z m B/\¬D B/\H0.length<=B/\H[B]?=some (.loop u)/\(u.frame=F/\u.nt=X.nt/\u.params=ps/\u.assign=J/\u.body=U)/\(∀d∈st.pin++qZ st.g,∀C,bp m d=some C->∃ob,bp st.m d=some ob/\z d=ν d/\sameShape ob C)/\((yI step o G w more m/\u.st=.ready/\u.pend=none)\/(w=[]/\m=G/\u.st=.done/\u.pend=some o))
def JI.xM{w:T'}{O Z G Z':Nat->Prop}{H H':bq}{B:Nat}{ps:S'}{J U:Code}{step:T2->Tb bP->a_ (Out×Tb bP)}{o:Out}{W:Tb bP}{more:X'}
 (j:JI X st F ν O0 Z0 H0 B ps J U step o W more w O Z H)(Y:H.length<=H'.length)(D:∀i,i<H.length->¬O i->¬Z i->H'[i]?=H[i]?)(x:∀i,Z i->Z' i/\bz H' i=bz H i)
 (e:∀i,G i->O i\/H.length<=i)(f:∀i,Z' i->Z i\/O i\/H.length<=i):JI X st F ν O0 Z0 H0 B ps J U step o W more w G Z' H':=by
 have⟨m,S,I,T,r,g,b,c,k,l,n,p,q,s,t⟩:=j;have u:=λi a=>D i (r.lt a) (λh=>(b i h).1 a) (λh=>(c i h).1 a)
 have z:∀i,I i->bz H' i=bz H i:=λi a=>by by_cases C:Z i;grind;unfold bz;rw[D i (r.xH a) (λh=>(b i h).2.1 a) C]
 have y:=(ζe.1 p).1;refine⟨m,S,I,T,r.heap u z,?_,λi h=>?_,λi h=>?_,k,l,n,?_,q,s,t⟩
 .have⟨j1,L,j3,j4,j5,j6⟩:=g;refine⟨j1,le_trans L Y,λi d v Q=>?_,λi h=>⟨(j4 i h).1,Zac⟩,j5,j6⟩
  rw[D i (Nat.lt_of_lt_of_le d L) (λh=>by have:=(b i h).2.2.2;omega) (λh=>by rcases(c i h).2.2 with h|h;exact Q h;omega),j3 i d v Q]
 .rcases e i h with h|h
  .exact b i h
  exact⟨λa=>absurd (r.lt a) Zaa,λa=>absurd (r.xH a) Zaa,Zaa,Zaa⟩
 .rcases f i h with h|h|h
  .exact c i h
  .exact⟨(b i h).1,(b i h).2.2.1,.inr (b i h).2.2.2⟩
  exact⟨λa=>absurd (r.lt a) Zaa,Zaa,.inr Zaa⟩
 grind
def JI.yield(S:Sys){A B:St->a_ (Out×St)}{N P:Code}(hA:uz X S true N A)(hB:uz X S true P B){D:Nat}{ps:S'}(ax:ps.all (·<X.nt)=true){o:Out}{q:Tb bP}{more:X'}
 {x:T2}{g:T'}{O Z:Nat->Prop}{H:bq}{args:T2}(j:JI X st F ν O0 Z0 H0 D ps N P (jL ps A B st) o q more (x::g) O Z H)
 (hx:dB H Z x args)(an:∀i,Z i->(bz H i).isSome=true)(ay:Deep H Z)(aA:∀i,O i->¬Z i/\i<H.length):
 ∃n H',run S.E n (.yld D) args H=some (.bool (more|| !g.isEmpty),H')/\JI X st F ν O0 Z0 H0 D ps N P (jL ps A B st) o q more g O Z H'/\H.length<=H'.length/\(∀i,O i->H'[i]?=H[i]?)/\(∀i,Z i->bz H' i=bz H i):=by
 have⟨m,t,k,f,r,ej,d1,v,l1,l2,l3,l4,⟨q1,q2,q3,q4,q5⟩,l6,l7⟩:=j;have aB:yI (jL ps A B st) o q (x::g) more m/\f.st=.ready/\f.pend=none:=by grind
 have⟨hE,T,aC⟩:=aB;have U:∃y m1,jL ps A B st x m=some (y,m1)/\(y=.norm/\yI (jL ps A B st) o q g more m1/\(more|| !g.isEmpty)=true\/y≠.norm/\y=o/\m1=q/\g=[]/\more=false):=by cases hE with|next _ _ _ _ m1 h hr=>refine⟨.norm,m1,h,.inl ⟨rfl,hr,?_⟩⟩;cases hr<;>simp|last _ _ h ho=>grind
 have⟨y,m1,w,ab⟩:=U;unfold jL at w;split at w
 .rename_i ad;split at w
  .rename_i ah aD;have⟨⟨z,st2⟩,aE,e⟩:=ζf.1 w;simp at e;obtain⟨rfl,rfl⟩:=e;have aF:=(ζe.1 l4).1;have r1:=r.YX (λi a=>(v i a).1) an ay
   have aG:dB H (λi=>k i\/Z i) x args:=hx.mono λi a=>⟨.inr a,rfl⟩
   have r2:=R.Xj (st:=TY st m) r1 aG ad;have⟨nA,F2,H2,ν2,Z2,a1,a2,a3,a4⟩:=hA _ _ _ aD (vX (gq t m) (λi=>k i\/Z i) H) t _ _ H vX.yc r2 (vX.refl r1)
   have⟨b1,b2,b3,b4,E,b6⟩:=a3;have ai:¬(k D\/Z D):=λh=>h.elim l2 λh=>(v D h).2.1 rfl
   have ao:H2[D]?=some (.loop f):=by rw[b3 D aF l1 ai];omega
   have ae:D<H2.length:=Zaa
   have W:¬gq ν2 ah.m D:=λh=>(E D h).elim l1 λh=>Zaa
   have aj:¬Z2 D:=λh=>by rcases b6 D h with h|h|h;exact ai h;exact l1 h;omega
   have u:∀(ob:Ob)(Hh:bq)(i:Nat),i≠D->(Hh.set D ob)[i]?=Hh[i]?:=λob Hh i Y=>by rw[getElem?_set,if_neg (Ne.symm Y)]
   have r3:R ν2 Z2 ah F2 (H2.set D (.loop {f with st:=.busy})):=a2.heap (λi a=>u _ _ i λe=>W (e▸a)) (λi a=>by unfold bz;rw[u _ _ i λe=>aj (e▸a)])
   have⟨nB,F4,c,K,l,c1,c2,c3,c4⟩:=hB _ _ _ aE (vX (gq ν2 ah.m) Z2 (H2.set D (.loop {f with st:=.busy}))) ν2 Z2 F2 _ vX.yc r3 (by
    rw[b1];exact vX.refl r3)
   have⟨_,g2,g3,g4,g5,g6⟩:=c3;simp at g2 g3 g5 g6;have ap:c[D]?=some (.loop {f with st:=.busy}):=by rw[g3 D ae W aj,getElem?_set_self ae]
   have aq:D<c.length:=Zaa
   have ar:=λh=>(g5 D h).elim W λh=>Zaa
   have au:¬l D:=λh=>by rcases g6 D h with h|h|h;exact aj h;exact W h;omega
   generalize M:({f with st:=(if z==.norm then CT.ready else CT.done),pend:=(if z==.norm then none else some z)}:xd)=G;have r5:R K l st2 F4 (c.set D (.loop G)):=c2.heap (λi a=>u _ _ i λe=>ar (e▸a)) (λi a=>by unfold bz;rw[u _ _ i λe=>au (e▸a)])
   have L:H.length<=(c.set D (.loop G)).length:=by simp;omega
   have ak:∀i,i<H.length->i≠D->¬gq t m i->¬(k i\/Z i)->(c.set D (.loop G))[i]?=H[i]?:=λi b J I p=>by rw[u _ _ i J,g3 i Zaa (λh=>(E i h).elim I λh=>Zaa) (λh=>by rcases b6 i h with h|h|h;exact p h;exact I h;omega),u _ _ i J,b3 i b I p]
   have C:∀i,(k i\/Z i)->l i/\bz (c.set D (.loop G)) i=bz H i:=λi a=>by have Y:i≠D:=λe=>ai (e▸a);have⟨t1,t2⟩:=b4 i a;have⟨t3,t4⟩:=g4 i t1;refine⟨t3,?_⟩;rw[<-t2];have:bz (H2.set D (.loop {f with st:=.busy})) i=bz H2 i:=(by unfold bz;rw[u _ _ i Y]);rw[<-this,<-t4];unfold bz;rw[u _ _ i Y]
   have Q:∀i,gq K st2.m i->gq t m i\/H.length<=i:=λi a=>by rcases g5 i a with h|h;exact E i h;exact .inr Zaa
   have af:∀i,l i->(k i\/Z i)\/gq t m i\/H.length<=i:=λi a=>by rcases g6 i a with h|h|h;exact b6 i h;rcases E i h with h|h;exact .inr (.inl h);exact .inr (.inr h);exact .inr (.inr Zaa)
   have fx:=a4.trans c4;have r6:R K l (TY st st2.m) F (c.set D (.loop G)):=⟨λs sv hs=>(r.slot s sv hs).mono (λi a=>C i (.inl a)) λd hd al am=>fx.pin d (List.mem_append_right _ (CV hs hd)) al am,r5.obj,r5.inj,r5.apart,r5.zrow,r5.deep⟩
   have av:run S.E (max nA nB+1) (.yld D) args H=some (.bool (z==.norm),c.set D (.loop G)):=by simp only[run,kY,l4];rw[if_pos (by rw[q3];exact⟨by rw[<-hx.1];exact ad,by rw[q2];exact ax⟩)];rw[q1,q2,q3,q4,q5];rw[a1 _ (le_max_left _ _)];simp only[ao,T];rw[c1 _ (le_max_right _ _)];simp only[ap];rw[<-M]
   refine⟨max nA nB+1,c.set D (.loop G),?_,⟨st2.m,K,l,G,r6,?_,λi a=>?_,λi a=>?_,ar,au,l3,?_,?_,λd hd al am=>?_,?_⟩,L,λi a=>?_,λi a=>(C i (.inr a)).2⟩
   .rw[av];rcases ab with⟨b,_,I⟩|⟨b,_,_,p,h5⟩
    .rw[b,I];rfl
    rw[p,h5]
    cases aH:z with
    |norm=>exact absurd aH b|_=>rfl
   .have⟨j1,j2,j3,j4,j5,j6⟩:=ej;refine⟨rfl,le_trans j2 L,λi b J I=>?_,λi h=>⟨(C i (.inl (j4 i h).1)).1,by rw[(C i (.inl (j4 i h).1)).2,(j4 i h).2]⟩,λi h=>?_,λi h=>?_⟩
    .rw[ak i Zaa Zaa (λh=>by rcases j5 i h with h|h;exact J h;omega) (λh=>by
      rcases h with h|h
      .rcases j6 i h with h|h|h;exact I h;exact J h;omega
      rcases(v i h).2.2 with h|h;exact I h;omega),j3 i b J I]
    .rcases Q i h with h|h
     .exact j5 i h
     exact .inr Zaa
    rcases af i h with(h|h)|h|h
    .exact j6 i h
    .rcases (v i h).2.2 with h|h;exact .inl h;exact .inr (.inr h)
    .rcases j5 i h with h|h;exact .inr (.inl h);exact .inr (.inr h)
    exact .inr (.inr Zaa)
   .have⟨t1,t2⟩:=aA i a;have⟨t3,t4,t5,t6⟩:=d1 i a;refine⟨λh=>(Q i h).elim t3 λh=>Zaa,λh=>?_,t5,t6⟩
    rcases af i h with(h|h)|h|h
    .exact t4 h
    .exact t1 h
    .exact t3 h
    omega
   .have⟨t1,t2,t3⟩:=v i a;have aJ:i<H.length:=by
     have:=an i a;unfold bz at this
     cases hh:H[i]?with
     |none=>rw[hh]at this;simp at this|some _=>exact(ζe.1 hh).1
    exact⟨λh=>(Q i h).elim t1 λh=>Zaa,t2,t3⟩
   .rw[getElem?_set_self aq]
   .subst M;exact⟨q1,q2,q3,q4,q5⟩
   .have⟨aI,b,J,I⟩:=fx.pin d hd al am;have⟨ob,k1,k2,k3⟩:=l6 d hd aI b;exact⟨ob,k1,by rw[J,k2],k3.trans I⟩
   .rcases ab with⟨b,J,I⟩|⟨b,J,I,p,h5⟩
    .left;subst b;subst M;exact⟨J,rfl,rfl⟩
    right;subst M;have hb:¬(z==Out.norm)=true:=by simpa using b
    refine⟨p,I,?_,?_⟩
    .show (if(z==Out.norm)=true then CT.ready else CT.done)=CT.done;rw[if_neg hb]
    show(if(z==Out.norm)=true then none else some z)=some o;rw[if_neg hb,J]
   grind
  grind
 grind
end
end Go.VE
