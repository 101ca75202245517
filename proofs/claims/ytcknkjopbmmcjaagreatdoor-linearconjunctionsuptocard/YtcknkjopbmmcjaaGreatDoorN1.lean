/-
 The second layer: named objects in the place of rows; texts, calls, iterators.
-/
import Derived.Test.YtcknkjopbmmcjaaGreatDoorV2
set_option linter.all false
noncomputable section
open List(all_cons all_eq_true drop_drop drop_zero getElem?_append_left getElem?_append_right getElem?_cons_zero getElem?_drop getElem?_set getElem?_set_self getElem?_take length_eq_zero_iff mem_append mem_cons mem_iff_getElem? mem_of_getElem? mem_of_mem_drop replicate take take_length)
open Bool(false_eq_true not_eq_true' or_eq_false_iff or_eq_true)
open Option(isSome_iff_exists map_some)
open Nat(le_max_left le_max_right le_refl le_trans)
open Classical(choose_spec)
namespace Go.VE
variable[b_]
inductive Fl where|nil|emp|row|part
 deriving DecidableEq,Inhabited
inductive SV where
 |v(x:V)|own(d:Nat)|ptr(d off:Nat)|el(d i off:Nat)|mp(d:Nat)|clo(f:FuncId)(a b:List SV)|tup(l:List SV)|agg(l:List SV)|yl(id:Nat)
 deriving Inhabited
abbrev SW:=aZ SV
inductive bN where
 |sl(k:Fl)(es:Nat)(xs:List (List V))|box(cs:List SV)|mp(kvs:List (V×V))
abbrev Tb(α:Type):=aZ (Nat×α)
def bn{α:Type}:Tb α->Nat->a_ α
 |[],_=>none|(k,v)::r,n=>if k=n then some v else bn r n
def bR{α:Type}:Tb α->Nat->α->Tb α
 |[],n,v=>[(n,v)]|(k,x)::r,n,v=>if k=n then(k,v)::r else(k,x)::bR r n v
def eR{α:Type}(n:Nat):Tb α->Tb α
 |[]=>[]|(k,x)::r=>if k=n then eR n r else(k,x)::eR n r
def pL{α:Type}:ST->Tb α->Tb α
 |[],g=>g|d::ds,g=>pL ds (eR d g)
def yY{α:Type}:Tb α->ST->aZ α->Tb α
 |g,p::ps,v::vs=>yY (bR g p v) ps vs|g,_,_=>g
def kY{α:Type}(g:Tb α):ST->a_ (Tb α)
 |[]=>some []|n::r=>match bn g n,kY g r with
  |some v,some t=>some ((n,v)::t)|_,_=>none
structure St where
 g:Tb SV
 m:Tb bN
 pin:List Nat
 want:List (List V)
 more:Bool
 yid:Nat
structure Hy where
 part:Bool
 go:Nat->List (List V)->List V->Option (List (List V))
structure Sys where
 E:Env
 N:Nat->FuncId
 items:FuncId->List V->List V->Option (List (List V))
 yR:FuncId->List V->Option V
 prm:FuncId->Option Hy
inductive Arg where
 |s(n:Nat)|k(c:V)|f(name:Nat)
abbrev QQ:=aZ Arg
inductive Loc where
 |s(n:Nat)|c(b i:Nat)
inductive Gh where
 |close(d:Nat)|closeB(d:Nat)|canon(l:Loc)(d:Nat)(es:Nat)|keep(gs ms:List Nat)|drop(ds:List Nat)|closeS(l:Loc)
abbrev QR:=aZ Gh
structure RO where
 dst:Option Nat
 gd:Option (Nat×Bool)
 now:Bool
 k:K
 az:List Arg
 dead:List Nat:=[]
 pre:List Gh:=[]
abbrev Rd:=aZ RO
inductive RC where
 |skip|ops(l:List RO)|qZ(l:List RO)|seq(a b:RC)|cond(x:Arg)(a b:RC)|block(id:Nat)(c:RC)|loop(c:RC)|each(g:Arg)(ps:List Nat)(a b:RC)|exit(id:Nat)|ret|gh(x:Gh)(c:RC)|hg(c:RC)(x:Gh)
inductive RV where
 |s(n:Nat)|ld(n size:Nat)(agg:Bool)
structure RF where
 na:Nat
 rs:List RV
 body:RC
mutual
def SV.dc(d:Nat):SV->X'
 |.v _=>false|.own e=>e==d|.ptr e _=>e==d|.el e _ _=>e==d|.mp e=>e==d|.clo _ a b=>SV.dW d a||SV.dW d b|.tup l=>SV.dW d l|.agg l=>SV.dW d l|.yl _=>false
def SV.dW(d:Nat):SW->X'
 |[]=>false|x::r=>SV.dc d x||SV.dW d r
end
def bN.dc(d:Nat):bN->X'
 |.box cs=>SV.dW d cs|_=>false
def xw(d:Nat):Tb SV->X'
 |[]=>false|(_,x)::r=>SV.dc d x||xw d r
def uZ(d:Nat):Tb bN->X'
 |[]=>false|(_,x)::r=>bN.dc d x||uZ d r
def St.new(st:St)(d:Nat):X':= !(st.pin.contains d)&&(bn st.m d).isNone&& !(xw d st.g)&& !(uZ d st.m)
mutual
def SV.wG(d e:Nat):SV->SV
 |.v x=>.v x|.own k=>.own (if k=d then e else k)|.ptr k o=>.ptr (if k=d then e else k) o|.el k i o=>.el (if k=d then e else k) i o|.mp k=>.mp (if k=d then e else k)|.clo f a b=>.clo f (SV.wW d e a) (SV.wW d e b)|.tup l=>.tup (SV.wW d e l)|.agg l=>.agg (SV.wW d e l)|.yl id=>.yl id
def SV.wW(d e:Nat):SW->SW
 |[]=>[]|x::r=>SV.wG d e x::SV.wW d e r
end
def bN.wG(d e:Nat):bN->bN
 |.box cs=>.box (SV.wW d e cs)|o=>o
def Cw(d e:Nat):Tb SV->Tb SV
 |[]=>[]|(n,x)::r=>(n,x.wG d e)::Cw d e r
def wY(d e:Nat):Tb bN->Tb bN
 |[]=>[]|(n,x)::r=>((if n=d then e else n),x.wG d e)::wY d e r
mutual
def SV.sub(d:Nat)(w:V):SV->SV
 |.own k=>if k=d then .v w else .own k|.clo f a b=>.clo f (SV.wZ d w a) (SV.wZ d w b)|.tup l=>.tup (SV.wZ d w l)|.agg l=>.agg (SV.wZ d w l)|x=>x
def SV.wZ(d:Nat)(w:V):SW->SW
 |[]=>[]|x::r=>SV.sub d w x::SV.wZ d w r
end
def dG:SW->a_ So
 |[]=>some []|.v x::r=>(dG r).map (x::·)|_::_=>none
def Ua(f:Y')(a b:SW):SV:=
 match dG a,dG b with
 |some x,some y=>.v (.clo f x y)|_,_=>.clo f a b
mutual
def SV.DU(d:Nat)(cs:So):SV->SV
 |.ptr k o=>if k=d then(if o<=cs.length then .v (.fptr (cs.drop o))else .ptr k o)else .ptr k o|.clo f a b=>Ua f (SV.tE d cs a) (SV.tE d cs b)|.tup l=>.tup (SV.tE d cs l)|.agg l=>.agg (SV.tE d cs l)|x=>x
def SV.tE(d:Nat)(cs:So):SW->SW
 |[]=>[]|x::r=>SV.DU d cs x::SV.tE d cs r
end
def DY(f:SV->SV):Tb SV->Tb SV
 |[]=>[]|(n,x)::r=>(n,f x)::DY f r
def mapM(f:SW->SW):Tb bN->Tb bN
 |[]=>[]|(n,.box cs)::r=>(n,.box (f cs))::mapM f r|(n,o)::r=>(n,o)::mapM f r
mutual
def SV.names:SV->ST
 |.own d|.ptr d _|.el d _ _|.mp d=>[d]|.clo _ a b=>SV.yF a++SV.yF b|.tup l=>SV.yF l|.agg l=>SV.yF l|_=>[]
def SV.yF:SW->ST
 |[]=>[]|x::r=>SV.names x++SV.yF r
end
def rL:Tb SV->ST
 |[]=>[]|(_,x)::r=>SV.names x++rL r
def qc(k:Fl)(es:Nat)(xs:S'):V:=
 match k with
 |.nil=>.bM|.emp=>.dX|_=>.fsl es xs
mutual
def V.lvl:Nat->V->X'
 |n,.fsl _ xs=>match n with|0=>false|n+1=>V.qT n xs
 |n,.fptr cs=>match n with|0=>false|n+1=>V.mS n cs
 |n,.fmap B=>match n with|0=>false|n+1=>V.uS n B
 |n,.agg cs=>match n with|0=>false|n+1=>V.mS n cs
 |n,.tup cs=>match n with|0=>false|n+1=>V.mS n cs
 |n,.clo _ a b=>match n with|0=>false|n+1=>V.mS n a&&V.mS n b
 |_,_=>true
def V.mS:Nat->So->X'
 |_,[]=>true|n,x::r=>V.lvl n x&&V.mS n r
def V.qT:Nat->S'->X'
 |_,[]=>true|n,x::r=>V.mS n x&&V.qT n r
def V.uS:Nat->aZ (V×V)->X'
 |_,[]=>true|n,(k,x)::r=>V.lvl n k&&V.lvl n x&&V.uS n r
end
mutual
def shut(m:Tb bN):Nat->SV->a_ V
 |_,.v x=>some x|_,.own d=>match bn m d with
  |some (.sl k es xs)=>some (qc k es xs)|_=>none
 |n+1,.ptr d o=>match bn m d with
  |some (.box cs)=>match dg m n cs with
   |some xs=>if o<=xs.length then some (.fptr (xs.drop o))else none|none=>none
  |_=>none
 |_,.mp d=>match bn m d with
  |some (.mp B)=>some (.fmap B)|_=>none
 |n+1,.clo f a b=>match dg m n a,dg m n b with
  |some x,some y=>some (.clo f x y)|_,_=>none
 |n+1,.tup l=>(dg m n l).map .tup|n+1,.agg l=>(dg m n l).map .agg|_,_=>none
def dg(m:Tb bN):Nat->SW->a_ So
 |_,[]=>some []|n,x::r=>match shut m n x,dg m n r with
  |some y,some s=>some (y::s)|_,_=>none
end
end Go.VE
namespace Go.VE
variable[b_]
mutual
def V.good:V->X'
 |.hsl ..|.hptr ..|.yld ..|.hmap ..=>false|.fsl _ xs=>V.oO xs|.fptr cs=>V.cM cs|.fmap B=>V.uT B|.clo _ a b=>V.cM a&&V.cM b|.agg cs=>V.cM cs|.tup cs=>V.cM cs|_=>true
def V.cM:So->X'
 |[]=>true|x::r=>V.good x&&V.cM r
def V.oO:S'->X'
 |[]=>true|x::r=>V.cM x&&V.oO r
def V.uT:aZ (V×V)->X'
 |[]=>true|(k,x)::r=>V.good k&&V.good x&&V.uT r
end
abbrev dO:=Tb bN
abbrev cr:=FuncId->aZ SV->dO->a_ (aZ SV×dO)
def sR(N:Nat->Y')(g:Tb SV):Arg->a_ SV
 |.s n=>bn g n|.k c=>some (.v c)|.f s=>some (.v (.clo (N s) [] []))
def b7(N:Nat->Y')(g:Tb SV):QQ->a_ SW
 |[]=>some []|x::r=>match sR N g x,b7 N g r with
  |some v,some vs=>some (v::vs)|_,_=>none
def cV:Fl->X'
 |.row|.part=>true|_=>false
def mM(m:Tb bN):SV->X'
 |.own d|.ptr d _|.el d _ _|.mp d=>(bn m d).isSome|.clo ..=>true|_=>false
def zn(m:Tb bN):SV->X'
 |.v x=>x.one|x=>mM m x
def Ad(m:Tb bN):SV->a_ SW
 |.v x=>some (x.cells.map .v)|.agg l=>some l|x=>if mM m x then some [x]else none
def uH(m:Tb bN)(cells:SW):aZ (Nat×Nat)->SW->a_ SW
 |[],[]=>some cells|(off,size)::pl,v::vs=>match Ad m v with
  |some c=>if c.length=size/\off+c.length<=cells.length then uH m (cells.take off++c++cells.drop (off+c.length)) pl vs else none|none=>none
 |_,_=>none
def xN(size:Nat)(agg:X')(cs:SW):a_ SV:=
 if cs.length=size then
  if agg then match dG cs with
   |some u=>some (.v (.agg u))|none=>some (.agg cs)
  else match cs with
   |[x]=>some x|_=>none
 else none
def zh(N:Nat->Y')(m:Tb bN):wE->SW->a_ SV
 |.id,[x]=>some x|.nilc,[.ptr d o]=>if(bn m d).isSome then some (.ptr d o)else none|.nilc,[.el d i o]=>if(bn m d).isSome then some (.el d i o)else none|.pick,[.v (.bool t),a,b]=>some (if t then a else b)|.bin (some .slice) _ .eql,[.own d,.v .bM]=>match bn m d with
  |some (.sl k _ _)=>if k=.emp then none else some (.v (.bool (k==.nil)))|_=>none
 |.bin (some .slice) _ .neq,[.own d,.v .bM]=>match bn m d with
  |some (.sl k _ _)=>if k=.emp then none else some (.v (.bool (!(k==.nil))))|_=>none
 |.fieldAddr off,[.ptr d o]=>if(bn m d).isSome then some (.ptr d (o+off))else none|.fieldAddr off,[.el d i o]=>if(bn m d).isSome then some (.el d i (o+off))else none|.idxS size,[.own d,.v (.int _ i)]=>match bn m d with
  |some (.sl k es xs)=>if cV k/\es=size/\0<=i/\i.toNat<xs.length then some (.el d i.toNat 0)else none|_=>none
 |.idxA len size,[.ptr d o,.v (.int _ i)]=>if 0<=i/\i<len/\(bn m d).isSome then some (.ptr d (o+i.toNat*size))else none|.idxA len size,[.el d j o,.v (.int _ i)]=>if 0<=i/\i<len/\(bn m d).isSome then some (.el d j (o+i.toNat*size))else none|.lenSl,[.own d]=>match bn m d with
  |some (.sl _ _ xs)=>some (.v (.int .i64 xs.length))|_=>none
 |.clo name k,vs=>some (.clo (N name) (vs.take k) (vs.drop k))|.ext i,[.tup l]=>l[i]?|.build zero pl,vs=>(uH m (zero.map .v) pl vs).map .agg|.field off size agg,[.agg l]=>xN size agg ((l.drop off).take size)|_,_=>none
def kr(N:Nat->Y')(m:Tb bN)(p:wE)(svs:SW):a_ SV:=
 match dG svs with
 |some u=>(bq N p u).map .v|none=>zh N m p svs
def N5(m:Tb bN)(d:Nat):SV->X'
 |.ptr B _=>B != d&&(match bn m B with|some (.box _)=>true|_=>false)|.v (.fptr _)=>true|_=>false
def pq(m:Tb bN):Ni->SW->a_ SV
 |.load size agg,[.ptr d o]=>match bn m d with
  |some (.box cs)=>xN size agg ((cs.drop o).take size)|_=>none
 |.load size agg,[.el d i o]=>match bn m d with
  |some (.sl _ _ xs)=>match xs[i]?with
   |some cs=>((cut cs o size).bind (mk agg)).map .v|none=>none
  |_=>none
 |.load size agg,[.v p]=>((eU [] p size).bind (mk agg)).map .v|.lookup kk z ok,[.mp d,.v k]=>match bn m d with
  |some (.mp B)=>if rM kk k then match jd k B 0 with
   |some (some (_,v))=>some (.v (if ok then .tup [v,.bool true]else v))|some none=>some (.v (if ok then .tup [z,.bool false]else z))|none=>none
   else none
  |_=>none
 |.lookup kk z ok,[.v p,.v k]=>(fE [] (.lookup kk z ok) [p,k]).map .v|.loadF size agg,.ptr d o::l=>if l.all (N5 m d)=true then match bn m d with
  |some (.box cs)=>xN size agg ((cs.drop o).take size)|_=>none
  else none
 |_,_=>none
def fL(fr:ST):SW->X'
 |[]=>true|.v _::r=>fL fr r|.ptr d _::r=> !(fr.contains d)&&fL fr r|.el d _ _::r=> !(fr.contains d)&&fL fr r|.mp d::r=> !(fr.contains d)&&fL fr r|_=>false
def pS(m:Tb bN)(a:Qk)(svs:SW)(d:Nat):a_ (bN×SV):=
 match a,svs with
 |.alloc _ zero,[]=>some (.box (zero.map .v),.ptr d 0)|.box,[.v x]=>if x.cells.all V.one then some (.box (x.cells.map .v),.ptr d 0)else none|.box,[.agg l]=>if l.all (zn m)then some (.box l,.ptr d 0)else none|.box,[x]=>if mM m x then some (.box [x],.ptr d 0)else none|.makeSl size zero,[.v (.int k n),.v (.int w c)]=>if k=.i64/\w=.i64/\0<=n/\n<=c/\c<=2147483648 then some (.sl (if n=c then .row else .part) size (replicate n.toNat zero),.own d)else none|.buildSl size len zero idx,z=>match dG z with
  |some u=>if idx.length=u.length then(fW size (replicate len zero) (idx.zip u)).map λB=>(.sl .row size B,.own d)else none|none=>none
 |.makeMap,[]=>some (.mp [],.mp d)|_,_=>none
def ki(m:Tb bN)(size:Nat):SV->a_ S'
 |.own d=>match bn m d with
  |some (.sl k es xs)=>if cV k then(if es=size then some xs else none)else some []|_=>none
 |.v .bM=>some []|.v .dX=>some []|.v (.fsl es xs)=>if es=size then some xs else none|_=>none
def Kz:SV->X'
 |.own _|.v .bM|.v .dX=>true|_=>false
def putCells(m:Tb bN)(size o:Nat)(sv:SV)(cs:SW):a_ SW:=
 match sv with
 |.v x=>if x.cells.length=size/\o+size<=cs.length/\x.cells.all V.one=true then some (cs.take o++x.cells.map .v++cs.drop (o+size))else none|.agg l=>if l.length=size/\o+size<=cs.length/\l.all (zn m)=true then some (cs.take o++l++cs.drop (o+size))else none|x=>if mM m x=true/\size=1/\o+1<=cs.length then some (cs.take o++[x]++cs.drop (o+1))else none
def giveUp(m:Tb bN):SV->Tb bN
 |.own d=>eR d m|_=>m
def oe(st:St)(dst:a_ Nat):NL->SW->a_ (SV×St)
 |.store size,[.ptr d o,x]=>match bn st.m d with
  |some (.box cs)=>(putCells st.m size o x cs).map λcs=>(.v .undef,{st with m:=bR st.m d (.box cs)})|_=>none
 |.store size,[.el d i o,.v x]=>match bn st.m d with
  |some (.sl k es xs)=>match xs[i]?with
   |some cs=>if x.cells.length=size/\o+size<=cs.length/\x.cells.all V.one=true then
    some (.v .undef,{st with m:=bR st.m d (.sl k es (xs.set i (cs.take o++x.cells++cs.drop (o+x.cells.length))))})else none
   |none=>none
  |_=>none
 |.mapUp kk,[.mp d,.v k,.v x]=>match bn st.m d with
  |some (.mp B)=>if rM kk k then(rI k x B).map λB=>(.v .undef,{st with m:=bR st.m d (.mp B)})else none|_=>none
 |.append size,[s,x]=>match ki st.m size s,ki st.m size x with
  |some _,some []=>match dst with
   |some t=>match s with
    |.own d=>match bn st.m d with
     |some ob=>if St.new {st with m:=eR d st.m} t then some (.own t,{st with m:=bR (eR d st.m) t ob})else none|none=>none
    |.v .bM=>if st.new t then some (.own t,{st with m:=bR st.m t (.sl .nil size [])})else none|.v .dX=>if st.new t then some (.own t,{st with m:=bR st.m t (.sl .emp size [])})else none|_=>none
   |none=>none
  |some xs,some ys=>
   if xs.length+ys.length<=2147483648/\Kz s=true then
    let m1:=giveUp st.m s
    match dst with
    |some t=>if St.new {st with m:=m1} t then some (.own t,{st with m:=bR m1 t (.sl .row size (xs++ys))})else none|none=>none
   else none
  |_,_=>none
 |.storeF size,.ptr d o::x::l=>if l.all (N5 st.m d)=true then match bn st.m d with
  |some (.box cs)=>(putCells st.m size o x cs).map λcs=>(.v .undef,{st with m:=bR st.m d (.box cs)})|_=>none
  else none
 |_,_=>none
def BZ(st:St)(dst:a_ Nat)(size:Nat)(lo hi:X')(d:Nat)(B:SW):a_ (SV×St):=
 match bn st.m d,dG B,dst with
 |some (.sl k es u),some z,some t=>
  if cV k=true/\es=size then
   (ny lo hi z).bind λ(l,h)=>(eD u.length l h).bind λ(l,h)=>
    let w:=eR d st.m
    if St.new {st with m:=w} t then some (.own t,{st with m:=bR w t (.sl .part es ((u.take h).drop l))})else none
  else none
 |_,_,_=>none
def CP:SW->SV
 |[x]=>x|l=>.tup l
mutual
def SV.DL:SV->ST
 |.v _=>[]|.own e=>[e]|.ptr e _=>[e]|.el e _ _=>[e]|.mp e=>[e]|.clo _ a b=>SV.tS a++SV.tS b|.tup l=>SV.tS l|.agg l=>SV.tS l|.yl _=>[]
def SV.tS:SW->ST
 |[]=>[]|x::r=>SV.DL x++SV.tS r
end
def bN.DL:bN->ST
 |.box cs=>SV.tS cs|_=>[]
def reach(m:Tb bN):Nat->ST->ST->ST
 |0,_,seen=>seen|_+1,[],seen=>seen|n+1,d::r,seen=>if seen.contains d then reach m n r seen else reach m n ((match bn m d with|some ob=>bN.DL ob|none=>[])++r) (seen++[d])
def handed(m:Tb bN)(l:SW):a_ dO:=kY m (reach m 32 (SV.tS l) [])
mutual
def SV.bare:SV->X'
 |.v x=>x.scalar|.clo _ a b=>SV.y8 a&&SV.y8 b|.tup l=>SV.y8 l|.agg l=>SV.y8 l|_=>true
def SV.y8:SW->X'
 |[]=>true|x::r=>SV.bare x&&SV.y8 r
end
def bN.bare:bN->X'
 |.box cs=>SV.y8 cs|_=>false
def Bw(m:Tb bN)(k:Nat):X':=match bn m k with
 |some ob=>ob.bare|none=>true
def within(B:ST)(ob:bN):X':=ob.DL.all B.contains
def AN(B:ST)(m':dO):ST->Tb bN->a_ (Tb bN)
 |[],m=>some m|d::r,m=>match bn m' d with
  |some ob=>if within B ob then AN B m' r (bR m d ob)else none|none=>none
def mm(m':dO)(l:ST)(m:Tb bN):a_ (Tb bN):=AN l m' l m
def nj(xs:S'):X':=xs.all λx=>x.all V.scalar
def D7(q:Hy)(dst:a_ Nat)(args:SW)(st:St):a_ (SV×St):=
 match args with
 |.own d::z=>match bn st.m d,dG z with
  |some (.sl k es u),some B=>match q.go es u B with
   |some w=>if q.part then match dst with
    |some t=>if St.new {st with m:=eR d st.m} t then some (.own t,{st with m:=bR (eR d st.m) t (if cV k then .sl .part es w else .sl k es u)})else none|none=>none
    else some (.v .undef,{st with m:=bR st.m d (if cV k then .sl k es w else .sl k es u)})
   |none=>none
  |_,_=>none
 |_=>none
def rowsOf:SW->a_ ST
 |[]=>some []|.v _::r=>rowsOf r|.own d::r=>(rowsOf r).map (d::·)|_=>none
def fP(S:Sys)(c:cr)(dst:a_ Nat)(dr now:X')(old:SW->X')(f:Y')(args:SW)(st:St):a_ (SV×St):=
 if S.E.keep f then
  if now then
   if S.E.own f then
    match dg st.m 8 args with
    |some az=>
     match c f (az.map .v) []with
     |some (rs,m')=>match dG rs with
      |some u=>if(result u).scalar then some (.v (result u),st)else none|none=>match rs,dst with
       |.own e::rest,some t=>match bn m' e,dG rest with
        |some (.sl .row es z),some u=>
         if V.c9 u&&nj z&&st.new t then
          some (CP (.own t::u.map .v),{st with m:=bR st.m t (.sl .row es z)})
         else none
        |some (.sl .nil es _),some u=>if V.c9 u&&st.new t then some (CP (.own t::u.map .v),{st with m:=bR st.m t (.sl .nil es [])})else none|some (.sl .emp es _),some u=>if V.c9 u&&st.new t then some (CP (.own t::u.map .v),{st with m:=bR st.m t (.sl .emp es [])})else none|_,_=>none
       |_,_=>none
     |none=>none
    |none=>none
   else match S.prm f with
    |some q=>if dr then none else D7 q dst args st|none=>match handed st.m args with
    |some os=>match c f args os with
     |some (rs,m')=>match dG rs,mm m' (os.map (·.1)) st.m with
      |some u,some w=>if dr&& !(V.c9 u&&os.all λx=>Bw w x.1)then none else some (.v (result u),{st with m:=w})|none,some w=>if dr then none else match rs,dst with
       |.own e::rest,some t=>match bn m' e,dG rest with
        |some (.sl k es z),some u=>if !(os.map (·.1)).contains e&&St.new {st with m:=w} t then some (CP (.own t::u.map .v),{st with m:=bR w t (.sl k es z)})else none|_,_=>none
       |_,_=>none
      |_,_=>none
     |none=>none
    |none=>none
  else if S.E.own f&&old args then match dg st.m 8 args with
   |some az=>match c f (az.map .v) []with
    |some (rs,m')=>match dg m' 8 rs with
     |some u=>if(result u).scalar||(dG args).isSome then some (.v (result u),st)else none|none=>none
    |none=>none
   |none=>none
  else none
 else match dg st.m 8 args with
  |some az=>if now||old args then
   match c f (az.map .v) []with
   |some (rs,m')=>match dg m' 8 rs with
    |some u=>if(result u).scalar||(dG args).isSome then some (.v (result u),st)
     else if now then(rowsOf args).map λds=>(.v (result u),{st with m:=pL ds st.m})
     else none
    |none=>none
   |none=>none
   else none
  |none=>none
def gF(m:Tb bN)(fr:ST)(args:SW):X':=fr.all λd=> !(SV.dW d args)&& !(uZ d m)
def CH:K->X'
 |.p (.build zero _)=>V.cM zero|.r (.lookup _ z _)=>z.good|.a (.alloc _ zero)=>V.cM zero&&zero.all V.one|.a (.makeSl _ zero)=>V.cM zero|.a (.buildSl _ _ zero _)=>V.cM zero|_=>true
def nG(S:Sys)(c:cr)(dr:X')(fr:ST)(o:RO)(st:St):a_ (SV×St):=
 match b7 S.N st.g o.az with
 |some u=>match o.k with
  |.p (.slice size lo hi)=>match u with
   |.own d::z=>if dr then none else BZ st o.dst size lo hi d z|u=>(kr S.N st.m (.slice size lo hi) u).map λx=>(x,st)
  |.p p=>(kr S.N st.m p u).map λx=>(x,st)|.r r=>if !dr||o.now||fL fr u then(pq st.m r u).map λx=>(x,st)else none|.a a=>match o.dst with
   |some d=>if st.new d then(pS st.m a u d).map λ(ob,x)=>(x,{st with m:=bR st.m d ob})else none|none=>none
  |.l l=>if !dr||o.now then oe st o.dst l u else none|.c=>match u with
   |.clo f a b::w=>fP S c o.dst dr (!dr||o.now) (gF st.m fr) f (a++w++b) st|.v (.clo f a b)::w=>fP S c o.dst dr (!dr||o.now) (gF st.m fr) f (a.map .v++w++b.map .v) st|_=>none
  |.b=>if dr then none else match u with
   |[x]=>(ki st.m 1 x).bind λB=>(mX B).map λl=>(.v (.str (mc l)),st)|_=>none
  |.e n=>match u with
   |[.v .bM,x]=>oe st o.dst (.append n) [.v .bM,x]|[.v .dX,x]=>oe st o.dst (.append n) [.v .dX,x]|_=>none
 |none=>none
def c8(st:St)(dst:a_ Nat)(x:SV):St:=
 match dst with
 |none=>st|some d=>{st with g:=bR st.g d x}
def wanted(g:Tb SV):a_ (Nat×X')->a_ X'
 |none=>some true|some (s,b)=>match bn g s with
  |some (.v (.bool c))=>some (c==b)|some (.v _)=>some false|_=>none
def AR(o:RO):a_ Nat:=
 match o.k with
 |.p _|.r _=>none|_=>o.dst
def sZ(fr:ST)(o:RO):ST:=
 match AR o with
 |some d=>d::fr|none=>fr
def bt(H:bp)(id:Nat):a_ (Nat×S'):=(H[id]?).bind Ob.rows
mutual
def V.mw:∀{x:V},x.good=true->x.closed=true
 |.hsl ..,h|.hptr ..,h|.yld _,h|.hmap _,h=>by simp[V.good]at h|.fsl ..,_|.fptr ..,_|.fmap ..,_=>rfl|.bool _,_|.int ..,_|.str _,_|.dX,_|.bM,_|.ja,_|.hG,_|.ug,_=>rfl|.clo _ a b,h=>by simp only[V.good,ζh]at h;simp only[V.closed,ζh];exact⟨V.pT h.1,V.pT h.2⟩|.agg cs,h=>by simp only[V.good]at h;simp only[V.closed];exact V.pT h|.tup cs,h=>by simp only[V.good]at h;simp only[V.closed];exact V.pT h
def V.pT:∀{l:So},V.cM l=true->V.mL l=true
 |[],_=>rfl|x::r,h=>by simp only[V.cM,ζh]at h;simp only[V.mL,ζh];exact⟨V.mw h.1,V.pT h.2⟩
end
def iS:∀{l:So},V.cM l=true↔∀(j:Nat)u,l[j]?=some u->u.good=true
 |[]=>by simp[V.cM]|x::l=>by simp[V.cM,iS];constructor;grind;intro h;exact⟨h 0 x rfl,λj u a=>h (j+1) u Zac⟩
def mz:∀{l:S'},V.oO l=true↔∀(j:Nat)u,l[j]?=some u->V.cM u=true
 |[]=>by simp[V.oO]|x::l=>by simp[V.oO,mz];constructor;grind;intro h;exact⟨h 0 x rfl,λj u a=>h (j+1) u Zac⟩
def IE:∀{l:aZ (V×V)},V.uT l=true↔∀(j:Nat)u,l[j]?=some u->u.1.good=true/\u.2.good=true
 |[]=>by simp[V.uT]|(k,x)::l=>by simp only[V.uT,ζh,IE];constructor;grind;intro h;exact⟨h 0 (k,x) rfl,λj u a=>h (j+1) u Zac⟩
def A6{l:So}(n:Nat)(h:V.cM l=true):V.cM (l.drop n)=true:=iS.2 λj u a=>iS.1 h (n+j) u Zac
inductive FR(H:bp)(Z:Nat->Prop):V->V->Prop
 |same(x:V)(h:x.good=true):FR H Z x x|fsl(es:Nat)(xs:List (List V))(id off:Nat)(ys:List (List V))(hz:Z id)(hr:bt H id=some (es,ys))(hl:off+xs.length<=ys.length)
  (hc:∀(i:Nat)a b,xs[i]?=some a->ys[off+i]?=some b->a.length=b.length)
  (hv:∀(i j:Nat)a b u v,xs[i]?=some a->ys[off+i]?=some b->a[j]?=some u->b[j]?=some v->FR H Z u v):FR H Z (.fsl es xs) (.hsl id es off xs.length)
 |fptr(xs:List V)(id el off es:Nat)(ys:List (List V))(cs:List V)(hz:Z id)(hr:bt H id=some (es,ys))(he:ys[el]?=some cs)(ho:off<=cs.length)(hx:xs.length=cs.length-off)
  (hv:∀(j:Nat)u v,xs[j]?=some u->cs[off+j]?=some v->FR H Z u v):FR H Z (.fptr xs) (.hptr id el off)
 |clo(f:FuncId)(a b a' b':List V)(ha:a.length=a'.length)(hb:b.length=b'.length)(hva:∀(j:Nat)u v,a[j]?=some u->a'[j]?=some v->FR H Z u v)(hvb:∀(j:Nat)u v,b[j]?=some u->b'[j]?=some v->FR H Z u v):FR H Z (.clo f a b) (.clo f a' b')|agg(a a':List V)(ha:a.length=a'.length)(hva:∀(j:Nat)u v,a[j]?=some u->a'[j]?=some v->FR H Z u v):FR H Z (.agg a) (.agg a')|tup(a a':List V)(ha:a.length=a'.length)(hva:∀(j:Nat)u v,a[j]?=some u->a'[j]?=some v->FR H Z u v):FR H Z (.tup a) (.tup a')
def dK(H:bp)(Z:Nat->Prop)(xs ys:So):Prop:=xs.length=ys.length/\∀(j:Nat)u v,xs[j]?=some u->ys[j]?=some v->FR H Z u v
def hU(H:bp)(Z:Nat->Prop)(xs ys:S'):Prop:=xs.length=ys.length/\∀(j:Nat)u v,xs[j]?=some u->ys[j]?=some v->dK H Z u v
section
variable{H H':bp}{Z Z':Nat->Prop}
def FR.mono(h:∀id,Z id->Z' id/\bt H' id=bt H id){x y:V}(r:FR H Z x y):FR H' Z' x y:=by induction r with|same x h=>exact .same x h|fsl es B id off C D hr J hc hv G=>exact .fsl es B id off C (h id D).1 Zac J hc G|fptr B id el off es C cs D hr L O Q hv G=>exact .fptr B id el off es C cs (h id D).1 Zac L O Q G|clo f a b w S z T hva U u I=>exact .clo f a b w S z T u I|agg a w z hva u=>exact .agg a w z u|tup a w z hva u=>exact .tup a w z u
def dK.mono(h:∀id,Z id->Z' id/\bt H' id=bt H id){x y:So}(r:dK H Z x y):dK H' Z' x y:=⟨r.1,λj u v a b=>(r.2 j u v a b).mono h⟩
def hU.mono(h:∀id,Z id->Z' id/\bt H' id=bt H id){x y:S'}(r:hU H Z x y):hU H' Z' x y:=⟨r.1,λj u v a b=>(r.2 j u v a b).mono h⟩
def dK.nil:dK H Z [] []:=⟨rfl,Zab⟩
def dK.cons{x y:V}{xs ys:So}(h:FR H Z x y)(r:dK H Z xs ys):dK H Z (x::xs) (y::ys):=by refine⟨by simp[r.1],λj u v a b=>?_⟩;cases j with|zero=>grind|succ j=>exact r.2 j u v Zac Zac
def dK.inv{x:V}{xs B:So}(r:dK H Z (x::xs) B):∃y ys,B=y::ys/\FR H Z x y/\dK H Z xs ys:=by cases B with|nil=>have:=r.1;grind|cons y ys=>refine⟨y,ys,rfl,r.2 0 x y rfl rfl,by have:=r.1;grind,λj u v a b=>r.2 (j+1) u v Zac Zac⟩
def dK.dh{B:So}(r:dK H Z [] B):B=[]:=by have:=r.1;grind
def dK.get{xs ys:So}(r:dK H Z xs ys){j:Nat}{u:V}(h:xs[j]?=some u):∃v,ys[j]?=some v/\FR H Z u v:=by
 have w:=(ζe.1 h).1;have:j<ys.length:=by rw[<-r.1];omega
 exact⟨ys[j],ζd this,r.2 j u _ h (ζd this)⟩
def hU.get{xs ys:S'}(r:hU H Z xs ys){j:Nat}{u:So}(h:xs[j]?=some u):∃v,ys[j]?=some v/\dK H Z u v:=by
 have w:=(ζe.1 h).1;have:j<ys.length:=by rw[<-r.1];omega
 exact⟨ys[j],ζd this,r.2 j u _ h (ζd this)⟩
def dK.append{a b c d:So}(h:dK H Z a b)(k:dK H Z c d):dK H Z (a++c) (b++d):=by refine⟨by simp[h.1,k.1],λj u v e f=>?_⟩;by_cases w:j<a.length;rw[getElem?_append_left w]at e;rw[getElem?_append_left (by rw[<-h.1];omega)]at f;exact h.2 j u v e f;rw[getElem?_append_right Zaa]at e;rw[getElem?_append_right (by rw[<-h.1];omega),<-h.1]at f;exact k.2 _ u v e f
def hU.append{a b c d:S'}(h:hU H Z a b)(k:hU H Z c d):hU H Z (a++c) (b++d):=by refine⟨by simp[h.1,k.1],λj u v e f=>?_⟩;by_cases w:j<a.length;rw[getElem?_append_left w]at e;rw[getElem?_append_left (by rw[<-h.1];omega)]at f;exact h.2 j u v e f;rw[getElem?_append_right Zaa]at e;rw[getElem?_append_right (by rw[<-h.1];omega),<-h.1]at f;exact k.2 _ u v e f
def dK.take{a b:So}(h:dK H Z a b)(n:Nat):dK H Z (a.take n) (b.take n):=by
 refine⟨by simp[h.1],λj u v c d=>?_⟩;rw[getElem?_take]at c d;split at c;next w=>rw[if_pos w]at d;exact h.2 j u v c d
 grind
def dK.drop{a b:So}(h:dK H Z a b)(n:Nat):dK H Z (a.drop n) (b.drop n):=by refine⟨by simp[h.1],λj u v c d=>?_⟩;rw[getElem?_drop]at c d;exact h.2 _ u v c d
def hU.take{a b:S'}(h:hU H Z a b)(n:Nat):hU H Z (a.take n) (b.take n):=by
 refine⟨by simp[h.1],λj u v c d=>?_⟩;rw[getElem?_take]at c d;split at c;next w=>rw[if_pos w]at d;exact h.2 j u v c d
 grind
def hU.drop{a b:S'}(h:hU H Z a b)(n:Nat):hU H Z (a.drop n) (b.drop n):=by refine⟨by simp[h.1],λj u v c d=>?_⟩;rw[getElem?_drop]at c d;exact h.2 _ u v c d
def dK.set{a b:So}(h:dK H Z a b)(n:Nat){x y:V}(B:FR H Z x y):dK H Z (a.set n x) (b.set n y):=by refine⟨by simp[h.1],λj u v c d=>?_⟩;rw[getElem?_set]at c d;split at c;grind;rename_i e;rw[if_neg e]at d;exact h.2 j u v c d
def hU.set{a b:S'}(h:hU H Z a b)(n:Nat){x y:So}(B:dK H Z x y):hU H Z (a.set n x) (b.set n y):=by refine⟨by simp[h.1],λj u v c d=>?_⟩;rw[getElem?_set]at c d;split at c;grind;rename_i e;rw[if_neg e]at d;exact h.2 j u v c d
def dK.same{l:So}(h:V.cM l=true):dK H Z l l:=⟨rfl,λj u v a b=>by rw[a]at b;cases b;exact .same u (iS.1 h j u a)⟩
def FR.good{x y:V}(r:FR H Z x y):x.good=true:=by induction r with|same x h=>omega|fsl es C id off D G hr O hc hv I=>refine mz.2 λi a z=>iS.2 λj u c=>?_;grind|fptr C id el off es D cs G hr Q S T hv I=>refine iS.2 λj u c=>?_;grind|clo f a b B U z W hva J w L=>simp[V.good];refine⟨iS.2 λj u c=>?_,iS.2 λj u c=>?_⟩;grind;grind|agg a B z hva w=>refine iS.2 λj u c=>?_;grind|tup a B z hva w=>simp[V.good];refine iS.2 λj u c=>?_;grind
def FR.closed{x y:V}(r:FR H Z x y):x.closed=true:=V.mw r.good
def dK.good{xs ys:So}(r:dK H Z xs ys):V.cM xs=true:=iS.2 λj u a=>by have⟨v,_,h⟩:=r.get a;exact h.good
def hU.good{xs ys:S'}(r:hU H Z xs ys):V.oO xs=true:=mz.2 λj u a=>by have⟨v,_,h⟩:=r.get a;exact h.good
def FR.bool{b:X'}{y:V}(r:FR H Z (.bool b) y):y=.bool b:=by cases r;rfl
def FR.int{k:T2}{n:Int}{y:V}(r:FR H Z (.int k n) y):y=.int k n:=by cases r;rfl
def FR.str{s:U'}{y:V}(r:FR H Z (.str s) y):y=.str s:=by cases r;rfl
def FR.dX{y:V}(r:FR H Z .dX y):y=.dX:=by cases r;rfl
def FR.bM{y:V}(r:FR H Z .bM y):y=.bM:=by cases r;rfl
def FR.ja{y:V}(r:FR H Z .ja y):y=.ja:=by cases r;rfl
def FR.hG{y:V}(r:FR H Z .hG y):y=.hG:=by cases r;rfl
def FR.ug{y:V}(r:FR H Z .ug y):y=.ug:=by cases r;rfl
def FR.fmap{B:aZ (V×V)}{y:V}(r:FR H Z (.fmap B) y):y=.fmap B:=by cases r;rfl
def FR.jB{a:So}{y:V}(r:FR H Z (.agg a) y):∃a',y=.agg a'/\dK H Z a a':=by cases r with|same _ h=>exact⟨a,rfl,.same (by simpa[V.good]using h)⟩|agg _ a' u hva=>exact⟨a',rfl,u,hva⟩
def FR.sj{a:So}{y:V}(r:FR H Z (.tup a) y):∃a',y=.tup a'/\dK H Z a a':=by cases r with|same _ h=>exact⟨a,rfl,.same (by simpa[V.good]using h)⟩|tup _ a' u hva=>exact⟨a',rfl,u,hva⟩
def FR.lG{f:Y'}{a b:So}{y:V}(r:FR H Z (.clo f a b) y):∃a' B,y=.clo f a' B/\dK H Z a a'/\dK H Z b B:=by cases r with|same _ h=>simp[V.good]at h;exact⟨a,b,rfl,.same h.1,.same h.2⟩|clo _ _ _ a' B w z hva u=>exact⟨a',B,rfl,⟨w,hva⟩,⟨z,u⟩⟩
def FR.nU{es:Nat}{xs:S'}{y:V}(r:FR H Z (.fsl es xs) y):y=.fsl es xs\/
 ∃id off ys,y=.hsl id es off xs.length/\Z id/\bt H id=some (es,ys)/\off+xs.length<=ys.length/\hU H Z xs ((ys.drop off).take xs.length):=by
 cases r with
 |same _ h=>grind|fsl _ _ id off ys z hr B hc hv=>
  refine .inr ⟨id,off,ys,rfl,z,hr,B,by simp;omega,λj u v a w=>?_⟩
  have C:=(ζe.1 a).1;rw[getElem?_take,if_pos C,getElem?_drop]at w;exact⟨hc j u v a w,λi s t D G=>hv j i u v s t a w D G⟩
def FR.OR{es:Nat}{xs:S'}{id off:Nat}{ys:S'}(B:Z id)(c:bt H id=some (es,ys))(D:off+xs.length<=ys.length)(h:hU H Z xs ((ys.drop off).take xs.length)):
 FR H Z (.fsl es xs) (.hsl id es off xs.length):=by
 have key:∀(i:Nat)a b,xs[i]?=some a->ys[off+i]?=some b->dK H Z a b:=λi a b w z=>by refine h.2 i a b w ?_;grind
 exact .fsl es xs id off ys B c D (λi a b w z=>(key i a b w z).1) (λi j a b u v w z d e=>(key i a b w z).2 j u v d e)
def FR.nW{xs:So}{y:V}(r:FR H Z (.fptr xs) y):y=.fptr xs\/
 ∃id el off es ys cs,y=.hptr id el off/\Z id/\bt H id=some (es,ys)/\ys[el]?=some cs/\off<=cs.length/\dK H Z xs (cs.drop off):=by
 cases r with
 |same _ h=>grind|fptr _ id el off es ys cs w hr z B D hv=>
  refine .inr ⟨id,el,off,es,ys,cs,rfl,w,hr,z,B,Zad,λj u v a C=>?_⟩
  grind
def FR.Gk{xs:So}{id el off es:Nat}{ys:S'}{cs:So}(B:Z id)(a:bt H id=some (es,ys))(D:ys[el]?=some cs)(G:off<=cs.length)(h:dK H Z xs (cs.drop off)):FR H Z (.fptr xs) (.hptr id el off):=.fptr xs id el off es ys cs B a D G (by have:=h.1;grind) (λj u v b c=>h.2 j u v b Zac)
def FR.cells{x y:V}(r:FR H Z x y):dK H Z x.cells y.cells:=by
 have one:∀{a b:V},FR H Z a b->dK H Z [a] [b]:=λh=>.cons h .nil
 cases r with
 |same _ h=>cases x<;>first|exact one (.same _ h)|(exact dK.same h)
 |fsl es z id off B C hr G hc hv=>exact one (.fsl es z id off B C hr G hc hv)|fptr z id el off es B cs C hr I J L hv=>exact one (.fptr z id el off es B cs C hr I J L hv)|clo f a b w O u Q hva D=>exact one (.clo f a b w O u Q hva D)|agg a w u hva=>exact⟨u,hva⟩|tup a w u hva=>exact one (.tup a w u hva)
def FR.one{x y:V}(r:FR H Z x y):y.one=x.one:=by cases r<;>rfl
def dK.one:∀{xs ys:So},dK H Z xs ys->ys.all V.one=xs.all V.one
 |[],ys,r=>by rw[r.dh]|x::xs,D,r=>by obtain⟨y,ys,rfl,h,B⟩:=r.inv;simp[h.one,B.one]
def sX:∀{l:So},V.c9 l=true↔∀(j:Nat)u,l[j]?=some u->u.scalar=true
 |[]=>by simp[V.c9]|x::l=>by simp[V.c9,sX];constructor;grind;intro h;exact⟨h 0 x rfl,λj u a=>h (j+1) u Zac⟩
def FR.scalar{x y:V}(r:FR H Z x y):(x.scalar=true->y=x)/\y.scalar=x.scalar:=by
 have key:∀(a w:So),a.length=w.length->(∀(j:Nat)u v,a[j]?=some u->w[j]?=some v->(u.scalar=true->v=u)/\v.scalar=u.scalar)->(V.c9 a=true->w=a)/\V.c9 w=V.c9 a:=by intro a w B G;have b:V.c9 a=true->w=a:=(by intro I;refine(List.ext_getElem B λj b C=>?_).symm;exact(((G j _ _ (ζd b) (ζd C)).1 (sX.1 I j _ (ζd b)))).symm);refine⟨b,?_⟩;cases I:V.c9 a with|true=>grind|false=>cases D:V.c9 w with|false=>rfl|true=>have:V.c9 a=true:=sX.2 λj u c=>(by have J:j<w.length:=Zac;have:=(G j u _ c (ζd J)).2;rw[<-this];exact sX.1 D j _ (ζd J));grind
 induction r with|same x h=>grind|fsl=>exact⟨λh=>by simp[V.scalar]at h,rfl⟩|fptr=>exact⟨λh=>by simp[V.scalar]at h,rfl⟩|clo=>exact⟨λh=>by simp[V.scalar]at h,rfl⟩|agg a w B hva z=>have⟨b,C⟩:=key a w B z;exact⟨λh=>by rw[b (by simpa[V.scalar]using h)],by simpa[V.scalar]using C⟩|tup a w B hva z=>have⟨b,C⟩:=key a w B z;exact⟨λh=>by rw[b (by simpa[V.scalar]using h)],by simpa[V.scalar]using C⟩
def dK.scalar{a a':So}(r:dK H Z a a'):(V.c9 a=true->a'=a)/\V.c9 a'=V.c9 a:=by have⟨b,u⟩:=FR.scalar (.tup a a' r.1 r.2);simp[V.scalar]at b u;grind
def tA:∀{l:So}{a:R'},jr l=some a->V.c9 l=true
 |[],_,_=>rfl|x::l,a,h=>by unfold jr at h;split at h;grind;(next n r e=>cases e;have⟨b,B,_⟩:=ζf.1 h;simp[V.c9,V.scalar];exact tA B);grind
end
mutual
def kU:∀{x:V},x.scalar=true->x.good=true
 |.bool _,_|.int ..,_|.str _,_|.ja,_|.hG,_|.ug,_|.dX,_|.bM,_=>rfl|.agg cs,h=>by simp only[V.scalar]at h;simp only[V.good];exact rO h|.tup cs,h=>by simp only[V.scalar]at h;simp only[V.good];exact rO h|.fsl ..,h|.hsl ..,h|.fptr ..,h|.hptr ..,h|.clo ..,h|.yld _,h|.fmap _,h|.hmap _,h=>by simp[V.scalar]at h
def rO:∀{l:So},V.c9 l=true->V.cM l=true
 |[],_=>rfl|x::r,h=>by simp only[V.c9,ζh]at h;simp only[V.cM,ζh];exact⟨kU h.1,rO h.2⟩
end
section
variable{H H':bp}{Z Z':Nat->Prop}
def mh{f:V->a_ V}:∀{xs ys:So},xs.length=ys.length->(∀(j:Nat)u v,xs[j]?=some u->ys[j]?=some v->f v=some u)->jm f ys=some xs
 |[],[],_,_=>rfl|[],y::ys,h,_=>Zad|x::xs,[],h,_=>Zad|x::xs,y::ys,h,B=>by simp[jm,B 0 x y rfl rfl,mh (xs:=xs) (ys:=ys) Zac λj u v a b=>B (j+1) u v Zac Zac]
def KS{f:V->a_ V}:∀{xs ys:S'},xs.length=ys.length->(∀(j:Nat)u v,xs[j]?=some u->ys[j]?=some v->jm f v=some u)->nv f ys=some xs
 |[],[],_,_=>rfl|[],y::ys,h,_=>Zad|x::xs,[],h,_=>Zad|x::xs,y::ys,h,B=>by simp[nv,B 0 x y rfl rfl,KS (xs:=xs) (ys:=ys) Zac λj u v a b=>B (j+1) u v Zac Zac]
def qC:∀{l:So},V.mL l=true↔∀(j:Nat)u,l[j]?=some u->u.closed=true
 |[]=>by simp[V.mL]|x::l=>by simp[V.mL,qC];constructor;grind;intro h;exact⟨h 0 x rfl,λj u a=>h (j+1) u Zac⟩
def oa:∀{l:So}{n:Nat},V.mS n l=true↔∀(j:Nat)u,l[j]?=some u->u.lvl n=true
 |[],n=>by simp[V.mS]|x::l,n=>by simp[V.mS,oa];constructor;grind;intro h;exact⟨h 0 x rfl,λj u a=>h (j+1) u Zac⟩
def HQ:∀{l:S'}{n:Nat},V.qT n l=true↔∀(j:Nat)u,l[j]?=some u->V.mS n u=true
 |[],n=>by simp[V.qT]|x::l,n=>by simp[V.qT,HQ];constructor;grind;intro h;exact⟨h 0 x rfl,λj u a=>h (j+1) u Zac⟩
def eT(n:Nat)(H:bp){x:V}(h:x.closed=true):borrow n H x=some x:=lN n H h
def FR.borrow{x y:V}(r:FR H Z x y):∀n,x.lvl n=true->borrow n H y=some x:=by
 induction r with
 |same x h=>exactλn _=>eT n H (V.mw h)|fsl es J id off U W hr X hc d L=>intro n z;cases n with|zero=>simp[V.lvl]at z|succ n=>unfold Go.VE.borrow;unfold bt at hr;simp only[V.closed,false_eq_true,if_false,hr,true_and,if_pos X,ζf];refine⟨J,KS (by simp;omega) λj u v c B=>?_,rfl⟩;have Y:=(ζe.1 c).1;rw[getElem?_take,if_pos Y,getElem?_drop]at B;refine mh (hc j u v c B) λi s t Q e=>L j i u v s t c B Q e n (oa.1 (HQ.1 z j u c) i s Q)
 |fptr J id el off es U cs W hr he ho hx d L=>intro n z;cases n with|zero=>simp[V.lvl]at z|succ n=>unfold Go.VE.borrow;unfold bt at hr;simp only[V.closed,false_eq_true,if_false,hr,he,if_pos ho,ζf];refine⟨J,mh Zad λj u v c B=>?_,rfl⟩;rw[getElem?_drop]at B;exact L j u v c B n (oa.1 z j u c)
 |clo f a b D S G T hva aa C I=>intro n z;cases n with|zero=>simp[V.lvl]at z|succ n=>simp[V.lvl]at z;by_cases w:(V.clo f D S).closed=true;rw[eT _ _ w];simp[V.closed]at w;have e1:D=a:=(by have:=mh G λj u v c d=>C j u v c d n (oa.1 z.1 j u c);have O:=mh rfl λj u v c d=>(by rw[c]at d;cases d;exact eT n H (qC.1 w.1 j u c));grind);have e2:S=b:=(by have:=mh T λj u v c d=>I j u v c d n (oa.1 z.2 j u c);have O:=mh rfl λj u v c d=>(by rw[c]at d;cases d;exact eT n H (qC.1 w.2 j u c));grind);simp_all;unfold Go.VE.borrow;rw[if_neg w];simp[mh G λj u v c d=>C j u v c d n (oa.1 z.1 j u c),mh T λj u v c d=>I j u v c d n (oa.1 z.2 j u c)]
 |agg a D G hva C=>intro n z;cases n with|zero=>simp[V.lvl]at z|succ n=>have g:=mh G λj u v c d=>C j u v c d n (oa.1 z j u c);by_cases w:(V.agg D).closed=true;rw[eT _ _ w];have O:=mh rfl λj u v c d=>(by rw[c]at d;cases d;exact eT n H (qC.1 w j u c));grind;unfold Go.VE.borrow;grind
 |tup a D G hva C=>intro n z;cases n with|zero=>simp[V.lvl]at z|succ n=>have g:=mh G λj u v c d=>C j u v c d n (oa.1 z j u c);by_cases w:(V.tup D).closed=true;rw[eT _ _ w];have O:=mh rfl λj u v c d=>(by rw[c]at d;cases d;exact eT n H (qC.1 w j u c));grind;unfold Go.VE.borrow;grind
def rH{f:V->ST}{k:Nat}:∀{l:So},k∈c_ f l->∃(j:Nat)(u:V),l[j]?=some u/\k∈f u
 |[],h=>by simp[c_]at h|x::l,h=>by simp[c_]at h;rcases h with h|h;exact⟨0,x,rfl,h⟩;have⟨j,u,b,a⟩:=rH h;exact⟨j+1,u,Zac,a⟩
structure Deep(H:bp)(Z:Nat->Prop):Prop where
 row:∀id es ys,Z id->bt H id=some (es,ys)->∀c∈ys,∀u∈c,∃x,FR H Z x u
def FR.cA(hd:Deep H Z):∀(n:Nat){x y:V},FR H Z x y->∀k∈cA n H y,Z k
 |0,x,y,r,k,d=>by simp[Go.VE.cA]at d|n+1,x,y,r,k,d=>by
  unfold Go.VE.cA at d;split at d;simp_all;rename_i J;have G:∀(a a':So),dK H Z a a'->k∈c_ (Go.VE.cA n H) a'->Z k:=λa a' h d=>by have⟨j,u,e,z⟩:=rH d;have S:j<a.length:=(by rw[h.1];grind);exact FR.cA hd n (h.2 j _ u (ζd S) e) k z
  have row:∀(id:Nat)es w(l:So),Z id->bt H id=some (es,w)->(∀u∈l,∃c∈w,u∈c)->k∈c_ (Go.VE.cA n H) l->Z k:=λid es w l B hr L d=>by have⟨j,u,e,z⟩:=rH d;have⟨c,g,C⟩:=L u (mem_of_getElem? e);have⟨x,O⟩:=hd.row id es w B hr c g u C;exact FR.cA hd n O k z
  cases r with
  |same _ h=>exact absurd (V.mw h) J|fsl es T id off w B hr L g hv=>simp only[mem_cons]at d;rcases d with rfl|d;exact B;rw[show(H[id]?).bind Ob.rows=some (es,w)from hr]at d;exact row id es w _ B hr (λu e=>by have⟨c,g,C⟩:=List.mem_flatten.1 e;exact⟨c,mem_of_mem_drop (List.mem_of_mem_take g),C⟩) d
  |fptr T id el off es w cs B hr Q X O hv=>simp only[mem_cons]at d;rcases d with rfl|d;exact B;rw[show(H[id]?).bind Ob.rows=some (es,w)from hr]at d;simp only[Q,Option.getD_some]at d;exact row id es w _ B hr (λu e=>⟨cs,mem_of_getElem? Q,mem_of_mem_drop e⟩) d
  |clo f a b a' U D W hva I=>simp at d;rcases d with d|d;exact G a a' ⟨D,hva⟩ d;exact G b U ⟨W,I⟩ d
  |agg a a' D hva=>exact G a a' ⟨D,hva⟩ d|tup a a' D hva=>exact G a a' ⟨D,hva⟩ d
def dK.cut{cs ys r:So}{off n:Nat}(h:dK H Z cs ys)(a:cut cs off n=some r):∃B,Go.VE.cut ys off n=some B/\dK H Z r B:=by unfold Go.VE.cut at a⊢;have u:=(h.drop off).take n;dsimp only at a⊢;split at a;simp at a;subst a;exact⟨_,by rw[if_pos (by rw[<-u.1];omega)],u⟩;grind
def dK.mk{agg:X'}{cs ys:So}{x:V}(h:dK H Z cs ys)(B:mk agg cs=some x):∃y,Go.VE.mk agg ys=some y/\FR H Z x y:=by unfold Go.VE.mk at B⊢;split at B;simp at B;subst B;exact⟨_,Zac,.agg _ _ h.1 h.2⟩;split at B;simp at B;obtain⟨y,ys,rfl,a,u⟩:=h.inv;rw[u.dh];grind;grind
def dK.fill:∀{pl:aZ (Nat×Nat)}{vs B cells cells' r:So},dK H Z cells cells'->dK H Z vs B->mq cells pl vs=some r->∃D,mq cells' pl B=some D/\dK H Z r D
 |[],vs,B,cells,cells',r,hc,hv,h=>by cases vs with|nil=>rw[hv.dh];simp[mq]at h⊢;grind|cons v vs=>simp[mq]at h
 |(off,size)::pl,vs,B,cells,cells',r,hc,hv,h=>by cases vs with|nil=>simp[mq]at h|cons v vs=>obtain⟨w,B,rfl,a,G⟩:=hv.inv;have k:=a.cells;simp only[mq]at h⊢;rw[<-k.1,<-hc.1];split at h;simp_all;rename_i e;rw[if_neg e];exact dK.fill (((hc.take off).append k).append (hc.drop _)) G h
def FR.wC{k:KT}{x y G J:V}{b:X'}(B:FR H Z x G)(D:FR H Z y J)(h:qJ k x y=some b):qJ k G J=some b:=by unfold qJ at h;split at h;rw[B.bM,D.bM];exact h;rw[D.bM];rcases B.nU with rfl|⟨_,_,_,rfl,_⟩<;>exact h;exact absurd B.closed (by simp[V.closed]);rw[B.ja,D.ja];exact h;rw[D.ja];rcases B.nW with rfl|⟨_,_,_,_,_,_,rfl,_⟩<;>exact h;exact absurd B.closed (by simp[V.closed]);rw[B.hG,D.hG];exact h;rw[D.hG,B.fmap];exact h;exact absurd B.closed (by simp[V.closed]);grind
def FR.mA{a b a' B:So}{r:X'}(D:dK H Z a a')(G:dK H Z b B)(h:mA a b=some r):Go.VE.mA a' B=some r:=by unfold Go.VE.mA at h;split at h;rename_i u v c d;rw[D.scalar.1 (tA c),G.scalar.1 (tA d)];unfold Go.VE.mA;grind;grind
def BM{k:KT}{x y:V}{b:X'}(h:qJ k x y=some b):(y=.bM/\(x=.bM\/(∃es xs,x=.fsl es xs)\/∃id es off len,x=.hsl id es off len))\/
 (y=.ja/\(x=.ja\/(∃cs,x=.fptr cs)\/∃id el off,x=.hptr id el off))\/(y=.hG/\(x=.hG\/(∃B,x=.fmap B)\/∃id,x=.hmap id)):=by
 unfold qJ at h
 grind
def LS{k:a_ KT}{e:a_ Nat}{op:BinOp}{x y:V}(D:(y=.bM/\(x=.bM\/(∃es xs,x=.fsl es xs)\/∃id es off len,x=.hsl id es off len))\/
 (y=.ja/\(x=.ja\/(∃cs,x=.fptr cs)\/∃id el off,x=.hptr id el off))\/(y=.hG/\(x=.hG\/(∃B,x=.fmap B)\/∃id,x=.hmap id))):
 iG k e op x y=(match k,op with
 |some k,.eql=>(qJ k x y).map .bool|some k,.neq=>(qJ k x y).map λt=>.bool !t|_,_=>none):=by
 rcases D with⟨rfl,rfl|⟨_,_,rfl⟩|⟨_,_,_,_,rfl⟩⟩|⟨rfl,rfl|⟨_,rfl⟩|⟨_,_,_,rfl⟩⟩|⟨rfl,rfl|⟨_,rfl⟩|⟨_,rfl⟩⟩<;>cases k<;>cases op<;>rfl
def Mz{k:a_ KT}{e:a_ Nat}{op:BinOp}{x y z:V}(h:iG k e op x y=some z):z.good=true:=by
 have w:∀{o:a_ X'}{z:V},o.map V.bool=some z->z.good=true:=λh=>by obtain⟨_,_,rfl⟩:=ζf.1 h;rfl
 have u:∀{o:a_ X'}{z:V},(o.map λt=>V.bool !t)=some z->z.good=true:=λh=>by obtain⟨_,_,rfl⟩:=ζf.1 h;rfl
 unfold iG at h;(repeat' split at h)<;>first|(simp at h;subst h;rfl)|exact w h|exact u h|simp at h
def FR.bin{k:a_ KT}{e:a_ Nat}{op:BinOp}{x y G J z:V}(B:FR H Z x G)(D:FR H Z y J)(h:iG k e op x y=some z):iG k e op G J=some z:=by
 have b:=h;unfold iG at h;split at h;rw[B.int,D.int];omega;rw[B.str,D.str];omega;rw[B.bool,D.bool];omega;obtain⟨L,rfl,w⟩:=B.jB;obtain⟨O,rfl,I⟩:=D.jB;split at h;split at h;next C=>obtain⟨r,a,rfl⟩:=ζf.1 h;simp[iG,<-w.1,C,FR.mA w I a]
 grind;split at h;next C=>obtain⟨r,a,rfl⟩:=ζf.1 h;simp[iG,<-w.1,C,FR.mA w I a]
 grind;grind;split at h;obtain⟨r,a,rfl⟩:=ζf.1 h;have u:=FR.wC B D a;rw[LS (BM u)];grind;obtain⟨r,a,rfl⟩:=ζf.1 h;have u:=FR.wC B D a;rw[LS (BM u)];grind;grind
def FR.slice{size:Nat}{x J z:V}{l h:Pi}(D:FR H Z x J)(B:iX size x l h=some z):∃U,iX size J l h=some U/\FR H Z z U:=by
 have G:∀{n lo hi:Nat},eD n l h=some (lo,hi)->hi<=n/\lo<=hi:=by intro n lo hi e;unfold eD at e;grind
 unfold iX at B;split at B;rename_i es I;split at B;rename_i L;obtain⟨⟨lo,hi⟩,w,rfl⟩:=ζf.1 B;have⟨Q,W⟩:=G w;rcases D.nU with rfl|⟨id,off,O,rfl,S,hr,X,T⟩;refine⟨_,by simp[iX,if_pos L,w],.same _ ?_⟩;have b:=D.good;refine mz.2 λj u a=>?_;rw[getElem?_drop,getElem?_take]at a;split at a;exact mz.1 b _ u a;grind;refine⟨.hsl id es (off+lo) (hi-lo),by simp[iX,if_pos L,w],?_⟩;have C:((I.take hi).drop lo).length=hi-lo:=Zad;rw[<-C];refine FR.OR S hr Zac ?_;have:=(T.take hi).drop lo;have e:List.drop lo (take hi (take I.length (List.drop off O)))=take (hi-lo) (List.drop (off+lo) O):=by rw[List.take_take,Nat.min_eq_left Q,List.drop_take,drop_drop]
 grind;grind;exact absurd D.closed (by simp[V.closed]);rw[D.dX];obtain⟨_,w,rfl⟩:=ζf.1 B;exact⟨.dX,by simp[iX,w],.same _ rfl⟩;rw[D.bM];obtain⟨_,w,rfl⟩:=ζf.1 B;exact⟨.bM,by simp[iX,w],.same _ rfl⟩;grind
def dK.ny{lo hi:X'}{G D:So}{r:Pi×Pi}(h:dK H Z G D)(B:ny lo hi G=some r):Go.VE.ny lo hi D=some r:=by unfold Go.VE.ny at B;split at B;rw[h.dh];exact B;obtain⟨_,_,rfl,a,u⟩:=h.inv;rw[a.int,u.dh];exact B;obtain⟨_,_,rfl,a,u⟩:=h.inv;rw[a.int,u.dh];exact B;obtain⟨_,_,rfl,a,u⟩:=h.inv;obtain⟨_,_,rfl,w,z⟩:=u.inv;rw[a.int,w.int,z.dh];exact B;grind
def dK.bq{N:Nat->Y'}{p:wE}{xs ys:So}{z:V}(Y:∀zero pl,p=.build zero pl->V.cM zero=true)(h:dK H Z xs ys)(hp:bq N p xs=some z):∃U,Go.VE.bq N p ys=some U/\FR H Z z U:=by
 unfold Go.VE.bq at hp;split at hp;obtain⟨y,_,rfl,f,w⟩:=h.inv;rw[w.dh];simp only[ζa]at hp;subst hp;exact⟨y,rfl,f⟩;rename_i t a b;obtain⟨w1,_,rfl,f,w⟩:=h.inv;obtain⟨w2,_,rfl,B,C⟩:=w.inv;obtain⟨w3,_,rfl,S,T⟩:=C.inv;rw[f.bool,T.dh];simp only[ζa]at hp;subst hp;refine⟨if t=true then w2 else w3,rfl,?_⟩;cases t;exact S;exact B;obtain⟨y,_,rfl,f,w⟩:=h.inv;rw[w.dh];unfold Of at hp;split at hp;exact absurd f.closed (by simp[V.closed]);simp only[ζa]at hp;subst hp;rcases f.nW with rfl|⟨_,_,_,_,_,_,rfl,_⟩;exact⟨_,rfl,f⟩;exact⟨_,rfl,f⟩;simp only[ζa]at hp;subst hp;obtain⟨_,_,rfl,_⟩:=f.lG;exact⟨_,rfl,f⟩;simp at hp;obtain⟨_,_,rfl,f,w⟩:=h.inv;obtain⟨_,_,rfl,B,C⟩:=w.inv;rw[C.dh];exact⟨z,FR.bin f B hp,.same _ (Mz hp)⟩;obtain⟨_,_,rfl,f,w⟩:=h.inv;rw[f.bool,w.dh];simp only[ζa]at hp;subst hp;exact⟨_,rfl,.same _ rfl⟩;obtain⟨_,_,rfl,f,w⟩:=h.inv;rw[f.int,w.dh];simp only[ζa]at hp;subst hp;exact⟨_,rfl,.same _ rfl⟩;obtain⟨_,_,rfl,f,w⟩:=h.inv;rw[f.int,w.dh];simp only[ζa]at hp;subst hp;exact⟨_,rfl,.same _ rfl⟩;rename_i off p;obtain⟨y,_,rfl,f,w⟩:=h.inv;rw[w.dh];unfold iZ at hp;split at hp;split at hp;rename_i cs X;simp only[ζa]at hp;subst hp;rcases f.nW with rfl|⟨id,el,o,es,ys,ds,rfl,W,m,Q,aa,O⟩;have q:=f.good;simp only[V.good]at q;exact⟨_,by simp only[Go.VE.bq,iZ,if_pos X],.same _ (by simp only[V.good];exact A6 _ q)⟩;refine⟨.hptr id el (o+off),rfl,FR.Gk W m Q (by have:=O.1;simp at this;omega) ?_⟩;have:=O.drop off;rw[drop_drop]at this;exact this;simp at hp;exact absurd f.closed (by simp[V.closed]);simp at hp;rename_i off size agg cs;obtain⟨y,_,rfl,f,w⟩:=h.inv;rw[w.dh];obtain⟨ab,rfl,g⟩:=f.jB;have⟨r,m,x⟩:=ζg.1 hp;have⟨A,J,I⟩:=g.cut m;have⟨U,D,G⟩:=I.mk x;exact⟨U,by simp only[Go.VE.bq,J,ζb,D],G⟩;rename_i size s k n;obtain⟨y,_,rfl,f,w⟩:=h.inv;obtain⟨_,_,rfl,B,C⟩:=w.inv;rw[B.int,C.dh];unfold nq at hp;split at hp;simp at hp;rename_i L;split at hp;rename_i es xs;split at hp;rename_i Q;obtain⟨c,g,rfl⟩:=ζf.1 hp;rcases f.nU with rfl|⟨id,off,ys,rfl,W,m,hl,O⟩;have q:=f.good;simp only[V.good]at q;exact⟨_,by simp only[Go.VE.bq,nq,if_neg L,if_pos Q,g,map_some],.same _ (by simp only[V.good];exact mz.1 q _ _ g)⟩;have P:n.toNat<xs.length:=(ζe.1 g).1;have⟨d,hd,ad⟩:=O.get g;rw[getElem?_take,if_pos P,getElem?_drop]at hd;exact⟨.hptr id (off+n.toNat) 0,by simp only[Go.VE.bq,nq,if_neg L,if_pos (And.intro Q P)],FR.Gk W m hd Zab (by simpa using ad)⟩;simp at hp;exact absurd f.closed (by simp[V.closed]);simp at hp;rename_i len size s k n;obtain⟨y,_,rfl,f,w⟩:=h.inv;obtain⟨_,_,rfl,B,C⟩:=w.inv;rw[B.int,C.dh];unfold zg at hp;split at hp;rename_i L;split at hp;split at hp;rename_i cs X;simp only[ζa]at hp;subst hp;rcases f.nW with rfl|⟨id,el,o,es,ys,ds,rfl,W,m,Q,aa,O⟩;have q:=f.good;simp only[V.good]at q;exact⟨_,by simp only[Go.VE.bq,zg,if_pos L,if_pos X],.same _ (by simp only[V.good];exact A6 _ q)⟩;refine⟨.hptr id el (o+n.toNat*size),by simp only[Go.VE.bq,zg,if_pos L],FR.Gk W m Q (by have:=O.1;simp at this;omega) ?_⟩;have:=O.drop (n.toNat*size);rw[drop_drop]at this;exact this;simp at hp;exact absurd f.closed (by simp[V.closed]);simp at hp;simp at hp;rename_i s k n;obtain⟨y,_,rfl,f,w⟩:=h.inv;obtain⟨_,_,rfl,B,C⟩:=w.inv;rw[f.str,B.int,C.dh];split at hp;next L=>obtain⟨c,g,rfl⟩:=ζf.1 hp;exact⟨_,by simp only[Go.VE.bq,if_pos L,g,map_some],.same _ rfl⟩
 simp at hp;rename_i len size agg cs k n;obtain⟨y,_,rfl,f,w⟩:=h.inv;obtain⟨_,_,rfl,B,C⟩:=w.inv;rw[B.int,C.dh];obtain⟨ab,rfl,g⟩:=f.jB;split at hp;next L=>have⟨r,m,x⟩:=ζg.1 hp;have⟨A,J,I⟩:=g.cut m;have⟨U,D,G⟩:=I.mk x;exact⟨U,by simp only[Go.VE.bq,if_pos L,J,ζb,D],G⟩
 simp at hp;rename_i lo hi s bs;obtain⟨y,_,rfl,f,w⟩:=h.inv;rw[f.str];have⟨⟨l,h'⟩,E,hp⟩:=ζg.1 hp;obtain⟨⟨l2,ah⟩,ae,rfl⟩:=ζf.1 hp;exact⟨_,by simp only[Go.VE.bq,w.ny E,ζb,ae,map_some],.same _ rfl⟩;rename_i size lo hi s bs;obtain⟨y,_,rfl,f,w⟩:=h.inv;have⟨⟨l,h'⟩,E,hp⟩:=ζg.1 hp;have⟨U,D,G⟩:=FR.slice f hp;exact⟨U,by simp only[Go.VE.bq,w.ny E,ζb,D],G⟩;obtain⟨y,_,rfl,f,w⟩:=h.inv;obtain⟨_,_,rfl,B,C⟩:=w.inv;obtain⟨_,_,rfl,S,T⟩:=C.inv;rw[B.int,S.int,T.dh];split at hp;rename_i g;simp only[ζa]at hp;subst hp;refine⟨.dX,?_,.same _ rfl⟩;simp only[ζh]at g;have:O2 y=true:=by have F:=g.1.1;unfold O2 at F;split at F;rcases f.nU with rfl|⟨_,_,_,rfl,_⟩<;>rfl;exact absurd f.closed (by simp[V.closed]);rw[f.dX];rfl;rw[f.bM];rfl;simp at F
 simp only[Go.VE.bq,this,g.1.2,g.2,Bool.and_self,if_true];simp at hp;rename_i vs zero pl;obtain⟨r,m,rfl⟩:=ζf.1 hp;have⟨A,J,I⟩:=dK.fill (dK.same (Y zero pl rfl)) h m;exact⟨.agg A,by simp only[Go.VE.bq,J,map_some],.agg _ _ I.1 I.2⟩;rename_i vs name k;simp only[ζa]at hp;subst hp;exact⟨_,rfl,.clo _ _ _ _ _ (h.take k).1 (h.drop k).1 (h.take k).2 (h.drop k).2⟩;rename_i i vs;obtain⟨y,_,rfl,f,w⟩:=h.inv;rw[w.dh];obtain⟨ws,rfl,hw⟩:=f.sj;have⟨U,D,G⟩:=hw.get hp;exact⟨U,D,G⟩;obtain⟨y,_,rfl,f,w⟩:=h.inv;rw[f.str,w.dh];simp only[ζa]at hp;subst hp;exact⟨_,rfl,.same _ rfl⟩;obtain⟨y,_,rfl,f,w⟩:=h.inv;rw[w.dh];unfold pO at hp;split at hp;simp only[ζa]at hp;subst hp;rcases f.nU with rfl|⟨_,_,_,rfl,_⟩<;>exact⟨_,rfl,.same _ rfl⟩;exact absurd f.closed (by simp[V.closed]);rw[f.dX];simp only[ζa]at hp;subst hp;exact⟨_,rfl,.same _ rfl⟩;rw[f.bM];simp only[ζa]at hp;subst hp;exact⟨_,rfl,.same _ rfl⟩;simp at hp;obtain⟨y,_,rfl,f,w⟩:=h.inv;rw[w.dh];unfold Kl at hp;split at hp;rw[f.bM];simp only[ζa]at hp;subst hp;exact⟨_,rfl,.same _ rfl⟩;rw[f.dX];simp only[ζa]at hp;subst hp;exact⟨_,rfl,.same _ rfl⟩;simp at hp;obtain⟨_,_,rfl,f,w⟩:=h.inv;obtain⟨_,_,rfl,B,C⟩:=w.inv;rw[f.int,B.int,C.dh];split at hp;next e=>simp only[ζa]at hp;subst hp;exact⟨_,by simp only[Go.VE.bq,if_pos e],.same _ rfl⟩
 simp at hp;obtain⟨_,_,rfl,f,w⟩:=h.inv;obtain⟨_,_,rfl,B,C⟩:=w.inv;obtain⟨_,_,rfl,S,T⟩:=C.inv;obtain⟨_,_,rfl,h7,h8⟩:=T.inv;rw[f.int,B.int,S.int,h7.int,h8.dh];split at hp;next e=>simp only[ζa]at hp;subst hp;exact⟨_,by simp only[Go.VE.bq,if_pos e],.same _ rfl⟩
 simp at hp;obtain⟨_,_,rfl,f,w⟩:=h.inv;obtain⟨_,_,rfl,B,C⟩:=w.inv;rw[f.int,B.int,C.dh];split at hp;next e=>simp only[ζa]at hp;subst hp;exact⟨_,by simp only[Go.VE.bq,if_pos e],.same _ rfl⟩
 simp at hp;obtain⟨_,_,rfl,f,w⟩:=h.inv;obtain⟨_,_,rfl,B,C⟩:=w.inv;rw[f.int,B.int,C.dh];split at hp;rename_i e;simp only[ζa]at hp;subst hp;refine⟨_,by simp only[Go.VE.bq,if_pos e],.same _ ?_⟩;simp only[V.good];refine mz.2 λj u K=>?_;have:=List.eq_of_mem_replicate (mem_of_getElem? K);subst this;exact iS.2 λi v M=>kU (all_eq_true.1 e.2.2.2.2.2 v (mem_of_getElem? M));simp at hp;split at hp;rename_i g;obtain rfl:=h.scalar.1 g.1;split at hp;rename_i xs af;split at hp;rename_i R;simp only[ζa]at hp;subst hp;refine⟨_,by simp only[Go.VE.bq,if_pos g,af,if_pos R],.same _ ?_⟩;simp only[V.good];exact mz.2 λj u K=>iS.2 λi v M=>kU (all_eq_true.1 (all_eq_true.1 R.2 u (mem_of_getElem? K)) v (mem_of_getElem? M));simp at hp;simp at hp;simp at hp;simp only[ζa]at hp;subst hp;rw[h.dh];exact⟨_,rfl,.same _ rfl⟩;simp at hp
end
def tZ(p:Nat×Nat)(k:Fl)(es len:Nat):V:=
 match k with
 |.nil=>.bM|.emp=>.dX|_=>.hsl p.1 es p.2 len
abbrev Nu:=Nat->Nat×Nat
inductive dD(ν:Nu)(m:Tb bN)(H:bp)(Z:Nat->Prop):SV->V->Prop
 |v(x y:V)(h:FR H Z x y):dD ν m H Z (.v x) y|own(d:Nat)(y:V)(h:∀ob,bn m d=some ob->∃k es xs,ob=.sl k es xs/\y=tZ (ν d) k es xs.length):dD ν m H Z (.own d) y|ptr(d o:Nat)(y:V)(h:∀ob,bn m d=some ob->∃cs,ob=.box cs/\y=.hptr (ν d).1 0 o):dD ν m H Z (.ptr d o) y|el(d i o:Nat)(y:V)(h:∀ob,bn m d=some ob->∃k es xs,ob=.sl k es xs/\cV k=true/\y=.hptr (ν d).1 ((ν d).2+i) o):dD ν m H Z (.el d i o) y|mp(d:Nat)(y:V)(h:∀ob,bn m d=some ob->∃kvs,ob=.mp kvs/\y=.hmap (ν d).1):dD ν m H Z (.mp d) y|clo(f:FuncId)(a b:List SV)(a' b':List V)(ha:a.length=a'.length)(hb:b.length=b'.length)
  (hva:∀(j:Nat)u v,a[j]?=some u->a'[j]?=some v->dD ν m H Z u v) (hvb:∀(j:Nat)u v,b[j]?=some u->b'[j]?=some v->dD ν m H Z u v):dD ν m H Z (.clo f a b) (.clo f a' b')
 |tup(a:List SV)(a':List V)(ha:a.length=a'.length)(hva:∀(j:Nat)u v,a[j]?=some u->a'[j]?=some v->dD ν m H Z u v):dD ν m H Z (.tup a) (.tup a')|agg(a:List SV)(a':List V)(ha:a.length=a'.length)(hva:∀(j:Nat)u v,a[j]?=some u->a'[j]?=some v->dD ν m H Z u v):dD ν m H Z (.agg a) (.agg a')|yl(id:Nat):dD ν m H Z (.yl id) (.yld id)
def ct(ν:Nu)(m:Tb bN)(H:bp)(Z:Nat->Prop)(xs:SW)(ys:So):Prop:=xs.length=ys.length/\∀(j:Nat)u v,xs[j]?=some u->ys[j]?=some v->dD ν m H Z u v
def cK:bN->X'
 |.sl k _ _=>cV k|_=>true
def gB(ν:Nu)(m:Tb bN)(id:Nat):Prop:=∃d ob,bn m d=some ob/\cK ob=true/\(ν d).1=id
def xE(H:bp)(Z:Nat->Prop)(ys:S'):Prop:=∀c∈ys,∀u∈c,∃x,FR H Z x u
def FG(H:bp)(Z:Nat->Prop)(a b:aZ (V×V)):Prop:=a.length=b.length/\∀(j:Nat)u v,a[j]?=some u->b[j]?=some v->(u.1=v.1/\u.1.scalar=true)/\FR H Z u.2 v.2
def eP(ν:Nu)(m:Tb bN)(H:bp)(Z:Nat->Prop)(d:Nat):bN->Prop
 |.sl k es xs=>if cV k then∃ys,H[(ν d).1]?=some (.row es ys)/\(ν d).2+xs.length<=ys.length/\hU H Z xs ((ys.drop (ν d).2).take xs.length)/\xE H Z ys/\(k=.row->(ν d).2=0/\ys.length=xs.length)
  else xs=[]
 |.box cs=>∃es D,H[(ν d).1]?=some (.row es [D])/\ct ν m H Z cs D/\D.all V.one=true|.mp G=>∃B,H[(ν d).1]?=some (.map B)/\FG H Z G B
structure R(ν:Nu)(Z:Nat->Prop)(st:St)(F:Frame)(H:bp):Prop where
 slot:∀s sv,bn st.g s=some sv->dD ν st.m H Z sv (get F s)
 obj:∀d ob,bn st.m d=some ob->eP ν st.m H Z d ob
 inj:∀d d' ob ob',bn st.m d=some ob->bn st.m d'=some ob'->cK ob=true->cK ob'=true->(ν d).1=(ν d').1->d=d'
 apart:∀d ob,bn st.m d=some ob->cK ob=true->¬Z (ν d).1
 zrow:∀id,Z id->(bt H id).isSome=true
 deep:Deep H Z
def sameShape:bN->bN->Prop
 |.sl k es xs,.sl G B D=>G=k/\B=es/\D.length=xs.length|.box _,.box _=>True|.mp _,.mp _=>True|_,_=>False
def sameShape.refl(o:bN):sameShape o o:=by cases o<;>simp[sameShape]
def sameShape.trans{a b c:bN}(h:sameShape a b)(k:sameShape b c):sameShape a c:=by cases a<;>cases b<;>cases c<;>simp[sameShape]at*<;>simp_all
structure Ev(Rv:Nat->Prop)(ν:Nu)(Z:Nat->Prop)(st:St)(H:bp)(ν':Nu)(Z':Nat->Prop)(st':St)(H':bp):Prop where
 len:H.length<=H'.length
 same:∀id,id<H.length->¬gB ν st.m id->¬Z id->¬Rv id->H'[id]?=H[id]?
 rows:∀id,Z id->Z' id/\bt H' id=bt H id
 own:∀id,gB ν' st'.m id->gB ν st.m id\/Rv id\/H.length<=id
 frz:∀id,Z' id->Z id\/gB ν st.m id\/Rv id\/H.length<=id
 pin:∀d∈st.pin,∀ob',bn st'.m d=some ob'->∃ob,bn st.m d=some ob/\ν' d=ν d/\sameShape ob ob'
 pins:st'.pin=st.pin
section
variable{Rv Rv':Nat->Prop}{ν ν' ν2:Nu}{Z Z' Z2:Nat->Prop}{st st' st2:St}{m m':Tb bN}{F F':WP}{H H' H2:bp}
def Ev.refl:Ev Rv ν Z st H ν Z st H:=⟨le_refl _,λ_ _ _ _ _=>rfl,λ_ h=>⟨h,rfl⟩,λ_ h=>.inl h,λ_ h=>.inl h,λ_ _ u h=>⟨u,h,rfl,.refl _⟩,rfl⟩
def Ev.trans(a:Ev Rv ν Z st H ν' Z' st' H')(b:Ev Rv ν' Z' st' H' ν2 Z2 st2 H2):Ev Rv ν Z st H ν2 Z2 st2 H2 where
 len:=le_trans a.len b.len
 same:=λid B u C hr=>by rw[b.same id (Nat.lt_of_lt_of_le B a.len) (λh=>(a.own id h).elim u λh=>h.elim hr λh=>Zaa) (λh=>(a.frz id h).elim C λh=>h.elim u λh=>h.elim hr λh=>Zaa) hr,a.same id B u C hr]
 rows:=λid h=>⟨(b.rows id (a.rows id h).1).1,by rw[(b.rows id (a.rows id h).1).2,(a.rows id h).2]⟩
 own:=λid h=>by rcases b.own id h with h|h|h;exact a.own id h;grind;exact .inr (.inr (le_trans a.len h))
 frz:=λid h=>by rcases b.frz id h with h|h|h|h;exact a.frz id h;rcases a.own id h with h|h|h;grind;grind;grind;grind;exact .inr (.inr (.inr (le_trans a.len h)))
 pin:=λd hd w h=>by have⟨z,c,G,D⟩:=b.pin d (by rw[a.pins];omega) w h;have⟨ob,k1,k2,k3⟩:=a.pin d hd z c;exact⟨ob,k1,Zad,k3.trans D⟩
 pins:=by rw[b.pins,a.pins]
def Ev.weak(h:∀id,Rv id->Rv' id)(a:Ev Rv ν Z st H ν' Z' st' H'):Ev Rv' ν Z st H ν' Z' st' H':=⟨a.len,λid u w z hr=>a.same id u w z (λk=>hr (h id k)),a.rows,λid k=>(a.own id k).imp (λx=>x) (.imp (h id) (λx=>x)),λid k=>(a.frz id k).imp (λx=>x) (.imp (λx=>x) (.imp (h id) (λx=>x))),a.pin,a.pins⟩
def cR{α:Type}:∀(g:Tb α)(n:Nat)(v:α),bn (bR g n v) n=some v
 |[],n,v=>by simp[bR,bn]|(k,x)::r,n,v=>by simp[bR];split;(next h=>simp[bn,h]);rename_i h;simp[bn,h,cR r n v]
def eC{α:Type}:∀(g:Tb α){n k:Nat}(v:α),n≠k->bn (bR g n v) k=bn g k
 |[],n,k,v,h=>by simp[bR,bn,h]|(j,x)::r,n,k,v,h=>by simp[bR];split;(next a=>subst a;simp[bn,h]);simp[bn];split;rfl;exact eC r v h
def rC{α:Type}:∀{g:Tb α}{n:Nat}{v:α},bn g n=some v->bR g n v=g
 |[],n,v,h=>by cases h|(k,x)::r,n,v,h=>by simp[bn]at h;simp[bR];split;grind;rename_i e;rw[if_neg e]at h;rw[rC h]
def yj{α:Type}:∀(g:Tb α)(n:Nat),bn (eR n g) n=none
 |[],n=>rfl|(k,x)::r,n=>by simp[eR];split;exact yj r n;rename_i a;simp[bn];rw[if_neg a];exact yj r n
def yI{α:Type}:∀(g:Tb α){n k:Nat},n≠k->bn (eR n g) k=bn g k
 |[],n,k,h=>rfl|(j,x)::r,n,k,h=>by simp[eR];split;(next a=>subst a;simp[bn];rw[if_neg h];exact yI r h);simp[bn];split;rfl;exact yI r h
def qg{α:Type}{g:Tb α}{n k:Nat}{v:α}(h:bn (eR n g) k=some v):n≠k/\bn g k=some v:=by by_cases e:n=k;subst e;rw[yj]at h;simp_all;rw[yI g e]at h;grind
def qi{α:Type}{k:Nat}{v:α}:∀{ds:ST}{g:Tb α},bn (pL ds g) k=some v->bn g k=some v
 |[],_,h=>h|d::ds,g,h=>(qg (qi h)).2
def sD{α:Type}{g:Tb α}{k:Nat}{v:α}:∀{l:ST}{r:Tb α},kY g l=some r->bn r k=some v->bn g k=some v
 |[],r,h,B=>by simp[kY]at h;subst h;simp[bn]at B|n::l,r,h,B=>by simp[kY]at h;split at h;rename_i w t G D;simp at h;subst h;simp[bn]at B;split at B;grind;exact sD D B;grind
def A5{d:Nat}:∀{g:Tb SV}{s:Nat}{sv:SV},xw d g=false->bn g s=some sv->sv.dc d=false
 |[],_,_,_,h=>by simp[bn]at h|(k,x)::r,s,sv,h,B=>by simp[xw]at h;simp[bn]at B;split at B;grind;exact A5 h.2 B
def AP{d:Nat}:∀{g:Tb bN}{s:Nat}{ob:bN},uZ d g=false->bn g s=some ob->ob.dc d=false
 |[],_,_,_,h=>by simp[bn]at h|(k,x)::r,s,sv,h,B=>by simp[uZ]at h;simp[bn]at B;split at B;grind;exact AP h.2 B
def vE{d:Nat}:∀{l:SW}{j:Nat}{u:SV},SV.dW d l=false->l[j]?=some u->u.dc d=false
 |[],_,_,_,h=>Zad|x::r,j,u,h,B=>by simp[SV.dW]at h;cases j with|zero=>grind|succ j=>exact vE h.2 (by simpa using B)
def uu{d:Nat}:∀{l:SW}{j:Nat}{u:SV},l[j]?=some u->u.dc d=true->SV.dW d l=true
 |[],_,_,h,_=>Zad|x::r,j,u,h,B=>by simp[SV.dW];cases j with|zero=>grind|succ j=>exact .inr (uu (j:=j) Zac B)
def dD.mono{sv:SV}{y:V}(U:∀id,Z id->Z' id/\bt H' id=bt H id)
 (r:dD ν m H Z sv y)(B:∀d,sv.dc d=true->∀ob',bn m' d=some ob'->∃ob,bn m d=some ob/\ν' d=ν d/\sameShape ob ob'):dD ν' m' H' Z' sv y:=by
 induction r with
 |v x y h=>exact .v x y (h.mono U)|own d y h=>
  refine .own d y λob' z=>?_
  have⟨ob,e,I,C⟩:=B d (by simp[SV.dc]) ob' z
  obtain⟨k,es,L,rfl,rfl⟩:=h ob e;cases ob'<;>simp[sameShape]at C
  grind
 |ptr d o y h=>
  refine .ptr d o y λob' z=>?_
  have⟨ob,e,I,C⟩:=B d (by simp[SV.dc]) ob' z
  obtain⟨cs,rfl,rfl⟩:=h ob e;cases ob'<;>simp[sameShape]at C
  grind
 |el d i o y h=>
  refine .el d i o y λob' z=>?_
  have⟨ob,e,I,C⟩:=B d (by simp[SV.dc]) ob' z
  obtain⟨k,es,L,rfl,T,rfl⟩:=h ob e;cases ob'<;>simp[sameShape]at C
  grind
 |mp d y h=>
  refine .mp d y λob' z=>?_
  have⟨ob,e,I,C⟩:=B d (by simp[SV.dc]) ob' z
  obtain⟨cs,rfl,rfl⟩:=h ob e;cases ob'<;>simp[sameShape]at C
  grind
 |clo f a b D O G Q hva S w J=>exact .clo f a b D O G Q (λj u v c g=>w j u v c g λd hd=>B d (by simp[SV.dc,uu c hd])) (λj u v c g=>J j u v c g λd hd=>B d (by simp[SV.dc,uu c hd]))|tup a D G hva w=>exact .tup a D G (λj u v c g=>w j u v c g λd hd=>B d (by simp[SV.dc,uu c hd]))|agg a D G hva w=>exact .agg a D G (λj u v c g=>w j u v c g λd hd=>B d (by simp[SV.dc,uu c hd]))|yl id=>exact .yl id
def ct.mono{sv:SW}{y:So}(B:∀id,Z id->Z' id/\bt H' id=bt H id)(r:ct ν m H Z sv y)(D:∀d,SV.dW d sv=true->∀ob',bn m' d=some ob'->∃ob,bn m d=some ob/\ν' d=ν d/\sameShape ob ob'):ct ν' m' H' Z' sv y:=⟨r.1,λj u v a b=>(r.2 j u v a b).mono B λd hd=>D d (uu a hd)⟩
def ct.nil:ct ν m H Z [] []:=⟨rfl,Zab⟩
def ct.cons{x:SV}{y:V}{xs:SW}{ys:So}(h:dD ν m H Z x y)(r:ct ν m H Z xs ys):ct ν m H Z (x::xs) (y::ys):=by refine⟨by simp[r.1],λj u v a b=>?_⟩;cases j with|zero=>grind|succ j=>exact r.2 j u v Zac Zac
def ct.inv{x:SV}{xs:SW}{B:So}(r:ct ν m H Z (x::xs) B):∃y ys,B=y::ys/\dD ν m H Z x y/\ct ν m H Z xs ys:=by cases B with|nil=>have:=r.1;grind|cons y ys=>refine⟨y,ys,rfl,r.2 0 x y rfl rfl,by have:=r.1;grind,λj u v a b=>r.2 (j+1) u v Zac Zac⟩
def ct.dh{B:So}(r:ct ν m H Z [] B):B=[]:=by have:=r.1;grind
def ct.get{xs:SW}{ys:So}(r:ct ν m H Z xs ys){j:Nat}{u:SV}(h:xs[j]?=some u):∃v,ys[j]?=some v/\dD ν m H Z u v:=by
 have w:=(ζe.1 h).1;have:j<ys.length:=by rw[<-r.1];omega
 exact⟨ys[j],ζd this,r.2 j u _ h (ζd this)⟩
def ct.append{a c:SW}{b d:So}(h:ct ν m H Z a b)(k:ct ν m H Z c d):ct ν m H Z (a++c) (b++d):=by refine⟨by simp[h.1,k.1],λj u v e f=>?_⟩;by_cases w:j<a.length;rw[getElem?_append_left w]at e;rw[getElem?_append_left (by rw[<-h.1];omega)]at f;exact h.2 j u v e f;rw[getElem?_append_right Zaa]at e;rw[getElem?_append_right (by rw[<-h.1];omega),<-h.1]at f;exact k.2 _ u v e f
def ct.take{a:SW}{b:So}(h:ct ν m H Z a b)(n:Nat):ct ν m H Z (a.take n) (b.take n):=by
 refine⟨by simp[h.1],λj u v c d=>?_⟩;rw[getElem?_take]at c d;split at c;next w=>rw[if_pos w]at d;exact h.2 j u v c d
 grind
def ct.drop{a:SW}{b:So}(h:ct ν m H Z a b)(n:Nat):ct ν m H Z (a.drop n) (b.drop n):=by refine⟨by simp[h.1],λj u v c d=>?_⟩;rw[getElem?_drop]at c d;exact h.2 _ u v c d
def dD.fr{x y:V}(r:dD ν m H Z (.v x) y):FR H Z x y:=by cases r;assumption
def ct.tu{xs ys:So}(r:dK H Z xs ys):ct ν m H Z (xs.map .v) ys:=by refine⟨by simp[r.1],λj u v a b=>?_⟩;rw[List.getElem?_map,ζf]at a;obtain⟨x,w,rfl⟩:=a;exact .v x v (r.2 j x v w b)
def wk:∀{svs:SW}{xs:So},dG svs=some xs->svs=xs.map .v
 |[],xs,h=>by simp[dG]at h;grind|x::r,xs,h=>by(cases x<;>simp only[dG]at h<;>first|grind|skip);obtain⟨t,B,rfl⟩:=ζf.1 h;rw[wk B];rfl
def ct.Yv{xs ys:So}(r:ct ν m H Z (xs.map .v) ys):dK H Z xs ys:=by refine⟨by have:=r.1;grind,λj u v b a=>?_⟩;have:(xs.map SV.v)[j]?=some (.v u):=Zac;exact(r.2 j _ v this a).fr
end
section
variable{ν:Nu}{Z:Nat->Prop}{st:St}{m:Tb bN}{F:WP}{H H1:bp}{N:Nat->Y'}
def qQ(nm:Y'->a_ Nat):UV->a_ Arg
 |.tmp t=>some (.s t)|.const v=>match ofValue 4 v with
  |some c=>if c.good then some (.k c)else none|none=>none
 |.func f=>(nm f).map .f|.global g=>match b_.gl g with
  |some cs=>if(V.fptr cs).good then some (.k (.fptr cs))else none|none=>none
def GP{nm:Y'->a_ Nat}(D:∀f s,nm f=some s->N s=f){g:Tb SV}(G:∀s sv,bn g s=some sv->dD ν m H Z sv (get F s)){o:UV}{x:Arg}{sv:SV}(B:qQ nm o=some x)(a:sR N g x=some sv):
 ∃y,ev F o=some y/\dD ν m H Z sv y:=by
 cases o with
 |tmp t=>simp[qQ]at B;subst B;exact⟨get F t,rfl,G t sv a⟩|const w=>
  simp[qQ]at B;split at B
  .rename_i c hc;split at B
   next u=>simp at B;subst B;simp[sR]at a;subst a;exact⟨c,hc,.v _ _ (.same _ u)⟩
   grind
  grind
 |func f=>simp[qQ]at B;obtain⟨z,C,rfl⟩:=B;simp[sR]at a;subst a;exact⟨_,rfl,.v _ _ (by rw[D f z C];exact .same _ rfl)⟩|global i=>
  simp[qQ]at B;split at B
  .rename_i c hc;split at B
   next u=>simp at B;subst B;simp[sR]at a;subst a;exact⟨.fptr c,by simp[ev,hc],.v _ _ (.same _ u)⟩
   grind
  grind
def qq{nm:Y'->a_ Nat}(D:∀f s,nm f=some s->N s=f){g:Tb SV}(G:∀s sv,bn g s=some sv->dD ν m H Z sv (get F s)):∀{os:aZ UV}{xs:QQ}{svs:SW},
 os.mapM (qQ nm)=some xs->b7 N g xs=some svs->∃ys,gj F os=some ys/\ct ν m H Z svs ys
 |[],xs,svs,B,hv=>by simp at B;subst B;simp[b7]at hv;subst hv;exact⟨[],rfl,.nil⟩|o::os,xs,svs,B,hv=>by simp[ζg]at B;obtain⟨x,J,ys,U,rfl⟩:=B;simp[b7]at hv;split at hv;(next v C c w=>simp at hv;subst hv;have⟨a,B,z⟩:=GP D G J c;have⟨az,b,u⟩:=qq D G U w;exact⟨a::az,by simp[gj,B,b],.cons z u⟩);grind
def dD.lM{d:Nat}{y:V}(r:dD ν m H Z (.own d) y){ob:bN}(h:bn m d=some ob):∃k es xs,ob=.sl k es xs/\y=tZ (ν d) k es xs.length:=by cases r with|own _ _ u=>grind
def dD.qI{d o:Nat}{y:V}(r:dD ν m H Z (.ptr d o) y){ob:bN}(h:bn m d=some ob):∃cs,ob=.box cs/\y=.hptr (ν d).1 0 o:=by cases r with|ptr _ _ _ u=>grind
def dD.An{d i o:Nat}{y:V}(r:dD ν m H Z (.el d i o) y){ob:bN}(h:bn m d=some ob):∃k es xs,ob=.sl k es xs/\cV k=true/\y=.hptr (ν d).1 ((ν d).2+i) o:=by cases r with|el _ _ _ _ u=>grind
def dD.FL{d:Nat}{y:V}(r:dD ν m H Z (.mp d) y){ob:bN}(h:bn m d=some ob):∃B,ob=.mp B/\y=.hmap (ν d).1:=by cases r with|mp _ _ u=>grind
def dD.lG{f:Y'}{a b:SW}{y:V}(r:dD ν m H Z (.clo f a b) y):∃a' B,y=.clo f a' B/\ct ν m H Z a a'/\ct ν m H Z b B:=by cases r with|clo _ _ _ a' B w z hva u=>exact⟨a',B,rfl,⟨w,hva⟩,⟨z,u⟩⟩
def dD.sj{a:SW}{y:V}(r:dD ν m H Z (.tup a) y):∃a',y=.tup a'/\ct ν m H Z a a':=by cases r with|tup _ a' u hva=>exact⟨a',rfl,u,hva⟩
def dD.jB{a:SW}{y:V}(r:dD ν m H Z (.agg a) y):∃a',y=.agg a'/\ct ν m H Z a a':=by cases r with|agg _ a' u hva=>exact⟨a',rfl,u,hva⟩
def uA{p:Nat×Nat}{k:Fl}{es len:Nat}(h:cV k=true):tZ p k es len=.hsl p.1 es p.2 len:=by cases k<;>simp[cV]at h<;>rfl
def nE{x:SV}{y:V}(h:mM m x=true)(r:dD ν m H Z x y):y.cells=[y]/\y.one=true:=by cases x with|v x=>simp[mM]at h|own d=>have⟨ob,u⟩:=isSome_iff_exists.1 h;obtain⟨k,es,w,rfl,rfl⟩:=r.lM u;cases k<;>exact⟨rfl,rfl⟩|ptr d o=>have⟨ob,u⟩:=isSome_iff_exists.1 h;obtain⟨cs,rfl,rfl⟩:=r.qI u;exact⟨rfl,rfl⟩|el d i o=>have⟨ob,u⟩:=isSome_iff_exists.1 h;obtain⟨k,es,w,rfl,_,rfl⟩:=r.An u;exact⟨rfl,rfl⟩|mp d=>have⟨ob,u⟩:=isSome_iff_exists.1 h;obtain⟨z,rfl,rfl⟩:=r.FL u;exact⟨rfl,rfl⟩|clo f a b=>obtain⟨B,C,rfl,_⟩:=r.lG;exact⟨rfl,rfl⟩|tup l=>simp[mM]at h|agg l=>simp[mM]at h|yl id=>simp[mM]at h
def Qu{x:SV}{y:V}(h:zn m x=true)(r:dD ν m H Z x y):y.one=true:=by
 cases x with
 |v x=>
  have u:=r.fr;have w:x.one=true:=h;have c:=u.cells;have e:x.cells=[x]:=by cases x<;>first|rfl|(simp[V.one]at w)
  rw[e]at c;have g:=c.one;have z:=c.1
  cases y with
  |agg l=>cases u with|same _ _=>grind|agg _ _ _ _=>simp[V.one]at w
  |tup l=>cases u with|same _ _=>grind|tup _ _ _ _=>simp[V.one]at w
  |_=>rfl
 |own d=>exact(nE (x:=.own d) h r).2|ptr d o=>exact(nE (x:=.ptr d o) h r).2|el d i o=>exact(nE (x:=.el d i o) h r).2|mp d=>exact(nE (x:=.mp d) h r).2|clo f a b=>exact(nE (x:=.clo f a b) h r).2|tup l=>simp[zn,mM]at h|agg l=>simp[zn,mM]at h|yl id=>simp[zn,mM]at h
def IM{l:SW}{ys:So}(h:l.all (zn m)=true)(r:ct ν m H Z l ys):ys.all V.one=true:=by
 refine all_eq_true.2 λy w=>?_;have⟨j,z,e⟩:=List.mem_iff_getElem.1 w;have u:j<l.length:=by rw[r.1];omega
 exact Qu (all_eq_true.1 h _ (List.getElem_mem u)) (r.2 j _ y (ζd u) Zac)
def QS{x:SV}{y:V}{c:SW}(h:Ad m x=some c)(r:dD ν m H Z x y):ct ν m H Z c y.cells:=by
 unfold Ad at h;split at h;cases h;exact ct.tu r.fr.cells;cases h;obtain⟨z,rfl,u⟩:=r.jB;exact u;split at h;next w=>cases h;rw[(nE w r).1];exact .cons r .nil
 simp_all
def Lf:∀{pl:aZ (Nat×Nat)}{vs cells l:SW}{B cells':So},ct ν m H Z cells cells'->ct ν m H Z vs B->uH m cells pl vs=some l->∃D,mq cells' pl B=some D/\ct ν m H Z l D
 |[],[],cells,l,B,cells',hc,hv,h=>by rw[hv.dh];simp[uH]at h;subst h;exact⟨_,rfl,hc⟩|[],_::_,_,_,_,_,_,_,h=>by simp[uH]at h|_::_,[],_,_,_,_,_,_,h=>by simp[uH]at h|(off,size)::pl,v::vs,cells,l,B,cells',hc,hv,h=>by obtain⟨w,G,rfl,b,J⟩:=hv.inv;simp only[uH]at h;split at h;rename_i c z;have a:=QS z b;split at h;have⟨D,e1,e2⟩:=Lf (cells':=cells'.take off++w.cells++cells'.drop (off+w.cells.length)) (by rw[<-a.1];exact((hc.take off).append a).append (hc.drop _)) J h;have u:w.cells.length=size/\off+w.cells.length<=cells'.length:=(by rw[<-a.1,<-hc.1];omega);simp[mq];grind;simp_all;simp_all
def J9{size o:Nat}{agg:X'}{cs:SW}{B:So}{sv:SV}(h:ct ν m H Z cs B)(hp:xN size agg ((cs.drop o).take size)=some sv):∃y,(cut B o size).bind (mk agg)=some y/\dD ν m H Z sv y:=by
 have u:=(h.drop o).take size;unfold xN at hp;split at hp;have a:cut B o size=some ((B.drop o).take size):=by unfold cut;rw[if_pos (by rw[<-u.1];omega)]
 rw[a];split at hp;split at hp;rename_i G w;cases hp;have z:=by rw[wk w]at u;exact u.Yv
 exact⟨_,by unfold mk;grind,.v _ _ (.agg _ _ z.1 z.2)⟩;cases hp;exact⟨_,by unfold mk;grind,.agg _ _ u.1 u.2⟩;split at hp;next x w=>simp at hp;subst hp;rw[w]at u;have⟨y,I,e,C,D⟩:=u.inv;rw[e,D.dh];exact⟨y,by unfold mk;grind,C⟩
 grind;grind
def S0{p:wE}{svs:SW}{ys:So}{sv:SV}(i:∀zero pl,p=.build zero pl->V.cM zero=true)(j:∀d ob,bn m d=some ob->eP ν m H Z d ob)(h:ct ν m H Z svs ys)(hp:zh N m p svs=some sv):∃y,bq N p ys=some y/\dD ν m H Z sv y:=by
 unfold zh at hp;split at hp;obtain⟨y,_,rfl,c,w⟩:=h.inv;rw[w.dh];simp at hp;subst hp;exact⟨y,rfl,c⟩;obtain⟨y,_,rfl,c,w⟩:=h.inv;rw[w.dh];split at hp;next J=>simp at hp;subst hp;have⟨ob,u⟩:=isSome_iff_exists.1 J;obtain⟨cs,rfl,rfl⟩:=c.qI u;exact⟨_,rfl,c⟩
 grind;obtain⟨y,_,rfl,c,w⟩:=h.inv;rw[w.dh];split at hp;next J=>simp at hp;subst hp;have⟨ob,u⟩:=isSome_iff_exists.1 J;obtain⟨k,es,Q,rfl,f,rfl⟩:=c.An u;exact⟨_,rfl,c⟩
 grind;rename_i t a b;obtain⟨I,_,rfl,c,w⟩:=h.inv;obtain⟨S,_,rfl,D,C⟩:=w.inv;obtain⟨n,_,rfl,E,o⟩:=C.inv;rw[c.fr.bool,o.dh];simp at hp;refine⟨if t=true then S else n,rfl,?_⟩;grind
 .obtain⟨I,_,rfl,c,w⟩:=h.inv;obtain⟨S,_,rfl,D,C⟩:=w.inv;rw[D.fr.bM,C.dh];split at hp
  .rename_i k es Q u;split at hp;simp_all;simp at hp;subst hp;obtain⟨T,L,O,e,rfl⟩:=c.lM u;cases e;cases k<;>first|grind|exact⟨_,rfl,.v _ _ (.same _ rfl)⟩
  grind
 .obtain⟨I,_,rfl,c,w⟩:=h.inv;obtain⟨S,_,rfl,D,C⟩:=w.inv;rw[D.fr.bM,C.dh];split at hp
  .rename_i k es Q u;split at hp;simp_all;simp at hp;subst hp;obtain⟨T,L,O,e,rfl⟩:=c.lM u;cases e;cases k<;>first|grind|exact⟨_,rfl,.v _ _ (.same _ rfl)⟩
  grind
 obtain⟨y,_,rfl,c,w⟩:=h.inv;rw[w.dh];split at hp;next J=>simp at hp;subst hp;have⟨ob,u⟩:=isSome_iff_exists.1 J;obtain⟨cs,rfl,rfl⟩:=c.qI u;exact⟨_,rfl,.ptr _ _ _ λG B=>Zac⟩
 grind;obtain⟨y,_,rfl,c,w⟩:=h.inv;rw[w.dh];split at hp;next J=>simp at hp;subst hp;have⟨ob,u⟩:=isSome_iff_exists.1 J;obtain⟨k,es,Q,rfl,f,rfl⟩:=c.An u;exact⟨_,rfl,.el _ _ _ _ λG B=>by rw[u]at B;cases B;exact⟨_,_,_,rfl,f,rfl⟩⟩
 simp at hp;obtain⟨I,_,rfl,c,w⟩:=h.inv;obtain⟨S,_,rfl,D,C⟩:=w.inv;rw[D.fr.int,C.dh];split at hp;rename_i k es Q u;split at hp;rename_i g;obtain⟨f,rfl,q,U⟩:=g;simp at hp;subst hp;obtain⟨T,L,O,e,rfl⟩:=c.lM u;cases e;rw[uA f];refine⟨.hptr (ν _).1 ((ν _).2+_) 0,by simp only[bq,nq,if_neg (Int.not_lt.2 q),true_and,if_pos U];rfl,.el _ _ _ _ λG B=>?_⟩;rw[u]at B;cases B;exact⟨_,_,_,rfl,f,rfl⟩;simp at hp;simp at hp;obtain⟨I,_,rfl,c,w⟩:=h.inv;obtain⟨S,_,rfl,D,C⟩:=w.inv;rw[D.fr.int,C.dh];split at hp;rename_i g;simp at hp;subst hp;have⟨ob,u⟩:=isSome_iff_exists.1 g.2.2;obtain⟨cs,rfl,rfl⟩:=c.qI u;refine⟨.hptr (ν _).1 0 (_+_),by simp only[bq,zg,if_pos (And.intro g.1 g.2.1)];rfl,.ptr _ _ _ λG B=>?_⟩;rw[u]at B;cases B;exact⟨_,rfl,rfl⟩;simp at hp;obtain⟨I,_,rfl,c,w⟩:=h.inv;obtain⟨S,_,rfl,D,C⟩:=w.inv;rw[D.fr.int,C.dh];split at hp;rename_i g;simp at hp;subst hp;have⟨ob,u⟩:=isSome_iff_exists.1 g.2.2;obtain⟨k,es,Q,rfl,f,rfl⟩:=c.An u;refine⟨.hptr (ν _).1 (_+_) (_+_),by simp only[bq,zg,if_pos (And.intro g.1 g.2.1)];rfl,.el _ _ _ _ λG B=>?_⟩;rw[u]at B;cases B;exact⟨_,_,_,rfl,f,rfl⟩;simp at hp;obtain⟨I,_,rfl,c,w⟩:=h.inv;rw[w.dh];split at hp;rename_i k es Q u;simp at hp;subst hp;obtain⟨T,L,O,e,rfl⟩:=c.lM u;cases e;have:=j _ _ u;simp[eP]at this;cases f:k<;>simp[f,cV]at this⊢;subst this;exact⟨_,rfl,.v _ _ (.same _ rfl)⟩;subst this;exact⟨_,rfl,.v _ _ (.same _ rfl)⟩;exact⟨_,rfl,.v _ _ (.same _ rfl)⟩;exact⟨_,rfl,.v _ _ (.same _ rfl)⟩;simp at hp;rename_i vs name k;simp at hp;subst hp;exact⟨_,rfl,.clo _ _ _ _ _ (h.take k).1 (h.drop k).1 (h.take k).2 (h.drop k).2⟩;obtain⟨I,_,rfl,c,w⟩:=h.inv;rw[w.dh];obtain⟨r,rfl,W⟩:=c.sj;have⟨z,s,X⟩:=W.get hp;exact⟨z,s,X⟩;rename_i vs zero pl;obtain⟨l,v,rfl⟩:=ζf.1 hp;have⟨x,c,w⟩:=Lf (ct.tu (dK.same (i zero pl rfl))) h v;exact⟨.agg x,by simp[Go.VE.bq,c],.agg _ _ w.1 w.2⟩;obtain⟨I,_,rfl,c,w⟩:=h.inv;rw[w.dh];obtain⟨r,rfl,W⟩:=c.jB;have⟨y,A,Y⟩:=J9 W hp;exact⟨y,by simp[Go.VE.bq];exact A,Y⟩;grind
def JL{p:wE}{svs:SW}{ys:So}{sv:SV}(B:∀zero pl,p=.build zero pl->V.cM zero=true)(D:∀d ob,bn m d=some ob->eP ν m H Z d ob)(h:ct ν m H Z svs ys)(hp:kr N m p svs=some sv):
 ∃y,bq N p ys=some y/\dD ν m H Z sv y:=by
 unfold kr at hp;split at hp
 next I u=>obtain⟨z,w,rfl⟩:=ζf.1 hp;rw[wk u]at h;have⟨C,a,G⟩:=dK.bq B h.Yv w;exact⟨C,a,.v _ _ G⟩
 exact S0 B D h hp
def ct.dG{svs:SW}{xs ys:So}(h:ct ν m H Z svs ys)(B:dG svs=some xs):dK H Z xs ys:=by rw[wk B]at h;exact h.Yv
def D1{k:V}:∀{a b:aZ (V×V)}{i:Nat},FG H Z a b->(jd k a i=some none->jd k b i=some none)/\∀j v,jd k a i=some (some (j,v))->∃B,jd k b i=some (some (j,B))/\FR H Z v B
 |[],b,i,h=>by have:b=[]:=length_eq_zero_iff.1 (by have:=h.1;grind);subst this;exact⟨λh=>h,λj v h=>by simp[jd]at h⟩|(k1,x)::a,[],i,h=>by have:=h.1;grind|(k1,x)::a,(k2,y)::b,i,h=>by have⟨⟨e,_⟩,z⟩:=h.2 0 _ _ rfl rfl;subst e;have w:FG H Z a b:=⟨by have:=h.1;grind,λj u v c d=>h.2 (j+1) u v Zac Zac⟩;have C:=D1 (i:=i+1) (k:=k) w;simp only[jd];grind
def xK{kk:zB}{k:V}(h:rM kk k=true):k.scalar=true:=by unfold rM at h;split at h;rfl;rfl;simp at h;have⟨a,u⟩:=isSome_iff_exists.1 h.2;exact tA u;grind
def x_{r:Ni}{svs:SW}{ys:So}{sv:SV}(R:∀s a,r≠.loadF s a)(W:∀kk z ok,r=.lookup kk z ok->z.good=true)(h:ct ν m H Z svs ys)(q:∀d,SV.dW d svs=true->∀ob,bn m d=some ob->eP ν m H Z d ob)(hp:pq m r svs=some sv):
 ∃y,fE H r ys=some y/\dD ν m H Z sv y:=by
 unfold pq at hp;split at hp
 .
  obtain⟨X,_,rfl,b,J⟩:=h.inv;rw[J.dh];split at hp
  .rename_i cs u;obtain⟨am,e,rfl⟩:=b.qI u;obtain⟨es,an,f,n,_⟩:=q _ (by simp[SV.dW,SV.dc]) _ u
   obtain⟨y,hy,ae⟩:=J9 n hp;refine⟨y,?_,ae⟩;simp[fE,eU,f,Ob.rows,getElem?_cons_zero];omega
  grind
 .
  obtain⟨X,_,rfl,b,J⟩:=h.inv;rw[J.dh];split at hp
  .rename_i k es xs u;split at hp
   .rename_i cs Y;obtain⟨z,L,rfl⟩:=ζf.1 hp;obtain⟨k1,ao,ap,e,g,rfl⟩:=b.An u;cases e;have:=q _ (by simp[SV.dW,SV.dc]) _ u
    simp[eP,g]at this;obtain⟨rs,f,hl,B,_⟩:=this;obtain⟨c,n,af⟩:=B.get Y;have hj:=(ζe.1 Y).1;rw[getElem?_take,if_pos hj,getElem?_drop]at n;obtain⟨r1,w,C⟩:=ζg.1 L;obtain⟨r2,Q,D⟩:=af.cut w;obtain⟨o,S,F⟩:=D.mk C;refine⟨o,?_,.v _ _ F⟩;simp[fE,eU,f,Ob.rows,n,Q,S]
   grind
  grind
 .
  rename_i size agg p;obtain⟨X,_,rfl,b,J⟩:=h.inv;rw[J.dh];obtain⟨z,L,rfl⟩:=ζf.1 hp;obtain⟨r1,w,C⟩:=ζg.1 L;unfold eU at w;split at w
  .rename_i cs;rcases b.fr.nW with rfl|⟨id,el,off,es,ys,ah,rfl,F,f,he,aq,B⟩
   .refine⟨z,by simp[fE,eU,w,C],.v _ _ (.same _ ?_)⟩
    have ai:=by have:=b.fr.good;simpa[V.good]using this
    obtain⟨r',ar,D⟩:=(dK.same (H:=H) (Z:=Z) ai).cut w;obtain⟨o,S,G⟩:=D.mk C;exact G.good
   obtain⟨r2,Q,D⟩:=B.cut w;obtain⟨o,S,G⟩:=D.mk C;refine⟨o,?_,.v _ _ G⟩;unfold bt at f;simp[fE,eU,f,he];have:cut ah off size=some r2:=by unfold cut at Q⊢;grind
   grind
  .grind
  grind
 .
  rename_i kk z ok d k;obtain⟨X,_,rfl,b,J⟩:=h.inv;obtain⟨K,_,rfl,t,A⟩:=J.inv;rw[A.dh];split at hp
  .rename_i T u;split at hp
   .rename_i g;obtain⟨_,e,rfl⟩:=b.FL u;have U:=t.fr.scalar.1 (xK g);subst U;obtain⟨al,f,aj⟩:=q _ (by simp[SV.dW,SV.dc]) _ u
    obtain⟨f1,f2⟩:=D1 aj;split at hp
    .rename_i j v B;obtain⟨M,ak,N⟩:=f2 j v B;simp at hp;subst hp;refine⟨if ok=true then .tup [M,.bool true]else M,by simp[fE,og,f,g,ak],?_⟩
     cases ok
     .exact .v _ _ N
     refine .v _ _ (.tup _ _ rfl (dK.cons N (.cons (.same _ rfl) .nil)).2)
    .rename_i B;simp at hp;subst hp;refine⟨if ok=true then .tup [z,.bool false]else z,by simp[fE,og,f,g,f1 B],?_⟩
     have L:=W kk z ok rfl;cases ok
     .exact .v _ _ (.same _ L)
     exact .v _ _ (.same _ (by simp[V.good,V.cM,L]))
    grind
   grind
  grind
 .
  rename_i kk z ok p k;obtain⟨X,_,rfl,b,J⟩:=h.inv;obtain⟨K,_,rfl,t,A⟩:=J.inv;rw[A.dh];obtain⟨x,I,rfl⟩:=ζf.1 hp;simp[fE]at I;have L:=W kk z ok rfl;split at I
  .rename_i T O;have key:og H X=some T/\V.uT T=true:=by
    unfold og at O;split at O
    .rw[b.fr.hG];simp at O;subst O;exact⟨rfl,rfl⟩
    .rw[b.fr.fmap];simp at O;subst O;exact⟨rfl,by have:=b.fr.good;simpa[V.good]using this⟩
    .simp at O
    simp at O
   split at I
   .rename_i g;have U:=t.fr.scalar.1 (xK g);subst U;split at I
    .rename_i j v B;simp at I;subst I;have P:=by
      have:∀{l:aZ (V×V)}{i:Nat},V.uT l=true->jd K l i=some (some (j,v))->v.good=true:=by intro l;induction l with|nil=>intro i _ h;simp[jd]at h|cons p l ih=>intro i E h;simp[V.uT]at E;simp[jd]at h;split at h;obtain⟨_,rfl⟩:=h;exact E.1.2;exact ih E.2 h;simp at h
      exact this key.2 B
     refine⟨if ok=true then .tup [v,.bool true]else v,by simp[fE,key.1,g,B],?_⟩
     cases ok
     .exact .v _ _ (.same _ P)
     exact .v _ _ (.same _ (by simp[V.good,V.cM,P]))
    .rename_i B;simp at I;subst I;refine⟨if ok=true then .tup [z,.bool false]else z,by simp[fE,key.1,g,B],?_⟩
     cases ok
     .exact .v _ _ (.same _ L)
     exact .v _ _ (.same _ (by simp[V.good,V.cM,L]))
    simp at I
   simp at I
  simp at I
 .exact absurd rfl (R _ _)
 grind
end
section
variable{Rv:Nat->Prop}{ν ν':Nu}{Z Z':Nat->Prop}{st st':St}{m m':Tb bN}{F F':WP}{H H':bp}
def R.lt(r:R ν Z st F H){id:Nat}(h:gB ν st.m id):id<H.length:=by obtain⟨d,ob,b,u,rfl⟩:=h;have:=r.obj d ob b;cases ob with|sl k es C=>simp only[cK]at u;simp only[eP,u,if_true]at this;have⟨D,a,_⟩:=this;exact(ζe.1 a).1|box cs=>have⟨es,z,a,_⟩:=this;exact(ζe.1 a).1|mp B=>have⟨w,a,_⟩:=this;exact(ζe.1 a).1
def R.yw(r:R ν Z st F H){id:Nat}(h:Z id):id<H.length:=by have:=r.zrow id h;unfold bt at this;have⟨x,u⟩:=isSome_iff_exists.1 this;have⟨ob,a,_⟩:=ζg.1 u;exact(ζe.1 a).1
def Deep.mono(d:Deep H Z)(h:∀id,Z id->bt H' id=bt H id):Deep H' Z where
 row:=λid es z w hr c hc u hu=>by rw[h id w]at hr;have⟨x,B⟩:=d.row id es z w hr c hc u hu;exact⟨x,B.mono λk a=>⟨a,h k a⟩⟩
def xE.mono{ys:S'}(h:∀id,Z id->Z' id/\bt H' id=bt H id)(s:xE H Z ys):xE H' Z' ys:=λc a u b=>by have⟨x,w⟩:=s c a u b;exact⟨x,w.mono h⟩
def FG.mono{a b:aZ (V×V)}(h:∀id,Z id->Z' id/\bt H' id=bt H id)(s:FG H Z a b):FG H' Z' a b:=⟨s.1,λj u v c d=>⟨(s.2 j u v c d).1,(s.2 j u v c d).2.mono h⟩⟩
def eP.mono{d G:Nat}{ob:bN}(B:∀id,Z id->Z' id/\bt H' id=bt H id)(hd:ν' G=ν d)(D:cK ob=true->H'[(ν d).1]?=H[(ν d).1]?)
 (J:∀e,ob.dc e=true->∀ob',bn m' e=some ob'->∃ob,bn m e=some ob/\ν' e=ν e/\sameShape ob ob')(o:eP ν m H Z d ob):eP ν' m' H' Z' G ob:=by
 cases ob with
 |sl k es S=>
  simp only[eP,hd]at o⊢;split
  next b=>rw[if_pos b]at o;have⟨I,a,u,z,L,O⟩:=o;exact⟨I,by rw[D (by simpa[cK]using b)];exact a,u,z.mono B,L.mono B,O⟩
  rename_i b;rw[if_neg b]at o;exact o
 |box cs=>have⟨es,C,a,u,z⟩:=o;exact⟨es,C,by rw[hd,D rfl];exact a,u.mono B J,z⟩|mp Q=>have⟨w,a,u⟩:=o;exact⟨w,by rw[hd,D rfl];exact a,u.mono B⟩
def jP(ν:Nu)(m:Tb bN)(e:Nat):∀ob',bn m e=some ob'->∃ob,bn m e=some ob/\ν e=ν e/\sameShape ob ob':=λob' h=>⟨ob',h,rfl,.refl _⟩
def R.heap(r:R ν Z st F H)(D:∀id,gB ν st.m id->H'[id]?=H[id]?)(B:∀id,Z id->bt H' id=bt H id):R ν Z st F H' where
 slot:=λs u w=>(r.slot s u w).mono (λid h=>⟨h,B id h⟩) λd _=>jP ν st.m d
 obj:=λd ob hd=>eP.mono (λid h=>⟨h,B id h⟩) rfl (λz=>D _ ⟨d,ob,hd,z,rfl⟩) (λe _=>jP ν st.m e) (r.obj d ob hd)
 inj:=r.inj
 apart:=r.apart
 zrow:=λid h=>by rw[B id h];exact r.zrow id h
 deep:=r.deep.mono B
def R.put(r:R ν Z st F H){d:Nat}{sv:SV}{y:V}(h:dD ν st.m H Z sv y):R ν Z {st with g:=bR st.g d sv} (set F d y) H where
 slot:=λs x u=>by by_cases e:d=s;subst e;rw[cR]at u;cases u;rw[uK];exact h;rw[eC st.g sv e]at u;rw[kA _ _ e];exact r.slot s x u
 obj:=r.obj
 inj:=r.inj
 apart:=r.apart
 zrow:=r.zrow
 deep:=r.deep
def Ev.slots(g:Tb SV):Ev Rv ν Z st H ν Z {st with g:=g} H:=⟨le_refl _,λ_ _ _ _ _=>rfl,λ_ h=>⟨h,rfl⟩,λ_ h=>.inl h,λ_ h=>.inl h,λ_ _ u h=>⟨u,h,rfl,.refl _⟩,rfl⟩
def jI(ν:Nu)(d:Nat)(p:Nat×Nat):Nu:=λk=>if k=d then p else ν k
def iJ(ν:Nu)(d:Nat)(p:Nat×Nat):jI ν d p d=p:=if_pos rfl
def qH(ν:Nu){d k:Nat}(p:Nat×Nat)(h:k≠d):jI ν d p k=ν k:=if_neg h
def oc{d:Nat}(h:st.new d=true):d∉st.pin/\bn st.m d=none/\xw d st.g=false/\uZ d st.m=false:=by unfold St.new at h;simp only[ζh,not_eq_true',Option.isNone_iff_eq_none,List.contains_eq_mem,decide_eq_false_iff_not]at h;exact⟨h.1.1.1,h.1.1.2,h.1.2,h.2⟩
def vG{d:Nat}{ob:bN}{p:Nat×Nat}{e:Nat}(h:e≠d):∀ob',bn (bR m d ob) e=some ob'->∃ob,bn m e=some ob/\jI ν d p e=ν e/\sameShape ob ob':=λob' u=>by rw[eC m ob (Ne.symm h)]at u;exact⟨ob',u,qH ν p h,.refl _⟩
def R.add(r:R ν Z st F H){d:Nat}(U:st.new d=true){ob:bN}{p:Nat×Nat}(G:cK ob=true->¬gB ν st.m p.1/\¬Z p.1)(W:eP (jI ν d p) (bR st.m d ob) H Z d ob):
 R (jI ν d p) Z {st with m:=bR st.m d ob} F H:=by
 have⟨T,X,O,Q⟩:=oc U;have key:∀w u,bn (bR st.m d ob) w=some u->w≠d->bn st.m w=some u:=λw u h e=>by rw[eC st.m ob (Ne.symm e)]at h;exact h
 refine⟨λs S J=>?_,λw u hd=>?_,?_,?_,r.zrow,r.deep⟩
 .refine(r.slot s S J).mono (λid h=>⟨h,rfl⟩) λe L=>vG ?_
  rintro rfl;rw[A5 O J]at L;cases L
 .by_cases e:w=d
  .subst e;simp only at hd;rw[cR]at hd;cases hd;exact W
  have C:=key w u hd e;refine eP.mono (λid h=>⟨h,rfl⟩) (qH ν p e) (λ_=>rfl) (λk c=>vG ?_) (r.obj w u C)
  rintro rfl;rw[AP Q C]at c;cases c
 .intro b d2 o1 o2 a D z I B
  by_cases e1:b=d<;>by_cases e2:d2=d
  .rw[e1,e2]
  .subst e1;rw[iJ,qH ν p e2]at B;simp only at a;rw[cR]at a;cases a;exact absurd ⟨d2,o2,key d2 o2 D e2,I,B.symm⟩ (G z).1
  .subst e2;rw[iJ,qH ν p e1]at B;simp only at D;rw[cR]at D;cases D;exact absurd ⟨b,o1,key b o1 a e1,z,B⟩ (G I).1
  rw[qH ν p e1,qH ν p e2]at B;exact r.inj b d2 o1 o2 (key b o1 a e1) (key d2 o2 D e2) z I B
 intro b o1 a z
 by_cases e1:b=d
 .subst e1;simp only at a;rw[cR]at a;cases a;rw[iJ];exact(G z).2
 rw[qH ν p e1];exact r.apart b o1 (key b o1 a e1) z
def G6{d:Nat}{ob:bN}{p:Nat×Nat}{id:Nat}(h:gB (jI ν d p) (bR m d ob) id):gB ν m id\/(cK ob=true/\id=p.1):=by have⟨k,o,a,w,u⟩:=h;by_cases e:k=d;subst e;rw[cR]at a;cases a;rw[iJ]at u;exact .inr ⟨w,u.symm⟩;rw[qH ν p e]at u;rw[eC m ob (Ne.symm e)]at a;exact .inl ⟨k,o,a,w,u⟩
def Ev.add{d:Nat}(B:st.new d=true){ob:bN}{p:Nat×Nat}(D:H.length<=H'.length)(G:∀id,id<H.length->¬Rv id->H'[id]?=H[id]?)(J:∀id,Z id->bt H' id=bt H id)
 (hp:cK ob=true->Rv p.1\/H.length<=p.1):Ev Rv ν Z st H (jI ν d p) Z {st with m:=bR st.m d ob} H' where
 len:=D
 same:=λid h _ _ hr=>G id h hr
 rows:=λid h=>⟨h,J id h⟩
 own:=λid h=>by rcases G6 h with h|⟨a,rfl⟩;exact .inl h;exact .inr (hp a)
 frz:=λid h=>.inl h
 pin:=λe w u h=>by have:e≠d:=(by rintro rfl;exact(oc B).1 w);exact vG this u h
 pins:=rfl
def R.iC(r:R ν Z st F H){d:Nat}{ob ob':bN}(b:bn st.m d=some ob)(D:sameShape ob ob')(W:cK ob'=cK ob)(U:∀id,id≠(ν d).1->H'[id]?=H[id]?)(B:cK ob=true)
 (Y:eP ν (bR st.m d ob') H' Z d ob'):R ν Z {st with m:=bR st.m d ob'} F H':=by
 have z:∀id,Z id->Z id/\bt H' id=bt H id:=λid h=>⟨h,by
  unfold bt;rw[U id (by rintro rfl;exact r.apart d ob b B h)]⟩
 have f:∀e u,bn (bR st.m d ob') e=some u->∃w,bn st.m e=some w/\ν e=ν e/\sameShape w u:=λe u h=>by by_cases k:e=d;subst k;rw[cR]at h;cases h;exact⟨ob,b,rfl,D⟩;rw[eC st.m ob' (Ne.symm k)]at h;exact⟨u,h,rfl,.refl _⟩
 have C:∀e u,bn (bR st.m d ob') e=some u->∃w,bn st.m e=some w/\cK w=cK u:=λe u h=>by by_cases k:e=d;subst k;rw[cR]at h;cases h;exact⟨ob,b,W.symm⟩;rw[eC st.m ob' (Ne.symm k)]at h;exact⟨u,h,rfl⟩
 refine⟨λs O D=>(r.slot s O D).mono z λe _=>f e,λG u hd=>?_,?_,?_,λid h=>by rw[(z id h).2];exact r.zrow id h,r.deep.mono λid h=>(z id h).2⟩
 .by_cases e:G=d
  .subst e;simp only at hd;rw[cR]at hd;cases hd;exact Y
  simp only at hd;rw[eC st.m ob' (Ne.symm e)]at hd;refine eP.mono z rfl (λI=>U _ λh=>e (r.inj G d u ob hd b I B h)) (λk _=>f k) (r.obj G u hd)
 .intro a d2 o1 o2 c Q J S T;have⟨p1,k1,L⟩:=C a o1 c;have⟨p2,k2,X⟩:=C d2 o2 Q;exact r.inj a d2 p1 p2 k1 k2 (by rw[L];exact J) (by rw[X];exact S) T
 intro a o1 c J;have⟨p1,k1,L⟩:=C a o1 c;exact r.apart a p1 k1 (by rw[L];exact J)
def Ev.iC(r:R ν Z st F H){d:Nat}{ob ob':bN}(a:bn st.m d=some ob)(G:sameShape ob ob')(U:cK ob'=cK ob)(D:∀id,id≠(ν d).1->H'[id]?=H[id]?)(B:cK ob=true)(J:H.length<=H'.length):
 Ev Rv ν Z st H ν Z {st with m:=bR st.m d ob'} H' where
 len:=J
 same:=λid _ z _ _=>D id λe=>z ⟨d,ob,a,B,e.symm⟩
 rows:=λid h=>⟨h,by unfold bt;rw[D id (by rintro rfl;exact r.apart d ob a B h)]⟩
 own:=λid⟨k,o,h1,C,w⟩=>by by_cases e:k=d;subst e;simp only at h1;rw[cR]at h1;cases h1;exact .inl ⟨k,ob,a,B,w⟩;simp only at h1;rw[eC st.m ob' (Ne.symm e)]at h1;exact .inl ⟨k,o,h1,C,w⟩
 frz:=λid h=>.inl h
 pin:=λe _ u h=>by by_cases k:e=d;subst k;simp only at h;rw[cR]at h;cases h;exact⟨ob,a,rfl,G⟩;simp only at h;rw[eC st.m ob' (Ne.symm k)]at h;exact⟨u,h,rfl,.refl _⟩
 pins:=rfl
def R.less(r:R ν Z st F H){g:Tb SV}{m':Tb bN}(a:∀s sv,bn g s=some sv->bn st.g s=some sv)(B:∀d ob,bn m' d=some ob->bn st.m d=some ob):R ν Z {st with g:=g,m:=m'} F H where
 slot:=λs sv z=>(r.slot s sv (a s sv z)).mono (λid h=>⟨h,rfl⟩) λe _ u h=>⟨u,B e u h,rfl,.refl _⟩
 obj:=λd ob hd=>eP.mono (λid h=>⟨h,rfl⟩) rfl (λ_=>rfl) (λe _ u h=>⟨u,B e u h,rfl,.refl _⟩) (r.obj d ob (B d ob hd))
 inj:=λd w ob u b C=>r.inj d w ob u (B d ob b) (B w u C)
 apart:=λd ob h=>r.apart d ob (B d ob h)
 zrow:=r.zrow
 deep:=r.deep
def Ev.less{g:Tb SV}{m':Tb bN}(B:∀d ob,bn m' d=some ob->bn st.m d=some ob):Ev Rv ν Z st H ν Z {st with g:=g,m:=m'} H:=⟨le_refl _,λ_ _ _ _ _=>rfl,λ_ h=>⟨h,rfl⟩,λ_⟨d,ob,a,w,z⟩=>.inl ⟨d,ob,B d ob a,w,z⟩,λ_ h=>.inl h,λe _ u h=>⟨u,B e u h,rfl,.refl _⟩,rfl⟩
def Ev.heap(B:H.length<=H'.length)(D:∀id,id<H.length->¬gB ν st.m id->¬Z id->¬Rv id->H'[id]?=H[id]?)(G:∀id,Z id->bt H' id=bt H id):Ev Rv ν Z st H ν Z st H':=⟨B,D,λid h=>⟨h,G id h⟩,λ_ h=>.inl h,λ_ h=>.inl h,λ_ _ u h=>⟨u,h,rfl,.refl _⟩,rfl⟩
def hU.Jn{xs ys:S'}(h:hU H Z xs ys):xE H Z ys:=λc b u d=>by
 have⟨i,hi⟩:=mem_iff_getElem?.1 b;have z:i<xs.length:=by rw[h.1];grind
 have a:=h.2 i _ c (ζd z) hi;have⟨j,B⟩:=mem_iff_getElem?.1 d;have w:j<(xs[i]).length:=by rw[a.1];grind
 exact⟨_,a.2 j _ u (ζd w) B⟩
def hU.same{xs:S'}(h:V.oO xs=true):hU H Z xs xs:=⟨rfl,λj u v a b=>by rw[a]at b;cases b;exact dK.same (mz.1 h j u a)⟩
def qo{z:So}(h:V.cM z=true):∀n,V.oO (replicate n z)=true
 |0=>rfl|n+1=>by simp[List.replicate_succ,V.oO,h,qo h n]
def Du{es:Nat}:∀{ps qs:aZ (Nat×V)}{xs B r:S'},hU H Z xs B->ps.map (·.1)=qs.map (·.1)->dK H Z (ps.map (·.2)) (qs.map (·.2))->fW es xs ps=some r->∃G,fW es B qs=some G/\hU H Z r G
 |[],qs,xs,B,r,D,a,J,h=>by have:qs=[]:=Zad;subst this;simp[fW]at h⊢;grind|(i,v)::ps,qs,xs,B,r,D,a,J,h=>by cases qs with|nil=>simp_all|cons q qs=>obtain⟨j,w⟩:=q;simp at a;obtain⟨e,a⟩:=a;subst e;obtain⟨w',C,e,u,z⟩:=J.inv;obtain⟨rfl,rfl⟩:=e;have b:=u.cells;simp only[fW]at h⊢;split at h;rw[if_pos ⟨by rw[<-b.1];grind,by rw[<-D.1];grind,by rw[b.one];grind⟩];exact Du (D.set i b) a z h;grind
def zip_fst:∀{idx:ST}{xs:So},idx.length=xs.length->(idx.zip xs).map (·.1)=idx
 |[],xs,_=>Zab|i::idx,[],h=>Zad|i::idx,x::xs,h=>by simp[zip_fst (idx:=idx) (xs:=xs) Zac]
def GJ:∀{idx:ST}{xs:So},idx.length=xs.length->(idx.zip xs).map (·.2)=xs
 |[],[],_=>Zab|[],x::xs,h=>Zad|i::idx,[],h=>Zad|i::idx,x::xs,h=>by simp[GJ (idx:=idx) (xs:=xs) Zac]
def Qg{a:Qk}{svs:SW}{ys:So}{d:Nat}{ob:bN}{sv:SV}(b:CH (.a a)=true)(r:ct ν m H Z svs ys)(h:pS m a svs d=some (ob,sv)):
 ∃o mk,jg a ys=some (o,mk)/\cK ob=true/\o≠.free/\∀(id:Nat)(ν':Nu)(m':Tb bN)(H':bp),ν' d=(id,0)->bn m' d=some ob->H'[id]?=some o->(∀k,Z k->bt H' k=bt H k)->
  (∀e,SV.dW e svs=true->∀ob',bn m' e=some ob'->∃ob,bn m e=some ob/\ν' e=ν e/\sameShape ob ob')->eP ν' m' H' Z d ob/\dD ν' m' H' Z sv (mk.val id):=by
 unfold pS at h;split at h
 .
  rename_i size zero;obtain⟨rfl,rfl⟩:=h;rw[r.dh];simp only[CH,ζh]at b;refine⟨_,_,rfl,rfl,Zab,λid ν' m' H' e1 e2 e3 e4 e5=>⟨⟨_,zero,by rw[e1];omega,ct.tu (dK.same b.1),b.2⟩,?_⟩⟩
  exact .ptr _ _ _ λob' u=>by rw[e2]at u;cases u;exact⟨_,rfl,by rw[e1];rfl⟩
 .
  split at h
  .rename_i C;obtain⟨rfl,rfl⟩:=h;obtain⟨y,_,rfl,g,B⟩:=r.inv;rw[B.dh];have i:=g.fr.cells;refine⟨.row y.cells.length [y.cells],.ptr,by simp[jg,i.one,C],rfl,Zab,λid ν' m' H' e1 e2 e3 e4 e5=>⟨⟨_,y.cells,by rw[e1];omega,ct.tu (i.mono λk b=>⟨b,e4 k b⟩),by rw[i.one];simp_all⟩,?_⟩⟩
   exact .ptr _ _ _ λob' u=>by rw[e2]at u;cases u;exact⟨_,rfl,by rw[e1];rfl⟩
  grind
 .
  split at h
  .rename_i z;obtain⟨rfl,rfl⟩:=h;obtain⟨y,_,rfl,g,B⟩:=r.inv;rw[B.dh];obtain⟨O,rfl,U⟩:=g.jB;have J:=IM z U;refine⟨.row O.length [O],.ptr,by simp[jg,V.cells,J],rfl,Zab,λid ν' m' H' e1 e2 e3 e4 e5=>⟨⟨_,O,by rw[e1];omega,U.mono (λk b=>⟨b,e4 k b⟩) λe Q=>e5 e (by simp[SV.dW,SV.dc,Q]),J⟩,?_⟩⟩
   exact .ptr _ _ _ λob' u=>by rw[e2]at u;cases u;exact⟨_,rfl,by rw[e1];rfl⟩
  grind
 .
  split at h
  .rename_i z;obtain⟨rfl,rfl⟩:=h;obtain⟨y,_,rfl,g,B⟩:=r.inv;rw[B.dh];obtain⟨W,J⟩:=nE z g;refine⟨.row [y].length [[y]],.ptr,by simp[jg,W,J],rfl,Zab,λid ν' m' H' e1 e2 e3 e4 e5=>⟨⟨_,[y],by rw[e1];omega,.cons (g.mono (λk b=>⟨b,e4 k b⟩) λe Q=>e5 e (by simp[SV.dW,Q])) .nil,Zad⟩,?_⟩⟩
   exact .ptr _ _ _ λob' u=>by rw[e2]at u;cases u;exact⟨_,rfl,by rw[e1];rfl⟩
  grind
 .
  rename_i size zero k n q c;obtain⟨_,_,rfl,g,B⟩:=r.inv;obtain⟨_,_,rfl,X,Y⟩:=B.inv;rw[g.fr.int,X.fr.int,Y.dh];split at h
  .rename_i i;obtain⟨rfl,rfl⟩:=h;have S:cV (if n=c then Fl.row else Fl.part)=true:=by split<;>rfl
   refine⟨_,_,by simp only[jg];rw[if_pos i],S,Zab,λid ν' m' H' e1 e2 e3 e4 e5=>⟨?_,?_⟩⟩
   .simp[eP,S,e1];have j:=qo b c.toNat;have T:n.toNat<=c.toNat:=by omega
    refine⟨_,e3,Zad,?_,(hU.same j).Jn,λe=>?_⟩
    .simp[Nat.min_eq_left T];exact hU.same (qo b _)
    grind
   refine .own _ _ λob' u=>?_
   rw[e2]at u;cases u;exact⟨_,_,_,rfl,by rw[uA S,e1];simp[Mk.val]⟩
  grind
 .
  rename_i vs size len zero idx;split at h
  .rename_i xs hx;split at h
   .rename_i z;obtain⟨rows,l,e⟩:=ζf.1 h;obtain⟨rfl,rfl⟩:=e;have L:=r.dG hx;obtain⟨f,D,w⟩:=Du (qs:=idx.zip ys) (hU.same (qo b len)) (by rw[zip_fst z,zip_fst (by rw[<-L.1];exact z)]) (by rw[GJ z,GJ (by rw[<-L.1];exact z)];exact L) l
    have G:f.length=len:=by have:∀{ps:aZ (Nat×V)}{a r:S'},fW size a ps=some r->r.length=a.length:=(by intro ps;induction ps with|nil=>intro a r h;simp[fW]at h;subst h;rfl|cons p ps ih=>intro a r h;simp only[fW]at h;split at h;rw[ih h];simp;simp at h);rw[this D];simp
    refine⟨.row size f,.sl size len,by simp only[jg];rw[if_pos (by rw[<-L.1];exact z),D];rfl,rfl,Zab,λid ν' m' H' e1 e2 e3 e4 e5=>⟨?_,?_⟩⟩
    .have I:=w.mono λk b=>⟨b,e4 k b⟩
     simp only[eP,e1];refine⟨_,e3,by simp[w.1],?_,I.Jn,λ_=>⟨trivial,w.1.symm⟩⟩
     simp[w.1];exact I
    refine .own _ _ λob' u=>?_
    rw[e2]at u;cases u;exact⟨_,_,_,rfl,by rw[w.1,G];simp[tZ,e1,Mk.val]⟩
   grind
  grind
 .
  obtain⟨rfl,rfl⟩:=h;rw[r.dh];refine⟨_,_,rfl,rfl,Zab,λid ν' m' H' e1 e2 e3 e4 e5=>⟨⟨_,by rw[e1];exact e3,rfl,Zab⟩,?_⟩⟩
  exact .mp _ _ λob' u=>by rw[e2]at u;cases u;exact⟨_,rfl,by rw[e1];rfl⟩
 grind
def ct.Y9{cs:SW}{B:So}(h:ct ν m H Z cs B){size o:Nat}{x:SV}{y:V}{r:SW}(G:dD ν m H Z x y)(hp:putCells m size o x cs=some r)(D:B.all V.one=true):
 y.cells.length=size/\o+size<=B.length/\y.cells.all V.one=true/\ct ν m H Z r (B.take o++y.cells++B.drop (o+y.cells.length))/\(B.take o++y.cells++B.drop (o+y.cells.length)).all V.one=true:=by
 have u:∀k:Nat,(B.take k).all V.one=true/\(B.drop k).all V.one=true:=λk=>⟨all_eq_true.2 λz C=>all_eq_true.1 D z (List.mem_of_mem_take C),all_eq_true.2 λz C=>all_eq_true.1 D z (mem_of_mem_drop C)⟩
 unfold putCells at hp;split at hp
 .split at hp
  .rename_i hc;simp only[ζa]at hp;subst hp;have w:=G.fr.cells;refine⟨by rw[<-w.1];simp_all,by rw[<-h.1];grind,by rw[w.one];grind,?_,?_⟩
   .have e:y.cells.length=size:=by rw[<-w.1];simp_all
    rw[e];exact((h.take o).append (ct.tu w)).append (h.drop _)
   simp only[List.all_append,(u _).1,(u _).2,w.one,hc.2.2,Bool.and_self]
  grind
 .split at hp
  .rename_i hc;simp only[ζa]at hp;subst hp;obtain⟨I,rfl,J⟩:=G.jB;have L:=IM hc.2.2 J;have e:I.length=size:=by rw[<-J.1];simp_all
   refine⟨e,by rw[<-h.1];grind,L,?_,?_⟩
   .show ct ν m H Z _ (B.take o++I++B.drop (o+I.length));rw[e];exact((h.take o).append J).append (h.drop _)
   simp[(u _).1,(u _).2,V.cells,L]
  grind
 split at hp
 .rename_i hc;simp only[ζa]at hp;subst hp;have⟨O,Q⟩:=nE hc.1 G;rw[O];refine⟨by simp[hc.2.1],by rw[<-h.1];grind,Zad,?_,?_⟩
  .exact((h.take o).append (.cons G .nil)).append (h.drop _)
  grind
 grind
def wu{size:Nat}{x:SV}{y:V}{xs:S'}(r:dD ν m H Z x y)(D:∀d ob,bn m d=some ob->eP ν m H Z d ob)(h:ki m size x=some xs):∃ys,dY H size y=some ys/\hU H Z xs ys:=by
 unfold ki at h;split at h;split at h;rename_i k es z u;obtain⟨_,_,_,e,rfl⟩:=r.lM u;cases e;have o:=D _ _ u;simp[eP]at o;split at h;rename_i a;rw[if_pos a]at o;split at h;next w=>simp at h;subst h;have⟨ys,b,B,C,_⟩:=o;rw[uA a];exact⟨_,by simp[dY,if_pos w,b,Ob.rows,if_pos B],C⟩
 grind;rename_i a;simp at h;subst h;refine⟨[],?_,rfl,Zab⟩;cases k<;>simp[cV]at a<;>rfl;grind;simp at h;subst h;rw[r.fr.bM];exact⟨[],rfl,rfl,Zab⟩;simp at h;subst h;rw[r.fr.dX];exact⟨[],rfl,rfl,Zab⟩;split at h;rename_i es z w;simp at h;subst h;have c:=r.fr.good;rcases r.fr.nU with rfl|⟨id,off,ys,rfl,G,b,B,C⟩;exact⟨_,by simp[dY,if_pos w],hU.same (by simpa[V.good]using c)⟩;unfold bt at b;exact⟨_,by simp[dY,if_pos w,b,if_pos B],C⟩;grind;grind
def Ev.re{m1:Tb bN}(B:∀d ob,bn m1 d=some ob->bn st.m d=some ob){d:Nat}(U:d∉st.pin){ob:bN}{p:Nat×Nat}(D:H.length<=H'.length)(G:∀id,id<H.length->¬gB ν st.m id->¬Rv id->H'[id]?=H[id]?)
 (J:∀id,Z id->bt H' id=bt H id)(hp:cK ob=true->gB ν st.m p.1\/Rv p.1\/H.length<=p.1):Ev Rv ν Z st H (jI ν d p) Z {st with m:=bR m1 d ob} H' where
 len:=D
 same:=λid h C _ hr=>G id h C hr
 rows:=λid h=>⟨h,J id h⟩
 own:=λid h=>by rcases G6 h with h|⟨a,rfl⟩;have⟨k,o,a,w,z⟩:=h;exact .inl ⟨k,o,B k o a,w,z⟩;grind
 frz:=λid h=>.inl h
 pin:=λe I u h=>by have:e≠d:=Zac;have⟨o,a,w,z⟩:=vG (ν:=ν) (p:=p) this u h;grind
 pins:=rfl
def Kept(dst:a_ Nat)(ν:Nu)(m:Tb bN)(ν':Nu)(m':Tb bN):Prop:=∀e u,dst≠some e->bn m' e=some u->∃ob,bn m e=some ob/\ν' e=ν e/\sameShape ob u
def Kept.refl{dst:a_ Nat}:Kept dst ν m ν m:=λe u _ h=>⟨u,h,rfl,.refl _⟩
def Kept.iC{dst:a_ Nat}{d:Nat}{ob ob':bN}(a:bn m d=some ob)(B:sameShape ob ob'):Kept dst ν m ν (bR m d ob'):=λe u _ h=>by by_cases k:e=d;subst k;rw[cR]at h;grind;rw[eC m ob' (Ne.symm k)]at h;exact⟨u,h,rfl,.refl _⟩
def Kept.add{d:Nat}{ob:bN}{p:Nat×Nat}{m1:Tb bN}(B:∀d ob,bn m1 d=some ob->bn m d=some ob):Kept (some d) ν m (jI ν d p) (bR m1 d ob):=λe u w h=>by have:e≠d:=λh=>w (by rw[h]);have⟨o,a,z,C⟩:=vG (ν:=ν) (p:=p) this u h;grind
def l_{d:Nat}:∀e ob,bn (eR d m) e=some ob->bn m e=some ob:=λ_ _ h=>(qg h).2
def FG.put{k x y:V}{a b r:aZ (V×V)}(G:k.scalar=true)(h:FG H Z a b)(J:FR H Z x y)(hp:rI k x a=some r):∃D,rI k y b=some D/\FG H Z r D:=by unfold rI at hp;obtain⟨f,d⟩:=D1 h;split at hp;rename_i j v C;simp at hp;subst hp;obtain⟨I,B,_⟩:=d j v C;refine⟨b.set j (k,y),by unfold rI;rw[B],by simp[h.1],λi u w c z=>?_⟩;rw[getElem?_set]at c z;split at c;grind;rename_i e;rw[if_neg e]at z;exact h.2 i u w c z;simp at hp;subst hp;refine⟨b++[(k,y)],by unfold rI;simp_all,by simp[h.1],λi u w c z=>?_⟩;by_cases hi:i<a.length;rw[getElem?_append_left hi]at c;rw[getElem?_append_left (by rw[<-h.1];omega)]at z;exact h.2 i u w c z;rw[getElem?_append_right (by rw[<-h.1];omega),<-h.1]at z;grind;grind
def NN(r:R ν Z st F H){d:Nat}{cs:SW}(B:bn st.m d=some (.box cs)):∀{l:SW}{D:So},ct ν st.m H Z l D->l.all (N5 st.m d)=true->D.all (sV (ν d).1)=true:=by intro l;induction l with|nil=>intro D C _;rw[C.dh];rfl|cons a l O=>intro D C G;obtain⟨w,D,rfl,g1,g2⟩:=C.inv;simp only[all_cons,ζh]at G⊢;refine⟨?_,O g2 G.2⟩;have u:=G.1;unfold N5 at u;split at u;rename_i Q T;simp at u;have⟨I,J⟩:=u;split at J;(next S z=>obtain⟨_,_,rfl⟩:=g1.qI z;simp[sV];exactλe=>I (r.inj Q d _ _ z B rfl rfl e));grind;rcases FR.nW g1.fr with rfl|⟨id,el,off,_,_,_,rfl,L,_⟩;rfl;simp[sV];rintro rfl;exact r.apart d _ B rfl L;grind
def DM(r:R ν Z st F H){dst:a_ Nat}{l:NL}{svs:SW}{ys:So}{sv:SV}(U:ct ν st.m H Z svs ys)(h:oe st dst l svs=some (sv,st')):
 ∃y H' ν',fT H l ys=some (y,H')/\R ν' Z st' F H'/\dD ν' st'.m H' Z sv y/\Ev (λ_=>False) ν Z st H ν' Z st' H'/\Kept dst ν st.m ν' st'.m:=by
 unfold oe at h;split at h
 .
  rename_i size d o x;obtain⟨_,_,rfl,a,p⟩:=U.inv;obtain⟨y,_,rfl,n,q⟩:=p.inv;rw[q.dh];split at h
  .rename_i cs B;have⟨au,hp,e⟩:=ζf.1 h;obtain⟨rfl,rfl⟩:=e;obtain⟨_,_,rfl⟩:=a.qI B;have⟨es,G,f,g,T⟩:=r.obj d _ B;have⟨p1,p2,p3,p4,p5⟩:=ct.Y9 g n hp T;have J:∀id,id≠(ν d).1->(H.set (ν d).1 (.row es [G.take o++y.cells++G.drop (o+y.cells.length)]))[id]?=H[id]?:=λid I=>by grind
   have D:∀id,Z id->Z id/\bt (H.set (ν d).1 (.row es [G.take o++y.cells++G.drop (o+y.cells.length)])) id=bt H id:=λid D=>⟨D,by
    unfold bt;rw[J id (by rintro rfl;exact r.apart d _ B rfl D)]⟩
   refine⟨.undef,H.set (ν d).1 (.row es [G.take o++y.cells++G.drop (o+y.cells.length)]),ν,?_,?_,.v _ _ (.same _ rfl),Ev.iC r B trivial rfl J rfl Zab,Kept.iC B trivial⟩
   .simp only[fT,f,getElem?_cons_zero,if_pos (And.intro p1 (And.intro p2 p3)),List.set_cons_zero]
   refine r.iC B trivial rfl J rfl ⟨es,_,?_,p4.mono D (λe _ Q A=>?_),p5⟩
   .grind
   by_cases k:e=d
   .subst k;rw[cR]at A;cases A;exact⟨_,B,rfl,trivial⟩
   rw[eC st.m _ (Ne.symm k)]at A;exact⟨Q,A,rfl,.refl _⟩
  grind
 .
  rename_i size d i o x;obtain⟨_,_,rfl,a,p⟩:=U.inv;obtain⟨y,_,rfl,n,q⟩:=p.inv;rw[q.dh];split at h
  .rename_i k es xs B;split at h
   .rename_i cs ah;split at h
    .rename_i g;obtain⟨rfl,rfl⟩:=h;obtain⟨_,_,_,e,b,rfl⟩:=a.An B;cases e;have ob:=r.obj d _ B;simp[eP,b]at ob;have⟨rs,f,P,hf,ai,aj⟩:=ob;have⟨c,ak,ad⟩:=hf.get ah;have hi:=(ζe.1 ah).1;rw[getElem?_take,if_pos hi,getElem?_drop]at ak;have hy:=n.fr.cells;have E:y.cells.length=size:=by rw[<-hy.1];exact g.1
     have W:o+size<=c.length:=by rw[<-ad.1];exact g.2.1
     have q3:y.cells.all V.one=true:=by rw[hy.one];exact g.2.2
     have C:dK H Z (cs.take o++x.cells++cs.drop (o+x.cells.length)) (c.take o++y.cells++c.drop (o+y.cells.length)):=by rw[g.1,E];exact((ad.take o).append hy).append (ad.drop _)
     generalize hN:(c.take o++y.cells++c.drop (o+y.cells.length))=nc at C;have J:∀id,id≠(ν d).1->(H.set (ν d).1 (.row es (rs.set ((ν d).2+i) nc)))[id]?=H[id]?:=λid I=>by rw[getElem?_set];rw[if_neg (Ne.symm I)]
     have L:=b;have D:∀id,Z id->Z id/\bt (H.set (ν d).1 (.row es (rs.set ((ν d).2+i) nc))) id=bt H id:=λid D=>⟨D,by
      unfold bt;rw[J id (by rintro rfl;exact r.apart d _ B L D)]⟩
     have ae:sameShape (.sl k es xs) (.sl k es (xs.set i (cs.take o++x.cells++cs.drop (o+x.cells.length)))):=⟨rfl,rfl,Zab⟩
     refine⟨.undef,H.set (ν d).1 (.row es (rs.set ((ν d).2+i) nc)),ν,?_,?_,.v _ _ (.same _ rfl),Ev.iC r B ae rfl J L Zab,Kept.iC B ae⟩
     .simp only[fT,f,ak,if_pos (And.intro E (And.intro W q3)),hN]
     refine r.iC B ae rfl J L ?_;simp only[eP,b];have av:=(ζe.1 f).1;refine⟨_,getElem?_set_self av,by simpa using P,?_,?_,λe=>?_⟩
     .have e1:take (xs.set i (cs.take o++x.cells++cs.drop (o+x.cells.length))).length (List.drop (ν d).2 (rs.set ((ν d).2+i) nc))=((rs.drop (ν d).2).take xs.length).set i nc:=by
       rw[List.length_set,List.drop_set,if_neg Zaa,List.take_set]
       congr 1;omega
      rw[e1];exact(hf.set i C).mono D
     .intro cc al u hu;rcases List.mem_or_eq_of_mem_set al with hm|rfl
      .have⟨z,aw⟩:=ai cc hm u hu;exact⟨z,aw.mono D⟩
      have⟨j,hj⟩:=mem_iff_getElem?.1 hu;have am:=(ζe.1 hj).1;rw[<-C.1]at am;exact⟨_,(C.2 j _ u (ζd am) hj).mono D⟩
     have⟨a1,a2⟩:=aj e;exact⟨a1,by simpa using a2⟩
    simp at h
   grind
  grind
 .
  rename_i kk d k x;obtain⟨_,_,rfl,a,p⟩:=U.inv;obtain⟨k',_,rfl,n,q⟩:=p.inv;obtain⟨y,_,rfl,h5,h6⟩:=q.inv;rw[h6.dh];split at h
  .rename_i ax B;split at h
   .rename_i b;have⟨aI,hp,e⟩:=ζf.1 h;simp at e;obtain⟨rfl,rfl⟩:=e;obtain⟨_,_,rfl⟩:=a.FL B;have ay:=n.fr.scalar.1 (xK b);subst ay;have⟨aJ,f,aA⟩:=r.obj d _ B;have⟨r',aB,aC⟩:=aA.put (xK b) h5.fr hp;have J:∀id,id≠(ν d).1->(H.set (ν d).1 (.map r'))[id]?=H[id]?:=λid I=>by rw[getElem?_set];rw[if_neg (Ne.symm I)]
    have D:∀id,Z id->Z id/\bt (H.set (ν d).1 (.map r')) id=bt H id:=λid D=>⟨D,by
     unfold bt;rw[J id (by rintro rfl;exact r.apart d _ B rfl D)]⟩
    refine⟨.undef,H.set (ν d).1 (.map r'),ν,?_,?_,.v _ _ (.same _ rfl),Ev.iC r B trivial rfl J rfl Zab,Kept.iC B trivial⟩
    .simp[fT,f,b,aB]
    refine r.iC B trivial rfl J rfl ⟨r',?_,aC.mono D⟩;rw[getElem?_set_self (ζe.1 f).1]
   simp at h
  simp at h
 .
  rename_i size s x;obtain⟨y1,_,rfl,a,p⟩:=U.inv;obtain⟨y2,_,rfl,n,q⟩:=p.inv;rw[q.dh];split at h
  .rename_i xs e1 e2;have⟨a1,p1,_⟩:=wu a r.obj e1;have⟨a2,p2,W⟩:=wu n r.obj e2;have:=length_eq_zero_iff.1 (by have:=W.1;simpa using this.symm)
   subst this
   cases dst with
   |none=>simp at h|some t=>
    have lit:∀(k:Fl)(K:V),cV k=false->tZ (ν t) k size 0=K->st.new t=true->(∀y,FR H Z K y->y=K)->FR H Z K y1->
     ∃y H' ν',fT H (.append size) [y1,y2]=some (y,H')/\R ν' Z {st with m:=bR st.m t (.sl k size [])} F H'/\dD ν' (bR st.m t (.sl k size [])) H' Z (.own t) y/\Ev (λ_=>False) ν Z st H ν' Z {st with m:=bR st.m t (.sl k size [])} H'/\Kept (some t) ν st.m ν' (bR st.m t (.sl k size [])):=λk K b aD N hx hf=>by
     have an:cK (.sl k size [])=true->False:=by simp[cK,b]
     refine⟨y1,H,jI ν t (ν t),by simp[fT,p1,p2],r.add N (λh=>(an h).elim) (by simp[eP,b]),.own _ _ λQ M=>?_,Ev.add N (le_refl _) (λ_ _ _=>rfl) (λ_ _=>rfl) (λh=>(an h).elim),Kept.add λ_ _ h=>h⟩
     rw[cR]at M;cases M;exact⟨_,_,_,rfl,by rw[iJ,hx _ hf];exact aD.symm⟩
    cases s with
    |own d=>
     dsimp only at h;split at h
     .rename_i ob B;split at h
      .rename_i C;simp at h;obtain⟨rfl,rfl⟩:=h;simp[ki,B]at e1
       cases ob with
       |sl k es X=>
        obtain⟨_,_,_,e,rfl⟩:=a.lM B;cases e;have r1:R ν Z {st with m:=eR d st.m} F H:=r.less (λ_ _ h=>h) l_
        have⟨n1,_,_,_⟩:=oc C;have ao:eP (jI ν t (ν d)) (bR (eR d st.m) t (.sl k es X)) H Z t (.sl k es X):=by have o:=r.obj d _ B;simp[eP,iJ]at o⊢;exact o
        refine⟨tZ (ν d) k es X.length,H,jI ν t (ν d),by simp[fT,p1,p2],r1.add C (λhb=>⟨λS=>?_,r.apart d _ B hb⟩) ao,.own _ _ λQ M=>?_,?_,Kept.add l_⟩
        .have⟨k2,o2,g1,g2,g3⟩:=S;have⟨g4,g5⟩:=qg g1;exact g4 (r.inj d k2 _ o2 B g5 hb g2 g3.symm)
        .rw[cR]at M;cases M;exact⟨_,_,_,rfl,by rw[iJ]⟩
        by_cases hb:cK (.sl k es X)=true
        .exact Ev.re (m1:=eR d st.m) l_ n1 (le_refl _) (λ_ _ _ _=>rfl) (λ_ _=>rfl) (λ_=>.inl ⟨d,_,B,hb,rfl⟩)
        exact(Ev.less l_).trans (Ev.add C (le_refl _) (λ_ _ _=>rfl) (λ_ _=>rfl) λh=>absurd h hb)
       |box cs=>cases e1|mp ax=>cases e1
      simp at h
     simp at h
    |v K=>
     cases K with
     |bM=>
      dsimp only at h;split at h
      next N=>simp at h;obtain⟨rfl,rfl⟩:=h;exact lit .nil _ rfl rfl N (λy h=>h.bM) a.fr
      simp at h
     |dX=>
      dsimp only at h;split at h
      next N=>simp at h;obtain⟨rfl,rfl⟩:=h;exact lit .emp _ rfl rfl N (λy h=>h.dX) a.fr
      simp at h
     |_=>simp at h
    |_=>simp at h
  .rename_i xs zs I e1 e2;split at h
   .rename_i g;have⟨a1,p1,E⟩:=wu a r.obj e1;have⟨a2,p2,W⟩:=wu n r.obj e2
    cases dst with
    |none=>simp at h|some t=>
     dsimp only at h;generalize ap:giveUp st.m s=m1 at h;split at h
     .rename_i C;simp at h;obtain⟨rfl,rfl⟩:=h;have⟨n1,_,_,_⟩:=oc C;have grow:∃H1,iK H y1=some H1/\H1.length=H.length/\(∀id,¬gB ν st.m id->H1[id]?=H[id]?)/\
       (∀id,gB ν m1 id->H1[id]?=H[id]?)/\(∀id,Z id->bt H1 id=bt H id):=by
       subst ap
       cases s with
       |own d=>
        simp[ki]at e1;split at e1
        .rename_i k es X B;obtain⟨_,_,_,e,rfl⟩:=a.lM B;cases e
         by_cases b:cV k=true
         .have o:=r.obj d _ B;simp[eP,b]at o;have⟨ys,f,_⟩:=o;have L:=b;have J:∀id,id≠(ν d).1->(H.set (ν d).1 .dead)[id]?=H[id]?:=λid I=>by rw[getElem?_set];rw[if_neg (Ne.symm I)]
          refine⟨H.set (ν d).1 .dead,by rw[uA b];simp[iK,f],Zab,λid S=>J id λe=>S ⟨d,_,B,L,e.symm⟩,λid S=>J id λe=>?_,λid D=>?_⟩
          .have⟨k2,o2,g1,g2,g3⟩:=S;have⟨g4,g5⟩:=qg g1;exact g4 (r.inj d k2 _ o2 B g5 L g2 (by rw[g3,e]))
          unfold bt;rw[J id (by rintro rfl;exact r.apart d _ B L D)]
         refine⟨H,?_,rfl,λ_ _=>rfl,λ_ _=>rfl,λ_ _=>rfl⟩
         cases k<;>simp[cV]at b<;>rfl
        simp at e1
       |v K=>
        refine⟨H,?_,rfl,λ_ _=>rfl,λ_ _=>rfl,λ_ _=>rfl⟩
        cases K<;>simp[Kz]at g
        .rw[a.fr.dX];rfl
        rw[a.fr.bM];rfl
       |_=>simp[Kz]at g
      have⟨H1,g1,g2,g3,g4,g5⟩:=grow;have O:∀e ob,bn m1 e=some ob->bn st.m e=some ob:=by subst ap;cases s<;>first|exactλ_ _ h=>h|exact l_
      have ab:∀id,gB ν m1 id->id<H.length:=λid⟨k,o,w1,w2,w3⟩=>r.lt ⟨k,o,O k o w1,w2,w3⟩
      have Y:∀id,id<H.length->(H1++[Ob.row size (a1++a2)])[id]?=H1[id]?:=λid P=>getElem?_append_left (by rw[g2];exact P)
      have af:∀id,Z id->bt (H1++[Ob.row size (a1++a2)]) id=bt H id:=λid D=>by have:=g5 id D;unfold bt at this⊢;rw[Y id (r.yw D)];exact this
      have r1:=r.less (λ_ _ h=>h) O
      have r2:=r1.heap (λid S=>by rw[Y id (ab id S)];exact g4 id S) af
      have ff:=(E.append W).mono λid D=>⟨D,af id D⟩
      have aa:(H1++[Ob.row size (a1++a2)])[H.length]?=some (.row size (a1++a2)):=by rw[<-g2];simp
      refine⟨.hsl H.length size 0 (xs.length+zs.length),H1++[Ob.row size (a1++a2)],jI ν t (H.length,0),?_,?_,?_,?_,Kept.add O⟩
      .have aq:a2≠[]:=by
        rintro rfl;have aE:=length_eq_zero_iff.1 (by have:=W.1;simpa using this)
        exact I aE
       have aF:a1.length+a2.length<=2147483648:=by rw[<-E.1,<-W.1];exact g.1
       have aG:=E.1;have aH:=W.1
       cases a2 with
       |nil=>exact absurd rfl aq|cons w ws=>simp only[fT,p1,p2,if_pos aF,g1,map_some,aG,aH]
      .refine r2.add C (λ_=>⟨λS=>?_,λD=>?_⟩) ?_
       .exact absurd (ab _ S) Zab
       .exact absurd (r.yw D) Zab
       simp only[eP,iJ];refine⟨_,aa,by simp[E.1,W.1],?_,ff.Jn,λ_=>⟨trivial,by simp[E.1,W.1]⟩⟩
       have:(xs++zs).length=(a1++a2).length:=by simp[E.1,W.1]
       rw[this,drop_zero,take_length];exact ff
      .refine .own _ _ λQ M=>?_
       simp only at M;rw[cR]at M;cases M;exact⟨_,_,_,rfl,by simp[tZ,iJ]⟩
      refine Ev.re O n1 (by simp[g2]) (λid P S _=>?_) af (λ_=>.inr (.inr (le_refl _)))
      rw[Y id P];exact g3 id S
     simp at h
   simp at h
  simp at h
 .
  rename_i size d o x l;obtain⟨_,_,rfl,a,p⟩:=U.inv;obtain⟨y,aK,rfl,n,q⟩:=p.inv;split at h
  .rename_i ar;split at h
   .rename_i cs B;have⟨au,hp,e⟩:=ζf.1 h;simp at e;obtain⟨rfl,rfl⟩:=e;obtain⟨_,_,rfl⟩:=a.qI B;have⟨es,G,f,g,T⟩:=r.obj d _ B;have⟨p1,p2,p3,p4,p5⟩:=ct.Y9 g n hp T;have J:∀id,id≠(ν d).1->(H.set (ν d).1 (.row es [G.take o++y.cells++G.drop (o+y.cells.length)]))[id]?=H[id]?:=λid I=>by rw[getElem?_set];rw[if_neg (Ne.symm I)]
    have D:∀id,Z id->Z id/\bt (H.set (ν d).1 (.row es [G.take o++y.cells++G.drop (o+y.cells.length)])) id=bt H id:=λid D=>⟨D,by
     unfold bt;rw[J id (by rintro rfl;exact r.apart d _ B rfl D)]⟩
    refine⟨.undef,H.set (ν d).1 (.row es [G.take o++y.cells++G.drop (o+y.cells.length)]),ν,?_,?_,.v _ _ (.same _ rfl),Ev.iC r B trivial rfl J rfl Zab,Kept.iC B trivial⟩
    .simp only[fT,NN r B q ar,if_true,f,getElem?_cons_zero,if_pos (And.intro p1 (And.intro p2 p3)),List.set_cons_zero]
    refine r.iC B trivial rfl J rfl ⟨es,_,?_,p4.mono D (λe _ Q A=>?_),p5⟩
    .have:=(ζe.1 f).1;rw[getElem?_set_self this]
    by_cases k:e=d
    .subst k;rw[cR]at A;cases A;exact⟨_,B,rfl,trivial⟩
    rw[eC st.m _ (Ne.symm k)]at A;exact⟨Q,A,rfl,.refl _⟩
   simp at h
  simp at h
 grind
end
def BC(d:Nat)(st:St):a_ St:=
 match bn st.m d with
 |some (.sl k es u)=>some {st with g:=DY (SV.sub d (qc k es u)) st.g,m:=mapM (SV.wZ d (qc k es u)) (eR d st.m)}|_=>none
def aaG(st:St):Loc->a_ SV
 |.s n=>bn st.g n|.c b i=>match bn st.m b with
  |some (.box cs)=>cs[i]?|_=>none
def ghost(x:Gh)(st:St):a_ St:=
 match x with
 |.closeS l=>match aaG st l with
  |some (.own d)=>BC d st|some _=>some st|none=>none
 |.close d=>BC d st|.closeB d=>match bn st.m d with
  |some (.box cs)=>match dG cs with
   |some u=>some {st with g:=DY (SV.DU d u) st.g,m:=mapM (SV.tE d u) (eR d st.m)}|none=>none
  |_=>none
 |.canon (.s n) d es=>match bn st.g n with
  |some (.v .bM)=>if st.new d then some {st with g:=bR st.g n (.own d),m:=bR st.m d (.sl .nil es [])}else none|some (.v .dX)=>if st.new d then some {st with g:=bR st.g n (.own d),m:=bR st.m d (.sl .emp es [])}else none|some (.own e)=>if e=d then some st else if st.new d then some {st with g:=Cw e d st.g,m:=wY e d st.m}else none|some (.ptr e _)=>if e=d then some st else if st.new d then some {st with g:=Cw e d st.g,m:=wY e d st.m}else none|_=>none
 |.canon (.c b i) d es=>match bn st.m b with
  |some (.box cs)=>match cs[i]?with
   |some (.v .bM)=>if st.new d then some {st with m:=bR (bR st.m d (.sl .nil es [])) b (.box (cs.set i (.own d)))}else none|some (.v .dX)=>if st.new d then some {st with m:=bR (bR st.m d (.sl .emp es [])) b (.box (cs.set i (.own d)))}else none|some (.own e)=>if e=d then some st else if st.new d then some {st with g:=Cw e d st.g,m:=wY e d st.m}else none|_=>none
  |_=>none
 |.keep gs w=>match kY st.g gs,kY st.m w with
  |some g,some m=>some {st with g:=g,m:=m}|_,_=>none
 |.drop ds=>some {st with g:=pL ds st.g}
section
variable{Rv:Nat->Prop}{ν ν':Nu}{Z Z':Nat->Prop}{st st':St}{m m':Tb bN}{F F':WP}{H H':bp}{N:Nat->Y'}
def Rx(r:R ν Z st F H){dst:a_ Nat}{size d:Nat}{lo hi:X'}{U:SW}{ys:So}{sv:SV}(D:ct ν st.m H Z (.own d::U) ys)(h:BZ st dst size lo hi d U=some (sv,st')):
 ∃y ν',bq N (.slice size lo hi) ys=some y/\R ν' Z st' F H/\dD ν' st'.m H Z sv y/\Ev Rv ν Z st H ν' Z st' H:=by
 unfold BZ at h;obtain⟨f,g,rfl,c,S⟩:=D.inv;split at h
 .rename_i k es G ws t u T;split at h
  .rename_i hk;have⟨⟨l,i⟩,W,h⟩:=ζg.1 h;have⟨⟨a,b⟩,B,h⟩:=ζg.1 h;dsimp only at h;split at h
   .rename_i w;obtain⟨rfl,rfl⟩:=h;obtain⟨_,_,_,e,rfl⟩:=c.lM u;cases e;have I:b<=G.length/\a<=b:=by
     unfold eD at B
     grind
    have o:=r.obj d _ u;simp[eP,hk.1]at o;have⟨rs,j,n,X,O,_⟩:=o;have z:=hk.1;have r1:R ν Z {st with m:=eR d st.m} F H:=r.less (λ_ _ h=>h) l_
    have J:¬gB ν (eR d st.m) (ν d).1:=by rintro⟨k2,o2,g1,g2,g3⟩;have⟨g4,g5⟩:=qg g1;exact g4 (r.inj d k2 _ o2 u g5 z g2 g3.symm)
    have C:((G.take b).drop a).length=b-a:=Zad
    refine⟨.hsl (ν d).1 es ((ν d).2+a) (b-a),jI ν t ((ν d).1,(ν d).2+a),?_,?_,?_,?_⟩
    .have L:=ct.dG S T;rw[uA hk.1];simp[bq,L.ny W,iX,if_pos hk.2,B]
    .refine r1.add w (λ_=>⟨J,r.apart d _ u z⟩) ?_
     simp[eP,cV,iJ];have:=(X.take b).drop a;have e:List.drop a (take b (take G.length (List.drop (ν d).2 rs)))=take (b-a) (List.drop ((ν d).2+a) rs):=by rw[List.take_take,Nat.min_eq_left I.1,List.drop_take,drop_drop]
     grind
    .refine .own _ _ λY Q=>?_
     rw[cR]at Q;cases Q;exact⟨_,_,_,rfl,by rw[C];simp[tZ,iJ]⟩
    exact Ev.re (st:=st) l_ (oc w).1 (le_refl _) (λ_ _ _ _=>rfl) (λ_ _=>rfl) (λ_=>.inl ⟨d,_,u,z,rfl⟩)
   grind
  grind
 grind
def Ip{f:SV->SV}:∀{g:Tb SV}{s:Nat},bn (DY f g) s=(bn g s).map f
 |[],s=>rfl|(k,x)::r,s=>by simp[DY,bn];split;rfl;exact Ip
def A4(f:SW->SW):bN->bN
 |.box cs=>.box (f cs)|o=>o
def Ie{f:SW->SW}:∀{m:Tb bN}{d:Nat},bn (mapM f m) d=(bn m d).map (A4 f)
 |[],d=>rfl|(k,x)::r,d=>by cases x<;>simp[mapM,bn]<;>split<;>first|rfl|exact Ie
def vt{d:Nat}{w:V}:∀{l:SW}{j:Nat},(SV.wZ d w l)[j]?=(l[j]?).map (SV.sub d w)
 |[],j=>by simp[SV.wZ]|x::r,0=>by simp[SV.wZ]|x::r,j+1=>by simp[SV.wZ,vt]
def uB{d:Nat}{w:So}:∀{l:SW}{j:Nat},(SV.tE d w l)[j]?=(l[j]?).map (SV.DU d w)
 |[],j=>by simp[SV.tE]|x::r,0=>by simp[SV.tE]|x::r,j+1=>by simp[SV.tE,uB]
def qG{d:Nat}{w:V}:∀{l:SW},(SV.wZ d w l).length=l.length
 |[]=>rfl|x::r=>by simp[SV.wZ,qG]
def pP{d:Nat}{w:So}:∀{l:SW},(SV.tE d w l).length=l.length
 |[]=>rfl|x::r=>by simp[SV.tE,pP]
def dD.sub{sv:SV}{y:V}{d:Nat}{k:Fl}{es:Nat}{xs:S'}(l:bn m d=some (.sl k es xs))(G:FR H Z' (qc k es xs) (tZ (ν d) k es xs.length))(J:∀id,Z id->Z' id)
 (U:∀e ob',bn m' e=some ob'->e≠d/\∃ob,bn m e=some ob/\sameShape ob ob')(r:dD ν m H Z sv y):dD ν m' H Z' (sv.sub d (qc k es xs)) y:=by
 have w:∀id,Z id->Z' id/\bt H id=bt H id:=λid h=>⟨J id h,rfl⟩
 have C:∀e ob',bn m' e=some ob'->∃ob,bn m e=some ob/\ν e=ν e/\sameShape ob ob':=λe ob' h=>Zac
 induction r with
 |v x y h=>exact .v x y (h.mono w)|own e y h=>
  simp[SV.sub];split
  next I=>subst I;obtain⟨_,_,_,e1,rfl⟩:=h _ l;cases e1;exact .v _ _ G
  exact(dD.own e y h).mono w λe _=>C e
 |ptr e o y h=>exact(dD.ptr e o y h).mono w λe _=>C e|el e i o y h=>exact(dD.el e i o y h).mono w λe _=>C e|mp e y h=>exact(dD.mp e y h).mono w λe _=>C e|clo f a b z L D S hva O B Q=>
  refine .clo f _ _ z L (by rw[qG];omega) (by rw[qG];omega) (λj u v c g=>?_) (λj u v c g=>?_)
  .rw[vt,ζf]at c;grind
  rw[vt,ζf]at c;grind
 |tup a z D hva B=>
  refine .tup _ z (by rw[qG];omega) (λj u v c g=>?_)
  rw[vt,ζf]at c;grind
 |agg a z D hva B=>
  refine .agg _ z (by rw[qG];omega) (λj u v c g=>?_)
  rw[vt,ζf]at c;grind
 |yl id=>exact .yl id
theorem Xi {f:FuncId} {a b:aZ SV} {y:V} (r:dD ν m H Z (.clo f a b) y):dD ν m H Z (Ua f a b) y:=by
 unfold Ua;split
 .rename_i x z D G;cases r with|clo _ _ _ w B I J hva u=>
  have h1:=ct.dG (ν:=ν) (m:=m) (H:=H) (Z:=Z) (ys:=w) ⟨I,hva⟩ D;have C:=ct.dG (ν:=ν) (m:=m) (H:=H) (Z:=Z) (ys:=B) ⟨J,u⟩ G;exact .v _ _ (.clo f x z w B h1.1 C.1 h1.2 C.2)
 exact r
def dD.DU{sv:SV}{y:V}{d:Nat}{cs:SW}{xs:So}(k:bn m d=some (.box cs))(U:∀o,o<=xs.length->FR H Z' (.fptr (xs.drop o)) (.hptr (ν d).1 0 o))(W:∀id,Z id->Z' id)
 (Y:∀e ob',bn m' e=some ob'->e≠d/\∃ob,bn m e=some ob/\sameShape ob ob')(r:dD ν m H Z sv y):dD ν m' H Z' (sv.DU d xs) y:=by
 have z:∀id,Z id->Z' id/\bt H id=bt H id:=λid h=>⟨W id h,rfl⟩
 have D:∀e ob',bn m' e=some ob'->∃ob,bn m e=some ob/\ν e=ν e/\sameShape ob ob':=λe ob' h=>by have⟨_,ob,l,L⟩:=Y e ob' h;exact⟨ob,l,rfl,L⟩
 induction r with
 |v x y h=>exact .v x y (h.mono z)|own e y h=>exact(dD.own e y h).mono z λe _=>D e|ptr e o y h=>
  simp only[SV.DU];split
  .rename_i O;subst O;obtain⟨_,e1,rfl⟩:=h _ k;split
   next Q=>exact .v _ _ (U o Q)
   exact(dD.ptr e o _ h).mono z λe _=>D e
  exact(dD.ptr e o y h).mono z λe _=>D e
 |el e i o y h=>exact(dD.el e i o y h).mono z λe _=>D e|mp e y h=>exact(dD.mp e y h).mono z λe _=>D e|clo f a b G S I T hva X B J=>
  refine Xi (.clo f _ _ G S (by rw[pP];exact I) (by rw[pP];exact T) (λj u v c g=>?_) (λj u v c g=>?_))
  .rw[uB,ζf]at c;obtain⟨C,w,rfl⟩:=c;exact B j C v w g
  rw[uB,ζf]at c;obtain⟨C,w,rfl⟩:=c;exact J j C v w g
 |tup a G I hva B=>
  refine .tup _ G (by rw[pP];exact I) (λj u v c g=>?_)
  rw[uB,ζf]at c;obtain⟨C,w,rfl⟩:=c;exact B j C v w g
 |agg a G I hva B=>
  refine .agg _ G (by rw[pP];exact I) (λj u v c g=>?_)
  rw[uB,ζf]at c;obtain⟨C,w,rfl⟩:=c;exact B j C v w g
 |yl id=>exact .yl id
def eP.A4{d:Nat}{ob:bN}{f:SW->SW}(D:∀id,Z id->Z' id)(U:∀l,(f l).length=l.length)
 (G:∀cs B,ct ν m H Z cs B->ct ν m' H Z' (f cs) B)(o:eP ν m H Z d ob):eP ν m' H Z' d (A4 f ob):=by
 have u:∀id,Z id->Z' id/\bt H id=bt H id:=λid h=>⟨D id h,rfl⟩
 cases ob with
 |sl k es Q=>
  simp[Go.VE.A4,eP]at o⊢;split
  next b=>rw[if_pos b]at o;have⟨I,a,w,C,J,L⟩:=o;exact⟨I,a,w,C.mono u,J.mono u,L⟩
  grind
 |box cs=>have⟨es,B,a,w,C⟩:=o;exact⟨es,B,a,G cs B w,C⟩|mp O=>have⟨z,a,w⟩:=o;exact⟨z,a,w.mono u⟩
def zN{f:SW->SW}{ob:bN}:cK (A4 f ob)=cK ob:=by cases ob<;>rfl
def PJ{f:SW->SW}{ob:bN}:sameShape ob (A4 f ob):=by cases ob<;>simp[A4,sameShape]
def R.shut(r:R ν Z st F H){d:Nat}{ob:bN}(t:bn st.m d=some ob){fs:SV->SV}{D:SW->SW}(A:∀l,(D l).length=l.length)(V:∀l(j:Nat),(D l)[j]?=(l[j]?).map fs)
 (B:∀id,Z' id↔Z id\/(cK ob=true/\id=(ν d).1))(G:cK ob=true->∃es ys,H[(ν d).1]?=some (.row es ys)/\xE H Z ys)
 (hf:∀m',(∀e ob',bn m' e=some ob'->e≠d/\∃ob,bn st.m e=some ob/\sameShape ob ob')->∀sv y,dD ν st.m H Z sv y->dD ν m' H Z' (fs sv) y):
 R ν Z' {st with g:=DY fs st.g,m:=mapM D (eR d st.m)} F H/\Ev Rv ν Z st H ν Z' {st with g:=DY fs st.g,m:=mapM D (eR d st.m)} H:=by
 have key:∀e ob',bn (mapM D (eR d st.m)) e=some ob'->e≠d/\∃ob,bn st.m e=some ob/\ob'=A4 D ob:=λe ob' h=>by rw[Ie,ζf]at h;obtain⟨o,a,rfl⟩:=h;have⟨w,E⟩:=qg a;grind
 have L:∀e ob',bn (mapM D (eR d st.m)) e=some ob'->e≠d/\∃ob,bn st.m e=some ob/\sameShape ob ob':=λe ob' h=>by obtain⟨a,o,w,rfl⟩:=key e ob' h;exact⟨a,o,w,PJ⟩
 have K:=hf _ L;have T:∀cs C,ct ν st.m H Z cs C->ct ν (mapM D (eR d st.m)) H Z' (D cs) C:=λcs C h=>by refine⟨by rw[A];exact h.1,λj u v i hv=>?_⟩;rw[V,ζf]at i;obtain⟨M,U,rfl⟩:=i;exact K M v (h.2 j M v U hv)
 have z:=λid h=>(B id).2 (.inl h)
 refine⟨⟨λs sv S=>?_,λe ob' W=>?_,λb N o1 o2 a w J P hp=>?_,λb o1 a J=>?_,λid h=>?_,⟨λid es ys O f c hc u i=>?_⟩⟩,⟨le_refl _,λ_ _ _ _ _=>rfl,λid h=>⟨z id h,rfl⟩,?_,?_,?_,rfl⟩⟩
 .rw[Ip,ζf]at S;obtain⟨Q,X,rfl⟩:=S;exact K Q _ (r.slot s Q X)
 .obtain⟨a,o,w,rfl⟩:=key e ob' W;exact eP.A4 z A T (r.obj e o w)
 .obtain⟨_,p1,k1,rfl⟩:=key b o1 a;obtain⟨_,p2,k2,rfl⟩:=key N o2 w;rw[zN]at J P;exact r.inj b N p1 p2 k1 k2 J P hp
 .obtain⟨Y,p1,k1,rfl⟩:=key b o1 a;rw[zN]at J;intro O;rcases(B _).1 O with O|⟨I,W⟩
  .exact r.apart b p1 k1 J O
  exact Y (r.inj b d p1 ob k1 t J I W)
 .rcases (B id).1 h with h|⟨I,rfl⟩
  .exact r.zrow id h
  have⟨es,ys,f,_⟩:=G I;unfold bt;rw[f];rfl
 .rcases (B id).1 O with h|⟨I,rfl⟩
  .have⟨x,q⟩:=r.deep.row id es ys h f c hc u i;exact⟨x,q.mono λk n=>⟨z k n,rfl⟩⟩
  have⟨ab,ad,aa,S⟩:=G I;unfold bt at f;rw[aa]at f;obtain⟨_,rfl⟩:=f;have⟨x,q⟩:=S c hc u i;exact⟨x,q.mono λk n=>⟨z k n,rfl⟩⟩
 .rintro id ⟨e,o,a,w,E⟩;obtain⟨_,p,k1,rfl⟩:=key e o a;rw[zN]at w;exact .inl ⟨e,p,k1,w,E⟩
 .intro id h;rcases(B id).1 h with h|⟨I,rfl⟩
  .grind
  exact .inr (.inl ⟨d,ob,t,I,rfl⟩)
 grind
def KL(r:R ν Z st F H){d:Nat}(h:BC d st=some st'):∃Z',R ν Z' st' F H/\Ev Rv ν Z st H ν Z' st' H:=by
 simp[BC]at h;split at h;rename_i k es w u;simp at h;subst h;have o:=r.obj d _ u;refine⟨λid=>Z id\/(cK (.sl k es w)=true/\id=(ν d).1),R.shut r u (λ_=>qG) (λ_ _=>vt) (λ_=>Iff.rfl) (λB=>?_) (λm' z G y b=>?_)⟩;have a:cV k=true:=B;simp[eP,a]at o;grind;refine dD.sub u ?_ (λid h=>.inl h) z b;by_cases a:cV k=true;simp[eP,a]at o;have⟨I,b,C,D,J,_⟩:=o;rw[uA a];have e:qc k es w=.fsl es w:=by cases k<;>simp[cV]at a<;>rfl
 rw[e];refine FR.OR (.inr ⟨a,rfl⟩) (by unfold bt;rw[b];rfl) C (D.mono λid h=>⟨.inl h,rfl⟩);cases k<;>simp[cV]at a;exact .same _ rfl;exact .same _ rfl;grind
def Q1(r:R ν Z st F H){d:Nat}(h:ghost (.closeB d) st=some st'):∃Z',R ν Z' st' F H/\Ev Rv ν Z st H ν Z' st' H:=by
 simp[ghost]at h;split at h;rename_i cs w;split at h;rename_i I J;simp at h;subst h;have⟨es,z,a,b,_⟩:=r.obj d _ w;have C:=b.dG J;have L:xE H Z [z]:=by intro c B u e;simp[List.mem_singleton]at B;subst B;have⟨j,O⟩:=mem_iff_getElem?.1 e;have Q:j<I.length:=(by rw[C.1];grind);exact⟨_,C.2 j _ u (ζd Q) O⟩
 refine⟨λid=>Z id\/(cK (.box cs)=true/\id=(ν d).1),R.shut r w (λ_=>pP) (λ_ _=>uB) (λ_=>Iff.rfl) (λS=>⟨es,_,a,L⟩) (λm' D T y G=>?_)⟩;refine dD.DU w (λo U=>?_) (λid h=>.inl h) D G;exact FR.Gk (.inr ⟨rfl,rfl⟩) (show bt H (ν d).1=some (es,[z])by unfold bt;rw[a];rfl) rfl (by rw[<-C.1];omega) ((C.drop o).mono λid h=>⟨.inl h,rfl⟩);grind;grind
def vI{d e:Nat}:∀{l:SW}{j:Nat},(SV.wW d e l)[j]?=(l[j]?).map (SV.wG d e)
 |[],j=>by simp[SV.wW]|x::r,0=>by simp[SV.wW]|x::r,j+1=>by simp[SV.wW,vI]
def qK{d e:Nat}:∀{l:SW},(SV.wW d e l).length=l.length
 |[]=>rfl|x::r=>by simp[SV.wW,qK]
def IA{d e:Nat}:∀{g:Tb SV}{s:Nat},bn (Cw d e g) s=(bn g s).map (SV.wG d e)
 |[],s=>rfl|(k,x)::r,s=>by simp[Cw,bn];split;rfl;exact IA
def Ch{d e:Nat}(B:d≠e):∀{m:Tb bN}{k:Nat},bn m e=none->bn (wY d e m) k=(if k=d then none else(bn m (if k=e then d else k)).map (bN.wG d e))
 |[],k,_=>by simp[wY,bn]|(n,x)::r,k,h=>by simp[bn]at h;split at h;simp_all;have D:=Ch B (k:=k) h;simp[wY,bn];grind
def xM(ν:Nu)(d e:Nat):Nu:=λk=>if k=e then ν d else ν k
def dD.wG{sv:SV}{y:V}{d e:Nat}(U:bn m e=none)(D:sv.dc e=false)(J:d≠e)(r:dD ν m H Z sv y):dD (xM ν d e) (wY d e m) H Z (sv.wG d e) y:=by
 have key:∀k,k≠e->∀w,bn (wY d e m) (if k=d then e else k)=some w->∃ob,bn m k=some ob/\xM ν d e (if k=d then e else k)=ν k/\w=ob.wG d e:=λk l w h=>by rw[Ch J U]at h;by_cases c:k=d;subst c;rw[if_pos rfl,if_neg (Ne.symm J),if_pos rfl,ζf]at h;obtain⟨ob,B,rfl⟩:=h;exact⟨ob,B,by unfold xM;grind,rfl⟩;rw[if_neg c,if_neg c,if_neg l,ζf]at h;obtain⟨ob,B,rfl⟩:=h;exact⟨ob,B,by unfold xM;grind,rfl⟩
 induction r with|v x y h=>exact .v x y h|own k y h=>have l:k≠e:=(by rintro rfl;simp[SV.dc]at D);refine .own _ y λw G=>?_;obtain⟨ob,c,B,rfl⟩:=key k l w G;obtain⟨_,_,_,rfl,rfl⟩:=h ob c;exact⟨_,_,_,rfl,by rw[B]⟩|ptr k o y h=>have l:k≠e:=(by rintro rfl;simp[SV.dc]at D);refine .ptr _ o y λw G=>?_;obtain⟨ob,c,B,rfl⟩:=key k l w G;obtain⟨_,rfl,rfl⟩:=h ob c;exact⟨_,rfl,by rw[B]⟩|el k i o y h=>have l:k≠e:=(by rintro rfl;simp[SV.dc]at D);refine .el _ i o y λw G=>?_;obtain⟨ob,c,B,rfl⟩:=key k l w G;obtain⟨_,_,_,rfl,S,rfl⟩:=h ob c;exact⟨_,_,_,rfl,S,by rw[B]⟩|mp k y h=>have l:k≠e:=(by rintro rfl;simp[SV.dc]at D);refine .mp _ y λw G=>?_;obtain⟨ob,c,B,rfl⟩:=key k l w G;obtain⟨_,rfl,rfl⟩:=h ob c;exact⟨_,rfl,by rw[B]⟩|clo f a b L T Q X hva W C O=>simp[SV.dc]at D;refine .clo f _ _ L T (by rw[qK];omega) (by rw[qK];omega) (λj u v g n=>?_) (λj u v g n=>?_);rw[vI,ζf]at g;obtain⟨I,z,rfl⟩:=g;exact C j I v z n (vE D.1 z);rw[vI,ζf]at g;obtain⟨I,z,rfl⟩:=g;exact O j I v z n (vE D.2 z)|tup a L Q hva C=>refine .tup _ L (by rw[qK];omega) (λj u v g n=>?_);rw[vI,ζf]at g;obtain⟨I,z,rfl⟩:=g;exact C j I v z n (vE D z)|agg a L Q hva C=>refine .agg _ L (by rw[qK];omega) (λj u v g n=>?_);rw[vI,ζf]at g;obtain⟨I,z,rfl⟩:=g;exact C j I v z n (vE D z)|yl id=>exact .yl id
def Km(r:R ν Z st F H){d e:Nat}(B:d≠e)(Y:st.new e=true):R (xM ν d e) Z {st with g:=Cw d e st.g,m:=wY d e st.m} F H/\Ev Rv ν Z st H (xM ν d e) Z {st with g:=Cw d e st.g,m:=wY d e st.m} H:=by
 have⟨t,J,X,i⟩:=oc Y;have key:∀k w,bn (wY d e st.m) k=some w->∃k0 ob,bn st.m k0=some ob/\w=ob.wG d e/\xM ν d e k=ν k0/\k≠d/\(k=e/\k0=d\/k≠e/\k0=k):=λk w h=>by rw[Ch B J]at h;split at h;simp_all;rename_i a;rw[ζf]at h;obtain⟨ob,z,rfl⟩:=h;by_cases C:k=e;rw[if_pos C]at z;exact⟨d,ob,z,rfl,by unfold xM;grind,a,.inl ⟨C,rfl⟩⟩;rw[if_neg C]at z;exact⟨k,ob,z,rfl,by unfold xM;grind,a,.inr ⟨C,rfl⟩⟩
 have L:∀ob:bN,cK (ob.wG d e)=cK ob:=λob=>by cases ob<;>rfl
 refine⟨⟨λs sv U=>?_,λk w c=>?_,λb l o1 o2 a z D W hp=>?_,λb o1 a D=>?_,r.zrow,r.deep⟩,⟨le_refl _,λ_ _ _ _ _=>rfl,λid h=>⟨h,rfl⟩,?_,λ_ h=>.inl h,?_,rfl⟩⟩;rw[IA,ζf]at U;obtain⟨O,G,rfl⟩:=U;exact dD.wG J (A5 X G) B (r.slot s O G);obtain⟨k0,ob,a,rfl,z,_,_⟩:=key k w c;have o:=r.obj k0 ob a;cases ob with|sl fl es xs=>simp[bN.wG,eP,z]at o⊢;omega|box cs=>have⟨es,Q,g1,g2,g3⟩:=o;have S:=(by have:=AP i a;simpa[bN.dc]using this);refine⟨es,Q,Zac,⟨by rw[qK];exact g2.1,λj u v f n=>?_⟩,g3⟩;rw[vI,ζf]at f;obtain⟨p,I,rfl⟩:=f;exact dD.wG J (vE S I) B (g2.2 j p v I n)|mp aa=>simp[bN.wG,eP,z]at o⊢;omega
 obtain⟨k1,p1,g1,rfl,e1,q,T⟩:=key b o1 a;obtain⟨k2,p2,g2,rfl,e2,x,y⟩:=key l o2 z;rw[L]at D W;have:=r.inj k1 k2 p1 p2 g1 g2 D W Zac;omega;obtain⟨k1,p1,g1,rfl,e1,_⟩:=key b o1 a;rw[L]at D;rw[e1];exact r.apart k1 p1 g1 D;rintro id ⟨k,o,a,z,C⟩;obtain⟨k1,p1,g1,rfl,e1,_⟩:=key k o a;rw[L]at z;exact .inl ⟨k1,p1,g1,z,Zac⟩;intro k c w h;obtain⟨k1,p1,g1,rfl,e1,q,T⟩:=key k w h;rcases T with⟨rfl,_⟩|⟨T,rfl⟩;grind;exact⟨p1,g1,e1,by cases p1<;>simp[bN.wG,sameShape]⟩
def R.say(r:R ν Z st F H){n:Nat}{sv:SV}(h:dD ν st.m H Z sv (get F n)):R ν Z {st with g:=bR st.g n sv} F H where
 slot:=λs x u=>by by_cases e:n=s;subst e;rw[cR]at u;grind;rw[eC st.g sv e]at u;exact r.slot s x u
 obj:=r.obj
 inj:=r.inj
 apart:=r.apart
 zrow:=r.zrow
 deep:=r.deep
def RT(r:R ν Z st F H){n d es:Nat}{k:Fl}{x:V}(a:qc k es []=x/\cV k=false)(D:bn st.g n=some (.v x))(B:st.new d=true)(G:∀y,FR H Z x y->y=x)(J:tZ (ν d) k es 0=x):
 R (jI ν d (ν d)) Z {st with g:=bR st.g n (.own d),m:=bR st.m d (.sl k es [])} F H/\Ev Rv ν Z st H (jI ν d (ν d)) Z {st with g:=bR st.g n (.own d),m:=bR st.m d (.sl k es [])} H:=by
 have u:cK (.sl k es [])=true->False:=by simp[cK,a.2]
 have r1:=r.add B (p:=ν d) (λh=>(u h).elim) (by simp[eP,a.2])
 refine⟨r1.say (.own _ _ λz w=>?_),?_⟩
 .rw[cR]at w;cases w;rw[iJ,G _ (r.slot n _ D).fr]
  grind
 exact(Ev.add B (le_refl _) (λ_ _ _=>rfl) (λ_ _=>rfl) (λh=>(u h).elim)).trans (Ev.slots _)
def Q5(r:R ν Z st F H){b i d es:Nat}{k:Fl}{x:V}{cs:SW}(c:cV k=false)(U:bn st.m b=some (.box cs))(hi:cs[i]?=some (.v x))(D:st.new d=true)(W:∀y,FR H Z x y->y=x)(Y:tZ (ν d) k es 0=x):
 ∃ν',R ν' Z {st with m:=bR (bR st.m d (.sl k es [])) b (.box (cs.set i (.own d)))} F H/\Ev Rv ν Z st H ν' Z {st with m:=bR (bR st.m d (.sl k es [])) b (.box (cs.set i (.own d)))} H:=by
 have B:cK (.sl k es [])=true->False:=by simp[cK,c]
 have r1:=r.add D (p:=ν d) (λh=>(B h).elim) (by simp[eP,c])
 have C:b≠d:=by rintro rfl;rw[(oc D).2.1]at U;cases U
 have z:bn (bR st.m d (.sl k es [])) b=some (.box cs):=by rw[eC _ _ (Ne.symm C)];omega
 have⟨G,I,g,J,Q⟩:=r1.obj b _ z;have l:∀e w,bn (bR (bR st.m d (.sl k es [])) b (.box (cs.set i (.own d)))) e=some w->∃ob,bn (bR st.m d (.sl k es [])) e=some ob/\jI ν d (ν d) e=jI ν d (ν d) e/\sameShape ob w:=λe w h=>by by_cases L:e=b;subst L;rw[cR]at h;cases h;exact⟨_,z,rfl,trivial⟩;rw[eC _ _ (Ne.symm L)]at h;exact⟨w,h,rfl,.refl _⟩
 refine⟨jI ν d (ν d),r1.iC z trivial rfl (λ_ _=>rfl) rfl ⟨G,I,g,⟨by simp[J.1],λj u v a f=>?_⟩,Q⟩,?_⟩
 .rw[getElem?_set]at a;split at a
  .rename_i e;subst e;split at a
   .cases a;refine .own _ _ λw O=>?_
    rw[eC _ _ C,cR]at O;cases O;rw[iJ,W v (J.2 i _ v hi f).fr]
    grind
   grind
  exact(J.2 j u v a f).mono (λid h=>⟨h,rfl⟩) λe _=>l e
 exact(Ev.add D (le_refl _) (λ_ _ _=>rfl) (λ_ _=>rfl) (λh=>(B h).elim)).trans (Ev.iC r1 z trivial rfl (λ_ _=>rfl) rfl (le_refl _))
def Th(r:R ν Z st F H){x:Gh}(h:ghost x st=some st'):∃ν' Z',R ν' Z' st' F H/\Ev Rv ν Z st H ν' Z' st' H:=by cases x with|close d=>have⟨Z',a,b⟩:=KL (Rv:=Rv) r h;grind|closeS l=>simp[ghost]at h;split at h;have⟨Z',a,b⟩:=KL (Rv:=Rv) r h;grind;simp at h;subst h;exact⟨ν,Z,r,.refl⟩;grind|closeB d=>have⟨Z',a,b⟩:=Q1 (Rv:=Rv) r h;grind|keep gs G=>simp[ghost]at h;split at h;(next g m e B=>simp at h;subst h;exact⟨ν,Z,r.less (λs D w=>sD e w) (λd ob hd=>sD B hd),Ev.less (λd ob hd=>sD B hd)⟩);grind|drop ds=>simp[ghost]at h;subst h;exact⟨ν,Z,r.less (λs D w=>qi w) (λd ob hd=>hd),Ev.less (λd ob hd=>hd)⟩|canon l d es=>cases l with|s n=>simp[ghost]at h;split at h;rename_i w;split at h;rename_i u;simp at h;have⟨a,b⟩:=RT (Rv:=Rv) (es:=es) (k:=.nil) r ⟨rfl,rfl⟩ w u (λy h=>h.bM) rfl;grind;grind;rename_i w;split at h;rename_i u;simp at h;have⟨a,b⟩:=RT (Rv:=Rv) (es:=es) (k:=.emp) r ⟨rfl,rfl⟩ w u (λy h=>h.dX) rfl;grind;grind;split at h;simp at h;subst h;exact⟨ν,Z,r,.refl⟩;rename_i z;split at h;rename_i u;simp at h;have⟨a,b⟩:=Km (Rv:=Rv) r z u;grind;grind;split at h;simp at h;subst h;exact⟨ν,Z,r,.refl⟩;rename_i z;split at h;rename_i u;simp at h;have⟨a,b⟩:=Km (Rv:=Rv) r z u;grind;grind;grind|c b i=>simp[ghost]at h;split at h;rename_i cs C;split at h;rename_i w;split at h;rename_i u;simp at h;have⟨ν',a,b⟩:=Q5 (Rv:=Rv) (es:=es) (k:=.nil) r rfl C w u (λy h=>h.bM) rfl;grind;grind;rename_i w;split at h;rename_i u;simp at h;have⟨ν',a,b⟩:=Q5 (Rv:=Rv) (es:=es) (k:=.emp) r rfl C w u (λy h=>h.dX) rfl;grind;grind;split at h;simp at h;subst h;exact⟨ν,Z,r,.refl⟩;rename_i z;split at h;rename_i u;simp at h;have⟨a,b⟩:=Km (Rv:=Rv) r z u;grind;grind;grind;grind
end
structure oU(E:Env)(f:FuncId)(q:Hy):Prop where
 keep:E.keep f=true
 own:E.own f=false
 le:∀es xs vs ys,q.go es xs vs=some ys->ys.length<=xs.length/\(q.part=false->ys.length=xs.length)
 none:∀es vs ys,q.go es [] vs=some ys->∀(H:bp)(Z:Nat->Prop)(ws:List V)(w:V),dK H Z vs ws->(w=.bM\/w=.dX)->∃n X,∀k,n<=k->run E k (.fn f) (w::ws) H=some (if q.part then w else .undef,H++X)
 row:∀es xs vs ys,q.go es xs vs=some ys->∀(H:bp)(Z:Nat->Prop)(ws:List V)(id off:Nat)(rs:List (List V)),dK H Z vs ws->H[id]?=some (.row es rs)->off+xs.length<=rs.length->
  hU H Z xs ((rs.drop off).take xs.length)->xE H Z rs->¬Z id->∃n rs' X,(∀k,n<=k->run E k (.fn f) (.hsl id es off xs.length::ws) H=some (if q.part then .hsl id es off ys.length else .undef,(H++X).set id (.row es rs')))/\
   rs'.length=rs.length/\hU H Z ys ((rs'.drop off).take ys.length)/\xE H Z rs'
section
variable{Rv:Nat->Prop}{ν ν':Nu}{Z Z':Nat->Prop}{st st':St}{m m':Tb bN}{F F':WP}{H H':bp}
def WG{E:Env}{f:Y'}{q:Hy}(i:oU E f q)(r:R ν Z st F H){args:SW}{ys:So}(K:ct ν st.m H Z args ys){dst:a_ Nat}{sv:SV}(h:D7 q dst args st=some (sv,st')):
 ∃n y H' ν',(∀k,n<=k->run E k (.fn f) ys H=some (y,H'))/\R ν' Z st' F H'/\dD ν' st'.m H' Z sv y/\Ev Rv ν Z st H ν' Z st' H'/\Kept dst ν st.m ν' st'.m:=by
 unfold D7 at h;split at h
 .rename_i d vs;obtain⟨w,p,rfl,M,N⟩:=K.inv;split at h
  .rename_i k es xs zs u G;have s:=ct.dG N G;split at h
   .rename_i ns T;have⟨al,P⟩:=i.le _ _ _ _ T;obtain⟨_,_,_,ee,rfl⟩:=M.lM u;cases ee;have grow:∀X:bp,R ν Z st F (H++X)/\Ev Rv ν Z st H ν Z st (H++X)/\∀id,Z id->bt (H++X) id=bt H id:=λX=>by
     have j:∀id,id<H.length->(H++X)[id]?=H[id]?:=λid h=>getElem?_append_left h
     have G:∀id,Z id->bt (H++X) id=bt H id:=λid h=>by unfold bt;rw[j id (r.yw h)]
     exact⟨r.heap (λid h=>j id (r.lt h)) G,Ev.heap Zab (λid h _ _ _=>j id h) G,G⟩
    have o:=r.obj d _ u
    cases a:cV k with
    |false=>
     simp only[eP,a,false_eq_true,if_false]at o;subst o;have hw:tZ (ν d) k es 0=.bM\/tZ (ν d) k es 0=.dX:=by cases k<;>simp[tZ,cV]at a⊢
     have⟨n,X,L⟩:=i.none _ _ _ T H Z p _ s hw;have⟨b,I,U⟩:=grow X;simp only[a,false_eq_true,if_false]at h;split at h
     .rename_i O;split at h
      .rename_i t;split at h
       .rename_i z;simp only[ζa,ζc]at h;obtain⟨rfl,rfl⟩:=h;have r1:R ν Z {st with m:=eR d st.m} F (H++X):=b.less (g:=st.g) (λ_ _ h=>h) l_
        rw[if_pos O]at L;refine⟨n,_,H++X,jI ν t (ν d),L,r1.add z (λl=>by simp[cK,a]at l) (by simp[eP,a]),?_,?_,Kept.add l_⟩
        .refine .own _ _ λah W=>?_
         simp only at W;rw[cR]at W;cases W;exact⟨_,_,_,rfl,by rw[iJ];rfl⟩
        exact I.trans (Ev.re (st:=st) l_ (oc z).1 (le_refl _) (λ_ _ _ _=>rfl) (λ_ _=>rfl) (λl=>by simp[cK,a]at l))
       cases h
      cases h
     rename_i O;simp only[ζa,ζc]at h;obtain⟨rfl,rfl⟩:=h;rw[if_neg O]at L;have hu:bR st.m d (.sl k es [])=st.m:=rC u;rw[hu];exact⟨n,_,H++X,ν,L,b,.v _ _ (.same _ rfl),I,.refl⟩
    |true=>
     simp only[eP,a,if_true]at o;have⟨rs,v,hl,hf,ab,Q⟩:=o;have B:cK (.sl k es xs)=true:=a;have⟨n,C,X,L,e1,e2,e3⟩:=i.row _ _ _ _ T H Z p _ _ rs s v hl hf ab (r.apart d _ u B);have⟨b,I,U⟩:=grow X;have ai:(ν d).1<(H++X).length:=by have:=(ζe.1 v).1;simp;omega
     have G:∀id,Z id->Z id/\bt ((H++X).set (ν d).1 (.row es C)) id=bt H id:=λid D=>⟨D,by
      rw[<-U id D];unfold bt;rw[List.getElem?_set_ne];rintro rfl;exact r.apart d _ u B D⟩
     have x:∀id,Z id->bt ((H++X).set (ν d).1 (.row es C)) id=bt (H++X) id:=λid D=>by rw[(G id D).2,U id D]
     have c:∀id,id≠(ν d).1->((H++X).set (ν d).1 (Ob.row es C))[id]?=(H++X)[id]?:=λid aj=>List.getElem?_set_ne (Ne.symm aj)
     have J:((H++X).set (ν d).1 (Ob.row es C))[(ν d).1]?=some (.row es C):=getElem?_set_self ai;rw[uA a];simp only[a,if_true]at h;split at h
     .rename_i O;split at h
      .rename_i t;split at h
       .rename_i z;simp only[ζa,ζc]at h;obtain⟨rfl,rfl⟩:=h;have r1:R ν Z {st with m:=eR d st.m} F (H++X):=b.less (g:=st.g) (λ_ _ h=>h) l_
        have A:¬gB ν (eR d st.m) (ν d).1:=by rintro⟨k2,o2,g1,g2,g3⟩;have⟨g4,g5⟩:=qg g1;exact g4 (r.inj d k2 _ o2 u g5 B g2 g3.symm)
        have r2:R ν Z {st with m:=eR d st.m} F ((H++X).set (ν d).1 (.row es C)):=r1.heap (λid ho=>c id (by rintro rfl;exact A ho)) x
        rw[if_pos O]at L;refine⟨n,_,_,jI ν t (ν d),L,r2.add z (λ_=>⟨A,r.apart d _ u B⟩) ?_,?_,?_,Kept.add l_⟩
        .simp only[eP,cV,if_true,iJ];exact⟨C,J,Zaa,e2.mono G,e3.mono G,λe=>by cases e⟩
        .refine .own _ _ λah W=>?_
         simp only at W;rw[cR]at W;cases W;exact⟨_,_,_,rfl,by rw[iJ];rfl⟩
        exact I.trans (Ev.re (st:=st) l_ (oc z).1 Zab (λid _ ho _=>c id (by rintro rfl;exact ho ⟨d,_,u,B,rfl⟩)) x (λ_=>.inl ⟨d,_,u,B,rfl⟩))
       cases h
      cases h
     rename_i O;simp only[ζa,ζc]at h;obtain⟨rfl,rfl⟩:=h;rw[if_neg O]at L;have ak:q.part=false:=by simpa using O
     have S:=P ak;have Y:sameShape (.sl k es xs) (.sl k es ns):=⟨rfl,rfl,S⟩;refine⟨n,_,_,ν,L,b.iC u Y rfl c B ?_,.v _ _ (.same _ rfl),I.trans (Ev.iC b u Y rfl c B Zab),Kept.iC u Y⟩
     simp only[eP,a,if_true];exact⟨C,J,Zaa,e2.mono G,e3.mono G,λe=>⟨(Q e).1,by rw[e1,(Q e).2,S]⟩⟩
   cases h
  cases h
 cases h
end
def wU:Nat->SW->Tb SV
 |_,[]=>[]|i,v::vs=>(i,v)::wU (i+1) vs
def start(svs:SW)(B:dO):St:=⟨wU 0 svs,B,B.map (·.1),[],true,0⟩
def j8(S:Sys)(c:cr):Prop:=∀f u w rs z,c f u w=some (rs,z)->∀(ν:Nu)(Z:Nat->Prop)(args:So)(H:bp),(S.E.keep f=true\/H=[])->R ν Z (start u w) args H->ct ν w H Z u args->∃n y H' ν' Z' st' F' B,run S.E n (.fn f) args H=some (y,H')/\y=result B/\st'.m=z/\ct ν' z H' Z' rs B/\R ν' Z' st' F' H'/\Ev (λ_=>False) ν Z (start u w) H ν' Z' st' H'
section
variable{Rv:Nat->Prop}{ν ν':Nu}{Z Z':Nat->Prop}{st st':St}{m m':Tb bN}{F F':WP}{H H' H1:bp}{N:Nat->Y'}
def Tj{k:Fl}{es:Nat}{xs:S'}{d:Nat}(o:eP ν m H Z d (.sl k es xs)):(qc k es xs).good=true:=by
 by_cases a:cV k=true;simp only[eP,a,if_true]at o;have⟨w,_,_,u,_⟩:=o;have e:qc k es xs=.fsl es xs:=by cases k<;>simp[cV]at a<;>rfl
 rw[e];simp only[V.good];exact u.good;cases k<;>simp[cV]at a<;>rfl
mutual
def Rf(D:∀d ob,bn m d=some ob->eP ν m H Z d ob):∀(n:Nat)(sv:SV)(x y:V),shut m n sv=some x->dD ν m H Z sv y->x.good=true
 |n,.v x,z,y,h,r=>by simp only[shut,ζa]at h;subst h;exact r.fr.good|n,.own d,z,y,h,r=>by simp only[shut]at h;split at h;(next k es xs B=>simp only[ζa]at h;subst h;exact Tj (D d _ B));simp at h|0,.ptr d o,z,y,h,r=>by simp[shut]at h|n+1,.ptr d o,z,y,h,r=>by simp only[shut]at h;split at h;rename_i cs B;split at h;rename_i xs U;split at h;simp only[ζa]at h;subst h;have⟨es,G,_,p,_⟩:=D d _ B;simp only[V.good];exact A6 _ (oE D n cs xs G U p);simp at h;simp at h;simp at h|n,.el d i o,z,y,h,r=>by cases n<;>simp[shut]at h|n,.yl id,z,y,h,r=>by cases n<;>simp[shut]at h|n,.mp d,z,y,h,r=>by simp only[shut]at h;split at h;rename_i L B;simp only[ζa]at h;subst h;have⟨w,_,e⟩:=D d _ B;simp only[V.good];refine IE.2 λj u g=>?_;have O:j<w.length:=(by rw[<-e.1];exact(ζe.1 g).1);have⟨⟨_,c⟩,C⟩:=e.2 j u _ g (ζd O);exact⟨kU c,C.good⟩;simp at h|0,.clo f a b,z,y,h,r=>by simp[shut]at h|n+1,.clo f a b,z,y,h,r=>by simp only[shut]at h;split at h;(next Q x2 c C=>simp only[ζa]at h;subst h;obtain⟨S,T,rfl,W,X⟩:=r.lG;simp only[V.good,ζh];exact⟨oE D n a Q S c W,oE D n b x2 T C X⟩);simp at h|0,.tup l,z,y,h,r=>by simp[shut]at h|n+1,.tup l,z,y,h,r=>by simp only[shut]at h;obtain⟨xs,c,rfl⟩:=ζf.1 h;obtain⟨I,rfl,J⟩:=r.sj;simp only[V.good];exact oE D n l xs I c J|0,.agg l,z,y,h,r=>by simp[shut]at h|n+1,.agg l,z,y,h,r=>by simp only[shut]at h;obtain⟨xs,c,rfl⟩:=ζf.1 h;obtain⟨I,rfl,J⟩:=r.jB;simp only[V.good];exact oE D n l xs I c J
def oE(D:∀d ob,bn m d=some ob->eP ν m H Z d ob):∀(n:Nat)(svs:SW)(xs ys:So),dg m n svs=some xs->ct ν m H Z svs ys->V.cM xs=true
 |n,[],xs,ys,h,r=>by simp only[dg,ζa]at h;subst h;rfl|n,sv::svs,xs,ys,h,r=>by simp only[dg]at h;split at h;(next y s a G=>simp only[ζa]at h;subst h;obtain⟨J,B,rfl,r1,r2⟩:=r.inv;simp only[V.cM,ζh];exact⟨Rf D n sv y J a r1,oE D n svs s B G r2⟩);simp at h
end
def Ll{f:V->a_ V}:∀{xs ys:aZ (V×V)},xs.length=ys.length->(∀(j:Nat)u v,xs[j]?=some u->ys[j]?=some v->f v.1=some u.1/\f v.2=some u.2)->m_ f ys=some xs
 |[],[],_,_=>rfl|[],y::ys,h,_=>by simp at h|x::xs,[],h,_=>by simp at h|(a,b)::xs,(c,d)::ys,h,B=>by have⟨e,D⟩:=B 0 _ _ rfl rfl;simp only at e D;simp only[m_,e,D,Ll (xs:=xs) (ys:=ys) (by simpa using h) λj u v g i=>B (j+1) u v (by simpa using g) (by simpa using i)]
def Kb:∀{l:aZ (V×V)}{n:Nat},V.uS n l=true↔∀(j:Nat)u,l[j]?=some u->u.1.lvl n=true/\u.2.lvl n=true
 |[],n=>by simp[V.uS]|(k,x)::l,n=>by simp only[V.uS,ζh,Kb (l:=l)];constructor;rintro⟨b,B⟩ j u a;(cases j with|zero=>simp at a;subst a;exact b|succ j=>exact B j u (by simpa using a));intro h;exact⟨h 0 (k,x) rfl,λj u a=>h (j+1) u (by simpa using a)⟩
def wN{n:Nat}{xs ys:So}(D:jm (borrow n H1) ys=some xs)(B:V.mL ys=true):ys=xs:=by
 have w:=mh (f:=borrow n H1) (xs:=ys) (ys:=ys) rfl λj u v a b=>by rw[a]at b;cases b;exact eT n H1 (qC.1 B j u a)
 rw[D]at w;cases w;rfl
mutual
def Mm{fr:ST}(G:∀d∈fr,∀e ob,bn m e=some ob->ob.dc d=false)(J:∀d ob,bn m d=some ob->d∉fr->eP ν m H1 Z d ob):
 ∀(n:Nat)(sv:SV)(x y:V),shut m n sv=some x->(∀d∈fr,sv.dc d=false)->dD ν m H1 Z sv y->∀k,x.lvl k=true->borrow k H1 y=some x
 |n,.v x,z,y,h,B,r,k,hk=>by simp only[shut,ζa]at h;subst h;exact r.fr.borrow k hk|n,.own d,z,y,h,B,r,k,hk=>by simp only[shut]at h;split at h;rename_i Y es xs D;simp only[ζa]at h;subst h;obtain⟨_,_,_,e,rfl⟩:=r.lM D;cases e;have hd:d∉fr:=λhd=>(by have:=B d hd;simp[SV.dc]at this);have o:=J d _ D hd;by_cases I:cV Y=true;simp only[eP,I,if_true]at o;have⟨ys,g,E,F,_⟩:=o;rw[uA I];have e:qc Y es xs=.fsl es xs:=(by cases Y<;>simp[cV]at I<;>rfl);rw[e]at hk⊢;exact(FR.OR (Z:=λ_=>True) trivial (show bt H1 (ν d).1=some (es,ys)by unfold bt;rw[g];rfl) E (F.mono λid h=>⟨trivial,rfl⟩)).borrow k hk;cases Y<;>simp[cV]at I;exact eT k H1 rfl;exact eT k H1 rfl;simp at h|0,.ptr d o,z,y,h,B,r,k,hk=>by simp[shut]at h|n+1,.ptr d o,z,y,h,B,r,k,hk=>by
  simp only[shut]at h;split at h;rename_i cs D;split at h;rename_i xs q;split at h;rename_i H;simp only[ζa]at h;subst h;obtain⟨_,e,rfl⟩:=r.qI D;cases e;have hd:d∉fr:=λhd=>by have:=B d hd;simp[SV.dc]at this
  have⟨es,L,g,s,_⟩:=J d _ D hd
  cases k with
  |zero=>simp[V.lvl]at hk|succ k=>
   simp only[V.lvl]at hk;have K:∀e∈fr,SV.dW e (cs.drop o)=false:=λe M=>by
    have:=G e M d _ D;simp only[bN.dc]at this
    cases N:SV.dW e (cs.drop o)with
    |false=>rfl|true=>
     exfalso;have:∀{l:SW}{j:Nat},SV.dW e (l.drop j)=true->SV.dW e l=true:=by
      intro l
      induction l with
      |nil=>intro j h;simpa using h|cons a l O=>intro j h;cases j with
       |zero=>simpa using h|succ j=>simp only[SV.dW,or_eq_true];exact .inr (O (by simpa using h))
     rw[this N]at *;simp_all
   have Q:xs.length=cs.length:=by have:∀{l:SW}{r:So},dg m n l=some r->r.length=l.length:=(by intro l;induction l with|nil=>intro r h;simp only[dg,ζa]at h;subst h;rfl|cons a l O=>intro r h;simp only[dg]at h;split at h;(next c S=>simp only[ζa]at h;subst h;simp[O S]);simp at h);exact this q
   have P:dg m n (cs.drop o)=some (xs.drop o):=by have:∀{l:SW}{r:So}{j:Nat},dg m n l=some r->dg m n (l.drop j)=some (r.drop j):=(by intro l;induction l with|nil=>intro r j h;simp only[dg,ζa]at h;subst h;simp[dg]|cons a l O=>intro r j h;have R:=h;simp only[dg]at h;split at h;rename_i c S;simp only[ζa]at h;subst h;(cases j with|zero=>exact R|succ j=>exact O S);simp at h);exact this q
   have hb:=kV G J n (cs.drop o) (xs.drop o) (L.drop o) P K (s.drop o) k hk;unfold borrow;simp only[V.closed,false_eq_true,if_false,g,ζb,Ob.rows,getElem?_cons_zero,if_pos (show o<=L.length by rw[<-s.1,<-Q];exact H),hb,map_some]
  simp at h;simp at h;simp at h
 |n,.el d i o,z,y,h,B,r,k,hk=>by cases n<;>simp[shut]at h|n,.yl id,z,y,h,B,r,k,hk=>by cases n<;>simp[shut]at h|n,.mp d,z,y,h,B,r,k,hk=>by simp only[shut]at h;split at h;rename_i ae D;simp only[ζa]at h;subst h;obtain⟨_,e,rfl⟩:=r.FL D;cases e;have hd:d∉fr:=λhd=>(by have:=B d hd;simp[SV.dc]at this);have⟨T,g,U⟩:=J d _ D hd;(cases k with|zero=>simp[V.lvl]at hk|succ k=>simp only[V.lvl]at hk;unfold borrow;simp only[V.closed,false_eq_true,if_false,g];rw[Ll (xs:=ae) (ys:=T) U.1 λj u v t hv=>?_];rfl;have⟨⟨e1,e2⟩,e3⟩:=U.2 j u v t hv;exact⟨by rw[<-e1];exact eT k H1 (V.mw (kU e2)),e3.borrow k (Kb.1 hk j u t).2⟩);simp at h
 |0,.clo f a b,z,y,h,B,r,k,hk=>by simp[shut]at h|n+1,.clo f a b,z,y,h,B,r,k,hk=>by simp only[shut]at h;split at h;rename_i x1 x2 c S;simp only[ζa]at h;subst h;obtain⟨a',A,rfl,ra,rb⟩:=r.lG;(cases k with|zero=>simp[V.lvl]at hk|succ k=>simp only[V.lvl,ζh]at hk;have C:=kV G J n a x1 a' c (λd hd=>by have:=B d hd;simp only[SV.dc,or_eq_false_iff]at this;exact this.1) ra k hk.1;have W:=kV G J n b x2 A S (λd hd=>by have:=B d hd;simp only[SV.dc,or_eq_false_iff]at this;exact this.2) rb k hk.2;by_cases w:(V.clo f a' A).closed=true;rw[eT _ _ w];simp only[V.closed,ζh]at w;rw[wN C w.1,wN W w.2];unfold borrow;rw[if_neg w];simp only[C,W]);simp at h|0,.tup l,z,y,h,B,r,k,hk=>by simp[shut]at h|n+1,.tup l,z,y,h,B,r,k,hk=>by simp only[shut]at h;obtain⟨xs,c,rfl⟩:=ζf.1 h;obtain⟨X,rfl,p⟩:=r.sj;cases k with|zero=>simp[V.lvl]at hk|succ k=>simp only[V.lvl]at hk;have C:=kV G J n l xs X c (λd hd=>by have:=B d hd;simpa[SV.dc]using this) p k hk;by_cases w:(V.tup X).closed=true;rw[eT _ _ w];simp only[V.closed]at w;rw[wN C w];unfold borrow;rw[if_neg w];simp only[C,map_some]
 |0,.agg l,z,y,h,B,r,k,hk=>by simp[shut]at h|n+1,.agg l,z,y,h,B,r,k,hk=>by simp only[shut]at h;obtain⟨xs,c,rfl⟩:=ζf.1 h;obtain⟨X,rfl,p⟩:=r.jB;cases k with|zero=>simp[V.lvl]at hk|succ k=>simp only[V.lvl]at hk;have C:=kV G J n l xs X c (λd hd=>by have:=B d hd;simpa[SV.dc]using this) p k hk;by_cases w:(V.agg X).closed=true;rw[eT _ _ w];simp only[V.closed]at w;rw[wN C w];unfold borrow;rw[if_neg w];simp only[C,map_some]
def kV{fr:ST}(B:∀d∈fr,∀e ob,bn m e=some ob->ob.dc d=false)(J:∀d ob,bn m d=some ob->d∉fr->eP ν m H1 Z d ob):
 ∀(n:Nat)(svs:SW)(xs ys:So),dg m n svs=some xs->(∀d∈fr,SV.dW d svs=false)->ct ν m H1 Z svs ys->∀k,V.mS k xs=true->jm (borrow k H1) ys=some xs
 |n,[],xs,ys,h,D,r,k,hk=>by simp only[dg,ζa]at h;subst h;rw[r.dh];rfl|n,sv::svs,xs,ys,h,D,r,k,hk=>by simp only[dg]at h;split at h;rename_i y s a U;simp only[ζa]at h;subst h;obtain⟨W,G,rfl,r1,r2⟩:=r.inv;simp only[V.mS,ζh]at hk;have u:=Mm B J n sv y W a (λd hd=>by have:=D d hd;simp only[SV.dW,or_eq_false_iff]at this;exact this.1) r1 k hk.1;have w:=kV B J n svs s G U (λd hd=>by have:=D d hd;simp only[SV.dW,or_eq_false_iff]at this;exact this.2) r2 k hk.2;simp only[jm,u,w];simp at h
end
end
def Tw(n:Nat):V.mS n []=true:=by cases n<;>rfl
def Rq(n:Nat)(x:V)(r:So):V.mS n (x::r)=(V.lvl n x&&V.mS n r):=by cases n<;>rfl
mutual
def Gc:∀{n:Nat}{x:V},V.lvl n x=true->V.lvl (n+1) x=true
 |0,.fsl ..,h=>by simp[V.lvl]at h|0,.fptr ..,h=>by simp[V.lvl]at h|0,.fmap ..,h=>by simp[V.lvl]at h|0,.agg ..,h=>by simp[V.lvl]at h|0,.tup ..,h=>by simp[V.lvl]at h|0,.clo ..,h=>by simp[V.lvl]at h|n+1,.fsl es xs,h=>by simp only[V.lvl]at h⊢;exact ED h|n+1,.fptr cs,h=>by simp only[V.lvl]at h⊢;exact uo h|n+1,.fmap B,h=>by simp only[V.lvl]at h⊢;exact Hi h|n+1,.agg cs,h=>by simp only[V.lvl]at h⊢;exact uo h|n+1,.tup cs,h=>by simp only[V.lvl]at h⊢;exact uo h|n+1,.clo f a b,h=>by simp only[V.lvl,ζh]at h⊢;exact⟨uo h.1,uo h.2⟩|0,.bool _,_|0,.int ..,_|0,.str _,_|0,.ja,_|0,.hG,_|0,.ug,_|0,.dX,_|0,.bM,_|0,.hsl ..,_|0,.hptr ..,_|0,.yld _,_|0,.hmap _,_=>rfl|_+1,.bool _,_|_+1,.int ..,_|_+1,.str _,_|_+1,.ja,_|_+1,.hG,_|_+1,.ug,_|_+1,.dX,_|_+1,.bM,_|_+1,.hsl ..,_|_+1,.hptr ..,_|_+1,.yld _,_|_+1,.hmap _,_=>rfl
def uo:∀{n:Nat}{x:So},V.mS n x=true->V.mS (n+1) x=true
 |n,[],_=>Tw _|n,a::l,h=>by rw[Rq,ζh]at h⊢;exact⟨Gc h.1,uo h.2⟩
def ED:∀{n:Nat}{x:S'},V.qT n x=true->V.qT (n+1) x=true
 |n,[],_=>by simp only[V.qT]|n,a::l,h=>by simp only[V.qT,ζh]at h⊢;exact⟨uo h.1,ED h.2⟩
def Hi:∀{n:Nat}{x:aZ (V×V)},V.uS n x=true->V.uS (n+1) x=true
 |n,[],_=>by simp only[V.uS]|n,(k,v)::l,h=>by simp only[V.uS,ζh]at h⊢;exact⟨⟨Gc h.1.1,Gc h.1.2⟩,Hi h.2⟩
end
def Aa{n m:Nat}(h:n<=m){x:V}(B:V.lvl n x=true):V.lvl m x=true:=by induction h with|refl=>exact B|step _ u=>exact Gc u
def qF{n m:Nat}(h:n<=m){x:So}(B:V.mS n x=true):V.mS m x=true:=by induction h with|refl=>exact B|step _ u=>exact uo u
def Ub{n m:Nat}(h:n<=m){x:S'}(B:V.qT n x=true):V.qT m x=true:=by induction h with|refl=>exact B|step _ u=>exact ED u
def V_{n m:Nat}(h:n<=m){x:aZ (V×V)}(B:V.uS n x=true):V.uS m x=true:=by induction h with|refl=>exact B|step _ u=>exact Hi u
mutual
def Br:∀x:V,∃n,V.lvl n x=true
 |.fsl es xs=>let⟨n,h⟩:=Ka xs;⟨n+1,by simp only[V.lvl];exact h⟩|.fptr cs=>let⟨n,h⟩:=nS cs;⟨n+1,by simp only[V.lvl];exact h⟩|.fmap u=>let⟨n,h⟩:=Nc u;⟨n+1,by simp only[V.lvl];exact h⟩|.agg cs=>let⟨n,h⟩:=nS cs;⟨n+1,by simp only[V.lvl];exact h⟩|.tup cs=>let⟨n,h⟩:=nS cs;⟨n+1,by simp only[V.lvl];exact h⟩|.clo f a b=>let⟨n,h⟩:=nS a;let⟨m,k⟩:=nS b;⟨max n m+1,by simp only[V.lvl,ζh];exact⟨qF (le_max_left _ _) h,qF (le_max_right _ _) k⟩⟩|.bool _|.int ..|.str _|.ja|.hG|.ug|.dX|.bM|.hsl ..|.hptr ..|.yld _|.hmap _=>⟨0,rfl⟩
def nS:∀x:So,∃n,V.mS n x=true
 |[]=>⟨0,by simp only[V.mS]⟩|a::l=>let⟨n,h⟩:=Br a;let⟨m,k⟩:=nS l;⟨max n m,by simp only[V.mS,ζh];exact⟨Aa (le_max_left _ _) h,qF (le_max_right _ _) k⟩⟩
def Ka:∀x:S',∃n,V.qT n x=true
 |[]=>⟨0,by simp only[V.qT]⟩|a::l=>let⟨n,h⟩:=nS a;let⟨m,k⟩:=Ka l;⟨max n m,by simp only[V.qT,ζh];exact⟨qF (le_max_left _ _) h,Ub (le_max_right _ _) k⟩⟩
def Nc:∀x:aZ (V×V),∃n,V.uS n x=true
 |[]=>⟨0,by simp only[V.uS]⟩|(a,b)::l=>let⟨n,h⟩:=Br a;let⟨m,k⟩:=Br b;let⟨q,p⟩:=Nc l;⟨max n (max m q),by simp only[V.uS,ζh];exact⟨⟨Aa Zaa h,Aa Zaa k⟩,V_ Zaa p⟩⟩
end
def kF(E:Env)(call:dQ)(ops:R0)(place:a_ (Nat×Nat))(f:Y')(args:So)(H:bp):a_ (V×bp):=
 if mY E ops place f then
  match place with
  |none=>fM E call f args H|some (_,i)=>if dV ops i then fM E call f args H else none
 else match place with
  |none=>match cw call f args H with
   |some y=>some (y,if y.scalar then H else cT H (c_ (cA call.lv H) args))|none=>none
  |some (b,i)=>match cw call f args (H.take b)with
   |some y=>if y.scalar then some (y,H)else if jM (H.take b) (c_ (cA call.lv (H.take b)) args)then some (y,cT H (c_ (cA call.lv (H.take b)) args))else none|none=>if dV ops i then match cw call f args H with
    |some y=>some (y,if y.scalar then H else cT H (c_ (cA call.lv H) args))|none=>none
    else none
section
variable{Rv:Nat->Prop}{ν ν':Nu}{Z Z':Nat->Prop}{st st':St}{m m':Tb bN}{F F':WP}{H H' H1:bp}{N:Nat->Y'}{S:Sys}{c:cr}
def JE:∀(l:SW)(i s:Nat)(sv:SV),bn (wU i l) s=some sv->∃j,s=i+j/\l[j]?=some sv
 |[],i,s,sv,h=>by simp[wU,bn]at h|x::l,i,s,sv,h=>by simp only[wU,bn]at h;split at h;(next e=>simp only[ζa]at h;subst h;exact⟨0,Zaa,rfl⟩);have⟨j,a,B⟩:=JE l (i+1) s sv h;exact⟨j+1,Zaa,by simpa using B⟩
def zH{svs:SW}{args:So}(h:ct ν m H Z svs args):∀s sv,bn (wU 0 svs) s=some sv->dD ν m H Z sv (get args s):=λs sv u=>by obtain⟨j,rfl,w⟩:=JE svs 0 s sv u;have⟨y,z,r⟩:=h.get w;rw[Nat.zero_add,K8 args j y z];exact r
def zo{az:So}(a:V.cM az=true):R (λ_=>(0,0)) (λ_=>False) (start (az.map .v) []) az []/\ct (λ_=>(0,0)) [] [] (λ_=>False) (az.map .v) az:=by have h:ct (λ_=>(0,0)) [] [] (λ_=>False) (az.map .v) az:=ct.tu (dK.same a);refine⟨⟨zH h,λd ob hd=>by simp[start,bn]at hd,λd w ob u hd=>by simp[start,bn]at hd,λd ob hd=>by simp[start,bn]at hd,λid h=>h.elim,⟨λid es z h=>h.elim⟩⟩,h⟩
def I6{xs ys:So}(h:dK H Z xs ys):((result xs).scalar=true->result ys=result xs)/\(result ys).scalar=(result xs).scalar:=by cases xs with|nil=>rw[h.dh];exact⟨λ_=>rfl,rfl⟩|cons x xs=>obtain⟨y,ys,rfl,a,u⟩:=h.inv;cases xs with|nil=>rw[u.dh];exact a.scalar|cons x2 xs=>obtain⟨w,ys,rfl,z,B⟩:=u.inv;exact FR.scalar (.tup _ _ h.1 h.2)
def Eg(g:j8 S c){f:Y'}{az ys:So}{rs:SW}{m':dO}(i:V.cM az=true)(h:c f (az.map .v) []=some (rs,m'))(J:dg m' 8 rs=some ys):
 ∃n r H2,(∀k,n<=k->run S.E k (.fn f) az []=some (r,H2))/\(∀k,n<=k->borrow k H2 r=some (result ys))/\(result ys).good=true:=by
 have⟨W,r1⟩:=zo i;obtain⟨n,y,H2,ν',Z',st',F',B,m,rfl,X,O,Q,_⟩:=g f _ _ _ _ h _ _ az [] (.inr rfl) W r1;subst X;have C:=oE Q.obj 8 rs ys B J O;have⟨L,T⟩:=nS ys;refine⟨max n (L+1),result B,H2,λk e=>(pY S.E (le_trans (le_max_left ..) e)).go _ _ _ _ m,λk e=>?_,?_⟩
 .have w:=kV (fr:=[]) (λd hd=>by simp at hd) (λd ob hd _=>Q.obj d ob hd) 8 rs _ _ J (λd hd=>by simp at hd) O
  obtain⟨k,rfl⟩:∃j,k=j+1:=⟨k-1,Zaa⟩
  have U:=w k (qF Zaa T)
  have Y:=w (k+1) (qF Zaa T)
  have⟨e1,e2⟩:=jO Y
  cases B with
  |nil=>obtain rfl:=List.eq_nil_of_length_eq_zero e1;exact eT _ H2 rfl|cons z B=>
   cases B with
   |nil=>
    obtain⟨y,rfl⟩:∃y,ys=[y]:=by cases ys with|nil=>simp at e1|cons y l=>cases l with|nil=>exact⟨y,rfl⟩|cons _ _=>simp at e1
    have⟨x,Z,G⟩:=e2 0 y rfl;cases Z;exact G
   |cons z2 B=>
    obtain⟨y,D,l,rfl⟩:∃y D l,ys=y::D::l:=by cases ys with|nil=>simp at e1|cons y l=>cases l with|nil=>simp at e1|cons D l=>exact⟨y,D,l,rfl⟩
    by_cases u:(V.tup (z::z2::B)).closed=true
    .simp only[result];rw[eT _ _ u];simp only[V.closed]at u;rw[wN U u]
    simp only[result];unfold borrow;rw[if_neg u];simp only[U,map_some]
 have:∀{l:So},V.cM l=true->(result l).good=true:=by
  intro l I
  cases l with
  |nil=>rfl|cons a l=>cases l with
   |nil=>simp only[V.cM,ζh]at I;exact I.1|cons b l=>simp only[result,V.good];exact I
 exact this C
def Gx{f:Y'}{args az:So}{y r:V}{H2:bp}{n:Nat}(a:∀k,n<=k->run S.E k (.fn f) az []=some (r,H2))(D:∀k,n<=k->borrow k H2 r=some y)(b:y.good=true){B:Nat}(G:∀k,B<=k->borrows k H args=some az):
 ∀k,max n B<=k->cw (run S.E k) f args H=some y:=λk c=>by
 unfold cw;simp only[pV,G k Zaa,a k Zaa,D k Zaa,V.mw b,if_true]
def tq(B:∀id,Z id->(bt H id).isSome=true){T:ST}{id:Nat}(h:Z id):bt (cT H T) id=bt H id:=by
 have:=B id h;unfold bt at this⊢;rw[jC];cases u:H[id]?with|none=>rw[u]at this;simp at this|some ob=>
  rw[u]at this;simp only[map_some,ζb];by_cases e:id∈T
  .rw[if_pos e];cases ob<;>first|rfl|simp[Ob.rows]at this
  rw[if_neg e]
def vV{T:ST}{id:Nat}(h:id∉T):(cT H T)[id]?=H[id]?:=by rw[jC];cases H[id]?<;>simp[h]
def BA{az:So}{args:SW}{ys:So}(B:∀d ob,bn m d=some ob->eP ν m H Z d ob)(h:dg m 8 args=some az)(r:ct ν m H Z args ys):V.cM az=true:=oE B 8 args az ys h r
def zG{az:So}{args:SW}{ys:So}(r:R ν Z st F H)(B:ct ν st.m H Z args ys)(h:dg st.m 8 args=some az):∃n,∀k,n<=k->borrows k H ys=some az:=
 let⟨n,u⟩:=nS az
 ⟨n,λk a=>kV (fr:=[]) (λd hd=>Zad) (λd ob hd _=>r.obj d ob hd) 8 args az ys h (λd hd=>Zad) B k (qF a u)⟩
def o4{b id:Nat}(h:id<b):bt (H.take b) id=bt H id:=by unfold bt;grind
def O9{b:Nat}{fr:ST}{az:So}{args:SW}{ys:So}(r:R ν Z st F H)(B:ct ν st.m H Z args ys)(h:dg st.m 8 args=some az)
 (G:∀d ob,bn st.m d=some ob->cK ob=true->d∉fr->(ν d).1<b)(D:∀id,Z id->id<b)(a:gF st.m fr args=true):∃n,∀k,n<=k->borrows k (H.take b) ys=some az:=by
 have⟨n,w⟩:=nS az;refine⟨n,λk f=>?_⟩
 unfold gF at a;have c:∀d∈fr,SV.dW d args=false/\uZ d st.m=false:=λd hd=>by grind
 have u:∀id,Z id->Z id/\bt (H.take b) id=bt H id:=λid h=>⟨h,o4 (D id h)⟩
 refine kV (λd hd e ob z=>AP (c d hd).2 z) (λd ob hd C=>?_) 8 args az ys h (λd hd=>(c d hd).1) (B.mono u λe _=>jP ν st.m e) k (qF f w)
 exact eP.mono u rfl (λI=>Zac) (λe _=>jP ν st.m e) (r.obj d ob hd)
def M8(hS:j8 S c){ops:R0}{place:a_ (Nat×Nat)}{dr nw:X'}{fr:ST}(ae:dr=place.isSome)(ab:∀b i,place=some (b,i)->nw=true->dV ops i=true)
 (m:∀b i,place=some (b,i)->(∀d ob,bn st.m d=some ob->cK ob=true->d∉fr->(ν d).1<b)/\∀id,Z id->id<b)
 (r:R ν Z st F H){args:SW}{ys:So}(o:ct ν st.m H Z args ys){f:Y'}(e:mY S.E ops place f=false){az:So}(K:dg st.m 8 args=some az)(a:(!dr||nw)=true\/gF st.m fr args=true)
 {rs:SW}{m':dO}{J:So}(M:c f (az.map .v) []=some (rs,m'))(l:dg m' 8 rs=some J)(U:(result J).scalar=true\/(dG args).isSome=true):
 ∃n H',(∀k,n<=k->kF S.E (run S.E k) ops place f ys H=some (result J,H'))/\R ν Z st F H'/\dD ν st.m H' Z (.v (result J)) (result J)/\Ev Rv ν Z st H ν Z st H':=by
 have hg:=BA r.obj K o;have⟨N,rr,H2,p,h2,P⟩:=Eg hS hg M l;have⟨n2,hb⟩:=zG r o K;have I:=Gx p h2 P hb;generalize hn:max N n2=n at I;have C:=I;have Q:∀k,n<=k->c_ (cA k H) ys=c_ (cA n H) ys:=λk e=>Bc e (hb n Zaa)
 have G:∀{H'},dD ν st.m H' Z (.v (result J)) (result J):=.v _ _ (.same _ P);have D:∀T:ST,(∀id∈T,Z id)->R ν Z st F (cT H T)/\Ev Rv ν Z st H ν Z st (cT H T):=λT X=>
  ⟨r.heap (λid ho=>vV λz=>by obtain⟨d,ob,g1,g2,rfl⟩:=ho;exact r.apart d ob g1 g2 (X _ z)) (λid z=>tq r.zrow z),
   Ev.heap (by rw[lH];grind) (λid _ _ l _=>vV λz=>l (X id z)) (λid z=>tq r.zrow z)⟩
 have L:(dG args).isSome=true->(∀id∈c_ (cA n H) ys,Z id)/\True:=λY=>by
  have⟨xs,Y⟩:=isSome_iff_exists.1 Y;have q:=o.dG Y;exact⟨λid z=>by
   have⟨j,u,s,aa⟩:=rH z;have hj:j<xs.length:=by rw[q.1];grind
   exact FR.cA r.deep n (q.2 j _ u (ζd hj) s) id aa,trivial⟩
 cases place with
 |none=>
  by_cases w:(result J).scalar=true
  .exact⟨n,H,λk B=>by simp[kF,e,C k B,w],r,G,.refl⟩
  obtain⟨X,-⟩:=L (U.resolve_left w);have⟨t,v⟩:=D _ X;exact⟨n,cT H (c_ (cA n H) ys),λk B=>by simp[kF,e,C k B,w,pV,Q k B],t,G,v⟩
 |some bi=>
  have⟨b,i⟩:=bi;have⟨o1,o2⟩:=m b i rfl;have ah:=ae;have g:∀k,cw (run S.E k) f ys (H.take b)=some (result J)->(result J).scalar=false->jM (H.take b) (c_ (cA k (H.take b)) ys)=true/\c_ (cA k H) ys=c_ (cA k (H.take b)) ys:=λk _ ai=>by have⟨xs,Y⟩:=isSome_iff_exists.1 (U.resolve_left Zac);have q:=o.dG Y;have W:∀id,Z id->Z id/\bt (H.take b) id=bt H id:=λid h=>⟨h,o4 (o2 id h)⟩;have hd:Deep (H.take b) Z:=⟨λid es ys l hr c M u s=>by rw[(W id l).2]at hr;have⟨x,Y⟩:=r.deep.row id es ys l hr c M u s;exact⟨x,Y.mono W⟩⟩;have hZ:∀id∈c_ (cA k (H.take b)) ys,Z id:=λid z=>(by have⟨j,u,s,aa⟩:=rH z;have hj:j<xs.length:=(by rw[q.1];grind);exact FR.cA hd k ((q.2 j _ u (ζd hj) s).mono W) id aa);refine⟨?_,vY _ λid z=>o2 id (hZ id z)⟩;unfold jM;rw[all_eq_true];intro id z;have p:=r.zrow id (hZ id z);rw[<-(W id (hZ id z)).2]at p;exact p
  rcases a with a|a
  .have ad:=ab b i rfl Zac
   by_cases w:(result J).scalar=true
   .refine⟨n,H,λk B=>?_,r,G,.refl⟩
    simp[kF,e];split
    next y E=>have:=rQ E;rw[C k B]at this;cases this;simp[w]
    simp[ad,C k B,w]
   obtain⟨X,-⟩:=L (U.resolve_left w);have⟨t,v⟩:=D _ X;refine⟨n,cT H (c_ (cA n H) ys),λk B=>?_,t,G,v⟩
   simp only[kF,e,pV,false_eq_true,if_false];split
   .rename_i y E;have A:=rQ E;rw[C k B]at A;cases A;have⟨f1,f2⟩:=g k E (by simpa using w)
    rw[if_neg w,if_pos f1,<-f2,Q k B]
   simp only[ad,if_true,C k B];rw[if_neg w,Q k B]
  have⟨n3,af⟩:=O9 r o K o1 o2 a;have O:=Gx p h2 P af
  by_cases w:(result J).scalar=true
  .refine⟨max N n3,H,λk B=>?_,r,G,.refl⟩
   simp[kF,e];have:=O k B;simp[this,w]
  obtain⟨X,-⟩:=L (U.resolve_left w);have⟨t,v⟩:=D _ X;refine⟨max n (max N n3),cT H (c_ (cA n H) ys),λk B=>?_,t,G,v⟩
  simp only[kF,e,pV,false_eq_true,if_false];have A:=O k Zaa
  have⟨f1,f2⟩:=g k A (by simpa using w)
  simp only[A];rw[if_neg w,if_pos f1,<-f2,Q k Zaa]
def IQ{α:Type}{k:Nat}{v:α}:∀{ds:ST}{g:Tb α},bn (pL ds g) k=some v->k∉ds
 |[],_,_=>Zab|d::ds,g,h=>by have a:=IQ (ds:=ds) h;have u:=(qg (qi h)).1;grind
def A2:∀{args:SW}{ds:ST},rowsOf args=some ds->∀(j:Nat)u,args[j]?=some u->(∃x,u=.v x)\/∃d,u=.own d/\d∈ds
 |[],_,_,j,u,hu=>Zad|.v x::r,ds,h,j,u,hu=>by cases j with|zero=>grind|succ j=>exact A2 (by simpa[rowsOf]using h) j u Zac
 |.own d::r,ds,h,j,u,hu=>by obtain⟨es,a,rfl⟩:=ζf.1 h;cases j with|zero=>grind|succ j=>rcases A2 a j u Zac with k|⟨w,k1,k2⟩;grind;grind
 |.ptr ..::_,_,h,_,_,_|.el ..::_,_,h,_,_,_|.mp _::_,_,h,_,_,_|.clo ..::_,_,h,_,_,_|.tup _::_,_,h,_,_,_|.agg _::_,_,h,_,_,_|.yl _::_,_,h,_,_,_=>by simp[rowsOf]at h
def yh:∀{args:SW}{ds:ST}{n:Nat}{az:So},rowsOf args=some ds->dg m n args=some az->∀d∈ds,∃ob,bn m d=some ob
 |[],ds,_,_,h,_,d,hd=>by simp[rowsOf]at h;grind|x::r,ds,n,az,h,B,d,hd=>by
  simp[dg]at B;split at B;rotate_left;cases B;rename_i y s a D
  cases x with
  |v x=>exact yh (by simpa[rowsOf]using h) D d hd|own e=>obtain⟨es,g1,rfl⟩:=ζf.1 h;rcases mem_cons.1 hd with rfl|hd;cases n<;>(simp[shut]at a;grind);exact yh g1 D d hd
  |_=>simp[rowsOf]at h
def DJ{H0:bp}(hd:Deep H0 Z)(W:∀d ob,bn m d=some ob->cK ob=true->(H0[(ν d).1]?).isSome=true->eP ν m H0 Z d ob){args:SW}{ys:So}(U:ct ν m H0 Z args ys){ds:ST}(f:rowsOf args=some ds)
 (J:∀d∈ds,∃ob,bn m d=some ob){q id:Nat}(h:id∈c_ (cA q H0) ys):Z id\/∃d ob,d∈ds/\bn m d=some ob/\cK ob=true/\(ν d).1=id/\∃j es off len:Nat,ys[j]?=some (V.hsl id es off len):=by
 have⟨j,y,T,a⟩:=rH h;have X:j<args.length:=by rw[U.1];grind
 have b:=ζd X;have D:=U.2 j _ y b T;rcases A2 f j _ b with⟨x,e⟩|⟨d,e,I⟩
 .rw[e]at D;cases D with|v _ _ Y=>exact .inl (FR.cA hd q Y id a)
 rw[e]at D;have⟨ob,C⟩:=J d I;obtain⟨k,es,G,rfl,rfl⟩:=D.lM C
 by_cases w:cV k=true
 .cases q with
  |zero=>simp[cA]at a|succ q=>
  have L:tZ (ν d) k es G.length=.hsl (ν d).1 es (ν d).2 G.length:=by cases k<;>first|rfl|cases w
  rw[L]at a;have g:cK (.sl k es G)=true:=w
  by_cases z:(H0[(ν d).1]?).isSome=true
  .have o:=W d _ C g z;simp[eP,w]at o;have⟨s,l,_,_,n,_⟩:=o;simp only[cA,V.closed,false_eq_true,if_false,l,mem_cons]at a;rcases a with rfl|a
   .grind
   have⟨i,u,b,O⟩:=rH a;have⟨c,p,Q⟩:=List.mem_flatten.1 (mem_of_getElem? b);have⟨x,r⟩:=n c (mem_of_mem_drop (List.mem_of_mem_take p)) u Q;exact .inl (FR.cA hd q r id O)
  have B:H0[(ν d).1]?=none:=Zac
  simp[cA,V.closed,B]at a
  grind
 have S:(tZ (ν d) k es G.length).closed=true:=by cases k<;>first|rfl|(exact absurd rfl w)
 rw[Kg q H0 S]at a;cases a
theorem WT (hS:j8 S c) {ops:aZ Oper} {place:a_ (Nat×Nat)} {nw:Bool} (W:∀b i,place=some (b,i)->nw=true->dV ops i=true)
 (hold:∀b i,place=some (b,i)->∀id,Z id->id<b)
 (r:R ν Z st F H) {args:aZ SV} {ys:aZ V} (ha:ct ν st.m H Z args ys) {f:FuncId} (hk:S.E.keep f=false) {az:aZ V} (hs:dg st.m 8 args=some az) (ad:(!place.isSome||nw)=true)
 {rs:aZ SV} {m':dO} {J:aZ V} (hc:c f (az.map .v) []=some (rs,m')) (Y:dg m' 8 rs=some J) (U:(result J).scalar=false) {ds:aZ Nat} (hr:rowsOf args=some ds) (aa:∀d∈ds,∃ob,bn st.m d=some ob) :
 ∃n H',(∀k,n<=k->kF S.E (run S.E k) ops place f ys H=some (result J,H'))/\R ν Z { st with m:=pL ds st.m } F H'/\dD ν (pL ds st.m) H' Z (.v (result J)) (result J)/\Ev Rv ν Z st H ν Z { st with m:=pL ds st.m } H':=by
 have hg:=BA r.obj hs ha;obtain⟨n1,rr,H2,h1,h2,h3⟩:=Eg hS hg hc Y;obtain⟨n2,hb⟩:=zG r ha hs;have C:=Gx h1 h2 h3 hb;generalize hn:max n1 n2=n at C;have D:=C;have L:∀k,n<=k->c_ (cA k H) ys=c_ (cA n H) ys:=λk hk=>Bc hk (hb n Zaa)
 have T:∀{H'},dD ν (pL ds st.m) H' Z (.v (result J)) (result J):=.v _ _ (.same _ h3);have B:∀d ob,bn (pL ds st.m) d=some ob->bn st.m d=some ob:=λd ob h=>qi h
 have hT:∀id∈c_ (cA n H) ys,Z id\/∃d ob,d∈ds/\bn st.m d=some ob/\cK ob=true/\(ν d).1=id/\∃j es off len:Nat,ys[j]? = some (V.hsl id es off len):=λid w=>DJ r.deep (λd ob h _ _=>r.obj d ob h) ha hr aa w
 have r2  := r.less (λ_ _ h=>h) B
 have q1  := r2.heap (λid X=>vV λw=>by
  obtain⟨d,ob,g1,g2,rfl⟩:=X;rcases hT _ w with h|⟨d',O,k1,k2,k3,k4,_⟩
  .exact r.apart d ob (B d ob g1) g2 h
  have:=r.inj d' d O ob k2 (B d ob g1) k3 g2 k4;subst this;exact IQ g1 k1) (λid w=>tq r.zrow w)
 have q2:Ev Rv ν Z st H ν Z { st with m:=pL ds st.m } (cT H (c_ (cA n H) ys)):=(Ev.heap (by rw[lH];grind) (λid _ X Y _=>vV λw=>by
  rcases hT _ w with h|⟨d',O,k1,k2,k3,k4,_⟩
  .simp_all
  exact X ⟨d',O,k2,k3,k4⟩) (λid w=>tq r.zrow w)).trans (Ev.less  B)
 cases place with
 | none=>exact⟨n,cT H (c_ (cA n H) ys),λk z=>by simp[kF,mY,hk,D k z,U,pV,L k z],q1,T,q2⟩
 | some bi=>
  obtain⟨b,i⟩:=bi;have o2:=hold b i rfl;have fits:∀k,cw (run S.E k) f ys (H.take b)=some (result J)->jM (H.take b) (c_ (cA k (H.take b)) ys)=true/\c_ (cA k H) ys=c_ (cA k (H.take b)) ys:=λk hi=>by
   have G:∀id,Z id->Z id/\bt (H.take b) id=bt H id:=λid h=>⟨h,o4 (o2 id h)⟩
   have hd:Deep (H.take b) Z:=⟨λid es ys Y hr c hc u hu=>by
    rw[(G id Y).2]at hr;obtain⟨x,hx⟩:=r.deep.row id es ys Y hr c hc u hu;exact⟨x,hx.mono G⟩⟩
   have ae  := ha.mono G λe _=>jP ν st.m e
   have af:∀d ob,bn st.m d=some ob->cK ob=true->((H.take b)[(ν d).1]?).isSome=true->eP ν st.m (H.take b) Z d ob:=λd ob h hb ah=>
    eP.mono G rfl (λ_=>by
     grind) (λe _=>jP ν st.m e) (r.obj d ob h)
   have ab:∀(j:Nat) (y:V),ys[j]? = some y->(borrow k (H.take b) y).isSome=true:=λj y Q=>by
    unfold cw at hi;rw[pV]at hi;split at hi
    .rename_i ai aj;obtain⟨_,hm⟩:=jO aj;have hj:=(ζe.1 Q).1;obtain⟨x,al,am⟩:=hm j _ (ζd (show j<ai.length by omega))
     grind
    cases hi
   have hZ:∀id∈c_ (cA k (H.take b)) ys,id<b/\(bt (H.take b) id).isSome=true:=λid w=>by
    rcases DJ hd af ae hr aa w with h|⟨d,ob,k1,k2,k3,k4,j,es,off,len,Q⟩
    .have:=r.zrow id h
     grind
    have I:=ab j _ Q
    cases k with
    | zero=>simp[borrow,V.closed]at I
    | succ k=>
    simp only[borrow,V.closed,Bool.false_eq_true,if_false]at I;split at I
    next an xs hx=>obtain⟨o,X,_⟩:=ζg.1 hx;have:=(ζe.1 X).1;rw[List.length_take]at this;exact⟨by omega,by unfold bt;rw[hx];rfl⟩
    cases I
   refine⟨?_,vY _ λid w=>(hZ id w).1⟩
   unfold jM;rw[List.all_eq_true];exact λid w=>(hZ id w).2
  refine⟨n,cT H (c_ (cA n H) ys),λk z=>?_,q1,T,q2⟩
  simp only[kF,mY,hk,pV,Bool.false_and,Bool.false_eq_true,if_false];split
  next y Q=>have h9:=rQ Q;rw[D k z]at h9;cases h9;obtain⟨f1,f2⟩:=fits k Q;rw[if_neg (by rw[U];simp),if_pos f1,<-f2,L k z]
  have ak:=W b i rfl (by simpa using ad)
  simp only[ak,if_true,D k z];rw[if_neg (by rw[U];simp),L k z]
def MA{xs ys:S'}(h:hU H Z xs ys)(B:nj xs=true):ys=xs:=by
 refine(List.ext_getElem h.1 λj a z=>?_).symm;have:=h.2 j _ _ (ζd a) (ζd z);have w:=by unfold nj at B;rw[all_eq_true]at B;have:=B _ (List.getElem_mem a);rw[all_eq_true]at this;exact sX.2 λk u b=>this u (mem_of_getElem? b)
 exact(this.scalar.1 w).symm
def E8:∀{B:ST}{os:Tb bN}{g:Tb bN},kY g B=some os->∀k ob,bn os k=some ob->bn g k=some ob
 |[],os,g,h,k,ob,hk=>by simp[kY]at h;subst h;simp[bn]at hk|n::r,os,g,h,k,ob,hk=>by simp only[kY]at h;split at h;rename_i v t a D;cases h;simp only[bn]at hk;split at hk;(next e=>subst e;cases hk;exact a);exact E8 D k ob hk;cases h
def Md{args:SW}{os:dO}(h:handed m args=some os):∀k ob,bn os k=some ob->bn m k=some ob:=E8 h
mutual
def UB{d:Nat}:∀{x:SV},x.dc d=true->d∈x.DL
 |.v _,h=>by simp[SV.dc]at h|.own e,h|.ptr e _,h|.el e _ _,h|.mp e,h=>by simp[SV.dc]at h;simp[SV.DL,h]|.clo _ a b,h=>by simp only[SV.dc,or_eq_true]at h;simp only[SV.DL,mem_append];rcases h with h|h;exact .inl (wO h);exact .inr (wO h)
 |.tup l,h|.agg l,h=>by simp only[SV.dc]at h;simp only[SV.DL];exact wO h|.yl _,h=>by simp[SV.dc]at h
def wO{d:Nat}:∀{l:SW},SV.dW d l=true->d∈SV.tS l
 |[],h=>by simp[SV.dW]at h|x::r,h=>by simp only[SV.dW,or_eq_true]at h;simp only[SV.tS,mem_append];rcases h with h|h;exact .inl (UB h);exact .inr (wO h)
end
def Dx{D:ST}{ob:bN}(h:within D ob=true){e:Nat}(B:ob.dc e=true):e∈D:=by cases ob with|box cs=>unfold within at h;rw[all_eq_true]at h;simpa using h e (wO B)|sl k es w=>simp[bN.dc]at B|mp u=>simp[bN.dc]at B
def EX{D:ST}:∀{l:ST}{a b:Tb bN},AN D m' l a=some b->(∀k∈l,bn b k=bn m' k/\∃ob,bn m' k=some ob/\within D ob=true)/\∀k,k∉l->bn b k=bn a k
 |[],a,b,h=>by simp[AN]at h;grind|d::r,a,b,h=>by simp[AN]at h;split at h;rename_i ob B;split at h;rename_i hp;have⟨g,G⟩:=EX h;refine⟨λk c=>?_,λk c=>?_⟩;by_cases f:k∈r;grind;have e:k=d:=Zac;subst e;exact⟨by rw[G k f,cR,B],ob,B,hp⟩;simp at c;rw[G k c.2,eC _ _ (Ne.symm c.1)];grind;grind
def Jc{l:ST}{a b:Tb bN}(h:mm m' l a=some b):(∀k∈l,bn b k=bn m' k/\∃ob,bn m' k=some ob/\within l ob=true)/\∀k,k∉l->bn b k=bn a k:=EX h
def mem_keys:∀{os:dO}{k:Nat},k∈os.map (·.1)↔∃ob,bn os k=some ob
 |[],k=>by simp[bn]|(d,o)::os,k=>by simp[bn];by_cases e:d=k;simp_all;rw[if_neg e,<-mem_keys];grind
def vN:∀{l:SW}{j:Nat}{u:SV},SV.y8 l=true->l[j]?=some u->u.bare=true
 |[],j,u,h,B=>by simp at B|x::r,j,u,h,B=>by simp only[SV.y8,ζh]at h;cases j with|zero=>simp at B;subst B;exact h.1|succ j=>exact vN h.2 (by simpa using B)
def dD.bare{Z2:Nat->Prop}{sv:SV}{y:V}(r:dD ν m H Z sv y):sv.bare=true->dD ν m H Z2 sv y:=by induction r with|v x y h=>intro z;have z:x.scalar=true:=z;rw[(h.scalar.1 z)];exact .v _ _ (.same _ (kU z))|own d y h=>intro _;exact .own d y h|ptr d o y h=>intro _;exact .ptr d o y h|el d i o y h=>intro _;exact .el d i o y h|mp d y h=>intro _;exact .mp d y h|clo f a b B G C z hva I w D=>intro h;simp only[SV.bare,ζh]at h;exact .clo f a b B G C z (λj u v c e=>w j u v c e (vN h.1 c)) λj u v c e=>D j u v c e (vN h.2 c)|tup a B C hva w=>intro h;exact .tup a B C λj u v c e=>w j u v c e (vN h c)|agg a B C hva w=>intro h;exact .agg a B C λj u v c e=>w j u v c e (vN h c)|yl id=>intro _;exact .yl id
def eP.bare{Z2:Nat->Prop}{d:Nat}{ob:bN}(h:ob.bare=true)(o:eP ν m H Z d ob):eP ν m H Z2 d ob:=by cases ob with|box cs=>have⟨es,w,b,z,B⟩:=o;exact⟨es,w,b,⟨z.1,λj u v a c=>(z.2 j u v a c).bare (vN h a)⟩,B⟩|sl k es D=>cases h|mp C=>cases h
def BN(hS:j8 S c){f:Y'}(ae:S.E.keep f=true)(r:R ν Z st F H){args:SW}{ys:So}(ha:ct ν st.m H Z args ys){os:dO}(hh:handed st.m args=some os)
 {rs:SW}{m':dO}{J:Tb bN}(hc:c f args os=some (rs,m'))(x:mm m' (os.map (·.1)) st.m=some J):
 ∃n H' U Z' G F1 K,(∀k,n<=k->run S.E k (.fn f) ys H=some (result K,H'))/\G.m=m'/\ct U m' H' Z' rs K/\R U Z' G F1 H'/\(∀e ob,bn m' e=some ob->e∉os.map (·.1)->cK ob=true->H.length<=(U e).1)/\
  R ν Z' {st with m:=J} F H'/\Ev Rv ν Z st H ν Z' {st with m:=J} H'/\(∀e ob',bn J e=some ob'->∃ob,bn st.m e=some ob/\ν e=ν e/\sameShape ob ob')/\
  ((∀k∈os.map (·.1),Bw J k=true)->R ν Z {st with m:=J} F H'/\Ev Rv ν Z st H ν Z {st with m:=J} H'):=by
 have u:=Md hh;have ab:=ha.mono (λid h=>⟨h,rfl⟩) λe _ ob' h=>⟨ob',u e ob' h,rfl,.refl _⟩
 have r0:R ν Z (start args os) ys H:=by refine⟨zH ab,λd ob hd=>?_,λd d' ob ob' a B=>r.inj d d' ob ob' (u d ob a) (u d' ob' B),λd ob h=>r.apart d ob (u d ob h),r.zrow,r.deep⟩;exact eP.mono (λid h=>⟨h,rfl⟩) rfl (λ_=>rfl) (λe _ ob' h=>⟨ob',u e ob' h,rfl,.refl _⟩) (r.obj d ob (u d ob hd))
 obtain⟨n,y,H',U,Z',G,F1,K,e1,rfl,rfl,e2,e3,ev⟩:=hS f args os rs m' hc ν Z ys H (.inl ae) r0 ab;have⟨M,b2⟩:=Jc x;have I:∀k ob',k∈os.map (·.1)->bn G.m k=some ob'->∃ob,bn os k=some ob/\U k=ν k/\sameShape ob ob':=λk ob' g h=>ev.pin k g ob' h
 have L:∀id,gB ν os id->gB ν st.m id:=λid⟨k,o,a,B,C⟩=>⟨k,o,u k o a,B,C⟩
 have A:∀ob ob':bN,sameShape ob ob'->cK ob'=cK ob:=λob ob' h=>by cases ob<;>cases ob'<;>simp[sameShape]at h;simp[cK,h.1];rfl;rfl
 have D:∀k ob',bn J k=some ob'->∃ob,bn st.m k=some ob/\sameShape ob ob'/\(k∈os.map (·.1)/\bn G.m k=some ob'/\U k=ν k/\bn os k=some ob/\within (os.map (·.1)) ob'=true\/k∉os.map (·.1)/\ob'=ob):=λk ob' h=>by by_cases g:k∈os.map (·.1);grind;rw[b2 k g]at h;exact⟨ob',h,.refl _,.inr ⟨g,rfl⟩⟩
 have z:∀k ob,k∉os.map (·.1)->bn st.m k=some ob->cK ob=true->H'[(ν k).1]?=H[(ν k).1]?/\¬Z' (ν k).1:=λk ob g h w=>by have ad:¬gB ν os (ν k).1:=(by rintro⟨k2,o2,g1,g2,g3⟩;have:=r.inj k2 k o2 ob (u k2 o2 g1) h g2 w g3;subst this;exact g (mem_keys.2 ⟨o2,g1⟩));have af:=r.lt ⟨k,ob,h,w,rfl⟩;have ah:=r.apart k ob h w;refine⟨ev.same _ af ad ah (λh=>h),λai=>?_⟩;rcases ev.frz _ ai with h|h|h|h;simp_all;exact ad h;omega;omega
 have i:∀e ob',bn J e=some ob'->∃ob,bn st.m e=some ob/\ν e=ν e/\sameShape ob ob':=λe ob' h=>by have⟨ob,a,B,_⟩:=D e ob' h;exact⟨ob,a,rfl,B⟩
 have j:∀e ob,bn G.m e=some ob->e∉os.map (·.1)->cK ob=true->H.length<=(U e).1:=λe ob q aj w=>by rcases ev.own _ ⟨e,ob,q,w,rfl⟩with⟨k,o,a,B,C⟩|h|h;have g:k∈os.map (·.1):=mem_keys.2 ⟨o,a⟩;have⟨_,ob',h4,_⟩:=M k g;have⟨o2,T,Y,l⟩:=I k ob' g h4;have T:bn os k=some o2:=T;have a:bn os k=some o:=a;rw[a]at T;cases T;have:=e3.inj e k ob ob' q h4 w (by rw[A _ _ l];exact B) (by rw[Y];exact C.symm);exact absurd (this▸g) aj;exact h.elim;exact h
 have W:∀b t o1 o2,bn J b=some o1->bn J t=some o2->cK o1=true->cK o2=true->(ν b).1=(ν t).1->b=t:=λb t o1 o2 a B k1 k2 hp=>by have⟨p1,g1,v,_⟩:=D b o1 a;have⟨p2,g2,s2,_⟩:=D t o2 B;exact r.inj b t p1 p2 g1 g2 (by rw[<-A _ _ v];omega) (by rw[<-A _ _ s2];omega) hp
 have O:∀id,id<H.length->¬gB ν st.m id->¬Z id->¬Rv id->H'[id]?=H[id]?:=λid hl ho hz _=>ev.same id hl (λh=>ho (L id h)) hz (λh=>h)
 have X:∀id,gB ν J id->gB ν st.m id\/Rv id\/H.length<=id:=by rintro id ⟨k,o,a,B,C⟩;have⟨ob,g1,v,_⟩:=D k o a;exact .inl ⟨k,ob,g1,by rw[<-A _ _ v];omega,C⟩
 have N:∀id,Z id->Z id/\bt H' id=bt H id:=λid h=>⟨h,(ev.rows id h).2⟩
 refine⟨n,H',U,Z',G,F1,K,λk g=>(pY S.E g).go _ _ _ _ e1,rfl,e2,e3,j,⟨λs sv P=>(r.slot s sv P).mono ev.rows λe _=>i e,λk ob' h=>?_,W,λb o1 a k1=>?_,e3.zrow,e3.deep⟩,⟨ev.len,O,ev.rows,X,?_,λe _=>i e,rfl⟩,i,
  λak=>⟨⟨λs sv P=>(r.slot s sv P).mono N λe _=>i e,λk ob' h=>?_,W,λb o1 a k1=>?_,λid h=>by rw[(ev.rows id h).2];exact r.zrow id h,r.deep.mono λid h=>(ev.rows id h).2⟩,⟨ev.len,O,N,X,λid h=>.inl h,λe _=>i e,rfl⟩⟩⟩
 .obtain⟨ob,a,B,C|⟨C,rfl⟩⟩:=D k ob' h
  .have⟨T,Y,l,q4,q5⟩:=C;refine eP.mono (λid h=>⟨h,rfl⟩) l.symm (λ_=>rfl) (λe q Q B=>?_) (e3.obj k ob' Y)
   have E:=Dx q5 q;have⟨u1,al,p,_⟩:=M e E;rw[u1,p]at B;cases B;have⟨_,_,u4,_⟩:=I e Q E p;exact⟨Q,p,u4.symm,.refl _⟩
  exact eP.mono ev.rows rfl (λw=>(z k ob' C a w).1) (λe _=>i e) (r.obj k ob' a)
 .obtain⟨ob,g1,v,C|⟨C,rfl⟩⟩:=D b o1 a
  .have⟨T,Y,l,q4,q5⟩:=C;rw[<-l];exact e3.apart b o1 Y k1
  exact(z b o1 C g1 k1).2
 .intro id h;rcases ev.frz id h with h|h|h|h
  .exact .inl h
  .exact .inr (.inl (L id h))
  .exact h.elim
  omega
 .obtain⟨ob,a,B,C|⟨C,rfl⟩⟩:=D k ob' h
  .have⟨T,Y,l,q4,q5⟩:=C;have x:=ak k T;unfold Bw at x;rw[h]at x;refine eP.bare (Z:=Z') x (eP.mono (λid h=>⟨h,rfl⟩) l.symm (λ_=>rfl) (λe q Q B=>?_) (e3.obj k ob' Y))
   have E:=Dx q5 q;have⟨u1,al,p,_⟩:=M e E;rw[u1,p]at B;cases B;have⟨_,_,u4,_⟩:=I e Q E p;exact⟨Q,p,u4.symm,.refl _⟩
  exact eP.mono N rfl (λw=>(z k ob' C a w).1) (λe _=>i e) (r.obj k ob' a)
 have⟨ob,g1,v,_⟩:=D b o1 a;exact r.apart b ob g1 (by rw[<-A _ _ v];exact k1)
def Wk(a:j8 S c){f:Y'}(G:S.E.keep f=true)(r:R ν Z st F H){args:SW}{ys:So}(J:ct ν st.m H Z args ys){os:dO}(U:handed st.m args=some os)
 {rs:SW}{m':dO}{D:So}{B:Tb bN}(b:c f args os=some (rs,m'))(W:dG rs=some D)(Y:mm m' (os.map (·.1)) st.m=some B):
 ∃n y H' Z',(∀k,n<=k->run S.E k (.fn f) ys H=some (y,H'))/\R ν Z' {st with m:=B} F H'/\dD ν B H' Z' (.v (result D)) y/\Ev Rv ν Z st H ν Z' {st with m:=B} H'/\∀e ob',bn B e=some ob'->∃ob,bn st.m e=some ob/\ν e=ν e/\sameShape ob ob':=by
 have⟨n,H',O,Z',C,F1,w,e1,_,e2,_,_,g1,g2,g3,_⟩:=BN (Rv:=Rv) a G r J U b Y;refine⟨n,result w,H',Z',e1,g1,?_,g2,g3⟩;have u:=e2.dG W;have:FR H' Z' (result D) (result w):=by cases D with|nil=>rw[u.dh];exact .same _ rfl|cons x z=>obtain⟨y,I,rfl,g1,g2⟩:=u.inv;cases z with|nil=>rw[g2.dh];exact g1|cons x2 z=>obtain⟨Q,L,rfl,g3,g4⟩:=g2.inv;exact .tup _ _ u.1 u.2
 exact .v _ _ this
def zV{ys:So}(h:V.c9 ys=true):(result ys).scalar=true:=by cases ys with|nil=>rfl|cons a l=>cases l with|nil=>simp only[V.c9,ζh]at h;exact h.1|cons b l=>simp[result,V.scalar];omega
def Xt(a:j8 S c){f:Y'}(G:S.E.keep f=true)(r:R ν Z st F H){args:SW}{ys:So}(W:ct ν st.m H Z args ys){os:dO}(Y:handed st.m args=some os)
 {rs:SW}{m':dO}{D:So}{B:Tb bN}(b:c f args os=some (rs,m'))(d:dG rs=some D)(g:mm m' (os.map (·.1)) st.m=some B)(U:V.c9 D=true)(J:∀k∈os.map (·.1),Bw B k=true):
 ∃n H',(∀k,n<=k->run S.E k (.fn f) ys H=some (result D,H'))/\R ν Z {st with m:=B} F H'/\dD ν B H' Z (.v (result D)) (result D)/\Ev Rv ν Z st H ν Z {st with m:=B} H'/\∀e ob',bn B e=some ob'->∃ob,bn st.m e=some ob/\ν e=ν e/\sameShape ob ob':=by
 have⟨n,H',z,Z',u,F1,C,e1,_,e2,_,_,_,_,g3,g4⟩:=BN (Rv:=Rv) a G r W Y b g;have⟨g1,g2⟩:=g4 J;have w:=(e2.dG d).scalar.1 U;subst w;exact⟨n,H',e1,g1,.v _ _ (.same _ (kU (zV U))),g2,g3⟩
def WZ(i:j8 S c){f:Y'}(W:S.E.keep f=true)(r:R ν Z st F H){args:SW}{ys:So}(j:ct ν st.m H Z args ys){os:dO}(l:handed st.m args=some os)
 {rest:SW}{m':dO}{U:So}{B:Tb bN}{e t es:Nat}{k:Fl}{xs:S'}(q:c f args os=some (.own e::rest,m'))(s:dG rest=some U)(v:mm m' (os.map (·.1)) st.m=some B)
 (G:bn m' e=some (.sl k es xs))(J:e∉os.map (·.1))(D:St.new {st with m:=B} t=true):
 ∃n y H' ν' Z',(∀k,n<=k->run S.E k (.fn f) ys H=some (y,H'))/\R ν' Z' {st with m:=bR B t (.sl k es xs)} F H'/\dD ν' (bR B t (.sl k es xs)) H' Z' (CP (.own t::U.map .v)) y/\Ev Rv ν Z st H ν' Z' {st with m:=bR B t (.sl k es xs)} H'/\Kept (some t) ν st.m ν' (bR B t (.sl k es xs)):=by
 obtain⟨n,H',I,Z',aa,F1,ws,e1,rfl,e2,e3,a,g1,g2,g3,_⟩:=BN (Rv:=Rv) i W r j l q v;obtain⟨w,O,rfl,A,E⟩:=e2.inv;have o:=e3.obj e _ G;have Q:cK (.sl k es xs)=true->¬gB ν B (I e).1:=λC=>by rintro⟨k2,o2,g,K,h3⟩;have⟨o3,M,_,X⟩:=g3 k2 o2 g;have T:cK o3=true:=(by cases o3<;>cases o2<;>simp[sameShape]at X;rw[<-K];simp[cK,X.1];rfl;rfl);have ab:=r.lt ⟨k2,o3,M,T,rfl⟩;have:=a e _ G J C;omega
 have N:=g1.add D (ob:=.sl k es xs) (p:=I e) (λC=>⟨Q C,e3.apart e _ G C⟩) (by
  simp only[eP,iJ];exact o)
 have b:dD (jI ν t (I e)) (bR B t (.sl k es xs)) H' Z' (.own t) w:=by refine .own _ _ λu Y=>?_;rw[cR]at Y;cases Y;obtain⟨_,_,_,P,rfl⟩:=A.lM G;cases P;exact⟨_,_,_,rfl,by rw[iJ]⟩
 have⟨n1,n2,n3,n4⟩:=oc D;refine⟨n,result (w::O),H',jI ν t (I e),Z',e1,N,?_,⟨g2.len,g2.same,g2.rows,?_,g2.frz,?_,g2.pins⟩,?_⟩
 .have L:=E.dG s
  cases U with
  |nil=>rw[L.dh];exact b|cons x U=>obtain⟨y,ad,rfl,_,_⟩:=L.inv;exact .tup _ _ (by have:=L.1;simp at this⊢;omega) (ct.cons b (ct.tu L)).2
 .intro id h;rcases G6 h with h|⟨g,rfl⟩
  .exact g2.own id h
  exact .inr (.inr (a e _ G J g))
 .intro d hd u h;have z:d≠t:=λe=>n1 (e▸hd)
  have h:bn (bR B t (.sl k es xs)) d=some u:=h;rw[eC _ _ (Ne.symm z)]at h;have⟨ob,k1,k2,k3⟩:=g2.pin d hd u h;exact⟨ob,k1,by rw[qH _ _ z],k3⟩
 intro d u hd h;have z:d≠t:=λe=>hd (by rw[e])
 rw[eC _ _ (Ne.symm z)]at h;have⟨ob,k1,_,k3⟩:=g3 d u h;exact⟨ob,k1,qH _ _ z,k3⟩
def T0(a:j8 S c){f:Y'}{az:So}{rs:SW}{m':dO}(b:V.cM az=true)(h:c f (az.map .v) []=some (rs,m')):
 ∃n H2 ν' Z' st' F' ys,(∀k,n<=k->run S.E k (.fn f) az []=some (result ys,H2))/\st'.m=m'/\ct ν' m' H2 Z' rs ys/\R ν' Z' st' F' H2:=by
 have⟨u,r1⟩:=zo b;obtain⟨n,y,H2,ν',Z',st',F',w,d,rfl,z,B,C,_⟩:=a f _ _ _ _ h _ _ az [] (.inr rfl) u r1;exact⟨n,H2,ν',Z',st',F',w,λk e=>(pY S.E e).go _ _ _ _ d,z,B,C⟩
def Fi{ys:So}(h:V.c9 ys=true):V.c9 (.bM::ys)=true/\V.c9 (.dX::ys)=true:=by simp[V.c9,V.scalar];grind
def ct.YC{ys:So}(h:V.cM ys=true):ct ν m H Z (ys.map .v) ys:=ct.tu (dK.same h)
def UI(M:j8 S c)(hP:∀f q,S.prm f=some q->oU S.E f q){ops:R0}{place:a_ (Nat×Nat)}{dr nw:X'}{fr:ST}(Y:dr=place.isSome)(U:∀b i,place=some (b,i)->nw=true->dV ops i=true)(aj:∀b i,place=some (b,i)->nw=false->dV ops i=false)
 (l:∀b i,place=some (b,i)->(∀d ob,bn st.m d=some ob->cK ob=true->d∉fr->(ν d).1<b)/\∀id,Z id->id<b)
 (r:R ν Z st F H){args:SW}{ys:So}(K:ct ν st.m H Z args ys){f:Y'}{dst:a_ Nat}{sv:SV}(h:fP S c dst dr (!dr||nw) (gF st.m fr) f args st=some (sv,st')):
 ∃n y H' ν' Z',(∀k,n<=k->kF S.E (run S.E k) ops place f ys H=some (y,H'))/\R ν' Z' st' F H'/\dD ν' st'.m H' Z' sv y/\Ev Rv ν Z st H ν' Z' st' H'/\(dr=true->Z'=Z)/\Kept dst ν st.m ν' st'.m:=by
 unfold fP at h;split at h
 .rename_i g;split at h
  .have C:∀{q:dQ}{y:V}{H':bp},fM S.E q f ys H=some (y,H')->kF S.E q ops place f ys H=some (y,H'):=λ{q y H'}hd=>by
    unfold kF
    cases place with
    |none=>rw[if_pos (by simp[mY,g])];omega|some bi=>
     obtain⟨b,i⟩:=bi;have aK:=Y;have aB:=U b i rfl Zac
     rw[if_pos (by simp[mY,g,aB])]
     grind
   split at h
   .
    rename_i L;split at h
    .rename_i az hs;have hg:=BA r.obj hs K;obtain⟨nb,A⟩:=zG r K hs;split at h
     .rename_i rs m' hc;obtain⟨na,H2,ν2,Z2,st2,F2,E,aC,rfl,e3,e4⟩:=T0 M hg hc;obtain⟨n,aD,aE⟩:∃n,na<=n/\nb<=n:=⟨max na nb,le_max_left ..,le_max_right ..⟩;have e1:=λk(g:n<=k)=>aC k (le_trans aD g)
      have O:∀k,n<=k->∀{o:a_ (V×bp)},(if(result E).scalar then some (result E,H)else
       match result E with
       |.hsl id es off len=>(s6 H.length H2 id es off len).map λ(v,ob)=>(v,H++[ob])|.tup (.hsl id es off len::rest)=>if V.c9 rest then(s6 H.length H2 id es off len).map λ(v,ob)=>(.tup (v::rest),H++[ob])else none|_=>none)=o->fM S.E (run S.E k) f ys H=o:=λk D o P=>by
       unfold fM mj;rw[if_pos L];simp[pV,A k (le_trans aE D),e1 k D];exact P
      have ak:∀G:So,(result G).scalar=true->result E=result G->sv=.v (result G)->st'=st->∃n y H' ν' Z',(∀k,n<=k->kF S.E (run S.E k) ops place f ys H=some (y,H'))/\R ν' Z' st' F H'/\dD ν' st'.m H' Z' sv y/\Ev Rv ν Z st H ν' Z' st' H'/\(dr=true->Z'=Z)/\Kept dst ν st.m ν' st'.m:=by rintro G h1 h2 rfl rfl;exact⟨n,result G,H,ν,Z,λk D=>C (O k D (by rw[h2,if_pos h1])),r,.v _ _ (.same _ (kU h1)),.refl,λ_=>rfl,.refl⟩
      have emp:∀(k:Fl)(es:Nat)(G:So)(rest:SW),V.c9 G=true->∀t,st.new t=true->∀w:V,(k=.nil/\w=.bM\/k=.emp/\w=.dX)->result (w::G)=result E->dst=some t->sv=CP (.own t::G.map .v)->st'={st with m:=bR st.m t (.sl k es [])}->
       ∃n y H' ν' Z',(∀k,n<=k->kF S.E (run S.E k) ops place f ys H=some (y,H'))/\R ν' Z' st' F H'/\dD ν' st'.m H' Z' sv y/\Ev Rv ν Z st H ν' Z' st' H'/\(dr=true->Z'=Z)/\Kept dst ν st.m ν' st'.m:=by
       rintro k es G rest W t Q w hw al rfl rfl rfl;have ad:cV k=false:=by rcases hw with⟨rfl,_⟩|⟨rfl,_⟩<;>rfl
       have s:dD (jI ν t (0,0)) (bR st.m t (.sl k es [])) H Z (.own t) w:=by refine .own _ _ λT h'=>?_;rw[cR]at h';cases h';exact⟨_,_,_,rfl,by rcases hw with⟨rfl,rfl⟩|⟨rfl,rfl⟩<;>rfl⟩
       have am:(result (w::G)).scalar=true:=zV (by rcases hw with⟨_,rfl⟩|⟨_,rfl⟩;exact(Fi W).1;exact(Fi W).2)
       refine⟨n,result (w::G),H,jI ν t (0,0),Z,λk D=>C (O k D (by rw[<-al,if_pos am])),r.add Q (λA=>by simp[cK,ad]at A) (by simp[eP,ad]),?_,
        Ev.add Q (le_refl _) (λ_ _ _=>rfl) (λ_ _=>rfl) (λA=>by simp[cK,ad]at A),λ_=>rfl,Kept.add λ_ _ h=>h⟩
       cases G with
       |nil=>exact s|cons z G=>exact .tup _ _ Zab (ct.cons s (ct.YC (rO W))).2
      split at h
      .rename_i G J;split at h
       next W=>simp at h;exact ak G W ((I6 (e3.dG J)).1 W) h.1.symm h.2.symm
       simp at h
      split at h
      .rename_i e rest t _;obtain⟨w,E,rfl,g1,g2⟩:=e3.inv;split at h
       .
        rename_i es xs G X J;split at h
        .rename_i B;simp at B;obtain⟨⟨c1,N⟩,Q⟩:=B;simp at h;obtain⟨rfl,rfl⟩:=h;have o:=e4.obj e _ X;simp only[eP,if_true]at o;obtain⟨rows,hr,aL,hf,aJ,an⟩:=o;obtain⟨q1,q2⟩:=an trivial;have ae:=by
          have:=MA hf N;rw[q1,drop_zero,<-q2,take_length]at this;exact this
         subst ae;obtain⟨_,_,_,ee,rfl⟩:=g1.lM X;cases ee;have I:=(g2.dG J).scalar.1 c1;subst I;have ao:s6 H.length H2 (ν2 e).1 es 0 rows.length=some (.hsl H.length es 0 rows.length,.row es rows):=by unfold s6;rw[hr];simp only[true_and];rw[if_pos];rw[all_eq_true];intro x hx;unfold nj at N;rw[all_eq_true]at N;exact N x hx
         have hH:∀id,id<H.length->(H++[Ob.row es rows])[id]?=H[id]?:=λid hl=>getElem?_append_left hl
         have ap:∀id,Z id->bt (H++[Ob.row es rows]) id=bt H id:=λid J=>by unfold bt;rw[hH id (r.yw J)]
         have r2:=r.heap (λid P=>hH id (r.lt P)) ap
         have aq:V.oO rows=true:=by refine mz.2 λj u hu=>?_;unfold nj at N;rw[all_eq_true]at N;have:=N u (mem_of_getElem? hu);rw[all_eq_true]at this;exact iS.2 λi v hv=>kU (this v (mem_of_getElem? hv))
         have hR:=r2.add (ob:=.sl .row es rows) (p:=(H.length,0)) Q (λ_=>⟨λP=>absurd (r.lt P) Zab,λJ=>absurd (r.yw J) Zab⟩) (by
          simp only[eP,iJ];refine⟨rows,Zab,Zab,?_,(hU.same aq).Jn,λ_=>⟨trivial,rfl⟩⟩
          rw[drop_zero,take_length];exact hU.same aq)
         have s:dD (jI ν t (H.length,0)) (bR st.m t (.sl .row es rows)) (H++[Ob.row es rows]) Z (.own t) (.hsl H.length es 0 rows.length):=by refine .own _ _ λT h'=>?_;rw[cR]at h';cases h';exact⟨_,_,_,rfl,by simp[tZ,iJ]⟩
         have ar:Ev Rv ν Z st H (jI ν t (H.length,0)) Z {st with m:=bR st.m t (.sl .row es rows)} (H++[Ob.row es rows]):=Ev.add Q Zab (λid hl _=>hH id hl) ap (λ_=>.inr (le_refl _))
         have au:tZ (ν2 e) Fl.row es rows.length=.hsl (ν2 e).1 es 0 rows.length:=by simp[tZ,q1]
         rw[au]at O
         cases rest with
         |nil=>
          have:=by simp only[dG,ζa]at J;exact J.symm
          subst this;refine⟨n,_,_,_,Z,λk D=>C (O k D ?_),hR,s,ar,λ_=>rfl,Kept.add λ_ _ h=>h⟩
          simp[result,V.scalar,ao]
         |cons x2 rest=>
          have aF:∃w2 af,E=w2::af:=by have:=g2.1;cases E with|nil=>simp at this|cons a b=>exact⟨a,b,rfl⟩
          obtain⟨w2,af,rfl⟩:=aF;refine⟨n,_,_,_,Z,λk D=>C (O k D (o:=some (.tup (.hsl H.length es 0 rows.length::w2::af),H++[Ob.row es rows])) ?_),hR,?_,ar,λ_=>rfl,Kept.add λ_ _ h=>h⟩
          .simp only[result,V.scalar,V.c9,Bool.false_and,false_eq_true,if_false];have aG:=by simpa[V.c9]using c1
           simp[aG,ao]
          exact .tup _ _ Zab (ct.cons s (ct.YC (rO c1))).2
        simp at h
       .rename_i es xs G X J;split at h
        next B=>simp at B;simp at h;obtain⟨rfl,rfl⟩:=h;obtain⟨_,_,_,ee,rfl⟩:=g1.lM X;cases ee;have I:=(g2.dG J).scalar.1 B.1;subst I;exact emp .nil es E rest B.1 _ B.2 .bM Zab rfl rfl rfl rfl
        simp at h
       .rename_i es xs G X J;split at h
        next B=>simp at B;simp at h;obtain⟨rfl,rfl⟩:=h;obtain⟨_,_,_,ee,rfl⟩:=g1.lM X;cases ee;have I:=(g2.dG J).scalar.1 B.1;subst I;exact emp .emp es E rest B.1 _ B.2 .dX Zab rfl rfl rfl rfl
        simp at h
       simp at h
      simp at h
     grind
    grind
   rename_i L;split at h
   .rename_i q hq;split at h
    .simp at h
    rename_i hd;obtain⟨n,y,H',ν',e1,e2,e3,e4,e5⟩:=WG (hP f q hq) r K h;exact⟨n,y,H',ν',Z,λk D=>C (by unfold fM;rw[if_neg L];exact e1 k D),e2,e3,e4,λh=>absurd h hd,e5⟩
   split at h
   .rename_i os hh;split at h
    .rename_i rs m' hc;split at h
     .rename_i G m2 J A;split at h
      .simp at h
      rename_i aa;simp at h;obtain⟨rfl,rfl⟩:=h
      cases av:dr with
      |false=>obtain⟨n,y,H',Z',e1,e2,e3,e4,e5⟩:=Wk M g r K hh hc J A;exact⟨n,y,H',ν,Z',λk D=>C (by unfold fM;rw[if_neg L];exact e1 k D),e2,e3,e4,(λh=>nomatch h),λe T _=>e5 e T⟩|true=>
       rw[av]at aa;have jy:V.c9 G=true/\∀k∈os.map (·.1),Bw m2 k=true:=by simp only[Bool.true_and,not_eq_true',Bool.not_eq_false,ζh,all_eq_true]at aa;refine⟨aa.1,λk g=>?_⟩;obtain⟨x,hx,rfl⟩:=List.mem_map.1 g;exact aa.2 x hx
       obtain⟨n,H',e1,e2,e3,e4,e5⟩:=Xt (Rv:=Rv) M g r K hh hc J A jy.1 jy.2;exact⟨n,_,H',ν,Z,λk D=>C (by unfold fM;rw[if_neg L];exact e1 k D),e2,e3,e4,λ_=>rfl,λe T _=>e5 e T⟩
     .rename_i m2 J A;split at h
      .simp at h
      rename_i hd;split at h
      .rename_i e rest t;split at h
       .rename_i k es xs G he aH;split at h
        next B=>simp only[ζh,not_eq_true',List.contains_eq_mem,decide_eq_false_iff_not]at B;simp only[ζa,ζc]at h;obtain⟨rfl,rfl⟩:=h;obtain⟨n,y,H',ν',Z',e1,e2,e3,e4,e5⟩:=WZ M g r K hh hc aH A he B.1 B.2;exact⟨n,y,H',ν',Z',λk D=>C (by unfold fM;rw[if_neg L];exact e1 k D),e2,e3,e4,λh=>absurd h hd,e5⟩
        simp at h
       simp at h
      simp at h
     simp at h
    simp at h
   simp at h
  rename_i ab;split at h
  .rename_i ah;simp only[ζh]at ah;have ai:mY S.E ops place f=false:=by
    simp only[Bool.not_eq_true,or_eq_false_iff,Bool.not_eq_false']at ab
    cases place with
    |none=>rw[Y]at ab;simp at ab|some bi=>simp[mY,g,ah.1,aj _ _ rfl ab.2]
   split at h
   .rename_i az hs;split at h
    .rename_i rs m' hc;split at h
     .rename_i G J;split at h
      next B=>simp only[or_eq_true]at B;simp at h;obtain⟨rfl,rfl⟩:=h;obtain⟨n,H',e1,e2,e3,e4⟩:=M8 M Y U l r K ai hs (.inr ah.2) hc J B;exact⟨n,_,H',ν,Z,e1,e2,e3,e4,λ_=>rfl,.refl⟩
      simp at h
     simp at h
    simp at h
   simp at h
  simp at h
 rename_i g;have aw:S.E.keep f=false:=by simpa using g
 have ai:mY S.E ops place f=false:=by unfold mY;rw[aw];rfl
 split at h
 .rename_i az hs;split at h
  .rename_i hl;split at h
   .rename_i rs m' hc;split at h
    .rename_i G J;split at h
     .rename_i B;simp only[or_eq_true]at B;simp at h;obtain⟨rfl,rfl⟩:=h;obtain⟨n,H',e1,e2,e3,e4⟩:=M8 M Y U l r K ai hs (by simpa using hl) hc J B
      exact⟨n,_,H',ν,Z,e1,e2,e3,e4,λ_=>rfl,.refl⟩
     rename_i ax;split at h
     .rename_i aI;obtain⟨ds,ay,e⟩:=ζf.1 h;simp at e;obtain⟨rfl,rfl⟩:=e;have aA:(result G).scalar=false:=by
       cases hq:(result G).scalar with
       |false=>rfl|true=>exact absurd (by simp[hq]) ax
      obtain⟨n,H',e1,e2,e3,e4⟩:=WT M U (λb i hp=>(l b i hp).2) r K aw hs (by rw[<-Y];exact aI) hc J aA ay (yh ay hs)
      exact⟨n,_,H',ν,Z,e1,e2,e3,e4,λ_=>rfl,λe T _ h=>⟨T,qi h,rfl,.refl _⟩⟩
     simp at h
    simp at h
   simp at h
  simp at h
 simp at h
end
structure CX where
 E:Env
 nm:FuncId->Option Nat
 nt:Nat
def D0(ops:R0)(o:Oper):a_ (a_ (Nat×X')):=
 match o.guard with
 |none=>some none|some (j,b)=>((ops[j]?).bind (·.dst)).map λd=>some (d,b)
def AE(a:Nat):a_ Nat->X'
 |none=>true|some d=>decide (d<a)
def zJ(B:X')(ops:R0)(i:Nat)(k:K)(os:aZ UV):K×aZ UV×X':=
 if B&& !dV ops i then match k,os,CB ops i with
  |.l (.store n),.tmp u::w,some (a,l)=>if u=a then(.l (.storeF n),(.tmp u::w)++l.map .tmp,true)else(k,os,false)|.l (.append n),os,_=>if za ops i then(.e n,os,true)else(k,os,false)|.r (.load n ag),[.tmp u],_=>if(rm ops i u).isEmpty then(k,os,false)else(.r (.loadF n ag),.tmp u::(rm ops i u).map .tmp,false)|_,_,_=>(k,os,false)
 else(k,os,B&&dV ops i)
def Fa(B:X')(ops:R0)(i:Nat)(k:K)(os:aZ UV):(zJ B ops i k os=(k,os,B&&dV ops i)/\∀n ag a',B=true->dV ops i=false->k=.r (.load n ag)->os=[.tmp a']->rm ops i a'=[])\/
 (B=true/\dV ops i=false/\∃n a l D,k=.l (.store n)/\os=.tmp a::D/\CB ops i=some (a,l)/\zJ B ops i k os=(.l (.storeF n),os++l.map .tmp,true))\/
 (B=true/\dV ops i=false/\∃n ag a,k=.r (.load n ag)/\os=[.tmp a]/\zJ B ops i k os=(.r (.loadF n ag),.tmp a::(rm ops i a).map .tmp,false))\/
 (B=true/\dV ops i=false/\za ops i=true/\∃n,k=.l (.append n)/\zJ B ops i k os=(.e n,os,true)):=by
 unfold zJ;split
 .rename_i h;simp only[ζh,not_eq_true']at h;split
  .rename_i n a' D a l hk;split
   next e=>subst e;refine .inr (.inl ⟨h.1,h.2,n,a',l,D,rfl,rfl,hk,?_⟩);simp only[zJ,h.1,h.2,hk,Bool.not_false,Bool.and_self,if_true]
   exact .inl ⟨by rw[h.2,Bool.and_false],λn ag a' _ _ e=>by cases e⟩
  .rename_i n;split
   next C=>refine .inr (.inr (.inr ⟨h.1,h.2,C,n,rfl,rfl⟩))
   exact .inl ⟨by rw[h.2,Bool.and_false],λn ag a' _ _ e=>by cases e⟩
  .rename_i n ag a';split
   .rename_i G;refine .inl ⟨by rw[h.2,Bool.and_false],λn ag a2 _ _ _ e=>?_⟩
    simp only[List.cons.injEq,Operand.tmp.injEq,and_true]at e;subst e;simpa using G
   exact .inr (.inr (.inl ⟨h.1,h.2,n,ag,a',rfl,rfl,rfl⟩))
  rename_i u w z;refine .inl ⟨by rw[h.2,Bool.and_false],λn ag a2 _ _ e1 e2=>?_⟩
  first|exact(z _ _ _ e1 e2).elim|exact(z _ _ _ _ e1 e2 rfl).elim|exact(u _ _ _ e1 e2).elim|exact(w _ _ _ e1 e2).elim|exact(u _ _ _ _ e1 e2 rfl).elim|exact(w _ _ _ _ e1 e2 rfl).elim
 rename_i h;refine .inl ⟨rfl,λn ag a2 hd I _ _=>?_⟩
 rw[hd,I]at h;exact absurd rfl h
def pK(X:CX)(B:X')(ops:R0)(i:Nat)(o:Oper):a_ RO:=
 if AE X.nt o.dst then
  match D0 ops o,resolve X.E X.nm o.op with
  |some gd,some (k,os)=>if CH k then if B&&EU X.E ops i then match k,o.op with
   |.a (.makeSl size zero),.makeSlice ..=>(os.mapM (qQ X.nm)).map λaz=>⟨o.dst,gd,false,.p (.makeC size zero),az,[],[]⟩|.a (.buildSl size len zero idx),.buildSlice ..=>if size≠0/\len=0/\idx=[]then(os.mapM (qQ X.nm)).map λaz=>⟨o.dst,gd,false,.p .emptyC,az,[],[]⟩else(os.mapM (qQ X.nm)).map λaz=>⟨o.dst,gd,false,.p (.buildC size len zero idx),az,[],[]⟩|_,_=>none
   else((zJ B ops i k os).2.1.mapM (qQ X.nm)).map λaz=>⟨o.dst,gd,(zJ B ops i k os).2.2,(zJ B ops i k os).1,az,[],[]⟩else none
  |_,_=>none
 else none
def FX{E:Env}{N:Nat->Y'}{F:WP}{op:Op}{ys:So}{size:Nat}{zero:So}{y:V}(D:∃t l c,op=.buildSlice t l c)(h:Dd E N F op ys (.a (.buildSl size 0 zero [])))(G:size≠0)(B:bq N .emptyC ys=some y):qW E F op=some y:=by
 obtain⟨t,l,c,rfl⟩:=D;have⟨g1,g2⟩:=h;unfold bq at B;split at B<;>first|(rename_i e;cases e;done)|skip
 simp only[ζa]at B;subst B;have u:=g2 _ (show jg (.buildSl size 0 zero []) []=some (.row size [],.sl size 0)by simp[jg,fW]);unfold qW;rw[u];simp[G];cases B
def Ci{es:Nat}:∀{vs:aZ (Nat×V)}{xs ys:S'},fW es xs vs=some ys->ys.length=xs.length
 |[],xs,ys,h=>by simp only[fW,ζa]at h;rw[h]|(i,v)::r,xs,ys,h=>by simp only[fW]at h;split at h;have:=Ci h;simpa using this;cases h
def E0{E:Env}{N:Nat->Y'}{F:WP}{op:Op}{ys:So}{size len:Nat}{zero:So}{idx:ST}{y:V}(D:∃t l c,op=.buildSlice t l c)(h:Dd E N F op ys (.a (.buildSl size len zero idx)))(B:bq N (.buildC size len zero idx) ys=some y):qW E F op=some y:=by
 obtain⟨t,l,c,rfl⟩:=D;have⟨g1,g2⟩:=h;simp only[bq]at B;split at B;rename_i a;split at B;rename_i z u;split at B;rename_i C;have G:len=z.length:=by have:=Ci u;rw[this];simp
 have w:=g2 _ (show jg (.buildSl size len zero idx) ys=some (.row size z,.sl size len)by simp only[jg,if_pos a.2,u,map_some]);unfold qW;rw[w];simp only;rw[if_pos ⟨trivial,G,C.2⟩,C.1];exact B;cases B;cases B;cases B
def FC{E:Env}{N:Nat->Y'}{F:WP}{op:Op}{ys:So}{size:Nat}{zero:So}{y:V}(D:∃t l c,op=.makeSlice t l c)(h:Dd E N F op ys (.a (.makeSl size zero)))(B:bq N (.makeC size zero) ys=some y):qW E F op=some y:=by
 obtain⟨t,l,c,rfl⟩:=D;have⟨g1,g2⟩:=h;unfold bq at B;split at B<;>first|(rename_i e;cases e;done)|skip
 rename_i k n I m e;cases e;split at B;rename_i c;obtain⟨rfl,rfl,w,rfl,z,C⟩:=c;have u:=g2 _ (show jg (.makeSl size zero) [.int .i64 n,.int .i64 n]=some (.row size (replicate n.toNat zero),.sl size n.toNat)by simp only[jg,w,z,Int.le_refl,and_self,if_true]);unfold qW;rw[u];simp only;rw[if_pos (by refine⟨by trivial,Zab,all_eq_true.2 λx G=>by rw[List.eq_of_mem_replicate G];exact C⟩),<-B];cases B;cases B
def Gb{X:CX}{dr:X'}{ops:R0}{i:Nat}{o:Oper}{ro:RO}(a:pK X dr ops i o=some ro):AE X.nt o.dst=true/\∃g now k az,D0 ops o=some g/\ro=⟨o.dst,g,now,k,az,[],[]⟩:=by
 unfold pK at a;split at a
 .rename_i hd;split at a
  .rename_i g k os hg hr;split at a;(·(repeat' split at a)<;>first|(cases a;done)|(obtain⟨az,u,rfl⟩:=ζf.1 a;exact⟨hd,_,_,_,_,hg,rfl⟩));cases a
  cases a
 cases a
structure Good(X:CX)(S:Sys):Prop where
 E:X.E=S.E
 N:∀f s,X.nm f=some s->S.N s=f
 prm:∀f q,S.prm f=some q->oU S.E f q
section
variable{Rv:Nat->Prop}{ν ν':Nu}{Z Z':Nat->Prop}{st st':St}{m m':Tb bN}{F F':WP}{H H' H1:bp}{S:Sys}{c:cr}{X:CX}
def Old(b:Nat)(fr:ST)(ν:Nu)(Z:Nat->Prop)(m:Tb bN):Prop:=(∀d ob,bn m d=some ob->cK ob=true->d∉fr->(ν d).1<b)/\∀id,Z id->id<b
def pQ{fr:ST}:∀{svs:SW},fL fr svs=true->∀d∈fr,SV.dW d svs=false
 |[],_,d,_=>rfl|.v _::r,h,d,hd=>(pQ (svs:=r) (by simpa[fL]using h) d hd)|.ptr e _::r,h,d,hd=>by simp[fL,not_eq_true']at h;simp[SV.dW,SV.dc];exact⟨λe=>h.1 (e▸hd),pQ h.2 d hd⟩|.el e _ _::r,h,d,hd=>by simp[fL,not_eq_true']at h;simp[SV.dW,SV.dc];exact⟨λe=>h.1 (e▸hd),pQ h.2 d hd⟩|.mp e::r,h,d,hd=>by simp[fL,not_eq_true']at h;simp[SV.dW,SV.dc];exact⟨λe=>h.1 (e▸hd),pQ h.2 d hd⟩|.own _::r,h,_,_=>by simp[fL]at h|.clo ..::r,h,_,_=>by simp[fL]at h|.tup _::r,h,_,_=>by simp[fL]at h|.agg _::r,h,_,_=>by simp[fL]at h|.yl _::r,h,_,_=>by simp[fL]at h
def E5(S:Sys)(ops:R0)(place:a_ (Nat×Nat))(dr:X')(F:WP)(op:Op)(dst:a_ Nat)(ν:Nu)(Z:Nat->Prop)(st:St)(H:bp)(sv:SV)(st':St):Prop:=∃n y H' ν' Z',(∀k,n<=k->dN S.E (run S.E k) ops place F H op=some (y,H'))/\R ν' Z' st' F H'/\dD ν' st'.m H' Z' sv y/\Ev (λid=>∃b j,place=some (b,j)/\id=b+j) ν Z st H ν' Z' st' H'/\(dr=true->Z'=Z/\Kept dst ν st.m ν' st'.m)
def AU{E:Env}{F:WP}{H:bp}{place:a_ (Nat×Nat)}{op:Op}{v:V}(h:bU E F op=some v):uL E F H place op=some v:=by unfold uL;rw[h]
def BP:∀{xs ys:S'}{l:R'},hU H Z xs ys->mX xs=some l->mX ys=some l
 |[],ys,l,h,B=>by have:=h.1;have:ys=[]:=List.eq_nil_of_length_eq_zero (by simpa using this.symm);subst this;exact B|x::xs,[],l,h,B=>by have:=h.1;simp at this|x::xs,y::ys,l,h,B=>by unfold mX at B;split at B;(next e=>cases e);rename_i n r e;cases e;obtain⟨k,c,rfl⟩:=ζf.1 B;have d:=h.2 0 _ y rfl rfl;obtain⟨u,z,rfl,p1,p2⟩:=d.inv;rw[p2.dh,p1.int];have:=BP (xs:=xs) (ys:=ys) ⟨by have:=h.1;simpa using this,λj a b w B=>h.2 (j+1) a b w B⟩ c;simp only[mX,this,map_some];cases B
def RB(gd:Good X S){ops:R0}{place:a_ (Nat×Nat)}{dr:X'}{op:Op}{dst:a_ Nat}{p:wE}{svs:SW}{ys:So}(a:CH (.p p)=true)(r:R ν Z st F H)(rs:ct ν st.m H Z svs ys)
 (B:Dd X.E S.N F op ys (.p p)){sv:SV}(h:(kr S.N st.m p svs).map (λx=>(x,st))=some (sv,st')):E5 S ops place dr F op dst ν Z st H sv st':=by
 have⟨x,w,e⟩:=ζf.1 h;obtain⟨rfl,rfl⟩:=e;have⟨y,z,u⟩:=JL (λzero pl e=>by subst e;simpa[CH]using a) r.obj rs w
 have⟨b,C⟩:=B;exact⟨0,y,H,ν,Z,λq _=>by unfold dN;rw[b];simp only[<-gd.E,AU (C y z),map_some],r,u,.refl,λ_=>⟨rfl,.refl⟩⟩
def B0(gd:Good X S){ops:R0}{place:a_ (Nat×Nat)}{dr:X'}{op:Op}{p:wE}{svs:SW}{ys:So}(hp:∀zero pl,p≠.build zero pl)(B:dF op=.alloc)(D:tw X.E ops place=true)(G:∀y,bq S.N p ys=some y->qW X.E F op=some y)
 (r:R ν Z st F H)(rs:ct ν st.m H Z svs ys){sv:SV}(h:(kr S.N st.m p svs).map (λx=>(x,st))=some (sv,st')):E5 S ops place dr F op none ν Z st H sv st':=by
 have⟨x,w,e⟩:=ζf.1 h;simp only[ζc]at e;obtain⟨rfl,rfl⟩:=e;have⟨y,z,u⟩:=JL (N:=S.N) (λzero pl e=>absurd e (hp zero pl)) r.obj rs w
 refine⟨0,y,H,ν,Z,λq _=>?_,r,u,.refl,λ_=>⟨rfl,.refl⟩⟩
 unfold dN;rw[B];simp only[D,if_true,<-gd.E,G y z,map_some]
def Nx:∀{J B:aZ UV}{vs:So},gj F (J++B)=some vs->∃D G,gj F J=some D/\gj F B=some G/\vs=D++G
 |[],B,vs,h=>⟨[],vs,rfl,h,rfl⟩|x::J,B,vs,h=>by obtain⟨a,az,b,U,rfl⟩:=jJ h;obtain⟨D,G,g1,g2,rfl⟩:=Nx U;exact⟨a::D,G,by simp[gj,b,g1],g2,rfl⟩
def D3:∀{l:ST}{vs:So},gj F (l.map Operand.tmp)=some vs->vs=l.map (get F)
 |[],vs,h=>r_ h|x::l,vs,h=>by obtain⟨a,az,b,B,rfl⟩:=jJ h;simp[ev]at b;subst b;rw[D3 B];rfl
def Yx(gd:Good X S){call:dQ}{ops:R0}{b j n a:Nat}{l:ST}{o:Oper}{B:aZ UV}{ys:So}{y:V}(c:resolve X.E X.nm o.op=some (.l (.store n),.tmp a::B))(D:gj F ((.tmp a::B)++l.map Operand.tmp)=some ys)
 (J:CB ops j=some (a,l))(U:dV ops j=false)(e1:fT H (.storeF n) ys=some (y,H')):dN S.E call ops (some (b,j)) F H o.op=some (y,H'):=by
 obtain⟨W,Y,d,I,rfl⟩:=Nx D;have⟨g1,g2⟩:=ku gd.N c d;obtain⟨w,L,z,O,rfl⟩:=jJ d;simp[ev]at z;have u:∃v,L=[v]:=by have C:∃x,B=[x]:=(by unfold resolve at c;((repeat' split at c)<;>first|grind|skip);(all_goals (try (have⟨_,_,e⟩:=ζf.1 c;simp[K.l.injEq,NL.store.injEq,reduceCtorEq]at e)));grind);obtain⟨x,rfl⟩:=C;obtain⟨v,Z,_,Q,rfl⟩:=jJ O;rw[r_ Q];grind
 obtain⟨v,rfl⟩:=u;rw[D3 I,<-z]at e1;simp at e1
 cases G:get F a with
 |hptr id el off=>
  rw[G]at e1;simp only[fT]at e1;split at e1
  .have T:tR ops j F=true:=by
    unfold tR
    grind
   unfold dN;rw[g1];simp[T,<-gd.E];refine g2 _ _ ?_;rw[<-z,G];exact e1
  grind
 |_=>rw[G]at e1;simp[fT]at e1
def I8{E:Env}{nm:Y'->a_ Nat}{op:Op}{s:Nat}{a:X'}{os:aZ UV}(h:resolve E nm op=some (.r (.loadF s a),os)):False:=by
 unfold resolve at h;(repeat' split at h)<;>first|grind|skip
 all_goals simp_all
def KA{E:Env}{nm:Y'->a_ Nat}{op:Op}{s a':Nat}{a:X'}{t:W'}{os:aZ UV}(h:resolve E nm op=some (.r (.load s a),os)):∃t x,op=.load t x/\os=[x]:=by
 unfold resolve at h;(repeat' split at h)<;>first|grind|skip
 all_goals simp_all
 grind
def Rr{E:Env}{nm:Y'->a_ Nat}{ops:R0}{j:Nat}{op:Op}{q:Ni}{os:aZ UV}(a:resolve E nm op=some (.r q,os))(h:∀n ag a',K.r q=.r (.load n ag)->os=[.tmp a']->∀t,op=.load t (.tmp a')->rm ops j a'=[]):qa ops j F op=true:=by
 unfold qa;split;rename_i t a';have:∃n ag,q=.load n ag/\os=[.tmp a']:=by have⟨d,_,e⟩:=ζf.1 a;grind
 grind;rfl
def V1(gd:Good X S){ops:R0}{b j n a:Nat}{ag:X'}{fr:ST}{o:Oper}{svs:SW}{ys:So}{dst:a_ Nat}{x:SV}(c:resolve X.E X.nm o.op=some (.r (.load n ag),[.tmp a]))(W:gj F (.tmp a::(rm ops j a).map Operand.tmp)=some ys)(rs:ct ν st.m H Z svs ys)
 (Y:fL fr svs=true)(A:b<=H.length)(E:∀d ob,bn st.m d=some ob->cK ob=true->d∉fr->(ν d).1<b)(D:∀id,Z id->id<b)(r:R ν Z st F H)(U:pq st.m (.loadF n ag) svs=some x):E5 S ops (some (b,j)) true F o.op dst ν Z st H x st:=by
 obtain⟨w,k,f,m,rfl⟩:=jJ W;simp[ev]at f;have K:=D3 m;unfold pq at U;split at U<;>first|(rename_i u;cases u;done)|skip
 .rename_i size agg d off l u;cases u;split at U
  .rename_i C;split at U
   .rename_i cs B;obtain⟨w',M,e,g1,g2⟩:=rs.inv;cases e;have G:=NN r B g2 C;obtain⟨_,_,rfl⟩:=g1.qI B;have I:∀id,Z id->Z id/\bt (H.take b) id=bt H id:=λid h=>⟨h,o4 (D id h)⟩
    have J:∀id,Z id->Z id/\bt H id=bt (H.take b) id:=λid h=>⟨h,(o4 (D id h)).symm⟩
    have N:d∉fr:=λg=>by have:=pQ Y d g;simp[SV.dW,SV.dc]at this
    obtain⟨y,p,O⟩:=x_ (r:=.load n ag) (λs a e=>by cases e) (λkk z ok e=>by cases e) (ct.cons (g1.mono I λe _=>jP ν st.m e) .nil) (λi Q ob L=>by
     have P:i∉fr:=λg=>by have:=(by simpa[SV.dW,SV.dc]using Q);grind
     exact eP.mono I rfl (λhb=>Zac) (λe _=>jP ν st.m e) (r.obj i ob L)) (by simp[pq,B];omega)
    obtain⟨k1,k2⟩:=ku gd.N c (show gj F [.tmp a]=some [.hptr (ν d).1 0 off]from by simp[gj,ev,f])
    have T:qa ops j F o.op=true:=by obtain⟨t,x',e1,e2⟩:=KA (a':=0) (t:=0) c;rw[e1];simp at e2;subst e2;simp[qa];intro s hs;have v:get F s∈k:=Zac;have:=all_eq_true.1 G _ v;split;rename_i ai _ _ hg;simp[sV]at this⊢;grind;rfl
    refine⟨0,y,H,ν,Z,λq _=>?_,r,O.mono J (λe _=>jP ν st.m e),.refl,λ_=>⟨rfl,.refl⟩⟩
    unfold dN;rw[k1];simp[<-gd.E,k2 (H.take b) y p,T]
   grind
  grind
 grind
def GF{E:Env}{nm:Y'->a_ Nat}{op:Op}{n:Nat}{os:aZ UV}(h:resolve E nm op=some (.l (.append n),os)){y:V}{ys:So}(b:gj F os=some (y::ys))(B:y=.bM\/y=.dX):isApp op=true/\rB F op=true:=by
 have key:∃args u p s x,op=.call {callee:=.builtin .append,args:=args,argTypes:=u}/\args.toList=[s,x]/\os=[s,x]/\p=():=by unfold resolve at h;((repeat' split at h)<;>first|(simp at h;done)|skip);(all_goals (try (have⟨_,_,e⟩:=ζf.1 h;simp only[ζc,K.l.injEq,reduceCtorEq,false_and]at e)));all_goals (simp only[ζa,ζc]at h;obtain⟨_,rfl⟩:=h;exact⟨_,_,(),_,_,rfl,by assumption,rfl,rfl⟩)
 obtain⟨args,u,_,s,x,rfl,c,rfl,_⟩:=key;have⟨a,az,w,z,e⟩:=jJ b;cases e;refine⟨rfl,?_⟩;simp only[rB,c,w];rcases B with rfl|rfl<;>rfl
def Y4(gd:Good X S)(hS:j8 S c){ops:R0}{place:a_ (Nat×Nat)}{dr:X'}{fr:ST}{i:Nat}(J:dr=place.isSome)(hi:∀b j,place=some (b,j)->j=i)
 (K:∀b j,place=some (b,j)->b<=H.length/\Old b fr ν Z st.m)
 {o:Oper}{ro:RO}(E:pK X dr ops i o=some ro)(aE:∀b j,place=some (b,j)->ops[j]?=some o)(al:∀b j,place=some (b,j)->dF o.op=.alloc->H[b+j]?=some .free)
 (r:R ν Z st F H){sv:SV}(h:nG S c dr fr ro st=some (sv,st')):
 E5 S ops place dr F o.op (AR ro) ν Z st H sv st':=by
 unfold pK at E;split at E
 .split at E
  .rename_i g k os hg hr;split at E
   .rename_i A;split at E
    .rename_i ah;simp only[ζh]at ah;have am:tw X.E ops place=true:=by
      cases place with
      |none=>rw[J]at ah;exact absurd ah.1 Zab|some Q=>have⟨b,j⟩:=Q;rw[hi b j rfl];exact ah.2
     split at E
     .rename_i size zero t l c U;obtain⟨az,M,rfl⟩:=ζf.1 E;unfold nG at h;split at h
      next L B=>have⟨ys,C,rs⟩:=qq gd.N r.slot M B;have I:=ku gd.N hr C;exact B0 gd (λ_ _ e=>by cases e) I.1 am (λy P=>FC ⟨_,_,_,U⟩ I P) r rs h
      simp at h
     .rename_i size len zero idx t l c U;split at E
      .rename_i aF;obtain⟨aG,rfl,rfl⟩:=aF;obtain⟨az,M,rfl⟩:=ζf.1 E;unfold nG at h;split at h
       next L B=>have⟨ys,C,rs⟩:=qq gd.N r.slot M B;have I:=ku gd.N hr C;exact B0 gd (λ_ _ e=>by cases e) I.1 am (λy P=>FX ⟨_,_,_,U⟩ I aG P) r rs h
       simp at h
      obtain⟨az,M,rfl⟩:=ζf.1 E;unfold nG at h;split at h
      next L B=>have⟨ys,C,rs⟩:=qq gd.N r.slot M B;have I:=ku gd.N hr C;exact B0 gd (λ_ _ e=>by cases e) I.1 am (λy P=>E0 ⟨_,_,_,U⟩ I P) r rs h
      simp at h
     cases E
    rename_i ai;have ak:tw X.E ops place=false:=by cases place with|none=>rfl|some Q=>have⟨b,j⟩:=Q;have G:=hi b j rfl;cases aw:EU X.E ops j with|false=>exact aw|true=>exact absurd (by rw[J,<-G,aw];rfl) ai
    rcases Fa dr ops i k os with⟨hq,aH⟩|⟨u,an,n,a,l,aR,rfl,rfl,aI,hq⟩|⟨u,an,n,ag,a,rfl,rfl,hq⟩|⟨u,an,aJ,n,rfl,hq⟩
    rotate_left
    .rw[hq]at E;obtain⟨az,M,rfl⟩:=ζf.1 E;unfold nG at h;split at h
     .rename_i L B;have⟨ys,C,rs⟩:=qq gd.N r.slot M B;simp only[u,Bool.not_true,Bool.false_or,if_true]at h;have⟨y,H',ν',e1,e2,e3,e4,e5⟩:=DM r rs h;refine⟨0,y,H',ν',Z,λq _=>?_,e2,e3,e4.weak (λ_ h=>h.elim),λ_=>⟨rfl,e5⟩⟩
      cases place with
      |none=>rw[J]at u;cases u|some Q=>have⟨b,j⟩:=Q;have G:=hi b j rfl;subst G;exact Yx gd hr C aI an e1
     simp at h
    .rw[hq]at E;obtain⟨az,M,rfl⟩:=ζf.1 E;unfold nG at h;split at h
     .rename_i L B;have⟨ys,C,rs⟩:=qq gd.N r.slot M B;simp only[u,Bool.not_true,Bool.or_self,Bool.false_or]at h;split at h
      .rename_i ao;have⟨x,hx,e⟩:=ζf.1 h;simp only[ζc]at e;obtain⟨rfl,rfl⟩:=e
       cases place with
       |none=>rw[J]at u;cases u|some Q=>have⟨b,j⟩:=Q;have G:=hi b j rfl;subst G;have⟨ax,ap,aj⟩:=K b j rfl;rw[u];exact V1 gd hr C rs ao ax ap aj r hx
      simp at h
     simp at h
    .rw[hq]at E;obtain⟨az,M,rfl⟩:=ζf.1 E;unfold nG at h;split at h
     rotate_left
     .simp at h
     rename_i L B;have⟨ys,C,rs⟩:=qq gd.N r.slot M B;simp only at h;have key:∃e x,(e=V.bM\/e=V.dX)/\L=[.v e,x]/\oe st o.dst (.append n) L=some (sv,st'):=by split at h;exact⟨_,_,.inl rfl,rfl,h⟩;exact⟨_,_,.inr rfl,rfl,h⟩;cases h
     obtain⟨e,x,he,rfl,hl⟩:=key;have⟨y,H',ν',e1,e2,e3,e4,e5⟩:=DM r rs hl;have⟨g1,g2⟩:=ku gd.N hr C;refine⟨0,y,H',ν',Z,λq _=>?_,e2,e3,e4.weak (λ_ h=>h.elim),λ_=>⟨rfl,e5⟩⟩
     obtain⟨y1,zs,rfl,f1,f2⟩:=rs.inv;have aK:y1=.bM\/y1=.dX:=by cases f1 with|v _ _ hf=>rcases he with rfl|rfl<;>first|exact .inl hf.bM|exact .inr hf.dX
     cases place with
     |none=>rw[J]at u;cases u|some Q=>have⟨b,j⟩:=Q;have G:=hi b j rfl;subst G;have⟨r1,r2⟩:=GF hr C aK;exact Ro r1 (by rw[<-gd.E];exact g2 _ _ e1) (.inr ⟨aJ,r2,(K b j rfl).1⟩)
    rw[hq]at E;obtain⟨az,M,rfl⟩:=ζf.1 E;unfold nG at h;split at h
    .rename_i L B;have⟨ys,C,rs⟩:=qq gd.N r.slot M B;have D:=ku gd.N hr C;simp only at h
     cases k with
     |p p=>
      cases p with
      |slice size lo hi=>
       simp only at h;split at h
       .rename_i d bs;split at h
        .simp at h
        rename_i aq;have⟨y,ν',h1,h2,h3,h4⟩:=Rx (N:=S.N) (Rv:=λid=>∃b j,place=some (b,j)/\id=b+j) r rs h
        have⟨g1,g2⟩:=D;exact⟨0,y,H,ν',Z,λq _=>by unfold dN;rw[g1];simp only[<-gd.E,AU (g2 y h1),map_some],h2,h3,h4,λhd=>absurd hd aq⟩
       exact RB gd A r rs D h
      |_=>exact RB gd A r rs D h
     |r q=>
      simp only at h;split at h
      .rename_i W;have⟨x,hx,e⟩:=ζf.1 h;simp only[ζc]at e;obtain⟨rfl,rfl⟩:=e;have⟨g1,g2⟩:=D;have ar:∀kk z ok,q=.lookup kk z ok->z.good=true:=λkk z ok e=>by subst e;simpa[CH]using A
       have ab:∀s a,q≠.loadF s a:=λs a e=>by subst e;exact I8 hr
       cases place with
       |none=>
        have⟨y,P,ad⟩:=x_ ab ar rs (λd _ ob hd=>r.obj d ob hd) hx
        exact⟨0,y,H,ν,Z,λq _=>by unfold dN;rw[g1];simp only[<-gd.E,g2 H y P,map_some],r,ad,.refl,λ_=>⟨rfl,.refl⟩⟩
       |some Q=>
        have⟨b,j⟩:=Q;have⟨ax,ap,aj⟩:=K b j rfl;have u:dr=true:=J;subst u;have G:=hi b j rfl;subst G;simp only[Bool.not_true,Bool.false_or,Bool.true_and]at W;have ay:qa ops j F o.op=true:=Rr hr λn ag a' e1 e2 t e3=>by by_cases T:dV ops j=true;exact EP (aE b j rfl) e3 T;exact aH n ag a' rfl (by simpa using T) e1 e2
        by_cases T:dV ops j=true
        .have⟨y,P,ad⟩:=x_ ab ar rs (λd _ ob hd=>r.obj d ob hd) hx
         have hH:=g2 H y P;refine⟨0,y,H,ν,Z,λq _=>?_,r,ad,.refl,λ_=>⟨rfl,.refl⟩⟩
         unfold dN;rw[g1];simp only[<-gd.E,ay,if_true];split
         next v hv=>have:=Bh hv;rw[hH]at this;cases this;rfl
         rw[if_pos T,hH];rfl
        have ao:fL fr L=true:=by simpa[T]using W
        have aa:∀id,Z id->Z id/\bt (H.take b) id=bt H id:=λid h=>⟨h,o4 (aj id h)⟩
        have aA:∀id,Z id->Z id/\bt H id=bt (H.take b) id:=λid h=>⟨h,(o4 (aj id h)).symm⟩
        have⟨y,P,ad⟩:=x_ (H:=H.take b) ab ar (rs.mono aa λe _=>jP ν st.m e) (λd hd ob aB=>by
         have ab:d∉fr:=λhf=>by rw[pQ ao d hf]at hd;cases hd
         exact eP.mono aa rfl (λhb=>by rw[getElem?_take,if_pos (ap d ob aB hb ab)]) (λe _=>jP ν st.m e) (r.obj d ob aB)) hx
        refine⟨0,y,H,ν,Z,λq _=>?_,r,ad.mono aA (λe _=>jP ν st.m e),.refl,λ_=>⟨rfl,.refl⟩⟩
        unfold dN;rw[g1];simp only[<-gd.E,g2 (H.take b) y P,ay,if_true]
      simp at h
     |a q=>
      simp only at h;split at h
      .rename_i d hd;split at h
       .rename_i Y;have⟨⟨ob,x⟩,hx,e⟩:=ζf.1 h;simp only[ζc]at e;obtain⟨rfl,rfl⟩:=e;have⟨ae,mk,e1,e2,e3,e4⟩:=Qg A rs hx;have⟨g1,g2⟩:=D;have⟨n1,n2,n3,n4⟩:=oc Y;have au:∀p:Nat×Nat,∀e,SV.dW e L=true->∀af,bn (bR st.m d ob) e=some af->∃ob,bn st.m e=some ob/\jI ν d p e=ν e/\sameShape ob af:=λp e he=>by
         refine vG ?_;rintro rfl;have:∀{xs:QQ}{vs:SW},b7 S.N st.g xs=some vs->SV.dW e vs=false:=by intro xs;induction xs with|nil=>intro vs h;simp only[b7,ζa]at h;subst h;rfl|cons a xs ih=>intro vs h;simp only[b7]at h;split at h;rename_i v aS h1 h2;simp only[ζa]at h;subst h;simp only[SV.dW,or_eq_false_iff];refine⟨?_,ih h2⟩;(cases a with|s n=>exact A5 n3 h1|k c=>simp only[sR,ζa]at h1;subst h1;rfl|f s=>simp only[sR,ζa]at h1;subst h1;rfl);simp at h
         rw[this B]at he;cases he
        have fin:∀(id:Nat)(Hn:bp),H.length<=Hn.length->Hn[id]?=some ae->(∀k,k<H.length->k≠id->Hn[k]?=H[k]?)->(∀k,gB ν st.m k->k≠id)->(∀k,Z k->k≠id)->
         R (jI ν d (id,0)) Z {st with m:=bR st.m d ob} F Hn/\dD (jI ν d (id,0)) (bR st.m d ob) Hn Z x (mk.val id)/\(∀k,Z k->bt Hn k=bt H k):=λid Hn hl aL I ho hz=>by
         have aa:∀k,Z k->bt Hn k=bt H k:=λk A=>by unfold bt;rw[I k (r.yw A) (hz k A)]
         have⟨a1,a2⟩:=e4 id (jI ν d (id,0)) (bR st.m d ob) Hn (iJ _ _ _) (cR _ _ _) aL aa (au _);have r2:R ν Z st F Hn:=r.heap (λk A=>I k (r.lt A) (ho k A)) aa
         exact⟨r2.add Y (λ_=>⟨λh=>ho _ h rfl,λh=>hz _ h rfl⟩) a1,a2,aa⟩
        have aC:o.dst=some d:=hd
        cases place with
        |none=>
         have⟨f1,f2,f3⟩:=fin H.length (H++[ae]) Zab Zab (λk A _=>getElem?_append_left A) (λk A=>Nat.ne_of_lt (r.lt A)) (λk A=>Nat.ne_of_lt (r.yw A))
         refine⟨0,mk.val H.length,H++[ae],jI ν d (H.length,0),Z,λq _=>?_,f1,f2,Ev.add Y Zab (λk A _=>getElem?_append_left A) f3 (λ_=>.inr (le_refl _)),λhh=>?_⟩
         .unfold dN;rw[g1];simp only[ak,false_eq_true,if_false,<-gd.E,g2 _ e1]
         rw[J]at hh;cases hh
        |some Q=>
         have⟨b,j⟩:=Q;have hf:=al b j rfl g1;have aM:=(ζe.1 hf).1;have nf:∀k,gB ν st.m k->k≠b+j:=λk A e=>by subst e;have⟨d',af,w1,w2,w3⟩:=A;have:=r.obj d' af w1;cases af with|sl fl es xs=>simp only[cK]at w2;simp only[eP,w2,if_true]at this;have⟨_,O,_⟩:=this;rw[w3,hf]at O;cases O|box cs=>have⟨_,_,O,_⟩:=this;rw[w3,hf]at O;cases O|mp aT=>have⟨_,O,_⟩:=this;rw[w3,hf]at O;cases O
         have nz:∀k,Z k->k≠b+j:=λk A e=>by subst e;have:=r.zrow _ A;unfold bt at this;rw[hf]at this;simp[Ob.rows]at this
         have⟨f1,f2,f3⟩:=fin (b+j) (H.set (b+j) ae) Zab (by rw[getElem?_set_self aM]) (λk _ A=>by rw[getElem?_set,if_neg (Ne.symm A)]) nf nz
         refine⟨0,mk.val (b+j),H.set (b+j) ae,jI ν d (b+j,0),Z,λq _=>?_,f1,f2,Ev.add Y Zab (λk _ A=>?_) f3 (λ_=>.inl ⟨b,j,rfl,rfl⟩),λ_=>⟨rfl,?_⟩⟩
         .unfold dN;rw[g1];simp only[ak,false_eq_true,if_false,<-gd.E,g2 _ e1,hf]
         .rw[getElem?_set,if_neg λe=>A ⟨b,j,rfl,e.symm⟩]
         have:AR ⟨o.dst,g,dr&&dV ops j,.a q,az,[],[]⟩=some d:=aC;have G:=hi b j rfl;subst G;rw[this];exact Kept.add λ_ _ h=>h
       simp at h
      simp at h
     |l q=>
      simp only at h;split at h
      .rename_i W;have⟨y,H',ν',e1,e2,e3,e4,e5⟩:=DM r rs h;have⟨g1,g2⟩:=D;refine⟨0,y,H',ν',Z,λq _=>?_,e2,e3,e4.weak (λ_ h=>h.elim),λ_=>⟨rfl,e5⟩⟩
       unfold dN;rw[g1];simp only[<-gd.E]
       cases place with
       |none=>exact g2 _ _ e1|some Q=>
        have⟨b,j⟩:=Q;have u:dr=true:=J;subst u;have G:=hi b j rfl;subst G;have T:dV ops j=true:=by simpa using W
        simp only[T,if_true];exact g2 _ _ e1
      simp at h
     |e n=>exact D.elim|b=>
      simp only at h;split at h
      .cases h
      rename_i aq;have aN:dr=false:=by simpa using aq
      have aO:place=none:=by cases place with|none=>rfl|some Q=>rw[aN]at J;simp at J
      subst aO;split at h
      next x=>have⟨xs,h1,h2⟩:=ζg.1 h;have⟨l,h3,e⟩:=ζf.1 h2;simp only[ζc]at e;obtain⟨rfl,rfl⟩:=e;have⟨g1,y,e1,g2⟩:=D;have⟨y',_,e2,r1,r2⟩:=rs.inv;rw[e1]at e2;cases e2;have⟨zs,k1,k2⟩:=wu r1 r.obj h1;have hz:mX zs=some l:=BP k2 h3;have⟨q1,q2⟩:=g2 H zs l k1 hz;exact⟨0,_,H,ν,Z,λq _=>by unfold dN;rw[g1];simp only[uL,<-gd.E,q1,q2,map_some],r,.v _ _ (.same _ rfl),.refl,λ_=>⟨rfl,.refl⟩⟩
      cases h
     |c=>
      simp only at h;have⟨g1,f',aU,e1,e2⟩:=D;have go:∀(f:Y')(args:SW)(av:So),ct ν st.m H Z args av->kW F o.op=some (.fn f,av)->fP S c o.dst dr (!dr||(dr&&dV ops i)) (gF st.m fr) f args st=some (sv,st')->
       E5 S ops place dr F o.op (AR ⟨o.dst,g,dr&&dV ops i,.c,az,[],[]⟩) ν Z st H sv st':=λf args av aP aD aQ=>by
       have⟨n,y,H',ν',Z',p1,p2,p3,p4,p5,p6⟩:=UI (ops:=ops) (Rv:=λid=>∃b j,place=some (b,j)/\id=b+j) hS gd.prm J (λb j hp hn=>by
        have:=hi b j hp;subst this;simp only[ζh]at hn;exact hn.2) (λb j hp hn=>by have:=hi b j hp;subst this;rw[J,hp]at hn;simpa using hn) (λb j hp=>(K b j hp).2) r aP aQ
       refine⟨n,y,H',ν',Z',λq hq=>?_,p2,p3,p4,λhd=>⟨p5 hd,p6⟩⟩
       unfold dN;rw[g1];simp only[aD];exact p1 q hq
      split at h
      next f a b vs=>have⟨w,ws,ew,r1,r2⟩:=rs.inv;rw[ew]at e1;simp only[List.cons.injEq]at e1;obtain⟨rfl,rfl⟩:=e1;obtain⟨a',b',rfl,ra,rb⟩:=r1.lG;exact go f _ _ ((ra.append r2).append rb) e2 h
      next f a b vs=>have⟨w,ws,ew,r1,r2⟩:=rs.inv;rw[ew]at e1;simp only[List.cons.injEq]at e1;obtain⟨rfl,rfl⟩:=e1;obtain⟨a',b',rfl,ra,rb⟩:=r1.fr.lG;exact go f _ _ (((ct.tu ra).append r2).append (ct.tu rb)) e2 h
      simp at h
    simp at h
   simp at E
  simp at E
 simp at E
end
def gJ(N:Nat->Y')(g:Tb SV)(o:RO):a_ (Nat×SW):=
 match o.k,b7 N g o.az with
 |.c,some (.yl id::u)=>some (id,u)|_,_=>none
open Classical in
def gx(S:Sys)(c:cr)(dr:X')(fr:ST)(o:RO)(st:St):a_ St:=
 match wanted st.g o.gd with
 |some true=>match gJ S.N st.g o with
  |some (id,z)=>if dr then none else match dG z,st.want with
   |some B,w::u=>if B=w/\id=st.yid then some (c8 {st with want:=u} o.dst (.v (.bool (st.more|| !u.isEmpty))))else none|_,_=>none
  |none=>(nG S c dr fr o st).map λ(x,st')=>c8 st' o.dst x
 |some false=>some (c8 st o.dst (.v .undef))|none=>none
def RO.strip(o:RO):RO:={o with dead:=[],pre:=[]}
def qz:QR->St->a_ St
 |[],st=>some st|x::r,st=>(ghost x st).bind (qz r)
def B1:Gh->X'
 |.keep ..=>true|.drop _=>true|_=>false
def Ed(dr:X')(l:QR)(st:St):a_ St:=if dr then(if l.all B1 then qz l st else none)else qz l st
def qR(ds:ST)(st:St):St:={st with g:=pL ds st.g}
def oT(S:Sys)(c:cr)(dr:X'):ST->Rd->St->a_ St
 |_,[],st=>some st|fr,o::r,st=>match(Ed dr o.pre st).bind (gx S c dr fr o.strip)with
  |some st'=>oT S c dr (if dr then sZ fr o.strip else fr) r (qR o.dead st')|none=>none
abbrev JT:=aZ (aZ V)->(Nat->Prop)->(Nat->Prop)->bp->Prop
structure Yc(S:Sys)(J:JT)(more:Bool)(yid:Nat):Prop where
 yf:∀w O Z H O' Z' H',J w O Z H->H.length<=H'.length->(∀i,i<H.length->¬O i->¬Z i->H'[i]?=H[i]?)->(∀i,Z i->Z' i/\bt H' i=bt H i)->
  (∀i,O' i->O i\/H.length<=i)->(∀i,Z' i->Z i\/O i\/H.length<=i)->J w O' Z' H'
 yield:∀x ws O Z H args,J (x::ws) O Z H->dK H Z x args->(∀i,Z i->(bt H i).isSome=true)->Deep H Z->(∀i,O i->¬Z i/\i<H.length)->
  ∃n H',run S.E n (.yld yid) args H=some (.bool (more|| !ws.isEmpty),H')/\J ws O Z H'/\H.length<=H'.length/\(∀i,O i->H'[i]?=H[i]?)/\(∀i,Z i->bt H' i=bt H i)
structure Fix(ν:Nu)(st:St)(ν':Nu)(st':St):Prop where
 pin:∀d∈st.pin,∀ob',bn st'.m d=some ob'->∃ob,bn st.m d=some ob/\ν' d=ν d/\sameShape ob ob'
 pins:st'.pin=st.pin
 more:st'.more=st.more
 yid:st'.yid=st.yid
section
variable{Rv:Nat->Prop}{ν ν' ν2:Nu}{Z Z':Nat->Prop}{st st' st2:St}{m m':Tb bN}{F F':WP}{H H' H1:bp}{S:Sys}{c:cr}{X:CX}{J:JT}
def Fix.refl:Fix ν st ν st:=⟨λ_ _ u h=>⟨u,h,rfl,.refl _⟩,rfl,rfl,rfl⟩
def Fix.trans(a:Fix ν st ν' st')(b:Fix ν' st' ν2 st2):Fix ν st ν2 st2:=
 ⟨λd hd u h=>by
  have⟨w,c,B,z⟩:=b.pin d (by rw[a.pins];omega) u h
  have⟨ob,k1,k2,k3⟩:=a.pin d hd w c;exact⟨ob,k1,Zad,k3.trans z⟩,by rw[b.pins,a.pins],by rw[b.more,a.more],by rw[b.yid,a.yid]⟩
def Ev.beside(y:Yc S J st.more st.yid)(a:Ev (λ_=>False) ν Z st H ν' Z' st' H')(B:st'.want=st.want)(j:J st.want (gB ν st.m) Z H):J st'.want (gB ν' st'.m) Z' H':=by
 rw[B];exact y.yf _ _ _ _ _ _ _ j a.len (λi b u w=>a.same i b u w (λh=>h)) a.rows (λi h=>(a.own i h).imp (λh=>h) (λh=>h.elim (λh=>h.elim) (λh=>h)))
  (λi h=>(a.frz i h).imp (λh=>h) (λh=>h.imp (λh=>h) (λh=>h.elim (λh=>h.elim) (λh=>h))))
def xu(D:∀s sv,bn st.g s=some sv->dD ν m H Z sv (get F s)){ops:R0}{o:Oper}{gd:a_ (Nat×X')}(a:D0 ops o=some gd){t:X'}(B:wanted st.g gd=some t):gO ops F o=t:=by unfold D0 at a;unfold gO;cases u:o.guard with|none=>rw[u]at a;simp at a;simp[wanted]at B;grind|some C=>rw[u]at a;obtain⟨d,hd,rfl⟩:=ζf.1 a;simp[hd];simp[wanted]at B;split at B;(next c b=>simp at B;subst B;rw[(D d _ b).fr.bool]);rename_i x G b;simp at B;subst B;have w:=(D d _ b).fr;split;rename_i c z;rw[z]at w;cases w;grind;rfl;grind
def QX{q:Hy}{dst:a_ Nat}{args:SW}{sv:SV}(h:D7 q dst args st=some (sv,st')):st'.want=st.want/\st'.pin=st.pin/\st'.more=st.more/\st'.yid=st.yid:=by unfold D7 at h;grind
def Ty{dr:X'}{fr:ST}{ro:RO}{sv:SV}(h:nG S c dr fr ro st=some (sv,st')):st'.want=st.want/\st'.pin=st.pin/\st'.more=st.more/\st'.yid=st.yid:=by
 unfold nG at h;split at h
 .split at h;split at h;split at h;simp at h;unfold BZ at h;split at h;split at h;have⟨_,_,h⟩:=ζg.1 h;have⟨_,_,h⟩:=ζg.1 h;dsimp only at h;split at h;simp only[ζa,ζc]at h;obtain⟨_,rfl⟩:=h;exact⟨rfl,rfl,rfl,rfl⟩;simp at h;simp at h;simp at h;have⟨_,_,e⟩:=ζf.1 h;simp only[ζc]at e;obtain⟨_,rfl⟩:=e;exact⟨rfl,rfl,rfl,rfl⟩;have⟨_,_,e⟩:=ζf.1 h;simp only[ζc]at e;obtain⟨_,rfl⟩:=e;exact⟨rfl,rfl,rfl,rfl⟩;split at h;have⟨_,_,e⟩:=ζf.1 h;simp only[ζc]at e;obtain⟨_,rfl⟩:=e;exact⟨rfl,rfl,rfl,rfl⟩;simp at h;split at h;split at h;have⟨_,_,e⟩:=ζf.1 h;simp only[ζc]at e;obtain⟨_,rfl⟩:=e;exact⟨rfl,rfl,rfl,rfl⟩;simp at h;simp at h
  .split at h
   .unfold oe at h;((repeat' split at h)<;>first|(simp at h;done)|(simp only[ζa,ζc]at h;obtain⟨_,rfl⟩:=h;exact⟨rfl,rfl,rfl,rfl⟩)|(have⟨_,_,e⟩:=ζf.1 h;simp only[ζc]at e;obtain⟨_,rfl⟩:=e;exact⟨rfl,rfl,rfl,rfl⟩)|skip);dsimp only at h;(repeat' split at h)<;>first|(simp at h;done)|(simp only[ζa,ζc]at h;obtain⟨_,rfl⟩:=h;exact⟨rfl,rfl,rfl,rfl⟩)
   simp at h
  .have hc:∀{dst dr now u f args},fP S c dst dr now u f args st=some (sv,st')->st'.want=st.want/\st'.pin=st.pin/\st'.more=st.more/\st'.yid=st.yid:=(by intro dst dr now u f args h;unfold fP at h;(repeat' split at h)<;>first|exact QX h|(have⟨_,_,e⟩:=ζf.1 h;simp only[ζc]at e;obtain⟨_,rfl⟩:=e;exact⟨rfl,rfl,rfl,rfl⟩)|(simp at h;done)|(simp only[ζa,ζc]at h;obtain⟨_,rfl⟩:=h;exact⟨rfl,rfl,rfl,rfl⟩));split at h;exact hc h;exact hc h;simp at h
  split at h;simp at h;split at h;have⟨_,_,h⟩:=ζg.1 h;have⟨_,_,e⟩:=ζf.1 h;simp only[ζc]at e;obtain⟨_,rfl⟩:=e;exact⟨rfl,rfl,rfl,rfl⟩;simp at h;have z:∀{dst l w},oe st dst l w=some (sv,st')->st'.want=st.want/\st'.pin=st.pin/\st'.more=st.more/\st'.yid=st.yid:=by intro dst l w h;unfold oe at h;((repeat' split at h)<;>first|(simp at h;done)|(simp only[ζa,ζc]at h;obtain⟨_,rfl⟩:=h;exact⟨rfl,rfl,rfl,rfl⟩)|(have⟨_,_,e⟩:=ζf.1 h;simp only[ζc]at e;obtain⟨_,rfl⟩:=e;exact⟨rfl,rfl,rfl,rfl⟩)|skip);all_goals (dsimp only at h;(repeat' split at h)<;>first|(simp at h;done)|(simp only[ζa,ζc]at h;obtain⟨_,rfl⟩:=h;exact⟨rfl,rfl,rfl,rfl⟩))
  split at h;exact z h;exact z h;simp at h
 simp at h
def C9(r:R ν Z st F H){a:Nat}{dst:a_ Nat}(hd:AE a dst=true){sv:SV}{y:V}(h:dD ν st.m H Z sv y):∃F',kX a F dst y=some F'/\R ν Z (c8 st dst sv) F' H:=by cases dst with|none=>exact⟨F,rfl,r⟩|some d=>have:=(by simpa[AE]using hd);exact⟨set F d y,by simp[kX,if_pos this],r.put h⟩
def FV(st:St)(dst:a_ Nat)(sv:SV):(c8 st dst sv).m=st.m/\(c8 st dst sv).want=st.want/\(c8 st dst sv).pin=st.pin/\(c8 st dst sv).more=st.more/\(c8 st dst sv).yid=st.yid:=by cases dst<;>exact⟨rfl,rfl,rfl,rfl,rfl⟩
def Nj(gd:Good X S)(p:j8 S c){ops:R0}{place:a_ (Nat×Nat)}{dr:X'}{fr:ST}{i:Nat}(G:dr=place.isSome)(hi:∀b j,place=some (b,j)->j=i)
 (a:∀b j,place=some (b,j)->b<=H.length/\Old b fr ν Z st.m)
 {o:Oper}{ro:RO}(l:pK X dr ops i o=some ro)(J:∀b j,place=some (b,j)->ops[j]?=some o)(D:∀b j,place=some (b,j)->dF o.op=.alloc->H[b+j]?=some .free)
 (r:R ν Z st F H)(B:gJ S.N st.g ro=none\/dr=true)(h:gx S c dr fr ro st=some st'):
 ∃n F' H' ν' Z',(∀k,n<=k->iu S.E (run S.E k) X.nt ops place o F H=some (F',H'))/\R ν' Z' st' F' H'/\Ev (λid=>∃b j,place=some (b,j)/\id=b+j) ν Z st H ν' Z' st' H'/\
  (dr=true->Z'=Z/\Kept (AR ro) ν st.m ν' st'.m)/\st'.want=st.want/\Fix ν st ν' st':=by
 have I:=l;obtain⟨u,g,now,k,az,m,rfl⟩:=Gb l;unfold gx at h;split at h
 .rename_i L;have w:=xu r.slot m L;have T:(nG S c dr fr ⟨o.dst,g,now,k,az,[],[]⟩ st).map (λ(x,st')=>c8 st' o.dst x)=some st':=by
   split at h
   .rename_i id vs C;rcases B with B|B
    .rw[B]at C;cases C
    subst B;simp at h
   exact h
  obtain⟨⟨x,O⟩,hd,rfl⟩:=ζf.1 T;have⟨n,y,H',ν',Z',e1,e2,e3,e4,e5⟩:=Y4 gd p G hi a I J D r hd;have⟨U,Q,W,Y⟩:=Ty hd;have⟨F',e,f⟩:=C9 e2 u e3;have⟨p1,p2,p3,p4,p5⟩:=FV O o.dst x;refine⟨n,F',H',ν',Z',λk q=>?_,f,?_,λhd=>⟨(e5 hd).1,by rw[p1];exact(e5 hd).2⟩,by rw[p2,U],⟨λd hd=>by rw[p1];exact e4.pin d hd,by rw[p3,Q],by rw[p4,W],by rw[p5,Y]⟩⟩
  .unfold iu;simp only[w,if_true,e1 k q,e,map_some]
  exact⟨e4.len,e4.same,e4.rows,λid h=>e4.own id (by rw[p1]at h;exact h),e4.frz,λd hd=>by rw[p1];exact e4.pin d hd,by rw[p3,Q]⟩
 .rename_i L;have w:=xu r.slot m L;simp only[ζa]at h;subst h;have⟨F',e,f⟩:=C9 r u (.v V.undef V.undef (.same _ rfl));have⟨p1,p2,p3,p4,p5⟩:=FV st o.dst (.v .undef);refine⟨0,F',H,ν,Z,λk _=>?_,f,?_,λ_=>⟨rfl,by rw[p1];exact .refl⟩,p2,⟨λd hd=>by rw[p1];exactλz h=>⟨z,h,rfl,.refl _⟩,p3,p4,p5⟩⟩
  .unfold iu;simp only[w,false_eq_true,if_false,e,map_some]
  exact⟨le_refl _,λ_ _ _ _ _=>rfl,λ_ h=>⟨h,rfl⟩,λ_ h=>.inl (by rw[p1]at h;exact h),λ_ h=>.inl h,λd hd=>by rw[p1];exactλz h=>⟨z,h,rfl,.refl _⟩,p3⟩
 simp at h
def Tv(gd:Good X S)(y:Yc S J st.more st.yid){ops:R0}{fr:ST}{i:Nat}{o:Oper}{ro:RO}(a:pK X false ops i o=some ro)
 (r:R ν Z st F H)(j:J st.want (gB ν st.m) Z H){id:Nat}{vs:SW}(B:gJ S.N st.g ro=some (id,vs))(D:wanted st.g ro.gd=some true)(h:gx S c false fr ro st=some st'):
 ∃n F' H',(∀k,n<=k->iu S.E (run S.E k) X.nt ops none o F H=some (F',H'))/\R ν Z st' F' H'/\J st'.want (gB ν st'.m) Z H'/\Fix ν st ν st':=by
 unfold pK at a;simp only[Bool.false_and,false_eq_true,if_false]at a;split at a
 .rename_i C;split at a
  .rename_i g k os hg hr;split at a
   .obtain⟨az,U,rfl⟩:=ζf.1 a;unfold gx at h;simp only at D;have L:=xu r.slot hg D;rw[D]at h;simp only[B,false_eq_true,if_false]at h;unfold gJ at B;split at B
    .rename_i W Y b G;simp only[ζa,ζc]at B;obtain⟨rfl,rfl⟩:=B;simp only at b G;subst b;have⟨ys,O,rs⟩:=qq gd.N r.slot U G;have⟨g1,A,E,e1,e2⟩:=ku gd.N hr O;have⟨w,K,e,r1,r2⟩:=rs.inv;rw[e]at e1;simp only[List.cons.injEq]at e1;obtain⟨rfl,rfl⟩:=e1;cases r1;simp only at e2;split at h
     .rename_i xs x I hx u;split at h
      .rename_i z;obtain⟨rfl,rfl⟩:=z;simp only[ζa]at h;subst h;rw[u]at j;have⟨n,H',p1,p2,p3,p4,p5⟩:=y.yield _ _ _ _ _ _ j (r2.dG hx) r.zrow r.deep (λi hi=>⟨by obtain⟨d,ob,f,l,rfl⟩:=hi;exact r.apart d ob f l,r.lt hi⟩)
       have r3:R ν Z st F H':=r.heap p4 p5;have r4:R ν Z {st with want:=I} F H':=⟨r3.slot,r3.obj,r3.inj,r3.apart,r3.zrow,r3.deep⟩;have⟨F',m,p⟩:=C9 (st:={st with want:=I}) r4 C (sv:=.v (.bool (st.more|| !I.isEmpty))) (.v _ _ (.same _ rfl));have⟨T,q,s,t,v⟩:=FV {st with want:=I} o.dst (.v (.bool (st.more|| !I.isEmpty)));refine⟨n,F',H',λk b=>?_,p,by rw[T,q];exact p2,⟨λd hd=>by rw[T];exactλQ h=>⟨Q,h,rfl,.refl _⟩,s,t,v⟩⟩
       unfold iu dN;rw[g1,e2];simp only[L,if_true,(pY S.E b).go _ _ _ _ p1,m,map_some]
      simp at h
     simp at h
    simp at B
   simp at a
  simp at a
 simp at a
def mP(X:CX)(B:X')(ops:R0):Nat->R0->a_ Rd
 |_,[]=>some []|i,o::r=>match pK X B ops i o,mP X B ops (i+1) r with
  |some ro,some rs=>some (ro::rs)|_,_=>none
def R.AH(r:R ν Z st F H)(ds:ST):R ν Z (qR ds st) F H:=r.less (λs w u=>qi u) (λd ob hd=>hd)
def Fix.AH{ds:ST}(f:Fix ν (qR ds st) ν' st'):Fix ν st ν' st':=⟨f.pin,f.pins,f.more,f.yid⟩
def Fix.ghost(r:R ν Z st F H)(y:Yc S J st.more st.yid)(j:J st.want (gB ν st.m) Z H){x:Gh}(h:ghost x st=some st'):∃ν' Z',R ν' Z' st' F H/\J st'.want (gB ν' st'.m) Z' H/\Fix ν st ν' st':=by
 have⟨ν',Z',a,u⟩:=Th (Rv:=λ_=>False) r h;have w:st'.want=st.want/\st'.more=st.more/\st'.yid=st.yid:=by unfold Go.VE.ghost BC at h;(repeat' split at h)<;>first|grind|grind
 exact⟨ν',Z',a,u.beside y w.1 j,⟨u.pin,u.pins,w.2.1,w.2.2⟩⟩
def Fix.quiet(r:R ν Z st F H):∀{l:QR}{st':St},l.all B1=true->Go.VE.qz l st=some st'->R ν Z st' F H/\Ev Rv ν Z st H ν Z st' H/\st'.want=st.want/\Fix ν st ν st'/\∀d ob,bn st'.m d=some ob->bn st.m d=some ob:=by intro l;induction l generalizing st with|nil=>intro st' _ h;simp[Go.VE.qz]at h;subst h;exact⟨r,.refl,rfl,.refl,λ_ _ h=>h⟩|cons x l C=>intro st' z h;simp only[all_cons,ζh]at z;have⟨D,a,G⟩:=ζg.1 h;have key:∃g m,D={st with g:=g,m:=m}/\(∀s u,bn g s=some u->bn st.g s=some u)/\∀d ob,bn m d=some ob->bn st.m d=some ob:=(by cases x with|keep gs L=>simp[Go.VE.ghost]at a;split at a;(next g m b I=>simp at a;subst a;exact⟨g,m,rfl,λs u B=>sD b B,λd ob hd=>sD I hd⟩);grind|drop ds=>simp[Go.VE.ghost]at a;subst a;exact⟨_,st.m,rfl,λs u B=>qi B,λ_ _ h=>h⟩|_=>simp[B1]at z);obtain⟨g,m,rfl,J,w⟩:=key;have⟨a1,a2,a3,a4,a5⟩:=C (r.less J w) z.2 G;exact⟨a1,(Ev.less w).trans a2,a3,Fix.trans (st':={st with g:=g,m:=m}) ⟨λd _ ob h=>⟨ob,w d ob h,rfl,.refl _⟩,rfl,rfl,rfl⟩ a4,λd ob h=>w d ob (a5 d ob h)⟩
def Fix.qz:∀{l:QR}{ν:Nu}{Z:Nat->Prop}{st st':St},R ν Z st F H->Yc S J st.more st.yid->J st.want (gB ν st.m) Z H->qz l st=some st'->∃ν' Z',R ν' Z' st' F H/\J st'.want (gB ν' st'.m) Z' H/\Fix ν st ν' st'
 |[],ν,Z,st,st',r,y,j,h=>by simp[Go.VE.qz]at h;subst h;exact⟨ν,Z,r,j,.refl⟩|x::l,ν,Z,st,st',r,y,j,h=>by have⟨B,b,D⟩:=ζg.1 h;have⟨z,C,r1,u,a⟩:=Fix.ghost r y j b;have⟨ν2,Z2,r2,w,c⟩:=Fix.qz r1 (by rw[a.more,a.yid];omega) u D;exact⟨ν2,Z2,r2,w,a.trans c⟩
def Sr(gd:Good X S)(e:j8 S c){ops:R0}{fr:ST}{i:Nat}{o:Oper}{ro:RO}{B:St}(a:pK X false ops i o=some ro)(y:Yc S J st.more st.yid)(r:R ν Z st F H)(j:J st.want (gB ν st.m) Z H)(G:gx S c false fr ro st=some B):
 ∃n F' H' ν' Z',(∀k,n<=k->iu S.E (run S.E k) X.nt ops none o F H=some (F',H'))/\R ν' Z' B F' H'/\J B.want (gB ν' B.m) Z' H'/\Fix ν st ν' B:=by
 by_cases L:wanted st.g ro.gd=some true
 .cases C:gJ S.N st.g ro with
  |none=>
   have⟨n,F',H',ν',Z',e1,e2,e3,e4,e5,e6⟩:=Nj gd e (place:=none) rfl (λb j h=>by cases h) (λb j h=>by cases h) a (λb j h=>by cases h) (λb j h=>by cases h) r (.inl C) G
   exact⟨n,F',H',ν',Z',e1,e2,(e3.weak (λid⟨b,j,h,_⟩=>by cases h)).beside y e5 j,e6⟩
  |some p=>have⟨id,Q⟩:=p;have⟨n,F',H',e1,e2,e3,e4⟩:=Tv gd y a r j C L G;exact⟨n,F',H',ν,Z,e1,e2,e3,e4⟩
 have u:gx S c false fr ro st=some B:=G;have O:gJ S.N st.g {ro with az:=[]}=none:=by unfold gJ;simp[b7]
 obtain⟨n,F',H',ν',Z',e1,e2,e3,e4,e5,e6⟩:∃n F' H' ν' Z',(∀k,n<=k->iu S.E (run S.E k) X.nt ops none o F H=some (F',H'))/\R ν' Z' B F' H'/\Ev (λ_=>False) ν Z st H ν' Z' B H'/\True/\B.want=st.want/\Fix ν st ν' B:=by unfold gx at u;split at u;(next w=>exact absurd w L);rename_i w;simp only[ζa]at u;subst u;unfold pK at a;simp only[Bool.false_and,false_eq_true,if_false]at a;split at a;rename_i D;split at a;rename_i g k os f q;split at a;obtain⟨az,T,rfl⟩:=ζf.1 a;have I:=xu r.slot f w;have⟨F',l,m⟩:=C9 r D (.v V.undef V.undef (.same _ rfl));have⟨p1,p2,p3,p4,p5⟩:=FV st o.dst (.v .undef);refine⟨0,F',H,ν,Z,λk _=>?_,m,?_,trivial,p2,⟨λd hd=>by rw[p1];exactλz h=>⟨z,h,rfl,.refl _⟩,p3,p4,p5⟩⟩;unfold iu;simp only[I,false_eq_true,if_false,l,map_some];exact⟨le_refl _,λ_ _ _ _ _=>rfl,λ_ h=>⟨h,rfl⟩,λ_ h=>.inl (by rw[p1]at h;exact h),λ_ h=>.inl h,λd hd=>by rw[p1];exactλz h=>⟨z,h,rfl,.refl _⟩,p3⟩;simp at a;simp at a;simp at a;simp at u
 exact⟨n,F',H',ν',Z',e1,e2,e3.beside y e5 j,e6⟩
def Rz(gd:Good X S)(d:j8 S c){ops:R0}{fr:ST}:∀(rest:R0){i:Nat}{B:Rd}{ν:Nu}{Z:Nat->Prop}{st st':St}{F:WP}{H:bp},mP X false ops i rest=some (B.map RO.strip)->oT S c false fr B st=some st'->
 Yc S J st.more st.yid->R ν Z st F H->J st.want (gB ν st.m) Z H->
 ∃n F' H' ν' Z',(∀k,n<=k->n_ S.E (run S.E k) X.nt ops rest F H=some (F',H'))/\R ν' Z' st' F' H'/\J st'.want (gB ν' st'.m) Z' H'/\Fix ν st ν' st'
 |[],i,B,ν,Z,st,st',F,H,hc,h,y,r,j=>by simp only[mP,ζa]at hc;have:=List.map_eq_nil_iff.1 hc.symm;subst this;simp[oT]at h;subst h;exact⟨0,F,H,ν,Z,λ_ _=>rfl,r,j,.refl⟩|o::rest,i,B,ν,Z,st,st',F,H,hc,h,y,r,j=>by simp[mP]at hc;split at hc;rename_i Q rs f T;obtain⟨u,w,rfl,C,D⟩:∃u w,B=u::w/\Q=u.strip/\rs=w.map RO.strip:=(by cases B with|nil=>simp_all|cons a b=>grind);subst D;simp[oT,<-C]at h;split at h;rename_i z G;have⟨U,I,G⟩:=ζg.1 G;have⟨v,x,g,W,L⟩:=Fix.qz r y j I;have⟨Y,F1,H1,A,E,a1,a2,a3,O⟩:=Sr gd d f (by rw[L.more,L.yid];omega) g W G;have a4:=L.trans O;have⟨l,m,H2,ν2,Z2,p,q,s,t⟩:=Rz gd d rest T h (by show Yc S J z.more z.yid;rw[a4.more,a4.yid];omega) (R.AH a2 u.dead) a3;refine⟨max Y l,m,H2,ν2,Z2,λk e=>?_,q,s,a4.trans (Fix.AH t)⟩;simp[n_,a1 k (le_trans (le_max_left _ _) e),p k (le_trans (le_max_right _ _) e)];grind;grind
def Old.next{b:Nat}{fr:ST}{o:RO}(h:Old b fr ν Z m)(a:Kept (AR o) ν m ν' m'):Old b (sZ fr o) ν' Z m':=by
 refine⟨λd ob hd D w=>?_,h.2⟩;have z:d∉fr:=λJ=>w (by unfold sZ;grind);have B:AR o≠some d:=λe=>w (by unfold sZ;grind);have⟨u,c,G,I⟩:=a d ob B hd;have C:cK u=true:=by cases u<;>cases ob<;>simp[sameShape]at I<;>first|rfl|(simp[cK]at D⊢;grind)
 rw[G];exact h.1 d u c C z
def G8(r:R ν Z st F H){id:Nat}(h:gB ν st.m id):H[id]?≠some .free:=by obtain⟨d,ob,a,u,rfl⟩:=h;have:=r.obj d ob a;cases ob with|sl k es C=>simp[cK]at u;simp[eP,u]at this;grind|box cs=>have⟨es,z,b,_⟩:=this;grind|mp B=>have⟨w,b,_⟩:=this;grind
def OL(r:R ν Z st F H){id:Nat}(h:Z id):H[id]?≠some .free:=λe=>by have:=r.zrow id h;unfold bt at this;rw[e]at this;simp[Ob.rows]at this
def Ev.AH{ds:ST}(e:Ev Rv ν Z (qR ds st) H ν' Z' st' H'):Ev Rv ν Z st H ν' Z' st' H':=⟨e.len,e.same,e.rows,e.own,e.frz,e.pin,e.pins⟩
def Rb(gd:Good X S)(g:j8 S c){ops:R0}{b k:Nat}(G:tK ops=true->k=ops.length):∀(len:Nat){i:Nat}{B:Rd}{fr:ST}{ν:Nu}{Z:Nat->Prop}{st st':St}{F:WP}{H:bp},
 i+len=ops.length->mP X true ops i (ops.drop i)=some (B.map RO.strip)->oT S c true fr B st=some st'->R ν Z st F H->b<=H.length->Old b fr ν Z st.m->(∀j,i<=j->j<k->H[b+j]?=some .free)->
 ∃n F' H' ν',(∀q,n<=q->lu S.E (run S.E q) X.nt ops b (List.range' i len) F H=some (F',H'))/\R ν' Z st' F' H'/\Ev (λid=>b<=id) ν Z st H ν' Z st' H'/\st'.want=st.want/\Fix ν st ν' st'
 |0,i,B,fr,ν,Z,st,st',F,H,hl,hc,h,r,hb,J,hf=>by rw[List.drop_of_length_le Zaa]at hc;simp only[mP,ζa]at hc;have:B=[]:=List.map_eq_nil_iff.1 hc.symm;subst this;simp[oT]at h;subst h;exact⟨0,F,H,ν,λ_ _=>rfl,r,.refl,rfl,.refl⟩|len+1,i,B,fr,ν,Z,st,st',F,H,hl,hc,h,r,hb,J,hf=>by
  have hi:i<ops.length:=Zaa;have l:=ζd hi;rw[List.drop_eq_getElem_cons hi]at hc;simp[mP]at hc;split at hc
  .rename_i ro rs h1 h2;obtain⟨u,w,rfl,Q,T⟩:∃u w,B=u::w/\ro=u.strip/\rs=w.map RO.strip:=by cases B with|nil=>simp_all|cons a b=>grind
   subst T;simp only[oT,<-Q]at h;split at h
   .rename_i ab U;obtain⟨W,z,U⟩:=ζg.1 U;simp only[Ed,if_true]at z;split at z;rotate_left;simp_all;rename_i L;obtain⟨f,m,o,p,s⟩:=Fix.quiet r L z;have J:Old b fr ν Z W.m:=⟨λd ob hd=>J.1 d ob (s d ob hd),J.2⟩;obtain⟨t,F1,H1,P,V,a1,a2,a3,a4,a5,a6⟩:=Nj gd g (place:=some (b,i)) rfl (λO j e=>Zac) (λO j e=>Zac) h1 (λO j e=>Zac) (λO j e ad=>by
     have:tK ops=true:=by
      unfold tK
      grind
     grind) f (.inr rfl) U
    obtain⟨rfl,C⟩:=a4 rfl;have I:=a3.weak λid⟨O,j,e,h⟩=>by cases e;omega
    obtain⟨v,x,H2,ν2,y,A,E,K,M⟩:=Rb gd g G len Zaa h2 h (R.AH a2 u.dead) (le_trans hb a3.len) (J.next C) (λj ae Y=>by have D:=hf j Zaa Y;have N:=(ζe.1 D).1;rw[I.same (b+j) N (λh=>G8 f h D) (λh=>OL f h D) Zaa];omega);refine⟨max t v,x,H2,ν2,λq L=>?_,A,m.trans ((I.weak λid e=>Zaa).trans (Ev.AH E)),by rw[K,<-o];exact a5,p.trans (a6.trans (Fix.AH M))⟩;simp[List.range'_succ,lu,l,a1 q (le_trans (le_max_left _ _) L),y q (le_trans (le_max_right _ _) L)]
   grind
  grind
end
def bX(X:CX):X'->Code->a_ RC
 |_,.skip=>some .skip|_,.label _=>some .skip|_,.region _ ops B=>
  if B then(if yg ops.toList&&By ops.toList then(mP X true ops.toList 0 ops.toList).map .qZ else none)
  else(mP X false ops.toList 0 ops.toList).map .ops
 |ro,.seq a b=>match bX X ro a,bX X ro b with
  |some a,some b=>some (.seq a b)|_,_=>none
 |ro,.cond c a b=>match qQ X.nm c,bX X ro a,bX X ro b with
  |some x,some a,some b=>some (.cond x a b)|_,_,_=>none
 |ro,.block id c=>(bX X ro c).map (.block id)|ro,.loop c=>(bX X ro c).map .loop|ro,.rangeFunc g ps D G=>
  if ro|| !(ps.toList.all (·<X.nt))then none else
  match qQ X.nm g,bX X true D,bX X true G with
  |some x,some a,some b=>some (.each x ps.toList a b)|_,_,_=>none
 |_,.exit id=>some (.exit id)|_,.ret=>some .ret|_,_=>none
def erase:RC->RC
 |.seq a b=>.seq (erase a) (erase b)|.cond x a b=>.cond x (erase a) (erase b)|.block id c=>.block id (erase c)|.loop c=>.loop (erase c)|.each g ps a b=>.each g ps (erase a) (erase b)|.gh _ c=>erase c|.hg c _=>erase c|.ops l=>.ops (l.map RO.strip)|.qZ l=>.qZ (l.map RO.strip)|c=>c
def ko(step:St->a_ (Out×St)):Nat->St->a_ (Out×St)
 |0,_=>none|k+1,st=>match step st with
  |some (.norm,st')=>ko step k st'|r=>r
open Classical in
def qp(step:St->a_ (Out×St))(st:St):a_ (Out×St):=if h:∃k r,ko step k st=some r then some (Classical.choose (choose_spec h))else none
def Ba{step:St->a_ (Out×St)}:∀{k B:Nat}{st:St}{r:Out×St},k<=B->ko step k st=some r->ko step B st=some r
 |0,_,_,_,_,h=>by simp[ko]at h|k+1,0,_,_,hk,_=>Zaa|k+1,B+1,st,r,hk,h=>by simp only[ko]at h⊢;split at h;(next st' D=>rw[Ba (Nat.le_of_succ_le_succ hk) h]);exact h
def oH{step:St->a_ (Out×St)}{st:St}{r:Out×St}:qp step st=some r↔∃k,ko step k st=some r:=by
 unfold qp;constructor;intro h;split at h;next u=>simp only[ζa]at h;exact⟨_,by rw[<-h];exact choose_spec (choose_spec u)⟩
 simp at h;rintro⟨k,a⟩;have u:∃k r,ko step k st=some r:=⟨k,r,a⟩;rw[dif_pos u];have z:=choose_spec (choose_spec u);have B:=Ba (le_max_left (Classical.choose u) k) z;have w:=Ba (le_max_right (Classical.choose u) k) a;rw[B]at w;exact w
def jN(ps:ST)(A B:St->a_ (Out×St))(st:St)(x:So)(m:Tb bN):a_ (Out×Tb bN):=
 if x.length=ps.length then
  match A {g:=yY st.g ps (x.map .v),m:=m,pin:=st.pin++rL st.g,want:=[],more:=true,yid:=0}with
  |some (.norm,u)=>(B u).map λ(o,st2)=>(o,st2.m)|_=>none
 else none
def sL(step:So->Tb bN->a_ (Out×Tb bN)):S'->Tb bN->a_ (Out×Tb bN)
 |[],m=>some (.norm,m)|x::xs,m=>match step x m with
  |some (.norm,m')=>sL step xs m'|r=>r
def cU(S:Sys)(c:cr):RC->St->a_ (Out×St)
 |.skip,st=>some (.norm,st)|.ops l,st=>(oT S c false [] l st).map λst=>(.norm,st)|.qZ l,st=>(oT S c true [] l st).map λst=>(.norm,st)|.seq a b,st=>match cU S c a st with
  |some (.norm,st')=>cU S c b st'|r=>r
 |.cond x a b,st=>match sR S.N st.g x with
  |some (.v (.bool t))=>if t then cU S c a st else cU S c b st|_=>none
 |.block id a,st=>match cU S c a st with
  |some (.exit B,st')=>if B=id then some (.norm,st')else some (.exit B,st')|r=>r
 |.loop a,st=>qp (cU S c a) st|.each g ps a b,st=>match sR S.N st.g g with
  |some (.v (.clo f x y))=>match S.items f x y with
   |some xs=>(sL (jN ps (cU S c a) (cU S c b) st) xs st.m).map λ(o,m)=>(o,{st with m:=m})|none=>none
  |_=>none
 |.exit id,st=>some (.exit id,st)|.ret,st=>some (.ret,st)|.gh x a,st=>(ghost x st).bind (cU S c a)|.hg a x,st=>match cU S c a st with
  |some (.norm,st')=>(ghost x st').map λst=>(.norm,st)|r=>r
def eZ(S:Sys)(f:Y')(a b:So)(xs:S'):Prop:=∀u more,(more=true/\u=xs\/more=false/\u≠[]/\∃r,xs=u++r)->∀yid J,Yc S J more yid->∀Z w z H,dK H Z a w->dK H Z b z->(∀i,Z i->(bt H i).isSome=true)->Deep H Z->J u (λ_=>False) Z H->∃n y H' B Z',(∀k,n<=k->run S.E k (.fn f) (w++.yld yid::z) H=some (y,H'))/\J [] B Z' H'
section
variable{ν ν' ν2:Nu}{Z Z':Nat->Prop}{st st' st2:St}{m m':Tb bN}{F F':WP}{H H' H1:bp}{S:Sys}{c:cr}{X:CX}{J:JT}
end
inductive yP(step:List V->Tb bN->Option (Out×Tb bN))(o:Out)(mf:Tb bN):List (List V)->Bool->Tb bN->Prop
 |nil(h:o=.norm):yP step o mf [] true mf|next(x:List V)(ws:List (List V))(more:Bool)(m m1:Tb bN)(h:step x m=some (.norm,m1))(r:yP step o mf ws more m1):yP step o mf (x::ws) more m|last(x:List V)(m:Tb bN)(h:step x m=some (o,mf))(ho:o≠.norm):yP step o mf [x] false m
def EZ{step:So->Tb bN->a_ (Out×Tb bN)}{o:Out}{D:Tb bN}:∀{xs:S'}{m:Tb bN},sL step xs m=some (o,D)->
 ∃B more,(more=true/\B=xs\/more=false/\B≠[]/\∃r,xs=B++r)/\yP step o D B more m
 |[],m,h=>by obtain⟨rfl,rfl⟩:=h;exact⟨[],true,.inl ⟨rfl,rfl⟩,.nil rfl⟩|x::xs,m,h=>by simp[sL]at h;split at h;rename_i m' u;have⟨B,more,b,a⟩:=EZ h;refine⟨x::B,more,?_,.next x B more m m' u a⟩;grind;refine⟨[x],false,.inr ⟨rfl,Zab,xs,rfl⟩,.last x m h λe=>?_⟩;simp_all
def wL(O0 Z0:Nat->Prop)(H0:bp):JT:=λw O Z H=>w=[]/\H0.length<=H.length/\(∀i,i<H0.length->¬O0 i->¬Z0 i->H[i]?=H0[i]?)/\(∀i,Z0 i->Z i/\bt H i=bt H0 i)/\(∀i,O i->O0 i\/H0.length<=i)/\(∀i,Z i->Z0 i\/O0 i\/H0.length<=i)
section
variable{ν ν' ν2:Nu}{Z Z':Nat->Prop}{st st' st2:St}{m m':Tb bN}{F F':WP}{H H' H1:bp}{S:Sys}{c:cr}{X:CX}{J:JT}{O0 Z0:Nat->Prop}{H0:bp}
def wL.yf{w:S'}{O Z B Z':Nat->Prop}{H H':bp}(j:wL O0 Z0 H0 w O Z H)(D:H.length<=H'.length)(G:∀i,i<H.length->¬O i->¬Z i->H'[i]?=H[i]?)(a:∀i,Z i->Z' i/\bt H' i=bt H i)
 (J:∀i,B i->O i\/H.length<=i)(U:∀i,Z' i->Z i\/O i\/H.length<=i):wL O0 Z0 H0 w B Z' H':=by
 have⟨u,z,I,C,L,Q⟩:=j;refine⟨u,le_trans z D,λi b S T=>?_,λi h=>⟨(a i (C i h).1).1,Zac⟩,λi h=>?_,λi h=>?_⟩
 .grind
 .grind
 grind
def wL.yc{more:X'}{yid:Nat}:Yc S (wL O0 Z0 H0) more yid where
 yf:=λ_ _ _ _ _ _ _ j a u w z B=>j.yf a u w z B
 yield:=λx C O Z H args j=>by have⟨h,_⟩:=j;cases h
def wL.refl(r:R ν Z st F H):wL (gB ν st.m) Z H [] (gB ν st.m) Z H:=⟨rfl,le_refl _,λ_ _ _ _=>rfl,λi h=>⟨h,rfl⟩,λi h=>.inl h,λi h=>.inl h⟩
mutual
def FT{d:Nat}:∀{sv:SV},sv.dc d=true->d∈sv.names
 |.v _,h=>by simp[SV.dc]at h|.own e,h=>by simp[SV.dc]at h;simp[SV.names,h]|.ptr e _,h=>by simp[SV.dc]at h;simp[SV.names,h]|.el e _ _,h=>by simp[SV.dc]at h;simp[SV.names,h]|.mp e,h=>by simp[SV.dc]at h;simp[SV.names,h]|.clo f a b,h=>by simp only[SV.dc,or_eq_true]at h;simp only[SV.names,mem_append];exact h.imp s8 s8|.tup l,h=>by simp only[SV.dc]at h;simp only[SV.names];exact s8 h|.agg l,h=>by simp only[SV.dc]at h;simp only[SV.names];exact s8 h|.yl _,h=>by simp[SV.dc]at h
def s8{d:Nat}:∀{l:SW},SV.dW d l=true->d∈SV.yF l
 |[],h=>by simp[SV.dW]at h|x::r,h=>by simp only[SV.dW,or_eq_true]at h;simp only[SV.yF,mem_append];exact h.imp FT s8
end
def Ds{d:Nat}:∀{g:Tb SV}{s:Nat}{sv:SV},bn g s=some sv->sv.dc d=true->d∈rL g
 |[],s,sv,h,_=>by simp[bn]at h|(k,x)::r,s,sv,h,B=>by simp[bn]at h;simp[rL];split at h;simp at h;subst h;exact .inl (FT B);exact .inr (Ds h B)
def R.ZV(r:R ν Z st F H){Z2:Nat->Prop}(b:∀i,Z2 i->¬gB ν st.m i)(G:∀i,Z2 i->(bt H i).isSome=true)(J:Deep H Z2):R ν (λi=>Z i\/Z2 i) st F H:=by have w:∀i,Z i->(Z i\/Z2 i)/\bt H i=bt H i:=λi h=>⟨.inl h,rfl⟩;have z:∀i,Z2 i->(Z i\/Z2 i)/\bt H i=bt H i:=λi h=>⟨.inr h,rfl⟩;refine⟨λs I L=>(r.slot s I L).mono w λe _=>jP ν st.m e,λd ob hd=>eP.mono w rfl (λ_=>rfl) (λe _=>jP ν st.m e) (r.obj d ob hd),r.inj,λd ob hd C a=>?_,λi hi=>?_,⟨λid es D hi hr c hc u hu=>?_⟩⟩;rcases a with a|a;exact r.apart d ob hd C a;exact b _ a ⟨d,ob,hd,C,rfl⟩;exact hi.elim (r.zrow i) (G i);rcases hi with hi|hi;have⟨x,B⟩:=r.deep.row id es D hi hr c hc u hu;exact⟨x,B.mono w⟩;have⟨x,B⟩:=J.row id es D hi hr c hc u hu;exact⟨x,B.mono z⟩
def R.Y7:∀{ps:ST}{xs:So}{vs:So}{g:Tb SV}{F:WP},R ν Z {st with g:=g} F H->dK H Z xs vs->xs.length=ps.length->R ν Z {st with g:=yY g ps (xs.map .v)} (z_ ps vs F) H
 |[],xs,vs,g,F,r,h,B=>by have:=length_eq_zero_iff.1 B;subst this;exact r|p::ps,[],vs,g,F,r,h,B=>Zad|p::ps,x::xs,vs,g,F,r,h,B=>by obtain⟨w,z,rfl,a,u⟩:=h.inv;exact R.Y7 (ps:=ps) (r.put (.v _ _ a)) u Zac
def uE(X:CX)(S:Sys)(ro:X')(code:Code)(B:St->a_ (Out×St)):Prop:=∀st o st',B st=some (o,st')->∀(J:JT)ν Z F H,Yc S J st.more st.yid->R ν Z st F H->J st.want (gB ν st.m) Z H->∃n F' H' ν' Z',(∀k,n<=k->exec S.E (run S.E k) k ro X.nt code F H=some (o,F',H'))/\R ν' Z' st' F' H'/\J st'.want (gB ν' st'.m) Z' H'/\Fix ν st ν' st'
def UX(st:St)(m:Tb bN):St:={g:=st.g,m:=m,pin:=st.pin++rL st.g,want:=[],more:=true,yid:=0}
def JI(X:CX)(st:St)(F:WP)(ν:Nu)(O0 Z0:Nat->Prop)(H0:bp)(B:Nat)(ps:ST)(J U:Code)(step:So->Tb bN->a_ (Out×Tb bN))(o:Out)(G:Tb bN)(more:X'):JT:=λw O Z H=>∃m z D u,R z D (UX st m) F H/\wL O0 Z0 H0 [] (gB z m) D H/\(∀i,O i->¬gB z m i/\¬D i/\i≠B/\H0.length<=i)/\(∀i,Z i->¬gB z m i/\i≠B/\(Z0 i\/H0.length<=i))/\¬gB z m B/\¬D B/\H0.length<=B/\H[B]?=some (.loop u)/\(u.frame=F/\u.nt=X.nt/\u.params=ps/\u.assign=J/\u.body=U)/\(∀d∈st.pin++rL st.g,∀C,bn m d=some C->∃ob,bn st.m d=some ob/\z d=ν d/\sameShape ob C)/\((yP step o G w more m/\u.st=.ready/\u.pend=none)\/(w=[]/\m=G/\u.st=.done/\u.pend=some o))
def JI.yf{w:S'}{O Z G Z':Nat->Prop}{H H':bp}{B:Nat}{ps:ST}{J U:Code}{step:So->Tb bN->a_ (Out×Tb bN)}{o:Out}{W:Tb bN}{more:X'}
 (j:JI X st F ν O0 Z0 H0 B ps J U step o W more w O Z H)(Y:H.length<=H'.length)(D:∀i,i<H.length->¬O i->¬Z i->H'[i]?=H[i]?)(v:∀i,Z i->Z' i/\bt H' i=bt H i)
 (d:∀i,G i->O i\/H.length<=i)(e:∀i,Z' i->Z i\/O i\/H.length<=i):JI X st F ν O0 Z0 H0 B ps J U step o W more w G Z' H':=by
 have⟨m,S,I,T,r,f,a,b,g,k,l,n,p,q,s⟩:=j;have u:=λi hi=>D i (r.lt hi) (λh=>(a i h).1 hi) (λh=>(b i h).1 hi)
 have z:∀i,I i->bt H' i=bt H i:=λi hi=>by by_cases C:Z i;grind;unfold bt;rw[D i (r.yw hi) (λh=>(a i h).2.1 hi) C]
 have x:=(ζe.1 n).1;refine⟨m,S,I,T,r.heap u z,?_,λi h=>?_,λi h=>?_,g,k,l,?_,p,q,s⟩
 .have⟨j1,L,j3,j4,j5,j6⟩:=f;refine⟨j1,le_trans L Y,λi c t Q=>?_,λi h=>⟨(j4 i h).1,Zac⟩,j5,j6⟩
  rw[D i (Nat.lt_of_lt_of_le c L) (λh=>by have:=(a i h).2.2.2;omega) (λh=>by rcases(b i h).2.2 with h|h;exact Q h;omega),j3 i c t Q]
 .rcases d i h with h|h
  .exact a i h
  exact⟨λhi=>absurd (r.lt hi) Zaa,λhi=>absurd (r.yw hi) Zaa,Zaa,Zaa⟩
 .rcases e i h with h|h|h
  .exact b i h
  .exact⟨(a i h).1,(a i h).2.2.1,.inr (a i h).2.2.2⟩
  exact⟨λhi=>absurd (r.lt hi) Zaa,Zaa,.inr Zaa⟩
 grind
def JI.yield(S:Sys){A B:St->a_ (Out×St)}{M N:Code}(hA:uE X S true M A)(hB:uE X S true N B){D:Nat}{ps:ST}(ax:ps.all (·<X.nt)=true){o:Out}{p:Tb bN}{more:X'}
 {x:So}{f:S'}{O Z:Nat->Prop}{H:bp}{args:So}(j:JI X st F ν O0 Z0 H0 D ps M N (jN ps A B st) o p more (x::f) O Z H)
 (hx:dK H Z x args)(an:∀i,Z i->(bt H i).isSome=true)(ay:Deep H Z)(aA:∀i,O i->¬Z i/\i<H.length):
 ∃n H',run S.E n (.yld D) args H=some (.bool (more|| !f.isEmpty),H')/\JI X st F ν O0 Z0 H0 D ps M N (jN ps A B st) o p more f O Z H'/\H.length<=H'.length/\(∀i,O i->H'[i]?=H[i]?)/\(∀i,Z i->bt H' i=bt H i):=by
 have⟨m,q,g,c,r,ej,d1,t,P,l2,l3,l4,⟨q1,q2,q3,q4,q5⟩,l6,l7⟩:=j;have aB:yP (jN ps A B st) o p (x::f) more m/\c.st=.ready/\c.pend=none:=by grind
 have⟨hE,T,aC⟩:=aB;have U:∃v m1,jN ps A B st x m=some (v,m1)/\(v=.norm/\yP (jN ps A B st) o p f more m1/\(more|| !f.isEmpty)=true\/v≠.norm/\v=o/\m1=p/\f=[]/\more=false):=by cases hE with|next _ _ _ _ m1 h hr=>refine⟨.norm,m1,h,.inl ⟨rfl,hr,?_⟩⟩;cases hr<;>simp|last _ _ h ho=>grind
 have⟨v,m1,w,ab⟩:=U;unfold jN at w;split at w
 .rename_i ad;split at w
  .rename_i ah aD;have⟨⟨z,st2⟩,aE,e⟩:=ζf.1 w;simp at e;obtain⟨rfl,rfl⟩:=e;have aF:=(ζe.1 l4).1;have r1:=r.ZV (λi hi=>(t i hi).1) an ay
   have aG:dK H (λi=>g i\/Z i) x args:=hx.mono λi hi=>⟨.inr hi,rfl⟩
   have r2:=R.Y7 (st:=UX st m) r1 aG ad;have⟨nA,F2,H2,ν2,Z2,a1,a2,a3,a4⟩:=hA _ _ _ aD (wL (gB q m) (λi=>g i\/Z i) H) q _ _ H wL.yc r2 (wL.refl r1)
   have⟨b1,b2,b3,b4,y,b6⟩:=a3;have ai:¬(g D\/Z D):=λh=>h.elim l2 λh=>(t D h).2.1 rfl
   have ao:H2[D]?=some (.loop c):=by rw[b3 D aF P ai];omega
   have ae:D<H2.length:=Zaa
   have W:¬gB ν2 ah.m D:=λh=>(y D h).elim P λh=>Zaa
   have aj:¬Z2 D:=λh=>by rcases b6 D h with h|h|h;exact ai h;exact P h;omega
   have u:∀(ob:Ob)(Hh:bp)(i:Nat),i≠D->(Hh.set D ob)[i]?=Hh[i]?:=λob Hh i Y=>by rw[getElem?_set,if_neg (Ne.symm Y)]
   have r3:R ν2 Z2 ah F2 (H2.set D (.loop {c with st:=.busy})):=a2.heap (λi hi=>u _ _ i λe=>W (e▸hi)) (λi hi=>by unfold bt;rw[u _ _ i λe=>aj (e▸hi)])
   have⟨nB,F4,b,E,k,c1,c2,c3,c4⟩:=hB _ _ _ aE (wL (gB ν2 ah.m) Z2 (H2.set D (.loop {c with st:=.busy}))) ν2 Z2 F2 _ wL.yc r3 (by
    rw[b1];exact wL.refl r3)
   have⟨_,g2,g3,g4,g5,g6⟩:=c3;simp at g2 g3 g5 g6;have ap:b[D]?=some (.loop {c with st:=.busy}):=by rw[g3 D ae W aj,getElem?_set_self ae]
   have aq:D<b.length:=Zaa
   have ar:=λh=>(g5 D h).elim W λh=>Zaa
   have au:¬k D:=λh=>by rcases g6 D h with h|h|h;exact aj h;exact W h;omega
   generalize K:({c with st:=(if z==.norm then Dy.ready else Dy.done),pend:=(if z==.norm then none else some z)}:xS)=G;have r5:R E k st2 F4 (b.set D (.loop G)):=c2.heap (λi hi=>u _ _ i λe=>ar (e▸hi)) (λi hi=>by unfold bt;rw[u _ _ i λe=>au (e▸hi)])
   have L:H.length<=(b.set D (.loop G)).length:=by simp;omega
   have ak:∀i,i<H.length->i≠D->¬gB q m i->¬(g i\/Z i)->(b.set D (.loop G))[i]?=H[i]?:=λi a J I l=>by rw[u _ _ i J,g3 i Zaa (λh=>(y i h).elim I λh=>Zaa) (λh=>by rcases b6 i h with h|h|h;exact l h;exact I h;omega),u _ _ i J,b3 i a I l]
   have C:∀i,(g i\/Z i)->k i/\bt (b.set D (.loop G)) i=bt H i:=λi hi=>by have Y:i≠D:=λe=>ai (e▸hi);have⟨t1,t2⟩:=b4 i hi;have⟨t3,t4⟩:=g4 i t1;refine⟨t3,?_⟩;rw[<-t2];have:bt (H2.set D (.loop {c with st:=.busy})) i=bt H2 i:=(by unfold bt;rw[u _ _ i Y]);rw[<-this,<-t4];unfold bt;rw[u _ _ i Y]
   have Q:∀i,gB E st2.m i->gB q m i\/H.length<=i:=λi hi=>by rcases g5 i hi with h|h;exact y i h;exact .inr Zaa
   have af:∀i,k i->(g i\/Z i)\/gB q m i\/H.length<=i:=λi hi=>by rcases g6 i hi with h|h|h;exact b6 i h;rcases y i h with h|h;exact .inr (.inl h);exact .inr (.inr h);exact .inr (.inr Zaa)
   have fx:=a4.trans c4;have r6:R E k (UX st st2.m) F (b.set D (.loop G)):=⟨λs sv hs=>(r.slot s sv hs).mono (λi hi=>C i (.inl hi)) λd hd al am=>fx.pin d (List.mem_append_right _ (Ds hs hd)) al am,r5.obj,r5.inj,r5.apart,r5.zrow,r5.deep⟩
   have av:run S.E (max nA nB+1) (.yld D) args H=some (.bool (z==.norm),b.set D (.loop G)):=by simp only[run,lg,l4];rw[if_pos (by rw[q3];exact⟨by rw[<-hx.1];exact ad,by rw[q2];exact ax⟩)];rw[q1,q2,q3,q4,q5];rw[a1 _ (le_max_left _ _)];simp only[ao,T];rw[c1 _ (le_max_right _ _)];simp only[ap];rw[<-K]
   refine⟨max nA nB+1,b.set D (.loop G),?_,⟨st2.m,E,k,G,r6,?_,λi hi=>?_,λi hi=>?_,ar,au,l3,?_,?_,λd hd al am=>?_,?_⟩,L,λi hi=>?_,λi hi=>(C i (.inr hi)).2⟩
   .rw[av];rcases ab with⟨a,_,I⟩|⟨a,_,_,l,h5⟩
    .rw[a,I];rfl
    rw[l,h5]
    cases aH:z with
    |norm=>exact absurd aH a|_=>rfl
   .have⟨j1,j2,j3,j4,j5,j6⟩:=ej;refine⟨rfl,le_trans j2 L,λi a J I=>?_,λi h=>⟨(C i (.inl (j4 i h).1)).1,by rw[(C i (.inl (j4 i h).1)).2,(j4 i h).2]⟩,λi h=>?_,λi h=>?_⟩
    .rw[ak i Zaa Zaa (λh=>by rcases j5 i h with h|h;exact J h;omega) (λh=>by
      rcases h with h|h
      .rcases j6 i h with h|h|h;exact I h;exact J h;omega
      rcases(t i h).2.2 with h|h;exact I h;omega),j3 i a J I]
    .rcases Q i h with h|h
     .exact j5 i h
     exact .inr Zaa
    rcases af i h with(h|h)|h|h
    .exact j6 i h
    .rcases (t i h).2.2 with h|h;exact .inl h;exact .inr (.inr h)
    .rcases j5 i h with h|h;exact .inr (.inl h);exact .inr (.inr h)
    exact .inr (.inr Zaa)
   .have⟨t1,t2⟩:=aA i hi;have⟨t3,t4,t5,t6⟩:=d1 i hi;refine⟨λh=>(Q i h).elim t3 λh=>Zaa,λh=>?_,t5,t6⟩
    rcases af i h with(h|h)|h|h
    .exact t4 h
    .exact t1 h
    .exact t3 h
    omega
   .have⟨t1,t2,t3⟩:=t i hi;have aJ:i<H.length:=by
     have:=an i hi;unfold bt at this
     cases hh:H[i]?with
     |none=>rw[hh]at this;simp at this|some _=>exact(ζe.1 hh).1
    exact⟨λh=>(Q i h).elim t1 λh=>Zaa,t2,t3⟩
   .rw[getElem?_set_self aq]
   .subst K;exact⟨q1,q2,q3,q4,q5⟩
   .have⟨aI,a,J,I⟩:=fx.pin d hd al am;have⟨ob,k1,k2,k3⟩:=l6 d hd aI a;exact⟨ob,k1,by rw[J,k2],k3.trans I⟩
   .rcases ab with⟨a,J,I⟩|⟨a,J,I,l,h5⟩
    .left;subst a;subst K;exact⟨J,rfl,rfl⟩
    right;subst K;have hb:¬(z==Out.norm)=true:=by simpa using a
    refine⟨l,I,?_,?_⟩
    .show (if(z==Out.norm)=true then Dy.ready else Dy.done)=Dy.done;rw[if_neg hb]
    show(if(z==Out.norm)=true then none else some z)=some o;rw[if_neg hb,J]
   grind
  grind
 grind
end
end Go.VE
