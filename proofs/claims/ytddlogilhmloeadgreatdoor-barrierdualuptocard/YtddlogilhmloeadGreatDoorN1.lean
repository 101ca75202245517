/- Objects. -/
import Derived.Test.YtddlogilhmloeadGreatDoorV2
set_option linter.all false
open Option renaming some→M,some→_h,none→G,none→_n,bind→H,bind→_l
open Bool renaming true→O,true→_k,false→U,false→_m
open Decidable renaming decide→_p
open List renaming length→W,length→_j
open Go.IntKind renaming i64→Z,i64→_o
open List renaming all_eq_true→M?,drop_drop→D!,drop_zero→L!,getElem?_append_left→u?,getElem?_append_right→G?,getElem?_drop→R?,getElem?_set→D?,getElem?_set_ne→E?,getElem?_set_self→J?,getElem?_take→I?,mem_cons→n8,mem_of_getElem?→s?,replicate→w?,take_length→H?
open Bool renaming false_eq_true→v?,not_eq_true'→e!,or_eq_false_iff→l!,or_eq_true→g!
open Option renaming map_some→B?
open Nat renaming le_max_left→p!,le_max_right→n!,le_refl→z?,le_trans→U?
open List(length_eq_zero_iff mem_iff_getElem?)
open Nat(le)
open Option(isSome_iff_exists)
open Nat(le)
open Prod(fst)
namespace Go.VE
variable[b8]
inductive Fl where|nil|emp|row|part
 deriving DecidableEq,Inhabited
inductive SV where
 |v(x:V)|own(d:Nat)|ptr(d off:Nat)|el(d i off:Nat)|mp(d:Nat)|clo(f:FuncId)(a b:List SV)|tup(l:List SV)|agg(l:List SV)|yl(id:Nat)
 deriving Inhabited
abbrev R':=aX SV
inductive bD where
 |sl(k:Fl)(es:Nat)(xs:List (List V))|box(cs:List SV)|mp(kvs:List (V×V))|dp(k:Fl)(xs:List (List V))(h:Option (Nat×Nat))
abbrev Tb(α:Type):=aX (Nat×α)
def bh{α:Type}:Tb α->Nat->aY α
 |[],_=>G|(k,v)::r,n=>if k=n then M v else bh r n
def bE{α:Type}:Tb α->Nat->α->Tb α
 |[],n,v=>[(n,v)]|(k,x)::r,n,v=>if k=n then(k,v)::r else(k,x)::bE r n v
def dH{α:Type}(n:Nat):Tb α->Tb α
 |[]=>[]|(k,x)::r=>if k=n then dH n r else(k,x)::dH n r
def rB{α:Type}:ST->Tb α->Tb α
 |[],g=>g|d::ds,g=>rB ds (dH d g)
def Al{α:Type}:Tb α->ST->aX α->Tb α
 |g,p::ps,v::vs=>Al (bE g p v) ps vs|g,_,_=>g
def l8{α:Type}(g:Tb α):ST->aY (Tb α)
 |[]=>M []|n::r=>match bh g n,l8 g r with
  |some v,M t=>M ((n,v)::t)|_,_=>G
structure St where
 g:Tb SV
 m:Tb bD
 pin:List Nat
 want:List (List V)
 more:Bool
 yid:Nat
structure JA where
 part:Bool
 go:Nat->List (List V)->List V->Option (List (List V))
structure Sys where
 E:Env
 N:Nat->FuncId
 items:FuncId->List V->List V->Option (List (List V))
 A2:FuncId->List V->Option V
 prm:FuncId->Option JA
inductive Arg where
 |s(n:Nat)|k(c:V)|f(name:Nat)
abbrev QQ:=aX Arg
inductive Loc where
 |s(n:Nat)|c(b i:Nat)
inductive Gh where
 |melt(d:Nat)|take(d:Nat)(i:Loc)(es t:Nat)|put(d:Nat)|close(d:Nat)|closeB(d:Nat)|canon(l:Loc)(d:Nat)(es:Nat)|keep(gs ms:List Nat)|drop(ds:List Nat)|closeS(l:Loc)
abbrev QR:=aX Gh
structure RO where
 dst:Option Nat
 gd:Option (Nat×Bool)
 now:Bool
 k:K
 az:List Arg
 dead:List Nat:=[]
 pre:List Gh:=[]
abbrev Rd:=aX RO
inductive RC where
 |skip|ops(l:List RO)|vI(l:List RO)|seq(a b:RC)|cond(x:Arg)(a b:RC)|block(id:Nat)(c:RC)|loop(c:RC)|each(g:Arg)(ps:List Nat)(a b:RC)|exit(id:Nat)|ret|gh(x:Gh)(c:RC)|hg(c:RC)(x:Gh)
inductive RV where
 |s(n:Nat)|ld(n size:Nat)(agg:Bool)
abbrev Pi:=aX RV
structure RF where
 na:Nat
 rs:List RV
 body:RC
mutual
def SV.cR(d:Nat):SV->X'
 |.v _=>U|.own e=>e==d|.ptr e _=>e==d|.el e _ _=>e==d|.mp e=>e==d|.clo _ a b=>SV.dL d a||SV.dL d b|.tup l=>SV.dL d l|.agg l=>SV.dL d l|.yl _=>U
def SV.dL(d:Nat):R'->X'
 |[]=>U|x::r=>SV.cR d x||SV.dL d r
end
def bD.cR(d:Nat):bD->X'
 |.box cs=>SV.dL d cs|.dp _ _ (M (_,t))=>t==d|_=>U
def xh(d:Nat):Tb SV->X'
 |[]=>U|(_,x)::r=>SV.cR d x||xh d r
def vw(d:Nat):Tb bD->X'
 |[]=>U|(_,x)::r=>bD.cR d x||vw d r
def St.new(st:St)(d:Nat):X':= !(st.pin.contains d)&&(bh st.m d).isNone&& !(xh d st.g)&& !(vw d st.m)
mutual
def SV.uR(d e:Nat):SV->SV
 |.v x=>.v x|.own k=>.own (if k=d then e else k)|.ptr k o=>.ptr (if k=d then e else k) o|.el k i o=>.el (if k=d then e else k) i o|.mp k=>.mp (if k=d then e else k)|.clo f a b=>.clo f (SV.yj d e a) (SV.yj d e b)|.tup l=>.tup (SV.yj d e l)|.agg l=>.agg (SV.yj d e l)|.yl id=>.yl id
def SV.yj(d e:Nat):R'->R'
 |[]=>[]|x::r=>SV.uR d e x::SV.yj d e r
end
def bD.uR(d e:Nat):bD->bD
 |.box cs=>.box (SV.yj d e cs)|.dp k xs (M (i,t))=>.dp k xs (M (i,if t=d then e else t))|o=>o
def Dn(d e:Nat):Tb SV->Tb SV
 |[]=>[]|(n,x)::r=>(n,x.uR d e)::Dn d e r
def yq(d e:Nat):Tb bD->Tb bD
 |[]=>[]|(n,x)::r=>((if n=d then e else n),x.uR d e)::yq d e r
mutual
def SV.sub(d:Nat)(w:V):SV->SV
 |.own k=>if k=d then .v w else .own k|.clo f a b=>.clo f (SV.wJ d w a) (SV.wJ d w b)|.tup l=>.tup (SV.wJ d w l)|.agg l=>.agg (SV.wJ d w l)|x=>x
def SV.wJ(d:Nat)(w:V):R'->R'
 |[]=>[]|x::r=>SV.sub d w x::SV.wJ d w r
end
def dw:R'->aY So
 |[]=>M []|.v x::r=>(dw r).map (x::·)|_::_=>G
def Wg(f:Y')(a b:R'):SV:=
 match dw a,dw b with
 |some x,M y=>.v (.clo f x y)|_,_=>.clo f a b
mutual
def SV.Fi(d:Nat)(cs:So):SV->SV
 |.ptr k o=>if k=d then(if o<=W cs then .v (.fptr (cs.drop o))else .ptr k o)else .ptr k o|.clo f a b=>Wg f (SV.t_ d cs a) (SV.t_ d cs b)|.tup l=>.tup (SV.t_ d cs l)|.agg l=>.agg (SV.t_ d cs l)|x=>x
def SV.t_(d:Nat)(cs:So):R'->R'
 |[]=>[]|x::r=>SV.Fi d cs x::SV.t_ d cs r
end
def CJ(f:SV->SV):Tb SV->Tb SV
 |[]=>[]|(n,x)::r=>(n,f x)::CJ f r
def mapM(f:R'->R'):Tb bD->Tb bD
 |[]=>[]|(n,.box cs)::r=>(n,.box (f cs))::mapM f r|(n,o)::r=>(n,o)::mapM f r
mutual
def SV.names:SV->ST
 |.own d|.ptr d _|.el d _ _|.mp d=>[d]|.clo _ a b=>SV.zI a++SV.zI b|.tup l=>SV.zI l|.agg l=>SV.zI l|_=>[]
def SV.zI:R'->ST
 |[]=>[]|x::r=>SV.names x++SV.zI r
end
def sB:Tb SV->ST
 |[]=>[]|(_,x)::r=>SV.names x++sB r
def kN(k:Fl)(es:Nat)(xs:S'):V:=
 match k with
 |.nil=>.bG|.emp=>.dN|_=>.fsl es xs
mutual
def V.lvl:Nat->V->X'
 |n,.fsl _ xs=>match n with|0=>U|n+1=>V.rF n xs
 |n,.fptr cs=>match n with|0=>U|n+1=>V.nv n cs
 |n,.fmap B=>match n with|0=>U|n+1=>V.vU n B
 |n,.agg cs=>match n with|0=>U|n+1=>V.nv n cs
 |n,.tup cs=>match n with|0=>U|n+1=>V.nv n cs
 |n,.clo _ a b=>match n with|0=>U|n+1=>V.nv n a&&V.nv n b
 |_,_=>O
def V.nv:Nat->So->X'
 |_,[]=>O|n,x::r=>V.lvl n x&&V.nv n r
def V.rF:Nat->S'->X'
 |_,[]=>O|n,x::r=>V.nv n x&&V.rF n r
def V.vU:Nat->aX (V×V)->X'
 |_,[]=>O|n,(k,x)::r=>V.lvl n k&&V.lvl n x&&V.vU n r
end
mutual
def shut(m:Tb bD):Nat->SV->aY V
 |_,.v x=>M x|_,.own d=>match bh m d with
  |some (.sl k es xs)=>M (kN k es xs)|some (.dp k xs G)=>M (kN k 1 xs)|_=>G
 |n+1,.ptr d o=>match bh m d with
  |some (.box cs)=>match dz m n cs with
   |some xs=>if o<=W xs then M (.fptr (xs.drop o))else G|none=>G
  |_=>G
 |_,.mp d=>match bh m d with
  |some (.mp B)=>M (.fmap B)|_=>G
 |n+1,.clo f a b=>match dz m n a,dz m n b with
  |some x,M y=>M (.clo f x y)|_,_=>G
 |n+1,.tup l=>(dz m n l).map .tup|n+1,.agg l=>(dz m n l).map .agg|_,_=>G
def dz(m:Tb bD):Nat->R'->aY So
 |_,[]=>M []|n,x::r=>match shut m n x,dz m n r with
  |some y,M s=>M (y::s)|_,_=>G
end
end Go.VE
namespace Go.VE
variable[b8]
mutual
def V.good:V->X'
 |.hsl ..|.hptr ..|.yld ..|.hmap ..=>U|.fsl _ xs=>V.pg xs|.fptr cs=>V.cN cs|.fmap B=>V.vH B|.clo _ a b=>V.cN a&&V.cN b|.agg cs=>V.cN cs|.tup cs=>V.cN cs|_=>O
def V.cN:So->X'
 |[]=>O|x::r=>V.good x&&V.cN r
def V.pg:S'->X'
 |[]=>O|x::r=>V.cN x&&V.pg r
def V.vH:aX (V×V)->X'
 |[]=>O|(k,x)::r=>V.good k&&V.good x&&V.vH r
end
abbrev dK:=Tb bD
abbrev cg:=FuncId->aX SV->dK->aY (aX SV×dK)
def tN(N:Nat->Y')(g:Tb SV):Arg->aY SV
 |.s n=>bh g n|.k c=>M (.v c)|.f s=>M (.v (.clo (N s) [] []))
def bW(N:Nat->Y')(g:Tb SV):QQ->aY R'
 |[]=>M []|x::r=>match tN N g x,bW N g r with
  |some v,M vs=>M (v::vs)|_,_=>G
def b_:Fl->X'
 |.row|.part=>O|_=>U
def m_(m:Tb bD):SV->X'
 |.own d|.ptr d _|.el d _ _|.mp d=>(bh m d).isSome|.clo ..=>O|_=>U
def zV(m:Tb bD):SV->X'
 |.v x=>x.one|x=>m_ m x
def AO(m:Tb bD):SV->aY R'
 |.v x=>M (x.cells.map .v)|.agg l=>M l|x=>if m_ m x then M [x]else G
def vK(m:Tb bD)(cells:R'):aX (Nat×Nat)->R'->aY R'
 |[],[]=>M cells|(off,size)::pl,v::vs=>match AO m v with
  |some c=>if W c=size/\off+W c<=W cells then vK m (cells.take off++c++cells.drop (off+W c)) pl vs else G|none=>G
 |_,_=>G
def xk(size:Nat)(agg:X')(cs:R'):aY SV:=
 if W cs=size then
  if agg then match dw cs with
   |some u=>M (.v (.agg u))|none=>M (.agg cs)
  else match cs with
   |[x]=>M x|_=>G
 else G
def Af(N:Nat->Y')(m:Tb bD):xI->R'->aY SV
 |.id,[x]=>M x|.nilc,[.ptr d o]=>if(bh m d).isSome then M (.ptr d o)else G|.nilc,[.el d i o]=>if(bh m d).isSome then M (.el d i o)else G|.pick,[.v (.bool t),a,b]=>M (if t then a else b)|.bin (M .slice) _ .eql,[.own d,.v .bG]=>match bh m d with
  |some (.sl k _ _)=>if k=.emp then G else M (.v (.bool (k==.nil)))|_=>G
 |.bin (M .slice) _ .neq,[.own d,.v .bG]=>match bh m d with
  |some (.sl k _ _)=>if k=.emp then G else M (.v (.bool (!(k==.nil))))|_=>G
 |.fieldAddr off,[.ptr d o]=>if(bh m d).isSome then M (.ptr d (o+off))else G|.fieldAddr off,[.el d i o]=>if(bh m d).isSome then M (.el d i (o+off))else G|.idxS size,[.own d,.v (.int _ i)]=>match bh m d with
  |some (.sl k es xs)=>if b_ k/\es=size/\0<=i/\i.toNat<W xs then M (.el d i.toNat 0)else G|some (.dp k xs _)=>if b_ k/\1=size/\0<=i/\i.toNat<W xs then M (.el d i.toNat 0)else G|_=>G
 |.idxA len size,[.ptr d o,.v (.int _ i)]=>if 0<=i/\i<len/\(bh m d).isSome then M (.ptr d (o+i.toNat*size))else G|.idxA len size,[.el d j o,.v (.int _ i)]=>if 0<=i/\i<len/\(bh m d).isSome then M (.el d j (o+i.toNat*size))else G|.lenSl,[.own d]=>match bh m d with
  |some (.sl _ _ xs)=>M (.v (.int _o (W xs)))|some (.dp _ xs _)=>M (.v (.int _o (W xs)))|_=>G
 |.clo name k,vs=>M (.clo (N name) (vs.take k) (vs.drop k))|.ext i,[.tup l]=>l[i]?|.build zero pl,vs=>(vK m (zero.map .v) pl vs).map .agg|.field off size agg,[.agg l]=>xk size agg ((l.drop off).take size)|_,_=>G
def kH(N:Nat->Y')(m:Tb bD)(p:xI)(m?:R'):aY SV:=
 match dw m? with
 |some u=>(bV N p u).map .v|none=>Af N m p m?
def QB(m:Tb bD)(d:Nat):SV->X'
 |.ptr B _=>B != d&&(match bh m B with|some (.box _)=>O|_=>U)|.v (.fptr _)=>O|_=>U
def oG(m:Tb bD):OU->R'->aY SV
 |.load size agg,[.ptr d o]=>match bh m d with
  |some (.box cs)=>xk size agg ((cs.drop o).take size)|_=>G
 |.load size agg,[.el d i o]=>match bh m d with
  |some (.sl _ _ xs)=>match xs[i]?with
   |some cs=>(_l (cut cs o size) (mk agg)).map .v|none=>G
  |some (.dp _ _ (M (j,t)))=>if j=i/\o=0/\size=1/\agg=U then M (.own t)else G|_=>G
 |.load size agg,[.v p]=>(_l (fD [] p size) (mk agg)).map .v|.lookup kk z ok,[.mp d,.v k]=>match bh m d with
  |some (.mp B)=>if rZ kk k then match jd k B 0 with
   |some (M (_,v))=>M (.v (if ok then .tup [v,.bool O]else v))|some G=>M (.v (if ok then .tup [z,.bool U]else z))|none=>G
   else G
  |_=>G
 |.lookup kk z ok,[.v p,.v k]=>(fW [] (.lookup kk z ok) [p,k]).map .v|.loadF size agg,.ptr d o::l=>if l.all (QB m d)=O then match bh m d with
  |some (.box cs)=>xk size agg ((cs.drop o).take size)|_=>G
  else G
 |_,_=>G
def eY(fr:ST):R'->X'
 |[]=>O|.v _::r=>eY fr r|.ptr d _::r=> !(fr.contains d)&&eY fr r|.el d _ _::r=> !(fr.contains d)&&eY fr r|.mp d::r=> !(fr.contains d)&&eY fr r|_=>U
def nG(m:Tb bD)(a:RP)(m?:R')(d:Nat):aY (bD×SV):=
 match a,m? with
 |.alloc _ zero,[]=>M (.box (zero.map .v),.ptr d 0)|.box,[.v x]=>if x.cells.all V.one then M (.box (x.cells.map .v),.ptr d 0)else G|.box,[.agg l]=>if l.all (zV m)then M (.box l,.ptr d 0)else G|.box,[x]=>if m_ m x then M (.box [x],.ptr d 0)else G|.makeSl size zero,[.v (.int k n),.v (.int z c)]=>if k=_o/\z=_o/\0<=n/\n<=c/\c<=2147483648 then M (.sl (if n=c then .row else .part) size (w? n.toNat zero),.own d)else G|.buildSl size len zero idx,u=>match dw u with
  |some w=>if W idx=W w then(gz size (w? len zero) (idx.zip w)).map λB=>(.sl .row size B,.own d)else G|none=>match u,zero with
   |[.own t],[.bG]=>if idx=[0]/\len=1/\size=1/\(bh m t).isSome then M (.dp .row [[.bG]] (M (0,t)),.own d)else G|_,_=>G
 |.makeMap,[]=>M (.mp [],.mp d)|_,_=>G
def jB(m:Tb bD)(size:Nat):SV->aY S'
 |.own d=>match bh m d with
  |some (.sl k es xs)=>if b_ k then(if es=size then M xs else G)else M []|_=>G
 |.v .bG=>M []|.v .dN=>M []|.v (.fsl es xs)=>if es=size then M xs else G|_=>G
def Mm:SV->X'
 |.own _|.v .bG|.v .dN=>O|_=>U
def putCells(m:Tb bD)(size o:Nat)(sv:SV)(cs:R'):aY R':=
 match sv with
 |.v x=>if W x.cells=size/\o+size<=W cs/\x.cells.all V.one=O then M (cs.take o++x.cells.map .v++cs.drop (o+size))else G|.agg l=>if W l=size/\o+size<=W cs/\l.all (zV m)=O then M (cs.take o++l++cs.drop (o+size))else G|x=>if m_ m x=O/\size=1/\o+1<=W cs then M (cs.take o++[x]++cs.drop (o+1))else G
def giveUp(m:Tb bD):SV->Tb bD
 |.own d=>dH d m|_=>m
def Dq(st:St)(dst:aY Nat)(size:Nat)(s x:SV):aY (SV×St):=
 match s,x,dst with
 |.own d,.own e,M t=>match bh st.m d,bh st.m e with
  |some (.dp k w G),M (.dp .row u G)=>
   if size=1/\d≠e/\u≠[]/\W w+W u<=2147483648 then
    let z:=dH e (dH d st.m)
    if St.new {st with m:=z} t then M (.own t,{st with m:=bE z t (.dp .row (w++u) G)})else G
   else G
  |_,_=>G
 |_,_,_=>G
def mM(st:St)(dst:aY Nat):Oj->R'->aY (SV×St)
 |.store size,[.ptr d o,x]=>match bh st.m d with
  |some (.box cs)=>(putCells st.m size o x cs).map λcs=>(.v .undef,{st with m:=bE st.m d (.box cs)})|_=>G
 |.store size,[.el d i o,.v x]=>match bh st.m d with
  |some (.sl k es xs)=>match xs[i]?with
   |some cs=>if W x.cells=size/\o+size<=W cs/\x.cells.all V.one=O then
    M (.v .undef,{st with m:=bE st.m d (.sl k es (xs.set i (cs.take o++x.cells++cs.drop (o+W x.cells))))})else G
   |none=>G
  |_=>G
 |.store size,[.el d i o,.own t]=>match bh st.m d with
  |some (.dp k xs (M (j,_)))=>if j=i/\o=0/\size=1/\(bh st.m t).isSome/\t≠d then M (.v .undef,{st with m:=bE st.m d (.dp k xs (M (i,t)))})else G|_=>G
 |.mapUp kk,[.mp d,.v k,.v x]=>match bh st.m d with
  |some (.mp B)=>if rZ kk k then(sJ k x B).map λB=>(.v .undef,{st with m:=bE st.m d (.mp B)})else G|_=>G
 |.append size,[s,x]=>match jB st.m size s,jB st.m size x with
  |some _,M []=>match dst with
   |some t=>match s with
    |.own d=>match bh st.m d with
     |some ob=>if St.new {st with m:=dH d st.m} t then M (.own t,{st with m:=bE (dH d st.m) t ob})else G|none=>G
    |.v .bG=>if st.new t then M (.own t,{st with m:=bE st.m t (.sl .nil size [])})else G|.v .dN=>if st.new t then M (.own t,{st with m:=bE st.m t (.sl .emp size [])})else G|_=>G
   |none=>G
  |some xs,M ys=>
   if W xs+W ys<=2147483648/\Mm s=O then
    let m1:=giveUp st.m s
    match dst with
    |some t=>if St.new {st with m:=m1} t then M (.own t,{st with m:=bE m1 t (.sl .row size (xs++ys))})else G|none=>G
   else G
  |_,_=>Dq st dst size s x
 |.storeF size,.ptr d o::x::l=>if l.all (QB st.m d)=O then match bh st.m d with
  |some (.box cs)=>(putCells st.m size o x cs).map λcs=>(.v .undef,{st with m:=bE st.m d (.box cs)})|_=>G
  else G
 |_,_=>G
def Du(st:St)(dst:aY Nat)(size:Nat)(lo hi:X')(d:Nat)(B:R'):aY (SV×St):=
 match bh st.m d,dw B,dst with
 |some (.sl k es u),M z,M t=>
  if b_ k=O/\es=size then
   _l (oK lo hi z) λ(l,h)=>_l (eA (W u) l h) λ(l,h)=>
    let w:=dH d st.m
    if St.new {st with m:=w} t then M (.own t,{st with m:=bE w t (.sl .part es ((u.take h).drop l))})else G
  else G
 |_,_,_=>G
def zR:R'->SV
 |[x]=>x|l=>.tup l
mutual
def SV.CF:SV->ST
 |.v _=>[]|.own e=>[e]|.ptr e _=>[e]|.el e _ _=>[e]|.mp e=>[e]|.clo _ a b=>SV.uM a++SV.uM b|.tup l=>SV.uM l|.agg l=>SV.uM l|.yl _=>[]
def SV.uM:R'->ST
 |[]=>[]|x::r=>SV.CF x++SV.uM r
end
def bD.CF:bD->ST
 |.box cs=>SV.uM cs|.dp _ _ (M (_,t))=>[t]|_=>[]
def reach(m:Tb bD):Nat->ST->ST->ST
 |0,_,seen=>seen|_+1,[],seen=>seen|n+1,d::r,seen=>if seen.contains d then reach m n r seen else reach m n ((match bh m d with|some ob=>bD.CF ob|none=>[])++r) (seen++[d])
def handed(m:Tb bD)(l:R'):aY dK:=l8 m (reach m 32 (SV.uM l) [])
mutual
def SV.bare:SV->X'
 |.v x=>x.scalar|.clo _ a b=>SV.zZ a&&SV.zZ b|.tup l=>SV.zZ l|.agg l=>SV.zZ l|_=>O
def SV.zZ:R'->X'
 |[]=>O|x::r=>SV.bare x&&SV.zZ r
end
def bD.bare:bD->X'
 |.box cs=>SV.zZ cs|_=>U
def A8(m:Tb bD)(k:Nat):X':=match bh m k with
 |some ob=>ob.bare|none=>O
def within(B:ST)(ob:bD):X':=ob.CF.all B.contains
def zX(B:ST)(m':dK):ST->Tb bD->aY (Tb bD)
 |[],m=>M m|d::r,m=>match bh m' d with
  |some ob=>if within B ob then zX B m' r (bE m d ob)else G|none=>G
def lY(m':dK)(l:ST)(m:Tb bD):aY (Tb bD):=zX l m' l m
def lM(xs:S'):X':=xs.all λx=>x.all V.scalar
def EJ(q:JA)(dst:aY Nat)(args:R')(st:St):aY (SV×St):=
 match args with
 |.own d::z=>match bh st.m d,dw z with
  |some (.sl k es u),M B=>match q.go es u B with
   |some w=>if q.part then match dst with
    |some t=>if St.new {st with m:=dH d st.m} t then M (.own t,{st with m:=bE (dH d st.m) t (if b_ k then .sl .part es w else .sl k es u)})else G|none=>G
    else M (.v .undef,{st with m:=bE st.m d (if b_ k then .sl k es w else .sl k es u)})
   |none=>G
  |_,_=>G
 |_=>G
def rowsOf(m:Tb bD):R'->aY ST
 |[]=>M []|.v _::r=>rowsOf m r|.own d::r=>match bh m d with
  |some (.sl ..)=>(rowsOf m r).map (d::·)|_=>G
 |_=>G
def eU(S:Sys)(c:cg)(dst:aY Nat)(dr now:X')(old:R'->X')(f:Y')(args:R')(st:St):aY (SV×St):=
 if S.E.keep f then
  if now then
   if S.E.own f then
    match dz st.m 8 args with
    |some az=>
     match c f (az.map .v) []with
     |some (rs,m')=>match dw rs with
      |some u=>if(result u).scalar then M (.v (result u),st)else G|none=>match rs,dst with
       |.own e::h?,M t=>match bh m' e,dw h? with
        |some (.sl .row es z),M u=>
         if V.c6 u&&lM z&&st.new t then
          M (zR (.own t::u.map .v),{st with m:=bE st.m t (.sl .row es z)})
         else G
        |some (.sl .nil es _),M u=>if V.c6 u&&st.new t then M (zR (.own t::u.map .v),{st with m:=bE st.m t (.sl .nil es [])})else G|some (.sl .emp es _),M u=>if V.c6 u&&st.new t then M (zR (.own t::u.map .v),{st with m:=bE st.m t (.sl .emp es [])})else G|_,_=>G
       |_,_=>G
     |none=>G
    |none=>G
   else match S.prm f with
    |some q=>if dr then G else EJ q dst args st|none=>match handed st.m args with
    |some os=>match c f args os with
     |some (rs,m')=>match dw rs,lY m' (os.map (·.1)) st.m with
      |some u,M w=>if dr&& !(V.c6 u&&os.all λx=>A8 w x.1)then G else M (.v (result u),{st with m:=w})|none,M w=>if dr then G else match rs,dst with
       |.own e::h?,M t=>match bh m' e,dw h? with
        |some (.sl k es z),M u=>if !(os.map (·.1)).contains e&&St.new {st with m:=w} t then M (zR (.own t::u.map .v),{st with m:=bE w t (.sl k es z)})else G|_,_=>G
       |.v p::.own e::h?,M t=>match bh m' e,dw h? with
        |some (.sl k es z),M u=>if !(os.map (·.1)).contains e&&St.new {st with m:=w} t then M (.tup (.v p::.own t::u.map .v),{st with m:=bE w t (.sl k es z)})else G|_,_=>G
       |_,_=>G
      |_,_=>G
     |none=>G
    |none=>G
  else if(S.E.own f||S.E.soft f)&&old args then match dz st.m 8 args with
   |some az=>match c f (az.map .v) []with
    |some (rs,m')=>match dz m' 8 rs with
     |some u=>if(result u).scalar||(dw args).isSome then M (.v (result u),st)else G|none=>G
    |none=>G
   |none=>G
  else G
 else match dz st.m 8 args with
  |some az=>if now||old args then
   match c f (az.map .v) []with
   |some (rs,m')=>match dz m' 8 rs with
    |some u=>if(result u).scalar||(dw args).isSome then M (.v (result u),st)
     else if now then(rowsOf st.m args).map λds=>(.v (result u),{st with m:=rB ds st.m})
     else G
    |none=>G
   |none=>G
   else G
  |none=>G
def e_(m:Tb bD)(fr:ST)(args:R'):X':=fr.all λd=> !(SV.dL d args)&& !(vw d m)
def D2:K->X'
 |.p (.build zero _)=>V.cN zero|.r (.lookup _ z _)=>z.good|.a (.alloc _ zero)=>V.cN zero&&zero.all V.one|.a (.makeSl _ zero)=>V.cN zero|.a (.buildSl _ _ zero _)=>V.cN zero|_=>O
def oa(S:Sys)(c:cg)(dr:X')(fr:ST)(o:RO)(st:St):aY (SV×St):=
 match bW S.N st.g o.az with
 |some u=>match o.k with
  |.p (.slice size lo hi)=>match u with
   |.own d::z=>if dr then G else Du st o.dst size lo hi d z|u=>(kH S.N st.m (.slice size lo hi) u).map λx=>(x,st)
  |.p p=>(kH S.N st.m p u).map λx=>(x,st)|.r r=>if !dr||o.now||eY fr u then(oG st.m r u).map λx=>(x,st)else G|.a a=>match o.dst with
   |some d=>if st.new d then(nG st.m a u d).map λ(ob,x)=>(x,{st with m:=bE st.m d ob})else G|none=>G
  |.l l=>if !dr||o.now then mM st o.dst l u else G|.c=>match u with
   |.clo f a b::w=>eU S c o.dst dr (!dr||o.now) (e_ st.m fr) f (a++w++b) st|.v (.clo f a b)::w=>eU S c o.dst dr (!dr||o.now) (e_ st.m fr) f (a.map .v++w++b.map .v) st|_=>G
  |.b=>if dr then G else match u with
   |[x]=>_l (jB st.m 1 x) λB=>(nM B).map λl=>(.v (.str (lB l)),st)|_=>G
  |.e n=>match u with
   |[.v .bG,x]=>mM st o.dst (.append n) [.v .bG,x]|[.v .dN,x]=>mM st o.dst (.append n) [.v .dN,x]|_=>G
 |none=>G
def c8(st:St)(dst:aY Nat)(x:SV):St:=
 match dst with
 |none=>st|some d=>{st with g:=bE st.g d x}
def wanted(g:Tb SV):aY (Nat×X')->aY X'
 |none=>M O|some (s,b)=>match bh g s with
  |some (.v (.bool c))=>M (c==b)|some (.v _)=>M U|_=>G
def BM(o:RO):aY Nat:=
 match o.k with
 |.p _|.r _=>G|_=>o.dst
def tW(fr:ST)(o:RO):ST:=
 match BM o with
 |some d=>d::fr|none=>fr
def bn(H:bl)(id:Nat):aY (Nat×S'):=_l (H[id]?) Ob.rows
mutual
theorem V.n9:∀{x:V},x.good=O->x.closed=O
 |.hsl ..,h|.hptr ..,h|.yld _,h|.hmap _,h=>by simp[V.good]at h|.fsl ..,_|.fptr ..,_|.fmap ..,_=>rfl|.bool _,_|.int ..,_|.str _,_|.dN,_|.bG,_|.jg,_|.ir,_|.vf,_=>rfl|.clo _ a b,h=>by simp only[V.good,ζh]at h;simp only[V.closed,ζh];exact⟨V.qc h.1,V.qc h.2⟩|.agg cs,h=>by simp only[V.good]at h;simp only[V.closed];exact V.qc h|.tup cs,h=>by simp only[V.good]at h;simp only[V.closed];exact V.qc h
theorem V.qc:∀{l:aX V},V.cN l=true->V.ji l=true
 | [],_=>rfl
 | x::r,h=>by
  simp only[V.cN,ζh]at h;simp only[V.ji,ζh];exact⟨V.n9 h.1,V.qc h.2⟩
end
theorem iY:∀{l:So},V.cN l=O↔∀(j:Nat)u,l[j]?=M u->u.good=O
 |[]=>by simp[V.cN]|x::l=>by simp[V.cN,iY];constructor;grind;intro h;exact⟨h 0 x Y,λj u a=>h (j+1) u g?⟩
theorem mN:∀{l:S'},V.pg l=O↔∀(j:Nat)u,l[j]?=M u->V.cN u=O
 |[]=>by simp[V.pg]|x::l=>by simp[V.pg,mN];constructor;grind;intro h;exact⟨h 0 x Y,λj u a=>h (j+1) u g?⟩
def Ix:∀{l:aX (V×V)},V.vH l=O↔∀(j:Nat)u,l[j]?=M u->u.1.good=O/\u.2.good=O
 |[]=>by simp[V.vH]|(k,x)::l=>by simp only[V.vH,ζh,Ix];constructor;grind;intro h;exact⟨h 0 (k,x) Y,λj u a=>h (j+1) u g?⟩
theorem Bu{l:So}(n:Nat)(h:V.cN l=O):V.cN (l.drop n)=O:=iY.2 λj u a=>iY.1 h (n+j) u g?
inductive FR(H:bl)(Z:Nat->Prop):V->V->Prop
 |same(x:V)(h:x.good=true):FR H Z x x|fsl(es:Nat)(xs:List (List V))(id off:Nat)(ys:List (List V))(hz:Z id)(hr:bn H id=some (es,ys))(hl:off+xs.length<=ys.length)
  (hc:∀(i:Nat)a b,xs[i]?=some a->ys[off+i]?=some b->a.length=b.length)
  (hv:∀(i j:Nat)a b u v,xs[i]?=some a->ys[off+i]?=some b->a[j]?=some u->b[j]?=some v->FR H Z u v):FR H Z (.fsl es xs) (.hsl id es off xs.length)
 |fptr(xs:List V)(id el off es:Nat)(ys:List (List V))(cs:List V)(hz:Z id)(hr:bn H id=some (es,ys))(he:ys[el]?=some cs)(ho:off<=cs.length)(hx:xs.length=cs.length-off)
  (hv:∀(j:Nat)u v,xs[j]?=some u->cs[off+j]?=some v->FR H Z u v):FR H Z (.fptr xs) (.hptr id el off)
 |clo(f:FuncId)(a b a' b':List V)(ha:a.length=a'.length)(hb:b.length=b'.length)(hva:∀(j:Nat)u v,a[j]?=some u->a'[j]?=some v->FR H Z u v)(hvb:∀(j:Nat)u v,b[j]?=some u->b'[j]?=some v->FR H Z u v):FR H Z (.clo f a b) (.clo f a' b')|agg(a a':List V)(ha:a.length=a'.length)(hva:∀(j:Nat)u v,a[j]?=some u->a'[j]?=some v->FR H Z u v):FR H Z (.agg a) (.agg a')|tup(a a':List V)(ha:a.length=a'.length)(hva:∀(j:Nat)u v,a[j]?=some u->a'[j]?=some v->FR H Z u v):FR H Z (.tup a) (.tup a')
def dJ(H:bl)(Z:Nat->Prop)(xs ys:So):Prop:=W xs=W ys/\∀(j:Nat)u v,xs[j]?=M u->ys[j]?=M v->FR H Z u v
def gN(H:bl)(Z:Nat->Prop)(xs ys:S'):Prop:=W xs=W ys/\∀(j:Nat)u v,xs[j]?=M u->ys[j]?=M v->dJ H Z u v
section
variable{H H':bl}{Z Z':Nat->Prop}
def FR.mono(h:∀id,Z id->Z' id/\bn H' id=bn H id){x y:V}(r:FR H Z x y):FR H' Z' x y:=by induction r with|same x h=>exact .same x h|fsl es B id off C D hr J hc hv d=>exact .fsl es B id off C (h id D).1 g? J hc d|fptr B id el off es C cs D hr L g Q hv d=>exact .fptr B id el off es C cs (h id D).1 g? L g Q d|clo f a b w S z T hva i u I=>exact .clo f a b w S z T u I|agg a w z hva u=>exact .agg a w z u|tup a w z hva u=>exact .tup a w z u
def dJ.mono(h:∀id,Z id->Z' id/\bn H' id=bn H id){x y:So}(r:dJ H Z x y):dJ H' Z' x y:=⟨r.1,λj u v a b=>(r.2 j u v a b).mono h⟩
def gN.mono(h:∀id,Z id->Z' id/\bn H' id=bn H id){x y:S'}(r:gN H Z x y):gN H' Z' x y:=⟨r.1,λj u v a b=>(r.2 j u v a b).mono h⟩
def dJ.nil:dJ H Z [] []:=⟨Y,f?⟩
def dJ.cons{x y:V}{xs ys:So}(h:FR H Z x y)(r:dJ H Z xs ys):dJ H Z (x::xs) (y::ys):=by refine⟨by simp[r.1],λj u v a b=>?_⟩;cases j with|zero=>grind|succ j=>exact r.2 j u v g? g?
def dJ.inv{x:V}{xs B:So}(r:dJ H Z (x::xs) B):∃y ys,B=y::ys/\FR H Z x y/\dJ H Z xs ys:=by cases B with|nil=>have:=r.1;grind|cons y ys=>refine⟨y,ys,Y,r.2 0 x y Y Y,by have:=r.1;grind,λj u v a b=>r.2 (j+1) u v g? g?⟩
def dJ.dm{B:So}(r:dJ H Z [] B):B=[]:=by have:=r.1;grind
theorem dJ.get{xs ys:So}(r:dJ H Z xs ys){j:Nat}{u:V}(h:xs[j]?=M u):∃v,ys[j]?=M v/\FR H Z u v:=by
 have w:=(ζe.1 h).1;have:j<W ys:=by rw[<-r.1];omega
 exact⟨ys[j],ζd this,r.2 j u _ h (ζd this)⟩
theorem gN.get{xs ys:S'}(r:gN H Z xs ys){j:Nat}{u:So}(h:xs[j]?=M u):∃v,ys[j]?=M v/\dJ H Z u v:=by
 have w:=(ζe.1 h).1;have:j<W ys:=by rw[<-r.1];omega
 exact⟨ys[j],ζd this,r.2 j u _ h (ζd this)⟩
def dJ.append{a b c d:So}(h:dJ H Z a b)(k:dJ H Z c d):dJ H Z (a++c) (b++d):=by refine⟨by simp[h.1,k.1],λj u v e f=>?_⟩;by_cases w:j<W a;rw[u? w]at e;rw[u? (by rw[<-h.1];omega)]at f;exact h.2 j u v e f;rw[G? c?]at e;rw[G? (by rw[<-h.1];omega),<-h.1]at f;exact k.2 _ u v e f
def gN.append{a b c d:S'}(h:gN H Z a b)(k:gN H Z c d):gN H Z (a++c) (b++d):=by refine⟨by simp[h.1,k.1],λj u v e f=>?_⟩;by_cases w:j<W a;rw[u? w]at e;rw[u? (by rw[<-h.1];omega)]at f;exact h.2 j u v e f;rw[G? c?]at e;rw[G? (by rw[<-h.1];omega),<-h.1]at f;exact k.2 _ u v e f
def dJ.take{a b:So}(h:dJ H Z a b)(n:Nat):dJ H Z (a.take n) (b.take n):=by
 refine⟨by simp[h.1],λj u v c d=>?_⟩;rw[I?]at c d;split at c;next w=>rw[J0 w]at d;exact h.2 j u v c d
 grind
def dJ.drop{a b:So}(h:dJ H Z a b)(n:Nat):dJ H Z (a.drop n) (b.drop n):=by refine⟨by simp[h.1],λj u v c d=>?_⟩;rw[R?]at c d;exact h.2 _ u v c d
def gN.take{a b:S'}(h:gN H Z a b)(n:Nat):gN H Z (a.take n) (b.take n):=by
 refine⟨by simp[h.1],λj u v c d=>?_⟩;rw[I?]at c d;split at c;next w=>rw[J0 w]at d;exact h.2 j u v c d
 grind
def gN.drop{a b:S'}(h:gN H Z a b)(n:Nat):gN H Z (a.drop n) (b.drop n):=by refine⟨by simp[h.1],λj u v c d=>?_⟩;rw[R?]at c d;exact h.2 _ u v c d
theorem dJ.set{a b:So}(h:dJ H Z a b)(n:Nat){x y:V}(B:FR H Z x y):dJ H Z (a.set n x) (b.set n y):=by refine⟨by simp[h.1],λj u v c d=>?_⟩;rw[D?]at c d;split at c;grind;rename_i e;rw[K' e]at d;exact h.2 j u v c d
theorem gN.set{a b:S'}(h:gN H Z a b)(n:Nat){x y:So}(B:dJ H Z x y):gN H Z (a.set n x) (b.set n y):=by refine⟨by simp[h.1],λj u v c d=>?_⟩;rw[D?]at c d;split at c;grind;rename_i e;rw[K' e]at d;exact h.2 j u v c d
theorem dJ.same{l:So}(h:V.cN l=O):dJ H Z l l:=⟨Y,λj u v a b=>by rw[a]at b;cases b;exact .same u (iY.1 h j u a)⟩
def FR.good{x y:V}(r:FR H Z x y):x.good=O:=by induction r with|same x h=>omega|fsl es C id off D d hr g hc hv I=>refine mN.2 λi a z=>iY.2 λj u c=>?_;grind|fptr C id el off es D cs d hr Q S T hv I=>refine iY.2 λj u c=>?_;grind|clo f a b B o z q hva J w L=>simp[V.good];refine⟨iY.2 λj u c=>?_,iY.2 λj u c=>?_⟩;grind;grind|agg a B z hva w=>refine iY.2 λj u c=>?_;grind|tup a B z hva w=>simp[V.good];refine iY.2 λj u c=>?_;grind
theorem FR.closed {x y:V} (r:FR H Z x y):x.closed=true:=V.n9 r.good
def dJ.good{xs ys:So}(r:dJ H Z xs ys):V.cN xs=O:=iY.2 λj u a=>by have⟨v,_,h⟩:=r.get a;exact h.good
def gN.good{xs ys:S'}(r:gN H Z xs ys):V.pg xs=O:=mN.2 λj u a=>by have⟨v,_,h⟩:=r.get a;exact h.good
def FR.bool{b:X'}{y:V}(r:FR H Z (.bool b) y):y=.bool b:=by cases r;rfl
def FR.int{k:T2}{n:Int}{y:V}(r:FR H Z (.int k n) y):y=.int k n:=by cases r;rfl
def FR.str{s:U'}{y:V}(r:FR H Z (.str s) y):y=.str s:=by cases r;rfl
def FR.dN{y:V}(r:FR H Z .dN y):y=.dN:=by cases r;rfl
def FR.bG{y:V}(r:FR H Z .bG y):y=.bG:=by cases r;rfl
def FR.jg{y:V}(r:FR H Z .jg y):y=.jg:=by cases r;rfl
def FR.ir{y:V}(r:FR H Z .ir y):y=.ir:=by cases r;rfl
def FR.vf{y:V}(r:FR H Z .vf y):y=.vf:=by cases r;rfl
def FR.fmap{B:aX (V×V)}{y:V}(r:FR H Z (.fmap B) y):y=.fmap B:=by cases r;rfl
def FR.jP{a:So}{y:V}(r:FR H Z (.agg a) y):∃a',y=.agg a'/\dJ H Z a a':=by cases r with|same _ h=>exact⟨a,rfl,.same (by simpa[V.good]using h)⟩|agg _ a' u hva=>exact⟨a',Y,u,hva⟩
def FR.tc{a:So}{y:V}(r:FR H Z (.tup a) y):∃a',y=.tup a'/\dJ H Z a a':=by cases r with|same _ h=>exact⟨a,rfl,.same (by simpa[V.good]using h)⟩|tup _ a' u hva=>exact⟨a',Y,u,hva⟩
def FR.l_{f:Y'}{a b:So}{y:V}(r:FR H Z (.clo f a b) y):∃a' B,y=.clo f a' B/\dJ H Z a a'/\dJ H Z b B:=by cases r with|same _ h=>simp[V.good]at h;exact⟨a,b,rfl,.same h.1,.same h.2⟩|clo _ _ _ a' B w z hva u=>exact⟨a',B,Y,⟨w,hva⟩,⟨z,u⟩⟩
def FR.oh{es:Nat}{xs:S'}{y:V}(r:FR H Z (.fsl es xs) y):y=.fsl es xs\/
 ∃id off ys,y=.hsl id es off (W xs)/\Z id/\bn H id=M (es,ys)/\off+W xs<=W ys/\gN H Z xs ((ys.drop off).take (W xs)):=by
 cases r with
 |same _ h=>grind|fsl _ _ id off ys z hr B hc hv=>
  refine .inr ⟨id,off,ys,Y,z,hr,B,by simp;omega,λj u v a w=>?_⟩
  have C:=(ζe.1 a).1;rw[I?,J0 C,R?]at w;exact⟨hc j u v a w,λi s t D d=>hv j i u v s t a w D d⟩
def FR.G4{es:Nat}{xs:S'}{id off:Nat}{ys:S'}(B:Z id)(c:bn H id=M (es,ys))(D:off+W xs<=W ys)(h:gN H Z xs ((ys.drop off).take (W xs))):
 FR H Z (.fsl es xs) (.hsl id es off (W xs)):=by
 have key:∀(i:Nat)a b,xs[i]?=M a->ys[off+i]?=M b->dJ H Z a b:=λi a b w z=>by refine h.2 i a b w ?_;grind
 exact .fsl es xs id off ys B c D (λi a b w z=>(key i a b w z).1) (λi j a b u v w z d e=>(key i a b w z).2 j u v d e)
def FR.ow{xs:So}{y:V}(r:FR H Z (.fptr xs) y):y=.fptr xs\/
 ∃id el off es ys cs,y=.hptr id el off/\Z id/\bn H id=M (es,ys)/\ys[el]?=M cs/\off<=W cs/\dJ H Z xs (cs.drop off):=by
 cases r with
 |same _ h=>grind|fptr _ id el off es ys cs w hr z B D hv=>
  refine .inr ⟨id,el,off,es,ys,cs,Y,w,hr,z,B,o?,λj u v a C=>?_⟩
  grind
def FR.Hg{xs:So}{id el off es:Nat}{ys:S'}{cs:So}(B:Z id)(a:bn H id=M (es,ys))(D:ys[el]?=M cs)(J:off<=W cs)(h:dJ H Z xs (cs.drop off)):FR H Z (.fptr xs) (.hptr id el off):=.fptr xs id el off es ys cs B a D J (by have:=h.1;grind) (λj u v b c=>h.2 j u v b g?)
def FR.cells{x y:V}(r:FR H Z x y):dJ H Z x.cells y.cells:=by
 have one:∀{a b:V},FR H Z a b->dJ H Z [a] [b]:=λh=>.cons h .nil
 cases r with
 |same _ h=>cases x<;>first|exact one (.same _ h)|(exact dJ.same h)
 |fsl es z id off B C hr d hc hv=>exact one (.fsl es z id off B C hr d hc hv)|fptr z id el off es B cs C hr I J L hv=>exact one (.fptr z id el off es B cs C hr I J L hv)|clo f a b w g u Q hva D=>exact one (.clo f a b w g u Q hva D)|agg a w u hva=>exact⟨u,hva⟩|tup a w u hva=>exact one (.tup a w u hva)
def FR.one{x y:V}(r:FR H Z x y):y.one=x.one:=by cases r<;>rfl
def dJ.one:∀{xs ys:So},dJ H Z xs ys->ys.all V.one=xs.all V.one
 |[],ys,r=>by rw[r.dm]|x::xs,D,r=>by obtain⟨y,ys,rfl,h,B⟩:=r.inv;simp[h.one,B.one]
def tT:∀{l:So},V.c6 l=O↔∀(j:Nat)u,l[j]?=M u->u.scalar=O
 |[]=>by simp[V.c6]|x::l=>by simp[V.c6,tT];constructor;grind;intro h;exact⟨h 0 x Y,λj u a=>h (j+1) u g?⟩
def FR.scalar{x y:V}(r:FR H Z x y):(x.scalar=O->y=x)/\y.scalar=x.scalar:=by
 have key:∀(a w:So),W a=W w->(∀(j:Nat)u v,a[j]?=M u->w[j]?=M v->(u.scalar=O->v=u)/\v.scalar=u.scalar)->(V.c6 a=O->w=a)/\V.c6 w=V.c6 a:=by intro a w B d;have b:V.c6 a=O->w=a:=(by intro I;refine(List.ext_getElem B λj b C=>?_).symm;exact(((d j _ _ (ζd b) (ζd C)).1 (tT.1 I j _ (ζd b)))).symm);refine⟨b,?_⟩;cases I:V.c6 a with|true=>grind|false=>cases D:V.c6 w with|false=>rfl|true=>have:V.c6 a=O:=tT.2 λj u c=>(by have J:j<W w:=g?;have:=(d j u _ c (ζd J)).2;rw[<-this];exact tT.1 D j _ (ζd J));grind
 induction r with|same x h=>grind|fsl=>exact⟨λh=>by simp[V.scalar]at h,rfl⟩|fptr=>exact⟨λh=>by simp[V.scalar]at h,rfl⟩|clo=>exact⟨λh=>by simp[V.scalar]at h,rfl⟩|agg a w B hva z=>have⟨b,C⟩:=key a w B z;exact⟨λh=>by rw[b (by simpa[V.scalar]using h)],by simpa[V.scalar]using C⟩|tup a w B hva z=>have⟨b,C⟩:=key a w B z;exact⟨λh=>by rw[b (by simpa[V.scalar]using h)],by simpa[V.scalar]using C⟩
def dJ.scalar{a a':So}(r:dJ H Z a a'):(V.c6 a=O->a'=a)/\V.c6 a'=V.c6 a:=by have⟨b,u⟩:=FR.scalar (.tup a a' r.1 r.2);simp[V.scalar]at b u;grind
def uf:∀{l:So}{a:SW},jE l=M a->V.c6 l=O
 |[],_,_=>rfl|x::l,a,h=>by unfold jE at h;split at h;grind;(next n r e=>cases e;have⟨b,B,_⟩:=ζf.1 h;simp[V.c6,V.scalar];exact uf B);grind
end
mutual
theorem lI:∀{x:V},x.scalar=O->x.good=O
 |.bool _,_|.int ..,_|.str _,_|.jg,_|.ir,_|.vf,_|.dN,_|.bG,_=>rfl|.agg cs,h=>by simp only[V.scalar]at h;simp only[V.good];exact rQ h|.tup cs,h=>by simp only[V.scalar]at h;simp only[V.good];exact rQ h|.fsl ..,h|.hsl ..,h|.fptr ..,h|.hptr ..,h|.clo ..,h|.yld _,h|.fmap _,h|.hmap _,h=>by simp[V.scalar]at h
theorem rQ:∀{l:aX V},V.c6 l=true->V.cN l=true
 | [],_=>rfl
 | x::r,h=>by
  simp only[V.c6,ζh]at h;simp only[V.cN,ζh];exact⟨lI h.1,rQ h.2⟩
end
section
variable{H H':bl}{Z Z':Nat->Prop}
def mB{f:V->aY V}:∀{xs ys:So},W xs=W ys->(∀(j:Nat)u v,xs[j]?=M u->ys[j]?=M v->f v=M u)->jw f ys=M xs
 |[],[],_,_=>rfl|[],y::ys,h,_=>o?|x::xs,[],h,_=>o?|x::xs,y::ys,h,B=>by simp[jw,B 0 x y Y Y,mB (xs:=xs) (ys:=ys) g? λj u v a b=>B (j+1) u v g? g?]
def Ks{f:V->aY V}:∀{xs ys:S'},W xs=W ys->(∀(j:Nat)u v,xs[j]?=M u->ys[j]?=M v->jw f v=M u)->nW f ys=M xs
 |[],[],_,_=>rfl|[],y::ys,h,_=>o?|x::xs,[],h,_=>o?|x::xs,y::ys,h,B=>by simp[nW,B 0 x y Y Y,Ks (xs:=xs) (ys:=ys) g? λj u v a b=>B (j+1) u v g? g?]
def rm:∀{l:So},V.ji l=O↔∀(j:Nat)u,l[j]?=M u->u.closed=O
 |[]=>by simp[V.ji]|x::l=>by simp[V.ji,rm];constructor;grind;intro h;exact⟨h 0 x Y,λj u a=>h (j+1) u g?⟩
def ox:∀{l:So}{n:Nat},V.nv n l=O↔∀(j:Nat)u,l[j]?=M u->u.lvl n=O
 |[],n=>by simp[V.nv]|x::l,n=>by simp[V.nv,ox];constructor;grind;intro h;exact⟨h 0 x Y,λj u a=>h (j+1) u g?⟩
def I_:∀{l:S'}{n:Nat},V.rF n l=O↔∀(j:Nat)u,l[j]?=M u->V.nv n u=O
 |[],n=>by simp[V.rF]|x::l,n=>by simp[V.rF,I_];constructor;grind;intro h;exact⟨h 0 x Y,λj u a=>h (j+1) u g?⟩
theorem fh(n:Nat)(H:bl){x:V}(h:x.closed=O):borrow n H x=M x:=kK n H h
theorem FR.borrow{x y:V}(r:FR H Z x y):∀n,x.lvl n=true->borrow n H y=some x:=by
 induction r with
 |same x h=>grind[fh,V.n9]|fsl es J id off A W hr X hc d L=>intro n z;cases n with|zero=>grind[V.lvl]|succ n=>unfold Go.VE.borrow;unfold bn at hr;simp only[V.closed,v?,M',hr,true_and,J0 X,ζf];refine⟨J,Ks (by simp;omega) λj u v c B=>?_,rfl⟩;have Y:=(ζe.1 c).1;rw[I?,J0 Y,R?]at B;refine mB (hc j u v c B) λi s t Q e=>L j i u v s t c B Q e n (ox.1 (I_.1 z j u c) i s Q)
 |fptr J id el off es A cs W hr he ho hx d L=>intro n z;cases n with|zero=>grind[V.lvl]|succ n=>unfold Go.VE.borrow;unfold bn at hr;simp only[V.closed,v?,M',hr,he,J0 ho,ζf];refine⟨J,mB o? λj u v c B=>?_,rfl⟩;rw[R?]at B;exact L j u v c B n (ox.1 z j u c)
 |clo f a b D S o T hva aa C I=>intro n z;cases n with|zero=>grind[V.lvl]|succ n=>simp[V.lvl]at z;by_cases w:(V.clo f D S).closed=true;rw[fh _ _ w];simp[V.closed]at w;have e1:D=a:=(by have:=mB o λj u v c d=>C j u v c d n (ox.1 z.1 j u c);have q:=mB rfl λj u v c d=>(by rw[c]at d;cases d;exact fh n H (rm.1 w.1 j u c));grind);have e2:S=b:=(by have:=mB T λj u v c d=>I j u v c d n (ox.1 z.2 j u c);have q:=mB rfl λj u v c d=>(by rw[c]at d;cases d;exact fh n H (rm.1 w.2 j u c));grind);simp_all;unfold Go.VE.borrow;rw[K' w];simp[mB o λj u v c d=>C j u v c d n (ox.1 z.1 j u c),mB T λj u v c d=>I j u v c d n (ox.1 z.2 j u c)]
 |agg a D o hva C=>intro n z;cases n with|zero=>grind[V.lvl]|succ n=>have g:=mB o λj u v c d=>C j u v c d n (ox.1 z j u c);by_cases w:(V.agg D).closed=true;rw[fh _ _ w];have q:=mB rfl λj u v c d=>(by rw[c]at d;cases d;exact fh n H (rm.1 w j u c));grind;grind[Go.VE.borrow]
 |tup a D o hva C=>intro n z;cases n with|zero=>grind[V.lvl]|succ n=>have g:=mB o λj u v c d=>C j u v c d n (ox.1 z j u c);by_cases w:(V.tup D).closed=true;rw[fh _ _ w];have q:=mB rfl λj u v c d=>(by rw[c]at d;cases d;exact fh n H (rm.1 w j u c));grind;grind[Go.VE.borrow]
def sw{f:V->ST}{k:Nat}:∀{l:So},k∈dy f l->∃(j:Nat)(u:V),l[j]?=M u/\k∈f u
 |[],h=>by grind[dy]|x::l,h=>by simp[dy]at h;rcases h with h|h;exact⟨0,x,Y,h⟩;have⟨j,u,b,a⟩:=sw h;exact⟨j+1,u,g?,a⟩
structure Deep(H:bl)(Z:Nat->Prop):Prop where
 row:∀id es ys,Z id->bn H id=some (es,ys)->∀c∈ys,∀u∈c,∃x,FR H Z x u
theorem FR.cE(hd:Deep H Z):∀(n:Nat){x y:V},FR H Z x y->∀k∈cE n H y,Z k
 |0,x,y,r,k,d=>by grind[Go.VE.cE]|n+1,x,y,r,k,d=>by
  unfold Go.VE.cE at d;split at d;simp_all;rename_i T;have pt:∀(a a':So),dJ H Z a a'->k∈dy (Go.VE.cE n H) a'->Z k:=λa a' h d=>by obtain⟨j,u,e,z⟩:=sw d;have L:j<a.length:=(by rw[h.1];grind);exact FR.cE hd n (h.2 j _ u (ζd L) e) k z
  have row:∀(id:Nat)es w(l:So),Z id->bn H id=some (es,w)->(∀u∈l,∃c∈w,u∈c)->k∈dy (Go.VE.cE n H) l->Z k:=λid es w l B hr I d=>by obtain⟨j,u,e,z⟩:=sw d;obtain⟨c,g,D⟩:=I u (s? e);obtain⟨x,J⟩:=hd.row id es w B hr c g u D;exact FR.cE hd n J k z
  cases r with
  |same _ h=>grind[V.n9]|fsl es o id off w B hr I g hv=>simp only[n8]at d;rcases d with rfl|d;exact B;rw[show(H[id]?).bind Ob.rows=some (es,w)from hr]at d;grind[List.mem_flatten]
  |fptr o id el off es w cs B hr q W J hv=>simp only[n8]at d;rcases d with rfl|d;exact B;rw[show(H[id]?).bind Ob.rows=some (es,w)from hr]at d;grind
  |clo f a b a' Q C S hva i=>simp at d;rcases d with d|d;exact pt a a' ⟨C,hva⟩ d;exact pt b Q ⟨S,i⟩ d
  |agg a a' C hva=>exact pt a a' ⟨C,hva⟩ d|tup a a' C hva=>exact pt a a' ⟨C,hva⟩ d
theorem dJ.cut{cs ys r:So}{off n:Nat}(h:dJ H Z cs ys)(a:cut cs off n=M r):∃B,Go.VE.cut ys off n=M B/\dJ H Z r B:=by unfold Go.VE.cut at a⊢;have u:=(h.drop off).take n;dsimp only at a⊢;split at a;simp at a;subst a;exact⟨_,by rw[J0 (by rw[<-u.1];omega)],u⟩;grind
theorem dJ.mk{agg:X'}{cs ys:So}{x:V}(h:dJ H Z cs ys)(B:mk agg cs=M x):∃y,Go.VE.mk agg ys=M y/\FR H Z x y:=by unfold Go.VE.mk at B⊢;split at B;simp at B;subst B;exact⟨_,g?,.agg _ _ h.1 h.2⟩;split at B;simp at B;obtain⟨y,ys,rfl,a,u⟩:=h.inv;rw[u.dm];grind;grind
theorem dJ.fill:∀{pl:aX (Nat×Nat)}{vs B cells cells' r:So},dJ H Z cells cells'->dJ H Z vs B->mK cells pl vs=M r->∃D,mK cells' pl B=M D/\dJ H Z r D
 |[],vs,B,cells,cells',r,hc,hv,h=>by cases vs with|nil=>rw[hv.dm];grind[mK]|cons v vs=>grind[mK]
 |(off,size)::pl,vs,B,cells,cells',r,hc,hv,h=>by cases vs with|nil=>grind[mK]|cons v vs=>obtain⟨w,B,rfl,a,J⟩:=hv.inv;have k:=a.cells;simp only[mK]at h⊢;rw[<-k.1,<-hc.1];split at h;simp_all;rename_i e;rw[K' e];exact dJ.fill (((hc.take off).append k).append (hc.drop _)) J h
def FR.xR{k:KT}{x y J T:V}{b:X'}(B:FR H Z x J)(D:FR H Z y T)(h:qZ k x y=M b):qZ k J T=M b:=by unfold qZ at h;split at h;rw[B.bG,D.bG];exact h;rw[D.bG];rcases B.oh with rfl|⟨_,_,_,rfl,_⟩<;>exact h;exact _c B.closed (by simp[V.closed]);rw[B.jg,D.jg];exact h;rw[D.jg];rcases B.ow with rfl|⟨_,_,_,_,_,_,rfl,_⟩<;>exact h;exact _c B.closed (by simp[V.closed]);rw[B.ir,D.ir];exact h;rw[D.ir,B.fmap];exact h;exact _c B.closed (by simp[V.closed]);grind
theorem FR.mR{a b a' B:So}{r:X'}(D:dJ H Z a a')(J:dJ H Z b B)(h:mR a b=M r):Go.VE.mR a' B=M r:=by unfold Go.VE.mR at h;split at h;rename_i u v c d;rw[D.scalar.1 (uf c),J.scalar.1 (uf d)];grind[Go.VE.mR];grind
def CC{k:KT}{x y:V}{b:X'}(h:qZ k x y=M b):(y=.bG/\(x=.bG\/(∃es xs,x=.fsl es xs)\/∃id es off len,x=.hsl id es off len))\/
 (y=.jg/\(x=.jg\/(∃cs,x=.fptr cs)\/∃id el off,x=.hptr id el off))\/(y=.ir/\(x=.ir\/(∃B,x=.fmap B)\/∃id,x=.hmap id)):=by
 unfold qZ at h
 grind
def Lp{k:aY KT}{e:aY Nat}{op:BinOp}{x y:V}(D:(y=.bG/\(x=.bG\/(∃es xs,x=.fsl es xs)\/∃id es off len,x=.hsl id es off len))\/
 (y=.jg/\(x=.jg\/(∃cs,x=.fptr cs)\/∃id el off,x=.hptr id el off))\/(y=.ir/\(x=.ir\/(∃B,x=.fmap B)\/∃id,x=.hmap id))):
 oJ k e op x y=(match k,op with
 |some k,.eql=>(qZ k x y).map .bool|some k,.neq=>(qZ k x y).map λt=>.bool !t|_,_=>G):=by
 rcases D with⟨rfl,rfl|⟨_,_,rfl⟩|⟨_,_,_,_,rfl⟩⟩|⟨rfl,rfl|⟨_,rfl⟩|⟨_,_,_,rfl⟩⟩|⟨rfl,rfl|⟨_,rfl⟩|⟨_,rfl⟩⟩<;>cases k<;>cases op<;>rfl
def Np{k:aY KT}{e:aY Nat}{op:BinOp}{x y z:V}(h:oJ k e op x y=M z):z.good=O:=by
 have w:∀{o:aY X'}{z:V},o.map V.bool=M z->z.good=O:=λh=>by obtain⟨_,_,rfl⟩:=ζf.1 h;rfl
 have u:∀{o:aY X'}{z:V},(o.map λt=>V.bool !t)=M z->z.good=O:=λh=>by obtain⟨_,_,rfl⟩:=ζf.1 h;rfl
 unfold oJ at h;(repeat' split at h)<;>first|(simp at h;subst h;rfl)|exact w h|exact u h|simp at h
def FR.bin{k:aY KT}{e:aY Nat}{op:BinOp}{x y J T z:V}(B:FR H Z x J)(D:FR H Z y T)(h:oJ k e op x y=M z):oJ k e op J T=M z:=by
 have I:=h;unfold oJ at h;split at h;rw[B.int,D.int];omega;rw[B.str,D.str];omega;rw[B.bool,D.bool];omega;obtain⟨L,rfl,w⟩:=B.jP;obtain⟨g,rfl,d⟩:=D.jP;split at h;split at h;next C=>obtain⟨r,a,rfl⟩:=ζf.1 h;simp[oJ,<-w.1,C,FR.mR w d a]
 grind;split at h;next C=>obtain⟨r,a,rfl⟩:=ζf.1 h;simp[oJ,<-w.1,C,FR.mR w d a]
 grind;grind;split at h;obtain⟨r,a,rfl⟩:=ζf.1 h;have u:=FR.xR B D a;rw[Lp (CC u)];grind;obtain⟨r,a,rfl⟩:=ζf.1 h;have u:=FR.xR B D a;rw[Lp (CC u)];grind;grind
def FR.slice{size:Nat}{x J z:V}{l h:Ps}(D:FR H Z x J)(B:jy size x l h=M z):∃T,jy size J l h=M T/\FR H Z z T:=by
 have C:∀{n lo hi:Nat},eA n l h=M (lo,hi)->hi<=n/\lo<=hi:=by grind[eA]
 unfold jy at B;split at B;rename_i es I;split at B;rename_i Q;obtain⟨⟨lo,hi⟩,d,rfl⟩:=ζf.1 B;have⟨S,i⟩:=C d;rcases D.oh with rfl|⟨id,off,o,rfl,L,hr,X,g⟩;refine⟨_,by grind[jy],.same _ ?_⟩;have b:=D.good;refine mN.2 λj u a=>?_;rw[R?,I?]at a;split at a;exact mN.1 b _ u a;grind;refine⟨.hsl id es (off+lo) (hi-lo),by grind[jy],?_⟩;have w:W ((I.take hi).drop lo)=hi-lo:=o?;rw[<-w];refine FR.G4 L hr g? ?_;have:=(g.take hi).drop lo;grind[List.drop_take,D!];grind;exact _c D.closed (by simp[V.closed]);rw[D.dN];obtain⟨_,d,rfl⟩:=ζf.1 B;exact⟨.dN,by grind[jy],.same _ Y⟩;rw[D.bG];obtain⟨_,d,rfl⟩:=ζf.1 B;exact⟨.bG,by grind[jy],.same _ Y⟩;grind
def dJ.oK{lo hi:X'}{J D:So}{r:Ps×Ps}(h:dJ H Z J D)(B:oK lo hi J=M r):Go.VE.oK lo hi D=M r:=by unfold Go.VE.oK at B;split at B;rw[h.dm];exact B;obtain⟨_,_,rfl,a,u⟩:=h.inv;rw[a.int,u.dm];exact B;obtain⟨_,_,rfl,a,u⟩:=h.inv;rw[a.int,u.dm];exact B;obtain⟨_,_,rfl,a,u⟩:=h.inv;obtain⟨_,_,rfl,w,z⟩:=u.inv;rw[a.int,w.int,z.dm];exact B;grind
theorem dJ.bV {N:Nat->FuncId} {p:xI} {xs ys:aX V} {z:V} (W:∀zero pl,p=.build zero pl->V.cN zero=true) (h:dJ H Z xs ys) (hp:bV N p xs=some z):∃J,Go.VE.bV N p ys=some J/\FR H Z z J:=by
 unfold Go.VE.bV at hp;split at hp
 .
  obtain⟨y,_,rfl,h1,w⟩:=h.inv;rw[w.dm];simp only[ζa]at hp;subst hp;exact⟨y,rfl,h1⟩
 .
  rename_i t a b;obtain⟨w1,_,rfl,h1,w⟩:=h.inv;obtain⟨w2,_,rfl,C,B⟩:=w.inv;obtain⟨w3,_,rfl,T,q⟩:=B.inv;rw[h1.bool,q.dm];simp only[ζa]at hp;subst hp;refine⟨if t=true then w2 else w3,rfl,?_⟩
  grind
 .
  obtain⟨y,_,rfl,h1,w⟩:=h.inv;rw[w.dm];unfold P0 at hp;split at hp
  .exact _c h1.closed (by simp[V.closed])
  .simp only[ζa]at hp;subst hp;rcases h1.ow with rfl|⟨_,_,_,_,_,_,rfl,_⟩
   .exact⟨_,rfl,h1⟩
   exact⟨_,rfl,h1⟩
  .simp only[ζa]at hp;subst hp;obtain⟨_,_,rfl,_⟩:=h1.l_;exact⟨_,rfl,h1⟩
  simp at hp
 .
  obtain⟨_,_,rfl,h1,w⟩:=h.inv;obtain⟨_,_,rfl,C,B⟩:=w.inv;rw[B.dm];exact⟨z,FR.bin h1 C hp,.same _ (Np hp)⟩
 .obtain⟨_,_,rfl,h1,w⟩:=h.inv;rw[h1.bool,w.dm];simp only[ζa]at hp;subst hp;exact⟨_,rfl,.same _ rfl⟩
 .obtain⟨_,_,rfl,h1,w⟩:=h.inv;rw[h1.int,w.dm];simp only[ζa]at hp;subst hp;exact⟨_,rfl,.same _ rfl⟩
 .obtain⟨_,_,rfl,h1,w⟩:=h.inv;rw[h1.int,w.dm];simp only[ζa]at hp;subst hp;exact⟨_,rfl,.same _ rfl⟩
 .
  rename_i off p;obtain⟨y,_,rfl,h1,w⟩:=h.inv;rw[w.dm];unfold tD at hp;split at hp
  .split at hp
   .rename_i cs ho;simp only[ζa]at hp;subst hp;rcases h1.ow with rfl|⟨id,el,o,es,ys,ds,rfl,Q,hr,A,X,L⟩
    .have hg:=h1.good;simp only[V.good]at hg;exact⟨_,by grind[Go.VE.bV,tD],.same _ (by grind[V.good,Bu])⟩
    refine⟨.hptr id el (o+off),rfl,FR.Hg Q hr A (by have:=L.1;grind) ?_⟩
    have:=L.drop off;rw[List.drop_drop]at this;exact this
   simp at hp
  .exact _c h1.closed (by simp[V.closed])
  simp at hp
 .
  rename_i off size agg cs;obtain⟨y,_,rfl,h1,w⟩:=h.inv;rw[w.dm];obtain⟨Y,rfl,hc⟩:=h1.jP;obtain⟨r,hr,hm⟩:=ζg.1 hp;obtain⟨r',S,D⟩:=hc.cut hr;obtain⟨J,g,I⟩:=D.mk hm
  grind[Go.VE.bV]
 .
  rename_i size s k n;obtain⟨y,_,rfl,h1,w⟩:=h.inv;obtain⟨_,_,rfl,C,B⟩:=w.inv;rw[C.int,B.dm];unfold nU at hp;split at hp
  .simp at hp
  rename_i hn;split at hp
  .rename_i es xs;split at hp
   .rename_i A;obtain⟨c,hc,rfl⟩:=ζf.1 hp;rcases h1.oh with rfl|⟨id,off,ys,rfl,Q,hr,hl,L⟩
    .have hg:=h1.good;simp only[V.good]at hg;exact⟨_,by grind[Go.VE.bV,nU],.same _ (by grind[V.good,mN])⟩
    have hj:n.toNat<xs.length:=(ζe.1 hc).1;obtain⟨d,hd,ab⟩:=L.get hc;rw[List.getElem?_take,J0 hj,List.getElem?_drop]at hd;exact⟨.hptr id (off+n.toNat) 0,by grind[Go.VE.bV,nU],FR.Hg Q hr hd f? g?⟩
   simp at hp
  .exact _c h1.closed (by simp[V.closed])
  simp at hp
 .
  rename_i len size s k n;obtain⟨y,_,rfl,h1,w⟩:=h.inv;obtain⟨_,_,rfl,C,B⟩:=w.inv;rw[C.int,B.dm];unfold zS at hp;split at hp
  .rename_i hn;split at hp
   .split at hp
    .rename_i cs ho;simp only[ζa]at hp;subst hp;rcases h1.ow with rfl|⟨id,el,o,es,ys,ds,rfl,Q,hr,A,X,L⟩
     .have hg:=h1.good;simp only[V.good]at hg;exact⟨_,by grind[Go.VE.bV,zS],.same _ (by grind[V.good,Bu])⟩
     refine⟨.hptr id el (o+n.toNat*size),by grind[Go.VE.bV,zS],FR.Hg Q hr A (by have:=L.1;grind) ?_⟩
     have:=L.drop (n.toNat*size);rw[List.drop_drop]at this;exact this
    simp at hp
   .exact _c h1.closed (by simp[V.closed])
   simp at hp
  simp at hp
 .
  rename_i s k n;obtain⟨y,_,rfl,h1,w⟩:=h.inv;obtain⟨_,_,rfl,C,B⟩:=w.inv;rw[h1.str,C.int,B.dm];split at hp
  next hn=>obtain⟨c,hc,rfl⟩:=ζf.1 hp;exact⟨_,by grind[Go.VE.bV],.same _ rfl⟩
  simp at hp
 .
  rename_i len size agg cs k n;obtain⟨y,_,rfl,h1,w⟩:=h.inv;obtain⟨_,_,rfl,C,B⟩:=w.inv;rw[C.int,B.dm];obtain⟨Y,rfl,hc⟩:=h1.jP;split at hp
  .rename_i hn;obtain⟨r,hr,hm⟩:=ζg.1 hp;obtain⟨r',S,D⟩:=hc.cut hr;obtain⟨J,g,I⟩:=D.mk hm
   grind[Go.VE.bV]
  simp at hp
 .
  rename_i lo hi s bs;obtain⟨y,_,rfl,h1,w⟩:=h.inv;rw[h1.str];obtain⟨⟨l,h'⟩,hb,hp⟩:=ζg.1 hp;obtain⟨⟨l2,ad⟩,aa,rfl⟩:=ζf.1 hp;exact⟨_,by simp only[Go.VE.bV,w.oK hb,ζb,aa,Option.map_some],.same _ rfl⟩
 .
  rename_i size lo hi s bs;obtain⟨y,_,rfl,h1,w⟩:=h.inv;obtain⟨⟨l,h'⟩,hb,hp⟩:=ζg.1 hp;obtain⟨J,g,I⟩:=FR.slice h1 hp;exact⟨J,by simp only[Go.VE.bV,w.oK hb,ζb,g],I⟩
 .
  obtain⟨y,_,rfl,h1,w⟩:=h.inv;obtain⟨_,_,rfl,C,B⟩:=w.inv;obtain⟨_,_,rfl,T,q⟩:=B.inv;rw[C.int,T.int,q.dm];split at hp
  .rename_i hc;simp only[ζa]at hp;subst hp;refine⟨.dN,?_,.same _ rfl⟩;simp only[ζh]at hc;have:Qs y=true:=by
    have h0:=hc.1.1;unfold Qs at h0;split at h0
    .rcases h1.oh with rfl|⟨_,_,_,rfl,_⟩ <;> rfl
    .exact _c h1.closed (by simp[V.closed])
    .rw[h1.dN];rfl
    .rw[h1.bG];rfl
    simp at h0
   grind[Go.VE.bV]
  simp at hp
 .
  rename_i vs zero pl;obtain⟨r,hr,rfl⟩:=ζf.1 hp;obtain⟨r',S,D⟩:=dJ.fill (dJ.same (W zero pl rfl)) h hr;exact⟨.agg r',by grind[Go.VE.bV],.agg _ _ D.1 D.2⟩
 .
  rename_i vs name k;simp only[ζa]at hp;subst hp;exact⟨_,rfl,.clo _ _ _ _ _ (h.take k).1 (h.drop k).1 (h.take k).2 (h.drop k).2⟩
 .
  rename_i i vs;obtain⟨y,_,rfl,h1,w⟩:=h.inv;rw[w.dm];obtain⟨ws,rfl,hw⟩:=h1.tc;obtain⟨J,g,I⟩:=hw.get hp;exact⟨J,g,I⟩
 .
  obtain⟨y,_,rfl,h1,w⟩:=h.inv;rw[h1.str,w.dm];simp only[ζa]at hp;subst hp;exact⟨_,rfl,.same _ rfl⟩
 .
  obtain⟨y,_,rfl,h1,w⟩:=h.inv;rw[w.dm];unfold qq at hp;split at hp
  .simp only[ζa]at hp;subst hp;rcases h1.oh with rfl|⟨_,_,_,rfl,_⟩ <;> exact⟨_,rfl,.same _ rfl⟩
  .exact _c h1.closed (by simp[V.closed])
  .rw[h1.dN];simp only[ζa]at hp;subst hp;exact⟨_,rfl,.same _ rfl⟩
  .rw[h1.bG];simp only[ζa]at hp;subst hp;exact⟨_,rfl,.same _ rfl⟩
  simp at hp
 .
  obtain⟨y,_,rfl,h1,w⟩:=h.inv;rw[w.dm];unfold K6 at hp;split at hp
  .rw[h1.bG];simp only[ζa]at hp;subst hp;exact⟨_,rfl,.same _ rfl⟩
  .rw[h1.dN];simp only[ζa]at hp;subst hp;exact⟨_,rfl,.same _ rfl⟩
  simp at hp
 .
  obtain⟨_,_,rfl,h1,w⟩:=h.inv;obtain⟨_,_,rfl,C,B⟩:=w.inv;rw[h1.int,C.int,B.dm];split at hp
  next e=>simp only[ζa]at hp;subst hp;exact⟨_,by grind[Go.VE.bV],.same _ rfl⟩
  simp at hp
 .
  obtain⟨_,_,rfl,h1,w⟩:=h.inv;obtain⟨_,_,rfl,C,B⟩:=w.inv;obtain⟨_,_,rfl,T,q⟩:=B.inv;obtain⟨_,_,rfl,h7,h8⟩:=q.inv;rw[h1.int,C.int,T.int,h7.int,h8.dm];split at hp
  next e=>simp only[ζa]at hp;subst hp;exact⟨_,by grind[Go.VE.bV],.same _ rfl⟩
  simp at hp
 .
  obtain⟨_,_,rfl,h1,w⟩:=h.inv;obtain⟨_,_,rfl,C,B⟩:=w.inv;rw[h1.int,C.int,B.dm];split at hp
  next e=>simp only[ζa]at hp;subst hp;exact⟨_,by grind[Go.VE.bV],.same _ rfl⟩
  simp at hp
 .
  obtain⟨_,_,rfl,h1,w⟩:=h.inv;obtain⟨_,_,rfl,C,B⟩:=w.inv;rw[h1.int,C.int,B.dm];split at hp
  .rename_i e;simp only[ζa]at hp;subst hp;refine⟨_,by grind[Go.VE.bV],.same _ ?_⟩
   grind[V.good,mN,iY,lI]
  simp at hp
 .
  split at hp
  .rename_i hc;obtain rfl:=h.scalar.1 hc.1;split at hp
   .rename_i xs ae;split at hp
    .rename_i hx;simp only[ζa]at hp;subst hp;refine⟨_,by grind[Go.VE.bV],.same _ ?_⟩
     simp only[V.good];exact mN.2 λj u hu=>iY.2 λi v hv=>lI (List.all_eq_true.1 (List.all_eq_true.1 hx.2 u (List.mem_of_getElem? hu)) v (List.mem_of_getElem? hv))
    simp at hp
   simp at hp
  simp at hp
 .simp only[ζa]at hp;subst hp;rw[h.dm];exact⟨_,rfl,.same _ rfl⟩
 simp at hp
end
def qf(p:Nat×Nat)(k:Fl)(es len:Nat):V:=
 match k with
 |.nil=>.bG|.emp=>.dN|_=>.hsl p.1 es p.2 len
structure Nu where
 pl:Nat->Nat×Nat
 inn:Nat->Nat->Nat
instance:CoeFun Nu λ_=>Nat->Nat×Nat:=⟨Nu.pl⟩
def Nu.at(ν:Nu)(d:Nat):Nat->Nat
 |0=>(ν d).1|i+1=>ν.inn d i
inductive Shp where
 |sl(k:Fl)(es n:Nat)|box|mp
def bD.xB:bD->Shp
 |.sl k es xs=>.sl k es (W xs)|.dp k xs _=>.sl k 1 (W xs)|.box _=>.box|.mp _=>.mp
inductive dg(ν:Nu)(m:Tb bD)(H:bl)(Z:Nat->Prop):SV->V->Prop
 |v(x y:V)(h:FR H Z x y):dg ν m H Z (.v x) y|own(d:Nat)(y:V)(h:∀ob,bh m d=some ob->∃k es n,ob.xB=.sl k es n/\y=qf (ν d) k es n):dg ν m H Z (.own d) y|ptr(d o:Nat)(y:V)(h:∀ob,bh m d=some ob->∃cs,ob=.box cs/\y=.hptr (ν d).1 0 o):dg ν m H Z (.ptr d o) y|el(d i o:Nat)(y:V)(h:∀ob,bh m d=some ob->∃k es n,ob.xB=.sl k es n/\b_ k=true/\y=.hptr (ν d).1 ((ν d).2+i) o):dg ν m H Z (.el d i o) y|mp(d:Nat)(y:V)(h:∀ob,bh m d=some ob->∃kvs,ob=.mp kvs/\y=.hmap (ν d).1):dg ν m H Z (.mp d) y|clo(f:FuncId)(a b:List SV)(a' b':List V)(ha:a.length=a'.length)(hb:b.length=b'.length)
  (hva:∀(j:Nat)u v,a[j]?=some u->a'[j]?=some v->dg ν m H Z u v) (hvb:∀(j:Nat)u v,b[j]?=some u->b'[j]?=some v->dg ν m H Z u v):dg ν m H Z (.clo f a b) (.clo f a' b')
 |tup(a:List SV)(a':List V)(ha:a.length=a'.length)(hva:∀(j:Nat)u v,a[j]?=some u->a'[j]?=some v->dg ν m H Z u v):dg ν m H Z (.tup a) (.tup a')|agg(a:List SV)(a':List V)(ha:a.length=a'.length)(hva:∀(j:Nat)u v,a[j]?=some u->a'[j]?=some v->dg ν m H Z u v):dg ν m H Z (.agg a) (.agg a')|yl(id:Nat):dg ν m H Z (.yl id) (.yld id)
def ct(ν:Nu)(m:Tb bD)(H:bl)(Z:Nat->Prop)(xs:R')(ys:So):Prop:=W xs=W ys/\∀(j:Nat)u v,xs[j]?=M u->ys[j]?=M v->dg ν m H Z u v
def eR:bD->X'
 |.sl k _ _|.dp k _ _=>b_ k|_=>O
def bD.pt(ob:bD):Nat->X'
 |0=>eR ob|i+1=>match ob with
  |.dp _ xs h=>(match h with|some (j,_)=>j != i|none=>O)&&(match xs[i]?with|some [.fsl ..]=>O|_=>U)|_=>U
def fU(ν:Nu)(m:Tb bD)(id:Nat):Prop:=∃d ob j,bh m d=M ob/\ob.pt j=O/\ν.at d j=id
def wY(H:bl)(Z:Nat->Prop)(ys:S'):Prop:=∀c∈ys,∀u∈c,∃x,FR H Z x u
def GL(H:bl)(Z:Nat->Prop)(a b:aX (V×V)):Prop:=W a=W b/\∀(j:Nat)u v,a[j]?=M u->b[j]?=M v->(u.1=v.1/\u.1.scalar=O)/\FR H Z u.2 v.2
def xS(ν:Nu)(H:bl)(Z:Nat->Prop)(d i:Nat)(x y:So):Prop:=(x=y/\(x=[.bG]\/x=[.dN]))\/∃es u w,x=[.fsl es u]/\y=[.hsl (ν.inn d i) es 0 (W u)]/\H[ν.inn d i]?=M (.row es w)/\gN H Z u w
def qd(ν:Nu)(m:Tb bD)(H:bl)(Z:Nat->Prop)(d:Nat)(h:aY (Nat×Nat))(i:Nat)(x y:So):Prop:=
 match h with
 |some (j,t)=>if j=i then∃v,y=[v]/\v.one=O/\dg ν m H Z (.own t) v else xS ν H Z d i x y|none=>xS ν H Z d i x y
def dx(ν:Nu)(m:Tb bD)(H:bl)(Z:Nat->Prop)(d:Nat):bD->Prop
 |.sl k es xs=>if b_ k then∃ys,H[(ν d).1]?=M (.row es ys)/\(ν d).2+W xs<=W ys/\gN H Z xs ((ys.drop (ν d).2).take (W xs))/\wY H Z ys/\(k=.row->(ν d).2=0/\W ys=W xs)
  else xs=[]
 |.box cs=>∃es D,H[(ν d).1]?=M (.row es [D])/\ct ν m H Z cs D/\D.all V.one=O|.mp J=>∃B,H[(ν d).1]?=M (.map B)/\GL H Z J B|.dp k xs h=>if b_ k then k=.row/\(ν d).2=0/\(∀i t,h=M (i,t)->i<W xs)/\∃ys,H[(ν d).1]?=M (.row 1 ys)/\W ys=W xs/\∀i x y,xs[i]?=M x->ys[i]?=M y->qd ν m H Z d h i x y
  else xs=[]/\h=G
structure R(ν:Nu)(Z:Nat->Prop)(st:St)(F:Frame)(H:bl):Prop where
 slot:∀s sv,bh st.g s=some sv->dg ν st.m H Z sv (get F s)
 obj:∀d ob,bh st.m d=some ob->dx ν st.m H Z d ob
 inj:∀d d' ob l? j j',bh st.m d=some ob->bh st.m d'=some l?->ob.pt j=true->l?.pt j'=true->ν.at d j=ν.at d' j'->d=d'/\j=j'
 apart:∀d ob j,bh st.m d=some ob->ob.pt j=true->¬Z (ν.at d j)
 zrow:∀id,Z id->(bn H id).isSome=true
 deep:Deep H Z
def sameShape(a b:bD):Prop:=b.xB=a.xB
def sameShape.refl(o:bD):sameShape o o:=rfl
def sameShape.trans{a b c:bD}(h:sameShape a b)(k:sameShape b c):sameShape a c:=Eq.trans k h
structure Ev(Rv:Nat->Prop)(ν:Nu)(Z:Nat->Prop)(st:St)(H:bl)(ν':Nu)(Z':Nat->Prop)(e?:St)(H':bl):Prop where
 len:H.length<=H'.length
 same:∀id,id<H.length->¬fU ν st.m id->¬Z id->¬Rv id->H'[id]?=H[id]?
 rows:∀id,Z id->Z' id/\bn H' id=bn H id
 own:∀id,fU ν' e?.m id->fU ν st.m id\/Rv id\/H.length<=id
 frz:∀id,Z' id->Z id\/fU ν st.m id\/Rv id\/H.length<=id
 pin:∀d∈st.pin,∀l?,bh e?.m d=some l?->∃ob,bh st.m d=some ob/\ν' d=ν d/\sameShape ob l?
 pins:e?.pin=st.pin
section
variable{Rv Rv':Nat->Prop}{ν ν' ν2:Nu}{Z Z' Z2:Nat->Prop}{st e? st2:St}{m m':Tb bD}{F F':WP}{H H' H2:bl}
def Ev.refl:Ev Rv ν Z st H ν Z st H:=⟨z? _,λ_ _ _ _ _=>rfl,λ_ h=>⟨h,Y⟩,λ_ h=>.inl h,λ_ h=>.inl h,λ_ _ u h=>⟨u,h,Y,.refl _⟩,Y⟩
def Ev.trans(a:Ev Rv ν Z st H ν' Z' e? H')(b:Ev Rv ν' Z' e? H' ν2 Z2 st2 H2):Ev Rv ν Z st H ν2 Z2 st2 H2 where
 len:=U? a.len b.len
 same:=λid B u C hr=>by rw[b.same id (Nat.lt_of_lt_of_le B a.len) (λh=>(a.own id h).elim u λh=>h.elim hr λh=>c?) (λh=>(a.frz id h).elim C λh=>h.elim u λh=>h.elim hr λh=>c?) hr,a.same id B u C hr]
 rows:=λid h=>⟨(b.rows id (a.rows id h).1).1,by rw[(b.rows id (a.rows id h).1).2,(a.rows id h).2]⟩
 own:=λid h=>by rcases b.own id h with h|h|h;exact a.own id h;grind;exact .inr (.inr (U? a.len h))
 frz:=λid h=>by rcases b.frz id h with h|h|h|h;exact a.frz id h;rcases a.own id h with h|h|h;grind;grind;grind;grind;exact .inr (.inr (.inr (U? a.len h)))
 pin:=λd hd w h=>by have⟨z,c,g,D⟩:=b.pin d (by rw[a.pins];omega) w h;have⟨ob,k1,k2,k3⟩:=a.pin d hd z c;exact⟨ob,k1,o?,k3.trans D⟩
 pins:=by rw[b.pins,a.pins]
def Ev.weak(h:∀id,Rv id->Rv' id)(a:Ev Rv ν Z st H ν' Z' e? H'):Ev Rv' ν Z st H ν' Z' e? H':=⟨a.len,λid u w z hr=>a.same id u w z (λk=>hr (h id k)),a.rows,λid k=>(a.own id k).imp (λx=>x) (.imp (h id) (λx=>x)),λid k=>(a.frz id k).imp (λx=>x) (.imp (λx=>x) (.imp (h id) (λx=>x))),a.pin,a.pins⟩
theorem cA{α:Type}:∀(g:Tb α)(n:Nat)(v:α),bh (bE g n v) n=M v
 |[],n,v=>by simp[bE,bh]|(k,x)::r,n,v=>by simp[bE];split;(next h=>simp[bh,h]);rename_i h;simp[bh,h,cA r n v]
def cU{α:Type}:∀(g:Tb α){n k:Nat}(v:α),n≠k->bh (bE g n v) k=bh g k
 |[],n,k,v,h=>by simp[bE,bh,h]|(j,x)::r,n,k,v,h=>by simp[bE];split;(next a=>subst a;simp[bh,h]);simp[bh];split;rfl;exact cU r v h
def rS{α:Type}:∀{g:Tb α}{n:Nat}{v:α},bh g n=M v->bE g n v=g
 |[],n,v,h=>by cases h|(k,x)::r,n,v,h=>by simp[bh]at h;simp[bE];split;grind;rename_i e;rw[K' e]at h;rw[rS h]
def zq{α:Type}:∀(g:Tb α)(n:Nat),bh (dH n g) n=G
 |[],n=>rfl|(k,x)::r,n=>by simp[dH];split;exact zq r n;rename_i a;simp[bh];rw[K' a];exact zq r n
def zx{α:Type}:∀(g:Tb α){n k:Nat},n≠k->bh (dH n g) k=bh g k
 |[],n,k,h=>rfl|(j,x)::r,n,k,h=>by simp[dH];split;(next a=>subst a;simp[bh];rw[K' h];exact zx r h);simp[bh];split;rfl;exact zx r h
theorem mU{α:Type}{g:Tb α}{n k:Nat}{v:α}(h:bh (dH n g) k=M v):n≠k/\bh g k=M v:=by by_cases e:n=k;subst e;rw[zq]at h;simp_all;rw[zx g e]at h;grind
def qA{α:Type}{k:Nat}{v:α}:∀{ds:ST}{g:Tb α},bh (rB ds g) k=M v->bh g k=M v
 |[],_,h=>h|d::ds,g,h=>(mU (qA h)).2
def sZ{α:Type}{g:Tb α}{k:Nat}{v:α}:∀{l:ST}{r:Tb α},l8 g l=M r->bh r k=M v->bh g k=M v
 |[],r,h,B=>by simp[l8]at h;subst h;simp[bh]at B|n::l,r,h,B=>by simp[l8]at h;split at h;rename_i w t J D;simp at h;subst h;simp[bh]at B;split at B;grind;exact sZ D B;grind
def B2{d:Nat}:∀{g:Tb SV}{s:Nat}{sv:SV},xh d g=U->bh g s=M sv->sv.cR d=U
 |[],_,_,_,h=>by simp[bh]at h|(k,x)::r,s,sv,h,B=>by simp[xh]at h;simp[bh]at B;split at B;grind;exact B2 h.2 B
def uG{d:Nat}:∀{g:Tb bD}{s:Nat}{ob:bD},vw d g=U->bh g s=M ob->ob.cR d=U
 |[],_,_,_,h=>by simp[bh]at h|(k,x)::r,s,sv,h,B=>by simp[vw]at h;simp[bh]at B;split at B;grind;exact uG h.2 B
theorem wD{d:Nat}:∀{l:R'}{j:Nat}{u:SV},SV.dL d l=U->l[j]?=M u->u.cR d=U
 |[],_,_,_,h=>o?|x::r,j,u,h,B=>by simp[SV.dL]at h;cases j with|zero=>grind|succ j=>exact wD h.2 (by simpa using B)
def u6{d:Nat}:∀{l:R'}{j:Nat}{u:SV},l[j]?=M u->u.cR d=O->SV.dL d l=O
 |[],_,_,h,_=>o?|x::r,j,u,h,B=>by simp[SV.dL];cases j with|zero=>grind|succ j=>exact .inr (u6 (j:=j) g? B)
def dg.mono{sv:SV}{y:V}(T:∀id,Z id->Z' id/\bn H' id=bn H id)
 (r:dg ν m H Z sv y)(B:∀d,sv.cR d=O->∀l?,bh m' d=M l?->∃ob,bh m d=M ob/\ν' d=ν d/\sameShape ob l?):dg ν' m' H' Z' sv y:=by
 induction r with
 |v x y h=>exact .v x y (h.mono T)|own d y h=>
  refine .own d y λl? z=>?_
  have⟨ob,e,C,D⟩:=B d (by simp[SV.cR]) l? z
  obtain⟨k,es,n,J,rfl⟩:=h ob e;exact⟨k,es,n,Eq.trans D J,by rw[C]⟩
 |ptr d o y h=>
  refine .ptr d o y λl? z=>?_
  have⟨ob,e,C,D⟩:=B d (by simp[SV.cR]) l? z
  obtain⟨cs,rfl,rfl⟩:=h ob e;cases l?<;>cases D;exact⟨_,rfl,by rw[C]⟩
 |el d i o y h=>
  refine .el d i o y λl? z=>?_
  have⟨ob,e,C,D⟩:=B d (by simp[SV.cR]) l? z
  obtain⟨k,es,n,J,t,rfl⟩:=h ob e;exact⟨k,es,n,Eq.trans D J,t,by rw[C]⟩
 |mp d y h=>
  refine .mp d y λl? z=>?_
  have⟨ob,e,C,D⟩:=B d (by simp[SV.cR]) l? z
  obtain⟨cs,rfl,rfl⟩:=h ob e;cases l?<;>cases D;exact⟨_,rfl,by rw[C]⟩
 |clo f a b q Q I S hva A w L=>exact .clo f a b q Q I S (λj u v c g=>w j u v c g λd hd=>B d (by simp[SV.cR,u6 c hd])) (λj u v c g=>L j u v c g λd hd=>B d (by simp[SV.cR,u6 c hd]))|tup a q I hva w=>exact .tup a q I (λj u v c g=>w j u v c g λd hd=>B d (by simp[SV.cR,u6 c hd]))|agg a q I hva w=>exact .agg a q I (λj u v c g=>w j u v c g λd hd=>B d (by simp[SV.cR,u6 c hd]))|yl id=>exact .yl id
def ct.mono{sv:R'}{y:So}(B:∀id,Z id->Z' id/\bn H' id=bn H id)(r:ct ν m H Z sv y)(D:∀d,SV.dL d sv=O->∀l?,bh m' d=M l?->∃ob,bh m d=M ob/\ν' d=ν d/\sameShape ob l?):ct ν' m' H' Z' sv y:=⟨r.1,λj u v a b=>(r.2 j u v a b).mono B λd hd=>D d (u6 a hd)⟩
def ct.nil:ct ν m H Z [] []:=⟨Y,f?⟩
def ct.cons{x:SV}{y:V}{xs:R'}{ys:So}(h:dg ν m H Z x y)(r:ct ν m H Z xs ys):ct ν m H Z (x::xs) (y::ys):=by refine⟨by simp[r.1],λj u v a b=>?_⟩;cases j with|zero=>grind|succ j=>exact r.2 j u v g? g?
def ct.inv{x:SV}{xs:R'}{B:So}(r:ct ν m H Z (x::xs) B):∃y ys,B=y::ys/\dg ν m H Z x y/\ct ν m H Z xs ys:=by cases B with|nil=>have:=r.1;grind|cons y ys=>refine⟨y,ys,Y,r.2 0 x y Y Y,by have:=r.1;grind,λj u v a b=>r.2 (j+1) u v g? g?⟩
def ct.dm{B:So}(r:ct ν m H Z [] B):B=[]:=by have:=r.1;grind
theorem ct.get{xs:R'}{ys:So}(r:ct ν m H Z xs ys){j:Nat}{u:SV}(h:xs[j]?=M u):∃v,ys[j]?=M v/\dg ν m H Z u v:=by
 have w:=(ζe.1 h).1;have:j<W ys:=by rw[<-r.1];omega
 exact⟨ys[j],ζd this,r.2 j u _ h (ζd this)⟩
def ct.append{a c:R'}{b d:So}(h:ct ν m H Z a b)(k:ct ν m H Z c d):ct ν m H Z (a++c) (b++d):=by refine⟨by simp[h.1,k.1],λj u v e f=>?_⟩;by_cases w:j<W a;rw[u? w]at e;rw[u? (by rw[<-h.1];omega)]at f;exact h.2 j u v e f;rw[G? c?]at e;rw[G? (by rw[<-h.1];omega),<-h.1]at f;exact k.2 _ u v e f
def ct.take{a:R'}{b:So}(h:ct ν m H Z a b)(n:Nat):ct ν m H Z (a.take n) (b.take n):=by
 refine⟨by simp[h.1],λj u v c d=>?_⟩;rw[I?]at c d;split at c;next w=>rw[J0 w]at d;exact h.2 j u v c d
 grind
def ct.drop{a:R'}{b:So}(h:ct ν m H Z a b)(n:Nat):ct ν m H Z (a.drop n) (b.drop n):=by refine⟨by simp[h.1],λj u v c d=>?_⟩;rw[R?]at c d;exact h.2 _ u v c d
theorem dg.fr{x y:V}(r:dg ν m H Z (.v x) y):FR H Z x y:=by cases r;assumption
def ct.tE{xs ys:So}(r:dJ H Z xs ys):ct ν m H Z (xs.map .v) ys:=by refine⟨by simp[r.1],λj u v a b=>?_⟩;rw[List.getElem?_map,ζf]at a;obtain⟨x,w,rfl⟩:=a;exact .v x v (r.2 j x v w b)
def xZ:∀{m?:R'}{xs:So},dw m?=M xs->m?=xs.map .v
 |[],xs,h=>by simp[dw]at h;grind|x::r,xs,h=>by(cases x<;>simp only[dw]at h<;>first|grind|skip);obtain⟨t,B,rfl⟩:=ζf.1 h;rw[xZ B];rfl
def ct.frl{xs ys:So}(r:ct ν m H Z (xs.map .v) ys):dJ H Z xs ys:=by refine⟨by have:=r.1;grind,λj u v b a=>?_⟩;have:(xs.map SV.v)[j]?=M (.v u):=g?;exact(r.2 j _ v this a).fr
end
section
variable{ν:Nu}{Z:Nat->Prop}{st:St}{m:Tb bD}{F:WP}{H H1:bl}{N:Nat->Y'}
def rq(nm:Y'->aY Nat):UV->aY Arg
 |.tmp t=>M (.s t)|.const v=>match ofValue 4 v with
  |some c=>if c.good then M (.k c)else G|none=>G
 |.func f=>(nm f).map .f|.global g=>match b8.gl g with
  |some cs=>if(V.fptr cs).good then M (.k (.fptr cs))else G|none=>G
def HQ{nm:Y'->aY Nat}(D:∀f s,nm f=M s->N s=f){g:Tb SV}(J:∀s sv,bh g s=M sv->dg ν m H Z sv (get F s)){o:UV}{x:Arg}{sv:SV}(B:rq nm o=M x)(a:tN N g x=M sv):
 ∃y,ev F o=M y/\dg ν m H Z sv y:=by
 cases o with
 |tmp t=>simp[rq]at B;subst B;exact⟨get F t,rfl,J t sv a⟩|const w=>
  simp[rq]at B;split at B
  .rename_i c hc;split at B
   next u=>simp at B;subst B;simp[tN]at a;subst a;exact⟨c,hc,.v _ _ (.same _ u)⟩
   grind
  grind
 |func f=>simp[rq]at B;obtain⟨z,C,rfl⟩:=B;simp[tN]at a;subst a;exact⟨_,rfl,.v _ _ (by rw[D f z C];exact .same _ rfl)⟩|global i=>
  simp[rq]at B;split at B
  .rename_i c hc;split at B
   next u=>simp at B;subst B;simp[tN]at a;subst a;exact⟨.fptr c,by simp[ev,hc],.v _ _ (.same _ u)⟩
   grind
  grind
def qJ{nm:Y'->aY Nat}(D:∀f s,nm f=M s->N s=f){g:Tb SV}(J:∀s sv,bh g s=M sv->dg ν m H Z sv (get F s)):∀{os:aX UV}{xs:QQ}{m?:R'},
 os.mapM (rq nm)=M xs->bW N g xs=M m?->∃ys,gm F os=M ys/\ct ν m H Z m? ys
 |[],xs,m?,B,hv=>by simp at B;subst B;simp[bW]at hv;subst hv;exact⟨[],rfl,.nil⟩|o::os,xs,m?,B,hv=>by simp[ζg]at B;obtain⟨x,T,ys,d,rfl⟩:=B;simp[bW]at hv;split at hv;(next v C b w=>simp at hv;subst hv;have⟨a,B,z⟩:=HQ D J T b;have⟨az,c,u⟩:=qJ D J d w;exact⟨a::az,by grind[gm],.cons z u⟩);grind
def dg.iq{d:Nat}{y:V}(r:dg ν m H Z (.own d) y){ob:bD}(h:bh m d=M ob):∃k es n,ob.xB=.sl k es n/\y=qf (ν d) k es n:=by cases r with|own _ _ u=>grind
def dg.q9{d o:Nat}{y:V}(r:dg ν m H Z (.ptr d o) y){ob:bD}(h:bh m d=M ob):∃cs,ob=.box cs/\y=.hptr (ν d).1 0 o:=by cases r with|ptr _ _ _ u=>grind
def dg.xU{d i o:Nat}{y:V}(r:dg ν m H Z (.el d i o) y){ob:bD}(h:bh m d=M ob):∃k es n,ob.xB=.sl k es n/\b_ k=O/\y=.hptr (ν d).1 ((ν d).2+i) o:=by cases r with|el _ _ _ _ u=>grind
def dg.GH{d:Nat}{y:V}(r:dg ν m H Z (.mp d) y){ob:bD}(h:bh m d=M ob):∃B,ob=.mp B/\y=.hmap (ν d).1:=by cases r with|mp _ _ u=>grind
def dg.l_{f:Y'}{a b:R'}{y:V}(r:dg ν m H Z (.clo f a b) y):∃a' B,y=.clo f a' B/\ct ν m H Z a a'/\ct ν m H Z b B:=by cases r with|clo _ _ _ a' B w z hva u=>exact⟨a',B,Y,⟨w,hva⟩,⟨z,u⟩⟩
def dg.tc{a:R'}{y:V}(r:dg ν m H Z (.tup a) y):∃a',y=.tup a'/\ct ν m H Z a a':=by cases r with|tup _ a' u hva=>exact⟨a',Y,u,hva⟩
def dg.jP{a:R'}{y:V}(r:dg ν m H Z (.agg a) y):∃a',y=.agg a'/\ct ν m H Z a a':=by cases r with|agg _ a' u hva=>exact⟨a',Y,u,hva⟩
def qo{p:Nat×Nat}{k:Fl}{es len:Nat}(h:b_ k=O):qf p k es len=.hsl p.1 es p.2 len:=by cases k<;>simp[b_]at h<;>rfl
def lF{x:SV}{y:V}(h:m_ m x=O)(r:dg ν m H Z x y):y.cells=[y]/\y.one=O:=by cases x with|v x=>grind[m_]|own d=>have⟨ob,u⟩:=isSome_iff_exists.1 h;obtain⟨k,es,n,_,rfl⟩:=r.iq u;cases k<;>exact⟨rfl,rfl⟩|ptr d o=>have⟨ob,u⟩:=isSome_iff_exists.1 h;obtain⟨cs,rfl,rfl⟩:=r.q9 u;exact⟨rfl,rfl⟩|el d i o=>have⟨ob,u⟩:=isSome_iff_exists.1 h;obtain⟨k,es,n,_,_,rfl⟩:=r.xU u;exact⟨rfl,rfl⟩|mp d=>have⟨ob,u⟩:=isSome_iff_exists.1 h;obtain⟨w,rfl,rfl⟩:=r.GH u;exact⟨rfl,rfl⟩|clo f a b=>obtain⟨z,B,rfl,_⟩:=r.l_;exact⟨rfl,rfl⟩|tup l=>grind[m_]|agg l=>grind[m_]|yl id=>grind[m_]
def SJ{x:SV}{y:V}(h:zV m x=O)(r:dg ν m H Z x y):y.one=O:=by
 cases x with
 |v x=>
  have u:=r.fr;have w:x.one=O:=h;have c:=u.cells;have e:x.cells=[x]:=by cases x<;>first|rfl|grind[V.one]
  rw[e]at c;have g:=c.one;have z:=c.1
  cases y with
  |agg l=>cases u with|same _ _=>grind|agg _ _ _ _=>grind[V.one]
  |tup l=>cases u with|same _ _=>grind|tup _ _ _ _=>grind[V.one]
  |_=>rfl
 |own d=>exact(lF (x:=.own d) h r).2|ptr d o=>exact(lF (x:=.ptr d o) h r).2|el d i o=>exact(lF (x:=.el d i o) h r).2|mp d=>exact(lF (x:=.mp d) h r).2|clo f a b=>exact(lF (x:=.clo f a b) h r).2|tup l=>grind[zV,m_]|agg l=>grind[zV,m_]|yl id=>grind[zV,m_]
theorem Jv {l:aX SV} {ys:aX V} (h:l.all (zV m)=true) (r:ct ν m H Z l ys):ys.all V.one=true:=by
 refine List.all_eq_true.2 λy w=>?_
 obtain⟨j,z,e⟩:=List.mem_iff_getElem.1 w;have u:j<l.length:=by rw[r.1];omega
 exact SJ (List.all_eq_true.1 h _ (List.getElem_mem u)) (r.2 j _ y (ζd u) g?)
def Rn{x:SV}{y:V}{c:R'}(h:AO m x=M c)(r:dg ν m H Z x y):ct ν m H Z c y.cells:=by
 unfold AO at h;split at h;cases h;exact ct.tE r.fr.cells;cases h;obtain⟨z,rfl,u⟩:=r.jP;exact u;split at h;next w=>cases h;rw[(lF w r).1];exact .cons r .nil
 simp_all
def MX:∀{pl:aX (Nat×Nat)}{vs cells l:R'}{B cells':So},ct ν m H Z cells cells'->ct ν m H Z vs B->vK m cells pl vs=M l->∃D,mK cells' pl B=M D/\ct ν m H Z l D
 |[],[],cells,l,B,cells',hc,hv,h=>by rw[hv.dm];simp[vK]at h;subst h;exact⟨_,rfl,hc⟩|[],_::_,_,_,_,_,_,_,h=>by grind[vK]|_::_,[],_,_,_,_,_,_,h=>by grind[vK]|(off,size)::pl,v::vs,cells,l,B,cells',hc,hv,h=>by obtain⟨w,J,rfl,b,T⟩:=hv.inv;simp only[vK]at h;split at h;rename_i c z;have a:=Rn z b;split at h;have⟨D,e1,e2⟩:=MX (cells':=cells'.take off++w.cells++cells'.drop (off+W w.cells)) (by rw[<-a.1];exact((hc.take off).append a).append (hc.drop _)) T h;have u:W w.cells=size/\off+W w.cells<=W cells':=(by rw[<-a.1,<-hc.1];omega);grind[mK];simp_all;simp_all
theorem MP{size o:Nat}{agg:X'}{cs:R'}{B:So}{sv:SV}(h:ct ν m H Z cs B)(hp:xk size agg ((cs.drop o).take size)=M sv):∃y,_l (cut B o size) (mk agg)=M y/\dg ν m H Z sv y:=by
 have u:=(h.drop o).take size;unfold xk at hp;split at hp;have a:cut B o size=M ((B.drop o).take size):=by unfold cut;rw[J0 (by rw[<-u.1];omega)]
 rw[a];split at hp;split at hp;rename_i D w;cases hp;have z:=by rw[xZ w]at u;exact u.frl
 exact⟨_,by simp_all[mk],.v _ _ (.agg _ _ z.1 z.2)⟩;cases hp;exact⟨_,by simp_all[mk],.agg _ _ u.1 u.2⟩;split at hp;rename_i x w;simp at hp;subst hp;rw[w]at u;have⟨y,d,e,I,C⟩:=u.inv;rw[e,C.dm];grind[mk];grind;grind
theorem UX{p:xI}{m?:R'}{ys:So}{sv:SV}(o:∀zero pl,p=.build zero pl->V.cN zero=O)(i:∀d ob,bh m d=M ob->dx ν m H Z d ob)(h:ct ν m H Z m? ys)(hp:Af N m p m?=M sv):∃y,bV N p ys=M y/\dg ν m H Z sv y:=by
 unfold Af at hp;split at hp;obtain⟨y,_,rfl,c,B⟩:=h.inv;rw[B.dm];simp at hp;subst hp;exact⟨y,_i,c⟩;obtain⟨y,_,rfl,c,B⟩:=h.inv;rw[B.dm];split at hp;next L=>simp at hp;subst hp;have⟨ob,u⟩:=isSome_iff_exists.1 L;obtain⟨cs,rfl,rfl⟩:=c.q9 u;exact⟨_,_i,c⟩
 grind;obtain⟨y,_,rfl,c,B⟩:=h.inv;rw[B.dm];split at hp;next L=>simp at hp;subst hp;have⟨ob,u⟩:=isSome_iff_exists.1 L;obtain⟨k,es,n,L,f,rfl⟩:=c.xU u;exact⟨_,_i,c⟩
 grind;rename_i t a b;obtain⟨Q,_,rfl,c,B⟩:=h.inv;obtain⟨T,_,rfl,a__,D⟩:=B.inv;obtain⟨q,_,rfl,E,r⟩:=D.inv;rw[c.fr.bool,r.dm];simp at hp;refine⟨if t=O then T else q,_i,?_⟩;grind
 .obtain⟨Q,_,rfl,c,B⟩:=h.inv;obtain⟨T,_,rfl,a__,D⟩:=B.inv;rw[a__.fr.bG,D.dm];split at hp
  .rename_i k es b__ u;split at hp;simp_all;simp at hp;subst hp;obtain⟨W,P,I,e,rfl⟩:=c.iq u;cases e;cases k<;>first|grind|exact⟨_,_i,.v _ _ (.same _ _i)⟩
  grind
 .obtain⟨Q,_,rfl,c,B⟩:=h.inv;obtain⟨T,_,rfl,a__,D⟩:=B.inv;rw[a__.fr.bG,D.dm];split at hp
  .rename_i k es b__ u;split at hp;simp_all;simp at hp;subst hp;obtain⟨W,P,I,e,rfl⟩:=c.iq u;cases e;cases k<;>first|grind|exact⟨_,_i,.v _ _ (.same _ _i)⟩
  grind
 obtain⟨y,_,rfl,c,B⟩:=h.inv;rw[B.dm];split at hp;next L=>simp at hp;subst hp;have⟨ob,u⟩:=isSome_iff_exists.1 L;obtain⟨cs,rfl,rfl⟩:=c.q9 u;exact⟨_,_i,.ptr _ _ _ λJ C=>g?⟩
 grind;obtain⟨y,_,rfl,c,B⟩:=h.inv;rw[B.dm];split at hp;next L=>simp at hp;subst hp;have⟨ob,u⟩:=isSome_iff_exists.1 L;obtain⟨k,es,n,L,f,rfl⟩:=c.xU u;exact⟨_,_i,.el _ _ _ _ λJ C=>by rw[u]at C;grind⟩
 simp at hp;obtain⟨Q,_,rfl,c,B⟩:=h.inv;obtain⟨T,_,rfl,a__,D⟩:=B.inv;rw[a__.fr.int,D.dm];split at hp;rename_i k es b__ u;split at hp;rename_i g;obtain⟨f,rfl,X,S⟩:=g;simp at hp;subst hp;obtain⟨W,P,I,e,rfl⟩:=c.iq u;cases e;rw[qo f];refine⟨.hptr (ν _).1 ((ν _).2+_) 0,by simp only[bV,nU,K' (Int.not_lt.2 X),true_and,J0 S];rfl,.el _ _ _ _ λJ C=>?_⟩;rw[u]at C;cases C;exact⟨_,_,_,_i,f,_i⟩;simp at hp;rename_i k b__ w u;split at hp;rename_i g;obtain⟨f,rfl,X,S⟩:=g;simp at hp;subst hp;obtain⟨W,P,I,e,rfl⟩:=c.iq u;cases e;rw[qo f];refine⟨.hptr (ν _).1 ((ν _).2+_) 0,by simp only[bV,nU,K' (Int.not_lt.2 X),true_and,J0 S];rfl,.el _ _ _ _ λJ C=>?_⟩;rw[u]at C;cases C;exact⟨_,_,_,_i,f,_i⟩;simp at hp;simp at hp;obtain⟨Q,_,rfl,c,B⟩:=h.inv;obtain⟨T,_,rfl,a__,D⟩:=B.inv;rw[a__.fr.int,D.dm];split at hp;rename_i g;simp at hp;subst hp;have⟨ob,u⟩:=isSome_iff_exists.1 g.2.2;obtain⟨cs,rfl,rfl⟩:=c.q9 u;refine⟨.hptr (ν _).1 0 (_+_),by simp only[bV,zS,J0 (And.intro g.1 g.2.1)];rfl,.ptr _ _ _ λJ C=>?_⟩;rw[u]at C;grind;simp at hp;obtain⟨Q,_,rfl,c,B⟩:=h.inv;obtain⟨T,_,rfl,a__,D⟩:=B.inv;rw[a__.fr.int,D.dm];split at hp;rename_i g;simp at hp;subst hp;have⟨ob,u⟩:=isSome_iff_exists.1 g.2.2;obtain⟨k,es,n,L,f,rfl⟩:=c.xU u;refine⟨.hptr (ν _).1 (_+_) (_+_),by simp only[bV,zS,J0 (And.intro g.1 g.2.1)];rfl,.el _ _ _ _ λJ C=>?_⟩;rw[u]at C;grind;simp at hp;obtain⟨Q,_,rfl,c,B⟩:=h.inv;rw[B.dm];split at hp;rename_i k es b__ u;simp at hp;subst hp;obtain⟨W,P,I,e,rfl⟩:=c.iq u;cases e;have:=i _ _ u;simp[dx]at this;cases f:k<;>simp[f,b_]at this⊢;subst this;exact⟨_,_i,.v _ _ (.same _ _i)⟩;subst this;exact⟨_,_i,.v _ _ (.same _ _i)⟩;exact⟨_,_i,.v _ _ (.same _ _i)⟩;exact⟨_,_i,.v _ _ (.same _ _i)⟩;rename_i k b__ w u;simp at hp;subst hp;obtain⟨W,P,I,e,rfl⟩:=c.iq u;cases e;have:=i _ _ u;simp[dx]at this;cases f:k<;>simp[f,b_]at this⊢;obtain⟨rfl,_⟩:=this;exact⟨_,_i,.v _ _ (.same _ _i)⟩;obtain⟨rfl,_⟩:=this;exact⟨_,_i,.v _ _ (.same _ _i)⟩;exact⟨_,_i,.v _ _ (.same _ _i)⟩;simp at hp;rename_i vs name k;simp at hp;subst hp;exact⟨_,_i,.clo _ _ _ _ _ (h.take k).1 (h.drop k).1 (h.take k).2 (h.drop k).2⟩;obtain⟨Q,_,rfl,c,B⟩:=h.inv;rw[B.dm];obtain⟨s,rfl,j⟩:=c.tc;have⟨z,v,Y⟩:=j.get hp;exact⟨z,v,Y⟩;rename_i vs zero pl;obtain⟨l,x,rfl⟩:=ζf.1 hp;have⟨A,c,B⟩:=MX (ct.tE (dJ.same (o zero pl _i))) h x;exact⟨.agg A,by grind[Go.VE.bV],.agg _ _ B.1 B.2⟩;obtain⟨Q,_,rfl,c,B⟩:=h.inv;rw[B.dm];obtain⟨s,rfl,j⟩:=c.jP;grind[MP,Go.VE.bV];grind
def Li{p:xI}{m?:R'}{ys:So}{sv:SV}(B:∀zero pl,p=.build zero pl->V.cN zero=O)(J:∀d ob,bh m d=M ob->dx ν m H Z d ob)(h:ct ν m H Z m? ys)(hp:kH N m p m?=M sv):
 ∃y,bV N p ys=M y/\dg ν m H Z sv y:=by
 unfold kH at hp;split at hp
 next g u=>obtain⟨z,w,rfl⟩:=ζf.1 hp;rw[xZ u]at h;have⟨C,a,D⟩:=dJ.bV B h.frl w;exact⟨C,a,.v _ _ D⟩
 grind[UX]
def ct.dw{m?:R'}{xs ys:So}(h:ct ν m H Z m? ys)(B:dw m?=M xs):dJ H Z xs ys:=by rw[xZ B]at h;exact h.frl
def Fa{k:V}:∀{a b:aX (V×V)}{i:Nat},GL H Z a b->(jd k a i=M G->jd k b i=M G)/\∀j v,jd k a i=M (M (j,v))->∃B,jd k b i=M (M (j,B))/\FR H Z v B
 |[],b,i,h=>by have:b=[]:=length_eq_zero_iff.1 (by have:=h.1;grind);grind[jd]|(k1,x)::a,[],i,h=>by have:=h.1;grind|(k1,x)::a,(k2,y)::b,i,h=>by have⟨⟨e,_⟩,z⟩:=h.2 0 _ _ Y Y;subst e;have w:GL H Z a b:=⟨by have:=h.1;grind,λj u v c d=>h.2 (j+1) u v g? g?⟩;have C:=Fa (i:=i+1) (k:=k) w;grind[jd]
def yP{kk:zm}{k:V}(h:rZ kk k=O):k.scalar=O:=by unfold rZ at h;split at h;rfl;rfl;simp at h;have⟨a,u⟩:=isSome_iff_exists.1 h.2;exact uf u;grind
def zA{r:OU}{m?:R'}{ys:So}{sv:SV}(ak:∀s a,r≠.loadF s a)(T:∀kk z ok,r=.lookup kk z ok->z.good=O)(h:ct ν m H Z m? ys)(n:∀d,SV.dL d m?=O->∀ob,bh m d=M ob->dx ν m H Z d ob)(hp:oG m r m?=M sv):
 ∃y,fW H r ys=M y/\dg ν m H Z sv y:=by
 unfold oG at hp;split at hp
 .
  obtain⟨d__,_,rfl,b,I⟩:=h.inv;rw[I.dm];split at hp
  .rename_i cs u;obtain⟨al,e,rfl⟩:=b.q9 u;obtain⟨es,am,g,o,_⟩:=n _ (by simp[SV.dL,SV.cR]) _ u
   grind[MP,fW,fD,Ob.rows]
  grind
 .
  obtain⟨d__,_,rfl,b,I⟩:=h.inv;rw[I.dm];split at hp
  .rename_i k es xs u;split at hp
   .rename_i cs W;obtain⟨z,L,rfl⟩:=ζf.1 hp;obtain⟨k1,R,an,e,f,rfl⟩:=b.xU u;cases e;have:=n _ (by simp[SV.dL,SV.cR]) _ u
    simp[dx,f]at this;obtain⟨rs,g,K,B,_⟩:=this;obtain⟨c,o,ad⟩:=B.get W;have q:=(ζe.1 W).1;rw[I?,J0 q,R?]at o;obtain⟨r1,w,J⟩:=ζg.1 L;obtain⟨r2,ae,C⟩:=ad.cut w;obtain⟨A,X,Y⟩:=C.mk J;refine⟨A,?_,.v _ _ Y⟩
    grind[fW,fD,Ob.rows]
   grind
  .rename_i k xs j t u;split at hp
   .rename_i o;obtain⟨rfl,rfl,rfl,rfl⟩:=o;cases hp;obtain⟨k1,R,n1,e,f,rfl⟩:=b.xU u;cases e;have:=n _ (by simp[SV.dL,SV.cR]) _ u
    simp only[dx,f,L']at this;obtain⟨_,h0,af,ys,g,K,B⟩:=this;have q:=af _ _ rfl;have:=B j _ _ (ζd q) (ζd c?)
    simp only[qd,L']at this;obtain⟨v,e1,e2,e3⟩:=this;exact⟨v,by simp[fW,fD,g,Ob.rows,h0,K,q,e1,cut,mk],e3⟩
   grind
  grind
 .
  rename_i size agg p;obtain⟨d__,_,rfl,b,I⟩:=h.inv;rw[I.dm];obtain⟨z,L,rfl⟩:=ζf.1 hp;obtain⟨r1,w,J⟩:=ζg.1 L;unfold fD at w;split at w
  .rename_i cs;rcases b.fr.ow with rfl|⟨id,el,off,es,ys,ao,rfl,Y,g,he,ap,B⟩
   .refine⟨z,by grind[fW,fD],.v _ _ (.same _ ?_)⟩
    have ah:=by have:=b.fr.good;simpa[V.good]using this
    obtain⟨r',aq,C⟩:=(dJ.same (H:=H) (Z:=Z) ah).cut w;obtain⟨A,X,D⟩:=C.mk J;exact D.good
   obtain⟨r2,ae,C⟩:=B.cut w;obtain⟨A,X,D⟩:=C.mk J;refine⟨A,?_,.v _ _ D⟩
   grind[bn,fW,fD,cut]
  all_goals grind
 .
  rename_i kk z ok d k;obtain⟨d__,_,rfl,b,I⟩:=h.inv;obtain⟨a__,_,rfl,E,F⟩:=I.inv;rw[F.dm];split at hp
  .rename_i c__ u;split at hp
   .rename_i f;obtain⟨_,e,rfl⟩:=b.GH u;have Q:=E.fr.scalar.1 (yP f);subst Q;obtain⟨aj,g,ai⟩:=n _ (by simp[SV.dL,SV.cR]) _ u
    obtain⟨f1,f2⟩:=Fa ai;split at hp
    .rename_i j v B;obtain⟨N,ar,P⟩:=f2 j v B;simp at hp;subst hp;refine⟨if ok=O then .tup [N,.bool O]else N,by grind[fW,oE],?_⟩
     cases ok
     .exact .v _ _ P
     refine .v _ _ (.tup _ _ rfl (dJ.cons P (.cons (.same _ rfl) .nil)).2)
    .rename_i B;simp at hp;subst hp;refine⟨if ok=O then .tup [z,.bool U]else z,by grind[fW,oE],?_⟩
     have L:=T kk z ok rfl;cases ok
     .exact .v _ _ (.same _ L)
     exact .v _ _ (.same _ (by grind[V.good,V.cN]))
    grind
   grind
  grind
 .
  rename_i kk z ok p k;obtain⟨d__,_,rfl,b,I⟩:=h.inv;obtain⟨a__,_,rfl,E,F⟩:=I.inv;rw[F.dm];obtain⟨x,b__,rfl⟩:=ζf.1 hp;simp[fW]at b__;have L:=T kk z ok rfl;split at b__
  .rename_i c__ S;have key:oE H d__=M c__/\V.vH c__=O:=by
    unfold oE at S;split at S
    .rw[b.fr.ir];simp at S;subst S;exact⟨rfl,rfl⟩
    .rw[b.fr.fmap];simp at S;subst S;exact⟨rfl,by have:=b.fr.good;grind[V.good]⟩
    all_goals grind
   split at b__
   .rename_i f;have Q:=E.fr.scalar.1 (yP f);subst Q;split at b__
    .rename_i j v B;simp at b__;subst b__;have hv:=by
      have:∀{l:aX (V×V)}{i:Nat},V.vH l=O->jd a__ l i=M (M (j,v))->v.good=O:=by intro l;induction l with|nil=>grind[jd]|cons p l ih=>intro i hg h;simp[V.vH]at hg;simp[jd]at h;grind
      exact this key.2 B
     refine⟨if ok=O then .tup [v,.bool O]else v,by grind[fW],?_⟩
     cases ok
     .exact .v _ _ (.same _ hv)
     exact .v _ _ (.same _ (by grind[V.good,V.cN]))
    .rename_i B;simp at b__;subst b__;refine⟨if ok=O then .tup [z,.bool U]else z,by grind[fW],?_⟩
     cases ok
     .exact .v _ _ (.same _ L)
     exact .v _ _ (.same _ (by grind[V.good,V.cN]))
    simp at b__
   simp at b__
  simp at b__
 all_goals grind
end
section
variable{Rv:Nat->Prop}{ν ν':Nu}{Z Z':Nat->Prop}{st e?:St}{m m':Tb bD}{F F':WP}{H H':bl}
def uy{k:Fl}{xs:S'}{h:aY (Nat×Nat)}{i:Nat}(hp:(bD.dp k xs h).pt (i+1)=O):(∀t,h≠M (i,t))/\∃es B,xs[i]?=M [.fsl es B]:=by simp only[bD.pt,ζh]at hp;have⟨a,u⟩:=hp;refine⟨λt e=>?_,?_⟩;subst e;simp at a;split at u;exact⟨_,_,by assumption⟩;cases u
def qd.out{d i:Nat}{h:aY (Nat×Nat)}{x y:So}(B:∀t,h≠M (i,t)):qd ν m H Z d h i x y↔xS ν H Z d i x y:=by unfold qd;split;rename_i j t;have:j≠i:=λe=>B t (by rw[e]);rw[K' this];rfl
def dx.at{d:Nat}{ob:bD}(o:dx ν m H Z d ob){j:Nat}(h:ob.pt j=O):∃x,H[ν.at d j]?=M x:=by
 cases j with
 |zero=>have h:eR ob=O:=h;cases ob with|sl k es z=>simp only[eR]at h;simp only[dx,h,L']at o;exact⟨_,o.choose_spec.1⟩|box cs=>have⟨es,C,a,_⟩:=o;exact⟨_,a⟩|mp D=>have⟨B,a,_⟩:=o;exact⟨_,a⟩|dp k z w=>simp only[eR]at h;simp only[dx,h,L']at o;have⟨_,_,_,g,a,_⟩:=o;exact⟨_,a⟩
 |succ i=>
  cases ob with
  |dp k z w=>have⟨b,es,J,u⟩:=uy h;simp only[dx]at o;split at o;have⟨_,_,_,g,a,L,I⟩:=o;have hi:=(ζe.1 u).1;have:=(qd.out b).1 (I i _ _ u (ζd c?));rcases this with⟨_,h|h⟩|⟨_,_,q,_,_,h,_⟩;cases h;cases h;exact⟨_,h⟩;rw[o.1]at u;cases u
  |_=>simp[bD.pt]at h
def dx.free{d:Nat}{ob:bD}(o:dx ν m H Z d ob){j:Nat}(h:ob.pt j=O):H[ν.at d j]?≠M .free:=by
 cases j with
 |zero=>have h:eR ob=O:=h;show H[(ν d).1]?≠_;cases ob with|sl k es z=>simp only[eR]at h;simp only[dx,h,L']at o;have⟨B,a,_⟩:=o;rw[a];simp|box cs=>have⟨es,D,a,_⟩:=o;rw[a];simp|mp g=>have⟨C,a,_⟩:=o;rw[a];simp|dp k z w=>simp only[eR]at h;simp only[dx,h,L']at o;have⟨_,_,_,B,a,_⟩:=o;rw[a];simp
 |succ i=>
  cases ob with
  |dp k z w=>have⟨b,es,J,u⟩:=uy h;simp only[dx]at o;split at o;have⟨_,_,_,B,a,L,I⟩:=o;have hi:=(ζe.1 u).1;rcases(qd.out b).1 (I i _ _ u (ζd c?))with⟨_,h|h⟩|⟨_,_,q,_,_,h,_⟩;cases h;cases h;show H[ν.inn d i]?≠_;rw[h];simp;rw[o.1]at u;cases u
  |_=>simp[bD.pt]at h
def R.lt(r:R ν Z st F H){id:Nat}(h:fU ν st.m id):id<W H:=by obtain⟨d,ob,j,a,u,rfl⟩:=h;have⟨o,w⟩:=(r.obj d ob a).at u;exact(ζe.1 w).1
def R.xT(r:R ν Z st F H){id:Nat}(h:Z id):id<W H:=by have:=r.zrow id h;unfold bn at this;have⟨x,u⟩:=isSome_iff_exists.1 this;have⟨ob,a,_⟩:=ζg.1 u;exact(ζe.1 a).1
def Deep.mono(d:Deep H Z)(h:∀id,Z id->bn H' id=bn H id):Deep H' Z where
 row:=λid es z w hr c hc u hu=>by rw[h id w]at hr;have⟨x,B⟩:=d.row id es z w hr c hc u hu;exact⟨x,B.mono λk a=>⟨a,h k a⟩⟩
def wY.mono{ys:S'}(h:∀id,Z id->Z' id/\bn H' id=bn H id)(s:wY H Z ys):wY H' Z' ys:=λc a u b=>by have⟨x,w⟩:=s c a u b;exact⟨x,w.mono h⟩
def GL.mono{a b:aX (V×V)}(h:∀id,Z id->Z' id/\bn H' id=bn H id)(s:GL H Z a b):GL H' Z' a b:=⟨s.1,λj u v c d=>⟨(s.2 j u v c d).1,(s.2 j u v c d).2.mono h⟩⟩
def dx.mono{d J:Nat}{ob:bD}(B:∀id,Z id->Z' id/\bn H' id=bn H id)(hd:ν' J=ν d)(D:∀j,ob.pt j=O->H'[ν.at d j]?=H[ν.at d j]?)
 (T:∀e,ob.cR e=O->∀l?,bh m' e=M l?->∃ob,bh m e=M ob/\ν' e=ν e/\sameShape ob l?)(o:dx ν m H Z d ob)(hi:ν'.inn J=ν.inn d:=by rfl):dx ν' m' H' Z' J ob:=by
 cases ob with
 |sl k es W=>
  simp only[dx,hd]at o⊢;split
  next a=>rw[J0 a]at o;have⟨I,b,u,C,L,A⟩:=o;exact⟨I,(D 0 (by simpa[bD.pt,eR]using a)).trans b,u,C.mono B,L.mono B,A⟩
  rename_i a;rw[K' a]at o;exact o
 |box cs=>have⟨es,Q,b,u,C⟩:=o;exact⟨es,Q,by rw[hd];exact(D 0 rfl).trans b,u.mono B T,C⟩|mp X=>have⟨q,b,u⟩:=o;exact⟨q,by rw[hd];exact(D 0 rfl).trans b,u.mono B⟩|dp k W w=>
  simp only[dx,hd]at o⊢;split
  .rename_i a;rw[J0 a]at o;have⟨Y,b,u,I,C,L,A⟩:=o;refine⟨Y,b,u,I,(D 0 a).trans C,L,λi x y P c=>?_⟩
   have f:(∀t,w≠M (i,t))->xS ν H Z d i x y->xS ν' H' Z' J i x y:=λz h=>by rcases h with h|⟨es,g,l,rfl,rfl,e1,e2⟩;exact .inl h;refine .inr ⟨es,g,l,_i,by rw[hi],?_,e2.mono B⟩;rw[hi];have:=D (i+1) (by simp only[bD.pt,P,Bool.and_true];split<;>grind);simp only[Nu.at]at this;rw[this];exact e1
   have S:=A i x y P c
   by_cases z:∃t,w=M (i,t)
   .obtain⟨t,rfl⟩:=z;simp only[qd,L']at S⊢;have⟨v,e1,e2,e3⟩:=S;exact⟨v,e1,e2,e3.mono B λe n=>T e (by simpa[SV.cR,bD.cR]using n)⟩
   have z:∀t,w≠M (i,t):=λt e=>z ⟨t,e⟩
   exact(qd.out z).2 (f z ((qd.out z).1 S))
  rename_i a;rw[K' a]at o;exact o
def j9(ν:Nu)(m:Tb bD)(e:Nat):∀l?,bh m e=M l?->∃ob,bh m e=M ob/\ν e=ν e/\sameShape ob l?:=λl? h=>⟨l?,h,Y,.refl _⟩
def R.heap(r:R ν Z st F H)(D:∀id,fU ν st.m id->H'[id]?=H[id]?)(B:∀id,Z id->bn H' id=bn H id):R ν Z st F H' where
 slot:=λs u w=>(r.slot s u w).mono (λid h=>⟨h,B id h⟩) λd _=>j9 ν st.m d
 obj:=λd ob hd=>dx.mono (λid h=>⟨h,B id h⟩) Y (λj z=>D _ ⟨d,ob,j,hd,z,Y⟩) (λe _=>j9 ν st.m e) (r.obj d ob hd)
 inj:=r.inj
 apart:=r.apart
 zrow:=λid h=>by rw[B id h];exact r.zrow id h
 deep:=r.deep.mono B
def R.put(r:R ν Z st F H){d:Nat}{sv:SV}{y:V}(h:dg ν st.m H Z sv y):R ν Z {st with g:=bE st.g d sv} (set F d y) H where
 slot:=λs x u=>by by_cases e:d=s;subst e;rw[cA]at u;cases u;rw[vW];exact h;rw[cU st.g sv e]at u;rw[kG _ _ e];exact r.slot s x u
 obj:=r.obj
 inj:=r.inj
 apart:=r.apart
 zrow:=r.zrow
 deep:=r.deep
def Ev.slots(g:Tb SV):Ev Rv ν Z st H ν Z {st with g:=g} H:=⟨z? _,λ_ _ _ _ _=>rfl,λ_ h=>⟨h,Y⟩,λ_ h=>.inl h,λ_ h=>.inl h,λ_ _ u h=>⟨u,h,Y,.refl _⟩,Y⟩
def iN(ν:Nu)(d:Nat)(p:Nat×Nat):Nu:=⟨λk=>if k=d then p else ν k,ν.inn⟩
theorem jh(ν:Nu)(d:Nat)(p:Nat×Nat):iN ν d p d=p:=J0 Y
def DN(ν:Nu){d k:Nat}(p:Nat×Nat)(h:k≠d):iN ν d p k=ν k:=K' h
def OE(ν:Nu){d k:Nat}(p:Nat×Nat)(h:k≠d)(j:Nat):(iN ν d p).at k j=ν.at k j:=by cases j with|zero=>simp only[Nu.at,DN ν p h]|succ i=>rfl
def bD.flat(ob:bD):Prop:=∀j,ob.pt j=O->j=0
def lu{ob:bD}(h:∀k xs w,ob≠.dp k xs w):ob.flat:=λj u=>by cases j with|zero=>rfl|succ i=>cases ob<;>simp[bD.pt]at u h
def lV{d:Nat}(h:st.new d=O):d∉st.pin/\bh st.m d=G/\xh d st.g=U/\vw d st.m=U:=by unfold St.new at h;simp only[ζh,e!,Option.isNone_iff_eq_none,List.contains_eq_mem,_f]at h;exact⟨h.1.1.1,h.1.1.2,h.1.2,h.2⟩
def BT{d:Nat}{ob:bD}{p:Nat×Nat}{e:Nat}(h:e≠d):∀l?,bh (bE m d ob) e=M l?->∃ob,bh m e=M ob/\iN ν d p e=ν e/\sameShape ob l?:=λl? u=>by rw[cU m ob (Ne.symm h)]at u;exact⟨l?,u,DN ν p h,.refl _⟩
def pH{ob l?:bD}(D:eR l?=eR ob)(B:l?.flat:=by exact lu f?):∀j,l?.pt j=O->ob.pt j=O:=λj h=>by have:=B j h;subst this;exact(show eR ob=O from D▸h)
def kJ(ν:Nu)(d:Nat)(p:Nat×Nat)(f:Nat->Nat):Nu:=⟨λk=>if k=d then p else ν k,λk=>if k=d then f else ν.inn k⟩
def uA(ν:Nu){d k:Nat}(p:Nat×Nat)(f:Nat->Nat)(h:k≠d)(j:Nat):(kJ ν d p f).at k j=ν.at k j:=by cases j with|zero=>exact _d fst (K' h)|succ i=>exact congrFun (K' h) i
def o_(ν:Nu)(d:Nat)(p:Nat×Nat)(f:Nat->Nat):(kJ ν d p f) d=p/\(kJ ν d p f).inn d=f:=⟨J0 Y,J0 Y⟩
def T4(ν:Nu)(d:Nat)(p:Nat×Nat):iN ν d p=kJ ν d p (ν.inn d):=by
 have:(kJ ν d p (ν.inn d)).inn=ν.inn:=funext λk=>by show(if k=d then ν.inn d else ν.inn k)=_;split;(next h=>rw[h]);rfl
 show(⟨_,ν.inn⟩:Nu)=⟨_,(kJ ν d p (ν.inn d)).inn⟩;rw[this]
def R.Uy(r:R ν Z st F H){d:Nat}{ob:bD}{p:Nat×Nat}{f:Nat->Nat}(n:bh st.m d=G)(P:xh d st.g=U)(A:∀e o,bh st.m e=M o->o.cR d=O->dx (kJ ν d p f) (bE st.m d ob) H Z e o)
 (T:∀j,ob.pt j=O->¬fU ν st.m ((kJ ν d p f).at d j)/\¬Z ((kJ ν d p f).at d j))(g:∀j y,ob.pt j=O->ob.pt y=O->(kJ ν d p f).at d j=(kJ ν d p f).at d y->j=y)(i:dx (kJ ν d p f) (bE st.m d ob) H Z d ob):
 R (kJ ν d p f) Z {st with m:=bE st.m d ob} F H:=by
 have key:∀w u,bh (bE st.m d ob) w=M u->w≠d->bh st.m w=M u:=λw u h e=>by rw[cU st.m ob (Ne.symm e)]at h;exact h
 have c:∀e,e≠d->∀u,bh (bE st.m d ob) e=M u->∃ob,bh st.m e=M ob/\(kJ ν d p f) e=ν e/\sameShape ob u:=λe D u h=>⟨u,key e u h D,K' D,.refl _⟩
 refine⟨λs Q q=>?_,λw u hd=>?_,?_,?_,r.zrow,r.deep⟩
 .refine(r.slot s Q q).mono (λid h=>⟨h,Y⟩) λe D=>c e ?_
  rintro rfl;rw[B2 P q]at D;cases D
 .by_cases e:w=d
  .subst e;simp only at hd;rw[cA]at hd;cases hd;exact i
  have I:=key w u hd e
  by_cases q:u.cR d=O
  .exact A w u I q
  refine dx.mono (λid h=>⟨h,Y⟩) (K' e) (λ_ _=>rfl) (λk l=>c k ?_) (r.obj w u I) (K' e)
  rintro rfl;exact q l
 .intro b d2 o1 o2 L t a z B J C
  by_cases e1:b=d<;>by_cases e2:d2=d
  .subst e1;subst e2;simp only at a z;rw[cA]at a z;cases a;cases z;exact⟨Y,g _ _ B J C⟩
  .subst e1;simp only at a;rw[cA]at a;cases a;rw[uA ν p f e2]at C;exact _c ⟨d2,o2,t,key d2 o2 z e2,J,C.symm⟩ (T _ B).1
  .subst e2;simp only at z;rw[cA]at z;cases z;rw[uA ν p f e1]at C;exact _c ⟨b,o1,L,key b o1 a e1,B,C⟩ (T _ J).1
  rw[uA ν p f e1,uA ν p f e2]at C;exact r.inj b d2 o1 o2 L t (key b o1 a e1) (key d2 o2 z e2) B J C
 intro b o1 j a B
 by_cases e1:b=d
 .subst e1;simp only at a;rw[cA]at a;cases a;exact(T _ B).2
 rw[uA ν p f e1];exact r.apart b o1 j (key b o1 a e1) B
def R.add(r:R ν Z st F H){d:Nat}(J:st.new d=O){ob:bD}{p:Nat×Nat}(T:eR ob=O->¬fU ν st.m p.1/\¬Z p.1)(D:dx (iN ν d p) (bE st.m d ob) H Z d ob)(B:ob.flat:=by exact lu f?):
 R (iN ν d p) Z {st with m:=bE st.m d ob} F H:=by
 have⟨_,w,z,C⟩:=lV J;rw[T4]at D⊢;refine r.Uy w z (λe o h u=>?_) (λj h=>?_) (λj I h g _=>by rw[B _ h,B _ g]) D
 .rw[uG C h]at u;cases u
 have:=B _ h;subst this;simp only[Nu.at,o_];exact T h
def KV{d:Nat}{ob:bD}{p:Nat×Nat}{f:Nat->Nat}{id:Nat}(h:fU (kJ ν d p f) (bE m d ob) id):fU ν m id\/∃j,ob.pt j=O/\(kJ ν d p f).at d j=id:=by have⟨k,o,j,a,w,u⟩:=h;by_cases e:k=d;subst e;rw[cA]at a;cases a;exact .inr ⟨j,w,u⟩;rw[uA ν p f e]at u;rw[cU m ob (Ne.symm e)]at a;exact .inl ⟨k,o,j,a,w,u⟩
def D_{d:Nat}{ob:bD}{p:Nat×Nat}{id:Nat}(h:fU (iN ν d p) (bE m d ob) id)(B:ob.flat:=by exact lu f?):fU ν m id\/(eR ob=O/\id=p.1):=by have⟨k,o,j,a,w,u⟩:=h;by_cases e:k=d;subst e;rw[cA]at a;cases a;have:=B _ w;subst this;simp only[Nu.at,jh]at u;exact .inr ⟨w,u.symm⟩;rw[OE ν p e]at u;rw[cU m ob (Ne.symm e)]at a;exact .inl ⟨k,o,j,a,w,u⟩
def Ev.add{d:Nat}(D:st.new d=O){ob:bD}{p:Nat×Nat}(J:W H<=W H')(T:∀id,id<W H->¬Rv id->H'[id]?=H[id]?)(g:∀id,Z id->bn H' id=bn H id)
 (hp:eR ob=O->Rv p.1\/W H<=p.1)(B:ob.flat:=by exact lu f?):Ev Rv ν Z st H (iN ν d p) Z {st with m:=bE st.m d ob} H' where
 len:=J
 same:=λid h _ _ hr=>T id h hr
 rows:=λid h=>⟨h,g id h⟩
 own:=λid h=>by rcases D_ h B with h|⟨a,rfl⟩;exact .inl h;exact .inr (hp a)
 frz:=λid h=>.inl h
 pin:=λe w u h=>by have:e≠d:=(by rintro rfl;exact(lV D).1 w);exact BT this u h
 pins:=rfl
def R.Hv(r:R ν Z st F H){d:Nat}{ob l?:bD}(D:bh st.m d=M ob)(J:sameShape ob l?)(o:∀j,l?.pt j=O->ob.pt j=O)(T:∀id,(eR ob=O->id≠(ν d).1)->H'[id]?=H[id]?)
 (t:dx ν (bE st.m d l?) H' Z d l?):R ν Z {st with m:=bE st.m d l?} F H':=by
 have z:∀id,Z id->Z id/\bn H' id=bn H id:=λid h=>⟨h,by
  unfold bn;rw[T id (by rintro B rfl;exact r.apart d ob 0 D B h)]⟩
 have c:∀e u,bh (bE st.m d l?) e=M u->∃w,bh st.m e=M w/\ν e=ν e/\sameShape w u:=λe u h=>by by_cases k:e=d;subst k;rw[cA]at h;cases h;exact⟨ob,D,Y,J⟩;rw[cU st.m l? (Ne.symm k)]at h;exact⟨u,h,Y,.refl _⟩
 have C:∀e u,bh (bE st.m d l?) e=M u->∃w,bh st.m e=M w/\∀j,u.pt j=O->w.pt j=O:=λe u h=>by by_cases k:e=d;subst k;rw[cA]at h;cases h;exact⟨ob,D,o⟩;rw[cU st.m l? (Ne.symm k)]at h;exact⟨u,h,λ_ h=>h⟩
 refine⟨λs Q J=>(r.slot s Q J).mono z λe _=>c e,λg u hd=>?_,?_,?_,λid h=>by rw[(z id h).2];exact r.zrow id h,r.deep.mono λid h=>(z id h).2⟩
 .by_cases e:g=d
  .subst e;simp only at hd;rw[cA]at hd;cases hd;exact t
  simp only at hd;rw[cU st.m l? (Ne.symm e)]at hd;refine dx.mono z Y (λj I=>T _ λB h=>e (r.inj g d u ob j 0 hd D I B h).1) (λk _=>c k) (r.obj g u hd)
 .intro a d2 o1 o2 S X b q L b2 hp;have⟨p1,k1,i⟩:=C a o1 b;have⟨p2,k2,f⟩:=C d2 o2 q;exact r.inj a d2 p1 p2 S X k1 k2 (i _ L) (f _ b2) hp
 intro a o1 j b L;have⟨p1,k1,i⟩:=C a o1 b;exact r.apart a p1 j k1 (i _ L)
def Ev.Hv(r:R ν Z st F H){d:Nat}{ob l?:bD}(B:bh st.m d=M ob)(J:sameShape ob l?)(T:∀j,l?.pt j=O->ob.pt j=O)(D:∀id,(eR ob=O->id≠(ν d).1)->H'[id]?=H[id]?)(i:W H<=W H'):
 Ev Rv ν Z st H ν Z {st with m:=bE st.m d l?} H' where
 len:=i
 same:=λid _ g _ _=>D id λu e=>g ⟨d,ob,0,B,u,e.symm⟩
 rows:=λid h=>⟨h,by unfold bn;rw[D id (by rintro u rfl;exact r.apart d ob 0 B u h)]⟩
 own:=λid⟨k,o,j,h1,z,C⟩=>by by_cases e:k=d;subst e;simp only at h1;rw[cA]at h1;cases h1;exact .inl ⟨k,ob,j,B,T _ z,C⟩;simp only at h1;rw[cU st.m l? (Ne.symm e)]at h1;exact .inl ⟨k,o,j,h1,z,C⟩
 frz:=λid h=>.inl h
 pin:=λe _ w h=>by by_cases k:e=d;subst k;simp only at h;rw[cA]at h;cases h;exact⟨ob,B,Y,J⟩;simp only at h;rw[cU st.m l? (Ne.symm k)]at h;exact⟨w,h,Y,.refl _⟩
 pins:=rfl
def R.ij(r:R ν Z st F H){d:Nat}{ob l?:bD}(D:bh st.m d=M ob)(J:sameShape ob l?)(T:∀j,l?.pt j=O->ob.pt j=O)(g:∀id,id≠(ν d).1->H'[id]?=H[id]?)(B:eR ob=O)(i:dx ν (bE st.m d l?) H' Z d l?):R ν Z {st with m:=bE st.m d l?} F H':=r.Hv D J T (λid h=>g id (h B)) i
def Ev.ij(r:R ν Z st F H){d:Nat}{ob l?:bD}(D:bh st.m d=M ob)(J:sameShape ob l?)(T:∀j,l?.pt j=O->ob.pt j=O)(g:∀id,id≠(ν d).1->H'[id]?=H[id]?)(B:eR ob=O)(i:W H<=W H'):Ev Rv ν Z st H ν Z {st with m:=bE st.m d l?} H':=Ev.Hv r D J T (λid h=>g id (h B)) i
def R.less(r:R ν Z st F H){g:Tb SV}{m':Tb bD}(a:∀s sv,bh g s=M sv->bh st.g s=M sv)(B:∀d ob,bh m' d=M ob->bh st.m d=M ob):R ν Z {st with g:=g,m:=m'} F H where
 slot:=λs sv z=>(r.slot s sv (a s sv z)).mono (λid h=>⟨h,Y⟩) λe _ u h=>⟨u,B e u h,Y,.refl _⟩
 obj:=λd ob hd=>dx.mono (λid h=>⟨h,Y⟩) Y (λ_ _=>rfl) (λe _ u h=>⟨u,B e u h,Y,.refl _⟩) (r.obj d ob (B d ob hd))
 inj:=λd w ob u j C b D=>r.inj d w ob u j C (B d ob b) (B w u D)
 apart:=λd ob j h=>r.apart d ob j (B d ob h)
 zrow:=r.zrow
 deep:=r.deep
def Ev.less{g:Tb SV}{m':Tb bD}(B:∀d ob,bh m' d=M ob->bh st.m d=M ob):Ev Rv ν Z st H ν Z {st with g:=g,m:=m'} H:=⟨z? _,λ_ _ _ _ _=>rfl,λ_ h=>⟨h,Y⟩,λ_⟨d,ob,j,a,w,z⟩=>.inl ⟨d,ob,j,B d ob a,w,z⟩,λ_ h=>.inl h,λe _ u h=>⟨u,B e u h,Y,.refl _⟩,Y⟩
def Ev.heap(B:W H<=W H')(D:∀id,id<W H->¬fU ν st.m id->¬Z id->¬Rv id->H'[id]?=H[id]?)(J:∀id,Z id->bn H' id=bn H id):Ev Rv ν Z st H ν Z st H':=⟨B,D,λid h=>⟨h,J id h⟩,λ_ h=>.inl h,λ_ h=>.inl h,λ_ _ u h=>⟨u,h,Y,.refl _⟩,Y⟩
def gN.B1{xs ys:S'}(h:gN H Z xs ys):wY H Z ys:=λc b u d=>by
 have⟨i,hi⟩:=mem_iff_getElem?.1 b;have z:i<W xs:=by rw[h.1];grind
 have a:=h.2 i _ c (ζd z) hi;have⟨j,B⟩:=mem_iff_getElem?.1 d;have w:j<W (xs[i]):=by rw[a.1];grind
 exact⟨_,a.2 j _ u (ζd w) B⟩
theorem gN.same{xs:S'}(h:V.pg xs=O):gN H Z xs xs:=⟨Y,λj u v a b=>by rw[a]at b;grind[dJ.same,mN]⟩
def qH{z:So}(h:V.cN z=O):∀n,V.pg (w? n z)=O
 |0=>rfl|n+1=>by simp[List.replicate_succ,V.pg,h,qH h n]
def Eh{es:Nat}:∀{ps qs:aX (Nat×V)}{xs B r:S'},gN H Z xs B->ps.map (·.1)=qs.map (·.1)->dJ H Z (ps.map (·.2)) (qs.map (·.2))->gz es xs ps=M r->∃J,gz es B qs=M J/\gN H Z r J
 |[],qs,xs,B,r,D,a,T,h=>by simp_all[gz]|(i,v)::ps,qs,xs,B,r,D,a,T,h=>by cases qs with|nil=>simp_all|cons q qs=>obtain⟨j,w⟩:=q;simp at a;obtain⟨e,a⟩:=a;subst e;obtain⟨w',C,e,u,z⟩:=T.inv;obtain⟨rfl,rfl⟩:=e;have b:=u.cells;simp only[gz]at h⊢;split at h;rw[J0 ⟨by rw[<-b.1];grind,by rw[<-D.1];grind,by rw[b.one];grind⟩];exact Eh (D.set i b) a z h;grind
def zip_fst:∀{idx:ST}{xs:So},W idx=W xs->(idx.zip xs).map (·.1)=idx
 |[],xs,_=>f?|i::idx,[],h=>o?|i::idx,x::xs,h=>by simp[zip_fst (idx:=idx) (xs:=xs) g?]
def HW:∀{idx:ST}{xs:So},W idx=W xs->(idx.zip xs).map (·.2)=xs
 |[],[],_=>f?|[],x::xs,h=>o?|i::idx,[],h=>o?|i::idx,x::xs,h=>by simp[HW (idx:=idx) (xs:=xs) g?]
def RI{a:RP}{m?:R'}{ys:So}{d:Nat}{ob:bD}{sv:SV}(b:D2 (.a a)=O)(r:ct ν m H Z m? ys)(h:nG m a m? d=M (ob,sv)):
 ∃o mk,nO a ys=M (o,mk)/\eR ob=O/\ob.flat/\o≠.free/\∀(id:Nat)(ν':Nu)(m':Tb bD)(H':bl),ν' d=(id,0)->bh m' d=M ob->H'[id]?=M o->(∀k,Z k->bn H' k=bn H k)->
  (∀e,SV.dL e m?=O->∀l?,bh m' e=M l?->∃ob,bh m e=M ob/\ν' e=ν e/\sameShape ob l?)->dx ν' m' H' Z d ob/\dg ν' m' H' Z sv (mk.val id):=by
 unfold nG at h;split at h
 .
  rename_i size zero;obtain⟨rfl,rfl⟩:=h;rw[r.dm];simp only[D2,ζh]at b;refine⟨_,_,rfl,rfl,lu f?,f?,λid ν' m' H' e1 e2 e3 e4 e5=>⟨⟨_,zero,by rw[e1];omega,ct.tE (dJ.same b.1),b.2⟩,?_⟩⟩
  exact .ptr _ _ _ λl? u=>by rw[e2]at u;cases u;exact⟨_,rfl,by rw[e1];rfl⟩
 .
  split at h
  .rename_i C;obtain⟨rfl,rfl⟩:=h;obtain⟨y,_,rfl,f,B⟩:=r.inv;rw[B.dm];have l:=f.fr.cells;refine⟨.row y.cells.length [y.cells],.ptr,by simp[nO,l.one,C],rfl,lu f?,f?,λid ν' m' H' e1 e2 e3 e4 e5=>⟨⟨_,y.cells,by rw[e1];omega,ct.tE (l.mono λk b=>⟨b,e4 k b⟩),by rw[l.one];simp_all⟩,?_⟩⟩
   exact .ptr _ _ _ λl? u=>by rw[e2]at u;cases u;exact⟨_,rfl,by rw[e1];rfl⟩
  grind
 .
  split at h
  .rename_i w;obtain⟨rfl,rfl⟩:=h;obtain⟨y,_,rfl,f,B⟩:=r.inv;rw[B.dm];obtain⟨Q,rfl,W⟩:=f.jP;have D:=Jv w W;refine⟨.row Q.length [Q],.ptr,by grind[nO,V.cells],rfl,lu f?,f?,λid ν' m' H' e1 e2 e3 e4 e5=>⟨⟨_,Q,by rw[e1];omega,W.mono (λk b=>⟨b,e4 k b⟩) λe S=>e5 e (by grind[SV.dL,SV.cR]),D⟩,?_⟩⟩
   exact .ptr _ _ _ λl? u=>by rw[e2]at u;cases u;exact⟨_,rfl,by rw[e1];rfl⟩
  grind
 .
  split at h
  .rename_i w;obtain⟨rfl,rfl⟩:=h;obtain⟨y,_,rfl,f,B⟩:=r.inv;rw[B.dm];obtain⟨X,D⟩:=lF w f;refine⟨.row [y].length [[y]],.ptr,by grind[nO],rfl,lu f?,f?,λid ν' m' H' e1 e2 e3 e4 e5=>⟨⟨_,[y],by rw[e1];omega,.cons (f.mono (λk b=>⟨b,e4 k b⟩) λe S=>e5 e (by grind[SV.dL])) .nil,o?⟩,?_⟩⟩
   exact .ptr _ _ _ λl? u=>by rw[e2]at u;cases u;exact⟨_,rfl,by rw[e1];rfl⟩
  grind
 .
  rename_i size zero k n F c;obtain⟨_,_,rfl,f,B⟩:=r.inv;obtain⟨_,_,rfl,q,s⟩:=B.inv;rw[f.fr.int,q.fr.int,s.dm];split at h
  .rename_i l;obtain⟨rfl,rfl⟩:=h;have T:b_ (if n=c then Fl.row else Fl.part)=O:=by split<;>rfl
   refine⟨_,_,by simp only[nO];rw[J0 l],T,lu f?,f?,λid ν' m' H' e1 e2 e3 e4 e5=>⟨?_,?_⟩⟩
   .simp[dx,T,e1];have v:=qH b c.toNat;have c__:n.toNat<=c.toNat:=by omega
    refine⟨_,e3,o?,?_,(gN.same v).B1,λe=>?_⟩
    .simp[Nat.min_eq_left c__];exact gN.same (qH b _)
    grind
   refine .own _ _ λl? u=>?_
   rw[e2]at u;cases u;exact⟨_,_,_,rfl,by rw[qo T,e1];simp[Mk.val]⟩
  grind
 .
  rename_i vs size len zero idx;split at h
  .rename_i xs a__;split at h
   .rename_i w;obtain⟨rows,A,e⟩:=ζf.1 h;obtain⟨rfl,rfl⟩:=e;have b__:=r.dw a__;obtain⟨g,I,z⟩:=Eh (qs:=idx.zip ys) (gN.same (qH b len)) (by rw[zip_fst w,zip_fst (by rw[<-b__.1];exact w)]) (by rw[HW w,HW (by rw[<-b__.1];exact w)];exact b__) A
    have J:g.length=len:=by have:∀{ps:aX (Nat×V)}{a r:S'},gz size a ps=M r->r.length=a.length:=(by intro ps;induction ps with|nil=>grind[gz]|cons p ps ih=>grind[gz]);rw[this I];simp
    refine⟨.row size g,.sl size len,by simp only[nO];rw[J0 (by rw[<-b__.1];exact w),I];rfl,rfl,lu f?,f?,λid ν' m' H' e1 e2 e3 e4 e5=>⟨?_,?_⟩⟩
    .have L:=z.mono λk b=>⟨b,e4 k b⟩
     simp only[dx,e1];refine⟨_,e3,by simp[z.1],?_,L.B1,λ_=>⟨trivial,z.1.symm⟩⟩
     simp[z.1];exact L
    refine .own _ _ λl? u=>?_
    rw[e2]at u;cases u;exact⟨_,_,_,rfl,by rw[z.1,J];grind[qf,Mk.val]⟩
   grind
  split at h
  .rename_i t _;split at h
   .rename_i l;obtain⟨rfl,rfl,rfl,w⟩:=l;obtain⟨rfl,rfl⟩:=h;obtain⟨y,_,rfl,f,B⟩:=r.inv;rw[B.dm];obtain⟨X,D⟩:=lF (x:=.own t) w f;refine⟨.row 1 [[y]],.sl 1 1,by simp[nO,gz,X,D],rfl,λj E=>?_,f?,λid ν' m' H' e1 e2 e3 e4 e5=>⟨?_,?_⟩⟩
    .cases j with
     |zero=>rfl|succ i=>cases i<;>simp[bD.pt]at E
    .simp only[dx,b_,L',e1];refine⟨trivial,trivial,λi K e=>by cases e;simp,_,e3,rfl,λi x P a__ Y=>?_⟩
     cases i with
     |zero=>simp at a__ Y;subst a__;subst Y;simp only[qd,L'];exact⟨y,rfl,D,f.mono (λk b=>⟨b,e4 k b⟩) λe S=>e5 e (by simp[SV.dL,S])⟩|succ i=>simp at a__
    refine .own _ _ λl? u=>?_
    rw[e2]at u;cases u;exact⟨_,_,_,rfl,by simp[qf,e1,Mk.val]⟩
   cases h
  cases h
 .
  obtain⟨rfl,rfl⟩:=h;rw[r.dm];refine⟨_,_,rfl,rfl,lu f?,f?,λid ν' m' H' e1 e2 e3 e4 e5=>⟨⟨_,by rw[e1];exact e3,rfl,f?⟩,?_⟩⟩
  exact .mp _ _ λl? u=>by rw[e2]at u;cases u;exact⟨_,rfl,by rw[e1];rfl⟩
 grind
theorem ct.abf {cs:aX SV} {B:aX V} (h:ct ν m H Z cs B) {size o:Nat} {x:SV} {y:V} {r:aX SV} (J:dg ν m H Z x y) (hp:putCells m size o x cs=some r) (D:B.all V.one=true) :
 y.cells.length=size/\o+size<=B.length/\y.cells.all V.one=true/\ct ν m H Z r (B.take o++y.cells++B.drop (o+y.cells.length))/\(B.take o++y.cells++B.drop (o+y.cells.length)).all V.one=true:=by
 have u:∀k:Nat,(B.take k).all V.one=true/\(B.drop k).all V.one=true:=λk=>
  ⟨List.all_eq_true.2 λz C=>List.all_eq_true.1 D z (List.mem_of_mem_take C),List.all_eq_true.2 λz C=>List.all_eq_true.1 D z (List.mem_of_mem_drop C)⟩
 unfold putCells at hp;split at hp
 .split at hp
  .rename_i hc;simp only[ζa]at hp;subst hp;have w:=J.fr.cells;refine⟨by rw[<-w.1];simp_all,by rw[<-h.1];grind,by rw[w.one];grind,?_,?_⟩
   .have e:y.cells.length=size:=by rw[<-w.1];simp_all
    rw[e];exact((h.take o).append (ct.tE w)).append (h.drop _)
   simp only[List.all_append,(u _).1,(u _).2,w.one,hc.2.2,Bool.and_self]
  grind
 .split at hp
  .rename_i hc;simp only[ζa]at hp;subst hp;obtain⟨L,rfl,d⟩:=J.jP;have g:=Jv hc.2.2 d
   grind[ct,V.cells]
  grind
 split at hp
 .rename_i hc;simp only[ζa]at hp;subst hp;obtain⟨I,Q⟩:=lF hc.1 J;rw[I];refine⟨by simp[hc.2.1],by rw[<-h.1];grind,by simp_all,?_,?_⟩
  .exact((h.take o).append (.cons J .nil)).append (h.drop _)
  grind
 grind
def xK{size:Nat}{x:SV}{y:V}{xs:S'}(r:dg ν m H Z x y)(B:∀d ob,bh m d=M ob->dx ν m H Z d ob)(h:jB m size x=M xs):∃ys,dX H size y=M ys/\gN H Z xs ys:=by
 unfold jB at h;split at h;split at h;rename_i k es w u;obtain⟨_,_,_,e,rfl⟩:=r.iq u;cases e;have o:=B _ _ u;simp[dx]at o;split at h;rename_i a;rw[J0 a]at o;split at h;rename_i z;simp at h;subst h;have⟨ys,b,C,D,_⟩:=o;rw[qo a];grind[dX,Ob.rows];grind;rename_i a;simp at h;subst h;refine⟨[],?_,Y,f?⟩;cases k<;>simp[b_]at a<;>rfl;grind;simp at h;subst h;rw[r.fr.bG];exact⟨[],Y,Y,f?⟩;simp at h;subst h;rw[r.fr.dN];exact⟨[],Y,Y,f?⟩
 .split at h
  .rename_i es w z;simp at h;subst h;have c:=r.fr.good;rcases r.fr.oh with rfl|⟨id,off,ys,rfl,g,b,C,D⟩;all_goals simp_all[dX,gN.same,V.good,bn]
  grind
 grind
def Ev.re{m1:Tb bD}(D:∀d ob,bh m1 d=M ob->bh st.m d=M ob){d:Nat}(q:d∉st.pin){ob:bD}{p:Nat×Nat}(J:W H<=W H')(T:∀id,id<W H->¬fU ν st.m id->¬Rv id->H'[id]?=H[id]?)
 (i:∀id,Z id->bn H' id=bn H id)(hp:eR ob=O->fU ν st.m p.1\/Rv p.1\/W H<=p.1)(B:ob.flat:=by exact lu f?):Ev Rv ν Z st H (iN ν d p) Z {st with m:=bE m1 d ob} H' where
 len:=J
 same:=λid h C _ hr=>T id h C hr
 rows:=λid h=>⟨h,i id h⟩
 own:=λid h=>by rcases D_ h B with h|⟨a,rfl⟩;have⟨k,o,j,a,w,z⟩:=h;exact .inl ⟨k,o,j,D k o a,w,z⟩;grind
 frz:=λid h=>.inl h
 pin:=λe g u h=>by have:e≠d:=g?;have⟨o,a,w,z⟩:=BT (ν:=ν) (p:=p) this u h;grind
 pins:=rfl
def Kept(dst:aY Nat)(ν:Nu)(m:Tb bD)(ν':Nu)(m':Tb bD):Prop:=∀e u,dst≠M e->bh m' e=M u->∃ob,bh m e=M ob/\ν' e=ν e/\sameShape ob u/\∀j,u.pt j=O->ob.pt j=O/\ν'.at e j=ν.at e j
def Kept.refl{dst:aY Nat}:Kept dst ν m ν m:=λe u _ h=>⟨u,h,Y,.refl _,λ_ h=>⟨h,Y⟩⟩
def Kept.ij{dst:aY Nat}{d:Nat}{ob l?:bD}(B:bh m d=M ob)(D:sameShape ob l?)(hp:∀j,l?.pt j=O->ob.pt j=O):Kept dst ν m ν (bE m d l?):=λe u _ h=>by by_cases k:e=d;subst k;rw[cA]at h;cases h;exact⟨ob,B,Y,D,λj h=>⟨hp j h,Y⟩⟩;rw[cU m l? (Ne.symm k)]at h;exact⟨u,h,Y,.refl _,λ_ h=>⟨h,Y⟩⟩
def Kept.add{d:Nat}{ob:bD}{p:Nat×Nat}{m1:Tb bD}(B:∀d ob,bh m1 d=M ob->bh m d=M ob):Kept (M d) ν m (iN ν d p) (bE m1 d ob):=λe u w h=>by have:e≠d:=λh=>w (by rw[h]);have⟨o,a,z,D⟩:=BT (ν:=ν) (p:=p) this u h;rw[cU _ _ (Ne.symm this)]at h;exact⟨u,B e u h,z,.refl _,λj C=>⟨C,OE ν p this j⟩⟩
def mH{d:Nat}:∀e ob,bh (dH d m) e=M ob->bh m e=M ob:=λ_ _ h=>(mU h).2
def GL.put{k x y:V}{a b r:aX (V×V)}(D:k.scalar=O)(h:GL H Z a b)(J:FR H Z x y)(hp:sJ k x a=M r):∃B,sJ k y b=M B/\GL H Z r B:=by unfold sJ at hp;obtain⟨d,C⟩:=Fa h;split at hp;rename_i j v g;simp at hp;subst hp;obtain⟨L,I,_⟩:=C j v g;refine⟨b.set j (k,y),by grind[sJ],by simp[h.1],λi u w c z=>?_⟩;rw[D?]at c z;split at c;grind;rename_i e;rw[K' e]at z;exact h.2 i u w c z;simp at hp;subst hp;refine⟨b++[(k,y)],by grind[sJ],by simp[h.1],λi u w c z=>?_⟩;by_cases hi:i<a.length;rw[u? hi]at c;rw[u? (by rw[<-h.1];omega)]at z;exact h.2 i u w c z;rw[G? (by rw[<-h.1];omega),<-h.1]at z;grind;grind
def NU(r:R ν Z st F H){d:Nat}{cs:R'}(B:bh st.m d=M (.box cs)):∀{l:R'}{D:So},ct ν st.m H Z l D->l.all (QB st.m d)=O->D.all (qt (ν d).1)=O:=by intro l;induction l with|nil=>intro D C _;rw[C.dm];rfl|cons a l h=>intro D C g;obtain⟨w,D,rfl,g1,g2⟩:=C.inv;simp only[List.all_cons,ζh]at g⊢;refine⟨?_,h g2 g.2⟩;have u:=g.1;unfold QB at u;split at u;rename_i Q T;simp at u;have⟨I,J⟩:=u;split at J;(next S z=>obtain⟨_,_,rfl⟩:=g1.q9 z;simp[qt];exactλe=>I (r.inj Q d _ _ 0 0 z B Y Y e).1);grind;rcases FR.ow g1.fr with rfl|⟨id,el,off,_,_,_,rfl,L,_⟩;rfl;simp[qt];rintro rfl;exact r.apart d _ 0 B Y L;grind
def KL{d:Nat}{k:Fl}{xs:S'}(o:dx ν m H Z d (.dp k xs G)):∃rs,dX H 1 (qf (ν d) k 1 (W xs))=M rs/\W rs=W xs/\(b_ k=O->(ν d).2=0/\H[(ν d).1]?=M (.row 1 rs))/\∀i x y,xs[i]?=M x->rs[i]?=M y->xS ν H Z d i x y:=by
 simp only[dx]at o;split at o;next a=>obtain⟨rfl,o2,-,rs,o3,u,w⟩:=o;exact⟨rs,by simp[qf,dX,o3,Ob.rows,o2,<-u],u,λ_=>⟨o2,o3⟩,w⟩
 rename_i a;obtain⟨rfl,-⟩:=o;exact⟨[],by cases k<;>first|rfl|exact _c Y a,Y,λh=>_c h a,λi x y h=>by simp at h⟩
def Qq{d:Nat}{k:Fl}{xs:S'}(o:dx ν m H Z d (.dp k xs G))(T:∀id,Z id->Z' id)(hp:∀j,(bD.dp k xs G).pt j=O->Z' (ν.at d j)):
 FR H Z' (kN k 1 xs) (qf (ν d) k 1 (W xs))/\∀j,(bD.dp k xs G).pt j=O->∃es ys,H[ν.at d j]?=M (.row es ys)/\wY H Z' ys:=by
 obtain⟨rs,-,D,a,g⟩:=KL o;have u:∀id,Z id->Z' id/\bn H id=bn H id:=λid h=>⟨T id h,Y⟩
 have cells:gN H Z' xs rs:=⟨D.symm,λi x y w L=>by
  rcases g i x y w L with⟨rfl,h⟩|⟨es,I,z,rfl,rfl,b,B⟩
  .exact dJ.same (by rcases h with rfl|rfl<;>rfl)
  have C:=B.1;refine .cons (FR.G4 (ys:=z) (hp (i+1) (by simp[bD.pt,w])) (show bn H (ν.inn d i)=M (es,z)by unfold bn;rw[b];rfl) c? ?_) .nil
  rw[L!,C,H?];exact B.mono u⟩
 refine⟨?_,λj J=>?_⟩
 .by_cases hk:b_ k=O
  .rw[qo hk,show kN k 1 xs=.fsl 1 xs from by cases k<;>simp[b_]at hk<;>rfl]
   refine FR.G4 (ys:=rs) (hp 0 hk) (show bn H (ν d).1=M (1,rs)by unfold bn;rw[(a hk).2];rfl) (by rw[(a hk).1];omega) ?_
   rw[(a hk).1,L!,<-D,H?];exact cells
  cases k<;>simp[b_]at hk
  .exact .same _ Y
  exact .same _ Y
 cases j with
 |zero=>exact⟨1,rs,(a J).2,cells.B1⟩|succ i=>
  obtain⟨-,es,I,w⟩:=uy J;have hi:=(ζe.1 w).1;rcases g i _ _ w (ζd c?)with⟨_,h|h⟩|⟨es,I,z,_,_,b,B⟩
  .cases h
  .cases h
  exact⟨es,z,b,(B.mono u).B1⟩
def Yd(r:R ν Z st F H){dst:aY Nat}{size:Nat}{s x sv:SV}{y1 y2:V}(h1:dg ν st.m H Z s y1)(h3:dg ν st.m H Z x y2)(h:Dq st dst size s x=M (sv,e?)):
 ∃y H' ν',fR H (.append size) [y1,y2]=M (y,H')/\R ν' Z e? F H'/\dg ν' e?.m H' Z sv y/\Ev (λ_=>False) ν Z st H ν' Z e? H'/\Kept dst ν st.m ν' e?.m:=by
 unfold Dq at h;split at h
 .rename_i d e t;split at h
  .rename_i k z ys hd he;split at h
   .rename_i hc;obtain⟨rfl,ad,ah,ai⟩:=hc;dsimp only at h;split at h
    .rename_i ae;obtain⟨rfl,rfl⟩:=h;obtain⟨_,_,_,q,rfl⟩:=h1.iq hd;cases q;obtain⟨_,_,_,q,rfl⟩:=h3.iq he;cases q;have⟨a1,p1,m,g1,f1⟩:=KL (r.obj d _ hd);have⟨b__,p2,n,g2,f2⟩:=KL (r.obj e _ he);have⟨n1,n2,n3,n4⟩:=lV ae;have u:∀k ob,bh (dH e (dH d st.m)) k=M ob->k≠d/\k≠e/\bh st.m k=M ob:=λk ob h=>by
      have⟨K,v⟩:=mU h;have⟨a__,w4⟩:=mU v;exact⟨Ne.symm a__,Ne.symm K,w4⟩
     have grow:∃H1,iE H (qf (ν d) k 1 (_j z))=M H1/\_j H1=_j H/\∀id,(b_ k=O->id≠(ν d).1)->H1[id]?=H[id]?:=by by_cases a:b_ k=O;rw[qo a];exact⟨H.set (ν d).1 .dead,by simp[iE,(g1 a).2],f?,λid aa=>E? (Ne.symm (aa a))⟩;exact⟨H,by cases k<;>first|rfl|exact _c _i a,_i,λ_ _=>rfl⟩
     have⟨H1,K,v,a__⟩:=grow;have A:∀id,id<_j H->(b_ k=O->id≠(ν d).1)->(H1++[Ob.row 1 (a1++b__)])[id]?=H[id]?:=λid hl aa=>by rw[u? c?,a__ id aa]
     have W:∀id,Z id->bn (H1++[Ob.row 1 (a1++b__)]) id=bn H id:=λid W=>by unfold bn;rw[A id (r.xT W) λa e=>r.apart d _ 0 hd a (by rw[show ν.at d 0=id from e.symm];exact W)]
     have r1:=r.less (m':=dH e (dH d st.m)) (λ_ _ h=>h) λk ob h=>(u k ob h).2.2
     have r2:=r1.heap (H':=H1++[Ob.row 1 (a1++b__)]) (λid X=>by
      refine A id (r1.lt X) λa e=>?_
      have⟨k2,o2,j2,c__,I,z3⟩:=X;have⟨z4,z5,N⟩:=u _ _ c__;exact z4 (r.inj k2 d o2 _ j2 0 N hd I a (z3.trans e)).1) W
     generalize P:(λi=>if i<_j z then ν.inn d i else ν.inn e (i-_j z))=f
     have Q:∀i,(bD.dp .row (z++ys) G).pt (i+1)=O->∃q S w,bh st.m q=M S/\S.pt (w+1)=O/\f i=ν.at q (w+1)/\(q=d/\w=i/\i<_j z\/q=e/\i=_j z+w):=λi Y=>by obtain⟨-,es,zs,J⟩:=uy Y;subst P;by_cases hi:i<_j z;rw[u? hi]at J;exact⟨d,_,i,hd,by simp[bD.pt,J],by simp[hi,Nu.at],.inl ⟨_i,_i,hi⟩⟩;rw[G? c?]at J;exact⟨e,_,i-_j z,he,by simp[bD.pt,J],by simp[hi,Nu.at],.inr ⟨_i,c?⟩⟩
     have L:∀i,(bD.dp .row (z++ys) G).pt (i+1)=O->fU ν st.m (f i):=λi Y=>by have⟨q,S,w,k1,k2,k3,_⟩:=Q i Y;exact⟨q,S,w+1,k1,k2,k3.symm⟩
     have B:∀i,(kJ ν t (_j H,0) f).at t (i+1)=f i:=λi=>congrFun (o_ ν t _ f).2 i
     have T:(kJ ν t (_j H,0) f).at t 0=_j H:=_d fst (o_ ν t _ f).1;have ab:(H1++[Ob.row 1 (a1++b__)])[_j H]?=M (.row 1 (a1++b__)):=by rw[<-v];simp
     have aq:b_ k=O->(bD.dp k z G).pt 0=O:=λh=>h
     refine⟨.hsl (_j H) 1 0 (_j a1+_j b__),H1++[Ob.row 1 (a1++b__)],kJ ν t (_j H,0) f,?_,r2.Uy (p:=(_j H,0)) (f:=f) n2 n3 (λk o a hs=>?_) (λj g=>?_) (λj j' g af Y=>?_) ?_,?_,⟨by simp[v],λid hl X _ _=>?_,λid h=>⟨h,W id h⟩,λid X=>?_,λid h=>.inl h,λk a C h=>?_,_i⟩,λk C a h=>?_⟩
     .have:b__≠[]:=by rintro rfl;exact ah (length_eq_zero_iff.1 n.symm)
      cases b__ with
      |nil=>exact _c _i this|cons c b__=>simp only[fR,p1,p2,K];rw[J0 (by rw[m,n];exact ai)];rfl
     .rw[uG n4 a]at hs;cases hs
     .cases j with
      |zero=>rw[T];exact⟨λX=>Nat.lt_irrefl _ (r1.lt X),λW=>Nat.lt_irrefl _ (r.xT W)⟩|succ i=>
       rw[B];have⟨q,S,w,k1,k2,k3,k4⟩:=Q i g;rw[k3];refine⟨λ⟨k5,o5,j5,c__,I,z3⟩=>?_,r.apart q S _ k1 k2⟩
       have⟨z4,z5,N⟩:=u _ _ c__;have:=(r.inj k5 q o5 S j5 _ N k1 I k2 z3).1;rcases k4 with⟨rfl,_⟩|⟨rfl,_⟩
       .exact z4 this
       exact z5 this
     .cases j with
      |zero=>
       cases j' with
       |zero=>rfl|succ i'=>rw[T,B]at Y;have:=r.lt (L i' af);omega
      |succ i=>
       cases j' with
       |zero=>rw[T,B]at Y;have:=r.lt (L i g);omega|succ i'=>
        rw[B,B]at Y;have⟨q,S,w,k1,k2,k3,k4⟩:=Q i g;have⟨q',aj,ar,ak,al,am,an⟩:=Q i' af;have⟨e1,e2⟩:=r.inj q q' S aj _ _ k1 ak k2 al (by rw[<-k3,<-am,Y])
        rcases k4 with⟨rfl,_⟩|⟨rfl,_⟩<;>rcases an with⟨rfl,_⟩|⟨rfl,_⟩<;>first|omega|(exact _c e1 ad)|(exact _c e1.symm ad)
     .simp only[dx,b_,L'];refine⟨trivial,by rw[(o_ ν t _ f).1],(λi t h=>by cases h),a1++b__,?_,by simp[m,n],λi x y J E=>?_⟩
      .rw[(o_ ν t _ f).1];exact ab
      show xS _ _ _ _ i x y;have go:∀q w,bh st.m q=M (.dp k z G)/\q=d\/bh st.m q=M (.dp .row ys G)/\q=e->f i=ν.inn q w->(∀l b,bh st.m q=M (.dp l b G)->b[w]?=M x)->xS ν H Z q w x y->xS (kJ ν t (_j H,0) f) (H1++[Ob.row 1 (a1++b__)]) Z t i x y:=λq w hq ao ap hC=>by rcases hC with h|⟨es,zs,ws,rfl,rfl,c__,I⟩;exact .inl h;have hi:(kJ ν t (_j H,0) f).inn t i=ν.inn q w:=(congrFun (o_ ν t _ f).2 i).trans ao;refine .inr ⟨es,zs,ws,_i,by rw[hi],?_,I.mono λid h=>⟨h,W id h⟩⟩;rw[hi,A _ (ζe.1 c__).1 λa e=>?_];exact c__;have d__:∃l b,bh st.m q=M (.dp l b G):=(by rcases hq with h|h<;>exact⟨_,_,h.1⟩);have⟨l,b,d__⟩:=d__;have:=(r.inj q d _ _ (w+1) 0 d__ hd (by simp[bD.pt,ap _ _ d__]) a e).2;omega
      by_cases hi:i<(_j z)
      .rw[u? hi]at J;rw[u? c?]at E
       exact go d i (.inl ⟨hd,_i⟩) (by rw[<-P];simp[hi]) (λl b h=>by rw[hd]at h;cases h;exact J) (f1 i x y J E)
      rw[G? c?]at J
      rw[G? c?,m]at E
      exact go e (i-_j z) (.inr ⟨he,_i⟩) (by rw[<-P];simp[hi]) (λl b h=>by rw[he]at h;cases h;exact J) (f2 _ x y J E)
     .refine .own _ _ λC h'=>?_
      rw[cA]at h';cases h';exact⟨_,_,_,_i,by simp[qf,(o_ ν t _ f).1,m,n]⟩
     .exact A id hl λa e=>X ⟨d,_,0,hd,a,e.symm⟩
     .rcases KV X with⟨k,o,j,c__,I,z3⟩|⟨j,c__,I⟩
      .exact .inl ⟨k,o,j,(u k o c__).2.2,I,z3⟩
      cases j with
      |zero=>rw[T]at I;exact .inr (.inr c?)|succ i=>rw[B]at I;subst I;exact .inl (L i c__)
     .have D:k≠t:=by rintro rfl;exact n1 a
      rw[cU _ _ (Ne.symm D)]at h;exact⟨C,(u k C h).2.2,K' D,.refl _⟩
     have D:k≠t:=λe=>a (by rw[e])
     rw[cU _ _ (Ne.symm D)]at h;exact⟨C,(u k C h).2.2,K' D,.refl _,λj g=>⟨g,uA ν _ f D j⟩⟩
    cases h
   cases h
  cases h
 cases h
def ER(r:R ν Z st F H){dst:aY Nat}{l:Oj}{m?:R'}{ys:So}{sv:SV}(Y:ct ν st.m H Z m? ys)(h:mM st dst l m?=M (sv,e?)):
 ∃y H' ν',fR H l ys=M (y,H')/\R ν' Z e? F H'/\dg ν' e?.m H' Z sv y/\Ev (λ_=>False) ν Z st H ν' Z e? H'/\Kept dst ν st.m ν' e?.m:=by
 unfold mM at h;split at h
 .
  rename_i size d o x;obtain⟨_,_,rfl,a,n⟩:=Y.inv;obtain⟨y,_,rfl,S,p⟩:=n.inv;rw[p.dm];split at h
  .rename_i cs B;have⟨aw,hp,e⟩:=ζf.1 h;obtain⟨rfl,rfl⟩:=e;obtain⟨_,_,rfl⟩:=a.q9 B;have⟨es,b__,q,f,aa⟩:=r.obj d _ B;have⟨p1,p2,p3,p4,p5⟩:=ct.abf f S hp aa;have J:∀id,id≠(ν d).1->(H.set (ν d).1 (.row es [b__.take o++y.cells++b__.drop (o+_j y.cells)]))[id]?=H[id]?:=λid I=>by grind
   have C:∀id,Z id->Z id/\bn (H.set (ν d).1 (.row es [b__.take o++y.cells++b__.drop (o+_j y.cells)])) id=bn H id:=λid C=>⟨C,by
    unfold bn;rw[J id (by rintro rfl;exact r.apart d _ 0 B _i C)]⟩
   refine⟨.undef,H.set (ν d).1 (.row es [b__.take o++y.cells++b__.drop (o+_j y.cells)]),ν,?_,?_,.v _ _ (.same _ _i),Ev.ij r B _i (pH _i) J _i f?,Kept.ij B _i (pH _i)⟩
   .grind[fR]
   refine r.ij B _i (pH _i) J _i ⟨es,_,?_,p4.mono C (λe _ L A=>?_),p5⟩
   .grind
   by_cases k:e=d
   .subst k;rw[cA]at A;cases A;exact⟨_,B,_i,_i⟩
   rw[cU st.m _ (Ne.symm k)]at A;exact⟨L,A,_i,.refl _⟩
  grind
 .
  rename_i size d i o x;obtain⟨_,_,rfl,a,n⟩:=Y.inv;obtain⟨y,_,rfl,S,p⟩:=n.inv;rw[p.dm];split at h
  .rename_i k es T B;split at h
   .rename_i cs ak;split at h
    .rename_i f;obtain⟨rfl,rfl⟩:=h;obtain⟨_,_,_,e,b,rfl⟩:=a.xU B;cases e;have ob:=r.obj d _ B;simp[dx,b]at ob;have⟨rs,q,hl,hf,al,aG⟩:=ob;have⟨c,ax,af⟩:=hf.get ak;have hi:=(ζe.1 ak).1;rw[I?,J0 hi,R?]at ax;have P:=S.fr.cells;have E:_j y.cells=size:=by rw[<-P.1];exact f.1
     have g:o+size<=_j c:=by rw[<-af.1];exact f.2.1
     have q3:y.cells.all V.one=O:=by rw[P.one];exact f.2.2
     have D:dJ H Z (cs.take o++x.cells++cs.drop (o+_j x.cells)) (c.take o++y.cells++c.drop (o+_j y.cells)):=by rw[f.1,E];exact((af.take o).append P).append (af.drop _)
     generalize hN:(c.take o++y.cells++c.drop (o+_j y.cells))=nc at D;have J:∀id,id≠(ν d).1->(H.set (ν d).1 (.row es (rs.set ((ν d).2+i) nc)))[id]?=H[id]?:=λid I=>by rw[D?];rw[K' (Ne.symm I)]
     have c__:=b;have C:∀id,Z id->Z id/\bn (H.set (ν d).1 (.row es (rs.set ((ν d).2+i) nc))) id=bn H id:=λid C=>⟨C,by
      unfold bn;rw[J id (by rintro rfl;exact r.apart d _ 0 B c__ C)]⟩
     have Q:sameShape (.sl k es T) (.sl k es (T.set i (cs.take o++x.cells++cs.drop (o+_j x.cells)))):=by simp[sameShape,bD.xB]
     refine⟨.undef,H.set (ν d).1 (.row es (rs.set ((ν d).2+i) nc)),ν,?_,?_,.v _ _ (.same _ _i),Ev.ij r B Q (pH _i) J c__ f?,Kept.ij B Q (pH _i)⟩
     .grind[fR]
     refine r.ij B Q (pH _i) J c__ ?_;simp only[dx,b];have ah:=(ζe.1 q).1;refine⟨_,J? ah,g?,?_,?_,λe=>?_⟩
     .have e1:List.take (_j (T.set i (cs.take o++x.cells++cs.drop (o+_j x.cells)))) (List.drop (ν d).2 (rs.set ((ν d).2+i) nc))=((rs.drop (ν d).2).take (_j T)).set i nc:=by
       rw[List.length_set,List.drop_set,K' c?,List.take_set]
       grind
      rw[e1];exact(hf.set i D).mono C
     .intro cc am u hu;rcases List.mem_or_eq_of_mem_set am with hm|rfl
      .have⟨z,ay⟩:=al cc hm u hu;exact⟨z,ay.mono C⟩
      have⟨j,hj⟩:=mem_iff_getElem?.1 hu;have an:=(ζe.1 hj).1;rw[<-D.1]at an;exact⟨_,(D.2 j _ u (ζd an) hj).mono C⟩
     grind
    simp at h
   grind
  grind
 .
  rename_i size d i o t;obtain⟨_,_,rfl,a,n⟩:=Y.inv;obtain⟨y,_,rfl,S,p⟩:=n.inv;rw[p.dm];split at h
  .rename_i k T j w B;split at h
   .rename_i f;obtain⟨rfl,rfl,rfl,hl,aK⟩:=f;obtain⟨rfl,rfl⟩:=h;obtain⟨_,_,_,e,b,rfl⟩:=a.xU B;cases e;have⟨c1,c2⟩:=lF (x:=.own t) hl S;have ob:=r.obj d _ B;simp only[dx,b,L']at ob;have⟨o1,o2,o3,rs,q,ao,hf⟩:=ob;have hi:=o3 _ _ _i;have ah:=(ζe.1 q).1;have aA:∀X,(bD.dp k T (M (j,w))).pt (X+1)=O->ν.inn d X≠(ν d).1:=λX hp e=>by
     have:=(r.inj d d _ _ (X+1) 0 B B hp b e).2;omega
    have J:∀id,id≠(ν d).1->(H.set (ν d).1 (.row 1 (rs.set j [y])))[id]?=H[id]?:=λid I=>by rw[D?];rw[K' (Ne.symm I)]
    have C:∀id,Z id->Z id/\bn (H.set (ν d).1 (.row 1 (rs.set j [y]))) id=bn H id:=λid C=>⟨C,by
     unfold bn;rw[J id (by rintro rfl;exact r.apart d _ 0 B b C)]⟩
    have ai:∀X,(bD.dp k T (M (j,t))).pt X=O->(bD.dp k T (M (j,w))).pt X=O:=λX h=>h
    have Q:sameShape (.dp k T (M (j,w))) (.dp k T (M (j,t))):=rfl;refine⟨.undef,H.set (ν d).1 (.row 1 (rs.set j [y])),ν,?_,?_,.v _ _ (.same _ _i),Ev.ij r B Q ai J b f?,Kept.ij B Q ai⟩
    .have:rs[j]?=M rs[j]:=ζd c?
     have h9:=hf j _ _ (ζd hi) this;simp only[qd,L']at h9;have⟨v,e1,_⟩:=h9;simp[fR,q,o2,this,e1,c1,c2]
    refine r.ij B Q ai J b ?_;simp only[dx,b,L'];refine⟨o1,o2,λX t' e=>by cases e;exact hi,_,J? ah,by simp[ao],λX x y' hx P=>?_⟩
    by_cases e:j=X
    .subst e;rw[J? c?]at P;cases P
     simp only[qd,L'];exact⟨y,_i,c2,S.mono C λe A L d__=>by
      by_cases k':e=d
      .subst k';rw[cA]at d__;cases d__;exact⟨_,B,_i,_i⟩
      rw[cU st.m _ (Ne.symm k')]at d__;exact⟨L,d__,_i,.refl _⟩⟩
    rw[E? e]at P;have h9:=hf X x y' hx P;simp only[qd,K' e]at h9⊢;rcases h9 with h9|⟨es,zs,ws,rfl,rfl,E,g⟩
    .exact .inl h9
    exact .inr ⟨es,zs,ws,_i,_i,(J _ (aA X (by simp[bD.pt,hx,e]))).trans E,g.mono C⟩
   cases h
  cases h
 .
  rename_i kk d k x;obtain⟨_,_,rfl,a,n⟩:=Y.inv;obtain⟨k',_,rfl,S,p⟩:=n.inv;obtain⟨y,_,rfl,h5,h6⟩:=p.inv;rw[h6.dm];split at h
  .rename_i aB B;split at h
   .rename_i b;have⟨aH,hp,e⟩:=ζf.1 h;simp at e;obtain⟨rfl,rfl⟩:=e;obtain⟨_,_,rfl⟩:=a.GH B;have aC:=S.fr.scalar.1 (yP b);subst aC;have⟨aI,q,aD⟩:=r.obj d _ B;have⟨r',aL,aE⟩:=aD.put (yP b) h5.fr hp;have J:∀id,id≠(ν d).1->(H.set (ν d).1 (.map r'))[id]?=H[id]?:=λid I=>by rw[D?];rw[K' (Ne.symm I)]
    have C:∀id,Z id->Z id/\bn (H.set (ν d).1 (.map r')) id=bn H id:=λid C=>⟨C,by
     unfold bn;rw[J id (by rintro rfl;exact r.apart d _ 0 B _i C)]⟩
    refine⟨.undef,H.set (ν d).1 (.map r'),ν,?_,?_,.v _ _ (.same _ _i),Ev.ij r B _i (pH _i) J _i f?,Kept.ij B _i (pH _i)⟩
    .grind[fR]
    refine r.ij B _i (pH _i) J _i ⟨r',?_,aE.mono C⟩;rw[J? (ζe.1 q).1]
   simp at h
  simp at h
 .
  rename_i size s x;obtain⟨y1,_,rfl,a,n⟩:=Y.inv;obtain⟨y2,_,rfl,S,p⟩:=n.inv;rw[p.dm];split at h
  .rename_i T e1 e2;have⟨a1,p1,_⟩:=xK a r.obj e1;have⟨K,p2,g⟩:=xK S r.obj e2;have:=length_eq_zero_iff.1 (by have:=g.1;simpa using this.symm)
   subst this
   cases dst with
   |none=>simp at h|some t=>
    have lit:∀(k:Fl)(a__:V),b_ k=U->qf (ν t) k size 0=a__->st.new t=O->(∀y,FR H Z a__ y->y=a__)->FR H Z a__ y1->
     ∃y H' ν',fR H (.append size) [y1,y2]=M (y,H')/\R ν' Z {st with m:=bE st.m t (.sl k size [])} F H'/\dg ν' (bE st.m t (.sl k size [])) H' Z (.own t) y/\Ev (λ_=>False) ν Z st H ν' Z {st with m:=bE st.m t (.sl k size [])} H'/\Kept (M t) ν st.m ν' (bE st.m t (.sl k size [])):=λk a__ b aM hn hx hf=>by
     have ap:eR (.sl k size [])=O->False:=by grind[eR]
     refine⟨y1,H,iN ν t (ν t),by grind[fR],r.add hn (λh=>(ap h).elim) (by grind[dx]),.own _ _ λL d__=>?_,Ev.add hn (z? _) (λ_ _ _=>rfl) (λ_ _=>rfl) (λh=>(ap h).elim),Kept.add λ_ _ h=>h⟩
     rw[cA]at d__;cases d__;exact⟨_,_,_,_i,by rw[jh,hx _ hf];grind⟩
    cases s with
    |own d=>
     dsimp only at h;split at h
     .rename_i ob B;split at h
      .rename_i D;simp at h;obtain⟨rfl,rfl⟩:=h;simp[jB,B]at e1
       cases ob with
       |sl k es ab=>
        obtain⟨_,_,_,e,rfl⟩:=a.iq B;cases e;have r1:R ν Z {st with m:=dH d st.m} F H:=r.less (λ_ _ h=>h) mH
        have⟨n1,_,_,_⟩:=lV D;have aq:dx (iN ν t (ν d)) (bE (dH d st.m) t (.sl k es ab)) H Z t (.sl k es ab):=by have o:=r.obj d _ B;grind[dx,jh]
        refine⟨qf (ν d) k es (_j ab),H,iN ν t (ν d),by grind[fR],r1.add D (λhb=>⟨λN=>?_,r.apart d _ 0 B hb⟩) aq,.own _ _ λL d__=>?_,?_,Kept.add mH⟩
        .have⟨k2,o2,j2,g1,g2,g3⟩:=N;have⟨g4,g5⟩:=mU g1;exact g4 (r.inj d k2 _ o2 0 j2 B g5 hb g2 g3.symm).1
        .rw[cA]at d__;cases d__;exact⟨_,_,_,_i,by rw[jh]⟩
        by_cases hb:eR (.sl k es ab)=O
        .exact Ev.re (m1:=dH d st.m) mH n1 (z? _) (λ_ _ _ _=>rfl) (λ_ _=>rfl) (λ_=>.inl ⟨d,_,0,B,hb,_i⟩)
        exact(Ev.less mH).trans (Ev.add D (z? _) (λ_ _ _=>rfl) (λ_ _=>rfl) λh=>_c h hb)
       |box cs=>cases e1|mp aB=>cases e1|dp _ _ _=>cases e1
      simp at h
     simp at h
    |v a__=>
     cases a__ with
     |bG=>
      dsimp only at h;split at h
      next hn=>simp at h;obtain⟨rfl,rfl⟩:=h;exact lit .nil _ _i _i hn (λy h=>h.bG) a.fr
      simp at h
     |dN=>
      dsimp only at h;split at h
      next hn=>simp at h;obtain⟨rfl,rfl⟩:=h;exact lit .emp _ _i _i hn (λy h=>h.dN) a.fr
      simp at h
     |_=>simp at h
    |_=>simp at h
  .rename_i T zs I e1 e2;split at h
   .rename_i f;have⟨a1,p1,E⟩:=xK a r.obj e1;have⟨K,p2,g⟩:=xK S r.obj e2
    cases dst with
    |none=>simp at h|some t=>
     dsimp only at h;generalize ar:giveUp st.m s=m1 at h;split at h
     .rename_i D;simp at h;obtain⟨rfl,rfl⟩:=h;have⟨n1,_,_,_⟩:=lV D;have grow:∃H1,iE H y1=M H1/\_j H1=_j H/\(∀id,¬fU ν st.m id->H1[id]?=H[id]?)/\
       (∀id,fU ν m1 id->H1[id]?=H[id]?)/\(∀id,Z id->bn H1 id=bn H id):=by
       subst ar
       cases s with
       |own d=>
        simp[jB]at e1;split at e1
        .rename_i k es ab B;obtain⟨_,_,_,e,rfl⟩:=a.iq B;cases e
         by_cases b:b_ k=O
         .have o:=r.obj d _ B;simp[dx,b]at o;have⟨ys,q,_⟩:=o;have c__:=b;have J:∀id,id≠(ν d).1->(H.set (ν d).1 .dead)[id]?=H[id]?:=λid I=>by rw[D?];rw[K' (Ne.symm I)]
          refine⟨H.set (ν d).1 .dead,by rw[qo b];grind[iE],f?,λid N=>J id λe=>N ⟨d,_,0,B,c__,e.symm⟩,λid N=>J id λe=>?_,λid C=>?_⟩
          .have⟨k2,o2,j2,g1,g2,g3⟩:=N;have⟨g4,g5⟩:=mU g1;exact g4 (r.inj d k2 _ o2 0 j2 B g5 c__ g2 (by rw[g3,e];rfl)).1
          unfold bn;rw[J id (by rintro rfl;exact r.apart d _ 0 B c__ C)]
         refine⟨H,?_,_i,λ_ _=>rfl,λ_ _=>rfl,λ_ _=>rfl⟩
         cases k<;>simp[b_]at b<;>rfl
        simp at e1
       |v a__=>
        refine⟨H,?_,_i,λ_ _=>rfl,λ_ _=>rfl,λ_ _=>rfl⟩
        cases a__<;>simp[Mm]at f
        .rw[a.fr.dN];rfl
        rw[a.fr.bG];rfl
       |_=>simp[Mm]at f
      have⟨H1,g1,g2,g3,g4,g5⟩:=grow;have W:∀e ob,bh m1 e=M ob->bh st.m e=M ob:=by subst ar;cases s<;>first|exactλ_ _ h=>h|exact mH
      have au:∀id,fU ν m1 id->id<_j H:=λid⟨k,o,j,w1,w2,w3⟩=>r.lt ⟨k,o,j,W k o w1,w2,w3⟩
      have ad:∀id,id<_j H->(H1++[Ob.row size (a1++K)])[id]?=H1[id]?:=λid hl=>u? (by rw[g2];exact hl)
      have aj:∀id,Z id->bn (H1++[Ob.row size (a1++K)]) id=bn H id:=λid C=>by have:=g5 id C;unfold bn at this⊢;rw[ad id (r.xT C)];exact this
      have r1:=r.less (λ_ _ h=>h) W
      have r2:=r1.heap (λid N=>by rw[ad id (au id N)];grind) aj
      have ff:=(E.append g).mono λid C=>⟨C,aj id C⟩
      have ae:(H1++[Ob.row size (a1++K)])[_j H]?=M (.row size (a1++K)):=by rw[<-g2];simp
      refine⟨.hsl (_j H) size 0 (_j T+_j zs),H1++[Ob.row size (a1++K)],iN ν t (_j H,0),?_,?_,?_,?_,Kept.add W⟩
      .have aJ:K≠[]:=by
        rintro rfl;have aF:=length_eq_zero_iff.1 (by have:=g.1;simpa using this)
        exact I aF
       have ao:_j a1+_j K<=2147483648:=by rw[<-E.1,<-g.1];exact f.1
       have aN:=E.1;have aO:=g.1;simp_all[fR]
      .refine r2.add D (λ_=>⟨λN=>?_,λC=>?_⟩) ?_
       .grind
       .exact _c (r.xT C) f?
       simp only[dx,jh];refine⟨_,ae,by simp[E.1,g.1],?_,ff.B1,λ_=>⟨trivial,by simp[E.1,g.1]⟩⟩
       have:_j (T++zs)=_j (a1++K):=by simp[E.1,g.1]
       rw[this,L!,H?];exact ff
      .refine .own _ _ λL d__=>?_
       simp only at d__;rw[cA]at d__;cases d__;exact⟨_,_,_,_i,by simp[qf,jh]⟩
      refine Ev.re W n1 (by simp[g2]) (λid hl N _=>?_) aj (λ_=>.inr (.inr (z? _)))
      rw[ad id hl];grind
     simp at h
   simp at h
  have⟨y,H',ν',e1,e2,e3,e4,e5⟩:=Yd r a S h;exact⟨y,H',ν',e1,e2,e3,e4,e5⟩
 .
  rename_i size d o x l;obtain⟨_,_,rfl,a,n⟩:=Y.inv;obtain⟨y,aP,rfl,S,p⟩:=n.inv;split at h
  .rename_i av;split at h
   .rename_i cs B;have⟨aw,hp,e⟩:=ζf.1 h;simp at e;obtain⟨rfl,rfl⟩:=e;obtain⟨_,_,rfl⟩:=a.q9 B;have⟨es,b__,q,f,aa⟩:=r.obj d _ B;have⟨p1,p2,p3,p4,p5⟩:=ct.abf f S hp aa;have J:∀id,id≠(ν d).1->(H.set (ν d).1 (.row es [b__.take o++y.cells++b__.drop (o+_j y.cells)]))[id]?=H[id]?:=λid I=>by rw[D?];rw[K' (Ne.symm I)]
    have C:∀id,Z id->Z id/\bn (H.set (ν d).1 (.row es [b__.take o++y.cells++b__.drop (o+_j y.cells)])) id=bn H id:=λid C=>⟨C,by
     unfold bn;rw[J id (by rintro rfl;exact r.apart d _ 0 B _i C)]⟩
    refine⟨.undef,H.set (ν d).1 (.row es [b__.take o++y.cells++b__.drop (o+_j y.cells)]),ν,?_,?_,.v _ _ (.same _ _i),Ev.ij r B _i (pH _i) J _i f?,Kept.ij B _i (pH _i)⟩
    .simp only[fR,NU r B p av,L',q,List.getElem?_cons_zero,J0 (And.intro p1 (And.intro p2 p3)),List.set_cons_zero]
    refine r.ij B _i (pH _i) J _i ⟨es,_,?_,p4.mono C (λe _ L A=>?_),p5⟩
    .have:=(ζe.1 q).1;rw[J? this]
    by_cases k:e=d
    .subst k;rw[cA]at A;cases A;exact⟨_,B,_i,_i⟩
    rw[cU st.m _ (Ne.symm k)]at A;exact⟨L,A,_i,.refl _⟩
   simp at h
  simp at h
 grind
end
def C2(d:Nat)(st:St):aY St:=
 match bh st.m d with
 |some (.sl k es u)=>M {st with g:=CJ (SV.sub d (kN k es u)) st.g,m:=mapM (SV.wJ d (kN k es u)) (dH d st.m)}|some (.dp k u G)=>M {st with g:=CJ (SV.sub d (kN k 1 u)) st.g,m:=mapM (SV.wJ d (kN k 1 u)) (dH d st.m)}|_=>G
def PV(st:St):Loc->aY SV
 |.s n=>bh st.g n|.c b i=>match bh st.m b with
  |some (.box cs)=>cs[i]?|_=>G
def abN:So->X'
 |[.bG]|[.dN]=>O|_=>U
def Xs(es:Nat):So->aY bD
 |[.bG]=>M (.sl .nil es [])|[.dN]=>M (.sl .emp es [])|[.fsl B D]=>if B=es then M (.sl .row es D)else G|_=>G
def Uk(st:St)(l:Loc):aY Nat:=match PV st l with
 |some (.v (.int _ i))=>if 0<=i then M i.toNat else G|_=>G
def Kk(d:Nat)(st:St):aY St:=
 match bh st.m d with
 |some (.sl k es u)=>if es=1/\k≠.part/\u.all abN=O then M {st with m:=bE st.m d (.dp k u G)}else G|some (.dp _ _ G)=>M st|_=>G
def DC(d:Nat)(i:Loc)(es t:Nat)(st:St):aY St:=
 match bh st.m d,Uk st i with
 |some (.dp k u G),M i=>if b_ k=O/\st.new t=O then(u[i]?).bind λx=>(Xs es x).map λob=>{st with m:=bE (bE st.m d (.dp k u (M (i,t)))) t ob}else G|none,_=>M st|_,_=>G
def HH(d:Nat)(st:St):aY St:=
 match bh st.m d with
 |some (.dp k w (M (i,t)))=>match bh st.m t with
  |some (.sl u es z)=>if u≠.part/\t≠d/\b_ k=O then M {st with m:=bE (dH t st.m) d (.dp k (w.set i [kN u es z]) G)}else G|_=>G
 |none=>M st|_=>G
def ghost(x:Gh)(st:St):aY St:=
 match x with
 |.closeS l=>match PV st l with
  |some (.own d)=>C2 d st|some _=>M st|none=>G
 |.close d=>C2 d st|.closeB d=>match bh st.m d with
  |some (.box cs)=>match dw cs with
   |some u=>M {st with g:=CJ (SV.Fi d u) st.g,m:=mapM (SV.t_ d u) (dH d st.m)}|none=>G
  |_=>G
 |.canon (.s n) d es=>match bh st.g n with
  |some (.v .bG)=>if st.new d then M {st with g:=bE st.g n (.own d),m:=bE st.m d (.sl .nil es [])}else G|some (.v .dN)=>if st.new d then M {st with g:=bE st.g n (.own d),m:=bE st.m d (.sl .emp es [])}else G|some (.own e)=>if e=d then M st else if st.new d then M {st with g:=Dn e d st.g,m:=yq e d st.m}else G|some (.ptr e _)=>if e=d then M st else if st.new d then M {st with g:=Dn e d st.g,m:=yq e d st.m}else G|_=>G
 |.canon (.c b i) d es=>match bh st.m b with
  |some (.box cs)=>match cs[i]?with
   |some (.v .bG)=>if st.new d then M {st with m:=bE (bE st.m d (.sl .nil es [])) b (.box (cs.set i (.own d)))}else G|some (.v .dN)=>if st.new d then M {st with m:=bE (bE st.m d (.sl .emp es [])) b (.box (cs.set i (.own d)))}else G|some (.own e)=>if e=d then M st else if st.new d then M {st with g:=Dn e d st.g,m:=yq e d st.m}else G|_=>G
  |_=>G
 |.keep gs w=>match l8 st.g gs,l8 st.m w with
  |some g,M m=>M {st with g:=g,m:=m}|_,_=>G
 |.drop ds=>M {st with g:=rB ds st.g}|.melt d=>Kk d st|.take d i es t=>DC d i es t st|.put d=>HH d st
section
variable{Rv:Nat->Prop}{ν ν':Nu}{Z Z':Nat->Prop}{st e?:St}{m m':Tb bD}{F F':WP}{H H':bl}{N:Nat->Y'}
def RE(r:R ν Z st F H){dst:aY Nat}{size d:Nat}{lo hi:X'}{J:R'}{ys:So}{sv:SV}(D:ct ν st.m H Z (.own d::J) ys)(h:Du st dst size lo hi d J=M (sv,e?)):
 ∃y ν',bV N (.slice size lo hi) ys=M y/\R ν' Z e? F H/\dg ν' e?.m H Z sv y/\Ev Rv ν Z st H ν' Z e? H:=by
 unfold Du at h;obtain⟨f,g,rfl,c,S⟩:=D.inv;split at h
 .rename_i k es L ws t u T;split at h
  .rename_i hk;have⟨⟨l,i⟩,P,h⟩:=ζg.1 h;have⟨⟨a,b⟩,C,h⟩:=ζg.1 h;dsimp only at h;split at h
   .rename_i w;obtain⟨rfl,rfl⟩:=h;obtain⟨_,_,_,e,rfl⟩:=c.iq u;cases e;have W:b<=_j L/\a<=b:=by
     grind[eA]
    have o:=r.obj d _ u;simp[dx,hk.1]at o;have⟨rs,j,n,X,A,_⟩:=o;have z:=hk.1;have r1:R ν Z {st with m:=dH d st.m} F H:=r.less (λ_ _ h=>h) mH
    have q:¬fU ν (dH d st.m) (ν d).1:=by rintro⟨k2,o2,Y,g1,g2,g3⟩;have⟨g4,g5⟩:=mU g1;exact g4 (r.inj d k2 _ o2 0 Y u g5 z g2 g3.symm).1
    have B:_j ((L.take b).drop a)=b-a:=o?
    refine⟨.hsl (ν d).1 es ((ν d).2+a) (b-a),iN ν t ((ν d).1,(ν d).2+a),?_,?_,?_,?_⟩
    .have I:=ct.dw S T;rw[qo hk.1];simp[bV,I.oK P,jy,J0 hk.2,C]
    .refine r1.add w (λ_=>⟨q,r.apart d _ 0 u z⟩) ?_
     simp[dx,b_,jh];have:=(X.take b).drop a
     grind[List.drop_take,D!]
    .refine .own _ _ λp Q=>?_
     rw[cA]at Q;cases Q;exact⟨_,_,_,_i,by rw[B];simp[qf,jh]⟩
    exact Ev.re (st:=st) mH (lV w).1 (z? _) (λ_ _ _ _=>rfl) (λ_ _=>rfl) (λ_=>.inl ⟨d,_,0,u,z,_i⟩)
   grind
  grind
 grind
def Iz{f:SV->SV}:∀{g:Tb SV}{s:Nat},bh (CJ f g) s=(bh g s).map f
 |[],s=>rfl|(k,x)::r,s=>by simp[CJ,bh];split;rfl;exact Iz
def Dh(f:R'->R'):bD->bD
 |.box cs=>.box (f cs)|o=>o
def Iw{f:R'->R'}:∀{m:Tb bD}{d:Nat},bh (mapM f m) d=(bh m d).map (Dh f)
 |[],d=>rfl|(k,x)::r,d=>by cases x<;>simp[mapM,bh]<;>split<;>first|rfl|exact Iw
theorem wI{d:Nat}{w:V}:∀{l:R'}{j:Nat},(SV.wJ d w l)[j]?=(l[j]?).map (SV.sub d w)
 |[],j=>by simp[SV.wJ]|x::r,0=>by simp[SV.wJ]|x::r,j+1=>by simp[SV.wJ,wI]
def uS{d:Nat}{w:So}:∀{l:R'}{j:Nat},(SV.t_ d w l)[j]?=(l[j]?).map (SV.Fi d w)
 |[],j=>by simp[SV.t_]|x::r,0=>by simp[SV.t_]|x::r,j+1=>by simp[SV.t_,uS]
def pQ{d:Nat}{w:V}:∀{l:R'},W (SV.wJ d w l)=W l
 |[]=>rfl|x::r=>by simp[SV.wJ,pQ]
def qh{d:Nat}{w:So}:∀{l:R'},W (SV.t_ d w l)=W l
 |[]=>rfl|x::r=>by simp[SV.t_,qh]
def dg.sub{sv:SV}{y w:V}{d:Nat}{k:Fl}{es n:Nat}{ob:bD}(T:bh m d=M ob)(J:ob.xB=.sl k es n)(A:FR H Z' w (qf (ν d) k es n))(W:∀id,Z id->Z' id)
 (P:∀e l?,bh m' e=M l?->e≠d/\∃ob,bh m e=M ob/\sameShape ob l?)(r:dg ν m H Z sv y):dg ν m' H Z' (sv.sub d w) y:=by
 have z:∀id,Z id->Z' id/\bn H id=bn H id:=λid h=>⟨W id h,Y⟩
 have D:∀e l?,bh m' e=M l?->∃ob,bh m e=M ob/\ν e=ν e/\sameShape ob l?:=λe l? h=>g?
 induction r with
 |v x y h=>exact .v x y (h.mono z)|own e y h=>
  simp[SV.sub];split
  next I=>subst I;obtain⟨_,_,_,e1,rfl⟩:=h _ T;rw[J]at e1;cases e1;exact .v _ _ A
  exact(dg.own e y h).mono z λe _=>D e
 |ptr e o y h=>exact(dg.ptr e o y h).mono z λe _=>D e|el e i o y h=>exact(dg.el e i o y h).mono z λe _=>D e|mp e y h=>exact(dg.mp e y h).mono z λe _=>D e|clo f a b B L q S hva t C Q=>
  refine .clo f _ _ B L (by rw[pQ];omega) (by rw[pQ];omega) (λj u v c g=>?_) (λj u v c g=>?_)
  all_goals grind[wI]
 |tup a B q hva C=>
  refine .tup _ B (by rw[pQ];omega) (λj u v c g=>?_)
  rw[wI,ζf]at c;grind
 |agg a B q hva C=>
  refine .agg _ B (by rw[pQ];omega) (λj u v c g=>?_)
  rw[wI,ζf]at c;grind
 |yl id=>exact .yl id
theorem ZJ {f:FuncId} {a b:aX SV} {y:V} (r:dg ν m H Z (.clo f a b) y):dg ν m H Z (Wg f a b) y:=by
 unfold Wg;split
 .rename_i x z D d;cases r with|clo _ _ _ w B I J hva u=>
  have h1:=ct.dw (ν:=ν) (m:=m) (H:=H) (Z:=Z) (ys:=w) ⟨I,hva⟩ D;have C:=ct.dw (ν:=ν) (m:=m) (H:=H) (Z:=Z) (ys:=B) ⟨J,u⟩ d;exact .v _ _ (.clo f x z w B h1.1 C.1 h1.2 C.2)
 exact r
def dg.Fi{sv:SV}{y:V}{d:Nat}{cs:R'}{xs:So}(J:bh m d=M (.box cs))(T:∀o,o<=W xs->FR H Z' (.fptr (xs.drop o)) (.hptr (ν d).1 0 o))(A:∀id,Z id->Z' id)
 (P:∀e l?,bh m' e=M l?->e≠d/\∃ob,bh m e=M ob/\sameShape ob l?)(r:dg ν m H Z sv y):dg ν m' H Z' (sv.Fi d xs) y:=by
 have w:∀id,Z id->Z' id/\bn H id=bn H id:=λid h=>⟨A id h,Y⟩
 have z:∀e l?,bh m' e=M l?->∃ob,bh m e=M ob/\ν e=ν e/\sameShape ob l?:=λe l? h=>g?
 induction r with
 |v x y h=>exact .v x y (h.mono w)|own e y h=>exact(dg.own e y h).mono w λe _=>z e|ptr e o y h=>
  simp only[SV.Fi];split
  .rename_i q;subst q;obtain⟨_,e1,rfl⟩:=h _ J;split
   next I=>exact .v _ _ (T o I)
   exact(dg.ptr e o _ h).mono w λe _=>z e
  exact(dg.ptr e o y h).mono w λe _=>z e
 |el e i o y h=>exact(dg.el e i o y h).mono w λe _=>z e|mp e y h=>exact(dg.mp e y h).mono w λe _=>z e|clo f a b B L C t hva Q D S=>
  refine ZJ (.clo f _ _ B L (by rw[qh];exact C) (by rw[qh];exact t) (λj u v c g=>?_) (λj u v c g=>?_))
  .rw[uS,ζf]at c;grind
  rw[uS,ζf]at c;grind
 |tup a B C hva D=>
  refine .tup _ B (by rw[qh];exact C) (λj u v c g=>?_)
  rw[uS,ζf]at c;grind
 |agg a B C hva D=>
  refine .agg _ B (by rw[qh];exact C) (λj u v c g=>?_)
  rw[uS,ζf]at c;grind
 |yl id=>exact .yl id
def dx.Dh{d:Nat}{ob:bD}{f:R'->R'}(J:∀id,Z id->Z' id)(q:∀l,W (f l)=W l)
 (T:∀cs B,ct ν m H Z cs B->ct ν m' H Z' (f cs) B)(j:∀e l?,bh m' e=M l?->∃ob,bh m e=M ob/\sameShape ob l?)(o:dx ν m H Z d ob):dx ν m' H Z' d (Dh f ob):=by
 have u:∀id,Z id->Z' id/\bn H id=bn H id:=λid h=>⟨J id h,Y⟩
 cases ob with
 |sl k es g=>
  simp[Go.VE.Dh,dx]at o⊢;split
  next b=>rw[J0 b]at o;have⟨I,a,z,D,L,i⟩:=o;exact⟨I,a,z,D.mono u,L.mono u,i⟩
  grind
 |box cs=>have⟨es,B,a,z,D⟩:=o;exact⟨es,B,a,T cs B z,D⟩|mp Q=>have⟨C,a,z⟩:=o;exact⟨C,a,z.mono u⟩|dp k g w=>exact dx.mono (ob:=.dp k g w) u Y (λ_ _=>rfl) (λe _ l? h=>let⟨ob,a,z⟩:=j e l? h;⟨ob,a,Y,z⟩) o
def HJ{f:R'->R'}{ob:bD}:(Dh f ob).pt=ob.pt:=by cases ob<;>rfl
theorem PW{f:R'->R'}{ob:bD}:sameShape ob (Dh f ob):=by cases ob<;>rfl
def R.shut(r:R ν Z st F H){d:Nat}{ob:bD}(n:bh st.m d=_h ob){fs:SV->SV}{D:R'->R'}(q:∀l,_j (D l)=_j l)(M:∀l(j:Nat),(D l)[j]?=(l[j]?).map fs)
 (B:∀id,Z' id↔Z id\/∃j,ob.pt j=O/\id=ν.at d j)(J:∀j,ob.pt j=O->∃es ys,H[ν.at d j]?=_h (.row es ys)/\wY H Z' ys)
 (N:∀m',(∀e l?,bh m' e=_h l?->e≠d/\∃ob,bh st.m e=_h ob/\sameShape ob l?)->∀sv y,dg ν st.m H Z sv y->dg ν m' H Z' (fs sv) y):
 R ν Z' {st with g:=CJ fs st.g,m:=mapM D (dH d st.m)} F H/\Ev Rv ν Z st H ν Z' {st with g:=CJ fs st.g,m:=mapM D (dH d st.m)} H:=by
 have key:∀e l?,bh (mapM D (dH d st.m)) e=_h l?->e≠d/\∃ob,bh st.m e=_h ob/\l?=Dh D ob:=λe l? h=>by rw[Iw,ζf]at h;obtain⟨o,a,rfl⟩:=h;grind[mU]
 have w:∀e l?,bh (mapM D (dH d st.m)) e=_h l?->e≠d/\∃ob,bh st.m e=_h ob/\sameShape ob l?:=λe l? h=>by obtain⟨a,o,z,rfl⟩:=key e l? h;grind[PW]
 have t:=N _ w;have c__:∀cs C,ct ν st.m H Z cs C->ct ν (mapM D (dH d st.m)) H Z' (D cs) C:=λcs C h=>by refine⟨by rw[q];exact h.1,λj u v i P=>?_⟩;rw[M,ζf]at i;obtain⟨A,W,rfl⟩:=i;exact t A v (h.2 j A v W P)
 have a__:=λid h=>(B id).2 (.inl h)
 refine⟨⟨λs sv S=>?_,λe l? X=>?_,λb E o1 o2 T V a z L K hp=>?_,λb o1 T a L=>?_,λid h=>?_,⟨λid es ys b__ f c hc u i=>?_⟩⟩,⟨z? _,λ_ _ _ _ _=>rfl,λid h=>⟨a__ id h,_i⟩,?_,?_,?_,_i⟩⟩
 .rw[Iz,ζf]at S;obtain⟨Q,Y,rfl⟩:=S;exact t Q _ (r.slot s Q Y)
 .obtain⟨a,o,z,rfl⟩:=key e l? X;exact dx.Dh a__ q c__ (λe l? h=>(w e l? h).2) (r.obj e o z)
 .obtain⟨_,p1,k1,rfl⟩:=key b o1 a;obtain⟨_,p2,k2,rfl⟩:=key E o2 z;rw[HJ]at L K;exact r.inj b E p1 p2 T V k1 k2 L K hp
 .obtain⟨aa,p1,k1,rfl⟩:=key b o1 a;rw[HJ]at L;intro b__;rcases(B _).1 b__ with b__|⟨j,I,X⟩
  .exact r.apart b p1 T k1 L b__
  exact aa (r.inj b d p1 ob T j k1 n L I X).1
 .rcases (B id).1 h with h|⟨j,I,rfl⟩
  .exact r.zrow id h
  have⟨es,ys,f,_⟩:=J j I;unfold bn;rw[f];rfl
 .rcases (B id).1 b__ with h|⟨j,I,rfl⟩
  .have⟨x,hx⟩:=r.deep.row id es ys h f c hc u i;exact⟨x,hx.mono λk hk=>⟨a__ k hk,_i⟩⟩
  have⟨ad,ae,ab,S⟩:=J j I;unfold bn at f;rw[ab]at f;obtain⟨_,rfl⟩:=f;exact S c hc u i
 .rintro id ⟨e,o,j,a,z,h3⟩;obtain⟨_,p,k1,rfl⟩:=key e o a;rw[HJ]at z;exact .inl ⟨e,p,j,k1,z,h3⟩
 .intro id h;rcases(B id).1 h with h|⟨j,I,rfl⟩
  .grind
  exact .inr (.inl ⟨d,ob,j,n,I,_i⟩)
 grind
def KA(r:R ν Z st F H){d:Nat}(h:C2 d st=M e?):∃Z',R ν Z' e? F H/\Ev Rv ν Z st H ν Z' e? H:=by
 unfold C2 at h;split at h;rename_i k es z u;simp only[ζa]at h;subst h;have o:=r.obj d _ u;refine⟨λid=>Z id\/∃j,(bD.sl k es z).pt j=O/\id=ν.at d j,R.shut r u (λ_=>pQ) (λ_ _=>wI) (λ_=>Iff.rfl) (λj B=>?_) (λm' w g y a=>?_)⟩;have:=lu (ob:=.sl k es z) f? j B;subst this;have b:b_ k=O:=B;simp only[dx,b,L']at o;have⟨C,a,_,_,D,_⟩:=o;exact⟨es,C,a,D.mono λid h=>⟨.inl h,Y⟩⟩;refine dg.sub u Y ?_ (λid h=>.inl h) w a;by_cases b:b_ k=O;simp[dx,b]at o;have⟨C,a,I,J,D,_⟩:=o;rw[qo b];have e:kN k es z=.fsl es z:=by cases k<;>simp[b_]at b<;>rfl
 rw[e];refine FR.G4 (.inr ⟨0,b,Y⟩) (by unfold bn;rw[a];rfl) I (J.mono λid h=>⟨.inl h,Y⟩);cases k<;>simp[b_]at b;exact .same _ Y;exact .same _ Y;rename_i k z u;simp only[ζa]at h;subst h;have⟨c,L⟩:=Qq (Z':=λid=>Z id\/∃j,(bD.dp k z G).pt j=O/\id=ν.at d j) (r.obj d _ u) (λid h=>.inl h) (λj h=>.inr ⟨j,h,Y⟩);exact⟨_,R.shut r u (λ_=>pQ) (λ_ _=>wI) (λ_=>Iff.rfl) L (λm' w g y a=>dg.sub u Y c (λid h=>.inl h) w a)⟩;cases h
def TF(r:R ν Z st F H){d:Nat}(h:ghost (.closeB d) st=M e?):∃Z',R ν Z' e? F H/\Ev Rv ν Z st H ν Z' e? H:=by
 simp[ghost]at h;split at h;rename_i cs w;split at h;rename_i I J;simp at h;subst h;have⟨es,z,a,b,_⟩:=r.obj d _ w;have C:=b.dw J;have L:wY H Z [z]:=by intro c B u e;simp[List.mem_singleton]at B;subst B;have⟨j,i⟩:=mem_iff_getElem?.1 e;have Q:j<W I:=(by rw[C.1];grind);exact⟨_,C.2 j _ u (ζd Q) i⟩
 refine⟨λid=>Z id\/∃j,(bD.box cs).pt j=O/\id=ν.at d j,R.shut r w (λ_=>qh) (λ_ _=>uS) (λ_=>Iff.rfl) (λj S=>by have:=lu (ob:=.box cs) f? j S;subst this;exact⟨es,_,a,L.mono λid h=>⟨.inl h,Y⟩⟩) (λm' D T y g=>?_)⟩;refine dg.Fi w (λo q=>?_) (λid h=>.inl h) D g;exact FR.Hg (.inr ⟨0,Y,Y⟩) (show bn H (ν d).1=M (es,[z])by unfold bn;rw[a];rfl) Y (by rw[<-C.1];omega) ((C.drop o).mono λid h=>⟨.inl h,Y⟩);grind;grind
def wu{d e:Nat}:∀{l:R'}{j:Nat},(SV.yj d e l)[j]?=(l[j]?).map (SV.uR d e)
 |[],j=>by simp[SV.yj]|x::r,0=>by simp[SV.yj]|x::r,j+1=>by simp[SV.yj,wu]
def q_{d e:Nat}:∀{l:R'},W (SV.yj d e l)=W l
 |[]=>rfl|x::r=>by simp[SV.yj,q_]
def Iu{d e:Nat}:∀{g:Tb SV}{s:Nat},bh (Dn d e g) s=(bh g s).map (SV.uR d e)
 |[],s=>rfl|(k,x)::r,s=>by simp[Dn,bh];split;rfl;exact Iu
def CI{d e:Nat}(B:d≠e):∀{m:Tb bD}{k:Nat},bh m e=G->bh (yq d e m) k=(if k=d then G else(bh m (if k=e then d else k)).map (bD.uR d e))
 |[],k,_=>by simp[yq,bh]|(n,x)::r,k,h=>by simp[bh]at h;split at h;simp_all;have D:=CI B (k:=k) h;grind[yq,bh]
def oD(ν:Nu)(d e:Nat):Nu:=⟨λk=>if k=e then ν d else ν k,λk=>if k=e then ν.inn d else ν.inn k⟩
def T0(ν:Nu)(d e k j:Nat):(oD ν d e).at k j=ν.at (if k=e then d else k) j:=by cases j<;>simp only[Nu.at,oD]<;>split<;>rfl
def HA{d e:Nat}{ob:bD}:(ob.uR d e).xB=ob.xB:=by
 cases ob with
 |dp k u w=>rcases w with _|⟨i,t⟩<;>rfl
 |_=>rfl
def LD{d e:Nat}{ob:bD}:(ob.uR d e).pt=ob.pt:=by
 cases ob with
 |dp k u w=>rcases w with _|⟨i,t⟩<;>rfl
 |_=>rfl
def dg.uR{sv:SV}{y:V}{d e:Nat}(T:bh m e=G)(D:sv.cR e=U)(J:d≠e)(r:dg ν m H Z sv y):dg (oD ν d e) (yq d e m) H Z (sv.uR d e) y:=by
 have key:∀k,k≠e->∀w,bh (yq d e m) (if k=d then e else k)=M w->∃ob,bh m k=M ob/\oD ν d e (if k=d then e else k)=ν k/\w=ob.uR d e:=λk l w h=>by rw[CI J T]at h;by_cases c:k=d;subst c;rw[J0 Y,K' (Ne.symm J),J0 Y,ζf]at h;obtain⟨ob,B,rfl⟩:=h;simp_all[oD];rw[K' c,K' c,K' l,ζf]at h;obtain⟨ob,B,rfl⟩:=h;simp_all[oD]
 induction r with|v x y h=>exact .v x y h|own k y h=>have l:k≠e:=(by simp_all[SV.cR]);refine .own _ y λw q=>?_;obtain⟨ob,c,B,rfl⟩:=key k l w q;obtain⟨_,_,_,D,rfl⟩:=h ob c;exact⟨_,_,_,HA.trans D,by rw[B]⟩|ptr k o y h=>have l:k≠e:=(by simp_all[SV.cR]);refine .ptr _ o y λw q=>?_;obtain⟨ob,c,B,rfl⟩:=key k l w q;obtain⟨_,rfl,rfl⟩:=h ob c;exact⟨_,rfl,by rw[B]⟩|el k i o y h=>have l:k≠e:=(by simp_all[SV.cR]);refine .el _ i o y λw q=>?_;obtain⟨ob,c,B,rfl⟩:=key k l w q;obtain⟨_,_,_,D,Q,rfl⟩:=h ob c;exact⟨_,_,_,HA.trans D,Q,by rw[B]⟩|mp k y h=>have l:k≠e:=(by simp_all[SV.cR]);refine .mp _ y λw q=>?_;obtain⟨ob,c,B,rfl⟩:=key k l w q;obtain⟨_,rfl,rfl⟩:=h ob c;exact⟨_,rfl,by rw[B]⟩|clo f a b I S t X hva A C P=>simp[SV.cR]at D;refine .clo f _ _ I S (by rw[q_];omega) (by rw[q_];omega) (λj u v g n=>?_) (λj u v g n=>?_);rw[wu,ζf]at g;obtain⟨L,z,rfl⟩:=g;grind[wD];rw[wu,ζf]at g;obtain⟨L,z,rfl⟩:=g;grind[wD]|tup a I t hva C=>refine .tup _ I (by rw[q_];omega) (λj u v g n=>?_);rw[wu,ζf]at g;obtain⟨L,z,rfl⟩:=g;exact C j L v z n (wD D z)|agg a I t hva C=>refine .agg _ I (by rw[q_];omega) (λj u v g n=>?_);rw[wu,ζf]at g;obtain⟨L,z,rfl⟩:=g;exact C j L v z n (wD D z)|yl id=>exact .yl id
def L4(r:R ν Z st F H){d e:Nat}(D:d≠e)(V:st.new e=O):R (oD ν d e) Z {st with g:=Dn d e st.g,m:=yq d e st.m} F H/\Ev Rv ν Z st H (oD ν d e) Z {st with g:=Dn d e st.g,m:=yq d e st.m} H:=by
 have⟨n1,d__,n3,E⟩:=lV V;have key:∀k z,bh (yq d e st.m) k=M z->∃k0 ob,bh st.m k0=M ob/\z=ob.uR d e/\k0=(if k=e then d else k)/\k≠d/\(k=e/\k0=d\/k≠e/\k0=k):=λk z h=>by rw[CI D d__]at h;split at h;simp_all;rename_i a;rw[ζf]at h;obtain⟨ob,B,rfl⟩:=h;by_cases b__:k=e;rw[J0 b__]at B;exact⟨d,ob,B,_i,by grind[oD],a,.inl ⟨b__,_i⟩⟩;rw[K' b__]at B;exact⟨k,ob,B,_i,by grind[oD],a,.inr ⟨b__,_i⟩⟩
 have C:∀k j,(oD ν d e).at k j=ν.at (if k=e then d else k) j:=T0 ν d e;have L:∀k,(oD ν d e) k=ν (if k=e then d else k):=λk=>by simp only[oD];split<;>rfl
 have W:∀k,(oD ν d e).inn k=ν.inn (if k=e then d else k):=λk=>by simp only[oD];split<;>rfl
 refine⟨⟨λs sv K=>?_,λk z b=>?_,λc d2 o1 o2 X j2 a B c__ a__ J=>?_,λc o1 X a c__=>?_,r.zrow,r.deep⟩,⟨z? _,λ_ _ _ _ _=>rfl,λid h=>⟨h,_i⟩,?_,λ_ h=>.inl h,?_,_i⟩⟩;rw[Iu,ζf]at K;obtain⟨Y,Q,rfl⟩:=K;exact dg.uR d__ (B2 n3 Q) D (r.slot s Y Q);obtain⟨k0,ob,a,rfl,B,_,_⟩:=key k z b;have o:=r.obj k0 ob a;have J:(oD ν d e) k=ν k0:=by rw[L,<-B]
 cases ob with|sl fl es xs=>grind[bD.uR,dx]|box cs=>have⟨es,aa,g1,g2,g3⟩:=o;have I:=(by have:=uG E a;simpa[bD.cR]using this);refine⟨es,aa,by rw[J];exact g1,⟨by rw[q_];exact g2.1,λj u v N hv=>?_⟩,g3⟩;rw[wu,ζf]at N;obtain⟨u',S,rfl⟩:=N;exact dg.uR d__ (wD I S) D (g2.2 j u' v S hv)|mp ab=>grind[bD.uR,dx]|dp fl xs w=>have hi:(oD ν d e).inn k=ν.inn k0:=(by rw[W,<-B]);have P:∀i x y,xS ν H Z k0 i x y->xS (oD ν d e) H Z k i x y:=λi x y h=>(by unfold xS at h⊢;rw[hi];exact h);have I:=uG E a;rcases w with _|⟨i0,t⟩;simp only[bD.uR,dx,J]at o⊢;split;(next b=>rw[J0 b]at o;have⟨o1,o2,o3,ys,f,l,n⟩:=o;exact⟨o1,o2,o3,ys,f,l,λi x y p q=>P i x y (n i x y p q)⟩);rename_i b;rw[K' b]at o;exact o;simp only[bD.uR,dx,J]at o⊢;split;rename_i b;rw[J0 b]at o;have⟨o1,o2,o3,ys,f,l,n⟩:=o;refine⟨o1,o2,λi t' e=>by cases e;exact o3 _ _ _i,ys,f,l,λi x y p q=>?_⟩;have T:=n i x y p q;simp only[qd]at T⊢;split;(next e0=>rw[J0 e0]at T;have⟨v,q1,q2,q3⟩:=T;exact⟨v,q1,q2,dg.uR (sv:=.own t) d__ (by simpa[bD.cR,SV.cR]using I) D q3⟩);rename_i e0;rw[K' e0]at T;exact P i x y T;rename_i b;rw[K' b]at o;cases o.2
 obtain⟨k1,p1,g1,rfl,e1,c1,A⟩:=key c o1 a;obtain⟨k2,p2,g2,rfl,e2,c3,c4⟩:=key d2 o2 B;rw[LD]at c__ a__;rw[C,C,<-e1,<-e2]at J;have:=r.inj k1 k2 p1 p2 X j2 g1 g2 c__ a__ J;omega;obtain⟨k1,p1,g1,rfl,e1,_⟩:=key c o1 a;rw[LD]at c__;rw[C,<-e1];exact r.apart k1 p1 X g1 c__;rintro id ⟨k,o,j,a,B,b__⟩;obtain⟨k1,p1,g1,rfl,e1,_⟩:=key k o a;rw[LD]at B;exact .inl ⟨k1,p1,j,g1,B,by rw[C,<-e1]at b__;exact b__⟩;intro k b z h;obtain⟨k1,p1,g1,rfl,e1,c1,A⟩:=key k z h;rcases A with⟨rfl,_⟩|⟨A,rfl⟩;grind;exact⟨p1,g1,by rw[L,<-e1],HA⟩
def R.say(r:R ν Z st F H){n:Nat}{sv:SV}(h:dg ν st.m H Z sv (get F n)):R ν Z {st with g:=bE st.g n sv} F H where
 slot:=λs x u=>by by_cases e:n=s;grind[cA];rw[cU st.g sv e]at u;exact r.slot s x u
 obj:=r.obj
 inj:=r.inj
 apart:=r.apart
 zrow:=r.zrow
 deep:=r.deep
def RZ(r:R ν Z st F H){n d es:Nat}{k:Fl}{x:V}(a:kN k es []=x/\b_ k=U)(J:bh st.g n=M (.v x))(D:st.new d=O)(T:∀y,FR H Z x y->y=x)(B:qf (ν d) k es 0=x):
 R (iN ν d (ν d)) Z {st with g:=bE st.g n (.own d),m:=bE st.m d (.sl k es [])} F H/\Ev Rv ν Z st H (iN ν d (ν d)) Z {st with g:=bE st.g n (.own d),m:=bE st.m d (.sl k es [])} H:=by
 have u:eR (.sl k es [])=O->False:=by grind[eR]
 have r1:=r.add D (p:=ν d) (λh=>(u h).elim) (by grind[dx])
 refine⟨r1.say (.own _ _ λz w=>?_),?_⟩
 .rw[cA]at w;cases w;rw[jh,T _ (r.slot n _ J).fr];exact⟨_,_,_,Y,B.symm⟩
 exact(Ev.add D (z? _) (λ_ _ _=>rfl) (λ_ _=>rfl) (λh=>(u h).elim)).trans (Ev.slots _)
def Sj(r:R ν Z st F H){b i d es:Nat}{k:Fl}{x:V}{cs:R'}(l:b_ k=U)(T:bh st.m b=M (.box cs))(hi:cs[i]?=M (.v x))(D:st.new d=O)(t:∀y,FR H Z x y->y=x)(J:qf (ν d) k es 0=x):
 ∃ν',R ν' Z {st with m:=bE (bE st.m d (.sl k es [])) b (.box (cs.set i (.own d)))} F H/\Ev Rv ν Z st H ν' Z {st with m:=bE (bE st.m d (.sl k es [])) b (.box (cs.set i (.own d)))} H:=by
 have B:eR (.sl k es [])=O->False:=by grind[eR]
 have r1:=r.add D (p:=ν d) (λh=>(B h).elim) (by grind[dx])
 have C:b≠d:=by rintro rfl;rw[(lV D).2.1]at T;cases T
 have z:bh (bE st.m d (.sl k es [])) b=M (.box cs):=by rw[cU _ _ (Ne.symm C)];omega
 have⟨o,I,f,L,S⟩:=r1.obj b _ z;have g:∀e w,bh (bE (bE st.m d (.sl k es [])) b (.box (cs.set i (.own d)))) e=M w->∃ob,bh (bE st.m d (.sl k es [])) e=M ob/\iN ν d (ν d) e=iN ν d (ν d) e/\sameShape ob w:=λe w h=>by by_cases q:e=b;subst q;rw[cA]at h;cases h;exact⟨_,z,Y,Y⟩;rw[cU _ _ (Ne.symm q)]at h;exact⟨w,h,Y,.refl _⟩
 refine⟨iN ν d (ν d),r1.ij z Y (pH Y) (λ_ _=>rfl) Y ⟨o,I,f,⟨by simp[L.1],λj u v a c=>?_⟩,S⟩,?_⟩
 .rw[D?]at a;split at a
  .rename_i e;subst e;split at a
   .cases a;refine .own _ _ λw Q=>?_
    rw[cU _ _ C,cA]at Q;cases Q;rw[jh,t v (L.2 i _ v hi c).fr];exact⟨_,_,_,Y,J.symm⟩
   grind
  exact(L.2 j u v a c).mono (λid h=>⟨h,Y⟩) λe _=>g e
 exact(Ev.add D (z? _) (λ_ _ _=>rfl) (λ_ _=>rfl) (λh=>(B h).elim)).trans (Ev.ij r1 z Y (pH Y) (λ_ _=>rfl) Y (z? _))
theorem Zd (r:R ν Z st F H) {d:Nat} (h:Kk d st=some e?):R ν Z e? F H/\Ev Rv ν Z st H ν Z e? H:=by
 unfold Kk at h;split at h
 .rename_i k es D u;split at h
  .rename_i hc;obtain⟨rfl,hk,w⟩:=hc;cases h;have g:∀(i:Nat) (x:aX V),D[i]? = some x->x=[.bG]\/x=[.dN]:=λi x hi=>by
    have:=List.all_eq_true.1 w x (List.mem_of_getElem? hi);unfold abN at this;split at this
    .exact .inl rfl
    .exact .inr rfl
    cases this
   have z:∀j,(bD.dp k D none).pt j=true->(bD.sl k 1 D).pt j=true:=λj J=>by
    cases j with
    | zero=>exact J
    | succ i=>
     obtain⟨-,es,S,hi⟩:=uy J;rcases g i _ hi with h|h <;> cases h
   have o:=r.obj d _ u;refine⟨r.Hv u rfl z (λ_ _=>rfl) ?_,Ev.Hv r u rfl z (λ_ _=>rfl) (Nat.le_refl _)⟩
   simp only[dx]at o ⊢;split
   .rename_i hr;rw[J0 hr]at o;have hk:k=.row:=by cases k <;> simp_all [b_]
    obtain⟨q,o1,o2,o3,T,C⟩:=o;obtain⟨C,L⟩:=C hk;refine⟨hk,C,(λi t e=>by cases e),q,o1,L,λi x y w Q=>.inl ⟨?_,g i x w⟩⟩
    rw[C,List.drop_zero,<-L,List.take_length]at o3;have B:=o3.2 i x y w Q;rcases g i x w with rfl|rfl
    .obtain⟨y,_,rfl,h1,I⟩:=B.inv;rw[I.dm,h1.bG]
    obtain⟨y,_,rfl,h1,I⟩:=B.inv;rw[I.dm,h1.dN]
   rename_i hr;rw[K' hr]at o;exact⟨o,by simp⟩
  cases h
 .cases h;exact⟨r,.refl⟩
 cases h
def Ya(r:R ν Z st F H){d es t:Nat}{i:Loc}(h:DC d i es t st=M e?):∃ν',R ν' Z e? F H/\Ev Rv ν Z st H ν' Z e? H:=by
 unfold DC at h;split at h;rotate_left;cases h;exact⟨ν,r,.refl⟩;cases h;rename_i k S i u _;split at h;rotate_left;cases h;rename_i hc;have⟨A,ab⟩:=hc;have⟨x,E,h⟩:=ζg.1 h;obtain⟨ob,b,rfl⟩:=ζf.1 h;have⟨n1,K,n3,n4⟩:=lV ab;have b__:d≠t:=by rintro rfl;rw[K]at u;cases u
 have hi:=(ζe.1 E).1;have o:=r.obj d _ u;simp only[dx,A,L']at o;obtain⟨o1,o2,-,ys,o3,o4,a__⟩:=o;have T:∀j,(bD.dp k S (M (i,t))).pt j=O->j≠i+1/\(bD.dp k S G).pt j=O:=λj I=>by cases j with|zero=>exact⟨c?,I⟩|succ j=>have⟨a,es,D,J⟩:=uy I;exact⟨λe=>a t (by rw[show i=j by omega]),by simp[bD.pt,J]⟩
 have d__:∀y,ys[i]?=M y->xS ν H Z d i x y:=λy g=>a__ i x y E g;obtain⟨y,g⟩:∃y,ys[i]?=M y:=⟨_,ζd c?⟩;have ae:=d__ y g;obtain⟨v,kk,D,e1,e2,e3,e4,e5,e6⟩:∃v kk D,y=[v]/\v.one=O/\ob=.sl kk es D/\v=qf (ν.inn d i,0) kk es (_j D)/\(b_ kk=O->(bD.dp k S G).pt (i+1)=O/\∃c,H[ν.inn d i]?=M (.row es c)/\gN H Z D c)/\(b_ kk=U->D=[]):=by rcases ae with⟨rfl,rfl|rfl⟩|⟨al,D,c,rfl,rfl,N,l⟩;cases b;exact⟨.bG,.nil,[],_i,_i,_i,_i,(λh=>by cases h),λ_=>rfl⟩;cases b;exact⟨.dN,.emp,[],_i,_i,_i,_i,(λh=>by cases h),λ_=>rfl⟩;simp only[Xs]at b;split at b;(next e=>subst e;cases b;exact⟨_,.row,D,_i,_i,_i,_i,λ_=>⟨by simp[bD.pt,E],c,N,l⟩,λh=>by cases h⟩);cases b
 subst e3;have r1:R ν Z {st with m:=bE st.m d (.dp k S (M (i,t)))} F H:=by refine r.Hv u _i (λj I=>(T j I).2) (λ_ _=>rfl) ?_;simp only[dx,A,L'];refine⟨o1,o2,λn t' e=>by cases e;exact hi,ys,o3,o4,λn P V W w=>?_⟩;simp only[qd];split;(next e=>subst e;rw[g]at w;cases w;exact⟨v,e1,e2,.own _ _ λX q=>by rw[cU _ _ b__,K]at q;cases q⟩);exact a__ n P V W w
 have L:∀e,bh (bE st.m d (.dp k S (M (i,t)))) e=M (.dp k S (M (i,t)))/\e=d\/e≠d/\bh (bE st.m d (.dp k S (M (i,t)))) e=bh st.m e:=λe=>by by_cases C:e=d;subst C;exact .inl ⟨cA _ _ _,_i⟩;exact .inr ⟨C,cU _ _ (Ne.symm C)⟩
 have hs:=o_ ν t (ν.inn d i,0) (λ_=>0);have ad:(kJ ν t (ν.inn d i,0) (λ_=>0)).at t 0=ν.at d (i+1):=_d fst hs.1;have c__:(bD.sl kk es D).flat:=lu f?;have af:∀id,Z id->Z id/\bn H id=bn H id:=λid h=>⟨h,_i⟩;refine⟨kJ ν t (ν.inn d i,0) (λ_=>0),r1.Uy (ob:=.sl kk es D) (p:=(ν.inn d i,0)) (f:=λ_=>0) ?_ n3 (λe o C s=>?_) (λj I=>?_) (λj j' I ah _=>by rw[c__ j I,c__ j' ah]) ?_,⟨z? _,λ_ _ _ _ _=>rfl,af,λid s=>?_,λ_ h=>.inl h,λe C X h=>?_,_i⟩⟩;rw[cU _ _ b__];exact K;rcases L e with⟨a,rfl⟩|⟨a,J⟩;simp only at C;rw[a]at C;cases C;have ai:(kJ ν t (ν.inn e i,0) (λ_=>0)) e=ν e:=K' b__;have aj:(kJ ν t (ν.inn e i,0) (λ_=>0)).inn e=ν.inn e:=K' b__;simp only[dx,A,L',ai];refine⟨o1,o2,λn t' e=>by cases e;exact hi,ys,o3,o4,λn P V W w=>?_⟩;simp only[qd];split;rename_i e9;subst e9;rw[g]at w;cases w;refine⟨v,e1,e2,.own _ _ λX q=>?_⟩;rw[cA]at q;cases q;exact⟨_,_,_,_i,by rw[hs.1];exact e4⟩;have:=a__ n P V W w;unfold qd xS at *;rw[aj];exact this;simp only at C;rw[J]at C;rw[uG n4 C]at s;cases s;have:=c__ j I;subst this;have z:b_ kk=O:=I;rw[ad];refine⟨λ⟨k2,ak,Y,B,Q,z3⟩=>?_,r.apart d _ _ u (e5 z).1⟩;rcases L k2 with⟨a,rfl⟩|⟨a,J⟩;simp only at B;rw[a]at B;cases B;have⟨w1,w2⟩:=T Y Q;exact w1 (r.inj k2 k2 _ _ Y _ u u w2 (e5 z).1 z3).2;simp only at B;rw[J]at B;exact a (r.inj k2 d _ _ Y _ B u Q (e5 z).1 z3).1;simp only[dx];split;rename_i z;have⟨_,c,N,l⟩:=e5 z;rw[hs.1];have hl:=l.1;refine⟨c,N,by simp[hl],?_,l.B1,λ_=>⟨_i,hl.symm⟩⟩;rw[hl,L!,H?];exact l;rename_i z;exact e6 (by simpa using z);rcases KV s with⟨k2,ak,Y,B,Q,z3⟩|⟨j,B,Q⟩;rcases L k2 with⟨a,rfl⟩|⟨a,J⟩;rw[a]at B;cases B;exact .inl ⟨k2,_,Y,u,(T Y Q).2,z3⟩;rw[J]at B;exact .inl ⟨k2,_,Y,B,Q,z3⟩;have:=c__ j B;subst this;rw[ad]at Q;exact .inl ⟨d,_,i+1,u,(e5 B).1,Q⟩;have aa:e≠t:=by rintro rfl;exact n1 C
 simp only at h;rw[cU _ _ (Ne.symm aa)]at h;rcases L e with⟨a,rfl⟩|⟨a,J⟩;rw[a]at h;cases h;exact⟨_,u,K' aa,_i⟩;rw[J]at h;exact⟨X,h,K' aa,.refl _⟩
def abI(r:R ν Z st F H){d:Nat}(h:HH d st=M e?):∃ν',R ν' Z e? F H/\Ev Rv ν Z st H ν' Z e? H:=by
 unfold HH at h;split at h;rotate_left;cases h;exact⟨ν,r,.refl⟩;cases h;rename_i k W i t C;split at h;rotate_left;cases h;rename_i c__ es T m;split at h;rotate_left;cases h;rename_i hc;have⟨aa,X,P⟩:=hc;cases h;have o:=r.obj d _ C;simp only[dx,P,L']at o;have⟨o1,o2,o3,ys,o4,o5,V⟩:=o;have hi:=o3 _ _ _i;have p:=r.obj t _ m;have z:∀e,e=d/\bh (bE (dH t st.m) d (.dp k (W.set i [kN c__ es T]) G)) e=M (.dp k (W.set i [kN c__ es T]) G)\/e≠d/\∀ob,bh (bE (dH t st.m) d (.dp k (W.set i [kN c__ es T]) G)) e=M ob->e≠t/\bh st.m e=M ob:=λe=>by by_cases Q:e=d;subst Q;exact .inl ⟨_i,cA _ _ _⟩;refine .inr ⟨Q,λob h=>?_⟩;rw[cU _ _ (Ne.symm Q)]at h;have⟨w1,w2⟩:=mU h;exact⟨Ne.symm w1,w2⟩
 let ν':Nu:=⟨ν.pl,λe u=>if e=d/\u=i then(ν t).1 else ν.inn e u⟩;have ab:∀e,ν' e=ν e:=λ_=>rfl;have D:∀e u,¬(e=d/\u=i)->ν'.inn e u=ν.inn e u:=λe u h=>K' h;have B:ν'.inn d i=(ν t).1:=J0 ⟨_i,_i⟩;have n:∀e b__,bh (bE (dH t st.m) d (.dp k (W.set i [kN c__ es T]) G)) e=M b__->∃ob,bh st.m e=M ob/\ν' e=ν e/\sameShape ob b__:=λe b__ h=>by rcases z e with⟨rfl,a⟩|⟨a,I⟩;rw[a]at h;cases h;exact⟨_,C,_i,by simp[sameShape,bD.xB]⟩;exact⟨b__,(I _ h).2,_i,.refl _⟩
 have S:∀id,Z id->Z id/\bn H id=bn H id:=λid h=>⟨h,_i⟩;have J:∀e ob j,bh (bE (dH t st.m) d (.dp k (W.set i [kN c__ es T]) G)) e=M ob->ob.pt j=O->∃e0 Y g,bh st.m e0=M Y/\Y.pt g=O/\ν'.at e j=ν.at e0 g/\((e=d/\j=i+1/\e0=t/\g=0)\/(e0=e/\g=j/\e≠t/\¬(e=d/\j=i+1))):=λe ob j h A=>by
  rcases z e with⟨rfl,a⟩|⟨a,I⟩
  .rw[a]at h;cases h;cases j with|zero=>exact⟨e,_,0,C,A,rfl,.inr ⟨rfl,rfl,Ne.symm X,c?⟩⟩|succ u=>
    obtain⟨-,ae,af,L⟩:=uy A;by_cases w:u=i
    .subst w;rw[J? hi]at L;have ad:b_ c__=O:=(by cases c__<;>first|rfl|cases L);exact⟨t,_,0,m,ad,B,.inl ⟨_i,_i,_i,_i⟩⟩
    rw[E? (Ne.symm w)]at L;exact⟨e,_,u+1,C,by simp[bD.pt,L,Ne.symm w],D e u c?,.inr ⟨_i,_i,Ne.symm X,c?⟩⟩
  have⟨l,E⟩:=I _ h;refine⟨e,ob,j,E,A,?_,.inr ⟨_i,_i,l,c?⟩⟩;cases j with|zero=>rfl|succ u=>exact D e u c?
 refine⟨ν',⟨λs sv hs=>(r.slot s sv hs).mono S λe _=>n e,λe ob Q=>?_,λK d2 o1 o2 a__ j2 a I N b2 hp=>?_,λK o1 a__ a N=>?_,r.zrow,r.deep⟩,⟨z? _,λ_ _ _ _ _=>rfl,S,λid⟨e,o,j,a,I,l⟩=>?_,λ_ h=>.inl h,λe _=>n e,_i⟩⟩;rcases z e with⟨rfl,a⟩|⟨a,I⟩;simp only at Q;rw[a]at Q;cases Q;simp only[dx,P,L',ab];refine⟨o1,o2,(λu t' e=>by cases e),ys,o4,by simp[o5],λu x y L hy=>?_⟩;by_cases w:u=i;subst w;rw[J? hi]at L;cases L;have d__:=V u _ y (ζd hi) hy;simp only[qd,L']at d__;obtain⟨v,rfl,-,hv⟩:=d__;obtain⟨_,_,_,q,rfl⟩:=hv.iq m;cases q;show xS ν' H Z e u _ _;simp only[dx]at p;cases c__ with|nil=>exact .inl ⟨rfl,.inl rfl⟩|emp=>exact .inl ⟨rfl,.inr rfl⟩|row=>simp only[b_,L']at p;have⟨ws,p1,p2,p3,p4,p5⟩:=p;have⟨p5,p6⟩:=p5 trivial;rw[p5,L!,<-p6,H?]at p3;exact .inr ⟨es,T,ws,rfl,by rw[B];simp[qf,p5],by rw[B];exact p1,p3⟩|part=>exact _c _i aa
 rw[E? (Ne.symm w)]at L;have d__:=V u x y L hy;simp only[qd,K' (Ne.symm w)]at d__;show xS ν' H Z e u _ _;unfold xS at d__⊢;rw[D e u c?];exact d__;have⟨l,E⟩:=I _ Q;exact dx.mono (ν:=ν) (ν':=ν') S _i (λ_ _=>rfl) (λe' _=>n e') (r.obj e ob E) (funext λu=>D e u c?);have⟨e1,p1,b,k1,c,f,c1⟩:=J K o1 a__ a N;have⟨e2,p2,q2,k2,l2,u2,c2⟩:=J d2 o2 j2 I b2;have:=r.inj e1 e2 p1 p2 b q2 k1 k2 c l2 (by rw[<-f,<-u2];exact hp);omega;have⟨e1,p1,b,k1,c,f,c1⟩:=J K o1 a__ a N;rw[f];exact r.apart e1 p1 b k1 c;have⟨e1,p1,b,k1,c,f,c1⟩:=J e o j a I;exact .inl ⟨e1,p1,b,k1,c,by rw[<-f];exact l⟩
def Wa(r:R ν Z st F H){x:Gh}(h:ghost x st=M e?):∃ν' Z',R ν' Z' e? F H/\Ev Rv ν Z st H ν' Z' e? H:=by cases x with|close d=>have⟨Z',a,b⟩:=KA (Rv:=Rv) r h;grind|closeS l=>simp[ghost]at h;split at h;have⟨Z',a,b⟩:=KA (Rv:=Rv) r h;grind;simp at h;subst h;exact⟨ν,Z,r,.refl⟩;grind|closeB d=>have⟨Z',a,b⟩:=TF (Rv:=Rv) r h;grind|keep gs j=>simp[ghost]at h;split at h;(next g m e B=>simp at h;subst h;exact⟨ν,Z,r.less (λs D w=>sZ e w) (λd ob hd=>sZ B hd),Ev.less (λd ob hd=>sZ B hd)⟩);grind|drop ds=>simp[ghost]at h;subst h;exact⟨ν,Z,r.less (λs D w=>qA w) (λd ob hd=>hd),Ev.less (λd ob hd=>hd)⟩|melt d=>have⟨a,b⟩:=Zd (Rv:=Rv) r h;exact⟨ν,Z,a,b⟩|take d i es t=>have⟨ν',a,b⟩:=Ya (Rv:=Rv) r h;exact⟨ν',Z,a,b⟩|put d=>have⟨ν',a,b⟩:=abI (Rv:=Rv) r h;exact⟨ν',Z,a,b⟩|canon l d es=>cases l with|s n=>simp[ghost]at h;split at h;rename_i w;split at h;rename_i u;simp at h;have⟨a,b⟩:=RZ (Rv:=Rv) (es:=es) (k:=.nil) r ⟨Y,Y⟩ w u (λy h=>h.bG) Y;grind;grind;rename_i w;split at h;rename_i u;simp at h;have⟨a,b⟩:=RZ (Rv:=Rv) (es:=es) (k:=.emp) r ⟨Y,Y⟩ w u (λy h=>h.dN) Y;grind;grind;split at h;simp at h;subst h;exact⟨ν,Z,r,.refl⟩;rename_i z;split at h;rename_i u;simp at h;have⟨a,b⟩:=L4 (Rv:=Rv) r z u;grind;grind;split at h;simp at h;subst h;exact⟨ν,Z,r,.refl⟩;rename_i z;split at h;rename_i u;simp at h;have⟨a,b⟩:=L4 (Rv:=Rv) r z u;grind;grind;grind|c b i=>simp[ghost]at h;split at h;rename_i cs C;split at h;rename_i w;split at h;rename_i u;simp at h;have⟨ν',a,b⟩:=Sj (Rv:=Rv) (es:=es) (k:=.nil) r Y C w u (λy h=>h.bG) Y;grind;grind;rename_i w;split at h;rename_i u;simp at h;have⟨ν',a,b⟩:=Sj (Rv:=Rv) (es:=es) (k:=.emp) r Y C w u (λy h=>h.dN) Y;grind;grind;split at h;simp at h;subst h;exact⟨ν,Z,r,.refl⟩;rename_i z;split at h;rename_i u;simp at h;have⟨a,b⟩:=L4 (Rv:=Rv) r z u;grind;grind;grind;grind
end
structure pJ(E:Env)(f:FuncId)(q:JA):Prop where
 keep:E.keep f=true
 own:E.own f=false
 le:∀es xs vs ys,q.go es xs vs=some ys->ys.length<=xs.length/\(q.part=false->ys.length=xs.length)
 none:∀es vs ys,q.go es [] vs=some ys->∀(H:bl)(Z:Nat->Prop)(ws:List V)(w:V),dJ H Z vs ws->(w=.bG\/w=.dN)->∃n X,∀k,n<=k->run E k (.fn f) (w::ws) H=some (if q.part then w else .undef,H++X)
 row:∀es xs vs ys,q.go es xs vs=some ys->∀(H:bl)(Z:Nat->Prop)(ws:List V)(id off:Nat)(rs:List (List V)),dJ H Z vs ws->H[id]?=some (.row es rs)->off+xs.length<=rs.length->
  gN H Z xs ((rs.drop off).take xs.length)->wY H Z rs->¬Z id->∃n rs' X,(∀k,n<=k->run E k (.fn f) (.hsl id es off xs.length::ws) H=some (if q.part then .hsl id es off ys.length else .undef,(H++X).set id (.row es rs')))/\
   rs'.length=rs.length/\gN H Z ys ((rs'.drop off).take ys.length)/\wY H Z rs'
section
variable{Rv:Nat->Prop}{ν ν':Nu}{Z Z':Nat->Prop}{st e?:St}{m m':Tb bD}{F F':WP}{H H':bl}
def YG{E:Env}{f:Y'}{q:JA}(i:pJ E f q)(r:R ν Z st F H){args:R'}{ys:So}(K:ct ν st.m H Z args ys){dst:aY Nat}{sv:SV}(h:EJ q dst args st=M (sv,e?)):
 ∃n y H' ν',(∀k,n<=k->run E k (.fn f) ys H=M (y,H'))/\R ν' Z e? F H'/\dg ν' e?.m H' Z sv y/\Ev Rv ν Z st H ν' Z e? H'/\Kept dst ν st.m ν' e?.m:=by
 unfold EJ at h;split at h
 .rename_i d vs;obtain⟨w,p,rfl,a__,N⟩:=K.inv;split at h
  .rename_i k es xs zs u b__;have s:=ct.dw N b__;split at h
   .rename_i ns T;have⟨al,P⟩:=i.le _ _ _ _ T;obtain⟨_,_,_,ee,rfl⟩:=a__.iq u;cases ee;have grow:∀X:bl,R ν Z st F (H++X)/\Ev Rv ν Z st H ν Z st (H++X)/\∀id,Z id->bn (H++X) id=bn H id:=λX=>by
     have j:∀id,id<_j H->(H++X)[id]?=H[id]?:=λid h=>u? h
     have b__:∀id,Z id->bn (H++X) id=bn H id:=λid h=>by unfold bn;rw[j id (r.xT h)]
     exact⟨r.heap (λid h=>j id (r.lt h)) b__,Ev.heap f? (λid h _ _ _=>j id h) b__,b__⟩
    have o:=r.obj d _ u
    cases a:b_ k with
    |false=>
     simp only[dx,a,v?,M']at o;subst o;have hw:qf (ν d) k es 0=.bG\/qf (ν d) k es 0=.dN:=by cases k<;>simp[qf,b_]at a⊢
     have⟨n,X,L⟩:=i.none _ _ _ T H Z p _ s hw;have⟨b,I,d__⟩:=grow X;simp only[a,v?,M']at h;split at h
     .rename_i c__;split at h
      .rename_i t;split at h
       .rename_i z;simp only[ζa,ζc]at h;obtain⟨rfl,rfl⟩:=h;have r1:R ν Z {st with m:=dH d st.m} F (H++X):=b.less (g:=st.g) (λ_ _ h=>h) mH
        rw[J0 c__]at L;refine⟨n,_,H++X,iN ν t (ν d),L,r1.add z (λl=>by simp[eR,a]at l) (by simp[dx,a]),?_,?_,Kept.add mH⟩
        .refine .own _ _ λah W=>?_
         simp only at W;rw[cA]at W;cases W;exact⟨_,_,_,_i,by rw[jh];rfl⟩
        exact I.trans (Ev.re (st:=st) mH (lV z).1 (z? _) (λ_ _ _ _=>rfl) (λ_ _=>rfl) (λl=>by simp[eR,a]at l))
       cases h
      cases h
     rename_i c__;simp only[ζa,ζc]at h;obtain⟨rfl,rfl⟩:=h;rw[K' c__]at L;have hu:bE st.m d (.sl k es [])=st.m:=rS u;rw[hu];exact⟨n,_,H++X,ν,L,b,.v _ _ (.same _ rfl),I,.refl⟩
    |true=>
     simp only[dx,a,L']at o;have⟨rs,v,hl,hf,ab,Q⟩:=o;have B:eR (.sl k es xs)=O:=a;have⟨n,C,X,L,e1,e2,e3⟩:=i.row _ _ _ _ T H Z p _ _ rs s v hl hf ab (r.apart d _ 0 u B);have⟨b,I,d__⟩:=grow X;have ai:(ν d).1<_j (H++X):=by have:=(ζe.1 v).1;simp;omega
     have b__:∀id,Z id->Z id/\bn ((H++X).set (ν d).1 (.row es C)) id=bn H id:=λid D=>⟨D,by
      rw[<-d__ id D];unfold bn;rw[E?];rintro rfl;exact r.apart d _ 0 u B D⟩
     have x:∀id,Z id->bn ((H++X).set (ν d).1 (.row es C)) id=bn (H++X) id:=λid D=>by rw[(b__ id D).2,d__ id D]
     have c:∀id,id≠(ν d).1->((H++X).set (ν d).1 (Ob.row es C))[id]?=(H++X)[id]?:=λid aj=>E? (Ne.symm aj)
     have J:((H++X).set (ν d).1 (Ob.row es C))[(ν d).1]?=M (.row es C):=J? ai;rw[qo a];simp only[a,L']at h;split at h
     .rename_i c__;split at h
      .rename_i t;split at h
       .rename_i z;simp only[ζa,ζc]at h;obtain⟨rfl,rfl⟩:=h;have r1:R ν Z {st with m:=dH d st.m} F (H++X):=b.less (g:=st.g) (λ_ _ h=>h) mH
        have A:¬fU ν (dH d st.m) (ν d).1:=by rintro⟨k2,o2,j2,g1,g2,g3⟩;have⟨g4,g5⟩:=mU g1;exact g4 (r.inj d k2 _ o2 0 j2 u g5 B g2 g3.symm).1
        have r2:R ν Z {st with m:=dH d st.m} F ((H++X).set (ν d).1 (.row es C)):=r1.heap (λid ho=>c id (by rintro rfl;exact A ho)) x
        rw[J0 c__]at L;refine⟨n,_,_,iN ν t (ν d),L,r2.add z (λ_=>⟨A,r.apart d _ 0 u B⟩) ?_,?_,?_,Kept.add mH⟩
        .simp only[dx,b_,L',jh];exact⟨C,J,c?,e2.mono b__,e3.mono b__,λe=>by cases e⟩
        .refine .own _ _ λah W=>?_
         simp only at W;rw[cA]at W;cases W;exact⟨_,_,_,_i,by rw[jh];rfl⟩
        exact I.trans (Ev.re (st:=st) mH (lV z).1 f? (λid _ ho _=>c id (by rintro rfl;exact ho ⟨d,_,0,u,B,_i⟩)) x (λ_=>.inl ⟨d,_,0,u,B,_i⟩))
       cases h
      cases h
     rename_i c__;simp only[ζa,ζc]at h;obtain⟨rfl,rfl⟩:=h;rw[K' c__]at L;have ak:q.part=U:=by simpa using c__
     have S:=P ak;have Y:sameShape (.sl k es xs) (.sl k es ns):=by simp[sameShape,bD.xB,S]
     refine⟨n,_,_,ν,L,b.ij u Y (pH _i) c B ?_,.v _ _ (.same _ _i),I.trans (Ev.ij b u Y (pH _i) c B f?),Kept.ij u Y (pH _i)⟩
     simp only[dx,a,L'];exact⟨C,J,c?,e2.mono b__,e3.mono b__,λe=>⟨(Q e).1,by rw[e1,(Q e).2,S]⟩⟩
   cases h
  cases h
 cases h
end
def yz:Nat->R'->Tb SV
 |_,[]=>[]|i,v::vs=>(i,v)::yz (i+1) vs
def start(m?:R')(B:dK):St:=⟨yz 0 m?,B,B.map (·.1),[],O,0⟩
def jT(S:Sys)(c:cg):Prop:=∀f u w rs z,c f u w=M (rs,z)->∀(ν:Nu)(Z:Nat->Prop)(args:So)(H:bl),(S.E.keep f=O\/H=[])->R ν Z (start u w) args H->ct ν w H Z u args->∃n y H' ν' Z' e? F' B,run S.E n (.fn f) args H=M (y,H')/\y=result B/\e?.m=z/\ct ν' z H' Z' rs B/\R ν' Z' e? F' H'/\Ev (λ_=>False) ν Z (start u w) H ν' Z' e? H'
section
variable{Rv:Nat->Prop}{ν ν':Nu}{Z Z':Nat->Prop}{st e?:St}{m m':Tb bD}{F F':WP}{H H' H1:bl}{N:Nat->Y'}
def VV{k:Fl}{es:Nat}{xs:S'}{d:Nat}(o:dx ν m H Z d (.sl k es xs)):(kN k es xs).good=O:=by
 by_cases a:b_ k=O;simp only[dx,a,L']at o;have⟨w,_,_,u,_⟩:=o;have e:kN k es xs=.fsl es xs:=by cases k<;>simp[b_]at a<;>rfl
 rw[e];simp only[V.good];exact u.good;cases k<;>simp[b_]at a<;>rfl
mutual
def RT(D:∀d ob,bh m d=some ob->dx ν m H Z d ob):∀(n:Nat)(sv:SV)(x y:V),shut m n sv=some x->dg ν m H Z sv y->x.good=true
 |n,.v x,z,y,h,r=>by simp only[shut,ζa]at h;subst h;exact r.fr.good|n,.own d,z,y,h,r=>by simp only[shut]at h;split at h;(next k es xs B=>simp only[ζa]at h;subst h;exact VV (D d _ B));(next k xs B=>simp only[ζa]at h;subst h;exact(Qq (Z':=λ_=>True) (D d _ B) (λ_ _=>trivial) (λ_ _=>trivial)).1.good);simp at h|0,.ptr d o,z,y,h,r=>by simp[shut]at h|n+1,.ptr d o,z,y,h,r=>by simp only[shut]at h;split at h;rename_i cs B;split at h;rename_i xs T;split at h;simp only[ζa]at h;subst h;obtain⟨es,J,_,p,_⟩:=D d _ B;simp only[V.good];exact Bu _ (pn D n cs xs J T p);simp at h;simp at h;simp at h|n,.el d i o,z,y,h,r=>by cases n<;>simp[shut]at h|n,.yl id,z,y,h,r=>by cases n<;>simp[shut]at h|n,.mp d,z,y,h,r=>by simp only[shut]at h;split at h;rename_i L B;simp only[ζa]at h;subst h;obtain⟨w,_,e⟩:=D d _ B;simp only[V.good];refine Ix.2 λj u g=>?_;have t:j<w.length:=(by rw[<-e.1];exact(ζe.1 g).1);obtain⟨⟨_,c⟩,C⟩:=e.2 j u _ g (ζd t);exact⟨lI c,C.good⟩;simp at h|0,.clo f a b,z,y,h,r=>by simp[shut]at h|n+1,.clo f a b,z,y,h,r=>by simp only[shut]at h;split at h;(next Q x2 c C=>simp only[ζa]at h;subst h;obtain⟨S,A,rfl,W,X⟩:=r.l_;simp only[V.good,ζh];exact⟨pn D n a Q S c W,pn D n b x2 A C X⟩);simp at h|0,.tup l,z,y,h,r=>by simp[shut]at h|n+1,.tup l,z,y,h,r=>by simp only[shut]at h;obtain⟨xs,c,rfl⟩:=ζf.1 h;obtain⟨q,rfl,I⟩:=r.tc;simp only[V.good];exact pn D n l xs q c I|0,.agg l,z,y,h,r=>by simp[shut]at h|n+1,.agg l,z,y,h,r=>by simp only[shut]at h;obtain⟨xs,c,rfl⟩:=ζf.1 h;obtain⟨q,rfl,I⟩:=r.jP;simp only[V.good];exact pn D n l xs q c I
def pn(D:∀d ob,bh m d=M ob->dx ν m H Z d ob):∀(n:Nat)(m?:R')(xs ys:So),dz m n m?=M xs->ct ν m H Z m? ys->V.cN xs=O
 |n,[],xs,ys,h,r=>by simp only[dz,ζa]at h;subst h;rfl|n,sv::m?,xs,ys,h,r=>by simp only[dz]at h;split at h;(next y s a J=>simp only[ζa]at h;subst h;obtain⟨T,B,rfl,r1,r2⟩:=r.inv;simp only[V.cN,ζh];exact⟨RT D n sv y T a r1,pn D n m? s B J r2⟩);simp at h
end
def Ls{f:V->aY V}:∀{xs ys:aX (V×V)},W xs=W ys->(∀(j:Nat)u v,xs[j]?=M u->ys[j]?=M v->f v.1=M u.1/\f v.2=M u.2)->nQ f ys=M xs
 |[],[],_,_=>rfl|[],y::ys,h,_=>by simp at h|x::xs,[],h,_=>by simp at h|(a,b)::xs,(c,d)::ys,h,B=>by have⟨e,D⟩:=B 0 _ _ Y Y;simp only at e D;simp only[nQ,e,D,Ls (xs:=xs) (ys:=ys) (by simpa using h) λj u v g i=>B (j+1) u v (by simpa using g) (by simpa using i)]
def Lc:∀{l:aX (V×V)}{n:Nat},V.vU n l=O↔∀(j:Nat)u,l[j]?=M u->u.1.lvl n=O/\u.2.lvl n=O
 |[],n=>by simp[V.vU]|(k,x)::l,n=>by simp only[V.vU,ζh,Lc (l:=l)];constructor;rintro⟨b,B⟩ j u a;(cases j with|zero=>simp at a;subst a;exact b|succ j=>exact B j u (by simpa using a));intro h;exact⟨h 0 (k,x) Y,λj u a=>h (j+1) u (by simpa using a)⟩
def xV{n:Nat}{xs ys:So}(D:jw (borrow n H1) ys=M xs)(B:V.ji ys=O):ys=xs:=by
 have w:=mB (f:=borrow n H1) (xs:=ys) (ys:=ys) Y λj u v a b=>by rw[a]at b;cases b;exact fh n H1 (rm.1 B j u a)
 rw[D]at w;cases w;rfl
mutual
def Nf{fr:ST}(J:∀d∈fr,∀e ob,bh m e=some ob->ob.cR d=false)(T:∀d ob,bh m d=some ob->d∉fr->dx ν m H1 Z d ob):
 ∀(n:Nat)(sv:SV)(x y:V),shut m n sv=some x->(∀d∈fr,sv.cR d=false)->dg ν m H1 Z sv y->∀k,x.lvl k=true->borrow k H1 y=some x
 |n,.v x,z,y,h,D,r,k,hk=>by simp only[shut,ζa]at h;subst h;exact r.fr.borrow k hk|n,.own d,z,y,h,D,r,k,hk=>by simp only[shut]at h;split at h;rename_i d__ es xs B;simp only[ζa]at h;subst h;obtain⟨_,_,_,e,rfl⟩:=r.iq B;cases e;have hd:d∉fr:=λhd=>(by have:=D d hd;simp[SV.cR]at this);have o:=T d _ B hd;by_cases b__:b_ d__=true;simp only[dx,b__,L']at o;obtain⟨ys,g,E,F,_⟩:=o;rw[qo b__];have e:kN d__ es xs=.fsl es xs:=(by cases d__<;>simp[b_]at b__<;>rfl);rw[e]at hk⊢;exact(FR.G4 (Z:=λ_=>True) trivial (show bn H1 (ν d).1=some (es,ys)by unfold bn;rw[g];rfl) E (F.mono λid h=>⟨trivial,rfl⟩)).borrow k hk;cases d__<;>simp[b_]at b__;exact fh k H1 rfl;exact fh k H1 rfl;rename_i d__ xs B;simp only[ζa]at h;subst h;obtain⟨_,_,_,e,rfl⟩:=r.iq B;cases e;have hd:d∉fr:=λhd=>(by have:=D d hd;simp[SV.cR]at this);exact(Qq (Z':=λ_=>True) (T d _ B hd) (λ_ _=>trivial) (λ_ _=>trivial)).1.borrow k hk;simp at h|0,.ptr d o,z,y,h,D,r,k,hk=>by simp[shut]at h|n+1,.ptr d o,z,y,h,D,r,k,hk=>by
  simp only[shut]at h;split at h;rename_i cs B;split at h;rename_i xs q;split at h;rename_i H;simp only[ζa]at h;subst h;obtain⟨_,e,rfl⟩:=r.q9 B;cases e;have hd:d∉fr:=λhd=>by have:=D d hd;simp[SV.cR]at this
  obtain⟨es,I,g,s,_⟩:=T d _ B hd
  cases k with
  |zero=>simp[V.lvl]at hk|succ k=>
   simp only[V.lvl]at hk;have K:∀e∈fr,SV.dL e (cs.drop o)=false:=λe a__=>by
    have:=J e a__ d _ B;simp only[bD.cR]at this
    cases N:SV.dL e (cs.drop o)with
    |false=>rfl|true=>
     exfalso;have:∀{l:R'}{j:Nat},SV.dL e (l.drop j)=true->SV.dL e l=true:=by
      intro l
      induction l with
      |nil=>intro j h;simpa using h|cons a l L=>intro j h;cases j with
       |zero=>simpa using h|succ j=>simp only[SV.dL,g!];exact .inr (L (by simpa using h))
     rw[this N]at *;simp_all
   have c__:xs.length=cs.length:=by have:∀{l:R'}{r:So},dz m n l=some r->r.length=l.length:=(by intro l;induction l with|nil=>intro r h;simp only[dz,ζa]at h;subst h;rfl|cons a l L=>intro r h;simp only[dz]at h;split at h;(next c Q=>simp only[ζa]at h;subst h;simp[L Q]);simp at h);exact this q
   have P:dz m n (cs.drop o)=some (xs.drop o):=by have:∀{l:R'}{r:So}{j:Nat},dz m n l=some r->dz m n (l.drop j)=some (r.drop j):=(by intro l;induction l with|nil=>intro r j h;simp only[dz,ζa]at h;subst h;simp[dz]|cons a l L=>intro r j h;have R:=h;simp only[dz]at h;split at h;rename_i c Q;simp only[ζa]at h;subst h;(cases j with|zero=>exact R|succ j=>exact L Q);simp at h);exact this q
   have hb:=lK J T n (cs.drop o) (xs.drop o) (I.drop o) P K (s.drop o) k hk;unfold borrow;simp only[V.closed,v?,M',g,ζb,Ob.rows,List.getElem?_cons_zero,J0 (show o<=I.length by rw[<-s.1,<-c__];exact H),hb,B?]
  simp at h;simp at h;simp at h
 |n,.el d i o,z,y,h,D,r,k,hk=>by cases n<;>simp[shut]at h|n,.yl id,z,y,h,D,r,k,hk=>by cases n<;>simp[shut]at h|n,.mp d,z,y,h,D,r,k,hk=>by simp only[shut]at h;split at h;rename_i ae B;simp only[ζa]at h;subst h;obtain⟨_,e,rfl⟩:=r.GH B;cases e;have hd:d∉fr:=λhd=>(by have:=D d hd;simp[SV.cR]at this);obtain⟨S,g,W⟩:=T d _ B hd;(cases k with|zero=>simp[V.lvl]at hk|succ k=>simp only[V.lvl]at hk;unfold borrow;simp only[V.closed,v?,M',g];rw[Ls (xs:=ae) (ys:=S) W.1 λj u v t hv=>?_];rfl;obtain⟨⟨e1,e2⟩,e3⟩:=W.2 j u v t hv;exact⟨by rw[<-e1];exact fh k H1 (V.n9 (lI e2)),e3.borrow k (Lc.1 hk j u t).2⟩);simp at h
 |0,.clo f a b,z,y,h,D,r,k,hk=>by simp[shut]at h|n+1,.clo f a b,z,y,h,D,r,k,hk=>by simp only[shut]at h;split at h;rename_i x1 x2 c Q;simp only[ζa]at h;subst h;obtain⟨a',A,rfl,ra,rb⟩:=r.l_;(cases k with|zero=>simp[V.lvl]at hk|succ k=>simp only[V.lvl,ζh]at hk;have C:=lK J T n a x1 a' c (λd hd=>by have:=D d hd;simp only[SV.cR,l!]at this;exact this.1) ra k hk.1;have X:=lK J T n b x2 A Q (λd hd=>by have:=D d hd;simp only[SV.cR,l!]at this;exact this.2) rb k hk.2;by_cases w:(V.clo f a' A).closed=true;rw[fh _ _ w];simp only[V.closed,ζh]at w;rw[xV C w.1,xV X w.2];unfold borrow;rw[K' w];simp only[C,X]);simp at h|0,.tup l,z,y,h,D,r,k,hk=>by simp[shut]at h|n+1,.tup l,z,y,h,D,r,k,hk=>by simp only[shut]at h;obtain⟨xs,c,rfl⟩:=ζf.1 h;obtain⟨Y,rfl,p⟩:=r.tc;cases k with|zero=>simp[V.lvl]at hk|succ k=>simp only[V.lvl]at hk;have C:=lK J T n l xs Y c (λd hd=>by have:=D d hd;simpa[SV.cR]using this) p k hk;by_cases w:(V.tup Y).closed=true;rw[fh _ _ w];simp only[V.closed]at w;rw[xV C w];unfold borrow;rw[K' w];simp only[C,B?]
 |0,.agg l,z,y,h,D,r,k,hk=>by simp[shut]at h|n+1,.agg l,z,y,h,D,r,k,hk=>by simp only[shut]at h;obtain⟨xs,c,rfl⟩:=ζf.1 h;obtain⟨Y,rfl,p⟩:=r.jP;cases k with|zero=>simp[V.lvl]at hk|succ k=>simp only[V.lvl]at hk;have C:=lK J T n l xs Y c (λd hd=>by have:=D d hd;simpa[SV.cR]using this) p k hk;by_cases w:(V.agg Y).closed=true;rw[fh _ _ w];simp only[V.closed]at w;rw[xV C w];unfold borrow;rw[K' w];simp only[C,B?]
def lK{fr:ST}(B:∀d∈fr,∀e ob,bh m e=M ob->ob.cR d=U)(T:∀d ob,bh m d=M ob->d∉fr->dx ν m H1 Z d ob):
 ∀(n:Nat)(m?:R')(xs ys:So),dz m n m?=M xs->(∀d∈fr,SV.dL d m?=U)->ct ν m H1 Z m? ys->∀k,V.nv k xs=O->jw (borrow k H1) ys=M xs
 |n,[],xs,ys,h,D,r,k,hk=>by simp only[dz,ζa]at h;subst h;rw[r.dm];rfl|n,sv::m?,xs,ys,h,D,r,k,hk=>by simp only[dz]at h;split at h;rename_i y s a g;simp only[ζa]at h;subst h;obtain⟨i,J,rfl,r1,r2⟩:=r.inv;simp only[V.nv,ζh]at hk;have u:=Nf B T n sv y i a (λd hd=>by have:=D d hd;simp only[SV.dL,l!]at this;exact this.1) r1 k hk.1;have w:=lK B T n m? s J g (λd hd=>by have:=D d hd;simp only[SV.dL,l!]at this;exact this.2) r2 k hk.2;simp only[jw,u,w];simp at h
end
end
def Wj(n:Nat):V.nv n []=O:=by cases n<;>rfl
def SC(n:Nat)(x:V)(r:So):V.nv n (x::r)=(V.lvl n x&&V.nv n r):=by cases n<;>rfl
mutual
def G6:∀{n:Nat}{x:V},V.lvl n x=O->V.lvl (n+1) x=O
 |0,.fsl ..,h=>by simp[V.lvl]at h|0,.fptr ..,h=>by simp[V.lvl]at h|0,.fmap ..,h=>by simp[V.lvl]at h|0,.agg ..,h=>by simp[V.lvl]at h|0,.tup ..,h=>by simp[V.lvl]at h|0,.clo ..,h=>by simp[V.lvl]at h|n+1,.fsl es xs,h=>by simp only[V.lvl]at h⊢;exact FB h|n+1,.fptr cs,h=>by simp only[V.lvl]at h⊢;exact uX h|n+1,.fmap B,h=>by simp only[V.lvl]at h⊢;exact Il h|n+1,.agg cs,h=>by simp only[V.lvl]at h⊢;exact uX h|n+1,.tup cs,h=>by simp only[V.lvl]at h⊢;exact uX h|n+1,.clo f a b,h=>by simp only[V.lvl,ζh]at h⊢;exact⟨uX h.1,uX h.2⟩|0,.bool _,_|0,.int ..,_|0,.str _,_|0,.jg,_|0,.ir,_|0,.vf,_|0,.dN,_|0,.bG,_|0,.hsl ..,_|0,.hptr ..,_|0,.yld _,_|0,.hmap _,_=>rfl|_+1,.bool _,_|_+1,.int ..,_|_+1,.str _,_|_+1,.jg,_|_+1,.ir,_|_+1,.vf,_|_+1,.dN,_|_+1,.bG,_|_+1,.hsl ..,_|_+1,.hptr ..,_|_+1,.yld _,_|_+1,.hmap _,_=>rfl
def uX:∀{n:Nat}{x:So},V.nv n x=O->V.nv (n+1) x=O
 |n,[],_=>Wj _|n,a::l,h=>by rw[SC,ζh]at h⊢;exact⟨G6 h.1,uX h.2⟩
def FB:∀{n:Nat}{x:S'},V.rF n x=O->V.rF (n+1) x=O
 |n,[],_=>by simp only[V.rF]|n,a::l,h=>by simp only[V.rF,ζh]at h⊢;exact⟨uX h.1,FB h.2⟩
def Il:∀{n:Nat}{x:aX (V×V)},V.vU n x=O->V.vU (n+1) x=O
 |n,[],_=>by simp only[V.vU]|n,(k,v)::l,h=>by simp only[V.vU,ζh]at h⊢;exact⟨⟨G6 h.1.1,G6 h.1.2⟩,Il h.2⟩
end
def A7{n m:Nat}(h:n<=m){x:V}(B:V.lvl n x=O):V.lvl m x=O:=by induction h with|refl=>exact B|step _ u=>exact G6 u
def qY{n m:Nat}(h:n<=m){x:So}(B:V.nv n x=O):V.nv m x=O:=by induction h with|refl=>exact B|step _ u=>exact uX u
def Us{n m:Nat}(h:n<=m){x:S'}(B:V.rF n x=O):V.rF m x=O:=by induction h with|refl=>exact B|step _ u=>exact FB u
def Y0{n m:Nat}(h:n<=m){x:aX (V×V)}(B:V.vU n x=O):V.vU m x=O:=by induction h with|refl=>exact B|step _ u=>exact Il u
mutual
def Cq:∀x:V,∃n,V.lvl n x=O
 |.fsl es xs=>let⟨n,h⟩:=L8 xs;⟨n+1,by simp only[V.lvl];exact h⟩|.fptr cs=>let⟨n,h⟩:=oe cs;⟨n+1,by simp only[V.lvl];exact h⟩|.fmap u=>let⟨n,h⟩:=N8 u;⟨n+1,by simp only[V.lvl];exact h⟩|.agg cs=>let⟨n,h⟩:=oe cs;⟨n+1,by simp only[V.lvl];exact h⟩|.tup cs=>let⟨n,h⟩:=oe cs;⟨n+1,by simp only[V.lvl];exact h⟩|.clo f a b=>let⟨n,h⟩:=oe a;let⟨m,k⟩:=oe b;⟨max n m+1,by simp only[V.lvl,ζh];exact⟨qY (p! _ _) h,qY (n! _ _) k⟩⟩|.bool _|.int ..|.str _|.jg|.ir|.vf|.dN|.bG|.hsl ..|.hptr ..|.yld _|.hmap _=>⟨0,Y⟩
def oe:∀x:So,∃n,V.nv n x=O
 |[]=>⟨0,by simp only[V.nv]⟩|a::l=>let⟨n,h⟩:=Cq a;let⟨m,k⟩:=oe l;⟨max n m,by simp only[V.nv,ζh];exact⟨A7 (p! _ _) h,qY (n! _ _) k⟩⟩
def L8:∀x:S',∃n,V.rF n x=O
 |[]=>⟨0,by simp only[V.rF]⟩|a::l=>let⟨n,h⟩:=oe a;let⟨m,k⟩:=L8 l;⟨max n m,by simp only[V.rF,ζh];exact⟨qY (p! _ _) h,Us (n! _ _) k⟩⟩
def N8:∀x:aX (V×V),∃n,V.vU n x=O
 |[]=>⟨0,by simp only[V.vU]⟩|(a,b)::l=>let⟨n,h⟩:=Cq a;let⟨m,k⟩:=Cq b;let⟨q,p⟩:=N8 l;⟨max n (max m q),by simp only[V.vU,ζh];exact⟨⟨A7 c? h,A7 c? k⟩,Y0 c? p⟩⟩
end
section
variable{Rv:Nat->Prop}{ν ν':Nu}{Z Z':Nat->Prop}{st e?:St}{m m':Tb bD}{F F':WP}{H H' H1:bl}{N:Nat->Y'}{S:Sys}{c:cg}
def Mh:∀(l:R')(i s:Nat)(sv:SV),bh (yz i l) s=M sv->∃j,s=i+j/\l[j]?=M sv
 |[],i,s,sv,h=>by simp[yz,bh]at h|x::l,i,s,sv,h=>by simp only[yz,bh]at h;split at h;(next e=>simp only[ζa]at h;subst h;exact⟨0,c?,Y⟩);have⟨j,a,B⟩:=Mh l (i+1) s sv h;exact⟨j+1,c?,by simpa using B⟩
def AI{m?:R'}{args:So}(h:ct ν m H Z m? args):∀s sv,bh (yz 0 m?) s=M sv->dg ν m H Z sv (get args s):=λs sv u=>by obtain⟨j,rfl,w⟩:=Mh m? 0 s sv u;have⟨y,z,r⟩:=h.get w;rw[Nat.zero_add,MF args j y z];exact r
def Cy{az:So}(a:V.cN az=O):R ⟨λ_=>(0,0),λ_ _=>0⟩ (λ_=>False) (start (az.map .v) []) az []/\ct ⟨λ_=>(0,0),λ_ _=>0⟩ [] [] (λ_=>False) (az.map .v) az:=by have h:ct ⟨λ_=>(0,0),λ_ _=>0⟩ [] [] (λ_=>False) (az.map .v) az:=ct.tE (dJ.same a);refine⟨⟨AI h,λd ob hd=>by simp[start,bh]at hd,λd w ob u j z hd=>by simp[start,bh]at hd,λd ob j hd=>by simp[start,bh]at hd,λid h=>h.elim,⟨λid es B h=>h.elim⟩⟩,h⟩
def JV{xs ys:So}(h:dJ H Z xs ys):((result xs).scalar=O->result ys=result xs)/\(result ys).scalar=(result xs).scalar:=by cases xs with|nil=>rw[h.dm];exact⟨λ_=>rfl,rfl⟩|cons x xs=>obtain⟨y,ys,rfl,a,u⟩:=h.inv;cases xs with|nil=>rw[u.dm];exact a.scalar|cons x2 xs=>obtain⟨w,ys,rfl,z,B⟩:=u.inv;exact FR.scalar (.tup _ _ h.1 h.2)
def EP(g:jT S c){f:Y'}{az ys:So}{rs:R'}{m':dK}(i:V.cN az=O)(h:c f (az.map .v) []=M (rs,m'))(J:dz m' 8 rs=M ys):
 ∃n r H2,(∀k,n<=k->run S.E k (.fn f) az []=M (r,H2))/\(∀k,n<=k->borrow k H2 r=M (result ys))/\(result ys).good=O:=by
 have⟨P,r1⟩:=Cy i;obtain⟨n,y,H2,ν',Z',e?,F',B,m,rfl,X,q,Q,_⟩:=g f _ _ _ _ h _ _ az [] (.inr Y) P r1;subst X;have C:=pn Q.obj 8 rs ys B J q;have⟨L,T⟩:=oe ys;refine⟨max n (L+1),result B,H2,λk e=>(qT S.E (U? (p! ..) e)).go _ _ _ _ m,λk e=>?_,?_⟩
 .have w:=lK (fr:=[]) (λd hd=>by simp at hd) (λd ob hd _=>Q.obj d ob hd) 8 rs _ _ J (λd hd=>by simp at hd) q
  obtain⟨k,rfl⟩:∃j,k=j+1:=⟨k-1,c?⟩
  have t:=w k (qY c? T)
  have A:=w (k+1) (qY c? T)
  have⟨e1,e2⟩:=ki A
  cases B with
  |nil=>obtain rfl:=List.eq_nil_of_length_eq_zero e1;exact fh _ H2 Y|cons z B=>
   cases B with
   |nil=>
    obtain⟨y,rfl⟩:∃y,ys=[y]:=by cases ys with|nil=>simp at e1|cons y l=>cases l with|nil=>exact⟨y,rfl⟩|cons _ _=>simp at e1
    have⟨x,Z,o⟩:=e2 0 y Y;cases Z;exact o
   |cons z2 B=>
    obtain⟨y,D,l,rfl⟩:∃y D l,ys=y::D::l:=by cases ys with|nil=>simp at e1|cons y l=>cases l with|nil=>simp at e1|cons D l=>exact⟨y,D,l,Y⟩
    by_cases u:(V.tup (z::z2::B)).closed=O
    .simp only[result];rw[fh _ _ u];simp only[V.closed]at u;rw[xV t u]
    simp only[result];unfold borrow;rw[K' u];simp only[t,B?]
 have:∀{l:So},V.cN l=O->(result l).good=O:=by
  intro l I
  cases l with
  |nil=>rfl|cons a l=>cases l with
   |nil=>simp only[V.cN,ζh]at I;exact I.1|cons b l=>simp only[result,V.good];exact I
 exact this C
theorem HF {f:FuncId} {args az:aX V} {y r:V} {H2:bl} {n:Nat} (hr:∀k,n<=k->run S.E k (.fn f) az []=some (r,H2)) (D:∀k,n<=k->borrow k H2 r=some y) (hg:y.good=true) {B:Nat} (J:∀k,B<=k->borrows k H args=some az) :
 ∀k,max n B<=k->cu (run S.E k) f args H=some y:=λk hk=>by
 unfold cu;simp only[qg,J k c?,hr k c?,D k c?,V.n9 hg,L']
def tY(B:∀id,Z id->(bn H id).isSome=O){T:ST}{id:Nat}(h:Z id):bn (c9 H T) id=bn H id:=by
 have:=B id h;unfold bn at this⊢;rw[jO];cases u:H[id]?with|none=>rw[u]at this;simp at this|some ob=>
  rw[u]at this;simp only[B?,ζb];by_cases e:id∈T
  .rw[J0 e];cases ob<;>first|rfl|simp[Ob.rows]at this
  rw[K' e]
def xo{T:ST}{id:Nat}(h:id∉T):(c9 H T)[id]?=H[id]?:=by rw[jO];cases H[id]?<;>simp[h]
def Cn{az:So}{args:R'}{ys:So}(B:∀d ob,bh m d=M ob->dx ν m H Z d ob)(h:dz m 8 args=M az)(r:ct ν m H Z args ys):V.cN az=O:=pn B 8 args az ys h r
def AK{az:So}{args:R'}{ys:So}(r:R ν Z st F H)(B:ct ν st.m H Z args ys)(h:dz st.m 8 args=M az):∃n,∀k,n<=k->borrows k H ys=M az:=
 let⟨n,u⟩:=oe az
 ⟨n,λk a=>lK (fr:=[]) (λd hd=>o?) (λd ob hd _=>r.obj d ob hd) 8 args az ys h (λd hd=>o?) B k (qY a u)⟩
def pM{b id:Nat}(h:id<b):bn (H.take b) id=bn H id:=by grind[bn]
def Pw{b:Nat}{fr:ST}{az:So}{args:R'}{ys:So}(r:R ν Z st F H)(B:ct ν st.m H Z args ys)(h:dz st.m 8 args=M az)
 (D:∀d ob j,bh st.m d=M ob->ob.pt j=O->d∉fr->ν.at d j<b)(J:∀id,Z id->id<b)(a:e_ st.m fr args=O):∃n,∀k,n<=k->borrows k (H.take b) ys=M az:=by
 have⟨n,w⟩:=oe az;refine⟨n,λk f=>?_⟩
 unfold e_ at a;have c:∀d∈fr,SV.dL d args=U/\vw d st.m=U:=λd hd=>by grind
 have u:∀id,Z id->Z id/\bn (H.take b) id=bn H id:=λid h=>⟨h,pM (J id h)⟩
 refine lK (λd hd e ob z=>uG (c d hd).2 z) (λd ob hd C=>?_) 8 args az ys h (λd hd=>(c d hd).1) (B.mono u λe _=>j9 ν st.m e) k (qY f w)
 exact dx.mono u Y (λj g=>List.getElem?_take_of_lt (D d ob j hd g C)) (λe _=>j9 ν st.m e) (r.obj d ob hd)
def OB(hS:jT S c){ops:R0}{place:aY (Nat×Nat)}{dr N:X'}{fr:ST}(ad:dr=place.isSome)(aa:∀b i,place=M (b,i)->N=O->eo ops i=O)
 (e:∀b i,place=M (b,i)->(∀d ob j,bh st.m d=M ob->ob.pt j=O->d∉fr->ν.at d j<b)/\∀id,Z id->id<b)
 (r:R ν Z st F H){args:R'}{ys:So}(g:ct ν st.m H Z args ys){f:Y'}(s:mO S.E ops place f=U){az:So}(t:dz st.m 8 args=M az)(a:(!dr||N)=O\/e_ st.m fr args=O)
 {rs:R'}{m':dK}{J:So}(v:c f (az.map .v) []=M (rs,m'))(Y:dz m' 8 rs=M J)(d__:(result J).scalar=O\/(dw args).isSome=O):
 ∃n H',(∀k,n<=k->eP S.E (run S.E k) ops place f ys H=M (result J,H'))/\R ν Z st F H'/\dg ν st.m H' Z (.v (result J)) (result J)/\Ev Rv ν Z st H ν Z st H':=by
 have hg:=Cn r.obj t g;have⟨A,rr,H2,l,P,E⟩:=EP hS hg v Y;have⟨n2,hb⟩:=AK r g t;have b__:=HF l P E hb;generalize hn:max A n2=n at b__;have ab:=b__;have af:∀k,n<=k->dy (cE k H) ys=dy (cE n H) ys:=λk s=>B0 s (hb n c?)
 have C:∀{H'},dg ν st.m H' Z (.v (result J)) (result J):=.v _ _ (.same _ E);have B:∀T:ST,(∀id∈T,Z id)->R ν Z st F (c9 H T)/\Ev Rv ν Z st H ν Z st (c9 H T):=λT c__=>
  ⟨r.heap (λid ho=>xo λw=>by obtain⟨d,ob,j,g1,g2,rfl⟩:=ho;exact r.apart d ob j g1 g2 (c__ _ w)) (λid w=>tY r.zrow w),
   Ev.heap (by rw[nL];grind) (λid _ _ Y _=>xo λw=>Y (c__ id w)) (λid w=>tY r.zrow w)⟩
 have I:(dw args).isSome=O->(∀id∈dy (cE n H) ys,Z id)/\True:=λQ=>by
  have⟨xs,Q⟩:=isSome_iff_exists.1 Q;have m:=g.dw Q;exact⟨λid w=>by
   have⟨j,u,o,W⟩:=sw w;have K:j<_j xs:=by rw[m.1];grind
   exact FR.cE r.deep n (m.2 j _ u (ζd K) o) id W,trivial⟩
 cases place with
 |none=>
  by_cases z:(result J).scalar=O
  .exact⟨n,H,λk D=>by grind[eP],r,C,.refl⟩
  obtain⟨c__,-⟩:=I (d__.resolve_left z);have⟨p,q⟩:=B _ c__;exact⟨n,c9 H (dy (cE n H) ys),λk D=>by grind[eP,qg],p,C,q⟩
 |some bi=>
  have⟨b,i⟩:=bi;have⟨o1,o2⟩:=e b i _i;have ah:=ad;have fits:∀k,cu (run S.E k) f ys (H.take b)=M (result J)->(result J).scalar=U->j8 (H.take b) (dy (cE k (H.take b)) ys)=O/\dy (cE k H) ys=dy (cE k (H.take b)) ys:=λk _ ai=>by have⟨xs,Q⟩:=isSome_iff_exists.1 (d__.resolve_left g?);have m:=g.dw Q;have L:∀id,Z id->Z id/\bn (H.take b) id=bn H id:=λid h=>⟨h,pM (o2 id h)⟩;have hd:Deep (H.take b) Z:=⟨λid es ys Y hr c v u o=>by rw[(L id Y).2]at hr;have⟨x,Q⟩:=r.deep.row id es ys Y hr c v u o;exact⟨x,Q.mono L⟩⟩;have a__:∀id∈dy (cE k (H.take b)) ys,Z id:=λid w=>(by have⟨j,u,o,W⟩:=sw w;have K:j<_j xs:=(by rw[m.1];grind);exact FR.cE hd k ((m.2 j _ u (ζd K) o).mono L) id W);refine⟨?_,wV _ λid w=>o2 id (a__ id w)⟩;unfold j8;rw[M?];intro id w;have l:=r.zrow id (a__ id w);rw[<-(L id (a__ id w)).2]at l;exact l
  rcases a with a|a
  .have aj:=aa b i _i g?
   by_cases z:(result J).scalar=O
   .refine⟨n,H,λk D=>?_,r,C,.refl⟩
    grind[eP,sn]
   obtain⟨c__,-⟩:=I (d__.resolve_left z);have⟨p,q⟩:=B _ c__;refine⟨n,c9 H (dy (cE n H) ys),λk D=>?_,p,C,q⟩
   simp only[eP,s,qg,v?,M'];split
   next y hy=>have h9:=sn hy;rw[ab k D]at h9;grind
   grind
  have⟨n3,ae⟩:=Pw r g t o1 o2 a;have X:=HF l P E ae
  by_cases z:(result J).scalar=O
  .refine⟨max A n3,H,λk D=>?_,r,C,.refl⟩
   grind[eP]
  obtain⟨c__,-⟩:=I (d__.resolve_left z);have⟨p,q⟩:=B _ c__;refine⟨max n (max A n3),c9 H (dy (cE n H) ys),λk D=>?_,p,C,q⟩
  simp only[eP,s,qg,v?,M'];have h9:=X k c?
  grind
theorem Jr{α:Type}{k:Nat}{v:α}:∀{ds:ST}{g:Tb α},bh (rB ds g) k=M v->k∉ds
 |[],_,_=>f?|d::ds,g,h=>by have a:=Jr (ds:=ds) h;have u:=(mU (qA h)).1;grind
theorem yV:∀{args:aX SV} {ds:aX Nat},rowsOf m args=some ds->(∀d∈ds,∃k es xs,bh m d=some (.sl k es xs))/\∀(j:Nat) u,args[j]? = some u->(∃x,u=.v x)\/∃d,u=.own d/\d∈ds
 | [],_,h=>by cases h;simp
 | .v x::r,ds,h=>by
  obtain⟨h1,B⟩:=yV (args:=r) (by simpa [rowsOf]using h)
  refine⟨h1,λj u hu=>?_⟩
  cases j with
  | zero=>grind
  | succ j=>exact B j u g?
 | .own d::r,ds,h=>by
  simp only[rowsOf]at h;split at h
  .rename_i k es xs hd;obtain⟨z,h1,rfl⟩:=ζf.1 h;obtain⟨g1,g2⟩:=yV h1;refine⟨λw hd'=>?_,λj u hu=>?_⟩
   .rcases List.mem_cons.1 hd' with rfl|hd'
    .exact⟨_,_,_,hd⟩
    exact g1 w hd'
   cases j with
   | zero=>grind
   | succ j=>
    rcases g2 j u g? with k|⟨w,k1,k2⟩
    all_goals grind
  cases h
 | .ptr ..::_,_,h|.el ..::_,_,h|.mp _::_,_,h|.clo ..::_,_,h|.tup _::_,_,h|.agg _::_,_,h|.yl _::_,_,h=>by simp[rowsOf]at h
def Em{H0:bl}(hd:Deep H0 Z)(P:∀d ob,bh m d=M ob->eR ob=O->(H0[(ν d).1]?).isSome=O->ob.flat->dx ν m H0 Z d ob){args:R'}{ys:So}(T:ct ν m H0 Z args ys){ds:ST}(f:rowsOf m args=M ds)
 {q id:Nat}(h:id∈dy (cE q H0) ys):Z id\/∃d ob,d∈ds/\bh m d=M ob/\eR ob=O/\(ν d).1=id/\∃j es off len:Nat,ys[j]?=M (V.hsl id es off len):=by
 have⟨j,y,A,a⟩:=sw h;have Q:j<_j args:=by rw[T.1];grind
 have b:=ζd Q;have C:=T.2 j _ y b A;rcases(yV f).2 j _ b with⟨x,e⟩|⟨d,e,t⟩
 .rw[e]at C;cases C with|v _ _ hf=>grind[FR.cE]
 rw[e]at C;have⟨k,es,D,B⟩:=(yV f).1 d t;obtain⟨_,_,_,S,rfl⟩:=C.iq B;cases S
 by_cases w:b_ k=O
 .cases q with
  |zero=>grind[cE]|succ q=>
  have I:qf (ν d) k es (_j D)=.hsl (ν d).1 es (ν d).2 (_j D):=by cases k<;>first|rfl|cases w
  rw[I]at a;have W:eR (.sl k es D)=O:=w
  by_cases z:(H0[(ν d).1]?).isSome=O
  .have o:=P d _ B W z (lu f?)
   simp[dx,w]at o;have⟨n,g,_,_,X,_⟩:=o;simp only[cE,V.closed,v?,M',g,n8]at a;rcases a with rfl|a
   .grind
   have⟨i,u,b,Y⟩:=sw a;have⟨c,l,J⟩:=List.mem_flatten.1 (s? b);have⟨x,p⟩:=X c (List.mem_of_mem_drop (List.mem_of_mem_take l)) u J
   grind[FR.cE]
  grind[cE]
 have L:(qf (ν d) k es (_j D)).closed=O:=by cases k<;>first|rfl|(exact _c _i w)
 rw[Dj q H0 L]at a;cases a
theorem ZE (hS:jT S c) {ops:aX Oper} {place:aY (Nat×Nat)} {nw:Bool} (ai:∀b i,place=some (b,i)->nw=true->eo ops i=true)
 (hold:∀b i,place=some (b,i)->∀id,Z id->id<b)
 (r:R ν Z st F H) {args:aX SV} {ys:aX V} (q:ct ν st.m H Z args ys) {f:FuncId} (hk:S.E.keep f=false) {az:aX V} (hs:dz st.m 8 args=some az) (aj:(!place.isSome||nw)=true)
 {rs:aX SV} {m':dK} {D:aX V} (hc:c f (az.map .v) []=some (rs,m')) (J:dz m' 8 rs=some D) (ak:(result D).scalar=false) {ds:aX Nat} (hr:rowsOf st.m args=some ds) :
 ∃n H',(∀k,n<=k->eP S.E (run S.E k) ops place f ys H=some (result D,H'))/\R ν Z { st with m:=rB ds st.m } F H'/\dg ν (rB ds st.m) H' Z (.v (result D)) (result D)/\Ev Rv ν Z st H ν Z { st with m:=rB ds st.m } H':=by
 have hg:=Cn r.obj hs q;obtain⟨n1,rr,H2,h1,h2,h3⟩:=EP hS hg hc J;obtain⟨n2,W⟩:=AK r q hs;have B:=HF h1 h2 h3 W;generalize hn:max n1 n2=n at B;have I:=B;have al:∀k,n<=k->dy (cE k H) ys=dy (cE n H) ys:=λk hk=>B0 hk (W n c?)
 have L:∀{H'},dg ν (rB ds st.m) H' Z (.v (result D)) (result D):=.v _ _ (.same _ h3);have z:∀d ob,bh (rB ds st.m) d=some ob->bh st.m d=some ob:=λd ob h=>qA h
 have hT:∀id∈dy (cE n H) ys,Z id\/∃d ob,d∈ds/\bh st.m d=some ob/\eR ob=true/\(ν d).1=id/\∃j es off len:Nat,ys[j]? = some (V.hsl id es off len):=λid w=>Em r.deep (λd ob h _ _ _=>r.obj d ob h) q hr w
 have r2  := r.less (λ_ _ h=>h) z
 have q1  := r2.heap (λid X=>xo λw=>by
  obtain⟨d,ob,j,g1,g2,rfl⟩:=X;rcases hT _ w with h|⟨Y,g,k1,k2,k3,k4,_⟩
  .exact r.apart d ob j (z d ob g1) g2 h
  have:=(r.inj Y d g ob 0 j k2 (z d ob g1) k3 g2 k4).1
  grind[Jr]) (λid w=>tY r.zrow w)
 have q2:Ev Rv ν Z st H ν Z { st with m:=rB ds st.m } (c9 H (dy (cE n H) ys)):=(Ev.heap (by rw[nL];grind) (λid _ X J _=>xo λw=>by
  rcases hT _ w with h|⟨Y,g,k1,k2,k3,k4,_⟩
  .simp_all
  exact X ⟨Y,g,0,k2,k3,k4⟩) (λid w=>tY r.zrow w)).trans (Ev.less  z)
 cases place with
 | none=>exact⟨n,c9 H (dy (cE n H) ys),λk o=>by grind[eP,mO,qg],q1,L,q2⟩
 | some bi=>
  obtain⟨b,i⟩:=bi;have o2:=hold b i rfl;have fits:∀k,cu (run S.E k) f ys (H.take b)=some (result D)->j8 (H.take b) (dy (cE k (H.take b)) ys)=true/\dy (cE k H) ys=dy (cE k (H.take b)) ys:=λk hi=>by
   have C:∀id,Z id->Z id/\bn (H.take b) id=bn H id:=λid h=>⟨h,pM (o2 id h)⟩
   have hd:Deep (H.take b) Z:=⟨λid es ys J hr c hc u hu=>by
    rw[(C id J).2]at hr;obtain⟨x,hx⟩:=r.deep.row id es ys J hr c hc u hu;exact⟨x,hx.mono C⟩⟩
   have aa  := q.mono C λe _=>j9 ν st.m e
   have ab:∀d ob,bh st.m d=some ob->eR ob=true->((H.take b)[(ν d).1]?).isSome=true->ob.flat->dx ν st.m (H.take b) Z d ob:=λd ob h W ad ae=>
    dx.mono C rfl (λj hj=>by
     have:=ae j hj;subst this;simp only[Nu.at]
     grind) (λe _=>j9 ν st.m e) (r.obj d ob h)
   have Q:∀(j:Nat) (y:V),ys[j]? = some y->(borrow k (H.take b) y).isSome=true:=λj y T=>by
    unfold cu at hi;rw[qg]at hi;split at hi
    .rename_i af ah;obtain⟨_,hm⟩:=ki ah;have hj:=(ζe.1 T).1;obtain⟨x,am,an⟩:=hm j _ (ζd (show j<af.length by omega))
     grind
    cases hi
   have hZ:∀id∈dy (cE k (H.take b)) ys,id<b/\(bn (H.take b) id).isSome=true:=λid w=>by
    rcases Em hd ab aa hr w with h|⟨d,ob,k1,k2,k3,k4,j,es,off,len,T⟩
    .have:=r.zrow id h
     grind
    have ao:=Q j _ T
    cases k with
    | zero=>grind[borrow,V.closed]
    | succ k=>
    grind[borrow,V.closed,bn]
   refine⟨?_,wV _ λid w=>(hZ id w).1⟩
   unfold j8;rw[List.all_eq_true];exact λid w=>(hZ id w).2
  refine⟨n,c9 H (dy (cE n H) ys),λk o=>?_,q1,L,q2⟩
  simp only[eP,mO,hk,qg,Bool.false_and,Bool.false_eq_true,M'];split
  next y T=>have h9:=sn T;rw[I k o]at h9;grind
  grind
def NH{xs ys:S'}(h:gN H Z xs ys)(B:lM xs=O):ys=xs:=by
 refine(List.ext_getElem h.1 λj a z=>?_).symm;have:=h.2 j _ _ (ζd a) (ζd z);have w:=by unfold lM at B;rw[M?]at B;have:=B _ (List.getElem_mem a);rw[M?]at this;exact tT.2 λk u b=>this u (s? b)
 exact(this.scalar.1 w).symm
def Gi:∀{B:ST}{os:Tb bD}{g:Tb bD},l8 g B=M os->∀k ob,bh os k=M ob->bh g k=M ob
 |[],os,g,h,k,ob,hk=>by grind[l8,bh]|n::r,os,g,h,k,ob,hk=>by simp only[l8]at h;split at h;rename_i v t a D;cases h;simp only[bh]at hk;split at hk;grind;exact Gi D k ob hk;cases h
def Ns{args:R'}{os:dK}(h:handed m args=M os):∀k ob,bh os k=M ob->bh m k=M ob:=Gi h
mutual
def Vy{d:Nat}:∀{x:SV},x.cR d=O->d∈x.CF
 |.v _,h=>by simp[SV.cR]at h|.own e,h|.ptr e _,h|.el e _ _,h|.mp e,h=>by simp[SV.cR]at h;simp[SV.CF,h]|.clo _ a b,h=>by simp only[SV.cR,g!]at h;simp only[SV.CF,List.mem_append];rcases h with h|h;exact .inl (xY h);exact .inr (xY h)
 |.tup l,h|.agg l,h=>by simp only[SV.cR]at h;simp only[SV.CF];exact xY h|.yl _,h=>by simp[SV.cR]at h
def xY{d:Nat}:∀{l:R'},SV.dL d l=O->d∈SV.uM l
 |[],h=>by simp[SV.dL]at h|x::r,h=>by simp only[SV.dL,g!]at h;simp only[SV.uM,List.mem_append];rcases h with h|h;exact .inl (Vy h);exact .inr (xY h)
end
def Ng{D:ST}{ob:bD}(h:within D ob=O){e:Nat}(B:ob.cR e=O):e∈D:=by cases ob with|box cs=>unfold within at h;rw[M?]at h;simpa using h e (xY B)|sl k es u=>grind[bD.cR]|mp z=>grind[bD.cR]|dp k u w=>rcases w with _|⟨i,t⟩;cases B;simp only[bD.cR,_g]at B;subst B;simpa[within,bD.CF]using h
def Gz{B:ST}:∀{l:ST}{a b:Tb bD},zX B m' l a=M b->(∀k∈l,bh b k=bh m' k/\∃ob,bh m' k=M ob/\within B ob=O)/\∀k,k∉l->bh b k=bh a k
 |[],a,b,h=>by grind[zX]|d::r,a,b,h=>by simp[zX]at h;split at h;rename_i ob D;split at h;rename_i hp;have⟨e,J⟩:=Gz h;refine⟨λk c=>?_,λk c=>?_⟩;grind[cA];simp_all[cU,Ne.symm];grind;grind
def J5{l:ST}{a b:Tb bD}(h:lY m' l a=M b):(∀k∈l,bh b k=bh m' k/\∃ob,bh m' k=M ob/\within l ob=O)/\∀k,k∉l->bh b k=bh a k:=Gz h
theorem mem_keys:∀{os:dK}{k:Nat},k∈os.map (·.1)↔∃ob,bh os k=M ob
 |[],k=>by simp[bh]|(d,o)::os,k=>by simp[bh];by_cases e:d=k;simp_all;rw[K' e,<-mem_keys];grind
def wH:∀{l:R'}{j:Nat}{u:SV},SV.zZ l=O->l[j]?=M u->u.bare=O
 |[],j,u,h,B=>by simp at B|x::r,j,u,h,B=>by simp only[SV.zZ,ζh]at h;cases j with|zero=>grind|succ j=>exact wH h.2 (by simpa using B)
theorem dg.bare {Z2:Nat->Prop} {sv:SV} {y:V} (r:dg ν m H Z sv y):sv.bare=true->dg ν m H Z2 sv y:=by
 induction r with
 | v x y h=>
  intro z;have z:x.scalar=true:=z;rw[(h.scalar.1 z)];exact .v _ _ (.same _ (lI z))
 | own d y h=>intro _;exact .own d y h
 | ptr d o y h=>intro _;exact .ptr d o y h
 | el d i o y h=>intro _;exact .el d i o y h
 | mp d y h=>intro _;exact .mp d y h
 | clo f a b B g C z hva I w D=>
  intro h;simp only[SV.bare,ζh]at h;exact .clo f a b B g C z (λj u v hu hv=>w j u v hu hv (wH h.1 hu)) λj u v hu hv=>D j u v hu hv (wH h.2 hu)
 | tup a B C hva w=>intro h;exact .tup a B C λj u v hu hv=>w j u v hu hv (wH h hu)
 | agg a B C hva w=>intro h;exact .agg a B C λj u v hu hv=>w j u v hu hv (wH h hu)
 | yl id=>intro _;exact .yl id
def dx.bare{Z2:Nat->Prop}{d:Nat}{ob:bD}(B:∀e,ν' e=ν e)(h:ob.bare=O)(o:dx ν m H Z d ob):dx ν' m H Z2 d ob:=by cases ob with|box cs=>have⟨es,w,b,C,D⟩:=o;exact⟨es,w,by rw[B];exact b,⟨C.1,λj u v a c=>((C.2 j u v a c).bare (Z2:=Z2) (wH h a)).mono (λid h=>⟨h,rfl⟩) λe _ z h=>⟨z,h,B e,.refl _⟩⟩,D⟩|sl k es I=>cases h|mp g=>cases h|dp _ _ _=>cases h
def Ag(hS:jT S c){f:Y'}(ar:S.E.keep f=O)(r:R ν Z st F H){args:R'}{ys:So}(ha:ct ν st.m H Z args ys){os:dK}(hh:handed st.m args=M os)
 {rs:R'}{m':dK}{T:Tb bD}(hc:c f args os=M (rs,m'))(p:lY m' (os.map (·.1)) st.m=M T):
 ∃n H' d__ Z' J F1 E ν2,(∀k,n<=k->run S.E k (.fn f) ys H=M (result E,H'))/\J.m=m'/\ct d__ m' H' Z' rs E/\R d__ Z' J F1 H'/\(∀e ob,bh m' e=M ob->e∉os.map (·.1)->eR ob=O->¬fU ν2 T (d__ e).1/\(fU ν st.m (d__ e).1\/_j H<=(d__ e).1))/\(∀e,ν2 e=ν e)/\
  R ν2 Z' {st with m:=T} F H'/\Ev Rv ν Z st H ν2 Z' {st with m:=T} H'/\(∀e l?,bh T e=M l?->∃ob,bh st.m e=M ob/\ν e=ν e/\sameShape ob l?)/\
  ((∀k∈os.map (·.1),A8 T k=O)->R ν Z {st with m:=T} F H'/\Ev Rv ν Z st H ν Z {st with m:=T} H'/\∀dst,Kept dst ν st.m ν T):=by
 have z:=Ns hh;have al:=ha.mono (λid h=>⟨h,_i⟩) λe _ l? h=>⟨l?,z e l? h,_i,.refl _⟩
 have r0:R ν Z (start args os) ys H:=by refine⟨AI al,λd ob hd=>?_,λd d' ob l? j j' a B=>r.inj d d' ob l? j j' (z d ob a) (z d' l? B),λd ob j h=>r.apart d ob j (z d ob h),r.zrow,r.deep⟩;exact dx.mono (λid h=>⟨h,_i⟩) _i (λ_ _=>rfl) (λe _ l? h=>⟨l?,z e l? h,_i,.refl _⟩) (r.obj d ob (z d ob hd))
 obtain⟨n,y,H',d__,Z',J,F1,E,e1,rfl,rfl,e2,e3,ev⟩:=hS f args os rs m' hc ν Z ys H (.inl ar) r0 al;have⟨b1,b2⟩:=J5 p;have am:∀k l?,k∈os.map (·.1)->bh J.m k=M l?->∃ob,bh os k=M ob/\d__ k=ν k/\sameShape ob l?:=λk l? l h=>ev.pin k l l? h
 have I:∀id,fU ν os id->fU ν st.m id:=λid⟨k,o,j,a,B,C⟩=>⟨k,o,j,z k o a,B,C⟩
 have L:∀k l?,bh T k=M l?->∃ob,bh st.m k=M ob/\sameShape ob l?/\(k∈os.map (·.1)/\bh J.m k=M l?/\d__ k=ν k/\within (os.map (·.1)) l?=O\/k∉os.map (·.1)/\l?=ob):=λk l? h=>by by_cases l:k∈os.map (·.1);grind;rw[b2 k l]at h;exact⟨l?,h,.refl _,.inr ⟨l,_i⟩⟩
 have u:∀k ob j,k∉os.map (·.1)->bh st.m k=M ob->ob.pt j=O->H'[ν.at k j]?=H[ν.at k j]?/\¬Z' (ν.at k j)/\¬fU d__ J.m (ν.at k j):=λk ob j l h D=>by
  have N:¬fU ν os (ν.at k j):=by rintro⟨k2,o2,Q,g1,g2,g3⟩;have:=(r.inj k2 k o2 ob Q j (z k2 o2 g1) h g2 D g3).1;grind[mem_keys]
  have au:=r.lt ⟨k,ob,j,h,D,_i⟩;have av:=r.apart k ob j h D;refine⟨ev.same _ au N av (λh=>h),λaw=>?_,λP=>?_⟩
  .rcases ev.frz _ aw with h|h|h|h;simp_all;exact N h;all_goals grind
  rcases ev.own _ P with h|h|h;exact N h;exact h;have h:_j H<=ν.at k j:=h;omega
 have q:∀e l?,bh T e=M l?->∃ob,bh st.m e=M ob/\ν e=ν e/\sameShape ob l?:=λe l? h=>by grind
 let ν2:Nu:=⟨ν.pl,λk=>if k∈os.map (·.1)then d__.inn k else ν.inn k⟩
 have an:∀k,k∈os.map (·.1)->ν2.inn k=d__.inn k:=λk h=>J0 h
 have ad:∀k,k∉os.map (·.1)->ν2.inn k=ν.inn k:=λk h=>K' h
 have W:∀k,k∈os.map (·.1)->d__ k=ν k->∀j,ν2.at k j=d__.at k j:=λk l h j=>by cases j with|zero=>exact _d fst h.symm|succ i=>exact congrFun (an k l) i
 have c__:∀k,k∉os.map (·.1)->∀j,ν2.at k j=ν.at k j:=λk l j=>by cases j with|zero=>rfl|succ i=>exact congrFun (ad k l) i
 have ae:∀b g o1 o2 b__ Q,bh T b=M o1->bh T g=M o2->o1.pt b__=O->o2.pt Q=O->ν2.at b b__=ν2.at g Q->b=g/\b__=Q:=λb g o1 o2 b__ Q a B k1 k2 hp=>by have⟨p1,g1,s1,c1⟩:=L b o1 a;have⟨p2,g2,s2,c2⟩:=L g o2 B;rcases c1 with⟨w,X,Y,-⟩|⟨w,rfl⟩<;>rcases c2 with⟨t,v,u3,-⟩|⟨t,rfl⟩;rw[W b w Y,W g t u3]at hp;exact e3.inj b g o1 o2 b__ Q X v k1 k2 hp;rw[W b w Y,c__ g t]at hp;exact _c ⟨b,o1,b__,X,k1,hp⟩ (u g o2 Q t g2 k2).2.2;rw[c__ b w,W g t u3]at hp;exact _c ⟨g,o2,Q,v,k2,hp.symm⟩ (u b o1 b__ w g1 k1).2.2;rw[c__ b w,c__ g t]at hp;exact r.inj b g o1 o2 b__ Q g1 g2 k1 k2 hp
 have ao:∀b o1 b__,bh T b=M o1->o1.pt b__=O->¬Z' (ν2.at b b__):=λb o1 b__ a k1=>by obtain⟨p1,g1,s1,⟨w,X,Y,-⟩|⟨w,rfl⟩⟩:=L b o1 a;rw[W b w Y];exact e3.apart b o1 b__ X k1;rw[c__ b w];exact(u b o1 b__ w g1 k1).2.1
 have aa:∀id,id<_j H->¬fU ν st.m id->¬Z id->¬Rv id->H'[id]?=H[id]?:=λid hl P hz _=>ev.same id hl (λh=>P (I id h)) hz (λh=>h)
 have af:∀id,fU ν2 T id->fU ν st.m id\/Rv id\/_j H<=id:=by rintro id ⟨k,o,j,a,B,C⟩;obtain⟨ob,g1,s1,⟨w,X,Y,-⟩|⟨w,rfl⟩⟩:=L k o a;rw[W k w Y]at C;rcases ev.own id ⟨k,o,j,X,B,C⟩with h|h|h;exact .inl (I id h);exact h.elim;exact .inr (.inr h);rw[c__ k w]at C;exact .inl ⟨k,o,j,g1,B,C⟩
 have aj:∀id,Z id->Z id/\bn H' id=bn H id:=λid h=>⟨h,(ev.rows id h).2⟩
 have ah:∀k l?,k∈os.map (·.1)->bh J.m k=M l?->d__ k=ν k->within (os.map (·.1)) l?=O->dx ν2 T H' Z' k l?:=λk l? w X Y x=>by refine dx.mono (λid h=>⟨h,_i⟩) Y.symm (λ_ _=>rfl) (λe K ak B=>?_) (e3.obj k l? X) (an k w);have hm:=Ng x K;have⟨t,aA,v,_⟩:=b1 e hm;rw[t,v]at B;cases B;have⟨_,_,u4,_⟩:=am e ak hm v;exact⟨ak,v,u4.symm,.refl _⟩
 refine⟨n,H',d__,Z',J,F1,E,ν2,λk l=>(qT S.E l).go _ _ _ _ e1,_i,e2,e3,λe ob K ax D=>?_,λ_=>rfl,⟨λs sv hs=>(r.slot s sv hs).mono ev.rows λe _=>q e,λk l? h=>?_,ae,ao,e3.zrow,e3.deep⟩,⟨ev.len,aa,ev.rows,af,?_,λe _=>q e,_i⟩,q,λap=>?_⟩
 .have aq:fU d__ J.m (d__ e).1:=⟨e,ob,0,K,D,_i⟩;refine⟨?_,(ev.own _ aq).imp (I _) λh=>h.elim (λh=>h.elim) λh=>h⟩
  rintro⟨k2,o2,Q,a,B,C⟩;obtain⟨p1,g1,s1,⟨w,X,Y,-⟩|⟨w,rfl⟩⟩:=L k2 o2 a
  .rw[W k2 w Y]at C;have:=(e3.inj k2 e o2 ob Q 0 X K B D C).1;subst this;exact ax w
  rw[c__ k2 w]at C;exact(u k2 o2 Q w g1 B).2.2 (C▸aq)
 .obtain⟨ob,a,B,⟨w,X,Y,x⟩|⟨C,rfl⟩⟩:=L k l? h
  .exact ah k l? w X Y x
  exact dx.mono (ν:=ν) (ν':=ν2) ev.rows _i (λj D=>(u k l? j C a D).1) (λe _=>q e) (r.obj k l? a) (ad k C)
 .intro id h;rcases ev.frz id h with h|h|h|h
  .exact .inl h
  .exact .inr (.inl (I id h))
  all_goals grind
 have A:∀k l? j,bh T k=M l?->l?.pt j=O->ν.at k j=ν2.at k j/\∃ob,bh st.m k=M ob/\sameShape ob l?/\ob.pt j=O:=λk l? j h a__=>by
  obtain⟨ob,a,B,⟨w,X,Y,x⟩|⟨C,rfl⟩⟩:=L k l? h
  .have p:=ap k w;unfold A8 at p;rw[h]at p;have ay:∃cs,l?=.box cs:=(by cases l?<;>first|exact⟨_,rfl⟩|cases p);obtain⟨cs,rfl⟩:=ay;have:=lu (ob:=.box cs) f? j a__;subst this;refine⟨_i,ob,a,B,?_⟩;cases ob<;>first|rfl|cases B
  exact⟨(c__ k C j).symm,l?,a,.refl _,a__⟩
 refine⟨⟨λs sv hs=>(r.slot s sv hs).mono aj λe _=>q e,λk l? h=>?_,λb g o1 o2 b__ Q a B k1 k2 hp=>ae b g o1 o2 b__ Q a B k1 k2 (by rw[<-(A b o1 b__ a k1).1,<-(A g o2 Q B k2).1];exact hp),λb o1 b__ a k1 hz=>ao b o1 b__ a k1 (by rw[<-(A b o1 b__ a k1).1];exact(ev.rows _ hz).1),λid h=>by rw[(ev.rows id h).2];exact r.zrow id h,r.deep.mono λid h=>(ev.rows id h).2⟩,
  ⟨ev.len,aa,aj,λid⟨k,o,j,a,B,C⟩=>af id ⟨k,o,j,a,B,by rw[<-(A k o j a B).1];exact C⟩,λid h=>.inl h,λe _=>q e,_i⟩,λdst e l? _ h=>?_⟩
 .obtain⟨ob,a,B,⟨w,X,Y,x⟩|⟨C,rfl⟩⟩:=L k l? h
  .have p:=ap k w;unfold A8 at p;rw[h]at p;exact dx.bare (ν:=ν2) (Z:=Z') (λ_=>rfl) p (ah k l? w X Y x)
  exact dx.mono aj _i (λj D=>(u k l? j C a D).1) (λe _=>q e) (r.obj k l? a)
 have⟨ob,a,B,C⟩:=q e l? h;refine⟨ob,a,_i,C,λj a__=>?_⟩
 have⟨_,ak,g1,_,g3⟩:=A e l? j h a__;rw[a]at g1;cases g1;exact⟨g3,_i⟩
def ZL(a:jT S c){f:Y'}(J:S.E.keep f=O)(r:R ν Z st F H){args:R'}{ys:So}(T:ct ν st.m H Z args ys){os:dK}(h:handed st.m args=M os)
 {rs:R'}{m':dK}{B:So}{D:Tb bD}(b:c f args os=M (rs,m'))(j:dw rs=M B)(i:lY m' (os.map (·.1)) st.m=M D):
 ∃n y H' ν' Z',(∀k,n<=k->run S.E k (.fn f) ys H=M (y,H'))/\R ν' Z' {st with m:=D} F H'/\dg ν' D H' Z' (.v (result B)) y/\Ev Rv ν Z st H ν' Z' {st with m:=D} H':=by
 have⟨n,H',L,Z',C,F1,w,ν2,e1,_,e2,_,_,_,g1,g2,_,_⟩:=Ag (Rv:=Rv) a J r T h b i;refine⟨n,result w,H',ν2,Z',e1,g1,?_,g2⟩;have u:=e2.dw j;have:FR H' Z' (result B) (result w):=by cases B with|nil=>rw[u.dm];exact .same _ Y|cons x z=>obtain⟨y,d,rfl,g1,g2⟩:=u.inv;cases z with|nil=>rw[g2.dm];exact g1|cons x2 z=>obtain⟨g,I,rfl,g3,g4⟩:=g2.inv;exact .tup _ _ u.1 u.2
 exact .v _ _ this
def AP{ys:So}(h:V.c6 ys=O):(result ys).scalar=O:=by cases ys with|nil=>rfl|cons a l=>cases l with|nil=>simp only[V.c6,ζh]at h;exact h.1|cons b l=>grind[result,V.scalar]
def Yi(a:jT S c){f:Y'}(J:S.E.keep f=true)(r:R ν Z st F H){args:R'}{ys:So}(W:ct ν st.m H Z args ys){os:dK}(Y:handed st.m args=some os)
 {rs:R'}{m':dK}{D:So}{B:Tb bD}(b:c f args os=some (rs,m'))(d:dw rs=some D)(e:lY m' (os.map (·.1)) st.m=some B)(g:V.c6 D=true)(T:∀k∈os.map (·.1),A8 B k=true):
 ∃n H',(∀k,n<=k->run S.E k (.fn f) ys H=some (result D,H'))/\R ν Z {st with m:=B} F H'/\dg ν B H' Z (.v (result D)) (result D)/\Ev Rv ν Z st H ν Z {st with m:=B} H'/\∀dst,Kept dst ν st.m ν B:=by
 obtain⟨n,H',z,Z',u,F1,C,ν2,e1,_,e2,_,_,_,_,_,_,g4⟩:=Ag (Rv:=Rv) a J r W Y b e;obtain⟨g1,g2,g3⟩:=g4 T;have w:=(e2.dw d).scalar.1 g;subst w;exact⟨n,H',e1,g1,.v _ _ (.same _ (lI (AP g))),g2,g3⟩
def YU(i:jT S c){f:Y'}(W:S.E.keep f=O)(r:R ν Z st F H){args:R'}{ys:So}(Y:ct ν st.m H Z args ys){os:dK}(j:handed st.m args=M os)
 {h?:R'}{m':dK}{d__:So}{D:Tb bD}{e t es:Nat}{k:Fl}{xs:S'}(l:c f args os=M (.own e::h?,m'))(q:dw h?=M d__)(s:lY m' (os.map (·.1)) st.m=M D)
 (J:bh m' e=M (.sl k es xs))(T:e∉os.map (·.1))(B:St.new {st with m:=D} t=O):
 ∃n y H' ν' Z',(∀k,n<=k->run S.E k (.fn f) ys H=M (y,H'))/\R ν' Z' {st with m:=bE D t (.sl k es xs)} F H'/\dg ν' (bE D t (.sl k es xs)) H' Z' (zR (.own t::d__.map .v)) y/\Ev Rv ν Z st H ν' Z' {st with m:=bE D t (.sl k es xs)} H':=by
 obtain⟨n,H',I,Z',X,F1,P,ν2,e1,rfl,e2,e3,a,L,g1,g2,g3,_⟩:=Ag (Rv:=Rv) i W r Y j l s;obtain⟨w,c__,rfl,v,A⟩:=e2.inv;have o:=e3.obj e _ J;have E:=g1.add B (ob:=.sl k es xs) (p:=I e) (λz=>⟨(a e _ J T z).1,e3.apart e _ 0 J z⟩) (by
  grind[dx,jh])
 have b:dg (iN ν2 t (I e)) (bE D t (.sl k es xs)) H' Z' (.own t) w:=by refine .own _ _ λu Q=>?_;rw[cA]at Q;cases Q;obtain⟨_,_,_,K,rfl⟩:=v.iq J;cases K;exact⟨_,_,_,_i,by rw[jh]⟩
 have⟨a__,n2,n3,n4⟩:=lV B;refine⟨n,result (w::c__),H',iN ν2 t (I e),Z',e1,E,?_,⟨g2.len,g2.same,g2.rows,?_,g2.frz,?_,g2.pins⟩⟩
 .have b__:=A.dw q
  cases d__ with
  |nil=>rw[b__.dm];exact b|cons x d__=>obtain⟨y,aa,rfl,_,_⟩:=b__.inv;exact .tup _ _ (by have:=b__.1;grind) (ct.cons b (ct.tE b__)).2
 .intro id h;rcases D_ h with h|⟨g,rfl⟩
  .exact g2.own id h
  exact(a e _ J T g).2.imp (λh=>h) .inr
 intro d hd u h;have C:d≠t:=λe=>a__ (e▸hd)
 have h:bh (bE D t (.sl k es xs)) d=M u:=h;rw[cU _ _ (Ne.symm C)]at h;have⟨ob,g,_,N⟩:=g3 d u h;exact⟨ob,g,by rw[DN _ _ C,L],N⟩
def VZ(i:jT S c){f:Y'}(d__:S.E.keep f=O)(r:R ν Z st F H){args:R'}{ys:So}(j:ct ν st.m H Z args ys){os:dK}(l:handed st.m args=M os)
 {p:V}{h?:R'}{m':dK}{W:So}{B:Tb bD}{e t es:Nat}{k:Fl}{xs:S'}(q:c f args os=M (.v p::.own e::h?,m'))(s:dw h?=M W)(x:lY m' (os.map (·.1)) st.m=M B)
 (J:bh m' e=M (.sl k es xs))(T:e∉os.map (·.1))(D:St.new {st with m:=B} t=O):
 ∃n y H' ν' Z',(∀k,n<=k->run S.E k (.fn f) ys H=M (y,H'))/\R ν' Z' {st with m:=bE B t (.sl k es xs)} F H'/\dg ν' (bE B t (.sl k es xs)) H' Z' (.tup (.v p::.own t::W.map .v)) y/\Ev Rv ν Z st H ν' Z' {st with m:=bE B t (.sl k es xs)} H':=by
 obtain⟨n,H',b__,Z',aa,F1,ws,ν2,e1,rfl,e2,e3,a,I,g1,g2,g3,_⟩:=Ag (Rv:=Rv) i d__ r j l q x;obtain⟨Q,ab,rfl,A,L⟩:=e2.inv;obtain⟨w,c__,rfl,E,K⟩:=L.inv;have o:=e3.obj e _ J;have a__:=g1.add D (ob:=.sl k es xs) (p:=b__ e) (λz=>⟨(a e _ J T z).1,e3.apart e _ 0 J z⟩) (by
  grind[dx,jh])
 have b:dg (iN ν2 t (b__ e)) (bE B t (.sl k es xs)) H' Z' (.own t) w:=by refine .own _ _ λu X=>?_;rw[cA]at X;cases X;obtain⟨_,_,_,N,rfl⟩:=E.iq J;cases N;exact⟨_,_,_,_i,by rw[jh]⟩
 have⟨P,n2,n3,n4⟩:=lV D;refine⟨n,result (Q::w::c__),H',iN ν2 t (b__ e),Z',e1,a__,?_,⟨g2.len,g2.same,g2.rows,?_,g2.frz,?_,g2.pins⟩⟩
 .have Y:=K.dw s;have h0:dg (iN ν2 t (b__ e)) (bE B t (.sl k es xs)) H' Z' (.v p) Q:=by
   cases A with
   |v _ _ h=>exact .v _ _ h
  exact .tup _ _ (by have:=Y.1;grind) (ct.cons h0 (ct.cons b (ct.tE Y))).2
 .intro id h;rcases D_ h with h|⟨g,rfl⟩
  .exact g2.own id h
  exact(a e _ J T g).2.imp (λh=>h) .inr
 intro d hd u h;have C:d≠t:=λe=>P (e▸hd)
 have h:bh (bE B t (.sl k es xs)) d=M u:=h;rw[cU _ _ (Ne.symm C)]at h;have⟨ob,g,_,h3⟩:=g3 d u h;exact⟨ob,g,by rw[DN _ _ C,I],h3⟩
def UA(a:jT S c){f:Y'}{az:So}{rs:R'}{m':dK}(b:V.cN az=O)(h:c f (az.map .v) []=M (rs,m')):
 ∃n H2 ν' Z' e? F' ys,(∀k,n<=k->run S.E k (.fn f) az []=M (result ys,H2))/\e?.m=m'/\ct ν' m' H2 Z' rs ys/\R ν' Z' e? F' H2:=by
 have⟨u,r1⟩:=Cy b;obtain⟨n,y,H2,ν',Z',e?,F',w,d,rfl,z,B,C,_⟩:=a f _ _ _ _ h _ _ az [] (.inr Y) u r1;exact⟨n,H2,ν',Z',e?,F',w,λk e=>(qT S.E e).go _ _ _ _ d,z,B,C⟩
def PF{ys:So}(h:V.c6 ys=O):V.c6 (.bG::ys)=O/\V.c6 (.dN::ys)=O:=by grind[V.c6,V.scalar]
def ct.abb{ys:So}(h:V.cN ys=O):ct ν m H Z (ys.map .v) ys:=ct.tE (dJ.same h)
def TW(s:jT S c)(hP:∀f q,S.prm f=some q->pJ S.E f q){ops:R0}{place:aY (Nat×Nat)}{dr nw:X'}{fr:ST}(d__:dr=place.isSome)(T:∀b i,place=some (b,i)->nw=true->eo ops i=true)(ak:∀b i,place=some (b,i)->nw=false->eo ops i=false)
 (g:∀b i,place=some (b,i)->(∀d ob j,bh st.m d=some ob->ob.pt j=true->d∉fr->ν.at d j<b)/\∀id,Z id->id<b)
 (r:R ν Z st F H){args:R'}{ys:So}(W:ct ν st.m H Z args ys){f:Y'}{dst:aY Nat}{sv:SV}(h:eU S c dst dr (!dr||nw) (e_ st.m fr) f args st=some (sv,e?)):
 ∃n y H' ν' Z',(∀k,n<=k->eP S.E (run S.E k) ops place f ys H=some (y,H'))/\R ν' Z' e? F H'/\dg ν' e?.m H' Z' sv y/\Ev Rv ν Z st H ν' Z' e? H'/\(dr=true->Z'=Z/\Kept dst ν st.m ν' e?.m):=by
 unfold eU at h;split at h
 .rename_i A;split at h
  .have C:∀{q:d_}{y:V}{H':bl},h_ S.E q f ys H=some (y,H')->eP S.E q ops place f ys H=some (y,H'):=λ{q y H'}hd=>by
    unfold eP
    cases place with
    |none=>rw[J0 (by grind[mO])];omega|some bi=>
     obtain⟨b,i⟩:=bi;have aH:=d__;have aI:=T b i rfl g?
     rw[J0 (by grind[mO])]
     grind
   split at h
   .
    rename_i ab;split at h
    .rename_i az hs;have hg:=Cn r.obj hs W;obtain⟨nb,x⟩:=AK r W hs;split at h
     .rename_i rs m' hc;obtain⟨na,H2,ν2,Z2,st2,F2,X,ax,rfl,e3,e4⟩:=UA s hg hc;obtain⟨n,ay,aJ⟩:∃n,na<=n/\nb<=n:=⟨max na nb,p! ..,n! ..⟩;have e1:=λk(A:n<=k)=>ax k (U? ay A)
      have L:∀k,n<=k->∀{o:aY (V×bl)},(if(result X).scalar then some (result X,H)else
       match result X with
       |.hsl id es off len=>(vP H.length H2 id es off len).map λ(v,ob)=>(v,H++[ob])|.tup (.hsl id es off len::h?)=>if V.c6 h? then(vP H.length H2 id es off len).map λ(v,ob)=>(.tup (v::h?),H++[ob])else none|_=>none)=o->h_ S.E (run S.E k) f ys H=o:=λk D o a__=>by
       unfold h_ oq;rw[J0 ab]
       grind[qg]
      have al:∀b__:So,(result b__).scalar=true->result X=result b__->sv=.v (result b__)->e?=st->∃n y H' ν' Z',(∀k,n<=k->eP S.E (run S.E k) ops place f ys H=some (y,H'))/\R ν' Z' e? F H'/\dg ν' e?.m H' Z' sv y/\Ev Rv ν Z st H ν' Z' e? H'/\(dr=true->Z'=Z/\Kept dst ν st.m ν' e?.m):=by rintro b__ N h2 rfl rfl;exact⟨n,result b__,H,ν,Z,λk D=>C (L k D (by rw[h2,J0 N])),r,.v _ _ (.same _ (lI N)),.refl,λ_=>⟨rfl,.refl⟩⟩
      have emp:∀(k:Fl)(es:Nat)(b__:So)(h?:R'),V.c6 b__=true->∀t,st.new t=true->∀w:V,(k=.nil/\w=.bG\/k=.emp/\w=.dN)->result (w::b__)=result X->dst=some t->sv=zR (.own t::b__.map .v)->e?={st with m:=bE st.m t (.sl k es [])}->
       ∃n y H' ν' Z',(∀k,n<=k->eP S.E (run S.E k) ops place f ys H=some (y,H'))/\R ν' Z' e? F H'/\dg ν' e?.m H' Z' sv y/\Ev Rv ν Z st H ν' Z' e? H'/\(dr=true->Z'=Z/\Kept dst ν st.m ν' e?.m):=by
       rintro k es b__ h? Y t c__ w hw am rfl rfl rfl;have aK:b_ k=false:=by rcases hw with⟨rfl,_⟩|⟨rfl,_⟩<;>rfl
       have l:dg (iN ν t (0,0)) (bE st.m t (.sl k es [])) H Z (.own t) w:=by refine .own _ _ λad E=>?_;rw[cA]at E;cases E;exact⟨_,_,_,rfl,by rcases hw with⟨rfl,rfl⟩|⟨rfl,rfl⟩<;>rfl⟩
       have an:(result (w::b__)).scalar=true:=AP (by rcases hw with⟨_,rfl⟩|⟨_,rfl⟩;all_goals simp_all[PF])
       refine⟨n,result (w::b__),H,iN ν t (0,0),Z,λk D=>C (L k D (by rw[<-am,J0 an])),r.add c__ (λx=>by grind[eR]) (by grind[dx]),?_,
        Ev.add c__ (z? _) (λ_ _ _=>rfl) (λ_ _=>rfl) (λx=>by grind[eR]),λ_=>⟨rfl,Kept.add λ_ _ h=>h⟩⟩
       cases b__ with
       |nil=>exact l|cons z b__=>exact .tup _ _ f? (ct.cons l (ct.abb (rQ Y))).2
      split at h
      .rename_i b__ J;split at h
       next Y=>simp at h;exact al b__ Y ((JV (e3.dw J)).1 Y) h.1.symm h.2.symm
       simp at h
      split at h
      .rename_i e h? t _;obtain⟨w,X,rfl,g1,g2⟩:=e3.inv;split at h
       .
        rename_i es xs b__ Q J;split at h
        .rename_i B;simp at B;obtain⟨⟨c1,P⟩,c__⟩:=B;simp at h;obtain⟨rfl,rfl⟩:=h;have o:=e4.obj e _ Q;simp only[dx,L']at o;obtain⟨rows,hr,aL,hf,aF,ao⟩:=o;obtain⟨q1,q2⟩:=ao trivial;have ae:=by
          have:=NH hf P;rw[q1,L!,<-q2,H?]at this;exact this
         subst ae;obtain⟨_,_,_,K,rfl⟩:=g1.iq Q;cases K;have I:=(g2.dw J).scalar.1 c1;subst I;have aM:vP H.length H2 (ν2 e).1 es 0 rows.length=some (.hsl H.length es 0 rows.length,.row es rows):=by grind[vP,lM]
         have hH:∀id,id<H.length->(H++[Ob.row es rows])[id]?=H[id]?:=λid hl=>u? hl
         have ap:∀id,Z id->bn (H++[Ob.row es rows]) id=bn H id:=λid J=>by unfold bn;rw[hH id (r.xT J)]
         have r2:=r.heap (λid a__=>hH id (r.lt a__)) ap
         have aA:V.pg rows=true:=by refine mN.2 λj u hu=>?_;unfold lM at P;rw[M?]at P;have:=P u (s? hu);rw[M?]at this;grind[iY,lI]
         have hR:=r2.add (ob:=.sl .row es rows) (p:=(H.length,0)) c__ (λ_=>⟨λa__=>_c (r.lt a__) f?,λJ=>_c (r.xT J) f?⟩) (by
          simp only[dx,jh];refine⟨rows,f?,f?,?_,(gN.same aA).B1,λ_=>⟨trivial,rfl⟩⟩
          rw[L!,H?]
          grind[gN.same])
         have l:dg (iN ν t (H.length,0)) (bE st.m t (.sl .row es rows)) (H++[Ob.row es rows]) Z (.own t) (.hsl H.length es 0 rows.length):=by refine .own _ _ λad E=>?_;rw[cA]at E;cases E;exact⟨_,_,_,rfl,by simp[qf,jh]⟩
         have aq:Ev Rv ν Z st H (iN ν t (H.length,0)) Z {st with m:=bE st.m t (.sl .row es rows)} (H++[Ob.row es rows]):=Ev.add c__ f? (λid hl _=>hH id hl) ap (λ_=>.inr (z? _))
         have ar:qf (ν2 e) Fl.row es rows.length=.hsl (ν2 e).1 es 0 rows.length:=by grind[qf]
         rw[ar]at L
         cases h? with
         |nil=>
          have:=by simp only[dw,ζa]at J;exact J.symm
          subst this;refine⟨n,_,_,_,Z,λk D=>C (L k D ?_),hR,l,aq,λ_=>⟨rfl,Kept.add λ_ _ h=>h⟩⟩
          grind[result,V.scalar]
         |cons x2 h?=>
          have aB:∃w2 af,X=w2::af:=by have:=g2.1;cases X with|nil=>simp at this|cons a b=>exact⟨a,b,rfl⟩
          obtain⟨w2,af,rfl⟩:=aB;refine⟨n,_,_,_,Z,λk D=>C (L k D (o:=some (.tup (.hsl H.length es 0 rows.length::w2::af),H++[Ob.row es rows])) ?_),hR,?_,aq,λ_=>⟨rfl,Kept.add λ_ _ h=>h⟩⟩
          .grind[result,V.scalar,V.c6]
          exact .tup _ _ f? (ct.cons l (ct.abb (rQ c1))).2
        simp at h
       .rename_i es xs b__ Q J;split at h
        next B=>simp at B;simp at h;obtain⟨rfl,rfl⟩:=h;obtain⟨_,_,_,K,rfl⟩:=g1.iq Q;cases K;have I:=(g2.dw J).scalar.1 B.1;subst I;exact emp .nil es X h? B.1 _ B.2 .bG f? rfl rfl rfl rfl
        simp at h
       .rename_i es xs b__ Q J;split at h
        next B=>simp at B;simp at h;obtain⟨rfl,rfl⟩:=h;obtain⟨_,_,_,K,rfl⟩:=g1.iq Q;cases K;have I:=(g2.dw J).scalar.1 B.1;subst I;exact emp .emp es X h? B.1 _ B.2 .dN f? rfl rfl rfl rfl
        simp at h
       simp at h
      simp at h
     grind
    grind
   rename_i ab;split at h
   .rename_i q hq;split at h
    .simp at h
    rename_i hd;obtain⟨n,y,H',ν',e1,e2,e3,e4,e5⟩:=YG (hP f q hq) r W h;exact⟨n,y,H',ν',Z,λk D=>C (by grind[h_]),e2,e3,e4,λh=>_c h hd⟩
   split at h
   .rename_i os hh;split at h
    .rename_i rs m' hc;split at h
     .rename_i b__ m2 J x;split at h
      .simp at h
      rename_i au;simp at h;obtain⟨rfl,rfl⟩:=h
      cases av:dr with
      |false=>obtain⟨n,y,H',ν',Z',e1,e2,e3,e4⟩:=ZL s A r W hh hc J x;exact⟨n,y,H',ν',Z',λk D=>C (by grind[h_]),e2,e3,e4,(λh=>nomatch h)⟩|true=>
       rw[av]at au;have kE:V.c6 b__=true/\∀k∈os.map (·.1),A8 m2 k=true:=by simp only[Bool.true_and,e!,Bool.not_eq_false,ζh,M?]at au;grind
       obtain⟨n,H',e1,e2,e3,e4,e5⟩:=Yi (Rv:=Rv) s A r W hh hc J x kE.1 kE.2;exact⟨n,_,H',ν,Z,λk D=>C (by grind[h_]),e2,e3,e4,λ_=>⟨rfl,e5 _⟩⟩
     .rename_i m2 J x;split at h
      .simp at h
      rename_i hd;split at h
      .rename_i e h? t;split at h
       .rename_i k es xs b__ he ah;split at h
        next B=>simp only[ζh,e!,List.contains_eq_mem,_f]at B;simp only[ζa,ζc]at h;obtain⟨rfl,rfl⟩:=h;obtain⟨n,y,H',ν',Z',e1,e2,e3,e4⟩:=YU s A r W hh hc ah x he B.1 B.2;exact⟨n,y,H',ν',Z',λk D=>C (by grind[h_]),e2,e3,e4,λh=>_c h hd⟩
        simp at h
       simp at h
      .rename_i p e h? t;split at h
       .rename_i k es xs b__ he ah;split at h
        next B=>simp only[ζh,e!,List.contains_eq_mem,_f]at B;simp only[ζa,ζc]at h;obtain⟨rfl,rfl⟩:=h;obtain⟨n,y,H',ν',Z',e1,e2,e3,e4⟩:=VZ s A r W hh hc ah x he B.1 B.2;exact⟨n,y,H',ν',Z',λk D=>C (by grind[h_]),e2,e3,e4,λh=>_c h hd⟩
        simp at h
       simp at h
      simp at h
     simp at h
    simp at h
   simp at h
  rename_i aa;split at h
  .rename_i ai;simp only[ζh]at ai;have aj:mO S.E ops place f=false:=by
    simp only[Bool.not_eq_true,l!,Bool.not_eq_false']at aa
    cases place with
    |none=>rw[d__]at aa;simp at aa|some bi=>obtain⟨b,i⟩:=bi;have N:=ak b i rfl aa.2;have h2:=ai.1;simp only[mO,N,h2,Bool.false_or,Bool.not_true,Bool.and_false]
   split at h
   .rename_i az hs;split at h
    .rename_i rs m' hc;split at h
     .rename_i b__ J;split at h
      next B=>simp only[g!]at B;simp at h;obtain⟨rfl,rfl⟩:=h;obtain⟨n,H',e1,e2,e3,e4⟩:=OB s d__ T g r W aj hs (.inr ai.2) hc J B;exact⟨n,_,H',ν,Z,e1,e2,e3,e4,λ_=>⟨rfl,.refl⟩⟩
      simp at h
     simp at h
    simp at h
   simp at h
  simp at h
 rename_i A;have aC:S.E.keep f=false:=g?
 have aj:mO S.E ops place f=false:=by simp_all[mO]
 split at h
 .rename_i az hs;split at h
  .rename_i hl;split at h
   .rename_i rs m' hc;split at h
    .rename_i b__ J;split at h
     .rename_i B;simp only[g!]at B;simp at h;obtain⟨rfl,rfl⟩:=h;obtain⟨n,H',e1,e2,e3,e4⟩:=OB s d__ T g r W aj hs g? hc J B
      exact⟨n,_,H',ν,Z,e1,e2,e3,e4,λ_=>⟨rfl,.refl⟩⟩
     rename_i aG;split at h
     .rename_i aD;obtain⟨ds,aE,e⟩:=ζf.1 h;simp at e;obtain⟨rfl,rfl⟩:=e;have aw:(result b__).scalar=false:=by
       grind
      obtain⟨n,H',e1,e2,e3,e4⟩:=ZE s T (λb i hp=>(g b i hp).2) r W aC hs (by rw[<-d__];exact aD) hc J aw aE
      exact⟨n,_,H',ν,Z,e1,e2,e3,e4,λ_=>⟨rfl,λe ad _ h=>⟨ad,qA h,rfl,.refl _,λ_ h=>⟨h,rfl⟩⟩⟩⟩
     simp at h
    simp at h
   simp at h
  simp at h
 simp at h
end
structure CX where
 E:Env
 nm:FuncId->Option Nat
 nt:Nat
def Fv(ops:R0)(o:Oper):aY (aY (Nat×X')):=
 match o.guard with
 |none=>M G|some (j,b)=>(_l (ops[j]?) (·.dst)).map λd=>M (d,b)
def BS(a:Nat):aY Nat->X'
 |none=>O|some d=>_p (d<a)
def Au(B:X')(ops:R0)(i:Nat)(k:K)(os:aX UV):K×aX UV×X':=
 if B&& !eo ops i then match k,os,uq U ops i with
  |.l (.store n),.tmp u::w,M (a,l)=>if u=a then(.l (.storeF n),(.tmp u::w)++l.map .tmp,O)else(k,os,U)|.l (.append n),os,_=>if Ab ops i then(.e n,os,O)else(k,os,U)|.r (.load n ag),[.tmp u],_=>if(rz ops i u).isEmpty then(k,os,U)else(.r (.loadF n ag),.tmp u::(rz ops i u).map .tmp,U)|_,_,_=>(k,os,U)
 else(k,os,B&&eo ops i)
def F9(B:X')(ops:R0)(i:Nat)(k:K)(os:aX UV):(Au B ops i k os=(k,os,B&&eo ops i)/\∀n ag a',B=O->eo ops i=U->k=.r (.load n ag)->os=[.tmp a']->rz ops i a'=[])\/
 (B=O/\eo ops i=U/\∃n a l D,k=.l (.store n)/\os=.tmp a::D/\uq U ops i=M (a,l)/\Au B ops i k os=(.l (.storeF n),os++l.map .tmp,O))\/
 (B=O/\eo ops i=U/\∃n ag a,k=.r (.load n ag)/\os=[.tmp a]/\Au B ops i k os=(.r (.loadF n ag),.tmp a::(rz ops i a).map .tmp,U))\/
 (B=O/\eo ops i=U/\Ab ops i=O/\∃n,k=.l (.append n)/\Au B ops i k os=(.e n,os,O)):=by
 unfold Au;split
 .rename_i h;simp only[ζh,e!]at h;split
  .rename_i n a' D a l hk;split
   next e=>subst e;refine .inr (.inl ⟨h.1,h.2,n,a',l,D,Y,Y,hk,?_⟩);simp only[Au,h.1,h.2,hk,Bool.not_false,Bool.and_self,L']
   exact .inl ⟨by rw[h.2,Bool.and_false],λn ag a' _ _ e=>by cases e⟩
  .rename_i n;split
   next d=>refine .inr (.inr (.inr ⟨h.1,h.2,d,n,Y,Y⟩))
   exact .inl ⟨by rw[h.2,Bool.and_false],λn ag a' _ _ e=>by cases e⟩
  .rename_i n ag a';split
   .rename_i I;refine .inl ⟨by rw[h.2,Bool.and_false],λn ag C _ _ _ e=>?_⟩
    simp only[List.cons.injEq,Operand.tmp.injEq,and_true]at e;subst e;simpa using I
   exact .inr (.inr (.inl ⟨h.1,h.2,n,ag,a',Y,Y,Y⟩))
  rename_i u w z;refine .inl ⟨by rw[h.2,Bool.and_false],λn ag C _ _ e1 e2=>?_⟩
  first|exact(z _ _ _ e1 e2).elim|exact(z _ _ _ _ e1 e2 Y).elim|exact(u _ _ _ e1 e2).elim|exact(w _ _ _ e1 e2).elim|exact(u _ _ _ _ e1 e2 Y).elim|exact(w _ _ _ _ e1 e2 Y).elim
 rename_i h;refine .inl ⟨Y,λn ag C hd J _ _=>?_⟩
 rw[hd,J]at h;exact _c Y h
def oF(X:CX)(B:X')(ops:R0)(i:Nat)(o:Oper):aY RO:=
 if BS X.nt o.dst&& !(B&&(cV o.op==.call&&LM ops i))then
  match Fv ops o,resolve X.E X.nm o.op with
  |some gd,M (k,os)=>if D2 k then if B&&Gr X.E ops i then match k,o.op with
   |.a (.makeSl size zero),.makeSlice ..=>(os.mapM (rq X.nm)).map λaz=>⟨o.dst,gd,U,.p (.makeC size zero),az,[],[]⟩|.a (.buildSl size len zero idx),.buildSlice ..=>if size≠0/\len=0/\idx=[]then(os.mapM (rq X.nm)).map λaz=>⟨o.dst,gd,U,.p .emptyC,az,[],[]⟩else(os.mapM (rq X.nm)).map λaz=>⟨o.dst,gd,U,.p (.buildC size len zero idx),az,[],[]⟩|_,_=>G
   else((Au B ops i k os).2.1.mapM (rq X.nm)).map λaz=>⟨o.dst,gd,(Au B ops i k os).2.2,(Au B ops i k os).1,az,[],[]⟩else G
  |_,_=>G
 else G
def GK{E:Env}{N:Nat->Y'}{F:WP}{op:Op}{ys:So}{size:Nat}{zero:So}{y:V}(B:∃t l c,op=.buildSlice t l c)(h:DR E N F op ys (.a (.buildSl size 0 zero [])))(J:size≠0)(D:bV N .emptyC ys=M y):rC E F op=M y:=by
 obtain⟨t,l,c,rfl⟩:=B;have⟨g1,g2⟩:=h;unfold bV at D;split at D<;>first|(rename_i e;cases e;done)|skip
 all_goals simp_all[nO,gz,rC]
def Dt{es:Nat}:∀{vs:aX (Nat×V)}{xs ys:S'},gz es xs vs=M ys->W ys=W xs
 |[],xs,ys,h=>by grind[gz]|(i,v)::r,xs,ys,h=>by simp only[gz]at h;split at h;have:=Dt h;grind;cases h
def Gf{E:Env}{N:Nat->Y'}{F:WP}{op:Op}{ys:So}{size len:Nat}{zero:So}{idx:ST}{y:V}(D:∃t l c,op=.buildSlice t l c)(h:DR E N F op ys (.a (.buildSl size len zero idx)))(B:bV N (.buildC size len zero idx) ys=M y):rC E F op=M y:=by
 obtain⟨t,l,c,rfl⟩:=D;have⟨g1,g2⟩:=h;simp only[bV]at B;split at B;rename_i a;split at B;rename_i w u;split at B;rename_i C;have d:len=W w:=by have:=Dt u;rw[this];simp
 have z:=g2 _ (show nO (.buildSl size len zero idx) ys=M (.row size w,.sl size len)by grind[nO]);grind[rC];cases B;cases B;cases B
def Gt{E:Env}{N:Nat->Y'}{F:WP}{op:Op}{ys:So}{size:Nat}{zero:So}{y:V}(D:∃t l c,op=.makeSlice t l c)(h:DR E N F op ys (.a (.makeSl size zero)))(B:bV N (.makeC size zero) ys=M y):rC E F op=M y:=by
 obtain⟨t,l,c,rfl⟩:=D;have⟨g1,g2⟩:=h;unfold bV at B;split at B<;>first|(rename_i e;cases e;done)|skip
 rename_i k n w m e;cases e;split at B;rename_i c;obtain⟨rfl,rfl,z,rfl,C,d⟩:=c;have u:=g2 _ (show nO (.makeSl size zero) [.int _o n,.int _o n]=M (.row size (w? n.toNat zero),.sl size n.toNat)by grind[nO]);grind[rC];cases B;cases B
def FL{X:CX}{dr:X'}{ops:R0}{i:Nat}{o:Oper}{ro:RO}(a:oF X dr ops i o=M ro):BS X.nt o.dst=O/\∃g now k az,Fv ops o=M g/\ro=⟨o.dst,g,now,k,az,[],[]⟩:=by
 unfold oF at a;split at a
 .rename_i hd;have hd:=(Bool.and_eq_true_iff.1 hd).1;split at a
  .rename_i g k os hg hr;split at a;(·(repeat' split at a)<;>first|(cases a;done)|(obtain⟨az,u,rfl⟩:=ζf.1 a;exact⟨hd,_,_,_,_,hg,Y⟩));cases a
  cases a
 cases a
def JQ{X:CX}{dr:X'}{ops:R0}{i:Nat}{o:Oper}{ro:RO}(a:oF X dr ops i o=M ro)(hd:dr=O)(B:cV o.op=.call):LM ops i=U:=by
 unfold oF at a;split at a;next h=>subst hd;simp[B]at h;exact h.2
 cases a
structure Good(X:CX)(S:Sys):Prop where
 E:X.E=S.E
 N:∀f s,X.nm f=some s->S.N s=f
 prm:∀f q,S.prm f=some q->pJ S.E f q
section
variable{Rv:Nat->Prop}{ν ν':Nu}{Z Z':Nat->Prop}{st e?:St}{m m':Tb bD}{F F':WP}{H H' H1:bl}{S:Sys}{c:cg}{X:CX}
def Old(b:Nat)(fr:ST)(ν:Nu)(Z:Nat->Prop)(m:Tb bD):Prop:=(∀d ob j,bh m d=M ob->ob.pt j=O->d∉fr->ν.at d j<b)/\∀id,Z id->id<b
def qj{fr:ST}:∀{m?:R'},eY fr m?=O->∀d∈fr,SV.dL d m?=U
 |[],_,d,_=>rfl|.v _::r,h,d,hd=>(qj (m?:=r) (by grind[eY]) d hd)|.ptr e _::r,h,d,hd=>by simp[eY,e!]at h;simp[SV.dL,SV.cR];exact⟨λe=>h.1 (e▸hd),qj h.2 d hd⟩|.el e _ _::r,h,d,hd=>by simp[eY,e!]at h;simp[SV.dL,SV.cR];exact⟨λe=>h.1 (e▸hd),qj h.2 d hd⟩|.mp e::r,h,d,hd=>by simp[eY,e!]at h;simp[SV.dL,SV.cR];exact⟨λe=>h.1 (e▸hd),qj h.2 d hd⟩|.own _::r,h,_,_=>by grind[eY]|.clo ..::r,h,_,_=>by grind[eY]|.tup _::r,h,_,_=>by grind[eY]|.agg _::r,h,_,_=>by grind[eY]|.yl _::r,h,_,_=>by grind[eY]
def Gj(S:Sys)(ops:R0)(place:aY (Nat×Nat))(dr:X')(F:WP)(op:Op)(dst:aY Nat)(ν:Nu)(Z:Nat->Prop)(st:St)(H:bl)(sv:SV)(e?:St):Prop:=∃n y H' ν' Z',(∀k,n<=k->dn S.E (run S.E k) ops place F H op=M (y,H'))/\R ν' Z' e? F H'/\dg ν' e?.m H' Z' sv y/\Ev (λid=>∃b j,place=M (b,j)/\id=b+j) ν Z st H ν' Z' e? H'/\(dr=O->Z'=Z/\Kept dst ν st.m ν' e?.m)
def BO{E:Env}{F:WP}{H:bl}{place:aY (Nat×Nat)}{op:Op}{v:V}(h:bS E F op=M v):vC E F H place op=M v:=by simp_all[vC]
def CL:∀{xs ys:S'}{l:SW},gN H Z xs ys->nM xs=M l->nM ys=M l
 |[],ys,l,h,B=>by have:=h.1;have:ys=[]:=List.eq_nil_of_length_eq_zero g?;grind|x::xs,[],l,h,B=>by have:=h.1;simp at this|x::xs,y::ys,l,h,B=>by unfold nM at B;split at B;grind;rename_i n r e;cases e;obtain⟨k,c,rfl⟩:=ζf.1 B;have w:=h.2 0 _ y Y Y;obtain⟨u,C,rfl,p1,p2⟩:=w.inv;rw[p2.dm,p1.int];have:=CL (xs:=xs) (ys:=ys) ⟨by have:=h.1;grind,λj a b z B=>h.2 (j+1) a b z B⟩ c;grind[nM];cases B
def Rw(gd:Good X S){ops:R0}{place:aY (Nat×Nat)}{dr:X'}{op:Op}{dst:aY Nat}{p:xI}{m?:R'}{ys:So}(b:D2 (.p p)=O)(r:R ν Z st F H)(rs:ct ν st.m H Z m? ys)
 (B:DR X.E S.N F op ys (.p p)){sv:SV}(h:(kH S.N st.m p m?).map (λx=>(x,st))=M (sv,e?)):Gj S ops place dr F op dst ν Z st H sv e?:=by
 have⟨x,w,e⟩:=ζf.1 h;obtain⟨rfl,rfl⟩:=e;have⟨y,z,u⟩:=Li (λzero pl e=>by grind[D2]) r.obj rs w
 have⟨a,C⟩:=B;exact⟨0,y,H,ν,Z,λq _=>by unfold dn;rw[a];simp only[<-gd.E,BO (C y z),B?],r,u,.refl,λ_=>⟨Y,.refl⟩⟩
def Dw(gd:Good X S){ops:R0}{place:aY (Nat×Nat)}{dr:X'}{op:Op}{p:xI}{m?:R'}{ys:So}(hp:∀zero pl,p≠.build zero pl)(B:cV op=.alloc)(D:pW X.E ops place=O)(J:∀y,bV S.N p ys=M y->rC X.E F op=M y)
 (r:R ν Z st F H)(rs:ct ν st.m H Z m? ys){sv:SV}(h:(kH S.N st.m p m?).map (λx=>(x,st))=M (sv,e?)):Gj S ops place dr F op G ν Z st H sv e?:=by
 have⟨x,w,e⟩:=ζf.1 h;simp only[ζc]at e;obtain⟨rfl,rfl⟩:=e;have⟨y,z,u⟩:=Li (N:=S.N) (λzero pl e=>_c e (hp zero pl)) r.obj rs w
 refine⟨0,y,H,ν,Z,λq _=>?_,r,u,.refl,λ_=>⟨Y,.refl⟩⟩
 unfold dn;rw[B];simp only[D,L',<-gd.E,J y z,B?]
def OI:∀{D B:aX UV}{vs:So},gm F (D++B)=M vs->∃J T,gm F D=M J/\gm F B=M T/\vs=J++T
 |[],B,vs,h=>⟨[],vs,rfl,h,rfl⟩|x::D,B,vs,h=>by obtain⟨a,az,b,d,rfl⟩:=j7 h;obtain⟨J,T,g1,g2,rfl⟩:=OI d;simp_all[gm]
def EV:∀{l:ST}{vs:So},gm F (l.map Operand.tmp)=M vs->vs=l.map (get F)
 |[],vs,h=>tj h|x::l,vs,h=>by obtain⟨a,az,b,B,rfl⟩:=j7 h;simp[ev]at b;subst b;rw[EV B];rfl
def aaQ(gd:Good X S){call:d_}{ops:R0}{b j n a:Nat}{l:ST}{o:Oper}{B:aX UV}{ys:So}{y:V}(c:resolve X.E X.nm o.op=M (.l (.store n),.tmp a::B))(D:gm F ((.tmp a::B)++l.map Operand.tmp)=M ys)
 (J:uq U ops j=M (a,l))(T:eo ops j=U)(e1:fR H (.storeF n) ys=M (y,H')):dn S.E call ops (M (b,j)) F H o.op=M (y,H'):=by
 obtain⟨t,q,d,I,rfl⟩:=OI D;have⟨g1,g2⟩:=kL gd.N c d;obtain⟨w,L,z,h,rfl⟩:=j7 d;simp[ev]at z;have u:∃v,L=[v]:=by have C:∃x,B=[x]:=(by unfold resolve at c;((repeat' split at c)<;>first|grind|skip);(all_goals (try (have⟨_,_,e⟩:=ζf.1 c;simp[K.l.injEq,Oj.store.injEq,reduceCtorEq]at e)));grind);obtain⟨x,rfl⟩:=C;obtain⟨v,Z,_,Q,rfl⟩:=j7 h;rw[tj Q];grind
 obtain⟨v,rfl⟩:=u;rw[EV I,<-z]at e1;simp at e1
 cases g:get F a with
 |hptr id el off=>
  rw[g]at e1;simp only[fR]at e1;split at e1
  .have i:sL ops j F=O:=by
    unfold sL
    grind
   unfold dn;rw[g1];simp[i,<-gd.E];refine g2 _ _ ?_;rw[<-z,g];exact e1
  grind
 |_=>rw[g]at e1;simp[fR]at e1
def J9{E:Env}{nm:Y'->aY Nat}{op:Op}{s:Nat}{a:X'}{os:aX UV}(h:resolve E nm op=M (.r (.loadF s a),os)):False:=by
 unfold resolve at h;(repeat' split at h)<;>first|grind|skip
 all_goals simp_all
def MN{E:Env}{nm:Y'->aY Nat}{op:Op}{s a':Nat}{a:X'}{t:W'}{os:aX UV}(h:resolve E nm op=M (.r (.load s a),os)):∃t x,op=.load t x/\os=[x]:=by
 unfold resolve at h;(repeat' split at h)<;>first|grind|skip
 all_goals simp_all
 grind
def Ru{E:Env}{nm:Y'->aY Nat}{ops:R0}{j:Nat}{op:Op}{q:OU}{os:aX UV}(a:resolve E nm op=M (.r q,os))(h:∀n ag a',K.r q=.r (.load n ag)->os=[.tmp a']->∀t,op=.load t (.tmp a')->rz ops j a'=[]):p_ ops j F op=O:=by
 unfold p_;split;rename_i t a';have:∃n ag,q=.load n ag/\os=[.tmp a']:=by have⟨d,_,e⟩:=ζf.1 a;grind
 grind;rfl
theorem Y5 (gd:Good X S) {ops:aX Oper} {b j n a:Nat} {ag:Bool} {fr:aX Nat} {o:Oper} {m?:aX SV} {ys:aX V} {dst:aY Nat} {x:SV} (hr:resolve X.E X.nm o.op=some (.r (.load n ag),[.tmp a])) (A:gm F (.tmp a::(rz ops j a).map Operand.tmp)=some ys) (rs:ct ν st.m H Z m? ys)
 (W:eY fr m?=true) (ad:b<=H.length) (Y:∀d ob j,bh st.m d=some ob->ob.pt j=true->d∉fr->ν.at d j<b) (D:∀id,Z id->id<b) (r:R ν Z st F H) (T:oG st.m (.loadF n ag) m?=some x):Gj S ops (some (b,j)) true F o.op dst ν Z st H x st:=by
 obtain⟨w,ws,h1,h2,rfl⟩:=j7 A;simp[ev]at h1;have ae:=EV h2;unfold oG at T;split at T <;> first|(rename_i B;cases B;done)|skip
 .rename_i size agg d off l B;cases B;split at T
  .rename_i g;split at T
   .rename_i cs C;obtain⟨w',af,e,g1,g2⟩:=rs.inv;cases e;have I:=NU r C g2 g;obtain⟨_,_,rfl⟩:=g1.q9 C;have J:∀id,Z id->Z id/\bn (H.take b) id=bn H id:=λid h=>⟨h,pM (D id h)⟩
    have L:∀id,Z id->Z id/\bn H id=bn (H.take b) id:=λid h=>⟨h,(pM (D id h)).symm⟩
    have ah:d∉fr:=λhf=>by
     have:=qj W d hf
     grind[SV.dL,SV.cR]
    obtain⟨y,hy,i⟩:=zA  (r:=.load n ag)   (λs a e=>by cases e) (λkk z ok e=>by cases e) (ct.cons (g1.mono J λe _=>j9 ν st.m e) .nil) (λd2 Q ob u=>by
     have aa:d2∉fr:=λhf=>by
      have  := by simpa [SV.dL,SV.cR]using Q
      grind
     exact dx.mono J rfl (λj hb=>List.getElem?_take_of_lt (Y d2 ob j u hb aa)) (λe _=>j9 ν st.m e) (r.obj d2 ob u))  (by simp[oG,C];omega)
    obtain⟨k1,k2⟩:=kL  gd.N hr (show gm F [.tmp a]=some [.hptr (ν d).1 0 off]from by grind[gm])
    have ab:p_ ops j F o.op=true:=by
     obtain⟨t,x',e1,e2⟩:=MN (a':=0) (t:=0) hr;rw[e1];simp  at e2;subst e2;simp[p_];intro s hs;have hm:get F s∈ws:=by grind
     have:=List.all_eq_true.1 I _ hm
     grind[qt]
    refine⟨0,y,H,ν,Z,λq _=>?_,r,i.mono L (λe _=>j9 ν st.m e),.refl,λ_=>⟨rfl,.refl⟩⟩
    unfold dn;rw[k1];simp[<-gd.E,k2 (H.take b) y hy,ab]
   grind
  grind
 grind
def Ia{E:Env}{nm:Y'->aY Nat}{op:Op}{n:Nat}{os:aX UV}(h:resolve E nm op=M (.l (.append n),os)){y:V}{ys:So}(b:gm F os=M (y::ys))(B:y=.bG\/y=.dN):isApp op=O/\sF F op=O:=by
 have key:∃args u p s x,op=.call {callee:=.builtin .append,args:=args,argTypes:=u}/\args.toList=[s,x]/\os=[s,x]/\p=():=by unfold resolve at h;((repeat' split at h)<;>first|(simp at h;done)|skip);grind
 obtain⟨args,u,_,s,x,rfl,c,rfl,_⟩:=key;have⟨a,az,w,z,e⟩:=j7 b;cases e;refine⟨Y,?_⟩;simp only[sF,c,w];all_goals grind
def abO(gd:Good X S)(hS:jT S c){ops:R0}{place:aY (Nat×Nat)}{dr:X'}{fr:ST}{i:Nat}(J:dr=place.isSome)(hi:∀b j,place=M (b,j)->j=i)
 (K:∀b j,place=M (b,j)->b<=_j H/\Old b fr ν Z st.m)
 {o:Oper}{ro:RO}(E:oF X dr ops i o=M ro)(aF:∀b j,place=M (b,j)->ops[j]?=M o)(am:∀b j,place=M (b,j)->cV o.op=.alloc->H[b+j]?=M .free)
 (r:R ν Z st F H){sv:SV}(h:oa S c dr fr ro st=M (sv,e?)):
 Gj S ops place dr F o.op (BM ro) ν Z st H sv e?:=by
 have aw:=λhd hl=>JQ E hd hl
 unfold oF at E;split at E
 .split at E
  .rename_i g k os hg hr;split at E
   .rename_i A;split at E
    .rename_i af;simp only[ζh]at af;have an:pW X.E ops place=O:=by
      cases place with
      |none=>rw[J]at af;exact _c af.1 f?|some c__=>have⟨b,j⟩:=c__;rw[hi b j _i];exact af.2
     split at E
     .rename_i size zero t l c d__;obtain⟨az,a__,rfl⟩:=ζf.1 E;unfold oa at h;split at h
      next L B=>have⟨ys,C,rs⟩:=qJ gd.N r.slot a__ B;have I:=kL gd.N hr C;exact Dw gd (λ_ _ e=>by cases e) I.1 an (λy P=>Gt ⟨_,_,_,d__⟩ I P) r rs h
      simp at h
     .rename_i size len zero idx t l c d__;split at E
      .rename_i aG;obtain⟨aH,rfl,rfl⟩:=aG;obtain⟨az,a__,rfl⟩:=ζf.1 E;unfold oa at h;split at h
       next L B=>have⟨ys,C,rs⟩:=qJ gd.N r.slot a__ B;have I:=kL gd.N hr C;exact Dw gd (λ_ _ e=>by cases e) I.1 an (λy P=>GK ⟨_,_,_,d__⟩ I aH P) r rs h
       simp at h
      obtain⟨az,a__,rfl⟩:=ζf.1 E;unfold oa at h;split at h
      next L B=>have⟨ys,C,rs⟩:=qJ gd.N r.slot a__ B;have I:=kL gd.N hr C;exact Dw gd (λ_ _ e=>by cases e) I.1 an (λy P=>Gf ⟨_,_,_,d__⟩ I P) r rs h
      simp at h
     cases E
    rename_i ah;have al:pW X.E ops place=U:=by cases place with|none=>rfl|some c__=>have⟨b,j⟩:=c__;have b__:=hi b j _i;cases ax:Gr X.E ops j with|false=>exact ax|true=>exact _c (by rw[J,<-b__,ax];rfl) ah
    rcases F9 dr ops i k os with⟨hq,aI⟩|⟨u,ao,n,a,l,aT,rfl,rfl,aJ,hq⟩|⟨u,ao,n,ag,a,rfl,rfl,hq⟩|⟨u,ao,aK,n,rfl,hq⟩
    rotate_left
    .rw[hq]at E;obtain⟨az,a__,rfl⟩:=ζf.1 E;unfold oa at h;split at h
     .rename_i L B;have⟨ys,C,rs⟩:=qJ gd.N r.slot a__ B;simp only[u,Bool.not_true,Bool.false_or,L']at h;have⟨y,H',ν',e1,e2,e3,e4,e5⟩:=ER r rs h;refine⟨0,y,H',ν',Z,λq _=>?_,e2,e3,e4.weak (λ_ h=>h.elim),λ_=>⟨_i,e5⟩⟩
      cases place with
      |none=>rw[J]at u;cases u|some c__=>have⟨b,j⟩:=c__;have b__:=hi b j _i;subst b__;exact aaQ gd hr C aJ ao e1
     simp at h
    .rw[hq]at E;obtain⟨az,a__,rfl⟩:=ζf.1 E;unfold oa at h;split at h
     .rename_i L B;have⟨ys,C,rs⟩:=qJ gd.N r.slot a__ B;simp only[u,Bool.not_true,Bool.or_self,Bool.false_or]at h;split at h
      .rename_i ap;have⟨x,hx,e⟩:=ζf.1 h;simp only[ζc]at e;obtain⟨rfl,rfl⟩:=e
       cases place with
       |none=>rw[J]at u;cases u|some c__=>have⟨b,j⟩:=c__;have b__:=hi b j _i;subst b__;have⟨ay,aq,ai⟩:=K b j _i;rw[u];exact Y5 gd hr C rs ap ay aq ai r hx
      simp at h
     simp at h
    .rw[hq]at E;obtain⟨az,a__,rfl⟩:=ζf.1 E;unfold oa at h;split at h
     rotate_left
     .simp at h
     rename_i L B;have⟨ys,C,rs⟩:=qJ gd.N r.slot a__ B;simp only at h;have key:∃e x,(e=V.bG\/e=V.dN)/\L=[.v e,x]/\mM st o.dst (.append n) L=M (sv,e?):=by split at h;exact⟨_,_,.inl _i,_i,h⟩;exact⟨_,_,.inr _i,_i,h⟩;cases h
     obtain⟨e,x,he,rfl,hl⟩:=key;have⟨y,H',ν',e1,e2,e3,e4,e5⟩:=ER r rs hl;have⟨g1,g2⟩:=kL gd.N hr C;refine⟨0,y,H',ν',Z,λq _=>?_,e2,e3,e4.weak (λ_ h=>h.elim),λ_=>⟨_i,e5⟩⟩
     obtain⟨y1,zs,rfl,f1,f2⟩:=rs.inv;have aL:y1=.bG\/y1=.dN:=by cases f1 with|v _ _ hf=>rcases he with rfl|rfl<;>first|exact .inl hf.bG|exact .inr hf.dN
     cases place with
     |none=>rw[J]at u;cases u|some c__=>have⟨b,j⟩:=c__;have b__:=hi b j _i;subst b__;have⟨r1,r2⟩:=Ia hr C aL;exact SP r1 (by rw[<-gd.E];exact g2 _ _ e1) (.inr ⟨aK,r2,(K b j _i).1⟩)
    rw[hq]at E;obtain⟨az,a__,rfl⟩:=ζf.1 E;unfold oa at h;split at h
    .rename_i L B;have⟨ys,C,rs⟩:=qJ gd.N r.slot a__ B;have D:=kL gd.N hr C;simp only at h
     cases k with
     |p p=>
      cases p with
      |slice size lo hi=>
       simp only at h;split at h
       .rename_i d bs;split at h
        .simp at h
        rename_i ar;have⟨y,ν',h1,h2,h3,h4⟩:=RE (N:=S.N) (Rv:=λid=>∃b j,place=M (b,j)/\id=b+j) r rs h
        have⟨g1,g2⟩:=D;exact⟨0,y,H,ν',Z,λq _=>by unfold dn;rw[g1];simp only[<-gd.E,BO (g2 y h1),B?],h2,h3,h4,λhd=>_c hd ar⟩
       exact Rw gd A r rs D h
      |_=>exact Rw gd A r rs D h
     |r q=>
      simp only at h;split at h
      .rename_i W;have⟨x,hx,e⟩:=ζf.1 h;simp only[ζc]at e;obtain⟨rfl,rfl⟩:=e;have⟨g1,g2⟩:=D;have au:∀kk z ok,q=.lookup kk z ok->z.good=O:=λkk z ok e=>by subst e;simpa[D2]using A
       have ab:∀s a,q≠.loadF s a:=λs a e=>by subst e;exact J9 hr
       cases place with
       |none=>
        have⟨y,P,ad⟩:=zA ab au rs (λd _ ob hd=>r.obj d ob hd) hx
        exact⟨0,y,H,ν,Z,λq _=>by unfold dn;rw[g1];simp only[<-gd.E,g2 H y P,B?],r,ad,.refl,λ_=>⟨rfl,.refl⟩⟩
       |some c__=>
        have⟨b,j⟩:=c__;have⟨ay,aq,ai⟩:=K b j _i;have u:dr=O:=J;subst u;have b__:=hi b j _i;subst b__;simp only[Bool.not_true,Bool.false_or,Bool.true_and]at W;have aA:p_ ops j F o.op=O:=Ru hr λn ag a' e1 e2 t e3=>by by_cases Q:eo ops j=O;exact FM (aF b j _i) e3 Q;exact aI n ag a' _i (by simpa using Q) e1 e2
        by_cases Q:eo ops j=O
        .have⟨y,P,ad⟩:=zA ab au rs (λd _ ob hd=>r.obj d ob hd) hx
         have hH:=g2 H y P;refine⟨0,y,H,ν,Z,λq _=>?_,r,ad,.refl,λ_=>⟨_i,.refl⟩⟩
         unfold dn;rw[g1];simp only[<-gd.E,aA,L'];split
         next v hv=>have:=Cg hv;rw[hH]at this;cases this;rfl
         rw[J0 Q,hH];rfl
        have ap:eY fr L=O:=by simpa[Q]using W
        have aa:∀id,Z id->Z id/\bn (H.take b) id=bn H id:=λid h=>⟨h,pM (ai id h)⟩
        have aB:∀id,Z id->Z id/\bn H id=bn (H.take b) id:=λid h=>⟨h,(pM (ai id h)).symm⟩
        have⟨y,P,ad⟩:=zA (H:=H.take b) ab au (rs.mono aa λe _=>j9 ν st.m e) (λd hd ob aC=>by
         have ab:d∉fr:=λhf=>by rw[qj ap d hf]at hd;cases hd
         exact dx.mono aa _i (λj hb=>List.getElem?_take_of_lt (aq d ob j aC hb ab)) (λe _=>j9 ν st.m e) (r.obj d ob aC)) hx
        refine⟨0,y,H,ν,Z,λq _=>?_,r,ad.mono aB (λe _=>j9 ν st.m e),.refl,λ_=>⟨_i,.refl⟩⟩
        unfold dn;rw[g1];simp only[<-gd.E,g2 (H.take b) y P,aA,L']
      simp at h
     |a q=>
      simp only at h;split at h
      .rename_i d hd;split at h
       .rename_i Y;have⟨⟨ob,x⟩,hx,e⟩:=ζf.1 h;simp only[ζc]at e;obtain⟨rfl,rfl⟩:=e;have⟨ae,mk,e1,e2,T,e3,e4⟩:=RI A rs hx;have⟨g1,g2⟩:=D;have⟨n1,n2,n3,n4⟩:=lV Y;have av:∀p:Nat×Nat,∀e,SV.dL e L=O->∀aj,bh (bE st.m d ob) e=M aj->∃ob,bh st.m e=M ob/\iN ν d p e=ν e/\sameShape ob aj:=λp e he=>by
         refine BT ?_;rintro rfl;have:∀{xs:QQ}{vs:R'},bW S.N st.g xs=M vs->SV.dL e vs=U:=by intro xs;induction xs with|nil=>intro vs h;simp only[bW,ζa]at h;subst h;rfl|cons a xs ih=>intro vs h;simp only[bW]at h;split at h;rename_i v aU h1 h2;simp only[ζa]at h;subst h;simp only[SV.dL,l!];refine⟨?_,ih h2⟩;(cases a with|s n=>exact B2 n3 h1|k c=>simp only[tN,ζa]at h1;subst h1;rfl|f s=>simp only[tN,ζa]at h1;subst h1;rfl);simp at h
         rw[this B]at he;cases he
        have fin:∀(id:Nat)(Hn:bl),_j H<=_j Hn->Hn[id]?=M ae->(∀k,k<_j H->k≠id->Hn[k]?=H[k]?)->(∀k,fU ν st.m k->k≠id)->(∀k,Z k->k≠id)->
         R (iN ν d (id,0)) Z {st with m:=bE st.m d ob} F Hn/\dg (iN ν d (id,0)) (bE st.m d ob) Hn Z x (mk.val id)/\(∀k,Z k->bn Hn k=bn H k):=λid Hn hl aM I ho hz=>by
         have aa:∀k,Z k->bn Hn k=bn H k:=λk A=>by unfold bn;rw[I k (r.xT A) (hz k A)]
         have⟨a1,a2⟩:=e4 id (iN ν d (id,0)) (bE st.m d ob) Hn (jh _ _ _) (cA _ _ _) aM aa (av _);have r2:R ν Z st F Hn:=r.heap (λk A=>I k (r.lt A) (ho k A)) aa
         exact⟨r2.add Y (λ_=>⟨λh=>ho _ h _i,λh=>hz _ h _i⟩) a1 T,a2,aa⟩
        have aD:o.dst=M d:=hd
        cases place with
        |none=>
         have⟨f1,f2,f3⟩:=fin (_j H) (H++[ae]) f? f? (λk A _=>u? A) (λk A=>Nat.ne_of_lt (r.lt A)) (λk A=>Nat.ne_of_lt (r.xT A))
         refine⟨0,mk.val (_j H),H++[ae],iN ν d (_j H,0),Z,λq _=>?_,f1,f2,Ev.add Y f? (λk A _=>u? A) f3 (λ_=>.inr (z? _)) T,λhh=>?_⟩
         .unfold dn;rw[g1];simp only[al,v?,M',<-gd.E,g2 _ e1]
         rw[J]at hh;cases hh
        |some c__=>
         have⟨b,j⟩:=c__;have hf:=am b j _i g1;have aN:=(ζe.1 hf).1;have nf:∀k,fU ν st.m k->k≠b+j:=λk A e=>by subst e;have⟨d',aj,j',w1,w2,w3⟩:=A;exact(r.obj d' aj w1).free w2 (w3▸hf)
         have nz:∀k,Z k->k≠b+j:=λk A e=>by subst e;have:=r.zrow _ A;unfold bn at this;rw[hf]at this;simp[Ob.rows]at this
         have⟨f1,f2,f3⟩:=fin (b+j) (H.set (b+j) ae) f? (by rw[J? aN]) (λk _ A=>by rw[D?,K' (Ne.symm A)]) nf nz
         refine⟨0,mk.val (b+j),H.set (b+j) ae,iN ν d (b+j,0),Z,λq _=>?_,f1,f2,Ev.add Y f? (λk _ A=>?_) f3 (λ_=>.inl ⟨b,j,_i,_i⟩) T,λ_=>⟨_i,?_⟩⟩
         .unfold dn;rw[g1];simp only[al,v?,M',<-gd.E,g2 _ e1,hf]
         .rw[D?,K' λe=>A ⟨b,j,_i,e.symm⟩]
         have:BM ⟨o.dst,g,dr&&eo ops j,.a q,az,[],[]⟩=M d:=aD;have b__:=hi b j _i;subst b__;rw[this];exact Kept.add λ_ _ h=>h
       simp at h
      simp at h
     |l q=>
      simp only at h;split at h
      .rename_i W;have⟨y,H',ν',e1,e2,e3,e4,e5⟩:=ER r rs h;have⟨g1,g2⟩:=D;refine⟨0,y,H',ν',Z,λq _=>?_,e2,e3,e4.weak (λ_ h=>h.elim),λ_=>⟨_i,e5⟩⟩
       unfold dn;rw[g1];simp only[<-gd.E]
       cases place with
       |none=>exact g2 _ _ e1|some c__=>
        have⟨b,j⟩:=c__;have u:dr=O:=J;subst u;have b__:=hi b j _i;subst b__;have Q:eo ops j=O:=by simpa using W
        simp only[Q,L'];exact g2 _ _ e1
      simp at h
     |e n=>exact D.elim|b=>
      simp only at h;split at h
      .cases h
      rename_i ar;have aO:dr=U:=by simpa using ar
      have aP:place=G:=by cases place with|none=>rfl|some c__=>rw[aO]at J;simp at J
      subst aP;split at h
      next x=>have⟨xs,h1,h2⟩:=ζg.1 h;have⟨l,h3,e⟩:=ζf.1 h2;simp only[ζc]at e;obtain⟨rfl,rfl⟩:=e;have⟨g1,y,e1,g2⟩:=D;have⟨y',_,e2,r1,r2⟩:=rs.inv;rw[e1]at e2;cases e2;have⟨zs,k1,k2⟩:=xK r1 r.obj h1;have hz:nM zs=M l:=CL k2 h3;have⟨q1,q2⟩:=g2 H zs l k1 hz;exact⟨0,_,H,ν,Z,λq _=>by unfold dn;rw[g1];simp only[vC,<-gd.E,q1,q2,B?],r,.v _ _ (.same _ _i),.refl,λ_=>⟨_i,.refl⟩⟩
      cases h
     |c=>
      simp only at h;have⟨g1,f',aV,e1,e2⟩:=D;have go:∀(f:Y')(args:R')(ak:So),ct ν st.m H Z args ak->lP F o.op=M (.fn f,ak)->eU S c o.dst dr (!dr||(dr&&eo ops i)) (e_ st.m fr) f args st=M (sv,e?)->
       Gj S ops place dr F o.op (BM ⟨o.dst,g,dr&&eo ops i,.c,az,[],[]⟩) ν Z st H sv e?:=λf args ak aQ aE aR=>by
       have⟨n,y,H',ν',Z',p1,p2,p3,p4,p5⟩:=TW (ops:=ops) (Rv:=λid=>∃b j,place=M (b,j)/\id=b+j) hS gd.prm J (λb j hp hn=>by
        have:=hi b j hp;subst this;simp only[ζh]at hn;exact hn.2) (λb j hp hn=>by have:=hi b j hp;subst this;rw[J,hp]at hn;simpa using hn) (λb j hp=>(K b j hp).2) r aQ aR
       refine⟨n,y,H',ν',Z',λq hq=>?_,p2,p3,p4,p5⟩
       have aS:zj ops place ak=O:=by cases place with|none=>rfl|some c__=>simp only[zj,hi _ _ _i,aw J g1];rfl
       unfold dn;rw[g1];simp only[aE,aS,L'];exact p1 q hq
      split at h
      next f a b vs=>have⟨w,ws,ew,r1,r2⟩:=rs.inv;rw[ew]at e1;simp only[List.cons.injEq]at e1;obtain⟨rfl,rfl⟩:=e1;obtain⟨a',b',rfl,ra,rb⟩:=r1.l_;exact go f _ _ ((ra.append r2).append rb) e2 h
      next f a b vs=>have⟨w,ws,ew,r1,r2⟩:=rs.inv;rw[ew]at e1;simp only[List.cons.injEq]at e1;obtain⟨rfl,rfl⟩:=e1;obtain⟨a',b',rfl,ra,rb⟩:=r1.fr.l_;exact go f _ _ (((ct.tE ra).append r2).append (ct.tE rb)) e2 h
      simp at h
    simp at h
   simp at E
  simp at E
 simp at E
end
end Go.VE
