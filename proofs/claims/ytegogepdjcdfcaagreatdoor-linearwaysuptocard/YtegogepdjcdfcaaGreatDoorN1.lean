/- Objects. -/
import Derived.Test.YtegogepdjcdfcaaGreatDoorV2
set_option linter.all false
open Option renaming some→M,some→_j,none→J,none→_p,bind→H,bind→_n
open Bool renaming true→U,true→_m,false→O,false→_o
open Decidable renaming decide→_r
open List renaming length→W,length→_l
open Go.IntKind renaming i64→N,i64→_q
open List renaming all_eq_true→O?,drop_drop→D!,drop_zero→Q!,getElem?_append_left→u?,getElem?_append_right→H?,getElem?_drop→L?,getElem?_set→C?,getElem?_set_ne→F?,getElem?_set_self→K?,getElem?_take→D?,mem_cons→n8,mem_of_getElem?→s?,take_length→M?
open Bool renaming false_eq_true→v?,not_eq_true'→Z?,or_eq_false_iff→i!,or_eq_true→q!
open Option renaming map_some→A?
open Nat renaming le_max_left→l!,le_max_right→j!,le_refl→y?,le_trans→W?
open List(length_eq_zero_iff mem_iff_getElem? replicate)
open Nat(le)
open Option(isSome_iff_exists)
open Nat(le)
open Prod(fst)
namespace Go.VE
variable[bZ]
inductive Fl where|nil|emp|row|part
 deriving DecidableEq,Inhabited
inductive SV where
 |v(x:V)|own(d:Nat)|ptr(d off:Nat)|el(d i off:Nat)|mp(d:Nat)|clo(f:FuncId)(a b:List SV)|tup(l:List SV)|agg(l:List SV)|yl(id:Nat)
 deriving Inhabited
abbrev Rd:=aX SV
inductive bE where
 |sl(k:Fl)(es:Nat)(xs:List (List V))|box(cs:List SV)|mp(kvs:List (V×V))|dp(k:Fl)(xs:List (List V))(h:Option (Nat×Nat))
abbrev Tb(α:Type):=aX (Nat×α)
def bk{α:Type}:Tb α->Nat->aY α
 |[],_=>J|(k,v)::r,n=>if k=n then M v else bk r n
def bH{α:Type}:Tb α->Nat->α->Tb α
 |[],n,v=>[(n,v)]|(k,x)::r,n,v=>if k=n then(k,v)::r else(k,x)::bH r n v
def dz{α:Type}(n:Nat):Tb α->Tb α
 |[]=>[]|(k,x)::r=>if k=n then dz n r else(k,x)::dz n r
def ql{α:Type}:ST->Tb α->Tb α
 |[],g=>g|d::ds,g=>ql ds (dz d g)
def zT{α:Type}:Tb α->ST->aX α->Tb α
 |g,p::ps,v::vs=>zT (bH g p v) ps vs|g,_,_=>g
def lR{α:Type}(g:Tb α):ST->aY (Tb α)
 |[]=>M []|n::r=>match bk g n,lR g r with
  |some v,M t=>M ((n,v)::t)|_,_=>J
structure St where
 g:Tb SV
 m:Tb bE
 pin:List Nat
 want:List (List V)
 more:Bool
 yid:Nat
structure G0 where
 part:Bool
 go:Nat->List (List V)->List V->Option (List (List V))
structure Sys where
 E:Env
 N:Nat->FuncId
 items:FuncId->List V->List V->Option (List (List V))
 AQ:FuncId->List V->Option V
 prm:FuncId->Option G0
inductive Arg where
 |s(n:Nat)|k(c:V)|f(name:Nat)
abbrev QR:=aX Arg
inductive Loc where
 |s(n:Nat)|c(b i:Nat)
inductive Gh where
 |melt(d:Nat)|take(d:Nat)(i:Loc)(es t:Nat)|put(d:Nat)|close(d:Nat)|closeB(d:Nat)|canon(l:Loc)(d:Nat)(es:Nat)|keep(gs ms:List Nat)|drop(ds:List Nat)|closeS(l:Loc)
abbrev Pi:=aX Gh
structure RO where
 dst:Option Nat
 gd:Option (Nat×Bool)
 now:Bool
 k:K
 az:List Arg
 dead:List Nat:=[]
 pre:List Gh:=[]
abbrev R0:=aX RO
inductive RC where
 |skip|ops(l:List RO)|vm(l:List RO)|seq(a b:RC)|cond(x:Arg)(a b:RC)|block(id:Nat)(c:RC)|loop(c:RC)|each(g:Arg)(ps:List Nat)(a b:RC)|exit(id:Nat)|ret|gh(x:Gh)(c:RC)|hg(c:RC)(x:Gh)
inductive RV where
 |s(n:Nat)|ld(n size:Nat)(agg:Bool)
abbrev Ps:=aX RV
structure RF where
 na:Nat
 rs:List RV
 body:RC
mutual
def SV.cM(d:Nat):SV->X'
 |.v _=>O|.own e=>e==d|.ptr e _=>e==d|.el e _ _=>e==d|.mp e=>e==d|.clo _ a b=>SV.dK d a||SV.dK d b|.tup l=>SV.dK d l|.agg l=>SV.dK d l|.yl _=>O
def SV.dK(d:Nat):Rd->X'
 |[]=>O|x::r=>SV.cM d x||SV.dK d r
end
def bE.cM(d:Nat):bE->X'
 |.box cs=>SV.dK d cs|.dp _ _ (M (_,t))=>t==d|_=>O
def wX(d:Nat):Tb SV->X'
 |[]=>O|(_,x)::r=>SV.cM d x||wX d r
def vk(d:Nat):Tb bE->X'
 |[]=>O|(_,x)::r=>bE.cM d x||vk d r
def St.new(st:St)(d:Nat):X':= !(st.pin.contains d)&&(bk st.m d).isNone&& !(wX d st.g)&& !(vk d st.m)
mutual
def SV.uN(d e:Nat):SV->SV
 |.v x=>.v x|.own k=>.own (if k=d then e else k)|.ptr k o=>.ptr (if k=d then e else k) o|.el k i o=>.el (if k=d then e else k) i o|.mp k=>.mp (if k=d then e else k)|.clo f a b=>.clo f (SV.yg d e a) (SV.yg d e b)|.tup l=>.tup (SV.yg d e l)|.agg l=>.agg (SV.yg d e l)|.yl id=>.yl id
def SV.yg(d e:Nat):Rd->Rd
 |[]=>[]|x::r=>SV.uN d e x::SV.yg d e r
end
def bE.uN(d e:Nat):bE->bE
 |.box cs=>.box (SV.yg d e cs)|.dp k xs (M (i,t))=>.dp k xs (M (i,if t=d then e else t))|o=>o
def C4(d e:Nat):Tb SV->Tb SV
 |[]=>[]|(n,x)::r=>(n,x.uN d e)::C4 d e r
def ym(d e:Nat):Tb bE->Tb bE
 |[]=>[]|(n,x)::r=>((if n=d then e else n),x.uN d e)::ym d e r
mutual
def SV.sub(d:Nat)(w:V):SV->SV
 |.own k=>if k=d then .v w else .own k|.clo f a b=>.clo f (SV.wH d w a) (SV.wH d w b)|.tup l=>.tup (SV.wH d w l)|.agg l=>.agg (SV.wH d w l)|x=>x
def SV.wH(d:Nat)(w:V):Rd->Rd
 |[]=>[]|x::r=>SV.sub d w x::SV.wH d w r
end
def c6:Rd->aY So
 |[]=>M []|.v x::r=>(c6 r).map (x::·)|_::_=>J
def U_(f:Y')(a b:Rd):SV:=
 match c6 a,c6 b with
 |some x,M y=>.v (.clo f x y)|_,_=>.clo f a b
mutual
def SV.EW(d:Nat)(cs:So):SV->SV
 |.ptr k o=>if k=d then(if o<=W cs then .v (.fptr (cs.drop o))else .ptr k o)else .ptr k o|.clo f a b=>U_ f (SV.ua d cs a) (SV.ua d cs b)|.tup l=>.tup (SV.ua d cs l)|.agg l=>.agg (SV.ua d cs l)|x=>x
def SV.ua(d:Nat)(cs:So):Rd->Rd
 |[]=>[]|x::r=>SV.EW d cs x::SV.ua d cs r
end
def Cs(f:SV->SV):Tb SV->Tb SV
 |[]=>[]|(n,x)::r=>(n,f x)::Cs f r
def mapM(f:Rd->Rd):Tb bE->Tb bE
 |[]=>[]|(n,.box cs)::r=>(n,.box (f cs))::mapM f r|(n,o)::r=>(n,o)::mapM f r
mutual
def SV.names:SV->ST
 |.own d|.ptr d _|.el d _ _|.mp d=>[d]|.clo _ a b=>SV.zp a++SV.zp b|.tup l=>SV.zp l|.agg l=>SV.zp l|_=>[]
def SV.zp:Rd->ST
 |[]=>[]|x::r=>SV.names x++SV.zp r
end
def sy:Tb SV->ST
 |[]=>[]|(_,x)::r=>SV.names x++sy r
def lJ(k:Fl)(es:Nat)(xs:S'):V:=
 match k with
 |.nil=>.bN|.emp=>.dH|_=>.fsl es xs
mutual
def V.lvl:Nat->V->X'
 |n,.fsl _ xs=>match n with|0=>O|n+1=>V.rU n xs
 |n,.fptr cs=>match n with|0=>O|n+1=>V.nq n cs
 |n,.fmap B=>match n with|0=>O|n+1=>V.vR n B
 |n,.agg cs=>match n with|0=>O|n+1=>V.nq n cs
 |n,.tup cs=>match n with|0=>O|n+1=>V.nq n cs
 |n,.clo _ a b=>match n with|0=>O|n+1=>V.nq n a&&V.nq n b
 |_,_=>U
def V.nq:Nat->So->X'
 |_,[]=>U|n,x::r=>V.lvl n x&&V.nq n r
def V.rU:Nat->S'->X'
 |_,[]=>U|n,x::r=>V.nq n x&&V.rU n r
def V.vR:Nat->aX (V×V)->X'
 |_,[]=>U|n,(k,x)::r=>V.lvl n k&&V.lvl n x&&V.vR n r
end
mutual
def shut(m:Tb bE):Nat->SV->aY V
 |_,.v x=>M x|_,.own d=>match bk m d with
  |some (.sl k es xs)=>M (lJ k es xs)|some (.dp k xs J)=>M (lJ k 1 xs)|_=>J
 |n+1,.ptr d o=>match bk m d with
  |some (.box cs)=>match dy m n cs with
   |some xs=>if o<=W xs then M (.fptr (xs.drop o))else J|none=>J
  |_=>J
 |_,.mp d=>match bk m d with
  |some (.mp B)=>M (.fmap B)|_=>J
 |n+1,.clo f a b=>match dy m n a,dy m n b with
  |some x,M y=>M (.clo f x y)|_,_=>J
 |n+1,.tup l=>(dy m n l).map .tup|n+1,.agg l=>(dy m n l).map .agg|_,_=>J
def dy(m:Tb bE):Nat->Rd->aY So
 |_,[]=>M []|n,x::r=>match shut m n x,dy m n r with
  |some y,M s=>M (y::s)|_,_=>J
end
end Go.VE
namespace Go.VE
variable[bZ]
mutual
def V.good:V->X'
 |.hsl ..|.hptr ..|.yld ..|.hmap ..=>O|.fsl _ xs=>V.pI xs|.fptr cs=>V.cT cs|.fmap B=>V.vv B|.clo _ a b=>V.cT a&&V.cT b|.agg cs=>V.cT cs|.tup cs=>V.cT cs|_=>U
def V.cT:So->X'
 |[]=>U|x::r=>V.good x&&V.cT r
def V.pI:S'->X'
 |[]=>U|x::r=>V.cT x&&V.pI r
def V.vv:aX (V×V)->X'
 |[]=>U|(k,x)::r=>V.good k&&V.good x&&V.vv r
end
abbrev dF:=Tb bE
abbrev cg:=FuncId->aX SV->dF->aY (aX SV×dF)
def tM(N:Nat->Y')(g:Tb SV):Arg->aY SV
 |.s n=>bk g n|.k c=>M (.v c)|.f s=>M (.v (.clo (N s) [] []))
def bU(N:Nat->Y')(g:Tb SV):QR->aY Rd
 |[]=>M []|x::r=>match tM N g x,bU N g r with
  |some v,M vs=>M (v::vs)|_,_=>J
def b7:Fl->X'
 |.row|.part=>U|_=>O
def nj(m:Tb bE):SV->X'
 |.own d|.ptr d _|.el d _ _|.mp d=>(bk m d).isSome|.clo ..=>U|_=>O
def An(m:Tb bE):SV->X'
 |.v x=>x.one|x=>nj m x
def Be(m:Tb bE):SV->aY Rd
 |.v x=>M (x.cells.map .v)|.agg l=>M l|x=>if nj m x then M [x]else J
def vF(m:Tb bE)(cells:Rd):aX (Nat×Nat)->Rd->aY Rd
 |[],[]=>M cells|(off,size)::pl,v::vs=>match Be m v with
  |some c=>if W c=size/\off+W c<=W cells then vF m (cells.take off++c++cells.drop (off+W c)) pl vs else J|none=>J
 |_,_=>J
def yF(size:Nat)(agg:X')(cs:Rd):aY SV:=
 if W cs=size then
  if agg then match c6 cs with
   |some u=>M (.v (.agg u))|none=>M (.agg cs)
  else match cs with
   |[x]=>M x|_=>J
 else J
def zQ(N:Nat->Y')(m:Tb bE):xN->Rd->aY SV
 |.id,[x]=>M x|.nilc,[.ptr d o]=>if(bk m d).isSome then M (.ptr d o)else J|.nilc,[.el d i o]=>if(bk m d).isSome then M (.el d i o)else J|.pick,[.v (.bool t),a,b]=>M (if t then a else b)|.bin (M .slice) _ .eql,[.own d,.v .bN]=>match bk m d with
  |some (.sl k _ _)=>if k=.emp then J else M (.v (.bool (k==.nil)))|_=>J
 |.bin (M .slice) _ .neq,[.own d,.v .bN]=>match bk m d with
  |some (.sl k _ _)=>if k=.emp then J else M (.v (.bool (!(k==.nil))))|_=>J
 |.fieldAddr off,[.ptr d o]=>if(bk m d).isSome then M (.ptr d (o+off))else J|.fieldAddr off,[.el d i o]=>if(bk m d).isSome then M (.el d i (o+off))else J|.idxS size,[.own d,.v (.int _ i)]=>match bk m d with
  |some (.sl k es xs)=>if b7 k/\es=size/\0<=i/\i.toNat<W xs then M (.el d i.toNat 0)else J|some (.dp k xs _)=>if b7 k/\1=size/\0<=i/\i.toNat<W xs then M (.el d i.toNat 0)else J|_=>J
 |.idxA len size,[.ptr d o,.v (.int _ i)]=>if 0<=i/\i<len/\(bk m d).isSome then M (.ptr d (o+i.toNat*size))else J|.idxA len size,[.el d j o,.v (.int _ i)]=>if 0<=i/\i<len/\(bk m d).isSome then M (.el d j (o+i.toNat*size))else J|.lenSl,[.own d]=>match bk m d with
  |some (.sl _ _ xs)=>M (.v (.int _q (W xs)))|some (.dp _ xs _)=>M (.v (.int _q (W xs)))|_=>J
 |.clo name k,vs=>M (.clo (N name) (vs.take k) (vs.drop k))|.ext i,[.tup l]=>l[i]?|.build zero pl,vs=>(vF m (zero.map .v) pl vs).map .agg|.field off size agg,[.agg l]=>yF size agg ((l.drop off).take size)|_,_=>J
def kj(N:Nat->Y')(m:Tb bE)(p:xN)(m?:Rd):aY SV:=
 match c6 m? with
 |some u=>(bT N p u).map .v|none=>zQ N m p m?
def PL(m:Tb bE)(d:Nat):SV->X'
 |.ptr B _=>B != d&&(match bk m B with|some (.box _)=>U|_=>O)|.v (.fptr _)=>U|_=>O
def qe(m:Tb bE):OW->Rd->aY SV
 |.load size agg,[.ptr d o]=>match bk m d with
  |some (.box cs)=>yF size agg ((cs.drop o).take size)|_=>J
 |.load size agg,[.el d i o]=>match bk m d with
  |some (.sl _ _ xs)=>match xs[i]?with
   |some cs=>(_n (cut cs o size) (mk agg)).map .v|none=>J
  |some (.dp _ _ (M (j,t)))=>if j=i/\o=0/\size=1/\agg=O then M (.own t)else J|_=>J
 |.load size agg,[.v p]=>(_n (fh [] p size) (mk agg)).map .v|.lookup kk z ok,[.mp d,.v k]=>match bk m d with
  |some (.mp B)=>if sC kk k then match jB k B 0 with
   |some (M (_,v))=>M (.v (if ok then .tup [v,.bool U]else v))|some J=>M (.v (if ok then .tup [z,.bool O]else z))|none=>J
   else J
  |_=>J
 |.lookup kk z ok,[.v p,.v k]=>(fS [] (.lookup kk z ok) [p,k]).map .v|.loadF size agg,.ptr d o::l=>if l.all (PL m d)=U then match bk m d with
  |some (.box cs)=>yF size agg ((cs.drop o).take size)|_=>J
  else J
 |_,_=>J
def fA(fr:ST):Rd->X'
 |[]=>U|.v _::r=>fA fr r|.ptr d _::r=> !(fr.contains d)&&fA fr r|.el d _ _::r=> !(fr.contains d)&&fA fr r|.mp d::r=> !(fr.contains d)&&fA fr r|_=>O
def oB(m:Tb bE)(a:TY)(m?:Rd)(d:Nat):aY (bE×SV):=
 match a,m? with
 |.alloc _ zero,[]=>M (.box (zero.map .v),.ptr d 0)|.box,[.v x]=>if x.cells.all V.one then M (.box (x.cells.map .v),.ptr d 0)else J|.box,[.agg l]=>if l.all (An m)then M (.box l,.ptr d 0)else J|.box,[x]=>if nj m x then M (.box [x],.ptr d 0)else J|.makeSl size zero,[.v (.int k n),.v (.int z c)]=>if k=_q/\z=_q/\0<=n/\n<=c/\c<=2147483648 then M (.sl (if n=c then .row else .part) size (replicate n.toNat zero),.own d)else J|.buildSl size len zero idx,u=>match c6 u with
  |some w=>if W idx=W w then(gB size (replicate len zero) (idx.zip w)).map λB=>(.sl .row size B,.own d)else J|none=>match u,zero with
   |[.own t],[.bN]=>if idx=[0]/\len=1/\size=1/\(bk m t).isSome then M (.dp .row [[.bN]] (M (0,t)),.own d)else J|_,_=>J
 |.makeMap,[]=>M (.mp [],.mp d)|_,_=>J
def jC(m:Tb bE)(size:Nat):SV->aY S'
 |.own d=>match bk m d with
  |some (.sl k es xs)=>if b7 k then(if es=size then M xs else J)else M []|_=>J
 |.v .bN=>M []|.v .dH=>M []|.v (.fsl es xs)=>if es=size then M xs else J|_=>J
def MO:SV->X'
 |.own _|.v .bN|.v .dH=>U|_=>O
def putCells(m:Tb bE)(size o:Nat)(sv:SV)(cs:Rd):aY Rd:=
 match sv with
 |.v x=>if W x.cells=size/\o+size<=W cs/\x.cells.all V.one=U then M (cs.take o++x.cells.map .v++cs.drop (o+size))else J|.agg l=>if W l=size/\o+size<=W cs/\l.all (An m)=U then M (cs.take o++l++cs.drop (o+size))else J|x=>if nj m x=U/\size=1/\o+1<=W cs then M (cs.take o++[x]++cs.drop (o+1))else J
def giveUp(m:Tb bE):SV->Tb bE
 |.own d=>dz d m|_=>m
def CZ(st:St)(dst:aY Nat)(size:Nat)(s x:SV):aY (SV×St):=
 match s,x,dst with
 |.own d,.own e,M t=>match bk st.m d,bk st.m e with
  |some (.dp k w J),M (.dp .row u J)=>
   if size=1/\d≠e/\u≠[]/\W w+W u<=2147483648 then
    let z:=dz e (dz d st.m)
    if St.new {st with m:=z} t then M (.own t,{st with m:=bH z t (.dp .row (w++u) J)})else J
   else J
  |_,_=>J
 |_,_,_=>J
def mZ(st:St)(dst:aY Nat):OC->Rd->aY (SV×St)
 |.store size,[.ptr d o,x]=>match bk st.m d with
  |some (.box cs)=>(putCells st.m size o x cs).map λcs=>(.v .undef,{st with m:=bH st.m d (.box cs)})|_=>J
 |.store size,[.el d i o,.v x]=>match bk st.m d with
  |some (.sl k es xs)=>match xs[i]?with
   |some cs=>if W x.cells=size/\o+size<=W cs/\x.cells.all V.one=U then
    M (.v .undef,{st with m:=bH st.m d (.sl k es (xs.set i (cs.take o++x.cells++cs.drop (o+W x.cells))))})else J
   |none=>J
  |_=>J
 |.store size,[.el d i o,.own t]=>match bk st.m d with
  |some (.dp k xs (M (j,_)))=>if j=i/\o=0/\size=1/\(bk st.m t).isSome/\t≠d then M (.v .undef,{st with m:=bH st.m d (.dp k xs (M (i,t)))})else J|_=>J
 |.mapUp kk,[.mp d,.v k,.v x]=>match bk st.m d with
  |some (.mp B)=>if sC kk k then(sZ k x B).map λB=>(.v .undef,{st with m:=bH st.m d (.mp B)})else J|_=>J
 |.append size,[s,x]=>match jC st.m size s,jC st.m size x with
  |some _,M []=>match dst with
   |some t=>match s with
    |.own d=>match bk st.m d with
     |some ob=>if St.new {st with m:=dz d st.m} t then M (.own t,{st with m:=bH (dz d st.m) t ob})else J|none=>J
    |.v .bN=>if st.new t then M (.own t,{st with m:=bH st.m t (.sl .nil size [])})else J|.v .dH=>if st.new t then M (.own t,{st with m:=bH st.m t (.sl .emp size [])})else J|_=>J
   |none=>J
  |some xs,M ys=>
   if W xs+W ys<=2147483648/\MO s=U then
    let m1:=giveUp st.m s
    match dst with
    |some t=>if St.new {st with m:=m1} t then M (.own t,{st with m:=bH m1 t (.sl .row size (xs++ys))})else J|none=>J
   else J
  |_,_=>CZ st dst size s x
 |.storeF size,.ptr d o::x::l=>if l.all (PL st.m d)=U then match bk st.m d with
  |some (.box cs)=>(putCells st.m size o x cs).map λcs=>(.v .undef,{st with m:=bH st.m d (.box cs)})|_=>J
  else J
 |_,_=>J
def Di(st:St)(dst:aY Nat)(size:Nat)(a b:X')(d:Nat)(B:Rd):aY (SV×St):=
 match bk st.m d,c6 B,dst with
 |some (.sl k es u),M z,M t=>
  if b7 k=U/\es=size then
   _n (oS a b z) λ(l,h)=>_n (ec (W u) l h) λ(l,h)=>
    let w:=dz d st.m
    if St.new {st with m:=w} t then M (.own t,{st with m:=bH w t (.sl .part es ((u.take h).drop l))})else J
  else J
 |_,_,_=>J
def DV:Rd->SV
 |[x]=>x|l=>.tup l
mutual
def SV.CD:SV->ST
 |.v _=>[]|.own e=>[e]|.ptr e _=>[e]|.el e _ _=>[e]|.mp e=>[e]|.clo _ a b=>SV.um a++SV.um b|.tup l=>SV.um l|.agg l=>SV.um l|.yl _=>[]
def SV.um:Rd->ST
 |[]=>[]|x::r=>SV.CD x++SV.um r
end
def bE.CD:bE->ST
 |.box cs=>SV.um cs|.dp _ _ (M (_,t))=>[t]|_=>[]
def reach(m:Tb bE):Nat->ST->ST->ST
 |0,_,seen=>seen|_+1,[],seen=>seen|n+1,d::r,seen=>if seen.contains d then reach m n r seen else reach m n ((match bk m d with|some ob=>bE.CD ob|none=>[])++r) (seen++[d])
def handed(m:Tb bE)(l:Rd):aY dF:=lR m (reach m 32 (SV.um l) [])
mutual
def SV.bare:SV->X'
 |.v x=>x.scalar|.clo _ a b=>SV.Al a&&SV.Al b|.tup l=>SV.Al l|.agg l=>SV.Al l|_=>U
def SV.Al:Rd->X'
 |[]=>U|x::r=>SV.bare x&&SV.Al r
end
def bE.bare:bE->X'
 |.box cs=>SV.Al cs|_=>O
def AM(m:Tb bE)(k:Nat):X':=match bk m k with
 |some ob=>ob.bare|none=>U
def within(B:ST)(ob:bE):X':=ob.CD.all B.contains
def Bp(B:ST)(m':dF):ST->Tb bE->aY (Tb bE)
 |[],m=>M m|d::r,m=>match bk m' d with
  |some ob=>if within B ob then Bp B m' r (bH m d ob)else J|none=>J
def lY(m':dF)(l:ST)(m:Tb bE):aY (Tb bE):=Bp l m' l m
def nU(xs:S'):X':=xs.all λx=>x.all V.scalar
def Cr(q:G0)(dst:aY Nat)(args:Rd)(st:St):aY (SV×St):=
 match args with
 |.own d::z=>match bk st.m d,c6 z with
  |some (.sl k es u),M B=>match q.go es u B with
   |some w=>if q.part then match dst with
    |some t=>if St.new {st with m:=dz d st.m} t then M (.own t,{st with m:=bH (dz d st.m) t (if b7 k then .sl .part es w else .sl k es u)})else J|none=>J
    else M (.v .undef,{st with m:=bH st.m d (if b7 k then .sl k es w else .sl k es u)})
   |none=>J
  |_,_=>J
 |_=>J
def rowsOf(m:Tb bE):Rd->aY ST
 |[]=>M []|.v _::r=>rowsOf m r|.own d::r=>match bk m d with
  |some (.sl ..)=>(rowsOf m r).map (d::·)|_=>J
 |_=>J
def fD(S:Sys)(c:cg)(dst:aY Nat)(dr now:X')(old:Rd->X')(f:Y')(args:Rd)(st:St):aY (SV×St):=
 if S.E.keep f then
  if now then
   if S.E.own f then
    match dy st.m 8 args with
    |some az=>
     match c f (az.map .v) []with
     |some (rs,m')=>match c6 rs with
      |some u=>if(result u).scalar then M (.v (result u),st)else J|none=>match rs,dst with
       |.own e::i?,M t=>match bk m' e,c6 i? with
        |some (.sl .row es z),M u=>
         if V.c7 u&&nU z&&st.new t then
          M (DV (.own t::u.map .v),{st with m:=bH st.m t (.sl .row es z)})
         else J
        |some (.sl .nil es _),M u=>if V.c7 u&&st.new t then M (DV (.own t::u.map .v),{st with m:=bH st.m t (.sl .nil es [])})else J|some (.sl .emp es _),M u=>if V.c7 u&&st.new t then M (DV (.own t::u.map .v),{st with m:=bH st.m t (.sl .emp es [])})else J|_,_=>J
       |_,_=>J
     |none=>J
    |none=>J
   else match S.prm f with
    |some q=>if dr then J else Cr q dst args st|none=>match handed st.m args with
    |some os=>match c f args os with
     |some (rs,m')=>match c6 rs,lY m' (os.map (·.1)) st.m with
      |some u,M w=>if dr&& !(V.c7 u&&os.all λx=>AM w x.1)then J else M (.v (result u),{st with m:=w})|none,M w=>if dr then J else match rs,dst with
       |.own e::i?,M t=>match bk m' e,c6 i? with
        |some (.sl k es z),M u=>if !(os.map (·.1)).contains e&&St.new {st with m:=w} t then M (DV (.own t::u.map .v),{st with m:=bH w t (.sl k es z)})else J|_,_=>J
       |.v p::.own e::i?,M t=>match bk m' e,c6 i? with
        |some (.sl k es z),M u=>if !(os.map (·.1)).contains e&&St.new {st with m:=w} t then M (.tup (.v p::.own t::u.map .v),{st with m:=bH w t (.sl k es z)})else J|_,_=>J
       |_,_=>J
      |_,_=>J
     |none=>J
    |none=>J
  else if(S.E.own f||S.E.soft f)&&old args then match dy st.m 8 args with
   |some az=>match c f (az.map .v) []with
    |some (rs,m')=>match dy m' 8 rs with
     |some u=>if(result u).scalar||(c6 args).isSome then M (.v (result u),st)else J|none=>J
    |none=>J
   |none=>J
  else J
 else match dy st.m 8 args with
  |some az=>if now||old args then
   match c f (az.map .v) []with
   |some (rs,m')=>match dy m' 8 rs with
    |some u=>if(result u).scalar||(c6 args).isSome then M (.v (result u),st)
     else if now then(rowsOf st.m args).map λds=>(.v (result u),{st with m:=ql ds st.m})
     else J
    |none=>J
   |none=>J
   else J
  |none=>J
def gb(m:Tb bE)(fr:ST)(args:Rd):X':=fr.all λd=> !(SV.dK d args)&& !(vk d m)
def DQ:K->X'
 |.p (.build zero _)=>V.cT zero|.r (.lookup _ z _)=>z.good|.a (.alloc _ zero)=>V.cT zero&&zero.all V.one|.a (.makeSl _ zero)=>V.cT zero|.a (.buildSl _ _ zero _)=>V.cT zero|_=>U
def oa(S:Sys)(c:cg)(dr:X')(fr:ST)(o:RO)(st:St):aY (SV×St):=
 match bU S.N st.g o.az with
 |some u=>match o.k with
  |.p (.slice size lo hi)=>match u with
   |.own d::z=>if dr then J else Di st o.dst size lo hi d z|u=>(kj S.N st.m (.slice size lo hi) u).map λx=>(x,st)
  |.p p=>(kj S.N st.m p u).map λx=>(x,st)|.r r=>if !dr||o.now||fA fr u then(qe st.m r u).map λx=>(x,st)else J|.a a=>match o.dst with
   |some d=>if st.new d then(oB st.m a u d).map λ(ob,x)=>(x,{st with m:=bH st.m d ob})else J|none=>J
  |.l l=>if !dr||o.now then mZ st o.dst l u else J|.c=>match u with
   |.clo f a b::w=>fD S c o.dst dr (!dr||o.now) (gb st.m fr) f (a++w++b) st|.v (.clo f a b)::w=>fD S c o.dst dr (!dr||o.now) (gb st.m fr) f (a.map .v++w++b.map .v) st|_=>J
  |.b=>if dr then J else match u with
   |[x]=>_n (jC st.m 1 x) λB=>(nK B).map λl=>(.v (.str (oA l)),st)|_=>J
  |.e n=>match u with
   |[.v .bN,x]=>mZ st o.dst (.append n) [.v .bN,x]|[.v .dH,x]=>mZ st o.dst (.append n) [.v .dH,x]|_=>J
 |none=>J
def cQ(st:St)(dst:aY Nat)(x:SV):St:=
 match dst with
 |none=>st|some d=>{st with g:=bH st.g d x}
def wanted(g:Tb SV):aY (Nat×X')->aY X'
 |none=>M U|some (s,b)=>match bk g s with
  |some (.v (.bool c))=>M (c==b)|some (.v _)=>M O|_=>J
def BW(o:RO):aY Nat:=
 match o.k with
 |.p _|.r _=>J|_=>o.dst
def tW(fr:ST)(o:RO):ST:=
 match BW o with
 |some d=>d::fr|none=>fr
def bt(H:bl)(id:Nat):aY (Nat×S'):=_n (H[id]?) Ob.rows
mutual
theorem V.od:∀{x:V},x.good=U->x.closed=U
 |.hsl ..,h|.hptr ..,h|.yld _,h|.hmap _,h=>by simp[V.good]at h|.fsl ..,_|.fptr ..,_|.fmap ..,_=>rfl|.bool _,_|.int ..,_|.str _,_|.dH,_|.bN,_|.jt,_|.iE,_|.uO,_=>rfl|.clo _ a b,h=>by simp only[V.good,ζh]at h;simp only[V.closed,ζh];exact⟨V.qN h.1,V.qN h.2⟩|.agg cs,h=>by simp only[V.good]at h;simp only[V.closed];exact V.qN h|.tup cs,h=>by simp only[V.good]at h;simp only[V.closed];exact V.qN h
theorem V.qN:∀{l:aX V},V.cT l=true->V.jw l=true
 | [],_=>rfl
 | x::r,h=>by
  simp only[V.cT,ζh]at h;simp only[V.jw,ζh];exact⟨V.od h.1,V.qN h.2⟩
end
theorem jh:∀{l:So},V.cT l=U↔∀(j:Nat)u,l[j]?=M u->u.good=U
 |[]=>by simp[V.cT]|x::l=>by simp[V.cT,jh];constructor;grind;intro h;exact⟨h 0 x Y,λj u a=>h (j+1) u h?⟩
theorem mH:∀{l:S'},V.pI l=U↔∀(j:Nat)u,l[j]?=M u->V.cT u=U
 |[]=>by simp[V.pI]|x::l=>by simp[V.pI,mH];constructor;grind;intro h;exact⟨h 0 x Y,λj u a=>h (j+1) u h?⟩
def Jx:∀{l:aX (V×V)},V.vv l=U↔∀(j:Nat)u,l[j]?=M u->u.1.good=U/\u.2.good=U
 |[]=>by simp[V.vv]|(k,x)::l=>by simp only[V.vv,ζh,Jx];constructor;grind;intro h;exact⟨h 0 (k,x) Y,λj u a=>h (j+1) u h?⟩
theorem BD{l:So}(n:Nat)(h:V.cT l=U):V.cT (l.drop n)=U:=jh.2 λj u a=>jh.1 h (n+j) u h?
inductive FR(H:bl)(Z:Nat->Prop):V->V->Prop
 |same(x:V)(h:x.good=true):FR H Z x x|fsl(es:Nat)(xs:List (List V))(id off:Nat)(ys:List (List V))(hz:Z id)(hr:bt H id=some (es,ys))(hl:off+xs.length<=ys.length)
  (hc:∀(i:Nat)a b,xs[i]?=some a->ys[off+i]?=some b->a.length=b.length)
  (hv:∀(i j:Nat)a b u v,xs[i]?=some a->ys[off+i]?=some b->a[j]?=some u->b[j]?=some v->FR H Z u v):FR H Z (.fsl es xs) (.hsl id es off xs.length)
 |fptr(xs:List V)(id el off es:Nat)(ys:List (List V))(cs:List V)(hz:Z id)(hr:bt H id=some (es,ys))(he:ys[el]?=some cs)(ho:off<=cs.length)(hx:xs.length=cs.length-off)
  (hv:∀(j:Nat)u v,xs[j]?=some u->cs[off+j]?=some v->FR H Z u v):FR H Z (.fptr xs) (.hptr id el off)
 |clo(f:FuncId)(a b a' b':List V)(ha:a.length=a'.length)(hb:b.length=b'.length)(hva:∀(j:Nat)u v,a[j]?=some u->a'[j]?=some v->FR H Z u v)(hvb:∀(j:Nat)u v,b[j]?=some u->b'[j]?=some v->FR H Z u v):FR H Z (.clo f a b) (.clo f a' b')|agg(a a':List V)(ha:a.length=a'.length)(hva:∀(j:Nat)u v,a[j]?=some u->a'[j]?=some v->FR H Z u v):FR H Z (.agg a) (.agg a')|tup(a a':List V)(ha:a.length=a'.length)(hva:∀(j:Nat)u v,a[j]?=some u->a'[j]?=some v->FR H Z u v):FR H Z (.tup a) (.tup a')
def dB(H:bl)(Z:Nat->Prop)(xs ys:So):Prop:=W xs=W ys/\∀(j:Nat)u v,xs[j]?=M u->ys[j]?=M v->FR H Z u v
def gM(H:bl)(Z:Nat->Prop)(xs ys:S'):Prop:=W xs=W ys/\∀(j:Nat)u v,xs[j]?=M u->ys[j]?=M v->dB H Z u v
section
variable{H H':bl}{Z Z':Nat->Prop}
def FR.mono(h:∀id,Z id->Z' id/\bt H' id=bt H id){x y:V}(r:FR H Z x y):FR H' Z' x y:=by induction r with|same x h=>exact .same x h|fsl es B id off C D hr d hc hv G=>exact .fsl es B id off C (h id D).1 h? d hc G|fptr B id el off es C cs D hr L i Q hv G=>exact .fptr B id el off es C cs (h id D).1 h? L i Q G|clo f a b w S z T hva g u I=>exact .clo f a b w S z T u I|agg a w z hva u=>exact .agg a w z u|tup a w z hva u=>exact .tup a w z u
def dB.mono(h:∀id,Z id->Z' id/\bt H' id=bt H id){x y:So}(r:dB H Z x y):dB H' Z' x y:=⟨r.1,λj u v a b=>(r.2 j u v a b).mono h⟩
def gM.mono(h:∀id,Z id->Z' id/\bt H' id=bt H id){x y:S'}(r:gM H Z x y):gM H' Z' x y:=⟨r.1,λj u v a b=>(r.2 j u v a b).mono h⟩
def dB.nil:dB H Z [] []:=⟨Y,f?⟩
def dB.cons{x y:V}{xs ys:So}(h:FR H Z x y)(r:dB H Z xs ys):dB H Z (x::xs) (y::ys):=by refine⟨by simp[r.1],λj u v a b=>?_⟩;cases j with|zero=>grind|succ j=>exact r.2 j u v h? h?
def dB.inv{x:V}{xs B:So}(r:dB H Z (x::xs) B):∃y ys,B=y::ys/\FR H Z x y/\dB H Z xs ys:=by cases B with|nil=>have:=r.1;grind|cons y ys=>refine⟨y,ys,Y,r.2 0 x y Y Y,by have:=r.1;grind,λj u v a b=>r.2 (j+1) u v h? h?⟩
def dB.cW{B:So}(r:dB H Z [] B):B=[]:=by have:=r.1;grind
theorem dB.get{xs ys:So}(r:dB H Z xs ys){j:Nat}{u:V}(h:xs[j]?=M u):∃v,ys[j]?=M v/\FR H Z u v:=by
 have w:=(ζe.1 h).1;have:j<W ys:=by rw[<-r.1];omega
 exact⟨ys[j],ζd this,r.2 j u _ h (ζd this)⟩
theorem gM.get{xs ys:S'}(r:gM H Z xs ys){j:Nat}{u:So}(h:xs[j]?=M u):∃v,ys[j]?=M v/\dB H Z u v:=by
 have w:=(ζe.1 h).1;have:j<W ys:=by rw[<-r.1];omega
 exact⟨ys[j],ζd this,r.2 j u _ h (ζd this)⟩
def dB.append{a b c d:So}(h:dB H Z a b)(k:dB H Z c d):dB H Z (a++c) (b++d):=by refine⟨by simp[h.1,k.1],λj u v e f=>?_⟩;by_cases w:j<W a;rw[u? w]at e;rw[u? (by rw[<-h.1];omega)]at f;exact h.2 j u v e f;rw[H? c?]at e;rw[H? (by rw[<-h.1];omega),<-h.1]at f;exact k.2 _ u v e f
def gM.append{a b c d:S'}(h:gM H Z a b)(k:gM H Z c d):gM H Z (a++c) (b++d):=by refine⟨by simp[h.1,k.1],λj u v e f=>?_⟩;by_cases w:j<W a;rw[u? w]at e;rw[u? (by rw[<-h.1];omega)]at f;exact h.2 j u v e f;rw[H? c?]at e;rw[H? (by rw[<-h.1];omega),<-h.1]at f;exact k.2 _ u v e f
def dB.take{a b:So}(h:dB H Z a b)(n:Nat):dB H Z (a.take n) (b.take n):=by
 refine⟨by simp[h.1],λj u v c d=>?_⟩;rw[D?]at c d;split at c;next w=>rw[L' w]at d;exact h.2 j u v c d
 grind
def dB.drop{a b:So}(h:dB H Z a b)(n:Nat):dB H Z (a.drop n) (b.drop n):=by refine⟨by simp[h.1],λj u v c d=>?_⟩;rw[L?]at c d;exact h.2 _ u v c d
def gM.take{a b:S'}(h:gM H Z a b)(n:Nat):gM H Z (a.take n) (b.take n):=by
 refine⟨by simp[h.1],λj u v c d=>?_⟩;rw[D?]at c d;split at c;next w=>rw[L' w]at d;exact h.2 j u v c d
 grind
def gM.drop{a b:S'}(h:gM H Z a b)(n:Nat):gM H Z (a.drop n) (b.drop n):=by refine⟨by simp[h.1],λj u v c d=>?_⟩;rw[L?]at c d;exact h.2 _ u v c d
theorem dB.set{a b:So}(h:dB H Z a b)(n:Nat){x y:V}(B:FR H Z x y):dB H Z (a.set n x) (b.set n y):=by refine⟨by simp[h.1],λj u v c d=>?_⟩;rw[C?]at c d;split at c;grind;rename_i e;rw[M' e]at d;exact h.2 j u v c d
theorem gM.set{a b:S'}(h:gM H Z a b)(n:Nat){x y:So}(B:dB H Z x y):gM H Z (a.set n x) (b.set n y):=by refine⟨by simp[h.1],λj u v c d=>?_⟩;rw[C?]at c d;split at c;grind;rename_i e;rw[M' e]at d;exact h.2 j u v c d
theorem dB.same{l:So}(h:V.cT l=U):dB H Z l l:=⟨Y,λj u v a b=>by rw[a]at b;cases b;exact .same u (jh.1 h j u a)⟩
def FR.good{x y:V}(r:FR H Z x y):x.good=U:=by induction r with|same x h=>omega|fsl es C id off D G hr o hc hv I=>refine mH.2 λi a z=>jh.2 λj u c=>?_;grind|fptr C id el off es D cs G hr Q S T hv I=>refine jh.2 λj u c=>?_;grind|clo f a b B g z q hva d w L=>simp[V.good];refine⟨jh.2 λj u c=>?_,jh.2 λj u c=>?_⟩;grind;grind|agg a B z hva w=>refine jh.2 λj u c=>?_;grind|tup a B z hva w=>simp[V.good];refine jh.2 λj u c=>?_;grind
theorem FR.closed {x y:V} (r:FR H Z x y):x.closed=true:=V.od r.good
def dB.good{xs ys:So}(r:dB H Z xs ys):V.cT xs=U:=jh.2 λj u a=>by have⟨v,_,h⟩:=r.get a;exact h.good
def gM.good{xs ys:S'}(r:gM H Z xs ys):V.pI xs=U:=mH.2 λj u a=>by have⟨v,_,h⟩:=r.get a;exact h.good
def FR.bool{b:X'}{y:V}(r:FR H Z (.bool b) y):y=.bool b:=by cases r;rfl
def FR.int{k:T2}{n:Int}{y:V}(r:FR H Z (.int k n) y):y=.int k n:=by cases r;rfl
def FR.str{s:U'}{y:V}(r:FR H Z (.str s) y):y=.str s:=by cases r;rfl
def FR.dH{y:V}(r:FR H Z .dH y):y=.dH:=by cases r;rfl
def FR.bN{y:V}(r:FR H Z .bN y):y=.bN:=by cases r;rfl
def FR.jt{y:V}(r:FR H Z .jt y):y=.jt:=by cases r;rfl
def FR.iE{y:V}(r:FR H Z .iE y):y=.iE:=by cases r;rfl
def FR.uO{y:V}(r:FR H Z .uO y):y=.uO:=by cases r;rfl
def FR.fmap{B:aX (V×V)}{y:V}(r:FR H Z (.fmap B) y):y=.fmap B:=by cases r;rfl
def FR.jV{a:So}{y:V}(r:FR H Z (.agg a) y):∃a',y=.agg a'/\dB H Z a a':=by cases r with|same _ h=>exact⟨a,rfl,.same (by simpa[V.good]using h)⟩|agg _ a' u hva=>exact⟨a',Y,u,hva⟩
def FR.s6{a:So}{y:V}(r:FR H Z (.tup a) y):∃a',y=.tup a'/\dB H Z a a':=by cases r with|same _ h=>exact⟨a,rfl,.same (by simpa[V.good]using h)⟩|tup _ a' u hva=>exact⟨a',Y,u,hva⟩
def FR.mc{f:Y'}{a b:So}{y:V}(r:FR H Z (.clo f a b) y):∃a' B,y=.clo f a' B/\dB H Z a a'/\dB H Z b B:=by cases r with|same _ h=>simp[V.good]at h;exact⟨a,b,rfl,.same h.1,.same h.2⟩|clo _ _ _ a' B w z hva u=>exact⟨a',B,Y,⟨w,hva⟩,⟨z,u⟩⟩
def FR.ot{es:Nat}{xs:S'}{y:V}(r:FR H Z (.fsl es xs) y):y=.fsl es xs\/
 ∃id off ys,y=.hsl id es off (W xs)/\Z id/\bt H id=M (es,ys)/\off+W xs<=W ys/\gM H Z xs ((ys.drop off).take (W xs)):=by
 cases r with
 |same _ h=>grind|fsl _ _ id off ys z hr B hc hv=>
  refine .inr ⟨id,off,ys,Y,z,hr,B,by simp;omega,λj u v a w=>?_⟩
  have C:=(ζe.1 a).1;rw[D?,L' C,L?]at w;exact⟨hc j u v a w,λi s t D G=>hv j i u v s t a w D G⟩
def FR.G7{es:Nat}{xs:S'}{id off:Nat}{ys:S'}(B:Z id)(c:bt H id=M (es,ys))(D:off+W xs<=W ys)(h:gM H Z xs ((ys.drop off).take (W xs))):
 FR H Z (.fsl es xs) (.hsl id es off (W xs)):=by
 have key:∀(i:Nat)a b,xs[i]?=M a->ys[off+i]?=M b->dB H Z a b:=λi a b w z=>by refine h.2 i a b w ?_;grind
 exact .fsl es xs id off ys B c D (λi a b w z=>(key i a b w z).1) (λi j a b u v w z d e=>(key i a b w z).2 j u v d e)
def FR.oD{xs:So}{y:V}(r:FR H Z (.fptr xs) y):y=.fptr xs\/
 ∃id el off es ys cs,y=.hptr id el off/\Z id/\bt H id=M (es,ys)/\ys[el]?=M cs/\off<=W cs/\dB H Z xs (cs.drop off):=by
 cases r with
 |same _ h=>grind|fptr _ id el off es ys cs w hr z B D hv=>
  refine .inr ⟨id,el,off,es,ys,cs,Y,w,hr,z,B,p?,λj u v a C=>?_⟩
  grind
def FR.F_{xs:So}{id el off es:Nat}{ys:S'}{cs:So}(B:Z id)(a:bt H id=M (es,ys))(D:ys[el]?=M cs)(G:off<=W cs)(h:dB H Z xs (cs.drop off)):FR H Z (.fptr xs) (.hptr id el off):=.fptr xs id el off es ys cs B a D G (by have:=h.1;grind) (λj u v b c=>h.2 j u v b h?)
def FR.cells{x y:V}(r:FR H Z x y):dB H Z x.cells y.cells:=by
 have one:∀{a b:V},FR H Z a b->dB H Z [a] [b]:=λh=>.cons h .nil
 cases r with
 |same _ h=>cases x<;>first|exact one (.same _ h)|(exact dB.same h)
 |fsl es z id off B C hr G hc hv=>exact one (.fsl es z id off B C hr G hc hv)|fptr z id el off es B cs C hr I d L hv=>exact one (.fptr z id el off es B cs C hr I d L hv)|clo f a b w g u Q hva D=>exact one (.clo f a b w g u Q hva D)|agg a w u hva=>exact⟨u,hva⟩|tup a w u hva=>exact one (.tup a w u hva)
def FR.one{x y:V}(r:FR H Z x y):y.one=x.one:=by cases r<;>rfl
def dB.one:∀{xs ys:So},dB H Z xs ys->ys.all V.one=xs.all V.one
 |[],ys,r=>by rw[r.cW]|x::xs,D,r=>by obtain⟨y,ys,rfl,h,B⟩:=r.inv;simp[h.one,B.one]
def tV:∀{l:So},V.c7 l=U↔∀(j:Nat)u,l[j]?=M u->u.scalar=U
 |[]=>by simp[V.c7]|x::l=>by simp[V.c7,tV];constructor;grind;intro h;exact⟨h 0 x Y,λj u a=>h (j+1) u h?⟩
def FR.scalar{x y:V}(r:FR H Z x y):(x.scalar=U->y=x)/\y.scalar=x.scalar:=by
 have key:∀(a w:So),W a=W w->(∀(j:Nat)u v,a[j]?=M u->w[j]?=M v->(u.scalar=U->v=u)/\v.scalar=u.scalar)->(V.c7 a=U->w=a)/\V.c7 w=V.c7 a:=by intro a w B G;have b:V.c7 a=U->w=a:=(by intro I;refine(List.ext_getElem B λj b C=>?_).symm;exact(((G j _ _ (ζd b) (ζd C)).1 (tV.1 I j _ (ζd b)))).symm);refine⟨b,?_⟩;cases I:V.c7 a with|true=>grind|false=>cases D:V.c7 w with|false=>rfl|true=>have:V.c7 a=U:=tV.2 λj u c=>(by have d:j<W w:=h?;have:=(G j u _ c (ζd d)).2;rw[<-this];exact tV.1 D j _ (ζd d));grind
 induction r with|same x h=>grind|fsl=>exact⟨λh=>by simp[V.scalar]at h,rfl⟩|fptr=>exact⟨λh=>by simp[V.scalar]at h,rfl⟩|clo=>exact⟨λh=>by simp[V.scalar]at h,rfl⟩|agg a w B hva z=>have⟨b,C⟩:=key a w B z;exact⟨λh=>by rw[b (by simpa[V.scalar]using h)],by simpa[V.scalar]using C⟩|tup a w B hva z=>have⟨b,C⟩:=key a w B z;exact⟨λh=>by rw[b (by simpa[V.scalar]using h)],by simpa[V.scalar]using C⟩
def dB.scalar{a a':So}(r:dB H Z a a'):(V.c7 a=U->a'=a)/\V.c7 a'=V.c7 a:=by have⟨b,u⟩:=FR.scalar (.tup a a' r.1 r.2);simp[V.scalar]at b u;grind
def t_:∀{l:So}{a:SW},jH l=M a->V.c7 l=U
 |[],_,_=>rfl|x::l,a,h=>by unfold jH at h;split at h;grind;(next n r e=>cases e;have⟨b,B,_⟩:=ζf.1 h;simp[V.c7,V.scalar];exact t_ B);grind
end
mutual
theorem lM:∀{x:V},x.scalar=U->x.good=U
 |.bool _,_|.int ..,_|.str _,_|.jt,_|.iE,_|.uO,_|.dH,_|.bN,_=>rfl|.agg cs,h=>by simp only[V.scalar]at h;simp only[V.good];exact sG h|.tup cs,h=>by simp only[V.scalar]at h;simp only[V.good];exact sG h|.fsl ..,h|.hsl ..,h|.fptr ..,h|.hptr ..,h|.clo ..,h|.yld _,h|.fmap _,h|.hmap _,h=>by simp[V.scalar]at h
theorem sG:∀{l:aX V},V.c7 l=true->V.cT l=true
 | [],_=>rfl
 | x::r,h=>by
  simp only[V.c7,ζh]at h;simp only[V.cT,ζh];exact⟨lM h.1,sG h.2⟩
end
section
variable{H H':bl}{Z Z':Nat->Prop}
def mD{f:V->aY V}:∀{xs ys:So},W xs=W ys->(∀(j:Nat)u v,xs[j]?=M u->ys[j]?=M v->f v=M u)->jI f ys=M xs
 |[],[],_,_=>rfl|[],y::ys,h,_=>p?|x::xs,[],h,_=>p?|x::xs,y::ys,h,B=>by simp[jI,B 0 x y Y Y,mD (xs:=xs) (ys:=ys) h? λj u v a b=>B (j+1) u v h? h?]
def La{f:V->aY V}:∀{xs ys:S'},W xs=W ys->(∀(j:Nat)u v,xs[j]?=M u->ys[j]?=M v->jI f v=M u)->nP f ys=M xs
 |[],[],_,_=>rfl|[],y::ys,h,_=>p?|x::xs,[],h,_=>p?|x::xs,y::ys,h,B=>by simp[nP,B 0 x y Y Y,La (xs:=xs) (ys:=ys) h? λj u v a b=>B (j+1) u v h? h?]
def rK:∀{l:So},V.jw l=U↔∀(j:Nat)u,l[j]?=M u->u.closed=U
 |[]=>by simp[V.jw]|x::l=>by simp[V.jw,rK];constructor;grind;intro h;exact⟨h 0 x Y,λj u a=>h (j+1) u h?⟩
def oH:∀{l:So}{n:Nat},V.nq n l=U↔∀(j:Nat)u,l[j]?=M u->u.lvl n=U
 |[],n=>by simp[V.nq]|x::l,n=>by simp[V.nq,oH];constructor;grind;intro h;exact⟨h 0 x Y,λj u a=>h (j+1) u h?⟩
def Jr:∀{l:S'}{n:Nat},V.rU n l=U↔∀(j:Nat)u,l[j]?=M u->V.nq n u=U
 |[],n=>by simp[V.rU]|x::l,n=>by simp[V.rU,Jr];constructor;grind;intro h;exact⟨h 0 x Y,λj u a=>h (j+1) u h?⟩
theorem eZ(n:Nat)(H:bl){x:V}(h:x.closed=U):borrow n H x=M x:=kT n H h
theorem FR.borrow{x y:V}(r:FR H Z x y):∀n,x.lvl n=true->borrow n H y=some x:=by
 induction r with
 |same x h=>grind[eZ,V.od]|fsl es o id off q W hr X hc d L=>intro n z;cases n with|zero=>grind[V.lvl]|succ n=>unfold Go.VE.borrow;unfold bt at hr;simp only[V.closed,v?,_a,hr,true_and,L' X,ζf];refine⟨o,La (by simp;omega) λj u v c B=>?_,rfl⟩;have Y:=(ζe.1 c).1;rw[D?,L' Y,L?]at B;refine mD (hc j u v c B) λi s t Q e=>L j i u v s t c B Q e n (oH.1 (Jr.1 z j u c) i s Q)
 |fptr o id el off es q cs W hr he ho hx d L=>intro n z;cases n with|zero=>grind[V.lvl]|succ n=>unfold Go.VE.borrow;unfold bt at hr;simp only[V.closed,v?,_a,hr,he,L' ho,ζf];refine⟨o,mD p? λj u v c B=>?_,rfl⟩;rw[L?]at B;exact L j u v c B n (oH.1 z j u c)
 |clo f a b D S G T hva aa C I=>intro n z;cases n with|zero=>grind[V.lvl]|succ n=>simp[V.lvl]at z;by_cases w:(V.clo f D S).closed=true;rw[eZ _ _ w];simp[V.closed]at w;have e1:D=a:=(by have:=mD G λj u v c d=>C j u v c d n (oH.1 z.1 j u c);have A:=mD rfl λj u v c d=>(by rw[c]at d;cases d;exact eZ n H (rK.1 w.1 j u c));grind);have e2:S=b:=(by have:=mD T λj u v c d=>I j u v c d n (oH.1 z.2 j u c);have A:=mD rfl λj u v c d=>(by rw[c]at d;cases d;exact eZ n H (rK.1 w.2 j u c));grind);simp_all;unfold Go.VE.borrow;rw[M' w];simp[mD G λj u v c d=>C j u v c d n (oH.1 z.1 j u c),mD T λj u v c d=>I j u v c d n (oH.1 z.2 j u c)]
 |agg a D G hva C=>intro n z;cases n with|zero=>grind[V.lvl]|succ n=>have g:=mD G λj u v c d=>C j u v c d n (oH.1 z j u c);by_cases w:(V.agg D).closed=true;rw[eZ _ _ w];have A:=mD rfl λj u v c d=>(by rw[c]at d;cases d;exact eZ n H (rK.1 w j u c));grind;grind[Go.VE.borrow]
 |tup a D G hva C=>intro n z;cases n with|zero=>grind[V.lvl]|succ n=>have g:=mD G λj u v c d=>C j u v c d n (oH.1 z j u c);by_cases w:(V.tup D).closed=true;rw[eZ _ _ w];have A:=mD rfl λj u v c d=>(by rw[c]at d;cases d;exact eZ n H (rK.1 w j u c));grind;grind[Go.VE.borrow]
def sA{f:V->ST}{k:Nat}:∀{l:So},k∈c_ f l->∃(j:Nat)(u:V),l[j]?=M u/\k∈f u
 |[],h=>by grind[c_]|x::l,h=>by simp[c_]at h;rcases h with h|h;exact⟨0,x,Y,h⟩;have⟨j,u,b,a⟩:=sA h;exact⟨j+1,u,h?,a⟩
structure Deep(H:bl)(Z:Nat->Prop):Prop where
 row:∀id es ys,Z id->bt H id=some (es,ys)->∀c∈ys,∀u∈c,∃x,FR H Z x u
theorem FR.cA(hd:Deep H Z):∀(n:Nat){x y:V},FR H Z x y->∀k∈cA n H y,Z k
 |0,x,y,r,k,d=>by grind[Go.VE.cA]|n+1,x,y,r,k,d=>by
  unfold Go.VE.cA at d;split at d;simp_all;rename_i T;have pt:∀(a a':So),dB H Z a a'->k∈c_ (Go.VE.cA n H) a'->Z k:=λa a' h d=>by obtain⟨j,u,e,z⟩:=sA d;have L:j<a.length:=(by rw[h.1];grind);exact FR.cA hd n (h.2 j _ u (ζd L) e) k z
  have row:∀(id:Nat)es w(l:So),Z id->bt H id=some (es,w)->(∀u∈l,∃c∈w,u∈c)->k∈c_ (Go.VE.cA n H) l->Z k:=λid es w l B hr I d=>by obtain⟨j,u,e,z⟩:=sA d;obtain⟨c,g,D⟩:=I u (s? e);obtain⟨x,i⟩:=hd.row id es w B hr c g u D;exact FR.cA hd n i k z
  cases r with
  |same _ h=>grind[V.od]|fsl es q id off w B hr I g hv=>simp only[n8]at d;rcases d with rfl|d;exact B;rw[show(H[id]?).bind Ob.rows=some (es,w)from hr]at d;grind[List.mem_flatten]
  |fptr q id el off es w cs B hr o W i hv=>simp only[n8]at d;rcases d with rfl|d;exact B;rw[show(H[id]?).bind Ob.rows=some (es,w)from hr]at d;grind
  |clo f a b a' Q C S hva G=>simp at d;rcases d with d|d;exact pt a a' ⟨C,hva⟩ d;exact pt b Q ⟨S,G⟩ d
  |agg a a' C hva=>exact pt a a' ⟨C,hva⟩ d|tup a a' C hva=>exact pt a a' ⟨C,hva⟩ d
theorem dB.cut{cs ys r:So}{off n:Nat}(h:dB H Z cs ys)(a:cut cs off n=M r):∃B,Go.VE.cut ys off n=M B/\dB H Z r B:=by unfold Go.VE.cut at a⊢;have u:=(h.drop off).take n;dsimp only at a⊢;split at a;simp at a;subst a;exact⟨_,by rw[L' (by rw[<-u.1];omega)],u⟩;grind
theorem dB.mk{agg:X'}{cs ys:So}{x:V}(h:dB H Z cs ys)(B:mk agg cs=M x):∃y,Go.VE.mk agg ys=M y/\FR H Z x y:=by unfold Go.VE.mk at B⊢;split at B;simp at B;subst B;exact⟨_,h?,.agg _ _ h.1 h.2⟩;split at B;simp at B;obtain⟨y,ys,rfl,a,u⟩:=h.inv;rw[u.cW];grind;grind
theorem dB.fill:∀{pl:aX (Nat×Nat)}{vs B cells cells' r:So},dB H Z cells cells'->dB H Z vs B->mF cells pl vs=M r->∃D,mF cells' pl B=M D/\dB H Z r D
 |[],vs,B,cells,cells',r,hc,hv,h=>by cases vs with|nil=>rw[hv.cW];grind[mF]|cons v vs=>grind[mF]
 |(off,size)::pl,vs,B,cells,cells',r,hc,hv,h=>by cases vs with|nil=>grind[mF]|cons v vs=>obtain⟨w,B,rfl,a,G⟩:=hv.inv;have k:=a.cells;simp only[mF]at h⊢;rw[<-k.1,<-hc.1];split at h;simp_all;rename_i e;rw[M' e];exact dB.fill (((hc.take off).append k).append (hc.drop _)) G h
def FR.xS{k:KT}{x y G d:V}{b:X'}(B:FR H Z x G)(D:FR H Z y d)(h:rG k x y=M b):rG k G d=M b:=by unfold rG at h;split at h;rw[B.bN,D.bN];exact h;rw[D.bN];rcases B.ot with rfl|⟨_,_,_,rfl,_⟩<;>exact h;exact _e B.closed (by simp[V.closed]);rw[B.jt,D.jt];exact h;rw[D.jt];rcases B.oD with rfl|⟨_,_,_,_,_,_,rfl,_⟩<;>exact h;exact _e B.closed (by simp[V.closed]);rw[B.iE,D.iE];exact h;rw[D.iE,B.fmap];exact h;exact _e B.closed (by simp[V.closed]);grind
theorem FR.mV{a b a' B:So}{r:X'}(D:dB H Z a a')(G:dB H Z b B)(h:mV a b=M r):Go.VE.mV a' B=M r:=by unfold Go.VE.mV at h;split at h;rename_i u v c d;rw[D.scalar.1 (t_ c),G.scalar.1 (t_ d)];grind[Go.VE.mV];grind
def Dk{k:KT}{x y:V}{b:X'}(h:rG k x y=M b):(y=.bN/\(x=.bN\/(∃es xs,x=.fsl es xs)\/∃id es off len,x=.hsl id es off len))\/
 (y=.jt/\(x=.jt\/(∃cs,x=.fptr cs)\/∃id el off,x=.hptr id el off))\/(y=.iE/\(x=.iE\/(∃B,x=.fmap B)\/∃id,x=.hmap id)):=by
 unfold rG at h
 grind
def Ly{k:aY KT}{e:aY Nat}{op:BinOp}{x y:V}(D:(y=.bN/\(x=.bN\/(∃es xs,x=.fsl es xs)\/∃id es off len,x=.hsl id es off len))\/
 (y=.jt/\(x=.jt\/(∃cs,x=.fptr cs)\/∃id el off,x=.hptr id el off))\/(y=.iE/\(x=.iE\/(∃B,x=.fmap B)\/∃id,x=.hmap id))):
 oT k e op x y=(match k,op with
 |some k,.eql=>(rG k x y).map .bool|some k,.neq=>(rG k x y).map λt=>.bool !t|_,_=>J):=by
 rcases D with⟨rfl,rfl|⟨_,_,rfl⟩|⟨_,_,_,_,rfl⟩⟩|⟨rfl,rfl|⟨_,rfl⟩|⟨_,_,_,rfl⟩⟩|⟨rfl,rfl|⟨_,rfl⟩|⟨_,rfl⟩⟩<;>cases k<;>cases op<;>rfl
def Nk{k:aY KT}{e:aY Nat}{op:BinOp}{x y z:V}(h:oT k e op x y=M z):z.good=U:=by
 have w:∀{o:aY X'}{z:V},o.map V.bool=M z->z.good=U:=λh=>by obtain⟨_,_,rfl⟩:=ζf.1 h;rfl
 have u:∀{o:aY X'}{z:V},(o.map λt=>V.bool !t)=M z->z.good=U:=λh=>by obtain⟨_,_,rfl⟩:=ζf.1 h;rfl
 unfold oT at h;(repeat' split at h)<;>first|(simp at h;subst h;rfl)|exact w h|exact u h|simp at h
def FR.bin{k:aY KT}{e:aY Nat}{op:BinOp}{x y G d z:V}(B:FR H Z x G)(D:FR H Z y d)(h:oT k e op x y=M z):oT k e op G d=M z:=by
 have L:=h;unfold oT at h;split at h;rw[B.int,D.int];omega;rw[B.str,D.str];omega;rw[B.bool,D.bool];omega;obtain⟨g,rfl,w⟩:=B.jV;obtain⟨Q,rfl,I⟩:=D.jV;split at h;split at h;next C=>obtain⟨r,a,rfl⟩:=ζf.1 h;simp[oT,<-w.1,C,FR.mV w I a]
 grind;split at h;next C=>obtain⟨r,a,rfl⟩:=ζf.1 h;simp[oT,<-w.1,C,FR.mV w I a]
 grind;grind;split at h;obtain⟨r,a,rfl⟩:=ζf.1 h;have u:=FR.xS B D a;rw[Ly (Dk u)];grind;obtain⟨r,a,rfl⟩:=ζf.1 h;have u:=FR.xS B D a;rw[Ly (Dk u)];grind;grind
def FR.slice{size:Nat}{x g z:V}{l h:PH}(D:FR H Z x g)(B:jF size x l h=M z):∃T,jF size g l h=M T/\FR H Z z T:=by
 have C:∀{n a b:Nat},ec n l h=M (a,b)->b<=n/\a<=b:=by grind[ec]
 unfold jF at B;split at B;rename_i es I;split at B;rename_i Q;obtain⟨⟨a,b⟩,G,rfl⟩:=ζf.1 B;have⟨S,i⟩:=C G;rcases D.ot with rfl|⟨id,off,q,rfl,L,hr,X,o⟩;refine⟨_,by grind[jF],.same _ ?_⟩;have d:=D.good;refine mH.2 λj u c=>?_;rw[L?,D?]at c;split at c;exact mH.1 d _ u c;grind;refine⟨.hsl id es (off+a) (b-a),by grind[jF],?_⟩;have w:W ((I.take b).drop a)=b-a:=p?;rw[<-w];refine FR.G7 L hr h? ?_;have:=(o.take b).drop a;grind[List.drop_take,D!];grind;exact _e D.closed (by simp[V.closed]);rw[D.dH];obtain⟨_,G,rfl⟩:=ζf.1 B;exact⟨.dH,by grind[jF],.same _ Y⟩;rw[D.bN];obtain⟨_,G,rfl⟩:=ζf.1 B;exact⟨.bN,by grind[jF],.same _ Y⟩;grind
def dB.oS{b c:X'}{G D:So}{r:PH×PH}(h:dB H Z G D)(B:oS b c G=M r):Go.VE.oS b c D=M r:=by unfold Go.VE.oS at B;split at B;rw[h.cW];exact B;obtain⟨_,_,rfl,a,u⟩:=h.inv;rw[a.int,u.cW];exact B;obtain⟨_,_,rfl,a,u⟩:=h.inv;rw[a.int,u.cW];exact B;obtain⟨_,_,rfl,a,u⟩:=h.inv;obtain⟨_,_,rfl,w,z⟩:=u.inv;rw[a.int,w.int,z.cW];exact B;grind
theorem dB.bT {N:Nat->FuncId} {p:xN} {xs ys:aX V} {z:V} (W:∀zero pl,p=.build zero pl->V.cT zero=true) (h:dB H Z xs ys) (hp:bT N p xs=some z):∃g,Go.VE.bT N p ys=some g/\FR H Z z g:=by
 unfold Go.VE.bT at hp;split at hp
 .
  obtain⟨y,_,rfl,h1,w⟩:=h.inv;rw[w.cW];simp only[ζa]at hp;subst hp;exact⟨y,rfl,h1⟩
 .
  rename_i t a b;obtain⟨w1,_,rfl,h1,w⟩:=h.inv;obtain⟨w2,_,rfl,C,B⟩:=w.inv;obtain⟨w3,_,rfl,T,A⟩:=B.inv;rw[h1.bool,A.cW];simp only[ζa]at hp;subst hp;refine⟨if t=true then w2 else w3,rfl,?_⟩
  grind
 .
  obtain⟨y,_,rfl,h1,w⟩:=h.inv;rw[w.cW];unfold Q6 at hp;split at hp
  .exact _e h1.closed (by simp[V.closed])
  .simp only[ζa]at hp;subst hp;rcases h1.oD with rfl|⟨_,_,_,_,_,_,rfl,_⟩
   .exact⟨_,rfl,h1⟩
   exact⟨_,rfl,h1⟩
  .simp only[ζa]at hp;subst hp;obtain⟨_,_,rfl,_⟩:=h1.mc;exact⟨_,rfl,h1⟩
  simp at hp
 .
  obtain⟨_,_,rfl,h1,w⟩:=h.inv;obtain⟨_,_,rfl,C,B⟩:=w.inv;rw[B.cW];exact⟨z,FR.bin h1 C hp,.same _ (Nk hp)⟩
 .obtain⟨_,_,rfl,h1,w⟩:=h.inv;rw[h1.bool,w.cW];simp only[ζa]at hp;subst hp;exact⟨_,rfl,.same _ rfl⟩
 .obtain⟨_,_,rfl,h1,w⟩:=h.inv;rw[h1.int,w.cW];simp only[ζa]at hp;subst hp;exact⟨_,rfl,.same _ rfl⟩
 .obtain⟨_,_,rfl,h1,w⟩:=h.inv;rw[h1.int,w.cW];simp only[ζa]at hp;subst hp;exact⟨_,rfl,.same _ rfl⟩
 .
  rename_i off p;obtain⟨y,_,rfl,h1,w⟩:=h.inv;rw[w.cW];unfold th at hp;split at hp
  .split at hp
   .rename_i cs ho;simp only[ζa]at hp;subst hp;rcases h1.oD with rfl|⟨id,el,o,es,ys,ds,rfl,Q,hr,q,X,L⟩
    .have hg:=h1.good;simp only[V.good]at hg;exact⟨_,by grind[Go.VE.bT,th],.same _ (by grind[V.good,BD])⟩
    refine⟨.hptr id el (o+off),rfl,FR.F_ Q hr q (by have:=L.1;grind) ?_⟩
    have:=L.drop off;rw[List.drop_drop]at this;exact this
   simp at hp
  .exact _e h1.closed (by simp[V.closed])
  simp at hp
 .
  rename_i off size agg cs;obtain⟨y,_,rfl,h1,w⟩:=h.inv;rw[w.cW];obtain⟨Y,rfl,hc⟩:=h1.jV;obtain⟨r,hr,hm⟩:=ζg.1 hp;obtain⟨r',S,D⟩:=hc.cut hr;obtain⟨g,G,I⟩:=D.mk hm
  grind[Go.VE.bT]
 .
  rename_i size s k n;obtain⟨y,_,rfl,h1,w⟩:=h.inv;obtain⟨_,_,rfl,C,B⟩:=w.inv;rw[C.int,B.cW];unfold nL at hp;split at hp
  .simp at hp
  rename_i hn;split at hp
  .rename_i es xs;split at hp
   .rename_i q;obtain⟨c,hc,rfl⟩:=ζf.1 hp;rcases h1.ot with rfl|⟨id,off,ys,rfl,Q,hr,hl,L⟩
    .have hg:=h1.good;simp only[V.good]at hg;exact⟨_,by grind[Go.VE.bT,nL],.same _ (by grind[V.good,mH])⟩
    have hj:n.toNat<xs.length:=(ζe.1 hc).1;obtain⟨d,hd,ab⟩:=L.get hc;rw[List.getElem?_take,L' hj,List.getElem?_drop]at hd;exact⟨.hptr id (off+n.toNat) 0,by grind[Go.VE.bT,nL],FR.F_ Q hr hd f? h?⟩
   simp at hp
  .exact _e h1.closed (by simp[V.closed])
  simp at hp
 .
  rename_i len size s k n;obtain⟨y,_,rfl,h1,w⟩:=h.inv;obtain⟨_,_,rfl,C,B⟩:=w.inv;rw[C.int,B.cW];unfold Ad at hp;split at hp
  .rename_i hn;split at hp
   .split at hp
    .rename_i cs ho;simp only[ζa]at hp;subst hp;rcases h1.oD with rfl|⟨id,el,o,es,ys,ds,rfl,Q,hr,q,X,L⟩
     .have hg:=h1.good;simp only[V.good]at hg;exact⟨_,by grind[Go.VE.bT,Ad],.same _ (by grind[V.good,BD])⟩
     refine⟨.hptr id el (o+n.toNat*size),by grind[Go.VE.bT,Ad],FR.F_ Q hr q (by have:=L.1;grind) ?_⟩
     have:=L.drop (n.toNat*size);rw[List.drop_drop]at this;exact this
    simp at hp
   .exact _e h1.closed (by simp[V.closed])
   simp at hp
  simp at hp
 .
  rename_i s k n;obtain⟨y,_,rfl,h1,w⟩:=h.inv;obtain⟨_,_,rfl,C,B⟩:=w.inv;rw[h1.str,C.int,B.cW];split at hp
  next hn=>obtain⟨c,hc,rfl⟩:=ζf.1 hp;exact⟨_,by grind[Go.VE.bT],.same _ rfl⟩
  simp at hp
 .
  rename_i len size agg cs k n;obtain⟨y,_,rfl,h1,w⟩:=h.inv;obtain⟨_,_,rfl,C,B⟩:=w.inv;rw[C.int,B.cW];obtain⟨Y,rfl,hc⟩:=h1.jV;split at hp
  .rename_i hn;obtain⟨r,hr,hm⟩:=ζg.1 hp;obtain⟨r',S,D⟩:=hc.cut hr;obtain⟨g,G,I⟩:=D.mk hm
   grind[Go.VE.bT]
  simp at hp
 .
  rename_i lo hi s bs;obtain⟨y,_,rfl,h1,w⟩:=h.inv;rw[h1.str];obtain⟨⟨l,h'⟩,hb,hp⟩:=ζg.1 hp;obtain⟨⟨l2,ad⟩,aa,rfl⟩:=ζf.1 hp;exact⟨_,by simp only[Go.VE.bT,w.oS hb,ζb,aa,Option.map_some],.same _ rfl⟩
 .
  rename_i size lo hi s bs;obtain⟨y,_,rfl,h1,w⟩:=h.inv;obtain⟨⟨l,h'⟩,hb,hp⟩:=ζg.1 hp;obtain⟨g,G,I⟩:=FR.slice h1 hp;exact⟨g,by simp only[Go.VE.bT,w.oS hb,ζb,G],I⟩
 .
  obtain⟨y,_,rfl,h1,w⟩:=h.inv;obtain⟨_,_,rfl,C,B⟩:=w.inv;obtain⟨_,_,rfl,T,A⟩:=B.inv;rw[C.int,T.int,A.cW];split at hp
  .rename_i hc;simp only[ζa]at hp;subst hp;refine⟨.dH,?_,.same _ rfl⟩;simp only[ζh]at hc;have:PO y=true:=by
    have h0:=hc.1.1;unfold PO at h0;split at h0
    .rcases h1.ot with rfl|⟨_,_,_,rfl,_⟩ <;> rfl
    .exact _e h1.closed (by simp[V.closed])
    .rw[h1.dH];rfl
    .rw[h1.bN];rfl
    simp at h0
   grind[Go.VE.bT]
  simp at hp
 .
  rename_i vs zero pl;obtain⟨r,hr,rfl⟩:=ζf.1 hp;obtain⟨r',S,D⟩:=dB.fill (dB.same (W zero pl rfl)) h hr;exact⟨.agg r',by grind[Go.VE.bT],.agg _ _ D.1 D.2⟩
 .
  rename_i vs name k;simp only[ζa]at hp;subst hp;exact⟨_,rfl,.clo _ _ _ _ _ (h.take k).1 (h.drop k).1 (h.take k).2 (h.drop k).2⟩
 .
  rename_i i vs;obtain⟨y,_,rfl,h1,w⟩:=h.inv;rw[w.cW];obtain⟨ws,rfl,hw⟩:=h1.s6;obtain⟨g,G,I⟩:=hw.get hp;exact⟨g,G,I⟩
 .
  obtain⟨y,_,rfl,h1,w⟩:=h.inv;rw[h1.str,w.cW];simp only[ζa]at hp;subst hp;exact⟨_,rfl,.same _ rfl⟩
 .
  obtain⟨y,_,rfl,h1,w⟩:=h.inv;rw[w.cW];unfold qF at hp;split at hp
  .simp only[ζa]at hp;subst hp;rcases h1.ot with rfl|⟨_,_,_,rfl,_⟩ <;> exact⟨_,rfl,.same _ rfl⟩
  .exact _e h1.closed (by simp[V.closed])
  .rw[h1.dH];simp only[ζa]at hp;subst hp;exact⟨_,rfl,.same _ rfl⟩
  .rw[h1.bN];simp only[ζa]at hp;subst hp;exact⟨_,rfl,.same _ rfl⟩
  simp at hp
 .
  obtain⟨y,_,rfl,h1,w⟩:=h.inv;rw[w.cW];unfold LK at hp;split at hp
  .rw[h1.bN];simp only[ζa]at hp;subst hp;exact⟨_,rfl,.same _ rfl⟩
  .rw[h1.dH];simp only[ζa]at hp;subst hp;exact⟨_,rfl,.same _ rfl⟩
  simp at hp
 .
  obtain⟨_,_,rfl,h1,w⟩:=h.inv;obtain⟨_,_,rfl,C,B⟩:=w.inv;rw[h1.int,C.int,B.cW];split at hp
  next e=>simp only[ζa]at hp;subst hp;exact⟨_,by grind[Go.VE.bT],.same _ rfl⟩
  simp at hp
 .
  obtain⟨_,_,rfl,h1,w⟩:=h.inv;obtain⟨_,_,rfl,C,B⟩:=w.inv;obtain⟨_,_,rfl,T,A⟩:=B.inv;obtain⟨_,_,rfl,h7,h8⟩:=A.inv;rw[h1.int,C.int,T.int,h7.int,h8.cW];split at hp
  next e=>simp only[ζa]at hp;subst hp;exact⟨_,by grind[Go.VE.bT],.same _ rfl⟩
  simp at hp
 .
  obtain⟨_,_,rfl,h1,w⟩:=h.inv;obtain⟨_,_,rfl,C,B⟩:=w.inv;rw[h1.int,C.int,B.cW];split at hp
  next e=>simp only[ζa]at hp;subst hp;exact⟨_,by grind[Go.VE.bT],.same _ rfl⟩
  simp at hp
 .
  obtain⟨_,_,rfl,h1,w⟩:=h.inv;obtain⟨_,_,rfl,C,B⟩:=w.inv;rw[h1.int,C.int,B.cW];split at hp
  .rename_i e;simp only[ζa]at hp;subst hp;refine⟨_,by grind[Go.VE.bT],.same _ ?_⟩
   grind[V.good,mH,jh,lM]
  simp at hp
 .
  split at hp
  .rename_i hc;obtain rfl:=h.scalar.1 hc.1;split at hp
   .rename_i xs ae;split at hp
    .rename_i hx;simp only[ζa]at hp;subst hp;refine⟨_,by grind[Go.VE.bT],.same _ ?_⟩
     simp only[V.good];exact mH.2 λj u hu=>jh.2 λi v hv=>lM (List.all_eq_true.1 (List.all_eq_true.1 hx.2 u (List.mem_of_getElem? hu)) v (List.mem_of_getElem? hv))
    simp at hp
   simp at hp
  simp at hp
 .simp only[ζa]at hp;subst hp;rw[h.cW];exact⟨_,rfl,.same _ rfl⟩
 simp at hp
end
def qA(p:Nat×Nat)(k:Fl)(es len:Nat):V:=
 match k with
 |.nil=>.bN|.emp=>.dH|_=>.hsl p.1 es p.2 len
structure Nu where
 pl:Nat->Nat×Nat
 inn:Nat->Nat->Nat
instance:CoeFun Nu λ_=>Nat->Nat×Nat:=⟨Nu.pl⟩
def Nu.at(ν:Nu)(d:Nat):Nat->Nat
 |0=>(ν d).1|i+1=>ν.inn d i
inductive Shp where
 |sl(k:Fl)(es n:Nat)|box|mp
def bE.xL:bE->Shp
 |.sl k es xs=>.sl k es (W xs)|.dp k xs _=>.sl k 1 (W xs)|.box _=>.box|.mp _=>.mp
inductive cV(ν:Nu)(m:Tb bE)(H:bl)(Z:Nat->Prop):SV->V->Prop
 |v(x y:V)(h:FR H Z x y):cV ν m H Z (.v x) y|own(d:Nat)(y:V)(h:∀ob,bk m d=some ob->∃k es n,ob.xL=.sl k es n/\y=qA (ν d) k es n):cV ν m H Z (.own d) y|ptr(d o:Nat)(y:V)(h:∀ob,bk m d=some ob->∃cs,ob=.box cs/\y=.hptr (ν d).1 0 o):cV ν m H Z (.ptr d o) y|el(d i o:Nat)(y:V)(h:∀ob,bk m d=some ob->∃k es n,ob.xL=.sl k es n/\b7 k=true/\y=.hptr (ν d).1 ((ν d).2+i) o):cV ν m H Z (.el d i o) y|mp(d:Nat)(y:V)(h:∀ob,bk m d=some ob->∃kvs,ob=.mp kvs/\y=.hmap (ν d).1):cV ν m H Z (.mp d) y|clo(f:FuncId)(a b:List SV)(a' b':List V)(ha:a.length=a'.length)(hb:b.length=b'.length)
  (hva:∀(j:Nat)u v,a[j]?=some u->a'[j]?=some v->cV ν m H Z u v) (hvb:∀(j:Nat)u v,b[j]?=some u->b'[j]?=some v->cV ν m H Z u v):cV ν m H Z (.clo f a b) (.clo f a' b')
 |tup(a:List SV)(a':List V)(ha:a.length=a'.length)(hva:∀(j:Nat)u v,a[j]?=some u->a'[j]?=some v->cV ν m H Z u v):cV ν m H Z (.tup a) (.tup a')|agg(a:List SV)(a':List V)(ha:a.length=a'.length)(hva:∀(j:Nat)u v,a[j]?=some u->a'[j]?=some v->cV ν m H Z u v):cV ν m H Z (.agg a) (.agg a')|yl(id:Nat):cV ν m H Z (.yl id) (.yld id)
def cn(ν:Nu)(m:Tb bE)(H:bl)(Z:Nat->Prop)(xs:Rd)(ys:So):Prop:=W xs=W ys/\∀(j:Nat)u v,xs[j]?=M u->ys[j]?=M v->cV ν m H Z u v
def eM:bE->X'
 |.sl k _ _|.dp k _ _=>b7 k|_=>U
def bE.pt(ob:bE):Nat->X'
 |0=>eM ob|i+1=>match ob with
  |.dp _ xs h=>(match h with|some (j,_)=>j != i|none=>U)&&(match xs[i]?with|some [.fsl ..]=>U|_=>O)|_=>O
def fN(ν:Nu)(m:Tb bE)(id:Nat):Prop:=∃d ob j,bk m d=M ob/\ob.pt j=U/\ν.at d j=id
def wZ(H:bl)(Z:Nat->Prop)(ys:S'):Prop:=∀c∈ys,∀u∈c,∃x,FR H Z x u
def FW(H:bl)(Z:Nat->Prop)(a b:aX (V×V)):Prop:=W a=W b/\∀(j:Nat)u v,a[j]?=M u->b[j]?=M v->(u.1=v.1/\u.1.scalar=U)/\FR H Z u.2 v.2
def xJ(ν:Nu)(H:bl)(Z:Nat->Prop)(d i:Nat)(x y:So):Prop:=(x=y/\(x=[.bN]\/x=[.dH]))\/∃es u w,x=[.fsl es u]/\y=[.hsl (ν.inn d i) es 0 (W u)]/\H[ν.inn d i]?=M (.row es w)/\gM H Z u w
def qz(ν:Nu)(m:Tb bE)(H:bl)(Z:Nat->Prop)(d:Nat)(h:aY (Nat×Nat))(i:Nat)(x y:So):Prop:=
 match h with
 |some (j,t)=>if j=i then∃v,y=[v]/\v.one=U/\cV ν m H Z (.own t) v else xJ ν H Z d i x y|none=>xJ ν H Z d i x y
def c8(ν:Nu)(m:Tb bE)(H:bl)(Z:Nat->Prop)(d:Nat):bE->Prop
 |.sl k es xs=>if b7 k then∃ys,H[(ν d).1]?=M (.row es ys)/\(ν d).2+W xs<=W ys/\gM H Z xs ((ys.drop (ν d).2).take (W xs))/\wZ H Z ys/\(k=.row->(ν d).2=0/\W ys=W xs)
  else xs=[]
 |.box cs=>∃es D,H[(ν d).1]?=M (.row es [D])/\cn ν m H Z cs D/\D.all V.one=U|.mp G=>∃B,H[(ν d).1]?=M (.map B)/\FW H Z G B|.dp k xs h=>if b7 k then k=.row/\(ν d).2=0/\(∀i t,h=M (i,t)->i<W xs)/\∃ys,H[(ν d).1]?=M (.row 1 ys)/\W ys=W xs/\∀i x y,xs[i]?=M x->ys[i]?=M y->qz ν m H Z d h i x y
  else xs=[]/\h=J
structure R(ν:Nu)(Z:Nat->Prop)(st:St)(F:Frame)(H:bl):Prop where
 slot:∀s sv,bk st.g s=some sv->cV ν st.m H Z sv (get F s)
 obj:∀d ob,bk st.m d=some ob->c8 ν st.m H Z d ob
 inj:∀d d' ob l? j j',bk st.m d=some ob->bk st.m d'=some l?->ob.pt j=true->l?.pt j'=true->ν.at d j=ν.at d' j'->d=d'/\j=j'
 apart:∀d ob j,bk st.m d=some ob->ob.pt j=true->¬Z (ν.at d j)
 zrow:∀id,Z id->(bt H id).isSome=true
 deep:Deep H Z
def sameShape(a b:bE):Prop:=b.xL=a.xL
def sameShape.refl(o:bE):sameShape o o:=rfl
def sameShape.trans{a b c:bE}(h:sameShape a b)(k:sameShape b c):sameShape a c:=Eq.trans k h
structure Ev(Rv:Nat->Prop)(ν:Nu)(Z:Nat->Prop)(st:St)(H:bl)(ν':Nu)(Z':Nat->Prop)(e?:St)(H':bl):Prop where
 len:H.length<=H'.length
 same:∀id,id<H.length->¬fN ν st.m id->¬Z id->¬Rv id->H'[id]?=H[id]?
 rows:∀id,Z id->Z' id/\bt H' id=bt H id
 own:∀id,fN ν' e?.m id->fN ν st.m id\/Rv id\/H.length<=id
 frz:∀id,Z' id->Z id\/fN ν st.m id\/Rv id\/H.length<=id
 pin:∀d∈st.pin,∀l?,bk e?.m d=some l?->∃ob,bk st.m d=some ob/\ν' d=ν d/\sameShape ob l?
 pins:e?.pin=st.pin
section
variable{Rv Rv':Nat->Prop}{ν ν' ν2:Nu}{Z Z' Z2:Nat->Prop}{st e? st2:St}{m m':Tb bE}{F F':WP}{H H' H2:bl}
def Ev.refl:Ev Rv ν Z st H ν Z st H:=⟨y? _,λ_ _ _ _ _=>rfl,λ_ h=>⟨h,Y⟩,λ_ h=>.inl h,λ_ h=>.inl h,λ_ _ u h=>⟨u,h,Y,.refl _⟩,Y⟩
def Ev.trans(a:Ev Rv ν Z st H ν' Z' e? H')(b:Ev Rv ν' Z' e? H' ν2 Z2 st2 H2):Ev Rv ν Z st H ν2 Z2 st2 H2 where
 len:=W? a.len b.len
 same:=λid B u C hr=>by rw[b.same id (Nat.lt_of_lt_of_le B a.len) (λh=>(a.own id h).elim u λh=>h.elim hr λh=>c?) (λh=>(a.frz id h).elim C λh=>h.elim u λh=>h.elim hr λh=>c?) hr,a.same id B u C hr]
 rows:=λid h=>⟨(b.rows id (a.rows id h).1).1,by rw[(b.rows id (a.rows id h).1).2,(a.rows id h).2]⟩
 own:=λid h=>by rcases b.own id h with h|h|h;exact a.own id h;grind;exact .inr (.inr (W? a.len h))
 frz:=λid h=>by rcases b.frz id h with h|h|h|h;exact a.frz id h;rcases a.own id h with h|h|h;grind;grind;grind;grind;exact .inr (.inr (.inr (W? a.len h)))
 pin:=λd hd w h=>by have⟨z,c,G,D⟩:=b.pin d (by rw[a.pins];omega) w h;have⟨ob,k1,k2,k3⟩:=a.pin d hd z c;exact⟨ob,k1,p?,k3.trans D⟩
 pins:=by rw[b.pins,a.pins]
def Ev.weak(h:∀id,Rv id->Rv' id)(a:Ev Rv ν Z st H ν' Z' e? H'):Ev Rv' ν Z st H ν' Z' e? H':=⟨a.len,λid u w z hr=>a.same id u w z (λk=>hr (h id k)),a.rows,λid k=>(a.own id k).imp (λx=>x) (.imp (h id) (λx=>x)),λid k=>(a.frz id k).imp (λx=>x) (.imp (λx=>x) (.imp (h id) (λx=>x))),a.pin,a.pins⟩
theorem cu{α:Type}:∀(g:Tb α)(n:Nat)(v:α),bk (bH g n v) n=M v
 |[],n,v=>by simp[bH,bk]|(k,x)::r,n,v=>by simp[bH];split;(next h=>simp[bk,h]);rename_i h;simp[bk,h,cu r n v]
def cK{α:Type}:∀(g:Tb α){n k:Nat}(v:α),n≠k->bk (bH g n v) k=bk g k
 |[],n,k,v,h=>by simp[bH,bk,h]|(j,x)::r,n,k,v,h=>by simp[bH];split;(next a=>subst a;simp[bk,h]);simp[bk];split;rfl;exact cK r v h
def sK{α:Type}:∀{g:Tb α}{n:Nat}{v:α},bk g n=M v->bH g n v=g
 |[],n,v,h=>by cases h|(k,x)::r,n,v,h=>by simp[bk]at h;simp[bH];split;grind;rename_i e;rw[M' e]at h;rw[sK h]
def zo{α:Type}:∀(g:Tb α)(n:Nat),bk (dz n g) n=J
 |[],n=>rfl|(k,x)::r,n=>by simp[dz];split;exact zo r n;rename_i a;simp[bk];rw[M' a];exact zo r n
def zL{α:Type}:∀(g:Tb α){n k:Nat},n≠k->bk (dz n g) k=bk g k
 |[],n,k,h=>rfl|(j,x)::r,n,k,h=>by simp[dz];split;(next a=>subst a;simp[bk];rw[M' h];exact zL r h);simp[bk];split;rfl;exact zL r h
theorem mN{α:Type}{g:Tb α}{n k:Nat}{v:α}(h:bk (dz n g) k=M v):n≠k/\bk g k=M v:=by by_cases e:n=k;subst e;rw[zo]at h;simp_all;rw[zL g e]at h;grind
def qZ{α:Type}{k:Nat}{v:α}:∀{ds:ST}{g:Tb α},bk (ql ds g) k=M v->bk g k=M v
 |[],_,h=>h|d::ds,g,h=>(mN (qZ h)).2
def tu{α:Type}{g:Tb α}{k:Nat}{v:α}:∀{l:ST}{r:Tb α},lR g l=M r->bk r k=M v->bk g k=M v
 |[],r,h,B=>by simp[lR]at h;subst h;simp[bk]at B|n::l,r,h,B=>by simp[lR]at h;split at h;rename_i w t G D;simp at h;subst h;simp[bk]at B;split at B;grind;exact tu D B;grind
def BT{d:Nat}:∀{g:Tb SV}{s:Nat}{sv:SV},wX d g=O->bk g s=M sv->sv.cM d=O
 |[],_,_,_,h=>by simp[bk]at h|(k,x)::r,s,sv,h,B=>by simp[wX]at h;simp[bk]at B;split at B;grind;exact BT h.2 B
def uq{d:Nat}:∀{g:Tb bE}{s:Nat}{ob:bE},vk d g=O->bk g s=M ob->ob.cM d=O
 |[],_,_,_,h=>by simp[bk]at h|(k,x)::r,s,sv,h,B=>by simp[vk]at h;simp[bk]at B;split at B;grind;exact uq h.2 B
theorem wj{d:Nat}:∀{l:Rd}{j:Nat}{u:SV},SV.dK d l=O->l[j]?=M u->u.cM d=O
 |[],_,_,_,h=>p?|x::r,j,u,h,B=>by simp[SV.dK]at h;cases j with|zero=>grind|succ j=>exact wj h.2 (by simpa using B)
def uQ{d:Nat}:∀{l:Rd}{j:Nat}{u:SV},l[j]?=M u->u.cM d=U->SV.dK d l=U
 |[],_,_,h,_=>p?|x::r,j,u,h,B=>by simp[SV.dK];cases j with|zero=>grind|succ j=>exact .inr (uQ (j:=j) h? B)
def cV.mono{sv:SV}{y:V}(T:∀id,Z id->Z' id/\bt H' id=bt H id)
 (r:cV ν m H Z sv y)(B:∀d,sv.cM d=U->∀l?,bk m' d=M l?->∃ob,bk m d=M ob/\ν' d=ν d/\sameShape ob l?):cV ν' m' H' Z' sv y:=by
 induction r with
 |v x y h=>exact .v x y (h.mono T)|own d y h=>
  refine .own d y λl? z=>?_
  have⟨ob,e,C,D⟩:=B d (by simp[SV.cM]) l? z
  obtain⟨k,es,n,q,rfl⟩:=h ob e;exact⟨k,es,n,Eq.trans D q,by rw[C]⟩
 |ptr d o y h=>
  refine .ptr d o y λl? z=>?_
  have⟨ob,e,C,D⟩:=B d (by simp[SV.cM]) l? z
  obtain⟨cs,rfl,rfl⟩:=h ob e;cases l?<;>cases D;exact⟨_,rfl,by rw[C]⟩
 |el d i o y h=>
  refine .el d i o y λl? z=>?_
  have⟨ob,e,C,D⟩:=B d (by simp[SV.cM]) l? z
  obtain⟨k,es,n,q,A,rfl⟩:=h ob e;exact⟨k,es,n,Eq.trans D q,A,by rw[C]⟩
 |mp d y h=>
  refine .mp d y λl? z=>?_
  have⟨ob,e,C,D⟩:=B d (by simp[SV.cM]) l? z
  obtain⟨cs,rfl,rfl⟩:=h ob e;cases l?<;>cases D;exact⟨_,rfl,by rw[C]⟩
 |clo f a b G Q I S hva t w L=>exact .clo f a b G Q I S (λj u v c g=>w j u v c g λd hd=>B d (by simp[SV.cM,uQ c hd])) (λj u v c g=>L j u v c g λd hd=>B d (by simp[SV.cM,uQ c hd]))|tup a G I hva w=>exact .tup a G I (λj u v c g=>w j u v c g λd hd=>B d (by simp[SV.cM,uQ c hd]))|agg a G I hva w=>exact .agg a G I (λj u v c g=>w j u v c g λd hd=>B d (by simp[SV.cM,uQ c hd]))|yl id=>exact .yl id
def cn.mono{sv:Rd}{y:So}(B:∀id,Z id->Z' id/\bt H' id=bt H id)(r:cn ν m H Z sv y)(D:∀d,SV.dK d sv=U->∀l?,bk m' d=M l?->∃ob,bk m d=M ob/\ν' d=ν d/\sameShape ob l?):cn ν' m' H' Z' sv y:=⟨r.1,λj u v a b=>(r.2 j u v a b).mono B λd hd=>D d (uQ a hd)⟩
def cn.nil:cn ν m H Z [] []:=⟨Y,f?⟩
def cn.cons{x:SV}{y:V}{xs:Rd}{ys:So}(h:cV ν m H Z x y)(r:cn ν m H Z xs ys):cn ν m H Z (x::xs) (y::ys):=by refine⟨by simp[r.1],λj u v a b=>?_⟩;cases j with|zero=>grind|succ j=>exact r.2 j u v h? h?
def cn.inv{x:SV}{xs:Rd}{B:So}(r:cn ν m H Z (x::xs) B):∃y ys,B=y::ys/\cV ν m H Z x y/\cn ν m H Z xs ys:=by cases B with|nil=>have:=r.1;grind|cons y ys=>refine⟨y,ys,Y,r.2 0 x y Y Y,by have:=r.1;grind,λj u v a b=>r.2 (j+1) u v h? h?⟩
def cn.cW{B:So}(r:cn ν m H Z [] B):B=[]:=by have:=r.1;grind
theorem cn.get{xs:Rd}{ys:So}(r:cn ν m H Z xs ys){j:Nat}{u:SV}(h:xs[j]?=M u):∃v,ys[j]?=M v/\cV ν m H Z u v:=by
 have w:=(ζe.1 h).1;have:j<W ys:=by rw[<-r.1];omega
 exact⟨ys[j],ζd this,r.2 j u _ h (ζd this)⟩
def cn.append{a c:Rd}{b d:So}(h:cn ν m H Z a b)(k:cn ν m H Z c d):cn ν m H Z (a++c) (b++d):=by refine⟨by simp[h.1,k.1],λj u v e f=>?_⟩;by_cases w:j<W a;rw[u? w]at e;rw[u? (by rw[<-h.1];omega)]at f;exact h.2 j u v e f;rw[H? c?]at e;rw[H? (by rw[<-h.1];omega),<-h.1]at f;exact k.2 _ u v e f
def cn.take{a:Rd}{b:So}(h:cn ν m H Z a b)(n:Nat):cn ν m H Z (a.take n) (b.take n):=by
 refine⟨by simp[h.1],λj u v c d=>?_⟩;rw[D?]at c d;split at c;next w=>rw[L' w]at d;exact h.2 j u v c d
 grind
def cn.drop{a:Rd}{b:So}(h:cn ν m H Z a b)(n:Nat):cn ν m H Z (a.drop n) (b.drop n):=by refine⟨by simp[h.1],λj u v c d=>?_⟩;rw[L?]at c d;exact h.2 _ u v c d
theorem cV.fr{x y:V}(r:cV ν m H Z (.v x) y):FR H Z x y:=by cases r;assumption
def cn.tv{xs ys:So}(r:dB H Z xs ys):cn ν m H Z (xs.map .v) ys:=by refine⟨by simp[r.1],λj u v a b=>?_⟩;rw[List.getElem?_map,ζf]at a;obtain⟨x,w,rfl⟩:=a;exact .v x v (r.2 j x v w b)
def xW:∀{m?:Rd}{xs:So},c6 m?=M xs->m?=xs.map .v
 |[],xs,h=>by simp[c6]at h;grind|x::r,xs,h=>by(cases x<;>simp only[c6]at h<;>first|grind|skip);obtain⟨t,B,rfl⟩:=ζf.1 h;rw[xW B];rfl
def cn.frl{xs ys:So}(r:cn ν m H Z (xs.map .v) ys):dB H Z xs ys:=by refine⟨by have:=r.1;grind,λj u v b a=>?_⟩;have:(xs.map SV.v)[j]?=M (.v u):=h?;exact(r.2 j _ v this a).fr
end
section
variable{ν:Nu}{Z:Nat->Prop}{st:St}{m:Tb bE}{F:WP}{H H1:bl}{N:Nat->Y'}
def rP(nm:Y'->aY Nat):UV->aY Arg
 |.tmp t=>M (.s t)|.const v=>match ofValue 4 v with
  |some c=>if c.good then M (.k c)else J|none=>J
 |.func f=>(nm f).map .f|.global g=>match bZ.gl g with
  |some cs=>if(V.fptr cs).good then M (.k (.fptr cs))else J|none=>J
def H7{nm:Y'->aY Nat}(D:∀f s,nm f=M s->N s=f){g:Tb SV}(G:∀s sv,bk g s=M sv->cV ν m H Z sv (get F s)){o:UV}{x:Arg}{sv:SV}(B:rP nm o=M x)(a:tM N g x=M sv):
 ∃y,ev F o=M y/\cV ν m H Z sv y:=by
 cases o with
 |tmp t=>simp[rP]at B;subst B;exact⟨get F t,rfl,G t sv a⟩|const w=>
  simp[rP]at B;split at B
  .rename_i c hc;split at B
   next u=>simp at B;subst B;simp[tM]at a;subst a;exact⟨c,hc,.v _ _ (.same _ u)⟩
   grind
  grind
 |func f=>simp[rP]at B;obtain⟨z,C,rfl⟩:=B;simp[tM]at a;subst a;exact⟨_,rfl,.v _ _ (by rw[D f z C];exact .same _ rfl)⟩|global i=>
  simp[rP]at B;split at B
  .rename_i c hc;split at B
   next u=>simp at B;subst B;simp[tM]at a;subst a;exact⟨.fptr c,by simp[ev,hc],.v _ _ (.same _ u)⟩
   grind
  grind
def qU{nm:Y'->aY Nat}(D:∀f s,nm f=M s->N s=f){g:Tb SV}(G:∀s sv,bk g s=M sv->cV ν m H Z sv (get F s)):∀{os:aX UV}{xs:QR}{m?:Rd},
 os.mapM (rP nm)=M xs->bU N g xs=M m?->∃ys,f_ F os=M ys/\cn ν m H Z m? ys
 |[],xs,m?,B,hv=>by simp at B;subst B;simp[bU]at hv;subst hv;exact⟨[],rfl,.nil⟩|o::os,xs,m?,B,hv=>by simp[ζg]at B;obtain⟨x,d,ys,T,rfl⟩:=B;simp[bU]at hv;split at hv;(next v C b w=>simp at hv;subst hv;have⟨a,B,z⟩:=H7 D G d b;have⟨az,c,u⟩:=qU D G T w;exact⟨a::az,by grind[f_],.cons z u⟩);grind
def cV.iK{d:Nat}{y:V}(r:cV ν m H Z (.own d) y){ob:bE}(h:bk m d=M ob):∃k es n,ob.xL=.sl k es n/\y=qA (ν d) k es n:=by cases r with|own _ _ u=>grind
def cV.rI{d o:Nat}{y:V}(r:cV ν m H Z (.ptr d o) y){ob:bE}(h:bk m d=M ob):∃cs,ob=.box cs/\y=.hptr (ν d).1 0 o:=by cases r with|ptr _ _ _ u=>grind
def cV.xV{d i o:Nat}{y:V}(r:cV ν m H Z (.el d i o) y){ob:bE}(h:bk m d=M ob):∃k es n,ob.xL=.sl k es n/\b7 k=U/\y=.hptr (ν d).1 ((ν d).2+i) o:=by cases r with|el _ _ _ _ u=>grind
def cV.Hl{d:Nat}{y:V}(r:cV ν m H Z (.mp d) y){ob:bE}(h:bk m d=M ob):∃B,ob=.mp B/\y=.hmap (ν d).1:=by cases r with|mp _ _ u=>grind
def cV.mc{f:Y'}{a b:Rd}{y:V}(r:cV ν m H Z (.clo f a b) y):∃a' B,y=.clo f a' B/\cn ν m H Z a a'/\cn ν m H Z b B:=by cases r with|clo _ _ _ a' B w z hva u=>exact⟨a',B,Y,⟨w,hva⟩,⟨z,u⟩⟩
def cV.s6{a:Rd}{y:V}(r:cV ν m H Z (.tup a) y):∃a',y=.tup a'/\cn ν m H Z a a':=by cases r with|tup _ a' u hva=>exact⟨a',Y,u,hva⟩
def cV.jV{a:Rd}{y:V}(r:cV ν m H Z (.agg a) y):∃a',y=.agg a'/\cn ν m H Z a a':=by cases r with|agg _ a' u hva=>exact⟨a',Y,u,hva⟩
def qx{p:Nat×Nat}{k:Fl}{es len:Nat}(h:b7 k=U):qA p k es len=.hsl p.1 es p.2 len:=by cases k<;>simp[b7]at h<;>rfl
def lN{x:SV}{y:V}(h:nj m x=U)(r:cV ν m H Z x y):y.cells=[y]/\y.one=U:=by cases x with|v x=>grind[nj]|own d=>have⟨ob,u⟩:=isSome_iff_exists.1 h;obtain⟨k,es,n,_,rfl⟩:=r.iK u;cases k<;>exact⟨rfl,rfl⟩|ptr d o=>have⟨ob,u⟩:=isSome_iff_exists.1 h;obtain⟨cs,rfl,rfl⟩:=r.rI u;exact⟨rfl,rfl⟩|el d i o=>have⟨ob,u⟩:=isSome_iff_exists.1 h;obtain⟨k,es,n,_,_,rfl⟩:=r.xV u;exact⟨rfl,rfl⟩|mp d=>have⟨ob,u⟩:=isSome_iff_exists.1 h;obtain⟨w,rfl,rfl⟩:=r.Hl u;exact⟨rfl,rfl⟩|clo f a b=>obtain⟨z,B,rfl,_⟩:=r.mc;exact⟨rfl,rfl⟩|tup l=>grind[nj]|agg l=>grind[nj]|yl id=>grind[nj]
def Sq{x:SV}{y:V}(h:An m x=U)(r:cV ν m H Z x y):y.one=U:=by
 cases x with
 |v x=>
  have u:=r.fr;have w:x.one=U:=h;have c:=u.cells;have e:x.cells=[x]:=by cases x<;>first|rfl|grind[V.one]
  rw[e]at c;have g:=c.one;have z:=c.1
  cases y with
  |agg l=>cases u with|same _ _=>grind|agg _ _ _ _=>grind[V.one]
  |tup l=>cases u with|same _ _=>grind|tup _ _ _ _=>grind[V.one]
  |_=>rfl
 |own d=>exact(lN (x:=.own d) h r).2|ptr d o=>exact(lN (x:=.ptr d o) h r).2|el d i o=>exact(lN (x:=.el d i o) h r).2|mp d=>exact(lN (x:=.mp d) h r).2|clo f a b=>exact(lN (x:=.clo f a b) h r).2|tup l=>grind[An,nj]|agg l=>grind[An,nj]|yl id=>grind[An,nj]
theorem IU {l:aX SV} {ys:aX V} (h:l.all (An m)=true) (r:cn ν m H Z l ys):ys.all V.one=true:=by
 refine List.all_eq_true.2 λy w=>?_
 obtain⟨j,z,e⟩:=List.mem_iff_getElem.1 w;have u:j<l.length:=by rw[r.1];omega
 exact Sq (List.all_eq_true.1 h _ (List.getElem_mem u)) (r.2 j _ y (ζd u) h?)
def Tg{x:SV}{y:V}{c:Rd}(h:Be m x=M c)(r:cV ν m H Z x y):cn ν m H Z c y.cells:=by
 unfold Be at h;split at h;cases h;exact cn.tv r.fr.cells;cases h;obtain⟨z,rfl,u⟩:=r.jV;exact u;split at h;next w=>cases h;rw[(lN w r).1];exact .cons r .nil
 simp_all
def MY:∀{pl:aX (Nat×Nat)}{vs cells l:Rd}{B cells':So},cn ν m H Z cells cells'->cn ν m H Z vs B->vF m cells pl vs=M l->∃D,mF cells' pl B=M D/\cn ν m H Z l D
 |[],[],cells,l,B,cells',hc,hv,h=>by rw[hv.cW];simp[vF]at h;subst h;exact⟨_,rfl,hc⟩|[],_::_,_,_,_,_,_,_,h=>by grind[vF]|_::_,[],_,_,_,_,_,_,h=>by grind[vF]|(off,size)::pl,v::vs,cells,l,B,cells',hc,hv,h=>by obtain⟨w,G,rfl,b,d⟩:=hv.inv;simp only[vF]at h;split at h;rename_i c z;have a:=Tg z b;split at h;have⟨D,e1,e2⟩:=MY (cells':=cells'.take off++w.cells++cells'.drop (off+W w.cells)) (by rw[<-a.1];exact((hc.take off).append a).append (hc.drop _)) d h;have u:W w.cells=size/\off+W w.cells<=W cells':=(by rw[<-a.1,<-hc.1];omega);grind[mF];simp_all;simp_all
theorem LJ{size o:Nat}{agg:X'}{cs:Rd}{B:So}{sv:SV}(h:cn ν m H Z cs B)(hp:yF size agg ((cs.drop o).take size)=M sv):∃y,_n (cut B o size) (mk agg)=M y/\cV ν m H Z sv y:=by
 have u:=(h.drop o).take size;unfold yF at hp;split at hp;have a:cut B o size=M ((B.drop o).take size):=by unfold cut;rw[L' (by rw[<-u.1];omega)]
 rw[a];split at hp;split at hp;rename_i D w;cases hp;have z:=by rw[xW w]at u;exact u.frl
 exact⟨_,by simp_all[mk],.v _ _ (.agg _ _ z.1 z.2)⟩;cases hp;exact⟨_,by simp_all[mk],.agg _ _ u.1 u.2⟩;split at hp;rename_i x w;simp at hp;subst hp;rw[w]at u;have⟨y,G,e,I,C⟩:=u.inv;rw[e,C.cW];grind[mk];grind;grind
theorem UX{p:xN}{m?:Rd}{ys:So}{sv:SV}(o:∀zero pl,p=.build zero pl->V.cT zero=U)(i:∀d ob,bk m d=M ob->c8 ν m H Z d ob)(h:cn ν m H Z m? ys)(hp:zQ N m p m?=M sv):∃y,bT N p ys=M y/\cV ν m H Z sv y:=by
 unfold zQ at hp;split at hp;obtain⟨y,_,rfl,c,B⟩:=h.inv;rw[B.cW];simp at hp;subst hp;exact⟨y,_k,c⟩;obtain⟨y,_,rfl,c,B⟩:=h.inv;rw[B.cW];split at hp;next L=>simp at hp;subst hp;have⟨ob,u⟩:=isSome_iff_exists.1 L;obtain⟨cs,rfl,rfl⟩:=c.rI u;exact⟨_,_k,c⟩
 grind;obtain⟨y,_,rfl,c,B⟩:=h.inv;rw[B.cW];split at hp;next L=>simp at hp;subst hp;have⟨ob,u⟩:=isSome_iff_exists.1 L;obtain⟨k,es,n,L,f,rfl⟩:=c.xV u;exact⟨_,_k,c⟩
 grind;rename_i t a b;obtain⟨Q,_,rfl,c,B⟩:=h.inv;obtain⟨T,_,rfl,b__,D⟩:=B.inv;obtain⟨q,_,rfl,E,r⟩:=D.inv;rw[c.fr.bool,r.cW];simp at hp;refine⟨if t=U then T else q,_k,?_⟩;grind
 .obtain⟨Q,_,rfl,c,B⟩:=h.inv;obtain⟨T,_,rfl,b__,D⟩:=B.inv;rw[b__.fr.bN,D.cW];split at hp
  .rename_i k es a__ u;split at hp;simp_all;simp at hp;subst hp;obtain⟨W,G,I,e,rfl⟩:=c.iK u;cases e;cases k<;>first|grind|exact⟨_,_k,.v _ _ (.same _ _k)⟩
  grind
 .obtain⟨Q,_,rfl,c,B⟩:=h.inv;obtain⟨T,_,rfl,b__,D⟩:=B.inv;rw[b__.fr.bN,D.cW];split at hp
  .rename_i k es a__ u;split at hp;simp_all;simp at hp;subst hp;obtain⟨W,G,I,e,rfl⟩:=c.iK u;cases e;cases k<;>first|grind|exact⟨_,_k,.v _ _ (.same _ _k)⟩
  grind
 obtain⟨y,_,rfl,c,B⟩:=h.inv;rw[B.cW];split at hp;next L=>simp at hp;subst hp;have⟨ob,u⟩:=isSome_iff_exists.1 L;obtain⟨cs,rfl,rfl⟩:=c.rI u;exact⟨_,_k,.ptr _ _ _ λP C=>h?⟩
 grind;obtain⟨y,_,rfl,c,B⟩:=h.inv;rw[B.cW];split at hp;next L=>simp at hp;subst hp;have⟨ob,u⟩:=isSome_iff_exists.1 L;obtain⟨k,es,n,L,f,rfl⟩:=c.xV u;exact⟨_,_k,.el _ _ _ _ λP C=>by rw[u]at C;grind⟩
 simp at hp;obtain⟨Q,_,rfl,c,B⟩:=h.inv;obtain⟨T,_,rfl,b__,D⟩:=B.inv;rw[b__.fr.int,D.cW];split at hp;rename_i k es a__ u;split at hp;rename_i g;obtain⟨f,rfl,X,S⟩:=g;simp at hp;subst hp;obtain⟨W,G,I,e,rfl⟩:=c.iK u;cases e;rw[qx f];refine⟨.hptr (ν _).1 ((ν _).2+_) 0,by simp only[bT,nL,M' (Int.not_lt.2 X),true_and,L' S];rfl,.el _ _ _ _ λP C=>?_⟩;rw[u]at C;cases C;exact⟨_,_,_,_k,f,_k⟩;simp at hp;rename_i k a__ w u;split at hp;rename_i g;obtain⟨f,rfl,X,S⟩:=g;simp at hp;subst hp;obtain⟨W,G,I,e,rfl⟩:=c.iK u;cases e;rw[qx f];refine⟨.hptr (ν _).1 ((ν _).2+_) 0,by simp only[bT,nL,M' (Int.not_lt.2 X),true_and,L' S];rfl,.el _ _ _ _ λP C=>?_⟩;rw[u]at C;cases C;exact⟨_,_,_,_k,f,_k⟩;simp at hp;simp at hp;obtain⟨Q,_,rfl,c,B⟩:=h.inv;obtain⟨T,_,rfl,b__,D⟩:=B.inv;rw[b__.fr.int,D.cW];split at hp;rename_i g;simp at hp;subst hp;have⟨ob,u⟩:=isSome_iff_exists.1 g.2.2;obtain⟨cs,rfl,rfl⟩:=c.rI u;refine⟨.hptr (ν _).1 0 (_+_),by simp only[bT,Ad,L' (And.intro g.1 g.2.1)];rfl,.ptr _ _ _ λP C=>?_⟩;rw[u]at C;grind;simp at hp;obtain⟨Q,_,rfl,c,B⟩:=h.inv;obtain⟨T,_,rfl,b__,D⟩:=B.inv;rw[b__.fr.int,D.cW];split at hp;rename_i g;simp at hp;subst hp;have⟨ob,u⟩:=isSome_iff_exists.1 g.2.2;obtain⟨k,es,n,L,f,rfl⟩:=c.xV u;refine⟨.hptr (ν _).1 (_+_) (_+_),by simp only[bT,Ad,L' (And.intro g.1 g.2.1)];rfl,.el _ _ _ _ λP C=>?_⟩;rw[u]at C;grind;simp at hp;obtain⟨Q,_,rfl,c,B⟩:=h.inv;rw[B.cW];split at hp;rename_i k es a__ u;simp at hp;subst hp;obtain⟨W,G,I,e,rfl⟩:=c.iK u;cases e;have:=i _ _ u;simp[c8]at this;cases f:k<;>simp[f,b7]at this⊢;subst this;exact⟨_,_k,.v _ _ (.same _ _k)⟩;subst this;exact⟨_,_k,.v _ _ (.same _ _k)⟩;exact⟨_,_k,.v _ _ (.same _ _k)⟩;exact⟨_,_k,.v _ _ (.same _ _k)⟩;rename_i k a__ w u;simp at hp;subst hp;obtain⟨W,G,I,e,rfl⟩:=c.iK u;cases e;have:=i _ _ u;simp[c8]at this;cases f:k<;>simp[f,b7]at this⊢;obtain⟨rfl,_⟩:=this;exact⟨_,_k,.v _ _ (.same _ _k)⟩;obtain⟨rfl,_⟩:=this;exact⟨_,_k,.v _ _ (.same _ _k)⟩;exact⟨_,_k,.v _ _ (.same _ _k)⟩;simp at hp;rename_i vs name k;simp at hp;subst hp;exact⟨_,_k,.clo _ _ _ _ _ (h.take k).1 (h.drop k).1 (h.take k).2 (h.drop k).2⟩;obtain⟨Q,_,rfl,c,B⟩:=h.inv;rw[B.cW];obtain⟨s,rfl,j⟩:=c.s6;have⟨z,v,Y⟩:=j.get hp;exact⟨z,v,Y⟩;rename_i vs zero pl;obtain⟨l,x,rfl⟩:=ζf.1 hp;have⟨A,c,B⟩:=MY (cn.tv (dB.same (o zero pl _k))) h x;exact⟨.agg A,by grind[Go.VE.bT],.agg _ _ B.1 B.2⟩;obtain⟨Q,_,rfl,c,B⟩:=h.inv;rw[B.cW];obtain⟨s,rfl,j⟩:=c.jV;grind[LJ,Go.VE.bT];grind
def LG{p:xN}{m?:Rd}{ys:So}{sv:SV}(B:∀zero pl,p=.build zero pl->V.cT zero=U)(G:∀d ob,bk m d=M ob->c8 ν m H Z d ob)(h:cn ν m H Z m? ys)(hp:kj N m p m?=M sv):
 ∃y,bT N p ys=M y/\cV ν m H Z sv y:=by
 unfold kj at hp;split at hp
 next I u=>obtain⟨z,w,rfl⟩:=ζf.1 hp;rw[xW u]at h;have⟨C,a,D⟩:=dB.bT B h.frl w;exact⟨C,a,.v _ _ D⟩
 grind[UX]
def cn.c6{m?:Rd}{xs ys:So}(h:cn ν m H Z m? ys)(B:c6 m?=M xs):dB H Z xs ys:=by rw[xW B]at h;exact h.frl
def Fj{k:V}:∀{a b:aX (V×V)}{i:Nat},FW H Z a b->(jB k a i=M J->jB k b i=M J)/\∀j v,jB k a i=M (M (j,v))->∃B,jB k b i=M (M (j,B))/\FR H Z v B
 |[],b,i,h=>by have:b=[]:=length_eq_zero_iff.1 (by have:=h.1;grind);grind[jB]|(k1,x)::a,[],i,h=>by have:=h.1;grind|(k1,x)::a,(k2,y)::b,i,h=>by have⟨⟨e,_⟩,z⟩:=h.2 0 _ _ Y Y;subst e;have w:FW H Z a b:=⟨by have:=h.1;grind,λj u v c d=>h.2 (j+1) u v h? h?⟩;have C:=Fj (i:=i+1) (k:=k) w;grind[jB]
def yJ{kk:Aw}{k:V}(h:sC kk k=U):k.scalar=U:=by unfold sC at h;split at h;rfl;rfl;simp at h;have⟨a,u⟩:=isSome_iff_exists.1 h.2;exact t_ u;grind
def zF{r:OW}{m?:Rd}{ys:So}{sv:SV}(ak:∀s a,r≠.loadF s a)(T:∀kk z ok,r=.lookup kk z ok->z.good=U)(h:cn ν m H Z m? ys)(n:∀d,SV.dK d m?=U->∀ob,bk m d=M ob->c8 ν m H Z d ob)(hp:qe m r m?=M sv):
 ∃y,fS H r ys=M y/\cV ν m H Z sv y:=by
 unfold qe at hp;split at hp
 .
  obtain⟨c__,_,rfl,b,I⟩:=h.inv;rw[I.cW];split at hp
  .rename_i cs u;obtain⟨al,e,rfl⟩:=b.rI u;obtain⟨es,am,g,o,_⟩:=n _ (by simp[SV.dK,SV.cM]) _ u
   grind[LJ,fS,fh,Ob.rows]
  grind
 .
  obtain⟨c__,_,rfl,b,I⟩:=h.inv;rw[I.cW];split at hp
  .rename_i k es xs u;split at hp
   .rename_i cs W;obtain⟨z,L,rfl⟩:=ζf.1 hp;obtain⟨k1,R,an,e,f,rfl⟩:=b.xV u;cases e;have:=n _ (by simp[SV.dK,SV.cM]) _ u
    simp[c8,f]at this;obtain⟨rs,g,K,B,_⟩:=this;obtain⟨c,o,ad⟩:=B.get W;have q:=(ζe.1 W).1;rw[D?,L' q,L?]at o;obtain⟨r1,w,b__⟩:=ζg.1 L;obtain⟨r2,ae,C⟩:=ad.cut w;obtain⟨A,X,Y⟩:=C.mk b__;refine⟨A,?_,.v _ _ Y⟩
    grind[fS,fh,Ob.rows]
   grind
  .rename_i k xs j t u;split at hp
   .rename_i o;obtain⟨rfl,rfl,rfl,rfl⟩:=o;cases hp;obtain⟨k1,R,n1,e,f,rfl⟩:=b.xV u;cases e;have:=n _ (by simp[SV.dK,SV.cM]) _ u
    simp only[c8,f,N']at this;obtain⟨_,h0,af,ys,g,K,B⟩:=this;have q:=af _ _ rfl;have:=B j _ _ (ζd q) (ζd c?)
    simp only[qz,N']at this;obtain⟨v,e1,e2,e3⟩:=this;exact⟨v,by simp[fS,fh,g,Ob.rows,h0,K,q,e1,cut,mk],e3⟩
   grind
  grind
 .
  rename_i size agg p;obtain⟨c__,_,rfl,b,I⟩:=h.inv;rw[I.cW];obtain⟨z,L,rfl⟩:=ζf.1 hp;obtain⟨r1,w,b__⟩:=ζg.1 L;unfold fh at w;split at w
  .rename_i cs;rcases b.fr.oD with rfl|⟨id,el,off,es,ys,ao,rfl,Y,g,he,ap,B⟩
   .refine⟨z,by grind[fS,fh],.v _ _ (.same _ ?_)⟩
    have ah:=by have:=b.fr.good;simpa[V.good]using this
    obtain⟨r',aq,C⟩:=(dB.same (H:=H) (Z:=Z) ah).cut w;obtain⟨A,X,D⟩:=C.mk b__;exact D.good
   obtain⟨r2,ae,C⟩:=B.cut w;obtain⟨A,X,D⟩:=C.mk b__;refine⟨A,?_,.v _ _ D⟩
   grind[bt,fS,fh,cut]
  all_goals grind
 .
  rename_i kk z ok d k;obtain⟨c__,_,rfl,b,I⟩:=h.inv;obtain⟨a__,_,rfl,E,F⟩:=I.inv;rw[F.cW];split at hp
  .rename_i d__ u;split at hp
   .rename_i f;obtain⟨_,e,rfl⟩:=b.Hl u;have Q:=E.fr.scalar.1 (yJ f);subst Q;obtain⟨aj,g,ai⟩:=n _ (by simp[SV.dK,SV.cM]) _ u
    obtain⟨f1,f2⟩:=Fj ai;split at hp
    .rename_i j v B;obtain⟨N,ar,P⟩:=f2 j v B;simp at hp;subst hp;refine⟨if ok=U then .tup [N,.bool U]else N,by grind[fS,oJ],?_⟩
     cases ok
     .exact .v _ _ P
     refine .v _ _ (.tup _ _ rfl (dB.cons P (.cons (.same _ rfl) .nil)).2)
    .rename_i B;simp at hp;subst hp;refine⟨if ok=U then .tup [z,.bool O]else z,by grind[fS,oJ],?_⟩
     have L:=T kk z ok rfl;cases ok
     .exact .v _ _ (.same _ L)
     exact .v _ _ (.same _ (by grind[V.good,V.cT]))
    grind
   grind
  grind
 .
  rename_i kk z ok p k;obtain⟨c__,_,rfl,b,I⟩:=h.inv;obtain⟨a__,_,rfl,E,F⟩:=I.inv;rw[F.cW];obtain⟨x,G,rfl⟩:=ζf.1 hp;simp[fS]at G;have L:=T kk z ok rfl;split at G
  .rename_i d__ S;have key:oJ H c__=M d__/\V.vv d__=U:=by
    unfold oJ at S;split at S
    .rw[b.fr.iE];simp at S;subst S;exact⟨rfl,rfl⟩
    .rw[b.fr.fmap];simp at S;subst S;exact⟨rfl,by have:=b.fr.good;grind[V.good]⟩
    all_goals grind
   split at G
   .rename_i f;have Q:=E.fr.scalar.1 (yJ f);subst Q;split at G
    .rename_i j v B;simp at G;subst G;have hv:=by
      have:∀{l:aX (V×V)}{i:Nat},V.vv l=U->jB a__ l i=M (M (j,v))->v.good=U:=by intro l;induction l with|nil=>grind[jB]|cons p l ih=>intro i hg h;simp[V.vv]at hg;simp[jB]at h;grind
      exact this key.2 B
     refine⟨if ok=U then .tup [v,.bool U]else v,by grind[fS],?_⟩
     cases ok
     .exact .v _ _ (.same _ hv)
     exact .v _ _ (.same _ (by grind[V.good,V.cT]))
    .rename_i B;simp at G;subst G;refine⟨if ok=U then .tup [z,.bool O]else z,by grind[fS],?_⟩
     cases ok
     .exact .v _ _ (.same _ L)
     exact .v _ _ (.same _ (by grind[V.good,V.cT]))
    simp at G
   simp at G
  simp at G
 all_goals grind
end
section
variable{Rv:Nat->Prop}{ν ν':Nu}{Z Z':Nat->Prop}{st e?:St}{m m':Tb bE}{F F':WP}{H H':bl}
def uE{k:Fl}{xs:S'}{h:aY (Nat×Nat)}{i:Nat}(hp:(bE.dp k xs h).pt (i+1)=U):(∀t,h≠M (i,t))/\∃es B,xs[i]?=M [.fsl es B]:=by simp only[bE.pt,ζh]at hp;have⟨a,u⟩:=hp;refine⟨λt e=>?_,?_⟩;subst e;simp at a;split at u;exact⟨_,_,by assumption⟩;cases u
def qz.out{d i:Nat}{h:aY (Nat×Nat)}{x y:So}(B:∀t,h≠M (i,t)):qz ν m H Z d h i x y↔xJ ν H Z d i x y:=by unfold qz;split;rename_i j t;have:j≠i:=λe=>B t (by rw[e]);rw[M' this];rfl
def c8.at{d:Nat}{ob:bE}(o:c8 ν m H Z d ob){j:Nat}(h:ob.pt j=U):∃x,H[ν.at d j]?=M x:=by
 cases j with
 |zero=>have h:eM ob=U:=h;cases ob with|sl k es z=>simp only[eM]at h;simp only[c8,h,N']at o;exact⟨_,o.choose_spec.1⟩|box cs=>have⟨es,C,a,_⟩:=o;exact⟨_,a⟩|mp D=>have⟨B,a,_⟩:=o;exact⟨_,a⟩|dp k z w=>simp only[eM]at h;simp only[c8,h,N']at o;have⟨_,_,_,G,a,_⟩:=o;exact⟨_,a⟩
 |succ i=>
  cases ob with
  |dp k z w=>have⟨b,es,g,u⟩:=uE h;simp only[c8]at o;split at o;have⟨_,_,_,G,a,L,I⟩:=o;have c:=(ζe.1 u).1;have:=(qz.out b).1 (I i _ _ u (ζd c?));rcases this with⟨_,h|h⟩|⟨_,_,q,_,_,h,_⟩;cases h;cases h;exact⟨_,h⟩;rw[o.1]at u;cases u
  |_=>simp[bE.pt]at h
def c8.free{d:Nat}{ob:bE}(o:c8 ν m H Z d ob){j:Nat}(h:ob.pt j=U):H[ν.at d j]?≠M .free:=by
 cases j with
 |zero=>have h:eM ob=U:=h;show H[(ν d).1]?≠_;cases ob with|sl k es z=>simp only[eM]at h;simp only[c8,h,N']at o;have⟨B,a,_⟩:=o;rw[a];simp|box cs=>have⟨es,D,a,_⟩:=o;rw[a];simp|mp G=>have⟨C,a,_⟩:=o;rw[a];simp|dp k z w=>simp only[eM]at h;simp only[c8,h,N']at o;have⟨_,_,_,B,a,_⟩:=o;rw[a];simp
 |succ i=>
  cases ob with
  |dp k z w=>have⟨b,es,g,u⟩:=uE h;simp only[c8]at o;split at o;have⟨_,_,_,B,a,L,I⟩:=o;have c:=(ζe.1 u).1;rcases(qz.out b).1 (I i _ _ u (ζd c?))with⟨_,h|h⟩|⟨_,_,q,_,_,h,_⟩;cases h;cases h;show H[ν.inn d i]?≠_;rw[h];simp;rw[o.1]at u;cases u
  |_=>simp[bE.pt]at h
def R.lt(r:R ν Z st F H){id:Nat}(h:fN ν st.m id):id<W H:=by obtain⟨d,ob,j,a,u,rfl⟩:=h;have⟨o,w⟩:=(r.obj d ob a).at u;exact(ζe.1 w).1
def R.xK(r:R ν Z st F H){id:Nat}(h:Z id):id<W H:=by have:=r.zrow id h;unfold bt at this;have⟨x,u⟩:=isSome_iff_exists.1 this;have⟨ob,a,_⟩:=ζg.1 u;exact(ζe.1 a).1
def Deep.mono(d:Deep H Z)(h:∀id,Z id->bt H' id=bt H id):Deep H' Z where
 row:=λid es z w hr c hc u hu=>by rw[h id w]at hr;have⟨x,B⟩:=d.row id es z w hr c hc u hu;exact⟨x,B.mono λk a=>⟨a,h k a⟩⟩
def wZ.mono{ys:S'}(h:∀id,Z id->Z' id/\bt H' id=bt H id)(s:wZ H Z ys):wZ H' Z' ys:=λc a u b=>by have⟨x,w⟩:=s c a u b;exact⟨x,w.mono h⟩
def FW.mono{a b:aX (V×V)}(h:∀id,Z id->Z' id/\bt H' id=bt H id)(s:FW H Z a b):FW H' Z' a b:=⟨s.1,λj u v c d=>⟨(s.2 j u v c d).1,(s.2 j u v c d).2.mono h⟩⟩
def c8.mono{d q:Nat}{ob:bE}(B:∀id,Z id->Z' id/\bt H' id=bt H id)(hd:ν' q=ν d)(D:∀j,ob.pt j=U->H'[ν.at d j]?=H[ν.at d j]?)
 (T:∀e,ob.cM e=U->∀l?,bk m' e=M l?->∃ob,bk m e=M ob/\ν' e=ν e/\sameShape ob l?)(o:c8 ν m H Z d ob)(c:ν'.inn q=ν.inn d:=by rfl):c8 ν' m' H' Z' q ob:=by
 cases ob with
 |sl k es W=>
  simp only[c8,hd]at o⊢;split
  next a=>rw[L' a]at o;have⟨I,b,u,C,L,P⟩:=o;exact⟨I,(D 0 (by simpa[bE.pt,eM]using a)).trans b,u,C.mono B,L.mono B,P⟩
  rename_i a;rw[M' a]at o;exact o
 |box cs=>have⟨es,Q,b,u,C⟩:=o;exact⟨es,Q,by rw[hd];exact(D 0 rfl).trans b,u.mono B T,C⟩|mp X=>have⟨G,b,u⟩:=o;exact⟨G,by rw[hd];exact(D 0 rfl).trans b,u.mono B⟩|dp k W w=>
  simp only[c8,hd]at o⊢;split
  .rename_i a;rw[L' a]at o;have⟨Y,b,u,I,C,L,P⟩:=o;refine⟨Y,b,u,I,(D 0 a).trans C,L,λi x y A f=>?_⟩
   have g:(∀t,w≠M (i,t))->xJ ν H Z d i x y->xJ ν' H' Z' q i x y:=λz h=>by rcases h with h|⟨es,l,n,rfl,rfl,e1,e2⟩;exact .inl h;refine .inr ⟨es,l,n,_k,by rw[c],?_,e2.mono B⟩;rw[c];have:=D (i+1) (by simp only[bE.pt,A,Bool.and_true];split<;>grind);simp only[Nu.at]at this;rw[this];exact e1
   have S:=P i x y A f
   by_cases z:∃t,w=M (i,t)
   .obtain⟨t,rfl⟩:=z;simp only[qz,N']at S⊢;have⟨v,e1,e2,e3⟩:=S;exact⟨v,e1,e2,e3.mono B λe p=>T e (by simpa[SV.cM,bE.cM]using p)⟩
   have z:∀t,w≠M (i,t):=λt e=>z ⟨t,e⟩
   exact(qz.out z).2 (g z ((qz.out z).1 S))
  rename_i a;rw[M' a]at o;exact o
def ko(ν:Nu)(m:Tb bE)(e:Nat):∀l?,bk m e=M l?->∃ob,bk m e=M ob/\ν e=ν e/\sameShape ob l?:=λl? h=>⟨l?,h,Y,.refl _⟩
def R.heap(r:R ν Z st F H)(D:∀id,fN ν st.m id->H'[id]?=H[id]?)(B:∀id,Z id->bt H' id=bt H id):R ν Z st F H' where
 slot:=λs u w=>(r.slot s u w).mono (λid h=>⟨h,B id h⟩) λd _=>ko ν st.m d
 obj:=λd ob hd=>c8.mono (λid h=>⟨h,B id h⟩) Y (λj z=>D _ ⟨d,ob,j,hd,z,Y⟩) (λe _=>ko ν st.m e) (r.obj d ob hd)
 inj:=r.inj
 apart:=r.apart
 zrow:=λid h=>by rw[B id h];exact r.zrow id h
 deep:=r.deep.mono B
def R.put(r:R ν Z st F H){d:Nat}{sv:SV}{y:V}(h:cV ν st.m H Z sv y):R ν Z {st with g:=bH st.g d sv} (set F d y) H where
 slot:=λs x u=>by by_cases e:d=s;subst e;rw[cu]at u;cases u;rw[vN];exact h;rw[cK st.g sv e]at u;rw[kS _ _ e];exact r.slot s x u
 obj:=r.obj
 inj:=r.inj
 apart:=r.apart
 zrow:=r.zrow
 deep:=r.deep
def Ev.slots(g:Tb SV):Ev Rv ν Z st H ν Z {st with g:=g} H:=⟨y? _,λ_ _ _ _ _=>rfl,λ_ h=>⟨h,Y⟩,λ_ h=>.inl h,λ_ h=>.inl h,λ_ _ u h=>⟨u,h,Y,.refl _⟩,Y⟩
def iU(ν:Nu)(d:Nat)(p:Nat×Nat):Nu:=⟨λk=>if k=d then p else ν k,ν.inn⟩
theorem jx(ν:Nu)(d:Nat)(p:Nat×Nat):iU ν d p d=p:=L' Y
def DE(ν:Nu){d k:Nat}(p:Nat×Nat)(h:k≠d):iU ν d p k=ν k:=M' h
def Ou(ν:Nu){d k:Nat}(p:Nat×Nat)(h:k≠d)(j:Nat):(iU ν d p).at k j=ν.at k j:=by cases j with|zero=>simp only[Nu.at,DE ν p h]|succ i=>rfl
def bE.flat(ob:bE):Prop:=∀j,ob.pt j=U->j=0
def lB{ob:bE}(h:∀k xs w,ob≠.dp k xs w):ob.flat:=λj u=>by cases j with|zero=>rfl|succ i=>cases ob<;>simp[bE.pt]at u h
def lX{d:Nat}(h:st.new d=U):d∉st.pin/\bk st.m d=J/\wX d st.g=O/\vk d st.m=O:=by unfold St.new at h;simp only[ζh,Z?,Option.isNone_iff_eq_none,List.contains_eq_mem,_h]at h;exact⟨h.1.1.1,h.1.1.2,h.1.2,h.2⟩
def B5{d:Nat}{ob:bE}{p:Nat×Nat}{e:Nat}(h:e≠d):∀l?,bk (bH m d ob) e=M l?->∃ob,bk m e=M ob/\iU ν d p e=ν e/\sameShape ob l?:=λl? u=>by rw[cK m ob (Ne.symm h)]at u;exact⟨l?,u,DE ν p h,.refl _⟩
def pH{ob l?:bE}(D:eM l?=eM ob)(B:l?.flat:=by exact lB f?):∀j,l?.pt j=U->ob.pt j=U:=λj h=>by have:=B j h;subst this;exact(show eM ob=U from D▸h)
def kV(ν:Nu)(d:Nat)(p:Nat×Nat)(f:Nat->Nat):Nu:=⟨λk=>if k=d then p else ν k,λk=>if k=d then f else ν.inn k⟩
def uL(ν:Nu){d k:Nat}(p:Nat×Nat)(f:Nat->Nat)(h:k≠d)(j:Nat):(kV ν d p f).at k j=ν.at k j:=by cases j with|zero=>exact _f fst (M' h)|succ i=>exact congrFun (M' h) i
def pz(ν:Nu)(d:Nat)(p:Nat×Nat)(f:Nat->Nat):(kV ν d p f) d=p/\(kV ν d p f).inn d=f:=⟨L' Y,L' Y⟩
def U3(ν:Nu)(d:Nat)(p:Nat×Nat):iU ν d p=kV ν d p (ν.inn d):=by
 have:(kV ν d p (ν.inn d)).inn=ν.inn:=funext λk=>by show(if k=d then ν.inn d else ν.inn k)=_;split;(next h=>rw[h]);rfl
 show(⟨_,ν.inn⟩:Nu)=⟨_,(kV ν d p (ν.inn d)).inn⟩;rw[this]
def R.V0(r:R ν Z st F H){d:Nat}{ob:bE}{p:Nat×Nat}{f:Nat->Nat}(n:bk st.m d=J)(P:wX d st.g=O)(A:∀e o,bk st.m e=M o->o.cM d=U->c8 (kV ν d p f) (bH st.m d ob) H Z e o)
 (T:∀j,ob.pt j=U->¬fN ν st.m ((kV ν d p f).at d j)/\¬Z ((kV ν d p f).at d j))(g:∀j t,ob.pt j=U->ob.pt t=U->(kV ν d p f).at d j=(kV ν d p f).at d t->j=t)(i:c8 (kV ν d p f) (bH st.m d ob) H Z d ob):
 R (kV ν d p f) Z {st with m:=bH st.m d ob} F H:=by
 have key:∀w u,bk (bH st.m d ob) w=M u->w≠d->bk st.m w=M u:=λw u h e=>by rw[cK st.m ob (Ne.symm e)]at h;exact h
 have c:∀e,e≠d->∀u,bk (bH st.m d ob) e=M u->∃ob,bk st.m e=M ob/\(kV ν d p f) e=ν e/\sameShape ob u:=λe D u h=>⟨u,key e u h D,M' D,.refl _⟩
 refine⟨λs Q G=>?_,λw u hd=>?_,?_,?_,r.zrow,r.deep⟩
 .refine(r.slot s Q G).mono (λid h=>⟨h,Y⟩) λe D=>c e ?_
  rintro rfl;rw[BT P G]at D;cases D
 .by_cases e:w=d
  .subst e;simp only at hd;rw[cu]at hd;cases hd;exact i
  have I:=key w u hd e
  by_cases G:u.cM d=U
  .exact A w u I G
  refine c8.mono (λid h=>⟨h,Y⟩) (M' e) (λ_ _=>rfl) (λk l=>c k ?_) (r.obj w u I) (M' e)
  rintro rfl;exact G l
 .intro b d2 o1 o2 L y a z B q C
  by_cases e1:b=d<;>by_cases e2:d2=d
  .subst e1;subst e2;simp only at a z;rw[cu]at a z;cases a;cases z;exact⟨Y,g _ _ B q C⟩
  .subst e1;simp only at a;rw[cu]at a;cases a;rw[uL ν p f e2]at C;exact _e ⟨d2,o2,y,key d2 o2 z e2,q,C.symm⟩ (T _ B).1
  .subst e2;simp only at z;rw[cu]at z;cases z;rw[uL ν p f e1]at C;exact _e ⟨b,o1,L,key b o1 a e1,B,C⟩ (T _ q).1
  rw[uL ν p f e1,uL ν p f e2]at C;exact r.inj b d2 o1 o2 L y (key b o1 a e1) (key d2 o2 z e2) B q C
 intro b o1 j a B
 by_cases e1:b=d
 .subst e1;simp only at a;rw[cu]at a;cases a;exact(T _ B).2
 rw[uL ν p f e1];exact r.apart b o1 j (key b o1 a e1) B
def R.add(r:R ν Z st F H){d:Nat}(G:st.new d=U){ob:bE}{p:Nat×Nat}(g:eM ob=U->¬fN ν st.m p.1/\¬Z p.1)(D:c8 (iU ν d p) (bH st.m d ob) H Z d ob)(B:ob.flat:=by exact lB f?):
 R (iU ν d p) Z {st with m:=bH st.m d ob} F H:=by
 have⟨_,w,z,C⟩:=lX G;rw[U3]at D⊢;refine r.V0 w z (λe o h u=>?_) (λj h=>?_) (λj L h I _=>by rw[B _ h,B _ I]) D
 .rw[uq C h]at u;cases u
 have:=B _ h;subst this;simp only[Nu.at,pz];exact g h
def MI{d:Nat}{ob:bE}{p:Nat×Nat}{f:Nat->Nat}{id:Nat}(h:fN (kV ν d p f) (bH m d ob) id):fN ν m id\/∃j,ob.pt j=U/\(kV ν d p f).at d j=id:=by have⟨k,o,j,a,w,u⟩:=h;by_cases e:k=d;subst e;rw[cu]at a;cases a;exact .inr ⟨j,w,u⟩;rw[uL ν p f e]at u;rw[cK m ob (Ne.symm e)]at a;exact .inl ⟨k,o,j,a,w,u⟩
def Dw{d:Nat}{ob:bE}{p:Nat×Nat}{id:Nat}(h:fN (iU ν d p) (bH m d ob) id)(B:ob.flat:=by exact lB f?):fN ν m id\/(eM ob=U/\id=p.1):=by have⟨k,o,j,a,w,u⟩:=h;by_cases e:k=d;subst e;rw[cu]at a;cases a;have:=B _ w;subst this;simp only[Nu.at,jx]at u;exact .inr ⟨w,u.symm⟩;rw[Ou ν p e]at u;rw[cK m ob (Ne.symm e)]at a;exact .inl ⟨k,o,j,a,w,u⟩
def Ev.add{d:Nat}(D:st.new d=U){ob:bE}{p:Nat×Nat}(G:W H<=W H')(g:∀id,id<W H->¬Rv id->H'[id]?=H[id]?)(T:∀id,Z id->bt H' id=bt H id)
 (hp:eM ob=U->Rv p.1\/W H<=p.1)(B:ob.flat:=by exact lB f?):Ev Rv ν Z st H (iU ν d p) Z {st with m:=bH st.m d ob} H' where
 len:=G
 same:=λid h _ _ hr=>g id h hr
 rows:=λid h=>⟨h,T id h⟩
 own:=λid h=>by rcases Dw h B with h|⟨a,rfl⟩;exact .inl h;exact .inr (hp a)
 frz:=λid h=>.inl h
 pin:=λe w u h=>by have:e≠d:=(by rintro rfl;exact(lX D).1 w);exact B5 this u h
 pins:=rfl
def R.HC(r:R ν Z st F H){d:Nat}{ob l?:bE}(D:bk st.m d=M ob)(G:sameShape ob l?)(i:∀j,l?.pt j=U->ob.pt j=U)(T:∀id,(eM ob=U->id≠(ν d).1)->H'[id]?=H[id]?)
 (t:c8 ν (bH st.m d l?) H' Z d l?):R ν Z {st with m:=bH st.m d l?} F H':=by
 have z:∀id,Z id->Z id/\bt H' id=bt H id:=λid h=>⟨h,by
  unfold bt;rw[T id (by rintro B rfl;exact r.apart d ob 0 D B h)]⟩
 have c:∀e u,bk (bH st.m d l?) e=M u->∃w,bk st.m e=M w/\ν e=ν e/\sameShape w u:=λe u h=>by by_cases k:e=d;subst k;rw[cu]at h;cases h;exact⟨ob,D,Y,G⟩;rw[cK st.m l? (Ne.symm k)]at h;exact⟨u,h,Y,.refl _⟩
 have C:∀e u,bk (bH st.m d l?) e=M u->∃w,bk st.m e=M w/\∀j,u.pt j=U->w.pt j=U:=λe u h=>by by_cases k:e=d;subst k;rw[cu]at h;cases h;exact⟨ob,D,i⟩;rw[cK st.m l? (Ne.symm k)]at h;exact⟨u,h,λ_ h=>h⟩
 refine⟨λs Q G=>(r.slot s Q G).mono z λe _=>c e,λI u hd=>?_,?_,?_,λid h=>by rw[(z id h).2];exact r.zrow id h,r.deep.mono λid h=>(z id h).2⟩
 .by_cases e:I=d
  .subst e;simp only at hd;rw[cu]at hd;cases hd;exact t
  simp only at hd;rw[cK st.m l? (Ne.symm e)]at hd;refine c8.mono z Y (λj g=>T _ λB h=>e (r.inj I d u ob j 0 hd D g B h).1) (λk _=>c k) (r.obj I u hd)
 .intro a d2 o1 o2 S X b q L b2 hp;have⟨p1,k1,o⟩:=C a o1 b;have⟨p2,k2,f⟩:=C d2 o2 q;exact r.inj a d2 p1 p2 S X k1 k2 (o _ L) (f _ b2) hp
 intro a o1 j b L;have⟨p1,k1,o⟩:=C a o1 b;exact r.apart a p1 j k1 (o _ L)
def Ev.HC(r:R ν Z st F H){d:Nat}{ob l?:bE}(B:bk st.m d=M ob)(G:sameShape ob l?)(g:∀j,l?.pt j=U->ob.pt j=U)(D:∀id,(eM ob=U->id≠(ν d).1)->H'[id]?=H[id]?)(T:W H<=W H'):
 Ev Rv ν Z st H ν Z {st with m:=bH st.m d l?} H' where
 len:=T
 same:=λid _ I _ _=>D id λu e=>I ⟨d,ob,0,B,u,e.symm⟩
 rows:=λid h=>⟨h,by unfold bt;rw[D id (by rintro u rfl;exact r.apart d ob 0 B u h)]⟩
 own:=λid⟨k,o,j,h1,z,C⟩=>by by_cases e:k=d;subst e;simp only at h1;rw[cu]at h1;cases h1;exact .inl ⟨k,ob,j,B,g _ z,C⟩;simp only at h1;rw[cK st.m l? (Ne.symm e)]at h1;exact .inl ⟨k,o,j,h1,z,C⟩
 frz:=λid h=>.inl h
 pin:=λe _ w h=>by by_cases k:e=d;subst k;simp only at h;rw[cu]at h;cases h;exact⟨ob,B,Y,G⟩;simp only at h;rw[cK st.m l? (Ne.symm k)]at h;exact⟨w,h,Y,.refl _⟩
 pins:=rfl
def R.gD(r:R ν Z st F H){d:Nat}{ob l?:bE}(D:bk st.m d=M ob)(G:sameShape ob l?)(g:∀j,l?.pt j=U->ob.pt j=U)(T:∀id,id≠(ν d).1->H'[id]?=H[id]?)(B:eM ob=U)(i:c8 ν (bH st.m d l?) H' Z d l?):R ν Z {st with m:=bH st.m d l?} F H':=r.HC D G g (λid h=>T id (h B)) i
def Ev.gD(r:R ν Z st F H){d:Nat}{ob l?:bE}(D:bk st.m d=M ob)(G:sameShape ob l?)(g:∀j,l?.pt j=U->ob.pt j=U)(T:∀id,id≠(ν d).1->H'[id]?=H[id]?)(B:eM ob=U)(i:W H<=W H'):Ev Rv ν Z st H ν Z {st with m:=bH st.m d l?} H':=Ev.HC r D G g (λid h=>T id (h B)) i
def R.less(r:R ν Z st F H){g:Tb SV}{m':Tb bE}(a:∀s sv,bk g s=M sv->bk st.g s=M sv)(B:∀d ob,bk m' d=M ob->bk st.m d=M ob):R ν Z {st with g:=g,m:=m'} F H where
 slot:=λs sv z=>(r.slot s sv (a s sv z)).mono (λid h=>⟨h,Y⟩) λe _ u h=>⟨u,B e u h,Y,.refl _⟩
 obj:=λd ob hd=>c8.mono (λid h=>⟨h,Y⟩) Y (λ_ _=>rfl) (λe _ u h=>⟨u,B e u h,Y,.refl _⟩) (r.obj d ob (B d ob hd))
 inj:=λd w ob u j C b D=>r.inj d w ob u j C (B d ob b) (B w u D)
 apart:=λd ob j h=>r.apart d ob j (B d ob h)
 zrow:=r.zrow
 deep:=r.deep
def Ev.less{g:Tb SV}{m':Tb bE}(B:∀d ob,bk m' d=M ob->bk st.m d=M ob):Ev Rv ν Z st H ν Z {st with g:=g,m:=m'} H:=⟨y? _,λ_ _ _ _ _=>rfl,λ_ h=>⟨h,Y⟩,λ_⟨d,ob,j,a,w,z⟩=>.inl ⟨d,ob,j,B d ob a,w,z⟩,λ_ h=>.inl h,λe _ u h=>⟨u,B e u h,Y,.refl _⟩,Y⟩
def Ev.heap(B:W H<=W H')(D:∀id,id<W H->¬fN ν st.m id->¬Z id->¬Rv id->H'[id]?=H[id]?)(G:∀id,Z id->bt H' id=bt H id):Ev Rv ν Z st H ν Z st H':=⟨B,D,λid h=>⟨h,G id h⟩,λ_ h=>.inl h,λ_ h=>.inl h,λ_ _ u h=>⟨u,h,Y,.refl _⟩,Y⟩
def gM.BM{xs ys:S'}(h:gM H Z xs ys):wZ H Z ys:=λc b u d=>by
 have⟨i,e⟩:=mem_iff_getElem?.1 b;have z:i<W xs:=by rw[h.1];grind
 have a:=h.2 i _ c (ζd z) e;have⟨j,B⟩:=mem_iff_getElem?.1 d;have w:j<W (xs[i]):=by rw[a.1];grind
 exact⟨_,a.2 j _ u (ζd w) B⟩
theorem gM.same{xs:S'}(h:V.pI xs=U):gM H Z xs xs:=⟨Y,λj u v a b=>by rw[a]at b;grind[dB.same,mH]⟩
def qY{z:So}(h:V.cT z=U):∀n,V.pI (replicate n z)=U
 |0=>rfl|n+1=>by simp[List.replicate_succ,V.pI,h,qY h n]
def Ek{es:Nat}:∀{ps qs:aX (Nat×V)}{xs B r:S'},gM H Z xs B->ps.map (·.1)=qs.map (·.1)->dB H Z (ps.map (·.2)) (qs.map (·.2))->gB es xs ps=M r->∃G,gB es B qs=M G/\gM H Z r G
 |[],qs,xs,B,r,D,a,d,h=>by simp_all[gB]|(i,v)::ps,qs,xs,B,r,D,a,d,h=>by cases qs with|nil=>simp_all|cons q qs=>obtain⟨j,w⟩:=q;simp at a;obtain⟨e,a⟩:=a;subst e;obtain⟨w',C,e,u,z⟩:=d.inv;obtain⟨rfl,rfl⟩:=e;have b:=u.cells;simp only[gB]at h⊢;split at h;rw[L' ⟨by rw[<-b.1];grind,by rw[<-D.1];grind,by rw[b.one];grind⟩];exact Ek (D.set i b) a z h;grind
def zip_fst:∀{idx:ST}{xs:So},W idx=W xs->(idx.zip xs).map (·.1)=idx
 |[],xs,_=>f?|i::idx,[],h=>p?|i::idx,x::xs,h=>by simp[zip_fst (idx:=idx) (xs:=xs) h?]
def HI:∀{idx:ST}{xs:So},W idx=W xs->(idx.zip xs).map (·.2)=xs
 |[],[],_=>f?|[],x::xs,h=>p?|i::idx,[],h=>p?|i::idx,x::xs,h=>by simp[HI (idx:=idx) (xs:=xs) h?]
def Tj{a:TY}{m?:Rd}{ys:So}{d:Nat}{ob:bE}{sv:SV}(b:DQ (.a a)=U)(r:cn ν m H Z m? ys)(h:oB m a m? d=M (ob,sv)):
 ∃o mk,nW a ys=M (o,mk)/\eM ob=U/\ob.flat/\o≠.free/\∀(id:Nat)(ν':Nu)(m':Tb bE)(H':bl),ν' d=(id,0)->bk m' d=M ob->H'[id]?=M o->(∀k,Z k->bt H' k=bt H k)->
  (∀e,SV.dK e m?=U->∀l?,bk m' e=M l?->∃ob,bk m e=M ob/\ν' e=ν e/\sameShape ob l?)->c8 ν' m' H' Z d ob/\cV ν' m' H' Z sv (mk.val id):=by
 unfold oB at h;split at h
 .
  rename_i size zero;obtain⟨rfl,rfl⟩:=h;rw[r.cW];simp only[DQ,ζh]at b;refine⟨_,_,rfl,rfl,lB f?,f?,λid ν' m' H' e1 e2 e3 e4 e5=>⟨⟨_,zero,by rw[e1];omega,cn.tv (dB.same b.1),b.2⟩,?_⟩⟩
  exact .ptr _ _ _ λl? u=>by rw[e2]at u;cases u;exact⟨_,rfl,by rw[e1];rfl⟩
 .
  split at h
  .rename_i C;obtain⟨rfl,rfl⟩:=h;obtain⟨y,_,rfl,f,B⟩:=r.inv;rw[B.cW];have l:=f.fr.cells;refine⟨.row y.cells.length [y.cells],.ptr,by simp[nW,l.one,C],rfl,lB f?,f?,λid ν' m' H' e1 e2 e3 e4 e5=>⟨⟨_,y.cells,by rw[e1];omega,cn.tv (l.mono λk b=>⟨b,e4 k b⟩),by rw[l.one];simp_all⟩,?_⟩⟩
   exact .ptr _ _ _ λl? u=>by rw[e2]at u;cases u;exact⟨_,rfl,by rw[e1];rfl⟩
  grind
 .
  split at h
  .rename_i w;obtain⟨rfl,rfl⟩:=h;obtain⟨y,_,rfl,f,B⟩:=r.inv;rw[B.cW];obtain⟨Q,rfl,W⟩:=f.jV;have D:=IU w W;refine⟨.row Q.length [Q],.ptr,by grind[nW,V.cells],rfl,lB f?,f?,λid ν' m' H' e1 e2 e3 e4 e5=>⟨⟨_,Q,by rw[e1];omega,W.mono (λk b=>⟨b,e4 k b⟩) λe S=>e5 e (by grind[SV.dK,SV.cM]),D⟩,?_⟩⟩
   exact .ptr _ _ _ λl? u=>by rw[e2]at u;cases u;exact⟨_,rfl,by rw[e1];rfl⟩
  grind
 .
  split at h
  .rename_i w;obtain⟨rfl,rfl⟩:=h;obtain⟨y,_,rfl,f,B⟩:=r.inv;rw[B.cW];obtain⟨X,D⟩:=lN w f;refine⟨.row [y].length [[y]],.ptr,by grind[nW],rfl,lB f?,f?,λid ν' m' H' e1 e2 e3 e4 e5=>⟨⟨_,[y],by rw[e1];omega,.cons (f.mono (λk b=>⟨b,e4 k b⟩) λe S=>e5 e (by grind[SV.dK])) .nil,p?⟩,?_⟩⟩
   exact .ptr _ _ _ λl? u=>by rw[e2]at u;cases u;exact⟨_,rfl,by rw[e1];rfl⟩
  grind
 .
  rename_i size zero k n F c;obtain⟨_,_,rfl,f,B⟩:=r.inv;obtain⟨_,_,rfl,q,s⟩:=B.inv;rw[f.fr.int,q.fr.int,s.cW];split at h
  .rename_i l;obtain⟨rfl,rfl⟩:=h;have T:b7 (if n=c then Fl.row else Fl.part)=U:=by split<;>rfl
   refine⟨_,_,by simp only[nW];rw[L' l],T,lB f?,f?,λid ν' m' H' e1 e2 e3 e4 e5=>⟨?_,?_⟩⟩
   .simp[c8,T,e1];have v:=qY b c.toNat;have b__:n.toNat<=c.toNat:=by omega
    refine⟨_,e3,p?,?_,(gM.same v).BM,λe=>?_⟩
    .simp[Nat.min_eq_left b__];exact gM.same (qY b _)
    grind
   refine .own _ _ λl? u=>?_
   rw[e2]at u;cases u;exact⟨_,_,_,rfl,by rw[qx T,e1];simp[Mk.val]⟩
  grind
 .
  rename_i vs size len zero idx;split at h
  .rename_i xs G;split at h
   .rename_i w;obtain⟨rows,A,e⟩:=ζf.1 h;obtain⟨rfl,rfl⟩:=e;have c__:=r.c6 G;obtain⟨g,I,z⟩:=Ek (qs:=idx.zip ys) (gM.same (qY b len)) (by rw[zip_fst w,zip_fst (by rw[<-c__.1];exact w)]) (by rw[HI w,HI (by rw[<-c__.1];exact w)];exact c__) A
    have a__:g.length=len:=by have:∀{ps:aX (Nat×V)}{a r:S'},gB size a ps=M r->r.length=a.length:=(by intro ps;induction ps with|nil=>grind[gB]|cons p ps ih=>grind[gB]);rw[this I];simp
    refine⟨.row size g,.sl size len,by simp only[nW];rw[L' (by rw[<-c__.1];exact w),I];rfl,rfl,lB f?,f?,λid ν' m' H' e1 e2 e3 e4 e5=>⟨?_,?_⟩⟩
    .have L:=z.mono λk b=>⟨b,e4 k b⟩
     simp only[c8,e1];refine⟨_,e3,by simp[z.1],?_,L.BM,λ_=>⟨trivial,z.1.symm⟩⟩
     simp[z.1];exact L
    refine .own _ _ λl? u=>?_
    rw[e2]at u;cases u;exact⟨_,_,_,rfl,by rw[z.1,a__];grind[qA,Mk.val]⟩
   grind
  split at h
  .rename_i t _;split at h
   .rename_i l;obtain⟨rfl,rfl,rfl,w⟩:=l;obtain⟨rfl,rfl⟩:=h;obtain⟨y,_,rfl,f,B⟩:=r.inv;rw[B.cW];obtain⟨X,D⟩:=lN (x:=.own t) w f;refine⟨.row 1 [[y]],.sl 1 1,by simp[nW,gB,X,D],rfl,λj E=>?_,f?,λid ν' m' H' e1 e2 e3 e4 e5=>⟨?_,?_⟩⟩
    .cases j with
     |zero=>rfl|succ i=>cases i<;>simp[bE.pt]at E
    .simp only[c8,b7,N',e1];refine⟨trivial,trivial,λi K e=>by cases e;simp,_,e3,rfl,λi x P G Y=>?_⟩
     cases i with
     |zero=>simp at G Y;subst G;subst Y;simp only[qz,N'];exact⟨y,rfl,D,f.mono (λk b=>⟨b,e4 k b⟩) λe S=>e5 e (by simp[SV.dK,S])⟩|succ i=>simp at G
    refine .own _ _ λl? u=>?_
    rw[e2]at u;cases u;exact⟨_,_,_,rfl,by simp[qA,e1,Mk.val]⟩
   cases h
  cases h
 .
  obtain⟨rfl,rfl⟩:=h;rw[r.cW];refine⟨_,_,rfl,rfl,lB f?,f?,λid ν' m' H' e1 e2 e3 e4 e5=>⟨⟨_,by rw[e1];exact e3,rfl,f?⟩,?_⟩⟩
  exact .mp _ _ λl? u=>by rw[e2]at u;cases u;exact⟨_,rfl,by rw[e1];rfl⟩
 grind
theorem cn.ab5 {cs:aX SV} {B:aX V} (h:cn ν m H Z cs B) {size o:Nat} {x:SV} {y:V} {r:aX SV} (G:cV ν m H Z x y) (hp:putCells m size o x cs=some r) (D:B.all V.one=true) :
 y.cells.length=size/\o+size<=B.length/\y.cells.all V.one=true/\cn ν m H Z r (B.take o++y.cells++B.drop (o+y.cells.length))/\(B.take o++y.cells++B.drop (o+y.cells.length)).all V.one=true:=by
 have u:∀k:Nat,(B.take k).all V.one=true/\(B.drop k).all V.one=true:=λk=>
  ⟨List.all_eq_true.2 λz C=>List.all_eq_true.1 D z (List.mem_of_mem_take C),List.all_eq_true.2 λz C=>List.all_eq_true.1 D z (List.mem_of_mem_drop C)⟩
 unfold putCells at hp;split at hp
 .split at hp
  .rename_i hc;simp only[ζa]at hp;subst hp;have w:=G.fr.cells;refine⟨by rw[<-w.1];simp_all,by rw[<-h.1];grind,by rw[w.one];grind,?_,?_⟩
   .have e:y.cells.length=size:=by rw[<-w.1];simp_all
    rw[e];exact((h.take o).append (cn.tv w)).append (h.drop _)
   simp only[List.all_append,(u _).1,(u _).2,w.one,hc.2.2,Bool.and_self]
  grind
 .split at hp
  .rename_i hc;simp only[ζa]at hp;subst hp;obtain⟨L,rfl,I⟩:=G.jV;have g:=IU hc.2.2 I
   grind[cn,V.cells]
  grind
 split at hp
 .rename_i hc;simp only[ζa]at hp;subst hp;obtain⟨d,Q⟩:=lN hc.1 G;rw[d];refine⟨by simp[hc.2.1],by rw[<-h.1];grind,by simp_all,?_,?_⟩
  .exact((h.take o).append (.cons G .nil)).append (h.drop _)
  grind
 grind
def yd{size:Nat}{x:SV}{y:V}{xs:S'}(r:cV ν m H Z x y)(B:∀d ob,bk m d=M ob->c8 ν m H Z d ob)(h:jC m size x=M xs):∃ys,dO H size y=M ys/\gM H Z xs ys:=by
 unfold jC at h;split at h;split at h;rename_i k es w u;obtain⟨_,_,_,e,rfl⟩:=r.iK u;cases e;have o:=B _ _ u;simp[c8]at o;split at h;rename_i a;rw[L' a]at o;split at h;rename_i z;simp at h;subst h;have⟨ys,b,C,D,_⟩:=o;rw[qx a];grind[dO,Ob.rows];grind;rename_i a;simp at h;subst h;refine⟨[],?_,Y,f?⟩;cases k<;>simp[b7]at a<;>rfl;grind;simp at h;subst h;rw[r.fr.bN];exact⟨[],Y,Y,f?⟩;simp at h;subst h;rw[r.fr.dH];exact⟨[],Y,Y,f?⟩
 .split at h
  .rename_i es w z;simp at h;subst h;have c:=r.fr.good;rcases r.fr.ot with rfl|⟨id,off,ys,rfl,G,b,C,D⟩;all_goals simp_all[dO,gM.same,V.good,bt]
  grind
 grind
def Ev.re{m1:Tb bE}(D:∀d ob,bk m1 d=M ob->bk st.m d=M ob){d:Nat}(i:d∉st.pin){ob:bE}{p:Nat×Nat}(G:W H<=W H')(g:∀id,id<W H->¬fN ν st.m id->¬Rv id->H'[id]?=H[id]?)
 (T:∀id,Z id->bt H' id=bt H id)(hp:eM ob=U->fN ν st.m p.1\/Rv p.1\/W H<=p.1)(B:ob.flat:=by exact lB f?):Ev Rv ν Z st H (iU ν d p) Z {st with m:=bH m1 d ob} H' where
 len:=G
 same:=λid h C _ hr=>g id h C hr
 rows:=λid h=>⟨h,T id h⟩
 own:=λid h=>by rcases Dw h B with h|⟨a,rfl⟩;have⟨k,o,j,a,w,z⟩:=h;exact .inl ⟨k,o,j,D k o a,w,z⟩;grind
 frz:=λid h=>.inl h
 pin:=λe I u h=>by have:e≠d:=h?;have⟨o,a,w,z⟩:=B5 (ν:=ν) (p:=p) this u h;grind
 pins:=rfl
def Kept(dst:aY Nat)(ν:Nu)(m:Tb bE)(ν':Nu)(m':Tb bE):Prop:=∀e u,dst≠M e->bk m' e=M u->∃ob,bk m e=M ob/\ν' e=ν e/\sameShape ob u/\∀j,u.pt j=U->ob.pt j=U/\ν'.at e j=ν.at e j
def Kept.refl{dst:aY Nat}:Kept dst ν m ν m:=λe u _ h=>⟨u,h,Y,.refl _,λ_ h=>⟨h,Y⟩⟩
def Kept.gD{dst:aY Nat}{d:Nat}{ob l?:bE}(B:bk m d=M ob)(D:sameShape ob l?)(hp:∀j,l?.pt j=U->ob.pt j=U):Kept dst ν m ν (bH m d l?):=λe u _ h=>by by_cases k:e=d;subst k;rw[cu]at h;cases h;exact⟨ob,B,Y,D,λj h=>⟨hp j h,Y⟩⟩;rw[cK m l? (Ne.symm k)]at h;exact⟨u,h,Y,.refl _,λ_ h=>⟨h,Y⟩⟩
def Kept.add{d:Nat}{ob:bE}{p:Nat×Nat}{m1:Tb bE}(B:∀d ob,bk m1 d=M ob->bk m d=M ob):Kept (M d) ν m (iU ν d p) (bH m1 d ob):=λe u w h=>by have:e≠d:=λh=>w (by rw[h]);have⟨o,a,z,D⟩:=B5 (ν:=ν) (p:=p) this u h;rw[cK _ _ (Ne.symm this)]at h;exact⟨u,B e u h,z,.refl _,λj C=>⟨C,Ou ν p this j⟩⟩
def mC{d:Nat}:∀e ob,bk (dz d m) e=M ob->bk m e=M ob:=λ_ _ h=>(mN h).2
def FW.put{k x y:V}{a b r:aX (V×V)}(D:k.scalar=U)(h:FW H Z a b)(g:FR H Z x y)(hp:sZ k x a=M r):∃B,sZ k y b=M B/\FW H Z r B:=by unfold sZ at hp;obtain⟨f,C⟩:=Fj h;split at hp;rename_i j v G;simp at hp;subst hp;obtain⟨L,I,_⟩:=C j v G;refine⟨b.set j (k,y),by grind[sZ],by simp[h.1],λi u w c z=>?_⟩;rw[C?]at c z;split at c;grind;rename_i e;rw[M' e]at z;exact h.2 i u w c z;simp at hp;subst hp;refine⟨b++[(k,y)],by grind[sZ],by simp[h.1],λi u w c z=>?_⟩;by_cases d:i<a.length;rw[u? d]at c;rw[u? (by rw[<-h.1];omega)]at z;exact h.2 i u w c z;rw[H? (by rw[<-h.1];omega),<-h.1]at z;grind;grind
def Oi(r:R ν Z st F H){d:Nat}{cs:Rd}(B:bk st.m d=M (.box cs)):∀{l:Rd}{D:So},cn ν st.m H Z l D->l.all (PL st.m d)=U->D.all (qu (ν d).1)=U:=by intro l;induction l with|nil=>intro D C _;rw[C.cW];rfl|cons a l h=>intro D C G;obtain⟨w,D,rfl,g1,g2⟩:=C.inv;simp only[List.all_cons,ζh]at G⊢;refine⟨?_,h g2 G.2⟩;have u:=G.1;unfold PL at u;split at u;rename_i Q T;simp at u;have⟨I,g⟩:=u;split at g;(next S z=>obtain⟨_,_,rfl⟩:=g1.rI z;simp[qu];exactλe=>I (r.inj Q d _ _ 0 0 z B Y Y e).1);grind;rcases FR.oD g1.fr with rfl|⟨id,el,off,_,_,_,rfl,L,_⟩;rfl;simp[qu];rintro rfl;exact r.apart d _ 0 B Y L;grind
def Lt{d:Nat}{k:Fl}{xs:S'}(o:c8 ν m H Z d (.dp k xs J)):∃rs,dO H 1 (qA (ν d) k 1 (W xs))=M rs/\W rs=W xs/\(b7 k=U->(ν d).2=0/\H[(ν d).1]?=M (.row 1 rs))/\∀i x y,xs[i]?=M x->rs[i]?=M y->xJ ν H Z d i x y:=by
 simp only[c8]at o;split at o;next a=>obtain⟨rfl,o2,-,rs,o3,u,w⟩:=o;exact⟨rs,by simp[qA,dO,o3,Ob.rows,o2,<-u],u,λ_=>⟨o2,o3⟩,w⟩
 rename_i a;obtain⟨rfl,-⟩:=o;exact⟨[],by cases k<;>first|rfl|exact _e Y a,Y,λh=>_e h a,λi x y h=>by simp at h⟩
def PC{d:Nat}{k:Fl}{xs:S'}(o:c8 ν m H Z d (.dp k xs J))(T:∀id,Z id->Z' id)(hp:∀j,(bE.dp k xs J).pt j=U->Z' (ν.at d j)):
 FR H Z' (lJ k 1 xs) (qA (ν d) k 1 (W xs))/\∀j,(bE.dp k xs J).pt j=U->∃es ys,H[ν.at d j]?=M (.row es ys)/\wZ H Z' ys:=by
 obtain⟨rs,-,D,a,G⟩:=Lt o;have u:∀id,Z id->Z' id/\bt H id=bt H id:=λid h=>⟨T id h,Y⟩
 have cells:gM H Z' xs rs:=⟨D.symm,λi x y w L=>by
  rcases G i x y w L with⟨rfl,h⟩|⟨es,I,z,rfl,rfl,b,B⟩
  .exact dB.same (by rcases h with rfl|rfl<;>rfl)
  have C:=B.1;refine .cons (FR.G7 (ys:=z) (hp (i+1) (by simp[bE.pt,w])) (show bt H (ν.inn d i)=M (es,z)by unfold bt;rw[b];rfl) c? ?_) .nil
  rw[Q!,C,M?];exact B.mono u⟩
 refine⟨?_,λj g=>?_⟩
 .by_cases hk:b7 k=U
  .rw[qx hk,show lJ k 1 xs=.fsl 1 xs from by cases k<;>simp[b7]at hk<;>rfl]
   refine FR.G7 (ys:=rs) (hp 0 hk) (show bt H (ν d).1=M (1,rs)by unfold bt;rw[(a hk).2];rfl) (by rw[(a hk).1];omega) ?_
   rw[(a hk).1,Q!,<-D,M?];exact cells
  cases k<;>simp[b7]at hk
  .exact .same _ Y
  exact .same _ Y
 cases j with
 |zero=>exact⟨1,rs,(a g).2,cells.BM⟩|succ i=>
  obtain⟨-,es,I,w⟩:=uE g;have c:=(ζe.1 w).1;rcases G i _ _ w (ζd c?)with⟨_,h|h⟩|⟨es,I,z,_,_,b,B⟩
  .cases h
  .cases h
  exact⟨es,z,b,(B.mono u).BM⟩
def YF(r:R ν Z st F H){dst:aY Nat}{size:Nat}{s x sv:SV}{y1 y2:V}(h1:cV ν st.m H Z s y1)(h3:cV ν st.m H Z x y2)(h:CZ st dst size s x=M (sv,e?)):
 ∃y H' ν',fI H (.append size) [y1,y2]=M (y,H')/\R ν' Z e? F H'/\cV ν' e?.m H' Z sv y/\Ev (λ_=>False) ν Z st H ν' Z e? H'/\Kept dst ν st.m ν' e?.m:=by
 unfold CZ at h;split at h
 .rename_i d e t;split at h
  .rename_i k z ys hd he;split at h
   .rename_i hc;obtain⟨rfl,ab,af,ah⟩:=hc;dsimp only at h;split at h
    .rename_i ad;obtain⟨rfl,rfl⟩:=h;obtain⟨_,_,_,q,rfl⟩:=h1.iK hd;cases q;obtain⟨_,_,_,q,rfl⟩:=h3.iK he;cases q;obtain⟨a1,p1,n,g1,f1⟩:=Lt (r.obj d _ hd);obtain⟨a2,p2,v,g2,f2⟩:=Lt (r.obj e _ he);obtain⟨n1,n2,n3,n4⟩:=lX ad;have u:∀k ob,bk (dz e (dz d st.m)) k=M ob->k≠d/\k≠e/\bk st.m k=M ob:=λk ob h=>by
      obtain⟨a__,A⟩:=mN h;obtain⟨N,w4⟩:=mN A;exact⟨Ne.symm N,Ne.symm a__,w4⟩
     have grow:∃H1,iz H (qA (ν d) k 1 z.length)=M H1/\H1.length=H.length/\∀id,(b7 k=U->id≠(ν d).1)->H1[id]?=H[id]?:=by by_cases a:b7 k=U;rw[qx a];exact⟨H.set (ν d).1 .dead,by simp[iz,(g1 a).2],f?,λid Y=>F? (Ne.symm (Y a))⟩;exact⟨H,by cases k<;>first|rfl|exact _e rfl a,rfl,λ_ _=>rfl⟩
     obtain⟨H1,a__,A,N⟩:=grow;have E:∀id,id<H.length->(b7 k=U->id≠(ν d).1)->(H1++[Ob.row 1 (a1++a2)])[id]?=H[id]?:=λid hl Y=>by rw[u? c?,N id Y]
     have c__:∀id,Z id->bt (H1++[Ob.row 1 (a1++a2)]) id=bt H id:=λid c__=>by unfold bt;rw[E id (r.xK c__) λa e=>r.apart d _ 0 hd a (by rw[show ν.at d 0=id from e.symm];exact c__)]
     have r1:=r.less (m':=dz e (dz d st.m)) (λ_ _ h=>h) λk ob h=>(u k ob h).2.2
     have r2:=r1.heap (H':=H1++[Ob.row 1 (a1++a2)]) (λid W=>by
      refine E id (r1.lt W) λa e=>?_
      obtain⟨k2,o2,j2,L,G,z3⟩:=W;obtain⟨z4,z5,P⟩:=u _ _ L;exact z4 (r.inj k2 d o2 _ j2 0 P hd G a (z3.trans e)).1) c__
     generalize hf:(λi=>if i<z.length then ν.inn d i else ν.inn e (i-z.length))=f
     have d__:∀i,(bE.dp .row (z++ys) J).pt (i+1)=U->∃q Q w,bk st.m q=M Q/\Q.pt (w+1)=U/\f i=ν.at q (w+1)/\(q=d/\w=i/\i<z.length\/q=e/\i=z.length+w):=λi X=>by obtain⟨-,es,zs,I⟩:=uE X;subst hf;by_cases b:i<z.length;rw[u? b]at I;exact⟨d,_,i,hd,by simp[bE.pt,I],by simp[b,Nu.at],.inl ⟨rfl,rfl,b⟩⟩;rw[H? c?]at I;exact⟨e,_,i-z.length,he,by simp[bE.pt,I],by simp[b,Nu.at],.inr ⟨rfl,c?⟩⟩
     have b__:∀i,(bE.dp .row (z++ys) J).pt (i+1)=U->fN ν st.m (f i):=λi X=>by obtain⟨q,Q,w,k1,k2,k3,_⟩:=d__ i X;exact⟨q,Q,w+1,k1,k2,k3.symm⟩
     have B:∀i,(kV ν t (H.length,0) f).at t (i+1)=f i:=λi=>congrFun (pz ν t _ f).2 i
     have S:(kV ν t (H.length,0) f).at t 0=H.length:=_f fst (pz ν t _ f).1;have aa:(H1++[Ob.row 1 (a1++a2)])[H.length]?=M (.row 1 (a1++a2)):=by rw[<-A];simp
     have ap:b7 k=U->(bE.dp k z J).pt 0=U:=λh=>h
     refine⟨.hsl H.length 1 0 (a1.length+a2.length),H1++[Ob.row 1 (a1++a2)],kV ν t (H.length,0) f,?_,r2.V0 (p:=(H.length,0)) (f:=f) n2 n3 (λk o a hs=>?_) (λj l=>?_) (λj j' l ae X=>?_) ?_,?_,⟨by simp[A],λid hl W _ _=>?_,λid h=>⟨h,c__ id h⟩,λid W=>?_,λid h=>.inl h,λk a C h=>?_,rfl⟩,λk C a h=>?_⟩
     .have:a2≠[]:=by rintro rfl;exact af (length_eq_zero_iff.1 v.symm)
      cases a2 with
      |nil=>exact _e rfl this|cons c a2=>simp only[fI,p1,p2,a__];rw[L' (by rw[n,v];exact ah)];rfl
     .rw[uq n4 a]at hs;cases hs
     .cases j with
      |zero=>rw[S];exact⟨λW=>Nat.lt_irrefl _ (r1.lt W),λc__=>Nat.lt_irrefl _ (r.xK c__)⟩|succ i=>
       rw[B];obtain⟨q,Q,w,k1,k2,k3,k4⟩:=d__ i l;rw[k3];refine⟨λ⟨k5,o5,j5,L,G,z3⟩=>?_,r.apart q Q _ k1 k2⟩
       obtain⟨z4,z5,P⟩:=u _ _ L;have:=(r.inj k5 q o5 Q j5 _ P k1 G k2 z3).1;rcases k4 with⟨rfl,_⟩|⟨rfl,_⟩
       .exact z4 this
       exact z5 this
     .cases j with
      |zero=>
       cases j' with
       |zero=>rfl|succ i'=>rw[S,B]at X;have:=r.lt (b__ i' ae);omega
      |succ i=>
       cases j' with
       |zero=>rw[S,B]at X;have:=r.lt (b__ i l);omega|succ i'=>
        rw[B,B]at X;obtain⟨q,Q,w,k1,k2,k3,k4⟩:=d__ i l;obtain⟨q',ai,aq,aj,ak,al,am⟩:=d__ i' ae;obtain⟨e1,e2⟩:=r.inj q q' Q ai _ _ k1 aj k2 ak (by rw[<-k3,<-al,X])
        rcases k4 with⟨rfl,_⟩|⟨rfl,_⟩<;>rcases am with⟨rfl,_⟩|⟨rfl,_⟩<;>first|omega|(exact _e e1 ab)|(exact _e e1.symm ab)
     .simp only[c8,b7,N'];refine⟨trivial,by rw[(pz ν t _ f).1],(λi t h=>by cases h),a1++a2,?_,by simp[n,v],λi x y I K=>?_⟩
      .rw[(pz ν t _ f).1];exact aa
      show xJ _ _ _ _ i x y;have go:∀q w,bk st.m q=M (.dp k z J)/\q=d\/bk st.m q=M (.dp .row ys J)/\q=e->f i=ν.inn q w->(∀m g,bk st.m q=M (.dp m g J)->g[w]?=M x)->xJ ν H Z q w x y->xJ (kV ν t (H.length,0) f) (H1++[Ob.row 1 (a1++a2)]) Z t i x y:=λq w hq an ao hC=>by rcases hC with h|⟨es,zs,ws,rfl,rfl,L,G⟩;exact .inl h;have b:(kV ν t (H.length,0) f).inn t i=ν.inn q w:=(congrFun (pz ν t _ f).2 i).trans an;refine .inr ⟨es,zs,ws,rfl,by rw[b],?_,G.mono λid h=>⟨h,c__ id h⟩⟩;rw[b,E _ (ζe.1 L).1 λa e=>?_];exact L;have T:∃m g,bk st.m q=M (.dp m g J):=(by rcases hq with h|h<;>exact⟨_,_,h.1⟩);obtain⟨m,g,T⟩:=T;have:=(r.inj q d _ _ (w+1) 0 T hd (by simp[bE.pt,ao _ _ T]) a e).2;omega
      by_cases b:i<z.length
      .rw[u? b]at I;rw[u? c?]at K
       exact go d i (.inl ⟨hd,rfl⟩) (by rw[<-hf];simp[b]) (λm g h=>by rw[hd]at h;cases h;exact I) (f1 i x y I K)
      rw[H? c?]at I
      rw[H? c?,n]at K
      exact go e (i-z.length) (.inr ⟨he,rfl⟩) (by rw[<-hf];simp[b]) (λm g h=>by rw[he]at h;cases h;exact I) (f2 _ x y I K)
     .refine .own _ _ λC h'=>?_
      rw[cu]at h';cases h';exact⟨_,_,_,rfl,by simp[qA,(pz ν t _ f).1,n,v]⟩
     .exact E id hl λa e=>W ⟨d,_,0,hd,a,e.symm⟩
     .rcases MI W with⟨k,o,j,L,G,z3⟩|⟨j,L,G⟩
      .exact .inl ⟨k,o,j,(u k o L).2.2,G,z3⟩
      cases j with
      |zero=>rw[S]at G;exact .inr (.inr c?)|succ i=>rw[B]at G;subst G;exact .inl (b__ i L)
     .have D:k≠t:=by rintro rfl;exact n1 a
      rw[cK _ _ (Ne.symm D)]at h;exact⟨C,(u k C h).2.2,M' D,.refl _⟩
     have D:k≠t:=λe=>a (by rw[e])
     rw[cK _ _ (Ne.symm D)]at h;exact⟨C,(u k C h).2.2,M' D,.refl _,λj l=>⟨l,uL ν _ f D j⟩⟩
    cases h
   cases h
  cases h
 cases h
def EN(r:R ν Z st F H){dst:aY Nat}{l:OC}{m?:Rd}{ys:So}{sv:SV}(Y:cn ν st.m H Z m? ys)(h:mZ st dst l m?=M (sv,e?)):
 ∃y H' ν',fI H l ys=M (y,H')/\R ν' Z e? F H'/\cV ν' e?.m H' Z sv y/\Ev (λ_=>False) ν Z st H ν' Z e? H'/\Kept dst ν st.m ν' e?.m:=by
 unfold mZ at h;split at h
 .
  rename_i size d o x;obtain⟨_,_,rfl,a,n⟩:=Y.inv;obtain⟨y,_,rfl,S,p⟩:=n.inv;rw[p.cW];split at h
  .rename_i cs B;have⟨aw,hp,e⟩:=ζf.1 h;obtain⟨rfl,rfl⟩:=e;obtain⟨_,_,rfl⟩:=a.rI B;have⟨es,G,q,f,aa⟩:=r.obj d _ B;have⟨p1,p2,p3,p4,p5⟩:=cn.ab5 f S hp aa;have b__:∀id,id≠(ν d).1->(H.set (ν d).1 (.row es [G.take o++y.cells++G.drop (o+_l y.cells)]))[id]?=H[id]?:=λid I=>by grind
   have C:∀id,Z id->Z id/\bt (H.set (ν d).1 (.row es [G.take o++y.cells++G.drop (o+_l y.cells)])) id=bt H id:=λid C=>⟨C,by
    unfold bt;rw[b__ id (by rintro rfl;exact r.apart d _ 0 B _k C)]⟩
   refine⟨.undef,H.set (ν d).1 (.row es [G.take o++y.cells++G.drop (o+_l y.cells)]),ν,?_,?_,.v _ _ (.same _ _k),Ev.gD r B _k (pH _k) b__ _k f?,Kept.gD B _k (pH _k)⟩
   .grind[fI]
   refine r.gD B _k (pH _k) b__ _k ⟨es,_,?_,p4.mono C (λe _ L A=>?_),p5⟩
   .grind
   by_cases k:e=d
   .subst k;rw[cu]at A;cases A;exact⟨_,B,_k,_k⟩
   rw[cK st.m _ (Ne.symm k)]at A;exact⟨L,A,_k,.refl _⟩
  grind
 .
  rename_i size d i o x;obtain⟨_,_,rfl,a,n⟩:=Y.inv;obtain⟨y,_,rfl,S,p⟩:=n.inv;rw[p.cW];split at h
  .rename_i k es T B;split at h
   .rename_i cs ak;split at h
    .rename_i f;obtain⟨rfl,rfl⟩:=h;obtain⟨_,_,_,e,b,rfl⟩:=a.xV B;cases e;have ob:=r.obj d _ B;simp[c8,b]at ob;have⟨rs,q,hl,P,al,aG⟩:=ob;have⟨c,ax,af⟩:=P.get ak;have hi:=(ζe.1 ak).1;rw[D?,L' hi,L?]at ax;have N:=S.fr.cells;have E:_l y.cells=size:=by rw[<-N.1];exact f.1
     have g:o+size<=_l c:=by rw[<-af.1];exact f.2.1
     have q3:y.cells.all V.one=U:=by rw[N.one];exact f.2.2
     have D:dB H Z (cs.take o++x.cells++cs.drop (o+_l x.cells)) (c.take o++y.cells++c.drop (o+_l y.cells)):=by rw[f.1,E];exact((af.take o).append N).append (af.drop _)
     generalize hN:(c.take o++y.cells++c.drop (o+_l y.cells))=nc at D;have b__:∀id,id≠(ν d).1->(H.set (ν d).1 (.row es (rs.set ((ν d).2+i) nc)))[id]?=H[id]?:=λid I=>by rw[C?];rw[M' (Ne.symm I)]
     have d__:=b;have C:∀id,Z id->Z id/\bt (H.set (ν d).1 (.row es (rs.set ((ν d).2+i) nc))) id=bt H id:=λid C=>⟨C,by
      unfold bt;rw[b__ id (by rintro rfl;exact r.apart d _ 0 B d__ C)]⟩
     have Q:sameShape (.sl k es T) (.sl k es (T.set i (cs.take o++x.cells++cs.drop (o+_l x.cells)))):=by simp[sameShape,bE.xL]
     refine⟨.undef,H.set (ν d).1 (.row es (rs.set ((ν d).2+i) nc)),ν,?_,?_,.v _ _ (.same _ _k),Ev.gD r B Q (pH _k) b__ d__ f?,Kept.gD B Q (pH _k)⟩
     .grind[fI]
     refine r.gD B Q (pH _k) b__ d__ ?_;simp only[c8,b];have ah:=(ζe.1 q).1;refine⟨_,K? ah,h?,?_,?_,λe=>?_⟩
     .have e1:List.take (_l (T.set i (cs.take o++x.cells++cs.drop (o+_l x.cells)))) (List.drop (ν d).2 (rs.set ((ν d).2+i) nc))=((rs.drop (ν d).2).take (_l T)).set i nc:=by
       rw[List.length_set,List.drop_set,M' c?,List.take_set]
       grind
      rw[e1];exact(P.set i D).mono C
     .intro cc am u hu;rcases List.mem_or_eq_of_mem_set am with hm|rfl
      .have⟨z,ay⟩:=al cc hm u hu;exact⟨z,ay.mono C⟩
      have⟨j,hj⟩:=mem_iff_getElem?.1 hu;have an:=(ζe.1 hj).1;rw[<-D.1]at an;exact⟨_,(D.2 j _ u (ζd an) hj).mono C⟩
     grind
    simp at h
   grind
  grind
 .
  rename_i size d i o t;obtain⟨_,_,rfl,a,n⟩:=Y.inv;obtain⟨y,_,rfl,S,p⟩:=n.inv;rw[p.cW];split at h
  .rename_i k T j w B;split at h
   .rename_i f;obtain⟨rfl,rfl,rfl,hl,aK⟩:=f;obtain⟨rfl,rfl⟩:=h;obtain⟨_,_,_,e,b,rfl⟩:=a.xV B;cases e;have⟨c1,c2⟩:=lN (x:=.own t) hl S;have ob:=r.obj d _ B;simp only[c8,b,N']at ob;have⟨o1,o2,o3,rs,q,ao,P⟩:=ob;have hi:=o3 _ _ _k;have ah:=(ζe.1 q).1;have aA:∀X,(bE.dp k T (M (j,w))).pt (X+1)=U->ν.inn d X≠(ν d).1:=λX hp e=>by
     have:=(r.inj d d _ _ (X+1) 0 B B hp b e).2;omega
    have b__:∀id,id≠(ν d).1->(H.set (ν d).1 (.row 1 (rs.set j [y])))[id]?=H[id]?:=λid I=>by rw[C?];rw[M' (Ne.symm I)]
    have C:∀id,Z id->Z id/\bt (H.set (ν d).1 (.row 1 (rs.set j [y]))) id=bt H id:=λid C=>⟨C,by
     unfold bt;rw[b__ id (by rintro rfl;exact r.apart d _ 0 B b C)]⟩
    have ai:∀X,(bE.dp k T (M (j,t))).pt X=U->(bE.dp k T (M (j,w))).pt X=U:=λX h=>h
    have Q:sameShape (.dp k T (M (j,w))) (.dp k T (M (j,t))):=rfl;refine⟨.undef,H.set (ν d).1 (.row 1 (rs.set j [y])),ν,?_,?_,.v _ _ (.same _ _k),Ev.gD r B Q ai b__ b f?,Kept.gD B Q ai⟩
    .have:rs[j]?=M rs[j]:=ζd c?
     have h9:=P j _ _ (ζd hi) this;simp only[qz,N']at h9;have⟨v,e1,_⟩:=h9;simp[fI,q,o2,this,e1,c1,c2]
    refine r.gD B Q ai b__ b ?_;simp only[c8,b,N'];refine⟨o1,o2,λX t' e=>by cases e;exact hi,_,K? ah,by simp[ao],λX x y' hx N=>?_⟩
    by_cases e:j=X
    .subst e;rw[K? c?]at N;cases N
     simp only[qz,N'];exact⟨y,_k,c2,S.mono C λe A L c__=>by
      by_cases k':e=d
      .subst k';rw[cu]at c__;cases c__;exact⟨_,B,_k,_k⟩
      rw[cK st.m _ (Ne.symm k')]at c__;exact⟨L,c__,_k,.refl _⟩⟩
    rw[F? e]at N;have h9:=P X x y' hx N;simp only[qz,M' e]at h9⊢;rcases h9 with h9|⟨es,zs,ws,rfl,rfl,E,g⟩
    .exact .inl h9
    exact .inr ⟨es,zs,ws,_k,_k,(b__ _ (aA X (by simp[bE.pt,hx,e]))).trans E,g.mono C⟩
   cases h
  cases h
 .
  rename_i kk d k x;obtain⟨_,_,rfl,a,n⟩:=Y.inv;obtain⟨k',_,rfl,S,p⟩:=n.inv;obtain⟨y,_,rfl,h5,h6⟩:=p.inv;rw[h6.cW];split at h
  .rename_i aB B;split at h
   .rename_i b;have⟨aH,hp,e⟩:=ζf.1 h;simp at e;obtain⟨rfl,rfl⟩:=e;obtain⟨_,_,rfl⟩:=a.Hl B;have aC:=S.fr.scalar.1 (yJ b);subst aC;have⟨aI,q,aD⟩:=r.obj d _ B;have⟨r',aL,aE⟩:=aD.put (yJ b) h5.fr hp;have b__:∀id,id≠(ν d).1->(H.set (ν d).1 (.map r'))[id]?=H[id]?:=λid I=>by rw[C?];rw[M' (Ne.symm I)]
    have C:∀id,Z id->Z id/\bt (H.set (ν d).1 (.map r')) id=bt H id:=λid C=>⟨C,by
     unfold bt;rw[b__ id (by rintro rfl;exact r.apart d _ 0 B _k C)]⟩
    refine⟨.undef,H.set (ν d).1 (.map r'),ν,?_,?_,.v _ _ (.same _ _k),Ev.gD r B _k (pH _k) b__ _k f?,Kept.gD B _k (pH _k)⟩
    .grind[fI]
    refine r.gD B _k (pH _k) b__ _k ⟨r',?_,aE.mono C⟩;rw[K? (ζe.1 q).1]
   simp at h
  simp at h
 .
  rename_i size s x;obtain⟨y1,_,rfl,a,n⟩:=Y.inv;obtain⟨y2,_,rfl,S,p⟩:=n.inv;rw[p.cW];split at h
  .rename_i T e1 e2;have⟨a1,p1,_⟩:=yd a r.obj e1;have⟨a2,p2,g⟩:=yd S r.obj e2;have:=length_eq_zero_iff.1 (by have:=g.1;simpa using this.symm)
   subst this
   cases dst with
   |none=>simp at h|some t=>
    have lit:∀(k:Fl)(K:V),b7 k=O->qA (ν t) k size 0=K->st.new t=U->(∀y,FR H Z K y->y=K)->FR H Z K y1->
     ∃y H' ν',fI H (.append size) [y1,y2]=M (y,H')/\R ν' Z {st with m:=bH st.m t (.sl k size [])} F H'/\cV ν' (bH st.m t (.sl k size [])) H' Z (.own t) y/\Ev (λ_=>False) ν Z st H ν' Z {st with m:=bH st.m t (.sl k size [])} H'/\Kept (M t) ν st.m ν' (bH st.m t (.sl k size [])):=λk K b aM hn hx P=>by
     have ap:eM (.sl k size [])=U->False:=by grind[eM]
     refine⟨y1,H,iU ν t (ν t),by grind[fI],r.add hn (λh=>(ap h).elim) (by grind[c8]),.own _ _ λL c__=>?_,Ev.add hn (y? _) (λ_ _ _=>rfl) (λ_ _=>rfl) (λh=>(ap h).elim),Kept.add λ_ _ h=>h⟩
     rw[cu]at c__;cases c__;exact⟨_,_,_,_k,by rw[jx,hx _ P];grind⟩
    cases s with
    |own d=>
     dsimp only at h;split at h
     .rename_i ob B;split at h
      .rename_i D;simp at h;obtain⟨rfl,rfl⟩:=h;simp[jC,B]at e1
       cases ob with
       |sl k es ab=>
        obtain⟨_,_,_,e,rfl⟩:=a.iK B;cases e;have r1:R ν Z {st with m:=dz d st.m} F H:=r.less (λ_ _ h=>h) mC
        have⟨n1,_,_,_⟩:=lX D;have aq:c8 (iU ν t (ν d)) (bH (dz d st.m) t (.sl k es ab)) H Z t (.sl k es ab):=by have o:=r.obj d _ B;grind[c8,jx]
        refine⟨qA (ν d) k es (_l ab),H,iU ν t (ν d),by grind[fI],r1.add D (λhb=>⟨λa__=>?_,r.apart d _ 0 B hb⟩) aq,.own _ _ λL c__=>?_,?_,Kept.add mC⟩
        .have⟨k2,o2,j2,g1,g2,g3⟩:=a__;have⟨g4,g5⟩:=mN g1;exact g4 (r.inj d k2 _ o2 0 j2 B g5 hb g2 g3.symm).1
        .rw[cu]at c__;cases c__;exact⟨_,_,_,_k,by rw[jx]⟩
        by_cases hb:eM (.sl k es ab)=U
        .exact Ev.re (m1:=dz d st.m) mC n1 (y? _) (λ_ _ _ _=>rfl) (λ_ _=>rfl) (λ_=>.inl ⟨d,_,0,B,hb,_k⟩)
        exact(Ev.less mC).trans (Ev.add D (y? _) (λ_ _ _=>rfl) (λ_ _=>rfl) λh=>_e h hb)
       |box cs=>cases e1|mp aB=>cases e1|dp _ _ _=>cases e1
      simp at h
     simp at h
    |v K=>
     cases K with
     |bN=>
      dsimp only at h;split at h
      next hn=>simp at h;obtain⟨rfl,rfl⟩:=h;exact lit .nil _ _k _k hn (λy h=>h.bN) a.fr
      simp at h
     |dH=>
      dsimp only at h;split at h
      next hn=>simp at h;obtain⟨rfl,rfl⟩:=h;exact lit .emp _ _k _k hn (λy h=>h.dH) a.fr
      simp at h
     |_=>simp at h
    |_=>simp at h
  .rename_i T zs I e1 e2;split at h
   .rename_i f;have⟨a1,p1,E⟩:=yd a r.obj e1;have⟨a2,p2,g⟩:=yd S r.obj e2
    cases dst with
    |none=>simp at h|some t=>
     dsimp only at h;generalize ar:giveUp st.m s=m1 at h;split at h
     .rename_i D;simp at h;obtain⟨rfl,rfl⟩:=h;have⟨n1,_,_,_⟩:=lX D;have grow:∃H1,iz H y1=M H1/\_l H1=_l H/\(∀id,¬fN ν st.m id->H1[id]?=H[id]?)/\
       (∀id,fN ν m1 id->H1[id]?=H[id]?)/\(∀id,Z id->bt H1 id=bt H id):=by
       subst ar
       cases s with
       |own d=>
        simp[jC]at e1;split at e1
        .rename_i k es ab B;obtain⟨_,_,_,e,rfl⟩:=a.iK B;cases e
         by_cases b:b7 k=U
         .have o:=r.obj d _ B;simp[c8,b]at o;have⟨ys,q,_⟩:=o;have d__:=b;have b__:∀id,id≠(ν d).1->(H.set (ν d).1 .dead)[id]?=H[id]?:=λid I=>by rw[C?];rw[M' (Ne.symm I)]
          refine⟨H.set (ν d).1 .dead,by rw[qx b];grind[iz],f?,λid a__=>b__ id λe=>a__ ⟨d,_,0,B,d__,e.symm⟩,λid a__=>b__ id λe=>?_,λid C=>?_⟩
          .have⟨k2,o2,j2,g1,g2,g3⟩:=a__;have⟨g4,g5⟩:=mN g1;exact g4 (r.inj d k2 _ o2 0 j2 B g5 d__ g2 (by rw[g3,e];rfl)).1
          unfold bt;rw[b__ id (by rintro rfl;exact r.apart d _ 0 B d__ C)]
         refine⟨H,?_,_k,λ_ _=>rfl,λ_ _=>rfl,λ_ _=>rfl⟩
         cases k<;>simp[b7]at b<;>rfl
        simp at e1
       |v K=>
        refine⟨H,?_,_k,λ_ _=>rfl,λ_ _=>rfl,λ_ _=>rfl⟩
        cases K<;>simp[MO]at f
        .rw[a.fr.dH];rfl
        rw[a.fr.bN];rfl
       |_=>simp[MO]at f
      have⟨H1,g1,g2,g3,g4,g5⟩:=grow;have W:∀e ob,bk m1 e=M ob->bk st.m e=M ob:=by subst ar;cases s<;>first|exactλ_ _ h=>h|exact mC
      have au:∀id,fN ν m1 id->id<_l H:=λid⟨k,o,j,w1,w2,w3⟩=>r.lt ⟨k,o,j,W k o w1,w2,w3⟩
      have ad:∀id,id<_l H->(H1++[Ob.row size (a1++a2)])[id]?=H1[id]?:=λid hl=>u? (by rw[g2];exact hl)
      have aj:∀id,Z id->bt (H1++[Ob.row size (a1++a2)]) id=bt H id:=λid C=>by have:=g5 id C;unfold bt at this⊢;rw[ad id (r.xK C)];exact this
      have r1:=r.less (λ_ _ h=>h) W
      have r2:=r1.heap (λid a__=>by rw[ad id (au id a__)];grind) aj
      have ff:=(E.append g).mono λid C=>⟨C,aj id C⟩
      have ae:(H1++[Ob.row size (a1++a2)])[_l H]?=M (.row size (a1++a2)):=by rw[<-g2];simp
      refine⟨.hsl (_l H) size 0 (_l T+_l zs),H1++[Ob.row size (a1++a2)],iU ν t (_l H,0),?_,?_,?_,?_,Kept.add W⟩
      .have aJ:a2≠[]:=by
        rintro rfl;have aF:=length_eq_zero_iff.1 (by have:=g.1;simpa using this)
        exact I aF
       have ao:_l a1+_l a2<=2147483648:=by rw[<-E.1,<-g.1];exact f.1
       have aN:=E.1;have aO:=g.1;simp_all[fI]
      .refine r2.add D (λ_=>⟨λa__=>?_,λC=>?_⟩) ?_
       .grind
       .exact _e (r.xK C) f?
       simp only[c8,jx];refine⟨_,ae,by simp[E.1,g.1],?_,ff.BM,λ_=>⟨trivial,by simp[E.1,g.1]⟩⟩
       have:_l (T++zs)=_l (a1++a2):=by simp[E.1,g.1]
       rw[this,Q!,M?];exact ff
      .refine .own _ _ λL c__=>?_
       simp only at c__;rw[cu]at c__;cases c__;exact⟨_,_,_,_k,by simp[qA,jx]⟩
      refine Ev.re W n1 (by simp[g2]) (λid hl a__ _=>?_) aj (λ_=>.inr (.inr (y? _)))
      rw[ad id hl];grind
     simp at h
   simp at h
  have⟨y,H',ν',e1,e2,e3,e4,e5⟩:=YF r a S h;exact⟨y,H',ν',e1,e2,e3,e4,e5⟩
 .
  rename_i size d o x l;obtain⟨_,_,rfl,a,n⟩:=Y.inv;obtain⟨y,aP,rfl,S,p⟩:=n.inv;split at h
  .rename_i av;split at h
   .rename_i cs B;have⟨aw,hp,e⟩:=ζf.1 h;simp at e;obtain⟨rfl,rfl⟩:=e;obtain⟨_,_,rfl⟩:=a.rI B;have⟨es,G,q,f,aa⟩:=r.obj d _ B;have⟨p1,p2,p3,p4,p5⟩:=cn.ab5 f S hp aa;have b__:∀id,id≠(ν d).1->(H.set (ν d).1 (.row es [G.take o++y.cells++G.drop (o+_l y.cells)]))[id]?=H[id]?:=λid I=>by rw[C?];rw[M' (Ne.symm I)]
    have C:∀id,Z id->Z id/\bt (H.set (ν d).1 (.row es [G.take o++y.cells++G.drop (o+_l y.cells)])) id=bt H id:=λid C=>⟨C,by
     unfold bt;rw[b__ id (by rintro rfl;exact r.apart d _ 0 B _k C)]⟩
    refine⟨.undef,H.set (ν d).1 (.row es [G.take o++y.cells++G.drop (o+_l y.cells)]),ν,?_,?_,.v _ _ (.same _ _k),Ev.gD r B _k (pH _k) b__ _k f?,Kept.gD B _k (pH _k)⟩
    .simp only[fI,Oi r B p av,N',q,List.getElem?_cons_zero,L' (And.intro p1 (And.intro p2 p3)),List.set_cons_zero]
    refine r.gD B _k (pH _k) b__ _k ⟨es,_,?_,p4.mono C (λe _ L A=>?_),p5⟩
    .have:=(ζe.1 q).1;rw[K? this]
    by_cases k:e=d
    .subst k;rw[cu]at A;cases A;exact⟨_,B,_k,_k⟩
    rw[cK st.m _ (Ne.symm k)]at A;exact⟨L,A,_k,.refl _⟩
   simp at h
  simp at h
 grind
end
def Dn(d:Nat)(st:St):aY St:=
 match bk st.m d with
 |some (.sl k es u)=>M {st with g:=Cs (SV.sub d (lJ k es u)) st.g,m:=mapM (SV.wH d (lJ k es u)) (dz d st.m)}|some (.dp k u J)=>M {st with g:=Cs (SV.sub d (lJ k 1 u)) st.g,m:=mapM (SV.wH d (lJ k 1 u)) (dz d st.m)}|_=>J
def PD(st:St):Loc->aY SV
 |.s n=>bk st.g n|.c b i=>match bk st.m b with
  |some (.box cs)=>cs[i]?|_=>J
def abD:So->X'
 |[.bN]|[.dH]=>U|_=>O
def XV(es:Nat):So->aY bE
 |[.bN]=>M (.sl .nil es [])|[.dH]=>M (.sl .emp es [])|[.fsl B D]=>if B=es then M (.sl .row es D)else J|_=>J
def Wy(st:St)(l:Loc):aY Nat:=match PD st l with
 |some (.v (.int _ i))=>if 0<=i then M i.toNat else J|_=>J
def Km(d:Nat)(st:St):aY St:=
 match bk st.m d with
 |some (.sl k es u)=>if es=1/\k≠.part/\u.all abD=U then M {st with m:=bH st.m d (.dp k u J)}else J|some (.dp _ _ J)=>M st|_=>J
def D1(d:Nat)(i:Loc)(es t:Nat)(st:St):aY St:=
 match bk st.m d,Wy st i with
 |some (.dp k u J),M i=>if b7 k=U/\st.new t=U then(u[i]?).bind λx=>(XV es x).map λob=>{st with m:=bH (bH st.m d (.dp k u (M (i,t)))) t ob}else J|none,_=>M st|_,_=>J
def HD(d:Nat)(st:St):aY St:=
 match bk st.m d with
 |some (.dp k w (M (i,t)))=>match bk st.m t with
  |some (.sl u es z)=>if u≠.part/\t≠d/\b7 k=U then M {st with m:=bH (dz t st.m) d (.dp k (w.set i [lJ u es z]) J)}else J|_=>J
 |none=>M st|_=>J
def ghost(x:Gh)(st:St):aY St:=
 match x with
 |.closeS l=>match PD st l with
  |some (.own d)=>Dn d st|some _=>M st|none=>J
 |.close d=>Dn d st|.closeB d=>match bk st.m d with
  |some (.box cs)=>match c6 cs with
   |some u=>M {st with g:=Cs (SV.EW d u) st.g,m:=mapM (SV.ua d u) (dz d st.m)}|none=>J
  |_=>J
 |.canon (.s n) d es=>match bk st.g n with
  |some (.v .bN)=>if st.new d then M {st with g:=bH st.g n (.own d),m:=bH st.m d (.sl .nil es [])}else J|some (.v .dH)=>if st.new d then M {st with g:=bH st.g n (.own d),m:=bH st.m d (.sl .emp es [])}else J|some (.own e)=>if e=d then M st else if st.new d then M {st with g:=C4 e d st.g,m:=ym e d st.m}else J|some (.ptr e _)=>if e=d then M st else if st.new d then M {st with g:=C4 e d st.g,m:=ym e d st.m}else J|_=>J
 |.canon (.c b i) d es=>match bk st.m b with
  |some (.box cs)=>match cs[i]?with
   |some (.v .bN)=>if st.new d then M {st with m:=bH (bH st.m d (.sl .nil es [])) b (.box (cs.set i (.own d)))}else J|some (.v .dH)=>if st.new d then M {st with m:=bH (bH st.m d (.sl .emp es [])) b (.box (cs.set i (.own d)))}else J|some (.own e)=>if e=d then M st else if st.new d then M {st with g:=C4 e d st.g,m:=ym e d st.m}else J|_=>J
  |_=>J
 |.keep gs w=>match lR st.g gs,lR st.m w with
  |some g,M m=>M {st with g:=g,m:=m}|_,_=>J
 |.drop ds=>M {st with g:=ql ds st.g}|.melt d=>Km d st|.take d i es t=>D1 d i es t st|.put d=>HD d st
section
variable{Rv:Nat->Prop}{ν ν':Nu}{Z Z':Nat->Prop}{st e?:St}{m m':Tb bE}{F F':WP}{H H':bl}{N:Nat->Y'}
def Ts(r:R ν Z st F H){dst:aY Nat}{size d:Nat}{c f:X'}{A:Rd}{ys:So}{sv:SV}(D:cn ν st.m H Z (.own d::A) ys)(h:Di st dst size c f d A=M (sv,e?)):
 ∃y ν',bT N (.slice size c f) ys=M y/\R ν' Z e? F H/\cV ν' e?.m H Z sv y/\Ev Rv ν Z st H ν' Z e? H:=by
 unfold Di at h;obtain⟨i,j,rfl,g,S⟩:=D.inv;split at h
 .rename_i k es L ws t u T;split at h
  .rename_i hk;have⟨⟨l,n⟩,P,h⟩:=ζg.1 h;have⟨⟨a,b⟩,C,h⟩:=ζg.1 h;dsimp only at h;split at h
   .rename_i w;obtain⟨rfl,rfl⟩:=h;obtain⟨_,_,_,e,rfl⟩:=g.iK u;cases e;have W:b<=_l L/\a<=b:=by
     grind[ec]
    have o:=r.obj d _ u;simp[c8,hk.1]at o;have⟨rs,p,q,X,a__,_⟩:=o;have z:=hk.1;have r1:R ν Z {st with m:=dz d st.m} F H:=r.less (λ_ _ h=>h) mC
    have G:¬fN ν (dz d st.m) (ν d).1:=by rintro⟨k2,o2,Y,g1,g2,g3⟩;have⟨g4,g5⟩:=mN g1;exact g4 (r.inj d k2 _ o2 0 Y u g5 z g2 g3.symm).1
    have B:_l ((L.take b).drop a)=b-a:=p?
    refine⟨.hsl (ν d).1 es ((ν d).2+a) (b-a),iU ν t ((ν d).1,(ν d).2+a),?_,?_,?_,?_⟩
    .have I:=cn.c6 S T;rw[qx hk.1];simp[bT,I.oS P,jF,L' hk.2,C]
    .refine r1.add w (λ_=>⟨G,r.apart d _ 0 u z⟩) ?_
     simp[c8,b7,jx];have:=(X.take b).drop a
     grind[List.drop_take,D!]
    .refine .own _ _ λs Q=>?_
     rw[cu]at Q;cases Q;exact⟨_,_,_,_k,by rw[B];simp[qA,jx]⟩
    exact Ev.re (st:=st) mC (lX w).1 (y? _) (λ_ _ _ _=>rfl) (λ_ _=>rfl) (λ_=>.inl ⟨d,_,0,u,z,_k⟩)
   grind
  grind
 grind
def Jp{f:SV->SV}:∀{g:Tb SV}{s:Nat},bk (Cs f g) s=(bk g s).map f
 |[],s=>rfl|(k,x)::r,s=>by simp[Cs,bk];split;rfl;exact Jp
def CF(f:Rd->Rd):bE->bE
 |.box cs=>.box (f cs)|o=>o
def IV{f:Rd->Rd}:∀{m:Tb bE}{d:Nat},bk (mapM f m) d=(bk m d).map (CF f)
 |[],d=>rfl|(k,x)::r,d=>by cases x<;>simp[mapM,bk]<;>split<;>first|rfl|exact IV
theorem wL{d:Nat}{w:V}:∀{l:Rd}{j:Nat},(SV.wH d w l)[j]?=(l[j]?).map (SV.sub d w)
 |[],j=>by simp[SV.wH]|x::r,0=>by simp[SV.wH]|x::r,j+1=>by simp[SV.wH,wL]
def u6{d:Nat}{w:So}:∀{l:Rd}{j:Nat},(SV.ua d w l)[j]?=(l[j]?).map (SV.EW d w)
 |[],j=>by simp[SV.ua]|x::r,0=>by simp[SV.ua]|x::r,j+1=>by simp[SV.ua,u6]
def pY{d:Nat}{w:V}:∀{l:Rd},W (SV.wH d w l)=W l
 |[]=>rfl|x::r=>by simp[SV.wH,pY]
def qH{d:Nat}{w:So}:∀{l:Rd},W (SV.ua d w l)=W l
 |[]=>rfl|x::r=>by simp[SV.ua,qH]
def cV.sub{sv:SV}{y w:V}{d:Nat}{k:Fl}{es n:Nat}{ob:bE}(q:bk m d=M ob)(G:ob.xL=.sl k es n)(T:FR H Z' w (qA (ν d) k es n))(t:∀id,Z id->Z' id)
 (P:∀e l?,bk m' e=M l?->e≠d/\∃ob,bk m e=M ob/\sameShape ob l?)(r:cV ν m H Z sv y):cV ν m' H Z' (sv.sub d w) y:=by
 have z:∀id,Z id->Z' id/\bt H id=bt H id:=λid h=>⟨t id h,Y⟩
 have D:∀e l?,bk m' e=M l?->∃ob,bk m e=M ob/\ν e=ν e/\sameShape ob l?:=λe l? h=>h?
 induction r with
 |v x y h=>exact .v x y (h.mono z)|own e y h=>
  simp[SV.sub];split
  next L=>subst L;obtain⟨_,_,_,e1,rfl⟩:=h _ q;rw[G]at e1;cases e1;exact .v _ _ T
  exact(cV.own e y h).mono z λe _=>D e
 |ptr e o y h=>exact(cV.ptr e o y h).mono z λe _=>D e|el e i o y h=>exact(cV.el e i o y h).mono z λe _=>D e|mp e y h=>exact(cV.mp e y h).mono z λe _=>D e|clo f a b B A I X hva Q C S=>
  refine .clo f _ _ B A (by rw[pY];omega) (by rw[pY];omega) (λj u v c g=>?_) (λj u v c g=>?_)
  all_goals grind[wL]
 |tup a B I hva C=>
  refine .tup _ B (by rw[pY];omega) (λj u v c g=>?_)
  rw[wL,ζf]at c;grind
 |agg a B I hva C=>
  refine .agg _ B (by rw[pY];omega) (λj u v c g=>?_)
  rw[wL,ζf]at c;grind
 |yl id=>exact .yl id
theorem aai {f:FuncId} {a b:aX SV} {y:V} (r:cV ν m H Z (.clo f a b) y):cV ν m H Z (U_ f a b) y:=by
 unfold U_;split
 .rename_i x z D G;cases r with|clo _ _ _ w B I d hva u=>
  have h1:=cn.c6 (ν:=ν) (m:=m) (H:=H) (Z:=Z) (ys:=w) ⟨I,hva⟩ D;have C:=cn.c6 (ν:=ν) (m:=m) (H:=H) (Z:=Z) (ys:=B) ⟨d,u⟩ G;exact .v _ _ (.clo f x z w B h1.1 C.1 h1.2 C.2)
 exact r
def cV.EW{sv:SV}{y:V}{d:Nat}{cs:Rd}{xs:So}(G:bk m d=M (.box cs))(q:∀o,o<=W xs->FR H Z' (.fptr (xs.drop o)) (.hptr (ν d).1 0 o))(T:∀id,Z id->Z' id)
 (P:∀e l?,bk m' e=M l?->e≠d/\∃ob,bk m e=M ob/\sameShape ob l?)(r:cV ν m H Z sv y):cV ν m' H Z' (sv.EW d xs) y:=by
 have w:∀id,Z id->Z' id/\bt H id=bt H id:=λid h=>⟨T id h,Y⟩
 have z:∀e l?,bk m' e=M l?->∃ob,bk m e=M ob/\ν e=ν e/\sameShape ob l?:=λe l? h=>h?
 induction r with
 |v x y h=>exact .v x y (h.mono w)|own e y h=>exact(cV.own e y h).mono w λe _=>z e|ptr e o y h=>
  simp only[SV.EW];split
  .rename_i I;subst I;obtain⟨_,e1,rfl⟩:=h _ G;split
   next L=>exact .v _ _ (q o L)
   exact(cV.ptr e o _ h).mono w λe _=>z e
  exact(cV.ptr e o y h).mono w λe _=>z e
 |el e i o y h=>exact(cV.el e i o y h).mono w λe _=>z e|mp e y h=>exact(cV.mp e y h).mono w λe _=>z e|clo f a b B A C Q hva S D t=>
  refine aai (.clo f _ _ B A (by rw[qH];exact C) (by rw[qH];exact Q) (λj u v c g=>?_) (λj u v c g=>?_))
  .rw[u6,ζf]at c;grind
  rw[u6,ζf]at c;grind
 |tup a B C hva D=>
  refine .tup _ B (by rw[qH];exact C) (λj u v c g=>?_)
  rw[u6,ζf]at c;grind
 |agg a B C hva D=>
  refine .agg _ B (by rw[qH];exact C) (λj u v c g=>?_)
  rw[u6,ζf]at c;grind
 |yl id=>exact .yl id
def c8.CF{d:Nat}{ob:bE}{f:Rd->Rd}(g:∀id,Z id->Z' id)(q:∀l,W (f l)=W l)
 (T:∀cs B,cn ν m H Z cs B->cn ν m' H Z' (f cs) B)(i:∀e l?,bk m' e=M l?->∃ob,bk m e=M ob/\sameShape ob l?)(o:c8 ν m H Z d ob):c8 ν m' H Z' d (CF f ob):=by
 have u:∀id,Z id->Z' id/\bt H id=bt H id:=λid h=>⟨g id h,Y⟩
 cases ob with
 |sl k es G=>
  simp[Go.VE.CF,c8]at o⊢;split
  next b=>rw[L' b]at o;have⟨I,a,z,D,L,j⟩:=o;exact⟨I,a,z,D.mono u,L.mono u,j⟩
  grind
 |box cs=>have⟨es,B,a,z,D⟩:=o;exact⟨es,B,a,T cs B z,D⟩|mp Q=>have⟨C,a,z⟩:=o;exact⟨C,a,z.mono u⟩|dp k G w=>exact c8.mono (ob:=.dp k G w) u Y (λ_ _=>rfl) (λe _ l? h=>let⟨ob,a,z⟩:=i e l? h;⟨ob,a,Y,z⟩) o
def Hs{f:Rd->Rd}{ob:bE}:(CF f ob).pt=ob.pt:=by cases ob<;>rfl
theorem Rq{f:Rd->Rd}{ob:bE}:sameShape ob (CF f ob):=by cases ob<;>rfl
def R.shut(r:R ν Z st F H){d:Nat}{ob:bE}(n:bk st.m d=_j ob){fs:SV->SV}{D:Rd->Rd}(q:∀l,_l (D l)=_l l)(M:∀l(j:Nat),(D l)[j]?=(l[j]?).map fs)
 (B:∀id,Z' id↔Z id\/∃j,ob.pt j=U/\id=ν.at d j)(G:∀j,ob.pt j=U->∃es ys,H[ν.at d j]?=_j (.row es ys)/\wZ H Z' ys)
 (N:∀m',(∀e l?,bk m' e=_j l?->e≠d/\∃ob,bk st.m e=_j ob/\sameShape ob l?)->∀sv y,cV ν st.m H Z sv y->cV ν m' H Z' (fs sv) y):
 R ν Z' {st with g:=Cs fs st.g,m:=mapM D (dz d st.m)} F H/\Ev Rv ν Z st H ν Z' {st with g:=Cs fs st.g,m:=mapM D (dz d st.m)} H:=by
 have key:∀e l?,bk (mapM D (dz d st.m)) e=_j l?->e≠d/\∃ob,bk st.m e=_j ob/\l?=CF D ob:=λe l? h=>by rw[IV,ζf]at h;obtain⟨o,a,rfl⟩:=h;grind[mN]
 have w:∀e l?,bk (mapM D (dz d st.m)) e=_j l?->e≠d/\∃ob,bk st.m e=_j ob/\sameShape ob l?:=λe l? h=>by obtain⟨a,o,z,rfl⟩:=key e l? h;grind[Rq]
 have t:=N _ w;have b__:∀cs C,cn ν st.m H Z cs C->cn ν (mapM D (dz d st.m)) H Z' (D cs) C:=λcs C h=>by refine⟨by rw[q];exact h.1,λj u v i P=>?_⟩;rw[M,ζf]at i;obtain⟨A,W,rfl⟩:=i;exact t A v (h.2 j A v W P)
 have I:=λid h=>(B id).2 (.inl h)
 refine⟨⟨λs sv S=>?_,λe l? X=>?_,λb E o1 o2 T V a z L K hp=>?_,λb o1 T a L=>?_,λid h=>?_,⟨λid es ys c__ f c hc u i=>?_⟩⟩,⟨y? _,λ_ _ _ _ _=>rfl,λid h=>⟨I id h,_k⟩,?_,?_,?_,_k⟩⟩
 .rw[Jp,ζf]at S;obtain⟨Q,Y,rfl⟩:=S;exact t Q _ (r.slot s Q Y)
 .obtain⟨a,o,z,rfl⟩:=key e l? X;exact c8.CF I q b__ (λe l? h=>(w e l? h).2) (r.obj e o z)
 .obtain⟨_,p1,k1,rfl⟩:=key b o1 a;obtain⟨_,p2,k2,rfl⟩:=key E o2 z;rw[Hs]at L K;exact r.inj b E p1 p2 T V k1 k2 L K hp
 .obtain⟨aa,p1,k1,rfl⟩:=key b o1 a;rw[Hs]at L;intro c__;rcases(B _).1 c__ with c__|⟨j,a__,X⟩
  .exact r.apart b p1 T k1 L c__
  exact aa (r.inj b d p1 ob T j k1 n L a__ X).1
 .rcases (B id).1 h with h|⟨j,a__,rfl⟩
  .exact r.zrow id h
  have⟨es,ys,f,_⟩:=G j a__;unfold bt;rw[f];rfl
 .rcases (B id).1 c__ with h|⟨j,a__,rfl⟩
  .have⟨x,hx⟩:=r.deep.row id es ys h f c hc u i;exact⟨x,hx.mono λk hk=>⟨I k hk,_k⟩⟩
  have⟨ad,ae,ab,S⟩:=G j a__;unfold bt at f;rw[ab]at f;obtain⟨_,rfl⟩:=f;exact S c hc u i
 .rintro id ⟨e,o,j,a,z,h3⟩;obtain⟨_,p,k1,rfl⟩:=key e o a;rw[Hs]at z;exact .inl ⟨e,p,j,k1,z,h3⟩
 .intro id h;rcases(B id).1 h with h|⟨j,a__,rfl⟩
  .grind
  exact .inr (.inl ⟨d,ob,j,n,a__,_k⟩)
 grind
def LX(r:R ν Z st F H){d:Nat}(h:Dn d st=M e?):∃Z',R ν Z' e? F H/\Ev Rv ν Z st H ν Z' e? H:=by
 unfold Dn at h;split at h;rename_i k es z u;simp only[ζa]at h;subst h;have o:=r.obj d _ u;refine⟨λid=>Z id\/∃j,(bE.sl k es z).pt j=U/\id=ν.at d j,R.shut r u (λ_=>pY) (λ_ _=>wL) (λ_=>Iff.rfl) (λj B=>?_) (λm' w G y a=>?_)⟩;have:=lB (ob:=.sl k es z) f? j B;subst this;have b:b7 k=U:=B;simp only[c8,b,N']at o;have⟨C,a,_,_,D,_⟩:=o;exact⟨es,C,a,D.mono λid h=>⟨.inl h,Y⟩⟩;refine cV.sub u Y ?_ (λid h=>.inl h) w a;by_cases b:b7 k=U;simp[c8,b]at o;have⟨C,a,I,g,D,_⟩:=o;rw[qx b];have e:lJ k es z=.fsl es z:=by cases k<;>simp[b7]at b<;>rfl
 rw[e];refine FR.G7 (.inr ⟨0,b,Y⟩) (by unfold bt;rw[a];rfl) I (g.mono λid h=>⟨.inl h,Y⟩);cases k<;>simp[b7]at b;exact .same _ Y;exact .same _ Y;rename_i k z u;simp only[ζa]at h;subst h;have⟨c,L⟩:=PC (Z':=λid=>Z id\/∃j,(bE.dp k z J).pt j=U/\id=ν.at d j) (r.obj d _ u) (λid h=>.inl h) (λj h=>.inr ⟨j,h,Y⟩);exact⟨_,R.shut r u (λ_=>pY) (λ_ _=>wL) (λ_=>Iff.rfl) L (λm' w G y a=>cV.sub u Y c (λid h=>.inl h) w a)⟩;cases h
def TS(r:R ν Z st F H){d:Nat}(h:ghost (.closeB d) st=M e?):∃Z',R ν Z' e? F H/\Ev Rv ν Z st H ν Z' e? H:=by
 simp[ghost]at h;split at h;rename_i cs w;split at h;rename_i I g;simp at h;subst h;have⟨es,z,a,b,_⟩:=r.obj d _ w;have C:=b.c6 g;have L:wZ H Z [z]:=by intro c B u e;simp[List.mem_singleton]at B;subst B;have⟨j,q⟩:=mem_iff_getElem?.1 e;have Q:j<W I:=(by rw[C.1];grind);exact⟨_,C.2 j _ u (ζd Q) q⟩
 refine⟨λid=>Z id\/∃j,(bE.box cs).pt j=U/\id=ν.at d j,R.shut r w (λ_=>qH) (λ_ _=>u6) (λ_=>Iff.rfl) (λj S=>by have:=lB (ob:=.box cs) f? j S;subst this;exact⟨es,_,a,L.mono λid h=>⟨.inl h,Y⟩⟩) (λm' D T y G=>?_)⟩;refine cV.EW w (λo i=>?_) (λid h=>.inl h) D G;exact FR.F_ (.inr ⟨0,Y,Y⟩) (show bt H (ν d).1=M (es,[z])by unfold bt;rw[a];rfl) Y (by rw[<-C.1];omega) ((C.drop o).mono λid h=>⟨.inl h,Y⟩);grind;grind
def wA{d e:Nat}:∀{l:Rd}{j:Nat},(SV.yg d e l)[j]?=(l[j]?).map (SV.uN d e)
 |[],j=>by simp[SV.yg]|x::r,0=>by simp[SV.yg]|x::r,j+1=>by simp[SV.yg,wA]
def rL{d e:Nat}:∀{l:Rd},W (SV.yg d e l)=W l
 |[]=>rfl|x::r=>by simp[SV.yg,rL]
def IE{d e:Nat}:∀{g:Tb SV}{s:Nat},bk (C4 d e g) s=(bk g s).map (SV.uN d e)
 |[],s=>rfl|(k,x)::r,s=>by simp[C4,bk];split;rfl;exact IE
def CH{d e:Nat}(B:d≠e):∀{m:Tb bE}{k:Nat},bk m e=J->bk (ym d e m) k=(if k=d then J else(bk m (if k=e then d else k)).map (bE.uN d e))
 |[],k,_=>by simp[ym,bk]|(n,x)::r,k,h=>by simp[bk]at h;split at h;simp_all;have D:=CH B (k:=k) h;grind[ym,bk]
def oL(ν:Nu)(d e:Nat):Nu:=⟨λk=>if k=e then ν d else ν k,λk=>if k=e then ν.inn d else ν.inn k⟩
def Uw(ν:Nu)(d e k j:Nat):(oL ν d e).at k j=ν.at (if k=e then d else k) j:=by cases j<;>simp only[Nu.at,oL]<;>split<;>rfl
def HQ{d e:Nat}{ob:bE}:(ob.uN d e).xL=ob.xL:=by
 cases ob with
 |dp k u w=>rcases w with _|⟨i,t⟩<;>rfl
 |_=>rfl
def Mg{d e:Nat}{ob:bE}:(ob.uN d e).pt=ob.pt:=by
 cases ob with
 |dp k u w=>rcases w with _|⟨i,t⟩<;>rfl
 |_=>rfl
def cV.uN{sv:SV}{y:V}{d e:Nat}(T:bk m e=J)(D:sv.cM e=O)(q:d≠e)(r:cV ν m H Z sv y):cV (oL ν d e) (ym d e m) H Z (sv.uN d e) y:=by
 have key:∀k,k≠e->∀w,bk (ym d e m) (if k=d then e else k)=M w->∃ob,bk m k=M ob/\oL ν d e (if k=d then e else k)=ν k/\w=ob.uN d e:=λk l w h=>by rw[CH q T]at h;by_cases c:k=d;subst c;rw[L' Y,M' (Ne.symm q),L' Y,ζf]at h;obtain⟨ob,B,rfl⟩:=h;simp_all[oL];rw[M' c,M' c,M' l,ζf]at h;obtain⟨ob,B,rfl⟩:=h;simp_all[oL]
 induction r with|v x y h=>exact .v x y h|own k y h=>have l:k≠e:=(by simp_all[SV.cM]);refine .own _ y λw G=>?_;obtain⟨ob,c,B,rfl⟩:=key k l w G;obtain⟨_,_,_,D,rfl⟩:=h ob c;exact⟨_,_,_,HQ.trans D,by rw[B]⟩|ptr k o y h=>have l:k≠e:=(by simp_all[SV.cM]);refine .ptr _ o y λw G=>?_;obtain⟨ob,c,B,rfl⟩:=key k l w G;obtain⟨_,rfl,rfl⟩:=h ob c;exact⟨_,rfl,by rw[B]⟩|el k i o y h=>have l:k≠e:=(by simp_all[SV.cM]);refine .el _ i o y λw G=>?_;obtain⟨ob,c,B,rfl⟩:=key k l w G;obtain⟨_,_,_,D,Q,rfl⟩:=h ob c;exact⟨_,_,_,HQ.trans D,Q,by rw[B]⟩|mp k y h=>have l:k≠e:=(by simp_all[SV.cM]);refine .mp _ y λw G=>?_;obtain⟨ob,c,B,rfl⟩:=key k l w G;obtain⟨_,rfl,rfl⟩:=h ob c;exact⟨_,rfl,by rw[B]⟩|clo f a b I S A X hva t C P=>simp[SV.cM]at D;refine .clo f _ _ I S (by rw[rL];omega) (by rw[rL];omega) (λj u v g n=>?_) (λj u v g n=>?_);rw[wA,ζf]at g;obtain⟨L,z,rfl⟩:=g;grind[wj];rw[wA,ζf]at g;obtain⟨L,z,rfl⟩:=g;grind[wj]|tup a I A hva C=>refine .tup _ I (by rw[rL];omega) (λj u v g n=>?_);rw[wA,ζf]at g;obtain⟨L,z,rfl⟩:=g;exact C j L v z n (wj D z)|agg a I A hva C=>refine .agg _ I (by rw[rL];omega) (λj u v g n=>?_);rw[wA,ζf]at g;obtain⟨L,z,rfl⟩:=g;exact C j L v z n (wj D z)|yl id=>exact .yl id
def MJ(r:R ν Z st F H){d e:Nat}(D:d≠e)(V:st.new e=U):R (oL ν d e) Z {st with g:=C4 d e st.g,m:=ym d e st.m} F H/\Ev Rv ν Z st H (oL ν d e) Z {st with g:=C4 d e st.g,m:=ym d e st.m} H:=by
 have⟨n1,c__,n3,E⟩:=lX V;have key:∀k z,bk (ym d e st.m) k=M z->∃k0 ob,bk st.m k0=M ob/\z=ob.uN d e/\k0=(if k=e then d else k)/\k≠d/\(k=e/\k0=d\/k≠e/\k0=k):=λk z h=>by rw[CH D c__]at h;split at h;simp_all;rename_i a;rw[ζf]at h;obtain⟨ob,B,rfl⟩:=h;by_cases G:k=e;rw[L' G]at B;exact⟨d,ob,B,_k,by grind[oL],a,.inl ⟨G,_k⟩⟩;rw[M' G]at B;exact⟨k,ob,B,_k,by grind[oL],a,.inr ⟨G,_k⟩⟩
 have C:∀k j,(oL ν d e).at k j=ν.at (if k=e then d else k) j:=Uw ν d e;have L:∀k,(oL ν d e) k=ν (if k=e then d else k):=λk=>by simp only[oL];split<;>rfl
 have W:∀k,(oL ν d e).inn k=ν.inn (if k=e then d else k):=λk=>by simp only[oL];split<;>rfl
 refine⟨⟨λs sv K=>?_,λk z b=>?_,λc d2 o1 o2 X j2 a B d__ a__ b__=>?_,λc o1 X a d__=>?_,r.zrow,r.deep⟩,⟨y? _,λ_ _ _ _ _=>rfl,λid h=>⟨h,_k⟩,?_,λ_ h=>.inl h,?_,_k⟩⟩;rw[IE,ζf]at K;obtain⟨Y,Q,rfl⟩:=K;exact cV.uN c__ (BT n3 Q) D (r.slot s Y Q);obtain⟨k0,ob,a,rfl,B,_,_⟩:=key k z b;have o:=r.obj k0 ob a;have b__:(oL ν d e) k=ν k0:=by rw[L,<-B]
 cases ob with|sl fl es xs=>grind[bE.uN,c8]|box cs=>have⟨es,aa,g1,g2,g3⟩:=o;have I:=(by have:=uq E a;simpa[bE.cM]using this);refine⟨es,aa,by rw[b__];exact g1,⟨by rw[rL];exact g2.1,λj u v N hv=>?_⟩,g3⟩;rw[wA,ζf]at N;obtain⟨u',S,rfl⟩:=N;exact cV.uN c__ (wj I S) D (g2.2 j u' v S hv)|mp ab=>grind[bE.uN,c8]|dp fl xs w=>have hi:(oL ν d e).inn k=ν.inn k0:=(by rw[W,<-B]);have P:∀i x y,xJ ν H Z k0 i x y->xJ (oL ν d e) H Z k i x y:=λi x y h=>(by unfold xJ at h⊢;rw[hi];exact h);have I:=uq E a;rcases w with _|⟨i0,t⟩;simp only[bE.uN,c8,b__]at o⊢;split;(next b=>rw[L' b]at o;have⟨o1,o2,o3,ys,f,l,n⟩:=o;exact⟨o1,o2,o3,ys,f,l,λi x y p q=>P i x y (n i x y p q)⟩);rename_i b;rw[M' b]at o;exact o;simp only[bE.uN,c8,b__]at o⊢;split;rename_i b;rw[L' b]at o;have⟨o1,o2,o3,ys,f,l,n⟩:=o;refine⟨o1,o2,λi t' e=>by cases e;exact o3 _ _ _k,ys,f,l,λi x y p q=>?_⟩;have T:=n i x y p q;simp only[qz]at T⊢;split;(next e0=>rw[L' e0]at T;have⟨v,q1,q2,q3⟩:=T;exact⟨v,q1,q2,cV.uN (sv:=.own t) c__ (by simpa[bE.cM,SV.cM]using I) D q3⟩);rename_i e0;rw[M' e0]at T;exact P i x y T;rename_i b;rw[M' b]at o;cases o.2
 obtain⟨k1,p1,g1,rfl,e1,c1,A⟩:=key c o1 a;obtain⟨k2,p2,g2,rfl,e2,c3,c4⟩:=key d2 o2 B;rw[Mg]at d__ a__;rw[C,C,<-e1,<-e2]at b__;have:=r.inj k1 k2 p1 p2 X j2 g1 g2 d__ a__ b__;omega;obtain⟨k1,p1,g1,rfl,e1,_⟩:=key c o1 a;rw[Mg]at d__;rw[C,<-e1];exact r.apart k1 p1 X g1 d__;rintro id ⟨k,o,j,a,B,G⟩;obtain⟨k1,p1,g1,rfl,e1,_⟩:=key k o a;rw[Mg]at B;exact .inl ⟨k1,p1,j,g1,B,by rw[C,<-e1]at G;exact G⟩;intro k b z h;obtain⟨k1,p1,g1,rfl,e1,c1,A⟩:=key k z h;rcases A with⟨rfl,_⟩|⟨A,rfl⟩;grind;exact⟨p1,g1,by rw[L,<-e1],HQ⟩
def R.say(r:R ν Z st F H){n:Nat}{sv:SV}(h:cV ν st.m H Z sv (get F n)):R ν Z {st with g:=bH st.g n sv} F H where
 slot:=λs x u=>by by_cases e:n=s;grind[cu];rw[cK st.g sv e]at u;exact r.slot s x u
 obj:=r.obj
 inj:=r.inj
 apart:=r.apart
 zrow:=r.zrow
 deep:=r.deep
def TH(r:R ν Z st F H){n d es:Nat}{k:Fl}{x:V}(a:lJ k es []=x/\b7 k=O)(G:bk st.g n=M (.v x))(D:st.new d=U)(i:∀y,FR H Z x y->y=x)(B:qA (ν d) k es 0=x):
 R (iU ν d (ν d)) Z {st with g:=bH st.g n (.own d),m:=bH st.m d (.sl k es [])} F H/\Ev Rv ν Z st H (iU ν d (ν d)) Z {st with g:=bH st.g n (.own d),m:=bH st.m d (.sl k es [])} H:=by
 have u:eM (.sl k es [])=U->False:=by grind[eM]
 have r1:=r.add D (p:=ν d) (λh=>(u h).elim) (by grind[c8])
 refine⟨r1.say (.own _ _ λz w=>?_),?_⟩
 .rw[cu]at w;cases w;rw[jx,i _ (r.slot n _ G).fr];exact⟨_,_,_,Y,B.symm⟩
 exact(Ev.add D (y? _) (λ_ _ _=>rfl) (λ_ _=>rfl) (λh=>(u h).elim)).trans (Ev.slots _)
def R1(r:R ν Z st F H){b i d es:Nat}{k:Fl}{x:V}{cs:Rd}(n:b7 k=O)(T:bk st.m b=M (.box cs))(f:cs[i]?=M (.v x))(D:st.new d=U)(q:∀y,FR H Z x y->y=x)(G:qA (ν d) k es 0=x):
 ∃ν',R ν' Z {st with m:=bH (bH st.m d (.sl k es [])) b (.box (cs.set i (.own d)))} F H/\Ev Rv ν Z st H ν' Z {st with m:=bH (bH st.m d (.sl k es [])) b (.box (cs.set i (.own d)))} H:=by
 have B:eM (.sl k es [])=U->False:=by grind[eM]
 have r1:=r.add D (p:=ν d) (λh=>(B h).elim) (by grind[c8])
 have C:b≠d:=by rintro rfl;rw[(lX D).2.1]at T;cases T
 have z:bk (bH st.m d (.sl k es [])) b=M (.box cs):=by rw[cK _ _ (Ne.symm C)];omega
 have⟨I,o,g,L,S⟩:=r1.obj b _ z;have l:∀e w,bk (bH (bH st.m d (.sl k es [])) b (.box (cs.set i (.own d)))) e=M w->∃ob,bk (bH st.m d (.sl k es [])) e=M ob/\iU ν d (ν d) e=iU ν d (ν d) e/\sameShape ob w:=λe w h=>by by_cases t:e=b;subst t;rw[cu]at h;cases h;exact⟨_,z,Y,Y⟩;rw[cK _ _ (Ne.symm t)]at h;exact⟨w,h,Y,.refl _⟩
 refine⟨iU ν d (ν d),r1.gD z Y (pH Y) (λ_ _=>rfl) Y ⟨I,o,g,⟨by simp[L.1],λj u v a c=>?_⟩,S⟩,?_⟩
 .rw[C?]at a;split at a
  .rename_i e;subst e;split at a
   .cases a;refine .own _ _ λw Q=>?_
    rw[cK _ _ C,cu]at Q;cases Q;rw[jx,q v (L.2 i _ v f c).fr];exact⟨_,_,_,Y,G.symm⟩
   grind
  exact(L.2 j u v a c).mono (λid h=>⟨h,Y⟩) λe _=>l e
 exact(Ev.add D (y? _) (λ_ _ _=>rfl) (λ_ _=>rfl) (λh=>(B h).elim)).trans (Ev.gD r1 z Y (pH Y) (λ_ _=>rfl) Y (y? _))
theorem Zl (r:R ν Z st F H) {d:Nat} (h:Km d st=some e?):R ν Z e? F H/\Ev Rv ν Z st H ν Z e? H:=by
 unfold Km at h;split at h
 .rename_i k es D u;split at h
  .rename_i hc;obtain⟨rfl,hk,w⟩:=hc;cases h;have G:∀(i:Nat) (x:aX V),D[i]? = some x->x=[.bN]\/x=[.dH]:=λi x hi=>by
    have:=List.all_eq_true.1 w x (List.mem_of_getElem? hi);unfold abD at this;split at this
    .exact .inl rfl
    .exact .inr rfl
    cases this
   have z:∀j,(bE.dp k D none).pt j=true->(bE.sl k 1 D).pt j=true:=λj g=>by
    cases j with
    | zero=>exact g
    | succ i=>
     obtain⟨-,es,S,hi⟩:=uE g;rcases G i _ hi with h|h <;> cases h
   have o:=r.obj d _ u;refine⟨r.HC u rfl z (λ_ _=>rfl) ?_,Ev.HC r u rfl z (λ_ _=>rfl) (Nat.le_refl _)⟩
   simp only[c8]at o ⊢;split
   .rename_i hr;rw[L' hr]at o;have hk:k=.row:=by cases k <;> simp_all [b7]
    obtain⟨q,o1,o2,o3,T,C⟩:=o;obtain⟨C,L⟩:=C hk;refine⟨hk,C,(λi t e=>by cases e),q,o1,L,λi x y w Q=>.inl ⟨?_,G i x w⟩⟩
    rw[C,List.drop_zero,<-L,List.take_length]at o3;have B:=o3.2 i x y w Q;rcases G i x w with rfl|rfl
    .obtain⟨y,_,rfl,h1,I⟩:=B.inv;rw[I.cW,h1.bN]
    obtain⟨y,_,rfl,h1,I⟩:=B.inv;rw[I.cW,h1.dH]
   rename_i hr;rw[M' hr]at o;exact⟨o,by simp⟩
  cases h
 .cases h;exact⟨r,.refl⟩
 cases h
def ZZ(r:R ν Z st F H){d es t:Nat}{i:Loc}(h:D1 d i es t st=M e?):∃ν',R ν' Z e? F H/\Ev Rv ν Z st H ν' Z e? H:=by
 unfold D1 at h;split at h;rotate_left;cases h;exact⟨ν,r,.refl⟩;cases h;rename_i k S i u _;split at h;rotate_left;cases h;rename_i hc;have⟨A,ab⟩:=hc;have⟨x,E,h⟩:=ζg.1 h;obtain⟨ob,b,rfl⟩:=ζf.1 h;have⟨n1,K,n3,n4⟩:=lX ab;have G:d≠t:=by rintro rfl;rw[K]at u;cases u
 have hi:=(ζe.1 E).1;have o:=r.obj d _ u;simp only[c8,A,N']at o;obtain⟨o1,o2,-,ys,o3,o4,a__⟩:=o;have T:∀j,(bE.dp k S (M (i,t))).pt j=U->j≠i+1/\(bE.dp k S J).pt j=U:=λj I=>by cases j with|zero=>exact⟨c?,I⟩|succ j=>have⟨a,es,D,b__⟩:=uE I;exact⟨λe=>a t (by rw[show i=j by omega]),by simp[bE.pt,b__]⟩
 have c__:∀y,ys[i]?=M y->xJ ν H Z d i x y:=λy g=>a__ i x y E g;obtain⟨y,g⟩:∃y,ys[i]?=M y:=⟨_,ζd c?⟩;have ae:=c__ y g;obtain⟨v,kk,D,e1,e2,e3,e4,e5,e6⟩:∃v kk D,y=[v]/\v.one=U/\ob=.sl kk es D/\v=qA (ν.inn d i,0) kk es (_l D)/\(b7 kk=U->(bE.dp k S J).pt (i+1)=U/\∃c,H[ν.inn d i]?=M (.row es c)/\gM H Z D c)/\(b7 kk=O->D=[]):=by rcases ae with⟨rfl,rfl|rfl⟩|⟨al,D,c,rfl,rfl,N,l⟩;cases b;exact⟨.bN,.nil,[],_k,_k,_k,_k,(λh=>by cases h),λ_=>rfl⟩;cases b;exact⟨.dH,.emp,[],_k,_k,_k,_k,(λh=>by cases h),λ_=>rfl⟩;simp only[XV]at b;split at b;(next e=>subst e;cases b;exact⟨_,.row,D,_k,_k,_k,_k,λ_=>⟨by simp[bE.pt,E],c,N,l⟩,λh=>by cases h⟩);cases b
 subst e3;have r1:R ν Z {st with m:=bH st.m d (.dp k S (M (i,t)))} F H:=by refine r.HC u _k (λj I=>(T j I).2) (λ_ _=>rfl) ?_;simp only[c8,A,N'];refine⟨o1,o2,λn t' e=>by cases e;exact hi,ys,o3,o4,λn P V W w=>?_⟩;simp only[qz];split;(next e=>subst e;rw[g]at w;cases w;exact⟨v,e1,e2,.own _ _ λX q=>by rw[cK _ _ G,K]at q;cases q⟩);exact a__ n P V W w
 have L:∀e,bk (bH st.m d (.dp k S (M (i,t)))) e=M (.dp k S (M (i,t)))/\e=d\/e≠d/\bk (bH st.m d (.dp k S (M (i,t)))) e=bk st.m e:=λe=>by by_cases C:e=d;subst C;exact .inl ⟨cu _ _ _,_k⟩;exact .inr ⟨C,cK _ _ (Ne.symm C)⟩
 have hs:=pz ν t (ν.inn d i,0) (λ_=>0);have ad:(kV ν t (ν.inn d i,0) (λ_=>0)).at t 0=ν.at d (i+1):=_f fst hs.1;have d__:(bE.sl kk es D).flat:=lB f?;have af:∀id,Z id->Z id/\bt H id=bt H id:=λid h=>⟨h,_k⟩;refine⟨kV ν t (ν.inn d i,0) (λ_=>0),r1.V0 (ob:=.sl kk es D) (p:=(ν.inn d i,0)) (f:=λ_=>0) ?_ n3 (λe o C s=>?_) (λj I=>?_) (λj j' I ah _=>by rw[d__ j I,d__ j' ah]) ?_,⟨y? _,λ_ _ _ _ _=>rfl,af,λid s=>?_,λ_ h=>.inl h,λe C X h=>?_,_k⟩⟩;rw[cK _ _ G];exact K;rcases L e with⟨a,rfl⟩|⟨a,b__⟩;simp only at C;rw[a]at C;cases C;have ai:(kV ν t (ν.inn e i,0) (λ_=>0)) e=ν e:=M' G;have aj:(kV ν t (ν.inn e i,0) (λ_=>0)).inn e=ν.inn e:=M' G;simp only[c8,A,N',ai];refine⟨o1,o2,λn t' e=>by cases e;exact hi,ys,o3,o4,λn P V W w=>?_⟩;simp only[qz];split;rename_i e9;subst e9;rw[g]at w;cases w;refine⟨v,e1,e2,.own _ _ λX q=>?_⟩;rw[cu]at q;cases q;exact⟨_,_,_,_k,by rw[hs.1];exact e4⟩;have:=a__ n P V W w;unfold qz xJ at *;rw[aj];exact this;simp only at C;rw[b__]at C;rw[uq n4 C]at s;cases s;have:=d__ j I;subst this;have z:b7 kk=U:=I;rw[ad];refine⟨λ⟨k2,ak,Y,B,Q,z3⟩=>?_,r.apart d _ _ u (e5 z).1⟩;rcases L k2 with⟨a,rfl⟩|⟨a,b__⟩;simp only at B;rw[a]at B;cases B;have⟨w1,w2⟩:=T Y Q;exact w1 (r.inj k2 k2 _ _ Y _ u u w2 (e5 z).1 z3).2;simp only at B;rw[b__]at B;exact a (r.inj k2 d _ _ Y _ B u Q (e5 z).1 z3).1;simp only[c8];split;rename_i z;have⟨_,c,N,l⟩:=e5 z;rw[hs.1];have hl:=l.1;refine⟨c,N,by simp[hl],?_,l.BM,λ_=>⟨_k,hl.symm⟩⟩;rw[hl,Q!,M?];exact l;rename_i z;exact e6 (by simpa using z);rcases MI s with⟨k2,ak,Y,B,Q,z3⟩|⟨j,B,Q⟩;rcases L k2 with⟨a,rfl⟩|⟨a,b__⟩;rw[a]at B;cases B;exact .inl ⟨k2,_,Y,u,(T Y Q).2,z3⟩;rw[b__]at B;exact .inl ⟨k2,_,Y,B,Q,z3⟩;have:=d__ j B;subst this;rw[ad]at Q;exact .inl ⟨d,_,i+1,u,(e5 B).1,Q⟩;have aa:e≠t:=by rintro rfl;exact n1 C
 simp only at h;rw[cK _ _ (Ne.symm aa)]at h;rcases L e with⟨a,rfl⟩|⟨a,b__⟩;rw[a]at h;cases h;exact⟨_,u,M' aa,_k⟩;rw[b__]at h;exact⟨X,h,M' aa,.refl _⟩
def acf(r:R ν Z st F H){d:Nat}(h:HD d st=M e?):∃ν',R ν' Z e? F H/\Ev Rv ν Z st H ν' Z e? H:=by
 unfold HD at h;split at h;rotate_left;cases h;exact⟨ν,r,.refl⟩;cases h;rename_i k W i t C;split at h;rotate_left;cases h;rename_i d__ es T m;split at h;rotate_left;cases h;rename_i hc;have⟨aa,X,V⟩:=hc;cases h;have o:=r.obj d _ C;simp only[c8,V,N']at o;have⟨o1,o2,o3,ys,o4,o5,o6⟩:=o;have n:=o3 _ _ _k;have p:=r.obj t _ m;have z:∀e,e=d/\bk (bH (dz t st.m) d (.dp k (W.set i [lJ d__ es T]) J)) e=M (.dp k (W.set i [lJ d__ es T]) J)\/e≠d/\∀ob,bk (bH (dz t st.m) d (.dp k (W.set i [lJ d__ es T]) J)) e=M ob->e≠t/\bk st.m e=M ob:=λe=>by by_cases Q:e=d;subst Q;exact .inl ⟨_k,cu _ _ _⟩;refine .inr ⟨Q,λob h=>?_⟩;rw[cK _ _ (Ne.symm Q)]at h;have⟨w1,w2⟩:=mN h;exact⟨Ne.symm w1,w2⟩
 let ν':Nu:=⟨ν.pl,λe u=>if e=d/\u=i then(ν t).1 else ν.inn e u⟩;have ab:∀e,ν' e=ν e:=λ_=>rfl;have D:∀e u,¬(e=d/\u=i)->ν'.inn e u=ν.inn e u:=λe u h=>M' h;have B:ν'.inn d i=(ν t).1:=L' ⟨_k,_k⟩;have A:∀e G,bk (bH (dz t st.m) d (.dp k (W.set i [lJ d__ es T]) J)) e=M G->∃ob,bk st.m e=M ob/\ν' e=ν e/\sameShape ob G:=λe G h=>by rcases z e with⟨rfl,a⟩|⟨a,I⟩;rw[a]at h;cases h;exact⟨_,C,_k,by simp[sameShape,bE.xL]⟩;exact⟨G,(I _ h).2,_k,.refl _⟩
 have S:∀id,Z id->Z id/\bt H id=bt H id:=λid h=>⟨h,_k⟩;have b__:∀e ob j,bk (bH (dz t st.m) d (.dp k (W.set i [lJ d__ es T]) J)) e=M ob->ob.pt j=U->∃e0 Y g,bk st.m e0=M Y/\Y.pt g=U/\ν'.at e j=ν.at e0 g/\((e=d/\j=i+1/\e0=t/\g=0)\/(e0=e/\g=j/\e≠t/\¬(e=d/\j=i+1))):=λe ob j h E=>by
  rcases z e with⟨rfl,a⟩|⟨a,I⟩
  .rw[a]at h;cases h;cases j with|zero=>exact⟨e,_,0,C,E,rfl,.inr ⟨rfl,rfl,Ne.symm X,c?⟩⟩|succ u=>
    obtain⟨-,ae,af,L⟩:=uE E;by_cases w:u=i
    .subst w;rw[K? n]at L;have ad:b7 d__=U:=(by cases d__<;>first|rfl|cases L);exact⟨t,_,0,m,ad,B,.inl ⟨_k,_k,_k,_k⟩⟩
    rw[F? (Ne.symm w)]at L;exact⟨e,_,u+1,C,by simp[bE.pt,L,Ne.symm w],D e u c?,.inr ⟨_k,_k,Ne.symm X,c?⟩⟩
  have⟨l,K⟩:=I _ h;refine⟨e,ob,j,K,E,?_,.inr ⟨_k,_k,l,c?⟩⟩;cases j with|zero=>rfl|succ u=>exact D e u c?
 refine⟨ν',⟨λs sv hs=>(r.slot s sv hs).mono S λe _=>A e,λe ob Q=>?_,λa__ d2 o1 o2 N j2 a I P b2 hp=>?_,λa__ o1 N a P=>?_,r.zrow,r.deep⟩,⟨y? _,λ_ _ _ _ _=>rfl,S,λid⟨e,o,j,a,I,l⟩=>?_,λ_ h=>.inl h,λe _=>A e,_k⟩⟩;rcases z e with⟨rfl,a⟩|⟨a,I⟩;simp only at Q;rw[a]at Q;cases Q;simp only[c8,V,N',ab];refine⟨o1,o2,(λu t' e=>by cases e),ys,o4,by simp[o5],λu x y L hy=>?_⟩;by_cases w:u=i;subst w;rw[K? n]at L;cases L;have c__:=o6 u _ y (ζd n) hy;simp only[qz,N']at c__;obtain⟨v,rfl,-,hv⟩:=c__;obtain⟨_,_,_,q,rfl⟩:=hv.iK m;cases q;show xJ ν' H Z e u _ _;simp only[c8]at p;cases d__ with|nil=>exact .inl ⟨rfl,.inl rfl⟩|emp=>exact .inl ⟨rfl,.inr rfl⟩|row=>simp only[b7,N']at p;have⟨ws,p1,p2,p3,p4,p5⟩:=p;have⟨p5,p6⟩:=p5 trivial;rw[p5,Q!,<-p6,M?]at p3;exact .inr ⟨es,T,ws,rfl,by rw[B];simp[qA,p5],by rw[B];exact p1,p3⟩|part=>exact _e _k aa
 rw[F? (Ne.symm w)]at L;have c__:=o6 u x y L hy;simp only[qz,M' (Ne.symm w)]at c__;show xJ ν' H Z e u _ _;unfold xJ at c__⊢;rw[D e u c?];exact c__;have⟨l,K⟩:=I _ Q;exact c8.mono (ν:=ν) (ν':=ν') S _k (λ_ _=>rfl) (λe' _=>A e') (r.obj e ob K) (funext λu=>D e u c?);have⟨e1,p1,b,k1,c,f,c1⟩:=b__ a__ o1 N a P;have⟨e2,p2,q2,k2,l2,u2,c2⟩:=b__ d2 o2 j2 I b2;have:=r.inj e1 e2 p1 p2 b q2 k1 k2 c l2 (by rw[<-f,<-u2];exact hp);omega;have⟨e1,p1,b,k1,c,f,c1⟩:=b__ a__ o1 N a P;rw[f];exact r.apart e1 p1 b k1 c;have⟨e1,p1,b,k1,c,f,c1⟩:=b__ e o j a I;exact .inl ⟨e1,p1,b,k1,c,by rw[<-f];exact l⟩
def Va(r:R ν Z st F H){x:Gh}(h:ghost x st=M e?):∃ν' Z',R ν' Z' e? F H/\Ev Rv ν Z st H ν' Z' e? H:=by cases x with|close d=>have⟨Z',a,b⟩:=LX (Rv:=Rv) r h;grind|closeS l=>simp[ghost]at h;split at h;have⟨Z',a,b⟩:=LX (Rv:=Rv) r h;grind;simp at h;subst h;exact⟨ν,Z,r,.refl⟩;grind|closeB d=>have⟨Z',a,b⟩:=TS (Rv:=Rv) r h;grind|keep gs G=>simp[ghost]at h;split at h;(next g m e B=>simp at h;subst h;exact⟨ν,Z,r.less (λs D w=>tu e w) (λd ob hd=>tu B hd),Ev.less (λd ob hd=>tu B hd)⟩);grind|drop ds=>simp[ghost]at h;subst h;exact⟨ν,Z,r.less (λs D w=>qZ w) (λd ob hd=>hd),Ev.less (λd ob hd=>hd)⟩|melt d=>have⟨a,b⟩:=Zl (Rv:=Rv) r h;exact⟨ν,Z,a,b⟩|take d i es t=>have⟨ν',a,b⟩:=ZZ (Rv:=Rv) r h;exact⟨ν',Z,a,b⟩|put d=>have⟨ν',a,b⟩:=acf (Rv:=Rv) r h;exact⟨ν',Z,a,b⟩|canon l d es=>cases l with|s n=>simp[ghost]at h;split at h;rename_i w;split at h;rename_i u;simp at h;have⟨a,b⟩:=TH (Rv:=Rv) (es:=es) (k:=.nil) r ⟨Y,Y⟩ w u (λy h=>h.bN) Y;grind;grind;rename_i w;split at h;rename_i u;simp at h;have⟨a,b⟩:=TH (Rv:=Rv) (es:=es) (k:=.emp) r ⟨Y,Y⟩ w u (λy h=>h.dH) Y;grind;grind;split at h;simp at h;subst h;exact⟨ν,Z,r,.refl⟩;rename_i z;split at h;rename_i u;simp at h;have⟨a,b⟩:=MJ (Rv:=Rv) r z u;grind;grind;split at h;simp at h;subst h;exact⟨ν,Z,r,.refl⟩;rename_i z;split at h;rename_i u;simp at h;have⟨a,b⟩:=MJ (Rv:=Rv) r z u;grind;grind;grind|c b i=>simp[ghost]at h;split at h;rename_i cs C;split at h;rename_i w;split at h;rename_i u;simp at h;have⟨ν',a,b⟩:=R1 (Rv:=Rv) (es:=es) (k:=.nil) r Y C w u (λy h=>h.bN) Y;grind;grind;rename_i w;split at h;rename_i u;simp at h;have⟨ν',a,b⟩:=R1 (Rv:=Rv) (es:=es) (k:=.emp) r Y C w u (λy h=>h.dH) Y;grind;grind;split at h;simp at h;subst h;exact⟨ν,Z,r,.refl⟩;rename_i z;split at h;rename_i u;simp at h;have⟨a,b⟩:=MJ (Rv:=Rv) r z u;grind;grind;grind;grind
end
structure oE(E:Env)(f:FuncId)(q:G0):Prop where
 keep:E.keep f=true
 own:E.own f=false
 le:∀es xs vs ys,q.go es xs vs=some ys->ys.length<=xs.length/\(q.part=false->ys.length=xs.length)
 none:∀es vs ys,q.go es [] vs=some ys->∀(H:bl)(Z:Nat->Prop)(ws:List V)(w:V),dB H Z vs ws->(w=.bN\/w=.dH)->∃n X,∀k,n<=k->run E k (.fn f) (w::ws) H=some (if q.part then w else .undef,H++X)
 row:∀es xs vs ys,q.go es xs vs=some ys->∀(H:bl)(Z:Nat->Prop)(ws:List V)(id off:Nat)(rs:List (List V)),dB H Z vs ws->H[id]?=some (.row es rs)->off+xs.length<=rs.length->
  gM H Z xs ((rs.drop off).take xs.length)->wZ H Z rs->¬Z id->∃n rs' X,(∀k,n<=k->run E k (.fn f) (.hsl id es off xs.length::ws) H=some (if q.part then .hsl id es off ys.length else .undef,(H++X).set id (.row es rs')))/\
   rs'.length=rs.length/\gM H Z ys ((rs'.drop off).take ys.length)/\wZ H Z rs'
section
variable{Rv:Nat->Prop}{ν ν':Nu}{Z Z':Nat->Prop}{st e?:St}{m m':Tb bE}{F F':WP}{H H':bl}
def YP{E:Env}{f:Y'}{q:G0}(i:oE E f q)(r:R ν Z st F H){args:Rd}{ys:So}(K:cn ν st.m H Z args ys){dst:aY Nat}{sv:SV}(h:Cr q dst args st=M (sv,e?)):
 ∃n y H' ν',(∀k,n<=k->run E k (.fn f) ys H=M (y,H'))/\R ν' Z e? F H'/\cV ν' e?.m H' Z sv y/\Ev Rv ν Z st H ν' Z e? H'/\Kept dst ν st.m ν' e?.m:=by
 unfold Cr at h;split at h
 .rename_i d vs;obtain⟨w,p,rfl,a__,N⟩:=K.inv;split at h
  .rename_i k es xs zs u G;have s:=cn.c6 N G;split at h
   .rename_i ns T;have⟨al,P⟩:=i.le _ _ _ _ T;obtain⟨_,_,_,ee,rfl⟩:=a__.iK u;cases ee;have grow:∀X:bl,R ν Z st F (H++X)/\Ev Rv ν Z st H ν Z st (H++X)/\∀id,Z id->bt (H++X) id=bt H id:=λX=>by
     have j:∀id,id<_l H->(H++X)[id]?=H[id]?:=λid h=>u? h
     have G:∀id,Z id->bt (H++X) id=bt H id:=λid h=>by unfold bt;rw[j id (r.xK h)]
     exact⟨r.heap (λid h=>j id (r.lt h)) G,Ev.heap f? (λid h _ _ _=>j id h) G,G⟩
    have o:=r.obj d _ u
    cases a:b7 k with
    |false=>
     simp only[c8,a,v?,_a]at o;subst o;have hw:qA (ν d) k es 0=.bN\/qA (ν d) k es 0=.dH:=by cases k<;>simp[qA,b7]at a⊢
     have⟨n,X,L⟩:=i.none _ _ _ T H Z p _ s hw;have⟨b,I,c__⟩:=grow X;simp only[a,v?,_a]at h;split at h
     .rename_i d__;split at h
      .rename_i t;split at h
       .rename_i z;simp only[ζa,ζc]at h;obtain⟨rfl,rfl⟩:=h;have r1:R ν Z {st with m:=dz d st.m} F (H++X):=b.less (g:=st.g) (λ_ _ h=>h) mC
        rw[L' d__]at L;refine⟨n,_,H++X,iU ν t (ν d),L,r1.add z (λl=>by simp[eM,a]at l) (by simp[c8,a]),?_,?_,Kept.add mC⟩
        .refine .own _ _ λah W=>?_
         simp only at W;rw[cu]at W;cases W;exact⟨_,_,_,_k,by rw[jx];rfl⟩
        exact I.trans (Ev.re (st:=st) mC (lX z).1 (y? _) (λ_ _ _ _=>rfl) (λ_ _=>rfl) (λl=>by simp[eM,a]at l))
       cases h
      cases h
     rename_i d__;simp only[ζa,ζc]at h;obtain⟨rfl,rfl⟩:=h;rw[M' d__]at L;have hu:bH st.m d (.sl k es [])=st.m:=sK u;rw[hu];exact⟨n,_,H++X,ν,L,b,.v _ _ (.same _ rfl),I,.refl⟩
    |true=>
     simp only[c8,a,N']at o;have⟨rs,v,hl,hf,ab,Q⟩:=o;have B:eM (.sl k es xs)=U:=a;have⟨n,C,X,L,e1,e2,e3⟩:=i.row _ _ _ _ T H Z p _ _ rs s v hl hf ab (r.apart d _ 0 u B);have⟨b,I,c__⟩:=grow X;have ai:(ν d).1<_l (H++X):=by have:=(ζe.1 v).1;simp;omega
     have G:∀id,Z id->Z id/\bt ((H++X).set (ν d).1 (.row es C)) id=bt H id:=λid D=>⟨D,by
      rw[<-c__ id D];unfold bt;rw[F?];rintro rfl;exact r.apart d _ 0 u B D⟩
     have x:∀id,Z id->bt ((H++X).set (ν d).1 (.row es C)) id=bt (H++X) id:=λid D=>by rw[(G id D).2,c__ id D]
     have c:∀id,id≠(ν d).1->((H++X).set (ν d).1 (Ob.row es C))[id]?=(H++X)[id]?:=λid aj=>F? (Ne.symm aj)
     have b__:((H++X).set (ν d).1 (Ob.row es C))[(ν d).1]?=M (.row es C):=K? ai;rw[qx a];simp only[a,N']at h;split at h
     .rename_i d__;split at h
      .rename_i t;split at h
       .rename_i z;simp only[ζa,ζc]at h;obtain⟨rfl,rfl⟩:=h;have r1:R ν Z {st with m:=dz d st.m} F (H++X):=b.less (g:=st.g) (λ_ _ h=>h) mC
        have A:¬fN ν (dz d st.m) (ν d).1:=by rintro⟨k2,o2,j2,g1,g2,g3⟩;have⟨g4,g5⟩:=mN g1;exact g4 (r.inj d k2 _ o2 0 j2 u g5 B g2 g3.symm).1
        have r2:R ν Z {st with m:=dz d st.m} F ((H++X).set (ν d).1 (.row es C)):=r1.heap (λid ho=>c id (by rintro rfl;exact A ho)) x
        rw[L' d__]at L;refine⟨n,_,_,iU ν t (ν d),L,r2.add z (λ_=>⟨A,r.apart d _ 0 u B⟩) ?_,?_,?_,Kept.add mC⟩
        .simp only[c8,b7,N',jx];exact⟨C,b__,c?,e2.mono G,e3.mono G,λe=>by cases e⟩
        .refine .own _ _ λah W=>?_
         simp only at W;rw[cu]at W;cases W;exact⟨_,_,_,_k,by rw[jx];rfl⟩
        exact I.trans (Ev.re (st:=st) mC (lX z).1 f? (λid _ ho _=>c id (by rintro rfl;exact ho ⟨d,_,0,u,B,_k⟩)) x (λ_=>.inl ⟨d,_,0,u,B,_k⟩))
       cases h
      cases h
     rename_i d__;simp only[ζa,ζc]at h;obtain⟨rfl,rfl⟩:=h;rw[M' d__]at L;have ak:q.part=O:=by simpa using d__
     have S:=P ak;have Y:sameShape (.sl k es xs) (.sl k es ns):=by simp[sameShape,bE.xL,S]
     refine⟨n,_,_,ν,L,b.gD u Y (pH _k) c B ?_,.v _ _ (.same _ _k),I.trans (Ev.gD b u Y (pH _k) c B f?),Kept.gD u Y (pH _k)⟩
     simp only[c8,a,N'];exact⟨C,b__,c?,e2.mono G,e3.mono G,λe=>⟨(Q e).1,by rw[e1,(Q e).2,S]⟩⟩
   cases h
  cases h
 cases h
end
def yf:Nat->Rd->Tb SV
 |_,[]=>[]|i,v::vs=>(i,v)::yf (i+1) vs
def start(m?:Rd)(B:dF):St:=⟨yf 0 m?,B,B.map (·.1),[],U,0⟩
def j7(S:Sys)(c:cg):Prop:=∀f u w rs z,c f u w=M (rs,z)->∀(ν:Nu)(Z:Nat->Prop)(args:So)(H:bl),(S.E.keep f=U\/H=[])->R ν Z (start u w) args H->cn ν w H Z u args->∃n y H' ν' Z' e? F' B,run S.E n (.fn f) args H=M (y,H')/\y=result B/\e?.m=z/\cn ν' z H' Z' rs B/\R ν' Z' e? F' H'/\Ev (λ_=>False) ν Z (start u w) H ν' Z' e? H'
section
variable{Rv:Nat->Prop}{ν ν':Nu}{Z Z':Nat->Prop}{st e?:St}{m m':Tb bE}{F F':WP}{H H' H1:bl}{N:Nat->Y'}
def Wx{k:Fl}{es:Nat}{xs:S'}{d:Nat}(o:c8 ν m H Z d (.sl k es xs)):(lJ k es xs).good=U:=by
 by_cases a:b7 k=U;simp only[c8,a,N']at o;have⟨w,_,_,u,_⟩:=o;have e:lJ k es xs=.fsl es xs:=by cases k<;>simp[b7]at a<;>rfl
 rw[e];simp only[V.good];exact u.good;cases k<;>simp[b7]at a<;>rfl
mutual
def Th(D:∀d ob,bk m d=some ob->c8 ν m H Z d ob):∀(n:Nat)(sv:SV)(x y:V),shut m n sv=some x->cV ν m H Z sv y->x.good=true
 |n,.v x,z,y,h,r=>by simp only[shut,ζa]at h;subst h;exact r.fr.good|n,.own d,z,y,h,r=>by simp only[shut]at h;split at h;(next k es xs B=>simp only[ζa]at h;subst h;exact Wx (D d _ B));(next k xs B=>simp only[ζa]at h;subst h;exact(PC (Z':=λ_=>True) (D d _ B) (λ_ _=>trivial) (λ_ _=>trivial)).1.good);simp at h|0,.ptr d o,z,y,h,r=>by simp[shut]at h|n+1,.ptr d o,z,y,h,r=>by simp only[shut]at h;split at h;rename_i cs B;split at h;rename_i xs T;split at h;simp only[ζa]at h;subst h;obtain⟨es,G,_,p,_⟩:=D d _ B;simp only[V.good];exact BD _ (pM D n cs xs G T p);simp at h;simp at h;simp at h|n,.el d i o,z,y,h,r=>by cases n<;>simp[shut]at h|n,.yl id,z,y,h,r=>by cases n<;>simp[shut]at h|n,.mp d,z,y,h,r=>by simp only[shut]at h;split at h;rename_i L B;simp only[ζa]at h;subst h;obtain⟨w,_,e⟩:=D d _ B;simp only[V.good];refine Jx.2 λj u g=>?_;have A:j<w.length:=(by rw[<-e.1];exact(ζe.1 g).1);obtain⟨⟨_,c⟩,C⟩:=e.2 j u _ g (ζd A);exact⟨lM c,C.good⟩;simp at h|0,.clo f a b,z,y,h,r=>by simp[shut]at h|n+1,.clo f a b,z,y,h,r=>by simp only[shut]at h;split at h;(next Q x2 c C=>simp only[ζa]at h;subst h;obtain⟨S,t,rfl,W,X⟩:=r.mc;simp only[V.good,ζh];exact⟨pM D n a Q S c W,pM D n b x2 t C X⟩);simp at h|0,.tup l,z,y,h,r=>by simp[shut]at h|n+1,.tup l,z,y,h,r=>by simp only[shut]at h;obtain⟨xs,c,rfl⟩:=ζf.1 h;obtain⟨I,rfl,q⟩:=r.s6;simp only[V.good];exact pM D n l xs I c q|0,.agg l,z,y,h,r=>by simp[shut]at h|n+1,.agg l,z,y,h,r=>by simp only[shut]at h;obtain⟨xs,c,rfl⟩:=ζf.1 h;obtain⟨I,rfl,q⟩:=r.jV;simp only[V.good];exact pM D n l xs I c q
def pM(D:∀d ob,bk m d=M ob->c8 ν m H Z d ob):∀(n:Nat)(m?:Rd)(xs ys:So),dy m n m?=M xs->cn ν m H Z m? ys->V.cT xs=U
 |n,[],xs,ys,h,r=>by simp only[dy,ζa]at h;subst h;rfl|n,sv::m?,xs,ys,h,r=>by simp only[dy]at h;split at h;(next y s a G=>simp only[ζa]at h;subst h;obtain⟨g,B,rfl,r1,r2⟩:=r.inv;simp only[V.cT,ζh];exact⟨Th D n sv y g a r1,pM D n m? s B G r2⟩);simp at h
end
def LU{f:V->aY V}:∀{xs ys:aX (V×V)},W xs=W ys->(∀(j:Nat)u v,xs[j]?=M u->ys[j]?=M v->f v.1=M u.1/\f v.2=M u.2)->nT f ys=M xs
 |[],[],_,_=>rfl|[],y::ys,h,_=>by simp at h|x::xs,[],h,_=>by simp at h|(a,b)::xs,(c,d)::ys,h,B=>by have⟨e,D⟩:=B 0 _ _ Y Y;simp only at e D;simp only[nT,e,D,LU (xs:=xs) (ys:=ys) (by simpa using h) λj u v g i=>B (j+1) u v (by simpa using g) (by simpa using i)]
def ML:∀{l:aX (V×V)}{n:Nat},V.vR n l=U↔∀(j:Nat)u,l[j]?=M u->u.1.lvl n=U/\u.2.lvl n=U
 |[],n=>by simp[V.vR]|(k,x)::l,n=>by simp only[V.vR,ζh,ML (l:=l)];constructor;rintro⟨b,B⟩ j u a;(cases j with|zero=>simp at a;subst a;exact b|succ j=>exact B j u (by simpa using a));intro h;exact⟨h 0 (k,x) Y,λj u a=>h (j+1) u (by simpa using a)⟩
def ya{n:Nat}{xs ys:So}(D:jI (borrow n H1) ys=M xs)(B:V.jw ys=U):ys=xs:=by
 have w:=mD (f:=borrow n H1) (xs:=ys) (ys:=ys) Y λj u v a b=>by rw[a]at b;cases b;exact eZ n H1 (rK.1 B j u a)
 rw[D]at w;cases w;rfl
mutual
def NM{fr:ST}(G:∀d∈fr,∀e ob,bk m e=some ob->ob.cM d=false)(b__:∀d ob,bk m d=some ob->d∉fr->c8 ν m H1 Z d ob):
 ∀(n:Nat)(sv:SV)(x y:V),shut m n sv=some x->(∀d∈fr,sv.cM d=false)->cV ν m H1 Z sv y->∀k,x.lvl k=true->borrow k H1 y=some x
 |n,.v x,z,y,h,D,r,k,hk=>by simp only[shut,ζa]at h;subst h;exact r.fr.borrow k hk|n,.own d,z,y,h,D,r,k,hk=>by simp only[shut]at h;split at h;rename_i T es xs B;simp only[ζa]at h;subst h;obtain⟨_,_,_,e,rfl⟩:=r.iK B;cases e;have hd:d∉fr:=λhd=>(by have:=D d hd;simp[SV.cM]at this);have o:=b__ d _ B hd;by_cases I:b7 T=true;simp only[c8,I,N']at o;obtain⟨ys,g,E,F,_⟩:=o;rw[qx I];have e:lJ T es xs=.fsl es xs:=(by cases T<;>simp[b7]at I<;>rfl);rw[e]at hk⊢;exact(FR.G7 (Z:=λ_=>True) trivial (show bt H1 (ν d).1=some (es,ys)by unfold bt;rw[g];rfl) E (F.mono λid h=>⟨trivial,rfl⟩)).borrow k hk;cases T<;>simp[b7]at I;exact eZ k H1 rfl;exact eZ k H1 rfl;rename_i T xs B;simp only[ζa]at h;subst h;obtain⟨_,_,_,e,rfl⟩:=r.iK B;cases e;have hd:d∉fr:=λhd=>(by have:=D d hd;simp[SV.cM]at this);exact(PC (Z':=λ_=>True) (b__ d _ B hd) (λ_ _=>trivial) (λ_ _=>trivial)).1.borrow k hk;simp at h|0,.ptr d o,z,y,h,D,r,k,hk=>by simp[shut]at h|n+1,.ptr d o,z,y,h,D,r,k,hk=>by
  simp only[shut]at h;split at h;rename_i cs B;split at h;rename_i xs q;split at h;rename_i H;simp only[ζa]at h;subst h;obtain⟨_,e,rfl⟩:=r.rI B;cases e;have hd:d∉fr:=λhd=>by have:=D d hd;simp[SV.cM]at this
  obtain⟨es,L,g,s,_⟩:=b__ d _ B hd
  cases k with
  |zero=>simp[V.lvl]at hk|succ k=>
   simp only[V.lvl]at hk;have K:∀e∈fr,SV.dK e (cs.drop o)=false:=λe a__=>by
    have:=G e a__ d _ B;simp only[bE.cM]at this
    cases N:SV.dK e (cs.drop o)with
    |false=>rfl|true=>
     exfalso;have:∀{l:Rd}{j:Nat},SV.dK e (l.drop j)=true->SV.dK e l=true:=by
      intro l
      induction l with
      |nil=>intro j h;simpa using h|cons a l d__=>intro j h;cases j with
       |zero=>simpa using h|succ j=>simp only[SV.dK,q!];exact .inr (d__ (by simpa using h))
     rw[this N]at *;simp_all
   have Q:xs.length=cs.length:=by have:∀{l:Rd}{r:So},dy m n l=some r->r.length=l.length:=(by intro l;induction l with|nil=>intro r h;simp only[dy,ζa]at h;subst h;rfl|cons a l d__=>intro r h;simp only[dy]at h;split at h;(next c S=>simp only[ζa]at h;subst h;simp[d__ S]);simp at h);exact this q
   have P:dy m n (cs.drop o)=some (xs.drop o):=by have:∀{l:Rd}{r:So}{j:Nat},dy m n l=some r->dy m n (l.drop j)=some (r.drop j):=(by intro l;induction l with|nil=>intro r j h;simp only[dy,ζa]at h;subst h;simp[dy]|cons a l d__=>intro r j h;have R:=h;simp only[dy]at h;split at h;rename_i c S;simp only[ζa]at h;subst h;(cases j with|zero=>exact R|succ j=>exact d__ S);simp at h);exact this q
   have hb:=l8 G b__ n (cs.drop o) (xs.drop o) (L.drop o) P K (s.drop o) k hk;unfold borrow;simp only[V.closed,v?,_a,g,ζb,Ob.rows,List.getElem?_cons_zero,L' (show o<=L.length by rw[<-s.1,<-Q];exact H),hb,A?]
  simp at h;simp at h;simp at h
 |n,.el d i o,z,y,h,D,r,k,hk=>by cases n<;>simp[shut]at h|n,.yl id,z,y,h,D,r,k,hk=>by cases n<;>simp[shut]at h|n,.mp d,z,y,h,D,r,k,hk=>by simp only[shut]at h;split at h;rename_i ae B;simp only[ζa]at h;subst h;obtain⟨_,e,rfl⟩:=r.Hl B;cases e;have hd:d∉fr:=λhd=>(by have:=D d hd;simp[SV.cM]at this);obtain⟨c__,g,W⟩:=b__ d _ B hd;(cases k with|zero=>simp[V.lvl]at hk|succ k=>simp only[V.lvl]at hk;unfold borrow;simp only[V.closed,v?,_a,g];rw[LU (xs:=ae) (ys:=c__) W.1 λj u v t hv=>?_];rfl;obtain⟨⟨e1,e2⟩,e3⟩:=W.2 j u v t hv;exact⟨by rw[<-e1];exact eZ k H1 (V.od (lM e2)),e3.borrow k (ML.1 hk j u t).2⟩);simp at h
 |0,.clo f a b,z,y,h,D,r,k,hk=>by simp[shut]at h|n+1,.clo f a b,z,y,h,D,r,k,hk=>by simp only[shut]at h;split at h;rename_i x1 x2 c S;simp only[ζa]at h;subst h;obtain⟨a',A,rfl,ra,rb⟩:=r.mc;(cases k with|zero=>simp[V.lvl]at hk|succ k=>simp only[V.lvl,ζh]at hk;have C:=l8 G b__ n a x1 a' c (λd hd=>by have:=D d hd;simp only[SV.cM,i!]at this;exact this.1) ra k hk.1;have X:=l8 G b__ n b x2 A S (λd hd=>by have:=D d hd;simp only[SV.cM,i!]at this;exact this.2) rb k hk.2;by_cases w:(V.clo f a' A).closed=true;rw[eZ _ _ w];simp only[V.closed,ζh]at w;rw[ya C w.1,ya X w.2];unfold borrow;rw[M' w];simp only[C,X]);simp at h|0,.tup l,z,y,h,D,r,k,hk=>by simp[shut]at h|n+1,.tup l,z,y,h,D,r,k,hk=>by simp only[shut]at h;obtain⟨xs,c,rfl⟩:=ζf.1 h;obtain⟨Y,rfl,p⟩:=r.s6;cases k with|zero=>simp[V.lvl]at hk|succ k=>simp only[V.lvl]at hk;have C:=l8 G b__ n l xs Y c (λd hd=>by have:=D d hd;simpa[SV.cM]using this) p k hk;by_cases w:(V.tup Y).closed=true;rw[eZ _ _ w];simp only[V.closed]at w;rw[ya C w];unfold borrow;rw[M' w];simp only[C,A?]
 |0,.agg l,z,y,h,D,r,k,hk=>by simp[shut]at h|n+1,.agg l,z,y,h,D,r,k,hk=>by simp only[shut]at h;obtain⟨xs,c,rfl⟩:=ζf.1 h;obtain⟨Y,rfl,p⟩:=r.jV;cases k with|zero=>simp[V.lvl]at hk|succ k=>simp only[V.lvl]at hk;have C:=l8 G b__ n l xs Y c (λd hd=>by have:=D d hd;simpa[SV.cM]using this) p k hk;by_cases w:(V.agg Y).closed=true;rw[eZ _ _ w];simp only[V.closed]at w;rw[ya C w];unfold borrow;rw[M' w];simp only[C,A?]
def l8{fr:ST}(B:∀d∈fr,∀e ob,bk m e=M ob->ob.cM d=O)(g:∀d ob,bk m d=M ob->d∉fr->c8 ν m H1 Z d ob):
 ∀(n:Nat)(m?:Rd)(xs ys:So),dy m n m?=M xs->(∀d∈fr,SV.dK d m?=O)->cn ν m H1 Z m? ys->∀k,V.nq k xs=U->jI (borrow k H1) ys=M xs
 |n,[],xs,ys,h,D,r,k,hk=>by simp only[dy,ζa]at h;subst h;rw[r.cW];rfl|n,sv::m?,xs,ys,h,D,r,k,hk=>by simp only[dy]at h;split at h;rename_i y s a T;simp only[ζa]at h;subst h;obtain⟨i,G,rfl,r1,r2⟩:=r.inv;simp only[V.nq,ζh]at hk;have u:=NM B g n sv y i a (λd hd=>by have:=D d hd;simp only[SV.dK,i!]at this;exact this.1) r1 k hk.1;have w:=l8 B g n m? s G T (λd hd=>by have:=D d hd;simp only[SV.dK,i!]at this;exact this.2) r2 k hk.2;simp only[jI,u,w];simp at h
end
end
def Wm(n:Nat):V.nq n []=U:=by cases n<;>rfl
def Su(n:Nat)(x:V)(r:So):V.nq n (x::r)=(V.lvl n x&&V.nq n r):=by cases n<;>rfl
mutual
def He:∀{n:Nat}{x:V},V.lvl n x=U->V.lvl (n+1) x=U
 |0,.fsl ..,h=>by simp[V.lvl]at h|0,.fptr ..,h=>by simp[V.lvl]at h|0,.fmap ..,h=>by simp[V.lvl]at h|0,.agg ..,h=>by simp[V.lvl]at h|0,.tup ..,h=>by simp[V.lvl]at h|0,.clo ..,h=>by simp[V.lvl]at h|n+1,.fsl es xs,h=>by simp only[V.lvl]at h⊢;exact EP h|n+1,.fptr cs,h=>by simp only[V.lvl]at h⊢;exact vf h|n+1,.fmap B,h=>by simp only[V.lvl]at h⊢;exact HW h|n+1,.agg cs,h=>by simp only[V.lvl]at h⊢;exact vf h|n+1,.tup cs,h=>by simp only[V.lvl]at h⊢;exact vf h|n+1,.clo f a b,h=>by simp only[V.lvl,ζh]at h⊢;exact⟨vf h.1,vf h.2⟩|0,.bool _,_|0,.int ..,_|0,.str _,_|0,.jt,_|0,.iE,_|0,.uO,_|0,.dH,_|0,.bN,_|0,.hsl ..,_|0,.hptr ..,_|0,.yld _,_|0,.hmap _,_=>rfl|_+1,.bool _,_|_+1,.int ..,_|_+1,.str _,_|_+1,.jt,_|_+1,.iE,_|_+1,.uO,_|_+1,.dH,_|_+1,.bN,_|_+1,.hsl ..,_|_+1,.hptr ..,_|_+1,.yld _,_|_+1,.hmap _,_=>rfl
def vf:∀{n:Nat}{x:So},V.nq n x=U->V.nq (n+1) x=U
 |n,[],_=>Wm _|n,a::l,h=>by rw[Su,ζh]at h⊢;exact⟨He h.1,vf h.2⟩
def EP:∀{n:Nat}{x:S'},V.rU n x=U->V.rU (n+1) x=U
 |n,[],_=>by simp only[V.rU]|n,a::l,h=>by simp only[V.rU,ζh]at h⊢;exact⟨vf h.1,EP h.2⟩
def HW:∀{n:Nat}{x:aX (V×V)},V.vR n x=U->V.vR (n+1) x=U
 |n,[],_=>by simp only[V.vR]|n,(k,v)::l,h=>by simp only[V.vR,ζh]at h⊢;exact⟨⟨He h.1.1,He h.1.2⟩,HW h.2⟩
end
def A2{n m:Nat}(h:n<=m){x:V}(B:V.lvl n x=U):V.lvl m x=U:=by induction h with|refl=>exact B|step _ u=>exact He u
def rN{n m:Nat}(h:n<=m){x:So}(B:V.nq n x=U):V.nq m x=U:=by induction h with|refl=>exact B|step _ u=>exact vf u
def Vw{n m:Nat}(h:n<=m){x:S'}(B:V.rU n x=U):V.rU m x=U:=by induction h with|refl=>exact B|step _ u=>exact EP u
def YH{n m:Nat}(h:n<=m){x:aX (V×V)}(B:V.vR n x=U):V.vR m x=U:=by induction h with|refl=>exact B|step _ u=>exact HW u
mutual
def C9:∀x:V,∃n,V.lvl n x=U
 |.fsl es xs=>let⟨n,h⟩:=Mw xs;⟨n+1,by simp only[V.lvl];exact h⟩|.fptr cs=>let⟨n,h⟩:=og cs;⟨n+1,by simp only[V.lvl];exact h⟩|.fmap u=>let⟨n,h⟩:=OJ u;⟨n+1,by simp only[V.lvl];exact h⟩|.agg cs=>let⟨n,h⟩:=og cs;⟨n+1,by simp only[V.lvl];exact h⟩|.tup cs=>let⟨n,h⟩:=og cs;⟨n+1,by simp only[V.lvl];exact h⟩|.clo f a b=>let⟨n,h⟩:=og a;let⟨m,k⟩:=og b;⟨max n m+1,by simp only[V.lvl,ζh];exact⟨rN (l! _ _) h,rN (j! _ _) k⟩⟩|.bool _|.int ..|.str _|.jt|.iE|.uO|.dH|.bN|.hsl ..|.hptr ..|.yld _|.hmap _=>⟨0,Y⟩
def og:∀x:So,∃n,V.nq n x=U
 |[]=>⟨0,by simp only[V.nq]⟩|a::l=>let⟨n,h⟩:=C9 a;let⟨m,k⟩:=og l;⟨max n m,by simp only[V.nq,ζh];exact⟨A2 (l! _ _) h,rN (j! _ _) k⟩⟩
def Mw:∀x:S',∃n,V.rU n x=U
 |[]=>⟨0,by simp only[V.rU]⟩|a::l=>let⟨n,h⟩:=og a;let⟨m,k⟩:=Mw l;⟨max n m,by simp only[V.rU,ζh];exact⟨rN (l! _ _) h,Vw (j! _ _) k⟩⟩
def OJ:∀x:aX (V×V),∃n,V.vR n x=U
 |[]=>⟨0,by simp only[V.vR]⟩|(a,b)::l=>let⟨n,h⟩:=C9 a;let⟨m,k⟩:=C9 b;let⟨q,p⟩:=OJ l;⟨max n (max m q),by simp only[V.vR,ζh];exact⟨⟨A2 c? h,A2 c? k⟩,YH c? p⟩⟩
end
section
variable{Rv:Nat->Prop}{ν ν':Nu}{Z Z':Nat->Prop}{st e?:St}{m m':Tb bE}{F F':WP}{H H' H1:bl}{N:Nat->Y'}{S:Sys}{c:cg}
def Nb:∀(l:Rd)(i s:Nat)(sv:SV),bk (yf i l) s=M sv->∃j,s=i+j/\l[j]?=M sv
 |[],i,s,sv,h=>by simp[yf,bk]at h|x::l,i,s,sv,h=>by simp only[yf,bk]at h;split at h;(next e=>simp only[ζa]at h;subst h;exact⟨0,c?,Y⟩);have⟨j,a,B⟩:=Nb l (i+1) s sv h;exact⟨j+1,c?,by simpa using B⟩
def AB{m?:Rd}{args:So}(h:cn ν m H Z m? args):∀s sv,bk (yf 0 m?) s=M sv->cV ν m H Z sv (get args s):=λs sv u=>by obtain⟨j,rfl,w⟩:=Nb m? 0 s sv u;have⟨y,z,r⟩:=h.get w;rw[Nat.zero_add,MV args j y z];exact r
def Dh{az:So}(a:V.cT az=U):R ⟨λ_=>(0,0),λ_ _=>0⟩ (λ_=>False) (start (az.map .v) []) az []/\cn ⟨λ_=>(0,0),λ_ _=>0⟩ [] [] (λ_=>False) (az.map .v) az:=by have h:cn ⟨λ_=>(0,0),λ_ _=>0⟩ [] [] (λ_=>False) (az.map .v) az:=cn.tv (dB.same a);refine⟨⟨AB h,λd ob hd=>by simp[start,bk]at hd,λd w ob u j z hd=>by simp[start,bk]at hd,λd ob j hd=>by simp[start,bk]at hd,λid h=>h.elim,⟨λid es B h=>h.elim⟩⟩,h⟩
def JX{xs ys:So}(h:dB H Z xs ys):((result xs).scalar=U->result ys=result xs)/\(result ys).scalar=(result xs).scalar:=by cases xs with|nil=>rw[h.cW];exact⟨λ_=>rfl,rfl⟩|cons x xs=>obtain⟨y,ys,rfl,a,u⟩:=h.inv;cases xs with|nil=>rw[u.cW];exact a.scalar|cons x2 xs=>obtain⟨w,ys,rfl,z,B⟩:=u.inv;exact FR.scalar (.tup _ _ h.1 h.2)
def EV(g:j7 S c){f:Y'}{az ys:So}{rs:Rd}{m':dF}(i:V.cT az=U)(h:c f (az.map .v) []=M (rs,m'))(o:dy m' 8 rs=M ys):
 ∃n r H2,(∀k,n<=k->run S.E k (.fn f) az []=M (r,H2))/\(∀k,n<=k->borrow k H2 r=M (result ys))/\(result ys).good=U:=by
 have⟨P,r1⟩:=Dh i;obtain⟨n,y,H2,ν',Z',e?,F',B,m,rfl,X,t,Q,_⟩:=g f _ _ _ _ h _ _ az [] (.inr Y) P r1;subst X;have C:=pM Q.obj 8 rs ys B o t;have⟨L,T⟩:=og ys;refine⟨max n (L+1),result B,H2,λk e=>(qy S.E (W? (l! ..) e)).go _ _ _ _ m,λk e=>?_,?_⟩
 .have w:=l8 (fr:=[]) (λd hd=>by simp at hd) (λd ob hd _=>Q.obj d ob hd) 8 rs _ _ o (λd hd=>by simp at hd) t
  obtain⟨k,rfl⟩:∃j,k=j+1:=⟨k-1,c?⟩
  have q:=w k (rN c? T)
  have A:=w (k+1) (rN c? T)
  have⟨e1,e2⟩:=kn A
  cases B with
  |nil=>obtain rfl:=List.eq_nil_of_length_eq_zero e1;exact eZ _ H2 Y|cons z B=>
   cases B with
   |nil=>
    obtain⟨y,rfl⟩:∃y,ys=[y]:=by cases ys with|nil=>simp at e1|cons y l=>cases l with|nil=>exact⟨y,rfl⟩|cons _ _=>simp at e1
    have⟨x,Z,G⟩:=e2 0 y Y;cases Z;exact G
   |cons z2 B=>
    obtain⟨y,D,l,rfl⟩:∃y D l,ys=y::D::l:=by cases ys with|nil=>simp at e1|cons y l=>cases l with|nil=>simp at e1|cons D l=>exact⟨y,D,l,Y⟩
    by_cases u:(V.tup (z::z2::B)).closed=U
    .simp only[result];rw[eZ _ _ u];simp only[V.closed]at u;rw[ya q u]
    simp only[result];unfold borrow;rw[M' u];simp only[q,A?]
 have:∀{l:So},V.cT l=U->(result l).good=U:=by
  intro l I
  cases l with
  |nil=>rfl|cons a l=>cases l with
   |nil=>simp only[V.cT,ζh]at I;exact I.1|cons b l=>simp only[result,V.good];exact I
 exact this C
theorem Hu {f:FuncId} {args az:aX V} {y r:V} {H2:bl} {n:Nat} (hr:∀k,n<=k->run S.E k (.fn f) az []=some (r,H2)) (D:∀k,n<=k->borrow k H2 r=some y) (hg:y.good=true) {B:Nat} (G:∀k,B<=k->borrows k H args=some az) :
 ∀k,max n B<=k->cq (run S.E k) f args H=some y:=λk hk=>by
 unfold cq;simp only[qG,G k c?,hr k c?,D k c?,V.od hg,N']
def uk(B:∀id,Z id->(bt H id).isSome=U){T:ST}{id:Nat}(h:Z id):bt (cU H T) id=bt H id:=by
 have:=B id h;unfold bt at this⊢;rw[jZ];cases u:H[id]?with|none=>rw[u]at this;simp at this|some ob=>
  rw[u]at this;simp only[A?,ζb];by_cases e:id∈T
  .rw[L' e];cases ob<;>first|rfl|simp[Ob.rows]at this
  rw[M' e]
def w6{T:ST}{id:Nat}(h:id∉T):(cU H T)[id]?=H[id]?:=by rw[jZ];cases H[id]?<;>simp[h]
def CP{az:So}{args:Rd}{ys:So}(B:∀d ob,bk m d=M ob->c8 ν m H Z d ob)(h:dy m 8 args=M az)(r:cn ν m H Z args ys):V.cT az=U:=pM B 8 args az ys h r
def Aq{az:So}{args:Rd}{ys:So}(r:R ν Z st F H)(B:cn ν st.m H Z args ys)(h:dy st.m 8 args=M az):∃n,∀k,n<=k->borrows k H ys=M az:=
 let⟨n,u⟩:=og az
 ⟨n,λk a=>l8 (fr:=[]) (λd hd=>p?) (λd ob hd _=>r.obj d ob hd) 8 args az ys h (λd hd=>p?) B k (rN a u)⟩
def pV{b id:Nat}(h:id<b):bt (H.take b) id=bt H id:=by grind[bt]
def P8{b:Nat}{fr:ST}{az:So}{args:Rd}{ys:So}(r:R ν Z st F H)(B:cn ν st.m H Z args ys)(h:dy st.m 8 args=M az)
 (D:∀d ob j,bk st.m d=M ob->ob.pt j=U->d∉fr->ν.at d j<b)(G:∀id,Z id->id<b)(a:gb st.m fr args=U):∃n,∀k,n<=k->borrows k (H.take b) ys=M az:=by
 have⟨n,w⟩:=og az;refine⟨n,λk f=>?_⟩
 unfold gb at a;have c:∀d∈fr,SV.dK d args=O/\vk d st.m=O:=λd hd=>by grind
 have u:∀id,Z id->Z id/\bt (H.take b) id=bt H id:=λid h=>⟨h,pV (G id h)⟩
 refine l8 (λd hd e ob z=>uq (c d hd).2 z) (λd ob hd C=>?_) 8 args az ys h (λd hd=>(c d hd).1) (B.mono u λe _=>ko ν st.m e) k (rN f w)
 exact c8.mono u Y (λj I=>List.getElem?_take_of_lt (D d ob j hd I C)) (λe _=>ko ν st.m e) (r.obj d ob hd)
def OL(hS:j7 S c){ops:QP}{place:aY (Nat×Nat)}{dr N:X'}{fr:ST}(ad:dr=place.isSome)(aa:∀b i,place=M (b,i)->N=U->dY ops i=U)
 (e:∀b i,place=M (b,i)->(∀d ob j,bk st.m d=M ob->ob.pt j=U->d∉fr->ν.at d j<b)/\∀id,Z id->id<b)
 (r:R ν Z st F H){args:Rd}{ys:So}(g:cn ν st.m H Z args ys){f:Y'}(s:mR S.E ops place f=O){az:So}(t:dy st.m 8 args=M az)(a:(!dr||N)=U\/gb st.m fr args=U)
 {rs:Rd}{m':dF}{G:So}(v:c f (az.map .v) []=M (rs,m'))(Y:dy m' 8 rs=M G)(c__:(result G).scalar=U\/(c6 args).isSome=U):
 ∃n H',(∀k,n<=k->eE S.E (run S.E k) ops place f ys H=M (result G,H'))/\R ν Z st F H'/\cV ν st.m H' Z (.v (result G)) (result G)/\Ev Rv ν Z st H ν Z st H':=by
 have hg:=CP r.obj t g;have⟨A,rr,H2,l,P,E⟩:=EV hS hg v Y;have⟨n2,hb⟩:=Aq r g t;have I:=Hu l P E hb;generalize hn:max A n2=n at I;have ab:=I;have af:∀k,n<=k->c_ (cA k H) ys=c_ (cA n H) ys:=λk s=>BU s (hb n c?)
 have C:∀{H'},cV ν st.m H' Z (.v (result G)) (result G):=.v _ _ (.same _ E);have B:∀T:ST,(∀id∈T,Z id)->R ν Z st F (cU H T)/\Ev Rv ν Z st H ν Z st (cU H T):=λT d__=>
  ⟨r.heap (λid ho=>w6 λw=>by obtain⟨d,ob,j,g1,g2,rfl⟩:=ho;exact r.apart d ob j g1 g2 (d__ _ w)) (λid w=>uk r.zrow w),
   Ev.heap (by rw[nG];grind) (λid _ _ Y _=>w6 λw=>Y (d__ id w)) (λid w=>uk r.zrow w)⟩
 have b__:(c6 args).isSome=U->(∀id∈c_ (cA n H) ys,Z id)/\True:=λQ=>by
  have⟨xs,Q⟩:=isSome_iff_exists.1 Q;have m:=g.c6 Q;exact⟨λid w=>by
   have⟨j,u,o,W⟩:=sA w;have K:j<_l xs:=by rw[m.1];grind
   exact FR.cA r.deep n (m.2 j _ u (ζd K) o) id W,trivial⟩
 cases place with
 |none=>
  by_cases z:(result G).scalar=U
  .exact⟨n,H,λk D=>by grind[eE],r,C,.refl⟩
  obtain⟨d__,-⟩:=b__ (c__.resolve_left z);have⟨p,q⟩:=B _ d__;exact⟨n,cU H (c_ (cA n H) ys),λk D=>by grind[eE,qG],p,C,q⟩
 |some bi=>
  have⟨b,i⟩:=bi;have⟨o1,o2⟩:=e b i _k;have ah:=ad;have fits:∀k,cq (run S.E k) f ys (H.take b)=M (result G)->(result G).scalar=O->kg (H.take b) (c_ (cA k (H.take b)) ys)=U/\c_ (cA k H) ys=c_ (cA k (H.take b)) ys:=λk _ ai=>by have⟨xs,Q⟩:=isSome_iff_exists.1 (c__.resolve_left h?);have m:=g.c6 Q;have L:∀id,Z id->Z id/\bt (H.take b) id=bt H id:=λid h=>⟨h,pV (o2 id h)⟩;have hd:Deep (H.take b) Z:=⟨λid es ys Y hr c v u o=>by rw[(L id Y).2]at hr;have⟨x,Q⟩:=r.deep.row id es ys Y hr c v u o;exact⟨x,Q.mono L⟩⟩;have a__:∀id∈c_ (cA k (H.take b)) ys,Z id:=λid w=>(by have⟨j,u,o,W⟩:=sA w;have K:j<_l xs:=(by rw[m.1];grind);exact FR.cA hd k ((m.2 j _ u (ζd K) o).mono L) id W);refine⟨?_,xC _ λid w=>o2 id (a__ id w)⟩;unfold kg;rw[O?];intro id w;have l:=r.zrow id (a__ id w);rw[<-(L id (a__ id w)).2]at l;exact l
  rcases a with a|a
  .have aj:=aa b i _k h?
   by_cases z:(result G).scalar=U
   .refine⟨n,H,λk D=>?_,r,C,.refl⟩
    grind[eE,sR]
   obtain⟨d__,-⟩:=b__ (c__.resolve_left z);have⟨p,q⟩:=B _ d__;refine⟨n,cU H (c_ (cA n H) ys),λk D=>?_,p,C,q⟩
   simp only[eE,s,qG,v?,_a];split
   next y hy=>have h9:=sR hy;rw[ab k D]at h9;grind
   grind
  have⟨n3,ae⟩:=P8 r g t o1 o2 a;have X:=Hu l P E ae
  by_cases z:(result G).scalar=U
  .refine⟨max A n3,H,λk D=>?_,r,C,.refl⟩
   grind[eE]
  obtain⟨d__,-⟩:=b__ (c__.resolve_left z);have⟨p,q⟩:=B _ d__;refine⟨max n (max A n3),cU H (c_ (cA n H) ys),λk D=>?_,p,C,q⟩
  simp only[eE,s,qG,v?,_a];have h9:=X k c?
  grind
theorem JJ{α:Type}{k:Nat}{v:α}:∀{ds:ST}{g:Tb α},bk (ql ds g) k=M v->k∉ds
 |[],_,_=>f?|d::ds,g,h=>by have a:=JJ (ds:=ds) h;have u:=(mN (qZ h)).1;grind
theorem yY:∀{args:aX SV} {ds:aX Nat},rowsOf m args=some ds->(∀d∈ds,∃k es xs,bk m d=some (.sl k es xs))/\∀(j:Nat) u,args[j]? = some u->(∃x,u=.v x)\/∃d,u=.own d/\d∈ds
 | [],_,h=>by cases h;simp
 | .v x::r,ds,h=>by
  obtain⟨h1,B⟩:=yY (args:=r) (by simpa [rowsOf]using h)
  refine⟨h1,λj u hu=>?_⟩
  cases j with
  | zero=>grind
  | succ j=>exact B j u h?
 | .own d::r,ds,h=>by
  simp only[rowsOf]at h;split at h
  .rename_i k es xs hd;obtain⟨z,h1,rfl⟩:=ζf.1 h;obtain⟨g1,g2⟩:=yY h1;refine⟨λw hd'=>?_,λj u hu=>?_⟩
   .rcases List.mem_cons.1 hd' with rfl|hd'
    .exact⟨_,_,_,hd⟩
    exact g1 w hd'
   cases j with
   | zero=>grind
   | succ j=>
    rcases g2 j u h? with k|⟨w,k1,k2⟩
    all_goals grind
  cases h
 | .ptr ..::_,_,h|.el ..::_,_,h|.mp _::_,_,h|.clo ..::_,_,h|.tup _::_,_,h|.agg _::_,_,h|.yl _::_,_,h=>by simp[rowsOf]at h
def Es{H0:bl}(hd:Deep H0 Z)(A:∀d ob,bk m d=M ob->eM ob=U->(H0[(ν d).1]?).isSome=U->ob.flat->c8 ν m H0 Z d ob){args:Rd}{ys:So}(T:cn ν m H0 Z args ys){ds:ST}(f:rowsOf m args=M ds)
 {q id:Nat}(h:id∈c_ (cA q H0) ys):Z id\/∃d ob,d∈ds/\bk m d=M ob/\eM ob=U/\(ν d).1=id/\∃j es off len:Nat,ys[j]?=M (V.hsl id es off len):=by
 have⟨j,y,P,a⟩:=sA h;have Q:j<_l args:=by rw[T.1];grind
 have b:=ζd Q;have C:=T.2 j _ y b P;rcases(yY f).2 j _ b with⟨x,e⟩|⟨d,e,G⟩
 .rw[e]at C;cases C with|v _ _ hf=>grind[FR.cA]
 rw[e]at C;have⟨k,es,D,B⟩:=(yY f).1 d G;obtain⟨_,_,_,S,rfl⟩:=C.iK B;cases S
 by_cases w:b7 k=U
 .cases q with
  |zero=>grind[cA]|succ q=>
  have I:qA (ν d) k es (_l D)=.hsl (ν d).1 es (ν d).2 (_l D):=by cases k<;>first|rfl|cases w
  rw[I]at a;have W:eM (.sl k es D)=U:=w
  by_cases z:(H0[(ν d).1]?).isSome=U
  .have o:=A d _ B W z (lB f?)
   simp[c8,w]at o;have⟨n,g,_,_,X,_⟩:=o;simp only[cA,V.closed,v?,_a,g,n8]at a;rcases a with rfl|a
   .grind
   have⟨i,u,b,Y⟩:=sA a;have⟨c,l,t⟩:=List.mem_flatten.1 (s? b);have⟨x,p⟩:=X c (List.mem_of_mem_drop (List.mem_of_mem_take l)) u t
   grind[FR.cA]
  grind[cA]
 have L:(qA (ν d) k es (_l D)).closed=U:=by cases k<;>first|rfl|(exact _e _k w)
 rw[De q H0 L]at a;cases a
theorem YZ (hS:j7 S c) {ops:aX Oper} {place:aY (Nat×Nat)} {nw:Bool} (ai:∀b i,place=some (b,i)->nw=true->dY ops i=true)
 (hold:∀b i,place=some (b,i)->∀id,Z id->id<b)
 (r:R ν Z st F H) {args:aX SV} {ys:aX V} (o:cn ν st.m H Z args ys) {f:FuncId} (hk:S.E.keep f=false) {az:aX V} (hs:dy st.m 8 args=some az) (aj:(!place.isSome||nw)=true)
 {rs:aX SV} {m':dF} {D:aX V} (hc:c f (az.map .v) []=some (rs,m')) (g:dy m' 8 rs=some D) (ak:(result D).scalar=false) {ds:aX Nat} (hr:rowsOf st.m args=some ds) :
 ∃n H',(∀k,n<=k->eE S.E (run S.E k) ops place f ys H=some (result D,H'))/\R ν Z { st with m:=ql ds st.m } F H'/\cV ν (ql ds st.m) H' Z (.v (result D)) (result D)/\Ev Rv ν Z st H ν Z { st with m:=ql ds st.m } H':=by
 have hg:=CP r.obj hs o;obtain⟨n1,rr,H2,h1,h2,h3⟩:=EV hS hg hc g;obtain⟨n2,W⟩:=Aq r o hs;have B:=Hu h1 h2 h3 W;generalize hn:max n1 n2=n at B;have I:=B;have al:∀k,n<=k->c_ (cA k H) ys=c_ (cA n H) ys:=λk hk=>BU hk (W n c?)
 have L:∀{H'},cV ν (ql ds st.m) H' Z (.v (result D)) (result D):=.v _ _ (.same _ h3);have z:∀d ob,bk (ql ds st.m) d=some ob->bk st.m d=some ob:=λd ob h=>qZ h
 have hT:∀id∈c_ (cA n H) ys,Z id\/∃d ob,d∈ds/\bk st.m d=some ob/\eM ob=true/\(ν d).1=id/\∃j es off len:Nat,ys[j]? = some (V.hsl id es off len):=λid w=>Es r.deep (λd ob h _ _ _=>r.obj d ob h) o hr w
 have r2  := r.less (λ_ _ h=>h) z
 have q1  := r2.heap (λid X=>w6 λw=>by
  obtain⟨d,ob,j,g1,g2,rfl⟩:=X;rcases hT _ w with h|⟨Y,G,k1,k2,k3,k4,_⟩
  .exact r.apart d ob j (z d ob g1) g2 h
  have:=(r.inj Y d G ob 0 j k2 (z d ob g1) k3 g2 k4).1
  grind[JJ]) (λid w=>uk r.zrow w)
 have q2:Ev Rv ν Z st H ν Z { st with m:=ql ds st.m } (cU H (c_ (cA n H) ys)):=(Ev.heap (by rw[nG];grind) (λid _ X g _=>w6 λw=>by
  rcases hT _ w with h|⟨Y,G,k1,k2,k3,k4,_⟩
  .simp_all
  exact X ⟨Y,G,0,k2,k3,k4⟩) (λid w=>uk r.zrow w)).trans (Ev.less  z)
 cases place with
 | none=>exact⟨n,cU H (c_ (cA n H) ys),λk q=>by grind[eE,mR,qG],q1,L,q2⟩
 | some bi=>
  obtain⟨b,i⟩:=bi;have o2:=hold b i rfl;have fits:∀k,cq (run S.E k) f ys (H.take b)=some (result D)->kg (H.take b) (c_ (cA k (H.take b)) ys)=true/\c_ (cA k H) ys=c_ (cA k (H.take b)) ys:=λk hi=>by
   have C:∀id,Z id->Z id/\bt (H.take b) id=bt H id:=λid h=>⟨h,pV (o2 id h)⟩
   have hd:Deep (H.take b) Z:=⟨λid es ys g hr c hc u hu=>by
    rw[(C id g).2]at hr;obtain⟨x,hx⟩:=r.deep.row id es ys g hr c hc u hu;exact⟨x,hx.mono C⟩⟩
   have aa  := o.mono C λe _=>ko ν st.m e
   have ab:∀d ob,bk st.m d=some ob->eM ob=true->((H.take b)[(ν d).1]?).isSome=true->ob.flat->c8 ν st.m (H.take b) Z d ob:=λd ob h W ad ae=>
    c8.mono C rfl (λj hj=>by
     have:=ae j hj;subst this;simp only[Nu.at]
     grind) (λe _=>ko ν st.m e) (r.obj d ob h)
   have Q:∀(j:Nat) (y:V),ys[j]? = some y->(borrow k (H.take b) y).isSome=true:=λj y T=>by
    unfold cq at hi;rw[qG]at hi;split at hi
    .rename_i af ah;obtain⟨_,hm⟩:=kn ah;have hj:=(ζe.1 T).1;obtain⟨x,am,an⟩:=hm j _ (ζd (show j<af.length by omega))
     grind
    cases hi
   have hZ:∀id∈c_ (cA k (H.take b)) ys,id<b/\(bt (H.take b) id).isSome=true:=λid w=>by
    rcases Es hd ab aa hr w with h|⟨d,ob,k1,k2,k3,k4,j,es,off,len,T⟩
    .have:=r.zrow id h
     grind
    have ao:=Q j _ T
    cases k with
    | zero=>grind[borrow,V.closed]
    | succ k=>
    grind[borrow,V.closed,bt]
   refine⟨?_,xC _ λid w=>(hZ id w).1⟩
   unfold kg;rw[List.all_eq_true];exact λid w=>(hZ id w).2
  refine⟨n,cU H (c_ (cA n H) ys),λk q=>?_,q1,L,q2⟩
  simp only[eE,mR,hk,qG,Bool.false_and,Bool.false_eq_true,_a];split
  next y T=>have h9:=sR T;rw[I k q]at h9;grind
  grind
def N1{xs ys:S'}(h:gM H Z xs ys)(B:nU xs=U):ys=xs:=by
 refine(List.ext_getElem h.1 λj a z=>?_).symm;have:=h.2 j _ _ (ζd a) (ζd z);have w:=by unfold nU at B;rw[O?]at B;have:=B _ (List.getElem_mem a);rw[O?]at this;exact tV.2 λk u b=>this u (s? b)
 exact(this.scalar.1 w).symm
def GO:∀{B:ST}{os:Tb bE}{g:Tb bE},lR g B=M os->∀k ob,bk os k=M ob->bk g k=M ob
 |[],os,g,h,k,ob,hk=>by grind[lR,bk]|n::r,os,g,h,k,ob,hk=>by simp only[lR]at h;split at h;rename_i v t a D;cases h;simp only[bk]at hk;split at hk;grind;exact GO D k ob hk;cases h
def Nn{args:Rd}{os:dF}(h:handed m args=M os):∀k ob,bk os k=M ob->bk m k=M ob:=GO h
mutual
def Vs{d:Nat}:∀{x:SV},x.cM d=U->d∈x.CD
 |.v _,h=>by simp[SV.cM]at h|.own e,h|.ptr e _,h|.el e _ _,h|.mp e,h=>by simp[SV.cM]at h;simp[SV.CD,h]|.clo _ a b,h=>by simp only[SV.cM,q!]at h;simp only[SV.CD,List.mem_append];rcases h with h|h;exact .inl (xI h);exact .inr (xI h)
 |.tup l,h|.agg l,h=>by simp only[SV.cM]at h;simp only[SV.CD];exact xI h|.yl _,h=>by simp[SV.cM]at h
def xI{d:Nat}:∀{l:Rd},SV.dK d l=U->d∈SV.um l
 |[],h=>by simp[SV.dK]at h|x::r,h=>by simp only[SV.dK,q!]at h;simp only[SV.um,List.mem_append];rcases h with h|h;exact .inl (Vs h);exact .inr (xI h)
end
def NX{D:ST}{ob:bE}(h:within D ob=U){e:Nat}(B:ob.cM e=U):e∈D:=by cases ob with|box cs=>unfold within at h;rw[O?]at h;simpa using h e (xI B)|sl k es u=>grind[bE.cM]|mp z=>grind[bE.cM]|dp k u w=>rcases w with _|⟨i,t⟩;cases B;simp only[bE.cM,_i]at B;subst B;simpa[within,bE.CD]using h
def GZ{B:ST}:∀{l:ST}{a b:Tb bE},Bp B m' l a=M b->(∀k∈l,bk b k=bk m' k/\∃ob,bk m' k=M ob/\within B ob=U)/\∀k,k∉l->bk b k=bk a k
 |[],a,b,h=>by grind[Bp]|d::r,a,b,h=>by simp[Bp]at h;split at h;rename_i ob D;split at h;rename_i hp;have⟨e,G⟩:=GZ h;refine⟨λk c=>?_,λk c=>?_⟩;grind[cu];simp_all[cK,Ne.symm];grind;grind
def JU{l:ST}{a b:Tb bE}(h:lY m' l a=M b):(∀k∈l,bk b k=bk m' k/\∃ob,bk m' k=M ob/\within l ob=U)/\∀k,k∉l->bk b k=bk a k:=GZ h
theorem mem_keys:∀{os:dF}{k:Nat},k∈os.map (·.1)↔∃ob,bk os k=M ob
 |[],k=>by simp[bk]|(d,o)::os,k=>by simp[bk];by_cases e:d=k;simp_all;rw[M' e,<-mem_keys];grind
def wK:∀{l:Rd}{j:Nat}{u:SV},SV.Al l=U->l[j]?=M u->u.bare=U
 |[],j,u,h,B=>by simp at B|x::r,j,u,h,B=>by simp only[SV.Al,ζh]at h;cases j with|zero=>grind|succ j=>exact wK h.2 (by simpa using B)
theorem cV.bare {Z2:Nat->Prop} {sv:SV} {y:V} (r:cV ν m H Z sv y):sv.bare=true->cV ν m H Z2 sv y:=by
 induction r with
 | v x y h=>
  intro z;have z:x.scalar=true:=z;rw[(h.scalar.1 z)];exact .v _ _ (.same _ (lM z))
 | own d y h=>intro _;exact .own d y h
 | ptr d o y h=>intro _;exact .ptr d o y h
 | el d i o y h=>intro _;exact .el d i o y h
 | mp d y h=>intro _;exact .mp d y h
 | clo f a b B G C z hva I w D=>
  intro h;simp only[SV.bare,ζh]at h;exact .clo f a b B G C z (λj u v hu hv=>w j u v hu hv (wK h.1 hu)) λj u v hu hv=>D j u v hu hv (wK h.2 hu)
 | tup a B C hva w=>intro h;exact .tup a B C λj u v hu hv=>w j u v hu hv (wK h hu)
 | agg a B C hva w=>intro h;exact .agg a B C λj u v hu hv=>w j u v hu hv (wK h hu)
 | yl id=>intro _;exact .yl id
def c8.bare{Z2:Nat->Prop}{d:Nat}{ob:bE}(B:∀e,ν' e=ν e)(h:ob.bare=U)(o:c8 ν m H Z d ob):c8 ν' m H Z2 d ob:=by cases ob with|box cs=>have⟨es,w,b,C,D⟩:=o;exact⟨es,w,by rw[B];exact b,⟨C.1,λj u v a c=>((C.2 j u v a c).bare (Z2:=Z2) (wK h a)).mono (λid h=>⟨h,rfl⟩) λe _ z h=>⟨z,h,B e,.refl _⟩⟩,D⟩|sl k es I=>cases h|mp G=>cases h|dp _ _ _=>cases h
def zY(hS:j7 S c){f:Y'}(ar:S.E.keep f=U)(r:R ν Z st F H){args:Rd}{ys:So}(ha:cn ν st.m H Z args ys){os:dF}(hh:handed st.m args=M os)
 {rs:Rd}{m':dF}{T:Tb bE}(hc:c f args os=M (rs,m'))(p:lY m' (os.map (·.1)) st.m=M T):
 ∃n H' c__ Z' b__ F1 E ν2,(∀k,n<=k->run S.E k (.fn f) ys H=M (result E,H'))/\b__.m=m'/\cn c__ m' H' Z' rs E/\R c__ Z' b__ F1 H'/\(∀e ob,bk m' e=M ob->e∉os.map (·.1)->eM ob=U->¬fN ν2 T (c__ e).1/\(fN ν st.m (c__ e).1\/_l H<=(c__ e).1))/\(∀e,ν2 e=ν e)/\
  R ν2 Z' {st with m:=T} F H'/\Ev Rv ν Z st H ν2 Z' {st with m:=T} H'/\(∀e l?,bk T e=M l?->∃ob,bk st.m e=M ob/\ν e=ν e/\sameShape ob l?)/\
  ((∀k∈os.map (·.1),AM T k=U)->R ν Z {st with m:=T} F H'/\Ev Rv ν Z st H ν Z {st with m:=T} H'/\∀dst,Kept dst ν st.m ν T):=by
 have z:=Nn hh;have al:=ha.mono (λid h=>⟨h,_k⟩) λe _ l? h=>⟨l?,z e l? h,_k,.refl _⟩
 have r0:R ν Z (start args os) ys H:=by refine⟨AB al,λd ob hd=>?_,λd d' ob l? j j' a B=>r.inj d d' ob l? j j' (z d ob a) (z d' l? B),λd ob j h=>r.apart d ob j (z d ob h),r.zrow,r.deep⟩;exact c8.mono (λid h=>⟨h,_k⟩) _k (λ_ _=>rfl) (λe _ l? h=>⟨l?,z e l? h,_k,.refl _⟩) (r.obj d ob (z d ob hd))
 obtain⟨n,y,H',c__,Z',b__,F1,E,e1,rfl,rfl,e2,e3,ev⟩:=hS f args os rs m' hc ν Z ys H (.inl ar) r0 al;have⟨b1,b2⟩:=JU p;have am:∀k l?,k∈os.map (·.1)->bk b__.m k=M l?->∃ob,bk os k=M ob/\c__ k=ν k/\sameShape ob l?:=λk l? l h=>ev.pin k l l? h
 have I:∀id,fN ν os id->fN ν st.m id:=λid⟨k,o,j,a,B,C⟩=>⟨k,o,j,z k o a,B,C⟩
 have L:∀k l?,bk T k=M l?->∃ob,bk st.m k=M ob/\sameShape ob l?/\(k∈os.map (·.1)/\bk b__.m k=M l?/\c__ k=ν k/\within (os.map (·.1)) l?=U\/k∉os.map (·.1)/\l?=ob):=λk l? h=>by by_cases l:k∈os.map (·.1);grind;rw[b2 k l]at h;exact⟨l?,h,.refl _,.inr ⟨l,_k⟩⟩
 have u:∀k ob j,k∉os.map (·.1)->bk st.m k=M ob->ob.pt j=U->H'[ν.at k j]?=H[ν.at k j]?/\¬Z' (ν.at k j)/\¬fN c__ b__.m (ν.at k j):=λk ob j l h D=>by
  have N:¬fN ν os (ν.at k j):=by rintro⟨k2,o2,Q,g1,g2,g3⟩;have:=(r.inj k2 k o2 ob Q j (z k2 o2 g1) h g2 D g3).1;grind[mem_keys]
  have au:=r.lt ⟨k,ob,j,h,D,_k⟩;have av:=r.apart k ob j h D;refine⟨ev.same _ au N av (λh=>h),λaw=>?_,λP=>?_⟩
  .rcases ev.frz _ aw with h|h|h|h;simp_all;exact N h;all_goals grind
  rcases ev.own _ P with h|h|h;exact N h;exact h;have h:_l H<=ν.at k j:=h;omega
 have q:∀e l?,bk T e=M l?->∃ob,bk st.m e=M ob/\ν e=ν e/\sameShape ob l?:=λe l? h=>by grind
 let ν2:Nu:=⟨ν.pl,λk=>if k∈os.map (·.1)then c__.inn k else ν.inn k⟩
 have an:∀k,k∈os.map (·.1)->ν2.inn k=c__.inn k:=λk h=>L' h
 have ad:∀k,k∉os.map (·.1)->ν2.inn k=ν.inn k:=λk h=>M' h
 have W:∀k,k∈os.map (·.1)->c__ k=ν k->∀j,ν2.at k j=c__.at k j:=λk l h j=>by cases j with|zero=>exact _f fst h.symm|succ i=>exact congrFun (an k l) i
 have d__:∀k,k∉os.map (·.1)->∀j,ν2.at k j=ν.at k j:=λk l j=>by cases j with|zero=>rfl|succ i=>exact congrFun (ad k l) i
 have ae:∀b g o1 o2 G Q,bk T b=M o1->bk T g=M o2->o1.pt G=U->o2.pt Q=U->ν2.at b G=ν2.at g Q->b=g/\G=Q:=λb g o1 o2 G Q a B k1 k2 hp=>by have⟨p1,g1,s1,c1⟩:=L b o1 a;have⟨p2,g2,s2,c2⟩:=L g o2 B;rcases c1 with⟨w,X,Y,-⟩|⟨w,rfl⟩<;>rcases c2 with⟨t,v,u3,-⟩|⟨t,rfl⟩;rw[W b w Y,W g t u3]at hp;exact e3.inj b g o1 o2 G Q X v k1 k2 hp;rw[W b w Y,d__ g t]at hp;exact _e ⟨b,o1,G,X,k1,hp⟩ (u g o2 Q t g2 k2).2.2;rw[d__ b w,W g t u3]at hp;exact _e ⟨g,o2,Q,v,k2,hp.symm⟩ (u b o1 G w g1 k1).2.2;rw[d__ b w,d__ g t]at hp;exact r.inj b g o1 o2 G Q g1 g2 k1 k2 hp
 have ao:∀b o1 G,bk T b=M o1->o1.pt G=U->¬Z' (ν2.at b G):=λb o1 G a k1=>by obtain⟨p1,g1,s1,⟨w,X,Y,-⟩|⟨w,rfl⟩⟩:=L b o1 a;rw[W b w Y];exact e3.apart b o1 G X k1;rw[d__ b w];exact(u b o1 G w g1 k1).2.1
 have aa:∀id,id<_l H->¬fN ν st.m id->¬Z id->¬Rv id->H'[id]?=H[id]?:=λid hl P hz _=>ev.same id hl (λh=>P (I id h)) hz (λh=>h)
 have af:∀id,fN ν2 T id->fN ν st.m id\/Rv id\/_l H<=id:=by rintro id ⟨k,o,j,a,B,C⟩;obtain⟨ob,g1,s1,⟨w,X,Y,-⟩|⟨w,rfl⟩⟩:=L k o a;rw[W k w Y]at C;rcases ev.own id ⟨k,o,j,X,B,C⟩with h|h|h;exact .inl (I id h);exact h.elim;exact .inr (.inr h);rw[d__ k w]at C;exact .inl ⟨k,o,j,g1,B,C⟩
 have aj:∀id,Z id->Z id/\bt H' id=bt H id:=λid h=>⟨h,(ev.rows id h).2⟩
 have ah:∀k l?,k∈os.map (·.1)->bk b__.m k=M l?->c__ k=ν k->within (os.map (·.1)) l?=U->c8 ν2 T H' Z' k l?:=λk l? w X Y x=>by refine c8.mono (λid h=>⟨h,_k⟩) Y.symm (λ_ _=>rfl) (λe K ak B=>?_) (e3.obj k l? X) (an k w);have hm:=NX x K;have⟨t,aA,v,_⟩:=b1 e hm;rw[t,v]at B;cases B;have⟨_,_,u4,_⟩:=am e ak hm v;exact⟨ak,v,u4.symm,.refl _⟩
 refine⟨n,H',c__,Z',b__,F1,E,ν2,λk l=>(qy S.E l).go _ _ _ _ e1,_k,e2,e3,λe ob K ax D=>?_,λ_=>rfl,⟨λs sv hs=>(r.slot s sv hs).mono ev.rows λe _=>q e,λk l? h=>?_,ae,ao,e3.zrow,e3.deep⟩,⟨ev.len,aa,ev.rows,af,?_,λe _=>q e,_k⟩,q,λap=>?_⟩
 .have aq:fN c__ b__.m (c__ e).1:=⟨e,ob,0,K,D,_k⟩;refine⟨?_,(ev.own _ aq).imp (I _) λh=>h.elim (λh=>h.elim) λh=>h⟩
  rintro⟨k2,o2,Q,a,B,C⟩;obtain⟨p1,g1,s1,⟨w,X,Y,-⟩|⟨w,rfl⟩⟩:=L k2 o2 a
  .rw[W k2 w Y]at C;have:=(e3.inj k2 e o2 ob Q 0 X K B D C).1;subst this;exact ax w
  rw[d__ k2 w]at C;exact(u k2 o2 Q w g1 B).2.2 (C▸aq)
 .obtain⟨ob,a,B,⟨w,X,Y,x⟩|⟨C,rfl⟩⟩:=L k l? h
  .exact ah k l? w X Y x
  exact c8.mono (ν:=ν) (ν':=ν2) ev.rows _k (λj D=>(u k l? j C a D).1) (λe _=>q e) (r.obj k l? a) (ad k C)
 .intro id h;rcases ev.frz id h with h|h|h|h
  .exact .inl h
  .exact .inr (.inl (I id h))
  all_goals grind
 have A:∀k l? j,bk T k=M l?->l?.pt j=U->ν.at k j=ν2.at k j/\∃ob,bk st.m k=M ob/\sameShape ob l?/\ob.pt j=U:=λk l? j h a__=>by
  obtain⟨ob,a,B,⟨w,X,Y,x⟩|⟨C,rfl⟩⟩:=L k l? h
  .have p:=ap k w;unfold AM at p;rw[h]at p;have ay:∃cs,l?=.box cs:=(by cases l?<;>first|exact⟨_,rfl⟩|cases p);obtain⟨cs,rfl⟩:=ay;have:=lB (ob:=.box cs) f? j a__;subst this;refine⟨_k,ob,a,B,?_⟩;cases ob<;>first|rfl|cases B
  exact⟨(d__ k C j).symm,l?,a,.refl _,a__⟩
 refine⟨⟨λs sv hs=>(r.slot s sv hs).mono aj λe _=>q e,λk l? h=>?_,λb g o1 o2 G Q a B k1 k2 hp=>ae b g o1 o2 G Q a B k1 k2 (by rw[<-(A b o1 G a k1).1,<-(A g o2 Q B k2).1];exact hp),λb o1 G a k1 hz=>ao b o1 G a k1 (by rw[<-(A b o1 G a k1).1];exact(ev.rows _ hz).1),λid h=>by rw[(ev.rows id h).2];exact r.zrow id h,r.deep.mono λid h=>(ev.rows id h).2⟩,
  ⟨ev.len,aa,aj,λid⟨k,o,j,a,B,C⟩=>af id ⟨k,o,j,a,B,by rw[<-(A k o j a B).1];exact C⟩,λid h=>.inl h,λe _=>q e,_k⟩,λdst e l? _ h=>?_⟩
 .obtain⟨ob,a,B,⟨w,X,Y,x⟩|⟨C,rfl⟩⟩:=L k l? h
  .have p:=ap k w;unfold AM at p;rw[h]at p;exact c8.bare (ν:=ν2) (Z:=Z') (λ_=>rfl) p (ah k l? w X Y x)
  exact c8.mono aj _k (λj D=>(u k l? j C a D).1) (λe _=>q e) (r.obj k l? a)
 have⟨ob,a,B,C⟩:=q e l? h;refine⟨ob,a,_k,C,λj a__=>?_⟩
 have⟨_,ak,g1,_,g3⟩:=A e l? j h a__;rw[a]at g1;cases g1;exact⟨g3,_k⟩
def YE(a:j7 S c){f:Y'}(G:S.E.keep f=U)(r:R ν Z st F H){args:Rd}{ys:So}(d:cn ν st.m H Z args ys){os:dF}(T:handed st.m args=M os)
 {rs:Rd}{m':dF}{B:So}{D:Tb bE}(b:c f args os=M (rs,m'))(g:c6 rs=M B)(i:lY m' (os.map (·.1)) st.m=M D):
 ∃n y H' ν' Z',(∀k,n<=k->run S.E k (.fn f) ys H=M (y,H'))/\R ν' Z' {st with m:=D} F H'/\cV ν' D H' Z' (.v (result B)) y/\Ev Rv ν Z st H ν' Z' {st with m:=D} H':=by
 have⟨n,H',h,Z',C,F1,w,ν2,e1,_,e2,_,_,_,g1,g2,_,_⟩:=zY (Rv:=Rv) a G r d T b i;refine⟨n,result w,H',ν2,Z',e1,g1,?_,g2⟩;have u:=e2.c6 g;have:FR H' Z' (result B) (result w):=by cases B with|nil=>rw[u.cW];exact .same _ Y|cons x z=>obtain⟨y,I,rfl,g1,g2⟩:=u.inv;cases z with|nil=>rw[g2.cW];exact g1|cons x2 z=>obtain⟨Q,L,rfl,g3,g4⟩:=g2.inv;exact .tup _ _ u.1 u.2
 exact .v _ _ this
def A1{ys:So}(h:V.c7 ys=U):(result ys).scalar=U:=by cases ys with|nil=>rfl|cons a l=>cases l with|nil=>simp only[V.c7,ζh]at h;exact h.1|cons b l=>grind[result,V.scalar]
def YM(a:j7 S c){f:Y'}(G:S.E.keep f=true)(r:R ν Z st F H){args:Rd}{ys:So}(h:cn ν st.m H Z args ys){os:dF}(W:handed st.m args=some os)
 {rs:Rd}{m':dF}{D:So}{B:Tb bE}(b:c f args os=some (rs,m'))(Y:c6 rs=some D)(d:lY m' (os.map (·.1)) st.m=some B)(T:V.c7 D=true)(g:∀k∈os.map (·.1),AM B k=true):
 ∃n H',(∀k,n<=k->run S.E k (.fn f) ys H=some (result D,H'))/\R ν Z {st with m:=B} F H'/\cV ν B H' Z (.v (result D)) (result D)/\Ev Rv ν Z st H ν Z {st with m:=B} H'/\∀dst,Kept dst ν st.m ν B:=by
 obtain⟨n,H',z,Z',u,F1,C,ν2,e1,_,e2,_,_,_,_,_,_,g4⟩:=zY (Rv:=Rv) a G r h W b d;obtain⟨g1,g2,g3⟩:=g4 g;have w:=(e2.c6 Y).scalar.1 T;subst w;exact⟨n,H',e1,g1,.v _ _ (.same _ (lM (A1 T))),g2,g3⟩
def YX(i:j7 S c){f:Y'}(c__:S.E.keep f=U)(r:R ν Z st F H){args:Rd}{ys:So}(Y:cn ν st.m H Z args ys){os:dF}(j:handed st.m args=M os)
 {i?:Rd}{m':dF}{T:So}{D:Tb bE}{e t es:Nat}{k:Fl}{xs:S'}(l:c f args os=M (.own e::i?,m'))(q:c6 i?=M T)(s:lY m' (os.map (·.1)) st.m=M D)
 (G:bk m' e=M (.sl k es xs))(b__:e∉os.map (·.1))(B:St.new {st with m:=D} t=U):
 ∃n y H' ν' Z',(∀k,n<=k->run S.E k (.fn f) ys H=M (y,H'))/\R ν' Z' {st with m:=bH D t (.sl k es xs)} F H'/\cV ν' (bH D t (.sl k es xs)) H' Z' (DV (.own t::T.map .v)) y/\Ev Rv ν Z st H ν' Z' {st with m:=bH D t (.sl k es xs)} H':=by
 obtain⟨n,H',L,Z',X,F1,P,ν2,e1,rfl,e2,e3,a,d__,g1,g2,g3,_⟩:=zY (Rv:=Rv) i c__ r Y j l s;obtain⟨w,Q,rfl,v,A⟩:=e2.inv;have o:=e3.obj e _ G;have E:=g1.add B (ob:=.sl k es xs) (p:=L e) (λz=>⟨(a e _ G b__ z).1,e3.apart e _ 0 G z⟩) (by
  grind[c8,jx])
 have b:cV (iU ν2 t (L e)) (bH D t (.sl k es xs)) H' Z' (.own t) w:=by refine .own _ _ λu W=>?_;rw[cu]at W;cases W;obtain⟨_,_,_,K,rfl⟩:=v.iK G;cases K;exact⟨_,_,_,_k,by rw[jx]⟩
 have⟨a__,n2,n3,n4⟩:=lX B;refine⟨n,result (w::Q),H',iU ν2 t (L e),Z',e1,E,?_,⟨g2.len,g2.same,g2.rows,?_,g2.frz,?_,g2.pins⟩⟩
 .have I:=A.c6 q
  cases T with
  |nil=>rw[I.cW];exact b|cons x T=>obtain⟨y,aa,rfl,_,_⟩:=I.inv;exact .tup _ _ (by have:=I.1;grind) (cn.cons b (cn.tv I)).2
 .intro id h;rcases Dw h with h|⟨g,rfl⟩
  .exact g2.own id h
  exact(a e _ G b__ g).2.imp (λh=>h) .inr
 intro d hd u h;have C:d≠t:=λe=>a__ (e▸hd)
 have h:bk (bH D t (.sl k es xs)) d=M u:=h;rw[cK _ _ (Ne.symm C)]at h;have⟨ob,g,_,N⟩:=g3 d u h;exact⟨ob,g,by rw[DE _ _ C,d__],N⟩
def WL(i:j7 S c){f:Y'}(T:S.E.keep f=U)(r:R ν Z st F H){args:Rd}{ys:So}(j:cn ν st.m H Z args ys){os:dF}(l:handed st.m args=M os)
 {p:V}{i?:Rd}{m':dF}{c__:So}{B:Tb bE}{e t es:Nat}{k:Fl}{xs:S'}(q:c f args os=M (.v p::.own e::i?,m'))(s:c6 i?=M c__)(x:lY m' (os.map (·.1)) st.m=M B)
 (G:bk m' e=M (.sl k es xs))(b__:e∉os.map (·.1))(D:St.new {st with m:=B} t=U):
 ∃n y H' ν' Z',(∀k,n<=k->run S.E k (.fn f) ys H=M (y,H'))/\R ν' Z' {st with m:=bH B t (.sl k es xs)} F H'/\cV ν' (bH B t (.sl k es xs)) H' Z' (.tup (.v p::.own t::c__.map .v)) y/\Ev Rv ν Z st H ν' Z' {st with m:=bH B t (.sl k es xs)} H':=by
 obtain⟨n,H',I,Z',aa,F1,ws,ν2,e1,rfl,e2,e3,a,L,g1,g2,g3,_⟩:=zY (Rv:=Rv) i T r j l q x;obtain⟨W,ab,rfl,A,d__⟩:=e2.inv;obtain⟨w,Q,rfl,E,K⟩:=d__.inv;have o:=e3.obj e _ G;have a__:=g1.add D (ob:=.sl k es xs) (p:=I e) (λz=>⟨(a e _ G b__ z).1,e3.apart e _ 0 G z⟩) (by
  grind[c8,jx])
 have b:cV (iU ν2 t (I e)) (bH B t (.sl k es xs)) H' Z' (.own t) w:=by refine .own _ _ λu X=>?_;rw[cu]at X;cases X;obtain⟨_,_,_,N,rfl⟩:=E.iK G;cases N;exact⟨_,_,_,_k,by rw[jx]⟩
 have⟨P,n2,n3,n4⟩:=lX D;refine⟨n,result (W::w::Q),H',iU ν2 t (I e),Z',e1,a__,?_,⟨g2.len,g2.same,g2.rows,?_,g2.frz,?_,g2.pins⟩⟩
 .have Y:=K.c6 s;have h0:cV (iU ν2 t (I e)) (bH B t (.sl k es xs)) H' Z' (.v p) W:=by
   cases A with
   |v _ _ h=>exact .v _ _ h
  exact .tup _ _ (by have:=Y.1;grind) (cn.cons h0 (cn.cons b (cn.tv Y))).2
 .intro id h;rcases Dw h with h|⟨g,rfl⟩
  .exact g2.own id h
  exact(a e _ G b__ g).2.imp (λh=>h) .inr
 intro d hd u h;have C:d≠t:=λe=>P (e▸hd)
 have h:bk (bH B t (.sl k es xs)) d=M u:=h;rw[cK _ _ (Ne.symm C)]at h;have⟨ob,g,_,h3⟩:=g3 d u h;exact⟨ob,g,by rw[DE _ _ C,L],h3⟩
def UH(a:j7 S c){f:Y'}{az:So}{rs:Rd}{m':dF}(b:V.cT az=U)(h:c f (az.map .v) []=M (rs,m')):
 ∃n H2 ν' Z' e? F' ys,(∀k,n<=k->run S.E k (.fn f) az []=M (result ys,H2))/\e?.m=m'/\cn ν' m' H2 Z' rs ys/\R ν' Z' e? F' H2:=by
 have⟨u,r1⟩:=Dh b;obtain⟨n,y,H2,ν',Z',e?,F',w,d,rfl,z,B,C,_⟩:=a f _ _ _ _ h _ _ az [] (.inr Y) u r1;exact⟨n,H2,ν',Z',e?,F',w,λk e=>(qy S.E e).go _ _ _ _ d,z,B,C⟩
def Ri{ys:So}(h:V.c7 ys=U):V.c7 (.bN::ys)=U/\V.c7 (.dH::ys)=U:=by grind[V.c7,V.scalar]
def cn.abF{ys:So}(h:V.cT ys=U):cn ν m H Z (ys.map .v) ys:=cn.tv (dB.same h)
def Wt(s:j7 S c)(hP:∀f q,S.prm f=some q->oE S.E f q){ops:QP}{place:aY (Nat×Nat)}{dr nw:X'}{fr:ST}(c__:dr=place.isSome)(T:∀b i,place=some (b,i)->nw=true->dY ops i=true)(ak:∀b i,place=some (b,i)->nw=false->dY ops i=false)
 (g:∀b i,place=some (b,i)->(∀d ob j,bk st.m d=some ob->ob.pt j=true->d∉fr->ν.at d j<b)/\∀id,Z id->id<b)
 (r:R ν Z st F H){args:Rd}{ys:So}(W:cn ν st.m H Z args ys){f:Y'}{dst:aY Nat}{sv:SV}(h:fD S c dst dr (!dr||nw) (gb st.m fr) f args st=some (sv,e?)):
 ∃n y H' ν' Z',(∀k,n<=k->eE S.E (run S.E k) ops place f ys H=some (y,H'))/\R ν' Z' e? F H'/\cV ν' e?.m H' Z' sv y/\Ev Rv ν Z st H ν' Z' e? H'/\(dr=true->Z'=Z/\Kept dst ν st.m ν' e?.m):=by
 unfold fD at h;split at h
 .rename_i A;split at h
  .have C:∀{q:dR}{y:V}{H':bl},iH S.E q f ys H=some (y,H')->eE S.E q ops place f ys H=some (y,H'):=λ{q y H'}hd=>by
    unfold eE
    cases place with
    |none=>rw[L' (by grind[mR])];omega|some bi=>
     obtain⟨b,i⟩:=bi;have aH:=c__;have aI:=T b i rfl h?
     rw[L' (by grind[mR])]
     grind
   split at h
   .
    rename_i ab;split at h
    .rename_i az hs;have hg:=CP r.obj hs W;obtain⟨nb,x⟩:=Aq r W hs;split at h
     .rename_i rs m' hc;obtain⟨na,H2,ν2,Z2,st2,F2,X,ax,rfl,e3,e4⟩:=UH s hg hc;obtain⟨n,ay,aJ⟩:∃n,na<=n/\nb<=n:=⟨max na nb,l! ..,j! ..⟩;have e1:=λk(A:n<=k)=>ax k (W? ay A)
      have L:∀k,n<=k->∀{o:aY (V×bl)},(if(result X).scalar then some (result X,H)else
       match result X with
       |.hsl id es off len=>(vA H.length H2 id es off len).map λ(v,ob)=>(v,H++[ob])|.tup (.hsl id es off len::i?)=>if V.c7 i? then(vA H.length H2 id es off len).map λ(v,ob)=>(.tup (v::i?),H++[ob])else none|_=>none)=o->iH S.E (run S.E k) f ys H=o:=λk D o a__=>by
       unfold iH om;rw[L' ab]
       grind[qG]
      have al:∀G:So,(result G).scalar=true->result X=result G->sv=.v (result G)->e?=st->∃n y H' ν' Z',(∀k,n<=k->eE S.E (run S.E k) ops place f ys H=some (y,H'))/\R ν' Z' e? F H'/\cV ν' e?.m H' Z' sv y/\Ev Rv ν Z st H ν' Z' e? H'/\(dr=true->Z'=Z/\Kept dst ν st.m ν' e?.m):=by rintro G N h2 rfl rfl;exact⟨n,result G,H,ν,Z,λk D=>C (L k D (by rw[h2,L' N])),r,.v _ _ (.same _ (lM N)),.refl,λ_=>⟨rfl,.refl⟩⟩
      have emp:∀(k:Fl)(es:Nat)(G:So)(i?:Rd),V.c7 G=true->∀t,st.new t=true->∀w:V,(k=.nil/\w=.bN\/k=.emp/\w=.dH)->result (w::G)=result X->dst=some t->sv=DV (.own t::G.map .v)->e?={st with m:=bH st.m t (.sl k es [])}->
       ∃n y H' ν' Z',(∀k,n<=k->eE S.E (run S.E k) ops place f ys H=some (y,H'))/\R ν' Z' e? F H'/\cV ν' e?.m H' Z' sv y/\Ev Rv ν Z st H ν' Z' e? H'/\(dr=true->Z'=Z/\Kept dst ν st.m ν' e?.m):=by
       rintro k es G i? Y t d__ w hw am rfl rfl rfl;have aK:b7 k=false:=by rcases hw with⟨rfl,_⟩|⟨rfl,_⟩<;>rfl
       have l:cV (iU ν t (0,0)) (bH st.m t (.sl k es [])) H Z (.own t) w:=by refine .own _ _ λad E=>?_;rw[cu]at E;cases E;exact⟨_,_,_,rfl,by rcases hw with⟨rfl,rfl⟩|⟨rfl,rfl⟩<;>rfl⟩
       have an:(result (w::G)).scalar=true:=A1 (by rcases hw with⟨_,rfl⟩|⟨_,rfl⟩;all_goals simp_all[Ri])
       refine⟨n,result (w::G),H,iU ν t (0,0),Z,λk D=>C (L k D (by rw[<-am,L' an])),r.add d__ (λx=>by grind[eM]) (by grind[c8]),?_,
        Ev.add d__ (y? _) (λ_ _ _=>rfl) (λ_ _=>rfl) (λx=>by grind[eM]),λ_=>⟨rfl,Kept.add λ_ _ h=>h⟩⟩
       cases G with
       |nil=>exact l|cons z G=>exact .tup _ _ f? (cn.cons l (cn.abF (sG Y))).2
      split at h
      .rename_i G b__;split at h
       next Y=>simp at h;exact al G Y ((JX (e3.c6 b__)).1 Y) h.1.symm h.2.symm
       simp at h
      split at h
      .rename_i e i? t _;obtain⟨w,X,rfl,g1,g2⟩:=e3.inv;split at h
       .
        rename_i es xs G Q b__;split at h
        .rename_i B;simp at B;obtain⟨⟨c1,P⟩,d__⟩:=B;simp at h;obtain⟨rfl,rfl⟩:=h;have o:=e4.obj e _ Q;simp only[c8,N']at o;obtain⟨rows,hr,aL,hf,aF,ao⟩:=o;obtain⟨q1,q2⟩:=ao trivial;have ae:=by
          have:=N1 hf P;rw[q1,Q!,<-q2,M?]at this;exact this
         subst ae;obtain⟨_,_,_,K,rfl⟩:=g1.iK Q;cases K;have I:=(g2.c6 b__).scalar.1 c1;subst I;have aM:vA H.length H2 (ν2 e).1 es 0 rows.length=some (.hsl H.length es 0 rows.length,.row es rows):=by grind[vA,nU]
         have hH:∀id,id<H.length->(H++[Ob.row es rows])[id]?=H[id]?:=λid hl=>u? hl
         have ap:∀id,Z id->bt (H++[Ob.row es rows]) id=bt H id:=λid b__=>by unfold bt;rw[hH id (r.xK b__)]
         have r2:=r.heap (λid a__=>hH id (r.lt a__)) ap
         have aA:V.pI rows=true:=by refine mH.2 λj u hu=>?_;unfold nU at P;rw[O?]at P;have:=P u (s? hu);rw[O?]at this;grind[jh,lM]
         have hR:=r2.add (ob:=.sl .row es rows) (p:=(H.length,0)) d__ (λ_=>⟨λa__=>_e (r.lt a__) f?,λb__=>_e (r.xK b__) f?⟩) (by
          simp only[c8,jx];refine⟨rows,f?,f?,?_,(gM.same aA).BM,λ_=>⟨trivial,rfl⟩⟩
          rw[Q!,M?]
          grind[gM.same])
         have l:cV (iU ν t (H.length,0)) (bH st.m t (.sl .row es rows)) (H++[Ob.row es rows]) Z (.own t) (.hsl H.length es 0 rows.length):=by refine .own _ _ λad E=>?_;rw[cu]at E;cases E;exact⟨_,_,_,rfl,by simp[qA,jx]⟩
         have aq:Ev Rv ν Z st H (iU ν t (H.length,0)) Z {st with m:=bH st.m t (.sl .row es rows)} (H++[Ob.row es rows]):=Ev.add d__ f? (λid hl _=>hH id hl) ap (λ_=>.inr (y? _))
         have ar:qA (ν2 e) Fl.row es rows.length=.hsl (ν2 e).1 es 0 rows.length:=by grind[qA]
         rw[ar]at L
         cases i? with
         |nil=>
          have:=by simp only[c6,ζa]at b__;exact b__.symm
          subst this;refine⟨n,_,_,_,Z,λk D=>C (L k D ?_),hR,l,aq,λ_=>⟨rfl,Kept.add λ_ _ h=>h⟩⟩
          grind[result,V.scalar]
         |cons x2 i?=>
          have aB:∃w2 af,X=w2::af:=by have:=g2.1;cases X with|nil=>simp at this|cons a b=>exact⟨a,b,rfl⟩
          obtain⟨w2,af,rfl⟩:=aB;refine⟨n,_,_,_,Z,λk D=>C (L k D (o:=some (.tup (.hsl H.length es 0 rows.length::w2::af),H++[Ob.row es rows])) ?_),hR,?_,aq,λ_=>⟨rfl,Kept.add λ_ _ h=>h⟩⟩
          .grind[result,V.scalar,V.c7]
          exact .tup _ _ f? (cn.cons l (cn.abF (sG c1))).2
        simp at h
       .rename_i es xs G Q b__;split at h
        next B=>simp at B;simp at h;obtain⟨rfl,rfl⟩:=h;obtain⟨_,_,_,K,rfl⟩:=g1.iK Q;cases K;have I:=(g2.c6 b__).scalar.1 B.1;subst I;exact emp .nil es X i? B.1 _ B.2 .bN f? rfl rfl rfl rfl
        simp at h
       .rename_i es xs G Q b__;split at h
        next B=>simp at B;simp at h;obtain⟨rfl,rfl⟩:=h;obtain⟨_,_,_,K,rfl⟩:=g1.iK Q;cases K;have I:=(g2.c6 b__).scalar.1 B.1;subst I;exact emp .emp es X i? B.1 _ B.2 .dH f? rfl rfl rfl rfl
        simp at h
       simp at h
      simp at h
     grind
    grind
   rename_i ab;split at h
   .rename_i q hq;split at h
    .simp at h
    rename_i hd;obtain⟨n,y,H',ν',e1,e2,e3,e4,e5⟩:=YP (hP f q hq) r W h;exact⟨n,y,H',ν',Z,λk D=>C (by grind[iH]),e2,e3,e4,λh=>_e h hd⟩
   split at h
   .rename_i os hh;split at h
    .rename_i rs m' hc;split at h
     .rename_i G m2 b__ x;split at h
      .simp at h
      rename_i au;simp at h;obtain⟨rfl,rfl⟩:=h
      cases av:dr with
      |false=>obtain⟨n,y,H',ν',Z',e1,e2,e3,e4⟩:=YE s A r W hh hc b__ x;exact⟨n,y,H',ν',Z',λk D=>C (by grind[iH]),e2,e3,e4,(λh=>nomatch h)⟩|true=>
       rw[av]at au;have kE:V.c7 G=true/\∀k∈os.map (·.1),AM m2 k=true:=by simp only[Bool.true_and,Z?,Bool.not_eq_false,ζh,O?]at au;grind
       obtain⟨n,H',e1,e2,e3,e4,e5⟩:=YM (Rv:=Rv) s A r W hh hc b__ x kE.1 kE.2;exact⟨n,_,H',ν,Z,λk D=>C (by grind[iH]),e2,e3,e4,λ_=>⟨rfl,e5 _⟩⟩
     .rename_i m2 b__ x;split at h
      .simp at h
      rename_i hd;split at h
      .rename_i e i? t;split at h
       .rename_i k es xs G he ah;split at h
        next B=>simp only[ζh,Z?,List.contains_eq_mem,_h]at B;simp only[ζa,ζc]at h;obtain⟨rfl,rfl⟩:=h;obtain⟨n,y,H',ν',Z',e1,e2,e3,e4⟩:=YX s A r W hh hc ah x he B.1 B.2;exact⟨n,y,H',ν',Z',λk D=>C (by grind[iH]),e2,e3,e4,λh=>_e h hd⟩
        simp at h
       simp at h
      .rename_i p e i? t;split at h
       .rename_i k es xs G he ah;split at h
        next B=>simp only[ζh,Z?,List.contains_eq_mem,_h]at B;simp only[ζa,ζc]at h;obtain⟨rfl,rfl⟩:=h;obtain⟨n,y,H',ν',Z',e1,e2,e3,e4⟩:=WL s A r W hh hc ah x he B.1 B.2;exact⟨n,y,H',ν',Z',λk D=>C (by grind[iH]),e2,e3,e4,λh=>_e h hd⟩
        simp at h
       simp at h
      simp at h
     simp at h
    simp at h
   simp at h
  rename_i aa;split at h
  .rename_i ai;simp only[ζh]at ai;have aj:mR S.E ops place f=false:=by
    simp only[Bool.not_eq_true,i!,Bool.not_eq_false']at aa
    cases place with
    |none=>rw[c__]at aa;simp at aa|some bi=>obtain⟨b,i⟩:=bi;have N:=ak b i rfl aa.2;have h2:=ai.1;simp only[mR,N,h2,Bool.false_or,Bool.not_true,Bool.and_false]
   split at h
   .rename_i az hs;split at h
    .rename_i rs m' hc;split at h
     .rename_i G b__;split at h
      next B=>simp only[q!]at B;simp at h;obtain⟨rfl,rfl⟩:=h;obtain⟨n,H',e1,e2,e3,e4⟩:=OL s c__ T g r W aj hs (.inr ai.2) hc b__ B;exact⟨n,_,H',ν,Z,e1,e2,e3,e4,λ_=>⟨rfl,.refl⟩⟩
      simp at h
     simp at h
    simp at h
   simp at h
  simp at h
 rename_i A;have aC:S.E.keep f=false:=h?
 have aj:mR S.E ops place f=false:=by simp_all[mR]
 split at h
 .rename_i az hs;split at h
  .rename_i hl;split at h
   .rename_i rs m' hc;split at h
    .rename_i G b__;split at h
     .rename_i B;simp only[q!]at B;simp at h;obtain⟨rfl,rfl⟩:=h;obtain⟨n,H',e1,e2,e3,e4⟩:=OL s c__ T g r W aj hs h? hc b__ B
      exact⟨n,_,H',ν,Z,e1,e2,e3,e4,λ_=>⟨rfl,.refl⟩⟩
     rename_i aG;split at h
     .rename_i aD;obtain⟨ds,aE,e⟩:=ζf.1 h;simp at e;obtain⟨rfl,rfl⟩:=e;have aw:(result G).scalar=false:=by
       grind
      obtain⟨n,H',e1,e2,e3,e4⟩:=YZ s T (λb i hp=>(g b i hp).2) r W aC hs (by rw[<-c__];exact aD) hc b__ aw aE
      exact⟨n,_,H',ν,Z,e1,e2,e3,e4,λ_=>⟨rfl,λe ad _ h=>⟨ad,qZ h,rfl,.refl _,λ_ h=>⟨h,rfl⟩⟩⟩⟩
     simp at h
    simp at h
   simp at h
  simp at h
 simp at h
end
structure CX where
 E:Env
 nm:FuncId->Option Nat
 nt:Nat
def EY(ops:QP)(o:Oper):aY (aY (Nat×X')):=
 match o.guard with
 |none=>M J|some (j,b)=>(_n (ops[j]?) (·.dst)).map λd=>M (d,b)
def BC(a:Nat):aY Nat->X'
 |none=>U|some d=>_r (d<a)
def AG(B:X')(ops:QP)(i:Nat)(k:K)(os:aX UV):K×aX UV×X':=
 if B&& !dY ops i then match k,os,uA O ops i with
  |.l (.store n),.tmp u::w,M (a,l)=>if u=a then(.l (.storeF n),(.tmp u::w)++l.map .tmp,U)else(k,os,O)|.l (.append n),os,_=>if Ag ops i then(.e n,os,U)else(k,os,O)|.r (.load n ag),[.tmp u],_=>if(rV ops i u).isEmpty then(k,os,O)else(.r (.loadF n ag),.tmp u::(rV ops i u).map .tmp,O)|_,_,_=>(k,os,O)
 else(k,os,B&&dY ops i)
def GS(B:X')(ops:QP)(i:Nat)(k:K)(os:aX UV):(AG B ops i k os=(k,os,B&&dY ops i)/\∀n ag a',B=U->dY ops i=O->k=.r (.load n ag)->os=[.tmp a']->rV ops i a'=[])\/
 (B=U/\dY ops i=O/\∃n a l D,k=.l (.store n)/\os=.tmp a::D/\uA O ops i=M (a,l)/\AG B ops i k os=(.l (.storeF n),os++l.map .tmp,U))\/
 (B=U/\dY ops i=O/\∃n ag a,k=.r (.load n ag)/\os=[.tmp a]/\AG B ops i k os=(.r (.loadF n ag),.tmp a::(rV ops i a).map .tmp,O))\/
 (B=U/\dY ops i=O/\Ag ops i=U/\∃n,k=.l (.append n)/\AG B ops i k os=(.e n,os,U)):=by
 unfold AG;split
 .rename_i h;simp only[ζh,Z?]at h;split
  .rename_i n a' D a l hk;split
   next e=>subst e;refine .inr (.inl ⟨h.1,h.2,n,a',l,D,Y,Y,hk,?_⟩);simp only[AG,h.1,h.2,hk,Bool.not_false,Bool.and_self,N']
   exact .inl ⟨by rw[h.2,Bool.and_false],λn ag a' _ _ e=>by cases e⟩
  .rename_i n;split
   next C=>refine .inr (.inr (.inr ⟨h.1,h.2,C,n,Y,Y⟩))
   exact .inl ⟨by rw[h.2,Bool.and_false],λn ag a' _ _ e=>by cases e⟩
  .rename_i n ag a';split
   .rename_i G;refine .inl ⟨by rw[h.2,Bool.and_false],λn ag a2 _ _ _ e=>?_⟩
    simp only[List.cons.injEq,Operand.tmp.injEq,and_true]at e;subst e;simpa using G
   exact .inr (.inr (.inl ⟨h.1,h.2,n,ag,a',Y,Y,Y⟩))
  rename_i u w z;refine .inl ⟨by rw[h.2,Bool.and_false],λn ag a2 _ _ e1 e2=>?_⟩
  first|exact(z _ _ _ e1 e2).elim|exact(z _ _ _ _ e1 e2 Y).elim|exact(u _ _ _ e1 e2).elim|exact(w _ _ _ e1 e2).elim|exact(u _ _ _ _ e1 e2 Y).elim|exact(w _ _ _ _ e1 e2 Y).elim
 rename_i h;refine .inl ⟨Y,λn ag a2 hd I _ _=>?_⟩
 rw[hd,I]at h;exact _e Y h
def oM(X:CX)(B:X')(ops:QP)(i:Nat)(o:Oper):aY RO:=
 if BC X.nt o.dst&& !(B&&(cO o.op==.call&&KK ops i))then
  match EY ops o,resolve X.E X.nm o.op with
  |some gd,M (k,os)=>if DQ k then if B&&Gw X.E ops i then match k,o.op with
   |.a (.makeSl size zero),.makeSlice ..=>(os.mapM (rP X.nm)).map λaz=>⟨o.dst,gd,O,.p (.makeC size zero),az,[],[]⟩|.a (.buildSl size len zero idx),.buildSlice ..=>if size≠0/\len=0/\idx=[]then(os.mapM (rP X.nm)).map λaz=>⟨o.dst,gd,O,.p .emptyC,az,[],[]⟩else(os.mapM (rP X.nm)).map λaz=>⟨o.dst,gd,O,.p (.buildC size len zero idx),az,[],[]⟩|_,_=>J
   else((AG B ops i k os).2.1.mapM (rP X.nm)).map λaz=>⟨o.dst,gd,(AG B ops i k os).2.2,(AG B ops i k os).1,az,[],[]⟩else J
  |_,_=>J
 else J
def GK{E:Env}{N:Nat->Y'}{F:WP}{op:Op}{ys:So}{size:Nat}{zero:So}{y:V}(B:∃t l c,op=.buildSlice t l c)(h:DC E N F op ys (.a (.buildSl size 0 zero [])))(G:size≠0)(D:bT N .emptyC ys=M y):rS E F op=M y:=by
 obtain⟨t,l,c,rfl⟩:=B;have⟨g1,g2⟩:=h;unfold bT at D;split at D<;>first|(rename_i e;cases e;done)|skip
 all_goals simp_all[nW,gB,rS]
def Cm{es:Nat}:∀{vs:aX (Nat×V)}{xs ys:S'},gB es xs vs=M ys->W ys=W xs
 |[],xs,ys,h=>by grind[gB]|(i,v)::r,xs,ys,h=>by simp only[gB]at h;split at h;have:=Cm h;grind;cases h
def Hg{E:Env}{N:Nat->Y'}{F:WP}{op:Op}{ys:So}{size len:Nat}{zero:So}{idx:ST}{y:V}(D:∃t l c,op=.buildSlice t l c)(h:DC E N F op ys (.a (.buildSl size len zero idx)))(B:bT N (.buildC size len zero idx) ys=M y):rS E F op=M y:=by
 obtain⟨t,l,c,rfl⟩:=D;have⟨g1,g2⟩:=h;simp only[bT]at B;split at B;rename_i a;split at B;rename_i w u;split at B;rename_i C;have G:len=W w:=by have:=Cm u;rw[this];simp
 have z:=g2 _ (show nW (.buildSl size len zero idx) ys=M (.row size w,.sl size len)by grind[nW]);grind[rS];cases B;cases B;cases B
def FV{E:Env}{N:Nat->Y'}{F:WP}{op:Op}{ys:So}{size:Nat}{zero:So}{y:V}(D:∃t l c,op=.makeSlice t l c)(h:DC E N F op ys (.a (.makeSl size zero)))(B:bT N (.makeC size zero) ys=M y):rS E F op=M y:=by
 obtain⟨t,l,c,rfl⟩:=D;have⟨g1,g2⟩:=h;unfold bT at B;split at B<;>first|(rename_i e;cases e;done)|skip
 rename_i k n w m e;cases e;split at B;rename_i c;obtain⟨rfl,rfl,z,rfl,C,G⟩:=c;have u:=g2 _ (show nW (.makeSl size zero) [.int _q n,.int _q n]=M (.row size (replicate n.toNat zero),.sl size n.toNat)by grind[nW]);grind[rS];cases B;cases B
def GP{X:CX}{dr:X'}{ops:QP}{i:Nat}{o:Oper}{ro:RO}(a:oM X dr ops i o=M ro):BC X.nt o.dst=U/\∃g now k az,EY ops o=M g/\ro=⟨o.dst,g,now,k,az,[],[]⟩:=by
 unfold oM at a;split at a
 .rename_i hd;have hd:=(Bool.and_eq_true_iff.1 hd).1;split at a
  .rename_i g k os hg hr;split at a;(·(repeat' split at a)<;>first|(cases a;done)|(obtain⟨az,u,rfl⟩:=ζf.1 a;exact⟨hd,_,_,_,_,hg,Y⟩));cases a
  cases a
 cases a
def Is{X:CX}{dr:X'}{ops:QP}{i:Nat}{o:Oper}{ro:RO}(a:oM X dr ops i o=M ro)(hd:dr=U)(B:cO o.op=.call):KK ops i=O:=by
 unfold oM at a;split at a;next h=>subst hd;simp[B]at h;exact h.2
 cases a
structure Good(X:CX)(S:Sys):Prop where
 E:X.E=S.E
 N:∀f s,X.nm f=some s->S.N s=f
 prm:∀f q,S.prm f=some q->oE S.E f q
section
variable{Rv:Nat->Prop}{ν ν':Nu}{Z Z':Nat->Prop}{st e?:St}{m m':Tb bE}{F F':WP}{H H' H1:bl}{S:Sys}{c:cg}{X:CX}
def Old(b:Nat)(fr:ST)(ν:Nu)(Z:Nat->Prop)(m:Tb bE):Prop:=(∀d ob j,bk m d=M ob->ob.pt j=U->d∉fr->ν.at d j<b)/\∀id,Z id->id<b
def qO{fr:ST}:∀{m?:Rd},fA fr m?=U->∀d∈fr,SV.dK d m?=O
 |[],_,d,_=>rfl|.v _::r,h,d,hd=>(qO (m?:=r) (by grind[fA]) d hd)|.ptr e _::r,h,d,hd=>by simp[fA,Z?]at h;simp[SV.dK,SV.cM];exact⟨λe=>h.1 (e▸hd),qO h.2 d hd⟩|.el e _ _::r,h,d,hd=>by simp[fA,Z?]at h;simp[SV.dK,SV.cM];exact⟨λe=>h.1 (e▸hd),qO h.2 d hd⟩|.mp e::r,h,d,hd=>by simp[fA,Z?]at h;simp[SV.dK,SV.cM];exact⟨λe=>h.1 (e▸hd),qO h.2 d hd⟩|.own _::r,h,_,_=>by grind[fA]|.clo ..::r,h,_,_=>by grind[fA]|.tup _::r,h,_,_=>by grind[fA]|.agg _::r,h,_,_=>by grind[fA]|.yl _::r,h,_,_=>by grind[fA]
def GN(S:Sys)(ops:QP)(place:aY (Nat×Nat))(dr:X')(F:WP)(op:Op)(dst:aY Nat)(ν:Nu)(Z:Nat->Prop)(st:St)(H:bl)(sv:SV)(e?:St):Prop:=∃n y H' ν' Z',(∀k,n<=k->cZ S.E (run S.E k) ops place F H op=M (y,H'))/\R ν' Z' e? F H'/\cV ν' e?.m H' Z' sv y/\Ev (λid=>∃b j,place=M (b,j)/\id=b+j) ν Z st H ν' Z' e? H'/\(dr=U->Z'=Z/\Kept dst ν st.m ν' e?.m)
def BX{E:Env}{F:WP}{H:bl}{place:aY (Nat×Nat)}{op:Op}{v:V}(h:bP E F op=M v):vT E F H place op=M v:=by simp_all[vT]
def Dq:∀{xs ys:S'}{l:SW},gM H Z xs ys->nK xs=M l->nK ys=M l
 |[],ys,l,h,B=>by have:=h.1;have:ys=[]:=List.eq_nil_of_length_eq_zero h?;grind|x::xs,[],l,h,B=>by have:=h.1;simp at this|x::xs,y::ys,l,h,B=>by unfold nK at B;split at B;grind;rename_i n r e;cases e;obtain⟨k,c,rfl⟩:=ζf.1 B;have w:=h.2 0 _ y Y Y;obtain⟨u,C,rfl,p1,p2⟩:=w.inv;rw[p2.cW,p1.int];have:=Dq (xs:=xs) (ys:=ys) ⟨by have:=h.1;grind,λj a b z B=>h.2 (j+1) a b z B⟩ c;grind[nK];cases B
def TV(gd:Good X S){ops:QP}{place:aY (Nat×Nat)}{dr:X'}{op:Op}{dst:aY Nat}{p:xN}{m?:Rd}{ys:So}(b:DQ (.p p)=U)(r:R ν Z st F H)(rs:cn ν st.m H Z m? ys)
 (B:DC X.E S.N F op ys (.p p)){sv:SV}(h:(kj S.N st.m p m?).map (λx=>(x,st))=M (sv,e?)):GN S ops place dr F op dst ν Z st H sv e?:=by
 have⟨x,w,e⟩:=ζf.1 h;obtain⟨rfl,rfl⟩:=e;have⟨y,z,u⟩:=LG (λzero pl e=>by grind[DQ]) r.obj rs w
 have⟨a,C⟩:=B;exact⟨0,y,H,ν,Z,λq _=>by unfold cZ;rw[a];simp only[<-gd.E,BX (C y z),A?],r,u,.refl,λ_=>⟨Y,.refl⟩⟩
def CN(gd:Good X S){ops:QP}{place:aY (Nat×Nat)}{dr:X'}{op:Op}{p:xN}{m?:Rd}{ys:So}(hp:∀zero pl,p≠.build zero pl)(B:cO op=.alloc)(D:qf X.E ops place=U)(G:∀y,bT S.N p ys=M y->rS X.E F op=M y)
 (r:R ν Z st F H)(rs:cn ν st.m H Z m? ys){sv:SV}(h:(kj S.N st.m p m?).map (λx=>(x,st))=M (sv,e?)):GN S ops place dr F op J ν Z st H sv e?:=by
 have⟨x,w,e⟩:=ζf.1 h;simp only[ζc]at e;obtain⟨rfl,rfl⟩:=e;have⟨y,z,u⟩:=LG (N:=S.N) (λzero pl e=>_e e (hp zero pl)) r.obj rs w
 refine⟨0,y,H,ν,Z,λq _=>?_,r,u,.refl,λ_=>⟨Y,.refl⟩⟩
 unfold cZ;rw[B];simp only[D,N',<-gd.E,G y z,A?]
def N6:∀{D B:aX UV}{vs:So},f_ F (D++B)=M vs->∃G d,f_ F D=M G/\f_ F B=M d/\vs=G++d
 |[],B,vs,h=>⟨[],vs,rfl,h,rfl⟩|x::D,B,vs,h=>by obtain⟨a,az,b,T,rfl⟩:=ki h;obtain⟨G,d,g1,g2,rfl⟩:=N6 T;simp_all[f_]
def Fa:∀{l:ST}{vs:So},f_ F (l.map Operand.tmp)=M vs->vs=l.map (get F)
 |[],vs,h=>tE h|x::l,vs,h=>by obtain⟨a,az,b,B,rfl⟩:=ki h;simp[ev]at b;subst b;rw[Fa B];rfl
def abl(gd:Good X S){call:dR}{ops:QP}{b j n a:Nat}{l:ST}{o:Oper}{B:aX UV}{ys:So}{y:V}(c:resolve X.E X.nm o.op=M (.l (.store n),.tmp a::B))(D:f_ F ((.tmp a::B)++l.map Operand.tmp)=M ys)
 (g:uA O ops j=M (a,l))(T:dY ops j=O)(e1:fI H (.storeF n) ys=M (y,H')):cZ S.E call ops (M (b,j)) F H o.op=M (y,H'):=by
 obtain⟨t,q,d,I,rfl⟩:=N6 D;have⟨g1,g2⟩:=kW gd.N c d;obtain⟨w,L,z,i,rfl⟩:=ki d;simp[ev]at z;have u:∃v,L=[v]:=by have C:∃x,B=[x]:=(by unfold resolve at c;((repeat' split at c)<;>first|grind|skip);(all_goals (try (have⟨_,_,e⟩:=ζf.1 c;simp[K.l.injEq,OC.store.injEq,reduceCtorEq]at e)));grind);obtain⟨x,rfl⟩:=C;obtain⟨v,Z,_,Q,rfl⟩:=ki i;rw[tE Q];grind
 obtain⟨v,rfl⟩:=u;rw[Fa I,<-z]at e1;simp at e1
 cases G:get F a with
 |hptr id el off=>
  rw[G]at e1;simp only[fI]at e1;split at e1
  .have h:sM ops j F=U:=by
    unfold sM
    grind
   unfold cZ;rw[g1];simp[h,<-gd.E];refine g2 _ _ ?_;rw[<-z,G];exact e1
  grind
 |_=>rw[G]at e1;simp[fI]at e1
def JV{E:Env}{nm:Y'->aY Nat}{op:Op}{s:Nat}{a:X'}{os:aX UV}(h:resolve E nm op=M (.r (.loadF s a),os)):False:=by
 unfold resolve at h;(repeat' split at h)<;>first|grind|skip
 all_goals simp_all
def MT{E:Env}{nm:Y'->aY Nat}{op:Op}{s a':Nat}{a:X'}{t:W'}{os:aX UV}(h:resolve E nm op=M (.r (.load s a),os)):∃t x,op=.load t x/\os=[x]:=by
 unfold resolve at h;(repeat' split at h)<;>first|grind|skip
 all_goals simp_all
 grind
def SM{E:Env}{nm:Y'->aY Nat}{ops:QP}{j:Nat}{op:Op}{q:OW}{os:aX UV}(a:resolve E nm op=M (.r q,os))(h:∀n ag a',K.r q=.r (.load n ag)->os=[.tmp a']->∀t,op=.load t (.tmp a')->rV ops j a'=[]):qL ops j F op=U:=by
 unfold qL;split;rename_i t a';have:∃n ag,q=.load n ag/\os=[.tmp a']:=by have⟨d,_,e⟩:=ζf.1 a;grind
 grind;rfl
theorem ZA (gd:Good X S) {ops:aX Oper} {b j n a:Nat} {ag:Bool} {fr:aX Nat} {o:Oper} {m?:aX SV} {ys:aX V} {dst:aY Nat} {x:SV} (hr:resolve X.E X.nm o.op=some (.r (.load n ag),[.tmp a])) (i:f_ F (.tmp a::(rV ops j a).map Operand.tmp)=some ys) (rs:cn ν st.m H Z m? ys)
 (W:fA fr m?=true) (ad:b<=H.length) (Y:∀d ob j,bk st.m d=some ob->ob.pt j=true->d∉fr->ν.at d j<b) (D:∀id,Z id->id<b) (r:R ν Z st F H) (T:qe st.m (.loadF n ag) m?=some x):GN S ops (some (b,j)) true F o.op dst ν Z st H x st:=by
 obtain⟨w,ws,h1,h2,rfl⟩:=ki i;simp[ev]at h1;have ae:=Fa h2;unfold qe at T;split at T <;> first|(rename_i B;cases B;done)|skip
 .rename_i size agg d off l B;cases B;split at T
  .rename_i G;split at T
   .rename_i cs C;obtain⟨w',af,e,g1,g2⟩:=rs.inv;cases e;have I:=Oi r C g2 G;obtain⟨_,_,rfl⟩:=g1.rI C;have g:∀id,Z id->Z id/\bt (H.take b) id=bt H id:=λid h=>⟨h,pV (D id h)⟩
    have L:∀id,Z id->Z id/\bt H id=bt (H.take b) id:=λid h=>⟨h,(pV (D id h)).symm⟩
    have ah:d∉fr:=λhf=>by
     have:=qO W d hf
     grind[SV.dK,SV.cM]
    obtain⟨y,hy,A⟩:=zF  (r:=.load n ag)   (λs a e=>by cases e) (λkk z ok e=>by cases e) (cn.cons (g1.mono g λe _=>ko ν st.m e) .nil) (λd2 Q ob u=>by
     have aa:d2∉fr:=λhf=>by
      have  := by simpa [SV.dK,SV.cM]using Q
      grind
     exact c8.mono g rfl (λj hb=>List.getElem?_take_of_lt (Y d2 ob j u hb aa)) (λe _=>ko ν st.m e) (r.obj d2 ob u))  (by simp[qe,C];omega)
    obtain⟨k1,k2⟩:=kW  gd.N hr (show f_ F [.tmp a]=some [.hptr (ν d).1 0 off]from by grind[f_])
    have ab:qL ops j F o.op=true:=by
     obtain⟨t,x',e1,e2⟩:=MT (a':=0) (t:=0) hr;rw[e1];simp  at e2;subst e2;simp[qL];intro s hs;have hm:get F s∈ws:=by grind
     have:=List.all_eq_true.1 I _ hm
     grind[qu]
    refine⟨0,y,H,ν,Z,λq _=>?_,r,A.mono L (λe _=>ko ν st.m e),.refl,λ_=>⟨rfl,.refl⟩⟩
    unfold cZ;rw[k1];simp[<-gd.E,k2 (H.take b) y hy,ab]
   grind
  grind
 grind
def HV{E:Env}{nm:Y'->aY Nat}{op:Op}{n:Nat}{os:aX UV}(h:resolve E nm op=M (.l (.append n),os)){y:V}{ys:So}(b:f_ F os=M (y::ys))(B:y=.bN\/y=.dH):isApp op=U/\sF F op=U:=by
 have key:∃args u p s x,op=.call {callee:=.builtin .append,args:=args,argTypes:=u}/\args.toList=[s,x]/\os=[s,x]/\p=():=by unfold resolve at h;((repeat' split at h)<;>first|(simp at h;done)|skip);grind
 obtain⟨args,u,_,s,x,rfl,c,rfl,_⟩:=key;have⟨a,az,w,z,e⟩:=ki b;cases e;refine⟨Y,?_⟩;simp only[sF,c,w];all_goals grind
def abe(gd:Good X S)(hS:j7 S c){ops:QP}{place:aY (Nat×Nat)}{dr:X'}{fr:ST}{i:Nat}(G:dr=place.isSome)(P:∀b j,place=M (b,j)->j=i)
 (K:∀b j,place=M (b,j)->b<=_l H/\Old b fr ν Z st.m)
 {o:Oper}{ro:RO}(E:oM X dr ops i o=M ro)(aF:∀b j,place=M (b,j)->ops[j]?=M o)(am:∀b j,place=M (b,j)->cO o.op=.alloc->H[b+j]?=M .free)
 (r:R ν Z st F H){sv:SV}(h:oa S c dr fr ro st=M (sv,e?)):
 GN S ops place dr F o.op (BW ro) ν Z st H sv e?:=by
 have aw:=λhd hl=>Is E hd hl
 unfold oM at E;split at E
 .split at E
  .rename_i g k os hg hr;split at E
   .rename_i A;split at E
    .rename_i af;simp only[ζh]at af;have an:qf X.E ops place=U:=by
      cases place with
      |none=>rw[G]at af;exact _e af.1 f?|some d__=>have⟨b,j⟩:=d__;rw[P b j _k];exact af.2
     split at E
     .rename_i size zero t l c c__;obtain⟨az,a__,rfl⟩:=ζf.1 E;unfold oa at h;split at h
      next L B=>have⟨ys,C,rs⟩:=qU gd.N r.slot a__ B;have b__:=kW gd.N hr C;exact CN gd (λ_ _ e=>by cases e) b__.1 an (λy hy=>FV ⟨_,_,_,c__⟩ b__ hy) r rs h
      simp at h
     .rename_i size len zero idx t l c c__;split at E
      .rename_i aG;obtain⟨aH,rfl,rfl⟩:=aG;obtain⟨az,a__,rfl⟩:=ζf.1 E;unfold oa at h;split at h
       next L B=>have⟨ys,C,rs⟩:=qU gd.N r.slot a__ B;have b__:=kW gd.N hr C;exact CN gd (λ_ _ e=>by cases e) b__.1 an (λy hy=>GK ⟨_,_,_,c__⟩ b__ aH hy) r rs h
       simp at h
      obtain⟨az,a__,rfl⟩:=ζf.1 E;unfold oa at h;split at h
      next L B=>have⟨ys,C,rs⟩:=qU gd.N r.slot a__ B;have b__:=kW gd.N hr C;exact CN gd (λ_ _ e=>by cases e) b__.1 an (λy hy=>Hg ⟨_,_,_,c__⟩ b__ hy) r rs h
      simp at h
     cases E
    rename_i ah;have al:qf X.E ops place=O:=by cases place with|none=>rfl|some d__=>have⟨b,j⟩:=d__;have I:=P b j _k;cases ax:Gw X.E ops j with|false=>exact ax|true=>exact _e (by rw[G,<-I,ax];rfl) ah
    rcases GS dr ops i k os with⟨hq,aI⟩|⟨u,ao,n,a,l,aT,rfl,rfl,aJ,hq⟩|⟨u,ao,n,ag,a,rfl,rfl,hq⟩|⟨u,ao,aK,n,rfl,hq⟩
    rotate_left
    .rw[hq]at E;obtain⟨az,a__,rfl⟩:=ζf.1 E;unfold oa at h;split at h
     .rename_i L B;have⟨ys,C,rs⟩:=qU gd.N r.slot a__ B;simp only[u,Bool.not_true,Bool.false_or,N']at h;have⟨y,H',ν',e1,e2,e3,e4,e5⟩:=EN r rs h;refine⟨0,y,H',ν',Z,λq _=>?_,e2,e3,e4.weak (λ_ h=>h.elim),λ_=>⟨_k,e5⟩⟩
      cases place with
      |none=>rw[G]at u;cases u|some d__=>have⟨b,j⟩:=d__;have I:=P b j _k;subst I;exact abl gd hr C aJ ao e1
     simp at h
    .rw[hq]at E;obtain⟨az,a__,rfl⟩:=ζf.1 E;unfold oa at h;split at h
     .rename_i L B;have⟨ys,C,rs⟩:=qU gd.N r.slot a__ B;simp only[u,Bool.not_true,Bool.or_self,Bool.false_or]at h;split at h
      .rename_i ap;have⟨x,hx,e⟩:=ζf.1 h;simp only[ζc]at e;obtain⟨rfl,rfl⟩:=e
       cases place with
       |none=>rw[G]at u;cases u|some d__=>have⟨b,j⟩:=d__;have I:=P b j _k;subst I;have⟨ay,aq,ai⟩:=K b j _k;rw[u];exact ZA gd hr C rs ap ay aq ai r hx
      simp at h
     simp at h
    .rw[hq]at E;obtain⟨az,a__,rfl⟩:=ζf.1 E;unfold oa at h;split at h
     rotate_left
     .simp at h
     rename_i L B;have⟨ys,C,rs⟩:=qU gd.N r.slot a__ B;simp only at h;have key:∃e x,(e=V.bN\/e=V.dH)/\L=[.v e,x]/\mZ st o.dst (.append n) L=M (sv,e?):=by split at h;exact⟨_,_,.inl _k,_k,h⟩;exact⟨_,_,.inr _k,_k,h⟩;cases h
     obtain⟨e,x,he,rfl,hl⟩:=key;have⟨y,H',ν',e1,e2,e3,e4,e5⟩:=EN r rs hl;have⟨g1,g2⟩:=kW gd.N hr C;refine⟨0,y,H',ν',Z,λq _=>?_,e2,e3,e4.weak (λ_ h=>h.elim),λ_=>⟨_k,e5⟩⟩
     obtain⟨y1,zs,rfl,f1,f2⟩:=rs.inv;have aL:y1=.bN\/y1=.dH:=by cases f1 with|v _ _ hf=>rcases he with rfl|rfl<;>first|exact .inl hf.bN|exact .inr hf.dH
     cases place with
     |none=>rw[G]at u;cases u|some d__=>have⟨b,j⟩:=d__;have I:=P b j _k;subst I;have⟨r1,r2⟩:=HV hr C aL;exact TA r1 (by rw[<-gd.E];exact g2 _ _ e1) (.inr ⟨aK,r2,(K b j _k).1⟩)
    rw[hq]at E;obtain⟨az,a__,rfl⟩:=ζf.1 E;unfold oa at h;split at h
    .rename_i L B;have⟨ys,C,rs⟩:=qU gd.N r.slot a__ B;have D:=kW gd.N hr C;simp only at h
     cases k with
     |p p=>
      cases p with
      |slice size lo P=>
       simp only at h;split at h
       .rename_i d bs;split at h
        .simp at h
        rename_i ar;have⟨y,ν',h1,h2,h3,h4⟩:=Ts (N:=S.N) (Rv:=λid=>∃b j,place=M (b,j)/\id=b+j) r rs h
        have⟨g1,g2⟩:=D;exact⟨0,y,H,ν',Z,λq _=>by unfold cZ;rw[g1];simp only[<-gd.E,BX (g2 y h1),A?],h2,h3,h4,λhd=>_e hd ar⟩
       exact TV gd A r rs D h
      |_=>exact TV gd A r rs D h
     |r q=>
      simp only at h;split at h
      .rename_i W;have⟨x,hx,e⟩:=ζf.1 h;simp only[ζc]at e;obtain⟨rfl,rfl⟩:=e;have⟨g1,g2⟩:=D;have au:∀kk z ok,q=.lookup kk z ok->z.good=U:=λkk z ok e=>by subst e;simpa[DQ]using A
       have ab:∀s a,q≠.loadF s a:=λs a e=>by subst e;exact JV hr
       cases place with
       |none=>
        have⟨y,hy,ad⟩:=zF ab au rs (λd _ ob hd=>r.obj d ob hd) hx
        exact⟨0,y,H,ν,Z,λq _=>by unfold cZ;rw[g1];simp only[<-gd.E,g2 H y hy,A?],r,ad,.refl,λ_=>⟨rfl,.refl⟩⟩
       |some d__=>
        have⟨b,j⟩:=d__;have⟨ay,aq,ai⟩:=K b j _k;have u:dr=U:=G;subst u;have I:=P b j _k;subst I;simp only[Bool.not_true,Bool.false_or,Bool.true_and]at W;have aA:qL ops j F o.op=U:=SM hr λn ag a' e1 e2 t e3=>by by_cases Q:dY ops j=U;exact Gd (aF b j _k) e3 Q;exact aI n ag a' _k (by simpa using Q) e1 e2
        by_cases Q:dY ops j=U
        .have⟨y,hy,ad⟩:=zF ab au rs (λd _ ob hd=>r.obj d ob hd) hx
         have hH:=g2 H y hy;refine⟨0,y,H,ν,Z,λq _=>?_,r,ad,.refl,λ_=>⟨_k,.refl⟩⟩
         unfold cZ;rw[g1];simp only[<-gd.E,aA,N'];split
         next v hv=>have:=Cb hv;rw[hH]at this;cases this;rfl
         rw[L' Q,hH];rfl
        have ap:fA fr L=U:=by simpa[Q]using W
        have aa:∀id,Z id->Z id/\bt (H.take b) id=bt H id:=λid h=>⟨h,pV (ai id h)⟩
        have aB:∀id,Z id->Z id/\bt H id=bt (H.take b) id:=λid h=>⟨h,(pV (ai id h)).symm⟩
        have⟨y,hy,ad⟩:=zF (H:=H.take b) ab au (rs.mono aa λe _=>ko ν st.m e) (λd hd ob aC=>by
         have ab:d∉fr:=λhf=>by rw[qO ap d hf]at hd;cases hd
         exact c8.mono aa _k (λj hb=>List.getElem?_take_of_lt (aq d ob j aC hb ab)) (λe _=>ko ν st.m e) (r.obj d ob aC)) hx
        refine⟨0,y,H,ν,Z,λq _=>?_,r,ad.mono aB (λe _=>ko ν st.m e),.refl,λ_=>⟨_k,.refl⟩⟩
        unfold cZ;rw[g1];simp only[<-gd.E,g2 (H.take b) y hy,aA,N']
      simp at h
     |a q=>
      simp only at h;split at h
      .rename_i d hd;split at h
       .rename_i Y;have⟨⟨ob,x⟩,hx,e⟩:=ζf.1 h;simp only[ζc]at e;obtain⟨rfl,rfl⟩:=e;have⟨ae,mk,e1,e2,T,e3,e4⟩:=Tj A rs hx;have⟨g1,g2⟩:=D;have⟨n1,n2,n3,n4⟩:=lX Y;have av:∀p:Nat×Nat,∀e,SV.dK e L=U->∀aj,bk (bH st.m d ob) e=M aj->∃ob,bk st.m e=M ob/\iU ν d p e=ν e/\sameShape ob aj:=λp e he=>by
         refine B5 ?_;rintro rfl;have:∀{xs:QR}{vs:Rd},bU S.N st.g xs=M vs->SV.dK e vs=O:=by intro xs;induction xs with|nil=>intro vs h;simp only[bU,ζa]at h;subst h;rfl|cons a xs ih=>intro vs h;simp only[bU]at h;split at h;rename_i v aU h1 h2;simp only[ζa]at h;subst h;simp only[SV.dK,i!];refine⟨?_,ih h2⟩;(cases a with|s n=>exact BT n3 h1|k c=>simp only[tM,ζa]at h1;subst h1;rfl|f s=>simp only[tM,ζa]at h1;subst h1;rfl);simp at h
         rw[this B]at he;cases he
        have fin:∀(id:Nat)(Hn:bl),_l H<=_l Hn->Hn[id]?=M ae->(∀k,k<_l H->k≠id->Hn[k]?=H[k]?)->(∀k,fN ν st.m k->k≠id)->(∀k,Z k->k≠id)->
         R (iU ν d (id,0)) Z {st with m:=bH st.m d ob} F Hn/\cV (iU ν d (id,0)) (bH st.m d ob) Hn Z x (mk.val id)/\(∀k,Z k->bt Hn k=bt H k):=λid Hn hl aM b__ ho hz=>by
         have aa:∀k,Z k->bt Hn k=bt H k:=λk A=>by unfold bt;rw[b__ k (r.xK A) (hz k A)]
         have⟨a1,a2⟩:=e4 id (iU ν d (id,0)) (bH st.m d ob) Hn (jx _ _ _) (cu _ _ _) aM aa (av _);have r2:R ν Z st F Hn:=r.heap (λk A=>b__ k (r.lt A) (ho k A)) aa
         exact⟨r2.add Y (λ_=>⟨λh=>ho _ h _k,λh=>hz _ h _k⟩) a1 T,a2,aa⟩
        have aD:o.dst=M d:=hd
        cases place with
        |none=>
         have⟨f1,f2,f3⟩:=fin (_l H) (H++[ae]) f? f? (λk A _=>u? A) (λk A=>Nat.ne_of_lt (r.lt A)) (λk A=>Nat.ne_of_lt (r.xK A))
         refine⟨0,mk.val (_l H),H++[ae],iU ν d (_l H,0),Z,λq _=>?_,f1,f2,Ev.add Y f? (λk A _=>u? A) f3 (λ_=>.inr (y? _)) T,λhh=>?_⟩
         .unfold cZ;rw[g1];simp only[al,v?,_a,<-gd.E,g2 _ e1]
         rw[G]at hh;cases hh
        |some d__=>
         have⟨b,j⟩:=d__;have hf:=am b j _k g1;have aN:=(ζe.1 hf).1;have nf:∀k,fN ν st.m k->k≠b+j:=λk A e=>by subst e;have⟨d',aj,j',w1,w2,w3⟩:=A;exact(r.obj d' aj w1).free w2 (w3▸hf)
         have nz:∀k,Z k->k≠b+j:=λk A e=>by subst e;have:=r.zrow _ A;unfold bt at this;rw[hf]at this;simp[Ob.rows]at this
         have⟨f1,f2,f3⟩:=fin (b+j) (H.set (b+j) ae) f? (by rw[K? aN]) (λk _ A=>by rw[C?,M' (Ne.symm A)]) nf nz
         refine⟨0,mk.val (b+j),H.set (b+j) ae,iU ν d (b+j,0),Z,λq _=>?_,f1,f2,Ev.add Y f? (λk _ A=>?_) f3 (λ_=>.inl ⟨b,j,_k,_k⟩) T,λ_=>⟨_k,?_⟩⟩
         .unfold cZ;rw[g1];simp only[al,v?,_a,<-gd.E,g2 _ e1,hf]
         .rw[C?,M' λe=>A ⟨b,j,_k,e.symm⟩]
         have:BW ⟨o.dst,g,dr&&dY ops j,.a q,az,[],[]⟩=M d:=aD;have I:=P b j _k;subst I;rw[this];exact Kept.add λ_ _ h=>h
       simp at h
      simp at h
     |l q=>
      simp only at h;split at h
      .rename_i W;have⟨y,H',ν',e1,e2,e3,e4,e5⟩:=EN r rs h;have⟨g1,g2⟩:=D;refine⟨0,y,H',ν',Z,λq _=>?_,e2,e3,e4.weak (λ_ h=>h.elim),λ_=>⟨_k,e5⟩⟩
       unfold cZ;rw[g1];simp only[<-gd.E]
       cases place with
       |none=>exact g2 _ _ e1|some d__=>
        have⟨b,j⟩:=d__;have u:dr=U:=G;subst u;have I:=P b j _k;subst I;have Q:dY ops j=U:=by simpa using W
        simp only[Q,N'];exact g2 _ _ e1
      simp at h
     |e n=>exact D.elim|b=>
      simp only at h;split at h
      .cases h
      rename_i ar;have aO:dr=O:=by simpa using ar
      have aP:place=J:=by cases place with|none=>rfl|some d__=>rw[aO]at G;simp at G
      subst aP;split at h
      next x=>have⟨xs,h1,h2⟩:=ζg.1 h;have⟨l,h3,e⟩:=ζf.1 h2;simp only[ζc]at e;obtain⟨rfl,rfl⟩:=e;have⟨g1,y,e1,g2⟩:=D;have⟨y',_,e2,r1,r2⟩:=rs.inv;rw[e1]at e2;cases e2;have⟨zs,k1,k2⟩:=yd r1 r.obj h1;have hz:nK zs=M l:=Dq k2 h3;have⟨q1,q2⟩:=g2 H zs l k1 hz;exact⟨0,_,H,ν,Z,λq _=>by unfold cZ;rw[g1];simp only[vT,<-gd.E,q1,q2,A?],r,.v _ _ (.same _ _k),.refl,λ_=>⟨_k,.refl⟩⟩
      cases h
     |c=>
      simp only at h;have⟨g1,f',aV,e1,e2⟩:=D;have go:∀(f:Y')(args:Rd)(ak:So),cn ν st.m H Z args ak->lS F o.op=M (.fn f,ak)->fD S c o.dst dr (!dr||(dr&&dY ops i)) (gb st.m fr) f args st=M (sv,e?)->
       GN S ops place dr F o.op (BW ⟨o.dst,g,dr&&dY ops i,.c,az,[],[]⟩) ν Z st H sv e?:=λf args ak aQ aE aR=>by
       have⟨n,y,H',ν',Z',p1,p2,p3,p4,p5⟩:=Wt (ops:=ops) (Rv:=λid=>∃b j,place=M (b,j)/\id=b+j) hS gd.prm G (λb j hp hn=>by
        have:=P b j hp;subst this;simp only[ζh]at hn;exact hn.2) (λb j hp hn=>by have:=P b j hp;subst this;rw[G,hp]at hn;simpa using hn) (λb j hp=>(K b j hp).2) r aQ aR
       refine⟨n,y,H',ν',Z',λq hq=>?_,p2,p3,p4,p5⟩
       have aS:zu ops place ak=U:=by cases place with|none=>rfl|some d__=>simp only[zu,P _ _ _k,aw G g1];rfl
       unfold cZ;rw[g1];simp only[aE,aS,N'];exact p1 q hq
      split at h
      next f a b vs=>have⟨w,ws,ew,r1,r2⟩:=rs.inv;rw[ew]at e1;simp only[List.cons.injEq]at e1;obtain⟨rfl,rfl⟩:=e1;obtain⟨a',b',rfl,ra,rb⟩:=r1.mc;exact go f _ _ ((ra.append r2).append rb) e2 h
      next f a b vs=>have⟨w,ws,ew,r1,r2⟩:=rs.inv;rw[ew]at e1;simp only[List.cons.injEq]at e1;obtain⟨rfl,rfl⟩:=e1;obtain⟨a',b',rfl,ra,rb⟩:=r1.fr.mc;exact go f _ _ (((cn.tv ra).append r2).append (cn.tv rb)) e2 h
      simp at h
    simp at h
   simp at E
  simp at E
 simp at E
end
end Go.VE
