/- Objects. -/
import Derived.Test.YtddlogilhmloeabGreatDoorV2
set_option linter.all false
open Option renaming some→M,some→_k,none→J,none→_q,bind→H,bind→_o
open Bool renaming true→U,true→_n,false→O,false→_p
open Decidable renaming decide→_s
open List renaming length→W,length→_m
open Go.IntKind renaming i64→N,i64→_r
open List renaming all_eq_true→G?,drop_drop→A!,drop_zero→R!,getElem?_append_left→u?,getElem?_append_right→H?,getElem?_drop→M?,getElem?_set→D?,getElem?_set_ne→E?,getElem?_set_self→Q?,getElem?_take→J?,mem_cons→n',mem_of_getElem?→s?,take_length→I?
open Bool renaming false_eq_true→v?,not_eq_true'→Z?,or_eq_false_iff→h!,or_eq_true→p!
open Option renaming map_some→A?
open Nat renaming le_max_left→k!,le_max_right→i!,le_refl→x?,le_trans→V?
open List(length_eq_zero_iff mem_iff_getElem? replicate)
open Nat(le)
open Option(isSome_iff_exists)
open Nat(le)
open Prod(fst)
namespace Go.VE
variable[b7]
inductive Fl where|nil|emp|row|part
 deriving DecidableEq,Inhabited
inductive SV where
 |v(x:V)|own(d:Nat)|ptr(d off:Nat)|el(d i off:Nat)|mp(d:Nat)|clo(f:FuncId)(a b:List SV)|tup(l:List SV)|agg(l:List SV)|yl(id:Nat)
 deriving Inhabited
abbrev SW:=aY SV
inductive bG where
 |sl(k:Fl)(es:Nat)(xs:List (List V))|box(cs:List SV)|mp(kvs:List (V×V))|dp(k:Fl)(xs:List (List V))(h:Option (Nat×Nat))
abbrev Tb(α:Type):=aY (Nat×α)
def bk{α:Type}:Tb α->Nat->aX α
 |[],_=>J|(k,v)::r,n=>if k=n then M v else bk r n
def bJ{α:Type}:Tb α->Nat->α->Tb α
 |[],n,v=>[(n,v)]|(k,x)::r,n,v=>if k=n then(k,v)::r else(k,x)::bJ r n v
def dJ{α:Type}(n:Nat):Tb α->Tb α
 |[]=>[]|(k,x)::r=>if k=n then dJ n r else(k,x)::dJ n r
def sj{α:Type}:ST->Tb α->Tb α
 |[],g=>g|d::ds,g=>sj ds (dJ d g)
def zN{α:Type}:Tb α->ST->aY α->Tb α
 |g,p::ps,v::vs=>zN (bJ g p v) ps vs|g,_,_=>g
def mb{α:Type}(g:Tb α):ST->aX (Tb α)
 |[]=>M []|n::r=>match bk g n,mb g r with
  |some v,M t=>M ((n,v)::t)|_,_=>J
structure St where
 g:Tb SV
 m:Tb bG
 pin:List Nat
 want:List (List V)
 more:Bool
 yid:Nat
structure JW where
 part:Bool
 go:Nat->List (List V)->List V->Option (List (List V))
structure Sys where
 E:Env
 N:Nat->FuncId
 items:FuncId->List V->List V->Option (List (List V))
 A8:FuncId->List V->Option V
 prm:FuncId->Option JW
inductive Arg where
 |s(n:Nat)|k(c:V)|f(name:Nat)
abbrev QR:=aY Arg
inductive Loc where
 |s(n:Nat)|c(b i:Nat)
inductive Gh where
 |melt(d:Nat)|take(d:Nat)(i:Loc)(es t:Nat)|put(d:Nat)|close(d:Nat)|closeB(d:Nat)|canon(l:Loc)(d:Nat)(es:Nat)|keep(gs ms:List Nat)|drop(ds:List Nat)|closeS(l:Loc)
abbrev Pi:=aY Gh
structure RO where
 dst:Option Nat
 gd:Option (Nat×Bool)
 now:Bool
 k:K
 az:List Arg
 dead:List Nat:=[]
 pre:List Gh:=[]
abbrev R0:=aY RO
inductive RC where
 |skip|ops(l:List RO)|vJ(l:List RO)|seq(a b:RC)|cond(x:Arg)(a b:RC)|block(id:Nat)(c:RC)|loop(c:RC)|each(g:Arg)(ps:List Nat)(a b:RC)|exit(id:Nat)|ret|gh(x:Gh)(c:RC)|hg(c:RC)(x:Gh)
inductive RV where
 |s(n:Nat)|ld(n size:Nat)(agg:Bool)
structure RF where
 na:Nat
 rs:List RV
 body:RC
mutual
def SV.cZ(d:Nat):SV->X'
 |.v _=>O|.own e=>e==d|.ptr e _=>e==d|.el e _ _=>e==d|.mp e=>e==d|.clo _ a b=>SV.dX d a||SV.dX d b|.tup l=>SV.dX d l|.agg l=>SV.dX d l|.yl _=>O
def SV.dX(d:Nat):SW->X'
 |[]=>O|x::r=>SV.cZ d x||SV.dX d r
end
def bG.cZ(d:Nat):bG->X'
 |.box cs=>SV.dX d cs|.dp _ _ (M (_,t))=>t==d|_=>O
def wT(d:Nat):Tb SV->X'
 |[]=>O|(_,x)::r=>SV.cZ d x||wT d r
def vN(d:Nat):Tb bG->X'
 |[]=>O|(_,x)::r=>bG.cZ d x||vN d r
def St.new(st:St)(d:Nat):X':= !(st.pin.contains d)&&(bk st.m d).isNone&& !(wT d st.g)&& !(vN d st.m)
mutual
def SV.u9(d e:Nat):SV->SV
 |.v x=>.v x|.own k=>.own (if k=d then e else k)|.ptr k o=>.ptr (if k=d then e else k) o|.el k i o=>.el (if k=d then e else k) i o|.mp k=>.mp (if k=d then e else k)|.clo f a b=>.clo f (SV.yd d e a) (SV.yd d e b)|.tup l=>.tup (SV.yd d e l)|.agg l=>.agg (SV.yd d e l)|.yl id=>.yl id
def SV.yd(d e:Nat):SW->SW
 |[]=>[]|x::r=>SV.u9 d e x::SV.yd d e r
end
def bG.u9(d e:Nat):bG->bG
 |.box cs=>.box (SV.yd d e cs)|.dp k xs (M (i,t))=>.dp k xs (M (i,if t=d then e else t))|o=>o
def C6(d e:Nat):Tb SV->Tb SV
 |[]=>[]|(n,x)::r=>(n,x.u9 d e)::C6 d e r
def yg(d e:Nat):Tb bG->Tb bG
 |[]=>[]|(n,x)::r=>((if n=d then e else n),x.u9 d e)::yg d e r
mutual
def SV.sub(d:Nat)(w:V):SV->SV
 |.own k=>if k=d then .v w else .own k|.clo f a b=>.clo f (SV.wG d w a) (SV.wG d w b)|.tup l=>.tup (SV.wG d w l)|.agg l=>.agg (SV.wG d w l)|x=>x
def SV.wG(d:Nat)(w:V):SW->SW
 |[]=>[]|x::r=>SV.sub d w x::SV.wG d w r
end
def dG:SW->aX So
 |[]=>M []|.v x::r=>(dG r).map (x::·)|_::_=>J
def U4(f:Y')(a b:SW):SV:=
 match dG a,dG b with
 |some x,M y=>.v (.clo f x y)|_,_=>.clo f a b
mutual
def SV.E4(d:Nat)(cs:So):SV->SV
 |.ptr k o=>if k=d then(if o<=W cs then .v (.fptr (cs.drop o))else .ptr k o)else .ptr k o|.clo f a b=>U4 f (SV.uf d cs a) (SV.uf d cs b)|.tup l=>.tup (SV.uf d cs l)|.agg l=>.agg (SV.uf d cs l)|x=>x
def SV.uf(d:Nat)(cs:So):SW->SW
 |[]=>[]|x::r=>SV.E4 d cs x::SV.uf d cs r
end
def CH(f:SV->SV):Tb SV->Tb SV
 |[]=>[]|(n,x)::r=>(n,f x)::CH f r
def mapM(f:SW->SW):Tb bG->Tb bG
 |[]=>[]|(n,.box cs)::r=>(n,.box (f cs))::mapM f r|(n,o)::r=>(n,o)::mapM f r
mutual
def SV.names:SV->ST
 |.own d|.ptr d _|.el d _ _|.mp d=>[d]|.clo _ a b=>SV.zD a++SV.zD b|.tup l=>SV.zD l|.agg l=>SV.zD l|_=>[]
def SV.zD:SW->ST
 |[]=>[]|x::r=>SV.names x++SV.zD r
end
def sN:Tb SV->ST
 |[]=>[]|(_,x)::r=>SV.names x++sN r
def lQ(k:Fl)(es:Nat)(xs:S'):V:=
 match k with
 |.nil=>.bN|.emp=>.dS|_=>.fsl es xs
mutual
def V.lvl:Nat->V->X'
 |n,.fsl _ xs=>match n with|0=>O|n+1=>V.sC n xs
 |n,.fptr cs=>match n with|0=>O|n+1=>V.nQ n cs
 |n,.fmap B=>match n with|0=>O|n+1=>V.vu n B
 |n,.agg cs=>match n with|0=>O|n+1=>V.nQ n cs
 |n,.tup cs=>match n with|0=>O|n+1=>V.nQ n cs
 |n,.clo _ a b=>match n with|0=>O|n+1=>V.nQ n a&&V.nQ n b
 |_,_=>U
def V.nQ:Nat->So->X'
 |_,[]=>U|n,x::r=>V.lvl n x&&V.nQ n r
def V.sC:Nat->S'->X'
 |_,[]=>U|n,x::r=>V.nQ n x&&V.sC n r
def V.vu:Nat->aY (V×V)->X'
 |_,[]=>U|n,(k,x)::r=>V.lvl n k&&V.lvl n x&&V.vu n r
end
mutual
def shut(m:Tb bG):Nat->SV->aX V
 |_,.v x=>M x|_,.own d=>match bk m d with
  |some (.sl k es xs)=>M (lQ k es xs)|some (.dp k xs J)=>M (lQ k 1 xs)|_=>J
 |n+1,.ptr d o=>match bk m d with
  |some (.box cs)=>match dH m n cs with
   |some xs=>if o<=W xs then M (.fptr (xs.drop o))else J|none=>J
  |_=>J
 |_,.mp d=>match bk m d with
  |some (.mp B)=>M (.fmap B)|_=>J
 |n+1,.clo f a b=>match dH m n a,dH m n b with
  |some x,M y=>M (.clo f x y)|_,_=>J
 |n+1,.tup l=>(dH m n l).map .tup|n+1,.agg l=>(dH m n l).map .agg|_,_=>J
def dH(m:Tb bG):Nat->SW->aX So
 |_,[]=>M []|n,x::r=>match shut m n x,dH m n r with
  |some y,M s=>M (y::s)|_,_=>J
end
end Go.VE
namespace Go.VE
variable[b7]
mutual
def V.good:V->X'
 |.hsl ..|.hptr ..|.yld ..|.hmap ..=>O|.fsl _ xs=>V.pL xs|.fptr cs=>V.c_ cs|.fmap B=>V.vO B|.clo _ a b=>V.c_ a&&V.c_ b|.agg cs=>V.c_ cs|.tup cs=>V.c_ cs|_=>U
def V.c_:So->X'
 |[]=>U|x::r=>V.good x&&V.c_ r
def V.pL:S'->X'
 |[]=>U|x::r=>V.c_ x&&V.pL r
def V.vO:aY (V×V)->X'
 |[]=>U|(k,x)::r=>V.good k&&V.good x&&V.vO r
end
abbrev dN:=Tb bG
abbrev b_:=FuncId->aY SV->dN->aX (aY SV×dN)
def tO(N:Nat->Y')(g:Tb SV):Arg->aX SV
 |.s n=>bk g n|.k c=>M (.v c)|.f s=>M (.v (.clo (N s) [] []))
def b9(N:Nat->Y')(g:Tb SV):QR->aX SW
 |[]=>M []|x::r=>match tO N g x,b9 N g r with
  |some v,M vs=>M (v::vs)|_,_=>J
def cg:Fl->X'
 |.row|.part=>U|_=>O
def pz(m:Tb bG):SV->X'
 |.own d|.ptr d _|.el d _ _|.mp d=>(bk m d).isSome|.clo ..=>U|_=>O
def Bp(m:Tb bG):SV->X'
 |.v x=>x.one|x=>pz m x
def Lt(m:Tb bG):SV->aX SW
 |.v x=>M (x.cells.map .v)|.agg l=>M l|x=>if pz m x then M [x]else J
def BX(m:Tb bG)(cells:SW):aY (Nat×Nat)->SW->aX SW
 |[],[]=>M cells|(off,size)::pl,v::vs=>match Lt m v with
  |some c=>if W c=size/\off+W c<=W cells then BX m (cells.take off++c++cells.drop (off+W c)) pl vs else J|none=>J
 |_,_=>J
def yJ(size:Nat)(agg:X')(cs:SW):aX SV:=
 if W cs=size then
  if agg then match dG cs with
   |some u=>M (.v (.agg u))|none=>M (.agg cs)
  else match cs with
   |[x]=>M x|_=>J
 else J
def D4(N:Nat->Y')(m:Tb bG):xS->SW->aX SV
 |.id,[x]=>M x|.nilc,[.ptr d o]=>if(bk m d).isSome then M (.ptr d o)else J|.nilc,[.el d i o]=>if(bk m d).isSome then M (.el d i o)else J|.pick,[.v (.bool t),a,b]=>M (if t then a else b)|.bin (M .slice) _ .eql,[.own d,.v .bN]=>match bk m d with
  |some (.sl k _ _)=>if k=.emp then J else M (.v (.bool (k==.nil)))|_=>J
 |.bin (M .slice) _ .neq,[.own d,.v .bN]=>match bk m d with
  |some (.sl k _ _)=>if k=.emp then J else M (.v (.bool (!(k==.nil))))|_=>J
 |.fieldAddr off,[.ptr d o]=>if(bk m d).isSome then M (.ptr d (o+off))else J|.fieldAddr off,[.el d i o]=>if(bk m d).isSome then M (.el d i (o+off))else J|.idxS size,[.own d,.v (.int _ i)]=>match bk m d with
  |some (.sl k es xs)=>if cg k/\es=size/\0<=i/\i.toNat<W xs then M (.el d i.toNat 0)else J|some (.dp k xs _)=>if cg k/\1=size/\0<=i/\i.toNat<W xs then M (.el d i.toNat 0)else J|_=>J
 |.idxA len size,[.ptr d o,.v (.int _ i)]=>if 0<=i/\i<len/\(bk m d).isSome then M (.ptr d (o+i.toNat*size))else J|.idxA len size,[.el d j o,.v (.int _ i)]=>if 0<=i/\i<len/\(bk m d).isSome then M (.el d j (o+i.toNat*size))else J|.lenSl,[.own d]=>match bk m d with
  |some (.sl _ _ xs)=>M (.v (.int _r (W xs)))|some (.dp _ xs _)=>M (.v (.int _r (W xs)))|_=>J
 |.clo name k,vs=>M (.clo (N name) (vs.take k) (vs.drop k))|.ext i,[.tup l]=>l[i]?|.build zero pl,vs=>(BX m (zero.map .v) pl vs).map .agg|.field off size agg,[.agg l]=>yJ size agg ((l.drop off).take size)|_,_=>J
def lP(N:Nat->Y')(m:Tb bG)(p:xS)(m?:SW):aX SV:=
 match dG m? with
 |some u=>(bW N p u).map .v|none=>D4 N m p m?
def Qz(m:Tb bG)(d:Nat):SV->X'
 |.ptr B _=>B != d&&(match bk m B with|some (.box _)=>U|_=>O)|.v (.fptr _)=>U|_=>O
def sn(m:Tb bG):Oq->SW->aX SV
 |.load size agg,[.ptr d o]=>match bk m d with
  |some (.box cs)=>yJ size agg ((cs.drop o).take size)|_=>J
 |.load size agg,[.el d i o]=>match bk m d with
  |some (.sl _ _ xs)=>match xs[i]?with
   |some cs=>(_o (cut cs o size) (mk agg)).map .v|none=>J
  |some (.dp _ _ (M (j,t)))=>if j=i/\o=0/\size=1/\agg=O then M (.own t)else J|_=>J
 |.load size agg,[.v p]=>(_o (fJ [] p size) (mk agg)).map .v|.lookup kk z ok,[.mp d,.v k]=>match bk m d with
  |some (.mp B)=>if sV kk k then match kj k B 0 with
   |some (M (_,v))=>M (.v (if ok then .tup [v,.bool U]else v))|some J=>M (.v (if ok then .tup [z,.bool O]else z))|none=>J
   else J
  |_=>J
 |.lookup kk z ok,[.v p,.v k]=>(gI [] (.lookup kk z ok) [p,k]).map .v|.loadF size agg,.ptr d o::l=>if l.all (Qz m d)=U then match bk m d with
  |some (.box cs)=>yJ size agg ((cs.drop o).take size)|_=>J
  else J
 |_,_=>J
def gw(fr:ST):SW->X'
 |[]=>U|.v _::r=>gw fr r|.ptr d _::r=> !(fr.contains d)&&gw fr r|.el d _ _::r=> !(fr.contains d)&&gw fr r|.mp d::r=> !(fr.contains d)&&gw fr r|_=>O
def qI(m:Tb bG)(a:Tt)(m?:SW)(d:Nat):aX (bG×SV):=
 match a,m? with
 |.alloc _ zero,[]=>M (.box (zero.map .v),.ptr d 0)|.box,[.v x]=>if x.cells.all V.one then M (.box (x.cells.map .v),.ptr d 0)else J|.box,[.agg l]=>if l.all (Bp m)then M (.box l,.ptr d 0)else J|.box,[x]=>if pz m x then M (.box [x],.ptr d 0)else J|.makeSl size zero,[.v (.int k n),.v (.int z c)]=>if k=_r/\z=_r/\0<=n/\n<=c/\c<=2147483648 then M (.sl (if n=c then .row else .part) size (replicate n.toNat zero),.own d)else J|.buildSl size len zero idx,u=>match dG u with
  |some w=>if W idx=W w then(gP size (replicate len zero) (idx.zip w)).map λB=>(.sl .row size B,.own d)else J|none=>match u,zero with
   |[.own t],[.bN]=>if idx=[0]/\len=1/\size=1/\(bk m t).isSome then M (.dp .row [[.bN]] (M (0,t)),.own d)else J|_,_=>J
 |.makeMap,[]=>M (.mp [],.mp d)|_,_=>J
def jP(m:Tb bG)(size:Nat):SV->aX S'
 |.own d=>match bk m d with
  |some (.sl k es xs)=>if cg k then(if es=size then M xs else J)else M []|_=>J
 |.v .bN=>M []|.v .dS=>M []|.v (.fsl es xs)=>if es=size then M xs else J|_=>J
def K3:SV->X'
 |.own _|.v .bN|.v .dS=>U|_=>O
def putCells(m:Tb bG)(size o:Nat)(sv:SV)(cs:SW):aX SW:=
 match sv with
 |.v x=>if W x.cells=size/\o+size<=W cs/\x.cells.all V.one=U then M (cs.take o++x.cells.map .v++cs.drop (o+size))else J|.agg l=>if W l=size/\o+size<=W cs/\l.all (Bp m)=U then M (cs.take o++l++cs.drop (o+size))else J|x=>if pz m x=U/\size=1/\o+1<=W cs then M (cs.take o++[x]++cs.drop (o+1))else J
def giveUp(m:Tb bG):SV->Tb bG
 |.own d=>dJ d m|_=>m
def Cs(st:St)(dst:aX Nat)(size:Nat)(s x:SV):aX (SV×St):=
 match s,x,dst with
 |.own d,.own e,M t=>match bk st.m d,bk st.m e with
  |some (.dp k w J),M (.dp .row u J)=>
   if size=1/\d≠e/\u≠[]/\W w+W u<=2147483648 then
    let z:=dJ e (dJ d st.m)
    if St.new {st with m:=z} t then M (.own t,{st with m:=bJ z t (.dp .row (w++u) J)})else J
   else J
  |_,_=>J
 |_,_,_=>J
def mO(st:St)(dst:aX Nat):On->SW->aX (SV×St)
 |.store size,[.ptr d o,x]=>match bk st.m d with
  |some (.box cs)=>(putCells st.m size o x cs).map λcs=>(.v .undef,{st with m:=bJ st.m d (.box cs)})|_=>J
 |.store size,[.el d i o,.v x]=>match bk st.m d with
  |some (.sl k es xs)=>match xs[i]?with
   |some cs=>if W x.cells=size/\o+size<=W cs/\x.cells.all V.one=U then
    M (.v .undef,{st with m:=bJ st.m d (.sl k es (xs.set i (cs.take o++x.cells++cs.drop (o+W x.cells))))})else J
   |none=>J
  |_=>J
 |.store size,[.el d i o,.own t]=>match bk st.m d with
  |some (.dp k xs (M (j,_)))=>if j=i/\o=0/\size=1/\(bk st.m t).isSome/\t≠d then M (.v .undef,{st with m:=bJ st.m d (.dp k xs (M (i,t)))})else J|_=>J
 |.mapUp kk,[.mp d,.v k,.v x]=>match bk st.m d with
  |some (.mp B)=>if sV kk k then(sR k x B).map λB=>(.v .undef,{st with m:=bJ st.m d (.mp B)})else J|_=>J
 |.append size,[s,x]=>match jP st.m size s,jP st.m size x with
  |some _,M []=>match dst with
   |some t=>match s with
    |.own d=>match bk st.m d with
     |some ob=>if St.new {st with m:=dJ d st.m} t then M (.own t,{st with m:=bJ (dJ d st.m) t ob})else J|none=>J
    |.v .bN=>if st.new t then M (.own t,{st with m:=bJ st.m t (.sl .nil size [])})else J|.v .dS=>if st.new t then M (.own t,{st with m:=bJ st.m t (.sl .emp size [])})else J|_=>J
   |none=>J
  |some xs,M ys=>
   if W xs+W ys<=2147483648/\K3 s=U then
    let m1:=giveUp st.m s
    match dst with
    |some t=>if St.new {st with m:=m1} t then M (.own t,{st with m:=bJ m1 t (.sl .row size (xs++ys))})else J|none=>J
   else J
  |_,_=>Cs st dst size s x
 |.storeF size,.ptr d o::x::l=>if l.all (Qz st.m d)=U then match bk st.m d with
  |some (.box cs)=>(putCells st.m size o x cs).map λcs=>(.v .undef,{st with m:=bJ st.m d (.box cs)})|_=>J
  else J
 |_,_=>J
def Di(st:St)(dst:aX Nat)(size:Nat)(lo hi:X')(d:Nat)(B:SW):aX (SV×St):=
 match bk st.m d,dG B,dst with
 |some (.sl k es u),M z,M t=>
  if cg k=U/\es=size then
   _o (pe lo hi z) λ(l,h)=>_o (eD (W u) l h) λ(l,h)=>
    let w:=dJ d st.m
    if St.new {st with m:=w} t then M (.own t,{st with m:=bJ w t (.sl .part es ((u.take h).drop l))})else J
  else J
 |_,_,_=>J
def zX:SW->SV
 |[x]=>x|l=>.tup l
mutual
def SV.Dn:SV->ST
 |.v _=>[]|.own e=>[e]|.ptr e _=>[e]|.el e _ _=>[e]|.mp e=>[e]|.clo _ a b=>SV.uw a++SV.uw b|.tup l=>SV.uw l|.agg l=>SV.uw l|.yl _=>[]
def SV.uw:SW->ST
 |[]=>[]|x::r=>SV.Dn x++SV.uw r
end
def bG.Dn:bG->ST
 |.box cs=>SV.uw cs|.dp _ _ (M (_,t))=>[t]|_=>[]
def reach(m:Tb bG):Nat->ST->ST->ST
 |0,_,seen=>seen|_+1,[],seen=>seen|n+1,d::r,seen=>if seen.contains d then reach m n r seen else reach m n ((match bk m d with|some ob=>bG.Dn ob|none=>[])++r) (seen++[d])
def handed(m:Tb bG)(l:SW):aX dN:=mb m (reach m 32 (SV.uw l) [])
mutual
def SV.bare:SV->X'
 |.v x=>x.scalar|.clo _ a b=>SV.Aa a&&SV.Aa b|.tup l=>SV.Aa l|.agg l=>SV.Aa l|_=>U
def SV.Aa:SW->X'
 |[]=>U|x::r=>SV.bare x&&SV.Aa r
end
def bG.bare:bG->X'
 |.box cs=>SV.Aa cs|_=>O
def zF(m:Tb bG)(k:Nat):X':=match bk m k with
 |some ob=>ob.bare|none=>U
def within(B:ST)(ob:bG):X':=ob.Dn.all B.contains
def Ae(B:ST)(m':dN):ST->Tb bG->aX (Tb bG)
 |[],m=>M m|d::r,m=>match bk m' d with
  |some ob=>if within B ob then Ae B m' r (bJ m d ob)else J|none=>J
def lB(m':dN)(l:ST)(m:Tb bG):aX (Tb bG):=Ae l m' l m
def mj(xs:S'):X':=xs.all λx=>x.all V.scalar
def Fu(q:JW)(dst:aX Nat)(args:SW)(st:St):aX (SV×St):=
 match args with
 |.own d::z=>match bk st.m d,dG z with
  |some (.sl k es u),M B=>match q.go es u B with
   |some w=>if q.part then match dst with
    |some t=>if St.new {st with m:=dJ d st.m} t then M (.own t,{st with m:=bJ (dJ d st.m) t (if cg k then .sl .part es w else .sl k es u)})else J|none=>J
    else M (.v .undef,{st with m:=bJ st.m d (if cg k then .sl k es w else .sl k es u)})
   |none=>J
  |_,_=>J
 |_=>J
def rowsOf(m:Tb bG):SW->aX ST
 |[]=>M []|.v _::r=>rowsOf m r|.own d::r=>match bk m d with
  |some (.sl ..)=>(rowsOf m r).map (d::·)|_=>J
 |_=>J
def e_(S:Sys)(c:b_)(dst:aX Nat)(dr now:X')(old:SW->X')(f:Y')(args:SW)(st:St):aX (SV×St):=
 if S.E.keep f then
  if now then
   if S.E.own f then
    match dH st.m 8 args with
    |some az=>
     match c f (az.map .v) []with
     |some (rs,m')=>match dG rs with
      |some u=>if(result u).scalar then M (.v (result u),st)else J|none=>match rs,dst with
       |.own e::i?,M t=>match bk m' e,dG i? with
        |some (.sl .row es z),M u=>
         if V.dm u&&mj z&&st.new t then
          M (zX (.own t::u.map .v),{st with m:=bJ st.m t (.sl .row es z)})
         else J
        |some (.sl .nil es _),M u=>if V.dm u&&st.new t then M (zX (.own t::u.map .v),{st with m:=bJ st.m t (.sl .nil es [])})else J|some (.sl .emp es _),M u=>if V.dm u&&st.new t then M (zX (.own t::u.map .v),{st with m:=bJ st.m t (.sl .emp es [])})else J|_,_=>J
       |_,_=>J
     |none=>J
    |none=>J
   else match S.prm f with
    |some q=>if dr then J else Fu q dst args st|none=>match handed st.m args with
    |some os=>match c f args os with
     |some (rs,m')=>match dG rs,lB m' (os.map (·.1)) st.m with
      |some u,M w=>if dr&& !(V.dm u&&os.all λx=>zF w x.1)then J else M (.v (result u),{st with m:=w})|none,M w=>if dr then J else match rs,dst with
       |.own e::i?,M t=>match bk m' e,dG i? with
        |some (.sl k es z),M u=>if !(os.map (·.1)).contains e&&St.new {st with m:=w} t then M (zX (.own t::u.map .v),{st with m:=bJ w t (.sl k es z)})else J|_,_=>J
       |.v p::.own e::i?,M t=>match bk m' e,dG i? with
        |some (.sl k es z),M u=>if !(os.map (·.1)).contains e&&St.new {st with m:=w} t then M (.tup (.v p::.own t::u.map .v),{st with m:=bJ w t (.sl k es z)})else J|_,_=>J
       |_,_=>J
      |_,_=>J
     |none=>J
    |none=>J
  else if(S.E.own f||S.E.soft f)&&old args then match dH st.m 8 args with
   |some az=>match c f (az.map .v) []with
    |some (rs,m')=>match dH m' 8 rs with
     |some u=>if(result u).scalar||(dG args).isSome then M (.v (result u),st)else J|none=>J
    |none=>J
   |none=>J
  else J
 else match dH st.m 8 args with
  |some az=>if now||old args then
   match c f (az.map .v) []with
   |some (rs,m')=>match dH m' 8 rs with
    |some u=>if(result u).scalar||(dG args).isSome then M (.v (result u),st)
     else if now then(rowsOf st.m args).map λds=>(.v (result u),{st with m:=sj ds st.m})
     else J
    |none=>J
   |none=>J
   else J
  |none=>J
def gm(m:Tb bG)(fr:ST)(args:SW):X':=fr.all λd=> !(SV.dX d args)&& !(vN d m)
def DN:K->X'
 |.p (.build zero _)=>V.c_ zero|.r (.lookup _ z _)=>z.good|.a (.alloc _ zero)=>V.c_ zero&&zero.all V.one|.a (.makeSl _ zero)=>V.c_ zero|.a (.buildSl _ _ zero _)=>V.c_ zero|_=>U
def ox(S:Sys)(c:b_)(dr:X')(fr:ST)(o:RO)(st:St):aX (SV×St):=
 match b9 S.N st.g o.az with
 |some u=>match o.k with
  |.p (.slice size lo hi)=>match u with
   |.own d::z=>if dr then J else Di st o.dst size lo hi d z|u=>(lP S.N st.m (.slice size lo hi) u).map λx=>(x,st)
  |.p p=>(lP S.N st.m p u).map λx=>(x,st)|.r r=>if !dr||o.now||gw fr u then(sn st.m r u).map λx=>(x,st)else J|.a a=>match o.dst with
   |some d=>if st.new d then(qI st.m a u d).map λ(ob,x)=>(x,{st with m:=bJ st.m d ob})else J|none=>J
  |.l l=>if !dr||o.now then mO st o.dst l u else J|.c=>match u with
   |.clo f a b::w=>e_ S c o.dst dr (!dr||o.now) (gm st.m fr) f (a++w++b) st|.v (.clo f a b)::w=>e_ S c o.dst dr (!dr||o.now) (gm st.m fr) f (a.map .v++w++b.map .v) st|_=>J
  |.b=>if dr then J else match u with
   |[x]=>_o (jP st.m 1 x) λB=>(nY B).map λl=>(.v (.str (tP l)),st)|_=>J
  |.e n=>match u with
   |[.v .bN,x]=>mO st o.dst (.append n) [.v .bN,x]|[.v .dS,x]=>mO st o.dst (.append n) [.v .dS,x]|_=>J
 |none=>J
def dA(st:St)(dst:aX Nat)(x:SV):St:=
 match dst with
 |none=>st|some d=>{st with g:=bJ st.g d x}
def wanted(g:Tb SV):aX (Nat×X')->aX X'
 |none=>M U|some (s,b)=>match bk g s with
  |some (.v (.bool c))=>M (c==b)|some (.v _)=>M O|_=>J
def Bl(o:RO):aX Nat:=
 match o.k with
 |.p _|.r _=>J|_=>o.dst
def tX(fr:ST)(o:RO):ST:=
 match Bl o with
 |some d=>d::fr|none=>fr
def bz(H:bt)(id:Nat):aX (Nat×S'):=_o (H[id]?) Ob.rows
mutual
theorem V.ov:∀{x:V},x.good=U->x.closed=U
 |.hsl ..,h|.hptr ..,h|.yld _,h|.hmap _,h=>by simp[V.good]at h|.fsl ..,_|.fptr ..,_|.fmap ..,_=>rfl|.bool _,_|.int ..,_|.str _,_|.dS,_|.bN,_|.jF,_|.iZ,_|.uV,_=>rfl|.clo _ a b,h=>by simp only[V.good,ζh]at h;simp only[V.closed,ζh];exact⟨V.qT h.1,V.qT h.2⟩|.agg cs,h=>by simp only[V.good]at h;simp only[V.closed];exact V.qT h|.tup cs,h=>by simp only[V.good]at h;simp only[V.closed];exact V.qT h
theorem V.qT:∀{l:aY V},V.c_ l=true->V.jI l=true
 | [],_=>rfl
 | x::r,h=>by
  simp only[V.c_,ζh]at h;simp only[V.jI,ζh];exact⟨V.ov h.1,V.qT h.2⟩
end
theorem jt:∀{l:So},V.c_ l=U↔∀(j:Nat)u,l[j]?=M u->u.good=U
 |[]=>by simp[V.c_]|x::l=>by simp[V.c_,jt];constructor;grind;intro h;exact⟨h 0 x Y,λj u a=>h (j+1) u g?⟩
theorem mY:∀{l:S'},V.pL l=U↔∀(j:Nat)u,l[j]?=M u->V.c_ u=U
 |[]=>by simp[V.pL]|x::l=>by simp[V.pL,mY];constructor;grind;intro h;exact⟨h 0 x Y,λj u a=>h (j+1) u g?⟩
def JP:∀{l:aY (V×V)},V.vO l=U↔∀(j:Nat)u,l[j]?=M u->u.1.good=U/\u.2.good=U
 |[]=>by simp[V.vO]|(k,x)::l=>by simp only[V.vO,ζh,JP];constructor;grind;intro h;exact⟨h 0 (k,x) Y,λj u a=>h (j+1) u g?⟩
theorem By{l:So}(n:Nat)(h:V.c_ l=U):V.c_ (l.drop n)=U:=jt.2 λj u a=>jt.1 h (n+j) u g?
inductive FR(H:bt)(Z:Nat->Prop):V->V->Prop
 |same(x:V)(h:x.good=true):FR H Z x x|fsl(es:Nat)(xs:List (List V))(id off:Nat)(ys:List (List V))(hz:Z id)(hr:bz H id=some (es,ys))(hl:off+xs.length<=ys.length)
  (hc:∀(i:Nat)a b,xs[i]?=some a->ys[off+i]?=some b->a.length=b.length)
  (hv:∀(i j:Nat)a b u v,xs[i]?=some a->ys[off+i]?=some b->a[j]?=some u->b[j]?=some v->FR H Z u v):FR H Z (.fsl es xs) (.hsl id es off xs.length)
 |fptr(xs:List V)(id el off es:Nat)(ys:List (List V))(cs:List V)(hz:Z id)(hr:bz H id=some (es,ys))(he:ys[el]?=some cs)(ho:off<=cs.length)(hx:xs.length=cs.length-off)
  (hv:∀(j:Nat)u v,xs[j]?=some u->cs[off+j]?=some v->FR H Z u v):FR H Z (.fptr xs) (.hptr id el off)
 |clo(f:FuncId)(a b a' b':List V)(ha:a.length=a'.length)(hb:b.length=b'.length)(hva:∀(j:Nat)u v,a[j]?=some u->a'[j]?=some v->FR H Z u v)(hvb:∀(j:Nat)u v,b[j]?=some u->b'[j]?=some v->FR H Z u v):FR H Z (.clo f a b) (.clo f a' b')|agg(a a':List V)(ha:a.length=a'.length)(hva:∀(j:Nat)u v,a[j]?=some u->a'[j]?=some v->FR H Z u v):FR H Z (.agg a) (.agg a')|tup(a a':List V)(ha:a.length=a'.length)(hva:∀(j:Nat)u v,a[j]?=some u->a'[j]?=some v->FR H Z u v):FR H Z (.tup a) (.tup a')
def dL(H:bt)(Z:Nat->Prop)(xs ys:So):Prop:=W xs=W ys/\∀(j:Nat)u v,xs[j]?=M u->ys[j]?=M v->FR H Z u v
def gZ(H:bt)(Z:Nat->Prop)(xs ys:S'):Prop:=W xs=W ys/\∀(j:Nat)u v,xs[j]?=M u->ys[j]?=M v->dL H Z u v
section
variable{H H':bt}{Z Z':Nat->Prop}
def FR.mono(h:∀id,Z id->Z' id/\bz H' id=bz H id){x y:V}(r:FR H Z x y):FR H' Z' x y:=by induction r with|same x h=>exact .same x h|fsl es B id off C D hr d hc hv G=>exact .fsl es B id off C (h id D).1 g? d hc G|fptr B id el off es C cs D hr L i Q hv G=>exact .fptr B id el off es C cs (h id D).1 g? L i Q G|clo f a b w S z T hva g u I=>exact .clo f a b w S z T u I|agg a w z hva u=>exact .agg a w z u|tup a w z hva u=>exact .tup a w z u
def dL.mono(h:∀id,Z id->Z' id/\bz H' id=bz H id){x y:So}(r:dL H Z x y):dL H' Z' x y:=⟨r.1,λj u v a b=>(r.2 j u v a b).mono h⟩
def gZ.mono(h:∀id,Z id->Z' id/\bz H' id=bz H id){x y:S'}(r:gZ H Z x y):gZ H' Z' x y:=⟨r.1,λj u v a b=>(r.2 j u v a b).mono h⟩
def dL.nil:dL H Z [] []:=⟨Y,f?⟩
def dL.cons{x y:V}{xs ys:So}(h:FR H Z x y)(r:dL H Z xs ys):dL H Z (x::xs) (y::ys):=by refine⟨by simp[r.1],λj u v a b=>?_⟩;cases j with|zero=>grind|succ j=>exact r.2 j u v g? g?
def dL.inv{x:V}{xs B:So}(r:dL H Z (x::xs) B):∃y ys,B=y::ys/\FR H Z x y/\dL H Z xs ys:=by cases B with|nil=>have:=r.1;grind|cons y ys=>refine⟨y,ys,Y,r.2 0 x y Y Y,by have:=r.1;grind,λj u v a b=>r.2 (j+1) u v g? g?⟩
def dL.dx{B:So}(r:dL H Z [] B):B=[]:=by have:=r.1;grind
theorem dL.get{xs ys:So}(r:dL H Z xs ys){j:Nat}{u:V}(h:xs[j]?=M u):∃v,ys[j]?=M v/\FR H Z u v:=by
 have w:=(ζe.1 h).1;have:j<W ys:=by rw[<-r.1];omega
 exact⟨ys[j],ζd this,r.2 j u _ h (ζd this)⟩
theorem gZ.get{xs ys:S'}(r:gZ H Z xs ys){j:Nat}{u:So}(h:xs[j]?=M u):∃v,ys[j]?=M v/\dL H Z u v:=by
 have w:=(ζe.1 h).1;have:j<W ys:=by rw[<-r.1];omega
 exact⟨ys[j],ζd this,r.2 j u _ h (ζd this)⟩
def dL.append{a b c d:So}(h:dL H Z a b)(k:dL H Z c d):dL H Z (a++c) (b++d):=by refine⟨by simp[h.1,k.1],λj u v e f=>?_⟩;by_cases w:j<W a;rw[u? w]at e;rw[u? (by rw[<-h.1];omega)]at f;exact h.2 j u v e f;rw[H? a?]at e;rw[H? (by rw[<-h.1];omega),<-h.1]at f;exact k.2 _ u v e f
def gZ.append{a b c d:S'}(h:gZ H Z a b)(k:gZ H Z c d):gZ H Z (a++c) (b++d):=by refine⟨by simp[h.1,k.1],λj u v e f=>?_⟩;by_cases w:j<W a;rw[u? w]at e;rw[u? (by rw[<-h.1];omega)]at f;exact h.2 j u v e f;rw[H? a?]at e;rw[H? (by rw[<-h.1];omega),<-h.1]at f;exact k.2 _ u v e f
def dL.take{a b:So}(h:dL H Z a b)(n:Nat):dL H Z (a.take n) (b.take n):=by
 refine⟨by simp[h.1],λj u v c d=>?_⟩;rw[J?]at c d;split at c;next w=>rw[L' w]at d;exact h.2 j u v c d
 grind
def dL.drop{a b:So}(h:dL H Z a b)(n:Nat):dL H Z (a.drop n) (b.drop n):=by refine⟨by simp[h.1],λj u v c d=>?_⟩;rw[M?]at c d;exact h.2 _ u v c d
def gZ.take{a b:S'}(h:gZ H Z a b)(n:Nat):gZ H Z (a.take n) (b.take n):=by
 refine⟨by simp[h.1],λj u v c d=>?_⟩;rw[J?]at c d;split at c;next w=>rw[L' w]at d;exact h.2 j u v c d
 grind
def gZ.drop{a b:S'}(h:gZ H Z a b)(n:Nat):gZ H Z (a.drop n) (b.drop n):=by refine⟨by simp[h.1],λj u v c d=>?_⟩;rw[M?]at c d;exact h.2 _ u v c d
theorem dL.set{a b:So}(h:dL H Z a b)(n:Nat){x y:V}(B:FR H Z x y):dL H Z (a.set n x) (b.set n y):=by refine⟨by simp[h.1],λj u v c d=>?_⟩;rw[D?]at c d;split at c;grind;rename_i e;rw[M' e]at d;exact h.2 j u v c d
theorem gZ.set{a b:S'}(h:gZ H Z a b)(n:Nat){x y:So}(B:dL H Z x y):gZ H Z (a.set n x) (b.set n y):=by refine⟨by simp[h.1],λj u v c d=>?_⟩;rw[D?]at c d;split at c;grind;rename_i e;rw[M' e]at d;exact h.2 j u v c d
theorem dL.same{l:So}(h:V.c_ l=U):dL H Z l l:=⟨Y,λj u v a b=>by rw[a]at b;cases b;exact .same u (jt.1 h j u a)⟩
def FR.good{x y:V}(r:FR H Z x y):x.good=U:=by induction r with|same x h=>omega|fsl es C id off D G hr o hc hv I=>refine mY.2 λi a z=>jt.2 λj u c=>?_;grind|fptr C id el off es D cs G hr Q S T hv I=>refine jt.2 λj u c=>?_;grind|clo f a b B g z q hva d w L=>simp[V.good];refine⟨jt.2 λj u c=>?_,jt.2 λj u c=>?_⟩;grind;grind|agg a B z hva w=>refine jt.2 λj u c=>?_;grind|tup a B z hva w=>simp[V.good];refine jt.2 λj u c=>?_;grind
theorem FR.closed {x y:V} (r:FR H Z x y):x.closed=true:=V.ov r.good
def dL.good{xs ys:So}(r:dL H Z xs ys):V.c_ xs=U:=jt.2 λj u a=>by have⟨v,_,h⟩:=r.get a;exact h.good
def gZ.good{xs ys:S'}(r:gZ H Z xs ys):V.pL xs=U:=mY.2 λj u a=>by have⟨v,_,h⟩:=r.get a;exact h.good
def FR.bool{b:X'}{y:V}(r:FR H Z (.bool b) y):y=.bool b:=by cases r;rfl
def FR.int{k:T2}{n:Int}{y:V}(r:FR H Z (.int k n) y):y=.int k n:=by cases r;rfl
def FR.str{s:U'}{y:V}(r:FR H Z (.str s) y):y=.str s:=by cases r;rfl
def FR.dS{y:V}(r:FR H Z .dS y):y=.dS:=by cases r;rfl
def FR.bN{y:V}(r:FR H Z .bN y):y=.bN:=by cases r;rfl
def FR.jF{y:V}(r:FR H Z .jF y):y=.jF:=by cases r;rfl
def FR.iZ{y:V}(r:FR H Z .iZ y):y=.iZ:=by cases r;rfl
def FR.uV{y:V}(r:FR H Z .uV y):y=.uV:=by cases r;rfl
def FR.fmap{B:aY (V×V)}{y:V}(r:FR H Z (.fmap B) y):y=.fmap B:=by cases r;rfl
def FR.kf{a:So}{y:V}(r:FR H Z (.agg a) y):∃a',y=.agg a'/\dL H Z a a':=by cases r with|same _ h=>exact⟨a,rfl,.same (by simpa[V.good]using h)⟩|agg _ a' u hva=>exact⟨a',Y,u,hva⟩
def FR.tw{a:So}{y:V}(r:FR H Z (.tup a) y):∃a',y=.tup a'/\dL H Z a a':=by cases r with|same _ h=>exact⟨a,rfl,.same (by simpa[V.good]using h)⟩|tup _ a' u hva=>exact⟨a',Y,u,hva⟩
def FR.mC{f:Y'}{a b:So}{y:V}(r:FR H Z (.clo f a b) y):∃a' B,y=.clo f a' B/\dL H Z a a'/\dL H Z b B:=by cases r with|same _ h=>simp[V.good]at h;exact⟨a,b,rfl,.same h.1,.same h.2⟩|clo _ _ _ a' B w z hva u=>exact⟨a',B,Y,⟨w,hva⟩,⟨z,u⟩⟩
def FR.oI{es:Nat}{xs:S'}{y:V}(r:FR H Z (.fsl es xs) y):y=.fsl es xs\/
 ∃id off ys,y=.hsl id es off (W xs)/\Z id/\bz H id=M (es,ys)/\off+W xs<=W ys/\gZ H Z xs ((ys.drop off).take (W xs)):=by
 cases r with
 |same _ h=>grind|fsl _ _ id off ys z hr B hc hv=>
  refine .inr ⟨id,off,ys,Y,z,hr,B,by simp;omega,λj u v a w=>?_⟩
  have C:=(ζe.1 a).1;rw[J?,L' C,M?]at w;exact⟨hc j u v a w,λi s t D G=>hv j i u v s t a w D G⟩
def FR.Gi{es:Nat}{xs:S'}{id off:Nat}{ys:S'}(B:Z id)(c:bz H id=M (es,ys))(D:off+W xs<=W ys)(h:gZ H Z xs ((ys.drop off).take (W xs))):
 FR H Z (.fsl es xs) (.hsl id es off (W xs)):=by
 have key:∀(i:Nat)a b,xs[i]?=M a->ys[off+i]?=M b->dL H Z a b:=λi a b w z=>by refine h.2 i a b w ?_;grind
 exact .fsl es xs id off ys B c D (λi a b w z=>(key i a b w z).1) (λi j a b u v w z d e=>(key i a b w z).2 j u v d e)
def FR.oS{xs:So}{y:V}(r:FR H Z (.fptr xs) y):y=.fptr xs\/
 ∃id el off es ys cs,y=.hptr id el off/\Z id/\bz H id=M (es,ys)/\ys[el]?=M cs/\off<=W cs/\dL H Z xs (cs.drop off):=by
 cases r with
 |same _ h=>grind|fptr _ id el off es ys cs w hr z B D hv=>
  refine .inr ⟨id,el,off,es,ys,cs,Y,w,hr,z,B,o?,λj u v a C=>?_⟩
  grind
def FR.G_{xs:So}{id el off es:Nat}{ys:S'}{cs:So}(B:Z id)(a:bz H id=M (es,ys))(D:ys[el]?=M cs)(G:off<=W cs)(h:dL H Z xs (cs.drop off)):FR H Z (.fptr xs) (.hptr id el off):=.fptr xs id el off es ys cs B a D G (by have:=h.1;grind) (λj u v b c=>h.2 j u v b g?)
def FR.cells{x y:V}(r:FR H Z x y):dL H Z x.cells y.cells:=by
 have one:∀{a b:V},FR H Z a b->dL H Z [a] [b]:=λh=>.cons h .nil
 cases r with
 |same _ h=>cases x<;>first|exact one (.same _ h)|(exact dL.same h)
 |fsl es z id off B C hr G hc hv=>exact one (.fsl es z id off B C hr G hc hv)|fptr z id el off es B cs C hr I d L hv=>exact one (.fptr z id el off es B cs C hr I d L hv)|clo f a b w g u Q hva D=>exact one (.clo f a b w g u Q hva D)|agg a w u hva=>exact⟨u,hva⟩|tup a w u hva=>exact one (.tup a w u hva)
def FR.one{x y:V}(r:FR H Z x y):y.one=x.one:=by cases r<;>rfl
def dL.one:∀{xs ys:So},dL H Z xs ys->ys.all V.one=xs.all V.one
 |[],ys,r=>by rw[r.dx]|x::xs,D,r=>by obtain⟨y,ys,rfl,h,B⟩:=r.inv;simp[h.one,B.one]
def tZ:∀{l:So},V.dm l=U↔∀(j:Nat)u,l[j]?=M u->u.scalar=U
 |[]=>by simp[V.dm]|x::l=>by simp[V.dm,tZ];constructor;grind;intro h;exact⟨h 0 x Y,λj u a=>h (j+1) u g?⟩
def FR.scalar{x y:V}(r:FR H Z x y):(x.scalar=U->y=x)/\y.scalar=x.scalar:=by
 have key:∀(a w:So),W a=W w->(∀(j:Nat)u v,a[j]?=M u->w[j]?=M v->(u.scalar=U->v=u)/\v.scalar=u.scalar)->(V.dm a=U->w=a)/\V.dm w=V.dm a:=by intro a w B G;have b:V.dm a=U->w=a:=(by intro I;refine(List.ext_getElem B λj b C=>?_).symm;exact(((G j _ _ (ζd b) (ζd C)).1 (tZ.1 I j _ (ζd b)))).symm);refine⟨b,?_⟩;cases I:V.dm a with|true=>grind|false=>cases D:V.dm w with|false=>rfl|true=>have:V.dm a=U:=tZ.2 λj u c=>(by have d:j<W w:=g?;have:=(G j u _ c (ζd d)).2;rw[<-this];exact tZ.1 D j _ (ζd d));grind
 induction r with|same x h=>grind|fsl=>exact⟨λh=>by simp[V.scalar]at h,rfl⟩|fptr=>exact⟨λh=>by simp[V.scalar]at h,rfl⟩|clo=>exact⟨λh=>by simp[V.scalar]at h,rfl⟩|agg a w B hva z=>have⟨b,C⟩:=key a w B z;exact⟨λh=>by rw[b (by simpa[V.scalar]using h)],by simpa[V.scalar]using C⟩|tup a w B hva z=>have⟨b,C⟩:=key a w B z;exact⟨λh=>by rw[b (by simpa[V.scalar]using h)],by simpa[V.scalar]using C⟩
def dL.scalar{a a':So}(r:dL H Z a a'):(V.dm a=U->a'=a)/\V.dm a'=V.dm a:=by have⟨b,u⟩:=FR.scalar (.tup a a' r.1 r.2);simp[V.scalar]at b u;grind
def ue:∀{l:So}{a:Rd},jV l=M a->V.dm l=U
 |[],_,_=>rfl|x::l,a,h=>by unfold jV at h;split at h;grind;(next n r e=>cases e;have⟨b,B,_⟩:=ζf.1 h;simp[V.dm,V.scalar];exact ue B);grind
end
mutual
theorem lV:∀{x:V},x.scalar=U->x.good=U
 |.bool _,_|.int ..,_|.str _,_|.jF,_|.iZ,_|.uV,_|.dS,_|.bN,_=>rfl|.agg cs,h=>by simp only[V.scalar]at h;simp only[V.good];exact sF h|.tup cs,h=>by simp only[V.scalar]at h;simp only[V.good];exact sF h|.fsl ..,h|.hsl ..,h|.fptr ..,h|.hptr ..,h|.clo ..,h|.yld _,h|.fmap _,h|.hmap _,h=>by simp[V.scalar]at h
theorem sF:∀{l:aY V},V.dm l=true->V.c_ l=true
 | [],_=>rfl
 | x::r,h=>by
  simp only[V.dm,ζh]at h;simp only[V.c_,ζh];exact⟨lV h.1,sF h.2⟩
end
section
variable{H H':bt}{Z Z':Nat->Prop}
def mT{f:V->aX V}:∀{xs ys:So},W xs=W ys->(∀(j:Nat)u v,xs[j]?=M u->ys[j]?=M v->f v=M u)->jN f ys=M xs
 |[],[],_,_=>rfl|[],y::ys,h,_=>o?|x::xs,[],h,_=>o?|x::xs,y::ys,h,B=>by simp[jN,B 0 x y Y Y,mT (xs:=xs) (ys:=ys) g? λj u v a b=>B (j+1) u v g? g?]
def MX{f:V->aX V}:∀{xs ys:S'},W xs=W ys->(∀(j:Nat)u v,xs[j]?=M u->ys[j]?=M v->jN f v=M u)->oc f ys=M xs
 |[],[],_,_=>rfl|[],y::ys,h,_=>o?|x::xs,[],h,_=>o?|x::xs,y::ys,h,B=>by simp[oc,B 0 x y Y Y,MX (xs:=xs) (ys:=ys) g? λj u v a b=>B (j+1) u v g? g?]
def rX:∀{l:So},V.jI l=U↔∀(j:Nat)u,l[j]?=M u->u.closed=U
 |[]=>by simp[V.jI]|x::l=>by simp[V.jI,rX];constructor;grind;intro h;exact⟨h 0 x Y,λj u a=>h (j+1) u g?⟩
def oO:∀{l:So}{n:Nat},V.nQ n l=U↔∀(j:Nat)u,l[j]?=M u->u.lvl n=U
 |[],n=>by simp[V.nQ]|x::l,n=>by simp[V.nQ,oO];constructor;grind;intro h;exact⟨h 0 x Y,λj u a=>h (j+1) u g?⟩
def Jn:∀{l:S'}{n:Nat},V.sC n l=U↔∀(j:Nat)u,l[j]?=M u->V.nQ n u=U
 |[],n=>by simp[V.sC]|x::l,n=>by simp[V.sC,Jn];constructor;grind;intro h;exact⟨h 0 x Y,λj u a=>h (j+1) u g?⟩
theorem fI(n:Nat)(H:bt){x:V}(h:x.closed=U):borrow n H x=M x:=lg n H h
theorem FR.borrow{x y:V}(r:FR H Z x y):∀n,x.lvl n=true->borrow n H y=some x:=by
 induction r with
 |same x h=>grind[fI,V.ov]|fsl es o id off q W hr X hc d L=>intro n z;cases n with|zero=>grind[V.lvl]|succ n=>unfold Go.VE.borrow;unfold bz at hr;simp only[V.closed,v?,_a,hr,true_and,L' X,ζf];refine⟨o,MX (by simp;omega) λj u v c B=>?_,rfl⟩;have Y:=(ζe.1 c).1;rw[J?,L' Y,M?]at B;refine mT (hc j u v c B) λi s t Q e=>L j i u v s t c B Q e n (oO.1 (Jn.1 z j u c) i s Q)
 |fptr o id el off es q cs W hr he ho hx d L=>intro n z;cases n with|zero=>grind[V.lvl]|succ n=>unfold Go.VE.borrow;unfold bz at hr;simp only[V.closed,v?,_a,hr,he,L' ho,ζf];refine⟨o,mT o? λj u v c B=>?_,rfl⟩;rw[M?]at B;exact L j u v c B n (oO.1 z j u c)
 |clo f a b D S G T hva aa C I=>intro n z;cases n with|zero=>grind[V.lvl]|succ n=>simp[V.lvl]at z;by_cases w:(V.clo f D S).closed=true;rw[fI _ _ w];simp[V.closed]at w;have e1:D=a:=(by have:=mT G λj u v c d=>C j u v c d n (oO.1 z.1 j u c);have A:=mT rfl λj u v c d=>(by rw[c]at d;cases d;exact fI n H (rX.1 w.1 j u c));grind);have e2:S=b:=(by have:=mT T λj u v c d=>I j u v c d n (oO.1 z.2 j u c);have A:=mT rfl λj u v c d=>(by rw[c]at d;cases d;exact fI n H (rX.1 w.2 j u c));grind);simp_all;unfold Go.VE.borrow;rw[M' w];simp[mT G λj u v c d=>C j u v c d n (oO.1 z.1 j u c),mT T λj u v c d=>I j u v c d n (oO.1 z.2 j u c)]
 |agg a D G hva C=>intro n z;cases n with|zero=>grind[V.lvl]|succ n=>have g:=mT G λj u v c d=>C j u v c d n (oO.1 z j u c);by_cases w:(V.agg D).closed=true;rw[fI _ _ w];have A:=mT rfl λj u v c d=>(by rw[c]at d;cases d;exact fI n H (rX.1 w j u c));grind;grind[Go.VE.borrow]
 |tup a D G hva C=>intro n z;cases n with|zero=>grind[V.lvl]|succ n=>have g:=mT G λj u v c d=>C j u v c d n (oO.1 z j u c);by_cases w:(V.tup D).closed=true;rw[fI _ _ w];have A:=mT rfl λj u v c d=>(by rw[c]at d;cases d;exact fI n H (rX.1 w j u c));grind;grind[Go.VE.borrow]
def sS{f:V->ST}{k:Nat}:∀{l:So},k∈dz f l->∃(j:Nat)(u:V),l[j]?=M u/\k∈f u
 |[],h=>by grind[dz]|x::l,h=>by simp[dz]at h;rcases h with h|h;exact⟨0,x,Y,h⟩;have⟨j,u,b,a⟩:=sS h;exact⟨j+1,u,g?,a⟩
structure Deep(H:bt)(Z:Nat->Prop):Prop where
 row:∀id es ys,Z id->bz H id=some (es,ys)->∀c∈ys,∀u∈c,∃x,FR H Z x u
theorem FR.cF(hd:Deep H Z):∀(n:Nat){x y:V},FR H Z x y->∀k∈cF n H y,Z k
 |0,x,y,r,k,d=>by grind[Go.VE.cF]|n+1,x,y,r,k,d=>by
  unfold Go.VE.cF at d;split at d;simp_all;rename_i T;have pt:∀(a a':So),dL H Z a a'->k∈dz (Go.VE.cF n H) a'->Z k:=λa a' h d=>by obtain⟨j,u,e,z⟩:=sS d;have L:j<a.length:=(by rw[h.1];grind);exact FR.cF hd n (h.2 j _ u (ζd L) e) k z
  have row:∀(id:Nat)es w(l:So),Z id->bz H id=some (es,w)->(∀u∈l,∃c∈w,u∈c)->k∈dz (Go.VE.cF n H) l->Z k:=λid es w l B hr I d=>by obtain⟨j,u,e,z⟩:=sS d;obtain⟨c,g,D⟩:=I u (s? e);obtain⟨x,i⟩:=hd.row id es w B hr c g u D;exact FR.cF hd n i k z
  cases r with
  |same _ h=>grind[V.ov]|fsl es q id off w B hr I g hv=>simp only[n']at d;rcases d with rfl|d;exact B;rw[show(H[id]?).bind Ob.rows=some (es,w)from hr]at d;grind[List.mem_flatten]
  |fptr q id el off es w cs B hr o W i hv=>simp only[n']at d;rcases d with rfl|d;exact B;rw[show(H[id]?).bind Ob.rows=some (es,w)from hr]at d;grind
  |clo f a b a' Q C S hva G=>simp at d;rcases d with d|d;exact pt a a' ⟨C,hva⟩ d;exact pt b Q ⟨S,G⟩ d
  |agg a a' C hva=>exact pt a a' ⟨C,hva⟩ d|tup a a' C hva=>exact pt a a' ⟨C,hva⟩ d
theorem dL.cut{cs ys r:So}{off n:Nat}(h:dL H Z cs ys)(a:cut cs off n=M r):∃B,Go.VE.cut ys off n=M B/\dL H Z r B:=by unfold Go.VE.cut at a⊢;have u:=(h.drop off).take n;dsimp only at a⊢;split at a;simp at a;subst a;exact⟨_,by rw[L' (by rw[<-u.1];omega)],u⟩;grind
theorem dL.mk{agg:X'}{cs ys:So}{x:V}(h:dL H Z cs ys)(B:mk agg cs=M x):∃y,Go.VE.mk agg ys=M y/\FR H Z x y:=by unfold Go.VE.mk at B⊢;split at B;simp at B;subst B;exact⟨_,g?,.agg _ _ h.1 h.2⟩;split at B;simp at B;obtain⟨y,ys,rfl,a,u⟩:=h.inv;rw[u.dx];grind;grind
theorem dL.fill:∀{pl:aY (Nat×Nat)}{vs B cells cells' r:So},dL H Z cells cells'->dL H Z vs B->mW cells pl vs=M r->∃D,mW cells' pl B=M D/\dL H Z r D
 |[],vs,B,cells,cells',r,hc,hv,h=>by cases vs with|nil=>rw[hv.dx];grind[mW]|cons v vs=>grind[mW]
 |(off,size)::pl,vs,B,cells,cells',r,hc,hv,h=>by cases vs with|nil=>grind[mW]|cons v vs=>obtain⟨w,B,rfl,a,G⟩:=hv.inv;have k:=a.cells;simp only[mW]at h⊢;rw[<-k.1,<-hc.1];split at h;simp_all;rename_i e;rw[M' e];exact dL.fill (((hc.take off).append k).append (hc.drop _)) G h
def FR.xB{k:KT}{x y G d:V}{b:X'}(B:FR H Z x G)(D:FR H Z y d)(h:rR k x y=M b):rR k G d=M b:=by unfold rR at h;split at h;rw[B.bN,D.bN];exact h;rw[D.bN];rcases B.oI with rfl|⟨_,_,_,rfl,_⟩<;>exact h;exact _e B.closed (by simp[V.closed]);rw[B.jF,D.jF];exact h;rw[D.jF];rcases B.oS with rfl|⟨_,_,_,_,_,_,rfl,_⟩<;>exact h;exact _e B.closed (by simp[V.closed]);rw[B.iZ,D.iZ];exact h;rw[D.iZ,B.fmap];exact h;exact _e B.closed (by simp[V.closed]);grind
theorem FR.nE{a b a' B:So}{r:X'}(D:dL H Z a a')(G:dL H Z b B)(h:nE a b=M r):Go.VE.nE a' B=M r:=by unfold Go.VE.nE at h;split at h;rename_i u v c d;rw[D.scalar.1 (ue c),G.scalar.1 (ue d)];grind[Go.VE.nE];grind
def CA{k:KT}{x y:V}{b:X'}(h:rR k x y=M b):(y=.bN/\(x=.bN\/(∃es xs,x=.fsl es xs)\/∃id es off len,x=.hsl id es off len))\/
 (y=.jF/\(x=.jF\/(∃cs,x=.fptr cs)\/∃id el off,x=.hptr id el off))\/(y=.iZ/\(x=.iZ\/(∃B,x=.fmap B)\/∃id,x=.hmap id)):=by
 unfold rR at h
 grind
def MQ{k:aX KT}{e:aX Nat}{op:BinOp}{x y:V}(D:(y=.bN/\(x=.bN\/(∃es xs,x=.fsl es xs)\/∃id es off len,x=.hsl id es off len))\/
 (y=.jF/\(x=.jF\/(∃cs,x=.fptr cs)\/∃id el off,x=.hptr id el off))\/(y=.iZ/\(x=.iZ\/(∃B,x=.fmap B)\/∃id,x=.hmap id))):
 pg k e op x y=(match k,op with
 |some k,.eql=>(rR k x y).map .bool|some k,.neq=>(rR k x y).map λt=>.bool !t|_,_=>J):=by
 rcases D with⟨rfl,rfl|⟨_,_,rfl⟩|⟨_,_,_,_,rfl⟩⟩|⟨rfl,rfl|⟨_,rfl⟩|⟨_,_,_,rfl⟩⟩|⟨rfl,rfl|⟨_,rfl⟩|⟨_,rfl⟩⟩<;>cases k<;>cases op<;>rfl
def N0{k:aX KT}{e:aX Nat}{op:BinOp}{x y z:V}(h:pg k e op x y=M z):z.good=U:=by
 have w:∀{o:aX X'}{z:V},o.map V.bool=M z->z.good=U:=λh=>by obtain⟨_,_,rfl⟩:=ζf.1 h;rfl
 have u:∀{o:aX X'}{z:V},(o.map λt=>V.bool !t)=M z->z.good=U:=λh=>by obtain⟨_,_,rfl⟩:=ζf.1 h;rfl
 unfold pg at h;(repeat' split at h)<;>first|(simp at h;subst h;rfl)|exact w h|exact u h|simp at h
def FR.bin{k:aX KT}{e:aX Nat}{op:BinOp}{x y G d z:V}(B:FR H Z x G)(D:FR H Z y d)(h:pg k e op x y=M z):pg k e op G d=M z:=by
 have L:=h;unfold pg at h;split at h;rw[B.int,D.int];omega;rw[B.str,D.str];omega;rw[B.bool,D.bool];omega;obtain⟨g,rfl,w⟩:=B.kf;obtain⟨Q,rfl,I⟩:=D.kf;split at h;split at h;next C=>obtain⟨r,a,rfl⟩:=ζf.1 h;simp[pg,<-w.1,C,FR.nE w I a]
 grind;split at h;next C=>obtain⟨r,a,rfl⟩:=ζf.1 h;simp[pg,<-w.1,C,FR.nE w I a]
 grind;grind;split at h;obtain⟨r,a,rfl⟩:=ζf.1 h;have u:=FR.xB B D a;rw[MQ (CA u)];grind;obtain⟨r,a,rfl⟩:=ζf.1 h;have u:=FR.xB B D a;rw[MQ (CA u)];grind;grind
def FR.slice{size:Nat}{x d z:V}{l h:Ps}(D:FR H Z x d)(B:jW size x l h=M z):∃T,jW size d l h=M T/\FR H Z z T:=by
 have C:∀{n lo hi:Nat},eD n l h=M (lo,hi)->hi<=n/\lo<=hi:=by grind[eD]
 unfold jW at B;split at B;rename_i es I;split at B;rename_i Q;obtain⟨⟨lo,hi⟩,G,rfl⟩:=ζf.1 B;have⟨S,g⟩:=C G;rcases D.oI with rfl|⟨id,off,o,rfl,L,hr,X,i⟩;refine⟨_,by grind[jW],.same _ ?_⟩;have b:=D.good;refine mY.2 λj u a=>?_;rw[M?,J?]at a;split at a;exact mY.1 b _ u a;grind;refine⟨.hsl id es (off+lo) (hi-lo),by grind[jW],?_⟩;have w:W ((I.take hi).drop lo)=hi-lo:=o?;rw[<-w];refine FR.Gi L hr g? ?_;have:=(i.take hi).drop lo;grind[List.drop_take,A!];grind;exact _e D.closed (by simp[V.closed]);rw[D.dS];obtain⟨_,G,rfl⟩:=ζf.1 B;exact⟨.dS,by grind[jW],.same _ Y⟩;rw[D.bN];obtain⟨_,G,rfl⟩:=ζf.1 B;exact⟨.bN,by grind[jW],.same _ Y⟩;grind
def dL.pe{lo hi:X'}{G D:So}{r:Ps×Ps}(h:dL H Z G D)(B:pe lo hi G=M r):Go.VE.pe lo hi D=M r:=by unfold Go.VE.pe at B;split at B;rw[h.dx];exact B;obtain⟨_,_,rfl,a,u⟩:=h.inv;rw[a.int,u.dx];exact B;obtain⟨_,_,rfl,a,u⟩:=h.inv;rw[a.int,u.dx];exact B;obtain⟨_,_,rfl,a,u⟩:=h.inv;obtain⟨_,_,rfl,w,z⟩:=u.inv;rw[a.int,w.int,z.dx];exact B;grind
theorem dL.bW {N:Nat->FuncId} {p:xS} {xs ys:aY V} {z:V} (W:∀zero pl,p=.build zero pl->V.c_ zero=true) (h:dL H Z xs ys) (hp:bW N p xs=some z):∃g,Go.VE.bW N p ys=some g/\FR H Z z g:=by
 unfold Go.VE.bW at hp;split at hp
 .
  obtain⟨y,_,rfl,h1,w⟩:=h.inv;rw[w.dx];simp only[ζa]at hp;subst hp;exact⟨y,rfl,h1⟩
 .
  rename_i t a b;obtain⟨w1,_,rfl,h1,w⟩:=h.inv;obtain⟨w2,_,rfl,C,B⟩:=w.inv;obtain⟨w3,_,rfl,T,A⟩:=B.inv;rw[h1.bool,A.dx];simp only[ζa]at hp;subst hp;refine⟨if t=true then w2 else w3,rfl,?_⟩
  grind
 .
  obtain⟨y,_,rfl,h1,w⟩:=h.inv;rw[w.dx];unfold PD at hp;split at hp
  .exact _e h1.closed (by simp[V.closed])
  .simp only[ζa]at hp;subst hp;rcases h1.oS with rfl|⟨_,_,_,_,_,_,rfl,_⟩
   .exact⟨_,rfl,h1⟩
   exact⟨_,rfl,h1⟩
  .simp only[ζa]at hp;subst hp;obtain⟨_,_,rfl,_⟩:=h1.mC;exact⟨_,rfl,h1⟩
  simp at hp
 .
  obtain⟨_,_,rfl,h1,w⟩:=h.inv;obtain⟨_,_,rfl,C,B⟩:=w.inv;rw[B.dx];exact⟨z,FR.bin h1 C hp,.same _ (N0 hp)⟩
 .obtain⟨_,_,rfl,h1,w⟩:=h.inv;rw[h1.bool,w.dx];simp only[ζa]at hp;subst hp;exact⟨_,rfl,.same _ rfl⟩
 .obtain⟨_,_,rfl,h1,w⟩:=h.inv;rw[h1.int,w.dx];simp only[ζa]at hp;subst hp;exact⟨_,rfl,.same _ rfl⟩
 .obtain⟨_,_,rfl,h1,w⟩:=h.inv;rw[h1.int,w.dx];simp only[ζa]at hp;subst hp;exact⟨_,rfl,.same _ rfl⟩
 .
  rename_i off p;obtain⟨y,_,rfl,h1,w⟩:=h.inv;rw[w.dx];unfold tq at hp;split at hp
  .split at hp
   .rename_i cs ho;simp only[ζa]at hp;subst hp;rcases h1.oS with rfl|⟨id,el,o,es,ys,ds,rfl,Q,hr,q,X,L⟩
    .have hg:=h1.good;simp only[V.good]at hg;exact⟨_,by grind[Go.VE.bW,tq],.same _ (by grind[V.good,By])⟩
    refine⟨.hptr id el (o+off),rfl,FR.G_ Q hr q (by have:=L.1;grind) ?_⟩
    have:=L.drop off;rw[List.drop_drop]at this;exact this
   simp at hp
  .exact _e h1.closed (by simp[V.closed])
  simp at hp
 .
  rename_i off size agg cs;obtain⟨y,_,rfl,h1,w⟩:=h.inv;rw[w.dx];obtain⟨Y,rfl,hc⟩:=h1.kf;obtain⟨r,hr,hm⟩:=ζg.1 hp;obtain⟨r',S,D⟩:=hc.cut hr;obtain⟨g,G,I⟩:=D.mk hm
  grind[Go.VE.bW]
 .
  rename_i size s k n;obtain⟨y,_,rfl,h1,w⟩:=h.inv;obtain⟨_,_,rfl,C,B⟩:=w.inv;rw[C.int,B.dx];unfold oh at hp;split at hp
  .simp at hp
  rename_i hn;split at hp
  .rename_i es xs;split at hp
   .rename_i q;obtain⟨c,hc,rfl⟩:=ζf.1 hp;rcases h1.oI with rfl|⟨id,off,ys,rfl,Q,hr,hl,L⟩
    .have hg:=h1.good;simp only[V.good]at hg;exact⟨_,by grind[Go.VE.bW,oh],.same _ (by grind[V.good,mY])⟩
    have hj:n.toNat<xs.length:=(ζe.1 hc).1;obtain⟨d,hd,ab⟩:=L.get hc;rw[List.getElem?_take,L' hj,List.getElem?_drop]at hd;exact⟨.hptr id (off+n.toNat) 0,by grind[Go.VE.bW,oh],FR.G_ Q hr hd f? g?⟩
   simp at hp
  .exact _e h1.closed (by simp[V.closed])
  simp at hp
 .
  rename_i len size s k n;obtain⟨y,_,rfl,h1,w⟩:=h.inv;obtain⟨_,_,rfl,C,B⟩:=w.inv;rw[C.int,B.dx];unfold z8 at hp;split at hp
  .rename_i hn;split at hp
   .split at hp
    .rename_i cs ho;simp only[ζa]at hp;subst hp;rcases h1.oS with rfl|⟨id,el,o,es,ys,ds,rfl,Q,hr,q,X,L⟩
     .have hg:=h1.good;simp only[V.good]at hg;exact⟨_,by grind[Go.VE.bW,z8],.same _ (by grind[V.good,By])⟩
     refine⟨.hptr id el (o+n.toNat*size),by grind[Go.VE.bW,z8],FR.G_ Q hr q (by have:=L.1;grind) ?_⟩
     have:=L.drop (n.toNat*size);rw[List.drop_drop]at this;exact this
    simp at hp
   .exact _e h1.closed (by simp[V.closed])
   simp at hp
  simp at hp
 .
  rename_i s k n;obtain⟨y,_,rfl,h1,w⟩:=h.inv;obtain⟨_,_,rfl,C,B⟩:=w.inv;rw[h1.str,C.int,B.dx];split at hp
  next hn=>obtain⟨c,hc,rfl⟩:=ζf.1 hp;exact⟨_,by grind[Go.VE.bW],.same _ rfl⟩
  simp at hp
 .
  rename_i len size agg cs k n;obtain⟨y,_,rfl,h1,w⟩:=h.inv;obtain⟨_,_,rfl,C,B⟩:=w.inv;rw[C.int,B.dx];obtain⟨Y,rfl,hc⟩:=h1.kf;split at hp
  .rename_i hn;obtain⟨r,hr,hm⟩:=ζg.1 hp;obtain⟨r',S,D⟩:=hc.cut hr;obtain⟨g,G,I⟩:=D.mk hm
   grind[Go.VE.bW]
  simp at hp
 .
  rename_i lo hi s bs;obtain⟨y,_,rfl,h1,w⟩:=h.inv;rw[h1.str];obtain⟨⟨l,h'⟩,hb,hp⟩:=ζg.1 hp;obtain⟨⟨l2,ad⟩,aa,rfl⟩:=ζf.1 hp;exact⟨_,by simp only[Go.VE.bW,w.pe hb,ζb,aa,Option.map_some],.same _ rfl⟩
 .
  rename_i size lo hi s bs;obtain⟨y,_,rfl,h1,w⟩:=h.inv;obtain⟨⟨l,h'⟩,hb,hp⟩:=ζg.1 hp;obtain⟨g,G,I⟩:=FR.slice h1 hp;exact⟨g,by simp only[Go.VE.bW,w.pe hb,ζb,G],I⟩
 .
  obtain⟨y,_,rfl,h1,w⟩:=h.inv;obtain⟨_,_,rfl,C,B⟩:=w.inv;obtain⟨_,_,rfl,T,A⟩:=B.inv;rw[C.int,T.int,A.dx];split at hp
  .rename_i hc;simp only[ζa]at hp;subst hp;refine⟨.dS,?_,.same _ rfl⟩;simp only[ζh]at hc;have:Pa y=true:=by
    have h0:=hc.1.1;unfold Pa at h0;split at h0
    .rcases h1.oI with rfl|⟨_,_,_,rfl,_⟩ <;> rfl
    .exact _e h1.closed (by simp[V.closed])
    .rw[h1.dS];rfl
    .rw[h1.bN];rfl
    simp at h0
   grind[Go.VE.bW]
  simp at hp
 .
  rename_i vs zero pl;obtain⟨r,hr,rfl⟩:=ζf.1 hp;obtain⟨r',S,D⟩:=dL.fill (dL.same (W zero pl rfl)) h hr;exact⟨.agg r',by grind[Go.VE.bW],.agg _ _ D.1 D.2⟩
 .
  rename_i vs name k;simp only[ζa]at hp;subst hp;exact⟨_,rfl,.clo _ _ _ _ _ (h.take k).1 (h.drop k).1 (h.take k).2 (h.drop k).2⟩
 .
  rename_i i vs;obtain⟨y,_,rfl,h1,w⟩:=h.inv;rw[w.dx];obtain⟨ws,rfl,hw⟩:=h1.tw;obtain⟨g,G,I⟩:=hw.get hp;exact⟨g,G,I⟩
 .
  obtain⟨y,_,rfl,h1,w⟩:=h.inv;rw[h1.str,w.dx];simp only[ζa]at hp;subst hp;exact⟨_,rfl,.same _ rfl⟩
 .
  obtain⟨y,_,rfl,h1,w⟩:=h.inv;rw[w.dx];unfold qP at hp;split at hp
  .simp only[ζa]at hp;subst hp;rcases h1.oI with rfl|⟨_,_,_,rfl,_⟩ <;> exact⟨_,rfl,.same _ rfl⟩
  .exact _e h1.closed (by simp[V.closed])
  .rw[h1.dS];simp only[ζa]at hp;subst hp;exact⟨_,rfl,.same _ rfl⟩
  .rw[h1.bN];simp only[ζa]at hp;subst hp;exact⟨_,rfl,.same _ rfl⟩
  simp at hp
 .
  obtain⟨y,_,rfl,h1,w⟩:=h.inv;rw[w.dx];unfold KR at hp;split at hp
  .rw[h1.bN];simp only[ζa]at hp;subst hp;exact⟨_,rfl,.same _ rfl⟩
  .rw[h1.dS];simp only[ζa]at hp;subst hp;exact⟨_,rfl,.same _ rfl⟩
  simp at hp
 .
  obtain⟨_,_,rfl,h1,w⟩:=h.inv;obtain⟨_,_,rfl,C,B⟩:=w.inv;rw[h1.int,C.int,B.dx];split at hp
  next e=>simp only[ζa]at hp;subst hp;exact⟨_,by grind[Go.VE.bW],.same _ rfl⟩
  simp at hp
 .
  obtain⟨_,_,rfl,h1,w⟩:=h.inv;obtain⟨_,_,rfl,C,B⟩:=w.inv;obtain⟨_,_,rfl,T,A⟩:=B.inv;obtain⟨_,_,rfl,h7,h8⟩:=A.inv;rw[h1.int,C.int,T.int,h7.int,h8.dx];split at hp
  next e=>simp only[ζa]at hp;subst hp;exact⟨_,by grind[Go.VE.bW],.same _ rfl⟩
  simp at hp
 .
  obtain⟨_,_,rfl,h1,w⟩:=h.inv;obtain⟨_,_,rfl,C,B⟩:=w.inv;rw[h1.int,C.int,B.dx];split at hp
  next e=>simp only[ζa]at hp;subst hp;exact⟨_,by grind[Go.VE.bW],.same _ rfl⟩
  simp at hp
 .
  obtain⟨_,_,rfl,h1,w⟩:=h.inv;obtain⟨_,_,rfl,C,B⟩:=w.inv;rw[h1.int,C.int,B.dx];split at hp
  .rename_i e;simp only[ζa]at hp;subst hp;refine⟨_,by grind[Go.VE.bW],.same _ ?_⟩
   grind[V.good,mY,jt,lV]
  simp at hp
 .
  split at hp
  .rename_i hc;obtain rfl:=h.scalar.1 hc.1;split at hp
   .rename_i xs ae;split at hp
    .rename_i hx;simp only[ζa]at hp;subst hp;refine⟨_,by grind[Go.VE.bW],.same _ ?_⟩
     simp only[V.good];exact mY.2 λj u hu=>jt.2 λi v hv=>lV (List.all_eq_true.1 (List.all_eq_true.1 hx.2 u (List.mem_of_getElem? hu)) v (List.mem_of_getElem? hv))
    simp at hp
   simp at hp
  simp at hp
 .simp only[ζa]at hp;subst hp;rw[h.dx];exact⟨_,rfl,.same _ rfl⟩
 simp at hp
end
def qE(p:Nat×Nat)(k:Fl)(es len:Nat):V:=
 match k with
 |.nil=>.bN|.emp=>.dS|_=>.hsl p.1 es p.2 len
structure Nu where
 pl:Nat->Nat×Nat
 inn:Nat->Nat->Nat
instance:CoeFun Nu λ_=>Nat->Nat×Nat:=⟨Nu.pl⟩
def Nu.at(ν:Nu)(d:Nat):Nat->Nat
 |0=>(ν d).1|i+1=>ν.inn d i
inductive Shp where
 |sl(k:Fl)(es n:Nat)|box|mp
def bG.xT:bG->Shp
 |.sl k es xs=>.sl k es (W xs)|.dp k xs _=>.sl k 1 (W xs)|.box _=>.box|.mp _=>.mp
inductive di(ν:Nu)(m:Tb bG)(H:bt)(Z:Nat->Prop):SV->V->Prop
 |v(x y:V)(h:FR H Z x y):di ν m H Z (.v x) y|own(d:Nat)(y:V)(h:∀ob,bk m d=some ob->∃k es n,ob.xT=.sl k es n/\y=qE (ν d) k es n):di ν m H Z (.own d) y|ptr(d o:Nat)(y:V)(h:∀ob,bk m d=some ob->∃cs,ob=.box cs/\y=.hptr (ν d).1 0 o):di ν m H Z (.ptr d o) y|el(d i o:Nat)(y:V)(h:∀ob,bk m d=some ob->∃k es n,ob.xT=.sl k es n/\cg k=true/\y=.hptr (ν d).1 ((ν d).2+i) o):di ν m H Z (.el d i o) y|mp(d:Nat)(y:V)(h:∀ob,bk m d=some ob->∃kvs,ob=.mp kvs/\y=.hmap (ν d).1):di ν m H Z (.mp d) y|clo(f:FuncId)(a b:List SV)(a' b':List V)(ha:a.length=a'.length)(hb:b.length=b'.length)
  (hva:∀(j:Nat)u v,a[j]?=some u->a'[j]?=some v->di ν m H Z u v) (hvb:∀(j:Nat)u v,b[j]?=some u->b'[j]?=some v->di ν m H Z u v):di ν m H Z (.clo f a b) (.clo f a' b')
 |tup(a:List SV)(a':List V)(ha:a.length=a'.length)(hva:∀(j:Nat)u v,a[j]?=some u->a'[j]?=some v->di ν m H Z u v):di ν m H Z (.tup a) (.tup a')|agg(a:List SV)(a':List V)(ha:a.length=a'.length)(hva:∀(j:Nat)u v,a[j]?=some u->a'[j]?=some v->di ν m H Z u v):di ν m H Z (.agg a) (.agg a')|yl(id:Nat):di ν m H Z (.yl id) (.yld id)
def cr(ν:Nu)(m:Tb bG)(H:bt)(Z:Nat->Prop)(xs:SW)(ys:So):Prop:=W xs=W ys/\∀(j:Nat)u v,xs[j]?=M u->ys[j]?=M v->di ν m H Z u v
def eU:bG->X'
 |.sl k _ _|.dp k _ _=>cg k|_=>U
def bG.pt(ob:bG):Nat->X'
 |0=>eU ob|i+1=>match ob with
  |.dp _ xs h=>(match h with|some (j,_)=>j != i|none=>U)&&(match xs[i]?with|some [.fsl ..]=>U|_=>O)|_=>O
def gj(ν:Nu)(m:Tb bG)(id:Nat):Prop:=∃d ob j,bk m d=M ob/\ob.pt j=U/\ν.at d j=id
def wS(H:bt)(Z:Nat->Prop)(ys:S'):Prop:=∀c∈ys,∀u∈c,∃x,FR H Z x u
def GN(H:bt)(Z:Nat->Prop)(a b:aY (V×V)):Prop:=W a=W b/\∀(j:Nat)u v,a[j]?=M u->b[j]?=M v->(u.1=v.1/\u.1.scalar=U)/\FR H Z u.2 v.2
def xU(ν:Nu)(H:bt)(Z:Nat->Prop)(d i:Nat)(x y:So):Prop:=(x=y/\(x=[.bN]\/x=[.dS]))\/∃es u w,x=[.fsl es u]/\y=[.hsl (ν.inn d i) es 0 (W u)]/\H[ν.inn d i]?=M (.row es w)/\gZ H Z u w
def qQ(ν:Nu)(m:Tb bG)(H:bt)(Z:Nat->Prop)(d:Nat)(h:aX (Nat×Nat))(i:Nat)(x y:So):Prop:=
 match h with
 |some (j,t)=>if j=i then∃v,y=[v]/\v.one=U/\di ν m H Z (.own t) v else xU ν H Z d i x y|none=>xU ν H Z d i x y
def dy(ν:Nu)(m:Tb bG)(H:bt)(Z:Nat->Prop)(d:Nat):bG->Prop
 |.sl k es xs=>if cg k then∃ys,H[(ν d).1]?=M (.row es ys)/\(ν d).2+W xs<=W ys/\gZ H Z xs ((ys.drop (ν d).2).take (W xs))/\wS H Z ys/\(k=.row->(ν d).2=0/\W ys=W xs)
  else xs=[]
 |.box cs=>∃es D,H[(ν d).1]?=M (.row es [D])/\cr ν m H Z cs D/\D.all V.one=U|.mp G=>∃B,H[(ν d).1]?=M (.map B)/\GN H Z G B|.dp k xs h=>if cg k then k=.row/\(ν d).2=0/\(∀i t,h=M (i,t)->i<W xs)/\∃ys,H[(ν d).1]?=M (.row 1 ys)/\W ys=W xs/\∀i x y,xs[i]?=M x->ys[i]?=M y->qQ ν m H Z d h i x y
  else xs=[]/\h=J
structure R(ν:Nu)(Z:Nat->Prop)(st:St)(F:Frame)(H:bt):Prop where
 slot:∀s sv,bk st.g s=some sv->di ν st.m H Z sv (get F s)
 obj:∀d ob,bk st.m d=some ob->dy ν st.m H Z d ob
 inj:∀d d' ob l? j j',bk st.m d=some ob->bk st.m d'=some l?->ob.pt j=true->l?.pt j'=true->ν.at d j=ν.at d' j'->d=d'/\j=j'
 apart:∀d ob j,bk st.m d=some ob->ob.pt j=true->¬Z (ν.at d j)
 zrow:∀id,Z id->(bz H id).isSome=true
 deep:Deep H Z
def sameShape(a b:bG):Prop:=b.xT=a.xT
def sameShape.refl(o:bG):sameShape o o:=rfl
def sameShape.trans{a b c:bG}(h:sameShape a b)(k:sameShape b c):sameShape a c:=Eq.trans k h
structure Ev(Rv:Nat->Prop)(ν:Nu)(Z:Nat->Prop)(st:St)(H:bt)(ν':Nu)(Z':Nat->Prop)(e?:St)(H':bt):Prop where
 len:H.length<=H'.length
 same:∀id,id<H.length->¬gj ν st.m id->¬Z id->¬Rv id->H'[id]?=H[id]?
 rows:∀id,Z id->Z' id/\bz H' id=bz H id
 own:∀id,gj ν' e?.m id->gj ν st.m id\/Rv id\/H.length<=id
 frz:∀id,Z' id->Z id\/gj ν st.m id\/Rv id\/H.length<=id
 pin:∀d∈st.pin,∀l?,bk e?.m d=some l?->∃ob,bk st.m d=some ob/\ν' d=ν d/\sameShape ob l?
 pins:e?.pin=st.pin
section
variable{Rv Rv':Nat->Prop}{ν ν' ν2:Nu}{Z Z' Z2:Nat->Prop}{st e? st2:St}{m m':Tb bG}{F F':WP}{H H' H2:bt}
def Ev.refl:Ev Rv ν Z st H ν Z st H:=⟨x? _,λ_ _ _ _ _=>rfl,λ_ h=>⟨h,Y⟩,λ_ h=>.inl h,λ_ h=>.inl h,λ_ _ u h=>⟨u,h,Y,.refl _⟩,Y⟩
def Ev.trans(a:Ev Rv ν Z st H ν' Z' e? H')(b:Ev Rv ν' Z' e? H' ν2 Z2 st2 H2):Ev Rv ν Z st H ν2 Z2 st2 H2 where
 len:=V? a.len b.len
 same:=λid B u C hr=>by rw[b.same id (Nat.lt_of_lt_of_le B a.len) (λh=>(a.own id h).elim u λh=>h.elim hr λh=>a?) (λh=>(a.frz id h).elim C λh=>h.elim u λh=>h.elim hr λh=>a?) hr,a.same id B u C hr]
 rows:=λid h=>⟨(b.rows id (a.rows id h).1).1,by rw[(b.rows id (a.rows id h).1).2,(a.rows id h).2]⟩
 own:=λid h=>by rcases b.own id h with h|h|h;exact a.own id h;grind;exact .inr (.inr (V? a.len h))
 frz:=λid h=>by rcases b.frz id h with h|h|h|h;exact a.frz id h;rcases a.own id h with h|h|h;grind;grind;grind;grind;exact .inr (.inr (.inr (V? a.len h)))
 pin:=λd hd w h=>by have⟨z,c,G,D⟩:=b.pin d (by rw[a.pins];omega) w h;have⟨ob,k1,k2,k3⟩:=a.pin d hd z c;exact⟨ob,k1,o?,k3.trans D⟩
 pins:=by rw[b.pins,a.pins]
def Ev.weak(h:∀id,Rv id->Rv' id)(a:Ev Rv ν Z st H ν' Z' e? H'):Ev Rv' ν Z st H ν' Z' e? H':=⟨a.len,λid u w z hr=>a.same id u w z (λk=>hr (h id k)),a.rows,λid k=>(a.own id k).imp (λx=>x) (.imp (h id) (λx=>x)),λid k=>(a.frz id k).imp (λx=>x) (.imp (λx=>x) (.imp (h id) (λx=>x))),a.pin,a.pins⟩
theorem cD{α:Type}:∀(g:Tb α)(n:Nat)(v:α),bk (bJ g n v) n=M v
 |[],n,v=>by simp[bJ,bk]|(k,x)::r,n,v=>by simp[bJ];split;(next h=>simp[bk,h]);rename_i h;simp[bk,h,cD r n v]
def cW{α:Type}:∀(g:Tb α){n k:Nat}(v:α),n≠k->bk (bJ g n v) k=bk g k
 |[],n,k,v,h=>by simp[bJ,bk,h]|(j,x)::r,n,k,v,h=>by simp[bJ];split;(next a=>subst a;simp[bk,h]);simp[bk];split;rfl;exact cW r v h
def sG{α:Type}:∀{g:Tb α}{n:Nat}{v:α},bk g n=M v->bJ g n v=g
 |[],n,v,h=>by cases h|(k,x)::r,n,v,h=>by simp[bk]at h;simp[bJ];split;grind;rename_i e;rw[M' e]at h;rw[sG h]
def zh{α:Type}:∀(g:Tb α)(n:Nat),bk (dJ n g) n=J
 |[],n=>rfl|(k,x)::r,n=>by simp[dJ];split;exact zh r n;rename_i a;simp[bk];rw[M' a];exact zh r n
def y_{α:Type}:∀(g:Tb α){n k:Nat},n≠k->bk (dJ n g) k=bk g k
 |[],n,k,h=>rfl|(j,x)::r,n,k,h=>by simp[dJ];split;(next a=>subst a;simp[bk];rw[M' h];exact y_ r h);simp[bk];split;rfl;exact y_ r h
theorem m_{α:Type}{g:Tb α}{n k:Nat}{v:α}(h:bk (dJ n g) k=M v):n≠k/\bk g k=M v:=by by_cases e:n=k;subst e;rw[zh]at h;simp_all;rw[y_ g e]at h;grind
def qZ{α:Type}{k:Nat}{v:α}:∀{ds:ST}{g:Tb α},bk (sj ds g) k=M v->bk g k=M v
 |[],_,h=>h|d::ds,g,h=>(m_ (qZ h)).2
def tG{α:Type}{g:Tb α}{k:Nat}{v:α}:∀{l:ST}{r:Tb α},mb g l=M r->bk r k=M v->bk g k=M v
 |[],r,h,B=>by simp[mb]at h;subst h;simp[bk]at B|n::l,r,h,B=>by simp[mb]at h;split at h;rename_i w t G D;simp at h;subst h;simp[bk]at B;split at B;grind;exact tG D B;grind
def BL{d:Nat}:∀{g:Tb SV}{s:Nat}{sv:SV},wT d g=O->bk g s=M sv->sv.cZ d=O
 |[],_,_,_,h=>by simp[bk]at h|(k,x)::r,s,sv,h,B=>by simp[wT]at h;simp[bk]at B;split at B;grind;exact BL h.2 B
def uN{d:Nat}:∀{g:Tb bG}{s:Nat}{ob:bG},vN d g=O->bk g s=M ob->ob.cZ d=O
 |[],_,_,_,h=>by simp[bk]at h|(k,x)::r,s,sv,h,B=>by simp[vN]at h;simp[bk]at B;split at B;grind;exact uN h.2 B
theorem wC{d:Nat}:∀{l:SW}{j:Nat}{u:SV},SV.dX d l=O->l[j]?=M u->u.cZ d=O
 |[],_,_,_,h=>o?|x::r,j,u,h,B=>by simp[SV.dX]at h;cases j with|zero=>grind|succ j=>exact wC h.2 (by simpa using B)
def uT{d:Nat}:∀{l:SW}{j:Nat}{u:SV},l[j]?=M u->u.cZ d=U->SV.dX d l=U
 |[],_,_,h,_=>o?|x::r,j,u,h,B=>by simp[SV.dX];cases j with|zero=>grind|succ j=>exact .inr (uT (j:=j) g? B)
def di.mono{sv:SV}{y:V}(T:∀id,Z id->Z' id/\bz H' id=bz H id)
 (r:di ν m H Z sv y)(B:∀d,sv.cZ d=U->∀l?,bk m' d=M l?->∃ob,bk m d=M ob/\ν' d=ν d/\sameShape ob l?):di ν' m' H' Z' sv y:=by
 induction r with
 |v x y h=>exact .v x y (h.mono T)|own d y h=>
  refine .own d y λl? z=>?_
  have⟨ob,e,C,D⟩:=B d (by simp[SV.cZ]) l? z
  obtain⟨k,es,n,q,rfl⟩:=h ob e;exact⟨k,es,n,Eq.trans D q,by rw[C]⟩
 |ptr d o y h=>
  refine .ptr d o y λl? z=>?_
  have⟨ob,e,C,D⟩:=B d (by simp[SV.cZ]) l? z
  obtain⟨cs,rfl,rfl⟩:=h ob e;cases l?<;>cases D;exact⟨_,rfl,by rw[C]⟩
 |el d i o y h=>
  refine .el d i o y λl? z=>?_
  have⟨ob,e,C,D⟩:=B d (by simp[SV.cZ]) l? z
  obtain⟨k,es,n,q,A,rfl⟩:=h ob e;exact⟨k,es,n,Eq.trans D q,A,by rw[C]⟩
 |mp d y h=>
  refine .mp d y λl? z=>?_
  have⟨ob,e,C,D⟩:=B d (by simp[SV.cZ]) l? z
  obtain⟨cs,rfl,rfl⟩:=h ob e;cases l?<;>cases D;exact⟨_,rfl,by rw[C]⟩
 |clo f a b G Q I S hva t w L=>exact .clo f a b G Q I S (λj u v c g=>w j u v c g λd hd=>B d (by simp[SV.cZ,uT c hd])) (λj u v c g=>L j u v c g λd hd=>B d (by simp[SV.cZ,uT c hd]))|tup a G I hva w=>exact .tup a G I (λj u v c g=>w j u v c g λd hd=>B d (by simp[SV.cZ,uT c hd]))|agg a G I hva w=>exact .agg a G I (λj u v c g=>w j u v c g λd hd=>B d (by simp[SV.cZ,uT c hd]))|yl id=>exact .yl id
def cr.mono{sv:SW}{y:So}(B:∀id,Z id->Z' id/\bz H' id=bz H id)(r:cr ν m H Z sv y)(D:∀d,SV.dX d sv=U->∀l?,bk m' d=M l?->∃ob,bk m d=M ob/\ν' d=ν d/\sameShape ob l?):cr ν' m' H' Z' sv y:=⟨r.1,λj u v a b=>(r.2 j u v a b).mono B λd hd=>D d (uT a hd)⟩
def cr.nil:cr ν m H Z [] []:=⟨Y,f?⟩
def cr.cons{x:SV}{y:V}{xs:SW}{ys:So}(h:di ν m H Z x y)(r:cr ν m H Z xs ys):cr ν m H Z (x::xs) (y::ys):=by refine⟨by simp[r.1],λj u v a b=>?_⟩;cases j with|zero=>grind|succ j=>exact r.2 j u v g? g?
def cr.inv{x:SV}{xs:SW}{B:So}(r:cr ν m H Z (x::xs) B):∃y ys,B=y::ys/\di ν m H Z x y/\cr ν m H Z xs ys:=by cases B with|nil=>have:=r.1;grind|cons y ys=>refine⟨y,ys,Y,r.2 0 x y Y Y,by have:=r.1;grind,λj u v a b=>r.2 (j+1) u v g? g?⟩
def cr.dx{B:So}(r:cr ν m H Z [] B):B=[]:=by have:=r.1;grind
theorem cr.get{xs:SW}{ys:So}(r:cr ν m H Z xs ys){j:Nat}{u:SV}(h:xs[j]?=M u):∃v,ys[j]?=M v/\di ν m H Z u v:=by
 have w:=(ζe.1 h).1;have:j<W ys:=by rw[<-r.1];omega
 exact⟨ys[j],ζd this,r.2 j u _ h (ζd this)⟩
def cr.append{a c:SW}{b d:So}(h:cr ν m H Z a b)(k:cr ν m H Z c d):cr ν m H Z (a++c) (b++d):=by refine⟨by simp[h.1,k.1],λj u v e f=>?_⟩;by_cases w:j<W a;rw[u? w]at e;rw[u? (by rw[<-h.1];omega)]at f;exact h.2 j u v e f;rw[H? a?]at e;rw[H? (by rw[<-h.1];omega),<-h.1]at f;exact k.2 _ u v e f
def cr.take{a:SW}{b:So}(h:cr ν m H Z a b)(n:Nat):cr ν m H Z (a.take n) (b.take n):=by
 refine⟨by simp[h.1],λj u v c d=>?_⟩;rw[J?]at c d;split at c;next w=>rw[L' w]at d;exact h.2 j u v c d
 grind
def cr.drop{a:SW}{b:So}(h:cr ν m H Z a b)(n:Nat):cr ν m H Z (a.drop n) (b.drop n):=by refine⟨by simp[h.1],λj u v c d=>?_⟩;rw[M?]at c d;exact h.2 _ u v c d
theorem di.fr{x y:V}(r:di ν m H Z (.v x) y):FR H Z x y:=by cases r;assumption
def cr.tg{xs ys:So}(r:dL H Z xs ys):cr ν m H Z (xs.map .v) ys:=by refine⟨by simp[r.1],λj u v a b=>?_⟩;rw[List.getElem?_map,ζf]at a;obtain⟨x,w,rfl⟩:=a;exact .v x v (r.2 j x v w b)
def x8:∀{m?:SW}{xs:So},dG m?=M xs->m?=xs.map .v
 |[],xs,h=>by simp[dG]at h;grind|x::r,xs,h=>by(cases x<;>simp only[dG]at h<;>first|grind|skip);obtain⟨t,B,rfl⟩:=ζf.1 h;rw[x8 B];rfl
def cr.frl{xs ys:So}(r:cr ν m H Z (xs.map .v) ys):dL H Z xs ys:=by refine⟨by have:=r.1;grind,λj u v b a=>?_⟩;have:(xs.map SV.v)[j]?=M (.v u):=g?;exact(r.2 j _ v this a).fr
end
section
variable{ν:Nu}{Z:Nat->Prop}{st:St}{m:Tb bG}{F:WP}{H H1:bt}{N:Nat->Y'}
def si(nm:Y'->aX Nat):UV->aX Arg
 |.tmp t=>M (.s t)|.const v=>match ofValue 4 v with
  |some c=>if c.good then M (.k c)else J|none=>J
 |.func f=>(nm f).map .f|.global g=>match b7.gl g with
  |some cs=>if(V.fptr cs).good then M (.k (.fptr cs))else J|none=>J
def HI{nm:Y'->aX Nat}(D:∀f s,nm f=M s->N s=f){g:Tb SV}(G:∀s sv,bk g s=M sv->di ν m H Z sv (get F s)){o:UV}{x:Arg}{sv:SV}(B:si nm o=M x)(a:tO N g x=M sv):
 ∃y,ev F o=M y/\di ν m H Z sv y:=by
 cases o with
 |tmp t=>simp[si]at B;subst B;exact⟨get F t,rfl,G t sv a⟩|const w=>
  simp[si]at B;split at B
  .rename_i c hc;split at B
   next u=>simp at B;subst B;simp[tO]at a;subst a;exact⟨c,hc,.v _ _ (.same _ u)⟩
   grind
  grind
 |func f=>simp[si]at B;obtain⟨z,C,rfl⟩:=B;simp[tO]at a;subst a;exact⟨_,rfl,.v _ _ (by rw[D f z C];exact .same _ rfl)⟩|global i=>
  simp[si]at B;split at B
  .rename_i c hc;split at B
   next u=>simp at B;subst B;simp[tO]at a;subst a;exact⟨.fptr c,by simp[ev,hc],.v _ _ (.same _ u)⟩
   grind
  grind
def rA{nm:Y'->aX Nat}(D:∀f s,nm f=M s->N s=f){g:Tb SV}(G:∀s sv,bk g s=M sv->di ν m H Z sv (get F s)):∀{os:aY UV}{xs:QR}{m?:SW},
 os.mapM (si nm)=M xs->b9 N g xs=M m?->∃ys,gz F os=M ys/\cr ν m H Z m? ys
 |[],xs,m?,B,hv=>by simp at B;subst B;simp[b9]at hv;subst hv;exact⟨[],rfl,.nil⟩|o::os,xs,m?,B,hv=>by simp[ζg]at B;obtain⟨x,d,ys,T,rfl⟩:=B;simp[b9]at hv;split at hv;(next v C b w=>simp at hv;subst hv;have⟨a,B,z⟩:=HI D G d b;have⟨az,c,u⟩:=rA D G T w;exact⟨a::az,by grind[gz],.cons z u⟩);grind
def di.iT{d:Nat}{y:V}(r:di ν m H Z (.own d) y){ob:bG}(h:bk m d=M ob):∃k es n,ob.xT=.sl k es n/\y=qE (ν d) k es n:=by cases r with|own _ _ u=>grind
def di.rV{d o:Nat}{y:V}(r:di ν m H Z (.ptr d o) y){ob:bG}(h:bk m d=M ob):∃cs,ob=.box cs/\y=.hptr (ν d).1 0 o:=by cases r with|ptr _ _ _ u=>grind
def di.xL{d i o:Nat}{y:V}(r:di ν m H Z (.el d i o) y){ob:bG}(h:bk m d=M ob):∃k es n,ob.xT=.sl k es n/\cg k=U/\y=.hptr (ν d).1 ((ν d).2+i) o:=by cases r with|el _ _ _ _ u=>grind
def di.FV{d:Nat}{y:V}(r:di ν m H Z (.mp d) y){ob:bG}(h:bk m d=M ob):∃B,ob=.mp B/\y=.hmap (ν d).1:=by cases r with|mp _ _ u=>grind
def di.mC{f:Y'}{a b:SW}{y:V}(r:di ν m H Z (.clo f a b) y):∃a' B,y=.clo f a' B/\cr ν m H Z a a'/\cr ν m H Z b B:=by cases r with|clo _ _ _ a' B w z hva u=>exact⟨a',B,Y,⟨w,hva⟩,⟨z,u⟩⟩
def di.tw{a:SW}{y:V}(r:di ν m H Z (.tup a) y):∃a',y=.tup a'/\cr ν m H Z a a':=by cases r with|tup _ a' u hva=>exact⟨a',Y,u,hva⟩
def di.kf{a:SW}{y:V}(r:di ν m H Z (.agg a) y):∃a',y=.agg a'/\cr ν m H Z a a':=by cases r with|agg _ a' u hva=>exact⟨a',Y,u,hva⟩
def qN{p:Nat×Nat}{k:Fl}{es len:Nat}(h:cg k=U):qE p k es len=.hsl p.1 es p.2 len:=by cases k<;>simp[cg]at h<;>rfl
def lU{x:SV}{y:V}(h:pz m x=U)(r:di ν m H Z x y):y.cells=[y]/\y.one=U:=by cases x with|v x=>grind[pz]|own d=>have⟨ob,u⟩:=isSome_iff_exists.1 h;obtain⟨k,es,n,_,rfl⟩:=r.iT u;cases k<;>exact⟨rfl,rfl⟩|ptr d o=>have⟨ob,u⟩:=isSome_iff_exists.1 h;obtain⟨cs,rfl,rfl⟩:=r.rV u;exact⟨rfl,rfl⟩|el d i o=>have⟨ob,u⟩:=isSome_iff_exists.1 h;obtain⟨k,es,n,_,_,rfl⟩:=r.xL u;exact⟨rfl,rfl⟩|mp d=>have⟨ob,u⟩:=isSome_iff_exists.1 h;obtain⟨w,rfl,rfl⟩:=r.FV u;exact⟨rfl,rfl⟩|clo f a b=>obtain⟨z,B,rfl,_⟩:=r.mC;exact⟨rfl,rfl⟩|tup l=>grind[pz]|agg l=>grind[pz]|yl id=>grind[pz]
def TF{x:SV}{y:V}(h:Bp m x=U)(r:di ν m H Z x y):y.one=U:=by
 cases x with
 |v x=>
  have u:=r.fr;have w:x.one=U:=h;have c:=u.cells;have e:x.cells=[x]:=by cases x<;>first|rfl|grind[V.one]
  rw[e]at c;have g:=c.one;have z:=c.1
  cases y with
  |agg l=>cases u with|same _ _=>grind|agg _ _ _ _=>grind[V.one]
  |tup l=>cases u with|same _ _=>grind|tup _ _ _ _=>grind[V.one]
  |_=>rfl
 |own d=>exact(lU (x:=.own d) h r).2|ptr d o=>exact(lU (x:=.ptr d o) h r).2|el d i o=>exact(lU (x:=.el d i o) h r).2|mp d=>exact(lU (x:=.mp d) h r).2|clo f a b=>exact(lU (x:=.clo f a b) h r).2|tup l=>grind[Bp,pz]|agg l=>grind[Bp,pz]|yl id=>grind[Bp,pz]
theorem Jz {l:aY SV} {ys:aY V} (h:l.all (Bp m)=true) (r:cr ν m H Z l ys):ys.all V.one=true:=by
 refine List.all_eq_true.2 λy w=>?_
 obtain⟨j,z,e⟩:=List.mem_iff_getElem.1 w;have u:j<l.length:=by rw[r.1];omega
 exact TF (List.all_eq_true.1 h _ (List.getElem_mem u)) (r.2 j _ y (ζd u) g?)
def RX{x:SV}{y:V}{c:SW}(h:Lt m x=M c)(r:di ν m H Z x y):cr ν m H Z c y.cells:=by
 unfold Lt at h;split at h;cases h;exact cr.tg r.fr.cells;cases h;obtain⟨z,rfl,u⟩:=r.kf;exact u;split at h;next w=>cases h;rw[(lU w r).1];exact .cons r .nil
 simp_all
def L4:∀{pl:aY (Nat×Nat)}{vs cells l:SW}{B cells':So},cr ν m H Z cells cells'->cr ν m H Z vs B->BX m cells pl vs=M l->∃D,mW cells' pl B=M D/\cr ν m H Z l D
 |[],[],cells,l,B,cells',hc,hv,h=>by rw[hv.dx];simp[BX]at h;subst h;exact⟨_,rfl,hc⟩|[],_::_,_,_,_,_,_,_,h=>by grind[BX]|_::_,[],_,_,_,_,_,_,h=>by grind[BX]|(off,size)::pl,v::vs,cells,l,B,cells',hc,hv,h=>by obtain⟨w,G,rfl,b,d⟩:=hv.inv;simp only[BX]at h;split at h;rename_i c z;have a:=RX z b;split at h;have⟨D,e1,e2⟩:=L4 (cells':=cells'.take off++w.cells++cells'.drop (off+W w.cells)) (by rw[<-a.1];exact((hc.take off).append a).append (hc.drop _)) d h;have u:W w.cells=size/\off+W w.cells<=W cells':=(by rw[<-a.1,<-hc.1];omega);grind[mW];simp_all;simp_all
theorem Mg{size o:Nat}{agg:X'}{cs:SW}{B:So}{sv:SV}(h:cr ν m H Z cs B)(hp:yJ size agg ((cs.drop o).take size)=M sv):∃y,_o (cut B o size) (mk agg)=M y/\di ν m H Z sv y:=by
 have u:=(h.drop o).take size;unfold yJ at hp;split at hp;have a:cut B o size=M ((B.drop o).take size):=by unfold cut;rw[L' (by rw[<-u.1];omega)]
 rw[a];split at hp;split at hp;rename_i D w;cases hp;have z:=by rw[x8 w]at u;exact u.frl
 exact⟨_,by simp_all[mk],.v _ _ (.agg _ _ z.1 z.2)⟩;cases hp;exact⟨_,by simp_all[mk],.agg _ _ u.1 u.2⟩;split at hp;rename_i x w;simp at hp;subst hp;rw[w]at u;have⟨y,G,e,I,C⟩:=u.inv;rw[e,C.dx];grind[mk];grind;grind
theorem VS{p:xS}{m?:SW}{ys:So}{sv:SV}(o:∀zero pl,p=.build zero pl->V.c_ zero=U)(i:∀d ob,bk m d=M ob->dy ν m H Z d ob)(h:cr ν m H Z m? ys)(hp:D4 N m p m?=M sv):∃y,bW N p ys=M y/\di ν m H Z sv y:=by
 unfold D4 at hp;split at hp;obtain⟨y,_,rfl,c,B⟩:=h.inv;rw[B.dx];simp at hp;subst hp;exact⟨y,_l,c⟩;obtain⟨y,_,rfl,c,B⟩:=h.inv;rw[B.dx];split at hp;next L=>simp at hp;subst hp;have⟨ob,u⟩:=isSome_iff_exists.1 L;obtain⟨cs,rfl,rfl⟩:=c.rV u;exact⟨_,_l,c⟩
 grind;obtain⟨y,_,rfl,c,B⟩:=h.inv;rw[B.dx];split at hp;next L=>simp at hp;subst hp;have⟨ob,u⟩:=isSome_iff_exists.1 L;obtain⟨k,es,n,L,f,rfl⟩:=c.xL u;exact⟨_,_l,c⟩
 grind;rename_i t a b;obtain⟨Q,_,rfl,c,B⟩:=h.inv;obtain⟨T,_,rfl,b__,D⟩:=B.inv;obtain⟨q,_,rfl,E,r⟩:=D.inv;rw[c.fr.bool,r.dx];simp at hp;refine⟨if t=U then T else q,_l,?_⟩;grind
 .obtain⟨Q,_,rfl,c,B⟩:=h.inv;obtain⟨T,_,rfl,b__,D⟩:=B.inv;rw[b__.fr.bN,D.dx];split at hp
  .rename_i k es a__ u;split at hp;simp_all;simp at hp;subst hp;obtain⟨W,G,I,e,rfl⟩:=c.iT u;cases e;cases k<;>first|grind|exact⟨_,_l,.v _ _ (.same _ _l)⟩
  grind
 .obtain⟨Q,_,rfl,c,B⟩:=h.inv;obtain⟨T,_,rfl,b__,D⟩:=B.inv;rw[b__.fr.bN,D.dx];split at hp
  .rename_i k es a__ u;split at hp;simp_all;simp at hp;subst hp;obtain⟨W,G,I,e,rfl⟩:=c.iT u;cases e;cases k<;>first|grind|exact⟨_,_l,.v _ _ (.same _ _l)⟩
  grind
 obtain⟨y,_,rfl,c,B⟩:=h.inv;rw[B.dx];split at hp;next L=>simp at hp;subst hp;have⟨ob,u⟩:=isSome_iff_exists.1 L;obtain⟨cs,rfl,rfl⟩:=c.rV u;exact⟨_,_l,.ptr _ _ _ λP C=>g?⟩
 grind;obtain⟨y,_,rfl,c,B⟩:=h.inv;rw[B.dx];split at hp;next L=>simp at hp;subst hp;have⟨ob,u⟩:=isSome_iff_exists.1 L;obtain⟨k,es,n,L,f,rfl⟩:=c.xL u;exact⟨_,_l,.el _ _ _ _ λP C=>by rw[u]at C;grind⟩
 simp at hp;obtain⟨Q,_,rfl,c,B⟩:=h.inv;obtain⟨T,_,rfl,b__,D⟩:=B.inv;rw[b__.fr.int,D.dx];split at hp;rename_i k es a__ u;split at hp;rename_i g;obtain⟨f,rfl,X,S⟩:=g;simp at hp;subst hp;obtain⟨W,G,I,e,rfl⟩:=c.iT u;cases e;rw[qN f];refine⟨.hptr (ν _).1 ((ν _).2+_) 0,by simp only[bW,oh,M' (Int.not_lt.2 X),true_and,L' S];rfl,.el _ _ _ _ λP C=>?_⟩;rw[u]at C;cases C;exact⟨_,_,_,_l,f,_l⟩;simp at hp;rename_i k a__ w u;split at hp;rename_i g;obtain⟨f,rfl,X,S⟩:=g;simp at hp;subst hp;obtain⟨W,G,I,e,rfl⟩:=c.iT u;cases e;rw[qN f];refine⟨.hptr (ν _).1 ((ν _).2+_) 0,by simp only[bW,oh,M' (Int.not_lt.2 X),true_and,L' S];rfl,.el _ _ _ _ λP C=>?_⟩;rw[u]at C;cases C;exact⟨_,_,_,_l,f,_l⟩;simp at hp;simp at hp;obtain⟨Q,_,rfl,c,B⟩:=h.inv;obtain⟨T,_,rfl,b__,D⟩:=B.inv;rw[b__.fr.int,D.dx];split at hp;rename_i g;simp at hp;subst hp;have⟨ob,u⟩:=isSome_iff_exists.1 g.2.2;obtain⟨cs,rfl,rfl⟩:=c.rV u;refine⟨.hptr (ν _).1 0 (_+_),by simp only[bW,z8,L' (And.intro g.1 g.2.1)];rfl,.ptr _ _ _ λP C=>?_⟩;rw[u]at C;grind;simp at hp;obtain⟨Q,_,rfl,c,B⟩:=h.inv;obtain⟨T,_,rfl,b__,D⟩:=B.inv;rw[b__.fr.int,D.dx];split at hp;rename_i g;simp at hp;subst hp;have⟨ob,u⟩:=isSome_iff_exists.1 g.2.2;obtain⟨k,es,n,L,f,rfl⟩:=c.xL u;refine⟨.hptr (ν _).1 (_+_) (_+_),by simp only[bW,z8,L' (And.intro g.1 g.2.1)];rfl,.el _ _ _ _ λP C=>?_⟩;rw[u]at C;grind;simp at hp;obtain⟨Q,_,rfl,c,B⟩:=h.inv;rw[B.dx];split at hp;rename_i k es a__ u;simp at hp;subst hp;obtain⟨W,G,I,e,rfl⟩:=c.iT u;cases e;have:=i _ _ u;simp[dy]at this;cases f:k<;>simp[f,cg]at this⊢;subst this;exact⟨_,_l,.v _ _ (.same _ _l)⟩;subst this;exact⟨_,_l,.v _ _ (.same _ _l)⟩;exact⟨_,_l,.v _ _ (.same _ _l)⟩;exact⟨_,_l,.v _ _ (.same _ _l)⟩;rename_i k a__ w u;simp at hp;subst hp;obtain⟨W,G,I,e,rfl⟩:=c.iT u;cases e;have:=i _ _ u;simp[dy]at this;cases f:k<;>simp[f,cg]at this⊢;obtain⟨rfl,_⟩:=this;exact⟨_,_l,.v _ _ (.same _ _l)⟩;obtain⟨rfl,_⟩:=this;exact⟨_,_l,.v _ _ (.same _ _l)⟩;exact⟨_,_l,.v _ _ (.same _ _l)⟩;simp at hp;rename_i vs name k;simp at hp;subst hp;exact⟨_,_l,.clo _ _ _ _ _ (h.take k).1 (h.drop k).1 (h.take k).2 (h.drop k).2⟩;obtain⟨Q,_,rfl,c,B⟩:=h.inv;rw[B.dx];obtain⟨s,rfl,j⟩:=c.tw;have⟨z,v,Y⟩:=j.get hp;exact⟨z,v,Y⟩;rename_i vs zero pl;obtain⟨l,x,rfl⟩:=ζf.1 hp;have⟨A,c,B⟩:=L4 (cr.tg (dL.same (o zero pl _l))) h x;exact⟨.agg A,by grind[Go.VE.bW],.agg _ _ B.1 B.2⟩;obtain⟨Q,_,rfl,c,B⟩:=h.inv;rw[B.dx];obtain⟨s,rfl,j⟩:=c.kf;grind[Mg,Go.VE.bW];grind
def KN{p:xS}{m?:SW}{ys:So}{sv:SV}(B:∀zero pl,p=.build zero pl->V.c_ zero=U)(G:∀d ob,bk m d=M ob->dy ν m H Z d ob)(h:cr ν m H Z m? ys)(hp:lP N m p m?=M sv):
 ∃y,bW N p ys=M y/\di ν m H Z sv y:=by
 unfold lP at hp;split at hp
 next I u=>obtain⟨z,w,rfl⟩:=ζf.1 hp;rw[x8 u]at h;have⟨C,a,D⟩:=dL.bW B h.frl w;exact⟨C,a,.v _ _ D⟩
 grind[VS]
def cr.dG{m?:SW}{xs ys:So}(h:cr ν m H Z m? ys)(B:dG m?=M xs):dL H Z xs ys:=by rw[x8 B]at h;exact h.frl
def FH{k:V}:∀{a b:aY (V×V)}{i:Nat},GN H Z a b->(kj k a i=M J->kj k b i=M J)/\∀j v,kj k a i=M (M (j,v))->∃B,kj k b i=M (M (j,B))/\FR H Z v B
 |[],b,i,h=>by have:b=[]:=length_eq_zero_iff.1 (by have:=h.1;grind);grind[kj]|(k1,x)::a,[],i,h=>by have:=h.1;grind|(k1,x)::a,(k2,y)::b,i,h=>by have⟨⟨e,_⟩,z⟩:=h.2 0 _ _ Y Y;subst e;have w:GN H Z a b:=⟨by have:=h.1;grind,λj u v c d=>h.2 (j+1) u v g? g?⟩;have C:=FH (i:=i+1) (k:=k) w;grind[kj]
def yG{kk:Al}{k:V}(h:sV kk k=U):k.scalar=U:=by unfold sV at h;split at h;rfl;rfl;simp at h;have⟨a,u⟩:=isSome_iff_exists.1 h.2;exact ue u;grind
def ze{r:Oq}{m?:SW}{ys:So}{sv:SV}(ak:∀s a,r≠.loadF s a)(T:∀kk z ok,r=.lookup kk z ok->z.good=U)(h:cr ν m H Z m? ys)(n:∀d,SV.dX d m?=U->∀ob,bk m d=M ob->dy ν m H Z d ob)(hp:sn m r m?=M sv):
 ∃y,gI H r ys=M y/\di ν m H Z sv y:=by
 unfold sn at hp;split at hp
 .
  obtain⟨c__,_,rfl,b,I⟩:=h.inv;rw[I.dx];split at hp
  .rename_i cs u;obtain⟨al,e,rfl⟩:=b.rV u;obtain⟨es,am,g,o,_⟩:=n _ (by simp[SV.dX,SV.cZ]) _ u
   grind[Mg,gI,fJ,Ob.rows]
  grind
 .
  obtain⟨c__,_,rfl,b,I⟩:=h.inv;rw[I.dx];split at hp
  .rename_i k es xs u;split at hp
   .rename_i cs W;obtain⟨z,L,rfl⟩:=ζf.1 hp;obtain⟨k1,R,an,e,f,rfl⟩:=b.xL u;cases e;have:=n _ (by simp[SV.dX,SV.cZ]) _ u
    simp[dy,f]at this;obtain⟨rs,g,K,B,_⟩:=this;obtain⟨c,o,ad⟩:=B.get W;have q:=(ζe.1 W).1;rw[J?,L' q,M?]at o;obtain⟨r1,w,b__⟩:=ζg.1 L;obtain⟨r2,ae,C⟩:=ad.cut w;obtain⟨A,X,Y⟩:=C.mk b__;refine⟨A,?_,.v _ _ Y⟩
    grind[gI,fJ,Ob.rows]
   grind
  .rename_i k xs j t u;split at hp
   .rename_i o;obtain⟨rfl,rfl,rfl,rfl⟩:=o;cases hp;obtain⟨k1,R,n1,e,f,rfl⟩:=b.xL u;cases e;have:=n _ (by simp[SV.dX,SV.cZ]) _ u
    simp only[dy,f,N']at this;obtain⟨_,h0,af,ys,g,K,B⟩:=this;have q:=af _ _ rfl;have:=B j _ _ (ζd q) (ζd a?)
    simp only[qQ,N']at this;obtain⟨v,e1,e2,e3⟩:=this;exact⟨v,by simp[gI,fJ,g,Ob.rows,h0,K,q,e1,cut,mk],e3⟩
   grind
  grind
 .
  rename_i size agg p;obtain⟨c__,_,rfl,b,I⟩:=h.inv;rw[I.dx];obtain⟨z,L,rfl⟩:=ζf.1 hp;obtain⟨r1,w,b__⟩:=ζg.1 L;unfold fJ at w;split at w
  .rename_i cs;rcases b.fr.oS with rfl|⟨id,el,off,es,ys,ao,rfl,Y,g,he,ap,B⟩
   .refine⟨z,by grind[gI,fJ],.v _ _ (.same _ ?_)⟩
    have ah:=by have:=b.fr.good;simpa[V.good]using this
    obtain⟨r',aq,C⟩:=(dL.same (H:=H) (Z:=Z) ah).cut w;obtain⟨A,X,D⟩:=C.mk b__;exact D.good
   obtain⟨r2,ae,C⟩:=B.cut w;obtain⟨A,X,D⟩:=C.mk b__;refine⟨A,?_,.v _ _ D⟩
   grind[bz,gI,fJ,cut]
  all_goals grind
 .
  rename_i kk z ok d k;obtain⟨c__,_,rfl,b,I⟩:=h.inv;obtain⟨a__,_,rfl,E,F⟩:=I.inv;rw[F.dx];split at hp
  .rename_i d__ u;split at hp
   .rename_i f;obtain⟨_,e,rfl⟩:=b.FV u;have Q:=E.fr.scalar.1 (yG f);subst Q;obtain⟨aj,g,ai⟩:=n _ (by simp[SV.dX,SV.cZ]) _ u
    obtain⟨f1,f2⟩:=FH ai;split at hp
    .rename_i j v B;obtain⟨N,ar,P⟩:=f2 j v B;simp at hp;subst hp;refine⟨if ok=U then .tup [N,.bool U]else N,by grind[gI,pR],?_⟩
     cases ok
     .exact .v _ _ P
     refine .v _ _ (.tup _ _ rfl (dL.cons P (.cons (.same _ rfl) .nil)).2)
    .rename_i B;simp at hp;subst hp;refine⟨if ok=U then .tup [z,.bool O]else z,by grind[gI,pR],?_⟩
     have L:=T kk z ok rfl;cases ok
     .exact .v _ _ (.same _ L)
     exact .v _ _ (.same _ (by grind[V.good,V.c_]))
    grind
   grind
  grind
 .
  rename_i kk z ok p k;obtain⟨c__,_,rfl,b,I⟩:=h.inv;obtain⟨a__,_,rfl,E,F⟩:=I.inv;rw[F.dx];obtain⟨x,G,rfl⟩:=ζf.1 hp;simp[gI]at G;have L:=T kk z ok rfl;split at G
  .rename_i d__ S;have key:pR H c__=M d__/\V.vO d__=U:=by
    unfold pR at S;split at S
    .rw[b.fr.iZ];simp at S;subst S;exact⟨rfl,rfl⟩
    .rw[b.fr.fmap];simp at S;subst S;exact⟨rfl,by have:=b.fr.good;grind[V.good]⟩
    all_goals grind
   split at G
   .rename_i f;have Q:=E.fr.scalar.1 (yG f);subst Q;split at G
    .rename_i j v B;simp at G;subst G;have hv:=by
      have:∀{l:aY (V×V)}{i:Nat},V.vO l=U->kj a__ l i=M (M (j,v))->v.good=U:=by intro l;induction l with|nil=>grind[kj]|cons p l ih=>intro i hg h;simp[V.vO]at hg;simp[kj]at h;grind
      exact this key.2 B
     refine⟨if ok=U then .tup [v,.bool U]else v,by grind[gI],?_⟩
     cases ok
     .exact .v _ _ (.same _ hv)
     exact .v _ _ (.same _ (by grind[V.good,V.c_]))
    .rename_i B;simp at G;subst G;refine⟨if ok=U then .tup [z,.bool O]else z,by grind[gI],?_⟩
     cases ok
     .exact .v _ _ (.same _ L)
     exact .v _ _ (.same _ (by grind[V.good,V.c_]))
    simp at G
   simp at G
  simp at G
 all_goals grind
end
section
variable{Rv:Nat->Prop}{ν ν':Nu}{Z Z':Nat->Prop}{st e?:St}{m m':Tb bG}{F F':WP}{H H':bt}
def uQ{k:Fl}{xs:S'}{h:aX (Nat×Nat)}{i:Nat}(hp:(bG.dp k xs h).pt (i+1)=U):(∀t,h≠M (i,t))/\∃es B,xs[i]?=M [.fsl es B]:=by simp only[bG.pt,ζh]at hp;have⟨a,u⟩:=hp;refine⟨λt e=>?_,?_⟩;subst e;simp at a;split at u;exact⟨_,_,by assumption⟩;cases u
def qQ.out{d i:Nat}{h:aX (Nat×Nat)}{x y:So}(B:∀t,h≠M (i,t)):qQ ν m H Z d h i x y↔xU ν H Z d i x y:=by unfold qQ;split;rename_i j t;have:j≠i:=λe=>B t (by rw[e]);rw[M' this];rfl
def dy.at{d:Nat}{ob:bG}(o:dy ν m H Z d ob){j:Nat}(h:ob.pt j=U):∃x,H[ν.at d j]?=M x:=by
 cases j with
 |zero=>have h:eU ob=U:=h;cases ob with|sl k es z=>simp only[eU]at h;simp only[dy,h,N']at o;exact⟨_,o.choose_spec.1⟩|box cs=>have⟨es,C,a,_⟩:=o;exact⟨_,a⟩|mp D=>have⟨B,a,_⟩:=o;exact⟨_,a⟩|dp k z w=>simp only[eU]at h;simp only[dy,h,N']at o;have⟨_,_,_,G,a,_⟩:=o;exact⟨_,a⟩
 |succ i=>
  cases ob with
  |dp k z w=>have⟨b,es,g,u⟩:=uQ h;simp only[dy]at o;split at o;have⟨_,_,_,G,a,L,I⟩:=o;have hi:=(ζe.1 u).1;have:=(qQ.out b).1 (I i _ _ u (ζd a?));rcases this with⟨_,h|h⟩|⟨_,_,q,_,_,h,_⟩;cases h;cases h;exact⟨_,h⟩;rw[o.1]at u;cases u
  |_=>simp[bG.pt]at h
def dy.free{d:Nat}{ob:bG}(o:dy ν m H Z d ob){j:Nat}(h:ob.pt j=U):H[ν.at d j]?≠M .free:=by
 cases j with
 |zero=>have h:eU ob=U:=h;show H[(ν d).1]?≠_;cases ob with|sl k es z=>simp only[eU]at h;simp only[dy,h,N']at o;have⟨B,a,_⟩:=o;rw[a];simp|box cs=>have⟨es,D,a,_⟩:=o;rw[a];simp|mp G=>have⟨C,a,_⟩:=o;rw[a];simp|dp k z w=>simp only[eU]at h;simp only[dy,h,N']at o;have⟨_,_,_,B,a,_⟩:=o;rw[a];simp
 |succ i=>
  cases ob with
  |dp k z w=>have⟨b,es,g,u⟩:=uQ h;simp only[dy]at o;split at o;have⟨_,_,_,B,a,L,I⟩:=o;have hi:=(ζe.1 u).1;rcases(qQ.out b).1 (I i _ _ u (ζd a?))with⟨_,h|h⟩|⟨_,_,q,_,_,h,_⟩;cases h;cases h;show H[ν.inn d i]?≠_;rw[h];simp;rw[o.1]at u;cases u
  |_=>simp[bG.pt]at h
def R.lt(r:R ν Z st F H){id:Nat}(h:gj ν st.m id):id<W H:=by obtain⟨d,ob,j,a,u,rfl⟩:=h;have⟨o,w⟩:=(r.obj d ob a).at u;exact(ζe.1 w).1
def R.xD(r:R ν Z st F H){id:Nat}(h:Z id):id<W H:=by have:=r.zrow id h;unfold bz at this;have⟨x,u⟩:=isSome_iff_exists.1 this;have⟨ob,a,_⟩:=ζg.1 u;exact(ζe.1 a).1
def Deep.mono(d:Deep H Z)(h:∀id,Z id->bz H' id=bz H id):Deep H' Z where
 row:=λid es z w hr c hc u hu=>by rw[h id w]at hr;have⟨x,B⟩:=d.row id es z w hr c hc u hu;exact⟨x,B.mono λk a=>⟨a,h k a⟩⟩
def wS.mono{ys:S'}(h:∀id,Z id->Z' id/\bz H' id=bz H id)(s:wS H Z ys):wS H' Z' ys:=λc a u b=>by have⟨x,w⟩:=s c a u b;exact⟨x,w.mono h⟩
def GN.mono{a b:aY (V×V)}(h:∀id,Z id->Z' id/\bz H' id=bz H id)(s:GN H Z a b):GN H' Z' a b:=⟨s.1,λj u v c d=>⟨(s.2 j u v c d).1,(s.2 j u v c d).2.mono h⟩⟩
def dy.mono{d q:Nat}{ob:bG}(B:∀id,Z id->Z' id/\bz H' id=bz H id)(hd:ν' q=ν d)(D:∀j,ob.pt j=U->H'[ν.at d j]?=H[ν.at d j]?)
 (T:∀e,ob.cZ e=U->∀l?,bk m' e=M l?->∃ob,bk m e=M ob/\ν' e=ν e/\sameShape ob l?)(o:dy ν m H Z d ob)(hi:ν'.inn q=ν.inn d:=by rfl):dy ν' m' H' Z' q ob:=by
 cases ob with
 |sl k es W=>
  simp only[dy,hd]at o⊢;split
  next a=>rw[L' a]at o;have⟨I,b,u,C,L,P⟩:=o;exact⟨I,(D 0 (by simpa[bG.pt,eU]using a)).trans b,u,C.mono B,L.mono B,P⟩
  rename_i a;rw[M' a]at o;exact o
 |box cs=>have⟨es,Q,b,u,C⟩:=o;exact⟨es,Q,by rw[hd];exact(D 0 rfl).trans b,u.mono B T,C⟩|mp X=>have⟨G,b,u⟩:=o;exact⟨G,by rw[hd];exact(D 0 rfl).trans b,u.mono B⟩|dp k W w=>
  simp only[dy,hd]at o⊢;split
  .rename_i a;rw[L' a]at o;have⟨Y,b,u,I,C,L,P⟩:=o;refine⟨Y,b,u,I,(D 0 a).trans C,L,λi x y A c=>?_⟩
   have f:(∀t,w≠M (i,t))->xU ν H Z d i x y->xU ν' H' Z' q i x y:=λz h=>by rcases h with h|⟨es,g,l,rfl,rfl,e1,e2⟩;exact .inl h;refine .inr ⟨es,g,l,_l,by rw[hi],?_,e2.mono B⟩;rw[hi];have:=D (i+1) (by simp only[bG.pt,A,Bool.and_true];split<;>grind);simp only[Nu.at]at this;rw[this];exact e1
   have S:=P i x y A c
   by_cases z:∃t,w=M (i,t)
   .obtain⟨t,rfl⟩:=z;simp only[qQ,N']at S⊢;have⟨v,e1,e2,e3⟩:=S;exact⟨v,e1,e2,e3.mono B λe n=>T e (by simpa[SV.cZ,bG.cZ]using n)⟩
   have z:∀t,w≠M (i,t):=λt e=>z ⟨t,e⟩
   exact(qQ.out z).2 (f z ((qQ.out z).1 S))
  rename_i a;rw[M' a]at o;exact o
def kJ(ν:Nu)(m:Tb bG)(e:Nat):∀l?,bk m e=M l?->∃ob,bk m e=M ob/\ν e=ν e/\sameShape ob l?:=λl? h=>⟨l?,h,Y,.refl _⟩
def R.heap(r:R ν Z st F H)(D:∀id,gj ν st.m id->H'[id]?=H[id]?)(B:∀id,Z id->bz H' id=bz H id):R ν Z st F H' where
 slot:=λs u w=>(r.slot s u w).mono (λid h=>⟨h,B id h⟩) λd _=>kJ ν st.m d
 obj:=λd ob hd=>dy.mono (λid h=>⟨h,B id h⟩) Y (λj z=>D _ ⟨d,ob,j,hd,z,Y⟩) (λe _=>kJ ν st.m e) (r.obj d ob hd)
 inj:=r.inj
 apart:=r.apart
 zrow:=λid h=>by rw[B id h];exact r.zrow id h
 deep:=r.deep.mono B
def R.put(r:R ν Z st F H){d:Nat}{sv:SV}{y:V}(h:di ν st.m H Z sv y):R ν Z {st with g:=bJ st.g d sv} (set F d y) H where
 slot:=λs x u=>by by_cases e:d=s;subst e;rw[cD]at u;cases u;rw[vB];exact h;rw[cW st.g sv e]at u;rw[lq _ _ e];exact r.slot s x u
 obj:=r.obj
 inj:=r.inj
 apart:=r.apart
 zrow:=r.zrow
 deep:=r.deep
def Ev.slots(g:Tb SV):Ev Rv ν Z st H ν Z {st with g:=g} H:=⟨x? _,λ_ _ _ _ _=>rfl,λ_ h=>⟨h,Y⟩,λ_ h=>.inl h,λ_ h=>.inl h,λ_ _ u h=>⟨u,h,Y,.refl _⟩,Y⟩
def jd(ν:Nu)(d:Nat)(p:Nat×Nat):Nu:=⟨λk=>if k=d then p else ν k,ν.inn⟩
theorem jH(ν:Nu)(d:Nat)(p:Nat×Nat):jd ν d p d=p:=L' Y
def DM(ν:Nu){d k:Nat}(p:Nat×Nat)(h:k≠d):jd ν d p k=ν k:=M' h
def Oe(ν:Nu){d k:Nat}(p:Nat×Nat)(h:k≠d)(j:Nat):(jd ν d p).at k j=ν.at k j:=by cases j with|zero=>simp only[Nu.at,DM ν p h]|succ i=>rfl
def bG.flat(ob:bG):Prop:=∀j,ob.pt j=U->j=0
def lH{ob:bG}(h:∀k xs w,ob≠.dp k xs w):ob.flat:=λj u=>by cases j with|zero=>rfl|succ i=>cases ob<;>simp[bG.pt]at u h
def l9{d:Nat}(h:st.new d=U):d∉st.pin/\bk st.m d=J/\wT d st.g=O/\vN d st.m=O:=by unfold St.new at h;simp only[ζh,Z?,Option.isNone_iff_eq_none,List.contains_eq_mem,_h]at h;exact⟨h.1.1.1,h.1.1.2,h.1.2,h.2⟩
def BS{d:Nat}{ob:bG}{p:Nat×Nat}{e:Nat}(h:e≠d):∀l?,bk (bJ m d ob) e=M l?->∃ob,bk m e=M ob/\jd ν d p e=ν e/\sameShape ob l?:=λl? u=>by rw[cW m ob (Ne.symm h)]at u;exact⟨l?,u,DM ν p h,.refl _⟩
def pW{ob l?:bG}(D:eU l?=eU ob)(B:l?.flat:=by exact lH f?):∀j,l?.pt j=U->ob.pt j=U:=λj h=>by have:=B j h;subst this;exact(show eU ob=U from D▸h)
def lu(ν:Nu)(d:Nat)(p:Nat×Nat)(f:Nat->Nat):Nu:=⟨λk=>if k=d then p else ν k,λk=>if k=d then f else ν.inn k⟩
def uv(ν:Nu){d k:Nat}(p:Nat×Nat)(f:Nat->Nat)(h:k≠d)(j:Nat):(lu ν d p f).at k j=ν.at k j:=by cases j with|zero=>exact _f fst (M' h)|succ i=>exact congrFun (M' h) i
def p9(ν:Nu)(d:Nat)(p:Nat×Nat)(f:Nat->Nat):(lu ν d p f) d=p/\(lu ν d p f).inn d=f:=⟨L' Y,L' Y⟩
def Vo(ν:Nu)(d:Nat)(p:Nat×Nat):jd ν d p=lu ν d p (ν.inn d):=by
 have:(lu ν d p (ν.inn d)).inn=ν.inn:=funext λk=>by show(if k=d then ν.inn d else ν.inn k)=_;split;(next h=>rw[h]);rfl
 show(⟨_,ν.inn⟩:Nu)=⟨_,(lu ν d p (ν.inn d)).inn⟩;rw[this]
def R.V6(r:R ν Z st F H){d:Nat}{ob:bG}{p:Nat×Nat}{f:Nat->Nat}(n:bk st.m d=J)(P:wT d st.g=O)(A:∀e o,bk st.m e=M o->o.cZ d=U->dy (lu ν d p f) (bJ st.m d ob) H Z e o)
 (T:∀j,ob.pt j=U->¬gj ν st.m ((lu ν d p f).at d j)/\¬Z ((lu ν d p f).at d j))(g:∀j t,ob.pt j=U->ob.pt t=U->(lu ν d p f).at d j=(lu ν d p f).at d t->j=t)(i:dy (lu ν d p f) (bJ st.m d ob) H Z d ob):
 R (lu ν d p f) Z {st with m:=bJ st.m d ob} F H:=by
 have key:∀w u,bk (bJ st.m d ob) w=M u->w≠d->bk st.m w=M u:=λw u h e=>by rw[cW st.m ob (Ne.symm e)]at h;exact h
 have c:∀e,e≠d->∀u,bk (bJ st.m d ob) e=M u->∃ob,bk st.m e=M ob/\(lu ν d p f) e=ν e/\sameShape ob u:=λe D u h=>⟨u,key e u h D,M' D,.refl _⟩
 refine⟨λs Q G=>?_,λw u hd=>?_,?_,?_,r.zrow,r.deep⟩
 .refine(r.slot s Q G).mono (λid h=>⟨h,Y⟩) λe D=>c e ?_
  rintro rfl;rw[BL P G]at D;cases D
 .by_cases e:w=d
  .subst e;simp only at hd;rw[cD]at hd;cases hd;exact i
  have I:=key w u hd e
  by_cases G:u.cZ d=U
  .exact A w u I G
  refine dy.mono (λid h=>⟨h,Y⟩) (M' e) (λ_ _=>rfl) (λk l=>c k ?_) (r.obj w u I) (M' e)
  rintro rfl;exact G l
 .intro b d2 o1 o2 L y a z B q C
  by_cases e1:b=d<;>by_cases e2:d2=d
  .subst e1;subst e2;simp only at a z;rw[cD]at a z;cases a;cases z;exact⟨Y,g _ _ B q C⟩
  .subst e1;simp only at a;rw[cD]at a;cases a;rw[uv ν p f e2]at C;exact _e ⟨d2,o2,y,key d2 o2 z e2,q,C.symm⟩ (T _ B).1
  .subst e2;simp only at z;rw[cD]at z;cases z;rw[uv ν p f e1]at C;exact _e ⟨b,o1,L,key b o1 a e1,B,C⟩ (T _ q).1
  rw[uv ν p f e1,uv ν p f e2]at C;exact r.inj b d2 o1 o2 L y (key b o1 a e1) (key d2 o2 z e2) B q C
 intro b o1 j a B
 by_cases e1:b=d
 .subst e1;simp only at a;rw[cD]at a;cases a;exact(T _ B).2
 rw[uv ν p f e1];exact r.apart b o1 j (key b o1 a e1) B
def R.add(r:R ν Z st F H){d:Nat}(G:st.new d=U){ob:bG}{p:Nat×Nat}(g:eU ob=U->¬gj ν st.m p.1/\¬Z p.1)(D:dy (jd ν d p) (bJ st.m d ob) H Z d ob)(B:ob.flat:=by exact lH f?):
 R (jd ν d p) Z {st with m:=bJ st.m d ob} F H:=by
 have⟨_,w,z,C⟩:=l9 G;rw[Vo]at D⊢;refine r.V6 w z (λe o h u=>?_) (λj h=>?_) (λj L h I _=>by rw[B _ h,B _ I]) D
 .rw[uN C h]at u;cases u
 have:=B _ h;subst this;simp only[Nu.at,p9];exact g h
def K_{d:Nat}{ob:bG}{p:Nat×Nat}{f:Nat->Nat}{id:Nat}(h:gj (lu ν d p f) (bJ m d ob) id):gj ν m id\/∃j,ob.pt j=U/\(lu ν d p f).at d j=id:=by have⟨k,o,j,a,w,u⟩:=h;by_cases e:k=d;subst e;rw[cD]at a;cases a;exact .inr ⟨j,w,u⟩;rw[uv ν p f e]at u;rw[cW m ob (Ne.symm e)]at a;exact .inl ⟨k,o,j,a,w,u⟩
def D1{d:Nat}{ob:bG}{p:Nat×Nat}{id:Nat}(h:gj (jd ν d p) (bJ m d ob) id)(B:ob.flat:=by exact lH f?):gj ν m id\/(eU ob=U/\id=p.1):=by have⟨k,o,j,a,w,u⟩:=h;by_cases e:k=d;subst e;rw[cD]at a;cases a;have:=B _ w;subst this;simp only[Nu.at,jH]at u;exact .inr ⟨w,u.symm⟩;rw[Oe ν p e]at u;rw[cW m ob (Ne.symm e)]at a;exact .inl ⟨k,o,j,a,w,u⟩
def Ev.add{d:Nat}(D:st.new d=U){ob:bG}{p:Nat×Nat}(G:W H<=W H')(g:∀id,id<W H->¬Rv id->H'[id]?=H[id]?)(T:∀id,Z id->bz H' id=bz H id)
 (hp:eU ob=U->Rv p.1\/W H<=p.1)(B:ob.flat:=by exact lH f?):Ev Rv ν Z st H (jd ν d p) Z {st with m:=bJ st.m d ob} H' where
 len:=G
 same:=λid h _ _ hr=>g id h hr
 rows:=λid h=>⟨h,T id h⟩
 own:=λid h=>by rcases D1 h B with h|⟨a,rfl⟩;exact .inl h;exact .inr (hp a)
 frz:=λid h=>.inl h
 pin:=λe w u h=>by have:e≠d:=(by rintro rfl;exact(l9 D).1 w);exact BS this u h
 pins:=rfl
def R.HF(r:R ν Z st F H){d:Nat}{ob l?:bG}(D:bk st.m d=M ob)(G:sameShape ob l?)(i:∀j,l?.pt j=U->ob.pt j=U)(T:∀id,(eU ob=U->id≠(ν d).1)->H'[id]?=H[id]?)
 (t:dy ν (bJ st.m d l?) H' Z d l?):R ν Z {st with m:=bJ st.m d l?} F H':=by
 have z:∀id,Z id->Z id/\bz H' id=bz H id:=λid h=>⟨h,by
  unfold bz;rw[T id (by rintro B rfl;exact r.apart d ob 0 D B h)]⟩
 have c:∀e u,bk (bJ st.m d l?) e=M u->∃w,bk st.m e=M w/\ν e=ν e/\sameShape w u:=λe u h=>by by_cases k:e=d;subst k;rw[cD]at h;cases h;exact⟨ob,D,Y,G⟩;rw[cW st.m l? (Ne.symm k)]at h;exact⟨u,h,Y,.refl _⟩
 have C:∀e u,bk (bJ st.m d l?) e=M u->∃w,bk st.m e=M w/\∀j,u.pt j=U->w.pt j=U:=λe u h=>by by_cases k:e=d;subst k;rw[cD]at h;cases h;exact⟨ob,D,i⟩;rw[cW st.m l? (Ne.symm k)]at h;exact⟨u,h,λ_ h=>h⟩
 refine⟨λs Q G=>(r.slot s Q G).mono z λe _=>c e,λI u hd=>?_,?_,?_,λid h=>by rw[(z id h).2];exact r.zrow id h,r.deep.mono λid h=>(z id h).2⟩
 .by_cases e:I=d
  .subst e;simp only at hd;rw[cD]at hd;cases hd;exact t
  simp only at hd;rw[cW st.m l? (Ne.symm e)]at hd;refine dy.mono z Y (λj g=>T _ λB h=>e (r.inj I d u ob j 0 hd D g B h).1) (λk _=>c k) (r.obj I u hd)
 .intro a d2 o1 o2 S X b q L b2 hp;have⟨p1,k1,o⟩:=C a o1 b;have⟨p2,k2,f⟩:=C d2 o2 q;exact r.inj a d2 p1 p2 S X k1 k2 (o _ L) (f _ b2) hp
 intro a o1 j b L;have⟨p1,k1,o⟩:=C a o1 b;exact r.apart a p1 j k1 (o _ L)
def Ev.HF(r:R ν Z st F H){d:Nat}{ob l?:bG}(B:bk st.m d=M ob)(G:sameShape ob l?)(g:∀j,l?.pt j=U->ob.pt j=U)(D:∀id,(eU ob=U->id≠(ν d).1)->H'[id]?=H[id]?)(T:W H<=W H'):
 Ev Rv ν Z st H ν Z {st with m:=bJ st.m d l?} H' where
 len:=T
 same:=λid _ I _ _=>D id λu e=>I ⟨d,ob,0,B,u,e.symm⟩
 rows:=λid h=>⟨h,by unfold bz;rw[D id (by rintro u rfl;exact r.apart d ob 0 B u h)]⟩
 own:=λid⟨k,o,j,h1,z,C⟩=>by by_cases e:k=d;subst e;simp only at h1;rw[cD]at h1;cases h1;exact .inl ⟨k,ob,j,B,g _ z,C⟩;simp only at h1;rw[cW st.m l? (Ne.symm e)]at h1;exact .inl ⟨k,o,j,h1,z,C⟩
 frz:=λid h=>.inl h
 pin:=λe _ w h=>by by_cases k:e=d;subst k;simp only at h;rw[cD]at h;cases h;exact⟨ob,B,Y,G⟩;simp only at h;rw[cW st.m l? (Ne.symm k)]at h;exact⟨w,h,Y,.refl _⟩
 pins:=rfl
def R.gR(r:R ν Z st F H){d:Nat}{ob l?:bG}(D:bk st.m d=M ob)(G:sameShape ob l?)(g:∀j,l?.pt j=U->ob.pt j=U)(T:∀id,id≠(ν d).1->H'[id]?=H[id]?)(B:eU ob=U)(i:dy ν (bJ st.m d l?) H' Z d l?):R ν Z {st with m:=bJ st.m d l?} F H':=r.HF D G g (λid h=>T id (h B)) i
def Ev.gR(r:R ν Z st F H){d:Nat}{ob l?:bG}(D:bk st.m d=M ob)(G:sameShape ob l?)(g:∀j,l?.pt j=U->ob.pt j=U)(T:∀id,id≠(ν d).1->H'[id]?=H[id]?)(B:eU ob=U)(i:W H<=W H'):Ev Rv ν Z st H ν Z {st with m:=bJ st.m d l?} H':=Ev.HF r D G g (λid h=>T id (h B)) i
def R.less(r:R ν Z st F H){g:Tb SV}{m':Tb bG}(a:∀s sv,bk g s=M sv->bk st.g s=M sv)(B:∀d ob,bk m' d=M ob->bk st.m d=M ob):R ν Z {st with g:=g,m:=m'} F H where
 slot:=λs sv z=>(r.slot s sv (a s sv z)).mono (λid h=>⟨h,Y⟩) λe _ u h=>⟨u,B e u h,Y,.refl _⟩
 obj:=λd ob hd=>dy.mono (λid h=>⟨h,Y⟩) Y (λ_ _=>rfl) (λe _ u h=>⟨u,B e u h,Y,.refl _⟩) (r.obj d ob (B d ob hd))
 inj:=λd w ob u j C b D=>r.inj d w ob u j C (B d ob b) (B w u D)
 apart:=λd ob j h=>r.apart d ob j (B d ob h)
 zrow:=r.zrow
 deep:=r.deep
def Ev.less{g:Tb SV}{m':Tb bG}(B:∀d ob,bk m' d=M ob->bk st.m d=M ob):Ev Rv ν Z st H ν Z {st with g:=g,m:=m'} H:=⟨x? _,λ_ _ _ _ _=>rfl,λ_ h=>⟨h,Y⟩,λ_⟨d,ob,j,a,w,z⟩=>.inl ⟨d,ob,j,B d ob a,w,z⟩,λ_ h=>.inl h,λe _ u h=>⟨u,B e u h,Y,.refl _⟩,Y⟩
def Ev.heap(B:W H<=W H')(D:∀id,id<W H->¬gj ν st.m id->¬Z id->¬Rv id->H'[id]?=H[id]?)(G:∀id,Z id->bz H' id=bz H id):Ev Rv ν Z st H ν Z st H':=⟨B,D,λid h=>⟨h,G id h⟩,λ_ h=>.inl h,λ_ h=>.inl h,λ_ _ u h=>⟨u,h,Y,.refl _⟩,Y⟩
def gZ.Bu{xs ys:S'}(h:gZ H Z xs ys):wS H Z ys:=λc b u d=>by
 have⟨i,hi⟩:=mem_iff_getElem?.1 b;have z:i<W xs:=by rw[h.1];grind
 have a:=h.2 i _ c (ζd z) hi;have⟨j,B⟩:=mem_iff_getElem?.1 d;have w:j<W (xs[i]):=by rw[a.1];grind
 exact⟨_,a.2 j _ u (ζd w) B⟩
theorem gZ.same{xs:S'}(h:V.pL xs=U):gZ H Z xs xs:=⟨Y,λj u v a b=>by rw[a]at b;grind[dL.same,mY]⟩
def ru{z:So}(h:V.c_ z=U):∀n,V.pL (replicate n z)=U
 |0=>rfl|n+1=>by simp[List.replicate_succ,V.pL,h,ru h n]
def Et{es:Nat}:∀{ps qs:aY (Nat×V)}{xs B r:S'},gZ H Z xs B->ps.map (·.1)=qs.map (·.1)->dL H Z (ps.map (·.2)) (qs.map (·.2))->gP es xs ps=M r->∃G,gP es B qs=M G/\gZ H Z r G
 |[],qs,xs,B,r,D,a,d,h=>by simp_all[gP]|(i,v)::ps,qs,xs,B,r,D,a,d,h=>by cases qs with|nil=>simp_all|cons q qs=>obtain⟨j,w⟩:=q;simp at a;obtain⟨e,a⟩:=a;subst e;obtain⟨w',C,e,u,z⟩:=d.inv;obtain⟨rfl,rfl⟩:=e;have b:=u.cells;simp only[gP]at h⊢;split at h;rw[L' ⟨by rw[<-b.1];grind,by rw[<-D.1];grind,by rw[b.one];grind⟩];exact Et (D.set i b) a z h;grind
def zip_fst:∀{idx:ST}{xs:So},W idx=W xs->(idx.zip xs).map (·.1)=idx
 |[],xs,_=>f?|i::idx,[],h=>o?|i::idx,x::xs,h=>by simp[zip_fst (idx:=idx) (xs:=xs) g?]
def H_:∀{idx:ST}{xs:So},W idx=W xs->(idx.zip xs).map (·.2)=xs
 |[],[],_=>f?|[],x::xs,h=>o?|i::idx,[],h=>o?|i::idx,x::xs,h=>by simp[H_ (idx:=idx) (xs:=xs) g?]
def Te{a:Tt}{m?:SW}{ys:So}{d:Nat}{ob:bG}{sv:SV}(b:DN (.a a)=U)(r:cr ν m H Z m? ys)(h:qI m a m? d=M (ob,sv)):
 ∃o mk,od a ys=M (o,mk)/\eU ob=U/\ob.flat/\o≠.free/\∀(id:Nat)(ν':Nu)(m':Tb bG)(H':bt),ν' d=(id,0)->bk m' d=M ob->H'[id]?=M o->(∀k,Z k->bz H' k=bz H k)->
  (∀e,SV.dX e m?=U->∀l?,bk m' e=M l?->∃ob,bk m e=M ob/\ν' e=ν e/\sameShape ob l?)->dy ν' m' H' Z d ob/\di ν' m' H' Z sv (mk.val id):=by
 unfold qI at h;split at h
 .
  rename_i size zero;obtain⟨rfl,rfl⟩:=h;rw[r.dx];simp only[DN,ζh]at b;refine⟨_,_,rfl,rfl,lH f?,f?,λid ν' m' H' e1 e2 e3 e4 e5=>⟨⟨_,zero,by rw[e1];omega,cr.tg (dL.same b.1),b.2⟩,?_⟩⟩
  exact .ptr _ _ _ λl? u=>by rw[e2]at u;cases u;exact⟨_,rfl,by rw[e1];rfl⟩
 .
  split at h
  .rename_i C;obtain⟨rfl,rfl⟩:=h;obtain⟨y,_,rfl,f,B⟩:=r.inv;rw[B.dx];have l:=f.fr.cells;refine⟨.row y.cells.length [y.cells],.ptr,by simp[od,l.one,C],rfl,lH f?,f?,λid ν' m' H' e1 e2 e3 e4 e5=>⟨⟨_,y.cells,by rw[e1];omega,cr.tg (l.mono λk b=>⟨b,e4 k b⟩),by rw[l.one];simp_all⟩,?_⟩⟩
   exact .ptr _ _ _ λl? u=>by rw[e2]at u;cases u;exact⟨_,rfl,by rw[e1];rfl⟩
  grind
 .
  split at h
  .rename_i w;obtain⟨rfl,rfl⟩:=h;obtain⟨y,_,rfl,f,B⟩:=r.inv;rw[B.dx];obtain⟨Q,rfl,W⟩:=f.kf;have D:=Jz w W;refine⟨.row Q.length [Q],.ptr,by grind[od,V.cells],rfl,lH f?,f?,λid ν' m' H' e1 e2 e3 e4 e5=>⟨⟨_,Q,by rw[e1];omega,W.mono (λk b=>⟨b,e4 k b⟩) λe S=>e5 e (by grind[SV.dX,SV.cZ]),D⟩,?_⟩⟩
   exact .ptr _ _ _ λl? u=>by rw[e2]at u;cases u;exact⟨_,rfl,by rw[e1];rfl⟩
  grind
 .
  split at h
  .rename_i w;obtain⟨rfl,rfl⟩:=h;obtain⟨y,_,rfl,f,B⟩:=r.inv;rw[B.dx];obtain⟨X,D⟩:=lU w f;refine⟨.row [y].length [[y]],.ptr,by grind[od],rfl,lH f?,f?,λid ν' m' H' e1 e2 e3 e4 e5=>⟨⟨_,[y],by rw[e1];omega,.cons (f.mono (λk b=>⟨b,e4 k b⟩) λe S=>e5 e (by grind[SV.dX])) .nil,o?⟩,?_⟩⟩
   exact .ptr _ _ _ λl? u=>by rw[e2]at u;cases u;exact⟨_,rfl,by rw[e1];rfl⟩
  grind
 .
  rename_i size zero k n F c;obtain⟨_,_,rfl,f,B⟩:=r.inv;obtain⟨_,_,rfl,q,s⟩:=B.inv;rw[f.fr.int,q.fr.int,s.dx];split at h
  .rename_i l;obtain⟨rfl,rfl⟩:=h;have T:cg (if n=c then Fl.row else Fl.part)=U:=by split<;>rfl
   refine⟨_,_,by simp only[od];rw[L' l],T,lH f?,f?,λid ν' m' H' e1 e2 e3 e4 e5=>⟨?_,?_⟩⟩
   .simp[dy,T,e1];have v:=ru b c.toNat;have b__:n.toNat<=c.toNat:=by omega
    refine⟨_,e3,o?,?_,(gZ.same v).Bu,λe=>?_⟩
    .simp[Nat.min_eq_left b__];exact gZ.same (ru b _)
    grind
   refine .own _ _ λl? u=>?_
   rw[e2]at u;cases u;exact⟨_,_,_,rfl,by rw[qN T,e1];simp[Mk.val]⟩
  grind
 .
  rename_i vs size len zero idx;split at h
  .rename_i xs G;split at h
   .rename_i w;obtain⟨rows,A,e⟩:=ζf.1 h;obtain⟨rfl,rfl⟩:=e;have c__:=r.dG G;obtain⟨g,I,z⟩:=Et (qs:=idx.zip ys) (gZ.same (ru b len)) (by rw[zip_fst w,zip_fst (by rw[<-c__.1];exact w)]) (by rw[H_ w,H_ (by rw[<-c__.1];exact w)];exact c__) A
    have a__:g.length=len:=by have:∀{ps:aY (Nat×V)}{a r:S'},gP size a ps=M r->r.length=a.length:=(by intro ps;induction ps with|nil=>grind[gP]|cons p ps ih=>grind[gP]);rw[this I];simp
    refine⟨.row size g,.sl size len,by simp only[od];rw[L' (by rw[<-c__.1];exact w),I];rfl,rfl,lH f?,f?,λid ν' m' H' e1 e2 e3 e4 e5=>⟨?_,?_⟩⟩
    .have L:=z.mono λk b=>⟨b,e4 k b⟩
     simp only[dy,e1];refine⟨_,e3,by simp[z.1],?_,L.Bu,λ_=>⟨trivial,z.1.symm⟩⟩
     simp[z.1];exact L
    refine .own _ _ λl? u=>?_
    rw[e2]at u;cases u;exact⟨_,_,_,rfl,by rw[z.1,a__];grind[qE,Mk.val]⟩
   grind
  split at h
  .rename_i t _;split at h
   .rename_i l;obtain⟨rfl,rfl,rfl,w⟩:=l;obtain⟨rfl,rfl⟩:=h;obtain⟨y,_,rfl,f,B⟩:=r.inv;rw[B.dx];obtain⟨X,D⟩:=lU (x:=.own t) w f;refine⟨.row 1 [[y]],.sl 1 1,by simp[od,gP,X,D],rfl,λj E=>?_,f?,λid ν' m' H' e1 e2 e3 e4 e5=>⟨?_,?_⟩⟩
    .cases j with
     |zero=>rfl|succ i=>cases i<;>simp[bG.pt]at E
    .simp only[dy,cg,N',e1];refine⟨trivial,trivial,λi K e=>by cases e;simp,_,e3,rfl,λi x P G Y=>?_⟩
     cases i with
     |zero=>simp at G Y;subst G;subst Y;simp only[qQ,N'];exact⟨y,rfl,D,f.mono (λk b=>⟨b,e4 k b⟩) λe S=>e5 e (by simp[SV.dX,S])⟩|succ i=>simp at G
    refine .own _ _ λl? u=>?_
    rw[e2]at u;cases u;exact⟨_,_,_,rfl,by simp[qE,e1,Mk.val]⟩
   cases h
  cases h
 .
  obtain⟨rfl,rfl⟩:=h;rw[r.dx];refine⟨_,_,rfl,rfl,lH f?,f?,λid ν' m' H' e1 e2 e3 e4 e5=>⟨⟨_,by rw[e1];exact e3,rfl,f?⟩,?_⟩⟩
  exact .mp _ _ λl? u=>by rw[e2]at u;cases u;exact⟨_,rfl,by rw[e1];rfl⟩
 grind
theorem cr.aaD {cs:aY SV} {B:aY V} (h:cr ν m H Z cs B) {size o:Nat} {x:SV} {y:V} {r:aY SV} (G:di ν m H Z x y) (hp:putCells m size o x cs=some r) (D:B.all V.one=true) :
 y.cells.length=size/\o+size<=B.length/\y.cells.all V.one=true/\cr ν m H Z r (B.take o++y.cells++B.drop (o+y.cells.length))/\(B.take o++y.cells++B.drop (o+y.cells.length)).all V.one=true:=by
 have u:∀k:Nat,(B.take k).all V.one=true/\(B.drop k).all V.one=true:=λk=>
  ⟨List.all_eq_true.2 λz C=>List.all_eq_true.1 D z (List.mem_of_mem_take C),List.all_eq_true.2 λz C=>List.all_eq_true.1 D z (List.mem_of_mem_drop C)⟩
 unfold putCells at hp;split at hp
 .split at hp
  .rename_i hc;simp only[ζa]at hp;subst hp;have w:=G.fr.cells;refine⟨by rw[<-w.1];simp_all,by rw[<-h.1];grind,by rw[w.one];grind,?_,?_⟩
   .have e:y.cells.length=size:=by rw[<-w.1];simp_all
    rw[e];exact((h.take o).append (cr.tg w)).append (h.drop _)
   simp only[List.all_append,(u _).1,(u _).2,w.one,hc.2.2,Bool.and_self]
  grind
 .split at hp
  .rename_i hc;simp only[ζa]at hp;subst hp;obtain⟨L,rfl,I⟩:=G.kf;have g:=Jz hc.2.2 I
   grind[cr,V.cells]
  grind
 split at hp
 .rename_i hc;simp only[ζa]at hp;subst hp;obtain⟨d,Q⟩:=lU hc.1 G;rw[d];refine⟨by simp[hc.2.1],by rw[<-h.1];grind,by simp_all,?_,?_⟩
  .exact((h.take o).append (.cons G .nil)).append (h.drop _)
  grind
 grind
def xW{size:Nat}{x:SV}{y:V}{xs:S'}(r:di ν m H Z x y)(B:∀d ob,bk m d=M ob->dy ν m H Z d ob)(h:jP m size x=M xs):∃ys,dZ H size y=M ys/\gZ H Z xs ys:=by
 unfold jP at h;split at h;split at h;rename_i k es w u;obtain⟨_,_,_,e,rfl⟩:=r.iT u;cases e;have o:=B _ _ u;simp[dy]at o;split at h;rename_i a;rw[L' a]at o;split at h;rename_i z;simp at h;subst h;have⟨ys,b,C,D,_⟩:=o;rw[qN a];grind[dZ,Ob.rows];grind;rename_i a;simp at h;subst h;refine⟨[],?_,Y,f?⟩;cases k<;>simp[cg]at a<;>rfl;grind;simp at h;subst h;rw[r.fr.bN];exact⟨[],Y,Y,f?⟩;simp at h;subst h;rw[r.fr.dS];exact⟨[],Y,Y,f?⟩
 .split at h
  .rename_i es w z;simp at h;subst h;have c:=r.fr.good;rcases r.fr.oI with rfl|⟨id,off,ys,rfl,G,b,C,D⟩;all_goals simp_all[dZ,gZ.same,V.good,bz]
  grind
 grind
def Ev.re{m1:Tb bG}(D:∀d ob,bk m1 d=M ob->bk st.m d=M ob){d:Nat}(i:d∉st.pin){ob:bG}{p:Nat×Nat}(G:W H<=W H')(g:∀id,id<W H->¬gj ν st.m id->¬Rv id->H'[id]?=H[id]?)
 (T:∀id,Z id->bz H' id=bz H id)(hp:eU ob=U->gj ν st.m p.1\/Rv p.1\/W H<=p.1)(B:ob.flat:=by exact lH f?):Ev Rv ν Z st H (jd ν d p) Z {st with m:=bJ m1 d ob} H' where
 len:=G
 same:=λid h C _ hr=>g id h C hr
 rows:=λid h=>⟨h,T id h⟩
 own:=λid h=>by rcases D1 h B with h|⟨a,rfl⟩;have⟨k,o,j,a,w,z⟩:=h;exact .inl ⟨k,o,j,D k o a,w,z⟩;grind
 frz:=λid h=>.inl h
 pin:=λe I u h=>by have:e≠d:=g?;have⟨o,a,w,z⟩:=BS (ν:=ν) (p:=p) this u h;grind
 pins:=rfl
def Kept(dst:aX Nat)(ν:Nu)(m:Tb bG)(ν':Nu)(m':Tb bG):Prop:=∀e u,dst≠M e->bk m' e=M u->∃ob,bk m e=M ob/\ν' e=ν e/\sameShape ob u/\∀j,u.pt j=U->ob.pt j=U/\ν'.at e j=ν.at e j
def Kept.refl{dst:aX Nat}:Kept dst ν m ν m:=λe u _ h=>⟨u,h,Y,.refl _,λ_ h=>⟨h,Y⟩⟩
def Kept.gR{dst:aX Nat}{d:Nat}{ob l?:bG}(B:bk m d=M ob)(D:sameShape ob l?)(hp:∀j,l?.pt j=U->ob.pt j=U):Kept dst ν m ν (bJ m d l?):=λe u _ h=>by by_cases k:e=d;subst k;rw[cD]at h;cases h;exact⟨ob,B,Y,D,λj h=>⟨hp j h,Y⟩⟩;rw[cW m l? (Ne.symm k)]at h;exact⟨u,h,Y,.refl _,λ_ h=>⟨h,Y⟩⟩
def Kept.add{d:Nat}{ob:bG}{p:Nat×Nat}{m1:Tb bG}(B:∀d ob,bk m1 d=M ob->bk m d=M ob):Kept (M d) ν m (jd ν d p) (bJ m1 d ob):=λe u w h=>by have:e≠d:=λh=>w (by rw[h]);have⟨o,a,z,D⟩:=BS (ν:=ν) (p:=p) this u h;rw[cW _ _ (Ne.symm this)]at h;exact⟨u,B e u h,z,.refl _,λj C=>⟨C,Oe ν p this j⟩⟩
def mS{d:Nat}:∀e ob,bk (dJ d m) e=M ob->bk m e=M ob:=λ_ _ h=>(m_ h).2
def GN.put{k x y:V}{a b r:aY (V×V)}(D:k.scalar=U)(h:GN H Z a b)(g:FR H Z x y)(hp:sR k x a=M r):∃B,sR k y b=M B/\GN H Z r B:=by unfold sR at hp;obtain⟨d,C⟩:=FH h;split at hp;rename_i j v G;simp at hp;subst hp;obtain⟨L,I,_⟩:=C j v G;refine⟨b.set j (k,y),by grind[sR],by simp[h.1],λi u w c z=>?_⟩;rw[D?]at c z;split at c;grind;rename_i e;rw[M' e]at z;exact h.2 i u w c z;simp at hp;subst hp;refine⟨b++[(k,y)],by grind[sR],by simp[h.1],λi u w c z=>?_⟩;by_cases hi:i<a.length;rw[u? hi]at c;rw[u? (by rw[<-h.1];omega)]at z;exact h.2 i u w c z;rw[H? (by rw[<-h.1];omega),<-h.1]at z;grind;grind
def OT(r:R ν Z st F H){d:Nat}{cs:SW}(B:bk st.m d=M (.box cs)):∀{l:SW}{D:So},cr ν st.m H Z l D->l.all (Qz st.m d)=U->D.all (qA (ν d).1)=U:=by intro l;induction l with|nil=>intro D C _;rw[C.dx];rfl|cons a l h=>intro D C G;obtain⟨w,D,rfl,g1,g2⟩:=C.inv;simp only[List.all_cons,ζh]at G⊢;refine⟨?_,h g2 G.2⟩;have u:=G.1;unfold Qz at u;split at u;rename_i Q T;simp at u;have⟨I,g⟩:=u;split at g;(next S z=>obtain⟨_,_,rfl⟩:=g1.rV z;simp[qA];exactλe=>I (r.inj Q d _ _ 0 0 z B Y Y e).1);grind;rcases FR.oS g1.fr with rfl|⟨id,el,off,_,_,_,rfl,L,_⟩;rfl;simp[qA];rintro rfl;exact r.apart d _ 0 B Y L;grind
def Lz{d:Nat}{k:Fl}{xs:S'}(o:dy ν m H Z d (.dp k xs J)):∃rs,dZ H 1 (qE (ν d) k 1 (W xs))=M rs/\W rs=W xs/\(cg k=U->(ν d).2=0/\H[(ν d).1]?=M (.row 1 rs))/\∀i x y,xs[i]?=M x->rs[i]?=M y->xU ν H Z d i x y:=by
 simp only[dy]at o;split at o;next a=>obtain⟨rfl,o2,-,rs,o3,u,w⟩:=o;exact⟨rs,by simp[qE,dZ,o3,Ob.rows,o2,<-u],u,λ_=>⟨o2,o3⟩,w⟩
 rename_i a;obtain⟨rfl,-⟩:=o;exact⟨[],by cases k<;>first|rfl|exact _e Y a,Y,λh=>_e h a,λi x y h=>by simp at h⟩
def Q1{d:Nat}{k:Fl}{xs:S'}(o:dy ν m H Z d (.dp k xs J))(T:∀id,Z id->Z' id)(hp:∀j,(bG.dp k xs J).pt j=U->Z' (ν.at d j)):
 FR H Z' (lQ k 1 xs) (qE (ν d) k 1 (W xs))/\∀j,(bG.dp k xs J).pt j=U->∃es ys,H[ν.at d j]?=M (.row es ys)/\wS H Z' ys:=by
 obtain⟨rs,-,D,a,G⟩:=Lz o;have u:∀id,Z id->Z' id/\bz H id=bz H id:=λid h=>⟨T id h,Y⟩
 have cells:gZ H Z' xs rs:=⟨D.symm,λi x y w L=>by
  rcases G i x y w L with⟨rfl,h⟩|⟨es,I,z,rfl,rfl,b,B⟩
  .exact dL.same (by rcases h with rfl|rfl<;>rfl)
  have C:=B.1;refine .cons (FR.Gi (ys:=z) (hp (i+1) (by simp[bG.pt,w])) (show bz H (ν.inn d i)=M (es,z)by unfold bz;rw[b];rfl) a? ?_) .nil
  rw[R!,C,I?];exact B.mono u⟩
 refine⟨?_,λj g=>?_⟩
 .by_cases hk:cg k=U
  .rw[qN hk,show lQ k 1 xs=.fsl 1 xs from by cases k<;>simp[cg]at hk<;>rfl]
   refine FR.Gi (ys:=rs) (hp 0 hk) (show bz H (ν d).1=M (1,rs)by unfold bz;rw[(a hk).2];rfl) (by rw[(a hk).1];omega) ?_
   rw[(a hk).1,R!,<-D,I?];exact cells
  cases k<;>simp[cg]at hk
  .exact .same _ Y
  exact .same _ Y
 cases j with
 |zero=>exact⟨1,rs,(a g).2,cells.Bu⟩|succ i=>
  obtain⟨-,es,I,w⟩:=uQ g;have hi:=(ζe.1 w).1;rcases G i _ _ w (ζd a?)with⟨_,h|h⟩|⟨es,I,z,_,_,b,B⟩
  .cases h
  .cases h
  exact⟨es,z,b,(B.mono u).Bu⟩
def YA(r:R ν Z st F H){dst:aX Nat}{size:Nat}{s x sv:SV}{y1 y2:V}(h1:di ν st.m H Z s y1)(h3:di ν st.m H Z x y2)(h:Cs st dst size s x=M (sv,e?)):
 ∃y H' ν',f_ H (.append size) [y1,y2]=M (y,H')/\R ν' Z e? F H'/\di ν' e?.m H' Z sv y/\Ev (λ_=>False) ν Z st H ν' Z e? H'/\Kept dst ν st.m ν' e?.m:=by
 unfold Cs at h;split at h
 .rename_i d e t;split at h
  .rename_i k z ys hd he;split at h
   .rename_i hc;obtain⟨rfl,ab,af,ah⟩:=hc;dsimp only at h;split at h
    .rename_i ad;obtain⟨rfl,rfl⟩:=h;obtain⟨_,_,_,q,rfl⟩:=h1.iT hd;cases q;obtain⟨_,_,_,q,rfl⟩:=h3.iT he;cases q;obtain⟨a1,p1,m,g1,f1⟩:=Lz (r.obj d _ hd);obtain⟨a2,p2,n,g2,f2⟩:=Lz (r.obj e _ he);obtain⟨n1,n2,n3,n4⟩:=l9 ad;have u:∀k ob,bk (dJ e (dJ d st.m)) k=M ob->k≠d/\k≠e/\bk st.m k=M ob:=λk ob h=>by
      obtain⟨K,v⟩:=m_ h;obtain⟨a__,w4⟩:=m_ v;exact⟨Ne.symm a__,Ne.symm K,w4⟩
     have grow:∃H1,iU H (qE (ν d) k 1 z.length)=M H1/\H1.length=H.length/\∀id,(cg k=U->id≠(ν d).1)->H1[id]?=H[id]?:=by by_cases a:cg k=U;rw[qN a];exact⟨H.set (ν d).1 .dead,by simp[iU,(g1 a).2],f?,λid Y=>E? (Ne.symm (Y a))⟩;exact⟨H,by cases k<;>first|rfl|exact _e rfl a,rfl,λ_ _=>rfl⟩
     obtain⟨H1,K,v,a__⟩:=grow;have A:∀id,id<H.length->(cg k=U->id≠(ν d).1)->(H1++[Ob.row 1 (a1++a2)])[id]?=H[id]?:=λid hl Y=>by rw[u? a?,a__ id Y]
     have c__:∀id,Z id->bz (H1++[Ob.row 1 (a1++a2)]) id=bz H id:=λid c__=>by unfold bz;rw[A id (r.xD c__) λa e=>r.apart d _ 0 hd a (by rw[show ν.at d 0=id from e.symm];exact c__)]
     have r1:=r.less (m':=dJ e (dJ d st.m)) (λ_ _ h=>h) λk ob h=>(u k ob h).2.2
     have r2:=r1.heap (H':=H1++[Ob.row 1 (a1++a2)]) (λid W=>by
      refine A id (r1.lt W) λa e=>?_
      obtain⟨k2,o2,j2,L,G,z3⟩:=W;obtain⟨z4,z5,N⟩:=u _ _ L;exact z4 (r.inj k2 d o2 _ j2 0 N hd G a (z3.trans e)).1) c__
     generalize P:(λi=>if i<z.length then ν.inn d i else ν.inn e (i-z.length))=f
     have d__:∀i,(bG.dp .row (z++ys) J).pt (i+1)=U->∃q Q w,bk st.m q=M Q/\Q.pt (w+1)=U/\f i=ν.at q (w+1)/\(q=d/\w=i/\i<z.length\/q=e/\i=z.length+w):=λi X=>by obtain⟨-,es,zs,I⟩:=uQ X;subst P;by_cases hi:i<z.length;rw[u? hi]at I;exact⟨d,_,i,hd,by simp[bG.pt,I],by simp[hi,Nu.at],.inl ⟨rfl,rfl,hi⟩⟩;rw[H? a?]at I;exact⟨e,_,i-z.length,he,by simp[bG.pt,I],by simp[hi,Nu.at],.inr ⟨rfl,a?⟩⟩
     have b__:∀i,(bG.dp .row (z++ys) J).pt (i+1)=U->gj ν st.m (f i):=λi X=>by obtain⟨q,Q,w,k1,k2,k3,_⟩:=d__ i X;exact⟨q,Q,w+1,k1,k2,k3.symm⟩
     have B:∀i,(lu ν t (H.length,0) f).at t (i+1)=f i:=λi=>congrFun (p9 ν t _ f).2 i
     have S:(lu ν t (H.length,0) f).at t 0=H.length:=_f fst (p9 ν t _ f).1;have aa:(H1++[Ob.row 1 (a1++a2)])[H.length]?=M (.row 1 (a1++a2)):=by rw[<-v];simp
     have ap:cg k=U->(bG.dp k z J).pt 0=U:=λh=>h
     refine⟨.hsl H.length 1 0 (a1.length+a2.length),H1++[Ob.row 1 (a1++a2)],lu ν t (H.length,0) f,?_,r2.V6 (p:=(H.length,0)) (f:=f) n2 n3 (λk o a hs=>?_) (λj g=>?_) (λj j' g ae X=>?_) ?_,?_,⟨by simp[v],λid hl W _ _=>?_,λid h=>⟨h,c__ id h⟩,λid W=>?_,λid h=>.inl h,λk a C h=>?_,rfl⟩,λk C a h=>?_⟩
     .have:a2≠[]:=by rintro rfl;exact af (length_eq_zero_iff.1 n.symm)
      cases a2 with
      |nil=>exact _e rfl this|cons c a2=>simp only[f_,p1,p2,K];rw[L' (by rw[m,n];exact ah)];rfl
     .rw[uN n4 a]at hs;cases hs
     .cases j with
      |zero=>rw[S];exact⟨λW=>Nat.lt_irrefl _ (r1.lt W),λc__=>Nat.lt_irrefl _ (r.xD c__)⟩|succ i=>
       rw[B];obtain⟨q,Q,w,k1,k2,k3,k4⟩:=d__ i g;rw[k3];refine⟨λ⟨k5,o5,j5,L,G,z3⟩=>?_,r.apart q Q _ k1 k2⟩
       obtain⟨z4,z5,N⟩:=u _ _ L;have:=(r.inj k5 q o5 Q j5 _ N k1 G k2 z3).1;rcases k4 with⟨rfl,_⟩|⟨rfl,_⟩
       .exact z4 this
       exact z5 this
     .cases j with
      |zero=>
       cases j' with
       |zero=>rfl|succ i'=>rw[S,B]at X;have:=r.lt (b__ i' ae);omega
      |succ i=>
       cases j' with
       |zero=>rw[S,B]at X;have:=r.lt (b__ i g);omega|succ i'=>
        rw[B,B]at X;obtain⟨q,Q,w,k1,k2,k3,k4⟩:=d__ i g;obtain⟨q',ai,aq,aj,ak,al,am⟩:=d__ i' ae;obtain⟨e1,e2⟩:=r.inj q q' Q ai _ _ k1 aj k2 ak (by rw[<-k3,<-al,X])
        rcases k4 with⟨rfl,_⟩|⟨rfl,_⟩<;>rcases am with⟨rfl,_⟩|⟨rfl,_⟩<;>first|omega|(exact _e e1 ab)|(exact _e e1.symm ab)
     .simp only[dy,cg,N'];refine⟨trivial,by rw[(p9 ν t _ f).1],(λi t h=>by cases h),a1++a2,?_,by simp[m,n],λi x y I E=>?_⟩
      .rw[(p9 ν t _ f).1];exact aa
      show xU _ _ _ _ i x y;have go:∀q w,bk st.m q=M (.dp k z J)/\q=d\/bk st.m q=M (.dp .row ys J)/\q=e->f i=ν.inn q w->(∀l b,bk st.m q=M (.dp l b J)->b[w]?=M x)->xU ν H Z q w x y->xU (lu ν t (H.length,0) f) (H1++[Ob.row 1 (a1++a2)]) Z t i x y:=λq w hq an ao hC=>by rcases hC with h|⟨es,zs,ws,rfl,rfl,L,G⟩;exact .inl h;have hi:(lu ν t (H.length,0) f).inn t i=ν.inn q w:=(congrFun (p9 ν t _ f).2 i).trans an;refine .inr ⟨es,zs,ws,rfl,by rw[hi],?_,G.mono λid h=>⟨h,c__ id h⟩⟩;rw[hi,A _ (ζe.1 L).1 λa e=>?_];exact L;have T:∃l b,bk st.m q=M (.dp l b J):=(by rcases hq with h|h<;>exact⟨_,_,h.1⟩);obtain⟨l,b,T⟩:=T;have:=(r.inj q d _ _ (w+1) 0 T hd (by simp[bG.pt,ao _ _ T]) a e).2;omega
      by_cases hi:i<z.length
      .rw[u? hi]at I;rw[u? a?]at E
       exact go d i (.inl ⟨hd,rfl⟩) (by rw[<-P];simp[hi]) (λl b h=>by rw[hd]at h;cases h;exact I) (f1 i x y I E)
      rw[H? a?]at I
      rw[H? a?,m]at E
      exact go e (i-z.length) (.inr ⟨he,rfl⟩) (by rw[<-P];simp[hi]) (λl b h=>by rw[he]at h;cases h;exact I) (f2 _ x y I E)
     .refine .own _ _ λC h'=>?_
      rw[cD]at h';cases h';exact⟨_,_,_,rfl,by simp[qE,(p9 ν t _ f).1,m,n]⟩
     .exact A id hl λa e=>W ⟨d,_,0,hd,a,e.symm⟩
     .rcases K_ W with⟨k,o,j,L,G,z3⟩|⟨j,L,G⟩
      .exact .inl ⟨k,o,j,(u k o L).2.2,G,z3⟩
      cases j with
      |zero=>rw[S]at G;exact .inr (.inr a?)|succ i=>rw[B]at G;subst G;exact .inl (b__ i L)
     .have D:k≠t:=by rintro rfl;exact n1 a
      rw[cW _ _ (Ne.symm D)]at h;exact⟨C,(u k C h).2.2,M' D,.refl _⟩
     have D:k≠t:=λe=>a (by rw[e])
     rw[cW _ _ (Ne.symm D)]at h;exact⟨C,(u k C h).2.2,M' D,.refl _,λj g=>⟨g,uv ν _ f D j⟩⟩
    cases h
   cases h
  cases h
 cases h
def E3(r:R ν Z st F H){dst:aX Nat}{l:On}{m?:SW}{ys:So}{sv:SV}(Y:cr ν st.m H Z m? ys)(h:mO st dst l m?=M (sv,e?)):
 ∃y H' ν',f_ H l ys=M (y,H')/\R ν' Z e? F H'/\di ν' e?.m H' Z sv y/\Ev (λ_=>False) ν Z st H ν' Z e? H'/\Kept dst ν st.m ν' e?.m:=by
 unfold mO at h;split at h
 .
  rename_i size d o x;obtain⟨_,_,rfl,a,n⟩:=Y.inv;obtain⟨y,_,rfl,S,p⟩:=n.inv;rw[p.dx];split at h
  .rename_i cs B;have⟨aw,hp,e⟩:=ζf.1 h;obtain⟨rfl,rfl⟩:=e;obtain⟨_,_,rfl⟩:=a.rV B;have⟨es,G,q,f,aa⟩:=r.obj d _ B;have⟨p1,p2,p3,p4,p5⟩:=cr.aaD f S hp aa;have b__:∀id,id≠(ν d).1->(H.set (ν d).1 (.row es [G.take o++y.cells++G.drop (o+_m y.cells)]))[id]?=H[id]?:=λid I=>by grind
   have C:∀id,Z id->Z id/\bz (H.set (ν d).1 (.row es [G.take o++y.cells++G.drop (o+_m y.cells)])) id=bz H id:=λid C=>⟨C,by
    unfold bz;rw[b__ id (by rintro rfl;exact r.apart d _ 0 B _l C)]⟩
   refine⟨.undef,H.set (ν d).1 (.row es [G.take o++y.cells++G.drop (o+_m y.cells)]),ν,?_,?_,.v _ _ (.same _ _l),Ev.gR r B _l (pW _l) b__ _l f?,Kept.gR B _l (pW _l)⟩
   .grind[f_]
   refine r.gR B _l (pW _l) b__ _l ⟨es,_,?_,p4.mono C (λe _ L A=>?_),p5⟩
   .grind
   by_cases k:e=d
   .subst k;rw[cD]at A;cases A;exact⟨_,B,_l,_l⟩
   rw[cW st.m _ (Ne.symm k)]at A;exact⟨L,A,_l,.refl _⟩
  grind
 .
  rename_i size d i o x;obtain⟨_,_,rfl,a,n⟩:=Y.inv;obtain⟨y,_,rfl,S,p⟩:=n.inv;rw[p.dx];split at h
  .rename_i k es T B;split at h
   .rename_i cs ak;split at h
    .rename_i f;obtain⟨rfl,rfl⟩:=h;obtain⟨_,_,_,e,b,rfl⟩:=a.xL B;cases e;have ob:=r.obj d _ B;simp[dy,b]at ob;have⟨rs,q,hl,P,al,aG⟩:=ob;have⟨c,ax,af⟩:=P.get ak;have hi:=(ζe.1 ak).1;rw[J?,L' hi,M?]at ax;have N:=S.fr.cells;have E:_m y.cells=size:=by rw[<-N.1];exact f.1
     have g:o+size<=_m c:=by rw[<-af.1];exact f.2.1
     have q3:y.cells.all V.one=U:=by rw[N.one];exact f.2.2
     have D:dL H Z (cs.take o++x.cells++cs.drop (o+_m x.cells)) (c.take o++y.cells++c.drop (o+_m y.cells)):=by rw[f.1,E];exact((af.take o).append N).append (af.drop _)
     generalize hN:(c.take o++y.cells++c.drop (o+_m y.cells))=nc at D;have b__:∀id,id≠(ν d).1->(H.set (ν d).1 (.row es (rs.set ((ν d).2+i) nc)))[id]?=H[id]?:=λid I=>by rw[D?];rw[M' (Ne.symm I)]
     have d__:=b;have C:∀id,Z id->Z id/\bz (H.set (ν d).1 (.row es (rs.set ((ν d).2+i) nc))) id=bz H id:=λid C=>⟨C,by
      unfold bz;rw[b__ id (by rintro rfl;exact r.apart d _ 0 B d__ C)]⟩
     have Q:sameShape (.sl k es T) (.sl k es (T.set i (cs.take o++x.cells++cs.drop (o+_m x.cells)))):=by simp[sameShape,bG.xT]
     refine⟨.undef,H.set (ν d).1 (.row es (rs.set ((ν d).2+i) nc)),ν,?_,?_,.v _ _ (.same _ _l),Ev.gR r B Q (pW _l) b__ d__ f?,Kept.gR B Q (pW _l)⟩
     .grind[f_]
     refine r.gR B Q (pW _l) b__ d__ ?_;simp only[dy,b];have ah:=(ζe.1 q).1;refine⟨_,Q? ah,g?,?_,?_,λe=>?_⟩
     .have e1:List.take (_m (T.set i (cs.take o++x.cells++cs.drop (o+_m x.cells)))) (List.drop (ν d).2 (rs.set ((ν d).2+i) nc))=((rs.drop (ν d).2).take (_m T)).set i nc:=by
       rw[List.length_set,List.drop_set,M' a?,List.take_set]
       grind
      rw[e1];exact(P.set i D).mono C
     .intro cc am u hu;rcases List.mem_or_eq_of_mem_set am with hm|rfl
      .have⟨z,ay⟩:=al cc hm u hu;exact⟨z,ay.mono C⟩
      have⟨j,hj⟩:=mem_iff_getElem?.1 hu;have an:=(ζe.1 hj).1;rw[<-D.1]at an;exact⟨_,(D.2 j _ u (ζd an) hj).mono C⟩
     grind
    simp at h
   grind
  grind
 .
  rename_i size d i o t;obtain⟨_,_,rfl,a,n⟩:=Y.inv;obtain⟨y,_,rfl,S,p⟩:=n.inv;rw[p.dx];split at h
  .rename_i k T j w B;split at h
   .rename_i f;obtain⟨rfl,rfl,rfl,hl,aK⟩:=f;obtain⟨rfl,rfl⟩:=h;obtain⟨_,_,_,e,b,rfl⟩:=a.xL B;cases e;have⟨c1,c2⟩:=lU (x:=.own t) hl S;have ob:=r.obj d _ B;simp only[dy,b,N']at ob;have⟨o1,o2,o3,rs,q,ao,P⟩:=ob;have hi:=o3 _ _ _l;have ah:=(ζe.1 q).1;have aA:∀X,(bG.dp k T (M (j,w))).pt (X+1)=U->ν.inn d X≠(ν d).1:=λX hp e=>by
     have:=(r.inj d d _ _ (X+1) 0 B B hp b e).2;omega
    have b__:∀id,id≠(ν d).1->(H.set (ν d).1 (.row 1 (rs.set j [y])))[id]?=H[id]?:=λid I=>by rw[D?];rw[M' (Ne.symm I)]
    have C:∀id,Z id->Z id/\bz (H.set (ν d).1 (.row 1 (rs.set j [y]))) id=bz H id:=λid C=>⟨C,by
     unfold bz;rw[b__ id (by rintro rfl;exact r.apart d _ 0 B b C)]⟩
    have ai:∀X,(bG.dp k T (M (j,t))).pt X=U->(bG.dp k T (M (j,w))).pt X=U:=λX h=>h
    have Q:sameShape (.dp k T (M (j,w))) (.dp k T (M (j,t))):=rfl;refine⟨.undef,H.set (ν d).1 (.row 1 (rs.set j [y])),ν,?_,?_,.v _ _ (.same _ _l),Ev.gR r B Q ai b__ b f?,Kept.gR B Q ai⟩
    .have:rs[j]?=M rs[j]:=ζd a?
     have h9:=P j _ _ (ζd hi) this;simp only[qQ,N']at h9;have⟨v,e1,_⟩:=h9;simp[f_,q,o2,this,e1,c1,c2]
    refine r.gR B Q ai b__ b ?_;simp only[dy,b,N'];refine⟨o1,o2,λX t' e=>by cases e;exact hi,_,Q? ah,by simp[ao],λX x y' hx N=>?_⟩
    by_cases e:j=X
    .subst e;rw[Q? a?]at N;cases N
     simp only[qQ,N'];exact⟨y,_l,c2,S.mono C λe A L c__=>by
      by_cases k':e=d
      .subst k';rw[cD]at c__;cases c__;exact⟨_,B,_l,_l⟩
      rw[cW st.m _ (Ne.symm k')]at c__;exact⟨L,c__,_l,.refl _⟩⟩
    rw[E? e]at N;have h9:=P X x y' hx N;simp only[qQ,M' e]at h9⊢;rcases h9 with h9|⟨es,zs,ws,rfl,rfl,E,g⟩
    .exact .inl h9
    exact .inr ⟨es,zs,ws,_l,_l,(b__ _ (aA X (by simp[bG.pt,hx,e]))).trans E,g.mono C⟩
   cases h
  cases h
 .
  rename_i kk d k x;obtain⟨_,_,rfl,a,n⟩:=Y.inv;obtain⟨k',_,rfl,S,p⟩:=n.inv;obtain⟨y,_,rfl,h5,h6⟩:=p.inv;rw[h6.dx];split at h
  .rename_i aB B;split at h
   .rename_i b;have⟨aH,hp,e⟩:=ζf.1 h;simp at e;obtain⟨rfl,rfl⟩:=e;obtain⟨_,_,rfl⟩:=a.FV B;have aC:=S.fr.scalar.1 (yG b);subst aC;have⟨aI,q,aD⟩:=r.obj d _ B;have⟨r',aL,aE⟩:=aD.put (yG b) h5.fr hp;have b__:∀id,id≠(ν d).1->(H.set (ν d).1 (.map r'))[id]?=H[id]?:=λid I=>by rw[D?];rw[M' (Ne.symm I)]
    have C:∀id,Z id->Z id/\bz (H.set (ν d).1 (.map r')) id=bz H id:=λid C=>⟨C,by
     unfold bz;rw[b__ id (by rintro rfl;exact r.apart d _ 0 B _l C)]⟩
    refine⟨.undef,H.set (ν d).1 (.map r'),ν,?_,?_,.v _ _ (.same _ _l),Ev.gR r B _l (pW _l) b__ _l f?,Kept.gR B _l (pW _l)⟩
    .grind[f_]
    refine r.gR B _l (pW _l) b__ _l ⟨r',?_,aE.mono C⟩;rw[Q? (ζe.1 q).1]
   simp at h
  simp at h
 .
  rename_i size s x;obtain⟨y1,_,rfl,a,n⟩:=Y.inv;obtain⟨y2,_,rfl,S,p⟩:=n.inv;rw[p.dx];split at h
  .rename_i T e1 e2;have⟨a1,p1,_⟩:=xW a r.obj e1;have⟨a2,p2,g⟩:=xW S r.obj e2;have:=length_eq_zero_iff.1 (by have:=g.1;simpa using this.symm)
   subst this
   cases dst with
   |none=>simp at h|some t=>
    have lit:∀(k:Fl)(K:V),cg k=O->qE (ν t) k size 0=K->st.new t=U->(∀y,FR H Z K y->y=K)->FR H Z K y1->
     ∃y H' ν',f_ H (.append size) [y1,y2]=M (y,H')/\R ν' Z {st with m:=bJ st.m t (.sl k size [])} F H'/\di ν' (bJ st.m t (.sl k size [])) H' Z (.own t) y/\Ev (λ_=>False) ν Z st H ν' Z {st with m:=bJ st.m t (.sl k size [])} H'/\Kept (M t) ν st.m ν' (bJ st.m t (.sl k size [])):=λk K b aM hn hx P=>by
     have ap:eU (.sl k size [])=U->False:=by grind[eU]
     refine⟨y1,H,jd ν t (ν t),by grind[f_],r.add hn (λh=>(ap h).elim) (by grind[dy]),.own _ _ λL c__=>?_,Ev.add hn (x? _) (λ_ _ _=>rfl) (λ_ _=>rfl) (λh=>(ap h).elim),Kept.add λ_ _ h=>h⟩
     rw[cD]at c__;cases c__;exact⟨_,_,_,_l,by rw[jH,hx _ P];grind⟩
    cases s with
    |own d=>
     dsimp only at h;split at h
     .rename_i ob B;split at h
      .rename_i D;simp at h;obtain⟨rfl,rfl⟩:=h;simp[jP,B]at e1
       cases ob with
       |sl k es ab=>
        obtain⟨_,_,_,e,rfl⟩:=a.iT B;cases e;have r1:R ν Z {st with m:=dJ d st.m} F H:=r.less (λ_ _ h=>h) mS
        have⟨n1,_,_,_⟩:=l9 D;have aq:dy (jd ν t (ν d)) (bJ (dJ d st.m) t (.sl k es ab)) H Z t (.sl k es ab):=by have o:=r.obj d _ B;grind[dy,jH]
        refine⟨qE (ν d) k es (_m ab),H,jd ν t (ν d),by grind[f_],r1.add D (λhb=>⟨λa__=>?_,r.apart d _ 0 B hb⟩) aq,.own _ _ λL c__=>?_,?_,Kept.add mS⟩
        .have⟨k2,o2,j2,g1,g2,g3⟩:=a__;have⟨g4,g5⟩:=m_ g1;exact g4 (r.inj d k2 _ o2 0 j2 B g5 hb g2 g3.symm).1
        .rw[cD]at c__;cases c__;exact⟨_,_,_,_l,by rw[jH]⟩
        by_cases hb:eU (.sl k es ab)=U
        .exact Ev.re (m1:=dJ d st.m) mS n1 (x? _) (λ_ _ _ _=>rfl) (λ_ _=>rfl) (λ_=>.inl ⟨d,_,0,B,hb,_l⟩)
        exact(Ev.less mS).trans (Ev.add D (x? _) (λ_ _ _=>rfl) (λ_ _=>rfl) λh=>_e h hb)
       |box cs=>cases e1|mp aB=>cases e1|dp _ _ _=>cases e1
      simp at h
     simp at h
    |v K=>
     cases K with
     |bN=>
      dsimp only at h;split at h
      next hn=>simp at h;obtain⟨rfl,rfl⟩:=h;exact lit .nil _ _l _l hn (λy h=>h.bN) a.fr
      simp at h
     |dS=>
      dsimp only at h;split at h
      next hn=>simp at h;obtain⟨rfl,rfl⟩:=h;exact lit .emp _ _l _l hn (λy h=>h.dS) a.fr
      simp at h
     |_=>simp at h
    |_=>simp at h
  .rename_i T zs I e1 e2;split at h
   .rename_i f;have⟨a1,p1,E⟩:=xW a r.obj e1;have⟨a2,p2,g⟩:=xW S r.obj e2
    cases dst with
    |none=>simp at h|some t=>
     dsimp only at h;generalize ar:giveUp st.m s=m1 at h;split at h
     .rename_i D;simp at h;obtain⟨rfl,rfl⟩:=h;have⟨n1,_,_,_⟩:=l9 D;have grow:∃H1,iU H y1=M H1/\_m H1=_m H/\(∀id,¬gj ν st.m id->H1[id]?=H[id]?)/\
       (∀id,gj ν m1 id->H1[id]?=H[id]?)/\(∀id,Z id->bz H1 id=bz H id):=by
       subst ar
       cases s with
       |own d=>
        simp[jP]at e1;split at e1
        .rename_i k es ab B;obtain⟨_,_,_,e,rfl⟩:=a.iT B;cases e
         by_cases b:cg k=U
         .have o:=r.obj d _ B;simp[dy,b]at o;have⟨ys,q,_⟩:=o;have d__:=b;have b__:∀id,id≠(ν d).1->(H.set (ν d).1 .dead)[id]?=H[id]?:=λid I=>by rw[D?];rw[M' (Ne.symm I)]
          refine⟨H.set (ν d).1 .dead,by rw[qN b];grind[iU],f?,λid a__=>b__ id λe=>a__ ⟨d,_,0,B,d__,e.symm⟩,λid a__=>b__ id λe=>?_,λid C=>?_⟩
          .have⟨k2,o2,j2,g1,g2,g3⟩:=a__;have⟨g4,g5⟩:=m_ g1;exact g4 (r.inj d k2 _ o2 0 j2 B g5 d__ g2 (by rw[g3,e];rfl)).1
          unfold bz;rw[b__ id (by rintro rfl;exact r.apart d _ 0 B d__ C)]
         refine⟨H,?_,_l,λ_ _=>rfl,λ_ _=>rfl,λ_ _=>rfl⟩
         cases k<;>simp[cg]at b<;>rfl
        simp at e1
       |v K=>
        refine⟨H,?_,_l,λ_ _=>rfl,λ_ _=>rfl,λ_ _=>rfl⟩
        cases K<;>simp[K3]at f
        .rw[a.fr.dS];rfl
        rw[a.fr.bN];rfl
       |_=>simp[K3]at f
      have⟨H1,g1,g2,g3,g4,g5⟩:=grow;have W:∀e ob,bk m1 e=M ob->bk st.m e=M ob:=by subst ar;cases s<;>first|exactλ_ _ h=>h|exact mS
      have au:∀id,gj ν m1 id->id<_m H:=λid⟨k,o,j,w1,w2,w3⟩=>r.lt ⟨k,o,j,W k o w1,w2,w3⟩
      have ad:∀id,id<_m H->(H1++[Ob.row size (a1++a2)])[id]?=H1[id]?:=λid hl=>u? (by rw[g2];exact hl)
      have aj:∀id,Z id->bz (H1++[Ob.row size (a1++a2)]) id=bz H id:=λid C=>by have:=g5 id C;unfold bz at this⊢;rw[ad id (r.xD C)];exact this
      have r1:=r.less (λ_ _ h=>h) W
      have r2:=r1.heap (λid a__=>by rw[ad id (au id a__)];grind) aj
      have ff:=(E.append g).mono λid C=>⟨C,aj id C⟩
      have ae:(H1++[Ob.row size (a1++a2)])[_m H]?=M (.row size (a1++a2)):=by rw[<-g2];simp
      refine⟨.hsl (_m H) size 0 (_m T+_m zs),H1++[Ob.row size (a1++a2)],jd ν t (_m H,0),?_,?_,?_,?_,Kept.add W⟩
      .have aJ:a2≠[]:=by
        rintro rfl;have aF:=length_eq_zero_iff.1 (by have:=g.1;simpa using this)
        exact I aF
       have ao:_m a1+_m a2<=2147483648:=by rw[<-E.1,<-g.1];exact f.1
       have aN:=E.1;have aO:=g.1;simp_all[f_]
      .refine r2.add D (λ_=>⟨λa__=>?_,λC=>?_⟩) ?_
       .grind
       .exact _e (r.xD C) f?
       simp only[dy,jH];refine⟨_,ae,by simp[E.1,g.1],?_,ff.Bu,λ_=>⟨trivial,by simp[E.1,g.1]⟩⟩
       have:_m (T++zs)=_m (a1++a2):=by simp[E.1,g.1]
       rw[this,R!,I?];exact ff
      .refine .own _ _ λL c__=>?_
       simp only at c__;rw[cD]at c__;cases c__;exact⟨_,_,_,_l,by simp[qE,jH]⟩
      refine Ev.re W n1 (by simp[g2]) (λid hl a__ _=>?_) aj (λ_=>.inr (.inr (x? _)))
      rw[ad id hl];grind
     simp at h
   simp at h
  have⟨y,H',ν',e1,e2,e3,e4,e5⟩:=YA r a S h;exact⟨y,H',ν',e1,e2,e3,e4,e5⟩
 .
  rename_i size d o x l;obtain⟨_,_,rfl,a,n⟩:=Y.inv;obtain⟨y,aP,rfl,S,p⟩:=n.inv;split at h
  .rename_i av;split at h
   .rename_i cs B;have⟨aw,hp,e⟩:=ζf.1 h;simp at e;obtain⟨rfl,rfl⟩:=e;obtain⟨_,_,rfl⟩:=a.rV B;have⟨es,G,q,f,aa⟩:=r.obj d _ B;have⟨p1,p2,p3,p4,p5⟩:=cr.aaD f S hp aa;have b__:∀id,id≠(ν d).1->(H.set (ν d).1 (.row es [G.take o++y.cells++G.drop (o+_m y.cells)]))[id]?=H[id]?:=λid I=>by rw[D?];rw[M' (Ne.symm I)]
    have C:∀id,Z id->Z id/\bz (H.set (ν d).1 (.row es [G.take o++y.cells++G.drop (o+_m y.cells)])) id=bz H id:=λid C=>⟨C,by
     unfold bz;rw[b__ id (by rintro rfl;exact r.apart d _ 0 B _l C)]⟩
    refine⟨.undef,H.set (ν d).1 (.row es [G.take o++y.cells++G.drop (o+_m y.cells)]),ν,?_,?_,.v _ _ (.same _ _l),Ev.gR r B _l (pW _l) b__ _l f?,Kept.gR B _l (pW _l)⟩
    .simp only[f_,OT r B p av,N',q,List.getElem?_cons_zero,L' (And.intro p1 (And.intro p2 p3)),List.set_cons_zero]
    refine r.gR B _l (pW _l) b__ _l ⟨es,_,?_,p4.mono C (λe _ L A=>?_),p5⟩
    .have:=(ζe.1 q).1;rw[Q? this]
    by_cases k:e=d
    .subst k;rw[cD]at A;cases A;exact⟨_,B,_l,_l⟩
    rw[cW st.m _ (Ne.symm k)]at A;exact⟨L,A,_l,.refl _⟩
   simp at h
  simp at h
 grind
end
def Dx(d:Nat)(st:St):aX St:=
 match bk st.m d with
 |some (.sl k es u)=>M {st with g:=CH (SV.sub d (lQ k es u)) st.g,m:=mapM (SV.wG d (lQ k es u)) (dJ d st.m)}|some (.dp k u J)=>M {st with g:=CH (SV.sub d (lQ k 1 u)) st.g,m:=mapM (SV.wG d (lQ k 1 u)) (dJ d st.m)}|_=>J
def Rm(st:St):Loc->aX SV
 |.s n=>bk st.g n|.c b i=>match bk st.m b with
  |some (.box cs)=>cs[i]?|_=>J
def U3:So->X'
 |[.bN]|[.dS]=>U|_=>O
def WM(es:Nat):So->aX bG
 |[.bN]=>M (.sl .nil es [])|[.dS]=>M (.sl .emp es [])|[.fsl B D]=>if B=es then M (.sl .row es D)else J|_=>J
def UZ(st:St)(l:Loc):aX Nat:=match Rm st l with
 |some (.v (.int _ i))=>if 0<=i then M i.toNat else J|_=>J
def DJ(d:Nat)(st:St):aX St:=
 match bk st.m d with
 |some (.sl k es u)=>if es=1/\k≠.part/\u.all U3=U then M {st with m:=bJ st.m d (.dp k u J)}else J|some (.dp _ _ J)=>M st|_=>J
def DV(d:Nat)(i:Loc)(es t:Nat)(st:St):aX St:=
 match bk st.m d,UZ st i with
 |some (.dp k u J),M i=>if cg k=U/\st.new t=U then(u[i]?).bind λx=>(WM es x).map λob=>{st with m:=bJ (bJ st.m d (.dp k u (M (i,t)))) t ob}else J|none,_=>M st|_,_=>J
def HV(d:Nat)(st:St):aX St:=
 match bk st.m d with
 |some (.dp k w (M (i,t)))=>match bk st.m t with
  |some (.sl u es z)=>if u≠.part/\t≠d/\cg k=U then M {st with m:=bJ (dJ t st.m) d (.dp k (w.set i [lQ u es z]) J)}else J|_=>J
 |none=>M st|_=>J
def ghost(x:Gh)(st:St):aX St:=
 match x with
 |.closeS l=>match Rm st l with
  |some (.own d)=>Dx d st|some _=>M st|none=>J
 |.close d=>Dx d st|.closeB d=>match bk st.m d with
  |some (.box cs)=>match dG cs with
   |some u=>M {st with g:=CH (SV.E4 d u) st.g,m:=mapM (SV.uf d u) (dJ d st.m)}|none=>J
  |_=>J
 |.canon (.s n) d es=>match bk st.g n with
  |some (.v .bN)=>if st.new d then M {st with g:=bJ st.g n (.own d),m:=bJ st.m d (.sl .nil es [])}else J|some (.v .dS)=>if st.new d then M {st with g:=bJ st.g n (.own d),m:=bJ st.m d (.sl .emp es [])}else J|some (.own e)=>if e=d then M st else if st.new d then M {st with g:=C6 e d st.g,m:=yg e d st.m}else J|some (.ptr e _)=>if e=d then M st else if st.new d then M {st with g:=C6 e d st.g,m:=yg e d st.m}else J|_=>J
 |.canon (.c b i) d es=>match bk st.m b with
  |some (.box cs)=>match cs[i]?with
   |some (.v .bN)=>if st.new d then M {st with m:=bJ (bJ st.m d (.sl .nil es [])) b (.box (cs.set i (.own d)))}else J|some (.v .dS)=>if st.new d then M {st with m:=bJ (bJ st.m d (.sl .emp es [])) b (.box (cs.set i (.own d)))}else J|some (.own e)=>if e=d then M st else if st.new d then M {st with g:=C6 e d st.g,m:=yg e d st.m}else J|_=>J
  |_=>J
 |.keep gs w=>match mb st.g gs,mb st.m w with
  |some g,M m=>M {st with g:=g,m:=m}|_,_=>J
 |.drop ds=>M {st with g:=sj ds st.g}|.melt d=>DJ d st|.take d i es t=>DV d i es t st|.put d=>HV d st
section
variable{Rv:Nat->Prop}{ν ν':Nu}{Z Z':Nat->Prop}{st e?:St}{m m':Tb bG}{F F':WP}{H H':bt}{N:Nat->Y'}
def RD(r:R ν Z st F H){dst:aX Nat}{size d:Nat}{lo hi:X'}{q:SW}{ys:So}{sv:SV}(D:cr ν st.m H Z (.own d::q) ys)(h:Di st dst size lo hi d q=M (sv,e?)):
 ∃y ν',bW N (.slice size lo hi) ys=M y/\R ν' Z e? F H/\di ν' e?.m H Z sv y/\Ev Rv ν Z st H ν' Z e? H:=by
 unfold Di at h;obtain⟨f,g,rfl,c,S⟩:=D.inv;split at h
 .rename_i k es L ws t u T;split at h
  .rename_i hk;have⟨⟨l,i⟩,A,h⟩:=ζg.1 h;have⟨⟨a,b⟩,C,h⟩:=ζg.1 h;dsimp only at h;split at h
   .rename_i w;obtain⟨rfl,rfl⟩:=h;obtain⟨_,_,_,e,rfl⟩:=c.iT u;cases e;have W:b<=_m L/\a<=b:=by
     grind[eD]
    have o:=r.obj d _ u;simp[dy,hk.1]at o;have⟨rs,j,n,X,P,_⟩:=o;have z:=hk.1;have r1:R ν Z {st with m:=dJ d st.m} F H:=r.less (λ_ _ h=>h) mS
    have G:¬gj ν (dJ d st.m) (ν d).1:=by rintro⟨k2,o2,Y,g1,g2,g3⟩;have⟨g4,g5⟩:=m_ g1;exact g4 (r.inj d k2 _ o2 0 Y u g5 z g2 g3.symm).1
    have B:_m ((L.take b).drop a)=b-a:=o?
    refine⟨.hsl (ν d).1 es ((ν d).2+a) (b-a),jd ν t ((ν d).1,(ν d).2+a),?_,?_,?_,?_⟩
    .have I:=cr.dG S T;rw[qN hk.1];simp[bW,I.pe A,jW,L' hk.2,C]
    .refine r1.add w (λ_=>⟨G,r.apart d _ 0 u z⟩) ?_
     simp[dy,cg,jH];have:=(X.take b).drop a
     grind[List.drop_take,A!]
    .refine .own _ _ λp Q=>?_
     rw[cD]at Q;cases Q;exact⟨_,_,_,_l,by rw[B];simp[qE,jH]⟩
    exact Ev.re (st:=st) mS (l9 w).1 (x? _) (λ_ _ _ _=>rfl) (λ_ _=>rfl) (λ_=>.inl ⟨d,_,0,u,z,_l⟩)
   grind
  grind
 grind
def ID{f:SV->SV}:∀{g:Tb SV}{s:Nat},bk (CH f g) s=(bk g s).map f
 |[],s=>rfl|(k,x)::r,s=>by simp[CH,bk];split;rfl;exact ID
def CN(f:SW->SW):bG->bG
 |.box cs=>.box (f cs)|o=>o
def Jl{f:SW->SW}:∀{m:Tb bG}{d:Nat},bk (mapM f m) d=(bk m d).map (CN f)
 |[],d=>rfl|(k,x)::r,d=>by cases x<;>simp[mapM,bk]<;>split<;>first|rfl|exact Jl
theorem wk{d:Nat}{w:V}:∀{l:SW}{j:Nat},(SV.wG d w l)[j]?=(l[j]?).map (SV.sub d w)
 |[],j=>by simp[SV.wG]|x::r,0=>by simp[SV.wG]|x::r,j+1=>by simp[SV.wG,wk]
def uR{d:Nat}{w:So}:∀{l:SW}{j:Nat},(SV.uf d w l)[j]?=(l[j]?).map (SV.E4 d w)
 |[],j=>by simp[SV.uf]|x::r,0=>by simp[SV.uf]|x::r,j+1=>by simp[SV.uf,uR]
def qj{d:Nat}{w:V}:∀{l:SW},W (SV.wG d w l)=W l
 |[]=>rfl|x::r=>by simp[SV.wG,qj]
def qU{d:Nat}{w:So}:∀{l:SW},W (SV.uf d w l)=W l
 |[]=>rfl|x::r=>by simp[SV.uf,qU]
def di.sub{sv:SV}{y w:V}{d:Nat}{k:Fl}{es n:Nat}{ob:bG}(q:bk m d=M ob)(G:ob.xT=.sl k es n)(T:FR H Z' w (qE (ν d) k es n))(t:∀id,Z id->Z' id)
 (P:∀e l?,bk m' e=M l?->e≠d/\∃ob,bk m e=M ob/\sameShape ob l?)(r:di ν m H Z sv y):di ν m' H Z' (sv.sub d w) y:=by
 have z:∀id,Z id->Z' id/\bz H id=bz H id:=λid h=>⟨t id h,Y⟩
 have D:∀e l?,bk m' e=M l?->∃ob,bk m e=M ob/\ν e=ν e/\sameShape ob l?:=λe l? h=>g?
 induction r with
 |v x y h=>exact .v x y (h.mono z)|own e y h=>
  simp[SV.sub];split
  next L=>subst L;obtain⟨_,_,_,e1,rfl⟩:=h _ q;rw[G]at e1;cases e1;exact .v _ _ T
  exact(di.own e y h).mono z λe _=>D e
 |ptr e o y h=>exact(di.ptr e o y h).mono z λe _=>D e|el e i o y h=>exact(di.el e i o y h).mono z λe _=>D e|mp e y h=>exact(di.mp e y h).mono z λe _=>D e|clo f a b B A I X hva Q C S=>
  refine .clo f _ _ B A (by rw[qj];omega) (by rw[qj];omega) (λj u v c g=>?_) (λj u v c g=>?_)
  all_goals grind[wk]
 |tup a B I hva C=>
  refine .tup _ B (by rw[qj];omega) (λj u v c g=>?_)
  rw[wk,ζf]at c;grind
 |agg a B I hva C=>
  refine .agg _ B (by rw[qj];omega) (λj u v c g=>?_)
  rw[wk,ζf]at c;grind
 |yl id=>exact .yl id
theorem Zc {f:FuncId} {a b:aY SV} {y:V} (r:di ν m H Z (.clo f a b) y):di ν m H Z (U4 f a b) y:=by
 unfold U4;split
 .rename_i x z D G;cases r with|clo _ _ _ w B I d hva u=>
  have h1:=cr.dG (ν:=ν) (m:=m) (H:=H) (Z:=Z) (ys:=w) ⟨I,hva⟩ D;have C:=cr.dG (ν:=ν) (m:=m) (H:=H) (Z:=Z) (ys:=B) ⟨d,u⟩ G;exact .v _ _ (.clo f x z w B h1.1 C.1 h1.2 C.2)
 exact r
def di.E4{sv:SV}{y:V}{d:Nat}{cs:SW}{xs:So}(G:bk m d=M (.box cs))(q:∀o,o<=W xs->FR H Z' (.fptr (xs.drop o)) (.hptr (ν d).1 0 o))(T:∀id,Z id->Z' id)
 (P:∀e l?,bk m' e=M l?->e≠d/\∃ob,bk m e=M ob/\sameShape ob l?)(r:di ν m H Z sv y):di ν m' H Z' (sv.E4 d xs) y:=by
 have w:∀id,Z id->Z' id/\bz H id=bz H id:=λid h=>⟨T id h,Y⟩
 have z:∀e l?,bk m' e=M l?->∃ob,bk m e=M ob/\ν e=ν e/\sameShape ob l?:=λe l? h=>g?
 induction r with
 |v x y h=>exact .v x y (h.mono w)|own e y h=>exact(di.own e y h).mono w λe _=>z e|ptr e o y h=>
  simp only[SV.E4];split
  .rename_i I;subst I;obtain⟨_,e1,rfl⟩:=h _ G;split
   next L=>exact .v _ _ (q o L)
   exact(di.ptr e o _ h).mono w λe _=>z e
  exact(di.ptr e o y h).mono w λe _=>z e
 |el e i o y h=>exact(di.el e i o y h).mono w λe _=>z e|mp e y h=>exact(di.mp e y h).mono w λe _=>z e|clo f a b B A C Q hva S D t=>
  refine Zc (.clo f _ _ B A (by rw[qU];exact C) (by rw[qU];exact Q) (λj u v c g=>?_) (λj u v c g=>?_))
  .rw[uR,ζf]at c;grind
  rw[uR,ζf]at c;grind
 |tup a B C hva D=>
  refine .tup _ B (by rw[qU];exact C) (λj u v c g=>?_)
  rw[uR,ζf]at c;grind
 |agg a B C hva D=>
  refine .agg _ B (by rw[qU];exact C) (λj u v c g=>?_)
  rw[uR,ζf]at c;grind
 |yl id=>exact .yl id
def dy.CN{d:Nat}{ob:bG}{f:SW->SW}(g:∀id,Z id->Z' id)(q:∀l,W (f l)=W l)
 (T:∀cs B,cr ν m H Z cs B->cr ν m' H Z' (f cs) B)(i:∀e l?,bk m' e=M l?->∃ob,bk m e=M ob/\sameShape ob l?)(o:dy ν m H Z d ob):dy ν m' H Z' d (CN f ob):=by
 have u:∀id,Z id->Z' id/\bz H id=bz H id:=λid h=>⟨g id h,Y⟩
 cases ob with
 |sl k es G=>
  simp[Go.VE.CN,dy]at o⊢;split
  next b=>rw[L' b]at o;have⟨I,a,z,D,L,j⟩:=o;exact⟨I,a,z,D.mono u,L.mono u,j⟩
  grind
 |box cs=>have⟨es,B,a,z,D⟩:=o;exact⟨es,B,a,T cs B z,D⟩|mp Q=>have⟨C,a,z⟩:=o;exact⟨C,a,z.mono u⟩|dp k G w=>exact dy.mono (ob:=.dp k G w) u Y (λ_ _=>rfl) (λe _ l? h=>let⟨ob,a,z⟩:=i e l? h;⟨ob,a,Y,z⟩) o
def Ix{f:SW->SW}{ob:bG}:(CN f ob).pt=ob.pt:=by cases ob<;>rfl
theorem PF{f:SW->SW}{ob:bG}:sameShape ob (CN f ob):=by cases ob<;>rfl
def R.shut(r:R ν Z st F H){d:Nat}{ob:bG}(n:bk st.m d=_k ob){fs:SV->SV}{D:SW->SW}(q:∀l,_m (D l)=_m l)(M:∀l(j:Nat),(D l)[j]?=(l[j]?).map fs)
 (B:∀id,Z' id↔Z id\/∃j,ob.pt j=U/\id=ν.at d j)(G:∀j,ob.pt j=U->∃es ys,H[ν.at d j]?=_k (.row es ys)/\wS H Z' ys)
 (N:∀m',(∀e l?,bk m' e=_k l?->e≠d/\∃ob,bk st.m e=_k ob/\sameShape ob l?)->∀sv y,di ν st.m H Z sv y->di ν m' H Z' (fs sv) y):
 R ν Z' {st with g:=CH fs st.g,m:=mapM D (dJ d st.m)} F H/\Ev Rv ν Z st H ν Z' {st with g:=CH fs st.g,m:=mapM D (dJ d st.m)} H:=by
 have key:∀e l?,bk (mapM D (dJ d st.m)) e=_k l?->e≠d/\∃ob,bk st.m e=_k ob/\l?=CN D ob:=λe l? h=>by rw[Jl,ζf]at h;obtain⟨o,a,rfl⟩:=h;grind[m_]
 have w:∀e l?,bk (mapM D (dJ d st.m)) e=_k l?->e≠d/\∃ob,bk st.m e=_k ob/\sameShape ob l?:=λe l? h=>by obtain⟨a,o,z,rfl⟩:=key e l? h;grind[PF]
 have t:=N _ w;have b__:∀cs C,cr ν st.m H Z cs C->cr ν (mapM D (dJ d st.m)) H Z' (D cs) C:=λcs C h=>by refine⟨by rw[q];exact h.1,λj u v i P=>?_⟩;rw[M,ζf]at i;obtain⟨A,W,rfl⟩:=i;exact t A v (h.2 j A v W P)
 have I:=λid h=>(B id).2 (.inl h)
 refine⟨⟨λs sv S=>?_,λe l? X=>?_,λb E o1 o2 T V a z L K hp=>?_,λb o1 T a L=>?_,λid h=>?_,⟨λid es ys c__ f c hc u i=>?_⟩⟩,⟨x? _,λ_ _ _ _ _=>rfl,λid h=>⟨I id h,_l⟩,?_,?_,?_,_l⟩⟩
 .rw[ID,ζf]at S;obtain⟨Q,Y,rfl⟩:=S;exact t Q _ (r.slot s Q Y)
 .obtain⟨a,o,z,rfl⟩:=key e l? X;exact dy.CN I q b__ (λe l? h=>(w e l? h).2) (r.obj e o z)
 .obtain⟨_,p1,k1,rfl⟩:=key b o1 a;obtain⟨_,p2,k2,rfl⟩:=key E o2 z;rw[Ix]at L K;exact r.inj b E p1 p2 T V k1 k2 L K hp
 .obtain⟨aa,p1,k1,rfl⟩:=key b o1 a;rw[Ix]at L;intro c__;rcases(B _).1 c__ with c__|⟨j,a__,X⟩
  .exact r.apart b p1 T k1 L c__
  exact aa (r.inj b d p1 ob T j k1 n L a__ X).1
 .rcases (B id).1 h with h|⟨j,a__,rfl⟩
  .exact r.zrow id h
  have⟨es,ys,f,_⟩:=G j a__;unfold bz;rw[f];rfl
 .rcases (B id).1 c__ with h|⟨j,a__,rfl⟩
  .have⟨x,hx⟩:=r.deep.row id es ys h f c hc u i;exact⟨x,hx.mono λk hk=>⟨I k hk,_l⟩⟩
  have⟨ad,ae,ab,S⟩:=G j a__;unfold bz at f;rw[ab]at f;obtain⟨_,rfl⟩:=f;exact S c hc u i
 .rintro id ⟨e,o,j,a,z,h3⟩;obtain⟨_,p,k1,rfl⟩:=key e o a;rw[Ix]at z;exact .inl ⟨e,p,j,k1,z,h3⟩
 .intro id h;rcases(B id).1 h with h|⟨j,a__,rfl⟩
  .grind
  exact .inr (.inl ⟨d,ob,j,n,a__,_l⟩)
 grind
def KM(r:R ν Z st F H){d:Nat}(h:Dx d st=M e?):∃Z',R ν Z' e? F H/\Ev Rv ν Z st H ν Z' e? H:=by
 unfold Dx at h;split at h;rename_i k es z u;simp only[ζa]at h;subst h;have o:=r.obj d _ u;refine⟨λid=>Z id\/∃j,(bG.sl k es z).pt j=U/\id=ν.at d j,R.shut r u (λ_=>qj) (λ_ _=>wk) (λ_=>Iff.rfl) (λj B=>?_) (λm' w G y a=>?_)⟩;have:=lH (ob:=.sl k es z) f? j B;subst this;have b:cg k=U:=B;simp only[dy,b,N']at o;have⟨C,a,_,_,D,_⟩:=o;exact⟨es,C,a,D.mono λid h=>⟨.inl h,Y⟩⟩;refine di.sub u Y ?_ (λid h=>.inl h) w a;by_cases b:cg k=U;simp[dy,b]at o;have⟨C,a,I,g,D,_⟩:=o;rw[qN b];have e:lQ k es z=.fsl es z:=by cases k<;>simp[cg]at b<;>rfl
 rw[e];refine FR.Gi (.inr ⟨0,b,Y⟩) (by unfold bz;rw[a];rfl) I (g.mono λid h=>⟨.inl h,Y⟩);cases k<;>simp[cg]at b;exact .same _ Y;exact .same _ Y;rename_i k z u;simp only[ζa]at h;subst h;have⟨c,L⟩:=Q1 (Z':=λid=>Z id\/∃j,(bG.dp k z J).pt j=U/\id=ν.at d j) (r.obj d _ u) (λid h=>.inl h) (λj h=>.inr ⟨j,h,Y⟩);exact⟨_,R.shut r u (λ_=>qj) (λ_ _=>wk) (λ_=>Iff.rfl) L (λm' w G y a=>di.sub u Y c (λid h=>.inl h) w a)⟩;cases h
def R1(r:R ν Z st F H){d:Nat}(h:ghost (.closeB d) st=M e?):∃Z',R ν Z' e? F H/\Ev Rv ν Z st H ν Z' e? H:=by
 simp[ghost]at h;split at h;rename_i cs w;split at h;rename_i I g;simp at h;subst h;have⟨es,z,a,b,_⟩:=r.obj d _ w;have C:=b.dG g;have L:wS H Z [z]:=by intro c B u e;simp[List.mem_singleton]at B;subst B;have⟨j,q⟩:=mem_iff_getElem?.1 e;have Q:j<W I:=(by rw[C.1];grind);exact⟨_,C.2 j _ u (ζd Q) q⟩
 refine⟨λid=>Z id\/∃j,(bG.box cs).pt j=U/\id=ν.at d j,R.shut r w (λ_=>qU) (λ_ _=>uR) (λ_=>Iff.rfl) (λj S=>by have:=lH (ob:=.box cs) f? j S;subst this;exact⟨es,_,a,L.mono λid h=>⟨.inl h,Y⟩⟩) (λm' D T y G=>?_)⟩;refine di.E4 w (λo i=>?_) (λid h=>.inl h) D G;exact FR.G_ (.inr ⟨0,Y,Y⟩) (show bz H (ν d).1=M (es,[z])by unfold bz;rw[a];rfl) Y (by rw[<-C.1];omega) ((C.drop o).mono λid h=>⟨.inl h,Y⟩);grind;grind
def we{d e:Nat}:∀{l:SW}{j:Nat},(SV.yd d e l)[j]?=(l[j]?).map (SV.u9 d e)
 |[],j=>by simp[SV.yd]|x::r,0=>by simp[SV.yd]|x::r,j+1=>by simp[SV.yd,we]
def rW{d e:Nat}:∀{l:SW},W (SV.yd d e l)=W l
 |[]=>rfl|x::r=>by simp[SV.yd,rW]
def I5{d e:Nat}:∀{g:Tb SV}{s:Nat},bk (C6 d e g) s=(bk g s).map (SV.u9 d e)
 |[],s=>rfl|(k,x)::r,s=>by simp[C6,bk];split;rfl;exact I5
def CZ{d e:Nat}(B:d≠e):∀{m:Tb bG}{k:Nat},bk m e=J->bk (yg d e m) k=(if k=d then J else(bk m (if k=e then d else k)).map (bG.u9 d e))
 |[],k,_=>by simp[yg,bk]|(n,x)::r,k,h=>by simp[bk]at h;split at h;simp_all;have D:=CZ B (k:=k) h;grind[yg,bk]
def oW(ν:Nu)(d e:Nat):Nu:=⟨λk=>if k=e then ν d else ν k,λk=>if k=e then ν.inn d else ν.inn k⟩
def Ud(ν:Nu)(d e k j:Nat):(oW ν d e).at k j=ν.at (if k=e then d else k) j:=by cases j<;>simp only[Nu.at,oW]<;>split<;>rfl
def HZ{d e:Nat}{ob:bG}:(ob.u9 d e).xT=ob.xT:=by
 cases ob with
 |dp k u w=>rcases w with _|⟨i,t⟩<;>rfl
 |_=>rfl
def Lh{d e:Nat}{ob:bG}:(ob.u9 d e).pt=ob.pt:=by
 cases ob with
 |dp k u w=>rcases w with _|⟨i,t⟩<;>rfl
 |_=>rfl
def di.u9{sv:SV}{y:V}{d e:Nat}(T:bk m e=J)(D:sv.cZ e=O)(q:d≠e)(r:di ν m H Z sv y):di (oW ν d e) (yg d e m) H Z (sv.u9 d e) y:=by
 have key:∀k,k≠e->∀w,bk (yg d e m) (if k=d then e else k)=M w->∃ob,bk m k=M ob/\oW ν d e (if k=d then e else k)=ν k/\w=ob.u9 d e:=λk l w h=>by rw[CZ q T]at h;by_cases c:k=d;subst c;rw[L' Y,M' (Ne.symm q),L' Y,ζf]at h;obtain⟨ob,B,rfl⟩:=h;simp_all[oW];rw[M' c,M' c,M' l,ζf]at h;obtain⟨ob,B,rfl⟩:=h;simp_all[oW]
 induction r with|v x y h=>exact .v x y h|own k y h=>have l:k≠e:=(by simp_all[SV.cZ]);refine .own _ y λw G=>?_;obtain⟨ob,c,B,rfl⟩:=key k l w G;obtain⟨_,_,_,D,rfl⟩:=h ob c;exact⟨_,_,_,HZ.trans D,by rw[B]⟩|ptr k o y h=>have l:k≠e:=(by simp_all[SV.cZ]);refine .ptr _ o y λw G=>?_;obtain⟨ob,c,B,rfl⟩:=key k l w G;obtain⟨_,rfl,rfl⟩:=h ob c;exact⟨_,rfl,by rw[B]⟩|el k i o y h=>have l:k≠e:=(by simp_all[SV.cZ]);refine .el _ i o y λw G=>?_;obtain⟨ob,c,B,rfl⟩:=key k l w G;obtain⟨_,_,_,D,Q,rfl⟩:=h ob c;exact⟨_,_,_,HZ.trans D,Q,by rw[B]⟩|mp k y h=>have l:k≠e:=(by simp_all[SV.cZ]);refine .mp _ y λw G=>?_;obtain⟨ob,c,B,rfl⟩:=key k l w G;obtain⟨_,rfl,rfl⟩:=h ob c;exact⟨_,rfl,by rw[B]⟩|clo f a b I S A X hva t C P=>simp[SV.cZ]at D;refine .clo f _ _ I S (by rw[rW];omega) (by rw[rW];omega) (λj u v g n=>?_) (λj u v g n=>?_);rw[we,ζf]at g;obtain⟨L,z,rfl⟩:=g;grind[wC];rw[we,ζf]at g;obtain⟨L,z,rfl⟩:=g;grind[wC]|tup a I A hva C=>refine .tup _ I (by rw[rW];omega) (λj u v g n=>?_);rw[we,ζf]at g;obtain⟨L,z,rfl⟩:=g;exact C j L v z n (wC D z)|agg a I A hva C=>refine .agg _ I (by rw[rW];omega) (λj u v g n=>?_);rw[we,ζf]at g;obtain⟨L,z,rfl⟩:=g;exact C j L v z n (wC D z)|yl id=>exact .yl id
def KE(r:R ν Z st F H){d e:Nat}(D:d≠e)(V:st.new e=U):R (oW ν d e) Z {st with g:=C6 d e st.g,m:=yg d e st.m} F H/\Ev Rv ν Z st H (oW ν d e) Z {st with g:=C6 d e st.g,m:=yg d e st.m} H:=by
 have⟨n1,c__,n3,E⟩:=l9 V;have key:∀k z,bk (yg d e st.m) k=M z->∃k0 ob,bk st.m k0=M ob/\z=ob.u9 d e/\k0=(if k=e then d else k)/\k≠d/\(k=e/\k0=d\/k≠e/\k0=k):=λk z h=>by rw[CZ D c__]at h;split at h;simp_all;rename_i a;rw[ζf]at h;obtain⟨ob,B,rfl⟩:=h;by_cases G:k=e;rw[L' G]at B;exact⟨d,ob,B,_l,by grind[oW],a,.inl ⟨G,_l⟩⟩;rw[M' G]at B;exact⟨k,ob,B,_l,by grind[oW],a,.inr ⟨G,_l⟩⟩
 have C:∀k j,(oW ν d e).at k j=ν.at (if k=e then d else k) j:=Ud ν d e;have L:∀k,(oW ν d e) k=ν (if k=e then d else k):=λk=>by simp only[oW];split<;>rfl
 have W:∀k,(oW ν d e).inn k=ν.inn (if k=e then d else k):=λk=>by simp only[oW];split<;>rfl
 refine⟨⟨λs sv K=>?_,λk z b=>?_,λc d2 o1 o2 X j2 a B d__ a__ b__=>?_,λc o1 X a d__=>?_,r.zrow,r.deep⟩,⟨x? _,λ_ _ _ _ _=>rfl,λid h=>⟨h,_l⟩,?_,λ_ h=>.inl h,?_,_l⟩⟩;rw[I5,ζf]at K;obtain⟨Y,Q,rfl⟩:=K;exact di.u9 c__ (BL n3 Q) D (r.slot s Y Q);obtain⟨k0,ob,a,rfl,B,_,_⟩:=key k z b;have o:=r.obj k0 ob a;have b__:(oW ν d e) k=ν k0:=by rw[L,<-B]
 cases ob with|sl fl es xs=>grind[bG.u9,dy]|box cs=>have⟨es,aa,g1,g2,g3⟩:=o;have I:=(by have:=uN E a;simpa[bG.cZ]using this);refine⟨es,aa,by rw[b__];exact g1,⟨by rw[rW];exact g2.1,λj u v N hv=>?_⟩,g3⟩;rw[we,ζf]at N;obtain⟨u',S,rfl⟩:=N;exact di.u9 c__ (wC I S) D (g2.2 j u' v S hv)|mp ab=>grind[bG.u9,dy]|dp fl xs w=>have hi:(oW ν d e).inn k=ν.inn k0:=(by rw[W,<-B]);have P:∀i x y,xU ν H Z k0 i x y->xU (oW ν d e) H Z k i x y:=λi x y h=>(by unfold xU at h⊢;rw[hi];exact h);have I:=uN E a;rcases w with _|⟨i0,t⟩;simp only[bG.u9,dy,b__]at o⊢;split;(next b=>rw[L' b]at o;have⟨o1,o2,o3,ys,f,l,n⟩:=o;exact⟨o1,o2,o3,ys,f,l,λi x y p q=>P i x y (n i x y p q)⟩);rename_i b;rw[M' b]at o;exact o;simp only[bG.u9,dy,b__]at o⊢;split;rename_i b;rw[L' b]at o;have⟨o1,o2,o3,ys,f,l,n⟩:=o;refine⟨o1,o2,λi t' e=>by cases e;exact o3 _ _ _l,ys,f,l,λi x y p q=>?_⟩;have T:=n i x y p q;simp only[qQ]at T⊢;split;(next e0=>rw[L' e0]at T;have⟨v,q1,q2,q3⟩:=T;exact⟨v,q1,q2,di.u9 (sv:=.own t) c__ (by simpa[bG.cZ,SV.cZ]using I) D q3⟩);rename_i e0;rw[M' e0]at T;exact P i x y T;rename_i b;rw[M' b]at o;cases o.2
 obtain⟨k1,p1,g1,rfl,e1,c1,A⟩:=key c o1 a;obtain⟨k2,p2,g2,rfl,e2,c3,c4⟩:=key d2 o2 B;rw[Lh]at d__ a__;rw[C,C,<-e1,<-e2]at b__;have:=r.inj k1 k2 p1 p2 X j2 g1 g2 d__ a__ b__;omega;obtain⟨k1,p1,g1,rfl,e1,_⟩:=key c o1 a;rw[Lh]at d__;rw[C,<-e1];exact r.apart k1 p1 X g1 d__;rintro id ⟨k,o,j,a,B,G⟩;obtain⟨k1,p1,g1,rfl,e1,_⟩:=key k o a;rw[Lh]at B;exact .inl ⟨k1,p1,j,g1,B,by rw[C,<-e1]at G;exact G⟩;intro k b z h;obtain⟨k1,p1,g1,rfl,e1,c1,A⟩:=key k z h;rcases A with⟨rfl,_⟩|⟨A,rfl⟩;grind;exact⟨p1,g1,by rw[L,<-e1],HZ⟩
def R.say(r:R ν Z st F H){n:Nat}{sv:SV}(h:di ν st.m H Z sv (get F n)):R ν Z {st with g:=bJ st.g n sv} F H where
 slot:=λs x u=>by by_cases e:n=s;grind[cD];rw[cW st.g sv e]at u;exact r.slot s x u
 obj:=r.obj
 inj:=r.inj
 apart:=r.apart
 zrow:=r.zrow
 deep:=r.deep
def Sp(r:R ν Z st F H){n d es:Nat}{k:Fl}{x:V}(a:lQ k es []=x/\cg k=O)(G:bk st.g n=M (.v x))(D:st.new d=U)(i:∀y,FR H Z x y->y=x)(B:qE (ν d) k es 0=x):
 R (jd ν d (ν d)) Z {st with g:=bJ st.g n (.own d),m:=bJ st.m d (.sl k es [])} F H/\Ev Rv ν Z st H (jd ν d (ν d)) Z {st with g:=bJ st.g n (.own d),m:=bJ st.m d (.sl k es [])} H:=by
 have u:eU (.sl k es [])=U->False:=by grind[eU]
 have r1:=r.add D (p:=ν d) (λh=>(u h).elim) (by grind[dy])
 refine⟨r1.say (.own _ _ λz w=>?_),?_⟩
 .rw[cD]at w;cases w;rw[jH,i _ (r.slot n _ G).fr];exact⟨_,_,_,Y,B.symm⟩
 exact(Ev.add D (x? _) (λ_ _ _=>rfl) (λ_ _=>rfl) (λh=>(u h).elim)).trans (Ev.slots _)
def SI(r:R ν Z st F H){b i d es:Nat}{k:Fl}{x:V}{cs:SW}(l:cg k=O)(T:bk st.m b=M (.box cs))(hi:cs[i]?=M (.v x))(D:st.new d=U)(q:∀y,FR H Z x y->y=x)(G:qE (ν d) k es 0=x):
 ∃ν',R ν' Z {st with m:=bJ (bJ st.m d (.sl k es [])) b (.box (cs.set i (.own d)))} F H/\Ev Rv ν Z st H ν' Z {st with m:=bJ (bJ st.m d (.sl k es [])) b (.box (cs.set i (.own d)))} H:=by
 have B:eU (.sl k es [])=U->False:=by grind[eU]
 have r1:=r.add D (p:=ν d) (λh=>(B h).elim) (by grind[dy])
 have C:b≠d:=by rintro rfl;rw[(l9 D).2.1]at T;cases T
 have z:bk (bJ st.m d (.sl k es [])) b=M (.box cs):=by rw[cW _ _ (Ne.symm C)];omega
 have⟨I,o,f,L,S⟩:=r1.obj b _ z;have g:∀e w,bk (bJ (bJ st.m d (.sl k es [])) b (.box (cs.set i (.own d)))) e=M w->∃ob,bk (bJ st.m d (.sl k es [])) e=M ob/\jd ν d (ν d) e=jd ν d (ν d) e/\sameShape ob w:=λe w h=>by by_cases t:e=b;subst t;rw[cD]at h;cases h;exact⟨_,z,Y,Y⟩;rw[cW _ _ (Ne.symm t)]at h;exact⟨w,h,Y,.refl _⟩
 refine⟨jd ν d (ν d),r1.gR z Y (pW Y) (λ_ _=>rfl) Y ⟨I,o,f,⟨by simp[L.1],λj u v a c=>?_⟩,S⟩,?_⟩
 .rw[D?]at a;split at a
  .rename_i e;subst e;split at a
   .cases a;refine .own _ _ λw Q=>?_
    rw[cW _ _ C,cD]at Q;cases Q;rw[jH,q v (L.2 i _ v hi c).fr];exact⟨_,_,_,Y,G.symm⟩
   grind
  exact(L.2 j u v a c).mono (λid h=>⟨h,Y⟩) λe _=>g e
 exact(Ev.add D (x? _) (λ_ _ _=>rfl) (λ_ _=>rfl) (λh=>(B h).elim)).trans (Ev.gR r1 z Y (pW Y) (λ_ _=>rfl) Y (x? _))
theorem YD (r:R ν Z st F H) {d:Nat} (h:DJ d st=some e?):R ν Z e? F H/\Ev Rv ν Z st H ν Z e? H:=by
 unfold DJ at h;split at h
 .rename_i k es D u;split at h
  .rename_i hc;obtain⟨rfl,hk,w⟩:=hc;cases h;have G:∀(i:Nat) (x:aY V),D[i]? = some x->x=[.bN]\/x=[.dS]:=λi x hi=>by
    have:=List.all_eq_true.1 w x (List.mem_of_getElem? hi);unfold U3 at this;split at this
    .exact .inl rfl
    .exact .inr rfl
    cases this
   have z:∀j,(bG.dp k D none).pt j=true->(bG.sl k 1 D).pt j=true:=λj g=>by
    cases j with
    | zero=>exact g
    | succ i=>
     obtain⟨-,es,S,hi⟩:=uQ g;rcases G i _ hi with h|h <;> cases h
   have o:=r.obj d _ u;refine⟨r.HF u rfl z (λ_ _=>rfl) ?_,Ev.HF r u rfl z (λ_ _=>rfl) (Nat.le_refl _)⟩
   simp only[dy]at o ⊢;split
   .rename_i hr;rw[L' hr]at o;have hk:k=.row:=by cases k <;> simp_all [cg]
    obtain⟨q,o1,o2,o3,T,C⟩:=o;obtain⟨C,L⟩:=C hk;refine⟨hk,C,(λi t e=>by cases e),q,o1,L,λi x y w Q=>.inl ⟨?_,G i x w⟩⟩
    rw[C,List.drop_zero,<-L,List.take_length]at o3;have B:=o3.2 i x y w Q;rcases G i x w with rfl|rfl
    .obtain⟨y,_,rfl,h1,I⟩:=B.inv;rw[I.dx,h1.bN]
    obtain⟨y,_,rfl,h1,I⟩:=B.inv;rw[I.dx,h1.dS]
   rename_i hr;rw[M' hr]at o;exact⟨o,by simp⟩
  cases h
 .cases h;exact⟨r,.refl⟩
 cases h
def YS(r:R ν Z st F H){d es t:Nat}{i:Loc}(h:DV d i es t st=M e?):∃ν',R ν' Z e? F H/\Ev Rv ν Z st H ν' Z e? H:=by
 unfold DV at h;split at h;rotate_left;cases h;exact⟨ν,r,.refl⟩;cases h;rename_i k S i u _;split at h;rotate_left;cases h;rename_i hc;have⟨A,ab⟩:=hc;have⟨x,E,h⟩:=ζg.1 h;obtain⟨ob,b,rfl⟩:=ζf.1 h;have⟨n1,K,n3,n4⟩:=l9 ab;have G:d≠t:=by rintro rfl;rw[K]at u;cases u
 have hi:=(ζe.1 E).1;have o:=r.obj d _ u;simp only[dy,A,N']at o;obtain⟨o1,o2,-,ys,o3,o4,a__⟩:=o;have T:∀j,(bG.dp k S (M (i,t))).pt j=U->j≠i+1/\(bG.dp k S J).pt j=U:=λj I=>by cases j with|zero=>exact⟨a?,I⟩|succ j=>have⟨a,es,D,b__⟩:=uQ I;exact⟨λe=>a t (by rw[show i=j by omega]),by simp[bG.pt,b__]⟩
 have c__:∀y,ys[i]?=M y->xU ν H Z d i x y:=λy g=>a__ i x y E g;obtain⟨y,g⟩:∃y,ys[i]?=M y:=⟨_,ζd a?⟩;have ae:=c__ y g;obtain⟨v,kk,D,e1,e2,e3,e4,e5,e6⟩:∃v kk D,y=[v]/\v.one=U/\ob=.sl kk es D/\v=qE (ν.inn d i,0) kk es (_m D)/\(cg kk=U->(bG.dp k S J).pt (i+1)=U/\∃c,H[ν.inn d i]?=M (.row es c)/\gZ H Z D c)/\(cg kk=O->D=[]):=by rcases ae with⟨rfl,rfl|rfl⟩|⟨al,D,c,rfl,rfl,N,l⟩;cases b;exact⟨.bN,.nil,[],_l,_l,_l,_l,(λh=>by cases h),λ_=>rfl⟩;cases b;exact⟨.dS,.emp,[],_l,_l,_l,_l,(λh=>by cases h),λ_=>rfl⟩;simp only[WM]at b;split at b;(next e=>subst e;cases b;exact⟨_,.row,D,_l,_l,_l,_l,λ_=>⟨by simp[bG.pt,E],c,N,l⟩,λh=>by cases h⟩);cases b
 subst e3;have r1:R ν Z {st with m:=bJ st.m d (.dp k S (M (i,t)))} F H:=by refine r.HF u _l (λj I=>(T j I).2) (λ_ _=>rfl) ?_;simp only[dy,A,N'];refine⟨o1,o2,λn t' e=>by cases e;exact hi,ys,o3,o4,λn P V W w=>?_⟩;simp only[qQ];split;(next e=>subst e;rw[g]at w;cases w;exact⟨v,e1,e2,.own _ _ λX q=>by rw[cW _ _ G,K]at q;cases q⟩);exact a__ n P V W w
 have L:∀e,bk (bJ st.m d (.dp k S (M (i,t)))) e=M (.dp k S (M (i,t)))/\e=d\/e≠d/\bk (bJ st.m d (.dp k S (M (i,t)))) e=bk st.m e:=λe=>by by_cases C:e=d;subst C;exact .inl ⟨cD _ _ _,_l⟩;exact .inr ⟨C,cW _ _ (Ne.symm C)⟩
 have hs:=p9 ν t (ν.inn d i,0) (λ_=>0);have ad:(lu ν t (ν.inn d i,0) (λ_=>0)).at t 0=ν.at d (i+1):=_f fst hs.1;have d__:(bG.sl kk es D).flat:=lH f?;have af:∀id,Z id->Z id/\bz H id=bz H id:=λid h=>⟨h,_l⟩;refine⟨lu ν t (ν.inn d i,0) (λ_=>0),r1.V6 (ob:=.sl kk es D) (p:=(ν.inn d i,0)) (f:=λ_=>0) ?_ n3 (λe o C s=>?_) (λj I=>?_) (λj j' I ah _=>by rw[d__ j I,d__ j' ah]) ?_,⟨x? _,λ_ _ _ _ _=>rfl,af,λid s=>?_,λ_ h=>.inl h,λe C X h=>?_,_l⟩⟩;rw[cW _ _ G];exact K;rcases L e with⟨a,rfl⟩|⟨a,b__⟩;simp only at C;rw[a]at C;cases C;have ai:(lu ν t (ν.inn e i,0) (λ_=>0)) e=ν e:=M' G;have aj:(lu ν t (ν.inn e i,0) (λ_=>0)).inn e=ν.inn e:=M' G;simp only[dy,A,N',ai];refine⟨o1,o2,λn t' e=>by cases e;exact hi,ys,o3,o4,λn P V W w=>?_⟩;simp only[qQ];split;rename_i e9;subst e9;rw[g]at w;cases w;refine⟨v,e1,e2,.own _ _ λX q=>?_⟩;rw[cD]at q;cases q;exact⟨_,_,_,_l,by rw[hs.1];exact e4⟩;have:=a__ n P V W w;unfold qQ xU at *;rw[aj];exact this;simp only at C;rw[b__]at C;rw[uN n4 C]at s;cases s;have:=d__ j I;subst this;have z:cg kk=U:=I;rw[ad];refine⟨λ⟨k2,ak,Y,B,Q,z3⟩=>?_,r.apart d _ _ u (e5 z).1⟩;rcases L k2 with⟨a,rfl⟩|⟨a,b__⟩;simp only at B;rw[a]at B;cases B;have⟨w1,w2⟩:=T Y Q;exact w1 (r.inj k2 k2 _ _ Y _ u u w2 (e5 z).1 z3).2;simp only at B;rw[b__]at B;exact a (r.inj k2 d _ _ Y _ B u Q (e5 z).1 z3).1;simp only[dy];split;rename_i z;have⟨_,c,N,l⟩:=e5 z;rw[hs.1];have hl:=l.1;refine⟨c,N,by simp[hl],?_,l.Bu,λ_=>⟨_l,hl.symm⟩⟩;rw[hl,R!,I?];exact l;rename_i z;exact e6 (by simpa using z);rcases K_ s with⟨k2,ak,Y,B,Q,z3⟩|⟨j,B,Q⟩;rcases L k2 with⟨a,rfl⟩|⟨a,b__⟩;rw[a]at B;cases B;exact .inl ⟨k2,_,Y,u,(T Y Q).2,z3⟩;rw[b__]at B;exact .inl ⟨k2,_,Y,B,Q,z3⟩;have:=d__ j B;subst this;rw[ad]at Q;exact .inl ⟨d,_,i+1,u,(e5 B).1,Q⟩;have aa:e≠t:=by rintro rfl;exact n1 C
 simp only at h;rw[cW _ _ (Ne.symm aa)]at h;rcases L e with⟨a,rfl⟩|⟨a,b__⟩;rw[a]at h;cases h;exact⟨_,u,M' aa,_l⟩;rw[b__]at h;exact⟨X,h,M' aa,.refl _⟩
def abo(r:R ν Z st F H){d:Nat}(h:HV d st=M e?):∃ν',R ν' Z e? F H/\Ev Rv ν Z st H ν' Z e? H:=by
 unfold HV at h;split at h;rotate_left;cases h;exact⟨ν,r,.refl⟩;cases h;rename_i k W i t C;split at h;rotate_left;cases h;rename_i d__ es T m;split at h;rotate_left;cases h;rename_i hc;have⟨aa,X,P⟩:=hc;cases h;have o:=r.obj d _ C;simp only[dy,P,N']at o;have⟨o1,o2,o3,ys,o4,o5,V⟩:=o;have hi:=o3 _ _ _l;have p:=r.obj t _ m;have z:∀e,e=d/\bk (bJ (dJ t st.m) d (.dp k (W.set i [lQ d__ es T]) J)) e=M (.dp k (W.set i [lQ d__ es T]) J)\/e≠d/\∀ob,bk (bJ (dJ t st.m) d (.dp k (W.set i [lQ d__ es T]) J)) e=M ob->e≠t/\bk st.m e=M ob:=λe=>by by_cases Q:e=d;subst Q;exact .inl ⟨_l,cD _ _ _⟩;refine .inr ⟨Q,λob h=>?_⟩;rw[cW _ _ (Ne.symm Q)]at h;have⟨w1,w2⟩:=m_ h;exact⟨Ne.symm w1,w2⟩
 let ν':Nu:=⟨ν.pl,λe u=>if e=d/\u=i then(ν t).1 else ν.inn e u⟩;have ab:∀e,ν' e=ν e:=λ_=>rfl;have D:∀e u,¬(e=d/\u=i)->ν'.inn e u=ν.inn e u:=λe u h=>M' h;have B:ν'.inn d i=(ν t).1:=L' ⟨_l,_l⟩;have n:∀e G,bk (bJ (dJ t st.m) d (.dp k (W.set i [lQ d__ es T]) J)) e=M G->∃ob,bk st.m e=M ob/\ν' e=ν e/\sameShape ob G:=λe G h=>by rcases z e with⟨rfl,a⟩|⟨a,I⟩;rw[a]at h;cases h;exact⟨_,C,_l,by simp[sameShape,bG.xT]⟩;exact⟨G,(I _ h).2,_l,.refl _⟩
 have S:∀id,Z id->Z id/\bz H id=bz H id:=λid h=>⟨h,_l⟩;have b__:∀e ob j,bk (bJ (dJ t st.m) d (.dp k (W.set i [lQ d__ es T]) J)) e=M ob->ob.pt j=U->∃e0 Y g,bk st.m e0=M Y/\Y.pt g=U/\ν'.at e j=ν.at e0 g/\((e=d/\j=i+1/\e0=t/\g=0)\/(e0=e/\g=j/\e≠t/\¬(e=d/\j=i+1))):=λe ob j h A=>by
  rcases z e with⟨rfl,a⟩|⟨a,I⟩
  .rw[a]at h;cases h;cases j with|zero=>exact⟨e,_,0,C,A,rfl,.inr ⟨rfl,rfl,Ne.symm X,a?⟩⟩|succ u=>
    obtain⟨-,ae,af,L⟩:=uQ A;by_cases w:u=i
    .subst w;rw[Q? hi]at L;have ad:cg d__=U:=(by cases d__<;>first|rfl|cases L);exact⟨t,_,0,m,ad,B,.inl ⟨_l,_l,_l,_l⟩⟩
    rw[E? (Ne.symm w)]at L;exact⟨e,_,u+1,C,by simp[bG.pt,L,Ne.symm w],D e u a?,.inr ⟨_l,_l,Ne.symm X,a?⟩⟩
  have⟨l,E⟩:=I _ h;refine⟨e,ob,j,E,A,?_,.inr ⟨_l,_l,l,a?⟩⟩;cases j with|zero=>rfl|succ u=>exact D e u a?
 refine⟨ν',⟨λs sv hs=>(r.slot s sv hs).mono S λe _=>n e,λe ob Q=>?_,λK d2 o1 o2 a__ j2 a I N b2 hp=>?_,λK o1 a__ a N=>?_,r.zrow,r.deep⟩,⟨x? _,λ_ _ _ _ _=>rfl,S,λid⟨e,o,j,a,I,l⟩=>?_,λ_ h=>.inl h,λe _=>n e,_l⟩⟩;rcases z e with⟨rfl,a⟩|⟨a,I⟩;simp only at Q;rw[a]at Q;cases Q;simp only[dy,P,N',ab];refine⟨o1,o2,(λu t' e=>by cases e),ys,o4,by simp[o5],λu x y L hy=>?_⟩;by_cases w:u=i;subst w;rw[Q? hi]at L;cases L;have c__:=V u _ y (ζd hi) hy;simp only[qQ,N']at c__;obtain⟨v,rfl,-,hv⟩:=c__;obtain⟨_,_,_,q,rfl⟩:=hv.iT m;cases q;show xU ν' H Z e u _ _;simp only[dy]at p;cases d__ with|nil=>exact .inl ⟨rfl,.inl rfl⟩|emp=>exact .inl ⟨rfl,.inr rfl⟩|row=>simp only[cg,N']at p;have⟨ws,p1,p2,p3,p4,p5⟩:=p;have⟨p5,p6⟩:=p5 trivial;rw[p5,R!,<-p6,I?]at p3;exact .inr ⟨es,T,ws,rfl,by rw[B];simp[qE,p5],by rw[B];exact p1,p3⟩|part=>exact _e _l aa
 rw[E? (Ne.symm w)]at L;have c__:=V u x y L hy;simp only[qQ,M' (Ne.symm w)]at c__;show xU ν' H Z e u _ _;unfold xU at c__⊢;rw[D e u a?];exact c__;have⟨l,E⟩:=I _ Q;exact dy.mono (ν:=ν) (ν':=ν') S _l (λ_ _=>rfl) (λe' _=>n e') (r.obj e ob E) (funext λu=>D e u a?);have⟨e1,p1,b,k1,c,f,c1⟩:=b__ K o1 a__ a N;have⟨e2,p2,q2,k2,l2,u2,c2⟩:=b__ d2 o2 j2 I b2;have:=r.inj e1 e2 p1 p2 b q2 k1 k2 c l2 (by rw[<-f,<-u2];exact hp);omega;have⟨e1,p1,b,k1,c,f,c1⟩:=b__ K o1 a__ a N;rw[f];exact r.apart e1 p1 b k1 c;have⟨e1,p1,b,k1,c,f,c1⟩:=b__ e o j a I;exact .inl ⟨e1,p1,b,k1,c,by rw[<-f];exact l⟩
def V2(r:R ν Z st F H){x:Gh}(h:ghost x st=M e?):∃ν' Z',R ν' Z' e? F H/\Ev Rv ν Z st H ν' Z' e? H:=by cases x with|close d=>have⟨Z',a,b⟩:=KM (Rv:=Rv) r h;grind|closeS l=>simp[ghost]at h;split at h;have⟨Z',a,b⟩:=KM (Rv:=Rv) r h;grind;simp at h;subst h;exact⟨ν,Z,r,.refl⟩;grind|closeB d=>have⟨Z',a,b⟩:=R1 (Rv:=Rv) r h;grind|keep gs G=>simp[ghost]at h;split at h;(next g m e B=>simp at h;subst h;exact⟨ν,Z,r.less (λs D w=>tG e w) (λd ob hd=>tG B hd),Ev.less (λd ob hd=>tG B hd)⟩);grind|drop ds=>simp[ghost]at h;subst h;exact⟨ν,Z,r.less (λs D w=>qZ w) (λd ob hd=>hd),Ev.less (λd ob hd=>hd)⟩|melt d=>have⟨a,b⟩:=YD (Rv:=Rv) r h;exact⟨ν,Z,a,b⟩|take d i es t=>have⟨ν',a,b⟩:=YS (Rv:=Rv) r h;exact⟨ν',Z,a,b⟩|put d=>have⟨ν',a,b⟩:=abo (Rv:=Rv) r h;exact⟨ν',Z,a,b⟩|canon l d es=>cases l with|s n=>simp[ghost]at h;split at h;rename_i w;split at h;rename_i u;simp at h;have⟨a,b⟩:=Sp (Rv:=Rv) (es:=es) (k:=.nil) r ⟨Y,Y⟩ w u (λy h=>h.bN) Y;grind;grind;rename_i w;split at h;rename_i u;simp at h;have⟨a,b⟩:=Sp (Rv:=Rv) (es:=es) (k:=.emp) r ⟨Y,Y⟩ w u (λy h=>h.dS) Y;grind;grind;split at h;simp at h;subst h;exact⟨ν,Z,r,.refl⟩;rename_i z;split at h;rename_i u;simp at h;have⟨a,b⟩:=KE (Rv:=Rv) r z u;grind;grind;split at h;simp at h;subst h;exact⟨ν,Z,r,.refl⟩;rename_i z;split at h;rename_i u;simp at h;have⟨a,b⟩:=KE (Rv:=Rv) r z u;grind;grind;grind|c b i=>simp[ghost]at h;split at h;rename_i cs C;split at h;rename_i w;split at h;rename_i u;simp at h;have⟨ν',a,b⟩:=SI (Rv:=Rv) (es:=es) (k:=.nil) r Y C w u (λy h=>h.bN) Y;grind;grind;rename_i w;split at h;rename_i u;simp at h;have⟨ν',a,b⟩:=SI (Rv:=Rv) (es:=es) (k:=.emp) r Y C w u (λy h=>h.dS) Y;grind;grind;split at h;simp at h;subst h;exact⟨ν,Z,r,.refl⟩;rename_i z;split at h;rename_i u;simp at h;have⟨a,b⟩:=KE (Rv:=Rv) r z u;grind;grind;grind;grind
end
structure qa(E:Env)(f:FuncId)(q:JW):Prop where
 keep:E.keep f=true
 own:E.own f=false
 le:∀es xs vs ys,q.go es xs vs=some ys->ys.length<=xs.length/\(q.part=false->ys.length=xs.length)
 none:∀es vs ys,q.go es [] vs=some ys->∀(H:bt)(Z:Nat->Prop)(ws:List V)(w:V),dL H Z vs ws->(w=.bN\/w=.dS)->∃n X,∀k,n<=k->run E k (.fn f) (w::ws) H=some (if q.part then w else .undef,H++X)
 row:∀es xs vs ys,q.go es xs vs=some ys->∀(H:bt)(Z:Nat->Prop)(ws:List V)(id off:Nat)(rs:List (List V)),dL H Z vs ws->H[id]?=some (.row es rs)->off+xs.length<=rs.length->
  gZ H Z xs ((rs.drop off).take xs.length)->wS H Z rs->¬Z id->∃n rs' X,(∀k,n<=k->run E k (.fn f) (.hsl id es off xs.length::ws) H=some (if q.part then .hsl id es off ys.length else .undef,(H++X).set id (.row es rs')))/\
   rs'.length=rs.length/\gZ H Z ys ((rs'.drop off).take ys.length)/\wS H Z rs'
section
variable{Rv:Nat->Prop}{ν ν':Nu}{Z Z':Nat->Prop}{st e?:St}{m m':Tb bG}{F F':WP}{H H':bt}
def Yt{E:Env}{f:Y'}{q:JW}(i:qa E f q)(r:R ν Z st F H){args:SW}{ys:So}(K:cr ν st.m H Z args ys){dst:aX Nat}{sv:SV}(h:Fu q dst args st=M (sv,e?)):
 ∃n y H' ν',(∀k,n<=k->run E k (.fn f) ys H=M (y,H'))/\R ν' Z e? F H'/\di ν' e?.m H' Z sv y/\Ev Rv ν Z st H ν' Z e? H'/\Kept dst ν st.m ν' e?.m:=by
 unfold Fu at h;split at h
 .rename_i d vs;obtain⟨w,p,rfl,a__,N⟩:=K.inv;split at h
  .rename_i k es xs zs u G;have s:=cr.dG N G;split at h
   .rename_i ns T;have⟨al,P⟩:=i.le _ _ _ _ T;obtain⟨_,_,_,ee,rfl⟩:=a__.iT u;cases ee;have grow:∀X:bt,R ν Z st F (H++X)/\Ev Rv ν Z st H ν Z st (H++X)/\∀id,Z id->bz (H++X) id=bz H id:=λX=>by
     have j:∀id,id<_m H->(H++X)[id]?=H[id]?:=λid h=>u? h
     have G:∀id,Z id->bz (H++X) id=bz H id:=λid h=>by unfold bz;rw[j id (r.xD h)]
     exact⟨r.heap (λid h=>j id (r.lt h)) G,Ev.heap f? (λid h _ _ _=>j id h) G,G⟩
    have o:=r.obj d _ u
    cases a:cg k with
    |false=>
     simp only[dy,a,v?,_a]at o;subst o;have hw:qE (ν d) k es 0=.bN\/qE (ν d) k es 0=.dS:=by cases k<;>simp[qE,cg]at a⊢
     have⟨n,X,L⟩:=i.none _ _ _ T H Z p _ s hw;have⟨b,I,c__⟩:=grow X;simp only[a,v?,_a]at h;split at h
     .rename_i d__;split at h
      .rename_i t;split at h
       .rename_i z;simp only[ζa,ζc]at h;obtain⟨rfl,rfl⟩:=h;have r1:R ν Z {st with m:=dJ d st.m} F (H++X):=b.less (g:=st.g) (λ_ _ h=>h) mS
        rw[L' d__]at L;refine⟨n,_,H++X,jd ν t (ν d),L,r1.add z (λl=>by simp[eU,a]at l) (by simp[dy,a]),?_,?_,Kept.add mS⟩
        .refine .own _ _ λah W=>?_
         simp only at W;rw[cD]at W;cases W;exact⟨_,_,_,_l,by rw[jH];rfl⟩
        exact I.trans (Ev.re (st:=st) mS (l9 z).1 (x? _) (λ_ _ _ _=>rfl) (λ_ _=>rfl) (λl=>by simp[eU,a]at l))
       cases h
      cases h
     rename_i d__;simp only[ζa,ζc]at h;obtain⟨rfl,rfl⟩:=h;rw[M' d__]at L;have hu:bJ st.m d (.sl k es [])=st.m:=sG u;rw[hu];exact⟨n,_,H++X,ν,L,b,.v _ _ (.same _ rfl),I,.refl⟩
    |true=>
     simp only[dy,a,N']at o;have⟨rs,v,hl,hf,ab,Q⟩:=o;have B:eU (.sl k es xs)=U:=a;have⟨n,C,X,L,e1,e2,e3⟩:=i.row _ _ _ _ T H Z p _ _ rs s v hl hf ab (r.apart d _ 0 u B);have⟨b,I,c__⟩:=grow X;have ai:(ν d).1<_m (H++X):=by have:=(ζe.1 v).1;simp;omega
     have G:∀id,Z id->Z id/\bz ((H++X).set (ν d).1 (.row es C)) id=bz H id:=λid D=>⟨D,by
      rw[<-c__ id D];unfold bz;rw[E?];rintro rfl;exact r.apart d _ 0 u B D⟩
     have x:∀id,Z id->bz ((H++X).set (ν d).1 (.row es C)) id=bz (H++X) id:=λid D=>by rw[(G id D).2,c__ id D]
     have c:∀id,id≠(ν d).1->((H++X).set (ν d).1 (Ob.row es C))[id]?=(H++X)[id]?:=λid aj=>E? (Ne.symm aj)
     have b__:((H++X).set (ν d).1 (Ob.row es C))[(ν d).1]?=M (.row es C):=Q? ai;rw[qN a];simp only[a,N']at h;split at h
     .rename_i d__;split at h
      .rename_i t;split at h
       .rename_i z;simp only[ζa,ζc]at h;obtain⟨rfl,rfl⟩:=h;have r1:R ν Z {st with m:=dJ d st.m} F (H++X):=b.less (g:=st.g) (λ_ _ h=>h) mS
        have A:¬gj ν (dJ d st.m) (ν d).1:=by rintro⟨k2,o2,j2,g1,g2,g3⟩;have⟨g4,g5⟩:=m_ g1;exact g4 (r.inj d k2 _ o2 0 j2 u g5 B g2 g3.symm).1
        have r2:R ν Z {st with m:=dJ d st.m} F ((H++X).set (ν d).1 (.row es C)):=r1.heap (λid ho=>c id (by rintro rfl;exact A ho)) x
        rw[L' d__]at L;refine⟨n,_,_,jd ν t (ν d),L,r2.add z (λ_=>⟨A,r.apart d _ 0 u B⟩) ?_,?_,?_,Kept.add mS⟩
        .simp only[dy,cg,N',jH];exact⟨C,b__,a?,e2.mono G,e3.mono G,λe=>by cases e⟩
        .refine .own _ _ λah W=>?_
         simp only at W;rw[cD]at W;cases W;exact⟨_,_,_,_l,by rw[jH];rfl⟩
        exact I.trans (Ev.re (st:=st) mS (l9 z).1 f? (λid _ ho _=>c id (by rintro rfl;exact ho ⟨d,_,0,u,B,_l⟩)) x (λ_=>.inl ⟨d,_,0,u,B,_l⟩))
       cases h
      cases h
     rename_i d__;simp only[ζa,ζc]at h;obtain⟨rfl,rfl⟩:=h;rw[M' d__]at L;have ak:q.part=O:=by simpa using d__
     have S:=P ak;have Y:sameShape (.sl k es xs) (.sl k es ns):=by simp[sameShape,bG.xT,S]
     refine⟨n,_,_,ν,L,b.gR u Y (pW _l) c B ?_,.v _ _ (.same _ _l),I.trans (Ev.gR b u Y (pW _l) c B f?),Kept.gR u Y (pW _l)⟩
     simp only[dy,a,N'];exact⟨C,b__,a?,e2.mono G,e3.mono G,λe=>⟨(Q e).1,by rw[e1,(Q e).2,S]⟩⟩
   cases h
  cases h
 cases h
end
def ye:Nat->SW->Tb SV
 |_,[]=>[]|i,v::vs=>(i,v)::ye (i+1) vs
def start(m?:SW)(B:dN):St:=⟨ye 0 m?,B,B.map (·.1),[],U,0⟩
def kz(S:Sys)(c:b_):Prop:=∀f u w rs z,c f u w=M (rs,z)->∀(ν:Nu)(Z:Nat->Prop)(args:So)(H:bt),(S.E.keep f=U\/H=[])->R ν Z (start u w) args H->cr ν w H Z u args->∃n y H' ν' Z' e? F' B,run S.E n (.fn f) args H=M (y,H')/\y=result B/\e?.m=z/\cr ν' z H' Z' rs B/\R ν' Z' e? F' H'/\Ev (λ_=>False) ν Z (start u w) H ν' Z' e? H'
section
variable{Rv:Nat->Prop}{ν ν':Nu}{Z Z':Nat->Prop}{st e?:St}{m m':Tb bG}{F F':WP}{H H' H1:bt}{N:Nat->Y'}
def VX{k:Fl}{es:Nat}{xs:S'}{d:Nat}(o:dy ν m H Z d (.sl k es xs)):(lQ k es xs).good=U:=by
 by_cases a:cg k=U;simp only[dy,a,N']at o;have⟨w,_,_,u,_⟩:=o;have e:lQ k es xs=.fsl es xs:=by cases k<;>simp[cg]at a<;>rfl
 rw[e];simp only[V.good];exact u.good;cases k<;>simp[cg]at a<;>rfl
mutual
def SF(D:∀d ob,bk m d=some ob->dy ν m H Z d ob):∀(n:Nat)(sv:SV)(x y:V),shut m n sv=some x->di ν m H Z sv y->x.good=true
 |n,.v x,z,y,h,r=>by simp only[shut,ζa]at h;subst h;exact r.fr.good|n,.own d,z,y,h,r=>by simp only[shut]at h;split at h;(next k es xs B=>simp only[ζa]at h;subst h;exact VX (D d _ B));(next k xs B=>simp only[ζa]at h;subst h;exact(Q1 (Z':=λ_=>True) (D d _ B) (λ_ _=>trivial) (λ_ _=>trivial)).1.good);simp at h|0,.ptr d o,z,y,h,r=>by simp[shut]at h|n+1,.ptr d o,z,y,h,r=>by simp only[shut]at h;split at h;rename_i cs B;split at h;rename_i xs T;split at h;simp only[ζa]at h;subst h;obtain⟨es,G,_,p,_⟩:=D d _ B;simp only[V.good];exact By _ (pK D n cs xs G T p);simp at h;simp at h;simp at h|n,.el d i o,z,y,h,r=>by cases n<;>simp[shut]at h|n,.yl id,z,y,h,r=>by cases n<;>simp[shut]at h|n,.mp d,z,y,h,r=>by simp only[shut]at h;split at h;rename_i L B;simp only[ζa]at h;subst h;obtain⟨w,_,e⟩:=D d _ B;simp only[V.good];refine JP.2 λj u g=>?_;have A:j<w.length:=(by rw[<-e.1];exact(ζe.1 g).1);obtain⟨⟨_,c⟩,C⟩:=e.2 j u _ g (ζd A);exact⟨lV c,C.good⟩;simp at h|0,.clo f a b,z,y,h,r=>by simp[shut]at h|n+1,.clo f a b,z,y,h,r=>by simp only[shut]at h;split at h;(next Q x2 c C=>simp only[ζa]at h;subst h;obtain⟨S,t,rfl,W,X⟩:=r.mC;simp only[V.good,ζh];exact⟨pK D n a Q S c W,pK D n b x2 t C X⟩);simp at h|0,.tup l,z,y,h,r=>by simp[shut]at h|n+1,.tup l,z,y,h,r=>by simp only[shut]at h;obtain⟨xs,c,rfl⟩:=ζf.1 h;obtain⟨I,rfl,q⟩:=r.tw;simp only[V.good];exact pK D n l xs I c q|0,.agg l,z,y,h,r=>by simp[shut]at h|n+1,.agg l,z,y,h,r=>by simp only[shut]at h;obtain⟨xs,c,rfl⟩:=ζf.1 h;obtain⟨I,rfl,q⟩:=r.kf;simp only[V.good];exact pK D n l xs I c q
def pK(D:∀d ob,bk m d=M ob->dy ν m H Z d ob):∀(n:Nat)(m?:SW)(xs ys:So),dH m n m?=M xs->cr ν m H Z m? ys->V.c_ xs=U
 |n,[],xs,ys,h,r=>by simp only[dH,ζa]at h;subst h;rfl|n,sv::m?,xs,ys,h,r=>by simp only[dH]at h;split at h;(next y s a G=>simp only[ζa]at h;subst h;obtain⟨g,B,rfl,r1,r2⟩:=r.inv;simp only[V.c_,ζh];exact⟨SF D n sv y g a r1,pK D n m? s B G r2⟩);simp at h
end
def KK{f:V->aX V}:∀{xs ys:aY (V×V)},W xs=W ys->(∀(j:Nat)u v,xs[j]?=M u->ys[j]?=M v->f v.1=M u.1/\f v.2=M u.2)->oe f ys=M xs
 |[],[],_,_=>rfl|[],y::ys,h,_=>by simp at h|x::xs,[],h,_=>by simp at h|(a,b)::xs,(c,d)::ys,h,B=>by have⟨e,D⟩:=B 0 _ _ Y Y;simp only at e D;simp only[oe,e,D,KK (xs:=xs) (ys:=ys) (by simpa using h) λj u v g i=>B (j+1) u v (by simpa using g) (by simpa using i)]
def MT:∀{l:aY (V×V)}{n:Nat},V.vu n l=U↔∀(j:Nat)u,l[j]?=M u->u.1.lvl n=U/\u.2.lvl n=U
 |[],n=>by simp[V.vu]|(k,x)::l,n=>by simp only[V.vu,ζh,MT (l:=l)];constructor;rintro⟨b,B⟩ j u a;(cases j with|zero=>simp at a;subst a;exact b|succ j=>exact B j u (by simpa using a));intro h;exact⟨h 0 (k,x) Y,λj u a=>h (j+1) u (by simpa using a)⟩
def xG{n:Nat}{xs ys:So}(D:jN (borrow n H1) ys=M xs)(B:V.jI ys=U):ys=xs:=by
 have w:=mT (f:=borrow n H1) (xs:=ys) (ys:=ys) Y λj u v a b=>by rw[a]at b;cases b;exact fI n H1 (rX.1 B j u a)
 rw[D]at w;cases w;rfl
mutual
def NR{fr:ST}(G:∀d∈fr,∀e ob,bk m e=some ob->ob.cZ d=false)(b__:∀d ob,bk m d=some ob->d∉fr->dy ν m H1 Z d ob):
 ∀(n:Nat)(sv:SV)(x y:V),shut m n sv=some x->(∀d∈fr,sv.cZ d=false)->di ν m H1 Z sv y->∀k,x.lvl k=true->borrow k H1 y=some x
 |n,.v x,z,y,h,D,r,k,hk=>by simp only[shut,ζa]at h;subst h;exact r.fr.borrow k hk|n,.own d,z,y,h,D,r,k,hk=>by simp only[shut]at h;split at h;rename_i T es xs B;simp only[ζa]at h;subst h;obtain⟨_,_,_,e,rfl⟩:=r.iT B;cases e;have hd:d∉fr:=λhd=>(by have:=D d hd;simp[SV.cZ]at this);have o:=b__ d _ B hd;by_cases I:cg T=true;simp only[dy,I,N']at o;obtain⟨ys,g,E,F,_⟩:=o;rw[qN I];have e:lQ T es xs=.fsl es xs:=(by cases T<;>simp[cg]at I<;>rfl);rw[e]at hk⊢;exact(FR.Gi (Z:=λ_=>True) trivial (show bz H1 (ν d).1=some (es,ys)by unfold bz;rw[g];rfl) E (F.mono λid h=>⟨trivial,rfl⟩)).borrow k hk;cases T<;>simp[cg]at I;exact fI k H1 rfl;exact fI k H1 rfl;rename_i T xs B;simp only[ζa]at h;subst h;obtain⟨_,_,_,e,rfl⟩:=r.iT B;cases e;have hd:d∉fr:=λhd=>(by have:=D d hd;simp[SV.cZ]at this);exact(Q1 (Z':=λ_=>True) (b__ d _ B hd) (λ_ _=>trivial) (λ_ _=>trivial)).1.borrow k hk;simp at h|0,.ptr d o,z,y,h,D,r,k,hk=>by simp[shut]at h|n+1,.ptr d o,z,y,h,D,r,k,hk=>by
  simp only[shut]at h;split at h;rename_i cs B;split at h;rename_i xs q;split at h;rename_i H;simp only[ζa]at h;subst h;obtain⟨_,e,rfl⟩:=r.rV B;cases e;have hd:d∉fr:=λhd=>by have:=D d hd;simp[SV.cZ]at this
  obtain⟨es,L,g,s,_⟩:=b__ d _ B hd
  cases k with
  |zero=>simp[V.lvl]at hk|succ k=>
   simp only[V.lvl]at hk;have K:∀e∈fr,SV.dX e (cs.drop o)=false:=λe a__=>by
    have:=G e a__ d _ B;simp only[bG.cZ]at this
    cases N:SV.dX e (cs.drop o)with
    |false=>rfl|true=>
     exfalso;have:∀{l:SW}{j:Nat},SV.dX e (l.drop j)=true->SV.dX e l=true:=by
      intro l
      induction l with
      |nil=>intro j h;simpa using h|cons a l d__=>intro j h;cases j with
       |zero=>simpa using h|succ j=>simp only[SV.dX,p!];exact .inr (d__ (by simpa using h))
     rw[this N]at *;simp_all
   have Q:xs.length=cs.length:=by have:∀{l:SW}{r:So},dH m n l=some r->r.length=l.length:=(by intro l;induction l with|nil=>intro r h;simp only[dH,ζa]at h;subst h;rfl|cons a l d__=>intro r h;simp only[dH]at h;split at h;(next c S=>simp only[ζa]at h;subst h;simp[d__ S]);simp at h);exact this q
   have P:dH m n (cs.drop o)=some (xs.drop o):=by have:∀{l:SW}{r:So}{j:Nat},dH m n l=some r->dH m n (l.drop j)=some (r.drop j):=(by intro l;induction l with|nil=>intro r j h;simp only[dH,ζa]at h;subst h;simp[dH]|cons a l d__=>intro r j h;have R:=h;simp only[dH]at h;split at h;rename_i c S;simp only[ζa]at h;subst h;(cases j with|zero=>exact R|succ j=>exact d__ S);simp at h);exact this q
   have hb:=mm G b__ n (cs.drop o) (xs.drop o) (L.drop o) P K (s.drop o) k hk;unfold borrow;simp only[V.closed,v?,_a,g,ζb,Ob.rows,List.getElem?_cons_zero,L' (show o<=L.length by rw[<-s.1,<-Q];exact H),hb,A?]
  simp at h;simp at h;simp at h
 |n,.el d i o,z,y,h,D,r,k,hk=>by cases n<;>simp[shut]at h|n,.yl id,z,y,h,D,r,k,hk=>by cases n<;>simp[shut]at h|n,.mp d,z,y,h,D,r,k,hk=>by simp only[shut]at h;split at h;rename_i ae B;simp only[ζa]at h;subst h;obtain⟨_,e,rfl⟩:=r.FV B;cases e;have hd:d∉fr:=λhd=>(by have:=D d hd;simp[SV.cZ]at this);obtain⟨c__,g,W⟩:=b__ d _ B hd;(cases k with|zero=>simp[V.lvl]at hk|succ k=>simp only[V.lvl]at hk;unfold borrow;simp only[V.closed,v?,_a,g];rw[KK (xs:=ae) (ys:=c__) W.1 λj u v t hv=>?_];rfl;obtain⟨⟨e1,e2⟩,e3⟩:=W.2 j u v t hv;exact⟨by rw[<-e1];exact fI k H1 (V.ov (lV e2)),e3.borrow k (MT.1 hk j u t).2⟩);simp at h
 |0,.clo f a b,z,y,h,D,r,k,hk=>by simp[shut]at h|n+1,.clo f a b,z,y,h,D,r,k,hk=>by simp only[shut]at h;split at h;rename_i x1 x2 c S;simp only[ζa]at h;subst h;obtain⟨a',A,rfl,ra,rb⟩:=r.mC;(cases k with|zero=>simp[V.lvl]at hk|succ k=>simp only[V.lvl,ζh]at hk;have C:=mm G b__ n a x1 a' c (λd hd=>by have:=D d hd;simp only[SV.cZ,h!]at this;exact this.1) ra k hk.1;have X:=mm G b__ n b x2 A S (λd hd=>by have:=D d hd;simp only[SV.cZ,h!]at this;exact this.2) rb k hk.2;by_cases w:(V.clo f a' A).closed=true;rw[fI _ _ w];simp only[V.closed,ζh]at w;rw[xG C w.1,xG X w.2];unfold borrow;rw[M' w];simp only[C,X]);simp at h|0,.tup l,z,y,h,D,r,k,hk=>by simp[shut]at h|n+1,.tup l,z,y,h,D,r,k,hk=>by simp only[shut]at h;obtain⟨xs,c,rfl⟩:=ζf.1 h;obtain⟨Y,rfl,p⟩:=r.tw;cases k with|zero=>simp[V.lvl]at hk|succ k=>simp only[V.lvl]at hk;have C:=mm G b__ n l xs Y c (λd hd=>by have:=D d hd;simpa[SV.cZ]using this) p k hk;by_cases w:(V.tup Y).closed=true;rw[fI _ _ w];simp only[V.closed]at w;rw[xG C w];unfold borrow;rw[M' w];simp only[C,A?]
 |0,.agg l,z,y,h,D,r,k,hk=>by simp[shut]at h|n+1,.agg l,z,y,h,D,r,k,hk=>by simp only[shut]at h;obtain⟨xs,c,rfl⟩:=ζf.1 h;obtain⟨Y,rfl,p⟩:=r.kf;cases k with|zero=>simp[V.lvl]at hk|succ k=>simp only[V.lvl]at hk;have C:=mm G b__ n l xs Y c (λd hd=>by have:=D d hd;simpa[SV.cZ]using this) p k hk;by_cases w:(V.agg Y).closed=true;rw[fI _ _ w];simp only[V.closed]at w;rw[xG C w];unfold borrow;rw[M' w];simp only[C,A?]
def mm{fr:ST}(B:∀d∈fr,∀e ob,bk m e=M ob->ob.cZ d=O)(g:∀d ob,bk m d=M ob->d∉fr->dy ν m H1 Z d ob):
 ∀(n:Nat)(m?:SW)(xs ys:So),dH m n m?=M xs->(∀d∈fr,SV.dX d m?=O)->cr ν m H1 Z m? ys->∀k,V.nQ k xs=U->jN (borrow k H1) ys=M xs
 |n,[],xs,ys,h,D,r,k,hk=>by simp only[dH,ζa]at h;subst h;rw[r.dx];rfl|n,sv::m?,xs,ys,h,D,r,k,hk=>by simp only[dH]at h;split at h;rename_i y s a T;simp only[ζa]at h;subst h;obtain⟨i,G,rfl,r1,r2⟩:=r.inv;simp only[V.nQ,ζh]at hk;have u:=NR B g n sv y i a (λd hd=>by have:=D d hd;simp only[SV.dX,h!]at this;exact this.1) r1 k hk.1;have w:=mm B g n m? s G T (λd hd=>by have:=D d hd;simp only[SV.dX,h!]at this;exact this.2) r2 k hk.2;simp only[jN,u,w];simp at h
end
end
def V5(n:Nat):V.nQ n []=U:=by cases n<;>rfl
def TA(n:Nat)(x:V)(r:So):V.nQ n (x::r)=(V.lvl n x&&V.nQ n r):=by cases n<;>rfl
mutual
def Hq:∀{n:Nat}{x:V},V.lvl n x=U->V.lvl (n+1) x=U
 |0,.fsl ..,h=>by simp[V.lvl]at h|0,.fptr ..,h=>by simp[V.lvl]at h|0,.fmap ..,h=>by simp[V.lvl]at h|0,.agg ..,h=>by simp[V.lvl]at h|0,.tup ..,h=>by simp[V.lvl]at h|0,.clo ..,h=>by simp[V.lvl]at h|n+1,.fsl es xs,h=>by simp only[V.lvl]at h⊢;exact Fq h|n+1,.fptr cs,h=>by simp only[V.lvl]at h⊢;exact u7 h|n+1,.fmap B,h=>by simp only[V.lvl]at h⊢;exact Ic h|n+1,.agg cs,h=>by simp only[V.lvl]at h⊢;exact u7 h|n+1,.tup cs,h=>by simp only[V.lvl]at h⊢;exact u7 h|n+1,.clo f a b,h=>by simp only[V.lvl,ζh]at h⊢;exact⟨u7 h.1,u7 h.2⟩|0,.bool _,_|0,.int ..,_|0,.str _,_|0,.jF,_|0,.iZ,_|0,.uV,_|0,.dS,_|0,.bN,_|0,.hsl ..,_|0,.hptr ..,_|0,.yld _,_|0,.hmap _,_=>rfl|_+1,.bool _,_|_+1,.int ..,_|_+1,.str _,_|_+1,.jF,_|_+1,.iZ,_|_+1,.uV,_|_+1,.dS,_|_+1,.bN,_|_+1,.hsl ..,_|_+1,.hptr ..,_|_+1,.yld _,_|_+1,.hmap _,_=>rfl
def u7:∀{n:Nat}{x:So},V.nQ n x=U->V.nQ (n+1) x=U
 |n,[],_=>V5 _|n,a::l,h=>by rw[TA,ζh]at h⊢;exact⟨Hq h.1,u7 h.2⟩
def Fq:∀{n:Nat}{x:S'},V.sC n x=U->V.sC (n+1) x=U
 |n,[],_=>by simp only[V.sC]|n,a::l,h=>by simp only[V.sC,ζh]at h⊢;exact⟨u7 h.1,Fq h.2⟩
def Ic:∀{n:Nat}{x:aY (V×V)},V.vu n x=U->V.vu (n+1) x=U
 |n,[],_=>by simp only[V.vu]|n,(k,v)::l,h=>by simp only[V.vu,ζh]at h⊢;exact⟨⟨Hq h.1.1,Hq h.1.2⟩,Ic h.2⟩
end
def Bd{n m:Nat}(h:n<=m){x:V}(B:V.lvl n x=U):V.lvl m x=U:=by induction h with|refl=>exact B|step _ u=>exact Hq u
def rQ{n m:Nat}(h:n<=m){x:So}(B:V.nQ n x=U):V.nQ m x=U:=by induction h with|refl=>exact B|step _ u=>exact u7 u
def Vv{n m:Nat}(h:n<=m){x:S'}(B:V.sC n x=U):V.sC m x=U:=by induction h with|refl=>exact B|step _ u=>exact Fq u
def Yd{n m:Nat}(h:n<=m){x:aY (V×V)}(B:V.vu n x=U):V.vu m x=U:=by induction h with|refl=>exact B|step _ u=>exact Ic u
mutual
def Dh:∀x:V,∃n,V.lvl n x=U
 |.fsl es xs=>let⟨n,h⟩:=Na xs;⟨n+1,by simp only[V.lvl];exact h⟩|.fptr cs=>let⟨n,h⟩:=oH cs;⟨n+1,by simp only[V.lvl];exact h⟩|.fmap u=>let⟨n,h⟩:=O1 u;⟨n+1,by simp only[V.lvl];exact h⟩|.agg cs=>let⟨n,h⟩:=oH cs;⟨n+1,by simp only[V.lvl];exact h⟩|.tup cs=>let⟨n,h⟩:=oH cs;⟨n+1,by simp only[V.lvl];exact h⟩|.clo f a b=>let⟨n,h⟩:=oH a;let⟨m,k⟩:=oH b;⟨max n m+1,by simp only[V.lvl,ζh];exact⟨rQ (k! _ _) h,rQ (i! _ _) k⟩⟩|.bool _|.int ..|.str _|.jF|.iZ|.uV|.dS|.bN|.hsl ..|.hptr ..|.yld _|.hmap _=>⟨0,Y⟩
def oH:∀x:So,∃n,V.nQ n x=U
 |[]=>⟨0,by simp only[V.nQ]⟩|a::l=>let⟨n,h⟩:=Dh a;let⟨m,k⟩:=oH l;⟨max n m,by simp only[V.nQ,ζh];exact⟨Bd (k! _ _) h,rQ (i! _ _) k⟩⟩
def Na:∀x:S',∃n,V.sC n x=U
 |[]=>⟨0,by simp only[V.sC]⟩|a::l=>let⟨n,h⟩:=oH a;let⟨m,k⟩:=Na l;⟨max n m,by simp only[V.sC,ζh];exact⟨rQ (k! _ _) h,Vv (i! _ _) k⟩⟩
def O1:∀x:aY (V×V),∃n,V.vu n x=U
 |[]=>⟨0,by simp only[V.vu]⟩|(a,b)::l=>let⟨n,h⟩:=Dh a;let⟨m,k⟩:=Dh b;let⟨q,p⟩:=O1 l;⟨max n (max m q),by simp only[V.vu,ζh];exact⟨⟨Bd a? h,Bd a? k⟩,Yd a? p⟩⟩
end
section
variable{Rv:Nat->Prop}{ν ν':Nu}{Z Z':Nat->Prop}{st e?:St}{m m':Tb bG}{F F':WP}{H H' H1:bt}{N:Nat->Y'}{S:Sys}{c:b_}
def LI:∀(l:SW)(i s:Nat)(sv:SV),bk (ye i l) s=M sv->∃j,s=i+j/\l[j]?=M sv
 |[],i,s,sv,h=>by simp[ye,bk]at h|x::l,i,s,sv,h=>by simp only[ye,bk]at h;split at h;(next e=>simp only[ζa]at h;subst h;exact⟨0,a?,Y⟩);have⟨j,a,B⟩:=LI l (i+1) s sv h;exact⟨j+1,a?,by simpa using B⟩
def AJ{m?:SW}{args:So}(h:cr ν m H Z m? args):∀s sv,bk (ye 0 m?) s=M sv->di ν m H Z sv (get args s):=λs sv u=>by obtain⟨j,rfl,w⟩:=LI m? 0 s sv u;have⟨y,z,r⟩:=h.get w;rw[Nat.zero_add,Mj args j y z];exact r
def Cr{az:So}(a:V.c_ az=U):R ⟨λ_=>(0,0),λ_ _=>0⟩ (λ_=>False) (start (az.map .v) []) az []/\cr ⟨λ_=>(0,0),λ_ _=>0⟩ [] [] (λ_=>False) (az.map .v) az:=by have h:cr ⟨λ_=>(0,0),λ_ _=>0⟩ [] [] (λ_=>False) (az.map .v) az:=cr.tg (dL.same a);refine⟨⟨AJ h,λd ob hd=>by simp[start,bk]at hd,λd w ob u j z hd=>by simp[start,bk]at hd,λd ob j hd=>by simp[start,bk]at hd,λid h=>h.elim,⟨λid es B h=>h.elim⟩⟩,h⟩
def Kl{xs ys:So}(h:dL H Z xs ys):((result xs).scalar=U->result ys=result xs)/\(result ys).scalar=(result xs).scalar:=by cases xs with|nil=>rw[h.dx];exact⟨λ_=>rfl,rfl⟩|cons x xs=>obtain⟨y,ys,rfl,a,u⟩:=h.inv;cases xs with|nil=>rw[u.dx];exact a.scalar|cons x2 xs=>obtain⟨w,ys,rfl,z,B⟩:=u.inv;exact FR.scalar (.tup _ _ h.1 h.2)
def EN(g:kz S c){f:Y'}{az ys:So}{rs:SW}{m':dN}(i:V.c_ az=U)(h:c f (az.map .v) []=M (rs,m'))(o:dH m' 8 rs=M ys):
 ∃n r H2,(∀k,n<=k->run S.E k (.fn f) az []=M (r,H2))/\(∀k,n<=k->borrow k H2 r=M (result ys))/\(result ys).good=U:=by
 have⟨P,r1⟩:=Cr i;obtain⟨n,y,H2,ν',Z',e?,F',B,m,rfl,X,t,Q,_⟩:=g f _ _ _ _ h _ _ az [] (.inr Y) P r1;subst X;have C:=pK Q.obj 8 rs ys B o t;have⟨L,T⟩:=oH ys;refine⟨max n (L+1),result B,H2,λk e=>(rL S.E (V? (k! ..) e)).go _ _ _ _ m,λk e=>?_,?_⟩
 .have w:=mm (fr:=[]) (λd hd=>by simp at hd) (λd ob hd _=>Q.obj d ob hd) 8 rs _ _ o (λd hd=>by simp at hd) t
  obtain⟨k,rfl⟩:∃j,k=j+1:=⟨k-1,a?⟩
  have q:=w k (rQ a? T)
  have A:=w (k+1) (rQ a? T)
  have⟨e1,e2⟩:=kI A
  cases B with
  |nil=>obtain rfl:=List.eq_nil_of_length_eq_zero e1;exact fI _ H2 Y|cons z B=>
   cases B with
   |nil=>
    obtain⟨y,rfl⟩:∃y,ys=[y]:=by cases ys with|nil=>simp at e1|cons y l=>cases l with|nil=>exact⟨y,rfl⟩|cons _ _=>simp at e1
    have⟨x,Z,G⟩:=e2 0 y Y;cases Z;exact G
   |cons z2 B=>
    obtain⟨y,D,l,rfl⟩:∃y D l,ys=y::D::l:=by cases ys with|nil=>simp at e1|cons y l=>cases l with|nil=>simp at e1|cons D l=>exact⟨y,D,l,Y⟩
    by_cases u:(V.tup (z::z2::B)).closed=U
    .simp only[result];rw[fI _ _ u];simp only[V.closed]at u;rw[xG q u]
    simp only[result];unfold borrow;rw[M' u];simp only[q,A?]
 have:∀{l:So},V.c_ l=U->(result l).good=U:=by
  intro l I
  cases l with
  |nil=>rfl|cons a l=>cases l with
   |nil=>simp only[V.c_,ζh]at I;exact I.1|cons b l=>simp only[result,V.good];exact I
 exact this C
theorem Ia {f:FuncId} {args az:aY V} {y r:V} {H2:bt} {n:Nat} (hr:∀k,n<=k->run S.E k (.fn f) az []=some (r,H2)) (D:∀k,n<=k->borrow k H2 r=some y) (hg:y.good=true) {B:Nat} (G:∀k,B<=k->borrows k H args=some az) :
 ∀k,max n B<=k->cw (run S.E k) f args H=some y:=λk hk=>by
 unfold cw;simp only[qM,G k a?,hr k a?,D k a?,V.ov hg,N']
def uh(B:∀id,Z id->(bz H id).isSome=U){T:ST}{id:Nat}(h:Z id):bz (dh H T) id=bz H id:=by
 have:=B id h;unfold bz at this⊢;rw[j8];cases u:H[id]?with|none=>rw[u]at this;simp at this|some ob=>
  rw[u]at this;simp only[A?,ζb];by_cases e:id∈T
  .rw[L' e];cases ob<;>first|rfl|simp[Ob.rows]at this
  rw[M' e]
def wW{T:ST}{id:Nat}(h:id∉T):(dh H T)[id]?=H[id]?:=by rw[j8];cases H[id]?<;>simp[h]
def Dp{az:So}{args:SW}{ys:So}(B:∀d ob,bk m d=M ob->dy ν m H Z d ob)(h:dH m 8 args=M az)(r:cr ν m H Z args ys):V.c_ az=U:=pK B 8 args az ys h r
def AD{az:So}{args:SW}{ys:So}(r:R ν Z st F H)(B:cr ν st.m H Z args ys)(h:dH st.m 8 args=M az):∃n,∀k,n<=k->borrows k H ys=M az:=
 let⟨n,u⟩:=oH az
 ⟨n,λk a=>mm (fr:=[]) (λd hd=>o?) (λd ob hd _=>r.obj d ob hd) 8 args az ys h (λd hd=>o?) B k (rQ a u)⟩
def qe{b id:Nat}(h:id<b):bz (H.take b) id=bz H id:=by grind[bz]
def Qn{b:Nat}{fr:ST}{az:So}{args:SW}{ys:So}(r:R ν Z st F H)(B:cr ν st.m H Z args ys)(h:dH st.m 8 args=M az)
 (D:∀d ob j,bk st.m d=M ob->ob.pt j=U->d∉fr->ν.at d j<b)(G:∀id,Z id->id<b)(a:gm st.m fr args=U):∃n,∀k,n<=k->borrows k (H.take b) ys=M az:=by
 have⟨n,w⟩:=oH az;refine⟨n,λk f=>?_⟩
 unfold gm at a;have c:∀d∈fr,SV.dX d args=O/\vN d st.m=O:=λd hd=>by grind
 have u:∀id,Z id->Z id/\bz (H.take b) id=bz H id:=λid h=>⟨h,qe (G id h)⟩
 refine mm (λd hd e ob z=>uN (c d hd).2 z) (λd ob hd C=>?_) 8 args az ys h (λd hd=>(c d hd).1) (B.mono u λe _=>kJ ν st.m e) k (rQ f w)
 exact dy.mono u Y (λj I=>List.getElem?_take_of_lt (D d ob j hd I C)) (λe _=>kJ ν st.m e) (r.obj d ob hd)
def Og(hS:kz S c){ops:QP}{place:aX (Nat×Nat)}{dr N:X'}{fr:ST}(ad:dr=place.isSome)(aa:∀b i,place=M (b,i)->N=U->ez ops i=U)
 (e:∀b i,place=M (b,i)->(∀d ob j,bk st.m d=M ob->ob.pt j=U->d∉fr->ν.at d j<b)/\∀id,Z id->id<b)
 (r:R ν Z st F H){args:SW}{ys:So}(g:cr ν st.m H Z args ys){f:Y'}(s:ng S.E ops place f=O){az:So}(t:dH st.m 8 args=M az)(a:(!dr||N)=U\/gm st.m fr args=U)
 {rs:SW}{m':dN}{G:So}(v:c f (az.map .v) []=M (rs,m'))(Y:dH m' 8 rs=M G)(c__:(result G).scalar=U\/(dG args).isSome=U):
 ∃n H',(∀k,n<=k->eR S.E (run S.E k) ops place f ys H=M (result G,H'))/\R ν Z st F H'/\di ν st.m H' Z (.v (result G)) (result G)/\Ev Rv ν Z st H ν Z st H':=by
 have hg:=Dp r.obj t g;have⟨A,rr,H2,l,P,E⟩:=EN hS hg v Y;have⟨n2,hb⟩:=AD r g t;have I:=Ia l P E hb;generalize hn:max A n2=n at I;have ab:=I;have af:∀k,n<=k->dz (cF k H) ys=dz (cF n H) ys:=λk s=>BB s (hb n a?)
 have C:∀{H'},di ν st.m H' Z (.v (result G)) (result G):=.v _ _ (.same _ E);have B:∀T:ST,(∀id∈T,Z id)->R ν Z st F (dh H T)/\Ev Rv ν Z st H ν Z st (dh H T):=λT d__=>
  ⟨r.heap (λid ho=>wW λw=>by obtain⟨d,ob,j,g1,g2,rfl⟩:=ho;exact r.apart d ob j g1 g2 (d__ _ w)) (λid w=>uh r.zrow w),
   Ev.heap (by rw[nU];grind) (λid _ _ Y _=>wW λw=>Y (d__ id w)) (λid w=>uh r.zrow w)⟩
 have b__:(dG args).isSome=U->(∀id∈dz (cF n H) ys,Z id)/\True:=λQ=>by
  have⟨xs,Q⟩:=isSome_iff_exists.1 Q;have m:=g.dG Q;exact⟨λid w=>by
   have⟨j,u,o,W⟩:=sS w;have K:j<_m xs:=by rw[m.1];grind
   exact FR.cF r.deep n (m.2 j _ u (ζd K) o) id W,trivial⟩
 cases place with
 |none=>
  by_cases z:(result G).scalar=U
  .exact⟨n,H,λk D=>by grind[eR],r,C,.refl⟩
  obtain⟨d__,-⟩:=b__ (c__.resolve_left z);have⟨p,q⟩:=B _ d__;exact⟨n,dh H (dz (cF n H) ys),λk D=>by grind[eR,qM],p,C,q⟩
 |some bi=>
  have⟨b,i⟩:=bi;have⟨o1,o2⟩:=e b i _l;have ah:=ad;have fits:∀k,cw (run S.E k) f ys (H.take b)=M (result G)->(result G).scalar=O->kC (H.take b) (dz (cF k (H.take b)) ys)=U/\dz (cF k H) ys=dz (cF k (H.take b)) ys:=λk _ ai=>by have⟨xs,Q⟩:=isSome_iff_exists.1 (c__.resolve_left g?);have m:=g.dG Q;have L:∀id,Z id->Z id/\bz (H.take b) id=bz H id:=λid h=>⟨h,qe (o2 id h)⟩;have hd:Deep (H.take b) Z:=⟨λid es ys Y hr c v u o=>by rw[(L id Y).2]at hr;have⟨x,Q⟩:=r.deep.row id es ys Y hr c v u o;exact⟨x,Q.mono L⟩⟩;have a__:∀id∈dz (cF k (H.take b)) ys,Z id:=λid w=>(by have⟨j,u,o,W⟩:=sS w;have K:j<_m xs:=(by rw[m.1];grind);exact FR.cF hd k ((m.2 j _ u (ζd K) o).mono L) id W);refine⟨?_,xx _ λid w=>o2 id (a__ id w)⟩;unfold kC;rw[G?];intro id w;have l:=r.zrow id (a__ id w);rw[<-(L id (a__ id w)).2]at l;exact l
  rcases a with a|a
  .have aj:=aa b i _l g?
   by_cases z:(result G).scalar=U
   .refine⟨n,H,λk D=>?_,r,C,.refl⟩
    grind[eR,sQ]
   obtain⟨d__,-⟩:=b__ (c__.resolve_left z);have⟨p,q⟩:=B _ d__;refine⟨n,dh H (dz (cF n H) ys),λk D=>?_,p,C,q⟩
   simp only[eR,s,qM,v?,_a];split
   next y hy=>have h9:=sQ hy;rw[ab k D]at h9;grind
   grind
  have⟨n3,ae⟩:=Qn r g t o1 o2 a;have X:=Ia l P E ae
  by_cases z:(result G).scalar=U
  .refine⟨max A n3,H,λk D=>?_,r,C,.refl⟩
   grind[eR]
  obtain⟨d__,-⟩:=b__ (c__.resolve_left z);have⟨p,q⟩:=B _ d__;refine⟨max n (max A n3),dh H (dz (cF n H) ys),λk D=>?_,p,C,q⟩
  simp only[eR,s,qM,v?,_a];have h9:=X k a?
  grind
theorem IZ{α:Type}{k:Nat}{v:α}:∀{ds:ST}{g:Tb α},bk (sj ds g) k=M v->k∉ds
 |[],_,_=>f?|d::ds,g,h=>by have a:=IZ (ds:=ds) h;have u:=(m_ (qZ h)).1;grind
theorem yK:∀{args:aY SV} {ds:aY Nat},rowsOf m args=some ds->(∀d∈ds,∃k es xs,bk m d=some (.sl k es xs))/\∀(j:Nat) u,args[j]? = some u->(∃x,u=.v x)\/∃d,u=.own d/\d∈ds
 | [],_,h=>by cases h;simp
 | .v x::r,ds,h=>by
  obtain⟨h1,B⟩:=yK (args:=r) (by simpa [rowsOf]using h)
  refine⟨h1,λj u hu=>?_⟩
  cases j with
  | zero=>grind
  | succ j=>exact B j u g?
 | .own d::r,ds,h=>by
  simp only[rowsOf]at h;split at h
  .rename_i k es xs hd;obtain⟨z,h1,rfl⟩:=ζf.1 h;obtain⟨g1,g2⟩:=yK h1;refine⟨λw hd'=>?_,λj u hu=>?_⟩
   .rcases List.mem_cons.1 hd' with rfl|hd'
    .exact⟨_,_,_,hd⟩
    exact g1 w hd'
   cases j with
   | zero=>grind
   | succ j=>
    rcases g2 j u g? with k|⟨w,k1,k2⟩
    all_goals grind
  cases h
 | .ptr ..::_,_,h|.el ..::_,_,h|.mp _::_,_,h|.clo ..::_,_,h|.tup _::_,_,h|.agg _::_,_,h|.yl _::_,_,h=>by simp[rowsOf]at h
def Eg{H0:bt}(hd:Deep H0 Z)(A:∀d ob,bk m d=M ob->eU ob=U->(H0[(ν d).1]?).isSome=U->ob.flat->dy ν m H0 Z d ob){args:SW}{ys:So}(T:cr ν m H0 Z args ys){ds:ST}(f:rowsOf m args=M ds)
 {q id:Nat}(h:id∈dz (cF q H0) ys):Z id\/∃d ob,d∈ds/\bk m d=M ob/\eU ob=U/\(ν d).1=id/\∃j es off len:Nat,ys[j]?=M (V.hsl id es off len):=by
 have⟨j,y,P,a⟩:=sS h;have Q:j<_m args:=by rw[T.1];grind
 have b:=ζd Q;have C:=T.2 j _ y b P;rcases(yK f).2 j _ b with⟨x,e⟩|⟨d,e,G⟩
 .rw[e]at C;cases C with|v _ _ hf=>grind[FR.cF]
 rw[e]at C;have⟨k,es,D,B⟩:=(yK f).1 d G;obtain⟨_,_,_,S,rfl⟩:=C.iT B;cases S
 by_cases w:cg k=U
 .cases q with
  |zero=>grind[cF]|succ q=>
  have I:qE (ν d) k es (_m D)=.hsl (ν d).1 es (ν d).2 (_m D):=by cases k<;>first|rfl|cases w
  rw[I]at a;have W:eU (.sl k es D)=U:=w
  by_cases z:(H0[(ν d).1]?).isSome=U
  .have o:=A d _ B W z (lH f?)
   simp[dy,w]at o;have⟨n,g,_,_,X,_⟩:=o;simp only[cF,V.closed,v?,_a,g,n']at a;rcases a with rfl|a
   .grind
   have⟨i,u,b,Y⟩:=sS a;have⟨c,l,t⟩:=List.mem_flatten.1 (s? b);have⟨x,p⟩:=X c (List.mem_of_mem_drop (List.mem_of_mem_take l)) u t
   grind[FR.cF]
  grind[cF]
 have L:(qE (ν d) k es (_m D)).closed=U:=by cases k<;>first|rfl|(exact _e _l w)
 rw[Cl q H0 L]at a;cases a
theorem XR (hS:kz S c) {ops:aY Oper} {place:aX (Nat×Nat)} {nw:Bool} (ai:∀b i,place=some (b,i)->nw=true->ez ops i=true)
 (hold:∀b i,place=some (b,i)->∀id,Z id->id<b)
 (r:R ν Z st F H) {args:aY SV} {ys:aY V} (o:cr ν st.m H Z args ys) {f:FuncId} (hk:S.E.keep f=false) {az:aY V} (hs:dH st.m 8 args=some az) (aj:(!place.isSome||nw)=true)
 {rs:aY SV} {m':dN} {D:aY V} (hc:c f (az.map .v) []=some (rs,m')) (g:dH m' 8 rs=some D) (ak:(result D).scalar=false) {ds:aY Nat} (hr:rowsOf st.m args=some ds) :
 ∃n H',(∀k,n<=k->eR S.E (run S.E k) ops place f ys H=some (result D,H'))/\R ν Z { st with m:=sj ds st.m } F H'/\di ν (sj ds st.m) H' Z (.v (result D)) (result D)/\Ev Rv ν Z st H ν Z { st with m:=sj ds st.m } H':=by
 have hg:=Dp r.obj hs o;obtain⟨n1,rr,H2,h1,h2,h3⟩:=EN hS hg hc g;obtain⟨n2,W⟩:=AD r o hs;have B:=Ia h1 h2 h3 W;generalize hn:max n1 n2=n at B;have I:=B;have al:∀k,n<=k->dz (cF k H) ys=dz (cF n H) ys:=λk hk=>BB hk (W n a?)
 have L:∀{H'},di ν (sj ds st.m) H' Z (.v (result D)) (result D):=.v _ _ (.same _ h3);have z:∀d ob,bk (sj ds st.m) d=some ob->bk st.m d=some ob:=λd ob h=>qZ h
 have hT:∀id∈dz (cF n H) ys,Z id\/∃d ob,d∈ds/\bk st.m d=some ob/\eU ob=true/\(ν d).1=id/\∃j es off len:Nat,ys[j]? = some (V.hsl id es off len):=λid w=>Eg r.deep (λd ob h _ _ _=>r.obj d ob h) o hr w
 have r2  := r.less (λ_ _ h=>h) z
 have q1  := r2.heap (λid X=>wW λw=>by
  obtain⟨d,ob,j,g1,g2,rfl⟩:=X;rcases hT _ w with h|⟨Y,G,k1,k2,k3,k4,_⟩
  .exact r.apart d ob j (z d ob g1) g2 h
  have:=(r.inj Y d G ob 0 j k2 (z d ob g1) k3 g2 k4).1
  grind[IZ]) (λid w=>uh r.zrow w)
 have q2:Ev Rv ν Z st H ν Z { st with m:=sj ds st.m } (dh H (dz (cF n H) ys)):=(Ev.heap (by rw[nU];grind) (λid _ X g _=>wW λw=>by
  rcases hT _ w with h|⟨Y,G,k1,k2,k3,k4,_⟩
  .simp_all
  exact X ⟨Y,G,0,k2,k3,k4⟩) (λid w=>uh r.zrow w)).trans (Ev.less  z)
 cases place with
 | none=>exact⟨n,dh H (dz (cF n H) ys),λk q=>by grind[eR,ng,qM],q1,L,q2⟩
 | some bi=>
  obtain⟨b,i⟩:=bi;have o2:=hold b i rfl;have fits:∀k,cw (run S.E k) f ys (H.take b)=some (result D)->kC (H.take b) (dz (cF k (H.take b)) ys)=true/\dz (cF k H) ys=dz (cF k (H.take b)) ys:=λk hi=>by
   have C:∀id,Z id->Z id/\bz (H.take b) id=bz H id:=λid h=>⟨h,qe (o2 id h)⟩
   have hd:Deep (H.take b) Z:=⟨λid es ys g hr c hc u hu=>by
    rw[(C id g).2]at hr;obtain⟨x,hx⟩:=r.deep.row id es ys g hr c hc u hu;exact⟨x,hx.mono C⟩⟩
   have aa  := o.mono C λe _=>kJ ν st.m e
   have ab:∀d ob,bk st.m d=some ob->eU ob=true->((H.take b)[(ν d).1]?).isSome=true->ob.flat->dy ν st.m (H.take b) Z d ob:=λd ob h W ad ae=>
    dy.mono C rfl (λj hj=>by
     have:=ae j hj;subst this;simp only[Nu.at]
     grind) (λe _=>kJ ν st.m e) (r.obj d ob h)
   have Q:∀(j:Nat) (y:V),ys[j]? = some y->(borrow k (H.take b) y).isSome=true:=λj y T=>by
    unfold cw at hi;rw[qM]at hi;split at hi
    .rename_i af ah;obtain⟨_,hm⟩:=kI ah;have hj:=(ζe.1 T).1;obtain⟨x,am,an⟩:=hm j _ (ζd (show j<af.length by omega))
     grind
    cases hi
   have hZ:∀id∈dz (cF k (H.take b)) ys,id<b/\(bz (H.take b) id).isSome=true:=λid w=>by
    rcases Eg hd ab aa hr w with h|⟨d,ob,k1,k2,k3,k4,j,es,off,len,T⟩
    .have:=r.zrow id h
     grind
    have ao:=Q j _ T
    cases k with
    | zero=>grind[borrow,V.closed]
    | succ k=>
    grind[borrow,V.closed,bz]
   refine⟨?_,xx _ λid w=>(hZ id w).1⟩
   unfold kC;rw[List.all_eq_true];exact λid w=>(hZ id w).2
  refine⟨n,dh H (dz (cF n H) ys),λk q=>?_,q1,L,q2⟩
  simp only[eR,ng,hk,qM,Bool.false_and,Bool.false_eq_true,_a];split
  next y T=>have h9:=sQ T;rw[I k q]at h9;grind
  grind
def N1{xs ys:S'}(h:gZ H Z xs ys)(B:mj xs=U):ys=xs:=by
 refine(List.ext_getElem h.1 λj a z=>?_).symm;have:=h.2 j _ _ (ζd a) (ζd z);have w:=by unfold mj at B;rw[G?]at B;have:=B _ (List.getElem_mem a);rw[G?]at this;exact tZ.2 λk u b=>this u (s? b)
 exact(this.scalar.1 w).symm
def Gq:∀{B:ST}{os:Tb bG}{g:Tb bG},mb g B=M os->∀k ob,bk os k=M ob->bk g k=M ob
 |[],os,g,h,k,ob,hk=>by grind[mb,bk]|n::r,os,g,h,k,ob,hk=>by simp only[mb]at h;split at h;rename_i v t a D;cases h;simp only[bk]at hk;split at hk;grind;exact Gq D k ob hk;cases h
def NC{args:SW}{os:dN}(h:handed m args=M os):∀k ob,bk os k=M ob->bk m k=M ob:=Gq h
mutual
def Wn{d:Nat}:∀{x:SV},x.cZ d=U->d∈x.Dn
 |.v _,h=>by simp[SV.cZ]at h|.own e,h|.ptr e _,h|.el e _ _,h|.mp e,h=>by simp[SV.cZ]at h;simp[SV.Dn,h]|.clo _ a b,h=>by simp only[SV.cZ,p!]at h;simp only[SV.Dn,List.mem_append];rcases h with h|h;exact .inl (xZ h);exact .inr (xZ h)
 |.tup l,h|.agg l,h=>by simp only[SV.cZ]at h;simp only[SV.Dn];exact xZ h|.yl _,h=>by simp[SV.cZ]at h
def xZ{d:Nat}:∀{l:SW},SV.dX d l=U->d∈SV.uw l
 |[],h=>by simp[SV.dX]at h|x::r,h=>by simp only[SV.dX,p!]at h;simp only[SV.uw,List.mem_append];rcases h with h|h;exact .inl (Wn h);exact .inr (xZ h)
end
def NM{D:ST}{ob:bG}(h:within D ob=U){e:Nat}(B:ob.cZ e=U):e∈D:=by cases ob with|box cs=>unfold within at h;rw[G?]at h;simpa using h e (xZ B)|sl k es u=>grind[bG.cZ]|mp z=>grind[bG.cZ]|dp k u w=>rcases w with _|⟨i,t⟩;cases B;simp only[bG.cZ,_j]at B;subst B;simpa[within,bG.Dn]using h
def GY{B:ST}:∀{l:ST}{a b:Tb bG},Ae B m' l a=M b->(∀k∈l,bk b k=bk m' k/\∃ob,bk m' k=M ob/\within B ob=U)/\∀k,k∉l->bk b k=bk a k
 |[],a,b,h=>by grind[Ae]|d::r,a,b,h=>by simp[Ae]at h;split at h;rename_i ob D;split at h;rename_i hp;have⟨e,G⟩:=GY h;refine⟨λk c=>?_,λk c=>?_⟩;grind[cD];simp_all[cW,Ne.symm];grind;grind
def Ke{l:ST}{a b:Tb bG}(h:lB m' l a=M b):(∀k∈l,bk b k=bk m' k/\∃ob,bk m' k=M ob/\within l ob=U)/\∀k,k∉l->bk b k=bk a k:=GY h
theorem mem_keys:∀{os:dN}{k:Nat},k∈os.map (·.1)↔∃ob,bk os k=M ob
 |[],k=>by simp[bk]|(d,o)::os,k=>by simp[bk];by_cases e:d=k;simp_all;rw[M' e,<-mem_keys];grind
def v8:∀{l:SW}{j:Nat}{u:SV},SV.Aa l=U->l[j]?=M u->u.bare=U
 |[],j,u,h,B=>by simp at B|x::r,j,u,h,B=>by simp only[SV.Aa,ζh]at h;cases j with|zero=>grind|succ j=>exact v8 h.2 (by simpa using B)
theorem di.bare {Z2:Nat->Prop} {sv:SV} {y:V} (r:di ν m H Z sv y):sv.bare=true->di ν m H Z2 sv y:=by
 induction r with
 | v x y h=>
  intro z;have z:x.scalar=true:=z;rw[(h.scalar.1 z)];exact .v _ _ (.same _ (lV z))
 | own d y h=>intro _;exact .own d y h
 | ptr d o y h=>intro _;exact .ptr d o y h
 | el d i o y h=>intro _;exact .el d i o y h
 | mp d y h=>intro _;exact .mp d y h
 | clo f a b B G C z hva I w D=>
  intro h;simp only[SV.bare,ζh]at h;exact .clo f a b B G C z (λj u v hu hv=>w j u v hu hv (v8 h.1 hu)) λj u v hu hv=>D j u v hu hv (v8 h.2 hu)
 | tup a B C hva w=>intro h;exact .tup a B C λj u v hu hv=>w j u v hu hv (v8 h hu)
 | agg a B C hva w=>intro h;exact .agg a B C λj u v hu hv=>w j u v hu hv (v8 h hu)
 | yl id=>intro _;exact .yl id
def dy.bare{Z2:Nat->Prop}{d:Nat}{ob:bG}(B:∀e,ν' e=ν e)(h:ob.bare=U)(o:dy ν m H Z d ob):dy ν' m H Z2 d ob:=by cases ob with|box cs=>have⟨es,w,b,C,D⟩:=o;exact⟨es,w,by rw[B];exact b,⟨C.1,λj u v a c=>((C.2 j u v a c).bare (Z2:=Z2) (v8 h a)).mono (λid h=>⟨h,rfl⟩) λe _ z h=>⟨z,h,B e,.refl _⟩⟩,D⟩|sl k es I=>cases h|mp G=>cases h|dp _ _ _=>cases h
def zV(hS:kz S c){f:Y'}(ar:S.E.keep f=U)(r:R ν Z st F H){args:SW}{ys:So}(ha:cr ν st.m H Z args ys){os:dN}(hh:handed st.m args=M os)
 {rs:SW}{m':dN}{T:Tb bG}(hc:c f args os=M (rs,m'))(p:lB m' (os.map (·.1)) st.m=M T):
 ∃n H' c__ Z' b__ F1 E ν2,(∀k,n<=k->run S.E k (.fn f) ys H=M (result E,H'))/\b__.m=m'/\cr c__ m' H' Z' rs E/\R c__ Z' b__ F1 H'/\(∀e ob,bk m' e=M ob->e∉os.map (·.1)->eU ob=U->¬gj ν2 T (c__ e).1/\(gj ν st.m (c__ e).1\/_m H<=(c__ e).1))/\(∀e,ν2 e=ν e)/\
  R ν2 Z' {st with m:=T} F H'/\Ev Rv ν Z st H ν2 Z' {st with m:=T} H'/\(∀e l?,bk T e=M l?->∃ob,bk st.m e=M ob/\ν e=ν e/\sameShape ob l?)/\
  ((∀k∈os.map (·.1),zF T k=U)->R ν Z {st with m:=T} F H'/\Ev Rv ν Z st H ν Z {st with m:=T} H'/\∀dst,Kept dst ν st.m ν T):=by
 have z:=NC hh;have al:=ha.mono (λid h=>⟨h,_l⟩) λe _ l? h=>⟨l?,z e l? h,_l,.refl _⟩
 have r0:R ν Z (start args os) ys H:=by refine⟨AJ al,λd ob hd=>?_,λd d' ob l? j j' a B=>r.inj d d' ob l? j j' (z d ob a) (z d' l? B),λd ob j h=>r.apart d ob j (z d ob h),r.zrow,r.deep⟩;exact dy.mono (λid h=>⟨h,_l⟩) _l (λ_ _=>rfl) (λe _ l? h=>⟨l?,z e l? h,_l,.refl _⟩) (r.obj d ob (z d ob hd))
 obtain⟨n,y,H',c__,Z',b__,F1,E,e1,rfl,rfl,e2,e3,ev⟩:=hS f args os rs m' hc ν Z ys H (.inl ar) r0 al;have⟨b1,b2⟩:=Ke p;have am:∀k l?,k∈os.map (·.1)->bk b__.m k=M l?->∃ob,bk os k=M ob/\c__ k=ν k/\sameShape ob l?:=λk l? l h=>ev.pin k l l? h
 have I:∀id,gj ν os id->gj ν st.m id:=λid⟨k,o,j,a,B,C⟩=>⟨k,o,j,z k o a,B,C⟩
 have L:∀k l?,bk T k=M l?->∃ob,bk st.m k=M ob/\sameShape ob l?/\(k∈os.map (·.1)/\bk b__.m k=M l?/\c__ k=ν k/\within (os.map (·.1)) l?=U\/k∉os.map (·.1)/\l?=ob):=λk l? h=>by by_cases l:k∈os.map (·.1);grind;rw[b2 k l]at h;exact⟨l?,h,.refl _,.inr ⟨l,_l⟩⟩
 have u:∀k ob j,k∉os.map (·.1)->bk st.m k=M ob->ob.pt j=U->H'[ν.at k j]?=H[ν.at k j]?/\¬Z' (ν.at k j)/\¬gj c__ b__.m (ν.at k j):=λk ob j l h D=>by
  have N:¬gj ν os (ν.at k j):=by rintro⟨k2,o2,Q,g1,g2,g3⟩;have:=(r.inj k2 k o2 ob Q j (z k2 o2 g1) h g2 D g3).1;grind[mem_keys]
  have au:=r.lt ⟨k,ob,j,h,D,_l⟩;have av:=r.apart k ob j h D;refine⟨ev.same _ au N av (λh=>h),λaw=>?_,λP=>?_⟩
  .rcases ev.frz _ aw with h|h|h|h;simp_all;exact N h;all_goals grind
  rcases ev.own _ P with h|h|h;exact N h;exact h;have h:_m H<=ν.at k j:=h;omega
 have q:∀e l?,bk T e=M l?->∃ob,bk st.m e=M ob/\ν e=ν e/\sameShape ob l?:=λe l? h=>by grind
 let ν2:Nu:=⟨ν.pl,λk=>if k∈os.map (·.1)then c__.inn k else ν.inn k⟩
 have an:∀k,k∈os.map (·.1)->ν2.inn k=c__.inn k:=λk h=>L' h
 have ad:∀k,k∉os.map (·.1)->ν2.inn k=ν.inn k:=λk h=>M' h
 have W:∀k,k∈os.map (·.1)->c__ k=ν k->∀j,ν2.at k j=c__.at k j:=λk l h j=>by cases j with|zero=>exact _f fst h.symm|succ i=>exact congrFun (an k l) i
 have d__:∀k,k∉os.map (·.1)->∀j,ν2.at k j=ν.at k j:=λk l j=>by cases j with|zero=>rfl|succ i=>exact congrFun (ad k l) i
 have ae:∀b g o1 o2 G Q,bk T b=M o1->bk T g=M o2->o1.pt G=U->o2.pt Q=U->ν2.at b G=ν2.at g Q->b=g/\G=Q:=λb g o1 o2 G Q a B k1 k2 hp=>by have⟨p1,g1,s1,c1⟩:=L b o1 a;have⟨p2,g2,s2,c2⟩:=L g o2 B;rcases c1 with⟨w,X,Y,-⟩|⟨w,rfl⟩<;>rcases c2 with⟨t,v,u3,-⟩|⟨t,rfl⟩;rw[W b w Y,W g t u3]at hp;exact e3.inj b g o1 o2 G Q X v k1 k2 hp;rw[W b w Y,d__ g t]at hp;exact _e ⟨b,o1,G,X,k1,hp⟩ (u g o2 Q t g2 k2).2.2;rw[d__ b w,W g t u3]at hp;exact _e ⟨g,o2,Q,v,k2,hp.symm⟩ (u b o1 G w g1 k1).2.2;rw[d__ b w,d__ g t]at hp;exact r.inj b g o1 o2 G Q g1 g2 k1 k2 hp
 have ao:∀b o1 G,bk T b=M o1->o1.pt G=U->¬Z' (ν2.at b G):=λb o1 G a k1=>by obtain⟨p1,g1,s1,⟨w,X,Y,-⟩|⟨w,rfl⟩⟩:=L b o1 a;rw[W b w Y];exact e3.apart b o1 G X k1;rw[d__ b w];exact(u b o1 G w g1 k1).2.1
 have aa:∀id,id<_m H->¬gj ν st.m id->¬Z id->¬Rv id->H'[id]?=H[id]?:=λid hl P hz _=>ev.same id hl (λh=>P (I id h)) hz (λh=>h)
 have af:∀id,gj ν2 T id->gj ν st.m id\/Rv id\/_m H<=id:=by rintro id ⟨k,o,j,a,B,C⟩;obtain⟨ob,g1,s1,⟨w,X,Y,-⟩|⟨w,rfl⟩⟩:=L k o a;rw[W k w Y]at C;rcases ev.own id ⟨k,o,j,X,B,C⟩with h|h|h;exact .inl (I id h);exact h.elim;exact .inr (.inr h);rw[d__ k w]at C;exact .inl ⟨k,o,j,g1,B,C⟩
 have aj:∀id,Z id->Z id/\bz H' id=bz H id:=λid h=>⟨h,(ev.rows id h).2⟩
 have ah:∀k l?,k∈os.map (·.1)->bk b__.m k=M l?->c__ k=ν k->within (os.map (·.1)) l?=U->dy ν2 T H' Z' k l?:=λk l? w X Y x=>by refine dy.mono (λid h=>⟨h,_l⟩) Y.symm (λ_ _=>rfl) (λe K ak B=>?_) (e3.obj k l? X) (an k w);have hm:=NM x K;have⟨t,aA,v,_⟩:=b1 e hm;rw[t,v]at B;cases B;have⟨_,_,u4,_⟩:=am e ak hm v;exact⟨ak,v,u4.symm,.refl _⟩
 refine⟨n,H',c__,Z',b__,F1,E,ν2,λk l=>(rL S.E l).go _ _ _ _ e1,_l,e2,e3,λe ob K ax D=>?_,λ_=>rfl,⟨λs sv hs=>(r.slot s sv hs).mono ev.rows λe _=>q e,λk l? h=>?_,ae,ao,e3.zrow,e3.deep⟩,⟨ev.len,aa,ev.rows,af,?_,λe _=>q e,_l⟩,q,λap=>?_⟩
 .have aq:gj c__ b__.m (c__ e).1:=⟨e,ob,0,K,D,_l⟩;refine⟨?_,(ev.own _ aq).imp (I _) λh=>h.elim (λh=>h.elim) λh=>h⟩
  rintro⟨k2,o2,Q,a,B,C⟩;obtain⟨p1,g1,s1,⟨w,X,Y,-⟩|⟨w,rfl⟩⟩:=L k2 o2 a
  .rw[W k2 w Y]at C;have:=(e3.inj k2 e o2 ob Q 0 X K B D C).1;subst this;exact ax w
  rw[d__ k2 w]at C;exact(u k2 o2 Q w g1 B).2.2 (C▸aq)
 .obtain⟨ob,a,B,⟨w,X,Y,x⟩|⟨C,rfl⟩⟩:=L k l? h
  .exact ah k l? w X Y x
  exact dy.mono (ν:=ν) (ν':=ν2) ev.rows _l (λj D=>(u k l? j C a D).1) (λe _=>q e) (r.obj k l? a) (ad k C)
 .intro id h;rcases ev.frz id h with h|h|h|h
  .exact .inl h
  .exact .inr (.inl (I id h))
  all_goals grind
 have A:∀k l? j,bk T k=M l?->l?.pt j=U->ν.at k j=ν2.at k j/\∃ob,bk st.m k=M ob/\sameShape ob l?/\ob.pt j=U:=λk l? j h a__=>by
  obtain⟨ob,a,B,⟨w,X,Y,x⟩|⟨C,rfl⟩⟩:=L k l? h
  .have p:=ap k w;unfold zF at p;rw[h]at p;have ay:∃cs,l?=.box cs:=(by cases l?<;>first|exact⟨_,rfl⟩|cases p);obtain⟨cs,rfl⟩:=ay;have:=lH (ob:=.box cs) f? j a__;subst this;refine⟨_l,ob,a,B,?_⟩;cases ob<;>first|rfl|cases B
  exact⟨(d__ k C j).symm,l?,a,.refl _,a__⟩
 refine⟨⟨λs sv hs=>(r.slot s sv hs).mono aj λe _=>q e,λk l? h=>?_,λb g o1 o2 G Q a B k1 k2 hp=>ae b g o1 o2 G Q a B k1 k2 (by rw[<-(A b o1 G a k1).1,<-(A g o2 Q B k2).1];exact hp),λb o1 G a k1 hz=>ao b o1 G a k1 (by rw[<-(A b o1 G a k1).1];exact(ev.rows _ hz).1),λid h=>by rw[(ev.rows id h).2];exact r.zrow id h,r.deep.mono λid h=>(ev.rows id h).2⟩,
  ⟨ev.len,aa,aj,λid⟨k,o,j,a,B,C⟩=>af id ⟨k,o,j,a,B,by rw[<-(A k o j a B).1];exact C⟩,λid h=>.inl h,λe _=>q e,_l⟩,λdst e l? _ h=>?_⟩
 .obtain⟨ob,a,B,⟨w,X,Y,x⟩|⟨C,rfl⟩⟩:=L k l? h
  .have p:=ap k w;unfold zF at p;rw[h]at p;exact dy.bare (ν:=ν2) (Z:=Z') (λ_=>rfl) p (ah k l? w X Y x)
  exact dy.mono aj _l (λj D=>(u k l? j C a D).1) (λe _=>q e) (r.obj k l? a)
 have⟨ob,a,B,C⟩:=q e l? h;refine⟨ob,a,_l,C,λj a__=>?_⟩
 have⟨_,ak,g1,_,g3⟩:=A e l? j h a__;rw[a]at g1;cases g1;exact⟨g3,_l⟩
def ZS(a:kz S c){f:Y'}(G:S.E.keep f=U)(r:R ν Z st F H){args:SW}{ys:So}(d:cr ν st.m H Z args ys){os:dN}(T:handed st.m args=M os)
 {rs:SW}{m':dN}{B:So}{D:Tb bG}(b:c f args os=M (rs,m'))(g:dG rs=M B)(i:lB m' (os.map (·.1)) st.m=M D):
 ∃n y H' ν' Z',(∀k,n<=k->run S.E k (.fn f) ys H=M (y,H'))/\R ν' Z' {st with m:=D} F H'/\di ν' D H' Z' (.v (result B)) y/\Ev Rv ν Z st H ν' Z' {st with m:=D} H':=by
 have⟨n,H',h,Z',C,F1,w,ν2,e1,_,e2,_,_,_,g1,g2,_,_⟩:=zV (Rv:=Rv) a G r d T b i;refine⟨n,result w,H',ν2,Z',e1,g1,?_,g2⟩;have u:=e2.dG g;have:FR H' Z' (result B) (result w):=by cases B with|nil=>rw[u.dx];exact .same _ Y|cons x z=>obtain⟨y,I,rfl,g1,g2⟩:=u.inv;cases z with|nil=>rw[g2.dx];exact g1|cons x2 z=>obtain⟨Q,L,rfl,g3,g4⟩:=g2.inv;exact .tup _ _ u.1 u.2
 exact .v _ _ this
def A_{ys:So}(h:V.dm ys=U):(result ys).scalar=U:=by cases ys with|nil=>rfl|cons a l=>cases l with|nil=>simp only[V.dm,ζh]at h;exact h.1|cons b l=>grind[result,V.scalar]
def YE(a:kz S c){f:Y'}(G:S.E.keep f=true)(r:R ν Z st F H){args:SW}{ys:So}(h:cr ν st.m H Z args ys){os:dN}(W:handed st.m args=some os)
 {rs:SW}{m':dN}{D:So}{B:Tb bG}(b:c f args os=some (rs,m'))(Y:dG rs=some D)(d:lB m' (os.map (·.1)) st.m=some B)(T:V.dm D=true)(g:∀k∈os.map (·.1),zF B k=true):
 ∃n H',(∀k,n<=k->run S.E k (.fn f) ys H=some (result D,H'))/\R ν Z {st with m:=B} F H'/\di ν B H' Z (.v (result D)) (result D)/\Ev Rv ν Z st H ν Z {st with m:=B} H'/\∀dst,Kept dst ν st.m ν B:=by
 obtain⟨n,H',z,Z',u,F1,C,ν2,e1,_,e2,_,_,_,_,_,_,g4⟩:=zV (Rv:=Rv) a G r h W b d;obtain⟨g1,g2,g3⟩:=g4 g;have w:=(e2.dG Y).scalar.1 T;subst w;exact⟨n,H',e1,g1,.v _ _ (.same _ (lV (A_ T))),g2,g3⟩
def Yg(i:kz S c){f:Y'}(c__:S.E.keep f=U)(r:R ν Z st F H){args:SW}{ys:So}(Y:cr ν st.m H Z args ys){os:dN}(j:handed st.m args=M os)
 {i?:SW}{m':dN}{T:So}{D:Tb bG}{e t es:Nat}{k:Fl}{xs:S'}(l:c f args os=M (.own e::i?,m'))(q:dG i?=M T)(s:lB m' (os.map (·.1)) st.m=M D)
 (G:bk m' e=M (.sl k es xs))(b__:e∉os.map (·.1))(B:St.new {st with m:=D} t=U):
 ∃n y H' ν' Z',(∀k,n<=k->run S.E k (.fn f) ys H=M (y,H'))/\R ν' Z' {st with m:=bJ D t (.sl k es xs)} F H'/\di ν' (bJ D t (.sl k es xs)) H' Z' (zX (.own t::T.map .v)) y/\Ev Rv ν Z st H ν' Z' {st with m:=bJ D t (.sl k es xs)} H':=by
 obtain⟨n,H',L,Z',X,F1,P,ν2,e1,rfl,e2,e3,a,d__,g1,g2,g3,_⟩:=zV (Rv:=Rv) i c__ r Y j l s;obtain⟨w,Q,rfl,v,A⟩:=e2.inv;have o:=e3.obj e _ G;have E:=g1.add B (ob:=.sl k es xs) (p:=L e) (λz=>⟨(a e _ G b__ z).1,e3.apart e _ 0 G z⟩) (by
  grind[dy,jH])
 have b:di (jd ν2 t (L e)) (bJ D t (.sl k es xs)) H' Z' (.own t) w:=by refine .own _ _ λu W=>?_;rw[cD]at W;cases W;obtain⟨_,_,_,K,rfl⟩:=v.iT G;cases K;exact⟨_,_,_,_l,by rw[jH]⟩
 have⟨a__,n2,n3,n4⟩:=l9 B;refine⟨n,result (w::Q),H',jd ν2 t (L e),Z',e1,E,?_,⟨g2.len,g2.same,g2.rows,?_,g2.frz,?_,g2.pins⟩⟩
 .have I:=A.dG q
  cases T with
  |nil=>rw[I.dx];exact b|cons x T=>obtain⟨y,aa,rfl,_,_⟩:=I.inv;exact .tup _ _ (by have:=I.1;grind) (cr.cons b (cr.tg I)).2
 .intro id h;rcases D1 h with h|⟨g,rfl⟩
  .exact g2.own id h
  exact(a e _ G b__ g).2.imp (λh=>h) .inr
 intro d hd u h;have C:d≠t:=λe=>a__ (e▸hd)
 have h:bk (bJ D t (.sl k es xs)) d=M u:=h;rw[cW _ _ (Ne.symm C)]at h;have⟨ob,g,_,N⟩:=g3 d u h;exact⟨ob,g,by rw[DM _ _ C,d__],N⟩
def Uu(i:kz S c){f:Y'}(T:S.E.keep f=U)(r:R ν Z st F H){args:SW}{ys:So}(j:cr ν st.m H Z args ys){os:dN}(l:handed st.m args=M os)
 {p:V}{i?:SW}{m':dN}{c__:So}{B:Tb bG}{e t es:Nat}{k:Fl}{xs:S'}(q:c f args os=M (.v p::.own e::i?,m'))(s:dG i?=M c__)(x:lB m' (os.map (·.1)) st.m=M B)
 (G:bk m' e=M (.sl k es xs))(b__:e∉os.map (·.1))(D:St.new {st with m:=B} t=U):
 ∃n y H' ν' Z',(∀k,n<=k->run S.E k (.fn f) ys H=M (y,H'))/\R ν' Z' {st with m:=bJ B t (.sl k es xs)} F H'/\di ν' (bJ B t (.sl k es xs)) H' Z' (.tup (.v p::.own t::c__.map .v)) y/\Ev Rv ν Z st H ν' Z' {st with m:=bJ B t (.sl k es xs)} H':=by
 obtain⟨n,H',I,Z',aa,F1,ws,ν2,e1,rfl,e2,e3,a,L,g1,g2,g3,_⟩:=zV (Rv:=Rv) i T r j l q x;obtain⟨W,ab,rfl,A,d__⟩:=e2.inv;obtain⟨w,Q,rfl,E,K⟩:=d__.inv;have o:=e3.obj e _ G;have a__:=g1.add D (ob:=.sl k es xs) (p:=I e) (λz=>⟨(a e _ G b__ z).1,e3.apart e _ 0 G z⟩) (by
  grind[dy,jH])
 have b:di (jd ν2 t (I e)) (bJ B t (.sl k es xs)) H' Z' (.own t) w:=by refine .own _ _ λu X=>?_;rw[cD]at X;cases X;obtain⟨_,_,_,N,rfl⟩:=E.iT G;cases N;exact⟨_,_,_,_l,by rw[jH]⟩
 have⟨P,n2,n3,n4⟩:=l9 D;refine⟨n,result (W::w::Q),H',jd ν2 t (I e),Z',e1,a__,?_,⟨g2.len,g2.same,g2.rows,?_,g2.frz,?_,g2.pins⟩⟩
 .have Y:=K.dG s;have h0:di (jd ν2 t (I e)) (bJ B t (.sl k es xs)) H' Z' (.v p) W:=by
   cases A with
   |v _ _ h=>exact .v _ _ h
  exact .tup _ _ (by have:=Y.1;grind) (cr.cons h0 (cr.cons b (cr.tg Y))).2
 .intro id h;rcases D1 h with h|⟨g,rfl⟩
  .exact g2.own id h
  exact(a e _ G b__ g).2.imp (λh=>h) .inr
 intro d hd u h;have C:d≠t:=λe=>P (e▸hd)
 have h:bk (bJ B t (.sl k es xs)) d=M u:=h;rw[cW _ _ (Ne.symm C)]at h;have⟨ob,g,_,h3⟩:=g3 d u h;exact⟨ob,g,by rw[DM _ _ C,L],h3⟩
def UO(a:kz S c){f:Y'}{az:So}{rs:SW}{m':dN}(b:V.c_ az=U)(h:c f (az.map .v) []=M (rs,m')):
 ∃n H2 ν' Z' e? F' ys,(∀k,n<=k->run S.E k (.fn f) az []=M (result ys,H2))/\e?.m=m'/\cr ν' m' H2 Z' rs ys/\R ν' Z' e? F' H2:=by
 have⟨u,r1⟩:=Cr b;obtain⟨n,y,H2,ν',Z',e?,F',w,d,rfl,z,B,C,_⟩:=a f _ _ _ _ h _ _ az [] (.inr Y) u r1;exact⟨n,H2,ν',Z',e?,F',w,λk e=>(rL S.E e).go _ _ _ _ d,z,B,C⟩
def QY{ys:So}(h:V.dm ys=U):V.dm (.bN::ys)=U/\V.dm (.dS::ys)=U:=by grind[V.dm,V.scalar]
def cr.abx{ys:So}(h:V.c_ ys=U):cr ν m H Z (ys.map .v) ys:=cr.tg (dL.same h)
def UB(s:kz S c)(hP:∀f q,S.prm f=some q->qa S.E f q){ops:QP}{place:aX (Nat×Nat)}{dr nw:X'}{fr:ST}(c__:dr=place.isSome)(T:∀b i,place=some (b,i)->nw=true->ez ops i=true)(ak:∀b i,place=some (b,i)->nw=false->ez ops i=false)
 (g:∀b i,place=some (b,i)->(∀d ob j,bk st.m d=some ob->ob.pt j=true->d∉fr->ν.at d j<b)/\∀id,Z id->id<b)
 (r:R ν Z st F H){args:SW}{ys:So}(W:cr ν st.m H Z args ys){f:Y'}{dst:aX Nat}{sv:SV}(h:e_ S c dst dr (!dr||nw) (gm st.m fr) f args st=some (sv,e?)):
 ∃n y H' ν' Z',(∀k,n<=k->eR S.E (run S.E k) ops place f ys H=some (y,H'))/\R ν' Z' e? F H'/\di ν' e?.m H' Z' sv y/\Ev Rv ν Z st H ν' Z' e? H'/\(dr=true->Z'=Z/\Kept dst ν st.m ν' e?.m):=by
 unfold e_ at h;split at h
 .rename_i A;split at h
  .have C:∀{q:en}{y:V}{H':bt},iP S.E q f ys H=some (y,H')->eR S.E q ops place f ys H=some (y,H'):=λ{q y H'}hd=>by
    unfold eR
    cases place with
    |none=>rw[L' (by grind[ng])];omega|some bi=>
     obtain⟨b,i⟩:=bi;have aH:=c__;have aI:=T b i rfl g?
     rw[L' (by grind[ng])]
     grind
   split at h
   .
    rename_i ab;split at h
    .rename_i az hs;have hg:=Dp r.obj hs W;obtain⟨nb,x⟩:=AD r W hs;split at h
     .rename_i rs m' hc;obtain⟨na,H2,ν2,Z2,st2,F2,X,ax,rfl,e3,e4⟩:=UO s hg hc;obtain⟨n,ay,aJ⟩:∃n,na<=n/\nb<=n:=⟨max na nb,k! ..,i! ..⟩;have e1:=λk(A:n<=k)=>ax k (V? ay A)
      have L:∀k,n<=k->∀{o:aX (V×bt)},(if(result X).scalar then some (result X,H)else
       match result X with
       |.hsl id es off len=>(vG H.length H2 id es off len).map λ(v,ob)=>(v,H++[ob])|.tup (.hsl id es off len::i?)=>if V.dm i? then(vG H.length H2 id es off len).map λ(v,ob)=>(.tup (v::i?),H++[ob])else none|_=>none)=o->iP S.E (run S.E k) f ys H=o:=λk D o a__=>by
       unfold iP oF;rw[L' ab]
       grind[qM]
      have al:∀G:So,(result G).scalar=true->result X=result G->sv=.v (result G)->e?=st->∃n y H' ν' Z',(∀k,n<=k->eR S.E (run S.E k) ops place f ys H=some (y,H'))/\R ν' Z' e? F H'/\di ν' e?.m H' Z' sv y/\Ev Rv ν Z st H ν' Z' e? H'/\(dr=true->Z'=Z/\Kept dst ν st.m ν' e?.m):=by rintro G N h2 rfl rfl;exact⟨n,result G,H,ν,Z,λk D=>C (L k D (by rw[h2,L' N])),r,.v _ _ (.same _ (lV N)),.refl,λ_=>⟨rfl,.refl⟩⟩
      have emp:∀(k:Fl)(es:Nat)(G:So)(i?:SW),V.dm G=true->∀t,st.new t=true->∀w:V,(k=.nil/\w=.bN\/k=.emp/\w=.dS)->result (w::G)=result X->dst=some t->sv=zX (.own t::G.map .v)->e?={st with m:=bJ st.m t (.sl k es [])}->
       ∃n y H' ν' Z',(∀k,n<=k->eR S.E (run S.E k) ops place f ys H=some (y,H'))/\R ν' Z' e? F H'/\di ν' e?.m H' Z' sv y/\Ev Rv ν Z st H ν' Z' e? H'/\(dr=true->Z'=Z/\Kept dst ν st.m ν' e?.m):=by
       rintro k es G i? Y t d__ w hw am rfl rfl rfl;have aK:cg k=false:=by rcases hw with⟨rfl,_⟩|⟨rfl,_⟩<;>rfl
       have l:di (jd ν t (0,0)) (bJ st.m t (.sl k es [])) H Z (.own t) w:=by refine .own _ _ λad E=>?_;rw[cD]at E;cases E;exact⟨_,_,_,rfl,by rcases hw with⟨rfl,rfl⟩|⟨rfl,rfl⟩<;>rfl⟩
       have an:(result (w::G)).scalar=true:=A_ (by rcases hw with⟨_,rfl⟩|⟨_,rfl⟩;all_goals simp_all[QY])
       refine⟨n,result (w::G),H,jd ν t (0,0),Z,λk D=>C (L k D (by rw[<-am,L' an])),r.add d__ (λx=>by grind[eU]) (by grind[dy]),?_,
        Ev.add d__ (x? _) (λ_ _ _=>rfl) (λ_ _=>rfl) (λx=>by grind[eU]),λ_=>⟨rfl,Kept.add λ_ _ h=>h⟩⟩
       cases G with
       |nil=>exact l|cons z G=>exact .tup _ _ f? (cr.cons l (cr.abx (sF Y))).2
      split at h
      .rename_i G b__;split at h
       next Y=>simp at h;exact al G Y ((Kl (e3.dG b__)).1 Y) h.1.symm h.2.symm
       simp at h
      split at h
      .rename_i e i? t _;obtain⟨w,X,rfl,g1,g2⟩:=e3.inv;split at h
       .
        rename_i es xs G Q b__;split at h
        .rename_i B;simp at B;obtain⟨⟨c1,P⟩,d__⟩:=B;simp at h;obtain⟨rfl,rfl⟩:=h;have o:=e4.obj e _ Q;simp only[dy,N']at o;obtain⟨rows,hr,aL,hf,aF,ao⟩:=o;obtain⟨q1,q2⟩:=ao trivial;have ae:=by
          have:=N1 hf P;rw[q1,R!,<-q2,I?]at this;exact this
         subst ae;obtain⟨_,_,_,K,rfl⟩:=g1.iT Q;cases K;have I:=(g2.dG b__).scalar.1 c1;subst I;have aM:vG H.length H2 (ν2 e).1 es 0 rows.length=some (.hsl H.length es 0 rows.length,.row es rows):=by grind[vG,mj]
         have hH:∀id,id<H.length->(H++[Ob.row es rows])[id]?=H[id]?:=λid hl=>u? hl
         have ap:∀id,Z id->bz (H++[Ob.row es rows]) id=bz H id:=λid b__=>by unfold bz;rw[hH id (r.xD b__)]
         have r2:=r.heap (λid a__=>hH id (r.lt a__)) ap
         have aA:V.pL rows=true:=by refine mY.2 λj u hu=>?_;unfold mj at P;rw[G?]at P;have:=P u (s? hu);rw[G?]at this;grind[jt,lV]
         have hR:=r2.add (ob:=.sl .row es rows) (p:=(H.length,0)) d__ (λ_=>⟨λa__=>_e (r.lt a__) f?,λb__=>_e (r.xD b__) f?⟩) (by
          simp only[dy,jH];refine⟨rows,f?,f?,?_,(gZ.same aA).Bu,λ_=>⟨trivial,rfl⟩⟩
          rw[R!,I?]
          grind[gZ.same])
         have l:di (jd ν t (H.length,0)) (bJ st.m t (.sl .row es rows)) (H++[Ob.row es rows]) Z (.own t) (.hsl H.length es 0 rows.length):=by refine .own _ _ λad E=>?_;rw[cD]at E;cases E;exact⟨_,_,_,rfl,by simp[qE,jH]⟩
         have aq:Ev Rv ν Z st H (jd ν t (H.length,0)) Z {st with m:=bJ st.m t (.sl .row es rows)} (H++[Ob.row es rows]):=Ev.add d__ f? (λid hl _=>hH id hl) ap (λ_=>.inr (x? _))
         have ar:qE (ν2 e) Fl.row es rows.length=.hsl (ν2 e).1 es 0 rows.length:=by grind[qE]
         rw[ar]at L
         cases i? with
         |nil=>
          have:=by simp only[dG,ζa]at b__;exact b__.symm
          subst this;refine⟨n,_,_,_,Z,λk D=>C (L k D ?_),hR,l,aq,λ_=>⟨rfl,Kept.add λ_ _ h=>h⟩⟩
          grind[result,V.scalar]
         |cons x2 i?=>
          have aB:∃w2 af,X=w2::af:=by have:=g2.1;cases X with|nil=>simp at this|cons a b=>exact⟨a,b,rfl⟩
          obtain⟨w2,af,rfl⟩:=aB;refine⟨n,_,_,_,Z,λk D=>C (L k D (o:=some (.tup (.hsl H.length es 0 rows.length::w2::af),H++[Ob.row es rows])) ?_),hR,?_,aq,λ_=>⟨rfl,Kept.add λ_ _ h=>h⟩⟩
          .grind[result,V.scalar,V.dm]
          exact .tup _ _ f? (cr.cons l (cr.abx (sF c1))).2
        simp at h
       .rename_i es xs G Q b__;split at h
        next B=>simp at B;simp at h;obtain⟨rfl,rfl⟩:=h;obtain⟨_,_,_,K,rfl⟩:=g1.iT Q;cases K;have I:=(g2.dG b__).scalar.1 B.1;subst I;exact emp .nil es X i? B.1 _ B.2 .bN f? rfl rfl rfl rfl
        simp at h
       .rename_i es xs G Q b__;split at h
        next B=>simp at B;simp at h;obtain⟨rfl,rfl⟩:=h;obtain⟨_,_,_,K,rfl⟩:=g1.iT Q;cases K;have I:=(g2.dG b__).scalar.1 B.1;subst I;exact emp .emp es X i? B.1 _ B.2 .dS f? rfl rfl rfl rfl
        simp at h
       simp at h
      simp at h
     grind
    grind
   rename_i ab;split at h
   .rename_i q hq;split at h
    .simp at h
    rename_i hd;obtain⟨n,y,H',ν',e1,e2,e3,e4,e5⟩:=Yt (hP f q hq) r W h;exact⟨n,y,H',ν',Z,λk D=>C (by grind[iP]),e2,e3,e4,λh=>_e h hd⟩
   split at h
   .rename_i os hh;split at h
    .rename_i rs m' hc;split at h
     .rename_i G m2 b__ x;split at h
      .simp at h
      rename_i au;simp at h;obtain⟨rfl,rfl⟩:=h
      cases av:dr with
      |false=>obtain⟨n,y,H',ν',Z',e1,e2,e3,e4⟩:=ZS s A r W hh hc b__ x;exact⟨n,y,H',ν',Z',λk D=>C (by grind[iP]),e2,e3,e4,(λh=>nomatch h)⟩|true=>
       rw[av]at au;have kU:V.dm G=true/\∀k∈os.map (·.1),zF m2 k=true:=by simp only[Bool.true_and,Z?,Bool.not_eq_false,ζh,G?]at au;grind
       obtain⟨n,H',e1,e2,e3,e4,e5⟩:=YE (Rv:=Rv) s A r W hh hc b__ x kU.1 kU.2;exact⟨n,_,H',ν,Z,λk D=>C (by grind[iP]),e2,e3,e4,λ_=>⟨rfl,e5 _⟩⟩
     .rename_i m2 b__ x;split at h
      .simp at h
      rename_i hd;split at h
      .rename_i e i? t;split at h
       .rename_i k es xs G he ah;split at h
        next B=>simp only[ζh,Z?,List.contains_eq_mem,_h]at B;simp only[ζa,ζc]at h;obtain⟨rfl,rfl⟩:=h;obtain⟨n,y,H',ν',Z',e1,e2,e3,e4⟩:=Yg s A r W hh hc ah x he B.1 B.2;exact⟨n,y,H',ν',Z',λk D=>C (by grind[iP]),e2,e3,e4,λh=>_e h hd⟩
        simp at h
       simp at h
      .rename_i p e i? t;split at h
       .rename_i k es xs G he ah;split at h
        next B=>simp only[ζh,Z?,List.contains_eq_mem,_h]at B;simp only[ζa,ζc]at h;obtain⟨rfl,rfl⟩:=h;obtain⟨n,y,H',ν',Z',e1,e2,e3,e4⟩:=Uu s A r W hh hc ah x he B.1 B.2;exact⟨n,y,H',ν',Z',λk D=>C (by grind[iP]),e2,e3,e4,λh=>_e h hd⟩
        simp at h
       simp at h
      simp at h
     simp at h
    simp at h
   simp at h
  rename_i aa;split at h
  .rename_i ai;simp only[ζh]at ai;have aj:ng S.E ops place f=false:=by
    simp only[Bool.not_eq_true,h!,Bool.not_eq_false']at aa
    cases place with
    |none=>rw[c__]at aa;simp at aa|some bi=>obtain⟨b,i⟩:=bi;have N:=ak b i rfl aa.2;have h2:=ai.1;simp only[ng,N,h2,Bool.false_or,Bool.not_true,Bool.and_false]
   split at h
   .rename_i az hs;split at h
    .rename_i rs m' hc;split at h
     .rename_i G b__;split at h
      next B=>simp only[p!]at B;simp at h;obtain⟨rfl,rfl⟩:=h;obtain⟨n,H',e1,e2,e3,e4⟩:=Og s c__ T g r W aj hs (.inr ai.2) hc b__ B;exact⟨n,_,H',ν,Z,e1,e2,e3,e4,λ_=>⟨rfl,.refl⟩⟩
      simp at h
     simp at h
    simp at h
   simp at h
  simp at h
 rename_i A;have aC:S.E.keep f=false:=g?
 have aj:ng S.E ops place f=false:=by simp_all[ng]
 split at h
 .rename_i az hs;split at h
  .rename_i hl;split at h
   .rename_i rs m' hc;split at h
    .rename_i G b__;split at h
     .rename_i B;simp only[p!]at B;simp at h;obtain⟨rfl,rfl⟩:=h;obtain⟨n,H',e1,e2,e3,e4⟩:=Og s c__ T g r W aj hs g? hc b__ B
      exact⟨n,_,H',ν,Z,e1,e2,e3,e4,λ_=>⟨rfl,.refl⟩⟩
     rename_i aG;split at h
     .rename_i aD;obtain⟨ds,aE,e⟩:=ζf.1 h;simp at e;obtain⟨rfl,rfl⟩:=e;have aw:(result G).scalar=false:=by
       grind
      obtain⟨n,H',e1,e2,e3,e4⟩:=XR s T (λb i hp=>(g b i hp).2) r W aC hs (by rw[<-c__];exact aD) hc b__ aw aE
      exact⟨n,_,H',ν,Z,e1,e2,e3,e4,λ_=>⟨rfl,λe ad _ h=>⟨ad,qZ h,rfl,.refl _,λ_ h=>⟨h,rfl⟩⟩⟩⟩
     simp at h
    simp at h
   simp at h
  simp at h
 simp at h
end
structure CX where
 E:Env
 nm:FuncId->Option Nat
 nt:Nat
def EK(ops:QP)(o:Oper):aX (aX (Nat×X')):=
 match o.guard with
 |none=>M J|some (j,b)=>(_o (ops[j]?) (·.dst)).map λd=>M (d,b)
def Bq(a:Nat):aX Nat->X'
 |none=>U|some d=>_s (d<a)
def Ax(B:X')(ops:QP)(i:Nat)(k:K)(os:aY UV):K×aY UV×X':=
 if B&& !ez ops i then match k,os,uC O ops i with
  |.l (.store n),.tmp u::w,M (a,l)=>if u=a then(.l (.storeF n),(.tmp u::w)++l.map .tmp,U)else(k,os,O)|.l (.append n),os,_=>if zY ops i then(.e n,os,U)else(k,os,O)|.r (.load n ag),[.tmp u],_=>if(sx ops i u).isEmpty then(k,os,O)else(.r (.loadF n ag),.tmp u::(sx ops i u).map .tmp,O)|_,_,_=>(k,os,O)
 else(k,os,B&&ez ops i)
def Hs(B:X')(ops:QP)(i:Nat)(k:K)(os:aY UV):(Ax B ops i k os=(k,os,B&&ez ops i)/\∀n ag a',B=U->ez ops i=O->k=.r (.load n ag)->os=[.tmp a']->sx ops i a'=[])\/
 (B=U/\ez ops i=O/\∃n a l D,k=.l (.store n)/\os=.tmp a::D/\uC O ops i=M (a,l)/\Ax B ops i k os=(.l (.storeF n),os++l.map .tmp,U))\/
 (B=U/\ez ops i=O/\∃n ag a,k=.r (.load n ag)/\os=[.tmp a]/\Ax B ops i k os=(.r (.loadF n ag),.tmp a::(sx ops i a).map .tmp,O))\/
 (B=U/\ez ops i=O/\zY ops i=U/\∃n,k=.l (.append n)/\Ax B ops i k os=(.e n,os,U)):=by
 unfold Ax;split
 .rename_i h;simp only[ζh,Z?]at h;split
  .rename_i n a' D a l hk;split
   next e=>subst e;refine .inr (.inl ⟨h.1,h.2,n,a',l,D,Y,Y,hk,?_⟩);simp only[Ax,h.1,h.2,hk,Bool.not_false,Bool.and_self,N']
   exact .inl ⟨by rw[h.2,Bool.and_false],λn ag a' _ _ e=>by cases e⟩
  .rename_i n;split
   next C=>refine .inr (.inr (.inr ⟨h.1,h.2,C,n,Y,Y⟩))
   exact .inl ⟨by rw[h.2,Bool.and_false],λn ag a' _ _ e=>by cases e⟩
  .rename_i n ag a';split
   .rename_i G;refine .inl ⟨by rw[h.2,Bool.and_false],λn ag a2 _ _ _ e=>?_⟩
    simp only[List.cons.injEq,Operand.tmp.injEq,and_true]at e;subst e;simpa using G
   exact .inr (.inr (.inl ⟨h.1,h.2,n,ag,a',Y,Y,Y⟩))
  rename_i u w z;refine .inl ⟨by rw[h.2,Bool.and_false],λn ag a2 _ _ e1 e2=>?_⟩
  first|exact(z _ _ _ e1 e2).elim|exact(z _ _ _ _ e1 e2 Y).elim|exact(u _ _ _ e1 e2).elim|exact(w _ _ _ e1 e2).elim|exact(u _ _ _ _ e1 e2 Y).elim|exact(w _ _ _ _ e1 e2 Y).elim
 rename_i h;refine .inl ⟨Y,λn ag a2 hd I _ _=>?_⟩
 rw[hd,I]at h;exact _e Y h
def oV(X:CX)(B:X')(ops:QP)(i:Nat)(o:Oper):aX RO:=
 if Bq X.nt o.dst&& !(B&&(c7 o.op==.call&&LG ops i))then
  match EK ops o,resolve X.E X.nm o.op with
  |some gd,M (k,os)=>if DN k then if B&&GM X.E ops i then match k,o.op with
   |.a (.makeSl size zero),.makeSlice ..=>(os.mapM (si X.nm)).map λaz=>⟨o.dst,gd,O,.p (.makeC size zero),az,[],[]⟩|.a (.buildSl size len zero idx),.buildSlice ..=>if size≠0/\len=0/\idx=[]then(os.mapM (si X.nm)).map λaz=>⟨o.dst,gd,O,.p .emptyC,az,[],[]⟩else(os.mapM (si X.nm)).map λaz=>⟨o.dst,gd,O,.p (.buildC size len zero idx),az,[],[]⟩|_,_=>J
   else((Ax B ops i k os).2.1.mapM (si X.nm)).map λaz=>⟨o.dst,gd,(Ax B ops i k os).2.2,(Ax B ops i k os).1,az,[],[]⟩else J
  |_,_=>J
 else J
def Gb{E:Env}{N:Nat->Y'}{F:WP}{op:Op}{ys:So}{size:Nat}{zero:So}{y:V}(B:∃t l c,op=.buildSlice t l c)(h:Dz E N F op ys (.a (.buildSl size 0 zero [])))(G:size≠0)(D:bW N .emptyC ys=M y):sB E F op=M y:=by
 obtain⟨t,l,c,rfl⟩:=B;have⟨g1,g2⟩:=h;unfold bW at D;split at D<;>first|(rename_i e;cases e;done)|skip
 all_goals simp_all[od,gP,sB]
def Ce{es:Nat}:∀{vs:aY (Nat×V)}{xs ys:S'},gP es xs vs=M ys->W ys=W xs
 |[],xs,ys,h=>by grind[gP]|(i,v)::r,xs,ys,h=>by simp only[gP]at h;split at h;have:=Ce h;grind;cases h
def FQ{E:Env}{N:Nat->Y'}{F:WP}{op:Op}{ys:So}{size len:Nat}{zero:So}{idx:ST}{y:V}(D:∃t l c,op=.buildSlice t l c)(h:Dz E N F op ys (.a (.buildSl size len zero idx)))(B:bW N (.buildC size len zero idx) ys=M y):sB E F op=M y:=by
 obtain⟨t,l,c,rfl⟩:=D;have⟨g1,g2⟩:=h;simp only[bW]at B;split at B;rename_i a;split at B;rename_i w u;split at B;rename_i C;have G:len=W w:=by have:=Ce u;rw[this];simp
 have z:=g2 _ (show od (.buildSl size len zero idx) ys=M (.row size w,.sl size len)by grind[od]);grind[sB];cases B;cases B;cases B
def GZ{E:Env}{N:Nat->Y'}{F:WP}{op:Op}{ys:So}{size:Nat}{zero:So}{y:V}(D:∃t l c,op=.makeSlice t l c)(h:Dz E N F op ys (.a (.makeSl size zero)))(B:bW N (.makeC size zero) ys=M y):sB E F op=M y:=by
 obtain⟨t,l,c,rfl⟩:=D;have⟨g1,g2⟩:=h;unfold bW at B;split at B<;>first|(rename_i e;cases e;done)|skip
 rename_i k n w m e;cases e;split at B;rename_i c;obtain⟨rfl,rfl,z,rfl,C,G⟩:=c;have u:=g2 _ (show od (.makeSl size zero) [.int _r n,.int _r n]=M (.row size (replicate n.toNat zero),.sl size n.toNat)by grind[od]);grind[sB];cases B;cases B
def Hr{X:CX}{dr:X'}{ops:QP}{i:Nat}{o:Oper}{ro:RO}(a:oV X dr ops i o=M ro):Bq X.nt o.dst=U/\∃g now k az,EK ops o=M g/\ro=⟨o.dst,g,now,k,az,[],[]⟩:=by
 unfold oV at a;split at a
 .rename_i hd;have hd:=(Bool.and_eq_true_iff.1 hd).1;split at a
  .rename_i g k os hg hr;split at a;(·(repeat' split at a)<;>first|(cases a;done)|(obtain⟨az,u,rfl⟩:=ζf.1 a;exact⟨hd,_,_,_,_,hg,Y⟩));cases a
  cases a
 cases a
def JB{X:CX}{dr:X'}{ops:QP}{i:Nat}{o:Oper}{ro:RO}(a:oV X dr ops i o=M ro)(hd:dr=U)(B:c7 o.op=.call):LG ops i=O:=by
 unfold oV at a;split at a;next h=>subst hd;simp[B]at h;exact h.2
 cases a
structure Good(X:CX)(S:Sys):Prop where
 E:X.E=S.E
 N:∀f s,X.nm f=some s->S.N s=f
 prm:∀f q,S.prm f=some q->qa S.E f q
section
variable{Rv:Nat->Prop}{ν ν':Nu}{Z Z':Nat->Prop}{st e?:St}{m m':Tb bG}{F F':WP}{H H' H1:bt}{S:Sys}{c:b_}{X:CX}
def Old(b:Nat)(fr:ST)(ν:Nu)(Z:Nat->Prop)(m:Tb bG):Prop:=(∀d ob j,bk m d=M ob->ob.pt j=U->d∉fr->ν.at d j<b)/\∀id,Z id->id<b
def qx{fr:ST}:∀{m?:SW},gw fr m?=U->∀d∈fr,SV.dX d m?=O
 |[],_,d,_=>rfl|.v _::r,h,d,hd=>(qx (m?:=r) (by grind[gw]) d hd)|.ptr e _::r,h,d,hd=>by simp[gw,Z?]at h;simp[SV.dX,SV.cZ];exact⟨λe=>h.1 (e▸hd),qx h.2 d hd⟩|.el e _ _::r,h,d,hd=>by simp[gw,Z?]at h;simp[SV.dX,SV.cZ];exact⟨λe=>h.1 (e▸hd),qx h.2 d hd⟩|.mp e::r,h,d,hd=>by simp[gw,Z?]at h;simp[SV.dX,SV.cZ];exact⟨λe=>h.1 (e▸hd),qx h.2 d hd⟩|.own _::r,h,_,_=>by grind[gw]|.clo ..::r,h,_,_=>by grind[gw]|.tup _::r,h,_,_=>by grind[gw]|.agg _::r,h,_,_=>by grind[gw]|.yl _::r,h,_,_=>by grind[gw]
def GO(S:Sys)(ops:QP)(place:aX (Nat×Nat))(dr:X')(F:WP)(op:Op)(dst:aX Nat)(ν:Nu)(Z:Nat->Prop)(st:St)(H:bt)(sv:SV)(e?:St):Prop:=∃n y H' ν' Z',(∀k,n<=k->dw S.E (run S.E k) ops place F H op=M (y,H'))/\R ν' Z' e? F H'/\di ν' e?.m H' Z' sv y/\Ev (λid=>∃b j,place=M (b,j)/\id=b+j) ν Z st H ν' Z' e? H'/\(dr=U->Z'=Z/\Kept dst ν st.m ν' e?.m)
def B1{E:Env}{F:WP}{H:bt}{place:aX (Nat×Nat)}{op:Op}{v:V}(h:bS E F op=M v):vS E F H place op=M v:=by simp_all[vS]
def Cq:∀{xs ys:S'}{l:Rd},gZ H Z xs ys->nY xs=M l->nY ys=M l
 |[],ys,l,h,B=>by have:=h.1;have:ys=[]:=List.eq_nil_of_length_eq_zero g?;grind|x::xs,[],l,h,B=>by have:=h.1;simp at this|x::xs,y::ys,l,h,B=>by unfold nY at B;split at B;grind;rename_i n r e;cases e;obtain⟨k,c,rfl⟩:=ζf.1 B;have w:=h.2 0 _ y Y Y;obtain⟨u,C,rfl,p1,p2⟩:=w.inv;rw[p2.dx,p1.int];have:=Cq (xs:=xs) (ys:=ys) ⟨by have:=h.1;grind,λj a b z B=>h.2 (j+1) a b z B⟩ c;grind[nY];cases B
def Sr(gd:Good X S){ops:QP}{place:aX (Nat×Nat)}{dr:X'}{op:Op}{dst:aX Nat}{p:xS}{m?:SW}{ys:So}(b:DN (.p p)=U)(r:R ν Z st F H)(rs:cr ν st.m H Z m? ys)
 (B:Dz X.E S.N F op ys (.p p)){sv:SV}(h:(lP S.N st.m p m?).map (λx=>(x,st))=M (sv,e?)):GO S ops place dr F op dst ν Z st H sv e?:=by
 have⟨x,w,e⟩:=ζf.1 h;obtain⟨rfl,rfl⟩:=e;have⟨y,z,u⟩:=KN (λzero pl e=>by grind[DN]) r.obj rs w
 have⟨a,C⟩:=B;exact⟨0,y,H,ν,Z,λq _=>by unfold dw;rw[a];simp only[<-gd.E,B1 (C y z),A?],r,u,.refl,λ_=>⟨Y,.refl⟩⟩
def C4(gd:Good X S){ops:QP}{place:aX (Nat×Nat)}{dr:X'}{op:Op}{p:xS}{m?:SW}{ys:So}(hp:∀zero pl,p≠.build zero pl)(B:c7 op=.alloc)(D:qv X.E ops place=U)(G:∀y,bW S.N p ys=M y->sB X.E F op=M y)
 (r:R ν Z st F H)(rs:cr ν st.m H Z m? ys){sv:SV}(h:(lP S.N st.m p m?).map (λx=>(x,st))=M (sv,e?)):GO S ops place dr F op J ν Z st H sv e?:=by
 have⟨x,w,e⟩:=ζf.1 h;simp only[ζc]at e;obtain⟨rfl,rfl⟩:=e;have⟨y,z,u⟩:=KN (N:=S.N) (λzero pl e=>_e e (hp zero pl)) r.obj rs w
 refine⟨0,y,H,ν,Z,λq _=>?_,r,u,.refl,λ_=>⟨Y,.refl⟩⟩
 unfold dw;rw[B];simp only[D,N',<-gd.E,G y z,A?]
def O6:∀{D B:aY UV}{vs:So},gz F (D++B)=M vs->∃G d,gz F D=M G/\gz F B=M d/\vs=G++d
 |[],B,vs,h=>⟨[],vs,rfl,h,rfl⟩|x::D,B,vs,h=>by obtain⟨a,az,b,T,rfl⟩:=kB h;obtain⟨G,d,g1,g2,rfl⟩:=O6 T;simp_all[gz]
def Fj:∀{l:ST}{vs:So},gz F (l.map Operand.tmp)=M vs->vs=l.map (get F)
 |[],vs,h=>th h|x::l,vs,h=>by obtain⟨a,az,b,B,rfl⟩:=kB h;simp[ev]at b;subst b;rw[Fj B];rfl
def aaI(gd:Good X S){call:en}{ops:QP}{b j n a:Nat}{l:ST}{o:Oper}{B:aY UV}{ys:So}{y:V}(c:resolve X.E X.nm o.op=M (.l (.store n),.tmp a::B))(D:gz F ((.tmp a::B)++l.map Operand.tmp)=M ys)
 (g:uC O ops j=M (a,l))(T:ez ops j=O)(e1:f_ H (.storeF n) ys=M (y,H')):dw S.E call ops (M (b,j)) F H o.op=M (y,H'):=by
 obtain⟨t,q,d,I,rfl⟩:=O6 D;have⟨g1,g2⟩:=kY gd.N c d;obtain⟨w,L,z,i,rfl⟩:=kB d;simp[ev]at z;have u:∃v,L=[v]:=by have C:∃x,B=[x]:=(by unfold resolve at c;((repeat' split at c)<;>first|grind|skip);(all_goals (try (have⟨_,_,e⟩:=ζf.1 c;simp[K.l.injEq,On.store.injEq,reduceCtorEq]at e)));grind);obtain⟨x,rfl⟩:=C;obtain⟨v,Z,_,Q,rfl⟩:=kB i;rw[th Q];grind
 obtain⟨v,rfl⟩:=u;rw[Fj I,<-z]at e1;simp at e1
 cases G:get F a with
 |hptr id el off=>
  rw[G]at e1;simp only[f_]at e1;split at e1
  .have h:sM ops j F=U:=by
    unfold sM
    grind
   unfold dw;rw[g1];simp[h,<-gd.E];refine g2 _ _ ?_;rw[<-z,G];exact e1
  grind
 |_=>rw[G]at e1;simp[f_]at e1
def Ka{E:Env}{nm:Y'->aX Nat}{op:Op}{s:Nat}{a:X'}{os:aY UV}(h:resolve E nm op=M (.r (.loadF s a),os)):False:=by
 unfold resolve at h;(repeat' split at h)<;>first|grind|skip
 all_goals simp_all
def Ls{E:Env}{nm:Y'->aX Nat}{op:Op}{s a':Nat}{a:X'}{t:W'}{os:aY UV}(h:resolve E nm op=M (.r (.load s a),os)):∃t x,op=.load t x/\os=[x]:=by
 unfold resolve at h;(repeat' split at h)<;>first|grind|skip
 all_goals simp_all
 grind
def Ss{E:Env}{nm:Y'->aX Nat}{ops:QP}{j:Nat}{op:Op}{q:Oq}{os:aY UV}(a:resolve E nm op=M (.r q,os))(h:∀n ag a',K.r q=.r (.load n ag)->os=[.tmp a']->∀t,op=.load t (.tmp a')->sx ops j a'=[]):qD ops j F op=U:=by
 unfold qD;split;rename_i t a';have:∃n ag,q=.load n ag/\os=[.tmp a']:=by have⟨d,_,e⟩:=ζf.1 a;grind
 grind;rfl
theorem YL (gd:Good X S) {ops:aY Oper} {b j n a:Nat} {ag:Bool} {fr:aY Nat} {o:Oper} {m?:aY SV} {ys:aY V} {dst:aX Nat} {x:SV} (hr:resolve X.E X.nm o.op=some (.r (.load n ag),[.tmp a])) (i:gz F (.tmp a::(sx ops j a).map Operand.tmp)=some ys) (rs:cr ν st.m H Z m? ys)
 (W:gw fr m?=true) (ad:b<=H.length) (Y:∀d ob j,bk st.m d=some ob->ob.pt j=true->d∉fr->ν.at d j<b) (D:∀id,Z id->id<b) (r:R ν Z st F H) (T:sn st.m (.loadF n ag) m?=some x):GO S ops (some (b,j)) true F o.op dst ν Z st H x st:=by
 obtain⟨w,ws,h1,h2,rfl⟩:=kB i;simp[ev]at h1;have ae:=Fj h2;unfold sn at T;split at T <;> first|(rename_i B;cases B;done)|skip
 .rename_i size agg d off l B;cases B;split at T
  .rename_i G;split at T
   .rename_i cs C;obtain⟨w',af,e,g1,g2⟩:=rs.inv;cases e;have I:=OT r C g2 G;obtain⟨_,_,rfl⟩:=g1.rV C;have g:∀id,Z id->Z id/\bz (H.take b) id=bz H id:=λid h=>⟨h,qe (D id h)⟩
    have L:∀id,Z id->Z id/\bz H id=bz (H.take b) id:=λid h=>⟨h,(qe (D id h)).symm⟩
    have ah:d∉fr:=λhf=>by
     have:=qx W d hf
     grind[SV.dX,SV.cZ]
    obtain⟨y,hy,A⟩:=ze  (r:=.load n ag)   (λs a e=>by cases e) (λkk z ok e=>by cases e) (cr.cons (g1.mono g λe _=>kJ ν st.m e) .nil) (λd2 Q ob u=>by
     have aa:d2∉fr:=λhf=>by
      have  := by simpa [SV.dX,SV.cZ]using Q
      grind
     exact dy.mono g rfl (λj hb=>List.getElem?_take_of_lt (Y d2 ob j u hb aa)) (λe _=>kJ ν st.m e) (r.obj d2 ob u))  (by simp[sn,C];omega)
    obtain⟨k1,k2⟩:=kY  gd.N hr (show gz F [.tmp a]=some [.hptr (ν d).1 0 off]from by grind[gz])
    have ab:qD ops j F o.op=true:=by
     obtain⟨t,x',e1,e2⟩:=Ls (a':=0) (t:=0) hr;rw[e1];simp  at e2;subst e2;simp[qD];intro s hs;have hm:get F s∈ws:=by grind
     have:=List.all_eq_true.1 I _ hm
     grind[qA]
    refine⟨0,y,H,ν,Z,λq _=>?_,r,A.mono L (λe _=>kJ ν st.m e),.refl,λ_=>⟨rfl,.refl⟩⟩
    unfold dw;rw[k1];simp[<-gd.E,k2 (H.take b) y hy,ab]
   grind
  grind
 grind
def HJ{E:Env}{nm:Y'->aX Nat}{op:Op}{n:Nat}{os:aY UV}(h:resolve E nm op=M (.l (.append n),os)){y:V}{ys:So}(b:gz F os=M (y::ys))(B:y=.bN\/y=.dS):isApp op=U/\sX F op=U:=by
 have key:∃args u p s x,op=.call {callee:=.builtin .append,args:=args,argTypes:=u}/\args.toList=[s,x]/\os=[s,x]/\p=():=by unfold resolve at h;((repeat' split at h)<;>first|(simp at h;done)|skip);grind
 obtain⟨args,u,_,s,x,rfl,c,rfl,_⟩:=key;have⟨a,az,w,z,e⟩:=kB b;cases e;refine⟨Y,?_⟩;simp only[sX,c,w];all_goals grind
def abu(gd:Good X S)(hS:kz S c){ops:QP}{place:aX (Nat×Nat)}{dr:X'}{fr:ST}{i:Nat}(G:dr=place.isSome)(hi:∀b j,place=M (b,j)->j=i)
 (K:∀b j,place=M (b,j)->b<=_m H/\Old b fr ν Z st.m)
 {o:Oper}{ro:RO}(E:oV X dr ops i o=M ro)(aF:∀b j,place=M (b,j)->ops[j]?=M o)(am:∀b j,place=M (b,j)->c7 o.op=.alloc->H[b+j]?=M .free)
 (r:R ν Z st F H){sv:SV}(h:ox S c dr fr ro st=M (sv,e?)):
 GO S ops place dr F o.op (Bl ro) ν Z st H sv e?:=by
 have aw:=λhd hl=>JB E hd hl
 unfold oV at E;split at E
 .split at E
  .rename_i g k os hg hr;split at E
   .rename_i A;split at E
    .rename_i af;simp only[ζh]at af;have an:qv X.E ops place=U:=by
      cases place with
      |none=>rw[G]at af;exact _e af.1 f?|some d__=>have⟨b,j⟩:=d__;rw[hi b j _l];exact af.2
     split at E
     .rename_i size zero t l c c__;obtain⟨az,a__,rfl⟩:=ζf.1 E;unfold ox at h;split at h
      next L B=>have⟨ys,C,rs⟩:=rA gd.N r.slot a__ B;have b__:=kY gd.N hr C;exact C4 gd (λ_ _ e=>by cases e) b__.1 an (λy P=>GZ ⟨_,_,_,c__⟩ b__ P) r rs h
      simp at h
     .rename_i size len zero idx t l c c__;split at E
      .rename_i aG;obtain⟨aH,rfl,rfl⟩:=aG;obtain⟨az,a__,rfl⟩:=ζf.1 E;unfold ox at h;split at h
       next L B=>have⟨ys,C,rs⟩:=rA gd.N r.slot a__ B;have b__:=kY gd.N hr C;exact C4 gd (λ_ _ e=>by cases e) b__.1 an (λy P=>Gb ⟨_,_,_,c__⟩ b__ aH P) r rs h
       simp at h
      obtain⟨az,a__,rfl⟩:=ζf.1 E;unfold ox at h;split at h
      next L B=>have⟨ys,C,rs⟩:=rA gd.N r.slot a__ B;have b__:=kY gd.N hr C;exact C4 gd (λ_ _ e=>by cases e) b__.1 an (λy P=>FQ ⟨_,_,_,c__⟩ b__ P) r rs h
      simp at h
     cases E
    rename_i ah;have al:qv X.E ops place=O:=by cases place with|none=>rfl|some d__=>have⟨b,j⟩:=d__;have I:=hi b j _l;cases ax:GM X.E ops j with|false=>exact ax|true=>exact _e (by rw[G,<-I,ax];rfl) ah
    rcases Hs dr ops i k os with⟨hq,aI⟩|⟨u,ao,n,a,l,aT,rfl,rfl,aJ,hq⟩|⟨u,ao,n,ag,a,rfl,rfl,hq⟩|⟨u,ao,aK,n,rfl,hq⟩
    rotate_left
    .rw[hq]at E;obtain⟨az,a__,rfl⟩:=ζf.1 E;unfold ox at h;split at h
     .rename_i L B;have⟨ys,C,rs⟩:=rA gd.N r.slot a__ B;simp only[u,Bool.not_true,Bool.false_or,N']at h;have⟨y,H',ν',e1,e2,e3,e4,e5⟩:=E3 r rs h;refine⟨0,y,H',ν',Z,λq _=>?_,e2,e3,e4.weak (λ_ h=>h.elim),λ_=>⟨_l,e5⟩⟩
      cases place with
      |none=>rw[G]at u;cases u|some d__=>have⟨b,j⟩:=d__;have I:=hi b j _l;subst I;exact aaI gd hr C aJ ao e1
     simp at h
    .rw[hq]at E;obtain⟨az,a__,rfl⟩:=ζf.1 E;unfold ox at h;split at h
     .rename_i L B;have⟨ys,C,rs⟩:=rA gd.N r.slot a__ B;simp only[u,Bool.not_true,Bool.or_self,Bool.false_or]at h;split at h
      .rename_i ap;have⟨x,hx,e⟩:=ζf.1 h;simp only[ζc]at e;obtain⟨rfl,rfl⟩:=e
       cases place with
       |none=>rw[G]at u;cases u|some d__=>have⟨b,j⟩:=d__;have I:=hi b j _l;subst I;have⟨ay,aq,ai⟩:=K b j _l;rw[u];exact YL gd hr C rs ap ay aq ai r hx
      simp at h
     simp at h
    .rw[hq]at E;obtain⟨az,a__,rfl⟩:=ζf.1 E;unfold ox at h;split at h
     rotate_left
     .simp at h
     rename_i L B;have⟨ys,C,rs⟩:=rA gd.N r.slot a__ B;simp only at h;have key:∃e x,(e=V.bN\/e=V.dS)/\L=[.v e,x]/\mO st o.dst (.append n) L=M (sv,e?):=by split at h;exact⟨_,_,.inl _l,_l,h⟩;exact⟨_,_,.inr _l,_l,h⟩;cases h
     obtain⟨e,x,he,rfl,hl⟩:=key;have⟨y,H',ν',e1,e2,e3,e4,e5⟩:=E3 r rs hl;have⟨g1,g2⟩:=kY gd.N hr C;refine⟨0,y,H',ν',Z,λq _=>?_,e2,e3,e4.weak (λ_ h=>h.elim),λ_=>⟨_l,e5⟩⟩
     obtain⟨y1,zs,rfl,f1,f2⟩:=rs.inv;have aL:y1=.bN\/y1=.dS:=by cases f1 with|v _ _ hf=>rcases he with rfl|rfl<;>first|exact .inl hf.bN|exact .inr hf.dS
     cases place with
     |none=>rw[G]at u;cases u|some d__=>have⟨b,j⟩:=d__;have I:=hi b j _l;subst I;have⟨r1,r2⟩:=HJ hr C aL;exact S8 r1 (by rw[<-gd.E];exact g2 _ _ e1) (.inr ⟨aK,r2,(K b j _l).1⟩)
    rw[hq]at E;obtain⟨az,a__,rfl⟩:=ζf.1 E;unfold ox at h;split at h
    .rename_i L B;have⟨ys,C,rs⟩:=rA gd.N r.slot a__ B;have D:=kY gd.N hr C;simp only at h
     cases k with
     |p p=>
      cases p with
      |slice size lo hi=>
       simp only at h;split at h
       .rename_i d bs;split at h
        .simp at h
        rename_i ar;have⟨y,ν',h1,h2,h3,h4⟩:=RD (N:=S.N) (Rv:=λid=>∃b j,place=M (b,j)/\id=b+j) r rs h
        have⟨g1,g2⟩:=D;exact⟨0,y,H,ν',Z,λq _=>by unfold dw;rw[g1];simp only[<-gd.E,B1 (g2 y h1),A?],h2,h3,h4,λhd=>_e hd ar⟩
       exact Sr gd A r rs D h
      |_=>exact Sr gd A r rs D h
     |r q=>
      simp only at h;split at h
      .rename_i W;have⟨x,hx,e⟩:=ζf.1 h;simp only[ζc]at e;obtain⟨rfl,rfl⟩:=e;have⟨g1,g2⟩:=D;have au:∀kk z ok,q=.lookup kk z ok->z.good=U:=λkk z ok e=>by subst e;simpa[DN]using A
       have ab:∀s a,q≠.loadF s a:=λs a e=>by subst e;exact Ka hr
       cases place with
       |none=>
        have⟨y,P,ad⟩:=ze ab au rs (λd _ ob hd=>r.obj d ob hd) hx
        exact⟨0,y,H,ν,Z,λq _=>by unfold dw;rw[g1];simp only[<-gd.E,g2 H y P,A?],r,ad,.refl,λ_=>⟨rfl,.refl⟩⟩
       |some d__=>
        have⟨b,j⟩:=d__;have⟨ay,aq,ai⟩:=K b j _l;have u:dr=U:=G;subst u;have I:=hi b j _l;subst I;simp only[Bool.not_true,Bool.false_or,Bool.true_and]at W;have aA:qD ops j F o.op=U:=Ss hr λn ag a' e1 e2 t e3=>by by_cases Q:ez ops j=U;exact Gl (aF b j _l) e3 Q;exact aI n ag a' _l (by simpa using Q) e1 e2
        by_cases Q:ez ops j=U
        .have⟨y,P,ad⟩:=ze ab au rs (λd _ ob hd=>r.obj d ob hd) hx
         have hH:=g2 H y P;refine⟨0,y,H,ν,Z,λq _=>?_,r,ad,.refl,λ_=>⟨_l,.refl⟩⟩
         unfold dw;rw[g1];simp only[<-gd.E,aA,N'];split
         next v hv=>have:=B5 hv;rw[hH]at this;cases this;rfl
         rw[L' Q,hH];rfl
        have ap:gw fr L=U:=by simpa[Q]using W
        have aa:∀id,Z id->Z id/\bz (H.take b) id=bz H id:=λid h=>⟨h,qe (ai id h)⟩
        have aB:∀id,Z id->Z id/\bz H id=bz (H.take b) id:=λid h=>⟨h,(qe (ai id h)).symm⟩
        have⟨y,P,ad⟩:=ze (H:=H.take b) ab au (rs.mono aa λe _=>kJ ν st.m e) (λd hd ob aC=>by
         have ab:d∉fr:=λhf=>by rw[qx ap d hf]at hd;cases hd
         exact dy.mono aa _l (λj hb=>List.getElem?_take_of_lt (aq d ob j aC hb ab)) (λe _=>kJ ν st.m e) (r.obj d ob aC)) hx
        refine⟨0,y,H,ν,Z,λq _=>?_,r,ad.mono aB (λe _=>kJ ν st.m e),.refl,λ_=>⟨_l,.refl⟩⟩
        unfold dw;rw[g1];simp only[<-gd.E,g2 (H.take b) y P,aA,N']
      simp at h
     |a q=>
      simp only at h;split at h
      .rename_i d hd;split at h
       .rename_i Y;have⟨⟨ob,x⟩,hx,e⟩:=ζf.1 h;simp only[ζc]at e;obtain⟨rfl,rfl⟩:=e;have⟨ae,mk,e1,e2,T,e3,e4⟩:=Te A rs hx;have⟨g1,g2⟩:=D;have⟨n1,n2,n3,n4⟩:=l9 Y;have av:∀p:Nat×Nat,∀e,SV.dX e L=U->∀aj,bk (bJ st.m d ob) e=M aj->∃ob,bk st.m e=M ob/\jd ν d p e=ν e/\sameShape ob aj:=λp e he=>by
         refine BS ?_;rintro rfl;have:∀{xs:QR}{vs:SW},b9 S.N st.g xs=M vs->SV.dX e vs=O:=by intro xs;induction xs with|nil=>intro vs h;simp only[b9,ζa]at h;subst h;rfl|cons a xs ih=>intro vs h;simp only[b9]at h;split at h;rename_i v aU h1 h2;simp only[ζa]at h;subst h;simp only[SV.dX,h!];refine⟨?_,ih h2⟩;(cases a with|s n=>exact BL n3 h1|k c=>simp only[tO,ζa]at h1;subst h1;rfl|f s=>simp only[tO,ζa]at h1;subst h1;rfl);simp at h
         rw[this B]at he;cases he
        have fin:∀(id:Nat)(Hn:bt),_m H<=_m Hn->Hn[id]?=M ae->(∀k,k<_m H->k≠id->Hn[k]?=H[k]?)->(∀k,gj ν st.m k->k≠id)->(∀k,Z k->k≠id)->
         R (jd ν d (id,0)) Z {st with m:=bJ st.m d ob} F Hn/\di (jd ν d (id,0)) (bJ st.m d ob) Hn Z x (mk.val id)/\(∀k,Z k->bz Hn k=bz H k):=λid Hn hl aM b__ ho hz=>by
         have aa:∀k,Z k->bz Hn k=bz H k:=λk A=>by unfold bz;rw[b__ k (r.xD A) (hz k A)]
         have⟨a1,a2⟩:=e4 id (jd ν d (id,0)) (bJ st.m d ob) Hn (jH _ _ _) (cD _ _ _) aM aa (av _);have r2:R ν Z st F Hn:=r.heap (λk A=>b__ k (r.lt A) (ho k A)) aa
         exact⟨r2.add Y (λ_=>⟨λh=>ho _ h _l,λh=>hz _ h _l⟩) a1 T,a2,aa⟩
        have aD:o.dst=M d:=hd
        cases place with
        |none=>
         have⟨f1,f2,f3⟩:=fin (_m H) (H++[ae]) f? f? (λk A _=>u? A) (λk A=>Nat.ne_of_lt (r.lt A)) (λk A=>Nat.ne_of_lt (r.xD A))
         refine⟨0,mk.val (_m H),H++[ae],jd ν d (_m H,0),Z,λq _=>?_,f1,f2,Ev.add Y f? (λk A _=>u? A) f3 (λ_=>.inr (x? _)) T,λhh=>?_⟩
         .unfold dw;rw[g1];simp only[al,v?,_a,<-gd.E,g2 _ e1]
         rw[G]at hh;cases hh
        |some d__=>
         have⟨b,j⟩:=d__;have hf:=am b j _l g1;have aN:=(ζe.1 hf).1;have nf:∀k,gj ν st.m k->k≠b+j:=λk A e=>by subst e;have⟨d',aj,j',w1,w2,w3⟩:=A;exact(r.obj d' aj w1).free w2 (w3▸hf)
         have nz:∀k,Z k->k≠b+j:=λk A e=>by subst e;have:=r.zrow _ A;unfold bz at this;rw[hf]at this;simp[Ob.rows]at this
         have⟨f1,f2,f3⟩:=fin (b+j) (H.set (b+j) ae) f? (by rw[Q? aN]) (λk _ A=>by rw[D?,M' (Ne.symm A)]) nf nz
         refine⟨0,mk.val (b+j),H.set (b+j) ae,jd ν d (b+j,0),Z,λq _=>?_,f1,f2,Ev.add Y f? (λk _ A=>?_) f3 (λ_=>.inl ⟨b,j,_l,_l⟩) T,λ_=>⟨_l,?_⟩⟩
         .unfold dw;rw[g1];simp only[al,v?,_a,<-gd.E,g2 _ e1,hf]
         .rw[D?,M' λe=>A ⟨b,j,_l,e.symm⟩]
         have:Bl ⟨o.dst,g,dr&&ez ops j,.a q,az,[],[]⟩=M d:=aD;have I:=hi b j _l;subst I;rw[this];exact Kept.add λ_ _ h=>h
       simp at h
      simp at h
     |l q=>
      simp only at h;split at h
      .rename_i W;have⟨y,H',ν',e1,e2,e3,e4,e5⟩:=E3 r rs h;have⟨g1,g2⟩:=D;refine⟨0,y,H',ν',Z,λq _=>?_,e2,e3,e4.weak (λ_ h=>h.elim),λ_=>⟨_l,e5⟩⟩
       unfold dw;rw[g1];simp only[<-gd.E]
       cases place with
       |none=>exact g2 _ _ e1|some d__=>
        have⟨b,j⟩:=d__;have u:dr=U:=G;subst u;have I:=hi b j _l;subst I;have Q:ez ops j=U:=by simpa using W
        simp only[Q,N'];exact g2 _ _ e1
      simp at h
     |e n=>exact D.elim|b=>
      simp only at h;split at h
      .cases h
      rename_i ar;have aO:dr=O:=by simpa using ar
      have aP:place=J:=by cases place with|none=>rfl|some d__=>rw[aO]at G;simp at G
      subst aP;split at h
      next x=>have⟨xs,h1,h2⟩:=ζg.1 h;have⟨l,h3,e⟩:=ζf.1 h2;simp only[ζc]at e;obtain⟨rfl,rfl⟩:=e;have⟨g1,y,e1,g2⟩:=D;have⟨y',_,e2,r1,r2⟩:=rs.inv;rw[e1]at e2;cases e2;have⟨zs,k1,k2⟩:=xW r1 r.obj h1;have hz:nY zs=M l:=Cq k2 h3;have⟨q1,q2⟩:=g2 H zs l k1 hz;exact⟨0,_,H,ν,Z,λq _=>by unfold dw;rw[g1];simp only[vS,<-gd.E,q1,q2,A?],r,.v _ _ (.same _ _l),.refl,λ_=>⟨_l,.refl⟩⟩
      cases h
     |c=>
      simp only at h;have⟨g1,f',aV,e1,e2⟩:=D;have go:∀(f:Y')(args:SW)(ak:So),cr ν st.m H Z args ak->mg F o.op=M (.fn f,ak)->e_ S c o.dst dr (!dr||(dr&&ez ops i)) (gm st.m fr) f args st=M (sv,e?)->
       GO S ops place dr F o.op (Bl ⟨o.dst,g,dr&&ez ops i,.c,az,[],[]⟩) ν Z st H sv e?:=λf args ak aQ aE aR=>by
       have⟨n,y,H',ν',Z',p1,p2,p3,p4,p5⟩:=UB (ops:=ops) (Rv:=λid=>∃b j,place=M (b,j)/\id=b+j) hS gd.prm G (λb j hp hn=>by
        have:=hi b j hp;subst this;simp only[ζh]at hn;exact hn.2) (λb j hp hn=>by have:=hi b j hp;subst this;rw[G,hp]at hn;simpa using hn) (λb j hp=>(K b j hp).2) r aQ aR
       refine⟨n,y,H',ν',Z',λq hq=>?_,p2,p3,p4,p5⟩
       have aS:zm ops place ak=U:=by cases place with|none=>rfl|some d__=>simp only[zm,hi _ _ _l,aw G g1];rfl
       unfold dw;rw[g1];simp only[aE,aS,N'];exact p1 q hq
      split at h
      next f a b vs=>have⟨w,ws,ew,r1,r2⟩:=rs.inv;rw[ew]at e1;simp only[List.cons.injEq]at e1;obtain⟨rfl,rfl⟩:=e1;obtain⟨a',b',rfl,ra,rb⟩:=r1.mC;exact go f _ _ ((ra.append r2).append rb) e2 h
      next f a b vs=>have⟨w,ws,ew,r1,r2⟩:=rs.inv;rw[ew]at e1;simp only[List.cons.injEq]at e1;obtain⟨rfl,rfl⟩:=e1;obtain⟨a',b',rfl,ra,rb⟩:=r1.fr.mC;exact go f _ _ (((cr.tg ra).append r2).append (cr.tg rb)) e2 h
      simp at h
    simp at h
   simp at E
  simp at E
 simp at E
end
end Go.VE
