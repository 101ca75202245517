/- Objects. -/
import Derived.Test.YtjlclfccbcbibaaGreatDoorV2
set_option linter.all false
open List(all_eq_true drop_drop drop_zero getElem?_append_left getElem?_append_right getElem?_drop getElem?_set getElem?_set_ne getElem?_set_self getElem?_take length_eq_zero_iff mem_cons mem_iff_getElem? mem_of_getElem? replicate take_length)
open Bool(false_eq_true not_eq_true' or_eq_false_iff or_eq_true)
open Option(isSome_iff_exists map_some)
open Nat(le_max_left le_max_right le_refl le_trans)
open Prod(fst)
namespace Go.VE
variable[bT]
inductive Fl where|nil|emp|row|part
 deriving DecidableEq,Inhabited
inductive SV where
 |v(x:V)|own(d:Nat)|ptr(d off:Nat)|el(d i off:Nat)|mp(d:Nat)|clo(f:FuncId)(a b:List SV)|tup(l:List SV)|agg(l:List SV)|yl(id:Nat)
 deriving Inhabited
abbrev ST:=aX SV
inductive bB where
 |sl(k:Fl)(es:Nat)(xs:List (List V))|box(cs:List SV)|mp(kvs:List (V×V))|dp(k:Fl)(xs:List (List V))(h:Option (Nat×Nat))
abbrev Tb(α:Type):=aX (Nat×α)
def bh{α:Type}:Tb α->Nat->aY α
 |[],_=>none|(k,v)::r,n=>if k=n then some v else bh r n
def bF{α:Type}:Tb α->Nat->α->Tb α
 |[],n,v=>[(n,v)]|(k,x)::r,n,v=>if k=n then(k,v)::r else(k,x)::bF r n v
def dL{α:Type}(n:Nat):Tb α->Tb α
 |[]=>[]|(k,x)::r=>if k=n then dL n r else(k,x)::dL n r
def qp{α:Type}:So->Tb α->Tb α
 |[],g=>g|d::ds,g=>qp ds (dL d g)
def ye{α:Type}:Tb α->So->aX α->Tb α
 |g,p::ps,v::vs=>ye (bF g p v) ps vs|g,_,_=>g
def kD{α:Type}(g:Tb α):So->aY (Tb α)
 |[]=>some []|n::r=>match bh g n,kD g r with
  |some v,some t=>some ((n,v)::t)|_,_=>none
structure St where
 g:Tb SV
 m:Tb bB
 pin:List Nat
 want:List (List V)
 more:Bool
 yid:Nat
structure Hu where
 part:Bool
 go:Nat->List (List V)->List V->Option (List (List V))
structure Sys where
 E:Env
 N:Nat->FuncId
 items:FuncId->List V->List V->Option (List (List V))
 zC:FuncId->List V->Option V
 prm:FuncId->Option Hu
inductive Arg where
 |s(n:Nat)|k(c:V)|f(name:Nat)
abbrev QP:=aX Arg
inductive Loc where
 |s(n:Nat)|c(b i:Nat)
inductive Gh where
 |melt(d:Nat)|take(d:Nat)(i:Loc)(es t:Nat)|put(d:Nat)|close(d:Nat)|closeB(d:Nat)|canon(l:Loc)(d:Nat)(es:Nat)|keep(gs ms:List Nat)|drop(ds:List Nat)|closeS(l:Loc)
abbrev QQ:=aX Gh
structure RO where
 dst:Option Nat
 gd:Option (Nat×Bool)
 now:Bool
 k:K
 az:List Arg
 dead:List Nat:=[]
 pre:List Gh:=[]
abbrev R':=aX RO
inductive RC where
 |skip|ops(l:List RO)|ua(l:List RO)|seq(a b:RC)|cond(x:Arg)(a b:RC)|block(id:Nat)(c:RC)|loop(c:RC)|each(g:Arg)(ps:List Nat)(a b:RC)|exit(id:Nat)|ret|gh(x:Gh)(c:RC)|hg(c:RC)(x:Gh)
inductive RV where
 |s(n:Nat)|ld(n size:Nat)(agg:Bool)
abbrev QR:=aX RV
structure RF where
 na:Nat
 rs:List RV
 body:RC
mutual
def SV.cM(d:Nat):SV->X'
 |.v _=>false|.own e=>e==d|.ptr e _=>e==d|.el e _ _=>e==d|.mp e=>e==d|.clo _ a b=>SV.dF d a||SV.dF d b|.tup l=>SV.dF d l|.agg l=>SV.dF d l|.yl _=>false
def SV.dF(d:Nat):ST->X'
 |[]=>false|x::r=>SV.cM d x||SV.dF d r
end
def bB.cM(d:Nat):bB->X'
 |.box cs=>SV.dF d cs|.dp _ _ (some (_,t))=>t==d|_=>false
def vA(d:Nat):Tb SV->X'
 |[]=>false|(_,x)::r=>SV.cM d x||vA d r
def uC(d:Nat):Tb bB->X'
 |[]=>false|(_,x)::r=>bB.cM d x||uC d r
def St.new(st:St)(d:Nat):X':= !(st.pin.contains d)&&(bh st.m d).isNone&& !(vA d st.g)&& !(uC d st.m)
mutual
def SV.tu(d e:Nat):SV->SV
 |.v x=>.v x|.own k=>.own (if k=d then e else k)|.ptr k o=>.ptr (if k=d then e else k) o|.el k i o=>.el (if k=d then e else k) i o|.mp k=>.mp (if k=d then e else k)|.clo f a b=>.clo f (SV.wG d e a) (SV.wG d e b)|.tup l=>.tup (SV.wG d e l)|.agg l=>.agg (SV.wG d e l)|.yl id=>.yl id
def SV.wG(d e:Nat):ST->ST
 |[]=>[]|x::r=>SV.tu d e x::SV.wG d e r
end
def bB.tu(d e:Nat):bB->bB
 |.box cs=>.box (SV.wG d e cs)|.dp k xs (some (i,t))=>.dp k xs (some (i,if t=d then e else t))|o=>o
def A4(d e:Nat):Tb SV->Tb SV
 |[]=>[]|(n,x)::r=>(n,x.tu d e)::A4 d e r
def wD(d e:Nat):Tb bB->Tb bB
 |[]=>[]|(n,x)::r=>((if n=d then e else n),x.tu d e)::wD d e r
mutual
def SV.sub(d:Nat)(w:V):SV->SV
 |.own k=>if k=d then .v w else .own k|.clo f a b=>.clo f (SV.uR d w a) (SV.uR d w b)|.tup l=>.tup (SV.uR d w l)|.agg l=>.agg (SV.uR d w l)|x=>x
def SV.uR(d:Nat)(w:V):ST->ST
 |[]=>[]|x::r=>SV.sub d w x::SV.uR d w r
end
def dy:ST->aY S'
 |[]=>some []|.v x::r=>(dy r).map (x::·)|_::_=>none
def Tw(f:Y')(a b:ST):SV:=
 match dy a,dy b with
 |some x,some y=>.v (.clo f x y)|_,_=>.clo f a b
mutual
def SV.C8(d:Nat)(cs:S'):SV->SV
 |.ptr k o=>if k=d then(if o<=cs.length then .v (.fptr (cs.drop o))else .ptr k o)else .ptr k o|.clo f a b=>Tw f (SV.sL d cs a) (SV.sL d cs b)|.tup l=>.tup (SV.sL d cs l)|.agg l=>.agg (SV.sL d cs l)|x=>x
def SV.sL(d:Nat)(cs:S'):ST->ST
 |[]=>[]|x::r=>SV.C8 d cs x::SV.sL d cs r
end
def BW(f:SV->SV):Tb SV->Tb SV
 |[]=>[]|(n,x)::r=>(n,f x)::BW f r
def mapM(f:ST->ST):Tb bB->Tb bB
 |[]=>[]|(n,.box cs)::r=>(n,.box (f cs))::mapM f r|(n,o)::r=>(n,o)::mapM f r
mutual
def SV.names:SV->So
 |.own d|.ptr d _|.el d _ _|.mp d=>[d]|.clo _ a b=>SV.xL a++SV.xL b|.tup l=>SV.xL l|.agg l=>SV.xL l|_=>[]
def SV.xL:ST->So
 |[]=>[]|x::r=>SV.names x++SV.xL r
end
def qE:Tb SV->So
 |[]=>[]|(_,x)::r=>SV.names x++qE r
def kg(k:Fl)(es:Nat)(xs:T2):V:=
 match k with
 |.nil=>.bG|.emp=>.dH|_=>.fsl es xs
mutual
def V.lvl:Nat->V->X'
 |n,.fsl _ xs=>match n with|0=>false|n+1=>V.qo n xs
 |n,.fptr cs=>match n with|0=>false|n+1=>V.me n cs
 |n,.fmap B=>match n with|0=>false|n+1=>V.uu n B
 |n,.agg cs=>match n with|0=>false|n+1=>V.me n cs
 |n,.tup cs=>match n with|0=>false|n+1=>V.me n cs
 |n,.clo _ a b=>match n with|0=>false|n+1=>V.me n a&&V.me n b
 |_,_=>true
def V.me:Nat->S'->X'
 |_,[]=>true|n,x::r=>V.lvl n x&&V.me n r
def V.qo:Nat->T2->X'
 |_,[]=>true|n,x::r=>V.me n x&&V.qo n r
def V.uu:Nat->aX (V×V)->X'
 |_,[]=>true|n,(k,x)::r=>V.lvl n k&&V.lvl n x&&V.uu n r
end
mutual
def shut(m:Tb bB):Nat->SV->aY V
 |_,.v x=>some x|_,.own d=>match bh m d with
  |some (.sl k es xs)=>some (kg k es xs)|some (.dp k xs none)=>some (kg k 1 xs)|_=>none
 |n+1,.ptr d o=>match bh m d with
  |some (.box cs)=>match di m n cs with
   |some xs=>if o<=xs.length then some (.fptr (xs.drop o))else none|none=>none
  |_=>none
 |_,.mp d=>match bh m d with
  |some (.mp B)=>some (.fmap B)|_=>none
 |n+1,.clo f a b=>match di m n a,di m n b with
  |some x,some y=>some (.clo f x y)|_,_=>none
 |n+1,.tup l=>(di m n l).map .tup|n+1,.agg l=>(di m n l).map .agg|_,_=>none
def di(m:Tb bB):Nat->ST->aY S'
 |_,[]=>some []|n,x::r=>match shut m n x,di m n r with
  |some y,some s=>some (y::s)|_,_=>none
end
end Go.VE
namespace Go.VE
variable[bT]
mutual
def V.good:V->X'
 |.hsl ..|.hptr ..|.yld ..|.hmap ..=>false|.fsl _ xs=>V.nR xs|.fptr cs=>V.cQ cs|.fmap B=>V.uB B|.clo _ a b=>V.cQ a&&V.cQ b|.agg cs=>V.cQ cs|.tup cs=>V.cQ cs|_=>true
def V.cQ:S'->X'
 |[]=>true|x::r=>V.good x&&V.cQ r
def V.nR:T2->X'
 |[]=>true|x::r=>V.cQ x&&V.nR r
def V.uB:aX (V×V)->X'
 |[]=>true|(k,x)::r=>V.good k&&V.good x&&V.uB r
end
abbrev dB:=Tb bB
abbrev bX:=FuncId->aX SV->dB->aY (aX SV×dB)
def rU(N:Nat->Y')(g:Tb SV):Arg->aY SV
 |.s n=>bh g n|.k c=>some (.v c)|.f s=>some (.v (.clo (N s) [] []))
def bW(N:Nat->Y')(g:Tb SV):QP->aY ST
 |[]=>some []|x::r=>match rU N g x,bW N g r with
  |some v,some vs=>some (v::vs)|_,_=>none
def bY:Fl->X'
 |.row|.part=>true|_=>false
def nu(m:Tb bB):SV->X'
 |.own d|.ptr d _|.el d _ _|.mp d=>(bh m d).isSome|.clo ..=>true|_=>false
def Aq(m:Tb bB):SV->X'
 |.v x=>x.one|x=>nu m x
def Jn(m:Tb bB):SV->aY ST
 |.v x=>some (x.cells.map .v)|.agg l=>some l|x=>if nu m x then some [x]else none
def AH(m:Tb bB)(cells:ST):aX (Nat×Nat)->ST->aY ST
 |[],[]=>some cells|(off,size)::pl,v::vs=>match Jn m v with
  |some c=>if c.length=size/\off+c.length<=cells.length then AH m (cells.take off++c++cells.drop (off+c.length)) pl vs else none|none=>none
 |_,_=>none
def wO(size:Nat)(agg:X')(cs:ST):aY SV:=
 if cs.length=size then
  if agg then match dy cs with
   |some u=>some (.v (.agg u))|none=>some (.agg cs)
  else match cs with
   |[x]=>some x|_=>none
 else none
def B2(N:Nat->Y')(m:Tb bB):v7->ST->aY SV
 |.id,[x]=>some x|.nilc,[.ptr d o]=>if(bh m d).isSome then some (.ptr d o)else none|.nilc,[.el d i o]=>if(bh m d).isSome then some (.el d i o)else none|.pick,[.v (.bool t),a,b]=>some (if t then a else b)|.bin (some .slice) _ .eql,[.own d,.v .bG]=>match bh m d with
  |some (.sl k _ _)=>if k=.emp then none else some (.v (.bool (k==.nil)))|_=>none
 |.bin (some .slice) _ .neq,[.own d,.v .bG]=>match bh m d with
  |some (.sl k _ _)=>if k=.emp then none else some (.v (.bool (!(k==.nil))))|_=>none
 |.fieldAddr off,[.ptr d o]=>if(bh m d).isSome then some (.ptr d (o+off))else none|.fieldAddr off,[.el d i o]=>if(bh m d).isSome then some (.el d i (o+off))else none|.idxS size,[.own d,.v (.int _ i)]=>match bh m d with
  |some (.sl k es xs)=>if bY k/\es=size/\0<=i/\i.toNat<xs.length then some (.el d i.toNat 0)else none|some (.dp k xs _)=>if bY k/\1=size/\0<=i/\i.toNat<xs.length then some (.el d i.toNat 0)else none|_=>none
 |.idxA len size,[.ptr d o,.v (.int _ i)]=>if 0<=i/\i<len/\(bh m d).isSome then some (.ptr d (o+i.toNat*size))else none|.idxA len size,[.el d j o,.v (.int _ i)]=>if 0<=i/\i<len/\(bh m d).isSome then some (.el d j (o+i.toNat*size))else none|.lenSl,[.own d]=>match bh m d with
  |some (.sl _ _ xs)=>some (.v (.int .i64 xs.length))|some (.dp _ xs _)=>some (.v (.int .i64 xs.length))|_=>none
 |.clo name k,vs=>some (.clo (N name) (vs.take k) (vs.drop k))|.ext i,[.tup l]=>l[i]?|.build zero pl,vs=>(AH m (zero.map .v) pl vs).map .agg|.field off size agg,[.agg l]=>wO size agg ((l.drop off).take size)|_,_=>none
def kG(N:Nat->Y')(m:Tb bB)(p:v7)(svs:ST):aY SV:=
 match dy svs with
 |some u=>(bN N p u).map .v|none=>B2 N m p svs
def No(m:Tb bB)(d:Nat):SV->X'
 |.ptr B _=>B != d&&(match bh m B with|some (.box _)=>true|_=>false)|.v (.fptr _)=>true|_=>false
def qt(m:Tb bB):Mj->ST->aY SV
 |.load size agg,[.ptr d o]=>match bh m d with
  |some (.box cs)=>wO size agg ((cs.drop o).take size)|_=>none
 |.load size agg,[.el d i o]=>match bh m d with
  |some (.sl _ _ xs)=>match xs[i]?with
   |some cs=>((cut cs o size).bind (mk agg)).map .v|none=>none
  |some (.dp _ _ (some (j,t)))=>if j=i/\o=0/\size=1/\agg=false then some (.own t)else none|_=>none
 |.load size agg,[.v p]=>((eN [] p size).bind (mk agg)).map .v|.lookup kk z ok,[.mp d,.v k]=>match bh m d with
  |some (.mp B)=>if qX kk k then match i_ k B 0 with
   |some (some (_,v))=>some (.v (if ok then .tup [v,.bool true]else v))|some none=>some (.v (if ok then .tup [z,.bool false]else z))|none=>none
   else none
  |_=>none
 |.lookup kk z ok,[.v p,.v k]=>(fq [] (.lookup kk z ok) [p,k]).map .v|.loadF size agg,.ptr d o::l=>if l.all (No m d)=true then match bh m d with
  |some (.box cs)=>wO size agg ((cs.drop o).take size)|_=>none
  else none
 |_,_=>none
def fD(fr:So):ST->X'
 |[]=>true|.v _::r=>fD fr r|.ptr d _::r=> !(fr.contains d)&&fD fr r|.el d _ _::r=> !(fr.contains d)&&fD fr r|.mp d::r=> !(fr.contains d)&&fD fr r|_=>false
def qV(m:Tb bB)(a:Qo)(svs:ST)(d:Nat):aY (bB×SV):=
 match a,svs with
 |.alloc _ zero,[]=>some (.box (zero.map .v),.ptr d 0)|.box,[.v x]=>if x.cells.all V.one then some (.box (x.cells.map .v),.ptr d 0)else none|.box,[.agg l]=>if l.all (Aq m)then some (.box l,.ptr d 0)else none|.box,[x]=>if nu m x then some (.box [x],.ptr d 0)else none|.makeSl size zero,[.v (.int k n),.v (.int z c)]=>if k=.i64/\z=.i64/\0<=n/\n<=c/\c<=2147483648 then some (.sl (if n=c then .row else .part) size (replicate n.toNat zero),.own d)else none|.buildSl size len zero idx,u=>match dy u with
  |some w=>if idx.length=w.length then(fK size (replicate len zero) (idx.zip w)).map λB=>(.sl .row size B,.own d)else none|none=>match u,zero with
   |[.own t],[.bG]=>if idx=[0]/\len=1/\size=1/\(bh m t).isSome then some (.dp .row [[.bG]] (some (0,t)),.own d)else none|_,_=>none
 |.makeMap,[]=>some (.mp [],.mp d)|_,_=>none
def je(m:Tb bB)(size:Nat):SV->aY T2
 |.own d=>match bh m d with
  |some (.sl k es xs)=>if bY k then(if es=size then some xs else none)else some []|_=>none
 |.v .bG=>some []|.v .dH=>some []|.v (.fsl es xs)=>if es=size then some xs else none|_=>none
def KO:SV->X'
 |.own _|.v .bG|.v .dH=>true|_=>false
def putCells(m:Tb bB)(size o:Nat)(sv:SV)(cs:ST):aY ST:=
 match sv with
 |.v x=>if x.cells.length=size/\o+size<=cs.length/\x.cells.all V.one=true then some (cs.take o++x.cells.map .v++cs.drop (o+size))else none|.agg l=>if l.length=size/\o+size<=cs.length/\l.all (Aq m)=true then some (cs.take o++l++cs.drop (o+size))else none|x=>if nu m x=true/\size=1/\o+1<=cs.length then some (cs.take o++[x]++cs.drop (o+1))else none
def giveUp(m:Tb bB):SV->Tb bB
 |.own d=>dL d m|_=>m
def KI(st:St)(dst:aY Nat)(size:Nat)(s x:SV):aY (SV×St):=
 match s,x,dst with
 |.own d,.own e,some t=>match bh st.m d,bh st.m e with
  |some (.dp k w none),some (.dp .row u none)=>
   if size=1/\d≠e/\u≠[]/\w.length+u.length<=2147483648 then
    let z:=dL e (dL d st.m)
    if St.new {st with m:=z} t then some (.own t,{st with m:=bF z t (.dp .row (w++u) none)})else none
   else none
  |_,_=>none
 |_,_,_=>none
def nh(st:St)(dst:aY Nat):L_->ST->aY (SV×St)
 |.store size,[.ptr d o,x]=>match bh st.m d with
  |some (.box cs)=>(putCells st.m size o x cs).map λcs=>(.v .undef,{st with m:=bF st.m d (.box cs)})|_=>none
 |.store size,[.el d i o,.v x]=>match bh st.m d with
  |some (.sl k es xs)=>match xs[i]?with
   |some cs=>if x.cells.length=size/\o+size<=cs.length/\x.cells.all V.one=true then
    some (.v .undef,{st with m:=bF st.m d (.sl k es (xs.set i (cs.take o++x.cells++cs.drop (o+x.cells.length))))})else none
   |none=>none
  |_=>none
 |.store size,[.el d i o,.own t]=>match bh st.m d with
  |some (.dp k xs (some (j,_)))=>if j=i/\o=0/\size=1/\(bh st.m t).isSome/\t≠d then some (.v .undef,{st with m:=bF st.m d (.dp k xs (some (i,t)))})else none|_=>none
 |.mapUp kk,[.mp d,.v k,.v x]=>match bh st.m d with
  |some (.mp B)=>if qX kk k then(qJ k x B).map λB=>(.v .undef,{st with m:=bF st.m d (.mp B)})else none|_=>none
 |.append size,[s,x]=>match je st.m size s,je st.m size x with
  |some _,some []=>match dst with
   |some t=>match s with
    |.own d=>match bh st.m d with
     |some ob=>if St.new {st with m:=dL d st.m} t then some (.own t,{st with m:=bF (dL d st.m) t ob})else none|none=>none
    |.v .bG=>if st.new t then some (.own t,{st with m:=bF st.m t (.sl .nil size [])})else none|.v .dH=>if st.new t then some (.own t,{st with m:=bF st.m t (.sl .emp size [])})else none|_=>none
   |none=>none
  |some xs,some ys=>
   if xs.length+ys.length<=2147483648/\KO s=true then
    let m1:=giveUp st.m s
    match dst with
    |some t=>if St.new {st with m:=m1} t then some (.own t,{st with m:=bF m1 t (.sl .row size (xs++ys))})else none|none=>none
   else none
  |_,_=>KI st dst size s x
 |.storeF size,.ptr d o::x::l=>if l.all (No st.m d)=true then match bh st.m d with
  |some (.box cs)=>(putCells st.m size o x cs).map λcs=>(.v .undef,{st with m:=bF st.m d (.box cs)})|_=>none
  else none
 |_,_=>none
def BO(st:St)(dst:aY Nat)(size:Nat)(lo hi:X')(d:Nat)(B:ST):aY (SV×St):=
 match bh st.m d,dy B,dst with
 |some (.sl k es u),some z,some t=>
  if bY k=true/\es=size then
   (nq lo hi z).bind λ(l,h)=>(ec u.length l h).bind λ(l,h)=>
    let w:=dL d st.m
    if St.new {st with m:=w} t then some (.own t,{st with m:=bF w t (.sl .part es ((u.take h).drop l))})else none
  else none
 |_,_,_=>none
def yE:ST->SV
 |[x]=>x|l=>.tup l
mutual
def SV.Bn:SV->So
 |.v _=>[]|.own e=>[e]|.ptr e _=>[e]|.el e _ _=>[e]|.mp e=>[e]|.clo _ a b=>SV.tf a++SV.tf b|.tup l=>SV.tf l|.agg l=>SV.tf l|.yl _=>[]
def SV.tf:ST->So
 |[]=>[]|x::r=>SV.Bn x++SV.tf r
end
def bB.Bn:bB->So
 |.box cs=>SV.tf cs|.dp _ _ (some (_,t))=>[t]|_=>[]
def reach(m:Tb bB):Nat->So->So->So
 |0,_,seen=>seen|_+1,[],seen=>seen|n+1,d::r,seen=>if seen.contains d then reach m n r seen else reach m n ((match bh m d with|some ob=>bB.Bn ob|none=>[])++r) (seen++[d])
def handed(m:Tb bB)(l:ST):aY dB:=kD m (reach m 32 (SV.tf l) [])
mutual
def SV.bare:SV->X'
 |.v x=>x.scalar|.clo _ a b=>SV.yF a&&SV.yF b|.tup l=>SV.yF l|.agg l=>SV.yF l|_=>true
def SV.yF:ST->X'
 |[]=>true|x::r=>SV.bare x&&SV.yF r
end
def bB.bare:bB->X'
 |.box cs=>SV.yF cs|_=>false
def xB(m:Tb bB)(k:Nat):X':=match bh m k with
 |some ob=>ob.bare|none=>true
def within(B:So)(ob:bB):X':=ob.Bn.all B.contains
def yH(B:So)(m':dB):So->Tb bB->aY (Tb bB)
 |[],m=>some m|d::r,m=>match bh m' d with
  |some ob=>if within B ob then yH B m' r (bF m d ob)else none|none=>none
def jQ(m':dB)(l:So)(m:Tb bB):aY (Tb bB):=yH l m' l m
def kN(xs:T2):X':=xs.all λx=>x.all V.scalar
def Dp(q:Hu)(dst:aY Nat)(args:ST)(st:St):aY (SV×St):=
 match args with
 |.own d::z=>match bh st.m d,dy z with
  |some (.sl k es u),some B=>match q.go es u B with
   |some w=>if q.part then match dst with
    |some t=>if St.new {st with m:=dL d st.m} t then some (.own t,{st with m:=bF (dL d st.m) t (if bY k then .sl .part es w else .sl k es u)})else none|none=>none
    else some (.v .undef,{st with m:=bF st.m d (if bY k then .sl k es w else .sl k es u)})
   |none=>none
  |_,_=>none
 |_=>none
def rowsOf(m:Tb bB):ST->aY So
 |[]=>some []|.v _::r=>rowsOf m r|.own d::r=>match bh m d with
  |some (.sl ..)=>(rowsOf m r).map (d::·)|_=>none
 |_=>none
def eo(S:Sys)(c:bX)(dst:aY Nat)(dr now:X')(old:ST->X')(f:Y')(args:ST)(st:St):aY (SV×St):=
 if S.E.keep f then
  if now then
   if S.E.own f then
    match di st.m 8 args with
    |some az=>
     match c f (az.map .v) []with
     |some (rs,m')=>match dy rs with
      |some u=>if(result u).scalar then some (.v (result u),st)else none|none=>match rs,dst with
       |.own e::rest,some t=>match bh m' e,dy rest with
        |some (.sl .row es z),some u=>
         if V.c7 u&&kN z&&st.new t then
          some (yE (.own t::u.map .v),{st with m:=bF st.m t (.sl .row es z)})
         else none
        |some (.sl .nil es _),some u=>if V.c7 u&&st.new t then some (yE (.own t::u.map .v),{st with m:=bF st.m t (.sl .nil es [])})else none|some (.sl .emp es _),some u=>if V.c7 u&&st.new t then some (yE (.own t::u.map .v),{st with m:=bF st.m t (.sl .emp es [])})else none|_,_=>none
       |_,_=>none
     |none=>none
    |none=>none
   else match S.prm f with
    |some q=>if dr then none else Dp q dst args st|none=>match handed st.m args with
    |some os=>match c f args os with
     |some (rs,m')=>match dy rs,jQ m' (os.map (·.1)) st.m with
      |some u,some w=>if dr&& !(V.c7 u&&os.all λx=>xB w x.1)then none else some (.v (result u),{st with m:=w})|none,some w=>if dr then none else match rs,dst with
       |.own e::rest,some t=>match bh m' e,dy rest with
        |some (.sl k es z),some u=>if !(os.map (·.1)).contains e&&St.new {st with m:=w} t then some (yE (.own t::u.map .v),{st with m:=bF w t (.sl k es z)})else none|_,_=>none
       |.v p::.own e::rest,some t=>match bh m' e,dy rest with
        |some (.sl k es z),some u=>if !(os.map (·.1)).contains e&&St.new {st with m:=w} t then some (.tup (.v p::.own t::u.map .v),{st with m:=bF w t (.sl k es z)})else none|_,_=>none
       |_,_=>none
      |_,_=>none
     |none=>none
    |none=>none
  else if S.E.own f&&old args then match di st.m 8 args with
   |some az=>match c f (az.map .v) []with
    |some (rs,m')=>match di m' 8 rs with
     |some u=>if(result u).scalar||(dy args).isSome then some (.v (result u),st)else none|none=>none
    |none=>none
   |none=>none
  else none
 else match di st.m 8 args with
  |some az=>if now||old args then
   match c f (az.map .v) []with
   |some (rs,m')=>match di m' 8 rs with
    |some u=>if(result u).scalar||(dy args).isSome then some (.v (result u),st)
     else if now then(rowsOf st.m args).map λds=>(.v (result u),{st with m:=qp ds st.m})
     else none
    |none=>none
   |none=>none
   else none
  |none=>none
def ez(m:Tb bB)(fr:So)(args:ST):X':=fr.all λd=> !(SV.dF d args)&& !(uC d m)
def B6:K->X'
 |.p (.build zero _)=>V.cQ zero|.r (.lookup _ z _)=>z.good|.a (.alloc _ zero)=>V.cQ zero&&zero.all V.one|.a (.makeSl _ zero)=>V.cQ zero|.a (.buildSl _ _ zero _)=>V.cQ zero|_=>true
def mH(S:Sys)(c:bX)(dr:X')(fr:So)(o:RO)(st:St):aY (SV×St):=
 match bW S.N st.g o.az with
 |some u=>match o.k with
  |.p (.slice size lo hi)=>match u with
   |.own d::z=>if dr then none else BO st o.dst size lo hi d z|u=>(kG S.N st.m (.slice size lo hi) u).map λx=>(x,st)
  |.p p=>(kG S.N st.m p u).map λx=>(x,st)|.r r=>if !dr||o.now||fD fr u then(qt st.m r u).map λx=>(x,st)else none|.a a=>match o.dst with
   |some d=>if st.new d then(qV st.m a u d).map λ(ob,x)=>(x,{st with m:=bF st.m d ob})else none|none=>none
  |.l l=>if !dr||o.now then nh st o.dst l u else none|.c=>match u with
   |.clo f a b::w=>eo S c o.dst dr (!dr||o.now) (ez st.m fr) f (a++w++b) st|.v (.clo f a b)::w=>eo S c o.dst dr (!dr||o.now) (ez st.m fr) f (a.map .v++w++b.map .v) st|_=>none
  |.b=>if dr then none else match u with
   |[x]=>(je st.m 1 x).bind λB=>(mm B).map λl=>(.v (.str (rT l)),st)|_=>none
  |.e n=>match u with
   |[.v .bG,x]=>nh st o.dst (.append n) [.v .bG,x]|[.v .dH,x]=>nh st o.dst (.append n) [.v .dH,x]|_=>none
 |none=>none
def dn(st:St)(dst:aY Nat)(x:SV):St:=
 match dst with
 |none=>st|some d=>{st with g:=bF st.g d x}
def wanted(g:Tb SV):aY (Nat×X')->aY X'
 |none=>some true|some (s,b)=>match bh g s with
  |some (.v (.bool c))=>some (c==b)|some (.v _)=>some false|_=>none
def Au(o:RO):aY Nat:=
 match o.k with
 |.p _|.r _=>none|_=>o.dst
def sj(fr:So)(o:RO):So:=
 match Au o with
 |some d=>d::fr|none=>fr
def bn(H:bk)(id:Nat):aY (Nat×T2):=(H[id]?).bind Ob.rows
mutual
theorem V.mJ:∀{x:V},x.good=true->x.closed=true
 |.hsl ..,h|.hptr ..,h|.yld _,h|.hmap _,h=>by simp[V.good]at h|.fsl ..,_|.fptr ..,_|.fmap ..,_=>rfl|.bool _,_|.int ..,_|.str _,_|.dH,_|.bG,_|.iF,_|.gR,_|.tI,_=>rfl|.clo _ a b,h=>by simp only[V.good,ζh]at h;simp only[V.closed,ζh];exact⟨V.oN h.1,V.oN h.2⟩|.agg cs,h=>by simp only[V.good]at h;simp only[V.closed];exact V.oN h|.tup cs,h=>by simp only[V.good]at h;simp only[V.closed];exact V.oN h
theorem V.oN:∀{l:aX V},V.cQ l=true->V.iG l=true
 | [],_=>rfl
 | x::r,h=>by
  simp only[V.cQ,ζh]at h;simp only[V.iG,ζh];exact⟨V.mJ h.1,V.oN h.2⟩
end
theorem ir:∀{l:S'},V.cQ l=true↔∀(j:Nat)u,l[j]?=some u->u.good=true
 |[]=>by simp[V.cQ]|x::l=>by simp[V.cQ,ir];constructor;grind;intro h;exact⟨h 0 x rfl,λj u a=>h (j+1) u Zac⟩
theorem lG:∀{l:T2},V.nR l=true↔∀(j:Nat)u,l[j]?=some u->V.cQ u=true
 |[]=>by simp[V.nR]|x::l=>by simp[V.nR,lG];constructor;grind;intro h;exact⟨h 0 x rfl,λj u a=>h (j+1) u Zac⟩
def HH:∀{l:aX (V×V)},V.uB l=true↔∀(j:Nat)u,l[j]?=some u->u.1.good=true/\u.2.good=true
 |[]=>by simp[V.uB]|(k,x)::l=>by simp only[V.uB,ζh,HH];constructor;grind;intro h;exact⟨h 0 (k,x) rfl,λj u a=>h (j+1) u Zac⟩
theorem z_{l:S'}(n:Nat)(h:V.cQ l=true):V.cQ (l.drop n)=true:=ir.2 λj u a=>ir.1 h (n+j) u Zac
inductive FR(H:bk)(Z:Nat->Prop):V->V->Prop
 |same(x:V)(h:x.good=true):FR H Z x x|fsl(es:Nat)(xs:List (List V))(id off:Nat)(ys:List (List V))(hz:Z id)(hr:bn H id=some (es,ys))(hl:off+xs.length<=ys.length)
  (hc:∀(i:Nat)a b,xs[i]?=some a->ys[off+i]?=some b->a.length=b.length)
  (hv:∀(i j:Nat)a b u v,xs[i]?=some a->ys[off+i]?=some b->a[j]?=some u->b[j]?=some v->FR H Z u v):FR H Z (.fsl es xs) (.hsl id es off xs.length)
 |fptr(xs:List V)(id el off es:Nat)(ys:List (List V))(cs:List V)(hz:Z id)(hr:bn H id=some (es,ys))(he:ys[el]?=some cs)(ho:off<=cs.length)(hx:xs.length=cs.length-off)
  (hv:∀(j:Nat)u v,xs[j]?=some u->cs[off+j]?=some v->FR H Z u v):FR H Z (.fptr xs) (.hptr id el off)
 |clo(f:FuncId)(a b a' b':List V)(ha:a.length=a'.length)(hb:b.length=b'.length)(hva:∀(j:Nat)u v,a[j]?=some u->a'[j]?=some v->FR H Z u v)(hvb:∀(j:Nat)u v,b[j]?=some u->b'[j]?=some v->FR H Z u v):FR H Z (.clo f a b) (.clo f a' b')|agg(a a':List V)(ha:a.length=a'.length)(hva:∀(j:Nat)u v,a[j]?=some u->a'[j]?=some v->FR H Z u v):FR H Z (.agg a) (.agg a')|tup(a a':List V)(ha:a.length=a'.length)(hva:∀(j:Nat)u v,a[j]?=some u->a'[j]?=some v->FR H Z u v):FR H Z (.tup a) (.tup a')
def dz(H:bk)(Z:Nat->Prop)(xs ys:S'):Prop:=xs.length=ys.length/\∀(j:Nat)u v,xs[j]?=some u->ys[j]?=some v->FR H Z u v
def fR(H:bk)(Z:Nat->Prop)(xs ys:T2):Prop:=xs.length=ys.length/\∀(j:Nat)u v,xs[j]?=some u->ys[j]?=some v->dz H Z u v
section
variable{H H':bk}{Z Z':Nat->Prop}
def FR.mono(h:∀id,Z id->Z' id/\bn H' id=bn H id){x y:V}(r:FR H Z x y):FR H' Z' x y:=by induction r with|same x h=>exact .same x h|fsl es B id off C D hr J hc hv G=>exact .fsl es B id off C (h id D).1 Zac J hc G|fptr B id el off es C cs D hr L O Q hv G=>exact .fptr B id el off es C cs (h id D).1 Zac L O Q G|clo f a b w S z T hva U u I=>exact .clo f a b w S z T u I|agg a w z hva u=>exact .agg a w z u|tup a w z hva u=>exact .tup a w z u
def dz.mono(h:∀id,Z id->Z' id/\bn H' id=bn H id){x y:S'}(r:dz H Z x y):dz H' Z' x y:=⟨r.1,λj u v a b=>(r.2 j u v a b).mono h⟩
def fR.mono(h:∀id,Z id->Z' id/\bn H' id=bn H id){x y:T2}(r:fR H Z x y):fR H' Z' x y:=⟨r.1,λj u v a b=>(r.2 j u v a b).mono h⟩
def dz.nil:dz H Z [] []:=⟨rfl,Zab⟩
def dz.cons{x y:V}{xs ys:S'}(h:FR H Z x y)(r:dz H Z xs ys):dz H Z (x::xs) (y::ys):=by refine⟨by simp[r.1],λj u v a b=>?_⟩;cases j with|zero=>grind|succ j=>exact r.2 j u v Zac Zac
def dz.inv{x:V}{xs B:S'}(r:dz H Z (x::xs) B):∃y ys,B=y::ys/\FR H Z x y/\dz H Z xs ys:=by cases B with|nil=>have:=r.1;grind|cons y ys=>refine⟨y,ys,rfl,r.2 0 x y rfl rfl,by have:=r.1;grind,λj u v a b=>r.2 (j+1) u v Zac Zac⟩
def dz.c9{B:S'}(r:dz H Z [] B):B=[]:=by have:=r.1;grind
theorem dz.get{xs ys:S'}(r:dz H Z xs ys){j:Nat}{u:V}(h:xs[j]?=some u):∃v,ys[j]?=some v/\FR H Z u v:=by
 have w:=(ζe.1 h).1;have:j<ys.length:=by rw[<-r.1];omega
 exact⟨ys[j],ζd this,r.2 j u _ h (ζd this)⟩
theorem fR.get{xs ys:T2}(r:fR H Z xs ys){j:Nat}{u:S'}(h:xs[j]?=some u):∃v,ys[j]?=some v/\dz H Z u v:=by
 have w:=(ζe.1 h).1;have:j<ys.length:=by rw[<-r.1];omega
 exact⟨ys[j],ζd this,r.2 j u _ h (ζd this)⟩
def dz.append{a b c d:S'}(h:dz H Z a b)(k:dz H Z c d):dz H Z (a++c) (b++d):=by refine⟨by simp[h.1,k.1],λj u v e f=>?_⟩;by_cases w:j<a.length;rw[getElem?_append_left w]at e;rw[getElem?_append_left (by rw[<-h.1];omega)]at f;exact h.2 j u v e f;rw[getElem?_append_right Zaa]at e;rw[getElem?_append_right (by rw[<-h.1];omega),<-h.1]at f;exact k.2 _ u v e f
def fR.append{a b c d:T2}(h:fR H Z a b)(k:fR H Z c d):fR H Z (a++c) (b++d):=by refine⟨by simp[h.1,k.1],λj u v e f=>?_⟩;by_cases w:j<a.length;rw[getElem?_append_left w]at e;rw[getElem?_append_left (by rw[<-h.1];omega)]at f;exact h.2 j u v e f;rw[getElem?_append_right Zaa]at e;rw[getElem?_append_right (by rw[<-h.1];omega),<-h.1]at f;exact k.2 _ u v e f
def dz.take{a b:S'}(h:dz H Z a b)(n:Nat):dz H Z (a.take n) (b.take n):=by
 refine⟨by simp[h.1],λj u v c d=>?_⟩;rw[getElem?_take]at c d;split at c;next w=>rw[if_pos w]at d;exact h.2 j u v c d
 grind
def dz.drop{a b:S'}(h:dz H Z a b)(n:Nat):dz H Z (a.drop n) (b.drop n):=by refine⟨by simp[h.1],λj u v c d=>?_⟩;rw[getElem?_drop]at c d;exact h.2 _ u v c d
def fR.take{a b:T2}(h:fR H Z a b)(n:Nat):fR H Z (a.take n) (b.take n):=by
 refine⟨by simp[h.1],λj u v c d=>?_⟩;rw[getElem?_take]at c d;split at c;next w=>rw[if_pos w]at d;exact h.2 j u v c d
 grind
def fR.drop{a b:T2}(h:fR H Z a b)(n:Nat):fR H Z (a.drop n) (b.drop n):=by refine⟨by simp[h.1],λj u v c d=>?_⟩;rw[getElem?_drop]at c d;exact h.2 _ u v c d
theorem dz.set{a b:S'}(h:dz H Z a b)(n:Nat){x y:V}(B:FR H Z x y):dz H Z (a.set n x) (b.set n y):=by refine⟨by simp[h.1],λj u v c d=>?_⟩;rw[getElem?_set]at c d;split at c;grind;rename_i e;rw[if_neg e]at d;exact h.2 j u v c d
theorem fR.set{a b:T2}(h:fR H Z a b)(n:Nat){x y:S'}(B:dz H Z x y):fR H Z (a.set n x) (b.set n y):=by refine⟨by simp[h.1],λj u v c d=>?_⟩;rw[getElem?_set]at c d;split at c;grind;rename_i e;rw[if_neg e]at d;exact h.2 j u v c d
theorem dz.same{l:S'}(h:V.cQ l=true):dz H Z l l:=⟨rfl,λj u v a b=>by rw[a]at b;cases b;exact .same u (ir.1 h j u a)⟩
def FR.good{x y:V}(r:FR H Z x y):x.good=true:=by induction r with|same x h=>omega|fsl es C id off D G hr O hc hv I=>refine lG.2 λi a z=>ir.2 λj u c=>?_;grind|fptr C id el off es D cs G hr Q S T hv I=>refine ir.2 λj u c=>?_;grind|clo f a b B U z W hva J w L=>simp[V.good];refine⟨ir.2 λj u c=>?_,ir.2 λj u c=>?_⟩;grind;grind|agg a B z hva w=>refine ir.2 λj u c=>?_;grind|tup a B z hva w=>simp[V.good];refine ir.2 λj u c=>?_;grind
theorem FR.closed {x y:V} (r:FR H Z x y):x.closed=true:=V.mJ r.good
def dz.good{xs ys:S'}(r:dz H Z xs ys):V.cQ xs=true:=ir.2 λj u a=>by have⟨v,_,h⟩:=r.get a;exact h.good
def fR.good{xs ys:T2}(r:fR H Z xs ys):V.nR xs=true:=lG.2 λj u a=>by have⟨v,_,h⟩:=r.get a;exact h.good
def FR.bool{b:X'}{y:V}(r:FR H Z (.bool b) y):y=.bool b:=by cases r;rfl
def FR.int{k:T'}{n:Int}{y:V}(r:FR H Z (.int k n) y):y=.int k n:=by cases r;rfl
def FR.str{s:V'}{y:V}(r:FR H Z (.str s) y):y=.str s:=by cases r;rfl
def FR.dH{y:V}(r:FR H Z .dH y):y=.dH:=by cases r;rfl
def FR.bG{y:V}(r:FR H Z .bG y):y=.bG:=by cases r;rfl
def FR.iF{y:V}(r:FR H Z .iF y):y=.iF:=by cases r;rfl
def FR.gR{y:V}(r:FR H Z .gR y):y=.gR:=by cases r;rfl
def FR.tI{y:V}(r:FR H Z .tI y):y=.tI:=by cases r;rfl
def FR.fmap{B:aX (V×V)}{y:V}(r:FR H Z (.fmap B) y):y=.fmap B:=by cases r;rfl
def FR.iZ{a:S'}{y:V}(r:FR H Z (.agg a) y):∃a',y=.agg a'/\dz H Z a a':=by cases r with|same _ h=>exact⟨a,rfl,.same (by simpa[V.good]using h)⟩|agg _ a' u hva=>exact⟨a',rfl,u,hva⟩
def FR.qZ{a:S'}{y:V}(r:FR H Z (.tup a) y):∃a',y=.tup a'/\dz H Z a a':=by cases r with|same _ h=>exact⟨a,rfl,.same (by simpa[V.good]using h)⟩|tup _ a' u hva=>exact⟨a',rfl,u,hva⟩
def FR.kS{f:Y'}{a b:S'}{y:V}(r:FR H Z (.clo f a b) y):∃a' B,y=.clo f a' B/\dz H Z a a'/\dz H Z b B:=by cases r with|same _ h=>simp[V.good]at h;exact⟨a,b,rfl,.same h.1,.same h.2⟩|clo _ _ _ a' B w z hva u=>exact⟨a',B,rfl,⟨w,hva⟩,⟨z,u⟩⟩
def FR.mR{es:Nat}{xs:T2}{y:V}(r:FR H Z (.fsl es xs) y):y=.fsl es xs\/
 ∃id off ys,y=.hsl id es off xs.length/\Z id/\bn H id=some (es,ys)/\off+xs.length<=ys.length/\fR H Z xs ((ys.drop off).take xs.length):=by
 cases r with
 |same _ h=>grind|fsl _ _ id off ys z hr B hc hv=>
  refine .inr ⟨id,off,ys,rfl,z,hr,B,by simp;omega,λj u v a w=>?_⟩
  have C:=(ζe.1 a).1;rw[getElem?_take,if_pos C,getElem?_drop]at w;exact⟨hc j u v a w,λi s t D G=>hv j i u v s t a w D G⟩
def FR.EE{es:Nat}{xs:T2}{id off:Nat}{ys:T2}(B:Z id)(c:bn H id=some (es,ys))(D:off+xs.length<=ys.length)(h:fR H Z xs ((ys.drop off).take xs.length)):
 FR H Z (.fsl es xs) (.hsl id es off xs.length):=by
 have key:∀(i:Nat)a b,xs[i]?=some a->ys[off+i]?=some b->dz H Z a b:=λi a b w z=>by refine h.2 i a b w ?_;grind
 exact .fsl es xs id off ys B c D (λi a b w z=>(key i a b w z).1) (λi j a b u v w z d e=>(key i a b w z).2 j u v d e)
def FR.mZ{xs:S'}{y:V}(r:FR H Z (.fptr xs) y):y=.fptr xs\/
 ∃id el off es ys cs,y=.hptr id el off/\Z id/\bn H id=some (es,ys)/\ys[el]?=some cs/\off<=cs.length/\dz H Z xs (cs.drop off):=by
 cases r with
 |same _ h=>grind|fptr _ id el off es ys cs w hr z B D hv=>
  refine .inr ⟨id,el,off,es,ys,cs,rfl,w,hr,z,B,Zad,λj u v a C=>?_⟩
  grind
def FR.Eh{xs:S'}{id el off es:Nat}{ys:T2}{cs:S'}(B:Z id)(a:bn H id=some (es,ys))(D:ys[el]?=some cs)(G:off<=cs.length)(h:dz H Z xs (cs.drop off)):FR H Z (.fptr xs) (.hptr id el off):=.fptr xs id el off es ys cs B a D G (by have:=h.1;grind) (λj u v b c=>h.2 j u v b Zac)
def FR.cells{x y:V}(r:FR H Z x y):dz H Z x.cells y.cells:=by
 have one:∀{a b:V},FR H Z a b->dz H Z [a] [b]:=λh=>.cons h .nil
 cases r with
 |same _ h=>cases x<;>first|exact one (.same _ h)|(exact dz.same h)
 |fsl es z id off B C hr G hc hv=>exact one (.fsl es z id off B C hr G hc hv)|fptr z id el off es B cs C hr I J L hv=>exact one (.fptr z id el off es B cs C hr I J L hv)|clo f a b w O u Q hva D=>exact one (.clo f a b w O u Q hva D)|agg a w u hva=>exact⟨u,hva⟩|tup a w u hva=>exact one (.tup a w u hva)
def FR.one{x y:V}(r:FR H Z x y):y.one=x.one:=by cases r<;>rfl
def dz.one:∀{xs ys:S'},dz H Z xs ys->ys.all V.one=xs.all V.one
 |[],ys,r=>by rw[r.c9]|x::xs,D,r=>by obtain⟨y,ys,rfl,h,B⟩:=r.inv;simp[h.one,B.one]
def sw:∀{l:S'},V.c7 l=true↔∀(j:Nat)u,l[j]?=some u->u.scalar=true
 |[]=>by simp[V.c7]|x::l=>by simp[V.c7,sw];constructor;grind;intro h;exact⟨h 0 x rfl,λj u a=>h (j+1) u Zac⟩
def FR.scalar{x y:V}(r:FR H Z x y):(x.scalar=true->y=x)/\y.scalar=x.scalar:=by
 have key:∀(a w:S'),a.length=w.length->(∀(j:Nat)u v,a[j]?=some u->w[j]?=some v->(u.scalar=true->v=u)/\v.scalar=u.scalar)->(V.c7 a=true->w=a)/\V.c7 w=V.c7 a:=by intro a w B G;have b:V.c7 a=true->w=a:=(by intro I;refine(List.ext_getElem B λj b C=>?_).symm;exact(((G j _ _ (ζd b) (ζd C)).1 (sw.1 I j _ (ζd b)))).symm);refine⟨b,?_⟩;cases I:V.c7 a with|true=>grind|false=>cases D:V.c7 w with|false=>rfl|true=>have:V.c7 a=true:=sw.2 λj u c=>(by have J:j<w.length:=Zac;have:=(G j u _ c (ζd J)).2;rw[<-this];exact sw.1 D j _ (ζd J));grind
 induction r with|same x h=>grind|fsl=>exact⟨λh=>by simp[V.scalar]at h,rfl⟩|fptr=>exact⟨λh=>by simp[V.scalar]at h,rfl⟩|clo=>exact⟨λh=>by simp[V.scalar]at h,rfl⟩|agg a w B hva z=>have⟨b,C⟩:=key a w B z;exact⟨λh=>by rw[b (by simpa[V.scalar]using h)],by simpa[V.scalar]using C⟩|tup a w B hva z=>have⟨b,C⟩:=key a w B z;exact⟨λh=>by rw[b (by simpa[V.scalar]using h)],by simpa[V.scalar]using C⟩
def dz.scalar{a a':S'}(r:dz H Z a a'):(V.c7 a=true->a'=a)/\V.c7 a'=V.c7 a:=by have⟨b,u⟩:=FR.scalar (.tup a a' r.1 r.2);simp[V.scalar]at b u;grind
def sE:∀{l:S'}{a:SW},iL l=some a->V.c7 l=true
 |[],_,_=>rfl|x::l,a,h=>by unfold iL at h;split at h;grind;(next n r e=>cases e;have⟨b,B,_⟩:=ζf.1 h;simp[V.c7,V.scalar];exact sE B);grind
end
mutual
theorem kj:∀{x:V},x.scalar=true->x.good=true
 |.bool _,_|.int ..,_|.str _,_|.iF,_|.gR,_|.tI,_|.dH,_|.bG,_=>rfl|.agg cs,h=>by simp only[V.scalar]at h;simp only[V.good];exact qL h|.tup cs,h=>by simp only[V.scalar]at h;simp only[V.good];exact qL h|.fsl ..,h|.hsl ..,h|.fptr ..,h|.hptr ..,h|.clo ..,h|.yld _,h|.fmap _,h|.hmap _,h=>by simp[V.scalar]at h
theorem qL:∀{l:aX V},V.c7 l=true->V.cQ l=true
 | [],_=>rfl
 | x::r,h=>by
  simp only[V.c7,ζh]at h;simp only[V.cQ,ζh];exact⟨kj h.1,qL h.2⟩
end
section
variable{H H':bk}{Z Z':Nat->Prop}
def lC{f:V->aY V}:∀{xs ys:S'},xs.length=ys.length->(∀(j:Nat)u v,xs[j]?=some u->ys[j]?=some v->f v=some u)->iU f ys=some xs
 |[],[],_,_=>rfl|[],y::ys,h,_=>Zad|x::xs,[],h,_=>Zad|x::xs,y::ys,h,B=>by simp[iU,B 0 x y rfl rfl,lC (xs:=xs) (ys:=ys) Zac λj u v a b=>B (j+1) u v Zac Zac]
def IY{f:V->aY V}:∀{xs ys:T2},xs.length=ys.length->(∀(j:Nat)u v,xs[j]?=some u->ys[j]?=some v->iU f v=some u)->mF f ys=some xs
 |[],[],_,_=>rfl|[],y::ys,h,_=>Zad|x::xs,[],h,_=>Zad|x::xs,y::ys,h,B=>by simp[mF,B 0 x y rfl rfl,IY (xs:=xs) (ys:=ys) Zac λj u v a b=>B (j+1) u v Zac Zac]
def pX:∀{l:S'},V.iG l=true↔∀(j:Nat)u,l[j]?=some u->u.closed=true
 |[]=>by simp[V.iG]|x::l=>by simp[V.iG,pX];constructor;grind;intro h;exact⟨h 0 x rfl,λj u a=>h (j+1) u Zac⟩
def mV:∀{l:S'}{n:Nat},V.me n l=true↔∀(j:Nat)u,l[j]?=some u->u.lvl n=true
 |[],n=>by simp[V.me]|x::l,n=>by simp[V.me,mV];constructor;grind;intro h;exact⟨h 0 x rfl,λj u a=>h (j+1) u Zac⟩
def HD:∀{l:T2}{n:Nat},V.qo n l=true↔∀(j:Nat)u,l[j]?=some u->V.me n u=true
 |[],n=>by simp[V.qo]|x::l,n=>by simp[V.qo,HD];constructor;grind;intro h;exact⟨h 0 x rfl,λj u a=>h (j+1) u Zac⟩
theorem eH(n:Nat)(H:bk){x:V}(h:x.closed=true):borrow n H x=some x:=jK n H h
theorem FR.borrow {x y:V} (r:FR H Z x y):∀n,x.lvl n=true->borrow n H y=some x:=by
 induction r with
 | same x h=>grind[eH,V.mJ]
 | fsl es J id off U W hr X hc hv L=>
  intro n z
  cases n with
  | zero=>grind[V.lvl]
  | succ n=>
   unfold Go.VE.borrow;unfold bn at hr;simp only[V.closed,Bool.false_eq_true,if_false,hr,true_and,if_pos X,ζf];refine⟨J,IY (by simp;omega) λj u v hu B=>?_,rfl⟩
   have Y  := (ζe.1 hu).1;rw[List.getElem?_take,if_pos Y,List.getElem?_drop]at B;refine lC (hc j u v hu B) λi s t Q ht=>L j i u v s t hu B Q ht n (mV.1 (HD.1 z j u hu) i s Q)
 | fptr J id el off es U cs W hr he ho hx hv L=>
  intro n z
  cases n with
  | zero=>grind[V.lvl]
  | succ n=>
   unfold Go.VE.borrow;unfold bn at hr;simp only[V.closed,Bool.false_eq_true,if_false,hr,he,if_pos ho,ζf];refine⟨J,lC Zad λj u v hu B=>?_,rfl⟩
   rw[List.getElem?_drop]at B;exact L j u v hu B n (mV.1 z j u hu)
 | clo f a b D S G T hva aa C I=>
  intro n z
  cases n with
  | zero=>grind[V.lvl]
  | succ n=>
   simp[V.lvl]at z
   by_cases w:(V.clo f D S).closed=true
   .rw[eH _ _ w];simp[V.closed]at w;have e1:D=a:=by
     have:=lC  G λj u v hu hv=>C j u v hu hv n (mV.1 z.1 j u hu)
     have O:=lC    rfl λj u v hu hv=>by rw[hu]at hv;cases hv;exact eH n H (pX.1 w.1 j u hu)
     grind
    have e2:S=b:=by
     have:=lC  T λj u v hu hv=>I j u v hu hv n (mV.1 z.2 j u hu)
     have O:=lC    rfl λj u v hu hv=>by rw[hu]at hv;cases hv;exact eH n H (pX.1 w.2 j u hu)
     grind
    simp_all
   unfold Go.VE.borrow;rw[if_neg w];simp[lC  G λj u v hu hv=>C j u v hu hv n (mV.1 z.1 j u hu),lC  T λj u v hu hv=>I j u v hu hv n (mV.1 z.2 j u hu)]
 | agg a D G hva C=>
  intro n z
  cases n with
  | zero=>grind[V.lvl]
  | succ n=>
   have hm:=lC  G λj u v hu hv=>C j u v hu hv n (mV.1 z j u hu)
   by_cases w:(V.agg D).closed=true
   .rw[eH _ _ w];have O:=lC    rfl λj u v hu hv=>by rw[hu]at hv;cases hv;exact eH n H (pX.1 w j u hu)
    grind
   grind[Go.VE.borrow]
 | tup a D G hva C=>
  intro n z
  cases n with
  | zero=>grind[V.lvl]
  | succ n=>
   have hm:=lC  G λj u v hu hv=>C j u v hu hv n (mV.1 z j u hu)
   by_cases w:(V.tup D).closed=true
   .rw[eH _ _ w];have O:=lC    rfl λj u v hu hv=>by rw[hu]at hv;cases hv;exact eH n H (pX.1 w j u hu)
    grind
   grind[Go.VE.borrow]
def qS{f:V->So}{k:Nat}:∀{l:S'},k∈dh f l->∃(j:Nat)(u:V),l[j]?=some u/\k∈f u
 |[],h=>by grind[dh]|x::l,h=>by simp[dh]at h;rcases h with h|h;exact⟨0,x,rfl,h⟩;have⟨j,u,b,a⟩:=qS h;exact⟨j+1,u,Zac,a⟩
structure Deep(H:bk)(Z:Nat->Prop):Prop where
 row:∀id es ys,Z id->bn H id=some (es,ys)->∀c∈ys,∀u∈c,∃x,FR H Z x u
theorem FR.ct(hd:Deep H Z):∀(n:Nat){x y:V},FR H Z x y->∀k∈ct n H y,Z k
 |0,x,y,r,k,d=>by grind[Go.VE.ct]|n+1,x,y,r,k,d=>by
  unfold Go.VE.ct at d;split at d;simp_all;rename_i T;have pt:∀(a a':S'),dz H Z a a'->k∈dh (Go.VE.ct n H) a'->Z k:=λa a' h d=>by obtain⟨j,u,e,z⟩:=qS d;have L:j<a.length:=(by rw[h.1];grind);exact FR.ct hd n (h.2 j _ u (ζd L) e) k z
  have row:∀(id:Nat)es w(l:S'),Z id->bn H id=some (es,w)->(∀u∈l,∃c∈w,u∈c)->k∈dh (Go.VE.ct n H) l->Z k:=λid es w l B hr I d=>by obtain⟨j,u,e,z⟩:=qS d;obtain⟨c,g,D⟩:=I u (mem_of_getElem? e);obtain⟨x,J⟩:=hd.row id es w B hr c g u D;exact FR.ct hd n J k z
  cases r with
  |same _ h=>grind[V.mJ]|fsl es O id off w B hr I g hv=>simp only[mem_cons]at d;rcases d with rfl|d;exact B;rw[show(H[id]?).bind Ob.rows=some (es,w)from hr]at d;grind[List.mem_flatten]
  |fptr O id el off es w cs B hr U W J hv=>simp only[mem_cons]at d;rcases d with rfl|d;exact B;rw[show(H[id]?).bind Ob.rows=some (es,w)from hr]at d;grind
  |clo f a b a' Q C S hva G=>simp at d;rcases d with d|d;exact pt a a' ⟨C,hva⟩ d;exact pt b Q ⟨S,G⟩ d
  |agg a a' C hva=>exact pt a a' ⟨C,hva⟩ d|tup a a' C hva=>exact pt a a' ⟨C,hva⟩ d
theorem dz.cut{cs ys r:S'}{off n:Nat}(h:dz H Z cs ys)(a:cut cs off n=some r):∃B,Go.VE.cut ys off n=some B/\dz H Z r B:=by unfold Go.VE.cut at a⊢;have u:=(h.drop off).take n;dsimp only at a⊢;split at a;simp at a;subst a;exact⟨_,by rw[if_pos (by rw[<-u.1];omega)],u⟩;grind
theorem dz.mk{agg:X'}{cs ys:S'}{x:V}(h:dz H Z cs ys)(B:mk agg cs=some x):∃y,Go.VE.mk agg ys=some y/\FR H Z x y:=by unfold Go.VE.mk at B⊢;split at B;simp at B;subst B;exact⟨_,Zac,.agg _ _ h.1 h.2⟩;split at B;simp at B;obtain⟨y,ys,rfl,a,u⟩:=h.inv;rw[u.c9];grind;grind
theorem dz.fill:∀{pl:aX (Nat×Nat)}{vs B cells cells' r:S'},dz H Z cells cells'->dz H Z vs B->lH cells pl vs=some r->∃D,lH cells' pl B=some D/\dz H Z r D
 |[],vs,B,cells,cells',r,hc,hv,h=>by cases vs with|nil=>rw[hv.c9];grind[lH]|cons v vs=>grind[lH]
 |(off,size)::pl,vs,B,cells,cells',r,hc,hv,h=>by cases vs with|nil=>grind[lH]|cons v vs=>obtain⟨w,B,rfl,a,G⟩:=hv.inv;have k:=a.cells;simp only[lH]at h⊢;rw[<-k.1,<-hc.1];split at h;simp_all;rename_i e;rw[if_neg e];exact dz.fill (((hc.take off).append k).append (hc.drop _)) G h
def FR.vT{k:KT}{x y G J:V}{b:X'}(B:FR H Z x G)(D:FR H Z y J)(h:p_ k x y=some b):p_ k G J=some b:=by unfold p_ at h;split at h;rw[B.bG,D.bG];exact h;rw[D.bG];rcases B.mR with rfl|⟨_,_,_,rfl,_⟩<;>exact h;exact absurd B.closed (by simp[V.closed]);rw[B.iF,D.iF];exact h;rw[D.iF];rcases B.mZ with rfl|⟨_,_,_,_,_,_,rfl,_⟩<;>exact h;exact absurd B.closed (by simp[V.closed]);rw[B.gR,D.gR];exact h;rw[D.gR,B.fmap];exact h;exact absurd B.closed (by simp[V.closed]);grind
theorem FR.lQ{a b a' B:S'}{r:X'}(D:dz H Z a a')(G:dz H Z b B)(h:lQ a b=some r):Go.VE.lQ a' B=some r:=by unfold Go.VE.lQ at h;split at h;rename_i u v c d;rw[D.scalar.1 (sE c),G.scalar.1 (sE d)];grind[Go.VE.lQ];grind
def BS{k:KT}{x y:V}{b:X'}(h:p_ k x y=some b):(y=.bG/\(x=.bG\/(∃es xs,x=.fsl es xs)\/∃id es off len,x=.hsl id es off len))\/
 (y=.iF/\(x=.iF\/(∃cs,x=.fptr cs)\/∃id el off,x=.hptr id el off))\/(y=.gR/\(x=.gR\/(∃B,x=.fmap B)\/∃id,x=.hmap id)):=by
 unfold p_ at h
 grind
def Jb{k:aY KT}{e:aY Nat}{op:BinOp}{x y:V}(D:(y=.bG/\(x=.bG\/(∃es xs,x=.fsl es xs)\/∃id es off len,x=.hsl id es off len))\/
 (y=.iF/\(x=.iF\/(∃cs,x=.fptr cs)\/∃id el off,x=.hptr id el off))\/(y=.gR/\(x=.gR\/(∃B,x=.fmap B)\/∃id,x=.hmap id))):
 mT k e op x y=(match k,op with
 |some k,.eql=>(p_ k x y).map .bool|some k,.neq=>(p_ k x y).map λt=>.bool !t|_,_=>none):=by
 rcases D with⟨rfl,rfl|⟨_,_,rfl⟩|⟨_,_,_,_,rfl⟩⟩|⟨rfl,rfl|⟨_,rfl⟩|⟨_,_,_,rfl⟩⟩|⟨rfl,rfl|⟨_,rfl⟩|⟨_,rfl⟩⟩<;>cases k<;>cases op<;>rfl
def Lp{k:aY KT}{e:aY Nat}{op:BinOp}{x y z:V}(h:mT k e op x y=some z):z.good=true:=by
 have w:∀{o:aY X'}{z:V},o.map V.bool=some z->z.good=true:=λh=>by obtain⟨_,_,rfl⟩:=ζf.1 h;rfl
 have u:∀{o:aY X'}{z:V},(o.map λt=>V.bool !t)=some z->z.good=true:=λh=>by obtain⟨_,_,rfl⟩:=ζf.1 h;rfl
 unfold mT at h;(repeat' split at h)<;>first|(simp at h;subst h;rfl)|exact w h|exact u h|simp at h
def FR.bin{k:aY KT}{e:aY Nat}{op:BinOp}{x y G J z:V}(B:FR H Z x G)(D:FR H Z y J)(h:mT k e op x y=some z):mT k e op G J=some z:=by
 have L:=h;unfold mT at h;split at h;rw[B.int,D.int];omega;rw[B.str,D.str];omega;rw[B.bool,D.bool];omega;obtain⟨O,rfl,w⟩:=B.iZ;obtain⟨Q,rfl,I⟩:=D.iZ;split at h;split at h;next C=>obtain⟨r,a,rfl⟩:=ζf.1 h;simp[mT,<-w.1,C,FR.lQ w I a]
 grind;split at h;next C=>obtain⟨r,a,rfl⟩:=ζf.1 h;simp[mT,<-w.1,C,FR.lQ w I a]
 grind;grind;split at h;obtain⟨r,a,rfl⟩:=ζf.1 h;have u:=FR.vT B D a;rw[Jb (BS u)];grind;obtain⟨r,a,rfl⟩:=ζf.1 h;have u:=FR.vT B D a;rw[Jb (BS u)];grind;grind
def FR.slice{size:Nat}{x J z:V}{l h:Pi}(D:FR H Z x J)(B:iX size x l h=some z):∃T,iX size J l h=some T/\FR H Z z T:=by
 have C:∀{n lo hi:Nat},ec n l h=some (lo,hi)->hi<=n/\lo<=hi:=by grind[ec]
 unfold iX at B;split at B;rename_i es I;split at B;rename_i Q;obtain⟨⟨lo,hi⟩,G,rfl⟩:=ζf.1 B;have⟨S,U⟩:=C G;rcases D.mR with rfl|⟨id,off,W,rfl,L,hr,X,O⟩;refine⟨_,by grind[iX],.same _ ?_⟩;have b:=D.good;refine lG.2 λj u a=>?_;rw[getElem?_drop,getElem?_take]at a;split at a;exact lG.1 b _ u a;grind;refine⟨.hsl id es (off+lo) (hi-lo),by grind[iX],?_⟩;have w:((I.take hi).drop lo).length=hi-lo:=Zad;rw[<-w];refine FR.EE L hr Zac ?_;have:=(O.take hi).drop lo;grind[List.drop_take,drop_drop];grind;exact absurd D.closed (by simp[V.closed]);rw[D.dH];obtain⟨_,G,rfl⟩:=ζf.1 B;exact⟨.dH,by grind[iX],.same _ rfl⟩;rw[D.bG];obtain⟨_,G,rfl⟩:=ζf.1 B;exact⟨.bG,by grind[iX],.same _ rfl⟩;grind
def dz.nq{lo hi:X'}{G D:S'}{r:Pi×Pi}(h:dz H Z G D)(B:nq lo hi G=some r):Go.VE.nq lo hi D=some r:=by unfold Go.VE.nq at B;split at B;rw[h.c9];exact B;obtain⟨_,_,rfl,a,u⟩:=h.inv;rw[a.int,u.c9];exact B;obtain⟨_,_,rfl,a,u⟩:=h.inv;rw[a.int,u.c9];exact B;obtain⟨_,_,rfl,a,u⟩:=h.inv;obtain⟨_,_,rfl,w,z⟩:=u.inv;rw[a.int,w.int,z.c9];exact B;grind
def dz.bN{N:Nat->Y'}{p:v7}{xs ys:S'}{z:V}(W:∀zero pl,p=.build zero pl->V.cQ zero=true)(h:dz H Z xs ys)(hp:bN N p xs=some z):∃J,Go.VE.bN N p ys=some J/\FR H Z z J:=by
 unfold Go.VE.bN at hp;split at hp;obtain⟨y,_,rfl,f,w⟩:=h.inv;rw[w.c9];simp only[ζa]at hp;subst hp;exact⟨y,rfl,f⟩;rename_i t a b;obtain⟨w1,_,rfl,f,w⟩:=h.inv;obtain⟨M,_,rfl,C,B⟩:=w.inv;obtain⟨P,_,rfl,T,O⟩:=B.inv;rw[f.bool,O.c9];simp only[ζa]at hp;subst hp;refine⟨if t=true then M else P,rfl,?_⟩;grind;obtain⟨y,_,rfl,f,w⟩:=h.inv;rw[w.c9];unfold NP at hp;split at hp;exact absurd f.closed (by simp[V.closed]);simp only[ζa]at hp;subst hp;rcases f.mZ with rfl|⟨_,_,_,_,_,_,rfl,_⟩;exact⟨_,rfl,f⟩;exact⟨_,rfl,f⟩;simp only[ζa]at hp;subst hp;obtain⟨_,_,rfl,_⟩:=f.kS;exact⟨_,rfl,f⟩;simp at hp;obtain⟨_,_,rfl,f,w⟩:=h.inv;obtain⟨_,_,rfl,C,B⟩:=w.inv;rw[B.c9];exact⟨z,FR.bin f C hp,.same _ (Lp hp)⟩;obtain⟨_,_,rfl,f,w⟩:=h.inv;rw[f.bool,w.c9];simp only[ζa]at hp;subst hp;exact⟨_,rfl,.same _ rfl⟩;obtain⟨_,_,rfl,f,w⟩:=h.inv;rw[f.int,w.c9];simp only[ζa]at hp;subst hp;exact⟨_,rfl,.same _ rfl⟩;obtain⟨_,_,rfl,f,w⟩:=h.inv;rw[f.int,w.c9];simp only[ζa]at hp;subst hp;exact⟨_,rfl,.same _ rfl⟩;rename_i off p;obtain⟨y,_,rfl,f,w⟩:=h.inv;rw[w.c9];unfold ru at hp;split at hp;split at hp;rename_i cs R;simp only[ζa]at hp;subst hp;rcases f.mZ with rfl|⟨id,el,o,es,ys,ds,rfl,Q,m,U,X,L⟩;have q:=f.good;simp only[V.good]at q;exact⟨_,by grind[Go.VE.bN,ru],.same _ (by grind[V.good,z_])⟩;refine⟨.hptr id el (o+off),rfl,FR.Eh Q m U (by have:=L.1;grind) ?_⟩;have:=L.drop off;rw[drop_drop]at this;exact this;simp at hp;exact absurd f.closed (by simp[V.closed]);simp at hp;rename_i off size agg cs;obtain⟨y,_,rfl,f,w⟩:=h.inv;rw[w.c9];obtain⟨Y,rfl,g⟩:=f.iZ;obtain⟨r,m,x⟩:=ζg.1 hp;obtain⟨A,S,D⟩:=g.cut m;obtain⟨J,G,I⟩:=D.mk x;grind[Go.VE.bN];rename_i size s k n;obtain⟨y,_,rfl,f,w⟩:=h.inv;obtain⟨_,_,rfl,C,B⟩:=w.inv;rw[C.int,B.c9];unfold mE at hp;split at hp;simp at hp;rename_i E;split at hp;rename_i es xs;split at hp;rename_i U;obtain⟨c,g,rfl⟩:=ζf.1 hp;rcases f.mR with rfl|⟨id,off,ys,rfl,Q,m,hl,L⟩;have q:=f.good;simp only[V.good]at q;exact⟨_,by grind[Go.VE.bN,mE],.same _ (by grind[V.good,lG])⟩;have hj:n.toNat<xs.length:=(ζe.1 g).1;obtain⟨d,hd,ab⟩:=L.get g;rw[getElem?_take,if_pos hj,getElem?_drop]at hd;exact⟨.hptr id (off+n.toNat) 0,by grind[Go.VE.bN,mE],FR.Eh Q m hd Zab Zac⟩;simp at hp;exact absurd f.closed (by simp[V.closed]);simp at hp;rename_i len size s k n;obtain⟨y,_,rfl,f,w⟩:=h.inv;obtain⟨_,_,rfl,C,B⟩:=w.inv;rw[C.int,B.c9];unfold yq at hp;split at hp;rename_i E;split at hp;split at hp;rename_i cs R;simp only[ζa]at hp;subst hp;rcases f.mZ with rfl|⟨id,el,o,es,ys,ds,rfl,Q,m,U,X,L⟩;have q:=f.good;simp only[V.good]at q;exact⟨_,by grind[Go.VE.bN,yq],.same _ (by grind[V.good,z_])⟩;refine⟨.hptr id el (o+n.toNat*size),by grind[Go.VE.bN,yq],FR.Eh Q m U (by have:=L.1;grind) ?_⟩;have:=L.drop (n.toNat*size);rw[drop_drop]at this;exact this;simp at hp;exact absurd f.closed (by simp[V.closed]);simp at hp;simp at hp;rename_i s k n;obtain⟨y,_,rfl,f,w⟩:=h.inv;obtain⟨_,_,rfl,C,B⟩:=w.inv;rw[f.str,C.int,B.c9];split at hp;next E=>obtain⟨c,g,rfl⟩:=ζf.1 hp;exact⟨_,by grind[Go.VE.bN],.same _ rfl⟩
 simp at hp;rename_i len size agg cs k n;obtain⟨y,_,rfl,f,w⟩:=h.inv;obtain⟨_,_,rfl,C,B⟩:=w.inv;rw[C.int,B.c9];obtain⟨Y,rfl,g⟩:=f.iZ;split at hp;rename_i E;obtain⟨r,m,x⟩:=ζg.1 hp;obtain⟨A,S,D⟩:=g.cut m;obtain⟨J,G,I⟩:=D.mk x;grind[Go.VE.bN];simp at hp;rename_i lo hi s bs;obtain⟨y,_,rfl,f,w⟩:=h.inv;rw[f.str];obtain⟨⟨l,h'⟩,F,hp⟩:=ζg.1 hp;obtain⟨⟨l2,ad⟩,aa,rfl⟩:=ζf.1 hp;exact⟨_,by simp only[Go.VE.bN,w.nq F,ζb,aa,map_some],.same _ rfl⟩;rename_i size lo hi s bs;obtain⟨y,_,rfl,f,w⟩:=h.inv;obtain⟨⟨l,h'⟩,F,hp⟩:=ζg.1 hp;obtain⟨J,G,I⟩:=FR.slice f hp;exact⟨J,by simp only[Go.VE.bN,w.nq F,ζb,G],I⟩;obtain⟨y,_,rfl,f,w⟩:=h.inv;obtain⟨_,_,rfl,C,B⟩:=w.inv;obtain⟨_,_,rfl,T,O⟩:=B.inv;rw[C.int,T.int,O.c9];split at hp;rename_i g;simp only[ζa]at hp;subst hp;refine⟨.dH,?_,.same _ rfl⟩;simp only[ζh]at g;have:M7 y=true:=by have K:=g.1.1;unfold M7 at K;split at K;rcases f.mR with rfl|⟨_,_,_,rfl,_⟩<;>rfl;exact absurd f.closed (by simp[V.closed]);rw[f.dH];rfl;rw[f.bG];rfl;simp at K
 grind[Go.VE.bN];simp at hp;rename_i vs zero pl;obtain⟨r,m,rfl⟩:=ζf.1 hp;obtain⟨A,S,D⟩:=dz.fill (dz.same (W zero pl rfl)) h m;exact⟨.agg A,by grind[Go.VE.bN],.agg _ _ D.1 D.2⟩;rename_i vs name k;simp only[ζa]at hp;subst hp;exact⟨_,rfl,.clo _ _ _ _ _ (h.take k).1 (h.drop k).1 (h.take k).2 (h.drop k).2⟩;rename_i i vs;obtain⟨y,_,rfl,f,w⟩:=h.inv;rw[w.c9];obtain⟨ws,rfl,hw⟩:=f.qZ;obtain⟨J,G,I⟩:=hw.get hp;exact⟨J,G,I⟩;obtain⟨y,_,rfl,f,w⟩:=h.inv;rw[f.str,w.c9];simp only[ζa]at hp;subst hp;exact⟨_,rfl,.same _ rfl⟩;obtain⟨y,_,rfl,f,w⟩:=h.inv;rw[w.c9];unfold oP at hp;split at hp;simp only[ζa]at hp;subst hp;rcases f.mR with rfl|⟨_,_,_,rfl,_⟩<;>exact⟨_,rfl,.same _ rfl⟩;exact absurd f.closed (by simp[V.closed]);rw[f.dH];simp only[ζa]at hp;subst hp;exact⟨_,rfl,.same _ rfl⟩;rw[f.bG];simp only[ζa]at hp;subst hp;exact⟨_,rfl,.same _ rfl⟩;simp at hp;obtain⟨y,_,rfl,f,w⟩:=h.inv;rw[w.c9];unfold IA at hp;split at hp;rw[f.bG];simp only[ζa]at hp;subst hp;exact⟨_,rfl,.same _ rfl⟩;rw[f.dH];simp only[ζa]at hp;subst hp;exact⟨_,rfl,.same _ rfl⟩;simp at hp;obtain⟨_,_,rfl,f,w⟩:=h.inv;obtain⟨_,_,rfl,C,B⟩:=w.inv;rw[f.int,C.int,B.c9];split at hp;next e=>simp only[ζa]at hp;subst hp;exact⟨_,by grind[Go.VE.bN],.same _ rfl⟩
 simp at hp;obtain⟨_,_,rfl,f,w⟩:=h.inv;obtain⟨_,_,rfl,C,B⟩:=w.inv;obtain⟨_,_,rfl,T,O⟩:=B.inv;obtain⟨_,_,rfl,h7,h8⟩:=O.inv;rw[f.int,C.int,T.int,h7.int,h8.c9];split at hp;next e=>simp only[ζa]at hp;subst hp;exact⟨_,by grind[Go.VE.bN],.same _ rfl⟩
 simp at hp;obtain⟨_,_,rfl,f,w⟩:=h.inv;obtain⟨_,_,rfl,C,B⟩:=w.inv;rw[f.int,C.int,B.c9];split at hp;next e=>simp only[ζa]at hp;subst hp;exact⟨_,by grind[Go.VE.bN],.same _ rfl⟩
 simp at hp;obtain⟨_,_,rfl,f,w⟩:=h.inv;obtain⟨_,_,rfl,C,B⟩:=w.inv;rw[f.int,C.int,B.c9];split at hp;rename_i e;simp only[ζa]at hp;subst hp;refine⟨_,by grind[Go.VE.bN],.same _ ?_⟩;grind[V.good,lG,ir,kj];simp at hp;split at hp;rename_i g;obtain rfl:=h.scalar.1 g.1;split at hp;rename_i xs ae;split at hp;rename_i hx;simp only[ζa]at hp;subst hp;refine⟨_,by grind[Go.VE.bN],.same _ ?_⟩;simp only[V.good];exact lG.2 λj u hu=>ir.2 λi v hv=>kj (all_eq_true.1 (all_eq_true.1 hx.2 u (mem_of_getElem? hu)) v (mem_of_getElem? hv));simp at hp;simp at hp;simp at hp;simp only[ζa]at hp;subst hp;rw[h.c9];exact⟨_,rfl,.same _ rfl⟩;simp at hp
end
def oH(p:Nat×Nat)(k:Fl)(es len:Nat):V:=
 match k with
 |.nil=>.bG|.emp=>.dH|_=>.hsl p.1 es p.2 len
structure Nu where
 pl:Nat->Nat×Nat
 inn:Nat->Nat->Nat
instance:CoeFun Nu λ_=>Nat->Nat×Nat:=⟨Nu.pl⟩
def Nu.at(ν:Nu)(d:Nat):Nat->Nat
 |0=>(ν d).1|i+1=>ν.inn d i
inductive Shp where
 |sl(k:Fl)(es n:Nat)|box|mp
def bB.AI:bB->Shp
 |.sl k es xs=>.sl k es xs.length|.dp k xs _=>.sl k 1 xs.length|.box _=>.box|.mp _=>.mp
inductive c6(ν:Nu)(m:Tb bB)(H:bk)(Z:Nat->Prop):SV->V->Prop
 |v(x y:V)(h:FR H Z x y):c6 ν m H Z (.v x) y|own(d:Nat)(y:V)(h:∀ob,bh m d=some ob->∃k es n,ob.AI=.sl k es n/\y=oH (ν d) k es n):c6 ν m H Z (.own d) y|ptr(d o:Nat)(y:V)(h:∀ob,bh m d=some ob->∃cs,ob=.box cs/\y=.hptr (ν d).1 0 o):c6 ν m H Z (.ptr d o) y|el(d i o:Nat)(y:V)(h:∀ob,bh m d=some ob->∃k es n,ob.AI=.sl k es n/\bY k=true/\y=.hptr (ν d).1 ((ν d).2+i) o):c6 ν m H Z (.el d i o) y|mp(d:Nat)(y:V)(h:∀ob,bh m d=some ob->∃kvs,ob=.mp kvs/\y=.hmap (ν d).1):c6 ν m H Z (.mp d) y|clo(f:FuncId)(a b:List SV)(a' b':List V)(ha:a.length=a'.length)(hb:b.length=b'.length)
  (hva:∀(j:Nat)u v,a[j]?=some u->a'[j]?=some v->c6 ν m H Z u v) (hvb:∀(j:Nat)u v,b[j]?=some u->b'[j]?=some v->c6 ν m H Z u v):c6 ν m H Z (.clo f a b) (.clo f a' b')
 |tup(a:List SV)(a':List V)(ha:a.length=a'.length)(hva:∀(j:Nat)u v,a[j]?=some u->a'[j]?=some v->c6 ν m H Z u v):c6 ν m H Z (.tup a) (.tup a')|agg(a:List SV)(a':List V)(ha:a.length=a'.length)(hva:∀(j:Nat)u v,a[j]?=some u->a'[j]?=some v->c6 ν m H Z u v):c6 ν m H Z (.agg a) (.agg a')|yl(id:Nat):c6 ν m H Z (.yl id) (.yld id)
def b7(ν:Nu)(m:Tb bB)(H:bk)(Z:Nat->Prop)(xs:ST)(ys:S'):Prop:=xs.length=ys.length/\∀(j:Nat)u v,xs[j]?=some u->ys[j]?=some v->c6 ν m H Z u v
def ey:bB->X'
 |.sl k _ _|.dp k _ _=>bY k|_=>true
def bB.pt(ob:bB):Nat->X'
 |0=>ey ob|i+1=>match ob with
  |.dp _ xs h=>(match h with|some (j,_)=>j != i|none=>true)&&(match xs[i]?with|some [.fsl ..]=>true|_=>false)|_=>false
def eZ(ν:Nu)(m:Tb bB)(id:Nat):Prop:=∃d ob j,bh m d=some ob/\ob.pt j=true/\ν.at d j=id
def vl(H:bk)(Z:Nat->Prop)(ys:T2):Prop:=∀c∈ys,∀u∈c,∃x,FR H Z x u
def EC(H:bk)(Z:Nat->Prop)(a b:aX (V×V)):Prop:=a.length=b.length/\∀(j:Nat)u v,a[j]?=some u->b[j]?=some v->(u.1=v.1/\u.1.scalar=true)/\FR H Z u.2 v.2
def vP(ν:Nu)(H:bk)(Z:Nat->Prop)(d i:Nat)(x y:S'):Prop:=(x=y/\(x=[.bG]\/x=[.dH]))\/∃es u w,x=[.fsl es u]/\y=[.hsl (ν.inn d i) es 0 u.length]/\H[ν.inn d i]?=some (.row es w)/\fR H Z u w
def oF(ν:Nu)(m:Tb bB)(H:bk)(Z:Nat->Prop)(d:Nat)(h:aY (Nat×Nat))(i:Nat)(x y:S'):Prop:=
 match h with
 |some (j,t)=>if j=i then∃v,y=[v]/\v.one=true/\c6 ν m H Z (.own t) v else vP ν H Z d i x y|none=>vP ν H Z d i x y
def dg(ν:Nu)(m:Tb bB)(H:bk)(Z:Nat->Prop)(d:Nat):bB->Prop
 |.sl k es xs=>if bY k then∃ys,H[(ν d).1]?=some (.row es ys)/\(ν d).2+xs.length<=ys.length/\fR H Z xs ((ys.drop (ν d).2).take xs.length)/\vl H Z ys/\(k=.row->(ν d).2=0/\ys.length=xs.length)
  else xs=[]
 |.box cs=>∃es D,H[(ν d).1]?=some (.row es [D])/\b7 ν m H Z cs D/\D.all V.one=true|.mp G=>∃B,H[(ν d).1]?=some (.map B)/\EC H Z G B|.dp k xs h=>if bY k then k=.row/\(ν d).2=0/\(∀i t,h=some (i,t)->i<xs.length)/\∃ys,H[(ν d).1]?=some (.row 1 ys)/\ys.length=xs.length/\∀i x y,xs[i]?=some x->ys[i]?=some y->oF ν m H Z d h i x y
  else xs=[]/\h=none
structure R(ν:Nu)(Z:Nat->Prop)(st:St)(F:Frame)(H:bk):Prop where
 slot:∀s sv,bh st.g s=some sv->c6 ν st.m H Z sv (get F s)
 obj:∀d ob,bh st.m d=some ob->dg ν st.m H Z d ob
 inj:∀d d' ob ob' j j',bh st.m d=some ob->bh st.m d'=some ob'->ob.pt j=true->ob'.pt j'=true->ν.at d j=ν.at d' j'->d=d'/\j=j'
 apart:∀d ob j,bh st.m d=some ob->ob.pt j=true->¬Z (ν.at d j)
 zrow:∀id,Z id->(bn H id).isSome=true
 deep:Deep H Z
def sameShape(a b:bB):Prop:=b.AI=a.AI
def sameShape.refl(o:bB):sameShape o o:=rfl
def sameShape.trans{a b c:bB}(h:sameShape a b)(k:sameShape b c):sameShape a c:=Eq.trans k h
structure Ev(Rv:Nat->Prop)(ν:Nu)(Z:Nat->Prop)(st:St)(H:bk)(ν':Nu)(Z':Nat->Prop)(st':St)(H':bk):Prop where
 len:H.length<=H'.length
 same:∀id,id<H.length->¬eZ ν st.m id->¬Z id->¬Rv id->H'[id]?=H[id]?
 rows:∀id,Z id->Z' id/\bn H' id=bn H id
 own:∀id,eZ ν' st'.m id->eZ ν st.m id\/Rv id\/H.length<=id
 frz:∀id,Z' id->Z id\/eZ ν st.m id\/Rv id\/H.length<=id
 pin:∀d∈st.pin,∀ob',bh st'.m d=some ob'->∃ob,bh st.m d=some ob/\ν' d=ν d/\sameShape ob ob'
 pins:st'.pin=st.pin
section
variable{Rv Rv':Nat->Prop}{ν ν' ν2:Nu}{Z Z' Z2:Nat->Prop}{st st' st2:St}{m m':Tb bB}{F F':WF}{H H' H2:bk}
def Ev.refl:Ev Rv ν Z st H ν Z st H:=⟨le_refl _,λ_ _ _ _ _=>rfl,λ_ h=>⟨h,rfl⟩,λ_ h=>.inl h,λ_ h=>.inl h,λ_ _ u h=>⟨u,h,rfl,.refl _⟩,rfl⟩
def Ev.trans(a:Ev Rv ν Z st H ν' Z' st' H')(b:Ev Rv ν' Z' st' H' ν2 Z2 st2 H2):Ev Rv ν Z st H ν2 Z2 st2 H2 where
 len:=le_trans a.len b.len
 same:=λid B u C hr=>by rw[b.same id (Nat.lt_of_lt_of_le B a.len) (λh=>(a.own id h).elim u λh=>h.elim hr λh=>Zaa) (λh=>(a.frz id h).elim C λh=>h.elim u λh=>h.elim hr λh=>Zaa) hr,a.same id B u C hr]
 rows:=λid h=>⟨(b.rows id (a.rows id h).1).1,by rw[(b.rows id (a.rows id h).1).2,(a.rows id h).2]⟩
 own:=λid h=>by rcases b.own id h with h|h|h;exact a.own id h;grind;exact .inr (.inr (le_trans a.len h))
 frz:=λid h=>by rcases b.frz id h with h|h|h|h;exact a.frz id h;rcases a.own id h with h|h|h;grind;grind;grind;grind;exact .inr (.inr (.inr (le_trans a.len h)))
 pin:=λd hd w h=>by have⟨z,c,G,D⟩:=b.pin d (by rw[a.pins];omega) w h;have⟨ob,k1,k2,k3⟩:=a.pin d hd z c;exact⟨ob,k1,Zad,k3.trans D⟩
 pins:=by rw[b.pins,a.pins]
def Ev.weak(h:∀id,Rv id->Rv' id)(a:Ev Rv ν Z st H ν' Z' st' H'):Ev Rv' ν Z st H ν' Z' st' H':=⟨a.len,λid u w z hr=>a.same id u w z (λk=>hr (h id k)),a.rows,λid k=>(a.own id k).imp (λx=>x) (.imp (h id) (λx=>x)),λid k=>(a.frz id k).imp (λx=>x) (.imp (λx=>x) (.imp (h id) (λx=>x))),a.pin,a.pins⟩
theorem cn{α:Type}:∀(g:Tb α)(n:Nat)(v:α),bh (bF g n v) n=some v
 |[],n,v=>by simp[bF,bh]|(k,x)::r,n,v=>by simp[bF];split;(next h=>simp[bh,h]);rename_i h;simp[bh,h,cn r n v]
def cO{α:Type}:∀(g:Tb α){n k:Nat}(v:α),n≠k->bh (bF g n v) k=bh g k
 |[],n,k,v,h=>by simp[bF,bh,h]|(j,x)::r,n,k,v,h=>by simp[bF];split;(next a=>subst a;simp[bh,h]);simp[bh];split;rfl;exact cO r v h
def qO{α:Type}:∀{g:Tb α}{n:Nat}{v:α},bh g n=some v->bF g n v=g
 |[],n,v,h=>by cases h|(k,x)::r,n,v,h=>by simp[bh]at h;simp[bF];split;grind;rename_i e;rw[if_neg e]at h;rw[qO h]
def xW{α:Type}:∀(g:Tb α)(n:Nat),bh (dL n g) n=none
 |[],n=>rfl|(k,x)::r,n=>by simp[dL];split;exact xW r n;rename_i a;simp[bh];rw[if_neg a];exact xW r n
def xE{α:Type}:∀(g:Tb α){n k:Nat},n≠k->bh (dL n g) k=bh g k
 |[],n,k,h=>rfl|(j,x)::r,n,k,h=>by simp[dL];split;(next a=>subst a;simp[bh];rw[if_neg h];exact xE r h);simp[bh];split;rfl;exact xE r h
theorem lR{α:Type}{g:Tb α}{n k:Nat}{v:α}(h:bh (dL n g) k=some v):n≠k/\bh g k=some v:=by by_cases e:n=k;subst e;rw[xW]at h;simp_all;rw[xE g e]at h;grind
def pz{α:Type}{k:Nat}{v:α}:∀{ds:So}{g:Tb α},bh (qp ds g) k=some v->bh g k=some v
 |[],_,h=>h|d::ds,g,h=>(lR (pz h)).2
def rz{α:Type}{g:Tb α}{k:Nat}{v:α}:∀{l:So}{r:Tb α},kD g l=some r->bh r k=some v->bh g k=some v
 |[],r,h,B=>by simp[kD]at h;subst h;simp[bh]at B|n::l,r,h,B=>by simp[kD]at h;split at h;rename_i w t G D;simp at h;subst h;simp[bh]at B;split at B;grind;exact rz D B;grind
def z7{d:Nat}:∀{g:Tb SV}{s:Nat}{sv:SV},vA d g=false->bh g s=some sv->sv.cM d=false
 |[],_,_,_,h=>by simp[bh]at h|(k,x)::r,s,sv,h,B=>by simp[vA]at h;simp[bh]at B;split at B;grind;exact z7 h.2 B
def s_{d:Nat}:∀{g:Tb bB}{s:Nat}{ob:bB},uC d g=false->bh g s=some ob->ob.cM d=false
 |[],_,_,_,h=>by simp[bh]at h|(k,x)::r,s,sv,h,B=>by simp[uC]at h;simp[bh]at B;split at B;grind;exact s_ h.2 B
theorem vf{d:Nat}:∀{l:ST}{j:Nat}{u:SV},SV.dF d l=false->l[j]?=some u->u.cM d=false
 |[],_,_,_,h=>Zad|x::r,j,u,h,B=>by simp[SV.dF]at h;cases j with|zero=>grind|succ j=>exact vf h.2 (by simpa using B)
def tM{d:Nat}:∀{l:ST}{j:Nat}{u:SV},l[j]?=some u->u.cM d=true->SV.dF d l=true
 |[],_,_,h,_=>Zad|x::r,j,u,h,B=>by simp[SV.dF];cases j with|zero=>grind|succ j=>exact .inr (tM (j:=j) Zac B)
def c6.mono{sv:SV}{y:V}(T:∀id,Z id->Z' id/\bn H' id=bn H id)
 (r:c6 ν m H Z sv y)(B:∀d,sv.cM d=true->∀ob',bh m' d=some ob'->∃ob,bh m d=some ob/\ν' d=ν d/\sameShape ob ob'):c6 ν' m' H' Z' sv y:=by
 induction r with
 |v x y h=>exact .v x y (h.mono T)|own d y h=>
  refine .own d y λob' z=>?_
  have⟨ob,e,C,D⟩:=B d (by simp[SV.cM]) ob' z
  obtain⟨k,es,n,J,rfl⟩:=h ob e;exact⟨k,es,n,Eq.trans D J,by rw[C]⟩
 |ptr d o y h=>
  refine .ptr d o y λob' z=>?_
  have⟨ob,e,C,D⟩:=B d (by simp[SV.cM]) ob' z
  obtain⟨cs,rfl,rfl⟩:=h ob e;cases ob'<;>cases D;exact⟨_,rfl,by rw[C]⟩
 |el d i o y h=>
  refine .el d i o y λob' z=>?_
  have⟨ob,e,C,D⟩:=B d (by simp[SV.cM]) ob' z
  obtain⟨k,es,n,J,O,rfl⟩:=h ob e;exact⟨k,es,n,Eq.trans D J,O,by rw[C]⟩
 |mp d y h=>
  refine .mp d y λob' z=>?_
  have⟨ob,e,C,D⟩:=B d (by simp[SV.cM]) ob' z
  obtain⟨cs,rfl,rfl⟩:=h ob e;cases ob'<;>cases D;exact⟨_,rfl,by rw[C]⟩
 |clo f a b G Q I S hva U w L=>exact .clo f a b G Q I S (λj u v c g=>w j u v c g λd hd=>B d (by simp[SV.cM,tM c hd])) (λj u v c g=>L j u v c g λd hd=>B d (by simp[SV.cM,tM c hd]))|tup a G I hva w=>exact .tup a G I (λj u v c g=>w j u v c g λd hd=>B d (by simp[SV.cM,tM c hd]))|agg a G I hva w=>exact .agg a G I (λj u v c g=>w j u v c g λd hd=>B d (by simp[SV.cM,tM c hd]))|yl id=>exact .yl id
def b7.mono{sv:ST}{y:S'}(B:∀id,Z id->Z' id/\bn H' id=bn H id)(r:b7 ν m H Z sv y)(D:∀d,SV.dF d sv=true->∀ob',bh m' d=some ob'->∃ob,bh m d=some ob/\ν' d=ν d/\sameShape ob ob'):b7 ν' m' H' Z' sv y:=⟨r.1,λj u v a b=>(r.2 j u v a b).mono B λd hd=>D d (tM a hd)⟩
def b7.nil:b7 ν m H Z [] []:=⟨rfl,Zab⟩
def b7.cons{x:SV}{y:V}{xs:ST}{ys:S'}(h:c6 ν m H Z x y)(r:b7 ν m H Z xs ys):b7 ν m H Z (x::xs) (y::ys):=by refine⟨by simp[r.1],λj u v a b=>?_⟩;cases j with|zero=>grind|succ j=>exact r.2 j u v Zac Zac
def b7.inv{x:SV}{xs:ST}{B:S'}(r:b7 ν m H Z (x::xs) B):∃y ys,B=y::ys/\c6 ν m H Z x y/\b7 ν m H Z xs ys:=by cases B with|nil=>have:=r.1;grind|cons y ys=>refine⟨y,ys,rfl,r.2 0 x y rfl rfl,by have:=r.1;grind,λj u v a b=>r.2 (j+1) u v Zac Zac⟩
def b7.c9{B:S'}(r:b7 ν m H Z [] B):B=[]:=by have:=r.1;grind
theorem b7.get{xs:ST}{ys:S'}(r:b7 ν m H Z xs ys){j:Nat}{u:SV}(h:xs[j]?=some u):∃v,ys[j]?=some v/\c6 ν m H Z u v:=by
 have w:=(ζe.1 h).1;have:j<ys.length:=by rw[<-r.1];omega
 exact⟨ys[j],ζd this,r.2 j u _ h (ζd this)⟩
def b7.append{a c:ST}{b d:S'}(h:b7 ν m H Z a b)(k:b7 ν m H Z c d):b7 ν m H Z (a++c) (b++d):=by refine⟨by simp[h.1,k.1],λj u v e f=>?_⟩;by_cases w:j<a.length;rw[getElem?_append_left w]at e;rw[getElem?_append_left (by rw[<-h.1];omega)]at f;exact h.2 j u v e f;rw[getElem?_append_right Zaa]at e;rw[getElem?_append_right (by rw[<-h.1];omega),<-h.1]at f;exact k.2 _ u v e f
def b7.take{a:ST}{b:S'}(h:b7 ν m H Z a b)(n:Nat):b7 ν m H Z (a.take n) (b.take n):=by
 refine⟨by simp[h.1],λj u v c d=>?_⟩;rw[getElem?_take]at c d;split at c;next w=>rw[if_pos w]at d;exact h.2 j u v c d
 grind
def b7.drop{a:ST}{b:S'}(h:b7 ν m H Z a b)(n:Nat):b7 ν m H Z (a.drop n) (b.drop n):=by refine⟨by simp[h.1],λj u v c d=>?_⟩;rw[getElem?_drop]at c d;exact h.2 _ u v c d
theorem c6.fr{x y:V}(r:c6 ν m H Z (.v x) y):FR H Z x y:=by cases r;assumption
def b7.rG{xs ys:S'}(r:dz H Z xs ys):b7 ν m H Z (xs.map .v) ys:=by refine⟨by simp[r.1],λj u v a b=>?_⟩;rw[List.getElem?_map,ζf]at a;obtain⟨x,w,rfl⟩:=a;exact .v x v (r.2 j x v w b)
def vV:∀{svs:ST}{xs:S'},dy svs=some xs->svs=xs.map .v
 |[],xs,h=>by simp[dy]at h;grind|x::r,xs,h=>by(cases x<;>simp only[dy]at h<;>first|grind|skip);obtain⟨t,B,rfl⟩:=ζf.1 h;rw[vV B];rfl
def b7.XE{xs ys:S'}(r:b7 ν m H Z (xs.map .v) ys):dz H Z xs ys:=by refine⟨by have:=r.1;grind,λj u v b a=>?_⟩;have:(xs.map SV.v)[j]?=some (.v u):=Zac;exact(r.2 j _ v this a).fr
end
section
variable{ν:Nu}{Z:Nat->Prop}{st:St}{m:Tb bB}{F:WF}{H H1:bk}{N:Nat->Y'}
def qd(nm:Y'->aY Nat):U'->aY Arg
 |.tmp t=>some (.s t)|.const v=>match ofValue 4 v with
  |some c=>if c.good then some (.k c)else none|none=>none
 |.func f=>(nm f).map .f|.global g=>match bT.gl g with
  |some cs=>if(V.fptr cs).good then some (.k (.fptr cs))else none|none=>none
def Fu{nm:Y'->aY Nat}(D:∀f s,nm f=some s->N s=f){g:Tb SV}(G:∀s sv,bh g s=some sv->c6 ν m H Z sv (get F s)){o:U'}{x:Arg}{sv:SV}(B:qd nm o=some x)(a:rU N g x=some sv):
 ∃y,ev F o=some y/\c6 ν m H Z sv y:=by
 cases o with
 |tmp t=>simp[qd]at B;subst B;exact⟨get F t,rfl,G t sv a⟩|const w=>
  simp[qd]at B;split at B
  .rename_i c hc;split at B
   next u=>simp at B;subst B;simp[rU]at a;subst a;exact⟨c,hc,.v _ _ (.same _ u)⟩
   grind
  grind
 |func f=>simp[qd]at B;obtain⟨z,C,rfl⟩:=B;simp[rU]at a;subst a;exact⟨_,rfl,.v _ _ (by rw[D f z C];exact .same _ rfl)⟩|global i=>
  simp[qd]at B;split at B
  .rename_i c hc;split at B
   next u=>simp at B;subst B;simp[rU]at a;subst a;exact⟨.fptr c,by simp[ev,hc],.v _ _ (.same _ u)⟩
   grind
  grind
def pE{nm:Y'->aY Nat}(D:∀f s,nm f=some s->N s=f){g:Tb SV}(G:∀s sv,bh g s=some sv->c6 ν m H Z sv (get F s)):∀{os:aX U'}{xs:QP}{svs:ST},
 os.mapM (qd nm)=some xs->bW N g xs=some svs->∃ys,fC F os=some ys/\b7 ν m H Z svs ys
 |[],xs,svs,B,hv=>by simp at B;subst B;simp[bW]at hv;subst hv;exact⟨[],rfl,.nil⟩|o::os,xs,svs,B,hv=>by simp[ζg]at B;obtain⟨x,J,ys,T,rfl⟩:=B;simp[bW]at hv;split at hv;(next v C b w=>simp at hv;subst hv;have⟨a,B,z⟩:=Fu D G J b;have⟨az,c,u⟩:=pE D G T w;exact⟨a::az,by grind[fC],.cons z u⟩);grind
def c6.gE{d:Nat}{y:V}(r:c6 ν m H Z (.own d) y){ob:bB}(h:bh m d=some ob):∃k es n,ob.AI=.sl k es n/\y=oH (ν d) k es n:=by cases r with|own _ _ u=>grind
def c6.pW{d o:Nat}{y:V}(r:c6 ν m H Z (.ptr d o) y){ob:bB}(h:bh m d=some ob):∃cs,ob=.box cs/\y=.hptr (ν d).1 0 o:=by cases r with|ptr _ _ _ u=>grind
def c6.vY{d i o:Nat}{y:V}(r:c6 ν m H Z (.el d i o) y){ob:bB}(h:bh m d=some ob):∃k es n,ob.AI=.sl k es n/\bY k=true/\y=.hptr (ν d).1 ((ν d).2+i) o:=by cases r with|el _ _ _ _ u=>grind
def c6.E0{d:Nat}{y:V}(r:c6 ν m H Z (.mp d) y){ob:bB}(h:bh m d=some ob):∃B,ob=.mp B/\y=.hmap (ν d).1:=by cases r with|mp _ _ u=>grind
def c6.kS{f:Y'}{a b:ST}{y:V}(r:c6 ν m H Z (.clo f a b) y):∃a' B,y=.clo f a' B/\b7 ν m H Z a a'/\b7 ν m H Z b B:=by cases r with|clo _ _ _ a' B w z hva u=>exact⟨a',B,rfl,⟨w,hva⟩,⟨z,u⟩⟩
def c6.qZ{a:ST}{y:V}(r:c6 ν m H Z (.tup a) y):∃a',y=.tup a'/\b7 ν m H Z a a':=by cases r with|tup _ a' u hva=>exact⟨a',rfl,u,hva⟩
def c6.iZ{a:ST}{y:V}(r:c6 ν m H Z (.agg a) y):∃a',y=.agg a'/\b7 ν m H Z a a':=by cases r with|agg _ a' u hva=>exact⟨a',rfl,u,hva⟩
def oI{p:Nat×Nat}{k:Fl}{es len:Nat}(h:bY k=true):oH p k es len=.hsl p.1 es p.2 len:=by cases k<;>simp[bY]at h<;>rfl
def kr{x:SV}{y:V}(h:nu m x=true)(r:c6 ν m H Z x y):y.cells=[y]/\y.one=true:=by cases x with|v x=>grind[nu]|own d=>have⟨ob,u⟩:=isSome_iff_exists.1 h;obtain⟨k,es,n,_,rfl⟩:=r.gE u;cases k<;>exact⟨rfl,rfl⟩|ptr d o=>have⟨ob,u⟩:=isSome_iff_exists.1 h;obtain⟨cs,rfl,rfl⟩:=r.pW u;exact⟨rfl,rfl⟩|el d i o=>have⟨ob,u⟩:=isSome_iff_exists.1 h;obtain⟨k,es,n,_,_,rfl⟩:=r.vY u;exact⟨rfl,rfl⟩|mp d=>have⟨ob,u⟩:=isSome_iff_exists.1 h;obtain⟨w,rfl,rfl⟩:=r.E0 u;exact⟨rfl,rfl⟩|clo f a b=>obtain⟨z,B,rfl,_⟩:=r.kS;exact⟨rfl,rfl⟩|tup l=>grind[nu]|agg l=>grind[nu]|yl id=>grind[nu]
def PK{x:SV}{y:V}(h:Aq m x=true)(r:c6 ν m H Z x y):y.one=true:=by
 cases x with
 |v x=>
  have u:=r.fr;have w:x.one=true:=h;have c:=u.cells;have e:x.cells=[x]:=by cases x<;>first|rfl|grind[V.one]
  rw[e]at c;have g:=c.one;have z:=c.1
  cases y with
  |agg l=>cases u with|same _ _=>grind|agg _ _ _ _=>grind[V.one]
  |tup l=>cases u with|same _ _=>grind|tup _ _ _ _=>grind[V.one]
  |_=>rfl
 |own d=>exact(kr (x:=.own d) h r).2|ptr d o=>exact(kr (x:=.ptr d o) h r).2|el d i o=>exact(kr (x:=.el d i o) h r).2|mp d=>exact(kr (x:=.mp d) h r).2|clo f a b=>exact(kr (x:=.clo f a b) h r).2|tup l=>grind[Aq,nu]|agg l=>grind[Aq,nu]|yl id=>grind[Aq,nu]
def GX{l:ST}{ys:S'}(h:l.all (Aq m)=true)(r:b7 ν m H Z l ys):ys.all V.one=true:=by
 refine all_eq_true.2 λy w=>?_;have⟨j,z,e⟩:=List.mem_iff_getElem.1 w;have u:j<l.length:=by rw[r.1];omega
 exact PK (all_eq_true.1 h _ (List.getElem_mem u)) (r.2 j _ y (ζd u) Zac)
def PN{x:SV}{y:V}{c:ST}(h:Jn m x=some c)(r:c6 ν m H Z x y):b7 ν m H Z c y.cells:=by
 unfold Jn at h;split at h;cases h;exact b7.rG r.fr.cells;cases h;obtain⟨z,rfl,u⟩:=r.iZ;exact u;split at h;next w=>cases h;rw[(kr w r).1];exact .cons r .nil
 simp_all
def JY:∀{pl:aX (Nat×Nat)}{vs cells l:ST}{B cells':S'},b7 ν m H Z cells cells'->b7 ν m H Z vs B->AH m cells pl vs=some l->∃D,lH cells' pl B=some D/\b7 ν m H Z l D
 |[],[],cells,l,B,cells',hc,hv,h=>by rw[hv.c9];simp[AH]at h;subst h;exact⟨_,rfl,hc⟩|[],_::_,_,_,_,_,_,_,h=>by grind[AH]|_::_,[],_,_,_,_,_,_,h=>by grind[AH]|(off,size)::pl,v::vs,cells,l,B,cells',hc,hv,h=>by obtain⟨w,G,rfl,b,J⟩:=hv.inv;simp only[AH]at h;split at h;rename_i c z;have a:=PN z b;split at h;have⟨D,e1,e2⟩:=JY (cells':=cells'.take off++w.cells++cells'.drop (off+w.cells.length)) (by rw[<-a.1];exact((hc.take off).append a).append (hc.drop _)) J h;have u:w.cells.length=size/\off+w.cells.length<=cells'.length:=(by rw[<-a.1,<-hc.1];omega);grind[lH];simp_all;simp_all
theorem J4{size o:Nat}{agg:X'}{cs:ST}{B:S'}{sv:SV}(h:b7 ν m H Z cs B)(hp:wO size agg ((cs.drop o).take size)=some sv):∃y,(cut B o size).bind (mk agg)=some y/\c6 ν m H Z sv y:=by
 have u:=(h.drop o).take size;unfold wO at hp;split at hp;have a:cut B o size=some ((B.drop o).take size):=by unfold cut;rw[if_pos (by rw[<-u.1];omega)]
 rw[a];split at hp;split at hp;rename_i D w;cases hp;have z:=by rw[vV w]at u;exact u.XE
 exact⟨_,by simp_all[mk],.v _ _ (.agg _ _ z.1 z.2)⟩;cases hp;exact⟨_,by simp_all[mk],.agg _ _ u.1 u.2⟩;split at hp;rename_i x w;simp at hp;subst hp;rw[w]at u;have⟨y,G,e,I,C⟩:=u.inv;rw[e,C.c9];grind[mk];grind;grind
theorem Ro{p:v7}{svs:ST}{ys:S'}{sv:SV}(o:∀zero pl,p=.build zero pl->V.cQ zero=true)(i:∀d ob,bh m d=some ob->dg ν m H Z d ob)(h:b7 ν m H Z svs ys)(hp:B2 N m p svs=some sv):∃y,bN N p ys=some y/\c6 ν m H Z sv y:=by
 unfold B2 at hp;split at hp;obtain⟨y,_,rfl,c,B⟩:=h.inv;rw[B.c9];simp at hp;subst hp;exact⟨y,rfl,c⟩;obtain⟨y,_,rfl,c,B⟩:=h.inv;rw[B.c9];split at hp;next L=>simp at hp;subst hp;have⟨ob,u⟩:=isSome_iff_exists.1 L;obtain⟨cs,rfl,rfl⟩:=c.pW u;exact⟨_,rfl,c⟩
 grind;obtain⟨y,_,rfl,c,B⟩:=h.inv;rw[B.c9];split at hp;next L=>simp at hp;subst hp;have⟨ob,u⟩:=isSome_iff_exists.1 L;obtain⟨k,es,n,L,f,rfl⟩:=c.vY u;exact⟨_,rfl,c⟩
 grind;rename_i t a b;obtain⟨Q,_,rfl,c,B⟩:=h.inv;obtain⟨T,_,rfl,O,D⟩:=B.inv;obtain⟨q,_,rfl,E,r⟩:=D.inv;rw[c.fr.bool,r.c9];simp at hp;refine⟨if t=true then T else q,rfl,?_⟩;grind
 .obtain⟨Q,_,rfl,c,B⟩:=h.inv;obtain⟨T,_,rfl,O,D⟩:=B.inv;rw[O.fr.bG,D.c9];split at hp
  .rename_i k es U u;split at hp;simp_all;simp at hp;subst hp;obtain⟨W,G,I,e,rfl⟩:=c.gE u;cases e;cases k<;>first|grind|exact⟨_,rfl,.v _ _ (.same _ rfl)⟩
  grind
 .obtain⟨Q,_,rfl,c,B⟩:=h.inv;obtain⟨T,_,rfl,O,D⟩:=B.inv;rw[O.fr.bG,D.c9];split at hp
  .rename_i k es U u;split at hp;simp_all;simp at hp;subst hp;obtain⟨W,G,I,e,rfl⟩:=c.gE u;cases e;cases k<;>first|grind|exact⟨_,rfl,.v _ _ (.same _ rfl)⟩
  grind
 obtain⟨y,_,rfl,c,B⟩:=h.inv;rw[B.c9];split at hp;next L=>simp at hp;subst hp;have⟨ob,u⟩:=isSome_iff_exists.1 L;obtain⟨cs,rfl,rfl⟩:=c.pW u;exact⟨_,rfl,.ptr _ _ _ λJ C=>Zac⟩
 grind;obtain⟨y,_,rfl,c,B⟩:=h.inv;rw[B.c9];split at hp;next L=>simp at hp;subst hp;have⟨ob,u⟩:=isSome_iff_exists.1 L;obtain⟨k,es,n,L,f,rfl⟩:=c.vY u;exact⟨_,rfl,.el _ _ _ _ λJ C=>by rw[u]at C;grind⟩
 simp at hp;obtain⟨Q,_,rfl,c,B⟩:=h.inv;obtain⟨T,_,rfl,O,D⟩:=B.inv;rw[O.fr.int,D.c9];split at hp;rename_i k es U u;split at hp;rename_i g;obtain⟨f,rfl,X,S⟩:=g;simp at hp;subst hp;obtain⟨W,G,I,e,rfl⟩:=c.gE u;cases e;rw[oI f];refine⟨.hptr (ν _).1 ((ν _).2+_) 0,by simp only[bN,mE,if_neg (Int.not_lt.2 X),true_and,if_pos S];rfl,.el _ _ _ _ λJ C=>?_⟩;rw[u]at C;cases C;exact⟨_,_,_,rfl,f,rfl⟩;simp at hp;rename_i k U w u;split at hp;rename_i g;obtain⟨f,rfl,X,S⟩:=g;simp at hp;subst hp;obtain⟨W,G,I,e,rfl⟩:=c.gE u;cases e;rw[oI f];refine⟨.hptr (ν _).1 ((ν _).2+_) 0,by simp only[bN,mE,if_neg (Int.not_lt.2 X),true_and,if_pos S];rfl,.el _ _ _ _ λJ C=>?_⟩;rw[u]at C;cases C;exact⟨_,_,_,rfl,f,rfl⟩;simp at hp;simp at hp;obtain⟨Q,_,rfl,c,B⟩:=h.inv;obtain⟨T,_,rfl,O,D⟩:=B.inv;rw[O.fr.int,D.c9];split at hp;rename_i g;simp at hp;subst hp;have⟨ob,u⟩:=isSome_iff_exists.1 g.2.2;obtain⟨cs,rfl,rfl⟩:=c.pW u;refine⟨.hptr (ν _).1 0 (_+_),by simp only[bN,yq,if_pos (And.intro g.1 g.2.1)];rfl,.ptr _ _ _ λJ C=>?_⟩;rw[u]at C;grind;simp at hp;obtain⟨Q,_,rfl,c,B⟩:=h.inv;obtain⟨T,_,rfl,O,D⟩:=B.inv;rw[O.fr.int,D.c9];split at hp;rename_i g;simp at hp;subst hp;have⟨ob,u⟩:=isSome_iff_exists.1 g.2.2;obtain⟨k,es,n,L,f,rfl⟩:=c.vY u;refine⟨.hptr (ν _).1 (_+_) (_+_),by simp only[bN,yq,if_pos (And.intro g.1 g.2.1)];rfl,.el _ _ _ _ λJ C=>?_⟩;rw[u]at C;grind;simp at hp;obtain⟨Q,_,rfl,c,B⟩:=h.inv;rw[B.c9];split at hp;rename_i k es U u;simp at hp;subst hp;obtain⟨W,G,I,e,rfl⟩:=c.gE u;cases e;have:=i _ _ u;simp[dg]at this;cases f:k<;>simp[f,bY]at this⊢;subst this;exact⟨_,rfl,.v _ _ (.same _ rfl)⟩;subst this;exact⟨_,rfl,.v _ _ (.same _ rfl)⟩;exact⟨_,rfl,.v _ _ (.same _ rfl)⟩;exact⟨_,rfl,.v _ _ (.same _ rfl)⟩;rename_i k U w u;simp at hp;subst hp;obtain⟨W,G,I,e,rfl⟩:=c.gE u;cases e;have:=i _ _ u;simp[dg]at this;cases f:k<;>simp[f,bY]at this⊢;obtain⟨rfl,_⟩:=this;exact⟨_,rfl,.v _ _ (.same _ rfl)⟩;obtain⟨rfl,_⟩:=this;exact⟨_,rfl,.v _ _ (.same _ rfl)⟩;exact⟨_,rfl,.v _ _ (.same _ rfl)⟩;simp at hp;rename_i vs name k;simp at hp;subst hp;exact⟨_,rfl,.clo _ _ _ _ _ (h.take k).1 (h.drop k).1 (h.take k).2 (h.drop k).2⟩;obtain⟨Q,_,rfl,c,B⟩:=h.inv;rw[B.c9];obtain⟨s,rfl,j⟩:=c.qZ;have⟨z,v,Y⟩:=j.get hp;exact⟨z,v,Y⟩;rename_i vs zero pl;obtain⟨l,x,rfl⟩:=ζf.1 hp;have⟨A,c,B⟩:=JY (b7.rG (dz.same (o zero pl rfl))) h x;exact⟨.agg A,by grind[Go.VE.bN],.agg _ _ B.1 B.2⟩;obtain⟨Q,_,rfl,c,B⟩:=h.inv;rw[B.c9];obtain⟨s,rfl,j⟩:=c.iZ;grind[J4,Go.VE.bN];grind
def Kn{p:v7}{svs:ST}{ys:S'}{sv:SV}(B:∀zero pl,p=.build zero pl->V.cQ zero=true)(G:∀d ob,bh m d=some ob->dg ν m H Z d ob)(h:b7 ν m H Z svs ys)(hp:kG N m p svs=some sv):
 ∃y,bN N p ys=some y/\c6 ν m H Z sv y:=by
 unfold kG at hp;split at hp
 next I u=>obtain⟨z,w,rfl⟩:=ζf.1 hp;rw[vV u]at h;have⟨C,a,D⟩:=dz.bN B h.XE w;exact⟨C,a,.v _ _ D⟩
 grind[Ro]
def b7.dy{svs:ST}{xs ys:S'}(h:b7 ν m H Z svs ys)(B:dy svs=some xs):dz H Z xs ys:=by rw[vV B]at h;exact h.XE
def De{k:V}:∀{a b:aX (V×V)}{i:Nat},EC H Z a b->(i_ k a i=some none->i_ k b i=some none)/\∀j v,i_ k a i=some (some (j,v))->∃B,i_ k b i=some (some (j,B))/\FR H Z v B
 |[],b,i,h=>by have:b=[]:=length_eq_zero_iff.1 (by have:=h.1;grind);grind[i_]|(k1,x)::a,[],i,h=>by have:=h.1;grind|(k1,x)::a,(k2,y)::b,i,h=>by have⟨⟨e,_⟩,z⟩:=h.2 0 _ _ rfl rfl;subst e;have w:EC H Z a b:=⟨by have:=h.1;grind,λj u v c d=>h.2 (j+1) u v Zac Zac⟩;have C:=De (i:=i+1) (k:=k) w;grind[i_]
def wW{kk:yY}{k:V}(h:qX kk k=true):k.scalar=true:=by unfold qX at h;split at h;rfl;rfl;simp at h;have⟨a,u⟩:=isSome_iff_exists.1 h.2;exact sE u;grind
def xC{r:Mj}{svs:ST}{ys:S'}{sv:SV}(ak:∀s a,r≠.loadF s a)(T:∀kk z ok,r=.lookup kk z ok->z.good=true)(h:b7 ν m H Z svs ys)(n:∀d,SV.dF d svs=true->∀ob,bh m d=some ob->dg ν m H Z d ob)(hp:qt m r svs=some sv):
 ∃y,fq H r ys=some y/\c6 ν m H Z sv y:=by
 unfold qt at hp;split at hp
 .
  obtain⟨U,_,rfl,b,I⟩:=h.inv;rw[I.c9];split at hp
  .rename_i cs u;obtain⟨al,e,rfl⟩:=b.pW u;obtain⟨es,am,g,o,_⟩:=n _ (by simp[SV.dF,SV.cM]) _ u
   grind[J4,fq,eN,Ob.rows]
  grind
 .
  obtain⟨U,_,rfl,b,I⟩:=h.inv;rw[I.c9];split at hp
  .rename_i k es xs u;split at hp
   .rename_i cs W;obtain⟨z,L,rfl⟩:=ζf.1 hp;obtain⟨k1,R,an,e,f,rfl⟩:=b.vY u;cases e;have:=n _ (by simp[SV.dF,SV.cM]) _ u
    simp[dg,f]at this;obtain⟨rs,g,K,B,_⟩:=this;obtain⟨c,o,ad⟩:=B.get W;have q:=(ζe.1 W).1;rw[getElem?_take,if_pos q,getElem?_drop]at o;obtain⟨r1,w,J⟩:=ζg.1 L;obtain⟨r2,ae,C⟩:=ad.cut w;obtain⟨A,X,Y⟩:=C.mk J;refine⟨A,?_,.v _ _ Y⟩
    grind[fq,eN,Ob.rows]
   grind
  .rename_i k xs j t u;split at hp
   .rename_i o;obtain⟨rfl,rfl,rfl,rfl⟩:=o;cases hp;obtain⟨k1,R,n1,e,f,rfl⟩:=b.vY u;cases e;have:=n _ (by simp[SV.dF,SV.cM]) _ u
    simp only[dg,f,if_true]at this;obtain⟨_,h0,af,ys,g,K,B⟩:=this;have q:=af _ _ rfl;have:=B j _ _ (ζd q) (ζd Zaa)
    simp only[oF,if_true]at this;obtain⟨v,e1,e2,e3⟩:=this;exact⟨v,by simp[fq,eN,g,Ob.rows,h0,K,q,e1,cut,mk],e3⟩
   grind
  grind
 .
  rename_i size agg p;obtain⟨U,_,rfl,b,I⟩:=h.inv;rw[I.c9];obtain⟨z,L,rfl⟩:=ζf.1 hp;obtain⟨r1,w,J⟩:=ζg.1 L;unfold eN at w;split at w
  .rename_i cs;rcases b.fr.mZ with rfl|⟨id,el,off,es,ys,ao,rfl,Y,g,he,ap,B⟩
   .refine⟨z,by grind[fq,eN],.v _ _ (.same _ ?_)⟩
    have ah:=by have:=b.fr.good;simpa[V.good]using this
    obtain⟨r',aq,C⟩:=(dz.same (H:=H) (Z:=Z) ah).cut w;obtain⟨A,X,D⟩:=C.mk J;exact D.good
   obtain⟨r2,ae,C⟩:=B.cut w;obtain⟨A,X,D⟩:=C.mk J;refine⟨A,?_,.v _ _ D⟩
   grind[bn,fq,eN,cut]
  all_goals grind
 .
  rename_i kk z ok d k;obtain⟨U,_,rfl,b,I⟩:=h.inv;obtain⟨M,_,rfl,E,F⟩:=I.inv;rw[F.c9];split at hp
  .rename_i O u;split at hp
   .rename_i f;obtain⟨_,e,rfl⟩:=b.E0 u;have Q:=E.fr.scalar.1 (wW f);subst Q;obtain⟨aj,g,ai⟩:=n _ (by simp[SV.dF,SV.cM]) _ u
    obtain⟨f1,f2⟩:=De ai;split at hp
    .rename_i j v B;obtain⟨N,ar,P⟩:=f2 j v B;simp at hp;subst hp;refine⟨if ok=true then .tup [N,.bool true]else N,by grind[fq,nO],?_⟩
     cases ok
     .exact .v _ _ P
     refine .v _ _ (.tup _ _ rfl (dz.cons P (.cons (.same _ rfl) .nil)).2)
    .rename_i B;simp at hp;subst hp;refine⟨if ok=true then .tup [z,.bool false]else z,by grind[fq,nO],?_⟩
     have L:=T kk z ok rfl;cases ok
     .exact .v _ _ (.same _ L)
     exact .v _ _ (.same _ (by grind[V.good,V.cQ]))
    grind
   grind
  grind
 .
  rename_i kk z ok p k;obtain⟨U,_,rfl,b,I⟩:=h.inv;obtain⟨M,_,rfl,E,F⟩:=I.inv;rw[F.c9];obtain⟨x,G,rfl⟩:=ζf.1 hp;simp[fq]at G;have L:=T kk z ok rfl;split at G
  .rename_i O S;have key:nO H U=some O/\V.uB O=true:=by
    unfold nO at S;split at S
    .rw[b.fr.gR];simp at S;subst S;exact⟨rfl,rfl⟩
    .rw[b.fr.fmap];simp at S;subst S;exact⟨rfl,by have:=b.fr.good;grind[V.good]⟩
    all_goals grind
   split at G
   .rename_i f;have Q:=E.fr.scalar.1 (wW f);subst Q;split at G
    .rename_i j v B;simp at G;subst G;have hv:=by
      have:∀{l:aX (V×V)}{i:Nat},V.uB l=true->i_ M l i=some (some (j,v))->v.good=true:=by intro l;induction l with|nil=>grind[i_]|cons p l ih=>intro i hg h;simp[V.uB]at hg;simp[i_]at h;grind
      exact this key.2 B
     refine⟨if ok=true then .tup [v,.bool true]else v,by grind[fq],?_⟩
     cases ok
     .exact .v _ _ (.same _ hv)
     exact .v _ _ (.same _ (by grind[V.good,V.cQ]))
    .rename_i B;simp at G;subst G;refine⟨if ok=true then .tup [z,.bool false]else z,by grind[fq],?_⟩
     cases ok
     .exact .v _ _ (.same _ L)
     exact .v _ _ (.same _ (by grind[V.good,V.cQ]))
    simp at G
   simp at G
  simp at G
 all_goals grind
end
section
variable{Rv:Nat->Prop}{ν ν':Nu}{Z Z':Nat->Prop}{st st':St}{m m':Tb bB}{F F':WF}{H H':bk}
def tc{k:Fl}{xs:T2}{h:aY (Nat×Nat)}{i:Nat}(hp:(bB.dp k xs h).pt (i+1)=true):(∀t,h≠some (i,t))/\∃es B,xs[i]?=some [.fsl es B]:=by simp only[bB.pt,ζh]at hp;have⟨a,u⟩:=hp;refine⟨λt e=>?_,?_⟩;subst e;simp at a;split at u;exact⟨_,_,by assumption⟩;cases u
def oF.out{d i:Nat}{h:aY (Nat×Nat)}{x y:S'}(B:∀t,h≠some (i,t)):oF ν m H Z d h i x y↔vP ν H Z d i x y:=by unfold oF;split;rename_i j t;have:j≠i:=λe=>B t (by rw[e]);rw[if_neg this];rfl
def dg.at{d:Nat}{ob:bB}(o:dg ν m H Z d ob){j:Nat}(h:ob.pt j=true):∃x,H[ν.at d j]?=some x:=by
 cases j with
 |zero=>have h:ey ob=true:=h;cases ob with|sl k es z=>simp only[ey]at h;simp only[dg,h,if_true]at o;exact⟨_,o.choose_spec.1⟩|box cs=>have⟨es,C,a,_⟩:=o;exact⟨_,a⟩|mp D=>have⟨B,a,_⟩:=o;exact⟨_,a⟩|dp k z w=>simp only[ey]at h;simp only[dg,h,if_true]at o;have⟨_,_,_,G,a,_⟩:=o;exact⟨_,a⟩
 |succ i=>
  cases ob with
  |dp k z w=>have⟨b,es,J,u⟩:=tc h;simp only[dg]at o;split at o;have⟨_,_,_,G,a,L,I⟩:=o;have hi:=(ζe.1 u).1;have:=(oF.out b).1 (I i _ _ u (ζd Zaa));rcases this with⟨_,h|h⟩|⟨_,_,O,_,_,h,_⟩;cases h;cases h;exact⟨_,h⟩;rw[o.1]at u;cases u
  |_=>simp[bB.pt]at h
def dg.free{d:Nat}{ob:bB}(o:dg ν m H Z d ob){j:Nat}(h:ob.pt j=true):H[ν.at d j]?≠some .free:=by
 cases j with
 |zero=>have h:ey ob=true:=h;show H[(ν d).1]?≠_;cases ob with|sl k es z=>simp only[ey]at h;simp only[dg,h,if_true]at o;have⟨B,a,_⟩:=o;rw[a];simp|box cs=>have⟨es,D,a,_⟩:=o;rw[a];simp|mp G=>have⟨C,a,_⟩:=o;rw[a];simp|dp k z w=>simp only[ey]at h;simp only[dg,h,if_true]at o;have⟨_,_,_,B,a,_⟩:=o;rw[a];simp
 |succ i=>
  cases ob with
  |dp k z w=>have⟨b,es,J,u⟩:=tc h;simp only[dg]at o;split at o;have⟨_,_,_,B,a,L,I⟩:=o;have hi:=(ζe.1 u).1;rcases(oF.out b).1 (I i _ _ u (ζd Zaa))with⟨_,h|h⟩|⟨_,_,O,_,_,h,_⟩;cases h;cases h;show H[ν.inn d i]?≠_;rw[h];simp;rw[o.1]at u;cases u
  |_=>simp[bB.pt]at h
def R.lt(r:R ν Z st F H){id:Nat}(h:eZ ν st.m id):id<H.length:=by obtain⟨d,ob,j,a,u,rfl⟩:=h;have⟨o,w⟩:=(r.obj d ob a).at u;exact(ζe.1 w).1
def R.vQ(r:R ν Z st F H){id:Nat}(h:Z id):id<H.length:=by have:=r.zrow id h;unfold bn at this;have⟨x,u⟩:=isSome_iff_exists.1 this;have⟨ob,a,_⟩:=ζg.1 u;exact(ζe.1 a).1
def Deep.mono(d:Deep H Z)(h:∀id,Z id->bn H' id=bn H id):Deep H' Z where
 row:=λid es z w hr c hc u hu=>by rw[h id w]at hr;have⟨x,B⟩:=d.row id es z w hr c hc u hu;exact⟨x,B.mono λk a=>⟨a,h k a⟩⟩
def vl.mono{ys:T2}(h:∀id,Z id->Z' id/\bn H' id=bn H id)(s:vl H Z ys):vl H' Z' ys:=λc a u b=>by have⟨x,w⟩:=s c a u b;exact⟨x,w.mono h⟩
def EC.mono{a b:aX (V×V)}(h:∀id,Z id->Z' id/\bn H' id=bn H id)(s:EC H Z a b):EC H' Z' a b:=⟨s.1,λj u v c d=>⟨(s.2 j u v c d).1,(s.2 j u v c d).2.mono h⟩⟩
def dg.mono{d J:Nat}{ob:bB}(B:∀id,Z id->Z' id/\bn H' id=bn H id)(hd:ν' J=ν d)(D:∀j,ob.pt j=true->H'[ν.at d j]?=H[ν.at d j]?)
 (T:∀e,ob.cM e=true->∀ob',bh m' e=some ob'->∃ob,bh m e=some ob/\ν' e=ν e/\sameShape ob ob')(o:dg ν m H Z d ob)(hi:ν'.inn J=ν.inn d:=by rfl):dg ν' m' H' Z' J ob:=by
 cases ob with
 |sl k es W=>
  simp only[dg,hd]at o⊢;split
  next a=>rw[if_pos a]at o;have⟨I,b,u,C,L,O⟩:=o;exact⟨I,(D 0 (by simpa[bB.pt,ey]using a)).trans b,u,C.mono B,L.mono B,O⟩
  rename_i a;rw[if_neg a]at o;exact o
 |box cs=>have⟨es,Q,b,u,C⟩:=o;exact⟨es,Q,by rw[hd];exact(D 0 rfl).trans b,u.mono B T,C⟩|mp X=>have⟨G,b,u⟩:=o;exact⟨G,by rw[hd];exact(D 0 rfl).trans b,u.mono B⟩|dp k W w=>
  simp only[dg,hd]at o⊢;split
  .rename_i a;rw[if_pos a]at o;have⟨Y,b,u,I,C,L,O⟩:=o;refine⟨Y,b,u,I,(D 0 a).trans C,L,λi x y U c=>?_⟩
   have f:(∀t,w≠some (i,t))->vP ν H Z d i x y->vP ν' H' Z' J i x y:=λz h=>by rcases h with h|⟨es,g,l,rfl,rfl,e1,e2⟩;exact .inl h;refine .inr ⟨es,g,l,rfl,by rw[hi],?_,e2.mono B⟩;rw[hi];have:=D (i+1) (by simp only[bB.pt,U,Bool.and_true];split<;>grind);simp only[Nu.at]at this;rw[this];exact e1
   have S:=O i x y U c
   by_cases z:∃t,w=some (i,t)
   .obtain⟨t,rfl⟩:=z;simp only[oF,if_true]at S⊢;have⟨v,e1,e2,e3⟩:=S;exact⟨v,e1,e2,e3.mono B λe n=>T e (by simpa[SV.cM,bB.cM]using n)⟩
   have z:∀t,w≠some (i,t):=λt e=>z ⟨t,e⟩
   exact(oF.out z).2 (f z ((oF.out z).1 S))
  rename_i a;rw[if_neg a]at o;exact o
def jt(ν:Nu)(m:Tb bB)(e:Nat):∀ob',bh m e=some ob'->∃ob,bh m e=some ob/\ν e=ν e/\sameShape ob ob':=λob' h=>⟨ob',h,rfl,.refl _⟩
def R.heap(r:R ν Z st F H)(D:∀id,eZ ν st.m id->H'[id]?=H[id]?)(B:∀id,Z id->bn H' id=bn H id):R ν Z st F H' where
 slot:=λs u w=>(r.slot s u w).mono (λid h=>⟨h,B id h⟩) λd _=>jt ν st.m d
 obj:=λd ob hd=>dg.mono (λid h=>⟨h,B id h⟩) rfl (λj z=>D _ ⟨d,ob,j,hd,z,rfl⟩) (λe _=>jt ν st.m e) (r.obj d ob hd)
 inj:=r.inj
 apart:=r.apart
 zrow:=λid h=>by rw[B id h];exact r.zrow id h
 deep:=r.deep.mono B
def R.put(r:R ν Z st F H){d:Nat}{sv:SV}{y:V}(h:c6 ν st.m H Z sv y):R ν Z {st with g:=bF st.g d sv} (set F d y) H where
 slot:=λs x u=>by by_cases e:d=s;subst e;rw[cn]at u;cases u;rw[uf];exact h;rw[cO st.g sv e]at u;rw[jG _ _ e];exact r.slot s x u
 obj:=r.obj
 inj:=r.inj
 apart:=r.apart
 zrow:=r.zrow
 deep:=r.deep
def Ev.slots(g:Tb SV):Ev Rv ν Z st H ν Z {st with g:=g} H:=⟨le_refl _,λ_ _ _ _ _=>rfl,λ_ h=>⟨h,rfl⟩,λ_ h=>.inl h,λ_ h=>.inl h,λ_ _ u h=>⟨u,h,rfl,.refl _⟩,rfl⟩
def hD(ν:Nu)(d:Nat)(p:Nat×Nat):Nu:=⟨λk=>if k=d then p else ν k,ν.inn⟩
theorem iH(ν:Nu)(d:Nat)(p:Nat×Nat):hD ν d p d=p:=if_pos rfl
def Cq(ν:Nu){d k:Nat}(p:Nat×Nat)(h:k≠d):hD ν d p k=ν k:=if_neg h
def LB(ν:Nu){d k:Nat}(p:Nat×Nat)(h:k≠d)(j:Nat):(hD ν d p).at k j=ν.at k j:=by cases j with|zero=>simp only[Nu.at,Cq ν p h]|succ i=>rfl
def bB.flat(ob:bB):Prop:=∀j,ob.pt j=true->j=0
def jV{ob:bB}(h:∀k xs w,ob≠.dp k xs w):ob.flat:=λj u=>by cases j with|zero=>rfl|succ i=>cases ob<;>simp[bB.pt]at u h
def kK{d:Nat}(h:st.new d=true):d∉st.pin/\bh st.m d=none/\vA d st.g=false/\uC d st.m=false:=by unfold St.new at h;simp only[ζh,not_eq_true',Option.isNone_iff_eq_none,List.contains_eq_mem,decide_eq_false_iff_not]at h;exact⟨h.1.1.1,h.1.1.2,h.1.2,h.2⟩
def AA{d:Nat}{ob:bB}{p:Nat×Nat}{e:Nat}(h:e≠d):∀ob',bh (bF m d ob) e=some ob'->∃ob,bh m e=some ob/\hD ν d p e=ν e/\sameShape ob ob':=λob' u=>by rw[cO m ob (Ne.symm h)]at u;exact⟨ob',u,Cq ν p h,.refl _⟩
def nG{ob ob':bB}(D:ey ob'=ey ob)(B:ob'.flat:=by exact jV Zab):∀j,ob'.pt j=true->ob.pt j=true:=λj h=>by have:=B j h;subst this;exact(show ey ob=true from D▸h)
def jH(ν:Nu)(d:Nat)(p:Nat×Nat)(f:Nat->Nat):Nu:=⟨λk=>if k=d then p else ν k,λk=>if k=d then f else ν.inn k⟩
def sP(ν:Nu){d k:Nat}(p:Nat×Nat)(f:Nat->Nat)(h:k≠d)(j:Nat):(jH ν d p f).at k j=ν.at k j:=by cases j with|zero=>exact congrArg fst (if_neg h)|succ i=>exact congrFun (if_neg h) i
def nU(ν:Nu)(d:Nat)(p:Nat×Nat)(f:Nat->Nat):(jH ν d p f) d=p/\(jH ν d p f).inn d=f:=⟨if_pos rfl,if_pos rfl⟩
def Rf(ν:Nu)(d:Nat)(p:Nat×Nat):hD ν d p=jH ν d p (ν.inn d):=by
 have:(jH ν d p (ν.inn d)).inn=ν.inn:=funext λk=>by show(if k=d then ν.inn d else ν.inn k)=_;split;(next h=>rw[h]);rfl
 show(⟨_,ν.inn⟩:Nu)=⟨_,(jH ν d p (ν.inn d)).inn⟩;rw[this]
def R.SK(r:R ν Z st F H){d:Nat}{ob:bB}{p:Nat×Nat}{f:Nat->Nat}(n:bh st.m d=none)(W:vA d st.g=false)(Y:∀e o,bh st.m e=some o->o.cM d=true->dg (jH ν d p f) (bF st.m d ob) H Z e o)
 (T:∀j,ob.pt j=true->¬eZ ν st.m ((jH ν d p f).at d j)/\¬Z ((jH ν d p f).at d j))(g:∀j U,ob.pt j=true->ob.pt U=true->(jH ν d p f).at d j=(jH ν d p f).at d U->j=U)(i:dg (jH ν d p f) (bF st.m d ob) H Z d ob):
 R (jH ν d p f) Z {st with m:=bF st.m d ob} F H:=by
 have key:∀w u,bh (bF st.m d ob) w=some u->w≠d->bh st.m w=some u:=λw u h e=>by rw[cO st.m ob (Ne.symm e)]at h;exact h
 have c:∀e,e≠d->∀u,bh (bF st.m d ob) e=some u->∃ob,bh st.m e=some ob/\(jH ν d p f) e=ν e/\sameShape ob u:=λe D u h=>⟨u,key e u h D,if_neg D,.refl _⟩
 refine⟨λs Q G=>?_,λw u hd=>?_,?_,?_,r.zrow,r.deep⟩
 .refine(r.slot s Q G).mono (λid h=>⟨h,rfl⟩) λe D=>c e ?_
  rintro rfl;rw[z7 W G]at D;cases D
 .by_cases e:w=d
  .subst e;simp only at hd;rw[cn]at hd;cases hd;exact i
  have I:=key w u hd e
  by_cases G:u.cM d=true
  .exact Y w u I G
  refine dg.mono (λid h=>⟨h,rfl⟩) (if_neg e) (λ_ _=>rfl) (λk l=>c k ?_) (r.obj w u I) (if_neg e)
  rintro rfl;exact G l
 .intro b d2 o1 o2 L O a z B J C
  by_cases e1:b=d<;>by_cases e2:d2=d
  .subst e1;subst e2;simp only at a z;rw[cn]at a z;cases a;cases z;exact⟨rfl,g _ _ B J C⟩
  .subst e1;simp only at a;rw[cn]at a;cases a;rw[sP ν p f e2]at C;exact absurd ⟨d2,o2,O,key d2 o2 z e2,J,C.symm⟩ (T _ B).1
  .subst e2;simp only at z;rw[cn]at z;cases z;rw[sP ν p f e1]at C;exact absurd ⟨b,o1,L,key b o1 a e1,B,C⟩ (T _ J).1
  rw[sP ν p f e1,sP ν p f e2]at C;exact r.inj b d2 o1 o2 L O (key b o1 a e1) (key d2 o2 z e2) B J C
 intro b o1 j a B
 by_cases e1:b=d
 .subst e1;simp only at a;rw[cn]at a;cases a;exact(T _ B).2
 rw[sP ν p f e1];exact r.apart b o1 j (key b o1 a e1) B
def R.add(r:R ν Z st F H){d:Nat}(G:st.new d=true){ob:bB}{p:Nat×Nat}(J:ey ob=true->¬eZ ν st.m p.1/\¬Z p.1)(D:dg (hD ν d p) (bF st.m d ob) H Z d ob)(B:ob.flat:=by exact jV Zab):
 R (hD ν d p) Z {st with m:=bF st.m d ob} F H:=by
 have⟨_,w,z,C⟩:=kK G;rw[Rf]at D⊢;refine r.SK w z (λe o h u=>?_) (λj h=>?_) (λj L h I _=>by rw[B _ h,B _ I]) D
 .rw[s_ C h]at u;cases u
 have:=B _ h;subst this;simp only[Nu.at,nU];exact J h
def I5{d:Nat}{ob:bB}{p:Nat×Nat}{f:Nat->Nat}{id:Nat}(h:eZ (jH ν d p f) (bF m d ob) id):eZ ν m id\/∃j,ob.pt j=true/\(jH ν d p f).at d j=id:=by have⟨k,o,j,a,w,u⟩:=h;by_cases e:k=d;subst e;rw[cn]at a;cases a;exact .inr ⟨j,w,u⟩;rw[sP ν p f e]at u;rw[cO m ob (Ne.symm e)]at a;exact .inl ⟨k,o,j,a,w,u⟩
def B_{d:Nat}{ob:bB}{p:Nat×Nat}{id:Nat}(h:eZ (hD ν d p) (bF m d ob) id)(B:ob.flat:=by exact jV Zab):eZ ν m id\/(ey ob=true/\id=p.1):=by have⟨k,o,j,a,w,u⟩:=h;by_cases e:k=d;subst e;rw[cn]at a;cases a;have:=B _ w;subst this;simp only[Nu.at,iH]at u;exact .inr ⟨w,u.symm⟩;rw[LB ν p e]at u;rw[cO m ob (Ne.symm e)]at a;exact .inl ⟨k,o,j,a,w,u⟩
def Ev.add{d:Nat}(D:st.new d=true){ob:bB}{p:Nat×Nat}(G:H.length<=H'.length)(J:∀id,id<H.length->¬Rv id->H'[id]?=H[id]?)(T:∀id,Z id->bn H' id=bn H id)
 (hp:ey ob=true->Rv p.1\/H.length<=p.1)(B:ob.flat:=by exact jV Zab):Ev Rv ν Z st H (hD ν d p) Z {st with m:=bF st.m d ob} H' where
 len:=G
 same:=λid h _ _ hr=>J id h hr
 rows:=λid h=>⟨h,T id h⟩
 own:=λid h=>by rcases B_ h B with h|⟨a,rfl⟩;exact .inl h;exact .inr (hp a)
 frz:=λid h=>.inl h
 pin:=λe w u h=>by have:e≠d:=(by rintro rfl;exact(kK D).1 w);exact AA this u h
 pins:=rfl
def R.FF(r:R ν Z st F H){d:Nat}{ob ob':bB}(D:bh st.m d=some ob)(G:sameShape ob ob')(U:∀j,ob'.pt j=true->ob.pt j=true)(T:∀id,(ey ob=true->id≠(ν d).1)->H'[id]?=H[id]?)
 (W:dg ν (bF st.m d ob') H' Z d ob'):R ν Z {st with m:=bF st.m d ob'} F H':=by
 have z:∀id,Z id->Z id/\bn H' id=bn H id:=λid h=>⟨h,by
  unfold bn;rw[T id (by rintro B rfl;exact r.apart d ob 0 D B h)]⟩
 have c:∀e u,bh (bF st.m d ob') e=some u->∃w,bh st.m e=some w/\ν e=ν e/\sameShape w u:=λe u h=>by by_cases k:e=d;subst k;rw[cn]at h;cases h;exact⟨ob,D,rfl,G⟩;rw[cO st.m ob' (Ne.symm k)]at h;exact⟨u,h,rfl,.refl _⟩
 have C:∀e u,bh (bF st.m d ob') e=some u->∃w,bh st.m e=some w/\∀j,u.pt j=true->w.pt j=true:=λe u h=>by by_cases k:e=d;subst k;rw[cn]at h;cases h;exact⟨ob,D,U⟩;rw[cO st.m ob' (Ne.symm k)]at h;exact⟨u,h,λ_ h=>h⟩
 refine⟨λs Q G=>(r.slot s Q G).mono z λe _=>c e,λI u hd=>?_,?_,?_,λid h=>by rw[(z id h).2];exact r.zrow id h,r.deep.mono λid h=>(z id h).2⟩
 .by_cases e:I=d
  .subst e;simp only at hd;rw[cn]at hd;cases hd;exact W
  simp only at hd;rw[cO st.m ob' (Ne.symm e)]at hd;refine dg.mono z rfl (λj J=>T _ λB h=>e (r.inj I d u ob j 0 hd D J B h).1) (λk _=>c k) (r.obj I u hd)
 .intro a d2 o1 o2 S X b Y L b2 hp;have⟨p1,k1,O⟩:=C a o1 b;have⟨p2,k2,f⟩:=C d2 o2 Y;exact r.inj a d2 p1 p2 S X k1 k2 (O _ L) (f _ b2) hp
 intro a o1 j b L;have⟨p1,k1,O⟩:=C a o1 b;exact r.apart a p1 j k1 (O _ L)
def Ev.FF(r:R ν Z st F H){d:Nat}{ob ob':bB}(B:bh st.m d=some ob)(G:sameShape ob ob')(J:∀j,ob'.pt j=true->ob.pt j=true)(D:∀id,(ey ob=true->id≠(ν d).1)->H'[id]?=H[id]?)(T:H.length<=H'.length):
 Ev Rv ν Z st H ν Z {st with m:=bF st.m d ob'} H' where
 len:=T
 same:=λid _ I _ _=>D id λu e=>I ⟨d,ob,0,B,u,e.symm⟩
 rows:=λid h=>⟨h,by unfold bn;rw[D id (by rintro u rfl;exact r.apart d ob 0 B u h)]⟩
 own:=λid⟨k,o,j,h1,z,C⟩=>by by_cases e:k=d;subst e;simp only at h1;rw[cn]at h1;cases h1;exact .inl ⟨k,ob,j,B,J _ z,C⟩;simp only at h1;rw[cO st.m ob' (Ne.symm e)]at h1;exact .inl ⟨k,o,j,h1,z,C⟩
 frz:=λid h=>.inl h
 pin:=λe _ w h=>by by_cases k:e=d;subst k;simp only at h;rw[cn]at h;cases h;exact⟨ob,B,rfl,G⟩;simp only at h;rw[cO st.m ob' (Ne.symm k)]at h;exact⟨w,h,rfl,.refl _⟩
 pins:=rfl
def R.gA(r:R ν Z st F H){d:Nat}{ob ob':bB}(D:bh st.m d=some ob)(G:sameShape ob ob')(J:∀j,ob'.pt j=true->ob.pt j=true)(T:∀id,id≠(ν d).1->H'[id]?=H[id]?)(B:ey ob=true)(U:dg ν (bF st.m d ob') H' Z d ob'):R ν Z {st with m:=bF st.m d ob'} F H':=r.FF D G J (λid h=>T id (h B)) U
def Ev.gA(r:R ν Z st F H){d:Nat}{ob ob':bB}(D:bh st.m d=some ob)(G:sameShape ob ob')(J:∀j,ob'.pt j=true->ob.pt j=true)(T:∀id,id≠(ν d).1->H'[id]?=H[id]?)(B:ey ob=true)(U:H.length<=H'.length):Ev Rv ν Z st H ν Z {st with m:=bF st.m d ob'} H':=Ev.FF r D G J (λid h=>T id (h B)) U
def R.less(r:R ν Z st F H){g:Tb SV}{m':Tb bB}(a:∀s sv,bh g s=some sv->bh st.g s=some sv)(B:∀d ob,bh m' d=some ob->bh st.m d=some ob):R ν Z {st with g:=g,m:=m'} F H where
 slot:=λs sv z=>(r.slot s sv (a s sv z)).mono (λid h=>⟨h,rfl⟩) λe _ u h=>⟨u,B e u h,rfl,.refl _⟩
 obj:=λd ob hd=>dg.mono (λid h=>⟨h,rfl⟩) rfl (λ_ _=>rfl) (λe _ u h=>⟨u,B e u h,rfl,.refl _⟩) (r.obj d ob (B d ob hd))
 inj:=λd w ob u j C b D=>r.inj d w ob u j C (B d ob b) (B w u D)
 apart:=λd ob j h=>r.apart d ob j (B d ob h)
 zrow:=r.zrow
 deep:=r.deep
def Ev.less{g:Tb SV}{m':Tb bB}(B:∀d ob,bh m' d=some ob->bh st.m d=some ob):Ev Rv ν Z st H ν Z {st with g:=g,m:=m'} H:=⟨le_refl _,λ_ _ _ _ _=>rfl,λ_ h=>⟨h,rfl⟩,λ_⟨d,ob,j,a,w,z⟩=>.inl ⟨d,ob,j,B d ob a,w,z⟩,λ_ h=>.inl h,λe _ u h=>⟨u,B e u h,rfl,.refl _⟩,rfl⟩
def Ev.heap(B:H.length<=H'.length)(D:∀id,id<H.length->¬eZ ν st.m id->¬Z id->¬Rv id->H'[id]?=H[id]?)(G:∀id,Z id->bn H' id=bn H id):Ev Rv ν Z st H ν Z st H':=⟨B,D,λid h=>⟨h,G id h⟩,λ_ h=>.inl h,λ_ h=>.inl h,λ_ _ u h=>⟨u,h,rfl,.refl _⟩,rfl⟩
def fR.Aj{xs ys:T2}(h:fR H Z xs ys):vl H Z ys:=λc b u d=>by
 have⟨i,hi⟩:=mem_iff_getElem?.1 b;have z:i<xs.length:=by rw[h.1];grind
 have a:=h.2 i _ c (ζd z) hi;have⟨j,B⟩:=mem_iff_getElem?.1 d;have w:j<(xs[i]).length:=by rw[a.1];grind
 exact⟨_,a.2 j _ u (ζd w) B⟩
theorem fR.same{xs:T2}(h:V.nR xs=true):fR H Z xs xs:=⟨rfl,λj u v a b=>by rw[a]at b;grind[dz.same,lG]⟩
def pG{z:S'}(h:V.cQ z=true):∀n,V.nR (replicate n z)=true
 |0=>rfl|n+1=>by simp[List.replicate_succ,V.nR,h,pG h n]
def CN{es:Nat}:∀{ps qs:aX (Nat×V)}{xs B r:T2},fR H Z xs B->ps.map (·.1)=qs.map (·.1)->dz H Z (ps.map (·.2)) (qs.map (·.2))->fK es xs ps=some r->∃G,fK es B qs=some G/\fR H Z r G
 |[],qs,xs,B,r,D,a,J,h=>by simp_all[fK]|(i,v)::ps,qs,xs,B,r,D,a,J,h=>by cases qs with|nil=>simp_all|cons q qs=>obtain⟨j,w⟩:=q;simp at a;obtain⟨e,a⟩:=a;subst e;obtain⟨w',C,e,u,z⟩:=J.inv;obtain⟨rfl,rfl⟩:=e;have b:=u.cells;simp only[fK]at h⊢;split at h;rw[if_pos ⟨by rw[<-b.1];grind,by rw[<-D.1];grind,by rw[b.one];grind⟩];exact CN (D.set i b) a z h;grind
def zip_fst:∀{idx:So}{xs:S'},idx.length=xs.length->(idx.zip xs).map (·.1)=idx
 |[],xs,_=>Zab|i::idx,[],h=>Zad|i::idx,x::xs,h=>by simp[zip_fst (idx:=idx) (xs:=xs) Zac]
def Gm:∀{idx:So}{xs:S'},idx.length=xs.length->(idx.zip xs).map (·.2)=xs
 |[],[],_=>Zab|[],x::xs,h=>Zad|i::idx,[],h=>Zad|i::idx,x::xs,h=>by simp[Gm (idx:=idx) (xs:=xs) Zac]
def O5{a:Qo}{svs:ST}{ys:S'}{d:Nat}{ob:bB}{sv:SV}(b:B6 (.a a)=true)(r:b7 ν m H Z svs ys)(h:qV m a svs d=some (ob,sv)):
 ∃o mk,mB a ys=some (o,mk)/\ey ob=true/\ob.flat/\o≠.free/\∀(id:Nat)(ν':Nu)(m':Tb bB)(H':bk),ν' d=(id,0)->bh m' d=some ob->H'[id]?=some o->(∀k,Z k->bn H' k=bn H k)->
  (∀e,SV.dF e svs=true->∀ob',bh m' e=some ob'->∃ob,bh m e=some ob/\ν' e=ν e/\sameShape ob ob')->dg ν' m' H' Z d ob/\c6 ν' m' H' Z sv (mk.val id):=by
 unfold qV at h;split at h
 .
  rename_i size zero;obtain⟨rfl,rfl⟩:=h;rw[r.c9];simp only[B6,ζh]at b;refine⟨_,_,rfl,rfl,jV Zab,Zab,λid ν' m' H' e1 e2 e3 e4 e5=>⟨⟨_,zero,by rw[e1];omega,b7.rG (dz.same b.1),b.2⟩,?_⟩⟩
  exact .ptr _ _ _ λob' u=>by rw[e2]at u;cases u;exact⟨_,rfl,by rw[e1];rfl⟩
 .
  split at h
  .rename_i C;obtain⟨rfl,rfl⟩:=h;obtain⟨y,_,rfl,f,B⟩:=r.inv;rw[B.c9];have l:=f.fr.cells;refine⟨.row y.cells.length [y.cells],.ptr,by simp[mB,l.one,C],rfl,jV Zab,Zab,λid ν' m' H' e1 e2 e3 e4 e5=>⟨⟨_,y.cells,by rw[e1];omega,b7.rG (l.mono λk b=>⟨b,e4 k b⟩),by rw[l.one];simp_all⟩,?_⟩⟩
   exact .ptr _ _ _ λob' u=>by rw[e2]at u;cases u;exact⟨_,rfl,by rw[e1];rfl⟩
  grind
 .
  split at h
  .rename_i w;obtain⟨rfl,rfl⟩:=h;obtain⟨y,_,rfl,f,B⟩:=r.inv;rw[B.c9];obtain⟨Q,rfl,W⟩:=f.iZ;have D:=GX w W;refine⟨.row Q.length [Q],.ptr,by grind[mB,V.cells],rfl,jV Zab,Zab,λid ν' m' H' e1 e2 e3 e4 e5=>⟨⟨_,Q,by rw[e1];omega,W.mono (λk b=>⟨b,e4 k b⟩) λe S=>e5 e (by grind[SV.dF,SV.cM]),D⟩,?_⟩⟩
   exact .ptr _ _ _ λob' u=>by rw[e2]at u;cases u;exact⟨_,rfl,by rw[e1];rfl⟩
  grind
 .
  split at h
  .rename_i w;obtain⟨rfl,rfl⟩:=h;obtain⟨y,_,rfl,f,B⟩:=r.inv;rw[B.c9];obtain⟨X,D⟩:=kr w f;refine⟨.row [y].length [[y]],.ptr,by grind[mB],rfl,jV Zab,Zab,λid ν' m' H' e1 e2 e3 e4 e5=>⟨⟨_,[y],by rw[e1];omega,.cons (f.mono (λk b=>⟨b,e4 k b⟩) λe S=>e5 e (by grind[SV.dF])) .nil,Zad⟩,?_⟩⟩
   exact .ptr _ _ _ λob' u=>by rw[e2]at u;cases u;exact⟨_,rfl,by rw[e1];rfl⟩
  grind
 .
  rename_i size zero k n F c;obtain⟨_,_,rfl,f,B⟩:=r.inv;obtain⟨_,_,rfl,q,s⟩:=B.inv;rw[f.fr.int,q.fr.int,s.c9];split at h
  .rename_i l;obtain⟨rfl,rfl⟩:=h;have T:bY (if n=c then Fl.row else Fl.part)=true:=by split<;>rfl
   refine⟨_,_,by simp only[mB];rw[if_pos l],T,jV Zab,Zab,λid ν' m' H' e1 e2 e3 e4 e5=>⟨?_,?_⟩⟩
   .simp[dg,T,e1];have v:=pG b c.toNat;have U:n.toNat<=c.toNat:=by omega
    refine⟨_,e3,Zad,?_,(fR.same v).Aj,λe=>?_⟩
    .simp[Nat.min_eq_left U];exact fR.same (pG b _)
    grind
   refine .own _ _ λob' u=>?_
   rw[e2]at u;cases u;exact⟨_,_,_,rfl,by rw[oI T,e1];simp[Mk.val]⟩
  grind
 .
  rename_i vs size len zero idx;split at h
  .rename_i xs G;split at h
   .rename_i w;obtain⟨rows,A,e⟩:=ζf.1 h;obtain⟨rfl,rfl⟩:=e;have O:=r.dy G;obtain⟨g,I,z⟩:=CN (qs:=idx.zip ys) (fR.same (pG b len)) (by rw[zip_fst w,zip_fst (by rw[<-O.1];exact w)]) (by rw[Gm w,Gm (by rw[<-O.1];exact w)];exact O) A
    have J:g.length=len:=by have:∀{ps:aX (Nat×V)}{a r:T2},fK size a ps=some r->r.length=a.length:=(by intro ps;induction ps with|nil=>grind[fK]|cons p ps ih=>grind[fK]);rw[this I];simp
    refine⟨.row size g,.sl size len,by simp only[mB];rw[if_pos (by rw[<-O.1];exact w),I];rfl,rfl,jV Zab,Zab,λid ν' m' H' e1 e2 e3 e4 e5=>⟨?_,?_⟩⟩
    .have L:=z.mono λk b=>⟨b,e4 k b⟩
     simp only[dg,e1];refine⟨_,e3,by simp[z.1],?_,L.Aj,λ_=>⟨trivial,z.1.symm⟩⟩
     simp[z.1];exact L
    refine .own _ _ λob' u=>?_
    rw[e2]at u;cases u;exact⟨_,_,_,rfl,by rw[z.1,J];grind[oH,Mk.val]⟩
   grind
  split at h
  .rename_i t _;split at h
   .rename_i l;obtain⟨rfl,rfl,rfl,w⟩:=l;obtain⟨rfl,rfl⟩:=h;obtain⟨y,_,rfl,f,B⟩:=r.inv;rw[B.c9];obtain⟨X,D⟩:=kr (x:=.own t) w f;refine⟨.row 1 [[y]],.sl 1 1,by simp[mB,fK,X,D],rfl,λj E=>?_,Zab,λid ν' m' H' e1 e2 e3 e4 e5=>⟨?_,?_⟩⟩
    .cases j with
     |zero=>rfl|succ i=>cases i<;>simp[bB.pt]at E
    .simp only[dg,bY,if_true,e1];refine⟨trivial,trivial,λi K e=>by cases e;simp,_,e3,rfl,λi x M G Y=>?_⟩
     cases i with
     |zero=>simp at G Y;subst G;subst Y;simp only[oF,if_true];exact⟨y,rfl,D,f.mono (λk b=>⟨b,e4 k b⟩) λe S=>e5 e (by simp[SV.dF,S])⟩|succ i=>simp at G
    refine .own _ _ λob' u=>?_
    rw[e2]at u;cases u;exact⟨_,_,_,rfl,by simp[oH,e1,Mk.val]⟩
   cases h
  cases h
 .
  obtain⟨rfl,rfl⟩:=h;rw[r.c9];refine⟨_,_,rfl,rfl,jV Zab,Zab,λid ν' m' H' e1 e2 e3 e4 e5=>⟨⟨_,by rw[e1];exact e3,rfl,Zab⟩,?_⟩⟩
  exact .mp _ _ λob' u=>by rw[e2]at u;cases u;exact⟨_,rfl,by rw[e1];rfl⟩
 grind
def b7.Xg{cs:ST}{B:S'}(h:b7 ν m H Z cs B){size o:Nat}{x:SV}{y:V}{r:ST}(G:c6 ν m H Z x y)(hp:putCells m size o x cs=some r)(D:B.all V.one=true):
 y.cells.length=size/\o+size<=B.length/\y.cells.all V.one=true/\b7 ν m H Z r (B.take o++y.cells++B.drop (o+y.cells.length))/\(B.take o++y.cells++B.drop (o+y.cells.length)).all V.one=true:=by
 have u:∀k:Nat,(B.take k).all V.one=true/\(B.drop k).all V.one=true:=λk=>⟨all_eq_true.2 λz C=>all_eq_true.1 D z (List.mem_of_mem_take C),all_eq_true.2 λz C=>all_eq_true.1 D z (List.mem_of_mem_drop C)⟩
 unfold putCells at hp;split at hp
 .split at hp
  .rename_i hc;simp only[ζa]at hp;subst hp;have w:=G.fr.cells;refine⟨by rw[<-w.1];simp_all,by rw[<-h.1];grind,by rw[w.one];grind,?_,?_⟩
   .have e:y.cells.length=size:=by rw[<-w.1];simp_all
    rw[e];exact((h.take o).append (b7.rG w)).append (h.drop _)
   simp only[List.all_append,(u _).1,(u _).2,w.one,hc.2.2,Bool.and_self]
  grind
 .split at hp
  .rename_i hc;simp only[ζa]at hp;subst hp;obtain⟨L,rfl,I⟩:=G.iZ;have O:=GX hc.2.2 I
   grind[b7,V.cells]
  grind
 split at hp
 .rename_i hc;simp only[ζa]at hp;subst hp;have⟨J,Q⟩:=kr hc.1 G;rw[J];refine⟨by simp[hc.2.1],by rw[<-h.1];grind,Zad,?_,?_⟩
  .exact((h.take o).append (.cons G .nil)).append (h.drop _)
  grind
 grind
def vN{size:Nat}{x:SV}{y:V}{xs:T2}(r:c6 ν m H Z x y)(B:∀d ob,bh m d=some ob->dg ν m H Z d ob)(h:je m size x=some xs):∃ys,dM H size y=some ys/\fR H Z xs ys:=by
 unfold je at h;split at h;split at h;rename_i k es w u;obtain⟨_,_,_,e,rfl⟩:=r.gE u;cases e;have o:=B _ _ u;simp[dg]at o;split at h;rename_i a;rw[if_pos a]at o;split at h;rename_i z;simp at h;subst h;have⟨ys,b,C,D,_⟩:=o;rw[oI a];grind[dM,Ob.rows];grind;rename_i a;simp at h;subst h;refine⟨[],?_,rfl,Zab⟩;cases k<;>simp[bY]at a<;>rfl;grind;simp at h;subst h;rw[r.fr.bG];exact⟨[],rfl,rfl,Zab⟩;simp at h;subst h;rw[r.fr.dH];exact⟨[],rfl,rfl,Zab⟩
 .split at h
  .rename_i es w z;simp at h;subst h;have c:=r.fr.good;rcases r.fr.mR with rfl|⟨id,off,ys,rfl,G,b,C,D⟩;all_goals simp_all[dM,fR.same,V.good,bn]
  grind
 grind
def Ev.re{m1:Tb bB}(D:∀d ob,bh m1 d=some ob->bh st.m d=some ob){d:Nat}(U:d∉st.pin){ob:bB}{p:Nat×Nat}(G:H.length<=H'.length)(J:∀id,id<H.length->¬eZ ν st.m id->¬Rv id->H'[id]?=H[id]?)
 (T:∀id,Z id->bn H' id=bn H id)(hp:ey ob=true->eZ ν st.m p.1\/Rv p.1\/H.length<=p.1)(B:ob.flat:=by exact jV Zab):Ev Rv ν Z st H (hD ν d p) Z {st with m:=bF m1 d ob} H' where
 len:=G
 same:=λid h C _ hr=>J id h C hr
 rows:=λid h=>⟨h,T id h⟩
 own:=λid h=>by rcases B_ h B with h|⟨a,rfl⟩;have⟨k,o,j,a,w,z⟩:=h;exact .inl ⟨k,o,j,D k o a,w,z⟩;grind
 frz:=λid h=>.inl h
 pin:=λe I u h=>by have:e≠d:=Zac;have⟨o,a,w,z⟩:=AA (ν:=ν) (p:=p) this u h;grind
 pins:=rfl
def Kept(dst:aY Nat)(ν:Nu)(m:Tb bB)(ν':Nu)(m':Tb bB):Prop:=∀e u,dst≠some e->bh m' e=some u->∃ob,bh m e=some ob/\ν' e=ν e/\sameShape ob u/\∀j,u.pt j=true->ob.pt j=true/\ν'.at e j=ν.at e j
def Kept.refl{dst:aY Nat}:Kept dst ν m ν m:=λe u _ h=>⟨u,h,rfl,.refl _,λ_ h=>⟨h,rfl⟩⟩
def Kept.gA{dst:aY Nat}{d:Nat}{ob ob':bB}(B:bh m d=some ob)(D:sameShape ob ob')(hp:∀j,ob'.pt j=true->ob.pt j=true):Kept dst ν m ν (bF m d ob'):=λe u _ h=>by by_cases k:e=d;subst k;rw[cn]at h;cases h;exact⟨ob,B,rfl,D,λj h=>⟨hp j h,rfl⟩⟩;rw[cO m ob' (Ne.symm k)]at h;exact⟨u,h,rfl,.refl _,λ_ h=>⟨h,rfl⟩⟩
def Kept.add{d:Nat}{ob:bB}{p:Nat×Nat}{m1:Tb bB}(B:∀d ob,bh m1 d=some ob->bh m d=some ob):Kept (some d) ν m (hD ν d p) (bF m1 d ob):=λe u w h=>by have:e≠d:=λh=>w (by rw[h]);have⟨o,a,z,D⟩:=AA (ν:=ν) (p:=p) this u h;rw[cO _ _ (Ne.symm this)]at h;exact⟨u,B e u h,z,.refl _,λj C=>⟨C,LB ν p this j⟩⟩
def lB{d:Nat}:∀e ob,bh (dL d m) e=some ob->bh m e=some ob:=λ_ _ h=>(lR h).2
def EC.put{k x y:V}{a b r:aX (V×V)}(D:k.scalar=true)(h:EC H Z a b)(J:FR H Z x y)(hp:qJ k x a=some r):∃B,qJ k y b=some B/\EC H Z r B:=by unfold qJ at hp;obtain⟨d,C⟩:=De h;split at hp;rename_i j v G;simp at hp;subst hp;obtain⟨L,I,_⟩:=C j v G;refine⟨b.set j (k,y),by grind[qJ],by simp[h.1],λi u w c z=>?_⟩;rw[getElem?_set]at c z;split at c;grind;rename_i e;rw[if_neg e]at z;exact h.2 i u w c z;simp at hp;subst hp;refine⟨b++[(k,y)],by grind[qJ],by simp[h.1],λi u w c z=>?_⟩;by_cases hi:i<a.length;rw[getElem?_append_left hi]at c;rw[getElem?_append_left (by rw[<-h.1];omega)]at z;exact h.2 i u w c z;rw[getElem?_append_right (by rw[<-h.1];omega),<-h.1]at z;grind;grind
def ME(r:R ν Z st F H){d:Nat}{cs:ST}(B:bh st.m d=some (.box cs)):∀{l:ST}{D:S'},b7 ν st.m H Z l D->l.all (No st.m d)=true->D.all (oL (ν d).1)=true:=by intro l;induction l with|nil=>intro D C _;rw[C.c9];rfl|cons a l O=>intro D C G;obtain⟨w,D,rfl,g1,g2⟩:=C.inv;simp only[List.all_cons,ζh]at G⊢;refine⟨?_,O g2 G.2⟩;have u:=G.1;unfold No at u;split at u;rename_i Q T;simp at u;have⟨I,J⟩:=u;split at J;(next S z=>obtain⟨_,_,rfl⟩:=g1.pW z;simp[oL];exactλe=>I (r.inj Q d _ _ 0 0 z B rfl rfl e).1);grind;rcases FR.mZ g1.fr with rfl|⟨id,el,off,_,_,_,rfl,L,_⟩;rfl;simp[oL];rintro rfl;exact r.apart d _ 0 B rfl L;grind
def Iw{d:Nat}{k:Fl}{xs:T2}(o:dg ν m H Z d (.dp k xs none)):∃rs,dM H 1 (oH (ν d) k 1 xs.length)=some rs/\rs.length=xs.length/\(bY k=true->(ν d).2=0/\H[(ν d).1]?=some (.row 1 rs))/\∀i x y,xs[i]?=some x->rs[i]?=some y->vP ν H Z d i x y:=by
 simp only[dg]at o;split at o;next a=>obtain⟨rfl,o2,-,rs,o3,u,w⟩:=o;exact⟨rs,by simp[oH,dM,o3,Ob.rows,o2,<-u],u,λ_=>⟨o2,o3⟩,w⟩
 rename_i a;obtain⟨rfl,-⟩:=o;exact⟨[],by cases k<;>first|rfl|exact absurd rfl a,rfl,λh=>absurd h a,λi x y h=>by simp at h⟩
def N6{d:Nat}{k:Fl}{xs:T2}(o:dg ν m H Z d (.dp k xs none))(T:∀id,Z id->Z' id)(hp:∀j,(bB.dp k xs none).pt j=true->Z' (ν.at d j)):
 FR H Z' (kg k 1 xs) (oH (ν d) k 1 xs.length)/\∀j,(bB.dp k xs none).pt j=true->∃es ys,H[ν.at d j]?=some (.row es ys)/\vl H Z' ys:=by
 obtain⟨rs,-,D,a,G⟩:=Iw o;have u:∀id,Z id->Z' id/\bn H id=bn H id:=λid h=>⟨T id h,rfl⟩
 have cells:fR H Z' xs rs:=⟨D.symm,λi x y w L=>by
  rcases G i x y w L with⟨rfl,h⟩|⟨es,I,z,rfl,rfl,b,B⟩
  .exact dz.same (by rcases h with rfl|rfl<;>rfl)
  have C:=B.1;refine .cons (FR.EE (ys:=z) (hp (i+1) (by simp[bB.pt,w])) (show bn H (ν.inn d i)=some (es,z)by unfold bn;rw[b];rfl) Zaa ?_) .nil
  rw[drop_zero,C,take_length];exact B.mono u⟩
 refine⟨?_,λj J=>?_⟩
 .by_cases hk:bY k=true
  .rw[oI hk,show kg k 1 xs=.fsl 1 xs from by cases k<;>simp[bY]at hk<;>rfl]
   refine FR.EE (ys:=rs) (hp 0 hk) (show bn H (ν d).1=some (1,rs)by unfold bn;rw[(a hk).2];rfl) (by rw[(a hk).1];omega) ?_
   rw[(a hk).1,drop_zero,<-D,take_length];exact cells
  cases k<;>simp[bY]at hk
  .exact .same _ rfl
  exact .same _ rfl
 cases j with
 |zero=>exact⟨1,rs,(a J).2,cells.Aj⟩|succ i=>
  obtain⟨-,es,I,w⟩:=tc J;have hi:=(ζe.1 w).1;rcases G i _ _ w (ζd Zaa)with⟨_,h|h⟩|⟨es,I,z,_,_,b,B⟩
  .cases h
  .cases h
  exact⟨es,z,b,(B.mono u).Aj⟩
def Vu(r:R ν Z st F H){dst:aY Nat}{size:Nat}{s x sv:SV}{y1 y2:V}(h1:c6 ν st.m H Z s y1)(h3:c6 ν st.m H Z x y2)(h:KI st dst size s x=some (sv,st')):
 ∃y H' ν',eY H (.append size) [y1,y2]=some (y,H')/\R ν' Z st' F H'/\c6 ν' st'.m H' Z sv y/\Ev (λ_=>False) ν Z st H ν' Z st' H'/\Kept dst ν st.m ν' st'.m:=by
 unfold KI at h;split at h
 .rename_i d e t;split at h
  .rename_i k z ys hd he;split at h
   .rename_i hc;obtain⟨rfl,ab,af,ah⟩:=hc;dsimp only at h;split at h
    .rename_i ad;obtain⟨rfl,rfl⟩:=h;obtain⟨_,_,_,q,rfl⟩:=h1.gE hd;cases q;obtain⟨_,_,_,q,rfl⟩:=h3.gE he;cases q;have⟨a1,p1,m,g1,f1⟩:=Iw (r.obj d _ hd);have⟨a2,p2,n,g2,f2⟩:=Iw (r.obj e _ he);have⟨n1,n2,n3,n4⟩:=kK ad;have u:∀k ob,bh (dL e (dL d st.m)) k=some ob->k≠d/\k≠e/\bh st.m k=some ob:=λk ob h=>by
      have⟨K,v⟩:=lR h;have⟨M,w4⟩:=lR v;exact⟨Ne.symm M,Ne.symm K,w4⟩
     have grow:∃H1,gH H (oH (ν d) k 1 z.length)=some H1/\H1.length=H.length/\∀id,(bY k=true->id≠(ν d).1)->H1[id]?=H[id]?:=by by_cases a:bY k=true;rw[oI a];exact⟨H.set (ν d).1 .dead,by simp[gH,(g1 a).2],Zab,λid Y=>getElem?_set_ne (Ne.symm (Y a))⟩;exact⟨H,by cases k<;>first|rfl|exact absurd rfl a,rfl,λ_ _=>rfl⟩
     have⟨H1,K,v,M⟩:=grow;have A:∀id,id<H.length->(bY k=true->id≠(ν d).1)->(H1++[Ob.row 1 (a1++a2)])[id]?=H[id]?:=λid hl Y=>by rw[getElem?_append_left Zaa,M id Y]
     have U:∀id,Z id->bn (H1++[Ob.row 1 (a1++a2)]) id=bn H id:=λid U=>by unfold bn;rw[A id (r.vQ U) λa e=>r.apart d _ 0 hd a (by rw[show ν.at d 0=id from e.symm];exact U)]
     have r1:=r.less (m':=dL e (dL d st.m)) (λ_ _ h=>h) λk ob h=>(u k ob h).2.2
     have r2:=r1.heap (H':=H1++[Ob.row 1 (a1++a2)]) (λid W=>by
      refine A id (r1.lt W) λa e=>?_
      have⟨k2,o2,j2,L,G,z3⟩:=W;have⟨z4,z5,N⟩:=u _ _ L;exact z4 (r.inj k2 d o2 _ j2 0 N hd G a (z3.trans e)).1) U
     generalize P:(λi=>if i<z.length then ν.inn d i else ν.inn e (i-z.length))=f
     have O:∀i,(bB.dp .row (z++ys) none).pt (i+1)=true->∃q Q w,bh st.m q=some Q/\Q.pt (w+1)=true/\f i=ν.at q (w+1)/\(q=d/\w=i/\i<z.length\/q=e/\i=z.length+w):=λi X=>by obtain⟨-,es,zs,I⟩:=tc X;subst P;by_cases hi:i<z.length;rw[getElem?_append_left hi]at I;exact⟨d,_,i,hd,by simp[bB.pt,I],by simp[hi,Nu.at],.inl ⟨rfl,rfl,hi⟩⟩;rw[getElem?_append_right Zaa]at I;exact⟨e,_,i-z.length,he,by simp[bB.pt,I],by simp[hi,Nu.at],.inr ⟨rfl,Zaa⟩⟩
     have J:∀i,(bB.dp .row (z++ys) none).pt (i+1)=true->eZ ν st.m (f i):=λi X=>by have⟨q,Q,w,k1,k2,k3,_⟩:=O i X;exact⟨q,Q,w+1,k1,k2,k3.symm⟩
     have B:∀i,(jH ν t (H.length,0) f).at t (i+1)=f i:=λi=>congrFun (nU ν t _ f).2 i
     have S:(jH ν t (H.length,0) f).at t 0=H.length:=congrArg fst (nU ν t _ f).1;have aa:(H1++[Ob.row 1 (a1++a2)])[H.length]?=some (.row 1 (a1++a2)):=by rw[<-v];simp
     have ap:bY k=true->(bB.dp k z none).pt 0=true:=λh=>h
     refine⟨.hsl H.length 1 0 (a1.length+a2.length),H1++[Ob.row 1 (a1++a2)],jH ν t (H.length,0) f,?_,r2.SK (p:=(H.length,0)) (f:=f) n2 n3 (λk o a hs=>?_) (λj g=>?_) (λj j' g ae X=>?_) ?_,?_,⟨by simp[v],λid hl W _ _=>?_,λid h=>⟨h,U id h⟩,λid W=>?_,λid h=>.inl h,λk a C h=>?_,rfl⟩,λk C a h=>?_⟩
     .have:a2≠[]:=by rintro rfl;exact af (length_eq_zero_iff.1 n.symm)
      cases a2 with
      |nil=>exact absurd rfl this|cons c a2=>simp only[eY,p1,p2,K];rw[if_pos (by rw[m,n];exact ah)];rfl
     .rw[s_ n4 a]at hs;cases hs
     .cases j with
      |zero=>rw[S];exact⟨λW=>Nat.lt_irrefl _ (r1.lt W),λU=>Nat.lt_irrefl _ (r.vQ U)⟩|succ i=>
       rw[B];have⟨q,Q,w,k1,k2,k3,k4⟩:=O i g;rw[k3];refine⟨λ⟨k5,o5,j5,L,G,z3⟩=>?_,r.apart q Q _ k1 k2⟩
       have⟨z4,z5,N⟩:=u _ _ L;have:=(r.inj k5 q o5 Q j5 _ N k1 G k2 z3).1;rcases k4 with⟨rfl,_⟩|⟨rfl,_⟩
       .exact z4 this
       exact z5 this
     .cases j with
      |zero=>
       cases j' with
       |zero=>rfl|succ i'=>rw[S,B]at X;have:=r.lt (J i' ae);omega
      |succ i=>
       cases j' with
       |zero=>rw[S,B]at X;have:=r.lt (J i g);omega|succ i'=>
        rw[B,B]at X;have⟨q,Q,w,k1,k2,k3,k4⟩:=O i g;have⟨q',ai,aq,aj,ak,al,am⟩:=O i' ae;have⟨e1,e2⟩:=r.inj q q' Q ai _ _ k1 aj k2 ak (by rw[<-k3,<-al,X])
        rcases k4 with⟨rfl,_⟩|⟨rfl,_⟩<;>rcases am with⟨rfl,_⟩|⟨rfl,_⟩<;>first|omega|(exact absurd e1 ab)|(exact absurd e1.symm ab)
     .simp only[dg,bY,if_true];refine⟨trivial,by rw[(nU ν t _ f).1],(λi t h=>by cases h),a1++a2,?_,by simp[m,n],λi x y I E=>?_⟩
      .rw[(nU ν t _ f).1];exact aa
      show vP _ _ _ _ i x y;have go:∀q w,bh st.m q=some (.dp k z none)/\q=d\/bh st.m q=some (.dp .row ys none)/\q=e->f i=ν.inn q w->(∀l b,bh st.m q=some (.dp l b none)->b[w]?=some x)->vP ν H Z q w x y->vP (jH ν t (H.length,0) f) (H1++[Ob.row 1 (a1++a2)]) Z t i x y:=λq w hq an ao hC=>by rcases hC with h|⟨es,zs,ws,rfl,rfl,L,G⟩;exact .inl h;have hi:(jH ν t (H.length,0) f).inn t i=ν.inn q w:=(congrFun (nU ν t _ f).2 i).trans an;refine .inr ⟨es,zs,ws,rfl,by rw[hi],?_,G.mono λid h=>⟨h,U id h⟩⟩;rw[hi,A _ (ζe.1 L).1 λa e=>?_];exact L;have T:∃l b,bh st.m q=some (.dp l b none):=(by rcases hq with h|h<;>exact⟨_,_,h.1⟩);have⟨l,b,T⟩:=T;have:=(r.inj q d _ _ (w+1) 0 T hd (by simp[bB.pt,ao _ _ T]) a e).2;omega
      by_cases hi:i<z.length
      .rw[getElem?_append_left hi]at I;rw[getElem?_append_left Zaa]at E
       exact go d i (.inl ⟨hd,rfl⟩) (by rw[<-P];simp[hi]) (λl b h=>by rw[hd]at h;cases h;exact I) (f1 i x y I E)
      rw[getElem?_append_right Zaa]at I
      rw[getElem?_append_right Zaa,m]at E
      exact go e (i-z.length) (.inr ⟨he,rfl⟩) (by rw[<-P];simp[hi]) (λl b h=>by rw[he]at h;cases h;exact I) (f2 _ x y I E)
     .refine .own _ _ λC h'=>?_
      rw[cn]at h';cases h';exact⟨_,_,_,rfl,by simp[oH,(nU ν t _ f).1,m,n]⟩
     .exact A id hl λa e=>W ⟨d,_,0,hd,a,e.symm⟩
     .rcases I5 W with⟨k,o,j,L,G,z3⟩|⟨j,L,G⟩
      .exact .inl ⟨k,o,j,(u k o L).2.2,G,z3⟩
      cases j with
      |zero=>rw[S]at G;exact .inr (.inr Zaa)|succ i=>rw[B]at G;subst G;exact .inl (J i L)
     .have D:k≠t:=by rintro rfl;exact n1 a
      rw[cO _ _ (Ne.symm D)]at h;exact⟨C,(u k C h).2.2,if_neg D,.refl _⟩
     have D:k≠t:=λe=>a (by rw[e])
     rw[cO _ _ (Ne.symm D)]at h;exact⟨C,(u k C h).2.2,if_neg D,.refl _,λj g=>⟨g,sP ν _ f D j⟩⟩
    cases h
   cases h
  cases h
 cases h
def C4(r:R ν Z st F H){dst:aY Nat}{l:L_}{svs:ST}{ys:S'}{sv:SV}(Y:b7 ν st.m H Z svs ys)(h:nh st dst l svs=some (sv,st')):
 ∃y H' ν',eY H l ys=some (y,H')/\R ν' Z st' F H'/\c6 ν' st'.m H' Z sv y/\Ev (λ_=>False) ν Z st H ν' Z st' H'/\Kept dst ν st.m ν' st'.m:=by
 unfold nh at h;split at h
 .
  rename_i size d o x;obtain⟨_,_,rfl,a,n⟩:=Y.inv;obtain⟨y,_,rfl,S,p⟩:=n.inv;rw[p.c9];split at h
  .rename_i cs B;have⟨aw,hp,e⟩:=ζf.1 h;obtain⟨rfl,rfl⟩:=e;obtain⟨_,_,rfl⟩:=a.pW B;have⟨es,G,q,f,aa⟩:=r.obj d _ B;have⟨p1,p2,p3,p4,p5⟩:=b7.Xg f S hp aa;have J:∀id,id≠(ν d).1->(H.set (ν d).1 (.row es [G.take o++y.cells++G.drop (o+y.cells.length)]))[id]?=H[id]?:=λid I=>by grind
   have C:∀id,Z id->Z id/\bn (H.set (ν d).1 (.row es [G.take o++y.cells++G.drop (o+y.cells.length)])) id=bn H id:=λid C=>⟨C,by
    unfold bn;rw[J id (by rintro rfl;exact r.apart d _ 0 B rfl C)]⟩
   refine⟨.undef,H.set (ν d).1 (.row es [G.take o++y.cells++G.drop (o+y.cells.length)]),ν,?_,?_,.v _ _ (.same _ rfl),Ev.gA r B rfl (nG rfl) J rfl Zab,Kept.gA B rfl (nG rfl)⟩
   .grind[eY]
   refine r.gA B rfl (nG rfl) J rfl ⟨es,_,?_,p4.mono C (λe _ L A=>?_),p5⟩
   .grind
   by_cases k:e=d
   .subst k;rw[cn]at A;cases A;exact⟨_,B,rfl,rfl⟩
   rw[cO st.m _ (Ne.symm k)]at A;exact⟨L,A,rfl,.refl _⟩
  grind
 .
  rename_i size d i o x;obtain⟨_,_,rfl,a,n⟩:=Y.inv;obtain⟨y,_,rfl,S,p⟩:=n.inv;rw[p.c9];split at h
  .rename_i k es T B;split at h
   .rename_i cs ak;split at h
    .rename_i f;obtain⟨rfl,rfl⟩:=h;obtain⟨_,_,_,e,b,rfl⟩:=a.vY B;cases e;have ob:=r.obj d _ B;simp[dg,b]at ob;have⟨rs,q,hl,P,al,aG⟩:=ob;have⟨c,ax,af⟩:=P.get ak;have hi:=(ζe.1 ak).1;rw[getElem?_take,if_pos hi,getElem?_drop]at ax;have N:=S.fr.cells;have E:y.cells.length=size:=by rw[<-N.1];exact f.1
     have g:o+size<=c.length:=by rw[<-af.1];exact f.2.1
     have q3:y.cells.all V.one=true:=by rw[N.one];exact f.2.2
     have D:dz H Z (cs.take o++x.cells++cs.drop (o+x.cells.length)) (c.take o++y.cells++c.drop (o+y.cells.length)):=by rw[f.1,E];exact((af.take o).append N).append (af.drop _)
     generalize hN:(c.take o++y.cells++c.drop (o+y.cells.length))=nc at D;have J:∀id,id≠(ν d).1->(H.set (ν d).1 (.row es (rs.set ((ν d).2+i) nc)))[id]?=H[id]?:=λid I=>by rw[getElem?_set];rw[if_neg (Ne.symm I)]
     have O:=b;have C:∀id,Z id->Z id/\bn (H.set (ν d).1 (.row es (rs.set ((ν d).2+i) nc))) id=bn H id:=λid C=>⟨C,by
      unfold bn;rw[J id (by rintro rfl;exact r.apart d _ 0 B O C)]⟩
     have Q:sameShape (.sl k es T) (.sl k es (T.set i (cs.take o++x.cells++cs.drop (o+x.cells.length)))):=by simp[sameShape,bB.AI]
     refine⟨.undef,H.set (ν d).1 (.row es (rs.set ((ν d).2+i) nc)),ν,?_,?_,.v _ _ (.same _ rfl),Ev.gA r B Q (nG rfl) J O Zab,Kept.gA B Q (nG rfl)⟩
     .grind[eY]
     refine r.gA B Q (nG rfl) J O ?_;simp only[dg,b];have ah:=(ζe.1 q).1;refine⟨_,getElem?_set_self ah,Zac,?_,?_,λe=>?_⟩
     .have e1:List.take (T.set i (cs.take o++x.cells++cs.drop (o+x.cells.length))).length (List.drop (ν d).2 (rs.set ((ν d).2+i) nc))=((rs.drop (ν d).2).take T.length).set i nc:=by
       rw[List.length_set,List.drop_set,if_neg Zaa,List.take_set]
       grind
      rw[e1];exact(P.set i D).mono C
     .intro cc am u hu;rcases List.mem_or_eq_of_mem_set am with hm|rfl
      .have⟨z,ay⟩:=al cc hm u hu;exact⟨z,ay.mono C⟩
      have⟨j,hj⟩:=mem_iff_getElem?.1 hu;have an:=(ζe.1 hj).1;rw[<-D.1]at an;exact⟨_,(D.2 j _ u (ζd an) hj).mono C⟩
     grind
    simp at h
   grind
  grind
 .
  rename_i size d i o t;obtain⟨_,_,rfl,a,n⟩:=Y.inv;obtain⟨y,_,rfl,S,p⟩:=n.inv;rw[p.c9];split at h
  .rename_i k T j w B;split at h
   .rename_i f;obtain⟨rfl,rfl,rfl,hl,aK⟩:=f;obtain⟨rfl,rfl⟩:=h;obtain⟨_,_,_,e,b,rfl⟩:=a.vY B;cases e;have⟨c1,c2⟩:=kr (x:=.own t) hl S;have ob:=r.obj d _ B;simp only[dg,b,if_true]at ob;have⟨o1,o2,o3,rs,q,ao,P⟩:=ob;have hi:=o3 _ _ rfl;have ah:=(ζe.1 q).1;have aA:∀X,(bB.dp k T (some (j,w))).pt (X+1)=true->ν.inn d X≠(ν d).1:=λX hp e=>by
     have:=(r.inj d d _ _ (X+1) 0 B B hp b e).2;omega
    have J:∀id,id≠(ν d).1->(H.set (ν d).1 (.row 1 (rs.set j [y])))[id]?=H[id]?:=λid I=>by rw[getElem?_set];rw[if_neg (Ne.symm I)]
    have C:∀id,Z id->Z id/\bn (H.set (ν d).1 (.row 1 (rs.set j [y]))) id=bn H id:=λid C=>⟨C,by
     unfold bn;rw[J id (by rintro rfl;exact r.apart d _ 0 B b C)]⟩
    have ai:∀X,(bB.dp k T (some (j,t))).pt X=true->(bB.dp k T (some (j,w))).pt X=true:=λX h=>h
    have Q:sameShape (.dp k T (some (j,w))) (.dp k T (some (j,t))):=rfl;refine⟨.undef,H.set (ν d).1 (.row 1 (rs.set j [y])),ν,?_,?_,.v _ _ (.same _ rfl),Ev.gA r B Q ai J b Zab,Kept.gA B Q ai⟩
    .have:rs[j]?=some rs[j]:=ζd Zaa
     have h9:=P j _ _ (ζd hi) this;simp only[oF,if_true]at h9;have⟨v,e1,_⟩:=h9;simp[eY,q,o2,this,e1,c1,c2]
    refine r.gA B Q ai J b ?_;simp only[dg,b,if_true];refine⟨o1,o2,λX t' e=>by cases e;exact hi,_,getElem?_set_self ah,by simp[ao],λX x y' hx N=>?_⟩
    by_cases e:j=X
    .subst e;rw[getElem?_set_self Zaa]at N;cases N
     simp only[oF,if_true];exact⟨y,rfl,c2,S.mono C λe A L U=>by
      by_cases k':e=d
      .subst k';rw[cn]at U;cases U;exact⟨_,B,rfl,rfl⟩
      rw[cO st.m _ (Ne.symm k')]at U;exact⟨L,U,rfl,.refl _⟩⟩
    rw[getElem?_set_ne e]at N;have h9:=P X x y' hx N;simp only[oF,if_neg e]at h9⊢;rcases h9 with h9|⟨es,zs,ws,rfl,rfl,E,g⟩
    .exact .inl h9
    exact .inr ⟨es,zs,ws,rfl,rfl,(J _ (aA X (by simp[bB.pt,hx,e]))).trans E,g.mono C⟩
   cases h
  cases h
 .
  rename_i kk d k x;obtain⟨_,_,rfl,a,n⟩:=Y.inv;obtain⟨k',_,rfl,S,p⟩:=n.inv;obtain⟨y,_,rfl,h5,h6⟩:=p.inv;rw[h6.c9];split at h
  .rename_i aB B;split at h
   .rename_i b;have⟨aH,hp,e⟩:=ζf.1 h;simp at e;obtain⟨rfl,rfl⟩:=e;obtain⟨_,_,rfl⟩:=a.E0 B;have aC:=S.fr.scalar.1 (wW b);subst aC;have⟨aI,q,aD⟩:=r.obj d _ B;have⟨r',aL,aE⟩:=aD.put (wW b) h5.fr hp;have J:∀id,id≠(ν d).1->(H.set (ν d).1 (.map r'))[id]?=H[id]?:=λid I=>by rw[getElem?_set];rw[if_neg (Ne.symm I)]
    have C:∀id,Z id->Z id/\bn (H.set (ν d).1 (.map r')) id=bn H id:=λid C=>⟨C,by
     unfold bn;rw[J id (by rintro rfl;exact r.apart d _ 0 B rfl C)]⟩
    refine⟨.undef,H.set (ν d).1 (.map r'),ν,?_,?_,.v _ _ (.same _ rfl),Ev.gA r B rfl (nG rfl) J rfl Zab,Kept.gA B rfl (nG rfl)⟩
    .grind[eY]
    refine r.gA B rfl (nG rfl) J rfl ⟨r',?_,aE.mono C⟩;rw[getElem?_set_self (ζe.1 q).1]
   simp at h
  simp at h
 .
  rename_i size s x;obtain⟨y1,_,rfl,a,n⟩:=Y.inv;obtain⟨y2,_,rfl,S,p⟩:=n.inv;rw[p.c9];split at h
  .rename_i T e1 e2;have⟨a1,p1,_⟩:=vN a r.obj e1;have⟨a2,p2,g⟩:=vN S r.obj e2;have:=length_eq_zero_iff.1 (by have:=g.1;simpa using this.symm)
   subst this
   cases dst with
   |none=>simp at h|some t=>
    have lit:∀(k:Fl)(K:V),bY k=false->oH (ν t) k size 0=K->st.new t=true->(∀y,FR H Z K y->y=K)->FR H Z K y1->
     ∃y H' ν',eY H (.append size) [y1,y2]=some (y,H')/\R ν' Z {st with m:=bF st.m t (.sl k size [])} F H'/\c6 ν' (bF st.m t (.sl k size [])) H' Z (.own t) y/\Ev (λ_=>False) ν Z st H ν' Z {st with m:=bF st.m t (.sl k size [])} H'/\Kept (some t) ν st.m ν' (bF st.m t (.sl k size [])):=λk K b aM hn hx P=>by
     have ap:ey (.sl k size [])=true->False:=by grind[ey]
     refine⟨y1,H,hD ν t (ν t),by grind[eY],r.add hn (λh=>(ap h).elim) (by grind[dg]),.own _ _ λL U=>?_,Ev.add hn (le_refl _) (λ_ _ _=>rfl) (λ_ _=>rfl) (λh=>(ap h).elim),Kept.add λ_ _ h=>h⟩
     rw[cn]at U;cases U;exact⟨_,_,_,rfl,by rw[iH,hx _ P];grind⟩
    cases s with
    |own d=>
     dsimp only at h;split at h
     .rename_i ob B;split at h
      .rename_i D;simp at h;obtain⟨rfl,rfl⟩:=h;simp[je,B]at e1
       cases ob with
       |sl k es ab=>
        obtain⟨_,_,_,e,rfl⟩:=a.gE B;cases e;have r1:R ν Z {st with m:=dL d st.m} F H:=r.less (λ_ _ h=>h) lB
        have⟨n1,_,_,_⟩:=kK D;have aq:dg (hD ν t (ν d)) (bF (dL d st.m) t (.sl k es ab)) H Z t (.sl k es ab):=by have o:=r.obj d _ B;grind[dg,iH]
        refine⟨oH (ν d) k es ab.length,H,hD ν t (ν d),by grind[eY],r1.add D (λhb=>⟨λM=>?_,r.apart d _ 0 B hb⟩) aq,.own _ _ λL U=>?_,?_,Kept.add lB⟩
        .have⟨k2,o2,j2,g1,g2,g3⟩:=M;have⟨g4,g5⟩:=lR g1;exact g4 (r.inj d k2 _ o2 0 j2 B g5 hb g2 g3.symm).1
        .rw[cn]at U;cases U;exact⟨_,_,_,rfl,by rw[iH]⟩
        by_cases hb:ey (.sl k es ab)=true
        .exact Ev.re (m1:=dL d st.m) lB n1 (le_refl _) (λ_ _ _ _=>rfl) (λ_ _=>rfl) (λ_=>.inl ⟨d,_,0,B,hb,rfl⟩)
        exact(Ev.less lB).trans (Ev.add D (le_refl _) (λ_ _ _=>rfl) (λ_ _=>rfl) λh=>absurd h hb)
       |box cs=>cases e1|mp aB=>cases e1|dp _ _ _=>cases e1
      simp at h
     simp at h
    |v K=>
     cases K with
     |bG=>
      dsimp only at h;split at h
      next hn=>simp at h;obtain⟨rfl,rfl⟩:=h;exact lit .nil _ rfl rfl hn (λy h=>h.bG) a.fr
      simp at h
     |dH=>
      dsimp only at h;split at h
      next hn=>simp at h;obtain⟨rfl,rfl⟩:=h;exact lit .emp _ rfl rfl hn (λy h=>h.dH) a.fr
      simp at h
     |_=>simp at h
    |_=>simp at h
  .rename_i T zs I e1 e2;split at h
   .rename_i f;have⟨a1,p1,E⟩:=vN a r.obj e1;have⟨a2,p2,g⟩:=vN S r.obj e2
    cases dst with
    |none=>simp at h|some t=>
     dsimp only at h;generalize ar:giveUp st.m s=m1 at h;split at h
     .rename_i D;simp at h;obtain⟨rfl,rfl⟩:=h;have⟨n1,_,_,_⟩:=kK D;have grow:∃H1,gH H y1=some H1/\H1.length=H.length/\(∀id,¬eZ ν st.m id->H1[id]?=H[id]?)/\
       (∀id,eZ ν m1 id->H1[id]?=H[id]?)/\(∀id,Z id->bn H1 id=bn H id):=by
       subst ar
       cases s with
       |own d=>
        simp[je]at e1;split at e1
        .rename_i k es ab B;obtain⟨_,_,_,e,rfl⟩:=a.gE B;cases e
         by_cases b:bY k=true
         .have o:=r.obj d _ B;simp[dg,b]at o;have⟨ys,q,_⟩:=o;have O:=b;have J:∀id,id≠(ν d).1->(H.set (ν d).1 .dead)[id]?=H[id]?:=λid I=>by rw[getElem?_set];rw[if_neg (Ne.symm I)]
          refine⟨H.set (ν d).1 .dead,by rw[oI b];grind[gH],Zab,λid M=>J id λe=>M ⟨d,_,0,B,O,e.symm⟩,λid M=>J id λe=>?_,λid C=>?_⟩
          .have⟨k2,o2,j2,g1,g2,g3⟩:=M;have⟨g4,g5⟩:=lR g1;exact g4 (r.inj d k2 _ o2 0 j2 B g5 O g2 (by rw[g3,e];rfl)).1
          unfold bn;rw[J id (by rintro rfl;exact r.apart d _ 0 B O C)]
         refine⟨H,?_,rfl,λ_ _=>rfl,λ_ _=>rfl,λ_ _=>rfl⟩
         cases k<;>simp[bY]at b<;>rfl
        simp at e1
       |v K=>
        refine⟨H,?_,rfl,λ_ _=>rfl,λ_ _=>rfl,λ_ _=>rfl⟩
        cases K<;>simp[KO]at f
        .rw[a.fr.dH];rfl
        rw[a.fr.bG];rfl
       |_=>simp[KO]at f
      have⟨H1,g1,g2,g3,g4,g5⟩:=grow;have W:∀e ob,bh m1 e=some ob->bh st.m e=some ob:=by subst ar;cases s<;>first|exactλ_ _ h=>h|exact lB
      have au:∀id,eZ ν m1 id->id<H.length:=λid⟨k,o,j,w1,w2,w3⟩=>r.lt ⟨k,o,j,W k o w1,w2,w3⟩
      have ad:∀id,id<H.length->(H1++[Ob.row size (a1++a2)])[id]?=H1[id]?:=λid hl=>getElem?_append_left (by rw[g2];exact hl)
      have aj:∀id,Z id->bn (H1++[Ob.row size (a1++a2)]) id=bn H id:=λid C=>by have:=g5 id C;unfold bn at this⊢;rw[ad id (r.vQ C)];exact this
      have r1:=r.less (λ_ _ h=>h) W
      have r2:=r1.heap (λid M=>by rw[ad id (au id M)];grind) aj
      have ff:=(E.append g).mono λid C=>⟨C,aj id C⟩
      have ae:(H1++[Ob.row size (a1++a2)])[H.length]?=some (.row size (a1++a2)):=by rw[<-g2];simp
      refine⟨.hsl H.length size 0 (T.length+zs.length),H1++[Ob.row size (a1++a2)],hD ν t (H.length,0),?_,?_,?_,?_,Kept.add W⟩
      .have aJ:a2≠[]:=by
        rintro rfl;have aF:=length_eq_zero_iff.1 (by have:=g.1;simpa using this)
        exact I aF
       have ao:a1.length+a2.length<=2147483648:=by rw[<-E.1,<-g.1];exact f.1
       have aN:=E.1;have aO:=g.1;simp_all[eY]
      .refine r2.add D (λ_=>⟨λM=>?_,λC=>?_⟩) ?_
       .grind
       .exact absurd (r.vQ C) Zab
       simp only[dg,iH];refine⟨_,ae,by simp[E.1,g.1],?_,ff.Aj,λ_=>⟨trivial,by simp[E.1,g.1]⟩⟩
       have:(T++zs).length=(a1++a2).length:=by simp[E.1,g.1]
       rw[this,drop_zero,take_length];exact ff
      .refine .own _ _ λL U=>?_
       simp only at U;rw[cn]at U;cases U;exact⟨_,_,_,rfl,by simp[oH,iH]⟩
      refine Ev.re W n1 (by simp[g2]) (λid hl M _=>?_) aj (λ_=>.inr (.inr (le_refl _)))
      rw[ad id hl];grind
     simp at h
   simp at h
  have⟨y,H',ν',e1,e2,e3,e4,e5⟩:=Vu r a S h;exact⟨y,H',ν',e1,e2,e3,e4,e5⟩
 .
  rename_i size d o x l;obtain⟨_,_,rfl,a,n⟩:=Y.inv;obtain⟨y,aP,rfl,S,p⟩:=n.inv;split at h
  .rename_i av;split at h
   .rename_i cs B;have⟨aw,hp,e⟩:=ζf.1 h;simp at e;obtain⟨rfl,rfl⟩:=e;obtain⟨_,_,rfl⟩:=a.pW B;have⟨es,G,q,f,aa⟩:=r.obj d _ B;have⟨p1,p2,p3,p4,p5⟩:=b7.Xg f S hp aa;have J:∀id,id≠(ν d).1->(H.set (ν d).1 (.row es [G.take o++y.cells++G.drop (o+y.cells.length)]))[id]?=H[id]?:=λid I=>by rw[getElem?_set];rw[if_neg (Ne.symm I)]
    have C:∀id,Z id->Z id/\bn (H.set (ν d).1 (.row es [G.take o++y.cells++G.drop (o+y.cells.length)])) id=bn H id:=λid C=>⟨C,by
     unfold bn;rw[J id (by rintro rfl;exact r.apart d _ 0 B rfl C)]⟩
    refine⟨.undef,H.set (ν d).1 (.row es [G.take o++y.cells++G.drop (o+y.cells.length)]),ν,?_,?_,.v _ _ (.same _ rfl),Ev.gA r B rfl (nG rfl) J rfl Zab,Kept.gA B rfl (nG rfl)⟩
    .simp only[eY,ME r B p av,if_true,q,List.getElem?_cons_zero,if_pos (And.intro p1 (And.intro p2 p3)),List.set_cons_zero]
    refine r.gA B rfl (nG rfl) J rfl ⟨es,_,?_,p4.mono C (λe _ L A=>?_),p5⟩
    .have:=(ζe.1 q).1;rw[getElem?_set_self this]
    by_cases k:e=d
    .subst k;rw[cn]at A;cases A;exact⟨_,B,rfl,rfl⟩
    rw[cO st.m _ (Ne.symm k)]at A;exact⟨L,A,rfl,.refl _⟩
   simp at h
  simp at h
 grind
end
def Bu(d:Nat)(st:St):aY St:=
 match bh st.m d with
 |some (.sl k es u)=>some {st with g:=BW (SV.sub d (kg k es u)) st.g,m:=mapM (SV.uR d (kg k es u)) (dL d st.m)}|some (.dp k u none)=>some {st with g:=BW (SV.sub d (kg k 1 u)) st.g,m:=mapM (SV.uR d (kg k 1 u)) (dL d st.m)}|_=>none
def Ul(st:St):Loc->aY SV
 |.s n=>bh st.g n|.c b i=>match bh st.m b with
  |some (.box cs)=>cs[i]?|_=>none
def Xr:S'->X'
 |[.bG]|[.dH]=>true|_=>false
def ZQ(es:Nat):S'->aY bB
 |[.bG]=>some (.sl .nil es [])|[.dH]=>some (.sl .emp es [])|[.fsl B D]=>if B=es then some (.sl .row es D)else none|_=>none
def Z_(st:St)(l:Loc):aY Nat:=match Ul st l with
 |some (.v (.int _ i))=>if 0<=i then some i.toNat else none|_=>none
def Ic(d:Nat)(st:St):aY St:=
 match bh st.m d with
 |some (.sl k es u)=>if es=1/\k≠.part/\u.all Xr=true then some {st with m:=bF st.m d (.dp k u none)}else none|some (.dp _ _ none)=>some st|_=>none
def Ih(d:Nat)(i:Loc)(es t:Nat)(st:St):aY St:=
 match bh st.m d,Z_ st i with
 |some (.dp k u none),some i=>if bY k=true/\st.new t=true then(u[i]?).bind λx=>(ZQ es x).map λob=>{st with m:=bF (bF st.m d (.dp k u (some (i,t)))) t ob}else none|_,_=>none
def NC(d:Nat)(st:St):aY St:=
 match bh st.m d with
 |some (.dp k w (some (i,t)))=>match bh st.m t with
  |some (.sl u es z)=>if u≠.part/\t≠d/\bY k=true then some {st with m:=bF (dL t st.m) d (.dp k (w.set i [kg u es z]) none)}else none|_=>none
 |_=>none
def ghost(x:Gh)(st:St):aY St:=
 match x with
 |.closeS l=>match Ul st l with
  |some (.own d)=>Bu d st|some _=>some st|none=>none
 |.close d=>Bu d st|.closeB d=>match bh st.m d with
  |some (.box cs)=>match dy cs with
   |some u=>some {st with g:=BW (SV.C8 d u) st.g,m:=mapM (SV.sL d u) (dL d st.m)}|none=>none
  |_=>none
 |.canon (.s n) d es=>match bh st.g n with
  |some (.v .bG)=>if st.new d then some {st with g:=bF st.g n (.own d),m:=bF st.m d (.sl .nil es [])}else none|some (.v .dH)=>if st.new d then some {st with g:=bF st.g n (.own d),m:=bF st.m d (.sl .emp es [])}else none|some (.own e)=>if e=d then some st else if st.new d then some {st with g:=A4 e d st.g,m:=wD e d st.m}else none|some (.ptr e _)=>if e=d then some st else if st.new d then some {st with g:=A4 e d st.g,m:=wD e d st.m}else none|_=>none
 |.canon (.c b i) d es=>match bh st.m b with
  |some (.box cs)=>match cs[i]?with
   |some (.v .bG)=>if st.new d then some {st with m:=bF (bF st.m d (.sl .nil es [])) b (.box (cs.set i (.own d)))}else none|some (.v .dH)=>if st.new d then some {st with m:=bF (bF st.m d (.sl .emp es [])) b (.box (cs.set i (.own d)))}else none|some (.own e)=>if e=d then some st else if st.new d then some {st with g:=A4 e d st.g,m:=wD e d st.m}else none|_=>none
  |_=>none
 |.keep gs w=>match kD st.g gs,kD st.m w with
  |some g,some m=>some {st with g:=g,m:=m}|_,_=>none
 |.drop ds=>some {st with g:=qp ds st.g}|.melt d=>Ic d st|.take d i es t=>Ih d i es t st|.put d=>NC d st
section
variable{Rv:Nat->Prop}{ν ν':Nu}{Z Z':Nat->Prop}{st st':St}{m m':Tb bB}{F F':WF}{H H':bk}{N:Nat->Y'}
def PY(r:R ν Z st F H){dst:aY Nat}{size d:Nat}{lo hi:X'}{J:ST}{ys:S'}{sv:SV}(D:b7 ν st.m H Z (.own d::J) ys)(h:BO st dst size lo hi d J=some (sv,st')):
 ∃y ν',bN N (.slice size lo hi) ys=some y/\R ν' Z st' F H/\c6 ν' st'.m H Z sv y/\Ev Rv ν Z st H ν' Z st' H:=by
 unfold BO at h;obtain⟨f,g,rfl,c,S⟩:=D.inv;split at h
 .rename_i k es L ws t u T;split at h
  .rename_i hk;have⟨⟨l,i⟩,U,h⟩:=ζg.1 h;have⟨⟨a,b⟩,C,h⟩:=ζg.1 h;dsimp only at h;split at h
   .rename_i w;obtain⟨rfl,rfl⟩:=h;obtain⟨_,_,_,e,rfl⟩:=c.gE u;cases e;have W:b<=L.length/\a<=b:=by
     grind[ec]
    have o:=r.obj d _ u;simp[dg,hk.1]at o;have⟨rs,j,n,X,O,_⟩:=o;have z:=hk.1;have r1:R ν Z {st with m:=dL d st.m} F H:=r.less (λ_ _ h=>h) lB
    have G:¬eZ ν (dL d st.m) (ν d).1:=by rintro⟨k2,o2,Y,g1,g2,g3⟩;have⟨g4,g5⟩:=lR g1;exact g4 (r.inj d k2 _ o2 0 Y u g5 z g2 g3.symm).1
    have B:((L.take b).drop a).length=b-a:=Zad
    refine⟨.hsl (ν d).1 es ((ν d).2+a) (b-a),hD ν t ((ν d).1,(ν d).2+a),?_,?_,?_,?_⟩
    .have I:=b7.dy S T;rw[oI hk.1];simp[bN,I.nq U,iX,if_pos hk.2,C]
    .refine r1.add w (λ_=>⟨G,r.apart d _ 0 u z⟩) ?_
     simp[dg,bY,iH];have:=(X.take b).drop a
     grind[List.drop_take,drop_drop]
    .refine .own _ _ λp Q=>?_
     rw[cn]at Q;cases Q;exact⟨_,_,_,rfl,by rw[B];simp[oH,iH]⟩
    exact Ev.re (st:=st) lB (kK w).1 (le_refl _) (λ_ _ _ _=>rfl) (λ_ _=>rfl) (λ_=>.inl ⟨d,_,0,u,z,rfl⟩)
   grind
  grind
 grind
def G4{f:SV->SV}:∀{g:Tb SV}{s:Nat},bh (BW f g) s=(bh g s).map f
 |[],s=>rfl|(k,x)::r,s=>by simp[BW,bh];split;rfl;exact G4
def AU(f:ST->ST):bB->bB
 |.box cs=>.box (f cs)|o=>o
def Gz{f:ST->ST}:∀{m:Tb bB}{d:Nat},bh (mapM f m) d=(bh m d).map (AU f)
 |[],d=>rfl|(k,x)::r,d=>by cases x<;>simp[mapM,bh]<;>split<;>first|rfl|exact Gz
theorem vh{d:Nat}{w:V}:∀{l:ST}{j:Nat},(SV.uR d w l)[j]?=(l[j]?).map (SV.sub d w)
 |[],j=>by simp[SV.uR]|x::r,0=>by simp[SV.uR]|x::r,j+1=>by simp[SV.uR,vh]
def tJ{d:Nat}{w:S'}:∀{l:ST}{j:Nat},(SV.sL d w l)[j]?=(l[j]?).map (SV.C8 d w)
 |[],j=>by simp[SV.sL]|x::r,0=>by simp[SV.sL]|x::r,j+1=>by simp[SV.sL,tJ]
def og{d:Nat}{w:V}:∀{l:ST},(SV.uR d w l).length=l.length
 |[]=>rfl|x::r=>by simp[SV.uR,og]
def oM{d:Nat}{w:S'}:∀{l:ST},(SV.sL d w l).length=l.length
 |[]=>rfl|x::r=>by simp[SV.sL,oM]
def c6.sub{sv:SV}{y w:V}{d:Nat}{k:Fl}{es n:Nat}{ob:bB}(J:bh m d=some ob)(G:ob.AI=.sl k es n)(T:FR H Z' w (oH (ν d) k es n))(U:∀id,Z id->Z' id)
 (W:∀e ob',bh m' e=some ob'->e≠d/\∃ob,bh m e=some ob/\sameShape ob ob')(r:c6 ν m H Z sv y):c6 ν m' H Z' (sv.sub d w) y:=by
 have z:∀id,Z id->Z' id/\bn H id=bn H id:=λid h=>⟨U id h,rfl⟩
 have D:∀e ob',bh m' e=some ob'->∃ob,bh m e=some ob/\ν e=ν e/\sameShape ob ob':=λe ob' h=>Zac
 induction r with
 |v x y h=>exact .v x y (h.mono z)|own e y h=>
  simp[SV.sub];split
  next L=>subst L;obtain⟨_,_,_,e1,rfl⟩:=h _ J;rw[G]at e1;cases e1;exact .v _ _ T
  exact(c6.own e y h).mono z λe _=>D e
 |ptr e o y h=>exact(c6.ptr e o y h).mono z λe _=>D e|el e i o y h=>exact(c6.el e i o y h).mono z λe _=>D e|mp e y h=>exact(c6.mp e y h).mono z λe _=>D e|clo f a b B O I X hva Q C S=>
  refine .clo f _ _ B O (by rw[og];omega) (by rw[og];omega) (λj u v c g=>?_) (λj u v c g=>?_)
  all_goals grind[vh]
 |tup a B I hva C=>
  refine .tup _ B (by rw[og];omega) (λj u v c g=>?_)
  rw[vh,ζf]at c;grind
 |agg a B I hva C=>
  refine .agg _ B (by rw[og];omega) (λj u v c g=>?_)
  rw[vh,ζf]at c;grind
 |yl id=>exact .yl id
theorem Vm {f:FuncId} {a b:aX SV} {y:V} (r:c6 ν m H Z (.clo f a b) y):c6 ν m H Z (Tw f a b) y:=by
 unfold Tw;split
 .rename_i x z D G;cases r with|clo _ _ _ w B I J hva u=>
  have h1:=b7.dy (ν:=ν) (m:=m) (H:=H) (Z:=Z) (ys:=w) ⟨I,hva⟩ D;have C:=b7.dy (ν:=ν) (m:=m) (H:=H) (Z:=Z) (ys:=B) ⟨J,u⟩ G;exact .v _ _ (.clo f x z w B h1.1 C.1 h1.2 C.2)
 exact r
def c6.C8{sv:SV}{y:V}{d:Nat}{cs:ST}{xs:S'}(G:bh m d=some (.box cs))(J:∀o,o<=xs.length->FR H Z' (.fptr (xs.drop o)) (.hptr (ν d).1 0 o))(T:∀id,Z id->Z' id)
 (W:∀e ob',bh m' e=some ob'->e≠d/\∃ob,bh m e=some ob/\sameShape ob ob')(r:c6 ν m H Z sv y):c6 ν m' H Z' (sv.C8 d xs) y:=by
 have w:∀id,Z id->Z' id/\bn H id=bn H id:=λid h=>⟨T id h,rfl⟩
 have z:∀e ob',bh m' e=some ob'->∃ob,bh m e=some ob/\ν e=ν e/\sameShape ob ob':=λe ob' h=>Zac
 induction r with
 |v x y h=>exact .v x y (h.mono w)|own e y h=>exact(c6.own e y h).mono w λe _=>z e|ptr e o y h=>
  simp only[SV.C8];split
  .rename_i I;subst I;obtain⟨_,e1,rfl⟩:=h _ G;split
   next L=>exact .v _ _ (J o L)
   exact(c6.ptr e o _ h).mono w λe _=>z e
  exact(c6.ptr e o y h).mono w λe _=>z e
 |el e i o y h=>exact(c6.el e i o y h).mono w λe _=>z e|mp e y h=>exact(c6.mp e y h).mono w λe _=>z e|clo f a b B O C Q hva S D U=>
  refine Vm (.clo f _ _ B O (by rw[oM];exact C) (by rw[oM];exact Q) (λj u v c g=>?_) (λj u v c g=>?_))
  .rw[tJ,ζf]at c;grind
  rw[tJ,ζf]at c;grind
 |tup a B C hva D=>
  refine .tup _ B (by rw[oM];exact C) (λj u v c g=>?_)
  rw[tJ,ζf]at c;grind
 |agg a B C hva D=>
  refine .agg _ B (by rw[oM];exact C) (λj u v c g=>?_)
  rw[tJ,ζf]at c;grind
 |yl id=>exact .yl id
def dg.AU{d:Nat}{ob:bB}{f:ST->ST}(J:∀id,Z id->Z' id)(W:∀l,(f l).length=l.length)
 (T:∀cs B,b7 ν m H Z cs B->b7 ν m' H Z' (f cs) B)(U:∀e ob',bh m' e=some ob'->∃ob,bh m e=some ob/\sameShape ob ob')(o:dg ν m H Z d ob):dg ν m' H Z' d (AU f ob):=by
 have u:∀id,Z id->Z' id/\bn H id=bn H id:=λid h=>⟨J id h,rfl⟩
 cases ob with
 |sl k es G=>
  simp[Go.VE.AU,dg]at o⊢;split
  next b=>rw[if_pos b]at o;have⟨I,a,z,D,L,O⟩:=o;exact⟨I,a,z,D.mono u,L.mono u,O⟩
  grind
 |box cs=>have⟨es,B,a,z,D⟩:=o;exact⟨es,B,a,T cs B z,D⟩|mp Q=>have⟨C,a,z⟩:=o;exact⟨C,a,z.mono u⟩|dp k G w=>exact dg.mono (ob:=.dp k G w) u rfl (λ_ _=>rfl) (λe _ ob' h=>let⟨ob,a,z⟩:=U e ob' h;⟨ob,a,rfl,z⟩) o
def FA{f:ST->ST}{ob:bB}:(AU f ob).pt=ob.pt:=by cases ob<;>rfl
theorem Nj{f:ST->ST}{ob:bB}:sameShape ob (AU f ob):=by cases ob<;>rfl
def R.shut(r:R ν Z st F H){d:Nat}{ob:bB}(n:bh st.m d=some ob){fs:SV->SV}{D:ST->ST}(q:∀l,(D l).length=l.length)(M:∀l(j:Nat),(D l)[j]?=(l[j]?).map fs)
 (B:∀id,Z' id↔Z id\/∃j,ob.pt j=true/\id=ν.at d j)(G:∀j,ob.pt j=true->∃es ys,H[ν.at d j]?=some (.row es ys)/\vl H Z' ys)
 (N:∀m',(∀e ob',bh m' e=some ob'->e≠d/\∃ob,bh st.m e=some ob/\sameShape ob ob')->∀sv y,c6 ν st.m H Z sv y->c6 ν m' H Z' (fs sv) y):
 R ν Z' {st with g:=BW fs st.g,m:=mapM D (dL d st.m)} F H/\Ev Rv ν Z st H ν Z' {st with g:=BW fs st.g,m:=mapM D (dL d st.m)} H:=by
 have key:∀e ob',bh (mapM D (dL d st.m)) e=some ob'->e≠d/\∃ob,bh st.m e=some ob/\ob'=AU D ob:=λe ob' h=>by rw[Gz,ζf]at h;obtain⟨o,a,rfl⟩:=h;grind[lR]
 have w:∀e ob',bh (mapM D (dL d st.m)) e=some ob'->e≠d/\∃ob,bh st.m e=some ob/\sameShape ob ob':=λe ob' h=>by obtain⟨a,o,z,rfl⟩:=key e ob' h;grind[Nj]
 have t:=N _ w;have U:∀cs C,b7 ν st.m H Z cs C->b7 ν (mapM D (dL d st.m)) H Z' (D cs) C:=λcs C h=>by refine⟨by rw[q];exact h.1,λj u v i P=>?_⟩;rw[M,ζf]at i;obtain⟨A,W,rfl⟩:=i;exact t A v (h.2 j A v W P)
 have I:=λid h=>(B id).2 (.inl h)
 refine⟨⟨λs sv S=>?_,λe ob' X=>?_,λb E o1 o2 T V a z L K hp=>?_,λb o1 T a L=>?_,λid h=>?_,⟨λid es ys O f c hc u i=>?_⟩⟩,⟨le_refl _,λ_ _ _ _ _=>rfl,λid h=>⟨I id h,rfl⟩,?_,?_,?_,rfl⟩⟩
 .rw[G4,ζf]at S;obtain⟨Q,Y,rfl⟩:=S;exact t Q _ (r.slot s Q Y)
 .obtain⟨a,o,z,rfl⟩:=key e ob' X;exact dg.AU I q U (λe ob' h=>(w e ob' h).2) (r.obj e o z)
 .obtain⟨_,p1,k1,rfl⟩:=key b o1 a;obtain⟨_,p2,k2,rfl⟩:=key E o2 z;rw[FA]at L K;exact r.inj b E p1 p2 T V k1 k2 L K hp
 .obtain⟨aa,p1,k1,rfl⟩:=key b o1 a;rw[FA]at L;intro O;rcases(B _).1 O with O|⟨j,J,X⟩
  .exact r.apart b p1 T k1 L O
  exact aa (r.inj b d p1 ob T j k1 n L J X).1
 .rcases (B id).1 h with h|⟨j,J,rfl⟩
  .exact r.zrow id h
  have⟨es,ys,f,_⟩:=G j J;unfold bn;rw[f];rfl
 .rcases (B id).1 O with h|⟨j,J,rfl⟩
  .have⟨x,hx⟩:=r.deep.row id es ys h f c hc u i;exact⟨x,hx.mono λk hk=>⟨I k hk,rfl⟩⟩
  have⟨ad,ae,ab,S⟩:=G j J;unfold bn at f;rw[ab]at f;obtain⟨_,rfl⟩:=f;exact S c hc u i
 .rintro id ⟨e,o,j,a,z,h3⟩;obtain⟨_,p,k1,rfl⟩:=key e o a;rw[FA]at z;exact .inl ⟨e,p,j,k1,z,h3⟩
 .intro id h;rcases(B id).1 h with h|⟨j,J,rfl⟩
  .grind
  exact .inr (.inl ⟨d,ob,j,n,J,rfl⟩)
 grind
def I9(r:R ν Z st F H){d:Nat}(h:Bu d st=some st'):∃Z',R ν Z' st' F H/\Ev Rv ν Z st H ν Z' st' H:=by
 unfold Bu at h;split at h;rename_i k es z u;simp only[ζa]at h;subst h;have o:=r.obj d _ u;refine⟨λid=>Z id\/∃j,(bB.sl k es z).pt j=true/\id=ν.at d j,R.shut r u (λ_=>og) (λ_ _=>vh) (λ_=>Iff.rfl) (λj B=>?_) (λm' w G y a=>?_)⟩;have:=jV (ob:=.sl k es z) Zab j B;subst this;have b:bY k=true:=B;simp only[dg,b,if_true]at o;have⟨C,a,_,_,D,_⟩:=o;exact⟨es,C,a,D.mono λid h=>⟨.inl h,rfl⟩⟩;refine c6.sub u rfl ?_ (λid h=>.inl h) w a;by_cases b:bY k=true;simp[dg,b]at o;have⟨C,a,I,J,D,_⟩:=o;rw[oI b];have e:kg k es z=.fsl es z:=by cases k<;>simp[bY]at b<;>rfl
 rw[e];refine FR.EE (.inr ⟨0,b,rfl⟩) (by unfold bn;rw[a];rfl) I (J.mono λid h=>⟨.inl h,rfl⟩);cases k<;>simp[bY]at b;exact .same _ rfl;exact .same _ rfl;rename_i k z u;simp only[ζa]at h;subst h;have⟨c,L⟩:=N6 (Z':=λid=>Z id\/∃j,(bB.dp k z none).pt j=true/\id=ν.at d j) (r.obj d _ u) (λid h=>.inl h) (λj h=>.inr ⟨j,h,rfl⟩);exact⟨_,R.shut r u (λ_=>og) (λ_ _=>vh) (λ_=>Iff.rfl) L (λm' w G y a=>c6.sub u rfl c (λid h=>.inl h) w a)⟩;cases h
def Py(r:R ν Z st F H){d:Nat}(h:ghost (.closeB d) st=some st'):∃Z',R ν Z' st' F H/\Ev Rv ν Z st H ν Z' st' H:=by
 simp[ghost]at h;split at h;rename_i cs w;split at h;rename_i I J;simp at h;subst h;have⟨es,z,a,b,_⟩:=r.obj d _ w;have C:=b.dy J;have L:vl H Z [z]:=by intro c B u e;simp[List.mem_singleton]at B;subst B;have⟨j,O⟩:=mem_iff_getElem?.1 e;have Q:j<I.length:=(by rw[C.1];grind);exact⟨_,C.2 j _ u (ζd Q) O⟩
 refine⟨λid=>Z id\/∃j,(bB.box cs).pt j=true/\id=ν.at d j,R.shut r w (λ_=>oM) (λ_ _=>tJ) (λ_=>Iff.rfl) (λj S=>by have:=jV (ob:=.box cs) Zab j S;subst this;exact⟨es,_,a,L.mono λid h=>⟨.inl h,rfl⟩⟩) (λm' D T y G=>?_)⟩;refine c6.C8 w (λo U=>?_) (λid h=>.inl h) D G;exact FR.Eh (.inr ⟨0,rfl,rfl⟩) (show bn H (ν d).1=some (es,[z])by unfold bn;rw[a];rfl) rfl (by rw[<-C.1];omega) ((C.drop o).mono λid h=>⟨.inl h,rfl⟩);grind;grind
def uL{d e:Nat}:∀{l:ST}{j:Nat},(SV.wG d e l)[j]?=(l[j]?).map (SV.tu d e)
 |[],j=>by simp[SV.wG]|x::r,0=>by simp[SV.wG]|x::r,j+1=>by simp[SV.wG,uL]
def qa{d e:Nat}:∀{l:ST},(SV.wG d e l).length=l.length
 |[]=>rfl|x::r=>by simp[SV.wG,qa]
def GH{d e:Nat}:∀{g:Tb SV}{s:Nat},bh (A4 d e g) s=(bh g s).map (SV.tu d e)
 |[],s=>rfl|(k,x)::r,s=>by simp[A4,bh];split;rfl;exact GH
def A6{d e:Nat}(B:d≠e):∀{m:Tb bB}{k:Nat},bh m e=none->bh (wD d e m) k=(if k=d then none else(bh m (if k=e then d else k)).map (bB.tu d e))
 |[],k,_=>by simp[wD,bh]|(n,x)::r,k,h=>by simp[bh]at h;split at h;simp_all;have D:=A6 B (k:=k) h;grind[wD,bh]
def m_(ν:Nu)(d e:Nat):Nu:=⟨λk=>if k=e then ν d else ν k,λk=>if k=e then ν.inn d else ν.inn k⟩
def SY(ν:Nu)(d e k j:Nat):(m_ ν d e).at k j=ν.at (if k=e then d else k) j:=by cases j<;>simp only[Nu.at,m_]<;>split<;>rfl
def Ga{d e:Nat}{ob:bB}:(ob.tu d e).AI=ob.AI:=by
 cases ob with
 |dp k u w=>rcases w with _|⟨i,t⟩<;>rfl
 |_=>rfl
def Iz{d e:Nat}{ob:bB}:(ob.tu d e).pt=ob.pt:=by
 cases ob with
 |dp k u w=>rcases w with _|⟨i,t⟩<;>rfl
 |_=>rfl
def c6.tu{sv:SV}{y:V}{d e:Nat}(T:bh m e=none)(D:sv.cM e=false)(J:d≠e)(r:c6 ν m H Z sv y):c6 (m_ ν d e) (wD d e m) H Z (sv.tu d e) y:=by
 have key:∀k,k≠e->∀w,bh (wD d e m) (if k=d then e else k)=some w->∃ob,bh m k=some ob/\m_ ν d e (if k=d then e else k)=ν k/\w=ob.tu d e:=λk l w h=>by rw[A6 J T]at h;by_cases c:k=d;subst c;rw[if_pos rfl,if_neg (Ne.symm J),if_pos rfl,ζf]at h;obtain⟨ob,B,rfl⟩:=h;simp_all[m_];rw[if_neg c,if_neg c,if_neg l,ζf]at h;obtain⟨ob,B,rfl⟩:=h;simp_all[m_]
 induction r with|v x y h=>exact .v x y h|own k y h=>have l:k≠e:=(by simp_all[SV.cM]);refine .own _ y λw G=>?_;obtain⟨ob,c,B,rfl⟩:=key k l w G;obtain⟨_,_,_,D,rfl⟩:=h ob c;exact⟨_,_,_,Ga.trans D,by rw[B]⟩|ptr k o y h=>have l:k≠e:=(by simp_all[SV.cM]);refine .ptr _ o y λw G=>?_;obtain⟨ob,c,B,rfl⟩:=key k l w G;obtain⟨_,rfl,rfl⟩:=h ob c;exact⟨_,rfl,by rw[B]⟩|el k i o y h=>have l:k≠e:=(by simp_all[SV.cM]);refine .el _ i o y λw G=>?_;obtain⟨ob,c,B,rfl⟩:=key k l w G;obtain⟨_,_,_,D,Q,rfl⟩:=h ob c;exact⟨_,_,_,Ga.trans D,Q,by rw[B]⟩|mp k y h=>have l:k≠e:=(by simp_all[SV.cM]);refine .mp _ y λw G=>?_;obtain⟨ob,c,B,rfl⟩:=key k l w G;obtain⟨_,rfl,rfl⟩:=h ob c;exact⟨_,rfl,by rw[B]⟩|clo f a b I S O X hva U C W=>simp[SV.cM]at D;refine .clo f _ _ I S (by rw[qa];omega) (by rw[qa];omega) (λj u v g n=>?_) (λj u v g n=>?_);rw[uL,ζf]at g;obtain⟨L,z,rfl⟩:=g;grind[vf];rw[uL,ζf]at g;obtain⟨L,z,rfl⟩:=g;grind[vf]|tup a I O hva C=>refine .tup _ I (by rw[qa];omega) (λj u v g n=>?_);rw[uL,ζf]at g;obtain⟨L,z,rfl⟩:=g;exact C j L v z n (vf D z)|agg a I O hva C=>refine .agg _ I (by rw[qa];omega) (λj u v g n=>?_);rw[uL,ζf]at g;obtain⟨L,z,rfl⟩:=g;exact C j L v z n (vf D z)|yl id=>exact .yl id
def IJ(r:R ν Z st F H){d e:Nat}(D:d≠e)(V:st.new e=true):R (m_ ν d e) Z {st with g:=A4 d e st.g,m:=wD d e st.m} F H/\Ev Rv ν Z st H (m_ ν d e) Z {st with g:=A4 d e st.g,m:=wD d e st.m} H:=by
 have⟨n1,U,n3,E⟩:=kK V;have key:∀k z,bh (wD d e st.m) k=some z->∃k0 ob,bh st.m k0=some ob/\z=ob.tu d e/\k0=(if k=e then d else k)/\k≠d/\(k=e/\k0=d\/k≠e/\k0=k):=λk z h=>by rw[A6 D U]at h;split at h;simp_all;rename_i a;rw[ζf]at h;obtain⟨ob,B,rfl⟩:=h;by_cases G:k=e;rw[if_pos G]at B;exact⟨d,ob,B,rfl,by grind[m_],a,.inl ⟨G,rfl⟩⟩;rw[if_neg G]at B;exact⟨k,ob,B,rfl,by grind[m_],a,.inr ⟨G,rfl⟩⟩
 have C:∀k j,(m_ ν d e).at k j=ν.at (if k=e then d else k) j:=SY ν d e;have L:∀k,(m_ ν d e) k=ν (if k=e then d else k):=λk=>by simp only[m_];split<;>rfl
 have W:∀k,(m_ ν d e).inn k=ν.inn (if k=e then d else k):=λk=>by simp only[m_];split<;>rfl
 refine⟨⟨λs sv K=>?_,λk z b=>?_,λc d2 o1 o2 X j2 a B O M J=>?_,λc o1 X a O=>?_,r.zrow,r.deep⟩,⟨le_refl _,λ_ _ _ _ _=>rfl,λid h=>⟨h,rfl⟩,?_,λ_ h=>.inl h,?_,rfl⟩⟩;rw[GH,ζf]at K;obtain⟨Y,Q,rfl⟩:=K;exact c6.tu U (z7 n3 Q) D (r.slot s Y Q);obtain⟨k0,ob,a,rfl,B,_,_⟩:=key k z b;have o:=r.obj k0 ob a;have J:(m_ ν d e) k=ν k0:=by rw[L,<-B]
 cases ob with|sl fl es xs=>grind[bB.tu,dg]|box cs=>have⟨es,aa,g1,g2,g3⟩:=o;have I:=(by have:=s_ E a;simpa[bB.cM]using this);refine⟨es,aa,by rw[J];exact g1,⟨by rw[qa];exact g2.1,λj u v N hv=>?_⟩,g3⟩;rw[uL,ζf]at N;obtain⟨u',S,rfl⟩:=N;exact c6.tu U (vf I S) D (g2.2 j u' v S hv)|mp ab=>grind[bB.tu,dg]|dp fl xs w=>have hi:(m_ ν d e).inn k=ν.inn k0:=(by rw[W,<-B]);have P:∀i x y,vP ν H Z k0 i x y->vP (m_ ν d e) H Z k i x y:=λi x y h=>(by unfold vP at h⊢;rw[hi];exact h);have I:=s_ E a;rcases w with _|⟨i0,t⟩;simp only[bB.tu,dg,J]at o⊢;split;(next b=>rw[if_pos b]at o;have⟨o1,o2,o3,ys,f,l,n⟩:=o;exact⟨o1,o2,o3,ys,f,l,λi x y p q=>P i x y (n i x y p q)⟩);rename_i b;rw[if_neg b]at o;exact o;simp only[bB.tu,dg,J]at o⊢;split;rename_i b;rw[if_pos b]at o;have⟨o1,o2,o3,ys,f,l,n⟩:=o;refine⟨o1,o2,λi t' e=>by cases e;exact o3 _ _ rfl,ys,f,l,λi x y p q=>?_⟩;have T:=n i x y p q;simp only[oF]at T⊢;split;(next e0=>rw[if_pos e0]at T;have⟨v,q1,q2,q3⟩:=T;exact⟨v,q1,q2,c6.tu (sv:=.own t) U (by simpa[bB.cM,SV.cM]using I) D q3⟩);rename_i e0;rw[if_neg e0]at T;exact P i x y T;rename_i b;rw[if_neg b]at o;cases o.2
 obtain⟨k1,p1,g1,rfl,e1,c1,A⟩:=key c o1 a;obtain⟨k2,p2,g2,rfl,e2,c3,c4⟩:=key d2 o2 B;rw[Iz]at O M;rw[C,C,<-e1,<-e2]at J;have:=r.inj k1 k2 p1 p2 X j2 g1 g2 O M J;omega;obtain⟨k1,p1,g1,rfl,e1,_⟩:=key c o1 a;rw[Iz]at O;rw[C,<-e1];exact r.apart k1 p1 X g1 O;rintro id ⟨k,o,j,a,B,G⟩;obtain⟨k1,p1,g1,rfl,e1,_⟩:=key k o a;rw[Iz]at B;exact .inl ⟨k1,p1,j,g1,B,by rw[C,<-e1]at G;exact G⟩;intro k b z h;obtain⟨k1,p1,g1,rfl,e1,c1,A⟩:=key k z h;rcases A with⟨rfl,_⟩|⟨A,rfl⟩;grind;exact⟨p1,g1,by rw[L,<-e1],Ga⟩
def R.say(r:R ν Z st F H){n:Nat}{sv:SV}(h:c6 ν st.m H Z sv (get F n)):R ν Z {st with g:=bF st.g n sv} F H where
 slot:=λs x u=>by by_cases e:n=s;grind[cn];rw[cO st.g sv e]at u;exact r.slot s x u
 obj:=r.obj
 inj:=r.inj
 apart:=r.apart
 zrow:=r.zrow
 deep:=r.deep
def O8(r:R ν Z st F H){n d es:Nat}{k:Fl}{x:V}(a:kg k es []=x/\bY k=false)(G:bh st.g n=some (.v x))(D:st.new d=true)(J:∀y,FR H Z x y->y=x)(B:oH (ν d) k es 0=x):
 R (hD ν d (ν d)) Z {st with g:=bF st.g n (.own d),m:=bF st.m d (.sl k es [])} F H/\Ev Rv ν Z st H (hD ν d (ν d)) Z {st with g:=bF st.g n (.own d),m:=bF st.m d (.sl k es [])} H:=by
 have u:ey (.sl k es [])=true->False:=by grind[ey]
 have r1:=r.add D (p:=ν d) (λh=>(u h).elim) (by grind[dg])
 refine⟨r1.say (.own _ _ λz w=>?_),?_⟩
 .rw[cn]at w;cases w;rw[iH,J _ (r.slot n _ G).fr];exact⟨_,_,_,rfl,B.symm⟩
 exact(Ev.add D (le_refl _) (λ_ _ _=>rfl) (λ_ _=>rfl) (λh=>(u h).elim)).trans (Ev.slots _)
def PI(r:R ν Z st F H){b i d es:Nat}{k:Fl}{x:V}{cs:ST}(l:bY k=false)(T:bh st.m b=some (.box cs))(hi:cs[i]?=some (.v x))(D:st.new d=true)(U:∀y,FR H Z x y->y=x)(G:oH (ν d) k es 0=x):
 ∃ν',R ν' Z {st with m:=bF (bF st.m d (.sl k es [])) b (.box (cs.set i (.own d)))} F H/\Ev Rv ν Z st H ν' Z {st with m:=bF (bF st.m d (.sl k es [])) b (.box (cs.set i (.own d)))} H:=by
 have B:ey (.sl k es [])=true->False:=by grind[ey]
 have r1:=r.add D (p:=ν d) (λh=>(B h).elim) (by grind[dg])
 have C:b≠d:=by rintro rfl;rw[(kK D).2.1]at T;cases T
 have z:bh (bF st.m d (.sl k es [])) b=some (.box cs):=by rw[cO _ _ (Ne.symm C)];omega
 have⟨I,J,f,L,S⟩:=r1.obj b _ z;have g:∀e w,bh (bF (bF st.m d (.sl k es [])) b (.box (cs.set i (.own d)))) e=some w->∃ob,bh (bF st.m d (.sl k es [])) e=some ob/\hD ν d (ν d) e=hD ν d (ν d) e/\sameShape ob w:=λe w h=>by by_cases O:e=b;subst O;rw[cn]at h;cases h;exact⟨_,z,rfl,rfl⟩;rw[cO _ _ (Ne.symm O)]at h;exact⟨w,h,rfl,.refl _⟩
 refine⟨hD ν d (ν d),r1.gA z rfl (nG rfl) (λ_ _=>rfl) rfl ⟨I,J,f,⟨by simp[L.1],λj u v a c=>?_⟩,S⟩,?_⟩
 .rw[getElem?_set]at a;split at a
  .rename_i e;subst e;split at a
   .cases a;refine .own _ _ λw Q=>?_
    rw[cO _ _ C,cn]at Q;cases Q;rw[iH,U v (L.2 i _ v hi c).fr];exact⟨_,_,_,rfl,G.symm⟩
   grind
  exact(L.2 j u v a c).mono (λid h=>⟨h,rfl⟩) λe _=>g e
 exact(Ev.add D (le_refl _) (λ_ _ _=>rfl) (λ_ _=>rfl) (λh=>(B h).elim)).trans (Ev.gA r1 z rfl (nG rfl) (λ_ _=>rfl) rfl (le_refl _))
def V1(r:R ν Z st F H){d:Nat}(h:Ic d st=some st'):R ν Z st' F H/\Ev Rv ν Z st H ν Z st' H:=by
 unfold Ic at h;split at h;rename_i k es D u;split at h;rename_i f;obtain⟨rfl,a,w⟩:=f;cases h;have G:∀(i:Nat)(x:S'),D[i]?=some x->x=[.bG]\/x=[.dH]:=λi x hi=>by have:=all_eq_true.1 w x (mem_of_getElem? hi);unfold Xr at this;split at this;exact .inl rfl;exact .inr rfl;cases this
 have z:∀j,(bB.dp k D none).pt j=true->(bB.sl k 1 D).pt j=true:=λj J=>by cases j with|zero=>exact J|succ i=>obtain⟨-,es,S,hi⟩:=tc J;rcases G i _ hi with h|h<;>cases h
 have o:=r.obj d _ u;refine⟨r.FF u rfl z (λ_ _=>rfl) ?_,Ev.FF r u rfl z (λ_ _=>rfl) (le_refl _)⟩;simp only[dg]at o⊢;split;rename_i b;rw[if_pos b]at o;have a:k=.row:=by cases k<;>simp_all [bY]
 have⟨O,o1,o2,o3,T,C⟩:=o;have⟨C,L⟩:=C a;refine⟨a,C,(λi t e=>by cases e),O,o1,L,λi x y w Q=>.inl ⟨?_,G i x w⟩⟩;rw[C,drop_zero,<-L,take_length]at o3;have B:=o3.2 i x y w Q;rcases G i x w with rfl|rfl;obtain⟨y,_,rfl,c,I⟩:=B.inv;rw[I.c9,c.bG];obtain⟨y,_,rfl,c,I⟩:=B.inv;rw[I.c9,c.dH];rename_i b;rw[if_neg b]at o;exact⟨o,Zab⟩;cases h;cases h;exact⟨r,.refl⟩;cases h
def Vb(r:R ν Z st F H){d es t:Nat}{i:Loc}(h:Ih d i es t st=some st'):∃ν',R ν' Z st' F H/\Ev Rv ν Z st H ν' Z st' H:=by
 unfold Ih at h;split at h;rotate_left;cases h;rename_i k S i u _;split at h;rotate_left;cases h;rename_i hc;have⟨A,ab⟩:=hc;have⟨x,E,h⟩:=ζg.1 h;obtain⟨ob,b,rfl⟩:=ζf.1 h;have⟨n1,K,n3,n4⟩:=kK ab;have G:d≠t:=by rintro rfl;rw[K]at u;cases u
 have hi:=(ζe.1 E).1;have o:=r.obj d _ u;simp only[dg,A,if_true]at o;obtain⟨o1,o2,-,ys,o3,o4,M⟩:=o;have T:∀j,(bB.dp k S (some (i,t))).pt j=true->j≠i+1/\(bB.dp k S none).pt j=true:=λj I=>by cases j with|zero=>exact⟨Zaa,I⟩|succ j=>have⟨a,es,D,J⟩:=tc I;exact⟨λe=>a t (by rw[show i=j by omega]),by simp[bB.pt,J]⟩
 have U:∀y,ys[i]?=some y->vP ν H Z d i x y:=λy g=>M i x y E g;obtain⟨y,g⟩:∃y,ys[i]?=some y:=⟨_,ζd Zaa⟩;have ae:=U y g;obtain⟨v,kk,D,e1,e2,e3,e4,e5,e6⟩:∃v kk D,y=[v]/\v.one=true/\ob=.sl kk es D/\v=oH (ν.inn d i,0) kk es D.length/\(bY kk=true->(bB.dp k S none).pt (i+1)=true/\∃c,H[ν.inn d i]?=some (.row es c)/\fR H Z D c)/\(bY kk=false->D=[]):=by rcases ae with⟨rfl,rfl|rfl⟩|⟨al,D,c,rfl,rfl,N,l⟩;cases b;exact⟨.bG,.nil,[],rfl,rfl,rfl,rfl,(λh=>by cases h),λ_=>rfl⟩;cases b;exact⟨.dH,.emp,[],rfl,rfl,rfl,rfl,(λh=>by cases h),λ_=>rfl⟩;simp only[ZQ]at b;split at b;(next e=>subst e;cases b;exact⟨_,.row,D,rfl,rfl,rfl,rfl,λ_=>⟨by simp[bB.pt,E],c,N,l⟩,λh=>by cases h⟩);cases b
 subst e3;have r1:R ν Z {st with m:=bF st.m d (.dp k S (some (i,t)))} F H:=by refine r.FF u rfl (λj I=>(T j I).2) (λ_ _=>rfl) ?_;simp only[dg,A,if_true];refine⟨o1,o2,λn t' e=>by cases e;exact hi,ys,o3,o4,λn P V W w=>?_⟩;simp only[oF];split;(next e=>subst e;rw[g]at w;cases w;exact⟨v,e1,e2,.own _ _ λX q=>by rw[cO _ _ G,K]at q;cases q⟩);exact M n P V W w
 have L:∀e,bh (bF st.m d (.dp k S (some (i,t)))) e=some (.dp k S (some (i,t)))/\e=d\/e≠d/\bh (bF st.m d (.dp k S (some (i,t)))) e=bh st.m e:=λe=>by by_cases C:e=d;subst C;exact .inl ⟨cn _ _ _,rfl⟩;exact .inr ⟨C,cO _ _ (Ne.symm C)⟩
 have hs:=nU ν t (ν.inn d i,0) (λ_=>0);have ad:(jH ν t (ν.inn d i,0) (λ_=>0)).at t 0=ν.at d (i+1):=congrArg fst hs.1;have O:(bB.sl kk es D).flat:=jV Zab;have af:∀id,Z id->Z id/\bn H id=bn H id:=λid h=>⟨h,rfl⟩;refine⟨jH ν t (ν.inn d i,0) (λ_=>0),r1.SK (ob:=.sl kk es D) (p:=(ν.inn d i,0)) (f:=λ_=>0) ?_ n3 (λe o C s=>?_) (λj I=>?_) (λj j' I ah _=>by rw[O j I,O j' ah]) ?_,⟨le_refl _,λ_ _ _ _ _=>rfl,af,λid s=>?_,λ_ h=>.inl h,λe C X h=>?_,rfl⟩⟩;rw[cO _ _ G];exact K;rcases L e with⟨a,rfl⟩|⟨a,J⟩;simp only at C;rw[a]at C;cases C;have ai:(jH ν t (ν.inn e i,0) (λ_=>0)) e=ν e:=if_neg G;have aj:(jH ν t (ν.inn e i,0) (λ_=>0)).inn e=ν.inn e:=if_neg G;simp only[dg,A,if_true,ai];refine⟨o1,o2,λn t' e=>by cases e;exact hi,ys,o3,o4,λn P V W w=>?_⟩;simp only[oF];split;rename_i e9;subst e9;rw[g]at w;cases w;refine⟨v,e1,e2,.own _ _ λX q=>?_⟩;rw[cn]at q;cases q;exact⟨_,_,_,rfl,by rw[hs.1];exact e4⟩;have:=M n P V W w;unfold oF vP at *;rw[aj];exact this;simp only at C;rw[J]at C;rw[s_ n4 C]at s;cases s;have:=O j I;subst this;have z:bY kk=true:=I;rw[ad];refine⟨λ⟨k2,ak,Y,B,Q,z3⟩=>?_,r.apart d _ _ u (e5 z).1⟩;rcases L k2 with⟨a,rfl⟩|⟨a,J⟩;simp only at B;rw[a]at B;cases B;have⟨w1,w2⟩:=T Y Q;exact w1 (r.inj k2 k2 _ _ Y _ u u w2 (e5 z).1 z3).2;simp only at B;rw[J]at B;exact a (r.inj k2 d _ _ Y _ B u Q (e5 z).1 z3).1;simp only[dg];split;rename_i z;have⟨_,c,N,l⟩:=e5 z;rw[hs.1];have hl:=l.1;refine⟨c,N,by simp[hl],?_,l.Aj,λ_=>⟨rfl,hl.symm⟩⟩;rw[hl,drop_zero,take_length];exact l;rename_i z;exact e6 (by simpa using z);rcases I5 s with⟨k2,ak,Y,B,Q,z3⟩|⟨j,B,Q⟩;rcases L k2 with⟨a,rfl⟩|⟨a,J⟩;rw[a]at B;cases B;exact .inl ⟨k2,_,Y,u,(T Y Q).2,z3⟩;rw[J]at B;exact .inl ⟨k2,_,Y,B,Q,z3⟩;have:=O j B;subst this;rw[ad]at Q;exact .inl ⟨d,_,i+1,u,(e5 B).1,Q⟩;have aa:e≠t:=by rintro rfl;exact n1 C
 simp only at h;rw[cO _ _ (Ne.symm aa)]at h;rcases L e with⟨a,rfl⟩|⟨a,J⟩;rw[a]at h;cases h;exact⟨_,u,if_neg aa,rfl⟩;rw[J]at h;exact⟨X,h,if_neg aa,.refl _⟩
def XO(r:R ν Z st F H){d:Nat}(h:NC d st=some st'):∃ν',R ν' Z st' F H/\Ev Rv ν Z st H ν' Z st' H:=by
 unfold NC at h;split at h;rotate_left;cases h;rename_i k W i t C;split at h;rotate_left;cases h;rename_i O es T m;split at h;rotate_left;cases h;rename_i hc;have⟨aa,X,P⟩:=hc;cases h;have o:=r.obj d _ C;simp only[dg,P,if_true]at o;have⟨o1,o2,o3,ys,o4,o5,V⟩:=o;have hi:=o3 _ _ rfl;have p:=r.obj t _ m;have z:∀e,e=d/\bh (bF (dL t st.m) d (.dp k (W.set i [kg O es T]) none)) e=some (.dp k (W.set i [kg O es T]) none)\/e≠d/\∀ob,bh (bF (dL t st.m) d (.dp k (W.set i [kg O es T]) none)) e=some ob->e≠t/\bh st.m e=some ob:=λe=>by by_cases Q:e=d;subst Q;exact .inl ⟨rfl,cn _ _ _⟩;refine .inr ⟨Q,λob h=>?_⟩;rw[cO _ _ (Ne.symm Q)]at h;have⟨w1,w2⟩:=lR h;exact⟨Ne.symm w1,w2⟩
 let ν':Nu:=⟨ν.pl,λe u=>if e=d/\u=i then(ν t).1 else ν.inn e u⟩;have ab:∀e,ν' e=ν e:=λ_=>rfl;have D:∀e u,¬(e=d/\u=i)->ν'.inn e u=ν.inn e u:=λe u h=>if_neg h;have B:ν'.inn d i=(ν t).1:=if_pos ⟨rfl,rfl⟩;have n:∀e G,bh (bF (dL t st.m) d (.dp k (W.set i [kg O es T]) none)) e=some G->∃ob,bh st.m e=some ob/\ν' e=ν e/\sameShape ob G:=λe G h=>by rcases z e with⟨rfl,a⟩|⟨a,I⟩;rw[a]at h;cases h;exact⟨_,C,rfl,by simp[sameShape,bB.AI]⟩;exact⟨G,(I _ h).2,rfl,.refl _⟩
 have S:∀id,Z id->Z id/\bn H id=bn H id:=λid h=>⟨h,rfl⟩;have J:∀e ob j,bh (bF (dL t st.m) d (.dp k (W.set i [kg O es T]) none)) e=some ob->ob.pt j=true->∃e0 Y g,bh st.m e0=some Y/\Y.pt g=true/\ν'.at e j=ν.at e0 g/\((e=d/\j=i+1/\e0=t/\g=0)\/(e0=e/\g=j/\e≠t/\¬(e=d/\j=i+1))):=λe ob j h A=>by
  rcases z e with⟨rfl,a⟩|⟨a,I⟩
  .rw[a]at h;cases h;cases j with|zero=>exact⟨e,_,0,C,A,rfl,.inr ⟨rfl,rfl,Ne.symm X,Zaa⟩⟩|succ u=>
    obtain⟨-,ae,af,L⟩:=tc A;by_cases w:u=i
    .subst w;rw[getElem?_set_self hi]at L;have ad:bY O=true:=(by cases O<;>first|rfl|cases L);exact⟨t,_,0,m,ad,B,.inl ⟨rfl,rfl,rfl,rfl⟩⟩
    rw[getElem?_set_ne (Ne.symm w)]at L;exact⟨e,_,u+1,C,by simp[bB.pt,L,Ne.symm w],D e u Zaa,.inr ⟨rfl,rfl,Ne.symm X,Zaa⟩⟩
  have⟨l,E⟩:=I _ h;refine⟨e,ob,j,E,A,?_,.inr ⟨rfl,rfl,l,Zaa⟩⟩;cases j with|zero=>rfl|succ u=>exact D e u Zaa
 refine⟨ν',⟨λs sv hs=>(r.slot s sv hs).mono S λe _=>n e,λe ob Q=>?_,λK d2 o1 o2 M j2 a I N b2 hp=>?_,λK o1 M a N=>?_,r.zrow,r.deep⟩,⟨le_refl _,λ_ _ _ _ _=>rfl,S,λid⟨e,o,j,a,I,l⟩=>?_,λ_ h=>.inl h,λe _=>n e,rfl⟩⟩;rcases z e with⟨rfl,a⟩|⟨a,I⟩;simp only at Q;rw[a]at Q;cases Q;simp only[dg,P,if_true,ab];refine⟨o1,o2,(λu t' e=>by cases e),ys,o4,by simp[o5],λu x y L hy=>?_⟩;by_cases w:u=i;subst w;rw[getElem?_set_self hi]at L;cases L;have U:=V u _ y (ζd hi) hy;simp only[oF,if_true]at U;obtain⟨v,rfl,-,hv⟩:=U;obtain⟨_,_,_,q,rfl⟩:=hv.gE m;cases q;show vP ν' H Z e u _ _;simp only[dg]at p;cases O with|nil=>exact .inl ⟨rfl,.inl rfl⟩|emp=>exact .inl ⟨rfl,.inr rfl⟩|row=>simp only[bY,if_true]at p;have⟨ws,p1,p2,p3,p4,p5⟩:=p;have⟨p5,p6⟩:=p5 trivial;rw[p5,drop_zero,<-p6,take_length]at p3;exact .inr ⟨es,T,ws,rfl,by rw[B];simp[oH,p5],by rw[B];exact p1,p3⟩|part=>exact absurd rfl aa
 rw[getElem?_set_ne (Ne.symm w)]at L;have U:=V u x y L hy;simp only[oF,if_neg (Ne.symm w)]at U;show vP ν' H Z e u _ _;unfold vP at U⊢;rw[D e u Zaa];exact U;have⟨l,E⟩:=I _ Q;exact dg.mono (ν:=ν) (ν':=ν') S rfl (λ_ _=>rfl) (λe' _=>n e') (r.obj e ob E) (funext λu=>D e u Zaa);have⟨e1,p1,b,k1,c,f,c1⟩:=J K o1 M a N;have⟨e2,p2,q2,k2,l2,u2,c2⟩:=J d2 o2 j2 I b2;have:=r.inj e1 e2 p1 p2 b q2 k1 k2 c l2 (by rw[<-f,<-u2];exact hp);omega;have⟨e1,p1,b,k1,c,f,c1⟩:=J K o1 M a N;rw[f];exact r.apart e1 p1 b k1 c;have⟨e1,p1,b,k1,c,f,c1⟩:=J e o j a I;exact .inl ⟨e1,p1,b,k1,c,by rw[<-f];exact l⟩
def Ry(r:R ν Z st F H){x:Gh}(h:ghost x st=some st'):∃ν' Z',R ν' Z' st' F H/\Ev Rv ν Z st H ν' Z' st' H:=by cases x with|close d=>have⟨Z',a,b⟩:=I9 (Rv:=Rv) r h;grind|closeS l=>simp[ghost]at h;split at h;have⟨Z',a,b⟩:=I9 (Rv:=Rv) r h;grind;simp at h;subst h;exact⟨ν,Z,r,.refl⟩;grind|closeB d=>have⟨Z',a,b⟩:=Py (Rv:=Rv) r h;grind|keep gs G=>simp[ghost]at h;split at h;(next g m e B=>simp at h;subst h;exact⟨ν,Z,r.less (λs D w=>rz e w) (λd ob hd=>rz B hd),Ev.less (λd ob hd=>rz B hd)⟩);grind|drop ds=>simp[ghost]at h;subst h;exact⟨ν,Z,r.less (λs D w=>pz w) (λd ob hd=>hd),Ev.less (λd ob hd=>hd)⟩|melt d=>have⟨a,b⟩:=V1 (Rv:=Rv) r h;exact⟨ν,Z,a,b⟩|take d i es t=>have⟨ν',a,b⟩:=Vb (Rv:=Rv) r h;exact⟨ν',Z,a,b⟩|put d=>have⟨ν',a,b⟩:=XO (Rv:=Rv) r h;exact⟨ν',Z,a,b⟩|canon l d es=>cases l with|s n=>simp[ghost]at h;split at h;rename_i w;split at h;rename_i u;simp at h;have⟨a,b⟩:=O8 (Rv:=Rv) (es:=es) (k:=.nil) r ⟨rfl,rfl⟩ w u (λy h=>h.bG) rfl;grind;grind;rename_i w;split at h;rename_i u;simp at h;have⟨a,b⟩:=O8 (Rv:=Rv) (es:=es) (k:=.emp) r ⟨rfl,rfl⟩ w u (λy h=>h.dH) rfl;grind;grind;split at h;simp at h;subst h;exact⟨ν,Z,r,.refl⟩;rename_i z;split at h;rename_i u;simp at h;have⟨a,b⟩:=IJ (Rv:=Rv) r z u;grind;grind;split at h;simp at h;subst h;exact⟨ν,Z,r,.refl⟩;rename_i z;split at h;rename_i u;simp at h;have⟨a,b⟩:=IJ (Rv:=Rv) r z u;grind;grind;grind|c b i=>simp[ghost]at h;split at h;rename_i cs C;split at h;rename_i w;split at h;rename_i u;simp at h;have⟨ν',a,b⟩:=PI (Rv:=Rv) (es:=es) (k:=.nil) r rfl C w u (λy h=>h.bG) rfl;grind;grind;rename_i w;split at h;rename_i u;simp at h;have⟨ν',a,b⟩:=PI (Rv:=Rv) (es:=es) (k:=.emp) r rfl C w u (λy h=>h.dH) rfl;grind;grind;split at h;simp at h;subst h;exact⟨ν,Z,r,.refl⟩;rename_i z;split at h;rename_i u;simp at h;have⟨a,b⟩:=IJ (Rv:=Rv) r z u;grind;grind;grind;grind
end
structure nZ(E:Env)(f:FuncId)(q:Hu):Prop where
 keep:E.keep f=true
 own:E.own f=false
 le:∀es xs vs ys,q.go es xs vs=some ys->ys.length<=xs.length/\(q.part=false->ys.length=xs.length)
 none:∀es vs ys,q.go es [] vs=some ys->∀(H:bk)(Z:Nat->Prop)(ws:List V)(w:V),dz H Z vs ws->(w=.bG\/w=.dH)->∃n X,∀k,n<=k->run E k (.fn f) (w::ws) H=some (if q.part then w else .undef,H++X)
 row:∀es xs vs ys,q.go es xs vs=some ys->∀(H:bk)(Z:Nat->Prop)(ws:List V)(id off:Nat)(rs:List (List V)),dz H Z vs ws->H[id]?=some (.row es rs)->off+xs.length<=rs.length->
  fR H Z xs ((rs.drop off).take xs.length)->vl H Z rs->¬Z id->∃n rs' X,(∀k,n<=k->run E k (.fn f) (.hsl id es off xs.length::ws) H=some (if q.part then .hsl id es off ys.length else .undef,(H++X).set id (.row es rs')))/\
   rs'.length=rs.length/\fR H Z ys ((rs'.drop off).take ys.length)/\vl H Z rs'
section
variable{Rv:Nat->Prop}{ν ν':Nu}{Z Z':Nat->Prop}{st st':St}{m m':Tb bB}{F F':WF}{H H':bk}
def Vy{E:Env}{f:Y'}{q:Hu}(i:nZ E f q)(r:R ν Z st F H){args:ST}{ys:S'}(K:b7 ν st.m H Z args ys){dst:aY Nat}{sv:SV}(h:Dp q dst args st=some (sv,st')):
 ∃n y H' ν',(∀k,n<=k->run E k (.fn f) ys H=some (y,H'))/\R ν' Z st' F H'/\c6 ν' st'.m H' Z sv y/\Ev Rv ν Z st H ν' Z st' H'/\Kept dst ν st.m ν' st'.m:=by
 unfold Dp at h;split at h
 .rename_i d vs;obtain⟨w,p,rfl,M,N⟩:=K.inv;split at h
  .rename_i k es xs zs u G;have s:=b7.dy N G;split at h
   .rename_i ns T;have⟨al,P⟩:=i.le _ _ _ _ T;obtain⟨_,_,_,ee,rfl⟩:=M.gE u;cases ee;have grow:∀X:bk,R ν Z st F (H++X)/\Ev Rv ν Z st H ν Z st (H++X)/\∀id,Z id->bn (H++X) id=bn H id:=λX=>by
     have j:∀id,id<H.length->(H++X)[id]?=H[id]?:=λid h=>getElem?_append_left h
     have G:∀id,Z id->bn (H++X) id=bn H id:=λid h=>by unfold bn;rw[j id (r.vQ h)]
     exact⟨r.heap (λid h=>j id (r.lt h)) G,Ev.heap Zab (λid h _ _ _=>j id h) G,G⟩
    have o:=r.obj d _ u
    cases a:bY k with
    |false=>
     simp only[dg,a,false_eq_true,if_false]at o;subst o;have hw:oH (ν d) k es 0=.bG\/oH (ν d) k es 0=.dH:=by cases k<;>simp[oH,bY]at a⊢
     have⟨n,X,L⟩:=i.none _ _ _ T H Z p _ s hw;have⟨b,I,U⟩:=grow X;simp only[a,false_eq_true,if_false]at h;split at h
     .rename_i O;split at h
      .rename_i t;split at h
       .rename_i z;simp only[ζa,ζc]at h;obtain⟨rfl,rfl⟩:=h;have r1:R ν Z {st with m:=dL d st.m} F (H++X):=b.less (g:=st.g) (λ_ _ h=>h) lB
        rw[if_pos O]at L;refine⟨n,_,H++X,hD ν t (ν d),L,r1.add z (λl=>by simp[ey,a]at l) (by simp[dg,a]),?_,?_,Kept.add lB⟩
        .refine .own _ _ λah W=>?_
         simp only at W;rw[cn]at W;cases W;exact⟨_,_,_,rfl,by rw[iH];rfl⟩
        exact I.trans (Ev.re (st:=st) lB (kK z).1 (le_refl _) (λ_ _ _ _=>rfl) (λ_ _=>rfl) (λl=>by simp[ey,a]at l))
       cases h
      cases h
     rename_i O;simp only[ζa,ζc]at h;obtain⟨rfl,rfl⟩:=h;rw[if_neg O]at L;have hu:bF st.m d (.sl k es [])=st.m:=qO u;rw[hu];exact⟨n,_,H++X,ν,L,b,.v _ _ (.same _ rfl),I,.refl⟩
    |true=>
     simp only[dg,a,if_true]at o;have⟨rs,v,hl,hf,ab,Q⟩:=o;have B:ey (.sl k es xs)=true:=a;have⟨n,C,X,L,e1,e2,e3⟩:=i.row _ _ _ _ T H Z p _ _ rs s v hl hf ab (r.apart d _ 0 u B);have⟨b,I,U⟩:=grow X;have ai:(ν d).1<(H++X).length:=by have:=(ζe.1 v).1;simp;omega
     have G:∀id,Z id->Z id/\bn ((H++X).set (ν d).1 (.row es C)) id=bn H id:=λid D=>⟨D,by
      rw[<-U id D];unfold bn;rw[getElem?_set_ne];rintro rfl;exact r.apart d _ 0 u B D⟩
     have x:∀id,Z id->bn ((H++X).set (ν d).1 (.row es C)) id=bn (H++X) id:=λid D=>by rw[(G id D).2,U id D]
     have c:∀id,id≠(ν d).1->((H++X).set (ν d).1 (Ob.row es C))[id]?=(H++X)[id]?:=λid aj=>getElem?_set_ne (Ne.symm aj)
     have J:((H++X).set (ν d).1 (Ob.row es C))[(ν d).1]?=some (.row es C):=getElem?_set_self ai;rw[oI a];simp only[a,if_true]at h;split at h
     .rename_i O;split at h
      .rename_i t;split at h
       .rename_i z;simp only[ζa,ζc]at h;obtain⟨rfl,rfl⟩:=h;have r1:R ν Z {st with m:=dL d st.m} F (H++X):=b.less (g:=st.g) (λ_ _ h=>h) lB
        have A:¬eZ ν (dL d st.m) (ν d).1:=by rintro⟨k2,o2,j2,g1,g2,g3⟩;have⟨g4,g5⟩:=lR g1;exact g4 (r.inj d k2 _ o2 0 j2 u g5 B g2 g3.symm).1
        have r2:R ν Z {st with m:=dL d st.m} F ((H++X).set (ν d).1 (.row es C)):=r1.heap (λid ho=>c id (by rintro rfl;exact A ho)) x
        rw[if_pos O]at L;refine⟨n,_,_,hD ν t (ν d),L,r2.add z (λ_=>⟨A,r.apart d _ 0 u B⟩) ?_,?_,?_,Kept.add lB⟩
        .simp only[dg,bY,if_true,iH];exact⟨C,J,Zaa,e2.mono G,e3.mono G,λe=>by cases e⟩
        .refine .own _ _ λah W=>?_
         simp only at W;rw[cn]at W;cases W;exact⟨_,_,_,rfl,by rw[iH];rfl⟩
        exact I.trans (Ev.re (st:=st) lB (kK z).1 Zab (λid _ ho _=>c id (by rintro rfl;exact ho ⟨d,_,0,u,B,rfl⟩)) x (λ_=>.inl ⟨d,_,0,u,B,rfl⟩))
       cases h
      cases h
     rename_i O;simp only[ζa,ζc]at h;obtain⟨rfl,rfl⟩:=h;rw[if_neg O]at L;have ak:q.part=false:=by simpa using O
     have S:=P ak;have Y:sameShape (.sl k es xs) (.sl k es ns):=by simp[sameShape,bB.AI,S]
     refine⟨n,_,_,ν,L,b.gA u Y (nG rfl) c B ?_,.v _ _ (.same _ rfl),I.trans (Ev.gA b u Y (nG rfl) c B Zab),Kept.gA u Y (nG rfl)⟩
     simp only[dg,a,if_true];exact⟨C,J,Zaa,e2.mono G,e3.mono G,λe=>⟨(Q e).1,by rw[e1,(Q e).2,S]⟩⟩
   cases h
  cases h
 cases h
end
def wL:Nat->ST->Tb SV
 |_,[]=>[]|i,v::vs=>(i,v)::wL (i+1) vs
def start(svs:ST)(B:dB):St:=⟨wL 0 svs,B,B.map (·.1),[],true,0⟩
def jg(S:Sys)(c:bX):Prop:=∀f u w rs z,c f u w=some (rs,z)->∀(ν:Nu)(Z:Nat->Prop)(args:S')(H:bk),(S.E.keep f=true\/H=[])->R ν Z (start u w) args H->b7 ν w H Z u args->∃n y H' ν' Z' st' F' B,run S.E n (.fn f) args H=some (y,H')/\y=result B/\st'.m=z/\b7 ν' z H' Z' rs B/\R ν' Z' st' F' H'/\Ev (λ_=>False) ν Z (start u w) H ν' Z' st' H'
section
variable{Rv:Nat->Prop}{ν ν':Nu}{Z Z':Nat->Prop}{st st':St}{m m':Tb bB}{F F':WF}{H H' H1:bk}{N:Nat->Y'}
def Tc{k:Fl}{es:Nat}{xs:T2}{d:Nat}(o:dg ν m H Z d (.sl k es xs)):(kg k es xs).good=true:=by
 by_cases a:bY k=true;simp only[dg,a,if_true]at o;have⟨w,_,_,u,_⟩:=o;have e:kg k es xs=.fsl es xs:=by cases k<;>simp[bY]at a<;>rfl
 rw[e];simp only[V.good];exact u.good;cases k<;>simp[bY]at a<;>rfl
mutual
def QS(D:∀d ob,bh m d=some ob->dg ν m H Z d ob):∀(n:Nat)(sv:SV)(x y:V),shut m n sv=some x->c6 ν m H Z sv y->x.good=true
 |n,.v x,z,y,h,r=>by simp only[shut,ζa]at h;subst h;exact r.fr.good|n,.own d,z,y,h,r=>by simp only[shut]at h;split at h;(next k es xs B=>simp only[ζa]at h;subst h;exact Tc (D d _ B));(next k xs B=>simp only[ζa]at h;subst h;exact(N6 (Z':=λ_=>True) (D d _ B) (λ_ _=>trivial) (λ_ _=>trivial)).1.good);simp at h|0,.ptr d o,z,y,h,r=>by simp[shut]at h|n+1,.ptr d o,z,y,h,r=>by simp only[shut]at h;split at h;rename_i cs B;split at h;rename_i xs T;split at h;simp only[ζa]at h;subst h;obtain⟨es,G,_,p,_⟩:=D d _ B;simp only[V.good];exact z_ _ (nK D n cs xs G T p);simp at h;simp at h;simp at h|n,.el d i o,z,y,h,r=>by cases n<;>simp[shut]at h|n,.yl id,z,y,h,r=>by cases n<;>simp[shut]at h|n,.mp d,z,y,h,r=>by simp only[shut]at h;split at h;rename_i L B;simp only[ζa]at h;subst h;obtain⟨w,_,e⟩:=D d _ B;simp only[V.good];refine HH.2 λj u g=>?_;have O:j<w.length:=(by rw[<-e.1];exact(ζe.1 g).1);obtain⟨⟨_,c⟩,C⟩:=e.2 j u _ g (ζd O);exact⟨kj c,C.good⟩;simp at h|0,.clo f a b,z,y,h,r=>by simp[shut]at h|n+1,.clo f a b,z,y,h,r=>by simp only[shut]at h;split at h;(next Q x2 c C=>simp only[ζa]at h;subst h;obtain⟨S,U,rfl,W,X⟩:=r.kS;simp only[V.good,ζh];exact⟨nK D n a Q S c W,nK D n b x2 U C X⟩);simp at h|0,.tup l,z,y,h,r=>by simp[shut]at h|n+1,.tup l,z,y,h,r=>by simp only[shut]at h;obtain⟨xs,c,rfl⟩:=ζf.1 h;obtain⟨I,rfl,J⟩:=r.qZ;simp only[V.good];exact nK D n l xs I c J|0,.agg l,z,y,h,r=>by simp[shut]at h|n+1,.agg l,z,y,h,r=>by simp only[shut]at h;obtain⟨xs,c,rfl⟩:=ζf.1 h;obtain⟨I,rfl,J⟩:=r.iZ;simp only[V.good];exact nK D n l xs I c J
def nK(D:∀d ob,bh m d=some ob->dg ν m H Z d ob):∀(n:Nat)(svs:ST)(xs ys:S'),di m n svs=some xs->b7 ν m H Z svs ys->V.cQ xs=true
 |n,[],xs,ys,h,r=>by simp only[di,ζa]at h;subst h;rfl|n,sv::svs,xs,ys,h,r=>by simp only[di]at h;split at h;(next y s a G=>simp only[ζa]at h;subst h;obtain⟨J,B,rfl,r1,r2⟩:=r.inv;simp only[V.cQ,ζh];exact⟨QS D n sv y J a r1,nK D n svs s B G r2⟩);simp at h
end
def KE{f:V->aY V}:∀{xs ys:aX (V×V)},xs.length=ys.length->(∀(j:Nat)u v,xs[j]?=some u->ys[j]?=some v->f v.1=some u.1/\f v.2=some u.2)->mw f ys=some xs
 |[],[],_,_=>rfl|[],y::ys,h,_=>by simp at h|x::xs,[],h,_=>by simp at h|(a,b)::xs,(c,d)::ys,h,B=>by have⟨e,D⟩:=B 0 _ _ rfl rfl;simp only at e D;simp only[mw,e,D,KE (xs:=xs) (ys:=ys) (by simpa using h) λj u v g i=>B (j+1) u v (by simpa using g) (by simpa using i)]
def Jj:∀{l:aX (V×V)}{n:Nat},V.uu n l=true↔∀(j:Nat)u,l[j]?=some u->u.1.lvl n=true/\u.2.lvl n=true
 |[],n=>by simp[V.uu]|(k,x)::l,n=>by simp only[V.uu,ζh,Jj (l:=l)];constructor;rintro⟨b,B⟩ j u a;(cases j with|zero=>simp at a;subst a;exact b|succ j=>exact B j u (by simpa using a));intro h;exact⟨h 0 (k,x) rfl,λj u a=>h (j+1) u (by simpa using a)⟩
def vU{n:Nat}{xs ys:S'}(D:iU (borrow n H1) ys=some xs)(B:V.iG ys=true):ys=xs:=by
 have w:=lC (f:=borrow n H1) (xs:=ys) (ys:=ys) rfl λj u v a b=>by rw[a]at b;cases b;exact eH n H1 (pX.1 B j u a)
 rw[D]at w;cases w;rfl
mutual
def K1{fr:So}(G:∀d∈fr,∀e ob,bh m e=some ob->ob.cM d=false)(J:∀d ob,bh m d=some ob->d∉fr->dg ν m H1 Z d ob):
 ∀(n:Nat)(sv:SV)(x y:V),shut m n sv=some x->(∀d∈fr,sv.cM d=false)->c6 ν m H1 Z sv y->∀k,x.lvl k=true->borrow k H1 y=some x
 |n,.v x,z,y,h,D,r,k,hk=>by simp only[shut,ζa]at h;subst h;exact r.fr.borrow k hk|n,.own d,z,y,h,D,r,k,hk=>by simp only[shut]at h;split at h;rename_i T es xs B;simp only[ζa]at h;subst h;obtain⟨_,_,_,e,rfl⟩:=r.gE B;cases e;have hd:d∉fr:=λhd=>(by have:=D d hd;simp[SV.cM]at this);have o:=J d _ B hd;by_cases I:bY T=true;simp only[dg,I,if_true]at o;obtain⟨ys,g,E,F,_⟩:=o;rw[oI I];have e:kg T es xs=.fsl es xs:=(by cases T<;>simp[bY]at I<;>rfl);rw[e]at hk⊢;exact(FR.EE (Z:=λ_=>True) trivial (show bn H1 (ν d).1=some (es,ys)by unfold bn;rw[g];rfl) E (F.mono λid h=>⟨trivial,rfl⟩)).borrow k hk;cases T<;>simp[bY]at I;exact eH k H1 rfl;exact eH k H1 rfl;rename_i T xs B;simp only[ζa]at h;subst h;obtain⟨_,_,_,e,rfl⟩:=r.gE B;cases e;have hd:d∉fr:=λhd=>(by have:=D d hd;simp[SV.cM]at this);exact(N6 (Z':=λ_=>True) (J d _ B hd) (λ_ _=>trivial) (λ_ _=>trivial)).1.borrow k hk;simp at h|0,.ptr d o,z,y,h,D,r,k,hk=>by simp[shut]at h|n+1,.ptr d o,z,y,h,D,r,k,hk=>by
  simp only[shut]at h;split at h;rename_i cs B;split at h;rename_i xs q;split at h;rename_i H;simp only[ζa]at h;subst h;obtain⟨_,e,rfl⟩:=r.pW B;cases e;have hd:d∉fr:=λhd=>by have:=D d hd;simp[SV.cM]at this
  obtain⟨es,L,g,s,_⟩:=J d _ B hd
  cases k with
  |zero=>simp[V.lvl]at hk|succ k=>
   simp only[V.lvl]at hk;have K:∀e∈fr,SV.dF e (cs.drop o)=false:=λe M=>by
    have:=G e M d _ B;simp only[bB.cM]at this
    cases N:SV.dF e (cs.drop o)with
    |false=>rfl|true=>
     exfalso;have:∀{l:ST}{j:Nat},SV.dF e (l.drop j)=true->SV.dF e l=true:=by
      intro l
      induction l with
      |nil=>intro j h;simpa using h|cons a l O=>intro j h;cases j with
       |zero=>simpa using h|succ j=>simp only[SV.dF,or_eq_true];exact .inr (O (by simpa using h))
     rw[this N]at *;simp_all
   have Q:xs.length=cs.length:=by have:∀{l:ST}{r:S'},di m n l=some r->r.length=l.length:=(by intro l;induction l with|nil=>intro r h;simp only[di,ζa]at h;subst h;rfl|cons a l O=>intro r h;simp only[di]at h;split at h;(next c S=>simp only[ζa]at h;subst h;simp[O S]);simp at h);exact this q
   have P:di m n (cs.drop o)=some (xs.drop o):=by have:∀{l:ST}{r:S'}{j:Nat},di m n l=some r->di m n (l.drop j)=some (r.drop j):=(by intro l;induction l with|nil=>intro r j h;simp only[di,ζa]at h;subst h;simp[di]|cons a l O=>intro r j h;have R:=h;simp only[di]at h;split at h;rename_i c S;simp only[ζa]at h;subst h;(cases j with|zero=>exact R|succ j=>exact O S);simp at h);exact this q
   have hb:=kC G J n (cs.drop o) (xs.drop o) (L.drop o) P K (s.drop o) k hk;unfold borrow;simp only[V.closed,false_eq_true,if_false,g,ζb,Ob.rows,List.getElem?_cons_zero,if_pos (show o<=L.length by rw[<-s.1,<-Q];exact H),hb,map_some]
  simp at h;simp at h;simp at h
 |n,.el d i o,z,y,h,D,r,k,hk=>by cases n<;>simp[shut]at h|n,.yl id,z,y,h,D,r,k,hk=>by cases n<;>simp[shut]at h|n,.mp d,z,y,h,D,r,k,hk=>by simp only[shut]at h;split at h;rename_i ae B;simp only[ζa]at h;subst h;obtain⟨_,e,rfl⟩:=r.E0 B;cases e;have hd:d∉fr:=λhd=>(by have:=D d hd;simp[SV.cM]at this);obtain⟨U,g,W⟩:=J d _ B hd;(cases k with|zero=>simp[V.lvl]at hk|succ k=>simp only[V.lvl]at hk;unfold borrow;simp only[V.closed,false_eq_true,if_false,g];rw[KE (xs:=ae) (ys:=U) W.1 λj u v t hv=>?_];rfl;obtain⟨⟨e1,e2⟩,e3⟩:=W.2 j u v t hv;exact⟨by rw[<-e1];exact eH k H1 (V.mJ (kj e2)),e3.borrow k (Jj.1 hk j u t).2⟩);simp at h
 |0,.clo f a b,z,y,h,D,r,k,hk=>by simp[shut]at h|n+1,.clo f a b,z,y,h,D,r,k,hk=>by simp only[shut]at h;split at h;rename_i x1 x2 c S;simp only[ζa]at h;subst h;obtain⟨a',A,rfl,ra,rb⟩:=r.kS;(cases k with|zero=>simp[V.lvl]at hk|succ k=>simp only[V.lvl,ζh]at hk;have C:=kC G J n a x1 a' c (λd hd=>by have:=D d hd;simp only[SV.cM,or_eq_false_iff]at this;exact this.1) ra k hk.1;have X:=kC G J n b x2 A S (λd hd=>by have:=D d hd;simp only[SV.cM,or_eq_false_iff]at this;exact this.2) rb k hk.2;by_cases w:(V.clo f a' A).closed=true;rw[eH _ _ w];simp only[V.closed,ζh]at w;rw[vU C w.1,vU X w.2];unfold borrow;rw[if_neg w];simp only[C,X]);simp at h|0,.tup l,z,y,h,D,r,k,hk=>by simp[shut]at h|n+1,.tup l,z,y,h,D,r,k,hk=>by simp only[shut]at h;obtain⟨xs,c,rfl⟩:=ζf.1 h;obtain⟨Y,rfl,p⟩:=r.qZ;cases k with|zero=>simp[V.lvl]at hk|succ k=>simp only[V.lvl]at hk;have C:=kC G J n l xs Y c (λd hd=>by have:=D d hd;simpa[SV.cM]using this) p k hk;by_cases w:(V.tup Y).closed=true;rw[eH _ _ w];simp only[V.closed]at w;rw[vU C w];unfold borrow;rw[if_neg w];simp only[C,map_some]
 |0,.agg l,z,y,h,D,r,k,hk=>by simp[shut]at h|n+1,.agg l,z,y,h,D,r,k,hk=>by simp only[shut]at h;obtain⟨xs,c,rfl⟩:=ζf.1 h;obtain⟨Y,rfl,p⟩:=r.iZ;cases k with|zero=>simp[V.lvl]at hk|succ k=>simp only[V.lvl]at hk;have C:=kC G J n l xs Y c (λd hd=>by have:=D d hd;simpa[SV.cM]using this) p k hk;by_cases w:(V.agg Y).closed=true;rw[eH _ _ w];simp only[V.closed]at w;rw[vU C w];unfold borrow;rw[if_neg w];simp only[C,map_some]
def kC{fr:So}(B:∀d∈fr,∀e ob,bh m e=some ob->ob.cM d=false)(J:∀d ob,bh m d=some ob->d∉fr->dg ν m H1 Z d ob):
 ∀(n:Nat)(svs:ST)(xs ys:S'),di m n svs=some xs->(∀d∈fr,SV.dF d svs=false)->b7 ν m H1 Z svs ys->∀k,V.me k xs=true->iU (borrow k H1) ys=some xs
 |n,[],xs,ys,h,D,r,k,hk=>by simp only[di,ζa]at h;subst h;rw[r.c9];rfl|n,sv::svs,xs,ys,h,D,r,k,hk=>by simp only[di]at h;split at h;rename_i y s a T;simp only[ζa]at h;subst h;obtain⟨U,G,rfl,r1,r2⟩:=r.inv;simp only[V.me,ζh]at hk;have u:=K1 B J n sv y U a (λd hd=>by have:=D d hd;simp only[SV.dF,or_eq_false_iff]at this;exact this.1) r1 k hk.1;have w:=kC B J n svs s G T (λd hd=>by have:=D d hd;simp only[SV.dF,or_eq_false_iff]at this;exact this.2) r2 k hk.2;simp only[iU,u,w];simp at h
end
end
def Tf(n:Nat):V.me n []=true:=by cases n<;>rfl
def Qc(n:Nat)(x:V)(r:S'):V.me n (x::r)=(V.lvl n x&&V.me n r):=by cases n<;>rfl
mutual
def D5:∀{n:Nat}{x:V},V.lvl n x=true->V.lvl (n+1) x=true
 |0,.fsl ..,h=>by simp[V.lvl]at h|0,.fptr ..,h=>by simp[V.lvl]at h|0,.fmap ..,h=>by simp[V.lvl]at h|0,.agg ..,h=>by simp[V.lvl]at h|0,.tup ..,h=>by simp[V.lvl]at h|0,.clo ..,h=>by simp[V.lvl]at h|n+1,.fsl es xs,h=>by simp only[V.lvl]at h⊢;exact Dd h|n+1,.fptr cs,h=>by simp only[V.lvl]at h⊢;exact tP h|n+1,.fmap B,h=>by simp only[V.lvl]at h⊢;exact Fx h|n+1,.agg cs,h=>by simp only[V.lvl]at h⊢;exact tP h|n+1,.tup cs,h=>by simp only[V.lvl]at h⊢;exact tP h|n+1,.clo f a b,h=>by simp only[V.lvl,ζh]at h⊢;exact⟨tP h.1,tP h.2⟩|0,.bool _,_|0,.int ..,_|0,.str _,_|0,.iF,_|0,.gR,_|0,.tI,_|0,.dH,_|0,.bG,_|0,.hsl ..,_|0,.hptr ..,_|0,.yld _,_|0,.hmap _,_=>rfl|_+1,.bool _,_|_+1,.int ..,_|_+1,.str _,_|_+1,.iF,_|_+1,.gR,_|_+1,.tI,_|_+1,.dH,_|_+1,.bG,_|_+1,.hsl ..,_|_+1,.hptr ..,_|_+1,.yld _,_|_+1,.hmap _,_=>rfl
def tP:∀{n:Nat}{x:S'},V.me n x=true->V.me (n+1) x=true
 |n,[],_=>Tf _|n,a::l,h=>by rw[Qc,ζh]at h⊢;exact⟨D5 h.1,tP h.2⟩
def Dd:∀{n:Nat}{x:T2},V.qo n x=true->V.qo (n+1) x=true
 |n,[],_=>by simp only[V.qo]|n,a::l,h=>by simp only[V.qo,ζh]at h⊢;exact⟨tP h.1,Dd h.2⟩
def Fx:∀{n:Nat}{x:aX (V×V)},V.uu n x=true->V.uu (n+1) x=true
 |n,[],_=>by simp only[V.uu]|n,(k,v)::l,h=>by simp only[V.uu,ζh]at h⊢;exact⟨⟨D5 h.1.1,D5 h.1.2⟩,Fx h.2⟩
end
def zw{n m:Nat}(h:n<=m){x:V}(B:V.lvl n x=true):V.lvl m x=true:=by induction h with|refl=>exact B|step _ u=>exact D5 u
def p9{n m:Nat}(h:n<=m){x:S'}(B:V.me n x=true):V.me m x=true:=by induction h with|refl=>exact B|step _ u=>exact tP u
def R9{n m:Nat}(h:n<=m){x:T2}(B:V.qo n x=true):V.qo m x=true:=by induction h with|refl=>exact B|step _ u=>exact Dd u
def V0{n m:Nat}(h:n<=m){x:aX (V×V)}(B:V.uu n x=true):V.uu m x=true:=by induction h with|refl=>exact B|step _ u=>exact Fx u
mutual
def Bb:∀x:V,∃n,V.lvl n x=true
 |.fsl es xs=>let⟨n,h⟩:=Ir xs;⟨n+1,by simp only[V.lvl];exact h⟩|.fptr cs=>let⟨n,h⟩:=mM cs;⟨n+1,by simp only[V.lvl];exact h⟩|.fmap u=>let⟨n,h⟩:=Mh u;⟨n+1,by simp only[V.lvl];exact h⟩|.agg cs=>let⟨n,h⟩:=mM cs;⟨n+1,by simp only[V.lvl];exact h⟩|.tup cs=>let⟨n,h⟩:=mM cs;⟨n+1,by simp only[V.lvl];exact h⟩|.clo f a b=>let⟨n,h⟩:=mM a;let⟨m,k⟩:=mM b;⟨max n m+1,by simp only[V.lvl,ζh];exact⟨p9 (le_max_left _ _) h,p9 (le_max_right _ _) k⟩⟩|.bool _|.int ..|.str _|.iF|.gR|.tI|.dH|.bG|.hsl ..|.hptr ..|.yld _|.hmap _=>⟨0,rfl⟩
def mM:∀x:S',∃n,V.me n x=true
 |[]=>⟨0,by simp only[V.me]⟩|a::l=>let⟨n,h⟩:=Bb a;let⟨m,k⟩:=mM l;⟨max n m,by simp only[V.me,ζh];exact⟨zw (le_max_left _ _) h,p9 (le_max_right _ _) k⟩⟩
def Ir:∀x:T2,∃n,V.qo n x=true
 |[]=>⟨0,by simp only[V.qo]⟩|a::l=>let⟨n,h⟩:=mM a;let⟨m,k⟩:=Ir l;⟨max n m,by simp only[V.qo,ζh];exact⟨p9 (le_max_left _ _) h,R9 (le_max_right _ _) k⟩⟩
def Mh:∀x:aX (V×V),∃n,V.uu n x=true
 |[]=>⟨0,by simp only[V.uu]⟩|(a,b)::l=>let⟨n,h⟩:=Bb a;let⟨m,k⟩:=Bb b;let⟨q,p⟩:=Mh l;⟨max n (max m q),by simp only[V.uu,ζh];exact⟨⟨zw Zaa h,zw Zaa k⟩,V0 Zaa p⟩⟩
end
section
variable{Rv:Nat->Prop}{ν ν':Nu}{Z Z':Nat->Prop}{st st':St}{m m':Tb bB}{F F':WF}{H H' H1:bk}{N:Nat->Y'}{S:Sys}{c:bX}
def It:∀(l:ST)(i s:Nat)(sv:SV),bh (wL i l) s=some sv->∃j,s=i+j/\l[j]?=some sv
 |[],i,s,sv,h=>by simp[wL,bh]at h|x::l,i,s,sv,h=>by simp only[wL,bh]at h;split at h;(next e=>simp only[ζa]at h;subst h;exact⟨0,Zaa,rfl⟩);have⟨j,a,B⟩:=It l (i+1) s sv h;exact⟨j+1,Zaa,by simpa using B⟩
def yW{svs:ST}{args:S'}(h:b7 ν m H Z svs args):∀s sv,bh (wL 0 svs) s=some sv->c6 ν m H Z sv (get args s):=λs sv u=>by obtain⟨j,rfl,w⟩:=It svs 0 s sv u;have⟨y,z,r⟩:=h.get w;rw[Nat.zero_add,JS args j y z];exact r
def BT{az:S'}(a:V.cQ az=true):R ⟨λ_=>(0,0),λ_ _=>0⟩ (λ_=>False) (start (az.map .v) []) az []/\b7 ⟨λ_=>(0,0),λ_ _=>0⟩ [] [] (λ_=>False) (az.map .v) az:=by have h:b7 ⟨λ_=>(0,0),λ_ _=>0⟩ [] [] (λ_=>False) (az.map .v) az:=b7.rG (dz.same a);refine⟨⟨yW h,λd ob hd=>by simp[start,bh]at hd,λd w ob u j z hd=>by simp[start,bh]at hd,λd ob j hd=>by simp[start,bh]at hd,λid h=>h.elim,⟨λid es B h=>h.elim⟩⟩,h⟩
def HS{xs ys:S'}(h:dz H Z xs ys):((result xs).scalar=true->result ys=result xs)/\(result ys).scalar=(result xs).scalar:=by cases xs with|nil=>rw[h.c9];exact⟨λ_=>rfl,rfl⟩|cons x xs=>obtain⟨y,ys,rfl,a,u⟩:=h.inv;cases xs with|nil=>rw[u.c9];exact a.scalar|cons x2 xs=>obtain⟨w,ys,rfl,z,B⟩:=u.inv;exact FR.scalar (.tup _ _ h.1 h.2)
def Dn(g:jg S c){f:Y'}{az ys:S'}{rs:ST}{m':dB}(i:V.cQ az=true)(h:c f (az.map .v) []=some (rs,m'))(J:di m' 8 rs=some ys):
 ∃n r H2,(∀k,n<=k->run S.E k (.fn f) az []=some (r,H2))/\(∀k,n<=k->borrow k H2 r=some (result ys))/\(result ys).good=true:=by
 have⟨W,r1⟩:=BT i;obtain⟨n,y,H2,ν',Z',st',F',B,m,rfl,X,O,Q,_⟩:=g f _ _ _ _ h _ _ az [] (.inr rfl) W r1;subst X;have C:=nK Q.obj 8 rs ys B J O;have⟨L,T⟩:=mM ys;refine⟨max n (L+1),result B,H2,λk e=>(pT S.E (le_trans (le_max_left ..) e)).go _ _ _ _ m,λk e=>?_,?_⟩
 .have w:=kC (fr:=[]) (λd hd=>by simp at hd) (λd ob hd _=>Q.obj d ob hd) 8 rs _ _ J (λd hd=>by simp at hd) O
  obtain⟨k,rfl⟩:∃j,k=j+1:=⟨k-1,Zaa⟩
  have U:=w k (p9 Zaa T)
  have Y:=w (k+1) (p9 Zaa T)
  have⟨e1,e2⟩:=jr Y
  cases B with
  |nil=>obtain rfl:=List.eq_nil_of_length_eq_zero e1;exact eH _ H2 rfl|cons z B=>
   cases B with
   |nil=>
    obtain⟨y,rfl⟩:∃y,ys=[y]:=by cases ys with|nil=>simp at e1|cons y l=>cases l with|nil=>exact⟨y,rfl⟩|cons _ _=>simp at e1
    have⟨x,Z,G⟩:=e2 0 y rfl;cases Z;exact G
   |cons z2 B=>
    obtain⟨y,D,l,rfl⟩:∃y D l,ys=y::D::l:=by cases ys with|nil=>simp at e1|cons y l=>cases l with|nil=>simp at e1|cons D l=>exact⟨y,D,l,rfl⟩
    by_cases u:(V.tup (z::z2::B)).closed=true
    .simp only[result];rw[eH _ _ u];simp only[V.closed]at u;rw[vU U u]
    simp only[result];unfold borrow;rw[if_neg u];simp only[U,map_some]
 have:∀{l:S'},V.cQ l=true->(result l).good=true:=by
  intro l I
  cases l with
  |nil=>rfl|cons a l=>cases l with
   |nil=>simp only[V.cQ,ζh]at I;exact I.1|cons b l=>simp only[result,V.good];exact I
 exact this C
theorem Gg {f:FuncId} {args az:aX V} {y r:V} {H2:bk} {n:Nat} (hr:∀k,n<=k->run S.E k (.fn f) az []=some (r,H2)) (D:∀k,n<=k->borrow k H2 r=some y) (hg:y.good=true) {B:Nat} (G:∀k,B<=k->borrows k H args=some az) :
 ∀k,max n B<=k->b8 (run S.E k) f args H=some y:=λk hk=>by
 unfold b8;simp only[oS,G k Zaa,hr k Zaa,D k Zaa,V.mJ hg,if_true]
def sH(B:∀id,Z id->(bn H id).isSome=true){T:So}{id:Nat}(h:Z id):bn (cZ H T) id=bn H id:=by
 have:=B id h;unfold bn at this⊢;rw[ja];cases u:H[id]?with|none=>rw[u]at this;simp at this|some ob=>
  rw[u]at this;simp only[map_some,ζb];by_cases e:id∈T
  .rw[if_pos e];cases ob<;>first|rfl|simp[Ob.rows]at this
  rw[if_neg e]
def vv{T:So}{id:Nat}(h:id∉T):(cZ H T)[id]?=H[id]?:=by rw[ja];cases H[id]?<;>simp[h]
def BA{az:S'}{args:ST}{ys:S'}(B:∀d ob,bh m d=some ob->dg ν m H Z d ob)(h:di m 8 args=some az)(r:b7 ν m H Z args ys):V.cQ az=true:=nK B 8 args az ys h r
def za{az:S'}{args:ST}{ys:S'}(r:R ν Z st F H)(B:b7 ν st.m H Z args ys)(h:di st.m 8 args=some az):∃n,∀k,n<=k->borrows k H ys=some az:=
 let⟨n,u⟩:=mM az
 ⟨n,λk a=>kC (fr:=[]) (λd hd=>Zad) (λd ob hd _=>r.obj d ob hd) 8 args az ys h (λd hd=>Zad) B k (p9 a u)⟩
def n_{b id:Nat}(h:id<b):bn (H.take b) id=bn H id:=by grind[bn]
def Nl{b:Nat}{fr:So}{az:S'}{args:ST}{ys:S'}(r:R ν Z st F H)(B:b7 ν st.m H Z args ys)(h:di st.m 8 args=some az)
 (D:∀d ob j,bh st.m d=some ob->ob.pt j=true->d∉fr->ν.at d j<b)(G:∀id,Z id->id<b)(a:ez st.m fr args=true):∃n,∀k,n<=k->borrows k (H.take b) ys=some az:=by
 have⟨n,w⟩:=mM az;refine⟨n,λk f=>?_⟩
 unfold ez at a;have c:∀d∈fr,SV.dF d args=false/\uC d st.m=false:=λd hd=>by grind
 have u:∀id,Z id->Z id/\bn (H.take b) id=bn H id:=λid h=>⟨h,n_ (G id h)⟩
 refine kC (λd hd e ob z=>s_ (c d hd).2 z) (λd ob hd C=>?_) 8 args az ys h (λd hd=>(c d hd).1) (B.mono u λe _=>jt ν st.m e) k (p9 f w)
 exact dg.mono u rfl (λj I=>List.getElem?_take_of_lt (D d ob j hd I C)) (λe _=>jt ν st.m e) (r.obj d ob hd)
def LO(hS:jg S c){ops:Rd}{place:aY (Nat×Nat)}{dr N:X'}{fr:So}(ad:dr=place.isSome)(aa:∀b i,place=some (b,i)->N=true->dR ops i=true)
 (e:∀b i,place=some (b,i)->(∀d ob j,bh st.m d=some ob->ob.pt j=true->d∉fr->ν.at d j<b)/\∀id,Z id->id<b)
 (r:R ν Z st F H){args:ST}{ys:S'}(g:b7 ν st.m H Z args ys){f:Y'}(s:lI S.E ops place f=false){az:S'}(t:di st.m 8 args=some az)(a:(!dr||N)=true\/ez st.m fr args=true)
 {rs:ST}{m':dB}{G:S'}(v:c f (az.map .v) []=some (rs,m'))(Y:di m' 8 rs=some G)(U:(result G).scalar=true\/(dy args).isSome=true):
 ∃n H',(∀k,n<=k->eu S.E (run S.E k) ops place f ys H=some (result G,H'))/\R ν Z st F H'/\c6 ν st.m H' Z (.v (result G)) (result G)/\Ev Rv ν Z st H ν Z st H':=by
 have hg:=BA r.obj t g;have⟨A,rr,H2,l,P,E⟩:=Dn hS hg v Y;have⟨n2,hb⟩:=za r g t;have I:=Gg l P E hb;generalize hn:max A n2=n at I;have ab:=I;have af:∀k,n<=k->dh (ct k H) ys=dh (ct n H) ys:=λk s=>Ac s (hb n Zaa)
 have C:∀{H'},c6 ν st.m H' Z (.v (result G)) (result G):=.v _ _ (.same _ E);have B:∀T:So,(∀id∈T,Z id)->R ν Z st F (cZ H T)/\Ev Rv ν Z st H ν Z st (cZ H T):=λT O=>
  ⟨r.heap (λid ho=>vv λw=>by obtain⟨d,ob,j,g1,g2,rfl⟩:=ho;exact r.apart d ob j g1 g2 (O _ w)) (λid w=>sH r.zrow w),
   Ev.heap (by rw[mj];grind) (λid _ _ Y _=>vv λw=>Y (O id w)) (λid w=>sH r.zrow w)⟩
 have J:(dy args).isSome=true->(∀id∈dh (ct n H) ys,Z id)/\True:=λQ=>by
  have⟨xs,Q⟩:=isSome_iff_exists.1 Q;have m:=g.dy Q;exact⟨λid w=>by
   have⟨j,u,o,W⟩:=qS w;have K:j<xs.length:=by rw[m.1];grind
   exact FR.ct r.deep n (m.2 j _ u (ζd K) o) id W,trivial⟩
 cases place with
 |none=>
  by_cases z:(result G).scalar=true
  .exact⟨n,H,λk D=>by grind[eu],r,C,.refl⟩
  obtain⟨O,-⟩:=J (U.resolve_left z);have⟨p,q⟩:=B _ O;exact⟨n,cZ H (dh (ct n H) ys),λk D=>by grind[eu,oS],p,C,q⟩
 |some bi=>
  have⟨b,i⟩:=bi;have⟨o1,o2⟩:=e b i rfl;have ah:=ad;have fits:∀k,b8 (run S.E k) f ys (H.take b)=some (result G)->(result G).scalar=false->jl (H.take b) (dh (ct k (H.take b)) ys)=true/\dh (ct k H) ys=dh (ct k (H.take b)) ys:=λk _ ai=>by have⟨xs,Q⟩:=isSome_iff_exists.1 (U.resolve_left Zac);have m:=g.dy Q;have L:∀id,Z id->Z id/\bn (H.take b) id=bn H id:=λid h=>⟨h,n_ (o2 id h)⟩;have hd:Deep (H.take b) Z:=⟨λid es ys Y hr c v u o=>by rw[(L id Y).2]at hr;have⟨x,Q⟩:=r.deep.row id es ys Y hr c v u o;exact⟨x,Q.mono L⟩⟩;have M:∀id∈dh (ct k (H.take b)) ys,Z id:=λid w=>(by have⟨j,u,o,W⟩:=qS w;have K:j<xs.length:=(by rw[m.1];grind);exact FR.ct hd k ((m.2 j _ u (ζd K) o).mono L) id W);refine⟨?_,vr _ λid w=>o2 id (M id w)⟩;unfold jl;rw[all_eq_true];intro id w;have l:=r.zrow id (M id w);rw[<-(L id (M id w)).2]at l;exact l
  rcases a with a|a
  .have aj:=aa b i rfl Zac
   by_cases z:(result G).scalar=true
   .refine⟨n,H,λk D=>?_,r,C,.refl⟩
    grind[eu,qI]
   obtain⟨O,-⟩:=J (U.resolve_left z);have⟨p,q⟩:=B _ O;refine⟨n,cZ H (dh (ct n H) ys),λk D=>?_,p,C,q⟩
   simp only[eu,s,oS,false_eq_true,if_false];split
   next y hy=>have h9:=qI hy;rw[ab k D]at h9;grind
   grind
  have⟨n3,ae⟩:=Nl r g t o1 o2 a;have X:=Gg l P E ae
  by_cases z:(result G).scalar=true
  .refine⟨max A n3,H,λk D=>?_,r,C,.refl⟩
   grind[eu]
  obtain⟨O,-⟩:=J (U.resolve_left z);have⟨p,q⟩:=B _ O;refine⟨max n (max A n3),cZ H (dh (ct n H) ys),λk D=>?_,p,C,q⟩
  simp only[eu,s,oS,false_eq_true,if_false];have h9:=X k Zaa
  grind
theorem GP{α:Type}{k:Nat}{v:α}:∀{ds:So}{g:Tb α},bh (qp ds g) k=some v->k∉ds
 |[],_,_=>Zab|d::ds,g,h=>by have a:=GP (ds:=ds) h;have u:=(lR (pz h)).1;grind
def xe:∀{args:ST}{ds:So},rowsOf m args=some ds->(∀d∈ds,∃k es xs,bh m d=some (.sl k es xs))/\∀(j:Nat)u,args[j]?=some u->(∃x,u=.v x)\/∃d,u=.own d/\d∈ds
 |[],_,h=>by cases h;simp|.v x::r,ds,h=>by obtain⟨b,B⟩:=xe (args:=r) (by simpa[rowsOf]using h);refine⟨b,λj u c=>?_⟩;cases j with|zero=>grind|succ j=>exact B j u Zac
 |.own d::r,ds,h=>by
  simp only[rowsOf]at h;split at h
  .rename_i k es xs hd;obtain⟨z,b,rfl⟩:=ζf.1 h;obtain⟨g1,g2⟩:=xe b;refine⟨λw a=>?_,λj u c=>?_⟩;rcases mem_cons.1 a with rfl|a;exact⟨_,_,_,hd⟩;exact g1 w a;cases j with|zero=>grind|succ j=>rcases g2 j u Zac with k|⟨w,k1,k2⟩;all_goals grind
  cases h
 |.ptr ..::_,_,h|.el ..::_,_,h|.mp _::_,_,h|.clo ..::_,_,h|.tup _::_,_,h|.agg _::_,_,h|.yl _::_,_,h=>by simp[rowsOf]at h
def CV{H0:bk}(hd:Deep H0 Z)(U:∀d ob,bh m d=some ob->ey ob=true->(H0[(ν d).1]?).isSome=true->ob.flat->dg ν m H0 Z d ob){args:ST}{ys:S'}(T:b7 ν m H0 Z args ys){ds:So}(f:rowsOf m args=some ds)
 {q id:Nat}(h:id∈dh (ct q H0) ys):Z id\/∃d ob,d∈ds/\bh m d=some ob/\ey ob=true/\(ν d).1=id/\∃j es off len:Nat,ys[j]?=some (V.hsl id es off len):=by
 have⟨j,y,O,a⟩:=qS h;have Q:j<args.length:=by rw[T.1];grind
 have b:=ζd Q;have C:=T.2 j _ y b O;rcases(xe f).2 j _ b with⟨x,e⟩|⟨d,e,G⟩
 .rw[e]at C;cases C with|v _ _ hf=>grind[FR.ct]
 rw[e]at C;have⟨k,es,D,B⟩:=(xe f).1 d G;obtain⟨_,_,_,S,rfl⟩:=C.gE B;cases S
 by_cases w:bY k=true
 .cases q with
  |zero=>grind[ct]|succ q=>
  have I:oH (ν d) k es D.length=.hsl (ν d).1 es (ν d).2 D.length:=by cases k<;>first|rfl|cases w
  rw[I]at a;have W:ey (.sl k es D)=true:=w
  by_cases z:(H0[(ν d).1]?).isSome=true
  .have o:=U d _ B W z (jV Zab)
   simp[dg,w]at o;have⟨n,g,_,_,X,_⟩:=o;simp only[ct,V.closed,false_eq_true,if_false,g,mem_cons]at a;rcases a with rfl|a
   .grind
   have⟨i,u,b,Y⟩:=qS a;have⟨c,l,J⟩:=List.mem_flatten.1 (mem_of_getElem? b);have⟨x,p⟩:=X c (List.mem_of_mem_drop (List.mem_of_mem_take l)) u J
   grind[FR.ct]
  grind[ct]
 have L:(oH (ν d) k es D.length).closed=true:=by cases k<;>first|rfl|(exact absurd rfl w)
 rw[Bm q H0 L]at a;cases a
theorem UA (hS:jg S c) {ops:aX Oper} {place:aY (Nat×Nat)} {nw:Bool} (ai:∀b i,place=some (b,i)->nw=true->dR ops i=true)
 (hold:∀b i,place=some (b,i)->∀id,Z id->id<b)
 (r:R ν Z st F H) {args:aX SV} {ys:aX V} (U:b7 ν st.m H Z args ys) {f:FuncId} (hk:S.E.keep f=false) {az:aX V} (hs:di st.m 8 args=some az) (aj:(!place.isSome||nw)=true)
 {rs:aX SV} {m':dB} {D:aX V} (hc:c f (az.map .v) []=some (rs,m')) (J:di m' 8 rs=some D) (ak:(result D).scalar=false) {ds:aX Nat} (hr:rowsOf st.m args=some ds) :
 ∃n H',(∀k,n<=k->eu S.E (run S.E k) ops place f ys H=some (result D,H'))/\R ν Z { st with m:=qp ds st.m } F H'/\c6 ν (qp ds st.m) H' Z (.v (result D)) (result D)/\Ev Rv ν Z st H ν Z { st with m:=qp ds st.m } H':=by
 have hg:=BA r.obj hs U;obtain⟨n1,rr,H2,h1,h2,h3⟩:=Dn hS hg hc J;obtain⟨n2,W⟩:=za r U hs;have B:=Gg h1 h2 h3 W;generalize hn:max n1 n2=n at B;have I:=B;have al:∀k,n<=k->dh (ct k H) ys=dh (ct n H) ys:=λk hk=>Ac hk (W n Zaa)
 have L:∀{H'},c6 ν (qp ds st.m) H' Z (.v (result D)) (result D):=.v _ _ (.same _ h3);have z:∀d ob,bh (qp ds st.m) d=some ob->bh st.m d=some ob:=λd ob h=>pz h
 have hT:∀id∈dh (ct n H) ys,Z id\/∃d ob,d∈ds/\bh st.m d=some ob/\ey ob=true/\(ν d).1=id/\∃j es off len:Nat,ys[j]? = some (V.hsl id es off len):=λid w=>CV r.deep (λd ob h _ _ _=>r.obj d ob h) U hr w
 have r2  := r.less (λ_ _ h=>h) z
 have q1  := r2.heap (λid X=>vv λw=>by
  obtain⟨d,ob,j,g1,g2,rfl⟩:=X;rcases hT _ w with h|⟨Y,G,k1,k2,k3,k4,_⟩
  .exact r.apart d ob j (z d ob g1) g2 h
  have:=(r.inj Y d G ob 0 j k2 (z d ob g1) k3 g2 k4).1
  grind[GP]) (λid w=>sH r.zrow w)
 have q2:Ev Rv ν Z st H ν Z { st with m:=qp ds st.m } (cZ H (dh (ct n H) ys)):=(Ev.heap (by rw[mj];grind) (λid _ X J _=>vv λw=>by
  rcases hT _ w with h|⟨Y,G,k1,k2,k3,k4,_⟩
  .simp_all
  exact X ⟨Y,G,0,k2,k3,k4⟩) (λid w=>sH r.zrow w)).trans (Ev.less  z)
 cases place with
 | none=>exact⟨n,cZ H (dh (ct n H) ys),λk O=>by grind[eu,lI,oS],q1,L,q2⟩
 | some bi=>
  obtain⟨b,i⟩:=bi;have o2:=hold b i rfl;have fits:∀k,b8 (run S.E k) f ys (H.take b)=some (result D)->jl (H.take b) (dh (ct k (H.take b)) ys)=true/\dh (ct k H) ys=dh (ct k (H.take b)) ys:=λk hi=>by
   have C:∀id,Z id->Z id/\bn (H.take b) id=bn H id:=λid h=>⟨h,n_ (o2 id h)⟩
   have hd:Deep (H.take b) Z:=⟨λid es ys J hr c hc u hu=>by
    rw[(C id J).2]at hr;obtain⟨x,hx⟩:=r.deep.row id es ys J hr c hc u hu;exact⟨x,hx.mono C⟩⟩
   have aa  := U.mono C λe _=>jt ν st.m e
   have ab:∀d ob,bh st.m d=some ob->ey ob=true->((H.take b)[(ν d).1]?).isSome=true->ob.flat->dg ν st.m (H.take b) Z d ob:=λd ob h W ad ae=>
    dg.mono C rfl (λj hj=>by
     have:=ae j hj;subst this;simp only[Nu.at]
     grind) (λe _=>jt ν st.m e) (r.obj d ob h)
   have Q:∀(j:Nat) (y:V),ys[j]? = some y->(borrow k (H.take b) y).isSome=true:=λj y T=>by
    unfold b8 at hi;rw[oS]at hi;split at hi
    .rename_i af ah;obtain⟨_,hm⟩:=jr ah;have hj:=(ζe.1 T).1;obtain⟨x,am,an⟩:=hm j _ (ζd (show j<af.length by omega))
     grind
    cases hi
   have hZ:∀id∈dh (ct k (H.take b)) ys,id<b/\(bn (H.take b) id).isSome=true:=λid w=>by
    rcases CV hd ab aa hr w with h|⟨d,ob,k1,k2,k3,k4,j,es,off,len,T⟩
    .have:=r.zrow id h
     grind
    have ao:=Q j _ T
    cases k with
    | zero=>grind[borrow,V.closed]
    | succ k=>
    grind[borrow,V.closed,bn]
   refine⟨?_,vr _ λid w=>(hZ id w).1⟩
   unfold jl;rw[List.all_eq_true];exact λid w=>(hZ id w).2
  refine⟨n,cZ H (dh (ct n H) ys),λk O=>?_,q1,L,q2⟩
  simp only[eu,lI,hk,oS,Bool.false_and,Bool.false_eq_true,if_false];split
  next y T=>have h9:=qI T;rw[I k O]at h9;grind
  grind
def Lt{xs ys:T2}(h:fR H Z xs ys)(B:kN xs=true):ys=xs:=by
 refine(List.ext_getElem h.1 λj a z=>?_).symm;have:=h.2 j _ _ (ζd a) (ζd z);have w:=by unfold kN at B;rw[all_eq_true]at B;have:=B _ (List.getElem_mem a);rw[all_eq_true]at this;exact sw.2 λk u b=>this u (mem_of_getElem? b)
 exact(this.scalar.1 w).symm
def DQ:∀{B:So}{os:Tb bB}{g:Tb bB},kD g B=some os->∀k ob,bh os k=some ob->bh g k=some ob
 |[],os,g,h,k,ob,hk=>by grind[kD,bh]|n::r,os,g,h,k,ob,hk=>by simp only[kD]at h;split at h;rename_i v t a D;cases h;simp only[bh]at hk;split at hk;grind;exact DQ D k ob hk;cases h
def Lr{args:ST}{os:dB}(h:handed m args=some os):∀k ob,bh os k=some ob->bh m k=some ob:=DQ h
mutual
def RB{d:Nat}:∀{x:SV},x.cM d=true->d∈x.Bn
 |.v _,h=>by simp[SV.cM]at h|.own e,h|.ptr e _,h|.el e _ _,h|.mp e,h=>by simp[SV.cM]at h;simp[SV.Bn,h]|.clo _ a b,h=>by simp only[SV.cM,or_eq_true]at h;simp only[SV.Bn,List.mem_append];rcases h with h|h;exact .inl (vM h);exact .inr (vM h)
 |.tup l,h|.agg l,h=>by simp only[SV.cM]at h;simp only[SV.Bn];exact vM h|.yl _,h=>by simp[SV.cM]at h
def vM{d:Nat}:∀{l:ST},SV.dF d l=true->d∈SV.tf l
 |[],h=>by simp[SV.dF]at h|x::r,h=>by simp only[SV.dF,or_eq_true]at h;simp only[SV.tf,List.mem_append];rcases h with h|h;exact .inl (RB h);exact .inr (vM h)
end
def Li{D:So}{ob:bB}(h:within D ob=true){e:Nat}(B:ob.cM e=true):e∈D:=by cases ob with|box cs=>unfold within at h;rw[all_eq_true]at h;simpa using h e (vM B)|sl k es u=>grind[bB.cM]|mp z=>grind[bB.cM]|dp k u w=>rcases w with _|⟨i,t⟩;cases B;simp only[bB.cM,beq_iff_eq]at B;subst B;simpa[within,bB.Bn]using h
def Fq{B:So}:∀{l:So}{a b:Tb bB},yH B m' l a=some b->(∀k∈l,bh b k=bh m' k/\∃ob,bh m' k=some ob/\within B ob=true)/\∀k,k∉l->bh b k=bh a k
 |[],a,b,h=>by grind[yH]|d::r,a,b,h=>by simp[yH]at h;split at h;rename_i ob D;split at h;rename_i hp;have⟨e,G⟩:=Fq h;refine⟨λk c=>?_,λk c=>?_⟩;grind[cn];simp_all[cO,Ne.symm];grind;grind
def HV{l:So}{a b:Tb bB}(h:jQ m' l a=some b):(∀k∈l,bh b k=bh m' k/\∃ob,bh m' k=some ob/\within l ob=true)/\∀k,k∉l->bh b k=bh a k:=Fq h
theorem mem_keys:∀{os:dB}{k:Nat},k∈os.map (·.1)↔∃ob,bh os k=some ob
 |[],k=>by simp[bh]|(d,o)::os,k=>by simp[bh];by_cases e:d=k;simp_all;rw[if_neg e,<-mem_keys];grind
def uU:∀{l:ST}{j:Nat}{u:SV},SV.yF l=true->l[j]?=some u->u.bare=true
 |[],j,u,h,B=>by simp at B|x::r,j,u,h,B=>by simp only[SV.yF,ζh]at h;cases j with|zero=>grind|succ j=>exact uU h.2 (by simpa using B)
theorem c6.bare {Z2:Nat->Prop} {sv:SV} {y:V} (r:c6 ν m H Z sv y):sv.bare=true->c6 ν m H Z2 sv y:=by
 induction r with
 | v x y h=>
  intro z;have z:x.scalar=true:=z;rw[(h.scalar.1 z)];exact .v _ _ (.same _ (kj z))
 | own d y h=>intro _;exact .own d y h
 | ptr d o y h=>intro _;exact .ptr d o y h
 | el d i o y h=>intro _;exact .el d i o y h
 | mp d y h=>intro _;exact .mp d y h
 | clo f a b B G C z hva I w D=>
  intro h;simp only[SV.bare,ζh]at h;exact .clo f a b B G C z (λj u v hu hv=>w j u v hu hv (uU h.1 hu)) λj u v hu hv=>D j u v hu hv (uU h.2 hu)
 | tup a B C hva w=>intro h;exact .tup a B C λj u v hu hv=>w j u v hu hv (uU h hu)
 | agg a B C hva w=>intro h;exact .agg a B C λj u v hu hv=>w j u v hu hv (uU h hu)
 | yl id=>intro _;exact .yl id
def dg.bare{Z2:Nat->Prop}{d:Nat}{ob:bB}(B:∀e,ν' e=ν e)(h:ob.bare=true)(o:dg ν m H Z d ob):dg ν' m H Z2 d ob:=by cases ob with|box cs=>have⟨es,w,b,C,D⟩:=o;exact⟨es,w,by rw[B];exact b,⟨C.1,λj u v a c=>((C.2 j u v a c).bare (Z2:=Z2) (uU h a)).mono (λid h=>⟨h,rfl⟩) λe _ z h=>⟨z,h,B e,.refl _⟩⟩,D⟩|sl k es I=>cases h|mp G=>cases h|dp _ _ _=>cases h
def yw(hS:jg S c){f:Y'}(ar:S.E.keep f=true)(r:R ν Z st F H){args:ST}{ys:S'}(ha:b7 ν st.m H Z args ys){os:dB}(hh:handed st.m args=some os)
 {rs:ST}{m':dB}{T:Tb bB}(hc:c f args os=some (rs,m'))(p:jQ m' (os.map (·.1)) st.m=some T):
 ∃n H' U Z' J F1 E ν2,(∀k,n<=k->run S.E k (.fn f) ys H=some (result E,H'))/\J.m=m'/\b7 U m' H' Z' rs E/\R U Z' J F1 H'/\(∀e ob,bh m' e=some ob->e∉os.map (·.1)->ey ob=true->¬eZ ν2 T (U e).1/\(eZ ν st.m (U e).1\/H.length<=(U e).1))/\(∀e,ν2 e=ν e)/\
  R ν2 Z' {st with m:=T} F H'/\Ev Rv ν Z st H ν2 Z' {st with m:=T} H'/\(∀e ob',bh T e=some ob'->∃ob,bh st.m e=some ob/\ν e=ν e/\sameShape ob ob')/\
  ((∀k∈os.map (·.1),xB T k=true)->R ν Z {st with m:=T} F H'/\Ev Rv ν Z st H ν Z {st with m:=T} H'/\∀dst,Kept dst ν st.m ν T):=by
 have z:=Lr hh;have al:=ha.mono (λid h=>⟨h,rfl⟩) λe _ ob' h=>⟨ob',z e ob' h,rfl,.refl _⟩
 have r0:R ν Z (start args os) ys H:=by refine⟨yW al,λd ob hd=>?_,λd d' ob ob' j j' a B=>r.inj d d' ob ob' j j' (z d ob a) (z d' ob' B),λd ob j h=>r.apart d ob j (z d ob h),r.zrow,r.deep⟩;exact dg.mono (λid h=>⟨h,rfl⟩) rfl (λ_ _=>rfl) (λe _ ob' h=>⟨ob',z e ob' h,rfl,.refl _⟩) (r.obj d ob (z d ob hd))
 obtain⟨n,y,H',U,Z',J,F1,E,e1,rfl,rfl,e2,e3,ev⟩:=hS f args os rs m' hc ν Z ys H (.inl ar) r0 al;have⟨b1,b2⟩:=HV p;have am:∀k ob',k∈os.map (·.1)->bh J.m k=some ob'->∃ob,bh os k=some ob/\U k=ν k/\sameShape ob ob':=λk ob' l h=>ev.pin k l ob' h
 have I:∀id,eZ ν os id->eZ ν st.m id:=λid⟨k,o,j,a,B,C⟩=>⟨k,o,j,z k o a,B,C⟩
 have L:∀k ob',bh T k=some ob'->∃ob,bh st.m k=some ob/\sameShape ob ob'/\(k∈os.map (·.1)/\bh J.m k=some ob'/\U k=ν k/\within (os.map (·.1)) ob'=true\/k∉os.map (·.1)/\ob'=ob):=λk ob' h=>by by_cases l:k∈os.map (·.1);grind;rw[b2 k l]at h;exact⟨ob',h,.refl _,.inr ⟨l,rfl⟩⟩
 have u:∀k ob j,k∉os.map (·.1)->bh st.m k=some ob->ob.pt j=true->H'[ν.at k j]?=H[ν.at k j]?/\¬Z' (ν.at k j)/\¬eZ U J.m (ν.at k j):=λk ob j l h D=>by
  have N:¬eZ ν os (ν.at k j):=by rintro⟨k2,o2,Q,g1,g2,g3⟩;have:=(r.inj k2 k o2 ob Q j (z k2 o2 g1) h g2 D g3).1;grind[mem_keys]
  have au:=r.lt ⟨k,ob,j,h,D,rfl⟩;have av:=r.apart k ob j h D;refine⟨ev.same _ au N av (λh=>h),λaw=>?_,λP=>?_⟩
  .rcases ev.frz _ aw with h|h|h|h;simp_all;exact N h;all_goals grind
  rcases ev.own _ P with h|h|h;exact N h;exact h;have h:H.length<=ν.at k j:=h;omega
 have q:∀e ob',bh T e=some ob'->∃ob,bh st.m e=some ob/\ν e=ν e/\sameShape ob ob':=λe ob' h=>by grind
 let ν2:Nu:=⟨ν.pl,λk=>if k∈os.map (·.1)then U.inn k else ν.inn k⟩
 have an:∀k,k∈os.map (·.1)->ν2.inn k=U.inn k:=λk h=>if_pos h
 have ad:∀k,k∉os.map (·.1)->ν2.inn k=ν.inn k:=λk h=>if_neg h
 have W:∀k,k∈os.map (·.1)->U k=ν k->∀j,ν2.at k j=U.at k j:=λk l h j=>by cases j with|zero=>exact congrArg fst h.symm|succ i=>exact congrFun (an k l) i
 have O:∀k,k∉os.map (·.1)->∀j,ν2.at k j=ν.at k j:=λk l j=>by cases j with|zero=>rfl|succ i=>exact congrFun (ad k l) i
 have ae:∀b g o1 o2 G Q,bh T b=some o1->bh T g=some o2->o1.pt G=true->o2.pt Q=true->ν2.at b G=ν2.at g Q->b=g/\G=Q:=λb g o1 o2 G Q a B k1 k2 hp=>by have⟨p1,g1,s1,c1⟩:=L b o1 a;have⟨p2,g2,s2,c2⟩:=L g o2 B;rcases c1 with⟨w,X,Y,-⟩|⟨w,rfl⟩<;>rcases c2 with⟨t,v,u3,-⟩|⟨t,rfl⟩;rw[W b w Y,W g t u3]at hp;exact e3.inj b g o1 o2 G Q X v k1 k2 hp;rw[W b w Y,O g t]at hp;exact absurd ⟨b,o1,G,X,k1,hp⟩ (u g o2 Q t g2 k2).2.2;rw[O b w,W g t u3]at hp;exact absurd ⟨g,o2,Q,v,k2,hp.symm⟩ (u b o1 G w g1 k1).2.2;rw[O b w,O g t]at hp;exact r.inj b g o1 o2 G Q g1 g2 k1 k2 hp
 have ao:∀b o1 G,bh T b=some o1->o1.pt G=true->¬Z' (ν2.at b G):=λb o1 G a k1=>by obtain⟨p1,g1,s1,⟨w,X,Y,-⟩|⟨w,rfl⟩⟩:=L b o1 a;rw[W b w Y];exact e3.apart b o1 G X k1;rw[O b w];exact(u b o1 G w g1 k1).2.1
 have aa:∀id,id<H.length->¬eZ ν st.m id->¬Z id->¬Rv id->H'[id]?=H[id]?:=λid hl P hz _=>ev.same id hl (λh=>P (I id h)) hz (λh=>h)
 have af:∀id,eZ ν2 T id->eZ ν st.m id\/Rv id\/H.length<=id:=by rintro id ⟨k,o,j,a,B,C⟩;obtain⟨ob,g1,s1,⟨w,X,Y,-⟩|⟨w,rfl⟩⟩:=L k o a;rw[W k w Y]at C;rcases ev.own id ⟨k,o,j,X,B,C⟩with h|h|h;exact .inl (I id h);exact h.elim;exact .inr (.inr h);rw[O k w]at C;exact .inl ⟨k,o,j,g1,B,C⟩
 have aj:∀id,Z id->Z id/\bn H' id=bn H id:=λid h=>⟨h,(ev.rows id h).2⟩
 have ah:∀k ob',k∈os.map (·.1)->bh J.m k=some ob'->U k=ν k->within (os.map (·.1)) ob'=true->dg ν2 T H' Z' k ob':=λk ob' w X Y x=>by refine dg.mono (λid h=>⟨h,rfl⟩) Y.symm (λ_ _=>rfl) (λe K ak B=>?_) (e3.obj k ob' X) (an k w);have hm:=Li x K;have⟨t,aA,v,_⟩:=b1 e hm;rw[t,v]at B;cases B;have⟨_,_,u4,_⟩:=am e ak hm v;exact⟨ak,v,u4.symm,.refl _⟩
 refine⟨n,H',U,Z',J,F1,E,ν2,λk l=>(pT S.E l).go _ _ _ _ e1,rfl,e2,e3,λe ob K ax D=>?_,λ_=>rfl,⟨λs sv hs=>(r.slot s sv hs).mono ev.rows λe _=>q e,λk ob' h=>?_,ae,ao,e3.zrow,e3.deep⟩,⟨ev.len,aa,ev.rows,af,?_,λe _=>q e,rfl⟩,q,λap=>?_⟩
 .have aq:eZ U J.m (U e).1:=⟨e,ob,0,K,D,rfl⟩;refine⟨?_,(ev.own _ aq).imp (I _) λh=>h.elim (λh=>h.elim) λh=>h⟩
  rintro⟨k2,o2,Q,a,B,C⟩;obtain⟨p1,g1,s1,⟨w,X,Y,-⟩|⟨w,rfl⟩⟩:=L k2 o2 a
  .rw[W k2 w Y]at C;have:=(e3.inj k2 e o2 ob Q 0 X K B D C).1;subst this;exact ax w
  rw[O k2 w]at C;exact(u k2 o2 Q w g1 B).2.2 (C▸aq)
 .obtain⟨ob,a,B,⟨w,X,Y,x⟩|⟨C,rfl⟩⟩:=L k ob' h
  .exact ah k ob' w X Y x
  exact dg.mono (ν:=ν) (ν':=ν2) ev.rows rfl (λj D=>(u k ob' j C a D).1) (λe _=>q e) (r.obj k ob' a) (ad k C)
 .intro id h;rcases ev.frz id h with h|h|h|h
  .exact .inl h
  .exact .inr (.inl (I id h))
  all_goals grind
 have A:∀k ob' j,bh T k=some ob'->ob'.pt j=true->ν.at k j=ν2.at k j/\∃ob,bh st.m k=some ob/\sameShape ob ob'/\ob.pt j=true:=λk ob' j h M=>by
  obtain⟨ob,a,B,⟨w,X,Y,x⟩|⟨C,rfl⟩⟩:=L k ob' h
  .have p:=ap k w;unfold xB at p;rw[h]at p;have ay:∃cs,ob'=.box cs:=(by cases ob'<;>first|exact⟨_,rfl⟩|cases p);obtain⟨cs,rfl⟩:=ay;have:=jV (ob:=.box cs) Zab j M;subst this;refine⟨rfl,ob,a,B,?_⟩;cases ob<;>first|rfl|cases B
  exact⟨(O k C j).symm,ob',a,.refl _,M⟩
 refine⟨⟨λs sv hs=>(r.slot s sv hs).mono aj λe _=>q e,λk ob' h=>?_,λb g o1 o2 G Q a B k1 k2 hp=>ae b g o1 o2 G Q a B k1 k2 (by rw[<-(A b o1 G a k1).1,<-(A g o2 Q B k2).1];exact hp),λb o1 G a k1 hz=>ao b o1 G a k1 (by rw[<-(A b o1 G a k1).1];exact(ev.rows _ hz).1),λid h=>by rw[(ev.rows id h).2];exact r.zrow id h,r.deep.mono λid h=>(ev.rows id h).2⟩,
  ⟨ev.len,aa,aj,λid⟨k,o,j,a,B,C⟩=>af id ⟨k,o,j,a,B,by rw[<-(A k o j a B).1];exact C⟩,λid h=>.inl h,λe _=>q e,rfl⟩,λdst e ob' _ h=>?_⟩
 .obtain⟨ob,a,B,⟨w,X,Y,x⟩|⟨C,rfl⟩⟩:=L k ob' h
  .have p:=ap k w;unfold xB at p;rw[h]at p;exact dg.bare (ν:=ν2) (Z:=Z') (λ_=>rfl) p (ah k ob' w X Y x)
  exact dg.mono aj rfl (λj D=>(u k ob' j C a D).1) (λe _=>q e) (r.obj k ob' a)
 have⟨ob,a,B,C⟩:=q e ob' h;refine⟨ob,a,rfl,C,λj M=>?_⟩
 have⟨_,ak,g1,_,g3⟩:=A e ob' j h M;rw[a]at g1;cases g1;exact⟨g3,rfl⟩
def UG(a:jg S c){f:Y'}(G:S.E.keep f=true)(r:R ν Z st F H){args:ST}{ys:S'}(J:b7 ν st.m H Z args ys){os:dB}(T:handed st.m args=some os)
 {rs:ST}{m':dB}{B:S'}{D:Tb bB}(b:c f args os=some (rs,m'))(U:dy rs=some B)(W:jQ m' (os.map (·.1)) st.m=some D):
 ∃n y H' ν' Z',(∀k,n<=k->run S.E k (.fn f) ys H=some (y,H'))/\R ν' Z' {st with m:=D} F H'/\c6 ν' D H' Z' (.v (result B)) y/\Ev Rv ν Z st H ν' Z' {st with m:=D} H':=by
 have⟨n,H',O,Z',C,F1,w,ν2,e1,_,e2,_,_,_,g1,g2,_,_⟩:=yw (Rv:=Rv) a G r J T b W;refine⟨n,result w,H',ν2,Z',e1,g1,?_,g2⟩;have u:=e2.dy U;have:FR H' Z' (result B) (result w):=by cases B with|nil=>rw[u.c9];exact .same _ rfl|cons x z=>obtain⟨y,I,rfl,g1,g2⟩:=u.inv;cases z with|nil=>rw[g2.c9];exact g1|cons x2 z=>obtain⟨Q,L,rfl,g3,g4⟩:=g2.inv;exact .tup _ _ u.1 u.2
 exact .v _ _ this
def zk{ys:S'}(h:V.c7 ys=true):(result ys).scalar=true:=by cases ys with|nil=>rfl|cons a l=>cases l with|nil=>simp only[V.c7,ζh]at h;exact h.1|cons b l=>grind[result,V.scalar]
def Vv(a:jg S c){f:Y'}(G:S.E.keep f=true)(r:R ν Z st F H){args:ST}{ys:S'}(U:b7 ν st.m H Z args ys){os:dB}(W:handed st.m args=some os)
 {rs:ST}{m':dB}{D:S'}{B:Tb bB}(b:c f args os=some (rs,m'))(Y:dy rs=some D)(d:jQ m' (os.map (·.1)) st.m=some B)(T:V.c7 D=true)(J:∀k∈os.map (·.1),xB B k=true):
 ∃n H',(∀k,n<=k->run S.E k (.fn f) ys H=some (result D,H'))/\R ν Z {st with m:=B} F H'/\c6 ν B H' Z (.v (result D)) (result D)/\Ev Rv ν Z st H ν Z {st with m:=B} H'/\∀dst,Kept dst ν st.m ν B:=by
 obtain⟨n,H',z,Z',u,F1,C,ν2,e1,_,e2,_,_,_,_,_,_,g4⟩:=yw (Rv:=Rv) a G r U W b d;obtain⟨g1,g2,g3⟩:=g4 J;have w:=(e2.dy Y).scalar.1 T;subst w;exact⟨n,H',e1,g1,.v _ _ (.same _ (kj (zk T))),g2,g3⟩
def VO(i:jg S c){f:Y'}(U:S.E.keep f=true)(r:R ν Z st F H){args:ST}{ys:S'}(Y:b7 ν st.m H Z args ys){os:dB}(j:handed st.m args=some os)
 {rest:ST}{m':dB}{T:S'}{D:Tb bB}{e t es:Nat}{k:Fl}{xs:T2}(l:c f args os=some (.own e::rest,m'))(q:dy rest=some T)(s:jQ m' (os.map (·.1)) st.m=some D)
 (G:bh m' e=some (.sl k es xs))(J:e∉os.map (·.1))(B:St.new {st with m:=D} t=true):
 ∃n y H' ν' Z',(∀k,n<=k->run S.E k (.fn f) ys H=some (y,H'))/\R ν' Z' {st with m:=bF D t (.sl k es xs)} F H'/\c6 ν' (bF D t (.sl k es xs)) H' Z' (yE (.own t::T.map .v)) y/\Ev Rv ν Z st H ν' Z' {st with m:=bF D t (.sl k es xs)} H':=by
 obtain⟨n,H',L,Z',X,F1,P,ν2,e1,rfl,e2,e3,a,O,g1,g2,g3,_⟩:=yw (Rv:=Rv) i U r Y j l s;obtain⟨w,Q,rfl,v,A⟩:=e2.inv;have o:=e3.obj e _ G;have E:=g1.add B (ob:=.sl k es xs) (p:=L e) (λz=>⟨(a e _ G J z).1,e3.apart e _ 0 G z⟩) (by
  grind[dg,iH])
 have b:c6 (hD ν2 t (L e)) (bF D t (.sl k es xs)) H' Z' (.own t) w:=by refine .own _ _ λu W=>?_;rw[cn]at W;cases W;obtain⟨_,_,_,K,rfl⟩:=v.gE G;cases K;exact⟨_,_,_,rfl,by rw[iH]⟩
 have⟨M,n2,n3,n4⟩:=kK B;refine⟨n,result (w::Q),H',hD ν2 t (L e),Z',e1,E,?_,⟨g2.len,g2.same,g2.rows,?_,g2.frz,?_,g2.pins⟩⟩
 .have I:=A.dy q
  cases T with
  |nil=>rw[I.c9];exact b|cons x T=>obtain⟨y,aa,rfl,_,_⟩:=I.inv;exact .tup _ _ (by have:=I.1;grind) (b7.cons b (b7.rG I)).2
 .intro id h;rcases B_ h with h|⟨g,rfl⟩
  .exact g2.own id h
  exact(a e _ G J g).2.imp (λh=>h) .inr
 intro d hd u h;have C:d≠t:=λe=>M (e▸hd)
 have h:bh (bF D t (.sl k es xs)) d=some u:=h;rw[cO _ _ (Ne.symm C)]at h;have⟨ob,g,_,N⟩:=g3 d u h;exact⟨ob,g,by rw[Cq _ _ C,O],N⟩
def S0(i:jg S c){f:Y'}(T:S.E.keep f=true)(r:R ν Z st F H){args:ST}{ys:S'}(j:b7 ν st.m H Z args ys){os:dB}(l:handed st.m args=some os)
 {p:V}{rest:ST}{m':dB}{U:S'}{B:Tb bB}{e t es:Nat}{k:Fl}{xs:T2}(q:c f args os=some (.v p::.own e::rest,m'))(s:dy rest=some U)(x:jQ m' (os.map (·.1)) st.m=some B)
 (G:bh m' e=some (.sl k es xs))(J:e∉os.map (·.1))(D:St.new {st with m:=B} t=true):
 ∃n y H' ν' Z',(∀k,n<=k->run S.E k (.fn f) ys H=some (y,H'))/\R ν' Z' {st with m:=bF B t (.sl k es xs)} F H'/\c6 ν' (bF B t (.sl k es xs)) H' Z' (.tup (.v p::.own t::U.map .v)) y/\Ev Rv ν Z st H ν' Z' {st with m:=bF B t (.sl k es xs)} H':=by
 obtain⟨n,H',I,Z',aa,F1,ws,ν2,e1,rfl,e2,e3,a,L,g1,g2,g3,_⟩:=yw (Rv:=Rv) i T r j l q x;obtain⟨W,ab,rfl,A,O⟩:=e2.inv;obtain⟨w,Q,rfl,E,K⟩:=O.inv;have o:=e3.obj e _ G;have M:=g1.add D (ob:=.sl k es xs) (p:=I e) (λz=>⟨(a e _ G J z).1,e3.apart e _ 0 G z⟩) (by
  grind[dg,iH])
 have b:c6 (hD ν2 t (I e)) (bF B t (.sl k es xs)) H' Z' (.own t) w:=by refine .own _ _ λu X=>?_;rw[cn]at X;cases X;obtain⟨_,_,_,N,rfl⟩:=E.gE G;cases N;exact⟨_,_,_,rfl,by rw[iH]⟩
 have⟨P,n2,n3,n4⟩:=kK D;refine⟨n,result (W::w::Q),H',hD ν2 t (I e),Z',e1,M,?_,⟨g2.len,g2.same,g2.rows,?_,g2.frz,?_,g2.pins⟩⟩
 .have Y:=K.dy s;have h0:c6 (hD ν2 t (I e)) (bF B t (.sl k es xs)) H' Z' (.v p) W:=by
   cases A with
   |v _ _ h=>exact .v _ _ h
  exact .tup _ _ (by have:=Y.1;grind) (b7.cons h0 (b7.cons b (b7.rG Y))).2
 .intro id h;rcases B_ h with h|⟨g,rfl⟩
  .exact g2.own id h
  exact(a e _ G J g).2.imp (λh=>h) .inr
 intro d hd u h;have C:d≠t:=λe=>P (e▸hd)
 have h:bh (bF B t (.sl k es xs)) d=some u:=h;rw[cO _ _ (Ne.symm C)]at h;have⟨ob,g,_,h3⟩:=g3 d u h;exact⟨ob,g,by rw[Cq _ _ C,L],h3⟩
def RP(a:jg S c){f:Y'}{az:S'}{rs:ST}{m':dB}(b:V.cQ az=true)(h:c f (az.map .v) []=some (rs,m')):
 ∃n H2 ν' Z' st' F' ys,(∀k,n<=k->run S.E k (.fn f) az []=some (result ys,H2))/\st'.m=m'/\b7 ν' m' H2 Z' rs ys/\R ν' Z' st' F' H2:=by
 have⟨u,r1⟩:=BT b;obtain⟨n,y,H2,ν',Z',st',F',w,d,rfl,z,B,C,_⟩:=a f _ _ _ _ h _ _ az [] (.inr rfl) u r1;exact⟨n,H2,ν',Z',st',F',w,λk e=>(pT S.E e).go _ _ _ _ d,z,B,C⟩
def MN{ys:S'}(h:V.c7 ys=true):V.c7 (.bG::ys)=true/\V.c7 (.dH::ys)=true:=by grind[V.c7,V.scalar]
def b7.W7{ys:S'}(h:V.cQ ys=true):b7 ν m H Z (ys.map .v) ys:=b7.rG (dz.same h)
def Tg(s:jg S c)(hP:∀f q,S.prm f=some q->nZ S.E f q){ops:Rd}{place:aY (Nat×Nat)}{dr nw:X'}{fr:So}(U:dr=place.isSome)(T:∀b i,place=some (b,i)->nw=true->dR ops i=true)(ak:∀b i,place=some (b,i)->nw=false->dR ops i=false)
 (g:∀b i,place=some (b,i)->(∀d ob j,bh st.m d=some ob->ob.pt j=true->d∉fr->ν.at d j<b)/\∀id,Z id->id<b)
 (r:R ν Z st F H){args:ST}{ys:S'}(W:b7 ν st.m H Z args ys){f:Y'}{dst:aY Nat}{sv:SV}(h:eo S c dst dr (!dr||nw) (ez st.m fr) f args st=some (sv,st')):
 ∃n y H' ν' Z',(∀k,n<=k->eu S.E (run S.E k) ops place f ys H=some (y,H'))/\R ν' Z' st' F H'/\c6 ν' st'.m H' Z' sv y/\Ev Rv ν Z st H ν' Z' st' H'/\(dr=true->Z'=Z/\Kept dst ν st.m ν' st'.m):=by
 unfold eo at h;split at h
 .rename_i A;split at h
  .have C:∀{q:dP}{y:V}{H':bk},gG S.E q f ys H=some (y,H')->eu S.E q ops place f ys H=some (y,H'):=λ{q y H'}hd=>by
    unfold eu
    cases place with
    |none=>rw[if_pos (by grind[lI])];omega|some bi=>
     obtain⟨b,i⟩:=bi;have aH:=U;have aI:=T b i rfl Zac
     rw[if_pos (by grind[lI])]
     grind
   split at h
   .
    rename_i ab;split at h
    .rename_i az hs;have hg:=BA r.obj hs W;obtain⟨nb,x⟩:=za r W hs;split at h
     .rename_i rs m' hc;obtain⟨na,H2,ν2,Z2,st2,F2,X,ax,rfl,e3,e4⟩:=RP s hg hc;obtain⟨n,ay,aJ⟩:∃n,na<=n/\nb<=n:=⟨max na nb,le_max_left ..,le_max_right ..⟩;have e1:=λk(A:n<=k)=>ax k (le_trans ay A)
      have L:∀k,n<=k->∀{o:aY (V×bk)},(if(result X).scalar then some (result X,H)else
       match result X with
       |.hsl id es off len=>(uh H.length H2 id es off len).map λ(v,ob)=>(v,H++[ob])|.tup (.hsl id es off len::rest)=>if V.c7 rest then(uh H.length H2 id es off len).map λ(v,ob)=>(.tup (v::rest),H++[ob])else none|_=>none)=o->gG S.E (run S.E k) f ys H=o:=λk D o M=>by
       unfold gG mK;rw[if_pos ab]
       grind[oS]
      have al:∀G:S',(result G).scalar=true->result X=result G->sv=.v (result G)->st'=st->∃n y H' ν' Z',(∀k,n<=k->eu S.E (run S.E k) ops place f ys H=some (y,H'))/\R ν' Z' st' F H'/\c6 ν' st'.m H' Z' sv y/\Ev Rv ν Z st H ν' Z' st' H'/\(dr=true->Z'=Z/\Kept dst ν st.m ν' st'.m):=by rintro G h1 h2 rfl rfl;exact⟨n,result G,H,ν,Z,λk D=>C (L k D (by rw[h2,if_pos h1])),r,.v _ _ (.same _ (kj h1)),.refl,λ_=>⟨rfl,.refl⟩⟩
      have emp:∀(k:Fl)(es:Nat)(G:S')(rest:ST),V.c7 G=true->∀t,st.new t=true->∀w:V,(k=.nil/\w=.bG\/k=.emp/\w=.dH)->result (w::G)=result X->dst=some t->sv=yE (.own t::G.map .v)->st'={st with m:=bF st.m t (.sl k es [])}->
       ∃n y H' ν' Z',(∀k,n<=k->eu S.E (run S.E k) ops place f ys H=some (y,H'))/\R ν' Z' st' F H'/\c6 ν' st'.m H' Z' sv y/\Ev Rv ν Z st H ν' Z' st' H'/\(dr=true->Z'=Z/\Kept dst ν st.m ν' st'.m):=by
       rintro k es G rest Y t O w hw am rfl rfl rfl;have aK:bY k=false:=by rcases hw with⟨rfl,_⟩|⟨rfl,_⟩<;>rfl
       have l:c6 (hD ν t (0,0)) (bF st.m t (.sl k es [])) H Z (.own t) w:=by refine .own _ _ λad E=>?_;rw[cn]at E;cases E;exact⟨_,_,_,rfl,by rcases hw with⟨rfl,rfl⟩|⟨rfl,rfl⟩<;>rfl⟩
       have an:(result (w::G)).scalar=true:=zk (by rcases hw with⟨_,rfl⟩|⟨_,rfl⟩;all_goals simp_all[MN])
       refine⟨n,result (w::G),H,hD ν t (0,0),Z,λk D=>C (L k D (by rw[<-am,if_pos an])),r.add O (λx=>by grind[ey]) (by grind[dg]),?_,
        Ev.add O (le_refl _) (λ_ _ _=>rfl) (λ_ _=>rfl) (λx=>by grind[ey]),λ_=>⟨rfl,Kept.add λ_ _ h=>h⟩⟩
       cases G with
       |nil=>exact l|cons z G=>exact .tup _ _ Zab (b7.cons l (b7.W7 (qL Y))).2
      split at h
      .rename_i G J;split at h
       next Y=>simp at h;exact al G Y ((HS (e3.dy J)).1 Y) h.1.symm h.2.symm
       simp at h
      split at h
      .rename_i e rest t _;obtain⟨w,X,rfl,g1,g2⟩:=e3.inv;split at h
       .
        rename_i es xs G Q J;split at h
        .rename_i B;simp at B;obtain⟨⟨c1,N⟩,O⟩:=B;simp at h;obtain⟨rfl,rfl⟩:=h;have o:=e4.obj e _ Q;simp only[dg,if_true]at o;obtain⟨rows,hr,aL,hf,aF,ao⟩:=o;obtain⟨q1,q2⟩:=ao trivial;have ae:=by
          have:=Lt hf N;rw[q1,drop_zero,<-q2,take_length]at this;exact this
         subst ae;obtain⟨_,_,_,K,rfl⟩:=g1.gE Q;cases K;have I:=(g2.dy J).scalar.1 c1;subst I;have aM:uh H.length H2 (ν2 e).1 es 0 rows.length=some (.hsl H.length es 0 rows.length,.row es rows):=by grind[uh,kN]
         have hH:∀id,id<H.length->(H++[Ob.row es rows])[id]?=H[id]?:=λid hl=>getElem?_append_left hl
         have ap:∀id,Z id->bn (H++[Ob.row es rows]) id=bn H id:=λid J=>by unfold bn;rw[hH id (r.vQ J)]
         have r2:=r.heap (λid M=>hH id (r.lt M)) ap
         have aA:V.nR rows=true:=by refine lG.2 λj u hu=>?_;unfold kN at N;rw[all_eq_true]at N;have:=N u (mem_of_getElem? hu);rw[all_eq_true]at this;grind[ir,kj]
         have hR:=r2.add (ob:=.sl .row es rows) (p:=(H.length,0)) O (λ_=>⟨λM=>absurd (r.lt M) Zab,λJ=>absurd (r.vQ J) Zab⟩) (by
          simp only[dg,iH];refine⟨rows,Zab,Zab,?_,(fR.same aA).Aj,λ_=>⟨trivial,rfl⟩⟩
          rw[drop_zero,take_length]
          grind[fR.same])
         have l:c6 (hD ν t (H.length,0)) (bF st.m t (.sl .row es rows)) (H++[Ob.row es rows]) Z (.own t) (.hsl H.length es 0 rows.length):=by refine .own _ _ λad E=>?_;rw[cn]at E;cases E;exact⟨_,_,_,rfl,by simp[oH,iH]⟩
         have aq:Ev Rv ν Z st H (hD ν t (H.length,0)) Z {st with m:=bF st.m t (.sl .row es rows)} (H++[Ob.row es rows]):=Ev.add O Zab (λid hl _=>hH id hl) ap (λ_=>.inr (le_refl _))
         have ar:oH (ν2 e) Fl.row es rows.length=.hsl (ν2 e).1 es 0 rows.length:=by grind[oH]
         rw[ar]at L
         cases rest with
         |nil=>
          have:=by simp only[dy,ζa]at J;exact J.symm
          subst this;refine⟨n,_,_,_,Z,λk D=>C (L k D ?_),hR,l,aq,λ_=>⟨rfl,Kept.add λ_ _ h=>h⟩⟩
          grind[result,V.scalar]
         |cons x2 rest=>
          have aB:∃w2 af,X=w2::af:=by have:=g2.1;cases X with|nil=>simp at this|cons a b=>exact⟨a,b,rfl⟩
          obtain⟨w2,af,rfl⟩:=aB;refine⟨n,_,_,_,Z,λk D=>C (L k D (o:=some (.tup (.hsl H.length es 0 rows.length::w2::af),H++[Ob.row es rows])) ?_),hR,?_,aq,λ_=>⟨rfl,Kept.add λ_ _ h=>h⟩⟩
          .grind[result,V.scalar,V.c7]
          exact .tup _ _ Zab (b7.cons l (b7.W7 (qL c1))).2
        simp at h
       .rename_i es xs G Q J;split at h
        next B=>simp at B;simp at h;obtain⟨rfl,rfl⟩:=h;obtain⟨_,_,_,K,rfl⟩:=g1.gE Q;cases K;have I:=(g2.dy J).scalar.1 B.1;subst I;exact emp .nil es X rest B.1 _ B.2 .bG Zab rfl rfl rfl rfl
        simp at h
       .rename_i es xs G Q J;split at h
        next B=>simp at B;simp at h;obtain⟨rfl,rfl⟩:=h;obtain⟨_,_,_,K,rfl⟩:=g1.gE Q;cases K;have I:=(g2.dy J).scalar.1 B.1;subst I;exact emp .emp es X rest B.1 _ B.2 .dH Zab rfl rfl rfl rfl
        simp at h
       simp at h
      simp at h
     grind
    grind
   rename_i ab;split at h
   .rename_i q hq;split at h
    .simp at h
    rename_i hd;obtain⟨n,y,H',ν',e1,e2,e3,e4,e5⟩:=Vy (hP f q hq) r W h;exact⟨n,y,H',ν',Z,λk D=>C (by grind[gG]),e2,e3,e4,λh=>absurd h hd⟩
   split at h
   .rename_i os hh;split at h
    .rename_i rs m' hc;split at h
     .rename_i G m2 J x;split at h
      .simp at h
      rename_i au;simp at h;obtain⟨rfl,rfl⟩:=h
      cases av:dr with
      |false=>obtain⟨n,y,H',ν',Z',e1,e2,e3,e4⟩:=UG s A r W hh hc J x;exact⟨n,y,H',ν',Z',λk D=>C (by grind[gG]),e2,e3,e4,(λh=>nomatch h)⟩|true=>
       rw[av]at au;have jE:V.c7 G=true/\∀k∈os.map (·.1),xB m2 k=true:=by simp only[Bool.true_and,not_eq_true',Bool.not_eq_false,ζh,all_eq_true]at au;grind
       obtain⟨n,H',e1,e2,e3,e4,e5⟩:=Vv (Rv:=Rv) s A r W hh hc J x jE.1 jE.2;exact⟨n,_,H',ν,Z,λk D=>C (by grind[gG]),e2,e3,e4,λ_=>⟨rfl,e5 _⟩⟩
     .rename_i m2 J x;split at h
      .simp at h
      rename_i hd;split at h
      .rename_i e rest t;split at h
       .rename_i k es xs G he ah;split at h
        next B=>simp only[ζh,not_eq_true',List.contains_eq_mem,decide_eq_false_iff_not]at B;simp only[ζa,ζc]at h;obtain⟨rfl,rfl⟩:=h;obtain⟨n,y,H',ν',Z',e1,e2,e3,e4⟩:=VO s A r W hh hc ah x he B.1 B.2;exact⟨n,y,H',ν',Z',λk D=>C (by grind[gG]),e2,e3,e4,λh=>absurd h hd⟩
        simp at h
       simp at h
      .rename_i p e rest t;split at h
       .rename_i k es xs G he ah;split at h
        next B=>simp only[ζh,not_eq_true',List.contains_eq_mem,decide_eq_false_iff_not]at B;simp only[ζa,ζc]at h;obtain⟨rfl,rfl⟩:=h;obtain⟨n,y,H',ν',Z',e1,e2,e3,e4⟩:=S0 s A r W hh hc ah x he B.1 B.2;exact⟨n,y,H',ν',Z',λk D=>C (by grind[gG]),e2,e3,e4,λh=>absurd h hd⟩
        simp at h
       simp at h
      simp at h
     simp at h
    simp at h
   simp at h
  rename_i P;split at h
  .rename_i ai;simp only[ζh]at ai;have aj:lI S.E ops place f=false:=by
    simp only[Bool.not_eq_true,or_eq_false_iff,Bool.not_eq_false']at P
    cases place with
    |none=>rw[U]at P;simp at P|some bi=>simp[lI,A,ai.1,ak _ _ rfl P.2]
   split at h
   .rename_i az hs;split at h
    .rename_i rs m' hc;split at h
     .rename_i G J;split at h
      next B=>simp only[or_eq_true]at B;simp at h;obtain⟨rfl,rfl⟩:=h;obtain⟨n,H',e1,e2,e3,e4⟩:=LO s U T g r W aj hs (.inr ai.2) hc J B;exact⟨n,_,H',ν,Z,e1,e2,e3,e4,λ_=>⟨rfl,.refl⟩⟩
      simp at h
     simp at h
    simp at h
   simp at h
  simp at h
 rename_i A;have aC:S.E.keep f=false:=Zac
 have aj:lI S.E ops place f=false:=by simp_all[lI]
 split at h
 .rename_i az hs;split at h
  .rename_i hl;split at h
   .rename_i rs m' hc;split at h
    .rename_i G J;split at h
     .rename_i B;simp only[or_eq_true]at B;simp at h;obtain⟨rfl,rfl⟩:=h;obtain⟨n,H',e1,e2,e3,e4⟩:=LO s U T g r W aj hs Zac hc J B
      exact⟨n,_,H',ν,Z,e1,e2,e3,e4,λ_=>⟨rfl,.refl⟩⟩
     rename_i aG;split at h
     .rename_i aD;obtain⟨ds,aE,e⟩:=ζf.1 h;simp at e;obtain⟨rfl,rfl⟩:=e;have aw:(result G).scalar=false:=by
       grind
      obtain⟨n,H',e1,e2,e3,e4⟩:=UA s T (λb i hp=>(g b i hp).2) r W aC hs (by rw[<-U];exact aD) hc J aw aE
      exact⟨n,_,H',ν,Z,e1,e2,e3,e4,λ_=>⟨rfl,λe ad _ h=>⟨ad,pz h,rfl,.refl _,λ_ h=>⟨h,rfl⟩⟩⟩⟩
     simp at h
    simp at h
   simp at h
  simp at h
 simp at h
end
structure CX where
 E:Env
 nm:FuncId->Option Nat
 nt:Nat
def Db(ops:Rd)(o:Oper):aY (aY (Nat×X')):=
 match o.guard with
 |none=>some none|some (j,b)=>((ops[j]?).bind (·.dst)).map λd=>some (d,b)
def Ag(a:Nat):aY Nat->X'
 |none=>true|some d=>decide (d<a)
def yT(B:X')(ops:Rd)(i:Nat)(k:K)(os:aX U'):K×aX U'×X':=
 if B&& !dR ops i then match k,os,sU false ops i with
  |.l (.store n),.tmp u::w,some (a,l)=>if u=a then(.l (.storeF n),(.tmp u::w)++l.map .tmp,true)else(k,os,false)|.l (.append n),os,_=>if yj ops i then(.e n,os,true)else(k,os,false)|.r (.load n ag),[.tmp u],_=>if(qu ops i u).isEmpty then(k,os,false)else(.r (.loadF n ag),.tmp u::(qu ops i u).map .tmp,false)|_,_,_=>(k,os,false)
 else(k,os,B&&dR ops i)
def E_(B:X')(ops:Rd)(i:Nat)(k:K)(os:aX U'):(yT B ops i k os=(k,os,B&&dR ops i)/\∀n ag a',B=true->dR ops i=false->k=.r (.load n ag)->os=[.tmp a']->qu ops i a'=[])\/
 (B=true/\dR ops i=false/\∃n a l D,k=.l (.store n)/\os=.tmp a::D/\sU false ops i=some (a,l)/\yT B ops i k os=(.l (.storeF n),os++l.map .tmp,true))\/
 (B=true/\dR ops i=false/\∃n ag a,k=.r (.load n ag)/\os=[.tmp a]/\yT B ops i k os=(.r (.loadF n ag),.tmp a::(qu ops i a).map .tmp,false))\/
 (B=true/\dR ops i=false/\yj ops i=true/\∃n,k=.l (.append n)/\yT B ops i k os=(.e n,os,true)):=by
 unfold yT;split
 .rename_i h;simp only[ζh,not_eq_true']at h;split
  .rename_i n a' D a l hk;split
   next e=>subst e;refine .inr (.inl ⟨h.1,h.2,n,a',l,D,rfl,rfl,hk,?_⟩);simp only[yT,h.1,h.2,hk,Bool.not_false,Bool.and_self,if_true]
   exact .inl ⟨by rw[h.2,Bool.and_false],λn ag a' _ _ e=>by cases e⟩
  .rename_i n;split
   next C=>refine .inr (.inr (.inr ⟨h.1,h.2,C,n,rfl,rfl⟩))
   exact .inl ⟨by rw[h.2,Bool.and_false],λn ag a' _ _ e=>by cases e⟩
  .rename_i n ag a';split
   .rename_i G;refine .inl ⟨by rw[h.2,Bool.and_false],λn ag a2 _ _ _ e=>?_⟩
    simp only[List.cons.injEq,Operand.tmp.injEq,and_true]at e;subst e;simpa using G
   exact .inr (.inr (.inl ⟨h.1,h.2,n,ag,a',rfl,rfl,rfl⟩))
  rename_i u w z;refine .inl ⟨by rw[h.2,Bool.and_false],λn ag a2 _ _ e1 e2=>?_⟩
  first|exact(z _ _ _ e1 e2).elim|exact(z _ _ _ _ e1 e2 rfl).elim|exact(u _ _ _ e1 e2).elim|exact(w _ _ _ e1 e2).elim|exact(u _ _ _ _ e1 e2 rfl).elim|exact(w _ _ _ _ e1 e2 rfl).elim
 rename_i h;refine .inl ⟨rfl,λn ag a2 hd I _ _=>?_⟩
 rw[hd,I]at h;exact absurd rfl h
def ng(X:CX)(B:X')(ops:Rd)(i:Nat)(o:Oper):aY RO:=
 if Ag X.nt o.dst&& !(B&&(cT o.op==.call&&I6 ops i))then
  match Db ops o,resolve X.E X.nm o.op with
  |some gd,some (k,os)=>if B6 k then if B&&DX X.E ops i then match k,o.op with
   |.a (.makeSl size zero),.makeSlice ..=>(os.mapM (qd X.nm)).map λaz=>⟨o.dst,gd,false,.p (.makeC size zero),az,[],[]⟩|.a (.buildSl size len zero idx),.buildSlice ..=>if size≠0/\len=0/\idx=[]then(os.mapM (qd X.nm)).map λaz=>⟨o.dst,gd,false,.p .emptyC,az,[],[]⟩else(os.mapM (qd X.nm)).map λaz=>⟨o.dst,gd,false,.p (.buildC size len zero idx),az,[],[]⟩|_,_=>none
   else((yT B ops i k os).2.1.mapM (qd X.nm)).map λaz=>⟨o.dst,gd,(yT B ops i k os).2.2,(yT B ops i k os).1,az,[],[]⟩else none
  |_,_=>none
 else none
def D2{E:Env}{N:Nat->Y'}{F:WF}{op:Op}{ys:S'}{size:Nat}{zero:S'}{y:V}(B:∃t l c,op=.buildSlice t l c)(h:Ct E N F op ys (.a (.buildSl size 0 zero [])))(G:size≠0)(D:bN N .emptyC ys=some y):qg E F op=some y:=by
 obtain⟨t,l,c,rfl⟩:=B;have⟨g1,g2⟩:=h;unfold bN at D;split at D<;>first|(rename_i e;cases e;done)|skip
 all_goals simp_all[mB,fK,qg]
def BV{es:Nat}:∀{vs:aX (Nat×V)}{xs ys:T2},fK es xs vs=some ys->ys.length=xs.length
 |[],xs,ys,h=>by grind[fK]|(i,v)::r,xs,ys,h=>by simp only[fK]at h;split at h;have:=BV h;grind;cases h
def DR{E:Env}{N:Nat->Y'}{F:WF}{op:Op}{ys:S'}{size len:Nat}{zero:S'}{idx:So}{y:V}(D:∃t l c,op=.buildSlice t l c)(h:Ct E N F op ys (.a (.buildSl size len zero idx)))(B:bN N (.buildC size len zero idx) ys=some y):qg E F op=some y:=by
 obtain⟨t,l,c,rfl⟩:=D;have⟨g1,g2⟩:=h;simp only[bN]at B;split at B;rename_i a;split at B;rename_i w u;split at B;rename_i C;have G:len=w.length:=by have:=BV u;rw[this];simp
 have z:=g2 _ (show mB (.buildSl size len zero idx) ys=some (.row size w,.sl size len)by grind[mB]);grind[qg];cases B;cases B;cases B
def Eb{E:Env}{N:Nat->Y'}{F:WF}{op:Op}{ys:S'}{size:Nat}{zero:S'}{y:V}(D:∃t l c,op=.makeSlice t l c)(h:Ct E N F op ys (.a (.makeSl size zero)))(B:bN N (.makeC size zero) ys=some y):qg E F op=some y:=by
 obtain⟨t,l,c,rfl⟩:=D;have⟨g1,g2⟩:=h;unfold bN at B;split at B<;>first|(rename_i e;cases e;done)|skip
 rename_i k n w m e;cases e;split at B;rename_i c;obtain⟨rfl,rfl,z,rfl,C,G⟩:=c;have u:=g2 _ (show mB (.makeSl size zero) [.int .i64 n,.int .i64 n]=some (.row size (replicate n.toNat zero),.sl size n.toNat)by grind[mB]);grind[qg];cases B;cases B
def DS{X:CX}{dr:X'}{ops:Rd}{i:Nat}{o:Oper}{ro:RO}(a:ng X dr ops i o=some ro):Ag X.nt o.dst=true/\∃g now k az,Db ops o=some g/\ro=⟨o.dst,g,now,k,az,[],[]⟩:=by
 unfold ng at a;split at a
 .rename_i hd;have hd:=(Bool.and_eq_true_iff.1 hd).1;split at a
  .rename_i g k os hg hr;split at a;(·(repeat' split at a)<;>first|(cases a;done)|(obtain⟨az,u,rfl⟩:=ζf.1 a;exact⟨hd,_,_,_,_,hg,rfl⟩));cases a
  cases a
 cases a
def GU{X:CX}{dr:X'}{ops:Rd}{i:Nat}{o:Oper}{ro:RO}(a:ng X dr ops i o=some ro)(hd:dr=true)(B:cT o.op=.call):I6 ops i=false:=by
 unfold ng at a;split at a;next h=>subst hd;simp[B]at h;exact h.2
 cases a
structure Good(X:CX)(S:Sys):Prop where
 E:X.E=S.E
 N:∀f s,X.nm f=some s->S.N s=f
 prm:∀f q,S.prm f=some q->nZ S.E f q
section
variable{Rv:Nat->Prop}{ν ν':Nu}{Z Z':Nat->Prop}{st st':St}{m m':Tb bB}{F F':WF}{H H' H1:bk}{S:Sys}{c:bX}{X:CX}
def Old(b:Nat)(fr:So)(ν:Nu)(Z:Nat->Prop)(m:Tb bB):Prop:=(∀d ob j,bh m d=some ob->ob.pt j=true->d∉fr->ν.at d j<b)/\∀id,Z id->id<b
def oO{fr:So}:∀{svs:ST},fD fr svs=true->∀d∈fr,SV.dF d svs=false
 |[],_,d,_=>rfl|.v _::r,h,d,hd=>(oO (svs:=r) (by grind[fD]) d hd)|.ptr e _::r,h,d,hd=>by simp[fD,not_eq_true']at h;simp[SV.dF,SV.cM];exact⟨λe=>h.1 (e▸hd),oO h.2 d hd⟩|.el e _ _::r,h,d,hd=>by simp[fD,not_eq_true']at h;simp[SV.dF,SV.cM];exact⟨λe=>h.1 (e▸hd),oO h.2 d hd⟩|.mp e::r,h,d,hd=>by simp[fD,not_eq_true']at h;simp[SV.dF,SV.cM];exact⟨λe=>h.1 (e▸hd),oO h.2 d hd⟩|.own _::r,h,_,_=>by grind[fD]|.clo ..::r,h,_,_=>by grind[fD]|.tup _::r,h,_,_=>by grind[fD]|.agg _::r,h,_,_=>by grind[fD]|.yl _::r,h,_,_=>by grind[fD]
def E5(S:Sys)(ops:Rd)(place:aY (Nat×Nat))(dr:X')(F:WF)(op:Op)(dst:aY Nat)(ν:Nu)(Z:Nat->Prop)(st:St)(H:bk)(sv:SV)(st':St):Prop:=∃n y H' ν' Z',(∀k,n<=k->c_ S.E (run S.E k) ops place F H op=some (y,H'))/\R ν' Z' st' F H'/\c6 ν' st'.m H' Z' sv y/\Ev (λid=>∃b j,place=some (b,j)/\id=b+j) ν Z st H ν' Z' st' H'/\(dr=true->Z'=Z/\Kept dst ν st.m ν' st'.m)
def zO{E:Env}{F:WF}{H:bk}{place:aY (Nat×Nat)}{op:Op}{v:V}(h:bK E F op=some v):uw E F H place op=some v:=by simp_all[uw]
def BQ:∀{xs ys:T2}{l:SW},fR H Z xs ys->mm xs=some l->mm ys=some l
 |[],ys,l,h,B=>by have:=h.1;have:ys=[]:=List.eq_nil_of_length_eq_zero Zac;grind|x::xs,[],l,h,B=>by have:=h.1;simp at this|x::xs,y::ys,l,h,B=>by unfold mm at B;split at B;grind;rename_i n r e;cases e;obtain⟨k,c,rfl⟩:=ζf.1 B;have w:=h.2 0 _ y rfl rfl;obtain⟨u,C,rfl,p1,p2⟩:=w.inv;rw[p2.c9,p1.int];have:=BQ (xs:=xs) (ys:=ys) ⟨by have:=h.1;grind,λj a b z B=>h.2 (j+1) a b z B⟩ c;grind[mm];cases B
def Qj(gd:Good X S){ops:Rd}{place:aY (Nat×Nat)}{dr:X'}{op:Op}{dst:aY Nat}{p:v7}{svs:ST}{ys:S'}(b:B6 (.p p)=true)(r:R ν Z st F H)(rs:b7 ν st.m H Z svs ys)
 (B:Ct X.E S.N F op ys (.p p)){sv:SV}(h:(kG S.N st.m p svs).map (λx=>(x,st))=some (sv,st')):E5 S ops place dr F op dst ν Z st H sv st':=by
 have⟨x,w,e⟩:=ζf.1 h;obtain⟨rfl,rfl⟩:=e;have⟨y,z,u⟩:=Kn (λzero pl e=>by grind[B6]) r.obj rs w
 have⟨a,C⟩:=B;exact⟨0,y,H,ν,Z,λq _=>by unfold c_;rw[a];simp only[<-gd.E,zO (C y z),map_some],r,u,.refl,λ_=>⟨rfl,.refl⟩⟩
def A8(gd:Good X S){ops:Rd}{place:aY (Nat×Nat)}{dr:X'}{op:Op}{p:v7}{svs:ST}{ys:S'}(hp:∀zero pl,p≠.build zero pl)(B:cT op=.alloc)(D:ot X.E ops place=true)(G:∀y,bN S.N p ys=some y->qg X.E F op=some y)
 (r:R ν Z st F H)(rs:b7 ν st.m H Z svs ys){sv:SV}(h:(kG S.N st.m p svs).map (λx=>(x,st))=some (sv,st')):E5 S ops place dr F op none ν Z st H sv st':=by
 have⟨x,w,e⟩:=ζf.1 h;simp only[ζc]at e;obtain⟨rfl,rfl⟩:=e;have⟨y,z,u⟩:=Kn (N:=S.N) (λzero pl e=>absurd e (hp zero pl)) r.obj rs w
 refine⟨0,y,H,ν,Z,λq _=>?_,r,u,.refl,λ_=>⟨rfl,.refl⟩⟩
 unfold c_;rw[B];simp only[D,if_true,<-gd.E,G y z,map_some]
def LW:∀{D B:aX U'}{vs:S'},fC F (D++B)=some vs->∃G J,fC F D=some G/\fC F B=some J/\vs=G++J
 |[],B,vs,h=>⟨[],vs,rfl,h,rfl⟩|x::D,B,vs,h=>by obtain⟨a,az,b,T,rfl⟩:=ji h;obtain⟨G,J,g1,g2,rfl⟩:=LW T;simp_all[fC]
def Df:∀{l:So}{vs:S'},fC F (l.map Operand.tmp)=some vs->vs=l.map (get F)
 |[],vs,h=>rI h|x::l,vs,h=>by obtain⟨a,az,b,B,rfl⟩:=ji h;simp[ev]at b;subst b;rw[Df B];rfl
def WV(gd:Good X S){call:dP}{ops:Rd}{b j n a:Nat}{l:So}{o:Oper}{B:aX U'}{ys:S'}{y:V}(c:resolve X.E X.nm o.op=some (.l (.store n),.tmp a::B))(D:fC F ((.tmp a::B)++l.map Operand.tmp)=some ys)
 (J:sU false ops j=some (a,l))(T:dR ops j=false)(e1:eY H (.storeF n) ys=some (y,H')):c_ S.E call ops (some (b,j)) F H o.op=some (y,H'):=by
 obtain⟨W,Y,d,I,rfl⟩:=LW D;have⟨g1,g2⟩:=jI gd.N c d;obtain⟨w,L,z,O,rfl⟩:=ji d;simp[ev]at z;have u:∃v,L=[v]:=by have C:∃x,B=[x]:=(by unfold resolve at c;((repeat' split at c)<;>first|grind|skip);(all_goals (try (have⟨_,_,e⟩:=ζf.1 c;simp[K.l.injEq,L_.store.injEq,reduceCtorEq]at e)));grind);obtain⟨x,rfl⟩:=C;obtain⟨v,Z,_,Q,rfl⟩:=ji O;rw[rI Q];grind
 obtain⟨v,rfl⟩:=u;rw[Df I,<-z]at e1;simp at e1
 cases G:get F a with
 |hptr id el off=>
  rw[G]at e1;simp only[eY]at e1;split at e1
  .have U:qU ops j F=true:=by
    unfold qU
    grind
   unfold c_;rw[g1];simp[U,<-gd.E];refine g2 _ _ ?_;rw[<-z,G];exact e1
  grind
 |_=>rw[G]at e1;simp[eY]at e1
def HP{E:Env}{nm:Y'->aY Nat}{op:Op}{s:Nat}{a:X'}{os:aX U'}(h:resolve E nm op=some (.r (.loadF s a),os)):False:=by
 unfold resolve at h;(repeat' split at h)<;>first|grind|skip
 all_goals simp_all
def J5{E:Env}{nm:Y'->aY Nat}{op:Op}{s a':Nat}{a:X'}{t:W'}{os:aX U'}(h:resolve E nm op=some (.r (.load s a),os)):∃t x,op=.load t x/\os=[x]:=by
 unfold resolve at h;(repeat' split at h)<;>first|grind|skip
 all_goals simp_all
 grind
def OR{E:Env}{nm:Y'->aY Nat}{ops:Rd}{j:Nat}{op:Op}{q:Mj}{os:aX U'}(a:resolve E nm op=some (.r q,os))(h:∀n ag a',K.r q=.r (.load n ag)->os=[.tmp a']->∀t,op=.load t (.tmp a')->qu ops j a'=[]):oV ops j F op=true:=by
 unfold oV;split;rename_i t a';have:∃n ag,q=.load n ag/\os=[.tmp a']:=by have⟨d,_,e⟩:=ζf.1 a;grind
 grind;rfl
def V5(gd:Good X S){ops:Rd}{b j n a:Nat}{ag:X'}{fr:So}{o:Oper}{svs:ST}{ys:S'}{dst:aY Nat}{x:SV}(f:resolve X.E X.nm o.op=some (.r (.load n ag),[.tmp a]))(U:fC F (.tmp a::(qu ops j a).map Operand.tmp)=some ys)(rs:b7 ν st.m H Z svs ys)
 (W:fD fr svs=true)(M:b<=H.length)(Y:∀d ob j,bh st.m d=some ob->ob.pt j=true->d∉fr->ν.at d j<b)(D:∀id,Z id->id<b)(r:R ν Z st F H)(T:qt st.m (.loadF n ag) svs=some x):E5 S ops (some (b,j)) true F o.op dst ν Z st H x st:=by
 obtain⟨w,i,k,m,rfl⟩:=ji U;simp[ev]at k;have N:=Df m;unfold qt at T;split at T<;>first|(rename_i B;cases B;done)|skip
 .rename_i size agg d off l B;cases B;split at T
  .rename_i G;split at T
   .rename_i cs C;obtain⟨w',P,e,g1,g2⟩:=rs.inv;cases e;have I:=ME r C g2 G;obtain⟨_,_,rfl⟩:=g1.pW C;have J:∀id,Z id->Z id/\bn (H.take b) id=bn H id:=λid h=>⟨h,n_ (D id h)⟩
    have L:∀id,Z id->Z id/\bn H id=bn (H.take b) id:=λid h=>⟨h,(n_ (D id h)).symm⟩
    have ah:d∉fr:=λg=>by have:=oO W d g;grind[SV.dF,SV.cM]
    obtain⟨y,p,O⟩:=xC (r:=.load n ag) (λs a e=>by cases e) (λkk z ok e=>by cases e) (b7.cons (g1.mono J λe _=>jt ν st.m e) .nil) (λc Q ob u=>by
     have v:c∉fr:=λg=>by have:=(by simpa[SV.dF,SV.cM]using Q);grind
     exact dg.mono J rfl (λj A=>List.getElem?_take_of_lt (Y c ob j u A v)) (λe _=>jt ν st.m e) (r.obj c ob u)) (by simp[qt,C];omega)
    obtain⟨k1,k2⟩:=jI gd.N f (show fC F [.tmp a]=some [.hptr (ν d).1 0 off]from by grind[fC])
    have E:oV ops j F o.op=true:=by obtain⟨t,x',e1,e2⟩:=J5 (a':=0) (t:=0) f;rw[e1];simp at e2;subst e2;simp[oV];intro s hs;have K:get F s∈i:=Zac;have:=all_eq_true.1 I _ K;grind[oL]
    refine⟨0,y,H,ν,Z,λq _=>?_,r,O.mono L (λe _=>jt ν st.m e),.refl,λ_=>⟨rfl,.refl⟩⟩
    unfold c_;rw[k1];simp[<-gd.E,k2 (H.take b) y p,E]
   grind
  grind
 grind
def FJ{E:Env}{nm:Y'->aY Nat}{op:Op}{n:Nat}{os:aX U'}(h:resolve E nm op=some (.l (.append n),os)){y:V}{ys:S'}(b:fC F os=some (y::ys))(B:y=.bG\/y=.dH):isApp op=true/\qQ F op=true:=by
 have key:∃args u p s x,op=.call {callee:=.builtin .append,args:=args,argTypes:=u}/\args.toList=[s,x]/\os=[s,x]/\p=():=by unfold resolve at h;((repeat' split at h)<;>first|(simp at h;done)|skip);grind
 obtain⟨args,u,_,s,x,rfl,c,rfl,_⟩:=key;have⟨a,az,w,z,e⟩:=ji b;cases e;refine⟨rfl,?_⟩;simp only[qQ,c,w];all_goals grind
def WW(gd:Good X S)(hS:jg S c){ops:Rd}{place:aY (Nat×Nat)}{dr:X'}{fr:So}{i:Nat}(G:dr=place.isSome)(hi:∀b j,place=some (b,j)->j=i)
 (K:∀b j,place=some (b,j)->b<=H.length/\Old b fr ν Z st.m)
 {o:Oper}{ro:RO}(E:ng X dr ops i o=some ro)(aF:∀b j,place=some (b,j)->ops[j]?=some o)(am:∀b j,place=some (b,j)->cT o.op=.alloc->H[b+j]?=some .free)
 (r:R ν Z st F H){sv:SV}(h:mH S c dr fr ro st=some (sv,st')):
 E5 S ops place dr F o.op (Au ro) ν Z st H sv st':=by
 have aw:=λhd hl=>GU E hd hl
 unfold ng at E;split at E
 .split at E
  .rename_i g k os hg hr;split at E
   .rename_i A;split at E
    .rename_i af;simp only[ζh]at af;have an:ot X.E ops place=true:=by
      cases place with
      |none=>rw[G]at af;exact absurd af.1 Zab|some O=>have⟨b,j⟩:=O;rw[hi b j rfl];exact af.2
     split at E
     .rename_i size zero t l c U;obtain⟨az,M,rfl⟩:=ζf.1 E;unfold mH at h;split at h
      next L B=>have⟨ys,C,rs⟩:=pE gd.N r.slot M B;have J:=jI gd.N hr C;exact A8 gd (λ_ _ e=>by cases e) J.1 an (λy P=>Eb ⟨_,_,_,U⟩ J P) r rs h
      simp at h
     .rename_i size len zero idx t l c U;split at E
      .rename_i aG;obtain⟨aH,rfl,rfl⟩:=aG;obtain⟨az,M,rfl⟩:=ζf.1 E;unfold mH at h;split at h
       next L B=>have⟨ys,C,rs⟩:=pE gd.N r.slot M B;have J:=jI gd.N hr C;exact A8 gd (λ_ _ e=>by cases e) J.1 an (λy P=>D2 ⟨_,_,_,U⟩ J aH P) r rs h
       simp at h
      obtain⟨az,M,rfl⟩:=ζf.1 E;unfold mH at h;split at h
      next L B=>have⟨ys,C,rs⟩:=pE gd.N r.slot M B;have J:=jI gd.N hr C;exact A8 gd (λ_ _ e=>by cases e) J.1 an (λy P=>DR ⟨_,_,_,U⟩ J P) r rs h
      simp at h
     cases E
    rename_i ah;have al:ot X.E ops place=false:=by cases place with|none=>rfl|some O=>have⟨b,j⟩:=O;have I:=hi b j rfl;cases ax:DX X.E ops j with|false=>exact ax|true=>exact absurd (by rw[G,<-I,ax];rfl) ah
    rcases E_ dr ops i k os with⟨hq,aI⟩|⟨u,ao,n,a,l,aT,rfl,rfl,aJ,hq⟩|⟨u,ao,n,ag,a,rfl,rfl,hq⟩|⟨u,ao,aK,n,rfl,hq⟩
    rotate_left
    .rw[hq]at E;obtain⟨az,M,rfl⟩:=ζf.1 E;unfold mH at h;split at h
     .rename_i L B;have⟨ys,C,rs⟩:=pE gd.N r.slot M B;simp only[u,Bool.not_true,Bool.false_or,if_true]at h;have⟨y,H',ν',e1,e2,e3,e4,e5⟩:=C4 r rs h;refine⟨0,y,H',ν',Z,λq _=>?_,e2,e3,e4.weak (λ_ h=>h.elim),λ_=>⟨rfl,e5⟩⟩
      cases place with
      |none=>rw[G]at u;cases u|some O=>have⟨b,j⟩:=O;have I:=hi b j rfl;subst I;exact WV gd hr C aJ ao e1
     simp at h
    .rw[hq]at E;obtain⟨az,M,rfl⟩:=ζf.1 E;unfold mH at h;split at h
     .rename_i L B;have⟨ys,C,rs⟩:=pE gd.N r.slot M B;simp only[u,Bool.not_true,Bool.or_self,Bool.false_or]at h;split at h
      .rename_i ap;have⟨x,hx,e⟩:=ζf.1 h;simp only[ζc]at e;obtain⟨rfl,rfl⟩:=e
       cases place with
       |none=>rw[G]at u;cases u|some O=>have⟨b,j⟩:=O;have I:=hi b j rfl;subst I;have⟨ay,aq,ai⟩:=K b j rfl;rw[u];exact V5 gd hr C rs ap ay aq ai r hx
      simp at h
     simp at h
    .rw[hq]at E;obtain⟨az,M,rfl⟩:=ζf.1 E;unfold mH at h;split at h
     rotate_left
     .simp at h
     rename_i L B;have⟨ys,C,rs⟩:=pE gd.N r.slot M B;simp only at h;have key:∃e x,(e=V.bG\/e=V.dH)/\L=[.v e,x]/\nh st o.dst (.append n) L=some (sv,st'):=by split at h;exact⟨_,_,.inl rfl,rfl,h⟩;exact⟨_,_,.inr rfl,rfl,h⟩;cases h
     obtain⟨e,x,he,rfl,hl⟩:=key;have⟨y,H',ν',e1,e2,e3,e4,e5⟩:=C4 r rs hl;have⟨g1,g2⟩:=jI gd.N hr C;refine⟨0,y,H',ν',Z,λq _=>?_,e2,e3,e4.weak (λ_ h=>h.elim),λ_=>⟨rfl,e5⟩⟩
     obtain⟨y1,zs,rfl,f1,f2⟩:=rs.inv;have aL:y1=.bG\/y1=.dH:=by cases f1 with|v _ _ hf=>rcases he with rfl|rfl<;>first|exact .inl hf.bG|exact .inr hf.dH
     cases place with
     |none=>rw[G]at u;cases u|some O=>have⟨b,j⟩:=O;have I:=hi b j rfl;subst I;have⟨r1,r2⟩:=FJ hr C aL;exact O1 r1 (by rw[<-gd.E];exact g2 _ _ e1) (.inr ⟨aK,r2,(K b j rfl).1⟩)
    rw[hq]at E;obtain⟨az,M,rfl⟩:=ζf.1 E;unfold mH at h;split at h
    .rename_i L B;have⟨ys,C,rs⟩:=pE gd.N r.slot M B;have D:=jI gd.N hr C;simp only at h
     cases k with
     |p p=>
      cases p with
      |slice size lo hi=>
       simp only at h;split at h
       .rename_i d bs;split at h
        .simp at h
        rename_i ar;have⟨y,ν',h1,h2,h3,h4⟩:=PY (N:=S.N) (Rv:=λid=>∃b j,place=some (b,j)/\id=b+j) r rs h
        have⟨g1,g2⟩:=D;exact⟨0,y,H,ν',Z,λq _=>by unfold c_;rw[g1];simp only[<-gd.E,zO (g2 y h1),map_some],h2,h3,h4,λhd=>absurd hd ar⟩
       exact Qj gd A r rs D h
      |_=>exact Qj gd A r rs D h
     |r q=>
      simp only at h;split at h
      .rename_i W;have⟨x,hx,e⟩:=ζf.1 h;simp only[ζc]at e;obtain⟨rfl,rfl⟩:=e;have⟨g1,g2⟩:=D;have au:∀kk z ok,q=.lookup kk z ok->z.good=true:=λkk z ok e=>by subst e;simpa[B6]using A
       have ab:∀s a,q≠.loadF s a:=λs a e=>by subst e;exact HP hr
       cases place with
       |none=>
        have⟨y,P,ad⟩:=xC ab au rs (λd _ ob hd=>r.obj d ob hd) hx
        exact⟨0,y,H,ν,Z,λq _=>by unfold c_;rw[g1];simp only[<-gd.E,g2 H y P,map_some],r,ad,.refl,λ_=>⟨rfl,.refl⟩⟩
       |some O=>
        have⟨b,j⟩:=O;have⟨ay,aq,ai⟩:=K b j rfl;have u:dr=true:=G;subst u;have I:=hi b j rfl;subst I;simp only[Bool.not_true,Bool.false_or,Bool.true_and]at W;have aA:oV ops j F o.op=true:=OR hr λn ag a' e1 e2 t e3=>by by_cases Q:dR ops j=true;exact D3 (aF b j rfl) e3 Q;exact aI n ag a' rfl (by simpa using Q) e1 e2
        by_cases Q:dR ops j=true
        .have⟨y,P,ad⟩:=xC ab au rs (λd _ ob hd=>r.obj d ob hd) hx
         have hH:=g2 H y P;refine⟨0,y,H,ν,Z,λq _=>?_,r,ad,.refl,λ_=>⟨rfl,.refl⟩⟩
         unfold c_;rw[g1];simp only[<-gd.E,aA,if_true];split
         next v hv=>have:=AK hv;rw[hH]at this;cases this;rfl
         rw[if_pos Q,hH];rfl
        have ap:fD fr L=true:=by simpa[Q]using W
        have aa:∀id,Z id->Z id/\bn (H.take b) id=bn H id:=λid h=>⟨h,n_ (ai id h)⟩
        have aB:∀id,Z id->Z id/\bn H id=bn (H.take b) id:=λid h=>⟨h,(n_ (ai id h)).symm⟩
        have⟨y,P,ad⟩:=xC (H:=H.take b) ab au (rs.mono aa λe _=>jt ν st.m e) (λd hd ob aC=>by
         have ab:d∉fr:=λhf=>by rw[oO ap d hf]at hd;cases hd
         exact dg.mono aa rfl (λj hb=>List.getElem?_take_of_lt (aq d ob j aC hb ab)) (λe _=>jt ν st.m e) (r.obj d ob aC)) hx
        refine⟨0,y,H,ν,Z,λq _=>?_,r,ad.mono aB (λe _=>jt ν st.m e),.refl,λ_=>⟨rfl,.refl⟩⟩
        unfold c_;rw[g1];simp only[<-gd.E,g2 (H.take b) y P,aA,if_true]
      simp at h
     |a q=>
      simp only at h;split at h
      .rename_i d hd;split at h
       .rename_i Y;have⟨⟨ob,x⟩,hx,e⟩:=ζf.1 h;simp only[ζc]at e;obtain⟨rfl,rfl⟩:=e;have⟨ae,mk,e1,e2,T,e3,e4⟩:=O5 A rs hx;have⟨g1,g2⟩:=D;have⟨n1,n2,n3,n4⟩:=kK Y;have av:∀p:Nat×Nat,∀e,SV.dF e L=true->∀aj,bh (bF st.m d ob) e=some aj->∃ob,bh st.m e=some ob/\hD ν d p e=ν e/\sameShape ob aj:=λp e he=>by
         refine AA ?_;rintro rfl;have:∀{xs:QP}{vs:ST},bW S.N st.g xs=some vs->SV.dF e vs=false:=by intro xs;induction xs with|nil=>intro vs h;simp only[bW,ζa]at h;subst h;rfl|cons a xs ih=>intro vs h;simp only[bW]at h;split at h;rename_i v aU h1 h2;simp only[ζa]at h;subst h;simp only[SV.dF,or_eq_false_iff];refine⟨?_,ih h2⟩;(cases a with|s n=>exact z7 n3 h1|k c=>simp only[rU,ζa]at h1;subst h1;rfl|f s=>simp only[rU,ζa]at h1;subst h1;rfl);simp at h
         rw[this B]at he;cases he
        have fin:∀(id:Nat)(Hn:bk),H.length<=Hn.length->Hn[id]?=some ae->(∀k,k<H.length->k≠id->Hn[k]?=H[k]?)->(∀k,eZ ν st.m k->k≠id)->(∀k,Z k->k≠id)->
         R (hD ν d (id,0)) Z {st with m:=bF st.m d ob} F Hn/\c6 (hD ν d (id,0)) (bF st.m d ob) Hn Z x (mk.val id)/\(∀k,Z k->bn Hn k=bn H k):=λid Hn hl aM J ho hz=>by
         have aa:∀k,Z k->bn Hn k=bn H k:=λk A=>by unfold bn;rw[J k (r.vQ A) (hz k A)]
         have⟨a1,a2⟩:=e4 id (hD ν d (id,0)) (bF st.m d ob) Hn (iH _ _ _) (cn _ _ _) aM aa (av _);have r2:R ν Z st F Hn:=r.heap (λk A=>J k (r.lt A) (ho k A)) aa
         exact⟨r2.add Y (λ_=>⟨λh=>ho _ h rfl,λh=>hz _ h rfl⟩) a1 T,a2,aa⟩
        have aD:o.dst=some d:=hd
        cases place with
        |none=>
         have⟨f1,f2,f3⟩:=fin H.length (H++[ae]) Zab Zab (λk A _=>getElem?_append_left A) (λk A=>Nat.ne_of_lt (r.lt A)) (λk A=>Nat.ne_of_lt (r.vQ A))
         refine⟨0,mk.val H.length,H++[ae],hD ν d (H.length,0),Z,λq _=>?_,f1,f2,Ev.add Y Zab (λk A _=>getElem?_append_left A) f3 (λ_=>.inr (le_refl _)) T,λhh=>?_⟩
         .unfold c_;rw[g1];simp only[al,false_eq_true,if_false,<-gd.E,g2 _ e1]
         rw[G]at hh;cases hh
        |some O=>
         have⟨b,j⟩:=O;have hf:=am b j rfl g1;have aN:=(ζe.1 hf).1;have nf:∀k,eZ ν st.m k->k≠b+j:=λk A e=>by subst e;have⟨d',aj,j',w1,w2,w3⟩:=A;exact(r.obj d' aj w1).free w2 (w3▸hf)
         have nz:∀k,Z k->k≠b+j:=λk A e=>by subst e;have:=r.zrow _ A;unfold bn at this;rw[hf]at this;simp[Ob.rows]at this
         have⟨f1,f2,f3⟩:=fin (b+j) (H.set (b+j) ae) Zab (by rw[getElem?_set_self aN]) (λk _ A=>by rw[getElem?_set,if_neg (Ne.symm A)]) nf nz
         refine⟨0,mk.val (b+j),H.set (b+j) ae,hD ν d (b+j,0),Z,λq _=>?_,f1,f2,Ev.add Y Zab (λk _ A=>?_) f3 (λ_=>.inl ⟨b,j,rfl,rfl⟩) T,λ_=>⟨rfl,?_⟩⟩
         .unfold c_;rw[g1];simp only[al,false_eq_true,if_false,<-gd.E,g2 _ e1,hf]
         .rw[getElem?_set,if_neg λe=>A ⟨b,j,rfl,e.symm⟩]
         have:Au ⟨o.dst,g,dr&&dR ops j,.a q,az,[],[]⟩=some d:=aD;have I:=hi b j rfl;subst I;rw[this];exact Kept.add λ_ _ h=>h
       simp at h
      simp at h
     |l q=>
      simp only at h;split at h
      .rename_i W;have⟨y,H',ν',e1,e2,e3,e4,e5⟩:=C4 r rs h;have⟨g1,g2⟩:=D;refine⟨0,y,H',ν',Z,λq _=>?_,e2,e3,e4.weak (λ_ h=>h.elim),λ_=>⟨rfl,e5⟩⟩
       unfold c_;rw[g1];simp only[<-gd.E]
       cases place with
       |none=>exact g2 _ _ e1|some O=>
        have⟨b,j⟩:=O;have u:dr=true:=G;subst u;have I:=hi b j rfl;subst I;have Q:dR ops j=true:=by simpa using W
        simp only[Q,if_true];exact g2 _ _ e1
      simp at h
     |e n=>exact D.elim|b=>
      simp only at h;split at h
      .cases h
      rename_i ar;have aO:dr=false:=by simpa using ar
      have aP:place=none:=by cases place with|none=>rfl|some O=>rw[aO]at G;simp at G
      subst aP;split at h
      next x=>have⟨xs,h1,h2⟩:=ζg.1 h;have⟨l,h3,e⟩:=ζf.1 h2;simp only[ζc]at e;obtain⟨rfl,rfl⟩:=e;have⟨g1,y,e1,g2⟩:=D;have⟨y',_,e2,r1,r2⟩:=rs.inv;rw[e1]at e2;cases e2;have⟨zs,k1,k2⟩:=vN r1 r.obj h1;have hz:mm zs=some l:=BQ k2 h3;have⟨q1,q2⟩:=g2 H zs l k1 hz;exact⟨0,_,H,ν,Z,λq _=>by unfold c_;rw[g1];simp only[uw,<-gd.E,q1,q2,map_some],r,.v _ _ (.same _ rfl),.refl,λ_=>⟨rfl,.refl⟩⟩
      cases h
     |c=>
      simp only at h;have⟨g1,f',aV,e1,e2⟩:=D;have go:∀(f:Y')(args:ST)(ak:S'),b7 ν st.m H Z args ak->kL F o.op=some (.fn f,ak)->eo S c o.dst dr (!dr||(dr&&dR ops i)) (ez st.m fr) f args st=some (sv,st')->
       E5 S ops place dr F o.op (Au ⟨o.dst,g,dr&&dR ops i,.c,az,[],[]⟩) ν Z st H sv st':=λf args ak aQ aE aR=>by
       have⟨n,y,H',ν',Z',p1,p2,p3,p4,p5⟩:=Tg (ops:=ops) (Rv:=λid=>∃b j,place=some (b,j)/\id=b+j) hS gd.prm G (λb j hp hn=>by
        have:=hi b j hp;subst this;simp only[ζh]at hn;exact hn.2) (λb j hp hn=>by have:=hi b j hp;subst this;rw[G,hp]at hn;simpa using hn) (λb j hp=>(K b j hp).2) r aQ aR
       refine⟨n,y,H',ν',Z',λq hq=>?_,p2,p3,p4,p5⟩
       have aS:xP ops place ak=true:=by cases place with|none=>rfl|some O=>simp only[xP,hi _ _ rfl,aw G g1];rfl
       unfold c_;rw[g1];simp only[aE,aS,if_true];exact p1 q hq
      split at h
      next f a b vs=>have⟨w,ws,ew,r1,r2⟩:=rs.inv;rw[ew]at e1;simp only[List.cons.injEq]at e1;obtain⟨rfl,rfl⟩:=e1;obtain⟨a',b',rfl,ra,rb⟩:=r1.kS;exact go f _ _ ((ra.append r2).append rb) e2 h
      next f a b vs=>have⟨w,ws,ew,r1,r2⟩:=rs.inv;rw[ew]at e1;simp only[List.cons.injEq]at e1;obtain⟨rfl,rfl⟩:=e1;obtain⟨a',b',rfl,ra,rb⟩:=r1.fr.kS;exact go f _ _ (((b7.rG ra).append r2).append (b7.rG rb)) e2 h
      simp at h
    simp at h
   simp at E
  simp at E
 simp at E
end
end Go.VE
