/-
 The second layer: named objects in the place of rows; texts, calls, iterators.
-/
import Derived.Test.YtdoibkkdaojjpaaGreatV2
set_option linter.all false
namespace Go.VE
variable [aS]
inductive Fl where|nil|emp|row|part
 deriving DecidableEq,Inhabited
inductive SV where
 | v (x:V)
 | own (d:Nat)
 | ptr (d off:Nat)
 | el (d i off:Nat)
 | mp (d:Nat)
 | clo (f:FuncId) (a b:List SV)
 | tup (l:List SV)
 | agg (l:List SV)
 | yl (id:Nat)
 deriving Inhabited
inductive aL where
 | sl (k:Fl) (es:Nat) (xs:List (List V))
 | box (cs:List SV)
 | mp (kvs:List (V×V))
abbrev Tb (α:Type):=List (Nat×α)
def ai {α:Type}:Tb α->Nat->Option α
 | [],_=>none
 | (k,v)::r,n=>if k=n then some v else ai r n
def aO {α:Type}:Tb α->Nat->α->Tb α
 | [],n,v=>[(n,v)]
 | (k,x)::r,n,v=>if k=n then(k,v)::r else(k,x)::aO r n v
def cM {α:Type} (n:Nat):Tb α->Tb α
 | []=>[]
 | (k,x)::r=>if k=n then cM n r else(k,x)::cM n r
def uh {α:Type}:List Nat->Tb α->Tb α
 | [],g=>g
 | d::ds,g=>uh ds (cM d g)
def ue {α:Type}:Tb α->List Nat->List α->Tb α
 | g,p::ps,v::vs=>ue (aO g p v) ps vs
 | g,_,_=>g
def yE {α:Type} (g:Tb α):List Nat->Option (Tb α)
 | []=>some []
 | n::r=>match ai g n,yE g r with
  | some v,some t=>some ((n,v)::t)
  | _,_=>none
structure St where
 g:Tb SV
 m:Tb aL
 pin:List Nat
 want:List (List V)
 more:Bool
 yid:Nat
structure Cq where
 part:Bool
 go:Nat->List (List V)->List V->Option (List (List V))
structure Sys where
 E:Env
 N:Nat->FuncId
 items:FuncId->List V->List V->Option (List (List V))
 wK:FuncId->List V->Option V
 prm:FuncId->Option Cq
inductive Arg where
 | s (n:Nat)
 | k (c:V)
 | f (name:Nat)
inductive Loc where
 | s (n:Nat)
 | c (b i:Nat)
inductive Gh where
 | close (d:Nat)
 | closeB (d:Nat)
 | canon (l:Loc) (d:Nat) (es:Nat)
 | keep (gs ms:List Nat)
 | drop (ds:List Nat)
 | closeS (l:Loc)
structure RO where
 dst:Option Nat
 gd:Option (Nat×Bool)
 now:Bool
 k:K
 az:List Arg
 dead:List Nat:=[]
 pre:List Gh:=[]
inductive RC where
 | skip
 | ops (l:List RO)
 | mB (l:List RO)
 | seq (a b:RC)
 | cond (x:Arg) (a b:RC)
 | block (id:Nat) (c:RC)
 | loop (c:RC)
 | each (g:Arg) (ps:List Nat) (a b:RC)
 | exit (id:Nat)
 | ret
 | gh (x:Gh) (c:RC)
 | hg (c:RC) (x:Gh)
inductive RV where
 | s (n:Nat)
 | ld (n size:Nat) (agg:Bool)
structure RF where
 na:Nat
 rs:List RV
 body:RC
mutual
def SV.bQ (d:Nat):SV->Bool
 | .v _=>false
 | .own e=>e==d
 | .ptr e _=>e==d
 | .el e _ _=>e==d
 | .mp e=>e==d
 | .clo _ a b=>SV.cu d a||SV.cu d b
 | .tup l=>SV.cu d l
 | .agg l=>SV.cu d l
 | .yl _=>false
def SV.cu (d:Nat):List SV->Bool
 | []=>false
 | x::r=>SV.bQ d x||SV.cu d r
end
def aL.bQ (d:Nat):aL->Bool
 | .box cs=>SV.cu d cs
 | _=>false
def tn (d:Nat):Tb SV->Bool
 | []=>false
 | (_,x)::r=>SV.bQ d x||tn d r
def qP (d:Nat):Tb aL->Bool
 | []=>false
 | (_,x)::r=>aL.bQ d x||qP d r
def St.new (st:St) (d:Nat):Bool := !(st.pin.contains d)&&(ai st.m d).isNone && !(tn d st.g) && !(qP d st.m)
mutual
def SV.sw (d e:Nat):SV->SV
 | .v x=>.v x
 | .own k=>.own (if k=d then e else k)
 | .ptr k o=>.ptr (if k=d then e else k) o
 | .el k i o=>.el (if k=d then e else k) i o
 | .mp k=>.mp (if k=d then e else k)
 | .clo f a b=>.clo f (SV.sP d e a) (SV.sP d e b)
 | .tup l=>.tup (SV.sP d e l)
 | .agg l=>.agg (SV.sP d e l)
 | .yl id=>.yl id
def SV.sP (d e:Nat):List SV->List SV
 | []=>[]
 | x::r=>SV.sw d e x::SV.sP d e r
end
def aL.sw (d e:Nat):aL->aL
 | .box cs=>.box (SV.sP d e cs)
 | o=>o
def Ah (d e:Nat):Tb SV->Tb SV
 | []=>[]
 | (n,x)::r=>(n,x.sw d e)::Ah d e r
def tN (d e:Nat):Tb aL->Tb aL
 | []=>[]
 | (n,x)::r=>((if n=d then e else n),x.sw d e)::tN d e r
mutual
def SV.sub (d:Nat) (w:V):SV->SV
 | .own k=>if k=d then .v w else .own k
 | .clo f a b=>.clo f (SV.sF d w a) (SV.sF d w b)
 | .tup l=>.tup (SV.sF d w l)
 | .agg l=>.agg (SV.sF d w l)
 | x=>x
def SV.sF (d:Nat) (w:V):List SV->List SV
 | []=>[]
 | x::r=>SV.sub d w x::SV.sF d w r
end
mutual
def SV.zF (d:Nat) (cs:List V):SV->SV
 | .ptr k o=>if k=d then(if o<=cs.length then .v (.fptr (cs.drop o))else .ptr k o)else .ptr k o
 | .clo f a b=>.clo f (SV.pL d cs a) (SV.pL d cs b)
 | .tup l=>.tup (SV.pL d cs l)
 | .agg l=>.agg (SV.pL d cs l)
 | x=>x
def SV.pL (d:Nat) (cs:List V):List SV->List SV
 | []=>[]
 | x::r=>SV.zF d cs x::SV.pL d cs r
end
def Af (f:SV->SV):Tb SV->Tb SV
 | []=>[]
 | (n,x)::r=>(n,f x)::Af f r
def mapM (f:List SV->List SV):Tb aL->Tb aL
 | []=>[]
 | (n,.box cs)::r=>(n,.box (f cs))::mapM f r
 | (n,o)::r=>(n,o)::mapM f r
mutual
def SV.names:SV->List Nat
 | .own d|.ptr d _|.el d _ _|.mp d=>[d]
 | .clo _ a b=>SV.tF a++SV.tF b
 | .tup l=>SV.tF l
 | .agg l=>SV.tF l
 | _=>[]
def SV.tF:List SV->List Nat
 | []=>[]
 | x::r=>SV.names x++SV.tF r
end
def ow:Tb SV->List Nat
 | []=>[]
 | (_,x)::r=>SV.names x++ow r
def cV:List SV->Option (List V)
 | []=>some []
 | .v x::r=>(cV r).map (x::·)
 | _::_=>none
def mA (k:Fl) (es:Nat) (xs:List (List V)):V:=
 match k with
 | .nil=>.aF
 | .emp=>.cI
 | _=>.fsl es xs
mutual
def V.lvl:Nat->V->Bool
 | n,.fsl _ xs=>match n with|0=>false|n+1=>V.lS n xs
 | n,.fptr cs=>match n with|0=>false|n+1=>V.bU n cs
 | n,.fmap kvs=>match n with|0=>false|n+1=>V.nK n kvs
 | n,.agg cs=>match n with|0=>false|n+1=>V.bU n cs
 | n,.tup cs=>match n with|0=>false|n+1=>V.bU n cs
 | n,.clo _ a b=>match n with|0=>false|n+1=>V.bU n a&&V.bU n b
 | _,_=>true
def V.bU:Nat->List V->Bool
 | _,[]=>true
 | n,x::r=>V.lvl n x&&V.bU n r
def V.lS:Nat->List (List V)->Bool
 | _,[]=>true
 | n,x::r=>V.bU n x&&V.lS n r
def V.nK:Nat->List (V×V)->Bool
 | _,[]=>true
 | n,(k,x)::r=>V.lvl n k&&V.lvl n x&&V.nK n r
end
mutual
def shut (m:Tb aL):Nat->SV->Option V
 | _,.v x=>some x
 | _,.own d=>match ai m d with
  | some (.sl k es xs)=>some (mA k es xs)
  | _=>none
 | n+1,.ptr d o=>match ai m d with
  | some (.box cs)=>match bW m n cs with
   | some xs=>if o<=xs.length then some (.fptr (xs.drop o))else none
   | none=>none
  | _=>none
 | _,.mp d=>match ai m d with
  | some (.mp kvs)=>some (.fmap kvs)
  | _=>none
 | n+1,.clo f a b=>match bW m n a,bW m n b with
  | some x,some y=>some (.clo f x y)
  | _,_=>none
 | n+1,.tup l=>(bW m n l).map .tup
 | n+1,.agg l=>(bW m n l).map .agg
 | _,_=>none
def bW (m:Tb aL):Nat->List SV->Option (List V)
 | _,[]=>some []
 | n,x::r=>match shut m n x,bW m n r with
  | some y,some s=>some (y::s)
  | _,_=>none
end
end Go.VE
namespace Go.VE
variable [aS]
mutual
def V.good:V->Bool
 | .hsl ..|.hptr ..|.yld ..|.hmap ..=>false
 | .fsl _ xs=>V.mX xs
 | .fptr cs=>V.bF cs
 | .fmap kvs=>V.qw kvs
 | .clo _ a b=>V.bF a&&V.bF b
 | .agg cs=>V.bF cs
 | .tup cs=>V.bF cs
 | _=>true
def V.bF:List V->Bool
 | []=>true
 | x::r=>V.good x&&V.bF r
def V.mX:List (List V)->Bool
 | []=>true
 | x::r=>V.bF x&&V.mX r
def V.qw:List (V×V)->Bool
 | []=>true
 | (k,x)::r=>V.good k&&V.good x&&V.qw r
end
abbrev gI:=Tb aL
abbrev bG:=FuncId->List SV->gI->Option (List SV×gI)
def oS (N:Nat->FuncId) (g:Tb SV):Arg->Option SV
 | .s n=>ai g n
 | .k c=>some (.v c)
 | .f s=>some (.v (.clo (N s) [] []))
def aW (N:Nat->FuncId) (g:Tb SV):List Arg->Option (List SV)
 | []=>some []
 | x::r=>match oS N g x,aW N g r with
  | some v,some vs=>some (v::vs)
  | _,_=>none
def bA:Fl->Bool
 | .row|.part=>true
 | _=>false
def jy (m:Tb aL):SV->Bool
 | .own d|.ptr d _|.el d _ _|.mp d=>(ai m d).isSome
 | .clo ..=>true
 | _=>false
def uO (m:Tb aL):SV->Bool
 | .v x=>x.one
 | x=>jy m x
def vE (m:Tb aL):SV->Option (List SV)
 | .v x=>some (x.cells.map .v)
 | .agg l=>some l
 | x=>if jy m x then some [x]else none
def qE (m:Tb aL) (cells:List SV):List (Nat×Nat)->List SV->Option (List SV)
 | [],[]=>some cells
 | (off,size)::pl,v::vs=>match vE m v with
  | some c=>if c.length=size/\off+c.length<=cells.length then qE m (cells.take off++c++cells.drop (off+c.length)) pl vs else none
  | none=>none
 | _,_=>none
def rV (size:Nat) (agg:Bool) (cs:List SV):Option SV:=
 if cs.length=size then
  if agg then match cV cs with
   | some xs=>some (.v (.agg xs))
   | none=>some (.agg cs)
  else match cs with
   | [x]=>some x
   | _=>none
 else none
def uB (N:Nat->FuncId) (m:Tb aL):tZ->List SV->Option SV
 | .id,[x]=>some x
 | .nilc,[.ptr d o]=>if(ai m d).isSome then some (.ptr d o)else none
 | .nilc,[.el d i o]=>if(ai m d).isSome then some (.el d i o)else none
 | .pick,[.v (.bool t),a,b]=>some (if t then a else b)
 | .bin (some .slice) _ .eql,[.own d,.v .aF]=>match ai m d with
  | some (.sl k _ _)=>if k=.emp then none else some (.v (.bool (k==.nil)))
  | _=>none
 | .bin (some .slice) _ .neq,[.own d,.v .aF]=>match ai m d with
  | some (.sl k _ _)=>if k=.emp then none else some (.v (.bool (!(k==.nil))))
  | _=>none
 | .fieldAddr off,[.ptr d o]=>if(ai m d).isSome then some (.ptr d (o+off))else none
 | .fieldAddr off,[.el d i o]=>if(ai m d).isSome then some (.el d i (o+off))else none
 | .idxS size,[.own d,.v (.int _ i)]=>match ai m d with
  | some (.sl k es xs)=>if bA k/\es=size/\0<=i/\i.toNat<xs.length then some (.el d i.toNat 0)else none
  | _=>none
 | .idxA len size,[.ptr d o,.v (.int _ i)]=>if 0<=i/\i<len/\(ai m d).isSome then some (.ptr d (o+i.toNat*size))else none
 | .idxA len size,[.el d j o,.v (.int _ i)]=>if 0<=i/\i<len/\(ai m d).isSome then some (.el d j (o+i.toNat*size))else none
 | .lenSl,[.own d]=>match ai m d with
  | some (.sl _ _ xs)=>some (.v (.int .i64 xs.length))
  | _=>none
 | .clo name k,vs=>some (.clo (N name) (vs.take k) (vs.drop k))
 | .ext i,[.tup l]=>l[i]?
 | .build zero pl,vs=>(qE m (zero.map .v) pl vs).map .agg
 | .field off size agg,[.agg l]=>rV size agg ((l.drop off).take size)
 | _,_=>none
def iI (N:Nat->FuncId) (m:Tb aL) (p:tZ) (svs:List SV):Option SV:=
 match cV svs with
 | some xs=>(aj N p xs).map .v
 | none=>uB N m p svs
def BA (m:Tb aL) (d:Nat):SV->Bool
 | .ptr d' _=>d' != d&&(match ai m d' with|some (.box _)=>true|_=>false)
 | .v (.fptr _)=>true
 | _=>false
def jc (m:Tb aL):Gu->List SV->Option SV
 | .load size agg,[.ptr d o]=>match ai m d with
  | some (.box cs)=>rV size agg ((cs.drop o).take size)
  | _=>none
 | .load size agg,[.el d i o]=>match ai m d with
  | some (.sl _ _ xs)=>match xs[i]? with
   | some cs=>((cut cs o size).bind (mk agg)).map .v
   | none=>none
  | _=>none
 | .load size agg,[.v p]=>((cN [] p size).bind (mk agg)).map .v
 | .lookup kk z ok,[.mp d,.v k]=>match ai m d with
  | some (.mp kvs)=>if oq kk k then match fK k kvs 0 with
   | some (some (_,v))=>some (.v (if ok then .tup [v,.bool true]else v))
   | some none=>some (.v (if ok then .tup [z,.bool false]else z))
   | none=>none
   else none
  | _=>none
 | .lookup kk z ok,[.v p,.v k]=>(dy [] (.lookup kk z ok) [p,k]).map .v
 | .loadF size agg,.ptr d o::l=>if l.all (BA m d)=true then match ai m d with
  | some (.box cs)=>rV size agg ((cs.drop o).take size)
  | _=>none
  else none
 | _,_=>none
def c6 (fr:List Nat):List SV->Bool
 | []=>true
 | .v _::r=>c6 fr r
 | .ptr d _::r => !(fr.contains d)&&c6 fr r
 | .el d _ _::r => !(fr.contains d)&&c6 fr r
 | .mp d::r => !(fr.contains d)&&c6 fr r
 | _=>false
def ni (m:Tb aL) (a:Jw) (svs:List SV) (d:Nat):Option (aL×SV):=
 match a,svs with
 | .alloc _ zero,[]=>some (.box (zero.map .v),.ptr d 0)
 | .box,[.v x]=>if x.cells.all V.one then some (.box (x.cells.map .v),.ptr d 0)else none
 | .box,[.agg l]=>if l.all (uO m)then some (.box l,.ptr d 0)else none
 | .box,[x]=>if jy m x then some (.box [x],.ptr d 0)else none
 | .makeSl size zero,[.v (.int k n),.v (.int k' c)]=>
  if k=.i64/\k'=.i64/\0<=n/\n<=c/\c<=2147483648 then some (.sl (if n=c then .row else .part) size (List.replicate n.toNat zero),.own d)else none
 | .buildSl size len zero idx,vs=>match cV vs with
  | some xs=>if idx.length=xs.length then(fE size (List.replicate len zero) (idx.zip xs)).map λys=>(.sl .row size ys,.own d)else none
  | none=>none
 | .makeMap,[]=>some (.mp [],.mp d)
 | _,_=>none
def jf (m:Tb aL) (size:Nat):SV->Option (List (List V))
 | .own d=>match ai m d with
  | some (.sl k es xs)=>if bA k then(if es=size then some xs else none)else some []
  | _=>none
 | .v .aF=>some []
 | .v .cI=>some []
 | .v (.fsl es xs)=>if es=size then some xs else none
 | _=>none
def zN:SV->Bool
 | .own _|.v .aF|.v .cI=>true
 | _=>false
def putCells (m:Tb aL) (size o:Nat) (sv:SV) (cs:List SV):Option (List SV):=
 match sv with
 | .v x=>if x.cells.length=size/\o+size<=cs.length/\x.cells.all V.one=true then some (cs.take o++x.cells.map .v++cs.drop (o+size))else none
 | .agg l=>if l.length=size/\o+size<=cs.length/\l.all (uO m)=true then some (cs.take o++l++cs.drop (o+size))else none
 | x=>if jy m x=true/\size=1/\o+1<=cs.length then some (cs.take o++[x]++cs.drop (o+1))else none
def giveUp (m:Tb aL):SV->Tb aL
 | .own d=>cM d m
 | _=>m
def lp (st:St) (dst:Option Nat):Gg->List SV->Option (SV×St)
 | .store size,[.ptr d o,x]=>match ai st.m d with
  | some (.box cs)=>(putCells st.m size o x cs).map λcs=>(.v .undef,{ st with m:=aO st.m d (.box cs) })
  | _=>none
 | .store size,[.el d i o,.v x]=>match ai st.m d with
  | some (.sl k es xs)=>match xs[i]? with
   | some cs=>if x.cells.length=size/\o+size<=cs.length/\x.cells.all V.one=true then
    some (.v .undef,{ st with m:=aO st.m d (.sl k es (xs.set i (cs.take o++x.cells++cs.drop (o+x.cells.length)))) })else none
   | none=>none
  | _=>none
 | .mapUp kk,[.mp d,.v k,.v x]=>match ai st.m d with
  | some (.mp kvs)=>if oq kk k then(ot k x kvs).map λkvs=>(.v .undef,{ st with m:=aO st.m d (.mp kvs) })else none
  | _=>none
 | .append size,[s,x]=>match jf st.m size s,jf st.m size x with
  | some _,some []=>match dst with
   | some t=>match s with
    | .own d=>match ai st.m d with
     | some ob=>if St.new { st with m:=cM d st.m } t then some (.own t,{ st with m:=aO (cM d st.m) t ob })else none
     | none=>none
    | .v .aF=>if st.new t then some (.own t,{ st with m:=aO st.m t (.sl .nil size []) })else none
    | .v .cI=>if st.new t then some (.own t,{ st with m:=aO st.m t (.sl .emp size []) })else none
    | _=>none
   | none=>none
  | some xs,some ys=>
   if xs.length+ys.length<=2147483648/\zN s=true then
    let m1:=giveUp st.m s
    match dst with
    | some t=>if St.new { st with m:=m1 } t then some (.own t,{ st with m:=aO m1 t (.sl .row size (xs++ys)) })else none
    | none=>none
   else none
  | _,_=>none
 | .storeF size,.ptr d o::x::l=>if l.all (BA st.m d)=true then match ai st.m d with
  | some (.box cs)=>(putCells st.m size o x cs).map λcs=>(.v .undef,{ st with m:=aO st.m d (.box cs) })
  | _=>none
  else none
 | _,_=>none
def wZ (st:St) (dst:Option Nat) (size:Nat) (lo hi:Bool) (d:Nat) (bs:List SV):Option (SV×St):=
 match ai st.m d,cV bs,dst with
 | some (.sl k es xs),some ys,some t=>
  if bA k=true/\es=size then
   (jK lo hi ys).bind λ(l,h)=>(cE xs.length l h).bind λ(l,h)=>
    let m1:=cM d st.m
    if St.new { st with m:=m1 } t then some (.own t,{ st with m:=aO m1 t (.sl .part es ((xs.take h).drop l)) })else none
  else none
 | _,_,_=>none
def Dv:List SV->SV
 | [x]=>x
 | l=>.tup l
def jQ (m:Tb aL):List SV->Option gI
 | []=>some []
 | .v _::r=>jQ m r
 | .own d::r=>match jQ m r,ai m d with
  | some os,some (.sl k es xs)=>some ((d,.sl k es xs)::os)
  | _,_=>none
 | .ptr d _::r=>match jQ m r,ai m d with
  | some os,some (.box cs)=>if(cV cs).isSome then some ((d,.box cs)::os)else none
  | _,_=>none
 | _=>none
def vr:aL->Bool
 | .box cs=>(cV cs).isSome
 | _=>true
def rL (m':gI):List Nat->Tb aL->Option (Tb aL)
 | [],m=>some m
 | d::r,m=>match ai m' d with
  | some ob=>if vr ob then rL m' r (aO m d ob)else none
  | none=>none
def mJ (xs:List (List V)):Bool:=xs.all λx=>x.all V.scalar
def zM (q:Cq) (dst:Option Nat) (args:List SV) (st:St):Option (SV×St):=
 match args with
 | .own d::vs=>match ai st.m d,cV vs with
  | some (.sl k es xs),some ys=>match q.go es xs ys with
   | some zs=>if q.part then match dst with
    | some t=>if St.new { st with m:=cM d st.m } t then some (.own t,{ st with m:=aO (cM d st.m) t (if bA k then .sl .part es zs else .sl k es xs) })else none
    | none=>none
    else some (.v .undef,{ st with m:=aO st.m d (if bA k then .sl k es zs else .sl k es xs) })
   | none=>none
  | _,_=>none
 | _=>none
def fQ (S:Sys) (c:bG) (dst:Option Nat) (dr now:Bool) (old:List SV->Bool) (f:FuncId) (args:List SV) (st:St):Option (SV×St):=
 if S.E.keep f then
  if now then
   if S.E.own f then
    match bW st.m 8 args with
    | some az=>if V.bU 8 az then
     match c f (az.map .v) []with
     | some (rs,m')=>match cV rs with
      | some ys=>if(result ys).scalar then some (.v (result ys),st)else none
      | none=>match rs,dst with
       | .own e::rest,some t=>match ai m' e,cV rest with
        | some (.sl .row es xs),some ys=>
         if V.bu ys&&mJ xs&&st.new t then
          some (Dv (.own t::ys.map .v),{ st with m:=aO st.m t (.sl .row es xs) })
         else none
        | some (.sl .nil es _),some ys=>if V.bu ys&&st.new t then some (Dv (.own t::ys.map .v),{ st with m:=aO st.m t (.sl .nil es []) })else none
        | some (.sl .emp es _),some ys=>if V.bu ys&&st.new t then some (Dv (.own t::ys.map .v),{ st with m:=aO st.m t (.sl .emp es []) })else none
        | _,_=>none
       | _,_=>none
     | none=>none
     else none
    | none=>none
   else if dr then none else match S.prm f with
    | some q=>zM q dst args st
    | none=>match jQ st.m args with
    | some os=>match c f args os with
     | some (rs,m')=>match cV rs,rL m' (os.map (·.1)) st.m with
      | some ys,some m2=>some (.v (result ys),{ st with m:=m2 })
      | _,_=>none
     | none=>none
    | none=>none
  else none
 else match bW st.m 8 args with
  | some az=>if V.bU 8 az&&(now||old args)then
   match c f (az.map .v) []with
   | some (rs,m')=>match bW m' 8 rs with
    | some ys=>if V.lvl 8 (result ys)&&((result ys).scalar||(cV args).isSome)then some (.v (result ys),st)else none
    | none=>none
   | none=>none
   else none
  | none=>none
def fA (m:Tb aL) (fr:List Nat) (args:List SV):Bool:=fr.all λd => !(SV.cu d args) && !(qP d m)
def uK:K->Bool
 | .p (.build zero _)=>V.bF zero
 | .r (.lookup _ z _)=>z.good
 | .a (.alloc _ zero)=>V.bF zero&&zero.all V.one
 | .a (.makeSl _ zero)=>V.bF zero
 | .a (.buildSl _ _ zero _)=>V.bF zero
 | _=>true
def mZ (S:Sys) (c:bG) (dr:Bool) (fr:List Nat) (o:RO) (st:St):Option (SV×St):=
 match aW S.N st.g o.az with
 | some svs=>match o.k with
  | .p (.slice size lo hi)=>match svs with
   | .own d::bs=>if dr then none else wZ st o.dst size lo hi d bs
   | svs=>(iI S.N st.m (.slice size lo hi) svs).map λx=>(x,st)
  | .p p=>(iI S.N st.m p svs).map λx=>(x,st)
  | .r r=>if !dr||o.now||c6 fr svs then(jc st.m r svs).map λx=>(x,st)else none
  | .a a=>match o.dst with
   | some d=>if st.new d then(ni st.m a svs d).map λ(ob,x)=>(x,{ st with m:=aO st.m d ob })else none
   | none=>none
  | .l l=>if !dr||o.now then lp st o.dst l svs else none
  | .c=>match svs with
   | .clo f a b::vs=>fQ S c o.dst dr (!dr||o.now) (fA st.m fr) f (a++vs++b) st
   | .v (.clo f a b)::vs=>fQ S c o.dst dr (!dr||o.now) (fA st.m fr) f (a.map .v++vs++b.map .v) st
   | _=>none
 | none=>none
def bV (st:St) (dst:Option Nat) (x:SV):St:=
 match dst with
 | none=>st
 | some d=>{ st with g:=aO st.g d x }
def wanted (g:Tb SV):Option (Nat×Bool)->Option Bool
 | none=>some true
 | some (s,b)=>match ai g s with
  | some (.v (.bool c))=>some (c==b)
  | some (.v _)=>some false
  | _=>none
def vX (o:RO):Option Nat:=
 match o.k with
 | .p _|.r _=>none
 | _=>o.dst
def pz (fr:List Nat) (o:RO):List Nat:=
 match vX o with
 | some d=>d::fr
 | none=>fr
end Go.VE
namespace Go.VE
variable [aS]
def an (H:ak) (id:Nat):Option (Nat×List (List V)):=(H[id]?).bind Ob.rows
mutual
theorem V.je:∀{x:V},x.good=true->x.closed=true
 | .hsl ..,h|.hptr ..,h|.yld _,h|.hmap _,h=>by simp[V.good]at h
 | .fsl ..,_|.fptr ..,_|.fmap ..,_=>rfl
 | .bool _,_|.int ..,_|.str _,_|.cI,_|.aF,_|.fD,_|.dY,_|.ql,_=>rfl
 | .clo _ a b,h=>by
  simp only[V.good,ζh]at h;simp only[V.closed,ζh];exact⟨V.lU h.1,V.lU h.2⟩
 | .agg cs,h=>by simp only[V.good]at h;simp only[V.closed];exact V.lU h
 | .tup cs,h=>by simp only[V.good]at h;simp only[V.closed];exact V.lU h
theorem V.lU:∀{l:List V},V.bF l=true->V.jF l=true
 | [],_=>rfl
 | x::r,h=>by
  simp only[V.bF,ζh]at h;simp only[V.jF,ζh];exact⟨V.je h.1,V.lU h.2⟩
end
theorem gA:∀{l:List V},V.bF l=true↔∀(j:Nat) u,l[j]? = some u->u.good=true
 | []=>by simp[V.bF]
 | x::l=>by
  simp only[V.bF,ζh,gA (l:=l)];constructor
  .rintro⟨h1,h2⟩ j u hu
   cases j with
   | zero=>simp at hu;subst hu;exact h1
   | succ j=>exact h2 j u (by simpa using hu)
  .intro h;exact⟨h 0 x rfl,λj u hu=>h (j+1) u (by simpa using hu)⟩
theorem kX:∀{l:List (List V)},V.mX l=true↔∀(j:Nat) u,l[j]? = some u->V.bF u=true
 | []=>by simp[V.mX]
 | x::l=>by
  simp only[V.mX,ζh,kX (l:=l)];constructor
  .rintro⟨h1,h2⟩ j u hu
   cases j with
   | zero=>simp at hu;subst hu;exact h1
   | succ j=>exact h2 j u (by simpa using hu)
  .intro h;exact⟨h 0 x rfl,λj u hu=>h (j+1) u (by simpa using hu)⟩
theorem CG:∀{l:List (V×V)},V.qw l=true↔∀(j:Nat) u,l[j]? = some u->u.1.good=true/\u.2.good=true
 | []=>by simp[V.qw]
 | (k,x)::l=>by
  simp only[V.qw,ζh,CG (l:=l)];constructor
  .rintro⟨h1,h2⟩ j u hu
   cases j with
   | zero=>simp at hu;subst hu;exact h1
   | succ j=>exact h2 j u (by simpa using hu)
  .intro h;exact⟨h 0 (k,x) rfl,λj u hu=>h (j+1) u (by simpa using hu)⟩
theorem vU {l:List V} (n:Nat) (h:V.bF l=true):V.bF (l.drop n)=true:=
 gA.2 λj u hu=>gA.1 h (n+j) u (by rw[List.getElem?_drop]at hu;exact hu)
inductive FR (H:ak) (Z:Nat->Prop):V->V->Prop
 | same (x:V) (h:x.good=true):FR H Z x x
 | fsl (es:Nat) (xs:List (List V)) (id off:Nat) (ys:List (List V)) (hz:Z id) (hr:an H id=some (es,ys)) (hl:off+xs.length<=ys.length)
  (hc:∀(i:Nat) a b,xs[i]? = some a->ys[off+i]? = some b->a.length=b.length)
  (hv:∀(i j:Nat) a b u v,xs[i]? = some a->ys[off+i]? = some b->a[j]? = some u->b[j]? = some v->FR H Z u v):FR H Z (.fsl es xs) (.hsl id es off xs.length)
 | fptr (xs:List V) (id el off es:Nat) (ys:List (List V)) (cs:List V) (hz:Z id) (hr:an H id=some (es,ys)) (he:ys[el]? = some cs) (ho:off<=cs.length) (hx:xs.length=cs.length-off)
  (hv:∀(j:Nat) u v,xs[j]? = some u->cs[off+j]? = some v->FR H Z u v):FR H Z (.fptr xs) (.hptr id el off)
 | clo (f:FuncId) (a b a' b':List V) (ha:a.length=a'.length) (hb:b.length=b'.length) (hva:∀(j:Nat) u v,a[j]? = some u->a'[j]? = some v->FR H Z u v) (hvb:∀(j:Nat) u v,b[j]? = some u->b'[j]? = some v->FR H Z u v):FR H Z (.clo f a b) (.clo f a' b')
 | agg (a a':List V) (ha:a.length=a'.length) (hva:∀(j:Nat) u v,a[j]? = some u->a'[j]? = some v->FR H Z u v):FR H Z (.agg a) (.agg a')
 | tup (a a':List V) (ha:a.length=a'.length) (hva:∀(j:Nat) u v,a[j]? = some u->a'[j]? = some v->FR H Z u v):FR H Z (.tup a) (.tup a')
def b9 (H:ak) (Z:Nat->Prop) (xs ys:List V):Prop:=xs.length=ys.length/\∀(j:Nat) u v,xs[j]? = some u->ys[j]? = some v->FR H Z u v
def eG (H:ak) (Z:Nat->Prop) (xs ys:List (List V)):Prop:=xs.length=ys.length/\∀(j:Nat) u v,xs[j]? = some u->ys[j]? = some v->b9 H Z u v
section
variable {H H':ak} {Z Z':Nat->Prop}
theorem FR.mono (h:∀id,Z id->Z' id/\an H' id=an H id) {x y:V} (r:FR H Z x y):FR H' Z' x y:=by
 induction r with
 | same x h=>exact .same x h
 | fsl es xs id off ys hz hr hl hc hv ih=>exact .fsl es xs id off ys (h id hz).1 (by rw[(h id hz).2];exact hr) hl hc ih
 | fptr xs id el off es ys cs hz hr he ho hx hv ih=>exact .fptr xs id el off es ys cs (h id hz).1 (by rw[(h id hz).2];exact hr) he ho hx ih
 | clo f a b a' b' ha hb hva hvb iha ihb=>exact .clo f a b a' b' ha hb iha ihb
 | agg a a' ha hva iha=>exact .agg a a' ha iha
 | tup a a' ha hva iha=>exact .tup a a' ha iha
theorem b9.mono (h:∀id,Z id->Z' id/\an H' id=an H id) {x y:List V} (r:b9 H Z x y):b9 H' Z' x y:=⟨r.1,λj u v a b=>(r.2 j u v a b).mono h⟩
theorem eG.mono (h:∀id,Z id->Z' id/\an H' id=an H id) {x y:List (List V)} (r:eG H Z x y):eG H' Z' x y:=⟨r.1,λj u v a b=>(r.2 j u v a b).mono h⟩
theorem b9.nil:b9 H Z [] []:=⟨rfl,by simp⟩
theorem b9.cons {x y:V} {xs ys:List V} (h:FR H Z x y) (r:b9 H Z xs ys):b9 H Z (x::xs) (y::ys):=by
 refine⟨by simp[r.1],λj u v hu hv=>?_⟩
 cases j with
 | zero=>simp at hu hv;subst hu;subst hv;exact h
 | succ j=>exact r.2 j u v (by simpa using hu) (by simpa using hv)
theorem b9.inv {x:V} {xs ws:List V} (r:b9 H Z (x::xs) ws):∃y ys,ws=y::ys/\FR H Z x y/\b9 H Z xs ys:=by
 cases ws with
 | nil=>have:=r.1;simp at this
 | cons y ys=>
  refine⟨y,ys,rfl,r.2 0 x y rfl rfl,by have:=r.1;simpa using this,λj u v hu hv=>r.2 (j+1) u v (by simpa using hu) (by simpa using hv)⟩
theorem b9.bO {ws:List V} (r:b9 H Z [] ws):ws=[]:=by
 have:=r.1;exact List.length_eq_zero_iff.1 this.symm
theorem b9.get {xs ys:List V} (r:b9 H Z xs ys) {j:Nat} {u:V} (h:xs[j]? = some u):∃v,ys[j]? = some v/\FR H Z u v:=by
 have hj:j<xs.length:=(ζe.1 h).1;have:j<ys.length:=by rw[<-r.1];exact hj
 exact⟨ys[j],ζd this,r.2 j u _ h (ζd this)⟩
theorem eG.get {xs ys:List (List V)} (r:eG H Z xs ys) {j:Nat} {u:List V} (h:xs[j]? = some u):∃v,ys[j]? = some v/\b9 H Z u v:=by
 have hj:j<xs.length:=(ζe.1 h).1;have:j<ys.length:=by rw[<-r.1];exact hj
 exact⟨ys[j],ζd this,r.2 j u _ h (ζd this)⟩
theorem b9.append {a b c d:List V} (h:b9 H Z a b) (k:b9 H Z c d):b9 H Z (a++c) (b++d):=by
 refine⟨by simp[h.1,k.1],λj u v hu hv=>?_⟩
 by_cases hj:j<a.length
 .rw[List.getElem?_append_left hj]at hu;rw[List.getElem?_append_left (by rw[<-h.1];exact hj)]at hv
  exact h.2 j u v hu hv
 .rw[List.getElem?_append_right (by omega)]at hu
  rw[List.getElem?_append_right (by rw[<-h.1];omega),<-h.1]at hv
  exact k.2 _ u v hu hv
theorem eG.append {a b c d:List (List V)} (h:eG H Z a b) (k:eG H Z c d):eG H Z (a++c) (b++d):=by
 refine⟨by simp[h.1,k.1],λj u v hu hv=>?_⟩
 by_cases hj:j<a.length
 .rw[List.getElem?_append_left hj]at hu;rw[List.getElem?_append_left (by rw[<-h.1];exact hj)]at hv
  exact h.2 j u v hu hv
 .rw[List.getElem?_append_right (by omega)]at hu
  rw[List.getElem?_append_right (by rw[<-h.1];omega),<-h.1]at hv
  exact k.2 _ u v hu hv
theorem b9.take {a b:List V} (h:b9 H Z a b) (n:Nat):b9 H Z (a.take n) (b.take n):=by
 refine⟨by simp[h.1],λj u v hu hv=>?_⟩
 rw[List.getElem?_take]at hu hv;split at hu
 .rename_i hj;rw[if_pos hj]at hv;exact h.2 j u v hu hv
 .simp at hu
theorem b9.drop {a b:List V} (h:b9 H Z a b) (n:Nat):b9 H Z (a.drop n) (b.drop n):=by
 refine⟨by simp[h.1],λj u v hu hv=>?_⟩
 rw[List.getElem?_drop]at hu hv;exact h.2 _ u v hu hv
theorem eG.take {a b:List (List V)} (h:eG H Z a b) (n:Nat):eG H Z (a.take n) (b.take n):=by
 refine⟨by simp[h.1],λj u v hu hv=>?_⟩
 rw[List.getElem?_take]at hu hv;split at hu
 .rename_i hj;rw[if_pos hj]at hv;exact h.2 j u v hu hv
 .simp at hu
theorem eG.drop {a b:List (List V)} (h:eG H Z a b) (n:Nat):eG H Z (a.drop n) (b.drop n):=by
 refine⟨by simp[h.1],λj u v hu hv=>?_⟩
 rw[List.getElem?_drop]at hu hv;exact h.2 _ u v hu hv
theorem b9.set {a b:List V} (h:b9 H Z a b) (n:Nat) {x y:V} (hx:FR H Z x y):b9 H Z (a.set n x) (b.set n y):=by
 refine⟨by simp[h.1],λj u v hu hv=>?_⟩
 rw[List.getElem?_set]at hu hv;rw[<-h.1]at hv;split at hu
 .rename_i e;rw[if_pos e]at hv;split at hu
  .rename_i e2;rw[if_pos e2]at hv;cases hu;cases hv;exact hx
  .simp at hu
 .rename_i e;rw[if_neg e]at hv;exact h.2 j u v hu hv
theorem eG.set {a b:List (List V)} (h:eG H Z a b) (n:Nat) {x y:List V} (hx:b9 H Z x y):eG H Z (a.set n x) (b.set n y):=by
 refine⟨by simp[h.1],λj u v hu hv=>?_⟩
 rw[List.getElem?_set]at hu hv;rw[<-h.1]at hv;split at hu
 .rename_i e;rw[if_pos e]at hv;split at hu
  .rename_i e2;rw[if_pos e2]at hv;cases hu;cases hv;exact hx
  .simp at hu
 .rename_i e;rw[if_neg e]at hv;exact h.2 j u v hu hv
theorem b9.same {l:List V} (h:V.bF l=true):b9 H Z l l:=
 ⟨rfl,λj u v hu hv=>by rw[hu]at hv;cases hv;exact .same u (gA.1 h j u hu)⟩
theorem FR.good {x y:V} (r:FR H Z x y):x.good=true:=by
 induction r with
 | same x h=>exact h
 | fsl es xs id off ys hz hr hl hc hv ih=>
  simp only[V.good];refine kX.2 λi a ha=>gA.2 λj u hu=>?_
  have hi:i<xs.length:=(ζe.1 ha).1;have hb:ys[off+i]? = some ys[off+i]:=ζd (by omega)
  have hj:j<(ys[off+i]).length:=by rw[<-hc i a _ ha hb];exact(ζe.1 hu).1
  exact ih i j a _ u _ ha hb hu (ζd hj)
 | fptr xs id el off es ys cs hz hr he ho hx hv ih=>
  simp only[V.good];refine gA.2 λj u hu=>?_
  have hj:j<xs.length:=(ζe.1 hu).1;exact ih j u _ hu (ζd (by omega))
 | clo f a b a' b' ha hb hva hvb iha ihb=>
  simp only[V.good,ζh];refine⟨gA.2 λj u hu=>?_,gA.2 λj u hu=>?_⟩
  .have:j<a'.length:=by rw[<-ha];exact(ζe.1 hu).1
   exact iha j u _ hu (ζd this)
  .have:j<b'.length:=by rw[<-hb];exact(ζe.1 hu).1
   exact ihb j u _ hu (ζd this)
 | agg a a' ha hva iha=>
  simp only[V.good];refine gA.2 λj u hu=>?_
  have:j<a'.length:=by rw[<-ha];exact(ζe.1 hu).1
  exact iha j u _ hu (ζd this)
 | tup a a' ha hva iha=>
  simp only[V.good];refine gA.2 λj u hu=>?_
  have:j<a'.length:=by rw[<-ha];exact(ζe.1 hu).1
  exact iha j u _ hu (ζd this)
theorem FR.closed {x y:V} (r:FR H Z x y):x.closed=true:=V.je r.good
theorem b9.good {xs ys:List V} (r:b9 H Z xs ys):V.bF xs=true:=
 gA.2 λj u hu=>by obtain⟨v,_,h⟩:=r.get hu;exact h.good
theorem eG.good {xs ys:List (List V)} (r:eG H Z xs ys):V.mX xs=true:=
 kX.2 λj u hu=>by obtain⟨v,_,h⟩:=r.get hu;exact h.good
theorem FR.bool {b:Bool} {y:V} (r:FR H Z (.bool b) y):y=.bool b:=by cases r;rfl
theorem FR.int {k:IntKind} {n:Int} {y:V} (r:FR H Z (.int k n) y):y=.int k n:=by cases r;rfl
theorem FR.str {s:ByteArray} {y:V} (r:FR H Z (.str s) y):y=.str s:=by cases r;rfl
theorem FR.cI {y:V} (r:FR H Z .cI y):y=.cI:=by cases r;rfl
theorem FR.aF {y:V} (r:FR H Z .aF y):y=.aF:=by cases r;rfl
theorem FR.fD {y:V} (r:FR H Z .fD y):y=.fD:=by cases r;rfl
theorem FR.dY {y:V} (r:FR H Z .dY y):y=.dY:=by cases r;rfl
theorem FR.ql {y:V} (r:FR H Z .ql y):y=.ql:=by cases r;rfl
theorem FR.fmap {kvs:List (V×V)} {y:V} (r:FR H Z (.fmap kvs) y):y=.fmap kvs:=by cases r;rfl
theorem FR.gn {a:List V} {y:V} (r:FR H Z (.agg a) y):∃a',y=.agg a'/\b9 H Z a a':=by
 cases r with
 | same _ h=>exact⟨a,rfl,.same (by simpa [V.good]using h)⟩
 | agg _ a' ha hva=>exact⟨a',rfl,ha,hva⟩
theorem FR.oB {a:List V} {y:V} (r:FR H Z (.tup a) y):∃a',y=.tup a'/\b9 H Z a a':=by
 cases r with
 | same _ h=>exact⟨a,rfl,.same (by simpa [V.good]using h)⟩
 | tup _ a' ha hva=>exact⟨a',rfl,ha,hva⟩
theorem FR.iL {f:FuncId} {a b:List V} {y:V} (r:FR H Z (.clo f a b) y):∃a' b',y=.clo f a' b'/\b9 H Z a a'/\b9 H Z b b':=by
 cases r with
 | same _ h=>
  simp only[V.good,ζh]at h;exact⟨a,b,rfl,.same h.1,.same h.2⟩
 | clo _ _ _ a' b' ha hb hva hvb=>exact⟨a',b',rfl,⟨ha,hva⟩,⟨hb,hvb⟩⟩
theorem FR.kj {es:Nat} {xs:List (List V)} {y:V} (r:FR H Z (.fsl es xs) y):y=.fsl es xs \/
 ∃id off ys,y=.hsl id es off xs.length/\Z id/\an H id=some (es,ys)/\off+xs.length<=ys.length/\eG H Z xs ((ys.drop off).take xs.length):=by
 cases r with
 | same _ h=>exact .inl rfl
 | fsl _ _ id off ys hz hr hl hc hv=>
  refine .inr ⟨id,off,ys,rfl,hz,hr,hl,by simp;omega,λj u v hu hv'=>?_⟩
  have hj:j<xs.length:=(ζe.1 hu).1;rw[List.getElem?_take,if_pos hj,List.getElem?_drop]at hv';exact⟨hc j u v hu hv',λi s t hs ht=>hv j i u v s t hu hv' hs ht⟩
theorem FR.GW {es:Nat} {xs:List (List V)} {id off:Nat} {ys:List (List V)} (hz:Z id) (hr:an H id=some (es,ys)) (hl:off+xs.length<=ys.length) (h:eG H Z xs ((ys.drop off).take xs.length)) :
 FR H Z (.fsl es xs) (.hsl id es off xs.length):=by
 have key:∀(i:Nat) a b,xs[i]? = some a->ys[off+i]? = some b->b9 H Z a b:=λi a b ha hb=>by
  have hj:i<xs.length:=(ζe.1 ha).1;refine h.2 i a b ha ?_;rw[List.getElem?_take,if_pos hj,List.getElem?_drop];exact hb
 exact .fsl es xs id off ys hz hr hl (λi a b ha hb=>(key i a b ha hb).1) (λi j a b u v ha hb hu hv=>(key i a b ha hb).2 j u v hu hv)
theorem FR.kC {xs:List V} {y:V} (r:FR H Z (.fptr xs) y):y=.fptr xs \/
 ∃id el off es ys cs,y=.hptr id el off/\Z id/\an H id=some (es,ys)/\ys[el]? = some cs/\off<=cs.length/\b9 H Z xs (cs.drop off):=by
 cases r with
 | same _ h=>exact .inl rfl
 | fptr _ id el off es ys cs hz hr he ho hx hv=>
  refine .inr ⟨id,el,off,es,ys,cs,rfl,hz,hr,he,ho,by simp[hx],λj u v hu hv'=>?_⟩
  rw[List.getElem?_drop]at hv';exact hv j u v hu hv'
theorem FR.Aq {xs:List V} {id el off es:Nat} {ys:List (List V)} {cs:List V} (hz:Z id) (hr:an H id=some (es,ys)) (he:ys[el]? = some cs) (ho:off<=cs.length) (h:b9 H Z xs (cs.drop off)):FR H Z (.fptr xs) (.hptr id el off):=
 .fptr xs id el off es ys cs hz hr he ho (by have:=h.1;simpa using this) (λj u v hu hv=>h.2 j u v hu (by rw[List.getElem?_drop];exact hv))
theorem FR.cells {x y:V} (r:FR H Z x y):b9 H Z x.cells y.cells:=by
 have one:∀{a b:V},FR H Z a b->b9 H Z [a] [b]:=λh=>.cons h .nil
 cases r with
 | same _ h=>cases x <;> first|exact one (.same _ h)|(simp only[V.good]at h;exact b9.same h)
 | fsl es xs id off ys hz hr hl hc hv=>exact one (.fsl es xs id off ys hz hr hl hc hv)
 | fptr xs id el off es ys cs hz hr he ho hx hv=>exact one (.fptr xs id el off es ys cs hz hr he ho hx hv)
 | clo f a b a' b' ha hb hva hvb=>exact one (.clo f a b a' b' ha hb hva hvb)
 | agg a a' ha hva=>exact⟨ha,hva⟩
 | tup a a' ha hva=>exact one (.tup a a' ha hva)
theorem FR.one {x y:V} (r:FR H Z x y):y.one=x.one:=by cases r <;> rfl
theorem b9.one:∀{xs ys:List V},b9 H Z xs ys->ys.all V.one=xs.all V.one
 | [],ys,r=>by rw[r.bO]
 | x::xs,ws,r=>by
  obtain⟨y,ys,rfl,h,r'⟩:=r.inv;simp only[List.all_cons,h.one,r'.one]
theorem pq:∀{l:List V},V.bu l=true↔∀(j:Nat) u,l[j]? = some u->u.scalar=true
 | []=>by simp[V.bu]
 | x::l=>by
  simp only[V.bu,ζh,pq (l:=l)];constructor
  .rintro⟨h1,h2⟩ j u hu
   cases j with
   | zero=>simp at hu;subst hu;exact h1
   | succ j=>exact h2 j u (by simpa using hu)
  .intro h;exact⟨h 0 x rfl,λj u hu=>h (j+1) u (by simpa using hu)⟩
theorem FR.scalar {x y:V} (r:FR H Z x y):(x.scalar=true->y=x)/\y.scalar=x.scalar:=by
 have key:∀(a a':List V),a.length=a'.length->(∀(j:Nat) u v,a[j]? = some u->a'[j]? = some v->(u.scalar=true->v=u)/\v.scalar=u.scalar)->(V.bu a=true->a'=a)/\V.bu a'=V.bu a:=by
  intro a a' ha ih;have h1:V.bu a=true->a'=a:=by
   intro hs;refine(List.ext_getElem ha λj h1 h2=>?_).symm
   exact(((ih j _ _ (ζd h1) (ζd h2)).1 (pq.1 hs j _ (ζd h1)))).symm
  refine⟨h1,?_⟩
  cases hs:V.bu a with
  | true=>rw[h1 hs];exact hs
  | false=>
   cases hs':V.bu a' with
   | false=>rfl
   | true=>
    have:V.bu a=true:=pq.2 λj u hu=>by
     have hj:j<a'.length:=by rw[<-ha];exact(ζe.1 hu).1
     have:=(ih j u _ hu (ζd hj)).2;rw[<-this];exact pq.1 hs' j _ (ζd hj)
    rw[this]at hs;cases hs
 induction r with
 | same x h=>exact⟨λ_=>rfl,rfl⟩
 | fsl=>exact⟨λh=>by simp[V.scalar]at h,rfl⟩
 | fptr=>exact⟨λh=>by simp[V.scalar]at h,rfl⟩
 | clo=>exact⟨λh=>by simp[V.scalar]at h,rfl⟩
 | agg a a' ha hva iha=>
  obtain⟨h1,h2⟩:=key a a' ha iha;exact⟨λh=>by rw[h1 (by simpa [V.scalar]using h)],by simpa [V.scalar]using h2⟩
 | tup a a' ha hva iha=>
  obtain⟨h1,h2⟩:=key a a' ha iha;exact⟨λh=>by rw[h1 (by simpa [V.scalar]using h)],by simpa [V.scalar]using h2⟩
theorem b9.scalar {a a':List V} (r:b9 H Z a a'):(V.bu a=true->a'=a)/\V.bu a'=V.bu a:=by
 obtain⟨h1,h2⟩:=FR.scalar (.tup a a' r.1 r.2:FR H Z (.tup a) (.tup a'));simp only[V.scalar]at h1 h2;exact⟨λh=>by have:=h1 h;cases this;rfl,h2⟩
theorem pM:∀{l:List V} {a:List Int},fS l=some a->V.bu l=true
 | [],_,_=>rfl
 | x::l,a,h=>by
  unfold fS at h;split at h
  .rename_i e;cases e
  .rename_i n r e;cases e;obtain⟨b,hb,_⟩:=ζf.1 h;simp only[V.bu,V.scalar,Bool.true_and];exact pM hb
  .simp at h
end
end Go.VE
namespace Go.VE
variable [aS]
section
variable {H H':ak} {Z Z':Nat->Prop}
theorem jx {f:V->Option V}:∀{xs ys:List V},xs.length=ys.length->(∀(j:Nat) u v,xs[j]? = some u->ys[j]? = some v->f v=some u)->iG f ys=some xs
 | [],[],_,_=>rfl
 | [],y::ys,h,_=>by simp at h
 | x::xs,[],h,_=>by simp at h
 | x::xs,y::ys,h,hf=>by
  simp only[iG,hf 0 x y rfl rfl,jx (xs:=xs) (ys:=ys) (by simpa using h) λj u v hu hv=>hf (j+1) u v (by simpa using hu) (by simpa using hv)]
theorem Ei {f:V->Option V}:∀{xs ys:List (List V)},xs.length=ys.length->(∀(j:Nat) u v,xs[j]? = some u->ys[j]? = some v->iG f v=some u)->rQ f ys=some xs
 | [],[],_,_=>rfl
 | [],y::ys,h,_=>by simp at h
 | x::xs,[],h,_=>by simp at h
 | x::xs,y::ys,h,hf=>by
  simp only[rQ,hf 0 x y rfl rfl,Ei (xs:=xs) (ys:=ys) (by simpa using h) λj u v hu hv=>hf (j+1) u v (by simpa using hu) (by simpa using hv)]
theorem nF:∀{l:List V},V.jF l=true↔∀(j:Nat) u,l[j]? = some u->u.closed=true
 | []=>by simp[V.jF]
 | x::l=>by
  simp only[V.jF,ζh,nF (l:=l)];constructor
  .rintro⟨h1,h2⟩ j u hu
   cases j with
   | zero=>simp at hu;subst hu;exact h1
   | succ j=>exact h2 j u (by simpa using hu)
  .intro h;exact⟨h 0 x rfl,λj u hu=>h (j+1) u (by simpa using hu)⟩
theorem mV:∀{l:List V} {n:Nat},V.bU n l=true↔∀(j:Nat) u,l[j]? = some u->u.lvl n=true
 | [],n=>by simp[V.bU]
 | x::l,n=>by
  simp only[V.bU,ζh,mV (l:=l)];constructor
  .rintro⟨h1,h2⟩ j u hu
   cases j with
   | zero=>simp at hu;subst hu;exact h1
   | succ j=>exact h2 j u (by simpa using hu)
  .intro h;exact⟨h 0 x rfl,λj u hu=>h (j+1) u (by simpa using hu)⟩
theorem CL:∀{l:List (List V)} {n:Nat},V.lS n l=true↔∀(j:Nat) u,l[j]? = some u->V.bU n u=true
 | [],n=>by simp[V.lS]
 | x::l,n=>by
  simp only[V.lS,ζh,CL (l:=l)];constructor
  .rintro⟨h1,h2⟩ j u hu
   cases j with
   | zero=>simp at hu;subst hu;exact h1
   | succ j=>exact h2 j u (by simpa using hu)
  .intro h;exact⟨h 0 x rfl,λj u hu=>h (j+1) u (by simpa using hu)⟩
theorem cQ (n:Nat) (H:ak) {x:V} (h:x.closed=true):borrow n H x=some x:=by
 cases n <;> simp[borrow,h]
theorem FR.borrow {x y:V} (r:FR H Z x y):∀n,x.lvl n=true->borrow n H y=some x:=by
 induction r with
 | same x h=>exact λn _=>cQ n H (V.je h)
 | fsl es xs id off ys hz hr hl hc hv ih=>
  intro n hn
  cases n with
  | zero=>simp[V.lvl]at hn
  | succ n=>
   simp only[V.lvl]at hn;unfold Go.VE.borrow;unfold an at hr;simp only[V.closed,Bool.false_eq_true,if_false,hr,true_and,if_pos hl,ζf,V.fsl.injEq];refine⟨xs,Ei (by simp;omega) λj u v hu hv'=>?_,rfl⟩
   have hj:j<xs.length:=(ζe.1 hu).1;rw[List.getElem?_take,if_pos hj,List.getElem?_drop]at hv';refine jx (hc j u v hu hv') λi s t hs ht=>ih j i u v s t hu hv' hs ht n (mV.1 (CL.1 hn j u hu) i s hs)
 | fptr xs id el off es ys cs hz hr he ho hx hv ih=>
  intro n hn
  cases n with
  | zero=>simp[V.lvl]at hn
  | succ n=>
   simp only[V.lvl]at hn;unfold Go.VE.borrow;unfold an at hr;simp only[V.closed,Bool.false_eq_true,if_false,hr,he,if_pos ho,ζf,V.fptr.injEq];refine⟨xs,jx (by simp[hx]) λj u v hu hv'=>?_,rfl⟩
   rw[List.getElem?_drop]at hv';exact ih j u v hu hv' n (mV.1 hn j u hu)
 | clo f a b a' b' ha hb hva hvb iha ihb=>
  intro n hn
  cases n with
  | zero=>simp[V.lvl]at hn
  | succ n=>
   simp only[V.lvl,ζh]at hn
   by_cases hcl:(V.clo f a' b').closed=true
   .rw[cQ _ _ hcl];simp only[V.closed,ζh]at hcl;have e1:a'=a:=by
     have:=jx (f:=Go.VE.borrow n H) ha λj u v hu hv=>iha j u v hu hv n (mV.1 hn.1 j u hu)
     have h2:=jx (f:=Go.VE.borrow n H) (xs:=a') (ys:=a') rfl λj u v hu hv=>by rw[hu]at hv;cases hv;exact cQ n H (nF.1 hcl.1 j u hu)
     rw[this]at h2;cases h2;rfl
    have e2:b'=b:=by
     have:=jx (f:=Go.VE.borrow n H) hb λj u v hu hv=>ihb j u v hu hv n (mV.1 hn.2 j u hu)
     have h2:=jx (f:=Go.VE.borrow n H) (xs:=b') (ys:=b') rfl λj u v hu hv=>by rw[hu]at hv;cases hv;exact cQ n H (nF.1 hcl.2 j u hu)
     rw[this]at h2;cases h2;rfl
    rw[e1,e2]
   .unfold Go.VE.borrow;rw[if_neg hcl];simp only[jx (f:=Go.VE.borrow n H) ha λj u v hu hv=>iha j u v hu hv n (mV.1 hn.1 j u hu),
     jx (f:=Go.VE.borrow n H) hb λj u v hu hv=>ihb j u v hu hv n (mV.1 hn.2 j u hu)]
 | agg a a' ha hva iha=>
  intro n hn
  cases n with
  | zero=>simp[V.lvl]at hn
  | succ n=>
   simp only[V.lvl]at hn;have hm:=jx (f:=Go.VE.borrow n H) ha λj u v hu hv=>iha j u v hu hv n (mV.1 hn j u hu)
   by_cases hcl:(V.agg a').closed=true
   .rw[cQ _ _ hcl];simp only[V.closed]at hcl;have h2:=jx (f:=Go.VE.borrow n H) (xs:=a') (ys:=a') rfl λj u v hu hv=>by rw[hu]at hv;cases hv;exact cQ n H (nF.1 hcl j u hu)
    rw[hm]at h2;cases h2;rfl
   .unfold Go.VE.borrow;rw[if_neg hcl];simp only[hm,Option.map_some]
 | tup a a' ha hva iha=>
  intro n hn
  cases n with
  | zero=>simp[V.lvl]at hn
  | succ n=>
   simp only[V.lvl]at hn;have hm:=jx (f:=Go.VE.borrow n H) ha λj u v hu hv=>iha j u v hu hv n (mV.1 hn j u hu)
   by_cases hcl:(V.tup a').closed=true
   .rw[cQ _ _ hcl];simp only[V.closed]at hcl;have h2:=jx (f:=Go.VE.borrow n H) (xs:=a') (ys:=a') rfl λj u v hu hv=>by rw[hu]at hv;cases hv;exact cQ n H (nF.1 hcl j u hu)
    rw[hm]at h2;cases h2;rfl
   .unfold Go.VE.borrow;rw[if_neg hcl];simp only[hm,Option.map_some]
theorem sA {f:V->List Nat} {k:Nat}:∀{l:List V},k∈cS f l->∃(j:Nat) (u:V),l[j]? = some u/\k∈f u
 | [],h=>by simp[cS]at h
 | x::l,h=>by
  simp only[cS,List.mem_append]at h;rcases h with h|h
  .exact⟨0,x,rfl,h⟩
  .obtain⟨j,u,hu,hk⟩:=sA h;exact⟨j+1,u,by simpa using hu,hk⟩
structure Deep (H:ak) (Z:Nat->Prop):Prop where
 row:∀id es ys,Z id->an H id=some (es,ys)->∀c∈ys,∀u∈c,∃x,FR H Z x u
theorem FR.b8 (hd:Deep H Z):∀(n:Nat) {x y:V},FR H Z x y->∀k∈b8 n H y,Z k
 | 0,x,y,r,k,hk=>by simp[Go.VE.b8]at hk
 | n+1,x,y,r,k,hk=>by
  unfold Go.VE.b8 at hk;split at hk
  .simp at hk
  .rename_i hcl;have pt:∀(a a':List V),b9 H Z a a'->k∈cS (Go.VE.b8 n H) a'->Z k:=λa a' h hk=>by
    obtain⟨j,u,hu,hku⟩:=sA hk;have hj:j<a.length:=by rw[h.1];exact(ζe.1 hu).1
    exact FR.b8 hd n (h.2 j _ u (ζd hj) hu) k hku
   have row:∀(id:Nat),Z id->k∈(match (H[id]?).bind Ob.rows with|some (_,xs)=>cS (Go.VE.b8 n H) xs.flatten|none=>[])->Z k:=λid hz hk=>by
    split at hk
    .rename_i es ys hr;obtain⟨j,u,hu,hku⟩:=sA hk;have hm:u∈ys.flatten:=List.mem_of_getElem? hu;obtain⟨c,hc,huc⟩:=List.mem_flatten.1 hm;obtain⟨x,hx⟩:=hd.row id es ys hz hr c hc u huc;exact FR.b8 hd n hx k hku
    .simp at hk
   cases r with
   | same _ h=>exact absurd (V.je h) hcl
   | fsl es xs id off ys hz hr hl hc hv=>
    simp only[List.mem_cons]at hk;rcases hk with rfl|hk
    .exact hz
    .exact row id hz hk
   | fptr xs id el off es ys cs hz hr he ho hx hv=>
    simp only[List.mem_cons]at hk;rcases hk with rfl|hk
    .exact hz
    .exact row id hz hk
   | clo f a b a' b' ha hb hva hvb=>
    simp only[List.mem_append]at hk;rcases hk with hk|hk
    .exact pt a a' ⟨ha,hva⟩ hk
    .exact pt b b' ⟨hb,hvb⟩ hk
   | agg a a' ha hva=>exact pt a a' ⟨ha,hva⟩ hk
   | tup a a' ha hva=>exact pt a a' ⟨ha,hva⟩ hk
theorem b9.cut {cs ys r:List V} {off n:Nat} (h:b9 H Z cs ys) (hc:cut cs off n=some r):∃r',Go.VE.cut ys off n=some r'/\b9 H Z r r':=by
 unfold Go.VE.cut at hc ⊢;have h2:=(h.drop off).take n;dsimp only at hc ⊢;split at hc
 .rename_i e;simp only[ζa]at hc;subst hc;exact⟨_,by rw[if_pos (by rw[<-h2.1];exact e)],h2⟩
 .simp at hc
theorem b9.mk {agg:Bool} {cs ys:List V} {x:V} (h:b9 H Z cs ys) (hm:mk agg cs=some x):∃y,Go.VE.mk agg ys=some y/\FR H Z x y:=by
 unfold Go.VE.mk at hm ⊢;split at hm
 .rename_i e;simp only[ζa]at hm;subst hm;exact⟨_,by rw[if_pos e],.agg _ _ h.1 h.2⟩
 .rename_i e;split at hm
  .simp only[ζa]at hm;subst hm;obtain⟨y,ys,rfl,h1,h2⟩:=h.inv;rw[h2.bO];exact⟨y,by rw[if_neg e],h1⟩
  .simp at hm
theorem b9.fill:∀{pl:List (Nat×Nat)} {vs ws cells cells' r:List V},b9 H Z cells cells'->b9 H Z vs ws->jd cells pl vs=some r->∃r',jd cells' pl ws=some r'/\b9 H Z r r'
 | [],vs,ws,cells,cells',r,hc,hv,h=>by
  cases vs with
  | nil=>rw[hv.bO];simp only[jd,ζa]at h ⊢;subst h;exact⟨_,rfl,hc⟩
  | cons v vs=>simp[jd]at h
 | (off,size)::pl,vs,ws,cells,cells',r,hc,hv,h=>by
  cases vs with
  | nil=>simp[jd]at h
  | cons v vs=>
   obtain⟨w,ws,rfl,h1,h2⟩:=hv.inv;have k:=h1.cells;simp only[jd]at h ⊢;rw[<-k.1,<-hc.1];split at h
   .simp at h
   .rename_i e;rw[if_neg e];exact b9.fill (((hc.take off).append k).append (hc.drop _)) h2 h
theorem FR.sj {k:KT} {x y x' y':V} {b:Bool} (hx:FR H Z x x') (hy:FR H Z y y') (h:nH k x y=some b):nH k x' y'=some b:=by
 unfold nH at h;split at h
 .rw[hx.aF,hy.aF];exact h
 .rw[hy.aF];rcases hx.kj with rfl|⟨_,_,_,rfl,_⟩ <;> exact h
 .exact absurd hx.closed (by simp[V.closed])
 .rw[hx.fD,hy.fD];exact h
 .rw[hy.fD];rcases hx.kC with rfl|⟨_,_,_,_,_,_,rfl,_⟩ <;> exact h
 .exact absurd hx.closed (by simp[V.closed])
 .rw[hx.dY,hy.dY];exact h
 .rw[hy.dY,hx.fmap];exact h
 .exact absurd hx.closed (by simp[V.closed])
 .simp at h
theorem FR.ji {a b a' b':List V} {r:Bool} (ha:b9 H Z a a') (hb:b9 H Z b b') (h:ji a b=some r):Go.VE.ji a' b'=some r:=by
 unfold Go.VE.ji at h;split at h
 .rename_i u v hu hv;rw[ha.scalar.1 (pM hu),hb.scalar.1 (pM hv)];unfold Go.VE.ji;rw[hu,hv];exact h
 .simp at h
theorem wR {k:KT} {x y:V} {b:Bool} (h:nH k x y=some b):(y=.aF/\(x=.aF\/(∃es xs,x=.fsl es xs)\/∃id es off len,x=.hsl id es off len)) \/
 (y=.fD/\(x=.fD\/(∃cs,x=.fptr cs)\/∃id el off,x=.hptr id el off))\/(y=.dY/\(x=.dY\/(∃kvs,x=.fmap kvs)\/∃id,x=.hmap id)):=by
 unfold nH at h
 (repeat' split at h) <;> first|(simp;done)|simp at h
theorem Eg {k:Option KT} {e:Option Nat} {op:BinOp} {x y:V} (hs:(y=.aF/\(x=.aF\/(∃es xs,x=.fsl es xs)\/∃id es off len,x=.hsl id es off len)) \/
 (y=.fD/\(x=.fD\/(∃cs,x=.fptr cs)\/∃id el off,x=.hptr id el off))\/(y=.dY/\(x=.dY\/(∃kvs,x=.fmap kvs)\/∃id,x=.hmap id))) :
 fB k e op x y=(match k,op with
 | some k,.eql=>(nH k x y).map .bool
 | some k,.neq=>(nH k x y).map λt=>.bool !t
 | _,_=>none):=by
 rcases hs with⟨rfl,rfl|⟨_,_,rfl⟩|⟨_,_,_,_,rfl⟩⟩|⟨rfl,rfl|⟨_,rfl⟩|⟨_,_,_,rfl⟩⟩|⟨rfl,rfl|⟨_,rfl⟩|⟨_,rfl⟩⟩ <;> cases k <;> cases op <;> rfl
theorem FJ {k:Option KT} {e:Option Nat} {op:BinOp} {x y z:V} (h:fB k e op x y=some z):z.good=true:=by
 have hb:∀{o:Option Bool} {z:V},o.map V.bool=some z->z.good=true:=λh=>by obtain⟨_,_,rfl⟩:=ζf.1 h;rfl
 have hb':∀{o:Option Bool} {z:V},(o.map λt=>V.bool !t)=some z->z.good=true:=λh=>by obtain⟨_,_,rfl⟩:=ζf.1 h;rfl
 unfold fB at h
 (repeat' split at h) <;> first|(simp only[ζa]at h;subst h;rfl)|exact hb h|exact hb' h|simp at h
theorem FR.bin {k:Option KT} {e:Option Nat} {op:BinOp} {x y x' y' z:V} (hx:FR H Z x x') (hy:FR H Z y y') (h:fB k e op x y=some z):fB k e op x' y'=some z:=by
 have h0:=h;unfold fB at h;split at h
 .rw[hx.int,hy.int];exact h0
 .rw[hx.str,hy.str];exact h0
 .rw[hx.bool,hy.bool];exact h0
 .obtain⟨a',rfl,ha⟩:=hx.gn;obtain⟨b',rfl,hb⟩:=hy.gn;split at h
  .split at h
   .rename_i hl;obtain⟨r,hr,rfl⟩:=ζf.1 h;simp only[fB,<-ha.1,hl,if_true,FR.ji ha hb hr,Option.map_some]
   .simp at h
  .split at h
   .rename_i hl;obtain⟨r,hr,rfl⟩:=ζf.1 h;simp only[fB,<-ha.1,hl,if_true,FR.ji ha hb hr,Option.map_some]
   .simp at h
  .simp at h
 .split at h
  .obtain⟨r,hr,rfl⟩:=ζf.1 h;have hr':=FR.sj hx hy hr;rw[Eg (wR hr')];dsimp only;rw[hr'];rfl
  .obtain⟨r,hr,rfl⟩:=ζf.1 h;have hr':=FR.sj hx hy hr;rw[Eg (wR hr')];dsimp only;rw[hr'];rfl
  .simp at h
theorem FR.slice {size:Nat} {x x' z:V} {l h:Option Int} (hx:FR H Z x x') (hs:fL size x l h=some z):∃z',fL size x' l h=some z'/\FR H Z z z':=by
 have hbd:∀{n lo hi:Nat},cE n l h=some (lo,hi)->hi<=n/\lo<=hi:=by
  intro n lo hi e;unfold cE at e;dsimp only at e;split at e
  .rename_i hc;simp only[ζa,ζc]at e;omega
  .simp at e
 unfold fL at hs;split at hs
 .rename_i es xs;split at hs
  .rename_i he;obtain⟨⟨lo,hi⟩,hb,rfl⟩:=ζf.1 hs;obtain⟨b1,b2⟩:=hbd hb;rcases hx.kj with rfl|⟨id,off,ys,rfl,hz,hr,hl,hf⟩
   .refine⟨_,by simp only[fL,if_pos he,hb,Option.map_some],.same _ ?_⟩
    have hg:=hx.good;simp only[V.good]at hg ⊢;refine kX.2 λj u hu=>?_
    rw[List.getElem?_drop,List.getElem?_take]at hu;split at hu
    .exact kX.1 hg _ u hu
    .simp at hu
   .refine⟨.hsl id es (off+lo) (hi-lo),by simp only[fL,if_pos he,hb,Option.map_some],?_⟩
    have hlen:((xs.take hi).drop lo).length=hi-lo:=by simp;omega
    rw[<-hlen];refine FR.GW hz hr (by rw[hlen];omega) ?_
    have:=(hf.take hi).drop lo;rw[hlen];have e:List.drop lo (List.take hi (List.take xs.length (List.drop off ys)))=List.take (hi-lo) (List.drop (off+lo) ys):=by
     rw[List.take_take,Nat.min_eq_left b1,List.drop_take,List.drop_drop]
    rw[e]at this;exact this
  .simp at hs
 .exact absurd hx.closed (by simp[V.closed])
 .rw[hx.cI];obtain⟨_,hb,rfl⟩:=ζf.1 hs;exact⟨.cI,by simp only[fL,hb,Option.map_some],.same _ rfl⟩
 .rw[hx.aF];obtain⟨_,hb,rfl⟩:=ζf.1 hs;exact⟨.aF,by simp only[fL,hb,Option.map_some],.same _ rfl⟩
 .simp at hs
theorem b9.jK {lo hi:Bool} {bs bs':List V} {r:Option Int×Option Int} (h:b9 H Z bs bs') (hb:jK lo hi bs=some r):Go.VE.jK lo hi bs'=some r:=by
 unfold Go.VE.jK at hb;split at hb
 .rw[h.bO];exact hb
 .obtain⟨_,_,rfl,h1,h2⟩:=h.inv;rw[h1.int,h2.bO];exact hb
 .obtain⟨_,_,rfl,h1,h2⟩:=h.inv;rw[h1.int,h2.bO];exact hb
 .obtain⟨_,_,rfl,h1,h2⟩:=h.inv;obtain⟨_,_,rfl,h3,h4⟩:=h2.inv;rw[h1.int,h3.int,h4.bO];exact hb
 .simp at hb
theorem b9.aj {N:Nat->FuncId} {p:tZ} {xs ys:List V} {z:V} (hz0:∀zero pl,p=.build zero pl->V.bF zero=true) (h:b9 H Z xs ys) (hp:aj N p xs=some z):∃z',Go.VE.aj N p ys=some z'/\FR H Z z z':=by
 unfold Go.VE.aj at hp;split at hp
 .
  obtain⟨y,_,rfl,h1,h2⟩:=h.inv;rw[h2.bO];simp only[ζa]at hp;subst hp;exact⟨y,rfl,h1⟩
 .
  rename_i t a b;obtain⟨w1,_,rfl,h1,h2⟩:=h.inv;obtain⟨w2,_,rfl,h3,h4⟩:=h2.inv;obtain⟨w3,_,rfl,h5,h6⟩:=h4.inv;rw[h1.bool,h6.bO];simp only[ζa]at hp;subst hp;refine⟨if t=true then w2 else w3,rfl,?_⟩;cases t
  .exact h5
  .exact h3
 .
  obtain⟨y,_,rfl,h1,h2⟩:=h.inv;rw[h2.bO];unfold IB at hp;split at hp
  .exact absurd h1.closed (by simp[V.closed])
  .simp only[ζa]at hp;subst hp;rcases h1.kC with rfl|⟨_,_,_,_,_,_,rfl,_⟩
   .exact⟨_,rfl,h1⟩
   .exact⟨_,rfl,h1⟩
  .simp only[ζa]at hp;subst hp;obtain⟨_,_,rfl,_⟩:=h1.iL;exact⟨_,rfl,h1⟩
  .simp at hp
 .
  obtain⟨_,_,rfl,h1,h2⟩:=h.inv;obtain⟨_,_,rfl,h3,h4⟩:=h2.inv;rw[h4.bO];exact⟨z,FR.bin h1 h3 hp,.same _ (FJ hp)⟩
 .obtain⟨_,_,rfl,h1,h2⟩:=h.inv;rw[h1.bool,h2.bO];simp only[ζa]at hp;subst hp;exact⟨_,rfl,.same _ rfl⟩
 .obtain⟨_,_,rfl,h1,h2⟩:=h.inv;rw[h1.int,h2.bO];simp only[ζa]at hp;subst hp;exact⟨_,rfl,.same _ rfl⟩
 .obtain⟨_,_,rfl,h1,h2⟩:=h.inv;rw[h1.int,h2.bO];simp only[ζa]at hp;subst hp;exact⟨_,rfl,.same _ rfl⟩
 .
  rename_i off p;obtain⟨y,_,rfl,h1,h2⟩:=h.inv;rw[h2.bO];unfold fG at hp;split at hp
  .split at hp
   .rename_i cs ho;simp only[ζa]at hp;subst hp;rcases h1.kC with rfl|⟨id,el,o,es,ys,ds,rfl,hz,hr,he,hle,hf⟩
    .have hg:=h1.good;simp only[V.good]at hg;exact⟨_,by simp only[Go.VE.aj,fG,if_pos ho],.same _ (by simp only[V.good];exact vU _ hg)⟩
    .refine⟨.hptr id el (o+off),rfl,FR.Aq hz hr he (by have:=hf.1;simp at this;omega) ?_⟩
     have:=hf.drop off;rw[List.drop_drop]at this;exact this
   .simp at hp
  .exact absurd h1.closed (by simp[V.closed])
  .simp at hp
 .
  rename_i off size agg cs;obtain⟨y,_,rfl,h1,h2⟩:=h.inv;rw[h2.bO];obtain⟨cs',rfl,hc⟩:=h1.gn;obtain⟨r,hr,hm⟩:=ζg.1 hp;obtain⟨r',hr',hrr⟩:=hc.cut hr;obtain⟨z',hz',hzz⟩:=hrr.mk hm;exact⟨z',by simp only[Go.VE.aj,hr',ζb,hz'],hzz⟩
 .
  rename_i size s k n;obtain⟨y,_,rfl,h1,h2⟩:=h.inv;obtain⟨_,_,rfl,h3,h4⟩:=h2.inv;rw[h3.int,h4.bO];unfold jV at hp;split at hp
  .simp at hp
  .rename_i hn;split at hp
   .rename_i es xs;split at hp
    .rename_i he;obtain⟨c,hc,rfl⟩:=ζf.1 hp;rcases h1.kj with rfl|⟨id,off,ys,rfl,hz,hr,hl,hf⟩
     .have hg:=h1.good;simp only[V.good]at hg;exact⟨_,by simp only[Go.VE.aj,jV,if_neg hn,if_pos he,hc,Option.map_some],.same _ (by simp only[V.good];exact kX.1 hg _ _ hc)⟩
     .have hj:n.toNat<xs.length:=(ζe.1 hc).1;obtain⟨d,hd,hcd⟩:=hf.get hc;rw[List.getElem?_take,if_pos hj,List.getElem?_drop]at hd;exact⟨.hptr id (off+n.toNat) 0,by simp only[Go.VE.aj,jV,if_neg hn,if_pos (And.intro he hj)],FR.Aq hz hr hd (by simp) (by simpa using hcd)⟩
    .simp at hp
   .exact absurd h1.closed (by simp[V.closed])
   .simp at hp
 .
  rename_i len size s k n;obtain⟨y,_,rfl,h1,h2⟩:=h.inv;obtain⟨_,_,rfl,h3,h4⟩:=h2.inv;rw[h3.int,h4.bO];unfold uI at hp;split at hp
  .rename_i hn;split at hp
   .split at hp
    .rename_i cs ho;simp only[ζa]at hp;subst hp;rcases h1.kC with rfl|⟨id,el,o,es,ys,ds,rfl,hz,hr,he,hle,hf⟩
     .have hg:=h1.good;simp only[V.good]at hg;exact⟨_,by simp only[Go.VE.aj,uI,if_pos hn,if_pos ho],.same _ (by simp only[V.good];exact vU _ hg)⟩
     .refine⟨.hptr id el (o+n.toNat*size),by simp only[Go.VE.aj,uI,if_pos hn],FR.Aq hz hr he (by have:=hf.1;simp at this;omega) ?_⟩
      have:=hf.drop (n.toNat*size);rw[List.drop_drop]at this;exact this
    .simp at hp
   .exact absurd h1.closed (by simp[V.closed])
   .simp at hp
  .simp at hp
 .
  rename_i s k n;obtain⟨y,_,rfl,h1,h2⟩:=h.inv;obtain⟨_,_,rfl,h3,h4⟩:=h2.inv;rw[h1.str,h3.int,h4.bO];split at hp
  .rename_i hn;obtain⟨c,hc,rfl⟩:=ζf.1 hp;exact⟨_,by simp only[Go.VE.aj,if_pos hn,hc,Option.map_some],.same _ rfl⟩
  .simp at hp
 .
  rename_i len size agg cs k n;obtain⟨y,_,rfl,h1,h2⟩:=h.inv;obtain⟨_,_,rfl,h3,h4⟩:=h2.inv;rw[h3.int,h4.bO];obtain⟨cs',rfl,hc⟩:=h1.gn;split at hp
  .rename_i hn;obtain⟨r,hr,hm⟩:=ζg.1 hp;obtain⟨r',hr',hrr⟩:=hc.cut hr;obtain⟨z',hz',hzz⟩:=hrr.mk hm;exact⟨z',by simp only[Go.VE.aj,if_pos hn,hr',ζb,hz'],hzz⟩
  .simp at hp
 .
  rename_i lo hi s bs;obtain⟨y,_,rfl,h1,h2⟩:=h.inv;rw[h1.str];obtain⟨⟨l,h'⟩,hb,hp⟩:=ζg.1 hp;obtain⟨⟨l2,h2'⟩,hb2,rfl⟩:=ζf.1 hp;exact⟨_,by simp only[Go.VE.aj,h2.jK hb,ζb,hb2,Option.map_some],.same _ rfl⟩
 .
  rename_i size lo hi s bs;obtain⟨y,_,rfl,h1,h2⟩:=h.inv;obtain⟨⟨l,h'⟩,hb,hp⟩:=ζg.1 hp;obtain⟨z',hz',hzz⟩:=FR.slice h1 hp;exact⟨z',by simp only[Go.VE.aj,h2.jK hb,ζb,hz'],hzz⟩
 .
  obtain⟨y,_,rfl,h1,h2⟩:=h.inv;obtain⟨_,_,rfl,h3,h4⟩:=h2.inv;obtain⟨_,_,rfl,h5,h6⟩:=h4.inv;rw[h3.int,h5.int,h6.bO];split at hp
  .rename_i hc;simp only[ζa]at hp;subst hp;refine⟨.cI,?_,.same _ rfl⟩;simp only[ζh]at hc;have:HK y=true:=by
    have h0:=hc.1.1;unfold HK at h0;split at h0
    .rcases h1.kj with rfl|⟨_,_,_,rfl,_⟩ <;> rfl
    .exact absurd h1.closed (by simp[V.closed])
    .rw[h1.cI];rfl
    .rw[h1.aF];rfl
    .simp at h0
   simp only[Go.VE.aj,this,hc.1.2,hc.2,Bool.and_self,if_true]
  .simp at hp
 .
  rename_i vs zero pl;obtain⟨r,hr,rfl⟩:=ζf.1 hp;obtain⟨r',hr',hrr⟩:=b9.fill (b9.same (hz0 zero pl rfl)) h hr;exact⟨.agg r',by simp only[Go.VE.aj,hr',Option.map_some],.agg _ _ hrr.1 hrr.2⟩
 .
  rename_i vs name k;simp only[ζa]at hp;subst hp;exact⟨_,rfl,.clo _ _ _ _ _ (h.take k).1 (h.drop k).1 (h.take k).2 (h.drop k).2⟩
 .
  rename_i i vs;obtain⟨y,_,rfl,h1,h2⟩:=h.inv;rw[h2.bO];obtain⟨ws,rfl,hw⟩:=h1.oB;obtain⟨z',hz',hzz⟩:=hw.get hp;exact⟨z',hz',hzz⟩
 .
  obtain⟨y,_,rfl,h1,h2⟩:=h.inv;rw[h1.str,h2.bO];simp only[ζa]at hp;subst hp;exact⟨_,rfl,.same _ rfl⟩
 .
  obtain⟨y,_,rfl,h1,h2⟩:=h.inv;rw[h2.bO];unfold mq at hp;split at hp
  .simp only[ζa]at hp;subst hp;rcases h1.kj with rfl|⟨_,_,_,rfl,_⟩ <;> exact⟨_,rfl,.same _ rfl⟩
  .exact absurd h1.closed (by simp[V.closed])
  .rw[h1.cI];simp only[ζa]at hp;subst hp;exact⟨_,rfl,.same _ rfl⟩
  .rw[h1.aF];simp only[ζa]at hp;subst hp;exact⟨_,rfl,.same _ rfl⟩
  .simp at hp
 .
  obtain⟨y,_,rfl,h1,h2⟩:=h.inv;rw[h2.bO];unfold E8 at hp;split at hp
  .rw[h1.aF];simp only[ζa]at hp;subst hp;exact⟨_,rfl,.same _ rfl⟩
  .rw[h1.cI];simp only[ζa]at hp;subst hp;exact⟨_,rfl,.same _ rfl⟩
  .simp at hp
 .
  obtain⟨_,_,rfl,h1,h2⟩:=h.inv;obtain⟨_,_,rfl,h3,h4⟩:=h2.inv;rw[h1.int,h3.int,h4.bO];split at hp
  .rename_i e;simp only[ζa]at hp;subst hp;exact⟨_,by simp only[Go.VE.aj,if_pos e],.same _ rfl⟩
  .simp at hp
 .
  obtain⟨_,_,rfl,h1,h2⟩:=h.inv;obtain⟨_,_,rfl,h3,h4⟩:=h2.inv;obtain⟨_,_,rfl,h5,h6⟩:=h4.inv;obtain⟨_,_,rfl,h7,h8⟩:=h6.inv;rw[h1.int,h3.int,h5.int,h7.int,h8.bO];split at hp
  .rename_i e;simp only[ζa]at hp;subst hp;exact⟨_,by simp only[Go.VE.aj,if_pos e],.same _ rfl⟩
  .simp at hp
 .
  obtain⟨_,_,rfl,h1,h2⟩:=h.inv;obtain⟨_,_,rfl,h3,h4⟩:=h2.inv;rw[h1.int,h3.int,h4.bO];split at hp
  .rename_i e;simp only[ζa]at hp;subst hp;exact⟨_,by simp only[Go.VE.aj,if_pos e],.same _ rfl⟩
  .simp at hp
 .simp at hp
end
end Go.VE
namespace Go.VE
variable [aS]
def qT (p:Nat×Nat) (k:Fl) (es len:Nat):V:=
 match k with
 | .nil=>.aF
 | .emp=>.cI
 | _=>.hsl p.1 es p.2 len
abbrev Nu:=Nat->Nat×Nat
inductive b_ (ν:Nu) (m:Tb aL) (H:ak) (Z:Nat->Prop):SV->V->Prop
 | v (x y:V) (h:FR H Z x y):b_ ν m H Z (.v x) y
 | own (d:Nat) (y:V) (h:∀ob,ai m d=some ob->∃k es xs,ob=.sl k es xs/\y=qT (ν d) k es xs.length):b_ ν m H Z (.own d) y
 | ptr (d o:Nat) (y:V) (h:∀ob,ai m d=some ob->∃cs,ob=.box cs/\y=.hptr (ν d).1 0 o):b_ ν m H Z (.ptr d o) y
 | el (d i o:Nat) (y:V) (h:∀ob,ai m d=some ob->∃k es xs,ob=.sl k es xs/\bA k=true/\y=.hptr (ν d).1 ((ν d).2+i) o):b_ ν m H Z (.el d i o) y
 | mp (d:Nat) (y:V) (h:∀ob,ai m d=some ob->∃kvs,ob=.mp kvs/\y=.hmap (ν d).1):b_ ν m H Z (.mp d) y
 | clo (f:FuncId) (a b:List SV) (a' b':List V) (ha:a.length=a'.length) (hb:b.length=b'.length)
  (hva:∀(j:Nat) u v,a[j]? = some u->a'[j]? = some v->b_ ν m H Z u v) (hvb:∀(j:Nat) u v,b[j]? = some u->b'[j]? = some v->b_ ν m H Z u v):b_ ν m H Z (.clo f a b) (.clo f a' b')
 | tup (a:List SV) (a':List V) (ha:a.length=a'.length) (hva:∀(j:Nat) u v,a[j]? = some u->a'[j]? = some v->b_ ν m H Z u v):b_ ν m H Z (.tup a) (.tup a')
 | agg (a:List SV) (a':List V) (ha:a.length=a'.length) (hva:∀(j:Nat) u v,a[j]? = some u->a'[j]? = some v->b_ ν m H Z u v):b_ ν m H Z (.agg a) (.agg a')
 | yl (id:Nat):b_ ν m H Z (.yl id) (.yld id)
def bf (ν:Nu) (m:Tb aL) (H:ak) (Z:Nat->Prop) (xs:List SV) (ys:List V):Prop:=xs.length=ys.length/\∀(j:Nat) u v,xs[j]? = some u->ys[j]? = some v->b_ ν m H Z u v
def bM:aL->Bool
 | .sl k _ _=>bA k
 | _=>true
def dW (ν:Nu) (m:Tb aL) (id:Nat):Prop:=∃d ob,ai m d=some ob/\bM ob=true/\(ν d).1=id
def s7 (H:ak) (Z:Nat->Prop) (ys:List (List V)):Prop:=∀c∈ys,∀u∈c,∃x,FR H Z x u
def AK (H:ak) (Z:Nat->Prop) (a b:List (V×V)):Prop:=a.length=b.length/\∀(j:Nat) u v,a[j]? = some u->b[j]? = some v->(u.1=v.1/\u.1.scalar=true)/\FR H Z u.2 v.2
def cZ (ν:Nu) (m:Tb aL) (H:ak) (Z:Nat->Prop) (d:Nat):aL->Prop
 | .sl k es xs=>if bA k then ∃ys,H[(ν d).1]? = some (.row es ys)/\(ν d).2+xs.length<=ys.length/\eG H Z xs ((ys.drop (ν d).2).take xs.length)/\s7 H Z ys/\(k=.row->(ν d).2=0/\ys.length=xs.length)
  else xs=[]
 | .box cs=>∃es cs',H[(ν d).1]? = some (.row es [cs'])/\bf ν m H Z cs cs'/\cs'.all V.one=true
 | .mp kvs=>∃kvs',H[(ν d).1]? = some (.map kvs')/\AK H Z kvs kvs'
structure R (ν:Nu) (Z:Nat->Prop) (st:St) (F:Frame) (H:ak):Prop where
 slot:∀s sv,ai st.g s=some sv->b_ ν st.m H Z sv (get F s)
 obj:∀d ob,ai st.m d=some ob->cZ ν st.m H Z d ob
 inj:∀d d' ob ob',ai st.m d=some ob->ai st.m d'=some ob'->bM ob=true->bM ob'=true->(ν d).1=(ν d').1->d=d'
 apart:∀d ob,ai st.m d=some ob->bM ob=true->¬Z (ν d).1
 zrow:∀id,Z id->(an H id).isSome=true
 deep:Deep H Z
def sameShape:aL->aL->Prop
 | .sl k es xs,.sl k' es' xs'=>k'=k/\es'=es/\xs'.length=xs.length
 | .box _,.box _=>True
 | .mp _,.mp _=>True
 | _,_=>False
theorem sameShape.refl (o:aL):sameShape o o:=by cases o <;> simp[sameShape]
theorem sameShape.trans {a b c:aL} (h:sameShape a b) (k:sameShape b c):sameShape a c:=by
 cases a <;> cases b <;> cases c <;> simp[sameShape]at*<;> simp_all
structure Ev (Rv:Nat->Prop) (ν:Nu) (Z:Nat->Prop) (st:St) (H:ak) (ν':Nu) (Z':Nat->Prop) (st':St) (H':ak):Prop where
 len:H.length<=H'.length
 same:∀id,id<H.length->¬dW ν st.m id->¬Z id->¬Rv id->H'[id]? = H[id]?
 rows:∀id,Z id->Z' id/\an H' id=an H id
 own:∀id,dW ν' st'.m id->dW ν st.m id\/Rv id\/H.length<=id
 frz:∀id,Z' id->Z id\/dW ν st.m id\/Rv id\/H.length<=id
 pin:∀d∈st.pin,∀ob',ai st'.m d=some ob'->∃ob,ai st.m d=some ob/\ν' d=ν d/\sameShape ob ob'
 pins:st'.pin=st.pin
section
variable {Rv Rv':Nat->Prop} {ν ν' ν2:Nu} {Z Z' Z2:Nat->Prop} {st st' st2:St} {m m':Tb aL} {F F':Frame} {H H' H2:ak}
theorem Ev.refl:Ev Rv ν Z st H ν Z st H:=
 ⟨Nat.le_refl _,λ_ _ _ _ _=>rfl,λ_ h=>⟨h,rfl⟩,λ_ h=>.inl h,λ_ h=>.inl h,λ_ _ ob' h=>⟨ob',h,rfl,.refl _⟩,rfl⟩
theorem Ev.trans (a:Ev Rv ν Z st H ν' Z' st' H') (b:Ev Rv ν' Z' st' H' ν2 Z2 st2 H2):Ev Rv ν Z st H ν2 Z2 st2 H2 where
 len:=Nat.le_trans a.len b.len
 same:=λid hl ho hz hr=>by
  rw[b.same id (Nat.lt_of_lt_of_le hl a.len) (λh=>(a.own id h).elim ho λh=>h.elim hr λh=>by omega) (λh=>(a.frz id h).elim hz λh=>h.elim ho λh=>h.elim hr λh=>by omega) hr,a.same id hl ho hz hr]
 rows:=λid h=>⟨(b.rows id (a.rows id h).1).1,by rw[(b.rows id (a.rows id h).1).2,(a.rows id h).2]⟩
 own:=λid h=>by
  rcases b.own id h with h|h|h
  .exact a.own id h
  .exact .inr (.inl h)
  .exact .inr (.inr (Nat.le_trans a.len h))
 frz:=λid h=>by
  rcases b.frz id h with h|h|h|h
  .exact a.frz id h
  .rcases a.own id h with h|h|h
   .exact .inr (.inl h)
   .exact .inr (.inr (.inl h))
   .exact .inr (.inr (.inr h))
  .exact .inr (.inr (.inl h))
  .exact .inr (.inr (.inr (Nat.le_trans a.len h)))
 pin:=λd hd ob2 h=>by
  obtain⟨ob1,h1,h2,h3⟩:=b.pin d (by rw[a.pins];exact hd) ob2 h
  obtain⟨ob,k1,k2,k3⟩:=a.pin d hd ob1 h1;exact⟨ob,k1,by rw[h2,k2],k3.trans h3⟩
 pins:=by rw[b.pins,a.pins]
theorem Ev.weak (h:∀id,Rv id->Rv' id) (a:Ev Rv ν Z st H ν' Z' st' H'):Ev Rv' ν Z st H ν' Z' st' H':=
 ⟨a.len,λid hl ho hz hr=>a.same id hl ho hz (λk=>hr (h id k)),a.rows,λid k=>(a.own id k).imp (λx=>x) (.imp (h id) (λx=>x)),λid k=>(a.frz id k).imp (λx=>x) (.imp (λx=>x) (.imp (h id) (λx=>x))),a.pin,a.pins⟩
theorem bK {α:Type}:∀(g:Tb α) (n:Nat) (v:α),ai (aO g n v) n=some v
 | [],n,v=>by simp[aO,ai]
 | (k,x)::r,n,v=>by
  simp only[aO];split
  .rename_i h;simp[ai,h]
  .rename_i h;simp[ai,h,bK r n v]
theorem cT {α:Type}:∀(g:Tb α) {n k:Nat} (v:α),n≠k->ai (aO g n v) k=ai g k
 | [],n,k,v,h=>by simp[aO,ai,h]
 | (j,x)::r,n,k,v,h=>by
  simp only[aO];split
  .rename_i hk;subst hk;simp[ai,h]
  .simp only[ai];split
   .rfl
   .exact cT r v h
theorem qo {α:Type}:∀{g:Tb α} {n:Nat} {v:α},ai g n=some v->aO g n v=g
 | [],n,v,h=>by cases h
 | (k,x)::r,n,v,h=>by
  simp only[ai]at h;simp only[aO];split
  .rename_i e;rw[if_pos e]at h;cases h;subst e;rfl
  .rename_i e;rw[if_neg e]at h;rw[qo h]
theorem tO {α:Type}:∀(g:Tb α) (n:Nat),ai (cM n g) n=none
 | [],n=>rfl
 | (k,x)::r,n=>by
  simp only[cM];split
  .exact tO r n
  .rename_i hk;simp only[ai];rw[if_neg hk];exact tO r n
theorem tX {α:Type}:∀(g:Tb α) {n k:Nat},n≠k->ai (cM n g) k=ai g k
 | [],n,k,h=>rfl
 | (j,x)::r,n,k,h=>by
  simp only[cM];split
  .rename_i hk;subst hk;simp only[ai];rw[if_neg h];exact tX r h
  .simp only[ai];split
   .rfl
   .exact tX r h
theorem n9 {α:Type} {g:Tb α} {n k:Nat} {v:α} (h:ai (cM n g) k=some v):n≠k/\ai g k=some v:=by
 by_cases e:n=k
 .subst e;rw[tO]at h;simp at h
 .rw[tX g e]at h;exact⟨e,h⟩
theorem sY {α:Type} {k:Nat} {v:α}:∀{ds:List Nat} {g:Tb α},ai (uh ds g) k=some v->ai g k=some v
 | [],_,h=>h
 | d::ds,g,h=>(n9 (sY (ds:=ds) h)).2
theorem oI {α:Type} {g:Tb α} {k:Nat} {v:α}:∀{l:List Nat} {r:Tb α},yE g l=some r->ai r k=some v->ai g k=some v
 | [],r,h,h2=>by simp only[yE,ζa]at h;subst h;simp[ai]at h2
 | n::l,r,h,h2=>by
  simp only[yE]at h;split at h
  .rename_i w t h3 h4;simp only[ζa]at h;subst h;simp only[ai]at h2;split at h2
   .rename_i e;subst e;rw[h3];exact h2
   .exact oI h4 h2
  .simp at h
theorem wh {d:Nat}:∀{g:Tb SV} {s:Nat} {sv:SV},tn d g=false->ai g s=some sv->sv.bQ d=false
 | [],_,_,_,h=>by simp[ai]at h
 | (k,x)::r,s,sv,h,h2=>by
  simp only[tn,Bool.or_eq_false_iff]at h;simp only[ai]at h2;split at h2
  .simp only[ζa]at h2;subst h2;exact h.1
  .exact wh h.2 h2
theorem vO {d:Nat}:∀{g:Tb aL} {s:Nat} {ob:aL},qP d g=false->ai g s=some ob->ob.bQ d=false
 | [],_,_,_,h=>by simp[ai]at h
 | (k,x)::r,s,sv,h,h2=>by
  simp only[qP,Bool.or_eq_false_iff]at h;simp only[ai]at h2;split at h2
  .simp only[ζa]at h2;subst h2;exact h.1
  .exact vO h.2 h2
theorem rq {d:Nat}:∀{l:List SV} {j:Nat} {u:SV},SV.cu d l=false->l[j]? = some u->u.bQ d=false
 | [],_,_,_,h=>by simp at h
 | x::r,j,u,h,h2=>by
  simp only[SV.cu,Bool.or_eq_false_iff]at h
  cases j with
  | zero=>simp at h2;subst h2;exact h.1
  | succ j=>exact rq h.2 (by simpa using h2)
theorem qj {d:Nat}:∀{l:List SV} {j:Nat} {u:SV},l[j]? = some u->u.bQ d=true->SV.cu d l=true
 | [],_,_,h,_=>by simp at h
 | x::r,j,u,h,h2=>by
  simp only[SV.cu,Bool.or_eq_true]
  cases j with
  | zero=>simp at h;subst h;exact .inl h2
  | succ j=>exact .inr (qj (j:=j) (by simpa using h) h2)
theorem b_.mono {sv:SV} {y:V} (hz:∀id,Z id->Z' id/\an H' id=an H id)
 (r:b_ ν m H Z sv y) (hn:∀d,sv.bQ d=true->∀ob',ai m' d=some ob'->∃ob,ai m d=some ob/\ν' d=ν d/\sameShape ob ob'):b_ ν' m' H' Z' sv y:=by
 induction r with
 | v x y h=>exact .v x y (h.mono hz)
 | own d y h=>
  refine .own d y λob' ho=>?_
  obtain⟨ob,h1,h2,h3⟩:=hn d (by simp[SV.bQ]) ob' ho
  obtain⟨k,es,xs,rfl,rfl⟩:=h ob h1;cases ob' <;> simp only[sameShape]at h3;obtain⟨rfl,rfl,h5⟩:=h3;exact⟨_,_,_,rfl,by rw[h2,h5]⟩
 | ptr d o y h=>
  refine .ptr d o y λob' ho=>?_
  obtain⟨ob,h1,h2,h3⟩:=hn d (by simp[SV.bQ]) ob' ho
  obtain⟨cs,rfl,rfl⟩:=h ob h1;cases ob' <;> simp only[sameShape]at h3;exact⟨_,rfl,by rw[h2]⟩
 | el d i o y h=>
  refine .el d i o y λob' ho=>?_
  obtain⟨ob,h1,h2,h3⟩:=hn d (by simp[SV.bQ]) ob' ho
  obtain⟨k,es,xs,rfl,h4,rfl⟩:=h ob h1;cases ob' <;> simp only[sameShape]at h3;obtain⟨rfl,rfl,h5⟩:=h3;exact⟨_,_,_,rfl,h4,by rw[h2]⟩
 | mp d y h=>
  refine .mp d y λob' ho=>?_
  obtain⟨ob,h1,h2,h3⟩:=hn d (by simp[SV.bQ]) ob' ho
  obtain⟨cs,rfl,rfl⟩:=h ob h1;cases ob' <;> simp only[sameShape]at h3;exact⟨_,rfl,by rw[h2]⟩
 | clo f a b a' b' ha hb hva hvb iha ihb=>
  exact .clo f a b a' b' ha hb (λj u v hu hv=>iha j u v hu hv λd hd=>hn d (by simp[SV.bQ,qj hu hd])) (λj u v hu hv=>ihb j u v hu hv λd hd=>hn d (by simp[SV.bQ,qj hu hd]))
 | tup a a' ha hva iha=>
  exact .tup a a' ha (λj u v hu hv=>iha j u v hu hv λd hd=>hn d (by simp[SV.bQ,qj hu hd]))
 | agg a a' ha hva iha=>
  exact .agg a a' ha (λj u v hu hv=>iha j u v hu hv λd hd=>hn d (by simp[SV.bQ,qj hu hd]))
 | yl id=>exact .yl id
theorem bf.mono {sv:List SV} {y:List V} (hz:∀id,Z id->Z' id/\an H' id=an H id)
 (r:bf ν m H Z sv y) (hn:∀d,SV.cu d sv=true->∀ob',ai m' d=some ob'->∃ob,ai m d=some ob/\ν' d=ν d/\sameShape ob ob'):bf ν' m' H' Z' sv y:=
 ⟨r.1,λj u v hu hv=>(r.2 j u v hu hv).mono hz λd hd=>hn d (qj hu hd)⟩
theorem bf.nil:bf ν m H Z [] []:=⟨rfl,by simp⟩
theorem bf.cons {x:SV} {y:V} {xs:List SV} {ys:List V} (h:b_ ν m H Z x y) (r:bf ν m H Z xs ys):bf ν m H Z (x::xs) (y::ys):=by
 refine⟨by simp[r.1],λj u v hu hv=>?_⟩
 cases j with
 | zero=>simp at hu hv;subst hu;subst hv;exact h
 | succ j=>exact r.2 j u v (by simpa using hu) (by simpa using hv)
theorem bf.inv {x:SV} {xs:List SV} {ws:List V} (r:bf ν m H Z (x::xs) ws):∃y ys,ws=y::ys/\b_ ν m H Z x y/\bf ν m H Z xs ys:=by
 cases ws with
 | nil=>have:=r.1;simp at this
 | cons y ys=>
  refine⟨y,ys,rfl,r.2 0 x y rfl rfl,by have:=r.1;simpa using this,λj u v hu hv=>r.2 (j+1) u v (by simpa using hu) (by simpa using hv)⟩
theorem bf.bO {ws:List V} (r:bf ν m H Z [] ws):ws=[]:=by
 have:=r.1;exact List.length_eq_zero_iff.1 this.symm
theorem bf.get {xs:List SV} {ys:List V} (r:bf ν m H Z xs ys) {j:Nat} {u:SV} (h:xs[j]? = some u):∃v,ys[j]? = some v/\b_ ν m H Z u v:=by
 have hj:j<xs.length:=(ζe.1 h).1;have:j<ys.length:=by rw[<-r.1];exact hj
 exact⟨ys[j],ζd this,r.2 j u _ h (ζd this)⟩
theorem bf.append {a c:List SV} {b d:List V} (h:bf ν m H Z a b) (k:bf ν m H Z c d):bf ν m H Z (a++c) (b++d):=by
 refine⟨by simp[h.1,k.1],λj u v hu hv=>?_⟩
 by_cases hj:j<a.length
 .rw[List.getElem?_append_left hj]at hu;rw[List.getElem?_append_left (by rw[<-h.1];exact hj)]at hv
  exact h.2 j u v hu hv
 .rw[List.getElem?_append_right (by omega)]at hu
  rw[List.getElem?_append_right (by rw[<-h.1];omega),<-h.1]at hv
  exact k.2 _ u v hu hv
theorem bf.take {a:List SV} {b:List V} (h:bf ν m H Z a b) (n:Nat):bf ν m H Z (a.take n) (b.take n):=by
 refine⟨by simp[h.1],λj u v hu hv=>?_⟩
 rw[List.getElem?_take]at hu hv;split at hu
 .rename_i hj;rw[if_pos hj]at hv;exact h.2 j u v hu hv
 .simp at hu
theorem bf.drop {a:List SV} {b:List V} (h:bf ν m H Z a b) (n:Nat):bf ν m H Z (a.drop n) (b.drop n):=by
 refine⟨by simp[h.1],λj u v hu hv=>?_⟩
 rw[List.getElem?_drop]at hu hv;exact h.2 _ u v hu hv
theorem b_.fr {x y:V} (r:b_ ν m H Z (.v x) y):FR H Z x y:=by cases r;assumption
theorem bf.pH {xs ys:List V} (r:b9 H Z xs ys):bf ν m H Z (xs.map .v) ys:=by
 refine⟨by simp[r.1],λj u v hu hv=>?_⟩
 rw[List.getElem?_map,ζf]at hu;obtain⟨x,hx,rfl⟩:=hu;exact .v x v (r.2 j x v hx hv)
theorem qg:∀{svs:List SV} {xs:List V},cV svs=some xs->svs=xs.map .v
 | [],xs,h=>by simp only[cV,ζa]at h;subst h;rfl
 | x::r,xs,h=>by
  cases x <;> simp only[cV]at h <;> first|simp at h;done|skip
  obtain⟨t,ht,rfl⟩:=ζf.1 h;rw[qg ht];rfl
theorem bf.QJ {xs ys:List V} (r:bf ν m H Z (xs.map .v) ys):b9 H Z xs ys:=by
 refine⟨by have:=r.1;simpa using this,λj u v hu hv=>?_⟩
 have:(xs.map SV.v)[j]? = some (.v u):=by rw[List.getElem?_map,hu];rfl
 exact(r.2 j _ v this hv).fr
end
end Go.VE
namespace Go.VE
variable [aS]
section
variable {ν:Nu} {Z:Nat->Prop} {st:St} {m:Tb aL} {F:Frame} {H H1:ak} {N:Nat->FuncId}
def oT (nm:FuncId->Option Nat):Operand->Option Arg
 | .tmp t=>some (.s t)
 | .const v=>match ofValue 4 v with
  | some c=>if c.good then some (.k c)else none
  | none=>none
 | .func f=>(nm f).map .f
 | .global g=>match aS.gl g with
  | some cs=>if(V.fptr cs).good then some (.k (.fptr cs))else none
  | none=>none
theorem BM {nm:FuncId->Option Nat} (hN:∀f s,nm f=some s->N s=f) {g:Tb SV} (hs:∀s sv,ai g s=some sv->b_ ν m H Z sv (get F s)) {o:Operand} {x:Arg} {sv:SV} (ha:oT nm o=some x) (hv:oS N g x=some sv) :
 ∃y,ev F o=some y/\b_ ν m H Z sv y:=by
 cases o with
 | tmp t=>
  simp only[oT,ζa]at ha;subst ha;exact⟨get F t,rfl,hs t sv hv⟩
 | const w=>
  simp only[oT]at ha;split at ha
  .rename_i c hc;split at ha
   .rename_i hcl;simp only[ζa]at ha;subst ha;simp only[oS,ζa]at hv;subst hv;exact⟨c,hc,.v _ _ (.same _ hcl)⟩
   .simp at ha
  .simp at ha
 | func f=>
  simp only[oT,ζf]at ha;obtain⟨z,hz,rfl⟩:=ha;simp only[oS,ζa]at hv;subst hv;exact⟨_,rfl,.v _ _ (by rw[hN f z hz];exact .same _ rfl)⟩
 | global i=>
  simp only[oT]at ha;split at ha
  .rename_i c hc;split at ha
   .rename_i hcl;simp only[ζa]at ha;subst ha;simp only[oS,ζa]at hv;subst hv;exact⟨.fptr c,by simp only[ev,hc,Option.map_some],.v _ _ (.same _ hcl)⟩
   .simp at ha
  .simp at ha
theorem tL {nm:FuncId->Option Nat} (hN:∀f s,nm f=some s->N s=f) {g:Tb SV} (hs:∀s sv,ai g s=some sv->b_ ν m H Z sv (get F s)):∀{os:List Operand} {xs:List Arg} {svs:List SV},
 os.mapM (oT nm)=some xs->aW N g xs=some svs->∃ys,ec F os=some ys/\bf ν m H Z svs ys
 | [],xs,svs,ha,hv=>by
  simp only[List.mapM_nil,Option.pure_def,ζa]at ha;subst ha;simp only[aW,ζa]at hv;subst hv;exact⟨[],rfl,.nil⟩
 | o::os,xs,svs,ha,hv=>by
  simp only[List.mapM_cons,Option.pure_def,Option.bind_eq_bind,ζg,ζa]at ha;obtain⟨x,hx,ys,hy,rfl⟩:=ha;simp only[aW]at hv;split at hv
  .rename_i v ws h1 h2;simp only[ζa]at hv;subst hv;obtain⟨a,ha,ra⟩:=BM hN hs hx h1;obtain⟨az,has,ras⟩:=tL hN hs hy h2;exact⟨a::az,by simp only[ec,ha,has],.cons ra ras⟩
  .simp at hv
theorem b_.jA {d:Nat} {y:V} (r:b_ ν m H Z (.own d) y) {ob:aL} (h:ai m d=some ob):∃k es xs,ob=.sl k es xs/\y=qT (ν d) k es xs.length:=by
 cases r with|own _ _ hh=>exact hh ob h
theorem b_.nq {d o:Nat} {y:V} (r:b_ ν m H Z (.ptr d o) y) {ob:aL} (h:ai m d=some ob):∃cs,ob=.box cs/\y=.hptr (ν d).1 0 o:=by
 cases r with|ptr _ _ _ hh=>exact hh ob h
theorem b_.vo {d i o:Nat} {y:V} (r:b_ ν m H Z (.el d i o) y) {ob:aL} (h:ai m d=some ob):∃k es xs,ob=.sl k es xs/\bA k=true/\y=.hptr (ν d).1 ((ν d).2+i) o:=by
 cases r with|el _ _ _ _ hh=>exact hh ob h
theorem b_.AH {d:Nat} {y:V} (r:b_ ν m H Z (.mp d) y) {ob:aL} (h:ai m d=some ob):∃kvs,ob=.mp kvs/\y=.hmap (ν d).1:=by
 cases r with|mp _ _ hh=>exact hh ob h
theorem b_.iL {f:FuncId} {a b:List SV} {y:V} (r:b_ ν m H Z (.clo f a b) y):∃a' b',y=.clo f a' b'/\bf ν m H Z a a'/\bf ν m H Z b b':=by
 cases r with|clo _ _ _ a' b' ha hb hva hvb=>exact⟨a',b',rfl,⟨ha,hva⟩,⟨hb,hvb⟩⟩
theorem b_.oB {a:List SV} {y:V} (r:b_ ν m H Z (.tup a) y):∃a',y=.tup a'/\bf ν m H Z a a':=by
 cases r with|tup _ a' ha hva=>exact⟨a',rfl,ha,hva⟩
theorem b_.gn {a:List SV} {y:V} (r:b_ ν m H Z (.agg a) y):∃a',y=.agg a'/\bf ν m H Z a a':=by
 cases r with|agg _ a' ha hva=>exact⟨a',rfl,ha,hva⟩
theorem qc {p:Nat×Nat} {k:Fl} {es len:Nat} (h:bA k=true):qT p k es len=.hsl p.1 es p.2 len:=by
 cases k <;> simp[bA]at h <;> rfl
theorem j9 {x:SV} {y:V} (h:jy m x=true) (r:b_ ν m H Z x y):y.cells=[y]/\y.one=true:=by
 cases x with
 | v x=>simp[jy]at h
 | own d=>
  obtain⟨ob,hob⟩:=Option.isSome_iff_exists.1 h;obtain⟨k,es,xs,rfl,rfl⟩:=r.jA hob;cases k <;> exact⟨rfl,rfl⟩
 | ptr d o=>
  obtain⟨ob,hob⟩:=Option.isSome_iff_exists.1 h;obtain⟨cs,rfl,rfl⟩:=r.nq hob;exact⟨rfl,rfl⟩
 | el d i o=>
  obtain⟨ob,hob⟩:=Option.isSome_iff_exists.1 h;obtain⟨k,es,xs,rfl,_,rfl⟩:=r.vo hob;exact⟨rfl,rfl⟩
 | mp d=>
  obtain⟨ob,hob⟩:=Option.isSome_iff_exists.1 h;obtain⟨kvs,rfl,rfl⟩:=r.AH hob;exact⟨rfl,rfl⟩
 | clo f a b=>obtain⟨a',b',rfl,_⟩:=r.iL;exact⟨rfl,rfl⟩
 | tup l=>simp[jy]at h
 | agg l=>simp[jy]at h
 | yl id=>simp[jy]at h
theorem Kq {x:SV} {y:V} (h:uO m x=true) (r:b_ ν m H Z x y):y.one=true:=by
 cases x with
 | v x=>
  have hf:=r.fr;have hx:x.one=true:=h;have hc:=hf.cells;have e:x.cells=[x]:=by cases x <;> first|rfl|(simp[V.one]at hx)
  rw[e]at hc;have h1:=hc.one;simp only[List.all_cons,List.all_nil,Bool.and_true,hx]at h1;have hl:=hc.1
  cases y with
  | agg l=>
   simp only[V.cells]at hl h1
   cases hf with
   | same _ _=>simp[V.one]at hx
   | agg _ _ _ _=>simp[V.one]at hx
  | tup l=>
   cases hf with
   | same _ _=>simp[V.one]at hx
   | tup _ _ _ _=>simp[V.one]at hx
  | _=>rfl
 | own d=>exact(j9 (m:=m) (x:=.own d) h r).2
 | ptr d o=>exact(j9 (m:=m) (x:=.ptr d o) h r).2
 | el d i o=>exact(j9 (m:=m) (x:=.el d i o) h r).2
 | mp d=>exact(j9 (m:=m) (x:=.mp d) h r).2
 | clo f a b=>exact(j9 (m:=m) (x:=.clo f a b) h r).2
 | tup l=>simp[uO,jy]at h
 | agg l=>simp[uO,jy]at h
 | yl id=>simp[uO,jy]at h
theorem B9 {l:List SV} {ys:List V} (h:l.all (uO m)=true) (r:bf ν m H Z l ys):ys.all V.one=true:=by
 refine List.all_eq_true.2 λy hy=>?_
 obtain⟨j,hj,e⟩:=List.mem_iff_getElem.1 hy;have hj2:j<l.length:=by rw[r.1];exact hj
 exact Kq (List.all_eq_true.1 h _ (List.getElem_mem hj2)) (r.2 j _ y (ζd hj2) (by rw[ζd hj,e]))
theorem JD {x:SV} {y:V} {c:List SV} (h:vE m x=some c) (r:b_ ν m H Z x y):bf ν m H Z c y.cells:=by
 unfold vE at h;split at h
 .cases h;exact bf.pH r.fr.cells
 .cases h;obtain⟨a',rfl,ra⟩:=r.gn;exact ra
 .split at h
  .rename_i hl;cases h;rw[(j9 hl r).1];exact .cons r .nil
  .cases h
theorem DK:∀{pl:List (Nat×Nat)} {vs cells l:List SV} {ws cells':List V},bf ν m H Z cells cells'->bf ν m H Z vs ws->qE m cells pl vs=some l->∃l',jd cells' pl ws=some l'/\bf ν m H Z l l'
 | [],[],cells,l,ws,cells',hc,hv,h=>by
  rw[hv.bO];simp only[qE,ζa]at h;subst h;exact⟨_,rfl,hc⟩
 | [],_::_,_,_,_,_,_,_,h=>by simp[qE]at h
 | _::_,[],_,_,_,_,_,_,h=>by simp[qE]at h
 | (off,size)::pl,v::vs,cells,l,ws,cells',hc,hv,h=>by
  obtain⟨w,ws',rfl,h1,h2⟩:=hv.inv;simp only[qE]at h;split at h
  .rename_i c hcs;have hr:=JD hcs h1;split at h
   .rename_i hcond;obtain⟨l',e1,e2⟩:=DK (pl:=pl) (vs:=vs) (cells':=cells'.take off++w.cells++cells'.drop (off+w.cells.length)) (by rw[<-hr.1];exact((hc.take off).append hr).append (hc.drop _)) h2 h
    refine⟨l',?_,e2⟩;have hcond2:w.cells.length=size/\off+w.cells.length<=cells'.length:=by rw[<-hr.1,<-hc.1];exact hcond
    simp only[jd];rw[if_neg (by simp only[Bool.or_eq_true,decide_eq_true_eq];omega)]
    exact e1
   .cases h
  .cases h
theorem DI {size o:Nat} {agg:Bool} {cs:List SV} {cs':List V} {sv:SV} (h:bf ν m H Z cs cs') (hp:rV size agg ((cs.drop o).take size)=some sv):∃y,(cut cs' o size).bind (mk agg)=some y/\b_ ν m H Z sv y:=by
 have h2:=(h.drop o).take size;unfold rV at hp;split at hp
 .rename_i hl;have hc:cut cs' o size=some ((cs'.drop o).take size):=by
   unfold cut;dsimp only;rw[if_pos (by rw[<-h2.1];exact hl)]
  rw[hc];simp only[ζb];split at hp
  .rename_i ha;split at hp
   .rename_i xs hx;cases hp;have hf:b9 H Z xs ((cs'.drop o).take size):=by rw[qg hx]at h2;exact h2.QJ
    exact⟨_,by unfold mk;rw[if_pos ha],.v _ _ (.agg _ _ hf.1 hf.2)⟩
   .cases hp;exact⟨_,by unfold mk;rw[if_pos ha],.agg _ _ h2.1 h2.2⟩
  .rename_i ha;split at hp
   .rename_i x hx;simp only[ζa]at hp;subst hp;rw[hx]at h2;obtain⟨y,ys,e,h3,h4⟩:=h2.inv;rw[e,h4.bO];exact⟨y,by unfold mk;rw[if_neg ha],h3⟩
   .simp at hp
 .simp at hp
theorem MG {p:tZ} {svs:List SV} {ys:List V} {sv:SV} (hb:∀zero pl,p=.build zero pl->V.bF zero=true) (ho:∀d ob,ai m d=some ob->cZ ν m H Z d ob) (h:bf ν m H Z svs ys) (hp:uB N m p svs=some sv):∃y,aj N p ys=some y/\b_ ν m H Z sv y:=by
 unfold uB at hp;split at hp
 .
  obtain⟨y,_,rfl,h1,h2⟩:=h.inv;rw[h2.bO];simp only[ζa]at hp;subst hp;exact⟨y,rfl,h1⟩
 .obtain⟨y,_,rfl,h1,h2⟩:=h.inv;rw[h2.bO];split at hp
  .rename_i hs;simp only[ζa]at hp;subst hp;obtain⟨ob,hob⟩:=Option.isSome_iff_exists.1 hs;obtain⟨cs,rfl,rfl⟩:=h1.nq hob;exact⟨_,rfl,h1⟩
  .simp at hp
 .obtain⟨y,_,rfl,h1,h2⟩:=h.inv;rw[h2.bO];split at hp
  .rename_i hs;simp only[ζa]at hp;subst hp;obtain⟨ob,hob⟩:=Option.isSome_iff_exists.1 hs;obtain⟨k,es,xs,rfl,hk,rfl⟩:=h1.vo hob;exact⟨_,rfl,h1⟩
  .simp at hp
 .
  rename_i t a b;obtain⟨w1,_,rfl,h1,h2⟩:=h.inv;obtain⟨w2,_,rfl,h3,h4⟩:=h2.inv;obtain⟨w3,_,rfl,h5,h6⟩:=h4.inv;rw[h1.fr.bool,h6.bO];simp only[ζa]at hp;subst hp;refine⟨if t=true then w2 else w3,rfl,?_⟩;cases t
  .exact h5
  .exact h3
 .
  obtain⟨w1,_,rfl,h1,h2⟩:=h.inv;obtain⟨w2,_,rfl,h3,h4⟩:=h2.inv;rw[h3.fr.aF,h4.bO];split at hp
  .rename_i k es xs hob;split at hp
   .simp at hp
   .rename_i hk;simp only[ζa]at hp;subst hp;obtain⟨k',es',xs',e,rfl⟩:=h1.jA hob;cases e;cases k <;> first|exact absurd rfl hk|exact⟨_,rfl,.v _ _ (.same _ rfl)⟩
  .simp at hp
 .obtain⟨w1,_,rfl,h1,h2⟩:=h.inv;obtain⟨w2,_,rfl,h3,h4⟩:=h2.inv;rw[h3.fr.aF,h4.bO];split at hp
  .rename_i k es xs hob;split at hp
   .simp at hp
   .rename_i hk;simp only[ζa]at hp;subst hp;obtain⟨k',es',xs',e,rfl⟩:=h1.jA hob;cases e;cases k <;> first|exact absurd rfl hk|exact⟨_,rfl,.v _ _ (.same _ rfl)⟩
  .simp at hp
 .
  obtain⟨y,_,rfl,h1,h2⟩:=h.inv;rw[h2.bO];split at hp
  .rename_i hs;simp only[ζa]at hp;subst hp;obtain⟨ob,hob⟩:=Option.isSome_iff_exists.1 hs;obtain⟨cs,rfl,rfl⟩:=h1.nq hob;exact⟨_,rfl,.ptr _ _ _ λob' h'=>by rw[hob]at h';cases h';exact⟨_,rfl,rfl⟩⟩
  .simp at hp
 .obtain⟨y,_,rfl,h1,h2⟩:=h.inv;rw[h2.bO];split at hp
  .rename_i hs;simp only[ζa]at hp;subst hp;obtain⟨ob,hob⟩:=Option.isSome_iff_exists.1 hs;obtain⟨k,es,xs,rfl,hk,rfl⟩:=h1.vo hob;exact⟨_,rfl,.el _ _ _ _ λob' h'=>by rw[hob]at h';cases h';exact⟨_,_,_,rfl,hk,rfl⟩⟩
  .simp at hp
 .
  obtain⟨w1,_,rfl,h1,h2⟩:=h.inv;obtain⟨w2,_,rfl,h3,h4⟩:=h2.inv;rw[h3.fr.int,h4.bO];split at hp
  .rename_i k es xs hob;split at hp
   .rename_i hc;obtain⟨hk,rfl,hn,hlt⟩:=hc;simp only[ζa]at hp;subst hp;obtain⟨k',es',xs',e,rfl⟩:=h1.jA hob;cases e;rw[qc hk];refine⟨.hptr (ν _).1 ((ν _).2+_) 0,by simp only[aj,jV,if_neg (Int.not_lt.2 hn),true_and,if_pos hlt];rfl,.el _ _ _ _ λob' h'=>?_⟩
    rw[hob]at h';cases h';exact⟨_,_,_,rfl,hk,rfl⟩
   .simp at hp
  .simp at hp
 .
  obtain⟨w1,_,rfl,h1,h2⟩:=h.inv;obtain⟨w2,_,rfl,h3,h4⟩:=h2.inv;rw[h3.fr.int,h4.bO];split at hp
  .rename_i hc;simp only[ζa]at hp;subst hp;obtain⟨ob,hob⟩:=Option.isSome_iff_exists.1 hc.2.2;obtain⟨cs,rfl,rfl⟩:=h1.nq hob;refine⟨.hptr (ν _).1 0 (_+_),by simp only[aj,uI,if_pos (And.intro hc.1 hc.2.1)];rfl,.ptr _ _ _ λob' h'=>?_⟩
   rw[hob]at h';cases h';exact⟨_,rfl,rfl⟩
  .simp at hp
 .obtain⟨w1,_,rfl,h1,h2⟩:=h.inv;obtain⟨w2,_,rfl,h3,h4⟩:=h2.inv;rw[h3.fr.int,h4.bO];split at hp
  .rename_i hc;simp only[ζa]at hp;subst hp;obtain⟨ob,hob⟩:=Option.isSome_iff_exists.1 hc.2.2;obtain⟨k,es,xs,rfl,hk,rfl⟩:=h1.vo hob;refine⟨.hptr (ν _).1 (_+_) (_+_),by simp only[aj,uI,if_pos (And.intro hc.1 hc.2.1)];rfl,.el _ _ _ _ λob' h'=>?_⟩
   rw[hob]at h';cases h';exact⟨_,_,_,rfl,hk,rfl⟩
  .simp at hp
 .
  obtain⟨w1,_,rfl,h1,h2⟩:=h.inv;rw[h2.bO];split at hp
  .rename_i k es xs hob;simp only[ζa]at hp;subst hp;obtain⟨k',es',xs',e,rfl⟩:=h1.jA hob;cases e;have:=ho _ _ hob;simp only[cZ]at this;cases hk:k <;> simp only[hk,bA,Bool.false_eq_true,if_false]at this ⊢
   .subst this;exact⟨_,rfl,.v _ _ (.same _ rfl)⟩
   .subst this;exact⟨_,rfl,.v _ _ (.same _ rfl)⟩
   .exact⟨_,rfl,.v _ _ (.same _ rfl)⟩
   .exact⟨_,rfl,.v _ _ (.same _ rfl)⟩
  .simp at hp
 .
  rename_i vs name k;simp only[ζa]at hp;subst hp;exact⟨_,rfl,.clo _ _ _ _ _ (h.take k).1 (h.drop k).1 (h.take k).2 (h.drop k).2⟩
 .
  obtain⟨w1,_,rfl,h1,h2⟩:=h.inv;rw[h2.bO];obtain⟨ws,rfl,hw⟩:=h1.oB;obtain⟨z,hz,hzz⟩:=hw.get hp;exact⟨z,hz,hzz⟩
 .
  rename_i vs zero pl;obtain⟨l,hl,rfl⟩:=ζf.1 hp;obtain⟨l',h1,h2⟩:=DK (bf.pH (b9.same (hb zero pl rfl))) h hl;exact⟨.agg l',by simp only[Go.VE.aj,h1,Option.map_some],.agg _ _ h2.1 h2.2⟩
 .
  obtain⟨w1,_,rfl,h1,h2⟩:=h.inv;rw[h2.bO];obtain⟨ws,rfl,hw⟩:=h1.gn;obtain⟨y,hy,hyy⟩:=DI hw hp;exact⟨y,by simp only[Go.VE.aj];exact hy,hyy⟩
 .simp at hp
theorem Ls {p:tZ} {svs:List SV} {ys:List V} {sv:SV} (hb:∀zero pl,p=.build zero pl->V.bF zero=true) (ho:∀d ob,ai m d=some ob->cZ ν m H Z d ob) (h:bf ν m H Z svs ys) (hp:iI N m p svs=some sv) :
 ∃y,aj N p ys=some y/\b_ ν m H Z sv y:=by
 unfold iI at hp;split at hp
 .rename_i xs hx;obtain⟨z,hz,rfl⟩:=ζf.1 hp;rw[qg hx]at h;obtain⟨z',h1,h2⟩:=b9.aj hb h.QJ hz;exact⟨z',h1,.v _ _ h2⟩
 .exact MG hb ho h hp
theorem bf.cV {svs:List SV} {xs ys:List V} (h:bf ν m H Z svs ys) (ha:cV svs=some xs):b9 H Z xs ys:=by
 rw[qg ha]at h;exact h.QJ
theorem z8 {k:V}:∀{a b:List (V×V)} {i:Nat},AK H Z a b->(fK k a i=some none->fK k b i=some none)/\∀j v,fK k a i=some (some (j,v))->∃v',fK k b i=some (some (j,v'))/\FR H Z v v'
 | [],b,i,h=>by
  have:b=[]:=List.length_eq_zero_iff.1 (by have:=h.1;simpa using this.symm)
  subst this;exact⟨λh=>h,λj v h=>by simp[fK]at h⟩
 | (k1,x)::a,[],i,h=>by have:=h.1;simp at this
 | (k1,x)::a,(k2,y)::b,i,h=>by
  obtain⟨⟨e,_⟩,hx⟩:=h.2 0 _ _ rfl rfl;simp only at e hx;subst e;have ht:AK H Z a b:=⟨by have:=h.1;simpa using this,λj u v hu hv=>h.2 (j+1) u v (by simpa using hu) (by simpa using hv)⟩
  have ih:=z8 (i:=i+1) (k:=k) ht;simp only[fK]
  cases hk:s6 k k1 with
  | none=>simp
  | some t=>
   cases t
   .exact ih
   .refine⟨by simp,λj v h=>?_⟩
    simp only[ζa,ζc]at h;obtain⟨rfl,rfl⟩:=h;exact⟨y,rfl,hx⟩
theorem sW {kk:vi} {k:V} (h:oq kk k=true):k.scalar=true:=by
 unfold oq at h;split at h
 .rfl
 .rfl
 .simp only[ζh]at h;obtain⟨a,ha⟩:=Option.isSome_iff_exists.1 h.2;simp only[V.scalar];exact pM ha
 .simp at h
theorem tE {r:Gu} {svs:List SV} {ys:List V} {sv:SV} (hnf:∀s a,r≠.loadF s a) (hzc:∀kk z ok,r=.lookup kk z ok->z.good=true) (h:bf ν m H Z svs ys) (ho:∀d,SV.cu d svs=true->∀ob,ai m d=some ob->cZ ν m H Z d ob) (hp:jc m r svs=some sv) :
 ∃y,dy H r ys=some y/\b_ ν m H Z sv y:=by
 unfold jc at hp;split at hp
 .
  obtain⟨w1,_,rfl,h1,h2⟩:=h.inv;rw[h2.bO];split at hp
  .rename_i cs hob;obtain⟨cs1,e,rfl⟩:=h1.nq hob;obtain⟨es,cs',hr,hc,_⟩:=ho _ (by simp[SV.cu,SV.bQ]) _ hob
   obtain⟨y,hy,hyy⟩:=DI hc hp;refine⟨y,?_,hyy⟩;simp only[dy,cN,hr,ζb,Ob.rows,List.getElem?_cons_zero];exact hy
  .simp at hp
 .
  obtain⟨w1,_,rfl,h1,h2⟩:=h.inv;rw[h2.bO];split at hp
  .rename_i k es xs hob;split at hp
   .rename_i cs hcs;obtain⟨z,hz,rfl⟩:=ζf.1 hp;obtain⟨k1,es1,xs1,e,hk,rfl⟩:=h1.vo hob;cases e;have:=ho _ (by simp[SV.cu,SV.bQ]) _ hob
    simp only[cZ,hk,if_true]at this;obtain⟨rs,hr,hl,hf,_⟩:=this;obtain⟨c,hc,hcc⟩:=hf.get hcs;have hj:=(ζe.1 hcs).1;rw[List.getElem?_take,if_pos hj,List.getElem?_drop]at hc;obtain⟨r1,hr1,hm1⟩:=ζg.1 hz;obtain⟨r2,hr2,hrr⟩:=hcc.cut hr1;obtain⟨z',hz',hzz⟩:=hrr.mk hm1;refine⟨z',?_,.v _ _ hzz⟩;simp only[dy,cN,hr,ζb,Ob.rows,hc,hr2,hz']
   .simp at hp
  .simp at hp
 .
  rename_i size agg p;obtain⟨w1,_,rfl,h1,h2⟩:=h.inv;rw[h2.bO];obtain⟨z,hz,rfl⟩:=ζf.1 hp;obtain⟨r1,hr1,hm1⟩:=ζg.1 hz;unfold cN at hr1;split at hr1
  .rename_i cs;rcases h1.fr.kC with rfl|⟨id,el,off,es,ys,cs2,rfl,hzz,hr,he,hle,hf⟩
   .refine⟨z,by simp only[dy,cN,hr1,ζb,hm1],.v _ _ (.same _ ?_)⟩
    have hcl:V.bF cs=true:=by have:=h1.fr.good;simpa [V.good]using this
    obtain⟨r',hr',hrr⟩:=(b9.same (H:=H) (Z:=Z) hcl).cut hr1;obtain⟨z',hz',hzz'⟩:=hrr.mk hm1;exact hzz'.good
   .obtain⟨r2,hr2,hrr⟩:=hf.cut hr1;obtain⟨z',hz',hzz'⟩:=hrr.mk hm1;refine⟨z',?_,.v _ _ hzz'⟩;unfold an at hr;simp only[dy,cN,hr,he];have:cut cs2 off size=some r2:=by
     unfold cut at hr2 ⊢;simpa [List.drop_drop]using hr2
    rw[this];exact hz'
  .exact absurd h1.fr.closed (by simp[V.closed])
  .simp at hr1
 .
  rename_i kk z ok d k;obtain⟨w1,_,rfl,h1,h2⟩:=h.inv;obtain⟨w2,_,rfl,h3,h4⟩:=h2.inv;rw[h4.bO];split at hp
  .rename_i kvs hob;split at hp
   .rename_i hk;obtain⟨_,e,rfl⟩:=h1.AH hob;cases e;have hkk:=h3.fr.scalar.1 (sW hk);subst hkk;obtain⟨kvs',hr,hkv⟩:=ho _ (by simp[SV.cu,SV.bQ]) _ hob
    obtain⟨f1,f2⟩:=z8 (k:=w2) (i:=0) hkv;split at hp
    .rename_i j v hf;obtain⟨v',hf',hvv⟩:=f2 j v hf;simp only[ζa]at hp;subst hp;refine⟨if ok=true then .tup [v',.bool true]else v',by simp only[dy,kK,hr,hk,if_true,hf'],?_⟩
     cases ok
     .exact .v _ _ hvv
     .refine .v _ _ (.tup _ _ rfl (b9.cons hvv (.cons (.same _ rfl) .nil)).2)
    .rename_i hf;simp only[ζa]at hp;subst hp;refine⟨if ok=true then .tup [z,.bool false]else z,by simp only[dy,kK,hr,hk,if_true,f1 hf],?_⟩
     have hz:=hzc kk z ok rfl;cases ok
     .exact .v _ _ (.same _ hz)
     .exact .v _ _ (.same _ (by simp[V.good,V.bF,hz]))
    .simp at hp
   .simp at hp
  .simp at hp
 .
  rename_i kk z ok p k;obtain⟨w1,_,rfl,h1,h2⟩:=h.inv;obtain⟨w2,_,rfl,h3,h4⟩:=h2.inv;rw[h4.bO];obtain⟨x,hx,rfl⟩:=ζf.1 hp;simp only[dy]at hx;have hz:=hzc kk z ok rfl;split at hx
  .rename_i kvs hm;have key:kK H w1=some kvs/\V.qw kvs=true:=by
    unfold kK at hm;split at hm
    .rw[h1.fr.dY];simp only[ζa]at hm;subst hm;exact⟨rfl,rfl⟩
    .rw[h1.fr.fmap];simp only[ζa]at hm;subst hm;exact⟨rfl,by have:=h1.fr.good;simpa [V.good]using this⟩
    .simp at hm
    .simp at hm
   split at hx
   .rename_i hk;have hkk:=h3.fr.scalar.1 (sW hk);subst hkk;split at hx
    .rename_i j v hf;simp only[ζa]at hx;subst hx;have hv:v.good=true:=by
      have:∀{l:List (V×V)} {i:Nat},V.qw l=true->fK w2 l i=some (some (j,v))->v.good=true:=by
       intro l
       induction l with
       | nil=>intro i _ h;simp[fK]at h
       | cons p l ih=>
        intro i hg h;obtain⟨a,b⟩:=p;simp only[V.qw,ζh]at hg;simp only[fK]at h;split at h
        .simp only[ζa,ζc]at h;obtain⟨_,rfl⟩:=h;exact hg.1.2
        .exact ih hg.2 h
        .simp at h
      exact this key.2 hf
     refine⟨if ok=true then .tup [v,.bool true]else v,by simp only[dy,key.1,hk,if_true,hf],?_⟩
     cases ok
     .exact .v _ _ (.same _ hv)
     .exact .v _ _ (.same _ (by simp[V.good,V.bF,hv]))
    .rename_i hf;simp only[ζa]at hx;subst hx;refine⟨if ok=true then .tup [z,.bool false]else z,by simp only[dy,key.1,hk,if_true,hf],?_⟩
     cases ok
     .exact .v _ _ (.same _ hz)
     .exact .v _ _ (.same _ (by simp[V.good,V.bF,hz]))
    .simp at hx
   .simp at hx
  .simp at hx
 .exact absurd rfl (hnf _ _)
 .simp at hp
end
end Go.VE
namespace Go.VE
variable [aS]
section
variable {Rv:Nat->Prop} {ν ν':Nu} {Z Z':Nat->Prop} {st st':St} {m m':Tb aL} {F F':Frame} {H H':ak}
theorem R.lt (r:R ν Z st F H) {id:Nat} (h:dW ν st.m id):id<H.length:=by
 obtain⟨d,ob,h1,h2,rfl⟩:=h;have:=r.obj d ob h1
 cases ob with
 | sl k es xs=>
  simp only[bM]at h2;simp only[cZ,h2,if_true]at this;obtain⟨ys,hr,_⟩:=this;exact(ζe.1 hr).1
 | box cs=>obtain⟨es,cs',hr,_⟩:=this;exact(ζe.1 hr).1
 | mp kvs=>obtain⟨kvs',hr,_⟩:=this;exact(ζe.1 hr).1
theorem R.tW (r:R ν Z st F H) {id:Nat} (h:Z id):id<H.length:=by
 have:=r.zrow id h;unfold an at this;obtain⟨x,hx⟩:=Option.isSome_iff_exists.1 this;obtain⟨ob,h1,_⟩:=ζg.1 hx;exact(ζe.1 h1).1
theorem Deep.mono (d:Deep H Z) (h:∀id,Z id->an H' id=an H id):Deep H' Z where
 row:=λid es ys hz hr c hc u hu=>by
  rw[h id hz]at hr;obtain⟨x,hx⟩:=d.row id es ys hz hr c hc u hu;exact⟨x,hx.mono λk hk=>⟨hk,h k hk⟩⟩
theorem s7.mono {ys:List (List V)} (h:∀id,Z id->Z' id/\an H' id=an H id) (s:s7 H Z ys):s7 H' Z' ys:=λc hc u hu=>by
 obtain⟨x,hx⟩:=s c hc u hu;exact⟨x,hx.mono h⟩
theorem AK.mono {a b:List (V×V)} (h:∀id,Z id->Z' id/\an H' id=an H id) (s:AK H Z a b):AK H' Z' a b:=⟨s.1,λj u v hu hv=>⟨(s.2 j u v hu hv).1,(s.2 j u v hu hv).2.mono h⟩⟩
theorem cZ.mono {d d':Nat} {ob:aL} (hz:∀id,Z id->Z' id/\an H' id=an H id) (hd:ν' d'=ν d) (hh:bM ob=true->H'[(ν d).1]? = H[(ν d).1]?)
 (hn:∀e,ob.bQ e=true->∀ob',ai m' e=some ob'->∃ob,ai m e=some ob/\ν' e=ν e/\sameShape ob ob') (o:cZ ν m H Z d ob):cZ ν' m' H' Z' d' ob:=by
 cases ob with
 | sl k es xs=>
  simp only[cZ,hd]at o ⊢;split
  .rename_i hk;rw[if_pos hk]at o;obtain⟨ys,h1,h2,h3,h4,h5⟩:=o;exact⟨ys,by rw[hh (by simpa [bM]using hk)];exact h1,h2,h3.mono hz,h4.mono hz,h5⟩
  .rename_i hk;rw[if_neg hk]at o;exact o
 | box cs=>
  obtain⟨es,cs',h1,h2,h3⟩:=o;exact⟨es,cs',by rw[hd,hh rfl];exact h1,h2.mono hz hn,h3⟩
 | mp kvs=>
  obtain⟨kvs',h1,h2⟩:=o;exact⟨kvs',by rw[hd,hh rfl];exact h1,h2.mono hz⟩
theorem iS (ν:Nu) (m:Tb aL) (e:Nat):∀ob',ai m e=some ob'->∃ob,ai m e=some ob/\ν e=ν e/\sameShape ob ob':=λob' h=>⟨ob',h,rfl,.refl _⟩
theorem R.heap (r:R ν Z st F H) (ho:∀id,dW ν st.m id->H'[id]? = H[id]?) (hz:∀id,Z id->an H' id=an H id):R ν Z st F H' where
 slot:=λs sv hs=>(r.slot s sv hs).mono (λid h=>⟨h,hz id h⟩) λd _=>iS ν st.m d
 obj:=λd ob hd=>cZ.mono (λid h=>⟨h,hz id h⟩) rfl (λhb=>ho _ ⟨d,ob,hd,hb,rfl⟩) (λe _=>iS ν st.m e) (r.obj d ob hd)
 inj:=r.inj
 apart:=r.apart
 zrow:=λid h=>by rw[hz id h];exact r.zrow id h
 deep:=r.deep.mono hz
theorem R.put (r:R ν Z st F H) {d:Nat} {sv:SV} {y:V} (h:b_ ν st.m H Z sv y):R ν Z { st with g:=aO st.g d sv } (set F d y) H where
 slot:=λs x hs=>by
  by_cases e:d=s
  .subst e;rw[bK]at hs;cases hs;rw[qH];exact h
  .rw[cT st.g sv e]at hs;rw[fJ _ _ e];exact r.slot s x hs
 obj:=r.obj
 inj:=r.inj
 apart:=r.apart
 zrow:=r.zrow
 deep:=r.deep
theorem Ev.slots (g:Tb SV):Ev Rv ν Z st H ν Z { st with g:=g } H:=
 ⟨Nat.le_refl _,λ_ _ _ _ _=>rfl,λ_ h=>⟨h,rfl⟩,λ_ h=>.inl h,λ_ h=>.inl h,λ_ _ ob' h=>⟨ob',h,rfl,.refl _⟩,rfl⟩
def gR (ν:Nu) (d:Nat) (p:Nat×Nat):Nu:=λk=>if k=d then p else ν k
theorem ga (ν:Nu) (d:Nat) (p:Nat×Nat):gR ν d p d=p:=if_pos rfl
theorem qb (ν:Nu) {d k:Nat} (p:Nat×Nat) (h:k≠d):gR ν d p k=ν k:=if_neg h
theorem lI {d:Nat} (h:st.new d=true):d∉st.pin/\ai st.m d=none/\tn d st.g=false/\qP d st.m=false:=by
 unfold St.new at h;simp only[ζh,Bool.not_eq_true',Option.isNone_iff_eq_none,List.contains_eq_mem,decide_eq_false_iff_not]at h;exact⟨h.1.1.1,h.1.1.2,h.1.2,h.2⟩
theorem q9 {d:Nat} {ob:aL} {p:Nat×Nat} {e:Nat} (h:e≠d):∀ob',ai (aO m d ob) e=some ob'->∃ob,ai m e=some ob/\gR ν d p e=ν e/\sameShape ob ob':=λob' h2=>by
 rw[cT m ob (Ne.symm h)]at h2;exact⟨ob',h2,qb ν p h,.refl _⟩
theorem R.add (r:R ν Z st F H) {d:Nat} (hn:st.new d=true) {ob:aL} {p:Nat×Nat} (hb:bM ob=true->¬dW ν st.m p.1/\¬Z p.1) (ho:cZ (gR ν d p) (aO st.m d ob) H Z d ob) :
 R (gR ν d p) Z { st with m:=aO st.m d ob } F H:=by
 obtain⟨n1,n2,n3,n4⟩:=lI hn;have key:∀d' ob',ai (aO st.m d ob) d'=some ob'->d'≠d->ai st.m d'=some ob':=λd' ob' h e=>by rw[cT st.m ob (Ne.symm e)]at h;exact h
 refine⟨λs sv hs=>?_,λd' ob' hd=>?_,?_,?_,r.zrow,r.deep⟩
 .refine(r.slot s sv hs).mono (λid h=>⟨h,rfl⟩) λe he=>q9 ?_
  rintro rfl;rw[wh n3 hs]at he;cases he
 .by_cases e:d'=d
  .subst e;simp only at hd;rw[bK]at hd;cases hd;exact ho
  .have hd':=key d' ob' hd e;refine cZ.mono (λid h=>⟨h,rfl⟩) (qb ν p e) (λ_=>rfl) (λk hk=>q9 ?_) (r.obj d' ob' hd')
   rintro rfl;rw[vO n4 hd']at hk;cases hk
 .intro d1 d2 o1 o2 h1 h2 b1 b2 hp
  by_cases e1:d1=d <;> by_cases e2:d2=d
  .rw[e1,e2]
  .subst e1;rw[ga,qb ν p e2]at hp;simp only at h1;rw[bK]at h1;cases h1;exact absurd ⟨d2,o2,key d2 o2 h2 e2,b2,hp.symm⟩ (hb b1).1
  .subst e2;rw[ga,qb ν p e1]at hp;simp only at h2;rw[bK]at h2;cases h2;exact absurd ⟨d1,o1,key d1 o1 h1 e1,b1,hp⟩ (hb b2).1
  .rw[qb ν p e1,qb ν p e2]at hp;exact r.inj d1 d2 o1 o2 (key d1 o1 h1 e1) (key d2 o2 h2 e2) b1 b2 hp
 .intro d1 o1 h1 b1
  by_cases e1:d1=d
  .subst e1;simp only at h1;rw[bK]at h1;cases h1;rw[ga];exact(hb b1).2
  .rw[qb ν p e1];exact r.apart d1 o1 (key d1 o1 h1 e1) b1
theorem GA {d:Nat} {ob:aL} {p:Nat×Nat} {id:Nat} (h:dW (gR ν d p) (aO m d ob) id):dW ν m id\/(bM ob=true/\id=p.1):=by
 obtain⟨k,o,h1,h2,h3⟩:=h
 by_cases e:k=d
 .subst e;rw[bK]at h1;cases h1;rw[ga]at h3;exact .inr ⟨h2,h3.symm⟩
 .rw[qb ν p e]at h3;rw[cT m ob (Ne.symm e)]at h1;exact .inl ⟨k,o,h1,h2,h3⟩
theorem Ev.add {d:Nat} (hn:st.new d=true) {ob:aL} {p:Nat×Nat} (hl:H.length<=H'.length) (hs:∀id,id<H.length->¬Rv id->H'[id]? = H[id]?) (hz:∀id,Z id->an H' id=an H id)
 (hp:bM ob=true->Rv p.1\/H.length<=p.1):Ev Rv ν Z st H (gR ν d p) Z { st with m:=aO st.m d ob } H' where
 len:=hl
 same:=λid h _ _ hr=>hs id h hr
 rows:=λid h=>⟨h,hz id h⟩
 own:=λid h=>by
  rcases GA h with h|⟨h1,rfl⟩
  .exact .inl h
  .exact .inr (hp h1)
 frz:=λid h=>.inl h
 pin:=λe he ob' h=>by
  have:e≠d:=by rintro rfl;exact(lI hn).1 he
  exact q9 this ob' h
 pins:=rfl
theorem R.eW (r:R ν Z st F H) {d:Nat} {ob ob':aL} (h0:ai st.m d=some ob) (hs:sameShape ob ob') (hb:bM ob'=bM ob) (hh:∀id,id≠(ν d).1->H'[id]? = H[id]?) (hbb:bM ob=true)
 (ho:cZ ν (aO st.m d ob') H' Z d ob'):R ν Z { st with m:=aO st.m d ob' } F H':=by
 have hzr:∀id,Z id->Z id/\an H' id=an H id:=λid h=>⟨h,by
  unfold an;rw[hh id (by rintro rfl;exact r.apart d ob h0 hbb h)]⟩
 have sm:∀e ob2,ai (aO st.m d ob') e=some ob2->∃ob1,ai st.m e=some ob1/\ν e=ν e/\sameShape ob1 ob2:=λe ob2 h=>by
  by_cases k:e=d
  .subst k;rw[bK]at h;cases h;exact⟨ob,h0,rfl,hs⟩
  .rw[cT st.m ob' (Ne.symm k)]at h;exact⟨ob2,h,rfl,.refl _⟩
 have bk:∀e ob2,ai (aO st.m d ob') e=some ob2->∃ob1,ai st.m e=some ob1/\bM ob1=bM ob2:=λe ob2 h=>by
  by_cases k:e=d
  .subst k;rw[bK]at h;cases h;exact⟨ob,h0,hb.symm⟩
  .rw[cT st.m ob' (Ne.symm k)]at h;exact⟨ob2,h,rfl⟩
 refine⟨λs sv hs=>(r.slot s sv hs).mono hzr λe _=>sm e,λd' ob2 hd=>?_,?_,?_,λid h=>by rw[(hzr id h).2];exact r.zrow id h,r.deep.mono λid h=>(hzr id h).2⟩
 .by_cases e:d'=d
  .subst e;simp only at hd;rw[bK]at hd;cases hd;exact ho
  .simp only at hd;rw[cT st.m ob' (Ne.symm e)]at hd;refine cZ.mono hzr rfl (λhb2=>hh _ λh=>e (r.inj d' d ob2 ob hd h0 hb2 hbb h)) (λk _=>sm k) (r.obj d' ob2 hd)
 .intro d1 d2 o1 o2 h1 h2 b1 b2 hp;obtain⟨p1,k1,l1⟩:=bk d1 o1 h1;obtain⟨p2,k2,l2⟩:=bk d2 o2 h2;exact r.inj d1 d2 p1 p2 k1 k2 (by rw[l1];exact b1) (by rw[l2];exact b2) hp
 .intro d1 o1 h1 b1;obtain⟨p1,k1,l1⟩:=bk d1 o1 h1;exact r.apart d1 p1 k1 (by rw[l1];exact b1)
theorem Ev.eW (r:R ν Z st F H) {d:Nat} {ob ob':aL} (h0:ai st.m d=some ob) (hs:sameShape ob ob') (hb:bM ob'=bM ob) (hh:∀id,id≠(ν d).1->H'[id]? = H[id]?) (hbb:bM ob=true) (hl:H.length<=H'.length) :
 Ev Rv ν Z st H ν Z { st with m:=aO st.m d ob' } H' where
 len:=hl
 same:=λid _ ho _ _=>hh id λe=>ho ⟨d,ob,h0,hbb,e.symm⟩
 rows:=λid h=>⟨h,by unfold an;rw[hh id (by rintro rfl;exact r.apart d ob h0 hbb h)]⟩
 own:=λid ⟨k,o,h1,h2,h3⟩=>by
  by_cases e:k=d
  .subst e;simp only at h1;rw[bK]at h1;cases h1;exact .inl ⟨k,ob,h0,hbb,h3⟩
  .simp only at h1;rw[cT st.m ob' (Ne.symm e)]at h1;exact .inl ⟨k,o,h1,h2,h3⟩
 frz:=λid h=>.inl h
 pin:=λe _ ob2 h=>by
  by_cases k:e=d
  .subst k;simp only at h;rw[bK]at h;cases h;exact⟨ob,h0,rfl,hs⟩
  .simp only at h;rw[cT st.m ob' (Ne.symm k)]at h;exact⟨ob2,h,rfl,.refl _⟩
 pins:=rfl
theorem R.less (r:R ν Z st F H) {g:Tb SV} {m':Tb aL} (hg:∀s sv,ai g s=some sv->ai st.g s=some sv) (hm:∀d ob,ai m' d=some ob->ai st.m d=some ob):R ν Z { st with g:=g,m:=m' } F H where
 slot:=λs sv hs=>(r.slot s sv (hg s sv hs)).mono (λid h=>⟨h,rfl⟩) λe _ ob' h=>⟨ob',hm e ob' h,rfl,.refl _⟩
 obj:=λd ob hd=>cZ.mono (λid h=>⟨h,rfl⟩) rfl (λ_=>rfl) (λe _ ob' h=>⟨ob',hm e ob' h,rfl,.refl _⟩) (r.obj d ob (hm d ob hd))
 inj:=λd d' ob ob' h1 h2=>r.inj d d' ob ob' (hm d ob h1) (hm d' ob' h2)
 apart:=λd ob h=>r.apart d ob (hm d ob h)
 zrow:=r.zrow
 deep:=r.deep
theorem Ev.less {g:Tb SV} {m':Tb aL} (hm:∀d ob,ai m' d=some ob->ai st.m d=some ob):Ev Rv ν Z st H ν Z { st with g:=g,m:=m' } H:=
 ⟨Nat.le_refl _,λ_ _ _ _ _=>rfl,λ_ h=>⟨h,rfl⟩,λ_ ⟨d,ob,h1,h2,h3⟩=>.inl ⟨d,ob,hm d ob h1,h2,h3⟩,λ_ h=>.inl h,λe _ ob' h=>⟨ob',hm e ob' h,rfl,.refl _⟩,rfl⟩
theorem Ev.heap (hl:H.length<=H'.length) (hs:∀id,id<H.length->¬dW ν st.m id->¬Z id->¬Rv id->H'[id]? = H[id]?) (hz:∀id,Z id->an H' id=an H id):Ev Rv ν Z st H ν Z st H':=
 ⟨hl,hs,λid h=>⟨h,hz id h⟩,λ_ h=>.inl h,λ_ h=>.inl h,λ_ _ ob' h=>⟨ob',h,rfl,.refl _⟩,rfl⟩
end
end Go.VE
namespace Go.VE
variable [aS]
section
variable {Rv:Nat->Prop} {ν ν':Nu} {Z Z':Nat->Prop} {st st':St} {m m':Tb aL} {F F':Frame} {H H':ak}
theorem eG.Dn {xs ys:List (List V)} (h:eG H Z xs ys):s7 H Z ys:=λc hc u hu=>by
 obtain⟨i,hi⟩:=List.mem_iff_getElem?.1 hc;have hl:i<xs.length:=by rw[h.1];exact(ζe.1 hi).1
 have hr:=h.2 i _ c (ζd hl) hi;obtain⟨j,hj⟩:=List.mem_iff_getElem?.1 hu;have hl2:j<(xs[i]).length:=by rw[hr.1];exact(ζe.1 hj).1
 exact⟨_,hr.2 j _ u (ζd hl2) hj⟩
theorem eG.same {xs:List (List V)} (h:V.mX xs=true):eG H Z xs xs:=
 ⟨rfl,λj u v hu hv=>by rw[hu]at hv;cases hv;exact b9.same (kX.1 h j u hu)⟩
theorem mS {z:List V} (h:V.bF z=true):∀n,V.mX (List.replicate n z)=true
 | 0=>rfl
 | n+1=>by simp only[List.replicate_succ,V.mX,h,mS h n,Bool.and_self]
theorem zi {es:Nat}:∀{ps qs:List (Nat×V)} {xs xs' r:List (List V)},eG H Z xs xs'->ps.map (·.1)=qs.map (·.1)->b9 H Z (ps.map (·.2)) (qs.map (·.2))->fE es xs ps=some r->∃r',fE es xs' qs=some r'/\eG H Z r r'
 | [],qs,xs,xs',r,hx,h1,h2,h=>by
  have:qs=[]:=by cases qs with|nil=>rfl|cons _ _=>simp at h1
  subst this;simp only[fE,ζa]at h ⊢;subst h;exact⟨_,rfl,hx⟩
 | (i,v)::ps,qs,xs,xs',r,hx,h1,h2,h=>by
  cases qs with
  | nil=>simp at h1
  | cons q qs=>
   obtain⟨j,w⟩:=q;simp only[List.map_cons,List.cons.injEq]at h1;obtain⟨e,h1⟩:=h1;subst e;obtain⟨w',ws,e,h3,h4⟩:=h2.inv;simp only[List.map_cons,List.cons.injEq]at e;obtain⟨rfl,rfl⟩:=e;have hc:=h3.cells;simp only[fE]at h ⊢;split at h
   .rename_i hcnd;rw[if_pos ⟨by rw[<-hc.1];exact hcnd.1,by rw[<-hx.1];exact hcnd.2.1,by rw[hc.one];exact hcnd.2.2⟩]
    exact zi (hx.set i hc) h1 h4 h
   .simp at h
theorem BU:∀{idx:List Nat} {xs:List V},idx.length=xs.length->(idx.zip xs).map (·.1)=idx
 | [],xs,_=>by simp
 | i::idx,[],h=>by simp at h
 | i::idx,x::xs,h=>by simp[BU (idx:=idx) (xs:=xs) (by simpa using h)]
theorem Bs:∀{idx:List Nat} {xs:List V},idx.length=xs.length->(idx.zip xs).map (·.2)=xs
 | [],[],_=>by simp
 | [],x::xs,h=>by simp at h
 | i::idx,[],h=>by simp at h
 | i::idx,x::xs,h=>by simp[Bs (idx:=idx) (xs:=xs) (by simpa using h)]
theorem JE {a:Jw} {svs:List SV} {ys:List V} {d:Nat} {ob:aL} {sv:SV} (hk:uK (.a a)=true) (r:bf ν m H Z svs ys) (h:ni m a svs d=some (ob,sv)) :
 ∃o mk,iT a ys=some (o,mk)/\bM ob=true/\o≠.free/\∀(id:Nat) (ν':Nu) (m':Tb aL) (H':ak),ν' d=(id,0)->ai m' d=some ob->H'[id]? = some o->(∀k,Z k->an H' k=an H k) ->
  (∀e,SV.cu e svs=true->∀ob',ai m' e=some ob'->∃ob,ai m e=some ob/\ν' e=ν e/\sameShape ob ob')->cZ ν' m' H' Z d ob/\b_ ν' m' H' Z sv (mk.val id):=by
 unfold ni at h;split at h
 .
  rename_i size zero;simp only[ζa,ζc]at h;obtain⟨rfl,rfl⟩:=h;rw[r.bO];simp only[uK,ζh]at hk;refine⟨_,_,rfl,rfl,by simp,λid ν' m' H' e1 e2 e3 e4 e5=>⟨⟨_,zero,by rw[e1];exact e3,bf.pH (b9.same hk.1),hk.2⟩,?_⟩⟩
  exact .ptr _ _ _ λob' h'=>by rw[e2]at h';cases h';exact⟨_,rfl,by rw[e1];rfl⟩
 .
  rename_i x;split at h
  .rename_i hone;simp only[ζa,ζc]at h;obtain⟨rfl,rfl⟩:=h;obtain⟨y,_,rfl,h1,h2⟩:=r.inv;rw[h2.bO];have hc:=h1.fr.cells;refine⟨.row y.cells.length [y.cells],.ptr,by simp only[iT,hc.one,hone,if_true],rfl,by simp,λid ν' m' H' e1 e2 e3 e4 e5=>⟨⟨_,y.cells,by rw[e1];exact e3,bf.pH (hc.mono λk hk=>⟨hk,e4 k hk⟩),by rw[hc.one];exact hone⟩,?_⟩⟩
   exact .ptr _ _ _ λob' h'=>by rw[e2]at h';cases h';exact⟨_,rfl,by rw[e1];rfl⟩
  .simp at h
 .
  rename_i l;split at h
  .rename_i hl;simp only[ζa,ζc]at h;obtain⟨rfl,rfl⟩:=h;obtain⟨y,_,rfl,h1,h2⟩:=r.inv;rw[h2.bO];obtain⟨a',rfl,ra⟩:=h1.gn;have c2:=B9 hl ra;refine⟨.row a'.length [a'],.ptr,by simp only[iT,V.cells,c2,if_true],rfl,by simp,λid ν' m' H' e1 e2 e3 e4 e5=>⟨⟨_,a',by rw[e1];exact e3,ra.mono (λk hk=>⟨hk,e4 k hk⟩) λe he=>e5 e (by simp only[SV.cu,SV.bQ,he,Bool.true_or]),c2⟩,?_⟩⟩
   exact .ptr _ _ _ λob' h'=>by rw[e2]at h';cases h';exact⟨_,rfl,by rw[e1];rfl⟩
  .simp at h
 .
  rename_i x hx;split at h
  .rename_i hl;simp only[ζa,ζc]at h;obtain⟨rfl,rfl⟩:=h;obtain⟨y,_,rfl,h1,h2⟩:=r.inv;rw[h2.bO];obtain⟨c1,c2⟩:=j9 hl h1;refine⟨.row [y].length [[y]],.ptr,by simp only[iT,c1,List.all_cons,c2,List.all_nil,Bool.and_self,if_true],rfl,by simp,λid ν' m' H' e1 e2 e3 e4 e5=>⟨⟨_,[y],by rw[e1];exact e3,.cons (h1.mono (λk hk=>⟨hk,e4 k hk⟩) λe he=>e5 e (by simp[SV.cu,he])) .nil,by simp[c2]⟩,?_⟩⟩
   exact .ptr _ _ _ λob' h'=>by rw[e2]at h';cases h';exact⟨_,rfl,by rw[e1];rfl⟩
  .simp at h
 .
  rename_i size zero k n k' c;obtain⟨_,_,rfl,h1,h2⟩:=r.inv;obtain⟨_,_,rfl,h3,h4⟩:=h2.inv;rw[h1.fr.int,h3.fr.int,h4.bO];split at h
  .rename_i hc;simp only[ζa,ζc]at h;obtain⟨rfl,rfl⟩:=h;simp only[uK]at hk;have hb:bA (if n=c then Fl.row else Fl.part)=true:=by split <;> rfl
   refine⟨_,_,by simp only[iT];rw[if_pos hc],hb,by simp,λid ν' m' H' e1 e2 e3 e4 e5=>⟨?_,?_⟩⟩
   .simp only[cZ,hb,if_true,e1];have hg:=mS hk c.toNat;have hnc:n.toNat<=c.toNat:=by omega
    refine⟨_,e3,by simp;omega,?_,(eG.same hg).Dn,λe=>?_⟩
    .simp only[List.drop_zero,List.length_replicate,List.take_replicate,Nat.min_eq_left hnc];exact eG.same (mS hk _)
    .have:n=c:=by
      by_cases e':n=c
      .exact e'
      .rw[if_neg e']at e;cases e
     subst this;simp
   .refine .own _ _ λob' h'=>?_
    rw[e2]at h';cases h';exact⟨_,_,_,rfl,by rw[qc hb,e1];simp[Mk.val]⟩
  .simp at h
 .
  rename_i vs size len zero idx;split at h
  .rename_i xs hx;split at h
   .rename_i hl;obtain⟨rows,hr,e⟩:=ζf.1 h;simp only[ζc]at e;obtain⟨rfl,rfl⟩:=e;have hf:=r.cV hx;simp only[uK]at hk;obtain⟨rows',hr',hrr⟩:=zi (H:=H) (Z:=Z) (qs:=idx.zip ys) (eG.same (mS hk len)) (by rw[BU hl,BU (by rw[<-hf.1];exact hl)]) (by rw[Bs hl,Bs (by rw[<-hf.1];exact hl)];exact hf) hr
    have hlen:rows'.length=len:=by
     have:∀{ps:List (Nat×V)} {a r:List (List V)},fE size a ps=some r->r.length=a.length:=by
      intro ps
      induction ps with
      | nil=>intro a r h;simp only[fE,ζa]at h;subst h;rfl
      | cons p ps ih=>
       intro a r h;obtain⟨i,v⟩:=p;simp only[fE]at h;split at h
       .rw[ih h];simp
       .simp at h
     rw[this hr'];simp
    refine⟨.row size rows',.sl size len,by simp only[iT];rw[if_pos (by rw[<-hf.1];exact hl),hr'];rfl,rfl,by simp,λid ν' m' H' e1 e2 e3 e4 e5=>⟨?_,?_⟩⟩
    .have hr2:=hrr.mono (H':=H') (Z':=Z) λk hk=>⟨hk,e4 k hk⟩
     simp only[cZ,bA,if_true,e1];refine⟨_,e3,by simp[hrr.1],?_,hr2.Dn,λ_=>⟨trivial,hrr.1.symm⟩⟩
     simp only[List.drop_zero,hrr.1,List.take_length];exact hr2
    .refine .own _ _ λob' h'=>?_
     rw[e2]at h';cases h';exact⟨_,_,_,rfl,by rw[hrr.1,hlen];simp[qT,e1,Mk.val]⟩
   .simp at h
  .simp at h
 .
  simp only[ζa,ζc]at h;obtain⟨rfl,rfl⟩:=h;rw[r.bO];refine⟨_,_,rfl,rfl,by simp,λid ν' m' H' e1 e2 e3 e4 e5=>⟨⟨_,by rw[e1];exact e3,rfl,by simp⟩,?_⟩⟩
  exact .mp _ _ λob' h'=>by rw[e2]at h';cases h';exact⟨_,rfl,by rw[e1];rfl⟩
 .simp at h
theorem bf.Qq {cs:List SV} {cs':List V} (h:bf ν m H Z cs cs') {size o:Nat} {x:SV} {y:V} {r:List SV} (hx:b_ ν m H Z x y) (hp:putCells m size o x cs=some r) (hone:cs'.all V.one=true) :
 y.cells.length=size/\o+size<=cs'.length/\y.cells.all V.one=true/\bf ν m H Z r (cs'.take o++y.cells++cs'.drop (o+y.cells.length))/\(cs'.take o++y.cells++cs'.drop (o+y.cells.length)).all V.one=true:=by
 have hall:∀k:Nat,(cs'.take k).all V.one=true/\(cs'.drop k).all V.one=true:=λk=>
  ⟨List.all_eq_true.2 λz hz=>List.all_eq_true.1 hone z (List.mem_of_mem_take hz),List.all_eq_true.2 λz hz=>List.all_eq_true.1 hone z (List.mem_of_mem_drop hz)⟩
 unfold putCells at hp;split at hp
 .rename_i x;split at hp
  .rename_i hc;simp only[ζa]at hp;subst hp;have hf:=hx.fr.cells;refine⟨by rw[<-hf.1];exact hc.1,by rw[<-h.1];exact hc.2.1,by rw[hf.one];exact hc.2.2,?_,?_⟩
   .have e:y.cells.length=size:=by rw[<-hf.1];exact hc.1
    rw[e];exact((h.take o).append (bf.pH hf)).append (h.drop _)
   .simp only[List.all_append,(hall _).1,(hall _).2,hf.one,hc.2.2,Bool.and_self]
  .simp at hp
 .rename_i l;split at hp
  .rename_i hc;simp only[ζa]at hp;subst hp;obtain⟨a',rfl,ra⟩:=hx.gn;have ho:=B9 hc.2.2 ra;have e:a'.length=size:=by rw[<-ra.1];exact hc.1
   refine⟨e,by rw[<-h.1];exact hc.2.1,ho,?_,?_⟩
   .show bf ν m H Z _ (cs'.take o++a'++cs'.drop (o+a'.length));rw[e];exact((h.take o).append ra).append (h.drop _)
   .simp only[List.all_append,(hall _).1,(hall _).2,V.cells,ho,Bool.and_self]
  .simp at hp
 .split at hp
  .rename_i hc;simp only[ζa]at hp;subst hp;obtain⟨c1,c2⟩:=j9 hc.1 hx;rw[c1];refine⟨by simp[hc.2.1],by rw[<-h.1];have:=hc.2.2;omega,by simp[c2],?_,?_⟩
   .exact((h.take o).append (.cons hx .nil)).append (h.drop _)
   .simp only[List.all_append,(hall _).1,(hall _).2,List.all_cons,c2,List.all_nil,Bool.and_self]
  .simp at hp
theorem uy {size:Nat} {x:SV} {y:V} {xs:List (List V)} (r:b_ ν m H Z x y) (ho:∀d ob,ai m d=some ob->cZ ν m H Z d ob) (h:jf m size x=some xs):∃ys,cF H size y=some ys/\eG H Z xs ys:=by
 unfold jf at h;split at h
 .split at h
  .rename_i k es xs' hob;obtain⟨_,_,_,e,rfl⟩:=r.jA hob;cases e;have o:=ho _ _ hob;simp only[cZ]at o;split at h
   .rename_i hk;rw[if_pos hk]at o;split at h
    .rename_i he;simp only[ζa]at h;subst h;obtain⟨ys,hr,hl,hf,_⟩:=o;rw[qc hk];exact⟨_,by simp only[cF,if_pos he,hr,ζb,Ob.rows,if_pos hl],hf⟩
    .simp at h
   .rename_i hk;simp only[ζa]at h;subst h;refine⟨[],?_,rfl,by simp⟩
    cases k <;> simp[bA]at hk <;> rfl
  .simp at h
 .simp only[ζa]at h;subst h;rw[r.fr.aF];exact⟨[],rfl,rfl,by simp⟩
 .simp only[ζa]at h;subst h;rw[r.fr.cI];exact⟨[],rfl,rfl,by simp⟩
 .split at h
  .rename_i es xs' he;simp only[ζa]at h;subst h;have hg:=r.fr.good;rcases r.fr.kj with rfl|⟨id,off,ys,rfl,hz,hr,hl,hf⟩
   .exact⟨_,by simp only[cF,if_pos he],eG.same (by simpa [V.good]using hg)⟩
   .unfold an at hr;exact⟨_,by simp only[cF,if_pos he,hr,if_pos hl],hf⟩
  .simp at h
 .simp at h
theorem Ev.re {m1:Tb aL} (hm:∀d ob,ai m1 d=some ob->ai st.m d=some ob) {d:Nat} (hn:d∉st.pin) {ob:aL} {p:Nat×Nat} (hl:H.length<=H'.length) (hs:∀id,id<H.length->¬dW ν st.m id->¬Rv id->H'[id]? = H[id]?)
 (hz:∀id,Z id->an H' id=an H id) (hp:bM ob=true->dW ν st.m p.1\/Rv p.1\/H.length<=p.1):Ev Rv ν Z st H (gR ν d p) Z { st with m:=aO m1 d ob } H' where
 len:=hl
 same:=λid h ho _ hr=>hs id h ho hr
 rows:=λid h=>⟨h,hz id h⟩
 own:=λid h=>by
  rcases GA h with h|⟨h1,rfl⟩
  .obtain⟨k,o,h1,h2,h3⟩:=h;exact .inl ⟨k,o,hm k o h1,h2,h3⟩
  .exact hp h1
 frz:=λid h=>.inl h
 pin:=λe he ob' h=>by
  have:e≠d:=by rintro rfl;exact hn he
  obtain⟨o,h1,h2,h3⟩:=q9 (ν:=ν) (p:=p) this ob' h;exact⟨o,hm e o h1,h2,h3⟩
 pins:=rfl
def Kept (dst:Option Nat) (ν:Nu) (m:Tb aL) (ν':Nu) (m':Tb aL):Prop:=∀e ob',dst≠some e->ai m' e=some ob'->∃ob,ai m e=some ob/\ν' e=ν e/\sameShape ob ob'
theorem Kept.refl {dst:Option Nat}:Kept dst ν m ν m:=λe ob' _ h=>⟨ob',h,rfl,.refl _⟩
theorem Kept.eW {dst:Option Nat} {d:Nat} {ob ob':aL} (h0:ai m d=some ob) (hs:sameShape ob ob'):Kept dst ν m ν (aO m d ob'):=λe ob2 _ h=>by
 by_cases k:e=d
 .subst k;rw[bK]at h;cases h;exact⟨ob,h0,rfl,hs⟩
 .rw[cT m ob' (Ne.symm k)]at h;exact⟨ob2,h,rfl,.refl _⟩
theorem Kept.add {d:Nat} {ob:aL} {p:Nat×Nat} {m1:Tb aL} (hm:∀d ob,ai m1 d=some ob->ai m d=some ob):Kept (some d) ν m (gR ν d p) (aO m1 d ob):=λe ob' he h=>by
 have:e≠d:=λh=>he (by rw[h])
 obtain⟨o,h1,h2,h3⟩:=q9 (ν:=ν) (p:=p) this ob' h;exact⟨o,hm e o h1,h2,h3⟩
theorem iY {d:Nat}:∀e ob,ai (cM d m) e=some ob->ai m e=some ob:=λ_ _ h=>(n9 h).2
theorem AK.put {k x y:V} {a b r:List (V×V)} (hks:k.scalar=true) (h:AK H Z a b) (hx:FR H Z x y) (hp:ot k x a=some r):∃r',ot k y b=some r'/\AK H Z r r':=by
 unfold ot at hp;obtain⟨f1,f2⟩:=z8 (k:=k) (i:=0) h;split at hp
 .rename_i j v hf;simp only[ζa]at hp;subst hp;obtain⟨v',hf',_⟩:=f2 j v hf;refine⟨b.set j (k,y),by unfold ot;rw[hf'],by simp[h.1],λi u w hu hw=>?_⟩
  rw[List.getElem?_set]at hu hw;rw[<-h.1]at hw;split at hu
  .rename_i e;rw[if_pos e]at hw;split at hu
   .rename_i e2;rw[if_pos e2]at hw;cases hu;cases hw;exact⟨⟨rfl,hks⟩,hx⟩
   .simp at hu
  .rename_i e;rw[if_neg e]at hw;exact h.2 i u w hu hw
 .rename_i hf;simp only[ζa]at hp;subst hp;refine⟨b++[(k,y)],by unfold ot;rw[f1 hf],by simp[h.1],λi u w hu hw=>?_⟩
  by_cases hi:i<a.length
  .rw[List.getElem?_append_left hi]at hu;rw[List.getElem?_append_left (by rw[<-h.1];exact hi)]at hw
   exact h.2 i u w hu hw
  .rw[List.getElem?_append_right (by omega)]at hu
   rw[List.getElem?_append_right (by rw[<-h.1];omega),<-h.1]at hw
   have:i-a.length=0:=by
    have:=(ζe.1 hu).1;simp at this;omega
   rw[this]at hu hw;simp at hu hw;subst hu;subst hw;exact⟨⟨rfl,hks⟩,hx⟩
 .simp at hp
theorem FY (r:R ν Z st F H) {d:Nat} {cs:List SV} (hob:ai st.m d=some (.box cs)):∀{l:List SV} {ws:List V},bf ν st.m H Z l ws->l.all (BA st.m d)=true->ws.all (o7 (ν d).1)=true:=by
 intro l
 induction l with
 | nil=>intro ws hw _;rw[hw.bO];rfl
 | cons a l ih=>
  intro ws hw hf;obtain⟨w,ws,rfl,g1,g2⟩:=hw.inv;simp only[List.all_cons,ζh]at hf ⊢;refine⟨?_,ih g2 hf.2⟩;have hf1:=hf.1;unfold BA at hf1;split at hf1
  .rename_i d' o';simp only[ζh,bne_iff_ne,ne_eq]at hf1;obtain⟨hne,hbx⟩:=hf1;split at hbx
   .rename_i cs2 hob2;obtain⟨_,_,rfl⟩:=g1.nq hob2;simp only[o7,bne_iff_ne,ne_eq];exact λe=>hne (r.inj d' d _ _ hob2 hob rfl rfl e)
   .cases hbx
  .rename_i xs;rcases FR.kC g1.fr with rfl|⟨id,el,off,_,_,_,rfl,hzz,_⟩
   .rfl
   .simp only[o7,bne_iff_ne,ne_eq];rintro rfl;exact r.apart d _ hob rfl hzz
  .cases hf1
theorem Fa (r:R ν Z st F H) {dst:Option Nat} {l:Gg} {svs:List SV} {ys:List V} {sv:SV} (hsv:bf ν st.m H Z svs ys) (h:lp st dst l svs=some (sv,st')) :
 ∃y H' ν',dI H l ys=some (y,H')/\R ν' Z st' F H'/\b_ ν' st'.m H' Z sv y/\Ev (λ_=>False) ν Z st H ν' Z st' H'/\Kept dst ν st.m ν' st'.m:=by
 unfold lp at h;split at h
 .
  rename_i size d o x;obtain⟨_,_,rfl,h1,h2⟩:=hsv.inv;obtain⟨y,_,rfl,h3,h4⟩:=h2.inv;rw[h4.bO];split at h
  .rename_i cs hob;obtain⟨cs1,hp,e⟩:=ζf.1 h;simp only[ζc]at e;obtain⟨rfl,rfl⟩:=e;obtain⟨_,_,rfl⟩:=h1.nq hob;obtain⟨es,cs',hr,hc,hone⟩:=r.obj d _ hob;obtain⟨p1,p2,p3,p4,p5⟩:=bf.Qq hc h3 hp hone;have hh:∀id,id≠(ν d).1->(H.set (ν d).1 (.row es [cs'.take o++y.cells++cs'.drop (o+y.cells.length)]))[id]? = H[id]? := λid hne=>by rw[List.getElem?_set];rw[if_neg (Ne.symm hne)]
   have hz:∀id,Z id->Z id/\an (H.set (ν d).1 (.row es [cs'.take o++y.cells++cs'.drop (o+y.cells.length)])) id=an H id:=λid hz=>⟨hz,by
    unfold an;rw[hh id (by rintro rfl;exact r.apart d _ hob rfl hz)]⟩
   refine⟨.undef,H.set (ν d).1 (.row es [cs'.take o++y.cells++cs'.drop (o+y.cells.length)]),ν,?_,?_,.v _ _ (.same _ rfl),Ev.eW r hob trivial rfl hh rfl (by simp),Kept.eW hob trivial⟩
   .simp only[dI,hr,List.getElem?_cons_zero,if_pos (And.intro p1 (And.intro p2 p3)),List.set_cons_zero]
   .refine r.eW hob (ob':=.box cs1) trivial rfl hh rfl ⟨es,_,?_,p4.mono hz (λe _ ob' he=>?_),p5⟩
    .have:=(ζe.1 hr).1;rw[List.getElem?_set_self this]
    .by_cases k:e=d
     .subst k;rw[bK]at he;cases he;exact⟨_,hob,rfl,trivial⟩
     .rw[cT st.m _ (Ne.symm k)]at he;exact⟨ob',he,rfl,.refl _⟩
  .simp at h
 .
  rename_i size d i o x;obtain⟨_,_,rfl,h1,h2⟩:=hsv.inv;obtain⟨y,_,rfl,h3,h4⟩:=h2.inv;rw[h4.bO];split at h
  .rename_i k es xs hob;split at h
   .rename_i cs hcs;split at h
    .rename_i hc;simp only[ζa,ζc]at h;obtain⟨rfl,rfl⟩:=h;obtain⟨_,_,_,e,hk,rfl⟩:=h1.vo hob;cases e;have ob:=r.obj d _ hob;simp only[cZ,hk,if_true]at ob;obtain⟨rs,hr,hl,hf,hsol,hrow⟩:=ob;obtain⟨c,hcc,hfc⟩:=hf.get hcs;have hi:=(ζe.1 hcs).1;rw[List.getElem?_take,if_pos hi,List.getElem?_drop]at hcc;have hy:=h3.fr.cells;have q1:y.cells.length=size:=by rw[<-hy.1];exact hc.1
     have q2:o+size<=c.length:=by rw[<-hfc.1];exact hc.2.1
     have q3:y.cells.all V.one=true:=by rw[hy.one];exact hc.2.2
     have hnew:b9 H Z (cs.take o++x.cells++cs.drop (o+x.cells.length)) (c.take o++y.cells++c.drop (o+y.cells.length)):=by
      rw[hc.1,q1];exact((hfc.take o).append hy).append (hfc.drop _)
     generalize hN:(c.take o++y.cells++c.drop (o+y.cells.length))=nc at hnew;have hh:∀id,id≠(ν d).1->(H.set (ν d).1 (.row es (rs.set ((ν d).2+i) nc)))[id]? = H[id]? := λid hne=>by rw[List.getElem?_set];rw[if_neg (Ne.symm hne)]
     have hbk:bM (.sl k es xs)=true:=hk;have hz:∀id,Z id->Z id/\an (H.set (ν d).1 (.row es (rs.set ((ν d).2+i) nc))) id=an H id:=λid hz=>⟨hz,by
      unfold an;rw[hh id (by rintro rfl;exact r.apart d _ hob hbk hz)]⟩
     have hsh:sameShape (.sl k es xs) (.sl k es (xs.set i (cs.take o++x.cells++cs.drop (o+x.cells.length)))):=⟨rfl,rfl,by simp⟩
     refine⟨.undef,H.set (ν d).1 (.row es (rs.set ((ν d).2+i) nc)),ν,?_,?_,.v _ _ (.same _ rfl),Ev.eW r hob hsh rfl hh hbk (by simp),Kept.eW hob hsh⟩
     .simp only[dI,hr,hcc,if_pos (And.intro q1 (And.intro q2 q3)),hN]
     .refine r.eW hob hsh rfl hh hbk ?_;simp only[cZ,hk,if_true];have hlt:=(ζe.1 hr).1;refine⟨_,List.getElem?_set_self hlt,by simpa using hl,?_,?_,λe=>?_⟩
      .have e1:List.take (xs.set i (cs.take o++x.cells++cs.drop (o+x.cells.length))).length (List.drop (ν d).2 (rs.set ((ν d).2+i) nc))=((rs.drop (ν d).2).take xs.length).set i nc:=by
        rw[List.length_set,List.drop_set,if_neg (by omega),List.take_set]
        congr 1;omega
       rw[e1];exact(hf.set i hnew).mono hz
      .intro cc hcc' u hu;rcases List.mem_or_eq_of_mem_set hcc' with hm|rfl
       .obtain⟨z,hz'⟩:=hsol cc hm u hu;exact⟨z,hz'.mono hz⟩
       .obtain⟨j,hj⟩:=List.mem_iff_getElem?.1 hu;have hjl:=(ζe.1 hj).1;rw[<-hnew.1]at hjl;exact⟨_,(hnew.2 j _ u (ζd hjl) hj).mono hz⟩
      .obtain⟨a1,a2⟩:=hrow e;exact⟨a1,by simpa using a2⟩
    .simp at h
   .simp at h
  .simp at h
 .
  rename_i kk d k x;obtain⟨_,_,rfl,h1,h2⟩:=hsv.inv;obtain⟨k',_,rfl,h3,h4⟩:=h2.inv;obtain⟨y,_,rfl,h5,h6⟩:=h4.inv;rw[h6.bO];split at h
  .rename_i kvs hob;split at h
   .rename_i hk;obtain⟨kvs1,hp,e⟩:=ζf.1 h;simp only[ζc]at e;obtain⟨rfl,rfl⟩:=e;obtain⟨_,_,rfl⟩:=h1.AH hob;have hkk:=h3.fr.scalar.1 (sW hk);subst hkk;obtain⟨kvs',hr,hkv⟩:=r.obj d _ hob;obtain⟨r',hr',hrr⟩:=hkv.put (sW hk) h5.fr hp;have hh:∀id,id≠(ν d).1->(H.set (ν d).1 (.map r'))[id]? = H[id]? := λid hne=>by rw[List.getElem?_set];rw[if_neg (Ne.symm hne)]
    have hz:∀id,Z id->Z id/\an (H.set (ν d).1 (.map r')) id=an H id:=λid hz=>⟨hz,by
     unfold an;rw[hh id (by rintro rfl;exact r.apart d _ hob rfl hz)]⟩
    refine⟨.undef,H.set (ν d).1 (.map r'),ν,?_,?_,.v _ _ (.same _ rfl),Ev.eW r hob trivial rfl hh rfl (by simp),Kept.eW hob trivial⟩
    .simp only[dI,hr,hk,if_true,hr',Option.map_some]
    .refine r.eW hob (ob':=.mp kvs1) trivial rfl hh rfl ⟨r',?_,hrr.mono hz⟩;rw[List.getElem?_set_self (ζe.1 hr).1]
   .simp at h
  .simp at h
 .
  rename_i size s x;obtain⟨y1,_,rfl,h1,h2⟩:=hsv.inv;obtain⟨y2,_,rfl,h3,h4⟩:=h2.inv;rw[h4.bO];split at h
  .rename_i xs e1 e2;obtain⟨a1,p1,_⟩:=uy h1 r.obj e1;obtain⟨a2,p2,q2⟩:=uy h3 r.obj e2;have:a2=[]:=List.length_eq_zero_iff.1 (by have:=q2.1;simpa using this.symm)
   subst this
   cases dst with
   | none=>simp at h
   | some t=>
    have lit:∀(k:Fl) (x0:V),bA k=false->qT (ν t) k size 0=x0->st.new t=true->(∀y,FR H Z x0 y->y=x0)->FR H Z x0 y1 ->
     ∃y H' ν',dI H (.append size) [y1,y2]=some (y,H')/\R ν' Z { st with m:=aO st.m t (.sl k size []) } F H'/\b_ ν' (aO st.m t (.sl k size [])) H' Z (.own t) y/\Ev (λ_=>False) ν Z st H ν' Z { st with m:=aO st.m t (.sl k size []) } H'/\Kept (some t) ν st.m ν' (aO st.m t (.sl k size [])):=λk x0 hk hxx hn hx hf=>by
     have hnb:bM (.sl k size [])=true->False:=by simp[bM,hk]
     refine⟨y1,H,gR ν t (ν t),by simp only[dI,p1,p2],r.add hn (p:=ν t) (ob:=.sl k size []) (λh=>(hnb h).elim) (by simp[cZ,hk]),.own _ _ λob' h'=>?_,Ev.add (H':=H) hn (Nat.le_refl _) (λ_ _ _=>rfl) (λ_ _=>rfl) (λh=>(hnb h).elim),Kept.add λ_ _ h=>h⟩
     rw[bK]at h';cases h';exact⟨_,_,_,rfl,by rw[ga,hx _ hf];exact hxx.symm⟩
    cases s with
    | own d=>
     dsimp only at h;split at h
     .rename_i ob hob;split at h
      .rename_i hnew;simp only[ζa,ζc]at h;obtain⟨rfl,rfl⟩:=h;simp only[jf,hob]at e1
       cases ob with
       | sl k es xs'=>
        obtain⟨_,_,_,e,rfl⟩:=h1.jA hob;cases e;have r1:R ν Z { st with m:=cM d st.m } F H:=r.less (g:=st.g) (λ_ _ h=>h) iY
        obtain⟨n1,_,_,_⟩:=lI hnew;have hob2:cZ (gR ν t (ν d)) (aO (cM d st.m) t (.sl k es xs')) H Z t (.sl k es xs'):=by
         have o:=r.obj d _ hob;simp only[cZ,ga]at o ⊢;exact o
        refine⟨qT (ν d) k es xs'.length,H,gR ν t (ν d),by simp only[dI,p1,p2],r1.add hnew (p:=ν d) (λhb=>⟨λho=>?_,r.apart d _ hob hb⟩) hob2,.own _ _ λob' h'=>?_,?_,Kept.add iY⟩
        .obtain⟨k2,o2,g1,g2,g3⟩:=ho;obtain⟨g4,g5⟩:=n9 g1;exact g4 (r.inj d k2 _ o2 hob g5 hb g2 g3.symm)
        .rw[bK]at h';cases h';exact⟨_,_,_,rfl,by rw[ga]⟩
        .by_cases hb:bM (.sl k es xs')=true
         .exact Ev.re (st:=st) (m1:=cM d st.m) iY n1 (Nat.le_refl _) (λ_ _ _ _=>rfl) (λ_ _=>rfl) (λ_=>.inl ⟨d,_,hob,hb,rfl⟩)
         .exact(Ev.less (g:=st.g) iY).trans (Ev.add (H':=H) hnew (Nat.le_refl _) (λ_ _ _=>rfl) (λ_ _=>rfl) λh=>absurd h hb)
       | box cs=>cases e1
       | mp kvs=>cases e1
      .simp at h
     .simp at h
    | v x0=>
     cases x0 with
     | aF=>
      dsimp only at h;split at h
      .rename_i hn;simp only[ζa,ζc]at h;obtain⟨rfl,rfl⟩:=h;exact lit .nil _ rfl rfl hn (λy h=>h.aF) h1.fr
      .simp at h
     | cI=>
      dsimp only at h;split at h
      .rename_i hn;simp only[ζa,ζc]at h;obtain⟨rfl,rfl⟩:=h;exact lit .emp _ rfl rfl hn (λy h=>h.cI) h1.fr
      .simp at h
     | _=>simp at h
    | _=>simp at h
  .rename_i xs zs hne e1 e2;split at h
   .rename_i hc;obtain⟨a1,p1,q1⟩:=uy h1 r.obj e1;obtain⟨a2,p2,q2⟩:=uy h3 r.obj e2
    cases dst with
    | none=>simp at h
    | some t=>
     dsimp only at h;generalize hm1:giveUp st.m s=m1 at h;split at h
     .rename_i hnew;simp only[ζa,ζc]at h;obtain⟨rfl,rfl⟩:=h;obtain⟨n1,_,_,_⟩:=lI hnew;have grow:∃H1,gj H y1=some H1/\H1.length=H.length/\(∀id,¬dW ν st.m id->H1[id]? = H[id]?) /\
       (∀id,dW ν m1 id->H1[id]? = H[id]?)/\(∀id,Z id->an H1 id=an H id):=by
       subst hm1
       cases s with
       | own d=>
        simp only[jf]at e1;split at e1
        .rename_i k es xs' hob;obtain⟨_,_,_,e,rfl⟩:=h1.jA hob;cases e
         by_cases hk:bA k=true
         .have o:=r.obj d _ hob;simp only[cZ,hk,if_true]at o;obtain⟨ys,hr,_⟩:=o;have hbk:bM (.sl k es xs')=true:=hk;have hh:∀id,id≠(ν d).1->(H.set (ν d).1 .dead)[id]? = H[id]? := λid hne=>by rw[List.getElem?_set];rw[if_neg (Ne.symm hne)]
          refine⟨H.set (ν d).1 .dead,by rw[qc hk];simp only[gj,hr],by simp,λid ho=>hh id λe=>ho ⟨d,_,hob,hbk,e.symm⟩,λid ho=>hh id λe=>?_,λid hz=>?_⟩
          .obtain⟨k2,o2,g1,g2,g3⟩:=ho;obtain⟨g4,g5⟩:=n9 g1;exact g4 (r.inj d k2 _ o2 hob g5 hbk g2 (by rw[g3,e]))
          .unfold an;rw[hh id (by rintro rfl;exact r.apart d _ hob hbk hz)]
         .refine⟨H,?_,rfl,λ_ _=>rfl,λ_ _=>rfl,λ_ _=>rfl⟩
          cases k <;> simp[bA]at hk <;> rfl
        .simp at e1
       | v x0=>
        refine⟨H,?_,rfl,λ_ _=>rfl,λ_ _=>rfl,λ_ _=>rfl⟩
        cases x0 <;> simp[zN]at hc
        .rw[h1.fr.cI];rfl
        .rw[h1.fr.aF];rfl
       | _=>simp[zN]at hc
      obtain⟨H1,g1,g2,g3,g4,g5⟩:=grow;have hsub:∀e ob,ai m1 e=some ob->ai st.m e=some ob:=by
       subst hm1;cases s <;> first|exact λ_ _ h=>h|exact iY
      have hlt1:∀id,dW ν m1 id->id<H.length:=λid ⟨k,o,w1,w2,w3⟩=>r.lt ⟨k,o,hsub k o w1,w2,w3⟩
      have hget:∀id,id<H.length->(H1++[Ob.row size (a1++a2)])[id]? = H1[id]? := λid hl=>List.getElem?_append_left (by rw[g2];exact hl)
      have hz2:∀id,Z id->an (H1++[Ob.row size (a1++a2)]) id=an H id:=λid hz=>by
       have:=g5 id hz;unfold an at this ⊢;rw[hget id (r.tW hz)];exact this
      have r1:R ν Z { st with m:=m1 } F H:=r.less (g:=st.g) (λ_ _ h=>h) hsub
      have r2:R ν Z { st with m:=m1 } F (H1++[Ob.row size (a1++a2)]):=r1.heap (λid ho=>by rw[hget id (hlt1 id ho)];exact g4 id ho) hz2
      have ff:=(q1.append q2).mono (H':=H1++[Ob.row size (a1++a2)]) (Z':=Z) λid hz=>⟨hz,hz2 id hz⟩
      have hnewrow:(H1++[Ob.row size (a1++a2)])[H.length]? = some (.row size (a1++a2)):=by
       rw[<-g2];simp
      refine⟨.hsl H.length size 0 (xs.length+zs.length),H1++[Ob.row size (a1++a2)],gR ν t (H.length,0),?_,?_,?_,?_,Kept.add hsub⟩
      .have hne':a2≠[]:=by
        rintro rfl;have hz0:zs=[]:=List.length_eq_zero_iff.1 (by have:=q2.1;simpa using this)
        exact hne hz0
       have hle:a1.length+a2.length<=2147483648:=by rw[<-q1.1,<-q2.1];exact hc.1
       have hl1:=q1.1;have hl2:=q2.1
       cases a2 with
       | nil=>exact absurd rfl hne'
       | cons w ws=>
        simp only[dI,p1,p2,if_pos hle,g1,Option.map_some,hl1,hl2]
      .refine r2.add hnew (λ_=>⟨λho=>?_,λhz=>?_⟩) ?_
       .exact absurd (hlt1 _ ho) (by simp)
       .exact absurd (r.tW hz) (by simp)
       .simp only[cZ,bA,if_true,ga];refine⟨_,hnewrow,by simp[q1.1,q2.1],?_,ff.Dn,λ_=>⟨trivial,by simp[q1.1,q2.1]⟩⟩
        have:(xs++zs).length=(a1++a2).length:=by simp[q1.1,q2.1]
        rw[this,List.drop_zero,List.take_length];exact ff
      .refine .own _ _ λob' h'=>?_
       simp only at h';rw[bK]at h';cases h';exact⟨_,_,_,rfl,by simp[qT,ga]⟩
      .refine Ev.re hsub n1 (by simp[g2]) (λid hl ho _=>?_) hz2 (λ_=>.inr (.inr (Nat.le_refl _)))
       rw[hget id hl];exact g3 id ho
     .simp at h
   .simp at h
  .simp at h
 .
  rename_i size d o x l;obtain⟨_,_,rfl,h1,h2⟩:=hsv.inv;obtain⟨y,ys2,rfl,h3,h4⟩:=h2.inv;split at h
  .rename_i hfar;split at h
   .rename_i cs hob;obtain⟨cs1,hp,e⟩:=ζf.1 h;simp only[ζc]at e;obtain⟨rfl,rfl⟩:=e;obtain⟨_,_,rfl⟩:=h1.nq hob;obtain⟨es,cs',hr,hc,hone⟩:=r.obj d _ hob;obtain⟨p1,p2,p3,p4,p5⟩:=bf.Qq hc h3 hp hone;have hh:∀id,id≠(ν d).1->(H.set (ν d).1 (.row es [cs'.take o++y.cells++cs'.drop (o+y.cells.length)]))[id]? = H[id]? := λid hne=>by rw[List.getElem?_set];rw[if_neg (Ne.symm hne)]
    have hz:∀id,Z id->Z id/\an (H.set (ν d).1 (.row es [cs'.take o++y.cells++cs'.drop (o+y.cells.length)])) id=an H id:=λid hz=>⟨hz,by
     unfold an;rw[hh id (by rintro rfl;exact r.apart d _ hob rfl hz)]⟩
    refine⟨.undef,H.set (ν d).1 (.row es [cs'.take o++y.cells++cs'.drop (o+y.cells.length)]),ν,?_,?_,.v _ _ (.same _ rfl),Ev.eW r hob trivial rfl hh rfl (by simp),Kept.eW hob trivial⟩
    .simp only[dI,FY r hob h4 hfar,if_true,hr,List.getElem?_cons_zero,if_pos (And.intro p1 (And.intro p2 p3)),List.set_cons_zero]
    .refine r.eW hob (ob':=.box cs1) trivial rfl hh rfl ⟨es,_,?_,p4.mono hz (λe _ ob' he=>?_),p5⟩
     .have:=(ζe.1 hr).1;rw[List.getElem?_set_self this]
     .by_cases k:e=d
      .subst k;rw[bK]at he;cases he;exact⟨_,hob,rfl,trivial⟩
      .rw[cT st.m _ (Ne.symm k)]at he;exact⟨ob',he,rfl,.refl _⟩
   .simp at h
  .simp at h
 .simp at h
end
end Go.VE
namespace Go.VE
variable [aS]
def xz (d:Nat) (st:St):Option St:=
 match ai st.m d with
 | some (.sl k es xs)=>some { st with g:=Af (SV.sub d (mA k es xs)) st.g,m:=mapM (SV.sF d (mA k es xs)) (cM d st.m) }
 | _=>none
def SS (st:St):Loc->Option SV
 | .s n=>ai st.g n
 | .c b i=>match ai st.m b with
  | some (.box cs)=>cs[i]?
  | _=>none
def ghost (x:Gh) (st:St):Option St:=
 match x with
 | .closeS l=>match SS st l with
  | some (.own d)=>xz d st
  | some _=>some st
  | none=>none
 | .close d=>xz d st
 | .closeB d=>match ai st.m d with
  | some (.box cs)=>match cV cs with
   | some xs=>some { st with g:=Af (SV.zF d xs) st.g,m:=mapM (SV.pL d xs) (cM d st.m) }
   | none=>none
  | _=>none
 | .canon (.s n) d es=>match ai st.g n with
  | some (.v .aF)=>if st.new d then some { st with g:=aO st.g n (.own d),m:=aO st.m d (.sl .nil es []) } else none
  | some (.v .cI)=>if st.new d then some { st with g:=aO st.g n (.own d),m:=aO st.m d (.sl .emp es []) } else none
  | some (.own e)=>if e=d then some st else if st.new d then some { st with g:=Ah e d st.g,m:=tN e d st.m } else none
  | _=>none
 | .canon (.c b i) d es=>match ai st.m b with
  | some (.box cs)=>match cs[i]? with
   | some (.v .aF)=>if st.new d then some { st with m:=aO (aO st.m d (.sl .nil es [])) b (.box (cs.set i (.own d))) } else none
   | some (.v .cI)=>if st.new d then some { st with m:=aO (aO st.m d (.sl .emp es [])) b (.box (cs.set i (.own d))) } else none
   | some (.own e)=>if e=d then some st else if st.new d then some { st with g:=Ah e d st.g,m:=tN e d st.m } else none
   | _=>none
  | _=>none
 | .keep gs ms=>match yE st.g gs,yE st.m ms with
  | some g,some m=>some { st with g:=g,m:=m }
  | _,_=>none
 | .drop ds=>some { st with g:=uh ds st.g }
section
variable {Rv:Nat->Prop} {ν ν':Nu} {Z Z':Nat->Prop} {st st':St} {m m':Tb aL} {F F':Frame} {H H':ak} {N:Nat->FuncId}
theorem Jn (r:R ν Z st F H) {dst:Option Nat} {size d:Nat} {lo hi:Bool} {bs:List SV} {ys:List V} {sv:SV} (hsv:bf ν st.m H Z (.own d::bs) ys) (h:wZ st dst size lo hi d bs=some (sv,st')) :
 ∃y ν',aj N (.slice size lo hi) ys=some y/\R ν' Z st' F H/\b_ ν' st'.m H Z sv y/\Ev Rv ν Z st H ν' Z st' H:=by
 unfold wZ at h;obtain⟨y0,zs,rfl,h1,h2⟩:=hsv.inv;split at h
 .rename_i k es xs ws t hob hw;split at h
  .rename_i hk;obtain⟨⟨l,hh⟩,hb,h⟩:=ζg.1 h;obtain⟨⟨a,b⟩,hbd,h⟩:=ζg.1 h;dsimp only at h;split at h
   .rename_i hnew;simp only[ζa,ζc]at h;obtain⟨rfl,rfl⟩:=h;obtain⟨_,_,_,e,rfl⟩:=h1.jA hob;cases e;have hle:b<=xs.length/\a<=b:=by
     unfold cE at hbd;dsimp only at hbd;split at hbd
     .simp only[ζa,ζc]at hbd;omega
     .simp at hbd
    have o:=r.obj d _ hob;simp only[cZ,hk.1,if_true]at o;obtain⟨rs,hr,hl,hf,hsol,_⟩:=o;have hbk:bM (.sl k es xs)=true:=hk.1;have r1:R ν Z { st with m:=cM d st.m } F H:=r.less (g:=st.g) (λ_ _ h=>h) iY
    have hno:¬dW ν (cM d st.m) (ν d).1:=by
     rintro⟨k2,o2,g1,g2,g3⟩;obtain⟨g4,g5⟩:=n9 g1;exact g4 (r.inj d k2 _ o2 hob g5 hbk g2 g3.symm)
    have hlen:((xs.take b).drop a).length=b-a:=by simp;omega
    refine⟨.hsl (ν d).1 es ((ν d).2+a) (b-a),gR ν t ((ν d).1,(ν d).2+a),?_,?_,?_,?_⟩
    .have hf2:=bf.cV h2 hw;rw[qc hk.1];simp only[aj,hf2.jK hb,ζb,fL,if_pos hk.2,hbd,Option.map_some]
    .refine r1.add hnew (λ_=>⟨hno,r.apart d _ hob hbk⟩) ?_
     simp only[cZ,bA,if_true,ga];refine⟨rs,hr,by rw[hlen];omega,?_,hsol,λe=>by cases e⟩
     have:=(hf.take b).drop a;have e:List.drop a (List.take b (List.take xs.length (List.drop (ν d).2 rs)))=List.take (b-a) (List.drop ((ν d).2+a) rs):=by
      rw[List.take_take,Nat.min_eq_left hle.1,List.drop_take,List.drop_drop]
     rw[e]at this;rw[hlen];exact this
    .refine .own _ _ λob' h'=>?_
     simp only at h';rw[bK]at h';cases h';exact⟨_,_,_,rfl,by rw[hlen];simp[qT,ga]⟩
    .exact Ev.re (st:=st) iY (lI hnew).1 (Nat.le_refl _) (λ_ _ _ _=>rfl) (λ_ _=>rfl) (λ_=>.inl ⟨d,_,hob,hbk,rfl⟩)
   .simp at h
  .simp at h
 .simp at h
theorem CK {f:SV->SV}:∀{g:Tb SV} {s:Nat},ai (Af f g) s=(ai g s).map f
 | [],s=>rfl
 | (k,x)::r,s=>by
  simp only[Af,ai];split
  .rfl
  .exact CK
def vR (f:List SV->List SV):aL->aL
 | .box cs=>.box (f cs)
 | o=>o
theorem Cz {f:List SV->List SV}:∀{m:Tb aL} {d:Nat},ai (mapM f m) d=(ai m d).map (vR f)
 | [],d=>rfl
 | (k,x)::r,d=>by
  cases x <;> simp only[mapM,ai] <;> split <;> first|rfl|exact Cz
theorem rA {d:Nat} {w:V}:∀{l:List SV} {j:Nat},(SV.sF d w l)[j]? = (l[j]?).map (SV.sub d w)
 | [],j=>by simp[SV.sF]
 | x::r,0=>by simp[SV.sF]
 | x::r,j+1=>by simp[SV.sF,rA (l:=r)]
theorem qm {d:Nat} {w:List V}:∀{l:List SV} {j:Nat},(SV.pL d w l)[j]? = (l[j]?).map (SV.zF d w)
 | [],j=>by simp[SV.pL]
 | x::r,0=>by simp[SV.pL]
 | x::r,j+1=>by simp[SV.pL,qm (l:=r)]
theorem nJ {d:Nat} {w:V}:∀{l:List SV},(SV.sF d w l).length=l.length
 | []=>rfl
 | x::r=>by simp[SV.sF,nJ (l:=r)]
theorem lY {d:Nat} {w:List V}:∀{l:List SV},(SV.pL d w l).length=l.length
 | []=>rfl
 | x::r=>by simp[SV.pL,lY (l:=r)]
theorem b_.sub {sv:SV} {y:V} {d:Nat} {k:Fl} {es:Nat} {xs:List (List V)} (h0:ai m d=some (.sl k es xs)) (hf:FR H Z' (mA k es xs) (qT (ν d) k es xs.length)) (hz:∀id,Z id->Z' id)
 (hm:∀e ob',ai m' e=some ob'->e≠d/\∃ob,ai m e=some ob/\sameShape ob ob') (r:b_ ν m H Z sv y):b_ ν m' H Z' (sv.sub d (mA k es xs)) y:=by
 have hz':∀id,Z id->Z' id/\an H id=an H id:=λid h=>⟨hz id h,rfl⟩
 have hn:∀e ob',ai m' e=some ob'->∃ob,ai m e=some ob/\ν e=ν e/\sameShape ob ob':=λe ob' h=>by obtain⟨_,ob,h1,h2⟩:=hm e ob' h;exact⟨ob,h1,rfl,h2⟩
 induction r with
 | v x y h=>exact .v x y (h.mono hz')
 | own e y h=>
  simp only[SV.sub];split
  .rename_i he;subst he;obtain⟨_,_,_,e1,rfl⟩:=h _ h0;cases e1;exact .v _ _ hf
  .exact(b_.own e y h).mono hz' λe _=>hn e
 | ptr e o y h=>exact(b_.ptr e o y h).mono hz' λe _=>hn e
 | el e i o y h=>exact(b_.el e i o y h).mono hz' λe _=>hn e
 | mp e y h=>exact(b_.mp e y h).mono hz' λe _=>hn e
 | clo f a b a' b' ha hb hva hvb iha ihb=>
  refine .clo f _ _ a' b' (by rw[nJ];exact ha) (by rw[nJ];exact hb) (λj u v hu hv=>?_) (λj u v hu hv=>?_)
  .rw[rA,ζf]at hu;obtain⟨u',hu',rfl⟩:=hu;exact iha j u' v hu' hv
  .rw[rA,ζf]at hu;obtain⟨u',hu',rfl⟩:=hu;exact ihb j u' v hu' hv
 | tup a a' ha hva iha=>
  refine .tup _ a' (by rw[nJ];exact ha) (λj u v hu hv=>?_)
  rw[rA,ζf]at hu;obtain⟨u',hu',rfl⟩:=hu;exact iha j u' v hu' hv
 | agg a a' ha hva iha=>
  refine .agg _ a' (by rw[nJ];exact ha) (λj u v hu hv=>?_)
  rw[rA,ζf]at hu;obtain⟨u',hu',rfl⟩:=hu;exact iha j u' v hu' hv
 | yl id=>exact .yl id
theorem b_.zF {sv:SV} {y:V} {d:Nat} {cs:List SV} {xs:List V} (h0:ai m d=some (.box cs)) (hf:∀o,o<=xs.length->FR H Z' (.fptr (xs.drop o)) (.hptr (ν d).1 0 o)) (hz:∀id,Z id->Z' id)
 (hm:∀e ob',ai m' e=some ob'->e≠d/\∃ob,ai m e=some ob/\sameShape ob ob') (r:b_ ν m H Z sv y):b_ ν m' H Z' (sv.zF d xs) y:=by
 have hz':∀id,Z id->Z' id/\an H id=an H id:=λid h=>⟨hz id h,rfl⟩
 have hn:∀e ob',ai m' e=some ob'->∃ob,ai m e=some ob/\ν e=ν e/\sameShape ob ob':=λe ob' h=>by obtain⟨_,ob,h1,h2⟩:=hm e ob' h;exact⟨ob,h1,rfl,h2⟩
 induction r with
 | v x y h=>exact .v x y (h.mono hz')
 | own e y h=>exact(b_.own e y h).mono hz' λe _=>hn e
 | ptr e o y h=>
  simp only[SV.zF];split
  .rename_i he;subst he;obtain⟨_,e1,rfl⟩:=h _ h0;split
   .rename_i ho;exact .v _ _ (hf o ho)
   .exact(b_.ptr e o _ h).mono hz' λe _=>hn e
  .exact(b_.ptr e o y h).mono hz' λe _=>hn e
 | el e i o y h=>exact(b_.el e i o y h).mono hz' λe _=>hn e
 | mp e y h=>exact(b_.mp e y h).mono hz' λe _=>hn e
 | clo f a b a' b' ha hb hva hvb iha ihb=>
  refine .clo f _ _ a' b' (by rw[lY];exact ha) (by rw[lY];exact hb) (λj u v hu hv=>?_) (λj u v hu hv=>?_)
  .rw[qm,ζf]at hu;obtain⟨u',hu',rfl⟩:=hu;exact iha j u' v hu' hv
  .rw[qm,ζf]at hu;obtain⟨u',hu',rfl⟩:=hu;exact ihb j u' v hu' hv
 | tup a a' ha hva iha=>
  refine .tup _ a' (by rw[lY];exact ha) (λj u v hu hv=>?_)
  rw[qm,ζf]at hu;obtain⟨u',hu',rfl⟩:=hu;exact iha j u' v hu' hv
 | agg a a' ha hva iha=>
  refine .agg _ a' (by rw[lY];exact ha) (λj u v hu hv=>?_)
  rw[qm,ζf]at hu;obtain⟨u',hu',rfl⟩:=hu;exact iha j u' v hu' hv
 | yl id=>exact .yl id
theorem cZ.vR {d:Nat} {ob:aL} {f:List SV->List SV} (hz:∀id,Z id->Z' id) (hl:∀l,(f l).length=l.length)
 (hf:∀cs cs',bf ν m H Z cs cs'->bf ν m' H Z' (f cs) cs') (o:cZ ν m H Z d ob):cZ ν m' H Z' d (vR f ob):=by
 have hz':∀id,Z id->Z' id/\an H id=an H id:=λid h=>⟨hz id h,rfl⟩
 cases ob with
 | sl k es xs=>
  simp only[Go.VE.vR,cZ]at o ⊢;split
  .rename_i hk;rw[if_pos hk]at o;obtain⟨ys,h1,h2,h3,h4,h5⟩:=o;exact⟨ys,h1,h2,h3.mono hz',h4.mono hz',h5⟩
  .rename_i hk;rw[if_neg hk]at o;exact o
 | box cs=>
  obtain⟨es,cs',h1,h2,h3⟩:=o;exact⟨es,cs',h1,hf cs cs' h2,h3⟩
 | mp kvs=>
  obtain⟨kvs',h1,h2⟩:=o;exact⟨kvs',h1,h2.mono hz'⟩
theorem u_ {f:List SV->List SV} {ob:aL}:bM (vR f ob)=bM ob:=by cases ob <;> rfl
theorem AW {f:List SV->List SV} {ob:aL}:sameShape ob (vR f ob):=by cases ob <;> simp[vR,sameShape]
theorem R.shut (r:R ν Z st F H) {d:Nat} {ob:aL} (h0:ai st.m d=some ob) {fs:SV->SV} {fl:List SV->List SV} (hl:∀l,(fl l).length=l.length) (hg:∀l (j:Nat),(fl l)[j]? = (l[j]?).map fs)
 (hz':∀id,Z' id↔Z id\/(bM ob=true/\id=(ν d).1)) (hrow:bM ob=true->∃es ys,H[(ν d).1]? = some (.row es ys)/\s7 H Z ys)
 (hf:∀m',(∀e ob',ai m' e=some ob'->e≠d/\∃ob,ai st.m e=some ob/\sameShape ob ob')->∀sv y,b_ ν st.m H Z sv y->b_ ν m' H Z' (fs sv) y) :
 R ν Z' { st with g:=Af fs st.g,m:=mapM fl (cM d st.m) } F H/\Ev Rv ν Z st H ν Z' { st with g:=Af fs st.g,m:=mapM fl (cM d st.m) } H:=by
 have key:∀e ob',ai (mapM fl (cM d st.m)) e=some ob'->e≠d/\∃ob,ai st.m e=some ob/\ob'=vR fl ob:=λe ob' h=>by
  rw[Cz,ζf]at h;obtain⟨o,h1,rfl⟩:=h;obtain⟨h2,h3⟩:=n9 h1;exact⟨Ne.symm h2,o,h3,rfl⟩
 have key':∀e ob',ai (mapM fl (cM d st.m)) e=some ob'->e≠d/\∃ob,ai st.m e=some ob/\sameShape ob ob':=λe ob' h=>by
  obtain⟨h1,o,h2,rfl⟩:=key e ob' h;exact⟨h1,o,h2,AW⟩
 have hF:=hf _ key';have hFL:∀cs cs',bf ν st.m H Z cs cs'->bf ν (mapM fl (cM d st.m)) H Z' (fl cs) cs':=λcs cs' h=>by
  refine⟨by rw[hl];exact h.1,λj u v hu hv=>?_⟩
  rw[hg,ζf]at hu;obtain⟨u',hu',rfl⟩:=hu;exact hF u' v (h.2 j u' v hu' hv)
 have hzz:∀id,Z id->Z' id:=λid h=>(hz' id).2 (.inl h)
 refine⟨⟨λs sv hs=>?_,λe ob' he=>?_,λd1 d2 o1 o2 h1 h2 b1 b2 hp=>?_,λd1 o1 h1 b1=>?_,λid h=>?_,⟨λid es ys hz hr c hc u hu=>?_⟩⟩,⟨Nat.le_refl _,λ_ _ _ _ _=>rfl,λid h=>⟨hzz id h,rfl⟩,?_,?_,?_,rfl⟩⟩
 .rw[CK,ζf]at hs;obtain⟨sv',hs',rfl⟩:=hs;exact hF sv' _ (r.slot s sv' hs')
 .obtain⟨h1,o,h2,rfl⟩:=key e ob' he;exact cZ.vR hzz hl hFL (r.obj e o h2)
 .obtain⟨_,p1,k1,rfl⟩:=key d1 o1 h1;obtain⟨_,p2,k2,rfl⟩:=key d2 o2 h2;rw[u_]at b1 b2;exact r.inj d1 d2 p1 p2 k1 k2 b1 b2 hp
 .obtain⟨hne,p1,k1,rfl⟩:=key d1 o1 h1;rw[u_]at b1;intro hz;rcases (hz' _).1 hz with hz|⟨hb,he⟩
  .exact r.apart d1 p1 k1 b1 hz
  .exact hne (r.inj d1 d p1 ob k1 h0 b1 hb he)
 .rcases (hz' id).1 h with h|⟨hb,rfl⟩
  .exact r.zrow id h
  .obtain⟨es,ys,hr,_⟩:=hrow hb;unfold an;rw[hr];rfl
 .rcases (hz' id).1 hz with h|⟨hb,rfl⟩
  .obtain⟨x,hx⟩:=r.deep.row id es ys h hr c hc u hu;exact⟨x,hx.mono λk hk=>⟨hzz k hk,rfl⟩⟩
  .obtain⟨es',ys',hr',hs⟩:=hrow hb;unfold an at hr;rw[hr']at hr;simp only[ζb,Ob.rows,ζa,ζc]at hr;obtain⟨_,rfl⟩:=hr;obtain⟨x,hx⟩:=hs c hc u hu;exact⟨x,hx.mono λk hk=>⟨hzz k hk,rfl⟩⟩
 .rintro id ⟨e,o,h1,h2,h3⟩;obtain⟨_,p,k1,rfl⟩:=key e o h1;rw[u_]at h2;exact .inl ⟨e,p,k1,h2,h3⟩
 .intro id h;rcases (hz' id).1 h with h|⟨hb,rfl⟩
  .exact .inl h
  .exact .inr (.inl ⟨d,ob,h0,hb,rfl⟩)
 .intro e _ ob' h;obtain⟨_,o,k1,rfl⟩:=key e ob' h;exact⟨o,k1,rfl,AW⟩
theorem Fe (r:R ν Z st F H) {d:Nat} (h:xz d st=some st'):∃Z',R ν Z' st' F H/\Ev Rv ν Z st H ν Z' st' H:=by
 simp only[xz]at h;split at h
 .rename_i k es xs hob;simp only[ζa]at h;subst h;have o:=r.obj d _ hob;refine⟨λid=>Z id\/(bM (.sl k es xs)=true/\id=(ν d).1),R.shut r hob (λ_=>nJ) (λ_ _=>rA) (λ_=>Iff.rfl) (λhb=>?_) (λm' hm' sv y hr=>?_)⟩
  .have hk:bA k=true:=hb;simp only[cZ,hk,if_true]at o;obtain⟨ys,hr,_,_,hs,_⟩:=o;exact⟨es,ys,hr,hs⟩
  .refine b_.sub hob ?_ (λid h=>.inl h) hm' hr
   by_cases hk:bA k=true
   .simp only[cZ,hk,if_true]at o;obtain⟨ys,hr,hl,hf,hs,_⟩:=o;rw[qc hk];have e:mA k es xs=.fsl es xs:=by cases k <;> simp[bA]at hk <;> rfl
    rw[e];refine FR.GW (.inr ⟨hk,rfl⟩) (by unfold an;rw[hr];rfl) hl (hf.mono λid h=>⟨.inl h,rfl⟩)
   .cases k <;> simp[bA]at hk
    .exact .same _ rfl
    .exact .same _ rfl
 .simp at h
theorem I6 (r:R ν Z st F H) {d:Nat} (h:ghost (.closeB d) st=some st'):∃Z',R ν Z' st' F H/\Ev Rv ν Z st H ν Z' st' H:=by
 simp only[ghost]at h;split at h
 .rename_i cs hob;split at h
  .rename_i xs hx;simp only[ζa]at h;subst h;obtain⟨es,cs',hr,hc,_⟩:=r.obj d _ hob;have hf:=hc.cV hx;have hs:s7 H Z [cs']:=by
    intro c hcm u hu;simp only[List.mem_singleton]at hcm;subst hcm;obtain⟨j,hj⟩:=List.mem_iff_getElem?.1 hu;have hl:j<xs.length:=by rw[hf.1];exact(ζe.1 hj).1
    exact⟨_,hf.2 j _ u (ζd hl) hj⟩
   refine⟨λid=>Z id\/(bM (.box cs)=true/\id=(ν d).1),R.shut r hob (λ_=>lY) (λ_ _=>qm) (λ_=>Iff.rfl) (λhb=>⟨es,_,hr,hs⟩) (λm' hm' sv y hr'=>?_)⟩
   refine b_.zF hob (λo ho=>?_) (λid h=>.inl h) hm' hr'
   exact FR.Aq (.inr ⟨rfl,rfl⟩) (show an H (ν d).1=some (es,[cs'])by unfold an;rw[hr];rfl) rfl (by rw[<-hf.1];exact ho) ((hf.drop o).mono λid h=>⟨.inl h,rfl⟩)
  .simp at h
 .simp at h
theorem rB {d e:Nat}:∀{l:List SV} {j:Nat},(SV.sP d e l)[j]? = (l[j]?).map (SV.sw d e)
 | [],j=>by simp[SV.sP]
 | x::r,0=>by simp[SV.sP]
 | x::r,j+1=>by simp[SV.sP,rB (l:=r)]
theorem nk {d e:Nat}:∀{l:List SV},(SV.sP d e l).length=l.length
 | []=>rfl
 | x::r=>by simp[SV.sP,nk (l:=r)]
theorem Ci {d e:Nat}:∀{g:Tb SV} {s:Nat},ai (Ah d e g) s=(ai g s).map (SV.sw d e)
 | [],s=>rfl
 | (k,x)::r,s=>by
  simp only[Ah,ai];split
  .rfl
  .exact Ci
theorem xW {d e:Nat} (hne:d≠e):∀{m:Tb aL} {k:Nat},ai m e=none->ai (tN d e m) k=(if k=d then none else(ai m (if k=e then d else k)).map (aL.sw d e))
 | [],k,_=>by simp[tN,ai]
 | (n,x)::r,k,h=>by
  simp only[ai]at h;split at h
  .simp at h
  .rename_i hn;have ih:=xW hne (m:=r) (k:=k) h;simp only[tN,ai]
   by_cases h1:k=d
   .subst h1;rw[if_pos rfl]at ih ⊢
    by_cases h2:n=k
    .rw[if_pos h2,if_neg (Ne.symm hne)];exact ih
    .rw[if_neg h2,if_neg h2];exact ih
   .rw[if_neg h1]at ih ⊢
    by_cases h2:k=e
    .subst h2;rw[if_pos rfl]at ih ⊢
     by_cases h3:n=d
     .rw[if_pos h3,if_pos rfl,if_pos h3];rfl
     .rw[if_neg h3,if_neg hn,if_neg h3];exact ih
    .rw[if_neg h2]at ih ⊢
     by_cases h3:n=d
     .rw[if_pos h3,if_neg (Ne.symm h2),if_neg (by rw[h3];exact Ne.symm h1)];exact ih
     .rw[if_neg h3]
      by_cases h4:n=k
      .rw[if_pos h4,if_pos h4];rfl
      .rw[if_neg h4,if_neg h4];exact ih
def tj (ν:Nu) (d e:Nat):Nu:=λk=>if k=e then ν d else ν k
theorem b_.sw {sv:SV} {y:V} {d e:Nat} (hn:ai m e=none) (hs:sv.bQ e=false) (hne:d≠e) (r:b_ ν m H Z sv y):b_ (tj ν d e) (tN d e m) H Z (sv.sw d e) y:=by
 have key:∀k,k≠e->∀ob',ai (tN d e m) (if k=d then e else k)=some ob'->∃ob,ai m k=some ob/\tj ν d e (if k=d then e else k)=ν k/\ob'=ob.sw d e:=λk hk ob' h=>by
  rw[xW hne hn]at h
  by_cases h1:k=d
  .subst h1;rw[if_pos rfl,if_neg (Ne.symm hne),if_pos rfl,ζf]at h;obtain⟨ob,h2,rfl⟩:=h;exact⟨ob,h2,by rw[if_pos rfl];unfold tj;rw[if_pos rfl],rfl⟩
  .rw[if_neg h1,if_neg h1,if_neg hk,ζf]at h;obtain⟨ob,h2,rfl⟩:=h;exact⟨ob,h2,by rw[if_neg h1];unfold tj;rw[if_neg hk],rfl⟩
 induction r with
 | v x y h=>exact .v x y h
 | own k y h=>
  have hk:k≠e:=by rintro rfl;simp[SV.bQ]at hs
  refine .own _ y λob' ho=>?_
  obtain⟨ob,h1,h2,rfl⟩:=key k hk ob' ho;obtain⟨_,_,_,rfl,rfl⟩:=h ob h1;exact⟨_,_,_,rfl,by rw[h2]⟩
 | ptr k o y h=>
  have hk:k≠e:=by rintro rfl;simp[SV.bQ]at hs
  refine .ptr _ o y λob' ho=>?_
  obtain⟨ob,h1,h2,rfl⟩:=key k hk ob' ho;obtain⟨_,rfl,rfl⟩:=h ob h1;exact⟨_,rfl,by rw[h2]⟩
 | el k i o y h=>
  have hk:k≠e:=by rintro rfl;simp[SV.bQ]at hs
  refine .el _ i o y λob' ho=>?_
  obtain⟨ob,h1,h2,rfl⟩:=key k hk ob' ho;obtain⟨_,_,_,rfl,h3,rfl⟩:=h ob h1;exact⟨_,_,_,rfl,h3,by rw[h2]⟩
 | mp k y h=>
  have hk:k≠e:=by rintro rfl;simp[SV.bQ]at hs
  refine .mp _ y λob' ho=>?_
  obtain⟨ob,h1,h2,rfl⟩:=key k hk ob' ho;obtain⟨_,rfl,rfl⟩:=h ob h1;exact⟨_,rfl,by rw[h2]⟩
 | clo f a b a' b' ha hb hva hvb iha ihb=>
  simp only[SV.bQ,Bool.or_eq_false_iff]at hs;refine .clo f _ _ a' b' (by rw[nk];exact ha) (by rw[nk];exact hb) (λj u v hu hv=>?_) (λj u v hu hv=>?_)
  .rw[rB,ζf]at hu;obtain⟨u',hu',rfl⟩:=hu;exact iha j u' v hu' hv (rq hs.1 hu')
  .rw[rB,ζf]at hu;obtain⟨u',hu',rfl⟩:=hu;exact ihb j u' v hu' hv (rq hs.2 hu')
 | tup a a' ha hva iha=>
  simp only[SV.bQ]at hs;refine .tup _ a' (by rw[nk];exact ha) (λj u v hu hv=>?_)
  rw[rB,ζf]at hu;obtain⟨u',hu',rfl⟩:=hu;exact iha j u' v hu' hv (rq hs hu')
 | agg a a' ha hva iha=>
  simp only[SV.bQ]at hs;refine .agg _ a' (by rw[nk];exact ha) (λj u v hu hv=>?_)
  rw[rB,ζf]at hu;obtain⟨u',hu',rfl⟩:=hu;exact iha j u' v hu' hv (rq hs hu')
 | yl id=>exact .yl id
theorem Kc (r:R ν Z st F H) {d e:Nat} (hne:d≠e) (hn:st.new e=true):R (tj ν d e) Z { st with g:=Ah d e st.g,m:=tN d e st.m } F H/\Ev Rv ν Z st H (tj ν d e) Z { st with g:=Ah d e st.g,m:=tN d e st.m } H:=by
 obtain⟨n1,n2,n3,n4⟩:=lI hn;have key:∀k ob',ai (tN d e st.m) k=some ob'->∃k0 ob,ai st.m k0=some ob/\ob'=ob.sw d e/\tj ν d e k=ν k0/\k≠d/\(k=e/\k0=d\/k≠e/\k0=k):=λk ob' h=>by
  rw[xW hne n2]at h;split at h
  .simp at h
  .rename_i h1;rw[ζf]at h;obtain⟨ob,h2,rfl⟩:=h
   by_cases h3:k=e
   .rw[if_pos h3]at h2;exact⟨d,ob,h2,rfl,by unfold tj;rw[if_pos h3],h1,.inl ⟨h3,rfl⟩⟩
   .rw[if_neg h3]at h2;exact⟨k,ob,h2,rfl,by unfold tj;rw[if_neg h3],h1,.inr ⟨h3,rfl⟩⟩
 have bk:∀ob:aL,bM (ob.sw d e)=bM ob:=λob=>by cases ob <;> rfl
 refine⟨⟨λs sv hs=>?_,λk ob' hk=>?_,λd1 d2 o1 o2 h1 h2 b1 b2 hp=>?_,λd1 o1 h1 b1=>?_,r.zrow,r.deep⟩,⟨Nat.le_refl _,λ_ _ _ _ _=>rfl,λid h=>⟨h,rfl⟩,?_,λ_ h=>.inl h,?_,rfl⟩⟩
 .simp only at hs;rw[Ci,ζf]at hs;obtain⟨sv',hs',rfl⟩:=hs;exact b_.sw n2 (wh n3 hs') hne (r.slot s sv' hs')
 .obtain⟨k0,ob,h1,rfl,h2,_,_⟩:=key k ob' hk;have o:=r.obj k0 ob h1
  cases ob with
  | sl fl es xs=>simp only[aL.sw,cZ,h2]at o ⊢;exact o
  | box cs=>
   obtain⟨es,cs',g1,g2,g3⟩:=o;have hns:SV.cu e cs=false:=by have:=vO n4 h1;simpa [aL.bQ]using this
   refine⟨es,cs',by rw[h2];exact g1,⟨by rw[nk];exact g2.1,λj u v hu hv=>?_⟩,g3⟩
   rw[rB,ζf]at hu;obtain⟨u',hu',rfl⟩:=hu;exact b_.sw n2 (rq hns hu') hne (g2.2 j u' v hu' hv)
  | mp kvs=>simp only[aL.sw,cZ,h2]at o ⊢;exact o
 .obtain⟨k1,p1,g1,rfl,e1,c1,c2⟩:=key d1 o1 h1;obtain⟨k2,p2,g2,rfl,e2,c3,c4⟩:=key d2 o2 h2;rw[bk]at b1 b2;have:=r.inj k1 k2 p1 p2 g1 g2 b1 b2 (by rw[<-e1,<-e2];exact hp)
  omega
 .obtain⟨k1,p1,g1,rfl,e1,_⟩:=key d1 o1 h1;rw[bk]at b1;rw[e1];exact r.apart k1 p1 g1 b1
 .rintro id ⟨k,o,h1,h2,h3⟩;obtain⟨k1,p1,g1,rfl,e1,_⟩:=key k o h1;rw[bk]at h2;exact .inl ⟨k1,p1,g1,h2,by rw[<-e1];exact h3⟩
 .intro k hk ob' h;obtain⟨k1,p1,g1,rfl,e1,c1,c2⟩:=key k ob' h;rcases c2 with⟨rfl,_⟩|⟨c2,rfl⟩
  .exact absurd hk n1
  .exact⟨p1,g1,e1,by cases p1 <;> simp[aL.sw,sameShape]⟩
theorem R.UR (r:R ν Z st F H) {n:Nat} {sv:SV} (h:b_ ν st.m H Z sv (get F n)):R ν Z { st with g:=aO st.g n sv } F H where
 slot:=λs x hs=>by
  by_cases e:n=s
  .subst e;rw[bK]at hs;cases hs;exact h
  .rw[cT st.g sv e]at hs;exact r.slot s x hs
 obj:=r.obj
 inj:=r.inj
 apart:=r.apart
 zrow:=r.zrow
 deep:=r.deep
theorem Ky (r:R ν Z st F H) {n d es:Nat} {k:Fl} {x:V} (hk:mA k es []=x/\bA k=false) (hs:ai st.g n=some (.v x)) (hn:st.new d=true) (hx:∀y,FR H Z x y->y=x) (hxx:qT (ν d) k es 0=x) :
 R (gR ν d (ν d)) Z { st with g:=aO st.g n (.own d),m:=aO st.m d (.sl k es []) } F H/\Ev Rv ν Z st H (gR ν d (ν d)) Z { st with g:=aO st.g n (.own d),m:=aO st.m d (.sl k es []) } H:=by
 have hnb:bM (.sl k es [])=true->False:=by simp[bM,hk.2]
 have r1:=r.add hn (p:=ν d) (ob:=.sl k es []) (λh=>(hnb h).elim) (by simp[cZ,hk.2])
 refine⟨r1.UR (n:=n) (sv:=.own d) (.own _ _ λob' h'=>?_),?_⟩
 .simp only at h';rw[bK]at h';cases h';refine⟨_,_,_,rfl,?_⟩;rw[ga,hx _ (r.slot n _ hs).fr];exact hxx.symm
 .exact(Ev.add (H':=H) hn (Nat.le_refl _) (λ_ _ _=>rfl) (λ_ _=>rfl) (λh=>(hnb h).elim)).trans (Ev.slots _)
theorem IL (r:R ν Z st F H) {b i d es:Nat} {k:Fl} {x:V} {cs:List SV} (hk:bA k=false) (hb:ai st.m b=some (.box cs)) (hi:cs[i]? = some (.v x)) (hn:st.new d=true) (hx:∀y,FR H Z x y->y=x) (hxx:qT (ν d) k es 0=x) :
 ∃ν',R ν' Z { st with m:=aO (aO st.m d (.sl k es [])) b (.box (cs.set i (.own d))) } F H/\Ev Rv ν Z st H ν' Z { st with m:=aO (aO st.m d (.sl k es [])) b (.box (cs.set i (.own d))) } H:=by
 have hnb:bM (.sl k es [])=true->False:=by simp[bM,hk]
 have r1:=r.add hn (p:=ν d) (ob:=.sl k es []) (λh=>(hnb h).elim) (by simp[cZ,hk])
 have hne:b≠d:=by rintro rfl;rw[(lI hn).2.1]at hb;cases hb
 have hb1:ai (aO st.m d (.sl k es [])) b=some (.box cs):=by rw[cT _ _ (Ne.symm hne)];exact hb
 obtain⟨es1,cs',h1,h2,h3⟩:=r1.obj b _ hb1;have sm:∀e ob',ai (aO (aO st.m d (.sl k es [])) b (.box (cs.set i (.own d)))) e=some ob'->∃ob,ai (aO st.m d (.sl k es [])) e=some ob/\gR ν d (ν d) e=gR ν d (ν d) e/\sameShape ob ob':=λe ob' h=>by
  by_cases he:e=b
  .subst he;rw[bK]at h;cases h;exact⟨_,hb1,rfl,trivial⟩
  .rw[cT _ _ (Ne.symm he)]at h;exact⟨ob',h,rfl,.refl _⟩
 refine⟨gR ν d (ν d),r1.eW (H':=H) hb1 (ob':=.box (cs.set i (.own d))) trivial rfl (λ_ _=>rfl) rfl ⟨es1,cs',h1,⟨by simp[h2.1],λj u v hu hv=>?_⟩,h3⟩,?_⟩
 .rw[List.getElem?_set]at hu;split at hu
  .rename_i e;subst e;split at hu
   .cases hu;refine .own _ _ λob' h'=>?_
    rw[cT _ _ hne,bK]at h';cases h';refine⟨_,_,_,rfl,?_⟩;rw[ga,hx v (h2.2 i _ v hi hv).fr];exact hxx.symm
   .simp at hu
  .exact(h2.2 j u v hu hv).mono (λid h=>⟨h,rfl⟩) λe _=>sm e
 .exact(Ev.add (H':=H) hn (Nat.le_refl _) (λ_ _ _=>rfl) (λ_ _=>rfl) (λh=>(hnb h).elim)).trans (Ev.eW r1 hb1 trivial rfl (λ_ _=>rfl) rfl (Nat.le_refl _))
theorem LZ (r:R ν Z st F H) {x:Gh} (h:ghost x st=some st'):∃ν' Z',R ν' Z' st' F H/\Ev Rv ν Z st H ν' Z' st' H:=by
 cases x with
 | close d=>obtain⟨Z',a,b⟩:=Fe (Rv:=Rv) r h;exact⟨ν,Z',a,b⟩
 | closeS l=>
  simp only[ghost]at h;split at h
  .obtain⟨Z',a,b⟩:=Fe (Rv:=Rv) r h;exact⟨ν,Z',a,b⟩
  .simp only[ζa]at h;subst h;exact⟨ν,Z,r,.refl⟩
  .simp at h
 | closeB d=>obtain⟨Z',a,b⟩:=I6 (Rv:=Rv) r h;exact⟨ν,Z',a,b⟩
 | keep gs ms=>
  simp only[ghost]at h;split at h
  .rename_i g m hg hm;simp only[ζa]at h;subst h;exact⟨ν,Z,r.less (λs sv hs=>oI hg hs) (λd ob hd=>oI hm hd),Ev.less (λd ob hd=>oI hm hd)⟩
  .simp at h
 | drop ds=>
  simp only[ghost,ζa]at h;subst h;exact⟨ν,Z,r.less (g:=uh ds st.g) (m':=st.m) (λs sv hs=>sY hs) (λd ob hd=>hd),Ev.less (g:=uh ds st.g) (m':=st.m) (λd ob hd=>hd)⟩
 | canon l d es=>
  cases l with
  | s n=>
   simp only[ghost]at h;split at h
   .rename_i hs;split at h
    .rename_i hn;simp only[ζa]at h;subst h;obtain⟨a,b⟩:=Ky (Rv:=Rv) (es:=es) (k:=.nil) r ⟨rfl,rfl⟩ hs hn (λy h=>h.aF) rfl
     exact⟨_,_,a,b⟩
    .simp at h
   .rename_i hs;split at h
    .rename_i hn;simp only[ζa]at h;subst h;obtain⟨a,b⟩:=Ky (Rv:=Rv) (es:=es) (k:=.emp) r ⟨rfl,rfl⟩ hs hn (λy h=>h.cI) rfl
     exact⟨_,_,a,b⟩
    .simp at h
   .rename_i e hs;split at h
    .simp only[ζa]at h;subst h;exact⟨ν,Z,r,.refl⟩
    .rename_i hne;split at h
     .rename_i hn;simp only[ζa]at h;subst h;obtain⟨a,b⟩:=Kc (Rv:=Rv) r hne hn;exact⟨_,_,a,b⟩
     .simp at h
   .simp at h
  | c b i=>
   simp only[ghost]at h;split at h
   .rename_i cs hb;split at h
    .rename_i hs;split at h
     .rename_i hn;simp only[ζa]at h;subst h;obtain⟨ν',a,b⟩:=IL (Rv:=Rv) (es:=es) (k:=.nil) r rfl hb hs hn (λy h=>h.aF) rfl
      exact⟨_,_,a,b⟩
     .simp at h
    .rename_i hs;split at h
     .rename_i hn;simp only[ζa]at h;subst h;obtain⟨ν',a,b⟩:=IL (Rv:=Rv) (es:=es) (k:=.emp) r rfl hb hs hn (λy h=>h.cI) rfl
      exact⟨_,_,a,b⟩
     .simp at h
    .rename_i e hs;split at h
     .simp only[ζa]at h;subst h;exact⟨ν,Z,r,.refl⟩
     .rename_i hne;split at h
      .rename_i hn;simp only[ζa]at h;subst h;obtain⟨a,b⟩:=Kc (Rv:=Rv) r hne hn;exact⟨_,_,a,b⟩
      .simp at h
    .simp at h
   .simp at h
end
end Go.VE
namespace Go.VE
variable [aS]
structure mI (E:Env) (f:FuncId) (q:Cq):Prop where
 keep:E.keep f=true
 own:E.own f=false
 le:∀es xs vs ys,q.go es xs vs=some ys->ys.length<=xs.length/\(q.part=false->ys.length=xs.length)
 none:∀es vs ys,q.go es [] vs=some ys->∀(H:ak) (Z:Nat->Prop) (ws:List V) (w:V),b9 H Z vs ws->(w=.aF\/w=.cI)->∃n X,∀k,n<=k->run E k (.fn f) (w::ws) H=some (if q.part then w else .undef,H++X)
 row:∀es xs vs ys,q.go es xs vs=some ys->∀(H:ak) (Z:Nat->Prop) (ws:List V) (id off:Nat) (rs:List (List V)),b9 H Z vs ws->H[id]? = some (.row es rs)->off+xs.length<=rs.length ->
  eG H Z xs ((rs.drop off).take xs.length)->s7 H Z rs->¬Z id->∃n rs' X,(∀k,n<=k->run E k (.fn f) (.hsl id es off xs.length::ws) H=some (if q.part then .hsl id es off ys.length else .undef,(H++X).set id (.row es rs'))) /\
   rs'.length=rs.length/\eG H Z ys ((rs'.drop off).take ys.length)/\s7 H Z rs'
section
variable {Rv:Nat->Prop} {ν ν':Nu} {Z Z':Nat->Prop} {st st':St} {m m':Tb aL} {F F':Frame} {H H':ak}
theorem O2 {E:Env} {f:FuncId} {q:Cq} (hq:mI E f q) (r:R ν Z st F H) {args:List SV} {ys:List V} (ha:bf ν st.m H Z args ys) {dst:Option Nat} {sv:SV} (h:zM q dst args st=some (sv,st')) :
 ∃n y H' ν',(∀k,n<=k->run E k (.fn f) ys H=some (y,H'))/\R ν' Z st' F H'/\b_ ν' st'.m H' Z sv y/\Ev Rv ν Z st H ν' Z st' H'/\Kept dst ν st.m ν' st'.m:=by
 unfold zM at h;split at h
 .rename_i d vs;obtain⟨w,ws,rfl,h1,h2⟩:=ha.inv;split at h
  .rename_i k es xs zs hob hz;have hws:=bf.cV h2 hz;split at h
   .rename_i ns hgo;obtain⟨hle,heq⟩:=hq.le _ _ _ _ hgo;obtain⟨_,_,_,ee,rfl⟩:=h1.jA hob;cases ee;have grow:∀X:ak,R ν Z st F (H++X)/\Ev Rv ν Z st H ν Z st (H++X)/\∀id,Z id->an (H++X) id=an H id:=λX=>by
     have hx:∀id,id<H.length->(H++X)[id]? = H[id]? := λid h=>List.getElem?_append_left h
     have hz:∀id,Z id->an (H++X) id=an H id:=λid h=>by unfold an;rw[hx id (r.tW h)]
     exact⟨r.heap (λid h=>hx id (r.lt h)) hz,Ev.heap (by simp) (λid h _ _ _=>hx id h) hz,hz⟩
    have o:=r.obj d _ hob
    cases hk:bA k with
    | false=>
     simp only[cZ,hk,Bool.false_eq_true,if_false]at o;subst o;have hw:qT (ν d) k es 0=.aF\/qT (ν d) k es 0=.cI:=by cases k <;> simp[qT,bA]at hk ⊢
     obtain⟨n,X,hn⟩:=hq.none _ _ _ hgo H Z ws _ hws hw;obtain⟨r0,ev0,hz0⟩:=grow X;simp only[hk,Bool.false_eq_true,if_false]at h;split at h
     .rename_i hp;split at h
      .rename_i t;split at h
       .rename_i hnew;simp only[ζa,ζc]at h;obtain⟨rfl,rfl⟩:=h;have r1:R ν Z { st with m:=cM d st.m } F (H++X):=r0.less (g:=st.g) (λ_ _ h=>h) iY
        rw[if_pos hp]at hn;refine⟨n,_,H++X,gR ν t (ν d),hn,r1.add hnew (λhb=>by simp[bM,hk]at hb) (by simp[cZ,hk]),?_,?_,Kept.add iY⟩
        .refine .own _ _ λob' h'=>?_
         simp only at h';rw[bK]at h';cases h';exact⟨_,_,_,rfl,by rw[ga];rfl⟩
        .exact ev0.trans (Ev.re (st:=st) iY (lI hnew).1 (Nat.le_refl _) (λ_ _ _ _=>rfl) (λ_ _=>rfl) (λhb=>by simp[bM,hk]at hb))
       .cases h
      .cases h
     .rename_i hp;simp only[ζa,ζc]at h;obtain⟨rfl,rfl⟩:=h;rw[if_neg hp]at hn;have hu:aO st.m d (.sl k es [])=st.m:=qo hob;rw[hu];exact⟨n,_,H++X,ν,hn,r0,.v _ _ (.same _ rfl),ev0,.refl⟩
    | true=>
     simp only[cZ,hk,if_true]at o;obtain⟨rs,hr,hl,hf,hsol,hrow⟩:=o;have hbk:bM (.sl k es xs)=true:=hk;obtain⟨n,rs',X,hn,e1,e2,e3⟩:=hq.row _ _ _ _ hgo H Z ws _ _ rs hws hr hl hf hsol (r.apart d _ hob hbk);obtain⟨r0,ev0,hz0⟩:=grow X;have hlt:(ν d).1<(H++X).length:=by have:=(ζe.1 hr).1;simp;omega
     have hz:∀id,Z id->Z id/\an ((H++X).set (ν d).1 (.row es rs')) id=an H id:=λid hid=>⟨hid,by
      rw[<-hz0 id hid];unfold an;rw[List.getElem?_set_ne];rintro rfl;exact r.apart d _ hob hbk hid⟩
     have hzx:∀id,Z id->an ((H++X).set (ν d).1 (.row es rs')) id=an (H++X) id:=λid hid=>by rw[(hz id hid).2,hz0 id hid]
     have hh:∀id,id≠(ν d).1->((H++X).set (ν d).1 (Ob.row es rs'))[id]? = (H++X)[id]? := λid hne=>List.getElem?_set_ne (Ne.symm hne)
     have hself:((H++X).set (ν d).1 (Ob.row es rs'))[(ν d).1]? = some (.row es rs'):=List.getElem?_set_self hlt;rw[qc hk];simp only[hk,if_true]at h;split at h
     .rename_i hp;split at h
      .rename_i t;split at h
       .rename_i hnew;simp only[ζa,ζc]at h;obtain⟨rfl,rfl⟩:=h;have r1:R ν Z { st with m:=cM d st.m } F (H++X):=r0.less (g:=st.g) (λ_ _ h=>h) iY
        have hno:¬dW ν (cM d st.m) (ν d).1:=by
         rintro⟨k2,o2,g1,g2,g3⟩;obtain⟨g4,g5⟩:=n9 g1;exact g4 (r.inj d k2 _ o2 hob g5 hbk g2 g3.symm)
        have r2:R ν Z { st with m:=cM d st.m } F ((H++X).set (ν d).1 (.row es rs')):=r1.heap (λid ho=>hh id (by rintro rfl;exact hno ho)) hzx
        rw[if_pos hp]at hn;refine⟨n,_,_,gR ν t (ν d),hn,r2.add hnew (λ_=>⟨hno,r.apart d _ hob hbk⟩) ?_,?_,?_,Kept.add iY⟩
        .simp only[cZ,bA,if_true,ga];exact⟨rs',hself,by omega,e2.mono hz,e3.mono hz,λe=>by cases e⟩
        .refine .own _ _ λob' h'=>?_
         simp only at h';rw[bK]at h';cases h';exact⟨_,_,_,rfl,by rw[ga];rfl⟩
        .exact ev0.trans (Ev.re (st:=st) iY (lI hnew).1 (by simp) (λid _ ho _=>hh id (by rintro rfl;exact ho ⟨d,_,hob,hbk,rfl⟩)) hzx (λ_=>.inl ⟨d,_,hob,hbk,rfl⟩))
       .cases h
      .cases h
     .rename_i hp;simp only[ζa,ζc]at h;obtain⟨rfl,rfl⟩:=h;rw[if_neg hp]at hn;have hp':q.part=false:=by simpa using hp
      have hlen:=heq hp';have hss:sameShape (.sl k es xs) (.sl k es ns):=⟨rfl,rfl,hlen⟩;refine⟨n,_,_,ν,hn,r0.eW hob hss rfl hh hbk ?_,.v _ _ (.same _ rfl),ev0.trans (Ev.eW r0 hob hss rfl hh hbk (by simp)),Kept.eW hob hss⟩
      simp only[cZ,hk,if_true];exact⟨rs',hself,by omega,e2.mono hz,e3.mono hz,λe=>⟨(hrow e).1,by rw[e1,(hrow e).2,hlen]⟩⟩
   .cases h
  .cases h
 .cases h
end
end Go.VE
namespace Go.VE
variable [aS]
def uV:Nat->List SV->Tb SV
 | _,[]=>[]
 | i,v::vs=>(i,v)::uV (i+1) vs
def start (svs:List SV) (m0:gI):St:=⟨uV 0 svs,m0,m0.map (·.1),[],true,0⟩
def jR (S:Sys) (c:bG):Prop:=
 ∀f svs m0 rs m1,c f svs m0=some (rs,m1)->∀(ν:Nu) (Z:Nat->Prop) (args:List V) (H:ak),(S.E.keep f=true\/H=[])->R ν Z (start svs m0) args H->bf ν m0 H Z svs args ->
  ∃n y H' ν' Z' st' F' ys,run S.E n (.fn f) args H=some (y,H')/\y=result ys/\st'.m=m1/\bf ν' m1 H' Z' rs ys/\R ν' Z' st' F' H'/\Ev (λ_=>False) ν Z (start svs m0) H ν' Z' st' H'
section
variable {Rv:Nat->Prop} {ν ν':Nu} {Z Z':Nat->Prop} {st st':St} {m m':Tb aL} {F F':Frame} {H H' H1:ak} {N:Nat->FuncId}
mutual
theorem nG:∀{x:V},x.scalar=true->x.good=true
 | .bool _,_|.int ..,_|.str _,_|.fD,_|.dY,_|.ql,_|.cI,_|.aF,_=>rfl
 | .agg cs,h=>by simp only[V.scalar]at h;simp only[V.good];exact om h
 | .tup cs,h=>by simp only[V.scalar]at h;simp only[V.good];exact om h
 | .fsl ..,h|.hsl ..,h|.fptr ..,h|.hptr ..,h|.clo ..,h|.yld _,h|.fmap _,h|.hmap _,h=>by simp[V.scalar]at h
theorem om:∀{l:List V},V.bu l=true->V.bF l=true
 | [],_=>rfl
 | x::r,h=>by
  simp only[V.bu,ζh]at h;simp only[V.bF,ζh];exact⟨nG h.1,om h.2⟩
end
theorem Lq {k:Fl} {es:Nat} {xs:List (List V)} {d:Nat} (o:cZ ν m H Z d (.sl k es xs)):(mA k es xs).good=true:=by
 by_cases hk:bA k=true
 .simp only[cZ,hk,if_true]at o;obtain⟨ys,_,_,hf,_⟩:=o;have e:mA k es xs=.fsl es xs:=by cases k <;> simp[bA]at hk <;> rfl
  rw[e];simp only[V.good];exact hf.good
 .cases k <;> simp[bA]at hk <;> rfl
mutual
theorem Kl (ho:∀d ob,ai m d=some ob->cZ ν m H Z d ob):∀(n:Nat) (sv:SV) (x y:V),shut m n sv=some x->b_ ν m H Z sv y->x.good=true
 | n,.v x,z,y,h,r=>by simp only[shut,ζa]at h;subst h;exact r.fr.good
 | n,.own d,z,y,h,r=>by
  simp only[shut]at h;split at h
  .rename_i k es xs hob;simp only[ζa]at h;subst h;exact Lq (ho d _ hob)
  .simp at h
 | 0,.ptr d o,z,y,h,r=>by simp[shut]at h
 | n+1,.ptr d o,z,y,h,r=>by
  simp only[shut]at h;split at h
  .rename_i cs hob;split at h
   .rename_i xs hx;split at h
    .simp only[ζa]at h;subst h;obtain⟨es,cs',_,hc,_⟩:=ho d _ hob;simp only[V.good];exact vU _ (kZ ho n cs xs cs' hx hc)
    .simp at h
   .simp at h
  .simp at h
 | n,.el d i o,z,y,h,r=>by cases n <;> simp[shut]at h
 | n,.yl id,z,y,h,r=>by cases n <;> simp[shut]at h
 | n,.mp d,z,y,h,r=>by
  simp only[shut]at h;split at h
  .rename_i kvs hob;simp only[ζa]at h;subst h;obtain⟨kvs',_,hk⟩:=ho d _ hob;simp only[V.good];refine CG.2 λj u hu=>?_
   have hj:j<kvs'.length:=by rw[<-hk.1];exact(ζe.1 hu).1
   obtain⟨⟨_,h1⟩,h2⟩:=hk.2 j u _ hu (ζd hj);exact⟨nG h1,h2.good⟩
  .simp at h
 | 0,.clo f a b,z,y,h,r=>by simp[shut]at h
 | n+1,.clo f a b,z,y,h,r=>by
  simp only[shut]at h;split at h
  .rename_i x1 x2 h1 h2;simp only[ζa]at h;subst h;obtain⟨a',b',rfl,ra,rb⟩:=r.iL;simp only[V.good,ζh];exact⟨kZ ho n a x1 a' h1 ra,kZ ho n b x2 b' h2 rb⟩
  .simp at h
 | 0,.tup l,z,y,h,r=>by simp[shut]at h
 | n+1,.tup l,z,y,h,r=>by
  simp only[shut]at h;obtain⟨xs,h1,rfl⟩:=ζf.1 h;obtain⟨l',rfl,rl⟩:=r.oB;simp only[V.good];exact kZ ho n l xs l' h1 rl
 | 0,.agg l,z,y,h,r=>by simp[shut]at h
 | n+1,.agg l,z,y,h,r=>by
  simp only[shut]at h;obtain⟨xs,h1,rfl⟩:=ζf.1 h;obtain⟨l',rfl,rl⟩:=r.gn;simp only[V.good];exact kZ ho n l xs l' h1 rl
theorem kZ (ho:∀d ob,ai m d=some ob->cZ ν m H Z d ob):∀(n:Nat) (svs:List SV) (xs ys:List V),bW m n svs=some xs->bf ν m H Z svs ys->V.bF xs=true
 | n,[],xs,ys,h,r=>by simp only[bW,ζa]at h;subst h;rfl
 | n,sv::svs,xs,ys,h,r=>by
  simp only[bW]at h;split at h
  .rename_i y s h1 h2;simp only[ζa]at h;subst h;obtain⟨y',ys',rfl,r1,r2⟩:=r.inv;simp only[V.bF,ζh];exact⟨Kl ho n sv y y' h1 r1,kZ ho n svs s ys' h2 r2⟩
  .simp at h
end
theorem Ee {f:V->Option V}:∀{xs ys:List (V×V)},xs.length=ys.length->(∀(j:Nat) u v,xs[j]? = some u->ys[j]? = some v->f v.1=some u.1/\f v.2=some u.2)->rU f ys=some xs
 | [],[],_,_=>rfl
 | [],y::ys,h,_=>by simp at h
 | x::xs,[],h,_=>by simp at h
 | (a,b)::xs,(c,d)::ys,h,hf=>by
  obtain⟨h1,h2⟩:=hf 0 _ _ rfl rfl;simp only at h1 h2;simp only[rU,h1,h2,Ee (xs:=xs) (ys:=ys) (by simpa using h) λj u v hu hv=>hf (j+1) u v (by simpa using hu) (by simpa using hv)]
theorem DB:∀{l:List (V×V)} {n:Nat},V.nK n l=true↔∀(j:Nat) u,l[j]? = some u->u.1.lvl n=true/\u.2.lvl n=true
 | [],n=>by simp[V.nK]
 | (k,x)::l,n=>by
  simp only[V.nK,ζh,DB (l:=l)];constructor
  .rintro⟨h1,h2⟩ j u hu
   cases j with
   | zero=>simp at hu;subst hu;exact h1
   | succ j=>exact h2 j u (by simpa using hu)
  .intro h;exact⟨h 0 (k,x) rfl,λj u hu=>h (j+1) u (by simpa using hu)⟩
theorem sy {n:Nat} {xs ys:List V} (hm:iG (borrow n H1) ys=some xs) (hcl:V.jF ys=true):ys=xs:=by
 have h2:=jx (f:=borrow n H1) (xs:=ys) (ys:=ys) rfl λj u v hu hv=>by rw[hu]at hv;cases hv;exact cQ n H1 (nF.1 hcl j u hu)
 rw[hm]at h2;cases h2;rfl
mutual
theorem zp {fr:List Nat} (hfr:∀d∈fr,∀e ob,ai m e=some ob->ob.bQ d=false) (ho:∀d ob,ai m d=some ob->d∉fr->cZ ν m H1 Z d ob) :
 ∀(n:Nat) (sv:SV) (x y:V),shut m n sv=some x->(∀d∈fr,sv.bQ d=false)->b_ ν m H1 Z sv y->∀k,x.lvl k=true->borrow k H1 y=some x
 | n,.v x,z,y,h,hn,r,k,hk=>by simp only[shut,ζa]at h;subst h;exact r.fr.borrow k hk
 | n,.own d,z,y,h,hn,r,k,hk=>by
  simp only[shut]at h;split at h
  .rename_i fl es xs hob;simp only[ζa]at h;subst h;obtain⟨_,_,_,e,rfl⟩:=r.jA hob;cases e;have hd:d∉fr:=λhd=>by have:=hn d hd;simp[SV.bQ]at this
   have o:=ho d _ hob hd
   by_cases hkk:bA fl=true
   .simp only[cZ,hkk,if_true]at o;obtain⟨ys,hr,hl,hf,_⟩:=o;rw[qc hkk];have e:mA fl es xs=.fsl es xs:=by cases fl <;> simp[bA]at hkk <;> rfl
    rw[e]at hk ⊢;exact(FR.GW (Z:=λ_=>True) trivial (show an H1 (ν d).1=some (es,ys)by unfold an;rw[hr];rfl) hl (hf.mono λid h=>⟨trivial,rfl⟩)).borrow k hk
   .cases fl <;> simp[bA]at hkk
    .exact cQ k H1 rfl
    .exact cQ k H1 rfl
  .simp at h
 | 0,.ptr d o,z,y,h,hn,r,k,hk=>by simp[shut]at h
 | n+1,.ptr d o,z,y,h,hn,r,k,hk=>by
  simp only[shut]at h;split at h
  .rename_i cs hob;split at h
   .rename_i xs hx;split at h
    .rename_i hle;simp only[ζa]at h;subst h;obtain⟨_,e,rfl⟩:=r.nq hob;cases e;have hd:d∉fr:=λhd=>by have:=hn d hd;simp[SV.bQ]at this
     obtain⟨es,cs',hr,hc,_⟩:=ho d _ hob hd
     cases k with
     | zero=>simp[V.lvl]at hk
     | succ k=>
      simp only[V.lvl]at hk;have hns:∀e∈fr,SV.cu e (cs.drop o)=false:=λe he=>by
       have:=hfr e he d _ hob;simp only[aL.bQ]at this
       cases hh:SV.cu e (cs.drop o)with
       | false=>rfl
       | true=>
        exfalso;have:∀{l:List SV} {j:Nat},SV.cu e (l.drop j)=true->SV.cu e l=true:=by
         intro l
         induction l with
         | nil=>intro j h;simpa using h
         | cons a l ih=>intro j h;cases j with
          | zero=>simpa using h
          | succ j=>simp only[SV.cu,Bool.or_eq_true];exact .inr (ih (by simpa using h))
        rw[this hh]at *;simp_all
      have hlen:xs.length=cs.length:=by
       have:∀{l:List SV} {r:List V},bW m n l=some r->r.length=l.length:=by
        intro l
        induction l with
        | nil=>intro r h;simp only[bW,ζa]at h;subst h;rfl
        | cons a l ih=>
         intro r h;simp only[bW]at h;split at h
         .rename_i h1 h2;simp only[ζa]at h;subst h;simp[ih h2]
         .simp at h
       exact this hx
      have hxd:bW m n (cs.drop o)=some (xs.drop o):=by
       have:∀{l:List SV} {r:List V} {j:Nat},bW m n l=some r->bW m n (l.drop j)=some (r.drop j):=by
        intro l
        induction l with
        | nil=>intro r j h;simp only[bW,ζa]at h;subst h;simp[bW]
        | cons a l ih=>
         intro r j h;have h0:=h;simp only[bW]at h;split at h
         .rename_i h1 h2;simp only[ζa]at h;subst h
          cases j with
          | zero=>exact h0
          | succ j=>exact ih h2
         .simp at h
       exact this hx
      have hb:=iq hfr ho n (cs.drop o) (xs.drop o) (cs'.drop o) hxd hns (hc.drop o) k hk;unfold borrow;simp only[V.closed,Bool.false_eq_true,if_false,hr,ζb,Ob.rows,List.getElem?_cons_zero,if_pos (show o<=cs'.length by rw[<-hc.1,<-hlen];exact hle),hb,Option.map_some]
    .simp at h
   .simp at h
  .simp at h
 | n,.el d i o,z,y,h,hn,r,k,hk=>by cases n <;> simp[shut]at h
 | n,.yl id,z,y,h,hn,r,k,hk=>by cases n <;> simp[shut]at h
 | n,.mp d,z,y,h,hn,r,k,hk=>by
  simp only[shut]at h;split at h
  .rename_i kvs hob;simp only[ζa]at h;subst h;obtain⟨_,e,rfl⟩:=r.AH hob;cases e;have hd:d∉fr:=λhd=>by have:=hn d hd;simp[SV.bQ]at this
   obtain⟨kvs',hr,hkv⟩:=ho d _ hob hd
   cases k with
   | zero=>simp[V.lvl]at hk
   | succ k=>
    simp only[V.lvl]at hk;unfold borrow;simp only[V.closed,Bool.false_eq_true,if_false,hr];rw[Ee (xs:=kvs) (ys:=kvs') hkv.1 λj u v hu hv=>?_]
    .rfl
    .obtain⟨⟨e1,e2⟩,e3⟩:=hkv.2 j u v hu hv;exact⟨by rw[<-e1];exact cQ k H1 (V.je (nG e2)),e3.borrow k (DB.1 hk j u hu).2⟩
  .simp at h
 | 0,.clo f a b,z,y,h,hn,r,k,hk=>by simp[shut]at h
 | n+1,.clo f a b,z,y,h,hn,r,k,hk=>by
  simp only[shut]at h;split at h
  .rename_i x1 x2 h1 h2;simp only[ζa]at h;subst h;obtain⟨a',b',rfl,ra,rb⟩:=r.iL
   cases k with
   | zero=>simp[V.lvl]at hk
   | succ k=>
    simp only[V.lvl,ζh]at hk;have hb1:=iq hfr ho n a x1 a' h1 (λd hd=>by have:=hn d hd;simp only[SV.bQ,Bool.or_eq_false_iff]at this;exact this.1) ra k hk.1
    have hb2:=iq hfr ho n b x2 b' h2 (λd hd=>by have:=hn d hd;simp only[SV.bQ,Bool.or_eq_false_iff]at this;exact this.2) rb k hk.2
    by_cases hcl:(V.clo f a' b').closed=true
    .rw[cQ _ _ hcl];simp only[V.closed,ζh]at hcl;rw[sy hb1 hcl.1,sy hb2 hcl.2]
    .unfold borrow;rw[if_neg hcl];simp only[hb1,hb2]
  .simp at h
 | 0,.tup l,z,y,h,hn,r,k,hk=>by simp[shut]at h
 | n+1,.tup l,z,y,h,hn,r,k,hk=>by
  simp only[shut]at h;obtain⟨xs,h1,rfl⟩:=ζf.1 h;obtain⟨l',rfl,rl⟩:=r.oB
  cases k with
  | zero=>simp[V.lvl]at hk
  | succ k=>
   simp only[V.lvl]at hk;have hb1:=iq hfr ho n l xs l' h1 (λd hd=>by have:=hn d hd;simpa [SV.bQ]using this) rl k hk
   by_cases hcl:(V.tup l').closed=true
   .rw[cQ _ _ hcl];simp only[V.closed]at hcl;rw[sy hb1 hcl]
   .unfold borrow;rw[if_neg hcl];simp only[hb1,Option.map_some]
 | 0,.agg l,z,y,h,hn,r,k,hk=>by simp[shut]at h
 | n+1,.agg l,z,y,h,hn,r,k,hk=>by
  simp only[shut]at h;obtain⟨xs,h1,rfl⟩:=ζf.1 h;obtain⟨l',rfl,rl⟩:=r.gn
  cases k with
  | zero=>simp[V.lvl]at hk
  | succ k=>
   simp only[V.lvl]at hk;have hb1:=iq hfr ho n l xs l' h1 (λd hd=>by have:=hn d hd;simpa [SV.bQ]using this) rl k hk
   by_cases hcl:(V.agg l').closed=true
   .rw[cQ _ _ hcl];simp only[V.closed]at hcl;rw[sy hb1 hcl]
   .unfold borrow;rw[if_neg hcl];simp only[hb1,Option.map_some]
theorem iq {fr:List Nat} (hfr:∀d∈fr,∀e ob,ai m e=some ob->ob.bQ d=false) (ho:∀d ob,ai m d=some ob->d∉fr->cZ ν m H1 Z d ob) :
 ∀(n:Nat) (svs:List SV) (xs ys:List V),bW m n svs=some xs->(∀d∈fr,SV.cu d svs=false)->bf ν m H1 Z svs ys->∀k,V.bU k xs=true->iG (borrow k H1) ys=some xs
 | n,[],xs,ys,h,hn,r,k,hk=>by simp only[bW,ζa]at h;subst h;rw[r.bO];rfl
 | n,sv::svs,xs,ys,h,hn,r,k,hk=>by
  simp only[bW]at h;split at h
  .rename_i y s h1 h2;simp only[ζa]at h;subst h;obtain⟨y',ys',rfl,r1,r2⟩:=r.inv;simp only[V.bU,ζh]at hk;have b1:=zp hfr ho n sv y y' h1 (λd hd=>by have:=hn d hd;simp only[SV.cu,Bool.or_eq_false_iff]at this;exact this.1) r1 k hk.1
   have b2:=iq hfr ho n svs s ys' h2 (λd hd=>by have:=hn d hd;simp only[SV.cu,Bool.or_eq_false_iff]at this;exact this.2) r2 k hk.2
   simp only[iG,b1,b2]
  .simp at h
end
end
end Go.VE
namespace Go.VE
variable [aS]
def jI (E:Env) (call:cq) (ops:List Oper) (place:Option (Nat×Nat)) (f:FuncId) (args:List V) (H:ak):Option (V×ak):=
 if ku E ops place f then
  match place with
  | none=>dL E call f args H
  | some (_,i)=>if cU ops i then dL E call f args H else none
 else match place with
  | none=>match bl call f args H with
   | some y=>some (y,if y.scalar then H else bN H (cS (b8 8 H) args))
   | none=>none
  | some (b,i)=>match bl call f args (H.take b)with
   | some y=>if y.scalar then some (y,H)else if iw (H.take b) (cS (b8 8 (H.take b)) args)then some (y,bN H (cS (b8 8 (H.take b)) args))else none
   | none=>if cU ops i then match bl call f args H with
    | some y=>some (y,if y.scalar then H else bN H (cS (b8 8 H) args))
    | none=>none
    else none
section
variable {Rv:Nat->Prop} {ν ν':Nu} {Z Z':Nat->Prop} {st st':St} {m m':Tb aL} {F F':Frame} {H H' H1:ak} {N:Nat->FuncId} {S:Sys} {c:bG}
theorem D8:∀(l:List SV) (i s:Nat) (sv:SV),ai (uV i l) s=some sv->∃j,s=i+j/\l[j]? = some sv
 | [],i,s,sv,h=>by simp[uV,ai]at h
 | x::l,i,s,sv,h=>by
  simp only[uV,ai]at h;split at h
  .rename_i e;simp only[ζa]at h;subst h;exact⟨0,by omega,rfl⟩
  .obtain⟨j,h1,h2⟩:=D8 l (i+1) s sv h;exact⟨j+1,by omega,by simpa using h2⟩
theorem vh {svs:List SV} {args:List V} (h:bf ν m H Z svs args):∀s sv,ai (uV 0 svs) s=some sv->b_ ν m H Z sv (get args s):=λs sv hs=>by
 obtain⟨j,rfl,hj⟩:=D8 svs 0 s sv hs;obtain⟨y,hy,r⟩:=h.get hj;rw[Nat.zero_add,E9 args j y hy];exact r
theorem uj {az:List V} (hg:V.bF az=true):R (λ_=>(0,0)) (λ_=>False) (start (az.map .v) []) az []/\bf (λ_=>(0,0)) [] [] (λ_=>False) (az.map .v) az:=by
 have h:bf (λ_=>(0,0)) [] [] (λ_=>False) (az.map .v) az:=bf.pH (b9.same hg)
 refine⟨⟨vh h,λd ob hd=>by simp[start,ai]at hd,λd d' ob ob' hd=>by simp[start,ai]at hd,λd ob hd=>by simp[start,ai]at hd,λid h=>h.elim,⟨λid es ys h=>h.elim⟩⟩,h⟩
theorem Dg {xs ys:List V} (h:b9 H Z xs ys):((result xs).scalar=true->result ys=result xs)/\(result ys).scalar=(result xs).scalar:=by
 cases xs with
 | nil=>rw[h.bO];exact⟨λ_=>rfl,rfl⟩
 | cons x xs=>
  obtain⟨y,ys,rfl,h1,h2⟩:=h.inv
  cases xs with
  | nil=>rw[h2.bO];exact h1.scalar
  | cons x2 xs=>
   obtain⟨y2,ys,rfl,h3,h4⟩:=h2.inv;exact FR.scalar (.tup _ _ h.1 h.2)
theorem E4 (hS:jR S c) {f:FuncId} {az ys:List V} {rs:List SV} {m':gI} (hg:V.bF az=true) (h:c f (az.map .v) []=some (rs,m')) (hs:bW m' 8 rs=some ys) (hl:(result ys).lvl 8=true) :
 ∃n r H2,(∀k,n<=k->run S.E k (.fn f) az []=some (r,H2))/\borrow 8 H2 r=some (result ys)/\(result ys).good=true:=by
 obtain⟨r0,r1⟩:=uj hg;obtain⟨n,y,H2,ν',Z',st',F',zs,h1,rfl,h3,h4,h5,_⟩:=hS f _ _ _ _ h _ _ az [] (.inr rfl) r0 r1;subst h3;have hgood:=kZ h5.obj 8 rs ys zs hs h4;refine⟨n,result zs,H2,λk hk=>mm S.E hk _ _ _ _ h1,?_,?_⟩
 .have hfr:∀d∈([]:List Nat),∀e ob,ai st'.m e=some ob->ob.bQ d=false:=λd hd=>by simp at hd
  have ho:∀d ob,ai st'.m d=some ob->d∉([]:List Nat)->cZ ν' st'.m H2 Z' d ob:=λd ob hd _=>h5.obj d ob hd
  cases rs with
  | nil=>
   simp only[bW,ζa]at hs;subst hs;rw[h4.bO];exact cQ 8 H2 rfl
  | cons x rs=>
   obtain⟨z,zs,rfl,e1,e2⟩:=h4.inv;simp only[bW]at hs;split at hs
   .rename_i y s g1 g2;simp only[ζa]at hs;subst hs
    cases rs with
    | nil=>
     simp only[bW,ζa]at g2;subst g2;rw[e2.bO];exact zp hfr ho 8 x y z g1 (λd hd=>by simp at hd) e1 8 hl
    | cons x2 rs=>
     obtain⟨z2,zs,rfl,e3,e4⟩:=e2.inv;simp only[bW]at g2;split at g2
     .rename_i y2 s2 g3 g4;simp only[ζa]at g2;subst g2;simp only[result,V.lvl,V.bU,ζh]at hl;have hall:bW st'.m 8 (x::x2::rs)=some (y::y2::s2):=by simp only[bW,g1,g3,g4]
      have hb:=iq hfr ho 8 (x::x2::rs) _ _ hall (λd hd=>by simp at hd) h4 7 (by simp only[V.bU,ζh];exact hl)
      by_cases hcl:(V.tup (z::z2::zs)).closed=true
      .simp only[result];rw[cQ _ _ hcl];simp only[V.closed]at hcl;rw[sy hb hcl]
      .simp only[result];unfold borrow;rw[if_neg hcl];simp only[hb,Option.map_some]
     .simp at g2
   .simp at hs
 .have:∀{l:List V},V.bF l=true->(result l).good=true:=by
   intro l hl
   cases l with
   | nil=>rfl
   | cons a l=>cases l with
    | nil=>simp only[V.bF,ζh]at hl;exact hl.1
    | cons b l=>simp only[result,V.good];exact hl
  exact this hgood
theorem BK {f:FuncId} {args az:List V} {y r:V} {H2:ak} {n:Nat} (hr:∀k,n<=k->run S.E k (.fn f) az []=some (r,H2)) (hb:borrow 8 H2 r=some y) (hg:y.good=true) (ha:borrows 8 H args=some az) :
 ∀k,n<=k->bl (run S.E k) f args H=some y:=λk hk=>by
 unfold bl;simp only[ha,hr k hk,hb,V.je hg,if_true]
theorem wM (hz:∀id,Z id->(an H id).isSome=true) {T:List Nat} {id:Nat} (h:Z id):an (bN H T) id=an H id:=by
 have:=hz id h;unfold an at this ⊢;rw[gb]
 cases hh:H[id]? with
 | none=>rw[hh]at this;simp at this
 | some ob=>
  rw[hh]at this;simp only[Option.map_some,ζb]
  by_cases e:id∈T
  .rw[if_pos e];cases ob <;> first|rfl|simp[Ob.rows]at this
  .rw[if_neg e]
theorem zx {T:List Nat} {id:Nat} (h:id∉T):(bN H T)[id]? = H[id]? := by
 rw[gb];cases H[id]? <;> simp[h]
end
end Go.VE
namespace Go.VE
variable [aS]
section
variable {Rv:Nat->Prop} {ν ν':Nu} {Z Z':Nat->Prop} {st st':St} {m m':Tb aL} {F F':Frame} {H H' H1:ak} {N:Nat->FuncId} {S:Sys} {c:bG}
theorem Ck {az:List V} {args:List SV} {ys:List V} (ho:∀d ob,ai m d=some ob->cZ ν m H Z d ob) (h:bW m 8 args=some az) (r:bf ν m H Z args ys):V.bF az=true:=kZ ho 8 args az ys h r
theorem y8 {az:List V} {args:List SV} {ys:List V} (r:R ν Z st F H) (ha:bf ν st.m H Z args ys) (h:bW st.m 8 args=some az) (hl:V.bU 8 az=true):borrows 8 H ys=some az:=
 iq (fr:=[]) (λd hd=>by simp at hd) (λd ob hd _=>r.obj d ob hd) 8 args az ys h (λd hd=>by simp at hd) ha 8 hl
theorem nE {b id:Nat} (h:id<b):an (H.take b) id=an H id:=by
 unfold an;rw[List.getElem?_take,if_pos h]
theorem G8 {b:Nat} {fr:List Nat} {az:List V} {args:List SV} {ys:List V} (r:R ν Z st F H) (ha:bf ν st.m H Z args ys) (h:bW st.m 8 args=some az) (hl:V.bU 8 az=true)
 (ho:∀d ob,ai st.m d=some ob->bM ob=true->d∉fr->(ν d).1<b) (hz:∀id,Z id->id<b) (hold:fA st.m fr args=true):borrows 8 (H.take b) ys=some az:=by
 unfold fA at hold;rw[List.all_eq_true]at hold;have h1:∀d∈fr,SV.cu d args=false/\qP d st.m=false:=λd hd=>by
  have:=hold d hd;simpa [ζh,Bool.not_eq_true']using this
 have hzr:∀id,Z id->Z id/\an (H.take b) id=an H id:=λid h=>⟨h,nE (hz id h)⟩
 refine iq (Z:=Z) (fr:=fr) (λd hd e ob he=>vO (h1 d hd).2 he) (λd ob hd hf=>?_) 8 args az ys h (λd hd=>(h1 d hd).1) (ha.mono hzr λe _=>iS ν st.m e) 8 hl
 exact cZ.mono hzr rfl (λhb=>by rw[List.getElem?_take,if_pos (ho d ob hd hb hf)]) (λe _=>iS ν st.m e) (r.obj d ob hd)
theorem NB (hS:jR S c) {ops:List Oper} {place:Option (Nat×Nat)} {dr nw:Bool} {fr:List Nat} (hdr:dr=place.isSome) (hnow:∀b i,place=some (b,i)->nw=true->cU ops i=true)
 (hold:∀b i,place=some (b,i)->(∀d ob,ai st.m d=some ob->bM ob=true->d∉fr->(ν d).1<b)/\∀id,Z id->id<b)
 (r:R ν Z st F H) {args:List SV} {ys:List V} (ha:bf ν st.m H Z args ys) {f:FuncId} (hk:S.E.keep f=false) {az:List V} (hs:bW st.m 8 args=some az) (hl:V.bU 8 az=true) (hno:(!dr||nw)=true\/fA st.m fr args=true)
 {rs:List SV} {m':gI} {zs:List V} (hc:c f (az.map .v) []=some (rs,m')) (hz:bW m' 8 rs=some zs) (hzl:(result zs).lvl 8=true) (hsc:(result zs).scalar=true\/(cV args).isSome=true) :
 ∃n H',(∀k,n<=k->jI S.E (run S.E k) ops place f ys H=some (result zs,H'))/\R ν Z st F H'/\b_ ν st.m H' Z (.v (result zs)) (result zs)/\Ev Rv ν Z st H ν Z st H':=by
 have hg:=Ck r.obj hs ha;obtain⟨n,rr,H2,h1,h2,h3⟩:=E4 hS hg hc hz hzl;have hb:=y8 r ha hs hl;have hiso:=BK h1 h2 h3 hb;have hsv:∀{H'},b_ ν st.m H' Z (.v (result zs)) (result zs):=.v _ _ (.same _ h3);have froze:∀T:List Nat,(∀id∈T,Z id)->R ν Z st F (bN H T)/\Ev Rv ν Z st H ν Z st (bN H T):=λT hT=>
  ⟨r.heap (λid ho=>zx λhid=>by obtain⟨d,ob,g1,g2,rfl⟩:=ho;exact r.apart d ob g1 g2 (hT _ hid)) (λid hid=>wM r.zrow hid),
   Ev.heap (by rw[jO];exact Nat.le_refl _) (λid _ _ hz _=>zx λhid=>hz (hT id hid)) (λid hid=>wM r.zrow hid)⟩
 have allT:(cV args).isSome=true->(∀id∈cS (b8 8 H) ys,Z id)/\True:=λhx=>by
  obtain⟨xs,hx⟩:=Option.isSome_iff_exists.1 hx;have hf:=ha.cV hx;exact⟨λid hid=>by
   obtain⟨j,u,hu,hku⟩:=sA hid;have hj:j<xs.length:=by rw[hf.1];exact(ζe.1 hu).1
   exact FR.b8 r.deep 8 (hf.2 j _ u (ζd hj) hu) id hku,trivial⟩
 cases place with
 | none=>
  subst hdr
  by_cases hsca:(result zs).scalar=true
  .exact⟨n,H,λk hkn=>by simp only[jI,ku,hk,Bool.false_and,Bool.false_eq_true,if_false,hiso k hkn,hsca,if_true],r,hsv,.refl⟩
  .obtain⟨hT,-⟩:=allT (hsc.resolve_left hsca);obtain⟨q1,q2⟩:=froze _ hT;exact⟨n,bN H (cS (b8 8 H) ys),λk hkn=>by simp only[jI,ku,hk,Bool.false_and,Bool.false_eq_true,if_false,hiso k hkn,hsca],q1,hsv,q2⟩
 | some bi=>
  obtain⟨b,i⟩:=bi;obtain⟨o1,o2⟩:=hold b i rfl;have hdt:dr=true:=hdr;subst hdt;have fits:∀k,bl (run S.E k) f ys (H.take b)=some (result zs)->(result zs).scalar=false->iw (H.take b) (cS (b8 8 (H.take b)) ys)=true/\cS (b8 8 H) ys=cS (b8 8 (H.take b)) ys:=λk _ hns=>by
   obtain⟨xs,hx⟩:=Option.isSome_iff_exists.1 (hsc.resolve_left (by rw[hns];simp))
   have hf:=ha.cV hx;have hzr:∀id,Z id->Z id/\an (H.take b) id=an H id:=λid h=>⟨h,nE (o2 id h)⟩
   have hd:Deep (H.take b) Z:=⟨λid es ys hz hr c hc u hu=>by
    rw[(hzr id hz).2]at hr;obtain⟨x,hx⟩:=r.deep.row id es ys hz hr c hc u hu;exact⟨x,hx.mono hzr⟩⟩
   have hZ:∀id∈cS (b8 8 (H.take b)) ys,Z id:=λid hid=>by
    obtain⟨j,u,hu,hku⟩:=sA hid;have hj:j<xs.length:=by rw[hf.1];exact(ζe.1 hu).1
    exact FR.b8 hd 8 ((hf.2 j _ u (ζd hj) hu).mono hzr) id hku
   refine⟨?_,vc _ λid hid=>o2 id (hZ id hid)⟩
   unfold iw;rw[List.all_eq_true];intro id hid;have h1:=r.zrow id (hZ id hid);rw[<-(hzr id (hZ id hid)).2]at h1;exact h1
  rcases hno with hno|hno
  .have hlo:=hnow b i rfl (by simpa using hno)
   by_cases hsca:(result zs).scalar=true
   .refine⟨n,H,λk hkn=>?_,r,hsv,.refl⟩
    simp only[jI,ku,hk,Bool.false_and,Bool.false_eq_true,if_false];split
    .rename_i y hy;have:=qF hy;rw[hiso k hkn]at this;cases this;simp only[hsca,if_true]
    .simp only[hlo,if_true,hiso k hkn,hsca]
   .obtain⟨hT,-⟩:=allT (hsc.resolve_left hsca);obtain⟨q1,q2⟩:=froze _ hT;refine⟨n,bN H (cS (b8 8 H) ys),λk hkn=>?_,q1,hsv,q2⟩
    simp only[jI,ku,hk,Bool.false_and,Bool.false_eq_true,if_false];split
    .rename_i y hy;have h9:=qF hy;rw[hiso k hkn]at h9;cases h9;obtain⟨f1,f2⟩:=fits k hy (by simpa using hsca)
     rw[if_neg hsca,if_pos f1,f2]
    .simp only[hlo,if_true,hiso k hkn];rw[if_neg hsca]
  .have hb2:=G8 r ha hs hl o1 o2 hno
   by_cases hsca:(result zs).scalar=true
   .refine⟨n,H,λk hkn=>?_,r,hsv,.refl⟩
    simp only[jI,ku,hk,Bool.false_and,Bool.false_eq_true,if_false];have:=BK h1 h2 h3 hb2 k hkn;simp only[this,hsca,if_true]
   .obtain⟨hT,-⟩:=allT (hsc.resolve_left hsca);obtain⟨q1,q2⟩:=froze _ hT;refine⟨n,bN H (cS (b8 8 H) ys),λk hkn=>?_,q1,hsv,q2⟩
    simp only[jI,ku,hk,Bool.false_and,Bool.false_eq_true,if_false];have h9:=BK h1 h2 h3 hb2 k hkn;obtain⟨f1,f2⟩:=fits k h9 (by simpa using hsca)
    simp only[h9];rw[if_neg hsca,if_pos f1,f2]
theorem FU {xs ys:List (List V)} (h:eG H Z xs ys) (hs:mJ xs=true):ys=xs:=by
 refine(List.ext_getElem h.1 λj h1 h2=>?_).symm
 have:=h.2 j _ _ (ζd h1) (ζd h2);have hsj:V.bu xs[j]=true:=by
  unfold mJ at hs;rw[List.all_eq_true]at hs;have:=hs _ (List.getElem_mem h1);rw[List.all_eq_true]at this;exact pq.2 λk u hu=>this u (List.mem_of_getElem? hu)
 exact(this.scalar.1 hsj).symm
theorem o9:∀{args:List SV} {os:gI},jQ m args=some os->∀k ob,ai os k=some ob->ai m k=some ob/\vr ob=true
 | [],os,h,k,ob,hk=>by simp only[jQ,ζa]at h;subst h;simp[ai]at hk
 | .v _::r,os,h,k,ob,hk=>o9 (args:=r) (by simpa [jQ]using h) k ob hk
 | .own d::r,os,h,k,ob,hk=>by
  simp only[jQ]at h;split at h
  .rename_i os' fl es xs h1 h2;simp only[ζa]at h;subst h;simp only[ai]at hk;split at hk
   .rename_i e;subst e;cases hk;exact⟨h2,rfl⟩
   .exact o9 h1 k ob hk
  .simp at h
 | .ptr d _::r,os,h,k,ob,hk=>by
  simp only[jQ]at h;split at h
  .rename_i os' cs h1 h2;split at h
   .rename_i hc;simp only[ζa]at h;subst h;simp only[ai]at hk;split at hk
    .rename_i e;subst e;cases hk;exact⟨h2,hc⟩
    .exact o9 h1 k ob hk
   .simp at h
  .simp at h
 | .el ..::r,os,h,k,ob,hk=>by simp[jQ]at h
 | .mp _::r,os,h,k,ob,hk=>by simp[jQ]at h
 | .clo ..::r,os,h,k,ob,hk=>by simp[jQ]at h
 | .tup _::r,os,h,k,ob,hk=>by simp[jQ]at h
 | .agg _::r,os,h,k,ob,hk=>by simp[jQ]at h
 | .yl _::r,os,h,k,ob,hk=>by simp[jQ]at h
theorem wL:∀{l:List Nat} {a b:Tb aL},rL m' l a=some b->(∀k∈l,ai b k=ai m' k/\∃ob,ai m' k=some ob/\vr ob=true)/\∀k,k∉l->ai b k=ai a k
 | [],a,b,h=>by simp only[rL,ζa]at h;subst h;exact⟨λk hk=>by simp at hk,λ_ _=>rfl⟩
 | d::r,a,b,h=>by
  simp only[rL]at h;split at h
  .rename_i ob hob;split at h
   .rename_i hp;obtain⟨h1,h2⟩:=wL h;refine⟨λk hk=>?_,λk hk=>?_⟩
    .by_cases hr:k∈r
     .exact h1 k hr
     .have e:k=d:=by simpa [hr]using hk
      subst e;exact⟨by rw[h2 k hr,bK,hob],ob,hob,hp⟩
    .simp only[List.mem_cons,not_or]at hk;rw[h2 k hk.2,cT _ _ (Ne.symm hk.1)]
   .simp at h
  .simp at h
theorem mem_keys:∀{os:gI} {k:Nat},k∈os.map (·.1)↔∃ob,ai os k=some ob
 | [],k=>by simp[ai]
 | (d,o)::os,k=>by
  simp only[List.map_cons,List.mem_cons,ai]
  by_cases e:d=k
  .subst e;simp
  .rw[if_neg e,<-mem_keys];constructor
   .rintro (h|h)
    .exact absurd h.symm e
    .exact h
   .exact .inr
theorem cZ.plain {d:Nat} {ob:aL} (hp:vr ob=true) (hz:∀id,Z id->Z' id/\an H' id=an H id) (hd:ν' d=ν d) (hh:bM ob=true->H'[(ν d).1]? = H[(ν d).1]?) (o:cZ ν m H Z d ob):cZ ν' m' H' Z' d ob:=by
 cases ob with
 | box cs=>
  obtain⟨xs,hx⟩:=Option.isSome_iff_exists.1 hp;obtain⟨es,cs',h1,h2,h3⟩:=o;refine⟨es,cs',by rw[hd,hh rfl];exact h1,?_,h3⟩
  have:=(h2.cV hx).mono hz;rw[qg hx];exact bf.pH this
 | sl k es xs=>exact cZ.mono hz hd hh (λe he=>by simp[aL.bQ]at he) o
 | mp kvs=>exact cZ.mono hz hd hh (λe he=>by simp[aL.bQ]at he) o
theorem N4 (hS:jR S c) {f:FuncId} (hkp:S.E.keep f=true) (r:R ν Z st F H) {args:List SV} {ys:List V} (ha:bf ν st.m H Z args ys) {os:gI} (hh:jQ st.m args=some os)
 {rs:List SV} {m':gI} {zs:List V} {m2:Tb aL} (hc:c f args os=some (rs,m')) (hz:cV rs=some zs) (hb:rL m' (os.map (·.1)) st.m=some m2) :
 ∃n y H' Z',(∀k,n<=k->run S.E k (.fn f) ys H=some (y,H'))/\R ν Z' { st with m:=m2 } F H'/\b_ ν m2 H' Z' (.v (result zs)) y/\Ev Rv ν Z st H ν Z' { st with m:=m2 } H'/\∀e ob',ai m2 e=some ob'->∃ob,ai st.m e=some ob/\ν e=ν e/\sameShape ob ob':=by
 have hsub:∀k ob,ai os k=some ob->ai st.m k=some ob:=λk ob h=>(o9 hh k ob h).1
 have ha0:bf ν os H Z args ys:=ha.mono (λid h=>⟨h,rfl⟩) λe _ ob' h=>⟨ob',hsub e ob' h,rfl,.refl _⟩
 have r0:R ν Z (start args os) ys H:=by
  refine⟨vh ha0,λd ob hd=>?_,λd d' ob ob' h1 h2=>r.inj d d' ob ob' (hsub d ob h1) (hsub d' ob' h2),λd ob h=>r.apart d ob (hsub d ob h),r.zrow,r.deep⟩
  exact cZ.plain (o9 hh d ob hd).2 (λid h=>⟨h,rfl⟩) rfl (λ_=>rfl) (r.obj d ob (hsub d ob hd))
 obtain⟨n,y,H',ν1,Z',st1,F1,ws,e1,rfl,rfl,e2,e3,ev⟩:=hS f args os rs m' hc ν Z ys H (.inl hkp) r0 ha0;obtain⟨b1,b2⟩:=wL hb;have hpin:∀k ob',k∈os.map (·.1)->ai st1.m k=some ob'->∃ob,ai os k=some ob/\ν1 k=ν k/\sameShape ob ob':=λk ob' hk h=>ev.pin k hk ob' h
 have hown0:∀id,dW ν os id->dW ν st.m id:=λid ⟨k,o,h1,h2,h3⟩=>⟨k,o,hsub k o h1,h2,h3⟩
 have bk:∀ob ob':aL,sameShape ob ob'->bM ob'=bM ob:=λob ob' h=>by
  cases ob <;> cases ob' <;> simp only[sameShape]at h
  .simp only[bM,h.1]
  .rfl
  .rfl
 have was:∀k ob',ai m2 k=some ob'->∃ob,ai st.m k=some ob/\sameShape ob ob'/\(k∈os.map (·.1)/\ai st1.m k=some ob'/\ν1 k=ν k/\ai os k=some ob/\vr ob'=true\/k∉os.map (·.1)/\ob'=ob):=λk ob' h=>by
  by_cases hk:k∈os.map (·.1)
  .obtain⟨g1,o,g2,g3⟩:=b1 k hk;rw[g1]at h;obtain⟨ob,p1,p2,p3⟩:=hpin k ob' hk h;rw[g2]at h;cases h;exact⟨ob,hsub k ob p1,p3,.inl ⟨hk,g2,p2,p1,g3⟩⟩
  .rw[b2 k hk]at h;exact⟨ob',h,.refl _,.inr ⟨hk,rfl⟩⟩
 have hother:∀k ob,k∉os.map (·.1)->ai st.m k=some ob->bM ob=true->H'[(ν k).1]? = H[(ν k).1]? /\ ¬Z' (ν k).1:=λk ob hk h hbk=>by
  have hno:¬dW ν os (ν k).1:=by
   rintro⟨k2,o2,g1,g2,g3⟩;have:=r.inj k2 k o2 ob (hsub k2 o2 g1) h g2 hbk g3;subst this;exact hk (mem_keys.2 ⟨o2,g1⟩)
  have hlt:=r.lt ⟨k,ob,h,hbk,rfl⟩;have hnz:=r.apart k ob h hbk;refine⟨ev.same _ hlt hno hnz (λh=>h),λhz'=>?_⟩
  rcases ev.frz _ hz' with h|h|h|h
  .exact hnz h
  .exact hno h
  .exact h
  .omega
 have sm:∀e ob',ai m2 e=some ob'->∃ob,ai st.m e=some ob/\ν e=ν e/\sameShape ob ob':=λe ob' h=>by
  obtain⟨ob,h1,h2,_⟩:=was e ob' h;exact⟨ob,h1,rfl,h2⟩
 refine⟨n,result ws,H',Z',λk hk=>mm S.E hk _ _ _ _ e1,⟨λs sv hs=>(r.slot s sv hs).mono ev.rows λe _=>sm e,λk ob' h=>?_,λd1 d2 o1 o2 h1 h2 k1 k2 hp=>?_,λd1 o1 h1 k1=>?_,e3.zrow,e3.deep⟩,?_,⟨ev.len,?_,ev.rows,?_,?_,λe _=>sm e,rfl⟩,sm⟩
 .obtain⟨ob,h1,h2,h3|⟨h3,rfl⟩⟩:=was k ob' h
  .obtain⟨q1,q2,q3,q4,q5⟩:=h3;refine cZ.plain (ν:=ν1) (Z:=Z') (H:=H') q5 (λid h=>⟨h,rfl⟩) q3.symm (λ_=>rfl) (e3.obj k ob' q2)
  .exact cZ.mono ev.rows rfl (λhbk=>(hother k ob' h3 h1 hbk).1) (λe _=>sm e) (r.obj k ob' h1)
 .obtain⟨p1,g1,s1,_⟩:=was d1 o1 h1;obtain⟨p2,g2,s2,_⟩:=was d2 o2 h2;exact r.inj d1 d2 p1 p2 g1 g2 (by rw[<-bk _ _ s1];exact k1) (by rw[<-bk _ _ s2];exact k2) hp
 .obtain⟨ob,g1,s1,h3|⟨h3,rfl⟩⟩:=was d1 o1 h1
  .obtain⟨q1,q2,q3,q4,q5⟩:=h3;rw[<-q3];exact e3.apart d1 o1 q2 k1
  .exact(hother d1 o1 h3 g1 k1).2
 .have hf:=e2.cV hz;have:FR H' Z' (result zs) (result ws):=by
   cases zs with
   | nil=>rw[hf.bO];exact .same _ rfl
   | cons x xs=>
    obtain⟨y,ys2,rfl,g1,g2⟩:=hf.inv
    cases xs with
    | nil=>rw[g2.bO];exact g1
    | cons x2 xs=>
     obtain⟨y2,ys3,rfl,g3,g4⟩:=g2.inv;exact .tup _ _ hf.1 hf.2
  exact .v _ _ this
 .intro id hl ho hz _;exact ev.same id hl (λh=>ho (hown0 id h)) hz (λh=>h)
 .rintro id ⟨k,o,h1,h2,h3⟩;obtain⟨ob,g1,s1,_⟩:=was k o h1;exact .inl ⟨k,ob,g1,by rw[<-bk _ _ s1];exact h2,h3⟩
 .intro id h;rcases ev.frz id h with h|h|h|h
  .exact .inl h
  .exact .inr (.inl (hown0 id h))
  .exact h.elim
  .exact .inr (.inr (.inr h))
theorem MI (hS:jR S c) {f:FuncId} {az:List V} {rs:List SV} {m':gI} (hg:V.bF az=true) (h:c f (az.map .v) []=some (rs,m')) :
 ∃n H2 ν' Z' st' F' ys,(∀k,n<=k->run S.E k (.fn f) az []=some (result ys,H2))/\st'.m=m'/\bf ν' m' H2 Z' rs ys/\R ν' Z' st' F' H2:=by
 obtain⟨r0,r1⟩:=uj hg;obtain⟨n,y,H2,ν',Z',st',F',zs,h1,rfl,h3,h4,h5,_⟩:=hS f _ _ _ _ h _ _ az [] (.inr rfl) r0 r1;exact⟨n,H2,ν',Z',st',F',zs,λk hk=>mm S.E hk _ _ _ _ h1,h3,h4,h5⟩
theorem AN {ys:List V} (h:V.bu ys=true):V.bu (.aF::ys)=true/\V.bu (.cI::ys)=true:=by
 simp only[V.bu,V.scalar,Bool.true_and];exact⟨h,h⟩
theorem BN {ys:List V} (h:V.bu ys=true):(result ys).scalar=true:=by
 cases ys with
 | nil=>rfl
 | cons a l=>
  cases l with
  | nil=>simp only[V.bu,ζh]at h;exact h.1
  | cons b l=>simp only[result,V.scalar];exact h
theorem bf.Rf {ys:List V} (h:V.bF ys=true):bf ν m H Z (ys.map .v) ys:=bf.pH (b9.same h)
theorem LC (hS:jR S c) (hP:∀f q,S.prm f=some q->mI S.E f q) {ops:List Oper} {place:Option (Nat×Nat)} {dr nw:Bool} {fr:List Nat} (hdr:dr=place.isSome) (hnow:∀b i,place=some (b,i)->nw=true->cU ops i=true)
 (hold:∀b i,place=some (b,i)->(∀d ob,ai st.m d=some ob->bM ob=true->d∉fr->(ν d).1<b)/\∀id,Z id->id<b)
 (r:R ν Z st F H) {args:List SV} {ys:List V} (ha:bf ν st.m H Z args ys) {f:FuncId} {dst:Option Nat} {sv:SV} (h:fQ S c dst dr (!dr||nw) (fA st.m fr) f args st=some (sv,st')) :
 ∃n y H' ν' Z',(∀k,n<=k->jI S.E (run S.E k) ops place f ys H=some (y,H'))/\R ν' Z' st' F H'/\b_ ν' st'.m H' Z' sv y/\Ev Rv ν Z st H ν' Z' st' H'/\(dr=true->Z'=Z)/\Kept dst ν st.m ν' st'.m:=by
 unfold fQ at h;split at h
 .rename_i hk;split at h
  .rename_i hnw;have hplace:∀{q:cq} {y:V} {H':ak},dL S.E q f ys H=some (y,H')->jI S.E q ops place f ys H=some (y,H'):=λ{q y H'} hd=>by
    unfold jI
    cases place with
    | none=>rw[if_pos (by simp only[ku,hk,Bool.and_self])];exact hd
    | some bi=>
     obtain⟨b,i⟩:=bi;have hdt:dr=true:=hdr;subst hdt;have hlo:=hnow b i rfl (by simpa using hnw)
     rw[if_pos (by simp only[ku,hk,hlo,Bool.true_or,Bool.and_self])]
     simp only;rw[if_pos hlo];exact hd
   split at h
   .
    rename_i hown;split at h
    .rename_i az hs;split at h
     .rename_i hl;have hg:=Ck r.obj hs ha;have hb:=y8 r ha hs hl;split at h
      .rename_i rs m' hc;obtain⟨n,H2,ν2,Z2,st2,F2,ws,e1,rfl,e3,e4⟩:=MI hS hg hc;have hdir:∀k,n<=k->∀{o:Option (V×ak)},(if(result ws).scalar then some (result ws,H)else
        match result ws with
        | .hsl id es off len=>(oZ H.length H2 id es off len).map λ(v,ob)=>(v,H++[ob])
        | .tup (.hsl id es off len::rest)=>if V.bu rest then(oZ H.length H2 id es off len).map λ(v,ob)=>(.tup (v::rest),H++[ob])else none
        | _=>none)=o->dL S.E (run S.E k) f ys H=o:=λk hkn o ho=>by
        unfold dL jG;rw[if_pos hown];simp only[hb,e1 k hkn];exact ho
       have scal:∀zs:List V,(result zs).scalar=true->result ws=result zs->sv=.v (result zs)->st'=st->∃n y H' ν' Z',(∀k,n<=k->jI S.E (run S.E k) ops place f ys H=some (y,H'))/\R ν' Z' st' F H'/\b_ ν' st'.m H' Z' sv y/\Ev Rv ν Z st H ν' Z' st' H'/\(dr=true->Z'=Z)/\Kept dst ν st.m ν' st'.m:=by
        rintro zs h1 h2 rfl rfl;exact⟨n,result zs,H,ν,Z,λk hkn=>hplace (hdir k hkn (by rw[h2,if_pos h1])),r,.v _ _ (.same _ (nG h1)),.refl,λ_=>rfl,.refl⟩
       have emp:∀(k:Fl) (es:Nat) (zs:List V) (rest:List SV),V.bu zs=true->∀t,st.new t=true->∀w:V,(k=.nil/\w=.aF\/k=.emp/\w=.cI)->result (w::zs)=result ws->dst=some t->sv=Dv (.own t::zs.map .v)->st'={ st with m:=aO st.m t (.sl k es []) } ->
        ∃n y H' ν' Z',(∀k,n<=k->jI S.E (run S.E k) ops place f ys H=some (y,H'))/\R ν' Z' st' F H'/\b_ ν' st'.m H' Z' sv y/\Ev Rv ν Z st H ν' Z' st' H'/\(dr=true->Z'=Z)/\Kept dst ν st.m ν' st'.m:=by
        rintro k es zs rest hsc t hnew w hw hres rfl rfl rfl;have hrl:bA k=false:=by rcases hw with⟨rfl,_⟩|⟨rfl,_⟩ <;> rfl
        have hsl:b_ (gR ν t (0,0)) (aO st.m t (.sl k es [])) H Z (.own t) w:=by
         refine .own _ _ λob' h'=>?_
         rw[bK]at h';cases h';exact⟨_,_,_,rfl,by rcases hw with⟨rfl,rfl⟩|⟨rfl,rfl⟩ <;> rfl⟩
        have hscw:(result (w::zs)).scalar=true:=BN (by rcases hw with⟨_,rfl⟩|⟨_,rfl⟩;exact(AN hsc).1;exact(AN hsc).2)
        refine⟨n,result (w::zs),H,gR ν t (0,0),Z,λk hkn=>hplace (hdir k hkn (by rw[<-hres,if_pos hscw])),r.add hnew (λhb=>by simp[bM,hrl]at hb) (by simp[cZ,hrl]),?_,
         Ev.add hnew (Nat.le_refl _) (λ_ _ _=>rfl) (λ_ _=>rfl) (λhb=>by simp[bM,hrl]at hb),λ_=>rfl,Kept.add λ_ _ h=>h⟩
        cases zs with
        | nil=>exact hsl
        | cons z zs=>exact .tup _ _ (by simp) (bf.cons hsl (bf.Rf (om hsc))).2
       split at h
       .rename_i zs hz;split at h
        .rename_i hsc;simp only[ζa,ζc]at h;exact scal zs hsc ((Dg (e3.cV hz)).1 hsc) h.1.symm h.2.symm
        .simp at h
       .split at h
        .rename_i e rest t _;obtain⟨w,ws,rfl,g1,g2⟩:=e3.inv;split at h
         .
          rename_i es xs zs hob hz;split at h
          .rename_i hcnd;simp only[ζh]at hcnd;obtain⟨⟨c1,c2⟩,hnew⟩:=hcnd;simp only[ζa,ζc]at h;obtain⟨rfl,rfl⟩:=h;have o:=e4.obj e _ hob;simp only[cZ,bA,if_true]at o;obtain⟨rows,hr,hle,hf,hsol,hrow⟩:=o;obtain⟨q1,q2⟩:=hrow trivial;have hrows:rows=xs:=by
            have:=FU hf c2;rw[q1,List.drop_zero,<-q2,List.take_length]at this;exact this
           subst hrows;obtain⟨_,_,_,ee,rfl⟩:=g1.jA hob;cases ee;have hrest:ws=zs:=(g2.cV hz).scalar.1 c1;subst hrest;have had:oZ H.length H2 (ν2 e).1 es 0 rows.length=some (.hsl H.length es 0 rows.length,.row es rows):=by
            unfold oZ;rw[hr];simp only[true_and];rw[if_pos];rw[List.all_eq_true];intro x hx;unfold mJ at c2;rw[List.all_eq_true]at c2;exact c2 x hx
           have hH:∀id,id<H.length->(H++[Ob.row es rows])[id]? = H[id]? := λid hl=>List.getElem?_append_left hl
           have hzr:∀id,Z id->an (H++[Ob.row es rows]) id=an H id:=λid hz=>by unfold an;rw[hH id (r.tW hz)]
           have r2:R ν Z st F (H++[Ob.row es rows]):=r.heap (λid ho=>hH id (r.lt ho)) hzr
           have hgr:V.mX rows=true:=by
            refine kX.2 λj u hu=>?_
            unfold mJ at c2;rw[List.all_eq_true]at c2;have:=c2 u (List.mem_of_getElem? hu);rw[List.all_eq_true]at this;exact gA.2 λi v hv=>nG (this v (List.mem_of_getElem? hv))
           have hR:=r2.add (ν:=ν) (d:=t) (ob:=.sl .row es rows) (p:=(H.length,0)) hnew (λ_=>⟨λho=>absurd (r.lt ho) (by simp),λhz=>absurd (r.tW hz) (by simp)⟩) (by
            simp only[cZ,bA,if_true,ga];refine⟨rows,by simp,by simp,?_,(eG.same hgr).Dn,λ_=>⟨trivial,rfl⟩⟩
            rw[List.drop_zero,List.take_length];exact eG.same hgr)
           have hsl:b_ (gR ν t (H.length,0)) (aO st.m t (.sl .row es rows)) (H++[Ob.row es rows]) Z (.own t) (.hsl H.length es 0 rows.length):=by
            refine .own _ _ λob' h'=>?_
            rw[bK]at h';cases h';exact⟨_,_,_,rfl,by simp[qT,ga]⟩
           have hev:Ev Rv ν Z st H (gR ν t (H.length,0)) Z { st with m:=aO st.m t (.sl .row es rows) } (H++[Ob.row es rows]):=Ev.add hnew (by simp) (λid hl _=>hH id hl) hzr (λ_=>.inr (Nat.le_refl _))
           have hoff:qT (ν2 e) Fl.row es rows.length=.hsl (ν2 e).1 es 0 rows.length:=by simp[qT,q1]
           rw[hoff]at hdir
           cases rest with
           | nil=>
            have:ws=[]:=by simp only[cV,ζa]at hz;exact hz.symm
            subst this;refine⟨n,_,_,_,Z,λk hkn=>hplace (hdir k hkn (o:=some (.hsl H.length es 0 rows.length,H++[Ob.row es rows])) ?_),hR,hsl,hev,λ_=>rfl,Kept.add λ_ _ h=>h⟩
            simp only[result,V.scalar,Bool.false_eq_true,if_false,had,Option.map_some]
           | cons x2 rest=>
            have hcl:∃w2 ws2,ws=w2::ws2:=by
             have:=g2.1
             cases ws with
             | nil=>simp at this
             | cons a b=>exact⟨a,b,rfl⟩
            obtain⟨w2,ws2,rfl⟩:=hcl;refine⟨n,_,_,_,Z,λk hkn=>hplace (hdir k hkn (o:=some (.tup (.hsl H.length es 0 rows.length::w2::ws2),H++[Ob.row es rows])) ?_),hR,?_,hev,λ_=>rfl,Kept.add λ_ _ h=>h⟩
            .simp only[result,V.scalar,V.bu,Bool.false_and,Bool.false_eq_true,if_false];have c1':(w2.scalar&&V.bu ws2)=true:=by simpa [V.bu]using c1
             simp only[c1',if_true,had,Option.map_some]
            .exact .tup _ _ (by simp) (bf.cons hsl (bf.Rf (om c1))).2
          .simp at h
         .rename_i es xs zs hob hz;split at h
          .rename_i hcnd;simp only[ζh]at hcnd;simp only[ζa,ζc]at h;obtain⟨rfl,rfl⟩:=h;obtain⟨_,_,_,ee,rfl⟩:=g1.jA hob;cases ee;have hrest:=(g2.cV hz).scalar.1 hcnd.1;subst hrest;exact emp .nil es ws rest hcnd.1 _ hcnd.2 .aF (by simp) rfl rfl rfl rfl
          .simp at h
         .rename_i es xs zs hob hz;split at h
          .rename_i hcnd;simp only[ζh]at hcnd;simp only[ζa,ζc]at h;obtain⟨rfl,rfl⟩:=h;obtain⟨_,_,_,ee,rfl⟩:=g1.jA hob;cases ee;have hrest:=(g2.cV hz).scalar.1 hcnd.1;subst hrest;exact emp .emp es ws rest hcnd.1 _ hcnd.2 .cI (by simp) rfl rfl rfl rfl
          .simp at h
         .simp at h
        .simp at h
      .simp at h
     .simp at h
    .simp at h
   .rename_i hown;split at h
    .simp at h
    .rename_i hd;split at h
     .rename_i q hq;obtain⟨n,y,H',ν',e1,e2,e3,e4,e5⟩:=O2 (Rv:=Rv) (hP f q hq) r ha h;exact⟨n,y,H',ν',Z,λk hkn=>hplace (by unfold dL;rw[if_neg hown];exact e1 k hkn),e2,e3,e4,λh=>absurd h hd,e5⟩
     .split at h
      .rename_i os hh;split at h
       .rename_i rs m' hc;split at h
        .rename_i zs m2 hz hb;simp only[ζa,ζc]at h;obtain⟨rfl,rfl⟩:=h;obtain⟨n,y,H',Z',e1,e2,e3,e4,e5⟩:=N4 (Rv:=Rv) hS hk r ha hh hc hz hb;exact⟨n,y,H',ν,Z',λk hkn=>hplace (by unfold dL;rw[if_neg hown];exact e1 k hkn),e2,e3,e4,λh=>absurd h hd,λe ob' _=>e5 e ob'⟩
        .simp at h
       .simp at h
      .simp at h
  .simp at h
 .rename_i hk;have hk':S.E.keep f=false:=by simpa using hk
  split at h
  .rename_i az hs;split at h
   .rename_i hl;simp only[ζh,Bool.or_eq_true]at hl;split at h
    .rename_i rs m' hc;split at h
     .rename_i zs hz;split at h
      .rename_i hcnd;simp only[ζh,Bool.or_eq_true,Bool.not_eq_true']at hcnd;simp only[ζa,ζc]at h;obtain⟨rfl,rfl⟩:=h;obtain⟨n,H',e1,e2,e3,e4⟩:=NB (Rv:=Rv) hS hdr hnow hold r ha hk' hs hl.1 (by simpa using hl.2) hc hz hcnd.1 hcnd.2
       exact⟨n,_,H',ν,Z,e1,e2,e3,e4,λ_=>rfl,.refl⟩
      .simp at h
     .simp at h
    .simp at h
   .simp at h
  .simp at h
end
end Go.VE
namespace Go.VE
variable [aS]
structure CX where
 E:Env
 nm:FuncId->Option Nat
 nt:Nat
def Ir (ops:List Oper) (o:Oper):Option (Option (Nat×Bool)):=
 match o.guard with
 | none=>some none
 | some (j,b)=>((ops[j]?).bind (·.dst)).map λd=>some (d,b)
def yh (nt:Nat):Option Nat->Bool
 | none=>true
 | some d=>decide (d<nt)
def tY (draw:Bool) (ops:List Oper) (i:Nat) (k:K) (os:List Operand):K×List Operand×Bool:=
 if draw && !cU ops i then match k,os,Ac ops i with
  | .l (.store n),.tmp a'::os',some (a,l)=>if a'=a then(.l (.storeF n),(.tmp a'::os')++l.map .tmp,true)else(k,os,false)
  | .r (.load n ag),[.tmp a'],_=>if(nV ops i a').isEmpty then(k,os,false)else(.r (.loadF n ag),.tmp a'::(nV ops i a').map .tmp,false)
  | _,_,_=>(k,os,false)
 else(k,os,draw&&cU ops i)
theorem Bl (draw:Bool) (ops:List Oper) (i:Nat) (k:K) (os:List Operand):(tY draw ops i k os=(k,os,draw&&cU ops i)/\∀n ag a',draw=true->cU ops i=false->k=.r (.load n ag)->os=[.tmp a']->nV ops i a'=[]) \/
 (draw=true/\cU ops i=false/\∃n a l os',k=.l (.store n)/\os=.tmp a::os'/\Ac ops i=some (a,l)/\tY draw ops i k os=(.l (.storeF n),os++l.map .tmp,true)) \/
 (draw=true/\cU ops i=false/\∃n ag a,k=.r (.load n ag)/\os=[.tmp a]/\tY draw ops i k os=(.r (.loadF n ag),.tmp a::(nV ops i a).map .tmp,false)):=by
 unfold tY;split
 .rename_i h;simp only[ζh,Bool.not_eq_true']at h;split
  .rename_i n a' os' a l hk;split
   .rename_i e;subst e;refine .inr (.inl ⟨h.1,h.2,n,a',l,os',rfl,rfl,hk,?_⟩);simp only[tY,h.1,h.2,hk,Bool.not_false,Bool.and_self,if_true]
   .exact .inl ⟨by rw[h.2,Bool.and_false],λn ag a' _ _ e=>by cases e⟩
  .rename_i n ag a';split
   .rename_i he;refine .inl ⟨by rw[h.2,Bool.and_false],λn ag a2 _ _ _ e=>?_⟩
    simp only[List.cons.injEq,Operand.tmp.injEq,and_true]at e;subst e;simpa using he
   .exact .inr (.inr ⟨h.1,h.2,n,ag,a',rfl,rfl,rfl⟩)
  .rename_i hn1 hn2;refine .inl ⟨by rw[h.2,Bool.and_false],λn ag a2 _ _ e1 e2=>?_⟩
   first|exact(hn1 _ _ _ e1 e2).elim|exact(hn2 _ _ _ e1 e2).elim|exact(hn1 _ _ _ _ e1 e2 rfl).elim|exact(hn2 _ _ _ _ e1 e2 rfl).elim
 .rename_i h;refine .inl ⟨rfl,λn ag a2 hd hl _ _=>?_⟩
  rw[hd,hl]at h;exact absurd rfl h
def lP (X:CX) (draw:Bool) (ops:List Oper) (i:Nat) (o:Oper):Option RO:=
 if yh X.nt o.dst then
  match Ir ops o,resolve X.E X.nm o.op with
  | some gd,some (k,os)=>if uK k then((tY draw ops i k os).2.1.mapM (oT X.nm)).map λaz=>⟨o.dst,gd,(tY draw ops i k os).2.2,(tY draw ops i k os).1,az,[],[]⟩else none
  | _,_=>none
 else none
structure Good (X:CX) (S:Sys):Prop where
 E:X.E=S.E
 N:∀f s,X.nm f=some s->S.N s=f
 prm:∀f q,S.prm f=some q->mI S.E f q
section
variable {Rv:Nat->Prop} {ν ν':Nu} {Z Z':Nat->Prop} {st st':St} {m m':Tb aL} {F F':Frame} {H H' H1:ak} {S:Sys} {c:bG} {X:CX}
def Old (b:Nat) (fr:List Nat) (ν:Nu) (Z:Nat->Prop) (m:Tb aL):Prop:=(∀d ob,ai m d=some ob->bM ob=true->d∉fr->(ν d).1<b)/\∀id,Z id->id<b
theorem mj {fr:List Nat}:∀{svs:List SV},c6 fr svs=true->∀d∈fr,SV.cu d svs=false
 | [],_,d,_=>rfl
 | .v _::r,h,d,hd=>by simp only[SV.cu,SV.bQ,Bool.false_or];exact mj (svs:=r) (by simpa [c6]using h) d hd
 | .ptr e _::r,h,d,hd=>by
  simp only[c6,ζh,Bool.not_eq_true',List.contains_eq_mem,decide_eq_false_iff_not]at h;simp only[SV.cu,SV.bQ,Bool.or_eq_false_iff,beq_eq_false_iff_ne];exact⟨λe=>h.1 (e▸hd),mj h.2 d hd⟩
 | .el e _ _::r,h,d,hd=>by
  simp only[c6,ζh,Bool.not_eq_true',List.contains_eq_mem,decide_eq_false_iff_not]at h;simp only[SV.cu,SV.bQ,Bool.or_eq_false_iff,beq_eq_false_iff_ne];exact⟨λe=>h.1 (e▸hd),mj h.2 d hd⟩
 | .mp e::r,h,d,hd=>by
  simp only[c6,ζh,Bool.not_eq_true',List.contains_eq_mem,decide_eq_false_iff_not]at h;simp only[SV.cu,SV.bQ,Bool.or_eq_false_iff,beq_eq_false_iff_ne];exact⟨λe=>h.1 (e▸hd),mj h.2 d hd⟩
 | .own _::r,h,_,_=>by simp[c6]at h
 | .clo ..::r,h,_,_=>by simp[c6]at h
 | .tup _::r,h,_,_=>by simp[c6]at h
 | .agg _::r,h,_,_=>by simp[c6]at h
 | .yl _::r,h,_,_=>by simp[c6]at h
def Di (S:Sys) (ops:List Oper) (place:Option (Nat×Nat)) (dr:Bool) (F:Frame) (op:Op) (dst:Option Nat) (ν:Nu) (Z:Nat->Prop) (st:St) (H:ak) (sv:SV) (st':St):Prop:=
 ∃n y H' ν' Z',(∀k,n<=k->cK S.E (run S.E k) ops place F H op=some (y,H'))/\R ν' Z' st' F H'/\b_ ν' st'.m H' Z' sv y/\Ev (λid=>∃b j,place=some (b,j)/\id=b+j) ν Z st H ν' Z' st' H' /\
  (dr=true->Z'=Z/\Kept dst ν st.m ν' st'.m)
theorem Jh (gd:Good X S) {ops:List Oper} {place:Option (Nat×Nat)} {dr:Bool} {op:Op} {dst:Option Nat} {p:tZ} {svs:List SV} {ys:List V} (hk:uK (.p p)=true) (r:R ν Z st F H) (rs:bf ν st.m H Z svs ys)
 (hres:G1 X.E S.N F op ys (.p p)) {sv:SV} (h:(iI S.N st.m p svs).map (λx=>(x,st))=some (sv,st')):Di S ops place dr F op dst ν Z st H sv st':=by
 obtain⟨x,hx,e⟩:=ζf.1 h;simp only[ζc]at e;obtain⟨rfl,rfl⟩:=e;obtain⟨y,hy,hyy⟩:=Ls (N:=S.N) (λzero pl e=>by subst e;simpa [uK]using hk) r.obj rs hx
 obtain⟨h1,h2⟩:=hres;exact⟨0,y,H,ν,Z,λq _=>by unfold cK;rw[h1];simp only[<-gd.E,h2 y hy,Option.map_some],r,hyy,.refl,λ_=>⟨rfl,.refl⟩⟩
theorem GL:∀{l1 l2:List Operand} {vs:List V},ec F (l1++l2)=some vs->∃v1 v2,ec F l1=some v1/\ec F l2=some v2/\vs=v1++v2
 | [],l2,vs,h=>⟨[],vs,rfl,h,rfl⟩
 | x::l1,l2,vs,h=>by
  obtain⟨a,az,h1,h2,rfl⟩:=gQ h;obtain⟨v1,v2,g1,g2,rfl⟩:=GL h2;exact⟨a::v1,v2,by simp only[ec,h1,g1],g2,rfl⟩
theorem Ad:∀{l:List Nat} {vs:List V},ec F (l.map Operand.tmp)=some vs->vs=l.map (get F)
 | [],vs,h=>oE h
 | x::l,vs,h=>by
  obtain⟨a,az,h1,h2,rfl⟩:=gQ h;simp only[ev,ζa]at h1;subst h1;rw[Ad h2];rfl
theorem Rw (gd:Good X S) {call:cq} {ops:List Oper} {b j n a:Nat} {l:List Nat} {o:Oper} {os':List Operand} {ys:List V} {y:V} (hr:resolve X.E X.nm o.op=some (.l (.store n),.tmp a::os')) (hys:ec F ((.tmp a::os')++l.map Operand.tmp)=some ys)
 (hfs:Ac ops j=some (a,l)) (hnl:cU ops j=false) (e1:dI H (.storeF n) ys=some (y,H')):cK S.E call ops (some (b,j)) F H o.op=some (y,H'):=by
 obtain⟨v1,v2,h1,h2,rfl⟩:=GL hys;obtain⟨g1,g2⟩:=qJ gd.N hr h1;obtain⟨w,ws,h3,h4,rfl⟩:=gQ h1;simp only[ev,ζa]at h3;have hone:∃v,ws=[v]:=by
  have hos:∃x,os'=[x]:=by
   unfold resolve at hr
   (repeat' split at hr) <;> first|(simp at hr;done)|skip
   all_goals (try (obtain⟨_,_,e⟩:=ζf.1 hr;simp only[ζc,K.l.injEq,Gg.store.injEq,List.cons.injEq,reduceCtorEq,false_and,and_false]at e))
   all_goals (try exact⟨_,e.2.2.symm⟩)
  obtain⟨x,rfl⟩:=hos;obtain⟨v,vs,_,h5,rfl⟩:=gQ h4;rw[oE h5];exact⟨v,rfl⟩
 obtain⟨v,rfl⟩:=hone;rw[Ad h2,<-h3]at e1;simp only[List.cons_append,List.nil_append]at e1
 cases hw:get F a with
 | hptr id el off=>
  rw[hw]at e1;simp only[dI]at e1;split at e1
  .rename_i hap;have hf:rm ops j F=true:=by
    unfold rm;rw[hfs];simp only[hw];rw[List.all_map]at hap;exact hap
   unfold cK;rw[g1];simp only[hf,Bool.or_true,if_true,<-gd.E];refine g2 _ _ ?_;rw[<-h3,hw];exact e1
  .simp at e1
 | _=>rw[hw]at e1;simp[dI]at e1
theorem Dd {E:Env} {nm:FuncId->Option Nat} {op:Op} {s:Nat} {a:Bool} {os:List Operand} (h:resolve E nm op=some (.r (.loadF s a),os)):False:=by
 unfold resolve at h
 (repeat' split at h) <;> first|(simp at h;done)|skip
 all_goals (obtain⟨_,_,e⟩:=ζf.1 h;simp only[ζc,K.r.injEq,reduceCtorEq,false_and,and_false]at e)
theorem Ey {E:Env} {nm:FuncId->Option Nat} {op:Op} {s a':Nat} {a:Bool} {t:TypeId} {os:List Operand} (h:resolve E nm op=some (.r (.load s a),os)):∃t x,op=.load t x/\os=[x]:=by
 unfold resolve at h
 (repeat' split at h) <;> first|(simp at h;done)|skip
 all_goals (obtain⟨_,_,e⟩:=ζf.1 h;simp only[ζc,K.r.injEq,reduceCtorEq,false_and,and_false]at e)
 all_goals exact⟨_,_,rfl,e.2.symm⟩
theorem Ks {E:Env} {nm:FuncId->Option Nat} {ops:List Oper} {j:Nat} {op:Op} {q:Gu} {os:List Operand} (hr:resolve E nm op=some (.r q,os)) (h:∀n ag a',K.r q=.r (.load n ag)->os=[.tmp a']->∀t,op=.load t (.tmp a')->nV ops j a'=[]):lT ops j F op=true:=by
 unfold lT;split
 .rename_i t a';have:∃n ag,q=.load n ag/\os=[.tmp a']:=by
   simp only[resolve]at hr;obtain⟨d,_,e⟩:=ζf.1 hr;simp only[ζc,K.r.injEq]at e;exact⟨_,_,e.1.symm,e.2.symm⟩
  obtain⟨n,ag,rfl,rfl⟩:=this;rw[h n ag a' rfl rfl t rfl];rfl
 .rfl
theorem OH (gd:Good X S) {ops:List Oper} {b j n a:Nat} {ag:Bool} {fr:List Nat} {o:Oper} {svs:List SV} {ys:List V} {dst:Option Nat} {x:SV} (hr:resolve X.E X.nm o.op=some (.r (.load n ag),[.tmp a])) (hys:ec F (.tmp a::(nV ops j a).map Operand.tmp)=some ys) (rs:bf ν st.m H Z svs ys)
 (hol:c6 fr svs=true) (hbl:b<=H.length) (ho1:∀d ob,ai st.m d=some ob->bM ob=true->d∉fr->(ν d).1<b) (ho2:∀id,Z id->id<b) (r:R ν Z st F H) (hx:jc st.m (.loadF n ag) svs=some x):Di S ops (some (b,j)) true F o.op dst ν Z st H x st:=by
 obtain⟨w,ws,h1,h2,rfl⟩:=gQ hys;simp only[ev,ζa]at h1;have hws:=Ad h2;unfold jc at hx;split at hx <;> first|(rename_i heq;cases heq;done)|skip
 .rename_i size agg d off l heq;cases heq;split at hx
  .rename_i hfar;split at hx
   .rename_i cs hob;obtain⟨w',ws',e,g1,g2⟩:=rs.inv;cases e;have hall:=FY r hob g2 hfar;obtain⟨_,_,rfl⟩:=g1.nq hob;have hzr:∀id,Z id->Z id/\an (H.take b) id=an H id:=λid h=>⟨h,nE (ho2 id h)⟩
    have hzr':∀id,Z id->Z id/\an H id=an (H.take b) id:=λid h=>⟨h,(nE (ho2 id h)).symm⟩
    have hnf:d∉fr:=λhf=>by
     have:=mj hol d hf;simp[SV.cu,SV.bQ]at this
    obtain⟨y,hy,hyy⟩:=tE (H:=H.take b) (r:=.load n ag) (svs:=[.ptr d off]) (ys:=[.hptr (ν d).1 0 off]) (λs a e=>by cases e) (λkk z ok e=>by cases e) (bf.cons (g1.mono hzr λe _=>iS ν st.m e) .nil) (λd2 hd2 ob hob2=>by
     have hf2:d2∉fr:=λhf=>by
      have:d=d2:=by simpa [SV.cu,SV.bQ]using hd2
      exact hnf (this▸hf)
     exact cZ.mono hzr rfl (λhb=>by rw[List.getElem?_take,if_pos (ho1 d2 ob hob2 hb hf2)]) (λe _=>iS ν st.m e) (r.obj d2 ob hob2)) (sv:=x) (by simp only[jc,hob];exact hx)
    obtain⟨k1,k2⟩:=qJ (F:=F) gd.N hr (show ec F [.tmp a]=some [.hptr (ν d).1 0 off]from by simp only[ec,ev,h1])
    have hfr:lT ops j F o.op=true:=by
     obtain⟨t,x',e1,e2⟩:=Ey (a':=0) (t:=0) hr;rw[e1];simp only[List.cons.injEq,and_true]at e2;subst e2;simp only[lT,List.all_eq_true];intro s hs;have hm:get F s∈ws:=by rw[hws];exact List.mem_map_of_mem hs
     have:=List.all_eq_true.1 hall _ hm;rw[h1];split
     .rename_i id' _ _ hg;rw[hg]at this;simp only[o7,bne_iff_ne,ne_eq]at this ⊢;exact λe=>this e.symm
     .rfl
    refine⟨0,y,H,ν,Z,λq _=>?_,r,hyy.mono hzr' (λe _=>iS ν st.m e),.refl,λ_=>⟨rfl,.refl⟩⟩
    unfold cK;rw[k1];simp only[<-gd.E,k2 (H.take b) y hy,hfr,if_true]
   .simp at hx
  .simp at hx
 .simp at hx
theorem PT (gd:Good X S) (hS:jR S c) {ops:List Oper} {place:Option (Nat×Nat)} {dr:Bool} {fr:List Nat} {i:Nat} (hdr:dr=place.isSome) (hi:∀b j,place=some (b,j)->j=i)
 (hold:∀b j,place=some (b,j)->b<=H.length/\Old b fr ν Z st.m)
 {o:Oper} {ro:RO} (hc:lP X dr ops i o=some ro) (hop:∀b j,place=some (b,j)->ops[j]? = some o) (hfree:∀b j,place=some (b,j)->dn o.op=.alloc->H[b+j]? = some .free)
 (r:R ν Z st F H) {sv:SV} (h:mZ S c dr fr ro st=some (sv,st')) :
 Di S ops place dr F o.op (vX ro) ν Z st H sv st':=by
 unfold lP at hc;split at hc
 .split at hc
  .rename_i g k os hg hr;split at hc
   .rename_i hk;rcases Bl dr ops i k os with⟨hq,hqr⟩|⟨hdt,hnl,n,a,l,os',rfl,rfl,hfs,hq⟩|⟨hdt,hnl,n,ag,a,rfl,rfl,hq⟩
    rotate_left
    .rw[hq]at hc;obtain⟨az,ha,rfl⟩:=ζf.1 hc;unfold mZ at h;split at h
     .rename_i svs hsv;obtain⟨ys,hys,rs⟩:=tL gd.N r.slot ha hsv;simp only[hdt,Bool.not_true,Bool.false_or,if_true]at h;obtain⟨y,H',ν',e1,e2,e3,e4,e5⟩:=Fa r rs h;refine⟨0,y,H',ν',Z,λq _=>?_,e2,e3,e4.weak (λ_ h=>h.elim),λ_=>⟨rfl,e5⟩⟩
      cases place with
      | none=>rw[hdr]at hdt;cases hdt
      | some bi=>
       obtain⟨b,j⟩:=bi;have hji:=hi b j rfl;subst hji;exact Rw gd hr hys hfs hnl e1
     .simp at h
    .rw[hq]at hc;obtain⟨az,ha,rfl⟩:=ζf.1 hc;unfold mZ at h;split at h
     .rename_i svs hsv;obtain⟨ys,hys,rs⟩:=tL gd.N r.slot ha hsv;simp only[hdt,Bool.not_true,Bool.or_self,Bool.false_or]at h;split at h
      .rename_i hol;obtain⟨x,hx,e⟩:=ζf.1 h;simp only[ζc]at e;obtain⟨rfl,rfl⟩:=e
       cases place with
       | none=>rw[hdr]at hdt;cases hdt
       | some bi=>
        obtain⟨b,j⟩:=bi;have hji:=hi b j rfl;subst hji;obtain⟨hbl,ho1,ho2⟩:=hold b j rfl;rw[hdt];exact OH gd hr hys rs hol hbl ho1 ho2 r hx
      .simp at h
     .simp at h
    rw[hq]at hc;obtain⟨az,ha,rfl⟩:=ζf.1 hc;unfold mZ at h;split at h
    .rename_i svs hsv;obtain⟨ys,hys,rs⟩:=tL gd.N r.slot ha hsv;have hres:=qJ gd.N hr hys;simp only at h
     cases k with
     | p p=>
      cases p with
      | slice size lo hi=>
       simp only at h;split at h
       .rename_i d bs;split at h
        .simp at h
        .rename_i hnd;obtain⟨y,ν',h1,h2,h3,h4⟩:=Jn (N:=S.N) (Rv:=λid=>∃b j,place=some (b,j)/\id=b+j) r rs h
         obtain⟨g1,g2⟩:=hres;exact⟨0,y,H,ν',Z,λq _=>by unfold cK;rw[g1];simp only[<-gd.E,g2 y h1,Option.map_some],h2,h3,h4,λhd=>absurd hd hnd⟩
       .exact Jh gd hk r rs hres h
      | _=>exact Jh gd hk r rs hres h
     | r q=>
      simp only at h;split at h
      .rename_i hnow;obtain⟨x,hx,e⟩:=ζf.1 h;simp only[ζc]at e;obtain⟨rfl,rfl⟩:=e;obtain⟨g1,g2⟩:=hres;have hzc:∀kk z ok,q=.lookup kk z ok->z.good=true:=λkk z ok e=>by subst e;simpa [uK]using hk
       have hnf:∀s a,q≠.loadF s a:=λs a e=>by subst e;exact Dd hr
       cases place with
       | none=>
        obtain⟨y,hy,hyy⟩:=tE hnf hzc rs (λd _ ob hd=>r.obj d ob hd) hx
        exact⟨0,y,H,ν,Z,λq _=>by unfold cK;rw[g1];simp only[<-gd.E,g2 H y hy,Option.map_some],r,hyy,.refl,λ_=>⟨rfl,.refl⟩⟩
       | some bi=>
        obtain⟨b,j⟩:=bi;obtain⟨hbl,ho1,ho2⟩:=hold b j rfl;have hdt:dr=true:=hdr;subst hdt;have hji:=hi b j rfl;subst hji;simp only[Bool.not_true,Bool.false_or,Bool.true_and]at hnow;have hfr:lT ops j F o.op=true:=Ks hr λn ag a' e1 e2 t e3=>by
         by_cases hlo:cU ops j=true
         .exact A2 (hop b j rfl) e3 hlo
         .exact hqr n ag a' rfl (by simpa using hlo) e1 e2
        by_cases hlo:cU ops j=true
        .obtain⟨y,hy,hyy⟩:=tE hnf hzc rs (λd _ ob hd=>r.obj d ob hd) hx
         have hH:=g2 H y hy;refine⟨0,y,H,ν,Z,λq _=>?_,r,hyy,.refl,λ_=>⟨rfl,.refl⟩⟩
         unfold cK;rw[g1];simp only[<-gd.E,hfr,if_true];split
         .rename_i v hv;have:=wF hv;rw[hH]at this;cases this;rfl
         .rw[if_pos hlo,hH];rfl
        .have hol:c6 fr svs=true:=by simpa [hlo]using hnow
         have hzr:∀id,Z id->Z id/\an (H.take b) id=an H id:=λid h=>⟨h,nE (ho2 id h)⟩
         have hzr':∀id,Z id->Z id/\an H id=an (H.take b) id:=λid h=>⟨h,(nE (ho2 id h)).symm⟩
         obtain⟨y,hy,hyy⟩:=tE (H:=H.take b) hnf hzc (rs.mono hzr λe _=>iS ν st.m e) (λd hd ob hob=>by
          have hnf:d∉fr:=λhf=>by rw[mj hol d hf]at hd;cases hd
          exact cZ.mono hzr rfl (λhb=>by rw[List.getElem?_take,if_pos (ho1 d ob hob hb hnf)]) (λe _=>iS ν st.m e) (r.obj d ob hob)) hx
         refine⟨0,y,H,ν,Z,λq _=>?_,r,hyy.mono hzr' (λe _=>iS ν st.m e),.refl,λ_=>⟨rfl,.refl⟩⟩
         unfold cK;rw[g1];simp only[<-gd.E,g2 (H.take b) y hy,hfr,if_true]
      .simp at h
     | a q=>
      simp only at h;split at h
      .rename_i d hd;split at h
       .rename_i hnew;obtain⟨⟨ob,x⟩,hx,e⟩:=ζf.1 h;simp only[ζc]at e;obtain⟨rfl,rfl⟩:=e;obtain⟨obv,mk,e1,e2,e3,e4⟩:=JE hk rs hx;obtain⟨g1,g2⟩:=hres;obtain⟨n1,n2,n3,n4⟩:=lI hnew;have hsame:∀p:Nat×Nat,∀e,SV.cu e svs=true->∀ob',ai (aO st.m d ob) e=some ob'->∃ob,ai st.m e=some ob/\gR ν d p e=ν e/\sameShape ob ob':=λp e he=>by
         refine q9 ?_;rintro rfl;have:∀{xs:List Arg} {vs:List SV},aW S.N st.g xs=some vs->SV.cu e vs=false:=by
          intro xs
          induction xs with
          | nil=>intro vs h;simp only[aW,ζa]at h;subst h;rfl
          | cons a xs ih=>
           intro vs h;simp only[aW]at h;split at h
           .rename_i v vs' h1 h2;simp only[ζa]at h;subst h;simp only[SV.cu,Bool.or_eq_false_iff];refine⟨?_,ih h2⟩
            cases a with
            | s n=>exact wh n3 h1
            | k c=>simp only[oS,ζa]at h1;subst h1;rfl
            | f s=>simp only[oS,ζa]at h1;subst h1;rfl
           .simp at h
         rw[this hsv]at he;cases he
        have fin:∀(id:Nat) (Hn:ak),H.length<=Hn.length->Hn[id]? = some obv->(∀k,k<H.length->k≠id->Hn[k]? = H[k]?)->(∀k,dW ν st.m k->k≠id)->(∀k,Z k->k≠id) ->
         R (gR ν d (id,0)) Z { st with m:=aO st.m d ob } F Hn/\b_ (gR ν d (id,0)) (aO st.m d ob) Hn Z x (mk.val id)/\(∀k,Z k->an Hn k=an H k):=λid Hn hl hid hk' ho hz=>by
         have hzr:∀k,Z k->an Hn k=an H k:=λk hk=>by unfold an;rw[hk' k (r.tW hk) (hz k hk)]
         obtain⟨a1,a2⟩:=e4 id (gR ν d (id,0)) (aO st.m d ob) Hn (ga _ _ _) (bK _ _ _) hid hzr (hsame _);have r2:R ν Z st F Hn:=r.heap (λk hk=>hk' k (r.lt hk) (ho k hk)) hzr
         exact⟨r2.add hnew (λ_=>⟨λh=>ho _ h rfl,λh=>hz _ h rfl⟩) a1,a2,hzr⟩
        have hdst:o.dst=some d:=hd
        cases place with
        | none=>
         obtain⟨f1,f2,f3⟩:=fin H.length (H++[obv]) (by simp) (by simp) (λk hk _=>List.getElem?_append_left hk) (λk hk=>Nat.ne_of_lt (r.lt hk)) (λk hk=>Nat.ne_of_lt (r.tW hk))
         refine⟨0,mk.val H.length,H++[obv],gR ν d (H.length,0),Z,λq _=>?_,f1,f2,Ev.add hnew (by simp) (λk hk _=>List.getElem?_append_left hk) f3 (λ_=>.inr (Nat.le_refl _)),λhh=>?_⟩
         .unfold cK;rw[g1];simp only[<-gd.E,g2 _ e1]
         .rw[hdr]at hh;cases hh
        | some bi=>
         obtain⟨b,j⟩:=bi;have hf:=hfree b j rfl g1;have hlt:=(ζe.1 hf).1;have nf:∀k,dW ν st.m k->k≠b+j:=λk hk e=>by
          subst e;obtain⟨d',ob',w1,w2,w3⟩:=hk;have:=r.obj d' ob' w1
          cases ob' with
          | sl fl es xs=>
           simp only[bM]at w2;simp only[cZ,w2,if_true]at this;obtain⟨_,hr',_⟩:=this;rw[w3,hf]at hr';cases hr'
          | box cs=>obtain⟨_,_,hr',_⟩:=this;rw[w3,hf]at hr';cases hr'
          | mp kvs=>obtain⟨_,hr',_⟩:=this;rw[w3,hf]at hr';cases hr'
         have nz:∀k,Z k->k≠b+j:=λk hk e=>by
          subst e;have:=r.zrow _ hk;unfold an at this;rw[hf]at this;simp[Ob.rows]at this
         obtain⟨f1,f2,f3⟩:=fin (b+j) (H.set (b+j) obv) (by simp) (by rw[List.getElem?_set_self hlt]) (λk _ hk=>by rw[List.getElem?_set,if_neg (Ne.symm hk)]) nf nz
         refine⟨0,mk.val (b+j),H.set (b+j) obv,gR ν d (b+j,0),Z,λq _=>?_,f1,f2,Ev.add hnew (by simp) (λk _ hk=>?_) f3 (λ_=>.inl ⟨b,j,rfl,rfl⟩),λ_=>⟨rfl,?_⟩⟩
         .unfold cK;rw[g1];simp only[<-gd.E,g2 _ e1,hf]
         .rw[List.getElem?_set,if_neg λe=>hk ⟨b,j,rfl,e.symm⟩]
         .have:vX ⟨o.dst,g,dr&&cU ops j,.a q,az,[],[]⟩=some d:=hdst;have hji:=hi b j rfl;subst hji;rw[this];exact Kept.add λ_ _ h=>h
       .simp at h
      .simp at h
     | l q=>
      simp only at h;split at h
      .rename_i hnow;obtain⟨y,H',ν',e1,e2,e3,e4,e5⟩:=Fa r rs h;obtain⟨g1,g2⟩:=hres;refine⟨0,y,H',ν',Z,λq _=>?_,e2,e3,e4.weak (λ_ h=>h.elim),λ_=>⟨rfl,e5⟩⟩
       unfold cK;rw[g1];simp only[<-gd.E]
       cases place with
       | none=>exact g2 _ _ e1
       | some bi=>
        obtain⟨b,j⟩:=bi;have hdt:dr=true:=hdr;subst hdt;have hji:=hi b j rfl;subst hji;have hlo:cU ops j=true:=by simpa using hnow
        simp only[hlo,if_true];exact g2 _ _ e1
      .simp at h
     | c=>
      simp only at h;obtain⟨g1,f',az',e1,e2⟩:=hres;have go:∀(f:FuncId) (args:List SV) (ys2:List V),bf ν st.m H Z args ys2->iF F o.op=some (.fn f,ys2)->fQ S c o.dst dr (!dr||(dr&&cU ops i)) (fA st.m fr) f args st=some (sv,st') ->
       Di S ops place dr F o.op (vX ⟨o.dst,g,dr&&cU ops i,.c,az,[],[]⟩) ν Z st H sv st':=λf args ys2 hrl hcal hcs=>by
       obtain⟨n,y,H',ν',Z',p1,p2,p3,p4,p5,p6⟩:=LC (ops:=ops) (Rv:=λid=>∃b j,place=some (b,j)/\id=b+j) hS gd.prm hdr (λb j hp hn=>by
        have:=hi b j hp;subst this;simp only[ζh]at hn;exact hn.2) (λb j hp=>(hold b j hp).2) r hrl hcs
       refine⟨n,y,H',ν',Z',λq hq=>?_,p2,p3,p4,λhd=>⟨p5 hd,p6⟩⟩
       unfold cK;rw[g1];simp only[hcal];exact p1 q hq
      split at h
      .rename_i f a b vs;obtain⟨w,ws,ew,r1,r2⟩:=rs.inv;rw[ew]at e1;simp only[List.cons.injEq]at e1;obtain⟨rfl,rfl⟩:=e1;obtain⟨a',b',rfl,ra,rb⟩:=r1.iL;exact go f _ _ ((ra.append r2).append rb) e2 h
      .rename_i f a b vs;obtain⟨w,ws,ew,r1,r2⟩:=rs.inv;rw[ew]at e1;simp only[List.cons.injEq]at e1;obtain⟨rfl,rfl⟩:=e1;obtain⟨a',b',rfl,ra,rb⟩:=r1.fr.iL;exact go f _ _ (((bf.pH ra).append r2).append (bf.pH rb)) e2 h
      .simp at h
    .simp at h
   .simp at hc
  .simp at hc
 .simp at hc
end
end Go.VE
namespace Go.VE
variable [aS]
def eO (N:Nat->FuncId) (g:Tb SV) (o:RO):Option (Nat×List SV):=
 match o.k,aW N g o.az with
 | .c,some (.yl id::vs)=>some (id,vs)
 | _,_=>none
open Classical in
noncomputable def d_ (S:Sys) (c:bG) (dr:Bool) (fr:List Nat) (o:RO) (st:St):Option St:=
 match wanted st.g o.gd with
 | some true=>match eO S.N st.g o with
  | some (id,vs)=>if dr then none else match cV vs,st.want with
   | some xs,w::ws=>if xs=w/\id=st.yid then some (bV { st with want:=ws } o.dst (.v (.bool (st.more || !ws.isEmpty))))else none
   | _,_=>none
  | none=>(mZ S c dr fr o st).map λ(x,st')=>bV st' o.dst x
 | some false=>some (bV st o.dst (.v .undef))
 | none=>none
def RO.strip (o:RO):RO:={ o with dead:=[],pre:=[] }
def lq:List Gh->St->Option St
 | [],st=>some st
 | x::r,st=>(ghost x st).bind (lq r)
def xL:Gh->Bool
 | .keep ..=>true
 | .drop _=>true
 | _=>false
def yd (dr:Bool) (l:List Gh) (st:St):Option St:=if dr then(if l.all xL then lq l st else none)else lq l st
def nP (ds:List Nat) (st:St):St:={ st with g:=uh ds st.g }
noncomputable def lE (S:Sys) (c:bG) (dr:Bool):List Nat->List RO->St->Option St
 | _,[],st=>some st
 | fr,o::r,st=>match (yd dr o.pre st).bind (d_ S c dr fr o.strip)with
  | some st'=>lE S c dr (if dr then pz fr o.strip else fr) r (nP o.dead st')
  | none=>none
abbrev JT:=List (List V)->(Nat->Prop)->(Nat->Prop)->ak->Prop
structure Yc (S:Sys) (J:JT) (more:Bool) (yid:Nat):Prop where
 uY:∀w O Z H O' Z' H',J w O Z H->H.length<=H'.length->(∀i,i<H.length->¬O i->¬Z i->H'[i]? = H[i]?)->(∀i,Z i->Z' i/\an H' i=an H i) ->
  (∀i,O' i->O i\/H.length<=i)->(∀i,Z' i->Z i\/O i\/H.length<=i)->J w O' Z' H'
 yield:∀x ws O Z H args,J (x::ws) O Z H->b9 H Z x args->(∀i,Z i->(an H i).isSome=true)->Deep H Z->(∀i,O i->¬Z i/\i<H.length) ->
  ∃n H',run S.E n (.yld yid) args H=some (.bool (more || !ws.isEmpty),H')/\J ws O Z H'/\H.length<=H'.length/\(∀i,O i->H'[i]? = H[i]?)/\(∀i,Z i->an H' i=an H i)
structure Fix (ν:Nu) (st:St) (ν':Nu) (st':St):Prop where
 pin:∀d∈st.pin,∀ob',ai st'.m d=some ob'->∃ob,ai st.m d=some ob/\ν' d=ν d/\sameShape ob ob'
 pins:st'.pin=st.pin
 more:st'.more=st.more
 yid:st'.yid=st.yid
section
variable {Rv:Nat->Prop} {ν ν' ν2:Nu} {Z Z':Nat->Prop} {st st' st2:St} {m m':Tb aL} {F F':Frame} {H H' H1:ak} {S:Sys} {c:bG} {X:CX} {J:JT}
theorem Fix.refl:Fix ν st ν st:=⟨λ_ _ ob' h=>⟨ob',h,rfl,.refl _⟩,rfl,rfl,rfl⟩
theorem Fix.trans (a:Fix ν st ν' st') (b:Fix ν' st' ν2 st2):Fix ν st ν2 st2:=
 ⟨λd hd ob2 h=>by
  obtain⟨ob1,h1,h2,h3⟩:=b.pin d (by rw[a.pins];exact hd) ob2 h
  obtain⟨ob,k1,k2,k3⟩:=a.pin d hd ob1 h1;exact⟨ob,k1,by rw[h2,k2],k3.trans h3⟩,by rw[b.pins,a.pins],by rw[b.more,a.more],by rw[b.yid,a.yid]⟩
theorem Ev.beside (y:Yc S J st.more st.yid) (a:Ev (λ_=>False) ν Z st H ν' Z' st' H') (hw:st'.want=st.want) (j:J st.want (dW ν st.m) Z H):J st'.want (dW ν' st'.m) Z' H':=by
 rw[hw];exact y.uY _ _ _ _ _ _ _ j a.len (λi h1 h2 h3=>a.same i h1 h2 h3 (λh=>h)) a.rows (λi h=>(a.own i h).imp (λh=>h) (λh=>h.elim (λh=>h.elim) (λh=>h)))
  (λi h=>(a.frz i h).imp (λh=>h) (λh=>h.imp (λh=>h) (λh=>h.elim (λh=>h.elim) (λh=>h))))
theorem ta (hs:∀s sv,ai st.g s=some sv->b_ ν m H Z sv (get F s)) {ops:List Oper} {o:Oper} {gd:Option (Nat×Bool)} (hg:Ir ops o=some gd) {t:Bool} (hw:wanted st.g gd=some t):eR ops F o=t:=by
 unfold Ir at hg;unfold eR
 cases hgd:o.guard with
 | none=>
  rw[hgd]at hg;simp only[ζa]at hg;subst hg;simp only[wanted,ζa]at hw;subst hw;rfl
 | some jb=>
  obtain⟨j,b⟩:=jb;rw[hgd]at hg;simp only at hg;obtain⟨d,hd,rfl⟩:=ζf.1 hg;simp only[hd];simp only[wanted]at hw;split at hw
  .rename_i c hc;simp only[ζa]at hw;subst hw;rw[(hs d _ hc).fr.bool]
  .rename_i x hx hc;simp only[ζa]at hw;subst hw;have hfr:=(hs d _ hc).fr;split
   .rename_i c hcc;rw[hcc]at hfr;cases hfr;exact absurd rfl (hx c)
   .rfl
  .simp at hw
theorem JY {q:Cq} {dst:Option Nat} {args:List SV} {sv:SV} (h:zM q dst args st=some (sv,st')):st'.want=st.want/\st'.pin=st.pin/\st'.more=st.more/\st'.yid=st.yid:=by
 unfold zM at h;split at h
 .split at h
  .split at h
   .split at h
    .split at h
     .split at h
      .simp only[ζa,ζc]at h;obtain⟨_,rfl⟩:=h;exact⟨rfl,rfl,rfl,rfl⟩
      .cases h
     .cases h
    .simp only[ζa,ζc]at h;obtain⟨_,rfl⟩:=h;exact⟨rfl,rfl,rfl,rfl⟩
   .cases h
  .cases h
 .cases h
theorem Lf {dr:Bool} {fr:List Nat} {ro:RO} {sv:SV} (h:mZ S c dr fr ro st=some (sv,st')):st'.want=st.want/\st'.pin=st.pin/\st'.more=st.more/\st'.yid=st.yid:=by
 unfold mZ at h;split at h
 .split at h
  .split at h
   .split at h
    .simp at h
    .unfold wZ at h;split at h
     .split at h
      .obtain⟨_,_,h⟩:=ζg.1 h;obtain⟨_,_,h⟩:=ζg.1 h;dsimp only at h;split at h
       .simp only[ζa,ζc]at h;obtain⟨_,rfl⟩:=h;exact⟨rfl,rfl,rfl,rfl⟩
       .simp at h
      .simp at h
     .simp at h
   .obtain⟨_,_,e⟩:=ζf.1 h;simp only[ζc]at e;obtain⟨_,rfl⟩:=e;exact⟨rfl,rfl,rfl,rfl⟩
  .obtain⟨_,_,e⟩:=ζf.1 h;simp only[ζc]at e;obtain⟨_,rfl⟩:=e;exact⟨rfl,rfl,rfl,rfl⟩
  .split at h
   .obtain⟨_,_,e⟩:=ζf.1 h;simp only[ζc]at e;obtain⟨_,rfl⟩:=e;exact⟨rfl,rfl,rfl,rfl⟩
   .simp at h
  .split at h
   .split at h
    .obtain⟨_,_,e⟩:=ζf.1 h;simp only[ζc]at e;obtain⟨_,rfl⟩:=e;exact⟨rfl,rfl,rfl,rfl⟩
    .simp at h
   .simp at h
  .split at h
   .unfold lp at h
    (repeat' split at h) <;> first|(simp at h;done)|(simp only[ζa,ζc]at h;obtain⟨_,rfl⟩:=h;exact⟨rfl,rfl,rfl,rfl⟩)|(obtain⟨_,_,e⟩:=ζf.1 h;simp only[ζc]at e;obtain⟨_,rfl⟩:=e;exact⟨rfl,rfl,rfl,rfl⟩)|skip
    .dsimp only at h
     (repeat' split at h) <;> first|(simp at h;done)|(simp only[ζa,ζc]at h;obtain⟨_,rfl⟩:=h;exact⟨rfl,rfl,rfl,rfl⟩)
   .simp at h
  .have hc:∀{dst dr now old f args},fQ S c dst dr now old f args st=some (sv,st')->st'.want=st.want/\st'.pin=st.pin/\st'.more=st.more/\st'.yid=st.yid:=by
    intro dst dr now old f args h;unfold fQ at h
    (repeat' split at h) <;> first|exact JY h|(simp at h;done)|(simp only[ζa,ζc]at h;obtain⟨_,rfl⟩:=h;exact⟨rfl,rfl,rfl,rfl⟩)
   split at h
   .exact hc h
   .exact hc h
   .simp at h
 .simp at h
theorem yg (r:R ν Z st F H) {nt:Nat} {dst:Option Nat} (hd:yh nt dst=true) {sv:SV} {y:V} (h:b_ ν st.m H Z sv y):∃F',ij nt F dst y=some F'/\R ν Z (bV st dst sv) F' H:=by
 cases dst with
 | none=>exact⟨F,rfl,r⟩
 | some d=>
  have:d<nt:=by simpa [yh]using hd
  exact⟨set F d y,by simp only[ij,if_pos this],r.put h⟩
theorem Bo (st:St) (dst:Option Nat) (sv:SV):(bV st dst sv).m=st.m/\(bV st dst sv).want=st.want/\(bV st dst sv).pin=st.pin/\(bV st dst sv).more=st.more/\(bV st dst sv).yid=st.yid:=by
 cases dst <;> exact⟨rfl,rfl,rfl,rfl,rfl⟩
theorem GM (gd:Good X S) (hS:jR S c) {ops:List Oper} {place:Option (Nat×Nat)} {dr:Bool} {fr:List Nat} {i:Nat} (hdr:dr=place.isSome) (hi:∀b j,place=some (b,j)->j=i)
 (hold:∀b j,place=some (b,j)->b<=H.length/\Old b fr ν Z st.m)
 {o:Oper} {ro:RO} (hc:lP X dr ops i o=some ro) (hop:∀b j,place=some (b,j)->ops[j]? = some o) (hfree:∀b j,place=some (b,j)->dn o.op=.alloc->H[b+j]? = some .free)
 (r:R ν Z st F H) (hny:eO S.N st.g ro=none\/dr=true) (h:d_ S c dr fr ro st=some st') :
 ∃n F' H' ν' Z',(∀k,n<=k->eB S.E (run S.E k) X.nt ops place o F H=some (F',H'))/\R ν' Z' st' F' H'/\Ev (λid=>∃b j,place=some (b,j)/\id=b+j) ν Z st H ν' Z' st' H' /\
  (dr=true->Z'=Z/\Kept (vX ro) ν st.m ν' st'.m)/\st'.want=st.want/\Fix ν st ν' st':=by
 have hc0:=hc;unfold lP at hc;split at hc
 .rename_i hdst;split at hc
  .rename_i g k os hg hr;split at hc
   .obtain⟨az,ha,rfl⟩:=ζf.1 hc;unfold d_ at h;split at h
    .rename_i hw;have hwv:=ta r.slot hg hw;have h2:(mZ S c dr fr ⟨o.dst,g,(tY dr ops i k os).2.2,(tY dr ops i k os).1,az,[],[]⟩ st).map (λ(x,st')=>bV st' o.dst x)=some st':=by
      split at h
      .rename_i id vs hya;rcases hny with hny|hny
       .rw[hny]at hya;cases hya
       .subst hny;simp at h
      .exact h
     obtain⟨⟨x,st1⟩,hd,rfl⟩:=ζf.1 h2;obtain⟨n,y,H',ν',Z',e1,e2,e3,e4,e5⟩:=PT gd hS hdr hi hold hc0 hop hfree r hd;obtain⟨w1,w2,w3,w4⟩:=Lf hd;obtain⟨F',f1,f2⟩:=yg e2 hdst e3;obtain⟨p1,p2,p3,p4,p5⟩:=Bo st1 o.dst x;refine⟨n,F',H',ν',Z',λk hk=>?_,f2,?_,λhd=>⟨(e5 hd).1,by rw[p1];exact(e5 hd).2⟩,by rw[p2,w1],⟨λd hd=>by rw[p1];exact e4.pin d hd,by rw[p3,w2],by rw[p4,w3],by rw[p5,w4]⟩⟩
     .unfold eB;simp only[hwv,if_true,e1 k hk,f1,Option.map_some]
     .exact⟨e4.len,e4.same,e4.rows,λid h=>e4.own id (by rw[p1]at h;exact h),e4.frz,λd hd=>by rw[p1];exact e4.pin d hd,by rw[p3,w2]⟩
    .rename_i hw;have hwv:=ta r.slot hg hw;simp only[ζa]at h;subst h;obtain⟨F',f1,f2⟩:=yg r hdst (.v V.undef V.undef (.same _ rfl));obtain⟨p1,p2,p3,p4,p5⟩:=Bo st o.dst (.v .undef);refine⟨0,F',H,ν,Z,λk _=>?_,f2,?_,λ_=>⟨rfl,by rw[p1];exact .refl⟩,p2,⟨λd hd=>by rw[p1];exact λob' h=>⟨ob',h,rfl,.refl _⟩,p3,p4,p5⟩⟩
     .unfold eB;simp only[hwv,Bool.false_eq_true,if_false,f1,Option.map_some]
     .exact⟨Nat.le_refl _,λ_ _ _ _ _=>rfl,λ_ h=>⟨h,rfl⟩,λ_ h=>.inl (by rw[p1]at h;exact h),λ_ h=>.inl h,λd hd=>by rw[p1];exact λob' h=>⟨ob',h,rfl,.refl _⟩,p3⟩
    .simp at h
   .simp at hc
  .simp at hc
 .simp at hc
theorem KS (gd:Good X S) (y:Yc S J st.more st.yid) {ops:List Oper} {fr:List Nat} {i:Nat} {o:Oper} {ro:RO} (hc:lP X false ops i o=some ro)
 (r:R ν Z st F H) (j:J st.want (dW ν st.m) Z H) {id:Nat} {vs:List SV} (hya:eO S.N st.g ro=some (id,vs)) (hw0:wanted st.g ro.gd=some true) (h:d_ S c false fr ro st=some st') :
 ∃n F' H',(∀k,n<=k->eB S.E (run S.E k) X.nt ops none o F H=some (F',H'))/\R ν Z st' F' H'/\J st'.want (dW ν st'.m) Z H'/\Fix ν st ν st':=by
 unfold lP at hc;split at hc
 .rename_i hdst;split at hc
  .rename_i g k os hg hr;split at hc
   .obtain⟨az,ha,rfl⟩:=ζf.1 hc;unfold d_ at h;simp only at hw0;have hwv:=ta r.slot hg hw0;rw[hw0]at h;simp only[hya,Bool.false_eq_true,if_false]at h;unfold eO at hya;split at hya
    .rename_i id' vs' hk hsa;simp only[ζa,ζc]at hya;obtain⟨rfl,rfl⟩:=hya;simp only at hk hsa;subst hk;obtain⟨ys,hys,rs⟩:=tL gd.N r.slot ha hsa;obtain⟨g1,f',az',e1,e2⟩:=qJ gd.N hr hys;obtain⟨w,ws,ew,r1,r2⟩:=rs.inv;rw[ew]at e1;simp only[List.cons.injEq]at e1;obtain⟨rfl,rfl⟩:=e1;cases r1;simp only at e2;split at h
     .rename_i xs x wl hx hwant;split at h
      .rename_i hcond;obtain⟨rfl,rfl⟩:=hcond;simp only[ζa]at h;subst h;rw[hwant]at j;obtain⟨n,H',p1,p2,p3,p4,p5⟩:=y.yield _ _ _ _ _ _ j (r2.cV hx) r.zrow r.deep (λi hi=>⟨by obtain⟨d,ob,h1,h2,rfl⟩:=hi;exact r.apart d ob h1 h2,r.lt hi⟩)
       have r3:R ν Z st F H':=r.heap p4 p5;have r4:R ν Z { st with want:=wl } F H':=⟨r3.slot,r3.obj,r3.inj,r3.apart,r3.zrow,r3.deep⟩;obtain⟨F',f1,f2⟩:=yg (st:={ st with want:=wl }) r4 hdst (sv:=.v (.bool (st.more || !wl.isEmpty))) (.v _ _ (.same _ rfl));obtain⟨q1,q2,q3,q4,q5⟩:=Bo { st with want:=wl } o.dst (.v (.bool (st.more || !wl.isEmpty)));refine⟨n,F',H',λk hk=>?_,f2,by rw[q1,q2];exact p2,⟨λd hd=>by rw[q1];exact λob' h=>⟨ob',h,rfl,.refl _⟩,q3,q4,q5⟩⟩
       unfold eB cK;rw[g1,e2];simp only[hwv,if_true,mm S.E hk _ _ _ _ p1,f1,Option.map_some]
      .simp at h
     .simp at h
    .simp at hya
   .simp at hc
  .simp at hc
 .simp at hc
def jH (X:CX) (draw:Bool) (ops:List Oper):Nat->List Oper->Option (List RO)
 | _,[]=>some []
 | i,o::r=>match lP X draw ops i o,jH X draw ops (i+1) r with
  | some ro,some rs=>some (ro::rs)
  | _,_=>none
theorem R.vS (r:R ν Z st F H) (ds:List Nat):R ν Z (nP ds st) F H:=r.less (g:=uh ds st.g) (m':=st.m) (λs sv hs=>sY hs) (λd ob hd=>hd)
theorem Fix.vS {ds:List Nat} (f:Fix ν (nP ds st) ν' st'):Fix ν st ν' st':=⟨f.pin,f.pins,f.more,f.yid⟩
theorem Fix.ghost (r:R ν Z st F H) (y:Yc S J st.more st.yid) (j:J st.want (dW ν st.m) Z H) {x:Gh} (h:ghost x st=some st'):∃ν' Z',R ν' Z' st' F H/\J st'.want (dW ν' st'.m) Z' H/\Fix ν st ν' st':=by
 obtain⟨ν',Z',h1,h2⟩:=LZ (Rv:=λ_=>False) r h
 have hf:st'.want=st.want/\st'.more=st.more/\st'.yid=st.yid:=by
  unfold Go.VE.ghost xz at h
  (repeat' split at h) <;> first|(simp at h;done)|(simp only[ζa]at h;subst h;exact⟨rfl,rfl,rfl⟩)
 exact⟨ν',Z',h1,h2.beside y hf.1 j,⟨h2.pin,h2.pins,hf.2.1,hf.2.2⟩⟩
theorem Fix.quiet (r:R ν Z st F H):∀{l:List Gh} {st':St},l.all xL=true->Go.VE.lq l st=some st'->R ν Z st' F H/\Ev Rv ν Z st H ν Z st' H/\st'.want=st.want/\Fix ν st ν st'/\∀d ob,ai st'.m d=some ob->ai st.m d=some ob:=by
 intro l
 induction l generalizing st with
 | nil=>intro st' _ h;simp only[Go.VE.lq,ζa]at h;subst h;exact⟨r,.refl,rfl,.refl,λ_ _ h=>h⟩
 | cons x l ih=>
  intro st' hq h;simp only[List.all_cons,ζh]at hq;simp only[Go.VE.lq]at h;obtain⟨s1,h1,h2⟩:=ζg.1 h;have key:∃g m,s1={ st with g:=g,m:=m }/\(∀s sv,ai g s=some sv->ai st.g s=some sv)/\∀d ob,ai m d=some ob->ai st.m d=some ob:=by
   cases x with
   | keep gs ms=>
    simp only[Go.VE.ghost]at h1;split at h1
    .rename_i g m hg hm;simp only[ζa]at h1;subst h1;exact⟨g,m,rfl,λs sv hs=>oI hg hs,λd ob hd=>oI hm hd⟩
    .simp at h1
   | drop ds=>
    simp only[Go.VE.ghost,ζa]at h1;subst h1;exact⟨_,st.m,rfl,λs sv hs=>sY hs,λ_ _ h=>h⟩
   | _=>simp[xL]at hq
  obtain⟨g,m,rfl,kg,km⟩:=key;obtain⟨a1,a2,a3,a4,a5⟩:=ih (r.less (g:=g) (m':=m) kg km) hq.2 h2;exact⟨a1,(Ev.less (g:=g) (m':=m) km).trans a2,a3,Fix.trans (ν':=ν) (st':={ st with g:=g,m:=m }) ⟨λd _ ob h=>⟨ob,km d ob h,rfl,.refl _⟩,rfl,rfl,rfl⟩ a4,λd ob h=>km d ob (a5 d ob h)⟩
theorem Fix.lq:∀{l:List Gh} {ν:Nu} {Z:Nat->Prop} {st st':St},R ν Z st F H->Yc S J st.more st.yid->J st.want (dW ν st.m) Z H->lq l st=some st'->∃ν' Z',R ν' Z' st' F H/\J st'.want (dW ν' st'.m) Z' H/\Fix ν st ν' st'
 | [],ν,Z,st,st',r,y,j,h=>by simp only[Go.VE.lq,ζa]at h;subst h;exact⟨ν,Z,r,j,.refl⟩
 | x::l,ν,Z,st,st',r,y,j,h=>by
  simp only[Go.VE.lq]at h;obtain⟨st1,h1,h2⟩:=ζg.1 h;obtain⟨ν1,Z1,r1,j1,f1⟩:=Fix.ghost r y j h1;obtain⟨ν2,Z2,r2,j2,f2⟩:=Fix.lq r1 (by rw[f1.more,f1.yid];exact y) j1 h2
  exact⟨ν2,Z2,r2,j2,f1.trans f2⟩
theorem Ll (gd:Good X S) (hS:jR S c) {ops:List Oper} {fr:List Nat} {i:Nat} {o:Oper} {ro:RO} {st1:St} (h1:lP X false ops i o=some ro) (y:Yc S J st.more st.yid) (r:R ν Z st F H) (j:J st.want (dW ν st.m) Z H) (hs:d_ S c false fr ro st=some st1) :
 ∃n F' H' ν' Z',(∀k,n<=k->eB S.E (run S.E k) X.nt ops none o F H=some (F',H'))/\R ν' Z' st1 F' H'/\J st1.want (dW ν' st1.m) Z' H'/\Fix ν st ν' st1:=by
 by_cases hw:wanted st.g ro.gd=some true
 .cases hya:eO S.N st.g ro with
  | none=>
   obtain⟨n,F',H',ν',Z',e1,e2,e3,e4,e5,e6⟩:=GM gd hS (place:=none) rfl (λb j h=>by cases h) (λb j h=>by cases h) h1 (λb j h=>by cases h) (λb j h=>by cases h) r (.inl hya) hs
   exact⟨n,F',H',ν',Z',e1,e2,(e3.weak (λid ⟨b,j,h,_⟩=>by cases h)).beside y e5 j,e6⟩
  | some p=>
   obtain⟨id,vs⟩:=p;obtain⟨n,F',H',e1,e2,e3,e4⟩:=KS gd y h1 r j hya hw hs;exact⟨n,F',H',ν,Z,e1,e2,e3,e4⟩
 .have hs':d_ S c false fr ro st=some st1:=hs;have hny:eO S.N st.g { ro with az:=[] }=none:=by
   unfold eO;simp[aW]
  obtain⟨n,F',H',ν',Z',e1,e2,e3,e4,e5,e6⟩:∃n F' H' ν' Z',(∀k,n<=k->eB S.E (run S.E k) X.nt ops none o F H=some (F',H'))/\R ν' Z' st1 F' H'/\Ev (λ_=>False) ν Z st H ν' Z' st1 H'/\True/\st1.want=st.want/\Fix ν st ν' st1:=by
   unfold d_ at hs';split at hs'
   .rename_i hw2;exact absurd hw2 hw
   .rename_i hw2;simp only[ζa]at hs';subst hs';unfold lP at h1;split at h1
    .rename_i hdst;split at h1
     .rename_i g k os hg hr;split at h1
      .obtain⟨az,ha,rfl⟩:=ζf.1 h1;have hwv:=ta r.slot hg hw2;obtain⟨F',f1,f2⟩:=yg r hdst (.v V.undef V.undef (.same _ rfl));obtain⟨p1,p2,p3,p4,p5⟩:=Bo st o.dst (.v .undef);refine⟨0,F',H,ν,Z,λk _=>?_,f2,?_,trivial,p2,⟨λd hd=>by rw[p1];exact λob' h=>⟨ob',h,rfl,.refl _⟩,p3,p4,p5⟩⟩
       .unfold eB;simp only[hwv,Bool.false_eq_true,if_false,f1,Option.map_some]
       .exact⟨Nat.le_refl _,λ_ _ _ _ _=>rfl,λ_ h=>⟨h,rfl⟩,λ_ h=>.inl (by rw[p1]at h;exact h),λ_ h=>.inl h,λd hd=>by rw[p1];exact λob' h=>⟨ob',h,rfl,.refl _⟩,p3⟩
      .simp at h1
     .simp at h1
    .simp at h1
   .simp at hs'
  exact⟨n,F',H',ν',Z',e1,e2,e3.beside y e5 j,e6⟩
theorem Jf (gd:Good X S) (hS:jR S c) {ops:List Oper} {fr:List Nat}:∀(rest:List Oper) {i:Nat} {ros:List RO} {ν:Nu} {Z:Nat->Prop} {st st':St} {F:Frame} {H:ak},jH X false ops i rest=some (ros.map RO.strip)->lE S c false fr ros st=some st' ->
 Yc S J st.more st.yid->R ν Z st F H->J st.want (dW ν st.m) Z H ->
 ∃n F' H' ν' Z',(∀k,n<=k->kB S.E (run S.E k) X.nt ops rest F H=some (F',H'))/\R ν' Z' st' F' H'/\J st'.want (dW ν' st'.m) Z' H'/\Fix ν st ν' st'
 | [],i,ros,ν,Z,st,st',F,H,hc,h,y,r,j=>by
  simp only[jH,ζa]at hc;have:ros=[]:=List.map_eq_nil_iff.1 hc.symm;subst this;simp only[lE,ζa]at h;subst h;exact⟨0,F,H,ν,Z,λ_ _=>rfl,r,j,.refl⟩
 | o::rest,i,ros,ν,Z,st,st',F,H,hc,h,y,r,j=>by
  simp only[jH]at hc;split at hc
  .rename_i ro rs h1 h2;simp only[ζa]at hc;obtain⟨ro0,rs0,rfl,hro,hrs⟩:∃ro0 rs0,ros=ro0::rs0/\ro=ro0.strip/\rs=rs0.map RO.strip:=by
    cases ros with
    | nil=>simp at hc
    | cons a b=>simp only[List.map_cons,List.cons.injEq]at hc;exact⟨a,b,rfl,hc.1,hc.2⟩
   subst hrs;simp only[lE,<-hro]at h;split at h
   .rename_i st1 hs;simp only[Bool.false_eq_true,if_false]at h;obtain⟨stg,hgh,hs⟩:=ζg.1 hs;simp only[yd,Bool.false_eq_true,if_false]at hgh;obtain⟨νg,Zg,rg,jg,fg⟩:=Fix.lq r y j hgh;obtain⟨n1,F1,H1,ν1,Z1,a1,a2,a3,a4'⟩:=Ll gd hS h1 (by rw[fg.more,fg.yid];exact y) rg jg hs
    have a4:=fg.trans a4';obtain⟨n2,F2,H2,ν2,Z2,b1,b2,b3,b4⟩:=Jf gd hS rest h2 h (by show Yc S J st1.more st1.yid;rw[a4.more,a4.yid];exact y) (R.vS a2 ro0.dead) a3
    refine⟨max n1 n2,F2,H2,ν2,Z2,λk hk=>?_,b2,b3,a4.trans (Fix.vS b4)⟩
    simp only[kB,a1 k (Nat.le_trans (Nat.le_max_left _ _) hk),b1 k (Nat.le_trans (Nat.le_max_right _ _) hk)]
   .simp at h
  .simp at hc
theorem Old.next {b:Nat} {fr:List Nat} {o:RO} (h:Old b fr ν Z m) (hk:Kept (vX o) ν m ν' m'):Old b (pz fr o) ν' Z m':=by
 refine⟨λd ob hd hb hnf=>?_,h.2⟩
 have hsub:d∉fr:=λhm=>hnf (by
  unfold pz;split
  .exact List.mem_cons_of_mem _ hm
  .exact hm)
 have hne:vX o≠some d:=λe=>hnf (by unfold pz;rw[e];exact List.mem_cons_self)
 obtain⟨ob0,h1,h2,hs⟩:=hk d ob hne hd;have hb0:bM ob0=true:=by
  cases ob0 <;> cases ob <;> simp only[sameShape]at hs <;> first|rfl|(simp only[bM]at hb ⊢;rw[<-hs.1];exact hb)
 rw[h2];exact h.1 d ob0 h1 hb0 hsub
theorem BQ (r:R ν Z st F H) {id:Nat} (h:dW ν st.m id):H[id]? ≠ some .free:=by
 obtain⟨d,ob,h1,h2,rfl⟩:=h;have:=r.obj d ob h1
 cases ob with
 | sl k es xs=>
  simp only[bM]at h2;simp only[cZ,h2,if_true]at this;obtain⟨ys,hr,_⟩:=this;rw[hr];simp
 | box cs=>obtain⟨es,cs',hr,_⟩:=this;rw[hr];simp
 | mp kvs=>obtain⟨kvs',hr,_⟩:=this;rw[hr];simp
theorem G2 (r:R ν Z st F H) {id:Nat} (h:Z id):H[id]? ≠ some .free:=λe=>by
 have:=r.zrow id h;unfold an at this;rw[e]at this;simp[Ob.rows]at this
theorem Ev.vS {ds:List Nat} (e:Ev Rv ν Z (nP ds st) H ν' Z' st' H'):Ev Rv ν Z st H ν' Z' st' H':=⟨e.len,e.same,e.rows,e.own,e.frz,e.pin,e.pins⟩
theorem JZ (gd:Good X S) (hS:jR S c) {ops:List Oper} {b k:Nat} (hall:pY ops=true->k=ops.length):∀(len:Nat) {i:Nat} {ros:List RO} {fr:List Nat} {ν:Nu} {Z:Nat->Prop} {st st':St} {F:Frame} {H:ak},
 i+len=ops.length->jH X true ops i (ops.drop i)=some (ros.map RO.strip)->lE S c true fr ros st=some st'->R ν Z st F H->b<=H.length->Old b fr ν Z st.m->(∀j,i<=j->j<k->H[b+j]? = some .free) ->
 ∃n F' H' ν',(∀q,n<=q->gW S.E (run S.E q) X.nt ops b (List.range' i len) F H=some (F',H'))/\R ν' Z st' F' H'/\Ev (λid=>b<=id) ν Z st H ν' Z st' H'/\st'.want=st.want/\Fix ν st ν' st'
 | 0,i,ros,fr,ν,Z,st,st',F,H,hl,hc,h,r,hb,ho,hf=>by
  rw[List.drop_of_length_le (by omega)]at hc
  simp only[jH,ζa]at hc;have:ros=[]:=List.map_eq_nil_iff.1 hc.symm;subst this;simp only[lE,ζa]at h;subst h;exact⟨0,F,H,ν,λ_ _=>rfl,r,.refl,rfl,.refl⟩
 | len+1,i,ros,fr,ν,Z,st,st',F,H,hl,hc,h,r,hb,ho,hf=>by
  have hi:i<ops.length:=by omega
  have hg:ops[i]? = some ops[i]:=ζd hi;rw[List.drop_eq_getElem_cons hi]at hc;simp only[jH]at hc;split at hc
  .rename_i ro rs h1 h2;simp only[ζa]at hc;obtain⟨ro0,rs0,rfl,hro,hrs⟩:∃ro0 rs0,ros=ro0::rs0/\ro=ro0.strip/\rs=rs0.map RO.strip:=by
    cases ros with
    | nil=>simp at hc
    | cons a b=>simp only[List.map_cons,List.cons.injEq]at hc;exact⟨a,b,rfl,hc.1,hc.2⟩
   subst hrs;simp only[lE,<-hro]at h;split at h
   .rename_i st1 hs;simp only[if_true]at h;obtain⟨stg,hgh,hs⟩:=ζg.1 hs;simp only[yd,if_true]at hgh;split at hgh
    rotate_left
    .simp at hgh
    rename_i hq;obtain⟨rg,eg,wg,fg,sg⟩:=Fix.quiet r hq hgh;have ho:Old b fr ν Z stg.m:=⟨λd ob hd=>ho.1 d ob (sg d ob hd),ho.2⟩
    obtain⟨n1,F1,H1,ν1,Z1,a1,a2,a3,a4,a5,a6⟩:=GM gd hS (place:=some (b,i)) (fr:=fr) rfl (λb' j e=>by cases e;rfl) (λb' j e=>by cases e;exact⟨hb,ho⟩) h1 (λb' j e=>by cases e;exact hg) (λb' j e hcl=>by
     cases e;have:pY ops=true:=by
      unfold pY;rw[List.any_eq_true];exact⟨ops[i],List.getElem_mem hi,by simp[hcl]⟩
     exact hf i (Nat.le_refl _) (by rw[hall this];exact hi)) rg (.inr rfl) hs
    obtain⟨rfl,hkept⟩:=a4 rfl;have a3':Ev (λid=>id=b+i) ν Z1 stg H ν1 Z1 st1 H1:=a3.weak λid ⟨b',j,e,h⟩=>by cases e;exact h
    obtain⟨n2,F2,H2,ν2,b1,b2,b3,b4,b5⟩:=JZ gd hS hall len (by omega) h2 h (R.vS a2 ro0.dead) (Nat.le_trans hb a3.len) (ho.next hkept) (λj hij hjk=>by
     have hfr:=hf j (by omega) hjk
     have hlt:=(ζe.1 hfr).1;rw[a3'.same (b+j) hlt (λh=>BQ rg h hfr) (λh=>G2 rg h hfr) (by omega)]
     exact hfr)
    refine⟨max n1 n2,F2,H2,ν2,λq hq=>?_,b2,eg.trans ((a3'.weak λid e=>by subst e;omega).trans (Ev.vS b3)),by rw[b4,<-wg];exact a5,fg.trans (a6.trans (Fix.vS b5))⟩
    simp only[List.range'_succ,gW,hg,a1 q (Nat.le_trans (Nat.le_max_left _ _) hq),b1 q (Nat.le_trans (Nat.le_max_right _ _) hq)]
   .simp at h
  .simp at hc
end
end Go.VE
namespace Go.VE
variable [aS]
def aJ (X:CX):Bool->Code->Option RC
 | _,.skip=>some .skip
 | _,.label _=>some .skip
 | _,.region _ ops draw=>
  if draw then(if tS ops.toList&&xo ops.toList then(jH X true ops.toList 0 ops.toList).map .mB else none)
  else(jH X false ops.toList 0 ops.toList).map .ops
 | ro,.seq a b=>match aJ X ro a,aJ X ro b with
  | some a,some b=>some (.seq a b)
  | _,_=>none
 | ro,.cond c a b=>match oT X.nm c,aJ X ro a,aJ X ro b with
  | some x,some a,some b=>some (.cond x a b)
  | _,_,_=>none
 | ro,.block id c=>(aJ X ro c).map (.block id)
 | ro,.loop c=>(aJ X ro c).map .loop
 | ro,.rangeFunc g ps aw bw=>
  if ro || !(ps.toList.all (·<X.nt))then none else
  match oT X.nm g,aJ X true aw,aJ X true bw with
  | some x,some a,some b=>some (.each x ps.toList a b)
  | _,_,_=>none
 | _,.exit id=>some (.exit id)
 | _,.ret=>some .ret
 | _,_=>none
def erase:RC->RC
 | .seq a b=>.seq (erase a) (erase b)
 | .cond x a b=>.cond x (erase a) (erase b)
 | .block id c=>.block id (erase c)
 | .loop c=>.loop (erase c)
 | .each g ps a b=>.each g ps (erase a) (erase b)
 | .gh _ c=>erase c
 | .hg c _=>erase c
 | .ops l=>.ops (l.map RO.strip)
 | .mB l=>.mB (l.map RO.strip)
 | c=>c
def gM (step:St->Option (Out×St)):Nat->St->Option (Out×St)
 | 0,_=>none
 | k+1,st=>match step st with
  | some (.norm,st')=>gM step k st'
  | r=>r
open Classical in
noncomputable def mK (step:St->Option (Out×St)) (st:St):Option (Out×St):=
 if h:∃k r,gM step k st=some r then some (Classical.choose (Classical.choose_spec h))else none
theorem wv {step:St->Option (Out×St)}:∀{k k':Nat} {st:St} {r:Out×St},k<=k'->gM step k st=some r->gM step k' st=some r
 | 0,_,_,_,_,h=>by simp[gM]at h
 | k+1,0,_,_,hk,_=>by omega
 | k+1,k'+1,st,r,hk,h=>by
  simp only[gM]at h ⊢;split at h
  .rename_i st' hs;rw[wv (Nat.le_of_succ_le_succ hk) h]
  .exact h
theorem k_ {step:St->Option (Out×St)} {st:St} {r:Out×St}:mK step st=some r↔∃k,gM step k st=some r:=by
 unfold mK;constructor
 .intro h;split at h
  .rename_i hx;simp only[ζa]at h;exact⟨_,by rw[<-h];exact Classical.choose_spec (Classical.choose_spec hx)⟩
  .simp at h
 .rintro⟨k,hk⟩;have hx:∃k r,gM step k st=some r:=⟨k,r,hk⟩;rw[dif_pos hx];have h2:=Classical.choose_spec (Classical.choose_spec hx);have h3:=wv (Nat.le_max_left (Classical.choose hx) k) h2;have h4:=wv (Nat.le_max_right (Classical.choose hx) k) hk;rw[h3]at h4;exact h4
def gz (ps:List Nat) (A B:St->Option (Out×St)) (st:St) (x:List V) (m:Tb aL):Option (Out×Tb aL):=
 if x.length=ps.length then
  match A { g:=ue st.g ps (x.map .v),m:=m,pin:=st.pin++ow st.g,want:=[],more:=true,yid:=0 } with
  | some (.norm,st1)=>(B st1).map λ(o,st2)=>(o,st2.m)
  | _=>none
 else none
def nU (step:List V->Tb aL->Option (Out×Tb aL)):List (List V)->Tb aL->Option (Out×Tb aL)
 | [],m=>some (.norm,m)
 | x::xs,m=>match step x m with
  | some (.norm,m')=>nU step xs m'
  | r=>r
noncomputable def bz (S:Sys) (c:bG):RC->St->Option (Out×St)
 | .skip,st=>some (.norm,st)
 | .ops l,st=>(lE S c false [] l st).map λst=>(.norm,st)
 | .mB l,st=>(lE S c true [] l st).map λst=>(.norm,st)
 | .seq a b,st=>match bz S c a st with
  | some (.norm,st')=>bz S c b st'
  | r=>r
 | .cond x a b,st=>match oS S.N st.g x with
  | some (.v (.bool t))=>if t then bz S c a st else bz S c b st
  | _=>none
 | .block id a,st=>match bz S c a st with
  | some (.exit id',st')=>if id'=id then some (.norm,st')else some (.exit id',st')
  | r=>r
 | .loop a,st=>mK (bz S c a) st
 | .each g ps a b,st=>match oS S.N st.g g with
  | some (.v (.clo f x y))=>match S.items f x y with
   | some xs=>(nU (gz ps (bz S c a) (bz S c b) st) xs st.m).map λ(o,m)=>(o,{ st with m:=m })
   | none=>none
  | _=>none
 | .exit id,st=>some (.exit id,st)
 | .ret,st=>some (.ret,st)
 | .gh x a,st=>(ghost x st).bind (bz S c a)
 | .hg a x,st=>match bz S c a st with
  | some (.norm,st')=>(ghost x st').map λst=>(.norm,st)
  | r=>r
def dU (S:Sys) (f:FuncId) (a b:List V) (xs:List (List V)):Prop:=
 ∀ws more,(more=true/\ws=xs\/more=false/\ws≠[]/\∃r,xs=ws++r)->∀yid J,Yc S J more yid->∀Z a' b' H,b9 H Z a a'->b9 H Z b b'->(∀i,Z i->(an H i).isSome=true)->Deep H Z->J ws (λ_=>False) Z H ->
  ∃n y H' O' Z',(∀k,n<=k->run S.E k (.fn f) (a'++.yld yid::b') H=some (y,H'))/\J [] O' Z' H'
section
variable {ν ν' ν2:Nu} {Z Z':Nat->Prop} {st st' st2:St} {m m':Tb aL} {F F':Frame} {H H' H1:ak} {S:Sys} {c:bG} {X:CX} {J:JT}
end
end Go.VE
namespace Go.VE
variable [aS]
inductive uv (step:List V->Tb aL->Option (Out×Tb aL)) (o:Out) (mf:Tb aL):List (List V)->Bool->Tb aL->Prop
 | nil (h:o=.norm):uv step o mf [] true mf
 | next (x:List V) (ws:List (List V)) (more:Bool) (m m1:Tb aL) (h:step x m=some (.norm,m1)) (r:uv step o mf ws more m1):uv step o mf (x::ws) more m
 | last (x:List V) (m:Tb aL) (h:step x m=some (o,mf)) (ho:o≠.norm):uv step o mf [x] false m
theorem AO {step:List V->Tb aL->Option (Out×Tb aL)} {o:Out} {mf:Tb aL}:∀{xs:List (List V)} {m:Tb aL},nU step xs m=some (o,mf) ->
 ∃ws more,(more=true/\ws=xs\/more=false/\ws≠[]/\∃r,xs=ws++r)/\uv step o mf ws more m
 | [],m,h=>by
  simp only[nU,ζa,ζc]at h;obtain⟨rfl,rfl⟩:=h;exact⟨[],true,.inl ⟨rfl,rfl⟩,.nil rfl⟩
 | x::xs,m,h=>by
  simp only[nU]at h;split at h
  .rename_i m' hs;obtain⟨ws,more,hc,hr⟩:=AO h;refine⟨x::ws,more,?_,.next x ws more m m' hs hr⟩;rcases hc with⟨h1,h2⟩|⟨h1,h2,r,h3⟩
   .exact .inl ⟨h1,by rw[h2]⟩
   .exact .inr ⟨h1,by simp,r,by rw[h3];rfl⟩
  .rename_i hs;refine⟨[x],false,.inr ⟨rfl,by simp,xs,rfl⟩,.last x m h λe=>?_⟩
   subst e;exact hs mf h
def sC (O0 Z0:Nat->Prop) (H0:ak):JT:=λw O Z H=>w=[]/\H0.length<=H.length/\(∀i,i<H0.length->¬O0 i->¬Z0 i->H[i]? = H0[i]?)/\(∀i,Z0 i->Z i/\an H i=an H0 i) /\
 (∀i,O i->O0 i\/H0.length<=i)/\(∀i,Z i->Z0 i\/O0 i\/H0.length<=i)
section
variable {ν ν' ν2:Nu} {Z Z':Nat->Prop} {st st' st2:St} {m m':Tb aL} {F F':Frame} {H H' H1:ak} {S:Sys} {c:bG} {X:CX} {J:JT} {O0 Z0:Nat->Prop} {H0:ak}
theorem sC.uY {w:List (List V)} {O Z O' Z':Nat->Prop} {H H':ak} (j:sC O0 Z0 H0 w O Z H) (hl:H.length<=H'.length) (hs:∀i,i<H.length->¬O i->¬Z i->H'[i]? = H[i]?) (hr:∀i,Z i->Z' i/\an H' i=an H i)
 (ho:∀i,O' i->O i\/H.length<=i) (hz:∀i,Z' i->Z i\/O i\/H.length<=i):sC O0 Z0 H0 w O' Z' H':=by
 obtain⟨j1,j2,j3,j4,j5,j6⟩:=j;refine⟨j1,Nat.le_trans j2 hl,λi h1 h2 h3=>?_,λi h=>⟨(hr i (j4 i h).1).1,by rw[(hr i (j4 i h).1).2,(j4 i h).2]⟩,λi h=>?_,λi h=>?_⟩
 .rw[hs i (Nat.lt_of_lt_of_le h1 j2) (λh=>by rcases j5 i h with h|h;exact h2 h;omega) (λh=>by rcases j6 i h with h|h|h;exact h3 h;exact h2 h;omega),j3 i h1 h2 h3]
 .rcases ho i h with h|h
  .exact j5 i h
  .exact .inr (Nat.le_trans j2 h)
 .rcases hz i h with h|h|h
  .exact j6 i h
  .rcases j5 i h with h|h
   .exact .inr (.inl h)
   .exact .inr (.inr h)
  .exact .inr (.inr (Nat.le_trans j2 h))
theorem sC.yc {more:Bool} {yid:Nat}:Yc S (sC O0 Z0 H0) more yid where
 uY:=λ_ _ _ _ _ _ _ j h1 h2 h3 h4 h5=>j.uY h1 h2 h3 h4 h5
 yield:=λx ws O Z H args j=>by obtain⟨h,_⟩:=j;cases h
theorem sC.refl (r:R ν Z st F H):sC (dW ν st.m) Z H [] (dW ν st.m) Z H:=⟨rfl,Nat.le_refl _,λ_ _ _ _=>rfl,λi h=>⟨h,rfl⟩,λi h=>.inl h,λi h=>.inl h⟩
mutual
theorem AD {d:Nat}:∀{sv:SV},sv.bQ d=true->d∈sv.names
 | .v _,h=>by simp[SV.bQ]at h
 | .own e,h=>by simp[SV.bQ]at h;simp[SV.names,h]
 | .ptr e _,h=>by simp[SV.bQ]at h;simp[SV.names,h]
 | .el e _ _,h=>by simp[SV.bQ]at h;simp[SV.names,h]
 | .mp e,h=>by simp[SV.bQ]at h;simp[SV.names,h]
 | .clo f a b,h=>by
  simp only[SV.bQ,Bool.or_eq_true]at h;simp only[SV.names,List.mem_append];exact h.imp pg pg
 | .tup l,h=>by simp only[SV.bQ]at h;simp only[SV.names];exact pg h
 | .agg l,h=>by simp only[SV.bQ]at h;simp only[SV.names];exact pg h
 | .yl _,h=>by simp[SV.bQ]at h
theorem pg {d:Nat}:∀{l:List SV},SV.cu d l=true->d∈SV.tF l
 | [],h=>by simp[SV.cu]at h
 | x::r,h=>by
  simp only[SV.cu,Bool.or_eq_true]at h;simp only[SV.tF,List.mem_append];exact h.imp AD pg
end
theorem zg {d:Nat}:∀{g:Tb SV} {s:Nat} {sv:SV},ai g s=some sv->sv.bQ d=true->d∈ow g
 | [],s,sv,h,_=>by simp[ai]at h
 | (k,x)::r,s,sv,h,hs=>by
  simp only[ai]at h;simp only[ow,List.mem_append];split at h
  .simp only[ζa]at h;subst h;exact .inl (AD hs)
  .exact .inr (zg h hs)
theorem R.SJ (r:R ν Z st F H) {Z2:Nat->Prop} (h1:∀i,Z2 i->¬dW ν st.m i) (h2:∀i,Z2 i->(an H i).isSome=true) (h3:Deep H Z2):R ν (λi=>Z i\/Z2 i) st F H:=by
 have hz:∀i,Z i->(Z i\/Z2 i)/\an H i=an H i:=λi h=>⟨.inl h,rfl⟩
 have hz2:∀i,Z2 i->(Z i\/Z2 i)/\an H i=an H i:=λi h=>⟨.inr h,rfl⟩
 refine⟨λs sv hs=>(r.slot s sv hs).mono hz λe _=>iS ν st.m e,λd ob hd=>cZ.mono hz rfl (λ_=>rfl) (λe _=>iS ν st.m e) (r.obj d ob hd),r.inj,λd ob hd hb hh=>?_,λi hi=>?_,⟨λid es ys hi hr c hc u hu=>?_⟩⟩
 .rcases hh with hh|hh
  .exact r.apart d ob hd hb hh
  .exact h1 _ hh ⟨d,ob,hd,hb,rfl⟩
 .exact hi.elim (r.zrow i) (h2 i)
 .rcases hi with hi|hi
  .obtain⟨x,hx⟩:=r.deep.row id es ys hi hr c hc u hu;exact⟨x,hx.mono hz⟩
  .obtain⟨x,hx⟩:=h3.row id es ys hi hr c hc u hu;exact⟨x,hx.mono hz2⟩
theorem R.RL:∀{ps:List Nat} {xs:List V} {vs:List V} {g:Tb SV} {F:Frame},R ν Z { st with g:=g } F H->b9 H Z xs vs->xs.length=ps.length->R ν Z { st with g:=ue g ps (xs.map .v) } (sE ps vs F) H
 | [],xs,vs,g,F,r,h,hl=>by
  have:xs=[]:=List.length_eq_zero_iff.1 hl;subst this;rw[h.bO];exact r
 | p::ps,[],vs,g,F,r,h,hl=>by simp at hl
 | p::ps,x::xs,vs,g,F,r,h,hl=>by
  obtain⟨w,ws,rfl,h1,h2⟩:=h.inv;exact R.RL (ps:=ps) (r.put (st:={ st with g:=g }) (.v _ _ h1)) h2 (by simpa using hl)
def qB (X:CX) (S:Sys) (ro:Bool) (code:Code) (run':St->Option (Out×St)):Prop:=
 ∀st o st',run' st=some (o,st')->∀(J:JT) ν Z F H,Yc S J st.more st.yid->R ν Z st F H->J st.want (dW ν st.m) Z H ->
  ∃n F' H' ν' Z',(∀k,n<=k->exec S.E (run S.E k) k ro X.nt code F H=some (o,F',H'))/\R ν' Z' st' F' H'/\J st'.want (dW ν' st'.m) Z' H'/\Fix ν st ν' st'
def AS (st:St) (m:Tb aL):St:={ g:=st.g,m:=m,pin:=st.pin++ow st.g,want:=[],more:=true,yid:=0 }
def JI (X:CX) (st:St) (F:Frame) (ν:Nu) (O0 Z0:Nat->Prop) (H0:ak) (idl:Nat) (ps:List Nat) (aw bw:Code) (step:List V->Tb aL->Option (Out×Tb aL)) (o:Out) (mf:Tb aL) (more:Bool):JT:=λw O Z H=>
 ∃m νb Zb lr,R νb Zb (AS st m) F H/\sC O0 Z0 H0 [] (dW νb m) Zb H/\(∀i,O i->¬dW νb m i/\¬Zb i/\i≠idl/\H0.length<=i)/\(∀i,Z i->¬dW νb m i/\i≠idl/\(Z0 i\/H0.length<=i)) /\
  ¬dW νb m idl/\¬Zb idl/\H0.length<=idl/\H[idl]? = some (.loop lr)/\(lr.frame=F/\lr.nt=X.nt/\lr.params=ps/\lr.assign=aw/\lr.body=bw) /\
  (∀d∈st.pin++ow st.g,∀ob',ai m d=some ob'->∃ob,ai st.m d=some ob/\νb d=ν d/\sameShape ob ob') /\
  ((uv step o mf w more m/\lr.st=.ready/\lr.pend=none)\/(w=[]/\m=mf/\lr.st=.done/\lr.pend=some o))
theorem JI.uY {w:List (List V)} {O Z O' Z':Nat->Prop} {H H':ak} {idl:Nat} {ps:List Nat} {aw bw:Code} {step:List V->Tb aL->Option (Out×Tb aL)} {o:Out} {mf:Tb aL} {more:Bool}
 (j:JI X st F ν O0 Z0 H0 idl ps aw bw step o mf more w O Z H) (hl:H.length<=H'.length) (hs:∀i,i<H.length->¬O i->¬Z i->H'[i]? = H[i]?) (hr:∀i,Z i->Z' i/\an H' i=an H i)
 (ho:∀i,O' i->O i\/H.length<=i) (hz:∀i,Z' i->Z i\/O i\/H.length<=i):JI X st F ν O0 Z0 H0 idl ps aw bw step o mf more w O' Z' H':=by
 obtain⟨m,νb,Zb,lr,r,ej,d1,d2,l1,l2,l3,l4,l5,l6,l7⟩:=j;have hown:∀i,dW νb m i->H'[i]? = H[i]? := λi hi=>hs i (r.lt (st:=AS st m) hi) (λh=>(d1 i h).1 hi) (λh=>(d2 i h).1 hi)
 have hzb:∀i,Zb i->an H' i=an H i:=λi hi=>by
  by_cases hzi:Z i
  .exact(hr i hzi).2
  .unfold an;rw[hs i (r.tW hi) (λh=>(d1 i h).2.1 hi) hzi]
 have hll:idl<H.length:=(ζe.1 l4).1;have h0l:H0.length<=H.length:=ej.2.1;refine⟨m,νb,Zb,lr,r.heap hown hzb,?_,λi h=>?_,λi h=>?_,l1,l2,l3,?_,l5,l6,l7⟩
 .obtain⟨j1,j2,j3,j4,j5,j6⟩:=ej;refine⟨j1,Nat.le_trans j2 hl,λi h1 h2 h3=>?_,λi h=>⟨(j4 i h).1,by rw[hzb i (j4 i h).1,(j4 i h).2]⟩,j5,j6⟩
  rw[hs i (Nat.lt_of_lt_of_le h1 j2) (λh=>by have:=(d1 i h).2.2.2;omega) (λh=>by rcases (d2 i h).2.2 with h|h;exact h3 h;omega),j3 i h1 h2 h3]
 .rcases ho i h with h|h
  .exact d1 i h
  .exact⟨λhi=>absurd (r.lt (st:=AS st m) hi) (by omega),λhi=>absurd (r.tW hi) (by omega),by omega,by omega⟩
 .rcases hz i h with h|h|h
  .exact d2 i h
  .exact⟨(d1 i h).1,(d1 i h).2.2.1,.inr (d1 i h).2.2.2⟩
  .exact⟨λhi=>absurd (r.lt (st:=AS st m) hi) (by omega),by omega,.inr (by omega)⟩
 .rw[hs idl hll (λh=>(d1 idl h).2.2.1 rfl) (λh=>(d2 idl h).2.1 rfl)];exact l4
theorem JI.yield (S:Sys) {A B:St->Option (Out×St)} {aw bw:Code} (hA:qB X S true aw A) (hB:qB X S true bw B) {idl:Nat} {ps:List Nat} (hps:ps.all (·<X.nt)=true) {o:Out} {mf:Tb aL} {more:Bool}
 {x:List V} {ws:List (List V)} {O Z:Nat->Prop} {H:ak} {args:List V} (j:JI X st F ν O0 Z0 H0 idl ps aw bw (gz ps A B st) o mf more (x::ws) O Z H)
 (hx:b9 H Z x args) (hzr:∀i,Z i->(an H i).isSome=true) (hzd:Deep H Z) (hoz:∀i,O i->¬Z i/\i<H.length) :
 ∃n H',run S.E n (.yld idl) args H=some (.bool (more || !ws.isEmpty),H')/\JI X st F ν O0 Z0 H0 idl ps aw bw (gz ps A B st) o mf more ws O Z H'/\H.length<=H'.length/\(∀i,O i->H'[i]? = H[i]?)/\(∀i,Z i->an H' i=an H i):=by
 obtain⟨m,νb,Zb,lr,r,ej,d1,d2,l1,l2,l3,l4,⟨q1,q2,q3,q4,q5⟩,l6,l7⟩:=j;have l7':uv (gz ps A B st) o mf (x::ws) more m/\lr.st=.ready/\lr.pend=none:=by
  rcases l7 with h|⟨h,_⟩
  .exact h
  .cases h
 obtain⟨hE,hready,hpend⟩:=l7';have hround:∃oo m1,gz ps A B st x m=some (oo,m1)/\(oo=.norm/\uv (gz ps A B st) o mf ws more m1/\(more || !ws.isEmpty)=true\/oo≠.norm/\oo=o/\m1=mf/\ws=[]/\more=false):=by
  cases hE with
  | next _ _ _ _ m1 h hr=>
   refine⟨.norm,m1,h,.inl ⟨rfl,hr,?_⟩⟩;cases hr <;> simp
  | last _ _ h ho=>exact⟨o,mf,h,.inr ⟨ho,rfl,rfl,rfl,rfl⟩⟩
 obtain⟨oo,m1,hstep,hout⟩:=hround;unfold gz at hstep;split at hstep
 .rename_i hlen;split at hstep
  .rename_i st1 hAs;obtain⟨⟨oo',st2⟩,hBs,e⟩:=ζf.1 hstep;simp only[ζc]at e;obtain⟨rfl,rfl⟩:=e;have hll:idl<H.length:=(ζe.1 l4).1;have h0l:H0.length<=H.length:=ej.2.1;have r1:R νb (λi=>Zb i\/Z i) (AS st m) F H:=r.SJ (λi hi=>(d2 i hi).1) hzr hzd
   have hxx:b9 H (λi=>Zb i\/Z i) x args:=hx.mono λi hi=>⟨.inr hi,rfl⟩
   have r2:=R.RL (st:=AS st m) r1 hxx hlen;obtain⟨nA,F2,H2,ν2,Z2,a1,a2,a3,a4⟩:=hA _ _ _ hAs (sC (dW νb m) (λi=>Zb i\/Z i) H) νb _ _ H sC.yc r2 (sC.refl (st:=AS st m) r1)
   obtain⟨b1,b2,b3,b4,b5,b6⟩:=a3;have hnz:¬(Zb idl\/Z idl):=λh=>h.elim l2 λh=>(d2 idl h).2.1 rfl
   have hlo2:H2[idl]? = some (.loop lr):=by rw[b3 idl hll l1 hnz];exact l4
   have hll2:idl<H2.length:=by omega
   have no2:¬dW ν2 st1.m idl:=λh=>(b5 idl h).elim l1 λh=>by omega
   have nz2:¬Z2 idl:=λh=>by rcases b6 idl h with h|h|h;exact hnz h;exact l1 h;omega
   have hset:∀(ob:Ob) (Hh:ak) (i:Nat),i≠idl->(Hh.set idl ob)[i]? = Hh[i]? := λob Hh i hne=>by rw[List.getElem?_set,if_neg (Ne.symm hne)]
   have r3:R ν2 Z2 st1 F2 (H2.set idl (.loop { lr with st:=.busy })):=a2.heap (λi hi=>hset _ _ i λe=>no2 (e▸hi)) (λi hi=>by unfold an;rw[hset _ _ i λe=>nz2 (e▸hi)])
   obtain⟨nB,F4,H4,ν4,Z4,c1,c2,c3,c4⟩:=hB _ _ _ hBs (sC (dW ν2 st1.m) Z2 (H2.set idl (.loop { lr with st:=.busy }))) ν2 Z2 F2 _ sC.yc r3 (by
    rw[b1];exact sC.refl r3)
   obtain⟨_,g2,g3,g4,g5,g6⟩:=c3;simp only[List.length_set]at g2 g3 g5 g6;have hlo4:H4[idl]? = some (.loop { lr with st:=.busy }):=by rw[g3 idl hll2 no2 nz2,List.getElem?_set_self hll2]
   have hll4:idl<H4.length:=by omega
   have no4:¬dW ν4 st2.m idl:=λh=>(g5 idl h).elim no2 λh=>by omega
   have nz4:¬Z4 idl:=λh=>by rcases g6 idl h with h|h|h;exact nz2 h;exact no2 h;omega
   generalize hlr:({ lr with st:=(if oo'==.norm then zw.ready else zw.done),pend:=(if oo'==.norm then none else some oo') }:tq)=lr5;have r5:R ν4 Z4 st2 F4 (H4.set idl (.loop lr5)):=c2.heap (λi hi=>hset _ _ i λe=>no4 (e▸hi)) (λi hi=>by unfold an;rw[hset _ _ i λe=>nz4 (e▸hi)])
   have hlen5:H.length<=(H4.set idl (.loop lr5)).length:=by simp only[List.length_set];omega
   have same5:∀i,i<H.length->i≠idl->¬dW νb m i->¬(Zb i\/Z i)->(H4.set idl (.loop lr5))[i]? = H[i]? := λi h1 h2 h3 h4=>by
    rw[hset _ _ i h2,g3 i (by omega) (λh=>(b5 i h).elim h3 λh=>by omega) (λh=>by rcases b6 i h with h|h|h;exact h4 h;exact h3 h;omega),hset _ _ i h2,b3 i h1 h3 h4]
   have rows5:∀i,(Zb i\/Z i)->Z4 i/\an (H4.set idl (.loop lr5)) i=an H i:=λi hi=>by
    have hne:i≠idl:=λe=>hnz (e▸hi)
    obtain⟨t1,t2⟩:=b4 i hi;obtain⟨t3,t4⟩:=g4 i t1;refine⟨t3,?_⟩;rw[<-t2];have:an (H2.set idl (.loop { lr with st:=.busy })) i=an H2 i:=by unfold an;rw[hset _ _ i hne]
    rw[<-this,<-t4];unfold an;rw[hset _ _ i hne]
   have own5:∀i,dW ν4 st2.m i->dW νb m i\/H.length<=i:=λi hi=>by
    rcases g5 i hi with h|h
    .exact b5 i h
    .exact .inr (by omega)
   have frz5:∀i,Z4 i->(Zb i\/Z i)\/dW νb m i\/H.length<=i:=λi hi=>by
    rcases g6 i hi with h|h|h
    .exact b6 i h
    .rcases b5 i h with h|h
     .exact .inr (.inl h)
     .exact .inr (.inr h)
    .exact .inr (.inr (by omega))
   have fx:=a4.trans c4;have r6:R ν4 Z4 (AS st st2.m) F (H4.set idl (.loop lr5)):=⟨λs sv hs=>(r.slot s sv hs).mono (λi hi=>rows5 i (.inl hi)) λd hd ob' hob=>fx.pin d (List.mem_append_right _ (zg hs hd)) ob' hob,r5.obj,r5.inj,r5.apart,r5.zrow,r5.deep⟩
   have hrun:run S.E (max nA nB+1) (.yld idl) args H=some (.bool (oo'==.norm),H4.set idl (.loop lr5)):=by
    simp only[run,l4,hready];rw[if_pos (by rw[q3];exact⟨by rw[<-hx.1];exact hlen,by rw[q2];exact hps⟩)]
    rw[q1,q2,q3,q4,q5];rw[a1 _ (Nat.le_max_left _ _)];simp only[hlo2,hready];rw[c1 _ (Nat.le_max_right _ _)];simp only[hlo4];rw[<-hlr]
   refine⟨max nA nB+1,H4.set idl (.loop lr5),?_,⟨st2.m,ν4,Z4,lr5,r6,?_,λi hi=>?_,λi hi=>?_,no4,nz4,l3,?_,?_,λd hd ob' hob=>?_,?_⟩,hlen5,λi hi=>?_,λi hi=>(rows5 i (.inr hi)).2⟩
   .rw[hrun];rcases hout with⟨h1,_,h3⟩|⟨h1,_,_,h4,h5⟩
    .rw[h1,h3];rfl
    .rw[h4,h5]
     cases hoo:oo' with
     | norm=>exact absurd hoo h1
     | _=>rfl
   .obtain⟨j1,j2,j3,j4,j5,j6⟩:=ej;refine⟨rfl,Nat.le_trans j2 hlen5,λi h1 h2 h3=>?_,λi h=>⟨(rows5 i (.inl (j4 i h).1)).1,by rw[(rows5 i (.inl (j4 i h).1)).2,(j4 i h).2]⟩,λi h=>?_,λi h=>?_⟩
    .rw[same5 i (by omega) (by omega) (λh=>by rcases j5 i h with h|h;exact h2 h;omega) (λh=>by
      rcases h with h|h
      .rcases j6 i h with h|h|h;exact h3 h;exact h2 h;omega
      .rcases (d2 i h).2.2 with h|h;exact h3 h;omega),j3 i h1 h2 h3]
    .rcases own5 i h with h|h
     .exact j5 i h
     .exact .inr (by omega)
    .rcases frz5 i h with (h|h)|h|h
     .exact j6 i h
     .rcases (d2 i h).2.2 with h|h;exact .inl h;exact .inr (.inr h)
     .rcases j5 i h with h|h;exact .inr (.inl h);exact .inr (.inr h)
     .exact .inr (.inr (by omega))
   .obtain⟨t1,t2⟩:=hoz i hi;obtain⟨t3,t4,t5,t6⟩:=d1 i hi;refine⟨λh=>(own5 i h).elim t3 λh=>by omega,λh=>?_,t5,t6⟩
    rcases frz5 i h with (h|h)|h|h
    .exact t4 h
    .exact t1 h
    .exact t3 h
    .omega
   .obtain⟨t1,t2,t3⟩:=d2 i hi;have hlt:i<H.length:=by
     have:=hzr i hi;unfold an at this
     cases hh:H[i]? with
     | none=>rw[hh]at this;simp at this
     | some _=>exact(ζe.1 hh).1
    exact⟨λh=>(own5 i h).elim t1 λh=>by omega,t2,t3⟩
   .rw[List.getElem?_set_self hll4]
   .subst hlr;exact⟨q1,q2,q3,q4,q5⟩
   .obtain⟨ob1,h1,h2,h3⟩:=fx.pin d hd ob' hob;obtain⟨ob,k1,k2,k3⟩:=l6 d hd ob1 h1;exact⟨ob,k1,by rw[h2,k2],k3.trans h3⟩
   .rcases hout with⟨h1,h2,h3⟩|⟨h1,h2,h3,h4,h5⟩
    .left;subst h1;subst hlr;exact⟨h2,rfl,rfl⟩
    .right;subst hlr;have hb:¬(oo'==Out.norm)=true:=by simpa using h1
     refine⟨h4,h3,?_,?_⟩
     .show (if(oo'==Out.norm)=true then zw.ready else zw.done)=zw.done;rw[if_neg hb]
     .show (if(oo'==Out.norm)=true then none else some oo')=some o;rw[if_neg hb,h2]
   .obtain⟨t1,t2⟩:=hoz i hi;obtain⟨t3,t4,t5,t6⟩:=d1 i hi;exact same5 i t2 t5 t3 λh=>h.elim t4 t1
  .simp at hstep
 .simp at hstep
end
end Go.VE
namespace Go.VE
variable [aS]
section
variable {ν ν' ν2:Nu} {Z Z':Nat->Prop} {st st' st2:St} {m m':Tb aL} {F F':Frame} {H H' H1:ak} {S:Sys} {c:bG} {X:CX} {J:JT}
theorem IU (gd:Good X S) (hS:jR S c) {ro:Bool} {id:Nat} {ops:Array Oper} {l:List RO} (hc:jH X true ops.toList 0 ops.toList=some (l.map RO.strip)) (hd:(tS ops.toList&&xo ops.toList)=true) :
 qB X S ro (.region id ops true) (λst=>(lE S c true [] l st).map λst=>(.norm,st)):=by
 intro st o st' h J ν Z F H y r j;obtain⟨st1,h1,e⟩:=ζf.1 h;simp only[ζc]at e;obtain⟨rfl,rfl⟩:=e;generalize hH0:(if pY ops.toList then H++List.replicate ops.toList.length .free else H)=H0;generalize hk:(if pY ops.toList then ops.toList.length else 0)=k;have hget:∀i,i<H.length->H0[i]? = H[i]? := λi hi=>by
  rw[<-hH0];split
  .exact List.getElem?_append_left hi
  .rfl
 have hlen:H.length<=H0.length:=by rw[<-hH0];split <;> simp
 have r0:R ν Z st F H0:=r.heap (λi hi=>hget i (r.lt hi)) (λi hi=>by unfold an;rw[hget i (r.tW hi)])
 have hfree:∀q,0<=q->q<k->H0[H.length+q]? = some .free:=λq _ hq=>by
  rw[<-hk]at hq;split at hq
  .rename_i ha;rw[<-hH0,if_pos ha,List.getElem?_append_right (by omega)]
   simp only[Nat.add_sub_cancel_left];rw[List.getElem?_replicate,if_pos hq]
  .omega
 obtain⟨n,F',H',ν',e1,e2,e3,e4,e5⟩:=JZ gd hS (ops:=ops.toList) (b:=H.length) (k:=k) (λha=>by rw[<-hk,if_pos ha]) ops.toList.length (i:=0) (fr:=[]) (by omega) (by simpa using hc) h1 r0 hlen
  ⟨λd ob hd hb _=>r.lt ⟨d,ob,hd,hb,rfl⟩,λi hi=>r.tW hi⟩ hfree
 refine⟨n,F',H',ν',Z,λq hq=>?_,e2,?_,e5⟩
 .simp only[exec,gX,if_true,hd,ζf,ζc,true_and];refine⟨(F',H'),?_,rfl,rfl⟩;rw[hH0];have:=e1 q hq;rw[List.range_eq_range'];exact this
 .rw[e4];refine y.uY _ _ _ _ _ _ _ j (Nat.le_trans hlen e3.len) (λi h1 h2 h3=>by rw[e3.same i (by omega) h2 h3 (by omega),hget i h1]) (λi hi=>⟨hi,by rw[(e3.rows i hi).2];unfold an;rw[hget i (r.tW hi)]⟩) (λi hi=>?_) (λi hi=>.inl hi)
  rcases e3.own i hi with h|h|h
  .exact .inl h
  .exact .inr h
  .exact .inr (by omega)
theorem ON {ro:Bool} {code:Code} {f:St->Option (Out×St)} (hf:qB X S ro code f):qB X S ro (.loop code) (mK f):=by
 intro st o st' h J ν Z F H y r j;obtain⟨k,hk⟩:=k_.1 h;have key:∀k st ν Z F H,gM f k st=some (o,st')->Yc S J st.more st.yid->R ν Z st F H->J st.want (dW ν st.m) Z H ->
  ∃n F' H' ν' Z',(∀q,n<=q->∀lf,k<=lf->ja (exec S.E (run S.E q) q ro X.nt code) lf F H=some (o,F',H'))/\R ν' Z' st' F' H'/\J st'.want (dW ν' st'.m) Z' H'/\Fix ν st ν' st':=by
  intro k
  induction k with
  | zero=>intro st ν Z F H h;simp[gM]at h
  | succ k ih=>
   intro st ν Z F H h y r j;simp only[gM]at h;split at h
   .rename_i st1 hs;obtain⟨n1,F1,H1,ν1,Z1,a1,a2,a3,a4⟩:=hf st .norm st1 hs J ν Z F H y r j;obtain⟨n2,F2,H2,ν2,Z2,b1,b2,b3,b4⟩:=ih st1 ν1 Z1 F1 H1 h (by rw[a4.more,a4.yid];exact y) a2 a3
    refine⟨max n1 n2,F2,H2,ν2,Z2,λq hq lf hlf=>?_,b2,b3,a4.trans b4⟩
    cases lf with
    | zero=>omega
    | succ lf=>
     simp only[ja,a1 q (Nat.le_trans (Nat.le_max_left _ _) hq)];exact b1 q (Nat.le_trans (Nat.le_max_right _ _) hq) lf (by omega)
   .rename_i hs;obtain⟨n1,F1,H1,ν1,Z1,a1,a2,a3,a4⟩:=hf st o st' h J ν Z F H y r j;have ho:o≠.norm:=λe=>by subst e;exact hs st' h
    refine⟨n1,F1,H1,ν1,Z1,λq hq lf hlf=>?_,a2,a3,a4⟩
    cases lf with
    | zero=>omega
    | succ lf=>
     simp only[ja,a1 q hq];cases o <;> first|exact absurd rfl ho|rfl
 obtain⟨n,F',H',ν',Z',e1,e2,e3,e4⟩:=key k st ν Z F H hk y r j;refine⟨max n k,F',H',ν',Z',λq hq=>?_,e2,e3,e4⟩
 simp only[exec];exact e1 q (Nat.le_trans (Nat.le_max_left _ _) hq) q (Nat.le_trans (Nat.le_max_right _ _) hq)
theorem On (gd:Good X S) (hI:∀f a b xs,S.items f a b=some xs->dU S f a b xs) {g:Operand} {ps:Array Tmp} {aw bw:Code} {x:Arg} {A B:St->Option (Out×St)}
 (hps:ps.toList.all (·<X.nt)=true) (hx:oT X.nm g=some x) (hA:qB X S true aw A) (hB:qB X S true bw B) :
 qB X S false (.rangeFunc g ps aw bw) (λst=>match oS S.N st.g x with
 | some (.v (.clo f x y))=>match S.items f x y with
  | some xs=>(nU (gz ps.toList A B st) xs st.m).map λ(o,m)=>(o,{ st with m:=m })
  | none=>none
 | _=>none):=by
 intro st o st' h J ν Z F H y r j;dsimp only at h;split at h
 .rename_i f a b hsv;split at h
  .rename_i xs hit;obtain⟨⟨oo,mf⟩,hE,e⟩:=ζf.1 h;simp only[ζc]at e;obtain⟨rfl,rfl⟩:=e;obtain⟨yv,hy,ry⟩:=BM gd.N r.slot hx hsv;obtain⟨a',b',rfl,ra,rb⟩:=ry.fr.iL;obtain⟨ws,more,hcond,hR⟩:=AO hE;generalize hlr:(⟨.ready,none,F,X.nt,ps.toList,aw,bw⟩:tq)=lr0;have hgetH:∀i,i<H.length->(H++[Ob.loop lr0])[i]? = H[i]? := λi hi=>List.getElem?_append_left hi
   have hzr:∀i,Z i->an (H++[Ob.loop lr0]) i=an H i:=λi hi=>by unfold an;rw[hgetH i (r.tW hi)]
   have r0:R ν Z (AS st st.m) F (H++[Ob.loop lr0]):=by
    have:=r.heap (H':=H++[Ob.loop lr0]) (λi hi=>hgetH i (r.lt hi)) hzr
    exact⟨this.slot,this.obj,this.inj,this.apart,this.zrow,this.deep⟩
   have hmono:∀i,Z i->Z i/\an (H++[Ob.loop lr0]) i=an H i:=λi hi=>⟨hi,hzr i hi⟩
   have j0:JI X st F ν (dW ν st.m) Z H H.length ps.toList aw bw (gz ps.toList A B st) oo mf more ws (λ_=>False) Z (H++[Ob.loop lr0]):=by
    refine⟨st.m,ν,Z,lr0,r0,⟨rfl,by simp,λi h1 _ _=>hgetH i h1,λi hi=>⟨hi,hzr i hi⟩,λi hi=>.inl hi,λi hi=>.inl hi⟩,λi hi=>hi.elim,λi hi=>⟨λho=>?_,Nat.ne_of_lt (r.tW hi),.inl hi⟩,λho=>absurd (r.lt ho) (by simp),λhz=>absurd (r.tW hz) (by simp),Nat.le_refl _,by simp,?_,λd _ ob' h=>⟨ob',h,rfl,.refl _⟩,.inl ⟨hR,?_,?_⟩⟩
    .obtain⟨d,ob,g1,g2,rfl⟩:=ho;exact r.apart d ob g1 g2 hi
    .subst hlr;exact⟨rfl,rfl,rfl,rfl,rfl⟩
    .subst hlr;rfl
    .subst hlr;rfl
   have hyc:Yc S (JI X st F ν (dW ν st.m) Z H H.length ps.toList aw bw (gz ps.toList A B st) oo mf more) more H.length:=
    ⟨λw O Z1 H1 O' Z' H' jj h1 h2 h3 h4 h5=>JI.uY jj h1 h2 h3 h4 h5,λx1 ws1 O Z1 H1 args jj h1 h2 h3 h4=>JI.yield S hA hB hps jj h1 h2 h3 h4⟩
   obtain⟨n,yy,H',O',Z',e1,e2⟩:=hI f a b xs hit ws more hcond H.length _ hyc Z a' b' (H++[Ob.loop lr0]) (ra.mono hmono) (rb.mono hmono) (λi hi=>by rw[hzr i hi];exact r.zrow i hi) (r.deep.mono hzr) j0
   obtain⟨m1,νb,Zb,lr,r1,⟨_,k2,k3,k4,k5,k6⟩,_,_,l1,l2,l3,l4,_,l6,l7⟩:=e2;have hfin:m1=mf/\(lr.st=.ready\/lr.st=.done)/\lr.pend.getD .norm=oo:=by
    rcases l7 with⟨g1,g2,g3⟩|⟨_,g1,g2,g3⟩
    .cases g1 with
     | nil hn=>
      exact⟨rfl,.inl g2,by rw[g3,hn];rfl⟩
    .exact⟨g1,.inr g2,by rw[g3];rfl⟩
   obtain⟨rfl,hst,hpend⟩:=hfin;have hll:H.length<H'.length:=(ζe.1 l4).1;have hset:∀i,i≠H.length->(H'.set H.length .dead)[i]? = H'[i]? := λi hne=>by rw[List.getElem?_set,if_neg (Ne.symm hne)]
   have hzr2:∀i,Zb i->an (H'.set H.length .dead) i=an H' i:=λi hi=>by unfold an;rw[hset i λe=>l2 (e▸hi)]
   have r2:=r1.heap (H':=H'.set H.length .dead) (λi hi=>hset i λe=>l1 (e▸hi)) hzr2
   refine⟨n,F,H'.set H.length .dead,νb,Zb,λq hq=>?_,⟨r2.slot,r2.obj,r2.inj,r2.apart,r2.zrow,r2.deep⟩,?_,⟨λd hd=>l6 d (List.mem_append_left _ hd),rfl,rfl,rfl⟩⟩
   .simp only[exec,hy];rw[hlr,e1 q hq];simp only[l4];rcases hst with hst|hst <;> rw[hst] <;> simp only[hpend]
   .refine y.uY _ _ _ _ _ _ _ j (by simp only[List.length_set];omega) (λi h1 h2 h3=>by rw[hset i (by omega),k3 i h1 h2 h3]) (λi hi=>⟨(k4 i hi).1,by rw[hzr2 i (k4 i hi).1,(k4 i hi).2]⟩) k5 k6
  .simp at h
 .simp at h
end
end Go.VE
namespace Go.VE
variable [aS]
def mN (st:St):List RV->Option (List SV)
 | []=>some []
 | .s n::r=>match ai st.g n,mN st r with
  | some x,some l=>some (x::l)
  | _,_=>none
 | .ld n size agg::r=>match (ai st.g n).bind λp=>jc st.m (.load size agg) [p],mN st r with
  | some x,some l=>some (x::l)
  | _,_=>none
noncomputable def oJ (S:Sys) (c:bG) (rf:RF) (svs:List SV) (m0:gI):Option (List SV×gI):=
 if svs.length<=rf.na then
  match bz S c rf.body (start svs m0)with
  | some (.exit _,_)=>none
  | some (_,st)=>(mN st rf.rs).map λrs=>(rs,st.m)
  | none=>none
 else none
def ym (E:Env):ResultVar->Option RV
 | .tmp t=>some (.s t)
 | .cell a t=>(E.tt t).map λd=>.ld a d.size d.agg
def wC (E:Env) (nm:FuncId->Option Nat) (fi:FI) (rf:RF):Prop:=
 aJ ⟨E,nm,fi.ntmps⟩ false fi.body=some (erase rf.body)/\fi.results.mapM (ym E)=some rf.rs/\rf.na=fi.ntmps
section
variable {ν ν' ν2:Nu} {Z Z':Nat->Prop} {st st' st2:St} {m m':Tb aL} {F F':Frame} {H H' H1:ak} {S:Sys} {c:bG} {X:CX} {J:JT}
theorem Gi (gd:Good X S) (hS:jR S c) (hI:∀f a b xs,S.items f a b=some xs->dU S f a b xs):∀(rc:RC) (ro:Bool) (code:Code),aJ X ro code=some (erase rc)->qB X S ro code (bz S c rc):=by
 intro rc
 induction rc with
 | skip=>
  intro ro code hc st o st' h J ν Z F H y r j;simp only[bz,ζa,ζc]at h;obtain⟨rfl,rfl⟩:=h;simp only[erase]at hc;have:∀k,exec S.E (run S.E k) k ro X.nt code F H=some (.norm,F,H):=λk=>by
   cases code with
   | skip=>rfl
   | label _=>rfl
   | region id ops draw=>
    simp only[aJ]at hc;split at hc
    .split at hc
     .obtain⟨_,_,e⟩:=ζf.1 hc;cases e
     .simp at hc
    .obtain⟨_,_,e⟩:=ζf.1 hc;cases e
   | seq a b=>simp only[aJ]at hc;split at hc <;> simp at hc
   | cond x a b=>simp only[aJ]at hc;split at hc <;> simp at hc
   | block id b=>simp only[aJ]at hc;obtain⟨_,_,e⟩:=ζf.1 hc;cases e
   | loop b=>simp only[aJ]at hc;obtain⟨_,_,e⟩:=ζf.1 hc;cases e
   | rangeFunc g ps aw bw=>
    simp only[aJ]at hc;split at hc
    .simp at hc
    .split at hc <;> simp at hc
   | _=>simp[aJ]at hc
  exact⟨0,F,H,ν,Z,λk _=>this k,r,j,.refl⟩
 | ops l=>
  intro ro code hc;simp only[erase]at hc
  cases code with
  | region id ops draw=>
   simp only[aJ]at hc;split at hc
   .split at hc
    .obtain⟨_,_,e⟩:=ζf.1 hc;cases e
    .simp at hc
   .rename_i hd;obtain⟨l',hl,e⟩:=ζf.1 hc;cases e;intro st o st' h J ν Z F H y r j;simp only[bz]at h;obtain⟨st1,h1,e⟩:=ζf.1 h;simp only[ζc]at e;obtain⟨rfl,rfl⟩:=e;obtain⟨n,F',H',ν',Z',e1,e2,e3,e4⟩:=Jf gd hS _ hl h1 y r j;refine⟨n,F',H',ν',Z',λk hk=>?_,e2,e3,e4⟩
    simp only[exec,gX,hd,Bool.false_eq_true,if_false,e1 k hk,Option.map_some]
  | seq a b=>simp only[aJ]at hc;split at hc <;> simp at hc
  | cond x a b=>simp only[aJ]at hc;split at hc <;> simp at hc
  | block id b=>simp only[aJ]at hc;obtain⟨_,_,e⟩:=ζf.1 hc;cases e
  | loop b=>simp only[aJ]at hc;obtain⟨_,_,e⟩:=ζf.1 hc;cases e
  | rangeFunc g ps aw bw=>
   simp only[aJ]at hc;split at hc
   .simp at hc
   .split at hc <;> simp at hc
  | _=>simp[aJ]at hc
 | mB l=>
  intro ro code hc;simp only[erase]at hc
  cases code with
  | region id ops draw=>
   simp only[aJ]at hc;split at hc
   .rename_i hd;subst hd;split at hc
    .rename_i hok;obtain⟨l',hl,e⟩:=ζf.1 hc;cases e;have:=IU (ro:=ro) (id:=id) gd hS hl hok;intro st o st' h;simp only[bz]at h;exact this st o st' h
    .simp at hc
   .obtain⟨_,_,e⟩:=ζf.1 hc;cases e
  | seq a b=>simp only[aJ]at hc;split at hc <;> simp at hc
  | cond x a b=>simp only[aJ]at hc;split at hc <;> simp at hc
  | block id b=>simp only[aJ]at hc;obtain⟨_,_,e⟩:=ζf.1 hc;cases e
  | loop b=>simp only[aJ]at hc;obtain⟨_,_,e⟩:=ζf.1 hc;cases e
  | rangeFunc g ps aw bw=>
   simp only[aJ]at hc;split at hc
   .simp at hc
   .split at hc <;> simp at hc
  | _=>simp[aJ]at hc
 | seq a b iha ihb=>
  intro ro code hc;simp only[erase]at hc
  cases code with
  | seq ca cb=>
   simp only[aJ]at hc;split at hc
   .rename_i xa xb ha hb;simp only[ζa,RC.seq.injEq]at hc;obtain⟨rfl,rfl⟩:=hc;intro st o st' h J ν Z F H y r j;simp only[bz]at h;split at h
    .rename_i st1 hs;obtain⟨n1,F1,H1,ν1,Z1,a1,a2,a3,a4⟩:=iha ro ca ha st .norm st1 hs J ν Z F H y r j;obtain⟨n2,F2,H2,ν2,Z2,b1,b2,b3,b4⟩:=ihb ro cb hb st1 o st' h J ν1 Z1 F1 H1 (by rw[a4.more,a4.yid];exact y) a2 a3
     refine⟨max n1 n2,F2,H2,ν2,Z2,λq hq=>?_,b2,b3,a4.trans b4⟩
     simp only[exec,a1 q (Nat.le_trans (Nat.le_max_left _ _) hq)];exact b1 q (Nat.le_trans (Nat.le_max_right _ _) hq)
    .rename_i hs;obtain⟨n1,F1,H1,ν1,Z1,a1,a2,a3,a4⟩:=iha ro ca ha st o st' h J ν Z F H y r j;refine⟨n1,F1,H1,ν1,Z1,λq hq=>?_,a2,a3,a4⟩
     simp only[exec,a1 q hq];cases o <;> first|exact absurd h (hs st')|rfl
   .simp at hc
  | region id ops draw=>
   simp only[aJ]at hc;split at hc
   .split at hc
    .obtain⟨_,_,e⟩:=ζf.1 hc;cases e
    .simp at hc
   .obtain⟨_,_,e⟩:=ζf.1 hc;cases e
  | cond x a b=>simp only[aJ]at hc;split at hc <;> simp at hc
  | block id b=>simp only[aJ]at hc;obtain⟨_,_,e⟩:=ζf.1 hc;cases e
  | loop b=>simp only[aJ]at hc;obtain⟨_,_,e⟩:=ζf.1 hc;cases e
  | rangeFunc g ps aw bw=>
   simp only[aJ]at hc;split at hc
   .simp at hc
   .split at hc <;> simp at hc
  | _=>simp[aJ]at hc
 | cond x a b iha ihb=>
  intro ro code hc;simp only[erase]at hc
  cases code with
  | cond g ca cb=>
   simp only[aJ]at hc;split at hc
   .rename_i xg xa xb hg ha hb;simp only[ζa,RC.cond.injEq]at hc;obtain⟨rfl,rfl,rfl⟩:=hc;intro st o st' h J ν Z F H y r j;simp only[bz]at h;split at h
    .rename_i t ht;obtain⟨yv,hy,ry⟩:=BM gd.N r.slot hg ht;rw[ry.fr.bool]at hy;split at h
     .rename_i hb;obtain⟨n1,F1,H1,ν1,Z1,a1,a2,a3,a4⟩:=iha ro ca ha st o st' h J ν Z F H y r j;refine⟨n1,F1,H1,ν1,Z1,λq hq=>?_,a2,a3,a4⟩
      simp only[exec,hy,hb,if_true];exact a1 q hq
     .rename_i hb;obtain⟨n1,F1,H1,ν1,Z1,a1,a2,a3,a4⟩:=ihb ro cb (by assumption) st o st' h J ν Z F H y r j
      refine⟨n1,F1,H1,ν1,Z1,λq hq=>?_,a2,a3,a4⟩
      simp only[exec,hy,hb];exact a1 q hq
    .simp at h
   .simp at hc
  | region id ops draw=>
   simp only[aJ]at hc;split at hc
   .split at hc
    .obtain⟨_,_,e⟩:=ζf.1 hc;cases e
    .simp at hc
   .obtain⟨_,_,e⟩:=ζf.1 hc;cases e
  | seq a b=>simp only[aJ]at hc;split at hc <;> simp at hc
  | block id b=>simp only[aJ]at hc;obtain⟨_,_,e⟩:=ζf.1 hc;cases e
  | loop b=>simp only[aJ]at hc;obtain⟨_,_,e⟩:=ζf.1 hc;cases e
  | rangeFunc g ps aw bw=>
   simp only[aJ]at hc;split at hc
   .simp at hc
   .split at hc <;> simp at hc
  | _=>simp[aJ]at hc
 | block id a iha=>
  intro ro code hc;simp only[erase]at hc
  cases code with
  | block id' ca=>
   simp only[aJ]at hc;obtain⟨xa,ha,e⟩:=ζf.1 hc;simp only[RC.block.injEq]at e;obtain⟨rfl,rfl⟩:=e;intro st o st' h J ν Z F H y r j;simp only[bz]at h;split at h
   .rename_i id2 st1 hs;obtain⟨n1,F1,H1,ν1,Z1,a1,a2,a3,a4⟩:=iha ro ca ha st (.exit id2) st1 hs J ν Z F H y r j;split at h
    .rename_i e;simp only[ζa,ζc]at h;obtain⟨rfl,rfl⟩:=h;refine⟨n1,F1,H1,ν1,Z1,λq hq=>?_,a2,a3,a4⟩
     simp only[exec,a1 q hq,if_pos e]
    .rename_i e;simp only[ζa,ζc]at h;obtain⟨rfl,rfl⟩:=h;refine⟨n1,F1,H1,ν1,Z1,λq hq=>?_,a2,a3,a4⟩
     simp only[exec,a1 q hq,if_neg e]
   .rename_i hs;obtain⟨n1,F1,H1,ν1,Z1,a1,a2,a3,a4⟩:=iha ro ca ha st o st' h J ν Z F H y r j;refine⟨n1,F1,H1,ν1,Z1,λq hq=>?_,a2,a3,a4⟩
    simp only[exec,a1 q hq];cases o <;> first|exact absurd h (hs _ st')|rfl
  | region id ops draw=>
   simp only[aJ]at hc;split at hc
   .split at hc
    .obtain⟨_,_,e⟩:=ζf.1 hc;cases e
    .simp at hc
   .obtain⟨_,_,e⟩:=ζf.1 hc;cases e
  | seq a b=>simp only[aJ]at hc;split at hc <;> simp at hc
  | cond x a b=>simp only[aJ]at hc;split at hc <;> simp at hc
  | loop b=>simp only[aJ]at hc;obtain⟨_,_,e⟩:=ζf.1 hc;cases e
  | rangeFunc g ps aw bw=>
   simp only[aJ]at hc;split at hc
   .simp at hc
   .split at hc <;> simp at hc
  | _=>simp[aJ]at hc
 | loop a iha=>
  intro ro code hc;simp only[erase]at hc
  cases code with
  | loop ca=>
   simp only[aJ]at hc;obtain⟨xa,ha,e⟩:=ζf.1 hc;simp only[RC.loop.injEq]at e;subst e;have:=ON (iha ro ca ha);intro st o st' h;simp only[bz]at h;exact this st o st' h
  | region id ops draw=>
   simp only[aJ]at hc;split at hc
   .split at hc
    .obtain⟨_,_,e⟩:=ζf.1 hc;cases e
    .simp at hc
   .obtain⟨_,_,e⟩:=ζf.1 hc;cases e
  | seq a b=>simp only[aJ]at hc;split at hc <;> simp at hc
  | cond x a b=>simp only[aJ]at hc;split at hc <;> simp at hc
  | block id b=>simp only[aJ]at hc;obtain⟨_,_,e⟩:=ζf.1 hc;cases e
  | rangeFunc g ps aw bw=>
   simp only[aJ]at hc;split at hc
   .simp at hc
   .split at hc <;> simp at hc
  | _=>simp[aJ]at hc
 | each x ps a b iha ihb=>
  intro ro code hc;simp only[erase]at hc
  cases code with
  | rangeFunc g ps' aw bw=>
   simp only[aJ]at hc;split at hc
   .simp at hc
   .rename_i hro;simp only[Bool.or_eq_true,not_or,Bool.not_eq_true,Bool.not_eq_false']at hro;obtain⟨rfl,hps⟩:=hro;split at hc
    .rename_i xg xa xb hg ha hb;simp only[ζa,RC.each.injEq]at hc;obtain⟨rfl,rfl,rfl,rfl⟩:=hc;have:=On gd hI hps hg (iha true aw ha) (ihb true bw hb);intro st o st' h;simp only[bz]at h;exact this st o st' h
    .simp at hc
  | region id ops draw=>
   simp only[aJ]at hc;split at hc
   .split at hc
    .obtain⟨_,_,e⟩:=ζf.1 hc;cases e
    .simp at hc
   .obtain⟨_,_,e⟩:=ζf.1 hc;cases e
  | seq a b=>simp only[aJ]at hc;split at hc <;> simp at hc
  | cond x a b=>simp only[aJ]at hc;split at hc <;> simp at hc
  | block id b=>simp only[aJ]at hc;obtain⟨_,_,e⟩:=ζf.1 hc;cases e
  | loop b=>simp only[aJ]at hc;obtain⟨_,_,e⟩:=ζf.1 hc;cases e
  | _=>simp[aJ]at hc
 | exit id=>
  intro ro code hc st o st' h J ν Z F H y r j;simp only[bz,ζa,ζc]at h;obtain⟨rfl,rfl⟩:=h;simp only[erase]at hc;have:∀k,exec S.E (run S.E k) k ro X.nt code F H=some (.exit id,F,H):=λk=>by
   cases code with
   | exit id'=>simp only[aJ,ζa,RC.exit.injEq]at hc;subst hc;rfl
   | region id ops draw=>
    simp only[aJ]at hc;split at hc
    .split at hc
     .obtain⟨_,_,e⟩:=ζf.1 hc;cases e
     .simp at hc
    .obtain⟨_,_,e⟩:=ζf.1 hc;cases e
   | seq a b=>simp only[aJ]at hc;split at hc <;> simp at hc
   | cond x a b=>simp only[aJ]at hc;split at hc <;> simp at hc
   | block id b=>simp only[aJ]at hc;obtain⟨_,_,e⟩:=ζf.1 hc;cases e
   | loop b=>simp only[aJ]at hc;obtain⟨_,_,e⟩:=ζf.1 hc;cases e
   | rangeFunc g ps aw bw=>
    simp only[aJ]at hc;split at hc
    .simp at hc
    .split at hc <;> simp at hc
   | _=>simp[aJ]at hc
  exact⟨0,F,H,ν,Z,λk _=>this k,r,j,.refl⟩
 | ret=>
  intro ro code hc st o st' h J ν Z F H y r j;simp only[bz,ζa,ζc]at h;obtain⟨rfl,rfl⟩:=h;simp only[erase]at hc;have:∀k,exec S.E (run S.E k) k ro X.nt code F H=some (.ret,F,H):=λk=>by
   cases code with
   | ret=>rfl
   | region id ops draw=>
    simp only[aJ]at hc;split at hc
    .split at hc
     .obtain⟨_,_,e⟩:=ζf.1 hc;cases e
     .simp at hc
    .obtain⟨_,_,e⟩:=ζf.1 hc;cases e
   | seq a b=>simp only[aJ]at hc;split at hc <;> simp at hc
   | cond x a b=>simp only[aJ]at hc;split at hc <;> simp at hc
   | block id b=>simp only[aJ]at hc;obtain⟨_,_,e⟩:=ζf.1 hc;cases e
   | loop b=>simp only[aJ]at hc;obtain⟨_,_,e⟩:=ζf.1 hc;cases e
   | rangeFunc g ps aw bw=>
    simp only[aJ]at hc;split at hc
    .simp at hc
    .split at hc <;> simp at hc
   | _=>simp[aJ]at hc
  exact⟨0,F,H,ν,Z,λk _=>this k,r,j,.refl⟩
 | gh x a iha=>
  intro ro code hc;simp only[erase]at hc;intro st o st' h J ν Z F H y r j;simp only[bz]at h;obtain⟨st1,h1,h2⟩:=ζg.1 h;obtain⟨ν1,Z1,g1,g2,g3⟩:=Fix.ghost r y j h1;obtain⟨n,F',H',ν',Z',e1,e2,e3,e4⟩:=iha ro code hc st1 o st' h2 J ν1 Z1 F H (by rw[g3.more,g3.yid];exact y) g1 g2
  exact⟨n,F',H',ν',Z',e1,e2,e3,g3.trans e4⟩
 | hg a x iha=>
  intro ro code hc;simp only[erase]at hc;intro st o st' h J ν Z F H y r j;simp only[bz]at h;split at h
  .rename_i st1 hs;obtain⟨st2,h1,e⟩:=ζf.1 h;simp only[ζc]at e;obtain⟨rfl,rfl⟩:=e;obtain⟨n,F',H',ν',Z',e1,e2,e3,e4⟩:=iha ro code hc st .norm st1 hs J ν Z F H y r j;obtain⟨ν1,Z1,g1,g2,g3⟩:=Fix.ghost e2 (by rw[e4.more,e4.yid];exact y) e3 h1
   exact⟨n,F',H',ν1,Z1,e1,g1,g2,e4.trans g3⟩
  .exact iha ro code hc st o st' h J ν Z F H y r j
end
end Go.VE
