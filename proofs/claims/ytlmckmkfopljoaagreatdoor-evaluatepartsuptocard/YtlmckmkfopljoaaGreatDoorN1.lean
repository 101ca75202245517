/-
 The second layer: named objects in the place of rows; texts, calls, iterators.
-/
import Derived.Test.YtlmckmkfopljoaaGreatDoorV2
set_option linter.all false
namespace Go.VE
variable [bK]
inductive Fl where|nil|emp|row|part
 deriving DecidableEq,Inhabited
inductive SV where
 | v (x:V)
 | own (d:Nat)
 | ptr (d off:Nat)
 | el (d i off:Nat)
 | mp (d:Nat)
 | clo (f:FuncId) (a b:List SV)
 | tup (l:List SV)
 | agg (l:List SV)
 | yl (id:Nat)
 deriving Inhabited
inductive bB where
 | sl (k:Fl) (es:Nat) (xs:List (List V))
 | box (cs:List SV)
 | mp (kvs:List (V×V))
abbrev Tb (α:Type):=List (Nat×α)
def a_ {α:Type}:Tb α->Nat->Option α
 | [],_=>none
 | (k,v)::r,n=>if k=n then some v else a_ r n
def bH {α:Type}:Tb α->Nat->α->Tb α
 | [],n,v=>[(n,v)]
 | (k,x)::r,n,v=>if k=n then(k,v)::r else(k,x)::bH r n v
def dQ {α:Type} (n:Nat):Tb α->Tb α
 | []=>[]
 | (k,x)::r=>if k=n then dQ n r else(k,x)::dQ n r
def nE {α:Type}:List Nat->Tb α->Tb α
 | [],g=>g
 | d::ds,g=>nE ds (dQ d g)
def uF {α:Type}:Tb α->List Nat->List α->Tb α
 | g,p::ps,v::vs=>uF (bH g p v) ps vs
 | g,_,_=>g
def iV {α:Type} (g:Tb α):List Nat->Option (Tb α)
 | []=>some []
 | n::r=>match a_ g n,iV g r with
  | some v,some t=>some ((n,v)::t)
  | _,_=>none
structure St where
 g:Tb SV
 m:Tb bB
 pin:List Nat
 want:List (List V)
 more:Bool
 yid:Nat
structure GZ where
 part:Bool
 go:Nat->List (List V)->List V->Option (List (List V))
structure Sys where
 E:Env
 N:Nat->FuncId
 items:FuncId->List V->List V->Option (List (List V))
 xq:FuncId->List V->Option V
 prm:FuncId->Option GZ
inductive Arg where
 | s (n:Nat)
 | k (c:V)
 | f (name:Nat)
inductive Loc where
 | s (n:Nat)
 | c (b i:Nat)
inductive Gh where
 | close (d:Nat)
 | closeB (d:Nat)
 | canon (l:Loc) (d:Nat) (es:Nat)
 | keep (gs ms:List Nat)
 | drop (ds:List Nat)
 | closeS (l:Loc)
structure RO where
 dst:Option Nat
 gd:Option (Nat×Bool)
 now:Bool
 k:K
 az:List Arg
 dead:List Nat:=[]
 pre:List Gh:=[]
inductive RC where
 | skip
 | ops (l:List RO)
 | qm (l:List RO)
 | seq (a b:RC)
 | cond (x:Arg) (a b:RC)
 | block (id:Nat) (c:RC)
 | loop (c:RC)
 | each (g:Arg) (ps:List Nat) (a b:RC)
 | exit (id:Nat)
 | ret
 | gh (x:Gh) (c:RC)
 | hg (c:RC) (x:Gh)
inductive RV where
 | s (n:Nat)
 | ld (n size:Nat) (agg:Bool)
structure RF where
 na:Nat
 rs:List RV
 body:RC
mutual
def SV.cG (d:Nat):SV->Bool
 | .v _=>false
 | .own e=>e==d
 | .ptr e _=>e==d
 | .el e _ _=>e==d
 | .mp e=>e==d
 | .clo _ a b=>SV.dh d a||SV.dh d b
 | .tup l=>SV.dh d l
 | .agg l=>SV.dh d l
 | .yl _=>false
def SV.dh (d:Nat):List SV->Bool
 | []=>false
 | x::r=>SV.cG d x||SV.dh d r
end
def bB.cG (d:Nat):bB->Bool
 | .box cs=>SV.dh d cs
 | _=>false
def tu (d:Nat):Tb SV->Bool
 | []=>false
 | (_,x)::r=>SV.cG d x||tu d r
def qw (d:Nat):Tb bB->Bool
 | []=>false
 | (_,x)::r=>bB.cG d x||qw d r
def St.new (st:St) (d:Nat):Bool := !(st.pin.contains d)&&(a_ st.m d).isNone && !(tu d st.g) && !(qw d st.m)
mutual
def SV.r_ (d e:Nat):SV->SV
 | .v x=>.v x
 | .own k=>.own (if k=d then e else k)
 | .ptr k o=>.ptr (if k=d then e else k) o
 | .el k i o=>.el (if k=d then e else k) i o
 | .mp k=>.mp (if k=d then e else k)
 | .clo f a b=>.clo f (SV.sY d e a) (SV.sY d e b)
 | .tup l=>.tup (SV.sY d e l)
 | .agg l=>.agg (SV.sY d e l)
 | .yl id=>.yl id
def SV.sY (d e:Nat):List SV->List SV
 | []=>[]
 | x::r=>SV.r_ d e x::SV.sY d e r
end
def bB.r_ (d e:Nat):bB->bB
 | .box cs=>.box (SV.sY d e cs)
 | o=>o
def yw (d e:Nat):Tb SV->Tb SV
 | []=>[]
 | (n,x)::r=>(n,x.r_ d e)::yw d e r
def sW (d e:Nat):Tb bB->Tb bB
 | []=>[]
 | (n,x)::r=>((if n=d then e else n),x.r_ d e)::sW d e r
mutual
def SV.sub (d:Nat) (w:V):SV->SV
 | .own k=>if k=d then .v w else .own k
 | .clo f a b=>.clo f (SV.sN d w a) (SV.sN d w b)
 | .tup l=>.tup (SV.sN d w l)
 | .agg l=>.agg (SV.sN d w l)
 | x=>x
def SV.sN (d:Nat) (w:V):List SV->List SV
 | []=>[]
 | x::r=>SV.sub d w x::SV.sN d w r
end
def dn:List SV->Option (List V)
 | []=>some []
 | .v x::r=>(dn r).map (x::·)
 | _::_=>none
def MW (f:FuncId) (a b:List SV):SV:=
 match dn a,dn b with
 | some x,some y=>.v (.clo f x y)
 | _,_=>.clo f a b
mutual
def SV.AF (d:Nat) (cs:List V):SV->SV
 | .ptr k o=>if k=d then(if o<=cs.length then .v (.fptr (cs.drop o))else .ptr k o)else .ptr k o
 | .clo f a b=>MW f (SV.pz d cs a) (SV.pz d cs b)
 | .tup l=>.tup (SV.pz d cs l)
 | .agg l=>.agg (SV.pz d cs l)
 | x=>x
def SV.pz (d:Nat) (cs:List V):List SV->List SV
 | []=>[]
 | x::r=>SV.AF d cs x::SV.pz d cs r
end
def Av (f:SV->SV):Tb SV->Tb SV
 | []=>[]
 | (n,x)::r=>(n,f x)::Av f r
def mapM (f:List SV->List SV):Tb bB->Tb bB
 | []=>[]
 | (n,.box cs)::r=>(n,.box (f cs))::mapM f r
 | (n,o)::r=>(n,o)::mapM f r
mutual
def SV.names:SV->List Nat
 | .own d|.ptr d _|.el d _ _|.mp d=>[d]
 | .clo _ a b=>SV.uf a++SV.uf b
 | .tup l=>SV.uf l
 | .agg l=>SV.uf l
 | _=>[]
def SV.uf:List SV->List Nat
 | []=>[]
 | x::r=>SV.names x++SV.uf r
end
def nJ:Tb SV->List Nat
 | []=>[]
 | (_,x)::r=>SV.names x++nJ r
def mD (k:Fl) (es:Nat) (xs:List (List V)):V:=
 match k with
 | .nil=>.bM
 | .emp=>.di
 | _=>.fsl es xs
mutual
def V.lvl:Nat->V->Bool
 | n,.fsl _ xs=>match n with|0=>false|n+1=>V.nF n xs
 | n,.fptr cs=>match n with|0=>false|n+1=>V.j_ n cs
 | n,.fmap u=>match n with|0=>false|n+1=>V.qo n u
 | n,.agg cs=>match n with|0=>false|n+1=>V.j_ n cs
 | n,.tup cs=>match n with|0=>false|n+1=>V.j_ n cs
 | n,.clo _ a b=>match n with|0=>false|n+1=>V.j_ n a&&V.j_ n b
 | _,_=>true
def V.j_:Nat->List V->Bool
 | _,[]=>true
 | n,x::r=>V.lvl n x&&V.j_ n r
def V.nF:Nat->List (List V)->Bool
 | _,[]=>true
 | n,x::r=>V.j_ n x&&V.nF n r
def V.qo:Nat->List (V×V)->Bool
 | _,[]=>true
 | n,(k,x)::r=>V.lvl n k&&V.lvl n x&&V.qo n r
end
mutual
def shut (m:Tb bB):Nat->SV->Option V
 | _,.v x=>some x
 | _,.own d=>match a_ m d with
  | some (.sl k es xs)=>some (mD k es xs)
  | _=>none
 | n+1,.ptr d o=>match a_ m d with
  | some (.box cs)=>match cQ m n cs with
   | some xs=>if o<=xs.length then some (.fptr (xs.drop o))else none
   | none=>none
  | _=>none
 | _,.mp d=>match a_ m d with
  | some (.mp u)=>some (.fmap u)
  | _=>none
 | n+1,.clo f a b=>match cQ m n a,cQ m n b with
  | some x,some y=>some (.clo f x y)
  | _,_=>none
 | n+1,.tup l=>(cQ m n l).map .tup
 | n+1,.agg l=>(cQ m n l).map .agg
 | _,_=>none
def cQ (m:Tb bB):Nat->List SV->Option (List V)
 | _,[]=>some []
 | n,x::r=>match shut m n x,cQ m n r with
  | some y,some s=>some (y::s)
  | _,_=>none
end
end Go.VE
namespace Go.VE
variable [bK]
mutual
def V.good:V->Bool
 | .hsl ..|.hptr ..|.yld ..|.hmap ..=>false
 | .fsl _ xs=>V.k9 xs
 | .fptr cs=>V.cH cs
 | .fmap u=>V.qi u
 | .clo _ a b=>V.cH a&&V.cH b
 | .agg cs=>V.cH cs
 | .tup cs=>V.cH cs
 | _=>true
def V.cH:List V->Bool
 | []=>true
 | x::r=>V.good x&&V.cH r
def V.k9:List (List V)->Bool
 | []=>true
 | x::r=>V.cH x&&V.k9 r
def V.qi:List (V×V)->Bool
 | []=>true
 | (k,x)::r=>V.good k&&V.good x&&V.qi r
end
abbrev c9:=Tb bB
abbrev bN:=FuncId->List SV->c9->Option (List SV×c9)
def oK (N:Nat->FuncId) (g:Tb SV):Arg->Option SV
 | .s n=>a_ g n
 | .k c=>some (.v c)
 | .f s=>some (.v (.clo (N s) [] []))
def bQ (N:Nat->FuncId) (g:Tb SV):List Arg->Option (List SV)
 | []=>some []
 | x::r=>match oK N g x,bQ N g r with
  | some v,some vs=>some (v::vs)
  | _,_=>none
def cI:Fl->Bool
 | .row|.part=>true
 | _=>false
def kQ (m:Tb bB):SV->Bool
 | .own d|.ptr d _|.el d _ _|.mp d=>(a_ m d).isSome
 | .clo ..=>true
 | _=>false
def vZ (m:Tb bB):SV->Bool
 | .v x=>x.one
 | x=>kQ m x
def EN (m:Tb bB):SV->Option (List SV)
 | .v x=>some (x.cells.map .v)
 | .agg l=>some l
 | x=>if kQ m x then some [x]else none
def wm (m:Tb bB) (cells:List SV):List (Nat×Nat)->List SV->Option (List SV)
 | [],[]=>some cells
 | (off,size)::pl,v::vs=>match EN m v with
  | some c=>if c.length=size/\off+c.length<=cells.length then wm m (cells.take off++c++cells.drop (off+c.length)) pl vs else none
  | none=>none
 | _,_=>none
def tE (size:Nat) (agg:Bool) (cs:List SV):Option SV:=
 if cs.length=size then
  if agg then match dn cs with
   | some u=>some (.v (.agg u))
   | none=>some (.agg cs)
  else match cs with
   | [x]=>some x
   | _=>none
 else none
def zg (N:Nat->FuncId) (m:Tb bB):sZ->List SV->Option SV
 | .id,[x]=>some x
 | .nilc,[.ptr d o]=>if(a_ m d).isSome then some (.ptr d o)else none
 | .nilc,[.el d i o]=>if(a_ m d).isSome then some (.el d i o)else none
 | .pick,[.v (.bool t),a,b]=>some (if t then a else b)
 | .bin (some .slice) _ .eql,[.own d,.v .bM]=>match a_ m d with
  | some (.sl k _ _)=>if k=.emp then none else some (.v (.bool (k==.nil)))
  | _=>none
 | .bin (some .slice) _ .neq,[.own d,.v .bM]=>match a_ m d with
  | some (.sl k _ _)=>if k=.emp then none else some (.v (.bool (!(k==.nil))))
  | _=>none
 | .fieldAddr off,[.ptr d o]=>if(a_ m d).isSome then some (.ptr d (o+off))else none
 | .fieldAddr off,[.el d i o]=>if(a_ m d).isSome then some (.el d i (o+off))else none
 | .idxS size,[.own d,.v (.int _ i)]=>match a_ m d with
  | some (.sl k es xs)=>if cI k/\es=size/\0<=i/\i.toNat<xs.length then some (.el d i.toNat 0)else none
  | _=>none
 | .idxA len size,[.ptr d o,.v (.int _ i)]=>if 0<=i/\i<len/\(a_ m d).isSome then some (.ptr d (o+i.toNat*size))else none
 | .idxA len size,[.el d j o,.v (.int _ i)]=>if 0<=i/\i<len/\(a_ m d).isSome then some (.el d j (o+i.toNat*size))else none
 | .lenSl,[.own d]=>match a_ m d with
  | some (.sl _ _ xs)=>some (.v (.int .i64 xs.length))
  | _=>none
 | .clo name k,vs=>some (.clo (N name) (vs.take k) (vs.drop k))
 | .ext i,[.tup l]=>l[i]?
 | .build zero pl,vs=>(wm m (zero.map .v) pl vs).map .agg
 | .field off size agg,[.agg l]=>tE size agg ((l.drop off).take size)
 | _,_=>none
def jg (N:Nat->FuncId) (m:Tb bB) (p:sZ) (svs:List SV):Option SV:=
 match dn svs with
 | some u=>(bq N p u).map .v
 | none=>zg N m p svs
def Iw (m:Tb bB) (d:Nat):SV->Bool
 | .ptr u _=>u != d&&(match a_ m u with|some (.box _)=>true|_=>false)
 | .v (.fptr _)=>true
 | _=>false
def nu (m:Tb bB):G_->List SV->Option SV
 | .load size agg,[.ptr d o]=>match a_ m d with
  | some (.box cs)=>tE size agg ((cs.drop o).take size)
  | _=>none
 | .load size agg,[.el d i o]=>match a_ m d with
  | some (.sl _ _ xs)=>match xs[i]? with
   | some cs=>((cut cs o size).bind (mk agg)).map .v
   | none=>none
  | _=>none
 | .load size agg,[.v p]=>((dY [] p size).bind (mk agg)).map .v
 | .lookup kk z ok,[.mp d,.v k]=>match a_ m d with
  | some (.mp u)=>if nL kk k then match gG k u 0 with
   | some (some (_,v))=>some (.v (if ok then .tup [v,.bool true]else v))
   | some none=>some (.v (if ok then .tup [z,.bool false]else z))
   | none=>none
   else none
  | _=>none
 | .lookup kk z ok,[.v p,.v k]=>(fS [] (.lookup kk z ok) [p,k]).map .v
 | .loadF size agg,.ptr d o::l=>if l.all (Iw m d)=true then match a_ m d with
  | some (.box cs)=>tE size agg ((cs.drop o).take size)
  | _=>none
  else none
 | _,_=>none
def eD (fr:List Nat):List SV->Bool
 | []=>true
 | .v _::r=>eD fr r
 | .ptr d _::r => !(fr.contains d)&&eD fr r
 | .el d _ _::r => !(fr.contains d)&&eD fr r
 | .mp d::r => !(fr.contains d)&&eD fr r
 | _=>false
def qE (m:Tb bB) (a:Ks) (svs:List SV) (d:Nat):Option (bB×SV):=
 match a,svs with
 | .alloc _ zero,[]=>some (.box (zero.map .v),.ptr d 0)
 | .box,[.v x]=>if x.cells.all V.one then some (.box (x.cells.map .v),.ptr d 0)else none
 | .box,[.agg l]=>if l.all (vZ m)then some (.box l,.ptr d 0)else none
 | .box,[x]=>if kQ m x then some (.box [x],.ptr d 0)else none
 | .makeSl size zero,[.v (.int k n),.v (.int w c)]=>
  if k=.i64/\w=.i64/\0<=n/\n<=c/\c<=2147483648 then some (.sl (if n=c then .row else .part) size (List.replicate n.toNat zero),.own d)else none
 | .buildSl size len zero idx,z=>match dn z with
  | some u=>if idx.length=u.length then(gB size (List.replicate len zero) (idx.zip u)).map λB=>(.sl .row size B,.own d)else none
  | none=>none
 | .makeMap,[]=>some (.mp [],.mp d)
 | _,_=>none
def jl (m:Tb bB) (size:Nat):SV->Option (List (List V))
 | .own d=>match a_ m d with
  | some (.sl k es xs)=>if cI k then(if es=size then some xs else none)else some []
  | _=>none
 | .v .bM=>some []
 | .v .di=>some []
 | .v (.fsl es xs)=>if es=size then some xs else none
 | _=>none
def Eu:SV->Bool
 | .own _|.v .bM|.v .di=>true
 | _=>false
def putCells (m:Tb bB) (size o:Nat) (sv:SV) (cs:List SV):Option (List SV):=
 match sv with
 | .v x=>if x.cells.length=size/\o+size<=cs.length/\x.cells.all V.one=true then some (cs.take o++x.cells.map .v++cs.drop (o+size))else none
 | .agg l=>if l.length=size/\o+size<=cs.length/\l.all (vZ m)=true then some (cs.take o++l++cs.drop (o+size))else none
 | x=>if kQ m x=true/\size=1/\o+1<=cs.length then some (cs.take o++[x]++cs.drop (o+1))else none
def giveUp (m:Tb bB):SV->Tb bB
 | .own d=>dQ d m
 | _=>m
def k8 (st:St) (dst:Option Nat):G0->List SV->Option (SV×St)
 | .store size,[.ptr d o,x]=>match a_ st.m d with
  | some (.box cs)=>(putCells st.m size o x cs).map λcs=>(.v .undef,{ st with m:=bH st.m d (.box cs) })
  | _=>none
 | .store size,[.el d i o,.v x]=>match a_ st.m d with
  | some (.sl k es xs)=>match xs[i]? with
   | some cs=>if x.cells.length=size/\o+size<=cs.length/\x.cells.all V.one=true then
    some (.v .undef,{ st with m:=bH st.m d (.sl k es (xs.set i (cs.take o++x.cells++cs.drop (o+x.cells.length)))) })else none
   | none=>none
  | _=>none
 | .mapUp kk,[.mp d,.v k,.v x]=>match a_ st.m d with
  | some (.mp u)=>if nL kk k then(n9 k x u).map λu=>(.v .undef,{ st with m:=bH st.m d (.mp u) })else none
  | _=>none
 | .append size,[s,x]=>match jl st.m size s,jl st.m size x with
  | some _,some []=>match dst with
   | some t=>match s with
    | .own d=>match a_ st.m d with
     | some ob=>if St.new { st with m:=dQ d st.m } t then some (.own t,{ st with m:=bH (dQ d st.m) t ob })else none
     | none=>none
    | .v .bM=>if st.new t then some (.own t,{ st with m:=bH st.m t (.sl .nil size []) })else none
    | .v .di=>if st.new t then some (.own t,{ st with m:=bH st.m t (.sl .emp size []) })else none
    | _=>none
   | none=>none
  | some xs,some ys=>
   if xs.length+ys.length<=2147483648/\Eu s=true then
    let m1:=giveUp st.m s
    match dst with
    | some t=>if St.new { st with m:=m1 } t then some (.own t,{ st with m:=bH m1 t (.sl .row size (xs++ys)) })else none
    | none=>none
   else none
  | _,_=>none
 | .storeF size,.ptr d o::x::l=>if l.all (Iw st.m d)=true then match a_ st.m d with
  | some (.box cs)=>(putCells st.m size o x cs).map λcs=>(.v .undef,{ st with m:=bH st.m d (.box cs) })
  | _=>none
  else none
 | _,_=>none
def xW (st:St) (dst:Option Nat) (size:Nat) (lo hi:Bool) (d:Nat) (z:List SV):Option (SV×St):=
 match a_ st.m d,dn z,dst with
 | some (.sl k es u),some B,some t=>
  if cI k=true/\es=size then
   (lI lo hi B).bind λ(l,h)=>(dM u.length l h).bind λ(l,h)=>
    let w:=dQ d st.m
    if St.new { st with m:=w } t then some (.own t,{ st with m:=bH w t (.sl .part es ((u.take h).drop l)) })else none
  else none
 | _,_,_=>none
def zk:List SV->SV
 | [x]=>x
 | l=>.tup l
mutual
def SV.zA:SV->List Nat
 | .v _=>[]
 | .own e=>[e]
 | .ptr e _=>[e]
 | .el e _ _=>[e]
 | .mp e=>[e]
 | .clo _ a b=>SV.pL a++SV.pL b
 | .tup l=>SV.pL l
 | .agg l=>SV.pL l
 | .yl _=>[]
def SV.pL:List SV->List Nat
 | []=>[]
 | x::r=>SV.zA x++SV.pL r
end
def bB.zA:bB->List Nat
 | .box cs=>SV.pL cs
 | _=>[]
def reach (m:Tb bB):Nat->List Nat->List Nat->List Nat
 | 0,_,seen=>seen
 | _+1,[],seen=>seen
 | n+1,d::r,seen=>if seen.contains d then reach m n r seen else reach m n ((match a_ m d with|some ob=>bB.zA ob|none=>[])++r) (seen++[d])
def lu (m:Tb bB) (l:List SV):Option c9:=iV m (reach m 32 (SV.pL l) [])
mutual
def SV.bare:SV->Bool
 | .v x=>x.scalar
 | .clo _ a b=>SV.uQ a&&SV.uQ b
 | .tup l=>SV.uQ l
 | .agg l=>SV.uQ l
 | _=>true
def SV.uQ:List SV->Bool
 | []=>true
 | x::r=>SV.bare x&&SV.uQ r
end
def bB.bare:bB->Bool
 | .box cs=>SV.uQ cs
 | _=>false
def vA (m:Tb bB) (k:Nat):Bool:=match a_ m k with
 | some ob=>ob.bare
 | none=>true
def within (u:List Nat) (ob:bB):Bool:=ob.zA.all u.contains
def v7 (u:List Nat) (m':c9):List Nat->Tb bB->Option (Tb bB)
 | [],m=>some m
 | d::r,m=>match a_ m' d with
  | some ob=>if within u ob then v7 u m' r (bH m d ob)else none
  | none=>none
def jr (m':c9) (l:List Nat) (m:Tb bB):Option (Tb bB):=v7 l m' l m
def mK (xs:List (List V)):Bool:=xs.all λx=>x.all V.scalar
def Gb (q:GZ) (dst:Option Nat) (args:List SV) (st:St):Option (SV×St):=
 match args with
 | .own d::z=>match a_ st.m d,dn z with
  | some (.sl k es u),some B=>match q.go es u B with
   | some w=>if q.part then match dst with
    | some t=>if St.new { st with m:=dQ d st.m } t then some (.own t,{ st with m:=bH (dQ d st.m) t (if cI k then .sl .part es w else .sl k es u) })else none
    | none=>none
    else some (.v .undef,{ st with m:=bH st.m d (if cI k then .sl k es w else .sl k es u) })
   | none=>none
  | _,_=>none
 | _=>none
def rowsOf:List SV->Option (List Nat)
 | []=>some []
 | .v _::r=>rowsOf r
 | .own d::r=>(rowsOf r).map (d::·)
 | _=>none
def fe (S:Sys) (c:bN) (dst:Option Nat) (dr now:Bool) (old:List SV->Bool) (f:FuncId) (args:List SV) (st:St):Option (SV×St):=
 if S.E.keep f then
  if now then
   if S.E.own f then
    match cQ st.m 8 args with
    | some az=>
     match c f (az.map .v) []with
     | some (rs,m')=>match dn rs with
      | some u=>if(result u).scalar then some (.v (result u),st)else none
      | none=>match rs,dst with
       | .own e::rest,some t=>match a_ m' e,dn rest with
        | some (.sl .row es z),some u=>
         if V.cF u&&mK z&&st.new t then
          some (zk (.own t::u.map .v),{ st with m:=bH st.m t (.sl .row es z) })
         else none
        | some (.sl .nil es _),some u=>if V.cF u&&st.new t then some (zk (.own t::u.map .v),{ st with m:=bH st.m t (.sl .nil es []) })else none
        | some (.sl .emp es _),some u=>if V.cF u&&st.new t then some (zk (.own t::u.map .v),{ st with m:=bH st.m t (.sl .emp es []) })else none
        | _,_=>none
       | _,_=>none
     | none=>none
    | none=>none
   else match S.prm f with
    | some q=>if dr then none else Gb q dst args st
    | none=>match lu st.m args with
    | some os=>match c f args os with
     | some (rs,m')=>match dn rs,jr m' (os.map (·.1)) st.m with
      | some u,some w=>if dr && !(V.cF u&&os.all λx=>vA w x.1)then none else some (.v (result u),{ st with m:=w })
      | none,some w=>if dr then none else match rs,dst with
       | .own e::rest,some t=>match a_ m' e,dn rest with
        | some (.sl k es z),some u=>if !(os.map (·.1)).contains e&&St.new { st with m:=w } t then some (zk (.own t::u.map .v),{ st with m:=bH w t (.sl k es z) })else none
        | _,_=>none
       | _,_=>none
      | _,_=>none
     | none=>none
    | none=>none
  else none
 else match cQ st.m 8 args with
  | some az=>if now||old args then
   match c f (az.map .v) []with
   | some (rs,m')=>match cQ m' 8 rs with
    | some u=>if(result u).scalar||(dn args).isSome then some (.v (result u),st)
     else if now then(rowsOf args).map λds=>(.v (result u),{ st with m:=nE ds st.m })
     else none
    | none=>none
   | none=>none
   else none
  | none=>none
def fu (m:Tb bB) (fr:List Nat) (args:List SV):Bool:=fr.all λd => !(SV.dh d args) && !(qw d m)
def ze:K->Bool
 | .p (.build zero _)=>V.cH zero
 | .r (.lookup _ z _)=>z.good
 | .a (.alloc _ zero)=>V.cH zero&&zero.all V.one
 | .a (.makeSl _ zero)=>V.cH zero
 | .a (.buildSl _ _ zero _)=>V.cH zero
 | _=>true
def kM (S:Sys) (c:bN) (dr:Bool) (fr:List Nat) (o:RO) (st:St):Option (SV×St):=
 match bQ S.N st.g o.az with
 | some u=>match o.k with
  | .p (.slice size lo hi)=>match u with
   | .own d::z=>if dr then none else xW st o.dst size lo hi d z
   | u=>(jg S.N st.m (.slice size lo hi) u).map λx=>(x,st)
  | .p p=>(jg S.N st.m p u).map λx=>(x,st)
  | .r r=>if !dr||o.now||eD fr u then(nu st.m r u).map λx=>(x,st)else none
  | .a a=>match o.dst with
   | some d=>if st.new d then(qE st.m a u d).map λ(ob,x)=>(x,{ st with m:=bH st.m d ob })else none
   | none=>none
  | .l l=>if !dr||o.now then k8 st o.dst l u else none
  | .c=>match u with
   | .clo f a b::w=>fe S c o.dst dr (!dr||o.now) (fu st.m fr) f (a++w++b) st
   | .v (.clo f a b)::w=>fe S c o.dst dr (!dr||o.now) (fu st.m fr) f (a.map .v++w++b.map .v) st
   | _=>none
  | .b=>if dr then none else match u with
   | [x]=>(jl st.m 1 x).bind λB=>(oa B).map λl=>(.v (.str (HQ l)),st)
   | _=>none
  | .e n=>match u with
   | [.v .bM,x]=>k8 st o.dst (.append n) [.v .bM,x]
   | [.v .di,x]=>k8 st o.dst (.append n) [.v .di,x]
   | _=>none
 | none=>none
def cU (st:St) (dst:Option Nat) (x:SV):St:=
 match dst with
 | none=>st
 | some d=>{ st with g:=bH st.g d x }
def wanted (g:Tb SV):Option (Nat×Bool)->Option Bool
 | none=>some true
 | some (s,b)=>match a_ g s with
  | some (.v (.bool c))=>some (c==b)
  | some (.v _)=>some false
  | _=>none
def v8 (o:RO):Option Nat:=
 match o.k with
 | .p _|.r _=>none
 | _=>o.dst
def oP (fr:List Nat) (o:RO):List Nat:=
 match v8 o with
 | some d=>d::fr
 | none=>fr
def bl (H:bf) (id:Nat):Option (Nat×List (List V)):=(H[id]?).bind Ob.rows
mutual
theorem V.lQ:∀{x:V},x.good=true->x.closed=true
 | .hsl ..,h|.hptr ..,h|.yld _,h|.hmap _,h=>by simp[V.good]at h
 | .fsl ..,_|.fptr ..,_|.fmap ..,_=>rfl
 | .bool _,_|.int ..,_|.str _,_|.di,_|.bM,_|.gp,_|.fL,_|.pR,_=>rfl
 | .clo _ a b,h=>by
  simp only[V.good,ζh]at h;simp only[V.closed,ζh];exact⟨V.me h.1,V.me h.2⟩
 | .agg cs,h=>by simp only[V.good]at h;simp only[V.closed];exact V.me h
 | .tup cs,h=>by simp only[V.good]at h;simp only[V.closed];exact V.me h
theorem V.me:∀{l:List V},V.cH l=true->V.jG l=true
 | [],_=>rfl
 | x::r,h=>by
  simp only[V.cH,ζh]at h;simp only[V.jG,ζh];exact⟨V.lQ h.1,V.me h.2⟩
end
theorem iE:∀{l:List V},V.cH l=true↔∀(j:Nat) u,l[j]? = some u->u.good=true
 | []=>by simp[V.cH]
 | x::l=>by
  simp[V.cH,iE ];constructor
  .grind
  intro h;exact⟨h 0 x rfl,λj u hu=>h (j+1) u Zd⟩
theorem kg:∀{l:List (List V)},V.k9 l=true↔∀(j:Nat) u,l[j]? = some u->V.cH u=true
 | []=>by simp[V.k9]
 | x::l=>by
  simp[V.k9,kg ];constructor
  .grind
  intro h;exact⟨h 0 x rfl,λj u hu=>h (j+1) u Zd⟩
theorem Dd:∀{l:List (V×V)},V.qi l=true↔∀(j:Nat) u,l[j]? = some u->u.1.good=true/\u.2.good=true
 | []=>by simp[V.qi]
 | (k,x)::l=>by
  simp only[V.qi,ζh,Dd ];constructor
  .grind
  intro h;exact⟨h 0 (k,x) rfl,λj u hu=>h (j+1) u Zd⟩
theorem we {l:List V} (n:Nat) (h:V.cH l=true):V.cH (l.drop n)=true:=
 iE.2 λj u hu=>iE.1 h (n+j) u Zd
inductive FR (H:bf) (Z:Nat->Prop):V->V->Prop
 | same (x:V) (h:x.good=true):FR H Z x x
 | fsl (es:Nat) (xs:List (List V)) (id off:Nat) (ys:List (List V)) (hz:Z id) (hr:bl H id=some (es,ys)) (hl:off+xs.length<=ys.length)
  (hc:∀(i:Nat) a b,xs[i]? = some a->ys[off+i]? = some b->a.length=b.length)
  (hv:∀(i j:Nat) a b u v,xs[i]? = some a->ys[off+i]? = some b->a[j]? = some u->b[j]? = some v->FR H Z u v):FR H Z (.fsl es xs) (.hsl id es off xs.length)
 | fptr (xs:List V) (id el off es:Nat) (ys:List (List V)) (cs:List V) (hz:Z id) (hr:bl H id=some (es,ys)) (he:ys[el]? = some cs) (ho:off<=cs.length) (hx:xs.length=cs.length-off)
  (hv:∀(j:Nat) u v,xs[j]? = some u->cs[off+j]? = some v->FR H Z u v):FR H Z (.fptr xs) (.hptr id el off)
 | clo (f:FuncId) (a b a' b':List V) (ha:a.length=a'.length) (hb:b.length=b'.length) (hva:∀(j:Nat) u v,a[j]? = some u->a'[j]? = some v->FR H Z u v) (hvb:∀(j:Nat) u v,b[j]? = some u->b'[j]? = some v->FR H Z u v):FR H Z (.clo f a b) (.clo f a' b')
 | agg (a a':List V) (ha:a.length=a'.length) (hva:∀(j:Nat) u v,a[j]? = some u->a'[j]? = some v->FR H Z u v):FR H Z (.agg a) (.agg a')
 | tup (a a':List V) (ha:a.length=a'.length) (hva:∀(j:Nat) u v,a[j]? = some u->a'[j]? = some v->FR H Z u v):FR H Z (.tup a) (.tup a')
def dg (H:bf) (Z:Nat->Prop) (xs ys:List V):Prop:=xs.length=ys.length/\∀(j:Nat) u v,xs[j]? = some u->ys[j]? = some v->FR H Z u v
def fM (H:bf) (Z:Nat->Prop) (xs ys:List (List V)):Prop:=xs.length=ys.length/\∀(j:Nat) u v,xs[j]? = some u->ys[j]? = some v->dg H Z u v
section
variable {H H':bf} {Z Z':Nat->Prop}
theorem FR.mono (h:∀id,Z id->Z' id/\bl H' id=bl H id) {x y:V} (r:FR H Z x y):FR H' Z' x y:=by
 induction r with
 | same x h=>exact .same x h
 | fsl es B id off C D hr J hc hv G=>exact .fsl es B id off C (h id D).1 Zd J hc G
 | fptr B id el off es C cs D hr L O Q hv G=>exact .fptr B id el off es C cs (h id D).1 Zd L O Q G
 | clo f a b w S z T hva U u I=>exact .clo f a b w S z T u I
 | agg a w z hva u=>exact .agg a w z u
 | tup a w z hva u=>exact .tup a w z u
theorem dg.mono (h:∀id,Z id->Z' id/\bl H' id=bl H id) {x y:List V} (r:dg H Z x y):dg H' Z' x y:=⟨r.1,λj u v a b=>(r.2 j u v a b).mono h⟩
theorem fM.mono (h:∀id,Z id->Z' id/\bl H' id=bl H id) {x y:List (List V)} (r:fM H Z x y):fM H' Z' x y:=⟨r.1,λj u v a b=>(r.2 j u v a b).mono h⟩
theorem dg.nil:dg H Z [] []:=⟨rfl,by simp⟩
theorem dg.cons {x y:V} {xs ys:List V} (h:FR H Z x y) (r:dg H Z xs ys):dg H Z (x::xs) (y::ys):=by
 refine⟨by simp[r.1],λj u v hu hv=>?_⟩
 cases j with
 | zero=>grind
 | succ j=>exact r.2 j u v Zd Zd
theorem dg.inv {x:V} {xs z:List V} (r:dg H Z (x::xs) z):∃y ys,z=y::ys/\FR H Z x y/\dg H Z xs ys:=by
 cases z with
 | nil=>have:=r.1;grind
 | cons y ys=>
  refine⟨y,ys,rfl,r.2 0 x y rfl rfl,by have:=r.1;grind,λj u v hu hv=>r.2 (j+1) u v Zd Zd⟩
theorem dg.c6 {u:List V} (r:dg H Z [] u):u=[]:=by
 have:=r.1
 grind
theorem dg.get {xs ys:List V} (r:dg H Z xs ys) {j:Nat} {u:V} (h:xs[j]? = some u):∃v,ys[j]? = some v/\FR H Z u v:=by
 have w  := (ζe.1 h).1;have:j<ys.length:=by rw[<-r.1];omega
 exact⟨ys[j],ζd this,r.2 j u _ h (ζd this)⟩
theorem fM.get {xs ys:List (List V)} (r:fM H Z xs ys) {j:Nat} {u:List V} (h:xs[j]? = some u):∃v,ys[j]? = some v/\dg H Z u v:=by
 have w  := (ζe.1 h).1;have:j<ys.length:=by rw[<-r.1];omega
 exact⟨ys[j],ζd this,r.2 j u _ h (ζd this)⟩
theorem dg.append {a b c d:List V} (h:dg H Z a b) (k:dg H Z c d):dg H Z (a++c) (b++d):=by
 refine⟨by simp[h.1,k.1],λj u v hu hv=>?_⟩
 by_cases w:j<a.length
 .rw[List.getElem?_append_left w]at hu;rw[List.getElem?_append_left (by rw[<-h.1];omega)]at hv
  exact h.2 j u v hu hv
 rw[List.getElem?_append_right Za]at hu
 rw[List.getElem?_append_right (by rw[<-h.1];omega),<-h.1]at hv
 exact k.2 _ u v hu hv
theorem fM.append {a b c d:List (List V)} (h:fM H Z a b) (k:fM H Z c d):fM H Z (a++c) (b++d):=by
 refine⟨by simp[h.1,k.1],λj u v hu hv=>?_⟩
 by_cases w:j<a.length
 .rw[List.getElem?_append_left w]at hu;rw[List.getElem?_append_left (by rw[<-h.1];omega)]at hv
  exact h.2 j u v hu hv
 rw[List.getElem?_append_right Za]at hu
 rw[List.getElem?_append_right (by rw[<-h.1];omega),<-h.1]at hv
 exact k.2 _ u v hu hv
theorem dg.take {a b:List V} (h:dg H Z a b) (n:Nat):dg H Z (a.take n) (b.take n):=by
 refine⟨by simp[h.1],λj u v hu hv=>?_⟩
 rw[List.getElem?_take]at hu hv;split at hu
 next w=>rw[if_pos w]at hv;exact h.2 j u v hu hv
 grind
theorem dg.drop {a b:List V} (h:dg H Z a b) (n:Nat):dg H Z (a.drop n) (b.drop n):=by
 refine⟨by simp[h.1],λj u v hu hv=>?_⟩
 rw[List.getElem?_drop]at hu hv;exact h.2 _ u v hu hv
theorem fM.take {a b:List (List V)} (h:fM H Z a b) (n:Nat):fM H Z (a.take n) (b.take n):=by
 refine⟨by simp[h.1],λj u v hu hv=>?_⟩
 rw[List.getElem?_take]at hu hv;split at hu
 next w=>rw[if_pos w]at hv;exact h.2 j u v hu hv
 grind
theorem fM.drop {a b:List (List V)} (h:fM H Z a b) (n:Nat):fM H Z (a.drop n) (b.drop n):=by
 refine⟨by simp[h.1],λj u v hu hv=>?_⟩
 rw[List.getElem?_drop]at hu hv;exact h.2 _ u v hu hv
theorem dg.set {a b:List V} (h:dg H Z a b) (n:Nat) {x y:V} (z:FR H Z x y):dg H Z (a.set n x) (b.set n y):=by
 refine⟨by simp[h.1],λj u v hu hv=>?_⟩
 rw[List.getElem?_set]at hu hv;split at hu
 .grind
 rename_i e;rw[if_neg e]at hv;exact h.2 j u v hu hv
theorem fM.set {a b:List (List V)} (h:fM H Z a b) (n:Nat) {x y:List V} (z:dg H Z x y):fM H Z (a.set n x) (b.set n y):=by
 refine⟨by simp[h.1],λj u v hu hv=>?_⟩
 rw[List.getElem?_set]at hu hv;split at hu
 .grind
 rename_i e;rw[if_neg e]at hv;exact h.2 j u v hu hv
theorem dg.same {l:List V} (h:V.cH l=true):dg H Z l l:=
 ⟨rfl,λj u v hu hv=>by rw[hu]at hv;cases hv;exact .same u (iE.1 h j u hu)⟩
theorem FR.good {x y:V} (r:FR H Z x y):x.good=true:=by
 induction r with
 | same x h=>omega
 | fsl es C id off D G hr O hc hv I=>
  refine kg.2 λi a z=>iE.2 λj u hu=>?_
  grind
 | fptr C id el off es D cs G hr Q S T hv I=>
  refine iE.2 λj u hu=>?_
  grind
 | clo f a b B U z W hva J w L=>
  simp[V.good];refine⟨iE.2 λj u hu=>?_,iE.2 λj u hu=>?_⟩
  .grind
  grind
 | agg a B z hva w=>
  refine iE.2 λj u hu=>?_
  grind
 | tup a B z hva w=>
  simp[V.good];refine iE.2 λj u hu=>?_
  grind
theorem FR.closed {x y:V} (r:FR H Z x y):x.closed=true:=V.lQ r.good
theorem dg.good {xs ys:List V} (r:dg H Z xs ys):V.cH xs=true:=
 iE.2 λj u hu=>by obtain⟨v,_,h⟩:=r.get hu;exact h.good
theorem fM.good {xs ys:List (List V)} (r:fM H Z xs ys):V.k9 xs=true:=
 kg.2 λj u hu=>by obtain⟨v,_,h⟩:=r.get hu;exact h.good
theorem FR.bool {b:Bool} {y:V} (r:FR H Z (.bool b) y):y=.bool b:=by cases r;rfl
theorem FR.int {k:IntKind} {n:Int} {y:V} (r:FR H Z (.int k n) y):y=.int k n:=by cases r;rfl
theorem FR.str {s:ByteArray} {y:V} (r:FR H Z (.str s) y):y=.str s:=by cases r;rfl
theorem FR.di {y:V} (r:FR H Z .di y):y=.di:=by cases r;rfl
theorem FR.bM {y:V} (r:FR H Z .bM y):y=.bM:=by cases r;rfl
theorem FR.gp {y:V} (r:FR H Z .gp y):y=.gp:=by cases r;rfl
theorem FR.fL {y:V} (r:FR H Z .fL y):y=.fL:=by cases r;rfl
theorem FR.pR {y:V} (r:FR H Z .pR y):y=.pR:=by cases r;rfl
theorem FR.fmap {u:List (V×V)} {y:V} (r:FR H Z (.fmap u) y):y=.fmap u:=by cases r;rfl
theorem FR.gF {a:List V} {y:V} (r:FR H Z (.agg a) y):∃a',y=.agg a'/\dg H Z a a':=by
 cases r with
 | same _ h=>exact⟨a,rfl,.same (by simpa [V.good]using h)⟩
 | agg _ a' u hva=>exact⟨a',rfl,u,hva⟩
theorem FR.oF {a:List V} {y:V} (r:FR H Z (.tup a) y):∃a',y=.tup a'/\dg H Z a a':=by
 cases r with
 | same _ h=>exact⟨a,rfl,.same (by simpa [V.good]using h)⟩
 | tup _ a' u hva=>exact⟨a',rfl,u,hva⟩
theorem FR.jJ {f:FuncId} {a b:List V} {y:V} (r:FR H Z (.clo f a b) y):∃a' u,y=.clo f a' u/\dg H Z a a'/\dg H Z b u:=by
 cases r with
 | same _ h=>
  simp[V.good]at h;exact⟨a,b,rfl,.same h.1,.same h.2⟩
 | clo _ _ _ a' u z B hva w=>exact⟨a',u,rfl,⟨z,hva⟩,⟨B,w⟩⟩
theorem FR.kB {es:Nat} {xs:List (List V)} {y:V} (r:FR H Z (.fsl es xs) y):y=.fsl es xs \/
 ∃id off ys,y=.hsl id es off xs.length/\Z id/\bl H id=some (es,ys)/\off+xs.length<=ys.length/\fM H Z xs ((ys.drop off).take xs.length):=by
 cases r with
 | same _ h=>grind
 | fsl _ _ id off ys z hr B hc hv=>
  refine .inr ⟨id,off,ys,rfl,z,hr,B,by simp;omega,λj u v hu w=>?_⟩
  have C  := (ζe.1 hu).1;rw[List.getElem?_take,if_pos C,List.getElem?_drop]at w;exact⟨hc j u v hu w,λi s t D G=>hv j i u v s t hu w D G⟩
theorem FR.HN {es:Nat} {xs:List (List V)} {id off:Nat} {ys:List (List V)} (B:Z id) (hr:bl H id=some (es,ys)) (D:off+xs.length<=ys.length) (h:fM H Z xs ((ys.drop off).take xs.length)) :
 FR H Z (.fsl es xs) (.hsl id es off xs.length):=by
 have key:∀(i:Nat) a b,xs[i]? = some a->ys[off+i]? = some b->dg H Z a b:=λi a b w z=>by
  refine h.2 i a b w ?_
  grind
 exact .fsl es xs id off ys B hr D (λi a b w z=>(key i a b w z).1) (λi j a b u v w z hu hv=>(key i a b w z).2 j u v hu hv)
theorem FR.kH {xs:List V} {y:V} (r:FR H Z (.fptr xs) y):y=.fptr xs \/
 ∃id el off es ys cs,y=.hptr id el off/\Z id/\bl H id=some (es,ys)/\ys[el]? = some cs/\off<=cs.length/\dg H Z xs (cs.drop off):=by
 cases r with
 | same _ h=>grind
 | fptr _ id el off es ys cs w hr z B D hv=>
  refine .inr ⟨id,el,off,es,ys,cs,rfl,w,hr,z,B,by simp_all,λj u v hu C=>?_⟩
  grind
theorem FR.BP {xs:List V} {id el off es:Nat} {ys:List (List V)} {cs:List V} (z:Z id) (hr:bl H id=some (es,ys)) (B:ys[el]? = some cs) (D:off<=cs.length) (h:dg H Z xs (cs.drop off)):FR H Z (.fptr xs) (.hptr id el off):=
 .fptr xs id el off es ys cs z hr B D (by have:=h.1;grind) (λj u v hu hv=>h.2 j u v hu Zd)
theorem FR.cells {x y:V} (r:FR H Z x y):dg H Z x.cells y.cells:=by
 have one:∀{a b:V},FR H Z a b->dg H Z [a] [b]:=λh=>.cons h .nil
 cases r with
 | same _ h=>cases x <;> first|exact one (.same _ h)|(exact dg.same h)
 | fsl es z id off B C hr G hc hv=>exact one (.fsl es z id off B C hr G hc hv)
 | fptr z id el off es B cs C hr I J L hv=>exact one (.fptr z id el off es B cs C hr I J L hv)
 | clo f a b w O u Q hva D=>exact one (.clo f a b w O u Q hva D)
 | agg a w u hva=>exact⟨u,hva⟩
 | tup a w u hva=>exact one (.tup a w u hva)
theorem FR.one {x y:V} (r:FR H Z x y):y.one=x.one:=by cases r <;> rfl
theorem dg.one:∀{xs ys:List V},dg H Z xs ys->ys.all V.one=xs.all V.one
 | [],ys,r=>by rw[r.c6]
 | x::xs,z,r=>by
  obtain⟨y,ys,rfl,h,u⟩:=r.inv;simp[h.one,u.one]
theorem oR:∀{l:List V},V.cF l=true↔∀(j:Nat) u,l[j]? = some u->u.scalar=true
 | []=>by simp[V.cF]
 | x::l=>by
  simp[V.cF,oR ];constructor
  .grind
  intro h;exact⟨h 0 x rfl,λj u hu=>h (j+1) u Zd⟩
theorem FR.scalar {x y:V} (r:FR H Z x y):(x.scalar=true->y=x)/\y.scalar=x.scalar:=by
 have key:∀(a w:List V),a.length=w.length->(∀(j:Nat) u v,a[j]? = some u->w[j]? = some v->(u.scalar=true->v=u)/\v.scalar=u.scalar)->(V.cF a=true->w=a)/\V.cF w=V.cF a:=by
  intro a w B G;have h1:V.cF a=true->w=a:=by
   intro I;refine(List.ext_getElem B λj h1 C=>?_).symm
   exact(((G j _ _ (ζd h1) (ζd C)).1 (oR.1 I j _ (ζd h1)))).symm
  refine⟨h1,?_⟩
  cases I:V.cF a with
  | true=>grind
  | false=>
   cases D:V.cF w with
   | false=>rfl
   | true=>
    have:V.cF a=true:=oR.2 λj u hu=>by
     have J:j<w.length:=by grind
     have:=(G j u _ hu (ζd J)).2;rw[<-this];exact oR.1 D j _ (ζd J)
    grind
 induction r with
 | same x h=>grind
 | fsl=>exact⟨λh=>by simp[V.scalar]at h,rfl⟩
 | fptr=>exact⟨λh=>by simp[V.scalar]at h,rfl⟩
 | clo=>exact⟨λh=>by simp[V.scalar]at h,rfl⟩
 | agg a w B hva z=>
  obtain⟨h1,C⟩:=key a w B z;exact⟨λh=>by rw[h1 (by simpa [V.scalar]using h)],by simpa [V.scalar]using C⟩
 | tup a w B hva z=>
  obtain⟨h1,C⟩:=key a w B z;exact⟨λh=>by rw[h1 (by simpa [V.scalar]using h)],by simpa [V.scalar]using C⟩
theorem dg.scalar {a a':List V} (r:dg H Z a a'):(V.cF a=true->a'=a)/\V.cF a'=V.cF a:=by
 obtain⟨h1,u⟩:=FR.scalar (.tup a a' r.1 r.2);simp[V.scalar]at h1 u
 grind
theorem o_:∀{l:List V} {a:List Int},gC l=some a->V.cF l=true
 | [],_,_=>rfl
 | x::l,a,h=>by
  unfold gC at h;split at h
  .grind
  next n r e=>cases e;obtain⟨b,u,_⟩:=ζf.1 h;simp[V.cF,V.scalar];exact o_ u
  grind
end
mutual
theorem jv:∀{x:V},x.scalar=true->x.good=true
 | .bool _,_|.int ..,_|.str _,_|.gp,_|.fL,_|.pR,_|.di,_|.bM,_=>rfl
 | .agg cs,h=>by simp only[V.scalar]at h;simp only[V.good];exact nH h
 | .tup cs,h=>by simp only[V.scalar]at h;simp only[V.good];exact nH h
 | .fsl ..,h|.hsl ..,h|.fptr ..,h|.hptr ..,h|.clo ..,h|.yld _,h|.fmap _,h|.hmap _,h=>by simp[V.scalar]at h
theorem nH:∀{l:List V},V.cF l=true->V.cH l=true
 | [],_=>rfl
 | x::r,h=>by
  simp only[V.cF,ζh]at h;simp only[V.cH,ζh];exact⟨jv h.1,nH h.2⟩
end
section
variable {H H':bf} {Z Z':Nat->Prop}
theorem jo {f:V->Option V}:∀{xs ys:List V},xs.length=ys.length->(∀(j:Nat) u v,xs[j]? = some u->ys[j]? = some v->f v=some u)->hG f ys=some xs
 | [],[],_,_=>rfl
 | [],y::ys,h,_=>by simp_all
 | x::xs,[],h,_=>by simp_all
 | x::xs,y::ys,h,z=>by
  simp[hG,z 0 x y rfl rfl,jo (xs:=xs) (ys:=ys) Zd λj u v hu hv=>z (j+1) u v Zd Zd]
theorem DZ {f:V->Option V}:∀{xs ys:List (List V)},xs.length=ys.length->(∀(j:Nat) u v,xs[j]? = some u->ys[j]? = some v->hG f v=some u)->j9 f ys=some xs
 | [],[],_,_=>rfl
 | [],y::ys,h,_=>by simp_all
 | x::xs,[],h,_=>by simp_all
 | x::xs,y::ys,h,z=>by
  simp[j9,z 0 x y rfl rfl,DZ (xs:=xs) (ys:=ys) Zd λj u v hu hv=>z (j+1) u v Zd Zd]
theorem nh:∀{l:List V},V.jG l=true↔∀(j:Nat) u,l[j]? = some u->u.closed=true
 | []=>by simp[V.jG]
 | x::l=>by
  simp[V.jG,nh ];constructor
  .grind
  intro h;exact⟨h 0 x rfl,λj u hu=>h (j+1) u Zd⟩
theorem lG:∀{l:List V} {n:Nat},V.j_ n l=true↔∀(j:Nat) u,l[j]? = some u->u.lvl n=true
 | [],n=>by simp[V.j_]
 | x::l,n=>by
  simp[V.j_,lG ];constructor
  .grind
  intro h;exact⟨h 0 x rfl,λj u hu=>h (j+1) u Zd⟩
theorem CU:∀{l:List (List V)} {n:Nat},V.nF n l=true↔∀(j:Nat) u,l[j]? = some u->V.j_ n u=true
 | [],n=>by simp[V.nF]
 | x::l,n=>by
  simp[V.nF,CU ];constructor
  .grind
  intro h;exact⟨h 0 x rfl,λj u hu=>h (j+1) u Zd⟩
theorem ei (n:Nat) (H:bf) {x:V} (h:x.closed=true):borrow n H x=some x:=kT n H h
theorem FR.borrow {x y:V} (r:FR H Z x y):∀n,x.lvl n=true->borrow n H y=some x:=by
 induction r with
 | same x h=>exact λn _=>ei n H (V.lQ h)
 | fsl es J id off U W hr X hc hv L=>
  intro n z
  cases n with
  | zero=>simp[V.lvl]at z
  | succ n=>
   unfold Go.VE.borrow;unfold bl at hr;simp only[V.closed,Bool.false_eq_true,if_false,hr,true_and,if_pos X,ζf];refine⟨J,DZ (by simp;omega) λj u v hu B=>?_,rfl⟩
   have Y  := (ζe.1 hu).1;rw[List.getElem?_take,if_pos Y,List.getElem?_drop]at B;refine jo (hc j u v hu B) λi s t Q ht=>L j i u v s t hu B Q ht n (lG.1 (CU.1 z j u hu) i s Q)
 | fptr J id el off es U cs W hr he ho hx hv L=>
  intro n z
  cases n with
  | zero=>simp[V.lvl]at z
  | succ n=>
   unfold Go.VE.borrow;unfold bl at hr;simp only[V.closed,Bool.false_eq_true,if_false,hr,he,if_pos ho,ζf];refine⟨J,jo (by simp_all) λj u v hu B=>?_,rfl⟩
   rw[List.getElem?_drop]at B;exact L j u v hu B n (lG.1 z j u hu)
 | clo f a b D S G T hva aa C I=>
  intro n z
  cases n with
  | zero=>simp[V.lvl]at z
  | succ n=>
   simp[V.lvl]at z
   by_cases w:(V.clo f D S).closed=true
   .rw[ei _ _ w];simp[V.closed]at w;have e1:D=a:=by
     have:=jo  G λj u v hu hv=>C j u v hu hv n (lG.1 z.1 j u hu)
     have O:=jo    rfl λj u v hu hv=>by rw[hu]at hv;cases hv;exact ei n H (nh.1 w.1 j u hu)
     grind
    have e2:S=b:=by
     have:=jo  T λj u v hu hv=>I j u v hu hv n (lG.1 z.2 j u hu)
     have O:=jo    rfl λj u v hu hv=>by rw[hu]at hv;cases hv;exact ei n H (nh.1 w.2 j u hu)
     grind
    simp_all
   unfold Go.VE.borrow;rw[if_neg w];simp[jo  G λj u v hu hv=>C j u v hu hv n (lG.1 z.1 j u hu),jo  T λj u v hu hv=>I j u v hu hv n (lG.1 z.2 j u hu)]
 | agg a D G hva C=>
  intro n z
  cases n with
  | zero=>simp[V.lvl]at z
  | succ n=>
   have hm:=jo  G λj u v hu hv=>C j u v hu hv n (lG.1 z j u hu)
   by_cases w:(V.agg D).closed=true
   .rw[ei _ _ w];have O:=jo    rfl λj u v hu hv=>by rw[hu]at hv;cases hv;exact ei n H (nh.1 w j u hu)
    grind
   unfold Go.VE.borrow
   grind
 | tup a D G hva C=>
  intro n z
  cases n with
  | zero=>simp[V.lvl]at z
  | succ n=>
   have hm:=jo  G λj u v hu hv=>C j u v hu hv n (lG.1 z j u hu)
   by_cases w:(V.tup D).closed=true
   .rw[ei _ _ w];have O:=jo    rfl λj u v hu hv=>by rw[hu]at hv;cases hv;exact ei n H (nh.1 w j u hu)
    grind
   unfold Go.VE.borrow
   grind
theorem nO {f:V->List Nat} {k:Nat}:∀{l:List V},k∈cD f l->∃(j:Nat) (u:V),l[j]? = some u/\k∈f u
 | [],h=>by simp[cD]at h
 | x::l,h=>by
  simp[cD]at h;rcases h with h|h
  .exact⟨0,x,rfl,h⟩
  obtain⟨j,u,hu,hk⟩:=nO h;exact⟨j+1,u,by grind,hk⟩
structure Deep (H:bf) (Z:Nat->Prop):Prop where
 row:∀id es ys,Z id->bl H id=some (es,ys)->∀c∈ys,∀u∈c,∃x,FR H Z x u
theorem FR.bR (hd:Deep H Z):∀(n:Nat) {x y:V},FR H Z x y->∀k∈bR n H y,Z k
 | 0,x,y,r,k,hk=>by simp[Go.VE.bR]at hk
 | n+1,x,y,r,k,hk=>by
  unfold Go.VE.bR at hk;split at hk
  .simp_all
  rename_i J;have G:∀(a a':List V),dg H Z a a'->k∈cD (Go.VE.bR n H) a'->Z k:=λa a' h hk=>by
   obtain⟨j,u,hu,z⟩:=nO hk;have S:j<a.length:=by rw[h.1];grind
   exact FR.bR hd n (h.2 j _ u (ζd S) hu) k z
  have row:∀(id:Nat) es w (l:List V),Z id->bl H id=some (es,w)->(∀u∈l,∃c∈w,u∈c)->k∈cD (Go.VE.bR n H) l->Z k:=λid es w l B hr L hk=>by
   obtain⟨j,u,hu,z⟩:=nO hk;obtain⟨c,hc,C⟩:=L u (List.mem_of_getElem? hu);obtain⟨x,O⟩:=hd.row id es w B hr c hc u C;exact FR.bR hd n O k z
  cases r with
  | same _ h=>exact absurd (V.lQ h) J
  | fsl es T id off w B hr L hc hv=>
   simp only[List.mem_cons]at hk;rcases hk with rfl|hk
   .exact B
   rw[show (H[id]?).bind Ob.rows=some (es,w)from hr]at hk;exact row id es w _ B hr (λu hu=>by obtain⟨c,hc,C⟩:=List.mem_flatten.1 hu;exact⟨c,List.mem_of_mem_drop (List.mem_of_mem_take hc),C⟩) hk
  | fptr T id el off es w cs B hr Q X O hv=>
   simp only[List.mem_cons]at hk;rcases hk with rfl|hk
   .exact B
   rw[show (H[id]?).bind Ob.rows=some (es,w)from hr]at hk;simp only[Q,Option.getD_some]at hk;exact row id es w _ B hr (λu hu=>⟨cs,List.mem_of_getElem? Q,List.mem_of_mem_drop hu⟩) hk
  | clo f a b a' U D W hva I=>
   simp  at hk;rcases hk with hk|hk
   .exact G a a' ⟨D,hva⟩ hk
   exact G b U ⟨W,I⟩ hk
  | agg a a' D hva=>exact G a a' ⟨D,hva⟩ hk
  | tup a a' D hva=>exact G a a' ⟨D,hva⟩ hk
theorem dg.cut {cs ys r:List V} {off n:Nat} (h:dg H Z cs ys) (hc:cut cs off n=some r):∃u,Go.VE.cut ys off n=some u/\dg H Z r u:=by
 unfold Go.VE.cut at hc ⊢;have w:=(h.drop off).take n;dsimp only at hc ⊢;split at hc
 .simp  at hc;subst hc;exact⟨_,by rw[if_pos (by rw[<-w.1];omega)],w⟩
 grind
theorem dg.mk {agg:Bool} {cs ys:List V} {x:V} (h:dg H Z cs ys) (u:mk agg cs=some x):∃y,Go.VE.mk agg ys=some y/\FR H Z x y:=by
 unfold Go.VE.mk at u ⊢;split at u
 .simp  at u;subst u;exact⟨_,by grind,.agg _ _ h.1 h.2⟩
 split at u
 .simp  at u;obtain⟨y,ys,rfl,h1,w⟩:=h.inv;rw[w.c6]
  grind
 grind
theorem dg.fill:∀{pl:List (Nat×Nat)} {vs u cells cells' r:List V},dg H Z cells cells'->dg H Z vs u->jw cells pl vs=some r->∃z,jw cells' pl u=some z/\dg H Z r z
 | [],vs,u,cells,cells',r,hc,hv,h=>by
  cases vs with
  | nil=>rw[hv.c6];simp[jw]at h ⊢;grind
  | cons v vs=>simp[jw]at h
 | (off,size)::pl,vs,u,cells,cells',r,hc,hv,h=>by
  cases vs with
  | nil=>simp[jw]at h
  | cons v vs=>
   obtain⟨w,u,rfl,h1,B⟩:=hv.inv;have k:=h1.cells;simp only[jw]at h ⊢;rw[<-k.1,<-hc.1];split at h
   .simp_all
   rename_i e;rw[if_neg e];exact dg.fill (((hc.take off).append k).append (hc.drop _)) B h
theorem FR.sF {k:KT} {x y B D:V} {b:Bool} (u:FR H Z x B) (z:FR H Z y D) (h:mW k x y=some b):mW k B D=some b:=by
 unfold mW at h;split at h
 .rw[u.bM,z.bM];exact h
 .rw[z.bM];rcases u.kB with rfl|⟨_,_,_,rfl,_⟩ <;> exact h
 .exact absurd u.closed (by simp[V.closed])
 .rw[u.gp,z.gp];exact h
 .rw[z.gp];rcases u.kH with rfl|⟨_,_,_,_,_,_,rfl,_⟩ <;> exact h
 .exact absurd u.closed (by simp[V.closed])
 .rw[u.fL,z.fL];exact h
 .rw[z.fL,u.fmap];exact h
 .exact absurd u.closed (by simp[V.closed])
 grind
theorem FR.jE {a b a' z:List V} {r:Bool} (B:dg H Z a a') (D:dg H Z b z) (h:jE a b=some r):Go.VE.jE a' z=some r:=by
 unfold Go.VE.jE at h;split at h
 .rename_i u v hu hv;rw[B.scalar.1 (o_ hu),D.scalar.1 (o_ hv)];unfold Go.VE.jE
  grind
 grind
theorem yT {k:KT} {x y:V} {b:Bool} (h:mW k x y=some b):(y=.bM/\(x=.bM\/(∃es xs,x=.fsl es xs)\/∃id es off len,x=.hsl id es off len)) \/
 (y=.gp/\(x=.gp\/(∃cs,x=.fptr cs)\/∃id el off,x=.hptr id el off))\/(y=.fL/\(x=.fL\/(∃u,x=.fmap u)\/∃id,x=.hmap id)):=by
 unfold mW at h
 grind
theorem FA {k:Option KT} {e:Option Nat} {op:BinOp} {x y:V} (z:(y=.bM/\(x=.bM\/(∃es xs,x=.fsl es xs)\/∃id es off len,x=.hsl id es off len)) \/
 (y=.gp/\(x=.gp\/(∃cs,x=.fptr cs)\/∃id el off,x=.hptr id el off))\/(y=.fL/\(x=.fL\/(∃u,x=.fmap u)\/∃id,x=.hmap id))) :
 j8 k e op x y=(match k,op with
 | some k,.eql=>(mW k x y).map .bool
 | some k,.neq=>(mW k x y).map λt=>.bool !t
 | _,_=>none):=by
 rcases z with⟨rfl,rfl|⟨_,_,rfl⟩|⟨_,_,_,_,rfl⟩⟩|⟨rfl,rfl|⟨_,rfl⟩|⟨_,_,_,rfl⟩⟩|⟨rfl,rfl|⟨_,rfl⟩|⟨_,rfl⟩⟩ <;> cases k <;> cases op <;> rfl
theorem Gi {k:Option KT} {e:Option Nat} {op:BinOp} {x y z:V} (h:j8 k e op x y=some z):z.good=true:=by
 have w:∀{o:Option Bool} {z:V},o.map V.bool=some z->z.good=true:=λh=>by obtain⟨_,_,rfl⟩:=ζf.1 h;rfl
 have u:∀{o:Option Bool} {z:V},(o.map λt=>V.bool !t)=some z->z.good=true:=λh=>by obtain⟨_,_,rfl⟩:=ζf.1 h;rfl
 unfold j8 at h
 (repeat' split at h) <;> first|(simp  at h;subst h;rfl)|exact w h|exact u h|simp at h
theorem FR.bin {k:Option KT} {e:Option Nat} {op:BinOp} {x y G J z:V} (B:FR H Z x G) (D:FR H Z y J) (h:j8 k e op x y=some z):j8 k e op G J=some z:=by
 have L:=h;unfold j8 at h;split at h
 .rw[B.int,D.int];omega
 .rw[B.str,D.str];omega
 .rw[B.bool,D.bool];omega
 .obtain⟨O,rfl,w⟩:=B.gF;obtain⟨Q,rfl,I⟩:=D.gF;split at h
  .split at h
   next C=>obtain⟨r,hr,rfl⟩:=ζf.1 h;simp[j8,<-w.1,C,FR.jE w I hr]
   grind
  .split at h
   next C=>obtain⟨r,hr,rfl⟩:=ζf.1 h;simp[j8,<-w.1,C,FR.jE w I hr]
   grind
  grind
 split at h
 .obtain⟨r,hr,rfl⟩:=ζf.1 h;have u:=FR.sF B D hr;rw[FA (yT u)];grind
 .obtain⟨r,hr,rfl⟩:=ζf.1 h;have u:=FR.sF B D hr;rw[FA (yT u)];grind
 grind
theorem FR.slice {size:Nat} {x J z:V} {l h:Option Int} (D:FR H Z x J) (B:gL size x l h=some z):∃T,gL size J l h=some T/\FR H Z z T:=by
 have G:∀{n lo hi:Nat},dM n l h=some (lo,hi)->hi<=n/\lo<=hi:=by
  intro n lo hi e;unfold dM at e
  grind
 unfold gL at B;split at B
 .rename_i es I;split at B
  .rename_i L;obtain⟨⟨lo,hi⟩,w,rfl⟩:=ζf.1 B;obtain⟨Q,W⟩:=G w;rcases D.kB with rfl|⟨id,off,O,rfl,S,hr,X,U⟩
   .refine⟨_,by simp[gL,if_pos L,w],.same _ ?_⟩
    have hg:=D.good;refine kg.2 λj u hu=>?_
    rw[List.getElem?_drop,List.getElem?_take]at hu;split at hu
    .exact kg.1 hg _ u hu
    grind
   refine⟨.hsl id es (off+lo) (hi-lo),by simp[gL,if_pos L,w],?_⟩
   have C:((I.take hi).drop lo).length=hi-lo:=by simp_all
   rw[<-C];refine FR.HN S hr Zd ?_
   have:=(U.take hi).drop lo;have e:List.drop lo (List.take hi (List.take I.length (List.drop off O)))=List.take (hi-lo) (List.drop (off+lo) O):=by
    rw[List.take_take,Nat.min_eq_left Q,List.drop_take,List.drop_drop]
   grind
  grind
 .exact absurd D.closed (by simp[V.closed])
 .rw[D.di];obtain⟨_,w,rfl⟩:=ζf.1 B;exact⟨.di,by simp[gL,w],.same _ rfl⟩
 .rw[D.bM];obtain⟨_,w,rfl⟩:=ζf.1 B;exact⟨.bM,by simp[gL,w],.same _ rfl⟩
 grind
theorem dg.lI {lo hi:Bool} {B z:List V} {r:Option Int×Option Int} (h:dg H Z B z) (u:lI lo hi B=some r):Go.VE.lI lo hi z=some r:=by
 unfold Go.VE.lI at u;split at u
 .rw[h.c6];exact u
 .obtain⟨_,_,rfl,h1,w⟩:=h.inv;rw[h1.int,w.c6];exact u
 .obtain⟨_,_,rfl,h1,w⟩:=h.inv;rw[h1.int,w.c6];exact u
 .obtain⟨_,_,rfl,h1,w⟩:=h.inv;obtain⟨_,_,rfl,C,D⟩:=w.inv;rw[h1.int,C.int,D.c6];exact u
 grind
theorem dg.bq {N:Nat->FuncId} {p:sZ} {xs ys:List V} {z:V} (Y:∀zero pl,p=.build zero pl->V.cH zero=true) (h:dg H Z xs ys) (hp:bq N p xs=some z):∃T,Go.VE.bq N p ys=some T/\FR H Z z T:=by
 unfold Go.VE.bq at hp;split at hp
 .
  obtain⟨y,_,rfl,h1,w⟩:=h.inv;rw[w.c6];simp only[ζa]at hp;subst hp;exact⟨y,rfl,h1⟩
 .
  rename_i t a b;obtain⟨w1,_,rfl,h1,w⟩:=h.inv;obtain⟨w2,_,rfl,B,C⟩:=w.inv;obtain⟨w3,_,rfl,S,U⟩:=C.inv;rw[h1.bool,U.c6];simp only[ζa]at hp;subst hp;refine⟨if t=true then w2 else w3,rfl,?_⟩;cases t
  .exact S
  exact B
 .
  obtain⟨y,_,rfl,h1,w⟩:=h.inv;rw[w.c6];unfold HJ at hp;split at hp
  .exact absurd h1.closed (by simp[V.closed])
  .simp only[ζa]at hp;subst hp;rcases h1.kH with rfl|⟨_,_,_,_,_,_,rfl,_⟩
   .exact⟨_,rfl,h1⟩
   exact⟨_,rfl,h1⟩
  .simp only[ζa]at hp;subst hp;obtain⟨_,_,rfl,_⟩:=h1.jJ;exact⟨_,rfl,h1⟩
  simp at hp
 .
  obtain⟨_,_,rfl,h1,w⟩:=h.inv;obtain⟨_,_,rfl,B,C⟩:=w.inv;rw[C.c6];exact⟨z,FR.bin h1 B hp,.same _ (Gi hp)⟩
 .obtain⟨_,_,rfl,h1,w⟩:=h.inv;rw[h1.bool,w.c6];simp only[ζa]at hp;subst hp;exact⟨_,rfl,.same _ rfl⟩
 .obtain⟨_,_,rfl,h1,w⟩:=h.inv;rw[h1.int,w.c6];simp only[ζa]at hp;subst hp;exact⟨_,rfl,.same _ rfl⟩
 .obtain⟨_,_,rfl,h1,w⟩:=h.inv;rw[h1.int,w.c6];simp only[ζa]at hp;subst hp;exact⟨_,rfl,.same _ rfl⟩
 .
  rename_i off p;obtain⟨y,_,rfl,h1,w⟩:=h.inv;rw[w.c6];unfold kW at hp;split at hp
  .split at hp
   .rename_i cs X;simp only[ζa]at hp;subst hp;rcases h1.kH with rfl|⟨id,el,o,es,ys,ds,rfl,W,hr,Q,aa,O⟩
    .have hg:=h1.good;simp only[V.good]at hg;exact⟨_,by simp only[Go.VE.bq,kW,if_pos X],.same _ (by simp only[V.good];exact we _ hg)⟩
    refine⟨.hptr id el (o+off),rfl,FR.BP W hr Q (by have:=O.1;simp at this;omega) ?_⟩
    have:=O.drop off;rw[List.drop_drop]at this;exact this
   simp at hp
  .exact absurd h1.closed (by simp[V.closed])
  simp at hp
 .
  rename_i off size agg cs;obtain⟨y,_,rfl,h1,w⟩:=h.inv;rw[w.c6];obtain⟨ab,rfl,hc⟩:=h1.gF;obtain⟨r,hr,hm⟩:=ζg.1 hp;obtain⟨r',J,I⟩:=hc.cut hr;obtain⟨T,D,G⟩:=I.mk hm;exact⟨T,by simp only[Go.VE.bq,J,ζb,D],G⟩
 .
  rename_i size s k n;obtain⟨y,_,rfl,h1,w⟩:=h.inv;obtain⟨_,_,rfl,B,C⟩:=w.inv;rw[B.int,C.c6];unfold kK at hp;split at hp
  .simp at hp
  rename_i L;split at hp
  .rename_i es xs;split at hp
   .rename_i Q;obtain⟨c,hc,rfl⟩:=ζf.1 hp;rcases h1.kB with rfl|⟨id,off,ys,rfl,W,hr,hl,O⟩
    .have hg:=h1.good;simp only[V.good]at hg;exact⟨_,by simp only[Go.VE.bq,kK,if_neg L,if_pos Q,hc,Option.map_some],.same _ (by simp only[V.good];exact kg.1 hg _ _ hc)⟩
    have hj:n.toNat<xs.length:=(ζe.1 hc).1;obtain⟨d,hd,ad⟩:=O.get hc;rw[List.getElem?_take,if_pos hj,List.getElem?_drop]at hd;exact⟨.hptr id (off+n.toNat) 0,by simp only[Go.VE.bq,kK,if_neg L,if_pos (And.intro Q hj)],FR.BP W hr hd Zc (by simpa using ad)⟩
   simp at hp
  .exact absurd h1.closed (by simp[V.closed])
  simp at hp
 .
  rename_i len size s k n;obtain⟨y,_,rfl,h1,w⟩:=h.inv;obtain⟨_,_,rfl,B,C⟩:=w.inv;rw[B.int,C.c6];unfold uZ at hp;split at hp
  .rename_i L;split at hp
   .split at hp
    .rename_i cs X;simp only[ζa]at hp;subst hp;rcases h1.kH with rfl|⟨id,el,o,es,ys,ds,rfl,W,hr,Q,aa,O⟩
     .have hg:=h1.good;simp only[V.good]at hg;exact⟨_,by simp only[Go.VE.bq,uZ,if_pos L,if_pos X],.same _ (by simp only[V.good];exact we _ hg)⟩
     refine⟨.hptr id el (o+n.toNat*size),by simp only[Go.VE.bq,uZ,if_pos L],FR.BP W hr Q (by have:=O.1;simp at this;omega) ?_⟩
     have:=O.drop (n.toNat*size);rw[List.drop_drop]at this;exact this
    simp at hp
   .exact absurd h1.closed (by simp[V.closed])
   simp at hp
  simp at hp
 .
  rename_i s k n;obtain⟨y,_,rfl,h1,w⟩:=h.inv;obtain⟨_,_,rfl,B,C⟩:=w.inv;rw[h1.str,B.int,C.c6];split at hp
  next L=>obtain⟨c,hc,rfl⟩:=ζf.1 hp;exact⟨_,by simp only[Go.VE.bq,if_pos L,hc,Option.map_some],.same _ rfl⟩
  simp at hp
 .
  rename_i len size agg cs k n;obtain⟨y,_,rfl,h1,w⟩:=h.inv;obtain⟨_,_,rfl,B,C⟩:=w.inv;rw[B.int,C.c6];obtain⟨ab,rfl,hc⟩:=h1.gF;split at hp
  next L=>obtain⟨r,hr,hm⟩:=ζg.1 hp;obtain⟨r',J,I⟩:=hc.cut hr;obtain⟨T,D,G⟩:=I.mk hm;exact⟨T,by simp only[Go.VE.bq,if_pos L,J,ζb,D],G⟩
  simp at hp
 .
  rename_i lo hi s bs;obtain⟨y,_,rfl,h1,w⟩:=h.inv;rw[h1.str];obtain⟨⟨l,h'⟩,hb,hp⟩:=ζg.1 hp;obtain⟨⟨l2,af⟩,ae,rfl⟩:=ζf.1 hp;exact⟨_,by simp only[Go.VE.bq,w.lI hb,ζb,ae,Option.map_some],.same _ rfl⟩
 .
  rename_i size lo hi s bs;obtain⟨y,_,rfl,h1,w⟩:=h.inv;obtain⟨⟨l,h'⟩,hb,hp⟩:=ζg.1 hp;obtain⟨T,D,G⟩:=FR.slice h1 hp;exact⟨T,by simp only[Go.VE.bq,w.lI hb,ζb,D],G⟩
 .
  obtain⟨y,_,rfl,h1,w⟩:=h.inv;obtain⟨_,_,rfl,B,C⟩:=w.inv;obtain⟨_,_,rfl,S,U⟩:=C.inv;rw[B.int,S.int,U.c6];split at hp
  .rename_i hc;simp only[ζa]at hp;subst hp;refine⟨.di,?_,.same _ rfl⟩;simp only[ζh]at hc;have:HW y=true:=by
    have h0:=hc.1.1;unfold HW at h0;split at h0
    .rcases h1.kB with rfl|⟨_,_,_,rfl,_⟩ <;> rfl
    .exact absurd h1.closed (by simp[V.closed])
    .rw[h1.di];rfl
    .rw[h1.bM];rfl
    simp at h0
   simp only[Go.VE.bq,this,hc.1.2,hc.2,Bool.and_self,if_true]
  simp at hp
 .
  rename_i vs zero pl;obtain⟨r,hr,rfl⟩:=ζf.1 hp;obtain⟨r',J,I⟩:=dg.fill (dg.same (Y zero pl rfl)) h hr;exact⟨.agg r',by simp only[Go.VE.bq,J,Option.map_some],.agg _ _ I.1 I.2⟩
 .
  rename_i vs name k;simp only[ζa]at hp;subst hp;exact⟨_,rfl,.clo _ _ _ _ _ (h.take k).1 (h.drop k).1 (h.take k).2 (h.drop k).2⟩
 .
  rename_i i vs;obtain⟨y,_,rfl,h1,w⟩:=h.inv;rw[w.c6];obtain⟨ws,rfl,hw⟩:=h1.oF;obtain⟨T,D,G⟩:=hw.get hp;exact⟨T,D,G⟩
 .
  obtain⟨y,_,rfl,h1,w⟩:=h.inv;rw[h1.str,w.c6];simp only[ζa]at hp;subst hp;exact⟨_,rfl,.same _ rfl⟩
 .
  obtain⟨y,_,rfl,h1,w⟩:=h.inv;rw[w.c6];unfold o4 at hp;split at hp
  .simp only[ζa]at hp;subst hp;rcases h1.kB with rfl|⟨_,_,_,rfl,_⟩ <;> exact⟨_,rfl,.same _ rfl⟩
  .exact absurd h1.closed (by simp[V.closed])
  .rw[h1.di];simp only[ζa]at hp;subst hp;exact⟨_,rfl,.same _ rfl⟩
  .rw[h1.bM];simp only[ζa]at hp;subst hp;exact⟨_,rfl,.same _ rfl⟩
  simp at hp
 .
  obtain⟨y,_,rfl,h1,w⟩:=h.inv;rw[w.c6];unfold MP at hp;split at hp
  .rw[h1.bM];simp only[ζa]at hp;subst hp;exact⟨_,rfl,.same _ rfl⟩
  .rw[h1.di];simp only[ζa]at hp;subst hp;exact⟨_,rfl,.same _ rfl⟩
  simp at hp
 .
  obtain⟨_,_,rfl,h1,w⟩:=h.inv;obtain⟨_,_,rfl,B,C⟩:=w.inv;rw[h1.int,B.int,C.c6];split at hp
  next e=>simp only[ζa]at hp;subst hp;exact⟨_,by simp only[Go.VE.bq,if_pos e],.same _ rfl⟩
  simp at hp
 .
  obtain⟨_,_,rfl,h1,w⟩:=h.inv;obtain⟨_,_,rfl,B,C⟩:=w.inv;obtain⟨_,_,rfl,S,U⟩:=C.inv;obtain⟨_,_,rfl,h7,h8⟩:=U.inv;rw[h1.int,B.int,S.int,h7.int,h8.c6];split at hp
  next e=>simp only[ζa]at hp;subst hp;exact⟨_,by simp only[Go.VE.bq,if_pos e],.same _ rfl⟩
  simp at hp
 .
  obtain⟨_,_,rfl,h1,w⟩:=h.inv;obtain⟨_,_,rfl,B,C⟩:=w.inv;rw[h1.int,B.int,C.c6];split at hp
  next e=>simp only[ζa]at hp;subst hp;exact⟨_,by simp only[Go.VE.bq,if_pos e],.same _ rfl⟩
  simp at hp
 .
  obtain⟨_,_,rfl,h1,w⟩:=h.inv;obtain⟨_,_,rfl,B,C⟩:=w.inv;rw[h1.int,B.int,C.c6];split at hp
  .rename_i e;simp only[ζa]at hp;subst hp;refine⟨_,by simp only[Go.VE.bq,if_pos e],.same _ ?_⟩
   simp only[V.good];refine kg.2 λj u hu=>?_
   have:=List.eq_of_mem_replicate (List.mem_of_getElem? hu);subst this;exact iE.2 λi v hv=>jv (List.all_eq_true.1 e.2.2.2.2.2 v (List.mem_of_getElem? hv))
  simp at hp
 .simp only[ζa]at hp;subst hp;rw[h.c6];exact⟨_,rfl,.same _ rfl⟩
 simp at hp
end
def qC (p:Nat×Nat) (k:Fl) (es len:Nat):V:=
 match k with
 | .nil=>.bM
 | .emp=>.di
 | _=>.hsl p.1 es p.2 len
abbrev Nu:=Nat->Nat×Nat
inductive cR (ν:Nu) (m:Tb bB) (H:bf) (Z:Nat->Prop):SV->V->Prop
 | v (x y:V) (h:FR H Z x y):cR ν m H Z (.v x) y
 | own (d:Nat) (y:V) (h:∀ob,a_ m d=some ob->∃k es xs,ob=.sl k es xs/\y=qC (ν d) k es xs.length):cR ν m H Z (.own d) y
 | ptr (d o:Nat) (y:V) (h:∀ob,a_ m d=some ob->∃cs,ob=.box cs/\y=.hptr (ν d).1 0 o):cR ν m H Z (.ptr d o) y
 | el (d i o:Nat) (y:V) (h:∀ob,a_ m d=some ob->∃k es xs,ob=.sl k es xs/\cI k=true/\y=.hptr (ν d).1 ((ν d).2+i) o):cR ν m H Z (.el d i o) y
 | mp (d:Nat) (y:V) (h:∀ob,a_ m d=some ob->∃kvs,ob=.mp kvs/\y=.hmap (ν d).1):cR ν m H Z (.mp d) y
 | clo (f:FuncId) (a b:List SV) (a' b':List V) (ha:a.length=a'.length) (hb:b.length=b'.length)
  (hva:∀(j:Nat) u v,a[j]? = some u->a'[j]? = some v->cR ν m H Z u v) (hvb:∀(j:Nat) u v,b[j]? = some u->b'[j]? = some v->cR ν m H Z u v):cR ν m H Z (.clo f a b) (.clo f a' b')
 | tup (a:List SV) (a':List V) (ha:a.length=a'.length) (hva:∀(j:Nat) u v,a[j]? = some u->a'[j]? = some v->cR ν m H Z u v):cR ν m H Z (.tup a) (.tup a')
 | agg (a:List SV) (a':List V) (ha:a.length=a'.length) (hva:∀(j:Nat) u v,a[j]? = some u->a'[j]? = some v->cR ν m H Z u v):cR ν m H Z (.agg a) (.agg a')
 | yl (id:Nat):cR ν m H Z (.yl id) (.yld id)
def bO (ν:Nu) (m:Tb bB) (H:bf) (Z:Nat->Prop) (xs:List SV) (ys:List V):Prop:=xs.length=ys.length/\∀(j:Nat) u v,xs[j]? = some u->ys[j]? = some v->cR ν m H Z u v
def cg:bB->Bool
 | .sl k _ _=>cI k
 | _=>true
def eM (ν:Nu) (m:Tb bB) (id:Nat):Prop:=∃d ob,a_ m d=some ob/\cg ob=true/\(ν d).1=id
def tg (H:bf) (Z:Nat->Prop) (ys:List (List V)):Prop:=∀c∈ys,∀u∈c,∃x,FR H Z x u
def Bh (H:bf) (Z:Nat->Prop) (a b:List (V×V)):Prop:=a.length=b.length/\∀(j:Nat) u v,a[j]? = some u->b[j]? = some v->(u.1=v.1/\u.1.scalar=true)/\FR H Z u.2 v.2
def dK (ν:Nu) (m:Tb bB) (H:bf) (Z:Nat->Prop) (d:Nat):bB->Prop
 | .sl k es xs=>if cI k then ∃ys,H[(ν d).1]? = some (.row es ys)/\(ν d).2+xs.length<=ys.length/\fM H Z xs ((ys.drop (ν d).2).take xs.length)/\tg H Z ys/\(k=.row->(ν d).2=0/\ys.length=xs.length)
  else xs=[]
 | .box cs=>∃es z,H[(ν d).1]? = some (.row es [z])/\bO ν m H Z cs z/\z.all V.one=true
 | .mp B=>∃u,H[(ν d).1]? = some (.map u)/\Bh H Z B u
structure R (ν:Nu) (Z:Nat->Prop) (st:St) (F:Frame) (H:bf):Prop where
 slot:∀s sv,a_ st.g s=some sv->cR ν st.m H Z sv (get F s)
 obj:∀d ob,a_ st.m d=some ob->dK ν st.m H Z d ob
 inj:∀d d' ob ob',a_ st.m d=some ob->a_ st.m d'=some ob'->cg ob=true->cg ob'=true->(ν d).1=(ν d').1->d=d'
 apart:∀d ob,a_ st.m d=some ob->cg ob=true->¬Z (ν d).1
 zrow:∀id,Z id->(bl H id).isSome=true
 deep:Deep H Z
def sameShape:bB->bB->Prop
 | .sl k es xs,.sl B u z=>B=k/\u=es/\z.length=xs.length
 | .box _,.box _=>True
 | .mp _,.mp _=>True
 | _,_=>False
theorem sameShape.refl (o:bB):sameShape o o:=by cases o <;> simp[sameShape]
theorem sameShape.trans {a b c:bB} (h:sameShape a b) (k:sameShape b c):sameShape a c:=by
 cases a <;> cases b <;> cases c <;> simp[sameShape]at*<;> simp_all
structure Ev (Rv:Nat->Prop) (ν:Nu) (Z:Nat->Prop) (st:St) (H:bf) (ν':Nu) (Z':Nat->Prop) (st':St) (H':bf):Prop where
 len:H.length<=H'.length
 same:∀id,id<H.length->¬eM ν st.m id->¬Z id->¬Rv id->H'[id]? = H[id]?
 rows:∀id,Z id->Z' id/\bl H' id=bl H id
 own:∀id,eM ν' st'.m id->eM ν st.m id\/Rv id\/H.length<=id
 frz:∀id,Z' id->Z id\/eM ν st.m id\/Rv id\/H.length<=id
 pin:∀d∈st.pin,∀ob',a_ st'.m d=some ob'->∃ob,a_ st.m d=some ob/\ν' d=ν d/\sameShape ob ob'
 pins:st'.pin=st.pin
section
variable {Rv Rv':Nat->Prop} {ν ν' ν2:Nu} {Z Z' Z2:Nat->Prop} {st st' st2:St} {m m':Tb bB} {F F':Frame} {H H' H2:bf}
theorem Ev.refl:Ev Rv ν Z st H ν Z st H:=
 ⟨Nat.le_refl _,λ_ _ _ _ _=>rfl,λ_ h=>⟨h,rfl⟩,λ_ h=>.inl h,λ_ h=>.inl h,λ_ _ u h=>⟨u,h,rfl,.refl _⟩,rfl⟩
theorem Ev.trans (a:Ev Rv ν Z st H ν' Z' st' H') (b:Ev Rv ν' Z' st' H' ν2 Z2 st2 H2):Ev Rv ν Z st H ν2 Z2 st2 H2 where
 len:=Nat.le_trans a.len b.len
 same:=λid B u C hr=>by
  rw[b.same id (Nat.lt_of_lt_of_le B a.len) (λh=>(a.own id h).elim u λh=>h.elim hr λh=>by omega) (λh=>(a.frz id h).elim C λh=>h.elim u λh=>h.elim hr λh=>by omega) hr,a.same id B u C hr]
 rows:=λid h=>⟨(b.rows id (a.rows id h).1).1,by rw[(b.rows id (a.rows id h).1).2,(a.rows id h).2]⟩
 own:=λid h=>by
  rcases b.own id h with h|h|h
  .exact a.own id h
  .grind
  exact .inr (.inr (Nat.le_trans a.len h))
 frz:=λid h=>by
  rcases b.frz id h with h|h|h|h
  .exact a.frz id h
  .rcases a.own id h with h|h|h
   .grind
   .grind
   grind
  .grind
  exact .inr (.inr (.inr (Nat.le_trans a.len h)))
 pin:=λd hd w h=>by
  obtain⟨z,h1,I,D⟩:=b.pin d (by rw[a.pins];omega) w h
  obtain⟨ob,k1,J,G⟩:=a.pin d hd z h1;exact⟨ob,k1,by simp_all,G.trans D⟩
 pins:=by rw[b.pins,a.pins]
theorem Ev.weak (h:∀id,Rv id->Rv' id) (a:Ev Rv ν Z st H ν' Z' st' H'):Ev Rv' ν Z st H ν' Z' st' H':=
 ⟨a.len,λid u w z hr=>a.same id u w z (λk=>hr (h id k)),a.rows,λid k=>(a.own id k).imp (λx=>x) (.imp (h id) (λx=>x)),λid k=>(a.frz id k).imp (λx=>x) (.imp (λx=>x) (.imp (h id) (λx=>x))),a.pin,a.pins⟩
theorem cq {α:Type}:∀(g:Tb α) (n:Nat) (v:α),a_ (bH g n v) n=some v
 | [],n,v=>by simp[bH,a_]
 | (k,x)::r,n,v=>by
  simp[bH];split
  next h=>simp[a_,h]
  rename_i h;simp[a_,h,cq r n v]
theorem dD {α:Type}:∀(g:Tb α) {n k:Nat} (v:α),n≠k->a_ (bH g n v) k=a_ g k
 | [],n,k,v,h=>by simp[bH,a_,h]
 | (j,x)::r,n,k,v,h=>by
  simp[bH];split
  next hk=>subst hk;simp[a_,h]
  simp[a_];split
  .rfl
  exact dD r v h
theorem nX {α:Type}:∀{g:Tb α} {n:Nat} {v:α},a_ g n=some v->bH g n v=g
 | [],n,v,h=>by cases h
 | (k,x)::r,n,v,h=>by
  simp[a_]at h;simp[bH];split
  .grind
  rename_i e;rw[if_neg e]at h;rw[nX h]
theorem tU {α:Type}:∀(g:Tb α) (n:Nat),a_ (dQ n g) n=none
 | [],n=>rfl
 | (k,x)::r,n=>by
  simp[dQ];split
  .exact tU r n
  rename_i hk;simp[a_];rw[if_neg hk];exact tU r n
theorem ua {α:Type}:∀(g:Tb α) {n k:Nat},n≠k->a_ (dQ n g) k=a_ g k
 | [],n,k,h=>rfl
 | (j,x)::r,n,k,h=>by
  simp[dQ];split
  next hk=>subst hk;simp[a_];rw[if_neg h];exact ua r h
  simp[a_];split
  .rfl
  exact ua r h
theorem mE {α:Type} {g:Tb α} {n k:Nat} {v:α} (h:a_ (dQ n g) k=some v):n≠k/\a_ g k=some v:=by
 by_cases e:n=k
 .subst e;rw[tU]at h;simp_all
 rw[ua g e]at h;grind
theorem mO {α:Type} {k:Nat} {v:α}:∀{ds:List Nat} {g:Tb α},a_ (nE ds g) k=some v->a_ g k=some v
 | [],_,h=>h
 | d::ds,g,h=>(mE (mO  h)).2
theorem ow {α:Type} {g:Tb α} {k:Nat} {v:α}:∀{l:List Nat} {r:Tb α},iV g l=some r->a_ r k=some v->a_ g k=some v
 | [],r,h,u=>by simp[iV]at h;subst h;simp[a_]at u
 | n::l,r,h,u=>by
  simp[iV]at h;split at h
  .rename_i w t B z;simp  at h;subst h;simp[a_]at u;split at u
   .grind
   exact ow z u
  grind
theorem wU {d:Nat}:∀{g:Tb SV} {s:Nat} {sv:SV},tu d g=false->a_ g s=some sv->sv.cG d=false
 | [],_,_,_,h=>by simp[a_]at h
 | (k,x)::r,s,sv,h,u=>by
  simp[tu]at h;simp[a_]at u;split at u
  .grind
  exact wU h.2 u
theorem wP {d:Nat}:∀{g:Tb bB} {s:Nat} {ob:bB},qw d g=false->a_ g s=some ob->ob.cG d=false
 | [],_,_,_,h=>by simp[a_]at h
 | (k,x)::r,s,sv,h,u=>by
  simp[qw]at h;simp[a_]at u;split at u
  .grind
  exact wP h.2 u
theorem rC {d:Nat}:∀{l:List SV} {j:Nat} {u:SV},SV.dh d l=false->l[j]? = some u->u.cG d=false
 | [],_,_,_,h=>by simp_all
 | x::r,j,u,h,z=>by
  simp[SV.dh]at h
  cases j with
  | zero=>grind
  | succ j=>exact rC h.2 (by simpa using z)
theorem pZ {d:Nat}:∀{l:List SV} {j:Nat} {u:SV},l[j]? = some u->u.cG d=true->SV.dh d l=true
 | [],_,_,h,_=>by simp_all
 | x::r,j,u,h,z=>by
  simp[SV.dh]
  cases j with
  | zero=>grind
  | succ j=>exact .inr (pZ (j:=j) Zd z)
theorem cR.mono {sv:SV} {y:V} (T:∀id,Z id->Z' id/\bl H' id=bl H id)
 (r:cR ν m H Z sv y) (z:∀d,sv.cG d=true->∀ob',a_ m' d=some ob'->∃ob,a_ m d=some ob/\ν' d=ν d/\sameShape ob ob'):cR ν' m' H' Z' sv y:=by
 induction r with
 | v x y h=>exact .v x y (h.mono T)
 | own d y h=>
  refine .own d y λob' B=>?_
  obtain⟨ob,h1,I,C⟩:=z d (by simp[SV.cG]) ob' B
  obtain⟨k,es,L,rfl,rfl⟩:=h ob h1;cases ob' <;> simp[sameShape]at C
  grind
 | ptr d o y h=>
  refine .ptr d o y λob' B=>?_
  obtain⟨ob,h1,I,C⟩:=z d (by simp[SV.cG]) ob' B
  obtain⟨cs,rfl,rfl⟩:=h ob h1;cases ob' <;> simp[sameShape]at C
  grind
 | el d i o y h=>
  refine .el d i o y λob' B=>?_
  obtain⟨ob,h1,I,C⟩:=z d (by simp[SV.cG]) ob' B
  obtain⟨k,es,L,rfl,U,rfl⟩:=h ob h1;cases ob' <;> simp[sameShape]at C
  grind
 | mp d y h=>
  refine .mp d y λob' B=>?_
  obtain⟨ob,h1,I,C⟩:=z d (by simp[SV.cG]) ob' B
  obtain⟨cs,rfl,rfl⟩:=h ob h1;cases ob' <;> simp[sameShape]at C
  grind
 | clo f a b D O G Q hva S w J=>
  exact .clo f a b D O G Q (λj u v hu hv=>w j u v hu hv λd hd=>z d (by simp[SV.cG,pZ hu hd])) (λj u v hu hv=>J j u v hu hv λd hd=>z d (by simp[SV.cG,pZ hu hd]))
 | tup a D G hva w=>
  exact .tup a D G (λj u v hu hv=>w j u v hu hv λd hd=>z d (by simp[SV.cG,pZ hu hd]))
 | agg a D G hva w=>
  exact .agg a D G (λj u v hu hv=>w j u v hu hv λd hd=>z d (by simp[SV.cG,pZ hu hd]))
 | yl id=>exact .yl id
theorem bO.mono {sv:List SV} {y:List V} (z:∀id,Z id->Z' id/\bl H' id=bl H id)
 (r:bO ν m H Z sv y) (B:∀d,SV.dh d sv=true->∀ob',a_ m' d=some ob'->∃ob,a_ m d=some ob/\ν' d=ν d/\sameShape ob ob'):bO ν' m' H' Z' sv y:=
 ⟨r.1,λj u v hu hv=>(r.2 j u v hu hv).mono z λd hd=>B d (pZ hu hd)⟩
theorem bO.nil:bO ν m H Z [] []:=⟨rfl,by simp⟩
theorem bO.cons {x:SV} {y:V} {xs:List SV} {ys:List V} (h:cR ν m H Z x y) (r:bO ν m H Z xs ys):bO ν m H Z (x::xs) (y::ys):=by
 refine⟨by simp[r.1],λj u v hu hv=>?_⟩
 cases j with
 | zero=>grind
 | succ j=>exact r.2 j u v Zd Zd
theorem bO.inv {x:SV} {xs:List SV} {z:List V} (r:bO ν m H Z (x::xs) z):∃y ys,z=y::ys/\cR ν m H Z x y/\bO ν m H Z xs ys:=by
 cases z with
 | nil=>have:=r.1;grind
 | cons y ys=>
  refine⟨y,ys,rfl,r.2 0 x y rfl rfl,by have:=r.1;grind,λj u v hu hv=>r.2 (j+1) u v Zd Zd⟩
theorem bO.c6 {u:List V} (r:bO ν m H Z [] u):u=[]:=by
 have:=r.1
 grind
theorem bO.get {xs:List SV} {ys:List V} (r:bO ν m H Z xs ys) {j:Nat} {u:SV} (h:xs[j]? = some u):∃v,ys[j]? = some v/\cR ν m H Z u v:=by
 have w  := (ζe.1 h).1;have:j<ys.length:=by rw[<-r.1];omega
 exact⟨ys[j],ζd this,r.2 j u _ h (ζd this)⟩
theorem bO.append {a c:List SV} {b d:List V} (h:bO ν m H Z a b) (k:bO ν m H Z c d):bO ν m H Z (a++c) (b++d):=by
 refine⟨by simp[h.1,k.1],λj u v hu hv=>?_⟩
 by_cases w:j<a.length
 .rw[List.getElem?_append_left w]at hu;rw[List.getElem?_append_left (by rw[<-h.1];omega)]at hv
  exact h.2 j u v hu hv
 rw[List.getElem?_append_right Za]at hu
 rw[List.getElem?_append_right (by rw[<-h.1];omega),<-h.1]at hv
 exact k.2 _ u v hu hv
theorem bO.take {a:List SV} {b:List V} (h:bO ν m H Z a b) (n:Nat):bO ν m H Z (a.take n) (b.take n):=by
 refine⟨by simp[h.1],λj u v hu hv=>?_⟩
 rw[List.getElem?_take]at hu hv;split at hu
 next w=>rw[if_pos w]at hv;exact h.2 j u v hu hv
 grind
theorem bO.drop {a:List SV} {b:List V} (h:bO ν m H Z a b) (n:Nat):bO ν m H Z (a.drop n) (b.drop n):=by
 refine⟨by simp[h.1],λj u v hu hv=>?_⟩
 rw[List.getElem?_drop]at hu hv;exact h.2 _ u v hu hv
theorem cR.fr {x y:V} (r:cR ν m H Z (.v x) y):FR H Z x y:=by cases r;assumption
theorem bO.o7 {xs ys:List V} (r:dg H Z xs ys):bO ν m H Z (xs.map .v) ys:=by
 refine⟨by simp[r.1],λj u v hu hv=>?_⟩
 rw[List.getElem?_map,ζf]at hu;obtain⟨x,w,rfl⟩:=hu;exact .v x v (r.2 j x v w hv)
theorem sC:∀{svs:List SV} {xs:List V},dn svs=some xs->svs=xs.map .v
 | [],xs,h=>by simp[dn]at h;grind
 | x::r,xs,h=>by
  cases x <;> simp only[dn]at h <;> first|grind|skip
  obtain⟨t,u,rfl⟩:=ζf.1 h;rw[sC u];rfl
theorem bO.Rh {xs ys:List V} (r:bO ν m H Z (xs.map .v) ys):dg H Z xs ys:=by
 refine⟨by have:=r.1;grind,λj u v hu hv=>?_⟩
 have:(xs.map SV.v)[j]? = some (.v u):=by grind
 exact(r.2 j _ v this hv).fr
end
section
variable {ν:Nu} {Z:Nat->Prop} {st:St} {m:Tb bB} {F:Frame} {H H1:bf} {N:Nat->FuncId}
def nT (nm:FuncId->Option Nat):Operand->Option Arg
 | .tmp t=>some (.s t)
 | .const v=>match ofValue 4 v with
  | some c=>if c.good then some (.k c)else none
  | none=>none
 | .func f=>(nm f).map .f
 | .global g=>match bK.gl g with
  | some cs=>if(V.fptr cs).good then some (.k (.fptr cs))else none
  | none=>none
theorem BZ {nm:FuncId->Option Nat} (D:∀f s,nm f=some s->N s=f) {g:Tb SV} (G:∀s sv,a_ g s=some sv->cR ν m H Z sv (get F s)) {o:Operand} {x:Arg} {sv:SV} (u:nT nm o=some x) (hv:oK N g x=some sv) :
 ∃y,ev F o=some y/\cR ν m H Z sv y:=by
 cases o with
 | tmp t=>
  simp[nT]at u;subst u;exact⟨get F t,rfl,G t sv hv⟩
 | const w=>
  simp[nT]at u;split at u
  .rename_i c hc;split at u
   next B=>simp  at u;subst u;simp[oK]at hv;subst hv;exact⟨c,hc,.v _ _ (.same _ B)⟩
   grind
  grind
 | func f=>
  simp[nT]at u;obtain⟨z,C,rfl⟩:=u;simp[oK]at hv;subst hv;exact⟨_,rfl,.v _ _ (by rw[D f z C];exact .same _ rfl)⟩
 | global i=>
  simp[nT]at u;split at u
  .rename_i c hc;split at u
   next B=>simp  at u;subst u;simp[oK]at hv;subst hv;exact⟨.fptr c,by simp[ev,hc],.v _ _ (.same _ B)⟩
   grind
  grind
theorem nV {nm:FuncId->Option Nat} (z:∀f s,nm f=some s->N s=f) {g:Tb SV} (B:∀s sv,a_ g s=some sv->cR ν m H Z sv (get F s)):∀{os:List Operand} {xs:List Arg} {svs:List SV},
 os.mapM (nT nm)=some xs->bQ N g xs=some svs->∃ys,eF F os=some ys/\bO ν m H Z svs ys
 | [],xs,svs,u,hv=>by
  simp  at u;subst u;simp[bQ]at hv;subst hv;exact⟨[],rfl,.nil⟩
 | o::os,xs,svs,u,hv=>by
  simp[ζg]at u;obtain⟨x,D,ys,G,rfl⟩:=u;simp[bQ]at hv;split at hv
  next v J h1 C=>simp  at hv;subst hv;obtain⟨a,u,I⟩:=BZ z B D h1;obtain⟨az,has,w⟩:=nV z B G C;exact⟨a::az,by simp[eF,u,has],.cons I w⟩
  grind
theorem cR.i_ {d:Nat} {y:V} (r:cR ν m H Z (.own d) y) {ob:bB} (h:a_ m d=some ob):∃k es xs,ob=.sl k es xs/\y=qC (ν d) k es xs.length:=by
 cases r with|own _ _ u=>grind
theorem cR.ni {d o:Nat} {y:V} (r:cR ν m H Z (.ptr d o) y) {ob:bB} (h:a_ m d=some ob):∃cs,ob=.box cs/\y=.hptr (ν d).1 0 o:=by
 cases r with|ptr _ _ _ u=>grind
theorem cR.vM {d i o:Nat} {y:V} (r:cR ν m H Z (.el d i o) y) {ob:bB} (h:a_ m d=some ob):∃k es xs,ob=.sl k es xs/\cI k=true/\y=.hptr (ν d).1 ((ν d).2+i) o:=by
 cases r with|el _ _ _ _ u=>grind
theorem cR.AQ {d:Nat} {y:V} (r:cR ν m H Z (.mp d) y) {ob:bB} (h:a_ m d=some ob):∃u,ob=.mp u/\y=.hmap (ν d).1:=by
 cases r with|mp _ _ w=>grind
theorem cR.jJ {f:FuncId} {a b:List SV} {y:V} (r:cR ν m H Z (.clo f a b) y):∃a' u,y=.clo f a' u/\bO ν m H Z a a'/\bO ν m H Z b u:=by
 cases r with|clo _ _ _ a' u z B hva w=>exact⟨a',u,rfl,⟨z,hva⟩,⟨B,w⟩⟩
theorem cR.oF {a:List SV} {y:V} (r:cR ν m H Z (.tup a) y):∃a',y=.tup a'/\bO ν m H Z a a':=by
 cases r with|tup _ a' u hva=>exact⟨a',rfl,u,hva⟩
theorem cR.gF {a:List SV} {y:V} (r:cR ν m H Z (.agg a) y):∃a',y=.agg a'/\bO ν m H Z a a':=by
 cases r with|agg _ a' u hva=>exact⟨a',rfl,u,hva⟩
theorem qd {p:Nat×Nat} {k:Fl} {es len:Nat} (h:cI k=true):qC p k es len=.hsl p.1 es p.2 len:=by
 cases k <;> simp[cI]at h <;> rfl
theorem kj {x:SV} {y:V} (h:kQ m x=true) (r:cR ν m H Z x y):y.cells=[y]/\y.one=true:=by
 cases x with
 | v x=>simp[kQ]at h
 | own d=>
  obtain⟨ob,u⟩:=Option.isSome_iff_exists.1 h;obtain⟨k,es,w,rfl,rfl⟩:=r.i_ u;cases k <;> exact⟨rfl,rfl⟩
 | ptr d o=>
  obtain⟨ob,u⟩:=Option.isSome_iff_exists.1 h;obtain⟨cs,rfl,rfl⟩:=r.ni u;exact⟨rfl,rfl⟩
 | el d i o=>
  obtain⟨ob,u⟩:=Option.isSome_iff_exists.1 h;obtain⟨k,es,w,rfl,_,rfl⟩:=r.vM u;exact⟨rfl,rfl⟩
 | mp d=>
  obtain⟨ob,u⟩:=Option.isSome_iff_exists.1 h;obtain⟨z,rfl,rfl⟩:=r.AQ u;exact⟨rfl,rfl⟩
 | clo f a b=>obtain⟨B,C,rfl,_⟩:=r.jJ;exact⟨rfl,rfl⟩
 | tup l=>simp[kQ]at h
 | agg l=>simp[kQ]at h
 | yl id=>simp[kQ]at h
theorem K1 {x:SV} {y:V} (h:vZ m x=true) (r:cR ν m H Z x y):y.one=true:=by
 cases x with
 | v x=>
  have u:=r.fr;have w:x.one=true:=h;have hc:=u.cells;have e:x.cells=[x]:=by cases x <;> first|rfl|(simp[V.one]at w)
  rw[e]at hc;have h1:=hc.one;have z:=hc.1
  cases y with
  | agg l=>
   cases u with
   | same _ _=>grind
   | agg _ _ _ _=>simp[V.one]at w
  | tup l=>
   cases u with
   | same _ _=>grind
   | tup _ _ _ _=>simp[V.one]at w
  | _=>rfl
 | own d=>exact(kj  (x:=.own d) h r).2
 | ptr d o=>exact(kj  (x:=.ptr d o) h r).2
 | el d i o=>exact(kj  (x:=.el d i o) h r).2
 | mp d=>exact(kj  (x:=.mp d) h r).2
 | clo f a b=>exact(kj  (x:=.clo f a b) h r).2
 | tup l=>simp[vZ,kQ]at h
 | agg l=>simp[vZ,kQ]at h
 | yl id=>simp[vZ,kQ]at h
theorem Dc {l:List SV} {ys:List V} (h:l.all (vZ m)=true) (r:bO ν m H Z l ys):ys.all V.one=true:=by
 refine List.all_eq_true.2 λy w=>?_
 obtain⟨j,z,e⟩:=List.mem_iff_getElem.1 w;have u:j<l.length:=by rw[r.1];omega
 exact K1 (List.all_eq_true.1 h _ (List.getElem_mem u)) (r.2 j _ y (ζd u) Zd)
theorem J5 {x:SV} {y:V} {c:List SV} (h:EN m x=some c) (r:cR ν m H Z x y):bO ν m H Z c y.cells:=by
 unfold EN at h;split at h
 .cases h;exact bO.o7 r.fr.cells
 .cases h;obtain⟨z,rfl,u⟩:=r.gF;exact u
 split at h
 next w=>cases h;rw[(kj w r).1];exact .cons r .nil
 simp_all
theorem Ee:∀{pl:List (Nat×Nat)} {vs cells l:List SV} {u cells':List V},bO ν m H Z cells cells'->bO ν m H Z vs u->wm m cells pl vs=some l->∃B,jw cells' pl u=some B/\bO ν m H Z l B
 | [],[],cells,l,u,cells',hc,hv,h=>by
  rw[hv.c6];simp[wm]at h;subst h;exact⟨_,rfl,hc⟩
 | [],_::_,_,_,_,_,_,_,h=>by simp[wm]at h
 | _::_,[],_,_,_,_,_,_,h=>by simp[wm]at h
 | (off,size)::pl,v::vs,cells,l,u,cells',hc,hv,h=>by
  obtain⟨w,D,rfl,h1,G⟩:=hv.inv;simp only[wm]at h;split at h
  .rename_i c C;have hr:=J5 C h1;split at h
   .obtain⟨B,e1,e2⟩:=Ee   (cells':=cells'.take off++w.cells++cells'.drop (off+w.cells.length)) (by rw[<-hr.1];exact((hc.take off).append hr).append (hc.drop _)) G h
    have z:w.cells.length=size/\off+w.cells.length<=cells'.length:=by rw[<-hr.1,<-hc.1];omega
    simp[jw]
    grind
   simp_all
  simp_all
theorem Fk {size o:Nat} {agg:Bool} {cs:List SV} {u:List V} {sv:SV} (h:bO ν m H Z cs u) (hp:tE size agg ((cs.drop o).take size)=some sv):∃y,(cut u o size).bind (mk agg)=some y/\cR ν m H Z sv y:=by
 have w:=(h.drop o).take size;unfold tE at hp;split at hp
 .have hc:cut u o size=some ((u.drop o).take size):=by
   unfold cut;rw[if_pos (by rw[<-w.1];omega)]
  rw[hc];split at hp
  .split at hp
   .rename_i G z;cases hp;have B  := by rw[sC z]at w;exact w.Rh
    exact⟨_,by unfold mk;grind,.v _ _ (.agg _ _ B.1 B.2)⟩
   cases hp;exact⟨_,by unfold mk;grind,.agg _ _ w.1 w.2⟩
  split at hp
  next x z=>simp  at hp;subst hp;rw[z]at w;obtain⟨y,I,e,C,D⟩:=w.inv;rw[e,D.c6];exact⟨y,by unfold mk;grind,C⟩
  grind
 grind
theorem Mi {p:sZ} {svs:List SV} {ys:List V} {sv:SV} (hb:∀zero pl,p=.build zero pl->V.cH zero=true) (ho:∀d ob,a_ m d=some ob->dK ν m H Z d ob) (h:bO ν m H Z svs ys) (hp:zg N m p svs=some sv):∃y,bq N p ys=some y/\cR ν m H Z sv y:=by
 unfold zg at hp;split at hp
 .
  obtain⟨y,_,rfl,h1,w⟩:=h.inv;rw[w.c6];simp  at hp;subst hp;exact⟨y,rfl,h1⟩
 .obtain⟨y,_,rfl,h1,w⟩:=h.inv;rw[w.c6];split at hp
  next J=>simp  at hp;subst hp;obtain⟨ob,u⟩:=Option.isSome_iff_exists.1 J;obtain⟨cs,rfl,rfl⟩:=h1.ni u;exact⟨_,rfl,h1⟩
  grind
 .obtain⟨y,_,rfl,h1,w⟩:=h.inv;rw[w.c6];split at hp
  next J=>simp  at hp;subst hp;obtain⟨ob,u⟩:=Option.isSome_iff_exists.1 J;obtain⟨k,es,Q,rfl,hk,rfl⟩:=h1.vM u;exact⟨_,rfl,h1⟩
  grind
 .
  rename_i t a b;obtain⟨I,_,rfl,h1,w⟩:=h.inv;obtain⟨S,_,rfl,D,C⟩:=w.inv;obtain⟨w3,_,rfl,h5,h6⟩:=C.inv;rw[h1.fr.bool,h6.c6];simp  at hp;refine⟨if t=true then S else w3,rfl,?_⟩
  grind
 .
  obtain⟨I,_,rfl,h1,w⟩:=h.inv;obtain⟨S,_,rfl,D,C⟩:=w.inv;rw[D.fr.bM,C.c6];split at hp
  .rename_i k es Q u;split at hp
   .simp_all
   simp  at hp;subst hp;obtain⟨T,L,O,e,rfl⟩:=h1.i_ u;cases e;cases k <;> first|grind|exact⟨_,rfl,.v _ _ (.same _ rfl)⟩
  grind
 .obtain⟨I,_,rfl,h1,w⟩:=h.inv;obtain⟨S,_,rfl,D,C⟩:=w.inv;rw[D.fr.bM,C.c6];split at hp
  .rename_i k es Q u;split at hp
   .simp_all
   simp  at hp;subst hp;obtain⟨T,L,O,e,rfl⟩:=h1.i_ u;cases e;cases k <;> first|grind|exact⟨_,rfl,.v _ _ (.same _ rfl)⟩
  grind
 .
  obtain⟨y,_,rfl,h1,w⟩:=h.inv;rw[w.c6];split at hp
  next J=>simp  at hp;subst hp;obtain⟨ob,u⟩:=Option.isSome_iff_exists.1 J;obtain⟨cs,rfl,rfl⟩:=h1.ni u;exact⟨_,rfl,.ptr _ _ _ λG B=>by grind⟩
  grind
 .obtain⟨y,_,rfl,h1,w⟩:=h.inv;rw[w.c6];split at hp
  next J=>simp  at hp;subst hp;obtain⟨ob,u⟩:=Option.isSome_iff_exists.1 J;obtain⟨k,es,Q,rfl,hk,rfl⟩:=h1.vM u;exact⟨_,rfl,.el _ _ _ _ λG B=>by rw[u]at B;cases B;exact⟨_,_,_,rfl,hk,rfl⟩⟩
  simp at hp
 .
  obtain⟨I,_,rfl,h1,w⟩:=h.inv;obtain⟨S,_,rfl,D,C⟩:=w.inv;rw[D.fr.int,C.c6];split at hp
  .rename_i k es Q u;split at hp
   .rename_i hc;obtain⟨hk,rfl,hn,U⟩:=hc;simp  at hp;subst hp;obtain⟨T,L,O,e,rfl⟩:=h1.i_ u;cases e;rw[qd hk];refine⟨.hptr (ν _).1 ((ν _).2+_) 0,by simp only[bq,kK,if_neg (Int.not_lt.2 hn),true_and,if_pos U];rfl,.el _ _ _ _ λG B=>?_⟩
    rw[u]at B;cases B;exact⟨_,_,_,rfl,hk,rfl⟩
   simp at hp
  simp at hp
 .
  obtain⟨I,_,rfl,h1,w⟩:=h.inv;obtain⟨S,_,rfl,D,C⟩:=w.inv;rw[D.fr.int,C.c6];split at hp
  .rename_i hc;simp  at hp;subst hp;obtain⟨ob,u⟩:=Option.isSome_iff_exists.1 hc.2.2;obtain⟨cs,rfl,rfl⟩:=h1.ni u;refine⟨.hptr (ν _).1 0 (_+_),by simp only[bq,uZ,if_pos (And.intro hc.1 hc.2.1)];rfl,.ptr _ _ _ λG B=>?_⟩
   rw[u]at B;cases B;exact⟨_,rfl,rfl⟩
  simp at hp
 .obtain⟨I,_,rfl,h1,w⟩:=h.inv;obtain⟨S,_,rfl,D,C⟩:=w.inv;rw[D.fr.int,C.c6];split at hp
  .rename_i hc;simp  at hp;subst hp;obtain⟨ob,u⟩:=Option.isSome_iff_exists.1 hc.2.2;obtain⟨k,es,Q,rfl,hk,rfl⟩:=h1.vM u;refine⟨.hptr (ν _).1 (_+_) (_+_),by simp only[bq,uZ,if_pos (And.intro hc.1 hc.2.1)];rfl,.el _ _ _ _ λG B=>?_⟩
   rw[u]at B;cases B;exact⟨_,_,_,rfl,hk,rfl⟩
  simp at hp
 .
  obtain⟨I,_,rfl,h1,w⟩:=h.inv;rw[w.c6];split at hp
  .rename_i k es Q u;simp  at hp;subst hp;obtain⟨T,L,O,e,rfl⟩:=h1.i_ u;cases e;have:=ho _ _ u;simp[dK]at this;cases hk:k <;> simp[hk,cI]at this ⊢
   .subst this;exact⟨_,rfl,.v _ _ (.same _ rfl)⟩
   .subst this;exact⟨_,rfl,.v _ _ (.same _ rfl)⟩
   .exact⟨_,rfl,.v _ _ (.same _ rfl)⟩
   exact⟨_,rfl,.v _ _ (.same _ rfl)⟩
  simp at hp
 .
  rename_i vs name k;simp  at hp;subst hp;exact⟨_,rfl,.clo _ _ _ _ _ (h.take k).1 (h.drop k).1 (h.take k).2 (h.drop k).2⟩
 .
  obtain⟨I,_,rfl,h1,w⟩:=h.inv;rw[w.c6];obtain⟨ws,rfl,W⟩:=h1.oF;obtain⟨z,hz,X⟩:=W.get hp;exact⟨z,hz,X⟩
 .
  rename_i vs zero pl;obtain⟨l,hl,rfl⟩:=ζf.1 hp;obtain⟨l',h1,w⟩:=Ee (bO.o7 (dg.same (hb zero pl rfl))) h hl;exact⟨.agg l',by simp[Go.VE.bq,h1],.agg _ _ w.1 w.2⟩
 .
  obtain⟨I,_,rfl,h1,w⟩:=h.inv;rw[w.c6];obtain⟨ws,rfl,W⟩:=h1.gF;obtain⟨y,hy,Y⟩:=Fk W hp;exact⟨y,by simp[Go.VE.bq];exact hy,Y⟩
 grind
theorem FZ {p:sZ} {svs:List SV} {ys:List V} {sv:SV} (u:∀zero pl,p=.build zero pl->V.cH zero=true) (B:∀d ob,a_ m d=some ob->dK ν m H Z d ob) (h:bO ν m H Z svs ys) (hp:jg N m p svs=some sv) :
 ∃y,bq N p ys=some y/\cR ν m H Z sv y:=by
 unfold jg at hp;split at hp
 next I w=>obtain⟨z,C,rfl⟩:=ζf.1 hp;rw[sC w]at h;obtain⟨D,h1,G⟩:=dg.bq u h.Rh C;exact⟨D,h1,.v _ _ G⟩
 exact Mi u B h hp
theorem bO.dn {svs:List SV} {xs ys:List V} (h:bO ν m H Z svs ys) (u:dn svs=some xs):dg H Z xs ys:=by
 rw[sC u]at h;exact h.Rh
theorem AH {k:V}:∀{a b:List (V×V)} {i:Nat},Bh H Z a b->(gG k a i=some none->gG k b i=some none)/\∀j v,gG k a i=some (some (j,v))->∃z,gG k b i=some (some (j,z))/\FR H Z v z
 | [],b,i,h=>by
  have:b=[]:=List.length_eq_zero_iff.1 (by have:=h.1;grind)
  subst this;exact⟨λh=>h,λj v h=>by simp[gG]at h⟩
 | (k1,x)::a,[],i,h=>by have:=h.1;grind
 | (k1,x)::a,(B,y)::b,i,h=>by
  obtain⟨⟨e,_⟩,C⟩:=h.2 0 _ _ rfl rfl;subst e;have w:Bh H Z a b:=⟨by have:=h.1;grind,λj u v hu hv=>h.2 (j+1) u v Zd Zd⟩
  have D:=AH (i:=i+1) (k:=k) w;simp only[gG]
  grind
theorem tA {kk:vc} {k:V} (h:nL kk k=true):k.scalar=true:=by
 unfold nL at h;split at h
 .rfl
 .rfl
 .simp  at h;obtain⟨a,u⟩:=Option.isSome_iff_exists.1 h.2;exact o_ u
 grind
theorem tZ {r:G_} {svs:List SV} {ys:List V} {sv:SV} (ad:∀s a,r≠.loadF s a) (W:∀kk z ok,r=.lookup kk z ok->z.good=true) (h:bO ν m H Z svs ys) (ho:∀d,SV.dh d svs=true->∀ob,a_ m d=some ob->dK ν m H Z d ob) (hp:nu m r svs=some sv) :
 ∃y,fS H r ys=some y/\cR ν m H Z sv y:=by
 unfold nu at hp;split at hp
 .
  obtain⟨X,_,rfl,h1,J⟩:=h.inv;rw[J.c6];split at hp
  .rename_i cs u;obtain⟨am,e,rfl⟩:=h1.ni u;obtain⟨es,an,hr,hc,_⟩:=ho _ (by simp[SV.dh,SV.cG]) _ u
   obtain⟨y,hy,ae⟩:=Fk hc hp;refine⟨y,?_,ae⟩;simp[fS,dY,hr,Ob.rows,List.getElem?_cons_zero];omega
  grind
 .
  obtain⟨X,_,rfl,h1,J⟩:=h.inv;rw[J.c6];split at hp
  .rename_i k es xs u;split at hp
   .rename_i cs Y;obtain⟨z,L,rfl⟩:=ζf.1 hp;obtain⟨k1,ao,ap,e,hk,rfl⟩:=h1.vM u;cases e;have:=ho _ (by simp[SV.dh,SV.cG]) _ u
    simp[dK,hk]at this;obtain⟨rs,hr,hl,B,_⟩:=this;obtain⟨c,hc,af⟩:=B.get Y;have hj:=(ζe.1 Y).1;rw[List.getElem?_take,if_pos hj,List.getElem?_drop]at hc;obtain⟨r1,w,C⟩:=ζg.1 L;obtain⟨r2,Q,D⟩:=af.cut w;obtain⟨z',S,aa⟩:=D.mk C;refine⟨z',?_,.v _ _ aa⟩;simp[fS,dY,hr,Ob.rows,hc,Q,S]
   grind
  grind
 .
  rename_i size agg p;obtain⟨X,_,rfl,h1,J⟩:=h.inv;rw[J.c6];obtain⟨z,L,rfl⟩:=ζf.1 hp;obtain⟨r1,w,C⟩:=ζg.1 L;unfold dY at w;split at w
  .rename_i cs;rcases h1.fr.kH with rfl|⟨id,el,off,es,ys,ah,rfl,aa,hr,he,aq,B⟩
   .refine⟨z,by simp[fS,dY,w,C],.v _ _ (.same _ ?_)⟩
    have ai  := by have:=h1.fr.good;simpa [V.good]using this
    obtain⟨r',ar,D⟩:=(dg.same (H:=H) (Z:=Z) ai).cut w;obtain⟨z',S,G⟩:=D.mk C;exact G.good
   obtain⟨r2,Q,D⟩:=B.cut w;obtain⟨z',S,G⟩:=D.mk C;refine⟨z',?_,.v _ _ G⟩;unfold bl at hr;simp[fS,dY,hr,he];have:cut ah off size=some r2:=by
    unfold cut at Q ⊢
    grind
   grind
  .grind
  grind
 .
  rename_i kk z ok d k;obtain⟨X,_,rfl,h1,J⟩:=h.inv;obtain⟨w2,_,rfl,h3,h4⟩:=J.inv;rw[h4.c6];split at hp
  .rename_i T u;split at hp
   .rename_i hk;obtain⟨_,e,rfl⟩:=h1.AQ u;have U:=h3.fr.scalar.1 (tA hk);subst U;obtain⟨al,hr,aj⟩:=ho _ (by simp[SV.dh,SV.cG]) _ u
    obtain⟨f1,f2⟩:=AH   aj;split at hp
    .rename_i j v B;obtain⟨v',ak,ab⟩:=f2 j v B;simp  at hp;subst hp;refine⟨if ok=true then .tup [v',.bool true]else v',by simp[fS,lg,hr,hk,ak],?_⟩
     cases ok
     .exact .v _ _ ab
     refine .v _ _ (.tup _ _ rfl (dg.cons ab (.cons (.same _ rfl) .nil)).2)
    .rename_i B;simp  at hp;subst hp;refine⟨if ok=true then .tup [z,.bool false]else z,by simp[fS,lg,hr,hk,f1 B],?_⟩
     have L:=W kk z ok rfl;cases ok
     .exact .v _ _ (.same _ L)
     exact .v _ _ (.same _ (by simp[V.good,V.cH,L]))
    grind
   grind
  grind
 .
  rename_i kk z ok p k;obtain⟨X,_,rfl,h1,J⟩:=h.inv;obtain⟨w2,_,rfl,h3,h4⟩:=J.inv;rw[h4.c6];obtain⟨x,I,rfl⟩:=ζf.1 hp;simp[fS]at I;have L:=W kk z ok rfl;split at I
  .rename_i T O;have key:lg H X=some T/\V.qi T=true:=by
    unfold lg at O;split at O
    .rw[h1.fr.fL];simp  at O;subst O;exact⟨rfl,rfl⟩
    .rw[h1.fr.fmap];simp  at O;subst O;exact⟨rfl,by have:=h1.fr.good;simpa [V.good]using this⟩
    .simp at O
    simp at O
   split at I
   .rename_i hk;have U:=h3.fr.scalar.1 (tA hk);subst U;split at I
    .rename_i j v B;simp  at I;subst I;have hv  := by
      have:∀{l:List (V×V)} {i:Nat},V.qi l=true->gG w2 l i=some (some (j,v))->v.good=true:=by
       intro l
       induction l with
       | nil=>intro i _ h;simp[gG]at h
       | cons p l ih=>
        intro i hg h;simp[V.qi]at hg;simp[gG]at h;split at h
        .obtain⟨_,rfl⟩:=h;exact hg.1.2
        .exact ih hg.2 h
        simp at h
      exact this key.2 B
     refine⟨if ok=true then .tup [v,.bool true]else v,by simp[fS,key.1,hk,B],?_⟩
     cases ok
     .exact .v _ _ (.same _ hv)
     exact .v _ _ (.same _ (by simp[V.good,V.cH,hv]))
    .rename_i B;simp  at I;subst I;refine⟨if ok=true then .tup [z,.bool false]else z,by simp[fS,key.1,hk,B],?_⟩
     cases ok
     .exact .v _ _ (.same _ L)
     exact .v _ _ (.same _ (by simp[V.good,V.cH,L]))
    simp at I
   simp at I
  simp at I
 .exact absurd rfl (ad _ _)
 grind
end
section
variable {Rv:Nat->Prop} {ν ν':Nu} {Z Z':Nat->Prop} {st st':St} {m m':Tb bB} {F F':Frame} {H H':bf}
theorem R.lt (r:R ν Z st F H) {id:Nat} (h:eM ν st.m id):id<H.length:=by
 obtain⟨d,ob,h1,u,rfl⟩:=h;have:=r.obj d ob h1
 cases ob with
 | sl k es C=>
  simp only[cg]at u;simp only[dK,u,if_true]at this;obtain⟨D,hr,_⟩:=this;exact(ζe.1 hr).1
 | box cs=>obtain⟨es,z,hr,_⟩:=this;exact(ζe.1 hr).1
 | mp B=>obtain⟨w,hr,_⟩:=this;exact(ζe.1 hr).1
theorem R.uy (r:R ν Z st F H) {id:Nat} (h:Z id):id<H.length:=by
 have:=r.zrow id h;unfold bl at this;obtain⟨x,u⟩:=Option.isSome_iff_exists.1 this;obtain⟨ob,h1,_⟩:=ζg.1 u;exact(ζe.1 h1).1
theorem Deep.mono (d:Deep H Z) (h:∀id,Z id->bl H' id=bl H id):Deep H' Z where
 row:=λid es z w hr c hc u hu=>by
  rw[h id w]at hr;obtain⟨x,B⟩:=d.row id es z w hr c hc u hu;exact⟨x,B.mono λk hk=>⟨hk,h k hk⟩⟩
theorem tg.mono {ys:List (List V)} (h:∀id,Z id->Z' id/\bl H' id=bl H id) (s:tg H Z ys):tg H' Z' ys:=λc hc u hu=>by
 obtain⟨x,w⟩:=s c hc u hu;exact⟨x,w.mono h⟩
theorem Bh.mono {a b:List (V×V)} (h:∀id,Z id->Z' id/\bl H' id=bl H id) (s:Bh H Z a b):Bh H' Z' a b:=⟨s.1,λj u v hu hv=>⟨(s.2 j u v hu hv).1,(s.2 j u v hu hv).2.mono h⟩⟩
theorem dK.mono {d G:Nat} {ob:bB} (z:∀id,Z id->Z' id/\bl H' id=bl H id) (hd:ν' G=ν d) (B:cg ob=true->H'[(ν d).1]? = H[(ν d).1]?)
 (J:∀e,ob.cG e=true->∀ob',a_ m' e=some ob'->∃ob,a_ m e=some ob/\ν' e=ν e/\sameShape ob ob') (o:dK ν m H Z d ob):dK ν' m' H' Z' G ob:=by
 cases ob with
 | sl k es S=>
  simp only[dK,hd]at o ⊢;split
  next hk=>rw[if_pos hk]at o;obtain⟨I,h1,u,C,L,O⟩:=o;exact⟨I,by rw[B (by simpa [cg]using hk)];exact h1,u,C.mono z,L.mono z,O⟩
  rename_i hk;rw[if_neg hk]at o;exact o
 | box cs=>
  obtain⟨es,D,h1,u,C⟩:=o;exact⟨es,D,by rw[hd,B rfl];exact h1,u.mono z J,C⟩
 | mp Q=>
  obtain⟨w,h1,u⟩:=o;exact⟨w,by rw[hd,B rfl];exact h1,u.mono z⟩
theorem gU (ν:Nu) (m:Tb bB) (e:Nat):∀ob',a_ m e=some ob'->∃ob,a_ m e=some ob/\ν e=ν e/\sameShape ob ob':=λob' h=>⟨ob',h,rfl,.refl _⟩
theorem R.heap (r:R ν Z st F H) (z:∀id,eM ν st.m id->H'[id]? = H[id]?) (u:∀id,Z id->bl H' id=bl H id):R ν Z st F H' where
 slot:=λs w B=>(r.slot s w B).mono (λid h=>⟨h,u id h⟩) λd _=>gU ν st.m d
 obj:=λd ob hd=>dK.mono (λid h=>⟨h,u id h⟩) rfl (λC=>z _ ⟨d,ob,hd,C,rfl⟩) (λe _=>gU ν st.m e) (r.obj d ob hd)
 inj:=r.inj
 apart:=r.apart
 zrow:=λid h=>by rw[u id h];exact r.zrow id h
 deep:=r.deep.mono u
theorem R.put (r:R ν Z st F H) {d:Nat} {sv:SV} {y:V} (h:cR ν st.m H Z sv y):R ν Z { st with g:=bH st.g d sv } (set F d y) H where
 slot:=λs x u=>by
  by_cases e:d=s
  .subst e;rw[cq]at u;cases u;rw[tH];exact h
  rw[dD st.g sv e]at u;rw[ig _ _ e];exact r.slot s x u
 obj:=r.obj
 inj:=r.inj
 apart:=r.apart
 zrow:=r.zrow
 deep:=r.deep
theorem Ev.slots (g:Tb SV):Ev Rv ν Z st H ν Z { st with g:=g } H:=
 ⟨Nat.le_refl _,λ_ _ _ _ _=>rfl,λ_ h=>⟨h,rfl⟩,λ_ h=>.inl h,λ_ h=>.inl h,λ_ _ u h=>⟨u,h,rfl,.refl _⟩,rfl⟩
def gO (ν:Nu) (d:Nat) (p:Nat×Nat):Nu:=λk=>if k=d then p else ν k
theorem gb (ν:Nu) (d:Nat) (p:Nat×Nat):gO ν d p d=p:=if_pos rfl
theorem mZ (ν:Nu) {d k:Nat} (p:Nat×Nat) (h:k≠d):gO ν d p k=ν k:=if_neg h
theorem kG {d:Nat} (h:st.new d=true):d∉st.pin/\a_ st.m d=none/\tu d st.g=false/\qw d st.m=false:=by
 unfold St.new at h;simp only[ζh,Bool.not_eq_true',Option.isNone_iff_eq_none,List.contains_eq_mem,decide_eq_false_iff_not]at h;exact⟨h.1.1.1,h.1.1.2,h.1.2,h.2⟩
theorem qM {d:Nat} {ob:bB} {p:Nat×Nat} {e:Nat} (h:e≠d):∀ob',a_ (bH m d ob) e=some ob'->∃ob,a_ m e=some ob/\gO ν d p e=ν e/\sameShape ob ob':=λob' u=>by
 rw[dD m ob (Ne.symm h)]at u;exact⟨ob',u,mZ ν p h,.refl _⟩
theorem R.add (r:R ν Z st F H) {d:Nat} (T:st.new d=true) {ob:bB} {p:Nat×Nat} (G:cg ob=true->¬eM ν st.m p.1/\¬Z p.1) (U:dK (gO ν d p) (bH st.m d ob) H Z d ob) :
 R (gO ν d p) Z { st with m:=bH st.m d ob } F H:=by
 obtain⟨W,X,O,Q⟩:=kG T;have key:∀w u,a_ (bH st.m d ob) w=some u->w≠d->a_ st.m w=some u:=λw u h e=>by rw[dD st.m ob (Ne.symm e)]at h;exact h
 refine⟨λs S J=>?_,λw u hd=>?_,?_,?_,r.zrow,r.deep⟩
 .refine(r.slot s S J).mono (λid h=>⟨h,rfl⟩) λe L=>qM ?_
  rintro rfl;rw[wU O J]at L;cases L
 .by_cases e:w=d
  .subst e;simp only at hd;rw[cq]at hd;cases hd;exact U
  have C:=key w u hd e;refine dK.mono (λid h=>⟨h,rfl⟩) (mZ ν p e) (λ_=>rfl) (λk hk=>qM ?_) (r.obj w u C)
  rintro rfl;rw[wP Q C]at hk;cases hk
 .intro d1 d2 o1 o2 h1 D z I B
  by_cases e1:d1=d <;> by_cases e2:d2=d
  .rw[e1,e2]
  .subst e1;rw[gb,mZ ν p e2]at B;simp only at h1;rw[cq]at h1;cases h1;exact absurd ⟨d2,o2,key d2 o2 D e2,I,B.symm⟩ (G z).1
  .subst e2;rw[gb,mZ ν p e1]at B;simp only at D;rw[cq]at D;cases D;exact absurd ⟨d1,o1,key d1 o1 h1 e1,z,B⟩ (G I).1
  rw[mZ ν p e1,mZ ν p e2]at B;exact r.inj d1 d2 o1 o2 (key d1 o1 h1 e1) (key d2 o2 D e2) z I B
 intro d1 o1 h1 z
 by_cases e1:d1=d
 .subst e1;simp only at h1;rw[cq]at h1;cases h1;rw[gb];exact(G z).2
 rw[mZ ν p e1];exact r.apart d1 o1 (key d1 o1 h1 e1) z
theorem Cq {d:Nat} {ob:bB} {p:Nat×Nat} {id:Nat} (h:eM (gO ν d p) (bH m d ob) id):eM ν m id\/(cg ob=true/\id=p.1):=by
 obtain⟨k,o,h1,w,u⟩:=h
 by_cases e:k=d
 .subst e;rw[cq]at h1;cases h1;rw[gb]at u;exact .inr ⟨w,u.symm⟩
 rw[mZ ν p e]at u;rw[dD m ob (Ne.symm e)]at h1;exact .inl ⟨k,o,h1,w,u⟩
theorem Ev.add {d:Nat} (z:st.new d=true) {ob:bB} {p:Nat×Nat} (B:H.length<=H'.length) (D:∀id,id<H.length->¬Rv id->H'[id]? = H[id]?) (G:∀id,Z id->bl H' id=bl H id)
 (hp:cg ob=true->Rv p.1\/H.length<=p.1):Ev Rv ν Z st H (gO ν d p) Z { st with m:=bH st.m d ob } H' where
 len:=B
 same:=λid h _ _ hr=>D id h hr
 rows:=λid h=>⟨h,G id h⟩
 own:=λid h=>by
  rcases Cq h with h|⟨h1,rfl⟩
  .exact .inl h
  exact .inr (hp h1)
 frz:=λid h=>.inl h
 pin:=λe w u h=>by
  have:e≠d:=by rintro rfl;exact(kG z).1 w
  exact qM this u h
 pins:=rfl
theorem R.fV (r:R ν Z st F H) {d:Nat} {ob ob':bB} (D:a_ st.m d=some ob) (G:sameShape ob ob') (U:cg ob'=cg ob) (T:∀id,id≠(ν d).1->H'[id]? = H[id]?) (B:cg ob=true)
 (W:dK ν (bH st.m d ob') H' Z d ob'):R ν Z { st with m:=bH st.m d ob' } F H':=by
 have z:∀id,Z id->Z id/\bl H' id=bl H id:=λid h=>⟨h,by
  unfold bl;rw[T id (by rintro rfl;exact r.apart d ob D B h)]⟩
 have sm:∀e u,a_ (bH st.m d ob') e=some u->∃w,a_ st.m e=some w/\ν e=ν e/\sameShape w u:=λe u h=>by
  by_cases k:e=d
  .subst k;rw[cq]at h;cases h;exact⟨ob,D,rfl,G⟩
  rw[dD st.m ob' (Ne.symm k)]at h;exact⟨u,h,rfl,.refl _⟩
 have C:∀e u,a_ (bH st.m d ob') e=some u->∃w,a_ st.m e=some w/\cg w=cg u:=λe u h=>by
  by_cases k:e=d
  .subst k;rw[cq]at h;cases h;exact⟨ob,D,U.symm⟩
  rw[dD st.m ob' (Ne.symm k)]at h;exact⟨u,h,rfl⟩
 refine⟨λs Q G=>(r.slot s Q G).mono z λe _=>sm e,λI u hd=>?_,?_,?_,λid h=>by rw[(z id h).2];exact r.zrow id h,r.deep.mono λid h=>(z id h).2⟩
 .by_cases e:I=d
  .subst e;simp only at hd;rw[cq]at hd;cases hd;exact W
  simp only at hd;rw[dD st.m ob' (Ne.symm e)]at hd;refine dK.mono z rfl (λJ=>T _ λh=>e (r.inj I d u ob hd D J B h)) (λk _=>sm k) (r.obj I u hd)
 .intro d1 d2 o1 o2 h1 S L X Y;obtain⟨p1,k1,O⟩:=C d1 o1 h1;obtain⟨p2,k2,l2⟩:=C d2 o2 S;exact r.inj d1 d2 p1 p2 k1 k2 (by rw[O];exact L) (by rw[l2];exact X) Y
 intro d1 o1 h1 L;obtain⟨p1,k1,O⟩:=C d1 o1 h1;exact r.apart d1 p1 k1 (by rw[O];exact L)
theorem Ev.fV (r:R ν Z st F H) {d:Nat} {ob ob':bB} (z:a_ st.m d=some ob) (D:sameShape ob ob') (T:cg ob'=cg ob) (B:∀id,id≠(ν d).1->H'[id]? = H[id]?) (u:cg ob=true) (G:H.length<=H'.length) :
 Ev Rv ν Z st H ν Z { st with m:=bH st.m d ob' } H' where
 len:=G
 same:=λid _ I _ _=>B id λe=>I ⟨d,ob,z,u,e.symm⟩
 rows:=λid h=>⟨h,by unfold bl;rw[B id (by rintro rfl;exact r.apart d ob z u h)]⟩
 own:=λid ⟨k,o,h1,J,C⟩=>by
  by_cases e:k=d
  .subst e;simp only at h1;rw[cq]at h1;cases h1;exact .inl ⟨k,ob,z,u,C⟩
  simp only at h1;rw[dD st.m ob' (Ne.symm e)]at h1;exact .inl ⟨k,o,h1,J,C⟩
 frz:=λid h=>.inl h
 pin:=λe _ w h=>by
  by_cases k:e=d
  .subst k;simp only at h;rw[cq]at h;cases h;exact⟨ob,z,rfl,D⟩
  simp only at h;rw[dD st.m ob' (Ne.symm k)]at h;exact⟨w,h,rfl,.refl _⟩
 pins:=rfl
theorem R.less (r:R ν Z st F H) {g:Tb SV} {m':Tb bB} (hg:∀s sv,a_ g s=some sv->a_ st.g s=some sv) (z:∀d ob,a_ m' d=some ob->a_ st.m d=some ob):R ν Z { st with g:=g,m:=m' } F H where
 slot:=λs sv B=>(r.slot s sv (hg s sv B)).mono (λid h=>⟨h,rfl⟩) λe _ u h=>⟨u,z e u h,rfl,.refl _⟩
 obj:=λd ob hd=>dK.mono (λid h=>⟨h,rfl⟩) rfl (λ_=>rfl) (λe _ u h=>⟨u,z e u h,rfl,.refl _⟩) (r.obj d ob (z d ob hd))
 inj:=λd w ob u h1 C=>r.inj d w ob u (z d ob h1) (z w u C)
 apart:=λd ob h=>r.apart d ob (z d ob h)
 zrow:=r.zrow
 deep:=r.deep
theorem Ev.less {g:Tb SV} {m':Tb bB} (z:∀d ob,a_ m' d=some ob->a_ st.m d=some ob):Ev Rv ν Z st H ν Z { st with g:=g,m:=m' } H:=
 ⟨Nat.le_refl _,λ_ _ _ _ _=>rfl,λ_ h=>⟨h,rfl⟩,λ_ ⟨d,ob,h1,w,B⟩=>.inl ⟨d,ob,z d ob h1,w,B⟩,λ_ h=>.inl h,λe _ u h=>⟨u,z e u h,rfl,.refl _⟩,rfl⟩
theorem Ev.heap (z:H.length<=H'.length) (B:∀id,id<H.length->¬eM ν st.m id->¬Z id->¬Rv id->H'[id]? = H[id]?) (D:∀id,Z id->bl H' id=bl H id):Ev Rv ν Z st H ν Z st H':=
 ⟨z,B,λid h=>⟨h,D id h⟩,λ_ h=>.inl h,λ_ h=>.inl h,λ_ _ u h=>⟨u,h,rfl,.refl _⟩,rfl⟩
end
section
variable {Rv:Nat->Prop} {ν ν':Nu} {Z Z':Nat->Prop} {st st':St} {m m':Tb bB} {F F':Frame} {H H':bf}
theorem fM.DL {xs ys:List (List V)} (h:fM H Z xs ys):tg H Z ys:=λc hc u hu=>by
 obtain⟨i,hi⟩:=List.mem_iff_getElem?.1 hc;have z:i<xs.length:=by rw[h.1];grind
 have hr:=h.2 i _ c (ζd z) hi;obtain⟨j,B⟩:=List.mem_iff_getElem?.1 hu;have w:j<(xs[i]).length:=by rw[hr.1];grind
 exact⟨_,hr.2 j _ u (ζd w) B⟩
theorem fM.same {xs:List (List V)} (h:V.k9 xs=true):fM H Z xs xs:=
 ⟨rfl,λj u v hu hv=>by rw[hu]at hv;cases hv;exact dg.same (kg.1 h j u hu)⟩
theorem mN {z:List V} (h:V.cH z=true):∀n,V.k9 (List.replicate n z)=true
 | 0=>rfl
 | n+1=>by simp[List.replicate_succ,V.k9,h,mN h n]
theorem zX {es:Nat}:∀{ps qs:List (Nat×V)} {xs u r:List (List V)},fM H Z xs u->ps.map (·.1)=qs.map (·.1)->dg H Z (ps.map (·.2)) (qs.map (·.2))->gB es xs ps=some r->∃B,gB es u qs=some B/\fM H Z r B
 | [],qs,xs,u,r,z,h1,D,h=>by
  have:qs=[]:=by simp_all
  subst this;simp[gB]at h ⊢;grind
 | (i,v)::ps,qs,xs,u,r,z,h1,D,h=>by
  cases qs with
  | nil=>simp_all
  | cons q qs=>
   obtain⟨j,w⟩:=q;simp  at h1;obtain⟨e,h1⟩:=h1;subst e;obtain⟨w',I,e,C,G⟩:=D.inv;obtain⟨rfl,rfl⟩:=e;have hc:=C.cells;simp only[gB]at h ⊢;split at h
   .rw[if_pos ⟨by rw[<-hc.1];grind,by rw[<-z.1];grind,by rw[hc.one];grind⟩]
    exact zX (z.set i hc) h1 G h
   grind
theorem B9:∀{idx:List Nat} {xs:List V},idx.length=xs.length->(idx.zip xs).map (·.1)=idx
 | [],xs,_=>by simp
 | i::idx,[],h=>by simp_all
 | i::idx,x::xs,h=>by simp[B9 (idx:=idx) (xs:=xs) Zd]
theorem Cg:∀{idx:List Nat} {xs:List V},idx.length=xs.length->(idx.zip xs).map (·.2)=xs
 | [],[],_=>by simp
 | [],x::xs,h=>by simp_all
 | i::idx,[],h=>by simp_all
 | i::idx,x::xs,h=>by simp[Cg (idx:=idx) (xs:=xs) Zd]
theorem K6 {a:Ks} {svs:List SV} {ys:List V} {d:Nat} {ob:bB} {sv:SV} (hk:ze (.a a)=true) (r:bO ν m H Z svs ys) (h:qE m a svs d=some (ob,sv)) :
 ∃o mk,kL a ys=some (o,mk)/\cg ob=true/\o≠.free/\∀(id:Nat) (ν':Nu) (m':Tb bB) (H':bf),ν' d=(id,0)->a_ m' d=some ob->H'[id]? = some o->(∀k,Z k->bl H' k=bl H k) ->
  (∀e,SV.dh e svs=true->∀ob',a_ m' e=some ob'->∃ob,a_ m e=some ob/\ν' e=ν e/\sameShape ob ob')->dK ν' m' H' Z d ob/\cR ν' m' H' Z sv (mk.val id):=by
 unfold qE at h;split at h
 .
  rename_i size zero;obtain⟨rfl,rfl⟩:=h;rw[r.c6];simp only[ze,ζh]at hk;refine⟨_,_,rfl,rfl,by simp,λid ν' m' H' e1 e2 e3 e4 e5=>⟨⟨_,zero,by rw[e1];omega,bO.o7 (dg.same hk.1),hk.2⟩,?_⟩⟩
  exact .ptr _ _ _ λob' u=>by rw[e2]at u;cases u;exact⟨_,rfl,by rw[e1];rfl⟩
 .
  split at h
  .rename_i C;obtain⟨rfl,rfl⟩:=h;obtain⟨y,_,rfl,h1,B⟩:=r.inv;rw[B.c6];have hc:=h1.fr.cells;refine⟨.row y.cells.length [y.cells],.ptr,by simp[kL,hc.one,C],rfl,by simp,λid ν' m' H' e1 e2 e3 e4 e5=>⟨⟨_,y.cells,by rw[e1];omega,bO.o7 (hc.mono λk hk=>⟨hk,e4 k hk⟩),by rw[hc.one];simp_all⟩,?_⟩⟩
   exact .ptr _ _ _ λob' u=>by rw[e2]at u;cases u;exact⟨_,rfl,by rw[e1];rfl⟩
  grind
 .
  split at h
  .rename_i z;obtain⟨rfl,rfl⟩:=h;obtain⟨y,_,rfl,h1,B⟩:=r.inv;rw[B.c6];obtain⟨Q,rfl,W⟩:=h1.gF;have J:=Dc z W;refine⟨.row Q.length [Q],.ptr,by simp[kL,V.cells,J],rfl,by simp,λid ν' m' H' e1 e2 e3 e4 e5=>⟨⟨_,Q,by rw[e1];omega,W.mono (λk hk=>⟨hk,e4 k hk⟩) λe S=>e5 e (by simp[SV.dh,SV.cG,S]),J⟩,?_⟩⟩
   exact .ptr _ _ _ λob' u=>by rw[e2]at u;cases u;exact⟨_,rfl,by rw[e1];rfl⟩
  grind
 .
  split at h
  .rename_i z;obtain⟨rfl,rfl⟩:=h;obtain⟨y,_,rfl,h1,B⟩:=r.inv;rw[B.c6];obtain⟨X,J⟩:=kj z h1;refine⟨.row [y].length [[y]],.ptr,by simp[kL,X,J],rfl,by simp,λid ν' m' H' e1 e2 e3 e4 e5=>⟨⟨_,[y],by rw[e1];omega,.cons (h1.mono (λk hk=>⟨hk,e4 k hk⟩) λe S=>e5 e (by simp[SV.dh,S])) .nil,by simp_all⟩,?_⟩⟩
   exact .ptr _ _ _ λob' u=>by rw[e2]at u;cases u;exact⟨_,rfl,by rw[e1];rfl⟩
  grind
 .
  rename_i size zero k n k' c;obtain⟨_,_,rfl,h1,B⟩:=r.inv;obtain⟨_,_,rfl,Y,h4⟩:=B.inv;rw[h1.fr.int,Y.fr.int,h4.c6];split at h
  .rename_i hc;obtain⟨rfl,rfl⟩:=h;have T:cI (if n=c then Fl.row else Fl.part)=true:=by split <;> rfl
   refine⟨_,_,by simp only[kL];rw[if_pos hc],T,by simp,λid ν' m' H' e1 e2 e3 e4 e5=>⟨?_,?_⟩⟩
   .simp[dK,T,e1];have hg:=mN hk c.toNat;have U:n.toNat<=c.toNat:=by omega
    refine⟨_,e3,by simp_all,?_,(fM.same hg).DL,λe=>?_⟩
    .simp[Nat.min_eq_left U];exact fM.same (mN hk _)
    grind
   refine .own _ _ λob' u=>?_
   rw[e2]at u;cases u;exact⟨_,_,_,rfl,by rw[qd T,e1];simp[Mk.val]⟩
  grind
 .
  rename_i vs size len zero idx;split at h
  .rename_i xs hx;split at h
   .rename_i z;obtain⟨rows,hr,e⟩:=ζf.1 h;obtain⟨rfl,rfl⟩:=e;have L:=r.dn hx;obtain⟨rows',D,w⟩:=zX   (qs:=idx.zip ys) (fM.same (mN hk len)) (by rw[B9 z,B9 (by rw[<-L.1];exact z)]) (by rw[Cg z,Cg (by rw[<-L.1];exact z)];exact L) hr
    have G:rows'.length=len:=by
     have:∀{O:List (Nat×V)} {a r:List (List V)},gB size a O=some r->r.length=a.length:=by
      intro O
      induction O with
      | nil=>intro a r h;simp[gB]at h;subst h;rfl
      | cons p O ih=>
       intro a r h;simp only[gB]at h;split at h
       .rw[ih h];simp
       simp at h
     rw[this D];simp
    refine⟨.row size rows',.sl size len,by simp only[kL];rw[if_pos (by rw[<-L.1];exact z),D];rfl,rfl,by simp,λid ν' m' H' e1 e2 e3 e4 e5=>⟨?_,?_⟩⟩
    .have I:=w.mono   λk hk=>⟨hk,e4 k hk⟩
     simp only[dK,e1];refine⟨_,e3,by simp[w.1],?_,I.DL,λ_=>⟨trivial,w.1.symm⟩⟩
     simp[w.1];exact I
    refine .own _ _ λob' u=>?_
    rw[e2]at u;cases u;exact⟨_,_,_,rfl,by rw[w.1,G];simp[qC,e1,Mk.val]⟩
   grind
  grind
 .
  obtain⟨rfl,rfl⟩:=h;rw[r.c6];refine⟨_,_,rfl,rfl,by simp,λid ν' m' H' e1 e2 e3 e4 e5=>⟨⟨_,by rw[e1];exact e3,rfl,by simp⟩,?_⟩⟩
  exact .mp _ _ λob' u=>by rw[e2]at u;cases u;exact⟨_,rfl,by rw[e1];rfl⟩
 grind
theorem bO.QA {cs:List SV} {u:List V} (h:bO ν m H Z cs u) {size o:Nat} {x:SV} {y:V} {r:List SV} (D:cR ν m H Z x y) (hp:putCells m size o x cs=some r) (B:u.all V.one=true) :
 y.cells.length=size/\o+size<=u.length/\y.cells.all V.one=true/\bO ν m H Z r (u.take o++y.cells++u.drop (o+y.cells.length))/\(u.take o++y.cells++u.drop (o+y.cells.length)).all V.one=true:=by
 have w:∀k:Nat,(u.take k).all V.one=true/\(u.drop k).all V.one=true:=λk=>
  ⟨List.all_eq_true.2 λz G=>List.all_eq_true.1 B z (List.mem_of_mem_take G),List.all_eq_true.2 λz G=>List.all_eq_true.1 B z (List.mem_of_mem_drop G)⟩
 unfold putCells at hp;split at hp
 .split at hp
  .rename_i hc;simp only[ζa]at hp;subst hp;have C:=D.fr.cells;refine⟨by rw[<-C.1];simp_all,by rw[<-h.1];grind,by rw[C.one];grind,?_,?_⟩
   .have e:y.cells.length=size:=by rw[<-C.1];simp_all
    rw[e];exact((h.take o).append (bO.o7 C)).append (h.drop _)
   simp only[List.all_append,(w _).1,(w _).2,C.one,hc.2.2,Bool.and_self]
  grind
 .split at hp
  .rename_i hc;simp only[ζa]at hp;subst hp;obtain⟨I,rfl,J⟩:=D.gF;have L:=Dc hc.2.2 J;have e:I.length=size:=by rw[<-J.1];simp_all
   refine⟨e,by rw[<-h.1];grind,L,?_,?_⟩
   .show bO ν m H Z _ (u.take o++I++u.drop (o+I.length));rw[e];exact((h.take o).append J).append (h.drop _)
   simp[(w _).1,(w _).2,V.cells,L]
  grind
 split at hp
 .rename_i hc;simp only[ζa]at hp;subst hp;obtain⟨O,Q⟩:=kj hc.1 D;rw[O];refine⟨by simp[hc.2.1],by rw[<-h.1];grind,by simp_all,?_,?_⟩
  .exact((h.take o).append (.cons D .nil)).append (h.drop _)
  grind
 grind
theorem rX {size:Nat} {x:SV} {y:V} {xs:List (List V)} (r:cR ν m H Z x y) (D:∀d ob,a_ m d=some ob->dK ν m H Z d ob) (h:jl m size x=some xs):∃ys,dH H size y=some ys/\fM H Z xs ys:=by
 unfold jl at h;split at h
 .split at h
  .rename_i k es z u;obtain⟨_,_,_,e,rfl⟩:=r.i_ u;cases e;have o:=D _ _ u;simp[dK]at o;split at h
   .rename_i hk;rw[if_pos hk]at o;split at h
    next w=>simp  at h;subst h;obtain⟨ys,hr,B,C,_⟩:=o;rw[qd hk];exact⟨_,by simp[dH,if_pos w,hr,Ob.rows,if_pos B],C⟩
    grind
   rename_i hk;simp  at h;subst h;refine⟨[],?_,rfl,by simp⟩
   cases k <;> simp[cI]at hk <;> rfl
  grind
 .simp  at h;subst h;rw[r.fr.bM];exact⟨[],rfl,rfl,by simp⟩
 .simp  at h;subst h;rw[r.fr.di];exact⟨[],rfl,rfl,by simp⟩
 .split at h
  .rename_i es z w;simp  at h;subst h;have hg:=r.fr.good;rcases r.fr.kB with rfl|⟨id,off,ys,rfl,G,hr,B,C⟩
   .exact⟨_,by simp[dH,if_pos w],fM.same (by simpa [V.good]using hg)⟩
   unfold bl at hr;exact⟨_,by simp[dH,if_pos w,hr,if_pos B],C⟩
  grind
 grind
theorem Ev.re {m1:Tb bB} (B:∀d ob,a_ m1 d=some ob->a_ st.m d=some ob) {d:Nat} (T:d∉st.pin) {ob:bB} {p:Nat×Nat} (D:H.length<=H'.length) (G:∀id,id<H.length->¬eM ν st.m id->¬Rv id->H'[id]? = H[id]?)
 (J:∀id,Z id->bl H' id=bl H id) (hp:cg ob=true->eM ν st.m p.1\/Rv p.1\/H.length<=p.1):Ev Rv ν Z st H (gO ν d p) Z { st with m:=bH m1 d ob } H' where
 len:=D
 same:=λid h C _ hr=>G id h C hr
 rows:=λid h=>⟨h,J id h⟩
 own:=λid h=>by
  rcases Cq h with h|⟨h1,rfl⟩
  .obtain⟨k,o,h1,w,z⟩:=h;exact .inl ⟨k,o,B k o h1,w,z⟩
  grind
 frz:=λid h=>.inl h
 pin:=λe I u h=>by
  have:e≠d:=by grind
  obtain⟨o,h1,w,z⟩:=qM (ν:=ν) (p:=p) this u h
  grind
 pins:=rfl
def Kept (dst:Option Nat) (ν:Nu) (m:Tb bB) (ν':Nu) (m':Tb bB):Prop:=∀e u,dst≠some e->a_ m' e=some u->∃ob,a_ m e=some ob/\ν' e=ν e/\sameShape ob u
theorem Kept.refl {dst:Option Nat}:Kept dst ν m ν m:=λe u _ h=>⟨u,h,rfl,.refl _⟩
theorem Kept.fV {dst:Option Nat} {d:Nat} {ob ob':bB} (z:a_ m d=some ob) (B:sameShape ob ob'):Kept dst ν m ν (bH m d ob'):=λe u _ h=>by
 by_cases k:e=d
 .subst k;rw[cq]at h;grind
 rw[dD m ob' (Ne.symm k)]at h;exact⟨u,h,rfl,.refl _⟩
theorem Kept.add {d:Nat} {ob:bB} {p:Nat×Nat} {m1:Tb bB} (z:∀d ob,a_ m1 d=some ob->a_ m d=some ob):Kept (some d) ν m (gO ν d p) (bH m1 d ob):=λe u w h=>by
 have:e≠d:=λh=>w (by rw[h])
 obtain⟨o,h1,B,C⟩:=qM (ν:=ν) (p:=p) this u h
 grind
theorem jq {d:Nat}:∀e ob,a_ (dQ d m) e=some ob->a_ m e=some ob:=λ_ _ h=>(mE h).2
theorem Bh.put {k x y:V} {a b r:List (V×V)} (G:k.scalar=true) (h:Bh H Z a b) (J:FR H Z x y) (hp:n9 k x a=some r):∃D,n9 k y b=some D/\Bh H Z r D:=by
 unfold n9 at hp;obtain⟨f1,C⟩:=AH   h;split at hp
 .rename_i j v I;simp  at hp;subst hp;obtain⟨L,B,_⟩:=C j v I;refine⟨b.set j (k,y),by unfold n9;rw[B],by simp[h.1],λi u w hu z=>?_⟩
  rw[List.getElem?_set]at hu z;split at hu
  .grind
  rename_i e;rw[if_neg e]at z;exact h.2 i u w hu z
 .simp  at hp;subst hp;refine⟨b++[(k,y)],by unfold n9;simp_all,by simp[h.1],λi u w hu z=>?_⟩
  by_cases hi:i<a.length
  .rw[List.getElem?_append_left hi]at hu;rw[List.getElem?_append_left (by rw[<-h.1];omega)]at z
   exact h.2 i u w hu z
  rw[List.getElem?_append_right (by rw[<-h.1];omega),<-h.1]at z
  grind
 grind
theorem G3 (r:R ν Z st F H) {d:Nat} {cs:List SV} (B:a_ st.m d=some (.box cs)):∀{l:List SV} {D:List V},bO ν st.m H Z l D->l.all (Iw st.m d)=true->D.all (oV (ν d).1)=true:=by
 intro l
 induction l with
 | nil=>intro D C _;rw[C.c6];rfl
 | cons a l O=>
  intro D C G;obtain⟨w,D,rfl,g1,g2⟩:=C.inv;simp only[List.all_cons,ζh]at G ⊢;refine⟨?_,O g2 G.2⟩;have u:=G.1;unfold Iw at u;split at u
  .rename_i Q T;simp  at u;obtain⟨I,J⟩:=u;split at J
   next S z=>obtain⟨_,_,rfl⟩:=g1.ni z;simp[oV];exact λe=>I (r.inj Q d _ _ z B rfl rfl e)
   grind
  .rcases FR.kH g1.fr with rfl|⟨id,el,off,_,_,_,rfl,L,_⟩
   .rfl
   simp[oV];rintro rfl;exact r.apart d _ B rfl L
  grind
theorem As (r:R ν Z st F H) {dst:Option Nat} {l:G0} {svs:List SV} {ys:List V} {sv:SV} (U:bO ν st.m H Z svs ys) (h:k8 st dst l svs=some (sv,st')) :
 ∃y H' ν',fc H l ys=some (y,H')/\R ν' Z st' F H'/\cR ν' st'.m H' Z sv y/\Ev (λ_=>False) ν Z st H ν' Z st' H'/\Kept dst ν st.m ν' st'.m:=by
 unfold k8 at h;split at h
 .
  rename_i size d o x;obtain⟨_,_,rfl,h1,h2⟩:=U.inv;obtain⟨y,_,rfl,h3,h4⟩:=h2.inv;rw[h4.c6];split at h
  .rename_i cs B;obtain⟨av,hp,e⟩:=ζf.1 h;obtain⟨rfl,rfl⟩:=e;obtain⟨_,_,rfl⟩:=h1.ni B;obtain⟨es,G,hr,hc,W⟩:=r.obj d _ B;obtain⟨p1,p2,p3,p4,p5⟩:=bO.QA hc h3 hp W;have J:∀id,id≠(ν d).1->(H.set (ν d).1 (.row es [G.take o++y.cells++G.drop (o+y.cells.length)]))[id]? = H[id]? := λid I=>by grind
   have D:∀id,Z id->Z id/\bl (H.set (ν d).1 (.row es [G.take o++y.cells++G.drop (o+y.cells.length)])) id=bl H id:=λid D=>⟨D,by
    unfold bl;rw[J id (by rintro rfl;exact r.apart d _ B rfl D)]⟩
   refine⟨.undef,H.set (ν d).1 (.row es [G.take o++y.cells++G.drop (o+y.cells.length)]),ν,?_,?_,.v _ _ (.same _ rfl),Ev.fV r B trivial rfl J rfl Zc,Kept.fV B trivial⟩
   .simp only[fc,hr,List.getElem?_cons_zero,if_pos (And.intro p1 (And.intro p2 p3)),List.set_cons_zero]
   refine r.fV B  trivial rfl J rfl ⟨es,_,?_,p4.mono D (λe _ Q he=>?_),p5⟩
   .grind
   by_cases k:e=d
   .subst k;rw[cq]at he;cases he;exact⟨_,B,rfl,trivial⟩
   rw[dD st.m _ (Ne.symm k)]at he;exact⟨Q,he,rfl,.refl _⟩
  grind
 .
  rename_i size d i o x;obtain⟨_,_,rfl,h1,h2⟩:=U.inv;obtain⟨y,_,rfl,h3,h4⟩:=h2.inv;rw[h4.c6];split at h
  .rename_i k es xs B;split at h
   .rename_i cs ai;split at h
    .rename_i hc;obtain⟨rfl,rfl⟩:=h;obtain⟨_,_,_,e,hk,rfl⟩:=h1.vM B;cases e;have ob:=r.obj d _ B;simp[dK,hk]at ob;obtain⟨rs,hr,hl,hf,aj,ak⟩:=ob;obtain⟨c,al,ae⟩:=hf.get ai;have hi:=(ζe.1 ai).1;rw[List.getElem?_take,if_pos hi,List.getElem?_drop]at al;have hy:=h3.fr.cells;have q1:y.cells.length=size:=by rw[<-hy.1];exact hc.1
     have X:o+size<=c.length:=by rw[<-ae.1];exact hc.2.1
     have q3:y.cells.all V.one=true:=by rw[hy.one];exact hc.2.2
     have C:dg H Z (cs.take o++x.cells++cs.drop (o+x.cells.length)) (c.take o++y.cells++c.drop (o+y.cells.length)):=by
      rw[hc.1,q1];exact((ae.take o).append hy).append (ae.drop _)
     generalize hN:(c.take o++y.cells++c.drop (o+y.cells.length))=nc at C;have J:∀id,id≠(ν d).1->(H.set (ν d).1 (.row es (rs.set ((ν d).2+i) nc)))[id]? = H[id]? := λid I=>by rw[List.getElem?_set];rw[if_neg (Ne.symm I)]
     have L  := hk;have D:∀id,Z id->Z id/\bl (H.set (ν d).1 (.row es (rs.set ((ν d).2+i) nc))) id=bl H id:=λid D=>⟨D,by
      unfold bl;rw[J id (by rintro rfl;exact r.apart d _ B L D)]⟩
     have af:sameShape (.sl k es xs) (.sl k es (xs.set i (cs.take o++x.cells++cs.drop (o+x.cells.length)))):=⟨rfl,rfl,by simp⟩
     refine⟨.undef,H.set (ν d).1 (.row es (rs.set ((ν d).2+i) nc)),ν,?_,?_,.v _ _ (.same _ rfl),Ev.fV r B af rfl J L Zc,Kept.fV B af⟩
     .simp only[fc,hr,al,if_pos (And.intro q1 (And.intro X q3)),hN]
     refine r.fV B af rfl J L ?_;simp only[dK,hk];have aw:=(ζe.1 hr).1;refine⟨_,List.getElem?_set_self aw,by simpa using hl,?_,?_,λe=>?_⟩
     .have e1:List.take (xs.set i (cs.take o++x.cells++cs.drop (o+x.cells.length))).length (List.drop (ν d).2 (rs.set ((ν d).2+i) nc))=((rs.drop (ν d).2).take xs.length).set i nc:=by
       rw[List.length_set,List.drop_set,if_neg Za,List.take_set]
       congr 1;omega
      rw[e1];exact(hf.set i C).mono D
     .intro cc am u hu;rcases List.mem_or_eq_of_mem_set am with hm|rfl
      .obtain⟨z,ax⟩:=aj cc hm u hu;exact⟨z,ax.mono D⟩
      obtain⟨j,hj⟩:=List.mem_iff_getElem?.1 hu;have an:=(ζe.1 hj).1;rw[<-C.1]at an;exact⟨_,(C.2 j _ u (ζd an) hj).mono D⟩
     obtain⟨a1,S⟩:=ak e;exact⟨a1,by simpa using S⟩
    simp at h
   grind
  grind
 .
  rename_i kk d k x;obtain⟨_,_,rfl,h1,h2⟩:=U.inv;obtain⟨k',_,rfl,h3,h4⟩:=h2.inv;obtain⟨y,_,rfl,h5,h6⟩:=h4.inv;rw[h6.c6];split at h
  .rename_i ay B;split at h
   .rename_i hk;obtain⟨aJ,hp,e⟩:=ζf.1 h;simp  at e;obtain⟨rfl,rfl⟩:=e;obtain⟨_,_,rfl⟩:=h1.AQ B;have aA:=h3.fr.scalar.1 (tA hk);subst aA;obtain⟨aK,hr,aB⟩:=r.obj d _ B;obtain⟨r',aC,aD⟩:=aB.put (tA hk) h5.fr hp;have J:∀id,id≠(ν d).1->(H.set (ν d).1 (.map r'))[id]? = H[id]? := λid I=>by rw[List.getElem?_set];rw[if_neg (Ne.symm I)]
    have D:∀id,Z id->Z id/\bl (H.set (ν d).1 (.map r')) id=bl H id:=λid D=>⟨D,by
     unfold bl;rw[J id (by rintro rfl;exact r.apart d _ B rfl D)]⟩
    refine⟨.undef,H.set (ν d).1 (.map r'),ν,?_,?_,.v _ _ (.same _ rfl),Ev.fV r B trivial rfl J rfl Zc,Kept.fV B trivial⟩
    .simp[fc,hr,hk,aC]
    refine r.fV B  trivial rfl J rfl ⟨r',?_,aD.mono D⟩;rw[List.getElem?_set_self (ζe.1 hr).1]
   simp at h
  simp at h
 .
  rename_i size s x;obtain⟨y1,_,rfl,h1,h2⟩:=U.inv;obtain⟨y2,_,rfl,h3,h4⟩:=h2.inv;rw[h4.c6];split at h
  .rename_i xs e1 e2;obtain⟨a1,p1,_⟩:=rX h1 r.obj e1;obtain⟨S,p2,X⟩:=rX h3 r.obj e2;have  := List.length_eq_zero_iff.1 (by have:=X.1;simpa using this.symm)
   subst this
   cases dst with
   | none=>simp at h
   | some t=>
    have lit:∀(k:Fl) (x0:V),cI k=false->qC (ν t) k size 0=x0->st.new t=true->(∀y,FR H Z x0 y->y=x0)->FR H Z x0 y1 ->
     ∃y H' ν',fc H (.append size) [y1,y2]=some (y,H')/\R ν' Z { st with m:=bH st.m t (.sl k size []) } F H'/\cR ν' (bH st.m t (.sl k size [])) H' Z (.own t) y/\Ev (λ_=>False) ν Z st H ν' Z { st with m:=bH st.m t (.sl k size []) } H'/\Kept (some t) ν st.m ν' (bH st.m t (.sl k size [])):=λk x0 hk aE hn hx hf=>by
     have ao:cg (.sl k size [])=true->False:=by simp[cg,hk]
     refine⟨y1,H,gO ν t (ν t),by simp[fc,p1,p2],r.add hn   (λh=>(ao h).elim) (by simp[dK,hk]),.own _ _ λQ h'=>?_,Ev.add  hn (Nat.le_refl _) (λ_ _ _=>rfl) (λ_ _=>rfl) (λh=>(ao h).elim),Kept.add λ_ _ h=>h⟩
     rw[cq]at h';cases h';exact⟨_,_,_,rfl,by rw[gb,hx _ hf];exact aE.symm⟩
    cases s with
    | own d=>
     dsimp only at h;split at h
     .rename_i ob B;split at h
      .rename_i C;simp  at h;obtain⟨rfl,rfl⟩:=h;simp[jl,B]at e1
       cases ob with
       | sl k es Y=>
        obtain⟨_,_,_,e,rfl⟩:=h1.i_ B;cases e;have r1:R ν Z { st with m:=dQ d st.m } F H:=r.less  (λ_ _ h=>h) jq
        obtain⟨n1,_,_,_⟩:=kG C;have ap:dK (gO ν t (ν d)) (bH (dQ d st.m) t (.sl k es Y)) H Z t (.sl k es Y):=by
         have o:=r.obj d _ B;simp[dK,gb]at o ⊢;exact o
        refine⟨qC (ν d) k es Y.length,H,gO ν t (ν d),by simp[fc,p1,p2],r1.add C  (λhb=>⟨λT=>?_,r.apart d _ B hb⟩) ap,.own _ _ λQ h'=>?_,?_,Kept.add jq⟩
        .obtain⟨k2,o2,g1,g2,g3⟩:=T;obtain⟨g4,g5⟩:=mE g1;exact g4 (r.inj d k2 _ o2 B g5 hb g2 g3.symm)
        .rw[cq]at h';cases h';exact⟨_,_,_,rfl,by rw[gb]⟩
        by_cases hb:cg (.sl k es Y)=true
        .exact Ev.re  (m1:=dQ d st.m) jq n1 (Nat.le_refl _) (λ_ _ _ _=>rfl) (λ_ _=>rfl) (λ_=>.inl ⟨d,_,B,hb,rfl⟩)
        exact(Ev.less  jq).trans (Ev.add  C (Nat.le_refl _) (λ_ _ _=>rfl) (λ_ _=>rfl) λh=>absurd h hb)
       | box cs=>cases e1
       | mp ay=>cases e1
      simp at h
     simp at h
    | v x0=>
     cases x0 with
     | bM=>
      dsimp only at h;split at h
      next hn=>simp  at h;obtain⟨rfl,rfl⟩:=h;exact lit .nil _ rfl rfl hn (λy h=>h.bM) h1.fr
      simp at h
     | di=>
      dsimp only at h;split at h
      next hn=>simp  at h;obtain⟨rfl,rfl⟩:=h;exact lit .emp _ rfl rfl hn (λy h=>h.di) h1.fr
      simp at h
     | _=>simp at h
    | _=>simp at h
  .rename_i xs zs I e1 e2;split at h
   .rename_i hc;obtain⟨a1,p1,q1⟩:=rX h1 r.obj e1;obtain⟨S,p2,X⟩:=rX h3 r.obj e2
    cases dst with
    | none=>simp at h
    | some t=>
     dsimp only at h;generalize aq:giveUp st.m s=m1 at h;split at h
     .rename_i C;simp  at h;obtain⟨rfl,rfl⟩:=h;obtain⟨n1,_,_,_⟩:=kG C;have grow:∃H1,gq H y1=some H1/\H1.length=H.length/\(∀id,¬eM ν st.m id->H1[id]? = H[id]?) /\
       (∀id,eM ν m1 id->H1[id]? = H[id]?)/\(∀id,Z id->bl H1 id=bl H id):=by
       subst aq
       cases s with
       | own d=>
        simp[jl]at e1;split at e1
        .rename_i k es Y B;obtain⟨_,_,_,e,rfl⟩:=h1.i_ B;cases e
         by_cases hk:cI k=true
         .have o:=r.obj d _ B;simp[dK,hk]at o;obtain⟨ys,hr,_⟩:=o;have L  := hk;have J:∀id,id≠(ν d).1->(H.set (ν d).1 .dead)[id]? = H[id]? := λid I=>by rw[List.getElem?_set];rw[if_neg (Ne.symm I)]
          refine⟨H.set (ν d).1 .dead,by rw[qd hk];simp[gq,hr],by simp,λid T=>J id λe=>T ⟨d,_,B,L,e.symm⟩,λid T=>J id λe=>?_,λid D=>?_⟩
          .obtain⟨k2,o2,g1,g2,g3⟩:=T;obtain⟨g4,g5⟩:=mE g1;exact g4 (r.inj d k2 _ o2 B g5 L g2 (by rw[g3,e]))
          unfold bl;rw[J id (by rintro rfl;exact r.apart d _ B L D)]
         refine⟨H,?_,rfl,λ_ _=>rfl,λ_ _=>rfl,λ_ _=>rfl⟩
         cases k <;> simp[cI]at hk <;> rfl
        simp at e1
       | v x0=>
        refine⟨H,?_,rfl,λ_ _=>rfl,λ_ _=>rfl,λ_ _=>rfl⟩
        cases x0 <;> simp[Eu]at hc
        .rw[h1.fr.di];rfl
        rw[h1.fr.bM];rfl
       | _=>simp[Eu]at hc
      obtain⟨H1,g1,g2,g3,g4,g5⟩:=grow;have O:∀e ob,a_ m1 e=some ob->a_ st.m e=some ob:=by
       subst aq;cases s <;> first|exact λ_ _ h=>h|exact jq
      have ad:∀id,eM ν m1 id->id<H.length:=λid ⟨k,o,w1,w2,w3⟩=>r.lt ⟨k,o,O k o w1,w2,w3⟩
      have aa:∀id,id<H.length->(H1++[Ob.row size (a1++S)])[id]? = H1[id]? := λid hl=>List.getElem?_append_left (by rw[g2];exact hl)
      have ah:∀id,Z id->bl (H1++[Ob.row size (a1++S)]) id=bl H id:=λid D=>by
       have:=g5 id D;unfold bl at this ⊢;rw[aa id (r.uy D)];exact this
      have r1  := r.less  (λ_ _ h=>h) O
      have r2  := r1.heap (λid T=>by rw[aa id (ad id T)];exact g4 id T) ah
      have ff:=(q1.append X).mono   λid D=>⟨D,ah id D⟩
      have ab:(H1++[Ob.row size (a1++S)])[H.length]? = some (.row size (a1++S)):=by
       rw[<-g2];simp
      refine⟨.hsl H.length size 0 (xs.length+zs.length),H1++[Ob.row size (a1++S)],gO ν t (H.length,0),?_,?_,?_,?_,Kept.add O⟩
      .have ar:S≠[]:=by
        rintro rfl;have aF  := List.length_eq_zero_iff.1 (by have:=X.1;simpa using this)
        exact I aF
       have aG:a1.length+S.length<=2147483648:=by rw[<-q1.1,<-X.1];exact hc.1
       have aH:=q1.1;have aI:=X.1
       cases S with
       | nil=>exact absurd rfl ar
       | cons w ws=>
        simp only[fc,p1,p2,if_pos aG,g1,Option.map_some,aH,aI]
      .refine r2.add C (λ_=>⟨λT=>?_,λD=>?_⟩) ?_
       .exact absurd (ad _ T) Zc
       .exact absurd (r.uy D) Zc
       simp only[dK,gb];refine⟨_,ab,by simp[q1.1,X.1],?_,ff.DL,λ_=>⟨trivial,by simp[q1.1,X.1]⟩⟩
       have:(xs++zs).length=(a1++S).length:=by simp[q1.1,X.1]
       rw[this,List.drop_zero,List.take_length];exact ff
      .refine .own _ _ λQ h'=>?_
       simp only at h';rw[cq]at h';cases h';exact⟨_,_,_,rfl,by simp[qC,gb]⟩
      refine Ev.re O n1 (by simp[g2]) (λid hl T _=>?_) ah (λ_=>.inr (.inr (Nat.le_refl _)))
      rw[aa id hl];exact g3 id T
     simp at h
   simp at h
  simp at h
 .
  rename_i size d o x l;obtain⟨_,_,rfl,h1,h2⟩:=U.inv;obtain⟨y,aL,rfl,h3,h4⟩:=h2.inv;split at h
  .rename_i au;split at h
   .rename_i cs B;obtain⟨av,hp,e⟩:=ζf.1 h;simp  at e;obtain⟨rfl,rfl⟩:=e;obtain⟨_,_,rfl⟩:=h1.ni B;obtain⟨es,G,hr,hc,W⟩:=r.obj d _ B;obtain⟨p1,p2,p3,p4,p5⟩:=bO.QA hc h3 hp W;have J:∀id,id≠(ν d).1->(H.set (ν d).1 (.row es [G.take o++y.cells++G.drop (o+y.cells.length)]))[id]? = H[id]? := λid I=>by rw[List.getElem?_set];rw[if_neg (Ne.symm I)]
    have D:∀id,Z id->Z id/\bl (H.set (ν d).1 (.row es [G.take o++y.cells++G.drop (o+y.cells.length)])) id=bl H id:=λid D=>⟨D,by
     unfold bl;rw[J id (by rintro rfl;exact r.apart d _ B rfl D)]⟩
    refine⟨.undef,H.set (ν d).1 (.row es [G.take o++y.cells++G.drop (o+y.cells.length)]),ν,?_,?_,.v _ _ (.same _ rfl),Ev.fV r B trivial rfl J rfl Zc,Kept.fV B trivial⟩
    .simp only[fc,G3 r B h4 au,if_true,hr,List.getElem?_cons_zero,if_pos (And.intro p1 (And.intro p2 p3)),List.set_cons_zero]
    refine r.fV B  trivial rfl J rfl ⟨es,_,?_,p4.mono D (λe _ Q he=>?_),p5⟩
    .have:=(ζe.1 hr).1;rw[List.getElem?_set_self this]
    by_cases k:e=d
    .subst k;rw[cq]at he;cases he;exact⟨_,B,rfl,trivial⟩
    rw[dD st.m _ (Ne.symm k)]at he;exact⟨Q,he,rfl,.refl _⟩
   simp at h
  simp at h
 grind
end
def yE (d:Nat) (st:St):Option St:=
 match a_ st.m d with
 | some (.sl k es u)=>some { st with g:=Av (SV.sub d (mD k es u)) st.g,m:=mapM (SV.sN d (mD k es u)) (dQ d st.m) }
 | _=>none
def Rx (st:St):Loc->Option SV
 | .s n=>a_ st.g n
 | .c b i=>match a_ st.m b with
  | some (.box cs)=>cs[i]?
  | _=>none
def ghost (x:Gh) (st:St):Option St:=
 match x with
 | .closeS l=>match Rx st l with
  | some (.own d)=>yE d st
  | some _=>some st
  | none=>none
 | .close d=>yE d st
 | .closeB d=>match a_ st.m d with
  | some (.box cs)=>match dn cs with
   | some u=>some { st with g:=Av (SV.AF d u) st.g,m:=mapM (SV.pz d u) (dQ d st.m) }
   | none=>none
  | _=>none
 | .canon (.s n) d es=>match a_ st.g n with
  | some (.v .bM)=>if st.new d then some { st with g:=bH st.g n (.own d),m:=bH st.m d (.sl .nil es []) } else none
  | some (.v .di)=>if st.new d then some { st with g:=bH st.g n (.own d),m:=bH st.m d (.sl .emp es []) } else none
  | some (.own e)=>if e=d then some st else if st.new d then some { st with g:=yw e d st.g,m:=sW e d st.m } else none
  | some (.ptr e _)=>if e=d then some st else if st.new d then some { st with g:=yw e d st.g,m:=sW e d st.m } else none
  | _=>none
 | .canon (.c b i) d es=>match a_ st.m b with
  | some (.box cs)=>match cs[i]? with
   | some (.v .bM)=>if st.new d then some { st with m:=bH (bH st.m d (.sl .nil es [])) b (.box (cs.set i (.own d))) } else none
   | some (.v .di)=>if st.new d then some { st with m:=bH (bH st.m d (.sl .emp es [])) b (.box (cs.set i (.own d))) } else none
   | some (.own e)=>if e=d then some st else if st.new d then some { st with g:=yw e d st.g,m:=sW e d st.m } else none
   | _=>none
  | _=>none
 | .keep gs w=>match iV st.g gs,iV st.m w with
  | some g,some m=>some { st with g:=g,m:=m }
  | _,_=>none
 | .drop ds=>some { st with g:=nE ds st.g }
section
variable {Rv:Nat->Prop} {ν ν':Nu} {Z Z':Nat->Prop} {st st':St} {m m':Tb bB} {F F':Frame} {H H':bf} {N:Nat->FuncId}
theorem JS (r:R ν Z st F H) {dst:Option Nat} {size d:Nat} {lo hi:Bool} {T:List SV} {ys:List V} {sv:SV} (D:bO ν st.m H Z (.own d::T) ys) (h:xW st dst size lo hi d T=some (sv,st')) :
 ∃y ν',bq N (.slice size lo hi) ys=some y/\R ν' Z st' F H/\cR ν' st'.m H Z sv y/\Ev Rv ν Z st H ν' Z st' H:=by
 unfold xW at h;obtain⟨y0,zs,rfl,h1,S⟩:=D.inv;split at h
 .rename_i k es G ws t u U;split at h
  .rename_i hk;obtain⟨⟨l,hh⟩,W,h⟩:=ζg.1 h;obtain⟨⟨a,b⟩,B,h⟩:=ζg.1 h;dsimp only at h;split at h
   .rename_i w;obtain⟨rfl,rfl⟩:=h;obtain⟨_,_,_,e,rfl⟩:=h1.i_ u;cases e;have I:b<=G.length/\a<=b:=by
     unfold dM at B
     grind
    have o:=r.obj d _ u;simp[dK,hk.1]at o;obtain⟨rs,hr,hl,X,O,_⟩:=o;have z  := hk.1;have r1:R ν Z { st with m:=dQ d st.m } F H:=r.less  (λ_ _ h=>h) jq
    have J:¬eM ν (dQ d st.m) (ν d).1:=by
     rintro⟨Y,o2,g1,g2,g3⟩;obtain⟨g4,g5⟩:=mE g1;exact g4 (r.inj d Y _ o2 u g5 z g2 g3.symm)
    have C:((G.take b).drop a).length=b-a:=by simp_all
    refine⟨.hsl (ν d).1 es ((ν d).2+a) (b-a),gO ν t ((ν d).1,(ν d).2+a),?_,?_,?_,?_⟩
    .have L:=bO.dn S U;rw[qd hk.1];simp[bq,L.lI W,gL,if_pos hk.2,B]
    .refine r1.add w (λ_=>⟨J,r.apart d _ u z⟩) ?_
     simp[dK,cI,gb];have:=(X.take b).drop a;have e:List.drop a (List.take b (List.take G.length (List.drop (ν d).2 rs)))=List.take (b-a) (List.drop ((ν d).2+a) rs):=by
      rw[List.take_take,Nat.min_eq_left I.1,List.drop_take,List.drop_drop]
     grind
    .refine .own _ _ λaa Q=>?_
     rw[cq]at Q;cases Q;exact⟨_,_,_,rfl,by rw[C];simp[qC,gb]⟩
    exact Ev.re (st:=st) jq (kG w).1 (Nat.le_refl _) (λ_ _ _ _=>rfl) (λ_ _=>rfl) (λ_=>.inl ⟨d,_,u,z,rfl⟩)
   grind
  grind
 grind
theorem C0 {f:SV->SV}:∀{g:Tb SV} {s:Nat},a_ (Av f g) s=(a_ g s).map f
 | [],s=>rfl
 | (k,x)::r,s=>by
  simp[Av,a_];split
  .rfl
  exact C0
def wh (f:List SV->List SV):bB->bB
 | .box cs=>.box (f cs)
 | o=>o
theorem C3 {f:List SV->List SV}:∀{m:Tb bB} {d:Nat},a_ (mapM f m) d=(a_ m d).map (wh f)
 | [],d=>rfl
 | (k,x)::r,d=>by
  cases x <;> simp[mapM,a_] <;> split <;> first|rfl|exact C3
theorem rG {d:Nat} {w:V}:∀{l:List SV} {j:Nat},(SV.sN d w l)[j]? = (l[j]?).map (SV.sub d w)
 | [],j=>by simp[SV.sN]
 | x::r,0=>by simp[SV.sN]
 | x::r,j+1=>by simp[SV.sN,rG ]
theorem pW {d:Nat} {w:List V}:∀{l:List SV} {j:Nat},(SV.pz d w l)[j]? = (l[j]?).map (SV.AF d w)
 | [],j=>by simp[SV.pz]
 | x::r,0=>by simp[SV.pz]
 | x::r,j+1=>by simp[SV.pz,pW ]
theorem mX {d:Nat} {w:V}:∀{l:List SV},(SV.sN d w l).length=l.length
 | []=>rfl
 | x::r=>by simp[SV.sN,mX ]
theorem mw {d:Nat} {w:List V}:∀{l:List SV},(SV.pz d w l).length=l.length
 | []=>rfl
 | x::r=>by simp[SV.pz,mw ]
theorem cR.sub {sv:SV} {y:V} {d:Nat} {k:Fl} {es:Nat} {xs:List (List V)} (G:a_ m d=some (.sl k es xs)) (J:FR H Z' (mD k es xs) (qC (ν d) k es xs.length)) (T:∀id,Z id->Z' id)
 (U:∀e ob',a_ m' e=some ob'->e≠d/\∃ob,a_ m e=some ob/\sameShape ob ob') (r:cR ν m H Z sv y):cR ν m' H Z' (sv.sub d (mD k es xs)) y:=by
 have w:∀id,Z id->Z' id/\bl H id=bl H id:=λid h=>⟨T id h,rfl⟩
 have C:∀e ob',a_ m' e=some ob'->∃ob,a_ m e=some ob/\ν e=ν e/\sameShape ob ob':=λe ob' h=>by grind
 induction r with
 | v x y h=>exact .v x y (h.mono w)
 | own e y h=>
  simp[SV.sub];split
  next I=>subst I;obtain⟨_,_,_,e1,rfl⟩:=h _ G;cases e1;exact .v _ _ J
  exact(cR.own e y h).mono w λe _=>C e
 | ptr e o y h=>exact(cR.ptr e o y h).mono w λe _=>C e
 | el e i o y h=>exact(cR.el e i o y h).mono w λe _=>C e
 | mp e y h=>exact(cR.mp e y h).mono w λe _=>C e
 | clo f a b z L D S hva O B Q=>
  refine .clo f _ _ z L (by rw[mX];omega) (by rw[mX];omega) (λj u v hu hv=>?_) (λj u v hu hv=>?_)
  .rw[rG,ζf]at hu;grind
  rw[rG,ζf]at hu;grind
 | tup a z D hva B=>
  refine .tup _ z (by rw[mX];omega) (λj u v hu hv=>?_)
  rw[rG,ζf]at hu;grind
 | agg a z D hva B=>
  refine .agg _ z (by rw[mX];omega) (λj u v hu hv=>?_)
  rw[rG,ζf]at hu;grind
 | yl id=>exact .yl id
theorem OI {f:FuncId} {a b:List SV} {y:V} (r:cR ν m H Z (.clo f a b) y):cR ν m H Z (MW f a b) y:=by
 unfold MW;split
 .rename_i x z D G;cases r with|clo _ _ _ w B I J hva u=>
  have h1:=bO.dn (ν:=ν) (m:=m) (H:=H) (Z:=Z) (ys:=w) ⟨I,hva⟩ D;have C:=bO.dn (ν:=ν) (m:=m) (H:=H) (Z:=Z) (ys:=B) ⟨J,u⟩ G;exact .v _ _ (.clo f x z w B h1.1 C.1 h1.2 C.2)
 exact r
theorem cR.AF {sv:SV} {y:V} {d:Nat} {cs:List SV} {xs:List V} (T:a_ m d=some (.box cs)) (U:∀o,o<=xs.length->FR H Z' (.fptr (xs.drop o)) (.hptr (ν d).1 0 o)) (W:∀id,Z id->Z' id)
 (Y:∀e ob',a_ m' e=some ob'->e≠d/\∃ob,a_ m e=some ob/\sameShape ob ob') (r:cR ν m H Z sv y):cR ν m' H Z' (sv.AF d xs) y:=by
 have z:∀id,Z id->Z' id/\bl H id=bl H id:=λid h=>⟨W id h,rfl⟩
 have D:∀e ob',a_ m' e=some ob'->∃ob,a_ m e=some ob/\ν e=ν e/\sameShape ob ob':=λe ob' h=>by obtain⟨_,ob,h1,L⟩:=Y e ob' h;exact⟨ob,h1,rfl,L⟩
 induction r with
 | v x y h=>exact .v x y (h.mono z)
 | own e y h=>exact(cR.own e y h).mono z λe _=>D e
 | ptr e o y h=>
  simp only[SV.AF];split
  .rename_i O;subst O;obtain⟨_,e1,rfl⟩:=h _ T;split
   next Q=>exact .v _ _ (U o Q)
   exact(cR.ptr e o _ h).mono z λe _=>D e
  exact(cR.ptr e o y h).mono z λe _=>D e
 | el e i o y h=>exact(cR.el e i o y h).mono z λe _=>D e
 | mp e y h=>exact(cR.mp e y h).mono z λe _=>D e
 | clo f a b G S I X hva aa B J=>
  refine OI (.clo f _ _ G S (by rw[mw];exact I) (by rw[mw];exact X) (λj u v hu hv=>?_) (λj u v hu hv=>?_))
  .rw[pW,ζf]at hu;obtain⟨C,w,rfl⟩:=hu;exact B j C v w hv
  rw[pW,ζf]at hu;obtain⟨C,w,rfl⟩:=hu;exact J j C v w hv
 | tup a G I hva B=>
  refine .tup _ G (by rw[mw];exact I) (λj u v hu hv=>?_)
  rw[pW,ζf]at hu;obtain⟨C,w,rfl⟩:=hu;exact B j C v w hv
 | agg a G I hva B=>
  refine .agg _ G (by rw[mw];exact I) (λj u v hu hv=>?_)
  rw[pW,ζf]at hu;obtain⟨C,w,rfl⟩:=hu;exact B j C v w hv
 | yl id=>exact .yl id
theorem dK.wh {d:Nat} {ob:bB} {f:List SV->List SV} (D:∀id,Z id->Z' id) (T:∀l,(f l).length=l.length)
 (G:∀cs u,bO ν m H Z cs u->bO ν m' H Z' (f cs) u) (o:dK ν m H Z d ob):dK ν m' H Z' d (wh f ob):=by
 have w:∀id,Z id->Z' id/\bl H id=bl H id:=λid h=>⟨D id h,rfl⟩
 cases ob with
 | sl k es Q=>
  simp[Go.VE.wh,dK]at o ⊢;split
  next hk=>rw[if_pos hk]at o;obtain⟨I,h1,z,C,J,L⟩:=o;exact⟨I,h1,z,C.mono w,J.mono w,L⟩
  grind
 | box cs=>
  obtain⟨es,u,h1,z,C⟩:=o;exact⟨es,u,h1,G cs u z,C⟩
 | mp O=>
  obtain⟨B,h1,z⟩:=o;exact⟨B,h1,z.mono w⟩
theorem vn {f:List SV->List SV} {ob:bB}:cg (wh f ob)=cg ob:=by cases ob <;> rfl
theorem IL {f:List SV->List SV} {ob:bB}:sameShape ob (wh f ob):=by cases ob <;> simp[wh,sameShape]
theorem R.shut (r:R ν Z st F H) {d:Nat} {ob:bB} (h0:a_ st.m d=some ob) {fs:SV->SV} {B:List SV->List SV} (hl:∀l,(B l).length=l.length) (hg:∀l (j:Nat),(B l)[j]? = (l[j]?).map fs)
 (z:∀id,Z' id↔Z id\/(cg ob=true/\id=(ν d).1)) (D:cg ob=true->∃es ys,H[(ν d).1]? = some (.row es ys)/\tg H Z ys)
 (hf:∀m',(∀e ob',a_ m' e=some ob'->e≠d/\∃ob,a_ st.m e=some ob/\sameShape ob ob')->∀sv y,cR ν st.m H Z sv y->cR ν m' H Z' (fs sv) y) :
 R ν Z' { st with g:=Av fs st.g,m:=mapM B (dQ d st.m) } F H/\Ev Rv ν Z st H ν Z' { st with g:=Av fs st.g,m:=mapM B (dQ d st.m) } H:=by
 have key:∀e ob',a_ (mapM B (dQ d st.m)) e=some ob'->e≠d/\∃ob,a_ st.m e=some ob/\ob'=wh B ob:=λe ob' h=>by
  rw[C3,ζf]at h;obtain⟨o,h1,rfl⟩:=h;obtain⟨w,h3⟩:=mE h1
  grind
 have L:∀e ob',a_ (mapM B (dQ d st.m)) e=some ob'->e≠d/\∃ob,a_ st.m e=some ob/\sameShape ob ob':=λe ob' h=>by
  obtain⟨h1,o,w,rfl⟩:=key e ob' h;exact⟨h1,o,w,IL⟩
 have hF:=hf _ L;have T:∀cs G,bO ν st.m H Z cs G->bO ν (mapM B (dQ d st.m)) H Z' (B cs) G:=λcs G h=>by
  refine⟨by rw[hl];exact h.1,λj u v hu hv=>?_⟩
  rw[hg,ζf]at hu;obtain⟨u',U,rfl⟩:=hu;exact hF u' v (h.2 j u' v U hv)
 have C  := λid h=>(z id).2 (.inl h)
 refine⟨⟨λs sv S=>?_,λe ob' W=>?_,λd1 d2 o1 o2 h1 w J b2 hp=>?_,λd1 o1 h1 J=>?_,λid h=>?_,⟨λid es ys O hr c hc u hu=>?_⟩⟩,⟨Nat.le_refl _,λ_ _ _ _ _=>rfl,λid h=>⟨C id h,rfl⟩,?_,?_,?_,rfl⟩⟩
 .rw[C0,ζf]at S;obtain⟨Q,X,rfl⟩:=S;exact hF Q _ (r.slot s Q X)
 .obtain⟨h1,o,w,rfl⟩:=key e ob' W;exact dK.wh C hl T (r.obj e o w)
 .obtain⟨_,p1,k1,rfl⟩:=key d1 o1 h1;obtain⟨_,p2,k2,rfl⟩:=key d2 o2 w;rw[vn]at J b2;exact r.inj d1 d2 p1 p2 k1 k2 J b2 hp
 .obtain⟨Y,p1,k1,rfl⟩:=key d1 o1 h1;rw[vn]at J;intro O;rcases (z _).1 O with O|⟨I,W⟩
  .exact r.apart d1 p1 k1 J O
  exact Y (r.inj d1 d p1 ob k1 h0 J I W)
 .rcases (z id).1 h with h|⟨I,rfl⟩
  .exact r.zrow id h
  obtain⟨es,ys,hr,_⟩:=D I;unfold bl;rw[hr];rfl
 .rcases (z id).1 O with h|⟨I,rfl⟩
  .obtain⟨x,hx⟩:=r.deep.row id es ys h hr c hc u hu;exact⟨x,hx.mono λk hk=>⟨C k hk,rfl⟩⟩
  obtain⟨ab,ad,aa,S⟩:=D I;unfold bl at hr;rw[aa]at hr;obtain⟨_,rfl⟩:=hr;obtain⟨x,hx⟩:=S c hc u hu;exact⟨x,hx.mono λk hk=>⟨C k hk,rfl⟩⟩
 .rintro id ⟨e,o,h1,w,h3⟩;obtain⟨_,p,k1,rfl⟩:=key e o h1;rw[vn]at w;exact .inl ⟨e,p,k1,w,h3⟩
 .intro id h;rcases (z id).1 h with h|⟨I,rfl⟩
  .grind
  exact .inr (.inl ⟨d,ob,h0,I,rfl⟩)
 grind
theorem Ea (r:R ν Z st F H) {d:Nat} (h:yE d st=some st'):∃Z',R ν Z' st' F H/\Ev Rv ν Z st H ν Z' st' H:=by
 simp[yE]at h;split at h
 .rename_i k es w u;simp  at h;subst h;have o:=r.obj d _ u;refine⟨λid=>Z id\/(cg (.sl k es w)=true/\id=(ν d).1),R.shut r u (λ_=>mX) (λ_ _=>rG) (λ_=>Iff.rfl) (λB=>?_) (λm' z G y hr=>?_)⟩
  .have hk:cI k=true:=B;simp[dK,hk]at o
   grind
  refine cR.sub u ?_ (λid h=>.inl h) z hr
  by_cases hk:cI k=true
  .simp[dK,hk]at o;obtain⟨I,hr,C,D,J,_⟩:=o;rw[qd hk];have e:mD k es w=.fsl es w:=by cases k <;> simp[cI]at hk <;> rfl
   rw[e];refine FR.HN (.inr ⟨hk,rfl⟩) (by unfold bl;rw[hr];rfl) C (D.mono λid h=>⟨.inl h,rfl⟩)
  cases k <;> simp[cI]at hk
  .exact .same _ rfl
  exact .same _ rfl
 grind
theorem KN (r:R ν Z st F H) {d:Nat} (h:ghost (.closeB d) st=some st'):∃Z',R ν Z' st' F H/\Ev Rv ν Z st H ν Z' st' H:=by
 simp[ghost]at h;split at h
 .rename_i cs w;split at h
  .rename_i I J;simp  at h;subst h;obtain⟨es,z,hr,hc,_⟩:=r.obj d _ w;have C:=hc.dn J;have L:tg H Z [z]:=by
    intro c B u hu;simp[List.mem_singleton]at B;subst B;obtain⟨j,O⟩:=List.mem_iff_getElem?.1 hu;have Q:j<I.length:=by rw[C.1];grind
    exact⟨_,C.2 j _ u (ζd Q) O⟩
   refine⟨λid=>Z id\/(cg (.box cs)=true/\id=(ν d).1),R.shut r w (λ_=>mw) (λ_ _=>pW) (λ_=>Iff.rfl) (λS=>⟨es,_,hr,L⟩) (λm' D T y G=>?_)⟩
   refine cR.AF w (λo U=>?_) (λid h=>.inl h) D G
   exact FR.BP (.inr ⟨rfl,rfl⟩) (show bl H (ν d).1=some (es,[z])by unfold bl;rw[hr];rfl) rfl (by rw[<-C.1];omega) ((C.drop o).mono λid h=>⟨.inl h,rfl⟩)
  grind
 grind
theorem qW {d e:Nat}:∀{l:List SV} {j:Nat},(SV.sY d e l)[j]? = (l[j]?).map (SV.r_ d e)
 | [],j=>by simp[SV.sY]
 | x::r,0=>by simp[SV.sY]
 | x::r,j+1=>by simp[SV.sY,qW ]
theorem ng {d e:Nat}:∀{l:List SV},(SV.sY d e l).length=l.length
 | []=>rfl
 | x::r=>by simp[SV.sY,ng ]
theorem Ds {d e:Nat}:∀{g:Tb SV} {s:Nat},a_ (yw d e g) s=(a_ g s).map (SV.r_ d e)
 | [],s=>rfl
 | (k,x)::r,s=>by
  simp[yw,a_];split
  .rfl
  exact Ds
theorem yV {d e:Nat} (u:d≠e):∀{m:Tb bB} {k:Nat},a_ m e=none->a_ (sW d e m) k=(if k=d then none else(a_ m (if k=e then d else k)).map (bB.r_ d e))
 | [],k,_=>by simp[sW,a_]
 | (n,x)::r,k,h=>by
  simp[a_]at h;split at h
  .simp_all
  have z:=yV u  (k:=k) h;simp[sW,a_]
  grind
def tq (ν:Nu) (d e:Nat):Nu:=λk=>if k=e then ν d else ν k
theorem cR.r_ {sv:SV} {y:V} {d e:Nat} (T:a_ m e=none) (D:sv.cG e=false) (J:d≠e) (r:cR ν m H Z sv y):cR (tq ν d e) (sW d e m) H Z (sv.r_ d e) y:=by
 have key:∀k,k≠e->∀w,a_ (sW d e m) (if k=d then e else k)=some w->∃ob,a_ m k=some ob/\tq ν d e (if k=d then e else k)=ν k/\w=ob.r_ d e:=λk hk w h=>by
  rw[yV J T]at h
  by_cases h1:k=d
  .subst h1;rw[if_pos rfl,if_neg (Ne.symm J),if_pos rfl,ζf]at h;obtain⟨ob,B,rfl⟩:=h;exact⟨ob,B,by unfold tq;grind,rfl⟩
  rw[if_neg h1,if_neg h1,if_neg hk,ζf]at h;obtain⟨ob,B,rfl⟩:=h;exact⟨ob,B,by unfold tq;grind,rfl⟩
 induction r with
 | v x y h=>exact .v x y h
 | own k y h=>
  have hk:k≠e:=by rintro rfl;simp[SV.cG]at D
  refine .own _ y λw G=>?_
  obtain⟨ob,h1,B,rfl⟩:=key k hk w G;obtain⟨_,_,_,rfl,rfl⟩:=h ob h1;exact⟨_,_,_,rfl,by rw[B]⟩
 | ptr k o y h=>
  have hk:k≠e:=by rintro rfl;simp[SV.cG]at D
  refine .ptr _ o y λw G=>?_
  obtain⟨ob,h1,B,rfl⟩:=key k hk w G;obtain⟨_,rfl,rfl⟩:=h ob h1;exact⟨_,rfl,by rw[B]⟩
 | el k i o y h=>
  have hk:k≠e:=by rintro rfl;simp[SV.cG]at D
  refine .el _ i o y λw G=>?_
  obtain⟨ob,h1,B,rfl⟩:=key k hk w G;obtain⟨_,_,_,rfl,S,rfl⟩:=h ob h1;exact⟨_,_,_,rfl,S,by rw[B]⟩
 | mp k y h=>
  have hk:k≠e:=by rintro rfl;simp[SV.cG]at D
  refine .mp _ y λw G=>?_
  obtain⟨ob,h1,B,rfl⟩:=key k hk w G;obtain⟨_,rfl,rfl⟩:=h ob h1;exact⟨_,rfl,by rw[B]⟩
 | clo f a b L U Q X hva W C O=>
  simp[SV.cG]at D;refine .clo f _ _ L U (by rw[ng];omega) (by rw[ng];omega) (λj u v hu hv=>?_) (λj u v hu hv=>?_)
  .rw[qW,ζf]at hu;obtain⟨I,z,rfl⟩:=hu;exact C j I v z hv (rC D.1 z)
  rw[qW,ζf]at hu;obtain⟨I,z,rfl⟩:=hu;exact O j I v z hv (rC D.2 z)
 | tup a L Q hva C=>
  refine .tup _ L (by rw[ng];omega) (λj u v hu hv=>?_)
  rw[qW,ζf]at hu;obtain⟨I,z,rfl⟩:=hu;exact C j I v z hv (rC D z)
 | agg a L Q hva C=>
  refine .agg _ L (by rw[ng];omega) (λj u v hu hv=>?_)
  rw[qW,ζf]at hu;obtain⟨I,z,rfl⟩:=hu;exact C j I v z hv (rC D z)
 | yl id=>exact .yl id
theorem D0 (r:R ν Z st F H) {d e:Nat} (B:d≠e) (Y:st.new e=true):R (tq ν d e) Z { st with g:=yw d e st.g,m:=sW d e st.m } F H/\Ev Rv ν Z st H (tq ν d e) Z { st with g:=yw d e st.g,m:=sW d e st.m } H:=by
 obtain⟨n1,J,X,n4⟩:=kG Y;have key:∀k w,a_ (sW d e st.m) k=some w->∃k0 ob,a_ st.m k0=some ob/\w=ob.r_ d e/\tq ν d e k=ν k0/\k≠d/\(k=e/\k0=d\/k≠e/\k0=k):=λk w h=>by
  rw[yV B J]at h;split at h
  .simp_all
  rename_i h1;rw[ζf]at h;obtain⟨ob,z,rfl⟩:=h
  by_cases C:k=e
  .rw[if_pos C]at z;exact⟨d,ob,z,rfl,by unfold tq;grind,h1,.inl ⟨C,rfl⟩⟩
  rw[if_neg C]at z;exact⟨k,ob,z,rfl,by unfold tq;grind,h1,.inr ⟨C,rfl⟩⟩
 have L:∀ob:bB,cg (ob.r_ d e)=cg ob:=λob=>by cases ob <;> rfl
 refine⟨⟨λs sv U=>?_,λk w hk=>?_,λd1 d2 o1 o2 h1 z D W hp=>?_,λd1 o1 h1 D=>?_,r.zrow,r.deep⟩,⟨Nat.le_refl _,λ_ _ _ _ _=>rfl,λid h=>⟨h,rfl⟩,?_,λ_ h=>.inl h,?_,rfl⟩⟩
 .rw[Ds,ζf]at U;obtain⟨O,G,rfl⟩:=U;exact cR.r_ J (wU X G) B (r.slot s O G)
 .obtain⟨k0,ob,h1,rfl,z,_,_⟩:=key k w hk;have o:=r.obj k0 ob h1
  cases ob with
  | sl fl es xs=>simp[bB.r_,dK,z]at o ⊢;omega
  | box cs=>
   obtain⟨es,Q,g1,g2,g3⟩:=o;have S  := by have:=wP n4 h1;simpa [bB.cG]using this
   refine⟨es,Q,by grind,⟨by rw[ng];exact g2.1,λj u v hu hv=>?_⟩,g3⟩
   rw[qW,ζf]at hu;obtain⟨u',I,rfl⟩:=hu;exact cR.r_ J (rC S I) B (g2.2 j u' v I hv)
  | mp aa=>simp[bB.r_,dK,z]at o ⊢;omega
 .obtain⟨k1,p1,g1,rfl,e1,c1,T⟩:=key d1 o1 h1;obtain⟨k2,p2,g2,rfl,e2,c3,c4⟩:=key d2 o2 z;rw[L]at D W;have:=r.inj k1 k2 p1 p2 g1 g2 D W Zd
  omega
 .obtain⟨k1,p1,g1,rfl,e1,_⟩:=key d1 o1 h1;rw[L]at D;rw[e1];exact r.apart k1 p1 g1 D
 .rintro id ⟨k,o,h1,z,C⟩;obtain⟨k1,p1,g1,rfl,e1,_⟩:=key k o h1;rw[L]at z;exact .inl ⟨k1,p1,g1,z,by grind⟩
 intro k hk w h;obtain⟨k1,p1,g1,rfl,e1,c1,T⟩:=key k w h;rcases T with⟨rfl,_⟩|⟨T,rfl⟩
 .grind
 exact⟨p1,g1,e1,by cases p1 <;> simp[bB.r_,sameShape]⟩
theorem R.Tn (r:R ν Z st F H) {n:Nat} {sv:SV} (h:cR ν st.m H Z sv (get F n)):R ν Z { st with g:=bH st.g n sv } F H where
 slot:=λs x u=>by
  by_cases e:n=s
  .subst e;rw[cq]at u;grind
  rw[dD st.g sv e]at u;exact r.slot s x u
 obj:=r.obj
 inj:=r.inj
 apart:=r.apart
 zrow:=r.zrow
 deep:=r.deep
theorem KU (r:R ν Z st F H) {n d es:Nat} {k:Fl} {x:V} (hk:mD k es []=x/\cI k=false) (B:a_ st.g n=some (.v x)) (z:st.new d=true) (D:∀y,FR H Z x y->y=x) (G:qC (ν d) k es 0=x) :
 R (gO ν d (ν d)) Z { st with g:=bH st.g n (.own d),m:=bH st.m d (.sl k es []) } F H/\Ev Rv ν Z st H (gO ν d (ν d)) Z { st with g:=bH st.g n (.own d),m:=bH st.m d (.sl k es []) } H:=by
 have u:cg (.sl k es [])=true->False:=by simp[cg,hk.2]
 have r1:=r.add z (p:=ν d)  (λh=>(u h).elim) (by simp[dK,hk.2])
 refine⟨r1.Tn   (.own _ _ λC w=>?_),?_⟩
 .rw[cq]at w;cases w;rw[gb,D _ (r.slot n _ B).fr]
  grind
 exact(Ev.add  z (Nat.le_refl _) (λ_ _ _=>rfl) (λ_ _=>rfl) (λh=>(u h).elim)).trans (Ev.slots _)
theorem JO (r:R ν Z st F H) {b i d es:Nat} {k:Fl} {x:V} {cs:List SV} (hk:cI k=false) (T:a_ st.m b=some (.box cs)) (hi:cs[i]? = some (.v x)) (D:st.new d=true) (U:∀y,FR H Z x y->y=x) (W:qC (ν d) k es 0=x) :
 ∃ν',R ν' Z { st with m:=bH (bH st.m d (.sl k es [])) b (.box (cs.set i (.own d))) } F H/\Ev Rv ν Z st H ν' Z { st with m:=bH (bH st.m d (.sl k es [])) b (.box (cs.set i (.own d))) } H:=by
 have B:cg (.sl k es [])=true->False:=by simp[cg,hk]
 have r1:=r.add D (p:=ν d)  (λh=>(B h).elim) (by simp[dK,hk])
 have C:b≠d:=by rintro rfl;rw[(kG D).2.1]at T;cases T
 have z:a_ (bH st.m d (.sl k es [])) b=some (.box cs):=by rw[dD _ _ (Ne.symm C)];omega
 obtain⟨G,I,h1,J,Q⟩:=r1.obj b _ z;have sm:∀e w,a_ (bH (bH st.m d (.sl k es [])) b (.box (cs.set i (.own d)))) e=some w->∃ob,a_ (bH st.m d (.sl k es [])) e=some ob/\gO ν d (ν d) e=gO ν d (ν d) e/\sameShape ob w:=λe w h=>by
  by_cases L:e=b
  .subst L;rw[cq]at h;cases h;exact⟨_,z,rfl,trivial⟩
  rw[dD _ _ (Ne.symm L)]at h;exact⟨w,h,rfl,.refl _⟩
 refine⟨gO ν d (ν d),r1.fV  z  trivial rfl (λ_ _=>rfl) rfl ⟨G,I,h1,⟨by simp[J.1],λj u v hu hv=>?_⟩,Q⟩,?_⟩
 .rw[List.getElem?_set]at hu;split at hu
  .rename_i e;subst e;split at hu
   .cases hu;refine .own _ _ λw O=>?_
    rw[dD _ _ C,cq]at O;cases O;rw[gb,U v (J.2 i _ v hi hv).fr]
    grind
   grind
  exact(J.2 j u v hu hv).mono (λid h=>⟨h,rfl⟩) λe _=>sm e
 exact(Ev.add  D (Nat.le_refl _) (λ_ _ _=>rfl) (λ_ _=>rfl) (λh=>(B h).elim)).trans (Ev.fV r1 z trivial rfl (λ_ _=>rfl) rfl (Nat.le_refl _))
theorem MA (r:R ν Z st F H) {x:Gh} (h:ghost x st=some st'):∃ν' Z',R ν' Z' st' F H/\Ev Rv ν Z st H ν' Z' st' H:=by
 cases x with
 | close d=>obtain⟨Z',a,b⟩:=Ea (Rv:=Rv) r h;grind
 | closeS l=>
  simp[ghost]at h;split at h
  .obtain⟨Z',a,b⟩:=Ea (Rv:=Rv) r h;grind
  .simp  at h;subst h;exact⟨ν,Z,r,.refl⟩
  grind
 | closeB d=>obtain⟨Z',a,b⟩:=KN (Rv:=Rv) r h;grind
 | keep gs G=>
  simp[ghost]at h;split at h
  next g m hg B=>simp  at h;subst h;exact⟨ν,Z,r.less (λs D w=>ow hg w) (λd ob hd=>ow B hd),Ev.less (λd ob hd=>ow B hd)⟩
  grind
 | drop ds=>
  simp[ghost]at h;subst h;exact⟨ν,Z,r.less   (λs D w=>mO w) (λd ob hd=>hd),Ev.less   (λd ob hd=>hd)⟩
 | canon l d es=>
  cases l with
  | s n=>
   simp[ghost]at h;split at h
   .rename_i w;split at h
    .rename_i u;simp  at h;obtain⟨a,b⟩:=KU (Rv:=Rv) (es:=es) (k:=.nil) r ⟨rfl,rfl⟩ w u (λy h=>h.bM) rfl
     grind
    grind
   .rename_i w;split at h
    .rename_i u;simp  at h;obtain⟨a,b⟩:=KU (Rv:=Rv) (es:=es) (k:=.emp) r ⟨rfl,rfl⟩ w u (λy h=>h.di) rfl
     grind
    grind
   .split at h
    .simp  at h;subst h;exact⟨ν,Z,r,.refl⟩
    rename_i z;split at h
    .rename_i u;simp  at h;obtain⟨a,b⟩:=D0 (Rv:=Rv) r z u
     grind
    grind
   .split at h
    .simp  at h;subst h;exact⟨ν,Z,r,.refl⟩
    rename_i z;split at h
    .rename_i u;simp  at h;obtain⟨a,b⟩:=D0 (Rv:=Rv) r z u
     grind
    grind
   grind
  | c b i=>
   simp[ghost]at h;split at h
   .rename_i cs C;split at h
    .rename_i w;split at h
     .rename_i u;simp  at h;obtain⟨ν',a,b⟩:=JO (Rv:=Rv) (es:=es) (k:=.nil) r rfl C w u (λy h=>h.bM) rfl
      grind
     grind
    .rename_i w;split at h
     .rename_i u;simp  at h;obtain⟨ν',a,b⟩:=JO (Rv:=Rv) (es:=es) (k:=.emp) r rfl C w u (λy h=>h.di) rfl
      grind
     grind
    .split at h
     .simp  at h;subst h;exact⟨ν,Z,r,.refl⟩
     rename_i z;split at h
     .rename_i u;simp  at h;obtain⟨a,b⟩:=D0 (Rv:=Rv) r z u
      grind
     grind
    grind
   grind
end
structure nS (E:Env) (f:FuncId) (q:GZ):Prop where
 keep:E.keep f=true
 own:E.own f=false
 le:∀es xs vs ys,q.go es xs vs=some ys->ys.length<=xs.length/\(q.part=false->ys.length=xs.length)
 none:∀es vs ys,q.go es [] vs=some ys->∀(H:bf) (Z:Nat->Prop) (ws:List V) (w:V),dg H Z vs ws->(w=.bM\/w=.di)->∃n X,∀k,n<=k->run E k (.fn f) (w::ws) H=some (if q.part then w else .undef,H++X)
 row:∀es xs vs ys,q.go es xs vs=some ys->∀(H:bf) (Z:Nat->Prop) (ws:List V) (id off:Nat) (rs:List (List V)),dg H Z vs ws->H[id]? = some (.row es rs)->off+xs.length<=rs.length ->
  fM H Z xs ((rs.drop off).take xs.length)->tg H Z rs->¬Z id->∃n rs' X,(∀k,n<=k->run E k (.fn f) (.hsl id es off xs.length::ws) H=some (if q.part then .hsl id es off ys.length else .undef,(H++X).set id (.row es rs'))) /\
   rs'.length=rs.length/\fM H Z ys ((rs'.drop off).take ys.length)/\tg H Z rs'
section
variable {Rv:Nat->Prop} {ν ν':Nu} {Z Z':Nat->Prop} {st st':St} {m m':Tb bB} {F F':Frame} {H H':bf}
theorem Pm {E:Env} {f:FuncId} {q:GZ} (hq:nS E f q) (r:R ν Z st F H) {args:List SV} {ys:List V} (ha:bO ν st.m H Z args ys) {dst:Option Nat} {sv:SV} (h:Gb q dst args st=some (sv,st')) :
 ∃n y H' ν',(∀k,n<=k->run E k (.fn f) ys H=some (y,H'))/\R ν' Z st' F H'/\cR ν' st'.m H' Z sv y/\Ev Rv ν Z st H ν' Z st' H'/\Kept dst ν st.m ν' st'.m:=by
 unfold Gb at h;split at h
 .rename_i d vs;obtain⟨w,ws,rfl,h1,h2⟩:=ha.inv;split at h
  .rename_i k es xs zs u G;have aa:=bO.dn h2 G;split at h
   .rename_i ns T;obtain⟨al,af⟩:=hq.le _ _ _ _ T;obtain⟨_,_,_,ee,rfl⟩:=h1.i_ u;cases ee;have grow:∀X:bf,R ν Z st F (H++X)/\Ev Rv ν Z st H ν Z st (H++X)/\∀id,Z id->bl (H++X) id=bl H id:=λX=>by
     have hx:∀id,id<H.length->(H++X)[id]? = H[id]? := λid h=>List.getElem?_append_left h
     have G:∀id,Z id->bl (H++X) id=bl H id:=λid h=>by unfold bl;rw[hx id (r.uy h)]
     exact⟨r.heap (λid h=>hx id (r.lt h)) G,Ev.heap Zc (λid h _ _ _=>hx id h) G,G⟩
    have o:=r.obj d _ u
    cases hk:cI k with
    | false=>
     simp only[dK,hk,Bool.false_eq_true,if_false]at o;subst o;have hw:qC (ν d) k es 0=.bM\/qC (ν d) k es 0=.di:=by cases k <;> simp[qC,cI]at hk ⊢
     obtain⟨n,X,L⟩:=hq.none _ _ _ T H Z ws _ aa hw;obtain⟨r0,I,U⟩:=grow X;simp only[hk,Bool.false_eq_true,if_false]at h;split at h
     .rename_i O;split at h
      .rename_i t;split at h
       .rename_i z;simp only[ζa,ζc]at h;obtain⟨rfl,rfl⟩:=h;have r1:R ν Z { st with m:=dQ d st.m } F (H++X):=r0.less (g:=st.g) (λ_ _ h=>h) jq
        rw[if_pos O]at L;refine⟨n,_,H++X,gO ν t (ν d),L,r1.add z (λhb=>by simp[cg,hk]at hb) (by simp[dK,hk]),?_,?_,Kept.add jq⟩
        .refine .own _ _ λah W=>?_
         simp only at W;rw[cq]at W;cases W;exact⟨_,_,_,rfl,by rw[gb];rfl⟩
        exact I.trans (Ev.re (st:=st) jq (kG z).1 (Nat.le_refl _) (λ_ _ _ _=>rfl) (λ_ _=>rfl) (λhb=>by simp[cg,hk]at hb))
       cases h
      cases h
     rename_i O;simp only[ζa,ζc]at h;obtain⟨rfl,rfl⟩:=h;rw[if_neg O]at L;have hu:bH st.m d (.sl k es [])=st.m:=nX u;rw[hu];exact⟨n,_,H++X,ν,L,r0,.v _ _ (.same _ rfl),I,.refl⟩
    | true=>
     simp only[dK,hk,if_true]at o;obtain⟨rs,hr,hl,hf,ab,Q⟩:=o;have B:cg (.sl k es xs)=true:=hk;obtain⟨n,C,X,L,e1,e2,e3⟩:=hq.row _ _ _ _ T H Z ws _ _ rs aa hr hl hf ab (r.apart d _ u B);obtain⟨r0,I,U⟩:=grow X;have ai:(ν d).1<(H++X).length:=by have:=(ζe.1 hr).1;simp;omega
     have G:∀id,Z id->Z id/\bl ((H++X).set (ν d).1 (.row es C)) id=bl H id:=λid D=>⟨D,by
      rw[<-U id D];unfold bl;rw[List.getElem?_set_ne];rintro rfl;exact r.apart d _ u B D⟩
     have ad:∀id,Z id->bl ((H++X).set (ν d).1 (.row es C)) id=bl (H++X) id:=λid D=>by rw[(G id D).2,U id D]
     have hh:∀id,id≠(ν d).1->((H++X).set (ν d).1 (Ob.row es C))[id]? = (H++X)[id]? := λid aj=>List.getElem?_set_ne (Ne.symm aj)
     have J:((H++X).set (ν d).1 (Ob.row es C))[(ν d).1]? = some (.row es C):=List.getElem?_set_self ai;rw[qd hk];simp only[hk,if_true]at h;split at h
     .rename_i O;split at h
      .rename_i t;split at h
       .rename_i z;simp only[ζa,ζc]at h;obtain⟨rfl,rfl⟩:=h;have r1:R ν Z { st with m:=dQ d st.m } F (H++X):=r0.less (g:=st.g) (λ_ _ h=>h) jq
        have ae:¬eM ν (dQ d st.m) (ν d).1:=by
         rintro⟨k2,o2,g1,g2,g3⟩;obtain⟨g4,g5⟩:=mE g1;exact g4 (r.inj d k2 _ o2 u g5 B g2 g3.symm)
        have r2:R ν Z { st with m:=dQ d st.m } F ((H++X).set (ν d).1 (.row es C)):=r1.heap (λid ho=>hh id (by rintro rfl;exact ae ho)) ad
        rw[if_pos O]at L;refine⟨n,_,_,gO ν t (ν d),L,r2.add z (λ_=>⟨ae,r.apart d _ u B⟩) ?_,?_,?_,Kept.add jq⟩
        .simp only[dK,cI,if_true,gb];exact⟨C,J,by omega,e2.mono G,e3.mono G,λe=>by cases e⟩
        .refine .own _ _ λah W=>?_
         simp only at W;rw[cq]at W;cases W;exact⟨_,_,_,rfl,by rw[gb];rfl⟩
        exact I.trans (Ev.re (st:=st) jq (kG z).1 Zc (λid _ ho _=>hh id (by rintro rfl;exact ho ⟨d,_,u,B,rfl⟩)) ad (λ_=>.inl ⟨d,_,u,B,rfl⟩))
       cases h
      cases h
     rename_i O;simp only[ζa,ζc]at h;obtain⟨rfl,rfl⟩:=h;rw[if_neg O]at L;have ak:q.part=false:=by simpa using O
     have S:=af ak;have Y:sameShape (.sl k es xs) (.sl k es ns):=⟨rfl,rfl,S⟩;refine⟨n,_,_,ν,L,r0.fV u Y rfl hh B ?_,.v _ _ (.same _ rfl),I.trans (Ev.fV r0 u Y rfl hh B Zc),Kept.fV u Y⟩
     simp only[dK,hk,if_true];exact⟨C,J,by omega,e2.mono G,e3.mono G,λe=>⟨(Q e).1,by rw[e1,(Q e).2,S]⟩⟩
   cases h
  cases h
 cases h
end
def sS:Nat->List SV->Tb SV
 | _,[]=>[]
 | i,v::vs=>(i,v)::sS (i+1) vs
def start (svs:List SV) (u:c9):St:=⟨sS 0 svs,u,u.map (·.1),[],true,0⟩
def gY (S:Sys) (c:bN):Prop:=
 ∀f u w rs z,c f u w=some (rs,z)->∀(ν:Nu) (Z:Nat->Prop) (args:List V) (H:bf),(S.E.keep f=true\/H=[])->R ν Z (start u w) args H->bO ν w H Z u args ->
  ∃n y H' ν' Z' st' F' B,run S.E n (.fn f) args H=some (y,H')/\y=result B/\st'.m=z/\bO ν' z H' Z' rs B/\R ν' Z' st' F' H'/\Ev (λ_=>False) ν Z (start u w) H ν' Z' st' H'
section
variable {Rv:Nat->Prop} {ν ν':Nu} {Z Z':Nat->Prop} {st st':St} {m m':Tb bB} {F F':Frame} {H H' H1:bf} {N:Nat->FuncId}
theorem Lo {k:Fl} {es:Nat} {xs:List (List V)} {d:Nat} (o:dK ν m H Z d (.sl k es xs)):(mD k es xs).good=true:=by
 by_cases hk:cI k=true
 .simp only[dK,hk,if_true]at o;obtain⟨w,_,_,u,_⟩:=o;have e:mD k es xs=.fsl es xs:=by cases k <;> simp[cI]at hk <;> rfl
  rw[e];simp only[V.good];exact u.good
 cases k <;> simp[cI]at hk <;> rfl
mutual
theorem K8 (D:∀d ob,a_ m d=some ob->dK ν m H Z d ob):∀(n:Nat) (sv:SV) (x y:V),shut m n sv=some x->cR ν m H Z sv y->x.good=true
 | n,.v x,z,y,h,r=>by simp only[shut,ζa]at h;subst h;exact r.fr.good
 | n,.own d,z,y,h,r=>by
  simp only[shut]at h;split at h
  next k es xs B=>simp only[ζa]at h;subst h;exact Lo (D d _ B)
  simp at h
 | 0,.ptr d o,z,y,h,r=>by simp[shut]at h
 | n+1,.ptr d o,z,y,h,r=>by
  simp only[shut]at h;split at h
  .rename_i cs B;split at h
   .rename_i xs T;split at h
    .simp only[ζa]at h;subst h;obtain⟨es,G,_,hc,_⟩:=D d _ B;simp only[V.good];exact we _ (lz D n cs xs G T hc)
    simp at h
   simp at h
  simp at h
 | n,.el d i o,z,y,h,r=>by cases n <;> simp[shut]at h
 | n,.yl id,z,y,h,r=>by cases n <;> simp[shut]at h
 | n,.mp d,z,y,h,r=>by
  simp only[shut]at h;split at h
  .rename_i L B;simp only[ζa]at h;subst h;obtain⟨w,_,hk⟩:=D d _ B;simp only[V.good];refine Dd.2 λj u hu=>?_
   have O:j<w.length:=by rw[<-hk.1];exact(ζe.1 hu).1
   obtain⟨⟨_,h1⟩,C⟩:=hk.2 j u _ hu (ζd O);exact⟨jv h1,C.good⟩
  simp at h
 | 0,.clo f a b,z,y,h,r=>by simp[shut]at h
 | n+1,.clo f a b,z,y,h,r=>by
  simp only[shut]at h;split at h
  next Q x2 h1 C=>simp only[ζa]at h;subst h;obtain⟨S,U,rfl,W,X⟩:=r.jJ;simp only[V.good,ζh];exact⟨lz D n a Q S h1 W,lz D n b x2 U C X⟩
  simp at h
 | 0,.tup l,z,y,h,r=>by simp[shut]at h
 | n+1,.tup l,z,y,h,r=>by
  simp only[shut]at h;obtain⟨xs,h1,rfl⟩:=ζf.1 h;obtain⟨I,rfl,J⟩:=r.oF;simp only[V.good];exact lz D n l xs I h1 J
 | 0,.agg l,z,y,h,r=>by simp[shut]at h
 | n+1,.agg l,z,y,h,r=>by
  simp only[shut]at h;obtain⟨xs,h1,rfl⟩:=ζf.1 h;obtain⟨I,rfl,J⟩:=r.gF;simp only[V.good];exact lz D n l xs I h1 J
theorem lz (z:∀d ob,a_ m d=some ob->dK ν m H Z d ob):∀(n:Nat) (svs:List SV) (xs ys:List V),cQ m n svs=some xs->bO ν m H Z svs ys->V.cH xs=true
 | n,[],xs,ys,h,r=>by simp only[cQ,ζa]at h;subst h;rfl
 | n,sv::svs,xs,ys,h,r=>by
  simp only[cQ]at h;split at h
  next y s h1 B=>simp only[ζa]at h;subst h;obtain⟨D,u,rfl,r1,r2⟩:=r.inv;simp only[V.cH,ζh];exact⟨K8 z n sv y D h1 r1,lz z n svs s u B r2⟩
  simp at h
end
theorem Fg {f:V->Option V}:∀{xs ys:List (V×V)},xs.length=ys.length->(∀(j:Nat) u v,xs[j]? = some u->ys[j]? = some v->f v.1=some u.1/\f v.2=some u.2)->kf f ys=some xs
 | [],[],_,_=>rfl
 | [],y::ys,h,_=>by simp at h
 | x::xs,[],h,_=>by simp at h
 | (a,b)::xs,(c,d)::ys,h,z=>by
  obtain⟨h1,B⟩:=z 0 _ _ rfl rfl;simp only at h1 B;simp only[kf,h1,B,Fg (xs:=xs) (ys:=ys) (by simpa using h) λj u v hu hv=>z (j+1) u v (by simpa using hu) (by simpa using hv)]
theorem EU:∀{l:List (V×V)} {n:Nat},V.qo n l=true↔∀(j:Nat) u,l[j]? = some u->u.1.lvl n=true/\u.2.lvl n=true
 | [],n=>by simp[V.qo]
 | (k,x)::l,n=>by
  simp only[V.qo,ζh,EU (l:=l)];constructor
  .rintro⟨h1,z⟩ j u hu
   cases j with
   | zero=>simp at hu;subst hu;exact h1
   | succ j=>exact z j u (by simpa using hu)
  intro h;exact⟨h 0 (k,x) rfl,λj u hu=>h (j+1) u (by simpa using hu)⟩
theorem sJ {n:Nat} {xs ys:List V} (B:hG (borrow n H1) ys=some xs) (z:V.jG ys=true):ys=xs:=by
 have w:=jo (f:=borrow n H1) (xs:=ys) (ys:=ys) rfl λj u v hu hv=>by rw[hu]at hv;cases hv;exact ei n H1 (nh.1 z j u hu)
 rw[B]at w;cases w;rfl
mutual
theorem Gn {fr:List Nat} (G:∀d∈fr,∀e ob,a_ m e=some ob->ob.cG d=false) (J:∀d ob,a_ m d=some ob->d∉fr->dK ν m H1 Z d ob) :
 ∀(n:Nat) (sv:SV) (x y:V),shut m n sv=some x->(∀d∈fr,sv.cG d=false)->cR ν m H1 Z sv y->∀k,x.lvl k=true->borrow k H1 y=some x
 | n,.v x,z,y,h,B,r,k,hk=>by simp only[shut,ζa]at h;subst h;exact r.fr.borrow k hk
 | n,.own d,z,y,h,B,r,k,hk=>by
  simp only[shut]at h;split at h
  .rename_i Y es xs D;simp only[ζa]at h;subst h;obtain⟨_,_,_,e,rfl⟩:=r.i_ D;cases e;have hd:d∉fr:=λhd=>by have:=B d hd;simp[SV.cG]at this
   have o:=J d _ D hd
   by_cases I:cI Y=true
   .simp only[dK,I,if_true]at o;obtain⟨ys,hr,hl,hf,_⟩:=o;rw[qd I];have e:mD Y es xs=.fsl es xs:=by cases Y <;> simp[cI]at I <;> rfl
    rw[e]at hk ⊢;exact(FR.HN (Z:=λ_=>True) trivial (show bl H1 (ν d).1=some (es,ys)by unfold bl;rw[hr];rfl) hl (hf.mono λid h=>⟨trivial,rfl⟩)).borrow k hk
   cases Y <;> simp[cI]at I
   .exact ei k H1 rfl
   exact ei k H1 rfl
  simp at h
 | 0,.ptr d o,z,y,h,B,r,k,hk=>by simp[shut]at h
 | n+1,.ptr d o,z,y,h,B,r,k,hk=>by
  simp only[shut]at h;split at h
  .rename_i cs D;split at h
   .rename_i xs hx;split at h
    .rename_i aa;simp only[ζa]at h;subst h;obtain⟨_,e,rfl⟩:=r.ni D;cases e;have hd:d∉fr:=λhd=>by have:=B d hd;simp[SV.cG]at this
     obtain⟨es,L,hr,hc,_⟩:=J d _ D hd
     cases k with
     | zero=>simp[V.lvl]at hk
     | succ k=>
      simp only[V.lvl]at hk;have ab:∀e∈fr,SV.dh e (cs.drop o)=false:=λe he=>by
       have:=G e he d _ D;simp only[bB.cG]at this
       cases hh:SV.dh e (cs.drop o)with
       | false=>rfl
       | true=>
        exfalso;have:∀{l:List SV} {j:Nat},SV.dh e (l.drop j)=true->SV.dh e l=true:=by
         intro l
         induction l with
         | nil=>intro j h;simpa using h
         | cons a l O=>intro j h;cases j with
          | zero=>simpa using h
          | succ j=>simp only[SV.dh,Bool.or_eq_true];exact .inr (O (by simpa using h))
        rw[this hh]at *;simp_all
      have Q:xs.length=cs.length:=by
       have:∀{l:List SV} {r:List V},cQ m n l=some r->r.length=l.length:=by
        intro l
        induction l with
        | nil=>intro r h;simp only[cQ,ζa]at h;subst h;rfl
        | cons a l O=>
         intro r h;simp only[cQ]at h;split at h
         next h1 S=>simp only[ζa]at h;subst h;simp[O S]
         simp at h
       exact this hx
      have ad:cQ m n (cs.drop o)=some (xs.drop o):=by
       have:∀{l:List SV} {r:List V} {j:Nat},cQ m n l=some r->cQ m n (l.drop j)=some (r.drop j):=by
        intro l
        induction l with
        | nil=>intro r j h;simp only[cQ,ζa]at h;subst h;simp[cQ]
        | cons a l O=>
         intro r j h;have h0:=h;simp only[cQ]at h;split at h
         .rename_i h1 S;simp only[ζa]at h;subst h
          cases j with
          | zero=>exact h0
          | succ j=>exact O S
         simp at h
       exact this hx
      have hb:=iM G J n (cs.drop o) (xs.drop o) (L.drop o) ad ab (hc.drop o) k hk;unfold borrow;simp only[V.closed,Bool.false_eq_true,if_false,hr,ζb,Ob.rows,List.getElem?_cons_zero,if_pos (show o<=L.length by rw[<-hc.1,<-Q];exact aa),hb,Option.map_some]
    simp at h
   simp at h
  simp at h
 | n,.el d i o,z,y,h,B,r,k,hk=>by cases n <;> simp[shut]at h
 | n,.yl id,z,y,h,B,r,k,hk=>by cases n <;> simp[shut]at h
 | n,.mp d,z,y,h,B,r,k,hk=>by
  simp only[shut]at h;split at h
  .rename_i ae D;simp only[ζa]at h;subst h;obtain⟨_,e,rfl⟩:=r.AQ D;cases e;have hd:d∉fr:=λhd=>by have:=B d hd;simp[SV.cG]at this
   obtain⟨T,hr,U⟩:=J d _ D hd
   cases k with
   | zero=>simp[V.lvl]at hk
   | succ k=>
    simp only[V.lvl]at hk;unfold borrow;simp only[V.closed,Bool.false_eq_true,if_false,hr];rw[Fg (xs:=ae) (ys:=T) U.1 λj u v hu hv=>?_]
    .rfl
    obtain⟨⟨e1,e2⟩,e3⟩:=U.2 j u v hu hv;exact⟨by rw[<-e1];exact ei k H1 (V.lQ (jv e2)),e3.borrow k (EU.1 hk j u hu).2⟩
  simp at h
 | 0,.clo f a b,z,y,h,B,r,k,hk=>by simp[shut]at h
 | n+1,.clo f a b,z,y,h,B,r,k,hk=>by
  simp only[shut]at h;split at h
  .rename_i x1 x2 h1 S;simp only[ζa]at h;subst h;obtain⟨a',b',rfl,ra,rb⟩:=r.jJ
   cases k with
   | zero=>simp[V.lvl]at hk
   | succ k=>
    simp only[V.lvl,ζh]at hk;have C:=iM G J n a x1 a' h1 (λd hd=>by have:=B d hd;simp only[SV.cG,Bool.or_eq_false_iff]at this;exact this.1) ra k hk.1
    have W:=iM G J n b x2 b' S (λd hd=>by have:=B d hd;simp only[SV.cG,Bool.or_eq_false_iff]at this;exact this.2) rb k hk.2
    by_cases w:(V.clo f a' b').closed=true
    .rw[ei _ _ w];simp only[V.closed,ζh]at w;rw[sJ C w.1,sJ W w.2]
    unfold borrow;rw[if_neg w];simp only[C,W]
  simp at h
 | 0,.tup l,z,y,h,B,r,k,hk=>by simp[shut]at h
 | n+1,.tup l,z,y,h,B,r,k,hk=>by
  simp only[shut]at h;obtain⟨xs,h1,rfl⟩:=ζf.1 h;obtain⟨X,rfl,rl⟩:=r.oF
  cases k with
  | zero=>simp[V.lvl]at hk
  | succ k=>
   simp only[V.lvl]at hk;have C:=iM G J n l xs X h1 (λd hd=>by have:=B d hd;simpa [SV.cG]using this) rl k hk
   by_cases w:(V.tup X).closed=true
   .rw[ei _ _ w];simp only[V.closed]at w;rw[sJ C w]
   unfold borrow;rw[if_neg w];simp only[C,Option.map_some]
 | 0,.agg l,z,y,h,B,r,k,hk=>by simp[shut]at h
 | n+1,.agg l,z,y,h,B,r,k,hk=>by
  simp only[shut]at h;obtain⟨xs,h1,rfl⟩:=ζf.1 h;obtain⟨X,rfl,rl⟩:=r.gF
  cases k with
  | zero=>simp[V.lvl]at hk
  | succ k=>
   simp only[V.lvl]at hk;have C:=iM G J n l xs X h1 (λd hd=>by have:=B d hd;simpa [SV.cG]using this) rl k hk
   by_cases w:(V.agg X).closed=true
   .rw[ei _ _ w];simp only[V.closed]at w;rw[sJ C w]
   unfold borrow;rw[if_neg w];simp only[C,Option.map_some]
theorem iM {fr:List Nat} (u:∀d∈fr,∀e ob,a_ m e=some ob->ob.cG d=false) (D:∀d ob,a_ m d=some ob->d∉fr->dK ν m H1 Z d ob) :
 ∀(n:Nat) (svs:List SV) (xs ys:List V),cQ m n svs=some xs->(∀d∈fr,SV.dh d svs=false)->bO ν m H1 Z svs ys->∀k,V.j_ k xs=true->hG (borrow k H1) ys=some xs
 | n,[],xs,ys,h,z,r,k,hk=>by simp only[cQ,ζa]at h;subst h;rw[r.c6];rfl
 | n,sv::svs,xs,ys,h,z,r,k,hk=>by
  simp only[cQ]at h;split at h
  .rename_i y s h1 G;simp only[ζa]at h;subst h;obtain⟨J,B,rfl,r1,r2⟩:=r.inv;simp only[V.j_,ζh]at hk;have w:=Gn u D n sv y J h1 (λd hd=>by have:=z d hd;simp only[SV.dh,Bool.or_eq_false_iff]at this;exact this.1) r1 k hk.1
   have C:=iM u D n svs s B G (λd hd=>by have:=z d hd;simp only[SV.dh,Bool.or_eq_false_iff]at this;exact this.2) r2 k hk.2
   simp only[hG,w,C]
  simp at h
end
end
theorem MC (n:Nat):V.j_ n []=true:=by cases n <;> rfl
theorem Kj (n:Nat) (x:V) (r:List V):V.j_ n (x::r)=(V.lvl n x&&V.j_ n r):=by cases n <;> rfl
mutual
theorem AZ:∀{n:Nat} {x:V},V.lvl n x=true->V.lvl (n+1) x=true
 | 0,.fsl ..,h=>by simp[V.lvl]at h
 | 0,.fptr ..,h=>by simp[V.lvl]at h
 | 0,.fmap ..,h=>by simp[V.lvl]at h
 | 0,.agg ..,h=>by simp[V.lvl]at h
 | 0,.tup ..,h=>by simp[V.lvl]at h
 | 0,.clo ..,h=>by simp[V.lvl]at h
 | n+1,.fsl es xs,h=>by simp only[V.lvl]at h ⊢;exact Ak h
 | n+1,.fptr cs,h=>by simp only[V.lvl]at h ⊢;exact pU h
 | n+1,.fmap u,h=>by simp only[V.lvl]at h ⊢;exact Cw h
 | n+1,.agg cs,h=>by simp only[V.lvl]at h ⊢;exact pU h
 | n+1,.tup cs,h=>by simp only[V.lvl]at h ⊢;exact pU h
 | n+1,.clo f a b,h=>by simp only[V.lvl,ζh]at h ⊢;exact⟨pU h.1,pU h.2⟩
 | 0,.bool _,_|0,.int ..,_|0,.str _,_|0,.gp,_|0,.fL,_|0,.pR,_|0,.di,_|0,.bM,_|0,.hsl ..,_|0,.hptr ..,_|0,.yld _,_|0,.hmap _,_=>rfl
 | _+1,.bool _,_|_+1,.int ..,_|_+1,.str _,_|_+1,.gp,_|_+1,.fL,_|_+1,.pR,_|_+1,.di,_|_+1,.bM,_|_+1,.hsl ..,_|_+1,.hptr ..,_|_+1,.yld _,_|_+1,.hmap _,_=>rfl
theorem pU:∀{n:Nat} {x:List V},V.j_ n x=true->V.j_ (n+1) x=true
 | n,[],_=>MC _
 | n,a::l,h=>by rw[Kj,ζh]at h ⊢;exact⟨AZ h.1,pU h.2⟩
theorem Ak:∀{n:Nat} {x:List (List V)},V.nF n x=true->V.nF (n+1) x=true
 | n,[],_=>by simp only[V.nF]
 | n,a::l,h=>by simp only[V.nF,ζh]at h ⊢;exact⟨pU h.1,Ak h.2⟩
theorem Cw:∀{n:Nat} {x:List (V×V)},V.qo n x=true->V.qo (n+1) x=true
 | n,[],_=>by simp only[V.qo]
 | n,(k,v)::l,h=>by simp only[V.qo,ζh]at h ⊢;exact⟨⟨AZ h.1.1,AZ h.1.2⟩,Cw h.2⟩
end
theorem xC {n m:Nat} (h:n<=m) {x:V} (u:V.lvl n x=true):V.lvl m x=true:=by
 induction h with
 | refl=>exact u
 | step _ w=>exact AZ w
theorem oD {n m:Nat} (h:n<=m) {x:List V} (u:V.j_ n x=true):V.j_ m x=true:=by
 induction h with
 | refl=>exact u
 | step _ w=>exact pU w
theorem MS {n m:Nat} (h:n<=m) {x:List (List V)} (u:V.nF n x=true):V.nF m x=true:=by
 induction h with
 | refl=>exact u
 | step _ w=>exact Ak w
theorem O1 {n m:Nat} (h:n<=m) {x:List (V×V)} (u:V.qo n x=true):V.qo m x=true:=by
 induction h with
 | refl=>exact u
 | step _ w=>exact Cw w
mutual
theorem yd:∀x:V,∃n,V.lvl n x=true
 | .fsl es xs=>let ⟨n,h⟩:=EI xs;⟨n+1,by simp only[V.lvl];exact h⟩
 | .fptr cs=>let ⟨n,h⟩:=l_ cs;⟨n+1,by simp only[V.lvl];exact h⟩
 | .fmap u=>let ⟨n,h⟩:=G1 u;⟨n+1,by simp only[V.lvl];exact h⟩
 | .agg cs=>let ⟨n,h⟩:=l_ cs;⟨n+1,by simp only[V.lvl];exact h⟩
 | .tup cs=>let ⟨n,h⟩:=l_ cs;⟨n+1,by simp only[V.lvl];exact h⟩
 | .clo f a b=>let ⟨n,h⟩:=l_ a;let ⟨m,k⟩:=l_ b;⟨max n m+1,by simp only[V.lvl,ζh];exact⟨oD (Nat.le_max_left _ _) h,oD (Nat.le_max_right _ _) k⟩⟩
 | .bool _|.int ..|.str _|.gp|.fL|.pR|.di|.bM|.hsl ..|.hptr ..|.yld _|.hmap _=>⟨0,rfl⟩
theorem l_:∀x:List V,∃n,V.j_ n x=true
 | []=>⟨0,by simp only[V.j_]⟩
 | a::l=>let ⟨n,h⟩:=yd a;let ⟨m,k⟩:=l_ l;⟨max n m,by simp only[V.j_,ζh];exact⟨xC (Nat.le_max_left _ _) h,oD (Nat.le_max_right _ _) k⟩⟩
theorem EI:∀x:List (List V),∃n,V.nF n x=true
 | []=>⟨0,by simp only[V.nF]⟩
 | a::l=>let ⟨n,h⟩:=l_ a;let ⟨m,k⟩:=EI l;⟨max n m,by simp only[V.nF,ζh];exact⟨oD (Nat.le_max_left _ _) h,MS (Nat.le_max_right _ _) k⟩⟩
theorem G1:∀x:List (V×V),∃n,V.qo n x=true
 | []=>⟨0,by simp only[V.qo]⟩
 | (a,b)::l=>let ⟨n,h⟩:=yd a;let ⟨m,k⟩:=yd b;let ⟨q,p⟩:=G1 l;⟨max n (max m q),by simp only[V.qo,ζh];exact⟨⟨xC Za h,xC Za k⟩,O1 Za p⟩⟩
end
def iy (E:Env) (call:dw) (ops:List Oper) (place:Option (Nat×Nat)) (f:FuncId) (args:List V) (H:bf):Option (V×bf):=
 if jF E ops place f then
  match place with
  | none=>ga E call f args H
  | some (_,i)=>if dy ops i then ga E call f args H else none
 else match place with
  | none=>match cm call f args H with
   | some y=>some (y,if y.scalar then H else ct H (cD (bR call.lv H) args))
   | none=>none
  | some (b,i)=>match cm call f args (H.take b)with
   | some y=>if y.scalar then some (y,H)else if gM (H.take b) (cD (bR call.lv (H.take b)) args)then some (y,ct H (cD (bR call.lv (H.take b)) args))else none
   | none=>if dy ops i then match cm call f args H with
    | some y=>some (y,if y.scalar then H else ct H (cD (bR call.lv H) args))
    | none=>none
    else none
section
variable {Rv:Nat->Prop} {ν ν':Nu} {Z Z':Nat->Prop} {st st':St} {m m':Tb bB} {F F':Frame} {H H' H1:bf} {N:Nat->FuncId} {S:Sys} {c:bN}
theorem F0:∀(l:List SV) (i s:Nat) (sv:SV),a_ (sS i l) s=some sv->∃j,s=i+j/\l[j]? = some sv
 | [],i,s,sv,h=>by simp[sS,a_]at h
 | x::l,i,s,sv,h=>by
  simp only[sS,a_]at h;split at h
  next e=>simp only[ζa]at h;subst h;exact⟨0,by omega,rfl⟩
  obtain⟨j,h1,u⟩:=F0 l (i+1) s sv h;exact⟨j+1,by omega,by simpa using u⟩
theorem vg {svs:List SV} {args:List V} (h:bO ν m H Z svs args):∀s sv,a_ (sS 0 svs) s=some sv->cR ν m H Z sv (get args s):=λs sv u=>by
 obtain⟨j,rfl,w⟩:=F0 svs 0 s sv u;obtain⟨y,z,r⟩:=h.get w;rw[Nat.zero_add,Fp args j y z];exact r
theorem xU {az:List V} (hg:V.cH az=true):R (λ_=>(0,0)) (λ_=>False) (start (az.map .v) []) az []/\bO (λ_=>(0,0)) [] [] (λ_=>False) (az.map .v) az:=by
 have h:bO (λ_=>(0,0)) [] [] (λ_=>False) (az.map .v) az:=bO.o7 (dg.same hg)
 refine⟨⟨vg h,λd ob hd=>by simp[start,a_]at hd,λd w ob u hd=>by simp[start,a_]at hd,λd ob hd=>by simp[start,a_]at hd,λid h=>h.elim,⟨λid es z h=>h.elim⟩⟩,h⟩
theorem DD {xs ys:List V} (h:dg H Z xs ys):((result xs).scalar=true->result ys=result xs)/\(result ys).scalar=(result xs).scalar:=by
 cases xs with
 | nil=>rw[h.c6];exact⟨λ_=>rfl,rfl⟩
 | cons x xs=>
  obtain⟨y,ys,rfl,h1,u⟩:=h.inv
  cases xs with
  | nil=>rw[u.c6];exact h1.scalar
  | cons x2 xs=>
   obtain⟨w,ys,rfl,z,B⟩:=u.inv;exact FR.scalar (.tup _ _ h.1 h.2)
theorem AE (hS:gY S c) {f:FuncId} {az ys:List V} {rs:List SV} {m':c9} (hg:V.cH az=true) (h:c f (az.map .v) []=some (rs,m')) (J:cQ m' 8 rs=some ys) :
 ∃n r H2,(∀k,n<=k->run S.E k (.fn f) az []=some (r,H2))/\(∀k,n<=k->borrow k H2 r=some (result ys))/\(result ys).good=true:=by
 obtain⟨W,r1⟩:=xU hg;obtain⟨n,y,H2,ν',Z',st',F',B,h1,rfl,X,O,Q,_⟩:=hS f _ _ _ _ h _ _ az [] (.inr rfl) W r1;subst X;have C:=lz Q.obj 8 rs ys B J O;obtain⟨L,T⟩:=l_ ys;refine⟨max n (L+1),result B,H2,λk hk=>(uh S.E (Nat.le_trans (Nat.le_max_left ..) hk)).go _ _ _ _ h1,λk hk=>?_,?_⟩
 .have w:=iM (fr:=[]) (λd hd=>by simp at hd) (λd ob hd _=>Q.obj d ob hd) 8 rs _ _ J (λd hd=>by simp at hd) O
  obtain⟨k,rfl⟩:∃j,k=j+1:=⟨k-1,by omega⟩
  have U:=w k (oD Za T)
  have Y:=w (k+1) (oD Za T)
  obtain⟨e1,e2⟩:=gV Y
  cases B with
  | nil=>obtain rfl:=List.eq_nil_of_length_eq_zero e1;exact ei _ H2 rfl
  | cons z B=>
   cases B with
   | nil=>
    obtain⟨y,rfl⟩:∃y,ys=[y]:=by
     cases ys with
     | nil=>simp at e1
     | cons y l=>cases l with|nil=>exact⟨y,rfl⟩|cons _ _=>simp at e1
    obtain⟨x,Z,G⟩:=e2 0 y rfl;cases Z;exact G
   | cons z2 B=>
    obtain⟨y,D,l,rfl⟩:∃y D l,ys=y::D::l:=by
     cases ys with
     | nil=>simp at e1
     | cons y l=>cases l with|nil=>simp at e1|cons D l=>exact⟨y,D,l,rfl⟩
    by_cases u:(V.tup (z::z2::B)).closed=true
    .simp only[result];rw[ei _ _ u];simp only[V.closed]at u;rw[sJ U u]
    simp only[result];unfold borrow;rw[if_neg u];simp only[U,Option.map_some]
 have:∀{l:List V},V.cH l=true->(result l).good=true:=by
  intro l I
  cases l with
  | nil=>rfl
  | cons a l=>cases l with
   | nil=>simp only[V.cH,ζh]at I;exact I.1
   | cons b l=>simp only[result,V.good];exact I
 exact this C
theorem Ci {f:FuncId} {args az:List V} {y r:V} {H2:bf} {n:Nat} (hr:∀k,n<=k->run S.E k (.fn f) az []=some (r,H2)) (z:∀k,n<=k->borrow k H2 r=some y) (hg:y.good=true) {u:Nat} (B:∀k,u<=k->borrows k H args=some az) :
 ∀k,max n u<=k->cm (run S.E k) f args H=some y:=λk hk=>by
 unfold cm;simp only[nN,B k Za,hr k Za,z k Za,V.lQ hg,if_true]
theorem pF (z:∀id,Z id->(bl H id).isSome=true) {T:List Nat} {id:Nat} (h:Z id):bl (ct H T) id=bl H id:=by
 have:=z id h;unfold bl at this ⊢;rw[gH]
 cases u:H[id]? with
 | none=>rw[u]at this;simp at this
 | some ob=>
  rw[u]at this;simp only[Option.map_some,ζb]
  by_cases e:id∈T
  .rw[if_pos e];cases ob <;> first|rfl|simp[Ob.rows]at this
  rw[if_neg e]
theorem rQ {T:List Nat} {id:Nat} (h:id∉T):(ct H T)[id]? = H[id]? := by
 rw[gH];cases H[id]? <;> simp[h]
end
section
variable {Rv:Nat->Prop} {ν ν':Nu} {Z Z':Nat->Prop} {st st':St} {m m':Tb bB} {F F':Frame} {H H' H1:bf} {N:Nat->FuncId} {S:Sys} {c:bN}
theorem yB {az:List V} {args:List SV} {ys:List V} (u:∀d ob,a_ m d=some ob->dK ν m H Z d ob) (h:cQ m 8 args=some az) (r:bO ν m H Z args ys):V.cH az=true:=lz u 8 args az ys h r
theorem ve {az:List V} {args:List SV} {ys:List V} (r:R ν Z st F H) (u:bO ν st.m H Z args ys) (h:cQ st.m 8 args=some az):∃n,∀k,n<=k->borrows k H ys=some az:=
 let ⟨n,w⟩:=l_ az
 ⟨n,λk hk=>iM (fr:=[]) (λd hd=>by simp_all) (λd ob hd _=>r.obj d ob hd) 8 args az ys h (λd hd=>by simp_all) u k (oD hk w)⟩
theorem lR {b id:Nat} (h:id<b):bl (H.take b) id=bl H id:=by
 unfold bl;grind
theorem I4 {b:Nat} {fr:List Nat} {az:List V} {args:List SV} {ys:List V} (r:R ν Z st F H) (z:bO ν st.m H Z args ys) (h:cQ st.m 8 args=some az)
 (D:∀d ob,a_ st.m d=some ob->cg ob=true->d∉fr->(ν d).1<b) (B:∀id,Z id->id<b) (hold:fu st.m fr args=true):∃n,∀k,n<=k->borrows k (H.take b) ys=some az:=by
 obtain⟨n,w⟩:=l_ az;refine⟨n,λk hk=>?_⟩
 unfold fu at hold;have h1:∀d∈fr,SV.dh d args=false/\qw d st.m=false:=λd hd=>by
  grind
 have u:∀id,Z id->Z id/\bl (H.take b) id=bl H id:=λid h=>⟨h,lR (B id h)⟩
 refine iM   (λd hd e ob C=>wP (h1 d hd).2 C) (λd ob hd G=>?_) 8 args az ys h (λd hd=>(h1 d hd).1) (z.mono u λe _=>gU ν st.m e) k (oD hk w)
 exact dK.mono u rfl (λI=>by grind) (λe _=>gU ν st.m e) (r.obj d ob hd)
theorem PK (hS:gY S c) {ops:List Oper} {place:Option (Nat×Nat)} {dr nw:Bool} {fr:List Nat} (ae:dr=place.isSome) (ab:∀b i,place=some (b,i)->nw=true->dy ops i=true)
 (hold:∀b i,place=some (b,i)->(∀d ob,a_ st.m d=some ob->cg ob=true->d∉fr->(ν d).1<b)/\∀id,Z id->id<b)
 (r:R ν Z st F H) {args:List SV} {ys:List V} (ha:bO ν st.m H Z args ys) {f:FuncId} (hk:S.E.keep f=false) {az:List V} (hs:cQ st.m 8 args=some az) (hno:(!dr||nw)=true\/fu st.m fr args=true)
 {rs:List SV} {m':c9} {J:List V} (hc:c f (az.map .v) []=some (rs,m')) (hz:cQ m' 8 rs=some J) (U:(result J).scalar=true\/(dn args).isSome=true) :
 ∃n H',(∀k,n<=k->iy S.E (run S.E k) ops place f ys H=some (result J,H'))/\R ν Z st F H'/\cR ν st.m H' Z (.v (result J)) (result J)/\Ev Rv ν Z st H ν Z st H':=by
 have hg:=yB r.obj hs ha;obtain⟨n1,rr,H2,h1,h2,h3⟩:=AE hS hg hc hz;obtain⟨n2,hb⟩:=ve r ha hs;have I:=Ci h1 h2 h3 hb;generalize hn:max n1 n2=n at I;have C:=I;have Q:∀k,n<=k->cD (bR k H) ys=cD (bR n H) ys:=λk hk=>wo hk (hb n Za)
 have G:∀{H'},cR ν st.m H' Z (.v (result J)) (result J):=.v _ _ (.same _ h3);have D:∀T:List Nat,(∀id∈T,Z id)->R ν Z st F (ct H T)/\Ev Rv ν Z st H ν Z st (ct H T):=λT X=>
  ⟨r.heap (λid ho=>rQ λz=>by obtain⟨d,ob,g1,g2,rfl⟩:=ho;exact r.apart d ob g1 g2 (X _ z)) (λid z=>pF r.zrow z),
   Ev.heap (by rw[iY];grind) (λid _ _ hz _=>rQ λz=>hz (X id z)) (λid z=>pF r.zrow z)⟩
 have L:(dn args).isSome=true->(∀id∈cD (bR n H) ys,Z id)/\True:=λY=>by
  obtain⟨xs,Y⟩:=Option.isSome_iff_exists.1 Y;have hf:=ha.dn Y;exact⟨λid z=>by
   obtain⟨j,u,hu,aa⟩:=nO z;have hj:j<xs.length:=by rw[hf.1];grind
   exact FR.bR r.deep n (hf.2 j _ u (ζd hj) hu) id aa,trivial⟩
 cases place with
 | none=>
  by_cases w:(result J).scalar=true
  .exact⟨n,H,λk B=>by simp[iy,jF,hk,C k B,w],r,G,.refl⟩
  obtain⟨X,-⟩:=L (U.resolve_left w);obtain⟨q1,q2⟩:=D _ X;exact⟨n,ct H (cD (bR n H) ys),λk B=>by simp[iy,jF,hk,C k B,w,nN,Q k B],q1,G,q2⟩
 | some bi=>
  obtain⟨b,i⟩:=bi;obtain⟨o1,o2⟩:=hold b i rfl;have ah  := ae;have fits:∀k,cm (run S.E k) f ys (H.take b)=some (result J)->(result J).scalar=false->gM (H.take b) (cD (bR k (H.take b)) ys)=true/\cD (bR k H) ys=cD (bR k (H.take b)) ys:=λk _ ai=>by
   obtain⟨xs,Y⟩:=Option.isSome_iff_exists.1 (U.resolve_left Zd)
   have hf:=ha.dn Y;have W:∀id,Z id->Z id/\bl (H.take b) id=bl H id:=λid h=>⟨h,lR (o2 id h)⟩
   have hd:Deep (H.take b) Z:=⟨λid es ys hz hr c hc u hu=>by
    rw[(W id hz).2]at hr;obtain⟨x,Y⟩:=r.deep.row id es ys hz hr c hc u hu;exact⟨x,Y.mono W⟩⟩
   have hZ:∀id∈cD (bR k (H.take b)) ys,Z id:=λid z=>by
    obtain⟨j,u,hu,aa⟩:=nO z;have hj:j<xs.length:=by rw[hf.1];grind
    exact FR.bR hd k ((hf.2 j _ u (ζd hj) hu).mono W) id aa
   refine⟨?_,rR _ λid z=>o2 id (hZ id z)⟩
   unfold gM;rw[List.all_eq_true];intro id z;have h1:=r.zrow id (hZ id z);rw[<-(W id (hZ id z)).2]at h1;exact h1
  rcases hno with hno|hno
  .have ad:=ab b i rfl Zd
   by_cases w:(result J).scalar=true
   .refine⟨n,H,λk B=>?_,r,G,.refl⟩
    simp[iy,jF,hk];split
    next y hy=>have:=nQ hy;rw[C k B]at this;cases this;simp[w]
    simp[ad,C k B,w]
   obtain⟨X,-⟩:=L (U.resolve_left w);obtain⟨q1,q2⟩:=D _ X;refine⟨n,ct H (cD (bR n H) ys),λk B=>?_,q1,G,q2⟩
   simp only[iy,jF,hk,nN,Bool.false_and,Bool.false_eq_true,if_false];split
   .rename_i y hy;have h9:=nQ hy;rw[C k B]at h9;cases h9;obtain⟨f1,f2⟩:=fits k hy (by simpa using w)
    rw[if_neg w,if_pos f1,<-f2,Q k B]
   simp only[ad,if_true,C k B];rw[if_neg w,Q k B]
  obtain⟨n3,af⟩:=I4 r ha hs o1 o2 hno;have O:=Ci h1 h2 h3 af
  by_cases w:(result J).scalar=true
  .refine⟨max n1 n3,H,λk B=>?_,r,G,.refl⟩
   simp[iy,jF,hk];have:=O k B;simp[this,w]
  obtain⟨X,-⟩:=L (U.resolve_left w);obtain⟨q1,q2⟩:=D _ X;refine⟨max n (max n1 n3),ct H (cD (bR n H) ys),λk B=>?_,q1,G,q2⟩
  simp only[iy,jF,hk,nN,Bool.false_and,Bool.false_eq_true,if_false];have h9:=O k Za
  obtain⟨f1,f2⟩:=fits k h9 (by simpa using w)
  simp only[h9];rw[if_neg w,if_pos f1,<-f2,Q k Za]
theorem CO {α:Type} {k:Nat} {v:α}:∀{ds:List Nat} {g:Tb α},a_ (nE ds g) k=some v->k∉ds
 | [],_,_=>by simp
 | d::ds,g,h=>by
  have h1:=CO (ds:=ds) h;have u:=(mE (mO  h)).1
  grind
theorem wv:∀{args:List SV} {ds:List Nat},rowsOf args=some ds->∀(j:Nat) u,args[j]? = some u->(∃x,u=.v x)\/∃d,u=.own d/\d∈ds
 | [],_,_,j,u,hu=>by simp_all
 | .v x::r,ds,h,j,u,hu=>by
  cases j with
  | zero=>grind
  | succ j=>exact wv  (by simpa [rowsOf]using h) j u Zd
 | .own d::r,ds,h,j,u,hu=>by
  obtain⟨es,h1,rfl⟩:=ζf.1 h
  cases j with
  | zero=>grind
  | succ j=>
   rcases wv h1 j u Zd with k|⟨w,k1,z⟩
   .grind
   grind
 | .ptr ..::_,_,h,_,_,_|.el ..::_,_,h,_,_,_|.mp _::_,_,h,_,_,_|.clo ..::_,_,h,_,_,_|.tup _::_,_,h,_,_,_|.agg _::_,_,h,_,_,_|.yl _::_,_,h,_,_,_=>by simp[rowsOf]at h
theorem ud:∀{args:List SV} {ds:List Nat} {n:Nat} {az:List V},rowsOf args=some ds->cQ m n args=some az->∀d∈ds,∃ob,a_ m d=some ob
 | [],ds,_,_,h,_,d,hd=>by simp[rowsOf]at h;grind
 | x::r,ds,n,az,h,u,d,hd=>by
  simp[cQ]at u;split at u
  rotate_left
  .cases u
  rename_i y s h1 z
  cases x with
  | v x=>exact ud  (by simpa [rowsOf]using h) z d hd
  | own e=>
   obtain⟨es,g1,rfl⟩:=ζf.1 h;rcases List.mem_cons.1 hd with rfl|hd
   .cases n <;> (simp[shut]at h1;grind)
   exact ud g1 z d hd
  | _=>simp[rowsOf]at h
theorem zY {H0:bf} (hd:Deep H0 Z) (U:∀d ob,a_ m d=some ob->cg ob=true->(H0[(ν d).1]?).isSome=true->dK ν m H0 Z d ob) {args:List SV} {ys:List V} (T:bO ν m H0 Z args ys) {ds:List Nat} (hr:rowsOf args=some ds)
 (J:∀d∈ds,∃ob,a_ m d=some ob) {q id:Nat} (h:id∈cD (bR q H0) ys):Z id\/∃d ob,d∈ds/\a_ m d=some ob/\cg ob=true/\(ν d).1=id/\∃j es off len:Nat,ys[j]? = some (V.hsl id es off len):=by
 obtain⟨j,y,W,hk⟩:=nO h;have X:j<args.length:=by rw[T.1];grind
 have hu:=ζd X;have D:=T.2 j _ y hu W;rcases wv hr j _ hu with⟨x,e⟩|⟨d,e,I⟩
 .rw[e]at D;cases D with|v _ _ Y=>exact .inl (FR.bR hd q Y id hk)
 rw[e]at D;obtain⟨ob,C⟩:=J d I;obtain⟨k,es,G,rfl,rfl⟩:=D.i_ C
 by_cases w:cI k=true
 .cases q with
  | zero=>simp[bR]at hk
  | succ q=>
  have L:qC (ν d) k es G.length=.hsl (ν d).1 es (ν d).2 G.length:=by cases k <;> first|rfl|cases w
  rw[L]at hk;have hb:cg (.sl k es G)=true:=w
  by_cases z:(H0[(ν d).1]?).isSome=true
  .have o:=U d _ C hb z;simp[dK,w]at o;obtain⟨zs,h1,_,_,h4,_⟩:=o;simp only[bR,V.closed,Bool.false_eq_true,if_false,h1,List.mem_cons]at hk;rcases hk with rfl|hk
   .grind
   obtain⟨i,u,hu,O⟩:=nO hk;obtain⟨c,hc,Q⟩:=List.mem_flatten.1 (List.mem_of_getElem? hu);obtain⟨x,hx⟩:=h4 c (List.mem_of_mem_drop (List.mem_of_mem_take hc)) u Q;exact .inl (FR.bR hd q hx id O)
  have B:H0[(ν d).1]? = none:=by grind
  simp[bR,V.closed,B]at hk
  grind
 have S:(qC (ν d) k es G.length).closed=true:=by cases k <;> first|rfl|(exact absurd rfl w)
 rw[ES q H0 S]at hk;cases hk
theorem OV (hS:gY S c) {ops:List Oper} {place:Option (Nat×Nat)} {nw:Bool} (U:∀b i,place=some (b,i)->nw=true->dy ops i=true)
 (hold:∀b i,place=some (b,i)->∀id,Z id->id<b)
 (r:R ν Z st F H) {args:List SV} {ys:List V} (ha:bO ν st.m H Z args ys) {f:FuncId} (hk:S.E.keep f=false) {az:List V} (hs:cQ st.m 8 args=some az) (ab:(!place.isSome||nw)=true)
 {rs:List SV} {m':c9} {J:List V} (hc:c f (az.map .v) []=some (rs,m')) (W:cQ m' 8 rs=some J) (T:(result J).scalar=false) {ds:List Nat} (hr:rowsOf args=some ds) (Y:∀d∈ds,∃ob,a_ st.m d=some ob) :
 ∃n H',(∀k,n<=k->iy S.E (run S.E k) ops place f ys H=some (result J,H'))/\R ν Z { st with m:=nE ds st.m } F H'/\cR ν (nE ds st.m) H' Z (.v (result J)) (result J)/\Ev Rv ν Z st H ν Z { st with m:=nE ds st.m } H':=by
 have hg:=yB r.obj hs ha;obtain⟨n1,rr,H2,h1,h2,h3⟩:=AE hS hg hc W;obtain⟨n2,hb⟩:=ve r ha hs;have C:=Ci h1 h2 h3 hb;generalize hn:max n1 n2=n at C;have D:=C;have L:∀k,n<=k->cD (bR k H) ys=cD (bR n H) ys:=λk hk=>wo hk (hb n Za)
 have X:∀{H'},cR ν (nE ds st.m) H' Z (.v (result J)) (result J):=.v _ _ (.same _ h3);have B:∀d ob,a_ (nE ds st.m) d=some ob->a_ st.m d=some ob:=λd ob h=>mO h
 have hT:∀id∈cD (bR n H) ys,Z id\/∃d ob,d∈ds/\a_ st.m d=some ob/\cg ob=true/\(ν d).1=id/\∃j es off len:Nat,ys[j]? = some (V.hsl id es off len):=λid w=>zY r.deep (λd ob h _ _=>r.obj d ob h) ha hr Y w
 have r2  := r.less (λ_ _ h=>h) B
 have q1  := r2.heap (λid ho=>rQ λw=>by
  obtain⟨d,ob,g1,g2,rfl⟩:=ho;rcases hT _ w with h|⟨d',O,k1,k2,k3,k4,_⟩
  .exact r.apart d ob (B d ob g1) g2 h
  have:=r.inj d' d O ob k2 (B d ob g1) k3 g2 k4;subst this;exact CO g1 k1) (λid w=>pF r.zrow w)
 have q2:Ev Rv ν Z st H ν Z { st with m:=nE ds st.m } (ct H (cD (bR n H) ys)):=(Ev.heap (by rw[iY];grind) (λid _ ho W _=>rQ λw=>by
  rcases hT _ w with h|⟨d',O,k1,k2,k3,k4,_⟩
  .simp_all
  exact ho ⟨d',O,k2,k3,k4⟩) (λid w=>pF r.zrow w)).trans (Ev.less  B)
 cases place with
 | none=>exact⟨n,ct H (cD (bR n H) ys),λk z=>by simp[iy,jF,hk,D k z,T,nN,L k z],q1,X,q2⟩
 | some bi=>
  obtain⟨b,i⟩:=bi;have o2:=hold b i rfl;have fits:∀k,cm (run S.E k) f ys (H.take b)=some (result J)->gM (H.take b) (cD (bR k (H.take b)) ys)=true/\cD (bR k H) ys=cD (bR k (H.take b)) ys:=λk hi=>by
   have G:∀id,Z id->Z id/\bl (H.take b) id=bl H id:=λid h=>⟨h,lR (o2 id h)⟩
   have hd:Deep (H.take b) Z:=⟨λid es ys W hr c hc u hu=>by
    rw[(G id W).2]at hr;obtain⟨x,hx⟩:=r.deep.row id es ys W hr c hc u hu;exact⟨x,hx.mono G⟩⟩
   have ad  := ha.mono G λe _=>gU ν st.m e
   have ae:∀d ob,a_ st.m d=some ob->cg ob=true->((H.take b)[(ν d).1]?).isSome=true->dK ν st.m (H.take b) Z d ob:=λd ob h hb af=>
    dK.mono G rfl (λ_=>by
     grind) (λe _=>gU ν st.m e) (r.obj d ob h)
   have aa:∀(j:Nat) (y:V),ys[j]? = some y->(borrow k (H.take b) y).isSome=true:=λj y Q=>by
    unfold cm at hi;rw[nN]at hi;split at hi
    .rename_i ah ai;obtain⟨_,hm⟩:=gV ai;have hj:=(ζe.1 Q).1;obtain⟨x,ak,al⟩:=hm j _ (ζd (show j<ah.length by omega))
     grind
    cases hi
   have hZ:∀id∈cD (bR k (H.take b)) ys,id<b/\(bl (H.take b) id).isSome=true:=λid w=>by
    rcases zY hd ae ad hr Y w with h|⟨d,ob,k1,k2,k3,k4,j,es,off,len,Q⟩
    .have:=r.zrow id h
     grind
    have I:=aa j _ Q
    cases k with
    | zero=>simp[borrow,V.closed]at I
    | succ k=>
    simp only[borrow,V.closed,Bool.false_eq_true,if_false]at I;split at I
    next am xs hx=>obtain⟨o,ho,_⟩:=ζg.1 hx;have:=(ζe.1 ho).1;rw[List.length_take]at this;exact⟨by omega,by unfold bl;rw[hx];rfl⟩
    cases I
   refine⟨?_,rR _ λid w=>(hZ id w).1⟩
   unfold gM;rw[List.all_eq_true];exact λid w=>(hZ id w).2
  refine⟨n,ct H (cD (bR n H) ys),λk z=>?_,q1,X,q2⟩
  simp only[iy,jF,hk,nN,Bool.false_and,Bool.false_eq_true,if_false];split
  next y Q=>have h9:=nQ Q;rw[D k z]at h9;cases h9;obtain⟨f1,f2⟩:=fits k Q;rw[if_neg (by rw[T];simp),if_pos f1,<-f2,L k z]
  have aj:=U b i rfl (by simpa using ab)
  simp only[aj,if_true,D k z];rw[if_neg (by rw[T];simp),L k z]
theorem Gu {xs ys:List (List V)} (h:fM H Z xs ys) (z:mK xs=true):ys=xs:=by
 refine(List.ext_getElem h.1 λj h1 B=>?_).symm
 have:=h.2 j _ _ (ζd h1) (ζd B);have w  := by
  unfold mK at z;rw[List.all_eq_true]at z;have:=z _ (List.getElem_mem h1);rw[List.all_eq_true]at this;exact oR.2 λk u hu=>this u (List.mem_of_getElem? hu)
 exact(this.scalar.1 w).symm
theorem Ba:∀{u:List Nat} {os:Tb bB} {g:Tb bB},iV g u=some os->∀k ob,a_ os k=some ob->a_ g k=some ob
 | [],os,g,h,k,ob,hk=>by simp[iV]at h;subst h;simp[a_]at hk
 | n::r,os,g,h,k,ob,hk=>by
  simp only[iV]at h;split at h
  .rename_i v t h1 z;cases h;simp only[a_]at hk;split at hk
   next e=>subst e;cases hk;exact h1
   exact Ba z k ob hk
  cases h
theorem GP {args:List SV} {os:c9} (h:lu m args=some os):∀k ob,a_ os k=some ob->a_ m k=some ob:=Ba h
mutual
theorem LL {d:Nat}:∀{x:SV},x.cG d=true->d∈x.zA
 | .v _,h=>by simp[SV.cG]at h
 | .own e,h|.ptr e _,h|.el e _ _,h|.mp e,h=>by simp[SV.cG]at h;simp[SV.zA,h]
 | .clo _ a b,h=>by
  simp only[SV.cG,Bool.or_eq_true]at h;simp only[SV.zA,List.mem_append];rcases h with h|h
  .exact .inl (sq h)
  exact .inr (sq h)
 | .tup l,h|.agg l,h=>by simp only[SV.cG]at h;simp only[SV.zA];exact sq h
 | .yl _,h=>by simp[SV.cG]at h
theorem sq {d:Nat}:∀{l:List SV},SV.dh d l=true->d∈SV.pL l
 | [],h=>by simp[SV.dh]at h
 | x::r,h=>by
  simp only[SV.dh,Bool.or_eq_true]at h;simp only[SV.pL,List.mem_append];rcases h with h|h
  .exact .inl (LL h)
  exact .inr (sq h)
end
theorem z6 {z:List Nat} {ob:bB} (h:within z ob=true) {e:Nat} (u:ob.cG e=true):e∈z:=by
 cases ob with
 | box cs=>
  unfold within at h;rw[List.all_eq_true]at h;simpa using h e (sq u)
 | sl k es B=>simp[bB.cG]at u
 | mp w=>simp[bB.cG]at u
theorem AX {z:List Nat}:∀{l:List Nat} {a b:Tb bB},v7 z m' l a=some b->(∀k∈l,a_ b k=a_ m' k/\∃ob,a_ m' k=some ob/\within z ob=true)/\∀k,k∉l->a_ b k=a_ a k
 | [],a,b,h=>by simp[v7]at h;grind
 | d::r,a,b,h=>by
  simp[v7]at h;split at h
  .rename_i ob u;split at h
   .rename_i hp;obtain⟨h1,B⟩:=AX h;refine⟨λk hk=>?_,λk hk=>?_⟩
    .by_cases hr:k∈r
     .grind
     have e:k=d:=by grind
     subst e;exact⟨by rw[B k hr,cq,u],ob,u,hp⟩
    simp  at hk;rw[B k hk.2,dD _ _ (Ne.symm hk.1)]
   grind
  grind
theorem Dw {l:List Nat} {a b:Tb bB} (h:jr m' l a=some b):(∀k∈l,a_ b k=a_ m' k/\∃ob,a_ m' k=some ob/\within l ob=true)/\∀k,k∉l->a_ b k=a_ a k:=AX h
theorem mem_keys:∀{os:c9} {k:Nat},k∈os.map (·.1)↔∃ob,a_ os k=some ob
 | [],k=>by simp[a_]
 | (d,o)::os,k=>by
  simp[a_]
  by_cases e:d=k
  .simp_all
  rw[if_neg e,<-mem_keys]
  grind
theorem qX:∀{l:List SV} {j:Nat} {u:SV},SV.uQ l=true->l[j]? = some u->u.bare=true
 | [],j,u,h,z=>by simp at z
 | x::r,j,u,h,z=>by
  simp only[SV.uQ,ζh]at h
  cases j with
  | zero=>simp at z;subst z;exact h.1
  | succ j=>exact qX h.2 (by simpa using z)
theorem cR.bare {Z2:Nat->Prop} {sv:SV} {y:V} (r:cR ν m H Z sv y):sv.bare=true->cR ν m H Z2 sv y:=by
 induction r with
 | v x y h=>
  intro z;have z:x.scalar=true:=z;rw[(h.scalar.1 z)];exact .v _ _ (.same _ (jv z))
 | own d y h=>intro _;exact .own d y h
 | ptr d o y h=>intro _;exact .ptr d o y h
 | el d i o y h=>intro _;exact .el d i o y h
 | mp d y h=>intro _;exact .mp d y h
 | clo f a b B G C z hva I w D=>
  intro h;simp only[SV.bare,ζh]at h;exact .clo f a b B G C z (λj u v hu hv=>w j u v hu hv (qX h.1 hu)) λj u v hu hv=>D j u v hu hv (qX h.2 hu)
 | tup a B C hva w=>intro h;exact .tup a B C λj u v hu hv=>w j u v hu hv (qX h hu)
 | agg a B C hva w=>intro h;exact .agg a B C λj u v hu hv=>w j u v hu hv (qX h hu)
 | yl id=>intro _;exact .yl id
theorem dK.bare {Z2:Nat->Prop} {d:Nat} {ob:bB} (h:ob.bare=true) (o:dK ν m H Z d ob):dK ν m H Z2 d ob:=by
 cases ob with
 | box cs=>
  obtain⟨es,w,h1,z,B⟩:=o;exact⟨es,w,h1,⟨z.1,λj u v hu hv=>(z.2 j u v hu hv).bare (qX h hu)⟩,B⟩
 | sl k es D=>cases h
 | mp C=>cases h
theorem yo (hS:gY S c) {f:FuncId} (ae:S.E.keep f=true) (r:R ν Z st F H) {args:List SV} {ys:List V} (ha:bO ν st.m H Z args ys) {os:c9} (hh:lu st.m args=some os)
 {rs:List SV} {m':c9} {J:Tb bB} (hc:c f args os=some (rs,m')) (hb:jr m' (os.map (·.1)) st.m=some J) :
 ∃n H' T Z' G F1 ws,(∀k,n<=k->run S.E k (.fn f) ys H=some (result ws,H'))/\G.m=m'/\bO T m' H' Z' rs ws/\R T Z' G F1 H'/\(∀e ob,a_ m' e=some ob->e∉os.map (·.1)->cg ob=true->H.length<=(T e).1) /\
  R ν Z' { st with m:=J } F H'/\Ev Rv ν Z st H ν Z' { st with m:=J } H'/\(∀e ob',a_ J e=some ob'->∃ob,a_ st.m e=some ob/\ν e=ν e/\sameShape ob ob') /\
  ((∀k∈os.map (·.1),vA J k=true)->R ν Z { st with m:=J } F H'/\Ev Rv ν Z st H ν Z { st with m:=J } H'):=by
 have u:=GP hh;have ab  := ha.mono (λid h=>⟨h,rfl⟩) λe _ ob' h=>⟨ob',u e ob' h,rfl,.refl _⟩
 have r0:R ν Z (start args os) ys H:=by
  refine⟨vg ab,λd ob hd=>?_,λd d' ob ob' h1 B=>r.inj d d' ob ob' (u d ob h1) (u d' ob' B),λd ob h=>r.apart d ob (u d ob h),r.zrow,r.deep⟩
  exact dK.mono (λid h=>⟨h,rfl⟩) rfl (λ_=>rfl) (λe _ ob' h=>⟨ob',u e ob' h,rfl,.refl _⟩) (r.obj d ob (u d ob hd))
 obtain⟨n,y,H',T,Z',G,F1,ws,e1,rfl,rfl,e2,e3,ev⟩:=hS f args os rs m' hc ν Z ys H (.inl ae) r0 ab;obtain⟨b1,b2⟩:=Dw hb;have I:∀k ob',k∈os.map (·.1)->a_ G.m k=some ob'->∃ob,a_ os k=some ob/\T k=ν k/\sameShape ob ob':=λk ob' hk h=>ev.pin k hk ob' h
 have L:∀id,eM ν os id->eM ν st.m id:=λid ⟨k,o,h1,B,C⟩=>⟨k,o,u k o h1,B,C⟩
 have bk:∀ob ob':bB,sameShape ob ob'->cg ob'=cg ob:=λob ob' h=>by
  cases ob <;> cases ob' <;> simp[sameShape]at h
  .simp[cg,h.1]
  .rfl
  rfl
 have D:∀k ob',a_ J k=some ob'->∃ob,a_ st.m k=some ob/\sameShape ob ob'/\(k∈os.map (·.1)/\a_ G.m k=some ob'/\T k=ν k/\a_ os k=some ob/\within (os.map (·.1)) ob'=true\/k∉os.map (·.1)/\ob'=ob):=λk ob' h=>by
  by_cases hk:k∈os.map (·.1)
  .grind
  rw[b2 k hk]at h;exact⟨ob',h,.refl _,.inr ⟨hk,rfl⟩⟩
 have z:∀k ob,k∉os.map (·.1)->a_ st.m k=some ob->cg ob=true->H'[(ν k).1]? = H[(ν k).1]? /\ ¬Z' (ν k).1:=λk ob hk h w=>by
  have ad:¬eM ν os (ν k).1:=by
   rintro⟨k2,o2,g1,g2,g3⟩;have:=r.inj k2 k o2 ob (u k2 o2 g1) h g2 w g3;subst this;exact hk (mem_keys.2 ⟨o2,g1⟩)
  have af:=r.lt ⟨k,ob,h,w,rfl⟩;have ah:=r.apart k ob h w;refine⟨ev.same _ af ad ah (λh=>h),λai=>?_⟩
  rcases ev.frz _ ai with h|h|h|h
  .simp_all
  .exact ad h
  .omega
  omega
 have sm:∀e ob',a_ J e=some ob'->∃ob,a_ st.m e=some ob/\ν e=ν e/\sameShape ob ob':=λe ob' h=>by
  obtain⟨ob,h1,B,_⟩:=D e ob' h;exact⟨ob,h1,rfl,B⟩
 have fresh:∀e ob,a_ G.m e=some ob->e∉os.map (·.1)->cg ob=true->H.length<=(T e).1:=λe ob he aj w=>by
  rcases ev.own _ ⟨e,ob,he,w,rfl⟩with⟨k,o,h1,B,C⟩|h|h
  .have hk:k∈os.map (·.1):=mem_keys.2 ⟨o,h1⟩;obtain⟨_,ob',h4,_⟩:=b1 k hk;obtain⟨o2,U,Y,q3⟩:=I k ob' hk h4;have U:a_ os k=some o2:=U;have h1:a_ os k=some o:=h1;rw[h1]at U;cases U;have:=e3.inj e k ob ob' he h4 w (by rw[bk _ _ q3];exact B) (by rw[Y];exact C.symm)
   exact absurd (this▸hk) aj
  .exact h.elim
  exact h
 have W:∀d1 d2 o1 o2,a_ J d1=some o1->a_ J d2=some o2->cg o1=true->cg o2=true->(ν d1).1=(ν d2).1->d1=d2:=λd1 d2 o1 o2 h1 B k1 k2 hp=>by
  obtain⟨p1,g1,s1,_⟩:=D d1 o1 h1;obtain⟨p2,g2,s2,_⟩:=D d2 o2 B;exact r.inj d1 d2 p1 p2 g1 g2 (by rw[<-bk _ _ s1];omega) (by rw[<-bk _ _ s2];omega) hp
 have O:∀id,id<H.length->¬eM ν st.m id->¬Z id->¬Rv id->H'[id]? = H[id]? := λid hl ho hz _=>ev.same id hl (λh=>ho (L id h)) hz (λh=>h)
 have X:∀id,eM ν J id->eM ν st.m id\/Rv id\/H.length<=id:=by
  rintro id ⟨k,o,h1,B,C⟩;obtain⟨ob,g1,s1,_⟩:=D k o h1;exact .inl ⟨k,ob,g1,by rw[<-bk _ _ s1];omega,C⟩
 have aa:∀id,Z id->Z id/\bl H' id=bl H id:=λid h=>⟨h,(ev.rows id h).2⟩
 refine⟨n,H',T,Z',G,F1,ws,λk hk=>(uh S.E hk).go _ _ _ _ e1,rfl,e2,e3,fresh,⟨λs sv hs=>(r.slot s sv hs).mono ev.rows λe _=>sm e,λk ob' h=>?_,W,λd1 o1 h1 k1=>?_,e3.zrow,e3.deep⟩,⟨ev.len,O,ev.rows,X,?_,λe _=>sm e,rfl⟩,sm,
  λak=>⟨⟨λs sv hs=>(r.slot s sv hs).mono aa λe _=>sm e,λk ob' h=>?_,W,λd1 o1 h1 k1=>?_,λid h=>by rw[(ev.rows id h).2];exact r.zrow id h,r.deep.mono λid h=>(ev.rows id h).2⟩,⟨ev.len,O,aa,X,λid h=>.inl h,λe _=>sm e,rfl⟩⟩⟩
 .obtain⟨ob,h1,B,C|⟨C,rfl⟩⟩:=D k ob' h
  .obtain⟨U,Y,q3,q4,q5⟩:=C;refine dK.mono (λid h=>⟨h,rfl⟩) q3.symm (λ_=>rfl) (λe he Q B=>?_) (e3.obj k ob' Y)
   have hm:=z6 q5 he;obtain⟨u1,al,u2,_⟩:=b1 e hm;rw[u1,u2]at B;cases B;obtain⟨_,_,u4,_⟩:=I e Q hm u2;exact⟨Q,u2,u4.symm,.refl _⟩
  exact dK.mono ev.rows rfl (λw=>(z k ob' C h1 w).1) (λe _=>sm e) (r.obj k ob' h1)
 .obtain⟨ob,g1,s1,C|⟨C,rfl⟩⟩:=D d1 o1 h1
  .obtain⟨U,Y,q3,q4,q5⟩:=C;rw[<-q3];exact e3.apart d1 o1 Y k1
  exact(z d1 o1 C g1 k1).2
 .intro id h;rcases ev.frz id h with h|h|h|h
  .exact .inl h
  .exact .inr (.inl (L id h))
  .exact h.elim
  omega
 .obtain⟨ob,h1,B,C|⟨C,rfl⟩⟩:=D k ob' h
  .obtain⟨U,Y,q3,q4,q5⟩:=C;have hb:=ak k U;unfold vA at hb;rw[h]at hb;refine dK.bare (Z:=Z') hb (dK.mono (λid h=>⟨h,rfl⟩) q3.symm (λ_=>rfl) (λe he Q B=>?_) (e3.obj k ob' Y))
   have hm:=z6 q5 he;obtain⟨u1,al,u2,_⟩:=b1 e hm;rw[u1,u2]at B;cases B;obtain⟨_,_,u4,_⟩:=I e Q hm u2;exact⟨Q,u2,u4.symm,.refl _⟩
  exact dK.mono aa rfl (λw=>(z k ob' C h1 w).1) (λe _=>sm e) (r.obj k ob' h1)
 obtain⟨ob,g1,s1,_⟩:=D d1 o1 h1;exact r.apart d1 ob g1 (by rw[<-bk _ _ s1];exact k1)
theorem Oe (hS:gY S c) {f:FuncId} (B:S.E.keep f=true) (r:R ν Z st F H) {args:List SV} {ys:List V} (G:bO ν st.m H Z args ys) {os:c9} (J:lu st.m args=some os)
 {rs:List SV} {m':c9} {z:List V} {u:Tb bB} (hc:c f args os=some (rs,m')) (T:dn rs=some z) (U:jr m' (os.map (·.1)) st.m=some u) :
 ∃n y H' Z',(∀k,n<=k->run S.E k (.fn f) ys H=some (y,H'))/\R ν Z' { st with m:=u } F H'/\cR ν u H' Z' (.v (result z)) y/\Ev Rv ν Z st H ν Z' { st with m:=u } H'/\∀e ob',a_ u e=some ob'->∃ob,a_ st.m e=some ob/\ν e=ν e/\sameShape ob ob':=by
 obtain⟨n,H',Q,Z',I,F1,C,e1,_,e2,_,_,g1,g2,g3,_⟩:=yo (Rv:=Rv) hS B r G J hc U;refine⟨n,result C,H',Z',e1,g1,?_,g2,g3⟩;have w:=e2.dn T;have:FR H' Z' (result z) (result C):=by
  cases z with
  | nil=>rw[w.c6];exact .same _ rfl
  | cons x D=>
   obtain⟨y,L,rfl,g1,g2⟩:=w.inv
   cases D with
   | nil=>rw[g2.c6];exact g1
   | cons x2 D=>
    obtain⟨W,O,rfl,g3,g4⟩:=g2.inv;exact .tup _ _ w.1 w.2
 exact .v _ _ this
theorem vD {ys:List V} (h:V.cF ys=true):(result ys).scalar=true:=by
 cases ys with
 | nil=>rfl
 | cons a l=>
  cases l with
  | nil=>simp only[V.cF,ζh]at h;exact h.1
  | cons b l=>simp[result,V.scalar];omega
theorem PE (hS:gY S c) {f:FuncId} (B:S.E.keep f=true) (r:R ν Z st F H) {args:List SV} {ys:List V} (J:bO ν st.m H Z args ys) {os:c9} (T:lu st.m args=some os)
 {rs:List SV} {m':c9} {z:List V} {u:Tb bB} (hc:c f args os=some (rs,m')) (U:dn rs=some z) (W:jr m' (os.map (·.1)) st.m=some u) (G:V.cF z=true) (D:∀k∈os.map (·.1),vA u k=true) :
 ∃n H',(∀k,n<=k->run S.E k (.fn f) ys H=some (result z,H'))/\R ν Z { st with m:=u } F H'/\cR ν u H' Z (.v (result z)) (result z)/\Ev Rv ν Z st H ν Z { st with m:=u } H'/\∀e ob',a_ u e=some ob'->∃ob,a_ st.m e=some ob/\ν e=ν e/\sameShape ob ob':=by
 obtain⟨n,H',I,Z',w,F1,L,e1,_,e2,_,_,_,_,g3,g4⟩:=yo (Rv:=Rv) hS B r J T hc W;obtain⟨g1,g2⟩:=g4 D;have C:=(e2.dn U).scalar.1 G;subst C;exact⟨n,H',e1,g1,.v _ _ (.same _ (jv (vD G))),g2,g3⟩
theorem PJ (hS:gY S c) {f:FuncId} (U:S.E.keep f=true) (r:R ν Z st F H) {args:List SV} {ys:List V} (ha:bO ν st.m H Z args ys) {os:c9} (hh:lu st.m args=some os)
 {rest:List SV} {m':c9} {T:List V} {B:Tb bB} {e t es:Nat} {k:Fl} {xs:List (List V)} (hc:c f args os=some (.own e::rest,m')) (hz:dn rest=some T) (hb:jr m' (os.map (·.1)) st.m=some B)
 (G:a_ m' e=some (.sl k es xs)) (J:e∉os.map (·.1)) (D:St.new { st with m:=B } t=true) :
 ∃n y H' ν' Z',(∀k,n<=k->run S.E k (.fn f) ys H=some (y,H'))/\R ν' Z' { st with m:=bH B t (.sl k es xs) } F H'/\cR ν' (bH B t (.sl k es xs)) H' Z' (zk (.own t::T.map .v)) y/\Ev Rv ν Z st H ν' Z' { st with m:=bH B t (.sl k es xs) } H'/\Kept (some t) ν st.m ν' (bH B t (.sl k es xs)):=by
 obtain⟨n,H',I,Z',aa,F1,ws,e1,rfl,e2,e3,fresh,g1,g2,g3,_⟩:=yo (Rv:=Rv) hS U r ha hh hc hb;obtain⟨w,O,rfl,q1,q2⟩:=e2.inv;have o:=e3.obj e _ G;have Q:cg (.sl k es xs)=true->¬eM ν B (I e).1:=λC=>by
  rintro⟨W,o2,h1,h2,h3⟩;obtain⟨o3,h4,_,h5⟩:=g3 W o2 h1;have X:cg o3=true:=by
   cases o3 <;> cases o2 <;> simp[sameShape]at h5
   .rw[<-h2];simp[cg,h5.1]
   .rfl
   rfl
  have ab:=r.lt ⟨W,o3,h4,X,rfl⟩;have:=fresh e _ G J C;omega
 have hR:=g1.add D (ob:=.sl k es xs) (p:=I e) (λC=>⟨Q C,e3.apart e _ G C⟩) (by
  simp only[dK,gb];exact o)
 have hsl:cR (gO ν t (I e)) (bH B t (.sl k es xs)) H' Z' (.own t) w:=by
  refine .own _ _ λu h'=>?_
  rw[cq]at h';cases h';obtain⟨_,_,_,ee,rfl⟩:=q1.i_ G;cases ee;exact⟨_,_,_,rfl,by rw[gb]⟩
 obtain⟨n1,n2,n3,n4⟩:=kG D;refine⟨n,result (w::O),H',gO ν t (I e),Z',e1,hR,?_,⟨g2.len,g2.same,g2.rows,?_,g2.frz,?_,g2.pins⟩,?_⟩
 .have L:=q2.dn hz
  cases T with
  | nil=>rw[L.c6];exact hsl
  | cons x T=>
   obtain⟨y,ad,rfl,_,_⟩:=L.inv;exact .tup _ _ (by have:=L.1;simp at this ⊢;omega) (bO.cons hsl (bO.o7 L)).2
 .intro id h;rcases Cq h with h|⟨h1,rfl⟩
  .exact g2.own id h
  exact .inr (.inr (fresh e _ G J h1))
 .intro d hd u h;have z:d≠t:=λe=>n1 (e▸hd)
  have h:a_ (bH B t (.sl k es xs)) d=some u:=h;rw[dD _ _ (Ne.symm z)]at h;obtain⟨ob,k1,W,Y⟩:=g2.pin d hd u h;exact⟨ob,k1,by rw[mZ _ _ z],Y⟩
 intro d u hd h;have z:d≠t:=λe=>hd (by rw[e])
 rw[dD _ _ (Ne.symm z)]at h;obtain⟨ob,k1,_,Y⟩:=g3 d u h;exact⟨ob,k1,mZ _ _ z,Y⟩
theorem L5 (hS:gY S c) {f:FuncId} {az:List V} {rs:List SV} {m':c9} (hg:V.cH az=true) (h:c f (az.map .v) []=some (rs,m')) :
 ∃n H2 ν' Z' st' F' ys,(∀k,n<=k->run S.E k (.fn f) az []=some (result ys,H2))/\st'.m=m'/\bO ν' m' H2 Z' rs ys/\R ν' Z' st' F' H2:=by
 obtain⟨u,r1⟩:=xU hg;obtain⟨n,y,H2,ν',Z',st',F',w,h1,rfl,z,B,C,_⟩:=hS f _ _ _ _ h _ _ az [] (.inr rfl) u r1;exact⟨n,H2,ν',Z',st',F',w,λk hk=>(uh S.E hk).go _ _ _ _ h1,z,B,C⟩
theorem Bm {ys:List V} (h:V.cF ys=true):V.cF (.bM::ys)=true/\V.cF (.di::ys)=true:=by
 simp[V.cF,V.scalar];grind
theorem bO.QY {ys:List V} (h:V.cH ys=true):bO ν m H Z (ys.map .v) ys:=bO.o7 (dg.same h)
theorem MN (hS:gY S c) (hP:∀f q,S.prm f=some q->nS S.E f q) {ops:List Oper} {place:Option (Nat×Nat)} {dr nw:Bool} {fr:List Nat} (ab:dr=place.isSome) (Y:∀b i,place=some (b,i)->nw=true->dy ops i=true)
 (hold:∀b i,place=some (b,i)->(∀d ob,a_ st.m d=some ob->cg ob=true->d∉fr->(ν d).1<b)/\∀id,Z id->id<b)
 (r:R ν Z st F H) {args:List SV} {ys:List V} (ha:bO ν st.m H Z args ys) {f:FuncId} {dst:Option Nat} {sv:SV} (h:fe S c dst dr (!dr||nw) (fu st.m fr) f args st=some (sv,st')) :
 ∃n y H' ν' Z',(∀k,n<=k->iy S.E (run S.E k) ops place f ys H=some (y,H'))/\R ν' Z' st' F H'/\cR ν' st'.m H' Z' sv y/\Ev Rv ν Z st H ν' Z' st' H'/\(dr=true->Z'=Z)/\Kept dst ν st.m ν' st'.m:=by
 unfold fe at h;split at h
 .rename_i hk;split at h
  .have C:∀{q:dw} {y:V} {H':bf},ga S.E q f ys H=some (y,H')->iy S.E q ops place f ys H=some (y,H'):=λ{q y H'} hd=>by
    unfold iy
    cases place with
    | none=>rw[if_pos (by simp[jF,hk])];omega
    | some bi=>
     obtain⟨b,i⟩:=bi;have aH  := ab;have ax:=Y b i rfl Zd
     rw[if_pos (by simp[jF,hk,ax])]
     grind
   split at h
   .
    rename_i J;split at h
    .rename_i az hs;have hg:=yB r.obj hs ha;obtain⟨nb,X⟩:=ve r ha hs;split at h
     .rename_i rs m' hc;obtain⟨na,H2,ν2,Z2,st2,F2,ws,ay,rfl,e3,e4⟩:=L5 hS hg hc;obtain⟨n,aA,aB⟩:∃n,na<=n/\nb<=n:=⟨max na nb,Nat.le_max_left ..,Nat.le_max_right ..⟩;have e1:=λk (hk:n<=k)=>ay k (Nat.le_trans aA hk)
      have O:∀k,n<=k->∀{o:Option (V×bf)},(if(result ws).scalar then some (result ws,H)else
       match result ws with
       | .hsl id es off len=>(su H.length H2 id es off len).map λ(v,ob)=>(v,H++[ob])
       | .tup (.hsl id es off len::rest)=>if V.cF rest then(su H.length H2 id es off len).map λ(v,ob)=>(.tup (v::rest),H++[ob])else none
       | _=>none)=o->ga S.E (run S.E k) f ys H=o:=λk D o ho=>by
       unfold ga mc;rw[if_pos J];simp[nN,X k (Nat.le_trans aB D),e1 k D];exact ho
      have ah:∀G:List V,(result G).scalar=true->result ws=result G->sv=.v (result G)->st'=st->∃n y H' ν' Z',(∀k,n<=k->iy S.E (run S.E k) ops place f ys H=some (y,H'))/\R ν' Z' st' F H'/\cR ν' st'.m H' Z' sv y/\Ev Rv ν Z st H ν' Z' st' H'/\(dr=true->Z'=Z)/\Kept dst ν st.m ν' st'.m:=by
       rintro G h1 h2 rfl rfl;exact⟨n,result G,H,ν,Z,λk D=>C (O k D (by rw[h2,if_pos h1])),r,.v _ _ (.same _ (jv h1)),.refl,λ_=>rfl,.refl⟩
      have emp:∀(k:Fl) (es:Nat) (G:List V) (rest:List SV),V.cF G=true->∀t,st.new t=true->∀w:V,(k=.nil/\w=.bM\/k=.emp/\w=.di)->result (w::G)=result ws->dst=some t->sv=zk (.own t::G.map .v)->st'={ st with m:=bH st.m t (.sl k es []) } ->
       ∃n y H' ν' Z',(∀k,n<=k->iy S.E (run S.E k) ops place f ys H=some (y,H'))/\R ν' Z' st' F H'/\cR ν' st'.m H' Z' sv y/\Ev Rv ν Z st H ν' Z' st' H'/\(dr=true->Z'=Z)/\Kept dst ν st.m ν' st'.m:=by
       rintro k es G rest U t Q w hw ai rfl rfl rfl;have ad:cI k=false:=by rcases hw with⟨rfl,_⟩|⟨rfl,_⟩ <;> rfl
       have hsl:cR (gO ν t (0,0)) (bH st.m t (.sl k es [])) H Z (.own t) w:=by
        refine .own _ _ λT h'=>?_
        rw[cq]at h';cases h';exact⟨_,_,_,rfl,by rcases hw with⟨rfl,rfl⟩|⟨rfl,rfl⟩ <;> rfl⟩
       have aj:(result (w::G)).scalar=true:=vD (by rcases hw with⟨_,rfl⟩|⟨_,rfl⟩;exact(Bm U).1;exact(Bm U).2)
       refine⟨n,result (w::G),H,gO ν t (0,0),Z,λk D=>C (O k D (by rw[<-ai,if_pos aj])),r.add Q (λX=>by simp[cg,ad]at X) (by simp[dK,ad]),?_,
        Ev.add Q (Nat.le_refl _) (λ_ _ _=>rfl) (λ_ _=>rfl) (λX=>by simp[cg,ad]at X),λ_=>rfl,Kept.add λ_ _ h=>h⟩
       cases G with
       | nil=>exact hsl
       | cons z G=>exact .tup _ _ Zc (bO.cons hsl (bO.QY (nH U))).2
      split at h
      .rename_i G L;split at h
       next U=>simp  at h;exact ah G U ((DD (e3.dn L)).1 U) h.1.symm h.2.symm
       simp at h
      split at h
      .rename_i e rest t _;obtain⟨w,ws,rfl,g1,g2⟩:=e3.inv;split at h
       .
        rename_i es xs G W L;split at h
        .rename_i B;simp  at B;obtain⟨⟨c1,c2⟩,Q⟩:=B;simp  at h;obtain⟨rfl,rfl⟩:=h;have o:=e4.obj e _ W;simp only[dK,if_true]at o;obtain⟨rows,hr,aI,hf,aG,ak⟩:=o;obtain⟨q1,q2⟩:=ak trivial;have ae  := by
          have:=Gu hf c2;rw[q1,List.drop_zero,<-q2,List.take_length]at this;exact this
         subst ae;obtain⟨_,_,_,ee,rfl⟩:=g1.i_ W;cases ee;have I  := (g2.dn L).scalar.1 c1;subst I;have al:su H.length H2 (ν2 e).1 es 0 rows.length=some (.hsl H.length es 0 rows.length,.row es rows):=by
          unfold su;rw[hr];simp only[true_and];rw[if_pos];rw[List.all_eq_true];intro x hx;unfold mK at c2;rw[List.all_eq_true]at c2;exact c2 x hx
         have hH:∀id,id<H.length->(H++[Ob.row es rows])[id]? = H[id]? := λid hl=>List.getElem?_append_left hl
         have am:∀id,Z id->bl (H++[Ob.row es rows]) id=bl H id:=λid L=>by unfold bl;rw[hH id (r.uy L)]
         have r2  := r.heap (λid ho=>hH id (r.lt ho)) am
         have an:V.k9 rows=true:=by
          refine kg.2 λj u hu=>?_
          unfold mK at c2;rw[List.all_eq_true]at c2;have:=c2 u (List.mem_of_getElem? hu);rw[List.all_eq_true]at this;exact iE.2 λi v hv=>jv (this v (List.mem_of_getElem? hv))
         have hR:=r2.add   (ob:=.sl .row es rows) (p:=(H.length,0)) Q (λ_=>⟨λho=>absurd (r.lt ho) Zc,λL=>absurd (r.uy L) Zc⟩) (by
          simp only[dK,gb];refine⟨rows,by simp,by simp,?_,(fM.same an).DL,λ_=>⟨trivial,rfl⟩⟩
          rw[List.drop_zero,List.take_length];exact fM.same an)
         have hsl:cR (gO ν t (H.length,0)) (bH st.m t (.sl .row es rows)) (H++[Ob.row es rows]) Z (.own t) (.hsl H.length es 0 rows.length):=by
          refine .own _ _ λT h'=>?_
          rw[cq]at h';cases h';exact⟨_,_,_,rfl,by simp[qC,gb]⟩
         have ao:Ev Rv ν Z st H (gO ν t (H.length,0)) Z { st with m:=bH st.m t (.sl .row es rows) } (H++[Ob.row es rows]):=Ev.add Q Zc (λid hl _=>hH id hl) am (λ_=>.inr (Nat.le_refl _))
         have ap:qC (ν2 e) Fl.row es rows.length=.hsl (ν2 e).1 es 0 rows.length:=by simp[qC,q1]
         rw[ap]at O
         cases rest with
         | nil=>
          have  := by simp only[dn,ζa]at L;exact L.symm
          subst this;refine⟨n,_,_,_,Z,λk D=>C (O k D  ?_),hR,hsl,ao,λ_=>rfl,Kept.add λ_ _ h=>h⟩
          simp[result,V.scalar,al]
         | cons x2 rest=>
          have aC:∃w2 af,ws=w2::af:=by
           have:=g2.1
           cases ws with
           | nil=>simp at this
           | cons a b=>exact⟨a,b,rfl⟩
          obtain⟨w2,af,rfl⟩:=aC;refine⟨n,_,_,_,Z,λk D=>C (O k D (o:=some (.tup (.hsl H.length es 0 rows.length::w2::af),H++[Ob.row es rows])) ?_),hR,?_,ao,λ_=>rfl,Kept.add λ_ _ h=>h⟩
          .simp only[result,V.scalar,V.cF,Bool.false_and,Bool.false_eq_true,if_false];have aD  := by simpa [V.cF]using c1
           simp[aD,al]
          exact .tup _ _ Zc (bO.cons hsl (bO.QY (nH c1))).2
        simp at h
       .rename_i es xs G W L;split at h
        next B=>simp  at B;simp  at h;obtain⟨rfl,rfl⟩:=h;obtain⟨_,_,_,ee,rfl⟩:=g1.i_ W;cases ee;have I:=(g2.dn L).scalar.1 B.1;subst I;exact emp .nil es ws rest B.1 _ B.2 .bM Zc rfl rfl rfl rfl
        simp at h
       .rename_i es xs G W L;split at h
        next B=>simp  at B;simp  at h;obtain⟨rfl,rfl⟩:=h;obtain⟨_,_,_,ee,rfl⟩:=g1.i_ W;cases ee;have I:=(g2.dn L).scalar.1 B.1;subst I;exact emp .emp es ws rest B.1 _ B.2 .di Zc rfl rfl rfl rfl
        simp at h
       simp at h
      simp at h
     grind
    grind
   rename_i J;split at h
   .rename_i q hq;split at h
    .simp at h
    rename_i hd;obtain⟨n,y,H',ν',e1,e2,e3,e4,e5⟩:=Pm  (hP f q hq) r ha h;exact⟨n,y,H',ν',Z,λk D=>C (by unfold ga;rw[if_neg J];exact e1 k D),e2,e3,e4,λh=>absurd h hd,e5⟩
   split at h
   .rename_i os hh;split at h
    .rename_i rs m' hc;split at h
     .rename_i G m2 L X;split at h
      .simp at h
      rename_i aa;simp  at h;obtain⟨rfl,rfl⟩:=h
      cases aq:dr with
      | false=>
       obtain⟨n,y,H',Z',e1,e2,e3,e4,e5⟩:=Oe  hS hk r ha hh hc L X;exact⟨n,y,H',ν,Z',λk D=>C (by unfold ga;rw[if_neg J];exact e1 k D),e2,e3,e4,(λh=>nomatch h),λe T _=>e5 e T⟩
      | true=>
       rw[aq]at aa;have s7:V.cF G=true/\∀k∈os.map (·.1),vA m2 k=true:=by
        simp only[Bool.true_and,Bool.not_eq_true',Bool.not_eq_false,ζh,List.all_eq_true]at aa;refine⟨aa.1,λk hk=>?_⟩
        obtain⟨x,hx,rfl⟩:=List.mem_map.1 hk;exact aa.2 x hx
       obtain⟨n,H',e1,e2,e3,e4,e5⟩:=PE (Rv:=Rv) hS hk r ha hh hc L X s7.1 s7.2;exact⟨n,_,H',ν,Z,λk D=>C (by unfold ga;rw[if_neg J];exact e1 k D),e2,e3,e4,λ_=>rfl,λe T _=>e5 e T⟩
     .rename_i m2 L X;split at h
      .simp at h
      rename_i hd;split at h
      .rename_i e rest t;split at h
       .rename_i k es xs G he aE;split at h
        next B=>simp only[ζh,Bool.not_eq_true',List.contains_eq_mem,decide_eq_false_iff_not]at B;simp only[ζa,ζc]at h;obtain⟨rfl,rfl⟩:=h;obtain⟨n,y,H',ν',Z',e1,e2,e3,e4,e5⟩:=PJ hS hk r ha hh hc aE X he B.1 B.2;exact⟨n,y,H',ν',Z',λk D=>C (by unfold ga;rw[if_neg J];exact e1 k D),e2,e3,e4,λh=>absurd h hd,e5⟩
        simp at h
       simp at h
      simp at h
     simp at h
    simp at h
   simp at h
  grind
 rename_i hk;have ar  := by simpa using hk
 split at h
 .rename_i az hs;split at h
  .rename_i hl;split at h
   .rename_i rs m' hc;split at h
    .rename_i G L;split at h
     .rename_i B;simp only[Bool.or_eq_true]at B;simp  at h;obtain⟨rfl,rfl⟩:=h;obtain⟨n,H',e1,e2,e3,e4⟩:=PK  hS ab Y hold r ha ar hs (by simpa using hl) hc L B
      exact⟨n,_,H',ν,Z,e1,e2,e3,e4,λ_=>rfl,.refl⟩
     rename_i au;split at h
     .rename_i aF;obtain⟨ds,av,e⟩:=ζf.1 h;simp  at e;obtain⟨rfl,rfl⟩:=e;have aw:(result G).scalar=false:=by
       cases hq:(result G).scalar with
       | false=>rfl
       | true=>exact absurd (by simp[hq]) au
      obtain⟨n,H',e1,e2,e3,e4⟩:=OV  hS Y (λb i hp=>(hold b i hp).2) r ha ar hs (by rw[<-ab];exact aF) hc L aw av (ud av hs)
      exact⟨n,_,H',ν,Z,e1,e2,e3,e4,λ_=>rfl,λe T _ h=>⟨T,mO h,rfl,.refl _⟩⟩
     simp at h
    simp at h
   simp at h
  simp at h
 simp at h
end
structure CX where
 E:Env
 nm:FuncId->Option Nat
 nt:Nat
def Aa (ops:List Oper) (o:Oper):Option (Option (Nat×Bool)):=
 match o.guard with
 | none=>some none
 | some (j,b)=>((ops[j]?).bind (·.dst)).map λd=>some (d,b)
def wu (nt:Nat):Option Nat->Bool
 | none=>true
 | some d=>decide (d<nt)
def vm (u:Bool) (ops:List Oper) (i:Nat) (k:K) (os:List Operand):K×List Operand×Bool:=
 if u && !dy ops i then match k,os,xO ops i with
  | .l (.store n),.tmp w::z,some (a,l)=>if w=a then(.l (.storeF n),(.tmp w::z)++l.map .tmp,true)else(k,os,false)
  | .l (.append n),os,_=>if uG ops i then(.e n,os,true)else(k,os,false)
  | .r (.load n ag),[.tmp w],_=>if(nv ops i w).isEmpty then(k,os,false)else(.r (.loadF n ag),.tmp w::(nv ops i w).map .tmp,false)
  | _,_,_=>(k,os,false)
 else(k,os,u&&dy ops i)
theorem BM (u:Bool) (ops:List Oper) (i:Nat) (k:K) (os:List Operand):(vm u ops i k os=(k,os,u&&dy ops i)/\∀n ag a',u=true->dy ops i=false->k=.r (.load n ag)->os=[.tmp a']->nv ops i a'=[]) \/
 (u=true/\dy ops i=false/\∃n a l z,k=.l (.store n)/\os=.tmp a::z/\xO ops i=some (a,l)/\vm u ops i k os=(.l (.storeF n),os++l.map .tmp,true)) \/
 (u=true/\dy ops i=false/\∃n ag a,k=.r (.load n ag)/\os=[.tmp a]/\vm u ops i k os=(.r (.loadF n ag),.tmp a::(nv ops i a).map .tmp,false)) \/
 (u=true/\dy ops i=false/\uG ops i=true/\∃n,k=.l (.append n)/\vm u ops i k os=(.e n,os,true)):=by
 unfold vm;split
 .rename_i h;simp only[ζh,Bool.not_eq_true']at h;split
  .rename_i n a' z a l hk;split
   next e=>subst e;refine .inr (.inl ⟨h.1,h.2,n,a',l,z,rfl,rfl,hk,?_⟩);simp only[vm,h.1,h.2,hk,Bool.not_false,Bool.and_self,if_true]
   exact .inl ⟨by rw[h.2,Bool.and_false],λn ag a' _ _ e=>by cases e⟩
  .rename_i n;split
   next G=>refine .inr (.inr (.inr ⟨h.1,h.2,G,n,rfl,rfl⟩))
   exact .inl ⟨by rw[h.2,Bool.and_false],λn ag a' _ _ e=>by cases e⟩
  .rename_i n ag a';split
   .rename_i I;refine .inl ⟨by rw[h.2,Bool.and_false],λn ag D _ _ _ e=>?_⟩
    simp only[List.cons.injEq,Operand.tmp.injEq,and_true]at e;subst e;simpa using I
   exact .inr (.inr (.inl ⟨h.1,h.2,n,ag,a',rfl,rfl,rfl⟩))
  rename_i w B C;refine .inl ⟨by rw[h.2,Bool.and_false],λn ag D _ _ e1 e2=>?_⟩
  first|exact(C _ _ _ e1 e2).elim|exact(C _ _ _ _ e1 e2 rfl).elim|exact(w _ _ _ e1 e2).elim|exact(B _ _ _ e1 e2).elim|exact(w _ _ _ _ e1 e2 rfl).elim|exact(B _ _ _ _ e1 e2 rfl).elim
 rename_i h;refine .inl ⟨rfl,λn ag D hd J _ _=>?_⟩
 rw[hd,J]at h;exact absurd rfl h
def lY (X:CX) (u:Bool) (ops:List Oper) (i:Nat) (o:Oper):Option RO:=
 if wu X.nt o.dst then
  match Aa ops o,resolve X.E X.nm o.op with
  | some gd,some (k,os)=>if ze k then if u&&vC ops i then match k,o.op with
   | .a (.makeSl size zero),.makeSlice ..=>(os.mapM (nT X.nm)).map λaz=>⟨o.dst,gd,false,.p (.makeC size zero),az,[],[]⟩
   | .a (.buildSl size len zero idx),.buildSlice ..=>if size≠0/\len=0/\idx=[]then(os.mapM (nT X.nm)).map λaz=>⟨o.dst,gd,false,.p .emptyC,az,[],[]⟩else none
   | _,_=>none
   else((vm u ops i k os).2.1.mapM (nT X.nm)).map λaz=>⟨o.dst,gd,(vm u ops i k os).2.2,(vm u ops i k os).1,az,[],[]⟩else none
  | _,_=>none
 else none
theorem BU {E:Env} {N:Nat->FuncId} {F:Frame} {op:Op} {ys:List V} {size:Nat} {zero:List V} {y:V} (z:∃t l c,op=.buildSlice t l c) (h:Bo E N F op ys (.a (.buildSl size 0 zero []))) (B:size≠0) (u:bq N .emptyC ys=some y):pe E F op=some y:=by
 obtain⟨t,l,c,rfl⟩:=z;obtain⟨g1,g2⟩:=h;unfold bq at u;split at u <;> first|(rename_i e;cases e;done)|skip
 .simp only[ζa]at u;subst u;have w:=g2 _ (show kL (.buildSl size 0 zero []) []=some (.row size [],.sl size 0)by simp[kL,gB])
  unfold pe;rw[w];simp[B]
 cases u
theorem BO {E:Env} {N:Nat->FuncId} {F:Frame} {op:Op} {ys:List V} {size:Nat} {zero:List V} {y:V} (z:∃t l c,op=.makeSlice t l c) (h:Bo E N F op ys (.a (.makeSl size zero))) (u:bq N (.makeC size zero) ys=some y):pe E F op=some y:=by
 obtain⟨t,l,c,rfl⟩:=z;obtain⟨g1,g2⟩:=h;unfold bq at u;split at u <;> first|(rename_i e;cases e;done)|skip
 .rename_i k n I m e;cases e;split at u
  .rename_i c;obtain⟨rfl,rfl,B,rfl,C,D⟩:=c;have w:=g2 _ (show kL (.makeSl size zero) [.int .i64 n,.int .i64 n]=some (.row size (List.replicate n.toNat zero),.sl size n.toNat)by simp only[kL,B,C,Int.le_refl,and_self,if_true])
   unfold pe;rw[w];simp only;rw[if_pos (by refine⟨by trivial,by simp,List.all_eq_true.2 λx G=>by rw[List.eq_of_mem_replicate G];exact D⟩),<-u]
  cases u
 cases u
theorem Bs {X:CX} {dr:Bool} {ops:List Oper} {i:Nat} {o:Oper} {ro:RO} (hc:lY X dr ops i o=some ro):wu X.nt o.dst=true/\∃g now k az,Aa ops o=some g/\ro=⟨o.dst,g,now,k,az,[],[]⟩:=by
 unfold lY at hc;split at hc
 .rename_i hd;split at hc
  .rename_i g k os hg hr;split at hc
   ·(repeat' split at hc) <;> first|(cases hc;done)|(obtain⟨az,u,rfl⟩:=ζf.1 hc;exact⟨hd,_,_,_,_,hg,rfl⟩)
   cases hc
  cases hc
 cases hc
structure Good (X:CX) (S:Sys):Prop where
 E:X.E=S.E
 N:∀f s,X.nm f=some s->S.N s=f
 prm:∀f q,S.prm f=some q->nS S.E f q
section
variable {Rv:Nat->Prop} {ν ν':Nu} {Z Z':Nat->Prop} {st st':St} {m m':Tb bB} {F F':Frame} {H H' H1:bf} {S:Sys} {c:bN} {X:CX}
def Old (b:Nat) (fr:List Nat) (ν:Nu) (Z:Nat->Prop) (m:Tb bB):Prop:=(∀d ob,a_ m d=some ob->cg ob=true->d∉fr->(ν d).1<b)/\∀id,Z id->id<b
theorem mb {fr:List Nat}:∀{svs:List SV},eD fr svs=true->∀d∈fr,SV.dh d svs=false
 | [],_,d,_=>rfl
 | .v _::r,h,d,hd=>(mb (svs:=r) (by simpa [eD]using h) d hd)
 | .ptr e _::r,h,d,hd=>by
  simp[eD,Bool.not_eq_true']at h;simp[SV.dh,SV.cG];exact⟨λe=>h.1 (e▸hd),mb h.2 d hd⟩
 | .el e _ _::r,h,d,hd=>by
  simp[eD,Bool.not_eq_true']at h;simp[SV.dh,SV.cG];exact⟨λe=>h.1 (e▸hd),mb h.2 d hd⟩
 | .mp e::r,h,d,hd=>by
  simp[eD,Bool.not_eq_true']at h;simp[SV.dh,SV.cG];exact⟨λe=>h.1 (e▸hd),mb h.2 d hd⟩
 | .own _::r,h,_,_=>by simp[eD]at h
 | .clo ..::r,h,_,_=>by simp[eD]at h
 | .tup _::r,h,_,_=>by simp[eD]at h
 | .agg _::r,h,_,_=>by simp[eD]at h
 | .yl _::r,h,_,_=>by simp[eD]at h
def Bb (S:Sys) (ops:List Oper) (place:Option (Nat×Nat)) (dr:Bool) (F:Frame) (op:Op) (dst:Option Nat) (ν:Nu) (Z:Nat->Prop) (st:St) (H:bf) (sv:SV) (st':St):Prop:=
 ∃n y H' ν' Z',(∀k,n<=k->c8 S.E (run S.E k) ops place F H op=some (y,H'))/\R ν' Z' st' F H'/\cR ν' st'.m H' Z' sv y/\Ev (λid=>∃b j,place=some (b,j)/\id=b+j) ν Z st H ν' Z' st' H' /\
  (dr=true->Z'=Z/\Kept dst ν st.m ν' st'.m)
theorem wz {E:Env} {F:Frame} {H:bf} {place:Option (Nat×Nat)} {op:Op} {v:V} (h:bD E F op=some v):qA E F H place op=some v:=by unfold qA;rw[h]
theorem xP:∀{xs ys:List (List V)} {l:List Int},fM H Z xs ys->oa xs=some l->oa ys=some l
 | [],ys,l,h,z=>by
  have:=h.1;have:ys=[]:=List.eq_nil_of_length_eq_zero (by simpa using this.symm)
  subst this;exact z
 | x::xs,[],l,h,z=>by have:=h.1;simp at this
 | x::xs,y::ys,l,h,z=>by
  unfold oa at z;split at z
  next e=>cases e
  .rename_i n r e;cases e;obtain⟨k,h1,rfl⟩:=ζf.1 z;have w:=h.2 0 _ y rfl rfl;obtain⟨u,C,rfl,p1,p2⟩:=w.inv;rw[p2.c6,p1.int];have:=xP (xs:=xs) (ys:=ys) ⟨by have:=h.1;simpa using this,λj a b B z=>h.2 (j+1) a b B z⟩ h1
   simp only[oa,this,Option.map_some]
  cases z
theorem KG (gd:Good X S) {ops:List Oper} {place:Option (Nat×Nat)} {dr:Bool} {op:Op} {dst:Option Nat} {p:sZ} {svs:List SV} {ys:List V} (hk:ze (.p p)=true) (r:R ν Z st F H) (rs:bO ν st.m H Z svs ys)
 (u:Bo X.E S.N F op ys (.p p)) {sv:SV} (h:(jg S.N st.m p svs).map (λx=>(x,st))=some (sv,st')):Bb S ops place dr F op dst ν Z st H sv st':=by
 obtain⟨x,z,e⟩:=ζf.1 h;obtain⟨rfl,rfl⟩:=e;obtain⟨y,B,w⟩:=FZ  (λzero pl e=>by subst e;simpa [ze]using hk) r.obj rs z
 obtain⟨h1,C⟩:=u;exact⟨0,y,H,ν,Z,λq _=>by unfold c8;rw[h1];simp only[<-gd.E,wz (C y B),Option.map_some],r,w,.refl,λ_=>⟨rfl,.refl⟩⟩
theorem CE (gd:Good X S) {ops:List Oper} {place:Option (Nat×Nat)} {dr:Bool} {op:Op} {p:sZ} {svs:List SV} {ys:List V} (hp:∀zero pl,p≠.build zero pl) (u:cT op=.alloc) (z:o8 ops place=true) (B:∀y,bq S.N p ys=some y->pe X.E F op=some y)
 (r:R ν Z st F H) (rs:bO ν st.m H Z svs ys) {sv:SV} (h:(jg S.N st.m p svs).map (λx=>(x,st))=some (sv,st')):Bb S ops place dr F op none ν Z st H sv st':=by
 obtain⟨x,C,e⟩:=ζf.1 h;simp only[ζc]at e;obtain⟨rfl,rfl⟩:=e;obtain⟨y,D,w⟩:=FZ (N:=S.N) (λzero pl e=>absurd e (hp zero pl)) r.obj rs C
 refine⟨0,y,H,ν,Z,λq _=>?_,r,w,.refl,λ_=>⟨rfl,.refl⟩⟩
 unfold c8;rw[u];simp only[z,if_true,<-gd.E,B y D,Option.map_some]
theorem Hr:∀{D u:List Operand} {vs:List V},eF F (D++u)=some vs->∃z B,eF F D=some z/\eF F u=some B/\vs=z++B
 | [],u,vs,h=>⟨[],vs,rfl,h,rfl⟩
 | x::D,u,vs,h=>by
  obtain⟨a,az,h1,G,rfl⟩:=gN h;obtain⟨z,B,g1,g2,rfl⟩:=Hr G;exact⟨a::z,B,by simp[eF,h1,g1],g2,rfl⟩
theorem Az:∀{l:List Nat} {vs:List V},eF F (l.map Operand.tmp)=some vs->vs=l.map (get F)
 | [],vs,h=>oJ h
 | x::l,vs,h=>by
  obtain⟨a,az,h1,u,rfl⟩:=gN h;simp[ev]at h1;subst h1;rw[Az u];rfl
theorem QL (gd:Good X S) {call:dw} {ops:List Oper} {b j n a:Nat} {l:List Nat} {o:Oper} {u:List Operand} {ys:List V} {y:V} (hr:resolve X.E X.nm o.op=some (.l (.store n),.tmp a::u)) (B:eF F ((.tmp a::u)++l.map Operand.tmp)=some ys)
 (J:xO ops j=some (a,l)) (T:dy ops j=false) (e1:fc H (.storeF n) ys=some (y,H')):c8 S.E call ops (some (b,j)) F H o.op=some (y,H'):=by
 obtain⟨W,Y,h1,I,rfl⟩:=Hr B;obtain⟨g1,g2⟩:=jy gd.N hr h1;obtain⟨w,L,C,O,rfl⟩:=gN h1;simp[ev]at C;have z:∃v,L=[v]:=by
  have D:∃x,u=[x]:=by
   unfold resolve at hr
   (repeat' split at hr) <;> first|grind|skip
   all_goals (try (obtain⟨_,_,e⟩:=ζf.1 hr;simp[K.l.injEq,G0.store.injEq,reduceCtorEq]at e))
   grind
  obtain⟨x,rfl⟩:=D;obtain⟨v,Z,_,Q,rfl⟩:=gN O;rw[oJ Q];grind
 obtain⟨v,rfl⟩:=z;rw[Az I,<-C]at e1;simp  at e1
 cases G:get F a with
 | hptr id el off=>
  rw[G]at e1;simp only[fc]at e1;split at e1
  .have U:pN ops j F=true:=by
    unfold pN
    grind
   unfold c8;rw[g1];simp[U,<-gd.E];refine g2 _ _ ?_;rw[<-C,G];exact e1
  grind
 | _=>rw[G]at e1;simp[fc]at e1
theorem Dz {E:Env} {nm:FuncId->Option Nat} {op:Op} {s:Nat} {a:Bool} {os:List Operand} (h:resolve E nm op=some (.r (.loadF s a),os)):False:=by
 unfold resolve at h
 (repeat' split at h) <;> first|grind|skip
 all_goals simp_all
theorem EM {E:Env} {nm:FuncId->Option Nat} {op:Op} {s a':Nat} {a:Bool} {t:TypeId} {os:List Operand} (h:resolve E nm op=some (.r (.load s a),os)):∃t x,op=.load t x/\os=[x]:=by
 unfold resolve at h
 (repeat' split at h) <;> first|grind|skip
 all_goals simp_all
 grind
theorem KP {E:Env} {nm:FuncId->Option Nat} {ops:List Oper} {j:Nat} {op:Op} {q:G_} {os:List Operand} (hr:resolve E nm op=some (.r q,os)) (h:∀n ag a',K.r q=.r (.load n ag)->os=[.tmp a']->∀t,op=.load t (.tmp a')->nv ops j a'=[]):mm ops j F op=true:=by
 unfold mm;split
 .rename_i t a';have:∃n ag,q=.load n ag/\os=[.tmp a']:=by
   obtain⟨d,_,e⟩:=ζf.1 hr
   grind
  grind
 rfl
theorem OQ (gd:Good X S) {ops:List Oper} {b j n a:Nat} {ag:Bool} {fr:List Nat} {o:Oper} {svs:List SV} {ys:List V} {dst:Option Nat} {x:SV} (hr:resolve X.E X.nm o.op=some (.r (.load n ag),[.tmp a])) (U:eF F (.tmp a::(nv ops j a).map Operand.tmp)=some ys) (rs:bO ν st.m H Z svs ys)
 (W:eD fr svs=true) (aa:b<=H.length) (ab:∀d ob,a_ st.m d=some ob->cg ob=true->d∉fr->(ν d).1<b) (D:∀id,Z id->id<b) (r:R ν Z st F H) (T:nu st.m (.loadF n ag) svs=some x):Bb S ops (some (b,j)) true F o.op dst ν Z st H x st:=by
 obtain⟨w,ws,h1,h2,rfl⟩:=gN U;simp[ev]at h1;have ad:=Az h2;unfold nu at T;split at T <;> first|(rename_i u;cases u;done)|skip
 .rename_i size agg d off l u;cases u;split at T
  .rename_i C;split at T
   .rename_i cs B;obtain⟨w',ae,e,g1,g2⟩:=rs.inv;cases e;have G:=G3 r B g2 C;obtain⟨_,_,rfl⟩:=g1.ni B;have I:∀id,Z id->Z id/\bl (H.take b) id=bl H id:=λid h=>⟨h,lR (D id h)⟩
    have J:∀id,Z id->Z id/\bl H id=bl (H.take b) id:=λid h=>⟨h,(lR (D id h)).symm⟩
    have af:d∉fr:=λhf=>by
     have:=mb W d hf;simp[SV.dh,SV.cG]at this
    obtain⟨y,hy,O⟩:=tZ  (r:=.load n ag)   (λs a e=>by cases e) (λkk z ok e=>by cases e) (bO.cons (g1.mono I λe _=>gU ν st.m e) .nil) (λd2 Q ob L=>by
     have ah:d2∉fr:=λhf=>by
      have  := by simpa [SV.dh,SV.cG]using Q
      grind
     exact dK.mono I rfl (λhb=>by grind) (λe _=>gU ν st.m e) (r.obj d2 ob L))  (by simp[nu,B];omega)
    obtain⟨k1,k2⟩:=jy  gd.N hr (show eF F [.tmp a]=some [.hptr (ν d).1 0 off]from by simp[eF,ev,h1])
    have Y:mm ops j F o.op=true:=by
     obtain⟨t,x',e1,e2⟩:=EM (a':=0) (t:=0) hr;rw[e1];simp  at e2;subst e2;simp[mm];intro s hs;have hm:get F s∈ws:=by grind
     have:=List.all_eq_true.1 G _ hm;split
     .rename_i ai _ _ hg;simp[oV]at this ⊢
      grind
     rfl
    refine⟨0,y,H,ν,Z,λq _=>?_,r,O.mono J (λe _=>gU ν st.m e),.refl,λ_=>⟨rfl,.refl⟩⟩
    unfold c8;rw[k1];simp[<-gd.E,k2 (H.take b) y hy,Y]
   grind
  grind
 grind
theorem Co {E:Env} {nm:FuncId->Option Nat} {op:Op} {n:Nat} {os:List Operand} (h:resolve E nm op=some (.l (.append n),os)) {y:V} {ys:List V} (hv:eF F os=some (y::ys)) (z:y=.bM\/y=.di):isApp op=true/\n5 F op=true:=by
 have key:∃args u p s x,op=.call { callee:=.builtin .append,args:=args,argTypes:=u }/\args.toList=[s,x]/\os=[s,x]/\p=():=by
  unfold resolve at h
  (repeat' split at h) <;> first|(simp at h;done)|skip
  all_goals (try (obtain⟨_,_,e⟩:=ζf.1 h;simp only[ζc,K.l.injEq,reduceCtorEq,false_and]at e))
  all_goals (simp only[ζa,ζc]at h;obtain⟨_,rfl⟩:=h;exact⟨_,_,(),_,_,rfl,by assumption,rfl,rfl⟩)
 obtain⟨args,u,_,s,x,rfl,h1,rfl,_⟩:=key;obtain⟨a,az,w,B,e⟩:=gN hv;cases e;refine⟨rfl,?_⟩;simp only[n5,h1,w];rcases z with rfl|rfl <;> rfl
theorem QM (gd:Good X S) (hS:gY S c) {ops:List Oper} {place:Option (Nat×Nat)} {dr:Bool} {fr:List Nat} {i:Nat} (J:dr=place.isSome) (hi:∀b j,place=some (b,j)->j=i)
 (hold:∀b j,place=some (b,j)->b<=H.length/\Old b fr ν Z st.m)
 {o:Oper} {ro:RO} (hc:lY X dr ops i o=some ro) (aE:∀b j,place=some (b,j)->ops[j]? = some o) (al:∀b j,place=some (b,j)->cT o.op=.alloc->H[b+j]? = some .free)
 (r:R ν Z st F H) {sv:SV} (h:kM S c dr fr ro st=some (sv,st')) :
 Bb S ops place dr F o.op (v8 ro) ν Z st H sv st':=by
 unfold lY at hc;split at hc
 .split at hc
  .rename_i g k os hg hr;split at hc
   .rename_i hk;split at hc
    .rename_i ah;simp only[ζh]at ah;have av:o8 ops place=true:=by
      cases place with
      | none=>rw[J]at ah;exact absurd ah.1 Zc
      | some Q=>obtain⟨b,j⟩:=Q;rw[hi b j rfl];exact ah.2
     split at hc
     .rename_i size zero t l c aa;obtain⟨az,ha,rfl⟩:=ζf.1 hc;unfold kM at h;split at h
      next I D=>obtain⟨ys,G,rs⟩:=nV gd.N r.slot ha D;have L:=jy gd.N hr G;exact CE gd (λ_ _ e=>by cases e) L.1 av (λy hy=>BO ⟨_,_,_,aa⟩ L hy) r rs h
      simp at h
     .rename_i size len zero idx t l c aa;split at hc
      .rename_i aF;obtain⟨aG,rfl,rfl⟩:=aF;obtain⟨az,ha,rfl⟩:=ζf.1 hc;unfold kM at h;split at h
       next I D=>obtain⟨ys,G,rs⟩:=nV gd.N r.slot ha D;have L:=jy gd.N hr G;exact CE gd (λ_ _ e=>by cases e) L.1 av (λy hy=>BU ⟨_,_,_,aa⟩ L aG hy) r rs h
       simp at h
      cases hc
     cases hc
    rename_i ai;have ak:o8 ops place=false:=by
     cases place with
     | none=>rfl
     | some Q=>
      obtain⟨b,j⟩:=Q;have C:=hi b j rfl
      cases aw:vC ops j with
      | false=>exact aw
      | true=>exact absurd (by rw[J,<-C,aw];rfl) ai
    rcases BM dr ops i k os with⟨hq,aH⟩|⟨u,am,n,a,l,aR,rfl,rfl,aI,hq⟩|⟨u,am,n,ag,a,rfl,rfl,hq⟩|⟨u,am,aJ,n,rfl,hq⟩
    rotate_left
    .rw[hq]at hc;obtain⟨az,ha,rfl⟩:=ζf.1 hc;unfold kM at h;split at h
     .rename_i I D;obtain⟨ys,G,rs⟩:=nV gd.N r.slot ha D;simp only[u,Bool.not_true,Bool.false_or,if_true]at h;obtain⟨y,H',ν',e1,e2,e3,e4,e5⟩:=As r rs h;refine⟨0,y,H',ν',Z,λq _=>?_,e2,e3,e4.weak (λ_ h=>h.elim),λ_=>⟨rfl,e5⟩⟩
      cases place with
      | none=>rw[J]at u;cases u
      | some Q=>
       obtain⟨b,j⟩:=Q;have C:=hi b j rfl;subst C;exact QL gd hr G aI am e1
     simp at h
    .rw[hq]at hc;obtain⟨az,ha,rfl⟩:=ζf.1 hc;unfold kM at h;split at h
     .rename_i I D;obtain⟨ys,G,rs⟩:=nV gd.N r.slot ha D;simp only[u,Bool.not_true,Bool.or_self,Bool.false_or]at h;split at h
      .rename_i an;obtain⟨x,hx,e⟩:=ζf.1 h;simp only[ζc]at e;obtain⟨rfl,rfl⟩:=e
       cases place with
       | none=>rw[J]at u;cases u
       | some Q=>
        obtain⟨b,j⟩:=Q;have C:=hi b j rfl;subst C;obtain⟨ax,ao,aj⟩:=hold b j rfl;rw[u];exact OQ gd hr G rs an ax ao aj r hx
      simp at h
     simp at h
    .rw[hq]at hc;obtain⟨az,ha,rfl⟩:=ζf.1 hc;unfold kM at h;split at h
     rotate_left
     .simp at h
     rename_i I D;obtain⟨ys,G,rs⟩:=nV gd.N r.slot ha D;simp only at h;have key:∃e x,(e=V.bM\/e=V.di)/\I=[.v e,x]/\k8 st o.dst (.append n) I=some (sv,st'):=by
      split at h
      .exact⟨_,_,.inl rfl,rfl,h⟩
      .exact⟨_,_,.inr rfl,rfl,h⟩
      cases h
     obtain⟨e,x,he,rfl,hl⟩:=key;obtain⟨y,H',ν',e1,e2,e3,e4,e5⟩:=As r rs hl;obtain⟨g1,g2⟩:=jy gd.N hr G;refine⟨0,y,H',ν',Z,λq _=>?_,e2,e3,e4.weak (λ_ h=>h.elim),λ_=>⟨rfl,e5⟩⟩
     obtain⟨y1,zs,rfl,f1,f2⟩:=rs.inv;have aK:y1=.bM\/y1=.di:=by
      cases f1 with|v _ _ hf=>rcases he with rfl|rfl <;> first|exact .inl hf.bM|exact .inr hf.di
     cases place with
     | none=>rw[J]at u;cases u
     | some Q=>
      obtain⟨b,j⟩:=Q;have C:=hi b j rfl;subst C;obtain⟨r1,r2⟩:=Co hr G aK;exact Ki r1 (by rw[<-gd.E];exact g2 _ _ e1) (.inr ⟨aJ,r2,(hold b j rfl).1⟩)
    rw[hq]at hc;obtain⟨az,ha,rfl⟩:=ζf.1 hc;unfold kM at h;split at h
    .rename_i I D;obtain⟨ys,G,rs⟩:=nV gd.N r.slot ha D;have B:=jy gd.N hr G;simp only at h
     cases k with
     | p p=>
      cases p with
      | slice size lo hi=>
       simp only at h;split at h
       .rename_i d bs;split at h
        .simp at h
        rename_i ap;obtain⟨y,ν',h1,h2,h3,h4⟩:=JS (N:=S.N) (Rv:=λid=>∃b j,place=some (b,j)/\id=b+j) r rs h
        obtain⟨g1,g2⟩:=B;exact⟨0,y,H,ν',Z,λq _=>by unfold c8;rw[g1];simp only[<-gd.E,wz (g2 y h1),Option.map_some],h2,h3,h4,λhd=>absurd hd ap⟩
       exact KG gd hk r rs B h
      | _=>exact KG gd hk r rs B h
     | r q=>
      simp only at h;split at h
      .rename_i U;obtain⟨x,hx,e⟩:=ζf.1 h;simp only[ζc]at e;obtain⟨rfl,rfl⟩:=e;obtain⟨g1,g2⟩:=B;have aq:∀kk z ok,q=.lookup kk z ok->z.good=true:=λkk z ok e=>by subst e;simpa [ze]using hk
       have ab:∀s a,q≠.loadF s a:=λs a e=>by subst e;exact Dz hr
       cases place with
       | none=>
        obtain⟨y,hy,ad⟩:=tZ ab aq rs (λd _ ob hd=>r.obj d ob hd) hx
        exact⟨0,y,H,ν,Z,λq _=>by unfold c8;rw[g1];simp only[<-gd.E,g2 H y hy,Option.map_some],r,ad,.refl,λ_=>⟨rfl,.refl⟩⟩
       | some Q=>
        obtain⟨b,j⟩:=Q;obtain⟨ax,ao,aj⟩:=hold b j rfl;have u:dr=true:=J;subst u;have C:=hi b j rfl;subst C;simp only[Bool.not_true,Bool.false_or,Bool.true_and]at U;have ay:mm ops j F o.op=true:=KP hr λn ag a' e1 e2 t e3=>by
         by_cases T:dy ops j=true
         .exact A7 (aE b j rfl) e3 T
         exact aH n ag a' rfl (by simpa using T) e1 e2
        by_cases T:dy ops j=true
        .obtain⟨y,hy,ad⟩:=tZ ab aq rs (λd _ ob hd=>r.obj d ob hd) hx
         have hH:=g2 H y hy;refine⟨0,y,H,ν,Z,λq _=>?_,r,ad,.refl,λ_=>⟨rfl,.refl⟩⟩
         unfold c8;rw[g1];simp only[<-gd.E,ay,if_true];split
         next v hv=>have:=xk hv;rw[hH]at this;cases this;rfl
         rw[if_pos T,hH];rfl
        have an:eD fr I=true:=by simpa [T]using U
        have Y:∀id,Z id->Z id/\bl (H.take b) id=bl H id:=λid h=>⟨h,lR (aj id h)⟩
        have aA:∀id,Z id->Z id/\bl H id=bl (H.take b) id:=λid h=>⟨h,(lR (aj id h)).symm⟩
        obtain⟨y,hy,ad⟩:=tZ (H:=H.take b) ab aq (rs.mono Y λe _=>gU ν st.m e) (λd hd ob aB=>by
         have ab:d∉fr:=λhf=>by rw[mb an d hf]at hd;cases hd
         exact dK.mono Y rfl (λhb=>by rw[List.getElem?_take,if_pos (ao d ob aB hb ab)]) (λe _=>gU ν st.m e) (r.obj d ob aB)) hx
        refine⟨0,y,H,ν,Z,λq _=>?_,r,ad.mono aA (λe _=>gU ν st.m e),.refl,λ_=>⟨rfl,.refl⟩⟩
        unfold c8;rw[g1];simp only[<-gd.E,g2 (H.take b) y hy,ay,if_true]
      simp at h
     | a q=>
      simp only at h;split at h
      .rename_i d hd;split at h
       .rename_i W;obtain⟨⟨ob,x⟩,hx,e⟩:=ζf.1 h;simp only[ζc]at e;obtain⟨rfl,rfl⟩:=e;obtain⟨ae,mk,e1,e2,e3,e4⟩:=K6 hk rs hx;obtain⟨g1,g2⟩:=B;obtain⟨n1,n2,n3,n4⟩:=kG W;have ar:∀p:Nat×Nat,∀e,SV.dh e I=true->∀af,a_ (bH st.m d ob) e=some af->∃ob,a_ st.m e=some ob/\gO ν d p e=ν e/\sameShape ob af:=λp e he=>by
         refine qM ?_;rintro rfl;have:∀{xs:List Arg} {vs:List SV},bQ S.N st.g xs=some vs->SV.dh e vs=false:=by
          intro xs
          induction xs with
          | nil=>intro vs h;simp only[bQ,ζa]at h;subst h;rfl
          | cons a xs ih=>
           intro vs h;simp only[bQ]at h;split at h
           .rename_i v aS h1 h2;simp only[ζa]at h;subst h;simp only[SV.dh,Bool.or_eq_false_iff];refine⟨?_,ih h2⟩
            cases a with
            | s n=>exact wU n3 h1
            | k c=>simp only[oK,ζa]at h1;subst h1;rfl
            | f s=>simp only[oK,ζa]at h1;subst h1;rfl
           simp at h
         rw[this D]at he;cases he
        have fin:∀(id:Nat) (Hn:bf),H.length<=Hn.length->Hn[id]? = some ae->(∀k,k<H.length->k≠id->Hn[k]? = H[k]?)->(∀k,eM ν st.m k->k≠id)->(∀k,Z k->k≠id) ->
         R (gO ν d (id,0)) Z { st with m:=bH st.m d ob } F Hn/\cR (gO ν d (id,0)) (bH st.m d ob) Hn Z x (mk.val id)/\(∀k,Z k->bl Hn k=bl H k):=λid Hn hl aL L ho hz=>by
         have Y:∀k,Z k->bl Hn k=bl H k:=λk hk=>by unfold bl;rw[L k (r.uy hk) (hz k hk)]
         obtain⟨a1,a2⟩:=e4 id (gO ν d (id,0)) (bH st.m d ob) Hn (gb _ _ _) (cq _ _ _) aL Y (ar _);have r2:R ν Z st F Hn:=r.heap (λk hk=>L k (r.lt hk) (ho k hk)) Y
         exact⟨r2.add W (λ_=>⟨λh=>ho _ h rfl,λh=>hz _ h rfl⟩) a1,a2,Y⟩
        have aC:o.dst=some d:=hd
        cases place with
        | none=>
         obtain⟨f1,f2,f3⟩:=fin H.length (H++[ae]) Zc Zc (λk hk _=>List.getElem?_append_left hk) (λk hk=>Nat.ne_of_lt (r.lt hk)) (λk hk=>Nat.ne_of_lt (r.uy hk))
         refine⟨0,mk.val H.length,H++[ae],gO ν d (H.length,0),Z,λq _=>?_,f1,f2,Ev.add W Zc (λk hk _=>List.getElem?_append_left hk) f3 (λ_=>.inr (Nat.le_refl _)),λhh=>?_⟩
         .unfold c8;rw[g1];simp only[ak,Bool.false_eq_true,if_false,<-gd.E,g2 _ e1]
         rw[J]at hh;cases hh
        | some Q=>
         obtain⟨b,j⟩:=Q;have hf:=al b j rfl g1;have aM:=(ζe.1 hf).1;have nf:∀k,eM ν st.m k->k≠b+j:=λk hk e=>by
          subst e;obtain⟨d',af,w1,w2,w3⟩:=hk;have:=r.obj d' af w1
          cases af with
          | sl fl es xs=>
           simp only[cg]at w2;simp only[dK,w2,if_true]at this;obtain⟨_,O,_⟩:=this;rw[w3,hf]at O;cases O
          | box cs=>obtain⟨_,_,O,_⟩:=this;rw[w3,hf]at O;cases O
          | mp aT=>obtain⟨_,O,_⟩:=this;rw[w3,hf]at O;cases O
         have nz:∀k,Z k->k≠b+j:=λk hk e=>by
          subst e;have:=r.zrow _ hk;unfold bl at this;rw[hf]at this;simp[Ob.rows]at this
         obtain⟨f1,f2,f3⟩:=fin (b+j) (H.set (b+j) ae) Zc (by rw[List.getElem?_set_self aM]) (λk _ hk=>by rw[List.getElem?_set,if_neg (Ne.symm hk)]) nf nz
         refine⟨0,mk.val (b+j),H.set (b+j) ae,gO ν d (b+j,0),Z,λq _=>?_,f1,f2,Ev.add W Zc (λk _ hk=>?_) f3 (λ_=>.inl ⟨b,j,rfl,rfl⟩),λ_=>⟨rfl,?_⟩⟩
         .unfold c8;rw[g1];simp only[ak,Bool.false_eq_true,if_false,<-gd.E,g2 _ e1,hf]
         .rw[List.getElem?_set,if_neg λe=>hk ⟨b,j,rfl,e.symm⟩]
         have:v8 ⟨o.dst,g,dr&&dy ops j,.a q,az,[],[]⟩=some d:=aC;have C:=hi b j rfl;subst C;rw[this];exact Kept.add λ_ _ h=>h
       simp at h
      simp at h
     | l q=>
      simp only at h;split at h
      .rename_i U;obtain⟨y,H',ν',e1,e2,e3,e4,e5⟩:=As r rs h;obtain⟨g1,g2⟩:=B;refine⟨0,y,H',ν',Z,λq _=>?_,e2,e3,e4.weak (λ_ h=>h.elim),λ_=>⟨rfl,e5⟩⟩
       unfold c8;rw[g1];simp only[<-gd.E]
       cases place with
       | none=>exact g2 _ _ e1
       | some Q=>
        obtain⟨b,j⟩:=Q;have u:dr=true:=J;subst u;have C:=hi b j rfl;subst C;have T:dy ops j=true:=by simpa using U
        simp only[T,if_true];exact g2 _ _ e1
      simp at h
     | e n=>exact B.elim
     | b=>
      simp only at h;split at h
      .cases h
      rename_i ap;have aN:dr=false:=by simpa using ap
      have aO:place=none:=by
       cases place with
       | none=>rfl
       | some Q=>rw[aN]at J;simp at J
      subst aO;split at h
      next x=>obtain⟨xs,h1,h2⟩:=ζg.1 h;obtain⟨l,h3,e⟩:=ζf.1 h2;simp only[ζc]at e;obtain⟨rfl,rfl⟩:=e;obtain⟨g1,y,e1,g2⟩:=B;obtain⟨y',_,e2,r1,r2⟩:=rs.inv;rw[e1]at e2;cases e2;obtain⟨zs,k1,k2⟩:=rX r1 r.obj h1;have hz:oa zs=some l:=xP k2 h3;obtain⟨q1,q2⟩:=g2 H zs l k1 hz;exact⟨0,_,H,ν,Z,λq _=>by unfold c8;rw[g1];simp only[qA,<-gd.E,q1,q2,Option.map_some],r,.v _ _ (.same _ rfl),.refl,λ_=>⟨rfl,.refl⟩⟩
      cases h
     | c=>
      simp only at h;obtain⟨g1,f',aU,e1,e2⟩:=B;have go:∀(f:FuncId) (args:List SV) (au:List V),bO ν st.m H Z args au->iK F o.op=some (.fn f,au)->fe S c o.dst dr (!dr||(dr&&dy ops i)) (fu st.m fr) f args st=some (sv,st') ->
       Bb S ops place dr F o.op (v8 ⟨o.dst,g,dr&&dy ops i,.c,az,[],[]⟩) ν Z st H sv st':=λf args au aP aD aQ=>by
       obtain⟨n,y,H',ν',Z',p1,p2,p3,p4,p5,p6⟩:=MN (ops:=ops) (Rv:=λid=>∃b j,place=some (b,j)/\id=b+j) hS gd.prm J (λb j hp hn=>by
        have:=hi b j hp;subst this;simp only[ζh]at hn;exact hn.2) (λb j hp=>(hold b j hp).2) r aP aQ
       refine⟨n,y,H',ν',Z',λq hq=>?_,p2,p3,p4,λhd=>⟨p5 hd,p6⟩⟩
       unfold c8;rw[g1];simp only[aD];exact p1 q hq
      split at h
      next f a b vs=>obtain⟨w,ws,ew,r1,r2⟩:=rs.inv;rw[ew]at e1;simp only[List.cons.injEq]at e1;obtain⟨rfl,rfl⟩:=e1;obtain⟨a',b',rfl,ra,rb⟩:=r1.jJ;exact go f _ _ ((ra.append r2).append rb) e2 h
      next f a b vs=>obtain⟨w,ws,ew,r1,r2⟩:=rs.inv;rw[ew]at e1;simp only[List.cons.injEq]at e1;obtain⟨rfl,rfl⟩:=e1;obtain⟨a',b',rfl,ra,rb⟩:=r1.fr.jJ;exact go f _ _ (((bO.o7 ra).append r2).append (bO.o7 rb)) e2 h
      simp at h
    simp at h
   simp at hc
  simp at hc
 simp at hc
end
def e9 (N:Nat->FuncId) (g:Tb SV) (o:RO):Option (Nat×List SV):=
 match o.k,bQ N g o.az with
 | .c,some (.yl id::u)=>some (id,u)
 | _,_=>none
open Classical in
noncomputable def eT (S:Sys) (c:bN) (dr:Bool) (fr:List Nat) (o:RO) (st:St):Option St:=
 match wanted st.g o.gd with
 | some true=>match e9 S.N st.g o with
  | some (id,z)=>if dr then none else match dn z,st.want with
   | some B,w::u=>if B=w/\id=st.yid then some (cU { st with want:=u } o.dst (.v (.bool (st.more || !u.isEmpty))))else none
   | _,_=>none
  | none=>(kM S c dr fr o st).map λ(x,st')=>cU st' o.dst x
 | some false=>some (cU st o.dst (.v .undef))
 | none=>none
def RO.strip (o:RO):RO:={ o with dead:=[],pre:=[] }
def mT:List Gh->St->Option St
 | [],st=>some st
 | x::r,st=>(ghost x st).bind (mT r)
def yW:Gh->Bool
 | .keep ..=>true
 | .drop _=>true
 | _=>false
def AK (dr:Bool) (l:List Gh) (st:St):Option St:=if dr then(if l.all yW then mT l st else none)else mT l st
def nD (ds:List Nat) (st:St):St:={ st with g:=nE ds st.g }
noncomputable def lP (S:Sys) (c:bN) (dr:Bool):List Nat->List RO->St->Option St
 | _,[],st=>some st
 | fr,o::r,st=>match (AK dr o.pre st).bind (eT S c dr fr o.strip)with
  | some st'=>lP S c dr (if dr then oP fr o.strip else fr) r (nD o.dead st')
  | none=>none
abbrev JT:=List (List V)->(Nat->Prop)->(Nat->Prop)->bf->Prop
structure Yc (S:Sys) (J:JT) (more:Bool) (yid:Nat):Prop where
 uz:∀w O Z H O' Z' H',J w O Z H->H.length<=H'.length->(∀i,i<H.length->¬O i->¬Z i->H'[i]? = H[i]?)->(∀i,Z i->Z' i/\bl H' i=bl H i) ->
  (∀i,O' i->O i\/H.length<=i)->(∀i,Z' i->Z i\/O i\/H.length<=i)->J w O' Z' H'
 yield:∀x ws O Z H args,J (x::ws) O Z H->dg H Z x args->(∀i,Z i->(bl H i).isSome=true)->Deep H Z->(∀i,O i->¬Z i/\i<H.length) ->
  ∃n H',run S.E n (.yld yid) args H=some (.bool (more || !ws.isEmpty),H')/\J ws O Z H'/\H.length<=H'.length/\(∀i,O i->H'[i]? = H[i]?)/\(∀i,Z i->bl H' i=bl H i)
structure Fix (ν:Nu) (st:St) (ν':Nu) (st':St):Prop where
 pin:∀d∈st.pin,∀ob',a_ st'.m d=some ob'->∃ob,a_ st.m d=some ob/\ν' d=ν d/\sameShape ob ob'
 pins:st'.pin=st.pin
 more:st'.more=st.more
 yid:st'.yid=st.yid
section
variable {Rv:Nat->Prop} {ν ν' ν2:Nu} {Z Z':Nat->Prop} {st st' st2:St} {m m':Tb bB} {F F':Frame} {H H' H1:bf} {S:Sys} {c:bN} {X:CX} {J:JT}
theorem Fix.refl:Fix ν st ν st:=⟨λ_ _ u h=>⟨u,h,rfl,.refl _⟩,rfl,rfl,rfl⟩
theorem Fix.trans (a:Fix ν st ν' st') (b:Fix ν' st' ν2 st2):Fix ν st ν2 st2:=
 ⟨λd hd u h=>by
  obtain⟨w,h1,C,z⟩:=b.pin d (by rw[a.pins];omega) u h
  obtain⟨ob,k1,D,B⟩:=a.pin d hd w h1;exact⟨ob,k1,by simp_all,B.trans z⟩,by rw[b.pins,a.pins],by rw[b.more,a.more],by rw[b.yid,a.yid]⟩
theorem Ev.beside (y:Yc S J st.more st.yid) (a:Ev (λ_=>False) ν Z st H ν' Z' st' H') (u:st'.want=st.want) (j:J st.want (eM ν st.m) Z H):J st'.want (eM ν' st'.m) Z' H':=by
 rw[u];exact y.uz _ _ _ _ _ _ _ j a.len (λi h1 w z=>a.same i h1 w z (λh=>h)) a.rows (λi h=>(a.own i h).imp (λh=>h) (λh=>h.elim (λh=>h.elim) (λh=>h)))
  (λi h=>(a.frz i h).imp (λh=>h) (λh=>h.imp (λh=>h) (λh=>h.elim (λh=>h.elim) (λh=>h))))
theorem th (D:∀s sv,a_ st.g s=some sv->cR ν m H Z sv (get F s)) {ops:List Oper} {o:Oper} {gd:Option (Nat×Bool)} (hg:Aa ops o=some gd) {t:Bool} (u:wanted st.g gd=some t):eY ops F o=t:=by
 unfold Aa at hg;unfold eY
 cases w:o.guard with
 | none=>
  rw[w]at hg;simp  at hg;simp[wanted]at u;grind
 | some C=>
  rw[w]at hg;obtain⟨d,hd,rfl⟩:=ζf.1 hg;simp[hd];simp[wanted]at u;split at u
  next c hc=>simp  at u;subst u;rw[(D d _ hc).fr.bool]
  .rename_i x G hc;simp  at u;subst u;have z:=(D d _ hc).fr;split
   .rename_i c B;rw[B]at z;cases z
    grind
   rfl
  grind
theorem K5 {q:GZ} {dst:Option Nat} {args:List SV} {sv:SV} (h:Gb q dst args st=some (sv,st')):st'.want=st.want/\st'.pin=st.pin/\st'.more=st.more/\st'.yid=st.yid:=by
 unfold Gb at h
 grind
theorem Mv {dr:Bool} {fr:List Nat} {ro:RO} {sv:SV} (h:kM S c dr fr ro st=some (sv,st')):st'.want=st.want/\st'.pin=st.pin/\st'.more=st.more/\st'.yid=st.yid:=by
 unfold kM at h;split at h
 .split at h
  .split at h
   .split at h
    .simp at h
    unfold xW at h;split at h
    .split at h
     .obtain⟨_,_,h⟩:=ζg.1 h;obtain⟨_,_,h⟩:=ζg.1 h;dsimp only at h;split at h
      .simp only[ζa,ζc]at h;obtain⟨_,rfl⟩:=h;exact⟨rfl,rfl,rfl,rfl⟩
      simp at h
     simp at h
    simp at h
   obtain⟨_,_,e⟩:=ζf.1 h;simp only[ζc]at e;obtain⟨_,rfl⟩:=e;exact⟨rfl,rfl,rfl,rfl⟩
  .obtain⟨_,_,e⟩:=ζf.1 h;simp only[ζc]at e;obtain⟨_,rfl⟩:=e;exact⟨rfl,rfl,rfl,rfl⟩
  .split at h
   .obtain⟨_,_,e⟩:=ζf.1 h;simp only[ζc]at e;obtain⟨_,rfl⟩:=e;exact⟨rfl,rfl,rfl,rfl⟩
   simp at h
  .split at h
   .split at h
    .obtain⟨_,_,e⟩:=ζf.1 h;simp only[ζc]at e;obtain⟨_,rfl⟩:=e;exact⟨rfl,rfl,rfl,rfl⟩
    simp at h
   simp at h
  .split at h
   .unfold k8 at h
    (repeat' split at h) <;> first|(simp at h;done)|(simp only[ζa,ζc]at h;obtain⟨_,rfl⟩:=h;exact⟨rfl,rfl,rfl,rfl⟩)|(obtain⟨_,_,e⟩:=ζf.1 h;simp only[ζc]at e;obtain⟨_,rfl⟩:=e;exact⟨rfl,rfl,rfl,rfl⟩)|skip
    dsimp only at h
    (repeat' split at h) <;> first|(simp at h;done)|(simp only[ζa,ζc]at h;obtain⟨_,rfl⟩:=h;exact⟨rfl,rfl,rfl,rfl⟩)
   simp at h
  .have hc:∀{dst dr now u f args},fe S c dst dr now u f args st=some (sv,st')->st'.want=st.want/\st'.pin=st.pin/\st'.more=st.more/\st'.yid=st.yid:=by
    intro dst dr now u f args h;unfold fe at h
    (repeat' split at h) <;> first|exact K5 h|(obtain⟨_,_,e⟩:=ζf.1 h;simp only[ζc]at e;obtain⟨_,rfl⟩:=e;exact⟨rfl,rfl,rfl,rfl⟩)|(simp at h;done)|(simp only[ζa,ζc]at h;obtain⟨_,rfl⟩:=h;exact⟨rfl,rfl,rfl,rfl⟩)
   split at h
   .exact hc h
   .exact hc h
   simp at h
  .split at h
   .simp at h
   split at h
   .obtain⟨_,_,h⟩:=ζg.1 h;obtain⟨_,_,e⟩:=ζf.1 h;simp only[ζc]at e;obtain⟨_,rfl⟩:=e;exact⟨rfl,rfl,rfl,rfl⟩
   simp at h
  have z:∀{dst l w},k8 st dst l w=some (sv,st')->st'.want=st.want/\st'.pin=st.pin/\st'.more=st.more/\st'.yid=st.yid:=by
   intro dst l w h;unfold k8 at h
   (repeat' split at h) <;> first|(simp at h;done)|(simp only[ζa,ζc]at h;obtain⟨_,rfl⟩:=h;exact⟨rfl,rfl,rfl,rfl⟩)|(obtain⟨_,_,e⟩:=ζf.1 h;simp only[ζc]at e;obtain⟨_,rfl⟩:=e;exact⟨rfl,rfl,rfl,rfl⟩)|skip
   all_goals (dsimp only at h;(repeat' split at h) <;> first|(simp at h;done)|(simp only[ζa,ζc]at h;obtain⟨_,rfl⟩:=h;exact⟨rfl,rfl,rfl,rfl⟩))
  split at h
  .exact z h
  .exact z h
  simp at h
 simp at h
theorem zj (r:R ν Z st F H) {nt:Nat} {dst:Option Nat} (hd:wu nt dst=true) {sv:SV} {y:V} (h:cR ν st.m H Z sv y):∃F',iW nt F dst y=some F'/\R ν Z (cU st dst sv) F' H:=by
 cases dst with
 | none=>exact⟨F,rfl,r⟩
 | some d=>
  have  := by simpa [wu]using hd
  exact⟨set F d y,by simp[iW,if_pos this],r.put h⟩
theorem AS (st:St) (dst:Option Nat) (sv:SV):(cU st dst sv).m=st.m/\(cU st dst sv).want=st.want/\(cU st dst sv).pin=st.pin/\(cU st dst sv).more=st.more/\(cU st dst sv).yid=st.yid:=by
 cases dst <;> exact⟨rfl,rfl,rfl,rfl,rfl⟩
theorem G7 (gd:Good X S) (hS:gY S c) {ops:List Oper} {place:Option (Nat×Nat)} {dr:Bool} {fr:List Nat} {i:Nat} (G:dr=place.isSome) (hi:∀b j,place=some (b,j)->j=i)
 (hold:∀b j,place=some (b,j)->b<=H.length/\Old b fr ν Z st.m)
 {o:Oper} {ro:RO} (hc:lY X dr ops i o=some ro) (J:∀b j,place=some (b,j)->ops[j]? = some o) (z:∀b j,place=some (b,j)->cT o.op=.alloc->H[b+j]? = some .free)
 (r:R ν Z st F H) (u:e9 S.N st.g ro=none\/dr=true) (h:eT S c dr fr ro st=some st') :
 ∃n F' H' ν' Z',(∀k,n<=k->fJ S.E (run S.E k) X.nt ops place o F H=some (F',H'))/\R ν' Z' st' F' H'/\Ev (λid=>∃b j,place=some (b,j)/\id=b+j) ν Z st H ν' Z' st' H' /\
  (dr=true->Z'=Z/\Kept (v8 ro) ν st.m ν' st'.m)/\st'.want=st.want/\Fix ν st ν' st':=by
 have I:=hc;obtain⟨w,g,now,k,az,hg,rfl⟩:=Bs hc;unfold eT at h;split at h
 .rename_i L;have B:=th r.slot hg L;have U:(kM S c dr fr ⟨o.dst,g,now,k,az,[],[]⟩ st).map (λ(x,st')=>cU st' o.dst x)=some st':=by
   split at h
   .rename_i id vs D;rcases u with u|u
    .rw[u]at D;cases D
    subst u;simp at h
   exact h
  obtain⟨⟨x,O⟩,hd,rfl⟩:=ζf.1 U;obtain⟨n,y,H',ν',Z',e1,e2,e3,e4,e5⟩:=QM gd hS G hi hold I J z r hd;obtain⟨W,T,Y,w4⟩:=Mv hd;obtain⟨F',f1,Q⟩:=zj e2 w e3;obtain⟨p1,p2,p3,p4,p5⟩:=AS O o.dst x;refine⟨n,F',H',ν',Z',λk hk=>?_,Q,?_,λhd=>⟨(e5 hd).1,by rw[p1];exact(e5 hd).2⟩,by rw[p2,W],⟨λd hd=>by rw[p1];exact e4.pin d hd,by rw[p3,T],by rw[p4,Y],by rw[p5,w4]⟩⟩
  .unfold fJ;simp only[B,if_true,e1 k hk,f1,Option.map_some]
  exact⟨e4.len,e4.same,e4.rows,λid h=>e4.own id (by rw[p1]at h;exact h),e4.frz,λd hd=>by rw[p1];exact e4.pin d hd,by rw[p3,T]⟩
 .rename_i L;have B:=th r.slot hg L;simp only[ζa]at h;subst h;obtain⟨F',f1,Q⟩:=zj r w (.v V.undef V.undef (.same _ rfl));obtain⟨p1,p2,p3,p4,p5⟩:=AS st o.dst (.v .undef);refine⟨0,F',H,ν,Z,λk _=>?_,Q,?_,λ_=>⟨rfl,by rw[p1];exact .refl⟩,p2,⟨λd hd=>by rw[p1];exact λC h=>⟨C,h,rfl,.refl _⟩,p3,p4,p5⟩⟩
  .unfold fJ;simp only[B,Bool.false_eq_true,if_false,f1,Option.map_some]
  exact⟨Nat.le_refl _,λ_ _ _ _ _=>rfl,λ_ h=>⟨h,rfl⟩,λ_ h=>.inl (by rw[p1]at h;exact h),λ_ h=>.inl h,λd hd=>by rw[p1];exact λC h=>⟨C,h,rfl,.refl _⟩,p3⟩
 simp at h
theorem Nc (gd:Good X S) (y:Yc S J st.more st.yid) {ops:List Oper} {fr:List Nat} {i:Nat} {o:Oper} {ro:RO} (hc:lY X false ops i o=some ro)
 (r:R ν Z st F H) (j:J st.want (eM ν st.m) Z H) {id:Nat} {vs:List SV} (u:e9 S.N st.g ro=some (id,vs)) (z:wanted st.g ro.gd=some true) (h:eT S c false fr ro st=some st') :
 ∃n F' H',(∀k,n<=k->fJ S.E (run S.E k) X.nt ops none o F H=some (F',H'))/\R ν Z st' F' H'/\J st'.want (eM ν st'.m) Z H'/\Fix ν st ν st':=by
 unfold lY at hc;simp only[Bool.false_and,Bool.false_eq_true,if_false]at hc;split at hc
 .rename_i D;split at hc
  .rename_i g k os hg hr;split at hc
   .obtain⟨az,U,rfl⟩:=ζf.1 hc;unfold eT at h;simp only at z;have L:=th r.slot hg z;rw[z]at h;simp only[u,Bool.false_eq_true,if_false]at h;unfold e9 at u;split at u
    .rename_i W Y hk G;simp only[ζa,ζc]at u;obtain⟨rfl,rfl⟩:=u;simp only at hk G;subst hk;obtain⟨ys,O,rs⟩:=nV gd.N r.slot U G;obtain⟨g1,f',aa,e1,e2⟩:=jy gd.N hr O;obtain⟨w,ws,ew,r1,r2⟩:=rs.inv;rw[ew]at e1;simp only[List.cons.injEq]at e1;obtain⟨rfl,rfl⟩:=e1;cases r1;simp only at e2;split at h
     .rename_i xs x I hx B;split at h
      .rename_i C;obtain⟨rfl,rfl⟩:=C;simp only[ζa]at h;subst h;rw[B]at j;obtain⟨n,H',p1,p2,p3,p4,p5⟩:=y.yield _ _ _ _ _ _ j (r2.dn hx) r.zrow r.deep (λi hi=>⟨by obtain⟨d,ob,h1,h2,rfl⟩:=hi;exact r.apart d ob h1 h2,r.lt hi⟩)
       have r3:R ν Z st F H':=r.heap p4 p5;have r4:R ν Z { st with want:=I } F H':=⟨r3.slot,r3.obj,r3.inj,r3.apart,r3.zrow,r3.deep⟩;obtain⟨F',f1,f2⟩:=zj (st:={ st with want:=I }) r4 D (sv:=.v (.bool (st.more || !I.isEmpty))) (.v _ _ (.same _ rfl));obtain⟨T,q2,q3,q4,q5⟩:=AS { st with want:=I } o.dst (.v (.bool (st.more || !I.isEmpty)));refine⟨n,F',H',λk hk=>?_,f2,by rw[T,q2];exact p2,⟨λd hd=>by rw[T];exact λQ h=>⟨Q,h,rfl,.refl _⟩,q3,q4,q5⟩⟩
       unfold fJ c8;rw[g1,e2];simp only[L,if_true,(uh S.E hk).go _ _ _ _ p1,f1,Option.map_some]
      simp at h
     simp at h
    simp at u
   simp at hc
  simp at hc
 simp at hc
def jQ (X:CX) (u:Bool) (ops:List Oper):Nat->List Oper->Option (List RO)
 | _,[]=>some []
 | i,o::r=>match lY X u ops i o,jQ X u ops (i+1) r with
  | some ro,some rs=>some (ro::rs)
  | _,_=>none
theorem R.wH (r:R ν Z st F H) (ds:List Nat):R ν Z (nD ds st) F H:=r.less   (λs w u=>mO u) (λd ob hd=>hd)
theorem Fix.wH {ds:List Nat} (f:Fix ν (nD ds st) ν' st'):Fix ν st ν' st':=⟨f.pin,f.pins,f.more,f.yid⟩
theorem Fix.ghost (r:R ν Z st F H) (y:Yc S J st.more st.yid) (j:J st.want (eM ν st.m) Z H) {x:Gh} (h:ghost x st=some st'):∃ν' Z',R ν' Z' st' F H/\J st'.want (eM ν' st'.m) Z' H/\Fix ν st ν' st':=by
 obtain⟨ν',Z',h1,u⟩:=MA (Rv:=λ_=>False) r h
 have w:st'.want=st.want/\st'.more=st.more/\st'.yid=st.yid:=by
  unfold Go.VE.ghost yE at h
  (repeat' split at h) <;> first|grind|grind
 exact⟨ν',Z',h1,u.beside y w.1 j,⟨u.pin,u.pins,w.2.1,w.2.2⟩⟩
theorem Fix.quiet (r:R ν Z st F H):∀{l:List Gh} {st':St},l.all yW=true->Go.VE.mT l st=some st'->R ν Z st' F H/\Ev Rv ν Z st H ν Z st' H/\st'.want=st.want/\Fix ν st ν st'/\∀d ob,a_ st'.m d=some ob->a_ st.m d=some ob:=by
 intro l
 induction l generalizing st with
 | nil=>intro st' _ h;simp[Go.VE.mT]at h;subst h;exact⟨r,.refl,rfl,.refl,λ_ _ h=>h⟩
 | cons x l C=>
  intro st' z h;simp only[List.all_cons,ζh]at z;obtain⟨D,h1,G⟩:=ζg.1 h;have key:∃g m,D={ st with g:=g,m:=m }/\(∀s u,a_ g s=some u->a_ st.g s=some u)/\∀d ob,a_ m d=some ob->a_ st.m d=some ob:=by
   cases x with
   | keep gs U=>
    simp[Go.VE.ghost]at h1;split at h1
    next g m hg I=>simp  at h1;subst h1;exact⟨g,m,rfl,λs u B=>ow hg B,λd ob hd=>ow I hd⟩
    grind
   | drop ds=>
    simp[Go.VE.ghost]at h1;subst h1;exact⟨_,st.m,rfl,λs u B=>mO B,λ_ _ h=>h⟩
   | _=>simp[yW]at z
  obtain⟨g,m,rfl,J,w⟩:=key;obtain⟨L,O,Q,S,T⟩:=C (r.less   J w) z.2 G;exact⟨L,(Ev.less   w).trans O,Q,Fix.trans  (st':={ st with g:=g,m:=m }) ⟨λd _ ob h=>⟨ob,w d ob h,rfl,.refl _⟩,rfl,rfl,rfl⟩ S,λd ob h=>w d ob (T d ob h)⟩
theorem Fix.mT:∀{l:List Gh} {ν:Nu} {Z:Nat->Prop} {st st':St},R ν Z st F H->Yc S J st.more st.yid->J st.want (eM ν st.m) Z H->mT l st=some st'->∃ν' Z',R ν' Z' st' F H/\J st'.want (eM ν' st'.m) Z' H/\Fix ν st ν' st'
 | [],ν,Z,st,st',r,y,j,h=>by simp[Go.VE.mT]at h;subst h;exact⟨ν,Z,r,j,.refl⟩
 | x::l,ν,Z,st,st',r,y,j,h=>by
  obtain⟨u,h1,z⟩:=ζg.1 h;obtain⟨D,G,r1,w,f1⟩:=Fix.ghost r y j h1;obtain⟨ν2,Z2,r2,B,C⟩:=Fix.mT r1 (by rw[f1.more,f1.yid];omega) w z
  exact⟨ν2,Z2,r2,B,f1.trans C⟩
theorem MZ (gd:Good X S) (hS:gY S c) {ops:List Oper} {fr:List Nat} {i:Nat} {o:Oper} {ro:RO} {u:St} (h1:lY X false ops i o=some ro) (y:Yc S J st.more st.yid) (r:R ν Z st F H) (j:J st.want (eM ν st.m) Z H) (G:eT S c false fr ro st=some u) :
 ∃n F' H' ν' Z',(∀k,n<=k->fJ S.E (run S.E k) X.nt ops none o F H=some (F',H'))/\R ν' Z' u F' H'/\J u.want (eM ν' u.m) Z' H'/\Fix ν st ν' u:=by
 by_cases L:wanted st.g ro.gd=some true
 .cases C:e9 S.N st.g ro with
  | none=>
   obtain⟨n,F',H',ν',Z',e1,e2,e3,e4,e5,e6⟩:=G7 gd hS (place:=none) rfl (λb j h=>by cases h) (λb j h=>by cases h) h1 (λb j h=>by cases h) (λb j h=>by cases h) r (.inl C) G
   exact⟨n,F',H',ν',Z',e1,e2,(e3.weak (λid ⟨b,j,h,_⟩=>by cases h)).beside y e5 j,e6⟩
  | some p=>
   obtain⟨id,T⟩:=p;obtain⟨n,F',H',e1,e2,e3,e4⟩:=Nc gd y h1 r j C L G;exact⟨n,F',H',ν,Z,e1,e2,e3,e4⟩
 have w:eT S c false fr ro st=some u:=G;have O:e9 S.N st.g { ro with az:=[] }=none:=by
  unfold e9;simp[bQ]
 obtain⟨n,F',H',ν',Z',e1,e2,e3,e4,e5,e6⟩:∃n F' H' ν' Z',(∀k,n<=k->fJ S.E (run S.E k) X.nt ops none o F H=some (F',H'))/\R ν' Z' u F' H'/\Ev (λ_=>False) ν Z st H ν' Z' u H'/\True/\u.want=st.want/\Fix ν st ν' u:=by
  unfold eT at w;split at w
  next z=>exact absurd z L
  .rename_i z;simp only[ζa]at w;subst w;unfold lY at h1;simp only[Bool.false_and,Bool.false_eq_true,if_false]at h1;split at h1
   .rename_i D;split at h1
    .rename_i g k os hg hr;split at h1
     .obtain⟨az,U,rfl⟩:=ζf.1 h1;have I:=th r.slot hg z;obtain⟨F',f1,Q⟩:=zj r D (.v V.undef V.undef (.same _ rfl));obtain⟨p1,p2,p3,p4,p5⟩:=AS st o.dst (.v .undef);refine⟨0,F',H,ν,Z,λk _=>?_,Q,?_,trivial,p2,⟨λd hd=>by rw[p1];exact λB h=>⟨B,h,rfl,.refl _⟩,p3,p4,p5⟩⟩
      .unfold fJ;simp only[I,Bool.false_eq_true,if_false,f1,Option.map_some]
      exact⟨Nat.le_refl _,λ_ _ _ _ _=>rfl,λ_ h=>⟨h,rfl⟩,λ_ h=>.inl (by rw[p1]at h;exact h),λ_ h=>.inl h,λd hd=>by rw[p1];exact λB h=>⟨B,h,rfl,.refl _⟩,p3⟩
     simp at h1
    simp at h1
   simp at h1
  simp at w
 exact⟨n,F',H',ν',Z',e1,e2,e3.beside y e5 j,e6⟩
theorem Kn (gd:Good X S) (hS:gY S c) {ops:List Oper} {fr:List Nat}:∀(rest:List Oper) {i:Nat} {u:List RO} {ν:Nu} {Z:Nat->Prop} {st st':St} {F:Frame} {H:bf},jQ X false ops i rest=some (u.map RO.strip)->lP S c false fr u st=some st' ->
 Yc S J st.more st.yid->R ν Z st F H->J st.want (eM ν st.m) Z H ->
 ∃n F' H' ν' Z',(∀k,n<=k->kE S.E (run S.E k) X.nt ops rest F H=some (F',H'))/\R ν' Z' st' F' H'/\J st'.want (eM ν' st'.m) Z' H'/\Fix ν st ν' st'
 | [],i,u,ν,Z,st,st',F,H,hc,h,y,r,j=>by
  simp only[jQ,ζa]at hc;have  := List.map_eq_nil_iff.1 hc.symm;subst this;simp[lP]at h;subst h;exact⟨0,F,H,ν,Z,λ_ _=>rfl,r,j,.refl⟩
 | o::rest,i,u,ν,Z,st,st',F,H,hc,h,y,r,j=>by
  simp[jQ]at hc;split at hc
  .rename_i T rs h1 U;obtain⟨w,z,rfl,C,D⟩:∃w z,u=w::z/\T=w.strip/\rs=z.map RO.strip:=by
    cases u with
    | nil=>simp_all
    | cons a b=>grind
   subst D;simp[lP,<-C]at h;split at h
   .rename_i B G;obtain⟨W,I,G⟩:=ζg.1 G;obtain⟨νg,Zg,rg,Y,L⟩:=Fix.mT r y j I;obtain⟨n1,F1,H1,ν1,Z1,a1,a2,a3,O⟩:=MZ gd hS h1 (by rw[L.more,L.yid];omega) rg Y G
    have Q:=L.trans O;obtain⟨n2,F2,H2,ν2,Z2,b1,b2,b3,b4⟩:=Kn gd hS rest U h (by show Yc S J B.more B.yid;rw[Q.more,Q.yid];omega) (R.wH a2 w.dead) a3
    refine⟨max n1 n2,F2,H2,ν2,Z2,λk hk=>?_,b2,b3,Q.trans (Fix.wH b4)⟩
    simp[kE,a1 k (Nat.le_trans (Nat.le_max_left _ _) hk),b1 k (Nat.le_trans (Nat.le_max_right _ _) hk)]
   grind
  grind
theorem Old.next {b:Nat} {fr:List Nat} {o:RO} (h:Old b fr ν Z m) (hk:Kept (v8 o) ν m ν' m'):Old b (oP fr o) ν' Z m':=by
 refine⟨λd ob hd D w=>?_,h.2⟩
 have z:d∉fr:=λJ=>w (by
  unfold oP
  grind)
 have B:v8 o≠some d:=λe=>w (by unfold oP;grind)
 obtain⟨u,h1,G,I⟩:=hk d ob B hd;have C:cg u=true:=by
  cases u <;> cases ob <;> simp[sameShape]at I <;> first|rfl|(simp[cg]at D ⊢;grind)
 rw[G];exact h.1 d u h1 C z
theorem Cb (r:R ν Z st F H) {id:Nat} (h:eM ν st.m id):H[id]? ≠ some .free:=by
 obtain⟨d,ob,h1,u,rfl⟩:=h;have:=r.obj d ob h1
 cases ob with
 | sl k es C=>
  simp[cg]at u;simp[dK,u]at this
  grind
 | box cs=>obtain⟨es,z,hr,_⟩:=this;grind
 | mp B=>obtain⟨w,hr,_⟩:=this;grind
theorem Iz (r:R ν Z st F H) {id:Nat} (h:Z id):H[id]? ≠ some .free:=λe=>by
 have:=r.zrow id h;unfold bl at this;rw[e]at this;simp[Ob.rows]at this
theorem Ev.wH {ds:List Nat} (e:Ev Rv ν Z (nD ds st) H ν' Z' st' H'):Ev Rv ν Z st H ν' Z' st' H':=⟨e.len,e.same,e.rows,e.own,e.frz,e.pin,e.pins⟩
theorem J4 (gd:Good X S) (hS:gY S c) {ops:List Oper} {b k:Nat} (G:pP ops=true->k=ops.length):∀(len:Nat) {i:Nat} {u:List RO} {fr:List Nat} {ν:Nu} {Z:Nat->Prop} {st st':St} {F:Frame} {H:bf},
 i+len=ops.length->jQ X true ops i (ops.drop i)=some (u.map RO.strip)->lP S c true fr u st=some st'->R ν Z st F H->b<=H.length->Old b fr ν Z st.m->(∀j,i<=j->j<k->H[b+j]? = some .free) ->
 ∃n F' H' ν',(∀q,n<=q->iT S.E (run S.E q) X.nt ops b (List.range' i len) F H=some (F',H'))/\R ν' Z st' F' H'/\Ev (λid=>b<=id) ν Z st H ν' Z st' H'/\st'.want=st.want/\Fix ν st ν' st'
 | 0,i,u,fr,ν,Z,st,st',F,H,hl,hc,h,r,hb,J,hf=>by
  rw[List.drop_of_length_le Za]at hc
  simp only[jQ,ζa]at hc;have:u=[]:=List.map_eq_nil_iff.1 hc.symm;subst this;simp[lP]at h;subst h;exact⟨0,F,H,ν,λ_ _=>rfl,r,.refl,rfl,.refl⟩
 | len+1,i,u,fr,ν,Z,st,st',F,H,hl,hc,h,r,hb,J,hf=>by
  have hi:i<ops.length:=by omega
  have hg  := ζd hi;rw[List.drop_eq_getElem_cons hi]at hc;simp[jQ]at hc;split at hc
  .rename_i ro rs h1 h2;obtain⟨w,z,rfl,Q,T⟩:∃w z,u=w::z/\ro=w.strip/\rs=z.map RO.strip:=by
    cases u with
    | nil=>simp_all
    | cons a b=>grind
   subst T;simp only[lP,<-Q]at h;split at h
   .rename_i ab U;obtain⟨W,B,U⟩:=ζg.1 U;simp only[AK,if_true]at B;split at B
    rotate_left
    .simp_all
    rename_i L;obtain⟨rg,eg,wg,fg,sg⟩:=Fix.quiet r L B;have J:Old b fr ν Z W.m:=⟨λd ob hd=>J.1 d ob (sg d ob hd),J.2⟩
    obtain⟨n1,F1,H1,ν1,Z1,a1,a2,a3,a4,a5,a6⟩:=G7 gd hS (place:=some (b,i))  rfl (λO j e=>by grind) (λO j e=>by grind) h1 (λO j e=>by grind) (λO j e ad=>by
     have:pP ops=true:=by
      unfold pP
      grind
     grind) rg (.inr rfl) U
    obtain⟨rfl,C⟩:=a4 rfl;have I  := a3.weak λid ⟨O,j,e,h⟩=>by cases e;omega
    obtain⟨n2,F2,H2,ν2,b1,b2,b3,b4,b5⟩:=J4 gd hS G len Za h2 h (R.wH a2 w.dead) (Nat.le_trans hb a3.len) (J.next C) (λj ae Y=>by
     have D:=hf j Za Y
     have aa:=(ζe.1 D).1;rw[I.same (b+j) aa (λh=>Cb rg h D) (λh=>Iz rg h D) Za]
     omega)
    refine⟨max n1 n2,F2,H2,ν2,λq L=>?_,b2,eg.trans ((I.weak λid e=>by omega).trans (Ev.wH b3)),by rw[b4,<-wg];exact a5,fg.trans (a6.trans (Fix.wH b5))⟩
    simp[List.range'_succ,iT,hg,a1 q (Nat.le_trans (Nat.le_max_left _ _) L),b1 q (Nat.le_trans (Nat.le_max_right _ _) L)]
   grind
  grind
end
def bF (X:CX):Bool->Code->Option RC
 | _,.skip=>some .skip
 | _,.label _=>some .skip
 | _,.region _ ops u=>
  if u then(if um ops.toList&&ya ops.toList then(jQ X true ops.toList 0 ops.toList).map .qm else none)
  else(jQ X false ops.toList 0 ops.toList).map .ops
 | ro,.seq a b=>match bF X ro a,bF X ro b with
  | some a,some b=>some (.seq a b)
  | _,_=>none
 | ro,.cond c a b=>match nT X.nm c,bF X ro a,bF X ro b with
  | some x,some a,some b=>some (.cond x a b)
  | _,_,_=>none
 | ro,.block id c=>(bF X ro c).map (.block id)
 | ro,.loop c=>(bF X ro c).map .loop
 | ro,.rangeFunc g ps z B=>
  if ro || !(ps.toList.all (·<X.nt))then none else
  match nT X.nm g,bF X true z,bF X true B with
  | some x,some a,some b=>some (.each x ps.toList a b)
  | _,_,_=>none
 | _,.exit id=>some (.exit id)
 | _,.ret=>some .ret
 | _,_=>none
def erase:RC->RC
 | .seq a b=>.seq (erase a) (erase b)
 | .cond x a b=>.cond x (erase a) (erase b)
 | .block id c=>.block id (erase c)
 | .loop c=>.loop (erase c)
 | .each g ps a b=>.each g ps (erase a) (erase b)
 | .gh _ c=>erase c
 | .hg c _=>erase c
 | .ops l=>.ops (l.map RO.strip)
 | .qm l=>.qm (l.map RO.strip)
 | c=>c
def h_ (step:St->Option (Out×St)):Nat->St->Option (Out×St)
 | 0,_=>none
 | k+1,st=>match step st with
  | some (.norm,st')=>h_ step k st'
  | r=>r
open Classical in
noncomputable def mP (step:St->Option (Out×St)) (st:St):Option (Out×St):=
 if h:∃k r,h_ step k st=some r then some (Classical.choose (Classical.choose_spec h))else none
theorem wQ {step:St->Option (Out×St)}:∀{k u:Nat} {st:St} {r:Out×St},k<=u->h_ step k st=some r->h_ step u st=some r
 | 0,_,_,_,_,h=>by simp[h_]at h
 | k+1,0,_,_,hk,_=>by omega
 | k+1,u+1,st,r,hk,h=>by
  simp only[h_]at h ⊢;split at h
  next st' z=>rw[wQ (Nat.le_of_succ_le_succ hk) h]
  exact h
theorem kX {step:St->Option (Out×St)} {st:St} {r:Out×St}:mP step st=some r↔∃k,h_ step k st=some r:=by
 unfold mP;constructor
 .intro h;split at h
  next u=>simp only[ζa]at h;exact⟨_,by rw[<-h];exact Classical.choose_spec (Classical.choose_spec u)⟩
  simp at h
 rintro⟨k,hk⟩;have u:∃k r,h_ step k st=some r:=⟨k,r,hk⟩;rw[dif_pos u];have z:=Classical.choose_spec (Classical.choose_spec u);have B:=wQ (Nat.le_max_left (Classical.choose u) k) z;have w:=wQ (Nat.le_max_right (Classical.choose u) k) hk;rw[B]at w;exact w
def gP (ps:List Nat) (A B:St->Option (Out×St)) (st:St) (x:List V) (m:Tb bB):Option (Out×Tb bB):=
 if x.length=ps.length then
  match A { g:=uF st.g ps (x.map .v),m:=m,pin:=st.pin++nJ st.g,want:=[],more:=true,yid:=0 } with
  | some (.norm,u)=>(B u).map λ(o,st2)=>(o,st2.m)
  | _=>none
 else none
def oH (step:List V->Tb bB->Option (Out×Tb bB)):List (List V)->Tb bB->Option (Out×Tb bB)
 | [],m=>some (.norm,m)
 | x::xs,m=>match step x m with
  | some (.norm,m')=>oH step xs m'
  | r=>r
noncomputable def cu (S:Sys) (c:bN):RC->St->Option (Out×St)
 | .skip,st=>some (.norm,st)
 | .ops l,st=>(lP S c false [] l st).map λst=>(.norm,st)
 | .qm l,st=>(lP S c true [] l st).map λst=>(.norm,st)
 | .seq a b,st=>match cu S c a st with
  | some (.norm,st')=>cu S c b st'
  | r=>r
 | .cond x a b,st=>match oK S.N st.g x with
  | some (.v (.bool t))=>if t then cu S c a st else cu S c b st
  | _=>none
 | .block id a,st=>match cu S c a st with
  | some (.exit u,st')=>if u=id then some (.norm,st')else some (.exit u,st')
  | r=>r
 | .loop a,st=>mP (cu S c a) st
 | .each g ps a b,st=>match oK S.N st.g g with
  | some (.v (.clo f x y))=>match S.items f x y with
   | some xs=>(oH (gP ps (cu S c a) (cu S c b) st) xs st.m).map λ(o,m)=>(o,{ st with m:=m })
   | none=>none
  | _=>none
 | .exit id,st=>some (.exit id,st)
 | .ret,st=>some (.ret,st)
 | .gh x a,st=>(ghost x st).bind (cu S c a)
 | .hg a x,st=>match cu S c a st with
  | some (.norm,st')=>(ghost x st').map λst=>(.norm,st)
  | r=>r
def eR (S:Sys) (f:FuncId) (a b:List V) (xs:List (List V)):Prop:=
 ∀u more,(more=true/\u=xs\/more=false/\u≠[]/\∃r,xs=u++r)->∀yid J,Yc S J more yid->∀Z w z H,dg H Z a w->dg H Z b z->(∀i,Z i->(bl H i).isSome=true)->Deep H Z->J u (λ_=>False) Z H ->
  ∃n y H' B Z',(∀k,n<=k->run S.E k (.fn f) (w++.yld yid::z) H=some (y,H'))/\J [] B Z' H'
section
variable {ν ν' ν2:Nu} {Z Z':Nat->Prop} {st st' st2:St} {m m':Tb bB} {F F':Frame} {H H' H1:bf} {S:Sys} {c:bN} {X:CX} {J:JT}
end
inductive uU (step:List V->Tb bB->Option (Out×Tb bB)) (o:Out) (mf:Tb bB):List (List V)->Bool->Tb bB->Prop
 | nil (h:o=.norm):uU step o mf [] true mf
 | next (x:List V) (ws:List (List V)) (more:Bool) (m m1:Tb bB) (h:step x m=some (.norm,m1)) (r:uU step o mf ws more m1):uU step o mf (x::ws) more m
 | last (x:List V) (m:Tb bB) (h:step x m=some (o,mf)) (ho:o≠.norm):uU step o mf [x] false m
theorem Bd {step:List V->Tb bB->Option (Out×Tb bB)} {o:Out} {z:Tb bB}:∀{xs:List (List V)} {m:Tb bB},oH step xs m=some (o,z) ->
 ∃u more,(more=true/\u=xs\/more=false/\u≠[]/\∃r,xs=u++r)/\uU step o z u more m
 | [],m,h=>by
  obtain⟨rfl,rfl⟩:=h;exact⟨[],true,.inl ⟨rfl,rfl⟩,.nil rfl⟩
 | x::xs,m,h=>by
  simp[oH]at h;split at h
  .rename_i m' w;obtain⟨u,more,hc,hr⟩:=Bd h;refine⟨x::u,more,?_,.next x u more m m' w hr⟩
   grind
  refine⟨[x],false,.inr ⟨rfl,by simp,xs,rfl⟩,.last x m h λe=>?_⟩
  simp_all
def rZ (O0 Z0:Nat->Prop) (H0:bf):JT:=λw O Z H=>w=[]/\H0.length<=H.length/\(∀i,i<H0.length->¬O0 i->¬Z0 i->H[i]? = H0[i]?)/\(∀i,Z0 i->Z i/\bl H i=bl H0 i) /\
 (∀i,O i->O0 i\/H0.length<=i)/\(∀i,Z i->Z0 i\/O0 i\/H0.length<=i)
section
variable {ν ν' ν2:Nu} {Z Z':Nat->Prop} {st st' st2:St} {m m':Tb bB} {F F':Frame} {H H' H1:bf} {S:Sys} {c:bN} {X:CX} {J:JT} {O0 Z0:Nat->Prop} {H0:bf}
theorem rZ.uz {w:List (List V)} {O Z u Z':Nat->Prop} {H H':bf} (j:rZ O0 Z0 H0 w O Z H) (z:H.length<=H'.length) (G:∀i,i<H.length->¬O i->¬Z i->H'[i]? = H[i]?) (hr:∀i,Z i->Z' i/\bl H' i=bl H i)
 (J:∀i,u i->O i\/H.length<=i) (T:∀i,Z' i->Z i\/O i\/H.length<=i):rZ O0 Z0 H0 w u Z' H':=by
 obtain⟨B,C,I,D,L,Q⟩:=j;refine⟨B,Nat.le_trans C z,λi h1 S U=>?_,λi h=>⟨(hr i (D i h).1).1,by grind⟩,λi h=>?_,λi h=>?_⟩
 .grind
 .grind
 grind
theorem rZ.yc {more:Bool} {yid:Nat}:Yc S (rZ O0 Z0 H0) more yid where
 uz:=λ_ _ _ _ _ _ _ j h1 u w z B=>j.uz h1 u w z B
 yield:=λx C O Z H args j=>by obtain⟨h,_⟩:=j;cases h
theorem rZ.refl (r:R ν Z st F H):rZ (eM ν st.m) Z H [] (eM ν st.m) Z H:=⟨rfl,Nat.le_refl _,λ_ _ _ _=>rfl,λi h=>⟨h,rfl⟩,λi h=>.inl h,λi h=>.inl h⟩
mutual
theorem AT {d:Nat}:∀{sv:SV},sv.cG d=true->d∈sv.names
 | .v _,h=>by simp[SV.cG]at h
 | .own e,h=>by simp[SV.cG]at h;simp[SV.names,h]
 | .ptr e _,h=>by simp[SV.cG]at h;simp[SV.names,h]
 | .el e _ _,h=>by simp[SV.cG]at h;simp[SV.names,h]
 | .mp e,h=>by simp[SV.cG]at h;simp[SV.names,h]
 | .clo f a b,h=>by
  simp only[SV.cG,Bool.or_eq_true]at h;simp only[SV.names,List.mem_append];exact h.imp o5 o5
 | .tup l,h=>by simp only[SV.cG]at h;simp only[SV.names];exact o5 h
 | .agg l,h=>by simp only[SV.cG]at h;simp only[SV.names];exact o5 h
 | .yl _,h=>by simp[SV.cG]at h
theorem o5 {d:Nat}:∀{l:List SV},SV.dh d l=true->d∈SV.uf l
 | [],h=>by simp[SV.dh]at h
 | x::r,h=>by
  simp only[SV.dh,Bool.or_eq_true]at h;simp only[SV.uf,List.mem_append];exact h.imp AT o5
end
theorem zU {d:Nat}:∀{g:Tb SV} {s:Nat} {sv:SV},a_ g s=some sv->sv.cG d=true->d∈nJ g
 | [],s,sv,h,_=>by simp[a_]at h
 | (k,x)::r,s,sv,h,u=>by
  simp[a_]at h;simp[nJ];split at h
  .simp  at h;subst h;exact .inl (AT u)
  exact .inr (zU h u)
theorem R.Ry (r:R ν Z st F H) {Z2:Nat->Prop} (h1:∀i,Z2 i->¬eM ν st.m i) (G:∀i,Z2 i->(bl H i).isSome=true) (J:Deep H Z2):R ν (λi=>Z i\/Z2 i) st F H:=by
 have w:∀i,Z i->(Z i\/Z2 i)/\bl H i=bl H i:=λi h=>⟨.inl h,rfl⟩
 have z:∀i,Z2 i->(Z i\/Z2 i)/\bl H i=bl H i:=λi h=>⟨.inr h,rfl⟩
 refine⟨λs I L=>(r.slot s I L).mono w λe _=>gU ν st.m e,λd ob hd=>dK.mono w rfl (λ_=>rfl) (λe _=>gU ν st.m e) (r.obj d ob hd),r.inj,λd ob hd C hh=>?_,λi hi=>?_,⟨λid es D hi hr c hc u hu=>?_⟩⟩
 .rcases hh with hh|hh
  .exact r.apart d ob hd C hh
  exact h1 _ hh ⟨d,ob,hd,C,rfl⟩
 .exact hi.elim (r.zrow i) (G i)
 rcases hi with hi|hi
 .obtain⟨x,B⟩:=r.deep.row id es D hi hr c hc u hu;exact⟨x,B.mono w⟩
 obtain⟨x,B⟩:=J.row id es D hi hr c hc u hu;exact⟨x,B.mono z⟩
theorem R.QD:∀{ps:List Nat} {xs:List V} {vs:List V} {g:Tb SV} {F:Frame},R ν Z { st with g:=g } F H->dg H Z xs vs->xs.length=ps.length->R ν Z { st with g:=uF g ps (xs.map .v) } (vO ps vs F) H
 | [],xs,vs,g,F,r,h,u=>by
  have  := List.length_eq_zero_iff.1 u;subst this;exact r
 | p::ps,[],vs,g,F,r,h,u=>by simp_all
 | p::ps,x::xs,vs,g,F,r,h,u=>by
  obtain⟨w,B,rfl,h1,z⟩:=h.inv;exact R.QD (ps:=ps) (r.put  (.v _ _ h1)) z Zd
def qf (X:CX) (S:Sys) (ro:Bool) (code:Code) (u:St->Option (Out×St)):Prop:=
 ∀st o st',u st=some (o,st')->∀(J:JT) ν Z F H,Yc S J st.more st.yid->R ν Z st F H->J st.want (eM ν st.m) Z H ->
  ∃n F' H' ν' Z',(∀k,n<=k->exec S.E (run S.E k) k ro X.nt code F H=some (o,F',H'))/\R ν' Z' st' F' H'/\J st'.want (eM ν' st'.m) Z' H'/\Fix ν st ν' st'
def NZ (st:St) (m:Tb bB):St:={ g:=st.g,m:=m,pin:=st.pin++nJ st.g,want:=[],more:=true,yid:=0 }
def JI (X:CX) (st:St) (F:Frame) (ν:Nu) (O0 Z0:Nat->Prop) (H0:bf) (u:Nat) (ps:List Nat) (J T:Code) (step:List V->Tb bB->Option (Out×Tb bB)) (o:Out) (G:Tb bB) (more:Bool):JT:=λw O Z H=>
 ∃m B D z,R B D (NZ st m) F H/\rZ O0 Z0 H0 [] (eM B m) D H/\(∀i,O i->¬eM B m i/\¬D i/\i≠u/\H0.length<=i)/\(∀i,Z i->¬eM B m i/\i≠u/\(Z0 i\/H0.length<=i)) /\
  ¬eM B m u/\¬D u/\H0.length<=u/\H[u]? = some (.loop z)/\(z.frame=F/\z.nt=X.nt/\z.params=ps/\z.assign=J/\z.body=T) /\
  (∀d∈st.pin++nJ st.g,∀C,a_ m d=some C->∃ob,a_ st.m d=some ob/\B d=ν d/\sameShape ob C) /\
  ((uU step o G w more m/\z.st=.ready/\z.pend=none)\/(w=[]/\m=G/\z.st=.done/\z.pend=some o))
theorem JI.uz {w:List (List V)} {O Z G Z':Nat->Prop} {H H':bf} {u:Nat} {ps:List Nat} {J T:Code} {step:List V->Tb bB->Option (Out×Tb bB)} {o:Out} {U:Tb bB} {more:Bool}
 (j:JI X st F ν O0 Z0 H0 u ps J T step o U more w O Z H) (W:H.length<=H'.length) (B:∀i,i<H.length->¬O i->¬Z i->H'[i]? = H[i]?) (hr:∀i,Z i->Z' i/\bl H' i=bl H i)
 (Y:∀i,G i->O i\/H.length<=i) (hz:∀i,Z' i->Z i\/O i\/H.length<=i):JI X st F ν O0 Z0 H0 u ps J T step o U more w G Z' H':=by
 obtain⟨m,S,I,lr,r,ej,d1,d2,l1,l2,l3,l4,l5,l6,l7⟩:=j;have z  := λi hi=>B i (r.lt  hi) (λh=>(d1 i h).1 hi) (λh=>(d2 i h).1 hi)
 have C:∀i,I i->bl H' i=bl H i:=λi hi=>by
  by_cases D:Z i
  .grind
  unfold bl;rw[B i (r.uy hi) (λh=>(d1 i h).2.1 hi) D]
 have aa  := (ζe.1 l4).1;refine⟨m,S,I,lr,r.heap z C,?_,λi h=>?_,λi h=>?_,l1,l2,l3,?_,l5,l6,l7⟩
 .obtain⟨j1,L,j3,j4,j5,j6⟩:=ej;refine⟨j1,Nat.le_trans L W,λi h1 h2 Q=>?_,λi h=>⟨(j4 i h).1,by grind⟩,j5,j6⟩
  rw[B i (Nat.lt_of_lt_of_le h1 L) (λh=>by have:=(d1 i h).2.2.2;omega) (λh=>by rcases (d2 i h).2.2 with h|h;exact Q h;omega),j3 i h1 h2 Q]
 .rcases Y i h with h|h
  .exact d1 i h
  exact⟨λhi=>absurd (r.lt  hi) Za,λhi=>absurd (r.uy hi) Za,by omega,by omega⟩
 .rcases hz i h with h|h|h
  .exact d2 i h
  .exact⟨(d1 i h).1,(d1 i h).2.2.1,.inr (d1 i h).2.2.2⟩
  exact⟨λhi=>absurd (r.lt  hi) Za,by omega,.inr Za⟩
 grind
theorem JI.yield (S:Sys) {A B:St->Option (Out×St)} {aw bw:Code} (hA:qf X S true aw A) (hB:qf X S true bw B) {u:Nat} {ps:List Nat} (ax:ps.all (·<X.nt)=true) {o:Out} {mf:Tb bB} {more:Bool}
 {x:List V} {ws:List (List V)} {O Z:Nat->Prop} {H:bf} {args:List V} (j:JI X st F ν O0 Z0 H0 u ps aw bw (gP ps A B st) o mf more (x::ws) O Z H)
 (hx:dg H Z x args) (an:∀i,Z i->(bl H i).isSome=true) (ay:Deep H Z) (aA:∀i,O i->¬Z i/\i<H.length) :
 ∃n H',run S.E n (.yld u) args H=some (.bool (more || !ws.isEmpty),H')/\JI X st F ν O0 Z0 H0 u ps aw bw (gP ps A B st) o mf more ws O Z H'/\H.length<=H'.length/\(∀i,O i->H'[i]? = H[i]?)/\(∀i,Z i->bl H' i=bl H i):=by
 obtain⟨m,νb,Zb,lr,r,ej,d1,d2,l1,l2,l3,l4,⟨q1,q2,q3,q4,q5⟩,l6,l7⟩:=j;have aB:uU (gP ps A B st) o mf (x::ws) more m/\lr.st=.ready/\lr.pend=none:=by
  grind
 obtain⟨hE,T,aC⟩:=aB;have U:∃oo m1,gP ps A B st x m=some (oo,m1)/\(oo=.norm/\uU (gP ps A B st) o mf ws more m1/\(more || !ws.isEmpty)=true\/oo≠.norm/\oo=o/\m1=mf/\ws=[]/\more=false):=by
  cases hE with
  | next _ _ _ _ m1 h hr=>
   refine⟨.norm,m1,h,.inl ⟨rfl,hr,?_⟩⟩;cases hr <;> simp
  | last _ _ h ho=>grind
 obtain⟨oo,m1,z,ab⟩:=U;unfold gP at z;split at z
 .rename_i ad;split at z
  .rename_i ah aD;obtain⟨⟨C,st2⟩,aE,e⟩:=ζf.1 z;simp  at e;obtain⟨rfl,rfl⟩:=e;have aF  := (ζe.1 l4).1;have r1  := r.Ry (λi hi=>(d2 i hi).1) an ay
   have aG:dg H (λi=>Zb i\/Z i) x args:=hx.mono λi hi=>⟨.inr hi,rfl⟩
   have r2:=R.QD (st:=NZ st m) r1 aG ad;obtain⟨nA,F2,H2,ν2,Z2,a1,a2,a3,a4⟩:=hA _ _ _ aD (rZ (eM νb m) (λi=>Zb i\/Z i) H) νb _ _ H rZ.yc r2 (rZ.refl  r1)
   obtain⟨b1,b2,b3,b4,b5,b6⟩:=a3;have ai:¬(Zb u\/Z u):=λh=>h.elim l2 λh=>(d2 u h).2.1 rfl
   have ao:H2[u]? = some (.loop lr):=by rw[b3 u aF l1 ai];omega
   have ae:u<H2.length:=by omega
   have W:¬eM ν2 ah.m u:=λh=>(b5 u h).elim l1 λh=>by omega
   have aj:¬Z2 u:=λh=>by rcases b6 u h with h|h|h;exact ai h;exact l1 h;omega
   have w:∀(ob:Ob) (Hh:bf) (i:Nat),i≠u->(Hh.set u ob)[i]? = Hh[i]? := λob Hh i Y=>by rw[List.getElem?_set,if_neg (Ne.symm Y)]
   have r3:R ν2 Z2 ah F2 (H2.set u (.loop { lr with st:=.busy })):=a2.heap (λi hi=>w _ _ i λe=>W (e▸hi)) (λi hi=>by unfold bl;rw[w _ _ i λe=>aj (e▸hi)])
   obtain⟨nB,F4,H4,ν4,Z4,c1,c2,c3,c4⟩:=hB _ _ _ aE (rZ (eM ν2 ah.m) Z2 (H2.set u (.loop { lr with st:=.busy }))) ν2 Z2 F2 _ rZ.yc r3 (by
    rw[b1];exact rZ.refl r3)
   obtain⟨_,g2,g3,g4,g5,g6⟩:=c3;simp  at g2 g3 g5 g6;have ap:H4[u]? = some (.loop { lr with st:=.busy }):=by rw[g3 u ae W aj,List.getElem?_set_self ae]
   have aq:u<H4.length:=by omega
   have ar  := λh=>(g5 u h).elim W λh=>by omega
   have au:¬Z4 u:=λh=>by rcases g6 u h with h|h|h;exact aj h;exact W h;omega
   generalize aa:({ lr with st:=(if C==.norm then zB.ready else zB.done),pend:=(if C==.norm then none else some C) }:tO)=G;have r5:R ν4 Z4 st2 F4 (H4.set u (.loop G)):=c2.heap (λi hi=>w _ _ i λe=>ar (e▸hi)) (λi hi=>by unfold bl;rw[w _ _ i λe=>au (e▸hi)])
   have L:H.length<=(H4.set u (.loop G)).length:=by simp ;omega
   have ak:∀i,i<H.length->i≠u->¬eM νb m i->¬(Zb i\/Z i)->(H4.set u (.loop G))[i]? = H[i]? := λi h1 J I h4=>by
    rw[w _ _ i J,g3 i Za (λh=>(b5 i h).elim I λh=>by omega) (λh=>by rcases b6 i h with h|h|h;exact h4 h;exact I h;omega),w _ _ i J,b3 i h1 I h4]
   have D:∀i,(Zb i\/Z i)->Z4 i/\bl (H4.set u (.loop G)) i=bl H i:=λi hi=>by
    have Y:i≠u:=λe=>ai (e▸hi)
    obtain⟨t1,t2⟩:=b4 i hi;obtain⟨t3,t4⟩:=g4 i t1;refine⟨t3,?_⟩;rw[<-t2];have:bl (H2.set u (.loop { lr with st:=.busy })) i=bl H2 i:=by unfold bl;rw[w _ _ i Y]
    rw[<-this,<-t4];unfold bl;rw[w _ _ i Y]
   have Q:∀i,eM ν4 st2.m i->eM νb m i\/H.length<=i:=λi hi=>by
    rcases g5 i hi with h|h
    .exact b5 i h
    exact .inr Za
   have af:∀i,Z4 i->(Zb i\/Z i)\/eM νb m i\/H.length<=i:=λi hi=>by
    rcases g6 i hi with h|h|h
    .exact b6 i h
    .rcases b5 i h with h|h
     .exact .inr (.inl h)
     exact .inr (.inr h)
    exact .inr (.inr Za)
   have fx:=a4.trans c4;have r6:R ν4 Z4 (NZ st st2.m) F (H4.set u (.loop G)):=⟨λs sv hs=>(r.slot s sv hs).mono (λi hi=>D i (.inl hi)) λd hd al am=>fx.pin d (List.mem_append_right _ (zU hs hd)) al am,r5.obj,r5.inj,r5.apart,r5.zrow,r5.deep⟩
   have av:run S.E (max nA nB+1) (.yld u) args H=some (.bool (C==.norm),H4.set u (.loop G)):=by
    simp only[run,jH,l4];rw[if_pos (by rw[q3];exact⟨by rw[<-hx.1];exact ad,by rw[q2];exact ax⟩)]
    rw[q1,q2,q3,q4,q5];rw[a1 _ (Nat.le_max_left _ _)];simp only[ao,T];rw[c1 _ (Nat.le_max_right _ _)];simp only[ap];rw[<-aa]
   refine⟨max nA nB+1,H4.set u (.loop G),?_,⟨st2.m,ν4,Z4,G,r6,?_,λi hi=>?_,λi hi=>?_,ar,au,l3,?_,?_,λd hd al am=>?_,?_⟩,L,λi hi=>?_,λi hi=>(D i (.inr hi)).2⟩
   .rw[av];rcases ab with⟨h1,_,I⟩|⟨h1,_,_,h4,h5⟩
    .rw[h1,I];rfl
    rw[h4,h5]
    cases aH:C with
    | norm=>exact absurd aH h1
    | _=>rfl
   .obtain⟨j1,j2,j3,j4,j5,j6⟩:=ej;refine⟨rfl,Nat.le_trans j2 L,λi h1 J I=>?_,λi h=>⟨(D i (.inl (j4 i h).1)).1,by rw[(D i (.inl (j4 i h).1)).2,(j4 i h).2]⟩,λi h=>?_,λi h=>?_⟩
    .rw[ak i Za Za (λh=>by rcases j5 i h with h|h;exact J h;omega) (λh=>by
      rcases h with h|h
      .rcases j6 i h with h|h|h;exact I h;exact J h;omega
      rcases (d2 i h).2.2 with h|h;exact I h;omega),j3 i h1 J I]
    .rcases Q i h with h|h
     .exact j5 i h
     exact .inr Za
    rcases af i h with (h|h)|h|h
    .exact j6 i h
    .rcases (d2 i h).2.2 with h|h;exact .inl h;exact .inr (.inr h)
    .rcases j5 i h with h|h;exact .inr (.inl h);exact .inr (.inr h)
    exact .inr (.inr Za)
   .obtain⟨t1,t2⟩:=aA i hi;obtain⟨t3,t4,t5,t6⟩:=d1 i hi;refine⟨λh=>(Q i h).elim t3 λh=>by omega,λh=>?_,t5,t6⟩
    rcases af i h with (h|h)|h|h
    .exact t4 h
    .exact t1 h
    .exact t3 h
    omega
   .obtain⟨t1,t2,t3⟩:=d2 i hi;have aJ:i<H.length:=by
     have:=an i hi;unfold bl at this
     cases hh:H[i]? with
     | none=>rw[hh]at this;simp at this
     | some _=>exact(ζe.1 hh).1
    exact⟨λh=>(Q i h).elim t1 λh=>by omega,t2,t3⟩
   .rw[List.getElem?_set_self aq]
   .subst aa;exact⟨q1,q2,q3,q4,q5⟩
   .obtain⟨aI,h1,J,I⟩:=fx.pin d hd al am;obtain⟨ob,k1,k2,k3⟩:=l6 d hd aI h1;exact⟨ob,k1,by rw[J,k2],k3.trans I⟩
   .rcases ab with⟨h1,J,I⟩|⟨h1,J,I,h4,h5⟩
    .left;subst h1;subst aa;exact⟨J,rfl,rfl⟩
    right;subst aa;have hb:¬(C==Out.norm)=true:=by simpa using h1
    refine⟨h4,I,?_,?_⟩
    .show (if(C==Out.norm)=true then zB.ready else zB.done)=zB.done;rw[if_neg hb]
    show (if(C==Out.norm)=true then none else some C)=some o;rw[if_neg hb,J]
   grind
  grind
 grind
end
section
variable {ν ν' ν2:Nu} {Z Z':Nat->Prop} {st st' st2:St} {m m':Tb bB} {F F':Frame} {H H' H1:bf} {S:Sys} {c:bN} {X:CX} {J:JT}
theorem JV (gd:Good X S) (hS:gY S c) {ro:Bool} {id:Nat} {ops:Array Oper} {l:List RO} (hc:jQ X true ops.toList 0 ops.toList=some (l.map RO.strip)) (hd:(um ops.toList&&ya ops.toList)=true) :
 qf X S ro (.region id ops true) (λst=>(lP S c true [] l st).map λst=>(.norm,st)):=by
 intro st o st' h J ν Z F H y r j;obtain⟨G,h1,e⟩:=ζf.1 h;simp only[ζc]at e;obtain⟨rfl,rfl⟩:=e;generalize w:(if pP ops.toList then H++List.replicate ops.toList.length .free else H)=H0;generalize hk:(if pP ops.toList then ops.toList.length else 0)=k;have u:∀i,i<H.length->H0[i]? = H[i]? := λi hi=>by
  rw[<-w];split
  .exact List.getElem?_append_left hi
  rfl
 have z:H.length<=H0.length:=by rw[<-w];split <;> simp
 have I:R ν Z st F H0:=r.heap (λi hi=>u i (r.lt hi)) (λi hi=>by unfold bl;rw[u i (r.uy hi)])
 have B:∀q,0<=q->q<k->H0[H.length+q]? = some .free:=λq _ C=>by
  rw[<-hk]at C;split at C
  .rename_i D;rw[<-w,if_pos D,List.getElem?_append_right Za]
   simp only[Nat.add_sub_cancel_left];rw[List.getElem?_replicate,if_pos C]
  omega
 obtain⟨n,F',H',ν',e1,e2,e3,e4,e5⟩:=J4 gd hS (ops:=ops.toList) (b:=H.length) (k:=k) (λD=>by rw[<-hk,if_pos D]) ops.toList.length (i:=0) (fr:=[]) Za (by simpa using hc) h1 I z
  ⟨λd ob hd L _=>r.lt ⟨d,ob,hd,L,rfl⟩,λi hi=>r.uy hi⟩ B
 refine⟨n,F',H',ν',Z,λq C=>?_,e2,?_,e5⟩
 .simp only[exec,iA,if_true,hd,ζf,ζc,true_and];refine⟨(F',H'),?_,rfl,rfl⟩;rw[w];have:=e1 q C;rw[List.range_eq_range'];exact this
 rw[e4];refine y.uz _ _ _ _ _ _ _ j (Nat.le_trans z e3.len) (λi h1 O Q=>by rw[e3.same i Za O Q Za,u i h1]) (λi hi=>⟨hi,by rw[(e3.rows i hi).2];unfold bl;rw[u i (r.uy hi)]⟩) (λi hi=>?_) (λi hi=>.inl hi)
 rcases e3.own i hi with h|h|h
 .exact .inl h
 .exact .inr h
 exact .inr Za
theorem OM {ro:Bool} {code:Code} {f:St->Option (Out×St)} (U:qf X S ro code f):qf X S ro (.loop code) (mP f):=by
 intro st o st' h J ν Z F H y r j;obtain⟨k,hk⟩:=kX.1 h;have key:∀k st ν Z F H,h_ f k st=some (o,st')->Yc S J st.more st.yid->R ν Z st F H->J st.want (eM ν st.m) Z H ->
  ∃n F' H' ν' Z',(∀q,n<=q->∀u,k<=u->jx (exec S.E (run S.E q) q ro X.nt code) u F H=some (o,F',H'))/\R ν' Z' st' F' H'/\J st'.want (eM ν' st'.m) Z' H'/\Fix ν st ν' st':=by
  intro k
  induction k with
  | zero=>intro st ν Z F H h;simp[h_]at h
  | succ k W=>
   intro st ν Z F H h y r j;simp only[h_]at h;split at h
   .rename_i z C;obtain⟨D,F1,H1,G,I,L,O,Q,B⟩:=U st .norm z C J ν Z F H y r j;obtain⟨Y,F2,H2,ν2,Z2,b1,b2,b3,b4⟩:=W z G I F1 H1 h (by rw[B.more,B.yid];exact y) O Q
    refine⟨max D Y,F2,H2,ν2,Z2,λq w u T=>?_,b2,b3,B.trans b4⟩
    cases u with
    | zero=>omega
    | succ u=>
     simp only[jx,L q (Nat.le_trans (Nat.le_max_left _ _) w)];exact b1 q (Nat.le_trans (Nat.le_max_right _ _) w) u Za
   rename_i C;obtain⟨D,F1,H1,G,I,L,O,Q,B⟩:=U st o st' h J ν Z F H y r j;have ho:o≠.norm:=λe=>by subst e;exact C st' h
   refine⟨D,F1,H1,G,I,λq w u T=>?_,O,Q,B⟩
   cases u with
   | zero=>omega
   | succ u=>
    simp only[jx,L q w];cases o <;> first|exact absurd rfl ho|rfl
 obtain⟨n,F',H',ν',Z',e1,e2,e3,e4⟩:=key k st ν Z F H hk y r j;refine⟨max n k,F',H',ν',Z',λq w=>?_,e2,e3,e4⟩
 simp only[exec];exact e1 q (Nat.le_trans (Nat.le_max_left _ _) w) q (Nat.le_trans (Nat.le_max_right _ _) w)
theorem PD (gd:Good X S) (hI:∀f a b xs,S.items f a b=some xs->eR S f a b xs) {g:Operand} {ps:Array Tmp} {U W:Code} {x:Arg} {A B:St->Option (Out×St)}
 (ab:ps.toList.all (·<X.nt)=true) (hx:nT X.nm g=some x) (hA:qf X S true U A) (hB:qf X S true W B) :
 qf X S false (.rangeFunc g ps U W) (λst=>match oK S.N st.g x with
 | some (.v (.clo f x y))=>match S.items f x y with
  | some xs=>(oH (gP ps.toList A B st) xs st.m).map λ(o,m)=>(o,{ st with m:=m })
  | none=>none
 | _=>none):=by
 intro st o st' h J ν Z F H y r j;dsimp only at h;split at h
 .rename_i f a b ad;split at h
  .rename_i xs ae;obtain⟨⟨oo,mf⟩,hE,e⟩:=ζf.1 h;simp only[ζc]at e;obtain⟨rfl,rfl⟩:=e;obtain⟨yv,hy,ry⟩:=BZ gd.N r.slot hx ad;obtain⟨a',b',rfl,ra,rb⟩:=ry.fr.jJ;obtain⟨ws,more,Q,hR⟩:=Bd hE;generalize I:(⟨.ready,none,F,X.nt,ps.toList,U,W⟩:tO)=u;have z:∀i,i<H.length->(H++[Ob.loop u])[i]? = H[i]? := λi hi=>List.getElem?_append_left hi
   have C:∀i,Z i->bl (H++[Ob.loop u]) i=bl H i:=λi hi=>by unfold bl;rw[z i (r.uy hi)]
   have r0:R ν Z (NZ st st.m) F (H++[Ob.loop u]):=by
    have:=r.heap (H':=H++[Ob.loop u]) (λi hi=>z i (r.lt hi)) C
    exact⟨this.slot,this.obj,this.inj,this.apart,this.zrow,this.deep⟩
   have D:∀i,Z i->Z i/\bl (H++[Ob.loop u]) i=bl H i:=λi hi=>⟨hi,C i hi⟩
   have j0:JI X st F ν (eM ν st.m) Z H H.length ps.toList U W (gP ps.toList A B st) oo mf more ws (λ_=>False) Z (H++[Ob.loop u]):=by
    refine⟨st.m,ν,Z,u,r0,⟨rfl,by simp,λi h1 _ _=>z i h1,λi hi=>⟨hi,C i hi⟩,λi hi=>.inl hi,λi hi=>.inl hi⟩,λi hi=>hi.elim,λi hi=>⟨λho=>?_,Nat.ne_of_lt (r.uy hi),.inl hi⟩,λho=>absurd (r.lt ho) Zc,λhz=>absurd (r.uy hz) Zc,Nat.le_refl _,by simp,?_,λd _ af h=>⟨af,h,rfl,.refl _⟩,.inl ⟨hR,?_,?_⟩⟩
    .obtain⟨d,ob,g1,g2,rfl⟩:=ho;exact r.apart d ob g1 g2 hi
    .subst I;exact⟨rfl,rfl,rfl,rfl,rfl⟩
    .subst I;rfl
    subst I;rfl
   have ah:Yc S (JI X st F ν (eM ν st.m) Z H H.length ps.toList U W (gP ps.toList A B st) oo mf more) more H.length:=
    ⟨λw O Z1 H1 O' Z' H' jj h1 Y h3 h4 h5=>JI.uz jj h1 Y h3 h4 h5,λx1 aj O Z1 H1 args jj h1 Y h3 h4=>JI.yield S hA hB ab jj h1 Y h3 h4⟩
   obtain⟨n,yy,H',O',Z',e1,e2⟩:=hI f a b xs ae ws more Q H.length _ ah Z a' b' (H++[Ob.loop u]) (ra.mono D) (rb.mono D) (λi hi=>by rw[C i hi];exact r.zrow i hi) (r.deep.mono C) j0
   obtain⟨m1,νb,Zb,lr,r1,⟨_,k2,k3,k4,k5,k6⟩,_,_,l1,l2,l3,l4,_,l6,l7⟩:=e2;have aa:m1=mf/\(lr.st=.ready\/lr.st=.done)/\lr.pend.getD .norm=oo:=by
    rcases l7 with⟨g1,g2,g3⟩|⟨_,g1,g2,g3⟩
    .cases g1 with
     | nil hn=>
      exact⟨rfl,.inl g2,by rw[g3,hn];rfl⟩
    exact⟨g1,.inr g2,by rw[g3];rfl⟩
   obtain⟨rfl,hst,T⟩:=aa;have ak:H.length<H'.length:=(ζe.1 l4).1;have G:∀i,i≠H.length->(H'.set H.length .dead)[i]? = H'[i]? := λi ai=>by rw[List.getElem?_set,if_neg (Ne.symm ai)]
   have L:∀i,Zb i->bl (H'.set H.length .dead) i=bl H' i:=λi hi=>by unfold bl;rw[G i λe=>l2 (e▸hi)]
   have r2:=r1.heap (H':=H'.set H.length .dead) (λi hi=>G i λe=>l1 (e▸hi)) L
   refine⟨n,F,H'.set H.length .dead,νb,Zb,λq hq=>?_,⟨r2.slot,r2.obj,r2.inj,r2.apart,r2.zrow,r2.deep⟩,?_,⟨λd hd=>l6 d (List.mem_append_left _ hd),rfl,rfl,rfl⟩⟩
   .simp only[exec,hy];rw[I,e1 q hq];simp only[l4];rcases hst with hst|hst <;> rw[hst] <;> simp only[T]
   refine y.uz _ _ _ _ _ _ _ j (by simp only[List.length_set];omega) (λi h1 Y h3=>by rw[G i Za,k3 i h1 Y h3]) (λi hi=>⟨(k4 i hi).1,by rw[L i (k4 i hi).1,(k4 i hi).2]⟩) k5 k6
  simp at h
 simp at h
end
end Go.VE
