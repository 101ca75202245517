/-
 The second layer: named objects in the place of rows; texts, calls, iterators.
-/
import Derived.Test.YtlhegnhabpldfaaGreatDoorV2
set_option linter.all false
namespace Go.VE
variable [bV]
inductive Fl where|nil|emp|row|part
 deriving DecidableEq,Inhabited
inductive SV where
 | v (x:V)
 | own (d:Nat)
 | ptr (d off:Nat)
 | el (d i off:Nat)
 | mp (d:Nat)
 | clo (f:FuncId) (a b:List SV)
 | tup (l:List SV)
 | agg (l:List SV)
 | yl (id:Nat)
 deriving Inhabited
inductive bG where
 | sl (k:Fl) (es:Nat) (xs:List (List V))
 | box (cs:List SV)
 | mp (kvs:List (V×V))
abbrev Tb (α:Type):=List (Nat×α)
def bh {α:Type}:Tb α->Nat->Option α
 | [],_=>none
 | (k,v)::r,n=>if k=n then some v else bh r n
def bM {α:Type}:Tb α->Nat->α->Tb α
 | [],n,v=>[(n,v)]
 | (k,x)::r,n,v=>if k=n then(k,v)::r else(k,x)::bM r n v
def eo {α:Type} (n:Nat):Tb α->Tb α
 | []=>[]
 | (k,x)::r=>if k=n then eo n r else(k,x)::eo n r
def oN {α:Type}:List Nat->Tb α->Tb α
 | [],g=>g
 | d::ds,g=>oN ds (eo d g)
def vN {α:Type}:Tb α->List Nat->List α->Tb α
 | g,p::ps,v::vs=>vN (bM g p v) ps vs
 | g,_,_=>g
def lC {α:Type} (g:Tb α):List Nat->Option (Tb α)
 | []=>some []
 | n::r=>match bh g n,lC g r with
  | some v,some t=>some ((n,v)::t)
  | _,_=>none
structure St where
 g:Tb SV
 m:Tb bG
 pin:List Nat
 want:List (List V)
 more:Bool
 yid:Nat
structure Eo where
 part:Bool
 go:Nat->List (List V)->List V->Option (List (List V))
structure Sys where
 E:Env
 N:Nat->FuncId
 items:FuncId->List V->List V->Option (List (List V))
 yB:FuncId->List V->Option V
 prm:FuncId->Option Eo
inductive Arg where
 | s (n:Nat)
 | k (c:V)
 | f (name:Nat)
inductive Loc where
 | s (n:Nat)
 | c (b i:Nat)
inductive Gh where
 | close (d:Nat)
 | closeB (d:Nat)
 | canon (l:Loc) (d:Nat) (es:Nat)
 | keep (gs ms:List Nat)
 | drop (ds:List Nat)
 | closeS (l:Loc)
structure RO where
 dst:Option Nat
 gd:Option (Nat×Bool)
 now:Bool
 k:K
 az:List Arg
 dead:List Nat:=[]
 pre:List Gh:=[]
inductive RC where
 | skip
 | ops (l:List RO)
 | oQ (l:List RO)
 | seq (a b:RC)
 | cond (x:Arg) (a b:RC)
 | block (id:Nat) (c:RC)
 | loop (c:RC)
 | each (g:Arg) (ps:List Nat) (a b:RC)
 | exit (id:Nat)
 | ret
 | gh (x:Gh) (c:RC)
 | hg (c:RC) (x:Gh)
inductive RV where
 | s (n:Nat)
 | ld (n size:Nat) (agg:Bool)
structure RF where
 na:Nat
 rs:List RV
 body:RC
mutual
def SV.cR (d:Nat):SV->Bool
 | .v _=>false
 | .own e=>e==d
 | .ptr e _=>e==d
 | .el e _ _=>e==d
 | .mp e=>e==d
 | .clo _ a b=>SV.dz d a||SV.dz d b
 | .tup l=>SV.dz d l
 | .agg l=>SV.dz d l
 | .yl _=>false
def SV.dz (d:Nat):List SV->Bool
 | []=>false
 | x::r=>SV.cR d x||SV.dz d r
end
def bG.cR (d:Nat):bG->Bool
 | .box cs=>SV.dz d cs
 | _=>false
def uB (d:Nat):Tb SV->Bool
 | []=>false
 | (_,x)::r=>SV.cR d x||uB d r
def r_ (d:Nat):Tb bG->Bool
 | []=>false
 | (_,x)::r=>bG.cR d x||r_ d r
def St.new (st:St) (d:Nat):Bool := !(st.pin.contains d)&&(bh st.m d).isNone && !(uB d st.g) && !(r_ d st.m)
mutual
def SV.tN (d e:Nat):SV->SV
 | .v x=>.v x
 | .own k=>.own (if k=d then e else k)
 | .ptr k o=>.ptr (if k=d then e else k) o
 | .el k i o=>.el (if k=d then e else k) i o
 | .mp k=>.mp (if k=d then e else k)
 | .clo f a b=>.clo f (SV.uq d e a) (SV.uq d e b)
 | .tup l=>.tup (SV.uq d e l)
 | .agg l=>.agg (SV.uq d e l)
 | .yl id=>.yl id
def SV.uq (d e:Nat):List SV->List SV
 | []=>[]
 | x::r=>SV.tN d e x::SV.uq d e r
end
def bG.tN (d e:Nat):bG->bG
 | .box cs=>.box (SV.uq d e cs)
 | o=>o
def zG (d e:Nat):Tb SV->Tb SV
 | []=>[]
 | (n,x)::r=>(n,x.tN d e)::zG d e r
def uo (d e:Nat):Tb bG->Tb bG
 | []=>[]
 | (n,x)::r=>((if n=d then e else n),x.tN d e)::uo d e r
mutual
def SV.sub (d:Nat) (w:V):SV->SV
 | .own k=>if k=d then .v w else .own k
 | .clo f a b=>.clo f (SV.uk d w a) (SV.uk d w b)
 | .tup l=>.tup (SV.uk d w l)
 | .agg l=>.agg (SV.uk d w l)
 | x=>x
def SV.uk (d:Nat) (w:V):List SV->List SV
 | []=>[]
 | x::r=>SV.sub d w x::SV.uk d w r
end
def dw:List SV->Option (List V)
 | []=>some []
 | .v x::r=>(dw r).map (x::·)
 | _::_=>none
def OU (f:FuncId) (a b:List SV):SV:=
 match dw a,dw b with
 | some x,some y=>.v (.clo f x y)
 | _,_=>.clo f a b
mutual
def SV.Bu (d:Nat) (cs:List V):SV->SV
 | .ptr k o=>if k=d then(if o<=cs.length then .v (.fptr (cs.drop o))else .ptr k o)else .ptr k o
 | .clo f a b=>OU f (SV.qB d cs a) (SV.qB d cs b)
 | .tup l=>.tup (SV.qB d cs l)
 | .agg l=>.agg (SV.qB d cs l)
 | x=>x
def SV.qB (d:Nat) (cs:List V):List SV->List SV
 | []=>[]
 | x::r=>SV.Bu d cs x::SV.qB d cs r
end
def BJ (f:SV->SV):Tb SV->Tb SV
 | []=>[]
 | (n,x)::r=>(n,f x)::BJ f r
def mapM (f:List SV->List SV):Tb bG->Tb bG
 | []=>[]
 | (n,.box cs)::r=>(n,.box (f cs))::mapM f r
 | (n,o)::r=>(n,o)::mapM f r
mutual
def SV.names:SV->List Nat
 | .own d|.ptr d _|.el d _ _|.mp d=>[d]
 | .clo _ a b=>SV.vf a++SV.vf b
 | .tup l=>SV.vf l
 | .agg l=>SV.vf l
 | _=>[]
def SV.vf:List SV->List Nat
 | []=>[]
 | x::r=>SV.names x++SV.vf r
end
def pz:Tb SV->List Nat
 | []=>[]
 | (_,x)::r=>SV.names x++pz r
def nO (k:Fl) (es:Nat) (xs:List (List V)):V:=
 match k with
 | .nil=>.bK
 | .emp=>.dD
 | _=>.fsl es xs
mutual
def V.lvl:Nat->V->Bool
 | n,.fsl _ xs=>match n with|0=>false|n+1=>V.oJ n xs
 | n,.fptr cs=>match n with|0=>false|n+1=>V.kQ n cs
 | n,.fmap B=>match n with|0=>false|n+1=>V.rT n B
 | n,.agg cs=>match n with|0=>false|n+1=>V.kQ n cs
 | n,.tup cs=>match n with|0=>false|n+1=>V.kQ n cs
 | n,.clo _ a b=>match n with|0=>false|n+1=>V.kQ n a&&V.kQ n b
 | _,_=>true
def V.kQ:Nat->List V->Bool
 | _,[]=>true
 | n,x::r=>V.lvl n x&&V.kQ n r
def V.oJ:Nat->List (List V)->Bool
 | _,[]=>true
 | n,x::r=>V.kQ n x&&V.oJ n r
def V.rT:Nat->List (V×V)->Bool
 | _,[]=>true
 | n,(k,x)::r=>V.lvl n k&&V.lvl n x&&V.rT n r
end
mutual
def shut (m:Tb bG):Nat->SV->Option V
 | _,.v x=>some x
 | _,.own d=>match bh m d with
  | some (.sl k es xs)=>some (nO k es xs)
  | _=>none
 | n+1,.ptr d o=>match bh m d with
  | some (.box cs)=>match cV m n cs with
   | some xs=>if o<=xs.length then some (.fptr (xs.drop o))else none
   | none=>none
  | _=>none
 | _,.mp d=>match bh m d with
  | some (.mp B)=>some (.fmap B)
  | _=>none
 | n+1,.clo f a b=>match cV m n a,cV m n b with
  | some x,some y=>some (.clo f x y)
  | _,_=>none
 | n+1,.tup l=>(cV m n l).map .tup
 | n+1,.agg l=>(cV m n l).map .agg
 | _,_=>none
def cV (m:Tb bG):Nat->List SV->Option (List V)
 | _,[]=>some []
 | n,x::r=>match shut m n x,cV m n r with
  | some y,some s=>some (y::s)
  | _,_=>none
end
end Go.VE
namespace Go.VE
variable [bV]
mutual
def V.good:V->Bool
 | .hsl ..|.hptr ..|.yld ..|.hmap ..=>false
 | .fsl _ xs=>V.mG xs
 | .fptr cs=>V.cA cs
 | .fmap B=>V.rV B
 | .clo _ a b=>V.cA a&&V.cA b
 | .agg cs=>V.cA cs
 | .tup cs=>V.cA cs
 | _=>true
def V.cA:List V->Bool
 | []=>true
 | x::r=>V.good x&&V.cA r
def V.mG:List (List V)->Bool
 | []=>true
 | x::r=>V.cA x&&V.mG r
def V.rV:List (V×V)->Bool
 | []=>true
 | (k,x)::r=>V.good k&&V.good x&&V.rV r
end
abbrev dZ:=Tb bG
abbrev ck:=FuncId->List SV->dZ->Option (List SV×dZ)
def qh (N:Nat->FuncId) (g:Tb SV):Arg->Option SV
 | .s n=>bh g n
 | .k c=>some (.v c)
 | .f s=>some (.v (.clo (N s) [] []))
def bY (N:Nat->FuncId) (g:Tb SV):List Arg->Option (List SV)
 | []=>some []
 | x::r=>match qh N g x,bY N g r with
  | some v,some vs=>some (v::vs)
  | _,_=>none
def cN:Fl->Bool
 | .row|.part=>true
 | _=>false
def kO (m:Tb bG):SV->Bool
 | .own d|.ptr d _|.el d _ _|.mp d=>(bh m d).isSome
 | .clo ..=>true
 | _=>false
def vW (m:Tb bG):SV->Bool
 | .v x=>x.one
 | x=>kO m x
def xw (m:Tb bG):SV->Option (List SV)
 | .v x=>some (x.cells.map .v)
 | .agg l=>some l
 | x=>if kO m x then some [x]else none
def sA (m:Tb bG) (cells:List SV):List (Nat×Nat)->List SV->Option (List SV)
 | [],[]=>some cells
 | (off,size)::pl,v::vs=>match xw m v with
  | some c=>if c.length=size/\off+c.length<=cells.length then sA m (cells.take off++c++cells.drop (off+c.length)) pl vs else none
  | none=>none
 | _,_=>none
def tG (size:Nat) (agg:Bool) (cs:List SV):Option SV:=
 if cs.length=size then
  if agg then match dw cs with
   | some u=>some (.v (.agg u))
   | none=>some (.agg cs)
  else match cs with
   | [x]=>some x
   | _=>none
 else none
def vG (N:Nat->FuncId) (m:Tb bG):uz->List SV->Option SV
 | .id,[x]=>some x
 | .nilc,[.ptr d o]=>if(bh m d).isSome then some (.ptr d o)else none
 | .nilc,[.el d i o]=>if(bh m d).isSome then some (.el d i o)else none
 | .pick,[.v (.bool t),a,b]=>some (if t then a else b)
 | .bin (some .slice) _ .eql,[.own d,.v .bK]=>match bh m d with
  | some (.sl k _ _)=>if k=.emp then none else some (.v (.bool (k==.nil)))
  | _=>none
 | .bin (some .slice) _ .neq,[.own d,.v .bK]=>match bh m d with
  | some (.sl k _ _)=>if k=.emp then none else some (.v (.bool (!(k==.nil))))
  | _=>none
 | .fieldAddr off,[.ptr d o]=>if(bh m d).isSome then some (.ptr d (o+off))else none
 | .fieldAddr off,[.el d i o]=>if(bh m d).isSome then some (.el d i (o+off))else none
 | .idxS size,[.own d,.v (.int _ i)]=>match bh m d with
  | some (.sl k es xs)=>if cN k/\es=size/\0<=i/\i.toNat<xs.length then some (.el d i.toNat 0)else none
  | _=>none
 | .idxA len size,[.ptr d o,.v (.int _ i)]=>if 0<=i/\i<len/\(bh m d).isSome then some (.ptr d (o+i.toNat*size))else none
 | .idxA len size,[.el d j o,.v (.int _ i)]=>if 0<=i/\i<len/\(bh m d).isSome then some (.el d j (o+i.toNat*size))else none
 | .lenSl,[.own d]=>match bh m d with
  | some (.sl _ _ xs)=>some (.v (.int .i64 xs.length))
  | _=>none
 | .clo name k,vs=>some (.clo (N name) (vs.take k) (vs.drop k))
 | .ext i,[.tup l]=>l[i]?
 | .build zero pl,vs=>(sA m (zero.map .v) pl vs).map .agg
 | .field off size agg,[.agg l]=>tG size agg ((l.drop off).take size)
 | _,_=>none
def jy (N:Nat->FuncId) (m:Tb bG) (p:uz) (svs:List SV):Option SV:=
 match dw svs with
 | some u=>(bn N p u).map .v
 | none=>vG N m p svs
def JO (m:Tb bG) (d:Nat):SV->Bool
 | .ptr B _=>B != d&&(match bh m B with|some (.box _)=>true|_=>false)
 | .v (.fptr _)=>true
 | _=>false
def mh (m:Tb bG):Iz->List SV->Option SV
 | .load size agg,[.ptr d o]=>match bh m d with
  | some (.box cs)=>tG size agg ((cs.drop o).take size)
  | _=>none
 | .load size agg,[.el d i o]=>match bh m d with
  | some (.sl _ _ xs)=>match xs[i]? with
   | some cs=>((cut cs o size).bind (mk agg)).map .v
   | none=>none
  | _=>none
 | .load size agg,[.v p]=>((ey [] p size).bind (mk agg)).map .v
 | .lookup kk z ok,[.mp d,.v k]=>match bh m d with
  | some (.mp B)=>if oZ kk k then match gR k B 0 with
   | some (some (_,v))=>some (.v (if ok then .tup [v,.bool true]else v))
   | some none=>some (.v (if ok then .tup [z,.bool false]else z))
   | none=>none
   else none
  | _=>none
 | .lookup kk z ok,[.v p,.v k]=>(eR [] (.lookup kk z ok) [p,k]).map .v
 | .loadF size agg,.ptr d o::l=>if l.all (JO m d)=true then match bh m d with
  | some (.box cs)=>tG size agg ((cs.drop o).take size)
  | _=>none
  else none
 | _,_=>none
def eM (fr:List Nat):List SV->Bool
 | []=>true
 | .v _::r=>eM fr r
 | .ptr d _::r => !(fr.contains d)&&eM fr r
 | .el d _ _::r => !(fr.contains d)&&eM fr r
 | .mp d::r => !(fr.contains d)&&eM fr r
 | _=>false
def mJ (m:Tb bG) (a:Mz) (svs:List SV) (d:Nat):Option (bG×SV):=
 match a,svs with
 | .alloc _ zero,[]=>some (.box (zero.map .v),.ptr d 0)
 | .box,[.v x]=>if x.cells.all V.one then some (.box (x.cells.map .v),.ptr d 0)else none
 | .box,[.agg l]=>if l.all (vW m)then some (.box l,.ptr d 0)else none
 | .box,[x]=>if kO m x then some (.box [x],.ptr d 0)else none
 | .makeSl size zero,[.v (.int k n),.v (.int w c)]=>
  if k=.i64/\w=.i64/\0<=n/\n<=c/\c<=2147483648 then some (.sl (if n=c then .row else .part) size (List.replicate n.toNat zero),.own d)else none
 | .buildSl size len zero idx,z=>match dw z with
  | some u=>if idx.length=u.length then(gA size (List.replicate len zero) (idx.zip u)).map λB=>(.sl .row size B,.own d)else none
  | none=>none
 | .makeMap,[]=>some (.mp [],.mp d)
 | _,_=>none
def iU (m:Tb bG) (size:Nat):SV->Option (List (List V))
 | .own d=>match bh m d with
  | some (.sl k es xs)=>if cN k then(if es=size then some xs else none)else some []
  | _=>none
 | .v .bK=>some []
 | .v .dD=>some []
 | .v (.fsl es xs)=>if es=size then some xs else none
 | _=>none
def Gm:SV->Bool
 | .own _|.v .bK|.v .dD=>true
 | _=>false
def putCells (m:Tb bG) (size o:Nat) (sv:SV) (cs:List SV):Option (List SV):=
 match sv with
 | .v x=>if x.cells.length=size/\o+size<=cs.length/\x.cells.all V.one=true then some (cs.take o++x.cells.map .v++cs.drop (o+size))else none
 | .agg l=>if l.length=size/\o+size<=cs.length/\l.all (vW m)=true then some (cs.take o++l++cs.drop (o+size))else none
 | x=>if kO m x=true/\size=1/\o+1<=cs.length then some (cs.take o++[x]++cs.drop (o+1))else none
def giveUp (m:Tb bG):SV->Tb bG
 | .own d=>eo d m
 | _=>m
def mg (st:St) (dst:Option Nat):Iu->List SV->Option (SV×St)
 | .store size,[.ptr d o,x]=>match bh st.m d with
  | some (.box cs)=>(putCells st.m size o x cs).map λcs=>(.v .undef,{ st with m:=bM st.m d (.box cs) })
  | _=>none
 | .store size,[.el d i o,.v x]=>match bh st.m d with
  | some (.sl k es xs)=>match xs[i]? with
   | some cs=>if x.cells.length=size/\o+size<=cs.length/\x.cells.all V.one=true then
    some (.v .undef,{ st with m:=bM st.m d (.sl k es (xs.set i (cs.take o++x.cells++cs.drop (o+x.cells.length)))) })else none
   | none=>none
  | _=>none
 | .mapUp kk,[.mp d,.v k,.v x]=>match bh st.m d with
  | some (.mp B)=>if oZ kk k then(pK k x B).map λB=>(.v .undef,{ st with m:=bM st.m d (.mp B) })else none
  | _=>none
 | .append size,[s,x]=>match iU st.m size s,iU st.m size x with
  | some _,some []=>match dst with
   | some t=>match s with
    | .own d=>match bh st.m d with
     | some ob=>if St.new { st with m:=eo d st.m } t then some (.own t,{ st with m:=bM (eo d st.m) t ob })else none
     | none=>none
    | .v .bK=>if st.new t then some (.own t,{ st with m:=bM st.m t (.sl .nil size []) })else none
    | .v .dD=>if st.new t then some (.own t,{ st with m:=bM st.m t (.sl .emp size []) })else none
    | _=>none
   | none=>none
  | some xs,some ys=>
   if xs.length+ys.length<=2147483648/\Gm s=true then
    let m1:=giveUp st.m s
    match dst with
    | some t=>if St.new { st with m:=m1 } t then some (.own t,{ st with m:=bM m1 t (.sl .row size (xs++ys)) })else none
    | none=>none
   else none
  | _,_=>none
 | .storeF size,.ptr d o::x::l=>if l.all (JO st.m d)=true then match bh st.m d with
  | some (.box cs)=>(putCells st.m size o x cs).map λcs=>(.v .undef,{ st with m:=bM st.m d (.box cs) })
  | _=>none
  else none
 | _,_=>none
def zW (st:St) (dst:Option Nat) (size:Nat) (B D:Bool) (d:Nat) (G:List SV):Option (SV×St):=
 match bh st.m d,dw G,dst with
 | some (.sl k es u),some z,some t=>
  if cN k=true/\es=size then
   (lB B D z).bind λ(l,h)=>(dU u.length l h).bind λ(l,h)=>
    let w:=eo d st.m
    if St.new { st with m:=w } t then some (.own t,{ st with m:=bM w t (.sl .part es ((u.take h).drop l)) })else none
  else none
 | _,_,_=>none
def Az:List SV->SV
 | [x]=>x
 | l=>.tup l
mutual
def SV.Cq:SV->List Nat
 | .v _=>[]
 | .own e=>[e]
 | .ptr e _=>[e]
 | .el e _ _=>[e]
 | .mp e=>[e]
 | .clo _ a b=>SV.u7 a++SV.u7 b
 | .tup l=>SV.u7 l
 | .agg l=>SV.u7 l
 | .yl _=>[]
def SV.u7:List SV->List Nat
 | []=>[]
 | x::r=>SV.Cq x++SV.u7 r
end
def bG.Cq:bG->List Nat
 | .box cs=>SV.u7 cs
 | _=>[]
def reach (m:Tb bG):Nat->List Nat->List Nat->List Nat
 | 0,_,seen=>seen
 | _+1,[],seen=>seen
 | n+1,d::r,seen=>if seen.contains d then reach m n r seen else reach m n ((match bh m d with|some ob=>bG.Cq ob|none=>[])++r) (seen++[d])
def ua (m:Tb bG) (l:List SV):Option dZ:=lC m (reach m 32 (SV.u7 l) [])
mutual
def SV.bare:SV->Bool
 | .v x=>x.scalar
 | .clo _ a b=>SV.vz a&&SV.vz b
 | .tup l=>SV.vz l
 | .agg l=>SV.vz l
 | _=>true
def SV.vz:List SV->Bool
 | []=>true
 | x::r=>SV.bare x&&SV.vz r
end
def bG.bare:bG->Bool
 | .box cs=>SV.vz cs
 | _=>false
def zB (m:Tb bG) (k:Nat):Bool:=match bh m k with
 | some ob=>ob.bare
 | none=>true
def within (B:List Nat) (ob:bG):Bool:=ob.Cq.all B.contains
def vP (B:List Nat) (m':dZ):List Nat->Tb bG->Option (Tb bG)
 | [],m=>some m
 | d::r,m=>match bh m' d with
  | some ob=>if within B ob then vP B m' r (bM m d ob)else none
  | none=>none
def lX (m':dZ) (l:List Nat) (m:Tb bG):Option (Tb bG):=vP l m' l m
def n9 (xs:List (List V)):Bool:=xs.all λx=>x.all V.scalar
def Bq (q:Eo) (dst:Option Nat) (args:List SV) (st:St):Option (SV×St):=
 match args with
 | .own d::z=>match bh st.m d,dw z with
  | some (.sl k es u),some B=>match q.go es u B with
   | some w=>if q.part then match dst with
    | some t=>if St.new { st with m:=eo d st.m } t then some (.own t,{ st with m:=bM (eo d st.m) t (if cN k then .sl .part es w else .sl k es u) })else none
    | none=>none
    else some (.v .undef,{ st with m:=bM st.m d (if cN k then .sl k es w else .sl k es u) })
   | none=>none
  | _,_=>none
 | _=>none
def rowsOf:List SV->Option (List Nat)
 | []=>some []
 | .v _::r=>rowsOf r
 | .own d::r=>(rowsOf r).map (d::·)
 | _=>none
def fP (S:Sys) (c:ck) (dst:Option Nat) (dr now:Bool) (old:List SV->Bool) (f:FuncId) (args:List SV) (st:St):Option (SV×St):=
 if S.E.keep f then
  if now then
   if S.E.own f then
    match cV st.m 8 args with
    | some az=>
     match c f (az.map .v) []with
     | some (rs,m')=>match dw rs with
      | some u=>if(result u).scalar then some (.v (result u),st)else none
      | none=>match rs,dst with
       | .own e::rest,some t=>match bh m' e,dw rest with
        | some (.sl .row es z),some u=>
         if V.cO u&&n9 z&&st.new t then
          some (Az (.own t::u.map .v),{ st with m:=bM st.m t (.sl .row es z) })
         else none
        | some (.sl .nil es _),some u=>if V.cO u&&st.new t then some (Az (.own t::u.map .v),{ st with m:=bM st.m t (.sl .nil es []) })else none
        | some (.sl .emp es _),some u=>if V.cO u&&st.new t then some (Az (.own t::u.map .v),{ st with m:=bM st.m t (.sl .emp es []) })else none
        | _,_=>none
       | _,_=>none
     | none=>none
    | none=>none
   else match S.prm f with
    | some q=>if dr then none else Bq q dst args st
    | none=>match ua st.m args with
    | some os=>match c f args os with
     | some (rs,m')=>match dw rs,lX m' (os.map (·.1)) st.m with
      | some u,some w=>if dr && !(V.cO u&&os.all λx=>zB w x.1)then none else some (.v (result u),{ st with m:=w })
      | none,some w=>if dr then none else match rs,dst with
       | .own e::rest,some t=>match bh m' e,dw rest with
        | some (.sl k es z),some u=>if !(os.map (·.1)).contains e&&St.new { st with m:=w } t then some (Az (.own t::u.map .v),{ st with m:=bM w t (.sl k es z) })else none
        | _,_=>none
       | _,_=>none
      | _,_=>none
     | none=>none
    | none=>none
  else if S.E.own f&&old args then match cV st.m 8 args with
   | some az=>match c f (az.map .v) []with
    | some (rs,m')=>match cV m' 8 rs with
     | some u=>if(result u).scalar||(dw args).isSome then some (.v (result u),st)else none
     | none=>none
    | none=>none
   | none=>none
  else none
 else match cV st.m 8 args with
  | some az=>if now||old args then
   match c f (az.map .v) []with
   | some (rs,m')=>match cV m' 8 rs with
    | some u=>if(result u).scalar||(dw args).isSome then some (.v (result u),st)
     else if now then(rowsOf args).map λds=>(.v (result u),{ st with m:=oN ds st.m })
     else none
    | none=>none
   | none=>none
   else none
  | none=>none
def fe (m:Tb bG) (fr:List Nat) (args:List SV):Bool:=fr.all λd => !(SV.dz d args) && !(r_ d m)
def Ay:K->Bool
 | .p (.build zero _)=>V.cA zero
 | .r (.lookup _ z _)=>z.good
 | .a (.alloc _ zero)=>V.cA zero&&zero.all V.one
 | .a (.makeSl _ zero)=>V.cA zero
 | .a (.buildSl _ _ zero _)=>V.cA zero
 | _=>true
def mb (S:Sys) (c:ck) (dr:Bool) (fr:List Nat) (o:RO) (st:St):Option (SV×St):=
 match bY S.N st.g o.az with
 | some u=>match o.k with
  | .p (.slice size z B)=>match u with
   | .own d::C=>if dr then none else zW st o.dst size z B d C
   | u=>(jy S.N st.m (.slice size z B) u).map λx=>(x,st)
  | .p p=>(jy S.N st.m p u).map λx=>(x,st)
  | .r r=>if !dr||o.now||eM fr u then(mh st.m r u).map λx=>(x,st)else none
  | .a a=>match o.dst with
   | some d=>if st.new d then(mJ st.m a u d).map λ(ob,x)=>(x,{ st with m:=bM st.m d ob })else none
   | none=>none
  | .l l=>if !dr||o.now then mg st o.dst l u else none
  | .c=>match u with
   | .clo f a b::w=>fP S c o.dst dr (!dr||o.now) (fe st.m fr) f (a++w++b) st
   | .v (.clo f a b)::w=>fP S c o.dst dr (!dr||o.now) (fe st.m fr) f (a.map .v++w++b.map .v) st
   | _=>none
  | .b=>if dr then none else match u with
   | [x]=>(iU st.m 1 x).bind λD=>(kU D).map λl=>(.v (.str (lq l)),st)
   | _=>none
  | .e n=>match u with
   | [.v .bK,x]=>mg st o.dst (.append n) [.v .bK,x]
   | [.v .dD,x]=>mg st o.dst (.append n) [.v .dD,x]
   | _=>none
 | none=>none
def dg (st:St) (dst:Option Nat) (x:SV):St:=
 match dst with
 | none=>st
 | some d=>{ st with g:=bM st.g d x }
def wanted (g:Tb SV):Option (Nat×Bool)->Option Bool
 | none=>some true
 | some (s,b)=>match bh g s with
  | some (.v (.bool c))=>some (c==b)
  | some (.v _)=>some false
  | _=>none
def xG (o:RO):Option Nat:=
 match o.k with
 | .p _|.r _=>none
 | _=>o.dst
def qj (fr:List Nat) (o:RO):List Nat:=
 match xG o with
 | some d=>d::fr
 | none=>fr
def bp (H:bl) (id:Nat):Option (Nat×List (List V)):=(H[id]?).bind Ob.rows
mutual
theorem V.ko:∀{x:V},x.good=true->x.closed=true
 | .hsl ..,h|.hptr ..,h|.yld _,h|.hmap _,h=>by simp[V.good]at h
 | .fsl ..,_|.fptr ..,_|.fmap ..,_=>rfl
 | .bool _,_|.int ..,_|.str _,_|.dD,_|.bK,_|.gY,_|.f_,_|.ru,_=>rfl
 | .clo _ a b,h=>by
  simp only[V.good,ζh]at h;simp only[V.closed,ζh];exact⟨V.m_ h.1,V.m_ h.2⟩
 | .agg cs,h=>by simp only[V.good]at h;simp only[V.closed];exact V.m_ h
 | .tup cs,h=>by simp only[V.good]at h;simp only[V.closed];exact V.m_ h
theorem V.m_:∀{l:List V},V.cA l=true->V.kM l=true
 | [],_=>rfl
 | x::r,h=>by
  simp only[V.cA,ζh]at h;simp only[V.kM,ζh];exact⟨V.ko h.1,V.m_ h.2⟩
end
theorem iz:∀{l:List V},V.cA l=true↔∀(j:Nat) u,l[j]? = some u->u.good=true
 | []=>by simp[V.cA]
 | x::l=>by
  simp[V.cA,iz ];constructor
  .grind
  intro h;exact⟨h 0 x rfl,λj u hu=>h (j+1) u Zd⟩
theorem lz:∀{l:List (List V)},V.mG l=true↔∀(j:Nat) u,l[j]? = some u->V.cA u=true
 | []=>by simp[V.mG]
 | x::l=>by
  simp[V.mG,lz ];constructor
  .grind
  intro h;exact⟨h 0 x rfl,λj u hu=>h (j+1) u Zd⟩
theorem Ek:∀{l:List (V×V)},V.rV l=true↔∀(j:Nat) u,l[j]? = some u->u.1.good=true/\u.2.good=true
 | []=>by simp[V.rV]
 | (k,x)::l=>by
  simp only[V.rV,ζh,Ek ];constructor
  .grind
  intro h;exact⟨h 0 (k,x) rfl,λj u hu=>h (j+1) u Zd⟩
theorem xL {l:List V} (n:Nat) (h:V.cA l=true):V.cA (l.drop n)=true:=
 iz.2 λj u hu=>iz.1 h (n+j) u Zd
inductive FR (H:bl) (Z:Nat->Prop):V->V->Prop
 | same (x:V) (h:x.good=true):FR H Z x x
 | fsl (es:Nat) (xs:List (List V)) (id off:Nat) (ys:List (List V)) (hz:Z id) (hr:bp H id=some (es,ys)) (hl:off+xs.length<=ys.length)
  (hc:∀(i:Nat) a b,xs[i]? = some a->ys[off+i]? = some b->a.length=b.length)
  (hv:∀(i j:Nat) a b u v,xs[i]? = some a->ys[off+i]? = some b->a[j]? = some u->b[j]? = some v->FR H Z u v):FR H Z (.fsl es xs) (.hsl id es off xs.length)
 | fptr (xs:List V) (id el off es:Nat) (ys:List (List V)) (cs:List V) (hz:Z id) (hr:bp H id=some (es,ys)) (he:ys[el]? = some cs) (ho:off<=cs.length) (hx:xs.length=cs.length-off)
  (hv:∀(j:Nat) u v,xs[j]? = some u->cs[off+j]? = some v->FR H Z u v):FR H Z (.fptr xs) (.hptr id el off)
 | clo (f:FuncId) (a b a' b':List V) (ha:a.length=a'.length) (hb:b.length=b'.length) (hva:∀(j:Nat) u v,a[j]? = some u->a'[j]? = some v->FR H Z u v) (hvb:∀(j:Nat) u v,b[j]? = some u->b'[j]? = some v->FR H Z u v):FR H Z (.clo f a b) (.clo f a' b')
 | agg (a a':List V) (ha:a.length=a'.length) (hva:∀(j:Nat) u v,a[j]? = some u->a'[j]? = some v->FR H Z u v):FR H Z (.agg a) (.agg a')
 | tup (a a':List V) (ha:a.length=a'.length) (hva:∀(j:Nat) u v,a[j]? = some u->a'[j]? = some v->FR H Z u v):FR H Z (.tup a) (.tup a')
def dm (H:bl) (Z:Nat->Prop) (xs ys:List V):Prop:=xs.length=ys.length/\∀(j:Nat) u v,xs[j]? = some u->ys[j]? = some v->FR H Z u v
def ga (H:bl) (Z:Nat->Prop) (xs ys:List (List V)):Prop:=xs.length=ys.length/\∀(j:Nat) u v,xs[j]? = some u->ys[j]? = some v->dm H Z u v
section
variable {H H':bl} {Z Z':Nat->Prop}
theorem FR.mono (h:∀id,Z id->Z' id/\bp H' id=bp H id) {x y:V} (r:FR H Z x y):FR H' Z' x y:=by
 induction r with
 | same x h=>exact .same x h
 | fsl es B id off C D hr J hc hv G=>exact .fsl es B id off C (h id D).1 Zd J hc G
 | fptr B id el off es C L D hr O Q S hv G=>exact .fptr B id el off es C L (h id D).1 Zd O Q S G
 | clo f a b w T z U hva W u I=>exact .clo f a b w T z U u I
 | agg a w z hva u=>exact .agg a w z u
 | tup a w z hva u=>exact .tup a w z u
theorem dm.mono (h:∀id,Z id->Z' id/\bp H' id=bp H id) {x y:List V} (r:dm H Z x y):dm H' Z' x y:=⟨r.1,λj u v a b=>(r.2 j u v a b).mono h⟩
theorem ga.mono (h:∀id,Z id->Z' id/\bp H' id=bp H id) {x y:List (List V)} (r:ga H Z x y):ga H' Z' x y:=⟨r.1,λj u v a b=>(r.2 j u v a b).mono h⟩
theorem dm.nil:dm H Z [] []:=⟨rfl,by simp⟩
theorem dm.cons {x y:V} {xs ys:List V} (h:FR H Z x y) (r:dm H Z xs ys):dm H Z (x::xs) (y::ys):=by
 refine⟨by simp[r.1],λj u v hu hv=>?_⟩
 cases j with
 | zero=>grind
 | succ j=>exact r.2 j u v Zd Zd
theorem dm.inv {x:V} {xs B:List V} (r:dm H Z (x::xs) B):∃y ys,B=y::ys/\FR H Z x y/\dm H Z xs ys:=by
 cases B with
 | nil=>have:=r.1;grind
 | cons y ys=>
  refine⟨y,ys,rfl,r.2 0 x y rfl rfl,by have:=r.1;grind,λj u v hu hv=>r.2 (j+1) u v Zd Zd⟩
theorem dm.cW {B:List V} (r:dm H Z [] B):B=[]:=by
 have:=r.1
 grind
theorem dm.get {xs ys:List V} (r:dm H Z xs ys) {j:Nat} {u:V} (h:xs[j]? = some u):∃v,ys[j]? = some v/\FR H Z u v:=by
 have w  := (ζe.1 h).1;have:j<ys.length:=by rw[<-r.1];omega
 exact⟨ys[j],ζd this,r.2 j u _ h (ζd this)⟩
theorem ga.get {xs ys:List (List V)} (r:ga H Z xs ys) {j:Nat} {u:List V} (h:xs[j]? = some u):∃v,ys[j]? = some v/\dm H Z u v:=by
 have w  := (ζe.1 h).1;have:j<ys.length:=by rw[<-r.1];omega
 exact⟨ys[j],ζd this,r.2 j u _ h (ζd this)⟩
theorem dm.append {a b c d:List V} (h:dm H Z a b) (k:dm H Z c d):dm H Z (a++c) (b++d):=by
 refine⟨by simp[h.1,k.1],λj u v hu hv=>?_⟩
 by_cases w:j<a.length
 .rw[List.getElem?_append_left w]at hu;rw[List.getElem?_append_left (by rw[<-h.1];omega)]at hv
  exact h.2 j u v hu hv
 rw[List.getElem?_append_right Za]at hu
 rw[List.getElem?_append_right (by rw[<-h.1];omega),<-h.1]at hv
 exact k.2 _ u v hu hv
theorem ga.append {a b c d:List (List V)} (h:ga H Z a b) (k:ga H Z c d):ga H Z (a++c) (b++d):=by
 refine⟨by simp[h.1,k.1],λj u v hu hv=>?_⟩
 by_cases w:j<a.length
 .rw[List.getElem?_append_left w]at hu;rw[List.getElem?_append_left (by rw[<-h.1];omega)]at hv
  exact h.2 j u v hu hv
 rw[List.getElem?_append_right Za]at hu
 rw[List.getElem?_append_right (by rw[<-h.1];omega),<-h.1]at hv
 exact k.2 _ u v hu hv
theorem dm.take {a b:List V} (h:dm H Z a b) (n:Nat):dm H Z (a.take n) (b.take n):=by
 refine⟨by simp[h.1],λj u v hu hv=>?_⟩
 rw[List.getElem?_take]at hu hv;split at hu
 next w=>rw[if_pos w]at hv;exact h.2 j u v hu hv
 grind
theorem dm.drop {a b:List V} (h:dm H Z a b) (n:Nat):dm H Z (a.drop n) (b.drop n):=by
 refine⟨by simp[h.1],λj u v hu hv=>?_⟩
 rw[List.getElem?_drop]at hu hv;exact h.2 _ u v hu hv
theorem ga.take {a b:List (List V)} (h:ga H Z a b) (n:Nat):ga H Z (a.take n) (b.take n):=by
 refine⟨by simp[h.1],λj u v hu hv=>?_⟩
 rw[List.getElem?_take]at hu hv;split at hu
 next w=>rw[if_pos w]at hv;exact h.2 j u v hu hv
 grind
theorem ga.drop {a b:List (List V)} (h:ga H Z a b) (n:Nat):ga H Z (a.drop n) (b.drop n):=by
 refine⟨by simp[h.1],λj u v hu hv=>?_⟩
 rw[List.getElem?_drop]at hu hv;exact h.2 _ u v hu hv
theorem dm.set {a b:List V} (h:dm H Z a b) (n:Nat) {x y:V} (B:FR H Z x y):dm H Z (a.set n x) (b.set n y):=by
 refine⟨by simp[h.1],λj u v hu hv=>?_⟩
 rw[List.getElem?_set]at hu hv;split at hu
 .grind
 rename_i e;rw[if_neg e]at hv;exact h.2 j u v hu hv
theorem ga.set {a b:List (List V)} (h:ga H Z a b) (n:Nat) {x y:List V} (B:dm H Z x y):ga H Z (a.set n x) (b.set n y):=by
 refine⟨by simp[h.1],λj u v hu hv=>?_⟩
 rw[List.getElem?_set]at hu hv;split at hu
 .grind
 rename_i e;rw[if_neg e]at hv;exact h.2 j u v hu hv
theorem dm.same {l:List V} (h:V.cA l=true):dm H Z l l:=
 ⟨rfl,λj u v hu hv=>by rw[hu]at hv;cases hv;exact .same u (iz.1 h j u hu)⟩
theorem FR.good {x y:V} (r:FR H Z x y):x.good=true:=by
 induction r with
 | same x h=>omega
 | fsl es C id off D G hr O hc hv I=>
  refine lz.2 λi a z=>iz.2 λj u hu=>?_
  grind
 | fptr C id el off es D Q G hr S T U hv I=>
  refine iz.2 λj u hu=>?_
  grind
 | clo f a b B W z X hva J w L=>
  simp[V.good];refine⟨iz.2 λj u hu=>?_,iz.2 λj u hu=>?_⟩
  .grind
  grind
 | agg a B z hva w=>
  refine iz.2 λj u hu=>?_
  grind
 | tup a B z hva w=>
  simp[V.good];refine iz.2 λj u hu=>?_
  grind
theorem FR.closed {x y:V} (r:FR H Z x y):x.closed=true:=V.ko r.good
theorem dm.good {xs ys:List V} (r:dm H Z xs ys):V.cA xs=true:=
 iz.2 λj u hu=>by obtain⟨v,_,h⟩:=r.get hu;exact h.good
theorem ga.good {xs ys:List (List V)} (r:ga H Z xs ys):V.mG xs=true:=
 lz.2 λj u hu=>by obtain⟨v,_,h⟩:=r.get hu;exact h.good
theorem FR.bool {b:Bool} {y:V} (r:FR H Z (.bool b) y):y=.bool b:=by cases r;rfl
theorem FR.int {k:IntKind} {n:Int} {y:V} (r:FR H Z (.int k n) y):y=.int k n:=by cases r;rfl
theorem FR.str {s:ByteArray} {y:V} (r:FR H Z (.str s) y):y=.str s:=by cases r;rfl
theorem FR.dD {y:V} (r:FR H Z .dD y):y=.dD:=by cases r;rfl
theorem FR.bK {y:V} (r:FR H Z .bK y):y=.bK:=by cases r;rfl
theorem FR.gY {y:V} (r:FR H Z .gY y):y=.gY:=by cases r;rfl
theorem FR.f_ {y:V} (r:FR H Z .f_ y):y=.f_:=by cases r;rfl
theorem FR.ru {y:V} (r:FR H Z .ru y):y=.ru:=by cases r;rfl
theorem FR.fmap {B:List (V×V)} {y:V} (r:FR H Z (.fmap B) y):y=.fmap B:=by cases r;rfl
theorem FR.iF {a:List V} {y:V} (r:FR H Z (.agg a) y):∃a',y=.agg a'/\dm H Z a a':=by
 cases r with
 | same _ h=>exact⟨a,rfl,.same (by simpa [V.good]using h)⟩
 | agg _ a' u hva=>exact⟨a',rfl,u,hva⟩
theorem FR.pU {a:List V} {y:V} (r:FR H Z (.tup a) y):∃a',y=.tup a'/\dm H Z a a':=by
 cases r with
 | same _ h=>exact⟨a,rfl,.same (by simpa [V.good]using h)⟩
 | tup _ a' u hva=>exact⟨a',rfl,u,hva⟩
theorem FR.jT {f:FuncId} {a b:List V} {y:V} (r:FR H Z (.clo f a b) y):∃a' B,y=.clo f a' B/\dm H Z a a'/\dm H Z b B:=by
 cases r with
 | same _ h=>
  simp[V.good]at h;exact⟨a,b,rfl,.same h.1,.same h.2⟩
 | clo _ _ _ a' B w z hva u=>exact⟨a',B,rfl,⟨w,hva⟩,⟨z,u⟩⟩
theorem FR.lS {es:Nat} {xs:List (List V)} {y:V} (r:FR H Z (.fsl es xs) y):y=.fsl es xs \/
 ∃id off ys,y=.hsl id es off xs.length/\Z id/\bp H id=some (es,ys)/\off+xs.length<=ys.length/\ga H Z xs ((ys.drop off).take xs.length):=by
 cases r with
 | same _ h=>grind
 | fsl _ _ id off ys z hr B hc hv=>
  refine .inr ⟨id,off,ys,rfl,z,hr,B,by simp;omega,λj u v hu w=>?_⟩
  have C  := (ζe.1 hu).1;rw[List.getElem?_take,if_pos C,List.getElem?_drop]at w;exact⟨hc j u v hu w,λi s t D G=>hv j i u v s t hu w D G⟩
theorem FR.KL {es:Nat} {xs:List (List V)} {id off:Nat} {ys:List (List V)} (B:Z id) (hr:bp H id=some (es,ys)) (D:off+xs.length<=ys.length) (h:ga H Z xs ((ys.drop off).take xs.length)) :
 FR H Z (.fsl es xs) (.hsl id es off xs.length):=by
 have key:∀(i:Nat) a b,xs[i]? = some a->ys[off+i]? = some b->dm H Z a b:=λi a b w z=>by
  refine h.2 i a b w ?_
  grind
 exact .fsl es xs id off ys B hr D (λi a b w z=>(key i a b w z).1) (λi j a b u v w z hu hv=>(key i a b w z).2 j u v hu hv)
theorem FR.lW {xs:List V} {y:V} (r:FR H Z (.fptr xs) y):y=.fptr xs \/
 ∃id el off es ys cs,y=.hptr id el off/\Z id/\bp H id=some (es,ys)/\ys[el]? = some cs/\off<=cs.length/\dm H Z xs (cs.drop off):=by
 cases r with
 | same _ h=>grind
 | fptr _ id el off es ys cs w hr z B D hv=>
  refine .inr ⟨id,el,off,es,ys,cs,rfl,w,hr,z,B,by simp_all,λj u v hu C=>?_⟩
  grind
theorem FR.BZ {xs:List V} {id el off es:Nat} {ys:List (List V)} {cs:List V} (B:Z id) (hr:bp H id=some (es,ys)) (D:ys[el]? = some cs) (G:off<=cs.length) (h:dm H Z xs (cs.drop off)):FR H Z (.fptr xs) (.hptr id el off):=
 .fptr xs id el off es ys cs B hr D G (by have:=h.1;grind) (λj u v hu hv=>h.2 j u v hu Zd)
theorem FR.cells {x y:V} (r:FR H Z x y):dm H Z x.cells y.cells:=by
 have one:∀{a b:V},FR H Z a b->dm H Z [a] [b]:=λh=>.cons h .nil
 cases r with
 | same _ h=>cases x <;> first|exact one (.same _ h)|(exact dm.same h)
 | fsl es z id off B C hr G hc hv=>exact one (.fsl es z id off B C hr G hc hv)
 | fptr z id el off es B I C hr J L O hv=>exact one (.fptr z id el off es B I C hr J L O hv)
 | clo f a b w Q u S hva D=>exact one (.clo f a b w Q u S hva D)
 | agg a w u hva=>exact⟨u,hva⟩
 | tup a w u hva=>exact one (.tup a w u hva)
theorem FR.one {x y:V} (r:FR H Z x y):y.one=x.one:=by cases r <;> rfl
theorem dm.one:∀{xs ys:List V},dm H Z xs ys->ys.all V.one=xs.all V.one
 | [],ys,r=>by rw[r.cW]
 | x::xs,D,r=>by
  obtain⟨y,ys,rfl,h,B⟩:=r.inv;simp[h.one,B.one]
theorem qu:∀{l:List V},V.cO l=true↔∀(j:Nat) u,l[j]? = some u->u.scalar=true
 | []=>by simp[V.cO]
 | x::l=>by
  simp[V.cO,qu ];constructor
  .grind
  intro h;exact⟨h 0 x rfl,λj u hu=>h (j+1) u Zd⟩
theorem FR.scalar {x y:V} (r:FR H Z x y):(x.scalar=true->y=x)/\y.scalar=x.scalar:=by
 have key:∀(a w:List V),a.length=w.length->(∀(j:Nat) u v,a[j]? = some u->w[j]? = some v->(u.scalar=true->v=u)/\v.scalar=u.scalar)->(V.cO a=true->w=a)/\V.cO w=V.cO a:=by
  intro a w B G;have h1:V.cO a=true->w=a:=by
   intro I;refine(List.ext_getElem B λj h1 C=>?_).symm
   exact(((G j _ _ (ζd h1) (ζd C)).1 (qu.1 I j _ (ζd h1)))).symm
  refine⟨h1,?_⟩
  cases I:V.cO a with
  | true=>grind
  | false=>
   cases D:V.cO w with
   | false=>rfl
   | true=>
    have:V.cO a=true:=qu.2 λj u hu=>by
     have J:j<w.length:=by grind
     have:=(G j u _ hu (ζd J)).2;rw[<-this];exact qu.1 D j _ (ζd J)
    grind
 induction r with
 | same x h=>grind
 | fsl=>exact⟨λh=>by simp[V.scalar]at h,rfl⟩
 | fptr=>exact⟨λh=>by simp[V.scalar]at h,rfl⟩
 | clo=>exact⟨λh=>by simp[V.scalar]at h,rfl⟩
 | agg a w B hva z=>
  obtain⟨h1,C⟩:=key a w B z;exact⟨λh=>by rw[h1 (by simpa [V.scalar]using h)],by simpa [V.scalar]using C⟩
 | tup a w B hva z=>
  obtain⟨h1,C⟩:=key a w B z;exact⟨λh=>by rw[h1 (by simpa [V.scalar]using h)],by simpa [V.scalar]using C⟩
theorem dm.scalar {a a':List V} (r:dm H Z a a'):(V.cO a=true->a'=a)/\V.cO a'=V.cO a:=by
 obtain⟨h1,u⟩:=FR.scalar (.tup a a' r.1 r.2);simp[V.scalar]at h1 u
 grind
theorem qE:∀{l:List V} {a:List Int},iA l=some a->V.cO l=true
 | [],_,_=>rfl
 | x::l,a,h=>by
  unfold iA at h;split at h
  .grind
  next n r e=>cases e;obtain⟨b,B,_⟩:=ζf.1 h;simp[V.cO,V.scalar];exact qE B
  grind
end
mutual
theorem kq:∀{x:V},x.scalar=true->x.good=true
 | .bool _,_|.int ..,_|.str _,_|.gY,_|.f_,_|.ru,_|.dD,_|.bK,_=>rfl
 | .agg cs,h=>by simp only[V.scalar]at h;simp only[V.good];exact pF h
 | .tup cs,h=>by simp only[V.scalar]at h;simp only[V.good];exact pF h
 | .fsl ..,h|.hsl ..,h|.fptr ..,h|.hptr ..,h|.clo ..,h|.yld _,h|.fmap _,h|.hmap _,h=>by simp[V.scalar]at h
theorem pF:∀{l:List V},V.cO l=true->V.cA l=true
 | [],_=>rfl
 | x::r,h=>by
  simp only[V.cO,ζh]at h;simp only[V.cA,ζh];exact⟨kq h.1,pF h.2⟩
end
section
variable {H H':bl} {Z Z':Nat->Prop}
theorem j8 {f:V->Option V}:∀{xs ys:List V},xs.length=ys.length->(∀(j:Nat) u v,xs[j]? = some u->ys[j]? = some v->f v=some u)->hG f ys=some xs
 | [],[],_,_=>rfl
 | [],y::ys,h,_=>by simp_all
 | x::xs,[],h,_=>by simp_all
 | x::xs,y::ys,h,B=>by
  simp[hG,B 0 x y rfl rfl,j8 (xs:=xs) (ys:=ys) Zd λj u v hu hv=>B (j+1) u v Zd Zd]
theorem Ht {f:V->Option V}:∀{xs ys:List (List V)},xs.length=ys.length->(∀(j:Nat) u v,xs[j]? = some u->ys[j]? = some v->hG f v=some u)->lp f ys=some xs
 | [],[],_,_=>rfl
 | [],y::ys,h,_=>by simp_all
 | x::xs,[],h,_=>by simp_all
 | x::xs,y::ys,h,B=>by
  simp[lp,B 0 x y rfl rfl,Ht (xs:=xs) (ys:=ys) Zd λj u v hu hv=>B (j+1) u v Zd Zd]
theorem oC:∀{l:List V},V.kM l=true↔∀(j:Nat) u,l[j]? = some u->u.closed=true
 | []=>by simp[V.kM]
 | x::l=>by
  simp[V.kM,oC ];constructor
  .grind
  intro h;exact⟨h 0 x rfl,λj u hu=>h (j+1) u Zd⟩
theorem l8:∀{l:List V} {n:Nat},V.kQ n l=true↔∀(j:Nat) u,l[j]? = some u->u.lvl n=true
 | [],n=>by simp[V.kQ]
 | x::l,n=>by
  simp[V.kQ,l8 ];constructor
  .grind
  intro h;exact⟨h 0 x rfl,λj u hu=>h (j+1) u Zd⟩
theorem Eu:∀{l:List (List V)} {n:Nat},V.oJ n l=true↔∀(j:Nat) u,l[j]? = some u->V.kQ n u=true
 | [],n=>by simp[V.oJ]
 | x::l,n=>by
  simp[V.oJ,Eu ];constructor
  .grind
  intro h;exact⟨h 0 x rfl,λj u hu=>h (j+1) u Zd⟩
theorem eA (n:Nat) (H:bl) {x:V} (h:x.closed=true):borrow n H x=some x:=jW n H h
theorem FR.borrow {x y:V} (r:FR H Z x y):∀n,x.lvl n=true->borrow n H y=some x:=by
 induction r with
 | same x h=>exact λn _=>eA n H (V.ko h)
 | fsl es J id off U W hr X hc hv L=>
  intro n z
  cases n with
  | zero=>simp[V.lvl]at z
  | succ n=>
   unfold Go.VE.borrow;unfold bp at hr;simp only[V.closed,Bool.false_eq_true,if_false,hr,true_and,if_pos X,ζf];refine⟨J,Ht (by simp;omega) λj u v hu B=>?_,rfl⟩
   have Y  := (ζe.1 hu).1;rw[List.getElem?_take,if_pos Y,List.getElem?_drop]at B;refine j8 (hc j u v hu B) λi s t Q ht=>L j i u v s t hu B Q ht n (l8.1 (Eu.1 z j u hu) i s Q)
 | fptr J id el off es U cs W hr he ho hx hv L=>
  intro n z
  cases n with
  | zero=>simp[V.lvl]at z
  | succ n=>
   unfold Go.VE.borrow;unfold bp at hr;simp only[V.closed,Bool.false_eq_true,if_false,hr,he,if_pos ho,ζf];refine⟨J,j8 (by simp_all) λj u v hu B=>?_,rfl⟩
   rw[List.getElem?_drop]at B;exact L j u v hu B n (l8.1 z j u hu)
 | clo f a b D S G T hva aa C I=>
  intro n z
  cases n with
  | zero=>simp[V.lvl]at z
  | succ n=>
   simp[V.lvl]at z
   by_cases w:(V.clo f D S).closed=true
   .rw[eA _ _ w];simp[V.closed]at w;have e1:D=a:=by
     have:=j8  G λj u v hu hv=>C j u v hu hv n (l8.1 z.1 j u hu)
     have O:=j8    rfl λj u v hu hv=>by rw[hu]at hv;cases hv;exact eA n H (oC.1 w.1 j u hu)
     grind
    have e2:S=b:=by
     have:=j8  T λj u v hu hv=>I j u v hu hv n (l8.1 z.2 j u hu)
     have O:=j8    rfl λj u v hu hv=>by rw[hu]at hv;cases hv;exact eA n H (oC.1 w.2 j u hu)
     grind
    simp_all
   unfold Go.VE.borrow;rw[if_neg w];simp[j8  G λj u v hu hv=>C j u v hu hv n (l8.1 z.1 j u hu),j8  T λj u v hu hv=>I j u v hu hv n (l8.1 z.2 j u hu)]
 | agg a D G hva C=>
  intro n z
  cases n with
  | zero=>simp[V.lvl]at z
  | succ n=>
   have hm:=j8  G λj u v hu hv=>C j u v hu hv n (l8.1 z j u hu)
   by_cases w:(V.agg D).closed=true
   .rw[eA _ _ w];have O:=j8    rfl λj u v hu hv=>by rw[hu]at hv;cases hv;exact eA n H (oC.1 w j u hu)
    grind
   unfold Go.VE.borrow
   grind
 | tup a D G hva C=>
  intro n z
  cases n with
  | zero=>simp[V.lvl]at z
  | succ n=>
   have hm:=j8  G λj u v hu hv=>C j u v hu hv n (l8.1 z j u hu)
   by_cases w:(V.tup D).closed=true
   .rw[eA _ _ w];have O:=j8    rfl λj u v hu hv=>by rw[hu]at hv;cases hv;exact eA n H (oC.1 w j u hu)
    grind
   unfold Go.VE.borrow
   grind
theorem pH {f:V->List Nat} {k:Nat}:∀{l:List V},k∈cT f l->∃(j:Nat) (u:V),l[j]? = some u/\k∈f u
 | [],h=>by simp[cT]at h
 | x::l,h=>by
  simp[cT]at h;rcases h with h|h
  .exact⟨0,x,rfl,h⟩
  obtain⟨j,u,hu,hk⟩:=pH h;exact⟨j+1,u,by grind,hk⟩
structure Deep (H:bl) (Z:Nat->Prop):Prop where
 row:∀id es ys,Z id->bp H id=some (es,ys)->∀c∈ys,∀u∈c,∃x,FR H Z x u
theorem FR.cm (J:Deep H Z):∀(n:Nat) {x y:V},FR H Z x y->∀k∈cm n H y,Z k
 | 0,x,y,r,k,hk=>by simp[Go.VE.cm]at hk
 | n+1,x,y,r,k,hk=>by
  unfold Go.VE.cm at hk;split at hk
  .simp_all
  rename_i O;have G:∀(a a':List V),dm H Z a a'->k∈cT (Go.VE.cm n H) a'->Z k:=λa a' h hk=>by
   obtain⟨j,u,hu,z⟩:=pH hk;have T:j<a.length:=by rw[h.1];grind
   exact FR.cm J n (h.2 j _ u (ζd T) hu) k z
  have row:∀(id:Nat) es w (l:List V),Z id->bp H id=some (es,w)->(∀u∈l,∃c∈w,u∈c)->k∈cT (Go.VE.cm n H) l->Z k:=λid es w l B hr L hk=>by
   obtain⟨j,u,hu,z⟩:=pH hk;obtain⟨c,hc,C⟩:=L u (List.mem_of_getElem? hu);obtain⟨x,Q⟩:=J.row id es w B hr c hc u C;exact FR.cm J n Q k z
  cases r with
  | same _ h=>exact absurd (V.ko h) O
  | fsl es U id off w B hr L hc hv=>
   simp only[List.mem_cons]at hk;rcases hk with rfl|hk
   .exact B
   rw[show (H[id]?).bind Ob.rows=some (es,w)from hr]at hk;exact row id es w _ B hr (λu hu=>by obtain⟨c,hc,C⟩:=List.mem_flatten.1 hu;exact⟨c,List.mem_of_mem_drop (List.mem_of_mem_take hc),C⟩) hk
  | fptr U id el off es w W B hr S ho Q hv=>
   simp only[List.mem_cons]at hk;rcases hk with rfl|hk
   .exact B
   rw[show (H[id]?).bind Ob.rows=some (es,w)from hr]at hk;simp only[S,Option.getD_some]at hk;exact row id es w _ B hr (λu hu=>⟨W,List.mem_of_getElem? S,List.mem_of_mem_drop hu⟩) hk
  | clo f a b a' X D Y hva I=>
   simp  at hk;rcases hk with hk|hk
   .exact G a a' ⟨D,hva⟩ hk
   exact G b X ⟨Y,I⟩ hk
  | agg a a' D hva=>exact G a a' ⟨D,hva⟩ hk
  | tup a a' D hva=>exact G a a' ⟨D,hva⟩ hk
theorem dm.cut {cs ys r:List V} {off n:Nat} (h:dm H Z cs ys) (hc:cut cs off n=some r):∃B,Go.VE.cut ys off n=some B/\dm H Z r B:=by
 unfold Go.VE.cut at hc ⊢;have u:=(h.drop off).take n;dsimp only at hc ⊢;split at hc
 .simp  at hc;subst hc;exact⟨_,by rw[if_pos (by rw[<-u.1];omega)],u⟩
 grind
theorem dm.mk {agg:Bool} {cs ys:List V} {x:V} (h:dm H Z cs ys) (B:mk agg cs=some x):∃y,Go.VE.mk agg ys=some y/\FR H Z x y:=by
 unfold Go.VE.mk at B ⊢;split at B
 .simp  at B;subst B;exact⟨_,by grind,.agg _ _ h.1 h.2⟩
 split at B
 .simp  at B;obtain⟨y,ys,rfl,h1,u⟩:=h.inv;rw[u.cW]
  grind
 grind
theorem dm.fill:∀{pl:List (Nat×Nat)} {vs B cells cells' r:List V},dm H Z cells cells'->dm H Z vs B->kz cells pl vs=some r->∃D,kz cells' pl B=some D/\dm H Z r D
 | [],vs,B,cells,cells',r,hc,hv,h=>by
  cases vs with
  | nil=>rw[hv.cW];simp[kz]at h ⊢;grind
  | cons v vs=>simp[kz]at h
 | (off,size)::pl,vs,B,cells,cells',r,hc,hv,h=>by
  cases vs with
  | nil=>simp[kz]at h
  | cons v vs=>
   obtain⟨w,B,rfl,h1,G⟩:=hv.inv;have k:=h1.cells;simp only[kz]at h ⊢;rw[<-k.1,<-hc.1];split at h
   .simp_all
   rename_i e;rw[if_neg e];exact dm.fill (((hc.take off).append k).append (hc.drop _)) G h
theorem FR.tZ {k:KT} {x y G J:V} {b:Bool} (B:FR H Z x G) (D:FR H Z y J) (h:ox k x y=some b):ox k G J=some b:=by
 unfold ox at h;split at h
 .rw[B.bK,D.bK];exact h
 .rw[D.bK];rcases B.lS with rfl|⟨_,_,_,rfl,_⟩ <;> exact h
 .exact absurd B.closed (by simp[V.closed])
 .rw[B.gY,D.gY];exact h
 .rw[D.gY];rcases B.lW with rfl|⟨_,_,_,_,_,_,rfl,_⟩ <;> exact h
 .exact absurd B.closed (by simp[V.closed])
 .rw[B.f_,D.f_];exact h
 .rw[D.f_,B.fmap];exact h
 .exact absurd B.closed (by simp[V.closed])
 grind
theorem FR.kJ {a b a' B:List V} {r:Bool} (D:dm H Z a a') (G:dm H Z b B) (h:kJ a b=some r):Go.VE.kJ a' B=some r:=by
 unfold Go.VE.kJ at h;split at h
 .rename_i u v hu hv;rw[D.scalar.1 (qE hu),G.scalar.1 (qE hv)];unfold Go.VE.kJ
  grind
 grind
theorem yT {k:KT} {x y:V} {b:Bool} (h:ox k x y=some b):(y=.bK/\(x=.bK\/(∃es xs,x=.fsl es xs)\/∃id es off len,x=.hsl id es off len)) \/
 (y=.gY/\(x=.gY\/(∃cs,x=.fptr cs)\/∃id el off,x=.hptr id el off))\/(y=.f_/\(x=.f_\/(∃B,x=.fmap B)\/∃id,x=.hmap id)):=by
 unfold ox at h
 grind
theorem HA {k:Option KT} {e:Option Nat} {op:BinOp} {x y:V} (D:(y=.bK/\(x=.bK\/(∃es xs,x=.fsl es xs)\/∃id es off len,x=.hsl id es off len)) \/
 (y=.gY/\(x=.gY\/(∃cs,x=.fptr cs)\/∃id el off,x=.hptr id el off))\/(y=.f_/\(x=.f_\/(∃B,x=.fmap B)\/∃id,x=.hmap id))) :
 gN k e op x y=(match k,op with
 | some k,.eql=>(ox k x y).map .bool
 | some k,.neq=>(ox k x y).map λt=>.bool !t
 | _,_=>none):=by
 rcases D with⟨rfl,rfl|⟨_,_,rfl⟩|⟨_,_,_,_,rfl⟩⟩|⟨rfl,rfl|⟨_,rfl⟩|⟨_,_,_,rfl⟩⟩|⟨rfl,rfl|⟨_,rfl⟩|⟨_,rfl⟩⟩ <;> cases k <;> cases op <;> rfl
theorem HZ {k:Option KT} {e:Option Nat} {op:BinOp} {x y z:V} (h:gN k e op x y=some z):z.good=true:=by
 have w:∀{o:Option Bool} {z:V},o.map V.bool=some z->z.good=true:=λh=>by obtain⟨_,_,rfl⟩:=ζf.1 h;rfl
 have u:∀{o:Option Bool} {z:V},(o.map λt=>V.bool !t)=some z->z.good=true:=λh=>by obtain⟨_,_,rfl⟩:=ζf.1 h;rfl
 unfold gN at h
 (repeat' split at h) <;> first|(simp  at h;subst h;rfl)|exact w h|exact u h|simp at h
theorem FR.bin {k:Option KT} {e:Option Nat} {op:BinOp} {x y G J z:V} (B:FR H Z x G) (D:FR H Z y J) (h:gN k e op x y=some z):gN k e op G J=some z:=by
 have h0:=h;unfold gN at h;split at h
 .rw[B.int,D.int];omega
 .rw[B.str,D.str];omega
 .rw[B.bool,D.bool];omega
 .obtain⟨L,rfl,w⟩:=B.iF;obtain⟨O,rfl,I⟩:=D.iF;split at h
  .split at h
   next C=>obtain⟨r,hr,rfl⟩:=ζf.1 h;simp[gN,<-w.1,C,FR.kJ w I hr]
   grind
  .split at h
   next C=>obtain⟨r,hr,rfl⟩:=ζf.1 h;simp[gN,<-w.1,C,FR.kJ w I hr]
   grind
  grind
 split at h
 .obtain⟨r,hr,rfl⟩:=ζf.1 h;have u:=FR.tZ B D hr;rw[HA (yT u)];grind
 .obtain⟨r,hr,rfl⟩:=ζf.1 h;have u:=FR.tZ B D hr;rw[HA (yT u)];grind
 grind
theorem FR.slice {size:Nat} {x O z:V} {l h:Option Int} (G:FR H Z x O) (D:gO size x l h=some z):∃U,gO size O l h=some U/\FR H Z z U:=by
 have J:∀{n w B:Nat},dU n l h=some (w,B)->B<=n/\w<=B:=by
  intro n w B e;unfold dU at e
  grind
 unfold gO at D;split at D
 .rename_i es L;split at D
  .rename_i Q;obtain⟨⟨w,B⟩,C,rfl⟩:=ζf.1 D;obtain⟨T,Y⟩:=J C;rcases G.lS with rfl|⟨id,off,S,rfl,W,hr,hl,X⟩
   .refine⟨_,by simp[gO,if_pos Q,C],.same _ ?_⟩
    have hg:=G.good;refine lz.2 λj u hu=>?_
    rw[List.getElem?_drop,List.getElem?_take]at hu;split at hu
    .exact lz.1 hg _ u hu
    grind
   refine⟨.hsl id es (off+w) (B-w),by simp[gO,if_pos Q,C],?_⟩
   have I:((L.take B).drop w).length=B-w:=by simp_all
   rw[<-I];refine FR.KL W hr Zd ?_
   have:=(X.take B).drop w;have e:List.drop w (List.take B (List.take L.length (List.drop off S)))=List.take (B-w) (List.drop (off+w) S):=by
    rw[List.take_take,Nat.min_eq_left T,List.drop_take,List.drop_drop]
   grind
  grind
 .exact absurd G.closed (by simp[V.closed])
 .rw[G.dD];obtain⟨_,C,rfl⟩:=ζf.1 D;exact⟨.dD,by simp[gO,C],.same _ rfl⟩
 .rw[G.bK];obtain⟨_,C,rfl⟩:=ζf.1 D;exact⟨.bK,by simp[gO,C],.same _ rfl⟩
 grind
theorem dm.lB {G J:Bool} {O D:List V} {r:Option Int×Option Int} (h:dm H Z O D) (B:lB G J O=some r):Go.VE.lB G J D=some r:=by
 unfold Go.VE.lB at B;split at B
 .rw[h.cW];exact B
 .obtain⟨_,_,rfl,h1,u⟩:=h.inv;rw[h1.int,u.cW];exact B
 .obtain⟨_,_,rfl,h1,u⟩:=h.inv;rw[h1.int,u.cW];exact B
 .obtain⟨_,_,rfl,h1,u⟩:=h.inv;obtain⟨_,_,rfl,w,z⟩:=u.inv;rw[h1.int,w.int,z.cW];exact B
 grind
theorem dm.bn {N:Nat->FuncId} {p:uz} {xs ys:List V} {z:V} (Y:∀zero pl,p=.build zero pl->V.cA zero=true) (h:dm H Z xs ys) (B:bn N p xs=some z):∃O,Go.VE.bn N p ys=some O/\FR H Z z O:=by
 unfold Go.VE.bn at B;split at B
 .
  obtain⟨y,_,rfl,h1,w⟩:=h.inv;rw[w.cW];simp only[ζa]at B;subst B;exact⟨y,rfl,h1⟩
 .
  rename_i t a b;obtain⟨w1,_,rfl,h1,w⟩:=h.inv;obtain⟨w2,_,rfl,C,D⟩:=w.inv;obtain⟨w3,_,rfl,U,W⟩:=D.inv;rw[h1.bool,W.cW];simp only[ζa]at B;subst B;refine⟨if t=true then w2 else w3,rfl,?_⟩;cases t
  .exact U
  exact C
 .
  obtain⟨y,_,rfl,h1,w⟩:=h.inv;rw[w.cW];unfold KR at B;split at B
  .exact absurd h1.closed (by simp[V.closed])
  .simp only[ζa]at B;subst B;rcases h1.lW with rfl|⟨_,_,_,_,_,_,rfl,_⟩
   .exact⟨_,rfl,h1⟩
   exact⟨_,rfl,h1⟩
  .simp only[ζa]at B;subst B;obtain⟨_,_,rfl,_⟩:=h1.jT;exact⟨_,rfl,h1⟩
  simp at B
 .
  obtain⟨_,_,rfl,h1,w⟩:=h.inv;obtain⟨_,_,rfl,C,D⟩:=w.inv;rw[D.cW];exact⟨z,FR.bin h1 C B,.same _ (HZ B)⟩
 .obtain⟨_,_,rfl,h1,w⟩:=h.inv;rw[h1.bool,w.cW];simp only[ζa]at B;subst B;exact⟨_,rfl,.same _ rfl⟩
 .obtain⟨_,_,rfl,h1,w⟩:=h.inv;rw[h1.int,w.cW];simp only[ζa]at B;subst B;exact⟨_,rfl,.same _ rfl⟩
 .obtain⟨_,_,rfl,h1,w⟩:=h.inv;rw[h1.int,w.cW];simp only[ζa]at B;subst B;exact⟨_,rfl,.same _ rfl⟩
 .
  rename_i off p;obtain⟨y,_,rfl,h1,w⟩:=h.inv;rw[w.cW];unfold gT at B;split at B
  .split at B
   .rename_i cs ho;simp only[ζa]at B;subst B;rcases h1.lW with rfl|⟨id,el,o,es,ys,ds,rfl,X,hr,T,aa,S⟩
    .have hg:=h1.good;simp only[V.good]at hg;exact⟨_,by simp only[Go.VE.bn,gT,if_pos ho],.same _ (by simp only[V.good];exact xL _ hg)⟩
    refine⟨.hptr id el (o+off),rfl,FR.BZ X hr T (by have:=S.1;simp at this;omega) ?_⟩
    have:=S.drop off;rw[List.drop_drop]at this;exact this
   simp at B
  .exact absurd h1.closed (by simp[V.closed])
  simp at B
 .
  rename_i off size agg cs;obtain⟨y,_,rfl,h1,w⟩:=h.inv;rw[w.cW];obtain⟨ab,rfl,hc⟩:=h1.iF;obtain⟨r,hr,hm⟩:=ζg.1 B;obtain⟨r',L,J⟩:=hc.cut hr;obtain⟨O,G,I⟩:=J.mk hm;exact⟨O,by simp only[Go.VE.bn,L,ζb,G],I⟩
 .
  rename_i size s k n;obtain⟨y,_,rfl,h1,w⟩:=h.inv;obtain⟨_,_,rfl,C,D⟩:=w.inv;rw[C.int,D.cW];unfold lu at B;split at B
  .simp at B
  rename_i Q;split at B
  .rename_i es xs;split at B
   .rename_i T;obtain⟨c,hc,rfl⟩:=ζf.1 B;rcases h1.lS with rfl|⟨id,off,ys,rfl,X,hr,hl,S⟩
    .have hg:=h1.good;simp only[V.good]at hg;exact⟨_,by simp only[Go.VE.bn,lu,if_neg Q,if_pos T,hc,Option.map_some],.same _ (by simp only[V.good];exact lz.1 hg _ _ hc)⟩
    have hj:n.toNat<xs.length:=(ζe.1 hc).1;obtain⟨d,hd,ad⟩:=S.get hc;rw[List.getElem?_take,if_pos hj,List.getElem?_drop]at hd;exact⟨.hptr id (off+n.toNat) 0,by simp only[Go.VE.bn,lu,if_neg Q,if_pos (And.intro T hj)],FR.BZ X hr hd Zc (by simpa using ad)⟩
   simp at B
  .exact absurd h1.closed (by simp[V.closed])
  simp at B
 .
  rename_i len size s k n;obtain⟨y,_,rfl,h1,w⟩:=h.inv;obtain⟨_,_,rfl,C,D⟩:=w.inv;rw[C.int,D.cW];unfold vS at B;split at B
  .rename_i Q;split at B
   .split at B
    .rename_i cs ho;simp only[ζa]at B;subst B;rcases h1.lW with rfl|⟨id,el,o,es,ys,ds,rfl,X,hr,T,aa,S⟩
     .have hg:=h1.good;simp only[V.good]at hg;exact⟨_,by simp only[Go.VE.bn,vS,if_pos Q,if_pos ho],.same _ (by simp only[V.good];exact xL _ hg)⟩
     refine⟨.hptr id el (o+n.toNat*size),by simp only[Go.VE.bn,vS,if_pos Q],FR.BZ X hr T (by have:=S.1;simp at this;omega) ?_⟩
     have:=S.drop (n.toNat*size);rw[List.drop_drop]at this;exact this
    simp at B
   .exact absurd h1.closed (by simp[V.closed])
   simp at B
  simp at B
 .
  rename_i s k n;obtain⟨y,_,rfl,h1,w⟩:=h.inv;obtain⟨_,_,rfl,C,D⟩:=w.inv;rw[h1.str,C.int,D.cW];split at B
  next Q=>obtain⟨c,hc,rfl⟩:=ζf.1 B;exact⟨_,by simp only[Go.VE.bn,if_pos Q,hc,Option.map_some],.same _ rfl⟩
  simp at B
 .
  rename_i len size agg cs k n;obtain⟨y,_,rfl,h1,w⟩:=h.inv;obtain⟨_,_,rfl,C,D⟩:=w.inv;rw[C.int,D.cW];obtain⟨ab,rfl,hc⟩:=h1.iF;split at B
  next Q=>obtain⟨r,hr,hm⟩:=ζg.1 B;obtain⟨r',L,J⟩:=hc.cut hr;obtain⟨O,G,I⟩:=J.mk hm;exact⟨O,by simp only[Go.VE.bn,if_pos Q,L,ζb,G],I⟩
  simp at B
 .
  rename_i lo hi s bs;obtain⟨y,_,rfl,h1,w⟩:=h.inv;rw[h1.str];obtain⟨⟨l,h'⟩,hb,B⟩:=ζg.1 B;obtain⟨⟨l2,af⟩,ae,rfl⟩:=ζf.1 B;exact⟨_,by simp only[Go.VE.bn,w.lB hb,ζb,ae,Option.map_some],.same _ rfl⟩
 .
  rename_i size lo hi s bs;obtain⟨y,_,rfl,h1,w⟩:=h.inv;obtain⟨⟨l,h'⟩,hb,B⟩:=ζg.1 B;obtain⟨O,G,I⟩:=FR.slice h1 B;exact⟨O,by simp only[Go.VE.bn,w.lB hb,ζb,G],I⟩
 .
  obtain⟨y,_,rfl,h1,w⟩:=h.inv;obtain⟨_,_,rfl,C,D⟩:=w.inv;obtain⟨_,_,rfl,U,W⟩:=D.inv;rw[C.int,U.int,W.cW];split at B
  .rename_i hc;simp only[ζa]at B;subst B;refine⟨.dD,?_,.same _ rfl⟩;simp only[ζh]at hc;have:JH y=true:=by
    have h0:=hc.1.1;unfold JH at h0;split at h0
    .rcases h1.lS with rfl|⟨_,_,_,rfl,_⟩ <;> rfl
    .exact absurd h1.closed (by simp[V.closed])
    .rw[h1.dD];rfl
    .rw[h1.bK];rfl
    simp at h0
   simp only[Go.VE.bn,this,hc.1.2,hc.2,Bool.and_self,if_true]
  simp at B
 .
  rename_i vs zero pl;obtain⟨r,hr,rfl⟩:=ζf.1 B;obtain⟨r',L,J⟩:=dm.fill (dm.same (Y zero pl rfl)) h hr;exact⟨.agg r',by simp only[Go.VE.bn,L,Option.map_some],.agg _ _ J.1 J.2⟩
 .
  rename_i vs name k;simp only[ζa]at B;subst B;exact⟨_,rfl,.clo _ _ _ _ _ (h.take k).1 (h.drop k).1 (h.take k).2 (h.drop k).2⟩
 .
  rename_i i vs;obtain⟨y,_,rfl,h1,w⟩:=h.inv;rw[w.cW];obtain⟨ws,rfl,hw⟩:=h1.pU;obtain⟨O,G,I⟩:=hw.get B;exact⟨O,G,I⟩
 .
  obtain⟨y,_,rfl,h1,w⟩:=h.inv;rw[h1.str,w.cW];simp only[ζa]at B;subst B;exact⟨_,rfl,.same _ rfl⟩
 .
  obtain⟨y,_,rfl,h1,w⟩:=h.inv;rw[w.cW];unfold nG at B;split at B
  .simp only[ζa]at B;subst B;rcases h1.lS with rfl|⟨_,_,_,rfl,_⟩ <;> exact⟨_,rfl,.same _ rfl⟩
  .exact absurd h1.closed (by simp[V.closed])
  .rw[h1.dD];simp only[ζa]at B;subst B;exact⟨_,rfl,.same _ rfl⟩
  .rw[h1.bK];simp only[ζa]at B;subst B;exact⟨_,rfl,.same _ rfl⟩
  simp at B
 .
  obtain⟨y,_,rfl,h1,w⟩:=h.inv;rw[w.cW];unfold GC at B;split at B
  .rw[h1.bK];simp only[ζa]at B;subst B;exact⟨_,rfl,.same _ rfl⟩
  .rw[h1.dD];simp only[ζa]at B;subst B;exact⟨_,rfl,.same _ rfl⟩
  simp at B
 .
  obtain⟨_,_,rfl,h1,w⟩:=h.inv;obtain⟨_,_,rfl,C,D⟩:=w.inv;rw[h1.int,C.int,D.cW];split at B
  next e=>simp only[ζa]at B;subst B;exact⟨_,by simp only[Go.VE.bn,if_pos e],.same _ rfl⟩
  simp at B
 .
  obtain⟨_,_,rfl,h1,w⟩:=h.inv;obtain⟨_,_,rfl,C,D⟩:=w.inv;obtain⟨_,_,rfl,U,W⟩:=D.inv;obtain⟨_,_,rfl,h7,h8⟩:=W.inv;rw[h1.int,C.int,U.int,h7.int,h8.cW];split at B
  next e=>simp only[ζa]at B;subst B;exact⟨_,by simp only[Go.VE.bn,if_pos e],.same _ rfl⟩
  simp at B
 .
  obtain⟨_,_,rfl,h1,w⟩:=h.inv;obtain⟨_,_,rfl,C,D⟩:=w.inv;rw[h1.int,C.int,D.cW];split at B
  next e=>simp only[ζa]at B;subst B;exact⟨_,by simp only[Go.VE.bn,if_pos e],.same _ rfl⟩
  simp at B
 .
  obtain⟨_,_,rfl,h1,w⟩:=h.inv;obtain⟨_,_,rfl,C,D⟩:=w.inv;rw[h1.int,C.int,D.cW];split at B
  .rename_i e;simp only[ζa]at B;subst B;refine⟨_,by simp only[Go.VE.bn,if_pos e],.same _ ?_⟩
   simp only[V.good];refine lz.2 λj u hu=>?_
   have:=List.eq_of_mem_replicate (List.mem_of_getElem? hu);subst this;exact iz.2 λi v hv=>kq (List.all_eq_true.1 e.2.2.2.2.2 v (List.mem_of_getElem? hv))
  simp at B
 .simp only[ζa]at B;subst B;rw[h.cW];exact⟨_,rfl,.same _ rfl⟩
 simp at B
end
def rj (p:Nat×Nat) (k:Fl) (es len:Nat):V:=
 match k with
 | .nil=>.bK
 | .emp=>.dD
 | _=>.hsl p.1 es p.2 len
abbrev Nu:=Nat->Nat×Nat
inductive dc (ν:Nu) (m:Tb bG) (H:bl) (Z:Nat->Prop):SV->V->Prop
 | v (x y:V) (h:FR H Z x y):dc ν m H Z (.v x) y
 | own (d:Nat) (y:V) (h:∀ob,bh m d=some ob->∃k es xs,ob=.sl k es xs/\y=rj (ν d) k es xs.length):dc ν m H Z (.own d) y
 | ptr (d o:Nat) (y:V) (h:∀ob,bh m d=some ob->∃cs,ob=.box cs/\y=.hptr (ν d).1 0 o):dc ν m H Z (.ptr d o) y
 | el (d i o:Nat) (y:V) (h:∀ob,bh m d=some ob->∃k es xs,ob=.sl k es xs/\cN k=true/\y=.hptr (ν d).1 ((ν d).2+i) o):dc ν m H Z (.el d i o) y
 | mp (d:Nat) (y:V) (h:∀ob,bh m d=some ob->∃kvs,ob=.mp kvs/\y=.hmap (ν d).1):dc ν m H Z (.mp d) y
 | clo (f:FuncId) (a b:List SV) (a' b':List V) (ha:a.length=a'.length) (hb:b.length=b'.length)
  (hva:∀(j:Nat) u v,a[j]? = some u->a'[j]? = some v->dc ν m H Z u v) (hvb:∀(j:Nat) u v,b[j]? = some u->b'[j]? = some v->dc ν m H Z u v):dc ν m H Z (.clo f a b) (.clo f a' b')
 | tup (a:List SV) (a':List V) (ha:a.length=a'.length) (hva:∀(j:Nat) u v,a[j]? = some u->a'[j]? = some v->dc ν m H Z u v):dc ν m H Z (.tup a) (.tup a')
 | agg (a:List SV) (a':List V) (ha:a.length=a'.length) (hva:∀(j:Nat) u v,a[j]? = some u->a'[j]? = some v->dc ν m H Z u v):dc ν m H Z (.agg a) (.agg a')
 | yl (id:Nat):dc ν m H Z (.yl id) (.yld id)
def b_ (ν:Nu) (m:Tb bG) (H:bl) (Z:Nat->Prop) (xs:List SV) (ys:List V):Prop:=xs.length=ys.length/\∀(j:Nat) u v,xs[j]? = some u->ys[j]? = some v->dc ν m H Z u v
def cD:bG->Bool
 | .sl k _ _=>cN k
 | _=>true
def fA (ν:Nu) (m:Tb bG) (id:Nat):Prop:=∃d ob,bh m d=some ob/\cD ob=true/\(ν d).1=id
def uO (H:bl) (Z:Nat->Prop) (ys:List (List V)):Prop:=∀c∈ys,∀u∈c,∃x,FR H Z x u
def B6 (H:bl) (Z:Nat->Prop) (a b:List (V×V)):Prop:=a.length=b.length/\∀(j:Nat) u v,a[j]? = some u->b[j]? = some v->(u.1=v.1/\u.1.scalar=true)/\FR H Z u.2 v.2
def d_ (ν:Nu) (m:Tb bG) (H:bl) (Z:Nat->Prop) (d:Nat):bG->Prop
 | .sl k es xs=>if cN k then ∃ys,H[(ν d).1]? = some (.row es ys)/\(ν d).2+xs.length<=ys.length/\ga H Z xs ((ys.drop (ν d).2).take xs.length)/\uO H Z ys/\(k=.row->(ν d).2=0/\ys.length=xs.length)
  else xs=[]
 | .box cs=>∃es D,H[(ν d).1]? = some (.row es [D])/\b_ ν m H Z cs D/\D.all V.one=true
 | .mp G=>∃B,H[(ν d).1]? = some (.map B)/\B6 H Z G B
structure R (ν:Nu) (Z:Nat->Prop) (st:St) (F:Frame) (H:bl):Prop where
 slot:∀s sv,bh st.g s=some sv->dc ν st.m H Z sv (get F s)
 obj:∀d ob,bh st.m d=some ob->d_ ν st.m H Z d ob
 inj:∀d d' ob ob',bh st.m d=some ob->bh st.m d'=some ob'->cD ob=true->cD ob'=true->(ν d).1=(ν d').1->d=d'
 apart:∀d ob,bh st.m d=some ob->cD ob=true->¬Z (ν d).1
 zrow:∀id,Z id->(bp H id).isSome=true
 deep:Deep H Z
def sameShape:bG->bG->Prop
 | .sl k es xs,.sl G B D=>G=k/\B=es/\D.length=xs.length
 | .box _,.box _=>True
 | .mp _,.mp _=>True
 | _,_=>False
theorem sameShape.refl (o:bG):sameShape o o:=by cases o <;> simp[sameShape]
theorem sameShape.trans {a b c:bG} (h:sameShape a b) (k:sameShape b c):sameShape a c:=by
 cases a <;> cases b <;> cases c <;> simp[sameShape]at*<;> simp_all
structure Ev (Rv:Nat->Prop) (ν:Nu) (Z:Nat->Prop) (st:St) (H:bl) (ν':Nu) (Z':Nat->Prop) (st':St) (H':bl):Prop where
 len:H.length<=H'.length
 same:∀id,id<H.length->¬fA ν st.m id->¬Z id->¬Rv id->H'[id]? = H[id]?
 rows:∀id,Z id->Z' id/\bp H' id=bp H id
 own:∀id,fA ν' st'.m id->fA ν st.m id\/Rv id\/H.length<=id
 frz:∀id,Z' id->Z id\/fA ν st.m id\/Rv id\/H.length<=id
 pin:∀d∈st.pin,∀ob',bh st'.m d=some ob'->∃ob,bh st.m d=some ob/\ν' d=ν d/\sameShape ob ob'
 pins:st'.pin=st.pin
section
variable {Rv Rv':Nat->Prop} {ν ν' ν2:Nu} {Z Z' Z2:Nat->Prop} {st st' st2:St} {m m':Tb bG} {F F':Frame} {H H' H2:bl}
theorem Ev.refl:Ev Rv ν Z st H ν Z st H:=
 ⟨Nat.le_refl _,λ_ _ _ _ _=>rfl,λ_ h=>⟨h,rfl⟩,λ_ h=>.inl h,λ_ h=>.inl h,λ_ _ u h=>⟨u,h,rfl,.refl _⟩,rfl⟩
theorem Ev.trans (a:Ev Rv ν Z st H ν' Z' st' H') (b:Ev Rv ν' Z' st' H' ν2 Z2 st2 H2):Ev Rv ν Z st H ν2 Z2 st2 H2 where
 len:=Nat.le_trans a.len b.len
 same:=λid B u C hr=>by
  rw[b.same id (Nat.lt_of_lt_of_le B a.len) (λh=>(a.own id h).elim u λh=>h.elim hr λh=>by omega) (λh=>(a.frz id h).elim C λh=>h.elim u λh=>h.elim hr λh=>by omega) hr,a.same id B u C hr]
 rows:=λid h=>⟨(b.rows id (a.rows id h).1).1,by rw[(b.rows id (a.rows id h).1).2,(a.rows id h).2]⟩
 own:=λid h=>by
  rcases b.own id h with h|h|h
  .exact a.own id h
  .grind
  exact .inr (.inr (Nat.le_trans a.len h))
 frz:=λid h=>by
  rcases b.frz id h with h|h|h|h
  .exact a.frz id h
  .rcases a.own id h with h|h|h
   .grind
   .grind
   grind
  .grind
  exact .inr (.inr (.inr (Nat.le_trans a.len h)))
 pin:=λd D w h=>by
  obtain⟨z,h1,I,G⟩:=b.pin d (by rw[a.pins];omega) w h
  obtain⟨ob,k1,k2,k3⟩:=a.pin d D z h1;exact⟨ob,k1,by simp_all,k3.trans G⟩
 pins:=by rw[b.pins,a.pins]
theorem Ev.weak (h:∀id,Rv id->Rv' id) (a:Ev Rv ν Z st H ν' Z' st' H'):Ev Rv' ν Z st H ν' Z' st' H':=
 ⟨a.len,λid u w z hr=>a.same id u w z (λk=>hr (h id k)),a.rows,λid k=>(a.own id k).imp (λx=>x) (.imp (h id) (λx=>x)),λid k=>(a.frz id k).imp (λx=>x) (.imp (λx=>x) (.imp (h id) (λx=>x))),a.pin,a.pins⟩
theorem cG {α:Type}:∀(g:Tb α) (n:Nat) (v:α),bh (bM g n v) n=some v
 | [],n,v=>by simp[bM,bh]
 | (k,x)::r,n,v=>by
  simp[bM];split
  next h=>simp[bh,h]
  rename_i h;simp[bh,h,cG r n v]
theorem dS {α:Type}:∀(g:Tb α) {n k:Nat} (v:α),n≠k->bh (bM g n v) k=bh g k
 | [],n,k,v,h=>by simp[bM,bh,h]
 | (j,x)::r,n,k,v,h=>by
  simp[bM];split
  next hk=>subst hk;simp[bh,h]
  simp[bh];split
  .rfl
  exact dS r v h
theorem qX {α:Type}:∀{g:Tb α} {n:Nat} {v:α},bh g n=some v->bM g n v=g
 | [],n,v,h=>by cases h
 | (k,x)::r,n,v,h=>by
  simp[bh]at h;simp[bM];split
  .grind
  rename_i e;rw[if_neg e]at h;rw[qX h]
theorem vg {α:Type}:∀(g:Tb α) (n:Nat),bh (eo n g) n=none
 | [],n=>rfl
 | (k,x)::r,n=>by
  simp[eo];split
  .exact vg r n
  rename_i hk;simp[bh];rw[if_neg hk];exact vg r n
theorem vn {α:Type}:∀(g:Tb α) {n k:Nat},n≠k->bh (eo n g) k=bh g k
 | [],n,k,h=>rfl
 | (j,x)::r,n,k,h=>by
  simp[eo];split
  next hk=>subst hk;simp[bh];rw[if_neg h];exact vn r h
  simp[bh];split
  .rfl
  exact vn r h
theorem nQ {α:Type} {g:Tb α} {n k:Nat} {v:α} (h:bh (eo n g) k=some v):n≠k/\bh g k=some v:=by
 by_cases e:n=k
 .subst e;rw[vg]at h;simp_all
 rw[vn g e]at h;grind
theorem nX {α:Type} {k:Nat} {v:α}:∀{ds:List Nat} {g:Tb α},bh (oN ds g) k=some v->bh g k=some v
 | [],_,h=>h
 | d::ds,g,h=>(nQ (nX  h)).2
theorem p8 {α:Type} {g:Tb α} {k:Nat} {v:α}:∀{l:List Nat} {r:Tb α},lC g l=some r->bh r k=some v->bh g k=some v
 | [],r,h,B=>by simp[lC]at h;subst h;simp[bh]at B
 | n::l,r,h,B=>by
  simp[lC]at h;split at h
  .rename_i w t G D;simp  at h;subst h;simp[bh]at B;split at B
   .grind
   exact p8 D B
  grind
theorem xJ {d:Nat}:∀{g:Tb SV} {s:Nat} {sv:SV},uB d g=false->bh g s=some sv->sv.cR d=false
 | [],_,_,_,h=>by simp[bh]at h
 | (k,x)::r,s,sv,h,B=>by
  simp[uB]at h;simp[bh]at B;split at B
  .grind
  exact xJ h.2 B
theorem yb {d:Nat}:∀{g:Tb bG} {s:Nat} {ob:bG},r_ d g=false->bh g s=some ob->ob.cR d=false
 | [],_,_,_,h=>by simp[bh]at h
 | (k,x)::r,s,sv,h,B=>by
  simp[r_]at h;simp[bh]at B;split at B
  .grind
  exact yb h.2 B
theorem sY {d:Nat}:∀{l:List SV} {j:Nat} {u:SV},SV.dz d l=false->l[j]? = some u->u.cR d=false
 | [],_,_,_,h=>by simp_all
 | x::r,j,u,h,B=>by
  simp[SV.dz]at h
  cases j with
  | zero=>grind
  | succ j=>exact sY h.2 (by simpa using B)
theorem qW {d:Nat}:∀{l:List SV} {j:Nat} {u:SV},l[j]? = some u->u.cR d=true->SV.dz d l=true
 | [],_,_,h,_=>by simp_all
 | x::r,j,u,h,B=>by
  simp[SV.dz]
  cases j with
  | zero=>grind
  | succ j=>exact .inr (qW (j:=j) Zd B)
theorem dc.mono {sv:SV} {y:V} (O:∀id,Z id->Z' id/\bp H' id=bp H id)
 (r:dc ν m H Z sv y) (B:∀d,sv.cR d=true->∀ob',bh m' d=some ob'->∃ob,bh m d=some ob/\ν' d=ν d/\sameShape ob ob'):dc ν' m' H' Z' sv y:=by
 induction r with
 | v x y h=>exact .v x y (h.mono O)
 | own d y h=>
  refine .own d y λob' z=>?_
  obtain⟨ob,h1,J,C⟩:=B d (by simp[SV.cR]) ob' z
  obtain⟨k,es,Q,rfl,rfl⟩:=h ob h1;cases ob' <;> simp[sameShape]at C
  grind
 | ptr d o y h=>
  refine .ptr d o y λob' z=>?_
  obtain⟨ob,h1,J,C⟩:=B d (by simp[SV.cR]) ob' z
  obtain⟨S,rfl,rfl⟩:=h ob h1;cases ob' <;> simp[sameShape]at C
  grind
 | el d i o y h=>
  refine .el d i o y λob' z=>?_
  obtain⟨ob,h1,J,C⟩:=B d (by simp[SV.cR]) ob' z
  obtain⟨k,es,Q,rfl,X,rfl⟩:=h ob h1;cases ob' <;> simp[sameShape]at C
  grind
 | mp d y h=>
  refine .mp d y λob' z=>?_
  obtain⟨ob,h1,J,C⟩:=B d (by simp[SV.cR]) ob' z
  obtain⟨S,rfl,rfl⟩:=h ob h1;cases ob' <;> simp[sameShape]at C
  grind
 | clo f a b G T I U hva W w L=>
  exact .clo f a b G T I U (λj u v hu hv=>w j u v hu hv λd D=>B d (by simp[SV.cR,qW hu D])) (λj u v hu hv=>L j u v hu hv λd D=>B d (by simp[SV.cR,qW hu D]))
 | tup a G I hva w=>
  exact .tup a G I (λj u v hu hv=>w j u v hu hv λd D=>B d (by simp[SV.cR,qW hu D]))
 | agg a G I hva w=>
  exact .agg a G I (λj u v hu hv=>w j u v hu hv λd D=>B d (by simp[SV.cR,qW hu D]))
 | yl id=>exact .yl id
theorem b_.mono {sv:List SV} {y:List V} (B:∀id,Z id->Z' id/\bp H' id=bp H id)
 (r:b_ ν m H Z sv y) (D:∀d,SV.dz d sv=true->∀ob',bh m' d=some ob'->∃ob,bh m d=some ob/\ν' d=ν d/\sameShape ob ob'):b_ ν' m' H' Z' sv y:=
 ⟨r.1,λj u v hu hv=>(r.2 j u v hu hv).mono B λd w=>D d (qW hu w)⟩
theorem b_.nil:b_ ν m H Z [] []:=⟨rfl,by simp⟩
theorem b_.cons {x:SV} {y:V} {xs:List SV} {ys:List V} (h:dc ν m H Z x y) (r:b_ ν m H Z xs ys):b_ ν m H Z (x::xs) (y::ys):=by
 refine⟨by simp[r.1],λj u v hu hv=>?_⟩
 cases j with
 | zero=>grind
 | succ j=>exact r.2 j u v Zd Zd
theorem b_.inv {x:SV} {xs:List SV} {B:List V} (r:b_ ν m H Z (x::xs) B):∃y ys,B=y::ys/\dc ν m H Z x y/\b_ ν m H Z xs ys:=by
 cases B with
 | nil=>have:=r.1;grind
 | cons y ys=>
  refine⟨y,ys,rfl,r.2 0 x y rfl rfl,by have:=r.1;grind,λj u v hu hv=>r.2 (j+1) u v Zd Zd⟩
theorem b_.cW {B:List V} (r:b_ ν m H Z [] B):B=[]:=by
 have:=r.1
 grind
theorem b_.get {xs:List SV} {ys:List V} (r:b_ ν m H Z xs ys) {j:Nat} {u:SV} (h:xs[j]? = some u):∃v,ys[j]? = some v/\dc ν m H Z u v:=by
 have w  := (ζe.1 h).1;have:j<ys.length:=by rw[<-r.1];omega
 exact⟨ys[j],ζd this,r.2 j u _ h (ζd this)⟩
theorem b_.append {a c:List SV} {b d:List V} (h:b_ ν m H Z a b) (k:b_ ν m H Z c d):b_ ν m H Z (a++c) (b++d):=by
 refine⟨by simp[h.1,k.1],λj u v hu hv=>?_⟩
 by_cases w:j<a.length
 .rw[List.getElem?_append_left w]at hu;rw[List.getElem?_append_left (by rw[<-h.1];omega)]at hv
  exact h.2 j u v hu hv
 rw[List.getElem?_append_right Za]at hu
 rw[List.getElem?_append_right (by rw[<-h.1];omega),<-h.1]at hv
 exact k.2 _ u v hu hv
theorem b_.take {a:List SV} {b:List V} (h:b_ ν m H Z a b) (n:Nat):b_ ν m H Z (a.take n) (b.take n):=by
 refine⟨by simp[h.1],λj u v hu hv=>?_⟩
 rw[List.getElem?_take]at hu hv;split at hu
 next w=>rw[if_pos w]at hv;exact h.2 j u v hu hv
 grind
theorem b_.drop {a:List SV} {b:List V} (h:b_ ν m H Z a b) (n:Nat):b_ ν m H Z (a.drop n) (b.drop n):=by
 refine⟨by simp[h.1],λj u v hu hv=>?_⟩
 rw[List.getElem?_drop]at hu hv;exact h.2 _ u v hu hv
theorem dc.fr {x y:V} (r:dc ν m H Z (.v x) y):FR H Z x y:=by cases r;assumption
theorem b_.qC {xs ys:List V} (r:dm H Z xs ys):b_ ν m H Z (xs.map .v) ys:=by
 refine⟨by simp[r.1],λj u v hu hv=>?_⟩
 rw[List.getElem?_map,ζf]at hu;obtain⟨x,w,rfl⟩:=hu;exact .v x v (r.2 j x v w hv)
theorem tX:∀{svs:List SV} {xs:List V},dw svs=some xs->svs=xs.map .v
 | [],xs,h=>by simp[dw]at h;grind
 | x::r,xs,h=>by
  cases x <;> simp only[dw]at h <;> first|grind|skip
  obtain⟨t,B,rfl⟩:=ζf.1 h;rw[tX B];rfl
theorem b_.T9 {xs ys:List V} (r:b_ ν m H Z (xs.map .v) ys):dm H Z xs ys:=by
 refine⟨by have:=r.1;grind,λj u v hu hv=>?_⟩
 have:(xs.map SV.v)[j]? = some (.v u):=by grind
 exact(r.2 j _ v this hv).fr
end
section
variable {ν:Nu} {Z:Nat->Prop} {st:St} {m:Tb bG} {F:Frame} {H H1:bl} {N:Nat->FuncId}
def pN (nm:FuncId->Option Nat):Operand->Option Arg
 | .tmp t=>some (.s t)
 | .const v=>match ofValue 4 v with
  | some c=>if c.good then some (.k c)else none
  | none=>none
 | .func f=>(nm f).map .f
 | .global g=>match bV.gl g with
  | some cs=>if(V.fptr cs).good then some (.k (.fptr cs))else none
  | none=>none
theorem Dy {nm:FuncId->Option Nat} (D:∀f s,nm f=some s->N s=f) {g:Tb SV} (G:∀s sv,bh g s=some sv->dc ν m H Z sv (get F s)) {o:Operand} {x:Arg} {sv:SV} (B:pN nm o=some x) (hv:qh N g x=some sv) :
 ∃y,ev F o=some y/\dc ν m H Z sv y:=by
 cases o with
 | tmp t=>
  simp[pN]at B;subst B;exact⟨get F t,rfl,G t sv hv⟩
 | const w=>
  simp[pN]at B;split at B
  .rename_i c hc;split at B
   next u=>simp  at B;subst B;simp[qh]at hv;subst hv;exact⟨c,hc,.v _ _ (.same _ u)⟩
   grind
  grind
 | func f=>
  simp[pN]at B;obtain⟨z,C,rfl⟩:=B;simp[qh]at hv;subst hv;exact⟨_,rfl,.v _ _ (by rw[D f z C];exact .same _ rfl)⟩
 | global i=>
  simp[pN]at B;split at B
  .rename_i c hc;split at B
   next u=>simp  at B;subst B;simp[qh]at hv;subst hv;exact⟨.fptr c,by simp[ev,hc],.v _ _ (.same _ u)⟩
   grind
  grind
theorem pJ {nm:FuncId->Option Nat} (D:∀f s,nm f=some s->N s=f) {g:Tb SV} (G:∀s sv,bh g s=some sv->dc ν m H Z sv (get F s)):∀{os:List Operand} {xs:List Arg} {svs:List SV},
 os.mapM (pN nm)=some xs->bY N g xs=some svs->∃ys,fL F os=some ys/\b_ ν m H Z svs ys
 | [],xs,svs,B,hv=>by
  simp  at B;subst B;simp[bY]at hv;subst hv;exact⟨[],rfl,.nil⟩
 | o::os,xs,svs,B,hv=>by
  simp[ζg]at B;obtain⟨x,J,ys,O,rfl⟩:=B;simp[bY]at hv;split at hv
  next v C h1 w=>simp  at hv;subst hv;obtain⟨a,B,z⟩:=Dy D G J h1;obtain⟨az,has,u⟩:=pJ D G O w;exact⟨a::az,by simp[fL,B,has],.cons z u⟩
  grind
theorem dc.jP {d:Nat} {y:V} (r:dc ν m H Z (.own d) y) {ob:bG} (h:bh m d=some ob):∃k es xs,ob=.sl k es xs/\y=rj (ν d) k es xs.length:=by
 cases r with|own _ _ u=>grind
theorem dc.ov {d o:Nat} {y:V} (r:dc ν m H Z (.ptr d o) y) {ob:bG} (h:bh m d=some ob):∃cs,ob=.box cs/\y=.hptr (ν d).1 0 o:=by
 cases r with|ptr _ _ _ u=>grind
theorem dc.wR {d i o:Nat} {y:V} (r:dc ν m H Z (.el d i o) y) {ob:bG} (h:bh m d=some ob):∃k es xs,ob=.sl k es xs/\cN k=true/\y=.hptr (ν d).1 ((ν d).2+i) o:=by
 cases r with|el _ _ _ _ u=>grind
theorem dc.C5 {d:Nat} {y:V} (r:dc ν m H Z (.mp d) y) {ob:bG} (h:bh m d=some ob):∃B,ob=.mp B/\y=.hmap (ν d).1:=by
 cases r with|mp _ _ u=>grind
theorem dc.jT {f:FuncId} {a b:List SV} {y:V} (r:dc ν m H Z (.clo f a b) y):∃a' B,y=.clo f a' B/\b_ ν m H Z a a'/\b_ ν m H Z b B:=by
 cases r with|clo _ _ _ a' B w z hva u=>exact⟨a',B,rfl,⟨w,hva⟩,⟨z,u⟩⟩
theorem dc.pU {a:List SV} {y:V} (r:dc ν m H Z (.tup a) y):∃a',y=.tup a'/\b_ ν m H Z a a':=by
 cases r with|tup _ a' u hva=>exact⟨a',rfl,u,hva⟩
theorem dc.iF {a:List SV} {y:V} (r:dc ν m H Z (.agg a) y):∃a',y=.agg a'/\b_ ν m H Z a a':=by
 cases r with|agg _ a' u hva=>exact⟨a',rfl,u,hva⟩
theorem rD {p:Nat×Nat} {k:Fl} {es len:Nat} (h:cN k=true):rj p k es len=.hsl p.1 es p.2 len:=by
 cases k <;> simp[cN]at h <;> rfl
theorem lJ {x:SV} {y:V} (h:kO m x=true) (r:dc ν m H Z x y):y.cells=[y]/\y.one=true:=by
 cases x with
 | v x=>simp[kO]at h
 | own d=>
  obtain⟨ob,u⟩:=Option.isSome_iff_exists.1 h;obtain⟨k,es,w,rfl,rfl⟩:=r.jP u;cases k <;> exact⟨rfl,rfl⟩
 | ptr d o=>
  obtain⟨ob,u⟩:=Option.isSome_iff_exists.1 h;obtain⟨B,rfl,rfl⟩:=r.ov u;exact⟨rfl,rfl⟩
 | el d i o=>
  obtain⟨ob,u⟩:=Option.isSome_iff_exists.1 h;obtain⟨k,es,w,rfl,_,rfl⟩:=r.wR u;exact⟨rfl,rfl⟩
 | mp d=>
  obtain⟨ob,u⟩:=Option.isSome_iff_exists.1 h;obtain⟨z,rfl,rfl⟩:=r.C5 u;exact⟨rfl,rfl⟩
 | clo f a b=>obtain⟨C,D,rfl,_⟩:=r.jT;exact⟨rfl,rfl⟩
 | tup l=>simp[kO]at h
 | agg l=>simp[kO]at h
 | yl id=>simp[kO]at h
theorem Ml {x:SV} {y:V} (h:vW m x=true) (r:dc ν m H Z x y):y.one=true:=by
 cases x with
 | v x=>
  have u:=r.fr;have w:x.one=true:=h;have hc:=u.cells;have e:x.cells=[x]:=by cases x <;> first|rfl|(simp[V.one]at w)
  rw[e]at hc;have h1:=hc.one;have z:=hc.1
  cases y with
  | agg l=>
   cases u with
   | same _ _=>grind
   | agg _ _ _ _=>simp[V.one]at w
  | tup l=>
   cases u with
   | same _ _=>grind
   | tup _ _ _ _=>simp[V.one]at w
  | _=>rfl
 | own d=>exact(lJ  (x:=.own d) h r).2
 | ptr d o=>exact(lJ  (x:=.ptr d o) h r).2
 | el d i o=>exact(lJ  (x:=.el d i o) h r).2
 | mp d=>exact(lJ  (x:=.mp d) h r).2
 | clo f a b=>exact(lJ  (x:=.clo f a b) h r).2
 | tup l=>simp[vW,kO]at h
 | agg l=>simp[vW,kO]at h
 | yl id=>simp[vW,kO]at h
theorem En {l:List SV} {ys:List V} (h:l.all (vW m)=true) (r:b_ ν m H Z l ys):ys.all V.one=true:=by
 refine List.all_eq_true.2 λy w=>?_
 obtain⟨j,z,e⟩:=List.mem_iff_getElem.1 w;have u:j<l.length:=by rw[r.1];omega
 exact Ml (List.all_eq_true.1 h _ (List.getElem_mem u)) (r.2 j _ y (ζd u) Zd)
theorem Mf {x:SV} {y:V} {c:List SV} (h:xw m x=some c) (r:dc ν m H Z x y):b_ ν m H Z c y.cells:=by
 unfold xw at h;split at h
 .cases h;exact b_.qC r.fr.cells
 .cases h;obtain⟨z,rfl,u⟩:=r.iF;exact u
 split at h
 next w=>cases h;rw[(lJ w r).1];exact .cons r .nil
 simp_all
theorem GY:∀{pl:List (Nat×Nat)} {vs cells l:List SV} {B cells':List V},b_ ν m H Z cells cells'->b_ ν m H Z vs B->sA m cells pl vs=some l->∃D,kz cells' pl B=some D/\b_ ν m H Z l D
 | [],[],cells,l,B,cells',hc,hv,h=>by
  rw[hv.cW];simp[sA]at h;subst h;exact⟨_,rfl,hc⟩
 | [],_::_,_,_,_,_,_,_,h=>by simp[sA]at h
 | _::_,[],_,_,_,_,_,_,h=>by simp[sA]at h
 | (off,size)::pl,v::vs,cells,l,B,cells',hc,hv,h=>by
  obtain⟨w,G,rfl,h1,J⟩:=hv.inv;simp only[sA]at h;split at h
  .rename_i c z;have hr:=Mf z h1;split at h
   .obtain⟨D,e1,e2⟩:=GY   (cells':=cells'.take off++w.cells++cells'.drop (off+w.cells.length)) (by rw[<-hr.1];exact((hc.take off).append hr).append (hc.drop _)) J h
    have u:w.cells.length=size/\off+w.cells.length<=cells'.length:=by rw[<-hr.1,<-hc.1];omega
    simp[kz]
    grind
   simp_all
  simp_all
theorem FK {size o:Nat} {agg:Bool} {cs:List SV} {B:List V} {sv:SV} (h:b_ ν m H Z cs B) (D:tG size agg ((cs.drop o).take size)=some sv):∃y,(cut B o size).bind (mk agg)=some y/\dc ν m H Z sv y:=by
 have u:=(h.drop o).take size;unfold tG at D;split at D
 .have hc:cut B o size=some ((B.drop o).take size):=by
   unfold cut;rw[if_pos (by rw[<-u.1];omega)]
  rw[hc];split at D
  .split at D
   .rename_i I w;cases D;have z  := by rw[tX w]at u;exact u.T9
    exact⟨_,by unfold mk;grind,.v _ _ (.agg _ _ z.1 z.2)⟩
   cases D;exact⟨_,by unfold mk;grind,.agg _ _ u.1 u.2⟩
  split at D
  next x w=>simp  at D;subst D;rw[w]at u;obtain⟨y,J,e,C,G⟩:=u.inv;rw[e,G.cW];exact⟨y,by unfold mk;grind,C⟩
  grind
 grind
theorem NC {p:uz} {svs:List SV} {ys:List V} {sv:SV} (hb:∀zero pl,p=.build zero pl->V.cA zero=true) (ho:∀d ob,bh m d=some ob->d_ ν m H Z d ob) (h:b_ ν m H Z svs ys) (B:vG N m p svs=some sv):∃y,bn N p ys=some y/\dc ν m H Z sv y:=by
 unfold vG at B;split at B
 .
  obtain⟨y,_,rfl,h1,w⟩:=h.inv;rw[w.cW];simp  at B;subst B;exact⟨y,rfl,h1⟩
 .obtain⟨y,_,rfl,h1,w⟩:=h.inv;rw[w.cW];split at B
  next L=>simp  at B;subst B;obtain⟨ob,u⟩:=Option.isSome_iff_exists.1 L;obtain⟨cs,rfl,rfl⟩:=h1.ov u;exact⟨_,rfl,h1⟩
  grind
 .obtain⟨y,_,rfl,h1,w⟩:=h.inv;rw[w.cW];split at B
  next L=>simp  at B;subst B;obtain⟨ob,u⟩:=Option.isSome_iff_exists.1 L;obtain⟨k,es,S,rfl,hk,rfl⟩:=h1.wR u;exact⟨_,rfl,h1⟩
  grind
 .
  rename_i t a b;obtain⟨J,_,rfl,h1,w⟩:=h.inv;obtain⟨T,_,rfl,G,D⟩:=w.inv;obtain⟨w3,_,rfl,h5,h6⟩:=D.inv;rw[h1.fr.bool,h6.cW];simp  at B;refine⟨if t=true then T else w3,rfl,?_⟩
  grind
 .
  obtain⟨J,_,rfl,h1,w⟩:=h.inv;obtain⟨T,_,rfl,G,D⟩:=w.inv;rw[G.fr.bK,D.cW];split at B
  .rename_i k es S u;split at B
   .simp_all
   simp  at B;subst B;obtain⟨U,O,Q,e,rfl⟩:=h1.jP u;cases e;cases k <;> first|grind|exact⟨_,rfl,.v _ _ (.same _ rfl)⟩
  grind
 .obtain⟨J,_,rfl,h1,w⟩:=h.inv;obtain⟨T,_,rfl,G,D⟩:=w.inv;rw[G.fr.bK,D.cW];split at B
  .rename_i k es S u;split at B
   .simp_all
   simp  at B;subst B;obtain⟨U,O,Q,e,rfl⟩:=h1.jP u;cases e;cases k <;> first|grind|exact⟨_,rfl,.v _ _ (.same _ rfl)⟩
  grind
 .
  obtain⟨y,_,rfl,h1,w⟩:=h.inv;rw[w.cW];split at B
  next L=>simp  at B;subst B;obtain⟨ob,u⟩:=Option.isSome_iff_exists.1 L;obtain⟨cs,rfl,rfl⟩:=h1.ov u;exact⟨_,rfl,.ptr _ _ _ λI C=>by grind⟩
  grind
 .obtain⟨y,_,rfl,h1,w⟩:=h.inv;rw[w.cW];split at B
  next L=>simp  at B;subst B;obtain⟨ob,u⟩:=Option.isSome_iff_exists.1 L;obtain⟨k,es,S,rfl,hk,rfl⟩:=h1.wR u;exact⟨_,rfl,.el _ _ _ _ λI C=>by rw[u]at C;cases C;exact⟨_,_,_,rfl,hk,rfl⟩⟩
  simp at B
 .
  obtain⟨J,_,rfl,h1,w⟩:=h.inv;obtain⟨T,_,rfl,G,D⟩:=w.inv;rw[G.fr.int,D.cW];split at B
  .rename_i k es S u;split at B
   .rename_i hc;obtain⟨hk,rfl,hn,W⟩:=hc;simp  at B;subst B;obtain⟨U,O,Q,e,rfl⟩:=h1.jP u;cases e;rw[rD hk];refine⟨.hptr (ν _).1 ((ν _).2+_) 0,by simp only[bn,lu,if_neg (Int.not_lt.2 hn),true_and,if_pos W];rfl,.el _ _ _ _ λI C=>?_⟩
    rw[u]at C;cases C;exact⟨_,_,_,rfl,hk,rfl⟩
   simp at B
  simp at B
 .
  obtain⟨J,_,rfl,h1,w⟩:=h.inv;obtain⟨T,_,rfl,G,D⟩:=w.inv;rw[G.fr.int,D.cW];split at B
  .rename_i hc;simp  at B;subst B;obtain⟨ob,u⟩:=Option.isSome_iff_exists.1 hc.2.2;obtain⟨cs,rfl,rfl⟩:=h1.ov u;refine⟨.hptr (ν _).1 0 (_+_),by simp only[bn,vS,if_pos (And.intro hc.1 hc.2.1)];rfl,.ptr _ _ _ λI C=>?_⟩
   rw[u]at C;cases C;exact⟨_,rfl,rfl⟩
  simp at B
 .obtain⟨J,_,rfl,h1,w⟩:=h.inv;obtain⟨T,_,rfl,G,D⟩:=w.inv;rw[G.fr.int,D.cW];split at B
  .rename_i hc;simp  at B;subst B;obtain⟨ob,u⟩:=Option.isSome_iff_exists.1 hc.2.2;obtain⟨k,es,S,rfl,hk,rfl⟩:=h1.wR u;refine⟨.hptr (ν _).1 (_+_) (_+_),by simp only[bn,vS,if_pos (And.intro hc.1 hc.2.1)];rfl,.el _ _ _ _ λI C=>?_⟩
   rw[u]at C;cases C;exact⟨_,_,_,rfl,hk,rfl⟩
  simp at B
 .
  obtain⟨J,_,rfl,h1,w⟩:=h.inv;rw[w.cW];split at B
  .rename_i k es S u;simp  at B;subst B;obtain⟨U,O,Q,e,rfl⟩:=h1.jP u;cases e;have:=ho _ _ u;simp[d_]at this;cases hk:k <;> simp[hk,cN]at this ⊢
   .subst this;exact⟨_,rfl,.v _ _ (.same _ rfl)⟩
   .subst this;exact⟨_,rfl,.v _ _ (.same _ rfl)⟩
   .exact⟨_,rfl,.v _ _ (.same _ rfl)⟩
   exact⟨_,rfl,.v _ _ (.same _ rfl)⟩
  simp at B
 .
  rename_i vs name k;simp  at B;subst B;exact⟨_,rfl,.clo _ _ _ _ _ (h.take k).1 (h.drop k).1 (h.take k).2 (h.drop k).2⟩
 .
  obtain⟨J,_,rfl,h1,w⟩:=h.inv;rw[w.cW];obtain⟨ws,rfl,X⟩:=h1.pU;obtain⟨z,hz,Y⟩:=X.get B;exact⟨z,hz,Y⟩
 .
  rename_i vs zero pl;obtain⟨l,hl,rfl⟩:=ζf.1 B;obtain⟨l',h1,w⟩:=GY (b_.qC (dm.same (hb zero pl rfl))) h hl;exact⟨.agg l',by simp[Go.VE.bn,h1],.agg _ _ w.1 w.2⟩
 .
  obtain⟨J,_,rfl,h1,w⟩:=h.inv;rw[w.cW];obtain⟨ws,rfl,X⟩:=h1.iF;obtain⟨y,hy,aa⟩:=FK X B;exact⟨y,by simp[Go.VE.bn];exact hy,aa⟩
 grind
theorem FP {p:uz} {svs:List SV} {ys:List V} {sv:SV} (D:∀zero pl,p=.build zero pl->V.cA zero=true) (G:∀d ob,bh m d=some ob->d_ ν m H Z d ob) (h:b_ ν m H Z svs ys) (B:jy N m p svs=some sv) :
 ∃y,bn N p ys=some y/\dc ν m H Z sv y:=by
 unfold jy at B;split at B
 next J u=>obtain⟨z,w,rfl⟩:=ζf.1 B;rw[tX u]at h;obtain⟨C,h1,I⟩:=dm.bn D h.T9 w;exact⟨C,h1,.v _ _ I⟩
 exact NC D G h B
theorem b_.dw {svs:List SV} {xs ys:List V} (h:b_ ν m H Z svs ys) (B:dw svs=some xs):dm H Z xs ys:=by
 rw[tX B]at h;exact h.T9
theorem BL {k:V}:∀{a b:List (V×V)} {i:Nat},B6 H Z a b->(gR k a i=some none->gR k b i=some none)/\∀j v,gR k a i=some (some (j,v))->∃B,gR k b i=some (some (j,B))/\FR H Z v B
 | [],b,i,h=>by
  have:b=[]:=List.length_eq_zero_iff.1 (by have:=h.1;grind)
  subst this;exact⟨λh=>h,λj v h=>by simp[gR]at h⟩
 | (k1,x)::a,[],i,h=>by have:=h.1;grind
 | (k1,x)::a,(k2,y)::b,i,h=>by
  obtain⟨⟨e,_⟩,z⟩:=h.2 0 _ _ rfl rfl;subst e;have w:B6 H Z a b:=⟨by have:=h.1;grind,λj u v hu hv=>h.2 (j+1) u v Zd Zd⟩
  have C:=BL (i:=i+1) (k:=k) w;simp only[gR]
  grind
theorem uA {kk:vu} {k:V} (h:oZ kk k=true):k.scalar=true:=by
 unfold oZ at h;split at h
 .rfl
 .rfl
 .simp  at h;obtain⟨a,u⟩:=Option.isSome_iff_exists.1 h.2;exact qE u
 grind
theorem vk {r:Iz} {svs:List SV} {ys:List V} {sv:SV} (ae:∀s a,r≠.loadF s a) (Y:∀kk z ok,r=.lookup kk z ok->z.good=true) (h:b_ ν m H Z svs ys) (ho:∀d,SV.dz d svs=true->∀ob,bh m d=some ob->d_ ν m H Z d ob) (B:mh m r svs=some sv) :
 ∃y,eR H r ys=some y/\dc ν m H Z sv y:=by
 unfold mh at B;split at B
 .
  obtain⟨X,_,rfl,h1,L⟩:=h.inv;rw[L.cW];split at B
  .rename_i cs u;obtain⟨an,e,rfl⟩:=h1.ov u;obtain⟨es,ao,hr,hc,_⟩:=ho _ (by simp[SV.dz,SV.cR]) _ u
   obtain⟨y,hy,af⟩:=FK hc B;refine⟨y,?_,af⟩;simp[eR,ey,hr,Ob.rows,List.getElem?_cons_zero];omega
  grind
 .
  obtain⟨X,_,rfl,h1,L⟩:=h.inv;rw[L.cW];split at B
  .rename_i k es xs u;split at B
   .rename_i cs aa;obtain⟨z,O,rfl⟩:=ζf.1 B;obtain⟨k1,ap,aq,e,hk,rfl⟩:=h1.wR u;cases e;have:=ho _ (by simp[SV.dz,SV.cR]) _ u
    simp[d_,hk]at this;obtain⟨rs,hr,hl,C,_⟩:=this;obtain⟨c,hc,ah⟩:=C.get aa;have hj:=(ζe.1 aa).1;rw[List.getElem?_take,if_pos hj,List.getElem?_drop]at hc;obtain⟨r1,w,D⟩:=ζg.1 O;obtain⟨r2,S,G⟩:=ah.cut w;obtain⟨z',T,ab⟩:=G.mk D;refine⟨z',?_,.v _ _ ab⟩;simp[eR,ey,hr,Ob.rows,hc,S,T]
   grind
  grind
 .
  rename_i size agg p;obtain⟨X,_,rfl,h1,L⟩:=h.inv;rw[L.cW];obtain⟨z,O,rfl⟩:=ζf.1 B;obtain⟨r1,w,D⟩:=ζg.1 O;unfold ey at w;split at w
  .rename_i cs;rcases h1.fr.lW with rfl|⟨id,el,off,es,ys,ai,rfl,ab,hr,he,ar,C⟩
   .refine⟨z,by simp[eR,ey,w,D],.v _ _ (.same _ ?_)⟩
    have aj  := by have:=h1.fr.good;simpa [V.good]using this
    obtain⟨r',au,G⟩:=(dm.same (H:=H) (Z:=Z) aj).cut w;obtain⟨z',T,I⟩:=G.mk D;exact I.good
   obtain⟨r2,S,G⟩:=C.cut w;obtain⟨z',T,I⟩:=G.mk D;refine⟨z',?_,.v _ _ I⟩;unfold bp at hr;simp[eR,ey,hr,he];have:cut ai off size=some r2:=by
    unfold cut at S ⊢
    grind
   grind
  .grind
  grind
 .
  rename_i kk z ok d k;obtain⟨X,_,rfl,h1,L⟩:=h.inv;obtain⟨w2,_,rfl,h3,h4⟩:=L.inv;rw[h4.cW];split at B
  .rename_i U u;split at B
   .rename_i hk;obtain⟨_,e,rfl⟩:=h1.C5 u;have W:=h3.fr.scalar.1 (uA hk);subst W;obtain⟨am,hr,ak⟩:=ho _ (by simp[SV.dz,SV.cR]) _ u
    obtain⟨f1,f2⟩:=BL   ak;split at B
    .rename_i j v C;obtain⟨v',al,ad⟩:=f2 j v C;simp  at B;subst B;refine⟨if ok=true then .tup [v',.bool true]else v',by simp[eR,mc,hr,hk,al],?_⟩
     cases ok
     .exact .v _ _ ad
     refine .v _ _ (.tup _ _ rfl (dm.cons ad (.cons (.same _ rfl) .nil)).2)
    .rename_i C;simp  at B;subst B;refine⟨if ok=true then .tup [z,.bool false]else z,by simp[eR,mc,hr,hk,f1 C],?_⟩
     have O:=Y kk z ok rfl;cases ok
     .exact .v _ _ (.same _ O)
     exact .v _ _ (.same _ (by simp[V.good,V.cA,O]))
    grind
   grind
  grind
 .
  rename_i kk z ok p k;obtain⟨X,_,rfl,h1,L⟩:=h.inv;obtain⟨w2,_,rfl,h3,h4⟩:=L.inv;rw[h4.cW];obtain⟨x,J,rfl⟩:=ζf.1 B;simp[eR]at J;have O:=Y kk z ok rfl;split at J
  .rename_i U Q;have key:mc H X=some U/\V.rV U=true:=by
    unfold mc at Q;split at Q
    .rw[h1.fr.f_];simp  at Q;subst Q;exact⟨rfl,rfl⟩
    .rw[h1.fr.fmap];simp  at Q;subst Q;exact⟨rfl,by have:=h1.fr.good;simpa [V.good]using this⟩
    .simp at Q
    simp at Q
   split at J
   .rename_i hk;have W:=h3.fr.scalar.1 (uA hk);subst W;split at J
    .rename_i j v C;simp  at J;subst J;have hv  := by
      have:∀{l:List (V×V)} {i:Nat},V.rV l=true->gR w2 l i=some (some (j,v))->v.good=true:=by
       intro l
       induction l with
       | nil=>intro i _ h;simp[gR]at h
       | cons p l ih=>
        intro i hg h;simp[V.rV]at hg;simp[gR]at h;split at h
        .obtain⟨_,rfl⟩:=h;exact hg.1.2
        .exact ih hg.2 h
        simp at h
      exact this key.2 C
     refine⟨if ok=true then .tup [v,.bool true]else v,by simp[eR,key.1,hk,C],?_⟩
     cases ok
     .exact .v _ _ (.same _ hv)
     exact .v _ _ (.same _ (by simp[V.good,V.cA,hv]))
    .rename_i C;simp  at J;subst J;refine⟨if ok=true then .tup [z,.bool false]else z,by simp[eR,key.1,hk,C],?_⟩
     cases ok
     .exact .v _ _ (.same _ O)
     exact .v _ _ (.same _ (by simp[V.good,V.cA,O]))
    simp at J
   simp at J
  simp at J
 .exact absurd rfl (ae _ _)
 grind
end
section
variable {Rv:Nat->Prop} {ν ν':Nu} {Z Z':Nat->Prop} {st st':St} {m m':Tb bG} {F F':Frame} {H H':bl}
theorem R.lt (r:R ν Z st F H) {id:Nat} (h:fA ν st.m id):id<H.length:=by
 obtain⟨d,ob,h1,u,rfl⟩:=h;have:=r.obj d ob h1
 cases ob with
 | sl k es C=>
  simp only[cD]at u;simp only[d_,u,if_true]at this;obtain⟨D,hr,_⟩:=this;exact(ζe.1 hr).1
 | box G=>obtain⟨es,z,hr,_⟩:=this;exact(ζe.1 hr).1
 | mp B=>obtain⟨w,hr,_⟩:=this;exact(ζe.1 hr).1
theorem R.uZ (r:R ν Z st F H) {id:Nat} (h:Z id):id<H.length:=by
 have:=r.zrow id h;unfold bp at this;obtain⟨x,u⟩:=Option.isSome_iff_exists.1 this;obtain⟨ob,h1,_⟩:=ζg.1 u;exact(ζe.1 h1).1
theorem Deep.mono (d:Deep H Z) (h:∀id,Z id->bp H' id=bp H id):Deep H' Z where
 row:=λid es z w hr c hc u hu=>by
  rw[h id w]at hr;obtain⟨x,B⟩:=d.row id es z w hr c hc u hu;exact⟨x,B.mono λk hk=>⟨hk,h k hk⟩⟩
theorem uO.mono {ys:List (List V)} (h:∀id,Z id->Z' id/\bp H' id=bp H id) (s:uO H Z ys):uO H' Z' ys:=λc hc u hu=>by
 obtain⟨x,w⟩:=s c hc u hu;exact⟨x,w.mono h⟩
theorem B6.mono {a b:List (V×V)} (h:∀id,Z id->Z' id/\bp H' id=bp H id) (s:B6 H Z a b):B6 H' Z' a b:=⟨s.1,λj u v hu hv=>⟨(s.2 j u v hu hv).1,(s.2 j u v hu hv).2.mono h⟩⟩
theorem d_.mono {d J:Nat} {ob:bG} (B:∀id,Z id->Z' id/\bp H' id=bp H id) (D:ν' J=ν d) (G:cD ob=true->H'[(ν d).1]? = H[(ν d).1]?)
 (O:∀e,ob.cR e=true->∀ob',bh m' e=some ob'->∃ob,bh m e=some ob/\ν' e=ν e/\sameShape ob ob') (o:d_ ν m H Z d ob):d_ ν' m' H' Z' J ob:=by
 cases ob with
 | sl k es T=>
  simp only[d_,D]at o ⊢;split
  next hk=>rw[if_pos hk]at o;obtain⟨I,h1,u,z,L,Q⟩:=o;exact⟨I,by rw[G (by simpa [cD]using hk)];exact h1,u,z.mono B,L.mono B,Q⟩
  rename_i hk;rw[if_neg hk]at o;exact o
 | box U=>
  obtain⟨es,C,h1,u,z⟩:=o;exact⟨es,C,by rw[D,G rfl];exact h1,u.mono B O,z⟩
 | mp S=>
  obtain⟨w,h1,u⟩:=o;exact⟨w,by rw[D,G rfl];exact h1,u.mono B⟩
theorem iQ (ν:Nu) (m:Tb bG) (e:Nat):∀ob',bh m e=some ob'->∃ob,bh m e=some ob/\ν e=ν e/\sameShape ob ob':=λob' h=>⟨ob',h,rfl,.refl _⟩
theorem R.heap (r:R ν Z st F H) (D:∀id,fA ν st.m id->H'[id]? = H[id]?) (B:∀id,Z id->bp H' id=bp H id):R ν Z st F H' where
 slot:=λs w z=>(r.slot s w z).mono (λid h=>⟨h,B id h⟩) λd _=>iQ ν st.m d
 obj:=λd ob u=>d_.mono (λid h=>⟨h,B id h⟩) rfl (λC=>D _ ⟨d,ob,u,C,rfl⟩) (λe _=>iQ ν st.m e) (r.obj d ob u)
 inj:=r.inj
 apart:=r.apart
 zrow:=λid h=>by rw[B id h];exact r.zrow id h
 deep:=r.deep.mono B
theorem R.put (r:R ν Z st F H) {d:Nat} {sv:SV} {y:V} (h:dc ν st.m H Z sv y):R ν Z { st with g:=bM st.g d sv } (set F d y) H where
 slot:=λs x u=>by
  by_cases e:d=s
  .subst e;rw[cG]at u;cases u;rw[rX];exact h
  rw[dS st.g sv e]at u;rw[gU _ _ e];exact r.slot s x u
 obj:=r.obj
 inj:=r.inj
 apart:=r.apart
 zrow:=r.zrow
 deep:=r.deep
theorem Ev.slots (g:Tb SV):Ev Rv ν Z st H ν Z { st with g:=g } H:=
 ⟨Nat.le_refl _,λ_ _ _ _ _=>rfl,λ_ h=>⟨h,rfl⟩,λ_ h=>.inl h,λ_ h=>.inl h,λ_ _ u h=>⟨u,h,rfl,.refl _⟩,rfl⟩
def iH (ν:Nu) (d:Nat) (p:Nat×Nat):Nu:=λk=>if k=d then p else ν k
theorem gJ (ν:Nu) (d:Nat) (p:Nat×Nat):iH ν d p d=p:=if_pos rfl
theorem oE (ν:Nu) {d k:Nat} (p:Nat×Nat) (h:k≠d):iH ν d p k=ν k:=if_neg h
theorem lV {d:Nat} (h:st.new d=true):d∉st.pin/\bh st.m d=none/\uB d st.g=false/\r_ d st.m=false:=by
 unfold St.new at h;simp only[ζh,Bool.not_eq_true',Option.isNone_iff_eq_none,List.contains_eq_mem,decide_eq_false_iff_not]at h;exact⟨h.1.1.1,h.1.1.2,h.1.2,h.2⟩
theorem sR {d:Nat} {ob:bG} {p:Nat×Nat} {e:Nat} (h:e≠d):∀ob',bh (bM m d ob) e=some ob'->∃ob,bh m e=some ob/\iH ν d p e=ν e/\sameShape ob ob':=λob' u=>by
 rw[dS m ob (Ne.symm h)]at u;exact⟨ob',u,oE ν p h,.refl _⟩
theorem R.add (r:R ν Z st F H) {d:Nat} (U:st.new d=true) {ob:bG} {p:Nat×Nat} (J:cD ob=true->¬fA ν st.m p.1/\¬Z p.1) (W:d_ (iH ν d p) (bM st.m d ob) H Z d ob) :
 R (iH ν d p) Z { st with m:=bM st.m d ob } F H:=by
 obtain⟨X,Y,Q,S⟩:=lV U;have key:∀w u,bh (bM st.m d ob) w=some u->w≠d->bh st.m w=some u:=λw u h e=>by rw[dS st.m ob (Ne.symm e)]at h;exact h
 refine⟨λs T L=>?_,λw u G=>?_,?_,?_,r.zrow,r.deep⟩
 .refine(r.slot s T L).mono (λid h=>⟨h,rfl⟩) λe O=>sR ?_
  rintro rfl;rw[xJ Q L]at O;cases O
 .by_cases e:w=d
  .subst e;simp only at G;rw[cG]at G;cases G;exact W
  have C:=key w u G e;refine d_.mono (λid h=>⟨h,rfl⟩) (oE ν p e) (λ_=>rfl) (λk hk=>sR ?_) (r.obj w u C)
  rintro rfl;rw[yb S C]at hk;cases hk
 .intro d1 d2 o1 o2 h1 D z I B
  by_cases e1:d1=d <;> by_cases e2:d2=d
  .rw[e1,e2]
  .subst e1;rw[gJ,oE ν p e2]at B;simp only at h1;rw[cG]at h1;cases h1;exact absurd ⟨d2,o2,key d2 o2 D e2,I,B.symm⟩ (J z).1
  .subst e2;rw[gJ,oE ν p e1]at B;simp only at D;rw[cG]at D;cases D;exact absurd ⟨d1,o1,key d1 o1 h1 e1,z,B⟩ (J I).1
  rw[oE ν p e1,oE ν p e2]at B;exact r.inj d1 d2 o1 o2 (key d1 o1 h1 e1) (key d2 o2 D e2) z I B
 intro d1 o1 h1 z
 by_cases e1:d1=d
 .subst e1;simp only at h1;rw[cG]at h1;cases h1;rw[gJ];exact(J z).2
 rw[oE ν p e1];exact r.apart d1 o1 (key d1 o1 h1 e1) z
theorem Dm {d:Nat} {ob:bG} {p:Nat×Nat} {id:Nat} (h:fA (iH ν d p) (bM m d ob) id):fA ν m id\/(cD ob=true/\id=p.1):=by
 obtain⟨k,o,h1,w,u⟩:=h
 by_cases e:k=d
 .subst e;rw[cG]at h1;cases h1;rw[gJ]at u;exact .inr ⟨w,u.symm⟩
 rw[oE ν p e]at u;rw[dS m ob (Ne.symm e)]at h1;exact .inl ⟨k,o,h1,w,u⟩
theorem Ev.add {d:Nat} (B:st.new d=true) {ob:bG} {p:Nat×Nat} (D:H.length<=H'.length) (G:∀id,id<H.length->¬Rv id->H'[id]? = H[id]?) (J:∀id,Z id->bp H' id=bp H id)
 (O:cD ob=true->Rv p.1\/H.length<=p.1):Ev Rv ν Z st H (iH ν d p) Z { st with m:=bM st.m d ob } H' where
 len:=D
 same:=λid h _ _ hr=>G id h hr
 rows:=λid h=>⟨h,J id h⟩
 own:=λid h=>by
  rcases Dm h with h|⟨h1,rfl⟩
  .exact .inl h
  exact .inr (O h1)
 frz:=λid h=>.inl h
 pin:=λe w u h=>by
  have:e≠d:=by rintro rfl;exact(lV B).1 w
  exact sR this u h
 pins:=rfl
theorem R.gD (r:R ν Z st F H) {d:Nat} {ob ob':bG} (h0:bh st.m d=some ob) (G:sameShape ob ob') (W:cD ob'=cD ob) (U:∀id,id≠(ν d).1->H'[id]? = H[id]?) (D:cD ob=true)
 (Y:d_ ν (bM st.m d ob') H' Z d ob'):R ν Z { st with m:=bM st.m d ob' } F H':=by
 have z:∀id,Z id->Z id/\bp H' id=bp H id:=λid h=>⟨h,by
  unfold bp;rw[U id (by rintro rfl;exact r.apart d ob h0 D h)]⟩
 have Q:∀e u,bh (bM st.m d ob') e=some u->∃w,bh st.m e=some w/\ν e=ν e/\sameShape w u:=λe u h=>by
  by_cases k:e=d
  .subst k;rw[cG]at h;cases h;exact⟨ob,h0,rfl,G⟩
  rw[dS st.m ob' (Ne.symm k)]at h;exact⟨u,h,rfl,.refl _⟩
 have C:∀e u,bh (bM st.m d ob') e=some u->∃w,bh st.m e=some w/\cD w=cD u:=λe u h=>by
  by_cases k:e=d
  .subst k;rw[cG]at h;cases h;exact⟨ob,h0,W.symm⟩
  rw[dS st.m ob' (Ne.symm k)]at h;exact⟨u,h,rfl⟩
 refine⟨λs S G=>(r.slot s S G).mono z λe _=>Q e,λI u B=>?_,?_,?_,λid h=>by rw[(z id h).2];exact r.zrow id h,r.deep.mono λid h=>(z id h).2⟩
 .by_cases e:I=d
  .subst e;simp only at B;rw[cG]at B;cases B;exact Y
  simp only at B;rw[dS st.m ob' (Ne.symm e)]at B;refine d_.mono z rfl (λJ=>U _ λh=>e (r.inj I d u ob B h0 J D h)) (λk _=>Q k) (r.obj I u B)
 .intro d1 d2 o1 o2 h1 T L X hp;obtain⟨p1,k1,O⟩:=C d1 o1 h1;obtain⟨p2,k2,l2⟩:=C d2 o2 T;exact r.inj d1 d2 p1 p2 k1 k2 (by rw[O];exact L) (by rw[l2];exact X) hp
 intro d1 o1 h1 L;obtain⟨p1,k1,O⟩:=C d1 o1 h1;exact r.apart d1 p1 k1 (by rw[O];exact L)
theorem Ev.gD (r:R ν Z st F H) {d:Nat} {ob ob':bG} (h0:bh st.m d=some ob) (G:sameShape ob ob') (O:cD ob'=cD ob) (D:∀id,id≠(ν d).1->H'[id]? = H[id]?) (B:cD ob=true) (J:H.length<=H'.length) :
 Ev Rv ν Z st H ν Z { st with m:=bM st.m d ob' } H' where
 len:=J
 same:=λid _ z _ _=>D id λe=>z ⟨d,ob,h0,B,e.symm⟩
 rows:=λid h=>⟨h,by unfold bp;rw[D id (by rintro rfl;exact r.apart d ob h0 B h)]⟩
 own:=λid ⟨k,o,h1,C,w⟩=>by
  by_cases e:k=d
  .subst e;simp only at h1;rw[cG]at h1;cases h1;exact .inl ⟨k,ob,h0,B,w⟩
  simp only at h1;rw[dS st.m ob' (Ne.symm e)]at h1;exact .inl ⟨k,o,h1,C,w⟩
 frz:=λid h=>.inl h
 pin:=λe _ u h=>by
  by_cases k:e=d
  .subst k;simp only at h;rw[cG]at h;cases h;exact⟨ob,h0,rfl,G⟩
  simp only at h;rw[dS st.m ob' (Ne.symm k)]at h;exact⟨u,h,rfl,.refl _⟩
 pins:=rfl
theorem R.less (r:R ν Z st F H) {g:Tb SV} {m':Tb bG} (hg:∀s sv,bh g s=some sv->bh st.g s=some sv) (B:∀d ob,bh m' d=some ob->bh st.m d=some ob):R ν Z { st with g:=g,m:=m' } F H where
 slot:=λs sv z=>(r.slot s sv (hg s sv z)).mono (λid h=>⟨h,rfl⟩) λe _ u h=>⟨u,B e u h,rfl,.refl _⟩
 obj:=λd ob C=>d_.mono (λid h=>⟨h,rfl⟩) rfl (λ_=>rfl) (λe _ u h=>⟨u,B e u h,rfl,.refl _⟩) (r.obj d ob (B d ob C))
 inj:=λd w ob u h1 D=>r.inj d w ob u (B d ob h1) (B w u D)
 apart:=λd ob h=>r.apart d ob (B d ob h)
 zrow:=r.zrow
 deep:=r.deep
theorem Ev.less {g:Tb SV} {m':Tb bG} (B:∀d ob,bh m' d=some ob->bh st.m d=some ob):Ev Rv ν Z st H ν Z { st with g:=g,m:=m' } H:=
 ⟨Nat.le_refl _,λ_ _ _ _ _=>rfl,λ_ h=>⟨h,rfl⟩,λ_ ⟨d,ob,h1,w,z⟩=>.inl ⟨d,ob,B d ob h1,w,z⟩,λ_ h=>.inl h,λe _ u h=>⟨u,B e u h,rfl,.refl _⟩,rfl⟩
theorem Ev.heap (B:H.length<=H'.length) (D:∀id,id<H.length->¬fA ν st.m id->¬Z id->¬Rv id->H'[id]? = H[id]?) (G:∀id,Z id->bp H' id=bp H id):Ev Rv ν Z st H ν Z st H':=
 ⟨B,D,λid h=>⟨h,G id h⟩,λ_ h=>.inl h,λ_ h=>.inl h,λ_ _ u h=>⟨u,h,rfl,.refl _⟩,rfl⟩
end
section
variable {Rv:Nat->Prop} {ν ν':Nu} {Z Z':Nat->Prop} {st st':St} {m m':Tb bG} {F F':Frame} {H H':bl}
theorem ga.Fs {xs ys:List (List V)} (h:ga H Z xs ys):uO H Z ys:=λc hc u hu=>by
 obtain⟨i,z⟩:=List.mem_iff_getElem?.1 hc;have B:i<xs.length:=by rw[h.1];grind
 have hr:=h.2 i _ c (ζd B) z;obtain⟨j,C⟩:=List.mem_iff_getElem?.1 hu;have w:j<(xs[i]).length:=by rw[hr.1];grind
 exact⟨_,hr.2 j _ u (ζd w) C⟩
theorem ga.same {xs:List (List V)} (h:V.mG xs=true):ga H Z xs xs:=
 ⟨rfl,λj u v hu hv=>by rw[hu]at hv;cases hv;exact dm.same (lz.1 h j u hu)⟩
theorem nV {z:List V} (h:V.cA z=true):∀n,V.mG (List.replicate n z)=true
 | 0=>rfl
 | n+1=>by simp[List.replicate_succ,V.mG,h,nV h n]
theorem AW {es:Nat}:∀{ps qs:List (Nat×V)} {xs B r:List (List V)},ga H Z xs B->ps.map (·.1)=qs.map (·.1)->dm H Z (ps.map (·.2)) (qs.map (·.2))->gA es xs ps=some r->∃G,gA es B qs=some G/\ga H Z r G
 | [],qs,xs,B,r,D,h1,J,h=>by
  have:qs=[]:=by simp_all
  subst this;simp[gA]at h ⊢;grind
 | (i,v)::ps,qs,xs,B,r,D,h1,J,h=>by
  cases qs with
  | nil=>simp_all
  | cons q qs=>
   obtain⟨j,w⟩:=q;simp  at h1;obtain⟨e,h1⟩:=h1;subst e;obtain⟨w',C,e,u,z⟩:=J.inv;obtain⟨rfl,rfl⟩:=e;have hc:=u.cells;simp only[gA]at h ⊢;split at h
   .rw[if_pos ⟨by rw[<-hc.1];grind,by rw[<-D.1];grind,by rw[hc.one];grind⟩]
    exact AW (D.set i hc) h1 z h
   grind
theorem Dl:∀{idx:List Nat} {xs:List V},idx.length=xs.length->(idx.zip xs).map (·.1)=idx
 | [],xs,_=>by simp
 | i::idx,[],h=>by simp_all
 | i::idx,x::xs,h=>by simp[Dl (idx:=idx) (xs:=xs) Zd]
theorem Du:∀{idx:List Nat} {xs:List V},idx.length=xs.length->(idx.zip xs).map (·.2)=xs
 | [],[],_=>by simp
 | [],x::xs,h=>by simp_all
 | i::idx,[],h=>by simp_all
 | i::idx,x::xs,h=>by simp[Du (idx:=idx) (xs:=xs) Zd]
theorem MG {a:Mz} {svs:List SV} {ys:List V} {d:Nat} {ob:bG} {sv:SV} (hk:Ay (.a a)=true) (r:b_ ν m H Z svs ys) (h:mJ m a svs d=some (ob,sv)) :
 ∃o mk,iP a ys=some (o,mk)/\cD ob=true/\o≠.free/\∀(id:Nat) (ν':Nu) (m':Tb bG) (H':bl),ν' d=(id,0)->bh m' d=some ob->H'[id]? = some o->(∀k,Z k->bp H' k=bp H k) ->
  (∀e,SV.dz e svs=true->∀ob',bh m' e=some ob'->∃ob,bh m e=some ob/\ν' e=ν e/\sameShape ob ob')->d_ ν' m' H' Z d ob/\dc ν' m' H' Z sv (mk.val id):=by
 unfold mJ at h;split at h
 .
  rename_i size zero;obtain⟨rfl,rfl⟩:=h;rw[r.cW];simp only[Ay,ζh]at hk;refine⟨_,_,rfl,rfl,by simp,λid ν' m' H' e1 e2 e3 e4 e5=>⟨⟨_,zero,by rw[e1];omega,b_.qC (dm.same hk.1),hk.2⟩,?_⟩⟩
  exact .ptr _ _ _ λob' u=>by rw[e2]at u;cases u;exact⟨_,rfl,by rw[e1];rfl⟩
 .
  split at h
  .rename_i C;obtain⟨rfl,rfl⟩:=h;obtain⟨y,_,rfl,h1,B⟩:=r.inv;rw[B.cW];have hc:=h1.fr.cells;refine⟨.row y.cells.length [y.cells],.ptr,by simp[iP,hc.one,C],rfl,by simp,λid ν' m' H' e1 e2 e3 e4 e5=>⟨⟨_,y.cells,by rw[e1];omega,b_.qC (hc.mono λk hk=>⟨hk,e4 k hk⟩),by rw[hc.one];simp_all⟩,?_⟩⟩
   exact .ptr _ _ _ λob' u=>by rw[e2]at u;cases u;exact⟨_,rfl,by rw[e1];rfl⟩
  grind
 .
  split at h
  .rename_i z;obtain⟨rfl,rfl⟩:=h;obtain⟨y,_,rfl,h1,B⟩:=r.inv;rw[B.cW];obtain⟨O,rfl,U⟩:=h1.iF;have J:=En z U;refine⟨.row O.length [O],.ptr,by simp[iP,V.cells,J],rfl,by simp,λid ν' m' H' e1 e2 e3 e4 e5=>⟨⟨_,O,by rw[e1];omega,U.mono (λk hk=>⟨hk,e4 k hk⟩) λe Q=>e5 e (by simp[SV.dz,SV.cR,Q]),J⟩,?_⟩⟩
   exact .ptr _ _ _ λob' u=>by rw[e2]at u;cases u;exact⟨_,rfl,by rw[e1];rfl⟩
  grind
 .
  split at h
  .rename_i z;obtain⟨rfl,rfl⟩:=h;obtain⟨y,_,rfl,h1,B⟩:=r.inv;rw[B.cW];obtain⟨W,J⟩:=lJ z h1;refine⟨.row [y].length [[y]],.ptr,by simp[iP,W,J],rfl,by simp,λid ν' m' H' e1 e2 e3 e4 e5=>⟨⟨_,[y],by rw[e1];omega,.cons (h1.mono (λk hk=>⟨hk,e4 k hk⟩) λe Q=>e5 e (by simp[SV.dz,Q])) .nil,by simp_all⟩,?_⟩⟩
   exact .ptr _ _ _ λob' u=>by rw[e2]at u;cases u;exact⟨_,rfl,by rw[e1];rfl⟩
  grind
 .
  rename_i size zero k n k' c;obtain⟨_,_,rfl,h1,B⟩:=r.inv;obtain⟨_,_,rfl,X,Y⟩:=B.inv;rw[h1.fr.int,X.fr.int,Y.cW];split at h
  .rename_i hc;obtain⟨rfl,rfl⟩:=h;have S:cN (if n=c then Fl.row else Fl.part)=true:=by split <;> rfl
   refine⟨_,_,by simp only[iP];rw[if_pos hc],S,by simp,λid ν' m' H' e1 e2 e3 e4 e5=>⟨?_,?_⟩⟩
   .simp[d_,S,e1];have hg:=nV hk c.toNat;have T:n.toNat<=c.toNat:=by omega
    refine⟨_,e3,by simp_all,?_,(ga.same hg).Fs,λe=>?_⟩
    .simp[Nat.min_eq_left T];exact ga.same (nV hk _)
    grind
   refine .own _ _ λob' u=>?_
   rw[e2]at u;cases u;exact⟨_,_,_,rfl,by rw[rD S,e1];simp[Mk.val]⟩
  grind
 .
  rename_i vs size len zero idx;split at h
  .rename_i xs hx;split at h
   .rename_i z;obtain⟨rows,hr,e⟩:=ζf.1 h;obtain⟨rfl,rfl⟩:=e;have L:=r.dw hx;obtain⟨rows',D,w⟩:=AW   (qs:=idx.zip ys) (ga.same (nV hk len)) (by rw[Dl z,Dl (by rw[<-L.1];exact z)]) (by rw[Du z,Du (by rw[<-L.1];exact z)];exact L) hr
    have G:rows'.length=len:=by
     have:∀{ps:List (Nat×V)} {a r:List (List V)},gA size a ps=some r->r.length=a.length:=by
      intro ps
      induction ps with
      | nil=>intro a r h;simp[gA]at h;subst h;rfl
      | cons p ps ih=>
       intro a r h;simp only[gA]at h;split at h
       .rw[ih h];simp
       simp at h
     rw[this D];simp
    refine⟨.row size rows',.sl size len,by simp only[iP];rw[if_pos (by rw[<-L.1];exact z),D];rfl,rfl,by simp,λid ν' m' H' e1 e2 e3 e4 e5=>⟨?_,?_⟩⟩
    .have I:=w.mono   λk hk=>⟨hk,e4 k hk⟩
     simp only[d_,e1];refine⟨_,e3,by simp[w.1],?_,I.Fs,λ_=>⟨trivial,w.1.symm⟩⟩
     simp[w.1];exact I
    refine .own _ _ λob' u=>?_
    rw[e2]at u;cases u;exact⟨_,_,_,rfl,by rw[w.1,G];simp[rj,e1,Mk.val]⟩
   grind
  grind
 .
  obtain⟨rfl,rfl⟩:=h;rw[r.cW];refine⟨_,_,rfl,rfl,by simp,λid ν' m' H' e1 e2 e3 e4 e5=>⟨⟨_,by rw[e1];exact e3,rfl,by simp⟩,?_⟩⟩
  exact .mp _ _ λob' u=>by rw[e2]at u;cases u;exact⟨_,rfl,by rw[e1];rfl⟩
 grind
theorem b_.TG {cs:List SV} {B:List V} (h:b_ ν m H Z cs B) {size o:Nat} {x:SV} {y:V} {r:List SV} (J:dc ν m H Z x y) (D:putCells m size o x cs=some r) (G:B.all V.one=true) :
 y.cells.length=size/\o+size<=B.length/\y.cells.all V.one=true/\b_ ν m H Z r (B.take o++y.cells++B.drop (o+y.cells.length))/\(B.take o++y.cells++B.drop (o+y.cells.length)).all V.one=true:=by
 have u:∀k:Nat,(B.take k).all V.one=true/\(B.drop k).all V.one=true:=λk=>
  ⟨List.all_eq_true.2 λz C=>List.all_eq_true.1 G z (List.mem_of_mem_take C),List.all_eq_true.2 λz C=>List.all_eq_true.1 G z (List.mem_of_mem_drop C)⟩
 unfold putCells at D;split at D
 .split at D
  .rename_i hc;simp only[ζa]at D;subst D;have w:=J.fr.cells;refine⟨by rw[<-w.1];simp_all,by rw[<-h.1];grind,by rw[w.one];grind,?_,?_⟩
   .have e:y.cells.length=size:=by rw[<-w.1];simp_all
    rw[e];exact((h.take o).append (b_.qC w)).append (h.drop _)
   simp only[List.all_append,(u _).1,(u _).2,w.one,hc.2.2,Bool.and_self]
  grind
 .split at D
  .rename_i hc;simp only[ζa]at D;subst D;obtain⟨I,rfl,L⟩:=J.iF;have O:=En hc.2.2 L;have e:I.length=size:=by rw[<-L.1];simp_all
   refine⟨e,by rw[<-h.1];grind,O,?_,?_⟩
   .show b_ ν m H Z _ (B.take o++I++B.drop (o+I.length));rw[e];exact((h.take o).append L).append (h.drop _)
   simp[(u _).1,(u _).2,V.cells,O]
  grind
 split at D
 .rename_i hc;simp only[ζa]at D;subst D;obtain⟨Q,S⟩:=lJ hc.1 J;rw[Q];refine⟨by simp[hc.2.1],by rw[<-h.1];grind,by simp_all,?_,?_⟩
  .exact((h.take o).append (.cons J .nil)).append (h.drop _)
  grind
 grind
theorem tL {size:Nat} {x:SV} {y:V} {xs:List (List V)} (r:dc ν m H Z x y) (D:∀d ob,bh m d=some ob->d_ ν m H Z d ob) (h:iU m size x=some xs):∃ys,dG H size y=some ys/\ga H Z xs ys:=by
 unfold iU at h;split at h
 .split at h
  .rename_i k es z u;obtain⟨_,_,_,e,rfl⟩:=r.jP u;cases e;have o:=D _ _ u;simp[d_]at o;split at h
   .rename_i hk;rw[if_pos hk]at o;split at h
    next w=>simp  at h;subst h;obtain⟨ys,hr,B,C,_⟩:=o;rw[rD hk];exact⟨_,by simp[dG,if_pos w,hr,Ob.rows,if_pos B],C⟩
    grind
   rename_i hk;simp  at h;subst h;refine⟨[],?_,rfl,by simp⟩
   cases k <;> simp[cN]at hk <;> rfl
  grind
 .simp  at h;subst h;rw[r.fr.bK];exact⟨[],rfl,rfl,by simp⟩
 .simp  at h;subst h;rw[r.fr.dD];exact⟨[],rfl,rfl,by simp⟩
 .split at h
  .rename_i es z w;simp  at h;subst h;have hg:=r.fr.good;rcases r.fr.lS with rfl|⟨id,off,ys,rfl,G,hr,B,C⟩
   .exact⟨_,by simp[dG,if_pos w],ga.same (by simpa [V.good]using hg)⟩
   unfold bp at hr;exact⟨_,by simp[dG,if_pos w,hr,if_pos B],C⟩
  grind
 grind
theorem Ev.re {m1:Tb bG} (B:∀d ob,bh m1 d=some ob->bh st.m d=some ob) {d:Nat} (O:d∉st.pin) {ob:bG} {p:Nat×Nat} (D:H.length<=H'.length) (G:∀id,id<H.length->¬fA ν st.m id->¬Rv id->H'[id]? = H[id]?)
 (J:∀id,Z id->bp H' id=bp H id) (U:cD ob=true->fA ν st.m p.1\/Rv p.1\/H.length<=p.1):Ev Rv ν Z st H (iH ν d p) Z { st with m:=bM m1 d ob } H' where
 len:=D
 same:=λid h C _ hr=>G id h C hr
 rows:=λid h=>⟨h,J id h⟩
 own:=λid h=>by
  rcases Dm h with h|⟨h1,rfl⟩
  .obtain⟨k,o,h1,w,z⟩:=h;exact .inl ⟨k,o,B k o h1,w,z⟩
  grind
 frz:=λid h=>.inl h
 pin:=λe I u h=>by
  have:e≠d:=by grind
  obtain⟨o,h1,w,z⟩:=sR (ν:=ν) (p:=p) this u h
  grind
 pins:=rfl
def Kept (dst:Option Nat) (ν:Nu) (m:Tb bG) (ν':Nu) (m':Tb bG):Prop:=∀e u,dst≠some e->bh m' e=some u->∃ob,bh m e=some ob/\ν' e=ν e/\sameShape ob u
theorem Kept.refl {dst:Option Nat}:Kept dst ν m ν m:=λe u _ h=>⟨u,h,rfl,.refl _⟩
theorem Kept.gD {dst:Option Nat} {d:Nat} {ob ob':bG} (h0:bh m d=some ob) (B:sameShape ob ob'):Kept dst ν m ν (bM m d ob'):=λe u _ h=>by
 by_cases k:e=d
 .subst k;rw[cG]at h;grind
 rw[dS m ob' (Ne.symm k)]at h;exact⟨u,h,rfl,.refl _⟩
theorem Kept.add {d:Nat} {ob:bG} {p:Nat×Nat} {m1:Tb bG} (B:∀d ob,bh m1 d=some ob->bh m d=some ob):Kept (some d) ν m (iH ν d p) (bM m1 d ob):=λe u w h=>by
 have:e≠d:=λh=>w (by rw[h])
 obtain⟨o,h1,z,C⟩:=sR (ν:=ν) (p:=p) this u h
 grind
theorem kf {d:Nat}:∀e ob,bh (eo d m) e=some ob->bh m e=some ob:=λ_ _ h=>(nQ h).2
theorem B6.put {k x y:V} {a b r:List (V×V)} (G:k.scalar=true) (h:B6 H Z a b) (O:FR H Z x y) (B:pK k x a=some r):∃D,pK k y b=some D/\B6 H Z r D:=by
 unfold pK at B;obtain⟨f1,f2⟩:=BL   h;split at B
 .rename_i j v I;simp  at B;subst B;obtain⟨L,C,_⟩:=f2 j v I;refine⟨b.set j (k,y),by unfold pK;rw[C],by simp[h.1],λi u w hu z=>?_⟩
  rw[List.getElem?_set]at hu z;split at hu
  .grind
  rename_i e;rw[if_neg e]at z;exact h.2 i u w hu z
 .simp  at B;subst B;refine⟨b++[(k,y)],by unfold pK;simp_all,by simp[h.1],λi u w hu z=>?_⟩
  by_cases J:i<a.length
  .rw[List.getElem?_append_left J]at hu;rw[List.getElem?_append_left (by rw[<-h.1];omega)]at z
   exact h.2 i u w hu z
  rw[List.getElem?_append_right (by rw[<-h.1];omega),<-h.1]at z
  grind
 grind
theorem IV (r:R ν Z st F H) {d:Nat} {cs:List SV} (B:bh st.m d=some (.box cs)):∀{l:List SV} {D:List V},b_ ν st.m H Z l D->l.all (JO st.m d)=true->D.all (qi (ν d).1)=true:=by
 intro l
 induction l with
 | nil=>intro D C _;rw[C.cW];rfl
 | cons a l O=>
  intro D C G;obtain⟨w,D,rfl,g1,g2⟩:=C.inv;simp only[List.all_cons,ζh]at G ⊢;refine⟨?_,O g2 G.2⟩;have u:=G.1;unfold JO at u;split at u
  .rename_i Q T;simp  at u;obtain⟨I,J⟩:=u;split at J
   next S z=>obtain⟨_,_,rfl⟩:=g1.ov z;simp[qi];exact λe=>I (r.inj Q d _ _ z B rfl rfl e)
   grind
  .rcases FR.lW g1.fr with rfl|⟨id,el,off,_,_,_,rfl,L,_⟩
   .rfl
   simp[qi];rintro rfl;exact r.apart d _ B rfl L
  grind
theorem BI (r:R ν Z st F H) {dst:Option Nat} {l:Iu} {svs:List SV} {ys:List V} {sv:SV} (U:b_ ν st.m H Z svs ys) (h:mg st dst l svs=some (sv,st')) :
 ∃y H' ν',eZ H l ys=some (y,H')/\R ν' Z st' F H'/\dc ν' st'.m H' Z sv y/\Ev (λ_=>False) ν Z st H ν' Z st' H'/\Kept dst ν st.m ν' st'.m:=by
 unfold mg at h;split at h
 .
  rename_i size d o x;obtain⟨_,_,rfl,h1,h2⟩:=U.inv;obtain⟨y,_,rfl,h3,h4⟩:=h2.inv;rw[h4.cW];split at h
  .rename_i cs B;obtain⟨av,hp,e⟩:=ζf.1 h;obtain⟨rfl,rfl⟩:=e;obtain⟨_,_,rfl⟩:=h1.ov B;obtain⟨es,G,hr,hc,W⟩:=r.obj d _ B;obtain⟨p1,p2,p3,p4,p5⟩:=b_.TG hc h3 hp W;have J:∀id,id≠(ν d).1->(H.set (ν d).1 (.row es [G.take o++y.cells++G.drop (o+y.cells.length)]))[id]? = H[id]? := λid I=>by grind
   have D:∀id,Z id->Z id/\bp (H.set (ν d).1 (.row es [G.take o++y.cells++G.drop (o+y.cells.length)])) id=bp H id:=λid D=>⟨D,by
    unfold bp;rw[J id (by rintro rfl;exact r.apart d _ B rfl D)]⟩
   refine⟨.undef,H.set (ν d).1 (.row es [G.take o++y.cells++G.drop (o+y.cells.length)]),ν,?_,?_,.v _ _ (.same _ rfl),Ev.gD r B trivial rfl J rfl Zc,Kept.gD B trivial⟩
   .simp only[eZ,hr,List.getElem?_cons_zero,if_pos (And.intro p1 (And.intro p2 p3)),List.set_cons_zero]
   refine r.gD B  trivial rfl J rfl ⟨es,_,?_,p4.mono D (λe _ Q he=>?_),p5⟩
   .grind
   by_cases k:e=d
   .subst k;rw[cG]at he;cases he;exact⟨_,B,rfl,trivial⟩
   rw[dS st.m _ (Ne.symm k)]at he;exact⟨Q,he,rfl,.refl _⟩
  grind
 .
  rename_i size d i o x;obtain⟨_,_,rfl,h1,h2⟩:=U.inv;obtain⟨y,_,rfl,h3,h4⟩:=h2.inv;rw[h4.cW];split at h
  .rename_i k es xs B;split at h
   .rename_i cs ai;split at h
    .rename_i hc;obtain⟨rfl,rfl⟩:=h;obtain⟨_,_,_,e,hk,rfl⟩:=h1.wR B;cases e;have ob:=r.obj d _ B;simp[d_,hk]at ob;obtain⟨rs,hr,hl,hf,aj,ak⟩:=ob;obtain⟨c,al,ae⟩:=hf.get ai;have hi:=(ζe.1 ai).1;rw[List.getElem?_take,if_pos hi,List.getElem?_drop]at al;have hy:=h3.fr.cells;have q1:y.cells.length=size:=by rw[<-hy.1];exact hc.1
     have X:o+size<=c.length:=by rw[<-ae.1];exact hc.2.1
     have q3:y.cells.all V.one=true:=by rw[hy.one];exact hc.2.2
     have C:dm H Z (cs.take o++x.cells++cs.drop (o+x.cells.length)) (c.take o++y.cells++c.drop (o+y.cells.length)):=by
      rw[hc.1,q1];exact((ae.take o).append hy).append (ae.drop _)
     generalize hN:(c.take o++y.cells++c.drop (o+y.cells.length))=nc at C;have J:∀id,id≠(ν d).1->(H.set (ν d).1 (.row es (rs.set ((ν d).2+i) nc)))[id]? = H[id]? := λid I=>by rw[List.getElem?_set];rw[if_neg (Ne.symm I)]
     have L  := hk;have D:∀id,Z id->Z id/\bp (H.set (ν d).1 (.row es (rs.set ((ν d).2+i) nc))) id=bp H id:=λid D=>⟨D,by
      unfold bp;rw[J id (by rintro rfl;exact r.apart d _ B L D)]⟩
     have af:sameShape (.sl k es xs) (.sl k es (xs.set i (cs.take o++x.cells++cs.drop (o+x.cells.length)))):=⟨rfl,rfl,by simp⟩
     refine⟨.undef,H.set (ν d).1 (.row es (rs.set ((ν d).2+i) nc)),ν,?_,?_,.v _ _ (.same _ rfl),Ev.gD r B af rfl J L Zc,Kept.gD B af⟩
     .simp only[eZ,hr,al,if_pos (And.intro q1 (And.intro X q3)),hN]
     refine r.gD B af rfl J L ?_;simp only[d_,hk];have aw:=(ζe.1 hr).1;refine⟨_,List.getElem?_set_self aw,by simpa using hl,?_,?_,λe=>?_⟩
     .have e1:List.take (xs.set i (cs.take o++x.cells++cs.drop (o+x.cells.length))).length (List.drop (ν d).2 (rs.set ((ν d).2+i) nc))=((rs.drop (ν d).2).take xs.length).set i nc:=by
       rw[List.length_set,List.drop_set,if_neg Za,List.take_set]
       congr 1;omega
      rw[e1];exact(hf.set i C).mono D
     .intro cc am u hu;rcases List.mem_or_eq_of_mem_set am with hm|rfl
      .obtain⟨z,ax⟩:=aj cc hm u hu;exact⟨z,ax.mono D⟩
      obtain⟨j,hj⟩:=List.mem_iff_getElem?.1 hu;have an:=(ζe.1 hj).1;rw[<-C.1]at an;exact⟨_,(C.2 j _ u (ζd an) hj).mono D⟩
     obtain⟨a1,S⟩:=ak e;exact⟨a1,by simpa using S⟩
    simp at h
   grind
  grind
 .
  rename_i kk d k x;obtain⟨_,_,rfl,h1,h2⟩:=U.inv;obtain⟨k',_,rfl,h3,h4⟩:=h2.inv;obtain⟨y,_,rfl,h5,h6⟩:=h4.inv;rw[h6.cW];split at h
  .rename_i ay B;split at h
   .rename_i hk;obtain⟨aJ,hp,e⟩:=ζf.1 h;simp  at e;obtain⟨rfl,rfl⟩:=e;obtain⟨_,_,rfl⟩:=h1.C5 B;have aA:=h3.fr.scalar.1 (uA hk);subst aA;obtain⟨aK,hr,aB⟩:=r.obj d _ B;obtain⟨r',aC,aD⟩:=aB.put (uA hk) h5.fr hp;have J:∀id,id≠(ν d).1->(H.set (ν d).1 (.map r'))[id]? = H[id]? := λid I=>by rw[List.getElem?_set];rw[if_neg (Ne.symm I)]
    have D:∀id,Z id->Z id/\bp (H.set (ν d).1 (.map r')) id=bp H id:=λid D=>⟨D,by
     unfold bp;rw[J id (by rintro rfl;exact r.apart d _ B rfl D)]⟩
    refine⟨.undef,H.set (ν d).1 (.map r'),ν,?_,?_,.v _ _ (.same _ rfl),Ev.gD r B trivial rfl J rfl Zc,Kept.gD B trivial⟩
    .simp[eZ,hr,hk,aC]
    refine r.gD B  trivial rfl J rfl ⟨r',?_,aD.mono D⟩;rw[List.getElem?_set_self (ζe.1 hr).1]
   simp at h
  simp at h
 .
  rename_i size s x;obtain⟨y1,_,rfl,h1,h2⟩:=U.inv;obtain⟨y2,_,rfl,h3,h4⟩:=h2.inv;rw[h4.cW];split at h
  .rename_i xs e1 e2;obtain⟨a1,p1,_⟩:=tL h1 r.obj e1;obtain⟨S,p2,X⟩:=tL h3 r.obj e2;have  := List.length_eq_zero_iff.1 (by have:=X.1;simpa using this.symm)
   subst this
   cases dst with
   | none=>simp at h
   | some t=>
    have lit:∀(k:Fl) (x0:V),cN k=false->rj (ν t) k size 0=x0->st.new t=true->(∀y,FR H Z x0 y->y=x0)->FR H Z x0 y1 ->
     ∃y H' ν',eZ H (.append size) [y1,y2]=some (y,H')/\R ν' Z { st with m:=bM st.m t (.sl k size []) } F H'/\dc ν' (bM st.m t (.sl k size [])) H' Z (.own t) y/\Ev (λ_=>False) ν Z st H ν' Z { st with m:=bM st.m t (.sl k size []) } H'/\Kept (some t) ν st.m ν' (bM st.m t (.sl k size [])):=λk x0 hk aE hn hx hf=>by
     have ao:cD (.sl k size [])=true->False:=by simp[cD,hk]
     refine⟨y1,H,iH ν t (ν t),by simp[eZ,p1,p2],r.add hn   (λh=>(ao h).elim) (by simp[d_,hk]),.own _ _ λQ h'=>?_,Ev.add  hn (Nat.le_refl _) (λ_ _ _=>rfl) (λ_ _=>rfl) (λh=>(ao h).elim),Kept.add λ_ _ h=>h⟩
     rw[cG]at h';cases h';exact⟨_,_,_,rfl,by rw[gJ,hx _ hf];exact aE.symm⟩
    cases s with
    | own d=>
     dsimp only at h;split at h
     .rename_i ob B;split at h
      .rename_i C;simp  at h;obtain⟨rfl,rfl⟩:=h;simp[iU,B]at e1
       cases ob with
       | sl k es Y=>
        obtain⟨_,_,_,e,rfl⟩:=h1.jP B;cases e;have r1:R ν Z { st with m:=eo d st.m } F H:=r.less  (λ_ _ h=>h) kf
        obtain⟨n1,_,_,_⟩:=lV C;have ap:d_ (iH ν t (ν d)) (bM (eo d st.m) t (.sl k es Y)) H Z t (.sl k es Y):=by
         have o:=r.obj d _ B;simp[d_,gJ]at o ⊢;exact o
        refine⟨rj (ν d) k es Y.length,H,iH ν t (ν d),by simp[eZ,p1,p2],r1.add C  (λhb=>⟨λT=>?_,r.apart d _ B hb⟩) ap,.own _ _ λQ h'=>?_,?_,Kept.add kf⟩
        .obtain⟨k2,o2,g1,g2,g3⟩:=T;obtain⟨g4,g5⟩:=nQ g1;exact g4 (r.inj d k2 _ o2 B g5 hb g2 g3.symm)
        .rw[cG]at h';cases h';exact⟨_,_,_,rfl,by rw[gJ]⟩
        by_cases hb:cD (.sl k es Y)=true
        .exact Ev.re  (m1:=eo d st.m) kf n1 (Nat.le_refl _) (λ_ _ _ _=>rfl) (λ_ _=>rfl) (λ_=>.inl ⟨d,_,B,hb,rfl⟩)
        exact(Ev.less  kf).trans (Ev.add  C (Nat.le_refl _) (λ_ _ _=>rfl) (λ_ _=>rfl) λh=>absurd h hb)
       | box cs=>cases e1
       | mp ay=>cases e1
      simp at h
     simp at h
    | v x0=>
     cases x0 with
     | bK=>
      dsimp only at h;split at h
      next hn=>simp  at h;obtain⟨rfl,rfl⟩:=h;exact lit .nil _ rfl rfl hn (λy h=>h.bK) h1.fr
      simp at h
     | dD=>
      dsimp only at h;split at h
      next hn=>simp  at h;obtain⟨rfl,rfl⟩:=h;exact lit .emp _ rfl rfl hn (λy h=>h.dD) h1.fr
      simp at h
     | _=>simp at h
    | _=>simp at h
  .rename_i xs zs I e1 e2;split at h
   .rename_i hc;obtain⟨a1,p1,q1⟩:=tL h1 r.obj e1;obtain⟨S,p2,X⟩:=tL h3 r.obj e2
    cases dst with
    | none=>simp at h
    | some t=>
     dsimp only at h;generalize aq:giveUp st.m s=m1 at h;split at h
     .rename_i C;simp  at h;obtain⟨rfl,rfl⟩:=h;obtain⟨n1,_,_,_⟩:=lV C;have grow:∃H1,gH H y1=some H1/\H1.length=H.length/\(∀id,¬fA ν st.m id->H1[id]? = H[id]?) /\
       (∀id,fA ν m1 id->H1[id]? = H[id]?)/\(∀id,Z id->bp H1 id=bp H id):=by
       subst aq
       cases s with
       | own d=>
        simp[iU]at e1;split at e1
        .rename_i k es Y B;obtain⟨_,_,_,e,rfl⟩:=h1.jP B;cases e
         by_cases hk:cN k=true
         .have o:=r.obj d _ B;simp[d_,hk]at o;obtain⟨ys,hr,_⟩:=o;have L  := hk;have J:∀id,id≠(ν d).1->(H.set (ν d).1 .dead)[id]? = H[id]? := λid I=>by rw[List.getElem?_set];rw[if_neg (Ne.symm I)]
          refine⟨H.set (ν d).1 .dead,by rw[rD hk];simp[gH,hr],by simp,λid T=>J id λe=>T ⟨d,_,B,L,e.symm⟩,λid T=>J id λe=>?_,λid D=>?_⟩
          .obtain⟨k2,o2,g1,g2,g3⟩:=T;obtain⟨g4,g5⟩:=nQ g1;exact g4 (r.inj d k2 _ o2 B g5 L g2 (by rw[g3,e]))
          unfold bp;rw[J id (by rintro rfl;exact r.apart d _ B L D)]
         refine⟨H,?_,rfl,λ_ _=>rfl,λ_ _=>rfl,λ_ _=>rfl⟩
         cases k <;> simp[cN]at hk <;> rfl
        simp at e1
       | v x0=>
        refine⟨H,?_,rfl,λ_ _=>rfl,λ_ _=>rfl,λ_ _=>rfl⟩
        cases x0 <;> simp[Gm]at hc
        .rw[h1.fr.dD];rfl
        rw[h1.fr.bK];rfl
       | _=>simp[Gm]at hc
      obtain⟨H1,g1,g2,g3,g4,g5⟩:=grow;have O:∀e ob,bh m1 e=some ob->bh st.m e=some ob:=by
       subst aq;cases s <;> first|exact λ_ _ h=>h|exact kf
      have ad:∀id,fA ν m1 id->id<H.length:=λid ⟨k,o,w1,w2,w3⟩=>r.lt ⟨k,o,O k o w1,w2,w3⟩
      have aa:∀id,id<H.length->(H1++[Ob.row size (a1++S)])[id]? = H1[id]? := λid hl=>List.getElem?_append_left (by rw[g2];exact hl)
      have ah:∀id,Z id->bp (H1++[Ob.row size (a1++S)]) id=bp H id:=λid D=>by
       have:=g5 id D;unfold bp at this ⊢;rw[aa id (r.uZ D)];exact this
      have r1  := r.less  (λ_ _ h=>h) O
      have r2  := r1.heap (λid T=>by rw[aa id (ad id T)];exact g4 id T) ah
      have ff:=(q1.append X).mono   λid D=>⟨D,ah id D⟩
      have ab:(H1++[Ob.row size (a1++S)])[H.length]? = some (.row size (a1++S)):=by
       rw[<-g2];simp
      refine⟨.hsl H.length size 0 (xs.length+zs.length),H1++[Ob.row size (a1++S)],iH ν t (H.length,0),?_,?_,?_,?_,Kept.add O⟩
      .have ar:S≠[]:=by
        rintro rfl;have aF  := List.length_eq_zero_iff.1 (by have:=X.1;simpa using this)
        exact I aF
       have aG:a1.length+S.length<=2147483648:=by rw[<-q1.1,<-X.1];exact hc.1
       have aH:=q1.1;have aI:=X.1
       cases S with
       | nil=>exact absurd rfl ar
       | cons w ws=>
        simp only[eZ,p1,p2,if_pos aG,g1,Option.map_some,aH,aI]
      .refine r2.add C (λ_=>⟨λT=>?_,λD=>?_⟩) ?_
       .exact absurd (ad _ T) Zc
       .exact absurd (r.uZ D) Zc
       simp only[d_,gJ];refine⟨_,ab,by simp[q1.1,X.1],?_,ff.Fs,λ_=>⟨trivial,by simp[q1.1,X.1]⟩⟩
       have:(xs++zs).length=(a1++S).length:=by simp[q1.1,X.1]
       rw[this,List.drop_zero,List.take_length];exact ff
      .refine .own _ _ λQ h'=>?_
       simp only at h';rw[cG]at h';cases h';exact⟨_,_,_,rfl,by simp[rj,gJ]⟩
      refine Ev.re O n1 (by simp[g2]) (λid hl T _=>?_) ah (λ_=>.inr (.inr (Nat.le_refl _)))
      rw[aa id hl];exact g3 id T
     simp at h
   simp at h
  simp at h
 .
  rename_i size d o x l;obtain⟨_,_,rfl,h1,h2⟩:=U.inv;obtain⟨y,aL,rfl,h3,h4⟩:=h2.inv;split at h
  .rename_i au;split at h
   .rename_i cs B;obtain⟨av,hp,e⟩:=ζf.1 h;simp  at e;obtain⟨rfl,rfl⟩:=e;obtain⟨_,_,rfl⟩:=h1.ov B;obtain⟨es,G,hr,hc,W⟩:=r.obj d _ B;obtain⟨p1,p2,p3,p4,p5⟩:=b_.TG hc h3 hp W;have J:∀id,id≠(ν d).1->(H.set (ν d).1 (.row es [G.take o++y.cells++G.drop (o+y.cells.length)]))[id]? = H[id]? := λid I=>by rw[List.getElem?_set];rw[if_neg (Ne.symm I)]
    have D:∀id,Z id->Z id/\bp (H.set (ν d).1 (.row es [G.take o++y.cells++G.drop (o+y.cells.length)])) id=bp H id:=λid D=>⟨D,by
     unfold bp;rw[J id (by rintro rfl;exact r.apart d _ B rfl D)]⟩
    refine⟨.undef,H.set (ν d).1 (.row es [G.take o++y.cells++G.drop (o+y.cells.length)]),ν,?_,?_,.v _ _ (.same _ rfl),Ev.gD r B trivial rfl J rfl Zc,Kept.gD B trivial⟩
    .simp only[eZ,IV r B h4 au,if_true,hr,List.getElem?_cons_zero,if_pos (And.intro p1 (And.intro p2 p3)),List.set_cons_zero]
    refine r.gD B  trivial rfl J rfl ⟨es,_,?_,p4.mono D (λe _ Q he=>?_),p5⟩
    .have:=(ζe.1 hr).1;rw[List.getElem?_set_self this]
    by_cases k:e=d
    .subst k;rw[cG]at he;cases he;exact⟨_,B,rfl,trivial⟩
    rw[dS st.m _ (Ne.symm k)]at he;exact⟨Q,he,rfl,.refl _⟩
   simp at h
  simp at h
 grind
end
def yY (d:Nat) (st:St):Option St:=
 match bh st.m d with
 | some (.sl k es u)=>some { st with g:=BJ (SV.sub d (nO k es u)) st.g,m:=mapM (SV.uk d (nO k es u)) (eo d st.m) }
 | _=>none
def U4 (st:St):Loc->Option SV
 | .s n=>bh st.g n
 | .c b i=>match bh st.m b with
  | some (.box cs)=>cs[i]?
  | _=>none
def ghost (x:Gh) (st:St):Option St:=
 match x with
 | .closeS l=>match U4 st l with
  | some (.own d)=>yY d st
  | some _=>some st
  | none=>none
 | .close d=>yY d st
 | .closeB d=>match bh st.m d with
  | some (.box u)=>match dw u with
   | some w=>some { st with g:=BJ (SV.Bu d w) st.g,m:=mapM (SV.qB d w) (eo d st.m) }
   | none=>none
  | _=>none
 | .canon (.s n) d es=>match bh st.g n with
  | some (.v .bK)=>if st.new d then some { st with g:=bM st.g n (.own d),m:=bM st.m d (.sl .nil es []) } else none
  | some (.v .dD)=>if st.new d then some { st with g:=bM st.g n (.own d),m:=bM st.m d (.sl .emp es []) } else none
  | some (.own e)=>if e=d then some st else if st.new d then some { st with g:=zG e d st.g,m:=uo e d st.m } else none
  | some (.ptr e _)=>if e=d then some st else if st.new d then some { st with g:=zG e d st.g,m:=uo e d st.m } else none
  | _=>none
 | .canon (.c b i) d es=>match bh st.m b with
  | some (.box u)=>match u[i]? with
   | some (.v .bK)=>if st.new d then some { st with m:=bM (bM st.m d (.sl .nil es [])) b (.box (u.set i (.own d))) } else none
   | some (.v .dD)=>if st.new d then some { st with m:=bM (bM st.m d (.sl .emp es [])) b (.box (u.set i (.own d))) } else none
   | some (.own e)=>if e=d then some st else if st.new d then some { st with g:=zG e d st.g,m:=uo e d st.m } else none
   | _=>none
  | _=>none
 | .keep gs z=>match lC st.g gs,lC st.m z with
  | some g,some m=>some { st with g:=g,m:=m }
  | _,_=>none
 | .drop ds=>some { st with g:=oN ds st.g }
section
variable {Rv:Nat->Prop} {ν ν':Nu} {Z Z':Nat->Prop} {st st':St} {m m':Tb bG} {F F':Frame} {H H':bl} {N:Nat->FuncId}
theorem Nl (r:R ν Z st F H) {dst:Option Nat} {size d:Nat} {O U:Bool} {W:List SV} {ys:List V} {sv:SV} (D:b_ ν st.m H Z (.own d::W) ys) (h:zW st dst size O U d W=some (sv,st')) :
 ∃y ν',bn N (.slice size O U) ys=some y/\R ν' Z st' F H/\dc ν' st'.m H Z sv y/\Ev Rv ν Z st H ν' Z st' H:=by
 unfold zW at h;obtain⟨y0,zs,rfl,h1,T⟩:=D.inv;split at h
 .rename_i k es G ws t u X;split at h
  .rename_i hk;obtain⟨⟨l,hh⟩,Y,h⟩:=ζg.1 h;obtain⟨⟨a,b⟩,B,h⟩:=ζg.1 h;dsimp only at h;split at h
   .rename_i w;obtain⟨rfl,rfl⟩:=h;obtain⟨_,_,_,e,rfl⟩:=h1.jP u;cases e;have I:b<=G.length/\a<=b:=by
     unfold dU at B
     grind
    have o:=r.obj d _ u;simp[d_,hk.1]at o;obtain⟨rs,hr,hl,hf,Q,_⟩:=o;have z  := hk.1;have r1:R ν Z { st with m:=eo d st.m } F H:=r.less  (λ_ _ h=>h) kf
    have J:¬fA ν (eo d st.m) (ν d).1:=by
     rintro⟨k2,o2,g1,g2,g3⟩;obtain⟨g4,g5⟩:=nQ g1;exact g4 (r.inj d k2 _ o2 u g5 z g2 g3.symm)
    have C:((G.take b).drop a).length=b-a:=by simp_all
    refine⟨.hsl (ν d).1 es ((ν d).2+a) (b-a),iH ν t ((ν d).1,(ν d).2+a),?_,?_,?_,?_⟩
    .have L:=b_.dw T X;rw[rD hk.1];simp[bn,L.lB Y,gO,if_pos hk.2,B]
    .refine r1.add w (λ_=>⟨J,r.apart d _ u z⟩) ?_
     simp[d_,cN,gJ];have:=(hf.take b).drop a;have e:List.drop a (List.take b (List.take G.length (List.drop (ν d).2 rs)))=List.take (b-a) (List.drop ((ν d).2+a) rs):=by
      rw[List.take_take,Nat.min_eq_left I.1,List.drop_take,List.drop_drop]
     grind
    .refine .own _ _ λaa S=>?_
     rw[cG]at S;cases S;exact⟨_,_,_,rfl,by rw[C];simp[rj,gJ]⟩
    exact Ev.re (st:=st) kf (lV w).1 (Nat.le_refl _) (λ_ _ _ _=>rfl) (λ_ _=>rfl) (λ_=>.inl ⟨d,_,u,z,rfl⟩)
   grind
  grind
 grind
theorem EE {f:SV->SV}:∀{g:Tb SV} {s:Nat},bh (BJ f g) s=(bh g s).map f
 | [],s=>rfl
 | (k,x)::r,s=>by
  simp[BJ,bh];split
  .rfl
  exact EE
def xH (f:List SV->List SV):bG->bG
 | .box cs=>.box (f cs)
 | o=>o
theorem DZ {f:List SV->List SV}:∀{m:Tb bG} {d:Nat},bh (mapM f m) d=(bh m d).map (xH f)
 | [],d=>rfl
 | (k,x)::r,d=>by
  cases x <;> simp[mapM,bh] <;> split <;> first|rfl|exact DZ
theorem s9 {d:Nat} {w:V}:∀{l:List SV} {j:Nat},(SV.uk d w l)[j]? = (l[j]?).map (SV.sub d w)
 | [],j=>by simp[SV.uk]
 | x::r,0=>by simp[SV.uk]
 | x::r,j+1=>by simp[SV.uk,s9 ]
theorem rH {d:Nat} {w:List V}:∀{l:List SV} {j:Nat},(SV.qB d w l)[j]? = (l[j]?).map (SV.Bu d w)
 | [],j=>by simp[SV.qB]
 | x::r,0=>by simp[SV.qB]
 | x::r,j+1=>by simp[SV.qB,rH ]
theorem oD {d:Nat} {w:V}:∀{l:List SV},(SV.uk d w l).length=l.length
 | []=>rfl
 | x::r=>by simp[SV.uk,oD ]
theorem nh {d:Nat} {w:List V}:∀{l:List SV},(SV.qB d w l).length=l.length
 | []=>rfl
 | x::r=>by simp[SV.qB,nh ]
theorem dc.sub {sv:SV} {y:V} {d:Nat} {k:Fl} {es:Nat} {xs:List (List V)} (h0:bh m d=some (.sl k es xs)) (G:FR H Z' (nO k es xs) (rj (ν d) k es xs.length)) (J:∀id,Z id->Z' id)
 (U:∀e ob',bh m' e=some ob'->e≠d/\∃ob,bh m e=some ob/\sameShape ob ob') (r:dc ν m H Z sv y):dc ν m' H Z' (sv.sub d (nO k es xs)) y:=by
 have w:∀id,Z id->Z' id/\bp H id=bp H id:=λid h=>⟨J id h,rfl⟩
 have C:∀e ob',bh m' e=some ob'->∃ob,bh m e=some ob/\ν e=ν e/\sameShape ob ob':=λe ob' h=>by grind
 induction r with
 | v x y h=>exact .v x y (h.mono w)
 | own e y h=>
  simp[SV.sub];split
  next I=>subst I;obtain⟨_,_,_,e1,rfl⟩:=h _ h0;cases e1;exact .v _ _ G
  exact(dc.own e y h).mono w λe _=>C e
 | ptr e o y h=>exact(dc.ptr e o y h).mono w λe _=>C e
 | el e i o y h=>exact(dc.el e i o y h).mono w λe _=>C e
 | mp e y h=>exact(dc.mp e y h).mono w λe _=>C e
 | clo f a b z L D S hva O B Q=>
  refine .clo f _ _ z L (by rw[oD];omega) (by rw[oD];omega) (λj u v hu hv=>?_) (λj u v hu hv=>?_)
  .rw[s9,ζf]at hu;grind
  rw[s9,ζf]at hu;grind
 | tup a z D hva B=>
  refine .tup _ z (by rw[oD];omega) (λj u v hu hv=>?_)
  rw[s9,ζf]at hu;grind
 | agg a z D hva B=>
  refine .agg _ z (by rw[oD];omega) (λj u v hu hv=>?_)
  rw[s9,ζf]at hu;grind
 | yl id=>exact .yl id
theorem Rp {f:FuncId} {a b:List SV} {y:V} (r:dc ν m H Z (.clo f a b) y):dc ν m H Z (OU f a b) y:=by
 unfold OU;split
 .rename_i x z D G;cases r with|clo _ _ _ w B I J hva u=>
  have h1:=b_.dw (ν:=ν) (m:=m) (H:=H) (Z:=Z) (ys:=w) ⟨I,hva⟩ D;have C:=b_.dw (ν:=ν) (m:=m) (H:=H) (Z:=Z) (ys:=B) ⟨J,u⟩ G;exact .v _ _ (.clo f x z w B h1.1 C.1 h1.2 C.2)
 exact r
theorem dc.Bu {sv:SV} {y:V} {d:Nat} {cs:List SV} {xs:List V} (h0:bh m d=some (.box cs)) (O:∀o,o<=xs.length->FR H Z' (.fptr (xs.drop o)) (.hptr (ν d).1 0 o)) (U:∀id,Z id->Z' id)
 (W:∀e ob',bh m' e=some ob'->e≠d/\∃ob,bh m e=some ob/\sameShape ob ob') (r:dc ν m H Z sv y):dc ν m' H Z' (sv.Bu d xs) y:=by
 have z:∀id,Z id->Z' id/\bp H id=bp H id:=λid h=>⟨U id h,rfl⟩
 have D:∀e ob',bh m' e=some ob'->∃ob,bh m e=some ob/\ν e=ν e/\sameShape ob ob':=λe ob' h=>by obtain⟨_,ob,h1,L⟩:=W e ob' h;exact⟨ob,h1,rfl,L⟩
 induction r with
 | v x y h=>exact .v x y (h.mono z)
 | own e y h=>exact(dc.own e y h).mono z λe _=>D e
 | ptr e o y h=>
  simp only[SV.Bu];split
  .rename_i Q;subst Q;obtain⟨_,e1,rfl⟩:=h _ h0;split
   next S=>exact .v _ _ (O o S)
   exact(dc.ptr e o _ h).mono z λe _=>D e
  exact(dc.ptr e o y h).mono z λe _=>D e
 | el e i o y h=>exact(dc.el e i o y h).mono z λe _=>D e
 | mp e y h=>exact(dc.mp e y h).mono z λe _=>D e
 | clo f a b G T I X hva Y B J=>
  refine Rp (.clo f _ _ G T (by rw[nh];exact I) (by rw[nh];exact X) (λj u v hu hv=>?_) (λj u v hu hv=>?_))
  .rw[rH,ζf]at hu;obtain⟨C,w,rfl⟩:=hu;exact B j C v w hv
  rw[rH,ζf]at hu;obtain⟨C,w,rfl⟩:=hu;exact J j C v w hv
 | tup a G I hva B=>
  refine .tup _ G (by rw[nh];exact I) (λj u v hu hv=>?_)
  rw[rH,ζf]at hu;obtain⟨C,w,rfl⟩:=hu;exact B j C v w hv
 | agg a G I hva B=>
  refine .agg _ G (by rw[nh];exact I) (λj u v hu hv=>?_)
  rw[rH,ζf]at hu;obtain⟨C,w,rfl⟩:=hu;exact B j C v w hv
 | yl id=>exact .yl id
theorem d_.xH {d:Nat} {ob:bG} {f:List SV->List SV} (D:∀id,Z id->Z' id) (U:∀l,(f l).length=l.length)
 (G:∀cs B,b_ ν m H Z cs B->b_ ν m' H Z' (f cs) B) (o:d_ ν m H Z d ob):d_ ν m' H Z' d (xH f ob):=by
 have u:∀id,Z id->Z' id/\bp H id=bp H id:=λid h=>⟨D id h,rfl⟩
 cases ob with
 | sl k es Q=>
  simp[Go.VE.xH,d_]at o ⊢;split
  next hk=>rw[if_pos hk]at o;obtain⟨I,h1,w,C,J,L⟩:=o;exact⟨I,h1,w,C.mono u,J.mono u,L⟩
  grind
 | box cs=>
  obtain⟨es,B,h1,w,C⟩:=o;exact⟨es,B,h1,G cs B w,C⟩
 | mp O=>
  obtain⟨z,h1,w⟩:=o;exact⟨z,h1,w.mono u⟩
theorem wv {f:List SV->List SV} {ob:bG}:cD (xH f ob)=cD ob:=by cases ob <;> rfl
theorem Lc {f:List SV->List SV} {ob:bG}:sameShape ob (xH f ob):=by cases ob <;> simp[xH,sameShape]
theorem R.shut (r:R ν Z st F H) {d:Nat} {ob:bG} (h0:bh st.m d=some ob) {fs:SV->SV} {D:List SV->List SV} (hl:∀l,(D l).length=l.length) (hg:∀l (j:Nat),(D l)[j]? = (l[j]?).map fs)
 (B:∀id,Z' id↔Z id\/(cD ob=true/\id=(ν d).1)) (G:cD ob=true->∃es ys,H[(ν d).1]? = some (.row es ys)/\uO H Z ys)
 (hf:∀m',(∀e ob',bh m' e=some ob'->e≠d/\∃ob,bh st.m e=some ob/\sameShape ob ob')->∀sv y,dc ν st.m H Z sv y->dc ν m' H Z' (fs sv) y) :
 R ν Z' { st with g:=BJ fs st.g,m:=mapM D (eo d st.m) } F H/\Ev Rv ν Z st H ν Z' { st with g:=BJ fs st.g,m:=mapM D (eo d st.m) } H:=by
 have key:∀e ob',bh (mapM D (eo d st.m)) e=some ob'->e≠d/\∃ob,bh st.m e=some ob/\ob'=xH D ob:=λe ob' h=>by
  rw[DZ,ζf]at h;obtain⟨o,h1,rfl⟩:=h;obtain⟨w,h3⟩:=nQ h1
  grind
 have L:∀e ob',bh (mapM D (eo d st.m)) e=some ob'->e≠d/\∃ob,bh st.m e=some ob/\sameShape ob ob':=λe ob' h=>by
  obtain⟨h1,o,w,rfl⟩:=key e ob' h;exact⟨h1,o,w,Lc⟩
 have hF:=hf _ L;have T:∀U C,b_ ν st.m H Z U C->b_ ν (mapM D (eo d st.m)) H Z' (D U) C:=λU C h=>by
  refine⟨by rw[hl];exact h.1,λj u v hu hv=>?_⟩
  rw[hg,ζf]at hu;obtain⟨u',W,rfl⟩:=hu;exact hF u' v (h.2 j u' v W hv)
 have z  := λid h=>(B id).2 (.inl h)
 refine⟨⟨λs sv S=>?_,λe ob' X=>?_,λd1 d2 o1 o2 h1 w J b2 hp=>?_,λd1 o1 h1 J=>?_,λid h=>?_,⟨λid es ys O hr c hc u hu=>?_⟩⟩,⟨Nat.le_refl _,λ_ _ _ _ _=>rfl,λid h=>⟨z id h,rfl⟩,?_,?_,?_,rfl⟩⟩
 .rw[EE,ζf]at S;obtain⟨Q,Y,rfl⟩:=S;exact hF Q _ (r.slot s Q Y)
 .obtain⟨h1,o,w,rfl⟩:=key e ob' X;exact d_.xH z hl T (r.obj e o w)
 .obtain⟨_,p1,k1,rfl⟩:=key d1 o1 h1;obtain⟨_,p2,k2,rfl⟩:=key d2 o2 w;rw[wv]at J b2;exact r.inj d1 d2 p1 p2 k1 k2 J b2 hp
 .obtain⟨aa,p1,k1,rfl⟩:=key d1 o1 h1;rw[wv]at J;intro O;rcases (B _).1 O with O|⟨I,X⟩
  .exact r.apart d1 p1 k1 J O
  exact aa (r.inj d1 d p1 ob k1 h0 J I X)
 .rcases (B id).1 h with h|⟨I,rfl⟩
  .exact r.zrow id h
  obtain⟨es,ys,hr,_⟩:=G I;unfold bp;rw[hr];rfl
 .rcases (B id).1 O with h|⟨I,rfl⟩
  .obtain⟨x,hx⟩:=r.deep.row id es ys h hr c hc u hu;exact⟨x,hx.mono λk hk=>⟨z k hk,rfl⟩⟩
  obtain⟨ad,ae,ab,S⟩:=G I;unfold bp at hr;rw[ab]at hr;obtain⟨_,rfl⟩:=hr;obtain⟨x,hx⟩:=S c hc u hu;exact⟨x,hx.mono λk hk=>⟨z k hk,rfl⟩⟩
 .rintro id ⟨e,o,h1,w,h3⟩;obtain⟨_,p,k1,rfl⟩:=key e o h1;rw[wv]at w;exact .inl ⟨e,p,k1,w,h3⟩
 .intro id h;rcases (B id).1 h with h|⟨I,rfl⟩
  .grind
  exact .inr (.inl ⟨d,ob,h0,I,rfl⟩)
 grind
theorem Ho (r:R ν Z st F H) {d:Nat} (h:yY d st=some st'):∃Z',R ν Z' st' F H/\Ev Rv ν Z st H ν Z' st' H:=by
 simp[yY]at h;split at h
 .rename_i k es w u;simp  at h;subst h;have o:=r.obj d _ u;refine⟨λid=>Z id\/(cD (.sl k es w)=true/\id=(ν d).1),R.shut r u (λ_=>oD) (λ_ _=>s9) (λ_=>Iff.rfl) (λB=>?_) (λm' z G y hr=>?_)⟩
  .have hk:cN k=true:=B;simp[d_,hk]at o
   grind
  refine dc.sub u ?_ (λid h=>.inl h) z hr
  by_cases hk:cN k=true
  .simp[d_,hk]at o;obtain⟨I,hr,C,D,J,_⟩:=o;rw[rD hk];have e:nO k es w=.fsl es w:=by cases k <;> simp[cN]at hk <;> rfl
   rw[e];refine FR.KL (.inr ⟨hk,rfl⟩) (by unfold bp;rw[hr];rfl) C (D.mono λid h=>⟨.inl h,rfl⟩)
  cases k <;> simp[cN]at hk
  .exact .same _ rfl
  exact .same _ rfl
 grind
theorem LW (r:R ν Z st F H) {d:Nat} (h:ghost (.closeB d) st=some st'):∃Z',R ν Z' st' F H/\Ev Rv ν Z st H ν Z' st' H:=by
 simp[ghost]at h;split at h
 .rename_i I w;split at h
  .rename_i J L;simp  at h;subst h;obtain⟨es,z,hr,hc,_⟩:=r.obj d _ w;have C:=hc.dw L;have O:uO H Z [z]:=by
    intro c B u hu;simp[List.mem_singleton]at B;subst B;obtain⟨j,Q⟩:=List.mem_iff_getElem?.1 hu;have S:j<J.length:=by rw[C.1];grind
    exact⟨_,C.2 j _ u (ζd S) Q⟩
   refine⟨λid=>Z id\/(cD (.box I)=true/\id=(ν d).1),R.shut r w (λ_=>nh) (λ_ _=>rH) (λ_=>Iff.rfl) (λT=>⟨es,_,hr,O⟩) (λm' D U y G=>?_)⟩
   refine dc.Bu w (λo W=>?_) (λid h=>.inl h) D G
   exact FR.BZ (.inr ⟨rfl,rfl⟩) (show bp H (ν d).1=some (es,[z])by unfold bp;rw[hr];rfl) rfl (by rw[<-C.1];omega) ((C.drop o).mono λid h=>⟨.inl h,rfl⟩)
  grind
 grind
theorem sK {d e:Nat}:∀{l:List SV} {j:Nat},(SV.uq d e l)[j]? = (l[j]?).map (SV.tN d e)
 | [],j=>by simp[SV.uq]
 | x::r,0=>by simp[SV.uq]
 | x::r,j+1=>by simp[SV.uq,sK ]
theorem oH {d e:Nat}:∀{l:List SV},(SV.uq d e l).length=l.length
 | []=>rfl
 | x::r=>by simp[SV.uq,oH ]
theorem EH {d e:Nat}:∀{g:Tb SV} {s:Nat},bh (zG d e g) s=(bh g s).map (SV.tN d e)
 | [],s=>rfl
 | (k,x)::r,s=>by
  simp[zG,bh];split
  .rfl
  exact EH
theorem zf {d e:Nat} (B:d≠e):∀{m:Tb bG} {k:Nat},bh m e=none->bh (uo d e m) k=(if k=d then none else(bh m (if k=e then d else k)).map (bG.tN d e))
 | [],k,_=>by simp[uo,bh]
 | (n,x)::r,k,h=>by
  simp[bh]at h;split at h
  .simp_all
  have D:=zf B  (k:=k) h;simp[uo,bh]
  grind
def uE (ν:Nu) (d e:Nat):Nu:=λk=>if k=e then ν d else ν k
theorem dc.tN {sv:SV} {y:V} {d e:Nat} (U:bh m e=none) (D:sv.cR e=false) (J:d≠e) (r:dc ν m H Z sv y):dc (uE ν d e) (uo d e m) H Z (sv.tN d e) y:=by
 have key:∀k,k≠e->∀w,bh (uo d e m) (if k=d then e else k)=some w->∃ob,bh m k=some ob/\uE ν d e (if k=d then e else k)=ν k/\w=ob.tN d e:=λk hk w h=>by
  rw[zf J U]at h
  by_cases h1:k=d
  .subst h1;rw[if_pos rfl,if_neg (Ne.symm J),if_pos rfl,ζf]at h;obtain⟨ob,B,rfl⟩:=h;exact⟨ob,B,by unfold uE;grind,rfl⟩
  rw[if_neg h1,if_neg h1,if_neg hk,ζf]at h;obtain⟨ob,B,rfl⟩:=h;exact⟨ob,B,by unfold uE;grind,rfl⟩
 induction r with
 | v x y h=>exact .v x y h
 | own k y h=>
  have hk:k≠e:=by rintro rfl;simp[SV.cR]at D
  refine .own _ y λw G=>?_
  obtain⟨ob,h1,B,rfl⟩:=key k hk w G;obtain⟨_,_,_,rfl,rfl⟩:=h ob h1;exact⟨_,_,_,rfl,by rw[B]⟩
 | ptr k o y h=>
  have hk:k≠e:=by rintro rfl;simp[SV.cR]at D
  refine .ptr _ o y λw G=>?_
  obtain⟨ob,h1,B,rfl⟩:=key k hk w G;obtain⟨_,rfl,rfl⟩:=h ob h1;exact⟨_,rfl,by rw[B]⟩
 | el k i o y h=>
  have hk:k≠e:=by rintro rfl;simp[SV.cR]at D
  refine .el _ i o y λw G=>?_
  obtain⟨ob,h1,B,rfl⟩:=key k hk w G;obtain⟨_,_,_,rfl,S,rfl⟩:=h ob h1;exact⟨_,_,_,rfl,S,by rw[B]⟩
 | mp k y h=>
  have hk:k≠e:=by rintro rfl;simp[SV.cR]at D
  refine .mp _ y λw G=>?_
  obtain⟨ob,h1,B,rfl⟩:=key k hk w G;obtain⟨_,rfl,rfl⟩:=h ob h1;exact⟨_,rfl,by rw[B]⟩
 | clo f a b L T Q X hva W C O=>
  simp[SV.cR]at D;refine .clo f _ _ L T (by rw[oH];omega) (by rw[oH];omega) (λj u v hu hv=>?_) (λj u v hu hv=>?_)
  .rw[sK,ζf]at hu;obtain⟨I,z,rfl⟩:=hu;exact C j I v z hv (sY D.1 z)
  rw[sK,ζf]at hu;obtain⟨I,z,rfl⟩:=hu;exact O j I v z hv (sY D.2 z)
 | tup a L Q hva C=>
  refine .tup _ L (by rw[oH];omega) (λj u v hu hv=>?_)
  rw[sK,ζf]at hu;obtain⟨I,z,rfl⟩:=hu;exact C j I v z hv (sY D z)
 | agg a L Q hva C=>
  refine .agg _ L (by rw[oH];omega) (λj u v hu hv=>?_)
  rw[sK,ζf]at hu;obtain⟨I,z,rfl⟩:=hu;exact C j I v z hv (sY D z)
 | yl id=>exact .yl id
theorem GX (r:R ν Z st F H) {d e:Nat} (B:d≠e) (Y:st.new e=true):R (uE ν d e) Z { st with g:=zG d e st.g,m:=uo d e st.m } F H/\Ev Rv ν Z st H (uE ν d e) Z { st with g:=zG d e st.g,m:=uo d e st.m } H:=by
 obtain⟨n1,J,X,n4⟩:=lV Y;have key:∀k w,bh (uo d e st.m) k=some w->∃k0 ob,bh st.m k0=some ob/\w=ob.tN d e/\uE ν d e k=ν k0/\k≠d/\(k=e/\k0=d\/k≠e/\k0=k):=λk w h=>by
  rw[zf B J]at h;split at h
  .simp_all
  rename_i h1;rw[ζf]at h;obtain⟨ob,z,rfl⟩:=h
  by_cases C:k=e
  .rw[if_pos C]at z;exact⟨d,ob,z,rfl,by unfold uE;grind,h1,.inl ⟨C,rfl⟩⟩
  rw[if_neg C]at z;exact⟨k,ob,z,rfl,by unfold uE;grind,h1,.inr ⟨C,rfl⟩⟩
 have L:∀ob:bG,cD (ob.tN d e)=cD ob:=λob=>by cases ob <;> rfl
 refine⟨⟨λs sv U=>?_,λk w hk=>?_,λd1 d2 o1 o2 h1 z D W hp=>?_,λd1 o1 h1 D=>?_,r.zrow,r.deep⟩,⟨Nat.le_refl _,λ_ _ _ _ _=>rfl,λid h=>⟨h,rfl⟩,?_,λ_ h=>.inl h,?_,rfl⟩⟩
 .rw[EH,ζf]at U;obtain⟨O,G,rfl⟩:=U;exact dc.tN J (xJ X G) B (r.slot s O G)
 .obtain⟨k0,ob,h1,rfl,z,_,_⟩:=key k w hk;have o:=r.obj k0 ob h1
  cases ob with
  | sl fl es xs=>simp[bG.tN,d_,z]at o ⊢;omega
  | box cs=>
   obtain⟨es,Q,g1,g2,g3⟩:=o;have S  := by have:=yb n4 h1;simpa [bG.cR]using this
   refine⟨es,Q,by grind,⟨by rw[oH];exact g2.1,λj u v hu hv=>?_⟩,g3⟩
   rw[sK,ζf]at hu;obtain⟨u',I,rfl⟩:=hu;exact dc.tN J (sY S I) B (g2.2 j u' v I hv)
  | mp aa=>simp[bG.tN,d_,z]at o ⊢;omega
 .obtain⟨k1,p1,g1,rfl,e1,c1,T⟩:=key d1 o1 h1;obtain⟨k2,p2,g2,rfl,e2,c3,c4⟩:=key d2 o2 z;rw[L]at D W;have:=r.inj k1 k2 p1 p2 g1 g2 D W Zd
  omega
 .obtain⟨k1,p1,g1,rfl,e1,_⟩:=key d1 o1 h1;rw[L]at D;rw[e1];exact r.apart k1 p1 g1 D
 .rintro id ⟨k,o,h1,z,C⟩;obtain⟨k1,p1,g1,rfl,e1,_⟩:=key k o h1;rw[L]at z;exact .inl ⟨k1,p1,g1,z,by grind⟩
 intro k hk w h;obtain⟨k1,p1,g1,rfl,e1,c1,T⟩:=key k w h;rcases T with⟨rfl,_⟩|⟨T,rfl⟩
 .grind
 exact⟨p1,g1,e1,by cases p1 <;> simp[bG.tN,sameShape]⟩
theorem R.WR (r:R ν Z st F H) {n:Nat} {sv:SV} (h:dc ν st.m H Z sv (get F n)):R ν Z { st with g:=bM st.g n sv } F H where
 slot:=λs x u=>by
  by_cases e:n=s
  .subst e;rw[cG]at u;grind
  rw[dS st.g sv e]at u;exact r.slot s x u
 obj:=r.obj
 inj:=r.inj
 apart:=r.apart
 zrow:=r.zrow
 deep:=r.deep
theorem MO (r:R ν Z st F H) {n d es:Nat} {k:Fl} {x:V} (hk:nO k es []=x/\cN k=false) (D:bh st.g n=some (.v x)) (B:st.new d=true) (G:∀y,FR H Z x y->y=x) (J:rj (ν d) k es 0=x) :
 R (iH ν d (ν d)) Z { st with g:=bM st.g n (.own d),m:=bM st.m d (.sl k es []) } F H/\Ev Rv ν Z st H (iH ν d (ν d)) Z { st with g:=bM st.g n (.own d),m:=bM st.m d (.sl k es []) } H:=by
 have u:cD (.sl k es [])=true->False:=by simp[cD,hk.2]
 have r1:=r.add B (p:=ν d)  (λh=>(u h).elim) (by simp[d_,hk.2])
 refine⟨r1.WR   (.own _ _ λz w=>?_),?_⟩
 .rw[cG]at w;cases w;rw[gJ,G _ (r.slot n _ D).fr]
  grind
 exact(Ev.add  B (Nat.le_refl _) (λ_ _ _=>rfl) (λ_ _=>rfl) (λh=>(u h).elim)).trans (Ev.slots _)
theorem MT (r:R ν Z st F H) {b i d es:Nat} {k:Fl} {x:V} {cs:List SV} (hk:cN k=false) (O:bh st.m b=some (.box cs)) (U:cs[i]? = some (.v x)) (D:st.new d=true) (W:∀y,FR H Z x y->y=x) (Y:rj (ν d) k es 0=x) :
 ∃ν',R ν' Z { st with m:=bM (bM st.m d (.sl k es [])) b (.box (cs.set i (.own d))) } F H/\Ev Rv ν Z st H ν' Z { st with m:=bM (bM st.m d (.sl k es [])) b (.box (cs.set i (.own d))) } H:=by
 have B:cD (.sl k es [])=true->False:=by simp[cD,hk]
 have r1:=r.add D (p:=ν d)  (λh=>(B h).elim) (by simp[d_,hk])
 have C:b≠d:=by rintro rfl;rw[(lV D).2.1]at O;cases O
 have z:bh (bM st.m d (.sl k es [])) b=some (.box cs):=by rw[dS _ _ (Ne.symm C)];omega
 obtain⟨G,I,h1,J,S⟩:=r1.obj b _ z;have T:∀e w,bh (bM (bM st.m d (.sl k es [])) b (.box (cs.set i (.own d)))) e=some w->∃ob,bh (bM st.m d (.sl k es [])) e=some ob/\iH ν d (ν d) e=iH ν d (ν d) e/\sameShape ob w:=λe w h=>by
  by_cases L:e=b
  .subst L;rw[cG]at h;cases h;exact⟨_,z,rfl,trivial⟩
  rw[dS _ _ (Ne.symm L)]at h;exact⟨w,h,rfl,.refl _⟩
 refine⟨iH ν d (ν d),r1.gD  z  trivial rfl (λ_ _=>rfl) rfl ⟨G,I,h1,⟨by simp[J.1],λj u v hu hv=>?_⟩,S⟩,?_⟩
 .rw[List.getElem?_set]at hu;split at hu
  .rename_i e;subst e;split at hu
   .cases hu;refine .own _ _ λw Q=>?_
    rw[dS _ _ C,cG]at Q;cases Q;rw[gJ,W v (J.2 i _ v U hv).fr]
    grind
   grind
  exact(J.2 j u v hu hv).mono (λid h=>⟨h,rfl⟩) λe _=>T e
 exact(Ev.add  D (Nat.le_refl _) (λ_ _ _=>rfl) (λ_ _=>rfl) (λh=>(B h).elim)).trans (Ev.gD r1 z trivial rfl (λ_ _=>rfl) rfl (Nat.le_refl _))
theorem OD (r:R ν Z st F H) {x:Gh} (h:ghost x st=some st'):∃ν' Z',R ν' Z' st' F H/\Ev Rv ν Z st H ν' Z' st' H:=by
 cases x with
 | close d=>obtain⟨Z',a,b⟩:=Ho (Rv:=Rv) r h;grind
 | closeS l=>
  simp[ghost]at h;split at h
  .obtain⟨Z',a,b⟩:=Ho (Rv:=Rv) r h;grind
  .simp  at h;subst h;exact⟨ν,Z,r,.refl⟩
  grind
 | closeB d=>obtain⟨Z',a,b⟩:=LW (Rv:=Rv) r h;grind
 | keep gs I=>
  simp[ghost]at h;split at h
  next g m hg C=>simp  at h;subst h;exact⟨ν,Z,r.less (λs G w=>p8 hg w) (λd ob B=>p8 C B),Ev.less (λd ob B=>p8 C B)⟩
  grind
 | drop ds=>
  simp[ghost]at h;subst h;exact⟨ν,Z,r.less   (λs G w=>nX w) (λd ob B=>B),Ev.less   (λd ob B=>B)⟩
 | canon l d es=>
  cases l with
  | s n=>
   simp[ghost]at h;split at h
   .rename_i w;split at h
    .rename_i u;simp  at h;obtain⟨a,b⟩:=MO (Rv:=Rv) (es:=es) (k:=.nil) r ⟨rfl,rfl⟩ w u (λy h=>h.bK) rfl
     grind
    grind
   .rename_i w;split at h
    .rename_i u;simp  at h;obtain⟨a,b⟩:=MO (Rv:=Rv) (es:=es) (k:=.emp) r ⟨rfl,rfl⟩ w u (λy h=>h.dD) rfl
     grind
    grind
   .split at h
    .simp  at h;subst h;exact⟨ν,Z,r,.refl⟩
    rename_i z;split at h
    .rename_i u;simp  at h;obtain⟨a,b⟩:=GX (Rv:=Rv) r z u
     grind
    grind
   .split at h
    .simp  at h;subst h;exact⟨ν,Z,r,.refl⟩
    rename_i z;split at h
    .rename_i u;simp  at h;obtain⟨a,b⟩:=GX (Rv:=Rv) r z u
     grind
    grind
   grind
  | c b i=>
   simp[ghost]at h;split at h
   .rename_i J D;split at h
    .rename_i w;split at h
     .rename_i u;simp  at h;obtain⟨ν',a,b⟩:=MT (Rv:=Rv) (es:=es) (k:=.nil) r rfl D w u (λy h=>h.bK) rfl
      grind
     grind
    .rename_i w;split at h
     .rename_i u;simp  at h;obtain⟨ν',a,b⟩:=MT (Rv:=Rv) (es:=es) (k:=.emp) r rfl D w u (λy h=>h.dD) rfl
      grind
     grind
    .split at h
     .simp  at h;subst h;exact⟨ν,Z,r,.refl⟩
     rename_i z;split at h
     .rename_i u;simp  at h;obtain⟨a,b⟩:=GX (Rv:=Rv) r z u
      grind
     grind
    grind
   grind
end
structure oa (E:Env) (f:FuncId) (q:Eo):Prop where
 keep:E.keep f=true
 own:E.own f=false
 le:∀es xs vs ys,q.go es xs vs=some ys->ys.length<=xs.length/\(q.part=false->ys.length=xs.length)
 none:∀es vs ys,q.go es [] vs=some ys->∀(H:bl) (Z:Nat->Prop) (ws:List V) (w:V),dm H Z vs ws->(w=.bK\/w=.dD)->∃n X,∀k,n<=k->run E k (.fn f) (w::ws) H=some (if q.part then w else .undef,H++X)
 row:∀es xs vs ys,q.go es xs vs=some ys->∀(H:bl) (Z:Nat->Prop) (ws:List V) (id off:Nat) (rs:List (List V)),dm H Z vs ws->H[id]? = some (.row es rs)->off+xs.length<=rs.length ->
  ga H Z xs ((rs.drop off).take xs.length)->uO H Z rs->¬Z id->∃n rs' X,(∀k,n<=k->run E k (.fn f) (.hsl id es off xs.length::ws) H=some (if q.part then .hsl id es off ys.length else .undef,(H++X).set id (.row es rs'))) /\
   rs'.length=rs.length/\ga H Z ys ((rs'.drop off).take ys.length)/\uO H Z rs'
section
variable {Rv:Nat->Prop} {ν ν':Nu} {Z Z':Nat->Prop} {st st':St} {m m':Tb bG} {F F':Frame} {H H':bl}
theorem Su {E:Env} {f:FuncId} {q:Eo} (hq:oa E f q) (r:R ν Z st F H) {args:List SV} {ys:List V} (ha:b_ ν st.m H Z args ys) {dst:Option Nat} {sv:SV} (h:Bq q dst args st=some (sv,st')) :
 ∃n y H' ν',(∀k,n<=k->run E k (.fn f) ys H=some (y,H'))/\R ν' Z st' F H'/\dc ν' st'.m H' Z sv y/\Ev Rv ν Z st H ν' Z st' H'/\Kept dst ν st.m ν' st'.m:=by
 unfold Bq at h;split at h
 .rename_i d vs;obtain⟨w,ws,rfl,h1,h2⟩:=ha.inv;split at h
  .rename_i k es xs zs u G;have aa:=b_.dw h2 G;split at h
   .rename_i ns T;obtain⟨al,af⟩:=hq.le _ _ _ _ T;obtain⟨_,_,_,ee,rfl⟩:=h1.jP u;cases ee;have grow:∀X:bl,R ν Z st F (H++X)/\Ev Rv ν Z st H ν Z st (H++X)/\∀id,Z id->bp (H++X) id=bp H id:=λX=>by
     have hx:∀id,id<H.length->(H++X)[id]? = H[id]? := λid h=>List.getElem?_append_left h
     have G:∀id,Z id->bp (H++X) id=bp H id:=λid h=>by unfold bp;rw[hx id (r.uZ h)]
     exact⟨r.heap (λid h=>hx id (r.lt h)) G,Ev.heap Zc (λid h _ _ _=>hx id h) G,G⟩
    have o:=r.obj d _ u
    cases hk:cN k with
    | false=>
     simp only[d_,hk,Bool.false_eq_true,if_false]at o;subst o;have hw:rj (ν d) k es 0=.bK\/rj (ν d) k es 0=.dD:=by cases k <;> simp[rj,cN]at hk ⊢
     obtain⟨n,X,L⟩:=hq.none _ _ _ T H Z ws _ aa hw;obtain⟨r0,I,U⟩:=grow X;simp only[hk,Bool.false_eq_true,if_false]at h;split at h
     .rename_i O;split at h
      .rename_i t;split at h
       .rename_i z;simp only[ζa,ζc]at h;obtain⟨rfl,rfl⟩:=h;have r1:R ν Z { st with m:=eo d st.m } F (H++X):=r0.less (g:=st.g) (λ_ _ h=>h) kf
        rw[if_pos O]at L;refine⟨n,_,H++X,iH ν t (ν d),L,r1.add z (λhb=>by simp[cD,hk]at hb) (by simp[d_,hk]),?_,?_,Kept.add kf⟩
        .refine .own _ _ λah W=>?_
         simp only at W;rw[cG]at W;cases W;exact⟨_,_,_,rfl,by rw[gJ];rfl⟩
        exact I.trans (Ev.re (st:=st) kf (lV z).1 (Nat.le_refl _) (λ_ _ _ _=>rfl) (λ_ _=>rfl) (λhb=>by simp[cD,hk]at hb))
       cases h
      cases h
     rename_i O;simp only[ζa,ζc]at h;obtain⟨rfl,rfl⟩:=h;rw[if_neg O]at L;have hu:bM st.m d (.sl k es [])=st.m:=qX u;rw[hu];exact⟨n,_,H++X,ν,L,r0,.v _ _ (.same _ rfl),I,.refl⟩
    | true=>
     simp only[d_,hk,if_true]at o;obtain⟨rs,hr,hl,hf,ab,Q⟩:=o;have B:cD (.sl k es xs)=true:=hk;obtain⟨n,C,X,L,e1,e2,e3⟩:=hq.row _ _ _ _ T H Z ws _ _ rs aa hr hl hf ab (r.apart d _ u B);obtain⟨r0,I,U⟩:=grow X;have ai:(ν d).1<(H++X).length:=by have:=(ζe.1 hr).1;simp;omega
     have G:∀id,Z id->Z id/\bp ((H++X).set (ν d).1 (.row es C)) id=bp H id:=λid D=>⟨D,by
      rw[<-U id D];unfold bp;rw[List.getElem?_set_ne];rintro rfl;exact r.apart d _ u B D⟩
     have ad:∀id,Z id->bp ((H++X).set (ν d).1 (.row es C)) id=bp (H++X) id:=λid D=>by rw[(G id D).2,U id D]
     have hh:∀id,id≠(ν d).1->((H++X).set (ν d).1 (Ob.row es C))[id]? = (H++X)[id]? := λid aj=>List.getElem?_set_ne (Ne.symm aj)
     have J:((H++X).set (ν d).1 (Ob.row es C))[(ν d).1]? = some (.row es C):=List.getElem?_set_self ai;rw[rD hk];simp only[hk,if_true]at h;split at h
     .rename_i O;split at h
      .rename_i t;split at h
       .rename_i z;simp only[ζa,ζc]at h;obtain⟨rfl,rfl⟩:=h;have r1:R ν Z { st with m:=eo d st.m } F (H++X):=r0.less (g:=st.g) (λ_ _ h=>h) kf
        have ae:¬fA ν (eo d st.m) (ν d).1:=by
         rintro⟨k2,o2,g1,g2,g3⟩;obtain⟨g4,g5⟩:=nQ g1;exact g4 (r.inj d k2 _ o2 u g5 B g2 g3.symm)
        have r2:R ν Z { st with m:=eo d st.m } F ((H++X).set (ν d).1 (.row es C)):=r1.heap (λid ho=>hh id (by rintro rfl;exact ae ho)) ad
        rw[if_pos O]at L;refine⟨n,_,_,iH ν t (ν d),L,r2.add z (λ_=>⟨ae,r.apart d _ u B⟩) ?_,?_,?_,Kept.add kf⟩
        .simp only[d_,cN,if_true,gJ];exact⟨C,J,by omega,e2.mono G,e3.mono G,λe=>by cases e⟩
        .refine .own _ _ λah W=>?_
         simp only at W;rw[cG]at W;cases W;exact⟨_,_,_,rfl,by rw[gJ];rfl⟩
        exact I.trans (Ev.re (st:=st) kf (lV z).1 Zc (λid _ ho _=>hh id (by rintro rfl;exact ho ⟨d,_,u,B,rfl⟩)) ad (λ_=>.inl ⟨d,_,u,B,rfl⟩))
       cases h
      cases h
     rename_i O;simp only[ζa,ζc]at h;obtain⟨rfl,rfl⟩:=h;rw[if_neg O]at L;have ak:q.part=false:=by simpa using O
     have S:=af ak;have Y:sameShape (.sl k es xs) (.sl k es ns):=⟨rfl,rfl,S⟩;refine⟨n,_,_,ν,L,r0.gD u Y rfl hh B ?_,.v _ _ (.same _ rfl),I.trans (Ev.gD r0 u Y rfl hh B Zc),Kept.gD u Y⟩
     simp only[d_,hk,if_true];exact⟨C,J,by omega,e2.mono G,e3.mono G,λe=>⟨(Q e).1,by rw[e1,(Q e).2,S]⟩⟩
   cases h
  cases h
 cases h
end
def wI:Nat->List SV->Tb SV
 | _,[]=>[]
 | i,v::vs=>(i,v)::wI (i+1) vs
def start (svs:List SV) (B:dZ):St:=⟨wI 0 svs,B,B.map (·.1),[],true,0⟩
def jo (S:Sys) (c:ck):Prop:=
 ∀f u w rs z,c f u w=some (rs,z)->∀(ν:Nu) (Z:Nat->Prop) (args:List V) (H:bl),(S.E.keep f=true\/H=[])->R ν Z (start u w) args H->b_ ν w H Z u args ->
  ∃n y H' ν' Z' st' F' B,run S.E n (.fn f) args H=some (y,H')/\y=result B/\st'.m=z/\b_ ν' z H' Z' rs B/\R ν' Z' st' F' H'/\Ev (λ_=>False) ν Z (start u w) H ν' Z' st' H'
section
variable {Rv:Nat->Prop} {ν ν':Nu} {Z Z':Nat->Prop} {st st':St} {m m':Tb bG} {F F':Frame} {H H' H1:bl} {N:Nat->FuncId}
theorem N6 {k:Fl} {es:Nat} {xs:List (List V)} {d:Nat} (o:d_ ν m H Z d (.sl k es xs)):(nO k es xs).good=true:=by
 by_cases hk:cN k=true
 .simp only[d_,hk,if_true]at o;obtain⟨w,_,_,u,_⟩:=o;have e:nO k es xs=.fsl es xs:=by cases k <;> simp[cN]at hk <;> rfl
  rw[e];simp only[V.good];exact u.good
 cases k <;> simp[cN]at hk <;> rfl
mutual
theorem Md (D:∀d ob,bh m d=some ob->d_ ν m H Z d ob):∀(n:Nat) (sv:SV) (x y:V),shut m n sv=some x->dc ν m H Z sv y->x.good=true
 | n,.v x,z,y,h,r=>by simp only[shut,ζa]at h;subst h;exact r.fr.good
 | n,.own d,z,y,h,r=>by
  simp only[shut]at h;split at h
  next k es xs B=>simp only[ζa]at h;subst h;exact N6 (D d _ B)
  simp at h
 | 0,.ptr d o,z,y,h,r=>by simp[shut]at h
 | n+1,.ptr d o,z,y,h,r=>by
  simp only[shut]at h;split at h
  .rename_i cs B;split at h
   .rename_i xs O;split at h
    .simp only[ζa]at h;subst h;obtain⟨es,G,_,hc,_⟩:=D d _ B;simp only[V.good];exact xL _ (mK D n cs xs G O hc)
    simp at h
   simp at h
  simp at h
 | n,.el d i o,z,y,h,r=>by cases n <;> simp[shut]at h
 | n,.yl id,z,y,h,r=>by cases n <;> simp[shut]at h
 | n,.mp d,z,y,h,r=>by
  simp only[shut]at h;split at h
  .rename_i L B;simp only[ζa]at h;subst h;obtain⟨w,_,hk⟩:=D d _ B;simp only[V.good];refine Ek.2 λj u hu=>?_
   have Q:j<w.length:=by rw[<-hk.1];exact(ζe.1 hu).1
   obtain⟨⟨_,h1⟩,C⟩:=hk.2 j u _ hu (ζd Q);exact⟨kq h1,C.good⟩
  simp at h
 | 0,.clo f a b,z,y,h,r=>by simp[shut]at h
 | n+1,.clo f a b,z,y,h,r=>by
  simp only[shut]at h;split at h
  next S x2 h1 C=>simp only[ζa]at h;subst h;obtain⟨T,U,rfl,W,X⟩:=r.jT;simp only[V.good,ζh];exact⟨mK D n a S T h1 W,mK D n b x2 U C X⟩
  simp at h
 | 0,.tup l,z,y,h,r=>by simp[shut]at h
 | n+1,.tup l,z,y,h,r=>by
  simp only[shut]at h;obtain⟨xs,h1,rfl⟩:=ζf.1 h;obtain⟨I,rfl,J⟩:=r.pU;simp only[V.good];exact mK D n l xs I h1 J
 | 0,.agg l,z,y,h,r=>by simp[shut]at h
 | n+1,.agg l,z,y,h,r=>by
  simp only[shut]at h;obtain⟨xs,h1,rfl⟩:=ζf.1 h;obtain⟨I,rfl,J⟩:=r.iF;simp only[V.good];exact mK D n l xs I h1 J
theorem mK (D:∀d ob,bh m d=some ob->d_ ν m H Z d ob):∀(n:Nat) (svs:List SV) (xs ys:List V),cV m n svs=some xs->b_ ν m H Z svs ys->V.cA xs=true
 | n,[],xs,ys,h,r=>by simp only[cV,ζa]at h;subst h;rfl
 | n,sv::svs,xs,ys,h,r=>by
  simp only[cV]at h;split at h
  next y s h1 G=>simp only[ζa]at h;subst h;obtain⟨J,B,rfl,r1,r2⟩:=r.inv;simp only[V.cA,ζh];exact⟨Md D n sv y J h1 r1,mK D n svs s B G r2⟩
  simp at h
end
theorem GG {f:V->Option V}:∀{xs ys:List (V×V)},xs.length=ys.length->(∀(j:Nat) u v,xs[j]? = some u->ys[j]? = some v->f v.1=some u.1/\f v.2=some u.2)->lg f ys=some xs
 | [],[],_,_=>rfl
 | [],y::ys,h,_=>by simp at h
 | x::xs,[],h,_=>by simp at h
 | (a,b)::xs,(c,d)::ys,h,B=>by
  obtain⟨h1,D⟩:=B 0 _ _ rfl rfl;simp only at h1 D;simp only[lg,h1,D,GG (xs:=xs) (ys:=ys) (by simpa using h) λj u v hu hv=>B (j+1) u v (by simpa using hu) (by simpa using hv)]
theorem Hz:∀{l:List (V×V)} {n:Nat},V.rT n l=true↔∀(j:Nat) u,l[j]? = some u->u.1.lvl n=true/\u.2.lvl n=true
 | [],n=>by simp[V.rT]
 | (k,x)::l,n=>by
  simp only[V.rT,ζh,Hz (l:=l)];constructor
  .rintro⟨h1,B⟩ j u hu
   cases j with
   | zero=>simp at hu;subst hu;exact h1
   | succ j=>exact B j u (by simpa using hu)
  intro h;exact⟨h 0 (k,x) rfl,λj u hu=>h (j+1) u (by simpa using hu)⟩
theorem tY {n:Nat} {xs ys:List V} (D:hG (borrow n H1) ys=some xs) (B:V.kM ys=true):ys=xs:=by
 have w:=j8 (f:=borrow n H1) (xs:=ys) (ys:=ys) rfl λj u v hu hv=>by rw[hu]at hv;cases hv;exact eA n H1 (oC.1 B j u hu)
 rw[D]at w;cases w;rfl
mutual
theorem Ie {fr:List Nat} (J:∀d∈fr,∀e ob,bh m e=some ob->ob.cR d=false) (O:∀d ob,bh m d=some ob->d∉fr->d_ ν m H1 Z d ob) :
 ∀(n:Nat) (sv:SV) (x y:V),shut m n sv=some x->(∀d∈fr,sv.cR d=false)->dc ν m H1 Z sv y->∀k,x.lvl k=true->borrow k H1 y=some x
 | n,.v x,z,y,h,B,r,k,hk=>by simp only[shut,ζa]at h;subst h;exact r.fr.borrow k hk
 | n,.own d,z,y,h,B,r,k,hk=>by
  simp only[shut]at h;split at h
  .rename_i fl es xs D;simp only[ζa]at h;subst h;obtain⟨_,_,_,e,rfl⟩:=r.jP D;cases e;have C:d∉fr:=λC=>by have:=B d C;simp[SV.cR]at this
   have o:=O d _ D C
   by_cases I:cN fl=true
   .simp only[d_,I,if_true]at o;obtain⟨ys,hr,hl,hf,_⟩:=o;rw[rD I];have e:nO fl es xs=.fsl es xs:=by cases fl <;> simp[cN]at I <;> rfl
    rw[e]at hk ⊢;exact(FR.KL (Z:=λ_=>True) trivial (show bp H1 (ν d).1=some (es,ys)by unfold bp;rw[hr];rfl) hl (hf.mono λid h=>⟨trivial,rfl⟩)).borrow k hk
   cases fl <;> simp[cN]at I
   .exact eA k H1 rfl
   exact eA k H1 rfl
  simp at h
 | 0,.ptr d o,z,y,h,B,r,k,hk=>by simp[shut]at h
 | n+1,.ptr d o,z,y,h,B,r,k,hk=>by
  simp only[shut]at h;split at h
  .rename_i L D;split at h
   .rename_i xs hx;split at h
    .rename_i aa;simp only[ζa]at h;subst h;obtain⟨_,e,rfl⟩:=r.ov D;cases e;have C:d∉fr:=λC=>by have:=B d C;simp[SV.cR]at this
     obtain⟨es,Q,hr,hc,_⟩:=O d _ D C
     cases k with
     | zero=>simp[V.lvl]at hk
     | succ k=>
      simp only[V.lvl]at hk;have ab:∀e∈fr,SV.dz e (L.drop o)=false:=λe he=>by
       have:=J e he d _ D;simp only[bG.cR]at this
       cases hh:SV.dz e (L.drop o)with
       | false=>rfl
       | true=>
        exfalso;have:∀{l:List SV} {j:Nat},SV.dz e (l.drop j)=true->SV.dz e l=true:=by
         intro l
         induction l with
         | nil=>intro j h;simpa using h
         | cons a l S=>intro j h;cases j with
          | zero=>simpa using h
          | succ j=>simp only[SV.dz,Bool.or_eq_true];exact .inr (S (by simpa using h))
        rw[this hh]at *;simp_all
      have T:xs.length=L.length:=by
       have:∀{l:List SV} {r:List V},cV m n l=some r->r.length=l.length:=by
        intro l
        induction l with
        | nil=>intro r h;simp only[cV,ζa]at h;subst h;rfl
        | cons a l S=>
         intro r h;simp only[cV]at h;split at h
         next h1 U=>simp only[ζa]at h;subst h;simp[S U]
         simp at h
       exact this hx
      have ad:cV m n (L.drop o)=some (xs.drop o):=by
       have:∀{l:List SV} {r:List V} {j:Nat},cV m n l=some r->cV m n (l.drop j)=some (r.drop j):=by
        intro l
        induction l with
        | nil=>intro r j h;simp only[cV,ζa]at h;subst h;simp[cV]
        | cons a l S=>
         intro r j h;have h0:=h;simp only[cV]at h;split at h
         .rename_i h1 U;simp only[ζa]at h;subst h
          cases j with
          | zero=>exact h0
          | succ j=>exact S U
         simp at h
       exact this hx
      have hb:=jI J O n (L.drop o) (xs.drop o) (Q.drop o) ad ab (hc.drop o) k hk;unfold borrow;simp only[V.closed,Bool.false_eq_true,if_false,hr,ζb,Ob.rows,List.getElem?_cons_zero,if_pos (show o<=Q.length by rw[<-hc.1,<-T];exact aa),hb,Option.map_some]
    simp at h
   simp at h
  simp at h
 | n,.el d i o,z,y,h,B,r,k,hk=>by cases n <;> simp[shut]at h
 | n,.yl id,z,y,h,B,r,k,hk=>by cases n <;> simp[shut]at h
 | n,.mp d,z,y,h,B,r,k,hk=>by
  simp only[shut]at h;split at h
  .rename_i ae D;simp only[ζa]at h;subst h;obtain⟨_,e,rfl⟩:=r.C5 D;cases e;have C:d∉fr:=λC=>by have:=B d C;simp[SV.cR]at this
   obtain⟨W,hr,X⟩:=O d _ D C
   cases k with
   | zero=>simp[V.lvl]at hk
   | succ k=>
    simp only[V.lvl]at hk;unfold borrow;simp only[V.closed,Bool.false_eq_true,if_false,hr];rw[GG (xs:=ae) (ys:=W) X.1 λj u v hu hv=>?_]
    .rfl
    obtain⟨⟨e1,e2⟩,e3⟩:=X.2 j u v hu hv;exact⟨by rw[<-e1];exact eA k H1 (V.ko (kq e2)),e3.borrow k (Hz.1 hk j u hu).2⟩
  simp at h
 | 0,.clo f a b,z,y,h,B,r,k,hk=>by simp[shut]at h
 | n+1,.clo f a b,z,y,h,B,r,k,hk=>by
  simp only[shut]at h;split at h
  .rename_i x1 x2 h1 U;simp only[ζa]at h;subst h;obtain⟨a',b',rfl,ra,rb⟩:=r.jT
   cases k with
   | zero=>simp[V.lvl]at hk
   | succ k=>
    simp only[V.lvl,ζh]at hk;have G:=jI J O n a x1 a' h1 (λd C=>by have:=B d C;simp only[SV.cR,Bool.or_eq_false_iff]at this;exact this.1) ra k hk.1
    have Y:=jI J O n b x2 b' U (λd C=>by have:=B d C;simp only[SV.cR,Bool.or_eq_false_iff]at this;exact this.2) rb k hk.2
    by_cases w:(V.clo f a' b').closed=true
    .rw[eA _ _ w];simp only[V.closed,ζh]at w;rw[tY G w.1,tY Y w.2]
    unfold borrow;rw[if_neg w];simp only[G,Y]
  simp at h
 | 0,.tup l,z,y,h,B,r,k,hk=>by simp[shut]at h
 | n+1,.tup l,z,y,h,B,r,k,hk=>by
  simp only[shut]at h;obtain⟨xs,h1,rfl⟩:=ζf.1 h;obtain⟨l',rfl,rl⟩:=r.pU
  cases k with
  | zero=>simp[V.lvl]at hk
  | succ k=>
   simp only[V.lvl]at hk;have G:=jI J O n l xs l' h1 (λd C=>by have:=B d C;simpa [SV.cR]using this) rl k hk
   by_cases w:(V.tup l').closed=true
   .rw[eA _ _ w];simp only[V.closed]at w;rw[tY G w]
   unfold borrow;rw[if_neg w];simp only[G,Option.map_some]
 | 0,.agg l,z,y,h,B,r,k,hk=>by simp[shut]at h
 | n+1,.agg l,z,y,h,B,r,k,hk=>by
  simp only[shut]at h;obtain⟨xs,h1,rfl⟩:=ζf.1 h;obtain⟨l',rfl,rl⟩:=r.iF
  cases k with
  | zero=>simp[V.lvl]at hk
  | succ k=>
   simp only[V.lvl]at hk;have G:=jI J O n l xs l' h1 (λd C=>by have:=B d C;simpa [SV.cR]using this) rl k hk
   by_cases w:(V.agg l').closed=true
   .rw[eA _ _ w];simp only[V.closed]at w;rw[tY G w]
   unfold borrow;rw[if_neg w];simp only[G,Option.map_some]
theorem jI {fr:List Nat} (B:∀d∈fr,∀e ob,bh m e=some ob->ob.cR d=false) (J:∀d ob,bh m d=some ob->d∉fr->d_ ν m H1 Z d ob) :
 ∀(n:Nat) (svs:List SV) (xs ys:List V),cV m n svs=some xs->(∀d∈fr,SV.dz d svs=false)->b_ ν m H1 Z svs ys->∀k,V.kQ k xs=true->hG (borrow k H1) ys=some xs
 | n,[],xs,ys,h,D,r,k,hk=>by simp only[cV,ζa]at h;subst h;rw[r.cW];rfl
 | n,sv::svs,xs,ys,h,D,r,k,hk=>by
  simp only[cV]at h;split at h
  .rename_i y s h1 O;simp only[ζa]at h;subst h;obtain⟨U,G,rfl,r1,r2⟩:=r.inv;simp only[V.kQ,ζh]at hk;have w:=Ie B J n sv y U h1 (λd u=>by have:=D d u;simp only[SV.dz,Bool.or_eq_false_iff]at this;exact this.1) r1 k hk.1
   have z:=jI B J n svs s G O (λd u=>by have:=D d u;simp only[SV.dz,Bool.or_eq_false_iff]at this;exact this.2) r2 k hk.2
   simp only[hG,w,z]
  simp at h
end
end
theorem OE (n:Nat):V.kQ n []=true:=by cases n <;> rfl
theorem MZ (n:Nat) (x:V) (r:List V):V.kQ n (x::r)=(V.lvl n x&&V.kQ n r):=by cases n <;> rfl
mutual
theorem CY:∀{n:Nat} {x:V},V.lvl n x=true->V.lvl (n+1) x=true
 | 0,.fsl ..,h=>by simp[V.lvl]at h
 | 0,.fptr ..,h=>by simp[V.lvl]at h
 | 0,.fmap ..,h=>by simp[V.lvl]at h
 | 0,.agg ..,h=>by simp[V.lvl]at h
 | 0,.tup ..,h=>by simp[V.lvl]at h
 | 0,.clo ..,h=>by simp[V.lvl]at h
 | n+1,.fsl es xs,h=>by simp only[V.lvl]at h ⊢;exact BR h
 | n+1,.fptr cs,h=>by simp only[V.lvl]at h ⊢;exact rI h
 | n+1,.fmap B,h=>by simp only[V.lvl]at h ⊢;exact DI h
 | n+1,.agg cs,h=>by simp only[V.lvl]at h ⊢;exact rI h
 | n+1,.tup cs,h=>by simp only[V.lvl]at h ⊢;exact rI h
 | n+1,.clo f a b,h=>by simp only[V.lvl,ζh]at h ⊢;exact⟨rI h.1,rI h.2⟩
 | 0,.bool _,_|0,.int ..,_|0,.str _,_|0,.gY,_|0,.f_,_|0,.ru,_|0,.dD,_|0,.bK,_|0,.hsl ..,_|0,.hptr ..,_|0,.yld _,_|0,.hmap _,_=>rfl
 | _+1,.bool _,_|_+1,.int ..,_|_+1,.str _,_|_+1,.gY,_|_+1,.f_,_|_+1,.ru,_|_+1,.dD,_|_+1,.bK,_|_+1,.hsl ..,_|_+1,.hptr ..,_|_+1,.yld _,_|_+1,.hmap _,_=>rfl
theorem rI:∀{n:Nat} {x:List V},V.kQ n x=true->V.kQ (n+1) x=true
 | n,[],_=>OE _
 | n,a::l,h=>by rw[MZ,ζh]at h ⊢;exact⟨CY h.1,rI h.2⟩
theorem BR:∀{n:Nat} {x:List (List V)},V.oJ n x=true->V.oJ (n+1) x=true
 | n,[],_=>by simp only[V.oJ]
 | n,a::l,h=>by simp only[V.oJ,ζh]at h ⊢;exact⟨rI h.1,BR h.2⟩
theorem DI:∀{n:Nat} {x:List (V×V)},V.rT n x=true->V.rT (n+1) x=true
 | n,[],_=>by simp only[V.rT]
 | n,(k,v)::l,h=>by simp only[V.rT,ζh]at h ⊢;exact⟨⟨CY h.1.1,CY h.1.2⟩,DI h.2⟩
end
theorem wO {n m:Nat} (h:n<=m) {x:V} (B:V.lvl n x=true):V.lvl m x=true:=by
 induction h with
 | refl=>exact B
 | step _ u=>exact CY u
theorem oA {n m:Nat} (h:n<=m) {x:List V} (B:V.kQ n x=true):V.kQ m x=true:=by
 induction h with
 | refl=>exact B
 | step _ u=>exact rI u
theorem NS {n m:Nat} (h:n<=m) {x:List (List V)} (B:V.oJ n x=true):V.oJ m x=true:=by
 induction h with
 | refl=>exact B
 | step _ u=>exact BR u
theorem Q4 {n m:Nat} (h:n<=m) {x:List (V×V)} (B:V.rT n x=true):V.rT m x=true:=by
 induction h with
 | refl=>exact B
 | step _ u=>exact DI u
mutual
theorem yU:∀x:V,∃n,V.lvl n x=true
 | .fsl es xs=>let ⟨n,h⟩:=Hi xs;⟨n+1,by simp only[V.lvl];exact h⟩
 | .fptr u=>let ⟨n,h⟩:=lM u;⟨n+1,by simp only[V.lvl];exact h⟩
 | .fmap w=>let ⟨n,h⟩:=Jf w;⟨n+1,by simp only[V.lvl];exact h⟩
 | .agg u=>let ⟨n,h⟩:=lM u;⟨n+1,by simp only[V.lvl];exact h⟩
 | .tup u=>let ⟨n,h⟩:=lM u;⟨n+1,by simp only[V.lvl];exact h⟩
 | .clo f a b=>let ⟨n,h⟩:=lM a;let ⟨m,k⟩:=lM b;⟨max n m+1,by simp only[V.lvl,ζh];exact⟨oA (Nat.le_max_left _ _) h,oA (Nat.le_max_right _ _) k⟩⟩
 | .bool _|.int ..|.str _|.gY|.f_|.ru|.dD|.bK|.hsl ..|.hptr ..|.yld _|.hmap _=>⟨0,rfl⟩
theorem lM:∀x:List V,∃n,V.kQ n x=true
 | []=>⟨0,by simp only[V.kQ]⟩
 | a::l=>let ⟨n,h⟩:=yU a;let ⟨m,k⟩:=lM l;⟨max n m,by simp only[V.kQ,ζh];exact⟨wO (Nat.le_max_left _ _) h,oA (Nat.le_max_right _ _) k⟩⟩
theorem Hi:∀x:List (List V),∃n,V.oJ n x=true
 | []=>⟨0,by simp only[V.oJ]⟩
 | a::l=>let ⟨n,h⟩:=lM a;let ⟨m,k⟩:=Hi l;⟨max n m,by simp only[V.oJ,ζh];exact⟨oA (Nat.le_max_left _ _) h,NS (Nat.le_max_right _ _) k⟩⟩
theorem Jf:∀x:List (V×V),∃n,V.rT n x=true
 | []=>⟨0,by simp only[V.rT]⟩
 | (a,b)::l=>let ⟨n,h⟩:=yU a;let ⟨m,k⟩:=yU b;let ⟨q,p⟩:=Jf l;⟨max n (max m q),by simp only[V.rT,ζh];exact⟨⟨wO Za h,wO Za k⟩,Q4 Za p⟩⟩
end
def je (E:Env) (call:dx) (ops:List Oper) (place:Option (Nat×Nat)) (f:FuncId) (args:List V) (H:bl):Option (V×bl):=
 if kV E ops place f then
  match place with
  | none=>eT E call f args H
  | some (_,i)=>if dF ops i then eT E call f args H else none
 else match place with
  | none=>match cg call f args H with
   | some y=>some (y,if y.scalar then H else cI H (cT (cm call.lv H) args))
   | none=>none
  | some (b,i)=>match cg call f args (H.take b)with
   | some y=>if y.scalar then some (y,H)else if iM (H.take b) (cT (cm call.lv (H.take b)) args)then some (y,cI H (cT (cm call.lv (H.take b)) args))else none
   | none=>if dF ops i then match cg call f args H with
    | some y=>some (y,if y.scalar then H else cI H (cT (cm call.lv H) args))
    | none=>none
    else none
section
variable {Rv:Nat->Prop} {ν ν':Nu} {Z Z':Nat->Prop} {st st':St} {m m':Tb bG} {F F':Frame} {H H' H1:bl} {N:Nat->FuncId} {S:Sys} {c:ck}
theorem G_:∀(l:List SV) (i s:Nat) (sv:SV),bh (wI i l) s=some sv->∃j,s=i+j/\l[j]? = some sv
 | [],i,s,sv,h=>by simp[wI,bh]at h
 | x::l,i,s,sv,h=>by
  simp only[wI,bh]at h;split at h
  next e=>simp only[ζa]at h;subst h;exact⟨0,by omega,rfl⟩
  obtain⟨j,h1,B⟩:=G_ l (i+1) s sv h;exact⟨j+1,by omega,by simpa using B⟩
theorem wm {svs:List SV} {args:List V} (h:b_ ν m H Z svs args):∀s sv,bh (wI 0 svs) s=some sv->dc ν m H Z sv (get args s):=λs sv u=>by
 obtain⟨j,rfl,w⟩:=G_ svs 0 s sv u;obtain⟨y,z,r⟩:=h.get w;rw[Nat.zero_add,Gl args j y z];exact r
theorem vw {az:List V} (hg:V.cA az=true):R (λ_=>(0,0)) (λ_=>False) (start (az.map .v) []) az []/\b_ (λ_=>(0,0)) [] [] (λ_=>False) (az.map .v) az:=by
 have h:b_ (λ_=>(0,0)) [] [] (λ_=>False) (az.map .v) az:=b_.qC (dm.same hg)
 refine⟨⟨wm h,λd ob u=>by simp[start,bh]at u,λd z ob w u=>by simp[start,bh]at u,λd ob u=>by simp[start,bh]at u,λid h=>h.elim,⟨λid es B h=>h.elim⟩⟩,h⟩
theorem E3 {xs ys:List V} (h:dm H Z xs ys):((result xs).scalar=true->result ys=result xs)/\(result ys).scalar=(result xs).scalar:=by
 cases xs with
 | nil=>rw[h.cW];exact⟨λ_=>rfl,rfl⟩
 | cons x xs=>
  obtain⟨y,ys,rfl,h1,u⟩:=h.inv
  cases xs with
  | nil=>rw[u.cW];exact h1.scalar
  | cons x2 xs=>
   obtain⟨w,ys,rfl,z,B⟩:=u.inv;exact FR.scalar (.tup _ _ h.1 h.2)
theorem Bm (Y:jo S c) {f:FuncId} {az ys:List V} {rs:List SV} {m':dZ} (hg:V.cA az=true) (h:c f (az.map .v) []=some (rs,m')) (O:cV m' 8 rs=some ys) :
 ∃n r H2,(∀k,n<=k->run S.E k (.fn f) az []=some (r,H2))/\(∀k,n<=k->borrow k H2 r=some (result ys))/\(result ys).good=true:=by
 obtain⟨X,r1⟩:=vw hg;obtain⟨n,y,H2,ν',Z',st',F',B,h1,rfl,Z,Q,T,_⟩:=Y f _ _ _ _ h _ _ az [] (.inr rfl) X r1;subst Z;have C:=mK T.obj 8 rs ys B O Q;obtain⟨L,U⟩:=lM ys;refine⟨max n (L+1),result B,H2,λk hk=>(nr S.E (Nat.le_trans (Nat.le_max_left ..) hk)).go _ _ _ _ h1,λk hk=>?_,?_⟩
 .have w:=jI (fr:=[]) (λd D=>by simp at D) (λd ob D _=>T.obj d ob D) 8 rs _ _ O (λd D=>by simp at D) Q
  obtain⟨k,rfl⟩:∃j,k=j+1:=⟨k-1,by omega⟩
  have W:=w k (oA Za U)
  have h9:=w (k+1) (oA Za U)
  obtain⟨e1,e2⟩:=iO h9
  cases B with
  | nil=>obtain rfl:=List.eq_nil_of_length_eq_zero e1;exact eA _ H2 rfl
  | cons z B=>
   cases B with
   | nil=>
    obtain⟨y,rfl⟩:∃y,ys=[y]:=by
     cases ys with
     | nil=>simp at e1
     | cons y l=>cases l with|nil=>exact⟨y,rfl⟩|cons _ _=>simp at e1
    obtain⟨x,hx,I⟩:=e2 0 y rfl;cases hx;exact I
   | cons z2 B=>
    obtain⟨y,G,l,rfl⟩:∃y G l,ys=y::G::l:=by
     cases ys with
     | nil=>simp at e1
     | cons y l=>cases l with|nil=>simp at e1|cons G l=>exact⟨y,G,l,rfl⟩
    by_cases u:(V.tup (z::z2::B)).closed=true
    .simp only[result];rw[eA _ _ u];simp only[V.closed]at u;rw[tY W u]
    simp only[result];unfold borrow;rw[if_neg u];simp only[W,Option.map_some]
 have:∀{l:List V},V.cA l=true->(result l).good=true:=by
  intro l J
  cases l with
  | nil=>rfl
  | cons a l=>cases l with
   | nil=>simp only[V.cA,ζh]at J;exact J.1
   | cons b l=>simp only[result,V.good];exact J
 exact this C
theorem DN {f:FuncId} {args az:List V} {y r:V} {H2:bl} {n:Nat} (hr:∀k,n<=k->run S.E k (.fn f) az []=some (r,H2)) (D:∀k,n<=k->borrow k H2 r=some y) (hg:y.good=true) {B:Nat} (G:∀k,B<=k->borrows k H args=some az) :
 ∀k,max n B<=k->cg (run S.E k) f args H=some y:=λk hk=>by
 unfold cg;simp only[nC,G k Za,hr k Za,D k Za,V.ko hg,if_true]
theorem qz (B:∀id,Z id->(bp H id).isSome=true) {T:List Nat} {id:Nat} (h:Z id):bp (cI H T) id=bp H id:=by
 have:=B id h;unfold bp at this ⊢;rw[iC]
 cases u:H[id]? with
 | none=>rw[u]at this;simp at this
 | some ob=>
  rw[u]at this;simp only[Option.map_some,ζb]
  by_cases e:id∈T
  .rw[if_pos e];cases ob <;> first|rfl|simp[Ob.rows]at this
  rw[if_neg e]
theorem tu {T:List Nat} {id:Nat} (h:id∉T):(cI H T)[id]? = H[id]? := by
 rw[iC];cases H[id]? <;> simp[h]
end
section
variable {Rv:Nat->Prop} {ν ν':Nu} {Z Z':Nat->Prop} {st st':St} {m m':Tb bG} {F F':Frame} {H H' H1:bl} {N:Nat->FuncId} {S:Sys} {c:ck}
theorem zl {az:List V} {args:List SV} {ys:List V} (B:∀d ob,bh m d=some ob->d_ ν m H Z d ob) (h:cV m 8 args=some az) (r:b_ ν m H Z args ys):V.cA az=true:=mK B 8 args az ys h r
theorem wJ {az:List V} {args:List SV} {ys:List V} (r:R ν Z st F H) (B:b_ ν st.m H Z args ys) (h:cV st.m 8 args=some az):∃n,∀k,n<=k->borrows k H ys=some az:=
 let ⟨n,w⟩:=lM az
 ⟨n,λk hk=>jI (fr:=[]) (λd u=>by simp_all) (λd ob u _=>r.obj d ob u) 8 args az ys h (λd u=>by simp_all) B k (oA hk w)⟩
theorem mS {b id:Nat} (h:id<b):bp (H.take b) id=bp H id:=by
 unfold bp;grind
theorem Kw {b:Nat} {fr:List Nat} {az:List V} {args:List SV} {ys:List V} (r:R ν Z st F H) (B:b_ ν st.m H Z args ys) (h:cV st.m 8 args=some az)
 (G:∀d ob,bh st.m d=some ob->cD ob=true->d∉fr->(ν d).1<b) (D:∀id,Z id->id<b) (hold:fe st.m fr args=true):∃n,∀k,n<=k->borrows k (H.take b) ys=some az:=by
 obtain⟨n,z⟩:=lM az;refine⟨n,λk hk=>?_⟩
 unfold fe at hold;have h1:∀d∈fr,SV.dz d args=false/\r_ d st.m=false:=λd u=>by
  grind
 have w:∀id,Z id->Z id/\bp (H.take b) id=bp H id:=λid h=>⟨h,mS (D id h)⟩
 refine jI   (λd u e ob C=>yb (h1 d u).2 C) (λd ob u I=>?_) 8 args az ys h (λd u=>(h1 d u).1) (B.mono w λe _=>iQ ν st.m e) k (oA hk z)
 exact d_.mono w rfl (λJ=>by grind) (λe _=>iQ ν st.m e) (r.obj d ob u)
theorem IK (hS:jo S c) {ops:List Oper} {place:Option (Nat×Nat)} {dr nw:Bool} {fr:List Nat} (ae:dr=place.isSome) (ab:∀b i,place=some (b,i)->nw=true->dF ops i=true)
 (hold:∀b i,place=some (b,i)->(∀d ob,bh st.m d=some ob->cD ob=true->d∉fr->(ν d).1<b)/\∀id,Z id->id<b)
 (r:R ν Z st F H) {args:List SV} {ys:List V} (ha:b_ ν st.m H Z args ys) {f:FuncId} (hk:kV S.E ops place f=false) {az:List V} (hs:cV st.m 8 args=some az) (hno:(!dr||nw)=true\/fe st.m fr args=true)
 {rs:List SV} {m':dZ} {J:List V} (hc:c f (az.map .v) []=some (rs,m')) (hz:cV m' 8 rs=some J) (U:(result J).scalar=true\/(dw args).isSome=true) :
 ∃n H',(∀k,n<=k->je S.E (run S.E k) ops place f ys H=some (result J,H'))/\R ν Z st F H'/\dc ν st.m H' Z (.v (result J)) (result J)/\Ev Rv ν Z st H ν Z st H':=by
 have hg:=zl r.obj hs ha;obtain⟨n1,rr,H2,h1,h2,h3⟩:=Bm hS hg hc hz;obtain⟨n2,hb⟩:=wJ r ha hs;have I:=DN h1 h2 h3 hb;generalize hn:max n1 n2=n at I;have C:=I;have Q:∀k,n<=k->cT (cm k H) ys=cT (cm n H) ys:=λk hk=>xT hk (hb n Za)
 have G:∀{H'},dc ν st.m H' Z (.v (result J)) (result J):=.v _ _ (.same _ h3);have D:∀T:List Nat,(∀id∈T,Z id)->R ν Z st F (cI H T)/\Ev Rv ν Z st H ν Z st (cI H T):=λT X=>
  ⟨r.heap (λid ho=>tu λz=>by obtain⟨d,ob,g1,g2,rfl⟩:=ho;exact r.apart d ob g1 g2 (X _ z)) (λid z=>qz r.zrow z),
   Ev.heap (by rw[jR];grind) (λid _ _ hz _=>tu λz=>hz (X id z)) (λid z=>qz r.zrow z)⟩
 have L:(dw args).isSome=true->(∀id∈cT (cm n H) ys,Z id)/\True:=λY=>by
  obtain⟨xs,Y⟩:=Option.isSome_iff_exists.1 Y;have hf:=ha.dw Y;exact⟨λid z=>by
   obtain⟨j,u,hu,aa⟩:=pH z;have hj:j<xs.length:=by rw[hf.1];grind
   exact FR.cm r.deep n (hf.2 j _ u (ζd hj) hu) id aa,trivial⟩
 cases place with
 | none=>
  by_cases w:(result J).scalar=true
  .exact⟨n,H,λk B=>by simp[je,hk,C k B,w],r,G,.refl⟩
  obtain⟨X,-⟩:=L (U.resolve_left w);obtain⟨q1,q2⟩:=D _ X;exact⟨n,cI H (cT (cm n H) ys),λk B=>by simp[je,hk,C k B,w,nC,Q k B],q1,G,q2⟩
 | some bi=>
  obtain⟨b,i⟩:=bi;obtain⟨o1,o2⟩:=hold b i rfl;have ah  := ae;have fits:∀k,cg (run S.E k) f ys (H.take b)=some (result J)->(result J).scalar=false->iM (H.take b) (cT (cm k (H.take b)) ys)=true/\cT (cm k H) ys=cT (cm k (H.take b)) ys:=λk _ ai=>by
   obtain⟨xs,Y⟩:=Option.isSome_iff_exists.1 (U.resolve_left Zd)
   have hf:=ha.dw Y;have W:∀id,Z id->Z id/\bp (H.take b) id=bp H id:=λid h=>⟨h,mS (o2 id h)⟩
   have hd:Deep (H.take b) Z:=⟨λid es ys hz hr c hc u hu=>by
    rw[(W id hz).2]at hr;obtain⟨x,Y⟩:=r.deep.row id es ys hz hr c hc u hu;exact⟨x,Y.mono W⟩⟩
   have hZ:∀id∈cT (cm k (H.take b)) ys,Z id:=λid z=>by
    obtain⟨j,u,hu,aa⟩:=pH z;have hj:j<xs.length:=by rw[hf.1];grind
    exact FR.cm hd k ((hf.2 j _ u (ζd hj) hu).mono W) id aa
   refine⟨?_,tC _ λid z=>o2 id (hZ id z)⟩
   unfold iM;rw[List.all_eq_true];intro id z;have h1:=r.zrow id (hZ id z);rw[<-(W id (hZ id z)).2]at h1;exact h1
  rcases hno with hno|hno
  .have ad:=ab b i rfl Zd
   by_cases w:(result J).scalar=true
   .refine⟨n,H,λk B=>?_,r,G,.refl⟩
    simp[je,hk];split
    next y hy=>have:=pE hy;rw[C k B]at this;cases this;simp[w]
    simp[ad,C k B,w]
   obtain⟨X,-⟩:=L (U.resolve_left w);obtain⟨q1,q2⟩:=D _ X;refine⟨n,cI H (cT (cm n H) ys),λk B=>?_,q1,G,q2⟩
   simp only[je,hk,nC,Bool.false_eq_true,if_false];split
   .rename_i y hy;have h9:=pE hy;rw[C k B]at h9;cases h9;obtain⟨f1,f2⟩:=fits k hy (by simpa using w)
    rw[if_neg w,if_pos f1,<-f2,Q k B]
   simp only[ad,if_true,C k B];rw[if_neg w,Q k B]
  obtain⟨n3,af⟩:=Kw r ha hs o1 o2 hno;have O:=DN h1 h2 h3 af
  by_cases w:(result J).scalar=true
  .refine⟨max n1 n3,H,λk B=>?_,r,G,.refl⟩
   simp[je,hk];have:=O k B;simp[this,w]
  obtain⟨X,-⟩:=L (U.resolve_left w);obtain⟨q1,q2⟩:=D _ X;refine⟨max n (max n1 n3),cI H (cT (cm n H) ys),λk B=>?_,q1,G,q2⟩
  simp only[je,hk,nC,Bool.false_eq_true,if_false];have h9:=O k Za
  obtain⟨f1,f2⟩:=fits k h9 (by simpa using w)
  simp only[h9];rw[if_neg w,if_pos f1,<-f2,Q k Za]
theorem EM {α:Type} {k:Nat} {v:α}:∀{ds:List Nat} {g:Tb α},bh (oN ds g) k=some v->k∉ds
 | [],_,_=>by simp
 | d::ds,g,h=>by
  have h1:=EM (ds:=ds) h;have u:=(nQ (nX  h)).1
  grind
theorem yA:∀{args:List SV} {ds:List Nat},rowsOf args=some ds->∀(j:Nat) u,args[j]? = some u->(∃x,u=.v x)\/∃d,u=.own d/\d∈ds
 | [],_,_,j,u,hu=>by simp_all
 | .v x::r,ds,h,j,u,hu=>by
  cases j with
  | zero=>grind
  | succ j=>exact yA  (by simpa [rowsOf]using h) j u Zd
 | .own d::r,ds,h,j,u,hu=>by
  obtain⟨es,h1,rfl⟩:=ζf.1 h
  cases j with
  | zero=>grind
  | succ j=>
   rcases yA h1 j u Zd with k|⟨w,k1,k2⟩
   .grind
   grind
 | .ptr ..::_,_,h,_,_,_|.el ..::_,_,h,_,_,_|.mp _::_,_,h,_,_,_|.clo ..::_,_,h,_,_,_|.tup _::_,_,h,_,_,_|.agg _::_,_,h,_,_,_|.yl _::_,_,h,_,_,_=>by simp[rowsOf]at h
theorem uY:∀{args:List SV} {ds:List Nat} {n:Nat} {az:List V},rowsOf args=some ds->cV m n args=some az->∀d∈ds,∃ob,bh m d=some ob
 | [],ds,_,_,h,_,d,hd=>by simp[rowsOf]at h;grind
 | x::r,ds,n,az,h,B,d,hd=>by
  simp[cV]at B;split at B
  rotate_left
  .cases B
  rename_i y s h1 D
  cases x with
  | v x=>exact uY  (by simpa [rowsOf]using h) D d hd
  | own e=>
   obtain⟨es,g1,rfl⟩:=ζf.1 h;rcases List.mem_cons.1 hd with rfl|hd
   .cases n <;> (simp[shut]at h1;grind)
   exact uY g1 D d hd
  | _=>simp[rowsOf]at h
theorem A4 {H0:bl} (U:Deep H0 Z) (Y:∀d ob,bh m d=some ob->cD ob=true->(H0[(ν d).1]?).isSome=true->d_ ν m H0 Z d ob) {args:List SV} {ys:List V} (W:b_ ν m H0 Z args ys) {ds:List Nat} (hr:rowsOf args=some ds)
 (J:∀d∈ds,∃ob,bh m d=some ob) {q id:Nat} (h:id∈cT (cm q H0) ys):Z id\/∃d ob,d∈ds/\bh m d=some ob/\cD ob=true/\(ν d).1=id/\∃j es off len:Nat,ys[j]? = some (V.hsl id es off len):=by
 obtain⟨j,y,T,hk⟩:=pH h;have X:j<args.length:=by rw[W.1];grind
 have hu:=ζd X;have D:=W.2 j _ y hu T;rcases yA hr j _ hu with⟨x,e⟩|⟨d,e,I⟩
 .rw[e]at D;cases D with|v _ _ hf=>exact .inl (FR.cm U q hf id hk)
 rw[e]at D;obtain⟨ob,C⟩:=J d I;obtain⟨k,es,G,rfl,rfl⟩:=D.jP C
 by_cases w:cN k=true
 .cases q with
  | zero=>simp[cm]at hk
  | succ q=>
  have L:rj (ν d) k es G.length=.hsl (ν d).1 es (ν d).2 G.length:=by cases k <;> first|rfl|cases w
  rw[L]at hk;have hb:cD (.sl k es G)=true:=w
  by_cases z:(H0[(ν d).1]?).isSome=true
  .have o:=Y d _ C hb z;simp[d_,w]at o;obtain⟨zs,h1,_,_,h4,_⟩:=o;simp only[cm,V.closed,Bool.false_eq_true,if_false,h1,List.mem_cons]at hk;rcases hk with rfl|hk
   .grind
   obtain⟨i,u,hu,O⟩:=pH hk;obtain⟨c,hc,Q⟩:=List.mem_flatten.1 (List.mem_of_getElem? hu);obtain⟨x,hx⟩:=h4 c (List.mem_of_mem_drop (List.mem_of_mem_take hc)) u Q;exact .inl (FR.cm U q hx id O)
  have B:H0[(ν d).1]? = none:=by grind
  simp[cm,V.closed,B]at hk
  grind
 have S:(rj (ν d) k es G.length).closed=true:=by cases k <;> first|rfl|(exact absurd rfl w)
 rw[HK q H0 S]at hk;cases hk
theorem RU (hS:jo S c) {ops:List Oper} {place:Option (Nat×Nat)} {nw:Bool} (U:∀b i,place=some (b,i)->nw=true->dF ops i=true)
 (hold:∀b i,place=some (b,i)->∀id,Z id->id<b)
 (r:R ν Z st F H) {args:List SV} {ys:List V} (ha:b_ ν st.m H Z args ys) {f:FuncId} (hk:S.E.keep f=false) {az:List V} (hs:cV st.m 8 args=some az) (ab:(!place.isSome||nw)=true)
 {rs:List SV} {m':dZ} {J:List V} (hc:c f (az.map .v) []=some (rs,m')) (W:cV m' 8 rs=some J) (O:(result J).scalar=false) {ds:List Nat} (hr:rowsOf args=some ds) (Y:∀d∈ds,∃ob,bh st.m d=some ob) :
 ∃n H',(∀k,n<=k->je S.E (run S.E k) ops place f ys H=some (result J,H'))/\R ν Z { st with m:=oN ds st.m } F H'/\dc ν (oN ds st.m) H' Z (.v (result J)) (result J)/\Ev Rv ν Z st H ν Z { st with m:=oN ds st.m } H':=by
 have hg:=zl r.obj hs ha;obtain⟨n1,rr,H2,h1,h2,h3⟩:=Bm hS hg hc W;obtain⟨n2,hb⟩:=wJ r ha hs;have C:=DN h1 h2 h3 hb;generalize hn:max n1 n2=n at C;have D:=C;have L:∀k,n<=k->cT (cm k H) ys=cT (cm n H) ys:=λk hk=>xT hk (hb n Za)
 have X:∀{H'},dc ν (oN ds st.m) H' Z (.v (result J)) (result J):=.v _ _ (.same _ h3);have B:∀d ob,bh (oN ds st.m) d=some ob->bh st.m d=some ob:=λd ob h=>nX h
 have hT:∀id∈cT (cm n H) ys,Z id\/∃d ob,d∈ds/\bh st.m d=some ob/\cD ob=true/\(ν d).1=id/\∃j es off len:Nat,ys[j]? = some (V.hsl id es off len):=λid w=>A4 r.deep (λd ob h _ _=>r.obj d ob h) ha hr Y w
 have r2  := r.less (λ_ _ h=>h) B
 have q1  := r2.heap (λid ho=>tu λw=>by
  obtain⟨d,ob,g1,g2,rfl⟩:=ho;rcases hT _ w with h|⟨d',Q,k1,k2,k3,k4,_⟩
  .exact r.apart d ob (B d ob g1) g2 h
  have:=r.inj d' d Q ob k2 (B d ob g1) k3 g2 k4;subst this;exact EM g1 k1) (λid w=>qz r.zrow w)
 have q2:Ev Rv ν Z st H ν Z { st with m:=oN ds st.m } (cI H (cT (cm n H) ys)):=(Ev.heap (by rw[jR];grind) (λid _ ho W _=>tu λw=>by
  rcases hT _ w with h|⟨d',Q,k1,k2,k3,k4,_⟩
  .simp_all
  exact ho ⟨d',Q,k2,k3,k4⟩) (λid w=>qz r.zrow w)).trans (Ev.less  B)
 cases place with
 | none=>exact⟨n,cI H (cT (cm n H) ys),λk z=>by simp[je,kV,hk,D k z,O,nC,L k z],q1,X,q2⟩
 | some bi=>
  obtain⟨b,i⟩:=bi;have o2:=hold b i rfl;have fits:∀k,cg (run S.E k) f ys (H.take b)=some (result J)->iM (H.take b) (cT (cm k (H.take b)) ys)=true/\cT (cm k H) ys=cT (cm k (H.take b)) ys:=λk hi=>by
   have G:∀id,Z id->Z id/\bp (H.take b) id=bp H id:=λid h=>⟨h,mS (o2 id h)⟩
   have hd:Deep (H.take b) Z:=⟨λid es ys W hr c hc u hu=>by
    rw[(G id W).2]at hr;obtain⟨x,hx⟩:=r.deep.row id es ys W hr c hc u hu;exact⟨x,hx.mono G⟩⟩
   have ad  := ha.mono G λe _=>iQ ν st.m e
   have ae:∀d ob,bh st.m d=some ob->cD ob=true->((H.take b)[(ν d).1]?).isSome=true->d_ ν st.m (H.take b) Z d ob:=λd ob h hb af=>
    d_.mono G rfl (λ_=>by
     grind) (λe _=>iQ ν st.m e) (r.obj d ob h)
   have aa:∀(j:Nat) (y:V),ys[j]? = some y->(borrow k (H.take b) y).isSome=true:=λj y T=>by
    unfold cg at hi;rw[nC]at hi;split at hi
    .rename_i ah ai;obtain⟨_,hm⟩:=iO ai;have hj:=(ζe.1 T).1;obtain⟨x,ak,al⟩:=hm j _ (ζd (show j<ah.length by omega))
     grind
    cases hi
   have hZ:∀id∈cT (cm k (H.take b)) ys,id<b/\(bp (H.take b) id).isSome=true:=λid w=>by
    rcases A4 hd ae ad hr Y w with h|⟨d,ob,k1,k2,k3,k4,j,es,off,len,T⟩
    .have:=r.zrow id h
     grind
    have I:=aa j _ T
    cases k with
    | zero=>simp[borrow,V.closed]at I
    | succ k=>
    simp only[borrow,V.closed,Bool.false_eq_true,if_false]at I;split at I
    next am xs hx=>obtain⟨o,ho,_⟩:=ζg.1 hx;have:=(ζe.1 ho).1;rw[List.length_take]at this;exact⟨by omega,by unfold bp;rw[hx];rfl⟩
    cases I
   refine⟨?_,tC _ λid w=>(hZ id w).1⟩
   unfold iM;rw[List.all_eq_true];exact λid w=>(hZ id w).2
  refine⟨n,cI H (cT (cm n H) ys),λk z=>?_,q1,X,q2⟩
  simp only[je,kV,hk,nC,Bool.false_and,Bool.false_eq_true,if_false];split
  next y T=>have h9:=pE T;rw[D k z]at h9;cases h9;obtain⟨f1,f2⟩:=fits k T;rw[if_neg (by rw[O];simp),if_pos f1,<-f2,L k z]
  have aj:=U b i rfl (by simpa using ab)
  simp only[aj,if_true,D k z];rw[if_neg (by rw[O];simp),L k z]
theorem Ip {xs ys:List (List V)} (h:ga H Z xs ys) (B:n9 xs=true):ys=xs:=by
 refine(List.ext_getElem h.1 λj h1 z=>?_).symm
 have:=h.2 j _ _ (ζd h1) (ζd z);have w  := by
  unfold n9 at B;rw[List.all_eq_true]at B;have:=B _ (List.getElem_mem h1);rw[List.all_eq_true]at this;exact qu.2 λk u hu=>this u (List.mem_of_getElem? hu)
 exact(this.scalar.1 w).symm
theorem C0:∀{B:List Nat} {os:Tb bG} {g:Tb bG},lC g B=some os->∀k ob,bh os k=some ob->bh g k=some ob
 | [],os,g,h,k,ob,hk=>by simp[lC]at h;subst h;simp[bh]at hk
 | n::r,os,g,h,k,ob,hk=>by
  simp only[lC]at h;split at h
  .rename_i v t h1 D;cases h;simp only[bh]at hk;split at hk
   next e=>subst e;cases hk;exact h1
   exact C0 D k ob hk
  cases h
theorem HU {args:List SV} {os:dZ} (h:ua m args=some os):∀k ob,bh os k=some ob->bh m k=some ob:=C0 h
mutual
theorem ND {d:Nat}:∀{x:SV},x.cR d=true->d∈x.Cq
 | .v _,h=>by simp[SV.cR]at h
 | .own e,h|.ptr e _,h|.el e _ _,h|.mp e,h=>by simp[SV.cR]at h;simp[SV.Cq,h]
 | .clo _ a b,h=>by
  simp only[SV.cR,Bool.or_eq_true]at h;simp only[SV.Cq,List.mem_append];rcases h with h|h
  .exact .inl (tJ h)
  exact .inr (tJ h)
 | .tup l,h|.agg l,h=>by simp only[SV.cR]at h;simp only[SV.Cq];exact tJ h
 | .yl _,h=>by simp[SV.cR]at h
theorem tJ {d:Nat}:∀{l:List SV},SV.dz d l=true->d∈SV.u7 l
 | [],h=>by simp[SV.dz]at h
 | x::r,h=>by
  simp only[SV.dz,Bool.or_eq_true]at h;simp only[SV.u7,List.mem_append];rcases h with h|h
  .exact .inl (ND h)
  exact .inr (tJ h)
end
theorem A2 {D:List Nat} {ob:bG} (h:within D ob=true) {e:Nat} (B:ob.cR e=true):e∈D:=by
 cases ob with
 | box w=>
  unfold within at h;rw[List.all_eq_true]at h;simpa using h e (tJ B)
 | sl k es z=>simp[bG.cR]at B
 | mp u=>simp[bG.cR]at B
theorem B9 {D:List Nat}:∀{l:List Nat} {a b:Tb bG},vP D m' l a=some b->(∀k∈l,bh b k=bh m' k/\∃ob,bh m' k=some ob/\within D ob=true)/\∀k,k∉l->bh b k=bh a k
 | [],a,b,h=>by simp[vP]at h;grind
 | d::r,a,b,h=>by
  simp[vP]at h;split at h
  .rename_i ob B;split at h
   .rename_i J;obtain⟨h1,G⟩:=B9 h;refine⟨λk hk=>?_,λk hk=>?_⟩
    .by_cases hr:k∈r
     .grind
     have e:k=d:=by grind
     subst e;exact⟨by rw[G k hr,cG,B],ob,B,J⟩
    simp  at hk;rw[G k hk.2,dS _ _ (Ne.symm hk.1)]
   grind
  grind
theorem E0 {l:List Nat} {a b:Tb bG} (h:lX m' l a=some b):(∀k∈l,bh b k=bh m' k/\∃ob,bh m' k=some ob/\within l ob=true)/\∀k,k∉l->bh b k=bh a k:=B9 h
theorem mem_keys:∀{os:dZ} {k:Nat},k∈os.map (·.1)↔∃ob,bh os k=some ob
 | [],k=>by simp[bh]
 | (d,o)::os,k=>by
  simp[bh]
  by_cases e:d=k
  .simp_all
  rw[if_neg e,<-mem_keys]
  grind
theorem sJ:∀{l:List SV} {j:Nat} {u:SV},SV.vz l=true->l[j]? = some u->u.bare=true
 | [],j,u,h,B=>by simp at B
 | x::r,j,u,h,B=>by
  simp only[SV.vz,ζh]at h
  cases j with
  | zero=>simp at B;subst B;exact h.1
  | succ j=>exact sJ h.2 (by simpa using B)
theorem dc.bare {Z2:Nat->Prop} {sv:SV} {y:V} (r:dc ν m H Z sv y):sv.bare=true->dc ν m H Z2 sv y:=by
 induction r with
 | v x y h=>
  intro z;have z:x.scalar=true:=z;rw[(h.scalar.1 z)];exact .v _ _ (.same _ (kq z))
 | own d y h=>intro _;exact .own d y h
 | ptr d o y h=>intro _;exact .ptr d o y h
 | el d i o y h=>intro _;exact .el d i o y h
 | mp d y h=>intro _;exact .mp d y h
 | clo f a b B G C z hva I w D=>
  intro h;simp only[SV.bare,ζh]at h;exact .clo f a b B G C z (λj u v hu hv=>w j u v hu hv (sJ h.1 hu)) λj u v hu hv=>D j u v hu hv (sJ h.2 hu)
 | tup a B C hva w=>intro h;exact .tup a B C λj u v hu hv=>w j u v hu hv (sJ h hu)
 | agg a B C hva w=>intro h;exact .agg a B C λj u v hu hv=>w j u v hu hv (sJ h hu)
 | yl id=>intro _;exact .yl id
theorem d_.bare {Z2:Nat->Prop} {d:Nat} {ob:bG} (h:ob.bare=true) (o:d_ ν m H Z d ob):d_ ν m H Z2 d ob:=by
 cases ob with
 | box D=>
  obtain⟨es,w,h1,z,B⟩:=o;exact⟨es,w,h1,⟨z.1,λj u v hu hv=>(z.2 j u v hu hv).bare (sJ h hu)⟩,B⟩
 | sl k es G=>cases h
 | mp C=>cases h
theorem zH (hS:jo S c) {f:FuncId} (ae:S.E.keep f=true) (r:R ν Z st F H) {args:List SV} {ys:List V} (ha:b_ ν st.m H Z args ys) {os:dZ} (hh:ua st.m args=some os)
 {rs:List SV} {m':dZ} {J:Tb bG} (hc:c f args os=some (rs,m')) (hb:lX m' (os.map (·.1)) st.m=some J) :
 ∃n H' U Z' G F1 ws,(∀k,n<=k->run S.E k (.fn f) ys H=some (result ws,H'))/\G.m=m'/\b_ U m' H' Z' rs ws/\R U Z' G F1 H'/\(∀e ob,bh m' e=some ob->e∉os.map (·.1)->cD ob=true->H.length<=(U e).1) /\
  R ν Z' { st with m:=J } F H'/\Ev Rv ν Z st H ν Z' { st with m:=J } H'/\(∀e ob',bh J e=some ob'->∃ob,bh st.m e=some ob/\ν e=ν e/\sameShape ob ob') /\
  ((∀k∈os.map (·.1),zB J k=true)->R ν Z { st with m:=J } F H'/\Ev Rv ν Z st H ν Z { st with m:=J } H'):=by
 have u:=HU hh;have ab  := ha.mono (λid h=>⟨h,rfl⟩) λe _ ob' h=>⟨ob',u e ob' h,rfl,.refl _⟩
 have r0:R ν Z (start args os) ys H:=by
  refine⟨wm ab,λd ob hd=>?_,λd d' ob ob' h1 B=>r.inj d d' ob ob' (u d ob h1) (u d' ob' B),λd ob h=>r.apart d ob (u d ob h),r.zrow,r.deep⟩
  exact d_.mono (λid h=>⟨h,rfl⟩) rfl (λ_=>rfl) (λe _ ob' h=>⟨ob',u e ob' h,rfl,.refl _⟩) (r.obj d ob (u d ob hd))
 obtain⟨n,y,H',U,Z',G,F1,ws,e1,rfl,rfl,e2,e3,ev⟩:=hS f args os rs m' hc ν Z ys H (.inl ae) r0 ab;obtain⟨b1,b2⟩:=E0 hb;have I:∀k ob',k∈os.map (·.1)->bh G.m k=some ob'->∃ob,bh os k=some ob/\U k=ν k/\sameShape ob ob':=λk ob' hk h=>ev.pin k hk ob' h
 have L:∀id,fA ν os id->fA ν st.m id:=λid ⟨k,o,h1,B,C⟩=>⟨k,o,u k o h1,B,C⟩
 have bk:∀ob ob':bG,sameShape ob ob'->cD ob'=cD ob:=λob ob' h=>by
  cases ob <;> cases ob' <;> simp[sameShape]at h
  .simp[cD,h.1]
  .rfl
  rfl
 have D:∀k ob',bh J k=some ob'->∃ob,bh st.m k=some ob/\sameShape ob ob'/\(k∈os.map (·.1)/\bh G.m k=some ob'/\U k=ν k/\bh os k=some ob/\within (os.map (·.1)) ob'=true\/k∉os.map (·.1)/\ob'=ob):=λk ob' h=>by
  by_cases hk:k∈os.map (·.1)
  .grind
  rw[b2 k hk]at h;exact⟨ob',h,.refl _,.inr ⟨hk,rfl⟩⟩
 have z:∀k ob,k∉os.map (·.1)->bh st.m k=some ob->cD ob=true->H'[(ν k).1]? = H[(ν k).1]? /\ ¬Z' (ν k).1:=λk ob hk h w=>by
  have ad:¬fA ν os (ν k).1:=by
   rintro⟨k2,o2,g1,g2,g3⟩;have:=r.inj k2 k o2 ob (u k2 o2 g1) h g2 w g3;subst this;exact hk (mem_keys.2 ⟨o2,g1⟩)
  have af:=r.lt ⟨k,ob,h,w,rfl⟩;have ah:=r.apart k ob h w;refine⟨ev.same _ af ad ah (λh=>h),λai=>?_⟩
  rcases ev.frz _ ai with h|h|h|h
  .simp_all
  .exact ad h
  .omega
  omega
 have Y:∀e ob',bh J e=some ob'->∃ob,bh st.m e=some ob/\ν e=ν e/\sameShape ob ob':=λe ob' h=>by
  obtain⟨ob,h1,B,_⟩:=D e ob' h;exact⟨ob,h1,rfl,B⟩
 have fresh:∀e ob,bh G.m e=some ob->e∉os.map (·.1)->cD ob=true->H.length<=(U e).1:=λe ob he aj w=>by
  rcases ev.own _ ⟨e,ob,he,w,rfl⟩with⟨k,o,h1,B,C⟩|h|h
  .have hk:k∈os.map (·.1):=mem_keys.2 ⟨o,h1⟩;obtain⟨_,ob',h4,_⟩:=b1 k hk;obtain⟨o2,T,q2,q3⟩:=I k ob' hk h4;have T:bh os k=some o2:=T;have h1:bh os k=some o:=h1;rw[h1]at T;cases T;have:=e3.inj e k ob ob' he h4 w (by rw[bk _ _ q3];exact B) (by rw[q2];exact C.symm)
   exact absurd (this▸hk) aj
  .exact h.elim
  exact h
 have W:∀d1 d2 o1 o2,bh J d1=some o1->bh J d2=some o2->cD o1=true->cD o2=true->(ν d1).1=(ν d2).1->d1=d2:=λd1 d2 o1 o2 h1 B k1 k2 hp=>by
  obtain⟨p1,g1,s1,_⟩:=D d1 o1 h1;obtain⟨p2,g2,s2,_⟩:=D d2 o2 B;exact r.inj d1 d2 p1 p2 g1 g2 (by rw[<-bk _ _ s1];omega) (by rw[<-bk _ _ s2];omega) hp
 have O:∀id,id<H.length->¬fA ν st.m id->¬Z id->¬Rv id->H'[id]? = H[id]? := λid hl ho hz _=>ev.same id hl (λh=>ho (L id h)) hz (λh=>h)
 have X:∀id,fA ν J id->fA ν st.m id\/Rv id\/H.length<=id:=by
  rintro id ⟨k,o,h1,B,C⟩;obtain⟨ob,g1,s1,_⟩:=D k o h1;exact .inl ⟨k,ob,g1,by rw[<-bk _ _ s1];omega,C⟩
 have aa:∀id,Z id->Z id/\bp H' id=bp H id:=λid h=>⟨h,(ev.rows id h).2⟩
 refine⟨n,H',U,Z',G,F1,ws,λk hk=>(nr S.E hk).go _ _ _ _ e1,rfl,e2,e3,fresh,⟨λs sv hs=>(r.slot s sv hs).mono ev.rows λe _=>Y e,λk ob' h=>?_,W,λd1 o1 h1 k1=>?_,e3.zrow,e3.deep⟩,⟨ev.len,O,ev.rows,X,?_,λe _=>Y e,rfl⟩,Y,
  λak=>⟨⟨λs sv hs=>(r.slot s sv hs).mono aa λe _=>Y e,λk ob' h=>?_,W,λd1 o1 h1 k1=>?_,λid h=>by rw[(ev.rows id h).2];exact r.zrow id h,r.deep.mono λid h=>(ev.rows id h).2⟩,⟨ev.len,O,aa,X,λid h=>.inl h,λe _=>Y e,rfl⟩⟩⟩
 .obtain⟨ob,h1,B,C|⟨C,rfl⟩⟩:=D k ob' h
  .obtain⟨T,q2,q3,q4,q5⟩:=C;refine d_.mono (λid h=>⟨h,rfl⟩) q3.symm (λ_=>rfl) (λe he Q B=>?_) (e3.obj k ob' q2)
   have hm:=A2 q5 he;obtain⟨u1,al,u2,_⟩:=b1 e hm;rw[u1,u2]at B;cases B;obtain⟨_,_,u4,_⟩:=I e Q hm u2;exact⟨Q,u2,u4.symm,.refl _⟩
  exact d_.mono ev.rows rfl (λw=>(z k ob' C h1 w).1) (λe _=>Y e) (r.obj k ob' h1)
 .obtain⟨ob,g1,s1,C|⟨C,rfl⟩⟩:=D d1 o1 h1
  .obtain⟨T,q2,q3,q4,q5⟩:=C;rw[<-q3];exact e3.apart d1 o1 q2 k1
  exact(z d1 o1 C g1 k1).2
 .intro id h;rcases ev.frz id h with h|h|h|h
  .exact .inl h
  .exact .inr (.inl (L id h))
  .exact h.elim
  omega
 .obtain⟨ob,h1,B,C|⟨C,rfl⟩⟩:=D k ob' h
  .obtain⟨T,q2,q3,q4,q5⟩:=C;have hb:=ak k T;unfold zB at hb;rw[h]at hb;refine d_.bare (Z:=Z') hb (d_.mono (λid h=>⟨h,rfl⟩) q3.symm (λ_=>rfl) (λe he Q B=>?_) (e3.obj k ob' q2))
   have hm:=A2 q5 he;obtain⟨u1,al,u2,_⟩:=b1 e hm;rw[u1,u2]at B;cases B;obtain⟨_,_,u4,_⟩:=I e Q hm u2;exact⟨Q,u2,u4.symm,.refl _⟩
  exact d_.mono aa rfl (λw=>(z k ob' C h1 w).1) (λe _=>Y e) (r.obj k ob' h1)
 obtain⟨ob,g1,s1,_⟩:=D d1 o1 h1;exact r.apart d1 ob g1 (by rw[<-bk _ _ s1];exact k1)
theorem Q6 (J:jo S c) {f:FuncId} (G:S.E.keep f=true) (r:R ν Z st F H) {args:List SV} {ys:List V} (O:b_ ν st.m H Z args ys) {os:dZ} (U:ua st.m args=some os)
 {rs:List SV} {m':dZ} {D:List V} {B:Tb bG} (hc:c f args os=some (rs,m')) (W:dw rs=some D) (Y:lX m' (os.map (·.1)) st.m=some B) :
 ∃n y H' Z',(∀k,n<=k->run S.E k (.fn f) ys H=some (y,H'))/\R ν Z' { st with m:=B } F H'/\dc ν B H' Z' (.v (result D)) y/\Ev Rv ν Z st H ν Z' { st with m:=B } H'/\∀e ob',bh B e=some ob'->∃ob,bh st.m e=some ob/\ν e=ν e/\sameShape ob ob':=by
 obtain⟨n,H',Q,Z',C,F1,w,e1,_,e2,_,_,g1,g2,g3,_⟩:=zH (Rv:=Rv) J G r O U hc Y;refine⟨n,result w,H',Z',e1,g1,?_,g2,g3⟩;have u:=e2.dw W;have:FR H' Z' (result D) (result w):=by
  cases D with
  | nil=>rw[u.cW];exact .same _ rfl
  | cons x z=>
   obtain⟨y,I,rfl,g1,g2⟩:=u.inv
   cases z with
   | nil=>rw[g2.cW];exact g1
   | cons x2 z=>
    obtain⟨T,L,rfl,g3,g4⟩:=g2.inv;exact .tup _ _ u.1 u.2
 exact .v _ _ this
theorem wN {ys:List V} (h:V.cO ys=true):(result ys).scalar=true:=by
 cases ys with
 | nil=>rfl
 | cons a l=>
  cases l with
  | nil=>simp only[V.cO,ζh]at h;exact h.1
  | cons b l=>simp[result,V.scalar];omega
theorem Sh (U:jo S c) {f:FuncId} (G:S.E.keep f=true) (r:R ν Z st F H) {args:List SV} {ys:List V} (W:b_ ν st.m H Z args ys) {os:dZ} (Y:ua st.m args=some os)
 {rs:List SV} {m':dZ} {D:List V} {B:Tb bG} (hc:c f args os=some (rs,m')) (hz:dw rs=some D) (hb:lX m' (os.map (·.1)) st.m=some B) (O:V.cO D=true) (J:∀k∈os.map (·.1),zB B k=true) :
 ∃n H',(∀k,n<=k->run S.E k (.fn f) ys H=some (result D,H'))/\R ν Z { st with m:=B } F H'/\dc ν B H' Z (.v (result D)) (result D)/\Ev Rv ν Z st H ν Z { st with m:=B } H'/\∀e ob',bh B e=some ob'->∃ob,bh st.m e=some ob/\ν e=ν e/\sameShape ob ob':=by
 obtain⟨n,H',z,Z',u,F1,C,e1,_,e2,_,_,_,_,g3,g4⟩:=zH (Rv:=Rv) U G r W Y hc hb;obtain⟨g1,g2⟩:=g4 J;have w:=(e2.dw hz).scalar.1 O;subst w;exact⟨n,H',e1,g1,.v _ _ (.same _ (kq (wN O))),g2,g3⟩
theorem RB (hS:jo S c) {f:FuncId} (U:S.E.keep f=true) (r:R ν Z st F H) {args:List SV} {ys:List V} (ha:b_ ν st.m H Z args ys) {os:dZ} (hh:ua st.m args=some os)
 {rest:List SV} {m':dZ} {O:List V} {B:Tb bG} {e t es:Nat} {k:Fl} {xs:List (List V)} (hc:c f args os=some (.own e::rest,m')) (hz:dw rest=some O) (hb:lX m' (os.map (·.1)) st.m=some B)
 (G:bh m' e=some (.sl k es xs)) (J:e∉os.map (·.1)) (D:St.new { st with m:=B } t=true) :
 ∃n y H' ν' Z',(∀k,n<=k->run S.E k (.fn f) ys H=some (y,H'))/\R ν' Z' { st with m:=bM B t (.sl k es xs) } F H'/\dc ν' (bM B t (.sl k es xs)) H' Z' (Az (.own t::O.map .v)) y/\Ev Rv ν Z st H ν' Z' { st with m:=bM B t (.sl k es xs) } H'/\Kept (some t) ν st.m ν' (bM B t (.sl k es xs)):=by
 obtain⟨n,H',I,Z',aa,F1,ws,e1,rfl,e2,e3,fresh,g1,g2,g3,_⟩:=zH (Rv:=Rv) hS U r ha hh hc hb;obtain⟨w,T,rfl,q1,q2⟩:=e2.inv;have o:=e3.obj e _ G;have W:cD (.sl k es xs)=true->¬fA ν B (I e).1:=λC=>by
  rintro⟨k2,o2,h1,h2,h3⟩;obtain⟨o3,h4,_,Y⟩:=g3 k2 o2 h1;have X:cD o3=true:=by
   cases o3 <;> cases o2 <;> simp[sameShape]at Y
   .rw[<-h2];simp[cD,Y.1]
   .rfl
   rfl
  have ab:=r.lt ⟨k2,o3,h4,X,rfl⟩;have:=fresh e _ G J C;omega
 have hR:=g1.add D (ob:=.sl k es xs) (p:=I e) (λC=>⟨W C,e3.apart e _ G C⟩) (by
  simp only[d_,gJ];exact o)
 have hsl:dc (iH ν t (I e)) (bM B t (.sl k es xs)) H' Z' (.own t) w:=by
  refine .own _ _ λu h'=>?_
  rw[cG]at h';cases h';obtain⟨_,_,_,ee,rfl⟩:=q1.jP G;cases ee;exact⟨_,_,_,rfl,by rw[gJ]⟩
 obtain⟨n1,n2,n3,n4⟩:=lV D;refine⟨n,result (w::T),H',iH ν t (I e),Z',e1,hR,?_,⟨g2.len,g2.same,g2.rows,?_,g2.frz,?_,g2.pins⟩,?_⟩
 .have L:=q2.dw hz
  cases O with
  | nil=>rw[L.cW];exact hsl
  | cons x O=>
   obtain⟨y,ad,rfl,_,_⟩:=L.inv;exact .tup _ _ (by have:=L.1;simp at this ⊢;omega) (b_.cons hsl (b_.qC L)).2
 .intro id h;rcases Dm h with h|⟨h1,rfl⟩
  .exact g2.own id h
  exact .inr (.inr (fresh e _ G J h1))
 .intro d Q u h;have z:d≠t:=λe=>n1 (e▸Q)
  have h:bh (bM B t (.sl k es xs)) d=some u:=h;rw[dS _ _ (Ne.symm z)]at h;obtain⟨ob,k1,k2,k3⟩:=g2.pin d Q u h;exact⟨ob,k1,by rw[oE _ _ z],k3⟩
 intro d u Q h;have z:d≠t:=λe=>Q (by rw[e])
 rw[dS _ _ (Ne.symm z)]at h;obtain⟨ob,k1,_,k3⟩:=g3 d u h;exact⟨ob,k1,oE _ _ z,k3⟩
theorem NF (B:jo S c) {f:FuncId} {az:List V} {rs:List SV} {m':dZ} (hg:V.cA az=true) (h:c f (az.map .v) []=some (rs,m')) :
 ∃n H2 ν' Z' st' F' ys,(∀k,n<=k->run S.E k (.fn f) az []=some (result ys,H2))/\st'.m=m'/\b_ ν' m' H2 Z' rs ys/\R ν' Z' st' F' H2:=by
 obtain⟨u,r1⟩:=vw hg;obtain⟨n,y,H2,ν',Z',st',F',w,h1,rfl,z,C,D,_⟩:=B f _ _ _ _ h _ _ az [] (.inr rfl) u r1;exact⟨n,H2,ν',Z',st',F',w,λk hk=>(nr S.E hk).go _ _ _ _ h1,z,C,D⟩
theorem C2 {ys:List V} (h:V.cO ys=true):V.cO (.bK::ys)=true/\V.cO (.dD::ys)=true:=by
 simp[V.cO,V.scalar];grind
theorem b_.Td {ys:List V} (h:V.cA ys=true):b_ ν m H Z (ys.map .v) ys:=b_.qC (dm.same h)
theorem NA (hS:jo S c) (hP:∀f q,S.prm f=some q->oa S.E f q) {ops:List Oper} {place:Option (Nat×Nat)} {dr nw:Bool} {fr:List Nat} (Y:dr=place.isSome) (U:∀b i,place=some (b,i)->nw=true->dF ops i=true) (aj:∀b i,place=some (b,i)->nw=false->dF ops i=false)
 (hold:∀b i,place=some (b,i)->(∀d ob,bh st.m d=some ob->cD ob=true->d∉fr->(ν d).1<b)/\∀id,Z id->id<b)
 (r:R ν Z st F H) {args:List SV} {ys:List V} (ha:b_ ν st.m H Z args ys) {f:FuncId} {dst:Option Nat} {sv:SV} (h:fP S c dst dr (!dr||nw) (fe st.m fr) f args st=some (sv,st')) :
 ∃n y H' ν' Z',(∀k,n<=k->je S.E (run S.E k) ops place f ys H=some (y,H'))/\R ν' Z' st' F H'/\dc ν' st'.m H' Z' sv y/\Ev Rv ν Z st H ν' Z' st' H'/\(dr=true->Z'=Z)/\Kept dst ν st.m ν' st'.m:=by
 unfold fP at h;split at h
 .rename_i hk;split at h
  .have C:∀{q:dx} {y:V} {H':bl},eT S.E q f ys H=some (y,H')->je S.E q ops place f ys H=some (y,H'):=λ{q y H'} hd=>by
    unfold je
    cases place with
    | none=>rw[if_pos (by simp[kV,hk])];omega
    | some bi=>
     obtain⟨b,i⟩:=bi;have aK  := Y;have aB:=U b i rfl Zd
     rw[if_pos (by simp[kV,hk,aB])]
     grind
   split at h
   .
    rename_i L;split at h
    .rename_i az hs;have hg:=zl r.obj hs ha;obtain⟨nb,hb⟩:=wJ r ha hs;split at h
     .rename_i rs m' hc;obtain⟨na,H2,ν2,Z2,st2,F2,ws,aC,rfl,e3,e4⟩:=NF hS hg hc;obtain⟨n,aD,aE⟩:∃n,na<=n/\nb<=n:=⟨max na nb,Nat.le_max_left ..,Nat.le_max_right ..⟩;have e1:=λk (hk:n<=k)=>aC k (Nat.le_trans aD hk)
      have O:∀k,n<=k->∀{o:Option (V×bl)},(if(result ws).scalar then some (result ws,H)else
       match result ws with
       | .hsl id es off len=>(qt H.length H2 id es off len).map λ(v,ob)=>(v,H++[ob])
       | .tup (.hsl id es off len::rest)=>if V.cO rest then(qt H.length H2 id es off len).map λ(v,ob)=>(.tup (v::rest),H++[ob])else none
       | _=>none)=o->eT S.E (run S.E k) f ys H=o:=λk D o ho=>by
       unfold eT j9;rw[if_pos L];simp[nC,hb k (Nat.le_trans aE D),e1 k D];exact ho
      have ak:∀G:List V,(result G).scalar=true->result ws=result G->sv=.v (result G)->st'=st->∃n y H' ν' Z',(∀k,n<=k->je S.E (run S.E k) ops place f ys H=some (y,H'))/\R ν' Z' st' F H'/\dc ν' st'.m H' Z' sv y/\Ev Rv ν Z st H ν' Z' st' H'/\(dr=true->Z'=Z)/\Kept dst ν st.m ν' st'.m:=by
       rintro G h1 h2 rfl rfl;exact⟨n,result G,H,ν,Z,λk D=>C (O k D (by rw[h2,if_pos h1])),r,.v _ _ (.same _ (kq h1)),.refl,λ_=>rfl,.refl⟩
      have emp:∀(k:Fl) (es:Nat) (G:List V) (rest:List SV),V.cO G=true->∀t,st.new t=true->∀w:V,(k=.nil/\w=.bK\/k=.emp/\w=.dD)->result (w::G)=result ws->dst=some t->sv=Az (.own t::G.map .v)->st'={ st with m:=bM st.m t (.sl k es []) } ->
       ∃n y H' ν' Z',(∀k,n<=k->je S.E (run S.E k) ops place f ys H=some (y,H'))/\R ν' Z' st' F H'/\dc ν' st'.m H' Z' sv y/\Ev Rv ν Z st H ν' Z' st' H'/\(dr=true->Z'=Z)/\Kept dst ν st.m ν' st'.m:=by
       rintro k es G rest W t Q w hw al rfl rfl rfl;have ad:cN k=false:=by rcases hw with⟨rfl,_⟩|⟨rfl,_⟩ <;> rfl
       have hsl:dc (iH ν t (0,0)) (bM st.m t (.sl k es [])) H Z (.own t) w:=by
        refine .own _ _ λT h'=>?_
        rw[cG]at h';cases h';exact⟨_,_,_,rfl,by rcases hw with⟨rfl,rfl⟩|⟨rfl,rfl⟩ <;> rfl⟩
       have am:(result (w::G)).scalar=true:=wN (by rcases hw with⟨_,rfl⟩|⟨_,rfl⟩;exact(C2 W).1;exact(C2 W).2)
       refine⟨n,result (w::G),H,iH ν t (0,0),Z,λk D=>C (O k D (by rw[<-al,if_pos am])),r.add Q (λhb=>by simp[cD,ad]at hb) (by simp[d_,ad]),?_,
        Ev.add Q (Nat.le_refl _) (λ_ _ _=>rfl) (λ_ _=>rfl) (λhb=>by simp[cD,ad]at hb),λ_=>rfl,Kept.add λ_ _ h=>h⟩
       cases G with
       | nil=>exact hsl
       | cons z G=>exact .tup _ _ Zc (b_.cons hsl (b_.Td (pF W))).2
      split at h
      .rename_i G J;split at h
       next W=>simp  at h;exact ak G W ((E3 (e3.dw J)).1 W) h.1.symm h.2.symm
       simp at h
      split at h
      .rename_i e rest t _;obtain⟨w,ws,rfl,g1,g2⟩:=e3.inv;split at h
       .
        rename_i es xs G X J;split at h
        .rename_i B;simp  at B;obtain⟨⟨c1,c2⟩,Q⟩:=B;simp  at h;obtain⟨rfl,rfl⟩:=h;have o:=e4.obj e _ X;simp only[d_,if_true]at o;obtain⟨rows,hr,aL,hf,aJ,an⟩:=o;obtain⟨q1,q2⟩:=an trivial;have ae  := by
          have:=Ip hf c2;rw[q1,List.drop_zero,<-q2,List.take_length]at this;exact this
         subst ae;obtain⟨_,_,_,ee,rfl⟩:=g1.jP X;cases ee;have I  := (g2.dw J).scalar.1 c1;subst I;have ao:qt H.length H2 (ν2 e).1 es 0 rows.length=some (.hsl H.length es 0 rows.length,.row es rows):=by
          unfold qt;rw[hr];simp only[true_and];rw[if_pos];rw[List.all_eq_true];intro x hx;unfold n9 at c2;rw[List.all_eq_true]at c2;exact c2 x hx
         have hH:∀id,id<H.length->(H++[Ob.row es rows])[id]? = H[id]? := λid hl=>List.getElem?_append_left hl
         have ap:∀id,Z id->bp (H++[Ob.row es rows]) id=bp H id:=λid J=>by unfold bp;rw[hH id (r.uZ J)]
         have r2  := r.heap (λid ho=>hH id (r.lt ho)) ap
         have aq:V.mG rows=true:=by
          refine lz.2 λj u hu=>?_
          unfold n9 at c2;rw[List.all_eq_true]at c2;have:=c2 u (List.mem_of_getElem? hu);rw[List.all_eq_true]at this;exact iz.2 λi v hv=>kq (this v (List.mem_of_getElem? hv))
         have hR:=r2.add   (ob:=.sl .row es rows) (p:=(H.length,0)) Q (λ_=>⟨λho=>absurd (r.lt ho) Zc,λJ=>absurd (r.uZ J) Zc⟩) (by
          simp only[d_,gJ];refine⟨rows,by simp,by simp,?_,(ga.same aq).Fs,λ_=>⟨trivial,rfl⟩⟩
          rw[List.drop_zero,List.take_length];exact ga.same aq)
         have hsl:dc (iH ν t (H.length,0)) (bM st.m t (.sl .row es rows)) (H++[Ob.row es rows]) Z (.own t) (.hsl H.length es 0 rows.length):=by
          refine .own _ _ λT h'=>?_
          rw[cG]at h';cases h';exact⟨_,_,_,rfl,by simp[rj,gJ]⟩
         have ar:Ev Rv ν Z st H (iH ν t (H.length,0)) Z { st with m:=bM st.m t (.sl .row es rows) } (H++[Ob.row es rows]):=Ev.add Q Zc (λid hl _=>hH id hl) ap (λ_=>.inr (Nat.le_refl _))
         have au:rj (ν2 e) Fl.row es rows.length=.hsl (ν2 e).1 es 0 rows.length:=by simp[rj,q1]
         rw[au]at O
         cases rest with
         | nil=>
          have  := by simp only[dw,ζa]at J;exact J.symm
          subst this;refine⟨n,_,_,_,Z,λk D=>C (O k D  ?_),hR,hsl,ar,λ_=>rfl,Kept.add λ_ _ h=>h⟩
          simp[result,V.scalar,ao]
         | cons x2 rest=>
          have aF:∃w2 af,ws=w2::af:=by
           have:=g2.1
           cases ws with
           | nil=>simp at this
           | cons a b=>exact⟨a,b,rfl⟩
          obtain⟨w2,af,rfl⟩:=aF;refine⟨n,_,_,_,Z,λk D=>C (O k D (o:=some (.tup (.hsl H.length es 0 rows.length::w2::af),H++[Ob.row es rows])) ?_),hR,?_,ar,λ_=>rfl,Kept.add λ_ _ h=>h⟩
          .simp only[result,V.scalar,V.cO,Bool.false_and,Bool.false_eq_true,if_false];have aG  := by simpa [V.cO]using c1
           simp[aG,ao]
          exact .tup _ _ Zc (b_.cons hsl (b_.Td (pF c1))).2
        simp at h
       .rename_i es xs G X J;split at h
        next B=>simp  at B;simp  at h;obtain⟨rfl,rfl⟩:=h;obtain⟨_,_,_,ee,rfl⟩:=g1.jP X;cases ee;have I:=(g2.dw J).scalar.1 B.1;subst I;exact emp .nil es ws rest B.1 _ B.2 .bK Zc rfl rfl rfl rfl
        simp at h
       .rename_i es xs G X J;split at h
        next B=>simp  at B;simp  at h;obtain⟨rfl,rfl⟩:=h;obtain⟨_,_,_,ee,rfl⟩:=g1.jP X;cases ee;have I:=(g2.dw J).scalar.1 B.1;subst I;exact emp .emp es ws rest B.1 _ B.2 .dD Zc rfl rfl rfl rfl
        simp at h
       simp at h
      simp at h
     grind
    grind
   rename_i L;split at h
   .rename_i q hq;split at h
    .simp at h
    rename_i hd;obtain⟨n,y,H',ν',e1,e2,e3,e4,e5⟩:=Su  (hP f q hq) r ha h;exact⟨n,y,H',ν',Z,λk D=>C (by unfold eT;rw[if_neg L];exact e1 k D),e2,e3,e4,λh=>absurd h hd,e5⟩
   split at h
   .rename_i os hh;split at h
    .rename_i rs m' hc;split at h
     .rename_i G m2 J hb;split at h
      .simp at h
      rename_i aa;simp  at h;obtain⟨rfl,rfl⟩:=h
      cases av:dr with
      | false=>
       obtain⟨n,y,H',Z',e1,e2,e3,e4,e5⟩:=Q6  hS hk r ha hh hc J hb;exact⟨n,y,H',ν,Z',λk D=>C (by unfold eT;rw[if_neg L];exact e1 k D),e2,e3,e4,(λh=>nomatch h),λe T _=>e5 e T⟩
      | true=>
       rw[av]at aa;have iN:V.cO G=true/\∀k∈os.map (·.1),zB m2 k=true:=by
        simp only[Bool.true_and,Bool.not_eq_true',Bool.not_eq_false,ζh,List.all_eq_true]at aa;refine⟨aa.1,λk hk=>?_⟩
        obtain⟨x,hx,rfl⟩:=List.mem_map.1 hk;exact aa.2 x hx
       obtain⟨n,H',e1,e2,e3,e4,e5⟩:=Sh (Rv:=Rv) hS hk r ha hh hc J hb iN.1 iN.2;exact⟨n,_,H',ν,Z,λk D=>C (by unfold eT;rw[if_neg L];exact e1 k D),e2,e3,e4,λ_=>rfl,λe T _=>e5 e T⟩
     .rename_i m2 J hb;split at h
      .simp at h
      rename_i hd;split at h
      .rename_i e rest t;split at h
       .rename_i k es xs G he aH;split at h
        next B=>simp only[ζh,Bool.not_eq_true',List.contains_eq_mem,decide_eq_false_iff_not]at B;simp only[ζa,ζc]at h;obtain⟨rfl,rfl⟩:=h;obtain⟨n,y,H',ν',Z',e1,e2,e3,e4,e5⟩:=RB hS hk r ha hh hc aH hb he B.1 B.2;exact⟨n,y,H',ν',Z',λk D=>C (by unfold eT;rw[if_neg L];exact e1 k D),e2,e3,e4,λh=>absurd h hd,e5⟩
        simp at h
       simp at h
      simp at h
     simp at h
    simp at h
   simp at h
  rename_i ab;split at h
  .rename_i ah;simp only[ζh]at ah;have ai:kV S.E ops place f=false:=by
    simp only[Bool.not_eq_true,Bool.or_eq_false_iff,Bool.not_eq_false']at ab
    cases place with
    | none=>rw[Y]at ab;simp at ab
    | some bi=>simp[kV,hk,ah.1,aj _ _ rfl ab.2]
   split at h
   .rename_i az hs;split at h
    .rename_i rs m' hc;split at h
     .rename_i G J;split at h
      next B=>simp only[Bool.or_eq_true]at B;simp at h;obtain⟨rfl,rfl⟩:=h;obtain⟨n,H',e1,e2,e3,e4⟩:=IK hS Y U hold r ha ai hs (.inr ah.2) hc J B;exact⟨n,_,H',ν,Z,e1,e2,e3,e4,λ_=>rfl,.refl⟩
      simp at h
     simp at h
    simp at h
   simp at h
  simp at h
 rename_i hk;have aw:S.E.keep f=false:=by simpa using hk
 have ai:kV S.E ops place f=false:=by unfold kV;rw[aw];rfl
 split at h
 .rename_i az hs;split at h
  .rename_i hl;split at h
   .rename_i rs m' hc;split at h
    .rename_i G J;split at h
     .rename_i B;simp only[Bool.or_eq_true]at B;simp  at h;obtain⟨rfl,rfl⟩:=h;obtain⟨n,H',e1,e2,e3,e4⟩:=IK  hS Y U hold r ha ai hs (by simpa using hl) hc J B
      exact⟨n,_,H',ν,Z,e1,e2,e3,e4,λ_=>rfl,.refl⟩
     rename_i ax;split at h
     .rename_i aI;obtain⟨ds,ay,e⟩:=ζf.1 h;simp  at e;obtain⟨rfl,rfl⟩:=e;have aA:(result G).scalar=false:=by
       cases hq:(result G).scalar with
       | false=>rfl
       | true=>exact absurd (by simp[hq]) ax
      obtain⟨n,H',e1,e2,e3,e4⟩:=RU  hS U (λb i hp=>(hold b i hp).2) r ha aw hs (by rw[<-Y];exact aI) hc J aA ay (uY ay hs)
      exact⟨n,_,H',ν,Z,e1,e2,e3,e4,λ_=>rfl,λe T _ h=>⟨T,nX h,rfl,.refl _⟩⟩
     simp at h
    simp at h
   simp at h
  simp at h
 simp at h
end
structure CX where
 E:Env
 nm:FuncId->Option Nat
 nt:Nat
def A_ (ops:List Oper) (o:Oper):Option (Option (Nat×Bool)):=
 match o.guard with
 | none=>some none
 | some (j,b)=>((ops[j]?).bind (·.dst)).map λd=>some (d,b)
def yw (nt:Nat):Option Nat->Bool
 | none=>true
 | some d=>decide (d<nt)
def wE (B:Bool) (ops:List Oper) (i:Nat) (k:K) (os:List Operand):K×List Operand×Bool:=
 if B && !dF ops i then match k,os,zP ops i with
  | .l (.store n),.tmp u::w,some (a,l)=>if u=a then(.l (.storeF n),(.tmp u::w)++l.map .tmp,true)else(k,os,false)
  | .l (.append n),os,_=>if vE ops i then(.e n,os,true)else(k,os,false)
  | .r (.load n ag),[.tmp u],_=>if(oM ops i u).isEmpty then(k,os,false)else(.r (.loadF n ag),.tmp u::(oM ops i u).map .tmp,false)
  | _,_,_=>(k,os,false)
 else(k,os,B&&dF ops i)
theorem Cu (B:Bool) (ops:List Oper) (i:Nat) (k:K) (os:List Operand):(wE B ops i k os=(k,os,B&&dF ops i)/\∀n ag a',B=true->dF ops i=false->k=.r (.load n ag)->os=[.tmp a']->oM ops i a'=[]) \/
 (B=true/\dF ops i=false/\∃n a l D,k=.l (.store n)/\os=.tmp a::D/\zP ops i=some (a,l)/\wE B ops i k os=(.l (.storeF n),os++l.map .tmp,true)) \/
 (B=true/\dF ops i=false/\∃n ag a,k=.r (.load n ag)/\os=[.tmp a]/\wE B ops i k os=(.r (.loadF n ag),.tmp a::(oM ops i a).map .tmp,false)) \/
 (B=true/\dF ops i=false/\vE ops i=true/\∃n,k=.l (.append n)/\wE B ops i k os=(.e n,os,true)):=by
 unfold wE;split
 .rename_i h;simp only[ζh,Bool.not_eq_true']at h;split
  .rename_i n a' D a l hk;split
   next e=>subst e;refine .inr (.inl ⟨h.1,h.2,n,a',l,D,rfl,rfl,hk,?_⟩);simp only[wE,h.1,h.2,hk,Bool.not_false,Bool.and_self,if_true]
   exact .inl ⟨by rw[h.2,Bool.and_false],λn ag a' _ _ e=>by cases e⟩
  .rename_i n;split
   next G=>refine .inr (.inr (.inr ⟨h.1,h.2,G,n,rfl,rfl⟩))
   exact .inl ⟨by rw[h.2,Bool.and_false],λn ag a' _ _ e=>by cases e⟩
  .rename_i n ag a';split
   .rename_i I;refine .inl ⟨by rw[h.2,Bool.and_false],λn ag C _ _ _ e=>?_⟩
    simp only[List.cons.injEq,Operand.tmp.injEq,and_true]at e;subst e;simpa using I
   exact .inr (.inr (.inl ⟨h.1,h.2,n,ag,a',rfl,rfl,rfl⟩))
  rename_i u w z;refine .inl ⟨by rw[h.2,Bool.and_false],λn ag C _ _ e1 e2=>?_⟩
  first|exact(z _ _ _ e1 e2).elim|exact(z _ _ _ _ e1 e2 rfl).elim|exact(u _ _ _ e1 e2).elim|exact(w _ _ _ e1 e2).elim|exact(u _ _ _ _ e1 e2 rfl).elim|exact(w _ _ _ _ e1 e2 rfl).elim
 rename_i h;refine .inl ⟨rfl,λn ag C J L _ _=>?_⟩
 rw[J,L]at h;exact absurd rfl h
def mX (X:CX) (B:Bool) (ops:List Oper) (i:Nat) (o:Oper):Option RO:=
 if yw X.nt o.dst then
  match A_ ops o,resolve X.E X.nm o.op with
  | some gd,some (k,os)=>if Ay k then if B&&wV ops i then match k,o.op with
   | .a (.makeSl size zero),.makeSlice ..=>(os.mapM (pN X.nm)).map λaz=>⟨o.dst,gd,false,.p (.makeC size zero),az,[],[]⟩
   | .a (.buildSl size len zero idx),.buildSlice ..=>if size≠0/\len=0/\idx=[]then(os.mapM (pN X.nm)).map λaz=>⟨o.dst,gd,false,.p .emptyC,az,[],[]⟩else none
   | _,_=>none
   else((wE B ops i k os).2.1.mapM (pN X.nm)).map λaz=>⟨o.dst,gd,(wE B ops i k os).2.2,(wE B ops i k os).1,az,[],[]⟩else none
  | _,_=>none
 else none
theorem C_ {E:Env} {N:Nat->FuncId} {F:Frame} {op:Op} {ys:List V} {size:Nat} {zero:List V} {y:V} (D:∃t l c,op=.buildSlice t l c) (h:Db E N F op ys (.a (.buildSl size 0 zero []))) (G:size≠0) (B:bn N .emptyC ys=some y):qD E F op=some y:=by
 obtain⟨t,l,c,rfl⟩:=D;obtain⟨g1,g2⟩:=h;unfold bn at B;split at B <;> first|(rename_i e;cases e;done)|skip
 .simp only[ζa]at B;subst B;have u:=g2 _ (show iP (.buildSl size 0 zero []) []=some (.row size [],.sl size 0)by simp[iP,gA])
  unfold qD;rw[u];simp[G]
 cases B
theorem CQ {E:Env} {N:Nat->FuncId} {F:Frame} {op:Op} {ys:List V} {size:Nat} {zero:List V} {y:V} (D:∃t l c,op=.makeSlice t l c) (h:Db E N F op ys (.a (.makeSl size zero))) (B:bn N (.makeC size zero) ys=some y):qD E F op=some y:=by
 obtain⟨t,l,c,rfl⟩:=D;obtain⟨g1,g2⟩:=h;unfold bn at B;split at B <;> first|(rename_i e;cases e;done)|skip
 .rename_i k n I m e;cases e;split at B
  .rename_i c;obtain⟨rfl,rfl,w,rfl,z,C⟩:=c;have u:=g2 _ (show iP (.makeSl size zero) [.int .i64 n,.int .i64 n]=some (.row size (List.replicate n.toNat zero),.sl size n.toNat)by simp only[iP,w,z,Int.le_refl,and_self,if_true])
   unfold qD;rw[u];simp only;rw[if_pos (by refine⟨by trivial,by simp,List.all_eq_true.2 λx G=>by rw[List.eq_of_mem_replicate G];exact C⟩),<-B]
  cases B
 cases B
theorem Cj {X:CX} {dr:Bool} {ops:List Oper} {i:Nat} {o:Oper} {ro:RO} (hc:mX X dr ops i o=some ro):yw X.nt o.dst=true/\∃g now k az,A_ ops o=some g/\ro=⟨o.dst,g,now,k,az,[],[]⟩:=by
 unfold mX at hc;split at hc
 .rename_i u;split at hc
  .rename_i g k os hg hr;split at hc
   ·(repeat' split at hc) <;> first|(cases hc;done)|(obtain⟨az,w,rfl⟩:=ζf.1 hc;exact⟨u,_,_,_,_,hg,rfl⟩)
   cases hc
  cases hc
 cases hc
structure Good (X:CX) (S:Sys):Prop where
 E:X.E=S.E
 N:∀f s,X.nm f=some s->S.N s=f
 prm:∀f q,S.prm f=some q->oa S.E f q
section
variable {Rv:Nat->Prop} {ν ν':Nu} {Z Z':Nat->Prop} {st st':St} {m m':Tb bG} {F F':Frame} {H H' H1:bl} {S:Sys} {c:ck} {X:CX}
def Old (b:Nat) (fr:List Nat) (ν:Nu) (Z:Nat->Prop) (m:Tb bG):Prop:=(∀d ob,bh m d=some ob->cD ob=true->d∉fr->(ν d).1<b)/\∀id,Z id->id<b
theorem nq {fr:List Nat}:∀{svs:List SV},eM fr svs=true->∀d∈fr,SV.dz d svs=false
 | [],_,d,_=>rfl
 | .v _::r,h,d,B=>(nq (svs:=r) (by simpa [eM]using h) d B)
 | .ptr e _::r,h,d,B=>by
  simp[eM,Bool.not_eq_true']at h;simp[SV.dz,SV.cR];exact⟨λe=>h.1 (e▸B),nq h.2 d B⟩
 | .el e _ _::r,h,d,B=>by
  simp[eM,Bool.not_eq_true']at h;simp[SV.dz,SV.cR];exact⟨λe=>h.1 (e▸B),nq h.2 d B⟩
 | .mp e::r,h,d,B=>by
  simp[eM,Bool.not_eq_true']at h;simp[SV.dz,SV.cR];exact⟨λe=>h.1 (e▸B),nq h.2 d B⟩
 | .own _::r,h,_,_=>by simp[eM]at h
 | .clo ..::r,h,_,_=>by simp[eM]at h
 | .tup _::r,h,_,_=>by simp[eM]at h
 | .agg _::r,h,_,_=>by simp[eM]at h
 | .yl _::r,h,_,_=>by simp[eM]at h
def Co (S:Sys) (ops:List Oper) (place:Option (Nat×Nat)) (dr:Bool) (F:Frame) (op:Op) (dst:Option Nat) (ν:Nu) (Z:Nat->Prop) (st:St) (H:bl) (sv:SV) (st':St):Prop:=
 ∃n y H' ν' Z',(∀k,n<=k->dn S.E (run S.E k) ops place F H op=some (y,H'))/\R ν' Z' st' F H'/\dc ν' st'.m H' Z' sv y/\Ev (λid=>∃b j,place=some (b,j)/\id=b+j) ν Z st H ν' Z' st' H' /\
  (dr=true->Z'=Z/\Kept dst ν st.m ν' st'.m)
theorem xU {E:Env} {F:Frame} {H:bl} {place:Option (Nat×Nat)} {op:Op} {v:V} (h:bO E F op=some v):rR E F H place op=some v:=by unfold rR;rw[h]
theorem yZ:∀{xs ys:List (List V)} {l:List Int},ga H Z xs ys->kU xs=some l->kU ys=some l
 | [],ys,l,h,B=>by
  have:=h.1;have:ys=[]:=List.eq_nil_of_length_eq_zero (by simpa using this.symm)
  subst this;exact B
 | x::xs,[],l,h,B=>by have:=h.1;simp at this
 | x::xs,y::ys,l,h,B=>by
  unfold kU at B;split at B
  next e=>cases e
  .rename_i n r e;cases e;obtain⟨k,h1,rfl⟩:=ζf.1 B;have h0:=h.2 0 _ y rfl rfl;obtain⟨u,z,rfl,p1,p2⟩:=h0.inv;rw[p2.cW,p1.int];have:=yZ (xs:=xs) (ys:=ys) ⟨by have:=h.1;simpa using this,λj a b w B=>h.2 (j+1) a b w B⟩ h1
   simp only[kU,this,Option.map_some]
  cases B
theorem M4 (gd:Good X S) {ops:List Oper} {place:Option (Nat×Nat)} {dr:Bool} {op:Op} {dst:Option Nat} {p:uz} {svs:List SV} {ys:List V} (hk:Ay (.p p)=true) (r:R ν Z st F H) (rs:b_ ν st.m H Z svs ys)
 (B:Db X.E S.N F op ys (.p p)) {sv:SV} (h:(jy S.N st.m p svs).map (λx=>(x,st))=some (sv,st')):Co S ops place dr F op dst ν Z st H sv st':=by
 obtain⟨x,w,e⟩:=ζf.1 h;obtain⟨rfl,rfl⟩:=e;obtain⟨y,z,u⟩:=FP  (λzero pl e=>by subst e;simpa [Ay]using hk) r.obj rs w
 obtain⟨h1,C⟩:=B;exact⟨0,y,H,ν,Z,λq _=>by unfold dn;rw[h1];simp only[<-gd.E,xU (C y z),Option.map_some],r,u,.refl,λ_=>⟨rfl,.refl⟩⟩
theorem Er (gd:Good X S) {ops:List Oper} {place:Option (Nat×Nat)} {dr:Bool} {op:Op} {p:uz} {svs:List SV} {ys:List V} (J:∀zero pl,p≠.build zero pl) (B:dh op=.alloc) (D:qK ops place=true) (G:∀y,bn S.N p ys=some y->qD X.E F op=some y)
 (r:R ν Z st F H) (rs:b_ ν st.m H Z svs ys) {sv:SV} (h:(jy S.N st.m p svs).map (λx=>(x,st))=some (sv,st')):Co S ops place dr F op none ν Z st H sv st':=by
 obtain⟨x,w,e⟩:=ζf.1 h;simp only[ζc]at e;obtain⟨rfl,rfl⟩:=e;obtain⟨y,z,u⟩:=FP (N:=S.N) (λzero pl e=>absurd e (J zero pl)) r.obj rs w
 refine⟨0,y,H,ν,Z,λq _=>?_,r,u,.refl,λ_=>⟨rfl,.refl⟩⟩
 unfold dn;rw[B];simp only[D,if_true,<-gd.E,G y z,Option.map_some]
theorem Je:∀{J B:List Operand} {vs:List V},fL F (J++B)=some vs->∃D G,fL F J=some D/\fL F B=some G/\vs=D++G
 | [],B,vs,h=>⟨[],vs,rfl,h,rfl⟩
 | x::J,B,vs,h=>by
  obtain⟨a,az,h1,O,rfl⟩:=iI h;obtain⟨D,G,g1,g2,rfl⟩:=Je O;exact⟨a::D,G,by simp[fL,h1,g1],g2,rfl⟩
theorem BC:∀{l:List Nat} {vs:List V},fL F (l.map Operand.tmp)=some vs->vs=l.map (get F)
 | [],vs,h=>qc h
 | x::l,vs,h=>by
  obtain⟨a,az,h1,B,rfl⟩:=iI h;simp[ev]at h1;subst h1;rw[BC B];rfl
theorem TP (gd:Good X S) {call:dx} {ops:List Oper} {b j n a:Nat} {l:List Nat} {o:Oper} {B:List Operand} {ys:List V} {y:V} (hr:resolve X.E X.nm o.op=some (.l (.store n),.tmp a::B)) (D:fL F ((.tmp a::B)++l.map Operand.tmp)=some ys)
 (J:zP ops j=some (a,l)) (O:dF ops j=false) (e1:eZ H (.storeF n) ys=some (y,H')):dn S.E call ops (some (b,j)) F H o.op=some (y,H'):=by
 obtain⟨W,Y,h1,I,rfl⟩:=Je D;obtain⟨g1,g2⟩:=ku gd.N hr h1;obtain⟨w,L,z,Q,rfl⟩:=iI h1;simp[ev]at z;have u:∃v,L=[v]:=by
  have C:∃x,B=[x]:=by
   unfold resolve at hr
   (repeat' split at hr) <;> first|grind|skip
   all_goals (try (obtain⟨_,_,e⟩:=ζf.1 hr;simp[K.l.injEq,Iu.store.injEq,reduceCtorEq]at e))
   grind
  obtain⟨x,rfl⟩:=C;obtain⟨v,Z,_,T,rfl⟩:=iI Q;rw[qc T];grind
 obtain⟨v,rfl⟩:=u;rw[BC I,<-z]at e1;simp  at e1
 cases G:get F a with
 | hptr id el off=>
  rw[G]at e1;simp only[eZ]at e1;split at e1
  .have U:qN ops j F=true:=by
    unfold qN
    grind
   unfold dn;rw[g1];simp[U,<-gd.E];refine g2 _ _ ?_;rw[<-z,G];exact e1
  grind
 | _=>rw[G]at e1;simp[eZ]at e1
theorem E5 {E:Env} {nm:FuncId->Option Nat} {op:Op} {s:Nat} {a:Bool} {os:List Operand} (h:resolve E nm op=some (.r (.loadF s a),os)):False:=by
 unfold resolve at h
 (repeat' split at h) <;> first|grind|skip
 all_goals simp_all
theorem HJ {E:Env} {nm:FuncId->Option Nat} {op:Op} {s a':Nat} {a:Bool} {t:TypeId} {os:List Operand} (h:resolve E nm op=some (.r (.load s a),os)):∃t x,op=.load t x/\os=[x]:=by
 unfold resolve at h
 (repeat' split at h) <;> first|grind|skip
 all_goals simp_all
 grind
theorem L4 {E:Env} {nm:FuncId->Option Nat} {ops:List Oper} {j:Nat} {op:Op} {q:Iz} {os:List Operand} (hr:resolve E nm op=some (.r q,os)) (h:∀n ag a',K.r q=.r (.load n ag)->os=[.tmp a']->∀t,op=.load t (.tmp a')->oM ops j a'=[]):mZ ops j F op=true:=by
 unfold mZ;split
 .rename_i t a';have:∃n ag,q=.load n ag/\os=[.tmp a']:=by
   obtain⟨d,_,e⟩:=ζf.1 hr
   grind
  grind
 rfl
theorem Ry (gd:Good X S) {ops:List Oper} {b j n a:Nat} {ag:Bool} {fr:List Nat} {o:Oper} {svs:List SV} {ys:List V} {dst:Option Nat} {x:SV} (hr:resolve X.E X.nm o.op=some (.r (.load n ag),[.tmp a])) (U:fL F (.tmp a::(oM ops j a).map Operand.tmp)=some ys) (rs:b_ ν st.m H Z svs ys)
 (W:eM fr svs=true) (aa:b<=H.length) (ab:∀d ob,bh st.m d=some ob->cD ob=true->d∉fr->(ν d).1<b) (D:∀id,Z id->id<b) (r:R ν Z st F H) (O:mh st.m (.loadF n ag) svs=some x):Co S ops (some (b,j)) true F o.op dst ν Z st H x st:=by
 obtain⟨w,ws,h1,h2,rfl⟩:=iI U;simp[ev]at h1;have ad:=BC h2;unfold mh at O;split at O <;> first|(rename_i u;cases u;done)|skip
 .rename_i size agg d off l u;cases u;split at O
  .rename_i C;split at O
   .rename_i cs B;obtain⟨w',ae,e,g1,g2⟩:=rs.inv;cases e;have G:=IV r B g2 C;obtain⟨_,_,rfl⟩:=g1.ov B;have I:∀id,Z id->Z id/\bp (H.take b) id=bp H id:=λid h=>⟨h,mS (D id h)⟩
    have J:∀id,Z id->Z id/\bp H id=bp (H.take b) id:=λid h=>⟨h,(mS (D id h)).symm⟩
    have af:d∉fr:=λhf=>by
     have:=nq W d hf;simp[SV.dz,SV.cR]at this
    obtain⟨y,hy,Q⟩:=vk  (r:=.load n ag)   (λs a e=>by cases e) (λkk z ok e=>by cases e) (b_.cons (g1.mono I λe _=>iQ ν st.m e) .nil) (λd2 T ob L=>by
     have ah:d2∉fr:=λhf=>by
      have  := by simpa [SV.dz,SV.cR]using T
      grind
     exact d_.mono I rfl (λhb=>by grind) (λe _=>iQ ν st.m e) (r.obj d2 ob L))  (by simp[mh,B];omega)
    obtain⟨k1,k2⟩:=ku  gd.N hr (show fL F [.tmp a]=some [.hptr (ν d).1 0 off]from by simp[fL,ev,h1])
    have Y:mZ ops j F o.op=true:=by
     obtain⟨t,x',e1,e2⟩:=HJ (a':=0) (t:=0) hr;rw[e1];simp  at e2;subst e2;simp[mZ];intro s hs;have hm:get F s∈ws:=by grind
     have:=List.all_eq_true.1 G _ hm;split
     .rename_i ai _ _ hg;simp[qi]at this ⊢
      grind
     rfl
    refine⟨0,y,H,ν,Z,λq _=>?_,r,Q.mono J (λe _=>iQ ν st.m e),.refl,λ_=>⟨rfl,.refl⟩⟩
    unfold dn;rw[k1];simp[<-gd.E,k2 (H.take b) y hy,Y]
   grind
  grind
 grind
theorem Dx {E:Env} {nm:FuncId->Option Nat} {op:Op} {n:Nat} {os:List Operand} (h:resolve E nm op=some (.l (.append n),os)) {y:V} {ys:List V} (hv:fL F os=some (y::ys)) (B:y=.bK\/y=.dD):isApp op=true/\pM F op=true:=by
 have key:∃args u p s x,op=.call { callee:=.builtin .append,args:=args,argTypes:=u }/\args.toList=[s,x]/\os=[s,x]/\p=():=by
  unfold resolve at h
  (repeat' split at h) <;> first|(simp at h;done)|skip
  all_goals (try (obtain⟨_,_,e⟩:=ζf.1 h;simp only[ζc,K.l.injEq,reduceCtorEq,false_and]at e))
  all_goals (simp only[ζa,ζc]at h;obtain⟨_,rfl⟩:=h;exact⟨_,_,(),_,_,rfl,by assumption,rfl,rfl⟩)
 obtain⟨args,u,_,s,x,rfl,h1,rfl,_⟩:=key;obtain⟨a,az,w,z,e⟩:=iI hv;cases e;refine⟨rfl,?_⟩;simp only[pM,h1,w];rcases B with rfl|rfl <;> rfl
theorem TF (gd:Good X S) (hS:jo S c) {ops:List Oper} {place:Option (Nat×Nat)} {dr:Bool} {fr:List Nat} {i:Nat} (D:dr=place.isSome) (hi:∀b j,place=some (b,j)->j=i)
 (hold:∀b j,place=some (b,j)->b<=H.length/\Old b fr ν Z st.m)
 {o:Oper} {ro:RO} (hc:mX X dr ops i o=some ro) (aE:∀b j,place=some (b,j)->ops[j]? = some o) (al:∀b j,place=some (b,j)->dh o.op=.alloc->H[b+j]? = some .free)
 (r:R ν Z st F H) {sv:SV} (h:mb S c dr fr ro st=some (sv,st')) :
 Co S ops place dr F o.op (xG ro) ν Z st H sv st':=by
 unfold mX at hc;split at hc
 .split at hc
  .rename_i g k os hg hr;split at hc
   .rename_i hk;split at hc
    .rename_i ah;simp only[ζh]at ah;have av:qK ops place=true:=by
      cases place with
      | none=>rw[D]at ah;exact absurd ah.1 Zc
      | some Q=>obtain⟨b,j⟩:=Q;rw[hi b j rfl];exact ah.2
     split at hc
     .rename_i size zero t l c aa;obtain⟨az,ha,rfl⟩:=ζf.1 hc;unfold mb at h;split at h
      next J G=>obtain⟨ys,I,rs⟩:=pJ gd.N r.slot ha G;have L:=ku gd.N hr I;exact Er gd (λ_ _ e=>by cases e) L.1 av (λy hy=>CQ ⟨_,_,_,aa⟩ L hy) r rs h
      simp at h
     .rename_i size len zero idx t l c aa;split at hc
      .rename_i aF;obtain⟨aG,rfl,rfl⟩:=aF;obtain⟨az,ha,rfl⟩:=ζf.1 hc;unfold mb at h;split at h
       next J G=>obtain⟨ys,I,rs⟩:=pJ gd.N r.slot ha G;have L:=ku gd.N hr I;exact Er gd (λ_ _ e=>by cases e) L.1 av (λy hy=>C_ ⟨_,_,_,aa⟩ L aG hy) r rs h
       simp at h
      cases hc
     cases hc
    rename_i ai;have ak:qK ops place=false:=by
     cases place with
     | none=>rfl
     | some Q=>
      obtain⟨b,j⟩:=Q;have C:=hi b j rfl
      cases aw:wV ops j with
      | false=>exact aw
      | true=>exact absurd (by rw[D,<-C,aw];rfl) ai
    rcases Cu dr ops i k os with⟨hq,aH⟩|⟨u,am,n,a,l,aR,rfl,rfl,aI,hq⟩|⟨u,am,n,ag,a,rfl,rfl,hq⟩|⟨u,am,aJ,n,rfl,hq⟩
    rotate_left
    .rw[hq]at hc;obtain⟨az,ha,rfl⟩:=ζf.1 hc;unfold mb at h;split at h
     .rename_i J G;obtain⟨ys,I,rs⟩:=pJ gd.N r.slot ha G;simp only[u,Bool.not_true,Bool.false_or,if_true]at h;obtain⟨y,H',ν',e1,e2,e3,e4,e5⟩:=BI r rs h;refine⟨0,y,H',ν',Z,λq _=>?_,e2,e3,e4.weak (λ_ h=>h.elim),λ_=>⟨rfl,e5⟩⟩
      cases place with
      | none=>rw[D]at u;cases u
      | some Q=>
       obtain⟨b,j⟩:=Q;have C:=hi b j rfl;subst C;exact TP gd hr I aI am e1
     simp at h
    .rw[hq]at hc;obtain⟨az,ha,rfl⟩:=ζf.1 hc;unfold mb at h;split at h
     .rename_i J G;obtain⟨ys,I,rs⟩:=pJ gd.N r.slot ha G;simp only[u,Bool.not_true,Bool.or_self,Bool.false_or]at h;split at h
      .rename_i an;obtain⟨x,hx,e⟩:=ζf.1 h;simp only[ζc]at e;obtain⟨rfl,rfl⟩:=e
       cases place with
       | none=>rw[D]at u;cases u
       | some Q=>
        obtain⟨b,j⟩:=Q;have C:=hi b j rfl;subst C;obtain⟨ax,ao,aj⟩:=hold b j rfl;rw[u];exact Ry gd hr I rs an ax ao aj r hx
      simp at h
     simp at h
    .rw[hq]at hc;obtain⟨az,ha,rfl⟩:=ζf.1 hc;unfold mb at h;split at h
     rotate_left
     .simp at h
     rename_i J G;obtain⟨ys,I,rs⟩:=pJ gd.N r.slot ha G;simp only at h;have key:∃e x,(e=V.bK\/e=V.dD)/\J=[.v e,x]/\mg st o.dst (.append n) J=some (sv,st'):=by
      split at h
      .exact⟨_,_,.inl rfl,rfl,h⟩
      .exact⟨_,_,.inr rfl,rfl,h⟩
      cases h
     obtain⟨e,x,he,rfl,hl⟩:=key;obtain⟨y,H',ν',e1,e2,e3,e4,e5⟩:=BI r rs hl;obtain⟨g1,g2⟩:=ku gd.N hr I;refine⟨0,y,H',ν',Z,λq _=>?_,e2,e3,e4.weak (λ_ h=>h.elim),λ_=>⟨rfl,e5⟩⟩
     obtain⟨y1,zs,rfl,f1,f2⟩:=rs.inv;have aK:y1=.bK\/y1=.dD:=by
      cases f1 with|v _ _ hf=>rcases he with rfl|rfl <;> first|exact .inl hf.bK|exact .inr hf.dD
     cases place with
     | none=>rw[D]at u;cases u
     | some Q=>
      obtain⟨b,j⟩:=Q;have C:=hi b j rfl;subst C;obtain⟨r1,r2⟩:=Dx hr I aK;exact LZ r1 (by rw[<-gd.E];exact g2 _ _ e1) (.inr ⟨aJ,r2,(hold b j rfl).1⟩)
    rw[hq]at hc;obtain⟨az,ha,rfl⟩:=ζf.1 hc;unfold mb at h;split at h
    .rename_i J G;obtain⟨ys,I,rs⟩:=pJ gd.N r.slot ha G;have B:=ku gd.N hr I;simp only at h
     cases k with
     | p p=>
      cases p with
      | slice size lo hi=>
       simp only at h;split at h
       .rename_i d bs;split at h
        .simp at h
        rename_i ap;obtain⟨y,ν',h1,h2,h3,h4⟩:=Nl (N:=S.N) (Rv:=λid=>∃b j,place=some (b,j)/\id=b+j) r rs h
        obtain⟨g1,g2⟩:=B;exact⟨0,y,H,ν',Z,λq _=>by unfold dn;rw[g1];simp only[<-gd.E,xU (g2 y h1),Option.map_some],h2,h3,h4,λhd=>absurd hd ap⟩
       exact M4 gd hk r rs B h
      | _=>exact M4 gd hk r rs B h
     | r q=>
      simp only at h;split at h
      .rename_i U;obtain⟨x,hx,e⟩:=ζf.1 h;simp only[ζc]at e;obtain⟨rfl,rfl⟩:=e;obtain⟨g1,g2⟩:=B;have aq:∀kk z ok,q=.lookup kk z ok->z.good=true:=λkk z ok e=>by subst e;simpa [Ay]using hk
       have ab:∀s a,q≠.loadF s a:=λs a e=>by subst e;exact E5 hr
       cases place with
       | none=>
        obtain⟨y,hy,ad⟩:=vk ab aq rs (λd _ ob hd=>r.obj d ob hd) hx
        exact⟨0,y,H,ν,Z,λq _=>by unfold dn;rw[g1];simp only[<-gd.E,g2 H y hy,Option.map_some],r,ad,.refl,λ_=>⟨rfl,.refl⟩⟩
       | some Q=>
        obtain⟨b,j⟩:=Q;obtain⟨ax,ao,aj⟩:=hold b j rfl;have u:dr=true:=D;subst u;have C:=hi b j rfl;subst C;simp only[Bool.not_true,Bool.false_or,Bool.true_and]at U;have ay:mZ ops j F o.op=true:=L4 hr λn ag a' e1 e2 t e3=>by
         by_cases T:dF ops j=true
         .exact Cd (aE b j rfl) e3 T
         exact aH n ag a' rfl (by simpa using T) e1 e2
        by_cases T:dF ops j=true
        .obtain⟨y,hy,ad⟩:=vk ab aq rs (λd _ ob hd=>r.obj d ob hd) hx
         have hH:=g2 H y hy;refine⟨0,y,H,ν,Z,λq _=>?_,r,ad,.refl,λ_=>⟨rfl,.refl⟩⟩
         unfold dn;rw[g1];simp only[<-gd.E,ay,if_true];split
         next v hv=>have:=yE hv;rw[hH]at this;cases this;rfl
         rw[if_pos T,hH];rfl
        have an:eM fr J=true:=by simpa [T]using U
        have Y:∀id,Z id->Z id/\bp (H.take b) id=bp H id:=λid h=>⟨h,mS (aj id h)⟩
        have aA:∀id,Z id->Z id/\bp H id=bp (H.take b) id:=λid h=>⟨h,(mS (aj id h)).symm⟩
        obtain⟨y,hy,ad⟩:=vk (H:=H.take b) ab aq (rs.mono Y λe _=>iQ ν st.m e) (λd hd ob aB=>by
         have ab:d∉fr:=λhf=>by rw[nq an d hf]at hd;cases hd
         exact d_.mono Y rfl (λhb=>by rw[List.getElem?_take,if_pos (ao d ob aB hb ab)]) (λe _=>iQ ν st.m e) (r.obj d ob aB)) hx
        refine⟨0,y,H,ν,Z,λq _=>?_,r,ad.mono aA (λe _=>iQ ν st.m e),.refl,λ_=>⟨rfl,.refl⟩⟩
        unfold dn;rw[g1];simp only[<-gd.E,g2 (H.take b) y hy,ay,if_true]
      simp at h
     | a q=>
      simp only at h;split at h
      .rename_i d hd;split at h
       .rename_i W;obtain⟨⟨ob,x⟩,hx,e⟩:=ζf.1 h;simp only[ζc]at e;obtain⟨rfl,rfl⟩:=e;obtain⟨ae,mk,e1,e2,e3,e4⟩:=MG hk rs hx;obtain⟨g1,g2⟩:=B;obtain⟨n1,n2,n3,n4⟩:=lV W;have ar:∀p:Nat×Nat,∀e,SV.dz e J=true->∀af,bh (bM st.m d ob) e=some af->∃ob,bh st.m e=some ob/\iH ν d p e=ν e/\sameShape ob af:=λp e he=>by
         refine sR ?_;rintro rfl;have:∀{xs:List Arg} {vs:List SV},bY S.N st.g xs=some vs->SV.dz e vs=false:=by
          intro xs
          induction xs with
          | nil=>intro vs h;simp only[bY,ζa]at h;subst h;rfl
          | cons a xs ih=>
           intro vs h;simp only[bY]at h;split at h
           .rename_i v aS h1 h2;simp only[ζa]at h;subst h;simp only[SV.dz,Bool.or_eq_false_iff];refine⟨?_,ih h2⟩
            cases a with
            | s n=>exact xJ n3 h1
            | k c=>simp only[qh,ζa]at h1;subst h1;rfl
            | f s=>simp only[qh,ζa]at h1;subst h1;rfl
           simp at h
         rw[this G]at he;cases he
        have fin:∀(id:Nat) (Hn:bl),H.length<=Hn.length->Hn[id]? = some ae->(∀k,k<H.length->k≠id->Hn[k]? = H[k]?)->(∀k,fA ν st.m k->k≠id)->(∀k,Z k->k≠id) ->
         R (iH ν d (id,0)) Z { st with m:=bM st.m d ob } F Hn/\dc (iH ν d (id,0)) (bM st.m d ob) Hn Z x (mk.val id)/\(∀k,Z k->bp Hn k=bp H k):=λid Hn hl aL L ho hz=>by
         have Y:∀k,Z k->bp Hn k=bp H k:=λk hk=>by unfold bp;rw[L k (r.uZ hk) (hz k hk)]
         obtain⟨a1,a2⟩:=e4 id (iH ν d (id,0)) (bM st.m d ob) Hn (gJ _ _ _) (cG _ _ _) aL Y (ar _);have r2:R ν Z st F Hn:=r.heap (λk hk=>L k (r.lt hk) (ho k hk)) Y
         exact⟨r2.add W (λ_=>⟨λh=>ho _ h rfl,λh=>hz _ h rfl⟩) a1,a2,Y⟩
        have aC:o.dst=some d:=hd
        cases place with
        | none=>
         obtain⟨f1,f2,f3⟩:=fin H.length (H++[ae]) Zc Zc (λk hk _=>List.getElem?_append_left hk) (λk hk=>Nat.ne_of_lt (r.lt hk)) (λk hk=>Nat.ne_of_lt (r.uZ hk))
         refine⟨0,mk.val H.length,H++[ae],iH ν d (H.length,0),Z,λq _=>?_,f1,f2,Ev.add W Zc (λk hk _=>List.getElem?_append_left hk) f3 (λ_=>.inr (Nat.le_refl _)),λhh=>?_⟩
         .unfold dn;rw[g1];simp only[ak,Bool.false_eq_true,if_false,<-gd.E,g2 _ e1]
         rw[D]at hh;cases hh
        | some Q=>
         obtain⟨b,j⟩:=Q;have hf:=al b j rfl g1;have aM:=(ζe.1 hf).1;have nf:∀k,fA ν st.m k->k≠b+j:=λk hk e=>by
          subst e;obtain⟨d',af,w1,w2,w3⟩:=hk;have:=r.obj d' af w1
          cases af with
          | sl fl es xs=>
           simp only[cD]at w2;simp only[d_,w2,if_true]at this;obtain⟨_,O,_⟩:=this;rw[w3,hf]at O;cases O
          | box cs=>obtain⟨_,_,O,_⟩:=this;rw[w3,hf]at O;cases O
          | mp aT=>obtain⟨_,O,_⟩:=this;rw[w3,hf]at O;cases O
         have nz:∀k,Z k->k≠b+j:=λk hk e=>by
          subst e;have:=r.zrow _ hk;unfold bp at this;rw[hf]at this;simp[Ob.rows]at this
         obtain⟨f1,f2,f3⟩:=fin (b+j) (H.set (b+j) ae) Zc (by rw[List.getElem?_set_self aM]) (λk _ hk=>by rw[List.getElem?_set,if_neg (Ne.symm hk)]) nf nz
         refine⟨0,mk.val (b+j),H.set (b+j) ae,iH ν d (b+j,0),Z,λq _=>?_,f1,f2,Ev.add W Zc (λk _ hk=>?_) f3 (λ_=>.inl ⟨b,j,rfl,rfl⟩),λ_=>⟨rfl,?_⟩⟩
         .unfold dn;rw[g1];simp only[ak,Bool.false_eq_true,if_false,<-gd.E,g2 _ e1,hf]
         .rw[List.getElem?_set,if_neg λe=>hk ⟨b,j,rfl,e.symm⟩]
         have:xG ⟨o.dst,g,dr&&dF ops j,.a q,az,[],[]⟩=some d:=aC;have C:=hi b j rfl;subst C;rw[this];exact Kept.add λ_ _ h=>h
       simp at h
      simp at h
     | l q=>
      simp only at h;split at h
      .rename_i U;obtain⟨y,H',ν',e1,e2,e3,e4,e5⟩:=BI r rs h;obtain⟨g1,g2⟩:=B;refine⟨0,y,H',ν',Z,λq _=>?_,e2,e3,e4.weak (λ_ h=>h.elim),λ_=>⟨rfl,e5⟩⟩
       unfold dn;rw[g1];simp only[<-gd.E]
       cases place with
       | none=>exact g2 _ _ e1
       | some Q=>
        obtain⟨b,j⟩:=Q;have u:dr=true:=D;subst u;have C:=hi b j rfl;subst C;have T:dF ops j=true:=by simpa using U
        simp only[T,if_true];exact g2 _ _ e1
      simp at h
     | e n=>exact B.elim
     | b=>
      simp only at h;split at h
      .cases h
      rename_i ap;have aN:dr=false:=by simpa using ap
      have aO:place=none:=by
       cases place with
       | none=>rfl
       | some Q=>rw[aN]at D;simp at D
      subst aO;split at h
      next x=>obtain⟨xs,h1,h2⟩:=ζg.1 h;obtain⟨l,h3,e⟩:=ζf.1 h2;simp only[ζc]at e;obtain⟨rfl,rfl⟩:=e;obtain⟨g1,y,e1,g2⟩:=B;obtain⟨y',_,e2,r1,r2⟩:=rs.inv;rw[e1]at e2;cases e2;obtain⟨zs,k1,k2⟩:=tL r1 r.obj h1;have hz:kU zs=some l:=yZ k2 h3;obtain⟨q1,q2⟩:=g2 H zs l k1 hz;exact⟨0,_,H,ν,Z,λq _=>by unfold dn;rw[g1];simp only[rR,<-gd.E,q1,q2,Option.map_some],r,.v _ _ (.same _ rfl),.refl,λ_=>⟨rfl,.refl⟩⟩
      cases h
     | c=>
      simp only at h;obtain⟨g1,f',aU,e1,e2⟩:=B;have go:∀(f:FuncId) (args:List SV) (au:List V),b_ ν st.m H Z args au->jJ F o.op=some (.fn f,au)->fP S c o.dst dr (!dr||(dr&&dF ops i)) (fe st.m fr) f args st=some (sv,st') ->
       Co S ops place dr F o.op (xG ⟨o.dst,g,dr&&dF ops i,.c,az,[],[]⟩) ν Z st H sv st':=λf args au aP aD aQ=>by
       obtain⟨n,y,H',ν',Z',p1,p2,p3,p4,p5,p6⟩:=NA (ops:=ops) (Rv:=λid=>∃b j,place=some (b,j)/\id=b+j) hS gd.prm D (λb j hp hn=>by
        have:=hi b j hp;subst this;simp only[ζh]at hn;exact hn.2) (λb j hp hn=>by have:=hi b j hp;subst this;rw[D,hp]at hn;simpa using hn) (λb j hp=>(hold b j hp).2) r aP aQ
       refine⟨n,y,H',ν',Z',λq hq=>?_,p2,p3,p4,λhd=>⟨p5 hd,p6⟩⟩
       unfold dn;rw[g1];simp only[aD];exact p1 q hq
      split at h
      next f a b vs=>obtain⟨w,ws,ew,r1,r2⟩:=rs.inv;rw[ew]at e1;simp only[List.cons.injEq]at e1;obtain⟨rfl,rfl⟩:=e1;obtain⟨a',b',rfl,ra,rb⟩:=r1.jT;exact go f _ _ ((ra.append r2).append rb) e2 h
      next f a b vs=>obtain⟨w,ws,ew,r1,r2⟩:=rs.inv;rw[ew]at e1;simp only[List.cons.injEq]at e1;obtain⟨rfl,rfl⟩:=e1;obtain⟨a',b',rfl,ra,rb⟩:=r1.fr.jT;exact go f _ _ (((b_.qC ra).append r2).append (b_.qC rb)) e2 h
      simp at h
    simp at h
   simp at hc
  simp at hc
 simp at hc
end
def fT (N:Nat->FuncId) (g:Tb SV) (o:RO):Option (Nat×List SV):=
 match o.k,bY N g o.az with
 | .c,some (.yl id::u)=>some (id,u)
 | _,_=>none
open Classical in
noncomputable def fK (S:Sys) (c:ck) (dr:Bool) (fr:List Nat) (o:RO) (st:St):Option St:=
 match wanted st.g o.gd with
 | some true=>match fT S.N st.g o with
  | some (id,z)=>if dr then none else match dw z,st.want with
   | some B,w::u=>if B=w/\id=st.yid then some (dg { st with want:=u } o.dst (.v (.bool (st.more || !u.isEmpty))))else none
   | _,_=>none
  | none=>(mb S c dr fr o st).map λ(x,st')=>dg st' o.dst x
 | some false=>some (dg st o.dst (.v .undef))
 | none=>none
def RO.strip (o:RO):RO:={ o with dead:=[],pre:=[] }
def ot:List Gh->St->Option St
 | [],st=>some st
 | x::r,st=>(ghost x st).bind (ot r)
def zi:Gh->Bool
 | .keep ..=>true
 | .drop _=>true
 | _=>false
def Bs (dr:Bool) (l:List Gh) (st:St):Option St:=if dr then(if l.all zi then ot l st else none)else ot l st
def oL (ds:List Nat) (st:St):St:={ st with g:=oN ds st.g }
noncomputable def mM (S:Sys) (c:ck) (dr:Bool):List Nat->List RO->St->Option St
 | _,[],st=>some st
 | fr,o::r,st=>match (Bs dr o.pre st).bind (fK S c dr fr o.strip)with
  | some st'=>mM S c dr (if dr then qj fr o.strip else fr) r (oL o.dead st')
  | none=>none
abbrev JT:=List (List V)->(Nat->Prop)->(Nat->Prop)->bl->Prop
structure Yc (S:Sys) (J:JT) (more:Bool) (yid:Nat):Prop where
 wL:∀w O Z H O' Z' H',J w O Z H->H.length<=H'.length->(∀i,i<H.length->¬O i->¬Z i->H'[i]? = H[i]?)->(∀i,Z i->Z' i/\bp H' i=bp H i) ->
  (∀i,O' i->O i\/H.length<=i)->(∀i,Z' i->Z i\/O i\/H.length<=i)->J w O' Z' H'
 yield:∀x ws O Z H args,J (x::ws) O Z H->dm H Z x args->(∀i,Z i->(bp H i).isSome=true)->Deep H Z->(∀i,O i->¬Z i/\i<H.length) ->
  ∃n H',run S.E n (.yld yid) args H=some (.bool (more || !ws.isEmpty),H')/\J ws O Z H'/\H.length<=H'.length/\(∀i,O i->H'[i]? = H[i]?)/\(∀i,Z i->bp H' i=bp H i)
structure Fix (ν:Nu) (st:St) (ν':Nu) (st':St):Prop where
 pin:∀d∈st.pin,∀ob',bh st'.m d=some ob'->∃ob,bh st.m d=some ob/\ν' d=ν d/\sameShape ob ob'
 pins:st'.pin=st.pin
 more:st'.more=st.more
 yid:st'.yid=st.yid
section
variable {Rv:Nat->Prop} {ν ν' ν2:Nu} {Z Z':Nat->Prop} {st st' st2:St} {m m':Tb bG} {F F':Frame} {H H' H1:bl} {S:Sys} {c:ck} {X:CX} {J:JT}
theorem Fix.refl:Fix ν st ν st:=⟨λ_ _ u h=>⟨u,h,rfl,.refl _⟩,rfl,rfl,rfl⟩
theorem Fix.trans (a:Fix ν st ν' st') (b:Fix ν' st' ν2 st2):Fix ν st ν2 st2:=
 ⟨λd z u h=>by
  obtain⟨w,h1,C,B⟩:=b.pin d (by rw[a.pins];omega) u h
  obtain⟨ob,k1,k2,k3⟩:=a.pin d z w h1;exact⟨ob,k1,by simp_all,k3.trans B⟩,by rw[b.pins,a.pins],by rw[b.more,a.more],by rw[b.yid,a.yid]⟩
theorem Ev.beside (y:Yc S J st.more st.yid) (a:Ev (λ_=>False) ν Z st H ν' Z' st' H') (B:st'.want=st.want) (j:J st.want (fA ν st.m) Z H):J st'.want (fA ν' st'.m) Z' H':=by
 rw[B];exact y.wL _ _ _ _ _ _ _ j a.len (λi h1 u w=>a.same i h1 u w (λh=>h)) a.rows (λi h=>(a.own i h).imp (λh=>h) (λh=>h.elim (λh=>h.elim) (λh=>h)))
  (λi h=>(a.frz i h).imp (λh=>h) (λh=>h.imp (λh=>h) (λh=>h.elim (λh=>h.elim) (λh=>h))))
theorem uM (D:∀s sv,bh st.g s=some sv->dc ν m H Z sv (get F s)) {ops:List Oper} {o:Oper} {gd:Option (Nat×Bool)} (hg:A_ ops o=some gd) {t:Bool} (B:wanted st.g gd=some t):fN ops F o=t:=by
 unfold A_ at hg;unfold fN
 cases u:o.guard with
 | none=>
  rw[u]at hg;simp  at hg;simp[wanted]at B;grind
 | some G=>
  rw[u]at hg;obtain⟨d,C,rfl⟩:=ζf.1 hg;simp[C];simp[wanted]at B;split at B
  next c hc=>simp  at B;subst B;rw[(D d _ hc).fr.bool]
  .rename_i x I hc;simp  at B;subst B;have w:=(D d _ hc).fr;split
   .rename_i c z;rw[z]at w;cases w
    grind
   rfl
  grind
theorem LU {q:Eo} {dst:Option Nat} {args:List SV} {sv:SV} (h:Bq q dst args st=some (sv,st')):st'.want=st.want/\st'.pin=st.pin/\st'.more=st.more/\st'.yid=st.yid:=by
 unfold Bq at h
 grind
theorem PL {dr:Bool} {fr:List Nat} {ro:RO} {sv:SV} (h:mb S c dr fr ro st=some (sv,st')):st'.want=st.want/\st'.pin=st.pin/\st'.more=st.more/\st'.yid=st.yid:=by
 unfold mb at h;split at h
 .split at h
  .split at h
   .split at h
    .simp at h
    unfold zW at h;split at h
    .split at h
     .obtain⟨_,_,h⟩:=ζg.1 h;obtain⟨_,_,h⟩:=ζg.1 h;dsimp only at h;split at h
      .simp only[ζa,ζc]at h;obtain⟨_,rfl⟩:=h;exact⟨rfl,rfl,rfl,rfl⟩
      simp at h
     simp at h
    simp at h
   obtain⟨_,_,e⟩:=ζf.1 h;simp only[ζc]at e;obtain⟨_,rfl⟩:=e;exact⟨rfl,rfl,rfl,rfl⟩
  .obtain⟨_,_,e⟩:=ζf.1 h;simp only[ζc]at e;obtain⟨_,rfl⟩:=e;exact⟨rfl,rfl,rfl,rfl⟩
  .split at h
   .obtain⟨_,_,e⟩:=ζf.1 h;simp only[ζc]at e;obtain⟨_,rfl⟩:=e;exact⟨rfl,rfl,rfl,rfl⟩
   simp at h
  .split at h
   .split at h
    .obtain⟨_,_,e⟩:=ζf.1 h;simp only[ζc]at e;obtain⟨_,rfl⟩:=e;exact⟨rfl,rfl,rfl,rfl⟩
    simp at h
   simp at h
  .split at h
   .unfold mg at h
    (repeat' split at h) <;> first|(simp at h;done)|(simp only[ζa,ζc]at h;obtain⟨_,rfl⟩:=h;exact⟨rfl,rfl,rfl,rfl⟩)|(obtain⟨_,_,e⟩:=ζf.1 h;simp only[ζc]at e;obtain⟨_,rfl⟩:=e;exact⟨rfl,rfl,rfl,rfl⟩)|skip
    dsimp only at h
    (repeat' split at h) <;> first|(simp at h;done)|(simp only[ζa,ζc]at h;obtain⟨_,rfl⟩:=h;exact⟨rfl,rfl,rfl,rfl⟩)
   simp at h
  .have hc:∀{dst dr now u f args},fP S c dst dr now u f args st=some (sv,st')->st'.want=st.want/\st'.pin=st.pin/\st'.more=st.more/\st'.yid=st.yid:=by
    intro dst dr now u f args h;unfold fP at h
    (repeat' split at h) <;> first|exact LU h|(obtain⟨_,_,e⟩:=ζf.1 h;simp only[ζc]at e;obtain⟨_,rfl⟩:=e;exact⟨rfl,rfl,rfl,rfl⟩)|(simp at h;done)|(simp only[ζa,ζc]at h;obtain⟨_,rfl⟩:=h;exact⟨rfl,rfl,rfl,rfl⟩)
   split at h
   .exact hc h
   .exact hc h
   simp at h
  .split at h
   .simp at h
   split at h
   .obtain⟨_,_,h⟩:=ζg.1 h;obtain⟨_,_,e⟩:=ζf.1 h;simp only[ζc]at e;obtain⟨_,rfl⟩:=e;exact⟨rfl,rfl,rfl,rfl⟩
   simp at h
  have z:∀{dst l w},mg st dst l w=some (sv,st')->st'.want=st.want/\st'.pin=st.pin/\st'.more=st.more/\st'.yid=st.yid:=by
   intro dst l w h;unfold mg at h
   (repeat' split at h) <;> first|(simp at h;done)|(simp only[ζa,ζc]at h;obtain⟨_,rfl⟩:=h;exact⟨rfl,rfl,rfl,rfl⟩)|(obtain⟨_,_,e⟩:=ζf.1 h;simp only[ζc]at e;obtain⟨_,rfl⟩:=e;exact⟨rfl,rfl,rfl,rfl⟩)|skip
   all_goals (dsimp only at h;(repeat' split at h) <;> first|(simp at h;done)|(simp only[ζa,ζc]at h;obtain⟨_,rfl⟩:=h;exact⟨rfl,rfl,rfl,rfl⟩))
  split at h
  .exact z h
  .exact z h
  simp at h
 simp at h
theorem Ap (r:R ν Z st F H) {nt:Nat} {dst:Option Nat} (B:yw nt dst=true) {sv:SV} {y:V} (h:dc ν st.m H Z sv y):∃F',jM nt F dst y=some F'/\R ν Z (dg st dst sv) F' H:=by
 cases dst with
 | none=>exact⟨F,rfl,r⟩
 | some d=>
  have  := by simpa [yw]using B
  exact⟨set F d y,by simp[jM,if_pos this],r.put h⟩
theorem Dc (st:St) (dst:Option Nat) (sv:SV):(dg st dst sv).m=st.m/\(dg st dst sv).want=st.want/\(dg st dst sv).pin=st.pin/\(dg st dst sv).more=st.more/\(dg st dst sv).yid=st.yid:=by
 cases dst <;> exact⟨rfl,rfl,rfl,rfl,rfl⟩
theorem IP (gd:Good X S) (U:jo S c) {ops:List Oper} {place:Option (Nat×Nat)} {dr:Bool} {fr:List Nat} {i:Nat} (J:dr=place.isSome) (W:∀b j,place=some (b,j)->j=i)
 (hold:∀b j,place=some (b,j)->b<=H.length/\Old b fr ν Z st.m)
 {o:Oper} {ro:RO} (hc:mX X dr ops i o=some ro) (O:∀b j,place=some (b,j)->ops[j]? = some o) (D:∀b j,place=some (b,j)->dh o.op=.alloc->H[b+j]? = some .free)
 (r:R ν Z st F H) (B:fT S.N st.g ro=none\/dr=true) (h:fK S c dr fr ro st=some st') :
 ∃n F' H' ν' Z',(∀k,n<=k->gp S.E (run S.E k) X.nt ops place o F H=some (F',H'))/\R ν' Z' st' F' H'/\Ev (λid=>∃b j,place=some (b,j)/\id=b+j) ν Z st H ν' Z' st' H' /\
  (dr=true->Z'=Z/\Kept (xG ro) ν st.m ν' st'.m)/\st'.want=st.want/\Fix ν st ν' st':=by
 have I:=hc;obtain⟨w,g,now,k,az,hg,rfl⟩:=Cj hc;unfold fK at h;split at h
 .rename_i L;have z:=uM r.slot hg L;have Y:(mb S c dr fr ⟨o.dst,g,now,k,az,[],[]⟩ st).map (λ(x,st')=>dg st' o.dst x)=some st':=by
   split at h
   .rename_i id vs G;rcases B with B|B
    .rw[B]at G;cases G
    subst B;simp at h
   exact h
  obtain⟨⟨x,Q⟩,u,rfl⟩:=ζf.1 Y;obtain⟨n,y,H',ν',Z',e1,e2,e3,e4,e5⟩:=TF gd U J W hold I O D r u;obtain⟨w1,T,w3,w4⟩:=PL u;obtain⟨F',f1,f2⟩:=Ap e2 w e3;obtain⟨p1,p2,p3,p4,p5⟩:=Dc Q o.dst x;refine⟨n,F',H',ν',Z',λk hk=>?_,f2,?_,λu=>⟨(e5 u).1,by rw[p1];exact(e5 u).2⟩,by rw[p2,w1],⟨λd u=>by rw[p1];exact e4.pin d u,by rw[p3,T],by rw[p4,w3],by rw[p5,w4]⟩⟩
  .unfold gp;simp only[z,if_true,e1 k hk,f1,Option.map_some]
  exact⟨e4.len,e4.same,e4.rows,λid h=>e4.own id (by rw[p1]at h;exact h),e4.frz,λd u=>by rw[p1];exact e4.pin d u,by rw[p3,T]⟩
 .rename_i L;have z:=uM r.slot hg L;simp only[ζa]at h;subst h;obtain⟨F',f1,f2⟩:=Ap r w (.v V.undef V.undef (.same _ rfl));obtain⟨p1,p2,p3,p4,p5⟩:=Dc st o.dst (.v .undef);refine⟨0,F',H,ν,Z,λk _=>?_,f2,?_,λ_=>⟨rfl,by rw[p1];exact .refl⟩,p2,⟨λd u=>by rw[p1];exact λC h=>⟨C,h,rfl,.refl _⟩,p3,p4,p5⟩⟩
  .unfold gp;simp only[z,Bool.false_eq_true,if_false,f1,Option.map_some]
  exact⟨Nat.le_refl _,λ_ _ _ _ _=>rfl,λ_ h=>⟨h,rfl⟩,λ_ h=>.inl (by rw[p1]at h;exact h),λ_ h=>.inl h,λd u=>by rw[p1];exact λC h=>⟨C,h,rfl,.refl _⟩,p3⟩
 simp at h
theorem N0 (gd:Good X S) (y:Yc S J st.more st.yid) {ops:List Oper} {fr:List Nat} {i:Nat} {o:Oper} {ro:RO} (hc:mX X false ops i o=some ro)
 (r:R ν Z st F H) (j:J st.want (fA ν st.m) Z H) {id:Nat} {vs:List SV} (B:fT S.N st.g ro=some (id,vs)) (D:wanted st.g ro.gd=some true) (h:fK S c false fr ro st=some st') :
 ∃n F' H',(∀k,n<=k->gp S.E (run S.E k) X.nt ops none o F H=some (F',H'))/\R ν Z st' F' H'/\J st'.want (fA ν st'.m) Z H'/\Fix ν st ν st':=by
 unfold mX at hc;simp only[Bool.false_and,Bool.false_eq_true,if_false]at hc;split at hc
 .rename_i C;split at hc
  .rename_i g k os hg hr;split at hc
   .obtain⟨az,W,rfl⟩:=ζf.1 hc;unfold fK at h;simp only at D;have L:=uM r.slot hg D;rw[D]at h;simp only[B,Bool.false_eq_true,if_false]at h;unfold fT at B;split at B
    .rename_i Y aa hk G;simp only[ζa,ζc]at B;obtain⟨rfl,rfl⟩:=B;simp only at hk G;subst hk;obtain⟨ys,O,rs⟩:=pJ gd.N r.slot W G;obtain⟨g1,f',ab,e1,e2⟩:=ku gd.N hr O;obtain⟨w,ws,ew,r1,r2⟩:=rs.inv;rw[ew]at e1;simp only[List.cons.injEq]at e1;obtain⟨rfl,rfl⟩:=e1;cases r1;simp only at e2;split at h
     .rename_i xs x I hx u;split at h
      .rename_i z;obtain⟨rfl,rfl⟩:=z;simp only[ζa]at h;subst h;rw[u]at j;obtain⟨n,H',p1,p2,p3,p4,p5⟩:=y.yield _ _ _ _ _ _ j (r2.dw hx) r.zrow r.deep (λi T=>⟨by obtain⟨d,ob,h1,h2,rfl⟩:=T;exact r.apart d ob h1 h2,r.lt T⟩)
       have r3:R ν Z st F H':=r.heap p4 p5;have r4:R ν Z { st with want:=I } F H':=⟨r3.slot,r3.obj,r3.inj,r3.apart,r3.zrow,r3.deep⟩;obtain⟨F',f1,f2⟩:=Ap (st:={ st with want:=I }) r4 C (sv:=.v (.bool (st.more || !I.isEmpty))) (.v _ _ (.same _ rfl));obtain⟨U,q2,q3,q4,q5⟩:=Dc { st with want:=I } o.dst (.v (.bool (st.more || !I.isEmpty)));refine⟨n,F',H',λk hk=>?_,f2,by rw[U,q2];exact p2,⟨λd hd=>by rw[U];exact λQ h=>⟨Q,h,rfl,.refl _⟩,q3,q4,q5⟩⟩
       unfold gp dn;rw[g1,e2];simp only[L,if_true,(nr S.E hk).go _ _ _ _ p1,f1,Option.map_some]
      simp at h
     simp at h
    simp at B
   simp at hc
  simp at hc
 simp at hc
def kN (X:CX) (B:Bool) (ops:List Oper):Nat->List Oper->Option (List RO)
 | _,[]=>some []
 | i,o::r=>match mX X B ops i o,kN X B ops (i+1) r with
  | some ro,some rs=>some (ro::rs)
  | _,_=>none
theorem R.xW (r:R ν Z st F H) (ds:List Nat):R ν Z (oL ds st) F H:=r.less   (λs z u=>nX u) (λd ob w=>w)
theorem Fix.xW {ds:List Nat} (f:Fix ν (oL ds st) ν' st'):Fix ν st ν' st':=⟨f.pin,f.pins,f.more,f.yid⟩
theorem Fix.ghost (r:R ν Z st F H) (y:Yc S J st.more st.yid) (j:J st.want (fA ν st.m) Z H) {x:Gh} (h:ghost x st=some st'):∃ν' Z',R ν' Z' st' F H/\J st'.want (fA ν' st'.m) Z' H/\Fix ν st ν' st':=by
 obtain⟨ν',Z',h1,u⟩:=OD (Rv:=λ_=>False) r h
 have w:st'.want=st.want/\st'.more=st.more/\st'.yid=st.yid:=by
  unfold Go.VE.ghost yY at h
  (repeat' split at h) <;> first|grind|grind
 exact⟨ν',Z',h1,u.beside y w.1 j,⟨u.pin,u.pins,w.2.1,w.2.2⟩⟩
theorem Fix.quiet (r:R ν Z st F H):∀{l:List Gh} {st':St},l.all zi=true->Go.VE.ot l st=some st'->R ν Z st' F H/\Ev Rv ν Z st H ν Z st' H/\st'.want=st.want/\Fix ν st ν st'/\∀d ob,bh st'.m d=some ob->bh st.m d=some ob:=by
 intro l
 induction l generalizing st with
 | nil=>intro st' _ h;simp[Go.VE.ot]at h;subst h;exact⟨r,.refl,rfl,.refl,λ_ _ h=>h⟩
 | cons x l C=>
  intro st' z h;simp only[List.all_cons,ζh]at z;obtain⟨D,h1,G⟩:=ζg.1 h;have key:∃g m,D={ st with g:=g,m:=m }/\(∀s u,bh g s=some u->bh st.g s=some u)/\∀d ob,bh m d=some ob->bh st.m d=some ob:=by
   cases x with
   | keep gs U=>
    simp[Go.VE.ghost]at h1;split at h1
    next g m hg I=>simp  at h1;subst h1;exact⟨g,m,rfl,λs u B=>p8 hg B,λd ob J=>p8 I J⟩
    grind
   | drop ds=>
    simp[Go.VE.ghost]at h1;subst h1;exact⟨_,st.m,rfl,λs u B=>nX B,λ_ _ h=>h⟩
   | _=>simp[zi]at z
  obtain⟨g,m,rfl,L,w⟩:=key;obtain⟨a1,O,Q,S,T⟩:=C (r.less   L w) z.2 G;exact⟨a1,(Ev.less   w).trans O,Q,Fix.trans  (st':={ st with g:=g,m:=m }) ⟨λd _ ob h=>⟨ob,w d ob h,rfl,.refl _⟩,rfl,rfl,rfl⟩ S,λd ob h=>w d ob (T d ob h)⟩
theorem Fix.ot:∀{l:List Gh} {ν:Nu} {Z:Nat->Prop} {st st':St},R ν Z st F H->Yc S J st.more st.yid->J st.want (fA ν st.m) Z H->ot l st=some st'->∃ν' Z',R ν' Z' st' F H/\J st'.want (fA ν' st'.m) Z' H/\Fix ν st ν' st'
 | [],ν,Z,st,st',r,y,j,h=>by simp[Go.VE.ot]at h;subst h;exact⟨ν,Z,r,j,.refl⟩
 | x::l,ν,Z,st,st',r,y,j,h=>by
  obtain⟨B,h1,D⟩:=ζg.1 h;obtain⟨z,C,r1,u,f1⟩:=Fix.ghost r y j h1;obtain⟨ν2,Z2,r2,w,f2⟩:=Fix.ot r1 (by rw[f1.more,f1.yid];omega) u D
  exact⟨ν2,Z2,r2,w,f1.trans f2⟩
theorem Pc (gd:Good X S) (O:jo S c) {ops:List Oper} {fr:List Nat} {i:Nat} {o:Oper} {ro:RO} {B:St} (h1:mX X false ops i o=some ro) (y:Yc S J st.more st.yid) (r:R ν Z st F H) (j:J st.want (fA ν st.m) Z H) (G:fK S c false fr ro st=some B) :
 ∃n F' H' ν' Z',(∀k,n<=k->gp S.E (run S.E k) X.nt ops none o F H=some (F',H'))/\R ν' Z' B F' H'/\J B.want (fA ν' B.m) Z' H'/\Fix ν st ν' B:=by
 by_cases L:wanted st.g ro.gd=some true
 .cases C:fT S.N st.g ro with
  | none=>
   obtain⟨n,F',H',ν',Z',e1,e2,e3,e4,e5,e6⟩:=IP gd O (place:=none) rfl (λb j h=>by cases h) (λb j h=>by cases h) h1 (λb j h=>by cases h) (λb j h=>by cases h) r (.inl C) G
   exact⟨n,F',H',ν',Z',e1,e2,(e3.weak (λid ⟨b,j,h,_⟩=>by cases h)).beside y e5 j,e6⟩
  | some p=>
   obtain⟨id,U⟩:=p;obtain⟨n,F',H',e1,e2,e3,e4⟩:=N0 gd y h1 r j C L G;exact⟨n,F',H',ν,Z,e1,e2,e3,e4⟩
 have u:fK S c false fr ro st=some B:=G;have Q:fT S.N st.g { ro with az:=[] }=none:=by
  unfold fT;simp[bY]
 obtain⟨n,F',H',ν',Z',e1,e2,e3,e4,e5,e6⟩:∃n F' H' ν' Z',(∀k,n<=k->gp S.E (run S.E k) X.nt ops none o F H=some (F',H'))/\R ν' Z' B F' H'/\Ev (λ_=>False) ν Z st H ν' Z' B H'/\True/\B.want=st.want/\Fix ν st ν' B:=by
  unfold fK at u;split at u
  next w=>exact absurd w L
  .rename_i w;simp only[ζa]at u;subst u;unfold mX at h1;simp only[Bool.false_and,Bool.false_eq_true,if_false]at h1;split at h1
   .rename_i D;split at h1
    .rename_i g k os hg hr;split at h1
     .obtain⟨az,W,rfl⟩:=ζf.1 h1;have I:=uM r.slot hg w;obtain⟨F',f1,f2⟩:=Ap r D (.v V.undef V.undef (.same _ rfl));obtain⟨p1,p2,p3,p4,p5⟩:=Dc st o.dst (.v .undef);refine⟨0,F',H,ν,Z,λk _=>?_,f2,?_,trivial,p2,⟨λd T=>by rw[p1];exact λz h=>⟨z,h,rfl,.refl _⟩,p3,p4,p5⟩⟩
      .unfold gp;simp only[I,Bool.false_eq_true,if_false,f1,Option.map_some]
      exact⟨Nat.le_refl _,λ_ _ _ _ _=>rfl,λ_ h=>⟨h,rfl⟩,λ_ h=>.inl (by rw[p1]at h;exact h),λ_ h=>.inl h,λd T=>by rw[p1];exact λz h=>⟨z,h,rfl,.refl _⟩,p3⟩
     simp at h1
    simp at h1
   simp at h1
  simp at u
 exact⟨n,F',H',ν',Z',e1,e2,e3.beside y e5 j,e6⟩
theorem Mr (gd:Good X S) (U:jo S c) {ops:List Oper} {fr:List Nat}:∀(rest:List Oper) {i:Nat} {B:List RO} {ν:Nu} {Z:Nat->Prop} {st st':St} {F:Frame} {H:bl},kN X false ops i rest=some (B.map RO.strip)->mM S c false fr B st=some st' ->
 Yc S J st.more st.yid->R ν Z st F H->J st.want (fA ν st.m) Z H ->
 ∃n F' H' ν' Z',(∀k,n<=k->lU S.E (run S.E k) X.nt ops rest F H=some (F',H'))/\R ν' Z' st' F' H'/\J st'.want (fA ν' st'.m) Z' H'/\Fix ν st ν' st'
 | [],i,B,ν,Z,st,st',F,H,hc,h,y,r,j=>by
  simp only[kN,ζa]at hc;have  := List.map_eq_nil_iff.1 hc.symm;subst this;simp[mM]at h;subst h;exact⟨0,F,H,ν,Z,λ_ _=>rfl,r,j,.refl⟩
 | o::rest,i,B,ν,Z,st,st',F,H,hc,h,y,r,j=>by
  simp[kN]at hc;split at hc
  .rename_i T rs h1 W;obtain⟨u,w,rfl,C,D⟩:∃u w,B=u::w/\T=u.strip/\rs=w.map RO.strip:=by
    cases B with
    | nil=>simp_all
    | cons a b=>grind
   subst D;simp[mM,<-C]at h;split at h
   .rename_i z G;obtain⟨Y,I,G⟩:=ζg.1 G;obtain⟨νg,Zg,rg,jg,L⟩:=Fix.ot r y j I;obtain⟨n1,F1,H1,ν1,Z1,a1,a2,a3,O⟩:=Pc gd U h1 (by rw[L.more,L.yid];omega) rg jg G
    have Q:=L.trans O;obtain⟨n2,F2,H2,ν2,Z2,b1,b2,b3,b4⟩:=Mr gd U rest W h (by show Yc S J z.more z.yid;rw[Q.more,Q.yid];omega) (R.xW a2 u.dead) a3
    refine⟨max n1 n2,F2,H2,ν2,Z2,λk hk=>?_,b2,b3,Q.trans (Fix.xW b4)⟩
    simp[lU,a1 k (Nat.le_trans (Nat.le_max_left _ _) hk),b1 k (Nat.le_trans (Nat.le_max_right _ _) hk)]
   grind
  grind
theorem Old.next {b:Nat} {fr:List Nat} {o:RO} (h:Old b fr ν Z m) (hk:Kept (xG o) ν m ν' m'):Old b (qj fr o) ν' Z m':=by
 refine⟨λd ob D G w=>?_,h.2⟩
 have z:d∉fr:=λL=>w (by
  unfold qj
  grind)
 have B:xG o≠some d:=λe=>w (by unfold qj;grind)
 obtain⟨u,h1,I,J⟩:=hk d ob B D;have C:cD u=true:=by
  cases u <;> cases ob <;> simp[sameShape]at J <;> first|rfl|(simp[cD]at G ⊢;grind)
 rw[I];exact h.1 d u h1 C z
theorem DL (r:R ν Z st F H) {id:Nat} (h:fA ν st.m id):H[id]? ≠ some .free:=by
 obtain⟨d,ob,h1,u,rfl⟩:=h;have:=r.obj d ob h1
 cases ob with
 | sl k es C=>
  simp[cD]at u;simp[d_,u]at this
  grind
 | box D=>obtain⟨es,z,hr,_⟩:=this;grind
 | mp B=>obtain⟨w,hr,_⟩:=this;grind
theorem J8 (r:R ν Z st F H) {id:Nat} (h:Z id):H[id]? ≠ some .free:=λe=>by
 have:=r.zrow id h;unfold bp at this;rw[e]at this;simp[Ob.rows]at this
theorem Ev.xW {ds:List Nat} (e:Ev Rv ν Z (oL ds st) H ν' Z' st' H'):Ev Rv ν Z st H ν' Z' st' H':=⟨e.len,e.same,e.rows,e.own,e.frz,e.pin,e.pins⟩
theorem Nk (gd:Good X S) (hS:jo S c) {ops:List Oper} {b k:Nat} (G:qP ops=true->k=ops.length):∀(len:Nat) {i:Nat} {B:List RO} {fr:List Nat} {ν:Nu} {Z:Nat->Prop} {st st':St} {F:Frame} {H:bl},
 i+len=ops.length->kN X true ops i (ops.drop i)=some (B.map RO.strip)->mM S c true fr B st=some st'->R ν Z st F H->b<=H.length->Old b fr ν Z st.m->(∀j,i<=j->j<k->H[b+j]? = some .free) ->
 ∃n F' H' ν',(∀q,n<=q->jD S.E (run S.E q) X.nt ops b (List.range' i len) F H=some (F',H'))/\R ν' Z st' F' H'/\Ev (λid=>b<=id) ν Z st H ν' Z st' H'/\st'.want=st.want/\Fix ν st ν' st'
 | 0,i,B,fr,ν,Z,st,st',F,H,hl,hc,h,r,hb,J,hf=>by
  rw[List.drop_of_length_le Za]at hc
  simp only[kN,ζa]at hc;have:B=[]:=List.map_eq_nil_iff.1 hc.symm;subst this;simp[mM]at h;subst h;exact⟨0,F,H,ν,λ_ _=>rfl,r,.refl,rfl,.refl⟩
 | len+1,i,B,fr,ν,Z,st,st',F,H,hl,hc,h,r,hb,J,hf=>by
  have hi:i<ops.length:=by omega
  have hg  := ζd hi;rw[List.drop_eq_getElem_cons hi]at hc;simp[kN]at hc;split at hc
  .rename_i ro rs h1 h2;obtain⟨u,w,rfl,Q,T⟩:∃u w,B=u::w/\ro=u.strip/\rs=w.map RO.strip:=by
    cases B with
    | nil=>simp_all
    | cons a b=>grind
   subst T;simp only[mM,<-Q]at h;split at h
   .rename_i ab U;obtain⟨W,z,U⟩:=ζg.1 U;simp only[Bs,if_true]at z;split at z
    rotate_left
    .simp_all
    rename_i L;obtain⟨rg,eg,wg,fg,sg⟩:=Fix.quiet r L z;have J:Old b fr ν Z W.m:=⟨λd ob hd=>J.1 d ob (sg d ob hd),J.2⟩
    obtain⟨n1,F1,H1,ν1,Z1,a1,a2,a3,a4,a5,a6⟩:=IP gd hS (place:=some (b,i))  rfl (λO j e=>by grind) (λO j e=>by grind) h1 (λO j e=>by grind) (λO j e ad=>by
     have:qP ops=true:=by
      unfold qP
      grind
     grind) rg (.inr rfl) U
    obtain⟨rfl,C⟩:=a4 rfl;have I  := a3.weak λid ⟨O,j,e,h⟩=>by cases e;omega
    obtain⟨n2,F2,H2,ν2,b1,b2,b3,b4,b5⟩:=Nk gd hS G len Za h2 h (R.xW a2 u.dead) (Nat.le_trans hb a3.len) (J.next C) (λj ae Y=>by
     have D:=hf j Za Y
     have aa:=(ζe.1 D).1;rw[I.same (b+j) aa (λh=>DL rg h D) (λh=>J8 rg h D) Za]
     omega)
    refine⟨max n1 n2,F2,H2,ν2,λq L=>?_,b2,eg.trans ((I.weak λid e=>by omega).trans (Ev.xW b3)),by rw[b4,<-wg];exact a5,fg.trans (a6.trans (Fix.xW b5))⟩
    simp[List.range'_succ,jD,hg,a1 q (Nat.le_trans (Nat.le_max_left _ _) L),b1 q (Nat.le_trans (Nat.le_max_right _ _) L)]
   grind
  grind
end
def bQ (X:CX):Bool->Code->Option RC
 | _,.skip=>some .skip
 | _,.label _=>some .skip
 | _,.region _ ops B=>
  if B then(if vo ops.toList&&yQ ops.toList then(kN X true ops.toList 0 ops.toList).map .oQ else none)
  else(kN X false ops.toList 0 ops.toList).map .ops
 | ro,.seq a b=>match bQ X ro a,bQ X ro b with
  | some a,some b=>some (.seq a b)
  | _,_=>none
 | ro,.cond c a b=>match pN X.nm c,bQ X ro a,bQ X ro b with
  | some x,some a,some b=>some (.cond x a b)
  | _,_,_=>none
 | ro,.block id c=>(bQ X ro c).map (.block id)
 | ro,.loop c=>(bQ X ro c).map .loop
 | ro,.rangeFunc g ps D G=>
  if ro || !(ps.toList.all (·<X.nt))then none else
  match pN X.nm g,bQ X true D,bQ X true G with
  | some x,some a,some b=>some (.each x ps.toList a b)
  | _,_,_=>none
 | _,.exit id=>some (.exit id)
 | _,.ret=>some .ret
 | _,_=>none
def erase:RC->RC
 | .seq a b=>.seq (erase a) (erase b)
 | .cond x a b=>.cond x (erase a) (erase b)
 | .block id c=>.block id (erase c)
 | .loop c=>.loop (erase c)
 | .each g ps a b=>.each g ps (erase a) (erase b)
 | .gh _ c=>erase c
 | .hg c _=>erase c
 | .ops l=>.ops (l.map RO.strip)
 | .oQ l=>.oQ (l.map RO.strip)
 | c=>c
def jc (step:St->Option (Out×St)):Nat->St->Option (Out×St)
 | 0,_=>none
 | k+1,st=>match step st with
  | some (.norm,st')=>jc step k st'
  | r=>r
open Classical in
noncomputable def nZ (step:St->Option (Out×St)) (st:St):Option (Out×St):=
 if h:∃k r,jc step k st=some r then some (Classical.choose (Classical.choose_spec h))else none
theorem xQ {step:St->Option (Out×St)}:∀{k B:Nat} {st:St} {r:Out×St},k<=B->jc step k st=some r->jc step B st=some r
 | 0,_,_,_,_,h=>by simp[jc]at h
 | k+1,0,_,_,hk,_=>by omega
 | k+1,B+1,st,r,hk,h=>by
  simp only[jc]at h ⊢;split at h
  next st' D=>rw[xQ (Nat.le_of_succ_le_succ hk) h]
  exact h
theorem mH {step:St->Option (Out×St)} {st:St} {r:Out×St}:nZ step st=some r↔∃k,jc step k st=some r:=by
 unfold nZ;constructor
 .intro h;split at h
  next u=>simp only[ζa]at h;exact⟨_,by rw[<-h];exact Classical.choose_spec (Classical.choose_spec u)⟩
  simp at h
 rintro⟨k,hk⟩;have u:∃k r,jc step k st=some r:=⟨k,r,hk⟩;rw[dif_pos u];have z:=Classical.choose_spec (Classical.choose_spec u);have B:=xQ (Nat.le_max_left (Classical.choose u) k) z;have w:=xQ (Nat.le_max_right (Classical.choose u) k) hk;rw[B]at w;exact w
def iK (ps:List Nat) (A B:St->Option (Out×St)) (st:St) (x:List V) (m:Tb bG):Option (Out×Tb bG):=
 if x.length=ps.length then
  match A { g:=vN st.g ps (x.map .v),m:=m,pin:=st.pin++pz st.g,want:=[],more:=true,yid:=0 } with
  | some (.norm,u)=>(B u).map λ(o,st2)=>(o,st2.m)
  | _=>none
 else none
def pX (step:List V->Tb bG->Option (Out×Tb bG)):List (List V)->Tb bG->Option (Out×Tb bG)
 | [],m=>some (.norm,m)
 | x::xs,m=>match step x m with
  | some (.norm,m')=>pX step xs m'
  | r=>r
noncomputable def cH (S:Sys) (c:ck):RC->St->Option (Out×St)
 | .skip,st=>some (.norm,st)
 | .ops l,st=>(mM S c false [] l st).map λst=>(.norm,st)
 | .oQ l,st=>(mM S c true [] l st).map λst=>(.norm,st)
 | .seq a b,st=>match cH S c a st with
  | some (.norm,st')=>cH S c b st'
  | r=>r
 | .cond x a b,st=>match qh S.N st.g x with
  | some (.v (.bool t))=>if t then cH S c a st else cH S c b st
  | _=>none
 | .block id a,st=>match cH S c a st with
  | some (.exit B,st')=>if B=id then some (.norm,st')else some (.exit B,st')
  | r=>r
 | .loop a,st=>nZ (cH S c a) st
 | .each g ps a b,st=>match qh S.N st.g g with
  | some (.v (.clo f x y))=>match S.items f x y with
   | some xs=>(pX (iK ps (cH S c a) (cH S c b) st) xs st.m).map λ(o,m)=>(o,{ st with m:=m })
   | none=>none
  | _=>none
 | .exit id,st=>some (.exit id,st)
 | .ret,st=>some (.ret,st)
 | .gh x a,st=>(ghost x st).bind (cH S c a)
 | .hg a x,st=>match cH S c a st with
  | some (.norm,st')=>(ghost x st').map λst=>(.norm,st)
  | r=>r
def fH (S:Sys) (f:FuncId) (a b:List V) (xs:List (List V)):Prop:=
 ∀u more,(more=true/\u=xs\/more=false/\u≠[]/\∃r,xs=u++r)->∀yid J,Yc S J more yid->∀Z w z H,dm H Z a w->dm H Z b z->(∀i,Z i->(bp H i).isSome=true)->Deep H Z->J u (λ_=>False) Z H ->
  ∃n y H' B Z',(∀k,n<=k->run S.E k (.fn f) (w++.yld yid::z) H=some (y,H'))/\J [] B Z' H'
section
variable {ν ν' ν2:Nu} {Z Z':Nat->Prop} {st st' st2:St} {m m':Tb bG} {F F':Frame} {H H' H1:bl} {S:Sys} {c:ck} {X:CX} {J:JT}
end
inductive vA (step:List V->Tb bG->Option (Out×Tb bG)) (o:Out) (mf:Tb bG):List (List V)->Bool->Tb bG->Prop
 | nil (h:o=.norm):vA step o mf [] true mf
 | next (x:List V) (ws:List (List V)) (more:Bool) (m m1:Tb bG) (h:step x m=some (.norm,m1)) (r:vA step o mf ws more m1):vA step o mf (x::ws) more m
 | last (x:List V) (m:Tb bG) (h:step x m=some (o,mf)) (ho:o≠.norm):vA step o mf [x] false m
theorem Ce {step:List V->Tb bG->Option (Out×Tb bG)} {o:Out} {D:Tb bG}:∀{xs:List (List V)} {m:Tb bG},pX step xs m=some (o,D) ->
 ∃B more,(more=true/\B=xs\/more=false/\B≠[]/\∃r,xs=B++r)/\vA step o D B more m
 | [],m,h=>by
  obtain⟨rfl,rfl⟩:=h;exact⟨[],true,.inl ⟨rfl,rfl⟩,.nil rfl⟩
 | x::xs,m,h=>by
  simp[pX]at h;split at h
  .rename_i m' u;obtain⟨B,more,hc,hr⟩:=Ce h;refine⟨x::B,more,?_,.next x B more m m' u hr⟩
   grind
  refine⟨[x],false,.inr ⟨rfl,by simp,xs,rfl⟩,.last x m h λe=>?_⟩
  simp_all
def tM (O0 Z0:Nat->Prop) (H0:bl):JT:=λw O Z H=>w=[]/\H0.length<=H.length/\(∀i,i<H0.length->¬O0 i->¬Z0 i->H[i]? = H0[i]?)/\(∀i,Z0 i->Z i/\bp H i=bp H0 i) /\
 (∀i,O i->O0 i\/H0.length<=i)/\(∀i,Z i->Z0 i\/O0 i\/H0.length<=i)
section
variable {ν ν' ν2:Nu} {Z Z':Nat->Prop} {st st' st2:St} {m m':Tb bG} {F F':Frame} {H H' H1:bl} {S:Sys} {c:ck} {X:CX} {J:JT} {O0 Z0:Nat->Prop} {H0:bl}
theorem tM.wL {w:List (List V)} {O Z B Z':Nat->Prop} {H H':bl} (j:tM O0 Z0 H0 w O Z H) (D:H.length<=H'.length) (G:∀i,i<H.length->¬O i->¬Z i->H'[i]? = H[i]?) (hr:∀i,Z i->Z' i/\bp H' i=bp H i)
 (J:∀i,B i->O i\/H.length<=i) (U:∀i,Z' i->Z i\/O i\/H.length<=i):tM O0 Z0 H0 w B Z' H':=by
 obtain⟨u,z,I,C,L,Q⟩:=j;refine⟨u,Nat.le_trans z D,λi h1 S T=>?_,λi h=>⟨(hr i (C i h).1).1,by grind⟩,λi h=>?_,λi h=>?_⟩
 .grind
 .grind
 grind
theorem tM.yc {more:Bool} {yid:Nat}:Yc S (tM O0 Z0 H0) more yid where
 wL:=λ_ _ _ _ _ _ _ j h1 u w z B=>j.wL h1 u w z B
 yield:=λx C O Z H args j=>by obtain⟨h,_⟩:=j;cases h
theorem tM.refl (r:R ν Z st F H):tM (fA ν st.m) Z H [] (fA ν st.m) Z H:=⟨rfl,Nat.le_refl _,λ_ _ _ _=>rfl,λi h=>⟨h,rfl⟩,λi h=>.inl h,λi h=>.inl h⟩
mutual
theorem B7 {d:Nat}:∀{sv:SV},sv.cR d=true->d∈sv.names
 | .v _,h=>by simp[SV.cR]at h
 | .own e,h=>by simp[SV.cR]at h;simp[SV.names,h]
 | .ptr e _,h=>by simp[SV.cR]at h;simp[SV.names,h]
 | .el e _ _,h=>by simp[SV.cR]at h;simp[SV.names,h]
 | .mp e,h=>by simp[SV.cR]at h;simp[SV.names,h]
 | .clo f a b,h=>by
  simp only[SV.cR,Bool.or_eq_true]at h;simp only[SV.names,List.mem_append];exact h.imp ql ql
 | .tup l,h=>by simp only[SV.cR]at h;simp only[SV.names];exact ql h
 | .agg l,h=>by simp only[SV.cR]at h;simp only[SV.names];exact ql h
 | .yl _,h=>by simp[SV.cR]at h
theorem ql {d:Nat}:∀{l:List SV},SV.dz d l=true->d∈SV.vf l
 | [],h=>by simp[SV.dz]at h
 | x::r,h=>by
  simp only[SV.dz,Bool.or_eq_true]at h;simp only[SV.vf,List.mem_append];exact h.imp B7 ql
end
theorem AM {d:Nat}:∀{g:Tb SV} {s:Nat} {sv:SV},bh g s=some sv->sv.cR d=true->d∈pz g
 | [],s,sv,h,_=>by simp[bh]at h
 | (k,x)::r,s,sv,h,B=>by
  simp[bh]at h;simp[pz];split at h
  .simp  at h;subst h;exact .inl (B7 B)
  exact .inr (AM h B)
theorem R.UR (r:R ν Z st F H) {Z2:Nat->Prop} (h1:∀i,Z2 i->¬fA ν st.m i) (J:∀i,Z2 i->(bp H i).isSome=true) (O:Deep H Z2):R ν (λi=>Z i\/Z2 i) st F H:=by
 have z:∀i,Z i->(Z i\/Z2 i)/\bp H i=bp H i:=λi h=>⟨.inl h,rfl⟩
 have B:∀i,Z2 i->(Z i\/Z2 i)/\bp H i=bp H i:=λi h=>⟨.inr h,rfl⟩
 refine⟨λs I L=>(r.slot s I L).mono z λe _=>iQ ν st.m e,λd ob w=>d_.mono z rfl (λ_=>rfl) (λe _=>iQ ν st.m e) (r.obj d ob w),r.inj,λd ob w D hh=>?_,λi hi=>?_,⟨λid es G hi hr c hc u hu=>?_⟩⟩
 .rcases hh with hh|hh
  .exact r.apart d ob w D hh
  exact h1 _ hh ⟨d,ob,w,D,rfl⟩
 .exact hi.elim (r.zrow i) (J i)
 rcases hi with hi|hi
 .obtain⟨x,C⟩:=r.deep.row id es G hi hr c hc u hu;exact⟨x,C.mono z⟩
 obtain⟨x,C⟩:=O.row id es G hi hr c hc u hu;exact⟨x,C.mono B⟩
theorem R.TE:∀{ps:List Nat} {xs:List V} {vs:List V} {g:Tb SV} {F:Frame},R ν Z { st with g:=g } F H->dm H Z xs vs->xs.length=ps.length->R ν Z { st with g:=vN g ps (xs.map .v) } (xo ps vs F) H
 | [],xs,vs,g,F,r,h,B=>by
  have  := List.length_eq_zero_iff.1 B;subst this;exact r
 | p::ps,[],vs,g,F,r,h,B=>by simp_all
 | p::ps,x::xs,vs,g,F,r,h,B=>by
  obtain⟨w,z,rfl,h1,u⟩:=h.inv;exact R.TE (ps:=ps) (r.put  (.v _ _ h1)) u Zd
def rO (X:CX) (S:Sys) (ro:Bool) (code:Code) (B:St->Option (Out×St)):Prop:=
 ∀st o st',B st=some (o,st')->∀(J:JT) ν Z F H,Yc S J st.more st.yid->R ν Z st F H->J st.want (fA ν st.m) Z H ->
  ∃n F' H' ν' Z',(∀k,n<=k->exec S.E (run S.E k) k ro X.nt code F H=some (o,F',H'))/\R ν' Z' st' F' H'/\J st'.want (fA ν' st'.m) Z' H'/\Fix ν st ν' st'
def P4 (st:St) (m:Tb bG):St:={ g:=st.g,m:=m,pin:=st.pin++pz st.g,want:=[],more:=true,yid:=0 }
def JI (X:CX) (st:St) (F:Frame) (ν:Nu) (O0 Z0:Nat->Prop) (H0:bl) (B:Nat) (ps:List Nat) (J U:Code) (step:List V->Tb bG->Option (Out×Tb bG)) (o:Out) (G:Tb bG) (more:Bool):JT:=λw O Z H=>
 ∃m z D u,R z D (P4 st m) F H/\tM O0 Z0 H0 [] (fA z m) D H/\(∀i,O i->¬fA z m i/\¬D i/\i≠B/\H0.length<=i)/\(∀i,Z i->¬fA z m i/\i≠B/\(Z0 i\/H0.length<=i)) /\
  ¬fA z m B/\¬D B/\H0.length<=B/\H[B]? = some (.loop u)/\(u.frame=F/\u.nt=X.nt/\u.params=ps/\u.assign=J/\u.body=U) /\
  (∀d∈st.pin++pz st.g,∀C,bh m d=some C->∃ob,bh st.m d=some ob/\z d=ν d/\sameShape ob C) /\
  ((vA step o G w more m/\u.st=.ready/\u.pend=none)\/(w=[]/\m=G/\u.st=.done/\u.pend=some o))
theorem JI.wL {w:List (List V)} {O Z J Z':Nat->Prop} {H H':bl} {B:Nat} {ps:List Nat} {U W:Code} {step:List V->Tb bG->Option (Out×Tb bG)} {o:Out} {Y:Tb bG} {more:Bool}
 (j:JI X st F ν O0 Z0 H0 B ps U W step o Y more w O Z H) (hl:H.length<=H'.length) (D:∀i,i<H.length->¬O i->¬Z i->H'[i]? = H[i]?) (hr:∀i,Z i->Z' i/\bp H' i=bp H i)
 (ho:∀i,J i->O i\/H.length<=i) (hz:∀i,Z' i->Z i\/O i\/H.length<=i):JI X st F ν O0 Z0 H0 B ps U W step o Y more w J Z' H':=by
 obtain⟨m,S,I,T,r,ej,d1,d2,l1,l2,l3,l4,l5,l6,l7⟩:=j;have z  := λi u=>D i (r.lt  u) (λh=>(d1 i h).1 u) (λh=>(d2 i h).1 u)
 have C:∀i,I i->bp H' i=bp H i:=λi u=>by
  by_cases G:Z i
  .grind
  unfold bp;rw[D i (r.uZ u) (λh=>(d1 i h).2.1 u) G]
 have aa  := (ζe.1 l4).1;refine⟨m,S,I,T,r.heap z C,?_,λi h=>?_,λi h=>?_,l1,l2,l3,?_,l5,l6,l7⟩
 .obtain⟨j1,L,j3,j4,j5,j6⟩:=ej;refine⟨j1,Nat.le_trans L hl,λi h1 h2 Q=>?_,λi h=>⟨(j4 i h).1,by grind⟩,j5,j6⟩
  rw[D i (Nat.lt_of_lt_of_le h1 L) (λh=>by have:=(d1 i h).2.2.2;omega) (λh=>by rcases (d2 i h).2.2 with h|h;exact Q h;omega),j3 i h1 h2 Q]
 .rcases ho i h with h|h
  .exact d1 i h
  exact⟨λu=>absurd (r.lt  u) Za,λu=>absurd (r.uZ u) Za,by omega,by omega⟩
 .rcases hz i h with h|h|h
  .exact d2 i h
  .exact⟨(d1 i h).1,(d1 i h).2.2.1,.inr (d1 i h).2.2.2⟩
  exact⟨λu=>absurd (r.lt  u) Za,by omega,.inr Za⟩
 grind
theorem JI.yield (S:Sys) {A B:St->Option (Out×St)} {aw bw:Code} (hA:rO X S true aw A) (hB:rO X S true bw B) {D:Nat} {ps:List Nat} (ay:ps.all (·<X.nt)=true) {o:Out} {mf:Tb bG} {more:Bool}
 {x:List V} {ws:List (List V)} {O Z:Nat->Prop} {H:bl} {args:List V} (j:JI X st F ν O0 Z0 H0 D ps aw bw (iK ps A B st) o mf more (x::ws) O Z H)
 (hx:dm H Z x args) (ao:∀i,Z i->(bp H i).isSome=true) (aA:Deep H Z) (aB:∀i,O i->¬Z i/\i<H.length) :
 ∃n H',run S.E n (.yld D) args H=some (.bool (more || !ws.isEmpty),H')/\JI X st F ν O0 Z0 H0 D ps aw bw (iK ps A B st) o mf more ws O Z H'/\H.length<=H'.length/\(∀i,O i->H'[i]? = H[i]?)/\(∀i,Z i->bp H' i=bp H i):=by
 obtain⟨m,νb,Zb,lr,r,ej,d1,d2,l1,l2,l3,l4,⟨q1,q2,q3,q4,q5⟩,l6,l7⟩:=j;have aC:vA (iK ps A B st) o mf (x::ws) more m/\lr.st=.ready/\lr.pend=none:=by
  grind
 obtain⟨hE,U,aD⟩:=aC;have W:∃oo m1,iK ps A B st x m=some (oo,m1)/\(oo=.norm/\vA (iK ps A B st) o mf ws more m1/\(more || !ws.isEmpty)=true\/oo≠.norm/\oo=o/\m1=mf/\ws=[]/\more=false):=by
  cases hE with
  | next _ _ _ _ m1 h hr=>
   refine⟨.norm,m1,h,.inl ⟨rfl,hr,?_⟩⟩;cases hr <;> simp
  | last _ _ h ho=>grind
 obtain⟨oo,m1,z,ad⟩:=W;unfold iK at z;split at z
 .rename_i ae;split at z
  .rename_i ai aE;obtain⟨⟨C,st2⟩,aF,e⟩:=ζf.1 z;simp  at e;obtain⟨rfl,rfl⟩:=e;have aG  := (ζe.1 l4).1;have r1  := r.UR (λi u=>(d2 i u).1) ao aA
   have aH:dm H (λi=>Zb i\/Z i) x args:=hx.mono λi u=>⟨.inr u,rfl⟩
   have r2:=R.TE (st:=P4 st m) r1 aH ae;obtain⟨nA,F2,H2,ν2,Z2,a1,a2,a3,a4⟩:=hA _ _ _ aE (tM (fA νb m) (λi=>Zb i\/Z i) H) νb _ _ H tM.yc r2 (tM.refl  r1)
   obtain⟨b1,b2,b3,b4,b5,b6⟩:=a3;have aj:¬(Zb D\/Z D):=λh=>h.elim l2 λh=>(d2 D h).2.1 rfl
   have ap:H2[D]? = some (.loop lr):=by rw[b3 D aG l1 aj];omega
   have af:D<H2.length:=by omega
   have Y:¬fA ν2 ai.m D:=λh=>(b5 D h).elim l1 λh=>by omega
   have ak:¬Z2 D:=λh=>by rcases b6 D h with h|h|h;exact aj h;exact l1 h;omega
   have w:∀(ob:Ob) (Hh:bl) (i:Nat),i≠D->(Hh.set D ob)[i]? = Hh[i]? := λob Hh i aa=>by rw[List.getElem?_set,if_neg (Ne.symm aa)]
   have r3:R ν2 Z2 ai F2 (H2.set D (.loop { lr with st:=.busy })):=a2.heap (λi u=>w _ _ i λe=>Y (e▸u)) (λi u=>by unfold bp;rw[w _ _ i λe=>ak (e▸u)])
   obtain⟨nB,F4,H4,ν4,Z4,c1,c2,c3,c4⟩:=hB _ _ _ aF (tM (fA ν2 ai.m) Z2 (H2.set D (.loop { lr with st:=.busy }))) ν2 Z2 F2 _ tM.yc r3 (by
    rw[b1];exact tM.refl r3)
   obtain⟨_,g2,g3,g4,g5,g6⟩:=c3;simp  at g2 g3 g5 g6;have aq:H4[D]? = some (.loop { lr with st:=.busy }):=by rw[g3 D af Y ak,List.getElem?_set_self af]
   have ar:D<H4.length:=by omega
   have au  := λh=>(g5 D h).elim Y λh=>by omega
   have av:¬Z4 D:=λh=>by rcases g6 D h with h|h|h;exact ak h;exact Y h;omega
   generalize ab:({ lr with st:=(if C==.norm then AR.ready else AR.done),pend:=(if C==.norm then none else some C) }:uU)=I;have r5:R ν4 Z4 st2 F4 (H4.set D (.loop I)):=c2.heap (λi u=>w _ _ i λe=>au (e▸u)) (λi u=>by unfold bp;rw[w _ _ i λe=>av (e▸u)])
   have Q:H.length<=(H4.set D (.loop I)).length:=by simp ;omega
   have al:∀i,i<H.length->i≠D->¬fA νb m i->¬(Zb i\/Z i)->(H4.set D (.loop I))[i]? = H[i]? := λi h1 L J h4=>by
    rw[w _ _ i L,g3 i Za (λh=>(b5 i h).elim J λh=>by omega) (λh=>by rcases b6 i h with h|h|h;exact h4 h;exact J h;omega),w _ _ i L,b3 i h1 J h4]
   have G:∀i,(Zb i\/Z i)->Z4 i/\bp (H4.set D (.loop I)) i=bp H i:=λi u=>by
    have aa:i≠D:=λe=>aj (e▸u)
    obtain⟨t1,t2⟩:=b4 i u;obtain⟨t3,t4⟩:=g4 i t1;refine⟨t3,?_⟩;rw[<-t2];have:bp (H2.set D (.loop { lr with st:=.busy })) i=bp H2 i:=by unfold bp;rw[w _ _ i aa]
    rw[<-this,<-t4];unfold bp;rw[w _ _ i aa]
   have T:∀i,fA ν4 st2.m i->fA νb m i\/H.length<=i:=λi u=>by
    rcases g5 i u with h|h
    .exact b5 i h
    exact .inr Za
   have ah:∀i,Z4 i->(Zb i\/Z i)\/fA νb m i\/H.length<=i:=λi u=>by
    rcases g6 i u with h|h|h
    .exact b6 i h
    .rcases b5 i h with h|h
     .exact .inr (.inl h)
     exact .inr (.inr h)
    exact .inr (.inr Za)
   have fx:=a4.trans c4;have r6:R ν4 Z4 (P4 st st2.m) F (H4.set D (.loop I)):=⟨λs sv hs=>(r.slot s sv hs).mono (λi u=>G i (.inl u)) λd hd am an=>fx.pin d (List.mem_append_right _ (AM hs hd)) am an,r5.obj,r5.inj,r5.apart,r5.zrow,r5.deep⟩
   have ax:run S.E (max nA nB+1) (.yld D) args H=some (.bool (C==.norm),H4.set D (.loop I)):=by
    simp only[run,jx,l4];rw[if_pos (by rw[q3];exact⟨by rw[<-hx.1];exact ae,by rw[q2];exact ay⟩)]
    rw[q1,q2,q3,q4,q5];rw[a1 _ (Nat.le_max_left _ _)];simp only[ap,U];rw[c1 _ (Nat.le_max_right _ _)];simp only[aq];rw[<-ab]
   refine⟨max nA nB+1,H4.set D (.loop I),?_,⟨st2.m,ν4,Z4,I,r6,?_,λi u=>?_,λi u=>?_,au,av,l3,?_,?_,λd hd am an=>?_,?_⟩,Q,λi u=>?_,λi u=>(G i (.inr u)).2⟩
   .rw[ax];rcases ad with⟨h1,_,J⟩|⟨h1,_,_,h4,h5⟩
    .rw[h1,J];rfl
    rw[h4,h5]
    cases aI:C with
    | norm=>exact absurd aI h1
    | _=>rfl
   .obtain⟨j1,j2,j3,j4,j5,j6⟩:=ej;refine⟨rfl,Nat.le_trans j2 Q,λi h1 L J=>?_,λi h=>⟨(G i (.inl (j4 i h).1)).1,by rw[(G i (.inl (j4 i h).1)).2,(j4 i h).2]⟩,λi h=>?_,λi h=>?_⟩
    .rw[al i Za Za (λh=>by rcases j5 i h with h|h;exact L h;omega) (λh=>by
      rcases h with h|h
      .rcases j6 i h with h|h|h;exact J h;exact L h;omega
      rcases (d2 i h).2.2 with h|h;exact J h;omega),j3 i h1 L J]
    .rcases T i h with h|h
     .exact j5 i h
     exact .inr Za
    rcases ah i h with (h|h)|h|h
    .exact j6 i h
    .rcases (d2 i h).2.2 with h|h;exact .inl h;exact .inr (.inr h)
    .rcases j5 i h with h|h;exact .inr (.inl h);exact .inr (.inr h)
    exact .inr (.inr Za)
   .obtain⟨t1,t2⟩:=aB i u;obtain⟨t3,t4,t5,t6⟩:=d1 i u;refine⟨λh=>(T i h).elim t3 λh=>by omega,λh=>?_,t5,t6⟩
    rcases ah i h with (h|h)|h|h
    .exact t4 h
    .exact t1 h
    .exact t3 h
    omega
   .obtain⟨t1,t2,t3⟩:=d2 i u;have aK:i<H.length:=by
     have:=ao i u;unfold bp at this
     cases hh:H[i]? with
     | none=>rw[hh]at this;simp at this
     | some _=>exact(ζe.1 hh).1
    exact⟨λh=>(T i h).elim t1 λh=>by omega,t2,t3⟩
   .rw[List.getElem?_set_self ar]
   .subst ab;exact⟨q1,q2,q3,q4,q5⟩
   .obtain⟨aJ,h1,L,J⟩:=fx.pin d hd am an;obtain⟨ob,k1,k2,k3⟩:=l6 d hd aJ h1;exact⟨ob,k1,by rw[L,k2],k3.trans J⟩
   .rcases ad with⟨h1,L,J⟩|⟨h1,L,J,h4,h5⟩
    .left;subst h1;subst ab;exact⟨L,rfl,rfl⟩
    right;subst ab;have hb:¬(C==Out.norm)=true:=by simpa using h1
    refine⟨h4,J,?_,?_⟩
    .show (if(C==Out.norm)=true then AR.ready else AR.done)=AR.done;rw[if_neg hb]
    show (if(C==Out.norm)=true then none else some C)=some o;rw[if_neg hb,L]
   grind
  grind
 grind
end
section
variable {ν ν' ν2:Nu} {Z Z':Nat->Prop} {st st' st2:St} {m m':Tb bG} {F F':Frame} {H H' H1:bl} {S:Sys} {c:ck} {X:CX} {J:JT}
theorem LC (gd:Good X S) (O:jo S c) {ro:Bool} {id:Nat} {ops:Array Oper} {l:List RO} (hc:kN X true ops.toList 0 ops.toList=some (l.map RO.strip)) (G:(vo ops.toList&&yQ ops.toList)=true) :
 rO X S ro (.region id ops true) (λst=>(mM S c true [] l st).map λst=>(.norm,st)):=by
 intro st o st' h J ν Z F H y r j;obtain⟨L,h1,e⟩:=ζf.1 h;simp only[ζc]at e;obtain⟨rfl,rfl⟩:=e;generalize z:(if qP ops.toList then H++List.replicate ops.toList.length .free else H)=H0;generalize hk:(if qP ops.toList then ops.toList.length else 0)=k;have w:∀i,i<H.length->H0[i]? = H[i]? := λi u=>by
  rw[<-z];split
  .exact List.getElem?_append_left u
  rfl
 have B:H.length<=H0.length:=by rw[<-z];split <;> simp
 have Q:R ν Z st F H0:=r.heap (λi u=>w i (r.lt u)) (λi u=>by unfold bp;rw[w i (r.uZ u)])
 have C:∀q,0<=q->q<k->H0[H.length+q]? = some .free:=λq _ D=>by
  rw[<-hk]at D;split at D
  .rename_i I;rw[<-z,if_pos I,List.getElem?_append_right Za]
   simp only[Nat.add_sub_cancel_left];rw[List.getElem?_replicate,if_pos D]
  omega
 obtain⟨n,F',H',ν',e1,e2,e3,e4,e5⟩:=Nk gd O (ops:=ops.toList) (b:=H.length) (k:=k) (λI=>by rw[<-hk,if_pos I]) ops.toList.length (i:=0) (fr:=[]) Za (by simpa using hc) h1 Q B
  ⟨λd ob G T _=>r.lt ⟨d,ob,G,T,rfl⟩,λi u=>r.uZ u⟩ C
 refine⟨n,F',H',ν',Z,λq D=>?_,e2,?_,e5⟩
 .simp only[exec,jk,if_true,G,ζf,ζc,true_and];refine⟨(F',H'),?_,rfl,rfl⟩;rw[z];have:=e1 q D;rw[List.range_eq_range'];exact this
 rw[e4];refine y.wL _ _ _ _ _ _ _ j (Nat.le_trans B e3.len) (λi h1 U W=>by rw[e3.same i Za U W Za,w i h1]) (λi u=>⟨u,by rw[(e3.rows i u).2];unfold bp;rw[w i (r.uZ u)]⟩) (λi u=>?_) (λi u=>.inl u)
 rcases e3.own i u with h|h|h
 .exact .inl h
 .exact .inr h
 exact .inr Za
theorem RS {ro:Bool} {code:Code} {f:St->Option (Out×St)} (U:rO X S ro code f):rO X S ro (.loop code) (nZ f):=by
 intro st o st' h J ν Z F H y r j;obtain⟨k,hk⟩:=mH.1 h;have key:∀k st ν Z F H,jc f k st=some (o,st')->Yc S J st.more st.yid->R ν Z st F H->J st.want (fA ν st.m) Z H ->
  ∃n F' H' ν' Z',(∀q,n<=q->∀u,k<=u->kr (exec S.E (run S.E q) q ro X.nt code) u F H=some (o,F',H'))/\R ν' Z' st' F' H'/\J st'.want (fA ν' st'.m) Z' H'/\Fix ν st ν' st':=by
  intro k
  induction k with
  | zero=>intro st ν Z F H h;simp[jc]at h
  | succ k T=>
   intro st ν Z F H h y r j;simp only[jc]at h;split at h
   .rename_i z C;obtain⟨D,F1,H1,G,I,a1,L,O,B⟩:=U st .norm z C J ν Z F H y r j;obtain⟨W,Y,H2,ν2,Z2,b1,b2,b3,b4⟩:=T z G I F1 H1 h (by rw[B.more,B.yid];exact y) L O
    refine⟨max D W,Y,H2,ν2,Z2,λq w u Q=>?_,b2,b3,B.trans b4⟩
    cases u with
    | zero=>omega
    | succ u=>
     simp only[kr,a1 q (Nat.le_trans (Nat.le_max_left _ _) w)];exact b1 q (Nat.le_trans (Nat.le_max_right _ _) w) u Za
   rename_i C;obtain⟨D,F1,H1,G,I,a1,L,O,B⟩:=U st o st' h J ν Z F H y r j;have ho:o≠.norm:=λe=>by subst e;exact C st' h
   refine⟨D,F1,H1,G,I,λq w u Q=>?_,L,O,B⟩
   cases u with
   | zero=>omega
   | succ u=>
    simp only[kr,a1 q w];cases o <;> first|exact absurd rfl ho|rfl
 obtain⟨n,F',H',ν',Z',e1,e2,e3,e4⟩:=key k st ν Z F H hk y r j;refine⟨max n k,F',H',ν',Z',λq w=>?_,e2,e3,e4⟩
 simp only[exec];exact e1 q (Nat.le_trans (Nat.le_max_left _ _) w) q (Nat.le_trans (Nat.le_max_right _ _) w)
theorem RZ (gd:Good X S) (hI:∀f a b xs,S.items f a b=some xs->fH S f a b xs) {g:Operand} {ps:Array Tmp} {W Y:Code} {x:Arg} {A B:St->Option (Out×St)}
 (ab:ps.toList.all (·<X.nt)=true) (hx:pN X.nm g=some x) (hA:rO X S true W A) (hB:rO X S true Y B) :
 rO X S false (.rangeFunc g ps W Y) (λst=>match qh S.N st.g x with
 | some (.v (.clo f x y))=>match S.items f x y with
  | some xs=>(pX (iK ps.toList A B st) xs st.m).map λ(o,m)=>(o,{ st with m:=m })
  | none=>none
 | _=>none):=by
 intro st o st' h J ν Z F H y r j;dsimp only at h;split at h
 .rename_i f a b ad;split at h
  .rename_i xs ae;obtain⟨⟨oo,mf⟩,hE,e⟩:=ζf.1 h;simp only[ζc]at e;obtain⟨rfl,rfl⟩:=e;obtain⟨yv,hy,ry⟩:=Dy gd.N r.slot hx ad;obtain⟨a',b',rfl,ra,rb⟩:=ry.fr.jT;obtain⟨ws,more,T,hR⟩:=Ce hE;generalize L:(⟨.ready,none,F,X.nt,ps.toList,W,Y⟩:uU)=z;have C:∀i,i<H.length->(H++[Ob.loop z])[i]? = H[i]? := λi u=>List.getElem?_append_left u
   have D:∀i,Z i->bp (H++[Ob.loop z]) i=bp H i:=λi u=>by unfold bp;rw[C i (r.uZ u)]
   have r0:R ν Z (P4 st st.m) F (H++[Ob.loop z]):=by
    have:=r.heap (H':=H++[Ob.loop z]) (λi u=>C i (r.lt u)) D
    exact⟨this.slot,this.obj,this.inj,this.apart,this.zrow,this.deep⟩
   have G:∀i,Z i->Z i/\bp (H++[Ob.loop z]) i=bp H i:=λi u=>⟨u,D i u⟩
   have j0:JI X st F ν (fA ν st.m) Z H H.length ps.toList W Y (iK ps.toList A B st) oo mf more ws (λ_=>False) Z (H++[Ob.loop z]):=by
    refine⟨st.m,ν,Z,z,r0,⟨rfl,by simp,λi h1 _ _=>C i h1,λi u=>⟨u,D i u⟩,λi u=>.inl u,λi u=>.inl u⟩,λi u=>u.elim,λi u=>⟨λho=>?_,Nat.ne_of_lt (r.uZ u),.inl u⟩,λho=>absurd (r.lt ho) Zc,λhz=>absurd (r.uZ hz) Zc,Nat.le_refl _,by simp,?_,λd _ af h=>⟨af,h,rfl,.refl _⟩,.inl ⟨hR,?_,?_⟩⟩
    .obtain⟨d,ob,g1,g2,rfl⟩:=ho;exact r.apart d ob g1 g2 u
    .subst L;exact⟨rfl,rfl,rfl,rfl,rfl⟩
    .subst L;rfl
    subst L;rfl
   have ah:Yc S (JI X st F ν (fA ν st.m) Z H H.length ps.toList W Y (iK ps.toList A B st) oo mf more) more H.length:=
    ⟨λw O Z1 H1 O' Z' H' jj h1 h2 h3 h4 h5=>JI.wL jj h1 h2 h3 h4 h5,λx1 aj O Z1 H1 args jj h1 h2 h3 h4=>JI.yield S hA hB ab jj h1 h2 h3 h4⟩
   obtain⟨n,yy,H',O',Z',e1,e2⟩:=hI f a b xs ae ws more T H.length _ ah Z a' b' (H++[Ob.loop z]) (ra.mono G) (rb.mono G) (λi u=>by rw[D i u];exact r.zrow i u) (r.deep.mono D) j0
   obtain⟨m1,νb,Zb,lr,r1,⟨_,k2,k3,k4,k5,k6⟩,_,_,l1,l2,l3,l4,_,l6,l7⟩:=e2;have aa:m1=mf/\(lr.st=.ready\/lr.st=.done)/\lr.pend.getD .norm=oo:=by
    rcases l7 with⟨g1,g2,g3⟩|⟨_,g1,g2,g3⟩
    .cases g1 with
     | nil hn=>
      exact⟨rfl,.inl g2,by rw[g3,hn];rfl⟩
    exact⟨g1,.inr g2,by rw[g3];rfl⟩
   obtain⟨rfl,hst,U⟩:=aa;have ak:H.length<H'.length:=(ζe.1 l4).1;have I:∀i,i≠H.length->(H'.set H.length .dead)[i]? = H'[i]? := λi ai=>by rw[List.getElem?_set,if_neg (Ne.symm ai)]
   have Q:∀i,Zb i->bp (H'.set H.length .dead) i=bp H' i:=λi u=>by unfold bp;rw[I i λe=>l2 (e▸u)]
   have r2:=r1.heap (H':=H'.set H.length .dead) (λi u=>I i λe=>l1 (e▸u)) Q
   refine⟨n,F,H'.set H.length .dead,νb,Zb,λq hq=>?_,⟨r2.slot,r2.obj,r2.inj,r2.apart,r2.zrow,r2.deep⟩,?_,⟨λd hd=>l6 d (List.mem_append_left _ hd),rfl,rfl,rfl⟩⟩
   .simp only[exec,hy];rw[L,e1 q hq];simp only[l4];rcases hst with hst|hst <;> rw[hst] <;> simp only[U]
   refine y.wL _ _ _ _ _ _ _ j (by simp only[List.length_set];omega) (λi h1 h2 h3=>by rw[I i Za,k3 i h1 h2 h3]) (λi u=>⟨(k4 i u).1,by rw[Q i (k4 i u).1,(k4 i u).2]⟩) k5 k6
  simp at h
 simp at h
end
end Go.VE
