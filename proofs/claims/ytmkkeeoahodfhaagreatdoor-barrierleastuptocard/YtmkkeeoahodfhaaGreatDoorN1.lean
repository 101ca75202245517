/-
 The second layer: named objects in the place of rows; texts, calls, iterators.
-/
import Derived.Test.YtmkkeeoahodfhaaGreatDoorV2
set_option linter.all false
namespace Go.VE
variable [bN]
inductive Fl where|nil|emp|row|part
 deriving DecidableEq,Inhabited
inductive SV where
 | v (x:V)
 | own (d:Nat)
 | ptr (d off:Nat)
 | el (d i off:Nat)
 | mp (d:Nat)
 | clo (f:FuncId) (a b:List SV)
 | tup (l:List SV)
 | agg (l:List SV)
 | yl (id:Nat)
 deriving Inhabited
inductive bD where
 | sl (k:Fl) (es:Nat) (xs:List (List V))
 | box (cs:List SV)
 | mp (kvs:List (V×V))
abbrev Tb (α:Type):=List (Nat×α)
def bg {α:Type}:Tb α->Nat->Option α
 | [],_=>none
 | (k,v)::r,n=>if k=n then some v else bg r n
def bJ {α:Type}:Tb α->Nat->α->Tb α
 | [],n,v=>[(n,v)]
 | (k,x)::r,n,v=>if k=n then(k,v)::r else(k,x)::bJ r n v
def dH {α:Type} (n:Nat):Tb α->Tb α
 | []=>[]
 | (k,x)::r=>if k=n then dH n r else(k,x)::dH n r
def nW {α:Type}:List Nat->Tb α->Tb α
 | [],g=>g
 | d::ds,g=>nW ds (dH d g)
def uT {α:Type}:Tb α->List Nat->List α->Tb α
 | g,p::ps,v::vs=>uT (bJ g p v) ps vs
 | g,_,_=>g
def qT {α:Type} (g:Tb α):List Nat->Option (Tb α)
 | []=>some []
 | n::r=>match bg g n,qT g r with
  | some v,some t=>some ((n,v)::t)
  | _,_=>none
structure St where
 g:Tb SV
 m:Tb bD
 pin:List Nat
 want:List (List V)
 more:Bool
 yid:Nat
structure Dl where
 part:Bool
 go:Nat->List (List V)->List V->Option (List (List V))
structure Sys where
 E:Env
 N:Nat->FuncId
 items:FuncId->List V->List V->Option (List (List V))
 xq:FuncId->List V->Option V
 prm:FuncId->Option Dl
inductive Arg where
 | s (n:Nat)
 | k (c:V)
 | f (name:Nat)
inductive Loc where
 | s (n:Nat)
 | c (b i:Nat)
inductive Gh where
 | close (d:Nat)
 | closeB (d:Nat)
 | canon (l:Loc) (d:Nat) (es:Nat)
 | keep (gs ms:List Nat)
 | drop (ds:List Nat)
 | closeS (l:Loc)
structure RO where
 dst:Option Nat
 gd:Option (Nat×Bool)
 now:Bool
 k:K
 az:List Arg
 dead:List Nat:=[]
 pre:List Gh:=[]
inductive RC where
 | skip
 | ops (l:List RO)
 | nR (l:List RO)
 | seq (a b:RC)
 | cond (x:Arg) (a b:RC)
 | block (id:Nat) (c:RC)
 | loop (c:RC)
 | each (g:Arg) (ps:List Nat) (a b:RC)
 | exit (id:Nat)
 | ret
 | gh (x:Gh) (c:RC)
 | hg (c:RC) (x:Gh)
inductive RV where
 | s (n:Nat)
 | ld (n size:Nat) (agg:Bool)
structure RF where
 na:Nat
 rs:List RV
 body:RC
mutual
def SV.cU (d:Nat):SV->Bool
 | .v _=>false
 | .own e=>e==d
 | .ptr e _=>e==d
 | .el e _ _=>e==d
 | .mp e=>e==d
 | .clo _ a b=>SV.dy d a||SV.dy d b
 | .tup l=>SV.dy d l
 | .agg l=>SV.dy d l
 | .yl _=>false
def SV.dy (d:Nat):List SV->Bool
 | []=>false
 | x::r=>SV.cU d x||SV.dy d r
end
def bD.cU (d:Nat):bD->Bool
 | .box cs=>SV.dy d cs
 | _=>false
def tw (d:Nat):Tb SV->Bool
 | []=>false
 | (_,x)::r=>SV.cU d x||tw d r
def qL (d:Nat):Tb bD->Bool
 | []=>false
 | (_,x)::r=>bD.cU d x||qL d r
def St.new (st:St) (d:Nat):Bool := !(st.pin.contains d)&&(bg st.m d).isNone && !(tw d st.g) && !(qL d st.m)
mutual
def SV.sW (d e:Nat):SV->SV
 | .v x=>.v x
 | .own k=>.own (if k=d then e else k)
 | .ptr k o=>.ptr (if k=d then e else k) o
 | .el k i o=>.el (if k=d then e else k) i o
 | .mp k=>.mp (if k=d then e else k)
 | .clo f a b=>.clo f (SV.ta d e a) (SV.ta d e b)
 | .tup l=>.tup (SV.ta d e l)
 | .agg l=>.agg (SV.ta d e l)
 | .yl id=>.yl id
def SV.ta (d e:Nat):List SV->List SV
 | []=>[]
 | x::r=>SV.sW d e x::SV.ta d e r
end
def bD.sW (d e:Nat):bD->bD
 | .box cs=>.box (SV.ta d e cs)
 | o=>o
def yw (d e:Nat):Tb SV->Tb SV
 | []=>[]
 | (n,x)::r=>(n,x.sW d e)::yw d e r
def tc (d e:Nat):Tb bD->Tb bD
 | []=>[]
 | (n,x)::r=>((if n=d then e else n),x.sW d e)::tc d e r
mutual
def SV.sub (d:Nat) (w:V):SV->SV
 | .own k=>if k=d then .v w else .own k
 | .clo f a b=>.clo f (SV.s8 d w a) (SV.s8 d w b)
 | .tup l=>.tup (SV.s8 d w l)
 | .agg l=>.agg (SV.s8 d w l)
 | x=>x
def SV.s8 (d:Nat) (w:V):List SV->List SV
 | []=>[]
 | x::r=>SV.sub d w x::SV.s8 d w r
end
def dn:List SV->Option (List V)
 | []=>some []
 | .v x::r=>(dn r).map (x::·)
 | _::_=>none
def MY (f:FuncId) (a b:List SV):SV:=
 match dn a,dn b with
 | some x,some y=>.v (.clo f x y)
 | _,_=>.clo f a b
mutual
def SV.Ab (d:Nat) (cs:List V):SV->SV
 | .ptr k o=>if k=d then(if o<=cs.length then .v (.fptr (cs.drop o))else .ptr k o)else .ptr k o
 | .clo f a b=>MY f (SV.pR d cs a) (SV.pR d cs b)
 | .tup l=>.tup (SV.pR d cs l)
 | .agg l=>.agg (SV.pR d cs l)
 | x=>x
def SV.pR (d:Nat) (cs:List V):List SV->List SV
 | []=>[]
 | x::r=>SV.Ab d cs x::SV.pR d cs r
end
def Ai (f:SV->SV):Tb SV->Tb SV
 | []=>[]
 | (n,x)::r=>(n,f x)::Ai f r
def mapM (f:List SV->List SV):Tb bD->Tb bD
 | []=>[]
 | (n,.box cs)::r=>(n,.box (f cs))::mapM f r
 | (n,o)::r=>(n,o)::mapM f r
mutual
def SV.names:SV->List Nat
 | .own d|.ptr d _|.el d _ _|.mp d=>[d]
 | .clo _ a b=>SV.uv a++SV.uv b
 | .tup l=>SV.uv l
 | .agg l=>SV.uv l
 | _=>[]
def SV.uv:List SV->List Nat
 | []=>[]
 | x::r=>SV.names x++SV.uv r
end
def oA:Tb SV->List Nat
 | []=>[]
 | (_,x)::r=>SV.names x++oA r
def nu (k:Fl) (es:Nat) (xs:List (List V)):V:=
 match k with
 | .nil=>.bB
 | .emp=>.dg
 | _=>.fsl es xs
mutual
def V.lvl:Nat->V->Bool
 | n,.fsl _ xs=>match n with|0=>false|n+1=>V.nS n xs
 | n,.fptr cs=>match n with|0=>false|n+1=>V.jX n cs
 | n,.fmap B=>match n with|0=>false|n+1=>V.qW n B
 | n,.agg cs=>match n with|0=>false|n+1=>V.jX n cs
 | n,.tup cs=>match n with|0=>false|n+1=>V.jX n cs
 | n,.clo _ a b=>match n with|0=>false|n+1=>V.jX n a&&V.jX n b
 | _,_=>true
def V.jX:Nat->List V->Bool
 | _,[]=>true
 | n,x::r=>V.lvl n x&&V.jX n r
def V.nS:Nat->List (List V)->Bool
 | _,[]=>true
 | n,x::r=>V.jX n x&&V.nS n r
def V.qW:Nat->List (V×V)->Bool
 | _,[]=>true
 | n,(k,x)::r=>V.lvl n k&&V.lvl n x&&V.qW n r
end
mutual
def shut (m:Tb bD):Nat->SV->Option V
 | _,.v x=>some x
 | _,.own d=>match bg m d with
  | some (.sl k es xs)=>some (nu k es xs)
  | _=>none
 | n+1,.ptr d o=>match bg m d with
  | some (.box cs)=>match cS m n cs with
   | some xs=>if o<=xs.length then some (.fptr (xs.drop o))else none
   | none=>none
  | _=>none
 | _,.mp d=>match bg m d with
  | some (.mp B)=>some (.fmap B)
  | _=>none
 | n+1,.clo f a b=>match cS m n a,cS m n b with
  | some x,some y=>some (.clo f x y)
  | _,_=>none
 | n+1,.tup l=>(cS m n l).map .tup
 | n+1,.agg l=>(cS m n l).map .agg
 | _,_=>none
def cS (m:Tb bD):Nat->List SV->Option (List V)
 | _,[]=>some []
 | n,x::r=>match shut m n x,cS m n r with
  | some y,some s=>some (y::s)
  | _,_=>none
end
end Go.VE
namespace Go.VE
variable [bN]
mutual
def V.good:V->Bool
 | .hsl ..|.hptr ..|.yld ..|.hmap ..=>false
 | .fsl _ xs=>V.ny xs
 | .fptr cs=>V.cq cs
 | .fmap B=>V.rj B
 | .clo _ a b=>V.cq a&&V.cq b
 | .agg cs=>V.cq cs
 | .tup cs=>V.cq cs
 | _=>true
def V.cq:List V->Bool
 | []=>true
 | x::r=>V.good x&&V.cq r
def V.ny:List (List V)->Bool
 | []=>true
 | x::r=>V.cq x&&V.ny r
def V.rj:List (V×V)->Bool
 | []=>true
 | (k,x)::r=>V.good k&&V.good x&&V.rj r
end
abbrev eW:=Tb bD
abbrev cg:=FuncId->List SV->eW->Option (List SV×eW)
def pe (N:Nat->FuncId) (g:Tb SV):Arg->Option SV
 | .s n=>bg g n
 | .k c=>some (.v c)
 | .f s=>some (.v (.clo (N s) [] []))
def bV (N:Nat->FuncId) (g:Tb SV):List Arg->Option (List SV)
 | []=>some []
 | x::r=>match pe N g x,bV N g r with
  | some v,some vs=>some (v::vs)
  | _,_=>none
def cw:Fl->Bool
 | .row|.part=>true
 | _=>false
def jV (m:Tb bD):SV->Bool
 | .own d|.ptr d _|.el d _ _|.mp d=>(bg m d).isSome
 | .clo ..=>true
 | _=>false
def uK (m:Tb bD):SV->Bool
 | .v x=>x.one
 | x=>jV m x
def vS (m:Tb bD):SV->Option (List SV)
 | .v x=>some (x.cells.map .v)
 | .agg l=>some l
 | x=>if jV m x then some [x]else none
def qQ (m:Tb bD) (cells:List SV):List (Nat×Nat)->List SV->Option (List SV)
 | [],[]=>some cells
 | (off,size)::pl,v::vs=>match vS m v with
  | some c=>if c.length=size/\off+c.length<=cells.length then qQ m (cells.take off++c++cells.drop (off+c.length)) pl vs else none
  | none=>none
 | _,_=>none
def sj (size:Nat) (agg:Bool) (cs:List SV):Option SV:=
 if cs.length=size then
  if agg then match dn cs with
   | some t=>some (.v (.agg t))
   | none=>some (.agg cs)
  else match cs with
   | [x]=>some x
   | _=>none
 else none
def u5 (N:Nat->FuncId) (m:Tb bD):tf->List SV->Option SV
 | .id,[x]=>some x
 | .nilc,[.ptr d o]=>if(bg m d).isSome then some (.ptr d o)else none
 | .nilc,[.el d i o]=>if(bg m d).isSome then some (.el d i o)else none
 | .pick,[.v (.bool t),a,b]=>some (if t then a else b)
 | .bin (some .slice) _ .eql,[.own d,.v .bB]=>match bg m d with
  | some (.sl k _ _)=>if k=.emp then none else some (.v (.bool (k==.nil)))
  | _=>none
 | .bin (some .slice) _ .neq,[.own d,.v .bB]=>match bg m d with
  | some (.sl k _ _)=>if k=.emp then none else some (.v (.bool (!(k==.nil))))
  | _=>none
 | .fieldAddr off,[.ptr d o]=>if(bg m d).isSome then some (.ptr d (o+off))else none
 | .fieldAddr off,[.el d i o]=>if(bg m d).isSome then some (.el d i (o+off))else none
 | .idxS size,[.own d,.v (.int _ i)]=>match bg m d with
  | some (.sl k es xs)=>if cw k/\es=size/\0<=i/\i.toNat<xs.length then some (.el d i.toNat 0)else none
  | _=>none
 | .idxA len size,[.ptr d o,.v (.int _ i)]=>if 0<=i/\i<len/\(bg m d).isSome then some (.ptr d (o+i.toNat*size))else none
 | .idxA len size,[.el d j o,.v (.int _ i)]=>if 0<=i/\i<len/\(bg m d).isSome then some (.el d j (o+i.toNat*size))else none
 | .lenSl,[.own d]=>match bg m d with
  | some (.sl _ _ xs)=>some (.v (.int .i64 xs.length))
  | _=>none
 | .clo name k,vs=>some (.clo (N name) (vs.take k) (vs.drop k))
 | .ext i,[.tup l]=>l[i]?
 | .build zero pl,vs=>(qQ m (zero.map .v) pl vs).map .agg
 | .field off size agg,[.agg l]=>sj size agg ((l.drop off).take size)
 | _,_=>none
def je (N:Nat->FuncId) (m:Tb bD) (p:tf) (svs:List SV):Option SV:=
 match dn svs with
 | some t=>(bh N p t).map .v
 | none=>u5 N m p svs
def Iy (m:Tb bD) (d:Nat):SV->Bool
 | .ptr B _=>B != d&&(match bg m B with|some (.box _)=>true|_=>false)
 | .v (.fptr _)=>true
 | _=>false
def lB (m:Tb bD):GX->List SV->Option SV
 | .load size agg,[.ptr d o]=>match bg m d with
  | some (.box cs)=>sj size agg ((cs.drop o).take size)
  | _=>none
 | .load size agg,[.el d i o]=>match bg m d with
  | some (.sl _ _ xs)=>match xs[i]? with
   | some cs=>((cut cs o size).bind (mk agg)).map .v
   | none=>none
  | _=>none
 | .load size agg,[.v p]=>((dL [] p size).bind (mk agg)).map .v
 | .lookup kk z ok,[.mp d,.v k]=>match bg m d with
  | some (.mp B)=>if oq kk k then match gA k B 0 with
   | some (some (_,v))=>some (.v (if ok then .tup [v,.bool true]else v))
   | some none=>some (.v (if ok then .tup [z,.bool false]else z))
   | none=>none
   else none
  | _=>none
 | .lookup kk z ok,[.v p,.v k]=>(ey [] (.lookup kk z ok) [p,k]).map .v
 | .loadF size agg,.ptr d o::l=>if l.all (Iy m d)=true then match bg m d with
  | some (.box cs)=>sj size agg ((cs.drop o).take size)
  | _=>none
  else none
 | _,_=>none
def ei (fr:List Nat):List SV->Bool
 | []=>true
 | .v _::r=>ei fr r
 | .ptr d _::r => !(fr.contains d)&&ei fr r
 | .el d _ _::r => !(fr.contains d)&&ei fr r
 | .mp d::r => !(fr.contains d)&&ei fr r
 | _=>false
def mg (m:Tb bD) (a:JA) (svs:List SV) (d:Nat):Option (bD×SV):=
 match a,svs with
 | .alloc _ zero,[]=>some (.box (zero.map .v),.ptr d 0)
 | .box,[.v x]=>if x.cells.all V.one then some (.box (x.cells.map .v),.ptr d 0)else none
 | .box,[.agg l]=>if l.all (uK m)then some (.box l,.ptr d 0)else none
 | .box,[x]=>if jV m x then some (.box [x],.ptr d 0)else none
 | .makeSl size zero,[.v (.int k n),.v (.int u c)]=>
  if k=.i64/\u=.i64/\0<=n/\n<=c/\c<=2147483648 then some (.sl (if n=c then .row else .part) size (List.replicate n.toNat zero),.own d)else none
 | .buildSl size len zero idx,w=>match dn w with
  | some t=>if idx.length=t.length then(fQ size (List.replicate len zero) (idx.zip t)).map λz=>(.sl .row size z,.own d)else none
  | none=>none
 | .makeMap,[]=>some (.mp [],.mp d)
 | _,_=>none
def jq (m:Tb bD) (size:Nat):SV->Option (List (List V))
 | .own d=>match bg m d with
  | some (.sl k es xs)=>if cw k then(if es=size then some xs else none)else some []
  | _=>none
 | .v .bB=>some []
 | .v .dg=>some []
 | .v (.fsl es xs)=>if es=size then some xs else none
 | _=>none
def ES:SV->Bool
 | .own _|.v .bB|.v .dg=>true
 | _=>false
def putCells (m:Tb bD) (size o:Nat) (sv:SV) (cs:List SV):Option (List SV):=
 match sv with
 | .v x=>if x.cells.length=size/\o+size<=cs.length/\x.cells.all V.one=true then some (cs.take o++x.cells.map .v++cs.drop (o+size))else none
 | .agg l=>if l.length=size/\o+size<=cs.length/\l.all (uK m)=true then some (cs.take o++l++cs.drop (o+size))else none
 | x=>if jV m x=true/\size=1/\o+1<=cs.length then some (cs.take o++[x]++cs.drop (o+1))else none
def giveUp (m:Tb bD):SV->Tb bD
 | .own d=>dH d m
 | _=>m
def kR (st:St) (dst:Option Nat):Hg->List SV->Option (SV×St)
 | .store size,[.ptr d o,x]=>match bg st.m d with
  | some (.box cs)=>(putCells st.m size o x cs).map λcs=>(.v .undef,{ st with m:=bJ st.m d (.box cs) })
  | _=>none
 | .store size,[.el d i o,.v x]=>match bg st.m d with
  | some (.sl k es xs)=>match xs[i]? with
   | some cs=>if x.cells.length=size/\o+size<=cs.length/\x.cells.all V.one=true then
    some (.v .undef,{ st with m:=bJ st.m d (.sl k es (xs.set i (cs.take o++x.cells++cs.drop (o+x.cells.length)))) })else none
   | none=>none
  | _=>none
 | .mapUp kk,[.mp d,.v k,.v x]=>match bg st.m d with
  | some (.mp B)=>if oq kk k then(oI k x B).map λB=>(.v .undef,{ st with m:=bJ st.m d (.mp B) })else none
  | _=>none
 | .append size,[s,x]=>match jq st.m size s,jq st.m size x with
  | some _,some []=>match dst with
   | some t=>match s with
    | .own d=>match bg st.m d with
     | some ob=>if St.new { st with m:=dH d st.m } t then some (.own t,{ st with m:=bJ (dH d st.m) t ob })else none
     | none=>none
    | .v .bB=>if st.new t then some (.own t,{ st with m:=bJ st.m t (.sl .nil size []) })else none
    | .v .dg=>if st.new t then some (.own t,{ st with m:=bJ st.m t (.sl .emp size []) })else none
    | _=>none
   | none=>none
  | some xs,some ys=>
   if xs.length+ys.length<=2147483648/\ES s=true then
    let m1:=giveUp st.m s
    match dst with
    | some t=>if St.new { st with m:=m1 } t then some (.own t,{ st with m:=bJ m1 t (.sl .row size (xs++ys)) })else none
    | none=>none
   else none
  | _,_=>none
 | .storeF size,.ptr d o::x::l=>if l.all (Iy st.m d)=true then match bg st.m d with
  | some (.box cs)=>(putCells st.m size o x cs).map λcs=>(.v .undef,{ st with m:=bJ st.m d (.box cs) })
  | _=>none
  else none
 | _,_=>none
def xX (st:St) (dst:Option Nat) (size:Nat) (B D:Bool) (d:Nat) (G:List SV):Option (SV×St):=
 match bg st.m d,dn G,dst with
 | some (.sl k es u),some z,some t=>
  if cw k=true/\es=size then
   (j9 B D z).bind λ(l,h)=>(dD u.length l h).bind λ(l,h)=>
    let w:=dH d st.m
    if St.new { st with m:=w } t then some (.own t,{ st with m:=bJ w t (.sl .part es ((u.take h).drop l)) })else none
  else none
 | _,_,_=>none
def DO:List SV->SV
 | [x]=>x
 | l=>.tup l
mutual
def SV.nr (m:Tb bD):SV->Option eW
 | .v _=>some []
 | .own d=>match bg m d with
  | some (.sl k es xs)=>some [(d,.sl k es xs)]
  | _=>none
 | .ptr d _=>match bg m d with
  | some (.box cs)=>if(dn cs).isSome then some [(d,.box cs)]else none
  | _=>none
 | .clo _ a b=>match handed m a,handed m b with
  | some x,some y=>some (x++y)
  | _,_=>none
 | _=>none
def handed (m:Tb bD):List SV->Option eW
 | []=>some []
 | x::r=>match SV.nr m x,handed m r with
  | some a,some b=>some (a++b)
  | _,_=>none
end
def qG:bD->Bool
 | .box cs=>(dn cs).isSome
 | _=>true
def mM (m':eW):List Nat->Tb bD->Option (Tb bD)
 | [],m=>some m
 | d::r,m=>match bg m' d with
  | some ob=>if qG ob then mM m' r (bJ m d ob)else none
  | none=>none
def mQ (xs:List (List V)):Bool:=xs.all λx=>x.all V.scalar
def Aq (q:Dl) (dst:Option Nat) (args:List SV) (st:St):Option (SV×St):=
 match args with
 | .own d::z=>match bg st.m d,dn z with
  | some (.sl k es u),some A=>match q.go es u A with
   | some w=>if q.part then match dst with
    | some t=>if St.new { st with m:=dH d st.m } t then some (.own t,{ st with m:=bJ (dH d st.m) t (if cw k then .sl .part es w else .sl k es u) })else none
    | none=>none
    else some (.v .undef,{ st with m:=bJ st.m d (if cw k then .sl k es w else .sl k es u) })
   | none=>none
  | _,_=>none
 | _=>none
def rowsOf:List SV->Option (List Nat)
 | []=>some []
 | .v _::r=>rowsOf r
 | .own d::r=>(rowsOf r).map (d::·)
 | _=>none
def gz (S:Sys) (c:cg) (dst:Option Nat) (dr now:Bool) (old:List SV->Bool) (f:FuncId) (args:List SV) (st:St):Option (SV×St):=
 if S.E.keep f then
  if now then
   if S.E.own f then
    match cS st.m 8 args with
    | some az=>
     match c f (az.map .v) []with
     | some (rs,m')=>match dn rs with
      | some u=>if(result u).scalar then some (.v (result u),st)else none
      | none=>match rs,dst with
       | .own e::rest,some t=>match bg m' e,dn rest with
        | some (.sl .row es w),some u=>
         if V.cH u&&mQ w&&st.new t then
          some (DO (.own t::u.map .v),{ st with m:=bJ st.m t (.sl .row es w) })
         else none
        | some (.sl .nil es _),some u=>if V.cH u&&st.new t then some (DO (.own t::u.map .v),{ st with m:=bJ st.m t (.sl .nil es []) })else none
        | some (.sl .emp es _),some u=>if V.cH u&&st.new t then some (DO (.own t::u.map .v),{ st with m:=bJ st.m t (.sl .emp es []) })else none
        | _,_=>none
       | _,_=>none
     | none=>none
    | none=>none
   else if dr then none else match S.prm f with
    | some q=>Aq q dst args st
    | none=>match handed st.m args with
    | some os=>match c f args os with
     | some (rs,m')=>match dn rs,mM m' (os.map (·.1)) st.m with
      | some u,some z=>some (.v (result u),{ st with m:=z })
      | _,_=>none
     | none=>none
    | none=>none
  else none
 else match cS st.m 8 args with
  | some az=>if now||old args then
   match c f (az.map .v) []with
   | some (rs,m')=>match cS m' 8 rs with
    | some u=>if(result u).scalar||(dn args).isSome then some (.v (result u),st)
     else if now then(rowsOf args).map λds=>(.v (result u),{ st with m:=nW ds st.m })
     else none
    | none=>none
   | none=>none
   else none
  | none=>none
def f_ (m:Tb bD) (fr:List Nat) (args:List SV):Bool:=fr.all λd => !(SV.dy d args) && !(qL d m)
def yY:K->Bool
 | .p (.build zero _)=>V.cq zero
 | .r (.lookup _ z _)=>z.good
 | .a (.alloc _ zero)=>V.cq zero&&zero.all V.one
 | .a (.makeSl _ zero)=>V.cq zero
 | .a (.buildSl _ _ zero _)=>V.cq zero
 | _=>true
def kT (S:Sys) (c:cg) (dr:Bool) (fr:List Nat) (o:RO) (st:St):Option (SV×St):=
 match bV S.N st.g o.az with
 | some t=>match o.k with
  | .p (.slice size w z)=>match t with
   | .own d::A=>if dr then none else xX st o.dst size w z d A
   | t=>(je S.N st.m (.slice size w z) t).map λx=>(x,st)
  | .p p=>(je S.N st.m p t).map λx=>(x,st)
  | .r r=>if !dr||o.now||ei fr t then(lB st.m r t).map λx=>(x,st)else none
  | .a a=>match o.dst with
   | some d=>if st.new d then(mg st.m a t d).map λ(ob,x)=>(x,{ st with m:=bJ st.m d ob })else none
   | none=>none
  | .l l=>if !dr||o.now then kR st o.dst l t else none
  | .c=>match t with
   | .clo f a b::u=>gz S c o.dst dr (!dr||o.now) (f_ st.m fr) f (a++u++b) st
   | .v (.clo f a b)::u=>gz S c o.dst dr (!dr||o.now) (f_ st.m fr) f (a.map .v++u++b.map .v) st
   | _=>none
  | .b=>if dr then none else match t with
   | [x]=>(jq st.m 1 x).bind λB=>(ow B).map λl=>(.v (.str (Jm l)),st)
   | _=>none
  | .e n=>match t with
   | [.v .bB,x]=>kR st o.dst (.append n) [.v .bB,x]
   | [.v .dg,x]=>kR st o.dst (.append n) [.v .dg,x]
   | _=>none
 | none=>none
def cZ (st:St) (dst:Option Nat) (x:SV):St:=
 match dst with
 | none=>st
 | some d=>{ st with g:=bJ st.g d x }
def wanted (g:Tb SV):Option (Nat×Bool)->Option Bool
 | none=>some true
 | some (s,b)=>match bg g s with
  | some (.v (.bool c))=>some (c==b)
  | some (.v _)=>some false
  | _=>none
def wk (o:RO):Option Nat:=
 match o.k with
 | .p _|.r _=>none
 | _=>o.dst
def pK (fr:List Nat) (o:RO):List Nat:=
 match wk o with
 | some d=>d::fr
 | none=>fr
end Go.VE
namespace Go.VE
variable [bN]
def bk (H:bf) (id:Nat):Option (Nat×List (List V)):=(H[id]?).bind Ob.rows
mutual
theorem V.jA:∀{x:V},x.good=true->x.closed=true
 | .hsl ..,h|.hptr ..,h|.yld _,h|.hmap _,h=>by simp[V.good]at h
 | .fsl ..,_|.fptr ..,_|.fmap ..,_=>rfl
 | .bool _,_|.int ..,_|.str _,_|.dg,_|.bB,_|.gx,_|.fB,_|.qB,_=>rfl
 | .clo _ a b,h=>by
  simp only[V.good,ζh]at h;simp only[V.closed,ζh];exact⟨V.mj h.1,V.mj h.2⟩
 | .agg cs,h=>by simp only[V.good]at h;simp only[V.closed];exact V.mj h
 | .tup cs,h=>by simp only[V.good]at h;simp only[V.closed];exact V.mj h
theorem V.mj:∀{l:List V},V.cq l=true->V.jT l=true
 | [],_=>rfl
 | x::r,h=>by
  simp only[V.cq,ζh]at h;simp only[V.jT,ζh];exact⟨V.jA h.1,V.mj h.2⟩
end
theorem gF:∀{l:List V},V.cq l=true↔∀(j:Nat) u,l[j]? = some u->u.good=true
 | []=>by simp[V.cq]
 | x::l=>by
  simp[V.cq,gF ];constructor
  .grind
  .intro h;exact⟨h 0 x rfl,λj u hu=>h (j+1) u (by grind)⟩
theorem j_:∀{l:List (List V)},V.ny l=true↔∀(j:Nat) u,l[j]? = some u->V.cq u=true
 | []=>by simp[V.ny]
 | x::l=>by
  simp[V.ny,j_ ];constructor
  .grind
  .intro h;exact⟨h 0 x rfl,λj u hu=>h (j+1) u (by grind)⟩
theorem CN:∀{l:List (V×V)},V.rj l=true↔∀(j:Nat) u,l[j]? = some u->u.1.good=true/\u.2.good=true
 | []=>by simp[V.rj]
 | (k,x)::l=>by
  simp only[V.rj,ζh,CN ];constructor
  .grind
  .intro h;exact⟨h 0 (k,x) rfl,λj u hu=>h (j+1) u (by grind)⟩
theorem wm {l:List V} (n:Nat) (h:V.cq l=true):V.cq (l.drop n)=true:=
 gF.2 λj u hu=>gF.1 h (n+j) u (by grind)
inductive FR (H:bf) (Z:Nat->Prop):V->V->Prop
 | same (x:V) (h:x.good=true):FR H Z x x
 | fsl (es:Nat) (xs:List (List V)) (id off:Nat) (ys:List (List V)) (hz:Z id) (hr:bk H id=some (es,ys)) (hl:off+xs.length<=ys.length)
  (hc:∀(i:Nat) a b,xs[i]? = some a->ys[off+i]? = some b->a.length=b.length)
  (hv:∀(i j:Nat) a b u v,xs[i]? = some a->ys[off+i]? = some b->a[j]? = some u->b[j]? = some v->FR H Z u v):FR H Z (.fsl es xs) (.hsl id es off xs.length)
 | fptr (xs:List V) (id el off es:Nat) (ys:List (List V)) (cs:List V) (hz:Z id) (hr:bk H id=some (es,ys)) (he:ys[el]? = some cs) (ho:off<=cs.length) (hx:xs.length=cs.length-off)
  (hv:∀(j:Nat) u v,xs[j]? = some u->cs[off+j]? = some v->FR H Z u v):FR H Z (.fptr xs) (.hptr id el off)
 | clo (f:FuncId) (a b a' b':List V) (ha:a.length=a'.length) (hb:b.length=b'.length) (hva:∀(j:Nat) u v,a[j]? = some u->a'[j]? = some v->FR H Z u v) (hvb:∀(j:Nat) u v,b[j]? = some u->b'[j]? = some v->FR H Z u v):FR H Z (.clo f a b) (.clo f a' b')
 | agg (a a':List V) (ha:a.length=a'.length) (hva:∀(j:Nat) u v,a[j]? = some u->a'[j]? = some v->FR H Z u v):FR H Z (.agg a) (.agg a')
 | tup (a a':List V) (ha:a.length=a'.length) (hva:∀(j:Nat) u v,a[j]? = some u->a'[j]? = some v->FR H Z u v):FR H Z (.tup a) (.tup a')
def cV (H:bf) (Z:Nat->Prop) (xs ys:List V):Prop:=xs.length=ys.length/\∀(j:Nat) u v,xs[j]? = some u->ys[j]? = some v->FR H Z u v
def fA (H:bf) (Z:Nat->Prop) (xs ys:List (List V)):Prop:=xs.length=ys.length/\∀(j:Nat) u v,xs[j]? = some u->ys[j]? = some v->cV H Z u v
section
variable {H H':bf} {Z Z':Nat->Prop}
theorem FR.mono (h:∀id,Z id->Z' id/\bk H' id=bk H id) {x y:V} (r:FR H Z x y):FR H' Z' x y:=by
 induction r with
 | same x h=>exact .same x h
 | fsl es z id off A B hr G hc hv C=>exact .fsl es z id off A (h id B).1 (by grind) G hc C
 | fptr z id el off es A I B hr J L O hv C=>exact .fptr z id el off es A I (h id B).1 (by grind) J L O C
 | clo f a b u Q w S hva T t D=>exact .clo f a b u Q w S t D
 | agg a u w hva t=>exact .agg a u w t
 | tup a u w hva t=>exact .tup a u w t
theorem cV.mono (h:∀id,Z id->Z' id/\bk H' id=bk H id) {x y:List V} (r:cV H Z x y):cV H' Z' x y:=⟨r.1,λj u v a b=>(r.2 j u v a b).mono h⟩
theorem fA.mono (h:∀id,Z id->Z' id/\bk H' id=bk H id) {x y:List (List V)} (r:fA H Z x y):fA H' Z' x y:=⟨r.1,λj u v a b=>(r.2 j u v a b).mono h⟩
theorem cV.nil:cV H Z [] []:=⟨rfl,by simp⟩
theorem cV.cons {x y:V} {xs ys:List V} (h:FR H Z x y) (r:cV H Z xs ys):cV H Z (x::xs) (y::ys):=by
 refine⟨by simp[r.1],λj u v hu hv=>?_⟩
 cases j with
 | zero=>grind
 | succ j=>exact r.2 j u v (by grind) (by grind)
theorem cV.inv {x:V} {xs B:List V} (r:cV H Z (x::xs) B):∃y ys,B=y::ys/\FR H Z x y/\cV H Z xs ys:=by
 cases B with
 | nil=>have:=r.1;grind
 | cons y ys=>
  refine⟨y,ys,rfl,r.2 0 x y rfl rfl,by have:=r.1;grind,λj u v hu hv=>r.2 (j+1) u v (by grind) (by grind)⟩
theorem cV.cK {B:List V} (r:cV H Z [] B):B=[]:=by
 have:=r.1
 grind
theorem cV.get {xs ys:List V} (r:cV H Z xs ys) {j:Nat} {u:V} (h:xs[j]? = some u):∃v,ys[j]? = some v/\FR H Z u v:=by
 have t  := (ζe.1 h).1;have:j<ys.length:=by rw[<-r.1];omega
 exact⟨ys[j],ζd this,r.2 j u _ h (ζd this)⟩
theorem fA.get {xs ys:List (List V)} (r:fA H Z xs ys) {j:Nat} {u:List V} (h:xs[j]? = some u):∃v,ys[j]? = some v/\cV H Z u v:=by
 have t  := (ζe.1 h).1;have:j<ys.length:=by rw[<-r.1];omega
 exact⟨ys[j],ζd this,r.2 j u _ h (ζd this)⟩
theorem cV.append {a b c d:List V} (h:cV H Z a b) (k:cV H Z c d):cV H Z (a++c) (b++d):=by
 refine⟨by simp[h.1,k.1],λj u v hu hv=>?_⟩
 by_cases t:j<a.length
 .rw[List.getElem?_append_left t]at hu;rw[List.getElem?_append_left (by rw[<-h.1];omega)]at hv
  exact h.2 j u v hu hv
 .rw[List.getElem?_append_right (by omega)]at hu
  rw[List.getElem?_append_right (by rw[<-h.1];omega),<-h.1]at hv
  exact k.2 _ u v hu hv
theorem fA.append {a b c d:List (List V)} (h:fA H Z a b) (k:fA H Z c d):fA H Z (a++c) (b++d):=by
 refine⟨by simp[h.1,k.1],λj u v hu hv=>?_⟩
 by_cases t:j<a.length
 .rw[List.getElem?_append_left t]at hu;rw[List.getElem?_append_left (by rw[<-h.1];omega)]at hv
  exact h.2 j u v hu hv
 .rw[List.getElem?_append_right (by omega)]at hu
  rw[List.getElem?_append_right (by rw[<-h.1];omega),<-h.1]at hv
  exact k.2 _ u v hu hv
theorem cV.take {a b:List V} (h:cV H Z a b) (n:Nat):cV H Z (a.take n) (b.take n):=by
 refine⟨by simp[h.1],λj u v hu hv=>?_⟩
 rw[List.getElem?_take]at hu hv;split at hu
 .rename_i t;rw[if_pos t]at hv;exact h.2 j u v hu hv
 grind
theorem cV.drop {a b:List V} (h:cV H Z a b) (n:Nat):cV H Z (a.drop n) (b.drop n):=by
 refine⟨by simp[h.1],λj u v hu hv=>?_⟩
 rw[List.getElem?_drop]at hu hv;exact h.2 _ u v hu hv
theorem fA.take {a b:List (List V)} (h:fA H Z a b) (n:Nat):fA H Z (a.take n) (b.take n):=by
 refine⟨by simp[h.1],λj u v hu hv=>?_⟩
 rw[List.getElem?_take]at hu hv;split at hu
 .rename_i t;rw[if_pos t]at hv;exact h.2 j u v hu hv
 grind
theorem fA.drop {a b:List (List V)} (h:fA H Z a b) (n:Nat):fA H Z (a.drop n) (b.drop n):=by
 refine⟨by simp[h.1],λj u v hu hv=>?_⟩
 rw[List.getElem?_drop]at hu hv;exact h.2 _ u v hu hv
theorem cV.set {a b:List V} (h:cV H Z a b) (n:Nat) {x y:V} (B:FR H Z x y):cV H Z (a.set n x) (b.set n y):=by
 refine⟨by simp[h.1],λj u v hu hv=>?_⟩
 rw[List.getElem?_set]at hu hv;split at hu
 .grind
 .rename_i e;rw[if_neg e]at hv;exact h.2 j u v hu hv
theorem fA.set {a b:List (List V)} (h:fA H Z a b) (n:Nat) {x y:List V} (B:cV H Z x y):fA H Z (a.set n x) (b.set n y):=by
 refine⟨by simp[h.1],λj u v hu hv=>?_⟩
 rw[List.getElem?_set]at hu hv;split at hu
 .grind
 .rename_i e;rw[if_neg e]at hv;exact h.2 j u v hu hv
theorem cV.same {l:List V} (h:V.cq l=true):cV H Z l l:=
 ⟨rfl,λj u v hu hv=>by rw[hu]at hv;cases hv;exact .same u (gF.1 h j u hu)⟩
theorem FR.good {x y:V} (r:FR H Z x y):x.good=true:=by
 induction r with
 | same x h=>omega
 | fsl es A id off B C hr J hc hv D=>
  refine j_.2 λi a w=>gF.2 λj u hu=>?_
  grind
 | fptr A id el off es B L C hr O Q S hv D=>
  refine gF.2 λj u hu=>?_
  grind
 | clo f a b z T w U hva G t I=>
  simp[V.good];refine⟨gF.2 λj u hu=>?_,gF.2 λj u hu=>?_⟩
  .grind
  grind
 | agg a z w hva t=>
  refine gF.2 λj u hu=>?_
  grind
 | tup a z w hva t=>
  simp[V.good];refine gF.2 λj u hu=>?_
  grind
theorem FR.closed {x y:V} (r:FR H Z x y):x.closed=true:=V.jA r.good
theorem cV.good {xs ys:List V} (r:cV H Z xs ys):V.cq xs=true:=
 gF.2 λj u hu=>by obtain⟨v,_,h⟩:=r.get hu;exact h.good
theorem fA.good {xs ys:List (List V)} (r:fA H Z xs ys):V.ny xs=true:=
 j_.2 λj u hu=>by obtain⟨v,_,h⟩:=r.get hu;exact h.good
theorem FR.bool {b:Bool} {y:V} (r:FR H Z (.bool b) y):y=.bool b:=by cases r;rfl
theorem FR.int {k:IntKind} {n:Int} {y:V} (r:FR H Z (.int k n) y):y=.int k n:=by cases r;rfl
theorem FR.str {s:ByteArray} {y:V} (r:FR H Z (.str s) y):y=.str s:=by cases r;rfl
theorem FR.dg {y:V} (r:FR H Z .dg y):y=.dg:=by cases r;rfl
theorem FR.bB {y:V} (r:FR H Z .bB y):y=.bB:=by cases r;rfl
theorem FR.gx {y:V} (r:FR H Z .gx y):y=.gx:=by cases r;rfl
theorem FR.fB {y:V} (r:FR H Z .fB y):y=.fB:=by cases r;rfl
theorem FR.qB {y:V} (r:FR H Z .qB y):y=.qB:=by cases r;rfl
theorem FR.fmap {B:List (V×V)} {y:V} (r:FR H Z (.fmap B) y):y=.fmap B:=by cases r;rfl
theorem FR.gR {a:List V} {y:V} (r:FR H Z (.agg a) y):∃a',y=.agg a'/\cV H Z a a':=by
 cases r with
 | same _ h=>exact⟨a,rfl,.same (by simpa [V.good]using h)⟩
 | agg _ a' t hva=>exact⟨a',rfl,t,hva⟩
theorem FR.oM {a:List V} {y:V} (r:FR H Z (.tup a) y):∃a',y=.tup a'/\cV H Z a a':=by
 cases r with
 | same _ h=>exact⟨a,rfl,.same (by simpa [V.good]using h)⟩
 | tup _ a' t hva=>exact⟨a',rfl,t,hva⟩
theorem FR.jk {f:FuncId} {a b:List V} {y:V} (r:FR H Z (.clo f a b) y):∃a' B,y=.clo f a' B/\cV H Z a a'/\cV H Z b B:=by
 cases r with
 | same _ h=>
  simp[V.good]at h;exact⟨a,b,rfl,.same h.1,.same h.2⟩
 | clo _ _ _ a' B u w hva t=>exact⟨a',B,rfl,⟨u,hva⟩,⟨w,t⟩⟩
theorem FR.kC {es:Nat} {xs:List (List V)} {y:V} (r:FR H Z (.fsl es xs) y):y=.fsl es xs \/
 ∃id off ys,y=.hsl id es off xs.length/\Z id/\bk H id=some (es,ys)/\off+xs.length<=ys.length/\fA H Z xs ((ys.drop off).take xs.length):=by
 cases r with
 | same _ h=>grind
 | fsl _ _ id off ys z hr A hc hv=>
  refine .inr ⟨id,off,ys,rfl,z,hr,A,by simp;omega,λj u v hu w=>?_⟩
  have B  := (ζe.1 hu).1;rw[List.getElem?_take,if_pos B,List.getElem?_drop]at w;exact⟨hc j u v hu w,λi s t C D=>hv j i u v s t hu w C D⟩
theorem FR.Js {es:Nat} {xs:List (List V)} {id off:Nat} {ys:List (List V)} (B:Z id) (hr:bk H id=some (es,ys)) (D:off+xs.length<=ys.length) (h:fA H Z xs ((ys.drop off).take xs.length)) :
 FR H Z (.fsl es xs) (.hsl id es off xs.length):=by
 have key:∀(i:Nat) a b,xs[i]? = some a->ys[off+i]? = some b->cV H Z a b:=λi a b t w=>by
  refine h.2 i a b t ?_
  grind
 exact .fsl es xs id off ys B hr D (λi a b t w=>(key i a b t w).1) (λi j a b u v t w hu hv=>(key i a b t w).2 j u v hu hv)
theorem FR.kI {xs:List V} {y:V} (r:FR H Z (.fptr xs) y):y=.fptr xs \/
 ∃id el off es ys cs,y=.hptr id el off/\Z id/\bk H id=some (es,ys)/\ys[el]? = some cs/\off<=cs.length/\cV H Z xs (cs.drop off):=by
 cases r with
 | same _ h=>grind
 | fptr _ id el off es ys cs t hr w z B hv=>
  refine .inr ⟨id,el,off,es,ys,cs,rfl,t,hr,w,z,by simp_all,λj u v hu A=>?_⟩
  grind
theorem FR.A9 {xs:List V} {id el off es:Nat} {ys:List (List V)} {cs:List V} (B:Z id) (hr:bk H id=some (es,ys)) (D:ys[el]? = some cs) (G:off<=cs.length) (h:cV H Z xs (cs.drop off)):FR H Z (.fptr xs) (.hptr id el off):=
 .fptr xs id el off es ys cs B hr D G (by have:=h.1;grind) (λj u v hu hv=>h.2 j u v hu (by grind))
theorem FR.cells {x y:V} (r:FR H Z x y):cV H Z x.cells y.cells:=by
 have one:∀{a b:V},FR H Z a b->cV H Z [a] [b]:=λh=>.cons h .nil
 cases r with
 | same _ h=>cases x <;> first|exact one (.same _ h)|(exact cV.same h)
 | fsl es w id off z A hr C hc hv=>exact one (.fsl es w id off z A hr C hc hv)
 | fptr w id el off es z D A hr G I J hv=>exact one (.fptr w id el off es z D A hr G I J hv)
 | clo f a b u L t O hva B=>exact one (.clo f a b u L t O hva B)
 | agg a u t hva=>exact⟨t,hva⟩
 | tup a u t hva=>exact one (.tup a u t hva)
theorem FR.one {x y:V} (r:FR H Z x y):y.one=x.one:=by cases r <;> rfl
theorem cV.one:∀{xs ys:List V},cV H Z xs ys->ys.all V.one=xs.all V.one
 | [],ys,r=>by rw[r.cK]
 | x::xs,D,r=>by
  obtain⟨y,ys,rfl,h,B⟩:=r.inv;simp[h.one,B.one]
theorem pn:∀{l:List V},V.cH l=true↔∀(j:Nat) u,l[j]? = some u->u.scalar=true
 | []=>by simp[V.cH]
 | x::l=>by
  simp[V.cH,pn ];constructor
  .grind
  .intro h;exact⟨h 0 x rfl,λj u hu=>h (j+1) u (by grind)⟩
theorem FR.scalar {x y:V} (r:FR H Z x y):(x.scalar=true->y=x)/\y.scalar=x.scalar:=by
 have key:∀(a t:List V),a.length=t.length->(∀(j:Nat) u v,a[j]? = some u->t[j]? = some v->(u.scalar=true->v=u)/\v.scalar=u.scalar)->(V.cH a=true->t=a)/\V.cH t=V.cH a:=by
  intro a t z C;have h1:V.cH a=true->t=a:=by
   intro D;refine(List.ext_getElem z λj h1 A=>?_).symm
   exact(((C j _ _ (ζd h1) (ζd A)).1 (pn.1 D j _ (ζd h1)))).symm
  refine⟨h1,?_⟩
  cases D:V.cH a with
  | true=>grind
  | false=>
   cases B:V.cH t with
   | false=>rfl
   | true=>
    have:V.cH a=true:=pn.2 λj u hu=>by
     have G:j<t.length:=by grind
     have:=(C j u _ hu (ζd G)).2;rw[<-this];exact pn.1 B j _ (ζd G)
    grind
 induction r with
 | same x h=>grind
 | fsl=>exact⟨λh=>by simp[V.scalar]at h,rfl⟩
 | fptr=>exact⟨λh=>by simp[V.scalar]at h,rfl⟩
 | clo=>exact⟨λh=>by simp[V.scalar]at h,rfl⟩
 | agg a t z hva w=>
  obtain⟨h1,A⟩:=key a t z w;exact⟨λh=>by rw[h1 (by simpa [V.scalar]using h)],by simpa [V.scalar]using A⟩
 | tup a t z hva w=>
  obtain⟨h1,A⟩:=key a t z w;exact⟨λh=>by rw[h1 (by simpa [V.scalar]using h)],by simpa [V.scalar]using A⟩
theorem cV.scalar {a a':List V} (r:cV H Z a a'):(V.cH a=true->a'=a)/\V.cH a'=V.cH a:=by
 obtain⟨h1,t⟩:=FR.scalar (.tup a a' r.1 r.2);simp[V.scalar]at h1 t
 grind
theorem pZ:∀{l:List V} {a:List Int},gE l=some a->V.cH l=true
 | [],_,_=>rfl
 | x::l,a,h=>by
  unfold gE at h;split at h
  .grind
  .rename_i n r e;cases e;obtain⟨b,B,_⟩:=ζf.1 h;simp[V.cH,V.scalar];exact pZ B
  grind
end
end Go.VE
namespace Go.VE
variable [bN]
mutual
theorem lR:∀{x:V},x.scalar=true->x.good=true
 | .bool _,_|.int ..,_|.str _,_|.gx,_|.fB,_|.qB,_|.dg,_|.bB,_=>rfl
 | .agg cs,h=>by simp only[V.scalar]at h;simp only[V.good];exact oh h
 | .tup cs,h=>by simp only[V.scalar]at h;simp only[V.good];exact oh h
 | .fsl ..,h|.hsl ..,h|.fptr ..,h|.hptr ..,h|.clo ..,h|.yld _,h|.fmap _,h|.hmap _,h=>by simp[V.scalar]at h
theorem oh:∀{l:List V},V.cH l=true->V.cq l=true
 | [],_=>rfl
 | x::r,h=>by
  simp only[V.cH,ζh]at h;simp only[V.cq,ζh];exact⟨lR h.1,oh h.2⟩
end
section
variable {H H':bf} {Z Z':Nat->Prop}
theorem js {f:V->Option V}:∀{xs ys:List V},xs.length=ys.length->(∀(j:Nat) u v,xs[j]? = some u->ys[j]? = some v->f v=some u)->gH f ys=some xs
 | [],[],_,_=>rfl
 | [],y::ys,h,_=>by simp_all
 | x::xs,[],h,_=>by simp_all
 | x::xs,y::ys,h,B=>by
  simp[gH,B 0 x y rfl rfl,js (xs:=xs) (ys:=ys) (by grind) λj u v hu hv=>B (j+1) u v (by grind) (by grind)]
theorem F_ {f:V->Option V}:∀{xs ys:List (List V)},xs.length=ys.length->(∀(j:Nat) u v,xs[j]? = some u->ys[j]? = some v->gH f v=some u)->ki f ys=some xs
 | [],[],_,_=>rfl
 | [],y::ys,h,_=>by simp_all
 | x::xs,[],h,_=>by simp_all
 | x::xs,y::ys,h,B=>by
  simp[ki,B 0 x y rfl rfl,F_ (xs:=xs) (ys:=ys) (by grind) λj u v hu hv=>B (j+1) u v (by grind) (by grind)]
theorem nO:∀{l:List V},V.jT l=true↔∀(j:Nat) u,l[j]? = some u->u.closed=true
 | []=>by simp[V.jT]
 | x::l=>by
  simp[V.jT,nO ];constructor
  .grind
  .intro h;exact⟨h 0 x rfl,λj u hu=>h (j+1) u (by grind)⟩
theorem kJ:∀{l:List V} {n:Nat},V.jX n l=true↔∀(j:Nat) u,l[j]? = some u->u.lvl n=true
 | [],n=>by simp[V.jX]
 | x::l,n=>by
  simp[V.jX,kJ ];constructor
  .grind
  .intro h;exact⟨h 0 x rfl,λj u hu=>h (j+1) u (by grind)⟩
theorem DD:∀{l:List (List V)} {n:Nat},V.nS n l=true↔∀(j:Nat) u,l[j]? = some u->V.jX n u=true
 | [],n=>by simp[V.nS]
 | x::l,n=>by
  simp[V.nS,DD ];constructor
  .grind
  .intro h;exact⟨h 0 x rfl,λj u hu=>h (j+1) u (by grind)⟩
theorem dK (n:Nat) (H:bf) {x:V} (h:x.closed=true):borrow n H x=some x:=jo n H h
theorem FR.borrow {x y:V} (r:FR H Z x y):∀n,x.lvl n=true->borrow n H y=some x:=by
 induction r with
 | same x h=>exact λn _=>dK n H (V.jA h)
 | fsl es I id off T U hr W hc hv J=>
  intro n z
  cases n with
  | zero=>simp[V.lvl]at z
  | succ n=>
   unfold Go.VE.borrow;unfold bk at hr;simp only[V.closed,Bool.false_eq_true,if_false,hr,true_and,if_pos W,ζf];refine⟨I,F_ (by simp;omega) λj u v hu A=>?_,rfl⟩
   have X  := (ζe.1 hu).1;rw[List.getElem?_take,if_pos X,List.getElem?_drop]at A;refine js (hc j u v hu A) λi s t O Y=>J j i u v s t hu A O Y n (kJ.1 (DD.1 z j u hu) i s O)
 | fptr I id el off es T cs U hr he ho hx hv J=>
  intro n z
  cases n with
  | zero=>simp[V.lvl]at z
  | succ n=>
   unfold Go.VE.borrow;unfold bk at hr;simp only[V.closed,Bool.false_eq_true,if_false,hr,he,if_pos ho,ζf];refine⟨I,js (by simp_all) λj u v hu A=>?_,rfl⟩
   rw[List.getElem?_drop]at A;exact J j u v hu A n (kJ.1 z j u hu)
 | clo f a b C Q D S hva aa B G=>
  intro n z
  cases n with
  | zero=>simp[V.lvl]at z
  | succ n=>
   simp[V.lvl]at z
   by_cases w:(V.clo f C Q).closed=true
   .rw[dK _ _ w];simp[V.closed]at w;have e1:C=a:=by
     have:=js  D λj u v hu hv=>B j u v hu hv n (kJ.1 z.1 j u hu)
     have L:=js    rfl λj u v hu hv=>by rw[hu]at hv;cases hv;exact dK n H (nO.1 w.1 j u hu)
     grind
    have e2:Q=b:=by
     have:=js  S λj u v hu hv=>G j u v hu hv n (kJ.1 z.2 j u hu)
     have L:=js    rfl λj u v hu hv=>by rw[hu]at hv;cases hv;exact dK n H (nO.1 w.2 j u hu)
     grind
    simp_all
   .unfold Go.VE.borrow;rw[if_neg w];simp[js  D λj u v hu hv=>B j u v hu hv n (kJ.1 z.1 j u hu),js  S λj u v hu hv=>G j u v hu hv n (kJ.1 z.2 j u hu)]
 | agg a C D hva B=>
  intro n z
  cases n with
  | zero=>simp[V.lvl]at z
  | succ n=>
   have hm:=js  D λj u v hu hv=>B j u v hu hv n (kJ.1 z j u hu)
   by_cases w:(V.agg C).closed=true
   .rw[dK _ _ w];have L:=js    rfl λj u v hu hv=>by rw[hu]at hv;cases hv;exact dK n H (nO.1 w j u hu)
    grind
   .unfold Go.VE.borrow
    grind
 | tup a C D hva B=>
  intro n z
  cases n with
  | zero=>simp[V.lvl]at z
  | succ n=>
   have hm:=js  D λj u v hu hv=>B j u v hu hv n (kJ.1 z j u hu)
   by_cases w:(V.tup C).closed=true
   .rw[dK _ _ w];have L:=js    rfl λj u v hu hv=>by rw[hu]at hv;cases hv;exact dK n H (nO.1 w j u hu)
    grind
   .unfold Go.VE.borrow
    grind
theorem oC {f:V->List Nat} {k:Nat}:∀{l:List V},k∈cE f l->∃(j:Nat) (u:V),l[j]? = some u/\k∈f u
 | [],h=>by simp[cE]at h
 | x::l,h=>by
  simp[cE]at h;rcases h with h|h
  .exact⟨0,x,rfl,h⟩
  .obtain⟨j,u,hu,hk⟩:=oC h;exact⟨j+1,u,by grind,hk⟩
structure Deep (H:bf) (Z:Nat->Prop):Prop where
 row:∀id es ys,Z id->bk H id=some (es,ys)->∀c∈ys,∀u∈c,∃x,FR H Z x u
theorem FR.bW (G:Deep H Z):∀(n:Nat) {x y:V},FR H Z x y->∀k∈bW n H y,Z k
 | 0,x,y,r,k,hk=>by simp[Go.VE.bW]at hk
 | n+1,x,y,r,k,hk=>by
  unfold Go.VE.bW at hk;split at hk
  .simp_all
  .rename_i J;have D:∀(a a':List V),cV H Z a a'->k∈cE (Go.VE.bW n H) a'->Z k:=λa a' h hk=>by
    obtain⟨j,u,hu,w⟩:=oC hk;have Q:j<a.length:=by rw[h.1];grind
    exact FR.bW G n (h.2 j _ u (ζd Q) hu) k w
   have row:∀(id:Nat) es t (l:List V),Z id->bk H id=some (es,t)->(∀u∈l,∃c∈t,u∈c)->k∈cE (Go.VE.bW n H) l->Z k:=λid es t l z hr I hk=>by
    obtain⟨j,u,hu,w⟩:=oC hk;obtain⟨c,hc,A⟩:=I u (List.mem_of_getElem? hu);obtain⟨x,L⟩:=G.row id es t z hr c hc u A;exact FR.bW G n L k w
   cases r with
   | same _ h=>exact absurd (V.jA h) J
   | fsl es S id off t z hr I hc hv=>
    simp only[List.mem_cons]at hk;rcases hk with rfl|hk
    .exact z
    rw[show (H[id]?).bind Ob.rows=some (es,t)from hr]at hk;exact row id es t _ z hr (λu hu=>by obtain⟨c,hc,A⟩:=List.mem_flatten.1 hu;exact⟨c,List.mem_of_mem_drop (List.mem_of_mem_take hc),A⟩) hk
   | fptr S id el off es t T z hr O X L hv=>
    simp only[List.mem_cons]at hk;rcases hk with rfl|hk
    .exact z
    rw[show (H[id]?).bind Ob.rows=some (es,t)from hr]at hk;simp only[O,Option.getD_some]at hk;exact row id es t _ z hr (λu hu=>⟨T,List.mem_of_getElem? O,List.mem_of_mem_drop hu⟩) hk
   | clo f a b a' U B W hva C=>
    simp  at hk;rcases hk with hk|hk
    .exact D a a' ⟨B,hva⟩ hk
    .exact D b U ⟨W,C⟩ hk
   | agg a a' B hva=>exact D a a' ⟨B,hva⟩ hk
   | tup a a' B hva=>exact D a a' ⟨B,hva⟩ hk
theorem cV.cut {cs ys r:List V} {off n:Nat} (h:cV H Z cs ys) (hc:cut cs off n=some r):∃B,Go.VE.cut ys off n=some B/\cV H Z r B:=by
 unfold Go.VE.cut at hc ⊢;have t:=(h.drop off).take n;dsimp only at hc ⊢;split at hc
 .simp  at hc;subst hc;exact⟨_,by rw[if_pos (by rw[<-t.1];omega)],t⟩
 grind
theorem cV.mk {agg:Bool} {cs ys:List V} {x:V} (h:cV H Z cs ys) (B:mk agg cs=some x):∃y,Go.VE.mk agg ys=some y/\FR H Z x y:=by
 unfold Go.VE.mk at B ⊢;split at B
 .simp  at B;subst B;exact⟨_,by grind,.agg _ _ h.1 h.2⟩
 .split at B
  .simp  at B;obtain⟨y,ys,rfl,h1,t⟩:=h.inv;rw[t.cK]
   grind
  grind
theorem cV.fill:∀{pl:List (Nat×Nat)} {vs B cells cells' r:List V},cV H Z cells cells'->cV H Z vs B->oV cells pl vs=some r->∃D,oV cells' pl B=some D/\cV H Z r D
 | [],vs,B,cells,cells',r,hc,hv,h=>by
  cases vs with
  | nil=>rw[hv.cK];simp[oV]at h ⊢;grind
  | cons v vs=>simp[oV]at h
 | (off,size)::pl,vs,B,cells,cells',r,hc,hv,h=>by
  cases vs with
  | nil=>simp[oV]at h
  | cons v vs=>
   obtain⟨w,B,rfl,h1,G⟩:=hv.inv;have k:=h1.cells;simp only[oV]at h ⊢;rw[<-k.1,<-hc.1];split at h
   .simp_all
   .rename_i e;rw[if_neg e];exact cV.fill (((hc.take off).append k).append (hc.drop _)) G h
theorem FR.sN {k:KT} {x y G J:V} {b:Bool} (B:FR H Z x G) (D:FR H Z y J) (h:nC k x y=some b):nC k G J=some b:=by
 unfold nC at h;split at h
 .rw[B.bB,D.bB];exact h
 .rw[D.bB];rcases B.kC with rfl|⟨_,_,_,rfl,_⟩ <;> exact h
 .exact absurd B.closed (by simp[V.closed])
 .rw[B.gx,D.gx];exact h
 .rw[D.gx];rcases B.kI with rfl|⟨_,_,_,_,_,_,rfl,_⟩ <;> exact h
 .exact absurd B.closed (by simp[V.closed])
 .rw[B.fB,D.fB];exact h
 .rw[D.fB,B.fmap];exact h
 .exact absurd B.closed (by simp[V.closed])
 grind
theorem FR.jH {a b a' B:List V} {r:Bool} (D:cV H Z a a') (G:cV H Z b B) (h:jH a b=some r):Go.VE.jH a' B=some r:=by
 unfold Go.VE.jH at h;split at h
 .rename_i u v hu hv;rw[D.scalar.1 (pZ hu),G.scalar.1 (pZ hv)];unfold Go.VE.jH
  grind
 grind
theorem xE {k:KT} {x y:V} {b:Bool} (h:nC k x y=some b):(y=.bB/\(x=.bB\/(∃es xs,x=.fsl es xs)\/∃id es off len,x=.hsl id es off len)) \/
 (y=.gx/\(x=.gx\/(∃cs,x=.fptr cs)\/∃id el off,x=.hptr id el off))\/(y=.fB/\(x=.fB\/(∃B,x=.fmap B)\/∃id,x=.hmap id)):=by
 unfold nC at h
 grind
theorem ET {k:Option KT} {e:Option Nat} {op:BinOp} {x y:V} (D:(y=.bB/\(x=.bB\/(∃es xs,x=.fsl es xs)\/∃id es off len,x=.hsl id es off len)) \/
 (y=.gx/\(x=.gx\/(∃cs,x=.fptr cs)\/∃id el off,x=.hptr id el off))\/(y=.fB/\(x=.fB\/(∃B,x=.fmap B)\/∃id,x=.hmap id))) :
 gj k e op x y=(match k,op with
 | some k,.eql=>(nC k x y).map .bool
 | some k,.neq=>(nC k x y).map λt=>.bool !t
 | _,_=>none):=by
 rcases D with⟨rfl,rfl|⟨_,_,rfl⟩|⟨_,_,_,_,rfl⟩⟩|⟨rfl,rfl|⟨_,rfl⟩|⟨_,_,_,rfl⟩⟩|⟨rfl,rfl|⟨_,rfl⟩|⟨_,rfl⟩⟩ <;> cases k <;> cases op <;> rfl
theorem Gm {k:Option KT} {e:Option Nat} {op:BinOp} {x y z:V} (h:gj k e op x y=some z):z.good=true:=by
 have w:∀{o:Option Bool} {z:V},o.map V.bool=some z->z.good=true:=λh=>by obtain⟨_,_,rfl⟩:=ζf.1 h;rfl
 have u:∀{o:Option Bool} {z:V},(o.map λt=>V.bool !t)=some z->z.good=true:=λh=>by obtain⟨_,_,rfl⟩:=ζf.1 h;rfl
 unfold gj at h
 (repeat' split at h) <;> first|(simp  at h;subst h;rfl)|exact w h|exact u h|simp at h
theorem FR.bin {k:Option KT} {e:Option Nat} {op:BinOp} {x y G J z:V} (B:FR H Z x G) (D:FR H Z y J) (h:gj k e op x y=some z):gj k e op G J=some z:=by
 have h0:=h;unfold gj at h;split at h
 .rw[B.int,D.int];omega
 .rw[B.str,D.str];omega
 .rw[B.bool,D.bool];omega
 .obtain⟨C,rfl,u⟩:=B.gR;obtain⟨I,rfl,A⟩:=D.gR;split at h
  .split at h
   .rename_i w;obtain⟨r,hr,rfl⟩:=ζf.1 h;simp[gj,<-u.1,w,FR.jH u A hr]
   grind
  .split at h
   .rename_i w;obtain⟨r,hr,rfl⟩:=ζf.1 h;simp[gj,<-u.1,w,FR.jH u A hr]
   grind
  grind
 .split at h
  .obtain⟨r,hr,rfl⟩:=ζf.1 h;have t:=FR.sN B D hr;rw[ET (xE t)];grind
  .obtain⟨r,hr,rfl⟩:=ζf.1 h;have t:=FR.sN B D hr;rw[ET (xE t)];grind
  grind
theorem FR.slice {size:Nat} {x J z:V} {l h:Option Int} (D:FR H Z x J) (B:gp size x l h=some z):∃O,gp size J l h=some O/\FR H Z z O:=by
 have G:∀{n t w:Nat},dD n l h=some (t,w)->w<=n/\t<=w:=by
  intro n t w e;unfold dD at e
  grind
 unfold gp at B;split at B
 .rename_i es I;split at B
  .rename_i L;obtain⟨⟨t,w⟩,A,rfl⟩:=ζf.1 B;obtain⟨S,W⟩:=G A;rcases D.kC with rfl|⟨id,off,Q,rfl,T,hr,X,U⟩
   .refine⟨_,by simp[gp,if_pos L,A],.same _ ?_⟩
    have hg:=D.good;refine j_.2 λj u hu=>?_
    rw[List.getElem?_drop,List.getElem?_take]at hu;split at hu
    .exact j_.1 hg _ u hu
    grind
   .refine⟨.hsl id es (off+t) (w-t),by simp[gp,if_pos L,A],?_⟩
    have C:((I.take w).drop t).length=w-t:=by simp_all
    rw[<-C];refine FR.Js T hr (by grind) ?_
    have:=(U.take w).drop t;have e:List.drop t (List.take w (List.take I.length (List.drop off Q)))=List.take (w-t) (List.drop (off+t) Q):=by
     rw[List.take_take,Nat.min_eq_left S,List.drop_take,List.drop_drop]
    grind
  grind
 .exact absurd D.closed (by simp[V.closed])
 .rw[D.dg];obtain⟨_,A,rfl⟩:=ζf.1 B;exact⟨.dg,by simp[gp,A],.same _ rfl⟩
 .rw[D.bB];obtain⟨_,A,rfl⟩:=ζf.1 B;exact⟨.bB,by simp[gp,A],.same _ rfl⟩
 grind
theorem cV.j9 {G J:Bool} {O D:List V} {r:Option Int×Option Int} (h:cV H Z O D) (B:j9 G J O=some r):Go.VE.j9 G J D=some r:=by
 unfold Go.VE.j9 at B;split at B
 .rw[h.cK];exact B
 .obtain⟨_,_,rfl,h1,t⟩:=h.inv;rw[h1.int,t.cK];exact B
 .obtain⟨_,_,rfl,h1,t⟩:=h.inv;rw[h1.int,t.cK];exact B
 .obtain⟨_,_,rfl,h1,t⟩:=h.inv;obtain⟨_,_,rfl,u,w⟩:=t.inv;rw[h1.int,u.int,w.cK];exact B
 grind
theorem cV.bh {N:Nat->FuncId} {p:tf} {xs ys:List V} {z:V} (Y:∀zero pl,p=.build zero pl->V.cq zero=true) (h:cV H Z xs ys) (B:bh N p xs=some z):∃O,Go.VE.bh N p ys=some O/\FR H Z z O:=by
 unfold Go.VE.bh at B;split at B
 .
  obtain⟨y,_,rfl,h1,w⟩:=h.inv;rw[w.cK];simp only[ζa]at B;subst B;exact⟨y,rfl,h1⟩
 .
  rename_i t a b;obtain⟨w1,_,rfl,h1,w⟩:=h.inv;obtain⟨w2,_,rfl,A,C⟩:=w.inv;obtain⟨w3,_,rfl,T,U⟩:=C.inv;rw[h1.bool,U.cK];simp only[ζa]at B;subst B;refine⟨if t=true then w2 else w3,rfl,?_⟩;cases t
  .exact T
  .exact A
 .
  obtain⟨y,_,rfl,h1,w⟩:=h.inv;rw[w.cK];unfold Jp at B;split at B
  .exact absurd h1.closed (by simp[V.closed])
  .simp only[ζa]at B;subst B;rcases h1.kI with rfl|⟨_,_,_,_,_,_,rfl,_⟩
   .exact⟨_,rfl,h1⟩
   .exact⟨_,rfl,h1⟩
  .simp only[ζa]at B;subst B;obtain⟨_,_,rfl,_⟩:=h1.jk;exact⟨_,rfl,h1⟩
  .simp at B
 .
  obtain⟨_,_,rfl,h1,w⟩:=h.inv;obtain⟨_,_,rfl,A,C⟩:=w.inv;rw[C.cK];exact⟨z,FR.bin h1 A B,.same _ (Gm B)⟩
 .obtain⟨_,_,rfl,h1,w⟩:=h.inv;rw[h1.bool,w.cK];simp only[ζa]at B;subst B;exact⟨_,rfl,.same _ rfl⟩
 .obtain⟨_,_,rfl,h1,w⟩:=h.inv;rw[h1.int,w.cK];simp only[ζa]at B;subst B;exact⟨_,rfl,.same _ rfl⟩
 .obtain⟨_,_,rfl,h1,w⟩:=h.inv;rw[h1.int,w.cK];simp only[ζa]at B;subst B;exact⟨_,rfl,.same _ rfl⟩
 .
  rename_i off p;obtain⟨y,_,rfl,h1,w⟩:=h.inv;rw[w.cK];unfold gu at B;split at B
  .split at B
   .rename_i X ho;simp only[ζa]at B;subst B;rcases h1.kI with rfl|⟨id,el,o,es,ys,ds,rfl,W,hr,S,aa,Q⟩
    .have hg:=h1.good;simp only[V.good]at hg;exact⟨_,by simp only[Go.VE.bh,gu,if_pos ho],.same _ (by simp only[V.good];exact wm _ hg)⟩
    .refine⟨.hptr id el (o+off),rfl,FR.A9 W hr S (by have:=Q.1;simp at this;omega) ?_⟩
     have:=Q.drop off;rw[List.drop_drop]at this;exact this
   .simp at B
  .exact absurd h1.closed (by simp[V.closed])
  .simp at B
 .
  rename_i off size agg X;obtain⟨y,_,rfl,h1,w⟩:=h.inv;rw[w.cK];obtain⟨ab,rfl,hc⟩:=h1.gR;obtain⟨r,hr,hm⟩:=ζg.1 B;obtain⟨r',J,I⟩:=hc.cut hr;obtain⟨O,D,G⟩:=I.mk hm;exact⟨O,by simp only[Go.VE.bh,J,ζb,D],G⟩
 .
  rename_i size s k n;obtain⟨y,_,rfl,h1,w⟩:=h.inv;obtain⟨_,_,rfl,A,C⟩:=w.inv;rw[A.int,C.cK];unfold kg at B;split at B
  .simp at B
  .rename_i L;split at B
   .rename_i es xs;split at B
    .rename_i S;obtain⟨c,hc,rfl⟩:=ζf.1 B;rcases h1.kC with rfl|⟨id,off,ys,rfl,W,hr,hl,Q⟩
     .have hg:=h1.good;simp only[V.good]at hg;exact⟨_,by simp only[Go.VE.bh,kg,if_neg L,if_pos S,hc,Option.map_some],.same _ (by simp only[V.good];exact j_.1 hg _ _ hc)⟩
     .have hj:n.toNat<xs.length:=(ζe.1 hc).1;obtain⟨d,hd,ad⟩:=Q.get hc;rw[List.getElem?_take,if_pos hj,List.getElem?_drop]at hd;exact⟨.hptr id (off+n.toNat) 0,by simp only[Go.VE.bh,kg,if_neg L,if_pos (And.intro S hj)],FR.A9 W hr hd (by simp) (by simpa using ad)⟩
    .simp at B
   .exact absurd h1.closed (by simp[V.closed])
   .simp at B
 .
  rename_i len size s k n;obtain⟨y,_,rfl,h1,w⟩:=h.inv;obtain⟨_,_,rfl,A,C⟩:=w.inv;rw[A.int,C.cK];unfold uN at B;split at B
  .rename_i L;split at B
   .split at B
    .rename_i X ho;simp only[ζa]at B;subst B;rcases h1.kI with rfl|⟨id,el,o,es,ys,ds,rfl,W,hr,S,aa,Q⟩
     .have hg:=h1.good;simp only[V.good]at hg;exact⟨_,by simp only[Go.VE.bh,uN,if_pos L,if_pos ho],.same _ (by simp only[V.good];exact wm _ hg)⟩
     .refine⟨.hptr id el (o+n.toNat*size),by simp only[Go.VE.bh,uN,if_pos L],FR.A9 W hr S (by have:=Q.1;simp at this;omega) ?_⟩
      have:=Q.drop (n.toNat*size);rw[List.drop_drop]at this;exact this
    .simp at B
   .exact absurd h1.closed (by simp[V.closed])
   .simp at B
  .simp at B
 .
  rename_i s k n;obtain⟨y,_,rfl,h1,w⟩:=h.inv;obtain⟨_,_,rfl,A,C⟩:=w.inv;rw[h1.str,A.int,C.cK];split at B
  .rename_i L;obtain⟨c,hc,rfl⟩:=ζf.1 B;exact⟨_,by simp only[Go.VE.bh,if_pos L,hc,Option.map_some],.same _ rfl⟩
  .simp at B
 .
  rename_i len size agg X k n;obtain⟨y,_,rfl,h1,w⟩:=h.inv;obtain⟨_,_,rfl,A,C⟩:=w.inv;rw[A.int,C.cK];obtain⟨ab,rfl,hc⟩:=h1.gR;split at B
  .rename_i L;obtain⟨r,hr,hm⟩:=ζg.1 B;obtain⟨r',J,I⟩:=hc.cut hr;obtain⟨O,D,G⟩:=I.mk hm;exact⟨O,by simp only[Go.VE.bh,if_pos L,J,ζb,D],G⟩
  .simp at B
 .
  rename_i lo hi s bs;obtain⟨y,_,rfl,h1,w⟩:=h.inv;rw[h1.str];obtain⟨⟨l,h'⟩,hb,B⟩:=ζg.1 B;obtain⟨⟨l2,af⟩,ae,rfl⟩:=ζf.1 B;exact⟨_,by simp only[Go.VE.bh,w.j9 hb,ζb,ae,Option.map_some],.same _ rfl⟩
 .
  rename_i size lo hi s bs;obtain⟨y,_,rfl,h1,w⟩:=h.inv;obtain⟨⟨l,h'⟩,hb,B⟩:=ζg.1 B;obtain⟨O,D,G⟩:=FR.slice h1 B;exact⟨O,by simp only[Go.VE.bh,w.j9 hb,ζb,D],G⟩
 .
  obtain⟨y,_,rfl,h1,w⟩:=h.inv;obtain⟨_,_,rfl,A,C⟩:=w.inv;obtain⟨_,_,rfl,T,U⟩:=C.inv;rw[A.int,T.int,U.cK];split at B
  .rename_i hc;simp only[ζa]at B;subst B;refine⟨.dg,?_,.same _ rfl⟩;simp only[ζh]at hc;have:IL y=true:=by
    have h0:=hc.1.1;unfold IL at h0;split at h0
    .rcases h1.kC with rfl|⟨_,_,_,rfl,_⟩ <;> rfl
    .exact absurd h1.closed (by simp[V.closed])
    .rw[h1.dg];rfl
    .rw[h1.bB];rfl
    .simp at h0
   simp only[Go.VE.bh,this,hc.1.2,hc.2,Bool.and_self,if_true]
  .simp at B
 .
  rename_i vs zero pl;obtain⟨r,hr,rfl⟩:=ζf.1 B;obtain⟨r',J,I⟩:=cV.fill (cV.same (Y zero pl rfl)) h hr;exact⟨.agg r',by simp only[Go.VE.bh,J,Option.map_some],.agg _ _ I.1 I.2⟩
 .
  rename_i vs name k;simp only[ζa]at B;subst B;exact⟨_,rfl,.clo _ _ _ _ _ (h.take k).1 (h.drop k).1 (h.take k).2 (h.drop k).2⟩
 .
  rename_i i vs;obtain⟨y,_,rfl,h1,w⟩:=h.inv;rw[w.cK];obtain⟨ws,rfl,hw⟩:=h1.oM;obtain⟨O,D,G⟩:=hw.get B;exact⟨O,D,G⟩
 .
  obtain⟨y,_,rfl,h1,w⟩:=h.inv;rw[h1.str,w.cK];simp only[ζa]at B;subst B;exact⟨_,rfl,.same _ rfl⟩
 .
  obtain⟨y,_,rfl,h1,w⟩:=h.inv;rw[w.cK];unfold l_ at B;split at B
  .simp only[ζa]at B;subst B;rcases h1.kC with rfl|⟨_,_,_,rfl,_⟩ <;> exact⟨_,rfl,.same _ rfl⟩
  .exact absurd h1.closed (by simp[V.closed])
  .rw[h1.dg];simp only[ζa]at B;subst B;exact⟨_,rfl,.same _ rfl⟩
  .rw[h1.bB];simp only[ζa]at B;subst B;exact⟨_,rfl,.same _ rfl⟩
  .simp at B
 .
  obtain⟨y,_,rfl,h1,w⟩:=h.inv;rw[w.cK];unfold FY at B;split at B
  .rw[h1.bB];simp only[ζa]at B;subst B;exact⟨_,rfl,.same _ rfl⟩
  .rw[h1.dg];simp only[ζa]at B;subst B;exact⟨_,rfl,.same _ rfl⟩
  .simp at B
 .
  obtain⟨_,_,rfl,h1,w⟩:=h.inv;obtain⟨_,_,rfl,A,C⟩:=w.inv;rw[h1.int,A.int,C.cK];split at B
  .rename_i e;simp only[ζa]at B;subst B;exact⟨_,by simp only[Go.VE.bh,if_pos e],.same _ rfl⟩
  .simp at B
 .
  obtain⟨_,_,rfl,h1,w⟩:=h.inv;obtain⟨_,_,rfl,A,C⟩:=w.inv;obtain⟨_,_,rfl,T,U⟩:=C.inv;obtain⟨_,_,rfl,h7,h8⟩:=U.inv;rw[h1.int,A.int,T.int,h7.int,h8.cK];split at B
  .rename_i e;simp only[ζa]at B;subst B;exact⟨_,by simp only[Go.VE.bh,if_pos e],.same _ rfl⟩
  .simp at B
 .
  obtain⟨_,_,rfl,h1,w⟩:=h.inv;obtain⟨_,_,rfl,A,C⟩:=w.inv;rw[h1.int,A.int,C.cK];split at B
  .rename_i e;simp only[ζa]at B;subst B;exact⟨_,by simp only[Go.VE.bh,if_pos e],.same _ rfl⟩
  .simp at B
 .
  obtain⟨_,_,rfl,h1,w⟩:=h.inv;obtain⟨_,_,rfl,A,C⟩:=w.inv;rw[h1.int,A.int,C.cK];split at B
  .rename_i e;simp only[ζa]at B;subst B;refine⟨_,by simp only[Go.VE.bh,if_pos e],.same _ ?_⟩
   simp only[V.good];refine j_.2 λj u hu=>?_
   have:=List.eq_of_mem_replicate (List.mem_of_getElem? hu);subst this;exact gF.2 λi v hv=>lR (List.all_eq_true.1 e.2.2.2.2.2 v (List.mem_of_getElem? hv))
  .simp at B
 .simp only[ζa]at B;subst B;rw[h.cK];exact⟨_,rfl,.same _ rfl⟩
 .simp at B
end
end Go.VE
namespace Go.VE
variable [bN]
def qm (p:Nat×Nat) (k:Fl) (es len:Nat):V:=
 match k with
 | .nil=>.bB
 | .emp=>.dg
 | _=>.hsl p.1 es p.2 len
abbrev Nu:=Nat->Nat×Nat
inductive cW (ν:Nu) (m:Tb bD) (H:bf) (Z:Nat->Prop):SV->V->Prop
 | v (x y:V) (h:FR H Z x y):cW ν m H Z (.v x) y
 | own (d:Nat) (y:V) (h:∀ob,bg m d=some ob->∃k es xs,ob=.sl k es xs/\y=qm (ν d) k es xs.length):cW ν m H Z (.own d) y
 | ptr (d o:Nat) (y:V) (h:∀ob,bg m d=some ob->∃cs,ob=.box cs/\y=.hptr (ν d).1 0 o):cW ν m H Z (.ptr d o) y
 | el (d i o:Nat) (y:V) (h:∀ob,bg m d=some ob->∃k es xs,ob=.sl k es xs/\cw k=true/\y=.hptr (ν d).1 ((ν d).2+i) o):cW ν m H Z (.el d i o) y
 | mp (d:Nat) (y:V) (h:∀ob,bg m d=some ob->∃kvs,ob=.mp kvs/\y=.hmap (ν d).1):cW ν m H Z (.mp d) y
 | clo (f:FuncId) (a b:List SV) (a' b':List V) (ha:a.length=a'.length) (hb:b.length=b'.length)
  (hva:∀(j:Nat) u v,a[j]? = some u->a'[j]? = some v->cW ν m H Z u v) (hvb:∀(j:Nat) u v,b[j]? = some u->b'[j]? = some v->cW ν m H Z u v):cW ν m H Z (.clo f a b) (.clo f a' b')
 | tup (a:List SV) (a':List V) (ha:a.length=a'.length) (hva:∀(j:Nat) u v,a[j]? = some u->a'[j]? = some v->cW ν m H Z u v):cW ν m H Z (.tup a) (.tup a')
 | agg (a:List SV) (a':List V) (ha:a.length=a'.length) (hva:∀(j:Nat) u v,a[j]? = some u->a'[j]? = some v->cW ν m H Z u v):cW ν m H Z (.agg a) (.agg a')
 | yl (id:Nat):cW ν m H Z (.yl id) (.yld id)
def bX (ν:Nu) (m:Tb bD) (H:bf) (Z:Nat->Prop) (xs:List SV) (ys:List V):Prop:=xs.length=ys.length/\∀(j:Nat) u v,xs[j]? = some u->ys[j]? = some v->cW ν m H Z u v
def cB:bD->Bool
 | .sl k _ _=>cw k
 | _=>true
def fm (ν:Nu) (m:Tb bD) (id:Nat):Prop:=∃d ob,bg m d=some ob/\cB ob=true/\(ν d).1=id
def th (H:bf) (Z:Nat->Prop) (ys:List (List V)):Prop:=∀c∈ys,∀u∈c,∃x,FR H Z x u
def BH (H:bf) (Z:Nat->Prop) (a b:List (V×V)):Prop:=a.length=b.length/\∀(j:Nat) u v,a[j]? = some u->b[j]? = some v->(u.1=v.1/\u.1.scalar=true)/\FR H Z u.2 v.2
def dI (ν:Nu) (m:Tb bD) (H:bf) (Z:Nat->Prop) (d:Nat):bD->Prop
 | .sl k es xs=>if cw k then ∃ys,H[(ν d).1]? = some (.row es ys)/\(ν d).2+xs.length<=ys.length/\fA H Z xs ((ys.drop (ν d).2).take xs.length)/\th H Z ys/\(k=.row->(ν d).2=0/\ys.length=xs.length)
  else xs=[]
 | .box cs=>∃es D,H[(ν d).1]? = some (.row es [D])/\bX ν m H Z cs D/\D.all V.one=true
 | .mp G=>∃B,H[(ν d).1]? = some (.map B)/\BH H Z G B
structure R (ν:Nu) (Z:Nat->Prop) (st:St) (F:Frame) (H:bf):Prop where
 slot:∀s sv,bg st.g s=some sv->cW ν st.m H Z sv (get F s)
 obj:∀d ob,bg st.m d=some ob->dI ν st.m H Z d ob
 inj:∀d d' ob ob',bg st.m d=some ob->bg st.m d'=some ob'->cB ob=true->cB ob'=true->(ν d).1=(ν d').1->d=d'
 apart:∀d ob,bg st.m d=some ob->cB ob=true->¬Z (ν d).1
 zrow:∀id,Z id->(bk H id).isSome=true
 deep:Deep H Z
def sameShape:bD->bD->Prop
 | .sl k es xs,.sl G B D=>G=k/\B=es/\D.length=xs.length
 | .box _,.box _=>True
 | .mp _,.mp _=>True
 | _,_=>False
theorem sameShape.refl (o:bD):sameShape o o:=by cases o <;> simp[sameShape]
theorem sameShape.trans {a b c:bD} (h:sameShape a b) (k:sameShape b c):sameShape a c:=by
 cases a <;> cases b <;> cases c <;> simp[sameShape]at*<;> simp_all
structure Ev (Rv:Nat->Prop) (ν:Nu) (Z:Nat->Prop) (st:St) (H:bf) (ν':Nu) (Z':Nat->Prop) (st':St) (H':bf):Prop where
 len:H.length<=H'.length
 same:∀id,id<H.length->¬fm ν st.m id->¬Z id->¬Rv id->H'[id]? = H[id]?
 rows:∀id,Z id->Z' id/\bk H' id=bk H id
 own:∀id,fm ν' st'.m id->fm ν st.m id\/Rv id\/H.length<=id
 frz:∀id,Z' id->Z id\/fm ν st.m id\/Rv id\/H.length<=id
 pin:∀d∈st.pin,∀ob',bg st'.m d=some ob'->∃ob,bg st.m d=some ob/\ν' d=ν d/\sameShape ob ob'
 pins:st'.pin=st.pin
section
variable {Rv Rv':Nat->Prop} {ν ν' ν2:Nu} {Z Z' Z2:Nat->Prop} {st st' st2:St} {m m':Tb bD} {F F':Frame} {H H' H2:bf}
theorem Ev.refl:Ev Rv ν Z st H ν Z st H:=
 ⟨Nat.le_refl _,λ_ _ _ _ _=>rfl,λ_ h=>⟨h,rfl⟩,λ_ h=>.inl h,λ_ h=>.inl h,λ_ _ t h=>⟨t,h,rfl,.refl _⟩,rfl⟩
theorem Ev.trans (a:Ev Rv ν Z st H ν' Z' st' H') (b:Ev Rv ν' Z' st' H' ν2 Z2 st2 H2):Ev Rv ν Z st H ν2 Z2 st2 H2 where
 len:=Nat.le_trans a.len b.len
 same:=λid z t A hr=>by
  rw[b.same id (Nat.lt_of_lt_of_le z a.len) (λh=>(a.own id h).elim t λh=>h.elim hr λh=>by omega) (λh=>(a.frz id h).elim A λh=>h.elim t λh=>h.elim hr λh=>by omega) hr,a.same id z t A hr]
 rows:=λid h=>⟨(b.rows id (a.rows id h).1).1,by rw[(b.rows id (a.rows id h).1).2,(a.rows id h).2]⟩
 own:=λid h=>by
  rcases b.own id h with h|h|h
  .exact a.own id h
  .grind
  .exact .inr (.inr (Nat.le_trans a.len h))
 frz:=λid h=>by
  rcases b.frz id h with h|h|h|h
  .exact a.frz id h
  .rcases a.own id h with h|h|h
   .grind
   .grind
   grind
  .grind
  .exact .inr (.inr (.inr (Nat.le_trans a.len h)))
 pin:=λd B u h=>by
  obtain⟨w,h1,D,C⟩:=b.pin d (by rw[a.pins];omega) u h
  obtain⟨ob,k1,k2,k3⟩:=a.pin d B w h1;exact⟨ob,k1,by simp_all,k3.trans C⟩
 pins:=by rw[b.pins,a.pins]
theorem Ev.weak (h:∀id,Rv id->Rv' id) (a:Ev Rv ν Z st H ν' Z' st' H'):Ev Rv' ν Z st H ν' Z' st' H':=
 ⟨a.len,λid t u w hr=>a.same id t u w (λk=>hr (h id k)),a.rows,λid k=>(a.own id k).imp (λx=>x) (.imp (h id) (λx=>x)),λid k=>(a.frz id k).imp (λx=>x) (.imp (λx=>x) (.imp (h id) (λx=>x))),a.pin,a.pins⟩
theorem cA {α:Type}:∀(g:Tb α) (n:Nat) (v:α),bg (bJ g n v) n=some v
 | [],n,v=>by simp[bJ,bg]
 | (k,x)::r,n,v=>by
  simp[bJ];split
  .rename_i h;simp[bg,h]
  .rename_i h;simp[bg,h,cA r n v]
theorem dP {α:Type}:∀(g:Tb α) {n k:Nat} (v:α),n≠k->bg (bJ g n v) k=bg g k
 | [],n,k,v,h=>by simp[bJ,bg,h]
 | (j,x)::r,n,k,v,h=>by
  simp[bJ];split
  .rename_i hk;subst hk;simp[bg,h]
  .simp[bg];split
   .rfl
   .exact dP r v h
theorem qj {α:Type}:∀{g:Tb α} {n:Nat} {v:α},bg g n=some v->bJ g n v=g
 | [],n,v,h=>by cases h
 | (k,x)::r,n,v,h=>by
  simp[bg]at h;simp[bJ];split
  .grind
  .rename_i e;rw[if_neg e]at h;rw[qj h]
theorem ug {α:Type}:∀(g:Tb α) (n:Nat),bg (dH n g) n=none
 | [],n=>rfl
 | (k,x)::r,n=>by
  simp[dH];split
  .exact ug r n
  .rename_i hk;simp[bg];rw[if_neg hk];exact ug r n
theorem tW {α:Type}:∀(g:Tb α) {n k:Nat},n≠k->bg (dH n g) k=bg g k
 | [],n,k,h=>rfl
 | (j,x)::r,n,k,h=>by
  simp[dH];split
  .rename_i hk;subst hk;simp[bg];rw[if_neg h];exact tW r h
  .simp[bg];split
   .rfl
   .exact tW r h
theorem mH {α:Type} {g:Tb α} {n k:Nat} {v:α} (h:bg (dH n g) k=some v):n≠k/\bg g k=some v:=by
 by_cases e:n=k
 .subst e;rw[ug]at h;simp_all
 .rw[tW g e]at h;grind
theorem mR {α:Type} {k:Nat} {v:α}:∀{ds:List Nat} {g:Tb α},bg (nW ds g) k=some v->bg g k=some v
 | [],_,h=>h
 | d::ds,g,h=>(mH (mR  h)).2
theorem o4 {α:Type} {g:Tb α} {k:Nat} {v:α}:∀{l:List Nat} {r:Tb α},qT g l=some r->bg r k=some v->bg g k=some v
 | [],r,h,B=>by simp[qT]at h;subst h;simp[bg]at B
 | n::l,r,h,B=>by
  simp[qT]at h;split at h
  .rename_i w t G D;simp  at h;subst h;simp[bg]at B;split at B
   .grind
   .exact o4 D B
  grind
theorem wF {d:Nat}:∀{g:Tb SV} {s:Nat} {sv:SV},tw d g=false->bg g s=some sv->sv.cU d=false
 | [],_,_,_,h=>by simp[bg]at h
 | (k,x)::r,s,sv,h,B=>by
  simp[tw]at h;simp[bg]at B;split at B
  .grind
  .exact wF h.2 B
theorem wR {d:Nat}:∀{g:Tb bD} {s:Nat} {ob:bD},qL d g=false->bg g s=some ob->ob.cU d=false
 | [],_,_,_,h=>by simp[bg]at h
 | (k,x)::r,s,sv,h,B=>by
  simp[qL]at h;simp[bg]at B;split at B
  .grind
  .exact wR h.2 B
theorem rF {d:Nat}:∀{l:List SV} {j:Nat} {u:SV},SV.dy d l=false->l[j]? = some u->u.cU d=false
 | [],_,_,_,h=>by simp_all
 | x::r,j,u,h,B=>by
  simp[SV.dy]at h
  cases j with
  | zero=>grind
  | succ j=>exact rF h.2 (by simpa using B)
theorem qv {d:Nat}:∀{l:List SV} {j:Nat} {u:SV},l[j]? = some u->u.cU d=true->SV.dy d l=true
 | [],_,_,h,_=>by simp_all
 | x::r,j,u,h,B=>by
  simp[SV.dy]
  cases j with
  | zero=>grind
  | succ j=>exact .inr (qv (j:=j) (by grind) B)
theorem cW.mono {sv:SV} {y:V} (J:∀id,Z id->Z' id/\bk H' id=bk H id)
 (r:cW ν m H Z sv y) (B:∀d,sv.cU d=true->∀ob',bg m' d=some ob'->∃ob,bg m d=some ob/\ν' d=ν d/\sameShape ob ob'):cW ν' m' H' Z' sv y:=by
 induction r with
 | v x y h=>exact .v x y (h.mono J)
 | own d y h=>
  refine .own d y λob' w=>?_
  obtain⟨ob,h1,G,z⟩:=B d (by simp[SV.cU]) ob' w
  obtain⟨k,es,L,rfl,rfl⟩:=h ob h1;cases ob' <;> simp[sameShape]at z
  grind
 | ptr d o y h=>
  refine .ptr d o y λob' w=>?_
  obtain⟨ob,h1,G,z⟩:=B d (by simp[SV.cU]) ob' w
  obtain⟨O,rfl,rfl⟩:=h ob h1;cases ob' <;> simp[sameShape]at z
  grind
 | el d i o y h=>
  refine .el d i o y λob' w=>?_
  obtain⟨ob,h1,G,z⟩:=B d (by simp[SV.cU]) ob' w
  obtain⟨k,es,L,rfl,U,rfl⟩:=h ob h1;cases ob' <;> simp[sameShape]at z
  grind
 | mp d y h=>
  refine .mp d y λob' w=>?_
  obtain⟨ob,h1,G,z⟩:=B d (by simp[SV.cU]) ob' w
  obtain⟨O,rfl,rfl⟩:=h ob h1;cases ob' <;> simp[sameShape]at z
  grind
 | clo f a b C Q D S hva T t I=>
  exact .clo f a b C Q D S (λj u v hu hv=>t j u v hu hv λd A=>B d (by simp[SV.cU,qv hu A])) (λj u v hu hv=>I j u v hu hv λd A=>B d (by simp[SV.cU,qv hu A]))
 | tup a C D hva t=>
  exact .tup a C D (λj u v hu hv=>t j u v hu hv λd A=>B d (by simp[SV.cU,qv hu A]))
 | agg a C D hva t=>
  exact .agg a C D (λj u v hu hv=>t j u v hu hv λd A=>B d (by simp[SV.cU,qv hu A]))
 | yl id=>exact .yl id
theorem bX.mono {sv:List SV} {y:List V} (B:∀id,Z id->Z' id/\bk H' id=bk H id)
 (r:bX ν m H Z sv y) (D:∀d,SV.dy d sv=true->∀ob',bg m' d=some ob'->∃ob,bg m d=some ob/\ν' d=ν d/\sameShape ob ob'):bX ν' m' H' Z' sv y:=
 ⟨r.1,λj u v hu hv=>(r.2 j u v hu hv).mono B λd t=>D d (qv hu t)⟩
theorem bX.nil:bX ν m H Z [] []:=⟨rfl,by simp⟩
theorem bX.cons {x:SV} {y:V} {xs:List SV} {ys:List V} (h:cW ν m H Z x y) (r:bX ν m H Z xs ys):bX ν m H Z (x::xs) (y::ys):=by
 refine⟨by simp[r.1],λj u v hu hv=>?_⟩
 cases j with
 | zero=>grind
 | succ j=>exact r.2 j u v (by grind) (by grind)
theorem bX.inv {x:SV} {xs:List SV} {B:List V} (r:bX ν m H Z (x::xs) B):∃y ys,B=y::ys/\cW ν m H Z x y/\bX ν m H Z xs ys:=by
 cases B with
 | nil=>have:=r.1;grind
 | cons y ys=>
  refine⟨y,ys,rfl,r.2 0 x y rfl rfl,by have:=r.1;grind,λj u v hu hv=>r.2 (j+1) u v (by grind) (by grind)⟩
theorem bX.cK {B:List V} (r:bX ν m H Z [] B):B=[]:=by
 have:=r.1
 grind
theorem bX.get {xs:List SV} {ys:List V} (r:bX ν m H Z xs ys) {j:Nat} {u:SV} (h:xs[j]? = some u):∃v,ys[j]? = some v/\cW ν m H Z u v:=by
 have t  := (ζe.1 h).1;have:j<ys.length:=by rw[<-r.1];omega
 exact⟨ys[j],ζd this,r.2 j u _ h (ζd this)⟩
theorem bX.append {a c:List SV} {b d:List V} (h:bX ν m H Z a b) (k:bX ν m H Z c d):bX ν m H Z (a++c) (b++d):=by
 refine⟨by simp[h.1,k.1],λj u v hu hv=>?_⟩
 by_cases t:j<a.length
 .rw[List.getElem?_append_left t]at hu;rw[List.getElem?_append_left (by rw[<-h.1];omega)]at hv
  exact h.2 j u v hu hv
 .rw[List.getElem?_append_right (by omega)]at hu
  rw[List.getElem?_append_right (by rw[<-h.1];omega),<-h.1]at hv
  exact k.2 _ u v hu hv
theorem bX.take {a:List SV} {b:List V} (h:bX ν m H Z a b) (n:Nat):bX ν m H Z (a.take n) (b.take n):=by
 refine⟨by simp[h.1],λj u v hu hv=>?_⟩
 rw[List.getElem?_take]at hu hv;split at hu
 .rename_i t;rw[if_pos t]at hv;exact h.2 j u v hu hv
 grind
theorem bX.drop {a:List SV} {b:List V} (h:bX ν m H Z a b) (n:Nat):bX ν m H Z (a.drop n) (b.drop n):=by
 refine⟨by simp[h.1],λj u v hu hv=>?_⟩
 rw[List.getElem?_drop]at hu hv;exact h.2 _ u v hu hv
theorem cW.fr {x y:V} (r:cW ν m H Z (.v x) y):FR H Z x y:=by cases r;assumption
theorem bX.pW {xs ys:List V} (r:cV H Z xs ys):bX ν m H Z (xs.map .v) ys:=by
 refine⟨by simp[r.1],λj u v hu hv=>?_⟩
 rw[List.getElem?_map,ζf]at hu;obtain⟨x,t,rfl⟩:=hu;exact .v x v (r.2 j x v t hv)
theorem qg:∀{svs:List SV} {xs:List V},dn svs=some xs->svs=xs.map .v
 | [],xs,h=>by simp[dn]at h;grind
 | x::r,xs,h=>by
  cases x <;> simp only[dn]at h <;> first|grind|skip
  obtain⟨t,B,rfl⟩:=ζf.1 h;rw[qg B];rfl
theorem bX.RJ {xs ys:List V} (r:bX ν m H Z (xs.map .v) ys):cV H Z xs ys:=by
 refine⟨by have:=r.1;grind,λj u v hu hv=>?_⟩
 have:(xs.map SV.v)[j]? = some (.v u):=by grind
 exact(r.2 j _ v this hv).fr
end
end Go.VE
namespace Go.VE
variable [bN]
section
variable {ν:Nu} {Z:Nat->Prop} {st:St} {m:Tb bD} {F:Frame} {H H1:bf} {N:Nat->FuncId}
def oE (nm:FuncId->Option Nat):Operand->Option Arg
 | .tmp t=>some (.s t)
 | .const v=>match ofValue 4 v with
  | some c=>if c.good then some (.k c)else none
  | none=>none
 | .func f=>(nm f).map .f
 | .global g=>match bN.gl g with
  | some cs=>if(V.fptr cs).good then some (.k (.fptr cs))else none
  | none=>none
theorem Cd {nm:FuncId->Option Nat} (D:∀f s,nm f=some s->N s=f) {g:Tb SV} (G:∀s sv,bg g s=some sv->cW ν m H Z sv (get F s)) {o:Operand} {x:Arg} {sv:SV} (B:oE nm o=some x) (hv:pe N g x=some sv) :
 ∃y,ev F o=some y/\cW ν m H Z sv y:=by
 cases o with
 | tmp t=>
  simp[oE]at B;subst B;exact⟨get F t,rfl,G t sv hv⟩
 | const w=>
  simp[oE]at B;split at B
  .rename_i c hc;split at B
   .rename_i u;simp  at B;subst B;simp[pe]at hv;subst hv;exact⟨c,hc,.v _ _ (.same _ u)⟩
   grind
  grind
 | func f=>
  simp[oE]at B;obtain⟨z,A,rfl⟩:=B;simp[pe]at hv;subst hv;exact⟨_,rfl,.v _ _ (by rw[D f z A];exact .same _ rfl)⟩
 | global i=>
  simp[oE]at B;split at B
  .rename_i c hc;split at B
   .rename_i u;simp  at B;subst B;simp[pe]at hv;subst hv;exact⟨.fptr c,by simp[ev,hc],.v _ _ (.same _ u)⟩
   grind
  grind
theorem ot {nm:FuncId->Option Nat} (D:∀f s,nm f=some s->N s=f) {g:Tb SV} (G:∀s sv,bg g s=some sv->cW ν m H Z sv (get F s)):∀{os:List Operand} {xs:List Arg} {svs:List SV},
 os.mapM (oE nm)=some xs->bV N g xs=some svs->∃ys,eY F os=some ys/\bX ν m H Z svs ys
 | [],xs,svs,B,hv=>by
  simp  at B;subst B;simp[bV]at hv;subst hv;exact⟨[],rfl,.nil⟩
 | o::os,xs,svs,B,hv=>by
  simp[ζg]at B;obtain⟨x,J,ys,O,rfl⟩:=B;simp[bV]at hv;split at hv
  .rename_i v z h1 u;simp  at hv;subst hv;obtain⟨a,B,w⟩:=Cd D G J h1;obtain⟨az,has,t⟩:=ot D G O u;exact⟨a::az,by simp[eY,B,has],.cons w t⟩
  grind
theorem cW.jv {d:Nat} {y:V} (r:cW ν m H Z (.own d) y) {ob:bD} (h:bg m d=some ob):∃k es xs,ob=.sl k es xs/\y=qm (ν d) k es xs.length:=by
 cases r with|own _ _ t=>grind
theorem cW.nH {d o:Nat} {y:V} (r:cW ν m H Z (.ptr d o) y) {ob:bD} (h:bg m d=some ob):∃cs,ob=.box cs/\y=.hptr (ν d).1 0 o:=by
 cases r with|ptr _ _ _ t=>grind
theorem cW.vV {d i o:Nat} {y:V} (r:cW ν m H Z (.el d i o) y) {ob:bD} (h:bg m d=some ob):∃k es xs,ob=.sl k es xs/\cw k=true/\y=.hptr (ν d).1 ((ν d).2+i) o:=by
 cases r with|el _ _ _ _ t=>grind
theorem cW.Bj {d:Nat} {y:V} (r:cW ν m H Z (.mp d) y) {ob:bD} (h:bg m d=some ob):∃B,ob=.mp B/\y=.hmap (ν d).1:=by
 cases r with|mp _ _ t=>grind
theorem cW.jk {f:FuncId} {a b:List SV} {y:V} (r:cW ν m H Z (.clo f a b) y):∃a' B,y=.clo f a' B/\bX ν m H Z a a'/\bX ν m H Z b B:=by
 cases r with|clo _ _ _ a' B u w hva t=>exact⟨a',B,rfl,⟨u,hva⟩,⟨w,t⟩⟩
theorem cW.oM {a:List SV} {y:V} (r:cW ν m H Z (.tup a) y):∃a',y=.tup a'/\bX ν m H Z a a':=by
 cases r with|tup _ a' t hva=>exact⟨a',rfl,t,hva⟩
theorem cW.gR {a:List SV} {y:V} (r:cW ν m H Z (.agg a) y):∃a',y=.agg a'/\bX ν m H Z a a':=by
 cases r with|agg _ a' t hva=>exact⟨a',rfl,t,hva⟩
theorem qq {p:Nat×Nat} {k:Fl} {es len:Nat} (h:cw k=true):qm p k es len=.hsl p.1 es p.2 len:=by
 cases k <;> simp[cw]at h <;> rfl
theorem kA {x:SV} {y:V} (h:jV m x=true) (r:cW ν m H Z x y):y.cells=[y]/\y.one=true:=by
 cases x with
 | v x=>simp[jV]at h
 | own d=>
  obtain⟨ob,t⟩:=Option.isSome_iff_exists.1 h;obtain⟨k,es,u,rfl,rfl⟩:=r.jv t;cases k <;> exact⟨rfl,rfl⟩
 | ptr d o=>
  obtain⟨ob,t⟩:=Option.isSome_iff_exists.1 h;obtain⟨z,rfl,rfl⟩:=r.nH t;exact⟨rfl,rfl⟩
 | el d i o=>
  obtain⟨ob,t⟩:=Option.isSome_iff_exists.1 h;obtain⟨k,es,u,rfl,_,rfl⟩:=r.vV t;exact⟨rfl,rfl⟩
 | mp d=>
  obtain⟨ob,t⟩:=Option.isSome_iff_exists.1 h;obtain⟨w,rfl,rfl⟩:=r.Bj t;exact⟨rfl,rfl⟩
 | clo f a b=>obtain⟨A,B,rfl,_⟩:=r.jk;exact⟨rfl,rfl⟩
 | tup l=>simp[jV]at h
 | agg l=>simp[jV]at h
 | yl id=>simp[jV]at h
theorem JH {x:SV} {y:V} (h:uK m x=true) (r:cW ν m H Z x y):y.one=true:=by
 cases x with
 | v x=>
  have t:=r.fr;have u:x.one=true:=h;have hc:=t.cells;have e:x.cells=[x]:=by cases x <;> first|rfl|(simp[V.one]at u)
  rw[e]at hc;have h1:=hc.one;have w:=hc.1
  cases y with
  | agg l=>
   cases t with
   | same _ _=>grind
   | agg _ _ _ _=>simp[V.one]at u
  | tup l=>
   cases t with
   | same _ _=>grind
   | tup _ _ _ _=>simp[V.one]at u
  | _=>rfl
 | own d=>exact(kA  (x:=.own d) h r).2
 | ptr d o=>exact(kA  (x:=.ptr d o) h r).2
 | el d i o=>exact(kA  (x:=.el d i o) h r).2
 | mp d=>exact(kA  (x:=.mp d) h r).2
 | clo f a b=>exact(kA  (x:=.clo f a b) h r).2
 | tup l=>simp[uK,jV]at h
 | agg l=>simp[uK,jV]at h
 | yl id=>simp[uK,jV]at h
theorem DA {l:List SV} {ys:List V} (h:l.all (uK m)=true) (r:bX ν m H Z l ys):ys.all V.one=true:=by
 refine List.all_eq_true.2 λy u=>?_
 obtain⟨j,w,e⟩:=List.mem_iff_getElem.1 u;have t:j<l.length:=by rw[r.1];omega
 exact JH (List.all_eq_true.1 h _ (List.getElem_mem t)) (r.2 j _ y (ζd t) (by grind))
theorem Ll {x:SV} {y:V} {c:List SV} (h:vS m x=some c) (r:cW ν m H Z x y):bX ν m H Z c y.cells:=by
 unfold vS at h;split at h
 .cases h;exact bX.pW r.fr.cells
 .cases h;obtain⟨w,rfl,t⟩:=r.gR;exact t
 .split at h
  .rename_i u;cases h;rw[(kA u r).1];exact .cons r .nil
  simp_all
theorem Es:∀{pl:List (Nat×Nat)} {vs cells l:List SV} {B cells':List V},bX ν m H Z cells cells'->bX ν m H Z vs B->qQ m cells pl vs=some l->∃D,oV cells' pl B=some D/\bX ν m H Z l D
 | [],[],cells,l,B,cells',hc,hv,h=>by
  rw[hv.cK];simp[qQ]at h;subst h;exact⟨_,rfl,hc⟩
 | [],_::_,_,_,_,_,_,_,h=>by simp[qQ]at h
 | _::_,[],_,_,_,_,_,_,h=>by simp[qQ]at h
 | (off,size)::pl,v::vs,cells,l,B,cells',hc,hv,h=>by
  obtain⟨w,G,rfl,h1,J⟩:=hv.inv;simp only[qQ]at h;split at h
  .rename_i c u;have hr:=Ll u h1;split at h
   .obtain⟨D,e1,e2⟩:=Es   (cells':=cells'.take off++w.cells++cells'.drop (off+w.cells.length)) (by rw[<-hr.1];exact((hc.take off).append hr).append (hc.drop _)) J h
    have t:w.cells.length=size/\off+w.cells.length<=cells'.length:=by rw[<-hr.1,<-hc.1];omega
    simp[oV]
    grind
   simp_all
  simp_all
theorem FE {size o:Nat} {agg:Bool} {cs:List SV} {B:List V} {sv:SV} (h:bX ν m H Z cs B) (D:sj size agg ((cs.drop o).take size)=some sv):∃y,(cut B o size).bind (mk agg)=some y/\cW ν m H Z sv y:=by
 have t:=(h.drop o).take size;unfold sj at D;split at D
 .have hc:cut B o size=some ((B.drop o).take size):=by
   unfold cut;rw[if_pos (by rw[<-t.1];omega)]
  rw[hc];split at D
  .split at D
   .rename_i C u;cases D;have w  := by rw[qg u]at t;exact t.RJ
    exact⟨_,by unfold mk;grind,.v _ _ (.agg _ _ w.1 w.2)⟩
   .cases D;exact⟨_,by unfold mk;grind,.agg _ _ t.1 t.2⟩
  .split at D
   .rename_i x u;simp  at D;subst D;rw[u]at t;obtain⟨y,G,e,z,A⟩:=t.inv;rw[e,A.cK];exact⟨y,by unfold mk;grind,z⟩
   grind
 grind
theorem MU {p:tf} {svs:List SV} {ys:List V} {sv:SV} (hb:∀zero pl,p=.build zero pl->V.cq zero=true) (ho:∀d ob,bg m d=some ob->dI ν m H Z d ob) (h:bX ν m H Z svs ys) (B:u5 N m p svs=some sv):∃y,bh N p ys=some y/\cW ν m H Z sv y:=by
 unfold u5 at B;split at B
 .
  obtain⟨y,_,rfl,h1,w⟩:=h.inv;rw[w.cK];simp  at B;subst B;exact⟨y,rfl,h1⟩
 .obtain⟨y,_,rfl,h1,w⟩:=h.inv;rw[w.cK];split at B
  .rename_i J;simp  at B;subst B;obtain⟨ob,u⟩:=Option.isSome_iff_exists.1 J;obtain⟨cs,rfl,rfl⟩:=h1.nH u;exact⟨_,rfl,h1⟩
  grind
 .obtain⟨y,_,rfl,h1,w⟩:=h.inv;rw[w.cK];split at B
  .rename_i J;simp  at B;subst B;obtain⟨ob,u⟩:=Option.isSome_iff_exists.1 J;obtain⟨k,es,Q,rfl,hk,rfl⟩:=h1.vV u;exact⟨_,rfl,h1⟩
  grind
 .
  rename_i t a b;obtain⟨I,_,rfl,h1,w⟩:=h.inv;obtain⟨S,_,rfl,D,C⟩:=w.inv;obtain⟨w3,_,rfl,h5,h6⟩:=C.inv;rw[h1.fr.bool,h6.cK];simp  at B;refine⟨if t=true then S else w3,rfl,?_⟩
  grind
 .
  obtain⟨I,_,rfl,h1,w⟩:=h.inv;obtain⟨S,_,rfl,D,C⟩:=w.inv;rw[D.fr.bB,C.cK];split at B
  .rename_i k es Q u;split at B
   .simp_all
   .simp  at B;subst B;obtain⟨T,L,O,e,rfl⟩:=h1.jv u;cases e;cases k <;> first|grind|exact⟨_,rfl,.v _ _ (.same _ rfl)⟩
  grind
 .obtain⟨I,_,rfl,h1,w⟩:=h.inv;obtain⟨S,_,rfl,D,C⟩:=w.inv;rw[D.fr.bB,C.cK];split at B
  .rename_i k es Q u;split at B
   .simp_all
   .simp  at B;subst B;obtain⟨T,L,O,e,rfl⟩:=h1.jv u;cases e;cases k <;> first|grind|exact⟨_,rfl,.v _ _ (.same _ rfl)⟩
  grind
 .
  obtain⟨y,_,rfl,h1,w⟩:=h.inv;rw[w.cK];split at B
  .rename_i J;simp  at B;subst B;obtain⟨ob,u⟩:=Option.isSome_iff_exists.1 J;obtain⟨cs,rfl,rfl⟩:=h1.nH u;exact⟨_,rfl,.ptr _ _ _ λG A=>by grind⟩
  grind
 .obtain⟨y,_,rfl,h1,w⟩:=h.inv;rw[w.cK];split at B
  .rename_i J;simp  at B;subst B;obtain⟨ob,u⟩:=Option.isSome_iff_exists.1 J;obtain⟨k,es,Q,rfl,hk,rfl⟩:=h1.vV u;exact⟨_,rfl,.el _ _ _ _ λG A=>by rw[u]at A;cases A;exact⟨_,_,_,rfl,hk,rfl⟩⟩
  .simp at B
 .
  obtain⟨I,_,rfl,h1,w⟩:=h.inv;obtain⟨S,_,rfl,D,C⟩:=w.inv;rw[D.fr.int,C.cK];split at B
  .rename_i k es Q u;split at B
   .rename_i hc;obtain⟨hk,rfl,hn,U⟩:=hc;simp  at B;subst B;obtain⟨T,L,O,e,rfl⟩:=h1.jv u;cases e;rw[qq hk];refine⟨.hptr (ν _).1 ((ν _).2+_) 0,by simp only[bh,kg,if_neg (Int.not_lt.2 hn),true_and,if_pos U];rfl,.el _ _ _ _ λG A=>?_⟩
    rw[u]at A;cases A;exact⟨_,_,_,rfl,hk,rfl⟩
   .simp at B
  .simp at B
 .
  obtain⟨I,_,rfl,h1,w⟩:=h.inv;obtain⟨S,_,rfl,D,C⟩:=w.inv;rw[D.fr.int,C.cK];split at B
  .rename_i hc;simp  at B;subst B;obtain⟨ob,u⟩:=Option.isSome_iff_exists.1 hc.2.2;obtain⟨cs,rfl,rfl⟩:=h1.nH u;refine⟨.hptr (ν _).1 0 (_+_),by simp only[bh,uN,if_pos (And.intro hc.1 hc.2.1)];rfl,.ptr _ _ _ λG A=>?_⟩
   rw[u]at A;cases A;exact⟨_,rfl,rfl⟩
  .simp at B
 .obtain⟨I,_,rfl,h1,w⟩:=h.inv;obtain⟨S,_,rfl,D,C⟩:=w.inv;rw[D.fr.int,C.cK];split at B
  .rename_i hc;simp  at B;subst B;obtain⟨ob,u⟩:=Option.isSome_iff_exists.1 hc.2.2;obtain⟨k,es,Q,rfl,hk,rfl⟩:=h1.vV u;refine⟨.hptr (ν _).1 (_+_) (_+_),by simp only[bh,uN,if_pos (And.intro hc.1 hc.2.1)];rfl,.el _ _ _ _ λG A=>?_⟩
   rw[u]at A;cases A;exact⟨_,_,_,rfl,hk,rfl⟩
  .simp at B
 .
  obtain⟨I,_,rfl,h1,w⟩:=h.inv;rw[w.cK];split at B
  .rename_i k es Q u;simp  at B;subst B;obtain⟨T,L,O,e,rfl⟩:=h1.jv u;cases e;have:=ho _ _ u;simp[dI]at this;cases hk:k <;> simp[hk,cw]at this ⊢
   .subst this;exact⟨_,rfl,.v _ _ (.same _ rfl)⟩
   .subst this;exact⟨_,rfl,.v _ _ (.same _ rfl)⟩
   .exact⟨_,rfl,.v _ _ (.same _ rfl)⟩
   .exact⟨_,rfl,.v _ _ (.same _ rfl)⟩
  .simp at B
 .
  rename_i vs name k;simp  at B;subst B;exact⟨_,rfl,.clo _ _ _ _ _ (h.take k).1 (h.drop k).1 (h.take k).2 (h.drop k).2⟩
 .
  obtain⟨I,_,rfl,h1,w⟩:=h.inv;rw[w.cK];obtain⟨ws,rfl,W⟩:=h1.oM;obtain⟨z,hz,X⟩:=W.get B;exact⟨z,hz,X⟩
 .
  rename_i vs zero pl;obtain⟨l,hl,rfl⟩:=ζf.1 B;obtain⟨l',h1,w⟩:=Es (bX.pW (cV.same (hb zero pl rfl))) h hl;exact⟨.agg l',by simp[Go.VE.bh,h1],.agg _ _ w.1 w.2⟩
 .
  obtain⟨I,_,rfl,h1,w⟩:=h.inv;rw[w.cK];obtain⟨ws,rfl,W⟩:=h1.gR;obtain⟨y,hy,Y⟩:=FE W B;exact⟨y,by simp[Go.VE.bh];exact hy,Y⟩
 grind
theorem EU {p:tf} {svs:List SV} {ys:List V} {sv:SV} (D:∀zero pl,p=.build zero pl->V.cq zero=true) (G:∀d ob,bg m d=some ob->dI ν m H Z d ob) (h:bX ν m H Z svs ys) (B:je N m p svs=some sv) :
 ∃y,bh N p ys=some y/\cW ν m H Z sv y:=by
 unfold je at B;split at B
 .rename_i C t;obtain⟨z,u,rfl⟩:=ζf.1 B;rw[qg t]at h;obtain⟨w,h1,A⟩:=cV.bh D h.RJ u;exact⟨w,h1,.v _ _ A⟩
 .exact MU D G h B
theorem bX.dn {svs:List SV} {xs ys:List V} (h:bX ν m H Z svs ys) (B:dn svs=some xs):cV H Z xs ys:=by
 rw[qg B]at h;exact h.RJ
theorem Aj {k:V}:∀{a b:List (V×V)} {i:Nat},BH H Z a b->(gA k a i=some none->gA k b i=some none)/\∀j v,gA k a i=some (some (j,v))->∃B,gA k b i=some (some (j,B))/\FR H Z v B
 | [],b,i,h=>by
  have:b=[]:=List.length_eq_zero_iff.1 (by have:=h.1;grind)
  subst this;exact⟨λh=>h,λj v h=>by simp[gA]at h⟩
 | (k1,x)::a,[],i,h=>by have:=h.1;grind
 | (k1,x)::a,(k2,y)::b,i,h=>by
  obtain⟨⟨e,_⟩,w⟩:=h.2 0 _ _ rfl rfl;subst e;have t:BH H Z a b:=⟨by have:=h.1;grind,λj u v hu hv=>h.2 (j+1) u v (by grind) (by grind)⟩
  have z:=Aj (i:=i+1) (k:=k) t;simp only[gA]
  grind
theorem tu {kk:tT} {k:V} (h:oq kk k=true):k.scalar=true:=by
 unfold oq at h;split at h
 .rfl
 .rfl
 .simp  at h;obtain⟨a,t⟩:=Option.isSome_iff_exists.1 h.2;exact pZ t
 grind
theorem uo {r:GX} {svs:List SV} {ys:List V} {sv:SV} (ab:∀s a,r≠.loadF s a) (U:∀kk z ok,r=.lookup kk z ok->z.good=true) (h:bX ν m H Z svs ys) (ho:∀d,SV.dy d svs=true->∀ob,bg m d=some ob->dI ν m H Z d ob) (B:lB m r svs=some sv) :
 ∃y,ey H r ys=some y/\cW ν m H Z sv y:=by
 unfold lB at B;split at B
 .
  obtain⟨W,_,rfl,h1,I⟩:=h.inv;rw[I.cK];split at B
  .rename_i cs t;obtain⟨al,e,rfl⟩:=h1.nH t;obtain⟨es,am,hr,hc,_⟩:=ho _ (by simp[SV.dy,SV.cU]) _ t
   obtain⟨y,hy,ad⟩:=FE hc B;refine⟨y,?_,ad⟩;simp[ey,dL,hr,Ob.rows,List.getElem?_cons_zero];omega
  grind
 .
  obtain⟨W,_,rfl,h1,I⟩:=h.inv;rw[I.cK];split at B
  .rename_i k es xs t;split at B
   .rename_i cs X;obtain⟨z,J,rfl⟩:=ζf.1 B;obtain⟨k1,an,ao,e,hk,rfl⟩:=h1.vV t;cases e;have:=ho _ (by simp[SV.dy,SV.cU]) _ t
    simp[dI,hk]at this;obtain⟨rs,hr,hl,w,_⟩:=this;obtain⟨c,hc,ae⟩:=w.get X;have hj:=(ζe.1 X).1;rw[List.getElem?_take,if_pos hj,List.getElem?_drop]at hc;obtain⟨r1,u,A⟩:=ζg.1 J;obtain⟨r2,O,C⟩:=ae.cut u;obtain⟨z',Q,Y⟩:=C.mk A;refine⟨z',?_,.v _ _ Y⟩;simp[ey,dL,hr,Ob.rows,hc,O,Q]
   grind
  grind
 .
  rename_i size agg p;obtain⟨W,_,rfl,h1,I⟩:=h.inv;rw[I.cK];obtain⟨z,J,rfl⟩:=ζf.1 B;obtain⟨r1,u,A⟩:=ζg.1 J;unfold dL at u;split at u
  .rename_i cs;rcases h1.fr.kI with rfl|⟨id,el,off,es,ys,af,rfl,Y,hr,he,ap,w⟩
   .refine⟨z,by simp[ey,dL,u,A],.v _ _ (.same _ ?_)⟩
    have ah  := by have:=h1.fr.good;simpa [V.good]using this
    obtain⟨r',aq,C⟩:=(cV.same (H:=H) (Z:=Z) ah).cut u;obtain⟨z',Q,D⟩:=C.mk A;exact D.good
   .obtain⟨r2,O,C⟩:=w.cut u;obtain⟨z',Q,D⟩:=C.mk A;refine⟨z',?_,.v _ _ D⟩;unfold bk at hr;simp[ey,dL,hr,he];have:cut af off size=some r2:=by
     unfold cut at O ⊢
     grind
    grind
  .grind
  grind
 .
  rename_i kk z ok d k;obtain⟨W,_,rfl,h1,I⟩:=h.inv;obtain⟨w2,_,rfl,h3,h4⟩:=I.inv;rw[h4.cK];split at B
  .rename_i S t;split at B
   .rename_i hk;obtain⟨_,e,rfl⟩:=h1.Bj t;have T:=h3.fr.scalar.1 (tu hk);subst T;obtain⟨ak,hr,ai⟩:=ho _ (by simp[SV.dy,SV.cU]) _ t
    obtain⟨f1,f2⟩:=Aj   ai;split at B
    .rename_i j v w;obtain⟨v',aj,aa⟩:=f2 j v w;simp  at B;subst B;refine⟨if ok=true then .tup [v',.bool true]else v',by simp[ey,lG,hr,hk,aj],?_⟩
     cases ok
     .exact .v _ _ aa
     .refine .v _ _ (.tup _ _ rfl (cV.cons aa (.cons (.same _ rfl) .nil)).2)
    .rename_i w;simp  at B;subst B;refine⟨if ok=true then .tup [z,.bool false]else z,by simp[ey,lG,hr,hk,f1 w],?_⟩
     have J:=U kk z ok rfl;cases ok
     .exact .v _ _ (.same _ J)
     .exact .v _ _ (.same _ (by simp[V.good,V.cq,J]))
    grind
   grind
  grind
 .
  rename_i kk z ok p k;obtain⟨W,_,rfl,h1,I⟩:=h.inv;obtain⟨w2,_,rfl,h3,h4⟩:=I.inv;rw[h4.cK];obtain⟨x,G,rfl⟩:=ζf.1 B;simp[ey]at G;have J:=U kk z ok rfl;split at G
  .rename_i S L;have key:lG H W=some S/\V.rj S=true:=by
    unfold lG at L;split at L
    .rw[h1.fr.fB];simp  at L;subst L;exact⟨rfl,rfl⟩
    .rw[h1.fr.fmap];simp  at L;subst L;exact⟨rfl,by have:=h1.fr.good;simpa [V.good]using this⟩
    .simp at L
    .simp at L
   split at G
   .rename_i hk;have T:=h3.fr.scalar.1 (tu hk);subst T;split at G
    .rename_i j v w;simp  at G;subst G;have hv  := by
      have:∀{l:List (V×V)} {i:Nat},V.rj l=true->gA w2 l i=some (some (j,v))->v.good=true:=by
       intro l
       induction l with
       | nil=>intro i _ h;simp[gA]at h
       | cons p l ih=>
        intro i hg h;simp[V.rj]at hg;simp[gA]at h;split at h
        .obtain⟨_,rfl⟩:=h;exact hg.1.2
        .exact ih hg.2 h
        .simp at h
      exact this key.2 w
     refine⟨if ok=true then .tup [v,.bool true]else v,by simp[ey,key.1,hk,w],?_⟩
     cases ok
     .exact .v _ _ (.same _ hv)
     .exact .v _ _ (.same _ (by simp[V.good,V.cq,hv]))
    .rename_i w;simp  at G;subst G;refine⟨if ok=true then .tup [z,.bool false]else z,by simp[ey,key.1,hk,w],?_⟩
     cases ok
     .exact .v _ _ (.same _ J)
     .exact .v _ _ (.same _ (by simp[V.good,V.cq,J]))
    .simp at G
   .simp at G
  .simp at G
 .exact absurd rfl (ab _ _)
 grind
end
end Go.VE
namespace Go.VE
variable [bN]
section
variable {Rv:Nat->Prop} {ν ν':Nu} {Z Z':Nat->Prop} {st st':St} {m m':Tb bD} {F F':Frame} {H H':bf}
theorem R.lt (r:R ν Z st F H) {id:Nat} (h:fm ν st.m id):id<H.length:=by
 obtain⟨d,ob,h1,t,rfl⟩:=h;have:=r.obj d ob h1
 cases ob with
 | sl k es A=>
  simp only[cB]at t;simp only[dI,t,if_true]at this;obtain⟨B,hr,_⟩:=this;exact(ζe.1 hr).1
 | box C=>obtain⟨es,w,hr,_⟩:=this;exact(ζe.1 hr).1
 | mp z=>obtain⟨u,hr,_⟩:=this;exact(ζe.1 hr).1
theorem R.uf (r:R ν Z st F H) {id:Nat} (h:Z id):id<H.length:=by
 have:=r.zrow id h;unfold bk at this;obtain⟨x,t⟩:=Option.isSome_iff_exists.1 this;obtain⟨ob,h1,_⟩:=ζg.1 t;exact(ζe.1 h1).1
theorem Deep.mono (d:Deep H Z) (h:∀id,Z id->bk H' id=bk H id):Deep H' Z where
 row:=λid es w t hr c hc u hu=>by
  rw[h id t]at hr;obtain⟨x,z⟩:=d.row id es w t hr c hc u hu;exact⟨x,z.mono λk hk=>⟨hk,h k hk⟩⟩
theorem th.mono {ys:List (List V)} (h:∀id,Z id->Z' id/\bk H' id=bk H id) (s:th H Z ys):th H' Z' ys:=λc hc u hu=>by
 obtain⟨x,t⟩:=s c hc u hu;exact⟨x,t.mono h⟩
theorem BH.mono {a b:List (V×V)} (h:∀id,Z id->Z' id/\bk H' id=bk H id) (s:BH H Z a b):BH H' Z' a b:=⟨s.1,λj u v hu hv=>⟨(s.2 j u v hu hv).1,(s.2 j u v hu hv).2.mono h⟩⟩
theorem dI.mono {d J:Nat} {ob:bD} (B:∀id,Z id->Z' id/\bk H' id=bk H id) (D:ν' J=ν d) (G:cB ob=true->H'[(ν d).1]? = H[(ν d).1]?)
 (O:∀e,ob.cU e=true->∀ob',bg m' e=some ob'->∃ob,bg m e=some ob/\ν' e=ν e/\sameShape ob ob') (o:dI ν m H Z d ob):dI ν' m' H' Z' J ob:=by
 cases ob with
 | sl k es Q=>
  simp only[dI,D]at o ⊢;split
  .rename_i hk;rw[if_pos hk]at o;obtain⟨A,h1,t,w,C,I⟩:=o;exact⟨A,by rw[G (by simpa [cB]using hk)];exact h1,t,w.mono B,C.mono B,I⟩
  .rename_i hk;rw[if_neg hk]at o;exact o
 | box S=>
  obtain⟨es,z,h1,t,w⟩:=o;exact⟨es,z,by rw[D,G rfl];exact h1,t.mono B O,w⟩
 | mp L=>
  obtain⟨u,h1,t⟩:=o;exact⟨u,by rw[D,G rfl];exact h1,t.mono B⟩
theorem hU (ν:Nu) (m:Tb bD) (e:Nat):∀ob',bg m e=some ob'->∃ob,bg m e=some ob/\ν e=ν e/\sameShape ob ob':=λob' h=>⟨ob',h,rfl,.refl _⟩
theorem R.heap (r:R ν Z st F H) (D:∀id,fm ν st.m id->H'[id]? = H[id]?) (B:∀id,Z id->bk H' id=bk H id):R ν Z st F H' where
 slot:=λs u w=>(r.slot s u w).mono (λid h=>⟨h,B id h⟩) λd _=>hU ν st.m d
 obj:=λd ob t=>dI.mono (λid h=>⟨h,B id h⟩) rfl (λz=>D _ ⟨d,ob,t,z,rfl⟩) (λe _=>hU ν st.m e) (r.obj d ob t)
 inj:=r.inj
 apart:=r.apart
 zrow:=λid h=>by rw[B id h];exact r.zrow id h
 deep:=r.deep.mono B
theorem R.put (r:R ν Z st F H) {d:Nat} {sv:SV} {y:V} (h:cW ν st.m H Z sv y):R ν Z { st with g:=bJ st.g d sv } (set F d y) H where
 slot:=λs x t=>by
  by_cases e:d=s
  .subst e;rw[cA]at t;cases t;rw[qN];exact h
  .rw[dP st.g sv e]at t;rw[gw _ _ e];exact r.slot s x t
 obj:=r.obj
 inj:=r.inj
 apart:=r.apart
 zrow:=r.zrow
 deep:=r.deep
theorem Ev.slots (g:Tb SV):Ev Rv ν Z st H ν Z { st with g:=g } H:=
 ⟨Nat.le_refl _,λ_ _ _ _ _=>rfl,λ_ h=>⟨h,rfl⟩,λ_ h=>.inl h,λ_ h=>.inl h,λ_ _ t h=>⟨t,h,rfl,.refl _⟩,rfl⟩
def iD (ν:Nu) (d:Nat) (p:Nat×Nat):Nu:=λk=>if k=d then p else ν k
theorem gQ (ν:Nu) (d:Nat) (p:Nat×Nat):iD ν d p d=p:=if_pos rfl
theorem qF (ν:Nu) {d k:Nat} (p:Nat×Nat) (h:k≠d):iD ν d p k=ν k:=if_neg h
theorem lT {d:Nat} (h:st.new d=true):d∉st.pin/\bg st.m d=none/\tw d st.g=false/\qL d st.m=false:=by
 unfold St.new at h;simp only[ζh,Bool.not_eq_true',Option.isNone_iff_eq_none,List.contains_eq_mem,decide_eq_false_iff_not]at h;exact⟨h.1.1.1,h.1.1.2,h.1.2,h.2⟩
theorem rO {d:Nat} {ob:bD} {p:Nat×Nat} {e:Nat} (h:e≠d):∀ob',bg (bJ m d ob) e=some ob'->∃ob,bg m e=some ob/\iD ν d p e=ν e/\sameShape ob ob':=λob' t=>by
 rw[dP m ob (Ne.symm h)]at t;exact⟨ob',t,qF ν p h,.refl _⟩
theorem R.add (r:R ν Z st F H) {d:Nat} (O:st.new d=true) {ob:bD} {p:Nat×Nat} (D:cB ob=true->¬fm ν st.m p.1/\¬Z p.1) (U:dI (iD ν d p) (bJ st.m d ob) H Z d ob) :
 R (iD ν d p) Z { st with m:=bJ st.m d ob } F H:=by
 obtain⟨T,W,L,Q⟩:=lT O;have key:∀u t,bg (bJ st.m d ob) u=some t->u≠d->bg st.m u=some t:=λu t h e=>by rw[dP st.m ob (Ne.symm e)]at h;exact h
 refine⟨λs S I=>?_,λu t C=>?_,?_,?_,r.zrow,r.deep⟩
 .refine(r.slot s S I).mono (λid h=>⟨h,rfl⟩) λe J=>rO ?_
  rintro rfl;rw[wF L I]at J;cases J
 .by_cases e:u=d
  .subst e;simp only at C;rw[cA]at C;cases C;exact U
  .have A:=key u t C e;refine dI.mono (λid h=>⟨h,rfl⟩) (qF ν p e) (λ_=>rfl) (λk hk=>rO ?_) (r.obj u t A)
   rintro rfl;rw[wR Q A]at hk;cases hk
 .intro d1 d2 o1 o2 h1 B w G z
  by_cases e1:d1=d <;> by_cases e2:d2=d
  .rw[e1,e2]
  .subst e1;rw[gQ,qF ν p e2]at z;simp only at h1;rw[cA]at h1;cases h1;exact absurd ⟨d2,o2,key d2 o2 B e2,G,z.symm⟩ (D w).1
  .subst e2;rw[gQ,qF ν p e1]at z;simp only at B;rw[cA]at B;cases B;exact absurd ⟨d1,o1,key d1 o1 h1 e1,w,z⟩ (D G).1
  .rw[qF ν p e1,qF ν p e2]at z;exact r.inj d1 d2 o1 o2 (key d1 o1 h1 e1) (key d2 o2 B e2) w G z
 .intro d1 o1 h1 w
  by_cases e1:d1=d
  .subst e1;simp only at h1;rw[cA]at h1;cases h1;rw[gQ];exact(D w).2
  .rw[qF ν p e1];exact r.apart d1 o1 (key d1 o1 h1 e1) w
theorem GV {d:Nat} {ob:bD} {p:Nat×Nat} {id:Nat} (h:fm (iD ν d p) (bJ m d ob) id):fm ν m id\/(cB ob=true/\id=p.1):=by
 obtain⟨k,o,h1,u,t⟩:=h
 by_cases e:k=d
 .subst e;rw[cA]at h1;cases h1;rw[gQ]at t;exact .inr ⟨u,t.symm⟩
 .rw[qF ν p e]at t;rw[dP m ob (Ne.symm e)]at h1;exact .inl ⟨k,o,h1,u,t⟩
theorem Ev.add {d:Nat} (B:st.new d=true) {ob:bD} {p:Nat×Nat} (D:H.length<=H'.length) (G:∀id,id<H.length->¬Rv id->H'[id]? = H[id]?) (J:∀id,Z id->bk H' id=bk H id)
 (O:cB ob=true->Rv p.1\/H.length<=p.1):Ev Rv ν Z st H (iD ν d p) Z { st with m:=bJ st.m d ob } H' where
 len:=D
 same:=λid h _ _ hr=>G id h hr
 rows:=λid h=>⟨h,J id h⟩
 own:=λid h=>by
  rcases GV h with h|⟨h1,rfl⟩
  .exact .inl h
  .exact .inr (O h1)
 frz:=λid h=>.inl h
 pin:=λe u t h=>by
  have:e≠d:=by rintro rfl;exact(lT B).1 u
  exact rO this t h
 pins:=rfl
theorem R.fV (r:R ν Z st F H) {d:Nat} {ob ob':bD} (h0:bg st.m d=some ob) (D:sameShape ob ob') (U:cB ob'=cB ob) (O:∀id,id≠(ν d).1->H'[id]? = H[id]?) (B:cB ob=true)
 (W:dI ν (bJ st.m d ob') H' Z d ob'):R ν Z { st with m:=bJ st.m d ob' } F H':=by
 have w:∀id,Z id->Z id/\bk H' id=bk H id:=λid h=>⟨h,by
  unfold bk;rw[O id (by rintro rfl;exact r.apart d ob h0 B h)]⟩
 have L:∀e t,bg (bJ st.m d ob') e=some t->∃u,bg st.m e=some u/\ν e=ν e/\sameShape u t:=λe t h=>by
  by_cases k:e=d
  .subst k;rw[cA]at h;cases h;exact⟨ob,h0,rfl,D⟩
  .rw[dP st.m ob' (Ne.symm k)]at h;exact⟨t,h,rfl,.refl _⟩
 have A:∀e t,bg (bJ st.m d ob') e=some t->∃u,bg st.m e=some u/\cB u=cB t:=λe t h=>by
  by_cases k:e=d
  .subst k;rw[cA]at h;cases h;exact⟨ob,h0,U.symm⟩
  .rw[dP st.m ob' (Ne.symm k)]at h;exact⟨t,h,rfl⟩
 refine⟨λs Q D=>(r.slot s Q D).mono w λe _=>L e,λC t z=>?_,?_,?_,λid h=>by rw[(w id h).2];exact r.zrow id h,r.deep.mono λid h=>(w id h).2⟩
 .by_cases e:C=d
  .subst e;simp only at z;rw[cA]at z;cases z;exact W
  .simp only at z;rw[dP st.m ob' (Ne.symm e)]at z;refine dI.mono w rfl (λG=>O _ λh=>e (r.inj C d t ob z h0 G B h)) (λk _=>L k) (r.obj C t z)
 .intro d1 d2 o1 o2 h1 S I T X;obtain⟨p1,k1,J⟩:=A d1 o1 h1;obtain⟨p2,k2,Y⟩:=A d2 o2 S;exact r.inj d1 d2 p1 p2 k1 k2 (by rw[J];exact I) (by rw[Y];exact T) X
 .intro d1 o1 h1 I;obtain⟨p1,k1,J⟩:=A d1 o1 h1;exact r.apart d1 p1 k1 (by rw[J];exact I)
theorem Ev.fV (r:R ν Z st F H) {d:Nat} {ob ob':bD} (h0:bg st.m d=some ob) (G:sameShape ob ob') (O:cB ob'=cB ob) (D:∀id,id≠(ν d).1->H'[id]? = H[id]?) (B:cB ob=true) (J:H.length<=H'.length) :
 Ev Rv ν Z st H ν Z { st with m:=bJ st.m d ob' } H' where
 len:=J
 same:=λid _ w _ _=>D id λe=>w ⟨d,ob,h0,B,e.symm⟩
 rows:=λid h=>⟨h,by unfold bk;rw[D id (by rintro rfl;exact r.apart d ob h0 B h)]⟩
 own:=λid ⟨k,o,h1,z,u⟩=>by
  by_cases e:k=d
  .subst e;simp only at h1;rw[cA]at h1;cases h1;exact .inl ⟨k,ob,h0,B,u⟩
  .simp only at h1;rw[dP st.m ob' (Ne.symm e)]at h1;exact .inl ⟨k,o,h1,z,u⟩
 frz:=λid h=>.inl h
 pin:=λe _ t h=>by
  by_cases k:e=d
  .subst k;simp only at h;rw[cA]at h;cases h;exact⟨ob,h0,rfl,G⟩
  .simp only at h;rw[dP st.m ob' (Ne.symm k)]at h;exact⟨t,h,rfl,.refl _⟩
 pins:=rfl
theorem R.less (r:R ν Z st F H) {g:Tb SV} {m':Tb bD} (hg:∀s sv,bg g s=some sv->bg st.g s=some sv) (B:∀d ob,bg m' d=some ob->bg st.m d=some ob):R ν Z { st with g:=g,m:=m' } F H where
 slot:=λs sv w=>(r.slot s sv (hg s sv w)).mono (λid h=>⟨h,rfl⟩) λe _ t h=>⟨t,B e t h,rfl,.refl _⟩
 obj:=λd ob z=>dI.mono (λid h=>⟨h,rfl⟩) rfl (λ_=>rfl) (λe _ t h=>⟨t,B e t h,rfl,.refl _⟩) (r.obj d ob (B d ob z))
 inj:=λd u ob t h1 A=>r.inj d u ob t (B d ob h1) (B u t A)
 apart:=λd ob h=>r.apart d ob (B d ob h)
 zrow:=r.zrow
 deep:=r.deep
theorem Ev.less {g:Tb SV} {m':Tb bD} (B:∀d ob,bg m' d=some ob->bg st.m d=some ob):Ev Rv ν Z st H ν Z { st with g:=g,m:=m' } H:=
 ⟨Nat.le_refl _,λ_ _ _ _ _=>rfl,λ_ h=>⟨h,rfl⟩,λ_ ⟨d,ob,h1,u,w⟩=>.inl ⟨d,ob,B d ob h1,u,w⟩,λ_ h=>.inl h,λe _ t h=>⟨t,B e t h,rfl,.refl _⟩,rfl⟩
theorem Ev.heap (B:H.length<=H'.length) (D:∀id,id<H.length->¬fm ν st.m id->¬Z id->¬Rv id->H'[id]? = H[id]?) (G:∀id,Z id->bk H' id=bk H id):Ev Rv ν Z st H ν Z st H':=
 ⟨B,D,λid h=>⟨h,G id h⟩,λ_ h=>.inl h,λ_ h=>.inl h,λ_ _ t h=>⟨t,h,rfl,.refl _⟩,rfl⟩
end
end Go.VE
namespace Go.VE
variable [bN]
section
variable {Rv:Nat->Prop} {ν ν':Nu} {Z Z':Nat->Prop} {st st':St} {m m':Tb bD} {F F':Frame} {H H':bf}
theorem fA.DT {xs ys:List (List V)} (h:fA H Z xs ys):th H Z ys:=λc hc u hu=>by
 obtain⟨i,w⟩:=List.mem_iff_getElem?.1 hc;have z:i<xs.length:=by rw[h.1];grind
 have hr:=h.2 i _ c (ζd z) w;obtain⟨j,A⟩:=List.mem_iff_getElem?.1 hu;have t:j<(xs[i]).length:=by rw[hr.1];grind
 exact⟨_,hr.2 j _ u (ζd t) A⟩
theorem fA.same {xs:List (List V)} (h:V.ny xs=true):fA H Z xs xs:=
 ⟨rfl,λj u v hu hv=>by rw[hu]at hv;cases hv;exact cV.same (j_.1 h j u hu)⟩
theorem mX {z:List V} (h:V.cq z=true):∀n,V.ny (List.replicate n z)=true
 | 0=>rfl
 | n+1=>by simp[List.replicate_succ,V.ny,h,mX h n]
theorem zB {es:Nat}:∀{ps qs:List (Nat×V)} {xs B r:List (List V)},fA H Z xs B->ps.map (·.1)=qs.map (·.1)->cV H Z (ps.map (·.2)) (qs.map (·.2))->fQ es xs ps=some r->∃G,fQ es B qs=some G/\fA H Z r G
 | [],qs,xs,B,r,D,h1,J,h=>by
  have:qs=[]:=by simp_all
  subst this;simp[fQ]at h ⊢;grind
 | (i,v)::ps,qs,xs,B,r,D,h1,J,h=>by
  cases qs with
  | nil=>simp_all
  | cons q qs=>
   obtain⟨j,w⟩:=q;simp  at h1;obtain⟨e,h1⟩:=h1;subst e;obtain⟨w',z,e,t,u⟩:=J.inv;obtain⟨rfl,rfl⟩:=e;have hc:=t.cells;simp only[fQ]at h ⊢;split at h
   .rw[if_pos ⟨by rw[<-hc.1];grind,by rw[<-D.1];grind,by rw[hc.one];grind⟩]
    exact zB (D.set i hc) h1 u h
   grind
theorem zip_fst:∀{idx:List Nat} {xs:List V},idx.length=xs.length->(idx.zip xs).map (·.1)=idx
 | [],xs,_=>by simp
 | i::idx,[],h=>by simp_all
 | i::idx,x::xs,h=>by simp[zip_fst (idx:=idx) (xs:=xs) (by grind)]
theorem Cn:∀{idx:List Nat} {xs:List V},idx.length=xs.length->(idx.zip xs).map (·.2)=xs
 | [],[],_=>by simp
 | [],x::xs,h=>by simp_all
 | i::idx,[],h=>by simp_all
 | i::idx,x::xs,h=>by simp[Cn (idx:=idx) (xs:=xs) (by grind)]
theorem K0 {a:JA} {svs:List SV} {ys:List V} {d:Nat} {ob:bD} {sv:SV} (hk:yY (.a a)=true) (r:bX ν m H Z svs ys) (h:mg m a svs d=some (ob,sv)) :
 ∃o mk,ig a ys=some (o,mk)/\cB ob=true/\o≠.free/\∀(id:Nat) (ν':Nu) (m':Tb bD) (H':bf),ν' d=(id,0)->bg m' d=some ob->H'[id]? = some o->(∀k,Z k->bk H' k=bk H k) ->
  (∀e,SV.dy e svs=true->∀ob',bg m' e=some ob'->∃ob,bg m e=some ob/\ν' e=ν e/\sameShape ob ob')->dI ν' m' H' Z d ob/\cW ν' m' H' Z sv (mk.val id):=by
 unfold mg at h;split at h
 .
  rename_i size zero;obtain⟨rfl,rfl⟩:=h;rw[r.cK];simp only[yY,ζh]at hk;refine⟨_,_,rfl,rfl,by simp,λid ν' m' H' e1 e2 e3 e4 e5=>⟨⟨_,zero,by rw[e1];omega,bX.pW (cV.same hk.1),hk.2⟩,?_⟩⟩
  exact .ptr _ _ _ λob' t=>by rw[e2]at t;cases t;exact⟨_,rfl,by rw[e1];rfl⟩
 .
  split at h
  .rename_i A;obtain⟨rfl,rfl⟩:=h;obtain⟨y,_,rfl,h1,z⟩:=r.inv;rw[z.cK];have hc:=h1.fr.cells;refine⟨.row y.cells.length [y.cells],.ptr,by simp[ig,hc.one,A],rfl,by simp,λid ν' m' H' e1 e2 e3 e4 e5=>⟨⟨_,y.cells,by rw[e1];omega,bX.pW (hc.mono λk hk=>⟨hk,e4 k hk⟩),by rw[hc.one];simp_all⟩,?_⟩⟩
   exact .ptr _ _ _ λob' t=>by rw[e2]at t;cases t;exact⟨_,rfl,by rw[e1];rfl⟩
  grind
 .
  split at h
  .rename_i w;obtain⟨rfl,rfl⟩:=h;obtain⟨y,_,rfl,h1,z⟩:=r.inv;rw[z.cK];obtain⟨J,rfl,S⟩:=h1.gR;have G:=DA w S;refine⟨.row J.length [J],.ptr,by simp[ig,V.cells,G],rfl,by simp,λid ν' m' H' e1 e2 e3 e4 e5=>⟨⟨_,J,by rw[e1];omega,S.mono (λk hk=>⟨hk,e4 k hk⟩) λe L=>e5 e (by simp[SV.dy,SV.cU,L]),G⟩,?_⟩⟩
   exact .ptr _ _ _ λob' t=>by rw[e2]at t;cases t;exact⟨_,rfl,by rw[e1];rfl⟩
  grind
 .
  split at h
  .rename_i w;obtain⟨rfl,rfl⟩:=h;obtain⟨y,_,rfl,h1,z⟩:=r.inv;rw[z.cK];obtain⟨T,G⟩:=kA w h1;refine⟨.row [y].length [[y]],.ptr,by simp[ig,T,G],rfl,by simp,λid ν' m' H' e1 e2 e3 e4 e5=>⟨⟨_,[y],by rw[e1];omega,.cons (h1.mono (λk hk=>⟨hk,e4 k hk⟩) λe L=>e5 e (by simp[SV.dy,L])) .nil,by simp_all⟩,?_⟩⟩
   exact .ptr _ _ _ λob' t=>by rw[e2]at t;cases t;exact⟨_,rfl,by rw[e1];rfl⟩
  grind
 .
  rename_i size zero k n k' c;obtain⟨_,_,rfl,h1,z⟩:=r.inv;obtain⟨_,_,rfl,U,W⟩:=z.inv;rw[h1.fr.int,U.fr.int,W.cK];split at h
  .rename_i hc;obtain⟨rfl,rfl⟩:=h;have O:cw (if n=c then Fl.row else Fl.part)=true:=by split <;> rfl
   refine⟨_,_,by simp only[ig];rw[if_pos hc],O,by simp,λid ν' m' H' e1 e2 e3 e4 e5=>⟨?_,?_⟩⟩
   .simp[dI,O,e1];have hg:=mX hk c.toNat;have Q:n.toNat<=c.toNat:=by omega
    refine⟨_,e3,by simp_all,?_,(fA.same hg).DT,λe=>?_⟩
    .simp[Nat.min_eq_left Q];exact fA.same (mX hk _)
    grind
   .refine .own _ _ λob' t=>?_
    rw[e2]at t;cases t;exact⟨_,_,_,rfl,by rw[qq O,e1];simp[Mk.val]⟩
  grind
 .
  rename_i vs size len zero idx;split at h
  .rename_i xs X;split at h
   .rename_i w;obtain⟨rows,hr,e⟩:=ζf.1 h;obtain⟨rfl,rfl⟩:=e;have I:=r.dn X;obtain⟨rows',B,u⟩:=zB   (qs:=idx.zip ys) (fA.same (mX hk len)) (by rw[zip_fst w,zip_fst (by rw[<-I.1];exact w)]) (by rw[Cn w,Cn (by rw[<-I.1];exact w)];exact I) hr
    have C:rows'.length=len:=by
     have:∀{ps:List (Nat×V)} {a r:List (List V)},fQ size a ps=some r->r.length=a.length:=by
      intro ps
      induction ps with
      | nil=>intro a r h;simp[fQ]at h;subst h;rfl
      | cons p ps Y=>
       intro a r h;simp only[fQ]at h;split at h
       .rw[Y h];simp
       .simp at h
     rw[this B];simp
    refine⟨.row size rows',.sl size len,by simp only[ig];rw[if_pos (by rw[<-I.1];exact w),B];rfl,rfl,by simp,λid ν' m' H' e1 e2 e3 e4 e5=>⟨?_,?_⟩⟩
    .have D:=u.mono   λk hk=>⟨hk,e4 k hk⟩
     simp only[dI,e1];refine⟨_,e3,by simp[u.1],?_,D.DT,λ_=>⟨trivial,u.1.symm⟩⟩
     simp[u.1];exact D
    .refine .own _ _ λob' t=>?_
     rw[e2]at t;cases t;exact⟨_,_,_,rfl,by rw[u.1,C];simp[qm,e1,Mk.val]⟩
   grind
  grind
 .
  obtain⟨rfl,rfl⟩:=h;rw[r.cK];refine⟨_,_,rfl,rfl,by simp,λid ν' m' H' e1 e2 e3 e4 e5=>⟨⟨_,by rw[e1];exact e3,rfl,by simp⟩,?_⟩⟩
  exact .mp _ _ λob' t=>by rw[e2]at t;cases t;exact⟨_,rfl,by rw[e1];rfl⟩
 grind
theorem bX.RY {cs:List SV} {B:List V} (h:bX ν m H Z cs B) {size o:Nat} {x:SV} {y:V} {r:List SV} (J:cW ν m H Z x y) (D:putCells m size o x cs=some r) (G:B.all V.one=true) :
 y.cells.length=size/\o+size<=B.length/\y.cells.all V.one=true/\bX ν m H Z r (B.take o++y.cells++B.drop (o+y.cells.length))/\(B.take o++y.cells++B.drop (o+y.cells.length)).all V.one=true:=by
 have t:∀k:Nat,(B.take k).all V.one=true/\(B.drop k).all V.one=true:=λk=>
  ⟨List.all_eq_true.2 λz w=>List.all_eq_true.1 G z (List.mem_of_mem_take w),List.all_eq_true.2 λz w=>List.all_eq_true.1 G z (List.mem_of_mem_drop w)⟩
 unfold putCells at D;split at D
 .split at D
  .rename_i hc;simp only[ζa]at D;subst D;have u:=J.fr.cells;refine⟨by rw[<-u.1];simp_all,by rw[<-h.1];grind,by rw[u.one];grind,?_,?_⟩
   .have e:y.cells.length=size:=by rw[<-u.1];simp_all
    rw[e];exact((h.take o).append (bX.pW u)).append (h.drop _)
   .simp only[List.all_append,(t _).1,(t _).2,u.one,hc.2.2,Bool.and_self]
  grind
 .split at D
  .rename_i hc;simp only[ζa]at D;subst D;obtain⟨A,rfl,C⟩:=J.gR;have I:=DA hc.2.2 C;have e:A.length=size:=by rw[<-C.1];simp_all
   refine⟨e,by rw[<-h.1];grind,I,?_,?_⟩
   .show bX ν m H Z _ (B.take o++A++B.drop (o+A.length));rw[e];exact((h.take o).append C).append (h.drop _)
   .simp[(t _).1,(t _).2,V.cells,I]
  grind
 .split at D
  .rename_i hc;simp only[ζa]at D;subst D;obtain⟨L,O⟩:=kA hc.1 J;rw[L];refine⟨by simp[hc.2.1],by rw[<-h.1];grind,by simp_all,?_,?_⟩
   .exact((h.take o).append (.cons J .nil)).append (h.drop _)
   grind
  grind
theorem sU {size:Nat} {x:SV} {y:V} {xs:List (List V)} (r:cW ν m H Z x y) (B:∀d ob,bg m d=some ob->dI ν m H Z d ob) (h:jq m size x=some xs):∃ys,dh H size y=some ys/\fA H Z xs ys:=by
 unfold jq at h;split at h
 .split at h
  .rename_i k es w t;obtain⟨_,_,_,e,rfl⟩:=r.jv t;cases e;have o:=B _ _ t;simp[dI]at o;split at h
   .rename_i hk;rw[if_pos hk]at o;split at h
    .rename_i u;simp  at h;subst h;obtain⟨ys,hr,z,A,_⟩:=o;rw[qq hk];exact⟨_,by simp[dh,if_pos u,hr,Ob.rows,if_pos z],A⟩
    grind
   .rename_i hk;simp  at h;subst h;refine⟨[],?_,rfl,by simp⟩
    cases k <;> simp[cw]at hk <;> rfl
  grind
 .simp  at h;subst h;rw[r.fr.bB];exact⟨[],rfl,rfl,by simp⟩
 .simp  at h;subst h;rw[r.fr.dg];exact⟨[],rfl,rfl,by simp⟩
 .split at h
  .rename_i es w u;simp  at h;subst h;have hg:=r.fr.good;rcases r.fr.kC with rfl|⟨id,off,ys,rfl,C,hr,z,A⟩
   .exact⟨_,by simp[dh,if_pos u],fA.same (by simpa [V.good]using hg)⟩
   .unfold bk at hr;exact⟨_,by simp[dh,if_pos u,hr,if_pos z],A⟩
  grind
 grind
theorem Ev.re {m1:Tb bD} (B:∀d ob,bg m1 d=some ob->bg st.m d=some ob) {d:Nat} (O:d∉st.pin) {ob:bD} {p:Nat×Nat} (D:H.length<=H'.length) (G:∀id,id<H.length->¬fm ν st.m id->¬Rv id->H'[id]? = H[id]?)
 (J:∀id,Z id->bk H' id=bk H id) (U:cB ob=true->fm ν st.m p.1\/Rv p.1\/H.length<=p.1):Ev Rv ν Z st H (iD ν d p) Z { st with m:=bJ m1 d ob } H' where
 len:=D
 same:=λid h z _ hr=>G id h z hr
 rows:=λid h=>⟨h,J id h⟩
 own:=λid h=>by
  rcases GV h with h|⟨h1,rfl⟩
  .obtain⟨k,o,h1,u,w⟩:=h;exact .inl ⟨k,o,B k o h1,u,w⟩
  grind
 frz:=λid h=>.inl h
 pin:=λe A t h=>by
  have:e≠d:=by grind
  obtain⟨o,h1,u,w⟩:=rO (ν:=ν) (p:=p) this t h
  grind
 pins:=rfl
def Kept (dst:Option Nat) (ν:Nu) (m:Tb bD) (ν':Nu) (m':Tb bD):Prop:=∀e t,dst≠some e->bg m' e=some t->∃ob,bg m e=some ob/\ν' e=ν e/\sameShape ob t
theorem Kept.refl {dst:Option Nat}:Kept dst ν m ν m:=λe t _ h=>⟨t,h,rfl,.refl _⟩
theorem Kept.fV {dst:Option Nat} {d:Nat} {ob ob':bD} (h0:bg m d=some ob) (B:sameShape ob ob'):Kept dst ν m ν (bJ m d ob'):=λe t _ h=>by
 by_cases k:e=d
 .subst k;rw[cA]at h;grind
 .rw[dP m ob' (Ne.symm k)]at h;exact⟨t,h,rfl,.refl _⟩
theorem Kept.add {d:Nat} {ob:bD} {p:Nat×Nat} {m1:Tb bD} (B:∀d ob,bg m1 d=some ob->bg m d=some ob):Kept (some d) ν m (iD ν d p) (bJ m1 d ob):=λe t u h=>by
 have:e≠d:=λh=>u (by rw[h])
 obtain⟨o,h1,w,z⟩:=rO (ν:=ν) (p:=p) this t h
 grind
theorem jw {d:Nat}:∀e ob,bg (dH d m) e=some ob->bg m e=some ob:=λ_ _ h=>(mH h).2
theorem BH.put {k x y:V} {a b r:List (V×V)} (G:k.scalar=true) (h:BH H Z a b) (J:FR H Z x y) (B:oI k x a=some r):∃D,oI k y b=some D/\BH H Z r D:=by
 unfold oI at B;obtain⟨f1,f2⟩:=Aj   h;split at B
 .rename_i j v A;simp  at B;subst B;obtain⟨I,z,_⟩:=f2 j v A;refine⟨b.set j (k,y),by unfold oI;rw[z],by simp[h.1],λi u w hu t=>?_⟩
  rw[List.getElem?_set]at hu t;split at hu
  .grind
  .rename_i e;rw[if_neg e]at t;exact h.2 i u w hu t
 .simp  at B;subst B;refine⟨b++[(k,y)],by unfold oI;simp_all,by simp[h.1],λi u w hu t=>?_⟩
  by_cases C:i<a.length
  .rw[List.getElem?_append_left C]at hu;rw[List.getElem?_append_left (by rw[<-h.1];omega)]at t
   exact h.2 i u w hu t
  .rw[List.getElem?_append_right (by rw[<-h.1];omega),<-h.1]at t
   grind
 grind
theorem HA (r:R ν Z st F H) {d:Nat} {cs:List SV} (B:bg st.m d=some (.box cs)):∀{l:List SV} {D:List V},bX ν st.m H Z l D->l.all (Iy st.m d)=true->D.all (pG (ν d).1)=true:=by
 intro l
 induction l with
 | nil=>intro D z _;rw[z.cK];rfl
 | cons a l J=>
  intro D z A;obtain⟨w,D,rfl,g1,g2⟩:=z.inv;simp only[List.all_cons,ζh]at A ⊢;refine⟨?_,J g2 A.2⟩;have t:=A.1;unfold Iy at t;split at t
  .rename_i L Q;simp  at t;obtain⟨C,G⟩:=t;split at G
   .rename_i O u;obtain⟨_,_,rfl⟩:=g1.nH u;simp[pG];exact λe=>C (r.inj L d _ _ u B rfl rfl e)
   grind
  .rcases FR.kI g1.fr with rfl|⟨id,el,off,_,_,_,rfl,I,_⟩
   .rfl
   .simp[pG];rintro rfl;exact r.apart d _ B rfl I
  grind
theorem Ap (r:R ν Z st F H) {dst:Option Nat} {l:Hg} {svs:List SV} {ys:List V} {sv:SV} (U:bX ν st.m H Z svs ys) (h:kR st dst l svs=some (sv,st')) :
 ∃y H' ν',eF H l ys=some (y,H')/\R ν' Z st' F H'/\cW ν' st'.m H' Z sv y/\Ev (λ_=>False) ν Z st H ν' Z st' H'/\Kept dst ν st.m ν' st'.m:=by
 unfold kR at h;split at h
 .
  rename_i size d o x;obtain⟨_,_,rfl,h1,h2⟩:=U.inv;obtain⟨y,_,rfl,h3,h4⟩:=h2.inv;rw[h4.cK];split at h
  .rename_i cs A;obtain⟨au,hp,e⟩:=ζf.1 h;obtain⟨rfl,rfl⟩:=e;obtain⟨_,_,rfl⟩:=h1.nH A;obtain⟨es,D,hr,hc,T⟩:=r.obj d _ A;obtain⟨p1,p2,p3,p4,p5⟩:=bX.RY hc h3 hp T;have I:∀id,id≠(ν d).1->(H.set (ν d).1 (.row es [D.take o++y.cells++D.drop (o+y.cells.length)]))[id]? = H[id]? := λid G=>by grind
   have C:∀id,Z id->Z id/\bk (H.set (ν d).1 (.row es [D.take o++y.cells++D.drop (o+y.cells.length)])) id=bk H id:=λid C=>⟨C,by
    unfold bk;rw[I id (by rintro rfl;exact r.apart d _ A rfl C)]⟩
   refine⟨.undef,H.set (ν d).1 (.row es [D.take o++y.cells++D.drop (o+y.cells.length)]),ν,?_,?_,.v _ _ (.same _ rfl),Ev.fV r A trivial rfl I rfl (by simp),Kept.fV A trivial⟩
   .simp only[eF,hr,List.getElem?_cons_zero,if_pos (And.intro p1 (And.intro p2 p3)),List.set_cons_zero]
   .refine r.fV A  trivial rfl I rfl ⟨es,_,?_,p4.mono C (λe _ O he=>?_),p5⟩
    .grind
    .by_cases k:e=d
     .subst k;rw[cA]at he;cases he;exact⟨_,A,rfl,trivial⟩
     .rw[dP st.m _ (Ne.symm k)]at he;exact⟨O,he,rfl,.refl _⟩
  grind
 .
  rename_i size d i o x;obtain⟨_,_,rfl,h1,h2⟩:=U.inv;obtain⟨y,_,rfl,h3,h4⟩:=h2.inv;rw[h4.cK];split at h
  .rename_i k es xs A;split at h
   .rename_i cs ah;split at h
    .rename_i hc;obtain⟨rfl,rfl⟩:=h;obtain⟨_,_,_,e,hk,rfl⟩:=h1.vV A;cases e;have ob:=r.obj d _ A;simp[dI,hk]at ob;obtain⟨rs,hr,hl,hf,ai,aj⟩:=ob;obtain⟨c,ak,ad⟩:=hf.get ah;have hi:=(ζe.1 ah).1;rw[List.getElem?_take,if_pos hi,List.getElem?_drop]at ak;have hy:=h3.fr.cells;have q1:y.cells.length=size:=by rw[<-hy.1];exact hc.1
     have W:o+size<=c.length:=by rw[<-ad.1];exact hc.2.1
     have q3:y.cells.all V.one=true:=by rw[hy.one];exact hc.2.2
     have B:cV H Z (cs.take o++x.cells++cs.drop (o+x.cells.length)) (c.take o++y.cells++c.drop (o+y.cells.length)):=by
      rw[hc.1,q1];exact((ad.take o).append hy).append (ad.drop _)
     generalize hN:(c.take o++y.cells++c.drop (o+y.cells.length))=nc at B;have I:∀id,id≠(ν d).1->(H.set (ν d).1 (.row es (rs.set ((ν d).2+i) nc)))[id]? = H[id]? := λid G=>by rw[List.getElem?_set];rw[if_neg (Ne.symm G)]
     have J  := hk;have C:∀id,Z id->Z id/\bk (H.set (ν d).1 (.row es (rs.set ((ν d).2+i) nc))) id=bk H id:=λid C=>⟨C,by
      unfold bk;rw[I id (by rintro rfl;exact r.apart d _ A J C)]⟩
     have ae:sameShape (.sl k es xs) (.sl k es (xs.set i (cs.take o++x.cells++cs.drop (o+x.cells.length)))):=⟨rfl,rfl,by simp⟩
     refine⟨.undef,H.set (ν d).1 (.row es (rs.set ((ν d).2+i) nc)),ν,?_,?_,.v _ _ (.same _ rfl),Ev.fV r A ae rfl I J (by simp),Kept.fV A ae⟩
     .simp only[eF,hr,ak,if_pos (And.intro q1 (And.intro W q3)),hN]
     .refine r.fV A ae rfl I J ?_;simp only[dI,hk];have av:=(ζe.1 hr).1;refine⟨_,List.getElem?_set_self av,by simpa using hl,?_,?_,λe=>?_⟩
      .have e1:List.take (xs.set i (cs.take o++x.cells++cs.drop (o+x.cells.length))).length (List.drop (ν d).2 (rs.set ((ν d).2+i) nc))=((rs.drop (ν d).2).take xs.length).set i nc:=by
        rw[List.length_set,List.drop_set,if_neg (by omega),List.take_set]
        congr 1;omega
       rw[e1];exact(hf.set i B).mono C
      .intro cc al u hu;rcases List.mem_or_eq_of_mem_set al with hm|rfl
       .obtain⟨z,aw⟩:=ai cc hm u hu;exact⟨z,aw.mono C⟩
       .obtain⟨j,hj⟩:=List.mem_iff_getElem?.1 hu;have am:=(ζe.1 hj).1;rw[<-B.1]at am;exact⟨_,(B.2 j _ u (ζd am) hj).mono C⟩
      .obtain⟨a1,Q⟩:=aj e;exact⟨a1,by simpa using Q⟩
    .simp at h
   grind
  grind
 .
  rename_i kk d k x;obtain⟨_,_,rfl,h1,h2⟩:=U.inv;obtain⟨k',_,rfl,h3,h4⟩:=h2.inv;obtain⟨y,_,rfl,h5,h6⟩:=h4.inv;rw[h6.cK];split at h
  .rename_i ax A;split at h
   .rename_i hk;obtain⟨aI,hp,e⟩:=ζf.1 h;simp  at e;obtain⟨rfl,rfl⟩:=e;obtain⟨_,_,rfl⟩:=h1.Bj A;have ay:=h3.fr.scalar.1 (tu hk);subst ay;obtain⟨aJ,hr,aA⟩:=r.obj d _ A;obtain⟨r',aB,aC⟩:=aA.put (tu hk) h5.fr hp;have I:∀id,id≠(ν d).1->(H.set (ν d).1 (.map r'))[id]? = H[id]? := λid G=>by rw[List.getElem?_set];rw[if_neg (Ne.symm G)]
    have C:∀id,Z id->Z id/\bk (H.set (ν d).1 (.map r')) id=bk H id:=λid C=>⟨C,by
     unfold bk;rw[I id (by rintro rfl;exact r.apart d _ A rfl C)]⟩
    refine⟨.undef,H.set (ν d).1 (.map r'),ν,?_,?_,.v _ _ (.same _ rfl),Ev.fV r A trivial rfl I rfl (by simp),Kept.fV A trivial⟩
    .simp[eF,hr,hk,aB]
    .refine r.fV A  trivial rfl I rfl ⟨r',?_,aC.mono C⟩;rw[List.getElem?_set_self (ζe.1 hr).1]
   .simp at h
  .simp at h
 .
  rename_i size s x;obtain⟨y1,_,rfl,h1,h2⟩:=U.inv;obtain⟨y2,_,rfl,h3,h4⟩:=h2.inv;rw[h4.cK];split at h
  .rename_i xs e1 e2;obtain⟨a1,p1,_⟩:=sU h1 r.obj e1;obtain⟨Q,p2,W⟩:=sU h3 r.obj e2;have  := List.length_eq_zero_iff.1 (by have:=W.1;simpa using this.symm)
   subst this
   cases dst with
   | none=>simp at h
   | some t=>
    have lit:∀(k:Fl) (x0:V),cw k=false->qm (ν t) k size 0=x0->st.new t=true->(∀y,FR H Z x0 y->y=x0)->FR H Z x0 y1 ->
     ∃y H' ν',eF H (.append size) [y1,y2]=some (y,H')/\R ν' Z { st with m:=bJ st.m t (.sl k size []) } F H'/\cW ν' (bJ st.m t (.sl k size [])) H' Z (.own t) y/\Ev (λ_=>False) ν Z st H ν' Z { st with m:=bJ st.m t (.sl k size []) } H'/\Kept (some t) ν st.m ν' (bJ st.m t (.sl k size [])):=λk x0 hk aD hn hx hf=>by
     have an:cB (.sl k size [])=true->False:=by simp[cB,hk]
     refine⟨y1,H,iD ν t (ν t),by simp[eF,p1,p2],r.add hn   (λh=>(an h).elim) (by simp[dI,hk]),.own _ _ λO h'=>?_,Ev.add  hn (Nat.le_refl _) (λ_ _ _=>rfl) (λ_ _=>rfl) (λh=>(an h).elim),Kept.add λ_ _ h=>h⟩
     rw[cA]at h';cases h';exact⟨_,_,_,rfl,by rw[gQ,hx _ hf];exact aD.symm⟩
    cases s with
    | own d=>
     dsimp only at h;split at h
     .rename_i ob A;split at h
      .rename_i B;simp  at h;obtain⟨rfl,rfl⟩:=h;simp[jq,A]at e1
       cases ob with
       | sl k es X=>
        obtain⟨_,_,_,e,rfl⟩:=h1.jv A;cases e;have r1:R ν Z { st with m:=dH d st.m } F H:=r.less  (λ_ _ h=>h) jw
        obtain⟨n1,_,_,_⟩:=lT B;have ao:dI (iD ν t (ν d)) (bJ (dH d st.m) t (.sl k es X)) H Z t (.sl k es X):=by
         have o:=r.obj d _ A;simp[dI,gQ]at o ⊢;exact o
        refine⟨qm (ν d) k es X.length,H,iD ν t (ν d),by simp[eF,p1,p2],r1.add B  (λhb=>⟨λS=>?_,r.apart d _ A hb⟩) ao,.own _ _ λO h'=>?_,?_,Kept.add jw⟩
        .obtain⟨k2,o2,g1,g2,g3⟩:=S;obtain⟨g4,g5⟩:=mH g1;exact g4 (r.inj d k2 _ o2 A g5 hb g2 g3.symm)
        .rw[cA]at h';cases h';exact⟨_,_,_,rfl,by rw[gQ]⟩
        .by_cases hb:cB (.sl k es X)=true
         .exact Ev.re  (m1:=dH d st.m) jw n1 (Nat.le_refl _) (λ_ _ _ _=>rfl) (λ_ _=>rfl) (λ_=>.inl ⟨d,_,A,hb,rfl⟩)
         .exact(Ev.less  jw).trans (Ev.add  B (Nat.le_refl _) (λ_ _ _=>rfl) (λ_ _=>rfl) λh=>absurd h hb)
       | box cs=>cases e1
       | mp ax=>cases e1
      .simp at h
     .simp at h
    | v x0=>
     cases x0 with
     | bB=>
      dsimp only at h;split at h
      .rename_i hn;simp  at h;obtain⟨rfl,rfl⟩:=h;exact lit .nil _ rfl rfl hn (λy h=>h.bB) h1.fr
      .simp at h
     | dg=>
      dsimp only at h;split at h
      .rename_i hn;simp  at h;obtain⟨rfl,rfl⟩:=h;exact lit .emp _ rfl rfl hn (λy h=>h.dg) h1.fr
      .simp at h
     | _=>simp at h
    | _=>simp at h
  .rename_i xs zs G e1 e2;split at h
   .rename_i hc;obtain⟨a1,p1,q1⟩:=sU h1 r.obj e1;obtain⟨Q,p2,W⟩:=sU h3 r.obj e2
    cases dst with
    | none=>simp at h
    | some t=>
     dsimp only at h;generalize ap:giveUp st.m s=m1 at h;split at h
     .rename_i B;simp  at h;obtain⟨rfl,rfl⟩:=h;obtain⟨n1,_,_,_⟩:=lT B;have grow:∃H1,gb H y1=some H1/\H1.length=H.length/\(∀id,¬fm ν st.m id->H1[id]? = H[id]?) /\
       (∀id,fm ν m1 id->H1[id]? = H[id]?)/\(∀id,Z id->bk H1 id=bk H id):=by
       subst ap
       cases s with
       | own d=>
        simp[jq]at e1;split at e1
        .rename_i k es X A;obtain⟨_,_,_,e,rfl⟩:=h1.jv A;cases e
         by_cases hk:cw k=true
         .have o:=r.obj d _ A;simp[dI,hk]at o;obtain⟨ys,hr,_⟩:=o;have J  := hk;have I:∀id,id≠(ν d).1->(H.set (ν d).1 .dead)[id]? = H[id]? := λid G=>by rw[List.getElem?_set];rw[if_neg (Ne.symm G)]
          refine⟨H.set (ν d).1 .dead,by rw[qq hk];simp[gb,hr],by simp,λid S=>I id λe=>S ⟨d,_,A,J,e.symm⟩,λid S=>I id λe=>?_,λid C=>?_⟩
          .obtain⟨k2,o2,g1,g2,g3⟩:=S;obtain⟨g4,g5⟩:=mH g1;exact g4 (r.inj d k2 _ o2 A g5 J g2 (by rw[g3,e]))
          .unfold bk;rw[I id (by rintro rfl;exact r.apart d _ A J C)]
         .refine⟨H,?_,rfl,λ_ _=>rfl,λ_ _=>rfl,λ_ _=>rfl⟩
          cases k <;> simp[cw]at hk <;> rfl
        .simp at e1
       | v x0=>
        refine⟨H,?_,rfl,λ_ _=>rfl,λ_ _=>rfl,λ_ _=>rfl⟩
        cases x0 <;> simp[ES]at hc
        .rw[h1.fr.dg];rfl
        .rw[h1.fr.bB];rfl
       | _=>simp[ES]at hc
      obtain⟨H1,g1,g2,g3,g4,g5⟩:=grow;have L:∀e ob,bg m1 e=some ob->bg st.m e=some ob:=by
       subst ap;cases s <;> first|exact λ_ _ h=>h|exact jw
      have ab:∀id,fm ν m1 id->id<H.length:=λid ⟨k,o,w1,w2,w3⟩=>r.lt ⟨k,o,L k o w1,w2,w3⟩
      have Y:∀id,id<H.length->(H1++[Ob.row size (a1++Q)])[id]? = H1[id]? := λid hl=>List.getElem?_append_left (by rw[g2];exact hl)
      have af:∀id,Z id->bk (H1++[Ob.row size (a1++Q)]) id=bk H id:=λid C=>by
       have:=g5 id C;unfold bk at this ⊢;rw[Y id (r.uf C)];exact this
      have r1  := r.less  (λ_ _ h=>h) L
      have r2  := r1.heap (λid S=>by rw[Y id (ab id S)];exact g4 id S) af
      have ff:=(q1.append W).mono   λid C=>⟨C,af id C⟩
      have aa:(H1++[Ob.row size (a1++Q)])[H.length]? = some (.row size (a1++Q)):=by
       rw[<-g2];simp
      refine⟨.hsl H.length size 0 (xs.length+zs.length),H1++[Ob.row size (a1++Q)],iD ν t (H.length,0),?_,?_,?_,?_,Kept.add L⟩
      .have aq:Q≠[]:=by
        rintro rfl;have aE  := List.length_eq_zero_iff.1 (by have:=W.1;simpa using this)
        exact G aE
       have aF:a1.length+Q.length<=2147483648:=by rw[<-q1.1,<-W.1];exact hc.1
       have aG:=q1.1;have aH:=W.1
       cases Q with
       | nil=>exact absurd rfl aq
       | cons w ws=>
        simp only[eF,p1,p2,if_pos aF,g1,Option.map_some,aG,aH]
      .refine r2.add B (λ_=>⟨λS=>?_,λC=>?_⟩) ?_
       .exact absurd (ab _ S) (by simp)
       .exact absurd (r.uf C) (by simp)
       .simp only[dI,gQ];refine⟨_,aa,by simp[q1.1,W.1],?_,ff.DT,λ_=>⟨trivial,by simp[q1.1,W.1]⟩⟩
        have:(xs++zs).length=(a1++Q).length:=by simp[q1.1,W.1]
        rw[this,List.drop_zero,List.take_length];exact ff
      .refine .own _ _ λO h'=>?_
       simp only at h';rw[cA]at h';cases h';exact⟨_,_,_,rfl,by simp[qm,gQ]⟩
      .refine Ev.re L n1 (by simp[g2]) (λid hl S _=>?_) af (λ_=>.inr (.inr (Nat.le_refl _)))
       rw[Y id hl];exact g3 id S
     .simp at h
   .simp at h
  .simp at h
 .
  rename_i size d o x l;obtain⟨_,_,rfl,h1,h2⟩:=U.inv;obtain⟨y,aK,rfl,h3,h4⟩:=h2.inv;split at h
  .rename_i ar;split at h
   .rename_i cs A;obtain⟨au,hp,e⟩:=ζf.1 h;simp  at e;obtain⟨rfl,rfl⟩:=e;obtain⟨_,_,rfl⟩:=h1.nH A;obtain⟨es,D,hr,hc,T⟩:=r.obj d _ A;obtain⟨p1,p2,p3,p4,p5⟩:=bX.RY hc h3 hp T;have I:∀id,id≠(ν d).1->(H.set (ν d).1 (.row es [D.take o++y.cells++D.drop (o+y.cells.length)]))[id]? = H[id]? := λid G=>by rw[List.getElem?_set];rw[if_neg (Ne.symm G)]
    have C:∀id,Z id->Z id/\bk (H.set (ν d).1 (.row es [D.take o++y.cells++D.drop (o+y.cells.length)])) id=bk H id:=λid C=>⟨C,by
     unfold bk;rw[I id (by rintro rfl;exact r.apart d _ A rfl C)]⟩
    refine⟨.undef,H.set (ν d).1 (.row es [D.take o++y.cells++D.drop (o+y.cells.length)]),ν,?_,?_,.v _ _ (.same _ rfl),Ev.fV r A trivial rfl I rfl (by simp),Kept.fV A trivial⟩
    .simp only[eF,HA r A h4 ar,if_true,hr,List.getElem?_cons_zero,if_pos (And.intro p1 (And.intro p2 p3)),List.set_cons_zero]
    .refine r.fV A  trivial rfl I rfl ⟨es,_,?_,p4.mono C (λe _ O he=>?_),p5⟩
     .have:=(ζe.1 hr).1;rw[List.getElem?_set_self this]
     .by_cases k:e=d
      .subst k;rw[cA]at he;cases he;exact⟨_,A,rfl,trivial⟩
      .rw[dP st.m _ (Ne.symm k)]at he;exact⟨O,he,rfl,.refl _⟩
   .simp at h
  .simp at h
 grind
end
end Go.VE
namespace Go.VE
variable [bN]
def yE (d:Nat) (st:St):Option St:=
 match bg st.m d with
 | some (.sl k es t)=>some { st with g:=Ai (SV.sub d (nu k es t)) st.g,m:=mapM (SV.s8 d (nu k es t)) (dH d st.m) }
 | _=>none
def Tg (st:St):Loc->Option SV
 | .s n=>bg st.g n
 | .c b i=>match bg st.m b with
  | some (.box cs)=>cs[i]?
  | _=>none
def ghost (x:Gh) (st:St):Option St:=
 match x with
 | .closeS l=>match Tg st l with
  | some (.own d)=>yE d st
  | some _=>some st
  | none=>none
 | .close d=>yE d st
 | .closeB d=>match bg st.m d with
  | some (.box t)=>match dn t with
   | some u=>some { st with g:=Ai (SV.Ab d u) st.g,m:=mapM (SV.pR d u) (dH d st.m) }
   | none=>none
  | _=>none
 | .canon (.s n) d es=>match bg st.g n with
  | some (.v .bB)=>if st.new d then some { st with g:=bJ st.g n (.own d),m:=bJ st.m d (.sl .nil es []) } else none
  | some (.v .dg)=>if st.new d then some { st with g:=bJ st.g n (.own d),m:=bJ st.m d (.sl .emp es []) } else none
  | some (.own e)=>if e=d then some st else if st.new d then some { st with g:=yw e d st.g,m:=tc e d st.m } else none
  | some (.ptr e _)=>if e=d then some st else if st.new d then some { st with g:=yw e d st.g,m:=tc e d st.m } else none
  | _=>none
 | .canon (.c b i) d es=>match bg st.m b with
  | some (.box t)=>match t[i]? with
   | some (.v .bB)=>if st.new d then some { st with m:=bJ (bJ st.m d (.sl .nil es [])) b (.box (t.set i (.own d))) } else none
   | some (.v .dg)=>if st.new d then some { st with m:=bJ (bJ st.m d (.sl .emp es [])) b (.box (t.set i (.own d))) } else none
   | some (.own e)=>if e=d then some st else if st.new d then some { st with g:=yw e d st.g,m:=tc e d st.m } else none
   | _=>none
  | _=>none
 | .keep gs w=>match qT st.g gs,qT st.m w with
  | some g,some m=>some { st with g:=g,m:=m }
  | _,_=>none
 | .drop ds=>some { st with g:=nW ds st.g }
section
variable {Rv:Nat->Prop} {ν ν':Nu} {Z Z':Nat->Prop} {st st':St} {m m':Tb bD} {F F':Frame} {H H':bf} {N:Nat->FuncId}
theorem Kc (r:R ν Z st F H) {dst:Option Nat} {size d:Nat} {O U:Bool} {W:List SV} {ys:List V} {sv:SV} (D:bX ν st.m H Z (.own d::W) ys) (h:xX st dst size O U d W=some (sv,st')) :
 ∃y ν',bh N (.slice size O U) ys=some y/\R ν' Z st' F H/\cW ν' st'.m H Z sv y/\Ev Rv ν Z st H ν' Z st' H:=by
 unfold xX at h;obtain⟨y0,zs,rfl,h1,S⟩:=D.inv;split at h
 .rename_i k es C ws t u T;split at h
  .rename_i hk;obtain⟨⟨l,hh⟩,X,h⟩:=ζg.1 h;obtain⟨⟨a,b⟩,A,h⟩:=ζg.1 h;dsimp only at h;split at h
   .rename_i w;obtain⟨rfl,rfl⟩:=h;obtain⟨_,_,_,e,rfl⟩:=h1.jv u;cases e;have G:b<=C.length/\a<=b:=by
     unfold dD at A
     grind
    have o:=r.obj d _ u;simp[dI,hk.1]at o;obtain⟨rs,hr,hl,Y,L,_⟩:=o;have z  := hk.1;have r1:R ν Z { st with m:=dH d st.m } F H:=r.less  (λ_ _ h=>h) jw
    have I:¬fm ν (dH d st.m) (ν d).1:=by
     rintro⟨k2,o2,g1,g2,g3⟩;obtain⟨g4,g5⟩:=mH g1;exact g4 (r.inj d k2 _ o2 u g5 z g2 g3.symm)
    have B:((C.take b).drop a).length=b-a:=by simp_all
    refine⟨.hsl (ν d).1 es ((ν d).2+a) (b-a),iD ν t ((ν d).1,(ν d).2+a),?_,?_,?_,?_⟩
    .have J:=bX.dn S T;rw[qq hk.1];simp[bh,J.j9 X,gp,if_pos hk.2,A]
    .refine r1.add w (λ_=>⟨I,r.apart d _ u z⟩) ?_
     simp[dI,cw,gQ];have:=(Y.take b).drop a;have e:List.drop a (List.take b (List.take C.length (List.drop (ν d).2 rs)))=List.take (b-a) (List.drop ((ν d).2+a) rs):=by
      rw[List.take_take,Nat.min_eq_left G.1,List.drop_take,List.drop_drop]
     grind
    .refine .own _ _ λaa Q=>?_
     rw[cA]at Q;cases Q;exact⟨_,_,_,rfl,by rw[B];simp[qm,gQ]⟩
    .exact Ev.re (st:=st) jw (lT w).1 (Nat.le_refl _) (λ_ _ _ _=>rfl) (λ_ _=>rfl) (λ_=>.inl ⟨d,_,u,z,rfl⟩)
   grind
  grind
 grind
theorem C3 {f:SV->SV}:∀{g:Tb SV} {s:Nat},bg (Ai f g) s=(bg g s).map f
 | [],s=>rfl
 | (k,x)::r,s=>by
  simp[Ai,bg];split
  .rfl
  .exact C3
def we (f:List SV->List SV):bD->bD
 | .box cs=>.box (f cs)
 | o=>o
theorem C1 {f:List SV->List SV}:∀{m:Tb bD} {d:Nat},bg (mapM f m) d=(bg m d).map (we f)
 | [],d=>rfl
 | (k,x)::r,d=>by
  cases x <;> simp[mapM,bg] <;> split <;> first|rfl|exact C1
theorem rD {d:Nat} {w:V}:∀{l:List SV} {j:Nat},(SV.s8 d w l)[j]? = (l[j]?).map (SV.sub d w)
 | [],j=>by simp[SV.s8]
 | x::r,0=>by simp[SV.s8]
 | x::r,j+1=>by simp[SV.s8,rD ]
theorem qh {d:Nat} {w:List V}:∀{l:List SV} {j:Nat},(SV.pR d w l)[j]? = (l[j]?).map (SV.Ab d w)
 | [],j=>by simp[SV.pR]
 | x::r,0=>by simp[SV.pR]
 | x::r,j+1=>by simp[SV.pR,qh ]
theorem nG {d:Nat} {w:V}:∀{l:List SV},(SV.s8 d w l).length=l.length
 | []=>rfl
 | x::r=>by simp[SV.s8,nG ]
theorem mz {d:Nat} {w:List V}:∀{l:List SV},(SV.pR d w l).length=l.length
 | []=>rfl
 | x::r=>by simp[SV.pR,mz ]
theorem cW.sub {sv:SV} {y:V} {d:Nat} {k:Fl} {es:Nat} {xs:List (List V)} (h0:bg m d=some (.sl k es xs)) (D:FR H Z' (nu k es xs) (qm (ν d) k es xs.length)) (G:∀id,Z id->Z' id)
 (O:∀e ob',bg m' e=some ob'->e≠d/\∃ob,bg m e=some ob/\sameShape ob ob') (r:cW ν m H Z sv y):cW ν m' H Z' (sv.sub d (nu k es xs)) y:=by
 have t:∀id,Z id->Z' id/\bk H id=bk H id:=λid h=>⟨G id h,rfl⟩
 have A:∀e ob',bg m' e=some ob'->∃ob,bg m e=some ob/\ν e=ν e/\sameShape ob ob':=λe ob' h=>by grind
 induction r with
 | v x y h=>exact .v x y (h.mono t)
 | own e y h=>
  simp[SV.sub];split
  .rename_i C;subst C;obtain⟨_,_,_,e1,rfl⟩:=h _ h0;cases e1;exact .v _ _ D
  .exact(cW.own e y h).mono t λe _=>A e
 | ptr e o y h=>exact(cW.ptr e o y h).mono t λe _=>A e
 | el e i o y h=>exact(cW.el e i o y h).mono t λe _=>A e
 | mp e y h=>exact(cW.mp e y h).mono t λe _=>A e
 | clo f a b w I B Q hva J z L=>
  refine .clo f _ _ w I (by rw[nG];omega) (by rw[nG];omega) (λj u v hu hv=>?_) (λj u v hu hv=>?_)
  .rw[rD,ζf]at hu;grind
  .rw[rD,ζf]at hu;grind
 | tup a w B hva z=>
  refine .tup _ w (by rw[nG];omega) (λj u v hu hv=>?_)
  rw[rD,ζf]at hu;grind
 | agg a w B hva z=>
  refine .agg _ w (by rw[nG];omega) (λj u v hu hv=>?_)
  rw[rD,ζf]at hu;grind
 | yl id=>exact .yl id
theorem PO {f:FuncId} {a b:List SV} {y:V} (r:cW ν m H Z (.clo f a b) y):cW ν m H Z (MY f a b) y:=by
 unfold MY;split
 .rename_i x z B C;cases r with|clo _ _ _ u w D G hva t=>
  have h1:=bX.dn (ν:=ν) (m:=m) (H:=H) (Z:=Z) (ys:=u) ⟨D,hva⟩ B;have A:=bX.dn (ν:=ν) (m:=m) (H:=H) (Z:=Z) (ys:=w) ⟨G,t⟩ C;exact .v _ _ (.clo f x z u w h1.1 A.1 h1.2 A.2)
 .exact r
theorem cW.Ab {sv:SV} {y:V} {d:Nat} {cs:List SV} {xs:List V} (h0:bg m d=some (.box cs)) (J:∀o,o<=xs.length->FR H Z' (.fptr (xs.drop o)) (.hptr (ν d).1 0 o)) (O:∀id,Z id->Z' id)
 (U:∀e ob',bg m' e=some ob'->e≠d/\∃ob,bg m e=some ob/\sameShape ob ob') (r:cW ν m H Z sv y):cW ν m' H Z' (sv.Ab d xs) y:=by
 have w:∀id,Z id->Z' id/\bk H id=bk H id:=λid h=>⟨O id h,rfl⟩
 have B:∀e ob',bg m' e=some ob'->∃ob,bg m e=some ob/\ν e=ν e/\sameShape ob ob':=λe ob' h=>by obtain⟨_,ob,h1,I⟩:=U e ob' h;exact⟨ob,h1,rfl,I⟩
 induction r with
 | v x y h=>exact .v x y (h.mono w)
 | own e y h=>exact(cW.own e y h).mono w λe _=>B e
 | ptr e o y h=>
  simp only[SV.Ab];split
  .rename_i L;subst L;obtain⟨_,e1,rfl⟩:=h _ h0;split
   .rename_i Q;exact .v _ _ (J o Q)
   .exact(cW.ptr e o _ h).mono w λe _=>B e
  .exact(cW.ptr e o y h).mono w λe _=>B e
 | el e i o y h=>exact(cW.el e i o y h).mono w λe _=>B e
 | mp e y h=>exact(cW.mp e y h).mono w λe _=>B e
 | clo f a b C S D T hva W z G=>
  refine PO (.clo f _ _ C S (by rw[mz];exact D) (by rw[mz];exact T) (λj u v hu hv=>?_) (λj u v hu hv=>?_))
  .rw[qh,ζf]at hu;obtain⟨A,t,rfl⟩:=hu;exact z j A v t hv
  .rw[qh,ζf]at hu;obtain⟨A,t,rfl⟩:=hu;exact G j A v t hv
 | tup a C D hva z=>
  refine .tup _ C (by rw[mz];exact D) (λj u v hu hv=>?_)
  rw[qh,ζf]at hu;obtain⟨A,t,rfl⟩:=hu;exact z j A v t hv
 | agg a C D hva z=>
  refine .agg _ C (by rw[mz];exact D) (λj u v hu hv=>?_)
  rw[qh,ζf]at hu;obtain⟨A,t,rfl⟩:=hu;exact z j A v t hv
 | yl id=>exact .yl id
theorem dI.we {d:Nat} {ob:bD} {f:List SV->List SV} (D:∀id,Z id->Z' id) (O:∀l,(f l).length=l.length)
 (G:∀cs B,bX ν m H Z cs B->bX ν m' H Z' (f cs) B) (o:dI ν m H Z d ob):dI ν m' H Z' d (we f ob):=by
 have t:∀id,Z id->Z' id/\bk H id=bk H id:=λid h=>⟨D id h,rfl⟩
 cases ob with
 | sl k es L=>
  simp[Go.VE.we,dI]at o ⊢;split
  .rename_i hk;rw[if_pos hk]at o;obtain⟨A,h1,u,z,C,I⟩:=o;exact⟨A,h1,u,z.mono t,C.mono t,I⟩
  grind
 | box cs=>
  obtain⟨es,B,h1,u,z⟩:=o;exact⟨es,B,h1,G cs B u,z⟩
 | mp J=>
  obtain⟨w,h1,u⟩:=o;exact⟨w,h1,u.mono t⟩
theorem vk {f:List SV->List SV} {ob:bD}:cB (we f ob)=cB ob:=by cases ob <;> rfl
theorem Jc {f:List SV->List SV} {ob:bD}:sameShape ob (we f ob):=by cases ob <;> simp[we,sameShape]
theorem R.shut (r:R ν Z st F H) {d:Nat} {ob:bD} (h0:bg st.m d=some ob) {fs:SV->SV} {D:List SV->List SV} (hl:∀l,(D l).length=l.length) (hg:∀l (j:Nat),(D l)[j]? = (l[j]?).map fs)
 (B:∀id,Z' id↔Z id\/(cB ob=true/\id=(ν d).1)) (G:cB ob=true->∃es ys,H[(ν d).1]? = some (.row es ys)/\th H Z ys)
 (hf:∀m',(∀e ob',bg m' e=some ob'->e≠d/\∃ob,bg st.m e=some ob/\sameShape ob ob')->∀sv y,cW ν st.m H Z sv y->cW ν m' H Z' (fs sv) y) :
 R ν Z' { st with g:=Ai fs st.g,m:=mapM D (dH d st.m) } F H/\Ev Rv ν Z st H ν Z' { st with g:=Ai fs st.g,m:=mapM D (dH d st.m) } H:=by
 have key:∀e ob',bg (mapM D (dH d st.m)) e=some ob'->e≠d/\∃ob,bg st.m e=some ob/\ob'=we D ob:=λe ob' h=>by
  rw[C1,ζf]at h;obtain⟨o,h1,rfl⟩:=h;obtain⟨t,h3⟩:=mH h1
  grind
 have I:∀e ob',bg (mapM D (dH d st.m)) e=some ob'->e≠d/\∃ob,bg st.m e=some ob/\sameShape ob ob':=λe ob' h=>by
  obtain⟨h1,o,t,rfl⟩:=key e ob' h;exact⟨h1,o,t,Jc⟩
 have hF:=hf _ I;have Q:∀S z,bX ν st.m H Z S z->bX ν (mapM D (dH d st.m)) H Z' (D S) z:=λS z h=>by
  refine⟨by rw[hl];exact h.1,λj u v hu hv=>?_⟩
  rw[hg,ζf]at hu;obtain⟨u',T,rfl⟩:=hu;exact hF u' v (h.2 j u' v T hv)
 have w  := λid h=>(B id).2 (.inl h)
 refine⟨⟨λs sv O=>?_,λe ob' U=>?_,λd1 d2 o1 o2 h1 t C b2 hp=>?_,λd1 o1 h1 C=>?_,λid h=>?_,⟨λid es ys J hr c hc u hu=>?_⟩⟩,⟨Nat.le_refl _,λ_ _ _ _ _=>rfl,λid h=>⟨w id h,rfl⟩,?_,?_,?_,rfl⟩⟩
 .rw[C3,ζf]at O;obtain⟨L,W,rfl⟩:=O;exact hF L _ (r.slot s L W)
 .obtain⟨h1,o,t,rfl⟩:=key e ob' U;exact dI.we w hl Q (r.obj e o t)
 .obtain⟨_,p1,k1,rfl⟩:=key d1 o1 h1;obtain⟨_,p2,k2,rfl⟩:=key d2 o2 t;rw[vk]at C b2;exact r.inj d1 d2 p1 p2 k1 k2 C b2 hp
 .obtain⟨X,p1,k1,rfl⟩:=key d1 o1 h1;rw[vk]at C;intro J;rcases (B _).1 J with J|⟨A,U⟩
  .exact r.apart d1 p1 k1 C J
  .exact X (r.inj d1 d p1 ob k1 h0 C A U)
 .rcases (B id).1 h with h|⟨A,rfl⟩
  .exact r.zrow id h
  .obtain⟨es,ys,hr,_⟩:=G A;unfold bk;rw[hr];rfl
 .rcases (B id).1 J with h|⟨A,rfl⟩
  .obtain⟨x,Y⟩:=r.deep.row id es ys h hr c hc u hu;exact⟨x,Y.mono λk hk=>⟨w k hk,rfl⟩⟩
  .obtain⟨ab,ad,aa,O⟩:=G A;unfold bk at hr;rw[aa]at hr;obtain⟨_,rfl⟩:=hr;obtain⟨x,Y⟩:=O c hc u hu;exact⟨x,Y.mono λk hk=>⟨w k hk,rfl⟩⟩
 .rintro id ⟨e,o,h1,t,h3⟩;obtain⟨_,p,k1,rfl⟩:=key e o h1;rw[vk]at t;exact .inl ⟨e,p,k1,t,h3⟩
 .intro id h;rcases (B id).1 h with h|⟨A,rfl⟩
  .grind
  .exact .inr (.inl ⟨d,ob,h0,A,rfl⟩)
 grind
theorem Ez (r:R ν Z st F H) {d:Nat} (h:yE d st=some st'):∃Z',R ν Z' st' F H/\Ev Rv ν Z st H ν Z' st' H:=by
 simp[yE]at h;split at h
 .rename_i k es u t;simp  at h;subst h;have o:=r.obj d _ t;refine⟨λid=>Z id\/(cB (.sl k es u)=true/\id=(ν d).1),R.shut r t (λ_=>nG) (λ_ _=>rD) (λ_=>Iff.rfl) (λz=>?_) (λm' w C y hr=>?_)⟩
  .have hk:cw k=true:=z;simp[dI,hk]at o
   grind
  .refine cW.sub t ?_ (λid h=>.inl h) w hr
   by_cases hk:cw k=true
   .simp[dI,hk]at o;obtain⟨D,hr,A,B,G,_⟩:=o;rw[qq hk];have e:nu k es u=.fsl es u:=by cases k <;> simp[cw]at hk <;> rfl
    rw[e];refine FR.Js (.inr ⟨hk,rfl⟩) (by unfold bk;rw[hr];rfl) A (B.mono λid h=>⟨.inl h,rfl⟩)
   .cases k <;> simp[cw]at hk
    .exact .same _ rfl
    .exact .same _ rfl
 grind
theorem JY (r:R ν Z st F H) {d:Nat} (h:ghost (.closeB d) st=some st'):∃Z',R ν Z' st' F H/\Ev Rv ν Z st H ν Z' st' H:=by
 simp[ghost]at h;split at h
 .rename_i D t;split at h
  .rename_i G I;simp  at h;subst h;obtain⟨es,w,hr,hc,_⟩:=r.obj d _ t;have A:=hc.dn I;have J:th H Z [w]:=by
    intro c z u hu;simp[List.mem_singleton]at z;subst z;obtain⟨j,L⟩:=List.mem_iff_getElem?.1 hu;have O:j<G.length:=by rw[A.1];grind
    exact⟨_,A.2 j _ u (ζd O) L⟩
   refine⟨λid=>Z id\/(cB (.box D)=true/\id=(ν d).1),R.shut r t (λ_=>mz) (λ_ _=>qh) (λ_=>Iff.rfl) (λQ=>⟨es,_,hr,J⟩) (λm' B S y C=>?_)⟩
   refine cW.Ab t (λo T=>?_) (λid h=>.inl h) B C
   exact FR.A9 (.inr ⟨rfl,rfl⟩) (show bk H (ν d).1=some (es,[w])by unfold bk;rw[hr];rfl) rfl (by rw[<-A.1];omega) ((A.drop o).mono λid h=>⟨.inl h,rfl⟩)
  grind
 grind
theorem rV {d e:Nat}:∀{l:List SV} {j:Nat},(SV.ta d e l)[j]? = (l[j]?).map (SV.sW d e)
 | [],j=>by simp[SV.ta]
 | x::r,0=>by simp[SV.ta]
 | x::r,j+1=>by simp[SV.ta,rV ]
theorem nE {d e:Nat}:∀{l:List SV},(SV.ta d e l).length=l.length
 | []=>rfl
 | x::r=>by simp[SV.ta,nE ]
theorem C_ {d e:Nat}:∀{g:Tb SV} {s:Nat},bg (yw d e g) s=(bg g s).map (SV.sW d e)
 | [],s=>rfl
 | (k,x)::r,s=>by
  simp[yw,bg];split
  .rfl
  .exact C_
theorem xF {d e:Nat} (B:d≠e):∀{m:Tb bD} {k:Nat},bg m e=none->bg (tc d e m) k=(if k=d then none else(bg m (if k=e then d else k)).map (bD.sW d e))
 | [],k,_=>by simp[tc,bg]
 | (n,x)::r,k,h=>by
  simp[bg]at h;split at h
  .simp_all
  .have D:=xF B  (k:=k) h;simp[tc,bg]
   grind
def tH (ν:Nu) (d e:Nat):Nu:=λk=>if k=e then ν d else ν k
theorem cW.sW {sv:SV} {y:V} {d e:Nat} (O:bg m e=none) (B:sv.cU e=false) (G:d≠e) (r:cW ν m H Z sv y):cW (tH ν d e) (tc d e m) H Z (sv.sW d e) y:=by
 have key:∀k,k≠e->∀t,bg (tc d e m) (if k=d then e else k)=some t->∃ob,bg m k=some ob/\tH ν d e (if k=d then e else k)=ν k/\t=ob.sW d e:=λk hk t h=>by
  rw[xF G O]at h
  by_cases h1:k=d
  .subst h1;rw[if_pos rfl,if_neg (Ne.symm G),if_pos rfl,ζf]at h;obtain⟨ob,z,rfl⟩:=h;exact⟨ob,z,by unfold tH;grind,rfl⟩
  .rw[if_neg h1,if_neg h1,if_neg hk,ζf]at h;obtain⟨ob,z,rfl⟩:=h;exact⟨ob,z,by unfold tH;grind,rfl⟩
 induction r with
 | v x y h=>exact .v x y h
 | own k y h=>
  have hk:k≠e:=by rintro rfl;simp[SV.cU]at B
  refine .own _ y λt C=>?_
  obtain⟨ob,h1,z,rfl⟩:=key k hk t C;obtain⟨_,_,_,rfl,rfl⟩:=h ob h1;exact⟨_,_,_,rfl,by rw[z]⟩
 | ptr k o y h=>
  have hk:k≠e:=by rintro rfl;simp[SV.cU]at B
  refine .ptr _ o y λt C=>?_
  obtain⟨ob,h1,z,rfl⟩:=key k hk t C;obtain⟨_,rfl,rfl⟩:=h ob h1;exact⟨_,rfl,by rw[z]⟩
 | el k i o y h=>
  have hk:k≠e:=by rintro rfl;simp[SV.cU]at B
  refine .el _ i o y λt C=>?_
  obtain⟨ob,h1,z,rfl⟩:=key k hk t C;obtain⟨_,_,_,rfl,Q,rfl⟩:=h ob h1;exact⟨_,_,_,rfl,Q,by rw[z]⟩
 | mp k y h=>
  have hk:k≠e:=by rintro rfl;simp[SV.cU]at B
  refine .mp _ y λt C=>?_
  obtain⟨ob,h1,z,rfl⟩:=key k hk t C;obtain⟨_,rfl,rfl⟩:=h ob h1;exact⟨_,rfl,by rw[z]⟩
 | clo f a b I S L U hva T A J=>
  simp[SV.cU]at B;refine .clo f _ _ I S (by rw[nE];omega) (by rw[nE];omega) (λj u v hu hv=>?_) (λj u v hu hv=>?_)
  .rw[rV,ζf]at hu;obtain⟨D,w,rfl⟩:=hu;exact A j D v w hv (rF B.1 w)
  .rw[rV,ζf]at hu;obtain⟨D,w,rfl⟩:=hu;exact J j D v w hv (rF B.2 w)
 | tup a I L hva A=>
  refine .tup _ I (by rw[nE];omega) (λj u v hu hv=>?_)
  rw[rV,ζf]at hu;obtain⟨D,w,rfl⟩:=hu;exact A j D v w hv (rF B w)
 | agg a I L hva A=>
  refine .agg _ I (by rw[nE];omega) (λj u v hu hv=>?_)
  rw[rV,ζf]at hu;obtain⟨D,w,rfl⟩:=hu;exact A j D v w hv (rF B w)
 | yl id=>exact .yl id
theorem Fb (r:R ν Z st F H) {d e:Nat} (B:d≠e) (U:st.new e=true):R (tH ν d e) Z { st with g:=yw d e st.g,m:=tc d e st.m } F H/\Ev Rv ν Z st H (tH ν d e) Z { st with g:=yw d e st.g,m:=tc d e st.m } H:=by
 obtain⟨n1,G,W,X⟩:=lT U;have key:∀k t,bg (tc d e st.m) k=some t->∃k0 ob,bg st.m k0=some ob/\t=ob.sW d e/\tH ν d e k=ν k0/\k≠d/\(k=e/\k0=d\/k≠e/\k0=k):=λk t h=>by
  rw[xF B G]at h;split at h
  .simp_all
  .rename_i h1;rw[ζf]at h;obtain⟨ob,w,rfl⟩:=h
   by_cases z:k=e
   .rw[if_pos z]at w;exact⟨d,ob,w,rfl,by unfold tH;grind,h1,.inl ⟨z,rfl⟩⟩
   .rw[if_neg z]at w;exact⟨k,ob,w,rfl,by unfold tH;grind,h1,.inr ⟨z,rfl⟩⟩
 have I:∀ob:bD,cB (ob.sW d e)=cB ob:=λob=>by cases ob <;> rfl
 refine⟨⟨λs sv S=>?_,λk t hk=>?_,λd1 d2 o1 o2 h1 w A T hp=>?_,λd1 o1 h1 A=>?_,r.zrow,r.deep⟩,⟨Nat.le_refl _,λ_ _ _ _ _=>rfl,λid h=>⟨h,rfl⟩,?_,λ_ h=>.inl h,?_,rfl⟩⟩
 .rw[C_,ζf]at S;obtain⟨J,C,rfl⟩:=S;exact cW.sW G (wF W C) B (r.slot s J C)
 .obtain⟨k0,ob,h1,rfl,w,_,_⟩:=key k t hk;have o:=r.obj k0 ob h1
  cases ob with
  | sl fl es xs=>simp[bD.sW,dI,w]at o ⊢;omega
  | box cs=>
   obtain⟨es,L,g1,g2,g3⟩:=o;have O  := by have:=wR X h1;simpa [bD.cU]using this
   refine⟨es,L,by grind,⟨by rw[nE];exact g2.1,λj u v hu hv=>?_⟩,g3⟩
   rw[rV,ζf]at hu;obtain⟨Y,D,rfl⟩:=hu;exact cW.sW G (rF O D) B (g2.2 j Y v D hv)
  | mp aa=>simp[bD.sW,dI,w]at o ⊢;omega
 .obtain⟨k1,p1,g1,rfl,e1,c1,Q⟩:=key d1 o1 h1;obtain⟨k2,p2,g2,rfl,e2,c3,c4⟩:=key d2 o2 w;rw[I]at A T;have:=r.inj k1 k2 p1 p2 g1 g2 A T (by grind)
  omega
 .obtain⟨k1,p1,g1,rfl,e1,_⟩:=key d1 o1 h1;rw[I]at A;rw[e1];exact r.apart k1 p1 g1 A
 .rintro id ⟨k,o,h1,w,z⟩;obtain⟨k1,p1,g1,rfl,e1,_⟩:=key k o h1;rw[I]at w;exact .inl ⟨k1,p1,g1,w,by grind⟩
 .intro k hk t h;obtain⟨k1,p1,g1,rfl,e1,c1,Q⟩:=key k t h;rcases Q with⟨rfl,_⟩|⟨Q,rfl⟩
  .grind
  .exact⟨p1,g1,e1,by cases p1 <;> simp[bD.sW,sameShape]⟩
theorem R.Ug (r:R ν Z st F H) {n:Nat} {sv:SV} (h:cW ν st.m H Z sv (get F n)):R ν Z { st with g:=bJ st.g n sv } F H where
 slot:=λs x t=>by
  by_cases e:n=s
  .subst e;rw[cA]at t;grind
  .rw[dP st.g sv e]at t;exact r.slot s x t
 obj:=r.obj
 inj:=r.inj
 apart:=r.apart
 zrow:=r.zrow
 deep:=r.deep
theorem KJ (r:R ν Z st F H) {n d es:Nat} {k:Fl} {x:V} (hk:nu k es []=x/\cw k=false) (D:bg st.g n=some (.v x)) (B:st.new d=true) (G:∀y,FR H Z x y->y=x) (J:qm (ν d) k es 0=x) :
 R (iD ν d (ν d)) Z { st with g:=bJ st.g n (.own d),m:=bJ st.m d (.sl k es []) } F H/\Ev Rv ν Z st H (iD ν d (ν d)) Z { st with g:=bJ st.g n (.own d),m:=bJ st.m d (.sl k es []) } H:=by
 have t:cB (.sl k es [])=true->False:=by simp[cB,hk.2]
 have r1:=r.add B (p:=ν d)  (λh=>(t h).elim) (by simp[dI,hk.2])
 refine⟨r1.Ug   (.own _ _ λw u=>?_),?_⟩
 .rw[cA]at u;cases u;rw[gQ,G _ (r.slot n _ D).fr]
  grind
 .exact(Ev.add  B (Nat.le_refl _) (λ_ _ _=>rfl) (λ_ _=>rfl) (λh=>(t h).elim)).trans (Ev.slots _)
theorem Jz (r:R ν Z st F H) {b i d es:Nat} {k:Fl} {x:V} {cs:List SV} (hk:cw k=false) (J:bg st.m b=some (.box cs)) (O:cs[i]? = some (.v x)) (B:st.new d=true) (U:∀y,FR H Z x y->y=x) (W:qm (ν d) k es 0=x) :
 ∃ν',R ν' Z { st with m:=bJ (bJ st.m d (.sl k es [])) b (.box (cs.set i (.own d))) } F H/\Ev Rv ν Z st H ν' Z { st with m:=bJ (bJ st.m d (.sl k es [])) b (.box (cs.set i (.own d))) } H:=by
 have z:cB (.sl k es [])=true->False:=by simp[cB,hk]
 have r1:=r.add B (p:=ν d)  (λh=>(z h).elim) (by simp[dI,hk])
 have A:b≠d:=by rintro rfl;rw[(lT B).2.1]at J;cases J
 have w:bg (bJ st.m d (.sl k es [])) b=some (.box cs):=by rw[dP _ _ (Ne.symm A)];omega
 obtain⟨C,D,h1,G,Q⟩:=r1.obj b _ w;have S:∀e t,bg (bJ (bJ st.m d (.sl k es [])) b (.box (cs.set i (.own d)))) e=some t->∃ob,bg (bJ st.m d (.sl k es [])) e=some ob/\iD ν d (ν d) e=iD ν d (ν d) e/\sameShape ob t:=λe t h=>by
  by_cases I:e=b
  .subst I;rw[cA]at h;cases h;exact⟨_,w,rfl,trivial⟩
  .rw[dP _ _ (Ne.symm I)]at h;exact⟨t,h,rfl,.refl _⟩
 refine⟨iD ν d (ν d),r1.fV  w  trivial rfl (λ_ _=>rfl) rfl ⟨C,D,h1,⟨by simp[G.1],λj u v hu hv=>?_⟩,Q⟩,?_⟩
 .rw[List.getElem?_set]at hu;split at hu
  .rename_i e;subst e;split at hu
   .cases hu;refine .own _ _ λt L=>?_
    rw[dP _ _ A,cA]at L;cases L;rw[gQ,U v (G.2 i _ v O hv).fr]
    grind
   grind
  .exact(G.2 j u v hu hv).mono (λid h=>⟨h,rfl⟩) λe _=>S e
 .exact(Ev.add  B (Nat.le_refl _) (λ_ _ _=>rfl) (λ_ _=>rfl) (λh=>(z h).elim)).trans (Ev.fV r1 w trivial rfl (λ_ _=>rfl) rfl (Nat.le_refl _))
theorem Mc (r:R ν Z st F H) {x:Gh} (h:ghost x st=some st'):∃ν' Z',R ν' Z' st' F H/\Ev Rv ν Z st H ν' Z' st' H:=by
 cases x with
 | close d=>obtain⟨Z',a,b⟩:=Ez (Rv:=Rv) r h;grind
 | closeS l=>
  simp[ghost]at h;split at h
  .obtain⟨Z',a,b⟩:=Ez (Rv:=Rv) r h;grind
  .simp  at h;subst h;exact⟨ν,Z,r,.refl⟩
  grind
 | closeB d=>obtain⟨Z',a,b⟩:=JY (Rv:=Rv) r h;grind
 | keep gs D=>
  simp[ghost]at h;split at h
  .rename_i g m hg A;simp  at h;subst h;exact⟨ν,Z,r.less (λs C u=>o4 hg u) (λd ob z=>o4 A z),Ev.less (λd ob z=>o4 A z)⟩
  grind
 | drop ds=>
  simp[ghost]at h;subst h;exact⟨ν,Z,r.less   (λs C u=>mR u) (λd ob z=>z),Ev.less   (λd ob z=>z)⟩
 | canon l d es=>
  cases l with
  | s n=>
   simp[ghost]at h;split at h
   .rename_i u;split at h
    .rename_i t;simp  at h;obtain⟨a,b⟩:=KJ (Rv:=Rv) (es:=es) (k:=.nil) r ⟨rfl,rfl⟩ u t (λy h=>h.bB) rfl
     grind
    grind
   .rename_i u;split at h
    .rename_i t;simp  at h;obtain⟨a,b⟩:=KJ (Rv:=Rv) (es:=es) (k:=.emp) r ⟨rfl,rfl⟩ u t (λy h=>h.dg) rfl
     grind
    grind
   .split at h
    .simp  at h;subst h;exact⟨ν,Z,r,.refl⟩
    .rename_i w;split at h
     .rename_i t;simp  at h;obtain⟨a,b⟩:=Fb (Rv:=Rv) r w t
      grind
     grind
   .split at h
    .simp  at h;subst h;exact⟨ν,Z,r,.refl⟩
    .rename_i w;split at h
     .rename_i t;simp  at h;obtain⟨a,b⟩:=Fb (Rv:=Rv) r w t
      grind
     grind
   grind
  | c b i=>
   simp[ghost]at h;split at h
   .rename_i G B;split at h
    .rename_i u;split at h
     .rename_i t;simp  at h;obtain⟨ν',a,b⟩:=Jz (Rv:=Rv) (es:=es) (k:=.nil) r rfl B u t (λy h=>h.bB) rfl
      grind
     grind
    .rename_i u;split at h
     .rename_i t;simp  at h;obtain⟨ν',a,b⟩:=Jz (Rv:=Rv) (es:=es) (k:=.emp) r rfl B u t (λy h=>h.dg) rfl
      grind
     grind
    .split at h
     .simp  at h;subst h;exact⟨ν,Z,r,.refl⟩
     .rename_i w;split at h
      .rename_i t;simp  at h;obtain⟨a,b⟩:=Fb (Rv:=Rv) r w t
       grind
      grind
    grind
   grind
end
end Go.VE
namespace Go.VE
variable [bN]
structure mU (E:Env) (f:FuncId) (q:Dl):Prop where
 keep:E.keep f=true
 own:E.own f=false
 le:∀es xs vs ys,q.go es xs vs=some ys->ys.length<=xs.length/\(q.part=false->ys.length=xs.length)
 none:∀es vs ys,q.go es [] vs=some ys->∀(H:bf) (Z:Nat->Prop) (ws:List V) (w:V),cV H Z vs ws->(w=.bB\/w=.dg)->∃n X,∀k,n<=k->run E k (.fn f) (w::ws) H=some (if q.part then w else .undef,H++X)
 row:∀es xs vs ys,q.go es xs vs=some ys->∀(H:bf) (Z:Nat->Prop) (ws:List V) (id off:Nat) (rs:List (List V)),cV H Z vs ws->H[id]? = some (.row es rs)->off+xs.length<=rs.length ->
  fA H Z xs ((rs.drop off).take xs.length)->th H Z rs->¬Z id->∃n rs' X,(∀k,n<=k->run E k (.fn f) (.hsl id es off xs.length::ws) H=some (if q.part then .hsl id es off ys.length else .undef,(H++X).set id (.row es rs'))) /\
   rs'.length=rs.length/\fA H Z ys ((rs'.drop off).take ys.length)/\th H Z rs'
section
variable {Rv:Nat->Prop} {ν ν':Nu} {Z Z':Nat->Prop} {st st':St} {m m':Tb bD} {F F':Frame} {H H':bf}
theorem Qh {E:Env} {f:FuncId} {q:Dl} (hq:mU E f q) (r:R ν Z st F H) {args:List SV} {ys:List V} (ha:bX ν st.m H Z args ys) {dst:Option Nat} {sv:SV} (h:Aq q dst args st=some (sv,st')) :
 ∃n y H' ν',(∀k,n<=k->run E k (.fn f) ys H=some (y,H'))/\R ν' Z st' F H'/\cW ν' st'.m H' Z sv y/\Ev Rv ν Z st H ν' Z st' H'/\Kept dst ν st.m ν' st'.m:=by
 unfold Aq at h;split at h
 .rename_i d vs;obtain⟨w,ws,rfl,h1,h2⟩:=ha.inv;split at h
  .rename_i k es xs zs u D;have aa:=bX.dn h2 D;split at h
   .rename_i ns S;obtain⟨al,af⟩:=hq.le _ _ _ _ S;obtain⟨_,_,_,ee,rfl⟩:=h1.jv u;cases ee;have grow:∀X:bf,R ν Z st F (H++X)/\Ev Rv ν Z st H ν Z st (H++X)/\∀id,Z id->bk (H++X) id=bk H id:=λX=>by
     have hx:∀id,id<H.length->(H++X)[id]? = H[id]? := λid h=>List.getElem?_append_left h
     have D:∀id,Z id->bk (H++X) id=bk H id:=λid h=>by unfold bk;rw[hx id (r.uf h)]
     exact⟨r.heap (λid h=>hx id (r.lt h)) D,Ev.heap (by simp) (λid h _ _ _=>hx id h) D,D⟩
    have o:=r.obj d _ u
    cases hk:cw k with
    | false=>
     simp only[dI,hk,Bool.false_eq_true,if_false]at o;subst o;have hw:qm (ν d) k es 0=.bB\/qm (ν d) k es 0=.dg:=by cases k <;> simp[qm,cw]at hk ⊢
     obtain⟨n,X,J⟩:=hq.none _ _ _ S H Z ws _ aa hw;obtain⟨Y,G,T⟩:=grow X;simp only[hk,Bool.false_eq_true,if_false]at h;split at h
     .rename_i L;split at h
      .rename_i t;split at h
       .rename_i z;simp only[ζa,ζc]at h;obtain⟨rfl,rfl⟩:=h;have r1:R ν Z { st with m:=dH d st.m } F (H++X):=Y.less (g:=st.g) (λ_ _ h=>h) jw
        rw[if_pos L]at J;refine⟨n,_,H++X,iD ν t (ν d),J,r1.add z (λhb=>by simp[cB,hk]at hb) (by simp[dI,hk]),?_,?_,Kept.add jw⟩
        .refine .own _ _ λah U=>?_
         simp only at U;rw[cA]at U;cases U;exact⟨_,_,_,rfl,by rw[gQ];rfl⟩
        .exact G.trans (Ev.re (st:=st) jw (lT z).1 (Nat.le_refl _) (λ_ _ _ _=>rfl) (λ_ _=>rfl) (λhb=>by simp[cB,hk]at hb))
       .cases h
      .cases h
     .rename_i L;simp only[ζa,ζc]at h;obtain⟨rfl,rfl⟩:=h;rw[if_neg L]at J;have hu:bJ st.m d (.sl k es [])=st.m:=qj u;rw[hu];exact⟨n,_,H++X,ν,J,Y,.v _ _ (.same _ rfl),G,.refl⟩
    | true=>
     simp only[dI,hk,if_true]at o;obtain⟨rs,hr,hl,hf,ab,O⟩:=o;have A:cB (.sl k es xs)=true:=hk;obtain⟨n,B,X,J,e1,e2,e3⟩:=hq.row _ _ _ _ S H Z ws _ _ rs aa hr hl hf ab (r.apart d _ u A);obtain⟨Y,G,T⟩:=grow X;have ai:(ν d).1<(H++X).length:=by have:=(ζe.1 hr).1;simp;omega
     have D:∀id,Z id->Z id/\bk ((H++X).set (ν d).1 (.row es B)) id=bk H id:=λid C=>⟨C,by
      rw[<-T id C];unfold bk;rw[List.getElem?_set_ne];rintro rfl;exact r.apart d _ u A C⟩
     have ad:∀id,Z id->bk ((H++X).set (ν d).1 (.row es B)) id=bk (H++X) id:=λid C=>by rw[(D id C).2,T id C]
     have hh:∀id,id≠(ν d).1->((H++X).set (ν d).1 (Ob.row es B))[id]? = (H++X)[id]? := λid aj=>List.getElem?_set_ne (Ne.symm aj)
     have I:((H++X).set (ν d).1 (Ob.row es B))[(ν d).1]? = some (.row es B):=List.getElem?_set_self ai;rw[qq hk];simp only[hk,if_true]at h;split at h
     .rename_i L;split at h
      .rename_i t;split at h
       .rename_i z;simp only[ζa,ζc]at h;obtain⟨rfl,rfl⟩:=h;have r1:R ν Z { st with m:=dH d st.m } F (H++X):=Y.less (g:=st.g) (λ_ _ h=>h) jw
        have ae:¬fm ν (dH d st.m) (ν d).1:=by
         rintro⟨k2,o2,g1,g2,g3⟩;obtain⟨g4,g5⟩:=mH g1;exact g4 (r.inj d k2 _ o2 u g5 A g2 g3.symm)
        have r2:R ν Z { st with m:=dH d st.m } F ((H++X).set (ν d).1 (.row es B)):=r1.heap (λid ho=>hh id (by rintro rfl;exact ae ho)) ad
        rw[if_pos L]at J;refine⟨n,_,_,iD ν t (ν d),J,r2.add z (λ_=>⟨ae,r.apart d _ u A⟩) ?_,?_,?_,Kept.add jw⟩
        .simp only[dI,cw,if_true,gQ];exact⟨B,I,by omega,e2.mono D,e3.mono D,λe=>by cases e⟩
        .refine .own _ _ λah U=>?_
         simp only at U;rw[cA]at U;cases U;exact⟨_,_,_,rfl,by rw[gQ];rfl⟩
        .exact G.trans (Ev.re (st:=st) jw (lT z).1 (by simp) (λid _ ho _=>hh id (by rintro rfl;exact ho ⟨d,_,u,A,rfl⟩)) ad (λ_=>.inl ⟨d,_,u,A,rfl⟩))
       .cases h
      .cases h
     .rename_i L;simp only[ζa,ζc]at h;obtain⟨rfl,rfl⟩:=h;rw[if_neg L]at J;have ak:q.part=false:=by simpa using L
      have Q:=af ak;have W:sameShape (.sl k es xs) (.sl k es ns):=⟨rfl,rfl,Q⟩;refine⟨n,_,_,ν,J,Y.fV u W rfl hh A ?_,.v _ _ (.same _ rfl),G.trans (Ev.fV Y u W rfl hh A (by simp)),Kept.fV u W⟩
      simp only[dI,hk,if_true];exact⟨B,I,by omega,e2.mono D,e3.mono D,λe=>⟨(O e).1,by rw[e1,(O e).2,Q]⟩⟩
   .cases h
  .cases h
 .cases h
end
end Go.VE
namespace Go.VE
variable [bN]
def vw:Nat->List SV->Tb SV
 | _,[]=>[]
 | i,v::vs=>(i,v)::vw (i+1) vs
def start (svs:List SV) (B:eW):St:=⟨vw 0 svs,B,B.map (·.1),[],true,0⟩
def jG (S:Sys) (c:cg):Prop:=
 ∀f t u rs w,c f t u=some (rs,w)->∀(ν:Nu) (Z:Nat->Prop) (args:List V) (H:bf),(S.E.keep f=true\/H=[])->R ν Z (start t u) args H->bX ν u H Z t args ->
  ∃n y H' ν' Z' st' F' z,run S.E n (.fn f) args H=some (y,H')/\y=result z/\st'.m=w/\bX ν' w H' Z' rs z/\R ν' Z' st' F' H'/\Ev (λ_=>False) ν Z (start t u) H ν' Z' st' H'
section
variable {Rv:Nat->Prop} {ν ν':Nu} {Z Z':Nat->Prop} {st st':St} {m m':Tb bD} {F F':Frame} {H H' H1:bf} {N:Nat->FuncId}
theorem Me {k:Fl} {es:Nat} {xs:List (List V)} {d:Nat} (o:dI ν m H Z d (.sl k es xs)):(nu k es xs).good=true:=by
 by_cases hk:cw k=true
 .simp only[dI,hk,if_true]at o;obtain⟨u,_,_,t,_⟩:=o;have e:nu k es xs=.fsl es xs:=by cases k <;> simp[cw]at hk <;> rfl
  rw[e];simp only[V.good];exact t.good
 .cases k <;> simp[cw]at hk <;> rfl
mutual
theorem Ld (D:∀d ob,bg m d=some ob->dI ν m H Z d ob):∀(n:Nat) (sv:SV) (x y:V),shut m n sv=some x->cW ν m H Z sv y->x.good=true
 | n,.v x,z,y,h,r=>by simp only[shut,ζa]at h;subst h;exact r.fr.good
 | n,.own d,z,y,h,r=>by
  simp only[shut]at h;split at h
  .rename_i k es xs B;simp only[ζa]at h;subst h;exact Me (D d _ B)
  .simp at h
 | 0,.ptr d o,z,y,h,r=>by simp[shut]at h
 | n+1,.ptr d o,z,y,h,r=>by
  simp only[shut]at h;split at h
  .rename_i cs B;split at h
   .rename_i xs J;split at h
    .simp only[ζa]at h;subst h;obtain⟨es,G,_,hc,_⟩:=D d _ B;simp only[V.good];exact wm _ (k_ D n cs xs G J hc)
    .simp at h
   .simp at h
  .simp at h
 | n,.el d i o,z,y,h,r=>by cases n <;> simp[shut]at h
 | n,.yl id,z,y,h,r=>by cases n <;> simp[shut]at h
 | n,.mp d,z,y,h,r=>by
  simp only[shut]at h;split at h
  .rename_i I B;simp only[ζa]at h;subst h;obtain⟨t,_,hk⟩:=D d _ B;simp only[V.good];refine CN.2 λj u hu=>?_
   have L:j<t.length:=by rw[<-hk.1];exact(ζe.1 hu).1
   obtain⟨⟨_,h1⟩,w⟩:=hk.2 j u _ hu (ζd L);exact⟨lR h1,w.good⟩
  .simp at h
 | 0,.clo f a b,z,y,h,r=>by simp[shut]at h
 | n+1,.clo f a b,z,y,h,r=>by
  simp only[shut]at h;split at h
  .rename_i O x2 h1 w;simp only[ζa]at h;subst h;obtain⟨Q,S,rfl,T,U⟩:=r.jk;simp only[V.good,ζh];exact⟨k_ D n a O Q h1 T,k_ D n b x2 S w U⟩
  .simp at h
 | 0,.tup l,z,y,h,r=>by simp[shut]at h
 | n+1,.tup l,z,y,h,r=>by
  simp only[shut]at h;obtain⟨xs,h1,rfl⟩:=ζf.1 h;obtain⟨A,rfl,C⟩:=r.oM;simp only[V.good];exact k_ D n l xs A h1 C
 | 0,.agg l,z,y,h,r=>by simp[shut]at h
 | n+1,.agg l,z,y,h,r=>by
  simp only[shut]at h;obtain⟨xs,h1,rfl⟩:=ζf.1 h;obtain⟨A,rfl,C⟩:=r.gR;simp only[V.good];exact k_ D n l xs A h1 C
theorem k_ (D:∀d ob,bg m d=some ob->dI ν m H Z d ob):∀(n:Nat) (svs:List SV) (xs ys:List V),cS m n svs=some xs->bX ν m H Z svs ys->V.cq xs=true
 | n,[],xs,ys,h,r=>by simp only[cS,ζa]at h;subst h;rfl
 | n,sv::svs,xs,ys,h,r=>by
  simp only[cS]at h;split at h
  .rename_i y s h1 G;simp only[ζa]at h;subst h;obtain⟨J,B,rfl,r1,r2⟩:=r.inv;simp only[V.cq,ζh];exact⟨Ld D n sv y J h1 r1,k_ D n svs s B G r2⟩
  .simp at h
end
theorem EF {f:V->Option V}:∀{xs ys:List (V×V)},xs.length=ys.length->(∀(j:Nat) u v,xs[j]? = some u->ys[j]? = some v->f v.1=some u.1/\f v.2=some u.2)->j7 f ys=some xs
 | [],[],_,_=>rfl
 | [],y::ys,h,_=>by simp at h
 | x::xs,[],h,_=>by simp at h
 | (a,b)::xs,(c,d)::ys,h,B=>by
  obtain⟨h1,D⟩:=B 0 _ _ rfl rfl;simp only at h1 D;simp only[j7,h1,D,EF (xs:=xs) (ys:=ys) (by simpa using h) λj u v hu hv=>B (j+1) u v (by simpa using hu) (by simpa using hv)]
theorem Ee:∀{l:List (V×V)} {n:Nat},V.qW n l=true↔∀(j:Nat) u,l[j]? = some u->u.1.lvl n=true/\u.2.lvl n=true
 | [],n=>by simp[V.qW]
 | (k,x)::l,n=>by
  simp only[V.qW,ζh,Ee (l:=l)];constructor
  .rintro⟨h1,B⟩ j u hu
   cases j with
   | zero=>simp at hu;subst hu;exact h1
   | succ j=>exact B j u (by simpa using hu)
  .intro h;exact⟨h 0 (k,x) rfl,λj u hu=>h (j+1) u (by simpa using hu)⟩
theorem sJ {n:Nat} {xs ys:List V} (D:gH (borrow n H1) ys=some xs) (B:V.jT ys=true):ys=xs:=by
 have t:=js (f:=borrow n H1) (xs:=ys) (ys:=ys) rfl λj u v hu hv=>by rw[hu]at hv;cases hv;exact dK n H1 (nO.1 B j u hu)
 rw[D]at t;cases t;rfl
mutual
theorem GC {fr:List Nat} (G:∀d∈fr,∀e ob,bg m e=some ob->ob.cU d=false) (J:∀d ob,bg m d=some ob->d∉fr->dI ν m H1 Z d ob) :
 ∀(n:Nat) (sv:SV) (x y:V),shut m n sv=some x->(∀d∈fr,sv.cU d=false)->cW ν m H1 Z sv y->∀k,x.lvl k=true->borrow k H1 y=some x
 | n,.v x,z,y,h,B,r,k,hk=>by simp only[shut,ζa]at h;subst h;exact r.fr.borrow k hk
 | n,.own d,z,y,h,B,r,k,hk=>by
  simp only[shut]at h;split at h
  .rename_i Y es xs D;simp only[ζa]at h;subst h;obtain⟨_,_,_,e,rfl⟩:=r.jv D;cases e;have w:d∉fr:=λw=>by have:=B d w;simp[SV.cU]at this
   have o:=J d _ D w
   by_cases C:cw Y=true
   .simp only[dI,C,if_true]at o;obtain⟨ys,hr,hl,hf,_⟩:=o;rw[qq C];have e:nu Y es xs=.fsl es xs:=by cases Y <;> simp[cw]at C <;> rfl
    rw[e]at hk ⊢;exact(FR.Js (Z:=λ_=>True) trivial (show bk H1 (ν d).1=some (es,ys)by unfold bk;rw[hr];rfl) hl (hf.mono λid h=>⟨trivial,rfl⟩)).borrow k hk
   .cases Y <;> simp[cw]at C
    .exact dK k H1 rfl
    .exact dK k H1 rfl
  .simp at h
 | 0,.ptr d o,z,y,h,B,r,k,hk=>by simp[shut]at h
 | n+1,.ptr d o,z,y,h,B,r,k,hk=>by
  simp only[shut]at h;split at h
  .rename_i I D;split at h
   .rename_i xs hx;split at h
    .rename_i aa;simp only[ζa]at h;subst h;obtain⟨_,e,rfl⟩:=r.nH D;cases e;have w:d∉fr:=λw=>by have:=B d w;simp[SV.cU]at this
     obtain⟨es,L,hr,hc,_⟩:=J d _ D w
     cases k with
     | zero=>simp[V.lvl]at hk
     | succ k=>
      simp only[V.lvl]at hk;have ab:∀e∈fr,SV.dy e (I.drop o)=false:=λe he=>by
       have:=G e he d _ D;simp only[bD.cU]at this
       cases hh:SV.dy e (I.drop o)with
       | false=>rfl
       | true=>
        exfalso;have:∀{l:List SV} {j:Nat},SV.dy e (l.drop j)=true->SV.dy e l=true:=by
         intro l
         induction l with
         | nil=>intro j h;simpa using h
         | cons a l O=>intro j h;cases j with
          | zero=>simpa using h
          | succ j=>simp only[SV.dy,Bool.or_eq_true];exact .inr (O (by simpa using h))
        rw[this hh]at *;simp_all
      have Q:xs.length=I.length:=by
       have:∀{l:List SV} {r:List V},cS m n l=some r->r.length=l.length:=by
        intro l
        induction l with
        | nil=>intro r h;simp only[cS,ζa]at h;subst h;rfl
        | cons a l O=>
         intro r h;simp only[cS]at h;split at h
         .rename_i h1 S;simp only[ζa]at h;subst h;simp[O S]
         .simp at h
       exact this hx
      have ad:cS m n (I.drop o)=some (xs.drop o):=by
       have:∀{l:List SV} {r:List V} {j:Nat},cS m n l=some r->cS m n (l.drop j)=some (r.drop j):=by
        intro l
        induction l with
        | nil=>intro r j h;simp only[cS,ζa]at h;subst h;simp[cS]
        | cons a l O=>
         intro r j h;have h0:=h;simp only[cS]at h;split at h
         .rename_i h1 S;simp only[ζa]at h;subst h
          cases j with
          | zero=>exact h0
          | succ j=>exact O S
         .simp at h
       exact this hx
      have hb:=iZ G J n (I.drop o) (xs.drop o) (L.drop o) ad ab (hc.drop o) k hk;unfold borrow;simp only[V.closed,Bool.false_eq_true,if_false,hr,ζb,Ob.rows,List.getElem?_cons_zero,if_pos (show o<=L.length by rw[<-hc.1,<-Q];exact aa),hb,Option.map_some]
    .simp at h
   .simp at h
  .simp at h
 | n,.el d i o,z,y,h,B,r,k,hk=>by cases n <;> simp[shut]at h
 | n,.yl id,z,y,h,B,r,k,hk=>by cases n <;> simp[shut]at h
 | n,.mp d,z,y,h,B,r,k,hk=>by
  simp only[shut]at h;split at h
  .rename_i ae D;simp only[ζa]at h;subst h;obtain⟨_,e,rfl⟩:=r.Bj D;cases e;have w:d∉fr:=λw=>by have:=B d w;simp[SV.cU]at this
   obtain⟨T,hr,U⟩:=J d _ D w
   cases k with
   | zero=>simp[V.lvl]at hk
   | succ k=>
    simp only[V.lvl]at hk;unfold borrow;simp only[V.closed,Bool.false_eq_true,if_false,hr];rw[EF (xs:=ae) (ys:=T) U.1 λj u v hu hv=>?_]
    .rfl
    .obtain⟨⟨e1,e2⟩,e3⟩:=U.2 j u v hu hv;exact⟨by rw[<-e1];exact dK k H1 (V.jA (lR e2)),e3.borrow k (Ee.1 hk j u hu).2⟩
  .simp at h
 | 0,.clo f a b,z,y,h,B,r,k,hk=>by simp[shut]at h
 | n+1,.clo f a b,z,y,h,B,r,k,hk=>by
  simp only[shut]at h;split at h
  .rename_i x1 x2 h1 S;simp only[ζa]at h;subst h;obtain⟨a',b',rfl,ra,rb⟩:=r.jk
   cases k with
   | zero=>simp[V.lvl]at hk
   | succ k=>
    simp only[V.lvl,ζh]at hk;have A:=iZ G J n a x1 a' h1 (λd w=>by have:=B d w;simp only[SV.cU,Bool.or_eq_false_iff]at this;exact this.1) ra k hk.1
    have W:=iZ G J n b x2 b' S (λd w=>by have:=B d w;simp only[SV.cU,Bool.or_eq_false_iff]at this;exact this.2) rb k hk.2
    by_cases t:(V.clo f a' b').closed=true
    .rw[dK _ _ t];simp only[V.closed,ζh]at t;rw[sJ A t.1,sJ W t.2]
    .unfold borrow;rw[if_neg t];simp only[A,W]
  .simp at h
 | 0,.tup l,z,y,h,B,r,k,hk=>by simp[shut]at h
 | n+1,.tup l,z,y,h,B,r,k,hk=>by
  simp only[shut]at h;obtain⟨xs,h1,rfl⟩:=ζf.1 h;obtain⟨X,rfl,rl⟩:=r.oM
  cases k with
  | zero=>simp[V.lvl]at hk
  | succ k=>
   simp only[V.lvl]at hk;have A:=iZ G J n l xs X h1 (λd w=>by have:=B d w;simpa [SV.cU]using this) rl k hk
   by_cases t:(V.tup X).closed=true
   .rw[dK _ _ t];simp only[V.closed]at t;rw[sJ A t]
   .unfold borrow;rw[if_neg t];simp only[A,Option.map_some]
 | 0,.agg l,z,y,h,B,r,k,hk=>by simp[shut]at h
 | n+1,.agg l,z,y,h,B,r,k,hk=>by
  simp only[shut]at h;obtain⟨xs,h1,rfl⟩:=ζf.1 h;obtain⟨X,rfl,rl⟩:=r.gR
  cases k with
  | zero=>simp[V.lvl]at hk
  | succ k=>
   simp only[V.lvl]at hk;have A:=iZ G J n l xs X h1 (λd w=>by have:=B d w;simpa [SV.cU]using this) rl k hk
   by_cases t:(V.agg X).closed=true
   .rw[dK _ _ t];simp only[V.closed]at t;rw[sJ A t]
   .unfold borrow;rw[if_neg t];simp only[A,Option.map_some]
theorem iZ {fr:List Nat} (B:∀d∈fr,∀e ob,bg m e=some ob->ob.cU d=false) (J:∀d ob,bg m d=some ob->d∉fr->dI ν m H1 Z d ob) :
 ∀(n:Nat) (svs:List SV) (xs ys:List V),cS m n svs=some xs->(∀d∈fr,SV.dy d svs=false)->bX ν m H1 Z svs ys->∀k,V.jX k xs=true->gH (borrow k H1) ys=some xs
 | n,[],xs,ys,h,D,r,k,hk=>by simp only[cS,ζa]at h;subst h;rw[r.cK];rfl
 | n,sv::svs,xs,ys,h,D,r,k,hk=>by
  simp only[cS]at h;split at h
  .rename_i y s h1 O;simp only[ζa]at h;subst h;obtain⟨U,G,rfl,r1,r2⟩:=r.inv;simp only[V.jX,ζh]at hk;have u:=GC B J n sv y U h1 (λd t=>by have:=D d t;simp only[SV.dy,Bool.or_eq_false_iff]at this;exact this.1) r1 k hk.1
   have w:=iZ B J n svs s G O (λd t=>by have:=D d t;simp only[SV.dy,Bool.or_eq_false_iff]at this;exact this.2) r2 k hk.2
   simp only[gH,u,w]
  .simp at h
end
end
end Go.VE
namespace Go.VE
variable [bN]
theorem Mt (n:Nat):V.jX n []=true:=by cases n <;> rfl
theorem KR (n:Nat) (x:V) (r:List V):V.jX n (x::r)=(V.lvl n x&&V.jX n r):=by cases n <;> rfl
mutual
theorem A0:∀{n:Nat} {x:V},V.lvl n x=true->V.lvl (n+1) x=true
 | 0,.fsl ..,h=>by simp[V.lvl]at h
 | 0,.fptr ..,h=>by simp[V.lvl]at h
 | 0,.fmap ..,h=>by simp[V.lvl]at h
 | 0,.agg ..,h=>by simp[V.lvl]at h
 | 0,.tup ..,h=>by simp[V.lvl]at h
 | 0,.clo ..,h=>by simp[V.lvl]at h
 | n+1,.fsl es xs,h=>by simp only[V.lvl]at h ⊢;exact zZ h
 | n+1,.fptr cs,h=>by simp only[V.lvl]at h ⊢;exact qp h
 | n+1,.fmap B,h=>by simp only[V.lvl]at h ⊢;exact Ce h
 | n+1,.agg cs,h=>by simp only[V.lvl]at h ⊢;exact qp h
 | n+1,.tup cs,h=>by simp only[V.lvl]at h ⊢;exact qp h
 | n+1,.clo f a b,h=>by simp only[V.lvl,ζh]at h ⊢;exact⟨qp h.1,qp h.2⟩
 | 0,.bool _,_|0,.int ..,_|0,.str _,_|0,.gx,_|0,.fB,_|0,.qB,_|0,.dg,_|0,.bB,_|0,.hsl ..,_|0,.hptr ..,_|0,.yld _,_|0,.hmap _,_=>rfl
 | _+1,.bool _,_|_+1,.int ..,_|_+1,.str _,_|_+1,.gx,_|_+1,.fB,_|_+1,.qB,_|_+1,.dg,_|_+1,.bB,_|_+1,.hsl ..,_|_+1,.hptr ..,_|_+1,.yld _,_|_+1,.hmap _,_=>rfl
theorem qp:∀{n:Nat} {x:List V},V.jX n x=true->V.jX (n+1) x=true
 | n,[],_=>Mt _
 | n,a::l,h=>by rw[KR,ζh]at h ⊢;exact⟨A0 h.1,qp h.2⟩
theorem zZ:∀{n:Nat} {x:List (List V)},V.nS n x=true->V.nS (n+1) x=true
 | n,[],_=>by simp only[V.nS]
 | n,a::l,h=>by simp only[V.nS,ζh]at h ⊢;exact⟨qp h.1,zZ h.2⟩
theorem Ce:∀{n:Nat} {x:List (V×V)},V.qW n x=true->V.qW (n+1) x=true
 | n,[],_=>by simp only[V.qW]
 | n,(k,v)::l,h=>by simp only[V.qW,ζh]at h ⊢;exact⟨⟨A0 h.1.1,A0 h.1.2⟩,Ce h.2⟩
end
theorem vO {n m:Nat} (h:n<=m) {x:V} (B:V.lvl n x=true):V.lvl m x=true:=by
 induction h with
 | refl=>exact B
 | step _ t=>exact A0 t
theorem nD {n m:Nat} (h:n<=m) {x:List V} (B:V.jX n x=true):V.jX m x=true:=by
 induction h with
 | refl=>exact B
 | step _ t=>exact qp t
theorem Mj {n m:Nat} (h:n<=m) {x:List (List V)} (B:V.nS n x=true):V.nS m x=true:=by
 induction h with
 | refl=>exact B
 | step _ t=>exact zZ t
theorem OI {n m:Nat} (h:n<=m) {x:List (V×V)} (B:V.qW n x=true):V.qW m x=true:=by
 induction h with
 | refl=>exact B
 | step _ t=>exact Ce t
mutual
theorem yM:∀x:V,∃n,V.lvl n x=true
 | .fsl es xs=>let ⟨n,h⟩:=EN xs;⟨n+1,by simp only[V.lvl];exact h⟩
 | .fptr t=>let ⟨n,h⟩:=kG t;⟨n+1,by simp only[V.lvl];exact h⟩
 | .fmap u=>let ⟨n,h⟩:=Hr u;⟨n+1,by simp only[V.lvl];exact h⟩
 | .agg t=>let ⟨n,h⟩:=kG t;⟨n+1,by simp only[V.lvl];exact h⟩
 | .tup t=>let ⟨n,h⟩:=kG t;⟨n+1,by simp only[V.lvl];exact h⟩
 | .clo f a b=>let ⟨n,h⟩:=kG a;let ⟨m,k⟩:=kG b;⟨max n m+1,by simp only[V.lvl,ζh];exact⟨nD (Nat.le_max_left _ _) h,nD (Nat.le_max_right _ _) k⟩⟩
 | .bool _|.int ..|.str _|.gx|.fB|.qB|.dg|.bB|.hsl ..|.hptr ..|.yld _|.hmap _=>⟨0,rfl⟩
theorem kG:∀x:List V,∃n,V.jX n x=true
 | []=>⟨0,by simp only[V.jX]⟩
 | a::l=>let ⟨n,h⟩:=yM a;let ⟨m,k⟩:=kG l;⟨max n m,by simp only[V.jX,ζh];exact⟨vO (Nat.le_max_left _ _) h,nD (Nat.le_max_right _ _) k⟩⟩
theorem EN:∀x:List (List V),∃n,V.nS n x=true
 | []=>⟨0,by simp only[V.nS]⟩
 | a::l=>let ⟨n,h⟩:=kG a;let ⟨m,k⟩:=EN l;⟨max n m,by simp only[V.nS,ζh];exact⟨nD (Nat.le_max_left _ _) h,Mj (Nat.le_max_right _ _) k⟩⟩
theorem Hr:∀x:List (V×V),∃n,V.qW n x=true
 | []=>⟨0,by simp only[V.qW]⟩
 | (a,b)::l=>let ⟨n,h⟩:=yM a;let ⟨m,k⟩:=yM b;let ⟨q,p⟩:=Hr l;⟨max n (max m q),by simp only[V.qW,ζh];exact⟨⟨vO (by omega) h,vO (by omega) k⟩,OI (by omega) p⟩⟩
end
end Go.VE
namespace Go.VE
variable [bN]
def iH (E:Env) (call:c7) (ops:List Oper) (place:Option (Nat×Nat)) (f:FuncId) (args:List V) (H:bf):Option (V×bf):=
 if jN E ops place f then
  match place with
  | none=>eH E call f args H
  | some (_,i)=>if dm ops i then eH E call f args H else none
 else match place with
  | none=>match bU call f args H with
   | some y=>some (y,if y.scalar then H else ct H (cE (bW call.lv H) args))
   | none=>none
  | some (b,i)=>match bU call f args (H.take b)with
   | some y=>if y.scalar then some (y,H)else if g_ (H.take b) (cE (bW call.lv (H.take b)) args)then some (y,ct H (cE (bW call.lv (H.take b)) args))else none
   | none=>if dm ops i then match bU call f args H with
    | some y=>some (y,if y.scalar then H else ct H (cE (bW call.lv H) args))
    | none=>none
    else none
section
variable {Rv:Nat->Prop} {ν ν':Nu} {Z Z':Nat->Prop} {st st':St} {m m':Tb bD} {F F':Frame} {H H' H1:bf} {N:Nat->FuncId} {S:Sys} {c:cg}
theorem EO:∀(l:List SV) (i s:Nat) (sv:SV),bg (vw i l) s=some sv->∃j,s=i+j/\l[j]? = some sv
 | [],i,s,sv,h=>by simp[vw,bg]at h
 | x::l,i,s,sv,h=>by
  simp only[vw,bg]at h;split at h
  .rename_i e;simp only[ζa]at h;subst h;exact⟨0,by omega,rfl⟩
  .obtain⟨j,h1,B⟩:=EO l (i+1) s sv h;exact⟨j+1,by omega,by simpa using B⟩
theorem vB {svs:List SV} {args:List V} (h:bX ν m H Z svs args):∀s sv,bg (vw 0 svs) s=some sv->cW ν m H Z sv (get args s):=λs sv t=>by
 obtain⟨j,rfl,u⟩:=EO svs 0 s sv t;obtain⟨y,w,r⟩:=h.get u;rw[Nat.zero_add,El args j y w];exact r
theorem uR {az:List V} (hg:V.cq az=true):R (λ_=>(0,0)) (λ_=>False) (start (az.map .v) []) az []/\bX (λ_=>(0,0)) [] [] (λ_=>False) (az.map .v) az:=by
 have h:bX (λ_=>(0,0)) [] [] (λ_=>False) (az.map .v) az:=bX.pW (cV.same hg)
 refine⟨⟨vB h,λd ob t=>by simp[start,bg]at t,λd w ob u t=>by simp[start,bg]at t,λd ob t=>by simp[start,bg]at t,λid h=>h.elim,⟨λid es z h=>h.elim⟩⟩,h⟩
theorem DG {xs ys:List V} (h:cV H Z xs ys):((result xs).scalar=true->result ys=result xs)/\(result ys).scalar=(result xs).scalar:=by
 cases xs with
 | nil=>rw[h.cK];exact⟨λ_=>rfl,rfl⟩
 | cons x xs=>
  obtain⟨y,ys,rfl,h1,t⟩:=h.inv
  cases xs with
  | nil=>rw[t.cK];exact h1.scalar
  | cons x2 xs=>
   obtain⟨u,ys,rfl,w,z⟩:=t.inv;exact FR.scalar (.tup _ _ h.1 h.2)
theorem Ah (U:jG S c) {f:FuncId} {az ys:List V} {rs:List SV} {m':eW} (hg:V.cq az=true) (h:c f (az.map .v) []=some (rs,m')) (J:cS m' 8 rs=some ys) :
 ∃n r H2,(∀k,n<=k->run S.E k (.fn f) az []=some (r,H2))/\(∀k,n<=k->borrow k H2 r=some (result ys))/\(result ys).good=true:=by
 obtain⟨W,r1⟩:=uR hg;obtain⟨n,y,H2,ν',Z',st',F',w,h1,rfl,X,I,O,_⟩:=U f _ _ _ _ h _ _ az [] (.inr rfl) W r1;subst X;have A:=k_ O.obj 8 rs ys w J I;obtain⟨L,Q⟩:=kG ys;refine⟨max n (L+1),result w,H2,λk hk=>(mb S.E (Nat.le_trans (Nat.le_max_left ..) hk)).go _ _ _ _ h1,λk hk=>?_,?_⟩
 .have u:=iZ (fr:=[]) (λd B=>by simp at B) (λd ob B _=>O.obj d ob B) 8 rs _ _ J (λd B=>by simp at B) I
  obtain⟨k,rfl⟩:∃j,k=j+1:=⟨k-1,by omega⟩
  have T:=u k (nD (by omega) Q)
  have Y:=u (k+1) (nD (by omega) Q)
  obtain⟨e1,e2⟩:=h_ Y
  cases w with
  | nil=>obtain rfl:=List.eq_nil_of_length_eq_zero e1;exact dK _ H2 rfl
  | cons z w=>
   cases w with
   | nil=>
    obtain⟨y,rfl⟩:∃y,ys=[y]:=by
     cases ys with
     | nil=>simp at e1
     | cons y l=>cases l with|nil=>exact⟨y,rfl⟩|cons _ _=>simp at e1
    obtain⟨x,Z,D⟩:=e2 0 y rfl;cases Z;exact D
   | cons z2 w=>
    obtain⟨y,C,l,rfl⟩:∃y C l,ys=y::C::l:=by
     cases ys with
     | nil=>simp at e1
     | cons y l=>cases l with|nil=>simp at e1|cons C l=>exact⟨y,C,l,rfl⟩
    by_cases t:(V.tup (z::z2::w)).closed=true
    .simp only[result];rw[dK _ _ t];simp only[V.closed]at t;rw[sJ T t]
    .simp only[result];unfold borrow;rw[if_neg t];simp only[T,Option.map_some]
 .have:∀{l:List V},V.cq l=true->(result l).good=true:=by
   intro l G
   cases l with
   | nil=>rfl
   | cons a l=>cases l with
    | nil=>simp only[V.cq,ζh]at G;exact G.1
    | cons b l=>simp only[result,V.good];exact G
  exact this A
theorem Cb {f:FuncId} {args az:List V} {y r:V} {H2:bf} {n:Nat} (hr:∀k,n<=k->run S.E k (.fn f) az []=some (r,H2)) (D:∀k,n<=k->borrow k H2 r=some y) (hg:y.good=true) {B:Nat} (G:∀k,B<=k->borrows k H args=some az) :
 ∀k,max n B<=k->bU (run S.E k) f args H=some y:=λk hk=>by
 unfold bU;simp only[mc,G k (by omega),hr k (by omega),D k (by omega),V.jA hg,if_true]
theorem pU (B:∀id,Z id->(bk H id).isSome=true) {T:List Nat} {id:Nat} (h:Z id):bk (ct H T) id=bk H id:=by
 have:=B id h;unfold bk at this ⊢;rw[gT]
 cases t:H[id]? with
 | none=>rw[t]at this;simp at this
 | some ob=>
  rw[t]at this;simp only[Option.map_some,ζb]
  by_cases e:id∈T
  .rw[if_pos e];cases ob <;> first|rfl|simp[Ob.rows]at this
  .rw[if_neg e]
theorem sy {T:List Nat} {id:Nat} (h:id∉T):(ct H T)[id]? = H[id]? := by
 rw[gT];cases H[id]? <;> simp[h]
end
end Go.VE
namespace Go.VE
variable [bN]
section
variable {Rv:Nat->Prop} {ν ν':Nu} {Z Z':Nat->Prop} {st st':St} {m m':Tb bD} {F F':Frame} {H H' H1:bf} {N:Nat->FuncId} {S:Sys} {c:cg}
theorem yx {az:List V} {args:List SV} {ys:List V} (B:∀d ob,bg m d=some ob->dI ν m H Z d ob) (h:cS m 8 args=some az) (r:bX ν m H Z args ys):V.cq az=true:=k_ B 8 args az ys h r
theorem vn {az:List V} {args:List SV} {ys:List V} (r:R ν Z st F H) (B:bX ν st.m H Z args ys) (h:cS st.m 8 args=some az):∃n,∀k,n<=k->borrows k H ys=some az:=
 let ⟨n,u⟩:=kG az
 ⟨n,λk hk=>iZ (fr:=[]) (λd t=>by simp_all) (λd ob t _=>r.obj d ob t) 8 args az ys h (λd t=>by simp_all) B k (nD hk u)⟩
theorem lS {b id:Nat} (h:id<b):bk (H.take b) id=bk H id:=by
 unfold bk;grind
theorem HQ {b:Nat} {fr:List Nat} {az:List V} {args:List SV} {ys:List V} (r:R ν Z st F H) (B:bX ν st.m H Z args ys) (h:cS st.m 8 args=some az)
 (G:∀d ob,bg st.m d=some ob->cB ob=true->d∉fr->(ν d).1<b) (D:∀id,Z id->id<b) (hold:f_ st.m fr args=true):∃n,∀k,n<=k->borrows k (H.take b) ys=some az:=by
 obtain⟨n,w⟩:=kG az;refine⟨n,λk hk=>?_⟩
 unfold f_ at hold;have h1:∀d∈fr,SV.dy d args=false/\qL d st.m=false:=λd t=>by
  grind
 have u:∀id,Z id->Z id/\bk (H.take b) id=bk H id:=λid h=>⟨h,lS (D id h)⟩
 refine iZ   (λd t e ob z=>wR (h1 d t).2 z) (λd ob t A=>?_) 8 args az ys h (λd t=>(h1 d t).1) (B.mono u λe _=>hU ν st.m e) k (nD hk w)
 exact dI.mono u rfl (λC=>by grind) (λe _=>hU ν st.m e) (r.obj d ob t)
theorem O_ (hS:jG S c) {ops:List Oper} {place:Option (Nat×Nat)} {dr nw:Bool} {fr:List Nat} (ad:dr=place.isSome) (aa:∀b i,place=some (b,i)->nw=true->dm ops i=true)
 (hold:∀b i,place=some (b,i)->(∀d ob,bg st.m d=some ob->cB ob=true->d∉fr->(ν d).1<b)/\∀id,Z id->id<b)
 (r:R ν Z st F H) {args:List SV} {ys:List V} (ha:bX ν st.m H Z args ys) {f:FuncId} (hk:S.E.keep f=false) {az:List V} (hs:cS st.m 8 args=some az) (hno:(!dr||nw)=true\/f_ st.m fr args=true)
 {rs:List SV} {m':eW} {D:List V} (hc:c f (az.map .v) []=some (rs,m')) (Y:cS m' 8 rs=some D) (O:(result D).scalar=true\/(dn args).isSome=true) :
 ∃n H',(∀k,n<=k->iH S.E (run S.E k) ops place f ys H=some (result D,H'))/\R ν Z st F H'/\cW ν st.m H' Z (.v (result D)) (result D)/\Ev Rv ν Z st H ν Z st H':=by
 have hg:=yx r.obj hs ha;obtain⟨n1,rr,H2,h1,h2,h3⟩:=Ah hS hg hc Y;obtain⟨n2,hb⟩:=vn r ha hs;have G:=Cb h1 h2 h3 hb;generalize hn:max n1 n2=n at G;have A:=G;have L:∀k,n<=k->cE (bW k H) ys=cE (bW n H) ys:=λk hk=>wP hk (hb n (by omega))
 have C:∀{H'},cW ν st.m H' Z (.v (result D)) (result D):=.v _ _ (.same _ h3);have B:∀T:List Nat,(∀id∈T,Z id)->R ν Z st F (ct H T)/\Ev Rv ν Z st H ν Z st (ct H T):=λT U=>
  ⟨r.heap (λid ho=>sy λw=>by obtain⟨d,ob,g1,g2,rfl⟩:=ho;exact r.apart d ob g1 g2 (U _ w)) (λid w=>pU r.zrow w),
   Ev.heap (by rw[ji];grind) (λid _ _ Y _=>sy λw=>Y (U id w)) (λid w=>pU r.zrow w)⟩
 have I:(dn args).isSome=true->(∀id∈cE (bW n H) ys,Z id)/\True:=λW=>by
  obtain⟨xs,W⟩:=Option.isSome_iff_exists.1 W;have hf:=ha.dn W;exact⟨λid w=>by
   obtain⟨j,u,hu,X⟩:=oC w;have hj:j<xs.length:=by rw[hf.1];grind
   exact FR.bW r.deep n (hf.2 j _ u (ζd hj) hu) id X,trivial⟩
 cases place with
 | none=>
  by_cases t:(result D).scalar=true
  .exact⟨n,H,λk z=>by simp[iH,jN,hk,A k z,t],r,C,.refl⟩
  .obtain⟨U,-⟩:=I (O.resolve_left t);obtain⟨q1,q2⟩:=B _ U;exact⟨n,ct H (cE (bW n H) ys),λk z=>by simp[iH,jN,hk,A k z,t,mc,L k z],q1,C,q2⟩
 | some bi=>
  obtain⟨b,i⟩:=bi;obtain⟨o1,o2⟩:=hold b i rfl;have af  := ad;have fits:∀k,bU (run S.E k) f ys (H.take b)=some (result D)->(result D).scalar=false->g_ (H.take b) (cE (bW k (H.take b)) ys)=true/\cE (bW k H) ys=cE (bW k (H.take b)) ys:=λk _ ah=>by
   obtain⟨xs,W⟩:=Option.isSome_iff_exists.1 (O.resolve_left (by grind))
   have hf:=ha.dn W;have Q:∀id,Z id->Z id/\bk (H.take b) id=bk H id:=λid h=>⟨h,lS (o2 id h)⟩
   have hd:Deep (H.take b) Z:=⟨λid es ys Y hr c hc u hu=>by
    rw[(Q id Y).2]at hr;obtain⟨x,W⟩:=r.deep.row id es ys Y hr c hc u hu;exact⟨x,W.mono Q⟩⟩
   have hZ:∀id∈cE (bW k (H.take b)) ys,Z id:=λid w=>by
    obtain⟨j,u,hu,X⟩:=oC w;have hj:j<xs.length:=by rw[hf.1];grind
    exact FR.bW hd k ((hf.2 j _ u (ζd hj) hu).mono Q) id X
   refine⟨?_,r_ _ λid w=>o2 id (hZ id w)⟩
   unfold g_;rw[List.all_eq_true];intro id w;have h1:=r.zrow id (hZ id w);rw[<-(Q id (hZ id w)).2]at h1;exact h1
  rcases hno with hno|hno
  .have ab:=aa b i rfl (by grind)
   by_cases t:(result D).scalar=true
   .refine⟨n,H,λk z=>?_,r,C,.refl⟩
    simp[iH,jN,hk];split
    .rename_i y hy;have:=og hy;rw[A k z]at this;cases this;simp[t]
    .simp[ab,A k z,t]
   .obtain⟨U,-⟩:=I (O.resolve_left t);obtain⟨q1,q2⟩:=B _ U;refine⟨n,ct H (cE (bW n H) ys),λk z=>?_,q1,C,q2⟩
    simp only[iH,jN,hk,mc,Bool.false_and,Bool.false_eq_true,if_false];split
    .rename_i y hy;have h9:=og hy;rw[A k z]at h9;cases h9;obtain⟨f1,f2⟩:=fits k hy (by simpa using t)
     rw[if_neg t,if_pos f1,<-f2,L k z]
    .simp only[ab,if_true,A k z];rw[if_neg t,L k z]
  .obtain⟨n3,ae⟩:=HQ r ha hs o1 o2 hno;have J:=Cb h1 h2 h3 ae
   by_cases t:(result D).scalar=true
   .refine⟨max n1 n3,H,λk z=>?_,r,C,.refl⟩
    simp[iH,jN,hk];have:=J k z;simp[this,t]
   .obtain⟨U,-⟩:=I (O.resolve_left t);obtain⟨q1,q2⟩:=B _ U;refine⟨max n (max n1 n3),ct H (cE (bW n H) ys),λk z=>?_,q1,C,q2⟩
    simp only[iH,jN,hk,mc,Bool.false_and,Bool.false_eq_true,if_false];have h9:=J k (by omega)
    obtain⟨f1,f2⟩:=fits k h9 (by simpa using t)
    simp only[h9];rw[if_neg t,if_pos f1,<-f2,L k (by omega)]
theorem C8 {α:Type} {k:Nat} {v:α}:∀{ds:List Nat} {g:Tb α},bg (nW ds g) k=some v->k∉ds
 | [],_,_=>by simp
 | d::ds,g,h=>by
  have h1:=C8 (ds:=ds) h;have t:=(mH (mR  h)).1
  grind
theorem wC:∀{args:List SV} {ds:List Nat},rowsOf args=some ds->∀(j:Nat) u,args[j]? = some u->(∃x,u=.v x)\/∃d,u=.own d/\d∈ds
 | [],_,_,j,u,hu=>by simp_all
 | .v x::r,ds,h,j,u,hu=>by
  cases j with
  | zero=>grind
  | succ j=>exact wC  (by simpa [rowsOf]using h) j u (by grind)
 | .own d::r,ds,h,j,u,hu=>by
  obtain⟨es,h1,rfl⟩:=ζf.1 h
  cases j with
  | zero=>grind
  | succ j=>
   rcases wC h1 j u (by grind)with k|⟨t,k1,k2⟩
   .grind
   grind
 | .ptr ..::_,_,h,_,_,_|.el ..::_,_,h,_,_,_|.mp _::_,_,h,_,_,_|.clo ..::_,_,h,_,_,_|.tup _::_,_,h,_,_,_|.agg _::_,_,h,_,_,_|.yl _::_,_,h,_,_,_=>by simp[rowsOf]at h
theorem uj:∀{args:List SV} {ds:List Nat} {n:Nat} {az:List V},rowsOf args=some ds->cS m n args=some az->∀d∈ds,∃ob,bg m d=some ob
 | [],ds,_,_,h,_,d,hd=>by simp[rowsOf]at h;grind
 | x::r,ds,n,az,h,B,d,hd=>by
  simp[cS]at B;split at B
  rotate_left
  .cases B
  rename_i y s h1 D
  cases x with
  | v x=>exact uj  (by simpa [rowsOf]using h) D d hd
  | own e=>
   obtain⟨es,g1,rfl⟩:=ζf.1 h;rcases List.mem_cons.1 hd with rfl|hd
   .cases n <;> (simp[shut]at h1;grind)
   .exact uj g1 D d hd
  | _=>simp[rowsOf]at h
theorem zF {H0:bf} (U:Deep H0 Z) (Y:∀d ob,bg m d=some ob->cB ob=true->(H0[(ν d).1]?).isSome=true->dI ν m H0 Z d ob) {args:List SV} {ys:List V} (W:bX ν m H0 Z args ys) {ds:List Nat} (hr:rowsOf args=some ds)
 (D:∀d∈ds,∃ob,bg m d=some ob) {q id:Nat} (h:id∈cE (bW q H0) ys):Z id\/∃d ob,d∈ds/\bg m d=some ob/\cB ob=true/\(ν d).1=id/\∃j es off len:Nat,ys[j]? = some (V.hsl id es off len):=by
 obtain⟨j,y,Q,hk⟩:=oC h;have S:j<args.length:=by rw[W.1];grind
 have hu:=ζd S;have B:=W.2 j _ y hu Q;rcases wC hr j _ hu with⟨x,e⟩|⟨d,e,G⟩
 .rw[e]at B;cases B with|v _ _ T=>exact .inl (FR.bW U q T id hk)
 .rw[e]at B;obtain⟨ob,A⟩:=D d G;obtain⟨k,es,C,rfl,rfl⟩:=B.jv A
  by_cases t:cw k=true
  .cases q with
   | zero=>simp[bW]at hk
   | succ q=>
   have I:qm (ν d) k es C.length=.hsl (ν d).1 es (ν d).2 C.length:=by cases k <;> first|rfl|cases t
   rw[I]at hk;have X:cB (.sl k es C)=true:=t
   by_cases w:(H0[(ν d).1]?).isSome=true
   .have o:=Y d _ A X w;simp[dI,t]at o;obtain⟨zs,h1,_,_,h4,_⟩:=o;simp only[bW,V.closed,Bool.false_eq_true,if_false,h1,List.mem_cons]at hk;rcases hk with rfl|hk
    .grind
    .obtain⟨i,u,hu,J⟩:=oC hk;obtain⟨c,hc,L⟩:=List.mem_flatten.1 (List.mem_of_getElem? hu);obtain⟨x,hx⟩:=h4 c (List.mem_of_mem_drop (List.mem_of_mem_take hc)) u L;exact .inl (FR.bW U q hx id J)
   .have z:H0[(ν d).1]? = none:=by grind
    simp[bW,V.closed,z]at hk
    grind
  .have O:(qm (ν d) k es C.length).closed=true:=by cases k <;> first|rfl|(exact absurd rfl t)
   rw[Gc q H0 O]at hk;cases hk
theorem Px (hS:jG S c) {ops:List Oper} {place:Option (Nat×Nat)} {nw:Bool} (U:∀b i,place=some (b,i)->nw=true->dm ops i=true)
 (hold:∀b i,place=some (b,i)->∀id,Z id->id<b)
 (r:R ν Z st F H) {args:List SV} {ys:List V} (ha:bX ν st.m H Z args ys) {f:FuncId} (hk:S.E.keep f=false) {az:List V} (hs:cS st.m 8 args=some az) (aa:(!place.isSome||nw)=true)
 {rs:List SV} {m':eW} {G:List V} (hc:c f (az.map .v) []=some (rs,m')) (W:cS m' 8 rs=some G) (J:(result G).scalar=false) {ds:List Nat} (hr:rowsOf args=some ds) (Y:∀d∈ds,∃ob,bg st.m d=some ob) :
 ∃n H',(∀k,n<=k->iH S.E (run S.E k) ops place f ys H=some (result G,H'))/\R ν Z { st with m:=nW ds st.m } F H'/\cW ν (nW ds st.m) H' Z (.v (result G)) (result G)/\Ev Rv ν Z st H ν Z { st with m:=nW ds st.m } H':=by
 have hg:=yx r.obj hs ha;obtain⟨n1,rr,H2,h1,h2,h3⟩:=Ah hS hg hc W;obtain⟨n2,hb⟩:=vn r ha hs;have A:=Cb h1 h2 h3 hb;generalize hn:max n1 n2=n at A;have B:=A;have I:∀k,n<=k->cE (bW k H) ys=cE (bW n H) ys:=λk hk=>wP hk (hb n (by omega))
 have Q:∀{H'},cW ν (nW ds st.m) H' Z (.v (result G)) (result G):=.v _ _ (.same _ h3);have z:∀d ob,bg (nW ds st.m) d=some ob->bg st.m d=some ob:=λd ob h=>mR h
 have hT:∀id∈cE (bW n H) ys,Z id\/∃d ob,d∈ds/\bg st.m d=some ob/\cB ob=true/\(ν d).1=id/\∃j es off len:Nat,ys[j]? = some (V.hsl id es off len):=λid t=>zF r.deep (λd ob h _ _=>r.obj d ob h) ha hr Y t
 have r2  := r.less (λ_ _ h=>h) z
 have q1  := r2.heap (λid T=>sy λt=>by
  obtain⟨d,ob,g1,g2,rfl⟩:=T;rcases hT _ t with h|⟨d',L,k1,k2,k3,k4,_⟩
  .exact r.apart d ob (z d ob g1) g2 h
  .have:=r.inj d' d L ob k2 (z d ob g1) k3 g2 k4;subst this;exact C8 g1 k1) (λid t=>pU r.zrow t)
 have q2:Ev Rv ν Z st H ν Z { st with m:=nW ds st.m } (ct H (cE (bW n H) ys)):=(Ev.heap (by rw[ji];grind) (λid _ T W _=>sy λt=>by
  rcases hT _ t with h|⟨d',L,k1,k2,k3,k4,_⟩
  .simp_all
  .exact T ⟨d',L,k2,k3,k4⟩) (λid t=>pU r.zrow t)).trans (Ev.less  z)
 cases place with
 | none=>exact⟨n,ct H (cE (bW n H) ys),λk w=>by simp[iH,jN,hk,B k w,J,mc,I k w],q1,Q,q2⟩
 | some bi=>
  obtain⟨b,i⟩:=bi;have o2:=hold b i rfl;have fits:∀k,bU (run S.E k) f ys (H.take b)=some (result G)->g_ (H.take b) (cE (bW k (H.take b)) ys)=true/\cE (bW k H) ys=cE (bW k (H.take b)) ys:=λk hi=>by
   have C:∀id,Z id->Z id/\bk (H.take b) id=bk H id:=λid h=>⟨h,lS (o2 id h)⟩
   have hd:Deep (H.take b) Z:=⟨λid es ys W hr c hc u hu=>by
    rw[(C id W).2]at hr;obtain⟨x,hx⟩:=r.deep.row id es ys W hr c hc u hu;exact⟨x,hx.mono C⟩⟩
   have ab  := ha.mono C λe _=>hU ν st.m e
   have ad:∀d ob,bg st.m d=some ob->cB ob=true->((H.take b)[(ν d).1]?).isSome=true->dI ν st.m (H.take b) Z d ob:=λd ob h hb ae=>
    dI.mono C rfl (λ_=>by
     grind) (λe _=>hU ν st.m e) (r.obj d ob h)
   have X:∀(j:Nat) (y:V),ys[j]? = some y->(borrow k (H.take b) y).isSome=true:=λj y O=>by
    unfold bU at hi;rw[mc]at hi;split at hi
    .rename_i af ah;obtain⟨_,hm⟩:=h_ ah;have hj:=(ζe.1 O).1;obtain⟨x,aj,ak⟩:=hm j _ (ζd (show j<af.length by omega))
     grind
    .cases hi
   have hZ:∀id∈cE (bW k (H.take b)) ys,id<b/\(bk (H.take b) id).isSome=true:=λid t=>by
    rcases zF hd ad ab hr Y t with h|⟨d,ob,k1,k2,k3,k4,j,es,off,len,O⟩
    .have:=r.zrow id h
     grind
    .have D:=X j _ O
     cases k with
     | zero=>simp[borrow,V.closed]at D
     | succ k=>
     simp only[borrow,V.closed,Bool.false_eq_true,if_false]at D;split at D
     .rename_i al xs hx;obtain⟨o,T,_⟩:=ζg.1 hx;have:=(ζe.1 T).1;rw[List.length_take]at this;exact⟨by omega,by unfold bk;rw[hx];rfl⟩
     .cases D
   refine⟨?_,r_ _ λid t=>(hZ id t).1⟩
   unfold g_;rw[List.all_eq_true];exact λid t=>(hZ id t).2
  refine⟨n,ct H (cE (bW n H) ys),λk w=>?_,q1,Q,q2⟩
  simp only[iH,jN,hk,mc,Bool.false_and,Bool.false_eq_true,if_false];split
  .rename_i y O;have h9:=og O;rw[B k w]at h9;cases h9;obtain⟨f1,f2⟩:=fits k O;rw[if_neg (by rw[J];simp),if_pos f1,<-f2,I k w]
  .have ai:=U b i rfl (by simpa using aa)
   simp only[ai,if_true,B k w];rw[if_neg (by rw[J];simp),I k w]
theorem Gs {xs ys:List (List V)} (h:fA H Z xs ys) (B:mQ xs=true):ys=xs:=by
 refine(List.ext_getElem h.1 λj h1 w=>?_).symm
 have:=h.2 j _ _ (ζd h1) (ζd w);have t  := by
  unfold mQ at B;rw[List.all_eq_true]at B;have:=B _ (List.getElem_mem h1);rw[List.all_eq_true]at this;exact pn.2 λk u hu=>this u (List.mem_of_getElem? hu)
 exact(this.scalar.1 t).symm
theorem Av {α:Type}:∀{a b:Tb α} {k:Nat} {v:α},bg (a++b) k=some v->bg a k=some v\/bg b k=some v
 | [],b,k,v,h=>.inr h
 | (d,x)::a,b,k,v,h=>by
  simp only[List.cons_append,bg]at h ⊢;split
  .rename_i e;rw[if_pos e]at h;exact .inl h
  .rename_i e;rw[if_neg e]at h;exact Av h
mutual
theorem M_:∀{x:SV} {os:eW},SV.nr m x=some os->∀k ob,bg os k=some ob->bg m k=some ob/\qG ob=true
 | .v _,os,h,k,ob,hk=>by simp[SV.nr]at h;subst h;simp[bg]at hk
 | .own d,os,h,k,ob,hk=>by
  simp only[SV.nr]at h;split at h
  .rename_i B;cases h;simp only[bg]at hk;split at hk
   .rename_i e;subst e;cases hk;exact⟨B,rfl⟩
   .cases hk
  .cases h
 | .ptr d _,os,h,k,ob,hk=>by
  simp only[SV.nr]at h;split at h
  .rename_i B;split at h
   .rename_i hc;cases h;simp only[bg]at hk;split at hk
    .rename_i e;subst e;cases hk;exact⟨B,hc⟩
    .cases hk
   .cases h
  .cases h
 | .clo _ a b,os,h,k,ob,hk=>by
  simp only[SV.nr]at h;split at h
  .rename_i h1 B;cases h;rcases Av hk with g|g
   .exact pE h1 k ob g
   .exact pE B k ob g
  .cases h
 | .el ..,os,h,k,ob,hk|.mp _,os,h,k,ob,hk|.tup _,os,h,k,ob,hk|.agg _,os,h,k,ob,hk|.yl _,os,h,k,ob,hk=>by simp[SV.nr]at h
theorem pE:∀{args:List SV} {os:eW},handed m args=some os->∀k ob,bg os k=some ob->bg m k=some ob/\qG ob=true
 | [],os,h,k,ob,hk=>by simp[handed]at h;subst h;simp[bg]at hk
 | x::r,os,h,k,ob,hk=>by
  simp only[handed]at h;split at h
  .rename_i h1 B;cases h;rcases Av hk with g|g
   .exact M_ h1 k ob g
   .exact pE B k ob g
  .cases h
end
theorem xd:∀{l:List Nat} {a b:Tb bD},mM m' l a=some b->(∀k∈l,bg b k=bg m' k/\∃ob,bg m' k=some ob/\qG ob=true)/\∀k,k∉l->bg b k=bg a k
 | [],a,b,h=>by simp[mM]at h;grind
 | d::r,a,b,h=>by
  simp[mM]at h;split at h
  .rename_i ob B;split at h
   .rename_i G;obtain⟨h1,D⟩:=xd h;refine⟨λk hk=>?_,λk hk=>?_⟩
    .by_cases hr:k∈r
     .grind
     .have e:k=d:=by grind
      subst e;exact⟨by rw[D k hr,cA,B],ob,B,G⟩
    .simp  at hk;rw[D k hk.2,dP _ _ (Ne.symm hk.1)]
   grind
  grind
theorem mem_keys:∀{os:eW} {k:Nat},k∈os.map (·.1)↔∃ob,bg os k=some ob
 | [],k=>by simp[bg]
 | (d,o)::os,k=>by
  simp[bg]
  by_cases e:d=k
  .simp_all
  .rw[if_neg e,<-mem_keys]
   grind
theorem dI.plain {d:Nat} {ob:bD} (J:qG ob=true) (B:∀id,Z id->Z' id/\bk H' id=bk H id) (D:ν' d=ν d) (G:cB ob=true->H'[(ν d).1]? = H[(ν d).1]?) (o:dI ν m H Z d ob):dI ν' m' H' Z' d ob:=by
 cases ob with
 | box L=>
  obtain⟨z,w⟩:=Option.isSome_iff_exists.1 J;obtain⟨es,t,h1,A,C⟩:=o;refine⟨es,t,by rw[D,G rfl];omega,?_,C⟩
  have:=(A.dn w).mono B;rw[qg w];exact bX.pW this
 | sl k es z=>exact dI.mono B D G (λe u=>by simp[bD.cU]at u) o
 | mp I=>exact dI.mono B D G (λe u=>by simp[bD.cU]at u) o
theorem Qc (hS:jG S c) {f:FuncId} (U:S.E.keep f=true) (r:R ν Z st F H) {args:List SV} {ys:List V} (ha:bX ν st.m H Z args ys) {os:eW} (hh:handed st.m args=some os)
 {rs:List SV} {m':eW} {O:List V} {D:Tb bD} (hc:c f args os=some (rs,m')) (W:dn rs=some O) (hb:mM m' (os.map (·.1)) st.m=some D) :
 ∃n y H' Z',(∀k,n<=k->run S.E k (.fn f) ys H=some (y,H'))/\R ν Z' { st with m:=D } F H'/\cW ν D H' Z' (.v (result O)) y/\Ev Rv ν Z st H ν Z' { st with m:=D } H'/\∀e ob',bg D e=some ob'->∃ob,bg st.m e=some ob/\ν e=ν e/\sameShape ob ob':=by
 have t  := λk ob h=>(pE hh k ob h).1
 have G  := ha.mono (λid h=>⟨h,rfl⟩) λe _ ob' h=>⟨ob',t e ob' h,rfl,.refl _⟩
 have r0:R ν Z (start args os) ys H:=by
  refine⟨vB G,λd ob hd=>?_,λd d' ob ob' h1 C=>r.inj d d' ob ob' (t d ob h1) (t d' ob' C),λd ob h=>r.apart d ob (t d ob h),r.zrow,r.deep⟩
  exact dI.plain (pE hh d ob hd).2 (λid h=>⟨h,rfl⟩) rfl (λ_=>rfl) (r.obj d ob (t d ob hd))
 obtain⟨n,y,H',ν1,Z',I,F1,ws,e1,rfl,rfl,e2,e3,ev⟩:=hS f args os rs m' hc ν Z ys H (.inl U) r0 G;obtain⟨b1,b2⟩:=xd hb;have ab:∀k ob',k∈os.map (·.1)->bg I.m k=some ob'->∃ob,bg os k=some ob/\ν1 k=ν k/\sameShape ob ob':=λk ob' hk h=>ev.pin k hk ob' h
 have z:∀id,fm ν os id->fm ν st.m id:=λid ⟨k,o,h1,C,A⟩=>⟨k,o,t k o h1,C,A⟩
 have T:∀ob ob':bD,sameShape ob ob'->cB ob'=cB ob:=λob ob' h=>by
  cases ob <;> cases ob' <;> simp[sameShape]at h
  .simp[cB,h.1]
  .rfl
  .rfl
 have w:∀k ob',bg D k=some ob'->∃ob,bg st.m k=some ob/\sameShape ob ob'/\(k∈os.map (·.1)/\bg I.m k=some ob'/\ν1 k=ν k/\bg os k=some ob/\qG ob'=true\/k∉os.map (·.1)/\ob'=ob):=λk ob' h=>by
  by_cases hk:k∈os.map (·.1)
  .grind
  .rw[b2 k hk]at h;exact⟨ob',h,.refl _,.inr ⟨hk,rfl⟩⟩
 have u:∀k ob,k∉os.map (·.1)->bg st.m k=some ob->cB ob=true->H'[(ν k).1]? = H[(ν k).1]? /\ ¬Z' (ν k).1:=λk ob hk h B=>by
  have J:¬fm ν os (ν k).1:=by
   rintro⟨k2,o2,g1,g2,g3⟩;have:=r.inj k2 k o2 ob (t k2 o2 g1) h g2 B g3;subst this;exact hk (mem_keys.2 ⟨o2,g1⟩)
  have X:=r.lt ⟨k,ob,h,B,rfl⟩;have Y:=r.apart k ob h B;refine⟨ev.same _ X J Y (λh=>h),λaa=>?_⟩
  rcases ev.frz _ aa with h|h|h|h
  .simp_all
  .exact J h
  .omega
  omega
 have L:∀e ob',bg D e=some ob'->∃ob,bg st.m e=some ob/\ν e=ν e/\sameShape ob ob':=λe ob' h=>by
  obtain⟨ob,h1,C,_⟩:=w e ob' h;exact⟨ob,h1,rfl,C⟩
 refine⟨n,result ws,H',Z',λk hk=>(mb S.E hk).go _ _ _ _ e1,⟨λs sv hs=>(r.slot s sv hs).mono ev.rows λe _=>L e,λk ob' h=>?_,λd1 d2 o1 o2 h1 C k1 k2 hp=>?_,λd1 o1 h1 k1=>?_,e3.zrow,e3.deep⟩,?_,⟨ev.len,?_,ev.rows,?_,?_,λe _=>L e,rfl⟩,L⟩
 .obtain⟨ob,h1,C,A|⟨A,rfl⟩⟩:=w k ob' h
  .obtain⟨q1,q2,q3,q4,q5⟩:=A;refine dI.plain    q5 (λid h=>⟨h,rfl⟩) q3.symm (λ_=>rfl) (e3.obj k ob' q2)
  .exact dI.mono ev.rows rfl (λB=>(u k ob' A h1 B).1) (λe _=>L e) (r.obj k ob' h1)
 .obtain⟨p1,g1,s1,_⟩:=w d1 o1 h1;obtain⟨p2,g2,s2,_⟩:=w d2 o2 C;exact r.inj d1 d2 p1 p2 g1 g2 (by rw[<-T _ _ s1];omega) (by rw[<-T _ _ s2];omega) hp
 .obtain⟨ob,g1,s1,A|⟨A,rfl⟩⟩:=w d1 o1 h1
  .obtain⟨q1,q2,q3,q4,q5⟩:=A;rw[<-q3];exact e3.apart d1 o1 q2 k1
  .exact(u d1 o1 A g1 k1).2
 .have Q:=e2.dn W;have:FR H' Z' (result O) (result ws):=by
   cases O with
   | nil=>rw[Q.cK];exact .same _ rfl
   | cons x xs=>
    obtain⟨y,ad,rfl,g1,g2⟩:=Q.inv
    cases xs with
    | nil=>rw[g2.cK];exact g1
    | cons x2 xs=>
     obtain⟨y2,ae,rfl,g3,g4⟩:=g2.inv;exact .tup _ _ Q.1 Q.2
  exact .v _ _ this
 .intro id hl ho W _;exact ev.same id hl (λh=>ho (z id h)) W (λh=>h)
 .rintro id ⟨k,o,h1,C,A⟩;obtain⟨ob,g1,s1,_⟩:=w k o h1;exact .inl ⟨k,ob,g1,by rw[<-T _ _ s1];omega,A⟩
 .intro id h;rcases ev.frz id h with h|h|h|h
  .exact .inl h
  .exact .inr (.inl (z id h))
  .exact h.elim
  omega
theorem Nj (B:jG S c) {f:FuncId} {az:List V} {rs:List SV} {m':eW} (hg:V.cq az=true) (h:c f (az.map .v) []=some (rs,m')) :
 ∃n H2 ν' Z' st' F' ys,(∀k,n<=k->run S.E k (.fn f) az []=some (result ys,H2))/\st'.m=m'/\bX ν' m' H2 Z' rs ys/\R ν' Z' st' F' H2:=by
 obtain⟨t,r1⟩:=uR hg;obtain⟨n,y,H2,ν',Z',st',F',u,h1,rfl,w,z,A,_⟩:=B f _ _ _ _ h _ _ az [] (.inr rfl) t r1;exact⟨n,H2,ν',Z',st',F',u,λk hk=>(mb S.E hk).go _ _ _ _ h1,w,z,A⟩
theorem BN {ys:List V} (h:V.cH ys=true):V.cH (.bB::ys)=true/\V.cH (.dg::ys)=true:=by
 simp[V.cH,V.scalar];grind
theorem Ca {ys:List V} (h:V.cH ys=true):(result ys).scalar=true:=by
 cases ys with
 | nil=>rfl
 | cons a l=>
  cases l with
  | nil=>simp only[V.cH,ζh]at h;exact h.1
  | cons b l=>simp[result,V.scalar];omega
theorem bX.QX {ys:List V} (h:V.cq ys=true):bX ν m H Z (ys.map .v) ys:=bX.pW (cV.same h)
theorem No (hS:jG S c) (hP:∀f q,S.prm f=some q->mU S.E f q) {ops:List Oper} {place:Option (Nat×Nat)} {dr nw:Bool} {fr:List Nat} (Y:dr=place.isSome) (U:∀b i,place=some (b,i)->nw=true->dm ops i=true)
 (hold:∀b i,place=some (b,i)->(∀d ob,bg st.m d=some ob->cB ob=true->d∉fr->(ν d).1<b)/\∀id,Z id->id<b)
 (r:R ν Z st F H) {args:List SV} {ys:List V} (ha:bX ν st.m H Z args ys) {f:FuncId} {dst:Option Nat} {sv:SV} (h:gz S c dst dr (!dr||nw) (f_ st.m fr) f args st=some (sv,st')) :
 ∃n y H' ν' Z',(∀k,n<=k->iH S.E (run S.E k) ops place f ys H=some (y,H'))/\R ν' Z' st' F H'/\cW ν' st'.m H' Z' sv y/\Ev Rv ν Z st H ν' Z' st' H'/\(dr=true->Z'=Z)/\Kept dst ν st.m ν' st'.m:=by
 unfold gz at h;split at h
 .rename_i hk;split at h
  .have B:∀{q:c7} {y:V} {H':bf},eH S.E q f ys H=some (y,H')->iH S.E q ops place f ys H=some (y,H'):=λ{q y H'} hd=>by
    unfold iH
    cases place with
    | none=>rw[if_pos (by simp[jN,hk])];omega
    | some bi=>
     obtain⟨b,i⟩:=bi;have aD  := Y;have au:=U b i rfl (by grind)
     rw[if_pos (by simp[jN,hk,au])]
     grind
   split at h
   .
    rename_i O;split at h
    .rename_i az hs
     .have hg:=yx r.obj hs ha;obtain⟨nb,hb⟩:=vn r ha hs;split at h
      .rename_i rs m' hc;obtain⟨na,H2,ν2,Z2,st2,F2,X,av,rfl,e3,e4⟩:=Nj hS hg hc;obtain⟨n,aw,ax⟩:∃n,na<=n/\nb<=n:=⟨max na nb,Nat.le_max_left ..,Nat.le_max_right ..⟩;have e1:=λk (hk:n<=k)=>av k (Nat.le_trans aw hk)
       have J:∀k,n<=k->∀{o:Option (V×bf)},(if(result X).scalar then some (result X,H)else
        match result X with
        | .hsl id es off len=>(pq H.length H2 id es off len).map λ(v,ob)=>(v,H++[ob])
        | .tup (.hsl id es off len::rest)=>if V.cH rest then(pq H.length H2 id es off len).map λ(v,ob)=>(.tup (v::rest),H++[ob])else none
        | _=>none)=o->eH S.E (run S.E k) f ys H=o:=λk C o ho=>by
        unfold eH jx;rw[if_pos O];simp[mc,hb k (Nat.le_trans ax C),e1 k C];exact ho
       have ae:∀D:List V,(result D).scalar=true->result X=result D->sv=.v (result D)->st'=st->∃n y H' ν' Z',(∀k,n<=k->iH S.E (run S.E k) ops place f ys H=some (y,H'))/\R ν' Z' st' F H'/\cW ν' st'.m H' Z' sv y/\Ev Rv ν Z st H ν' Z' st' H'/\(dr=true->Z'=Z)/\Kept dst ν st.m ν' st'.m:=by
        rintro D h1 h2 rfl rfl;exact⟨n,result D,H,ν,Z,λk C=>B (J k C (by rw[h2,if_pos h1])),r,.v _ _ (.same _ (lR h1)),.refl,λ_=>rfl,.refl⟩
       have emp:∀(k:Fl) (es:Nat) (D:List V) (rest:List SV),V.cH D=true->∀t,st.new t=true->∀w:V,(k=.nil/\w=.bB\/k=.emp/\w=.dg)->result (w::D)=result X->dst=some t->sv=DO (.own t::D.map .v)->st'={ st with m:=bJ st.m t (.sl k es []) } ->
        ∃n y H' ν' Z',(∀k,n<=k->iH S.E (run S.E k) ops place f ys H=some (y,H'))/\R ν' Z' st' F H'/\cW ν' st'.m H' Z' sv y/\Ev Rv ν Z st H ν' Z' st' H'/\(dr=true->Z'=Z)/\Kept dst ν st.m ν' st'.m:=by
        rintro k es D rest Q t L w hw af rfl rfl rfl;have aa:cw k=false:=by rcases hw with⟨rfl,_⟩|⟨rfl,_⟩ <;> rfl
        have hsl:cW (iD ν t (0,0)) (bJ st.m t (.sl k es [])) H Z (.own t) w:=by
         refine .own _ _ λW h'=>?_
         rw[cA]at h';cases h';exact⟨_,_,_,rfl,by rcases hw with⟨rfl,rfl⟩|⟨rfl,rfl⟩ <;> rfl⟩
        have ah:(result (w::D)).scalar=true:=Ca (by rcases hw with⟨_,rfl⟩|⟨_,rfl⟩;exact(BN Q).1;exact(BN Q).2)
        refine⟨n,result (w::D),H,iD ν t (0,0),Z,λk C=>B (J k C (by rw[<-af,if_pos ah])),r.add L (λhb=>by simp[cB,aa]at hb) (by simp[dI,aa]),?_,
         Ev.add L (Nat.le_refl _) (λ_ _ _=>rfl) (λ_ _=>rfl) (λhb=>by simp[cB,aa]at hb),λ_=>rfl,Kept.add λ_ _ h=>h⟩
        cases D with
        | nil=>exact hsl
        | cons z D=>exact .tup _ _ (by simp) (bX.cons hsl (bX.QX (oh Q))).2
       split at h
       .rename_i D I;split at h
        .rename_i Q;simp  at h;exact ae D Q ((DG (e3.dn I)).1 Q) h.1.symm h.2.symm
        .simp at h
       .split at h
        .rename_i e rest t _;obtain⟨w,X,rfl,g1,g2⟩:=e3.inv;split at h
         .
          rename_i es xs D T I;split at h
          .rename_i A;simp  at A;obtain⟨⟨c1,c2⟩,L⟩:=A;simp  at h;obtain⟨rfl,rfl⟩:=h;have o:=e4.obj e _ T;simp only[dI,if_true]at o;obtain⟨rows,hr,aE,hf,aC,ai⟩:=o;obtain⟨q1,q2⟩:=ai trivial;have ab  := by
            have:=Gs hf c2;rw[q1,List.drop_zero,<-q2,List.take_length]at this;exact this
           subst ab;obtain⟨_,_,_,ee,rfl⟩:=g1.jv T;cases ee;have G  := (g2.dn I).scalar.1 c1;subst G;have aj:pq H.length H2 (ν2 e).1 es 0 rows.length=some (.hsl H.length es 0 rows.length,.row es rows):=by
            unfold pq;rw[hr];simp only[true_and];rw[if_pos];rw[List.all_eq_true];intro x hx;unfold mQ at c2;rw[List.all_eq_true]at c2;exact c2 x hx
           have hH:∀id,id<H.length->(H++[Ob.row es rows])[id]? = H[id]? := λid hl=>List.getElem?_append_left hl
           have ak:∀id,Z id->bk (H++[Ob.row es rows]) id=bk H id:=λid I=>by unfold bk;rw[hH id (r.uf I)]
           have r2  := r.heap (λid ho=>hH id (r.lt ho)) ak
           have al:V.ny rows=true:=by
            refine j_.2 λj u hu=>?_
            unfold mQ at c2;rw[List.all_eq_true]at c2;have:=c2 u (List.mem_of_getElem? hu);rw[List.all_eq_true]at this;exact gF.2 λi v hv=>lR (this v (List.mem_of_getElem? hv))
           have hR:=r2.add   (ob:=.sl .row es rows) (p:=(H.length,0)) L (λ_=>⟨λho=>absurd (r.lt ho) (by simp),λI=>absurd (r.uf I) (by simp)⟩) (by
            simp only[dI,gQ];refine⟨rows,by simp,by simp,?_,(fA.same al).DT,λ_=>⟨trivial,rfl⟩⟩
            rw[List.drop_zero,List.take_length];exact fA.same al)
           have hsl:cW (iD ν t (H.length,0)) (bJ st.m t (.sl .row es rows)) (H++[Ob.row es rows]) Z (.own t) (.hsl H.length es 0 rows.length):=by
            refine .own _ _ λW h'=>?_
            rw[cA]at h';cases h';exact⟨_,_,_,rfl,by simp[qm,gQ]⟩
           have am:Ev Rv ν Z st H (iD ν t (H.length,0)) Z { st with m:=bJ st.m t (.sl .row es rows) } (H++[Ob.row es rows]):=Ev.add L (by simp) (λid hl _=>hH id hl) ak (λ_=>.inr (Nat.le_refl _))
           have an:qm (ν2 e) Fl.row es rows.length=.hsl (ν2 e).1 es 0 rows.length:=by simp[qm,q1]
           rw[an]at J
           cases rest with
           | nil=>
            have  := by simp only[dn,ζa]at I;exact I.symm
            subst this;refine⟨n,_,_,_,Z,λk C=>B (J k C  ?_),hR,hsl,am,λ_=>rfl,Kept.add λ_ _ h=>h⟩
            simp[result,V.scalar,aj]
           | cons x2 rest=>
            have ay:∃w2 ad,X=w2::ad:=by
             have:=g2.1
             cases X with
             | nil=>simp at this
             | cons a b=>exact⟨a,b,rfl⟩
            obtain⟨w2,ad,rfl⟩:=ay;refine⟨n,_,_,_,Z,λk C=>B (J k C (o:=some (.tup (.hsl H.length es 0 rows.length::w2::ad),H++[Ob.row es rows])) ?_),hR,?_,am,λ_=>rfl,Kept.add λ_ _ h=>h⟩
            .simp only[result,V.scalar,V.cH,Bool.false_and,Bool.false_eq_true,if_false];have aA  := by simpa [V.cH]using c1
             simp[aA,aj]
            .exact .tup _ _ (by simp) (bX.cons hsl (bX.QX (oh c1))).2
          .simp at h
         .rename_i es xs D T I;split at h
          .rename_i A;simp  at A;simp  at h;obtain⟨rfl,rfl⟩:=h;obtain⟨_,_,_,ee,rfl⟩:=g1.jv T;cases ee;have G:=(g2.dn I).scalar.1 A.1;subst G;exact emp .nil es X rest A.1 _ A.2 .bB (by simp) rfl rfl rfl rfl
          .simp at h
         .rename_i es xs D T I;split at h
          .rename_i A;simp  at A;simp  at h;obtain⟨rfl,rfl⟩:=h;obtain⟨_,_,_,ee,rfl⟩:=g1.jv T;cases ee;have G:=(g2.dn I).scalar.1 A.1;subst G;exact emp .emp es X rest A.1 _ A.2 .dg (by simp) rfl rfl rfl rfl
          .simp at h
         .simp at h
        .simp at h
      grind
    grind
   .rename_i O;split at h
    .simp at h
    .rename_i hd;split at h
     .rename_i q hq;obtain⟨n,y,H',ν',e1,e2,e3,e4,e5⟩:=Qh  (hP f q hq) r ha h;exact⟨n,y,H',ν',Z,λk C=>B (by unfold eH;rw[if_neg O];exact e1 k C),e2,e3,e4,λh=>absurd h hd,e5⟩
     .split at h
      .rename_i os hh;split at h
       .rename_i rs m' hc;split at h
        .rename_i D m2 I hb;simp  at h;obtain⟨rfl,rfl⟩:=h;obtain⟨n,y,H',Z',e1,e2,e3,e4,e5⟩:=Qc  hS hk r ha hh hc I hb;exact⟨n,y,H',ν,Z',λk C=>B (by unfold eH;rw[if_neg O];exact e1 k C),e2,e3,e4,λh=>absurd h hd,λe W _=>e5 e W⟩
        .simp at h
       .simp at h
      .simp at h
  grind
 .rename_i hk;have ao  := by simpa using hk
  split at h
  .rename_i az hs;split at h
   .rename_i hl;split at h
    .rename_i rs m' hc;split at h
     .rename_i D I;split at h
      .rename_i A;simp only[Bool.or_eq_true]at A;simp  at h;obtain⟨rfl,rfl⟩:=h;obtain⟨n,H',e1,e2,e3,e4⟩:=O_  hS Y U hold r ha ao hs (by simpa using hl) hc I A
       exact⟨n,_,H',ν,Z,e1,e2,e3,e4,λ_=>rfl,.refl⟩
      .rename_i ap;split at h
       .rename_i aB;obtain⟨ds,aq,e⟩:=ζf.1 h;simp  at e;obtain⟨rfl,rfl⟩:=e;have ar:(result D).scalar=false:=by
         cases hq:(result D).scalar with
         | false=>rfl
         | true=>exact absurd (by simp[hq]) ap
        obtain⟨n,H',e1,e2,e3,e4⟩:=Px  hS U (λb i hp=>(hold b i hp).2) r ha ao hs (by rw[<-Y];exact aB) hc I ar aq (uj aq hs)
        exact⟨n,_,H',ν,Z,e1,e2,e3,e4,λ_=>rfl,λe W _ h=>⟨W,mR h,rfl,.refl _⟩⟩
       .simp at h
     .simp at h
    .simp at h
   .simp at h
  .simp at h
end
end Go.VE
namespace Go.VE
variable [bN]
structure CX where
 E:Env
 nm:FuncId->Option Nat
 nt:Nat
def z6 (ops:List Oper) (o:Oper):Option (Option (Nat×Bool)):=
 match o.guard with
 | none=>some none
 | some (j,b)=>((ops[j]?).bind (·.dst)).map λd=>some (d,b)
def wX (nt:Nat):Option Nat->Bool
 | none=>true
 | some d=>decide (d<nt)
def vj (B:Bool) (ops:List Oper) (i:Nat) (k:K) (os:List Operand):K×List Operand×Bool:=
 if B && !dm ops i then match k,os,x_ ops i with
  | .l (.store n),.tmp t::u,some (a,l)=>if t=a then(.l (.storeF n),(.tmp t::u)++l.map .tmp,true)else(k,os,false)
  | .l (.append n),os,_=>if u7 ops i then(.e n,os,true)else(k,os,false)
  | .r (.load n ag),[.tmp t],_=>if(nU ops i t).isEmpty then(k,os,false)else(.r (.loadF n ag),.tmp t::(nU ops i t).map .tmp,false)
  | _,_,_=>(k,os,false)
 else(k,os,B&&dm ops i)
theorem A_ (B:Bool) (ops:List Oper) (i:Nat) (k:K) (os:List Operand):(vj B ops i k os=(k,os,B&&dm ops i)/\∀n ag a',B=true->dm ops i=false->k=.r (.load n ag)->os=[.tmp a']->nU ops i a'=[]) \/
 (B=true/\dm ops i=false/\∃n a l D,k=.l (.store n)/\os=.tmp a::D/\x_ ops i=some (a,l)/\vj B ops i k os=(.l (.storeF n),os++l.map .tmp,true)) \/
 (B=true/\dm ops i=false/\∃n ag a,k=.r (.load n ag)/\os=[.tmp a]/\vj B ops i k os=(.r (.loadF n ag),.tmp a::(nU ops i a).map .tmp,false)) \/
 (B=true/\dm ops i=false/\u7 ops i=true/\∃n,k=.l (.append n)/\vj B ops i k os=(.e n,os,true)):=by
 unfold vj;split
 .rename_i h;simp only[ζh,Bool.not_eq_true']at h;split
  .rename_i n a' D a l hk;split
   .rename_i e;subst e;refine .inr (.inl ⟨h.1,h.2,n,a',l,D,rfl,rfl,hk,?_⟩);simp only[vj,h.1,h.2,hk,Bool.not_false,Bool.and_self,if_true]
   .exact .inl ⟨by rw[h.2,Bool.and_false],λn ag a' _ _ e=>by cases e⟩
  .rename_i n;split
   .rename_i A;refine .inr (.inr (.inr ⟨h.1,h.2,A,n,rfl,rfl⟩))
   .exact .inl ⟨by rw[h.2,Bool.and_false],λn ag a' _ _ e=>by cases e⟩
  .rename_i n ag a';split
   .rename_i C;refine .inl ⟨by rw[h.2,Bool.and_false],λn ag z _ _ _ e=>?_⟩
    simp only[List.cons.injEq,Operand.tmp.injEq,and_true]at e;subst e;simpa using C
   .exact .inr (.inr (.inl ⟨h.1,h.2,n,ag,a',rfl,rfl,rfl⟩))
  .rename_i t u w;refine .inl ⟨by rw[h.2,Bool.and_false],λn ag z _ _ e1 e2=>?_⟩
   first|exact(w _ _ _ e1 e2).elim|exact(w _ _ _ _ e1 e2 rfl).elim|exact(t _ _ _ e1 e2).elim|exact(u _ _ _ e1 e2).elim|exact(t _ _ _ _ e1 e2 rfl).elim|exact(u _ _ _ _ e1 e2 rfl).elim
 .rename_i h;refine .inl ⟨rfl,λn ag z G I _ _=>?_⟩
  rw[G,I]at h;exact absurd rfl h
def lZ (X:CX) (B:Bool) (ops:List Oper) (i:Nat) (o:Oper):Option RO:=
 if wX X.nt o.dst then
  match z6 ops o,resolve X.E X.nm o.op with
  | some gd,some (k,os)=>if yY k then if B&&vF ops i then match k,o.op with
   | .a (.makeSl size zero),.makeSlice ..=>(os.mapM (oE X.nm)).map λaz=>⟨o.dst,gd,false,.p (.makeC size zero),az,[],[]⟩
   | .a (.buildSl size len zero idx),.buildSlice ..=>if size≠0/\len=0/\idx=[]then(os.mapM (oE X.nm)).map λaz=>⟨o.dst,gd,false,.p .emptyC,az,[],[]⟩else none
   | _,_=>none
   else((vj B ops i k os).2.1.mapM (oE X.nm)).map λaz=>⟨o.dst,gd,(vj B ops i k os).2.2,(vj B ops i k os).1,az,[],[]⟩else none
  | _,_=>none
 else none
theorem Bx {E:Env} {N:Nat->FuncId} {F:Frame} {op:Op} {ys:List V} {size:Nat} {zero:List V} {y:V} (D:∃t l c,op=.buildSlice t l c) (h:BG E N F op ys (.a (.buildSl size 0 zero []))) (G:size≠0) (B:bh N .emptyC ys=some y):pV E F op=some y:=by
 obtain⟨t,l,c,rfl⟩:=D;obtain⟨g1,g2⟩:=h;unfold bh at B;split at B <;> first|(rename_i e;cases e;done)|skip
 .simp only[ζa]at B;subst B;have u:=g2 _ (show ig (.buildSl size 0 zero []) []=some (.row size [],.sl size 0)by simp[ig,fQ])
  unfold pV;rw[u];simp[G]
 .cases B
theorem Bt {E:Env} {N:Nat->FuncId} {F:Frame} {op:Op} {ys:List V} {size:Nat} {zero:List V} {y:V} (D:∃t l c,op=.makeSlice t l c) (h:BG E N F op ys (.a (.makeSl size zero))) (B:bh N (.makeC size zero) ys=some y):pV E F op=some y:=by
 obtain⟨t,l,c,rfl⟩:=D;obtain⟨g1,g2⟩:=h;unfold bh at B;split at B <;> first|(rename_i e;cases e;done)|skip
 .rename_i k n G m e;cases e;split at B
  .rename_i c;obtain⟨rfl,rfl,w,rfl,z,A⟩:=c;have u:=g2 _ (show ig (.makeSl size zero) [.int .i64 n,.int .i64 n]=some (.row size (List.replicate n.toNat zero),.sl size n.toNat)by simp only[ig,w,z,Int.le_refl,and_self,if_true])
   unfold pV;rw[u];simp only;rw[if_pos (by refine⟨by trivial,by simp,List.all_eq_true.2 λx C=>by rw[List.eq_of_mem_replicate C];exact A⟩),<-B]
  .cases B
 .cases B
theorem BS {X:CX} {dr:Bool} {ops:List Oper} {i:Nat} {o:Oper} {ro:RO} (hc:lZ X dr ops i o=some ro):wX X.nt o.dst=true/\∃g now k az,z6 ops o=some g/\ro=⟨o.dst,g,now,k,az,[],[]⟩:=by
 unfold lZ at hc;split at hc
 .rename_i t;split at hc
  .rename_i g k os hg hr;split at hc
   ·(repeat' split at hc) <;> first|(cases hc;done)|(obtain⟨az,u,rfl⟩:=ζf.1 hc;exact⟨t,_,_,_,_,hg,rfl⟩)
   .cases hc
  .cases hc
 .cases hc
structure Good (X:CX) (S:Sys):Prop where
 E:X.E=S.E
 N:∀f s,X.nm f=some s->S.N s=f
 prm:∀f q,S.prm f=some q->mU S.E f q
section
variable {Rv:Nat->Prop} {ν ν':Nu} {Z Z':Nat->Prop} {st st':St} {m m':Tb bD} {F F':Frame} {H H' H1:bf} {S:Sys} {c:cg} {X:CX}
def Old (b:Nat) (fr:List Nat) (ν:Nu) (Z:Nat->Prop) (m:Tb bD):Prop:=(∀d ob,bg m d=some ob->cB ob=true->d∉fr->(ν d).1<b)/\∀id,Z id->id<b
theorem mo {fr:List Nat}:∀{svs:List SV},ei fr svs=true->∀d∈fr,SV.dy d svs=false
 | [],_,d,_=>rfl
 | .v _::r,h,d,B=>(mo (svs:=r) (by simpa [ei]using h) d B)
 | .ptr e _::r,h,d,B=>by
  simp[ei,Bool.not_eq_true']at h;simp[SV.dy,SV.cU];exact⟨λe=>h.1 (e▸B),mo h.2 d B⟩
 | .el e _ _::r,h,d,B=>by
  simp[ei,Bool.not_eq_true']at h;simp[SV.dy,SV.cU];exact⟨λe=>h.1 (e▸B),mo h.2 d B⟩
 | .mp e::r,h,d,B=>by
  simp[ei,Bool.not_eq_true']at h;simp[SV.dy,SV.cU];exact⟨λe=>h.1 (e▸B),mo h.2 d B⟩
 | .own _::r,h,_,_=>by simp[ei]at h
 | .clo ..::r,h,_,_=>by simp[ei]at h
 | .tup _::r,h,_,_=>by simp[ei]at h
 | .agg _::r,h,_,_=>by simp[ei]at h
 | .yl _::r,h,_,_=>by simp[ei]at h
def BE (S:Sys) (ops:List Oper) (place:Option (Nat×Nat)) (dr:Bool) (F:Frame) (op:Op) (dst:Option Nat) (ν:Nu) (Z:Nat->Prop) (st:St) (H:bf) (sv:SV) (st':St):Prop:=
 ∃n y H' ν' Z',(∀k,n<=k->c6 S.E (run S.E k) ops place F H op=some (y,H'))/\R ν' Z' st' F H'/\cW ν' st'.m H' Z' sv y/\Ev (λid=>∃b j,place=some (b,j)/\id=b+j) ν Z st H ν' Z' st' H' /\
  (dr=true->Z'=Z/\Kept dst ν st.m ν' st'.m)
theorem w8 {E:Env} {F:Frame} {H:bf} {place:Option (Nat×Nat)} {op:Op} {v:V} (h:bE E F op=some v):ri E F H place op=some v:=by unfold ri;rw[h]
theorem xH:∀{xs ys:List (List V)} {l:List Int},fA H Z xs ys->ow xs=some l->ow ys=some l
 | [],ys,l,h,B=>by
  have:=h.1;have:ys=[]:=List.eq_nil_of_length_eq_zero (by simpa using this.symm)
  subst this;exact B
 | x::xs,[],l,h,B=>by have:=h.1;simp at this
 | x::xs,y::ys,l,h,B=>by
  unfold ow at B;split at B
  .rename_i e;cases e
  .rename_i n r e;cases e;obtain⟨k,h1,rfl⟩:=ζf.1 B;have h0:=h.2 0 _ y rfl rfl;obtain⟨u,w,rfl,p1,p2⟩:=h0.inv;rw[p2.cK,p1.int];have:=xH (xs:=xs) (ys:=ys) ⟨by have:=h.1;simpa using this,λj a b t B=>h.2 (j+1) a b t B⟩ h1
   simp only[ow,this,Option.map_some]
  .cases B
theorem JW (gd:Good X S) {ops:List Oper} {place:Option (Nat×Nat)} {dr:Bool} {op:Op} {dst:Option Nat} {p:tf} {svs:List SV} {ys:List V} (hk:yY (.p p)=true) (r:R ν Z st F H) (rs:bX ν st.m H Z svs ys)
 (B:BG X.E S.N F op ys (.p p)) {sv:SV} (h:(je S.N st.m p svs).map (λx=>(x,st))=some (sv,st')):BE S ops place dr F op dst ν Z st H sv st':=by
 obtain⟨x,u,e⟩:=ζf.1 h;obtain⟨rfl,rfl⟩:=e;obtain⟨y,w,t⟩:=EU  (λzero pl e=>by subst e;simpa [yY]using hk) r.obj rs u
 obtain⟨h1,z⟩:=B;exact⟨0,y,H,ν,Z,λq _=>by unfold c6;rw[h1];simp only[<-gd.E,w8 (z y w),Option.map_some],r,t,.refl,λ_=>⟨rfl,.refl⟩⟩
theorem Dz (gd:Good X S) {ops:List Oper} {place:Option (Nat×Nat)} {dr:Bool} {op:Op} {p:tf} {svs:List SV} {ys:List V} (J:∀zero pl,p≠.build zero pl) (B:cT op=.alloc) (D:pT ops place=true) (G:∀y,bh S.N p ys=some y->pV X.E F op=some y)
 (r:R ν Z st F H) (rs:bX ν st.m H Z svs ys) {sv:SV} (h:(je S.N st.m p svs).map (λx=>(x,st))=some (sv,st')):BE S ops place dr F op none ν Z st H sv st':=by
 obtain⟨x,u,e⟩:=ζf.1 h;simp only[ζc]at e;obtain⟨rfl,rfl⟩:=e;obtain⟨y,w,t⟩:=EU (N:=S.N) (λzero pl e=>absurd e (J zero pl)) r.obj rs u
 refine⟨0,y,H,ν,Z,λq _=>?_,r,t,.refl,λ_=>⟨rfl,.refl⟩⟩
 unfold c6;rw[B];simp only[D,if_true,<-gd.E,G y w,Option.map_some]
theorem Hq:∀{J B:List Operand} {vs:List V},eY F (J++B)=some vs->∃D G,eY F J=some D/\eY F B=some G/\vs=D++G
 | [],B,vs,h=>⟨[],vs,rfl,h,rfl⟩
 | x::J,B,vs,h=>by
  obtain⟨a,az,h1,O,rfl⟩:=gX h;obtain⟨D,G,g1,g2,rfl⟩:=Hq O;exact⟨a::D,G,by simp[eY,h1,g1],g2,rfl⟩
theorem Ad:∀{l:List Nat} {vs:List V},eY F (l.map Operand.tmp)=some vs->vs=l.map (get F)
 | [],vs,h=>oJ h
 | x::l,vs,h=>by
  obtain⟨a,az,h1,B,rfl⟩:=gX h;simp[ev]at h1;subst h1;rw[Ad B];rfl
theorem Rb (gd:Good X S) {call:c7} {ops:List Oper} {b j n a:Nat} {l:List Nat} {o:Oper} {B:List Operand} {ys:List V} {y:V} (hr:resolve X.E X.nm o.op=some (.l (.store n),.tmp a::B)) (D:eY F ((.tmp a::B)++l.map Operand.tmp)=some ys)
 (G:x_ ops j=some (a,l)) (J:dm ops j=false) (e1:eF H (.storeF n) ys=some (y,H')):c6 S.E call ops (some (b,j)) F H o.op=some (y,H'):=by
 obtain⟨T,U,h1,C,rfl⟩:=Hq D;obtain⟨g1,g2⟩:=jB gd.N hr h1;obtain⟨w,I,u,L,rfl⟩:=gX h1;simp[ev]at u;have t:∃v,I=[v]:=by
  have z:∃x,B=[x]:=by
   unfold resolve at hr
   (repeat' split at hr) <;> first|grind|skip
   all_goals (try (obtain⟨_,_,e⟩:=ζf.1 hr;simp[K.l.injEq,Hg.store.injEq,reduceCtorEq]at e))
   grind
  obtain⟨x,rfl⟩:=z;obtain⟨v,W,_,O,rfl⟩:=gX L;rw[oJ O];grind
 obtain⟨v,rfl⟩:=t;rw[Ad C,<-u]at e1;simp  at e1
 cases A:get F a with
 | hptr id el off=>
  rw[A]at e1;simp only[eF]at e1;split at e1
  .have Q:qe ops j F=true:=by
    unfold qe
    grind
   unfold c6;rw[g1];simp[Q,<-gd.E];refine g2 _ _ ?_;rw[<-u,A];exact e1
  grind
 | _=>rw[A]at e1;simp[eF]at e1
theorem DE {E:Env} {nm:FuncId->Option Nat} {op:Op} {s:Nat} {a:Bool} {os:List Operand} (h:resolve E nm op=some (.r (.loadF s a),os)):False:=by
 unfold resolve at h
 (repeat' split at h) <;> first|grind|skip
 all_goals simp_all
theorem FP {E:Env} {nm:FuncId->Option Nat} {op:Op} {s a':Nat} {a:Bool} {t:TypeId} {os:List Operand} (h:resolve E nm op=some (.r (.load s a),os)):∃t x,op=.load t x/\os=[x]:=by
 unfold resolve at h
 (repeat' split at h) <;> first|grind|skip
 all_goals simp_all
 grind
theorem K4 {E:Env} {nm:FuncId->Option Nat} {ops:List Oper} {j:Nat} {op:Op} {q:GX} {os:List Operand} (hr:resolve E nm op=some (.r q,os)) (h:∀n ag a',K.r q=.r (.load n ag)->os=[.tmp a']->∀t,op=.load t (.tmp a')->nU ops j a'=[]):mG ops j F op=true:=by
 unfold mG;split
 .rename_i t a';have:∃n ag,q=.load n ag/\os=[.tmp a']:=by
   obtain⟨d,_,e⟩:=ζf.1 hr
   grind
  grind
 .rfl
theorem P4 (gd:Good X S) {ops:List Oper} {b j n a:Nat} {ag:Bool} {fr:List Nat} {o:Oper} {svs:List SV} {ys:List V} {dst:Option Nat} {x:SV} (hr:resolve X.E X.nm o.op=some (.r (.load n ag),[.tmp a])) (U:eY F (.tmp a::(nU ops j a).map Operand.tmp)=some ys) (rs:bX ν st.m H Z svs ys)
 (W:ei fr svs=true) (aa:b<=H.length) (ab:∀d ob,bg st.m d=some ob->cB ob=true->d∉fr->(ν d).1<b) (B:∀id,Z id->id<b) (r:R ν Z st F H) (O:lB st.m (.loadF n ag) svs=some x):BE S ops (some (b,j)) true F o.op dst ν Z st H x st:=by
 obtain⟨w,ws,h1,h2,rfl⟩:=gX U;simp[ev]at h1;have ad:=Ad h2;unfold lB at O;split at O <;> first|(rename_i u;cases u;done)|skip
 .rename_i size agg d off l u;cases u;split at O
  .rename_i C;split at O
   .rename_i cs A;obtain⟨w',ae,e,g1,g2⟩:=rs.inv;cases e;have D:=HA r A g2 C;obtain⟨_,_,rfl⟩:=g1.nH A;have G:∀id,Z id->Z id/\bk (H.take b) id=bk H id:=λid h=>⟨h,lS (B id h)⟩
    have I:∀id,Z id->Z id/\bk H id=bk (H.take b) id:=λid h=>⟨h,(lS (B id h)).symm⟩
    have af:d∉fr:=λY=>by
     have:=mo W d Y;simp[SV.dy,SV.cU]at this
    obtain⟨y,hy,L⟩:=uo  (r:=.load n ag)   (λs a e=>by cases e) (λkk z ok e=>by cases e) (bX.cons (g1.mono G λe _=>hU ν st.m e) .nil) (λd2 Q ob J=>by
     have ah:d2∉fr:=λY=>by
      have  := by simpa [SV.dy,SV.cU]using Q
      grind
     exact dI.mono G rfl (λhb=>by grind) (λe _=>hU ν st.m e) (r.obj d2 ob J))  (by simp[lB,A];omega)
    obtain⟨k1,k2⟩:=jB  gd.N hr (show eY F [.tmp a]=some [.hptr (ν d).1 0 off]from by simp[eY,ev,h1])
    have T:mG ops j F o.op=true:=by
     obtain⟨t,x',e1,e2⟩:=FP (a':=0) (t:=0) hr;rw[e1];simp  at e2;subst e2;simp[mG];intro s hs;have hm:get F s∈ws:=by grind
     have:=List.all_eq_true.1 D _ hm;split
     .rename_i ai _ _ hg;simp[pG]at this ⊢
      grind
     .rfl
    refine⟨0,y,H,ν,Z,λq _=>?_,r,L.mono I (λe _=>hU ν st.m e),.refl,λ_=>⟨rfl,.refl⟩⟩
    unfold c6;rw[k1];simp[<-gd.E,k2 (H.take b) y hy,T]
   grind
  grind
 grind
theorem BV {E:Env} {nm:FuncId->Option Nat} {op:Op} {n:Nat} {os:List Operand} (h:resolve E nm op=some (.l (.append n),os)) {y:V} {ys:List V} (hv:eY F os=some (y::ys)) (B:y=.bB\/y=.dg):isApp op=true/\om F op=true:=by
 have key:∃args t p s x,op=.call { callee:=.builtin .append,args:=args,argTypes:=t }/\args.toList=[s,x]/\os=[s,x]/\p=():=by
  unfold resolve at h
  (repeat' split at h) <;> first|(simp at h;done)|skip
  all_goals (try (obtain⟨_,_,e⟩:=ζf.1 h;simp only[ζc,K.l.injEq,reduceCtorEq,false_and]at e))
  all_goals (simp only[ζa,ζc]at h;obtain⟨_,rfl⟩:=h;exact⟨_,_,(),_,_,rfl,by assumption,rfl,rfl⟩)
 obtain⟨args,t,_,s,x,rfl,h1,rfl,_⟩:=key;obtain⟨a,az,u,w,e⟩:=gX hv;cases e;refine⟨rfl,?_⟩;simp only[om,h1,u];rcases B with rfl|rfl <;> rfl
theorem Q_ (gd:Good X S) (hS:jG S c) {ops:List Oper} {place:Option (Nat×Nat)} {dr:Bool} {fr:List Nat} {i:Nat} (G:dr=place.isSome) (hi:∀b j,place=some (b,j)->j=i)
 (hold:∀b j,place=some (b,j)->b<=H.length/\Old b fr ν Z st.m)
 {o:Oper} {ro:RO} (hc:lZ X dr ops i o=some ro) (aD:∀b j,place=some (b,j)->ops[j]? = some o) (al:∀b j,place=some (b,j)->cT o.op=.alloc->H[b+j]? = some .free)
 (r:R ν Z st F H) {sv:SV} (h:kT S c dr fr ro st=some (sv,st')) :
 BE S ops place dr F o.op (wk ro) ν Z st H sv st':=by
 unfold lZ at hc;split at hc
 .split at hc
  .rename_i g k os hg hr;split at hc
   .rename_i hk;split at hc
    .rename_i ah;simp only[ζh]at ah;have au:pT ops place=true:=by
      cases place with
      | none=>rw[G]at ah;exact absurd ah.1 (by simp)
      | some O=>obtain⟨b,j⟩:=O;rw[hi b j rfl];exact ah.2
     split at hc
     .rename_i size zero t l c aa;obtain⟨az,ha,rfl⟩:=ζf.1 hc;unfold kT at h;split at h
      .rename_i I C;obtain⟨ys,D,rs⟩:=ot gd.N r.slot ha C;have J:=jB gd.N hr D;exact Dz gd (λ_ _ e=>by cases e) J.1 au (λy hy=>Bt ⟨_,_,_,aa⟩ J hy) r rs h
      .simp at h
     .rename_i size len zero idx t l c aa;split at hc
      .rename_i aE;obtain⟨aF,rfl,rfl⟩:=aE;obtain⟨az,ha,rfl⟩:=ζf.1 hc;unfold kT at h;split at h
       .rename_i I C;obtain⟨ys,D,rs⟩:=ot gd.N r.slot ha C;have J:=jB gd.N hr D;exact Dz gd (λ_ _ e=>by cases e) J.1 au (λy hy=>Bx ⟨_,_,_,aa⟩ J aF hy) r rs h
       .simp at h
      .cases hc
     .cases hc
    rename_i ai;have ak:pT ops place=false:=by
     cases place with
     | none=>rfl
     | some O=>
      obtain⟨b,j⟩:=O;have B:=hi b j rfl
      cases av:vF ops j with
      | false=>exact av
      | true=>exact absurd (by rw[G,<-B,av];rfl) ai
    rcases A_ dr ops i k os with⟨hq,aG⟩|⟨u,am,n,a,l,aQ,rfl,rfl,aH,hq⟩|⟨u,am,n,ag,a,rfl,rfl,hq⟩|⟨u,am,aI,n,rfl,hq⟩
    rotate_left
    .rw[hq]at hc;obtain⟨az,ha,rfl⟩:=ζf.1 hc;unfold kT at h;split at h
     .rename_i I C;obtain⟨ys,D,rs⟩:=ot gd.N r.slot ha C;simp only[u,Bool.not_true,Bool.false_or,if_true]at h;obtain⟨y,H',ν',e1,e2,e3,e4,e5⟩:=Ap r rs h;refine⟨0,y,H',ν',Z,λq _=>?_,e2,e3,e4.weak (λ_ h=>h.elim),λ_=>⟨rfl,e5⟩⟩
      cases place with
      | none=>rw[G]at u;cases u
      | some O=>
       obtain⟨b,j⟩:=O;have B:=hi b j rfl;subst B;exact Rb gd hr D aH am e1
     .simp at h
    .rw[hq]at hc;obtain⟨az,ha,rfl⟩:=ζf.1 hc;unfold kT at h;split at h
     .rename_i I C;obtain⟨ys,D,rs⟩:=ot gd.N r.slot ha C;simp only[u,Bool.not_true,Bool.or_self,Bool.false_or]at h;split at h
      .rename_i an;obtain⟨x,hx,e⟩:=ζf.1 h;simp only[ζc]at e;obtain⟨rfl,rfl⟩:=e
       cases place with
       | none=>rw[G]at u;cases u
       | some O=>
        obtain⟨b,j⟩:=O;have B:=hi b j rfl;subst B;obtain⟨aw,ao,aj⟩:=hold b j rfl;rw[u];exact P4 gd hr D rs an aw ao aj r hx
      .simp at h
     .simp at h
    .rw[hq]at hc;obtain⟨az,ha,rfl⟩:=ζf.1 hc;unfold kT at h;split at h
     rotate_left
     .simp at h
     rename_i I C;obtain⟨ys,D,rs⟩:=ot gd.N r.slot ha C;simp only at h;have key:∃e x,(e=V.bB\/e=V.dg)/\I=[.v e,x]/\kR st o.dst (.append n) I=some (sv,st'):=by
      split at h
      .exact⟨_,_,.inl rfl,rfl,h⟩
      .exact⟨_,_,.inr rfl,rfl,h⟩
      .cases h
     obtain⟨e,x,he,rfl,hl⟩:=key;obtain⟨y,H',ν',e1,e2,e3,e4,e5⟩:=Ap r rs hl;obtain⟨g1,g2⟩:=jB gd.N hr D;refine⟨0,y,H',ν',Z,λq _=>?_,e2,e3,e4.weak (λ_ h=>h.elim),λ_=>⟨rfl,e5⟩⟩
     obtain⟨y1,zs,rfl,f1,f2⟩:=rs.inv;have aJ:y1=.bB\/y1=.dg:=by
      cases f1 with|v _ _ hf=>rcases he with rfl|rfl <;> first|exact .inl hf.bB|exact .inr hf.dg
     cases place with
     | none=>rw[G]at u;cases u
     | some O=>
      obtain⟨b,j⟩:=O;have B:=hi b j rfl;subst B;obtain⟨r1,r2⟩:=BV hr D aJ;exact JC r1 (by rw[<-gd.E];exact g2 _ _ e1) (.inr ⟨aI,r2,(hold b j rfl).1⟩)
    rw[hq]at hc;obtain⟨az,ha,rfl⟩:=ζf.1 hc;unfold kT at h;split at h
    .rename_i I C;obtain⟨ys,D,rs⟩:=ot gd.N r.slot ha C;have A:=jB gd.N hr D;simp only at h
     cases k with
     | p p=>
      cases p with
      | slice size lo hi=>
       simp only at h;split at h
       .rename_i d bs;split at h
        .simp at h
        .rename_i nr;obtain⟨y,ν',h1,h2,h3,h4⟩:=Kc (N:=S.N) (Rv:=λid=>∃b j,place=some (b,j)/\id=b+j) r rs h
         obtain⟨g1,g2⟩:=A;exact⟨0,y,H,ν',Z,λq _=>by unfold c6;rw[g1];simp only[<-gd.E,w8 (g2 y h1),Option.map_some],h2,h3,h4,λY=>absurd Y nr⟩
       .exact JW gd hk r rs A h
      | _=>exact JW gd hk r rs A h
     | r q=>
      simp only at h;split at h
      .rename_i T;obtain⟨x,hx,e⟩:=ζf.1 h;simp only[ζc]at e;obtain⟨rfl,rfl⟩:=e;obtain⟨g1,g2⟩:=A;have ap:∀kk z ok,q=.lookup kk z ok->z.good=true:=λkk z ok e=>by subst e;simpa [yY]using hk
       have ab:∀s a,q≠.loadF s a:=λs a e=>by subst e;exact DE hr
       cases place with
       | none=>
        obtain⟨y,hy,ad⟩:=uo ab ap rs (λd _ ob Y=>r.obj d ob Y) hx
        exact⟨0,y,H,ν,Z,λq _=>by unfold c6;rw[g1];simp only[<-gd.E,g2 H y hy,Option.map_some],r,ad,.refl,λ_=>⟨rfl,.refl⟩⟩
       | some O=>
        obtain⟨b,j⟩:=O;obtain⟨aw,ao,aj⟩:=hold b j rfl;have u:dr=true:=G;subst u;have B:=hi b j rfl;subst B;simp only[Bool.not_true,Bool.false_or,Bool.true_and]at T;have ax:mG ops j F o.op=true:=K4 hr λn ag a' e1 e2 t e3=>by
         by_cases Q:dm ops j=true
         .exact Bs (aD b j rfl) e3 Q
         .exact aG n ag a' rfl (by simpa using Q) e1 e2
        by_cases Q:dm ops j=true
        .obtain⟨y,hy,ad⟩:=uo ab ap rs (λd _ ob Y=>r.obj d ob Y) hx
         have hH:=g2 H y hy;refine⟨0,y,H,ν,Z,λq _=>?_,r,ad,.refl,λ_=>⟨rfl,.refl⟩⟩
         unfold c6;rw[g1];simp only[<-gd.E,ax,if_true];split
         .rename_i v hv;have:=xk hv;rw[hH]at this;cases this;rfl
         .rw[if_pos Q,hH];rfl
        .have an:ei fr I=true:=by simpa [Q]using T
         have W:∀id,Z id->Z id/\bk (H.take b) id=bk H id:=λid h=>⟨h,lS (aj id h)⟩
         have ay:∀id,Z id->Z id/\bk H id=bk (H.take b) id:=λid h=>⟨h,(lS (aj id h)).symm⟩
         obtain⟨y,hy,ad⟩:=uo (H:=H.take b) ab ap (rs.mono W λe _=>hU ν st.m e) (λd Y ob aA=>by
          have ab:d∉fr:=λhf=>by rw[mo an d hf]at Y;cases Y
          exact dI.mono W rfl (λhb=>by rw[List.getElem?_take,if_pos (ao d ob aA hb ab)]) (λe _=>hU ν st.m e) (r.obj d ob aA)) hx
         refine⟨0,y,H,ν,Z,λq _=>?_,r,ad.mono ay (λe _=>hU ν st.m e),.refl,λ_=>⟨rfl,.refl⟩⟩
         unfold c6;rw[g1];simp only[<-gd.E,g2 (H.take b) y hy,ax,if_true]
      .simp at h
     | a q=>
      simp only at h;split at h
      .rename_i d Y;split at h
       .rename_i U;obtain⟨⟨ob,x⟩,hx,e⟩:=ζf.1 h;simp only[ζc]at e;obtain⟨rfl,rfl⟩:=e;obtain⟨ae,mk,e1,e2,e3,e4⟩:=K0 hk rs hx;obtain⟨g1,g2⟩:=A;obtain⟨n1,n2,n3,n4⟩:=lT U;have aq:∀p:Nat×Nat,∀e,SV.dy e I=true->∀af,bg (bJ st.m d ob) e=some af->∃ob,bg st.m e=some ob/\iD ν d p e=ν e/\sameShape ob af:=λp e he=>by
         refine rO ?_;rintro rfl;have:∀{xs:List Arg} {vs:List SV},bV S.N st.g xs=some vs->SV.dy e vs=false:=by
          intro xs
          induction xs with
          | nil=>intro vs h;simp only[bV,ζa]at h;subst h;rfl
          | cons a xs ih=>
           intro vs h;simp only[bV]at h;split at h
           .rename_i v aR h1 h2;simp only[ζa]at h;subst h;simp only[SV.dy,Bool.or_eq_false_iff];refine⟨?_,ih h2⟩
            cases a with
            | s n=>exact wF n3 h1
            | k c=>simp only[pe,ζa]at h1;subst h1;rfl
            | f s=>simp only[pe,ζa]at h1;subst h1;rfl
           .simp at h
         rw[this C]at he;cases he
        have fin:∀(id:Nat) (Hn:bf),H.length<=Hn.length->Hn[id]? = some ae->(∀k,k<H.length->k≠id->Hn[k]? = H[k]?)->(∀k,fm ν st.m k->k≠id)->(∀k,Z k->k≠id) ->
         R (iD ν d (id,0)) Z { st with m:=bJ st.m d ob } F Hn/\cW (iD ν d (id,0)) (bJ st.m d ob) Hn Z x (mk.val id)/\(∀k,Z k->bk Hn k=bk H k):=λid Hn hl aK J ho hz=>by
         have W:∀k,Z k->bk Hn k=bk H k:=λk hk=>by unfold bk;rw[J k (r.uf hk) (hz k hk)]
         obtain⟨a1,a2⟩:=e4 id (iD ν d (id,0)) (bJ st.m d ob) Hn (gQ _ _ _) (cA _ _ _) aK W (aq _);have r2:R ν Z st F Hn:=r.heap (λk hk=>J k (r.lt hk) (ho k hk)) W
         exact⟨r2.add U (λ_=>⟨λh=>ho _ h rfl,λh=>hz _ h rfl⟩) a1,a2,W⟩
        have aB:o.dst=some d:=Y
        cases place with
        | none=>
         obtain⟨f1,f2,f3⟩:=fin H.length (H++[ae]) (by simp) (by simp) (λk hk _=>List.getElem?_append_left hk) (λk hk=>Nat.ne_of_lt (r.lt hk)) (λk hk=>Nat.ne_of_lt (r.uf hk))
         refine⟨0,mk.val H.length,H++[ae],iD ν d (H.length,0),Z,λq _=>?_,f1,f2,Ev.add U (by simp) (λk hk _=>List.getElem?_append_left hk) f3 (λ_=>.inr (Nat.le_refl _)),λhh=>?_⟩
         .unfold c6;rw[g1];simp only[ak,Bool.false_eq_true,if_false,<-gd.E,g2 _ e1]
         .rw[G]at hh;cases hh
        | some O=>
         obtain⟨b,j⟩:=O;have hf:=al b j rfl g1;have aL:=(ζe.1 hf).1;have nf:∀k,fm ν st.m k->k≠b+j:=λk hk e=>by
          subst e;obtain⟨d',af,w1,w2,w3⟩:=hk;have:=r.obj d' af w1
          cases af with
          | sl fl es xs=>
           simp only[cB]at w2;simp only[dI,w2,if_true]at this;obtain⟨_,L,_⟩:=this;rw[w3,hf]at L;cases L
          | box cs=>obtain⟨_,_,L,_⟩:=this;rw[w3,hf]at L;cases L
          | mp aS=>obtain⟨_,L,_⟩:=this;rw[w3,hf]at L;cases L
         have nz:∀k,Z k->k≠b+j:=λk hk e=>by
          subst e;have:=r.zrow _ hk;unfold bk at this;rw[hf]at this;simp[Ob.rows]at this
         obtain⟨f1,f2,f3⟩:=fin (b+j) (H.set (b+j) ae) (by simp) (by rw[List.getElem?_set_self aL]) (λk _ hk=>by rw[List.getElem?_set,if_neg (Ne.symm hk)]) nf nz
         refine⟨0,mk.val (b+j),H.set (b+j) ae,iD ν d (b+j,0),Z,λq _=>?_,f1,f2,Ev.add U (by simp) (λk _ hk=>?_) f3 (λ_=>.inl ⟨b,j,rfl,rfl⟩),λ_=>⟨rfl,?_⟩⟩
         .unfold c6;rw[g1];simp only[ak,Bool.false_eq_true,if_false,<-gd.E,g2 _ e1,hf]
         .rw[List.getElem?_set,if_neg λe=>hk ⟨b,j,rfl,e.symm⟩]
         .have:wk ⟨o.dst,g,dr&&dm ops j,.a q,az,[],[]⟩=some d:=aB;have B:=hi b j rfl;subst B;rw[this];exact Kept.add λ_ _ h=>h
       .simp at h
      .simp at h
     | l q=>
      simp only at h;split at h
      .rename_i T;obtain⟨y,H',ν',e1,e2,e3,e4,e5⟩:=Ap r rs h;obtain⟨g1,g2⟩:=A;refine⟨0,y,H',ν',Z,λq _=>?_,e2,e3,e4.weak (λ_ h=>h.elim),λ_=>⟨rfl,e5⟩⟩
       unfold c6;rw[g1];simp only[<-gd.E]
       cases place with
       | none=>exact g2 _ _ e1
       | some O=>
        obtain⟨b,j⟩:=O;have u:dr=true:=G;subst u;have B:=hi b j rfl;subst B;have Q:dm ops j=true:=by simpa using T
        simp only[Q,if_true];exact g2 _ _ e1
      .simp at h
     | e n=>exact A.elim
     | b=>
      simp only at h;split at h
      .cases h
      .rename_i nr;have aM:dr=false:=by simpa using nr
       have aN:place=none:=by
        cases place with
        | none=>rfl
        | some O=>rw[aM]at G;simp at G
       subst aN;split at h
       .rename_i x;obtain⟨xs,h1,h2⟩:=ζg.1 h;obtain⟨l,h3,e⟩:=ζf.1 h2;simp only[ζc]at e;obtain⟨rfl,rfl⟩:=e;obtain⟨g1,y,e1,g2⟩:=A;obtain⟨y',_,e2,r1,r2⟩:=rs.inv;rw[e1]at e2;cases e2;obtain⟨zs,k1,k2⟩:=sU r1 r.obj h1;have hz:ow zs=some l:=xH k2 h3;obtain⟨q1,q2⟩:=g2 H zs l k1 hz;exact⟨0,_,H,ν,Z,λq _=>by unfold c6;rw[g1];simp only[ri,<-gd.E,q1,q2,Option.map_some],r,.v _ _ (.same _ rfl),.refl,λ_=>⟨rfl,.refl⟩⟩
       .cases h
     | c=>
      simp only at h;obtain⟨g1,f',aT,e1,e2⟩:=A;have go:∀(f:FuncId) (args:List SV) (ar:List V),bX ν st.m H Z args ar->jc F o.op=some (.fn f,ar)->gz S c o.dst dr (!dr||(dr&&dm ops i)) (f_ st.m fr) f args st=some (sv,st') ->
       BE S ops place dr F o.op (wk ⟨o.dst,g,dr&&dm ops i,.c,az,[],[]⟩) ν Z st H sv st':=λf args ar aO aC aP=>by
       obtain⟨n,y,H',ν',Z',p1,p2,p3,p4,p5,p6⟩:=No (ops:=ops) (Rv:=λid=>∃b j,place=some (b,j)/\id=b+j) hS gd.prm G (λb j hp hn=>by
        have:=hi b j hp;subst this;simp only[ζh]at hn;exact hn.2) (λb j hp=>(hold b j hp).2) r aO aP
       refine⟨n,y,H',ν',Z',λq hq=>?_,p2,p3,p4,λY=>⟨p5 Y,p6⟩⟩
       unfold c6;rw[g1];simp only[aC];exact p1 q hq
      split at h
      .rename_i f a b vs;obtain⟨w,ws,ew,r1,r2⟩:=rs.inv;rw[ew]at e1;simp only[List.cons.injEq]at e1;obtain⟨rfl,rfl⟩:=e1;obtain⟨a',b',rfl,ra,rb⟩:=r1.jk;exact go f _ _ ((ra.append r2).append rb) e2 h
      .rename_i f a b vs;obtain⟨w,ws,ew,r1,r2⟩:=rs.inv;rw[ew]at e1;simp only[List.cons.injEq]at e1;obtain⟨rfl,rfl⟩:=e1;obtain⟨a',b',rfl,ra,rb⟩:=r1.fr.jk;exact go f _ _ (((bX.pW ra).append r2).append (bX.pW rb)) e2 h
      .simp at h
    .simp at h
   .simp at hc
  .simp at hc
 .simp at hc
end
end Go.VE
namespace Go.VE
variable [bN]
def fJ (N:Nat->FuncId) (g:Tb SV) (o:RO):Option (Nat×List SV):=
 match o.k,bV N g o.az with
 | .c,some (.yl id::t)=>some (id,t)
 | _,_=>none
open Classical in
noncomputable def fe (S:Sys) (c:cg) (dr:Bool) (fr:List Nat) (o:RO) (st:St):Option St:=
 match wanted st.g o.gd with
 | some true=>match fJ S.N st.g o with
  | some (id,u)=>if dr then none else match dn u,st.want with
   | some z,w::t=>if z=w/\id=st.yid then some (cZ { st with want:=t } o.dst (.v (.bool (st.more || !t.isEmpty))))else none
   | _,_=>none
  | none=>(kT S c dr fr o st).map λ(x,st')=>cZ st' o.dst x
 | some false=>some (cZ st o.dst (.v .undef))
 | none=>none
def RO.strip (o:RO):RO:={ o with dead:=[],pre:=[] }
def ng:List Gh->St->Option St
 | [],st=>some st
 | x::r,st=>(ghost x st).bind (ng r)
def xy:Gh->Bool
 | .keep ..=>true
 | .drop _=>true
 | _=>false
def Ay (dr:Bool) (l:List Gh) (st:St):Option St:=if dr then(if l.all xy then ng l st else none)else ng l st
def n9 (ds:List Nat) (st:St):St:={ st with g:=nW ds st.g }
noncomputable def lM (S:Sys) (c:cg) (dr:Bool):List Nat->List RO->St->Option St
 | _,[],st=>some st
 | fr,o::r,st=>match (Ay dr o.pre st).bind (fe S c dr fr o.strip)with
  | some st'=>lM S c dr (if dr then pK fr o.strip else fr) r (n9 o.dead st')
  | none=>none
abbrev JT:=List (List V)->(Nat->Prop)->(Nat->Prop)->bf->Prop
structure Yc (S:Sys) (J:JT) (more:Bool) (yid:Nat):Prop where
 vl:∀w O Z H O' Z' H',J w O Z H->H.length<=H'.length->(∀i,i<H.length->¬O i->¬Z i->H'[i]? = H[i]?)->(∀i,Z i->Z' i/\bk H' i=bk H i) ->
  (∀i,O' i->O i\/H.length<=i)->(∀i,Z' i->Z i\/O i\/H.length<=i)->J w O' Z' H'
 yield:∀x ws O Z H args,J (x::ws) O Z H->cV H Z x args->(∀i,Z i->(bk H i).isSome=true)->Deep H Z->(∀i,O i->¬Z i/\i<H.length) ->
  ∃n H',run S.E n (.yld yid) args H=some (.bool (more || !ws.isEmpty),H')/\J ws O Z H'/\H.length<=H'.length/\(∀i,O i->H'[i]? = H[i]?)/\(∀i,Z i->bk H' i=bk H i)
structure Fix (ν:Nu) (st:St) (ν':Nu) (st':St):Prop where
 pin:∀d∈st.pin,∀ob',bg st'.m d=some ob'->∃ob,bg st.m d=some ob/\ν' d=ν d/\sameShape ob ob'
 pins:st'.pin=st.pin
 more:st'.more=st.more
 yid:st'.yid=st.yid
section
variable {Rv:Nat->Prop} {ν ν' ν2:Nu} {Z Z':Nat->Prop} {st st' st2:St} {m m':Tb bD} {F F':Frame} {H H' H1:bf} {S:Sys} {c:cg} {X:CX} {J:JT}
theorem Fix.refl:Fix ν st ν st:=⟨λ_ _ t h=>⟨t,h,rfl,.refl _⟩,rfl,rfl,rfl⟩
theorem Fix.trans (a:Fix ν st ν' st') (b:Fix ν' st' ν2 st2):Fix ν st ν2 st2:=
 ⟨λd w t h=>by
  obtain⟨u,h1,A,z⟩:=b.pin d (by rw[a.pins];omega) t h
  obtain⟨ob,k1,k2,k3⟩:=a.pin d w u h1;exact⟨ob,k1,by simp_all,k3.trans z⟩,by rw[b.pins,a.pins],by rw[b.more,a.more],by rw[b.yid,a.yid]⟩
theorem Ev.beside (y:Yc S J st.more st.yid) (a:Ev (λ_=>False) ν Z st H ν' Z' st' H') (B:st'.want=st.want) (j:J st.want (fm ν st.m) Z H):J st'.want (fm ν' st'.m) Z' H':=by
 rw[B];exact y.vl _ _ _ _ _ _ _ j a.len (λi h1 t u=>a.same i h1 t u (λh=>h)) a.rows (λi h=>(a.own i h).imp (λh=>h) (λh=>h.elim (λh=>h.elim) (λh=>h)))
  (λi h=>(a.frz i h).imp (λh=>h) (λh=>h.imp (λh=>h) (λh=>h.elim (λh=>h.elim) (λh=>h))))
theorem tE (D:∀s sv,bg st.g s=some sv->cW ν m H Z sv (get F s)) {ops:List Oper} {o:Oper} {gd:Option (Nat×Bool)} (hg:z6 ops o=some gd) {t:Bool} (B:wanted st.g gd=some t):fc ops F o=t:=by
 unfold z6 at hg;unfold fc
 cases u:o.guard with
 | none=>
  rw[u]at hg;simp  at hg;simp[wanted]at B;grind
 | some C=>
  rw[u]at hg;obtain⟨d,A,rfl⟩:=ζf.1 hg;simp[A];simp[wanted]at B;split at B
  .rename_i c hc;simp  at B;subst B;rw[(D d _ hc).fr.bool]
  .rename_i x G hc;simp  at B;subst B;have w:=(D d _ hc).fr;split
   .rename_i c z;rw[z]at w;cases w
    grind
   .rfl
  grind
theorem Kp {q:Dl} {dst:Option Nat} {args:List SV} {sv:SV} (h:Aq q dst args st=some (sv,st')):st'.want=st.want/\st'.pin=st.pin/\st'.more=st.more/\st'.yid=st.yid:=by
 unfold Aq at h
 grind
theorem MR {dr:Bool} {fr:List Nat} {ro:RO} {sv:SV} (h:kT S c dr fr ro st=some (sv,st')):st'.want=st.want/\st'.pin=st.pin/\st'.more=st.more/\st'.yid=st.yid:=by
 unfold kT at h;split at h
 .split at h
  .split at h
   .split at h
    .simp at h
    .unfold xX at h;split at h
     .split at h
      .obtain⟨_,_,h⟩:=ζg.1 h;obtain⟨_,_,h⟩:=ζg.1 h;dsimp only at h;split at h
       .simp only[ζa,ζc]at h;obtain⟨_,rfl⟩:=h;exact⟨rfl,rfl,rfl,rfl⟩
       .simp at h
      .simp at h
     .simp at h
   .obtain⟨_,_,e⟩:=ζf.1 h;simp only[ζc]at e;obtain⟨_,rfl⟩:=e;exact⟨rfl,rfl,rfl,rfl⟩
  .obtain⟨_,_,e⟩:=ζf.1 h;simp only[ζc]at e;obtain⟨_,rfl⟩:=e;exact⟨rfl,rfl,rfl,rfl⟩
  .split at h
   .obtain⟨_,_,e⟩:=ζf.1 h;simp only[ζc]at e;obtain⟨_,rfl⟩:=e;exact⟨rfl,rfl,rfl,rfl⟩
   .simp at h
  .split at h
   .split at h
    .obtain⟨_,_,e⟩:=ζf.1 h;simp only[ζc]at e;obtain⟨_,rfl⟩:=e;exact⟨rfl,rfl,rfl,rfl⟩
    .simp at h
   .simp at h
  .split at h
   .unfold kR at h
    (repeat' split at h) <;> first|(simp at h;done)|(simp only[ζa,ζc]at h;obtain⟨_,rfl⟩:=h;exact⟨rfl,rfl,rfl,rfl⟩)|(obtain⟨_,_,e⟩:=ζf.1 h;simp only[ζc]at e;obtain⟨_,rfl⟩:=e;exact⟨rfl,rfl,rfl,rfl⟩)|skip
    .dsimp only at h
     (repeat' split at h) <;> first|(simp at h;done)|(simp only[ζa,ζc]at h;obtain⟨_,rfl⟩:=h;exact⟨rfl,rfl,rfl,rfl⟩)
   .simp at h
  .have hc:∀{dst dr now t f args},gz S c dst dr now t f args st=some (sv,st')->st'.want=st.want/\st'.pin=st.pin/\st'.more=st.more/\st'.yid=st.yid:=by
    intro dst dr now t f args h;unfold gz at h
    (repeat' split at h) <;> first|exact Kp h|(obtain⟨_,_,e⟩:=ζf.1 h;simp only[ζc]at e;obtain⟨_,rfl⟩:=e;exact⟨rfl,rfl,rfl,rfl⟩)|(simp at h;done)|(simp only[ζa,ζc]at h;obtain⟨_,rfl⟩:=h;exact⟨rfl,rfl,rfl,rfl⟩)
   split at h
   .exact hc h
   .exact hc h
   .simp at h
  .split at h
   .simp at h
   .split at h
    .obtain⟨_,_,h⟩:=ζg.1 h;obtain⟨_,_,e⟩:=ζf.1 h;simp only[ζc]at e;obtain⟨_,rfl⟩:=e;exact⟨rfl,rfl,rfl,rfl⟩
    .simp at h
  .have w:∀{dst l u},kR st dst l u=some (sv,st')->st'.want=st.want/\st'.pin=st.pin/\st'.more=st.more/\st'.yid=st.yid:=by
    intro dst l u h;unfold kR at h
    (repeat' split at h) <;> first|(simp at h;done)|(simp only[ζa,ζc]at h;obtain⟨_,rfl⟩:=h;exact⟨rfl,rfl,rfl,rfl⟩)|(obtain⟨_,_,e⟩:=ζf.1 h;simp only[ζc]at e;obtain⟨_,rfl⟩:=e;exact⟨rfl,rfl,rfl,rfl⟩)|skip
    all_goals (dsimp only at h;(repeat' split at h) <;> first|(simp at h;done)|(simp only[ζa,ζc]at h;obtain⟨_,rfl⟩:=h;exact⟨rfl,rfl,rfl,rfl⟩))
   split at h
   .exact w h
   .exact w h
   .simp at h
 .simp at h
theorem y8 (r:R ν Z st F H) {nt:Nat} {dst:Option Nat} (B:wX nt dst=true) {sv:SV} {y:V} (h:cW ν st.m H Z sv y):∃F',jg nt F dst y=some F'/\R ν Z (cZ st dst sv) F' H:=by
 cases dst with
 | none=>exact⟨F,rfl,r⟩
 | some d=>
  have  := by simpa [wX]using B
  exact⟨set F d y,by simp[jg,if_pos this],r.put h⟩
theorem Ba (st:St) (dst:Option Nat) (sv:SV):(cZ st dst sv).m=st.m/\(cZ st dst sv).want=st.want/\(cZ st dst sv).pin=st.pin/\(cZ st dst sv).more=st.more/\(cZ st dst sv).yid=st.yid:=by
 cases dst <;> exact⟨rfl,rfl,rfl,rfl,rfl⟩
theorem Hi (gd:Good X S) (U:jG S c) {ops:List Oper} {place:Option (Nat×Nat)} {dr:Bool} {fr:List Nat} {i:Nat} (G:dr=place.isSome) (W:∀b j,place=some (b,j)->j=i)
 (hold:∀b j,place=some (b,j)->b<=H.length/\Old b fr ν Z st.m)
 {o:Oper} {ro:RO} (hc:lZ X dr ops i o=some ro) (J:∀b j,place=some (b,j)->ops[j]? = some o) (D:∀b j,place=some (b,j)->cT o.op=.alloc->H[b+j]? = some .free)
 (r:R ν Z st F H) (B:fJ S.N st.g ro=none\/dr=true) (h:fe S c dr fr ro st=some st') :
 ∃n F' H' ν' Z',(∀k,n<=k->fI S.E (run S.E k) X.nt ops place o F H=some (F',H'))/\R ν' Z' st' F' H'/\Ev (λid=>∃b j,place=some (b,j)/\id=b+j) ν Z st H ν' Z' st' H' /\
  (dr=true->Z'=Z/\Kept (wk ro) ν st.m ν' st'.m)/\st'.want=st.want/\Fix ν st ν' st':=by
 have C:=hc;obtain⟨u,g,now,k,az,hg,rfl⟩:=BS hc;unfold fe at h;split at h
 .rename_i I;have w:=tE r.slot hg I;have Q:(kT S c dr fr ⟨o.dst,g,now,k,az,[],[]⟩ st).map (λ(x,st')=>cZ st' o.dst x)=some st':=by
   split at h
   .rename_i id vs A;rcases B with B|B
    .rw[B]at A;cases A
    .subst B;simp at h
   .exact h
  obtain⟨⟨x,L⟩,t,rfl⟩:=ζf.1 Q;obtain⟨n,y,H',ν',Z',e1,e2,e3,e4,e5⟩:=Q_ gd U G W hold C J D r t;obtain⟨T,O,Y,w4⟩:=MR t;obtain⟨F',f1,f2⟩:=y8 e2 u e3;obtain⟨p1,p2,p3,p4,p5⟩:=Ba L o.dst x;refine⟨n,F',H',ν',Z',λk hk=>?_,f2,?_,λt=>⟨(e5 t).1,by rw[p1];exact(e5 t).2⟩,by rw[p2,T],⟨λd t=>by rw[p1];exact e4.pin d t,by rw[p3,O],by rw[p4,Y],by rw[p5,w4]⟩⟩
  .unfold fI;simp only[w,if_true,e1 k hk,f1,Option.map_some]
  .exact⟨e4.len,e4.same,e4.rows,λid h=>e4.own id (by rw[p1]at h;exact h),e4.frz,λd t=>by rw[p1];exact e4.pin d t,by rw[p3,O]⟩
 .rename_i I;have w:=tE r.slot hg I;simp only[ζa]at h;subst h;obtain⟨F',f1,f2⟩:=y8 r u (.v V.undef V.undef (.same _ rfl));obtain⟨p1,p2,p3,p4,p5⟩:=Ba st o.dst (.v .undef);refine⟨0,F',H,ν,Z,λk _=>?_,f2,?_,λ_=>⟨rfl,by rw[p1];exact .refl⟩,p2,⟨λd t=>by rw[p1];exact λz h=>⟨z,h,rfl,.refl _⟩,p3,p4,p5⟩⟩
  .unfold fI;simp only[w,Bool.false_eq_true,if_false,f1,Option.map_some]
  .exact⟨Nat.le_refl _,λ_ _ _ _ _=>rfl,λ_ h=>⟨h,rfl⟩,λ_ h=>.inl (by rw[p1]at h;exact h),λ_ h=>.inl h,λd t=>by rw[p1];exact λz h=>⟨z,h,rfl,.refl _⟩,p3⟩
 .simp at h
theorem L7 (gd:Good X S) (y:Yc S J st.more st.yid) {ops:List Oper} {fr:List Nat} {i:Nat} {o:Oper} {ro:RO} (hc:lZ X false ops i o=some ro)
 (r:R ν Z st F H) (j:J st.want (fm ν st.m) Z H) {id:Nat} {vs:List SV} (B:fJ S.N st.g ro=some (id,vs)) (D:wanted st.g ro.gd=some true) (h:fe S c false fr ro st=some st') :
 ∃n F' H',(∀k,n<=k->fI S.E (run S.E k) X.nt ops none o F H=some (F',H'))/\R ν Z st' F' H'/\J st'.want (fm ν st'.m) Z H'/\Fix ν st ν st':=by
 unfold lZ at hc;simp only[Bool.false_and,Bool.false_eq_true,if_false]at hc;split at hc
 .rename_i z;split at hc
  .rename_i g k os hg hr;split at hc
   .obtain⟨az,T,rfl⟩:=ζf.1 hc;unfold fe at h;simp only at D;have G:=tE r.slot hg D;rw[D]at h;simp only[B,Bool.false_eq_true,if_false]at h;unfold fJ at B;split at B
    .rename_i U W hk A;simp only[ζa,ζc]at B;obtain⟨rfl,rfl⟩:=B;simp only at hk A;subst hk;obtain⟨ys,I,rs⟩:=ot gd.N r.slot T A;obtain⟨g1,f',Y,e1,e2⟩:=jB gd.N hr I;obtain⟨w,ws,ew,r1,r2⟩:=rs.inv;rw[ew]at e1;simp only[List.cons.injEq]at e1;obtain⟨rfl,rfl⟩:=e1;cases r1;simp only at e2;split at h
     .rename_i xs x C hx t;split at h
      .rename_i u;obtain⟨rfl,rfl⟩:=u;simp only[ζa]at h;subst h;rw[t]at j;obtain⟨n,H',p1,p2,p3,p4,p5⟩:=y.yield _ _ _ _ _ _ j (r2.dn hx) r.zrow r.deep (λi O=>⟨by obtain⟨d,ob,h1,h2,rfl⟩:=O;exact r.apart d ob h1 h2,r.lt O⟩)
       have r3:R ν Z st F H':=r.heap p4 p5;have r4:R ν Z { st with want:=C } F H':=⟨r3.slot,r3.obj,r3.inj,r3.apart,r3.zrow,r3.deep⟩;obtain⟨F',f1,f2⟩:=y8 (st:={ st with want:=C }) r4 z (sv:=.v (.bool (st.more || !C.isEmpty))) (.v _ _ (.same _ rfl));obtain⟨Q,q2,q3,q4,q5⟩:=Ba { st with want:=C } o.dst (.v (.bool (st.more || !C.isEmpty)));refine⟨n,F',H',λk hk=>?_,f2,by rw[Q,q2];exact p2,⟨λd hd=>by rw[Q];exact λL h=>⟨L,h,rfl,.refl _⟩,q3,q4,q5⟩⟩
       unfold fI c6;rw[g1,e2];simp only[G,if_true,(mb S.E hk).go _ _ _ _ p1,f1,Option.map_some]
      .simp at h
     .simp at h
    .simp at B
   .simp at hc
  .simp at hc
 .simp at hc
def jR (X:CX) (B:Bool) (ops:List Oper):Nat->List Oper->Option (List RO)
 | _,[]=>some []
 | i,o::r=>match lZ X B ops i o,jR X B ops (i+1) r with
  | some ro,some rs=>some (ro::rs)
  | _,_=>none
theorem R.wZ (r:R ν Z st F H) (ds:List Nat):R ν Z (n9 ds st) F H:=r.less   (λs w t=>mR t) (λd ob u=>u)
theorem Fix.wZ {ds:List Nat} (f:Fix ν (n9 ds st) ν' st'):Fix ν st ν' st':=⟨f.pin,f.pins,f.more,f.yid⟩
theorem Fix.ghost (r:R ν Z st F H) (y:Yc S J st.more st.yid) (j:J st.want (fm ν st.m) Z H) {x:Gh} (h:ghost x st=some st'):∃ν' Z',R ν' Z' st' F H/\J st'.want (fm ν' st'.m) Z' H/\Fix ν st ν' st':=by
 obtain⟨ν',Z',h1,t⟩:=Mc (Rv:=λ_=>False) r h
 have u:st'.want=st.want/\st'.more=st.more/\st'.yid=st.yid:=by
  unfold Go.VE.ghost yE at h
  (repeat' split at h) <;> first|grind|grind
 exact⟨ν',Z',h1,t.beside y u.1 j,⟨t.pin,t.pins,u.2.1,u.2.2⟩⟩
theorem Fix.quiet (r:R ν Z st F H):∀{l:List Gh} {st':St},l.all xy=true->Go.VE.ng l st=some st'->R ν Z st' F H/\Ev Rv ν Z st H ν Z st' H/\st'.want=st.want/\Fix ν st ν st'/\∀d ob,bg st'.m d=some ob->bg st.m d=some ob:=by
 intro l
 induction l generalizing st with
 | nil=>intro st' _ h;simp[Go.VE.ng]at h;subst h;exact⟨r,.refl,rfl,.refl,λ_ _ h=>h⟩
 | cons x l A=>
  intro st' w h;simp only[List.all_cons,ζh]at w;obtain⟨s1,h1,B⟩:=ζg.1 h;have key:∃g m,s1={ st with g:=g,m:=m }/\(∀s t,bg g s=some t->bg st.g s=some t)/\∀d ob,bg m d=some ob->bg st.m d=some ob:=by
   cases x with
   | keep gs Q=>
    simp[Go.VE.ghost]at h1;split at h1
    .rename_i g m hg C;simp  at h1;subst h1;exact⟨g,m,rfl,λs t z=>o4 hg z,λd ob D=>o4 C D⟩
    grind
   | drop ds=>
    simp[Go.VE.ghost]at h1;subst h1;exact⟨_,st.m,rfl,λs t z=>mR z,λ_ _ h=>h⟩
   | _=>simp[xy]at w
  obtain⟨g,m,rfl,G,u⟩:=key;obtain⟨a1,I,J,L,O⟩:=A (r.less   G u) w.2 B;exact⟨a1,(Ev.less   u).trans I,J,Fix.trans  (st':={ st with g:=g,m:=m }) ⟨λd _ ob h=>⟨ob,u d ob h,rfl,.refl _⟩,rfl,rfl,rfl⟩ L,λd ob h=>u d ob (O d ob h)⟩
theorem Fix.ng:∀{l:List Gh} {ν:Nu} {Z:Nat->Prop} {st st':St},R ν Z st F H->Yc S J st.more st.yid->J st.want (fm ν st.m) Z H->ng l st=some st'->∃ν' Z',R ν' Z' st' F H/\J st'.want (fm ν' st'.m) Z' H/\Fix ν st ν' st'
 | [],ν,Z,st,st',r,y,j,h=>by simp[Go.VE.ng]at h;subst h;exact⟨ν,Z,r,j,.refl⟩
 | x::l,ν,Z,st,st',r,y,j,h=>by
  obtain⟨B,h1,D⟩:=ζg.1 h;obtain⟨w,z,r1,t,f1⟩:=Fix.ghost r y j h1;obtain⟨ν2,Z2,r2,u,f2⟩:=Fix.ng r1 (by rw[f1.more,f1.yid];omega) t D
  exact⟨ν2,Z2,r2,u,f1.trans f2⟩
theorem LW (gd:Good X S) (O:jG S c) {ops:List Oper} {fr:List Nat} {i:Nat} {o:Oper} {ro:RO} {B:St} (h1:lZ X false ops i o=some ro) (y:Yc S J st.more st.yid) (r:R ν Z st F H) (j:J st.want (fm ν st.m) Z H) (D:fe S c false fr ro st=some B) :
 ∃n F' H' ν' Z',(∀k,n<=k->fI S.E (run S.E k) X.nt ops none o F H=some (F',H'))/\R ν' Z' B F' H'/\J B.want (fm ν' B.m) Z' H'/\Fix ν st ν' B:=by
 by_cases G:wanted st.g ro.gd=some true
 .cases z:fJ S.N st.g ro with
  | none=>
   obtain⟨n,F',H',ν',Z',e1,e2,e3,e4,e5,e6⟩:=Hi gd O (place:=none) rfl (λb j h=>by cases h) (λb j h=>by cases h) h1 (λb j h=>by cases h) (λb j h=>by cases h) r (.inl z) D
   exact⟨n,F',H',ν',Z',e1,e2,(e3.weak (λid ⟨b,j,h,_⟩=>by cases h)).beside y e5 j,e6⟩
  | some p=>
   obtain⟨id,Q⟩:=p;obtain⟨n,F',H',e1,e2,e3,e4⟩:=L7 gd y h1 r j z G D;exact⟨n,F',H',ν,Z,e1,e2,e3,e4⟩
 .have t:fe S c false fr ro st=some B:=D;have I:fJ S.N st.g { ro with az:=[] }=none:=by
   unfold fJ;simp[bV]
  obtain⟨n,F',H',ν',Z',e1,e2,e3,e4,e5,e6⟩:∃n F' H' ν' Z',(∀k,n<=k->fI S.E (run S.E k) X.nt ops none o F H=some (F',H'))/\R ν' Z' B F' H'/\Ev (λ_=>False) ν Z st H ν' Z' B H'/\True/\B.want=st.want/\Fix ν st ν' B:=by
   unfold fe at t;split at t
   .rename_i u;exact absurd u G
   .rename_i u;simp only[ζa]at t;subst t;unfold lZ at h1;simp only[Bool.false_and,Bool.false_eq_true,if_false]at h1;split at h1
    .rename_i A;split at h1
     .rename_i g k os hg hr;split at h1
      .obtain⟨az,T,rfl⟩:=ζf.1 h1;have C:=tE r.slot hg u;obtain⟨F',f1,f2⟩:=y8 r A (.v V.undef V.undef (.same _ rfl));obtain⟨p1,p2,p3,p4,p5⟩:=Ba st o.dst (.v .undef);refine⟨0,F',H,ν,Z,λk _=>?_,f2,?_,trivial,p2,⟨λd L=>by rw[p1];exact λw h=>⟨w,h,rfl,.refl _⟩,p3,p4,p5⟩⟩
       .unfold fI;simp only[C,Bool.false_eq_true,if_false,f1,Option.map_some]
       .exact⟨Nat.le_refl _,λ_ _ _ _ _=>rfl,λ_ h=>⟨h,rfl⟩,λ_ h=>.inl (by rw[p1]at h;exact h),λ_ h=>.inl h,λd L=>by rw[p1];exact λw h=>⟨w,h,rfl,.refl _⟩,p3⟩
      .simp at h1
     .simp at h1
    .simp at h1
   .simp at t
  exact⟨n,F',H',ν',Z',e1,e2,e3.beside y e5 j,e6⟩
theorem KM (gd:Good X S) (O:jG S c) {ops:List Oper} {fr:List Nat}:∀(rest:List Oper) {i:Nat} {B:List RO} {ν:Nu} {Z:Nat->Prop} {st st':St} {F:Frame} {H:bf},jR X false ops i rest=some (B.map RO.strip)->lM S c false fr B st=some st' ->
 Yc S J st.more st.yid->R ν Z st F H->J st.want (fm ν st.m) Z H ->
 ∃n F' H' ν' Z',(∀k,n<=k->kN S.E (run S.E k) X.nt ops rest F H=some (F',H'))/\R ν' Z' st' F' H'/\J st'.want (fm ν' st'.m) Z' H'/\Fix ν st ν' st'
 | [],i,B,ν,Z,st,st',F,H,hc,h,y,r,j=>by
  simp only[jR,ζa]at hc;have  := List.map_eq_nil_iff.1 hc.symm;subst this;simp[lM]at h;subst h;exact⟨0,F,H,ν,Z,λ_ _=>rfl,r,j,.refl⟩
 | o::rest,i,B,ν,Z,st,st',F,H,hc,h,y,r,j=>by
  simp[jR]at hc;split at hc
  .rename_i Q rs h1 T;obtain⟨t,u,rfl,z,A⟩:∃t u,B=t::u/\Q=t.strip/\rs=u.map RO.strip:=by
    cases B with
    | nil=>simp_all
    | cons a b=>grind
   subst A;simp[lM,<-z]at h;split at h
   .rename_i w C;obtain⟨U,D,C⟩:=ζg.1 C;obtain⟨νg,Zg,rg,W,G⟩:=Fix.ng r y j D;obtain⟨Y,F1,H1,ν1,Z1,a1,a2,a3,I⟩:=LW gd O h1 (by rw[G.more,G.yid];omega) rg W C
    have L:=G.trans I;obtain⟨n2,F2,H2,ν2,Z2,b1,b2,b3,b4⟩:=KM gd O rest T h (by show Yc S J w.more w.yid;rw[L.more,L.yid];omega) (R.wZ a2 t.dead) a3
    refine⟨max Y n2,F2,H2,ν2,Z2,λk hk=>?_,b2,b3,L.trans (Fix.wZ b4)⟩
    simp[kN,a1 k (Nat.le_trans (Nat.le_max_left _ _) hk),b1 k (Nat.le_trans (Nat.le_max_right _ _) hk)]
   grind
  grind
theorem Old.next {b:Nat} {fr:List Nat} {o:RO} (h:Old b fr ν Z m) (hk:Kept (wk o) ν m ν' m'):Old b (pK fr o) ν' Z m':=by
 refine⟨λd ob B C u=>?_,h.2⟩
 have w:d∉fr:=λI=>u (by
  unfold pK
  grind)
 have z:wk o≠some d:=λe=>u (by unfold pK;grind)
 obtain⟨t,h1,D,G⟩:=hk d ob z B;have A:cB t=true:=by
  cases t <;> cases ob <;> simp[sameShape]at G <;> first|rfl|(simp[cB]at C ⊢;grind)
 rw[D];exact h.1 d t h1 A w
theorem Cj (r:R ν Z st F H) {id:Nat} (h:fm ν st.m id):H[id]? ≠ some .free:=by
 obtain⟨d,ob,h1,t,rfl⟩:=h;have:=r.obj d ob h1
 cases ob with
 | sl k es A=>
  simp[cB]at t;simp[dI,t]at this
  grind
 | box B=>obtain⟨es,w,hr,_⟩:=this;grind
 | mp z=>obtain⟨u,hr,_⟩:=this;grind
theorem I8 (r:R ν Z st F H) {id:Nat} (h:Z id):H[id]? ≠ some .free:=λe=>by
 have:=r.zrow id h;unfold bk at this;rw[e]at this;simp[Ob.rows]at this
theorem Ev.wZ {ds:List Nat} (e:Ev Rv ν Z (n9 ds st) H ν' Z' st' H'):Ev Rv ν Z st H ν' Z' st' H':=⟨e.len,e.same,e.rows,e.own,e.frz,e.pin,e.pins⟩
theorem Ln (gd:Good X S) (Y:jG S c) {ops:List Oper} {b k:Nat} (D:qb ops=true->k=ops.length):∀(len:Nat) {i:Nat} {B:List RO} {fr:List Nat} {ν:Nu} {Z:Nat->Prop} {st st':St} {F:Frame} {H:bf},
 i+len=ops.length->jR X true ops i (ops.drop i)=some (B.map RO.strip)->lM S c true fr B st=some st'->R ν Z st F H->b<=H.length->Old b fr ν Z st.m->(∀j,i<=j->j<k->H[b+j]? = some .free) ->
 ∃n F' H' ν',(∀q,n<=q->iW S.E (run S.E q) X.nt ops b (List.range' i len) F H=some (F',H'))/\R ν' Z st' F' H'/\Ev (λid=>b<=id) ν Z st H ν' Z st' H'/\st'.want=st.want/\Fix ν st ν' st'
 | 0,i,B,fr,ν,Z,st,st',F,H,hl,hc,h,r,hb,G,hf=>by
  rw[List.drop_of_length_le (by omega)]at hc
  simp only[jR,ζa]at hc;have:B=[]:=List.map_eq_nil_iff.1 hc.symm;subst this;simp[lM]at h;subst h;exact⟨0,F,H,ν,λ_ _=>rfl,r,.refl,rfl,.refl⟩
 | len+1,i,B,fr,ν,Z,st,st',F,H,hl,hc,h,r,hb,G,hf=>by
  have hi:i<ops.length:=by omega
  have hg  := ζd hi;rw[List.drop_eq_getElem_cons hi]at hc;simp[jR]at hc;split at hc
  .rename_i ro rs h1 h2;obtain⟨t,u,rfl,L,O⟩:∃t u,B=t::u/\ro=t.strip/\rs=u.map RO.strip:=by
    cases B with
    | nil=>simp_all
    | cons a b=>grind
   subst O;simp only[lM,<-L]at h;split at h
   .rename_i aa Q;obtain⟨T,w,Q⟩:=ζg.1 Q;simp only[Ay,if_true]at w;split at w
    rotate_left
    .simp_all
    rename_i I;obtain⟨rg,eg,wg,fg,sg⟩:=Fix.quiet r I w;have G:Old b fr ν Z T.m:=⟨λd ob hd=>G.1 d ob (sg d ob hd),G.2⟩
    obtain⟨n1,F1,H1,ν1,Z1,a1,a2,a3,a4,a5,a6⟩:=Hi gd Y (place:=some (b,i))  rfl (λJ j e=>by grind) (λJ j e=>by grind) h1 (λJ j e=>by grind) (λJ j e ab=>by
     have:qb ops=true:=by
      unfold qb
      grind
     grind) rg (.inr rfl) Q
    obtain⟨rfl,z⟩:=a4 rfl;have C  := a3.weak λid ⟨J,j,e,h⟩=>by cases e;omega
    obtain⟨n2,F2,H2,ν2,b1,b2,b3,b4,b5⟩:=Ln gd Y D len (by omega) h2 h (R.wZ a2 t.dead) (Nat.le_trans hb a3.len) (G.next z) (λj ad U=>by
     have A:=hf j (by omega) U
     have W:=(ζe.1 A).1;rw[C.same (b+j) W (λh=>Cj rg h A) (λh=>I8 rg h A) (by omega)]
     omega)
    refine⟨max n1 n2,F2,H2,ν2,λq I=>?_,b2,eg.trans ((C.weak λid e=>by omega).trans (Ev.wZ b3)),by rw[b4,<-wg];exact a5,fg.trans (a6.trans (Fix.wZ b5))⟩
    simp[List.range'_succ,iW,hg,a1 q (Nat.le_trans (Nat.le_max_left _ _) I),b1 q (Nat.le_trans (Nat.le_max_right _ _) I)]
   grind
  grind
end
end Go.VE
namespace Go.VE
variable [bN]
def bH (X:CX):Bool->Code->Option RC
 | _,.skip=>some .skip
 | _,.label _=>some .skip
 | _,.region _ ops B=>
  if B then(if uk ops.toList&&yJ ops.toList then(jR X true ops.toList 0 ops.toList).map .nR else none)
  else(jR X false ops.toList 0 ops.toList).map .ops
 | ro,.seq a b=>match bH X ro a,bH X ro b with
  | some a,some b=>some (.seq a b)
  | _,_=>none
 | ro,.cond c a b=>match oE X.nm c,bH X ro a,bH X ro b with
  | some x,some a,some b=>some (.cond x a b)
  | _,_,_=>none
 | ro,.block id c=>(bH X ro c).map (.block id)
 | ro,.loop c=>(bH X ro c).map .loop
 | ro,.rangeFunc g ps D G=>
  if ro || !(ps.toList.all (·<X.nt))then none else
  match oE X.nm g,bH X true D,bH X true G with
  | some x,some a,some b=>some (.each x ps.toList a b)
  | _,_,_=>none
 | _,.exit id=>some (.exit id)
 | _,.ret=>some .ret
 | _,_=>none
def erase:RC->RC
 | .seq a b=>.seq (erase a) (erase b)
 | .cond x a b=>.cond x (erase a) (erase b)
 | .block id c=>.block id (erase c)
 | .loop c=>.loop (erase c)
 | .each g ps a b=>.each g ps (erase a) (erase b)
 | .gh _ c=>erase c
 | .hg c _=>erase c
 | .ops l=>.ops (l.map RO.strip)
 | .nR l=>.nR (l.map RO.strip)
 | c=>c
def iB (step:St->Option (Out×St)):Nat->St->Option (Out×St)
 | 0,_=>none
 | k+1,st=>match step st with
  | some (.norm,st')=>iB step k st'
  | r=>r
open Classical in
noncomputable def mP (step:St->Option (Out×St)) (st:St):Option (Out×St):=
 if h:∃k r,iB step k st=some r then some (Classical.choose (Classical.choose_spec h))else none
theorem wM {step:St->Option (Out×St)}:∀{k B:Nat} {st:St} {r:Out×St},k<=B->iB step k st=some r->iB step B st=some r
 | 0,_,_,_,_,h=>by simp[iB]at h
 | k+1,0,_,_,hk,_=>by omega
 | k+1,B+1,st,r,hk,h=>by
  simp only[iB]at h ⊢;split at h
  .rename_i st' D;rw[wM (Nat.le_of_succ_le_succ hk) h]
  .exact h
theorem kZ {step:St->Option (Out×St)} {st:St} {r:Out×St}:mP step st=some r↔∃k,iB step k st=some r:=by
 unfold mP;constructor
 .intro h;split at h
  .rename_i t;simp only[ζa]at h;exact⟨_,by rw[<-h];exact Classical.choose_spec (Classical.choose_spec t)⟩
  .simp at h
 .rintro⟨k,hk⟩;have t:∃k r,iB step k st=some r:=⟨k,r,hk⟩;rw[dif_pos t];have w:=Classical.choose_spec (Classical.choose_spec t);have z:=wM (Nat.le_max_left (Classical.choose t) k) w;have u:=wM (Nat.le_max_right (Classical.choose t) k) hk;rw[z]at u;exact u
def hG (ps:List Nat) (A B:St->Option (Out×St)) (st:St) (x:List V) (m:Tb bD):Option (Out×Tb bD):=
 if x.length=ps.length then
  match A { g:=uT st.g ps (x.map .v),m:=m,pin:=st.pin++oA st.g,want:=[],more:=true,yid:=0 } with
  | some (.norm,t)=>(B t).map λ(o,st2)=>(o,st2.m)
  | _=>none
 else none
def oT (step:List V->Tb bD->Option (Out×Tb bD)):List (List V)->Tb bD->Option (Out×Tb bD)
 | [],m=>some (.norm,m)
 | x::xs,m=>match step x m with
  | some (.norm,m')=>oT step xs m'
  | r=>r
noncomputable def cu (S:Sys) (c:cg):RC->St->Option (Out×St)
 | .skip,st=>some (.norm,st)
 | .ops l,st=>(lM S c false [] l st).map λst=>(.norm,st)
 | .nR l,st=>(lM S c true [] l st).map λst=>(.norm,st)
 | .seq a b,st=>match cu S c a st with
  | some (.norm,st')=>cu S c b st'
  | r=>r
 | .cond x a b,st=>match pe S.N st.g x with
  | some (.v (.bool t))=>if t then cu S c a st else cu S c b st
  | _=>none
 | .block id a,st=>match cu S c a st with
  | some (.exit B,st')=>if B=id then some (.norm,st')else some (.exit B,st')
  | r=>r
 | .loop a,st=>mP (cu S c a) st
 | .each g ps a b,st=>match pe S.N st.g g with
  | some (.v (.clo f x y))=>match S.items f x y with
   | some xs=>(oT (hG ps (cu S c a) (cu S c b) st) xs st.m).map λ(o,m)=>(o,{ st with m:=m })
   | none=>none
  | _=>none
 | .exit id,st=>some (.exit id,st)
 | .ret,st=>some (.ret,st)
 | .gh x a,st=>(ghost x st).bind (cu S c a)
 | .hg a x,st=>match cu S c a st with
  | some (.norm,st')=>(ghost x st').map λst=>(.norm,st)
  | r=>r
def eU (S:Sys) (f:FuncId) (a b:List V) (xs:List (List V)):Prop:=
 ∀t more,(more=true/\t=xs\/more=false/\t≠[]/\∃r,xs=t++r)->∀yid J,Yc S J more yid->∀Z u w H,cV H Z a u->cV H Z b w->(∀i,Z i->(bk H i).isSome=true)->Deep H Z->J t (λ_=>False) Z H ->
  ∃n y H' z Z',(∀k,n<=k->run S.E k (.fn f) (u++.yld yid::w) H=some (y,H'))/\J [] z Z' H'
section
variable {ν ν' ν2:Nu} {Z Z':Nat->Prop} {st st' st2:St} {m m':Tb bD} {F F':Frame} {H H' H1:bf} {S:Sys} {c:cg} {X:CX} {J:JT}
end
end Go.VE
namespace Go.VE
variable [bN]
inductive uZ (step:List V->Tb bD->Option (Out×Tb bD)) (o:Out) (mf:Tb bD):List (List V)->Bool->Tb bD->Prop
 | nil (h:o=.norm):uZ step o mf [] true mf
 | next (x:List V) (ws:List (List V)) (more:Bool) (m m1:Tb bD) (h:step x m=some (.norm,m1)) (r:uZ step o mf ws more m1):uZ step o mf (x::ws) more m
 | last (x:List V) (m:Tb bD) (h:step x m=some (o,mf)) (ho:o≠.norm):uZ step o mf [x] false m
theorem AN {step:List V->Tb bD->Option (Out×Tb bD)} {o:Out} {D:Tb bD}:∀{xs:List (List V)} {m:Tb bD},oT step xs m=some (o,D) ->
 ∃B more,(more=true/\B=xs\/more=false/\B≠[]/\∃r,xs=B++r)/\uZ step o D B more m
 | [],m,h=>by
  obtain⟨rfl,rfl⟩:=h;exact⟨[],true,.inl ⟨rfl,rfl⟩,.nil rfl⟩
 | x::xs,m,h=>by
  simp[oT]at h;split at h
  .rename_i m' t;obtain⟨B,more,hc,hr⟩:=AN h;refine⟨x::B,more,?_,.next x B more m m' t hr⟩
   grind
  .refine⟨[x],false,.inr ⟨rfl,by simp,xs,rfl⟩,.last x m h λe=>?_⟩
   simp_all
def sO (O0 Z0:Nat->Prop) (H0:bf):JT:=λw O Z H=>w=[]/\H0.length<=H.length/\(∀i,i<H0.length->¬O0 i->¬Z0 i->H[i]? = H0[i]?)/\(∀i,Z0 i->Z i/\bk H i=bk H0 i) /\
 (∀i,O i->O0 i\/H0.length<=i)/\(∀i,Z i->Z0 i\/O0 i\/H0.length<=i)
section
variable {ν ν' ν2:Nu} {Z Z':Nat->Prop} {st st' st2:St} {m m':Tb bD} {F F':Frame} {H H' H1:bf} {S:Sys} {c:cg} {X:CX} {J:JT} {O0 Z0:Nat->Prop} {H0:bf}
theorem sO.vl {w:List (List V)} {O Z B Z':Nat->Prop} {H H':bf} (j:sO O0 Z0 H0 w O Z H) (D:H.length<=H'.length) (G:∀i,i<H.length->¬O i->¬Z i->H'[i]? = H[i]?) (hr:∀i,Z i->Z' i/\bk H' i=bk H i)
 (J:∀i,B i->O i\/H.length<=i) (U:∀i,Z' i->Z i\/O i\/H.length<=i):sO O0 Z0 H0 w B Z' H':=by
 obtain⟨t,u,A,z,C,I⟩:=j;refine⟨t,Nat.le_trans u D,λi h1 L Q=>?_,λi h=>⟨(hr i (z i h).1).1,by grind⟩,λi h=>?_,λi h=>?_⟩
 .grind
 .grind
 grind
theorem sO.yc {more:Bool} {yid:Nat}:Yc S (sO O0 Z0 H0) more yid where
 vl:=λ_ _ _ _ _ _ _ j h1 t u w z=>j.vl h1 t u w z
 yield:=λx A O Z H args j=>by obtain⟨h,_⟩:=j;cases h
theorem sO.refl (r:R ν Z st F H):sO (fm ν st.m) Z H [] (fm ν st.m) Z H:=⟨rfl,Nat.le_refl _,λ_ _ _ _=>rfl,λi h=>⟨h,rfl⟩,λi h=>.inl h,λi h=>.inl h⟩
mutual
theorem A8 {d:Nat}:∀{sv:SV},sv.cU d=true->d∈sv.names
 | .v _,h=>by simp[SV.cU]at h
 | .own e,h=>by simp[SV.cU]at h;simp[SV.names,h]
 | .ptr e _,h=>by simp[SV.cU]at h;simp[SV.names,h]
 | .el e _ _,h=>by simp[SV.cU]at h;simp[SV.names,h]
 | .mp e,h=>by simp[SV.cU]at h;simp[SV.names,h]
 | .clo f a b,h=>by
  simp only[SV.cU,Bool.or_eq_true]at h;simp only[SV.names,List.mem_append];exact h.imp pH pH
 | .tup l,h=>by simp only[SV.cU]at h;simp only[SV.names];exact pH h
 | .agg l,h=>by simp only[SV.cU]at h;simp only[SV.names];exact pH h
 | .yl _,h=>by simp[SV.cU]at h
theorem pH {d:Nat}:∀{l:List SV},SV.dy d l=true->d∈SV.uv l
 | [],h=>by simp[SV.dy]at h
 | x::r,h=>by
  simp only[SV.dy,Bool.or_eq_true]at h;simp only[SV.uv,List.mem_append];exact h.imp A8 pH
end
theorem zG {d:Nat}:∀{g:Tb SV} {s:Nat} {sv:SV},bg g s=some sv->sv.cU d=true->d∈oA g
 | [],s,sv,h,_=>by simp[bg]at h
 | (k,x)::r,s,sv,h,B=>by
  simp[bg]at h;simp[oA];split at h
  .simp  at h;subst h;exact .inl (A8 B)
  .exact .inr (zG h B)
theorem R.Sx (r:R ν Z st F H) {Z2:Nat->Prop} (h1:∀i,Z2 i->¬fm ν st.m i) (D:∀i,Z2 i->(bk H i).isSome=true) (G:Deep H Z2):R ν (λi=>Z i\/Z2 i) st F H:=by
 have w:∀i,Z i->(Z i\/Z2 i)/\bk H i=bk H i:=λi h=>⟨.inl h,rfl⟩
 have z:∀i,Z2 i->(Z i\/Z2 i)/\bk H i=bk H i:=λi h=>⟨.inr h,rfl⟩
 refine⟨λs I J=>(r.slot s I J).mono w λe _=>hU ν st.m e,λd ob t=>dI.mono w rfl (λ_=>rfl) (λe _=>hU ν st.m e) (r.obj d ob t),r.inj,λd ob t B hh=>?_,λi hi=>?_,⟨λid es C hi hr c hc u hu=>?_⟩⟩
 .rcases hh with hh|hh
  .exact r.apart d ob t B hh
  .exact h1 _ hh ⟨d,ob,t,B,rfl⟩
 .exact hi.elim (r.zrow i) (D i)
 .rcases hi with hi|hi
  .obtain⟨x,A⟩:=r.deep.row id es C hi hr c hc u hu;exact⟨x,A.mono w⟩
  .obtain⟨x,A⟩:=G.row id es C hi hr c hc u hu;exact⟨x,A.mono z⟩
theorem R.QW:∀{ps:List Nat} {xs:List V} {vs:List V} {g:Tb SV} {F:Frame},R ν Z { st with g:=g } F H->cV H Z xs vs->xs.length=ps.length->R ν Z { st with g:=uT g ps (xs.map .v) } (vZ ps vs F) H
 | [],xs,vs,g,F,r,h,B=>by
  have  := List.length_eq_zero_iff.1 B;subst this;exact r
 | p::ps,[],vs,g,F,r,h,B=>by simp_all
 | p::ps,x::xs,vs,g,F,r,h,B=>by
  obtain⟨w,u,rfl,h1,t⟩:=h.inv;exact R.QW (ps:=ps) (r.put  (.v _ _ h1)) t (by grind)
def q_ (X:CX) (S:Sys) (ro:Bool) (code:Code) (B:St->Option (Out×St)):Prop:=
 ∀st o st',B st=some (o,st')->∀(J:JT) ν Z F H,Yc S J st.more st.yid->R ν Z st F H->J st.want (fm ν st.m) Z H ->
  ∃n F' H' ν' Z',(∀k,n<=k->exec S.E (run S.E k) k ro X.nt code F H=some (o,F',H'))/\R ν' Z' st' F' H'/\J st'.want (fm ν' st'.m) Z' H'/\Fix ν st ν' st'
def Ou (st:St) (m:Tb bD):St:={ g:=st.g,m:=m,pin:=st.pin++oA st.g,want:=[],more:=true,yid:=0 }
def JI (X:CX) (st:St) (F:Frame) (ν:Nu) (O0 Z0:Nat->Prop) (H0:bf) (B:Nat) (ps:List Nat) (G J:Code) (step:List V->Tb bD->Option (Out×Tb bD)) (o:Out) (D:Tb bD) (more:Bool):JT:=λw O Z H=>
 ∃m u A t,R u A (Ou st m) F H/\sO O0 Z0 H0 [] (fm u m) A H/\(∀i,O i->¬fm u m i/\¬A i/\i≠B/\H0.length<=i)/\(∀i,Z i->¬fm u m i/\i≠B/\(Z0 i\/H0.length<=i)) /\
  ¬fm u m B/\¬A B/\H0.length<=B/\H[B]? = some (.loop t)/\(t.frame=F/\t.nt=X.nt/\t.params=ps/\t.assign=G/\t.body=J) /\
  (∀d∈st.pin++oA st.g,∀z,bg m d=some z->∃ob,bg st.m d=some ob/\u d=ν d/\sameShape ob z) /\
  ((uZ step o D w more m/\t.st=.ready/\t.pend=none)\/(w=[]/\m=D/\t.st=.done/\t.pend=some o))
theorem JI.vl {w:List (List V)} {O Z G Z':Nat->Prop} {H H':bf} {B:Nat} {ps:List Nat} {J U:Code} {step:List V->Tb bD->Option (Out×Tb bD)} {o:Out} {W:Tb bD} {more:Bool}
 (j:JI X st F ν O0 Z0 H0 B ps J U step o W more w O Z H) (Y:H.length<=H'.length) (D:∀i,i<H.length->¬O i->¬Z i->H'[i]? = H[i]?) (hr:∀i,Z i->Z' i/\bk H' i=bk H i)
 (ho:∀i,G i->O i\/H.length<=i) (hz:∀i,Z' i->Z i\/O i\/H.length<=i):JI X st F ν O0 Z0 H0 B ps J U step o W more w G Z' H':=by
 obtain⟨m,Q,C,S,r,T,d1,d2,l1,l2,l3,l4,l5,l6,l7⟩:=j;have u  := λi t=>D i (r.lt  t) (λh=>(d1 i h).1 t) (λh=>(d2 i h).1 t)
 have z:∀i,C i->bk H' i=bk H i:=λi t=>by
  by_cases A:Z i
  .grind
  .unfold bk;rw[D i (r.uf t) (λh=>(d1 i h).2.1 t) A]
 have aa  := (ζe.1 l4).1;refine⟨m,Q,C,S,r.heap u z,?_,λi h=>?_,λi h=>?_,l1,l2,l3,?_,l5,l6,l7⟩
 .obtain⟨j1,I,j3,j4,j5,j6⟩:=T;refine⟨j1,Nat.le_trans I Y,λi h1 h2 L=>?_,λi h=>⟨(j4 i h).1,by grind⟩,j5,j6⟩
  rw[D i (Nat.lt_of_lt_of_le h1 I) (λh=>by have:=(d1 i h).2.2.2;omega) (λh=>by rcases (d2 i h).2.2 with h|h;exact L h;omega),j3 i h1 h2 L]
 .rcases ho i h with h|h
  .exact d1 i h
  .exact⟨λt=>absurd (r.lt  t) (by omega),λt=>absurd (r.uf t) (by omega),by omega,by omega⟩
 .rcases hz i h with h|h|h
  .exact d2 i h
  .exact⟨(d1 i h).1,(d1 i h).2.2.1,.inr (d1 i h).2.2.2⟩
  .exact⟨λt=>absurd (r.lt  t) (by omega),by omega,.inr (by omega)⟩
 grind
theorem JI.yield (S:Sys) {A B:St->Option (Out×St)} {aw bw:Code} (hA:q_ X S true aw A) (hB:q_ X S true bw B) {D:Nat} {ps:List Nat} (ax:ps.all (·<X.nt)=true) {o:Out} {mf:Tb bD} {more:Bool}
 {x:List V} {ws:List (List V)} {O Z:Nat->Prop} {H:bf} {args:List V} (j:JI X st F ν O0 Z0 H0 D ps aw bw (hG ps A B st) o mf more (x::ws) O Z H)
 (hx:cV H Z x args) (an:∀i,Z i->(bk H i).isSome=true) (ay:Deep H Z) (aA:∀i,O i->¬Z i/\i<H.length) :
 ∃n H',run S.E n (.yld D) args H=some (.bool (more || !ws.isEmpty),H')/\JI X st F ν O0 Z0 H0 D ps aw bw (hG ps A B st) o mf more ws O Z H'/\H.length<=H'.length/\(∀i,O i->H'[i]? = H[i]?)/\(∀i,Z i->bk H' i=bk H i):=by
 obtain⟨m,νb,Zb,lr,r,ej,d1,d2,l1,l2,l3,l4,⟨q1,q2,q3,q4,q5⟩,l6,l7⟩:=j;have aB:uZ (hG ps A B st) o mf (x::ws) more m/\lr.st=.ready/\lr.pend=none:=by
  grind
 obtain⟨hE,T,aC⟩:=aB;have U:∃oo m1,hG ps A B st x m=some (oo,m1)/\(oo=.norm/\uZ (hG ps A B st) o mf ws more m1/\(more || !ws.isEmpty)=true\/oo≠.norm/\oo=o/\m1=mf/\ws=[]/\more=false):=by
  cases hE with
  | next _ _ _ _ m1 h hr=>
   refine⟨.norm,m1,h,.inl ⟨rfl,hr,?_⟩⟩;cases hr <;> simp
  | last _ _ h ho=>grind
 obtain⟨oo,m1,w,ab⟩:=U;unfold hG at w;split at w
 .rename_i ad;split at w
  .rename_i ah aD;obtain⟨⟨z,st2⟩,aE,e⟩:=ζf.1 w;simp  at e;obtain⟨rfl,rfl⟩:=e;have aF  := (ζe.1 l4).1;have r1  := r.Sx (λi t=>(d2 i t).1) an ay
   have aG:cV H (λi=>Zb i\/Z i) x args:=hx.mono λi t=>⟨.inr t,rfl⟩
   have r2:=R.QW (st:=Ou st m) r1 aG ad;obtain⟨nA,F2,H2,ν2,Z2,a1,a2,a3,a4⟩:=hA _ _ _ aD (sO (fm νb m) (λi=>Zb i\/Z i) H) νb _ _ H sO.yc r2 (sO.refl  r1)
   obtain⟨b1,b2,b3,b4,b5,b6⟩:=a3;have ai:¬(Zb D\/Z D):=λh=>h.elim l2 λh=>(d2 D h).2.1 rfl
   have ao:H2[D]? = some (.loop lr):=by rw[b3 D aF l1 ai];omega
   have ae:D<H2.length:=by omega
   have W:¬fm ν2 ah.m D:=λh=>(b5 D h).elim l1 λh=>by omega
   have aj:¬Z2 D:=λh=>by rcases b6 D h with h|h|h;exact ai h;exact l1 h;omega
   have u:∀(ob:Ob) (Hh:bf) (i:Nat),i≠D->(Hh.set D ob)[i]? = Hh[i]? := λob Hh i Y=>by rw[List.getElem?_set,if_neg (Ne.symm Y)]
   have r3:R ν2 Z2 ah F2 (H2.set D (.loop { lr with st:=.busy })):=a2.heap (λi t=>u _ _ i λe=>W (e▸t)) (λi t=>by unfold bk;rw[u _ _ i λe=>aj (e▸t)])
   obtain⟨nB,F4,H4,ν4,Z4,c1,c2,c3,c4⟩:=hB _ _ _ aE (sO (fm ν2 ah.m) Z2 (H2.set D (.loop { lr with st:=.busy }))) ν2 Z2 F2 _ sO.yc r3 (by
    rw[b1];exact sO.refl r3)
   obtain⟨_,g2,g3,g4,g5,g6⟩:=c3;simp  at g2 g3 g5 g6;have ap:H4[D]? = some (.loop { lr with st:=.busy }):=by rw[g3 D ae W aj,List.getElem?_set_self ae]
   have aq:D<H4.length:=by omega
   have ar  := λh=>(g5 D h).elim W λh=>by omega
   have au:¬Z4 D:=λh=>by rcases g6 D h with h|h|h;exact aj h;exact W h;omega
   generalize aa:({ lr with st:=(if z==.norm then zJ.ready else zJ.done),pend:=(if z==.norm then none else some z) }:tO)=G;have r5:R ν4 Z4 st2 F4 (H4.set D (.loop G)):=c2.heap (λi t=>u _ _ i λe=>ar (e▸t)) (λi t=>by unfold bk;rw[u _ _ i λe=>au (e▸t)])
   have L:H.length<=(H4.set D (.loop G)).length:=by simp ;omega
   have ak:∀i,i<H.length->i≠D->¬fm νb m i->¬(Zb i\/Z i)->(H4.set D (.loop G))[i]? = H[i]? := λi h1 J I h4=>by
    rw[u _ _ i J,g3 i (by omega) (λh=>(b5 i h).elim I λh=>by omega) (λh=>by rcases b6 i h with h|h|h;exact h4 h;exact I h;omega),u _ _ i J,b3 i h1 I h4]
   have C:∀i,(Zb i\/Z i)->Z4 i/\bk (H4.set D (.loop G)) i=bk H i:=λi t=>by
    have Y:i≠D:=λe=>ai (e▸t)
    obtain⟨t1,t2⟩:=b4 i t;obtain⟨t3,t4⟩:=g4 i t1;refine⟨t3,?_⟩;rw[<-t2];have:bk (H2.set D (.loop { lr with st:=.busy })) i=bk H2 i:=by unfold bk;rw[u _ _ i Y]
    rw[<-this,<-t4];unfold bk;rw[u _ _ i Y]
   have Q:∀i,fm ν4 st2.m i->fm νb m i\/H.length<=i:=λi t=>by
    rcases g5 i t with h|h
    .exact b5 i h
    .exact .inr (by omega)
   have af:∀i,Z4 i->(Zb i\/Z i)\/fm νb m i\/H.length<=i:=λi t=>by
    rcases g6 i t with h|h|h
    .exact b6 i h
    .rcases b5 i h with h|h
     .exact .inr (.inl h)
     .exact .inr (.inr h)
    .exact .inr (.inr (by omega))
   have fx:=a4.trans c4;have r6:R ν4 Z4 (Ou st st2.m) F (H4.set D (.loop G)):=⟨λs sv hs=>(r.slot s sv hs).mono (λi t=>C i (.inl t)) λd hd al am=>fx.pin d (List.mem_append_right _ (zG hs hd)) al am,r5.obj,r5.inj,r5.apart,r5.zrow,r5.deep⟩
   have av:run S.E (max nA nB+1) (.yld D) args H=some (.bool (z==.norm),H4.set D (.loop G)):=by
    simp only[run,iR,l4];rw[if_pos (by rw[q3];exact⟨by rw[<-hx.1];exact ad,by rw[q2];exact ax⟩)]
    rw[q1,q2,q3,q4,q5];rw[a1 _ (Nat.le_max_left _ _)];simp only[ao,T];rw[c1 _ (Nat.le_max_right _ _)];simp only[ap];rw[<-aa]
   refine⟨max nA nB+1,H4.set D (.loop G),?_,⟨st2.m,ν4,Z4,G,r6,?_,λi t=>?_,λi t=>?_,ar,au,l3,?_,?_,λd hd al am=>?_,?_⟩,L,λi t=>?_,λi t=>(C i (.inr t)).2⟩
   .rw[av];rcases ab with⟨h1,_,I⟩|⟨h1,_,_,h4,h5⟩
    .rw[h1,I];rfl
    .rw[h4,h5]
     cases aH:z with
     | norm=>exact absurd aH h1
     | _=>rfl
   .obtain⟨j1,j2,j3,j4,j5,j6⟩:=ej;refine⟨rfl,Nat.le_trans j2 L,λi h1 J I=>?_,λi h=>⟨(C i (.inl (j4 i h).1)).1,by rw[(C i (.inl (j4 i h).1)).2,(j4 i h).2]⟩,λi h=>?_,λi h=>?_⟩
    .rw[ak i (by omega) (by omega) (λh=>by rcases j5 i h with h|h;exact J h;omega) (λh=>by
      rcases h with h|h
      .rcases j6 i h with h|h|h;exact I h;exact J h;omega
      .rcases (d2 i h).2.2 with h|h;exact I h;omega),j3 i h1 J I]
    .rcases Q i h with h|h
     .exact j5 i h
     .exact .inr (by omega)
    .rcases af i h with (h|h)|h|h
     .exact j6 i h
     .rcases (d2 i h).2.2 with h|h;exact .inl h;exact .inr (.inr h)
     .rcases j5 i h with h|h;exact .inr (.inl h);exact .inr (.inr h)
     .exact .inr (.inr (by omega))
   .obtain⟨t1,t2⟩:=aA i t;obtain⟨t3,t4,t5,t6⟩:=d1 i t;refine⟨λh=>(Q i h).elim t3 λh=>by omega,λh=>?_,t5,t6⟩
    rcases af i h with (h|h)|h|h
    .exact t4 h
    .exact t1 h
    .exact t3 h
    .omega
   .obtain⟨t1,t2,t3⟩:=d2 i t;have aJ:i<H.length:=by
     have:=an i t;unfold bk at this
     cases hh:H[i]? with
     | none=>rw[hh]at this;simp at this
     | some _=>exact(ζe.1 hh).1
    exact⟨λh=>(Q i h).elim t1 λh=>by omega,t2,t3⟩
   .rw[List.getElem?_set_self aq]
   .subst aa;exact⟨q1,q2,q3,q4,q5⟩
   .obtain⟨aI,h1,J,I⟩:=fx.pin d hd al am;obtain⟨ob,k1,k2,k3⟩:=l6 d hd aI h1;exact⟨ob,k1,by rw[J,k2],k3.trans I⟩
   .rcases ab with⟨h1,J,I⟩|⟨h1,J,I,h4,h5⟩
    .left;subst h1;subst aa;exact⟨J,rfl,rfl⟩
    .right;subst aa;have hb:¬(z==Out.norm)=true:=by simpa using h1
     refine⟨h4,I,?_,?_⟩
     .show (if(z==Out.norm)=true then zJ.ready else zJ.done)=zJ.done;rw[if_neg hb]
     .show (if(z==Out.norm)=true then none else some z)=some o;rw[if_neg hb,J]
   grind
  grind
 grind
end
end Go.VE
namespace Go.VE
variable [bN]
section
variable {ν ν' ν2:Nu} {Z Z':Nat->Prop} {st st' st2:St} {m m':Tb bD} {F F':Frame} {H H' H1:bf} {S:Sys} {c:cg} {X:CX} {J:JT}
theorem KV (gd:Good X S) (G:jG S c) {ro:Bool} {id:Nat} {ops:Array Oper} {l:List RO} (hc:jR X true ops.toList 0 ops.toList=some (l.map RO.strip)) (D:(uk ops.toList&&yJ ops.toList)=true) :
 q_ X S ro (.region id ops true) (λst=>(lM S c true [] l st).map λst=>(.norm,st)):=by
 intro st o st' h J ν Z F H y r j;obtain⟨I,h1,e⟩:=ζf.1 h;simp only[ζc]at e;obtain⟨rfl,rfl⟩:=e;generalize w:(if qb ops.toList then H++List.replicate ops.toList.length .free else H)=H0;generalize hk:(if qb ops.toList then ops.toList.length else 0)=k;have u:∀i,i<H.length->H0[i]? = H[i]? := λi t=>by
  rw[<-w];split
  .exact List.getElem?_append_left t
  .rfl
 have z:H.length<=H0.length:=by rw[<-w];split <;> simp
 have L:R ν Z st F H0:=r.heap (λi t=>u i (r.lt t)) (λi t=>by unfold bk;rw[u i (r.uf t)])
 have A:∀q,0<=q->q<k->H0[H.length+q]? = some .free:=λq _ B=>by
  rw[<-hk]at B;split at B
  .rename_i C;rw[<-w,if_pos C,List.getElem?_append_right (by omega)]
   simp only[Nat.add_sub_cancel_left];rw[List.getElem?_replicate,if_pos B]
  .omega
 obtain⟨n,F',H',ν',e1,e2,e3,e4,e5⟩:=Ln gd G (ops:=ops.toList) (b:=H.length) (k:=k) (λC=>by rw[<-hk,if_pos C]) ops.toList.length (i:=0) (fr:=[]) (by omega) (by simpa using hc) h1 L z
  ⟨λd ob D O _=>r.lt ⟨d,ob,D,O,rfl⟩,λi t=>r.uf t⟩ A
 refine⟨n,F',H',ν',Z,λq B=>?_,e2,?_,e5⟩
 .simp only[exec,iL,if_true,D,ζf,ζc,true_and];refine⟨(F',H'),?_,rfl,rfl⟩;rw[w];have:=e1 q B;rw[List.range_eq_range'];exact this
 .rw[e4];refine y.vl _ _ _ _ _ _ _ j (Nat.le_trans z e3.len) (λi h1 Q T=>by rw[e3.same i (by omega) Q T (by omega),u i h1]) (λi t=>⟨t,by rw[(e3.rows i t).2];unfold bk;rw[u i (r.uf t)]⟩) (λi t=>?_) (λi t=>.inl t)
  rcases e3.own i t with h|h|h
  .exact .inl h
  .exact .inr h
  .exact .inr (by omega)
theorem Qn {ro:Bool} {code:Code} {f:St->Option (Out×St)} (O:q_ X S ro code f):q_ X S ro (.loop code) (mP f):=by
 intro st o st' h J ν Z F H y r j;obtain⟨k,hk⟩:=kZ.1 h;have key:∀k st ν Z F H,iB f k st=some (o,st')->Yc S J st.more st.yid->R ν Z st F H->J st.want (fm ν st.m) Z H ->
  ∃n F' H' ν' Z',(∀q,n<=q->∀t,k<=t->jE (exec S.E (run S.E q) q ro X.nt code) t F H=some (o,F',H'))/\R ν' Z' st' F' H'/\J st'.want (fm ν' st'.m) Z' H'/\Fix ν st ν' st':=by
  intro k
  induction k with
  | zero=>intro st ν Z F H h;simp[iB]at h
  | succ k Q=>
   intro st ν Z F H h y r j;simp only[iB]at h;split at h
   .rename_i w A;obtain⟨B,F1,H1,C,D,a1,G,I,z⟩:=O st .norm w A J ν Z F H y r j;obtain⟨T,U,H2,ν2,Z2,W,Y,b3,b4⟩:=Q w C D F1 H1 h (by rw[z.more,z.yid];exact y) G I
    refine⟨max B T,U,H2,ν2,Z2,λq u t L=>?_,Y,b3,z.trans b4⟩
    cases t with
    | zero=>omega
    | succ t=>
     simp only[jE,a1 q (Nat.le_trans (Nat.le_max_left _ _) u)];exact W q (Nat.le_trans (Nat.le_max_right _ _) u) t (by omega)
   .rename_i A;obtain⟨B,F1,H1,C,D,a1,G,I,z⟩:=O st o st' h J ν Z F H y r j;have ho:o≠.norm:=λe=>by subst e;exact A st' h
    refine⟨B,F1,H1,C,D,λq u t L=>?_,G,I,z⟩
    cases t with
    | zero=>omega
    | succ t=>
     simp only[jE,a1 q u];cases o <;> first|exact absurd rfl ho|rfl
 obtain⟨n,F',H',ν',Z',e1,e2,e3,e4⟩:=key k st ν Z F H hk y r j;refine⟨max n k,F',H',ν',Z',λq u=>?_,e2,e3,e4⟩
 simp only[exec];exact e1 q (Nat.le_trans (Nat.le_max_left _ _) u) q (Nat.le_trans (Nat.le_max_right _ _) u)
theorem Qj (gd:Good X S) (hI:∀f a b xs,S.items f a b=some xs->eU S f a b xs) {g:Operand} {ps:Array Tmp} {U W:Code} {x:Arg} {A B:St->Option (Out×St)}
 (ab:ps.toList.all (·<X.nt)=true) (hx:oE X.nm g=some x) (hA:q_ X S true U A) (hB:q_ X S true W B) :
 q_ X S false (.rangeFunc g ps U W) (λst=>match pe S.N st.g x with
 | some (.v (.clo f x y))=>match S.items f x y with
  | some xs=>(oT (hG ps.toList A B st) xs st.m).map λ(o,m)=>(o,{ st with m:=m })
  | none=>none
 | _=>none):=by
 intro st o st' h J ν Z F H y r j;dsimp only at h;split at h
 .rename_i f a b ad;split at h
  .rename_i xs ae;obtain⟨⟨oo,mf⟩,hE,e⟩:=ζf.1 h;simp only[ζc]at e;obtain⟨rfl,rfl⟩:=e;obtain⟨yv,hy,ry⟩:=Cd gd.N r.slot hx ad;obtain⟨a',b',rfl,ra,rb⟩:=ry.fr.jk;obtain⟨ws,more,Q,hR⟩:=AN hE;generalize I:(⟨.ready,none,F,X.nt,ps.toList,U,W⟩:tO)=u;have z:∀i,i<H.length->(H++[Ob.loop u])[i]? = H[i]? := λi t=>List.getElem?_append_left t
   have C:∀i,Z i->bk (H++[Ob.loop u]) i=bk H i:=λi t=>by unfold bk;rw[z i (r.uf t)]
   have r0:R ν Z (Ou st st.m) F (H++[Ob.loop u]):=by
    have:=r.heap (H':=H++[Ob.loop u]) (λi t=>z i (r.lt t)) C
    exact⟨this.slot,this.obj,this.inj,this.apart,this.zrow,this.deep⟩
   have D:∀i,Z i->Z i/\bk (H++[Ob.loop u]) i=bk H i:=λi t=>⟨t,C i t⟩
   have j0:JI X st F ν (fm ν st.m) Z H H.length ps.toList U W (hG ps.toList A B st) oo mf more ws (λ_=>False) Z (H++[Ob.loop u]):=by
    refine⟨st.m,ν,Z,u,r0,⟨rfl,by simp,λi h1 _ _=>z i h1,λi t=>⟨t,C i t⟩,λi t=>.inl t,λi t=>.inl t⟩,λi t=>t.elim,λi t=>⟨λho=>?_,Nat.ne_of_lt (r.uf t),.inl t⟩,λho=>absurd (r.lt ho) (by simp),λhz=>absurd (r.uf hz) (by simp),Nat.le_refl _,by simp,?_,λd _ af h=>⟨af,h,rfl,.refl _⟩,.inl ⟨hR,?_,?_⟩⟩
    .obtain⟨d,ob,g1,g2,rfl⟩:=ho;exact r.apart d ob g1 g2 t
    .subst I;exact⟨rfl,rfl,rfl,rfl,rfl⟩
    .subst I;rfl
    .subst I;rfl
   have ah:Yc S (JI X st F ν (fm ν st.m) Z H H.length ps.toList U W (hG ps.toList A B st) oo mf more) more H.length:=
    ⟨λw O Z1 H1 O' Z' H' jj h1 Y h3 h4 h5=>JI.vl jj h1 Y h3 h4 h5,λx1 aj O Z1 H1 args jj h1 Y h3 h4=>JI.yield S hA hB ab jj h1 Y h3 h4⟩
   obtain⟨n,yy,H',O',Z',e1,e2⟩:=hI f a b xs ae ws more Q H.length _ ah Z a' b' (H++[Ob.loop u]) (ra.mono D) (rb.mono D) (λi t=>by rw[C i t];exact r.zrow i t) (r.deep.mono C) j0
   obtain⟨m1,νb,Zb,lr,r1,⟨_,k2,k3,k4,k5,k6⟩,_,_,l1,l2,l3,l4,_,l6,l7⟩:=e2;have aa:m1=mf/\(lr.st=.ready\/lr.st=.done)/\lr.pend.getD .norm=oo:=by
    rcases l7 with⟨g1,g2,g3⟩|⟨_,g1,g2,g3⟩
    .cases g1 with
     | nil hn=>
      exact⟨rfl,.inl g2,by rw[g3,hn];rfl⟩
    .exact⟨g1,.inr g2,by rw[g3];rfl⟩
   obtain⟨rfl,hst,T⟩:=aa;have ak:H.length<H'.length:=(ζe.1 l4).1;have G:∀i,i≠H.length->(H'.set H.length .dead)[i]? = H'[i]? := λi ai=>by rw[List.getElem?_set,if_neg (Ne.symm ai)]
   have L:∀i,Zb i->bk (H'.set H.length .dead) i=bk H' i:=λi t=>by unfold bk;rw[G i λe=>l2 (e▸t)]
   have r2:=r1.heap (H':=H'.set H.length .dead) (λi t=>G i λe=>l1 (e▸t)) L
   refine⟨n,F,H'.set H.length .dead,νb,Zb,λq hq=>?_,⟨r2.slot,r2.obj,r2.inj,r2.apart,r2.zrow,r2.deep⟩,?_,⟨λd hd=>l6 d (List.mem_append_left _ hd),rfl,rfl,rfl⟩⟩
   .simp only[exec,hy];rw[I,e1 q hq];simp only[l4];rcases hst with hst|hst <;> rw[hst] <;> simp only[T]
   .refine y.vl _ _ _ _ _ _ _ j (by simp only[List.length_set];omega) (λi h1 Y h3=>by rw[G i (by omega),k3 i h1 Y h3]) (λi t=>⟨(k4 i t).1,by rw[L i (k4 i t).1,(k4 i t).2]⟩) k5 k6
  .simp at h
 .simp at h
end
end Go.VE
