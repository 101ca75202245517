/-
 The second layer: named objects in the place of rows; texts, calls, iterators.
-/
import Derived.Test.YtlmckmkfopljoaaGreatDoorV2
set_option linter.all false
namespace Go.VE
variable [bN]
inductive Fl where|nil|emp|row|part
 deriving DecidableEq,Inhabited
inductive SV where
 | v (x:V)
 | own (d:Nat)
 | ptr (d off:Nat)
 | el (d i off:Nat)
 | mp (d:Nat)
 | clo (f:FuncId) (a b:List SV)
 | tup (l:List SV)
 | agg (l:List SV)
 | yl (id:Nat)
 deriving Inhabited
inductive bu where
 | sl (k:Fl) (es:Nat) (xs:List (List V))
 | box (cs:List SV)
 | mp (kvs:List (V×V))
abbrev Tb (α:Type):=List (Nat×α)
def a_ {α:Type}:Tb α->Nat->Option α
 | [],_=>none
 | (k,v)::r,n=>if k=n then some v else a_ r n
def bH {α:Type}:Tb α->Nat->α->Tb α
 | [],n,v=>[(n,v)]
 | (k,x)::r,n,v=>if k=n then(k,v)::r else(k,x)::bH r n v
def dO {α:Type} (n:Nat):Tb α->Tb α
 | []=>[]
 | (k,x)::r=>if k=n then dO n r else(k,x)::dO n r
def oe {α:Type}:List Nat->Tb α->Tb α
 | [],g=>g
 | d::ds,g=>oe ds (dO d g)
def vz {α:Type}:Tb α->List Nat->List α->Tb α
 | g,p::ps,v::vs=>vz (bH g p v) ps vs
 | g,_,_=>g
def je {α:Type} (g:Tb α):List Nat->Option (Tb α)
 | []=>some []
 | n::r=>match a_ g n,je g r with
  | some v,some t=>some ((n,v)::t)
  | _,_=>none
structure St where
 g:Tb SV
 m:Tb bu
 pin:List Nat
 want:List (List V)
 more:Bool
 yid:Nat
structure Dl where
 part:Bool
 go:Nat->List (List V)->List V->Option (List (List V))
structure Sys where
 E:Env
 N:Nat->FuncId
 items:FuncId->List V->List V->Option (List (List V))
 wL:FuncId->List V->Option V
 prm:FuncId->Option Dl
inductive Arg where
 | s (n:Nat)
 | k (c:V)
 | f (name:Nat)
inductive Loc where
 | s (n:Nat)
 | c (b i:Nat)
inductive Gh where
 | close (d:Nat)
 | closeB (d:Nat)
 | canon (l:Loc) (d:Nat) (es:Nat)
 | keep (gs ms:List Nat)
 | drop (ds:List Nat)
 | closeS (l:Loc)
structure RO where
 dst:Option Nat
 gd:Option (Nat×Bool)
 now:Bool
 k:K
 az:List Arg
 dead:List Nat:=[]
 pre:List Gh:=[]
inductive RC where
 | skip
 | ops (l:List RO)
 | ru (l:List RO)
 | seq (a b:RC)
 | cond (x:Arg) (a b:RC)
 | block (id:Nat) (c:RC)
 | loop (c:RC)
 | each (g:Arg) (ps:List Nat) (a b:RC)
 | exit (id:Nat)
 | ret
 | gh (x:Gh) (c:RC)
 | hg (c:RC) (x:Gh)
inductive RV where
 | s (n:Nat)
 | ld (n size:Nat) (agg:Bool)
structure RF where
 na:Nat
 rs:List RV
 body:RC
mutual
def SV.cM (d:Nat):SV->Bool
 | .v _=>false
 | .own e=>e==d
 | .ptr e _=>e==d
 | .el e _ _=>e==d
 | .mp e=>e==d
 | .clo _ a b=>SV.di d a||SV.di d b
 | .tup l=>SV.di d l
 | .agg l=>SV.di d l
 | .yl _=>false
def SV.di (d:Nat):List SV->Bool
 | []=>false
 | x::r=>SV.cM d x||SV.di d r
end
def bu.cM (d:Nat):bu->Bool
 | .box cs=>SV.di d cs
 | _=>false
def uA (d:Nat):Tb SV->Bool
 | []=>false
 | (_,x)::r=>SV.cM d x||uA d r
def q9 (d:Nat):Tb bu->Bool
 | []=>false
 | (_,x)::r=>bu.cM d x||q9 d r
def St.new (st:St) (d:Nat):Bool := !(st.pin.contains d)&&(a_ st.m d).isNone && !(uA d st.g) && !(q9 d st.m)
mutual
def SV.tn (d e:Nat):SV->SV
 | .v x=>.v x
 | .own k=>.own (if k=d then e else k)
 | .ptr k o=>.ptr (if k=d then e else k) o
 | .el k i o=>.el (if k=d then e else k) i o
 | .mp k=>.mp (if k=d then e else k)
 | .clo f a b=>.clo f (SV.tW d e a) (SV.tW d e b)
 | .tup l=>.tup (SV.tW d e l)
 | .agg l=>.agg (SV.tW d e l)
 | .yl id=>.yl id
def SV.tW (d e:Nat):List SV->List SV
 | []=>[]
 | x::r=>SV.tn d e x::SV.tW d e r
end
def bu.tn (d e:Nat):bu->bu
 | .box cs=>.box (SV.tW d e cs)
 | o=>o
def zq (d e:Nat):Tb SV->Tb SV
 | []=>[]
 | (n,x)::r=>(n,x.tn d e)::zq d e r
def tR (d e:Nat):Tb bu->Tb bu
 | []=>[]
 | (n,x)::r=>((if n=d then e else n),x.tn d e)::tR d e r
mutual
def SV.sub (d:Nat) (w:V):SV->SV
 | .own k=>if k=d then .v w else .own k
 | .clo f a b=>.clo f (SV.tO d w a) (SV.tO d w b)
 | .tup l=>.tup (SV.tO d w l)
 | .agg l=>.agg (SV.tO d w l)
 | x=>x
def SV.tO (d:Nat) (w:V):List SV->List SV
 | []=>[]
 | x::r=>SV.sub d w x::SV.tO d w r
end
def cZ:List SV->Option (List V)
 | []=>some []
 | .v x::r=>(cZ r).map (x::·)
 | _::_=>none
def OX (f:FuncId) (a b:List SV):SV:=
 match cZ a,cZ b with
 | some x,some y=>.v (.clo f x y)
 | _,_=>.clo f a b
mutual
def SV.AT (d:Nat) (cs:List V):SV->SV
 | .ptr k o=>if k=d then(if o<=cs.length then .v (.fptr (cs.drop o))else .ptr k o)else .ptr k o
 | .clo f a b=>OX f (SV.qa d cs a) (SV.qa d cs b)
 | .tup l=>.tup (SV.qa d cs l)
 | .agg l=>.agg (SV.qa d cs l)
 | x=>x
def SV.qa (d:Nat) (cs:List V):List SV->List SV
 | []=>[]
 | x::r=>SV.AT d cs x::SV.qa d cs r
end
def Be (f:SV->SV):Tb SV->Tb SV
 | []=>[]
 | (n,x)::r=>(n,f x)::Be f r
def mapM (f:List SV->List SV):Tb bu->Tb bu
 | []=>[]
 | (n,.box cs)::r=>(n,.box (f cs))::mapM f r
 | (n,o)::r=>(n,o)::mapM f r
mutual
def SV.names:SV->List Nat
 | .own d|.ptr d _|.el d _ _|.mp d=>[d]
 | .clo _ a b=>SV.uO a++SV.uO b
 | .tup l=>SV.uO l
 | .agg l=>SV.uO l
 | _=>[]
def SV.uO:List SV->List Nat
 | []=>[]
 | x::r=>SV.names x++SV.uO r
end
def oA:Tb SV->List Nat
 | []=>[]
 | (_,x)::r=>SV.names x++oA r
def mS (k:Fl) (es:Nat) (xs:List (List V)):V:=
 match k with
 | .nil=>.bE
 | .emp=>.dm
 | _=>.fsl es xs
mutual
def V.lvl:Nat->V->Bool
 | n,.fsl _ xs=>match n with|0=>false|n+1=>V.n5 n xs
 | n,.fptr cs=>match n with|0=>false|n+1=>V.kr n cs
 | n,.fmap B=>match n with|0=>false|n+1=>V.qU n B
 | n,.agg cs=>match n with|0=>false|n+1=>V.kr n cs
 | n,.tup cs=>match n with|0=>false|n+1=>V.kr n cs
 | n,.clo _ a b=>match n with|0=>false|n+1=>V.kr n a&&V.kr n b
 | _,_=>true
def V.kr:Nat->List V->Bool
 | _,[]=>true
 | n,x::r=>V.lvl n x&&V.kr n r
def V.n5:Nat->List (List V)->Bool
 | _,[]=>true
 | n,x::r=>V.kr n x&&V.n5 n r
def V.qU:Nat->List (V×V)->Bool
 | _,[]=>true
 | n,(k,x)::r=>V.lvl n k&&V.lvl n x&&V.qU n r
end
mutual
def shut (m:Tb bu):Nat->SV->Option V
 | _,.v x=>some x
 | _,.own d=>match a_ m d with
  | some (.sl k es xs)=>some (mS k es xs)
  | _=>none
 | n+1,.ptr d o=>match a_ m d with
  | some (.box cs)=>match cQ m n cs with
   | some xs=>if o<=xs.length then some (.fptr (xs.drop o))else none
   | none=>none
  | _=>none
 | _,.mp d=>match a_ m d with
  | some (.mp B)=>some (.fmap B)
  | _=>none
 | n+1,.clo f a b=>match cQ m n a,cQ m n b with
  | some x,some y=>some (.clo f x y)
  | _,_=>none
 | n+1,.tup l=>(cQ m n l).map .tup
 | n+1,.agg l=>(cQ m n l).map .agg
 | _,_=>none
def cQ (m:Tb bu):Nat->List SV->Option (List V)
 | _,[]=>some []
 | n,x::r=>match shut m n x,cQ m n r with
  | some y,some s=>some (y::s)
  | _,_=>none
end
end Go.VE
namespace Go.VE
variable [bN]
mutual
def V.good:V->Bool
 | .hsl ..|.hptr ..|.yld ..|.hmap ..=>false
 | .fsl _ xs=>V.lY xs
 | .fptr cs=>V.cD cs
 | .fmap B=>V.ri B
 | .clo _ a b=>V.cD a&&V.cD b
 | .agg cs=>V.cD cs
 | .tup cs=>V.cD cs
 | _=>true
def V.cD:List V->Bool
 | []=>true
 | x::r=>V.good x&&V.cD r
def V.lY:List (List V)->Bool
 | []=>true
 | x::r=>V.cD x&&V.lY r
def V.ri:List (V×V)->Bool
 | []=>true
 | (k,x)::r=>V.good k&&V.good x&&V.ri r
end
abbrev c7:=Tb bu
abbrev bS:=FuncId->List SV->c7->Option (List SV×c7)
def pI (N:Nat->FuncId) (g:Tb SV):Arg->Option SV
 | .s n=>a_ g n
 | .k c=>some (.v c)
 | .f s=>some (.v (.clo (N s) [] []))
def bP (N:Nat->FuncId) (g:Tb SV):List Arg->Option (List SV)
 | []=>some []
 | x::r=>match pI N g x,bP N g r with
  | some v,some vs=>some (v::vs)
  | _,_=>none
def cC:Fl->Bool
 | .row|.part=>true
 | _=>false
def j8 (m:Tb bu):SV->Bool
 | .own d|.ptr d _|.el d _ _|.mp d=>(a_ m d).isSome
 | .clo ..=>true
 | _=>false
def vK (m:Tb bu):SV->Bool
 | .v x=>x.one
 | x=>j8 m x
def wu (m:Tb bu):SV->Option (List SV)
 | .v x=>some (x.cells.map .v)
 | .agg l=>some l
 | x=>if j8 m x then some [x]else none
def rI (m:Tb bu) (cells:List SV):List (Nat×Nat)->List SV->Option (List SV)
 | [],[]=>some cells
 | (off,size)::pl,v::vs=>match wu m v with
  | some c=>if c.length=size/\off+c.length<=cells.length then rI m (cells.take off++c++cells.drop (off+c.length)) pl vs else none
  | none=>none
 | _,_=>none
def ua (size:Nat) (agg:Bool) (cs:List SV):Option SV:=
 if cs.length=size then
  if agg then match cZ cs with
   | some u=>some (.v (.agg u))
   | none=>some (.agg cs)
  else match cs with
   | [x]=>some x
   | _=>none
 else none
def vH (N:Nat->FuncId) (m:Tb bu):tY->List SV->Option SV
 | .id,[x]=>some x
 | .nilc,[.ptr d o]=>if(a_ m d).isSome then some (.ptr d o)else none
 | .nilc,[.el d i o]=>if(a_ m d).isSome then some (.el d i o)else none
 | .pick,[.v (.bool t),a,b]=>some (if t then a else b)
 | .bin (some .slice) _ .eql,[.own d,.v .bE]=>match a_ m d with
  | some (.sl k _ _)=>if k=.emp then none else some (.v (.bool (k==.nil)))
  | _=>none
 | .bin (some .slice) _ .neq,[.own d,.v .bE]=>match a_ m d with
  | some (.sl k _ _)=>if k=.emp then none else some (.v (.bool (!(k==.nil))))
  | _=>none
 | .fieldAddr off,[.ptr d o]=>if(a_ m d).isSome then some (.ptr d (o+off))else none
 | .fieldAddr off,[.el d i o]=>if(a_ m d).isSome then some (.el d i (o+off))else none
 | .idxS size,[.own d,.v (.int _ i)]=>match a_ m d with
  | some (.sl k es xs)=>if cC k/\es=size/\0<=i/\i.toNat<xs.length then some (.el d i.toNat 0)else none
  | _=>none
 | .idxA len size,[.ptr d o,.v (.int _ i)]=>if 0<=i/\i<len/\(a_ m d).isSome then some (.ptr d (o+i.toNat*size))else none
 | .idxA len size,[.el d j o,.v (.int _ i)]=>if 0<=i/\i<len/\(a_ m d).isSome then some (.el d j (o+i.toNat*size))else none
 | .lenSl,[.own d]=>match a_ m d with
  | some (.sl _ _ xs)=>some (.v (.int .i64 xs.length))
  | _=>none
 | .clo name k,vs=>some (.clo (N name) (vs.take k) (vs.drop k))
 | .ext i,[.tup l]=>l[i]?
 | .build zero pl,vs=>(rI m (zero.map .v) pl vs).map .agg
 | .field off size agg,[.agg l]=>ua size agg ((l.drop off).take size)
 | _,_=>none
def iW (N:Nat->FuncId) (m:Tb bu) (p:tY) (svs:List SV):Option SV:=
 match cZ svs with
 | some u=>(bn N p u).map .v
 | none=>vH N m p svs
def JE (m:Tb bu) (d:Nat):SV->Bool
 | .ptr B _=>B != d&&(match a_ m B with|some (.box _)=>true|_=>false)
 | .v (.fptr _)=>true
 | _=>false
def nZ (m:Tb bu):H6->List SV->Option SV
 | .load size agg,[.ptr d o]=>match a_ m d with
  | some (.box cs)=>ua size agg ((cs.drop o).take size)
  | _=>none
 | .load size agg,[.el d i o]=>match a_ m d with
  | some (.sl _ _ xs)=>match xs[i]? with
   | some cs=>((cut cs o size).bind (mk agg)).map .v
   | none=>none
  | _=>none
 | .load size agg,[.v p]=>((ei [] p size).bind (mk agg)).map .v
 | .lookup kk z ok,[.mp d,.v k]=>match a_ m d with
  | some (.mp B)=>if oK kk k then match gR k B 0 with
   | some (some (_,v))=>some (.v (if ok then .tup [v,.bool true]else v))
   | some none=>some (.v (if ok then .tup [z,.bool false]else z))
   | none=>none
   else none
  | _=>none
 | .lookup kk z ok,[.v p,.v k]=>(ga [] (.lookup kk z ok) [p,k]).map .v
 | .loadF size agg,.ptr d o::l=>if l.all (JE m d)=true then match a_ m d with
  | some (.box cs)=>ua size agg ((cs.drop o).take size)
  | _=>none
  else none
 | _,_=>none
def eO (fr:List Nat):List SV->Bool
 | []=>true
 | .v _::r=>eO fr r
 | .ptr d _::r => !(fr.contains d)&&eO fr r
 | .el d _ _::r => !(fr.contains d)&&eO fr r
 | .mp d::r => !(fr.contains d)&&eO fr r
 | _=>false
def oC (m:Tb bu) (a:Md) (svs:List SV) (d:Nat):Option (bu×SV):=
 match a,svs with
 | .alloc _ zero,[]=>some (.box (zero.map .v),.ptr d 0)
 | .box,[.v x]=>if x.cells.all V.one then some (.box (x.cells.map .v),.ptr d 0)else none
 | .box,[.agg l]=>if l.all (vK m)then some (.box l,.ptr d 0)else none
 | .box,[x]=>if j8 m x then some (.box [x],.ptr d 0)else none
 | .makeSl size zero,[.v (.int k n),.v (.int w c)]=>
  if k=.i64/\w=.i64/\0<=n/\n<=c/\c<=2147483648 then some (.sl (if n=c then .row else .part) size (List.replicate n.toNat zero),.own d)else none
 | .buildSl size len zero idx,z=>match cZ z with
  | some u=>if idx.length=u.length then(gL size (List.replicate len zero) (idx.zip u)).map λA=>(.sl .row size A,.own d)else none
  | none=>none
 | .makeMap,[]=>some (.mp [],.mp d)
 | _,_=>none
def jF (m:Tb bu) (size:Nat):SV->Option (List (List V))
 | .own d=>match a_ m d with
  | some (.sl k es xs)=>if cC k then(if es=size then some xs else none)else some []
  | _=>none
 | .v .bE=>some []
 | .v .dm=>some []
 | .v (.fsl es xs)=>if es=size then some xs else none
 | _=>none
def FA:SV->Bool
 | .own _|.v .bE|.v .dm=>true
 | _=>false
def putCells (m:Tb bu) (size o:Nat) (sv:SV) (cs:List SV):Option (List SV):=
 match sv with
 | .v x=>if x.cells.length=size/\o+size<=cs.length/\x.cells.all V.one=true then some (cs.take o++x.cells.map .v++cs.drop (o+size))else none
 | .agg l=>if l.length=size/\o+size<=cs.length/\l.all (vK m)=true then some (cs.take o++l++cs.drop (o+size))else none
 | x=>if j8 m x=true/\size=1/\o+1<=cs.length then some (cs.take o++[x]++cs.drop (o+1))else none
def giveUp (m:Tb bu):SV->Tb bu
 | .own d=>dO d m
 | _=>m
def lC (st:St) (dst:Option Nat):Ih->List SV->Option (SV×St)
 | .store size,[.ptr d o,x]=>match a_ st.m d with
  | some (.box cs)=>(putCells st.m size o x cs).map λcs=>(.v .undef,{ st with m:=bH st.m d (.box cs) })
  | _=>none
 | .store size,[.el d i o,.v x]=>match a_ st.m d with
  | some (.sl k es xs)=>match xs[i]? with
   | some cs=>if x.cells.length=size/\o+size<=cs.length/\x.cells.all V.one=true then
    some (.v .undef,{ st with m:=bH st.m d (.sl k es (xs.set i (cs.take o++x.cells++cs.drop (o+x.cells.length)))) })else none
   | none=>none
  | _=>none
 | .mapUp kk,[.mp d,.v k,.v x]=>match a_ st.m d with
  | some (.mp B)=>if oK kk k then(oB k x B).map λB=>(.v .undef,{ st with m:=bH st.m d (.mp B) })else none
  | _=>none
 | .append size,[s,x]=>match jF st.m size s,jF st.m size x with
  | some _,some []=>match dst with
   | some t=>match s with
    | .own d=>match a_ st.m d with
     | some ob=>if St.new { st with m:=dO d st.m } t then some (.own t,{ st with m:=bH (dO d st.m) t ob })else none
     | none=>none
    | .v .bE=>if st.new t then some (.own t,{ st with m:=bH st.m t (.sl .nil size []) })else none
    | .v .dm=>if st.new t then some (.own t,{ st with m:=bH st.m t (.sl .emp size []) })else none
    | _=>none
   | none=>none
  | some xs,some ys=>
   if xs.length+ys.length<=2147483648/\FA s=true then
    let m1:=giveUp st.m s
    match dst with
    | some t=>if St.new { st with m:=m1 } t then some (.own t,{ st with m:=bH m1 t (.sl .row size (xs++ys)) })else none
    | none=>none
   else none
  | _,_=>none
 | .storeF size,.ptr d o::x::l=>if l.all (JE st.m d)=true then match a_ st.m d with
  | some (.box cs)=>(putCells st.m size o x cs).map λcs=>(.v .undef,{ st with m:=bH st.m d (.box cs) })
  | _=>none
  else none
 | _,_=>none
def zk (st:St) (dst:Option Nat) (size:Nat) (lo hi:Bool) (d:Nat) (B:List SV):Option (SV×St):=
 match a_ st.m d,cZ B,dst with
 | some (.sl k es u),some z,some t=>
  if cC k=true/\es=size then
   (k7 lo hi z).bind λ(l,h)=>(dI u.length l h).bind λ(l,h)=>
    let w:=dO d st.m
    if St.new { st with m:=w } t then some (.own t,{ st with m:=bH w t (.sl .part es ((u.take h).drop l)) })else none
  else none
 | _,_,_=>none
def zO:List SV->SV
 | [x]=>x
 | l=>.tup l
mutual
def SV.AF:SV->List Nat
 | .v _=>[]
 | .own e=>[e]
 | .ptr e _=>[e]
 | .el e _ _=>[e]
 | .mp e=>[e]
 | .clo _ a b=>SV.qm a++SV.qm b
 | .tup l=>SV.qm l
 | .agg l=>SV.qm l
 | .yl _=>[]
def SV.qm:List SV->List Nat
 | []=>[]
 | x::r=>SV.AF x++SV.qm r
end
def bu.AF:bu->List Nat
 | .box cs=>SV.qm cs
 | _=>[]
def reach (m:Tb bu):Nat->List Nat->List Nat->List Nat
 | 0,_,seen=>seen
 | _+1,[],seen=>seen
 | n+1,d::r,seen=>if seen.contains d then reach m n r seen else reach m n ((match a_ m d with|some ob=>bu.AF ob|none=>[])++r) (seen++[d])
def handed (m:Tb bu) (l:List SV):Option c7:=je m (reach m 32 (SV.qm l) [])
mutual
def SV.bare:SV->Bool
 | .v x=>x.scalar
 | .clo _ a b=>SV.vM a&&SV.vM b
 | .tup l=>SV.vM l
 | .agg l=>SV.vM l
 | _=>true
def SV.vM:List SV->Bool
 | []=>true
 | x::r=>SV.bare x&&SV.vM r
end
def bu.bare:bu->Bool
 | .box cs=>SV.vM cs
 | _=>false
def wI (m:Tb bu) (k:Nat):Bool:=match a_ m k with
 | some ob=>ob.bare
 | none=>true
def within (B:List Nat) (ob:bu):Bool:=ob.AF.all B.contains
def xN (B:List Nat) (m':c7):List Nat->Tb bu->Option (Tb bu)
 | [],m=>some m
 | d::r,m=>match a_ m' d with
  | some ob=>if within B ob then xN B m' r (bH m d ob)else none
  | none=>none
def jM (m':c7) (l:List Nat) (m:Tb bu):Option (Tb bu):=xN l m' l m
def kE (xs:List (List V)):Bool:=xs.all λx=>x.all V.scalar
def A4 (q:Dl) (dst:Option Nat) (args:List SV) (st:St):Option (SV×St):=
 match args with
 | .own d::z=>match a_ st.m d,cZ z with
  | some (.sl k es u),some A=>match q.go es u A with
   | some w=>if q.part then match dst with
    | some t=>if St.new { st with m:=dO d st.m } t then some (.own t,{ st with m:=bH (dO d st.m) t (if cC k then .sl .part es w else .sl k es u) })else none
    | none=>none
    else some (.v .undef,{ st with m:=bH st.m d (if cC k then .sl k es w else .sl k es u) })
   | none=>none
  | _,_=>none
 | _=>none
def rowsOf:List SV->Option (List Nat)
 | []=>some []
 | .v _::r=>rowsOf r
 | .own d::r=>(rowsOf r).map (d::·)
 | _=>none
def eB (S:Sys) (c:bS) (dst:Option Nat) (dr now:Bool) (old:List SV->Bool) (f:FuncId) (args:List SV) (st:St):Option (SV×St):=
 if S.E.keep f then
  if now then
   if S.E.own f then
    match cQ st.m 8 args with
    | some az=>
     match c f (az.map .v) []with
     | some (rs,m')=>match cZ rs with
      | some u=>if(result u).scalar then some (.v (result u),st)else none
      | none=>match rs,dst with
       | .own e::rest,some t=>match a_ m' e,cZ rest with
        | some (.sl .row es z),some u=>
         if V.cG u&&kE z&&st.new t then
          some (zO (.own t::u.map .v),{ st with m:=bH st.m t (.sl .row es z) })
         else none
        | some (.sl .nil es _),some u=>if V.cG u&&st.new t then some (zO (.own t::u.map .v),{ st with m:=bH st.m t (.sl .nil es []) })else none
        | some (.sl .emp es _),some u=>if V.cG u&&st.new t then some (zO (.own t::u.map .v),{ st with m:=bH st.m t (.sl .emp es []) })else none
        | _,_=>none
       | _,_=>none
     | none=>none
    | none=>none
   else match S.prm f with
    | some q=>if dr then none else A4 q dst args st
    | none=>match handed st.m args with
    | some os=>match c f args os with
     | some (rs,m')=>match cZ rs,jM m' (os.map (·.1)) st.m with
      | some u,some w=>if dr && !(V.cG u&&os.all λx=>wI w x.1)then none else some (.v (result u),{ st with m:=w })
      | none,some w=>if dr then none else match rs,dst with
       | .own e::rest,some t=>match a_ m' e,cZ rest with
        | some (.sl k es z),some u=>if !(os.map (·.1)).contains e&&St.new { st with m:=w } t then some (zO (.own t::u.map .v),{ st with m:=bH w t (.sl k es z) })else none
        | _,_=>none
       | _,_=>none
      | _,_=>none
     | none=>none
    | none=>none
  else none
 else match cQ st.m 8 args with
  | some az=>if now||old args then
   match c f (az.map .v) []with
   | some (rs,m')=>match cQ m' 8 rs with
    | some u=>if(result u).scalar||(cZ args).isSome then some (.v (result u),st)
     else if now then(rowsOf args).map λds=>(.v (result u),{ st with m:=oe ds st.m })
     else none
    | none=>none
   | none=>none
   else none
  | none=>none
def eN (m:Tb bu) (fr:List Nat) (args:List SV):Bool:=fr.all λd => !(SV.di d args) && !(q9 d m)
def zY:K->Bool
 | .p (.build zero _)=>V.cD zero
 | .r (.lookup _ z _)=>z.good
 | .a (.alloc _ zero)=>V.cD zero&&zero.all V.one
 | .a (.makeSl _ zero)=>V.cD zero
 | .a (.buildSl _ _ zero _)=>V.cD zero
 | _=>true
def lH (S:Sys) (c:bS) (dr:Bool) (fr:List Nat) (o:RO) (st:St):Option (SV×St):=
 match bP S.N st.g o.az with
 | some u=>match o.k with
  | .p (.slice size lo hi)=>match u with
   | .own d::z=>if dr then none else zk st o.dst size lo hi d z
   | u=>(iW S.N st.m (.slice size lo hi) u).map λx=>(x,st)
  | .p p=>(iW S.N st.m p u).map λx=>(x,st)
  | .r r=>if !dr||o.now||eO fr u then(nZ st.m r u).map λx=>(x,st)else none
  | .a a=>match o.dst with
   | some d=>if st.new d then(oC st.m a u d).map λ(ob,x)=>(x,{ st with m:=bH st.m d ob })else none
   | none=>none
  | .l l=>if !dr||o.now then lC st o.dst l u else none
  | .c=>match u with
   | .clo f a b::w=>eB S c o.dst dr (!dr||o.now) (eN st.m fr) f (a++w++b) st
   | .v (.clo f a b)::w=>eB S c o.dst dr (!dr||o.now) (eN st.m fr) f (a.map .v++w++b.map .v) st
   | _=>none
  | .b=>if dr then none else match u with
   | [x]=>(jF st.m 1 x).bind λA=>(om A).map λl=>(.v (.str (KE l)),st)
   | _=>none
  | .e n=>match u with
   | [.v .bE,x]=>lC st o.dst (.append n) [.v .bE,x]
   | [.v .dm,x]=>lC st o.dst (.append n) [.v .dm,x]
   | _=>none
 | none=>none
def cT (st:St) (dst:Option Nat) (x:SV):St:=
 match dst with
 | none=>st
 | some d=>{ st with g:=bH st.g d x }
def wanted (g:Tb SV):Option (Nat×Bool)->Option Bool
 | none=>some true
 | some (s,b)=>match a_ g s with
  | some (.v (.bool c))=>some (c==b)
  | some (.v _)=>some false
  | _=>none
def yb (o:RO):Option Nat:=
 match o.k with
 | .p _|.r _=>none
 | _=>o.dst
def pO (fr:List Nat) (o:RO):List Nat:=
 match yb o with
 | some d=>d::fr
 | none=>fr
end Go.VE
namespace Go.VE
variable [bN]
def bl (H:bf) (id:Nat):Option (Nat×List (List V)):=(H[id]?).bind Ob.rows
mutual
theorem V.kR:∀{x:V},x.good=true->x.closed=true
 | .hsl ..,h|.hptr ..,h|.yld _,h|.hmap _,h=>by simp[V.good]at h
 | .fsl ..,_|.fptr ..,_|.fmap ..,_=>rfl
 | .bool _,_|.int ..,_|.str _,_|.dm,_|.bE,_|.gF,_|.fR,_|.qJ,_=>rfl
 | .clo _ a b,h=>by
  simp only[V.good,ζh]at h;simp only[V.closed,ζh];exact⟨V.mL h.1,V.mL h.2⟩
 | .agg cs,h=>by simp only[V.good]at h;simp only[V.closed];exact V.mL h
 | .tup cs,h=>by simp only[V.good]at h;simp only[V.closed];exact V.mL h
theorem V.mL:∀{l:List V},V.cD l=true->V.j9 l=true
 | [],_=>rfl
 | x::r,h=>by
  simp only[V.cD,ζh]at h;simp only[V.j9,ζh];exact⟨V.kR h.1,V.mL h.2⟩
end
theorem gM:∀{l:List V},V.cD l=true↔∀(j:Nat) u,l[j]? = some u->u.good=true
 | []=>by simp[V.cD]
 | x::l=>by
  simp[V.cD,gM ];constructor
  .grind
  .intro h;exact⟨h 0 x rfl,λj u hu=>h (j+1) u (by grind)⟩
theorem kH:∀{l:List (List V)},V.lY l=true↔∀(j:Nat) u,l[j]? = some u->V.cD u=true
 | []=>by simp[V.lY]
 | x::l=>by
  simp[V.lY,kH ];constructor
  .grind
  .intro h;exact⟨h 0 x rfl,λj u hu=>h (j+1) u (by grind)⟩
theorem Dy:∀{l:List (V×V)},V.ri l=true↔∀(j:Nat) u,l[j]? = some u->u.1.good=true/\u.2.good=true
 | []=>by simp[V.ri]
 | (k,x)::l=>by
  simp only[V.ri,ζh,Dy ];constructor
  .grind
  .intro h;exact⟨h 0 (k,x) rfl,λj u hu=>h (j+1) u (by grind)⟩
theorem xP {l:List V} (n:Nat) (h:V.cD l=true):V.cD (l.drop n)=true:=
 gM.2 λj u hu=>gM.1 h (n+j) u (by grind)
inductive FR (H:bf) (Z:Nat->Prop):V->V->Prop
 | same (x:V) (h:x.good=true):FR H Z x x
 | fsl (es:Nat) (xs:List (List V)) (id off:Nat) (ys:List (List V)) (hz:Z id) (hr:bl H id=some (es,ys)) (hl:off+xs.length<=ys.length)
  (hc:∀(i:Nat) a b,xs[i]? = some a->ys[off+i]? = some b->a.length=b.length)
  (hv:∀(i j:Nat) a b u v,xs[i]? = some a->ys[off+i]? = some b->a[j]? = some u->b[j]? = some v->FR H Z u v):FR H Z (.fsl es xs) (.hsl id es off xs.length)
 | fptr (xs:List V) (id el off es:Nat) (ys:List (List V)) (cs:List V) (hz:Z id) (hr:bl H id=some (es,ys)) (he:ys[el]? = some cs) (ho:off<=cs.length) (hx:xs.length=cs.length-off)
  (hv:∀(j:Nat) u v,xs[j]? = some u->cs[off+j]? = some v->FR H Z u v):FR H Z (.fptr xs) (.hptr id el off)
 | clo (f:FuncId) (a b a' b':List V) (ha:a.length=a'.length) (hb:b.length=b'.length) (hva:∀(j:Nat) u v,a[j]? = some u->a'[j]? = some v->FR H Z u v) (hvb:∀(j:Nat) u v,b[j]? = some u->b'[j]? = some v->FR H Z u v):FR H Z (.clo f a b) (.clo f a' b')
 | agg (a a':List V) (ha:a.length=a'.length) (hva:∀(j:Nat) u v,a[j]? = some u->a'[j]? = some v->FR H Z u v):FR H Z (.agg a) (.agg a')
 | tup (a a':List V) (ha:a.length=a'.length) (hva:∀(j:Nat) u v,a[j]? = some u->a'[j]? = some v->FR H Z u v):FR H Z (.tup a) (.tup a')
def cW (H:bf) (Z:Nat->Prop) (xs ys:List V):Prop:=xs.length=ys.length/\∀(j:Nat) u v,xs[j]? = some u->ys[j]? = some v->FR H Z u v
def fH (H:bf) (Z:Nat->Prop) (xs ys:List (List V)):Prop:=xs.length=ys.length/\∀(j:Nat) u v,xs[j]? = some u->ys[j]? = some v->cW H Z u v
section
variable {H H':bf} {Z Z':Nat->Prop}
theorem FR.mono (h:∀id,Z id->Z' id/\bl H' id=bl H id) {x y:V} (r:FR H Z x y):FR H' Z' x y:=by
 induction r with
 | same x h=>exact .same x h
 | fsl es A id off B C hr I hc hv D=>exact .fsl es A id off B (h id C).1 (by grind) I hc D
 | fptr A id el off es B cs C hr J L O hv D=>exact .fptr A id el off es B cs (h id C).1 (by grind) J L O D
 | clo f a b w Q z S hva T u G=>exact .clo f a b w Q z S u G
 | agg a w z hva u=>exact .agg a w z u
 | tup a w z hva u=>exact .tup a w z u
theorem cW.mono (h:∀id,Z id->Z' id/\bl H' id=bl H id) {x y:List V} (r:cW H Z x y):cW H' Z' x y:=⟨r.1,λj u v a b=>(r.2 j u v a b).mono h⟩
theorem fH.mono (h:∀id,Z id->Z' id/\bl H' id=bl H id) {x y:List (List V)} (r:fH H Z x y):fH H' Z' x y:=⟨r.1,λj u v a b=>(r.2 j u v a b).mono h⟩
theorem cW.nil:cW H Z [] []:=⟨rfl,by simp⟩
theorem cW.cons {x y:V} {xs ys:List V} (h:FR H Z x y) (r:cW H Z xs ys):cW H Z (x::xs) (y::ys):=by
 refine⟨by simp[r.1],λj u v hu hv=>?_⟩
 cases j with
 | zero=>grind
 | succ j=>exact r.2 j u v (by grind) (by grind)
theorem cW.inv {x:V} {xs B:List V} (r:cW H Z (x::xs) B):∃y ys,B=y::ys/\FR H Z x y/\cW H Z xs ys:=by
 cases B with
 | nil=>have:=r.1;grind
 | cons y ys=>
  refine⟨y,ys,rfl,r.2 0 x y rfl rfl,by have:=r.1;grind,λj u v hu hv=>r.2 (j+1) u v (by grind) (by grind)⟩
theorem cW.cO {B:List V} (r:cW H Z [] B):B=[]:=by
 have:=r.1
 grind
theorem cW.get {xs ys:List V} (r:cW H Z xs ys) {j:Nat} {u:V} (h:xs[j]? = some u):∃v,ys[j]? = some v/\FR H Z u v:=by
 have w  := (ζe.1 h).1;have:j<ys.length:=by rw[<-r.1];omega
 exact⟨ys[j],ζd this,r.2 j u _ h (ζd this)⟩
theorem fH.get {xs ys:List (List V)} (r:fH H Z xs ys) {j:Nat} {u:List V} (h:xs[j]? = some u):∃v,ys[j]? = some v/\cW H Z u v:=by
 have w  := (ζe.1 h).1;have:j<ys.length:=by rw[<-r.1];omega
 exact⟨ys[j],ζd this,r.2 j u _ h (ζd this)⟩
theorem cW.append {a b c d:List V} (h:cW H Z a b) (k:cW H Z c d):cW H Z (a++c) (b++d):=by
 refine⟨by simp[h.1,k.1],λj u v hu hv=>?_⟩
 by_cases w:j<a.length
 .rw[List.getElem?_append_left w]at hu;rw[List.getElem?_append_left (by rw[<-h.1];omega)]at hv
  exact h.2 j u v hu hv
 .rw[List.getElem?_append_right (by omega)]at hu
  rw[List.getElem?_append_right (by rw[<-h.1];omega),<-h.1]at hv
  exact k.2 _ u v hu hv
theorem fH.append {a b c d:List (List V)} (h:fH H Z a b) (k:fH H Z c d):fH H Z (a++c) (b++d):=by
 refine⟨by simp[h.1,k.1],λj u v hu hv=>?_⟩
 by_cases w:j<a.length
 .rw[List.getElem?_append_left w]at hu;rw[List.getElem?_append_left (by rw[<-h.1];omega)]at hv
  exact h.2 j u v hu hv
 .rw[List.getElem?_append_right (by omega)]at hu
  rw[List.getElem?_append_right (by rw[<-h.1];omega),<-h.1]at hv
  exact k.2 _ u v hu hv
theorem cW.take {a b:List V} (h:cW H Z a b) (n:Nat):cW H Z (a.take n) (b.take n):=by
 refine⟨by simp[h.1],λj u v hu hv=>?_⟩
 rw[List.getElem?_take]at hu hv;split at hu
 .rename_i w;rw[if_pos w]at hv;exact h.2 j u v hu hv
 grind
theorem cW.drop {a b:List V} (h:cW H Z a b) (n:Nat):cW H Z (a.drop n) (b.drop n):=by
 refine⟨by simp[h.1],λj u v hu hv=>?_⟩
 rw[List.getElem?_drop]at hu hv;exact h.2 _ u v hu hv
theorem fH.take {a b:List (List V)} (h:fH H Z a b) (n:Nat):fH H Z (a.take n) (b.take n):=by
 refine⟨by simp[h.1],λj u v hu hv=>?_⟩
 rw[List.getElem?_take]at hu hv;split at hu
 .rename_i w;rw[if_pos w]at hv;exact h.2 j u v hu hv
 grind
theorem fH.drop {a b:List (List V)} (h:fH H Z a b) (n:Nat):fH H Z (a.drop n) (b.drop n):=by
 refine⟨by simp[h.1],λj u v hu hv=>?_⟩
 rw[List.getElem?_drop]at hu hv;exact h.2 _ u v hu hv
theorem cW.set {a b:List V} (h:cW H Z a b) (n:Nat) {x y:V} (B:FR H Z x y):cW H Z (a.set n x) (b.set n y):=by
 refine⟨by simp[h.1],λj u v hu hv=>?_⟩
 rw[List.getElem?_set]at hu hv;split at hu
 .grind
 .rename_i e;rw[if_neg e]at hv;exact h.2 j u v hu hv
theorem fH.set {a b:List (List V)} (h:fH H Z a b) (n:Nat) {x y:List V} (B:cW H Z x y):fH H Z (a.set n x) (b.set n y):=by
 refine⟨by simp[h.1],λj u v hu hv=>?_⟩
 rw[List.getElem?_set]at hu hv;split at hu
 .grind
 .rename_i e;rw[if_neg e]at hv;exact h.2 j u v hu hv
theorem cW.same {l:List V} (h:V.cD l=true):cW H Z l l:=
 ⟨rfl,λj u v hu hv=>by rw[hu]at hv;cases hv;exact .same u (gM.1 h j u hu)⟩
theorem FR.good {x y:V} (r:FR H Z x y):x.good=true:=by
 induction r with
 | same x h=>omega
 | fsl es B id off C D hr L hc hv G=>
  refine kH.2 λi a z=>gM.2 λj u hu=>?_
  grind
 | fptr B id el off es C cs D hr O Q S hv G=>
  refine gM.2 λj u hu=>?_
  grind
 | clo f a b A T z U hva I w J=>
  simp[V.good];refine⟨gM.2 λj u hu=>?_,gM.2 λj u hu=>?_⟩
  .grind
  grind
 | agg a A z hva w=>
  refine gM.2 λj u hu=>?_
  grind
 | tup a A z hva w=>
  simp[V.good];refine gM.2 λj u hu=>?_
  grind
theorem FR.closed {x y:V} (r:FR H Z x y):x.closed=true:=V.kR r.good
theorem cW.good {xs ys:List V} (r:cW H Z xs ys):V.cD xs=true:=
 gM.2 λj u hu=>by obtain⟨v,_,h⟩:=r.get hu;exact h.good
theorem fH.good {xs ys:List (List V)} (r:fH H Z xs ys):V.lY xs=true:=
 kH.2 λj u hu=>by obtain⟨v,_,h⟩:=r.get hu;exact h.good
theorem FR.bool {b:Bool} {y:V} (r:FR H Z (.bool b) y):y=.bool b:=by cases r;rfl
theorem FR.int {k:IntKind} {n:Int} {y:V} (r:FR H Z (.int k n) y):y=.int k n:=by cases r;rfl
theorem FR.str {s:ByteArray} {y:V} (r:FR H Z (.str s) y):y=.str s:=by cases r;rfl
theorem FR.dm {y:V} (r:FR H Z .dm y):y=.dm:=by cases r;rfl
theorem FR.bE {y:V} (r:FR H Z .bE y):y=.bE:=by cases r;rfl
theorem FR.gF {y:V} (r:FR H Z .gF y):y=.gF:=by cases r;rfl
theorem FR.fR {y:V} (r:FR H Z .fR y):y=.fR:=by cases r;rfl
theorem FR.qJ {y:V} (r:FR H Z .qJ y):y=.qJ:=by cases r;rfl
theorem FR.fmap {B:List (V×V)} {y:V} (r:FR H Z (.fmap B) y):y=.fmap B:=by cases r;rfl
theorem FR.gT {a:List V} {y:V} (r:FR H Z (.agg a) y):∃a',y=.agg a'/\cW H Z a a':=by
 cases r with
 | same _ h=>exact⟨a,rfl,.same (by simpa [V.good]using h)⟩
 | agg _ a' u hva=>exact⟨a',rfl,u,hva⟩
theorem FR.oR {a:List V} {y:V} (r:FR H Z (.tup a) y):∃a',y=.tup a'/\cW H Z a a':=by
 cases r with
 | same _ h=>exact⟨a,rfl,.same (by simpa [V.good]using h)⟩
 | tup _ a' u hva=>exact⟨a',rfl,u,hva⟩
theorem FR.jv {f:FuncId} {a b:List V} {y:V} (r:FR H Z (.clo f a b) y):∃a' B,y=.clo f a' B/\cW H Z a a'/\cW H Z b B:=by
 cases r with
 | same _ h=>
  simp[V.good]at h;exact⟨a,b,rfl,.same h.1,.same h.2⟩
 | clo _ _ _ a' B w z hva u=>exact⟨a',B,rfl,⟨w,hva⟩,⟨z,u⟩⟩
theorem FR.kY {es:Nat} {xs:List (List V)} {y:V} (r:FR H Z (.fsl es xs) y):y=.fsl es xs \/
 ∃id off ys,y=.hsl id es off xs.length/\Z id/\bl H id=some (es,ys)/\off+xs.length<=ys.length/\fH H Z xs ((ys.drop off).take xs.length):=by
 cases r with
 | same _ h=>grind
 | fsl _ _ id off ys z hr A hc hv=>
  refine .inr ⟨id,off,ys,rfl,z,hr,A,by simp;omega,λj u v hu w=>?_⟩
  have B  := (ζe.1 hu).1;rw[List.getElem?_take,if_pos B,List.getElem?_drop]at w;exact⟨hc j u v hu w,λi s t C D=>hv j i u v s t hu w C D⟩
theorem FR.Ji {es:Nat} {xs:List (List V)} {id off:Nat} {ys:List (List V)} (B:Z id) (hr:bl H id=some (es,ys)) (D:off+xs.length<=ys.length) (h:fH H Z xs ((ys.drop off).take xs.length)) :
 FR H Z (.fsl es xs) (.hsl id es off xs.length):=by
 have key:∀(i:Nat) a b,xs[i]? = some a->ys[off+i]? = some b->cW H Z a b:=λi a b w z=>by
  refine h.2 i a b w ?_
  grind
 exact .fsl es xs id off ys B hr D (λi a b w z=>(key i a b w z).1) (λi j a b u v w z hu hv=>(key i a b w z).2 j u v hu hv)
theorem FR.k_ {xs:List V} {y:V} (r:FR H Z (.fptr xs) y):y=.fptr xs \/
 ∃id el off es ys cs,y=.hptr id el off/\Z id/\bl H id=some (es,ys)/\ys[el]? = some cs/\off<=cs.length/\cW H Z xs (cs.drop off):=by
 cases r with
 | same _ h=>grind
 | fptr _ id el off es ys cs w hr z A C hv=>
  refine .inr ⟨id,el,off,es,ys,cs,rfl,w,hr,z,A,by simp_all,λj u v hu B=>?_⟩
  grind
theorem FR.BS {xs:List V} {id el off es:Nat} {ys:List (List V)} {cs:List V} (B:Z id) (hr:bl H id=some (es,ys)) (D:ys[el]? = some cs) (G:off<=cs.length) (h:cW H Z xs (cs.drop off)):FR H Z (.fptr xs) (.hptr id el off):=
 .fptr xs id el off es ys cs B hr D G (by have:=h.1;grind) (λj u v hu hv=>h.2 j u v hu (by grind))
theorem FR.cells {x y:V} (r:FR H Z x y):cW H Z x.cells y.cells:=by
 have one:∀{a b:V},FR H Z a b->cW H Z [a] [b]:=λh=>.cons h .nil
 cases r with
 | same _ h=>cases x <;> first|exact one (.same _ h)|(exact cW.same h)
 | fsl es z id off A B hr D hc hv=>exact one (.fsl es z id off A B hr D hc hv)
 | fptr z id el off es A cs B hr G I J hv=>exact one (.fptr z id el off es A cs B hr G I J hv)
 | clo f a b w L u O hva C=>exact one (.clo f a b w L u O hva C)
 | agg a w u hva=>exact⟨u,hva⟩
 | tup a w u hva=>exact one (.tup a w u hva)
theorem FR.one {x y:V} (r:FR H Z x y):y.one=x.one:=by cases r <;> rfl
theorem cW.one:∀{xs ys:List V},cW H Z xs ys->ys.all V.one=xs.all V.one
 | [],ys,r=>by rw[r.cO]
 | x::xs,D,r=>by
  obtain⟨y,ys,rfl,h,B⟩:=r.inv;simp[h.one,B.one]
theorem pS:∀{l:List V},V.cG l=true↔∀(j:Nat) u,l[j]? = some u->u.scalar=true
 | []=>by simp[V.cG]
 | x::l=>by
  simp[V.cG,pS ];constructor
  .grind
  .intro h;exact⟨h 0 x rfl,λj u hu=>h (j+1) u (by grind)⟩
theorem FR.scalar {x y:V} (r:FR H Z x y):(x.scalar=true->y=x)/\y.scalar=x.scalar:=by
 have key:∀(a w:List V),a.length=w.length->(∀(j:Nat) u v,a[j]? = some u->w[j]? = some v->(u.scalar=true->v=u)/\v.scalar=u.scalar)->(V.cG a=true->w=a)/\V.cG w=V.cG a:=by
  intro a w A D;have h1:V.cG a=true->w=a:=by
   intro G;refine(List.ext_getElem A λj h1 B=>?_).symm
   exact(((D j _ _ (ζd h1) (ζd B)).1 (pS.1 G j _ (ζd h1)))).symm
  refine⟨h1,?_⟩
  cases G:V.cG a with
  | true=>grind
  | false=>
   cases C:V.cG w with
   | false=>rfl
   | true=>
    have:V.cG a=true:=pS.2 λj u hu=>by
     have I:j<w.length:=by grind
     have:=(D j u _ hu (ζd I)).2;rw[<-this];exact pS.1 C j _ (ζd I)
    grind
 induction r with
 | same x h=>grind
 | fsl=>exact⟨λh=>by simp[V.scalar]at h,rfl⟩
 | fptr=>exact⟨λh=>by simp[V.scalar]at h,rfl⟩
 | clo=>exact⟨λh=>by simp[V.scalar]at h,rfl⟩
 | agg a w A hva z=>
  obtain⟨h1,B⟩:=key a w A z;exact⟨λh=>by rw[h1 (by simpa [V.scalar]using h)],by simpa [V.scalar]using B⟩
 | tup a w A hva z=>
  obtain⟨h1,B⟩:=key a w A z;exact⟨λh=>by rw[h1 (by simpa [V.scalar]using h)],by simpa [V.scalar]using B⟩
theorem cW.scalar {a a':List V} (r:cW H Z a a'):(V.cG a=true->a'=a)/\V.cG a'=V.cG a:=by
 obtain⟨h1,u⟩:=FR.scalar (.tup a a' r.1 r.2);simp[V.scalar]at h1 u
 grind
theorem qe:∀{l:List V} {a:List Int},gJ l=some a->V.cG l=true
 | [],_,_=>rfl
 | x::l,a,h=>by
  unfold gJ at h;split at h
  .grind
  .rename_i n r e;cases e;obtain⟨b,B,_⟩:=ζf.1 h;simp[V.cG,V.scalar];exact qe B
  grind
end
end Go.VE
namespace Go.VE
variable [bN]
mutual
theorem jR:∀{x:V},x.scalar=true->x.good=true
 | .bool _,_|.int ..,_|.str _,_|.gF,_|.fR,_|.qJ,_|.dm,_|.bE,_=>rfl
 | .agg cs,h=>by simp only[V.scalar]at h;simp only[V.good];exact oP h
 | .tup cs,h=>by simp only[V.scalar]at h;simp only[V.good];exact oP h
 | .fsl ..,h|.hsl ..,h|.fptr ..,h|.hptr ..,h|.clo ..,h|.yld _,h|.fmap _,h|.hmap _,h=>by simp[V.scalar]at h
theorem oP:∀{l:List V},V.cG l=true->V.cD l=true
 | [],_=>rfl
 | x::r,h=>by
  simp only[V.cG,ζh]at h;simp only[V.cD,ζh];exact⟨jR h.1,oP h.2⟩
end
section
variable {H H':bf} {Z Z':Nat->Prop}
theorem jL {f:V->Option V}:∀{xs ys:List V},xs.length=ys.length->(∀(j:Nat) u v,xs[j]? = some u->ys[j]? = some v->f v=some u)->gV f ys=some xs
 | [],[],_,_=>rfl
 | [],y::ys,h,_=>by simp_all
 | x::xs,[],h,_=>by simp_all
 | x::xs,y::ys,h,B=>by
  simp[gV,B 0 x y rfl rfl,jL (xs:=xs) (ys:=ys) (by grind) λj u v hu hv=>B (j+1) u v (by grind) (by grind)]
theorem Fs {f:V->Option V}:∀{xs ys:List (List V)},xs.length=ys.length->(∀(j:Nat) u v,xs[j]? = some u->ys[j]? = some v->gV f v=some u)->kJ f ys=some xs
 | [],[],_,_=>rfl
 | [],y::ys,h,_=>by simp_all
 | x::xs,[],h,_=>by simp_all
 | x::xs,y::ys,h,B=>by
  simp[kJ,B 0 x y rfl rfl,Fs (xs:=xs) (ys:=ys) (by grind) λj u v hu hv=>B (j+1) u v (by grind) (by grind)]
theorem nL:∀{l:List V},V.j9 l=true↔∀(j:Nat) u,l[j]? = some u->u.closed=true
 | []=>by simp[V.j9]
 | x::l=>by
  simp[V.j9,nL ];constructor
  .grind
  .intro h;exact⟨h 0 x rfl,λj u hu=>h (j+1) u (by grind)⟩
theorem lz:∀{l:List V} {n:Nat},V.kr n l=true↔∀(j:Nat) u,l[j]? = some u->u.lvl n=true
 | [],n=>by simp[V.kr]
 | x::l,n=>by
  simp[V.kr,lz ];constructor
  .grind
  .intro h;exact⟨h 0 x rfl,λj u hu=>h (j+1) u (by grind)⟩
theorem Dt:∀{l:List (List V)} {n:Nat},V.n5 n l=true↔∀(j:Nat) u,l[j]? = some u->V.kr n u=true
 | [],n=>by simp[V.n5]
 | x::l,n=>by
  simp[V.n5,Dt ];constructor
  .grind
  .intro h;exact⟨h 0 x rfl,λj u hu=>h (j+1) u (by grind)⟩
theorem dU (n:Nat) (H:bf) {x:V} (h:x.closed=true):borrow n H x=some x:=jy n H h
theorem FR.borrow {x y:V} (r:FR H Z x y):∀n,x.lvl n=true->borrow n H y=some x:=by
 induction r with
 | same x h=>exact λn _=>dU n H (V.kR h)
 | fsl es I id off T U hr W hc hv J=>
  intro n z
  cases n with
  | zero=>simp[V.lvl]at z
  | succ n=>
   unfold Go.VE.borrow;unfold bl at hr;simp only[V.closed,Bool.false_eq_true,if_false,hr,true_and,if_pos W,ζf];refine⟨I,Fs (by simp;omega) λj u v hu A=>?_,rfl⟩
   have X  := (ζe.1 hu).1;rw[List.getElem?_take,if_pos X,List.getElem?_drop]at A;refine jL (hc j u v hu A) λi s t O Y=>J j i u v s t hu A O Y n (lz.1 (Dt.1 z j u hu) i s O)
 | fptr I id el off es T cs U hr he ho hx hv J=>
  intro n z
  cases n with
  | zero=>simp[V.lvl]at z
  | succ n=>
   unfold Go.VE.borrow;unfold bl at hr;simp only[V.closed,Bool.false_eq_true,if_false,hr,he,if_pos ho,ζf];refine⟨I,jL (by simp_all) λj u v hu A=>?_,rfl⟩
   rw[List.getElem?_drop]at A;exact J j u v hu A n (lz.1 z j u hu)
 | clo f a b C Q D S hva aa B G=>
  intro n z
  cases n with
  | zero=>simp[V.lvl]at z
  | succ n=>
   simp[V.lvl]at z
   by_cases w:(V.clo f C Q).closed=true
   .rw[dU _ _ w];simp[V.closed]at w;have e1:C=a:=by
     have:=jL  D λj u v hu hv=>B j u v hu hv n (lz.1 z.1 j u hu)
     have L:=jL    rfl λj u v hu hv=>by rw[hu]at hv;cases hv;exact dU n H (nL.1 w.1 j u hu)
     grind
    have e2:Q=b:=by
     have:=jL  S λj u v hu hv=>G j u v hu hv n (lz.1 z.2 j u hu)
     have L:=jL    rfl λj u v hu hv=>by rw[hu]at hv;cases hv;exact dU n H (nL.1 w.2 j u hu)
     grind
    simp_all
   .unfold Go.VE.borrow;rw[if_neg w];simp[jL  D λj u v hu hv=>B j u v hu hv n (lz.1 z.1 j u hu),jL  S λj u v hu hv=>G j u v hu hv n (lz.1 z.2 j u hu)]
 | agg a C D hva B=>
  intro n z
  cases n with
  | zero=>simp[V.lvl]at z
  | succ n=>
   have hm:=jL  D λj u v hu hv=>B j u v hu hv n (lz.1 z j u hu)
   by_cases w:(V.agg C).closed=true
   .rw[dU _ _ w];have L:=jL    rfl λj u v hu hv=>by rw[hu]at hv;cases hv;exact dU n H (nL.1 w j u hu)
    grind
   .unfold Go.VE.borrow
    grind
 | tup a C D hva B=>
  intro n z
  cases n with
  | zero=>simp[V.lvl]at z
  | succ n=>
   have hm:=jL  D λj u v hu hv=>B j u v hu hv n (lz.1 z j u hu)
   by_cases w:(V.tup C).closed=true
   .rw[dU _ _ w];have L:=jL    rfl λj u v hu hv=>by rw[hu]at hv;cases hv;exact dU n H (nL.1 w j u hu)
    grind
   .unfold Go.VE.borrow
    grind
theorem ox {f:V->List Nat} {k:Nat}:∀{l:List V},k∈cI f l->∃(j:Nat) (u:V),l[j]? = some u/\k∈f u
 | [],h=>by simp[cI]at h
 | x::l,h=>by
  simp[cI]at h;rcases h with h|h
  .exact⟨0,x,rfl,h⟩
  .obtain⟨j,u,hu,hk⟩:=ox h;exact⟨j+1,u,by grind,hk⟩
structure Deep (H:bf) (Z:Nat->Prop):Prop where
 row:∀id es ys,Z id->bl H id=some (es,ys)->∀c∈ys,∀u∈c,∃x,FR H Z x u
theorem FR.bW (hd:Deep H Z):∀(n:Nat) {x y:V},FR H Z x y->∀k∈bW n H y,Z k
 | 0,x,y,r,k,hk=>by simp[Go.VE.bW]at hk
 | n+1,x,y,r,k,hk=>by
  unfold Go.VE.bW at hk;split at hk
  .simp_all
  .rename_i G;have D:∀(a a':List V),cW H Z a a'->k∈cI (Go.VE.bW n H) a'->Z k:=λa a' h hk=>by
    obtain⟨j,u,hu,z⟩:=ox hk;have Q:j<a.length:=by rw[h.1];grind
    exact FR.bW hd n (h.2 j _ u (ζd Q) hu) k z
   have row:∀(id:Nat) es w (l:List V),Z id->bl H id=some (es,w)->(∀u∈l,∃c∈w,u∈c)->k∈cI (Go.VE.bW n H) l->Z k:=λid es w l A hr J hk=>by
    obtain⟨j,u,hu,z⟩:=ox hk;obtain⟨c,hc,B⟩:=J u (List.mem_of_getElem? hu);obtain⟨x,L⟩:=hd.row id es w A hr c hc u B;exact FR.bW hd n L k z
   cases r with
   | same _ h=>exact absurd (V.kR h) G
   | fsl es S id off w A hr J hc hv=>
    simp only[List.mem_cons]at hk;rcases hk with rfl|hk
    .exact A
    rw[show (H[id]?).bind Ob.rows=some (es,w)from hr]at hk;exact row id es w _ A hr (λu hu=>by obtain⟨c,hc,B⟩:=List.mem_flatten.1 hu;exact⟨c,List.mem_of_mem_drop (List.mem_of_mem_take hc),B⟩) hk
   | fptr S id el off es w cs A hr O W L hv=>
    simp only[List.mem_cons]at hk;rcases hk with rfl|hk
    .exact A
    rw[show (H[id]?).bind Ob.rows=some (es,w)from hr]at hk;simp only[O,Option.getD_some]at hk;exact row id es w _ A hr (λu hu=>⟨cs,List.mem_of_getElem? O,List.mem_of_mem_drop hu⟩) hk
   | clo f a b a' T C U hva I=>
    simp  at hk;rcases hk with hk|hk
    .exact D a a' ⟨C,hva⟩ hk
    .exact D b T ⟨U,I⟩ hk
   | agg a a' C hva=>exact D a a' ⟨C,hva⟩ hk
   | tup a a' C hva=>exact D a a' ⟨C,hva⟩ hk
theorem cW.cut {cs ys r:List V} {off n:Nat} (h:cW H Z cs ys) (hc:cut cs off n=some r):∃B,Go.VE.cut ys off n=some B/\cW H Z r B:=by
 unfold Go.VE.cut at hc ⊢;have u:=(h.drop off).take n;dsimp only at hc ⊢;split at hc
 .simp  at hc;subst hc;exact⟨_,by rw[if_pos (by rw[<-u.1];omega)],u⟩
 grind
theorem cW.mk {agg:Bool} {cs ys:List V} {x:V} (h:cW H Z cs ys) (B:mk agg cs=some x):∃y,Go.VE.mk agg ys=some y/\FR H Z x y:=by
 unfold Go.VE.mk at B ⊢;split at B
 .simp  at B;subst B;exact⟨_,by grind,.agg _ _ h.1 h.2⟩
 .split at B
  .simp  at B;obtain⟨y,ys,rfl,h1,u⟩:=h.inv;rw[u.cO]
   grind
  grind
theorem cW.fill:∀{pl:List (Nat×Nat)} {vs B cells cells' r:List V},cW H Z cells cells'->cW H Z vs B->jS cells pl vs=some r->∃D,jS cells' pl B=some D/\cW H Z r D
 | [],vs,B,cells,cells',r,hc,hv,h=>by
  cases vs with
  | nil=>rw[hv.cO];simp[jS]at h ⊢;grind
  | cons v vs=>simp[jS]at h
 | (off,size)::pl,vs,B,cells,cells',r,hc,hv,h=>by
  cases vs with
  | nil=>simp[jS]at h
  | cons v vs=>
   obtain⟨w,B,rfl,h1,G⟩:=hv.inv;have k:=h1.cells;simp only[jS]at h ⊢;rw[<-k.1,<-hc.1];split at h
   .simp_all
   .rename_i e;rw[if_neg e];exact cW.fill (((hc.take off).append k).append (hc.drop _)) G h
theorem FR.tB {k:KT} {x y G J:V} {b:Bool} (B:FR H Z x G) (D:FR H Z y J) (h:nP k x y=some b):nP k G J=some b:=by
 unfold nP at h;split at h
 .rw[B.bE,D.bE];exact h
 .rw[D.bE];rcases B.kY with rfl|⟨_,_,_,rfl,_⟩ <;> exact h
 .exact absurd B.closed (by simp[V.closed])
 .rw[B.gF,D.gF];exact h
 .rw[D.gF];rcases B.k_ with rfl|⟨_,_,_,_,_,_,rfl,_⟩ <;> exact h
 .exact absurd B.closed (by simp[V.closed])
 .rw[B.fR,D.fR];exact h
 .rw[D.fR,B.fmap];exact h
 .exact absurd B.closed (by simp[V.closed])
 grind
theorem FR.jY {a b a' B:List V} {r:Bool} (D:cW H Z a a') (G:cW H Z b B) (h:jY a b=some r):Go.VE.jY a' B=some r:=by
 unfold Go.VE.jY at h;split at h
 .rename_i u v hu hv;rw[D.scalar.1 (qe hu),G.scalar.1 (qe hv)];unfold Go.VE.jY
  grind
 grind
theorem zg {k:KT} {x y:V} {b:Bool} (h:nP k x y=some b):(y=.bE/\(x=.bE\/(∃es xs,x=.fsl es xs)\/∃id es off len,x=.hsl id es off len)) \/
 (y=.gF/\(x=.gF\/(∃cs,x=.fptr cs)\/∃id el off,x=.hptr id el off))\/(y=.fR/\(x=.fR\/(∃B,x=.fmap B)\/∃id,x=.hmap id)):=by
 unfold nP at h
 grind
theorem GV {k:Option KT} {e:Option Nat} {op:BinOp} {x y:V} (D:(y=.bE/\(x=.bE\/(∃es xs,x=.fsl es xs)\/∃id es off len,x=.hsl id es off len)) \/
 (y=.gF/\(x=.gF\/(∃cs,x=.fptr cs)\/∃id el off,x=.hptr id el off))\/(y=.fR/\(x=.fR\/(∃B,x=.fmap B)\/∃id,x=.hmap id))) :
 iE k e op x y=(match k,op with
 | some k,.eql=>(nP k x y).map .bool
 | some k,.neq=>(nP k x y).map λt=>.bool !t
 | _,_=>none):=by
 rcases D with⟨rfl,rfl|⟨_,_,rfl⟩|⟨_,_,_,_,rfl⟩⟩|⟨rfl,rfl|⟨_,rfl⟩|⟨_,_,_,rfl⟩⟩|⟨rfl,rfl|⟨_,rfl⟩|⟨_,rfl⟩⟩ <;> cases k <;> cases op <;> rfl
theorem HM {k:Option KT} {e:Option Nat} {op:BinOp} {x y z:V} (h:iE k e op x y=some z):z.good=true:=by
 have w:∀{o:Option Bool} {z:V},o.map V.bool=some z->z.good=true:=λh=>by obtain⟨_,_,rfl⟩:=ζf.1 h;rfl
 have u:∀{o:Option Bool} {z:V},(o.map λt=>V.bool !t)=some z->z.good=true:=λh=>by obtain⟨_,_,rfl⟩:=ζf.1 h;rfl
 unfold iE at h
 (repeat' split at h) <;> first|(simp  at h;subst h;rfl)|exact w h|exact u h|simp at h
theorem FR.bin {k:Option KT} {e:Option Nat} {op:BinOp} {x y G J z:V} (B:FR H Z x G) (D:FR H Z y J) (h:iE k e op x y=some z):iE k e op G J=some z:=by
 have I:=h;unfold iE at h;split at h
 .rw[B.int,D.int];omega
 .rw[B.str,D.str];omega
 .rw[B.bool,D.bool];omega
 .obtain⟨L,rfl,w⟩:=B.gT;obtain⟨O,rfl,C⟩:=D.gT;split at h
  .split at h
   .rename_i A;obtain⟨r,hr,rfl⟩:=ζf.1 h;simp[iE,<-w.1,A,FR.jY w C hr]
   grind
  .split at h
   .rename_i A;obtain⟨r,hr,rfl⟩:=ζf.1 h;simp[iE,<-w.1,A,FR.jY w C hr]
   grind
  grind
 .split at h
  .obtain⟨r,hr,rfl⟩:=ζf.1 h;have u:=FR.tB B D hr;rw[GV (zg u)];grind
  .obtain⟨r,hr,rfl⟩:=ζf.1 h;have u:=FR.tB B D hr;rw[GV (zg u)];grind
  grind
theorem FR.slice {size:Nat} {x G z:V} {l h:Option Int} (D:FR H Z x G) (B:gB size x l h=some z):∃J,gB size G l h=some J/\FR H Z z J:=by
 have C:∀{n lo hi:Nat},dI n l h=some (lo,hi)->hi<=n/\lo<=hi:=by
  intro n lo hi e;unfold dI at e
  grind
 unfold gB at B;split at B
 .rename_i es I;split at B
  .rename_i L;obtain⟨⟨lo,hi⟩,w,rfl⟩:=ζf.1 B;obtain⟨Q,U⟩:=C w;rcases D.kY with rfl|⟨id,off,O,rfl,S,hr,W,T⟩
   .refine⟨_,by simp[gB,if_pos L,w],.same _ ?_⟩
    have hg:=D.good;refine kH.2 λj u hu=>?_
    rw[List.getElem?_drop,List.getElem?_take]at hu;split at hu
    .exact kH.1 hg _ u hu
    grind
   .refine⟨.hsl id es (off+lo) (hi-lo),by simp[gB,if_pos L,w],?_⟩
    have A:((I.take hi).drop lo).length=hi-lo:=by simp_all
    rw[<-A];refine FR.Ji S hr (by grind) ?_
    have:=(T.take hi).drop lo;have e:List.drop lo (List.take hi (List.take I.length (List.drop off O)))=List.take (hi-lo) (List.drop (off+lo) O):=by
     rw[List.take_take,Nat.min_eq_left Q,List.drop_take,List.drop_drop]
    grind
  grind
 .exact absurd D.closed (by simp[V.closed])
 .rw[D.dm];obtain⟨_,w,rfl⟩:=ζf.1 B;exact⟨.dm,by simp[gB,w],.same _ rfl⟩
 .rw[D.bE];obtain⟨_,w,rfl⟩:=ζf.1 B;exact⟨.bE,by simp[gB,w],.same _ rfl⟩
 grind
theorem cW.k7 {lo hi:Bool} {G D:List V} {r:Option Int×Option Int} (h:cW H Z G D) (B:k7 lo hi G=some r):Go.VE.k7 lo hi D=some r:=by
 unfold Go.VE.k7 at B;split at B
 .rw[h.cO];exact B
 .obtain⟨_,_,rfl,h1,u⟩:=h.inv;rw[h1.int,u.cO];exact B
 .obtain⟨_,_,rfl,h1,u⟩:=h.inv;rw[h1.int,u.cO];exact B
 .obtain⟨_,_,rfl,h1,u⟩:=h.inv;obtain⟨_,_,rfl,w,z⟩:=u.inv;rw[h1.int,w.int,z.cO];exact B
 grind
theorem cW.bn {N:Nat->FuncId} {p:tY} {xs ys:List V} {z:V} (W:∀zero pl,p=.build zero pl->V.cD zero=true) (h:cW H Z xs ys) (hp:bn N p xs=some z):∃J,Go.VE.bn N p ys=some J/\FR H Z z J:=by
 unfold Go.VE.bn at hp;split at hp
 .
  obtain⟨y,_,rfl,h1,w⟩:=h.inv;rw[w.cO];simp only[ζa]at hp;subst hp;exact⟨y,rfl,h1⟩
 .
  rename_i t a b;obtain⟨w1,_,rfl,h1,w⟩:=h.inv;obtain⟨w2,_,rfl,A,B⟩:=w.inv;obtain⟨w3,_,rfl,S,T⟩:=B.inv;rw[h1.bool,T.cO];simp only[ζa]at hp;subst hp;refine⟨if t=true then w2 else w3,rfl,?_⟩;cases t
  .exact S
  .exact A
 .
  obtain⟨y,_,rfl,h1,w⟩:=h.inv;rw[w.cO];unfold Js at hp;split at hp
  .exact absurd h1.closed (by simp[V.closed])
  .simp only[ζa]at hp;subst hp;rcases h1.k_ with rfl|⟨_,_,_,_,_,_,rfl,_⟩
   .exact⟨_,rfl,h1⟩
   .exact⟨_,rfl,h1⟩
  .simp only[ζa]at hp;subst hp;obtain⟨_,_,rfl,_⟩:=h1.jv;exact⟨_,rfl,h1⟩
  .simp at hp
 .
  obtain⟨_,_,rfl,h1,w⟩:=h.inv;obtain⟨_,_,rfl,A,B⟩:=w.inv;rw[B.cO];exact⟨z,FR.bin h1 A hp,.same _ (HM hp)⟩
 .obtain⟨_,_,rfl,h1,w⟩:=h.inv;rw[h1.bool,w.cO];simp only[ζa]at hp;subst hp;exact⟨_,rfl,.same _ rfl⟩
 .obtain⟨_,_,rfl,h1,w⟩:=h.inv;rw[h1.int,w.cO];simp only[ζa]at hp;subst hp;exact⟨_,rfl,.same _ rfl⟩
 .obtain⟨_,_,rfl,h1,w⟩:=h.inv;rw[h1.int,w.cO];simp only[ζa]at hp;subst hp;exact⟨_,rfl,.same _ rfl⟩
 .
  rename_i off p;obtain⟨y,_,rfl,h1,w⟩:=h.inv;rw[w.cO];unfold lX at hp;split at hp
  .split at hp
   .rename_i cs X;simp only[ζa]at hp;subst hp;rcases h1.k_ with rfl|⟨id,el,o,es,ys,ds,rfl,U,hr,Q,Y,O⟩
    .have hg:=h1.good;simp only[V.good]at hg;exact⟨_,by simp only[Go.VE.bn,lX,if_pos X],.same _ (by simp only[V.good];exact xP _ hg)⟩
    .refine⟨.hptr id el (o+off),rfl,FR.BS U hr Q (by have:=O.1;simp at this;omega) ?_⟩
     have:=O.drop off;rw[List.drop_drop]at this;exact this
   .simp at hp
  .exact absurd h1.closed (by simp[V.closed])
  .simp at hp
 .
  rename_i off size agg cs;obtain⟨y,_,rfl,h1,w⟩:=h.inv;rw[w.cO];obtain⟨aa,rfl,hc⟩:=h1.gT;obtain⟨r,hr,hm⟩:=ζg.1 hp;obtain⟨r',I,G⟩:=hc.cut hr;obtain⟨J,C,D⟩:=G.mk hm;exact⟨J,by simp only[Go.VE.bn,I,ζb,C],D⟩
 .
  rename_i size s k n;obtain⟨y,_,rfl,h1,w⟩:=h.inv;obtain⟨_,_,rfl,A,B⟩:=w.inv;rw[A.int,B.cO];unfold lE at hp;split at hp
  .simp at hp
  .rename_i L;split at hp
   .rename_i es xs;split at hp
    .rename_i Q;obtain⟨c,hc,rfl⟩:=ζf.1 hp;rcases h1.kY with rfl|⟨id,off,ys,rfl,U,hr,hl,O⟩
     .have hg:=h1.good;simp only[V.good]at hg;exact⟨_,by simp only[Go.VE.bn,lE,if_neg L,if_pos Q,hc,Option.map_some],.same _ (by simp only[V.good];exact kH.1 hg _ _ hc)⟩
     .have hj:n.toNat<xs.length:=(ζe.1 hc).1;obtain⟨d,hd,ab⟩:=O.get hc;rw[List.getElem?_take,if_pos hj,List.getElem?_drop]at hd;exact⟨.hptr id (off+n.toNat) 0,by simp only[Go.VE.bn,lE,if_neg L,if_pos (And.intro Q hj)],FR.BS U hr hd (by simp) (by simpa using ab)⟩
    .simp at hp
   .exact absurd h1.closed (by simp[V.closed])
   .simp at hp
 .
  rename_i len size s k n;obtain⟨y,_,rfl,h1,w⟩:=h.inv;obtain⟨_,_,rfl,A,B⟩:=w.inv;rw[A.int,B.cO];unfold vF at hp;split at hp
  .rename_i L;split at hp
   .split at hp
    .rename_i cs X;simp only[ζa]at hp;subst hp;rcases h1.k_ with rfl|⟨id,el,o,es,ys,ds,rfl,U,hr,Q,Y,O⟩
     .have hg:=h1.good;simp only[V.good]at hg;exact⟨_,by simp only[Go.VE.bn,vF,if_pos L,if_pos X],.same _ (by simp only[V.good];exact xP _ hg)⟩
     .refine⟨.hptr id el (o+n.toNat*size),by simp only[Go.VE.bn,vF,if_pos L],FR.BS U hr Q (by have:=O.1;simp at this;omega) ?_⟩
      have:=O.drop (n.toNat*size);rw[List.drop_drop]at this;exact this
    .simp at hp
   .exact absurd h1.closed (by simp[V.closed])
   .simp at hp
  .simp at hp
 .
  rename_i s k n;obtain⟨y,_,rfl,h1,w⟩:=h.inv;obtain⟨_,_,rfl,A,B⟩:=w.inv;rw[h1.str,A.int,B.cO];split at hp
  .rename_i L;obtain⟨c,hc,rfl⟩:=ζf.1 hp;exact⟨_,by simp only[Go.VE.bn,if_pos L,hc,Option.map_some],.same _ rfl⟩
  .simp at hp
 .
  rename_i len size agg cs k n;obtain⟨y,_,rfl,h1,w⟩:=h.inv;obtain⟨_,_,rfl,A,B⟩:=w.inv;rw[A.int,B.cO];obtain⟨aa,rfl,hc⟩:=h1.gT;split at hp
  .rename_i L;obtain⟨r,hr,hm⟩:=ζg.1 hp;obtain⟨r',I,G⟩:=hc.cut hr;obtain⟨J,C,D⟩:=G.mk hm;exact⟨J,by simp only[Go.VE.bn,if_pos L,I,ζb,C],D⟩
  .simp at hp
 .
  rename_i lo hi s bs;obtain⟨y,_,rfl,h1,w⟩:=h.inv;rw[h1.str];obtain⟨⟨l,h'⟩,hb,hp⟩:=ζg.1 hp;obtain⟨⟨l2,ae⟩,ad,rfl⟩:=ζf.1 hp;exact⟨_,by simp only[Go.VE.bn,w.k7 hb,ζb,ad,Option.map_some],.same _ rfl⟩
 .
  rename_i size lo hi s bs;obtain⟨y,_,rfl,h1,w⟩:=h.inv;obtain⟨⟨l,h'⟩,hb,hp⟩:=ζg.1 hp;obtain⟨J,C,D⟩:=FR.slice h1 hp;exact⟨J,by simp only[Go.VE.bn,w.k7 hb,ζb,C],D⟩
 .
  obtain⟨y,_,rfl,h1,w⟩:=h.inv;obtain⟨_,_,rfl,A,B⟩:=w.inv;obtain⟨_,_,rfl,S,T⟩:=B.inv;rw[A.int,S.int,T.cO];split at hp
  .rename_i hc;simp only[ζa]at hp;subst hp;refine⟨.dm,?_,.same _ rfl⟩;simp only[ζh]at hc;have:JN y=true:=by
    have h0:=hc.1.1;unfold JN at h0;split at h0
    .rcases h1.kY with rfl|⟨_,_,_,rfl,_⟩ <;> rfl
    .exact absurd h1.closed (by simp[V.closed])
    .rw[h1.dm];rfl
    .rw[h1.bE];rfl
    .simp at h0
   simp only[Go.VE.bn,this,hc.1.2,hc.2,Bool.and_self,if_true]
  .simp at hp
 .
  rename_i vs zero pl;obtain⟨r,hr,rfl⟩:=ζf.1 hp;obtain⟨r',I,G⟩:=cW.fill (cW.same (W zero pl rfl)) h hr;exact⟨.agg r',by simp only[Go.VE.bn,I,Option.map_some],.agg _ _ G.1 G.2⟩
 .
  rename_i vs name k;simp only[ζa]at hp;subst hp;exact⟨_,rfl,.clo _ _ _ _ _ (h.take k).1 (h.drop k).1 (h.take k).2 (h.drop k).2⟩
 .
  rename_i i vs;obtain⟨y,_,rfl,h1,w⟩:=h.inv;rw[w.cO];obtain⟨ws,rfl,hw⟩:=h1.oR;obtain⟨J,C,D⟩:=hw.get hp;exact⟨J,C,D⟩
 .
  obtain⟨y,_,rfl,h1,w⟩:=h.inv;rw[h1.str,w.cO];simp only[ζa]at hp;subst hp;exact⟨_,rfl,.same _ rfl⟩
 .
  obtain⟨y,_,rfl,h1,w⟩:=h.inv;rw[w.cO];unfold mT at hp;split at hp
  .simp only[ζa]at hp;subst hp;rcases h1.kY with rfl|⟨_,_,_,rfl,_⟩ <;> exact⟨_,rfl,.same _ rfl⟩
  .exact absurd h1.closed (by simp[V.closed])
  .rw[h1.dm];simp only[ζa]at hp;subst hp;exact⟨_,rfl,.same _ rfl⟩
  .rw[h1.bE];simp only[ζa]at hp;subst hp;exact⟨_,rfl,.same _ rfl⟩
  .simp at hp
 .
  obtain⟨y,_,rfl,h1,w⟩:=h.inv;rw[w.cO];unfold Gs at hp;split at hp
  .rw[h1.bE];simp only[ζa]at hp;subst hp;exact⟨_,rfl,.same _ rfl⟩
  .rw[h1.dm];simp only[ζa]at hp;subst hp;exact⟨_,rfl,.same _ rfl⟩
  .simp at hp
 .
  obtain⟨_,_,rfl,h1,w⟩:=h.inv;obtain⟨_,_,rfl,A,B⟩:=w.inv;rw[h1.int,A.int,B.cO];split at hp
  .rename_i e;simp only[ζa]at hp;subst hp;exact⟨_,by simp only[Go.VE.bn,if_pos e],.same _ rfl⟩
  .simp at hp
 .
  obtain⟨_,_,rfl,h1,w⟩:=h.inv;obtain⟨_,_,rfl,A,B⟩:=w.inv;obtain⟨_,_,rfl,S,T⟩:=B.inv;obtain⟨_,_,rfl,h7,h8⟩:=T.inv;rw[h1.int,A.int,S.int,h7.int,h8.cO];split at hp
  .rename_i e;simp only[ζa]at hp;subst hp;exact⟨_,by simp only[Go.VE.bn,if_pos e],.same _ rfl⟩
  .simp at hp
 .
  obtain⟨_,_,rfl,h1,w⟩:=h.inv;obtain⟨_,_,rfl,A,B⟩:=w.inv;rw[h1.int,A.int,B.cO];split at hp
  .rename_i e;simp only[ζa]at hp;subst hp;exact⟨_,by simp only[Go.VE.bn,if_pos e],.same _ rfl⟩
  .simp at hp
 .
  obtain⟨_,_,rfl,h1,w⟩:=h.inv;obtain⟨_,_,rfl,A,B⟩:=w.inv;rw[h1.int,A.int,B.cO];split at hp
  .rename_i e;simp only[ζa]at hp;subst hp;refine⟨_,by simp only[Go.VE.bn,if_pos e],.same _ ?_⟩
   simp only[V.good];refine kH.2 λj u hu=>?_
   have:=List.eq_of_mem_replicate (List.mem_of_getElem? hu);subst this;exact gM.2 λi v hv=>jR (List.all_eq_true.1 e.2.2.2.2.2 v (List.mem_of_getElem? hv))
  .simp at hp
 .simp only[ζa]at hp;subst hp;rw[h.cO];exact⟨_,rfl,.same _ rfl⟩
 .simp at hp
end
end Go.VE
namespace Go.VE
variable [bN]
def qX (p:Nat×Nat) (k:Fl) (es len:Nat):V:=
 match k with
 | .nil=>.bE
 | .emp=>.dm
 | _=>.hsl p.1 es p.2 len
abbrev Nu:=Nat->Nat×Nat
inductive cS (ν:Nu) (m:Tb bu) (H:bf) (Z:Nat->Prop):SV->V->Prop
 | v (x y:V) (h:FR H Z x y):cS ν m H Z (.v x) y
 | own (d:Nat) (y:V) (h:∀ob,a_ m d=some ob->∃k es xs,ob=.sl k es xs/\y=qX (ν d) k es xs.length):cS ν m H Z (.own d) y
 | ptr (d o:Nat) (y:V) (h:∀ob,a_ m d=some ob->∃cs,ob=.box cs/\y=.hptr (ν d).1 0 o):cS ν m H Z (.ptr d o) y
 | el (d i o:Nat) (y:V) (h:∀ob,a_ m d=some ob->∃k es xs,ob=.sl k es xs/\cC k=true/\y=.hptr (ν d).1 ((ν d).2+i) o):cS ν m H Z (.el d i o) y
 | mp (d:Nat) (y:V) (h:∀ob,a_ m d=some ob->∃kvs,ob=.mp kvs/\y=.hmap (ν d).1):cS ν m H Z (.mp d) y
 | clo (f:FuncId) (a b:List SV) (a' b':List V) (ha:a.length=a'.length) (hb:b.length=b'.length)
  (hva:∀(j:Nat) u v,a[j]? = some u->a'[j]? = some v->cS ν m H Z u v) (hvb:∀(j:Nat) u v,b[j]? = some u->b'[j]? = some v->cS ν m H Z u v):cS ν m H Z (.clo f a b) (.clo f a' b')
 | tup (a:List SV) (a':List V) (ha:a.length=a'.length) (hva:∀(j:Nat) u v,a[j]? = some u->a'[j]? = some v->cS ν m H Z u v):cS ν m H Z (.tup a) (.tup a')
 | agg (a:List SV) (a':List V) (ha:a.length=a'.length) (hva:∀(j:Nat) u v,a[j]? = some u->a'[j]? = some v->cS ν m H Z u v):cS ν m H Z (.agg a) (.agg a')
 | yl (id:Nat):cS ν m H Z (.yl id) (.yld id)
def bT (ν:Nu) (m:Tb bu) (H:bf) (Z:Nat->Prop) (xs:List SV) (ys:List V):Prop:=xs.length=ys.length/\∀(j:Nat) u v,xs[j]? = some u->ys[j]? = some v->cS ν m H Z u v
def cm:bu->Bool
 | .sl k _ _=>cC k
 | _=>true
def eT (ν:Nu) (m:Tb bu) (id:Nat):Prop:=∃d ob,a_ m d=some ob/\cm ob=true/\(ν d).1=id
def uk (H:bf) (Z:Nat->Prop) (ys:List (List V)):Prop:=∀c∈ys,∀u∈c,∃x,FR H Z x u
def BR (H:bf) (Z:Nat->Prop) (a b:List (V×V)):Prop:=a.length=b.length/\∀(j:Nat) u v,a[j]? = some u->b[j]? = some v->(u.1=v.1/\u.1.scalar=true)/\FR H Z u.2 v.2
def dN (ν:Nu) (m:Tb bu) (H:bf) (Z:Nat->Prop) (d:Nat):bu->Prop
 | .sl k es xs=>if cC k then ∃ys,H[(ν d).1]? = some (.row es ys)/\(ν d).2+xs.length<=ys.length/\fH H Z xs ((ys.drop (ν d).2).take xs.length)/\uk H Z ys/\(k=.row->(ν d).2=0/\ys.length=xs.length)
  else xs=[]
 | .box cs=>∃es D,H[(ν d).1]? = some (.row es [D])/\bT ν m H Z cs D/\D.all V.one=true
 | .mp G=>∃B,H[(ν d).1]? = some (.map B)/\BR H Z G B
structure R (ν:Nu) (Z:Nat->Prop) (st:St) (F:Frame) (H:bf):Prop where
 slot:∀s sv,a_ st.g s=some sv->cS ν st.m H Z sv (get F s)
 obj:∀d ob,a_ st.m d=some ob->dN ν st.m H Z d ob
 inj:∀d d' ob ob',a_ st.m d=some ob->a_ st.m d'=some ob'->cm ob=true->cm ob'=true->(ν d).1=(ν d').1->d=d'
 apart:∀d ob,a_ st.m d=some ob->cm ob=true->¬Z (ν d).1
 zrow:∀id,Z id->(bl H id).isSome=true
 deep:Deep H Z
def sameShape:bu->bu->Prop
 | .sl k es xs,.sl G B D=>G=k/\B=es/\D.length=xs.length
 | .box _,.box _=>True
 | .mp _,.mp _=>True
 | _,_=>False
theorem sameShape.refl (o:bu):sameShape o o:=by cases o <;> simp[sameShape]
theorem sameShape.trans {a b c:bu} (h:sameShape a b) (k:sameShape b c):sameShape a c:=by
 cases a <;> cases b <;> cases c <;> simp[sameShape]at*<;> simp_all
structure Ev (Rv:Nat->Prop) (ν:Nu) (Z:Nat->Prop) (st:St) (H:bf) (ν':Nu) (Z':Nat->Prop) (st':St) (H':bf):Prop where
 len:H.length<=H'.length
 same:∀id,id<H.length->¬eT ν st.m id->¬Z id->¬Rv id->H'[id]? = H[id]?
 rows:∀id,Z id->Z' id/\bl H' id=bl H id
 own:∀id,eT ν' st'.m id->eT ν st.m id\/Rv id\/H.length<=id
 frz:∀id,Z' id->Z id\/eT ν st.m id\/Rv id\/H.length<=id
 pin:∀d∈st.pin,∀ob',a_ st'.m d=some ob'->∃ob,a_ st.m d=some ob/\ν' d=ν d/\sameShape ob ob'
 pins:st'.pin=st.pin
section
variable {Rv Rv':Nat->Prop} {ν ν' ν2:Nu} {Z Z' Z2:Nat->Prop} {st st' st2:St} {m m':Tb bu} {F F':Frame} {H H' H2:bf}
theorem Ev.refl:Ev Rv ν Z st H ν Z st H:=
 ⟨Nat.le_refl _,λ_ _ _ _ _=>rfl,λ_ h=>⟨h,rfl⟩,λ_ h=>.inl h,λ_ h=>.inl h,λ_ _ u h=>⟨u,h,rfl,.refl _⟩,rfl⟩
theorem Ev.trans (a:Ev Rv ν Z st H ν' Z' st' H') (b:Ev Rv ν' Z' st' H' ν2 Z2 st2 H2):Ev Rv ν Z st H ν2 Z2 st2 H2 where
 len:=Nat.le_trans a.len b.len
 same:=λid A u B hr=>by
  rw[b.same id (Nat.lt_of_lt_of_le A a.len) (λh=>(a.own id h).elim u λh=>h.elim hr λh=>by omega) (λh=>(a.frz id h).elim B λh=>h.elim u λh=>h.elim hr λh=>by omega) hr,a.same id A u B hr]
 rows:=λid h=>⟨(b.rows id (a.rows id h).1).1,by rw[(b.rows id (a.rows id h).1).2,(a.rows id h).2]⟩
 own:=λid h=>by
  rcases b.own id h with h|h|h
  .exact a.own id h
  .grind
  .exact .inr (.inr (Nat.le_trans a.len h))
 frz:=λid h=>by
  rcases b.frz id h with h|h|h|h
  .exact a.frz id h
  .rcases a.own id h with h|h|h
   .grind
   .grind
   grind
  .grind
  .exact .inr (.inr (.inr (Nat.le_trans a.len h)))
 pin:=λd hd w h=>by
  obtain⟨z,h1,G,C⟩:=b.pin d (by rw[a.pins];omega) w h
  obtain⟨ob,k1,I,D⟩:=a.pin d hd z h1;exact⟨ob,k1,by simp_all,D.trans C⟩
 pins:=by rw[b.pins,a.pins]
theorem Ev.weak (h:∀id,Rv id->Rv' id) (a:Ev Rv ν Z st H ν' Z' st' H'):Ev Rv' ν Z st H ν' Z' st' H':=
 ⟨a.len,λid u w z hr=>a.same id u w z (λk=>hr (h id k)),a.rows,λid k=>(a.own id k).imp (λx=>x) (.imp (h id) (λx=>x)),λid k=>(a.frz id k).imp (λx=>x) (.imp (λx=>x) (.imp (h id) (λx=>x))),a.pin,a.pins⟩
theorem cr {α:Type}:∀(g:Tb α) (n:Nat) (v:α),a_ (bH g n v) n=some v
 | [],n,v=>by simp[bH,a_]
 | (k,x)::r,n,v=>by
  simp[bH];split
  .rename_i h;simp[a_,h]
  .rename_i h;simp[a_,h,cr r n v]
theorem dF {α:Type}:∀(g:Tb α) {n k:Nat} (v:α),n≠k->a_ (bH g n v) k=a_ g k
 | [],n,k,v,h=>by simp[bH,a_,h]
 | (j,x)::r,n,k,v,h=>by
  simp[bH];split
  .rename_i hk;subst hk;simp[a_,h]
  .simp[a_];split
   .rfl
   .exact dF r v h
theorem ot {α:Type}:∀{g:Tb α} {n:Nat} {v:α},a_ g n=some v->bH g n v=g
 | [],n,v,h=>by cases h
 | (k,x)::r,n,v,h=>by
  simp[a_]at h;simp[bH];split
  .grind
  .rename_i e;rw[if_neg e]at h;rw[ot h]
theorem vl {α:Type}:∀(g:Tb α) (n:Nat),a_ (dO n g) n=none
 | [],n=>rfl
 | (k,x)::r,n=>by
  simp[dO];split
  .exact vl r n
  .rename_i hk;simp[a_];rw[if_neg hk];exact vl r n
theorem vf {α:Type}:∀(g:Tb α) {n k:Nat},n≠k->a_ (dO n g) k=a_ g k
 | [],n,k,h=>rfl
 | (j,x)::r,n,k,h=>by
  simp[dO];split
  .rename_i hk;subst hk;simp[a_];rw[if_neg h];exact vf r h
  .simp[a_];split
   .rfl
   .exact vf r h
theorem m_ {α:Type} {g:Tb α} {n k:Nat} {v:α} (h:a_ (dO n g) k=some v):n≠k/\a_ g k=some v:=by
 by_cases e:n=k
 .subst e;rw[vl]at h;simp_all
 .rw[vf g e]at h;grind
theorem nC {α:Type} {k:Nat} {v:α}:∀{ds:List Nat} {g:Tb α},a_ (oe ds g) k=some v->a_ g k=some v
 | [],_,h=>h
 | d::ds,g,h=>(m_ (nC  h)).2
theorem o9 {α:Type} {g:Tb α} {k:Nat} {v:α}:∀{l:List Nat} {r:Tb α},je g l=some r->a_ r k=some v->a_ g k=some v
 | [],r,h,B=>by simp[je]at h;subst h;simp[a_]at B
 | n::l,r,h,B=>by
  simp[je]at h;split at h
  .rename_i w t G D;simp  at h;subst h;simp[a_]at B;split at B
   .grind
   .exact o9 D B
  grind
theorem xA {d:Nat}:∀{g:Tb SV} {s:Nat} {sv:SV},uA d g=false->a_ g s=some sv->sv.cM d=false
 | [],_,_,_,h=>by simp[a_]at h
 | (k,x)::r,s,sv,h,B=>by
  simp[uA]at h;simp[a_]at B;split at B
  .grind
  .exact xA h.2 B
theorem xk {d:Nat}:∀{g:Tb bu} {s:Nat} {ob:bu},q9 d g=false->a_ g s=some ob->ob.cM d=false
 | [],_,_,_,h=>by simp[a_]at h
 | (k,x)::r,s,sv,h,B=>by
  simp[q9]at h;simp[a_]at B;split at B
  .grind
  .exact xk h.2 B
theorem r_ {d:Nat}:∀{l:List SV} {j:Nat} {u:SV},SV.di d l=false->l[j]? = some u->u.cM d=false
 | [],_,_,_,h=>by simp_all
 | x::r,j,u,h,B=>by
  simp[SV.di]at h
  cases j with
  | zero=>grind
  | succ j=>exact r_ h.2 (by simpa using B)
theorem qI {d:Nat}:∀{l:List SV} {j:Nat} {u:SV},l[j]? = some u->u.cM d=true->SV.di d l=true
 | [],_,_,h,_=>by simp_all
 | x::r,j,u,h,B=>by
  simp[SV.di]
  cases j with
  | zero=>grind
  | succ j=>exact .inr (qI (j:=j) (by grind) B)
theorem cS.mono {sv:SV} {y:V} (J:∀id,Z id->Z' id/\bl H' id=bl H id)
 (r:cS ν m H Z sv y) (B:∀d,sv.cM d=true->∀ob',a_ m' d=some ob'->∃ob,a_ m d=some ob/\ν' d=ν d/\sameShape ob ob'):cS ν' m' H' Z' sv y:=by
 induction r with
 | v x y h=>exact .v x y (h.mono J)
 | own d y h=>
  refine .own d y λob' z=>?_
  obtain⟨ob,h1,G,A⟩:=B d (by simp[SV.cM]) ob' z
  obtain⟨k,es,L,rfl,rfl⟩:=h ob h1;cases ob' <;> simp[sameShape]at A
  grind
 | ptr d o y h=>
  refine .ptr d o y λob' z=>?_
  obtain⟨ob,h1,G,A⟩:=B d (by simp[SV.cM]) ob' z
  obtain⟨cs,rfl,rfl⟩:=h ob h1;cases ob' <;> simp[sameShape]at A
  grind
 | el d i o y h=>
  refine .el d i o y λob' z=>?_
  obtain⟨ob,h1,G,A⟩:=B d (by simp[SV.cM]) ob' z
  obtain⟨k,es,L,rfl,T,rfl⟩:=h ob h1;cases ob' <;> simp[sameShape]at A
  grind
 | mp d y h=>
  refine .mp d y λob' z=>?_
  obtain⟨ob,h1,G,A⟩:=B d (by simp[SV.cM]) ob' z
  obtain⟨cs,rfl,rfl⟩:=h ob h1;cases ob' <;> simp[sameShape]at A
  grind
 | clo f a b C O D Q hva S w I=>
  exact .clo f a b C O D Q (λj u v hu hv=>w j u v hu hv λd hd=>B d (by simp[SV.cM,qI hu hd])) (λj u v hu hv=>I j u v hu hv λd hd=>B d (by simp[SV.cM,qI hu hd]))
 | tup a C D hva w=>
  exact .tup a C D (λj u v hu hv=>w j u v hu hv λd hd=>B d (by simp[SV.cM,qI hu hd]))
 | agg a C D hva w=>
  exact .agg a C D (λj u v hu hv=>w j u v hu hv λd hd=>B d (by simp[SV.cM,qI hu hd]))
 | yl id=>exact .yl id
theorem bT.mono {sv:List SV} {y:List V} (B:∀id,Z id->Z' id/\bl H' id=bl H id)
 (r:bT ν m H Z sv y) (D:∀d,SV.di d sv=true->∀ob',a_ m' d=some ob'->∃ob,a_ m d=some ob/\ν' d=ν d/\sameShape ob ob'):bT ν' m' H' Z' sv y:=
 ⟨r.1,λj u v hu hv=>(r.2 j u v hu hv).mono B λd hd=>D d (qI hu hd)⟩
theorem bT.nil:bT ν m H Z [] []:=⟨rfl,by simp⟩
theorem bT.cons {x:SV} {y:V} {xs:List SV} {ys:List V} (h:cS ν m H Z x y) (r:bT ν m H Z xs ys):bT ν m H Z (x::xs) (y::ys):=by
 refine⟨by simp[r.1],λj u v hu hv=>?_⟩
 cases j with
 | zero=>grind
 | succ j=>exact r.2 j u v (by grind) (by grind)
theorem bT.inv {x:SV} {xs:List SV} {B:List V} (r:bT ν m H Z (x::xs) B):∃y ys,B=y::ys/\cS ν m H Z x y/\bT ν m H Z xs ys:=by
 cases B with
 | nil=>have:=r.1;grind
 | cons y ys=>
  refine⟨y,ys,rfl,r.2 0 x y rfl rfl,by have:=r.1;grind,λj u v hu hv=>r.2 (j+1) u v (by grind) (by grind)⟩
theorem bT.cO {B:List V} (r:bT ν m H Z [] B):B=[]:=by
 have:=r.1
 grind
theorem bT.get {xs:List SV} {ys:List V} (r:bT ν m H Z xs ys) {j:Nat} {u:SV} (h:xs[j]? = some u):∃v,ys[j]? = some v/\cS ν m H Z u v:=by
 have w  := (ζe.1 h).1;have:j<ys.length:=by rw[<-r.1];omega
 exact⟨ys[j],ζd this,r.2 j u _ h (ζd this)⟩
theorem bT.append {a c:List SV} {b d:List V} (h:bT ν m H Z a b) (k:bT ν m H Z c d):bT ν m H Z (a++c) (b++d):=by
 refine⟨by simp[h.1,k.1],λj u v hu hv=>?_⟩
 by_cases w:j<a.length
 .rw[List.getElem?_append_left w]at hu;rw[List.getElem?_append_left (by rw[<-h.1];omega)]at hv
  exact h.2 j u v hu hv
 .rw[List.getElem?_append_right (by omega)]at hu
  rw[List.getElem?_append_right (by rw[<-h.1];omega),<-h.1]at hv
  exact k.2 _ u v hu hv
theorem bT.take {a:List SV} {b:List V} (h:bT ν m H Z a b) (n:Nat):bT ν m H Z (a.take n) (b.take n):=by
 refine⟨by simp[h.1],λj u v hu hv=>?_⟩
 rw[List.getElem?_take]at hu hv;split at hu
 .rename_i w;rw[if_pos w]at hv;exact h.2 j u v hu hv
 grind
theorem bT.drop {a:List SV} {b:List V} (h:bT ν m H Z a b) (n:Nat):bT ν m H Z (a.drop n) (b.drop n):=by
 refine⟨by simp[h.1],λj u v hu hv=>?_⟩
 rw[List.getElem?_drop]at hu hv;exact h.2 _ u v hu hv
theorem cS.fr {x y:V} (r:cS ν m H Z (.v x) y):FR H Z x y:=by cases r;assumption
theorem bT.p8 {xs ys:List V} (r:cW H Z xs ys):bT ν m H Z (xs.map .v) ys:=by
 refine⟨by simp[r.1],λj u v hu hv=>?_⟩
 rw[List.getElem?_map,ζf]at hu;obtain⟨x,w,rfl⟩:=hu;exact .v x v (r.2 j x v w hv)
theorem tJ:∀{svs:List SV} {xs:List V},cZ svs=some xs->svs=xs.map .v
 | [],xs,h=>by simp[cZ]at h;grind
 | x::r,xs,h=>by
  cases x <;> simp only[cZ]at h <;> first|grind|skip
  obtain⟨t,B,rfl⟩:=ζf.1 h;rw[tJ B];rfl
theorem bT.SI {xs ys:List V} (r:bT ν m H Z (xs.map .v) ys):cW H Z xs ys:=by
 refine⟨by have:=r.1;grind,λj u v hu hv=>?_⟩
 have:(xs.map SV.v)[j]? = some (.v u):=by grind
 exact(r.2 j _ v this hv).fr
end
end Go.VE
namespace Go.VE
variable [bN]
section
variable {ν:Nu} {Z:Nat->Prop} {st:St} {m:Tb bu} {F:Frame} {H H1:bf} {N:Nat->FuncId}
def ou (nm:FuncId->Option Nat):Operand->Option Arg
 | .tmp t=>some (.s t)
 | .const v=>match ofValue 4 v with
  | some c=>if c.good then some (.k c)else none
  | none=>none
 | .func f=>(nm f).map .f
 | .global g=>match bN.gl g with
  | some cs=>if(V.fptr cs).good then some (.k (.fptr cs))else none
  | none=>none
theorem CJ {nm:FuncId->Option Nat} (D:∀f s,nm f=some s->N s=f) {g:Tb SV} (G:∀s sv,a_ g s=some sv->cS ν m H Z sv (get F s)) {o:Operand} {x:Arg} {sv:SV} (B:ou nm o=some x) (hv:pI N g x=some sv) :
 ∃y,ev F o=some y/\cS ν m H Z sv y:=by
 cases o with
 | tmp t=>
  simp[ou]at B;subst B;exact⟨get F t,rfl,G t sv hv⟩
 | const w=>
  simp[ou]at B;split at B
  .rename_i c hc;split at B
   .rename_i u;simp  at B;subst B;simp[pI]at hv;subst hv;exact⟨c,hc,.v _ _ (.same _ u)⟩
   grind
  grind
 | func f=>
  simp[ou]at B;obtain⟨z,A,rfl⟩:=B;simp[pI]at hv;subst hv;exact⟨_,rfl,.v _ _ (by rw[D f z A];exact .same _ rfl)⟩
 | global i=>
  simp[ou]at B;split at B
  .rename_i c hc;split at B
   .rename_i u;simp  at B;subst B;simp[pI]at hv;subst hv;exact⟨.fptr c,by simp[ev,hc],.v _ _ (.same _ u)⟩
   grind
  grind
theorem oQ {nm:FuncId->Option Nat} (D:∀f s,nm f=some s->N s=f) {g:Tb SV} (G:∀s sv,a_ g s=some sv->cS ν m H Z sv (get F s)):∀{os:List Operand} {xs:List Arg} {svs:List SV},
 os.mapM (ou nm)=some xs->bP N g xs=some svs->∃ys,eP F os=some ys/\bT ν m H Z svs ys
 | [],xs,svs,B,hv=>by
  simp  at B;subst B;simp[bP]at hv;subst hv;exact⟨[],rfl,.nil⟩
 | o::os,xs,svs,B,hv=>by
  simp[ζg]at B;obtain⟨x,J,ys,T,rfl⟩:=B;simp[bP]at hv;split at hv
  .rename_i v A h1 w;simp  at hv;subst hv;obtain⟨a,B,z⟩:=CJ D G J h1;obtain⟨az,has,u⟩:=oQ D G T w;exact⟨a::az,by simp[eP,B,has],.cons z u⟩
  grind
theorem cS.jw {d:Nat} {y:V} (r:cS ν m H Z (.own d) y) {ob:bu} (h:a_ m d=some ob):∃k es xs,ob=.sl k es xs/\y=qX (ν d) k es xs.length:=by
 cases r with|own _ _ u=>grind
theorem cS.nM {d o:Nat} {y:V} (r:cS ν m H Z (.ptr d o) y) {ob:bu} (h:a_ m d=some ob):∃cs,ob=.box cs/\y=.hptr (ν d).1 0 o:=by
 cases r with|ptr _ _ _ u=>grind
theorem cS.wO {d i o:Nat} {y:V} (r:cS ν m H Z (.el d i o) y) {ob:bu} (h:a_ m d=some ob):∃k es xs,ob=.sl k es xs/\cC k=true/\y=.hptr (ν d).1 ((ν d).2+i) o:=by
 cases r with|el _ _ _ _ u=>grind
theorem cS.BT {d:Nat} {y:V} (r:cS ν m H Z (.mp d) y) {ob:bu} (h:a_ m d=some ob):∃B,ob=.mp B/\y=.hmap (ν d).1:=by
 cases r with|mp _ _ u=>grind
theorem cS.jv {f:FuncId} {a b:List SV} {y:V} (r:cS ν m H Z (.clo f a b) y):∃a' B,y=.clo f a' B/\bT ν m H Z a a'/\bT ν m H Z b B:=by
 cases r with|clo _ _ _ a' B w z hva u=>exact⟨a',B,rfl,⟨w,hva⟩,⟨z,u⟩⟩
theorem cS.oR {a:List SV} {y:V} (r:cS ν m H Z (.tup a) y):∃a',y=.tup a'/\bT ν m H Z a a':=by
 cases r with|tup _ a' u hva=>exact⟨a',rfl,u,hva⟩
theorem cS.gT {a:List SV} {y:V} (r:cS ν m H Z (.agg a) y):∃a',y=.agg a'/\bT ν m H Z a a':=by
 cases r with|agg _ a' u hva=>exact⟨a',rfl,u,hva⟩
theorem qH {p:Nat×Nat} {k:Fl} {es len:Nat} (h:cC k=true):qX p k es len=.hsl p.1 es p.2 len:=by
 cases k <;> simp[cC]at h <;> rfl
theorem kP {x:SV} {y:V} (h:j8 m x=true) (r:cS ν m H Z x y):y.cells=[y]/\y.one=true:=by
 cases x with
 | v x=>simp[j8]at h
 | own d=>
  obtain⟨ob,u⟩:=Option.isSome_iff_exists.1 h;obtain⟨k,es,w,rfl,rfl⟩:=r.jw u;cases k <;> exact⟨rfl,rfl⟩
 | ptr d o=>
  obtain⟨ob,u⟩:=Option.isSome_iff_exists.1 h;obtain⟨cs,rfl,rfl⟩:=r.nM u;exact⟨rfl,rfl⟩
 | el d i o=>
  obtain⟨ob,u⟩:=Option.isSome_iff_exists.1 h;obtain⟨k,es,w,rfl,_,rfl⟩:=r.wO u;exact⟨rfl,rfl⟩
 | mp d=>
  obtain⟨ob,u⟩:=Option.isSome_iff_exists.1 h;obtain⟨z,rfl,rfl⟩:=r.BT u;exact⟨rfl,rfl⟩
 | clo f a b=>obtain⟨A,B,rfl,_⟩:=r.jv;exact⟨rfl,rfl⟩
 | tup l=>simp[j8]at h
 | agg l=>simp[j8]at h
 | yl id=>simp[j8]at h
theorem Ld {x:SV} {y:V} (h:vK m x=true) (r:cS ν m H Z x y):y.one=true:=by
 cases x with
 | v x=>
  have u:=r.fr;have w:x.one=true:=h;have hc:=u.cells;have e:x.cells=[x]:=by cases x <;> first|rfl|(simp[V.one]at w)
  rw[e]at hc;have h1:=hc.one;have z:=hc.1
  cases y with
  | agg l=>
   cases u with
   | same _ _=>grind
   | agg _ _ _ _=>simp[V.one]at w
  | tup l=>
   cases u with
   | same _ _=>grind
   | tup _ _ _ _=>simp[V.one]at w
  | _=>rfl
 | own d=>exact(kP  (x:=.own d) h r).2
 | ptr d o=>exact(kP  (x:=.ptr d o) h r).2
 | el d i o=>exact(kP  (x:=.el d i o) h r).2
 | mp d=>exact(kP  (x:=.mp d) h r).2
 | clo f a b=>exact(kP  (x:=.clo f a b) h r).2
 | tup l=>simp[vK,j8]at h
 | agg l=>simp[vK,j8]at h
 | yl id=>simp[vK,j8]at h
theorem DU {l:List SV} {ys:List V} (h:l.all (vK m)=true) (r:bT ν m H Z l ys):ys.all V.one=true:=by
 refine List.all_eq_true.2 λy w=>?_
 obtain⟨j,z,e⟩:=List.mem_iff_getElem.1 w;have u:j<l.length:=by rw[r.1];omega
 exact Ld (List.all_eq_true.1 h _ (List.getElem_mem u)) (r.2 j _ y (ζd u) (by grind))
theorem La {x:SV} {y:V} {c:List SV} (h:wu m x=some c) (r:cS ν m H Z x y):bT ν m H Z c y.cells:=by
 unfold wu at h;split at h
 .cases h;exact bT.p8 r.fr.cells
 .cases h;obtain⟨z,rfl,u⟩:=r.gT;exact u
 .split at h
  .rename_i w;cases h;rw[(kP w r).1];exact .cons r .nil
  simp_all
theorem GU:∀{pl:List (Nat×Nat)} {vs cells l:List SV} {B cells':List V},bT ν m H Z cells cells'->bT ν m H Z vs B->rI m cells pl vs=some l->∃D,jS cells' pl B=some D/\bT ν m H Z l D
 | [],[],cells,l,B,cells',hc,hv,h=>by
  rw[hv.cO];simp[rI]at h;subst h;exact⟨_,rfl,hc⟩
 | [],_::_,_,_,_,_,_,_,h=>by simp[rI]at h
 | _::_,[],_,_,_,_,_,_,h=>by simp[rI]at h
 | (off,size)::pl,v::vs,cells,l,B,cells',hc,hv,h=>by
  obtain⟨w,G,rfl,h1,J⟩:=hv.inv;simp only[rI]at h;split at h
  .rename_i c z;have hr:=La z h1;split at h
   .obtain⟨D,e1,e2⟩:=GU   (cells':=cells'.take off++w.cells++cells'.drop (off+w.cells.length)) (by rw[<-hr.1];exact((hc.take off).append hr).append (hc.drop _)) J h
    have u:w.cells.length=size/\off+w.cells.length<=cells'.length:=by rw[<-hr.1,<-hc.1];omega
    simp[jS]
    grind
   simp_all
  simp_all
theorem Fa {size o:Nat} {agg:Bool} {cs:List SV} {B:List V} {sv:SV} (h:bT ν m H Z cs B) (hp:ua size agg ((cs.drop o).take size)=some sv):∃y,(cut B o size).bind (mk agg)=some y/\cS ν m H Z sv y:=by
 have u:=(h.drop o).take size;unfold ua at hp;split at hp
 .have hc:cut B o size=some ((B.drop o).take size):=by
   unfold cut;rw[if_pos (by rw[<-u.1];omega)]
  rw[hc];split at hp
  .split at hp
   .rename_i D w;cases hp;have z  := by rw[tJ w]at u;exact u.SI
    exact⟨_,by unfold mk;grind,.v _ _ (.agg _ _ z.1 z.2)⟩
   .cases hp;exact⟨_,by unfold mk;grind,.agg _ _ u.1 u.2⟩
  .split at hp
   .rename_i x w;simp  at hp;subst hp;rw[w]at u;obtain⟨y,G,e,A,C⟩:=u.inv;rw[e,C.cO];exact⟨y,by unfold mk;grind,A⟩
   grind
 grind
theorem Nk {p:tY} {svs:List SV} {ys:List V} {sv:SV} (Y:∀zero pl,p=.build zero pl->V.cD zero=true) (ho:∀d ob,a_ m d=some ob->dN ν m H Z d ob) (h:bT ν m H Z svs ys) (hp:vH N m p svs=some sv):∃y,bn N p ys=some y/\cS ν m H Z sv y:=by
 unfold vH at hp;split at hp
 .
  obtain⟨y,_,rfl,h1,w⟩:=h.inv;rw[w.cO];simp  at hp;subst hp;exact⟨y,rfl,h1⟩
 .obtain⟨y,_,rfl,h1,w⟩:=h.inv;rw[w.cO];split at hp
  .rename_i I;simp  at hp;subst hp;obtain⟨ob,u⟩:=Option.isSome_iff_exists.1 I;obtain⟨cs,rfl,rfl⟩:=h1.nM u;exact⟨_,rfl,h1⟩
  grind
 .obtain⟨y,_,rfl,h1,w⟩:=h.inv;rw[w.cO];split at hp
  .rename_i I;simp  at hp;subst hp;obtain⟨ob,u⟩:=Option.isSome_iff_exists.1 I;obtain⟨k,es,O,rfl,hk,rfl⟩:=h1.wO u;exact⟨_,rfl,h1⟩
  grind
 .
  rename_i t a b;obtain⟨G,_,rfl,h1,w⟩:=h.inv;obtain⟨Q,_,rfl,C,B⟩:=w.inv;obtain⟨w3,_,rfl,h5,h6⟩:=B.inv;rw[h1.fr.bool,h6.cO];simp  at hp;refine⟨if t=true then Q else w3,rfl,?_⟩
  grind
 .
  obtain⟨G,_,rfl,h1,w⟩:=h.inv;obtain⟨Q,_,rfl,C,B⟩:=w.inv;rw[C.fr.bE,B.cO];split at hp
  .rename_i k es O u;split at hp
   .simp_all
   .simp  at hp;subst hp;obtain⟨S,J,L,e,rfl⟩:=h1.jw u;cases e;cases k <;> first|grind|exact⟨_,rfl,.v _ _ (.same _ rfl)⟩
  grind
 .obtain⟨G,_,rfl,h1,w⟩:=h.inv;obtain⟨Q,_,rfl,C,B⟩:=w.inv;rw[C.fr.bE,B.cO];split at hp
  .rename_i k es O u;split at hp
   .simp_all
   .simp  at hp;subst hp;obtain⟨S,J,L,e,rfl⟩:=h1.jw u;cases e;cases k <;> first|grind|exact⟨_,rfl,.v _ _ (.same _ rfl)⟩
  grind
 .
  obtain⟨y,_,rfl,h1,w⟩:=h.inv;rw[w.cO];split at hp
  .rename_i I;simp  at hp;subst hp;obtain⟨ob,u⟩:=Option.isSome_iff_exists.1 I;obtain⟨cs,rfl,rfl⟩:=h1.nM u;exact⟨_,rfl,.ptr _ _ _ λD A=>by grind⟩
  grind
 .obtain⟨y,_,rfl,h1,w⟩:=h.inv;rw[w.cO];split at hp
  .rename_i I;simp  at hp;subst hp;obtain⟨ob,u⟩:=Option.isSome_iff_exists.1 I;obtain⟨k,es,O,rfl,hk,rfl⟩:=h1.wO u;exact⟨_,rfl,.el _ _ _ _ λD A=>by rw[u]at A;cases A;exact⟨_,_,_,rfl,hk,rfl⟩⟩
  .simp at hp
 .
  obtain⟨G,_,rfl,h1,w⟩:=h.inv;obtain⟨Q,_,rfl,C,B⟩:=w.inv;rw[C.fr.int,B.cO];split at hp
  .rename_i k es O u;split at hp
   .rename_i hc;obtain⟨hk,rfl,hn,T⟩:=hc;simp  at hp;subst hp;obtain⟨S,J,L,e,rfl⟩:=h1.jw u;cases e;rw[qH hk];refine⟨.hptr (ν _).1 ((ν _).2+_) 0,by simp only[bn,lE,if_neg (Int.not_lt.2 hn),true_and,if_pos T];rfl,.el _ _ _ _ λD A=>?_⟩
    rw[u]at A;cases A;exact⟨_,_,_,rfl,hk,rfl⟩
   .simp at hp
  .simp at hp
 .
  obtain⟨G,_,rfl,h1,w⟩:=h.inv;obtain⟨Q,_,rfl,C,B⟩:=w.inv;rw[C.fr.int,B.cO];split at hp
  .rename_i hc;simp  at hp;subst hp;obtain⟨ob,u⟩:=Option.isSome_iff_exists.1 hc.2.2;obtain⟨cs,rfl,rfl⟩:=h1.nM u;refine⟨.hptr (ν _).1 0 (_+_),by simp only[bn,vF,if_pos (And.intro hc.1 hc.2.1)];rfl,.ptr _ _ _ λD A=>?_⟩
   rw[u]at A;cases A;exact⟨_,rfl,rfl⟩
  .simp at hp
 .obtain⟨G,_,rfl,h1,w⟩:=h.inv;obtain⟨Q,_,rfl,C,B⟩:=w.inv;rw[C.fr.int,B.cO];split at hp
  .rename_i hc;simp  at hp;subst hp;obtain⟨ob,u⟩:=Option.isSome_iff_exists.1 hc.2.2;obtain⟨k,es,O,rfl,hk,rfl⟩:=h1.wO u;refine⟨.hptr (ν _).1 (_+_) (_+_),by simp only[bn,vF,if_pos (And.intro hc.1 hc.2.1)];rfl,.el _ _ _ _ λD A=>?_⟩
   rw[u]at A;cases A;exact⟨_,_,_,rfl,hk,rfl⟩
  .simp at hp
 .
  obtain⟨G,_,rfl,h1,w⟩:=h.inv;rw[w.cO];split at hp
  .rename_i k es O u;simp  at hp;subst hp;obtain⟨S,J,L,e,rfl⟩:=h1.jw u;cases e;have:=ho _ _ u;simp[dN]at this;cases hk:k <;> simp[hk,cC]at this ⊢
   .subst this;exact⟨_,rfl,.v _ _ (.same _ rfl)⟩
   .subst this;exact⟨_,rfl,.v _ _ (.same _ rfl)⟩
   .exact⟨_,rfl,.v _ _ (.same _ rfl)⟩
   .exact⟨_,rfl,.v _ _ (.same _ rfl)⟩
  .simp at hp
 .
  rename_i vs name k;simp  at hp;subst hp;exact⟨_,rfl,.clo _ _ _ _ _ (h.take k).1 (h.drop k).1 (h.take k).2 (h.drop k).2⟩
 .
  obtain⟨G,_,rfl,h1,w⟩:=h.inv;rw[w.cO];obtain⟨ws,rfl,U⟩:=h1.oR;obtain⟨z,hz,W⟩:=U.get hp;exact⟨z,hz,W⟩
 .
  rename_i vs zero pl;obtain⟨l,hl,rfl⟩:=ζf.1 hp;obtain⟨l',h1,w⟩:=GU (bT.p8 (cW.same (Y zero pl rfl))) h hl;exact⟨.agg l',by simp[Go.VE.bn,h1],.agg _ _ w.1 w.2⟩
 .
  obtain⟨G,_,rfl,h1,w⟩:=h.inv;rw[w.cO];obtain⟨ws,rfl,U⟩:=h1.gT;obtain⟨y,hy,X⟩:=Fa U hp;exact⟨y,by simp[Go.VE.bn];exact hy,X⟩
 grind
theorem FW {p:tY} {svs:List SV} {ys:List V} {sv:SV} (B:∀zero pl,p=.build zero pl->V.cD zero=true) (D:∀d ob,a_ m d=some ob->dN ν m H Z d ob) (h:bT ν m H Z svs ys) (hp:iW N m p svs=some sv) :
 ∃y,bn N p ys=some y/\cS ν m H Z sv y:=by
 unfold iW at hp;split at hp
 .rename_i G u;obtain⟨z,w,rfl⟩:=ζf.1 hp;rw[tJ u]at h;obtain⟨A,h1,C⟩:=cW.bn B h.SI w;exact⟨A,h1,.v _ _ C⟩
 .exact Nk B D h hp
theorem bT.cZ {svs:List SV} {xs ys:List V} (h:bT ν m H Z svs ys) (B:cZ svs=some xs):cW H Z xs ys:=by
 rw[tJ B]at h;exact h.SI
theorem Bp {k:V}:∀{a b:List (V×V)} {i:Nat},BR H Z a b->(gR k a i=some none->gR k b i=some none)/\∀j v,gR k a i=some (some (j,v))->∃B,gR k b i=some (some (j,B))/\FR H Z v B
 | [],b,i,h=>by
  have:b=[]:=List.length_eq_zero_iff.1 (by have:=h.1;grind)
  subst this;exact⟨λh=>h,λj v h=>by simp[gR]at h⟩
 | (k1,x)::a,[],i,h=>by have:=h.1;grind
 | (k1,x)::a,(z,y)::b,i,h=>by
  obtain⟨⟨e,_⟩,A⟩:=h.2 0 _ _ rfl rfl;subst e;have w:BR H Z a b:=⟨by have:=h.1;grind,λj u v hu hv=>h.2 (j+1) u v (by grind) (by grind)⟩
  have C:=Bp (i:=i+1) (k:=k) w;simp only[gR]
  grind
theorem ue {kk:vP} {k:V} (h:oK kk k=true):k.scalar=true:=by
 unfold oK at h;split at h
 .rfl
 .rfl
 .simp  at h;obtain⟨a,u⟩:=Option.isSome_iff_exists.1 h.2;exact qe u
 grind
theorem uZ {r:H6} {svs:List SV} {ys:List V} {sv:SV} (ab:∀s a,r≠.loadF s a) (U:∀kk z ok,r=.lookup kk z ok->z.good=true) (h:bT ν m H Z svs ys) (ho:∀d,SV.di d svs=true->∀ob,a_ m d=some ob->dN ν m H Z d ob) (hp:nZ m r svs=some sv) :
 ∃y,ga H r ys=some y/\cS ν m H Z sv y:=by
 unfold nZ at hp;split at hp
 .
  obtain⟨W,_,rfl,h1,I⟩:=h.inv;rw[I.cO];split at hp
  .rename_i cs u;obtain⟨al,e,rfl⟩:=h1.nM u;obtain⟨es,am,hr,hc,_⟩:=ho _ (by simp[SV.di,SV.cM]) _ u
   obtain⟨y,hy,ad⟩:=Fa hc hp;refine⟨y,?_,ad⟩;simp[ga,ei,hr,Ob.rows,List.getElem?_cons_zero];omega
  grind
 .
  obtain⟨W,_,rfl,h1,I⟩:=h.inv;rw[I.cO];split at hp
  .rename_i k es xs u;split at hp
   .rename_i cs X;obtain⟨z,J,rfl⟩:=ζf.1 hp;obtain⟨k1,an,ao,e,hk,rfl⟩:=h1.wO u;cases e;have:=ho _ (by simp[SV.di,SV.cM]) _ u
    simp[dN,hk]at this;obtain⟨rs,hr,hl,A,_⟩:=this;obtain⟨c,hc,ae⟩:=A.get X;have hj:=(ζe.1 X).1;rw[List.getElem?_take,if_pos hj,List.getElem?_drop]at hc;obtain⟨r1,w,B⟩:=ζg.1 J;obtain⟨r2,O,C⟩:=ae.cut w;obtain⟨z',Q,Y⟩:=C.mk B;refine⟨z',?_,.v _ _ Y⟩;simp[ga,ei,hr,Ob.rows,hc,O,Q]
   grind
  grind
 .
  rename_i size agg p;obtain⟨W,_,rfl,h1,I⟩:=h.inv;rw[I.cO];obtain⟨z,J,rfl⟩:=ζf.1 hp;obtain⟨r1,w,B⟩:=ζg.1 J;unfold ei at w;split at w
  .rename_i cs;rcases h1.fr.k_ with rfl|⟨id,el,off,es,ys,af,rfl,Y,hr,he,ap,A⟩
   .refine⟨z,by simp[ga,ei,w,B],.v _ _ (.same _ ?_)⟩
    have ah  := by have:=h1.fr.good;simpa [V.good]using this
    obtain⟨r',aq,C⟩:=(cW.same (H:=H) (Z:=Z) ah).cut w;obtain⟨z',Q,D⟩:=C.mk B;exact D.good
   .obtain⟨r2,O,C⟩:=A.cut w;obtain⟨z',Q,D⟩:=C.mk B;refine⟨z',?_,.v _ _ D⟩;unfold bl at hr;simp[ga,ei,hr,he];have:cut af off size=some r2:=by
     unfold cut at O ⊢
     grind
    grind
  .grind
  grind
 .
  rename_i kk z ok d k;obtain⟨W,_,rfl,h1,I⟩:=h.inv;obtain⟨w2,_,rfl,h3,h4⟩:=I.inv;rw[h4.cO];split at hp
  .rename_i S u;split at hp
   .rename_i hk;obtain⟨_,e,rfl⟩:=h1.BT u;have T:=h3.fr.scalar.1 (ue hk);subst T;obtain⟨ak,hr,ai⟩:=ho _ (by simp[SV.di,SV.cM]) _ u
    obtain⟨f1,f2⟩:=Bp   ai;split at hp
    .rename_i j v A;obtain⟨v',aj,aa⟩:=f2 j v A;simp  at hp;subst hp;refine⟨if ok=true then .tup [v',.bool true]else v',by simp[ga,lT,hr,hk,aj],?_⟩
     cases ok
     .exact .v _ _ aa
     .refine .v _ _ (.tup _ _ rfl (cW.cons aa (.cons (.same _ rfl) .nil)).2)
    .rename_i A;simp  at hp;subst hp;refine⟨if ok=true then .tup [z,.bool false]else z,by simp[ga,lT,hr,hk,f1 A],?_⟩
     have J:=U kk z ok rfl;cases ok
     .exact .v _ _ (.same _ J)
     .exact .v _ _ (.same _ (by simp[V.good,V.cD,J]))
    grind
   grind
  grind
 .
  rename_i kk z ok p k;obtain⟨W,_,rfl,h1,I⟩:=h.inv;obtain⟨w2,_,rfl,h3,h4⟩:=I.inv;rw[h4.cO];obtain⟨x,G,rfl⟩:=ζf.1 hp;simp[ga]at G;have J:=U kk z ok rfl;split at G
  .rename_i S L;have key:lT H W=some S/\V.ri S=true:=by
    unfold lT at L;split at L
    .rw[h1.fr.fR];simp  at L;subst L;exact⟨rfl,rfl⟩
    .rw[h1.fr.fmap];simp  at L;subst L;exact⟨rfl,by have:=h1.fr.good;simpa [V.good]using this⟩
    .simp at L
    .simp at L
   split at G
   .rename_i hk;have T:=h3.fr.scalar.1 (ue hk);subst T;split at G
    .rename_i j v A;simp  at G;subst G;have hv  := by
      have:∀{l:List (V×V)} {i:Nat},V.ri l=true->gR w2 l i=some (some (j,v))->v.good=true:=by
       intro l
       induction l with
       | nil=>intro i _ h;simp[gR]at h
       | cons p l ih=>
        intro i hg h;simp[V.ri]at hg;simp[gR]at h;split at h
        .obtain⟨_,rfl⟩:=h;exact hg.1.2
        .exact ih hg.2 h
        .simp at h
      exact this key.2 A
     refine⟨if ok=true then .tup [v,.bool true]else v,by simp[ga,key.1,hk,A],?_⟩
     cases ok
     .exact .v _ _ (.same _ hv)
     .exact .v _ _ (.same _ (by simp[V.good,V.cD,hv]))
    .rename_i A;simp  at G;subst G;refine⟨if ok=true then .tup [z,.bool false]else z,by simp[ga,key.1,hk,A],?_⟩
     cases ok
     .exact .v _ _ (.same _ J)
     .exact .v _ _ (.same _ (by simp[V.good,V.cD,J]))
    .simp at G
   .simp at G
  .simp at G
 .exact absurd rfl (ab _ _)
 grind
end
end Go.VE
namespace Go.VE
variable [bN]
section
variable {Rv:Nat->Prop} {ν ν':Nu} {Z Z':Nat->Prop} {st st':St} {m m':Tb bu} {F F':Frame} {H H':bf}
theorem R.lt (r:R ν Z st F H) {id:Nat} (h:eT ν st.m id):id<H.length:=by
 obtain⟨d,ob,h1,u,rfl⟩:=h;have:=r.obj d ob h1
 cases ob with
 | sl k es B=>
  simp only[cm]at u;simp only[dN,u,if_true]at this;obtain⟨C,hr,_⟩:=this;exact(ζe.1 hr).1
 | box cs=>obtain⟨es,z,hr,_⟩:=this;exact(ζe.1 hr).1
 | mp A=>obtain⟨w,hr,_⟩:=this;exact(ζe.1 hr).1
theorem R.uT (r:R ν Z st F H) {id:Nat} (h:Z id):id<H.length:=by
 have:=r.zrow id h;unfold bl at this;obtain⟨x,u⟩:=Option.isSome_iff_exists.1 this;obtain⟨ob,h1,_⟩:=ζg.1 u;exact(ζe.1 h1).1
theorem Deep.mono (d:Deep H Z) (h:∀id,Z id->bl H' id=bl H id):Deep H' Z where
 row:=λid es z w hr c hc u hu=>by
  rw[h id w]at hr;obtain⟨x,A⟩:=d.row id es z w hr c hc u hu;exact⟨x,A.mono λk hk=>⟨hk,h k hk⟩⟩
theorem uk.mono {ys:List (List V)} (h:∀id,Z id->Z' id/\bl H' id=bl H id) (s:uk H Z ys):uk H' Z' ys:=λc hc u hu=>by
 obtain⟨x,w⟩:=s c hc u hu;exact⟨x,w.mono h⟩
theorem BR.mono {a b:List (V×V)} (h:∀id,Z id->Z' id/\bl H' id=bl H id) (s:BR H Z a b):BR H' Z' a b:=⟨s.1,λj u v hu hv=>⟨(s.2 j u v hu hv).1,(s.2 j u v hu hv).2.mono h⟩⟩
theorem dN.mono {d G:Nat} {ob:bu} (B:∀id,Z id->Z' id/\bl H' id=bl H id) (hd:ν' G=ν d) (D:cm ob=true->H'[(ν d).1]? = H[(ν d).1]?)
 (J:∀e,ob.cM e=true->∀ob',a_ m' e=some ob'->∃ob,a_ m e=some ob/\ν' e=ν e/\sameShape ob ob') (o:dN ν m H Z d ob):dN ν' m' H' Z' G ob:=by
 cases ob with
 | sl k es Q=>
  simp only[dN,hd]at o ⊢;split
  .rename_i hk;rw[if_pos hk]at o;obtain⟨C,h1,u,z,I,L⟩:=o;exact⟨C,by rw[D (by simpa [cm]using hk)];exact h1,u,z.mono B,I.mono B,L⟩
  .rename_i hk;rw[if_neg hk]at o;exact o
 | box cs=>
  obtain⟨es,A,h1,u,z⟩:=o;exact⟨es,A,by rw[hd,D rfl];exact h1,u.mono B J,z⟩
 | mp O=>
  obtain⟨w,h1,u⟩:=o;exact⟨w,by rw[hd,D rfl];exact h1,u.mono B⟩
theorem hU (ν:Nu) (m:Tb bu) (e:Nat):∀ob',a_ m e=some ob'->∃ob,a_ m e=some ob/\ν e=ν e/\sameShape ob ob':=λob' h=>⟨ob',h,rfl,.refl _⟩
theorem R.heap (r:R ν Z st F H) (D:∀id,eT ν st.m id->H'[id]? = H[id]?) (B:∀id,Z id->bl H' id=bl H id):R ν Z st F H' where
 slot:=λs u w=>(r.slot s u w).mono (λid h=>⟨h,B id h⟩) λd _=>hU ν st.m d
 obj:=λd ob hd=>dN.mono (λid h=>⟨h,B id h⟩) rfl (λz=>D _ ⟨d,ob,hd,z,rfl⟩) (λe _=>hU ν st.m e) (r.obj d ob hd)
 inj:=r.inj
 apart:=r.apart
 zrow:=λid h=>by rw[B id h];exact r.zrow id h
 deep:=r.deep.mono B
theorem R.put (r:R ν Z st F H) {d:Nat} {sv:SV} {y:V} (h:cS ν st.m H Z sv y):R ν Z { st with g:=bH st.g d sv } (set F d y) H where
 slot:=λs x u=>by
  by_cases e:d=s
  .subst e;rw[cr]at u;cases u;rw[rj];exact h
  .rw[dF st.g sv e]at u;rw[gC _ _ e];exact r.slot s x u
 obj:=r.obj
 inj:=r.inj
 apart:=r.apart
 zrow:=r.zrow
 deep:=r.deep
theorem Ev.slots (g:Tb SV):Ev Rv ν Z st H ν Z { st with g:=g } H:=
 ⟨Nat.le_refl _,λ_ _ _ _ _=>rfl,λ_ h=>⟨h,rfl⟩,λ_ h=>.inl h,λ_ h=>.inl h,λ_ _ u h=>⟨u,h,rfl,.refl _⟩,rfl⟩
def gZ (ν:Nu) (d:Nat) (p:Nat×Nat):Nu:=λk=>if k=d then p else ν k
theorem gp (ν:Nu) (d:Nat) (p:Nat×Nat):gZ ν d p d=p:=if_pos rfl
theorem nN (ν:Nu) {d k:Nat} (p:Nat×Nat) (h:k≠d):gZ ν d p k=ν k:=if_neg h
theorem k8 {d:Nat} (h:st.new d=true):d∉st.pin/\a_ st.m d=none/\uA d st.g=false/\q9 d st.m=false:=by
 unfold St.new at h;simp only[ζh,Bool.not_eq_true',Option.isNone_iff_eq_none,List.contains_eq_mem,decide_eq_false_iff_not]at h;exact⟨h.1.1.1,h.1.1.2,h.1.2,h.2⟩
theorem rW {d:Nat} {ob:bu} {p:Nat×Nat} {e:Nat} (h:e≠d):∀ob',a_ (bH m d ob) e=some ob'->∃ob,a_ m e=some ob/\gZ ν d p e=ν e/\sameShape ob ob':=λob' u=>by
 rw[dF m ob (Ne.symm h)]at u;exact⟨ob',u,nN ν p h,.refl _⟩
theorem R.add (r:R ν Z st F H) {d:Nat} (T:st.new d=true) {ob:bu} {p:Nat×Nat} (D:cm ob=true->¬eT ν st.m p.1/\¬Z p.1) (U:dN (gZ ν d p) (bH st.m d ob) H Z d ob) :
 R (gZ ν d p) Z { st with m:=bH st.m d ob } F H:=by
 obtain⟨S,W,L,O⟩:=k8 T;have key:∀w u,a_ (bH st.m d ob) w=some u->w≠d->a_ st.m w=some u:=λw u h e=>by rw[dF st.m ob (Ne.symm e)]at h;exact h
 refine⟨λs Q I=>?_,λw u hd=>?_,?_,?_,r.zrow,r.deep⟩
 .refine(r.slot s Q I).mono (λid h=>⟨h,rfl⟩) λe J=>rW ?_
  rintro rfl;rw[xA L I]at J;cases J
 .by_cases e:w=d
  .subst e;simp only at hd;rw[cr]at hd;cases hd;exact U
  .have B:=key w u hd e;refine dN.mono (λid h=>⟨h,rfl⟩) (nN ν p e) (λ_=>rfl) (λk hk=>rW ?_) (r.obj w u B)
   rintro rfl;rw[xk O B]at hk;cases hk
 .intro d1 d2 o1 o2 h1 C z G A
  by_cases e1:d1=d <;> by_cases e2:d2=d
  .rw[e1,e2]
  .subst e1;rw[gp,nN ν p e2]at A;simp only at h1;rw[cr]at h1;cases h1;exact absurd ⟨d2,o2,key d2 o2 C e2,G,A.symm⟩ (D z).1
  .subst e2;rw[gp,nN ν p e1]at A;simp only at C;rw[cr]at C;cases C;exact absurd ⟨d1,o1,key d1 o1 h1 e1,z,A⟩ (D G).1
  .rw[nN ν p e1,nN ν p e2]at A;exact r.inj d1 d2 o1 o2 (key d1 o1 h1 e1) (key d2 o2 C e2) z G A
 .intro d1 o1 h1 z
  by_cases e1:d1=d
  .subst e1;simp only at h1;rw[cr]at h1;cases h1;rw[gp];exact(D z).2
  .rw[nN ν p e1];exact r.apart d1 o1 (key d1 o1 h1 e1) z
theorem Cx {d:Nat} {ob:bu} {p:Nat×Nat} {id:Nat} (h:eT (gZ ν d p) (bH m d ob) id):eT ν m id\/(cm ob=true/\id=p.1):=by
 obtain⟨k,o,h1,w,u⟩:=h
 by_cases e:k=d
 .subst e;rw[cr]at h1;cases h1;rw[gp]at u;exact .inr ⟨w,u.symm⟩
 .rw[nN ν p e]at u;rw[dF m ob (Ne.symm e)]at h1;exact .inl ⟨k,o,h1,w,u⟩
theorem Ev.add {d:Nat} (B:st.new d=true) {ob:bu} {p:Nat×Nat} (D:H.length<=H'.length) (G:∀id,id<H.length->¬Rv id->H'[id]? = H[id]?) (J:∀id,Z id->bl H' id=bl H id)
 (hp:cm ob=true->Rv p.1\/H.length<=p.1):Ev Rv ν Z st H (gZ ν d p) Z { st with m:=bH st.m d ob } H' where
 len:=D
 same:=λid h _ _ hr=>G id h hr
 rows:=λid h=>⟨h,J id h⟩
 own:=λid h=>by
  rcases Cx h with h|⟨h1,rfl⟩
  .exact .inl h
  .exact .inr (hp h1)
 frz:=λid h=>.inl h
 pin:=λe w u h=>by
  have:e≠d:=by rintro rfl;exact(k8 B).1 w
  exact rW this u h
 pins:=rfl
theorem R.gb (r:R ν Z st F H) {d:Nat} {ob ob':bu} (D:a_ st.m d=some ob) (G:sameShape ob ob') (U:cm ob'=cm ob) (T:∀id,id≠(ν d).1->H'[id]? = H[id]?) (B:cm ob=true)
 (W:dN ν (bH st.m d ob') H' Z d ob'):R ν Z { st with m:=bH st.m d ob' } F H':=by
 have z:∀id,Z id->Z id/\bl H' id=bl H id:=λid h=>⟨h,by
  unfold bl;rw[T id (by rintro rfl;exact r.apart d ob D B h)]⟩
 have sm:∀e u,a_ (bH st.m d ob') e=some u->∃w,a_ st.m e=some w/\ν e=ν e/\sameShape w u:=λe u h=>by
  by_cases k:e=d
  .subst k;rw[cr]at h;cases h;exact⟨ob,D,rfl,G⟩
  .rw[dF st.m ob' (Ne.symm k)]at h;exact⟨u,h,rfl,.refl _⟩
 have A:∀e u,a_ (bH st.m d ob') e=some u->∃w,a_ st.m e=some w/\cm w=cm u:=λe u h=>by
  by_cases k:e=d
  .subst k;rw[cr]at h;cases h;exact⟨ob,D,U.symm⟩
  .rw[dF st.m ob' (Ne.symm k)]at h;exact⟨u,h,rfl⟩
 refine⟨λs O G=>(r.slot s O G).mono z λe _=>sm e,λC u hd=>?_,?_,?_,λid h=>by rw[(z id h).2];exact r.zrow id h,r.deep.mono λid h=>(z id h).2⟩
 .by_cases e:C=d
  .subst e;simp only at hd;rw[cr]at hd;cases hd;exact W
  .simp only at hd;rw[dF st.m ob' (Ne.symm e)]at hd;refine dN.mono z rfl (λI=>T _ λh=>e (r.inj C d u ob hd D I B h)) (λk _=>sm k) (r.obj C u hd)
 .intro d1 d2 o1 o2 h1 Q J S X;obtain⟨p1,k1,L⟩:=A d1 o1 h1;obtain⟨p2,Y,l2⟩:=A d2 o2 Q;exact r.inj d1 d2 p1 p2 k1 Y (by rw[L];exact J) (by rw[l2];exact S) X
 .intro d1 o1 h1 J;obtain⟨p1,k1,L⟩:=A d1 o1 h1;exact r.apart d1 p1 k1 (by rw[L];exact J)
theorem Ev.gb (r:R ν Z st F H) {d:Nat} {ob ob':bu} (D:a_ st.m d=some ob) (J:sameShape ob ob') (U:cm ob'=cm ob) (G:∀id,id≠(ν d).1->H'[id]? = H[id]?) (B:cm ob=true) (T:H.length<=H'.length) :
 Ev Rv ν Z st H ν Z { st with m:=bH st.m d ob' } H' where
 len:=T
 same:=λid _ z _ _=>G id λe=>z ⟨d,ob,D,B,e.symm⟩
 rows:=λid h=>⟨h,by unfold bl;rw[G id (by rintro rfl;exact r.apart d ob D B h)]⟩
 own:=λid ⟨k,o,h1,A,w⟩=>by
  by_cases e:k=d
  .subst e;simp only at h1;rw[cr]at h1;cases h1;exact .inl ⟨k,ob,D,B,w⟩
  .simp only at h1;rw[dF st.m ob' (Ne.symm e)]at h1;exact .inl ⟨k,o,h1,A,w⟩
 frz:=λid h=>.inl h
 pin:=λe _ u h=>by
  by_cases k:e=d
  .subst k;simp only at h;rw[cr]at h;cases h;exact⟨ob,D,rfl,J⟩
  .simp only at h;rw[dF st.m ob' (Ne.symm k)]at h;exact⟨u,h,rfl,.refl _⟩
 pins:=rfl
theorem R.less (r:R ν Z st F H) {g:Tb SV} {m':Tb bu} (hg:∀s sv,a_ g s=some sv->a_ st.g s=some sv) (B:∀d ob,a_ m' d=some ob->a_ st.m d=some ob):R ν Z { st with g:=g,m:=m' } F H where
 slot:=λs sv z=>(r.slot s sv (hg s sv z)).mono (λid h=>⟨h,rfl⟩) λe _ u h=>⟨u,B e u h,rfl,.refl _⟩
 obj:=λd ob hd=>dN.mono (λid h=>⟨h,rfl⟩) rfl (λ_=>rfl) (λe _ u h=>⟨u,B e u h,rfl,.refl _⟩) (r.obj d ob (B d ob hd))
 inj:=λd w ob u h1 A=>r.inj d w ob u (B d ob h1) (B w u A)
 apart:=λd ob h=>r.apart d ob (B d ob h)
 zrow:=r.zrow
 deep:=r.deep
theorem Ev.less {g:Tb SV} {m':Tb bu} (B:∀d ob,a_ m' d=some ob->a_ st.m d=some ob):Ev Rv ν Z st H ν Z { st with g:=g,m:=m' } H:=
 ⟨Nat.le_refl _,λ_ _ _ _ _=>rfl,λ_ h=>⟨h,rfl⟩,λ_ ⟨d,ob,h1,w,z⟩=>.inl ⟨d,ob,B d ob h1,w,z⟩,λ_ h=>.inl h,λe _ u h=>⟨u,B e u h,rfl,.refl _⟩,rfl⟩
theorem Ev.heap (B:H.length<=H'.length) (D:∀id,id<H.length->¬eT ν st.m id->¬Z id->¬Rv id->H'[id]? = H[id]?) (G:∀id,Z id->bl H' id=bl H id):Ev Rv ν Z st H ν Z st H':=
 ⟨B,D,λid h=>⟨h,G id h⟩,λ_ h=>.inl h,λ_ h=>.inl h,λ_ _ u h=>⟨u,h,rfl,.refl _⟩,rfl⟩
end
end Go.VE
namespace Go.VE
variable [bN]
section
variable {Rv:Nat->Prop} {ν ν':Nu} {Z Z':Nat->Prop} {st st':St} {m m':Tb bu} {F F':Frame} {H H':bf}
theorem fH.EB {xs ys:List (List V)} (h:fH H Z xs ys):uk H Z ys:=λc hc u hu=>by
 obtain⟨i,hi⟩:=List.mem_iff_getElem?.1 hc;have z:i<xs.length:=by rw[h.1];grind
 have hr:=h.2 i _ c (ζd z) hi;obtain⟨j,A⟩:=List.mem_iff_getElem?.1 hu;have w:j<(xs[i]).length:=by rw[hr.1];grind
 exact⟨_,hr.2 j _ u (ζd w) A⟩
theorem fH.same {xs:List (List V)} (h:V.lY xs=true):fH H Z xs xs:=
 ⟨rfl,λj u v hu hv=>by rw[hu]at hv;cases hv;exact cW.same (kH.1 h j u hu)⟩
theorem nD {z:List V} (h:V.cD z=true):∀n,V.lY (List.replicate n z)=true
 | 0=>rfl
 | n+1=>by simp[List.replicate_succ,V.lY,h,nD h n]
theorem Am {es:Nat}:∀{ps qs:List (Nat×V)} {xs B r:List (List V)},fH H Z xs B->ps.map (·.1)=qs.map (·.1)->cW H Z (ps.map (·.2)) (qs.map (·.2))->gL es xs ps=some r->∃G,gL es B qs=some G/\fH H Z r G
 | [],qs,xs,B,r,D,h1,J,h=>by
  have:qs=[]:=by simp_all
  subst this;simp[gL]at h ⊢;grind
 | (i,v)::ps,qs,xs,B,r,D,h1,J,h=>by
  cases qs with
  | nil=>simp_all
  | cons q qs=>
   obtain⟨j,w⟩:=q;simp  at h1;obtain⟨e,h1⟩:=h1;subst e;obtain⟨w',A,e,u,z⟩:=J.inv;obtain⟨rfl,rfl⟩:=e;have hc:=u.cells;simp only[gL]at h ⊢;split at h
   .rw[if_pos ⟨by rw[<-hc.1];grind,by rw[<-D.1];grind,by rw[hc.one];grind⟩]
    exact Am (D.set i hc) h1 z h
   grind
theorem zip_fst:∀{idx:List Nat} {xs:List V},idx.length=xs.length->(idx.zip xs).map (·.1)=idx
 | [],xs,_=>by simp
 | i::idx,[],h=>by simp_all
 | i::idx,x::xs,h=>by simp[zip_fst (idx:=idx) (xs:=xs) (by grind)]
theorem CZ:∀{idx:List Nat} {xs:List V},idx.length=xs.length->(idx.zip xs).map (·.2)=xs
 | [],[],_=>by simp
 | [],x::xs,h=>by simp_all
 | i::idx,[],h=>by simp_all
 | i::idx,x::xs,h=>by simp[CZ (idx:=idx) (xs:=xs) (by grind)]
theorem K3 {a:Md} {svs:List SV} {ys:List V} {d:Nat} {ob:bu} {sv:SV} (hk:zY (.a a)=true) (r:bT ν m H Z svs ys) (h:oC m a svs d=some (ob,sv)) :
 ∃o mk,lF a ys=some (o,mk)/\cm ob=true/\o≠.free/\∀(id:Nat) (ν':Nu) (m':Tb bu) (H':bf),ν' d=(id,0)->a_ m' d=some ob->H'[id]? = some o->(∀k,Z k->bl H' k=bl H k) ->
  (∀e,SV.di e svs=true->∀ob',a_ m' e=some ob'->∃ob,a_ m e=some ob/\ν' e=ν e/\sameShape ob ob')->dN ν' m' H' Z d ob/\cS ν' m' H' Z sv (mk.val id):=by
 unfold oC at h;split at h
 .
  rename_i size zero;obtain⟨rfl,rfl⟩:=h;rw[r.cO];simp only[zY,ζh]at hk;refine⟨_,_,rfl,rfl,by simp,λid ν' m' H' e1 e2 e3 e4 e5=>⟨⟨_,zero,by rw[e1];omega,bT.p8 (cW.same hk.1),hk.2⟩,?_⟩⟩
  exact .ptr _ _ _ λob' u=>by rw[e2]at u;cases u;exact⟨_,rfl,by rw[e1];rfl⟩
 .
  split at h
  .rename_i B;obtain⟨rfl,rfl⟩:=h;obtain⟨y,_,rfl,h1,A⟩:=r.inv;rw[A.cO];have hc:=h1.fr.cells;refine⟨.row y.cells.length [y.cells],.ptr,by simp[lF,hc.one,B],rfl,by simp,λid ν' m' H' e1 e2 e3 e4 e5=>⟨⟨_,y.cells,by rw[e1];omega,bT.p8 (hc.mono λk hk=>⟨hk,e4 k hk⟩),by rw[hc.one];simp_all⟩,?_⟩⟩
   exact .ptr _ _ _ λob' u=>by rw[e2]at u;cases u;exact⟨_,rfl,by rw[e1];rfl⟩
  grind
 .
  split at h
  .rename_i z;obtain⟨rfl,rfl⟩:=h;obtain⟨y,_,rfl,h1,A⟩:=r.inv;rw[A.cO];obtain⟨O,rfl,U⟩:=h1.gT;have I:=DU z U;refine⟨.row O.length [O],.ptr,by simp[lF,V.cells,I],rfl,by simp,λid ν' m' H' e1 e2 e3 e4 e5=>⟨⟨_,O,by rw[e1];omega,U.mono (λk hk=>⟨hk,e4 k hk⟩) λe Q=>e5 e (by simp[SV.di,SV.cM,Q]),I⟩,?_⟩⟩
   exact .ptr _ _ _ λob' u=>by rw[e2]at u;cases u;exact⟨_,rfl,by rw[e1];rfl⟩
  grind
 .
  split at h
  .rename_i z;obtain⟨rfl,rfl⟩:=h;obtain⟨y,_,rfl,h1,A⟩:=r.inv;rw[A.cO];obtain⟨W,I⟩:=kP z h1;refine⟨.row [y].length [[y]],.ptr,by simp[lF,W,I],rfl,by simp,λid ν' m' H' e1 e2 e3 e4 e5=>⟨⟨_,[y],by rw[e1];omega,.cons (h1.mono (λk hk=>⟨hk,e4 k hk⟩) λe Q=>e5 e (by simp[SV.di,Q])) .nil,by simp_all⟩,?_⟩⟩
   exact .ptr _ _ _ λob' u=>by rw[e2]at u;cases u;exact⟨_,rfl,by rw[e1];rfl⟩
  grind
 .
  rename_i size zero k n k' c;obtain⟨_,_,rfl,h1,A⟩:=r.inv;obtain⟨_,_,rfl,X,Y⟩:=A.inv;rw[h1.fr.int,X.fr.int,Y.cO];split at h
  .rename_i hc;obtain⟨rfl,rfl⟩:=h;have S:cC (if n=c then Fl.row else Fl.part)=true:=by split <;> rfl
   refine⟨_,_,by simp only[lF];rw[if_pos hc],S,by simp,λid ν' m' H' e1 e2 e3 e4 e5=>⟨?_,?_⟩⟩
   .simp[dN,S,e1];have hg:=nD hk c.toNat;have T:n.toNat<=c.toNat:=by omega
    refine⟨_,e3,by simp_all,?_,(fH.same hg).EB,λe=>?_⟩
    .simp[Nat.min_eq_left T];exact fH.same (nD hk _)
    grind
   .refine .own _ _ λob' u=>?_
    rw[e2]at u;cases u;exact⟨_,_,_,rfl,by rw[qH S,e1];simp[Mk.val]⟩
  grind
 .
  rename_i vs size len zero idx;split at h
  .rename_i xs hx;split at h
   .rename_i z;obtain⟨rows,hr,e⟩:=ζf.1 h;obtain⟨rfl,rfl⟩:=e;have J:=r.cZ hx;obtain⟨rows',C,w⟩:=Am   (qs:=idx.zip ys) (fH.same (nD hk len)) (by rw[zip_fst z,zip_fst (by rw[<-J.1];exact z)]) (by rw[CZ z,CZ (by rw[<-J.1];exact z)];exact J) hr
    have D:rows'.length=len:=by
     have:∀{L:List (Nat×V)} {a r:List (List V)},gL size a L=some r->r.length=a.length:=by
      intro L
      induction L with
      | nil=>intro a r h;simp[gL]at h;subst h;rfl
      | cons p L ih=>
       intro a r h;simp only[gL]at h;split at h
       .rw[ih h];simp
       .simp at h
     rw[this C];simp
    refine⟨.row size rows',.sl size len,by simp only[lF];rw[if_pos (by rw[<-J.1];exact z),C];rfl,rfl,by simp,λid ν' m' H' e1 e2 e3 e4 e5=>⟨?_,?_⟩⟩
    .have G:=w.mono   λk hk=>⟨hk,e4 k hk⟩
     simp only[dN,e1];refine⟨_,e3,by simp[w.1],?_,G.EB,λ_=>⟨trivial,w.1.symm⟩⟩
     simp[w.1];exact G
    .refine .own _ _ λob' u=>?_
     rw[e2]at u;cases u;exact⟨_,_,_,rfl,by rw[w.1,D];simp[qX,e1,Mk.val]⟩
   grind
  grind
 .
  obtain⟨rfl,rfl⟩:=h;rw[r.cO];refine⟨_,_,rfl,rfl,by simp,λid ν' m' H' e1 e2 e3 e4 e5=>⟨⟨_,by rw[e1];exact e3,rfl,by simp⟩,?_⟩⟩
  exact .mp _ _ λob' u=>by rw[e2]at u;cases u;exact⟨_,rfl,by rw[e1];rfl⟩
 grind
theorem bT.Su {cs:List SV} {B:List V} (h:bT ν m H Z cs B) {size o:Nat} {x:SV} {y:V} {r:List SV} (G:cS ν m H Z x y) (hp:putCells m size o x cs=some r) (D:B.all V.one=true) :
 y.cells.length=size/\o+size<=B.length/\y.cells.all V.one=true/\bT ν m H Z r (B.take o++y.cells++B.drop (o+y.cells.length))/\(B.take o++y.cells++B.drop (o+y.cells.length)).all V.one=true:=by
 have u:∀k:Nat,(B.take k).all V.one=true/\(B.drop k).all V.one=true:=λk=>
  ⟨List.all_eq_true.2 λz A=>List.all_eq_true.1 D z (List.mem_of_mem_take A),List.all_eq_true.2 λz A=>List.all_eq_true.1 D z (List.mem_of_mem_drop A)⟩
 unfold putCells at hp;split at hp
 .split at hp
  .rename_i hc;simp only[ζa]at hp;subst hp;have w:=G.fr.cells;refine⟨by rw[<-w.1];simp_all,by rw[<-h.1];grind,by rw[w.one];grind,?_,?_⟩
   .have e:y.cells.length=size:=by rw[<-w.1];simp_all
    rw[e];exact((h.take o).append (bT.p8 w)).append (h.drop _)
   .simp only[List.all_append,(u _).1,(u _).2,w.one,hc.2.2,Bool.and_self]
  grind
 .split at hp
  .rename_i hc;simp only[ζa]at hp;subst hp;obtain⟨C,rfl,I⟩:=G.gT;have J:=DU hc.2.2 I;have e:C.length=size:=by rw[<-I.1];simp_all
   refine⟨e,by rw[<-h.1];grind,J,?_,?_⟩
   .show bT ν m H Z _ (B.take o++C++B.drop (o+C.length));rw[e];exact((h.take o).append I).append (h.drop _)
   .simp[(u _).1,(u _).2,V.cells,J]
  grind
 .split at hp
  .rename_i hc;simp only[ζa]at hp;subst hp;obtain⟨L,O⟩:=kP hc.1 G;rw[L];refine⟨by simp[hc.2.1],by rw[<-h.1];grind,by simp_all,?_,?_⟩
   .exact((h.take o).append (.cons G .nil)).append (h.drop _)
   grind
  grind
theorem th {size:Nat} {x:SV} {y:V} {xs:List (List V)} (r:cS ν m H Z x y) (D:∀d ob,a_ m d=some ob->dN ν m H Z d ob) (h:jF m size x=some xs):∃ys,dx H size y=some ys/\fH H Z xs ys:=by
 unfold jF at h;split at h
 .split at h
  .rename_i k es z u;obtain⟨_,_,_,e,rfl⟩:=r.jw u;cases e;have o:=D _ _ u;simp[dN]at o;split at h
   .rename_i hk;rw[if_pos hk]at o;split at h
    .rename_i w;simp  at h;subst h;obtain⟨ys,hr,A,B,_⟩:=o;rw[qH hk];exact⟨_,by simp[dx,if_pos w,hr,Ob.rows,if_pos A],B⟩
    grind
   .rename_i hk;simp  at h;subst h;refine⟨[],?_,rfl,by simp⟩
    cases k <;> simp[cC]at hk <;> rfl
  grind
 .simp  at h;subst h;rw[r.fr.bE];exact⟨[],rfl,rfl,by simp⟩
 .simp  at h;subst h;rw[r.fr.dm];exact⟨[],rfl,rfl,by simp⟩
 .split at h
  .rename_i es z w;simp  at h;subst h;have hg:=r.fr.good;rcases r.fr.kY with rfl|⟨id,off,ys,rfl,C,hr,A,B⟩
   .exact⟨_,by simp[dx,if_pos w],fH.same (by simpa [V.good]using hg)⟩
   .unfold bl at hr;exact⟨_,by simp[dx,if_pos w,hr,if_pos A],B⟩
  grind
 grind
theorem Ev.re {m1:Tb bu} (B:∀d ob,a_ m1 d=some ob->a_ st.m d=some ob) {d:Nat} (T:d∉st.pin) {ob:bu} {p:Nat×Nat} (D:H.length<=H'.length) (G:∀id,id<H.length->¬eT ν st.m id->¬Rv id->H'[id]? = H[id]?)
 (J:∀id,Z id->bl H' id=bl H id) (hp:cm ob=true->eT ν st.m p.1\/Rv p.1\/H.length<=p.1):Ev Rv ν Z st H (gZ ν d p) Z { st with m:=bH m1 d ob } H' where
 len:=D
 same:=λid h A _ hr=>G id h A hr
 rows:=λid h=>⟨h,J id h⟩
 own:=λid h=>by
  rcases Cx h with h|⟨h1,rfl⟩
  .obtain⟨k,o,h1,w,z⟩:=h;exact .inl ⟨k,o,B k o h1,w,z⟩
  grind
 frz:=λid h=>.inl h
 pin:=λe C u h=>by
  have:e≠d:=by grind
  obtain⟨o,h1,w,z⟩:=rW (ν:=ν) (p:=p) this u h
  grind
 pins:=rfl
def Kept (dst:Option Nat) (ν:Nu) (m:Tb bu) (ν':Nu) (m':Tb bu):Prop:=∀e u,dst≠some e->a_ m' e=some u->∃ob,a_ m e=some ob/\ν' e=ν e/\sameShape ob u
theorem Kept.refl {dst:Option Nat}:Kept dst ν m ν m:=λe u _ h=>⟨u,h,rfl,.refl _⟩
theorem Kept.gb {dst:Option Nat} {d:Nat} {ob ob':bu} (B:a_ m d=some ob) (D:sameShape ob ob'):Kept dst ν m ν (bH m d ob'):=λe u _ h=>by
 by_cases k:e=d
 .subst k;rw[cr]at h;grind
 .rw[dF m ob' (Ne.symm k)]at h;exact⟨u,h,rfl,.refl _⟩
theorem Kept.add {d:Nat} {ob:bu} {p:Nat×Nat} {m1:Tb bu} (B:∀d ob,a_ m1 d=some ob->a_ m d=some ob):Kept (some d) ν m (gZ ν d p) (bH m1 d ob):=λe u w h=>by
 have:e≠d:=λh=>w (by rw[h])
 obtain⟨o,h1,z,A⟩:=rW (ν:=ν) (p:=p) this u h
 grind
theorem jH {d:Nat}:∀e ob,a_ (dO d m) e=some ob->a_ m e=some ob:=λ_ _ h=>(m_ h).2
theorem BR.put {k x y:V} {a b r:List (V×V)} (D:k.scalar=true) (h:BR H Z a b) (J:FR H Z x y) (hp:oB k x a=some r):∃B,oB k y b=some B/\BR H Z r B:=by
 unfold oB at hp;obtain⟨f1,C⟩:=Bp   h;split at hp
 .rename_i j v G;simp  at hp;subst hp;obtain⟨I,A,_⟩:=C j v G;refine⟨b.set j (k,y),by unfold oB;rw[A],by simp[h.1],λi u w hu z=>?_⟩
  rw[List.getElem?_set]at hu z;split at hu
  .grind
  .rename_i e;rw[if_neg e]at z;exact h.2 i u w hu z
 .simp  at hp;subst hp;refine⟨b++[(k,y)],by unfold oB;simp_all,by simp[h.1],λi u w hu z=>?_⟩
  by_cases hi:i<a.length
  .rw[List.getElem?_append_left hi]at hu;rw[List.getElem?_append_left (by rw[<-h.1];omega)]at z
   exact h.2 i u w hu z
  .rw[List.getElem?_append_right (by rw[<-h.1];omega),<-h.1]at z
   grind
 grind
theorem Il (r:R ν Z st F H) {d:Nat} {cs:List SV} (B:a_ st.m d=some (.box cs)):∀{l:List SV} {D:List V},bT ν st.m H Z l D->l.all (JE st.m d)=true->D.all (pK (ν d).1)=true:=by
 intro l
 induction l with
 | nil=>intro D A _;rw[A.cO];rfl
 | cons a l L=>
  intro D A C;obtain⟨w,D,rfl,g1,g2⟩:=A.inv;simp only[List.all_cons,ζh]at C ⊢;refine⟨?_,L g2 C.2⟩;have u:=C.1;unfold JE at u;split at u
  .rename_i O S;simp  at u;obtain⟨G,I⟩:=u;split at I
   .rename_i Q z;obtain⟨_,_,rfl⟩:=g1.nM z;simp[pK];exact λe=>G (r.inj O d _ _ z B rfl rfl e)
   grind
  .rcases FR.k_ g1.fr with rfl|⟨id,el,off,_,_,_,rfl,J,_⟩
   .rfl
   .simp[pK];rintro rfl;exact r.apart d _ B rfl J
  grind
theorem A2 (r:R ν Z st F H) {dst:Option Nat} {l:Ih} {svs:List SV} {ys:List V} {sv:SV} (T:bT ν st.m H Z svs ys) (h:lC st dst l svs=some (sv,st')) :
 ∃y H' ν',eM H l ys=some (y,H')/\R ν' Z st' F H'/\cS ν' st'.m H' Z sv y/\Ev (λ_=>False) ν Z st H ν' Z st' H'/\Kept dst ν st.m ν' st'.m:=by
 unfold lC at h;split at h
 .
  rename_i size d o x;obtain⟨_,_,rfl,h1,h2⟩:=T.inv;obtain⟨y,_,rfl,h3,h4⟩:=h2.inv;rw[h4.cO];split at h
  .rename_i cs A;obtain⟨au,hp,e⟩:=ζf.1 h;obtain⟨rfl,rfl⟩:=e;obtain⟨_,_,rfl⟩:=h1.nM A;obtain⟨es,D,hr,hc,U⟩:=r.obj d _ A;obtain⟨p1,p2,p3,p4,p5⟩:=bT.Su hc h3 hp U;have I:∀id,id≠(ν d).1->(H.set (ν d).1 (.row es [D.take o++y.cells++D.drop (o+y.cells.length)]))[id]? = H[id]? := λid G=>by grind
   have C:∀id,Z id->Z id/\bl (H.set (ν d).1 (.row es [D.take o++y.cells++D.drop (o+y.cells.length)])) id=bl H id:=λid C=>⟨C,by
    unfold bl;rw[I id (by rintro rfl;exact r.apart d _ A rfl C)]⟩
   refine⟨.undef,H.set (ν d).1 (.row es [D.take o++y.cells++D.drop (o+y.cells.length)]),ν,?_,?_,.v _ _ (.same _ rfl),Ev.gb r A trivial rfl I rfl (by simp),Kept.gb A trivial⟩
   .simp only[eM,hr,List.getElem?_cons_zero,if_pos (And.intro p1 (And.intro p2 p3)),List.set_cons_zero]
   .refine r.gb A  trivial rfl I rfl ⟨es,_,?_,p4.mono C (λe _ O he=>?_),p5⟩
    .grind
    .by_cases k:e=d
     .subst k;rw[cr]at he;cases he;exact⟨_,A,rfl,trivial⟩
     .rw[dF st.m _ (Ne.symm k)]at he;exact⟨O,he,rfl,.refl _⟩
  grind
 .
  rename_i size d i o x;obtain⟨_,_,rfl,h1,h2⟩:=T.inv;obtain⟨y,_,rfl,h3,h4⟩:=h2.inv;rw[h4.cO];split at h
  .rename_i k es xs A;split at h
   .rename_i cs ah;split at h
    .rename_i hc;obtain⟨rfl,rfl⟩:=h;obtain⟨_,_,_,e,hk,rfl⟩:=h1.wO A;cases e;have ob:=r.obj d _ A;simp[dN,hk]at ob;obtain⟨rs,hr,hl,hf,ai,aj⟩:=ob;obtain⟨c,ak,ad⟩:=hf.get ah;have hi:=(ζe.1 ah).1;rw[List.getElem?_take,if_pos hi,List.getElem?_drop]at ak;have hy:=h3.fr.cells;have q1:y.cells.length=size:=by rw[<-hy.1];exact hc.1
     have W:o+size<=c.length:=by rw[<-ad.1];exact hc.2.1
     have q3:y.cells.all V.one=true:=by rw[hy.one];exact hc.2.2
     have B:cW H Z (cs.take o++x.cells++cs.drop (o+x.cells.length)) (c.take o++y.cells++c.drop (o+y.cells.length)):=by
      rw[hc.1,q1];exact((ad.take o).append hy).append (ad.drop _)
     generalize hN:(c.take o++y.cells++c.drop (o+y.cells.length))=nc at B;have I:∀id,id≠(ν d).1->(H.set (ν d).1 (.row es (rs.set ((ν d).2+i) nc)))[id]? = H[id]? := λid G=>by rw[List.getElem?_set];rw[if_neg (Ne.symm G)]
     have J  := hk;have C:∀id,Z id->Z id/\bl (H.set (ν d).1 (.row es (rs.set ((ν d).2+i) nc))) id=bl H id:=λid C=>⟨C,by
      unfold bl;rw[I id (by rintro rfl;exact r.apart d _ A J C)]⟩
     have ae:sameShape (.sl k es xs) (.sl k es (xs.set i (cs.take o++x.cells++cs.drop (o+x.cells.length)))):=⟨rfl,rfl,by simp⟩
     refine⟨.undef,H.set (ν d).1 (.row es (rs.set ((ν d).2+i) nc)),ν,?_,?_,.v _ _ (.same _ rfl),Ev.gb r A ae rfl I J (by simp),Kept.gb A ae⟩
     .simp only[eM,hr,ak,if_pos (And.intro q1 (And.intro W q3)),hN]
     .refine r.gb A ae rfl I J ?_;simp only[dN,hk];have av:=(ζe.1 hr).1;refine⟨_,List.getElem?_set_self av,by simpa using hl,?_,?_,λe=>?_⟩
      .have e1:List.take (xs.set i (cs.take o++x.cells++cs.drop (o+x.cells.length))).length (List.drop (ν d).2 (rs.set ((ν d).2+i) nc))=((rs.drop (ν d).2).take xs.length).set i nc:=by
        rw[List.length_set,List.drop_set,if_neg (by omega),List.take_set]
        congr 1;omega
       rw[e1];exact(hf.set i B).mono C
      .intro cc al u hu;rcases List.mem_or_eq_of_mem_set al with hm|rfl
       .obtain⟨z,aw⟩:=ai cc hm u hu;exact⟨z,aw.mono C⟩
       .obtain⟨j,hj⟩:=List.mem_iff_getElem?.1 hu;have am:=(ζe.1 hj).1;rw[<-B.1]at am;exact⟨_,(B.2 j _ u (ζd am) hj).mono C⟩
      .obtain⟨a1,Q⟩:=aj e;exact⟨a1,by simpa using Q⟩
    .simp at h
   grind
  grind
 .
  rename_i kk d k x;obtain⟨_,_,rfl,h1,h2⟩:=T.inv;obtain⟨k',_,rfl,h3,h4⟩:=h2.inv;obtain⟨y,_,rfl,h5,h6⟩:=h4.inv;rw[h6.cO];split at h
  .rename_i ax A;split at h
   .rename_i hk;obtain⟨aI,hp,e⟩:=ζf.1 h;simp  at e;obtain⟨rfl,rfl⟩:=e;obtain⟨_,_,rfl⟩:=h1.BT A;have ay:=h3.fr.scalar.1 (ue hk);subst ay;obtain⟨aJ,hr,aA⟩:=r.obj d _ A;obtain⟨r',aB,aC⟩:=aA.put (ue hk) h5.fr hp;have I:∀id,id≠(ν d).1->(H.set (ν d).1 (.map r'))[id]? = H[id]? := λid G=>by rw[List.getElem?_set];rw[if_neg (Ne.symm G)]
    have C:∀id,Z id->Z id/\bl (H.set (ν d).1 (.map r')) id=bl H id:=λid C=>⟨C,by
     unfold bl;rw[I id (by rintro rfl;exact r.apart d _ A rfl C)]⟩
    refine⟨.undef,H.set (ν d).1 (.map r'),ν,?_,?_,.v _ _ (.same _ rfl),Ev.gb r A trivial rfl I rfl (by simp),Kept.gb A trivial⟩
    .simp[eM,hr,hk,aB]
    .refine r.gb A  trivial rfl I rfl ⟨r',?_,aC.mono C⟩;rw[List.getElem?_set_self (ζe.1 hr).1]
   .simp at h
  .simp at h
 .
  rename_i size s x;obtain⟨y1,_,rfl,h1,h2⟩:=T.inv;obtain⟨y2,_,rfl,h3,h4⟩:=h2.inv;rw[h4.cO];split at h
  .rename_i xs e1 e2;obtain⟨a1,p1,_⟩:=th h1 r.obj e1;obtain⟨Q,p2,W⟩:=th h3 r.obj e2;have  := List.length_eq_zero_iff.1 (by have:=W.1;simpa using this.symm)
   subst this
   cases dst with
   | none=>simp at h
   | some t=>
    have lit:∀(k:Fl) (x0:V),cC k=false->qX (ν t) k size 0=x0->st.new t=true->(∀y,FR H Z x0 y->y=x0)->FR H Z x0 y1 ->
     ∃y H' ν',eM H (.append size) [y1,y2]=some (y,H')/\R ν' Z { st with m:=bH st.m t (.sl k size []) } F H'/\cS ν' (bH st.m t (.sl k size [])) H' Z (.own t) y/\Ev (λ_=>False) ν Z st H ν' Z { st with m:=bH st.m t (.sl k size []) } H'/\Kept (some t) ν st.m ν' (bH st.m t (.sl k size [])):=λk x0 hk aD hn hx hf=>by
     have an:cm (.sl k size [])=true->False:=by simp[cm,hk]
     refine⟨y1,H,gZ ν t (ν t),by simp[eM,p1,p2],r.add hn   (λh=>(an h).elim) (by simp[dN,hk]),.own _ _ λO h'=>?_,Ev.add  hn (Nat.le_refl _) (λ_ _ _=>rfl) (λ_ _=>rfl) (λh=>(an h).elim),Kept.add λ_ _ h=>h⟩
     rw[cr]at h';cases h';exact⟨_,_,_,rfl,by rw[gp,hx _ hf];exact aD.symm⟩
    cases s with
    | own d=>
     dsimp only at h;split at h
     .rename_i ob A;split at h
      .rename_i B;simp  at h;obtain⟨rfl,rfl⟩:=h;simp[jF,A]at e1
       cases ob with
       | sl k es X=>
        obtain⟨_,_,_,e,rfl⟩:=h1.jw A;cases e;have r1:R ν Z { st with m:=dO d st.m } F H:=r.less  (λ_ _ h=>h) jH
        obtain⟨n1,_,_,_⟩:=k8 B;have ao:dN (gZ ν t (ν d)) (bH (dO d st.m) t (.sl k es X)) H Z t (.sl k es X):=by
         have o:=r.obj d _ A;simp[dN,gp]at o ⊢;exact o
        refine⟨qX (ν d) k es X.length,H,gZ ν t (ν d),by simp[eM,p1,p2],r1.add B  (λhb=>⟨λS=>?_,r.apart d _ A hb⟩) ao,.own _ _ λO h'=>?_,?_,Kept.add jH⟩
        .obtain⟨k2,o2,g1,g2,g3⟩:=S;obtain⟨g4,g5⟩:=m_ g1;exact g4 (r.inj d k2 _ o2 A g5 hb g2 g3.symm)
        .rw[cr]at h';cases h';exact⟨_,_,_,rfl,by rw[gp]⟩
        .by_cases hb:cm (.sl k es X)=true
         .exact Ev.re  (m1:=dO d st.m) jH n1 (Nat.le_refl _) (λ_ _ _ _=>rfl) (λ_ _=>rfl) (λ_=>.inl ⟨d,_,A,hb,rfl⟩)
         .exact(Ev.less  jH).trans (Ev.add  B (Nat.le_refl _) (λ_ _ _=>rfl) (λ_ _=>rfl) λh=>absurd h hb)
       | box cs=>cases e1
       | mp ax=>cases e1
      .simp at h
     .simp at h
    | v x0=>
     cases x0 with
     | bE=>
      dsimp only at h;split at h
      .rename_i hn;simp  at h;obtain⟨rfl,rfl⟩:=h;exact lit .nil _ rfl rfl hn (λy h=>h.bE) h1.fr
      .simp at h
     | dm=>
      dsimp only at h;split at h
      .rename_i hn;simp  at h;obtain⟨rfl,rfl⟩:=h;exact lit .emp _ rfl rfl hn (λy h=>h.dm) h1.fr
      .simp at h
     | _=>simp at h
    | _=>simp at h
  .rename_i xs zs G e1 e2;split at h
   .rename_i hc;obtain⟨a1,p1,q1⟩:=th h1 r.obj e1;obtain⟨Q,p2,W⟩:=th h3 r.obj e2
    cases dst with
    | none=>simp at h
    | some t=>
     dsimp only at h;generalize ap:giveUp st.m s=m1 at h;split at h
     .rename_i B;simp  at h;obtain⟨rfl,rfl⟩:=h;obtain⟨n1,_,_,_⟩:=k8 B;have grow:∃H1,gq H y1=some H1/\H1.length=H.length/\(∀id,¬eT ν st.m id->H1[id]? = H[id]?) /\
       (∀id,eT ν m1 id->H1[id]? = H[id]?)/\(∀id,Z id->bl H1 id=bl H id):=by
       subst ap
       cases s with
       | own d=>
        simp[jF]at e1;split at e1
        .rename_i k es X A;obtain⟨_,_,_,e,rfl⟩:=h1.jw A;cases e
         by_cases hk:cC k=true
         .have o:=r.obj d _ A;simp[dN,hk]at o;obtain⟨ys,hr,_⟩:=o;have J  := hk;have I:∀id,id≠(ν d).1->(H.set (ν d).1 .dead)[id]? = H[id]? := λid G=>by rw[List.getElem?_set];rw[if_neg (Ne.symm G)]
          refine⟨H.set (ν d).1 .dead,by rw[qH hk];simp[gq,hr],by simp,λid S=>I id λe=>S ⟨d,_,A,J,e.symm⟩,λid S=>I id λe=>?_,λid C=>?_⟩
          .obtain⟨k2,o2,g1,g2,g3⟩:=S;obtain⟨g4,g5⟩:=m_ g1;exact g4 (r.inj d k2 _ o2 A g5 J g2 (by rw[g3,e]))
          .unfold bl;rw[I id (by rintro rfl;exact r.apart d _ A J C)]
         .refine⟨H,?_,rfl,λ_ _=>rfl,λ_ _=>rfl,λ_ _=>rfl⟩
          cases k <;> simp[cC]at hk <;> rfl
        .simp at e1
       | v x0=>
        refine⟨H,?_,rfl,λ_ _=>rfl,λ_ _=>rfl,λ_ _=>rfl⟩
        cases x0 <;> simp[FA]at hc
        .rw[h1.fr.dm];rfl
        .rw[h1.fr.bE];rfl
       | _=>simp[FA]at hc
      obtain⟨H1,g1,g2,g3,g4,g5⟩:=grow;have L:∀e ob,a_ m1 e=some ob->a_ st.m e=some ob:=by
       subst ap;cases s <;> first|exact λ_ _ h=>h|exact jH
      have ab:∀id,eT ν m1 id->id<H.length:=λid ⟨k,o,w1,w2,w3⟩=>r.lt ⟨k,o,L k o w1,w2,w3⟩
      have Y:∀id,id<H.length->(H1++[Ob.row size (a1++Q)])[id]? = H1[id]? := λid hl=>List.getElem?_append_left (by rw[g2];exact hl)
      have af:∀id,Z id->bl (H1++[Ob.row size (a1++Q)]) id=bl H id:=λid C=>by
       have:=g5 id C;unfold bl at this ⊢;rw[Y id (r.uT C)];exact this
      have r1  := r.less  (λ_ _ h=>h) L
      have r2  := r1.heap (λid S=>by rw[Y id (ab id S)];exact g4 id S) af
      have ff:=(q1.append W).mono   λid C=>⟨C,af id C⟩
      have aa:(H1++[Ob.row size (a1++Q)])[H.length]? = some (.row size (a1++Q)):=by
       rw[<-g2];simp
      refine⟨.hsl H.length size 0 (xs.length+zs.length),H1++[Ob.row size (a1++Q)],gZ ν t (H.length,0),?_,?_,?_,?_,Kept.add L⟩
      .have aq:Q≠[]:=by
        rintro rfl;have aE  := List.length_eq_zero_iff.1 (by have:=W.1;simpa using this)
        exact G aE
       have aF:a1.length+Q.length<=2147483648:=by rw[<-q1.1,<-W.1];exact hc.1
       have aG:=q1.1;have aH:=W.1
       cases Q with
       | nil=>exact absurd rfl aq
       | cons w ws=>
        simp only[eM,p1,p2,if_pos aF,g1,Option.map_some,aG,aH]
      .refine r2.add B (λ_=>⟨λS=>?_,λC=>?_⟩) ?_
       .exact absurd (ab _ S) (by simp)
       .exact absurd (r.uT C) (by simp)
       .simp only[dN,gp];refine⟨_,aa,by simp[q1.1,W.1],?_,ff.EB,λ_=>⟨trivial,by simp[q1.1,W.1]⟩⟩
        have:(xs++zs).length=(a1++Q).length:=by simp[q1.1,W.1]
        rw[this,List.drop_zero,List.take_length];exact ff
      .refine .own _ _ λO h'=>?_
       simp only at h';rw[cr]at h';cases h';exact⟨_,_,_,rfl,by simp[qX,gp]⟩
      .refine Ev.re L n1 (by simp[g2]) (λid hl S _=>?_) af (λ_=>.inr (.inr (Nat.le_refl _)))
       rw[Y id hl];exact g3 id S
     .simp at h
   .simp at h
  .simp at h
 .
  rename_i size d o x l;obtain⟨_,_,rfl,h1,h2⟩:=T.inv;obtain⟨y,aK,rfl,h3,h4⟩:=h2.inv;split at h
  .rename_i ar;split at h
   .rename_i cs A;obtain⟨au,hp,e⟩:=ζf.1 h;simp  at e;obtain⟨rfl,rfl⟩:=e;obtain⟨_,_,rfl⟩:=h1.nM A;obtain⟨es,D,hr,hc,U⟩:=r.obj d _ A;obtain⟨p1,p2,p3,p4,p5⟩:=bT.Su hc h3 hp U;have I:∀id,id≠(ν d).1->(H.set (ν d).1 (.row es [D.take o++y.cells++D.drop (o+y.cells.length)]))[id]? = H[id]? := λid G=>by rw[List.getElem?_set];rw[if_neg (Ne.symm G)]
    have C:∀id,Z id->Z id/\bl (H.set (ν d).1 (.row es [D.take o++y.cells++D.drop (o+y.cells.length)])) id=bl H id:=λid C=>⟨C,by
     unfold bl;rw[I id (by rintro rfl;exact r.apart d _ A rfl C)]⟩
    refine⟨.undef,H.set (ν d).1 (.row es [D.take o++y.cells++D.drop (o+y.cells.length)]),ν,?_,?_,.v _ _ (.same _ rfl),Ev.gb r A trivial rfl I rfl (by simp),Kept.gb A trivial⟩
    .simp only[eM,Il r A h4 ar,if_true,hr,List.getElem?_cons_zero,if_pos (And.intro p1 (And.intro p2 p3)),List.set_cons_zero]
    .refine r.gb A  trivial rfl I rfl ⟨es,_,?_,p4.mono C (λe _ O he=>?_),p5⟩
     .have:=(ζe.1 hr).1;rw[List.getElem?_set_self this]
     .by_cases k:e=d
      .subst k;rw[cr]at he;cases he;exact⟨_,A,rfl,trivial⟩
      .rw[dF st.m _ (Ne.symm k)]at he;exact⟨O,he,rfl,.refl _⟩
   .simp at h
  .simp at h
 grind
end
end Go.VE
namespace Go.VE
variable [bN]
def yQ (d:Nat) (st:St):Option St:=
 match a_ st.m d with
 | some (.sl k es u)=>some { st with g:=Be (SV.sub d (mS k es u)) st.g,m:=mapM (SV.tO d (mS k es u)) (dO d st.m) }
 | _=>none
def Ui (st:St):Loc->Option SV
 | .s n=>a_ st.g n
 | .c b i=>match a_ st.m b with
  | some (.box cs)=>cs[i]?
  | _=>none
def ghost (x:Gh) (st:St):Option St:=
 match x with
 | .closeS l=>match Ui st l with
  | some (.own d)=>yQ d st
  | some _=>some st
  | none=>none
 | .close d=>yQ d st
 | .closeB d=>match a_ st.m d with
  | some (.box cs)=>match cZ cs with
   | some u=>some { st with g:=Be (SV.AT d u) st.g,m:=mapM (SV.qa d u) (dO d st.m) }
   | none=>none
  | _=>none
 | .canon (.s n) d es=>match a_ st.g n with
  | some (.v .bE)=>if st.new d then some { st with g:=bH st.g n (.own d),m:=bH st.m d (.sl .nil es []) } else none
  | some (.v .dm)=>if st.new d then some { st with g:=bH st.g n (.own d),m:=bH st.m d (.sl .emp es []) } else none
  | some (.own e)=>if e=d then some st else if st.new d then some { st with g:=zq e d st.g,m:=tR e d st.m } else none
  | some (.ptr e _)=>if e=d then some st else if st.new d then some { st with g:=zq e d st.g,m:=tR e d st.m } else none
  | _=>none
 | .canon (.c b i) d es=>match a_ st.m b with
  | some (.box cs)=>match cs[i]? with
   | some (.v .bE)=>if st.new d then some { st with m:=bH (bH st.m d (.sl .nil es [])) b (.box (cs.set i (.own d))) } else none
   | some (.v .dm)=>if st.new d then some { st with m:=bH (bH st.m d (.sl .emp es [])) b (.box (cs.set i (.own d))) } else none
   | some (.own e)=>if e=d then some st else if st.new d then some { st with g:=zq e d st.g,m:=tR e d st.m } else none
   | _=>none
  | _=>none
 | .keep gs w=>match je st.g gs,je st.m w with
  | some g,some m=>some { st with g:=g,m:=m }
  | _,_=>none
 | .drop ds=>some { st with g:=oe ds st.g }
section
variable {Rv:Nat->Prop} {ν ν':Nu} {Z Z':Nat->Prop} {st st':St} {m m':Tb bu} {F F':Frame} {H H':bf} {N:Nat->FuncId}
theorem MP (r:R ν Z st F H) {dst:Option Nat} {size d:Nat} {lo hi:Bool} {T:List SV} {ys:List V} {sv:SV} (D:bT ν st.m H Z (.own d::T) ys) (h:zk st dst size lo hi d T=some (sv,st')) :
 ∃y ν',bn N (.slice size lo hi) ys=some y/\R ν' Z st' F H/\cS ν' st'.m H Z sv y/\Ev Rv ν Z st H ν' Z st' H:=by
 unfold zk at h;obtain⟨y0,zs,rfl,h1,Q⟩:=D.inv;split at h
 .rename_i k es C ws t u S;split at h
  .rename_i hk;obtain⟨⟨l,hh⟩,U,h⟩:=ζg.1 h;obtain⟨⟨a,b⟩,A,h⟩:=ζg.1 h;dsimp only at h;split at h
   .rename_i w;obtain⟨rfl,rfl⟩:=h;obtain⟨_,_,_,e,rfl⟩:=h1.jw u;cases e;have G:b<=C.length/\a<=b:=by
     unfold dI at A
     grind
    have o:=r.obj d _ u;simp[dN,hk.1]at o;obtain⟨rs,hr,hl,W,L,_⟩:=o;have z  := hk.1;have r1:R ν Z { st with m:=dO d st.m } F H:=r.less  (λ_ _ h=>h) jH
    have I:¬eT ν (dO d st.m) (ν d).1:=by
     rintro⟨X,o2,g1,g2,g3⟩;obtain⟨g4,g5⟩:=m_ g1;exact g4 (r.inj d X _ o2 u g5 z g2 g3.symm)
    have B:((C.take b).drop a).length=b-a:=by simp_all
    refine⟨.hsl (ν d).1 es ((ν d).2+a) (b-a),gZ ν t ((ν d).1,(ν d).2+a),?_,?_,?_,?_⟩
    .have J:=bT.cZ Q S;rw[qH hk.1];simp[bn,J.k7 U,gB,if_pos hk.2,A]
    .refine r1.add w (λ_=>⟨I,r.apart d _ u z⟩) ?_
     simp[dN,cC,gp];have:=(W.take b).drop a;have e:List.drop a (List.take b (List.take C.length (List.drop (ν d).2 rs)))=List.take (b-a) (List.drop ((ν d).2+a) rs):=by
      rw[List.take_take,Nat.min_eq_left G.1,List.drop_take,List.drop_drop]
     grind
    .refine .own _ _ λY O=>?_
     rw[cr]at O;cases O;exact⟨_,_,_,rfl,by rw[B];simp[qX,gp]⟩
    .exact Ev.re (st:=st) jH (k8 w).1 (Nat.le_refl _) (λ_ _ _ _=>rfl) (λ_ _=>rfl) (λ_=>.inl ⟨d,_,u,z,rfl⟩)
   grind
  grind
 grind
theorem Dh {f:SV->SV}:∀{g:Tb SV} {s:Nat},a_ (Be f g) s=(a_ g s).map f
 | [],s=>rfl
 | (k,x)::r,s=>by
  simp[Be,a_];split
  .rfl
  .exact Dh
def xH (f:List SV->List SV):bu->bu
 | .box cs=>.box (f cs)
 | o=>o
theorem Dk {f:List SV->List SV}:∀{m:Tb bu} {d:Nat},a_ (mapM f m) d=(a_ m d).map (xH f)
 | [],d=>rfl
 | (k,x)::r,d=>by
  cases x <;> simp[mapM,a_] <;> split <;> first|rfl|exact Dk
theorem rX {d:Nat} {w:V}:∀{l:List SV} {j:Nat},(SV.tO d w l)[j]? = (l[j]?).map (SV.sub d w)
 | [],j=>by simp[SV.tO]
 | x::r,0=>by simp[SV.tO]
 | x::r,j+1=>by simp[SV.tO,rX ]
theorem qA {d:Nat} {w:List V}:∀{l:List SV} {j:Nat},(SV.qa d w l)[j]? = (l[j]?).map (SV.AT d w)
 | [],j=>by simp[SV.qa]
 | x::r,0=>by simp[SV.qa]
 | x::r,j+1=>by simp[SV.qa,qA ]
theorem nX {d:Nat} {w:V}:∀{l:List SV},(SV.tO d w l).length=l.length
 | []=>rfl
 | x::r=>by simp[SV.tO,nX ]
theorem mM {d:Nat} {w:List V}:∀{l:List SV},(SV.qa d w l).length=l.length
 | []=>rfl
 | x::r=>by simp[SV.qa,mM ]
theorem cS.sub {sv:SV} {y:V} {d:Nat} {k:Fl} {es:Nat} {xs:List (List V)} (D:a_ m d=some (.sl k es xs)) (G:FR H Z' (mS k es xs) (qX (ν d) k es xs.length)) (J:∀id,Z id->Z' id)
 (T:∀e ob',a_ m' e=some ob'->e≠d/\∃ob,a_ m e=some ob/\sameShape ob ob') (r:cS ν m H Z sv y):cS ν m' H Z' (sv.sub d (mS k es xs)) y:=by
 have w:∀id,Z id->Z' id/\bl H id=bl H id:=λid h=>⟨J id h,rfl⟩
 have B:∀e ob',a_ m' e=some ob'->∃ob,a_ m e=some ob/\ν e=ν e/\sameShape ob ob':=λe ob' h=>by grind
 induction r with
 | v x y h=>exact .v x y (h.mono w)
 | own e y h=>
  simp[SV.sub];split
  .rename_i I;subst I;obtain⟨_,_,_,e1,rfl⟩:=h _ D;cases e1;exact .v _ _ G
  .exact(cS.own e y h).mono w λe _=>B e
 | ptr e o y h=>exact(cS.ptr e o y h).mono w λe _=>B e
 | el e i o y h=>exact(cS.el e i o y h).mono w λe _=>B e
 | mp e y h=>exact(cS.mp e y h).mono w λe _=>B e
 | clo f a b z L C S hva O A Q=>
  refine .clo f _ _ z L (by rw[nX];omega) (by rw[nX];omega) (λj u v hu hv=>?_) (λj u v hu hv=>?_)
  .rw[rX,ζf]at hu;grind
  .rw[rX,ζf]at hu;grind
 | tup a z C hva A=>
  refine .tup _ z (by rw[nX];omega) (λj u v hu hv=>?_)
  rw[rX,ζf]at hu;grind
 | agg a z C hva A=>
  refine .agg _ z (by rw[nX];omega) (λj u v hu hv=>?_)
  rw[rX,ζf]at hu;grind
 | yl id=>exact .yl id
theorem QM {f:FuncId} {a b:List SV} {y:V} (r:cS ν m H Z (.clo f a b) y):cS ν m H Z (OX f a b) y:=by
 unfold OX;split
 .rename_i x z C D;cases r with|clo _ _ _ w A G I hva u=>
  have h1:=bT.cZ (ν:=ν) (m:=m) (H:=H) (Z:=Z) (ys:=w) ⟨G,hva⟩ C;have B:=bT.cZ (ν:=ν) (m:=m) (H:=H) (Z:=Z) (ys:=A) ⟨I,u⟩ D;exact .v _ _ (.clo f x z w A h1.1 B.1 h1.2 B.2)
 .exact r
theorem cS.AT {sv:SV} {y:V} {d:Nat} {cs:List SV} {xs:List V} (J:a_ m d=some (.box cs)) (T:∀o,o<=xs.length->FR H Z' (.fptr (xs.drop o)) (.hptr (ν d).1 0 o)) (U:∀id,Z id->Z' id)
 (W:∀e ob',a_ m' e=some ob'->e≠d/\∃ob,a_ m e=some ob/\sameShape ob ob') (r:cS ν m H Z sv y):cS ν m' H Z' (sv.AT d xs) y:=by
 have z:∀id,Z id->Z' id/\bl H id=bl H id:=λid h=>⟨U id h,rfl⟩
 have C:∀e ob',a_ m' e=some ob'->∃ob,a_ m e=some ob/\ν e=ν e/\sameShape ob ob':=λe ob' h=>by obtain⟨_,ob,h1,L⟩:=W e ob' h;exact⟨ob,h1,rfl,L⟩
 induction r with
 | v x y h=>exact .v x y (h.mono z)
 | own e y h=>exact(cS.own e y h).mono z λe _=>C e
 | ptr e o y h=>
  simp only[SV.AT];split
  .rename_i O;subst O;obtain⟨_,e1,rfl⟩:=h _ J;split
   .rename_i Q;exact .v _ _ (T o Q)
   .exact(cS.ptr e o _ h).mono z λe _=>C e
  .exact(cS.ptr e o y h).mono z λe _=>C e
 | el e i o y h=>exact(cS.el e i o y h).mono z λe _=>C e
 | mp e y h=>exact(cS.mp e y h).mono z λe _=>C e
 | clo f a b D S G X hva Y A I=>
  refine QM (.clo f _ _ D S (by rw[mM];exact G) (by rw[mM];exact X) (λj u v hu hv=>?_) (λj u v hu hv=>?_))
  .rw[qA,ζf]at hu;obtain⟨B,w,rfl⟩:=hu;exact A j B v w hv
  .rw[qA,ζf]at hu;obtain⟨B,w,rfl⟩:=hu;exact I j B v w hv
 | tup a D G hva A=>
  refine .tup _ D (by rw[mM];exact G) (λj u v hu hv=>?_)
  rw[qA,ζf]at hu;obtain⟨B,w,rfl⟩:=hu;exact A j B v w hv
 | agg a D G hva A=>
  refine .agg _ D (by rw[mM];exact G) (λj u v hu hv=>?_)
  rw[qA,ζf]at hu;obtain⟨B,w,rfl⟩:=hu;exact A j B v w hv
 | yl id=>exact .yl id
theorem dN.xH {d:Nat} {ob:bu} {f:List SV->List SV} (D:∀id,Z id->Z' id) (T:∀l,(f l).length=l.length)
 (G:∀cs B,bT ν m H Z cs B->bT ν m' H Z' (f cs) B) (o:dN ν m H Z d ob):dN ν m' H Z' d (xH f ob):=by
 have u:∀id,Z id->Z' id/\bl H id=bl H id:=λid h=>⟨D id h,rfl⟩
 cases ob with
 | sl k es O=>
  simp[Go.VE.xH,dN]at o ⊢;split
  .rename_i hk;rw[if_pos hk]at o;obtain⟨C,h1,w,A,I,J⟩:=o;exact⟨C,h1,w,A.mono u,I.mono u,J⟩
  grind
 | box cs=>
  obtain⟨es,B,h1,w,A⟩:=o;exact⟨es,B,h1,G cs B w,A⟩
 | mp L=>
  obtain⟨z,h1,w⟩:=o;exact⟨z,h1,w.mono u⟩
theorem vY {f:List SV->List SV} {ob:bu}:cm (xH f ob)=cm ob:=by cases ob <;> rfl
theorem JX {f:List SV->List SV} {ob:bu}:sameShape ob (xH f ob):=by cases ob <;> simp[xH,sameShape]
theorem R.shut (r:R ν Z st F H) {d:Nat} {ob:bu} (h0:a_ st.m d=some ob) {fs:SV->SV} {D:List SV->List SV} (hl:∀l,(D l).length=l.length) (hg:∀l (j:Nat),(D l)[j]? = (l[j]?).map fs)
 (B:∀id,Z' id↔Z id\/(cm ob=true/\id=(ν d).1)) (G:cm ob=true->∃es ys,H[(ν d).1]? = some (.row es ys)/\uk H Z ys)
 (hf:∀m',(∀e ob',a_ m' e=some ob'->e≠d/\∃ob,a_ st.m e=some ob/\sameShape ob ob')->∀sv y,cS ν st.m H Z sv y->cS ν m' H Z' (fs sv) y) :
 R ν Z' { st with g:=Be fs st.g,m:=mapM D (dO d st.m) } F H/\Ev Rv ν Z st H ν Z' { st with g:=Be fs st.g,m:=mapM D (dO d st.m) } H:=by
 have key:∀e ob',a_ (mapM D (dO d st.m)) e=some ob'->e≠d/\∃ob,a_ st.m e=some ob/\ob'=xH D ob:=λe ob' h=>by
  rw[Dk,ζf]at h;obtain⟨o,h1,rfl⟩:=h;obtain⟨w,h3⟩:=m_ h1
  grind
 have J:∀e ob',a_ (mapM D (dO d st.m)) e=some ob'->e≠d/\∃ob,a_ st.m e=some ob/\sameShape ob ob':=λe ob' h=>by
  obtain⟨h1,o,w,rfl⟩:=key e ob' h;exact⟨h1,o,w,JX⟩
 have hF:=hf _ J;have S:∀cs A,bT ν st.m H Z cs A->bT ν (mapM D (dO d st.m)) H Z' (D cs) A:=λcs A h=>by
  refine⟨by rw[hl];exact h.1,λj u v hu hv=>?_⟩
  rw[hg,ζf]at hu;obtain⟨u',T,rfl⟩:=hu;exact hF u' v (h.2 j u' v T hv)
 have z  := λid h=>(B id).2 (.inl h)
 refine⟨⟨λs sv Q=>?_,λe ob' U=>?_,λd1 d2 o1 o2 h1 w I b2 hp=>?_,λd1 o1 h1 I=>?_,λid h=>?_,⟨λid es ys L hr c hc u hu=>?_⟩⟩,⟨Nat.le_refl _,λ_ _ _ _ _=>rfl,λid h=>⟨z id h,rfl⟩,?_,?_,?_,rfl⟩⟩
 .rw[Dh,ζf]at Q;obtain⟨O,W,rfl⟩:=Q;exact hF O _ (r.slot s O W)
 .obtain⟨h1,o,w,rfl⟩:=key e ob' U;exact dN.xH z hl S (r.obj e o w)
 .obtain⟨_,p1,k1,rfl⟩:=key d1 o1 h1;obtain⟨_,p2,k2,rfl⟩:=key d2 o2 w;rw[vY]at I b2;exact r.inj d1 d2 p1 p2 k1 k2 I b2 hp
 .obtain⟨X,p1,k1,rfl⟩:=key d1 o1 h1;rw[vY]at I;intro L;rcases (B _).1 L with L|⟨C,U⟩
  .exact r.apart d1 p1 k1 I L
  .exact X (r.inj d1 d p1 ob k1 h0 I C U)
 .rcases (B id).1 h with h|⟨C,rfl⟩
  .exact r.zrow id h
  .obtain⟨es,ys,hr,_⟩:=G C;unfold bl;rw[hr];rfl
 .rcases (B id).1 L with h|⟨C,rfl⟩
  .obtain⟨x,Y⟩:=r.deep.row id es ys h hr c hc u hu;exact⟨x,Y.mono λk hk=>⟨z k hk,rfl⟩⟩
  .obtain⟨ab,ad,aa,Q⟩:=G C;unfold bl at hr;rw[aa]at hr;obtain⟨_,rfl⟩:=hr;obtain⟨x,Y⟩:=Q c hc u hu;exact⟨x,Y.mono λk hk=>⟨z k hk,rfl⟩⟩
 .rintro id ⟨e,o,h1,w,h3⟩;obtain⟨_,p,k1,rfl⟩:=key e o h1;rw[vY]at w;exact .inl ⟨e,p,k1,w,h3⟩
 .intro id h;rcases (B id).1 h with h|⟨C,rfl⟩
  .grind
  .exact .inr (.inl ⟨d,ob,h0,C,rfl⟩)
 grind
theorem G0 (r:R ν Z st F H) {d:Nat} (h:yQ d st=some st'):∃Z',R ν Z' st' F H/\Ev Rv ν Z st H ν Z' st' H:=by
 simp[yQ]at h;split at h
 .rename_i k es w u;simp  at h;subst h;have o:=r.obj d _ u;refine⟨λid=>Z id\/(cm (.sl k es w)=true/\id=(ν d).1),R.shut r u (λ_=>nX) (λ_ _=>rX) (λ_=>Iff.rfl) (λA=>?_) (λm' z D y hr=>?_)⟩
  .have hk:cC k=true:=A;simp[dN,hk]at o
   grind
  .refine cS.sub u ?_ (λid h=>.inl h) z hr
   by_cases hk:cC k=true
   .simp[dN,hk]at o;obtain⟨G,hr,B,C,I,_⟩:=o;rw[qH hk];have e:mS k es w=.fsl es w:=by cases k <;> simp[cC]at hk <;> rfl
    rw[e];refine FR.Ji (.inr ⟨hk,rfl⟩) (by unfold bl;rw[hr];rfl) B (C.mono λid h=>⟨.inl h,rfl⟩)
   .cases k <;> simp[cC]at hk
    .exact .same _ rfl
    .exact .same _ rfl
 grind
theorem Ly (r:R ν Z st F H) {d:Nat} (h:ghost (.closeB d) st=some st'):∃Z',R ν Z' st' F H/\Ev Rv ν Z st H ν Z' st' H:=by
 simp[ghost]at h;split at h
 .rename_i cs w;split at h
  .rename_i G I;simp  at h;subst h;obtain⟨es,z,hr,hc,_⟩:=r.obj d _ w;have B:=hc.cZ I;have J:uk H Z [z]:=by
    intro c A u hu;simp[List.mem_singleton]at A;subst A;obtain⟨j,L⟩:=List.mem_iff_getElem?.1 hu;have O:j<G.length:=by rw[B.1];grind
    exact⟨_,B.2 j _ u (ζd O) L⟩
   refine⟨λid=>Z id\/(cm (.box cs)=true/\id=(ν d).1),R.shut r w (λ_=>mM) (λ_ _=>qA) (λ_=>Iff.rfl) (λQ=>⟨es,_,hr,J⟩) (λm' C S y D=>?_)⟩
   refine cS.AT w (λo T=>?_) (λid h=>.inl h) C D
   exact FR.BS (.inr ⟨rfl,rfl⟩) (show bl H (ν d).1=some (es,[z])by unfold bl;rw[hr];rfl) rfl (by rw[<-B.1];omega) ((B.drop o).mono λid h=>⟨.inl h,rfl⟩)
  grind
 grind
theorem sH {d e:Nat}:∀{l:List SV} {j:Nat},(SV.tW d e l)[j]? = (l[j]?).map (SV.tn d e)
 | [],j=>by simp[SV.tW]
 | x::r,0=>by simp[SV.tW]
 | x::r,j+1=>by simp[SV.tW,sH ]
theorem nR {d e:Nat}:∀{l:List SV},(SV.tW d e l).length=l.length
 | []=>rfl
 | x::r=>by simp[SV.tW,nR ]
theorem DM {d e:Nat}:∀{g:Tb SV} {s:Nat},a_ (zq d e g) s=(a_ g s).map (SV.tn d e)
 | [],s=>rfl
 | (k,x)::r,s=>by
  simp[zq,a_];split
  .rfl
  .exact DM
theorem yw {d e:Nat} (B:d≠e):∀{m:Tb bu} {k:Nat},a_ m e=none->a_ (tR d e m) k=(if k=d then none else(a_ m (if k=e then d else k)).map (bu.tn d e))
 | [],k,_=>by simp[tR,a_]
 | (n,x)::r,k,h=>by
  simp[a_]at h;split at h
  .simp_all
  .have D:=yw B  (k:=k) h;simp[tR,a_]
   grind
def uh (ν:Nu) (d e:Nat):Nu:=λk=>if k=e then ν d else ν k
theorem cS.tn {sv:SV} {y:V} {d e:Nat} (T:a_ m e=none) (D:sv.cM e=false) (J:d≠e) (r:cS ν m H Z sv y):cS (uh ν d e) (tR d e m) H Z (sv.tn d e) y:=by
 have key:∀k,k≠e->∀w,a_ (tR d e m) (if k=d then e else k)=some w->∃ob,a_ m k=some ob/\uh ν d e (if k=d then e else k)=ν k/\w=ob.tn d e:=λk hk w h=>by
  rw[yw J T]at h
  by_cases h1:k=d
  .subst h1;rw[if_pos rfl,if_neg (Ne.symm J),if_pos rfl,ζf]at h;obtain⟨ob,A,rfl⟩:=h;exact⟨ob,A,by unfold uh;grind,rfl⟩
  .rw[if_neg h1,if_neg h1,if_neg hk,ζf]at h;obtain⟨ob,A,rfl⟩:=h;exact⟨ob,A,by unfold uh;grind,rfl⟩
 induction r with
 | v x y h=>exact .v x y h
 | own k y h=>
  have hk:k≠e:=by rintro rfl;simp[SV.cM]at D
  refine .own _ y λw C=>?_
  obtain⟨ob,h1,A,rfl⟩:=key k hk w C;obtain⟨_,_,_,rfl,rfl⟩:=h ob h1;exact⟨_,_,_,rfl,by rw[A]⟩
 | ptr k o y h=>
  have hk:k≠e:=by rintro rfl;simp[SV.cM]at D
  refine .ptr _ o y λw C=>?_
  obtain⟨ob,h1,A,rfl⟩:=key k hk w C;obtain⟨_,rfl,rfl⟩:=h ob h1;exact⟨_,rfl,by rw[A]⟩
 | el k i o y h=>
  have hk:k≠e:=by rintro rfl;simp[SV.cM]at D
  refine .el _ i o y λw C=>?_
  obtain⟨ob,h1,A,rfl⟩:=key k hk w C;obtain⟨_,_,_,rfl,Q,rfl⟩:=h ob h1;exact⟨_,_,_,rfl,Q,by rw[A]⟩
 | mp k y h=>
  have hk:k≠e:=by rintro rfl;simp[SV.cM]at D
  refine .mp _ y λw C=>?_
  obtain⟨ob,h1,A,rfl⟩:=key k hk w C;obtain⟨_,rfl,rfl⟩:=h ob h1;exact⟨_,rfl,by rw[A]⟩
 | clo f a b I S O W hva U B L=>
  simp[SV.cM]at D;refine .clo f _ _ I S (by rw[nR];omega) (by rw[nR];omega) (λj u v hu hv=>?_) (λj u v hu hv=>?_)
  .rw[sH,ζf]at hu;obtain⟨G,z,rfl⟩:=hu;exact B j G v z hv (r_ D.1 z)
  .rw[sH,ζf]at hu;obtain⟨G,z,rfl⟩:=hu;exact L j G v z hv (r_ D.2 z)
 | tup a I O hva B=>
  refine .tup _ I (by rw[nR];omega) (λj u v hu hv=>?_)
  rw[sH,ζf]at hu;obtain⟨G,z,rfl⟩:=hu;exact B j G v z hv (r_ D z)
 | agg a I O hva B=>
  refine .agg _ I (by rw[nR];omega) (λj u v hu hv=>?_)
  rw[sH,ζf]at hu;obtain⟨G,z,rfl⟩:=hu;exact B j G v z hv (r_ D z)
 | yl id=>exact .yl id
theorem GG (r:R ν Z st F H) {d e:Nat} (B:d≠e) (W:st.new e=true):R (uh ν d e) Z { st with g:=zq d e st.g,m:=tR d e st.m } F H/\Ev Rv ν Z st H (uh ν d e) Z { st with g:=zq d e st.g,m:=tR d e st.m } H:=by
 obtain⟨n1,I,X,Y⟩:=k8 W;have key:∀k w,a_ (tR d e st.m) k=some w->∃k0 ob,a_ st.m k0=some ob/\w=ob.tn d e/\uh ν d e k=ν k0/\k≠d/\(k=e/\k0=d\/k≠e/\k0=k):=λk w h=>by
  rw[yw B I]at h;split at h
  .simp_all
  .rename_i h1;rw[ζf]at h;obtain⟨ob,z,rfl⟩:=h
   by_cases A:k=e
   .rw[if_pos A]at z;exact⟨d,ob,z,rfl,by unfold uh;grind,h1,.inl ⟨A,rfl⟩⟩
   .rw[if_neg A]at z;exact⟨k,ob,z,rfl,by unfold uh;grind,h1,.inr ⟨A,rfl⟩⟩
 have J:∀ob:bu,cm (ob.tn d e)=cm ob:=λob=>by cases ob <;> rfl
 refine⟨⟨λs sv T=>?_,λk w hk=>?_,λd1 d2 o1 o2 h1 z C U hp=>?_,λd1 o1 h1 C=>?_,r.zrow,r.deep⟩,⟨Nat.le_refl _,λ_ _ _ _ _=>rfl,λid h=>⟨h,rfl⟩,?_,λ_ h=>.inl h,?_,rfl⟩⟩
 .rw[DM,ζf]at T;obtain⟨L,D,rfl⟩:=T;exact cS.tn I (xA X D) B (r.slot s L D)
 .obtain⟨k0,ob,h1,rfl,z,_,_⟩:=key k w hk;have o:=r.obj k0 ob h1
  cases ob with
  | sl fl es xs=>simp[bu.tn,dN,z]at o ⊢;omega
  | box cs=>
   obtain⟨es,O,g1,g2,g3⟩:=o;have Q  := by have:=xk Y h1;simpa [bu.cM]using this
   refine⟨es,O,by grind,⟨by rw[nR];exact g2.1,λj u v hu hv=>?_⟩,g3⟩
   rw[sH,ζf]at hu;obtain⟨u',G,rfl⟩:=hu;exact cS.tn I (r_ Q G) B (g2.2 j u' v G hv)
  | mp aa=>simp[bu.tn,dN,z]at o ⊢;omega
 .obtain⟨k1,p1,g1,rfl,e1,c1,S⟩:=key d1 o1 h1;obtain⟨k2,p2,g2,rfl,e2,c3,c4⟩:=key d2 o2 z;rw[J]at C U;have:=r.inj k1 k2 p1 p2 g1 g2 C U (by grind)
  omega
 .obtain⟨k1,p1,g1,rfl,e1,_⟩:=key d1 o1 h1;rw[J]at C;rw[e1];exact r.apart k1 p1 g1 C
 .rintro id ⟨k,o,h1,z,A⟩;obtain⟨k1,p1,g1,rfl,e1,_⟩:=key k o h1;rw[J]at z;exact .inl ⟨k1,p1,g1,z,by grind⟩
 .intro k hk w h;obtain⟨k1,p1,g1,rfl,e1,c1,S⟩:=key k w h;rcases S with⟨rfl,_⟩|⟨S,rfl⟩
  .grind
  .exact⟨p1,g1,e1,by cases p1 <;> simp[bu.tn,sameShape]⟩
theorem R.VK (r:R ν Z st F H) {n:Nat} {sv:SV} (h:cS ν st.m H Z sv (get F n)):R ν Z { st with g:=bH st.g n sv } F H where
 slot:=λs x u=>by
  by_cases e:n=s
  .subst e;rw[cr]at u;grind
  .rw[dF st.g sv e]at u;exact r.slot s x u
 obj:=r.obj
 inj:=r.inj
 apart:=r.apart
 zrow:=r.zrow
 deep:=r.deep
theorem K4 (r:R ν Z st F H) {n d es:Nat} {k:Fl} {x:V} (hk:mS k es []=x/\cC k=false) (D:a_ st.g n=some (.v x)) (B:st.new d=true) (G:∀y,FR H Z x y->y=x) (J:qX (ν d) k es 0=x) :
 R (gZ ν d (ν d)) Z { st with g:=bH st.g n (.own d),m:=bH st.m d (.sl k es []) } F H/\Ev Rv ν Z st H (gZ ν d (ν d)) Z { st with g:=bH st.g n (.own d),m:=bH st.m d (.sl k es []) } H:=by
 have u:cm (.sl k es [])=true->False:=by simp[cm,hk.2]
 have r1:=r.add B (p:=ν d)  (λh=>(u h).elim) (by simp[dN,hk.2])
 refine⟨r1.VK   (.own _ _ λz w=>?_),?_⟩
 .rw[cr]at w;cases w;rw[gp,G _ (r.slot n _ D).fr]
  grind
 .exact(Ev.add  B (Nat.le_refl _) (λ_ _ _=>rfl) (λ_ _=>rfl) (λh=>(u h).elim)).trans (Ev.slots _)
theorem Lg (r:R ν Z st F H) {b i d es:Nat} {k:Fl} {x:V} {cs:List SV} (hk:cC k=false) (J:a_ st.m b=some (.box cs)) (hi:cs[i]? = some (.v x)) (D:st.new d=true) (T:∀y,FR H Z x y->y=x) (U:qX (ν d) k es 0=x) :
 ∃ν',R ν' Z { st with m:=bH (bH st.m d (.sl k es [])) b (.box (cs.set i (.own d))) } F H/\Ev Rv ν Z st H ν' Z { st with m:=bH (bH st.m d (.sl k es [])) b (.box (cs.set i (.own d))) } H:=by
 have A:cm (.sl k es [])=true->False:=by simp[cm,hk]
 have r1:=r.add D (p:=ν d)  (λh=>(A h).elim) (by simp[dN,hk])
 have B:b≠d:=by rintro rfl;rw[(k8 D).2.1]at J;cases J
 have z:a_ (bH st.m d (.sl k es [])) b=some (.box cs):=by rw[dF _ _ (Ne.symm B)];omega
 obtain⟨C,G,h1,I,Q⟩:=r1.obj b _ z;have sm:∀e w,a_ (bH (bH st.m d (.sl k es [])) b (.box (cs.set i (.own d)))) e=some w->∃ob,a_ (bH st.m d (.sl k es [])) e=some ob/\gZ ν d (ν d) e=gZ ν d (ν d) e/\sameShape ob w:=λe w h=>by
  by_cases L:e=b
  .subst L;rw[cr]at h;cases h;exact⟨_,z,rfl,trivial⟩
  .rw[dF _ _ (Ne.symm L)]at h;exact⟨w,h,rfl,.refl _⟩
 refine⟨gZ ν d (ν d),r1.gb  z  trivial rfl (λ_ _=>rfl) rfl ⟨C,G,h1,⟨by simp[I.1],λj u v hu hv=>?_⟩,Q⟩,?_⟩
 .rw[List.getElem?_set]at hu;split at hu
  .rename_i e;subst e;split at hu
   .cases hu;refine .own _ _ λw O=>?_
    rw[dF _ _ B,cr]at O;cases O;rw[gp,T v (I.2 i _ v hi hv).fr]
    grind
   grind
  .exact(I.2 j u v hu hv).mono (λid h=>⟨h,rfl⟩) λe _=>sm e
 .exact(Ev.add  D (Nat.le_refl _) (λ_ _ _=>rfl) (λ_ _=>rfl) (λh=>(A h).elim)).trans (Ev.gb r1 z trivial rfl (λ_ _=>rfl) rfl (Nat.le_refl _))
theorem Nt (r:R ν Z st F H) {x:Gh} (h:ghost x st=some st'):∃ν' Z',R ν' Z' st' F H/\Ev Rv ν Z st H ν' Z' st' H:=by
 cases x with
 | close d=>obtain⟨Z',a,b⟩:=G0 (Rv:=Rv) r h;grind
 | closeS l=>
  simp[ghost]at h;split at h
  .obtain⟨Z',a,b⟩:=G0 (Rv:=Rv) r h;grind
  .simp  at h;subst h;exact⟨ν,Z,r,.refl⟩
  grind
 | closeB d=>obtain⟨Z',a,b⟩:=Ly (Rv:=Rv) r h;grind
 | keep gs D=>
  simp[ghost]at h;split at h
  .rename_i g m hg A;simp  at h;subst h;exact⟨ν,Z,r.less (λs C w=>o9 hg w) (λd ob hd=>o9 A hd),Ev.less (λd ob hd=>o9 A hd)⟩
  grind
 | drop ds=>
  simp[ghost]at h;subst h;exact⟨ν,Z,r.less   (λs C w=>nC w) (λd ob hd=>hd),Ev.less   (λd ob hd=>hd)⟩
 | canon l d es=>
  cases l with
  | s n=>
   simp[ghost]at h;split at h
   .rename_i w;split at h
    .rename_i u;simp  at h;obtain⟨a,b⟩:=K4 (Rv:=Rv) (es:=es) (k:=.nil) r ⟨rfl,rfl⟩ w u (λy h=>h.bE) rfl
     grind
    grind
   .rename_i w;split at h
    .rename_i u;simp  at h;obtain⟨a,b⟩:=K4 (Rv:=Rv) (es:=es) (k:=.emp) r ⟨rfl,rfl⟩ w u (λy h=>h.dm) rfl
     grind
    grind
   .split at h
    .simp  at h;subst h;exact⟨ν,Z,r,.refl⟩
    .rename_i z;split at h
     .rename_i u;simp  at h;obtain⟨a,b⟩:=GG (Rv:=Rv) r z u
      grind
     grind
   .split at h
    .simp  at h;subst h;exact⟨ν,Z,r,.refl⟩
    .rename_i z;split at h
     .rename_i u;simp  at h;obtain⟨a,b⟩:=GG (Rv:=Rv) r z u
      grind
     grind
   grind
  | c b i=>
   simp[ghost]at h;split at h
   .rename_i cs B;split at h
    .rename_i w;split at h
     .rename_i u;simp  at h;obtain⟨ν',a,b⟩:=Lg (Rv:=Rv) (es:=es) (k:=.nil) r rfl B w u (λy h=>h.bE) rfl
      grind
     grind
    .rename_i w;split at h
     .rename_i u;simp  at h;obtain⟨ν',a,b⟩:=Lg (Rv:=Rv) (es:=es) (k:=.emp) r rfl B w u (λy h=>h.dm) rfl
      grind
     grind
    .split at h
     .simp  at h;subst h;exact⟨ν,Z,r,.refl⟩
     .rename_i z;split at h
      .rename_i u;simp  at h;obtain⟨a,b⟩:=GG (Rv:=Rv) r z u
       grind
      grind
    grind
   grind
end
end Go.VE
namespace Go.VE
variable [bN]
structure mb (E:Env) (f:FuncId) (q:Dl):Prop where
 keep:E.keep f=true
 own:E.own f=false
 le:∀es xs vs ys,q.go es xs vs=some ys->ys.length<=xs.length/\(q.part=false->ys.length=xs.length)
 none:∀es vs ys,q.go es [] vs=some ys->∀(H:bf) (Z:Nat->Prop) (ws:List V) (w:V),cW H Z vs ws->(w=.bE\/w=.dm)->∃n X,∀k,n<=k->run E k (.fn f) (w::ws) H=some (if q.part then w else .undef,H++X)
 row:∀es xs vs ys,q.go es xs vs=some ys->∀(H:bf) (Z:Nat->Prop) (ws:List V) (id off:Nat) (rs:List (List V)),cW H Z vs ws->H[id]? = some (.row es rs)->off+xs.length<=rs.length ->
  fH H Z xs ((rs.drop off).take xs.length)->uk H Z rs->¬Z id->∃n rs' X,(∀k,n<=k->run E k (.fn f) (.hsl id es off xs.length::ws) H=some (if q.part then .hsl id es off ys.length else .undef,(H++X).set id (.row es rs'))) /\
   rs'.length=rs.length/\fH H Z ys ((rs'.drop off).take ys.length)/\uk H Z rs'
section
variable {Rv:Nat->Prop} {ν ν':Nu} {Z Z':Nat->Prop} {st st':St} {m m':Tb bu} {F F':Frame} {H H':bf}
theorem Re {E:Env} {f:FuncId} {q:Dl} (hq:mb E f q) (r:R ν Z st F H) {args:List SV} {ys:List V} (ha:bT ν st.m H Z args ys) {dst:Option Nat} {sv:SV} (h:A4 q dst args st=some (sv,st')) :
 ∃n y H' ν',(∀k,n<=k->run E k (.fn f) ys H=some (y,H'))/\R ν' Z st' F H'/\cS ν' st'.m H' Z sv y/\Ev Rv ν Z st H ν' Z st' H'/\Kept dst ν st.m ν' st'.m:=by
 unfold A4 at h;split at h
 .rename_i d vs;obtain⟨w,ws,rfl,h1,h2⟩:=ha.inv;split at h
  .rename_i k es xs zs u D;have aa:=bT.cZ h2 D;split at h
   .rename_i ns S;obtain⟨al,af⟩:=hq.le _ _ _ _ S;obtain⟨_,_,_,ee,rfl⟩:=h1.jw u;cases ee;have grow:∀X:bf,R ν Z st F (H++X)/\Ev Rv ν Z st H ν Z st (H++X)/\∀id,Z id->bl (H++X) id=bl H id:=λX=>by
     have hx:∀id,id<H.length->(H++X)[id]? = H[id]? := λid h=>List.getElem?_append_left h
     have D:∀id,Z id->bl (H++X) id=bl H id:=λid h=>by unfold bl;rw[hx id (r.uT h)]
     exact⟨r.heap (λid h=>hx id (r.lt h)) D,Ev.heap (by simp) (λid h _ _ _=>hx id h) D,D⟩
    have o:=r.obj d _ u
    cases hk:cC k with
    | false=>
     simp only[dN,hk,Bool.false_eq_true,if_false]at o;subst o;have hw:qX (ν d) k es 0=.bE\/qX (ν d) k es 0=.dm:=by cases k <;> simp[qX,cC]at hk ⊢
     obtain⟨n,X,J⟩:=hq.none _ _ _ S H Z ws _ aa hw;obtain⟨Y,G,T⟩:=grow X;simp only[hk,Bool.false_eq_true,if_false]at h;split at h
     .rename_i L;split at h
      .rename_i t;split at h
       .rename_i z;simp only[ζa,ζc]at h;obtain⟨rfl,rfl⟩:=h;have r1:R ν Z { st with m:=dO d st.m } F (H++X):=Y.less (g:=st.g) (λ_ _ h=>h) jH
        rw[if_pos L]at J;refine⟨n,_,H++X,gZ ν t (ν d),J,r1.add z (λhb=>by simp[cm,hk]at hb) (by simp[dN,hk]),?_,?_,Kept.add jH⟩
        .refine .own _ _ λah U=>?_
         simp only at U;rw[cr]at U;cases U;exact⟨_,_,_,rfl,by rw[gp];rfl⟩
        .exact G.trans (Ev.re (st:=st) jH (k8 z).1 (Nat.le_refl _) (λ_ _ _ _=>rfl) (λ_ _=>rfl) (λhb=>by simp[cm,hk]at hb))
       .cases h
      .cases h
     .rename_i L;simp only[ζa,ζc]at h;obtain⟨rfl,rfl⟩:=h;rw[if_neg L]at J;have hu:bH st.m d (.sl k es [])=st.m:=ot u;rw[hu];exact⟨n,_,H++X,ν,J,Y,.v _ _ (.same _ rfl),G,.refl⟩
    | true=>
     simp only[dN,hk,if_true]at o;obtain⟨rs,hr,hl,hf,ab,O⟩:=o;have A:cm (.sl k es xs)=true:=hk;obtain⟨n,B,X,J,e1,e2,e3⟩:=hq.row _ _ _ _ S H Z ws _ _ rs aa hr hl hf ab (r.apart d _ u A);obtain⟨Y,G,T⟩:=grow X;have ai:(ν d).1<(H++X).length:=by have:=(ζe.1 hr).1;simp;omega
     have D:∀id,Z id->Z id/\bl ((H++X).set (ν d).1 (.row es B)) id=bl H id:=λid C=>⟨C,by
      rw[<-T id C];unfold bl;rw[List.getElem?_set_ne];rintro rfl;exact r.apart d _ u A C⟩
     have ad:∀id,Z id->bl ((H++X).set (ν d).1 (.row es B)) id=bl (H++X) id:=λid C=>by rw[(D id C).2,T id C]
     have hh:∀id,id≠(ν d).1->((H++X).set (ν d).1 (Ob.row es B))[id]? = (H++X)[id]? := λid aj=>List.getElem?_set_ne (Ne.symm aj)
     have I:((H++X).set (ν d).1 (Ob.row es B))[(ν d).1]? = some (.row es B):=List.getElem?_set_self ai;rw[qH hk];simp only[hk,if_true]at h;split at h
     .rename_i L;split at h
      .rename_i t;split at h
       .rename_i z;simp only[ζa,ζc]at h;obtain⟨rfl,rfl⟩:=h;have r1:R ν Z { st with m:=dO d st.m } F (H++X):=Y.less (g:=st.g) (λ_ _ h=>h) jH
        have ae:¬eT ν (dO d st.m) (ν d).1:=by
         rintro⟨k2,o2,g1,g2,g3⟩;obtain⟨g4,g5⟩:=m_ g1;exact g4 (r.inj d k2 _ o2 u g5 A g2 g3.symm)
        have r2:R ν Z { st with m:=dO d st.m } F ((H++X).set (ν d).1 (.row es B)):=r1.heap (λid ho=>hh id (by rintro rfl;exact ae ho)) ad
        rw[if_pos L]at J;refine⟨n,_,_,gZ ν t (ν d),J,r2.add z (λ_=>⟨ae,r.apart d _ u A⟩) ?_,?_,?_,Kept.add jH⟩
        .simp only[dN,cC,if_true,gp];exact⟨B,I,by omega,e2.mono D,e3.mono D,λe=>by cases e⟩
        .refine .own _ _ λah U=>?_
         simp only at U;rw[cr]at U;cases U;exact⟨_,_,_,rfl,by rw[gp];rfl⟩
        .exact G.trans (Ev.re (st:=st) jH (k8 z).1 (by simp) (λid _ ho _=>hh id (by rintro rfl;exact ho ⟨d,_,u,A,rfl⟩)) ad (λ_=>.inl ⟨d,_,u,A,rfl⟩))
       .cases h
      .cases h
     .rename_i L;simp only[ζa,ζc]at h;obtain⟨rfl,rfl⟩:=h;rw[if_neg L]at J;have ak:q.part=false:=by simpa using L
      have Q:=af ak;have W:sameShape (.sl k es xs) (.sl k es ns):=⟨rfl,rfl,Q⟩;refine⟨n,_,_,ν,J,Y.gb u W rfl hh A ?_,.v _ _ (.same _ rfl),G.trans (Ev.gb Y u W rfl hh A (by simp)),Kept.gb u W⟩
      simp only[dN,hk,if_true];exact⟨B,I,by omega,e2.mono D,e3.mono D,λe=>⟨(O e).1,by rw[e1,(O e).2,Q]⟩⟩
   .cases h
  .cases h
 .cases h
end
end Go.VE
namespace Go.VE
variable [bN]
def tS:Nat->List SV->Tb SV
 | _,[]=>[]
 | i,v::vs=>(i,v)::tS (i+1) vs
def start (svs:List SV) (B:c7):St:=⟨tS 0 svs,B,B.map (·.1),[],true,0⟩
def iy (S:Sys) (c:bS):Prop:=
 ∀f u w rs z,c f u w=some (rs,z)->∀(ν:Nu) (Z:Nat->Prop) (args:List V) (H:bf),(S.E.keep f=true\/H=[])->R ν Z (start u w) args H->bT ν w H Z u args ->
  ∃n y H' ν' Z' st' F' A,run S.E n (.fn f) args H=some (y,H')/\y=result A/\st'.m=z/\bT ν' z H' Z' rs A/\R ν' Z' st' F' H'/\Ev (λ_=>False) ν Z (start u w) H ν' Z' st' H'
section
variable {Rv:Nat->Prop} {ν ν':Nu} {Z Z':Nat->Prop} {st st':St} {m m':Tb bu} {F F':Frame} {H H' H1:bf} {N:Nat->FuncId}
theorem O1 {k:Fl} {es:Nat} {xs:List (List V)} {d:Nat} (o:dN ν m H Z d (.sl k es xs)):(mS k es xs).good=true:=by
 by_cases hk:cC k=true
 .simp only[dN,hk,if_true]at o;obtain⟨w,_,_,u,_⟩:=o;have e:mS k es xs=.fsl es xs:=by cases k <;> simp[cC]at hk <;> rfl
  rw[e];simp only[V.good];exact u.good
 .cases k <;> simp[cC]at hk <;> rfl
mutual
theorem LA (D:∀d ob,a_ m d=some ob->dN ν m H Z d ob):∀(n:Nat) (sv:SV) (x y:V),shut m n sv=some x->cS ν m H Z sv y->x.good=true
 | n,.v x,z,y,h,r=>by simp only[shut,ζa]at h;subst h;exact r.fr.good
 | n,.own d,z,y,h,r=>by
  simp only[shut]at h;split at h
  .rename_i k es xs B;simp only[ζa]at h;subst h;exact O1 (D d _ B)
  .simp at h
 | 0,.ptr d o,z,y,h,r=>by simp[shut]at h
 | n+1,.ptr d o,z,y,h,r=>by
  simp only[shut]at h;split at h
  .rename_i cs B;split at h
   .rename_i xs J;split at h
    .simp only[ζa]at h;subst h;obtain⟨es,G,_,hc,_⟩:=D d _ B;simp only[V.good];exact xP _ (lU D n cs xs G J hc)
    .simp at h
   .simp at h
  .simp at h
 | n,.el d i o,z,y,h,r=>by cases n <;> simp[shut]at h
 | n,.yl id,z,y,h,r=>by cases n <;> simp[shut]at h
 | n,.mp d,z,y,h,r=>by
  simp only[shut]at h;split at h
  .rename_i L B;simp only[ζa]at h;subst h;obtain⟨w,_,hk⟩:=D d _ B;simp only[V.good];refine Dy.2 λj u hu=>?_
   have O:j<w.length:=by rw[<-hk.1];exact(ζe.1 hu).1
   obtain⟨⟨_,h1⟩,A⟩:=hk.2 j u _ hu (ζd O);exact⟨jR h1,A.good⟩
  .simp at h
 | 0,.clo f a b,z,y,h,r=>by simp[shut]at h
 | n+1,.clo f a b,z,y,h,r=>by
  simp only[shut]at h;split at h
  .rename_i Q x2 h1 A;simp only[ζa]at h;subst h;obtain⟨S,T,rfl,U,W⟩:=r.jv;simp only[V.good,ζh];exact⟨lU D n a Q S h1 U,lU D n b x2 T A W⟩
  .simp at h
 | 0,.tup l,z,y,h,r=>by simp[shut]at h
 | n+1,.tup l,z,y,h,r=>by
  simp only[shut]at h;obtain⟨xs,h1,rfl⟩:=ζf.1 h;obtain⟨C,rfl,I⟩:=r.oR;simp only[V.good];exact lU D n l xs C h1 I
 | 0,.agg l,z,y,h,r=>by simp[shut]at h
 | n+1,.agg l,z,y,h,r=>by
  simp only[shut]at h;obtain⟨xs,h1,rfl⟩:=ζf.1 h;obtain⟨C,rfl,I⟩:=r.gT;simp only[V.good];exact lU D n l xs C h1 I
theorem lU (D:∀d ob,a_ m d=some ob->dN ν m H Z d ob):∀(n:Nat) (svs:List SV) (xs ys:List V),cQ m n svs=some xs->bT ν m H Z svs ys->V.cD xs=true
 | n,[],xs,ys,h,r=>by simp only[cQ,ζa]at h;subst h;rfl
 | n,sv::svs,xs,ys,h,r=>by
  simp only[cQ]at h;split at h
  .rename_i y s h1 G;simp only[ζa]at h;subst h;obtain⟨J,B,rfl,r1,r2⟩:=r.inv;simp only[V.cD,ζh];exact⟨LA D n sv y J h1 r1,lU D n svs s B G r2⟩
  .simp at h
end
theorem FV {f:V->Option V}:∀{xs ys:List (V×V)},xs.length=ys.length->(∀(j:Nat) u v,xs[j]? = some u->ys[j]? = some v->f v.1=some u.1/\f v.2=some u.2)->kK f ys=some xs
 | [],[],_,_=>rfl
 | [],y::ys,h,_=>by simp at h
 | x::xs,[],h,_=>by simp at h
 | (a,b)::xs,(c,d)::ys,h,B=>by
  obtain⟨h1,D⟩:=B 0 _ _ rfl rfl;simp only at h1 D;simp only[kK,h1,D,FV (xs:=xs) (ys:=ys) (by simpa using h) λj u v hu hv=>B (j+1) u v (by simpa using hu) (by simpa using hv)]
theorem GX:∀{l:List (V×V)} {n:Nat},V.qU n l=true↔∀(j:Nat) u,l[j]? = some u->u.1.lvl n=true/\u.2.lvl n=true
 | [],n=>by simp[V.qU]
 | (k,x)::l,n=>by
  simp only[V.qU,ζh,GX (l:=l)];constructor
  .rintro⟨h1,B⟩ j u hu
   cases j with
   | zero=>simp at hu;subst hu;exact h1
   | succ j=>exact B j u (by simpa using hu)
  .intro h;exact⟨h 0 (k,x) rfl,λj u hu=>h (j+1) u (by simpa using hu)⟩
theorem tf {n:Nat} {xs ys:List V} (D:gV (borrow n H1) ys=some xs) (B:V.j9 ys=true):ys=xs:=by
 have w:=jL (f:=borrow n H1) (xs:=ys) (ys:=ys) rfl λj u v hu hv=>by rw[hu]at hv;cases hv;exact dU n H1 (nL.1 B j u hu)
 rw[D]at w;cases w;rfl
mutual
theorem HE {fr:List Nat} (G:∀d∈fr,∀e ob,a_ m e=some ob->ob.cM d=false) (J:∀d ob,a_ m d=some ob->d∉fr->dN ν m H1 Z d ob) :
 ∀(n:Nat) (sv:SV) (x y:V),shut m n sv=some x->(∀d∈fr,sv.cM d=false)->cS ν m H1 Z sv y->∀k,x.lvl k=true->borrow k H1 y=some x
 | n,.v x,z,y,h,B,r,k,hk=>by simp only[shut,ζa]at h;subst h;exact r.fr.borrow k hk
 | n,.own d,z,y,h,B,r,k,hk=>by
  simp only[shut]at h;split at h
  .rename_i Y es xs D;simp only[ζa]at h;subst h;obtain⟨_,_,_,e,rfl⟩:=r.jw D;cases e;have hd:d∉fr:=λhd=>by have:=B d hd;simp[SV.cM]at this
   have o:=J d _ D hd
   by_cases C:cC Y=true
   .simp only[dN,C,if_true]at o;obtain⟨ys,hr,hl,hf,_⟩:=o;rw[qH C];have e:mS Y es xs=.fsl es xs:=by cases Y <;> simp[cC]at C <;> rfl
    rw[e]at hk ⊢;exact(FR.Ji (Z:=λ_=>True) trivial (show bl H1 (ν d).1=some (es,ys)by unfold bl;rw[hr];rfl) hl (hf.mono λid h=>⟨trivial,rfl⟩)).borrow k hk
   .cases Y <;> simp[cC]at C
    .exact dU k H1 rfl
    .exact dU k H1 rfl
  .simp at h
 | 0,.ptr d o,z,y,h,B,r,k,hk=>by simp[shut]at h
 | n+1,.ptr d o,z,y,h,B,r,k,hk=>by
  simp only[shut]at h;split at h
  .rename_i cs D;split at h
   .rename_i xs hx;split at h
    .rename_i X;simp only[ζa]at h;subst h;obtain⟨_,e,rfl⟩:=r.nM D;cases e;have hd:d∉fr:=λhd=>by have:=B d hd;simp[SV.cM]at this
     obtain⟨es,I,hr,hc,_⟩:=J d _ D hd
     cases k with
     | zero=>simp[V.lvl]at hk
     | succ k=>
      simp only[V.lvl]at hk;have aa:∀e∈fr,SV.di e (cs.drop o)=false:=λe he=>by
       have:=G e he d _ D;simp only[bu.cM]at this
       cases hh:SV.di e (cs.drop o)with
       | false=>rfl
       | true=>
        exfalso;have:∀{l:List SV} {j:Nat},SV.di e (l.drop j)=true->SV.di e l=true:=by
         intro l
         induction l with
         | nil=>intro j h;simpa using h
         | cons a l L=>intro j h;cases j with
          | zero=>simpa using h
          | succ j=>simp only[SV.di,Bool.or_eq_true];exact .inr (L (by simpa using h))
        rw[this hh]at *;simp_all
      have O:xs.length=cs.length:=by
       have:∀{l:List SV} {r:List V},cQ m n l=some r->r.length=l.length:=by
        intro l
        induction l with
        | nil=>intro r h;simp only[cQ,ζa]at h;subst h;rfl
        | cons a l L=>
         intro r h;simp only[cQ]at h;split at h
         .rename_i h1 Q;simp only[ζa]at h;subst h;simp[L Q]
         .simp at h
       exact this hx
      have ab:cQ m n (cs.drop o)=some (xs.drop o):=by
       have:∀{l:List SV} {r:List V} {j:Nat},cQ m n l=some r->cQ m n (l.drop j)=some (r.drop j):=by
        intro l
        induction l with
        | nil=>intro r j h;simp only[cQ,ζa]at h;subst h;simp[cQ]
        | cons a l L=>
         intro r j h;have h0:=h;simp only[cQ]at h;split at h
         .rename_i h1 Q;simp only[ζa]at h;subst h
          cases j with
          | zero=>exact h0
          | succ j=>exact L Q
         .simp at h
       exact this hx
      have hb:=jl G J n (cs.drop o) (xs.drop o) (I.drop o) ab aa (hc.drop o) k hk;unfold borrow;simp only[V.closed,Bool.false_eq_true,if_false,hr,ζb,Ob.rows,List.getElem?_cons_zero,if_pos (show o<=I.length by rw[<-hc.1,<-O];exact X),hb,Option.map_some]
    .simp at h
   .simp at h
  .simp at h
 | n,.el d i o,z,y,h,B,r,k,hk=>by cases n <;> simp[shut]at h
 | n,.yl id,z,y,h,B,r,k,hk=>by cases n <;> simp[shut]at h
 | n,.mp d,z,y,h,B,r,k,hk=>by
  simp only[shut]at h;split at h
  .rename_i ad D;simp only[ζa]at h;subst h;obtain⟨_,e,rfl⟩:=r.BT D;cases e;have hd:d∉fr:=λhd=>by have:=B d hd;simp[SV.cM]at this
   obtain⟨S,hr,T⟩:=J d _ D hd
   cases k with
   | zero=>simp[V.lvl]at hk
   | succ k=>
    simp only[V.lvl]at hk;unfold borrow;simp only[V.closed,Bool.false_eq_true,if_false,hr];rw[FV (xs:=ad) (ys:=S) T.1 λj u v hu hv=>?_]
    .rfl
    .obtain⟨⟨e1,e2⟩,e3⟩:=T.2 j u v hu hv;exact⟨by rw[<-e1];exact dU k H1 (V.kR (jR e2)),e3.borrow k (GX.1 hk j u hu).2⟩
  .simp at h
 | 0,.clo f a b,z,y,h,B,r,k,hk=>by simp[shut]at h
 | n+1,.clo f a b,z,y,h,B,r,k,hk=>by
  simp only[shut]at h;split at h
  .rename_i x1 x2 h1 Q;simp only[ζa]at h;subst h;obtain⟨a',b',rfl,ra,rb⟩:=r.jv
   cases k with
   | zero=>simp[V.lvl]at hk
   | succ k=>
    simp only[V.lvl,ζh]at hk;have A:=jl G J n a x1 a' h1 (λd hd=>by have:=B d hd;simp only[SV.cM,Bool.or_eq_false_iff]at this;exact this.1) ra k hk.1
    have U:=jl G J n b x2 b' Q (λd hd=>by have:=B d hd;simp only[SV.cM,Bool.or_eq_false_iff]at this;exact this.2) rb k hk.2
    by_cases w:(V.clo f a' b').closed=true
    .rw[dU _ _ w];simp only[V.closed,ζh]at w;rw[tf A w.1,tf U w.2]
    .unfold borrow;rw[if_neg w];simp only[A,U]
  .simp at h
 | 0,.tup l,z,y,h,B,r,k,hk=>by simp[shut]at h
 | n+1,.tup l,z,y,h,B,r,k,hk=>by
  simp only[shut]at h;obtain⟨xs,h1,rfl⟩:=ζf.1 h;obtain⟨W,rfl,rl⟩:=r.oR
  cases k with
  | zero=>simp[V.lvl]at hk
  | succ k=>
   simp only[V.lvl]at hk;have A:=jl G J n l xs W h1 (λd hd=>by have:=B d hd;simpa [SV.cM]using this) rl k hk
   by_cases w:(V.tup W).closed=true
   .rw[dU _ _ w];simp only[V.closed]at w;rw[tf A w]
   .unfold borrow;rw[if_neg w];simp only[A,Option.map_some]
 | 0,.agg l,z,y,h,B,r,k,hk=>by simp[shut]at h
 | n+1,.agg l,z,y,h,B,r,k,hk=>by
  simp only[shut]at h;obtain⟨xs,h1,rfl⟩:=ζf.1 h;obtain⟨W,rfl,rl⟩:=r.gT
  cases k with
  | zero=>simp[V.lvl]at hk
  | succ k=>
   simp only[V.lvl]at hk;have A:=jl G J n l xs W h1 (λd hd=>by have:=B d hd;simpa [SV.cM]using this) rl k hk
   by_cases w:(V.agg W).closed=true
   .rw[dU _ _ w];simp only[V.closed]at w;rw[tf A w]
   .unfold borrow;rw[if_neg w];simp only[A,Option.map_some]
theorem jl {fr:List Nat} (B:∀d∈fr,∀e ob,a_ m e=some ob->ob.cM d=false) (J:∀d ob,a_ m d=some ob->d∉fr->dN ν m H1 Z d ob) :
 ∀(n:Nat) (svs:List SV) (xs ys:List V),cQ m n svs=some xs->(∀d∈fr,SV.di d svs=false)->bT ν m H1 Z svs ys->∀k,V.kr k xs=true->gV (borrow k H1) ys=some xs
 | n,[],xs,ys,h,D,r,k,hk=>by simp only[cQ,ζa]at h;subst h;rw[r.cO];rfl
 | n,sv::svs,xs,ys,h,D,r,k,hk=>by
  simp only[cQ]at h;split at h
  .rename_i y s h1 T;simp only[ζa]at h;subst h;obtain⟨U,G,rfl,r1,r2⟩:=r.inv;simp only[V.kr,ζh]at hk;have u:=HE B J n sv y U h1 (λd hd=>by have:=D d hd;simp only[SV.di,Bool.or_eq_false_iff]at this;exact this.1) r1 k hk.1
   have w:=jl B J n svs s G T (λd hd=>by have:=D d hd;simp only[SV.di,Bool.or_eq_false_iff]at this;exact this.2) r2 k hk.2
   simp only[gV,u,w]
  .simp at h
end
end
end Go.VE
namespace Go.VE
variable [bN]
theorem OO (n:Nat):V.kr n []=true:=by cases n <;> rfl
theorem LV (n:Nat) (x:V) (r:List V):V.kr n (x::r)=(V.lvl n x&&V.kr n r):=by cases n <;> rfl
mutual
theorem BK:∀{n:Nat} {x:V},V.lvl n x=true->V.lvl (n+1) x=true
 | 0,.fsl ..,h=>by simp[V.lvl]at h
 | 0,.fptr ..,h=>by simp[V.lvl]at h
 | 0,.fmap ..,h=>by simp[V.lvl]at h
 | 0,.agg ..,h=>by simp[V.lvl]at h
 | 0,.tup ..,h=>by simp[V.lvl]at h
 | 0,.clo ..,h=>by simp[V.lvl]at h
 | n+1,.fsl es xs,h=>by simp only[V.lvl]at h ⊢;exact Bf h
 | n+1,.fptr cs,h=>by simp only[V.lvl]at h ⊢;exact qM h
 | n+1,.fmap B,h=>by simp only[V.lvl]at h ⊢;exact Cz h
 | n+1,.agg cs,h=>by simp only[V.lvl]at h ⊢;exact qM h
 | n+1,.tup cs,h=>by simp only[V.lvl]at h ⊢;exact qM h
 | n+1,.clo f a b,h=>by simp only[V.lvl,ζh]at h ⊢;exact⟨qM h.1,qM h.2⟩
 | 0,.bool _,_|0,.int ..,_|0,.str _,_|0,.gF,_|0,.fR,_|0,.qJ,_|0,.dm,_|0,.bE,_|0,.hsl ..,_|0,.hptr ..,_|0,.yld _,_|0,.hmap _,_=>rfl
 | _+1,.bool _,_|_+1,.int ..,_|_+1,.str _,_|_+1,.gF,_|_+1,.fR,_|_+1,.qJ,_|_+1,.dm,_|_+1,.bE,_|_+1,.hsl ..,_|_+1,.hptr ..,_|_+1,.yld _,_|_+1,.hmap _,_=>rfl
theorem qM:∀{n:Nat} {x:List V},V.kr n x=true->V.kr (n+1) x=true
 | n,[],_=>OO _
 | n,a::l,h=>by rw[LV,ζh]at h ⊢;exact⟨BK h.1,qM h.2⟩
theorem Bf:∀{n:Nat} {x:List (List V)},V.n5 n x=true->V.n5 (n+1) x=true
 | n,[],_=>by simp only[V.n5]
 | n,a::l,h=>by simp only[V.n5,ζh]at h ⊢;exact⟨qM h.1,Bf h.2⟩
theorem Cz:∀{n:Nat} {x:List (V×V)},V.qU n x=true->V.qU (n+1) x=true
 | n,[],_=>by simp only[V.qU]
 | n,(k,v)::l,h=>by simp only[V.qU,ζh]at h ⊢;exact⟨⟨BK h.1.1,BK h.1.2⟩,Cz h.2⟩
end
theorem w9 {n m:Nat} (h:n<=m) {x:V} (B:V.lvl n x=true):V.lvl m x=true:=by
 induction h with
 | refl=>exact B
 | step _ u=>exact BK u
theorem nS {n m:Nat} (h:n<=m) {x:List V} (B:V.kr n x=true):V.kr m x=true:=by
 induction h with
 | refl=>exact B
 | step _ u=>exact qM u
theorem NG {n m:Nat} (h:n<=m) {x:List (List V)} (B:V.n5 n x=true):V.n5 m x=true:=by
 induction h with
 | refl=>exact B
 | step _ u=>exact Bf u
theorem QD {n m:Nat} (h:n<=m) {x:List (V×V)} (B:V.qU n x=true):V.qU m x=true:=by
 induction h with
 | refl=>exact B
 | step _ u=>exact Cz u
mutual
theorem yR:∀x:V,∃n,V.lvl n x=true
 | .fsl es xs=>let ⟨n,h⟩:=Gv xs;⟨n+1,by simp only[V.lvl];exact h⟩
 | .fptr cs=>let ⟨n,h⟩:=kS cs;⟨n+1,by simp only[V.lvl];exact h⟩
 | .fmap u=>let ⟨n,h⟩:=ID u;⟨n+1,by simp only[V.lvl];exact h⟩
 | .agg cs=>let ⟨n,h⟩:=kS cs;⟨n+1,by simp only[V.lvl];exact h⟩
 | .tup cs=>let ⟨n,h⟩:=kS cs;⟨n+1,by simp only[V.lvl];exact h⟩
 | .clo f a b=>let ⟨n,h⟩:=kS a;let ⟨m,k⟩:=kS b;⟨max n m+1,by simp only[V.lvl,ζh];exact⟨nS (Nat.le_max_left _ _) h,nS (Nat.le_max_right _ _) k⟩⟩
 | .bool _|.int ..|.str _|.gF|.fR|.qJ|.dm|.bE|.hsl ..|.hptr ..|.yld _|.hmap _=>⟨0,rfl⟩
theorem kS:∀x:List V,∃n,V.kr n x=true
 | []=>⟨0,by simp only[V.kr]⟩
 | a::l=>let ⟨n,h⟩:=yR a;let ⟨m,k⟩:=kS l;⟨max n m,by simp only[V.kr,ζh];exact⟨w9 (Nat.le_max_left _ _) h,nS (Nat.le_max_right _ _) k⟩⟩
theorem Gv:∀x:List (List V),∃n,V.n5 n x=true
 | []=>⟨0,by simp only[V.n5]⟩
 | a::l=>let ⟨n,h⟩:=kS a;let ⟨m,k⟩:=Gv l;⟨max n m,by simp only[V.n5,ζh];exact⟨nS (Nat.le_max_left _ _) h,NG (Nat.le_max_right _ _) k⟩⟩
theorem ID:∀x:List (V×V),∃n,V.qU n x=true
 | []=>⟨0,by simp only[V.qU]⟩
 | (a,b)::l=>let ⟨n,h⟩:=yR a;let ⟨m,k⟩:=yR b;let ⟨q,p⟩:=ID l;⟨max n (max m q),by simp only[V.qU,ζh];exact⟨⟨w9 (by omega) h,w9 (by omega) k⟩,QD (by omega) p⟩⟩
end
end Go.VE
namespace Go.VE
variable [bN]
def iK (E:Env) (call:dh) (ops:List Oper) (place:Option (Nat×Nat)) (f:FuncId) (args:List V) (H:bf):Option (V×bf):=
 if jX E ops place f then
  match place with
  | none=>fc E call f args H
  | some (_,i)=>if dB ops i then fc E call f args H else none
 else match place with
  | none=>match bU call f args H with
   | some y=>some (y,if y.scalar then H else ct H (cI (bW call.lv H) args))
   | none=>none
  | some (b,i)=>match bU call f args (H.take b)with
   | some y=>if y.scalar then some (y,H)else if hD (H.take b) (cI (bW call.lv (H.take b)) args)then some (y,ct H (cI (bW call.lv (H.take b)) args))else none
   | none=>if dB ops i then match bU call f args H with
    | some y=>some (y,if y.scalar then H else ct H (cI (bW call.lv H) args))
    | none=>none
    else none
section
variable {Rv:Nat->Prop} {ν ν':Nu} {Z Z':Nat->Prop} {st st':St} {m m':Tb bu} {F F':Frame} {H H' H1:bf} {N:Nat->FuncId} {S:Sys} {c:bS}
theorem FX:∀(l:List SV) (i s:Nat) (sv:SV),a_ (tS i l) s=some sv->∃j,s=i+j/\l[j]? = some sv
 | [],i,s,sv,h=>by simp[tS,a_]at h
 | x::l,i,s,sv,h=>by
  simp only[tS,a_]at h;split at h
  .rename_i e;simp only[ζa]at h;subst h;exact⟨0,by omega,rfl⟩
  .obtain⟨j,h1,B⟩:=FX l (i+1) s sv h;exact⟨j+1,by omega,by simpa using B⟩
theorem vU {svs:List SV} {args:List V} (h:bT ν m H Z svs args):∀s sv,a_ (tS 0 svs) s=some sv->cS ν m H Z sv (get args s):=λs sv u=>by
 obtain⟨j,rfl,w⟩:=FX svs 0 s sv u;obtain⟨y,z,r⟩:=h.get w;rw[Nat.zero_add,Fb args j y z];exact r
theorem zK {az:List V} (hg:V.cD az=true):R (λ_=>(0,0)) (λ_=>False) (start (az.map .v) []) az []/\bT (λ_=>(0,0)) [] [] (λ_=>False) (az.map .v) az:=by
 have h:bT (λ_=>(0,0)) [] [] (λ_=>False) (az.map .v) az:=bT.p8 (cW.same hg)
 refine⟨⟨vU h,λd ob hd=>by simp[start,a_]at hd,λd w ob u hd=>by simp[start,a_]at hd,λd ob hd=>by simp[start,a_]at hd,λid h=>h.elim,⟨λid es z h=>h.elim⟩⟩,h⟩
theorem Ej {xs ys:List V} (h:cW H Z xs ys):((result xs).scalar=true->result ys=result xs)/\(result ys).scalar=(result xs).scalar:=by
 cases xs with
 | nil=>rw[h.cO];exact⟨λ_=>rfl,rfl⟩
 | cons x xs=>
  obtain⟨y,ys,rfl,h1,u⟩:=h.inv
  cases xs with
  | nil=>rw[u.cO];exact h1.scalar
  | cons x2 xs=>
   obtain⟨w,ys,rfl,z,A⟩:=u.inv;exact FR.scalar (.tup _ _ h.1 h.2)
theorem AW (hS:iy S c) {f:FuncId} {az ys:List V} {rs:List SV} {m':c7} (hg:V.cD az=true) (h:c f (az.map .v) []=some (rs,m')) (J:cQ m' 8 rs=some ys) :
 ∃n r H2,(∀k,n<=k->run S.E k (.fn f) az []=some (r,H2))/\(∀k,n<=k->borrow k H2 r=some (result ys))/\(result ys).good=true:=by
 obtain⟨U,r1⟩:=zK hg;obtain⟨n,y,H2,ν',Z',st',F',A,h1,rfl,W,I,O,_⟩:=hS f _ _ _ _ h _ _ az [] (.inr rfl) U r1;subst W;have B:=lU O.obj 8 rs ys A J I;obtain⟨L,Q⟩:=kS ys;refine⟨max n (L+1),result A,H2,λk hk=>(nI S.E (Nat.le_trans (Nat.le_max_left ..) hk)).go _ _ _ _ h1,λk hk=>?_,?_⟩
 .have w:=jl (fr:=[]) (λd hd=>by simp at hd) (λd ob hd _=>O.obj d ob hd) 8 rs _ _ J (λd hd=>by simp at hd) I
  obtain⟨k,rfl⟩:∃j,k=j+1:=⟨k-1,by omega⟩
  have T:=w k (nS (by omega) Q)
  have X:=w (k+1) (nS (by omega) Q)
  obtain⟨e1,e2⟩:=iq X
  cases A with
  | nil=>obtain rfl:=List.eq_nil_of_length_eq_zero e1;exact dU _ H2 rfl
  | cons z A=>
   cases A with
   | nil=>
    obtain⟨y,rfl⟩:∃y,ys=[y]:=by
     cases ys with
     | nil=>simp at e1
     | cons y l=>cases l with|nil=>exact⟨y,rfl⟩|cons _ _=>simp at e1
    obtain⟨x,Y,D⟩:=e2 0 y rfl;cases Y;exact D
   | cons Z A=>
    obtain⟨y,C,l,rfl⟩:∃y C l,ys=y::C::l:=by
     cases ys with
     | nil=>simp at e1
     | cons y l=>cases l with|nil=>simp at e1|cons C l=>exact⟨y,C,l,rfl⟩
    by_cases u:(V.tup (z::Z::A)).closed=true
    .simp only[result];rw[dU _ _ u];simp only[V.closed]at u;rw[tf T u]
    .simp only[result];unfold borrow;rw[if_neg u];simp only[T,Option.map_some]
 .have:∀{l:List V},V.cD l=true->(result l).good=true:=by
   intro l G
   cases l with
   | nil=>rfl
   | cons a l=>cases l with
    | nil=>simp only[V.cD,ζh]at G;exact G.1
    | cons b l=>simp only[result,V.good];exact G
  exact this B
theorem CV {f:FuncId} {args az:List V} {y r:V} {H2:bf} {n:Nat} (hr:∀k,n<=k->run S.E k (.fn f) az []=some (r,H2)) (D:∀k,n<=k->borrow k H2 r=some y) (hg:y.good=true) {B:Nat} (G:∀k,B<=k->borrows k H args=some az) :
 ∀k,max n B<=k->bU (run S.E k) f args H=some y:=λk hk=>by
 unfold bU;simp only[mX,G k (by omega),hr k (by omega),D k (by omega),V.kR hg,if_true]
theorem ql (B:∀id,Z id->(bl H id).isSome=true) {T:List Nat} {id:Nat} (h:Z id):bl (ct H T) id=bl H id:=by
 have:=B id h;unfold bl at this ⊢;rw[gU]
 cases u:H[id]? with
 | none=>rw[u]at this;simp at this
 | some ob=>
  rw[u]at this;simp only[Option.map_some,ζb]
  by_cases e:id∈T
  .rw[if_pos e];cases ob <;> first|rfl|simp[Ob.rows]at this
  .rw[if_neg e]
theorem s8 {T:List Nat} {id:Nat} (h:id∉T):(ct H T)[id]? = H[id]? := by
 rw[gU];cases H[id]? <;> simp[h]
end
end Go.VE
namespace Go.VE
variable [bN]
section
variable {Rv:Nat->Prop} {ν ν':Nu} {Z Z':Nat->Prop} {st st':St} {m m':Tb bu} {F F':Frame} {H H' H1:bf} {N:Nat->FuncId} {S:Sys} {c:bS}
theorem yC {az:List V} {args:List SV} {ys:List V} (B:∀d ob,a_ m d=some ob->dN ν m H Z d ob) (h:cQ m 8 args=some az) (r:bT ν m H Z args ys):V.cD az=true:=lU B 8 args az ys h r
theorem v7 {az:List V} {args:List SV} {ys:List V} (r:R ν Z st F H) (B:bT ν st.m H Z args ys) (h:cQ st.m 8 args=some az):∃n,∀k,n<=k->borrows k H ys=some az:=
 let ⟨n,u⟩:=kS az
 ⟨n,λk hk=>jl (fr:=[]) (λd hd=>by simp_all) (λd ob hd _=>r.obj d ob hd) 8 args az ys h (λd hd=>by simp_all) B k (nS hk u)⟩
theorem mh {b id:Nat} (h:id<b):bl (H.take b) id=bl H id:=by
 unfold bl;grind
theorem IU {b:Nat} {fr:List Nat} {az:List V} {args:List SV} {ys:List V} (r:R ν Z st F H) (B:bT ν st.m H Z args ys) (h:cQ st.m 8 args=some az)
 (G:∀d ob,a_ st.m d=some ob->cm ob=true->d∉fr->(ν d).1<b) (D:∀id,Z id->id<b) (hold:eN st.m fr args=true):∃n,∀k,n<=k->borrows k (H.take b) ys=some az:=by
 obtain⟨n,w⟩:=kS az;refine⟨n,λk hk=>?_⟩
 unfold eN at hold;have h1:∀d∈fr,SV.di d args=false/\q9 d st.m=false:=λd hd=>by
  grind
 have u:∀id,Z id->Z id/\bl (H.take b) id=bl H id:=λid h=>⟨h,mh (D id h)⟩
 refine jl   (λd hd e ob z=>xk (h1 d hd).2 z) (λd ob hd A=>?_) 8 args az ys h (λd hd=>(h1 d hd).1) (B.mono u λe _=>hU ν st.m e) k (nS hk w)
 exact dN.mono u rfl (λC=>by grind) (λe _=>hU ν st.m e) (r.obj d ob hd)
theorem QS (hS:iy S c) {ops:List Oper} {place:Option (Nat×Nat)} {dr nw:Bool} {fr:List Nat} (ad:dr=place.isSome) (aa:∀b i,place=some (b,i)->nw=true->dB ops i=true)
 (hold:∀b i,place=some (b,i)->(∀d ob,a_ st.m d=some ob->cm ob=true->d∉fr->(ν d).1<b)/\∀id,Z id->id<b)
 (r:R ν Z st F H) {args:List SV} {ys:List V} (ha:bT ν st.m H Z args ys) {f:FuncId} (hk:S.E.keep f=false) {az:List V} (hs:cQ st.m 8 args=some az) (hno:(!dr||nw)=true\/eN st.m fr args=true)
 {rs:List SV} {m':c7} {G:List V} (hc:c f (az.map .v) []=some (rs,m')) (hz:cQ m' 8 rs=some G) (U:(result G).scalar=true\/(cZ args).isSome=true) :
 ∃n H',(∀k,n<=k->iK S.E (run S.E k) ops place f ys H=some (result G,H'))/\R ν Z st F H'/\cS ν st.m H' Z (.v (result G)) (result G)/\Ev Rv ν Z st H ν Z st H':=by
 have hg:=yC r.obj hs ha;obtain⟨n1,rr,H2,h1,h2,h3⟩:=AW hS hg hc hz;obtain⟨n2,hb⟩:=v7 r ha hs;have I:=CV h1 h2 h3 hb;generalize hn:max n1 n2=n at I;have B:=I;have O:∀k,n<=k->cI (bW k H) ys=cI (bW n H) ys:=λk hk=>xU hk (hb n (by omega))
 have D:∀{H'},cS ν st.m H' Z (.v (result G)) (result G):=.v _ _ (.same _ h3);have C:∀T:List Nat,(∀id∈T,Z id)->R ν Z st F (ct H T)/\Ev Rv ν Z st H ν Z st (ct H T):=λT W=>
  ⟨r.heap (λid ho=>s8 λz=>by obtain⟨d,ob,g1,g2,rfl⟩:=ho;exact r.apart d ob g1 g2 (W _ z)) (λid z=>ql r.zrow z),
   Ev.heap (by rw[jr];grind) (λid _ _ hz _=>s8 λz=>hz (W id z)) (λid z=>ql r.zrow z)⟩
 have J:(cZ args).isSome=true->(∀id∈cI (bW n H) ys,Z id)/\True:=λX=>by
  obtain⟨xs,X⟩:=Option.isSome_iff_exists.1 X;have hf:=ha.cZ X;exact⟨λid z=>by
   obtain⟨j,u,hu,Y⟩:=ox z;have hj:j<xs.length:=by rw[hf.1];grind
   exact FR.bW r.deep n (hf.2 j _ u (ζd hj) hu) id Y,trivial⟩
 cases place with
 | none=>
  by_cases w:(result G).scalar=true
  .exact⟨n,H,λk A=>by simp[iK,jX,hk,B k A,w],r,D,.refl⟩
  .obtain⟨W,-⟩:=J (U.resolve_left w);obtain⟨q1,q2⟩:=C _ W;exact⟨n,ct H (cI (bW n H) ys),λk A=>by simp[iK,jX,hk,B k A,w,mX,O k A],q1,D,q2⟩
 | some bi=>
  obtain⟨b,i⟩:=bi;obtain⟨o1,o2⟩:=hold b i rfl;have af  := ad;have fits:∀k,bU (run S.E k) f ys (H.take b)=some (result G)->(result G).scalar=false->hD (H.take b) (cI (bW k (H.take b)) ys)=true/\cI (bW k H) ys=cI (bW k (H.take b)) ys:=λk _ ah=>by
   obtain⟨xs,X⟩:=Option.isSome_iff_exists.1 (U.resolve_left (by grind))
   have hf:=ha.cZ X;have Q:∀id,Z id->Z id/\bl (H.take b) id=bl H id:=λid h=>⟨h,mh (o2 id h)⟩
   have hd:Deep (H.take b) Z:=⟨λid es ys hz hr c hc u hu=>by
    rw[(Q id hz).2]at hr;obtain⟨x,X⟩:=r.deep.row id es ys hz hr c hc u hu;exact⟨x,X.mono Q⟩⟩
   have hZ:∀id∈cI (bW k (H.take b)) ys,Z id:=λid z=>by
    obtain⟨j,u,hu,Y⟩:=ox z;have hj:j<xs.length:=by rw[hf.1];grind
    exact FR.bW hd k ((hf.2 j _ u (ζd hj) hu).mono Q) id Y
   refine⟨?_,s7 _ λid z=>o2 id (hZ id z)⟩
   unfold hD;rw[List.all_eq_true];intro id z;have h1:=r.zrow id (hZ id z);rw[<-(Q id (hZ id z)).2]at h1;exact h1
  rcases hno with hno|hno
  .have ab:=aa b i rfl (by grind)
   by_cases w:(result G).scalar=true
   .refine⟨n,H,λk A=>?_,r,D,.refl⟩
    simp[iK,jX,hk];split
    .rename_i y hy;have:=oH hy;rw[B k A]at this;cases this;simp[w]
    .simp[ab,B k A,w]
   .obtain⟨W,-⟩:=J (U.resolve_left w);obtain⟨q1,q2⟩:=C _ W;refine⟨n,ct H (cI (bW n H) ys),λk A=>?_,q1,D,q2⟩
    simp only[iK,jX,hk,mX,Bool.false_and,Bool.false_eq_true,if_false];split
    .rename_i y hy;have h9:=oH hy;rw[B k A]at h9;cases h9;obtain⟨f1,f2⟩:=fits k hy (by simpa using w)
     rw[if_neg w,if_pos f1,<-f2,O k A]
    .simp only[ab,if_true,B k A];rw[if_neg w,O k A]
  .obtain⟨n3,ae⟩:=IU r ha hs o1 o2 hno;have L:=CV h1 h2 h3 ae
   by_cases w:(result G).scalar=true
   .refine⟨max n1 n3,H,λk A=>?_,r,D,.refl⟩
    simp[iK,jX,hk];have:=L k A;simp[this,w]
   .obtain⟨W,-⟩:=J (U.resolve_left w);obtain⟨q1,q2⟩:=C _ W;refine⟨max n (max n1 n3),ct H (cI (bW n H) ys),λk A=>?_,q1,D,q2⟩
    simp only[iK,jX,hk,mX,Bool.false_and,Bool.false_eq_true,if_false];have h9:=L k (by omega)
    obtain⟨f1,f2⟩:=fits k h9 (by simpa using w)
    simp only[h9];rw[if_neg w,if_pos f1,<-f2,O k (by omega)]
theorem DX {α:Type} {k:Nat} {v:α}:∀{ds:List Nat} {g:Tb α},a_ (oe ds g) k=some v->k∉ds
 | [],_,_=>by simp
 | d::ds,g,h=>by
  have h1:=DX (ds:=ds) h;have u:=(m_ (nC  h)).1
  grind
theorem x8:∀{args:List SV} {ds:List Nat},rowsOf args=some ds->∀(j:Nat) u,args[j]? = some u->(∃x,u=.v x)\/∃d,u=.own d/\d∈ds
 | [],_,_,j,u,hu=>by simp_all
 | .v x::r,ds,h,j,u,hu=>by
  cases j with
  | zero=>grind
  | succ j=>exact x8  (by simpa [rowsOf]using h) j u (by grind)
 | .own d::r,ds,h,j,u,hu=>by
  obtain⟨es,h1,rfl⟩:=ζf.1 h
  cases j with
  | zero=>grind
  | succ j=>
   rcases x8 h1 j u (by grind)with k|⟨w,k1,z⟩
   .grind
   grind
 | .ptr ..::_,_,h,_,_,_|.el ..::_,_,h,_,_,_|.mp _::_,_,h,_,_,_|.clo ..::_,_,h,_,_,_|.tup _::_,_,h,_,_,_|.agg _::_,_,h,_,_,_|.yl _::_,_,h,_,_,_=>by simp[rowsOf]at h
theorem uX:∀{args:List SV} {ds:List Nat} {n:Nat} {az:List V},rowsOf args=some ds->cQ m n args=some az->∀d∈ds,∃ob,a_ m d=some ob
 | [],ds,_,_,h,_,d,hd=>by simp[rowsOf]at h;grind
 | x::r,ds,n,az,h,B,d,hd=>by
  simp[cQ]at B;split at B
  rotate_left
  .cases B
  rename_i y s h1 D
  cases x with
  | v x=>exact uX  (by simpa [rowsOf]using h) D d hd
  | own e=>
   obtain⟨es,g1,rfl⟩:=ζf.1 h;rcases List.mem_cons.1 hd with rfl|hd
   .cases n <;> (simp[shut]at h1;grind)
   .exact uX g1 D d hd
  | _=>simp[rowsOf]at h
theorem AD {H0:bf} (hd:Deep H0 Z) (U:∀d ob,a_ m d=some ob->cm ob=true->(H0[(ν d).1]?).isSome=true->dN ν m H0 Z d ob) {args:List SV} {ys:List V} (T:bT ν m H0 Z args ys) {ds:List Nat} (hr:rowsOf args=some ds)
 (G:∀d∈ds,∃ob,a_ m d=some ob) {q id:Nat} (h:id∈cI (bW q H0) ys):Z id\/∃d ob,d∈ds/\a_ m d=some ob/\cm ob=true/\(ν d).1=id/\∃j es off len:Nat,ys[j]? = some (V.hsl id es off len):=by
 obtain⟨j,y,S,hk⟩:=ox h;have W:j<args.length:=by rw[T.1];grind
 have hu:=ζd W;have C:=T.2 j _ y hu S;rcases x8 hr j _ hu with⟨x,e⟩|⟨d,e,I⟩
 .rw[e]at C;cases C with|v _ _ X=>exact .inl (FR.bW hd q X id hk)
 .rw[e]at C;obtain⟨ob,B⟩:=G d I;obtain⟨k,es,D,rfl,rfl⟩:=C.jw B
  by_cases w:cC k=true
  .cases q with
   | zero=>simp[bW]at hk
   | succ q=>
   have J:qX (ν d) k es D.length=.hsl (ν d).1 es (ν d).2 D.length:=by cases k <;> first|rfl|cases w
   rw[J]at hk;have Y:cm (.sl k es D)=true:=w
   by_cases z:(H0[(ν d).1]?).isSome=true
   .have o:=U d _ B Y z;simp[dN,w]at o;obtain⟨zs,h1,_,_,h4,_⟩:=o;simp only[bW,V.closed,Bool.false_eq_true,if_false,h1,List.mem_cons]at hk;rcases hk with rfl|hk
    .grind
    .obtain⟨i,u,hu,L⟩:=ox hk;obtain⟨c,hc,O⟩:=List.mem_flatten.1 (List.mem_of_getElem? hu);obtain⟨x,hx⟩:=h4 c (List.mem_of_mem_drop (List.mem_of_mem_take hc)) u O;exact .inl (FR.bW hd q hx id L)
   .have A:H0[(ν d).1]? = none:=by grind
    simp[bW,V.closed,A]at hk
    grind
  .have Q:(qX (ν d) k es D.length).closed=true:=by cases k <;> first|rfl|(exact absurd rfl w)
   rw[Gc q H0 Q]at hk;cases hk
theorem QX (hS:iy S c) {ops:List Oper} {place:Option (Nat×Nat)} {nw:Bool} (U:∀b i,place=some (b,i)->nw=true->dB ops i=true)
 (hold:∀b i,place=some (b,i)->∀id,Z id->id<b)
 (r:R ν Z st F H) {args:List SV} {ys:List V} (ha:bT ν st.m H Z args ys) {f:FuncId} (hk:S.E.keep f=false) {az:List V} (hs:cQ st.m 8 args=some az) (ab:(!place.isSome||nw)=true)
 {rs:List SV} {m':c7} {J:List V} (hc:c f (az.map .v) []=some (rs,m')) (W:cQ m' 8 rs=some J) (T:(result J).scalar=false) {ds:List Nat} (hr:rowsOf args=some ds) (Y:∀d∈ds,∃ob,a_ st.m d=some ob) :
 ∃n H',(∀k,n<=k->iK S.E (run S.E k) ops place f ys H=some (result J,H'))/\R ν Z { st with m:=oe ds st.m } F H'/\cS ν (oe ds st.m) H' Z (.v (result J)) (result J)/\Ev Rv ν Z st H ν Z { st with m:=oe ds st.m } H':=by
 have hg:=yC r.obj hs ha;obtain⟨n1,rr,H2,h1,h2,h3⟩:=AW hS hg hc W;obtain⟨n2,hb⟩:=v7 r ha hs;have B:=CV h1 h2 h3 hb;generalize hn:max n1 n2=n at B;have C:=B;have I:∀k,n<=k->cI (bW k H) ys=cI (bW n H) ys:=λk hk=>xU hk (hb n (by omega))
 have Q:∀{H'},cS ν (oe ds st.m) H' Z (.v (result J)) (result J):=.v _ _ (.same _ h3);have A:∀d ob,a_ (oe ds st.m) d=some ob->a_ st.m d=some ob:=λd ob h=>nC h
 have hT:∀id∈cI (bW n H) ys,Z id\/∃d ob,d∈ds/\a_ st.m d=some ob/\cm ob=true/\(ν d).1=id/\∃j es off len:Nat,ys[j]? = some (V.hsl id es off len):=λid w=>AD r.deep (λd ob h _ _=>r.obj d ob h) ha hr Y w
 have r2  := r.less (λ_ _ h=>h) A
 have q1  := r2.heap (λid X=>s8 λw=>by
  obtain⟨d,ob,g1,g2,rfl⟩:=X;rcases hT _ w with h|⟨d',L,k1,k2,k3,k4,_⟩
  .exact r.apart d ob (A d ob g1) g2 h
  .have:=r.inj d' d L ob k2 (A d ob g1) k3 g2 k4;subst this;exact DX g1 k1) (λid w=>ql r.zrow w)
 have q2:Ev Rv ν Z st H ν Z { st with m:=oe ds st.m } (ct H (cI (bW n H) ys)):=(Ev.heap (by rw[jr];grind) (λid _ X W _=>s8 λw=>by
  rcases hT _ w with h|⟨d',L,k1,k2,k3,k4,_⟩
  .simp_all
  .exact X ⟨d',L,k2,k3,k4⟩) (λid w=>ql r.zrow w)).trans (Ev.less  A)
 cases place with
 | none=>exact⟨n,ct H (cI (bW n H) ys),λk z=>by simp[iK,jX,hk,C k z,T,mX,I k z],q1,Q,q2⟩
 | some bi=>
  obtain⟨b,i⟩:=bi;have o2:=hold b i rfl;have fits:∀k,bU (run S.E k) f ys (H.take b)=some (result J)->hD (H.take b) (cI (bW k (H.take b)) ys)=true/\cI (bW k H) ys=cI (bW k (H.take b)) ys:=λk hi=>by
   have D:∀id,Z id->Z id/\bl (H.take b) id=bl H id:=λid h=>⟨h,mh (o2 id h)⟩
   have hd:Deep (H.take b) Z:=⟨λid es ys W hr c hc u hu=>by
    rw[(D id W).2]at hr;obtain⟨x,hx⟩:=r.deep.row id es ys W hr c hc u hu;exact⟨x,hx.mono D⟩⟩
   have ad  := ha.mono D λe _=>hU ν st.m e
   have ae:∀d ob,a_ st.m d=some ob->cm ob=true->((H.take b)[(ν d).1]?).isSome=true->dN ν st.m (H.take b) Z d ob:=λd ob h hb af=>
    dN.mono D rfl (λ_=>by
     grind) (λe _=>hU ν st.m e) (r.obj d ob h)
   have aa:∀(j:Nat) (y:V),ys[j]? = some y->(borrow k (H.take b) y).isSome=true:=λj y O=>by
    unfold bU at hi;rw[mX]at hi;split at hi
    .rename_i ah ai;obtain⟨_,hm⟩:=iq ai;have hj:=(ζe.1 O).1;obtain⟨x,ak,al⟩:=hm j _ (ζd (show j<ah.length by omega))
     grind
    .cases hi
   have hZ:∀id∈cI (bW k (H.take b)) ys,id<b/\(bl (H.take b) id).isSome=true:=λid w=>by
    rcases AD hd ae ad hr Y w with h|⟨d,ob,k1,k2,k3,k4,j,es,off,len,O⟩
    .have:=r.zrow id h
     grind
    .have G:=aa j _ O
     cases k with
     | zero=>simp[borrow,V.closed]at G
     | succ k=>
     simp only[borrow,V.closed,Bool.false_eq_true,if_false]at G;split at G
     .rename_i am xs hx;obtain⟨o,X,_⟩:=ζg.1 hx;have:=(ζe.1 X).1;rw[List.length_take]at this;exact⟨by omega,by unfold bl;rw[hx];rfl⟩
     .cases G
   refine⟨?_,s7 _ λid w=>(hZ id w).1⟩
   unfold hD;rw[List.all_eq_true];exact λid w=>(hZ id w).2
  refine⟨n,ct H (cI (bW n H) ys),λk z=>?_,q1,Q,q2⟩
  simp only[iK,jX,hk,mX,Bool.false_and,Bool.false_eq_true,if_false];split
  .rename_i y O;have h9:=oH O;rw[C k z]at h9;cases h9;obtain⟨f1,f2⟩:=fits k O;rw[if_neg (by rw[T];simp),if_pos f1,<-f2,I k z]
  .have aj:=U b i rfl (by simpa using ab)
   simp only[aj,if_true,C k z];rw[if_neg (by rw[T];simp),I k z]
theorem Hj {xs ys:List (List V)} (h:fH H Z xs ys) (B:kE xs=true):ys=xs:=by
 refine(List.ext_getElem h.1 λj h1 z=>?_).symm
 have:=h.2 j _ _ (ζd h1) (ζd z);have w  := by
  unfold kE at B;rw[List.all_eq_true]at B;have:=B _ (List.getElem_mem h1);rw[List.all_eq_true]at this;exact pS.2 λk u hu=>this u (List.mem_of_getElem? hu)
 exact(this.scalar.1 w).symm
theorem BN:∀{B:List Nat} {os:Tb bu} {g:Tb bu},je g B=some os->∀k ob,a_ os k=some ob->a_ g k=some ob
 | [],os,g,h,k,ob,hk=>by simp[je]at h;subst h;simp[a_]at hk
 | n::r,os,g,h,k,ob,hk=>by
  simp only[je]at h;split at h
  .rename_i v t h1 D;cases h;simp only[a_]at hk;split at hk
   .rename_i e;subst e;cases hk;exact h1
   .exact BN D k ob hk
  .cases h
theorem HB {args:List SV} {os:c7} (h:handed m args=some os):∀k ob,a_ os k=some ob->a_ m k=some ob:=BN h
mutual
theorem Ni {d:Nat}:∀{x:SV},x.cM d=true->d∈x.AF
 | .v _,h=>by simp[SV.cM]at h
 | .own e,h|.ptr e _,h|.el e _ _,h|.mp e,h=>by simp[SV.cM]at h;simp[SV.AF,h]
 | .clo _ a b,h=>by
  simp only[SV.cM,Bool.or_eq_true]at h;simp only[SV.AF,List.mem_append];rcases h with h|h
  .exact .inl (tD h)
  .exact .inr (tD h)
 | .tup l,h|.agg l,h=>by simp only[SV.cM]at h;simp only[SV.AF];exact tD h
 | .yl _,h=>by simp[SV.cM]at h
theorem tD {d:Nat}:∀{l:List SV},SV.di d l=true->d∈SV.qm l
 | [],h=>by simp[SV.di]at h
 | x::r,h=>by
  simp only[SV.di,Bool.or_eq_true]at h;simp only[SV.qm,List.mem_append];rcases h with h|h
  .exact .inl (Ni h)
  .exact .inr (tD h)
end
theorem AE {D:List Nat} {ob:bu} (h:within D ob=true) {e:Nat} (B:ob.cM e=true):e∈D:=by
 cases ob with
 | box cs=>
  unfold within at h;rw[List.all_eq_true]at h;simpa using h e (tD B)
 | sl k es w=>simp[bu.cM]at B
 | mp u=>simp[bu.cM]at B
theorem BM {D:List Nat}:∀{l:List Nat} {a b:Tb bu},xN D m' l a=some b->(∀k∈l,a_ b k=a_ m' k/\∃ob,a_ m' k=some ob/\within D ob=true)/\∀k,k∉l->a_ b k=a_ a k
 | [],a,b,h=>by simp[xN]at h;grind
 | d::r,a,b,h=>by
  simp[xN]at h;split at h
  .rename_i ob B;split at h
   .rename_i hp;obtain⟨h1,G⟩:=BM h;refine⟨λk hk=>?_,λk hk=>?_⟩
    .by_cases hr:k∈r
     .grind
     .have e:k=d:=by grind
      subst e;exact⟨by rw[G k hr,cr,B],ob,B,hp⟩
    .simp  at hk;rw[G k hk.2,dF _ _ (Ne.symm hk.1)]
   grind
  grind
theorem Em {l:List Nat} {a b:Tb bu} (h:jM m' l a=some b):(∀k∈l,a_ b k=a_ m' k/\∃ob,a_ m' k=some ob/\within l ob=true)/\∀k,k∉l->a_ b k=a_ a k:=BM h
theorem mem_keys:∀{os:c7} {k:Nat},k∈os.map (·.1)↔∃ob,a_ os k=some ob
 | [],k=>by simp[a_]
 | (d,o)::os,k=>by
  simp[a_]
  by_cases e:d=k
  .simp_all
  .rw[if_neg e,<-mem_keys]
   grind
theorem sq:∀{l:List SV} {j:Nat} {u:SV},SV.vM l=true->l[j]? = some u->u.bare=true
 | [],j,u,h,B=>by simp at B
 | x::r,j,u,h,B=>by
  simp only[SV.vM,ζh]at h
  cases j with
  | zero=>simp at B;subst B;exact h.1
  | succ j=>exact sq h.2 (by simpa using B)
theorem cS.bare {Z2:Nat->Prop} {sv:SV} {y:V} (r:cS ν m H Z sv y):sv.bare=true->cS ν m H Z2 sv y:=by
 induction r with
 | v x y h=>
  intro z;have z:x.scalar=true:=z;rw[(h.scalar.1 z)];exact .v _ _ (.same _ (jR z))
 | own d y h=>intro _;exact .own d y h
 | ptr d o y h=>intro _;exact .ptr d o y h
 | el d i o y h=>intro _;exact .el d i o y h
 | mp d y h=>intro _;exact .mp d y h
 | clo f a b A D B z hva G w C=>
  intro h;simp only[SV.bare,ζh]at h;exact .clo f a b A D B z (λj u v hu hv=>w j u v hu hv (sq h.1 hu)) λj u v hu hv=>C j u v hu hv (sq h.2 hu)
 | tup a A B hva w=>intro h;exact .tup a A B λj u v hu hv=>w j u v hu hv (sq h hu)
 | agg a A B hva w=>intro h;exact .agg a A B λj u v hu hv=>w j u v hu hv (sq h hu)
 | yl id=>intro _;exact .yl id
theorem dN.bare {Z2:Nat->Prop} {d:Nat} {ob:bu} (h:ob.bare=true) (o:dN ν m H Z d ob):dN ν m H Z2 d ob:=by
 cases ob with
 | box cs=>
  obtain⟨es,w,h1,z,A⟩:=o;exact⟨es,w,h1,⟨z.1,λj u v hu hv=>(z.2 j u v hu hv).bare (sq h hu)⟩,A⟩
 | sl k es C=>cases h
 | mp B=>cases h
theorem zp (hS:iy S c) {f:FuncId} (ae:S.E.keep f=true) (r:R ν Z st F H) {args:List SV} {ys:List V} (ha:bT ν st.m H Z args ys) {os:c7} (hh:handed st.m args=some os)
 {rs:List SV} {m':c7} {G:Tb bu} (hc:c f args os=some (rs,m')) (hb:jM m' (os.map (·.1)) st.m=some G) :
 ∃n H' T Z' D F1 ws,(∀k,n<=k->run S.E k (.fn f) ys H=some (result ws,H'))/\D.m=m'/\bT T m' H' Z' rs ws/\R T Z' D F1 H'/\(∀e ob,a_ m' e=some ob->e∉os.map (·.1)->cm ob=true->H.length<=(T e).1) /\
  R ν Z' { st with m:=G } F H'/\Ev Rv ν Z st H ν Z' { st with m:=G } H'/\(∀e ob',a_ G e=some ob'->∃ob,a_ st.m e=some ob/\ν e=ν e/\sameShape ob ob') /\
  ((∀k∈os.map (·.1),wI G k=true)->R ν Z { st with m:=G } F H'/\Ev Rv ν Z st H ν Z { st with m:=G } H'):=by
 have u:=HB hh;have ab  := ha.mono (λid h=>⟨h,rfl⟩) λe _ ob' h=>⟨ob',u e ob' h,rfl,.refl _⟩
 have r0:R ν Z (start args os) ys H:=by
  refine⟨vU ab,λd ob hd=>?_,λd d' ob ob' h1 A=>r.inj d d' ob ob' (u d ob h1) (u d' ob' A),λd ob h=>r.apart d ob (u d ob h),r.zrow,r.deep⟩
  exact dN.mono (λid h=>⟨h,rfl⟩) rfl (λ_=>rfl) (λe _ ob' h=>⟨ob',u e ob' h,rfl,.refl _⟩) (r.obj d ob (u d ob hd))
 obtain⟨n,y,H',T,Z',D,F1,ws,e1,rfl,rfl,e2,e3,ev⟩:=hS f args os rs m' hc ν Z ys H (.inl ae) r0 ab;obtain⟨b1,b2⟩:=Em hb;have I:∀k ob',k∈os.map (·.1)->a_ D.m k=some ob'->∃ob,a_ os k=some ob/\T k=ν k/\sameShape ob ob':=λk ob' hk h=>ev.pin k hk ob' h
 have J:∀id,eT ν os id->eT ν st.m id:=λid ⟨k,o,h1,A,B⟩=>⟨k,o,u k o h1,A,B⟩
 have bk:∀ob ob':bu,sameShape ob ob'->cm ob'=cm ob:=λob ob' h=>by
  cases ob <;> cases ob' <;> simp[sameShape]at h
  .simp[cm,h.1]
  .rfl
  .rfl
 have C:∀k ob',a_ G k=some ob'->∃ob,a_ st.m k=some ob/\sameShape ob ob'/\(k∈os.map (·.1)/\a_ D.m k=some ob'/\T k=ν k/\a_ os k=some ob/\within (os.map (·.1)) ob'=true\/k∉os.map (·.1)/\ob'=ob):=λk ob' h=>by
  by_cases hk:k∈os.map (·.1)
  .grind
  .rw[b2 k hk]at h;exact⟨ob',h,.refl _,.inr ⟨hk,rfl⟩⟩
 have z:∀k ob,k∉os.map (·.1)->a_ st.m k=some ob->cm ob=true->H'[(ν k).1]? = H[(ν k).1]? /\ ¬Z' (ν k).1:=λk ob hk h w=>by
  have ad:¬eT ν os (ν k).1:=by
   rintro⟨k2,o2,g1,g2,g3⟩;have:=r.inj k2 k o2 ob (u k2 o2 g1) h g2 w g3;subst this;exact hk (mem_keys.2 ⟨o2,g1⟩)
  have af:=r.lt ⟨k,ob,h,w,rfl⟩;have ah:=r.apart k ob h w;refine⟨ev.same _ af ad ah (λh=>h),λai=>?_⟩
  rcases ev.frz _ ai with h|h|h|h
  .simp_all
  .exact ad h
  .omega
  omega
 have sm:∀e ob',a_ G e=some ob'->∃ob,a_ st.m e=some ob/\ν e=ν e/\sameShape ob ob':=λe ob' h=>by
  obtain⟨ob,h1,A,_⟩:=C e ob' h;exact⟨ob,h1,rfl,A⟩
 have fresh:∀e ob,a_ D.m e=some ob->e∉os.map (·.1)->cm ob=true->H.length<=(T e).1:=λe ob he aj w=>by
  rcases ev.own _ ⟨e,ob,he,w,rfl⟩with⟨k,o,h1,A,B⟩|h|h
  .have hk:k∈os.map (·.1):=mem_keys.2 ⟨o,h1⟩;obtain⟨_,ob',h4,_⟩:=b1 k hk;obtain⟨o2,Q,X,Y⟩:=I k ob' hk h4;have Q:a_ os k=some o2:=Q;have h1:a_ os k=some o:=h1;rw[h1]at Q;cases Q;have:=e3.inj e k ob ob' he h4 w (by rw[bk _ _ Y];exact A) (by rw[X];exact B.symm)
   exact absurd (this▸hk) aj
  .exact h.elim
  .exact h
 have U:∀d1 d2 o1 o2,a_ G d1=some o1->a_ G d2=some o2->cm o1=true->cm o2=true->(ν d1).1=(ν d2).1->d1=d2:=λd1 d2 o1 o2 h1 A k1 k2 hp=>by
  obtain⟨p1,g1,s1,_⟩:=C d1 o1 h1;obtain⟨p2,g2,s2,_⟩:=C d2 o2 A;exact r.inj d1 d2 p1 p2 g1 g2 (by rw[<-bk _ _ s1];omega) (by rw[<-bk _ _ s2];omega) hp
 have L:∀id,id<H.length->¬eT ν st.m id->¬Z id->¬Rv id->H'[id]? = H[id]? := λid hl ho hz _=>ev.same id hl (λh=>ho (J id h)) hz (λh=>h)
 have W:∀id,eT ν G id->eT ν st.m id\/Rv id\/H.length<=id:=by
  rintro id ⟨k,o,h1,A,B⟩;obtain⟨ob,g1,s1,_⟩:=C k o h1;exact .inl ⟨k,ob,g1,by rw[<-bk _ _ s1];omega,B⟩
 have aa:∀id,Z id->Z id/\bl H' id=bl H id:=λid h=>⟨h,(ev.rows id h).2⟩
 refine⟨n,H',T,Z',D,F1,ws,λk hk=>(nI S.E hk).go _ _ _ _ e1,rfl,e2,e3,fresh,⟨λs sv hs=>(r.slot s sv hs).mono ev.rows λe _=>sm e,λk ob' h=>?_,U,λd1 o1 h1 k1=>?_,e3.zrow,e3.deep⟩,⟨ev.len,L,ev.rows,W,?_,λe _=>sm e,rfl⟩,sm,
  λak=>⟨⟨λs sv hs=>(r.slot s sv hs).mono aa λe _=>sm e,λk ob' h=>?_,U,λd1 o1 h1 k1=>?_,λid h=>by rw[(ev.rows id h).2];exact r.zrow id h,r.deep.mono λid h=>(ev.rows id h).2⟩,⟨ev.len,L,aa,W,λid h=>.inl h,λe _=>sm e,rfl⟩⟩⟩
 .obtain⟨ob,h1,A,B|⟨B,rfl⟩⟩:=C k ob' h
  .obtain⟨Q,X,Y,q4,q5⟩:=B;refine dN.mono (λid h=>⟨h,rfl⟩) Y.symm (λ_=>rfl) (λe he O A=>?_) (e3.obj k ob' X)
   have hm:=AE q5 he;obtain⟨u1,al,u2,_⟩:=b1 e hm;rw[u1,u2]at A;cases A;obtain⟨_,_,u4,_⟩:=I e O hm u2;exact⟨O,u2,u4.symm,.refl _⟩
  .exact dN.mono ev.rows rfl (λw=>(z k ob' B h1 w).1) (λe _=>sm e) (r.obj k ob' h1)
 .obtain⟨ob,g1,s1,B|⟨B,rfl⟩⟩:=C d1 o1 h1
  .obtain⟨Q,X,Y,q4,q5⟩:=B;rw[<-Y];exact e3.apart d1 o1 X k1
  .exact(z d1 o1 B g1 k1).2
 .intro id h;rcases ev.frz id h with h|h|h|h
  .exact .inl h
  .exact .inr (.inl (J id h))
  .exact h.elim
  omega
 .obtain⟨ob,h1,A,B|⟨B,rfl⟩⟩:=C k ob' h
  .obtain⟨Q,X,Y,q4,q5⟩:=B;have hb:=ak k Q;unfold wI at hb;rw[h]at hb;refine dN.bare (Z:=Z') hb (dN.mono (λid h=>⟨h,rfl⟩) Y.symm (λ_=>rfl) (λe he O A=>?_) (e3.obj k ob' X))
   have hm:=AE q5 he;obtain⟨u1,al,u2,_⟩:=b1 e hm;rw[u1,u2]at A;cases A;obtain⟨_,_,u4,_⟩:=I e O hm u2;exact⟨O,u2,u4.symm,.refl _⟩
  .exact dN.mono aa rfl (λw=>(z k ob' B h1 w).1) (λe _=>sm e) (r.obj k ob' h1)
 .obtain⟨ob,g1,s1,_⟩:=C d1 o1 h1;exact r.apart d1 ob g1 (by rw[<-bk _ _ s1];exact k1)
theorem RR (hS:iy S c) {f:FuncId} (G:S.E.keep f=true) (r:R ν Z st F H) {args:List SV} {ys:List V} (J:bT ν st.m H Z args ys) {os:c7} (T:handed st.m args=some os)
 {rs:List SV} {m':c7} {D:List V} {B:Tb bu} (hc:c f args os=some (rs,m')) (U:cZ rs=some D) (W:jM m' (os.map (·.1)) st.m=some B) :
 ∃n y H' Z',(∀k,n<=k->run S.E k (.fn f) ys H=some (y,H'))/\R ν Z' { st with m:=B } F H'/\cS ν B H' Z' (.v (result D)) y/\Ev Rv ν Z st H ν Z' { st with m:=B } H'/\∀e ob',a_ B e=some ob'->∃ob,a_ st.m e=some ob/\ν e=ν e/\sameShape ob ob':=by
 obtain⟨n,H',L,Z',A,F1,w,e1,_,e2,_,_,g1,g2,g3,_⟩:=zp (Rv:=Rv) hS G r J T hc W;refine⟨n,result w,H',Z',e1,g1,?_,g2,g3⟩;have u:=e2.cZ U;have:FR H' Z' (result D) (result w):=by
  cases D with
  | nil=>rw[u.cO];exact .same _ rfl
  | cons x z=>
   obtain⟨y,C,rfl,g1,g2⟩:=u.inv
   cases z with
   | nil=>rw[g2.cO];exact g1
   | cons x2 z=>
    obtain⟨O,I,rfl,g3,g4⟩:=g2.inv;exact .tup _ _ u.1 u.2
 exact .v _ _ this
theorem wN {ys:List V} (h:V.cG ys=true):(result ys).scalar=true:=by
 cases ys with
 | nil=>rfl
 | cons a l=>
  cases l with
  | nil=>simp only[V.cG,ζh]at h;exact h.1
  | cons b l=>simp[result,V.scalar];omega
theorem Rs (hS:iy S c) {f:FuncId} (G:S.E.keep f=true) (r:R ν Z st F H) {args:List SV} {ys:List V} (U:bT ν st.m H Z args ys) {os:c7} (W:handed st.m args=some os)
 {rs:List SV} {m':c7} {D:List V} {B:Tb bu} (hc:c f args os=some (rs,m')) (Y:cZ rs=some D) (hb:jM m' (os.map (·.1)) st.m=some B) (T:V.cG D=true) (J:∀k∈os.map (·.1),wI B k=true) :
 ∃n H',(∀k,n<=k->run S.E k (.fn f) ys H=some (result D,H'))/\R ν Z { st with m:=B } F H'/\cS ν B H' Z (.v (result D)) (result D)/\Ev Rv ν Z st H ν Z { st with m:=B } H'/\∀e ob',a_ B e=some ob'->∃ob,a_ st.m e=some ob/\ν e=ν e/\sameShape ob ob':=by
 obtain⟨n,H',z,Z',u,F1,A,e1,_,e2,_,_,_,_,g3,g4⟩:=zp (Rv:=Rv) hS G r U W hc hb;obtain⟨g1,g2⟩:=g4 J;have w:=(e2.cZ Y).scalar.1 T;subst w;exact⟨n,H',e1,g1,.v _ _ (.same _ (jR (wN T))),g2,g3⟩
theorem QI (hS:iy S c) {f:FuncId} (U:S.E.keep f=true) (r:R ν Z st F H) {args:List SV} {ys:List V} (ha:bT ν st.m H Z args ys) {os:c7} (hh:handed st.m args=some os)
 {rest:List SV} {m':c7} {T:List V} {B:Tb bu} {e t es:Nat} {k:Fl} {xs:List (List V)} (hc:c f args os=some (.own e::rest,m')) (hz:cZ rest=some T) (hb:jM m' (os.map (·.1)) st.m=some B)
 (G:a_ m' e=some (.sl k es xs)) (J:e∉os.map (·.1)) (D:St.new { st with m:=B } t=true) :
 ∃n y H' ν' Z',(∀k,n<=k->run S.E k (.fn f) ys H=some (y,H'))/\R ν' Z' { st with m:=bH B t (.sl k es xs) } F H'/\cS ν' (bH B t (.sl k es xs)) H' Z' (zO (.own t::T.map .v)) y/\Ev Rv ν Z st H ν' Z' { st with m:=bH B t (.sl k es xs) } H'/\Kept (some t) ν st.m ν' (bH B t (.sl k es xs)):=by
 obtain⟨n,H',C,Z',aa,F1,ws,e1,rfl,e2,e3,fresh,g1,g2,g3,_⟩:=zp (Rv:=Rv) hS U r ha hh hc hb;obtain⟨w,L,rfl,q1,q2⟩:=e2.inv;have o:=e3.obj e _ G;have O:cm (.sl k es xs)=true->¬eT ν B (C e).1:=λA=>by
  rintro⟨Q,o2,h1,h2,h3⟩;obtain⟨o3,h4,_,Y⟩:=g3 Q o2 h1;have W:cm o3=true:=by
   cases o3 <;> cases o2 <;> simp[sameShape]at Y
   .rw[<-h2];simp[cm,Y.1]
   .rfl
   .rfl
  have ab:=r.lt ⟨Q,o3,h4,W,rfl⟩;have:=fresh e _ G J A;omega
 have hR:=g1.add D (ob:=.sl k es xs) (p:=C e) (λA=>⟨O A,e3.apart e _ G A⟩) (by
  simp only[dN,gp];exact o)
 have hsl:cS (gZ ν t (C e)) (bH B t (.sl k es xs)) H' Z' (.own t) w:=by
  refine .own _ _ λu h'=>?_
  rw[cr]at h';cases h';obtain⟨_,_,_,ee,rfl⟩:=q1.jw G;cases ee;exact⟨_,_,_,rfl,by rw[gp]⟩
 obtain⟨n1,n2,n3,n4⟩:=k8 D;refine⟨n,result (w::L),H',gZ ν t (C e),Z',e1,hR,?_,⟨g2.len,g2.same,g2.rows,?_,g2.frz,?_,g2.pins⟩,?_⟩
 .have I:=q2.cZ hz
  cases T with
  | nil=>rw[I.cO];exact hsl
  | cons x T=>
   obtain⟨y,ad,rfl,_,_⟩:=I.inv;exact .tup _ _ (by have:=I.1;simp at this ⊢;omega) (bT.cons hsl (bT.p8 I)).2
 .intro id h;rcases Cx h with h|⟨h1,rfl⟩
  .exact g2.own id h
  .exact .inr (.inr (fresh e _ G J h1))
 .intro d hd u h;have z:d≠t:=λe=>n1 (e▸hd)
  have h:a_ (bH B t (.sl k es xs)) d=some u:=h;rw[dF _ _ (Ne.symm z)]at h;obtain⟨ob,k1,Q,X⟩:=g2.pin d hd u h;exact⟨ob,k1,by rw[nN _ _ z],X⟩
 .intro d u hd h;have z:d≠t:=λe=>hd (by rw[e])
  rw[dF _ _ (Ne.symm z)]at h;obtain⟨ob,k1,_,X⟩:=g3 d u h;exact⟨ob,k1,nN _ _ z,X⟩
theorem Oq (hS:iy S c) {f:FuncId} {az:List V} {rs:List SV} {m':c7} (hg:V.cD az=true) (h:c f (az.map .v) []=some (rs,m')) :
 ∃n H2 ν' Z' st' F' ys,(∀k,n<=k->run S.E k (.fn f) az []=some (result ys,H2))/\st'.m=m'/\bT ν' m' H2 Z' rs ys/\R ν' Z' st' F' H2:=by
 obtain⟨u,r1⟩:=zK hg;obtain⟨n,y,H2,ν',Z',st',F',w,h1,rfl,z,A,B,_⟩:=hS f _ _ _ _ h _ _ az [] (.inr rfl) u r1;exact⟨n,H2,ν',Z',st',F',w,λk hk=>(nI S.E hk).go _ _ _ _ h1,z,A,B⟩
theorem BY {ys:List V} (h:V.cG ys=true):V.cG (.bE::ys)=true/\V.cG (.dm::ys)=true:=by
 simp[V.cG,V.scalar];grind
theorem bT.Tt {ys:List V} (h:V.cD ys=true):bT ν m H Z (ys.map .v) ys:=bT.p8 (cW.same h)
theorem No (hS:iy S c) (hP:∀f q,S.prm f=some q->mb S.E f q) {ops:List Oper} {place:Option (Nat×Nat)} {dr nw:Bool} {fr:List Nat} (ab:dr=place.isSome) (W:∀b i,place=some (b,i)->nw=true->dB ops i=true)
 (hold:∀b i,place=some (b,i)->(∀d ob,a_ st.m d=some ob->cm ob=true->d∉fr->(ν d).1<b)/\∀id,Z id->id<b)
 (r:R ν Z st F H) {args:List SV} {ys:List V} (ha:bT ν st.m H Z args ys) {f:FuncId} {dst:Option Nat} {sv:SV} (h:eB S c dst dr (!dr||nw) (eN st.m fr) f args st=some (sv,st')) :
 ∃n y H' ν' Z',(∀k,n<=k->iK S.E (run S.E k) ops place f ys H=some (y,H'))/\R ν' Z' st' F H'/\cS ν' st'.m H' Z' sv y/\Ev Rv ν Z st H ν' Z' st' H'/\(dr=true->Z'=Z)/\Kept dst ν st.m ν' st'.m:=by
 unfold eB at h;split at h
 .rename_i hk;split at h
  .have B:∀{q:dh} {y:V} {H':bf},fc S.E q f ys H=some (y,H')->iK S.E q ops place f ys H=some (y,H'):=λ{q y H'} hd=>by
    unfold iK
    cases place with
    | none=>rw[if_pos (by simp[jX,hk])];omega
    | some bi=>
     obtain⟨b,i⟩:=bi;have aH  := ab;have ax:=W b i rfl (by grind)
     rw[if_pos (by simp[jX,hk,ax])]
     grind
   split at h
   .
    rename_i I;split at h
    .rename_i az hs
     .have hg:=yC r.obj hs ha;obtain⟨nb,X⟩:=v7 r ha hs;split at h
      .rename_i rs m' hc;obtain⟨na,H2,ν2,Z2,st2,F2,Y,ay,rfl,e3,e4⟩:=Oq hS hg hc;obtain⟨n,aA,aB⟩:∃n,na<=n/\nb<=n:=⟨max na nb,Nat.le_max_left ..,Nat.le_max_right ..⟩;have e1:=λk (hk:n<=k)=>ay k (Nat.le_trans aA hk)
       have L:∀k,n<=k->∀{o:Option (V×bf)},(if(result Y).scalar then some (result Y,H)else
        match result Y with
        | .hsl id es off len=>(rL H.length H2 id es off len).map λ(v,ob)=>(v,H++[ob])
        | .tup (.hsl id es off len::rest)=>if V.cG rest then(rL H.length H2 id es off len).map λ(v,ob)=>(.tup (v::rest),H++[ob])else none
        | _=>none)=o->fc S.E (run S.E k) f ys H=o:=λk C o ho=>by
        unfold fc kU;rw[if_pos I];simp[mX,X k (Nat.le_trans aB C),e1 k C];exact ho
       have ah:∀D:List V,(result D).scalar=true->result Y=result D->sv=.v (result D)->st'=st->∃n y H' ν' Z',(∀k,n<=k->iK S.E (run S.E k) ops place f ys H=some (y,H'))/\R ν' Z' st' F H'/\cS ν' st'.m H' Z' sv y/\Ev Rv ν Z st H ν' Z' st' H'/\(dr=true->Z'=Z)/\Kept dst ν st.m ν' st'.m:=by
        rintro D h1 h2 rfl rfl;exact⟨n,result D,H,ν,Z,λk C=>B (L k C (by rw[h2,if_pos h1])),r,.v _ _ (.same _ (jR h1)),.refl,λ_=>rfl,.refl⟩
       have emp:∀(k:Fl) (es:Nat) (D:List V) (rest:List SV),V.cG D=true->∀t,st.new t=true->∀w:V,(k=.nil/\w=.bE\/k=.emp/\w=.dm)->result (w::D)=result Y->dst=some t->sv=zO (.own t::D.map .v)->st'={ st with m:=bH st.m t (.sl k es []) } ->
        ∃n y H' ν' Z',(∀k,n<=k->iK S.E (run S.E k) ops place f ys H=some (y,H'))/\R ν' Z' st' F H'/\cS ν' st'.m H' Z' sv y/\Ev Rv ν Z st H ν' Z' st' H'/\(dr=true->Z'=Z)/\Kept dst ν st.m ν' st'.m:=by
        rintro k es D rest T t O w hw ai rfl rfl rfl;have ad:cC k=false:=by rcases hw with⟨rfl,_⟩|⟨rfl,_⟩ <;> rfl
        have hsl:cS (gZ ν t (0,0)) (bH st.m t (.sl k es [])) H Z (.own t) w:=by
         refine .own _ _ λQ h'=>?_
         rw[cr]at h';cases h';exact⟨_,_,_,rfl,by rcases hw with⟨rfl,rfl⟩|⟨rfl,rfl⟩ <;> rfl⟩
        have aj:(result (w::D)).scalar=true:=wN (by rcases hw with⟨_,rfl⟩|⟨_,rfl⟩;exact(BY T).1;exact(BY T).2)
        refine⟨n,result (w::D),H,gZ ν t (0,0),Z,λk C=>B (L k C (by rw[<-ai,if_pos aj])),r.add O (λX=>by simp[cm,ad]at X) (by simp[dN,ad]),?_,
         Ev.add O (Nat.le_refl _) (λ_ _ _=>rfl) (λ_ _=>rfl) (λX=>by simp[cm,ad]at X),λ_=>rfl,Kept.add λ_ _ h=>h⟩
        cases D with
        | nil=>exact hsl
        | cons z D=>exact .tup _ _ (by simp) (bT.cons hsl (bT.Tt (oP T))).2
       split at h
       .rename_i D J;split at h
        .rename_i T;simp  at h;exact ah D T ((Ej (e3.cZ J)).1 T) h.1.symm h.2.symm
        .simp at h
       .split at h
        .rename_i e rest t _;obtain⟨w,Y,rfl,g1,g2⟩:=e3.inv;split at h
         .
          rename_i es xs D U J;split at h
          .rename_i A;simp  at A;obtain⟨⟨c1,c2⟩,O⟩:=A;simp  at h;obtain⟨rfl,rfl⟩:=h;have o:=e4.obj e _ U;simp only[dN,if_true]at o;obtain⟨rows,hr,aI,hf,aG,ak⟩:=o;obtain⟨q1,q2⟩:=ak trivial;have ae  := by
            have:=Hj hf c2;rw[q1,List.drop_zero,<-q2,List.take_length]at this;exact this
           subst ae;obtain⟨_,_,_,ee,rfl⟩:=g1.jw U;cases ee;have G  := (g2.cZ J).scalar.1 c1;subst G;have al:rL H.length H2 (ν2 e).1 es 0 rows.length=some (.hsl H.length es 0 rows.length,.row es rows):=by
            unfold rL;rw[hr];simp only[true_and];rw[if_pos];rw[List.all_eq_true];intro x hx;unfold kE at c2;rw[List.all_eq_true]at c2;exact c2 x hx
           have hH:∀id,id<H.length->(H++[Ob.row es rows])[id]? = H[id]? := λid hl=>List.getElem?_append_left hl
           have am:∀id,Z id->bl (H++[Ob.row es rows]) id=bl H id:=λid J=>by unfold bl;rw[hH id (r.uT J)]
           have r2  := r.heap (λid ho=>hH id (r.lt ho)) am
           have an:V.lY rows=true:=by
            refine kH.2 λj u hu=>?_
            unfold kE at c2;rw[List.all_eq_true]at c2;have:=c2 u (List.mem_of_getElem? hu);rw[List.all_eq_true]at this;exact gM.2 λi v hv=>jR (this v (List.mem_of_getElem? hv))
           have hR:=r2.add   (ob:=.sl .row es rows) (p:=(H.length,0)) O (λ_=>⟨λho=>absurd (r.lt ho) (by simp),λJ=>absurd (r.uT J) (by simp)⟩) (by
            simp only[dN,gp];refine⟨rows,by simp,by simp,?_,(fH.same an).EB,λ_=>⟨trivial,rfl⟩⟩
            rw[List.drop_zero,List.take_length];exact fH.same an)
           have hsl:cS (gZ ν t (H.length,0)) (bH st.m t (.sl .row es rows)) (H++[Ob.row es rows]) Z (.own t) (.hsl H.length es 0 rows.length):=by
            refine .own _ _ λQ h'=>?_
            rw[cr]at h';cases h';exact⟨_,_,_,rfl,by simp[qX,gp]⟩
           have ao:Ev Rv ν Z st H (gZ ν t (H.length,0)) Z { st with m:=bH st.m t (.sl .row es rows) } (H++[Ob.row es rows]):=Ev.add O (by simp) (λid hl _=>hH id hl) am (λ_=>.inr (Nat.le_refl _))
           have ap:qX (ν2 e) Fl.row es rows.length=.hsl (ν2 e).1 es 0 rows.length:=by simp[qX,q1]
           rw[ap]at L
           cases rest with
           | nil=>
            have  := by simp only[cZ,ζa]at J;exact J.symm
            subst this;refine⟨n,_,_,_,Z,λk C=>B (L k C  ?_),hR,hsl,ao,λ_=>rfl,Kept.add λ_ _ h=>h⟩
            simp[result,V.scalar,al]
           | cons x2 rest=>
            have aC:∃w2 af,Y=w2::af:=by
             have:=g2.1
             cases Y with
             | nil=>simp at this
             | cons a b=>exact⟨a,b,rfl⟩
            obtain⟨w2,af,rfl⟩:=aC;refine⟨n,_,_,_,Z,λk C=>B (L k C (o:=some (.tup (.hsl H.length es 0 rows.length::w2::af),H++[Ob.row es rows])) ?_),hR,?_,ao,λ_=>rfl,Kept.add λ_ _ h=>h⟩
            .simp only[result,V.scalar,V.cG,Bool.false_and,Bool.false_eq_true,if_false];have aD  := by simpa [V.cG]using c1
             simp[aD,al]
            .exact .tup _ _ (by simp) (bT.cons hsl (bT.Tt (oP c1))).2
          .simp at h
         .rename_i es xs D U J;split at h
          .rename_i A;simp  at A;simp  at h;obtain⟨rfl,rfl⟩:=h;obtain⟨_,_,_,ee,rfl⟩:=g1.jw U;cases ee;have G:=(g2.cZ J).scalar.1 A.1;subst G;exact emp .nil es Y rest A.1 _ A.2 .bE (by simp) rfl rfl rfl rfl
          .simp at h
         .rename_i es xs D U J;split at h
          .rename_i A;simp  at A;simp  at h;obtain⟨rfl,rfl⟩:=h;obtain⟨_,_,_,ee,rfl⟩:=g1.jw U;cases ee;have G:=(g2.cZ J).scalar.1 A.1;subst G;exact emp .emp es Y rest A.1 _ A.2 .dm (by simp) rfl rfl rfl rfl
          .simp at h
         .simp at h
        .simp at h
      grind
    grind
   .rename_i I;split at h
    .rename_i q hq;split at h
     .simp at h
     .rename_i hd;obtain⟨n,y,H',ν',e1,e2,e3,e4,e5⟩:=Re  (hP f q hq) r ha h;exact⟨n,y,H',ν',Z,λk C=>B (by unfold fc;rw[if_neg I];exact e1 k C),e2,e3,e4,λh=>absurd h hd,e5⟩
    .split at h
     .rename_i os hh;split at h
      .rename_i rs m' hc;split at h
       .rename_i D m2 J X;split at h
        .simp at h
        .rename_i aa;simp  at h;obtain⟨rfl,rfl⟩:=h
         cases aq:dr with
         | false=>
          obtain⟨n,y,H',Z',e1,e2,e3,e4,e5⟩:=RR  hS hk r ha hh hc J X;exact⟨n,y,H',ν,Z',λk C=>B (by unfold fc;rw[if_neg I];exact e1 k C),e2,e3,e4,(λh=>nomatch h),λe Q _=>e5 e Q⟩
         | true=>
          rw[aq]at aa;have iA:V.cG D=true/\∀k∈os.map (·.1),wI m2 k=true:=by
           simp only[Bool.true_and,Bool.not_eq_true',Bool.not_eq_false,ζh,List.all_eq_true]at aa;refine⟨aa.1,λk hk=>?_⟩
           obtain⟨x,hx,rfl⟩:=List.mem_map.1 hk;exact aa.2 x hx
          obtain⟨n,H',e1,e2,e3,e4,e5⟩:=Rs (Rv:=Rv) hS hk r ha hh hc J X iA.1 iA.2;exact⟨n,_,H',ν,Z,λk C=>B (by unfold fc;rw[if_neg I];exact e1 k C),e2,e3,e4,λ_=>rfl,λe Q _=>e5 e Q⟩
       .rename_i m2 J X;split at h
        .simp at h
        .rename_i hd;split at h
         .rename_i e rest t;split at h
          .rename_i k es xs D he aE;split at h
           .rename_i A;simp only[ζh,Bool.not_eq_true',List.contains_eq_mem,decide_eq_false_iff_not]at A;simp only[ζa,ζc]at h;obtain⟨rfl,rfl⟩:=h;obtain⟨n,y,H',ν',Z',e1,e2,e3,e4,e5⟩:=QI hS hk r ha hh hc aE X he A.1 A.2;exact⟨n,y,H',ν',Z',λk C=>B (by unfold fc;rw[if_neg I];exact e1 k C),e2,e3,e4,λh=>absurd h hd,e5⟩
           .simp at h
          .simp at h
         .simp at h
       .simp at h
      .simp at h
     .simp at h
  grind
 .rename_i hk;have ar  := by simpa using hk
  split at h
  .rename_i az hs;split at h
   .rename_i hl;split at h
    .rename_i rs m' hc;split at h
     .rename_i D J;split at h
      .rename_i A;simp only[Bool.or_eq_true]at A;simp  at h;obtain⟨rfl,rfl⟩:=h;obtain⟨n,H',e1,e2,e3,e4⟩:=QS  hS ab W hold r ha ar hs (by simpa using hl) hc J A
       exact⟨n,_,H',ν,Z,e1,e2,e3,e4,λ_=>rfl,.refl⟩
      .rename_i au;split at h
       .rename_i aF;obtain⟨ds,av,e⟩:=ζf.1 h;simp  at e;obtain⟨rfl,rfl⟩:=e;have aw:(result D).scalar=false:=by
         cases hq:(result D).scalar with
         | false=>rfl
         | true=>exact absurd (by simp[hq]) au
        obtain⟨n,H',e1,e2,e3,e4⟩:=QX  hS W (λb i hp=>(hold b i hp).2) r ha ar hs (by rw[<-ab];exact aF) hc J aw av (uX av hs)
        exact⟨n,_,H',ν,Z,e1,e2,e3,e4,λ_=>rfl,λe Q _ h=>⟨Q,nC h,rfl,.refl _⟩⟩
       .simp at h
     .simp at h
    .simp at h
   .simp at h
  .simp at h
end
end Go.VE
namespace Go.VE
variable [bN]
structure CX where
 E:Env
 nm:FuncId->Option Nat
 nt:Nat
def A5 (ops:List Oper) (o:Oper):Option (Option (Nat×Bool)):=
 match o.guard with
 | none=>some none
 | some (j,b)=>((ops[j]?).bind (·.dst)).map λd=>some (d,b)
def xF (nt:Nat):Option Nat->Bool
 | none=>true
 | some d=>decide (d<nt)
def wh (B:Bool) (ops:List Oper) (i:Nat) (k:K) (os:List Operand):K×List Operand×Bool:=
 if B && !dB ops i then match k,os,zm ops i with
  | .l (.store n),.tmp u::w,some (a,l)=>if u=a then(.l (.storeF n),(.tmp u::w)++l.map .tmp,true)else(k,os,false)
  | .l (.append n),os,_=>if vA ops i then(.e n,os,true)else(k,os,false)
  | .r (.load n ag),[.tmp u],_=>if(od ops i u).isEmpty then(k,os,false)else(.r (.loadF n ag),.tmp u::(od ops i u).map .tmp,false)
  | _,_,_=>(k,os,false)
 else(k,os,B&&dB ops i)
theorem B3 (B:Bool) (ops:List Oper) (i:Nat) (k:K) (os:List Operand):(wh B ops i k os=(k,os,B&&dB ops i)/\∀n ag a',B=true->dB ops i=false->k=.r (.load n ag)->os=[.tmp a']->od ops i a'=[]) \/
 (B=true/\dB ops i=false/\∃n a l D,k=.l (.store n)/\os=.tmp a::D/\zm ops i=some (a,l)/\wh B ops i k os=(.l (.storeF n),os++l.map .tmp,true)) \/
 (B=true/\dB ops i=false/\∃n ag a,k=.r (.load n ag)/\os=[.tmp a]/\wh B ops i k os=(.r (.loadF n ag),.tmp a::(od ops i a).map .tmp,false)) \/
 (B=true/\dB ops i=false/\vA ops i=true/\∃n,k=.l (.append n)/\wh B ops i k os=(.e n,os,true)):=by
 unfold wh;split
 .rename_i h;simp only[ζh,Bool.not_eq_true']at h;split
  .rename_i n a' D a l hk;split
   .rename_i e;subst e;refine .inr (.inl ⟨h.1,h.2,n,a',l,D,rfl,rfl,hk,?_⟩);simp only[wh,h.1,h.2,hk,Bool.not_false,Bool.and_self,if_true]
   .exact .inl ⟨by rw[h.2,Bool.and_false],λn ag a' _ _ e=>by cases e⟩
  .rename_i n;split
   .rename_i C;refine .inr (.inr (.inr ⟨h.1,h.2,C,n,rfl,rfl⟩))
   .exact .inl ⟨by rw[h.2,Bool.and_false],λn ag a' _ _ e=>by cases e⟩
  .rename_i n ag a';split
   .rename_i G;refine .inl ⟨by rw[h.2,Bool.and_false],λn ag A _ _ _ e=>?_⟩
    simp only[List.cons.injEq,Operand.tmp.injEq,and_true]at e;subst e;simpa using G
   .exact .inr (.inr (.inl ⟨h.1,h.2,n,ag,a',rfl,rfl,rfl⟩))
  .rename_i u w z;refine .inl ⟨by rw[h.2,Bool.and_false],λn ag A _ _ e1 e2=>?_⟩
   first|exact(z _ _ _ e1 e2).elim|exact(z _ _ _ _ e1 e2 rfl).elim|exact(u _ _ _ e1 e2).elim|exact(w _ _ _ e1 e2).elim|exact(u _ _ _ _ e1 e2 rfl).elim|exact(w _ _ _ _ e1 e2 rfl).elim
 .rename_i h;refine .inl ⟨rfl,λn ag A hd I _ _=>?_⟩
  rw[hd,I]at h;exact absurd rfl h
def mw (X:CX) (B:Bool) (ops:List Oper) (i:Nat) (o:Oper):Option RO:=
 if xF X.nt o.dst then
  match A5 ops o,resolve X.E X.nm o.op with
  | some gd,some (k,os)=>if zY k then if B&&wT ops i then match k,o.op with
   | .a (.makeSl size zero),.makeSlice ..=>(os.mapM (ou X.nm)).map λaz=>⟨o.dst,gd,false,.p (.makeC size zero),az,[],[]⟩
   | .a (.buildSl size len zero idx),.buildSlice ..=>if size≠0/\len=0/\idx=[]then(os.mapM (ou X.nm)).map λaz=>⟨o.dst,gd,false,.p .emptyC,az,[],[]⟩else none
   | _,_=>none
   else((wh B ops i k os).2.1.mapM (ou X.nm)).map λaz=>⟨o.dst,gd,(wh B ops i k os).2.2,(wh B ops i k os).1,az,[],[]⟩else none
  | _,_=>none
 else none
theorem B0 {E:Env} {N:Nat->FuncId} {F:Frame} {op:Op} {ys:List V} {size:Nat} {zero:List V} {y:V} (D:∃t l c,op=.buildSlice t l c) (h:B1 E N F op ys (.a (.buildSl size 0 zero []))) (G:size≠0) (B:bn N .emptyC ys=some y):pZ E F op=some y:=by
 obtain⟨t,l,c,rfl⟩:=D;obtain⟨g1,g2⟩:=h;unfold bn at B;split at B <;> first|(rename_i e;cases e;done)|skip
 .simp only[ζa]at B;subst B;have u:=g2 _ (show lF (.buildSl size 0 zero []) []=some (.row size [],.sl size 0)by simp[lF,gL])
  unfold pZ;rw[u];simp[G]
 .cases B
theorem BQ {E:Env} {N:Nat->FuncId} {F:Frame} {op:Op} {ys:List V} {size:Nat} {zero:List V} {y:V} (D:∃t l c,op=.makeSlice t l c) (h:B1 E N F op ys (.a (.makeSl size zero))) (B:bn N (.makeC size zero) ys=some y):pZ E F op=some y:=by
 obtain⟨t,l,c,rfl⟩:=D;obtain⟨g1,g2⟩:=h;unfold bn at B;split at B <;> first|(rename_i e;cases e;done)|skip
 .rename_i k n G m e;cases e;split at B
  .rename_i c;obtain⟨rfl,rfl,w,rfl,z,A⟩:=c;have u:=g2 _ (show lF (.makeSl size zero) [.int .i64 n,.int .i64 n]=some (.row size (List.replicate n.toNat zero),.sl size n.toNat)by simp only[lF,w,z,Int.le_refl,and_self,if_true])
   unfold pZ;rw[u];simp only;rw[if_pos (by refine⟨by trivial,by simp,List.all_eq_true.2 λx C=>by rw[List.eq_of_mem_replicate C];exact A⟩),<-B]
  .cases B
 .cases B
theorem Ct {X:CX} {dr:Bool} {ops:List Oper} {i:Nat} {o:Oper} {ro:RO} (hc:mw X dr ops i o=some ro):xF X.nt o.dst=true/\∃g now k az,A5 ops o=some g/\ro=⟨o.dst,g,now,k,az,[],[]⟩:=by
 unfold mw at hc;split at hc
 .rename_i hd;split at hc
  .rename_i g k os hg hr;split at hc
   ·(repeat' split at hc) <;> first|(cases hc;done)|(obtain⟨az,u,rfl⟩:=ζf.1 hc;exact⟨hd,_,_,_,_,hg,rfl⟩)
   .cases hc
  .cases hc
 .cases hc
structure Good (X:CX) (S:Sys):Prop where
 E:X.E=S.E
 N:∀f s,X.nm f=some s->S.N s=f
 prm:∀f q,S.prm f=some q->mb S.E f q
section
variable {Rv:Nat->Prop} {ν ν':Nu} {Z Z':Nat->Prop} {st st':St} {m m':Tb bu} {F F':Frame} {H H' H1:bf} {S:Sys} {c:bS} {X:CX}
def Old (b:Nat) (fr:List Nat) (ν:Nu) (Z:Nat->Prop) (m:Tb bu):Prop:=(∀d ob,a_ m d=some ob->cm ob=true->d∉fr->(ν d).1<b)/\∀id,Z id->id<b
theorem mI {fr:List Nat}:∀{svs:List SV},eO fr svs=true->∀d∈fr,SV.di d svs=false
 | [],_,d,_=>rfl
 | .v _::r,h,d,hd=>(mI (svs:=r) (by simpa [eO]using h) d hd)
 | .ptr e _::r,h,d,hd=>by
  simp[eO,Bool.not_eq_true']at h;simp[SV.di,SV.cM];exact⟨λe=>h.1 (e▸hd),mI h.2 d hd⟩
 | .el e _ _::r,h,d,hd=>by
  simp[eO,Bool.not_eq_true']at h;simp[SV.di,SV.cM];exact⟨λe=>h.1 (e▸hd),mI h.2 d hd⟩
 | .mp e::r,h,d,hd=>by
  simp[eO,Bool.not_eq_true']at h;simp[SV.di,SV.cM];exact⟨λe=>h.1 (e▸hd),mI h.2 d hd⟩
 | .own _::r,h,_,_=>by simp[eO]at h
 | .clo ..::r,h,_,_=>by simp[eO]at h
 | .tup _::r,h,_,_=>by simp[eO]at h
 | .agg _::r,h,_,_=>by simp[eO]at h
 | .yl _::r,h,_,_=>by simp[eO]at h
def BG (S:Sys) (ops:List Oper) (place:Option (Nat×Nat)) (dr:Bool) (F:Frame) (op:Op) (dst:Option Nat) (ν:Nu) (Z:Nat->Prop) (st:St) (H:bf) (sv:SV) (st':St):Prop:=
 ∃n y H' ν' Z',(∀k,n<=k->c6 S.E (run S.E k) ops place F H op=some (y,H'))/\R ν' Z' st' F H'/\cS ν' st'.m H' Z' sv y/\Ev (λid=>∃b j,place=some (b,j)/\id=b+j) ν Z st H ν' Z' st' H' /\
  (dr=true->Z'=Z/\Kept dst ν st.m ν' st'.m)
theorem xq {E:Env} {F:Frame} {H:bf} {place:Option (Nat×Nat)} {op:Op} {v:V} (h:bG E F op=some v):rJ E F H place op=some v:=by unfold rJ;rw[h]
theorem zb:∀{xs ys:List (List V)} {l:List Int},fH H Z xs ys->om xs=some l->om ys=some l
 | [],ys,l,h,B=>by
  have:=h.1;have:ys=[]:=List.eq_nil_of_length_eq_zero (by simpa using this.symm)
  subst this;exact B
 | x::xs,[],l,h,B=>by have:=h.1;simp at this
 | x::xs,y::ys,l,h,B=>by
  unfold om at B;split at B
  .rename_i e;cases e
  .rename_i n r e;cases e;obtain⟨k,h1,rfl⟩:=ζf.1 B;have w:=h.2 0 _ y rfl rfl;obtain⟨u,A,rfl,p1,p2⟩:=w.inv;rw[p2.cO,p1.int];have:=zb (xs:=xs) (ys:=ys) ⟨by have:=h.1;simpa using this,λj a b z B=>h.2 (j+1) a b z B⟩ h1
   simp only[om,this,Option.map_some]
  .cases B
theorem LQ (gd:Good X S) {ops:List Oper} {place:Option (Nat×Nat)} {dr:Bool} {op:Op} {dst:Option Nat} {p:tY} {svs:List SV} {ys:List V} (hk:zY (.p p)=true) (r:R ν Z st F H) (rs:bT ν st.m H Z svs ys)
 (B:B1 X.E S.N F op ys (.p p)) {sv:SV} (h:(iW S.N st.m p svs).map (λx=>(x,st))=some (sv,st')):BG S ops place dr F op dst ν Z st H sv st':=by
 obtain⟨x,w,e⟩:=ζf.1 h;obtain⟨rfl,rfl⟩:=e;obtain⟨y,z,u⟩:=FW  (λzero pl e=>by subst e;simpa [zY]using hk) r.obj rs w
 obtain⟨h1,A⟩:=B;exact⟨0,y,H,ν,Z,λq _=>by unfold c6;rw[h1];simp only[<-gd.E,xq (A y z),Option.map_some],r,u,.refl,λ_=>⟨rfl,.refl⟩⟩
theorem Dv (gd:Good X S) {ops:List Oper} {place:Option (Nat×Nat)} {dr:Bool} {op:Op} {p:tY} {svs:List SV} {ys:List V} (hp:∀zero pl,p≠.build zero pl) (B:cV op=.alloc) (D:qf ops place=true) (G:∀y,bn S.N p ys=some y->pZ X.E F op=some y)
 (r:R ν Z st F H) (rs:bT ν st.m H Z svs ys) {sv:SV} (h:(iW S.N st.m p svs).map (λx=>(x,st))=some (sv,st')):BG S ops place dr F op none ν Z st H sv st':=by
 obtain⟨x,w,e⟩:=ζf.1 h;simp only[ζc]at e;obtain⟨rfl,rfl⟩:=e;obtain⟨y,z,u⟩:=FW (N:=S.N) (λzero pl e=>absurd e (hp zero pl)) r.obj rs w
 refine⟨0,y,H,ν,Z,λq _=>?_,r,u,.refl,λ_=>⟨rfl,.refl⟩⟩
 unfold c6;rw[B];simp only[D,if_true,<-gd.E,G y z,Option.map_some]
theorem Is:∀{J B:List Operand} {vs:List V},eP F (J++B)=some vs->∃D G,eP F J=some D/\eP F B=some G/\vs=D++G
 | [],B,vs,h=>⟨[],vs,rfl,h,rfl⟩
 | x::J,B,vs,h=>by
  obtain⟨a,az,h1,T,rfl⟩:=gY h;obtain⟨D,G,g1,g2,rfl⟩:=Is T;exact⟨a::D,G,by simp[eP,h1,g1],g2,rfl⟩
theorem AO:∀{l:List Nat} {vs:List V},eP F (l.map Operand.tmp)=some vs->vs=l.map (get F)
 | [],vs,h=>oT h
 | x::l,vs,h=>by
  obtain⟨a,az,h1,B,rfl⟩:=gY h;simp[ev]at h1;subst h1;rw[AO B];rfl
theorem Tl (gd:Good X S) {call:dh} {ops:List Oper} {b j n a:Nat} {l:List Nat} {o:Oper} {B:List Operand} {ys:List V} {y:V} (hr:resolve X.E X.nm o.op=some (.l (.store n),.tmp a::B)) (D:eP F ((.tmp a::B)++l.map Operand.tmp)=some ys)
 (G:zm ops j=some (a,l)) (J:dB ops j=false) (e1:eM H (.storeF n) ys=some (y,H')):c6 S.E call ops (some (b,j)) F H o.op=some (y,H'):=by
 obtain⟨U,W,h1,I,rfl⟩:=Is D;obtain⟨g1,g2⟩:=jT gd.N hr h1;obtain⟨w,L,z,O,rfl⟩:=gY h1;simp[ev]at z;have u:∃v,L=[v]:=by
  have A:∃x,B=[x]:=by
   unfold resolve at hr
   (repeat' split at hr) <;> first|grind|skip
   all_goals (try (obtain⟨_,_,e⟩:=ζf.1 hr;simp[K.l.injEq,Ih.store.injEq,reduceCtorEq]at e))
   grind
  obtain⟨x,rfl⟩:=A;obtain⟨v,Y,_,Q,rfl⟩:=gY O;rw[oT Q];grind
 obtain⟨v,rfl⟩:=u;rw[AO I,<-z]at e1;simp  at e1
 cases C:get F a with
 | hptr id el off=>
  rw[C]at e1;simp only[eM]at e1;split at e1
  .have T:qy ops j F=true:=by
    unfold qy
    grind
   unfold c6;rw[g1];simp[T,<-gd.E];refine g2 _ _ ?_;rw[<-z,C];exact e1
  grind
 | _=>rw[C]at e1;simp[eM]at e1
theorem Eg {E:Env} {nm:FuncId->Option Nat} {op:Op} {s:Nat} {a:Bool} {os:List Operand} (h:resolve E nm op=some (.r (.loadF s a),os)):False:=by
 unfold resolve at h
 (repeat' split at h) <;> first|grind|skip
 all_goals simp_all
theorem FZ {E:Env} {nm:FuncId->Option Nat} {op:Op} {s a':Nat} {a:Bool} {t:TypeId} {os:List Operand} (h:resolve E nm op=some (.r (.load s a),os)):∃t x,op=.load t x/\os=[x]:=by
 unfold resolve at h
 (repeat' split at h) <;> first|grind|skip
 all_goals simp_all
 grind
theorem MI {E:Env} {nm:FuncId->Option Nat} {ops:List Oper} {j:Nat} {op:Op} {q:H6} {os:List Operand} (hr:resolve E nm op=some (.r q,os)) (h:∀n ag a',K.r q=.r (.load n ag)->os=[.tmp a']->∀t,op=.load t (.tmp a')->od ops j a'=[]):mF ops j F op=true:=by
 unfold mF;split
 .rename_i t a';have:∃n ag,q=.load n ag/\os=[.tmp a']:=by
   obtain⟨d,_,e⟩:=ζf.1 hr
   grind
  grind
 .rfl
theorem QU (gd:Good X S) {ops:List Oper} {b j n a:Nat} {ag:Bool} {fr:List Nat} {o:Oper} {svs:List SV} {ys:List V} {dst:Option Nat} {x:SV} (hr:resolve X.E X.nm o.op=some (.r (.load n ag),[.tmp a])) (U:eP F (.tmp a::(od ops j a).map Operand.tmp)=some ys) (rs:bT ν st.m H Z svs ys)
 (W:eO fr svs=true) (aa:b<=H.length) (ab:∀d ob,a_ st.m d=some ob->cm ob=true->d∉fr->(ν d).1<b) (B:∀id,Z id->id<b) (r:R ν Z st F H) (T:nZ st.m (.loadF n ag) svs=some x):BG S ops (some (b,j)) true F o.op dst ν Z st H x st:=by
 obtain⟨w,ws,h1,h2,rfl⟩:=gY U;simp[ev]at h1;have ad:=AO h2;unfold nZ at T;split at T <;> first|(rename_i u;cases u;done)|skip
 .rename_i size agg d off l u;cases u;split at T
  .rename_i C;split at T
   .rename_i cs A;obtain⟨w',ae,e,g1,g2⟩:=rs.inv;cases e;have D:=Il r A g2 C;obtain⟨_,_,rfl⟩:=g1.nM A;have G:∀id,Z id->Z id/\bl (H.take b) id=bl H id:=λid h=>⟨h,mh (B id h)⟩
    have I:∀id,Z id->Z id/\bl H id=bl (H.take b) id:=λid h=>⟨h,(mh (B id h)).symm⟩
    have af:d∉fr:=λY=>by
     have:=mI W d Y;simp[SV.di,SV.cM]at this
    obtain⟨y,hy,L⟩:=uZ  (r:=.load n ag)   (λs a e=>by cases e) (λkk z ok e=>by cases e) (bT.cons (g1.mono G λe _=>hU ν st.m e) .nil) (λd2 O ob J=>by
     have ah:d2∉fr:=λY=>by
      have  := by simpa [SV.di,SV.cM]using O
      grind
     exact dN.mono G rfl (λhb=>by grind) (λe _=>hU ν st.m e) (r.obj d2 ob J))  (by simp[nZ,A];omega)
    obtain⟨k1,k2⟩:=jT  gd.N hr (show eP F [.tmp a]=some [.hptr (ν d).1 0 off]from by simp[eP,ev,h1])
    have Q:mF ops j F o.op=true:=by
     obtain⟨t,x',e1,e2⟩:=FZ (a':=0) (t:=0) hr;rw[e1];simp  at e2;subst e2;simp[mF];intro s hs;have hm:get F s∈ws:=by grind
     have:=List.all_eq_true.1 D _ hm;split
     .rename_i ai _ _ hg;simp[pK]at this ⊢
      grind
     .rfl
    refine⟨0,y,H,ν,Z,λq _=>?_,r,L.mono I (λe _=>hU ν st.m e),.refl,λ_=>⟨rfl,.refl⟩⟩
    unfold c6;rw[k1];simp[<-gd.E,k2 (H.take b) y hy,Q]
   grind
  grind
 grind
theorem CA {E:Env} {nm:FuncId->Option Nat} {op:Op} {n:Nat} {os:List Operand} (h:resolve E nm op=some (.l (.append n),os)) {y:V} {ys:List V} (hv:eP F os=some (y::ys)) (B:y=.bE\/y=.dm):isApp op=true/\oN F op=true:=by
 have key:∃args u p s x,op=.call { callee:=.builtin .append,args:=args,argTypes:=u }/\args.toList=[s,x]/\os=[s,x]/\p=():=by
  unfold resolve at h
  (repeat' split at h) <;> first|(simp at h;done)|skip
  all_goals (try (obtain⟨_,_,e⟩:=ζf.1 h;simp only[ζc,K.l.injEq,reduceCtorEq,false_and]at e))
  all_goals (simp only[ζa,ζc]at h;obtain⟨_,rfl⟩:=h;exact⟨_,_,(),_,_,rfl,by assumption,rfl,rfl⟩)
 obtain⟨args,u,_,s,x,rfl,h1,rfl,_⟩:=key;obtain⟨a,az,w,z,e⟩:=gY hv;cases e;refine⟨rfl,?_⟩;simp only[oN,h1,w];rcases B with rfl|rfl <;> rfl
theorem Sh (gd:Good X S) (hS:iy S c) {ops:List Oper} {place:Option (Nat×Nat)} {dr:Bool} {fr:List Nat} {i:Nat} (G:dr=place.isSome) (hi:∀b j,place=some (b,j)->j=i)
 (hold:∀b j,place=some (b,j)->b<=H.length/\Old b fr ν Z st.m)
 {o:Oper} {ro:RO} (hc:mw X dr ops i o=some ro) (aD:∀b j,place=some (b,j)->ops[j]? = some o) (ak:∀b j,place=some (b,j)->cV o.op=.alloc->H[b+j]? = some .free)
 (r:R ν Z st F H) {sv:SV} (h:lH S c dr fr ro st=some (sv,st')) :
 BG S ops place dr F o.op (yb ro) ν Z st H sv st':=by
 unfold mw at hc;split at hc
 .split at hc
  .rename_i g k os hg hr;split at hc
   .rename_i hk;split at hc
    .rename_i af;simp only[ζh]at af;have au:qf ops place=true:=by
      cases place with
      | none=>rw[G]at af;exact absurd af.1 (by simp)
      | some O=>obtain⟨b,j⟩:=O;rw[hi b j rfl];exact af.2
     split at hc
     .rename_i size zero t l c Y;obtain⟨az,ha,rfl⟩:=ζf.1 hc;unfold lH at h;split at h
      .rename_i I C;obtain⟨ys,D,rs⟩:=oQ gd.N r.slot ha C;have J:=jT gd.N hr D;exact Dv gd (λ_ _ e=>by cases e) J.1 au (λy hy=>BQ ⟨_,_,_,Y⟩ J hy) r rs h
      .simp at h
     .rename_i size len zero idx t l c Y;split at hc
      .rename_i aE;obtain⟨aF,rfl,rfl⟩:=aE;obtain⟨az,ha,rfl⟩:=ζf.1 hc;unfold lH at h;split at h
       .rename_i I C;obtain⟨ys,D,rs⟩:=oQ gd.N r.slot ha C;have J:=jT gd.N hr D;exact Dv gd (λ_ _ e=>by cases e) J.1 au (λy hy=>B0 ⟨_,_,_,Y⟩ J aF hy) r rs h
       .simp at h
      .cases hc
     .cases hc
    rename_i ah;have aj:qf ops place=false:=by
     cases place with
     | none=>rfl
     | some O=>
      obtain⟨b,j⟩:=O;have B:=hi b j rfl
      cases av:wT ops j with
      | false=>exact av
      | true=>exact absurd (by rw[G,<-B,av];rfl) ah
    rcases B3 dr ops i k os with⟨hq,aG⟩|⟨u,al,n,a,l,aQ,rfl,rfl,aH,hq⟩|⟨u,al,n,ag,a,rfl,rfl,hq⟩|⟨u,al,aI,n,rfl,hq⟩
    rotate_left
    .rw[hq]at hc;obtain⟨az,ha,rfl⟩:=ζf.1 hc;unfold lH at h;split at h
     .rename_i I C;obtain⟨ys,D,rs⟩:=oQ gd.N r.slot ha C;simp only[u,Bool.not_true,Bool.false_or,if_true]at h;obtain⟨y,H',ν',e1,e2,e3,e4,e5⟩:=A2 r rs h;refine⟨0,y,H',ν',Z,λq _=>?_,e2,e3,e4.weak (λ_ h=>h.elim),λ_=>⟨rfl,e5⟩⟩
      cases place with
      | none=>rw[G]at u;cases u
      | some O=>
       obtain⟨b,j⟩:=O;have B:=hi b j rfl;subst B;exact Tl gd hr D aH al e1
     .simp at h
    .rw[hq]at hc;obtain⟨az,ha,rfl⟩:=ζf.1 hc;unfold lH at h;split at h
     .rename_i I C;obtain⟨ys,D,rs⟩:=oQ gd.N r.slot ha C;simp only[u,Bool.not_true,Bool.or_self,Bool.false_or]at h;split at h
      .rename_i am;obtain⟨x,hx,e⟩:=ζf.1 h;simp only[ζc]at e;obtain⟨rfl,rfl⟩:=e
       cases place with
       | none=>rw[G]at u;cases u
       | some O=>
        obtain⟨b,j⟩:=O;have B:=hi b j rfl;subst B;obtain⟨aw,an,ai⟩:=hold b j rfl;rw[u];exact QU gd hr D rs am aw an ai r hx
      .simp at h
     .simp at h
    .rw[hq]at hc;obtain⟨az,ha,rfl⟩:=ζf.1 hc;unfold lH at h;split at h
     rotate_left
     .simp at h
     rename_i I C;obtain⟨ys,D,rs⟩:=oQ gd.N r.slot ha C;simp only at h;have key:∃e x,(e=V.bE\/e=V.dm)/\I=[.v e,x]/\lC st o.dst (.append n) I=some (sv,st'):=by
      split at h
      .exact⟨_,_,.inl rfl,rfl,h⟩
      .exact⟨_,_,.inr rfl,rfl,h⟩
      .cases h
     obtain⟨e,x,he,rfl,hl⟩:=key;obtain⟨y,H',ν',e1,e2,e3,e4,e5⟩:=A2 r rs hl;obtain⟨g1,g2⟩:=jT gd.N hr D;refine⟨0,y,H',ν',Z,λq _=>?_,e2,e3,e4.weak (λ_ h=>h.elim),λ_=>⟨rfl,e5⟩⟩
     obtain⟨y1,zs,rfl,f1,f2⟩:=rs.inv;have aJ:y1=.bE\/y1=.dm:=by
      cases f1 with|v _ _ hf=>rcases he with rfl|rfl <;> first|exact .inl hf.bE|exact .inr hf.dm
     cases place with
     | none=>rw[G]at u;cases u
     | some O=>
      obtain⟨b,j⟩:=O;have B:=hi b j rfl;subst B;obtain⟨r1,r2⟩:=CA hr D aJ;exact MN r1 (by rw[<-gd.E];exact g2 _ _ e1) (.inr ⟨aI,r2,(hold b j rfl).1⟩)
    rw[hq]at hc;obtain⟨az,ha,rfl⟩:=ζf.1 hc;unfold lH at h;split at h
    .rename_i I C;obtain⟨ys,D,rs⟩:=oQ gd.N r.slot ha C;have A:=jT gd.N hr D;simp only at h
     cases k with
     | p p=>
      cases p with
      | slice size lo hi=>
       simp only at h;split at h
       .rename_i d bs;split at h
        .simp at h
        .rename_i ao;obtain⟨y,ν',h1,h2,h3,h4⟩:=MP (N:=S.N) (Rv:=λid=>∃b j,place=some (b,j)/\id=b+j) r rs h
         obtain⟨g1,g2⟩:=A;exact⟨0,y,H,ν',Z,λq _=>by unfold c6;rw[g1];simp only[<-gd.E,xq (g2 y h1),Option.map_some],h2,h3,h4,λhd=>absurd hd ao⟩
       .exact LQ gd hk r rs A h
      | _=>exact LQ gd hk r rs A h
     | r q=>
      simp only at h;split at h
      .rename_i T;obtain⟨x,hx,e⟩:=ζf.1 h;simp only[ζc]at e;obtain⟨rfl,rfl⟩:=e;obtain⟨g1,g2⟩:=A;have ap:∀kk z ok,q=.lookup kk z ok->z.good=true:=λkk z ok e=>by subst e;simpa [zY]using hk
       have aa:∀s a,q≠.loadF s a:=λs a e=>by subst e;exact Eg hr
       cases place with
       | none=>
        obtain⟨y,hy,ab⟩:=uZ aa ap rs (λd _ ob hd=>r.obj d ob hd) hx
        exact⟨0,y,H,ν,Z,λq _=>by unfold c6;rw[g1];simp only[<-gd.E,g2 H y hy,Option.map_some],r,ab,.refl,λ_=>⟨rfl,.refl⟩⟩
       | some O=>
        obtain⟨b,j⟩:=O;obtain⟨aw,an,ai⟩:=hold b j rfl;have u:dr=true:=G;subst u;have B:=hi b j rfl;subst B;simp only[Bool.not_true,Bool.false_or,Bool.true_and]at T;have ax:mF ops j F o.op=true:=MI hr λn ag a' e1 e2 t e3=>by
         by_cases Q:dB ops j=true
         .exact Ci (aD b j rfl) e3 Q
         .exact aG n ag a' rfl (by simpa using Q) e1 e2
        by_cases Q:dB ops j=true
        .obtain⟨y,hy,ab⟩:=uZ aa ap rs (λd _ ob hd=>r.obj d ob hd) hx
         have hH:=g2 H y hy;refine⟨0,y,H,ν,Z,λq _=>?_,r,ab,.refl,λ_=>⟨rfl,.refl⟩⟩
         unfold c6;rw[g1];simp only[<-gd.E,ax,if_true];split
         .rename_i v hv;have:=ye hv;rw[hH]at this;cases this;rfl
         .rw[if_pos Q,hH];rfl
        .have am:eO fr I=true:=by simpa [Q]using T
         have W:∀id,Z id->Z id/\bl (H.take b) id=bl H id:=λid h=>⟨h,mh (ai id h)⟩
         have ay:∀id,Z id->Z id/\bl H id=bl (H.take b) id:=λid h=>⟨h,(mh (ai id h)).symm⟩
         obtain⟨y,hy,ab⟩:=uZ (H:=H.take b) aa ap (rs.mono W λe _=>hU ν st.m e) (λd hd ob aA=>by
          have aa:d∉fr:=λhf=>by rw[mI am d hf]at hd;cases hd
          exact dN.mono W rfl (λhb=>by rw[List.getElem?_take,if_pos (an d ob aA hb aa)]) (λe _=>hU ν st.m e) (r.obj d ob aA)) hx
         refine⟨0,y,H,ν,Z,λq _=>?_,r,ab.mono ay (λe _=>hU ν st.m e),.refl,λ_=>⟨rfl,.refl⟩⟩
         unfold c6;rw[g1];simp only[<-gd.E,g2 (H.take b) y hy,ax,if_true]
      .simp at h
     | a q=>
      simp only at h;split at h
      .rename_i d hd;split at h
       .rename_i U;obtain⟨⟨ob,x⟩,hx,e⟩:=ζf.1 h;simp only[ζc]at e;obtain⟨rfl,rfl⟩:=e;obtain⟨ad,mk,e1,e2,e3,e4⟩:=K3 hk rs hx;obtain⟨g1,g2⟩:=A;obtain⟨n1,n2,n3,n4⟩:=k8 U;have aq:∀p:Nat×Nat,∀e,SV.di e I=true->∀ae,a_ (bH st.m d ob) e=some ae->∃ob,a_ st.m e=some ob/\gZ ν d p e=ν e/\sameShape ob ae:=λp e he=>by
         refine rW ?_;rintro rfl;have:∀{xs:List Arg} {vs:List SV},bP S.N st.g xs=some vs->SV.di e vs=false:=by
          intro xs
          induction xs with
          | nil=>intro vs h;simp only[bP,ζa]at h;subst h;rfl
          | cons a xs ih=>
           intro vs h;simp only[bP]at h;split at h
           .rename_i v aR h1 h2;simp only[ζa]at h;subst h;simp only[SV.di,Bool.or_eq_false_iff];refine⟨?_,ih h2⟩
            cases a with
            | s n=>exact xA n3 h1
            | k c=>simp only[pI,ζa]at h1;subst h1;rfl
            | f s=>simp only[pI,ζa]at h1;subst h1;rfl
           .simp at h
         rw[this C]at he;cases he
        have fin:∀(id:Nat) (Hn:bf),H.length<=Hn.length->Hn[id]? = some ad->(∀k,k<H.length->k≠id->Hn[k]? = H[k]?)->(∀k,eT ν st.m k->k≠id)->(∀k,Z k->k≠id) ->
         R (gZ ν d (id,0)) Z { st with m:=bH st.m d ob } F Hn/\cS (gZ ν d (id,0)) (bH st.m d ob) Hn Z x (mk.val id)/\(∀k,Z k->bl Hn k=bl H k):=λid Hn hl aK J ho hz=>by
         have W:∀k,Z k->bl Hn k=bl H k:=λk hk=>by unfold bl;rw[J k (r.uT hk) (hz k hk)]
         obtain⟨a1,a2⟩:=e4 id (gZ ν d (id,0)) (bH st.m d ob) Hn (gp _ _ _) (cr _ _ _) aK W (aq _);have r2:R ν Z st F Hn:=r.heap (λk hk=>J k (r.lt hk) (ho k hk)) W
         exact⟨r2.add U (λ_=>⟨λh=>ho _ h rfl,λh=>hz _ h rfl⟩) a1,a2,W⟩
        have aB:o.dst=some d:=hd
        cases place with
        | none=>
         obtain⟨f1,f2,f3⟩:=fin H.length (H++[ad]) (by simp) (by simp) (λk hk _=>List.getElem?_append_left hk) (λk hk=>Nat.ne_of_lt (r.lt hk)) (λk hk=>Nat.ne_of_lt (r.uT hk))
         refine⟨0,mk.val H.length,H++[ad],gZ ν d (H.length,0),Z,λq _=>?_,f1,f2,Ev.add U (by simp) (λk hk _=>List.getElem?_append_left hk) f3 (λ_=>.inr (Nat.le_refl _)),λhh=>?_⟩
         .unfold c6;rw[g1];simp only[aj,Bool.false_eq_true,if_false,<-gd.E,g2 _ e1]
         .rw[G]at hh;cases hh
        | some O=>
         obtain⟨b,j⟩:=O;have hf:=ak b j rfl g1;have aL:=(ζe.1 hf).1;have nf:∀k,eT ν st.m k->k≠b+j:=λk hk e=>by
          subst e;obtain⟨d',ae,w1,w2,w3⟩:=hk;have:=r.obj d' ae w1
          cases ae with
          | sl fl es xs=>
           simp only[cm]at w2;simp only[dN,w2,if_true]at this;obtain⟨_,L,_⟩:=this;rw[w3,hf]at L;cases L
          | box cs=>obtain⟨_,_,L,_⟩:=this;rw[w3,hf]at L;cases L
          | mp aS=>obtain⟨_,L,_⟩:=this;rw[w3,hf]at L;cases L
         have nz:∀k,Z k->k≠b+j:=λk hk e=>by
          subst e;have:=r.zrow _ hk;unfold bl at this;rw[hf]at this;simp[Ob.rows]at this
         obtain⟨f1,f2,f3⟩:=fin (b+j) (H.set (b+j) ad) (by simp) (by rw[List.getElem?_set_self aL]) (λk _ hk=>by rw[List.getElem?_set,if_neg (Ne.symm hk)]) nf nz
         refine⟨0,mk.val (b+j),H.set (b+j) ad,gZ ν d (b+j,0),Z,λq _=>?_,f1,f2,Ev.add U (by simp) (λk _ hk=>?_) f3 (λ_=>.inl ⟨b,j,rfl,rfl⟩),λ_=>⟨rfl,?_⟩⟩
         .unfold c6;rw[g1];simp only[aj,Bool.false_eq_true,if_false,<-gd.E,g2 _ e1,hf]
         .rw[List.getElem?_set,if_neg λe=>hk ⟨b,j,rfl,e.symm⟩]
         .have:yb ⟨o.dst,g,dr&&dB ops j,.a q,az,[],[]⟩=some d:=aB;have B:=hi b j rfl;subst B;rw[this];exact Kept.add λ_ _ h=>h
       .simp at h
      .simp at h
     | l q=>
      simp only at h;split at h
      .rename_i T;obtain⟨y,H',ν',e1,e2,e3,e4,e5⟩:=A2 r rs h;obtain⟨g1,g2⟩:=A;refine⟨0,y,H',ν',Z,λq _=>?_,e2,e3,e4.weak (λ_ h=>h.elim),λ_=>⟨rfl,e5⟩⟩
       unfold c6;rw[g1];simp only[<-gd.E]
       cases place with
       | none=>exact g2 _ _ e1
       | some O=>
        obtain⟨b,j⟩:=O;have u:dr=true:=G;subst u;have B:=hi b j rfl;subst B;have Q:dB ops j=true:=by simpa using T
        simp only[Q,if_true];exact g2 _ _ e1
      .simp at h
     | e n=>exact A.elim
     | b=>
      simp only at h;split at h
      .cases h
      .rename_i ao;have aM:dr=false:=by simpa using ao
       have aN:place=none:=by
        cases place with
        | none=>rfl
        | some O=>rw[aM]at G;simp at G
       subst aN;split at h
       .rename_i x;obtain⟨xs,h1,h2⟩:=ζg.1 h;obtain⟨l,h3,e⟩:=ζf.1 h2;simp only[ζc]at e;obtain⟨rfl,rfl⟩:=e;obtain⟨g1,y,e1,g2⟩:=A;obtain⟨y',_,e2,r1,r2⟩:=rs.inv;rw[e1]at e2;cases e2;obtain⟨zs,k1,k2⟩:=th r1 r.obj h1;have hz:om zs=some l:=zb k2 h3;obtain⟨q1,q2⟩:=g2 H zs l k1 hz;exact⟨0,_,H,ν,Z,λq _=>by unfold c6;rw[g1];simp only[rJ,<-gd.E,q1,q2,Option.map_some],r,.v _ _ (.same _ rfl),.refl,λ_=>⟨rfl,.refl⟩⟩
       .cases h
     | c=>
      simp only at h;obtain⟨g1,f',aT,e1,e2⟩:=A;have go:∀(f:FuncId) (args:List SV) (ar:List V),bT ν st.m H Z args ar->ja F o.op=some (.fn f,ar)->eB S c o.dst dr (!dr||(dr&&dB ops i)) (eN st.m fr) f args st=some (sv,st') ->
       BG S ops place dr F o.op (yb ⟨o.dst,g,dr&&dB ops i,.c,az,[],[]⟩) ν Z st H sv st':=λf args ar aO aC aP=>by
       obtain⟨n,y,H',ν',Z',p1,p2,p3,p4,p5,p6⟩:=No (ops:=ops) (Rv:=λid=>∃b j,place=some (b,j)/\id=b+j) hS gd.prm G (λb j hp hn=>by
        have:=hi b j hp;subst this;simp only[ζh]at hn;exact hn.2) (λb j hp=>(hold b j hp).2) r aO aP
       refine⟨n,y,H',ν',Z',λq hq=>?_,p2,p3,p4,λhd=>⟨p5 hd,p6⟩⟩
       unfold c6;rw[g1];simp only[aC];exact p1 q hq
      split at h
      .rename_i f a b vs;obtain⟨w,ws,ew,r1,r2⟩:=rs.inv;rw[ew]at e1;simp only[List.cons.injEq]at e1;obtain⟨rfl,rfl⟩:=e1;obtain⟨a',b',rfl,ra,rb⟩:=r1.jv;exact go f _ _ ((ra.append r2).append rb) e2 h
      .rename_i f a b vs;obtain⟨w,ws,ew,r1,r2⟩:=rs.inv;rw[ew]at e1;simp only[List.cons.injEq]at e1;obtain⟨rfl,rfl⟩:=e1;obtain⟨a',b',rfl,ra,rb⟩:=r1.fr.jv;exact go f _ _ (((bT.p8 ra).append r2).append (bT.p8 rb)) e2 h
      .simp at h
    .simp at h
   .simp at hc
  .simp at hc
 .simp at hc
end
end Go.VE
namespace Go.VE
variable [bN]
def fm (N:Nat->FuncId) (g:Tb SV) (o:RO):Option (Nat×List SV):=
 match o.k,bP N g o.az with
 | .c,some (.yl id::u)=>some (id,u)
 | _,_=>none
open Classical in
noncomputable def eZ (S:Sys) (c:bS) (dr:Bool) (fr:List Nat) (o:RO) (st:St):Option St:=
 match wanted st.g o.gd with
 | some true=>match fm S.N st.g o with
  | some (id,z)=>if dr then none else match cZ z,st.want with
   | some A,w::u=>if A=w/\id=st.yid then some (cT { st with want:=u } o.dst (.v (.bool (st.more || !u.isEmpty))))else none
   | _,_=>none
  | none=>(lH S c dr fr o st).map λ(x,st')=>cT st' o.dst x
 | some false=>some (cT st o.dst (.v .undef))
 | none=>none
def RO.strip (o:RO):RO:={ o with dead:=[],pre:=[] }
def nK:List Gh->St->Option St
 | [],st=>some st
 | x::r,st=>(ghost x st).bind (nK r)
def zh:Gh->Bool
 | .keep ..=>true
 | .drop _=>true
 | _=>false
def Ba (dr:Bool) (l:List Gh) (st:St):Option St:=if dr then(if l.all zh then nK l st else none)else nK l st
def og (ds:List Nat) (st:St):St:={ st with g:=oe ds st.g }
noncomputable def me (S:Sys) (c:bS) (dr:Bool):List Nat->List RO->St->Option St
 | _,[],st=>some st
 | fr,o::r,st=>match (Ba dr o.pre st).bind (eZ S c dr fr o.strip)with
  | some st'=>me S c dr (if dr then pO fr o.strip else fr) r (og o.dead st')
  | none=>none
abbrev JT:=List (List V)->(Nat->Prop)->(Nat->Prop)->bf->Prop
structure Yc (S:Sys) (J:JT) (more:Bool) (yid:Nat):Prop where
 uQ:∀w O Z H O' Z' H',J w O Z H->H.length<=H'.length->(∀i,i<H.length->¬O i->¬Z i->H'[i]? = H[i]?)->(∀i,Z i->Z' i/\bl H' i=bl H i) ->
  (∀i,O' i->O i\/H.length<=i)->(∀i,Z' i->Z i\/O i\/H.length<=i)->J w O' Z' H'
 yield:∀x ws O Z H args,J (x::ws) O Z H->cW H Z x args->(∀i,Z i->(bl H i).isSome=true)->Deep H Z->(∀i,O i->¬Z i/\i<H.length) ->
  ∃n H',run S.E n (.yld yid) args H=some (.bool (more || !ws.isEmpty),H')/\J ws O Z H'/\H.length<=H'.length/\(∀i,O i->H'[i]? = H[i]?)/\(∀i,Z i->bl H' i=bl H i)
structure Fix (ν:Nu) (st:St) (ν':Nu) (st':St):Prop where
 pin:∀d∈st.pin,∀ob',a_ st'.m d=some ob'->∃ob,a_ st.m d=some ob/\ν' d=ν d/\sameShape ob ob'
 pins:st'.pin=st.pin
 more:st'.more=st.more
 yid:st'.yid=st.yid
section
variable {Rv:Nat->Prop} {ν ν' ν2:Nu} {Z Z':Nat->Prop} {st st' st2:St} {m m':Tb bu} {F F':Frame} {H H' H1:bf} {S:Sys} {c:bS} {X:CX} {J:JT}
theorem Fix.refl:Fix ν st ν st:=⟨λ_ _ u h=>⟨u,h,rfl,.refl _⟩,rfl,rfl,rfl⟩
theorem Fix.trans (a:Fix ν st ν' st') (b:Fix ν' st' ν2 st2):Fix ν st ν2 st2:=
 ⟨λd hd u h=>by
  obtain⟨w,h1,B,z⟩:=b.pin d (by rw[a.pins];omega) u h
  obtain⟨ob,k1,C,A⟩:=a.pin d hd w h1;exact⟨ob,k1,by simp_all,A.trans z⟩,by rw[b.pins,a.pins],by rw[b.more,a.more],by rw[b.yid,a.yid]⟩
theorem Ev.beside (y:Yc S J st.more st.yid) (a:Ev (λ_=>False) ν Z st H ν' Z' st' H') (B:st'.want=st.want) (j:J st.want (eT ν st.m) Z H):J st'.want (eT ν' st'.m) Z' H':=by
 rw[B];exact y.uQ _ _ _ _ _ _ _ j a.len (λi h1 u w=>a.same i h1 u w (λh=>h)) a.rows (λi h=>(a.own i h).imp (λh=>h) (λh=>h.elim (λh=>h.elim) (λh=>h)))
  (λi h=>(a.frz i h).imp (λh=>h) (λh=>h.imp (λh=>h) (λh=>h.elim (λh=>h.elim) (λh=>h))))
theorem uw (D:∀s sv,a_ st.g s=some sv->cS ν m H Z sv (get F s)) {ops:List Oper} {o:Oper} {gd:Option (Nat×Bool)} (hg:A5 ops o=some gd) {t:Bool} (B:wanted st.g gd=some t):fe ops F o=t:=by
 unfold A5 at hg;unfold fe
 cases u:o.guard with
 | none=>
  rw[u]at hg;simp  at hg;simp[wanted]at B;grind
 | some A=>
  rw[u]at hg;obtain⟨d,hd,rfl⟩:=ζf.1 hg;simp[hd];simp[wanted]at B;split at B
  .rename_i c hc;simp  at B;subst B;rw[(D d _ hc).fr.bool]
  .rename_i x C hc;simp  at B;subst B;have w:=(D d _ hc).fr;split
   .rename_i c z;rw[z]at w;cases w
    grind
   .rfl
  grind
theorem LZ {q:Dl} {dst:Option Nat} {args:List SV} {sv:SV} (h:A4 q dst args st=some (sv,st')):st'.want=st.want/\st'.pin=st.pin/\st'.more=st.more/\st'.yid=st.yid:=by
 unfold A4 at h
 grind
theorem ON {dr:Bool} {fr:List Nat} {ro:RO} {sv:SV} (h:lH S c dr fr ro st=some (sv,st')):st'.want=st.want/\st'.pin=st.pin/\st'.more=st.more/\st'.yid=st.yid:=by
 unfold lH at h;split at h
 .split at h
  .split at h
   .split at h
    .simp at h
    .unfold zk at h;split at h
     .split at h
      .obtain⟨_,_,h⟩:=ζg.1 h;obtain⟨_,_,h⟩:=ζg.1 h;dsimp only at h;split at h
       .simp only[ζa,ζc]at h;obtain⟨_,rfl⟩:=h;exact⟨rfl,rfl,rfl,rfl⟩
       .simp at h
      .simp at h
     .simp at h
   .obtain⟨_,_,e⟩:=ζf.1 h;simp only[ζc]at e;obtain⟨_,rfl⟩:=e;exact⟨rfl,rfl,rfl,rfl⟩
  .obtain⟨_,_,e⟩:=ζf.1 h;simp only[ζc]at e;obtain⟨_,rfl⟩:=e;exact⟨rfl,rfl,rfl,rfl⟩
  .split at h
   .obtain⟨_,_,e⟩:=ζf.1 h;simp only[ζc]at e;obtain⟨_,rfl⟩:=e;exact⟨rfl,rfl,rfl,rfl⟩
   .simp at h
  .split at h
   .split at h
    .obtain⟨_,_,e⟩:=ζf.1 h;simp only[ζc]at e;obtain⟨_,rfl⟩:=e;exact⟨rfl,rfl,rfl,rfl⟩
    .simp at h
   .simp at h
  .split at h
   .unfold lC at h
    (repeat' split at h) <;> first|(simp at h;done)|(simp only[ζa,ζc]at h;obtain⟨_,rfl⟩:=h;exact⟨rfl,rfl,rfl,rfl⟩)|(obtain⟨_,_,e⟩:=ζf.1 h;simp only[ζc]at e;obtain⟨_,rfl⟩:=e;exact⟨rfl,rfl,rfl,rfl⟩)|skip
    .dsimp only at h
     (repeat' split at h) <;> first|(simp at h;done)|(simp only[ζa,ζc]at h;obtain⟨_,rfl⟩:=h;exact⟨rfl,rfl,rfl,rfl⟩)
   .simp at h
  .have hc:∀{dst dr now u f args},eB S c dst dr now u f args st=some (sv,st')->st'.want=st.want/\st'.pin=st.pin/\st'.more=st.more/\st'.yid=st.yid:=by
    intro dst dr now u f args h;unfold eB at h
    (repeat' split at h) <;> first|exact LZ h|(obtain⟨_,_,e⟩:=ζf.1 h;simp only[ζc]at e;obtain⟨_,rfl⟩:=e;exact⟨rfl,rfl,rfl,rfl⟩)|(simp at h;done)|(simp only[ζa,ζc]at h;obtain⟨_,rfl⟩:=h;exact⟨rfl,rfl,rfl,rfl⟩)
   split at h
   .exact hc h
   .exact hc h
   .simp at h
  .split at h
   .simp at h
   .split at h
    .obtain⟨_,_,h⟩:=ζg.1 h;obtain⟨_,_,e⟩:=ζf.1 h;simp only[ζc]at e;obtain⟨_,rfl⟩:=e;exact⟨rfl,rfl,rfl,rfl⟩
    .simp at h
  .have z:∀{dst l w},lC st dst l w=some (sv,st')->st'.want=st.want/\st'.pin=st.pin/\st'.more=st.more/\st'.yid=st.yid:=by
    intro dst l w h;unfold lC at h
    (repeat' split at h) <;> first|(simp at h;done)|(simp only[ζa,ζc]at h;obtain⟨_,rfl⟩:=h;exact⟨rfl,rfl,rfl,rfl⟩)|(obtain⟨_,_,e⟩:=ζf.1 h;simp only[ζc]at e;obtain⟨_,rfl⟩:=e;exact⟨rfl,rfl,rfl,rfl⟩)|skip
    all_goals (dsimp only at h;(repeat' split at h) <;> first|(simp at h;done)|(simp only[ζa,ζc]at h;obtain⟨_,rfl⟩:=h;exact⟨rfl,rfl,rfl,rfl⟩))
   split at h
   .exact z h
   .exact z h
   .simp at h
 .simp at h
theorem z7 (r:R ν Z st F H) {nt:Nat} {dst:Option Nat} (hd:xF nt dst=true) {sv:SV} {y:V} (h:cS ν st.m H Z sv y):∃F',jg nt F dst y=some F'/\R ν Z (cT st dst sv) F' H:=by
 cases dst with
 | none=>exact⟨F,rfl,r⟩
 | some d=>
  have  := by simpa [xF]using hd
  exact⟨set F d y,by simp[jg,if_pos this],r.put h⟩
theorem By (st:St) (dst:Option Nat) (sv:SV):(cT st dst sv).m=st.m/\(cT st dst sv).want=st.want/\(cT st dst sv).pin=st.pin/\(cT st dst sv).more=st.more/\(cT st dst sv).yid=st.yid:=by
 cases dst <;> exact⟨rfl,rfl,rfl,rfl,rfl⟩
theorem Iu (gd:Good X S) (hS:iy S c) {ops:List Oper} {place:Option (Nat×Nat)} {dr:Bool} {fr:List Nat} {i:Nat} (G:dr=place.isSome) (hi:∀b j,place=some (b,j)->j=i)
 (hold:∀b j,place=some (b,j)->b<=H.length/\Old b fr ν Z st.m)
 {o:Oper} {ro:RO} (hc:mw X dr ops i o=some ro) (J:∀b j,place=some (b,j)->ops[j]? = some o) (D:∀b j,place=some (b,j)->cV o.op=.alloc->H[b+j]? = some .free)
 (r:R ν Z st F H) (B:fm S.N st.g ro=none\/dr=true) (h:eZ S c dr fr ro st=some st') :
 ∃n F' H' ν' Z',(∀k,n<=k->fM S.E (run S.E k) X.nt ops place o F H=some (F',H'))/\R ν' Z' st' F' H'/\Ev (λid=>∃b j,place=some (b,j)/\id=b+j) ν Z st H ν' Z' st' H' /\
  (dr=true->Z'=Z/\Kept (yb ro) ν st.m ν' st'.m)/\st'.want=st.want/\Fix ν st ν' st':=by
 have C:=hc;obtain⟨u,g,now,k,az,hg,rfl⟩:=Ct hc;unfold eZ at h;split at h
 .rename_i I;have w:=uw r.slot hg I;have T:(lH S c dr fr ⟨o.dst,g,now,k,az,[],[]⟩ st).map (λ(x,st')=>cT st' o.dst x)=some st':=by
   split at h
   .rename_i id vs A;rcases B with B|B
    .rw[B]at A;cases A
    .subst B;simp at h
   .exact h
  obtain⟨⟨x,L⟩,hd,rfl⟩:=ζf.1 T;obtain⟨n,y,H',ν',Z',e1,e2,e3,e4,e5⟩:=Sh gd hS G hi hold C J D r hd;obtain⟨U,Q,W,Y⟩:=ON hd;obtain⟨F',f1,O⟩:=z7 e2 u e3;obtain⟨p1,p2,p3,p4,p5⟩:=By L o.dst x;refine⟨n,F',H',ν',Z',λk hk=>?_,O,?_,λhd=>⟨(e5 hd).1,by rw[p1];exact(e5 hd).2⟩,by rw[p2,U],⟨λd hd=>by rw[p1];exact e4.pin d hd,by rw[p3,Q],by rw[p4,W],by rw[p5,Y]⟩⟩
  .unfold fM;simp only[w,if_true,e1 k hk,f1,Option.map_some]
  .exact⟨e4.len,e4.same,e4.rows,λid h=>e4.own id (by rw[p1]at h;exact h),e4.frz,λd hd=>by rw[p1];exact e4.pin d hd,by rw[p3,Q]⟩
 .rename_i I;have w:=uw r.slot hg I;simp only[ζa]at h;subst h;obtain⟨F',f1,O⟩:=z7 r u (.v V.undef V.undef (.same _ rfl));obtain⟨p1,p2,p3,p4,p5⟩:=By st o.dst (.v .undef);refine⟨0,F',H,ν,Z,λk _=>?_,O,?_,λ_=>⟨rfl,by rw[p1];exact .refl⟩,p2,⟨λd hd=>by rw[p1];exact λz h=>⟨z,h,rfl,.refl _⟩,p3,p4,p5⟩⟩
  .unfold fM;simp only[w,Bool.false_eq_true,if_false,f1,Option.map_some]
  .exact⟨Nat.le_refl _,λ_ _ _ _ _=>rfl,λ_ h=>⟨h,rfl⟩,λ_ h=>.inl (by rw[p1]at h;exact h),λ_ h=>.inl h,λd hd=>by rw[p1];exact λz h=>⟨z,h,rfl,.refl _⟩,p3⟩
 .simp at h
theorem OR (gd:Good X S) (y:Yc S J st.more st.yid) {ops:List Oper} {fr:List Nat} {i:Nat} {o:Oper} {ro:RO} (hc:mw X false ops i o=some ro)
 (r:R ν Z st F H) (j:J st.want (eT ν st.m) Z H) {id:Nat} {vs:List SV} (B:fm S.N st.g ro=some (id,vs)) (D:wanted st.g ro.gd=some true) (h:eZ S c false fr ro st=some st') :
 ∃n F' H',(∀k,n<=k->fM S.E (run S.E k) X.nt ops none o F H=some (F',H'))/\R ν Z st' F' H'/\J st'.want (eT ν st'.m) Z H'/\Fix ν st ν st':=by
 unfold mw at hc;simp only[Bool.false_and,Bool.false_eq_true,if_false]at hc;split at hc
 .rename_i A;split at hc
  .rename_i g k os hg hr;split at hc
   .obtain⟨az,T,rfl⟩:=ζf.1 hc;unfold eZ at h;simp only at D;have I:=uw r.slot hg D;rw[D]at h;simp only[B,Bool.false_eq_true,if_false]at h;unfold fm at B;split at B
    .rename_i U W hk C;simp only[ζa,ζc]at B;obtain⟨rfl,rfl⟩:=B;simp only at hk C;subst hk;obtain⟨ys,L,rs⟩:=oQ gd.N r.slot T C;obtain⟨g1,f',Y,e1,e2⟩:=jT gd.N hr L;obtain⟨w,ws,ew,r1,r2⟩:=rs.inv;rw[ew]at e1;simp only[List.cons.injEq]at e1;obtain⟨rfl,rfl⟩:=e1;cases r1;simp only at e2;split at h
     .rename_i xs x G hx u;split at h
      .rename_i z;obtain⟨rfl,rfl⟩:=z;simp only[ζa]at h;subst h;rw[u]at j;obtain⟨n,H',p1,p2,p3,p4,p5⟩:=y.yield _ _ _ _ _ _ j (r2.cZ hx) r.zrow r.deep (λi hi=>⟨by obtain⟨d,ob,h1,h2,rfl⟩:=hi;exact r.apart d ob h1 h2,r.lt hi⟩)
       have r3:R ν Z st F H':=r.heap p4 p5;have r4:R ν Z { st with want:=G } F H':=⟨r3.slot,r3.obj,r3.inj,r3.apart,r3.zrow,r3.deep⟩;obtain⟨F',f1,f2⟩:=z7 (st:={ st with want:=G }) r4 A (sv:=.v (.bool (st.more || !G.isEmpty))) (.v _ _ (.same _ rfl));obtain⟨Q,q2,q3,q4,q5⟩:=By { st with want:=G } o.dst (.v (.bool (st.more || !G.isEmpty)));refine⟨n,F',H',λk hk=>?_,f2,by rw[Q,q2];exact p2,⟨λd hd=>by rw[Q];exact λO h=>⟨O,h,rfl,.refl _⟩,q3,q4,q5⟩⟩
       unfold fM c6;rw[g1,e2];simp only[I,if_true,(nI S.E hk).go _ _ _ _ p1,f1,Option.map_some]
      .simp at h
     .simp at h
    .simp at B
   .simp at hc
  .simp at hc
 .simp at hc
def j_ (X:CX) (B:Bool) (ops:List Oper):Nat->List Oper->Option (List RO)
 | _,[]=>some []
 | i,o::r=>match mw X B ops i o,j_ X B ops (i+1) r with
  | some ro,some rs=>some (ro::rs)
  | _,_=>none
theorem R.xB (r:R ν Z st F H) (ds:List Nat):R ν Z (og ds st) F H:=r.less   (λs w u=>nC u) (λd ob hd=>hd)
theorem Fix.xB {ds:List Nat} (f:Fix ν (og ds st) ν' st'):Fix ν st ν' st':=⟨f.pin,f.pins,f.more,f.yid⟩
theorem Fix.ghost (r:R ν Z st F H) (y:Yc S J st.more st.yid) (j:J st.want (eT ν st.m) Z H) {x:Gh} (h:ghost x st=some st'):∃ν' Z',R ν' Z' st' F H/\J st'.want (eT ν' st'.m) Z' H/\Fix ν st ν' st':=by
 obtain⟨ν',Z',h1,u⟩:=Nt (Rv:=λ_=>False) r h
 have w:st'.want=st.want/\st'.more=st.more/\st'.yid=st.yid:=by
  unfold Go.VE.ghost yQ at h
  (repeat' split at h) <;> first|grind|grind
 exact⟨ν',Z',h1,u.beside y w.1 j,⟨u.pin,u.pins,w.2.1,w.2.2⟩⟩
theorem Fix.quiet (r:R ν Z st F H):∀{l:List Gh} {st':St},l.all zh=true->Go.VE.nK l st=some st'->R ν Z st' F H/\Ev Rv ν Z st H ν Z st' H/\st'.want=st.want/\Fix ν st ν st'/\∀d ob,a_ st'.m d=some ob->a_ st.m d=some ob:=by
 intro l
 induction l generalizing st with
 | nil=>intro st' _ h;simp[Go.VE.nK]at h;subst h;exact⟨r,.refl,rfl,.refl,λ_ _ h=>h⟩
 | cons x l B=>
  intro st' z h;simp only[List.all_cons,ζh]at z;obtain⟨s1,h1,C⟩:=ζg.1 h;have key:∃g m,s1={ st with g:=g,m:=m }/\(∀s u,a_ g s=some u->a_ st.g s=some u)/\∀d ob,a_ m d=some ob->a_ st.m d=some ob:=by
   cases x with
   | keep gs S=>
    simp[Go.VE.ghost]at h1;split at h1
    .rename_i g m hg D;simp  at h1;subst h1;exact⟨g,m,rfl,λs u A=>o9 hg A,λd ob hd=>o9 D hd⟩
    grind
   | drop ds=>
    simp[Go.VE.ghost]at h1;subst h1;exact⟨_,st.m,rfl,λs u A=>nC A,λ_ _ h=>h⟩
   | _=>simp[zh]at z
  obtain⟨g,m,rfl,G,w⟩:=key;obtain⟨I,J,L,O,Q⟩:=B (r.less   G w) z.2 C;exact⟨I,(Ev.less   w).trans J,L,Fix.trans  (st':={ st with g:=g,m:=m }) ⟨λd _ ob h=>⟨ob,w d ob h,rfl,.refl _⟩,rfl,rfl,rfl⟩ O,λd ob h=>w d ob (Q d ob h)⟩
theorem Fix.nK:∀{l:List Gh} {ν:Nu} {Z:Nat->Prop} {st st':St},R ν Z st F H->Yc S J st.more st.yid->J st.want (eT ν st.m) Z H->nK l st=some st'->∃ν' Z',R ν' Z' st' F H/\J st'.want (eT ν' st'.m) Z' H/\Fix ν st ν' st'
 | [],ν,Z,st,st',r,y,j,h=>by simp[Go.VE.nK]at h;subst h;exact⟨ν,Z,r,j,.refl⟩
 | x::l,ν,Z,st,st',r,y,j,h=>by
  obtain⟨B,h1,D⟩:=ζg.1 h;obtain⟨A,C,r1,u,f1⟩:=Fix.ghost r y j h1;obtain⟨ν2,Z2,r2,w,z⟩:=Fix.nK r1 (by rw[f1.more,f1.yid];omega) u D
  exact⟨ν2,Z2,r2,w,f1.trans z⟩
theorem Oy (gd:Good X S) (hS:iy S c) {ops:List Oper} {fr:List Nat} {i:Nat} {o:Oper} {ro:RO} {B:St} (h1:mw X false ops i o=some ro) (y:Yc S J st.more st.yid) (r:R ν Z st F H) (j:J st.want (eT ν st.m) Z H) (D:eZ S c false fr ro st=some B) :
 ∃n F' H' ν' Z',(∀k,n<=k->fM S.E (run S.E k) X.nt ops none o F H=some (F',H'))/\R ν' Z' B F' H'/\J B.want (eT ν' B.m) Z' H'/\Fix ν st ν' B:=by
 by_cases I:wanted st.g ro.gd=some true
 .cases A:fm S.N st.g ro with
  | none=>
   obtain⟨n,F',H',ν',Z',e1,e2,e3,e4,e5,e6⟩:=Iu gd hS (place:=none) rfl (λb j h=>by cases h) (λb j h=>by cases h) h1 (λb j h=>by cases h) (λb j h=>by cases h) r (.inl A) D
   exact⟨n,F',H',ν',Z',e1,e2,(e3.weak (λid ⟨b,j,h,_⟩=>by cases h)).beside y e5 j,e6⟩
  | some p=>
   obtain⟨id,Q⟩:=p;obtain⟨n,F',H',e1,e2,e3,e4⟩:=OR gd y h1 r j A I D;exact⟨n,F',H',ν,Z,e1,e2,e3,e4⟩
 .have u:eZ S c false fr ro st=some B:=D;have L:fm S.N st.g { ro with az:=[] }=none:=by
   unfold fm;simp[bP]
  obtain⟨n,F',H',ν',Z',e1,e2,e3,e4,e5,e6⟩:∃n F' H' ν' Z',(∀k,n<=k->fM S.E (run S.E k) X.nt ops none o F H=some (F',H'))/\R ν' Z' B F' H'/\Ev (λ_=>False) ν Z st H ν' Z' B H'/\True/\B.want=st.want/\Fix ν st ν' B:=by
   unfold eZ at u;split at u
   .rename_i w;exact absurd w I
   .rename_i w;simp only[ζa]at u;subst u;unfold mw at h1;simp only[Bool.false_and,Bool.false_eq_true,if_false]at h1;split at h1
    .rename_i C;split at h1
     .rename_i g k os hg hr;split at h1
      .obtain⟨az,T,rfl⟩:=ζf.1 h1;have G:=uw r.slot hg w;obtain⟨F',f1,O⟩:=z7 r C (.v V.undef V.undef (.same _ rfl));obtain⟨p1,p2,p3,p4,p5⟩:=By st o.dst (.v .undef);refine⟨0,F',H,ν,Z,λk _=>?_,O,?_,trivial,p2,⟨λd hd=>by rw[p1];exact λz h=>⟨z,h,rfl,.refl _⟩,p3,p4,p5⟩⟩
       .unfold fM;simp only[G,Bool.false_eq_true,if_false,f1,Option.map_some]
       .exact⟨Nat.le_refl _,λ_ _ _ _ _=>rfl,λ_ h=>⟨h,rfl⟩,λ_ h=>.inl (by rw[p1]at h;exact h),λ_ h=>.inl h,λd hd=>by rw[p1];exact λz h=>⟨z,h,rfl,.refl _⟩,p3⟩
      .simp at h1
     .simp at h1
    .simp at h1
   .simp at u
  exact⟨n,F',H',ν',Z',e1,e2,e3.beside y e5 j,e6⟩
theorem KR (gd:Good X S) (hS:iy S c) {ops:List Oper} {fr:List Nat}:∀(rest:List Oper) {i:Nat} {B:List RO} {ν:Nu} {Z:Nat->Prop} {st st':St} {F:Frame} {H:bf},j_ X false ops i rest=some (B.map RO.strip)->me S c false fr B st=some st' ->
 Yc S J st.more st.yid->R ν Z st F H->J st.want (eT ν st.m) Z H ->
 ∃n F' H' ν' Z',(∀k,n<=k->kZ S.E (run S.E k) X.nt ops rest F H=some (F',H'))/\R ν' Z' st' F' H'/\J st'.want (eT ν' st'.m) Z' H'/\Fix ν st ν' st'
 | [],i,B,ν,Z,st,st',F,H,hc,h,y,r,j=>by
  simp only[j_,ζa]at hc;have  := List.map_eq_nil_iff.1 hc.symm;subst this;simp[me]at h;subst h;exact⟨0,F,H,ν,Z,λ_ _=>rfl,r,j,.refl⟩
 | o::rest,i,B,ν,Z,st,st',F,H,hc,h,y,r,j=>by
  simp[j_]at hc;split at hc
  .rename_i Q rs h1 T;obtain⟨u,w,rfl,A,C⟩:∃u w,B=u::w/\Q=u.strip/\rs=w.map RO.strip:=by
    cases B with
    | nil=>simp_all
    | cons a b=>grind
   subst C;simp[me,<-A]at h;split at h
   .rename_i z D;obtain⟨U,G,D⟩:=ζg.1 D;obtain⟨νg,Zg,rg,W,I⟩:=Fix.nK r y j G;obtain⟨Y,F1,H1,ν1,Z1,a1,a2,a3,L⟩:=Oy gd hS h1 (by rw[I.more,I.yid];omega) rg W D
    have O:=I.trans L;obtain⟨n2,F2,H2,ν2,Z2,b1,b2,b3,b4⟩:=KR gd hS rest T h (by show Yc S J z.more z.yid;rw[O.more,O.yid];omega) (R.xB a2 u.dead) a3
    refine⟨max Y n2,F2,H2,ν2,Z2,λk hk=>?_,b2,b3,O.trans (Fix.xB b4)⟩
    simp[kZ,a1 k (Nat.le_trans (Nat.le_max_left _ _) hk),b1 k (Nat.le_trans (Nat.le_max_right _ _) hk)]
   grind
  grind
theorem Old.next {b:Nat} {fr:List Nat} {o:RO} (h:Old b fr ν Z m) (hk:Kept (yb o) ν m ν' m'):Old b (pO fr o) ν' Z m':=by
 refine⟨λd ob hd C w=>?_,h.2⟩
 have z:d∉fr:=λI=>w (by
  unfold pO
  grind)
 have A:yb o≠some d:=λe=>w (by unfold pO;grind)
 obtain⟨u,h1,D,G⟩:=hk d ob A hd;have B:cm u=true:=by
  cases u <;> cases ob <;> simp[sameShape]at G <;> first|rfl|(simp[cm]at C ⊢;grind)
 rw[D];exact h.1 d u h1 B z
theorem Cy (r:R ν Z st F H) {id:Nat} (h:eT ν st.m id):H[id]? ≠ some .free:=by
 obtain⟨d,ob,h1,u,rfl⟩:=h;have:=r.obj d ob h1
 cases ob with
 | sl k es B=>
  simp[cm]at u;simp[dN,u]at this
  grind
 | box cs=>obtain⟨es,z,hr,_⟩:=this;grind
 | mp A=>obtain⟨w,hr,_⟩:=this;grind
theorem Kl (r:R ν Z st F H) {id:Nat} (h:Z id):H[id]? ≠ some .free:=λe=>by
 have:=r.zrow id h;unfold bl at this;rw[e]at this;simp[Ob.rows]at this
theorem Ev.xB {ds:List Nat} (e:Ev Rv ν Z (og ds st) H ν' Z' st' H'):Ev Rv ν Z st H ν' Z' st' H':=⟨e.len,e.same,e.rows,e.own,e.frz,e.pin,e.pins⟩
theorem LW (gd:Good X S) (hS:iy S c) {ops:List Oper} {b k:Nat} (D:qt ops=true->k=ops.length):∀(len:Nat) {i:Nat} {B:List RO} {fr:List Nat} {ν:Nu} {Z:Nat->Prop} {st st':St} {F:Frame} {H:bf},
 i+len=ops.length->j_ X true ops i (ops.drop i)=some (B.map RO.strip)->me S c true fr B st=some st'->R ν Z st F H->b<=H.length->Old b fr ν Z st.m->(∀j,i<=j->j<k->H[b+j]? = some .free) ->
 ∃n F' H' ν',(∀q,n<=q->jf S.E (run S.E q) X.nt ops b (List.range' i len) F H=some (F',H'))/\R ν' Z st' F' H'/\Ev (λid=>b<=id) ν Z st H ν' Z st' H'/\st'.want=st.want/\Fix ν st ν' st'
 | 0,i,B,fr,ν,Z,st,st',F,H,hl,hc,h,r,hb,G,hf=>by
  rw[List.drop_of_length_le (by omega)]at hc
  simp only[j_,ζa]at hc;have:B=[]:=List.map_eq_nil_iff.1 hc.symm;subst this;simp[me]at h;subst h;exact⟨0,F,H,ν,λ_ _=>rfl,r,.refl,rfl,.refl⟩
 | len+1,i,B,fr,ν,Z,st,st',F,H,hl,hc,h,r,hb,G,hf=>by
  have hi:i<ops.length:=by omega
  have hg  := ζd hi;rw[List.drop_eq_getElem_cons hi]at hc;simp[j_]at hc;split at hc
  .rename_i ro rs h1 h2;obtain⟨u,w,rfl,O,Q⟩:∃u w,B=u::w/\ro=u.strip/\rs=w.map RO.strip:=by
    cases B with
    | nil=>simp_all
    | cons a b=>grind
   subst Q;simp only[me,<-O]at h;split at h
   .rename_i aa T;obtain⟨U,z,T⟩:=ζg.1 T;simp only[Ba,if_true]at z;split at z
    rotate_left
    .simp_all
    rename_i J;obtain⟨rg,eg,wg,fg,sg⟩:=Fix.quiet r J z;have G:Old b fr ν Z U.m:=⟨λd ob hd=>G.1 d ob (sg d ob hd),G.2⟩
    obtain⟨n1,F1,H1,ν1,Z1,a1,a2,a3,a4,a5,a6⟩:=Iu gd hS (place:=some (b,i))  rfl (λL j e=>by grind) (λL j e=>by grind) h1 (λL j e=>by grind) (λL j e ab=>by
     have:qt ops=true:=by
      unfold qt
      grind
     grind) rg (.inr rfl) T
    obtain⟨rfl,A⟩:=a4 rfl;have I  := a3.weak λid ⟨L,j,e,h⟩=>by cases e;omega
    obtain⟨n2,F2,H2,ν2,b1,b2,b3,b4,b5⟩:=LW gd hS D len (by omega) h2 h (R.xB a2 u.dead) (Nat.le_trans hb a3.len) (G.next A) (λj ad W=>by
     have C:=hf j (by omega) W
     have Y:=(ζe.1 C).1;rw[I.same (b+j) Y (λh=>Cy rg h C) (λh=>Kl rg h C) (by omega)]
     omega)
    refine⟨max n1 n2,F2,H2,ν2,λq J=>?_,b2,eg.trans ((I.weak λid e=>by omega).trans (Ev.xB b3)),by rw[b4,<-wg];exact a5,fg.trans (a6.trans (Fix.xB b5))⟩
    simp[List.range'_succ,jf,hg,a1 q (Nat.le_trans (Nat.le_max_left _ _) J),b1 q (Nat.le_trans (Nat.le_max_right _ _) J)]
   grind
  grind
end
end Go.VE
namespace Go.VE
variable [bN]
def bJ (X:CX):Bool->Code->Option RC
 | _,.skip=>some .skip
 | _,.label _=>some .skip
 | _,.region _ ops B=>
  if B then(if vk ops.toList&&zF ops.toList then(j_ X true ops.toList 0 ops.toList).map .ru else none)
  else(j_ X false ops.toList 0 ops.toList).map .ops
 | ro,.seq a b=>match bJ X ro a,bJ X ro b with
  | some a,some b=>some (.seq a b)
  | _,_=>none
 | ro,.cond c a b=>match ou X.nm c,bJ X ro a,bJ X ro b with
  | some x,some a,some b=>some (.cond x a b)
  | _,_,_=>none
 | ro,.block id c=>(bJ X ro c).map (.block id)
 | ro,.loop c=>(bJ X ro c).map .loop
 | ro,.rangeFunc g ps D G=>
  if ro || !(ps.toList.all (·<X.nt))then none else
  match ou X.nm g,bJ X true D,bJ X true G with
  | some x,some a,some b=>some (.each x ps.toList a b)
  | _,_,_=>none
 | _,.exit id=>some (.exit id)
 | _,.ret=>some .ret
 | _,_=>none
def erase:RC->RC
 | .seq a b=>.seq (erase a) (erase b)
 | .cond x a b=>.cond x (erase a) (erase b)
 | .block id c=>.block id (erase c)
 | .loop c=>.loop (erase c)
 | .each g ps a b=>.each g ps (erase a) (erase b)
 | .gh _ c=>erase c
 | .hg c _=>erase c
 | .ops l=>.ops (l.map RO.strip)
 | .ru l=>.ru (l.map RO.strip)
 | c=>c
def iH (step:St->Option (Out×St)):Nat->St->Option (Out×St)
 | 0,_=>none
 | k+1,st=>match step st with
  | some (.norm,st')=>iH step k st'
  | r=>r
open Classical in
noncomputable def nu (step:St->Option (Out×St)) (st:St):Option (Out×St):=
 if h:∃k r,iH step k st=some r then some (Classical.choose (Classical.choose_spec h))else none
theorem xX {step:St->Option (Out×St)}:∀{k B:Nat} {st:St} {r:Out×St},k<=B->iH step k st=some r->iH step B st=some r
 | 0,_,_,_,_,h=>by simp[iH]at h
 | k+1,0,_,_,hk,_=>by omega
 | k+1,B+1,st,r,hk,h=>by
  simp only[iH]at h ⊢;split at h
  .rename_i st' D;rw[xX (Nat.le_of_succ_le_succ hk) h]
  .exact h
theorem lR {step:St->Option (Out×St)} {st:St} {r:Out×St}:nu step st=some r↔∃k,iH step k st=some r:=by
 unfold nu;constructor
 .intro h;split at h
  .rename_i u;simp only[ζa]at h;exact⟨_,by rw[<-h];exact Classical.choose_spec (Classical.choose_spec u)⟩
  .simp at h
 .rintro⟨k,hk⟩;have u:∃k r,iH step k st=some r:=⟨k,r,hk⟩;rw[dif_pos u];have z:=Classical.choose_spec (Classical.choose_spec u);have A:=xX (Nat.le_max_left (Classical.choose u) k) z;have w:=xX (Nat.le_max_right (Classical.choose u) k) hk;rw[A]at w;exact w
def hG (ps:List Nat) (A B:St->Option (Out×St)) (st:St) (x:List V) (m:Tb bu):Option (Out×Tb bu):=
 if x.length=ps.length then
  match A { g:=vz st.g ps (x.map .v),m:=m,pin:=st.pin++oA st.g,want:=[],more:=true,yid:=0 } with
  | some (.norm,u)=>(B u).map λ(o,st2)=>(o,st2.m)
  | _=>none
 else none
def oV (step:List V->Tb bu->Option (Out×Tb bu)):List (List V)->Tb bu->Option (Out×Tb bu)
 | [],m=>some (.norm,m)
 | x::xs,m=>match step x m with
  | some (.norm,m')=>oV step xs m'
  | r=>r
noncomputable def cu (S:Sys) (c:bS):RC->St->Option (Out×St)
 | .skip,st=>some (.norm,st)
 | .ops l,st=>(me S c false [] l st).map λst=>(.norm,st)
 | .ru l,st=>(me S c true [] l st).map λst=>(.norm,st)
 | .seq a b,st=>match cu S c a st with
  | some (.norm,st')=>cu S c b st'
  | r=>r
 | .cond x a b,st=>match pI S.N st.g x with
  | some (.v (.bool t))=>if t then cu S c a st else cu S c b st
  | _=>none
 | .block id a,st=>match cu S c a st with
  | some (.exit B,st')=>if B=id then some (.norm,st')else some (.exit B,st')
  | r=>r
 | .loop a,st=>nu (cu S c a) st
 | .each g ps a b,st=>match pI S.N st.g g with
  | some (.v (.clo f x y))=>match S.items f x y with
   | some xs=>(oV (hG ps (cu S c a) (cu S c b) st) xs st.m).map λ(o,m)=>(o,{ st with m:=m })
   | none=>none
  | _=>none
 | .exit id,st=>some (.exit id,st)
 | .ret,st=>some (.ret,st)
 | .gh x a,st=>(ghost x st).bind (cu S c a)
 | .hg a x,st=>match cu S c a st with
  | some (.norm,st')=>(ghost x st').map λst=>(.norm,st)
  | r=>r
def dZ (S:Sys) (f:FuncId) (a b:List V) (xs:List (List V)):Prop:=
 ∀u more,(more=true/\u=xs\/more=false/\u≠[]/\∃r,xs=u++r)->∀yid J,Yc S J more yid->∀Z w z H,cW H Z a w->cW H Z b z->(∀i,Z i->(bl H i).isSome=true)->Deep H Z->J u (λ_=>False) Z H ->
  ∃n y H' A Z',(∀k,n<=k->run S.E k (.fn f) (w++.yld yid::z) H=some (y,H'))/\J [] A Z' H'
section
variable {ν ν' ν2:Nu} {Z Z':Nat->Prop} {st st' st2:St} {m m':Tb bu} {F F':Frame} {H H' H1:bf} {S:Sys} {c:bS} {X:CX} {J:JT}
end
end Go.VE
namespace Go.VE
variable [bN]
inductive vv (step:List V->Tb bu->Option (Out×Tb bu)) (o:Out) (mf:Tb bu):List (List V)->Bool->Tb bu->Prop
 | nil (h:o=.norm):vv step o mf [] true mf
 | next (x:List V) (ws:List (List V)) (more:Bool) (m m1:Tb bu) (h:step x m=some (.norm,m1)) (r:vv step o mf ws more m1):vv step o mf (x::ws) more m
 | last (x:List V) (m:Tb bu) (h:step x m=some (o,mf)) (ho:o≠.norm):vv step o mf [x] false m
theorem B2 {step:List V->Tb bu->Option (Out×Tb bu)} {o:Out} {D:Tb bu}:∀{xs:List (List V)} {m:Tb bu},oV step xs m=some (o,D) ->
 ∃B more,(more=true/\B=xs\/more=false/\B≠[]/\∃r,xs=B++r)/\vv step o D B more m
 | [],m,h=>by
  obtain⟨rfl,rfl⟩:=h;exact⟨[],true,.inl ⟨rfl,rfl⟩,.nil rfl⟩
 | x::xs,m,h=>by
  simp[oV]at h;split at h
  .rename_i m' u;obtain⟨B,more,hc,hr⟩:=B2 h;refine⟨x::B,more,?_,.next x B more m m' u hr⟩
   grind
  .refine⟨[x],false,.inr ⟨rfl,by simp,xs,rfl⟩,.last x m h λe=>?_⟩
   simp_all
def tw (O0 Z0:Nat->Prop) (H0:bf):JT:=λw O Z H=>w=[]/\H0.length<=H.length/\(∀i,i<H0.length->¬O0 i->¬Z0 i->H[i]? = H0[i]?)/\(∀i,Z0 i->Z i/\bl H i=bl H0 i) /\
 (∀i,O i->O0 i\/H0.length<=i)/\(∀i,Z i->Z0 i\/O0 i\/H0.length<=i)
section
variable {ν ν' ν2:Nu} {Z Z':Nat->Prop} {st st' st2:St} {m m':Tb bu} {F F':Frame} {H H' H1:bf} {S:Sys} {c:bS} {X:CX} {J:JT} {O0 Z0:Nat->Prop} {H0:bf}
theorem tw.uQ {w:List (List V)} {O Z B Z':Nat->Prop} {H H':bf} (j:tw O0 Z0 H0 w O Z H) (D:H.length<=H'.length) (G:∀i,i<H.length->¬O i->¬Z i->H'[i]? = H[i]?) (hr:∀i,Z i->Z' i/\bl H' i=bl H i)
 (J:∀i,B i->O i\/H.length<=i) (T:∀i,Z' i->Z i\/O i\/H.length<=i):tw O0 Z0 H0 w B Z' H':=by
 obtain⟨u,z,C,A,I,L⟩:=j;refine⟨u,Nat.le_trans z D,λi h1 Q S=>?_,λi h=>⟨(hr i (A i h).1).1,by grind⟩,λi h=>?_,λi h=>?_⟩
 .grind
 .grind
 grind
theorem tw.yc {more:Bool} {yid:Nat}:Yc S (tw O0 Z0 H0) more yid where
 uQ:=λ_ _ _ _ _ _ _ j h1 u w z A=>j.uQ h1 u w z A
 yield:=λx B O Z H args j=>by obtain⟨h,_⟩:=j;cases h
theorem tw.refl (r:R ν Z st F H):tw (eT ν st.m) Z H [] (eT ν st.m) Z H:=⟨rfl,Nat.le_refl _,λ_ _ _ _=>rfl,λi h=>⟨h,rfl⟩,λi h=>.inl h,λi h=>.inl h⟩
mutual
theorem BI {d:Nat}:∀{sv:SV},sv.cM d=true->d∈sv.names
 | .v _,h=>by simp[SV.cM]at h
 | .own e,h=>by simp[SV.cM]at h;simp[SV.names,h]
 | .ptr e _,h=>by simp[SV.cM]at h;simp[SV.names,h]
 | .el e _ _,h=>by simp[SV.cM]at h;simp[SV.names,h]
 | .mp e,h=>by simp[SV.cM]at h;simp[SV.names,h]
 | .clo f a b,h=>by
  simp only[SV.cM,Bool.or_eq_true]at h;simp only[SV.names,List.mem_append];exact h.imp pM pM
 | .tup l,h=>by simp only[SV.cM]at h;simp only[SV.names];exact pM h
 | .agg l,h=>by simp only[SV.cM]at h;simp only[SV.names];exact pM h
 | .yl _,h=>by simp[SV.cM]at h
theorem pM {d:Nat}:∀{l:List SV},SV.di d l=true->d∈SV.uO l
 | [],h=>by simp[SV.di]at h
 | x::r,h=>by
  simp only[SV.di,Bool.or_eq_true]at h;simp only[SV.uO,List.mem_append];exact h.imp BI pM
end
theorem AK {d:Nat}:∀{g:Tb SV} {s:Nat} {sv:SV},a_ g s=some sv->sv.cM d=true->d∈oA g
 | [],s,sv,h,_=>by simp[a_]at h
 | (k,x)::r,s,sv,h,B=>by
  simp[a_]at h;simp[oA];split at h
  .simp  at h;subst h;exact .inl (BI B)
  .exact .inr (AK h B)
theorem R.T3 (r:R ν Z st F H) {Z2:Nat->Prop} (h1:∀i,Z2 i->¬eT ν st.m i) (D:∀i,Z2 i->(bl H i).isSome=true) (G:Deep H Z2):R ν (λi=>Z i\/Z2 i) st F H:=by
 have w:∀i,Z i->(Z i\/Z2 i)/\bl H i=bl H i:=λi h=>⟨.inl h,rfl⟩
 have z:∀i,Z2 i->(Z i\/Z2 i)/\bl H i=bl H i:=λi h=>⟨.inr h,rfl⟩
 refine⟨λs I J=>(r.slot s I J).mono w λe _=>hU ν st.m e,λd ob hd=>dN.mono w rfl (λ_=>rfl) (λe _=>hU ν st.m e) (r.obj d ob hd),r.inj,λd ob hd B hh=>?_,λi hi=>?_,⟨λid es C hi hr c hc u hu=>?_⟩⟩
 .rcases hh with hh|hh
  .exact r.apart d ob hd B hh
  .exact h1 _ hh ⟨d,ob,hd,B,rfl⟩
 .exact hi.elim (r.zrow i) (D i)
 .rcases hi with hi|hi
  .obtain⟨x,A⟩:=r.deep.row id es C hi hr c hc u hu;exact⟨x,A.mono w⟩
  .obtain⟨x,A⟩:=G.row id es C hi hr c hc u hu;exact⟨x,A.mono z⟩
theorem R.S8:∀{ps:List Nat} {xs:List V} {vs:List V} {g:Tb SV} {F:Frame},R ν Z { st with g:=g } F H->cW H Z xs vs->xs.length=ps.length->R ν Z { st with g:=vz g ps (xs.map .v) } (wv ps vs F) H
 | [],xs,vs,g,F,r,h,B=>by
  have  := List.length_eq_zero_iff.1 B;subst this;exact r
 | p::ps,[],vs,g,F,r,h,B=>by simp_all
 | p::ps,x::xs,vs,g,F,r,h,B=>by
  obtain⟨w,z,rfl,h1,u⟩:=h.inv;exact R.S8 (ps:=ps) (r.put  (.v _ _ h1)) u (by grind)
def rD (X:CX) (S:Sys) (ro:Bool) (code:Code) (B:St->Option (Out×St)):Prop:=
 ∀st o st',B st=some (o,st')->∀(J:JT) ν Z F H,Yc S J st.more st.yid->R ν Z st F H->J st.want (eT ν st.m) Z H ->
  ∃n F' H' ν' Z',(∀k,n<=k->exec S.E (run S.E k) k ro X.nt code F H=some (o,F',H'))/\R ν' Z' st' F' H'/\J st'.want (eT ν' st'.m) Z' H'/\Fix ν st ν' st'
def Px (st:St) (m:Tb bu):St:={ g:=st.g,m:=m,pin:=st.pin++oA st.g,want:=[],more:=true,yid:=0 }
def JI (X:CX) (st:St) (F:Frame) (ν:Nu) (O0 Z0:Nat->Prop) (H0:bf) (B:Nat) (ps:List Nat) (G J:Code) (step:List V->Tb bu->Option (Out×Tb bu)) (o:Out) (D:Tb bu) (more:Bool):JT:=λw O Z H=>
 ∃m z C u,R z C (Px st m) F H/\tw O0 Z0 H0 [] (eT z m) C H/\(∀i,O i->¬eT z m i/\¬C i/\i≠B/\H0.length<=i)/\(∀i,Z i->¬eT z m i/\i≠B/\(Z0 i\/H0.length<=i)) /\
  ¬eT z m B/\¬C B/\H0.length<=B/\H[B]? = some (.loop u)/\(u.frame=F/\u.nt=X.nt/\u.params=ps/\u.assign=G/\u.body=J) /\
  (∀d∈st.pin++oA st.g,∀A,a_ m d=some A->∃ob,a_ st.m d=some ob/\z d=ν d/\sameShape ob A) /\
  ((vv step o D w more m/\u.st=.ready/\u.pend=none)\/(w=[]/\m=D/\u.st=.done/\u.pend=some o))
theorem JI.uQ {w:List (List V)} {O Z G Z':Nat->Prop} {H H':bf} {B:Nat} {ps:List Nat} {J T:Code} {step:List V->Tb bu->Option (Out×Tb bu)} {o:Out} {U:Tb bu} {more:Bool}
 (j:JI X st F ν O0 Z0 H0 B ps J T step o U more w O Z H) (W:H.length<=H'.length) (D:∀i,i<H.length->¬O i->¬Z i->H'[i]? = H[i]?) (hr:∀i,Z i->Z' i/\bl H' i=bl H i)
 (Y:∀i,G i->O i\/H.length<=i) (hz:∀i,Z' i->Z i\/O i\/H.length<=i):JI X st F ν O0 Z0 H0 B ps J T step o U more w G Z' H':=by
 obtain⟨m,Q,C,S,r,ej,d1,d2,l1,l2,l3,l4,l5,l6,l7⟩:=j;have u  := λi hi=>D i (r.lt  hi) (λh=>(d1 i h).1 hi) (λh=>(d2 i h).1 hi)
 have z:∀i,C i->bl H' i=bl H i:=λi hi=>by
  by_cases A:Z i
  .grind
  .unfold bl;rw[D i (r.uT hi) (λh=>(d1 i h).2.1 hi) A]
 have aa  := (ζe.1 l4).1;refine⟨m,Q,C,S,r.heap u z,?_,λi h=>?_,λi h=>?_,l1,l2,l3,?_,l5,l6,l7⟩
 .obtain⟨j1,I,j3,j4,j5,j6⟩:=ej;refine⟨j1,Nat.le_trans I W,λi h1 h2 L=>?_,λi h=>⟨(j4 i h).1,by grind⟩,j5,j6⟩
  rw[D i (Nat.lt_of_lt_of_le h1 I) (λh=>by have:=(d1 i h).2.2.2;omega) (λh=>by rcases (d2 i h).2.2 with h|h;exact L h;omega),j3 i h1 h2 L]
 .rcases Y i h with h|h
  .exact d1 i h
  .exact⟨λhi=>absurd (r.lt  hi) (by omega),λhi=>absurd (r.uT hi) (by omega),by omega,by omega⟩
 .rcases hz i h with h|h|h
  .exact d2 i h
  .exact⟨(d1 i h).1,(d1 i h).2.2.1,.inr (d1 i h).2.2.2⟩
  .exact⟨λhi=>absurd (r.lt  hi) (by omega),by omega,.inr (by omega)⟩
 grind
theorem JI.yield (S:Sys) {A B:St->Option (Out×St)} {aw bw:Code} (hA:rD X S true aw A) (hB:rD X S true bw B) {D:Nat} {ps:List Nat} (ax:ps.all (·<X.nt)=true) {o:Out} {mf:Tb bu} {more:Bool}
 {x:List V} {ws:List (List V)} {O Z:Nat->Prop} {H:bf} {args:List V} (j:JI X st F ν O0 Z0 H0 D ps aw bw (hG ps A B st) o mf more (x::ws) O Z H)
 (hx:cW H Z x args) (an:∀i,Z i->(bl H i).isSome=true) (ay:Deep H Z) (aA:∀i,O i->¬Z i/\i<H.length) :
 ∃n H',run S.E n (.yld D) args H=some (.bool (more || !ws.isEmpty),H')/\JI X st F ν O0 Z0 H0 D ps aw bw (hG ps A B st) o mf more ws O Z H'/\H.length<=H'.length/\(∀i,O i->H'[i]? = H[i]?)/\(∀i,Z i->bl H' i=bl H i):=by
 obtain⟨m,νb,Zb,lr,r,ej,d1,d2,l1,l2,l3,l4,⟨q1,q2,q3,q4,q5⟩,l6,l7⟩:=j;have aB:vv (hG ps A B st) o mf (x::ws) more m/\lr.st=.ready/\lr.pend=none:=by
  grind
 obtain⟨hE,T,aC⟩:=aB;have U:∃oo m1,hG ps A B st x m=some (oo,m1)/\(oo=.norm/\vv (hG ps A B st) o mf ws more m1/\(more || !ws.isEmpty)=true\/oo≠.norm/\oo=o/\m1=mf/\ws=[]/\more=false):=by
  cases hE with
  | next _ _ _ _ m1 h hr=>
   refine⟨.norm,m1,h,.inl ⟨rfl,hr,?_⟩⟩;cases hr <;> simp
  | last _ _ h ho=>grind
 obtain⟨oo,m1,w,ab⟩:=U;unfold hG at w;split at w
 .rename_i ad;split at w
  .rename_i ah aD;obtain⟨⟨z,st2⟩,aE,e⟩:=ζf.1 w;simp  at e;obtain⟨rfl,rfl⟩:=e;have aF  := (ζe.1 l4).1;have r1  := r.T3 (λi hi=>(d2 i hi).1) an ay
   have aG:cW H (λi=>Zb i\/Z i) x args:=hx.mono λi hi=>⟨.inr hi,rfl⟩
   have r2:=R.S8 (st:=Px st m) r1 aG ad;obtain⟨nA,F2,H2,ν2,Z2,a1,a2,a3,a4⟩:=hA _ _ _ aD (tw (eT νb m) (λi=>Zb i\/Z i) H) νb _ _ H tw.yc r2 (tw.refl  r1)
   obtain⟨b1,b2,b3,b4,b5,b6⟩:=a3;have ai:¬(Zb D\/Z D):=λh=>h.elim l2 λh=>(d2 D h).2.1 rfl
   have ao:H2[D]? = some (.loop lr):=by rw[b3 D aF l1 ai];omega
   have ae:D<H2.length:=by omega
   have W:¬eT ν2 ah.m D:=λh=>(b5 D h).elim l1 λh=>by omega
   have aj:¬Z2 D:=λh=>by rcases b6 D h with h|h|h;exact ai h;exact l1 h;omega
   have u:∀(ob:Ob) (Hh:bf) (i:Nat),i≠D->(Hh.set D ob)[i]? = Hh[i]? := λob Hh i Y=>by rw[List.getElem?_set,if_neg (Ne.symm Y)]
   have r3:R ν2 Z2 ah F2 (H2.set D (.loop { lr with st:=.busy })):=a2.heap (λi hi=>u _ _ i λe=>W (e▸hi)) (λi hi=>by unfold bl;rw[u _ _ i λe=>aj (e▸hi)])
   obtain⟨nB,F4,H4,ν4,Z4,c1,c2,c3,c4⟩:=hB _ _ _ aE (tw (eT ν2 ah.m) Z2 (H2.set D (.loop { lr with st:=.busy }))) ν2 Z2 F2 _ tw.yc r3 (by
    rw[b1];exact tw.refl r3)
   obtain⟨_,g2,g3,g4,g5,g6⟩:=c3;simp  at g2 g3 g5 g6;have ap:H4[D]? = some (.loop { lr with st:=.busy }):=by rw[g3 D ae W aj,List.getElem?_set_self ae]
   have aq:D<H4.length:=by omega
   have ar  := λh=>(g5 D h).elim W λh=>by omega
   have au:¬Z4 D:=λh=>by rcases g6 D h with h|h|h;exact aj h;exact W h;omega
   generalize aa:({ lr with st:=(if z==.norm then AG.ready else AG.done),pend:=(if z==.norm then none else some z) }:uD)=G;have r5:R ν4 Z4 st2 F4 (H4.set D (.loop G)):=c2.heap (λi hi=>u _ _ i λe=>ar (e▸hi)) (λi hi=>by unfold bl;rw[u _ _ i λe=>au (e▸hi)])
   have L:H.length<=(H4.set D (.loop G)).length:=by simp ;omega
   have ak:∀i,i<H.length->i≠D->¬eT νb m i->¬(Zb i\/Z i)->(H4.set D (.loop G))[i]? = H[i]? := λi h1 J I h4=>by
    rw[u _ _ i J,g3 i (by omega) (λh=>(b5 i h).elim I λh=>by omega) (λh=>by rcases b6 i h with h|h|h;exact h4 h;exact I h;omega),u _ _ i J,b3 i h1 I h4]
   have C:∀i,(Zb i\/Z i)->Z4 i/\bl (H4.set D (.loop G)) i=bl H i:=λi hi=>by
    have Y:i≠D:=λe=>ai (e▸hi)
    obtain⟨t1,t2⟩:=b4 i hi;obtain⟨t3,t4⟩:=g4 i t1;refine⟨t3,?_⟩;rw[<-t2];have:bl (H2.set D (.loop { lr with st:=.busy })) i=bl H2 i:=by unfold bl;rw[u _ _ i Y]
    rw[<-this,<-t4];unfold bl;rw[u _ _ i Y]
   have Q:∀i,eT ν4 st2.m i->eT νb m i\/H.length<=i:=λi hi=>by
    rcases g5 i hi with h|h
    .exact b5 i h
    .exact .inr (by omega)
   have af:∀i,Z4 i->(Zb i\/Z i)\/eT νb m i\/H.length<=i:=λi hi=>by
    rcases g6 i hi with h|h|h
    .exact b6 i h
    .rcases b5 i h with h|h
     .exact .inr (.inl h)
     .exact .inr (.inr h)
    .exact .inr (.inr (by omega))
   have fx:=a4.trans c4;have r6:R ν4 Z4 (Px st st2.m) F (H4.set D (.loop G)):=⟨λs sv hs=>(r.slot s sv hs).mono (λi hi=>C i (.inl hi)) λd hd al am=>fx.pin d (List.mem_append_right _ (AK hs hd)) al am,r5.obj,r5.inj,r5.apart,r5.zrow,r5.deep⟩
   have av:run S.E (max nA nB+1) (.yld D) args H=some (.bool (z==.norm),H4.set D (.loop G)):=by
    simp only[run,i_,l4];rw[if_pos (by rw[q3];exact⟨by rw[<-hx.1];exact ad,by rw[q2];exact ax⟩)]
    rw[q1,q2,q3,q4,q5];rw[a1 _ (Nat.le_max_left _ _)];simp only[ao,T];rw[c1 _ (Nat.le_max_right _ _)];simp only[ap];rw[<-aa]
   refine⟨max nA nB+1,H4.set D (.loop G),?_,⟨st2.m,ν4,Z4,G,r6,?_,λi hi=>?_,λi hi=>?_,ar,au,l3,?_,?_,λd hd al am=>?_,?_⟩,L,λi hi=>?_,λi hi=>(C i (.inr hi)).2⟩
   .rw[av];rcases ab with⟨h1,_,I⟩|⟨h1,_,_,h4,h5⟩
    .rw[h1,I];rfl
    .rw[h4,h5]
     cases aH:z with
     | norm=>exact absurd aH h1
     | _=>rfl
   .obtain⟨j1,j2,j3,j4,j5,j6⟩:=ej;refine⟨rfl,Nat.le_trans j2 L,λi h1 J I=>?_,λi h=>⟨(C i (.inl (j4 i h).1)).1,by rw[(C i (.inl (j4 i h).1)).2,(j4 i h).2]⟩,λi h=>?_,λi h=>?_⟩
    .rw[ak i (by omega) (by omega) (λh=>by rcases j5 i h with h|h;exact J h;omega) (λh=>by
      rcases h with h|h
      .rcases j6 i h with h|h|h;exact I h;exact J h;omega
      .rcases (d2 i h).2.2 with h|h;exact I h;omega),j3 i h1 J I]
    .rcases Q i h with h|h
     .exact j5 i h
     .exact .inr (by omega)
    .rcases af i h with (h|h)|h|h
     .exact j6 i h
     .rcases (d2 i h).2.2 with h|h;exact .inl h;exact .inr (.inr h)
     .rcases j5 i h with h|h;exact .inr (.inl h);exact .inr (.inr h)
     .exact .inr (.inr (by omega))
   .obtain⟨t1,t2⟩:=aA i hi;obtain⟨t3,t4,t5,t6⟩:=d1 i hi;refine⟨λh=>(Q i h).elim t3 λh=>by omega,λh=>?_,t5,t6⟩
    rcases af i h with (h|h)|h|h
    .exact t4 h
    .exact t1 h
    .exact t3 h
    .omega
   .obtain⟨t1,t2,t3⟩:=d2 i hi;have aJ:i<H.length:=by
     have:=an i hi;unfold bl at this
     cases hh:H[i]? with
     | none=>rw[hh]at this;simp at this
     | some _=>exact(ζe.1 hh).1
    exact⟨λh=>(Q i h).elim t1 λh=>by omega,t2,t3⟩
   .rw[List.getElem?_set_self aq]
   .subst aa;exact⟨q1,q2,q3,q4,q5⟩
   .obtain⟨aI,h1,J,I⟩:=fx.pin d hd al am;obtain⟨ob,k1,k2,k3⟩:=l6 d hd aI h1;exact⟨ob,k1,by rw[J,k2],k3.trans I⟩
   .rcases ab with⟨h1,J,I⟩|⟨h1,J,I,h4,h5⟩
    .left;subst h1;subst aa;exact⟨J,rfl,rfl⟩
    .right;subst aa;have hb:¬(z==Out.norm)=true:=by simpa using h1
     refine⟨h4,I,?_,?_⟩
     .show (if(z==Out.norm)=true then AG.ready else AG.done)=AG.done;rw[if_neg hb]
     .show (if(z==Out.norm)=true then none else some z)=some o;rw[if_neg hb,J]
   grind
  grind
 grind
end
end Go.VE
namespace Go.VE
variable [bN]
section
variable {ν ν' ν2:Nu} {Z Z':Nat->Prop} {st st' st2:St} {m m':Tb bu} {F F':Frame} {H H' H1:bf} {S:Sys} {c:bS} {X:CX} {J:JT}
theorem LP (gd:Good X S) (hS:iy S c) {ro:Bool} {id:Nat} {ops:Array Oper} {l:List RO} (hc:j_ X true ops.toList 0 ops.toList=some (l.map RO.strip)) (hd:(vk ops.toList&&zF ops.toList)=true) :
 rD X S ro (.region id ops true) (λst=>(me S c true [] l st).map λst=>(.norm,st)):=by
 intro st o st' h J ν Z F H y r j;obtain⟨D,h1,e⟩:=ζf.1 h;simp only[ζc]at e;obtain⟨rfl,rfl⟩:=e;generalize w:(if qt ops.toList then H++List.replicate ops.toList.length .free else H)=H0;generalize hk:(if qt ops.toList then ops.toList.length else 0)=k;have u:∀i,i<H.length->H0[i]? = H[i]? := λi hi=>by
  rw[<-w];split
  .exact List.getElem?_append_left hi
  .rfl
 have z:H.length<=H0.length:=by rw[<-w];split <;> simp
 have G:R ν Z st F H0:=r.heap (λi hi=>u i (r.lt hi)) (λi hi=>by unfold bl;rw[u i (r.uT hi)])
 have A:∀q,0<=q->q<k->H0[H.length+q]? = some .free:=λq _ B=>by
  rw[<-hk]at B;split at B
  .rename_i C;rw[<-w,if_pos C,List.getElem?_append_right (by omega)]
   simp only[Nat.add_sub_cancel_left];rw[List.getElem?_replicate,if_pos B]
  .omega
 obtain⟨n,F',H',ν',e1,e2,e3,e4,e5⟩:=LW gd hS (ops:=ops.toList) (b:=H.length) (k:=k) (λC=>by rw[<-hk,if_pos C]) ops.toList.length (i:=0) (fr:=[]) (by omega) (by simpa using hc) h1 G z
  ⟨λd ob hd I _=>r.lt ⟨d,ob,hd,I,rfl⟩,λi hi=>r.uT hi⟩ A
 refine⟨n,F',H',ν',Z,λq B=>?_,e2,?_,e5⟩
 .simp only[exec,iU,if_true,hd,ζf,ζc,true_and];refine⟨(F',H'),?_,rfl,rfl⟩;rw[w];have:=e1 q B;rw[List.range_eq_range'];exact this
 .rw[e4];refine y.uQ _ _ _ _ _ _ _ j (Nat.le_trans z e3.len) (λi h1 L O=>by rw[e3.same i (by omega) L O (by omega),u i h1]) (λi hi=>⟨hi,by rw[(e3.rows i hi).2];unfold bl;rw[u i (r.uT hi)]⟩) (λi hi=>?_) (λi hi=>.inl hi)
  rcases e3.own i hi with h|h|h
  .exact .inl h
  .exact .inr h
  .exact .inr (by omega)
theorem RH {ro:Bool} {code:Code} {f:St->Option (Out×St)} (T:rD X S ro code f):rD X S ro (.loop code) (nu f):=by
 intro st o st' h J ν Z F H y r j;obtain⟨k,hk⟩:=lR.1 h;have key:∀k st ν Z F H,iH f k st=some (o,st')->Yc S J st.more st.yid->R ν Z st F H->J st.want (eT ν st.m) Z H ->
  ∃n F' H' ν' Z',(∀q,n<=q->∀u,k<=u->jO (exec S.E (run S.E q) q ro X.nt code) u F H=some (o,F',H'))/\R ν' Z' st' F' H'/\J st'.want (eT ν' st'.m) Z' H'/\Fix ν st ν' st':=by
  intro k
  induction k with
  | zero=>intro st ν Z F H h;simp[iH]at h
  | succ k U=>
   intro st ν Z F H h y r j;simp only[iH]at h;split at h
   .rename_i z B;obtain⟨C,F1,H1,D,G,I,L,O,A⟩:=T st .norm z B J ν Z F H y r j;obtain⟨W,Y,H2,ν2,Z2,b1,b2,b3,b4⟩:=U z D G F1 H1 h (by rw[A.more,A.yid];exact y) L O
    refine⟨max C W,Y,H2,ν2,Z2,λq w u Q=>?_,b2,b3,A.trans b4⟩
    cases u with
    | zero=>omega
    | succ u=>
     simp only[jO,I q (Nat.le_trans (Nat.le_max_left _ _) w)];exact b1 q (Nat.le_trans (Nat.le_max_right _ _) w) u (by omega)
   .rename_i B;obtain⟨C,F1,H1,D,G,I,L,O,A⟩:=T st o st' h J ν Z F H y r j;have ho:o≠.norm:=λe=>by subst e;exact B st' h
    refine⟨C,F1,H1,D,G,λq w u Q=>?_,L,O,A⟩
    cases u with
    | zero=>omega
    | succ u=>
     simp only[jO,I q w];cases o <;> first|exact absurd rfl ho|rfl
 obtain⟨n,F',H',ν',Z',e1,e2,e3,e4⟩:=key k st ν Z F H hk y r j;refine⟨max n k,F',H',ν',Z',λq w=>?_,e2,e3,e4⟩
 simp only[exec];exact e1 q (Nat.le_trans (Nat.le_max_left _ _) w) q (Nat.le_trans (Nat.le_max_right _ _) w)
theorem Rk (gd:Good X S) (hI:∀f a b xs,S.items f a b=some xs->dZ S f a b xs) {g:Operand} {ps:Array Tmp} {U W:Code} {x:Arg} {A B:St->Option (Out×St)}
 (ab:ps.toList.all (·<X.nt)=true) (hx:ou X.nm g=some x) (hA:rD X S true U A) (hB:rD X S true W B) :
 rD X S false (.rangeFunc g ps U W) (λst=>match pI S.N st.g x with
 | some (.v (.clo f x y))=>match S.items f x y with
  | some xs=>(oV (hG ps.toList A B st) xs st.m).map λ(o,m)=>(o,{ st with m:=m })
  | none=>none
 | _=>none):=by
 intro st o st' h J ν Z F H y r j;dsimp only at h;split at h
 .rename_i f a b ad;split at h
  .rename_i xs ae;obtain⟨⟨oo,mf⟩,hE,e⟩:=ζf.1 h;simp only[ζc]at e;obtain⟨rfl,rfl⟩:=e;obtain⟨yv,hy,ry⟩:=CJ gd.N r.slot hx ad;obtain⟨a',b',rfl,ra,rb⟩:=ry.fr.jv;obtain⟨ws,more,Q,hR⟩:=B2 hE;generalize I:(⟨.ready,none,F,X.nt,ps.toList,U,W⟩:uD)=u;have z:∀i,i<H.length->(H++[Ob.loop u])[i]? = H[i]? := λi hi=>List.getElem?_append_left hi
   have C:∀i,Z i->bl (H++[Ob.loop u]) i=bl H i:=λi hi=>by unfold bl;rw[z i (r.uT hi)]
   have r0:R ν Z (Px st st.m) F (H++[Ob.loop u]):=by
    have:=r.heap (H':=H++[Ob.loop u]) (λi hi=>z i (r.lt hi)) C
    exact⟨this.slot,this.obj,this.inj,this.apart,this.zrow,this.deep⟩
   have D:∀i,Z i->Z i/\bl (H++[Ob.loop u]) i=bl H i:=λi hi=>⟨hi,C i hi⟩
   have j0:JI X st F ν (eT ν st.m) Z H H.length ps.toList U W (hG ps.toList A B st) oo mf more ws (λ_=>False) Z (H++[Ob.loop u]):=by
    refine⟨st.m,ν,Z,u,r0,⟨rfl,by simp,λi h1 _ _=>z i h1,λi hi=>⟨hi,C i hi⟩,λi hi=>.inl hi,λi hi=>.inl hi⟩,λi hi=>hi.elim,λi hi=>⟨λho=>?_,Nat.ne_of_lt (r.uT hi),.inl hi⟩,λho=>absurd (r.lt ho) (by simp),λhz=>absurd (r.uT hz) (by simp),Nat.le_refl _,by simp,?_,λd _ af h=>⟨af,h,rfl,.refl _⟩,.inl ⟨hR,?_,?_⟩⟩
    .obtain⟨d,ob,g1,g2,rfl⟩:=ho;exact r.apart d ob g1 g2 hi
    .subst I;exact⟨rfl,rfl,rfl,rfl,rfl⟩
    .subst I;rfl
    .subst I;rfl
   have ah:Yc S (JI X st F ν (eT ν st.m) Z H H.length ps.toList U W (hG ps.toList A B st) oo mf more) more H.length:=
    ⟨λw O Z1 H1 O' Z' H' jj h1 Y h3 h4 h5=>JI.uQ jj h1 Y h3 h4 h5,λx1 aj O Z1 H1 args jj h1 Y h3 h4=>JI.yield S hA hB ab jj h1 Y h3 h4⟩
   obtain⟨n,yy,H',O',Z',e1,e2⟩:=hI f a b xs ae ws more Q H.length _ ah Z a' b' (H++[Ob.loop u]) (ra.mono D) (rb.mono D) (λi hi=>by rw[C i hi];exact r.zrow i hi) (r.deep.mono C) j0
   obtain⟨m1,νb,Zb,lr,r1,⟨_,k2,k3,k4,k5,k6⟩,_,_,l1,l2,l3,l4,_,l6,l7⟩:=e2;have aa:m1=mf/\(lr.st=.ready\/lr.st=.done)/\lr.pend.getD .norm=oo:=by
    rcases l7 with⟨g1,g2,g3⟩|⟨_,g1,g2,g3⟩
    .cases g1 with
     | nil hn=>
      exact⟨rfl,.inl g2,by rw[g3,hn];rfl⟩
    .exact⟨g1,.inr g2,by rw[g3];rfl⟩
   obtain⟨rfl,hst,T⟩:=aa;have ak:H.length<H'.length:=(ζe.1 l4).1;have G:∀i,i≠H.length->(H'.set H.length .dead)[i]? = H'[i]? := λi ai=>by rw[List.getElem?_set,if_neg (Ne.symm ai)]
   have L:∀i,Zb i->bl (H'.set H.length .dead) i=bl H' i:=λi hi=>by unfold bl;rw[G i λe=>l2 (e▸hi)]
   have r2:=r1.heap (H':=H'.set H.length .dead) (λi hi=>G i λe=>l1 (e▸hi)) L
   refine⟨n,F,H'.set H.length .dead,νb,Zb,λq hq=>?_,⟨r2.slot,r2.obj,r2.inj,r2.apart,r2.zrow,r2.deep⟩,?_,⟨λd hd=>l6 d (List.mem_append_left _ hd),rfl,rfl,rfl⟩⟩
   .simp only[exec,hy];rw[I,e1 q hq];simp only[l4];rcases hst with hst|hst <;> rw[hst] <;> simp only[T]
   .refine y.uQ _ _ _ _ _ _ _ j (by simp only[List.length_set];omega) (λi h1 Y h3=>by rw[G i (by omega),k3 i h1 Y h3]) (λi hi=>⟨(k4 i hi).1,by rw[L i (k4 i hi).1,(k4 i hi).2]⟩) k5 k6
  .simp at h
 .simp at h
end
end Go.VE
