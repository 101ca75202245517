/-
 The second layer: named objects in the place of rows; texts, calls, iterators.
-/
import Derived.Test.YtknifbdijcocpaaGreatDoorV2
set_option linter.all false
namespace Go.VE
variable [bY]
inductive Fl where|nil|emp|row|part
 deriving DecidableEq,Inhabited
inductive SV where
 | v (x:V)
 | own (d:Nat)
 | ptr (d off:Nat)
 | el (d i off:Nat)
 | mp (d:Nat)
 | clo (f:FuncId) (a b:List SV)
 | tup (l:List SV)
 | agg (l:List SV)
 | yl (id:Nat)
 deriving Inhabited
inductive bJ where
 | sl (k:Fl) (es:Nat) (xs:List (List V))
 | box (cs:List SV)
 | mp (kvs:List (V×V))
abbrev Tb (α:Type):=List (Nat×α)
def bh {α:Type}:Tb α->Nat->Option α
 | [],_=>none
 | (k,v)::r,n=>if k=n then some v else bh r n
def bN {α:Type}:Tb α->Nat->α->Tb α
 | [],n,v=>[(n,v)]
 | (k,x)::r,n,v=>if k=n then(k,v)::r else(k,x)::bN r n v
def eo {α:Type} (n:Nat):Tb α->Tb α
 | []=>[]
 | (k,x)::r=>if k=n then eo n r else(k,x)::eo n r
def oH {α:Type}:List Nat->Tb α->Tb α
 | [],g=>g
 | d::ds,g=>oH ds (eo d g)
def yq {α:Type}:Tb α->List Nat->List α->Tb α
 | g,p::ps,v::vs=>yq (bN g p v) ps vs
 | g,_,_=>g
def kr {α:Type} (g:Tb α):List Nat->Option (Tb α)
 | []=>some []
 | n::r=>match bh g n,kr g r with
  | some v,some t=>some ((n,v)::t)
  | _,_=>none
structure St where
 g:Tb SV
 m:Tb bJ
 pin:List Nat
 want:List (List V)
 more:Bool
 yid:Nat
structure Hq where
 part:Bool
 go:Nat->List (List V)->List V->Option (List (List V))
structure Sys where
 E:Env
 N:Nat->FuncId
 items:FuncId->List V->List V->Option (List (List V))
 yo:FuncId->List V->Option V
 prm:FuncId->Option Hq
inductive Arg where
 | s (n:Nat)
 | k (c:V)
 | f (name:Nat)
inductive Loc where
 | s (n:Nat)
 | c (b i:Nat)
inductive Gh where
 | close (d:Nat)
 | closeB (d:Nat)
 | canon (l:Loc) (d:Nat) (es:Nat)
 | keep (gs ms:List Nat)
 | drop (ds:List Nat)
 | closeS (l:Loc)
structure RO where
 dst:Option Nat
 gd:Option (Nat×Bool)
 now:Bool
 k:K
 az:List Arg
 dead:List Nat:=[]
 pre:List Gh:=[]
inductive RC where
 | skip
 | ops (l:List RO)
 | qn (l:List RO)
 | seq (a b:RC)
 | cond (x:Arg) (a b:RC)
 | block (id:Nat) (c:RC)
 | loop (c:RC)
 | each (g:Arg) (ps:List Nat) (a b:RC)
 | exit (id:Nat)
 | ret
 | gh (x:Gh) (c:RC)
 | hg (c:RC) (x:Gh)
inductive RV where
 | s (n:Nat)
 | ld (n size:Nat) (agg:Bool)
structure RF where
 na:Nat
 rs:List RV
 body:RC
mutual
def SV.c6 (d:Nat):SV->Bool
 | .v _=>false
 | .own e=>e==d
 | .ptr e _=>e==d
 | .el e _ _=>e==d
 | .mp e=>e==d
 | .clo _ a b=>SV.dK d a||SV.dK d b
 | .tup l=>SV.dK d l
 | .agg l=>SV.dK d l
 | .yl _=>false
def SV.dK (d:Nat):List SV->Bool
 | []=>false
 | x::r=>SV.c6 d x||SV.dK d r
end
def bJ.c6 (d:Nat):bJ->Bool
 | .box cs=>SV.dK d cs
 | _=>false
def wJ (d:Nat):Tb SV->Bool
 | []=>false
 | (_,x)::r=>SV.c6 d x||wJ d r
def tM (d:Nat):Tb bJ->Bool
 | []=>false
 | (_,x)::r=>bJ.c6 d x||tM d r
def St.new (st:St) (d:Nat):Bool := !(st.pin.contains d)&&(bh st.m d).isNone && !(wJ d st.g) && !(tM d st.m)
mutual
def SV.vT (d e:Nat):SV->SV
 | .v x=>.v x
 | .own k=>.own (if k=d then e else k)
 | .ptr k o=>.ptr (if k=d then e else k) o
 | .el k i o=>.el (if k=d then e else k) i o
 | .mp k=>.mp (if k=d then e else k)
 | .clo f a b=>.clo f (SV.wj d e a) (SV.wj d e b)
 | .tup l=>.tup (SV.wj d e l)
 | .agg l=>.agg (SV.wj d e l)
 | .yl id=>.yl id
def SV.wj (d e:Nat):List SV->List SV
 | []=>[]
 | x::r=>SV.vT d e x::SV.wj d e r
end
def bJ.vT (d e:Nat):bJ->bJ
 | .box cs=>.box (SV.wj d e cs)
 | o=>o
def A1 (d e:Nat):Tb SV->Tb SV
 | []=>[]
 | (n,x)::r=>(n,x.vT d e)::A1 d e r
def vY (d e:Nat):Tb bJ->Tb bJ
 | []=>[]
 | (n,x)::r=>((if n=d then e else n),x.vT d e)::vY d e r
mutual
def SV.sub (d:Nat) (w:V):SV->SV
 | .own k=>if k=d then .v w else .own k
 | .clo f a b=>.clo f (SV.v8 d w a) (SV.v8 d w b)
 | .tup l=>.tup (SV.v8 d w l)
 | .agg l=>.agg (SV.v8 d w l)
 | x=>x
def SV.v8 (d:Nat) (w:V):List SV->List SV
 | []=>[]
 | x::r=>SV.sub d w x::SV.v8 d w r
end
def dy:List SV->Option (List V)
 | []=>some []
 | .v x::r=>(dy r).map (x::·)
 | _::_=>none
def SY (f:FuncId) (a b:List SV):SV:=
 match dy a,dy b with
 | some x,some y=>.v (.clo f x y)
 | _,_=>.clo f a b
mutual
def SV.DO (d:Nat) (cs:List V):SV->SV
 | .ptr k o=>if k=d then(if o<=cs.length then .v (.fptr (cs.drop o))else .ptr k o)else .ptr k o
 | .clo f a b=>SY f (SV.sG d cs a) (SV.sG d cs b)
 | .tup l=>.tup (SV.sG d cs l)
 | .agg l=>.agg (SV.sG d cs l)
 | x=>x
def SV.sG (d:Nat) (cs:List V):List SV->List SV
 | []=>[]
 | x::r=>SV.DO d cs x::SV.sG d cs r
end
def Db (f:SV->SV):Tb SV->Tb SV
 | []=>[]
 | (n,x)::r=>(n,f x)::Db f r
def mapM (f:List SV->List SV):Tb bJ->Tb bJ
 | []=>[]
 | (n,.box cs)::r=>(n,.box (f cs))::mapM f r
 | (n,o)::r=>(n,o)::mapM f r
mutual
def SV.names:SV->List Nat
 | .own d|.ptr d _|.el d _ _|.mp d=>[d]
 | .clo _ a b=>SV.xK a++SV.xK b
 | .tup l=>SV.xK l
 | .agg l=>SV.xK l
 | _=>[]
def SV.xK:List SV->List Nat
 | []=>[]
 | x::r=>SV.names x++SV.xK r
end
def qJ:Tb SV->List Nat
 | []=>[]
 | (_,x)::r=>SV.names x++qJ r
def o6 (k:Fl) (es:Nat) (xs:List (List V)):V:=
 match k with
 | .nil=>.bM
 | .emp=>.dL
 | _=>.fsl es xs
mutual
def V.lvl:Nat->V->Bool
 | n,.fsl _ xs=>match n with|0=>false|n+1=>V.qt n xs
 | n,.fptr cs=>match n with|0=>false|n+1=>V.mc n cs
 | n,.fmap B=>match n with|0=>false|n+1=>V.t_ n B
 | n,.agg cs=>match n with|0=>false|n+1=>V.mc n cs
 | n,.tup cs=>match n with|0=>false|n+1=>V.mc n cs
 | n,.clo _ a b=>match n with|0=>false|n+1=>V.mc n a&&V.mc n b
 | _,_=>true
def V.mc:Nat->List V->Bool
 | _,[]=>true
 | n,x::r=>V.lvl n x&&V.mc n r
def V.qt:Nat->List (List V)->Bool
 | _,[]=>true
 | n,x::r=>V.mc n x&&V.qt n r
def V.t_:Nat->List (V×V)->Bool
 | _,[]=>true
 | n,(k,x)::r=>V.lvl n k&&V.lvl n x&&V.t_ n r
end
mutual
def shut (m:Tb bJ):Nat->SV->Option V
 | _,.v x=>some x
 | _,.own d=>match bh m d with
  | some (.sl k es xs)=>some (o6 k es xs)
  | _=>none
 | n+1,.ptr d o=>match bh m d with
  | some (.box cs)=>match c8 m n cs with
   | some xs=>if o<=xs.length then some (.fptr (xs.drop o))else none
   | none=>none
  | _=>none
 | _,.mp d=>match bh m d with
  | some (.mp B)=>some (.fmap B)
  | _=>none
 | n+1,.clo f a b=>match c8 m n a,c8 m n b with
  | some x,some y=>some (.clo f x y)
  | _,_=>none
 | n+1,.tup l=>(c8 m n l).map .tup
 | n+1,.agg l=>(c8 m n l).map .agg
 | _,_=>none
def c8 (m:Tb bJ):Nat->List SV->Option (List V)
 | _,[]=>some []
 | n,x::r=>match shut m n x,c8 m n r with
  | some y,some s=>some (y::s)
  | _,_=>none
end
end Go.VE
namespace Go.VE
variable [bY]
mutual
def V.good:V->Bool
 | .hsl ..|.hptr ..|.yld ..|.hmap ..=>false
 | .fsl _ xs=>V.nW xs
 | .fptr cs=>V.cE cs
 | .fmap B=>V.ud B
 | .clo _ a b=>V.cE a&&V.cE b
 | .agg cs=>V.cE cs
 | .tup cs=>V.cE cs
 | _=>true
def V.cE:List V->Bool
 | []=>true
 | x::r=>V.good x&&V.cE r
def V.nW:List (List V)->Bool
 | []=>true
 | x::r=>V.cE x&&V.nW r
def V.ud:List (V×V)->Bool
 | []=>true
 | (k,x)::r=>V.good k&&V.good x&&V.ud r
end
abbrev dD:=Tb bJ
abbrev b9:=FuncId->List SV->dD->Option (List SV×dD)
def rT (N:Nat->FuncId) (g:Tb SV):Arg->Option SV
 | .s n=>bh g n
 | .k c=>some (.v c)
 | .f s=>some (.v (.clo (N s) [] []))
def bW (N:Nat->FuncId) (g:Tb SV):List Arg->Option (List SV)
 | []=>some []
 | x::r=>match rT N g x,bW N g r with
  | some v,some vs=>some (v::vs)
  | _,_=>none
def cO:Fl->Bool
 | .row|.part=>true
 | _=>false
def lZ (m:Tb bJ):SV->Bool
 | .own d|.ptr d _|.el d _ _|.mp d=>(bh m d).isSome
 | .clo ..=>true
 | _=>false
def yG (m:Tb bJ):SV->Bool
 | .v x=>x.one
 | x=>lZ m x
def y8 (m:Tb bJ):SV->Option (List SV)
 | .v x=>some (x.cells.map .v)
 | .agg l=>some l
 | x=>if lZ m x then some [x]else none
def uc (m:Tb bJ) (cells:List SV):List (Nat×Nat)->List SV->Option (List SV)
 | [],[]=>some cells
 | (off,size)::pl,v::vs=>match y8 m v with
  | some c=>if c.length=size/\off+c.length<=cells.length then uc m (cells.take off++c++cells.drop (off+c.length)) pl vs else none
  | none=>none
 | _,_=>none
def wQ (size:Nat) (agg:Bool) (cs:List SV):Option SV:=
 if cs.length=size then
  if agg then match dy cs with
   | some u=>some (.v (.agg u))
   | none=>some (.agg cs)
  else match cs with
   | [x]=>some x
   | _=>none
 else none
def yx (N:Nat->FuncId) (m:Tb bJ):vL->List SV->Option SV
 | .id,[x]=>some x
 | .nilc,[.ptr d o]=>if(bh m d).isSome then some (.ptr d o)else none
 | .nilc,[.el d i o]=>if(bh m d).isSome then some (.el d i o)else none
 | .pick,[.v (.bool t),a,b]=>some (if t then a else b)
 | .bin (some .slice) _ .eql,[.own d,.v .bM]=>match bh m d with
  | some (.sl k _ _)=>if k=.emp then none else some (.v (.bool (k==.nil)))
  | _=>none
 | .bin (some .slice) _ .neq,[.own d,.v .bM]=>match bh m d with
  | some (.sl k _ _)=>if k=.emp then none else some (.v (.bool (!(k==.nil))))
  | _=>none
 | .fieldAddr off,[.ptr d o]=>if(bh m d).isSome then some (.ptr d (o+off))else none
 | .fieldAddr off,[.el d i o]=>if(bh m d).isSome then some (.el d i (o+off))else none
 | .idxS size,[.own d,.v (.int _ i)]=>match bh m d with
  | some (.sl k es xs)=>if cO k/\es=size/\0<=i/\i.toNat<xs.length then some (.el d i.toNat 0)else none
  | _=>none
 | .idxA len size,[.ptr d o,.v (.int _ i)]=>if 0<=i/\i<len/\(bh m d).isSome then some (.ptr d (o+i.toNat*size))else none
 | .idxA len size,[.el d j o,.v (.int _ i)]=>if 0<=i/\i<len/\(bh m d).isSome then some (.el d j (o+i.toNat*size))else none
 | .lenSl,[.own d]=>match bh m d with
  | some (.sl _ _ xs)=>some (.v (.int .i64 xs.length))
  | _=>none
 | .clo name k,vs=>some (.clo (N name) (vs.take k) (vs.drop k))
 | .ext i,[.tup l]=>l[i]?
 | .build zero pl,vs=>(uc m (zero.map .v) pl vs).map .agg
 | .field off size agg,[.agg l]=>wQ size agg ((l.drop off).take size)
 | _,_=>none
def jJ (N:Nat->FuncId) (m:Tb bJ) (p:vL) (svs:List SV):Option SV:=
 match dy svs with
 | some u=>(bl N p u).map .v
 | none=>yx N m p svs
def Nj (m:Tb bJ) (d:Nat):SV->Bool
 | .ptr B _=>B != d&&(match bh m B with|some (.box _)=>true|_=>false)
 | .v (.fptr _)=>true
 | _=>false
def oF (m:Tb bJ):LC->List SV->Option SV
 | .load size agg,[.ptr d o]=>match bh m d with
  | some (.box cs)=>wQ size agg ((cs.drop o).take size)
  | _=>none
 | .load size agg,[.el d i o]=>match bh m d with
  | some (.sl _ _ xs)=>match xs[i]? with
   | some cs=>((cut cs o size).bind (mk agg)).map .v
   | none=>none
  | _=>none
 | .load size agg,[.v p]=>((ey [] p size).bind (mk agg)).map .v
 | .lookup kk z ok,[.mp d,.v k]=>match bh m d with
  | some (.mp B)=>if qD kk k then match iK k B 0 with
   | some (some (_,v))=>some (.v (if ok then .tup [v,.bool true]else v))
   | some none=>some (.v (if ok then .tup [z,.bool false]else z))
   | none=>none
   else none
  | _=>none
 | .lookup kk z ok,[.v p,.v k]=>(eZ [] (.lookup kk z ok) [p,k]).map .v
 | .loadF size agg,.ptr d o::l=>if l.all (Nj m d)=true then match bh m d with
  | some (.box cs)=>wQ size agg ((cs.drop o).take size)
  | _=>none
  else none
 | _,_=>none
def fm (fr:List Nat):List SV->Bool
 | []=>true
 | .v _::r=>fm fr r
 | .ptr d _::r => !(fr.contains d)&&fm fr r
 | .el d _ _::r => !(fr.contains d)&&fm fr r
 | .mp d::r => !(fr.contains d)&&fm fr r
 | _=>false
def oP (m:Tb bJ) (a:Qk) (svs:List SV) (d:Nat):Option (bJ×SV):=
 match a,svs with
 | .alloc _ zero,[]=>some (.box (zero.map .v),.ptr d 0)
 | .box,[.v x]=>if x.cells.all V.one then some (.box (x.cells.map .v),.ptr d 0)else none
 | .box,[.agg l]=>if l.all (yG m)then some (.box l,.ptr d 0)else none
 | .box,[x]=>if lZ m x then some (.box [x],.ptr d 0)else none
 | .makeSl size zero,[.v (.int k n),.v (.int w c)]=>
  if k=.i64/\w=.i64/\0<=n/\n<=c/\c<=2147483648 then some (.sl (if n=c then .row else .part) size (List.replicate n.toNat zero),.own d)else none
 | .buildSl size len zero idx,z=>match dy z with
  | some u=>if idx.length=u.length then(fG size (List.replicate len zero) (idx.zip u)).map λB=>(.sl .row size B,.own d)else none
  | none=>none
 | .makeMap,[]=>some (.mp [],.mp d)
 | _,_=>none
def jA (m:Tb bJ) (size:Nat):SV->Option (List (List V))
 | .own d=>match bh m d with
  | some (.sl k es xs)=>if cO k then(if es=size then some xs else none)else some []
  | _=>none
 | .v .bM=>some []
 | .v .dL=>some []
 | .v (.fsl es xs)=>if es=size then some xs else none
 | _=>none
def J7:SV->Bool
 | .own _|.v .bM|.v .dL=>true
 | _=>false
def putCells (m:Tb bJ) (size o:Nat) (sv:SV) (cs:List SV):Option (List SV):=
 match sv with
 | .v x=>if x.cells.length=size/\o+size<=cs.length/\x.cells.all V.one=true then some (cs.take o++x.cells.map .v++cs.drop (o+size))else none
 | .agg l=>if l.length=size/\o+size<=cs.length/\l.all (yG m)=true then some (cs.take o++l++cs.drop (o+size))else none
 | x=>if lZ m x=true/\size=1/\o+1<=cs.length then some (cs.take o++[x]++cs.drop (o+1))else none
def giveUp (m:Tb bJ):SV->Tb bJ
 | .own d=>eo d m
 | _=>m
def nY (st:St) (dst:Option Nat):LY->List SV->Option (SV×St)
 | .store size,[.ptr d o,x]=>match bh st.m d with
  | some (.box cs)=>(putCells st.m size o x cs).map λcs=>(.v .undef,{ st with m:=bN st.m d (.box cs) })
  | _=>none
 | .store size,[.el d i o,.v x]=>match bh st.m d with
  | some (.sl k es xs)=>match xs[i]? with
   | some cs=>if x.cells.length=size/\o+size<=cs.length/\x.cells.all V.one=true then
    some (.v .undef,{ st with m:=bN st.m d (.sl k es (xs.set i (cs.take o++x.cells++cs.drop (o+x.cells.length)))) })else none
   | none=>none
  | _=>none
 | .mapUp kk,[.mp d,.v k,.v x]=>match bh st.m d with
  | some (.mp B)=>if qD kk k then(qU k x B).map λB=>(.v .undef,{ st with m:=bN st.m d (.mp B) })else none
  | _=>none
 | .append size,[s,x]=>match jA st.m size s,jA st.m size x with
  | some _,some []=>match dst with
   | some t=>match s with
    | .own d=>match bh st.m d with
     | some ob=>if St.new { st with m:=eo d st.m } t then some (.own t,{ st with m:=bN (eo d st.m) t ob })else none
     | none=>none
    | .v .bM=>if st.new t then some (.own t,{ st with m:=bN st.m t (.sl .nil size []) })else none
    | .v .dL=>if st.new t then some (.own t,{ st with m:=bN st.m t (.sl .emp size []) })else none
    | _=>none
   | none=>none
  | some xs,some ys=>
   if xs.length+ys.length<=2147483648/\J7 s=true then
    let m1:=giveUp st.m s
    match dst with
    | some t=>if St.new { st with m:=m1 } t then some (.own t,{ st with m:=bN m1 t (.sl .row size (xs++ys)) })else none
    | none=>none
   else none
  | _,_=>none
 | .storeF size,.ptr d o::x::l=>if l.all (Nj st.m d)=true then match bh st.m d with
  | some (.box cs)=>(putCells st.m size o x cs).map λcs=>(.v .undef,{ st with m:=bN st.m d (.box cs) })
  | _=>none
  else none
 | _,_=>none
def AY (st:St) (dst:Option Nat) (size:Nat) (lo hi:Bool) (d:Nat) (B:List SV):Option (SV×St):=
 match bh st.m d,dy B,dst with
 | some (.sl k es u),some z,some t=>
  if cO k=true/\es=size then
   (mz lo hi z).bind λ(l,h)=>(dX u.length l h).bind λ(l,h)=>
    let w:=eo d st.m
    if St.new { st with m:=w } t then some (.own t,{ st with m:=bN w t (.sl .part es ((u.take h).drop l)) })else none
  else none
 | _,_,_=>none
def BZ:List SV->SV
 | [x]=>x
 | l=>.tup l
mutual
def SV.CG:SV->List Nat
 | .v _=>[]
 | .own e=>[e]
 | .ptr e _=>[e]
 | .el e _ _=>[e]
 | .mp e=>[e]
 | .clo _ a b=>SV.sO a++SV.sO b
 | .tup l=>SV.sO l
 | .agg l=>SV.sO l
 | .yl _=>[]
def SV.sO:List SV->List Nat
 | []=>[]
 | x::r=>SV.CG x++SV.sO r
end
def bJ.CG:bJ->List Nat
 | .box cs=>SV.sO cs
 | _=>[]
def reach (m:Tb bJ):Nat->List Nat->List Nat->List Nat
 | 0,_,seen=>seen
 | _+1,[],seen=>seen
 | n+1,d::r,seen=>if seen.contains d then reach m n r seen else reach m n ((match bh m d with|some ob=>bJ.CG ob|none=>[])++r) (seen++[d])
def handed (m:Tb bJ) (l:List SV):Option dD:=kr m (reach m 32 (SV.sO l) [])
mutual
def SV.bare:SV->Bool
 | .v x=>x.scalar
 | .clo _ a b=>SV.xV a&&SV.xV b
 | .tup l=>SV.xV l
 | .agg l=>SV.xV l
 | _=>true
def SV.xV:List SV->Bool
 | []=>true
 | x::r=>SV.bare x&&SV.xV r
end
def bJ.bare:bJ->Bool
 | .box cs=>SV.xV cs
 | _=>false
def AX (m:Tb bJ) (k:Nat):Bool:=match bh m k with
 | some ob=>ob.bare
 | none=>true
def within (B:List Nat) (ob:bJ):Bool:=ob.CG.all B.contains
def Aw (B:List Nat) (m':dD):List Nat->Tb bJ->Option (Tb bJ)
 | [],m=>some m
 | d::r,m=>match bh m' d with
  | some ob=>if within B ob then Aw B m' r (bN m d ob)else none
  | none=>none
def lp (m':dD) (l:List Nat) (m:Tb bJ):Option (Tb bJ):=Aw l m' l m
def mw (xs:List (List V)):Bool:=xs.all λx=>x.all V.scalar
def Dn (q:Hq) (dst:Option Nat) (args:List SV) (st:St):Option (SV×St):=
 match args with
 | .own d::z=>match bh st.m d,dy z with
  | some (.sl k es u),some B=>match q.go es u B with
   | some w=>if q.part then match dst with
    | some t=>if St.new { st with m:=eo d st.m } t then some (.own t,{ st with m:=bN (eo d st.m) t (if cO k then .sl .part es w else .sl k es u) })else none
    | none=>none
    else some (.v .undef,{ st with m:=bN st.m d (if cO k then .sl k es w else .sl k es u) })
   | none=>none
  | _,_=>none
 | _=>none
def rowsOf:List SV->Option (List Nat)
 | []=>some []
 | .v _::r=>rowsOf r
 | .own d::r=>(rowsOf r).map (d::·)
 | _=>none
def fu (S:Sys) (c:b9) (dst:Option Nat) (dr now:Bool) (old:List SV->Bool) (f:FuncId) (args:List SV) (st:St):Option (SV×St):=
 if S.E.keep f then
  if now then
   if S.E.own f then
    match c8 st.m 8 args with
    | some az=>
     match c f (az.map .v) []with
     | some (rs,m')=>match dy rs with
      | some u=>if(result u).scalar then some (.v (result u),st)else none
      | none=>match rs,dst with
       | .own e::rest,some t=>match bh m' e,dy rest with
        | some (.sl .row es z),some u=>
         if V.cV u&&mw z&&st.new t then
          some (BZ (.own t::u.map .v),{ st with m:=bN st.m t (.sl .row es z) })
         else none
        | some (.sl .nil es _),some u=>if V.cV u&&st.new t then some (BZ (.own t::u.map .v),{ st with m:=bN st.m t (.sl .nil es []) })else none
        | some (.sl .emp es _),some u=>if V.cV u&&st.new t then some (BZ (.own t::u.map .v),{ st with m:=bN st.m t (.sl .emp es []) })else none
        | _,_=>none
       | _,_=>none
     | none=>none
    | none=>none
   else match S.prm f with
    | some q=>if dr then none else Dn q dst args st
    | none=>match handed st.m args with
    | some os=>match c f args os with
     | some (rs,m')=>match dy rs,lp m' (os.map (·.1)) st.m with
      | some u,some w=>if dr && !(V.cV u&&os.all λx=>AX w x.1)then none else some (.v (result u),{ st with m:=w })
      | none,some w=>if dr then none else match rs,dst with
       | .own e::rest,some t=>match bh m' e,dy rest with
        | some (.sl k es z),some u=>if !(os.map (·.1)).contains e&&St.new { st with m:=w } t then some (BZ (.own t::u.map .v),{ st with m:=bN w t (.sl k es z) })else none
        | _,_=>none
       | _,_=>none
      | _,_=>none
     | none=>none
    | none=>none
  else if S.E.own f&&old args then match c8 st.m 8 args with
   | some az=>match c f (az.map .v) []with
    | some (rs,m')=>match c8 m' 8 rs with
     | some u=>if(result u).scalar||(dy args).isSome then some (.v (result u),st)else none
     | none=>none
    | none=>none
   | none=>none
  else none
 else match c8 st.m 8 args with
  | some az=>if now||old args then
   match c f (az.map .v) []with
   | some (rs,m')=>match c8 m' 8 rs with
    | some u=>if(result u).scalar||(dy args).isSome then some (.v (result u),st)
     else if now then(rowsOf args).map λds=>(.v (result u),{ st with m:=oH ds st.m })
     else none
    | none=>none
   | none=>none
   else none
  | none=>none
def fZ (m:Tb bJ) (fr:List Nat) (args:List SV):Bool:=fr.all λd => !(SV.dK d args) && !(tM d m)
def B3:K->Bool
 | .p (.build zero _)=>V.cE zero
 | .r (.lookup _ z _)=>z.good
 | .a (.alloc _ zero)=>V.cE zero&&zero.all V.one
 | .a (.makeSl _ zero)=>V.cE zero
 | .a (.buildSl _ _ zero _)=>V.cE zero
 | _=>true
def mR (S:Sys) (c:b9) (dr:Bool) (fr:List Nat) (o:RO) (st:St):Option (SV×St):=
 match bW S.N st.g o.az with
 | some u=>match o.k with
  | .p (.slice size lo hi)=>match u with
   | .own d::z=>if dr then none else AY st o.dst size lo hi d z
   | u=>(jJ S.N st.m (.slice size lo hi) u).map λx=>(x,st)
  | .p p=>(jJ S.N st.m p u).map λx=>(x,st)
  | .r r=>if !dr||o.now||fm fr u then(oF st.m r u).map λx=>(x,st)else none
  | .a a=>match o.dst with
   | some d=>if st.new d then(oP st.m a u d).map λ(ob,x)=>(x,{ st with m:=bN st.m d ob })else none
   | none=>none
  | .l l=>if !dr||o.now then nY st o.dst l u else none
  | .c=>match u with
   | .clo f a b::w=>fu S c o.dst dr (!dr||o.now) (fZ st.m fr) f (a++w++b) st
   | .v (.clo f a b)::w=>fu S c o.dst dr (!dr||o.now) (fZ st.m fr) f (a.map .v++w++b.map .v) st
   | _=>none
  | .b=>if dr then none else match u with
   | [x]=>(jA st.m 1 x).bind λB=>(mh B).map λl=>(.v (.str (nj l)),st)
   | _=>none
  | .e n=>match u with
   | [.v .bM,x]=>nY st o.dst (.append n) [.v .bM,x]
   | [.v .dL,x]=>nY st o.dst (.append n) [.v .dL,x]
   | _=>none
 | none=>none
def cT (st:St) (dst:Option Nat) (x:SV):St:=
 match dst with
 | none=>st
 | some d=>{ st with g:=bN st.g d x }
def wanted (g:Tb SV):Option (Nat×Bool)->Option Bool
 | none=>some true
 | some (s,b)=>match bh g s with
  | some (.v (.bool c))=>some (c==b)
  | some (.v _)=>some false
  | _=>none
def Au (o:RO):Option Nat:=
 match o.k with
 | .p _|.r _=>none
 | _=>o.dst
def sj (fr:List Nat) (o:RO):List Nat:=
 match Au o with
 | some d=>d::fr
 | none=>fr
def bq (H:bn) (id:Nat):Option (Nat×List (List V)):=(H[id]?).bind Ob.rows
mutual
theorem V.lH:∀{x:V},x.good=true->x.closed=true
 | .hsl ..,h|.hptr ..,h|.yld _,h|.hmap _,h=>by simp[V.good]at h
 | .fsl ..,_|.fptr ..,_|.fmap ..,_=>rfl
 | .bool _,_|.int ..,_|.str _,_|.dL,_|.bM,_|.iI,_|.gD,_|.tF,_=>rfl
 | .clo _ a b,h=>by
  simp only[V.good,ζh]at h;simp only[V.closed,ζh];exact⟨V.o5 h.1,V.o5 h.2⟩
 | .agg cs,h=>by simp only[V.good]at h;simp only[V.closed];exact V.o5 h
 | .tup cs,h=>by simp only[V.good]at h;simp only[V.closed];exact V.o5 h
theorem V.o5:∀{l:List V},V.cE l=true->V.lY l=true
 | [],_=>rfl
 | x::r,h=>by
  simp only[V.cE,ζh]at h;simp only[V.lY,ζh];exact⟨V.lH h.1,V.o5 h.2⟩
end
theorem iz:∀{l:List V},V.cE l=true↔∀(j:Nat) u,l[j]? = some u->u.good=true
 | []=>by simp[V.cE]
 | x::l=>by
  simp[V.cE,iz ];constructor
  .grind
  intro h;exact⟨h 0 x rfl,λj u hu=>h (j+1) u Zac⟩
theorem lE:∀{l:List (List V)},V.nW l=true↔∀(j:Nat) u,l[j]? = some u->V.cE u=true
 | []=>by simp[V.nW]
 | x::l=>by
  simp[V.nW,lE ];constructor
  .grind
  intro h;exact⟨h 0 x rfl,λj u hu=>h (j+1) u Zac⟩
theorem HJ:∀{l:List (V×V)},V.ud l=true↔∀(j:Nat) u,l[j]? = some u->u.1.good=true/\u.2.good=true
 | []=>by simp[V.ud]
 | (k,x)::l=>by
  simp only[V.ud,ζh,HJ ];constructor
  .grind
  intro h;exact⟨h 0 (k,x) rfl,λj u hu=>h (j+1) u Zac⟩
theorem Aj {l:List V} (n:Nat) (h:V.cE l=true):V.cE (l.drop n)=true:=
 iz.2 λj u hu=>iz.1 h (n+j) u Zac
inductive FR (H:bn) (Z:Nat->Prop):V->V->Prop
 | same (x:V) (h:x.good=true):FR H Z x x
 | fsl (es:Nat) (xs:List (List V)) (id off:Nat) (ys:List (List V)) (hz:Z id) (hr:bq H id=some (es,ys)) (hl:off+xs.length<=ys.length)
  (hc:∀(i:Nat) a b,xs[i]? = some a->ys[off+i]? = some b->a.length=b.length)
  (hv:∀(i j:Nat) a b u v,xs[i]? = some a->ys[off+i]? = some b->a[j]? = some u->b[j]? = some v->FR H Z u v):FR H Z (.fsl es xs) (.hsl id es off xs.length)
 | fptr (xs:List V) (id el off es:Nat) (ys:List (List V)) (cs:List V) (hz:Z id) (hr:bq H id=some (es,ys)) (he:ys[el]? = some cs) (ho:off<=cs.length) (hx:xs.length=cs.length-off)
  (hv:∀(j:Nat) u v,xs[j]? = some u->cs[off+j]? = some v->FR H Z u v):FR H Z (.fptr xs) (.hptr id el off)
 | clo (f:FuncId) (a b a' b':List V) (ha:a.length=a'.length) (hb:b.length=b'.length) (hva:∀(j:Nat) u v,a[j]? = some u->a'[j]? = some v->FR H Z u v) (hvb:∀(j:Nat) u v,b[j]? = some u->b'[j]? = some v->FR H Z u v):FR H Z (.clo f a b) (.clo f a' b')
 | agg (a a':List V) (ha:a.length=a'.length) (hva:∀(j:Nat) u v,a[j]? = some u->a'[j]? = some v->FR H Z u v):FR H Z (.agg a) (.agg a')
 | tup (a a':List V) (ha:a.length=a'.length) (hva:∀(j:Nat) u v,a[j]? = some u->a'[j]? = some v->FR H Z u v):FR H Z (.tup a) (.tup a')
def dB (H:bn) (Z:Nat->Prop) (xs ys:List V):Prop:=xs.length=ys.length/\∀(j:Nat) u v,xs[j]? = some u->ys[j]? = some v->FR H Z u v
def gH (H:bn) (Z:Nat->Prop) (xs ys:List (List V)):Prop:=xs.length=ys.length/\∀(j:Nat) u v,xs[j]? = some u->ys[j]? = some v->dB H Z u v
section
variable {H H':bn} {Z Z':Nat->Prop}
theorem FR.mono (h:∀id,Z id->Z' id/\bq H' id=bq H id) {x y:V} (r:FR H Z x y):FR H' Z' x y:=by
 induction r with
 | same x h=>exact .same x h
 | fsl es B id off C D hr J hc hv G=>exact .fsl es B id off C (h id D).1 Zac J hc G
 | fptr B id el off es C cs D hr L O Q hv G=>exact .fptr B id el off es C cs (h id D).1 Zac L O Q G
 | clo f a b w S z T hva U u I=>exact .clo f a b w S z T u I
 | agg a w z hva u=>exact .agg a w z u
 | tup a w z hva u=>exact .tup a w z u
theorem dB.mono (h:∀id,Z id->Z' id/\bq H' id=bq H id) {x y:List V} (r:dB H Z x y):dB H' Z' x y:=⟨r.1,λj u v a b=>(r.2 j u v a b).mono h⟩
theorem gH.mono (h:∀id,Z id->Z' id/\bq H' id=bq H id) {x y:List (List V)} (r:gH H Z x y):gH H' Z' x y:=⟨r.1,λj u v a b=>(r.2 j u v a b).mono h⟩
theorem dB.nil:dB H Z [] []:=⟨rfl,by simp⟩
theorem dB.cons {x y:V} {xs ys:List V} (h:FR H Z x y) (r:dB H Z xs ys):dB H Z (x::xs) (y::ys):=by
 refine⟨by simp[r.1],λj u v hu hv=>?_⟩
 cases j with
 | zero=>grind
 | succ j=>exact r.2 j u v Zac Zac
theorem dB.inv {x:V} {xs B:List V} (r:dB H Z (x::xs) B):∃y ys,B=y::ys/\FR H Z x y/\dB H Z xs ys:=by
 cases B with
 | nil=>have:=r.1;grind
 | cons y ys=>
  refine⟨y,ys,rfl,r.2 0 x y rfl rfl,by have:=r.1;grind,λj u v hu hv=>r.2 (j+1) u v Zac Zac⟩
theorem dB.c9 {B:List V} (r:dB H Z [] B):B=[]:=by
 have:=r.1
 grind
theorem dB.get {xs ys:List V} (r:dB H Z xs ys) {j:Nat} {u:V} (h:xs[j]? = some u):∃v,ys[j]? = some v/\FR H Z u v:=by
 have w  := (ζe.1 h).1;have:j<ys.length:=by rw[<-r.1];omega
 exact⟨ys[j],ζd this,r.2 j u _ h (ζd this)⟩
theorem gH.get {xs ys:List (List V)} (r:gH H Z xs ys) {j:Nat} {u:List V} (h:xs[j]? = some u):∃v,ys[j]? = some v/\dB H Z u v:=by
 have w  := (ζe.1 h).1;have:j<ys.length:=by rw[<-r.1];omega
 exact⟨ys[j],ζd this,r.2 j u _ h (ζd this)⟩
theorem dB.append {a b c d:List V} (h:dB H Z a b) (k:dB H Z c d):dB H Z (a++c) (b++d):=by
 refine⟨by simp[h.1,k.1],λj u v hu hv=>?_⟩
 by_cases w:j<a.length
 .rw[List.getElem?_append_left w]at hu;rw[List.getElem?_append_left (by rw[<-h.1];omega)]at hv
  exact h.2 j u v hu hv
 rw[List.getElem?_append_right Zaa]at hu
 rw[List.getElem?_append_right (by rw[<-h.1];omega),<-h.1]at hv
 exact k.2 _ u v hu hv
theorem gH.append {a b c d:List (List V)} (h:gH H Z a b) (k:gH H Z c d):gH H Z (a++c) (b++d):=by
 refine⟨by simp[h.1,k.1],λj u v hu hv=>?_⟩
 by_cases w:j<a.length
 .rw[List.getElem?_append_left w]at hu;rw[List.getElem?_append_left (by rw[<-h.1];omega)]at hv
  exact h.2 j u v hu hv
 rw[List.getElem?_append_right Zaa]at hu
 rw[List.getElem?_append_right (by rw[<-h.1];omega),<-h.1]at hv
 exact k.2 _ u v hu hv
theorem dB.take {a b:List V} (h:dB H Z a b) (n:Nat):dB H Z (a.take n) (b.take n):=by
 refine⟨by simp[h.1],λj u v hu hv=>?_⟩
 rw[List.getElem?_take]at hu hv;split at hu
 next w=>rw[if_pos w]at hv;exact h.2 j u v hu hv
 grind
theorem dB.drop {a b:List V} (h:dB H Z a b) (n:Nat):dB H Z (a.drop n) (b.drop n):=by
 refine⟨by simp[h.1],λj u v hu hv=>?_⟩
 rw[List.getElem?_drop]at hu hv;exact h.2 _ u v hu hv
theorem gH.take {a b:List (List V)} (h:gH H Z a b) (n:Nat):gH H Z (a.take n) (b.take n):=by
 refine⟨by simp[h.1],λj u v hu hv=>?_⟩
 rw[List.getElem?_take]at hu hv;split at hu
 next w=>rw[if_pos w]at hv;exact h.2 j u v hu hv
 grind
theorem gH.drop {a b:List (List V)} (h:gH H Z a b) (n:Nat):gH H Z (a.drop n) (b.drop n):=by
 refine⟨by simp[h.1],λj u v hu hv=>?_⟩
 rw[List.getElem?_drop]at hu hv;exact h.2 _ u v hu hv
theorem dB.set {a b:List V} (h:dB H Z a b) (n:Nat) {x y:V} (B:FR H Z x y):dB H Z (a.set n x) (b.set n y):=by
 refine⟨by simp[h.1],λj u v hu hv=>?_⟩
 rw[List.getElem?_set]at hu hv;split at hu
 .grind
 rename_i e;rw[if_neg e]at hv;exact h.2 j u v hu hv
theorem gH.set {a b:List (List V)} (h:gH H Z a b) (n:Nat) {x y:List V} (B:dB H Z x y):gH H Z (a.set n x) (b.set n y):=by
 refine⟨by simp[h.1],λj u v hu hv=>?_⟩
 rw[List.getElem?_set]at hu hv;split at hu
 .grind
 rename_i e;rw[if_neg e]at hv;exact h.2 j u v hu hv
theorem dB.same {l:List V} (h:V.cE l=true):dB H Z l l:=
 ⟨rfl,λj u v hu hv=>by rw[hu]at hv;cases hv;exact .same u (iz.1 h j u hu)⟩
theorem FR.good {x y:V} (r:FR H Z x y):x.good=true:=by
 induction r with
 | same x h=>omega
 | fsl es C id off D G hr O hc hv I=>
  refine lE.2 λi a z=>iz.2 λj u hu=>?_
  grind
 | fptr C id el off es D cs G hr Q S T hv I=>
  refine iz.2 λj u hu=>?_
  grind
 | clo f a b B U z W hva J w L=>
  simp[V.good];refine⟨iz.2 λj u hu=>?_,iz.2 λj u hu=>?_⟩
  .grind
  grind
 | agg a B z hva w=>
  refine iz.2 λj u hu=>?_
  grind
 | tup a B z hva w=>
  simp[V.good];refine iz.2 λj u hu=>?_
  grind
theorem FR.closed {x y:V} (r:FR H Z x y):x.closed=true:=V.lH r.good
theorem dB.good {xs ys:List V} (r:dB H Z xs ys):V.cE xs=true:=
 iz.2 λj u hu=>by obtain⟨v,_,h⟩:=r.get hu;exact h.good
theorem gH.good {xs ys:List (List V)} (r:gH H Z xs ys):V.nW xs=true:=
 lE.2 λj u hu=>by obtain⟨v,_,h⟩:=r.get hu;exact h.good
theorem FR.bool {b:Bool} {y:V} (r:FR H Z (.bool b) y):y=.bool b:=by cases r;rfl
theorem FR.int {k:IntKind} {n:Int} {y:V} (r:FR H Z (.int k n) y):y=.int k n:=by cases r;rfl
theorem FR.str {s:ByteArray} {y:V} (r:FR H Z (.str s) y):y=.str s:=by cases r;rfl
theorem FR.dL {y:V} (r:FR H Z .dL y):y=.dL:=by cases r;rfl
theorem FR.bM {y:V} (r:FR H Z .bM y):y=.bM:=by cases r;rfl
theorem FR.iI {y:V} (r:FR H Z .iI y):y=.iI:=by cases r;rfl
theorem FR.gD {y:V} (r:FR H Z .gD y):y=.gD:=by cases r;rfl
theorem FR.tF {y:V} (r:FR H Z .tF y):y=.tF:=by cases r;rfl
theorem FR.fmap {B:List (V×V)} {y:V} (r:FR H Z (.fmap B) y):y=.fmap B:=by cases r;rfl
theorem FR.jc {a:List V} {y:V} (r:FR H Z (.agg a) y):∃a',y=.agg a'/\dB H Z a a':=by
 cases r with
 | same _ h=>exact⟨a,rfl,.same (by simpa [V.good]using h)⟩
 | agg _ a' u hva=>exact⟨a',rfl,u,hva⟩
theorem FR.qZ {a:List V} {y:V} (r:FR H Z (.tup a) y):∃a',y=.tup a'/\dB H Z a a':=by
 cases r with
 | same _ h=>exact⟨a,rfl,.same (by simpa [V.good]using h)⟩
 | tup _ a' u hva=>exact⟨a',rfl,u,hva⟩
theorem FR.kN {f:FuncId} {a b:List V} {y:V} (r:FR H Z (.clo f a b) y):∃a' B,y=.clo f a' B/\dB H Z a a'/\dB H Z b B:=by
 cases r with
 | same _ h=>
  simp[V.good]at h;exact⟨a,b,rfl,.same h.1,.same h.2⟩
 | clo _ _ _ a' B w z hva u=>exact⟨a',B,rfl,⟨w,hva⟩,⟨z,u⟩⟩
theorem FR.mV {es:Nat} {xs:List (List V)} {y:V} (r:FR H Z (.fsl es xs) y):y=.fsl es xs \/
 ∃id off ys,y=.hsl id es off xs.length/\Z id/\bq H id=some (es,ys)/\off+xs.length<=ys.length/\gH H Z xs ((ys.drop off).take xs.length):=by
 cases r with
 | same _ h=>grind
 | fsl _ _ id off ys z hr B hc hv=>
  refine .inr ⟨id,off,ys,rfl,z,hr,B,by simp;omega,λj u v hu w=>?_⟩
  have C  := (ζe.1 hu).1;rw[List.getElem?_take,if_pos C,List.getElem?_drop]at w;exact⟨hc j u v hu w,λi s t D G=>hv j i u v s t hu w D G⟩
theorem FR.Nn {es:Nat} {xs:List (List V)} {id off:Nat} {ys:List (List V)} (B:Z id) (hr:bq H id=some (es,ys)) (D:off+xs.length<=ys.length) (h:gH H Z xs ((ys.drop off).take xs.length)) :
 FR H Z (.fsl es xs) (.hsl id es off xs.length):=by
 have key:∀(i:Nat) a b,xs[i]? = some a->ys[off+i]? = some b->dB H Z a b:=λi a b w z=>by
  refine h.2 i a b w ?_
  grind
 exact .fsl es xs id off ys B hr D (λi a b w z=>(key i a b w z).1) (λi j a b u v w z hu hv=>(key i a b w z).2 j u v hu hv)
theorem FR.nh {xs:List V} {y:V} (r:FR H Z (.fptr xs) y):y=.fptr xs \/
 ∃id el off es ys cs,y=.hptr id el off/\Z id/\bq H id=some (es,ys)/\ys[el]? = some cs/\off<=cs.length/\dB H Z xs (cs.drop off):=by
 cases r with
 | same _ h=>grind
 | fptr _ id el off es ys cs w hr z B D hv=>
  refine .inr ⟨id,el,off,es,ys,cs,rfl,w,hr,z,B,by simp_all,λj u v hu C=>?_⟩
  grind
theorem FR.E7 {xs:List V} {id el off es:Nat} {ys:List (List V)} {cs:List V} (B:Z id) (hr:bq H id=some (es,ys)) (D:ys[el]? = some cs) (G:off<=cs.length) (h:dB H Z xs (cs.drop off)):FR H Z (.fptr xs) (.hptr id el off):=
 .fptr xs id el off es ys cs B hr D G (by have:=h.1;grind) (λj u v hu hv=>h.2 j u v hu Zac)
theorem FR.cells {x y:V} (r:FR H Z x y):dB H Z x.cells y.cells:=by
 have one:∀{a b:V},FR H Z a b->dB H Z [a] [b]:=λh=>.cons h .nil
 cases r with
 | same _ h=>cases x <;> first|exact one (.same _ h)|(exact dB.same h)
 | fsl es z id off B C hr G hc hv=>exact one (.fsl es z id off B C hr G hc hv)
 | fptr z id el off es B cs C hr I J L hv=>exact one (.fptr z id el off es B cs C hr I J L hv)
 | clo f a b w O u Q hva D=>exact one (.clo f a b w O u Q hva D)
 | agg a w u hva=>exact⟨u,hva⟩
 | tup a w u hva=>exact one (.tup a w u hva)
theorem FR.one {x y:V} (r:FR H Z x y):y.one=x.one:=by cases r <;> rfl
theorem dB.one:∀{xs ys:List V},dB H Z xs ys->ys.all V.one=xs.all V.one
 | [],ys,r=>by rw[r.c9]
 | x::xs,D,r=>by
  obtain⟨y,ys,rfl,h,B⟩:=r.inv;simp[h.one,B.one]
theorem sx:∀{l:List V},V.cV l=true↔∀(j:Nat) u,l[j]? = some u->u.scalar=true
 | []=>by simp[V.cV]
 | x::l=>by
  simp[V.cV,sx ];constructor
  .grind
  intro h;exact⟨h 0 x rfl,λj u hu=>h (j+1) u Zac⟩
theorem FR.scalar {x y:V} (r:FR H Z x y):(x.scalar=true->y=x)/\y.scalar=x.scalar:=by
 have key:∀(a w:List V),a.length=w.length->(∀(j:Nat) u v,a[j]? = some u->w[j]? = some v->(u.scalar=true->v=u)/\v.scalar=u.scalar)->(V.cV a=true->w=a)/\V.cV w=V.cV a:=by
  intro a w B G;have h1:V.cV a=true->w=a:=by
   intro I;refine(List.ext_getElem B λj h1 C=>?_).symm
   exact(((G j _ _ (ζd h1) (ζd C)).1 (sx.1 I j _ (ζd h1)))).symm
  refine⟨h1,?_⟩
  cases I:V.cV a with
  | true=>grind
  | false=>
   cases D:V.cV w with
   | false=>rfl
   | true=>
    have:V.cV a=true:=sx.2 λj u hu=>by
     have J:j<w.length:=by grind
     have:=(G j u _ hu (ζd J)).2;rw[<-this];exact sx.1 D j _ (ζd J)
    grind
 induction r with
 | same x h=>grind
 | fsl=>exact⟨λh=>by simp[V.scalar]at h,rfl⟩
 | fptr=>exact⟨λh=>by simp[V.scalar]at h,rfl⟩
 | clo=>exact⟨λh=>by simp[V.scalar]at h,rfl⟩
 | agg a w B hva z=>
  obtain⟨h1,C⟩:=key a w B z;exact⟨λh=>by rw[h1 (by simpa [V.scalar]using h)],by simpa [V.scalar]using C⟩
 | tup a w B hva z=>
  obtain⟨h1,C⟩:=key a w B z;exact⟨λh=>by rw[h1 (by simpa [V.scalar]using h)],by simpa [V.scalar]using C⟩
theorem dB.scalar {a a':List V} (r:dB H Z a a'):(V.cV a=true->a'=a)/\V.cV a'=V.cV a:=by
 obtain⟨h1,u⟩:=FR.scalar (.tup a a' r.1 r.2);simp[V.scalar]at h1 u
 grind
theorem sA:∀{l:List V} {a:List Int},iS l=some a->V.cV l=true
 | [],_,_=>rfl
 | x::l,a,h=>by
  unfold iS at h;split at h
  .grind
  next n r e=>cases e;obtain⟨b,B,_⟩:=ζf.1 h;simp[V.cV,V.scalar];exact sA B
  grind
end
mutual
theorem kj:∀{x:V},x.scalar=true->x.good=true
 | .bool _,_|.int ..,_|.str _,_|.iI,_|.gD,_|.tF,_|.dL,_|.bM,_=>rfl
 | .agg cs,h=>by simp only[V.scalar]at h;simp only[V.good];exact qC h
 | .tup cs,h=>by simp only[V.scalar]at h;simp only[V.good];exact qC h
 | .fsl ..,h|.hsl ..,h|.fptr ..,h|.hptr ..,h|.clo ..,h|.yld _,h|.fmap _,h|.hmap _,h=>by simp[V.scalar]at h
theorem qC:∀{l:List V},V.cV l=true->V.cE l=true
 | [],_=>rfl
 | x::r,h=>by
  simp only[V.cV,ζh]at h;simp only[V.cE,ζh];exact⟨kj h.1,qC h.2⟩
end
section
variable {H H':bn} {Z Z':Nat->Prop}
theorem lz {f:V->Option V}:∀{xs ys:List V},xs.length=ys.length->(∀(j:Nat) u v,xs[j]? = some u->ys[j]? = some v->f v=some u)->iU f ys=some xs
 | [],[],_,_=>rfl
 | [],y::ys,h,_=>by simp_all
 | x::xs,[],h,_=>by simp_all
 | x::xs,y::ys,h,B=>by
  simp[iU,B 0 x y rfl rfl,lz (xs:=xs) (ys:=ys) Zac λj u v hu hv=>B (j+1) u v Zac Zac]
theorem Iw {f:V->Option V}:∀{xs ys:List (List V)},xs.length=ys.length->(∀(j:Nat) u v,xs[j]? = some u->ys[j]? = some v->iU f v=some u)->mC f ys=some xs
 | [],[],_,_=>rfl
 | [],y::ys,h,_=>by simp_all
 | x::xs,[],h,_=>by simp_all
 | x::xs,y::ys,h,B=>by
  simp[mC,B 0 x y rfl rfl,Iw (xs:=xs) (ys:=ys) Zac λj u v hu hv=>B (j+1) u v Zac Zac]
theorem p_:∀{l:List V},V.lY l=true↔∀(j:Nat) u,l[j]? = some u->u.closed=true
 | []=>by simp[V.lY]
 | x::l=>by
  simp[V.lY,p_ ];constructor
  .grind
  intro h;exact⟨h 0 x rfl,λj u hu=>h (j+1) u Zac⟩
theorem nk:∀{l:List V} {n:Nat},V.mc n l=true↔∀(j:Nat) u,l[j]? = some u->u.lvl n=true
 | [],n=>by simp[V.mc]
 | x::l,n=>by
  simp[V.mc,nk ];constructor
  .grind
  intro h;exact⟨h 0 x rfl,λj u hu=>h (j+1) u Zac⟩
theorem Ht:∀{l:List (List V)} {n:Nat},V.qt n l=true↔∀(j:Nat) u,l[j]? = some u->V.mc n u=true
 | [],n=>by simp[V.qt]
 | x::l,n=>by
  simp[V.qt,Ht ];constructor
  .grind
  intro h;exact⟨h 0 x rfl,λj u hu=>h (j+1) u Zac⟩
theorem eA (n:Nat) (H:bn) {x:V} (h:x.closed=true):borrow n H x=some x:=kR n H h
theorem FR.borrow {x y:V} (r:FR H Z x y):∀n,x.lvl n=true->borrow n H y=some x:=by
 induction r with
 | same x h=>exact λn _=>eA n H (V.lH h)
 | fsl es J id off U W hr X hc hv L=>
  intro n z
  cases n with
  | zero=>simp[V.lvl]at z
  | succ n=>
   unfold Go.VE.borrow;unfold bq at hr;simp only[V.closed,Bool.false_eq_true,if_false,hr,true_and,if_pos X,ζf];refine⟨J,Iw (by simp;omega) λj u v hu B=>?_,rfl⟩
   have Y  := (ζe.1 hu).1;rw[List.getElem?_take,if_pos Y,List.getElem?_drop]at B;refine lz (hc j u v hu B) λi s t Q ht=>L j i u v s t hu B Q ht n (nk.1 (Ht.1 z j u hu) i s Q)
 | fptr J id el off es U cs W hr he ho hx hv L=>
  intro n z
  cases n with
  | zero=>simp[V.lvl]at z
  | succ n=>
   unfold Go.VE.borrow;unfold bq at hr;simp only[V.closed,Bool.false_eq_true,if_false,hr,he,if_pos ho,ζf];refine⟨J,lz (by simp_all) λj u v hu B=>?_,rfl⟩
   rw[List.getElem?_drop]at B;exact L j u v hu B n (nk.1 z j u hu)
 | clo f a b D S G T hva aa C I=>
  intro n z
  cases n with
  | zero=>simp[V.lvl]at z
  | succ n=>
   simp[V.lvl]at z
   by_cases w:(V.clo f D S).closed=true
   .rw[eA _ _ w];simp[V.closed]at w;have e1:D=a:=by
     have:=lz  G λj u v hu hv=>C j u v hu hv n (nk.1 z.1 j u hu)
     have O:=lz    rfl λj u v hu hv=>by rw[hu]at hv;cases hv;exact eA n H (p_.1 w.1 j u hu)
     grind
    have e2:S=b:=by
     have:=lz  T λj u v hu hv=>I j u v hu hv n (nk.1 z.2 j u hu)
     have O:=lz    rfl λj u v hu hv=>by rw[hu]at hv;cases hv;exact eA n H (p_.1 w.2 j u hu)
     grind
    simp_all
   unfold Go.VE.borrow;rw[if_neg w];simp[lz  G λj u v hu hv=>C j u v hu hv n (nk.1 z.1 j u hu),lz  T λj u v hu hv=>I j u v hu hv n (nk.1 z.2 j u hu)]
 | agg a D G hva C=>
  intro n z
  cases n with
  | zero=>simp[V.lvl]at z
  | succ n=>
   have hm:=lz  G λj u v hu hv=>C j u v hu hv n (nk.1 z j u hu)
   by_cases w:(V.agg D).closed=true
   .rw[eA _ _ w];have O:=lz    rfl λj u v hu hv=>by rw[hu]at hv;cases hv;exact eA n H (p_.1 w j u hu)
    grind
   unfold Go.VE.borrow
   grind
 | tup a D G hva C=>
  intro n z
  cases n with
  | zero=>simp[V.lvl]at z
  | succ n=>
   have hm:=lz  G λj u v hu hv=>C j u v hu hv n (nk.1 z j u hu)
   by_cases w:(V.tup D).closed=true
   .rw[eA _ _ w];have O:=lz    rfl λj u v hu hv=>by rw[hu]at hv;cases hv;exact eA n H (p_.1 w j u hu)
    grind
   unfold Go.VE.borrow
   grind
theorem qK {f:V->List Nat} {k:Nat}:∀{l:List V},k∈cW f l->∃(j:Nat) (u:V),l[j]? = some u/\k∈f u
 | [],h=>by simp[cW]at h
 | x::l,h=>by
  simp[cW]at h;rcases h with h|h
  .exact⟨0,x,rfl,h⟩
  obtain⟨j,u,hu,hk⟩:=qK h;exact⟨j+1,u,by grind,hk⟩
structure Deep (H:bn) (Z:Nat->Prop):Prop where
 row:∀id es ys,Z id->bq H id=some (es,ys)->∀c∈ys,∀u∈c,∃x,FR H Z x u
theorem FR.cn (hd:Deep H Z):∀(n:Nat) {x y:V},FR H Z x y->∀k∈cn n H y,Z k
 | 0,x,y,r,k,hk=>by simp[Go.VE.cn]at hk
 | n+1,x,y,r,k,hk=>by
  unfold Go.VE.cn at hk;split at hk
  .simp_all
  rename_i J;have G:∀(a a':List V),dB H Z a a'->k∈cW (Go.VE.cn n H) a'->Z k:=λa a' h hk=>by
   obtain⟨j,u,hu,z⟩:=qK hk;have S:j<a.length:=by rw[h.1];grind
   exact FR.cn hd n (h.2 j _ u (ζd S) hu) k z
  have row:∀(id:Nat) es w (l:List V),Z id->bq H id=some (es,w)->(∀u∈l,∃c∈w,u∈c)->k∈cW (Go.VE.cn n H) l->Z k:=λid es w l B hr L hk=>by
   obtain⟨j,u,hu,z⟩:=qK hk;obtain⟨c,hc,C⟩:=L u (List.mem_of_getElem? hu);obtain⟨x,O⟩:=hd.row id es w B hr c hc u C;exact FR.cn hd n O k z
  cases r with
  | same _ h=>exact absurd (V.lH h) J
  | fsl es T id off w B hr L hc hv=>
   simp only[List.mem_cons]at hk;rcases hk with rfl|hk
   .exact B
   rw[show (H[id]?).bind Ob.rows=some (es,w)from hr]at hk;exact row id es w _ B hr (λu hu=>by obtain⟨c,hc,C⟩:=List.mem_flatten.1 hu;exact⟨c,List.mem_of_mem_drop (List.mem_of_mem_take hc),C⟩) hk
  | fptr T id el off es w cs B hr Q X O hv=>
   simp only[List.mem_cons]at hk;rcases hk with rfl|hk
   .exact B
   rw[show (H[id]?).bind Ob.rows=some (es,w)from hr]at hk;simp only[Q,Option.getD_some]at hk;exact row id es w _ B hr (λu hu=>⟨cs,List.mem_of_getElem? Q,List.mem_of_mem_drop hu⟩) hk
  | clo f a b a' U D W hva I=>
   simp  at hk;rcases hk with hk|hk
   .exact G a a' ⟨D,hva⟩ hk
   exact G b U ⟨W,I⟩ hk
  | agg a a' D hva=>exact G a a' ⟨D,hva⟩ hk
  | tup a a' D hva=>exact G a a' ⟨D,hva⟩ hk
theorem dB.cut {cs ys r:List V} {off n:Nat} (h:dB H Z cs ys) (hc:cut cs off n=some r):∃B,Go.VE.cut ys off n=some B/\dB H Z r B:=by
 unfold Go.VE.cut at hc ⊢;have u:=(h.drop off).take n;dsimp only at hc ⊢;split at hc
 .simp  at hc;subst hc;exact⟨_,by rw[if_pos (by rw[<-u.1];omega)],u⟩
 grind
theorem dB.mk {agg:Bool} {cs ys:List V} {x:V} (h:dB H Z cs ys) (B:mk agg cs=some x):∃y,Go.VE.mk agg ys=some y/\FR H Z x y:=by
 unfold Go.VE.mk at B ⊢;split at B
 .simp  at B;subst B;exact⟨_,by grind,.agg _ _ h.1 h.2⟩
 split at B
 .simp  at B;obtain⟨y,ys,rfl,h1,u⟩:=h.inv;rw[u.c9]
  grind
 grind
theorem dB.fill:∀{pl:List (Nat×Nat)} {vs B cells cells' r:List V},dB H Z cells cells'->dB H Z vs B->lC cells pl vs=some r->∃D,lC cells' pl B=some D/\dB H Z r D
 | [],vs,B,cells,cells',r,hc,hv,h=>by
  cases vs with
  | nil=>rw[hv.c9];simp[lC]at h ⊢;grind
  | cons v vs=>simp[lC]at h
 | (off,size)::pl,vs,B,cells,cells',r,hc,hv,h=>by
  cases vs with
  | nil=>simp[lC]at h
  | cons v vs=>
   obtain⟨w,B,rfl,h1,G⟩:=hv.inv;have k:=h1.cells;simp only[lC]at h ⊢;rw[<-k.1,<-hc.1];split at h
   .simp_all
   rename_i e;rw[if_neg e];exact dB.fill (((hc.take off).append k).append (hc.drop _)) G h
theorem FR.vr {k:KT} {x y G J:V} {b:Bool} (B:FR H Z x G) (D:FR H Z y J) (h:pV k x y=some b):pV k G J=some b:=by
 unfold pV at h;split at h
 .rw[B.bM,D.bM];exact h
 .rw[D.bM];rcases B.mV with rfl|⟨_,_,_,rfl,_⟩ <;> exact h
 .exact absurd B.closed (by simp[V.closed])
 .rw[B.iI,D.iI];exact h
 .rw[D.iI];rcases B.nh with rfl|⟨_,_,_,_,_,_,rfl,_⟩ <;> exact h
 .exact absurd B.closed (by simp[V.closed])
 .rw[B.gD,D.gD];exact h
 .rw[D.gD,B.fmap];exact h
 .exact absurd B.closed (by simp[V.closed])
 grind
theorem FR.lM {a b a' B:List V} {r:Bool} (D:dB H Z a a') (G:dB H Z b B) (h:lM a b=some r):Go.VE.lM a' B=some r:=by
 unfold Go.VE.lM at h;split at h
 .rename_i u v hu hv;rw[D.scalar.1 (sA hu),G.scalar.1 (sA hv)];unfold Go.VE.lM
  grind
 grind
theorem Bh {k:KT} {x y:V} {b:Bool} (h:pV k x y=some b):(y=.bM/\(x=.bM\/(∃es xs,x=.fsl es xs)\/∃id es off len,x=.hsl id es off len)) \/
 (y=.iI/\(x=.iI\/(∃cs,x=.fptr cs)\/∃id el off,x=.hptr id el off))\/(y=.gD/\(x=.gD\/(∃B,x=.fmap B)\/∃id,x=.hmap id)):=by
 unfold pV at h
 grind
theorem KI {k:Option KT} {e:Option Nat} {op:BinOp} {x y:V} (D:(y=.bM/\(x=.bM\/(∃es xs,x=.fsl es xs)\/∃id es off len,x=.hsl id es off len)) \/
 (y=.iI/\(x=.iI\/(∃cs,x=.fptr cs)\/∃id el off,x=.hptr id el off))\/(y=.gD/\(x=.gD\/(∃B,x=.fmap B)\/∃id,x=.hmap id))) :
 h_ k e op x y=(match k,op with
 | some k,.eql=>(pV k x y).map .bool
 | some k,.neq=>(pV k x y).map λt=>.bool !t
 | _,_=>none):=by
 rcases D with⟨rfl,rfl|⟨_,_,rfl⟩|⟨_,_,_,_,rfl⟩⟩|⟨rfl,rfl|⟨_,rfl⟩|⟨_,_,_,rfl⟩⟩|⟨rfl,rfl|⟨_,rfl⟩|⟨_,rfl⟩⟩ <;> cases k <;> cases op <;> rfl
theorem Lp {k:Option KT} {e:Option Nat} {op:BinOp} {x y z:V} (h:h_ k e op x y=some z):z.good=true:=by
 have w:∀{o:Option Bool} {z:V},o.map V.bool=some z->z.good=true:=λh=>by obtain⟨_,_,rfl⟩:=ζf.1 h;rfl
 have u:∀{o:Option Bool} {z:V},(o.map λt=>V.bool !t)=some z->z.good=true:=λh=>by obtain⟨_,_,rfl⟩:=ζf.1 h;rfl
 unfold h_ at h
 (repeat' split at h) <;> first|(simp  at h;subst h;rfl)|exact w h|exact u h|simp at h
theorem FR.bin {k:Option KT} {e:Option Nat} {op:BinOp} {x y G J z:V} (B:FR H Z x G) (D:FR H Z y J) (h:h_ k e op x y=some z):h_ k e op G J=some z:=by
 have h0:=h;unfold h_ at h;split at h
 .rw[B.int,D.int];omega
 .rw[B.str,D.str];omega
 .rw[B.bool,D.bool];omega
 .obtain⟨L,rfl,w⟩:=B.jc;obtain⟨O,rfl,I⟩:=D.jc;split at h
  .split at h
   next C=>obtain⟨r,hr,rfl⟩:=ζf.1 h;simp[h_,<-w.1,C,FR.lM w I hr]
   grind
  .split at h
   next C=>obtain⟨r,hr,rfl⟩:=ζf.1 h;simp[h_,<-w.1,C,FR.lM w I hr]
   grind
  grind
 split at h
 .obtain⟨r,hr,rfl⟩:=ζf.1 h;have u:=FR.vr B D hr;rw[KI (Bh u)];grind
 .obtain⟨r,hr,rfl⟩:=ζf.1 h;have u:=FR.vr B D hr;rw[KI (Bh u)];grind
 grind
theorem FR.slice {size:Nat} {x J z:V} {l h:Option Int} (D:FR H Z x J) (B:iG size x l h=some z):∃U,iG size J l h=some U/\FR H Z z U:=by
 have G:∀{n lo hi:Nat},dX n l h=some (lo,hi)->hi<=n/\lo<=hi:=by
  intro n lo hi e;unfold dX at e
  grind
 unfold iG at B;split at B
 .rename_i es I;split at B
  .rename_i L;obtain⟨⟨lo,hi⟩,w,rfl⟩:=ζf.1 B;obtain⟨Q,W⟩:=G w;rcases D.mV with rfl|⟨id,off,O,rfl,S,hr,X,T⟩
   .refine⟨_,by simp[iG,if_pos L,w],.same _ ?_⟩
    have hg:=D.good;refine lE.2 λj u hu=>?_
    rw[List.getElem?_drop,List.getElem?_take]at hu;split at hu
    .exact lE.1 hg _ u hu
    grind
   refine⟨.hsl id es (off+lo) (hi-lo),by simp[iG,if_pos L,w],?_⟩
   have C:((I.take hi).drop lo).length=hi-lo:=by simp_all
   rw[<-C];refine FR.Nn S hr Zac ?_
   have:=(T.take hi).drop lo;have e:List.drop lo (List.take hi (List.take I.length (List.drop off O)))=List.take (hi-lo) (List.drop (off+lo) O):=by
    rw[List.take_take,Nat.min_eq_left Q,List.drop_take,List.drop_drop]
   grind
  grind
 .exact absurd D.closed (by simp[V.closed])
 .rw[D.dL];obtain⟨_,w,rfl⟩:=ζf.1 B;exact⟨.dL,by simp[iG,w],.same _ rfl⟩
 .rw[D.bM];obtain⟨_,w,rfl⟩:=ζf.1 B;exact⟨.bM,by simp[iG,w],.same _ rfl⟩
 grind
theorem dB.mz {lo hi:Bool} {G D:List V} {r:Option Int×Option Int} (h:dB H Z G D) (B:mz lo hi G=some r):Go.VE.mz lo hi D=some r:=by
 unfold Go.VE.mz at B;split at B
 .rw[h.c9];exact B
 .obtain⟨_,_,rfl,h1,u⟩:=h.inv;rw[h1.int,u.c9];exact B
 .obtain⟨_,_,rfl,h1,u⟩:=h.inv;rw[h1.int,u.c9];exact B
 .obtain⟨_,_,rfl,h1,u⟩:=h.inv;obtain⟨_,_,rfl,w,z⟩:=u.inv;rw[h1.int,w.int,z.c9];exact B
 grind
theorem dB.bl {N:Nat->FuncId} {p:vL} {xs ys:List V} {z:V} (Y:∀zero pl,p=.build zero pl->V.cE zero=true) (h:dB H Z xs ys) (hp:bl N p xs=some z):∃U,Go.VE.bl N p ys=some U/\FR H Z z U:=by
 unfold Go.VE.bl at hp;split at hp
 .
  obtain⟨y,_,rfl,h1,w⟩:=h.inv;rw[w.c9];simp only[ζa]at hp;subst hp;exact⟨y,rfl,h1⟩
 .
  rename_i t a b;obtain⟨w1,_,rfl,h1,w⟩:=h.inv;obtain⟨w2,_,rfl,B,C⟩:=w.inv;obtain⟨w3,_,rfl,S,T⟩:=C.inv;rw[h1.bool,T.c9];simp only[ζa]at hp;subst hp;refine⟨if t=true then w2 else w3,rfl,?_⟩;cases t
  .exact S
  exact B
 .
  obtain⟨y,_,rfl,h1,w⟩:=h.inv;rw[w.c9];unfold NP at hp;split at hp
  .exact absurd h1.closed (by simp[V.closed])
  .simp only[ζa]at hp;subst hp;rcases h1.nh with rfl|⟨_,_,_,_,_,_,rfl,_⟩
   .exact⟨_,rfl,h1⟩
   exact⟨_,rfl,h1⟩
  .simp only[ζa]at hp;subst hp;obtain⟨_,_,rfl,_⟩:=h1.kN;exact⟨_,rfl,h1⟩
  simp at hp
 .
  obtain⟨_,_,rfl,h1,w⟩:=h.inv;obtain⟨_,_,rfl,B,C⟩:=w.inv;rw[C.c9];exact⟨z,FR.bin h1 B hp,.same _ (Lp hp)⟩
 .obtain⟨_,_,rfl,h1,w⟩:=h.inv;rw[h1.bool,w.c9];simp only[ζa]at hp;subst hp;exact⟨_,rfl,.same _ rfl⟩
 .obtain⟨_,_,rfl,h1,w⟩:=h.inv;rw[h1.int,w.c9];simp only[ζa]at hp;subst hp;exact⟨_,rfl,.same _ rfl⟩
 .obtain⟨_,_,rfl,h1,w⟩:=h.inv;rw[h1.int,w.c9];simp only[ζa]at hp;subst hp;exact⟨_,rfl,.same _ rfl⟩
 .
  rename_i off p;obtain⟨y,_,rfl,h1,w⟩:=h.inv;rw[w.c9];unfold iD at hp;split at hp
  .split at hp
   .rename_i cs X;simp only[ζa]at hp;subst hp;rcases h1.nh with rfl|⟨id,el,o,es,ys,ds,rfl,W,hr,Q,aa,O⟩
    .have hg:=h1.good;simp only[V.good]at hg;exact⟨_,by simp only[Go.VE.bl,iD,if_pos X],.same _ (by simp only[V.good];exact Aj _ hg)⟩
    refine⟨.hptr id el (o+off),rfl,FR.E7 W hr Q (by have:=O.1;simp at this;omega) ?_⟩
    have:=O.drop off;rw[List.drop_drop]at this;exact this
   simp at hp
  .exact absurd h1.closed (by simp[V.closed])
  simp at hp
 .
  rename_i off size agg cs;obtain⟨y,_,rfl,h1,w⟩:=h.inv;rw[w.c9];obtain⟨ab,rfl,hc⟩:=h1.jc;obtain⟨r,hr,hm⟩:=ζg.1 hp;obtain⟨r',J,I⟩:=hc.cut hr;obtain⟨U,D,G⟩:=I.mk hm;exact⟨U,by simp only[Go.VE.bl,J,ζb,D],G⟩
 .
  rename_i size s k n;obtain⟨y,_,rfl,h1,w⟩:=h.inv;obtain⟨_,_,rfl,B,C⟩:=w.inv;rw[B.int,C.c9];unfold mH at hp;split at hp
  .simp at hp
  rename_i L;split at hp
  .rename_i es xs;split at hp
   .rename_i Q;obtain⟨c,hc,rfl⟩:=ζf.1 hp;rcases h1.mV with rfl|⟨id,off,ys,rfl,W,hr,hl,O⟩
    .have hg:=h1.good;simp only[V.good]at hg;exact⟨_,by simp only[Go.VE.bl,mH,if_neg L,if_pos Q,hc,Option.map_some],.same _ (by simp only[V.good];exact lE.1 hg _ _ hc)⟩
    have hj:n.toNat<xs.length:=(ζe.1 hc).1;obtain⟨d,hd,ad⟩:=O.get hc;rw[List.getElem?_take,if_pos hj,List.getElem?_drop]at hd;exact⟨.hptr id (off+n.toNat) 0,by simp only[Go.VE.bl,mH,if_neg L,if_pos (And.intro Q hj)],FR.E7 W hr hd Zab (by simpa using ad)⟩
   simp at hp
  .exact absurd h1.closed (by simp[V.closed])
  simp at hp
 .
  rename_i len size s k n;obtain⟨y,_,rfl,h1,w⟩:=h.inv;obtain⟨_,_,rfl,B,C⟩:=w.inv;rw[B.int,C.c9];unfold yh at hp;split at hp
  .rename_i L;split at hp
   .split at hp
    .rename_i cs X;simp only[ζa]at hp;subst hp;rcases h1.nh with rfl|⟨id,el,o,es,ys,ds,rfl,W,hr,Q,aa,O⟩
     .have hg:=h1.good;simp only[V.good]at hg;exact⟨_,by simp only[Go.VE.bl,yh,if_pos L,if_pos X],.same _ (by simp only[V.good];exact Aj _ hg)⟩
     refine⟨.hptr id el (o+n.toNat*size),by simp only[Go.VE.bl,yh,if_pos L],FR.E7 W hr Q (by have:=O.1;simp at this;omega) ?_⟩
     have:=O.drop (n.toNat*size);rw[List.drop_drop]at this;exact this
    simp at hp
   .exact absurd h1.closed (by simp[V.closed])
   simp at hp
  simp at hp
 .
  rename_i s k n;obtain⟨y,_,rfl,h1,w⟩:=h.inv;obtain⟨_,_,rfl,B,C⟩:=w.inv;rw[h1.str,B.int,C.c9];split at hp
  next L=>obtain⟨c,hc,rfl⟩:=ζf.1 hp;exact⟨_,by simp only[Go.VE.bl,if_pos L,hc,Option.map_some],.same _ rfl⟩
  simp at hp
 .
  rename_i len size agg cs k n;obtain⟨y,_,rfl,h1,w⟩:=h.inv;obtain⟨_,_,rfl,B,C⟩:=w.inv;rw[B.int,C.c9];obtain⟨ab,rfl,hc⟩:=h1.jc;split at hp
  next L=>obtain⟨r,hr,hm⟩:=ζg.1 hp;obtain⟨r',J,I⟩:=hc.cut hr;obtain⟨U,D,G⟩:=I.mk hm;exact⟨U,by simp only[Go.VE.bl,if_pos L,J,ζb,D],G⟩
  simp at hp
 .
  rename_i lo hi s bs;obtain⟨y,_,rfl,h1,w⟩:=h.inv;rw[h1.str];obtain⟨⟨l,h'⟩,hb,hp⟩:=ζg.1 hp;obtain⟨⟨l2,ah⟩,ae,rfl⟩:=ζf.1 hp;exact⟨_,by simp only[Go.VE.bl,w.mz hb,ζb,ae,Option.map_some],.same _ rfl⟩
 .
  rename_i size lo hi s bs;obtain⟨y,_,rfl,h1,w⟩:=h.inv;obtain⟨⟨l,h'⟩,hb,hp⟩:=ζg.1 hp;obtain⟨U,D,G⟩:=FR.slice h1 hp;exact⟨U,by simp only[Go.VE.bl,w.mz hb,ζb,D],G⟩
 .
  obtain⟨y,_,rfl,h1,w⟩:=h.inv;obtain⟨_,_,rfl,B,C⟩:=w.inv;obtain⟨_,_,rfl,S,T⟩:=C.inv;rw[B.int,S.int,T.c9];split at hp
  .rename_i hc;simp only[ζa]at hp;subst hp;refine⟨.dL,?_,.same _ rfl⟩;simp only[ζh]at hc;have:Oz y=true:=by
    have h0:=hc.1.1;unfold Oz at h0;split at h0
    .rcases h1.mV with rfl|⟨_,_,_,rfl,_⟩ <;> rfl
    .exact absurd h1.closed (by simp[V.closed])
    .rw[h1.dL];rfl
    .rw[h1.bM];rfl
    simp at h0
   simp only[Go.VE.bl,this,hc.1.2,hc.2,Bool.and_self,if_true]
  simp at hp
 .
  rename_i vs zero pl;obtain⟨r,hr,rfl⟩:=ζf.1 hp;obtain⟨r',J,I⟩:=dB.fill (dB.same (Y zero pl rfl)) h hr;exact⟨.agg r',by simp only[Go.VE.bl,J,Option.map_some],.agg _ _ I.1 I.2⟩
 .
  rename_i vs name k;simp only[ζa]at hp;subst hp;exact⟨_,rfl,.clo _ _ _ _ _ (h.take k).1 (h.drop k).1 (h.take k).2 (h.drop k).2⟩
 .
  rename_i i vs;obtain⟨y,_,rfl,h1,w⟩:=h.inv;rw[w.c9];obtain⟨ws,rfl,hw⟩:=h1.qZ;obtain⟨U,D,G⟩:=hw.get hp;exact⟨U,D,G⟩
 .
  obtain⟨y,_,rfl,h1,w⟩:=h.inv;rw[h1.str,w.c9];simp only[ζa]at hp;subst hp;exact⟨_,rfl,.same _ rfl⟩
 .
  obtain⟨y,_,rfl,h1,w⟩:=h.inv;rw[w.c9];unfold o8 at hp;split at hp
  .simp only[ζa]at hp;subst hp;rcases h1.mV with rfl|⟨_,_,_,rfl,_⟩ <;> exact⟨_,rfl,.same _ rfl⟩
  .exact absurd h1.closed (by simp[V.closed])
  .rw[h1.dL];simp only[ζa]at hp;subst hp;exact⟨_,rfl,.same _ rfl⟩
  .rw[h1.bM];simp only[ζa]at hp;subst hp;exact⟨_,rfl,.same _ rfl⟩
  simp at hp
 .
  obtain⟨y,_,rfl,h1,w⟩:=h.inv;rw[w.c9];unfold Ja at hp;split at hp
  .rw[h1.bM];simp only[ζa]at hp;subst hp;exact⟨_,rfl,.same _ rfl⟩
  .rw[h1.dL];simp only[ζa]at hp;subst hp;exact⟨_,rfl,.same _ rfl⟩
  simp at hp
 .
  obtain⟨_,_,rfl,h1,w⟩:=h.inv;obtain⟨_,_,rfl,B,C⟩:=w.inv;rw[h1.int,B.int,C.c9];split at hp
  next e=>simp only[ζa]at hp;subst hp;exact⟨_,by simp only[Go.VE.bl,if_pos e],.same _ rfl⟩
  simp at hp
 .
  obtain⟨_,_,rfl,h1,w⟩:=h.inv;obtain⟨_,_,rfl,B,C⟩:=w.inv;obtain⟨_,_,rfl,S,T⟩:=C.inv;obtain⟨_,_,rfl,h7,h8⟩:=T.inv;rw[h1.int,B.int,S.int,h7.int,h8.c9];split at hp
  next e=>simp only[ζa]at hp;subst hp;exact⟨_,by simp only[Go.VE.bl,if_pos e],.same _ rfl⟩
  simp at hp
 .
  obtain⟨_,_,rfl,h1,w⟩:=h.inv;obtain⟨_,_,rfl,B,C⟩:=w.inv;rw[h1.int,B.int,C.c9];split at hp
  next e=>simp only[ζa]at hp;subst hp;exact⟨_,by simp only[Go.VE.bl,if_pos e],.same _ rfl⟩
  simp at hp
 .
  obtain⟨_,_,rfl,h1,w⟩:=h.inv;obtain⟨_,_,rfl,B,C⟩:=w.inv;rw[h1.int,B.int,C.c9];split at hp
  .rename_i e;simp only[ζa]at hp;subst hp;refine⟨_,by simp only[Go.VE.bl,if_pos e],.same _ ?_⟩
   simp only[V.good];refine lE.2 λj u hu=>?_
   have:=List.eq_of_mem_replicate (List.mem_of_getElem? hu);subst this;exact iz.2 λi v hv=>kj (List.all_eq_true.1 e.2.2.2.2.2 v (List.mem_of_getElem? hv))
  simp at hp
 .
  split at hp
  .rename_i hc;obtain rfl:=h.scalar.1 hc.1;split at hp
   .rename_i xs af;split at hp
    .rename_i hx;simp only[ζa]at hp;subst hp;refine⟨_,by simp only[Go.VE.bl,if_pos hc,af,if_pos hx],.same _ ?_⟩
     simp only[V.good];exact lE.2 λj u hu=>iz.2 λi v hv=>kj (List.all_eq_true.1 (List.all_eq_true.1 hx.2 u (List.mem_of_getElem? hu)) v (List.mem_of_getElem? hv))
    simp at hp
   simp at hp
  simp at hp
 .simp only[ζa]at hp;subst hp;rw[h.c9];exact⟨_,rfl,.same _ rfl⟩
 simp at hp
end
def tn (p:Nat×Nat) (k:Fl) (es len:Nat):V:=
 match k with
 | .nil=>.bM
 | .emp=>.dL
 | _=>.hsl p.1 es p.2 len
abbrev Nu:=Nat->Nat×Nat
inductive dn (ν:Nu) (m:Tb bJ) (H:bn) (Z:Nat->Prop):SV->V->Prop
 | v (x y:V) (h:FR H Z x y):dn ν m H Z (.v x) y
 | own (d:Nat) (y:V) (h:∀ob,bh m d=some ob->∃k es xs,ob=.sl k es xs/\y=tn (ν d) k es xs.length):dn ν m H Z (.own d) y
 | ptr (d o:Nat) (y:V) (h:∀ob,bh m d=some ob->∃cs,ob=.box cs/\y=.hptr (ν d).1 0 o):dn ν m H Z (.ptr d o) y
 | el (d i o:Nat) (y:V) (h:∀ob,bh m d=some ob->∃k es xs,ob=.sl k es xs/\cO k=true/\y=.hptr (ν d).1 ((ν d).2+i) o):dn ν m H Z (.el d i o) y
 | mp (d:Nat) (y:V) (h:∀ob,bh m d=some ob->∃kvs,ob=.mp kvs/\y=.hmap (ν d).1):dn ν m H Z (.mp d) y
 | clo (f:FuncId) (a b:List SV) (a' b':List V) (ha:a.length=a'.length) (hb:b.length=b'.length)
  (hva:∀(j:Nat) u v,a[j]? = some u->a'[j]? = some v->dn ν m H Z u v) (hvb:∀(j:Nat) u v,b[j]? = some u->b'[j]? = some v->dn ν m H Z u v):dn ν m H Z (.clo f a b) (.clo f a' b')
 | tup (a:List SV) (a':List V) (ha:a.length=a'.length) (hva:∀(j:Nat) u v,a[j]? = some u->a'[j]? = some v->dn ν m H Z u v):dn ν m H Z (.tup a) (.tup a')
 | agg (a:List SV) (a':List V) (ha:a.length=a'.length) (hva:∀(j:Nat) u v,a[j]? = some u->a'[j]? = some v->dn ν m H Z u v):dn ν m H Z (.agg a) (.agg a')
 | yl (id:Nat):dn ν m H Z (.yl id) (.yld id)
def cg (ν:Nu) (m:Tb bJ) (H:bn) (Z:Nat->Prop) (xs:List SV) (ys:List V):Prop:=xs.length=ys.length/\∀(j:Nat) u v,xs[j]? = some u->ys[j]? = some v->dn ν m H Z u v
def cD:bJ->Bool
 | .sl k _ _=>cO k
 | _=>true
def fS (ν:Nu) (m:Tb bJ) (id:Nat):Prop:=∃d ob,bh m d=some ob/\cD ob=true/\(ν d).1=id
def wR (H:bn) (Z:Nat->Prop) (ys:List (List V)):Prop:=∀c∈ys,∀u∈c,∃x,FR H Z x u
def D4 (H:bn) (Z:Nat->Prop) (a b:List (V×V)):Prop:=a.length=b.length/\∀(j:Nat) u v,a[j]? = some u->b[j]? = some v->(u.1=v.1/\u.1.scalar=true)/\FR H Z u.2 v.2
def en (ν:Nu) (m:Tb bJ) (H:bn) (Z:Nat->Prop) (d:Nat):bJ->Prop
 | .sl k es xs=>if cO k then ∃ys,H[(ν d).1]? = some (.row es ys)/\(ν d).2+xs.length<=ys.length/\gH H Z xs ((ys.drop (ν d).2).take xs.length)/\wR H Z ys/\(k=.row->(ν d).2=0/\ys.length=xs.length)
  else xs=[]
 | .box cs=>∃es D,H[(ν d).1]? = some (.row es [D])/\cg ν m H Z cs D/\D.all V.one=true
 | .mp G=>∃B,H[(ν d).1]? = some (.map B)/\D4 H Z G B
structure R (ν:Nu) (Z:Nat->Prop) (st:St) (F:Frame) (H:bn):Prop where
 slot:∀s sv,bh st.g s=some sv->dn ν st.m H Z sv (get F s)
 obj:∀d ob,bh st.m d=some ob->en ν st.m H Z d ob
 inj:∀d d' ob ob',bh st.m d=some ob->bh st.m d'=some ob'->cD ob=true->cD ob'=true->(ν d).1=(ν d').1->d=d'
 apart:∀d ob,bh st.m d=some ob->cD ob=true->¬Z (ν d).1
 zrow:∀id,Z id->(bq H id).isSome=true
 deep:Deep H Z
def sameShape:bJ->bJ->Prop
 | .sl k es xs,.sl G B D=>G=k/\B=es/\D.length=xs.length
 | .box _,.box _=>True
 | .mp _,.mp _=>True
 | _,_=>False
theorem sameShape.refl (o:bJ):sameShape o o:=by cases o <;> simp[sameShape]
theorem sameShape.trans {a b c:bJ} (h:sameShape a b) (k:sameShape b c):sameShape a c:=by
 cases a <;> cases b <;> cases c <;> simp[sameShape]at*<;> simp_all
structure Ev (Rv:Nat->Prop) (ν:Nu) (Z:Nat->Prop) (st:St) (H:bn) (ν':Nu) (Z':Nat->Prop) (st':St) (H':bn):Prop where
 len:H.length<=H'.length
 same:∀id,id<H.length->¬fS ν st.m id->¬Z id->¬Rv id->H'[id]? = H[id]?
 rows:∀id,Z id->Z' id/\bq H' id=bq H id
 own:∀id,fS ν' st'.m id->fS ν st.m id\/Rv id\/H.length<=id
 frz:∀id,Z' id->Z id\/fS ν st.m id\/Rv id\/H.length<=id
 pin:∀d∈st.pin,∀ob',bh st'.m d=some ob'->∃ob,bh st.m d=some ob/\ν' d=ν d/\sameShape ob ob'
 pins:st'.pin=st.pin
section
variable {Rv Rv':Nat->Prop} {ν ν' ν2:Nu} {Z Z' Z2:Nat->Prop} {st st' st2:St} {m m':Tb bJ} {F F':Frame} {H H' H2:bn}
theorem Ev.refl:Ev Rv ν Z st H ν Z st H:=
 ⟨Nat.le_refl _,λ_ _ _ _ _=>rfl,λ_ h=>⟨h,rfl⟩,λ_ h=>.inl h,λ_ h=>.inl h,λ_ _ u h=>⟨u,h,rfl,.refl _⟩,rfl⟩
theorem Ev.trans (a:Ev Rv ν Z st H ν' Z' st' H') (b:Ev Rv ν' Z' st' H' ν2 Z2 st2 H2):Ev Rv ν Z st H ν2 Z2 st2 H2 where
 len:=Nat.le_trans a.len b.len
 same:=λid B u C hr=>by
  rw[b.same id (Nat.lt_of_lt_of_le B a.len) (λh=>(a.own id h).elim u λh=>h.elim hr λh=>by omega) (λh=>(a.frz id h).elim C λh=>h.elim u λh=>h.elim hr λh=>by omega) hr,a.same id B u C hr]
 rows:=λid h=>⟨(b.rows id (a.rows id h).1).1,by rw[(b.rows id (a.rows id h).1).2,(a.rows id h).2]⟩
 own:=λid h=>by
  rcases b.own id h with h|h|h
  .exact a.own id h
  .grind
  exact .inr (.inr (Nat.le_trans a.len h))
 frz:=λid h=>by
  rcases b.frz id h with h|h|h|h
  .exact a.frz id h
  .rcases a.own id h with h|h|h
   .grind
   .grind
   grind
  .grind
  exact .inr (.inr (.inr (Nat.le_trans a.len h)))
 pin:=λd hd w h=>by
  obtain⟨z,h1,G,D⟩:=b.pin d (by rw[a.pins];omega) w h
  obtain⟨ob,k1,k2,k3⟩:=a.pin d hd z h1;exact⟨ob,k1,by simp_all,k3.trans D⟩
 pins:=by rw[b.pins,a.pins]
theorem Ev.weak (h:∀id,Rv id->Rv' id) (a:Ev Rv ν Z st H ν' Z' st' H'):Ev Rv' ν Z st H ν' Z' st' H':=
 ⟨a.len,λid u w z hr=>a.same id u w z (λk=>hr (h id k)),a.rows,λid k=>(a.own id k).imp (λx=>x) (.imp (h id) (λx=>x)),λid k=>(a.frz id k).imp (λx=>x) (.imp (λx=>x) (.imp (h id) (λx=>x))),a.pin,a.pins⟩
theorem cI {α:Type}:∀(g:Tb α) (n:Nat) (v:α),bh (bN g n v) n=some v
 | [],n,v=>by simp[bN,bh]
 | (k,x)::r,n,v=>by
  simp[bN];split
  next h=>simp[bh,h]
  rename_i h;simp[bh,h,cI r n v]
theorem dW {α:Type}:∀(g:Tb α) {n k:Nat} (v:α),n≠k->bh (bN g n v) k=bh g k
 | [],n,k,v,h=>by simp[bN,bh,h]
 | (j,x)::r,n,k,v,h=>by
  simp[bN];split
  next hk=>subst hk;simp[bh,h]
  simp[bh];split
  .rfl
  exact dW r v h
theorem qN {α:Type}:∀{g:Tb α} {n:Nat} {v:α},bh g n=some v->bN g n v=g
 | [],n,v,h=>by cases h
 | (k,x)::r,n,v,h=>by
  simp[bh]at h;simp[bN];split
  .grind
  rename_i e;rw[if_neg e]at h;rw[qN h]
theorem xC {α:Type}:∀(g:Tb α) (n:Nat),bh (eo n g) n=none
 | [],n=>rfl
 | (k,x)::r,n=>by
  simp[eo];split
  .exact xC r n
  rename_i hk;simp[bh];rw[if_neg hk];exact xC r n
theorem xB {α:Type}:∀(g:Tb α) {n k:Nat},n≠k->bh (eo n g) k=bh g k
 | [],n,k,h=>rfl
 | (j,x)::r,n,k,h=>by
  simp[eo];split
  next hk=>subst hk;simp[bh];rw[if_neg h];exact xB r h
  simp[bh];split
  .rfl
  exact xB r h
theorem pe {α:Type} {g:Tb α} {n k:Nat} {v:α} (h:bh (eo n g) k=some v):n≠k/\bh g k=some v:=by
 by_cases e:n=k
 .subst e;rw[xC]at h;simp_all
 rw[xB g e]at h;grind
theorem pG {α:Type} {k:Nat} {v:α}:∀{ds:List Nat} {g:Tb α},bh (oH ds g) k=some v->bh g k=some v
 | [],_,h=>h
 | d::ds,g,h=>(pe (pG  h)).2
theorem rO {α:Type} {g:Tb α} {k:Nat} {v:α}:∀{l:List Nat} {r:Tb α},kr g l=some r->bh r k=some v->bh g k=some v
 | [],r,h,B=>by simp[kr]at h;subst h;simp[bh]at B
 | n::l,r,h,B=>by
  simp[kr]at h;split at h
  .rename_i w t G D;simp  at h;subst h;simp[bh]at B;split at B
   .grind
   exact rO D B
  grind
theorem Ao {d:Nat}:∀{g:Tb SV} {s:Nat} {sv:SV},wJ d g=false->bh g s=some sv->sv.c6 d=false
 | [],_,_,_,h=>by simp[bh]at h
 | (k,x)::r,s,sv,h,B=>by
  simp[wJ]at h;simp[bh]at B;split at B
  .grind
  exact Ao h.2 B
theorem zV {d:Nat}:∀{g:Tb bJ} {s:Nat} {ob:bJ},tM d g=false->bh g s=some ob->ob.c6 d=false
 | [],_,_,_,h=>by simp[bh]at h
 | (k,x)::r,s,sv,h,B=>by
  simp[tM]at h;simp[bh]at B;split at B
  .grind
  exact zV h.2 B
theorem uR {d:Nat}:∀{l:List SV} {j:Nat} {u:SV},SV.dK d l=false->l[j]? = some u->u.c6 d=false
 | [],_,_,_,h=>by simp_all
 | x::r,j,u,h,B=>by
  simp[SV.dK]at h
  cases j with
  | zero=>grind
  | succ j=>exact uR h.2 (by simpa using B)
theorem tg {d:Nat}:∀{l:List SV} {j:Nat} {u:SV},l[j]? = some u->u.c6 d=true->SV.dK d l=true
 | [],_,_,h,_=>by simp_all
 | x::r,j,u,h,B=>by
  simp[SV.dK]
  cases j with
  | zero=>grind
  | succ j=>exact .inr (tg (j:=j) Zac B)
theorem dn.mono {sv:SV} {y:V} (U:∀id,Z id->Z' id/\bq H' id=bq H id)
 (r:dn ν m H Z sv y) (B:∀d,sv.c6 d=true->∀ob',bh m' d=some ob'->∃ob,bh m d=some ob/\ν' d=ν d/\sameShape ob ob'):dn ν' m' H' Z' sv y:=by
 induction r with
 | v x y h=>exact .v x y (h.mono U)
 | own d y h=>
  refine .own d y λob' z=>?_
  obtain⟨ob,h1,I,C⟩:=B d (by simp[SV.c6]) ob' z
  obtain⟨k,es,L,rfl,rfl⟩:=h ob h1;cases ob' <;> simp[sameShape]at C
  grind
 | ptr d o y h=>
  refine .ptr d o y λob' z=>?_
  obtain⟨ob,h1,I,C⟩:=B d (by simp[SV.c6]) ob' z
  obtain⟨cs,rfl,rfl⟩:=h ob h1;cases ob' <;> simp[sameShape]at C
  grind
 | el d i o y h=>
  refine .el d i o y λob' z=>?_
  obtain⟨ob,h1,I,C⟩:=B d (by simp[SV.c6]) ob' z
  obtain⟨k,es,L,rfl,T,rfl⟩:=h ob h1;cases ob' <;> simp[sameShape]at C
  grind
 | mp d y h=>
  refine .mp d y λob' z=>?_
  obtain⟨ob,h1,I,C⟩:=B d (by simp[SV.c6]) ob' z
  obtain⟨cs,rfl,rfl⟩:=h ob h1;cases ob' <;> simp[sameShape]at C
  grind
 | clo f a b D O G Q hva S w J=>
  exact .clo f a b D O G Q (λj u v hu hv=>w j u v hu hv λd hd=>B d (by simp[SV.c6,tg hu hd])) (λj u v hu hv=>J j u v hu hv λd hd=>B d (by simp[SV.c6,tg hu hd]))
 | tup a D G hva w=>
  exact .tup a D G (λj u v hu hv=>w j u v hu hv λd hd=>B d (by simp[SV.c6,tg hu hd]))
 | agg a D G hva w=>
  exact .agg a D G (λj u v hu hv=>w j u v hu hv λd hd=>B d (by simp[SV.c6,tg hu hd]))
 | yl id=>exact .yl id
theorem cg.mono {sv:List SV} {y:List V} (B:∀id,Z id->Z' id/\bq H' id=bq H id)
 (r:cg ν m H Z sv y) (D:∀d,SV.dK d sv=true->∀ob',bh m' d=some ob'->∃ob,bh m d=some ob/\ν' d=ν d/\sameShape ob ob'):cg ν' m' H' Z' sv y:=
 ⟨r.1,λj u v hu hv=>(r.2 j u v hu hv).mono B λd hd=>D d (tg hu hd)⟩
theorem cg.nil:cg ν m H Z [] []:=⟨rfl,by simp⟩
theorem cg.cons {x:SV} {y:V} {xs:List SV} {ys:List V} (h:dn ν m H Z x y) (r:cg ν m H Z xs ys):cg ν m H Z (x::xs) (y::ys):=by
 refine⟨by simp[r.1],λj u v hu hv=>?_⟩
 cases j with
 | zero=>grind
 | succ j=>exact r.2 j u v Zac Zac
theorem cg.inv {x:SV} {xs:List SV} {B:List V} (r:cg ν m H Z (x::xs) B):∃y ys,B=y::ys/\dn ν m H Z x y/\cg ν m H Z xs ys:=by
 cases B with
 | nil=>have:=r.1;grind
 | cons y ys=>
  refine⟨y,ys,rfl,r.2 0 x y rfl rfl,by have:=r.1;grind,λj u v hu hv=>r.2 (j+1) u v Zac Zac⟩
theorem cg.c9 {B:List V} (r:cg ν m H Z [] B):B=[]:=by
 have:=r.1
 grind
theorem cg.get {xs:List SV} {ys:List V} (r:cg ν m H Z xs ys) {j:Nat} {u:SV} (h:xs[j]? = some u):∃v,ys[j]? = some v/\dn ν m H Z u v:=by
 have w  := (ζe.1 h).1;have:j<ys.length:=by rw[<-r.1];omega
 exact⟨ys[j],ζd this,r.2 j u _ h (ζd this)⟩
theorem cg.append {a c:List SV} {b d:List V} (h:cg ν m H Z a b) (k:cg ν m H Z c d):cg ν m H Z (a++c) (b++d):=by
 refine⟨by simp[h.1,k.1],λj u v hu hv=>?_⟩
 by_cases w:j<a.length
 .rw[List.getElem?_append_left w]at hu;rw[List.getElem?_append_left (by rw[<-h.1];omega)]at hv
  exact h.2 j u v hu hv
 rw[List.getElem?_append_right Zaa]at hu
 rw[List.getElem?_append_right (by rw[<-h.1];omega),<-h.1]at hv
 exact k.2 _ u v hu hv
theorem cg.take {a:List SV} {b:List V} (h:cg ν m H Z a b) (n:Nat):cg ν m H Z (a.take n) (b.take n):=by
 refine⟨by simp[h.1],λj u v hu hv=>?_⟩
 rw[List.getElem?_take]at hu hv;split at hu
 next w=>rw[if_pos w]at hv;exact h.2 j u v hu hv
 grind
theorem cg.drop {a:List SV} {b:List V} (h:cg ν m H Z a b) (n:Nat):cg ν m H Z (a.drop n) (b.drop n):=by
 refine⟨by simp[h.1],λj u v hu hv=>?_⟩
 rw[List.getElem?_drop]at hu hv;exact h.2 _ u v hu hv
theorem dn.fr {x y:V} (r:dn ν m H Z (.v x) y):FR H Z x y:=by cases r;assumption
theorem cg.sB {xs ys:List V} (r:dB H Z xs ys):cg ν m H Z (xs.map .v) ys:=by
 refine⟨by simp[r.1],λj u v hu hv=>?_⟩
 rw[List.getElem?_map,ζf]at hu;obtain⟨x,w,rfl⟩:=hu;exact .v x v (r.2 j x v w hv)
theorem vJ:∀{svs:List SV} {xs:List V},dy svs=some xs->svs=xs.map .v
 | [],xs,h=>by simp[dy]at h;grind
 | x::r,xs,h=>by
  cases x <;> simp only[dy]at h <;> first|grind|skip
  obtain⟨t,B,rfl⟩:=ζf.1 h;rw[vJ B];rfl
theorem cg.Yh {xs ys:List V} (r:cg ν m H Z (xs.map .v) ys):dB H Z xs ys:=by
 refine⟨by have:=r.1;grind,λj u v hu hv=>?_⟩
 have:(xs.map SV.v)[j]? = some (.v u):=by grind
 exact(r.2 j _ v this hv).fr
end
section
variable {ν:Nu} {Z:Nat->Prop} {st:St} {m:Tb bJ} {F:Frame} {H H1:bn} {N:Nat->FuncId}
def qg (nm:FuncId->Option Nat):Operand->Option Arg
 | .tmp t=>some (.s t)
 | .const v=>match ofValue 4 v with
  | some c=>if c.good then some (.k c)else none
  | none=>none
 | .func f=>(nm f).map .f
 | .global g=>match bY.gl g with
  | some cs=>if(V.fptr cs).good then some (.k (.fptr cs))else none
  | none=>none
theorem Fv {nm:FuncId->Option Nat} (D:∀f s,nm f=some s->N s=f) {g:Tb SV} (G:∀s sv,bh g s=some sv->dn ν m H Z sv (get F s)) {o:Operand} {x:Arg} {sv:SV} (B:qg nm o=some x) (hv:rT N g x=some sv) :
 ∃y,ev F o=some y/\dn ν m H Z sv y:=by
 cases o with
 | tmp t=>
  simp[qg]at B;subst B;exact⟨get F t,rfl,G t sv hv⟩
 | const w=>
  simp[qg]at B;split at B
  .rename_i c hc;split at B
   next u=>simp  at B;subst B;simp[rT]at hv;subst hv;exact⟨c,hc,.v _ _ (.same _ u)⟩
   grind
  grind
 | func f=>
  simp[qg]at B;obtain⟨z,C,rfl⟩:=B;simp[rT]at hv;subst hv;exact⟨_,rfl,.v _ _ (by rw[D f z C];exact .same _ rfl)⟩
 | global i=>
  simp[qg]at B;split at B
  .rename_i c hc;split at B
   next u=>simp  at B;subst B;simp[rT]at hv;subst hv;exact⟨.fptr c,by simp[ev,hc],.v _ _ (.same _ u)⟩
   grind
  grind
theorem pN {nm:FuncId->Option Nat} (D:∀f s,nm f=some s->N s=f) {g:Tb SV} (G:∀s sv,bh g s=some sv->dn ν m H Z sv (get F s)):∀{os:List Operand} {xs:List Arg} {svs:List SV},
 os.mapM (qg nm)=some xs->bW N g xs=some svs->∃ys,fI F os=some ys/\cg ν m H Z svs ys
 | [],xs,svs,B,hv=>by
  simp  at B;subst B;simp[bW]at hv;subst hv;exact⟨[],rfl,.nil⟩
 | o::os,xs,svs,B,hv=>by
  simp[ζg]at B;obtain⟨x,J,ys,U,rfl⟩:=B;simp[bW]at hv;split at hv
  next v C h1 w=>simp  at hv;subst hv;obtain⟨a,B,z⟩:=Fv D G J h1;obtain⟨az,has,u⟩:=pN D G U w;exact⟨a::az,by simp[fI,B,has],.cons z u⟩
  grind
theorem dn.kK {d:Nat} {y:V} (r:dn ν m H Z (.own d) y) {ob:bJ} (h:bh m d=some ob):∃k es xs,ob=.sl k es xs/\y=tn (ν d) k es xs.length:=by
 cases r with|own _ _ u=>grind
theorem dn.qe {d o:Nat} {y:V} (r:dn ν m H Z (.ptr d o) y) {ob:bJ} (h:bh m d=some ob):∃cs,ob=.box cs/\y=.hptr (ν d).1 0 o:=by
 cases r with|ptr _ _ _ u=>grind
theorem dn.zz {d i o:Nat} {y:V} (r:dn ν m H Z (.el d i o) y) {ob:bJ} (h:bh m d=some ob):∃k es xs,ob=.sl k es xs/\cO k=true/\y=.hptr (ν d).1 ((ν d).2+i) o:=by
 cases r with|el _ _ _ _ u=>grind
theorem dn.Ff {d:Nat} {y:V} (r:dn ν m H Z (.mp d) y) {ob:bJ} (h:bh m d=some ob):∃B,ob=.mp B/\y=.hmap (ν d).1:=by
 cases r with|mp _ _ u=>grind
theorem dn.kN {f:FuncId} {a b:List SV} {y:V} (r:dn ν m H Z (.clo f a b) y):∃a' B,y=.clo f a' B/\cg ν m H Z a a'/\cg ν m H Z b B:=by
 cases r with|clo _ _ _ a' B w z hva u=>exact⟨a',B,rfl,⟨w,hva⟩,⟨z,u⟩⟩
theorem dn.qZ {a:List SV} {y:V} (r:dn ν m H Z (.tup a) y):∃a',y=.tup a'/\cg ν m H Z a a':=by
 cases r with|tup _ a' u hva=>exact⟨a',rfl,u,hva⟩
theorem dn.jc {a:List SV} {y:V} (r:dn ν m H Z (.agg a) y):∃a',y=.agg a'/\cg ν m H Z a a':=by
 cases r with|agg _ a' u hva=>exact⟨a',rfl,u,hva⟩
theorem ta {p:Nat×Nat} {k:Fl} {es len:Nat} (h:cO k=true):tn p k es len=.hsl p.1 es p.2 len:=by
 cases k <;> simp[cO]at h <;> rfl
theorem mK {x:SV} {y:V} (h:lZ m x=true) (r:dn ν m H Z x y):y.cells=[y]/\y.one=true:=by
 cases x with
 | v x=>simp[lZ]at h
 | own d=>
  obtain⟨ob,u⟩:=Option.isSome_iff_exists.1 h;obtain⟨k,es,w,rfl,rfl⟩:=r.kK u;cases k <;> exact⟨rfl,rfl⟩
 | ptr d o=>
  obtain⟨ob,u⟩:=Option.isSome_iff_exists.1 h;obtain⟨cs,rfl,rfl⟩:=r.qe u;exact⟨rfl,rfl⟩
 | el d i o=>
  obtain⟨ob,u⟩:=Option.isSome_iff_exists.1 h;obtain⟨k,es,w,rfl,_,rfl⟩:=r.zz u;exact⟨rfl,rfl⟩
 | mp d=>
  obtain⟨ob,u⟩:=Option.isSome_iff_exists.1 h;obtain⟨z,rfl,rfl⟩:=r.Ff u;exact⟨rfl,rfl⟩
 | clo f a b=>obtain⟨B,C,rfl,_⟩:=r.kN;exact⟨rfl,rfl⟩
 | tup l=>simp[lZ]at h
 | agg l=>simp[lZ]at h
 | yl id=>simp[lZ]at h
theorem Qn {x:SV} {y:V} (h:yG m x=true) (r:dn ν m H Z x y):y.one=true:=by
 cases x with
 | v x=>
  have u:=r.fr;have w:x.one=true:=h;have hc:=u.cells;have e:x.cells=[x]:=by cases x <;> first|rfl|(simp[V.one]at w)
  rw[e]at hc;have h1:=hc.one;have z:=hc.1
  cases y with
  | agg l=>
   cases u with
   | same _ _=>grind
   | agg _ _ _ _=>simp[V.one]at w
  | tup l=>
   cases u with
   | same _ _=>grind
   | tup _ _ _ _=>simp[V.one]at w
  | _=>rfl
 | own d=>exact(mK  (x:=.own d) h r).2
 | ptr d o=>exact(mK  (x:=.ptr d o) h r).2
 | el d i o=>exact(mK  (x:=.el d i o) h r).2
 | mp d=>exact(mK  (x:=.mp d) h r).2
 | clo f a b=>exact(mK  (x:=.clo f a b) h r).2
 | tup l=>simp[yG,lZ]at h
 | agg l=>simp[yG,lZ]at h
 | yl id=>simp[yG,lZ]at h
theorem G4 {l:List SV} {ys:List V} (h:l.all (yG m)=true) (r:cg ν m H Z l ys):ys.all V.one=true:=by
 refine List.all_eq_true.2 λy w=>?_
 obtain⟨j,z,e⟩:=List.mem_iff_getElem.1 w;have u:j<l.length:=by rw[r.1];omega
 exact Qn (List.all_eq_true.1 h _ (List.getElem_mem u)) (r.2 j _ y (ζd u) Zac)
theorem Qp {x:SV} {y:V} {c:List SV} (h:y8 m x=some c) (r:dn ν m H Z x y):cg ν m H Z c y.cells:=by
 unfold y8 at h;split at h
 .cases h;exact cg.sB r.fr.cells
 .cases h;obtain⟨z,rfl,u⟩:=r.jc;exact u
 split at h
 next w=>cases h;rw[(mK w r).1];exact .cons r .nil
 simp_all
theorem Jd:∀{pl:List (Nat×Nat)} {vs cells l:List SV} {B cells':List V},cg ν m H Z cells cells'->cg ν m H Z vs B->uc m cells pl vs=some l->∃D,lC cells' pl B=some D/\cg ν m H Z l D
 | [],[],cells,l,B,cells',hc,hv,h=>by
  rw[hv.c9];simp[uc]at h;subst h;exact⟨_,rfl,hc⟩
 | [],_::_,_,_,_,_,_,_,h=>by simp[uc]at h
 | _::_,[],_,_,_,_,_,_,h=>by simp[uc]at h
 | (off,size)::pl,v::vs,cells,l,B,cells',hc,hv,h=>by
  obtain⟨w,G,rfl,h1,J⟩:=hv.inv;simp only[uc]at h;split at h
  .rename_i c z;have hr:=Qp z h1;split at h
   .obtain⟨D,e1,e2⟩:=Jd   (cells':=cells'.take off++w.cells++cells'.drop (off+w.cells.length)) (by rw[<-hr.1];exact((hc.take off).append hr).append (hc.drop _)) J h
    have u:w.cells.length=size/\off+w.cells.length<=cells'.length:=by rw[<-hr.1,<-hc.1];omega
    simp[lC]
    grind
   simp_all
  simp_all
theorem JX {size o:Nat} {agg:Bool} {cs:List SV} {B:List V} {sv:SV} (h:cg ν m H Z cs B) (hp:wQ size agg ((cs.drop o).take size)=some sv):∃y,(cut B o size).bind (mk agg)=some y/\dn ν m H Z sv y:=by
 have u:=(h.drop o).take size;unfold wQ at hp;split at hp
 .have hc:cut B o size=some ((B.drop o).take size):=by
   unfold cut;rw[if_pos (by rw[<-u.1];omega)]
  rw[hc];split at hp
  .split at hp
   .rename_i G w;cases hp;have z  := by rw[vJ w]at u;exact u.Yh
    exact⟨_,by unfold mk;grind,.v _ _ (.agg _ _ z.1 z.2)⟩
   cases hp;exact⟨_,by unfold mk;grind,.agg _ _ u.1 u.2⟩
  split at hp
  next x w=>simp  at hp;subst hp;rw[w]at u;obtain⟨y,I,e,C,D⟩:=u.inv;rw[e,D.c9];exact⟨y,by unfold mk;grind,C⟩
  grind
 grind
theorem SG {p:vL} {svs:List SV} {ys:List V} {sv:SV} (hb:∀zero pl,p=.build zero pl->V.cE zero=true) (ho:∀d ob,bh m d=some ob->en ν m H Z d ob) (h:cg ν m H Z svs ys) (hp:yx N m p svs=some sv):∃y,bl N p ys=some y/\dn ν m H Z sv y:=by
 unfold yx at hp;split at hp
 .
  obtain⟨y,_,rfl,h1,w⟩:=h.inv;rw[w.c9];simp  at hp;subst hp;exact⟨y,rfl,h1⟩
 .obtain⟨y,_,rfl,h1,w⟩:=h.inv;rw[w.c9];split at hp
  next J=>simp  at hp;subst hp;obtain⟨ob,u⟩:=Option.isSome_iff_exists.1 J;obtain⟨cs,rfl,rfl⟩:=h1.qe u;exact⟨_,rfl,h1⟩
  grind
 .obtain⟨y,_,rfl,h1,w⟩:=h.inv;rw[w.c9];split at hp
  next J=>simp  at hp;subst hp;obtain⟨ob,u⟩:=Option.isSome_iff_exists.1 J;obtain⟨k,es,Q,rfl,hk,rfl⟩:=h1.zz u;exact⟨_,rfl,h1⟩
  grind
 .
  rename_i t a b;obtain⟨I,_,rfl,h1,w⟩:=h.inv;obtain⟨S,_,rfl,D,C⟩:=w.inv;obtain⟨w3,_,rfl,h5,h6⟩:=C.inv;rw[h1.fr.bool,h6.c9];simp  at hp;refine⟨if t=true then S else w3,rfl,?_⟩
  grind
 .
  obtain⟨I,_,rfl,h1,w⟩:=h.inv;obtain⟨S,_,rfl,D,C⟩:=w.inv;rw[D.fr.bM,C.c9];split at hp
  .rename_i k es Q u;split at hp
   .simp_all
   simp  at hp;subst hp;obtain⟨T,L,O,e,rfl⟩:=h1.kK u;cases e;cases k <;> first|grind|exact⟨_,rfl,.v _ _ (.same _ rfl)⟩
  grind
 .obtain⟨I,_,rfl,h1,w⟩:=h.inv;obtain⟨S,_,rfl,D,C⟩:=w.inv;rw[D.fr.bM,C.c9];split at hp
  .rename_i k es Q u;split at hp
   .simp_all
   simp  at hp;subst hp;obtain⟨T,L,O,e,rfl⟩:=h1.kK u;cases e;cases k <;> first|grind|exact⟨_,rfl,.v _ _ (.same _ rfl)⟩
  grind
 .
  obtain⟨y,_,rfl,h1,w⟩:=h.inv;rw[w.c9];split at hp
  next J=>simp  at hp;subst hp;obtain⟨ob,u⟩:=Option.isSome_iff_exists.1 J;obtain⟨cs,rfl,rfl⟩:=h1.qe u;exact⟨_,rfl,.ptr _ _ _ λG B=>by grind⟩
  grind
 .obtain⟨y,_,rfl,h1,w⟩:=h.inv;rw[w.c9];split at hp
  next J=>simp  at hp;subst hp;obtain⟨ob,u⟩:=Option.isSome_iff_exists.1 J;obtain⟨k,es,Q,rfl,hk,rfl⟩:=h1.zz u;exact⟨_,rfl,.el _ _ _ _ λG B=>by rw[u]at B;cases B;exact⟨_,_,_,rfl,hk,rfl⟩⟩
  simp at hp
 .
  obtain⟨I,_,rfl,h1,w⟩:=h.inv;obtain⟨S,_,rfl,D,C⟩:=w.inv;rw[D.fr.int,C.c9];split at hp
  .rename_i k es Q u;split at hp
   .rename_i hc;obtain⟨hk,rfl,hn,U⟩:=hc;simp  at hp;subst hp;obtain⟨T,L,O,e,rfl⟩:=h1.kK u;cases e;rw[ta hk];refine⟨.hptr (ν _).1 ((ν _).2+_) 0,by simp only[bl,mH,if_neg (Int.not_lt.2 hn),true_and,if_pos U];rfl,.el _ _ _ _ λG B=>?_⟩
    rw[u]at B;cases B;exact⟨_,_,_,rfl,hk,rfl⟩
   simp at hp
  simp at hp
 .
  obtain⟨I,_,rfl,h1,w⟩:=h.inv;obtain⟨S,_,rfl,D,C⟩:=w.inv;rw[D.fr.int,C.c9];split at hp
  .rename_i hc;simp  at hp;subst hp;obtain⟨ob,u⟩:=Option.isSome_iff_exists.1 hc.2.2;obtain⟨cs,rfl,rfl⟩:=h1.qe u;refine⟨.hptr (ν _).1 0 (_+_),by simp only[bl,yh,if_pos (And.intro hc.1 hc.2.1)];rfl,.ptr _ _ _ λG B=>?_⟩
   rw[u]at B;cases B;exact⟨_,rfl,rfl⟩
  simp at hp
 .obtain⟨I,_,rfl,h1,w⟩:=h.inv;obtain⟨S,_,rfl,D,C⟩:=w.inv;rw[D.fr.int,C.c9];split at hp
  .rename_i hc;simp  at hp;subst hp;obtain⟨ob,u⟩:=Option.isSome_iff_exists.1 hc.2.2;obtain⟨k,es,Q,rfl,hk,rfl⟩:=h1.zz u;refine⟨.hptr (ν _).1 (_+_) (_+_),by simp only[bl,yh,if_pos (And.intro hc.1 hc.2.1)];rfl,.el _ _ _ _ λG B=>?_⟩
   rw[u]at B;cases B;exact⟨_,_,_,rfl,hk,rfl⟩
  simp at hp
 .
  obtain⟨I,_,rfl,h1,w⟩:=h.inv;rw[w.c9];split at hp
  .rename_i k es Q u;simp  at hp;subst hp;obtain⟨T,L,O,e,rfl⟩:=h1.kK u;cases e;have:=ho _ _ u;simp[en]at this;cases hk:k <;> simp[hk,cO]at this ⊢
   .subst this;exact⟨_,rfl,.v _ _ (.same _ rfl)⟩
   .subst this;exact⟨_,rfl,.v _ _ (.same _ rfl)⟩
   .exact⟨_,rfl,.v _ _ (.same _ rfl)⟩
   exact⟨_,rfl,.v _ _ (.same _ rfl)⟩
  simp at hp
 .
  rename_i vs name k;simp  at hp;subst hp;exact⟨_,rfl,.clo _ _ _ _ _ (h.take k).1 (h.drop k).1 (h.take k).2 (h.drop k).2⟩
 .
  obtain⟨I,_,rfl,h1,w⟩:=h.inv;rw[w.c9];obtain⟨ws,rfl,W⟩:=h1.qZ;obtain⟨z,hz,X⟩:=W.get hp;exact⟨z,hz,X⟩
 .
  rename_i vs zero pl;obtain⟨l,hl,rfl⟩:=ζf.1 hp;obtain⟨l',h1,w⟩:=Jd (cg.sB (dB.same (hb zero pl rfl))) h hl;exact⟨.agg l',by simp[Go.VE.bl,h1],.agg _ _ w.1 w.2⟩
 .
  obtain⟨I,_,rfl,h1,w⟩:=h.inv;rw[w.c9];obtain⟨ws,rfl,W⟩:=h1.jc;obtain⟨y,hy,Y⟩:=JX W hp;exact⟨y,by simp[Go.VE.bl];exact hy,Y⟩
 grind
theorem JF {p:vL} {svs:List SV} {ys:List V} {sv:SV} (B:∀zero pl,p=.build zero pl->V.cE zero=true) (D:∀d ob,bh m d=some ob->en ν m H Z d ob) (h:cg ν m H Z svs ys) (hp:jJ N m p svs=some sv) :
 ∃y,bl N p ys=some y/\dn ν m H Z sv y:=by
 unfold jJ at hp;split at hp
 next I u=>obtain⟨z,w,rfl⟩:=ζf.1 hp;rw[vJ u]at h;obtain⟨C,h1,G⟩:=dB.bl B h.Yh w;exact⟨C,h1,.v _ _ G⟩
 exact SG B D h hp
theorem cg.dy {svs:List SV} {xs ys:List V} (h:cg ν m H Z svs ys) (B:dy svs=some xs):dB H Z xs ys:=by
 rw[vJ B]at h;exact h.Yh
theorem C_ {k:V}:∀{a b:List (V×V)} {i:Nat},D4 H Z a b->(iK k a i=some none->iK k b i=some none)/\∀j v,iK k a i=some (some (j,v))->∃B,iK k b i=some (some (j,B))/\FR H Z v B
 | [],b,i,h=>by
  have:b=[]:=List.length_eq_zero_iff.1 (by have:=h.1;grind)
  subst this;exact⟨λh=>h,λj v h=>by simp[iK]at h⟩
 | (k1,x)::a,[],i,h=>by have:=h.1;grind
 | (k1,x)::a,(k2,y)::b,i,h=>by
  obtain⟨⟨e,_⟩,z⟩:=h.2 0 _ _ rfl rfl;subst e;have w:D4 H Z a b:=⟨by have:=h.1;grind,λj u v hu hv=>h.2 (j+1) u v Zac Zac⟩
  have C:=C_ (i:=i+1) (k:=k) w;simp only[iK]
  grind
theorem wO {kk:yW} {k:V} (h:qD kk k=true):k.scalar=true:=by
 unfold qD at h;split at h
 .rfl
 .rfl
 .simp  at h;obtain⟨a,u⟩:=Option.isSome_iff_exists.1 h.2;exact sA u
 grind
theorem xM {r:LC} {svs:List SV} {ys:List V} {sv:SV} (ad:∀s a,r≠.loadF s a) (W:∀kk z ok,r=.lookup kk z ok->z.good=true) (h:cg ν m H Z svs ys) (ho:∀d,SV.dK d svs=true->∀ob,bh m d=some ob->en ν m H Z d ob) (hp:oF m r svs=some sv) :
 ∃y,eZ H r ys=some y/\dn ν m H Z sv y:=by
 unfold oF at hp;split at hp
 .
  obtain⟨X,_,rfl,h1,J⟩:=h.inv;rw[J.c9];split at hp
  .rename_i cs u;obtain⟨am,e,rfl⟩:=h1.qe u;obtain⟨es,an,hr,hc,_⟩:=ho _ (by simp[SV.dK,SV.c6]) _ u
   obtain⟨y,hy,ae⟩:=JX hc hp;refine⟨y,?_,ae⟩;simp[eZ,ey,hr,Ob.rows,List.getElem?_cons_zero];omega
  grind
 .
  obtain⟨X,_,rfl,h1,J⟩:=h.inv;rw[J.c9];split at hp
  .rename_i k es xs u;split at hp
   .rename_i cs Y;obtain⟨z,L,rfl⟩:=ζf.1 hp;obtain⟨k1,ao,ap,e,hk,rfl⟩:=h1.zz u;cases e;have:=ho _ (by simp[SV.dK,SV.c6]) _ u
    simp[en,hk]at this;obtain⟨rs,hr,hl,B,_⟩:=this;obtain⟨c,hc,af⟩:=B.get Y;have hj:=(ζe.1 Y).1;rw[List.getElem?_take,if_pos hj,List.getElem?_drop]at hc;obtain⟨r1,w,C⟩:=ζg.1 L;obtain⟨r2,Q,D⟩:=af.cut w;obtain⟨z',S,aa⟩:=D.mk C;refine⟨z',?_,.v _ _ aa⟩;simp[eZ,ey,hr,Ob.rows,hc,Q,S]
   grind
  grind
 .
  rename_i size agg p;obtain⟨X,_,rfl,h1,J⟩:=h.inv;rw[J.c9];obtain⟨z,L,rfl⟩:=ζf.1 hp;obtain⟨r1,w,C⟩:=ζg.1 L;unfold ey at w;split at w
  .rename_i cs;rcases h1.fr.nh with rfl|⟨id,el,off,es,ys,ah,rfl,aa,hr,he,aq,B⟩
   .refine⟨z,by simp[eZ,ey,w,C],.v _ _ (.same _ ?_)⟩
    have ai  := by have:=h1.fr.good;simpa [V.good]using this
    obtain⟨r',ar,D⟩:=(dB.same (H:=H) (Z:=Z) ai).cut w;obtain⟨z',S,G⟩:=D.mk C;exact G.good
   obtain⟨r2,Q,D⟩:=B.cut w;obtain⟨z',S,G⟩:=D.mk C;refine⟨z',?_,.v _ _ G⟩;unfold bq at hr;simp[eZ,ey,hr,he];have:cut ah off size=some r2:=by
    unfold cut at Q ⊢
    grind
   grind
  .grind
  grind
 .
  rename_i kk z ok d k;obtain⟨X,_,rfl,h1,J⟩:=h.inv;obtain⟨w2,_,rfl,h3,h4⟩:=J.inv;rw[h4.c9];split at hp
  .rename_i T u;split at hp
   .rename_i hk;obtain⟨_,e,rfl⟩:=h1.Ff u;have U:=h3.fr.scalar.1 (wO hk);subst U;obtain⟨al,hr,aj⟩:=ho _ (by simp[SV.dK,SV.c6]) _ u
    obtain⟨f1,f2⟩:=C_   aj;split at hp
    .rename_i j v B;obtain⟨v',ak,ab⟩:=f2 j v B;simp  at hp;subst hp;refine⟨if ok=true then .tup [v',.bool true]else v',by simp[eZ,ny,hr,hk,ak],?_⟩
     cases ok
     .exact .v _ _ ab
     refine .v _ _ (.tup _ _ rfl (dB.cons ab (.cons (.same _ rfl) .nil)).2)
    .rename_i B;simp  at hp;subst hp;refine⟨if ok=true then .tup [z,.bool false]else z,by simp[eZ,ny,hr,hk,f1 B],?_⟩
     have L:=W kk z ok rfl;cases ok
     .exact .v _ _ (.same _ L)
     exact .v _ _ (.same _ (by simp[V.good,V.cE,L]))
    grind
   grind
  grind
 .
  rename_i kk z ok p k;obtain⟨X,_,rfl,h1,J⟩:=h.inv;obtain⟨w2,_,rfl,h3,h4⟩:=J.inv;rw[h4.c9];obtain⟨x,I,rfl⟩:=ζf.1 hp;simp[eZ]at I;have L:=W kk z ok rfl;split at I
  .rename_i T O;have key:ny H X=some T/\V.ud T=true:=by
    unfold ny at O;split at O
    .rw[h1.fr.gD];simp  at O;subst O;exact⟨rfl,rfl⟩
    .rw[h1.fr.fmap];simp  at O;subst O;exact⟨rfl,by have:=h1.fr.good;simpa [V.good]using this⟩
    .simp at O
    simp at O
   split at I
   .rename_i hk;have U:=h3.fr.scalar.1 (wO hk);subst U;split at I
    .rename_i j v B;simp  at I;subst I;have hv  := by
      have:∀{l:List (V×V)} {i:Nat},V.ud l=true->iK w2 l i=some (some (j,v))->v.good=true:=by
       intro l
       induction l with
       | nil=>intro i _ h;simp[iK]at h
       | cons p l ih=>
        intro i hg h;simp[V.ud]at hg;simp[iK]at h;split at h
        .obtain⟨_,rfl⟩:=h;exact hg.1.2
        .exact ih hg.2 h
        simp at h
      exact this key.2 B
     refine⟨if ok=true then .tup [v,.bool true]else v,by simp[eZ,key.1,hk,B],?_⟩
     cases ok
     .exact .v _ _ (.same _ hv)
     exact .v _ _ (.same _ (by simp[V.good,V.cE,hv]))
    .rename_i B;simp  at I;subst I;refine⟨if ok=true then .tup [z,.bool false]else z,by simp[eZ,key.1,hk,B],?_⟩
     cases ok
     .exact .v _ _ (.same _ L)
     exact .v _ _ (.same _ (by simp[V.good,V.cE,L]))
    simp at I
   simp at I
  simp at I
 .exact absurd rfl (ad _ _)
 grind
end
section
variable {Rv:Nat->Prop} {ν ν':Nu} {Z Z':Nat->Prop} {st st':St} {m m':Tb bJ} {F F':Frame} {H H':bn}
theorem R.lt (r:R ν Z st F H) {id:Nat} (h:fS ν st.m id):id<H.length:=by
 obtain⟨d,ob,h1,u,rfl⟩:=h;have:=r.obj d ob h1
 cases ob with
 | sl k es C=>
  simp only[cD]at u;simp only[en,u,if_true]at this;obtain⟨D,hr,_⟩:=this;exact(ζe.1 hr).1
 | box cs=>obtain⟨es,z,hr,_⟩:=this;exact(ζe.1 hr).1
 | mp B=>obtain⟨w,hr,_⟩:=this;exact(ζe.1 hr).1
theorem R.xq (r:R ν Z st F H) {id:Nat} (h:Z id):id<H.length:=by
 have:=r.zrow id h;unfold bq at this;obtain⟨x,u⟩:=Option.isSome_iff_exists.1 this;obtain⟨ob,h1,_⟩:=ζg.1 u;exact(ζe.1 h1).1
theorem Deep.mono (d:Deep H Z) (h:∀id,Z id->bq H' id=bq H id):Deep H' Z where
 row:=λid es z w hr c hc u hu=>by
  rw[h id w]at hr;obtain⟨x,B⟩:=d.row id es z w hr c hc u hu;exact⟨x,B.mono λk hk=>⟨hk,h k hk⟩⟩
theorem wR.mono {ys:List (List V)} (h:∀id,Z id->Z' id/\bq H' id=bq H id) (s:wR H Z ys):wR H' Z' ys:=λc hc u hu=>by
 obtain⟨x,w⟩:=s c hc u hu;exact⟨x,w.mono h⟩
theorem D4.mono {a b:List (V×V)} (h:∀id,Z id->Z' id/\bq H' id=bq H id) (s:D4 H Z a b):D4 H' Z' a b:=⟨s.1,λj u v hu hv=>⟨(s.2 j u v hu hv).1,(s.2 j u v hu hv).2.mono h⟩⟩
theorem en.mono {d G:Nat} {ob:bJ} (B:∀id,Z id->Z' id/\bq H' id=bq H id) (hd:ν' G=ν d) (D:cD ob=true->H'[(ν d).1]? = H[(ν d).1]?)
 (J:∀e,ob.c6 e=true->∀ob',bh m' e=some ob'->∃ob,bh m e=some ob/\ν' e=ν e/\sameShape ob ob') (o:en ν m H Z d ob):en ν' m' H' Z' G ob:=by
 cases ob with
 | sl k es S=>
  simp only[en,hd]at o ⊢;split
  next hk=>rw[if_pos hk]at o;obtain⟨I,h1,u,z,L,O⟩:=o;exact⟨I,by rw[D (by simpa [cD]using hk)];exact h1,u,z.mono B,L.mono B,O⟩
  rename_i hk;rw[if_neg hk]at o;exact o
 | box cs=>
  obtain⟨es,C,h1,u,z⟩:=o;exact⟨es,C,by rw[hd,D rfl];exact h1,u.mono B J,z⟩
 | mp Q=>
  obtain⟨w,h1,u⟩:=o;exact⟨w,by rw[hd,D rfl];exact h1,u.mono B⟩
theorem jm (ν:Nu) (m:Tb bJ) (e:Nat):∀ob',bh m e=some ob'->∃ob,bh m e=some ob/\ν e=ν e/\sameShape ob ob':=λob' h=>⟨ob',h,rfl,.refl _⟩
theorem R.heap (r:R ν Z st F H) (D:∀id,fS ν st.m id->H'[id]? = H[id]?) (B:∀id,Z id->bq H' id=bq H id):R ν Z st F H' where
 slot:=λs u w=>(r.slot s u w).mono (λid h=>⟨h,B id h⟩) λd _=>jm ν st.m d
 obj:=λd ob hd=>en.mono (λid h=>⟨h,B id h⟩) rfl (λz=>D _ ⟨d,ob,hd,z,rfl⟩) (λe _=>jm ν st.m e) (r.obj d ob hd)
 inj:=r.inj
 apart:=r.apart
 zrow:=λid h=>by rw[B id h];exact r.zrow id h
 deep:=r.deep.mono B
theorem R.put (r:R ν Z st F H) {d:Nat} {sv:SV} {y:V} (h:dn ν st.m H Z sv y):R ν Z { st with g:=bN st.g d sv } (set F d y) H where
 slot:=λs x u=>by
  by_cases e:d=s
  .subst e;rw[cI]at u;cases u;rw[ug];exact h
  rw[dW st.g sv e]at u;rw[iF _ _ e];exact r.slot s x u
 obj:=r.obj
 inj:=r.inj
 apart:=r.apart
 zrow:=r.zrow
 deep:=r.deep
theorem Ev.slots (g:Tb SV):Ev Rv ν Z st H ν Z { st with g:=g } H:=
 ⟨Nat.le_refl _,λ_ _ _ _ _=>rfl,λ_ h=>⟨h,rfl⟩,λ_ h=>.inl h,λ_ h=>.inl h,λ_ _ u h=>⟨u,h,rfl,.refl _⟩,rfl⟩
def jf (ν:Nu) (d:Nat) (p:Nat×Nat):Nu:=λk=>if k=d then p else ν k
theorem iw (ν:Nu) (d:Nat) (p:Nat×Nat):jf ν d p d=p:=if_pos rfl
theorem qd (ν:Nu) {d k:Nat} (p:Nat×Nat) (h:k≠d):jf ν d p k=ν k:=if_neg h
theorem nu {d:Nat} (h:st.new d=true):d∉st.pin/\bh st.m d=none/\wJ d st.g=false/\tM d st.m=false:=by
 unfold St.new at h;simp only[ζh,Bool.not_eq_true',Option.isNone_iff_eq_none,List.contains_eq_mem,decide_eq_false_iff_not]at h;exact⟨h.1.1.1,h.1.1.2,h.1.2,h.2⟩
theorem uC {d:Nat} {ob:bJ} {p:Nat×Nat} {e:Nat} (h:e≠d):∀ob',bh (bN m d ob) e=some ob'->∃ob,bh m e=some ob/\jf ν d p e=ν e/\sameShape ob ob':=λob' u=>by
 rw[dW m ob (Ne.symm h)]at u;exact⟨ob',u,qd ν p h,.refl _⟩
theorem R.add (r:R ν Z st F H) {d:Nat} (U:st.new d=true) {ob:bJ} {p:Nat×Nat} (G:cD ob=true->¬fS ν st.m p.1/\¬Z p.1) (W:en (jf ν d p) (bN st.m d ob) H Z d ob) :
 R (jf ν d p) Z { st with m:=bN st.m d ob } F H:=by
 obtain⟨T,X,O,Q⟩:=nu U;have key:∀w u,bh (bN st.m d ob) w=some u->w≠d->bh st.m w=some u:=λw u h e=>by rw[dW st.m ob (Ne.symm e)]at h;exact h
 refine⟨λs S J=>?_,λw u hd=>?_,?_,?_,r.zrow,r.deep⟩
 .refine(r.slot s S J).mono (λid h=>⟨h,rfl⟩) λe L=>uC ?_
  rintro rfl;rw[Ao O J]at L;cases L
 .by_cases e:w=d
  .subst e;simp only at hd;rw[cI]at hd;cases hd;exact W
  have C:=key w u hd e;refine en.mono (λid h=>⟨h,rfl⟩) (qd ν p e) (λ_=>rfl) (λk hk=>uC ?_) (r.obj w u C)
  rintro rfl;rw[zV Q C]at hk;cases hk
 .intro d1 d2 o1 o2 h1 D z I B
  by_cases e1:d1=d <;> by_cases e2:d2=d
  .rw[e1,e2]
  .subst e1;rw[iw,qd ν p e2]at B;simp only at h1;rw[cI]at h1;cases h1;exact absurd ⟨d2,o2,key d2 o2 D e2,I,B.symm⟩ (G z).1
  .subst e2;rw[iw,qd ν p e1]at B;simp only at D;rw[cI]at D;cases D;exact absurd ⟨d1,o1,key d1 o1 h1 e1,z,B⟩ (G I).1
  rw[qd ν p e1,qd ν p e2]at B;exact r.inj d1 d2 o1 o2 (key d1 o1 h1 e1) (key d2 o2 D e2) z I B
 intro d1 o1 h1 z
 by_cases e1:d1=d
 .subst e1;simp only at h1;rw[cI]at h1;cases h1;rw[iw];exact(G z).2
 rw[qd ν p e1];exact r.apart d1 o1 (key d1 o1 h1 e1) z
theorem FV {d:Nat} {ob:bJ} {p:Nat×Nat} {id:Nat} (h:fS (jf ν d p) (bN m d ob) id):fS ν m id\/(cD ob=true/\id=p.1):=by
 obtain⟨k,o,h1,w,u⟩:=h
 by_cases e:k=d
 .subst e;rw[cI]at h1;cases h1;rw[iw]at u;exact .inr ⟨w,u.symm⟩
 rw[qd ν p e]at u;rw[dW m ob (Ne.symm e)]at h1;exact .inl ⟨k,o,h1,w,u⟩
theorem Ev.add {d:Nat} (B:st.new d=true) {ob:bJ} {p:Nat×Nat} (D:H.length<=H'.length) (G:∀id,id<H.length->¬Rv id->H'[id]? = H[id]?) (J:∀id,Z id->bq H' id=bq H id)
 (hp:cD ob=true->Rv p.1\/H.length<=p.1):Ev Rv ν Z st H (jf ν d p) Z { st with m:=bN st.m d ob } H' where
 len:=D
 same:=λid h _ _ hr=>G id h hr
 rows:=λid h=>⟨h,J id h⟩
 own:=λid h=>by
  rcases FV h with h|⟨h1,rfl⟩
  .exact .inl h
  exact .inr (hp h1)
 frz:=λid h=>.inl h
 pin:=λe w u h=>by
  have:e≠d:=by rintro rfl;exact(nu B).1 w
  exact uC this u h
 pins:=rfl
theorem R.gZ (r:R ν Z st F H) {d:Nat} {ob ob':bJ} (h0:bh st.m d=some ob) (D:sameShape ob ob') (W:cD ob'=cD ob) (U:∀id,id≠(ν d).1->H'[id]? = H[id]?) (B:cD ob=true)
 (Y:en ν (bN st.m d ob') H' Z d ob'):R ν Z { st with m:=bN st.m d ob' } F H':=by
 have z:∀id,Z id->Z id/\bq H' id=bq H id:=λid h=>⟨h,by
  unfold bq;rw[U id (by rintro rfl;exact r.apart d ob h0 B h)]⟩
 have sm:∀e u,bh (bN st.m d ob') e=some u->∃w,bh st.m e=some w/\ν e=ν e/\sameShape w u:=λe u h=>by
  by_cases k:e=d
  .subst k;rw[cI]at h;cases h;exact⟨ob,h0,rfl,D⟩
  rw[dW st.m ob' (Ne.symm k)]at h;exact⟨u,h,rfl,.refl _⟩
 have C:∀e u,bh (bN st.m d ob') e=some u->∃w,bh st.m e=some w/\cD w=cD u:=λe u h=>by
  by_cases k:e=d
  .subst k;rw[cI]at h;cases h;exact⟨ob,h0,W.symm⟩
  rw[dW st.m ob' (Ne.symm k)]at h;exact⟨u,h,rfl⟩
 refine⟨λs O D=>(r.slot s O D).mono z λe _=>sm e,λG u hd=>?_,?_,?_,λid h=>by rw[(z id h).2];exact r.zrow id h,r.deep.mono λid h=>(z id h).2⟩
 .by_cases e:G=d
  .subst e;simp only at hd;rw[cI]at hd;cases hd;exact Y
  simp only at hd;rw[dW st.m ob' (Ne.symm e)]at hd;refine en.mono z rfl (λI=>U _ λh=>e (r.inj G d u ob hd h0 I B h)) (λk _=>sm k) (r.obj G u hd)
 .intro d1 d2 o1 o2 h1 Q J S T;obtain⟨p1,k1,L⟩:=C d1 o1 h1;obtain⟨p2,k2,X⟩:=C d2 o2 Q;exact r.inj d1 d2 p1 p2 k1 k2 (by rw[L];exact J) (by rw[X];exact S) T
 intro d1 o1 h1 J;obtain⟨p1,k1,L⟩:=C d1 o1 h1;exact r.apart d1 p1 k1 (by rw[L];exact J)
theorem Ev.gZ (r:R ν Z st F H) {d:Nat} {ob ob':bJ} (h0:bh st.m d=some ob) (G:sameShape ob ob') (U:cD ob'=cD ob) (D:∀id,id≠(ν d).1->H'[id]? = H[id]?) (B:cD ob=true) (J:H.length<=H'.length) :
 Ev Rv ν Z st H ν Z { st with m:=bN st.m d ob' } H' where
 len:=J
 same:=λid _ z _ _=>D id λe=>z ⟨d,ob,h0,B,e.symm⟩
 rows:=λid h=>⟨h,by unfold bq;rw[D id (by rintro rfl;exact r.apart d ob h0 B h)]⟩
 own:=λid ⟨k,o,h1,C,w⟩=>by
  by_cases e:k=d
  .subst e;simp only at h1;rw[cI]at h1;cases h1;exact .inl ⟨k,ob,h0,B,w⟩
  simp only at h1;rw[dW st.m ob' (Ne.symm e)]at h1;exact .inl ⟨k,o,h1,C,w⟩
 frz:=λid h=>.inl h
 pin:=λe _ u h=>by
  by_cases k:e=d
  .subst k;simp only at h;rw[cI]at h;cases h;exact⟨ob,h0,rfl,G⟩
  simp only at h;rw[dW st.m ob' (Ne.symm k)]at h;exact⟨u,h,rfl,.refl _⟩
 pins:=rfl
theorem R.less (r:R ν Z st F H) {g:Tb SV} {m':Tb bJ} (hg:∀s sv,bh g s=some sv->bh st.g s=some sv) (B:∀d ob,bh m' d=some ob->bh st.m d=some ob):R ν Z { st with g:=g,m:=m' } F H where
 slot:=λs sv z=>(r.slot s sv (hg s sv z)).mono (λid h=>⟨h,rfl⟩) λe _ u h=>⟨u,B e u h,rfl,.refl _⟩
 obj:=λd ob hd=>en.mono (λid h=>⟨h,rfl⟩) rfl (λ_=>rfl) (λe _ u h=>⟨u,B e u h,rfl,.refl _⟩) (r.obj d ob (B d ob hd))
 inj:=λd w ob u h1 C=>r.inj d w ob u (B d ob h1) (B w u C)
 apart:=λd ob h=>r.apart d ob (B d ob h)
 zrow:=r.zrow
 deep:=r.deep
theorem Ev.less {g:Tb SV} {m':Tb bJ} (B:∀d ob,bh m' d=some ob->bh st.m d=some ob):Ev Rv ν Z st H ν Z { st with g:=g,m:=m' } H:=
 ⟨Nat.le_refl _,λ_ _ _ _ _=>rfl,λ_ h=>⟨h,rfl⟩,λ_ ⟨d,ob,h1,w,z⟩=>.inl ⟨d,ob,B d ob h1,w,z⟩,λ_ h=>.inl h,λe _ u h=>⟨u,B e u h,rfl,.refl _⟩,rfl⟩
theorem Ev.heap (B:H.length<=H'.length) (D:∀id,id<H.length->¬fS ν st.m id->¬Z id->¬Rv id->H'[id]? = H[id]?) (G:∀id,Z id->bq H' id=bq H id):Ev Rv ν Z st H ν Z st H':=
 ⟨B,D,λid h=>⟨h,G id h⟩,λ_ h=>.inl h,λ_ h=>.inl h,λ_ _ u h=>⟨u,h,rfl,.refl _⟩,rfl⟩
end
section
variable {Rv:Nat->Prop} {ν ν':Nu} {Z Z':Nat->Prop} {st st':St} {m m':Tb bJ} {F F':Frame} {H H':bn}
theorem gH.Ir {xs ys:List (List V)} (h:gH H Z xs ys):wR H Z ys:=λc hc u hu=>by
 obtain⟨i,hi⟩:=List.mem_iff_getElem?.1 hc;have z:i<xs.length:=by rw[h.1];grind
 have hr:=h.2 i _ c (ζd z) hi;obtain⟨j,B⟩:=List.mem_iff_getElem?.1 hu;have w:j<(xs[i]).length:=by rw[hr.1];grind
 exact⟨_,hr.2 j _ u (ζd w) B⟩
theorem gH.same {xs:List (List V)} (h:V.nW xs=true):gH H Z xs xs:=
 ⟨rfl,λj u v hu hv=>by rw[hu]at hv;cases hv;exact dB.same (lE.1 h j u hu)⟩
theorem pF {z:List V} (h:V.cE z=true):∀n,V.nW (List.replicate n z)=true
 | 0=>rfl
 | n+1=>by simp[List.replicate_succ,V.nW,h,pF h n]
theorem CC {es:Nat}:∀{ps qs:List (Nat×V)} {xs B r:List (List V)},gH H Z xs B->ps.map (·.1)=qs.map (·.1)->dB H Z (ps.map (·.2)) (qs.map (·.2))->fG es xs ps=some r->∃G,fG es B qs=some G/\gH H Z r G
 | [],qs,xs,B,r,D,h1,J,h=>by
  have:qs=[]:=by simp_all
  subst this;simp[fG]at h ⊢;grind
 | (i,v)::ps,qs,xs,B,r,D,h1,J,h=>by
  cases qs with
  | nil=>simp_all
  | cons q qs=>
   obtain⟨j,w⟩:=q;simp  at h1;obtain⟨e,h1⟩:=h1;subst e;obtain⟨w',C,e,u,z⟩:=J.inv;obtain⟨rfl,rfl⟩:=e;have hc:=u.cells;simp only[fG]at h ⊢;split at h
   .rw[if_pos ⟨by rw[<-hc.1];grind,by rw[<-D.1];grind,by rw[hc.one];grind⟩]
    exact CC (D.set i hc) h1 z h
   grind
theorem zip_fst:∀{idx:List Nat} {xs:List V},idx.length=xs.length->(idx.zip xs).map (·.1)=idx
 | [],xs,_=>by simp
 | i::idx,[],h=>by simp_all
 | i::idx,x::xs,h=>by simp[zip_fst (idx:=idx) (xs:=xs) Zac]
theorem Fq:∀{idx:List Nat} {xs:List V},idx.length=xs.length->(idx.zip xs).map (·.2)=xs
 | [],[],_=>by simp
 | [],x::xs,h=>by simp_all
 | i::idx,[],h=>by simp_all
 | i::idx,x::xs,h=>by simp[Fq (idx:=idx) (xs:=xs) Zac]
theorem Py {a:Qk} {svs:List SV} {ys:List V} {d:Nat} {ob:bJ} {sv:SV} (hk:B3 (.a a)=true) (r:cg ν m H Z svs ys) (h:oP m a svs d=some (ob,sv)) :
 ∃o mk,iM a ys=some (o,mk)/\cD ob=true/\o≠.free/\∀(id:Nat) (ν':Nu) (m':Tb bJ) (H':bn),ν' d=(id,0)->bh m' d=some ob->H'[id]? = some o->(∀k,Z k->bq H' k=bq H k) ->
  (∀e,SV.dK e svs=true->∀ob',bh m' e=some ob'->∃ob,bh m e=some ob/\ν' e=ν e/\sameShape ob ob')->en ν' m' H' Z d ob/\dn ν' m' H' Z sv (mk.val id):=by
 unfold oP at h;split at h
 .
  rename_i size zero;obtain⟨rfl,rfl⟩:=h;rw[r.c9];simp only[B3,ζh]at hk;refine⟨_,_,rfl,rfl,by simp,λid ν' m' H' e1 e2 e3 e4 e5=>⟨⟨_,zero,by rw[e1];omega,cg.sB (dB.same hk.1),hk.2⟩,?_⟩⟩
  exact .ptr _ _ _ λob' u=>by rw[e2]at u;cases u;exact⟨_,rfl,by rw[e1];rfl⟩
 .
  split at h
  .rename_i C;obtain⟨rfl,rfl⟩:=h;obtain⟨y,_,rfl,h1,B⟩:=r.inv;rw[B.c9];have hc:=h1.fr.cells;refine⟨.row y.cells.length [y.cells],.ptr,by simp[iM,hc.one,C],rfl,by simp,λid ν' m' H' e1 e2 e3 e4 e5=>⟨⟨_,y.cells,by rw[e1];omega,cg.sB (hc.mono λk hk=>⟨hk,e4 k hk⟩),by rw[hc.one];simp_all⟩,?_⟩⟩
   exact .ptr _ _ _ λob' u=>by rw[e2]at u;cases u;exact⟨_,rfl,by rw[e1];rfl⟩
  grind
 .
  split at h
  .rename_i z;obtain⟨rfl,rfl⟩:=h;obtain⟨y,_,rfl,h1,B⟩:=r.inv;rw[B.c9];obtain⟨O,rfl,U⟩:=h1.jc;have J:=G4 z U;refine⟨.row O.length [O],.ptr,by simp[iM,V.cells,J],rfl,by simp,λid ν' m' H' e1 e2 e3 e4 e5=>⟨⟨_,O,by rw[e1];omega,U.mono (λk hk=>⟨hk,e4 k hk⟩) λe Q=>e5 e (by simp[SV.dK,SV.c6,Q]),J⟩,?_⟩⟩
   exact .ptr _ _ _ λob' u=>by rw[e2]at u;cases u;exact⟨_,rfl,by rw[e1];rfl⟩
  grind
 .
  split at h
  .rename_i z;obtain⟨rfl,rfl⟩:=h;obtain⟨y,_,rfl,h1,B⟩:=r.inv;rw[B.c9];obtain⟨W,J⟩:=mK z h1;refine⟨.row [y].length [[y]],.ptr,by simp[iM,W,J],rfl,by simp,λid ν' m' H' e1 e2 e3 e4 e5=>⟨⟨_,[y],by rw[e1];omega,.cons (h1.mono (λk hk=>⟨hk,e4 k hk⟩) λe Q=>e5 e (by simp[SV.dK,Q])) .nil,by simp_all⟩,?_⟩⟩
   exact .ptr _ _ _ λob' u=>by rw[e2]at u;cases u;exact⟨_,rfl,by rw[e1];rfl⟩
  grind
 .
  rename_i size zero k n k' c;obtain⟨_,_,rfl,h1,B⟩:=r.inv;obtain⟨_,_,rfl,X,Y⟩:=B.inv;rw[h1.fr.int,X.fr.int,Y.c9];split at h
  .rename_i hc;obtain⟨rfl,rfl⟩:=h;have S:cO (if n=c then Fl.row else Fl.part)=true:=by split <;> rfl
   refine⟨_,_,by simp only[iM];rw[if_pos hc],S,by simp,λid ν' m' H' e1 e2 e3 e4 e5=>⟨?_,?_⟩⟩
   .simp[en,S,e1];have hg:=pF hk c.toNat;have T:n.toNat<=c.toNat:=by omega
    refine⟨_,e3,by simp_all,?_,(gH.same hg).Ir,λe=>?_⟩
    .simp[Nat.min_eq_left T];exact gH.same (pF hk _)
    grind
   refine .own _ _ λob' u=>?_
   rw[e2]at u;cases u;exact⟨_,_,_,rfl,by rw[ta S,e1];simp[Mk.val]⟩
  grind
 .
  rename_i vs size len zero idx;split at h
  .rename_i xs hx;split at h
   .rename_i z;obtain⟨rows,hr,e⟩:=ζf.1 h;obtain⟨rfl,rfl⟩:=e;have L:=r.dy hx;obtain⟨rows',D,w⟩:=CC   (qs:=idx.zip ys) (gH.same (pF hk len)) (by rw[zip_fst z,zip_fst (by rw[<-L.1];exact z)]) (by rw[Fq z,Fq (by rw[<-L.1];exact z)];exact L) hr
    have G:rows'.length=len:=by
     have:∀{ps:List (Nat×V)} {a r:List (List V)},fG size a ps=some r->r.length=a.length:=by
      intro ps
      induction ps with
      | nil=>intro a r h;simp[fG]at h;subst h;rfl
      | cons p ps ih=>
       intro a r h;simp only[fG]at h;split at h
       .rw[ih h];simp
       simp at h
     rw[this D];simp
    refine⟨.row size rows',.sl size len,by simp only[iM];rw[if_pos (by rw[<-L.1];exact z),D];rfl,rfl,by simp,λid ν' m' H' e1 e2 e3 e4 e5=>⟨?_,?_⟩⟩
    .have I:=w.mono   λk hk=>⟨hk,e4 k hk⟩
     simp only[en,e1];refine⟨_,e3,by simp[w.1],?_,I.Ir,λ_=>⟨trivial,w.1.symm⟩⟩
     simp[w.1];exact I
    refine .own _ _ λob' u=>?_
    rw[e2]at u;cases u;exact⟨_,_,_,rfl,by rw[w.1,G];simp[tn,e1,Mk.val]⟩
   grind
  grind
 .
  obtain⟨rfl,rfl⟩:=h;rw[r.c9];refine⟨_,_,rfl,rfl,by simp,λid ν' m' H' e1 e2 e3 e4 e5=>⟨⟨_,by rw[e1];exact e3,rfl,by simp⟩,?_⟩⟩
  exact .mp _ _ λob' u=>by rw[e2]at u;cases u;exact⟨_,rfl,by rw[e1];rfl⟩
 grind
theorem cg.XM {cs:List SV} {B:List V} (h:cg ν m H Z cs B) {size o:Nat} {x:SV} {y:V} {r:List SV} (G:dn ν m H Z x y) (hp:putCells m size o x cs=some r) (D:B.all V.one=true) :
 y.cells.length=size/\o+size<=B.length/\y.cells.all V.one=true/\cg ν m H Z r (B.take o++y.cells++B.drop (o+y.cells.length))/\(B.take o++y.cells++B.drop (o+y.cells.length)).all V.one=true:=by
 have u:∀k:Nat,(B.take k).all V.one=true/\(B.drop k).all V.one=true:=λk=>
  ⟨List.all_eq_true.2 λz C=>List.all_eq_true.1 D z (List.mem_of_mem_take C),List.all_eq_true.2 λz C=>List.all_eq_true.1 D z (List.mem_of_mem_drop C)⟩
 unfold putCells at hp;split at hp
 .split at hp
  .rename_i hc;simp only[ζa]at hp;subst hp;have w:=G.fr.cells;refine⟨by rw[<-w.1];simp_all,by rw[<-h.1];grind,by rw[w.one];grind,?_,?_⟩
   .have e:y.cells.length=size:=by rw[<-w.1];simp_all
    rw[e];exact((h.take o).append (cg.sB w)).append (h.drop _)
   simp only[List.all_append,(u _).1,(u _).2,w.one,hc.2.2,Bool.and_self]
  grind
 .split at hp
  .rename_i hc;simp only[ζa]at hp;subst hp;obtain⟨I,rfl,J⟩:=G.jc;have L:=G4 hc.2.2 J;have e:I.length=size:=by rw[<-J.1];simp_all
   refine⟨e,by rw[<-h.1];grind,L,?_,?_⟩
   .show cg ν m H Z _ (B.take o++I++B.drop (o+I.length));rw[e];exact((h.take o).append J).append (h.drop _)
   simp[(u _).1,(u _).2,V.cells,L]
  grind
 split at hp
 .rename_i hc;simp only[ζa]at hp;subst hp;obtain⟨O,Q⟩:=mK hc.1 G;rw[O];refine⟨by simp[hc.2.1],by rw[<-h.1];grind,by simp_all,?_,?_⟩
  .exact((h.take o).append (.cons G .nil)).append (h.drop _)
  grind
 grind
theorem vt {size:Nat} {x:SV} {y:V} {xs:List (List V)} (r:dn ν m H Z x y) (D:∀d ob,bh m d=some ob->en ν m H Z d ob) (h:jA m size x=some xs):∃ys,dM H size y=some ys/\gH H Z xs ys:=by
 unfold jA at h;split at h
 .split at h
  .rename_i k es z u;obtain⟨_,_,_,e,rfl⟩:=r.kK u;cases e;have o:=D _ _ u;simp[en]at o;split at h
   .rename_i hk;rw[if_pos hk]at o;split at h
    next w=>simp  at h;subst h;obtain⟨ys,hr,B,C,_⟩:=o;rw[ta hk];exact⟨_,by simp[dM,if_pos w,hr,Ob.rows,if_pos B],C⟩
    grind
   rename_i hk;simp  at h;subst h;refine⟨[],?_,rfl,by simp⟩
   cases k <;> simp[cO]at hk <;> rfl
  grind
 .simp  at h;subst h;rw[r.fr.bM];exact⟨[],rfl,rfl,by simp⟩
 .simp  at h;subst h;rw[r.fr.dL];exact⟨[],rfl,rfl,by simp⟩
 .split at h
  .rename_i es z w;simp  at h;subst h;have hg:=r.fr.good;rcases r.fr.mV with rfl|⟨id,off,ys,rfl,G,hr,B,C⟩
   .exact⟨_,by simp[dM,if_pos w],gH.same (by simpa [V.good]using hg)⟩
   unfold bq at hr;exact⟨_,by simp[dM,if_pos w,hr,if_pos B],C⟩
  grind
 grind
theorem Ev.re {m1:Tb bJ} (B:∀d ob,bh m1 d=some ob->bh st.m d=some ob) {d:Nat} (U:d∉st.pin) {ob:bJ} {p:Nat×Nat} (D:H.length<=H'.length) (G:∀id,id<H.length->¬fS ν st.m id->¬Rv id->H'[id]? = H[id]?)
 (J:∀id,Z id->bq H' id=bq H id) (hp:cD ob=true->fS ν st.m p.1\/Rv p.1\/H.length<=p.1):Ev Rv ν Z st H (jf ν d p) Z { st with m:=bN m1 d ob } H' where
 len:=D
 same:=λid h C _ hr=>G id h C hr
 rows:=λid h=>⟨h,J id h⟩
 own:=λid h=>by
  rcases FV h with h|⟨h1,rfl⟩
  .obtain⟨k,o,h1,w,z⟩:=h;exact .inl ⟨k,o,B k o h1,w,z⟩
  grind
 frz:=λid h=>.inl h
 pin:=λe I u h=>by
  have:e≠d:=by grind
  obtain⟨o,h1,w,z⟩:=uC (ν:=ν) (p:=p) this u h
  grind
 pins:=rfl
def Kept (dst:Option Nat) (ν:Nu) (m:Tb bJ) (ν':Nu) (m':Tb bJ):Prop:=∀e u,dst≠some e->bh m' e=some u->∃ob,bh m e=some ob/\ν' e=ν e/\sameShape ob u
theorem Kept.refl {dst:Option Nat}:Kept dst ν m ν m:=λe u _ h=>⟨u,h,rfl,.refl _⟩
theorem Kept.gZ {dst:Option Nat} {d:Nat} {ob ob':bJ} (h0:bh m d=some ob) (B:sameShape ob ob'):Kept dst ν m ν (bN m d ob'):=λe u _ h=>by
 by_cases k:e=d
 .subst k;rw[cI]at h;grind
 rw[dW m ob' (Ne.symm k)]at h;exact⟨u,h,rfl,.refl _⟩
theorem Kept.add {d:Nat} {ob:bJ} {p:Nat×Nat} {m1:Tb bJ} (B:∀d ob,bh m1 d=some ob->bh m d=some ob):Kept (some d) ν m (jf ν d p) (bN m1 d ob):=λe u w h=>by
 have:e≠d:=λh=>w (by rw[h])
 obtain⟨o,h1,z,C⟩:=uC (ν:=ν) (p:=p) this u h
 grind
theorem lg {d:Nat}:∀e ob,bh (eo d m) e=some ob->bh m e=some ob:=λ_ _ h=>(pe h).2
theorem D4.put {k x y:V} {a b r:List (V×V)} (G:k.scalar=true) (h:D4 H Z a b) (J:FR H Z x y) (hp:qU k x a=some r):∃D,qU k y b=some D/\D4 H Z r D:=by
 unfold qU at hp;obtain⟨f1,f2⟩:=C_   h;split at hp
 .rename_i j v C;simp  at hp;subst hp;obtain⟨I,B,_⟩:=f2 j v C;refine⟨b.set j (k,y),by unfold qU;rw[B],by simp[h.1],λi u w hu z=>?_⟩
  rw[List.getElem?_set]at hu z;split at hu
  .grind
  rename_i e;rw[if_neg e]at z;exact h.2 i u w hu z
 .simp  at hp;subst hp;refine⟨b++[(k,y)],by unfold qU;simp_all,by simp[h.1],λi u w hu z=>?_⟩
  by_cases hi:i<a.length
  .rw[List.getElem?_append_left hi]at hu;rw[List.getElem?_append_left (by rw[<-h.1];omega)]at z
   exact h.2 i u w hu z
  rw[List.getElem?_append_right (by rw[<-h.1];omega),<-h.1]at z
  grind
 grind
theorem Mz (r:R ν Z st F H) {d:Nat} {cs:List SV} (B:bh st.m d=some (.box cs)):∀{l:List SV} {D:List V},cg ν st.m H Z l D->l.all (Nj st.m d)=true->D.all (rX (ν d).1)=true:=by
 intro l
 induction l with
 | nil=>intro D C _;rw[C.c9];rfl
 | cons a l O=>
  intro D C G;obtain⟨w,D,rfl,g1,g2⟩:=C.inv;simp only[List.all_cons,ζh]at G ⊢;refine⟨?_,O g2 G.2⟩;have u:=G.1;unfold Nj at u;split at u
  .rename_i Q T;simp  at u;obtain⟨I,J⟩:=u;split at J
   next S z=>obtain⟨_,_,rfl⟩:=g1.qe z;simp[rX];exact λe=>I (r.inj Q d _ _ z B rfl rfl e)
   grind
  .rcases FR.nh g1.fr with rfl|⟨id,el,off,_,_,_,rfl,L,_⟩
   .rfl
   simp[rX];rintro rfl;exact r.apart d _ B rfl L
  grind
theorem DN (r:R ν Z st F H) {dst:Option Nat} {l:LY} {svs:List SV} {ys:List V} {sv:SV} (U:cg ν st.m H Z svs ys) (h:nY st dst l svs=some (sv,st')) :
 ∃y H' ν',fE H l ys=some (y,H')/\R ν' Z st' F H'/\dn ν' st'.m H' Z sv y/\Ev (λ_=>False) ν Z st H ν' Z st' H'/\Kept dst ν st.m ν' st'.m:=by
 unfold nY at h;split at h
 .
  rename_i size d o x;obtain⟨_,_,rfl,h1,h2⟩:=U.inv;obtain⟨y,_,rfl,h3,h4⟩:=h2.inv;rw[h4.c9];split at h
  .rename_i cs B;obtain⟨au,hp,e⟩:=ζf.1 h;obtain⟨rfl,rfl⟩:=e;obtain⟨_,_,rfl⟩:=h1.qe B;obtain⟨es,G,hr,hc,T⟩:=r.obj d _ B;obtain⟨p1,p2,p3,p4,p5⟩:=cg.XM hc h3 hp T;have J:∀id,id≠(ν d).1->(H.set (ν d).1 (.row es [G.take o++y.cells++G.drop (o+y.cells.length)]))[id]? = H[id]? := λid I=>by grind
   have D:∀id,Z id->Z id/\bq (H.set (ν d).1 (.row es [G.take o++y.cells++G.drop (o+y.cells.length)])) id=bq H id:=λid D=>⟨D,by
    unfold bq;rw[J id (by rintro rfl;exact r.apart d _ B rfl D)]⟩
   refine⟨.undef,H.set (ν d).1 (.row es [G.take o++y.cells++G.drop (o+y.cells.length)]),ν,?_,?_,.v _ _ (.same _ rfl),Ev.gZ r B trivial rfl J rfl Zab,Kept.gZ B trivial⟩
   .simp only[fE,hr,List.getElem?_cons_zero,if_pos (And.intro p1 (And.intro p2 p3)),List.set_cons_zero]
   refine r.gZ B  trivial rfl J rfl ⟨es,_,?_,p4.mono D (λe _ Q he=>?_),p5⟩
   .grind
   by_cases k:e=d
   .subst k;rw[cI]at he;cases he;exact⟨_,B,rfl,trivial⟩
   rw[dW st.m _ (Ne.symm k)]at he;exact⟨Q,he,rfl,.refl _⟩
  grind
 .
  rename_i size d i o x;obtain⟨_,_,rfl,h1,h2⟩:=U.inv;obtain⟨y,_,rfl,h3,h4⟩:=h2.inv;rw[h4.c9];split at h
  .rename_i k es xs B;split at h
   .rename_i cs ah;split at h
    .rename_i hc;obtain⟨rfl,rfl⟩:=h;obtain⟨_,_,_,e,hk,rfl⟩:=h1.zz B;cases e;have ob:=r.obj d _ B;simp[en,hk]at ob;obtain⟨rs,hr,hl,hf,ai,aj⟩:=ob;obtain⟨c,ak,ad⟩:=hf.get ah;have hi:=(ζe.1 ah).1;rw[List.getElem?_take,if_pos hi,List.getElem?_drop]at ak;have hy:=h3.fr.cells;have q1:y.cells.length=size:=by rw[<-hy.1];exact hc.1
     have W:o+size<=c.length:=by rw[<-ad.1];exact hc.2.1
     have q3:y.cells.all V.one=true:=by rw[hy.one];exact hc.2.2
     have C:dB H Z (cs.take o++x.cells++cs.drop (o+x.cells.length)) (c.take o++y.cells++c.drop (o+y.cells.length)):=by
      rw[hc.1,q1];exact((ad.take o).append hy).append (ad.drop _)
     generalize hN:(c.take o++y.cells++c.drop (o+y.cells.length))=nc at C;have J:∀id,id≠(ν d).1->(H.set (ν d).1 (.row es (rs.set ((ν d).2+i) nc)))[id]? = H[id]? := λid I=>by rw[List.getElem?_set];rw[if_neg (Ne.symm I)]
     have L  := hk;have D:∀id,Z id->Z id/\bq (H.set (ν d).1 (.row es (rs.set ((ν d).2+i) nc))) id=bq H id:=λid D=>⟨D,by
      unfold bq;rw[J id (by rintro rfl;exact r.apart d _ B L D)]⟩
     have ae:sameShape (.sl k es xs) (.sl k es (xs.set i (cs.take o++x.cells++cs.drop (o+x.cells.length)))):=⟨rfl,rfl,by simp⟩
     refine⟨.undef,H.set (ν d).1 (.row es (rs.set ((ν d).2+i) nc)),ν,?_,?_,.v _ _ (.same _ rfl),Ev.gZ r B ae rfl J L Zab,Kept.gZ B ae⟩
     .simp only[fE,hr,ak,if_pos (And.intro q1 (And.intro W q3)),hN]
     refine r.gZ B ae rfl J L ?_;simp only[en,hk];have av:=(ζe.1 hr).1;refine⟨_,List.getElem?_set_self av,by simpa using hl,?_,?_,λe=>?_⟩
     .have e1:List.take (xs.set i (cs.take o++x.cells++cs.drop (o+x.cells.length))).length (List.drop (ν d).2 (rs.set ((ν d).2+i) nc))=((rs.drop (ν d).2).take xs.length).set i nc:=by
       rw[List.length_set,List.drop_set,if_neg Zaa,List.take_set]
       congr 1;omega
      rw[e1];exact(hf.set i C).mono D
     .intro cc al u hu;rcases List.mem_or_eq_of_mem_set al with hm|rfl
      .obtain⟨z,aw⟩:=ai cc hm u hu;exact⟨z,aw.mono D⟩
      obtain⟨j,hj⟩:=List.mem_iff_getElem?.1 hu;have am:=(ζe.1 hj).1;rw[<-C.1]at am;exact⟨_,(C.2 j _ u (ζd am) hj).mono D⟩
     obtain⟨a1,a2⟩:=aj e;exact⟨a1,by simpa using a2⟩
    simp at h
   grind
  grind
 .
  rename_i kk d k x;obtain⟨_,_,rfl,h1,h2⟩:=U.inv;obtain⟨k',_,rfl,h3,h4⟩:=h2.inv;obtain⟨y,_,rfl,h5,h6⟩:=h4.inv;rw[h6.c9];split at h
  .rename_i ax B;split at h
   .rename_i hk;obtain⟨aI,hp,e⟩:=ζf.1 h;simp  at e;obtain⟨rfl,rfl⟩:=e;obtain⟨_,_,rfl⟩:=h1.Ff B;have ay:=h3.fr.scalar.1 (wO hk);subst ay;obtain⟨aJ,hr,aA⟩:=r.obj d _ B;obtain⟨r',aB,aC⟩:=aA.put (wO hk) h5.fr hp;have J:∀id,id≠(ν d).1->(H.set (ν d).1 (.map r'))[id]? = H[id]? := λid I=>by rw[List.getElem?_set];rw[if_neg (Ne.symm I)]
    have D:∀id,Z id->Z id/\bq (H.set (ν d).1 (.map r')) id=bq H id:=λid D=>⟨D,by
     unfold bq;rw[J id (by rintro rfl;exact r.apart d _ B rfl D)]⟩
    refine⟨.undef,H.set (ν d).1 (.map r'),ν,?_,?_,.v _ _ (.same _ rfl),Ev.gZ r B trivial rfl J rfl Zab,Kept.gZ B trivial⟩
    .simp[fE,hr,hk,aB]
    refine r.gZ B  trivial rfl J rfl ⟨r',?_,aC.mono D⟩;rw[List.getElem?_set_self (ζe.1 hr).1]
   simp at h
  simp at h
 .
  rename_i size s x;obtain⟨y1,_,rfl,h1,h2⟩:=U.inv;obtain⟨y2,_,rfl,h3,h4⟩:=h2.inv;rw[h4.c9];split at h
  .rename_i xs e1 e2;obtain⟨a1,p1,_⟩:=vt h1 r.obj e1;obtain⟨a2,p2,W⟩:=vt h3 r.obj e2;have  := List.length_eq_zero_iff.1 (by have:=W.1;simpa using this.symm)
   subst this
   cases dst with
   | none=>simp at h
   | some t=>
    have lit:∀(k:Fl) (x0:V),cO k=false->tn (ν t) k size 0=x0->st.new t=true->(∀y,FR H Z x0 y->y=x0)->FR H Z x0 y1 ->
     ∃y H' ν',fE H (.append size) [y1,y2]=some (y,H')/\R ν' Z { st with m:=bN st.m t (.sl k size []) } F H'/\dn ν' (bN st.m t (.sl k size [])) H' Z (.own t) y/\Ev (λ_=>False) ν Z st H ν' Z { st with m:=bN st.m t (.sl k size []) } H'/\Kept (some t) ν st.m ν' (bN st.m t (.sl k size [])):=λk x0 hk aD hn hx hf=>by
     have an:cD (.sl k size [])=true->False:=by simp[cD,hk]
     refine⟨y1,H,jf ν t (ν t),by simp[fE,p1,p2],r.add hn   (λh=>(an h).elim) (by simp[en,hk]),.own _ _ λQ h'=>?_,Ev.add  hn (Nat.le_refl _) (λ_ _ _=>rfl) (λ_ _=>rfl) (λh=>(an h).elim),Kept.add λ_ _ h=>h⟩
     rw[cI]at h';cases h';exact⟨_,_,_,rfl,by rw[iw,hx _ hf];exact aD.symm⟩
    cases s with
    | own d=>
     dsimp only at h;split at h
     .rename_i ob B;split at h
      .rename_i C;simp  at h;obtain⟨rfl,rfl⟩:=h;simp[jA,B]at e1
       cases ob with
       | sl k es X=>
        obtain⟨_,_,_,e,rfl⟩:=h1.kK B;cases e;have r1:R ν Z { st with m:=eo d st.m } F H:=r.less  (λ_ _ h=>h) lg
        obtain⟨n1,_,_,_⟩:=nu C;have ao:en (jf ν t (ν d)) (bN (eo d st.m) t (.sl k es X)) H Z t (.sl k es X):=by
         have o:=r.obj d _ B;simp[en,iw]at o ⊢;exact o
        refine⟨tn (ν d) k es X.length,H,jf ν t (ν d),by simp[fE,p1,p2],r1.add C  (λhb=>⟨λS=>?_,r.apart d _ B hb⟩) ao,.own _ _ λQ h'=>?_,?_,Kept.add lg⟩
        .obtain⟨k2,o2,g1,g2,g3⟩:=S;obtain⟨g4,g5⟩:=pe g1;exact g4 (r.inj d k2 _ o2 B g5 hb g2 g3.symm)
        .rw[cI]at h';cases h';exact⟨_,_,_,rfl,by rw[iw]⟩
        by_cases hb:cD (.sl k es X)=true
        .exact Ev.re  (m1:=eo d st.m) lg n1 (Nat.le_refl _) (λ_ _ _ _=>rfl) (λ_ _=>rfl) (λ_=>.inl ⟨d,_,B,hb,rfl⟩)
        exact(Ev.less  lg).trans (Ev.add  C (Nat.le_refl _) (λ_ _ _=>rfl) (λ_ _=>rfl) λh=>absurd h hb)
       | box cs=>cases e1
       | mp ax=>cases e1
      simp at h
     simp at h
    | v x0=>
     cases x0 with
     | bM=>
      dsimp only at h;split at h
      next hn=>simp  at h;obtain⟨rfl,rfl⟩:=h;exact lit .nil _ rfl rfl hn (λy h=>h.bM) h1.fr
      simp at h
     | dL=>
      dsimp only at h;split at h
      next hn=>simp  at h;obtain⟨rfl,rfl⟩:=h;exact lit .emp _ rfl rfl hn (λy h=>h.dL) h1.fr
      simp at h
     | _=>simp at h
    | _=>simp at h
  .rename_i xs zs I e1 e2;split at h
   .rename_i hc;obtain⟨a1,p1,q1⟩:=vt h1 r.obj e1;obtain⟨a2,p2,W⟩:=vt h3 r.obj e2
    cases dst with
    | none=>simp at h
    | some t=>
     dsimp only at h;generalize ap:giveUp st.m s=m1 at h;split at h
     .rename_i C;simp  at h;obtain⟨rfl,rfl⟩:=h;obtain⟨n1,_,_,_⟩:=nu C;have grow:∃H1,iy H y1=some H1/\H1.length=H.length/\(∀id,¬fS ν st.m id->H1[id]? = H[id]?) /\
       (∀id,fS ν m1 id->H1[id]? = H[id]?)/\(∀id,Z id->bq H1 id=bq H id):=by
       subst ap
       cases s with
       | own d=>
        simp[jA]at e1;split at e1
        .rename_i k es X B;obtain⟨_,_,_,e,rfl⟩:=h1.kK B;cases e
         by_cases hk:cO k=true
         .have o:=r.obj d _ B;simp[en,hk]at o;obtain⟨ys,hr,_⟩:=o;have L  := hk;have J:∀id,id≠(ν d).1->(H.set (ν d).1 .dead)[id]? = H[id]? := λid I=>by rw[List.getElem?_set];rw[if_neg (Ne.symm I)]
          refine⟨H.set (ν d).1 .dead,by rw[ta hk];simp[iy,hr],by simp,λid S=>J id λe=>S ⟨d,_,B,L,e.symm⟩,λid S=>J id λe=>?_,λid D=>?_⟩
          .obtain⟨k2,o2,g1,g2,g3⟩:=S;obtain⟨g4,g5⟩:=pe g1;exact g4 (r.inj d k2 _ o2 B g5 L g2 (by rw[g3,e]))
          unfold bq;rw[J id (by rintro rfl;exact r.apart d _ B L D)]
         refine⟨H,?_,rfl,λ_ _=>rfl,λ_ _=>rfl,λ_ _=>rfl⟩
         cases k <;> simp[cO]at hk <;> rfl
        simp at e1
       | v x0=>
        refine⟨H,?_,rfl,λ_ _=>rfl,λ_ _=>rfl,λ_ _=>rfl⟩
        cases x0 <;> simp[J7]at hc
        .rw[h1.fr.dL];rfl
        rw[h1.fr.bM];rfl
       | _=>simp[J7]at hc
      obtain⟨H1,g1,g2,g3,g4,g5⟩:=grow;have O:∀e ob,bh m1 e=some ob->bh st.m e=some ob:=by
       subst ap;cases s <;> first|exact λ_ _ h=>h|exact lg
      have ab:∀id,fS ν m1 id->id<H.length:=λid ⟨k,o,w1,w2,w3⟩=>r.lt ⟨k,o,O k o w1,w2,w3⟩
      have Y:∀id,id<H.length->(H1++[Ob.row size (a1++a2)])[id]? = H1[id]? := λid hl=>List.getElem?_append_left (by rw[g2];exact hl)
      have af:∀id,Z id->bq (H1++[Ob.row size (a1++a2)]) id=bq H id:=λid D=>by
       have:=g5 id D;unfold bq at this ⊢;rw[Y id (r.xq D)];exact this
      have r1  := r.less  (λ_ _ h=>h) O
      have r2  := r1.heap (λid S=>by rw[Y id (ab id S)];exact g4 id S) af
      have ff:=(q1.append W).mono   λid D=>⟨D,af id D⟩
      have aa:(H1++[Ob.row size (a1++a2)])[H.length]? = some (.row size (a1++a2)):=by
       rw[<-g2];simp
      refine⟨.hsl H.length size 0 (xs.length+zs.length),H1++[Ob.row size (a1++a2)],jf ν t (H.length,0),?_,?_,?_,?_,Kept.add O⟩
      .have aq:a2≠[]:=by
        rintro rfl;have aE  := List.length_eq_zero_iff.1 (by have:=W.1;simpa using this)
        exact I aE
       have aF:a1.length+a2.length<=2147483648:=by rw[<-q1.1,<-W.1];exact hc.1
       have aG:=q1.1;have aH:=W.1
       cases a2 with
       | nil=>exact absurd rfl aq
       | cons w ws=>
        simp only[fE,p1,p2,if_pos aF,g1,Option.map_some,aG,aH]
      .refine r2.add C (λ_=>⟨λS=>?_,λD=>?_⟩) ?_
       .exact absurd (ab _ S) Zab
       .exact absurd (r.xq D) Zab
       simp only[en,iw];refine⟨_,aa,by simp[q1.1,W.1],?_,ff.Ir,λ_=>⟨trivial,by simp[q1.1,W.1]⟩⟩
       have:(xs++zs).length=(a1++a2).length:=by simp[q1.1,W.1]
       rw[this,List.drop_zero,List.take_length];exact ff
      .refine .own _ _ λQ h'=>?_
       simp only at h';rw[cI]at h';cases h';exact⟨_,_,_,rfl,by simp[tn,iw]⟩
      refine Ev.re O n1 (by simp[g2]) (λid hl S _=>?_) af (λ_=>.inr (.inr (Nat.le_refl _)))
      rw[Y id hl];exact g3 id S
     simp at h
   simp at h
  simp at h
 .
  rename_i size d o x l;obtain⟨_,_,rfl,h1,h2⟩:=U.inv;obtain⟨y,aK,rfl,h3,h4⟩:=h2.inv;split at h
  .rename_i ar;split at h
   .rename_i cs B;obtain⟨au,hp,e⟩:=ζf.1 h;simp  at e;obtain⟨rfl,rfl⟩:=e;obtain⟨_,_,rfl⟩:=h1.qe B;obtain⟨es,G,hr,hc,T⟩:=r.obj d _ B;obtain⟨p1,p2,p3,p4,p5⟩:=cg.XM hc h3 hp T;have J:∀id,id≠(ν d).1->(H.set (ν d).1 (.row es [G.take o++y.cells++G.drop (o+y.cells.length)]))[id]? = H[id]? := λid I=>by rw[List.getElem?_set];rw[if_neg (Ne.symm I)]
    have D:∀id,Z id->Z id/\bq (H.set (ν d).1 (.row es [G.take o++y.cells++G.drop (o+y.cells.length)])) id=bq H id:=λid D=>⟨D,by
     unfold bq;rw[J id (by rintro rfl;exact r.apart d _ B rfl D)]⟩
    refine⟨.undef,H.set (ν d).1 (.row es [G.take o++y.cells++G.drop (o+y.cells.length)]),ν,?_,?_,.v _ _ (.same _ rfl),Ev.gZ r B trivial rfl J rfl Zab,Kept.gZ B trivial⟩
    .simp only[fE,Mz r B h4 ar,if_true,hr,List.getElem?_cons_zero,if_pos (And.intro p1 (And.intro p2 p3)),List.set_cons_zero]
    refine r.gZ B  trivial rfl J rfl ⟨es,_,?_,p4.mono D (λe _ Q he=>?_),p5⟩
    .have:=(ζe.1 hr).1;rw[List.getElem?_set_self this]
    by_cases k:e=d
    .subst k;rw[cI]at he;cases he;exact⟨_,B,rfl,trivial⟩
    rw[dW st.m _ (Ne.symm k)]at he;exact⟨Q,he,rfl,.refl _⟩
   simp at h
  simp at h
 grind
end
def Bn (d:Nat) (st:St):Option St:=
 match bh st.m d with
 | some (.sl k es u)=>some { st with g:=Db (SV.sub d (o6 k es u)) st.g,m:=mapM (SV.v8 d (o6 k es u)) (eo d st.m) }
 | _=>none
def YU (st:St):Loc->Option SV
 | .s n=>bh st.g n
 | .c b i=>match bh st.m b with
  | some (.box cs)=>cs[i]?
  | _=>none
def ghost (x:Gh) (st:St):Option St:=
 match x with
 | .closeS l=>match YU st l with
  | some (.own d)=>Bn d st
  | some _=>some st
  | none=>none
 | .close d=>Bn d st
 | .closeB d=>match bh st.m d with
  | some (.box cs)=>match dy cs with
   | some u=>some { st with g:=Db (SV.DO d u) st.g,m:=mapM (SV.sG d u) (eo d st.m) }
   | none=>none
  | _=>none
 | .canon (.s n) d es=>match bh st.g n with
  | some (.v .bM)=>if st.new d then some { st with g:=bN st.g n (.own d),m:=bN st.m d (.sl .nil es []) } else none
  | some (.v .dL)=>if st.new d then some { st with g:=bN st.g n (.own d),m:=bN st.m d (.sl .emp es []) } else none
  | some (.own e)=>if e=d then some st else if st.new d then some { st with g:=A1 e d st.g,m:=vY e d st.m } else none
  | some (.ptr e _)=>if e=d then some st else if st.new d then some { st with g:=A1 e d st.g,m:=vY e d st.m } else none
  | _=>none
 | .canon (.c b i) d es=>match bh st.m b with
  | some (.box cs)=>match cs[i]? with
   | some (.v .bM)=>if st.new d then some { st with m:=bN (bN st.m d (.sl .nil es [])) b (.box (cs.set i (.own d))) } else none
   | some (.v .dL)=>if st.new d then some { st with m:=bN (bN st.m d (.sl .emp es [])) b (.box (cs.set i (.own d))) } else none
   | some (.own e)=>if e=d then some st else if st.new d then some { st with g:=A1 e d st.g,m:=vY e d st.m } else none
   | _=>none
  | _=>none
 | .keep gs w=>match kr st.g gs,kr st.m w with
  | some g,some m=>some { st with g:=g,m:=m }
  | _,_=>none
 | .drop ds=>some { st with g:=oH ds st.g }
section
variable {Rv:Nat->Prop} {ν ν':Nu} {Z Z':Nat->Prop} {st st':St} {m m':Tb bJ} {F F':Frame} {H H':bn} {N:Nat->FuncId}
theorem Qq (r:R ν Z st F H) {dst:Option Nat} {size d:Nat} {lo hi:Bool} {U:List SV} {ys:List V} {sv:SV} (D:cg ν st.m H Z (.own d::U) ys) (h:AY st dst size lo hi d U=some (sv,st')) :
 ∃y ν',bl N (.slice size lo hi) ys=some y/\R ν' Z st' F H/\dn ν' st'.m H Z sv y/\Ev Rv ν Z st H ν' Z st' H:=by
 unfold AY at h;obtain⟨y0,zs,rfl,h1,S⟩:=D.inv;split at h
 .rename_i k es G ws t u T;split at h
  .rename_i hk;obtain⟨⟨l,hh⟩,W,h⟩:=ζg.1 h;obtain⟨⟨a,b⟩,B,h⟩:=ζg.1 h;dsimp only at h;split at h
   .rename_i w;obtain⟨rfl,rfl⟩:=h;obtain⟨_,_,_,e,rfl⟩:=h1.kK u;cases e;have I:b<=G.length/\a<=b:=by
     unfold dX at B
     grind
    have o:=r.obj d _ u;simp[en,hk.1]at o;obtain⟨rs,hr,hl,X,O,_⟩:=o;have z  := hk.1;have r1:R ν Z { st with m:=eo d st.m } F H:=r.less  (λ_ _ h=>h) lg
    have J:¬fS ν (eo d st.m) (ν d).1:=by
     rintro⟨k2,o2,g1,g2,g3⟩;obtain⟨g4,g5⟩:=pe g1;exact g4 (r.inj d k2 _ o2 u g5 z g2 g3.symm)
    have C:((G.take b).drop a).length=b-a:=by simp_all
    refine⟨.hsl (ν d).1 es ((ν d).2+a) (b-a),jf ν t ((ν d).1,(ν d).2+a),?_,?_,?_,?_⟩
    .have L:=cg.dy S T;rw[ta hk.1];simp[bl,L.mz W,iG,if_pos hk.2,B]
    .refine r1.add w (λ_=>⟨J,r.apart d _ u z⟩) ?_
     simp[en,cO,iw];have:=(X.take b).drop a;have e:List.drop a (List.take b (List.take G.length (List.drop (ν d).2 rs)))=List.take (b-a) (List.drop ((ν d).2+a) rs):=by
      rw[List.take_take,Nat.min_eq_left I.1,List.drop_take,List.drop_drop]
     grind
    .refine .own _ _ λY Q=>?_
     rw[cI]at Q;cases Q;exact⟨_,_,_,rfl,by rw[C];simp[tn,iw]⟩
    exact Ev.re (st:=st) lg (nu w).1 (Nat.le_refl _) (λ_ _ _ _=>rfl) (λ_ _=>rfl) (λ_=>.inl ⟨d,_,u,z,rfl⟩)
   grind
  grind
 grind
theorem Hg {f:SV->SV}:∀{g:Tb SV} {s:Nat},bh (Db f g) s=(bh g s).map f
 | [],s=>rfl
 | (k,x)::r,s=>by
  simp[Db,bh];split
  .rfl
  exact Hg
def zJ (f:List SV->List SV):bJ->bJ
 | .box cs=>.box (f cs)
 | o=>o
theorem Gs {f:List SV->List SV}:∀{m:Tb bJ} {d:Nat},bh (mapM f m) d=(bh m d).map (zJ f)
 | [],d=>rfl
 | (k,x)::r,d=>by
  cases x <;> simp[mapM,bh] <;> split <;> first|rfl|exact Gs
theorem uM {d:Nat} {w:V}:∀{l:List SV} {j:Nat},(SV.v8 d w l)[j]? = (l[j]?).map (SV.sub d w)
 | [],j=>by simp[SV.v8]
 | x::r,0=>by simp[SV.v8]
 | x::r,j+1=>by simp[SV.v8,uM ]
theorem tG {d:Nat} {w:List V}:∀{l:List SV} {j:Nat},(SV.sG d w l)[j]? = (l[j]?).map (SV.DO d w)
 | [],j=>by simp[SV.sG]
 | x::r,0=>by simp[SV.sG]
 | x::r,j+1=>by simp[SV.sG,tG ]
theorem qb {d:Nat} {w:V}:∀{l:List SV},(SV.v8 d w l).length=l.length
 | []=>rfl
 | x::r=>by simp[SV.v8,qb ]
theorem oO {d:Nat} {w:List V}:∀{l:List SV},(SV.sG d w l).length=l.length
 | []=>rfl
 | x::r=>by simp[SV.sG,oO ]
theorem dn.sub {sv:SV} {y:V} {d:Nat} {k:Fl} {es:Nat} {xs:List (List V)} (h0:bh m d=some (.sl k es xs)) (G:FR H Z' (o6 k es xs) (tn (ν d) k es xs.length)) (J:∀id,Z id->Z' id)
 (U:∀e ob',bh m' e=some ob'->e≠d/\∃ob,bh m e=some ob/\sameShape ob ob') (r:dn ν m H Z sv y):dn ν m' H Z' (sv.sub d (o6 k es xs)) y:=by
 have w:∀id,Z id->Z' id/\bq H id=bq H id:=λid h=>⟨J id h,rfl⟩
 have C:∀e ob',bh m' e=some ob'->∃ob,bh m e=some ob/\ν e=ν e/\sameShape ob ob':=λe ob' h=>by grind
 induction r with
 | v x y h=>exact .v x y (h.mono w)
 | own e y h=>
  simp[SV.sub];split
  next I=>subst I;obtain⟨_,_,_,e1,rfl⟩:=h _ h0;cases e1;exact .v _ _ G
  exact(dn.own e y h).mono w λe _=>C e
 | ptr e o y h=>exact(dn.ptr e o y h).mono w λe _=>C e
 | el e i o y h=>exact(dn.el e i o y h).mono w λe _=>C e
 | mp e y h=>exact(dn.mp e y h).mono w λe _=>C e
 | clo f a b z L D S hva O B Q=>
  refine .clo f _ _ z L (by rw[qb];omega) (by rw[qb];omega) (λj u v hu hv=>?_) (λj u v hu hv=>?_)
  .rw[uM,ζf]at hu;grind
  rw[uM,ζf]at hu;grind
 | tup a z D hva B=>
  refine .tup _ z (by rw[qb];omega) (λj u v hu hv=>?_)
  rw[uM,ζf]at hu;grind
 | agg a z D hva B=>
  refine .agg _ z (by rw[qb];omega) (λj u v hu hv=>?_)
  rw[uM,ζf]at hu;grind
 | yl id=>exact .yl id
theorem UT {f:FuncId} {a b:List SV} {y:V} (r:dn ν m H Z (.clo f a b) y):dn ν m H Z (SY f a b) y:=by
 unfold SY;split
 .rename_i x z D G;cases r with|clo _ _ _ w B I J hva u=>
  have h1:=cg.dy (ν:=ν) (m:=m) (H:=H) (Z:=Z) (ys:=w) ⟨I,hva⟩ D;have C:=cg.dy (ν:=ν) (m:=m) (H:=H) (Z:=Z) (ys:=B) ⟨J,u⟩ G;exact .v _ _ (.clo f x z w B h1.1 C.1 h1.2 C.2)
 exact r
theorem dn.DO {sv:SV} {y:V} {d:Nat} {cs:List SV} {xs:List V} (h0:bh m d=some (.box cs)) (U:∀o,o<=xs.length->FR H Z' (.fptr (xs.drop o)) (.hptr (ν d).1 0 o)) (W:∀id,Z id->Z' id)
 (Y:∀e ob',bh m' e=some ob'->e≠d/\∃ob,bh m e=some ob/\sameShape ob ob') (r:dn ν m H Z sv y):dn ν m' H Z' (sv.DO d xs) y:=by
 have z:∀id,Z id->Z' id/\bq H id=bq H id:=λid h=>⟨W id h,rfl⟩
 have D:∀e ob',bh m' e=some ob'->∃ob,bh m e=some ob/\ν e=ν e/\sameShape ob ob':=λe ob' h=>by obtain⟨_,ob,h1,L⟩:=Y e ob' h;exact⟨ob,h1,rfl,L⟩
 induction r with
 | v x y h=>exact .v x y (h.mono z)
 | own e y h=>exact(dn.own e y h).mono z λe _=>D e
 | ptr e o y h=>
  simp only[SV.DO];split
  .rename_i O;subst O;obtain⟨_,e1,rfl⟩:=h _ h0;split
   next Q=>exact .v _ _ (U o Q)
   exact(dn.ptr e o _ h).mono z λe _=>D e
  exact(dn.ptr e o y h).mono z λe _=>D e
 | el e i o y h=>exact(dn.el e i o y h).mono z λe _=>D e
 | mp e y h=>exact(dn.mp e y h).mono z λe _=>D e
 | clo f a b G S I T hva X B J=>
  refine UT (.clo f _ _ G S (by rw[oO];exact I) (by rw[oO];exact T) (λj u v hu hv=>?_) (λj u v hu hv=>?_))
  .rw[tG,ζf]at hu;obtain⟨C,w,rfl⟩:=hu;exact B j C v w hv
  rw[tG,ζf]at hu;obtain⟨C,w,rfl⟩:=hu;exact J j C v w hv
 | tup a G I hva B=>
  refine .tup _ G (by rw[oO];exact I) (λj u v hu hv=>?_)
  rw[tG,ζf]at hu;obtain⟨C,w,rfl⟩:=hu;exact B j C v w hv
 | agg a G I hva B=>
  refine .agg _ G (by rw[oO];exact I) (λj u v hu hv=>?_)
  rw[tG,ζf]at hu;obtain⟨C,w,rfl⟩:=hu;exact B j C v w hv
 | yl id=>exact .yl id
theorem en.zJ {d:Nat} {ob:bJ} {f:List SV->List SV} (D:∀id,Z id->Z' id) (U:∀l,(f l).length=l.length)
 (G:∀cs B,cg ν m H Z cs B->cg ν m' H Z' (f cs) B) (o:en ν m H Z d ob):en ν m' H Z' d (zJ f ob):=by
 have u:∀id,Z id->Z' id/\bq H id=bq H id:=λid h=>⟨D id h,rfl⟩
 cases ob with
 | sl k es Q=>
  simp[Go.VE.zJ,en]at o ⊢;split
  next hk=>rw[if_pos hk]at o;obtain⟨I,h1,w,C,J,L⟩:=o;exact⟨I,h1,w,C.mono u,J.mono u,L⟩
  grind
 | box cs=>
  obtain⟨es,B,h1,w,C⟩:=o;exact⟨es,B,h1,G cs B w,C⟩
 | mp O=>
  obtain⟨z,h1,w⟩:=o;exact⟨z,h1,w.mono u⟩
theorem yM {f:List SV->List SV} {ob:bJ}:cD (zJ f ob)=cD ob:=by cases ob <;> rfl
theorem Nl {f:List SV->List SV} {ob:bJ}:sameShape ob (zJ f ob):=by cases ob <;> simp[zJ,sameShape]
theorem R.shut (r:R ν Z st F H) {d:Nat} {ob:bJ} (h0:bh st.m d=some ob) {fs:SV->SV} {D:List SV->List SV} (hl:∀l,(D l).length=l.length) (hg:∀l (j:Nat),(D l)[j]? = (l[j]?).map fs)
 (B:∀id,Z' id↔Z id\/(cD ob=true/\id=(ν d).1)) (G:cD ob=true->∃es ys,H[(ν d).1]? = some (.row es ys)/\wR H Z ys)
 (hf:∀m',(∀e ob',bh m' e=some ob'->e≠d/\∃ob,bh st.m e=some ob/\sameShape ob ob')->∀sv y,dn ν st.m H Z sv y->dn ν m' H Z' (fs sv) y) :
 R ν Z' { st with g:=Db fs st.g,m:=mapM D (eo d st.m) } F H/\Ev Rv ν Z st H ν Z' { st with g:=Db fs st.g,m:=mapM D (eo d st.m) } H:=by
 have key:∀e ob',bh (mapM D (eo d st.m)) e=some ob'->e≠d/\∃ob,bh st.m e=some ob/\ob'=zJ D ob:=λe ob' h=>by
  rw[Gs,ζf]at h;obtain⟨o,h1,rfl⟩:=h;obtain⟨w,h3⟩:=pe h1
  grind
 have L:∀e ob',bh (mapM D (eo d st.m)) e=some ob'->e≠d/\∃ob,bh st.m e=some ob/\sameShape ob ob':=λe ob' h=>by
  obtain⟨h1,o,w,rfl⟩:=key e ob' h;exact⟨h1,o,w,Nl⟩
 have hF:=hf _ L;have T:∀cs C,cg ν st.m H Z cs C->cg ν (mapM D (eo d st.m)) H Z' (D cs) C:=λcs C h=>by
  refine⟨by rw[hl];exact h.1,λj u v hu hv=>?_⟩
  rw[hg,ζf]at hu;obtain⟨u',U,rfl⟩:=hu;exact hF u' v (h.2 j u' v U hv)
 have z  := λid h=>(B id).2 (.inl h)
 refine⟨⟨λs sv S=>?_,λe ob' W=>?_,λd1 d2 o1 o2 h1 w J b2 hp=>?_,λd1 o1 h1 J=>?_,λid h=>?_,⟨λid es ys O hr c hc u hu=>?_⟩⟩,⟨Nat.le_refl _,λ_ _ _ _ _=>rfl,λid h=>⟨z id h,rfl⟩,?_,?_,?_,rfl⟩⟩
 .rw[Hg,ζf]at S;obtain⟨Q,X,rfl⟩:=S;exact hF Q _ (r.slot s Q X)
 .obtain⟨h1,o,w,rfl⟩:=key e ob' W;exact en.zJ z hl T (r.obj e o w)
 .obtain⟨_,p1,k1,rfl⟩:=key d1 o1 h1;obtain⟨_,p2,k2,rfl⟩:=key d2 o2 w;rw[yM]at J b2;exact r.inj d1 d2 p1 p2 k1 k2 J b2 hp
 .obtain⟨Y,p1,k1,rfl⟩:=key d1 o1 h1;rw[yM]at J;intro O;rcases (B _).1 O with O|⟨I,W⟩
  .exact r.apart d1 p1 k1 J O
  exact Y (r.inj d1 d p1 ob k1 h0 J I W)
 .rcases (B id).1 h with h|⟨I,rfl⟩
  .exact r.zrow id h
  obtain⟨es,ys,hr,_⟩:=G I;unfold bq;rw[hr];rfl
 .rcases (B id).1 O with h|⟨I,rfl⟩
  .obtain⟨x,hx⟩:=r.deep.row id es ys h hr c hc u hu;exact⟨x,hx.mono λk hk=>⟨z k hk,rfl⟩⟩
  obtain⟨ab,ad,aa,S⟩:=G I;unfold bq at hr;rw[aa]at hr;obtain⟨_,rfl⟩:=hr;obtain⟨x,hx⟩:=S c hc u hu;exact⟨x,hx.mono λk hk=>⟨z k hk,rfl⟩⟩
 .rintro id ⟨e,o,h1,w,h3⟩;obtain⟨_,p,k1,rfl⟩:=key e o h1;rw[yM]at w;exact .inl ⟨e,p,k1,w,h3⟩
 .intro id h;rcases (B id).1 h with h|⟨I,rfl⟩
  .grind
  exact .inr (.inl ⟨d,ob,h0,I,rfl⟩)
 grind
theorem Jc (r:R ν Z st F H) {d:Nat} (h:Bn d st=some st'):∃Z',R ν Z' st' F H/\Ev Rv ν Z st H ν Z' st' H:=by
 simp[Bn]at h;split at h
 .rename_i k es w u;simp  at h;subst h;have o:=r.obj d _ u;refine⟨λid=>Z id\/(cD (.sl k es w)=true/\id=(ν d).1),R.shut r u (λ_=>qb) (λ_ _=>uM) (λ_=>Iff.rfl) (λB=>?_) (λm' z G y hr=>?_)⟩
  .have hk:cO k=true:=B;simp[en,hk]at o
   grind
  refine dn.sub u ?_ (λid h=>.inl h) z hr
  by_cases hk:cO k=true
  .simp[en,hk]at o;obtain⟨I,hr,C,D,J,_⟩:=o;rw[ta hk];have e:o6 k es w=.fsl es w:=by cases k <;> simp[cO]at hk <;> rfl
   rw[e];refine FR.Nn (.inr ⟨hk,rfl⟩) (by unfold bq;rw[hr];rfl) C (D.mono λid h=>⟨.inl h,rfl⟩)
  cases k <;> simp[cO]at hk
  .exact .same _ rfl
  exact .same _ rfl
 grind
theorem P_ (r:R ν Z st F H) {d:Nat} (h:ghost (.closeB d) st=some st'):∃Z',R ν Z' st' F H/\Ev Rv ν Z st H ν Z' st' H:=by
 simp[ghost]at h;split at h
 .rename_i cs w;split at h
  .rename_i I J;simp  at h;subst h;obtain⟨es,z,hr,hc,_⟩:=r.obj d _ w;have C:=hc.dy J;have L:wR H Z [z]:=by
    intro c B u hu;simp[List.mem_singleton]at B;subst B;obtain⟨j,O⟩:=List.mem_iff_getElem?.1 hu;have Q:j<I.length:=by rw[C.1];grind
    exact⟨_,C.2 j _ u (ζd Q) O⟩
   refine⟨λid=>Z id\/(cD (.box cs)=true/\id=(ν d).1),R.shut r w (λ_=>oO) (λ_ _=>tG) (λ_=>Iff.rfl) (λS=>⟨es,_,hr,L⟩) (λm' D T y G=>?_)⟩
   refine dn.DO w (λo U=>?_) (λid h=>.inl h) D G
   exact FR.E7 (.inr ⟨rfl,rfl⟩) (show bq H (ν d).1=some (es,[z])by unfold bq;rw[hr];rfl) rfl (by rw[<-C.1];omega) ((C.drop o).mono λid h=>⟨.inl h,rfl⟩)
  grind
 grind
theorem uV {d e:Nat}:∀{l:List SV} {j:Nat},(SV.wj d e l)[j]? = (l[j]?).map (SV.vT d e)
 | [],j=>by simp[SV.wj]
 | x::r,0=>by simp[SV.wj]
 | x::r,j+1=>by simp[SV.wj,uV ]
theorem pW {d e:Nat}:∀{l:List SV},(SV.wj d e l).length=l.length
 | []=>rfl
 | x::r=>by simp[SV.wj,pW ]
theorem GF {d e:Nat}:∀{g:Tb SV} {s:Nat},bh (A1 d e g) s=(bh g s).map (SV.vT d e)
 | [],s=>rfl
 | (k,x)::r,s=>by
  simp[A1,bh];split
  .rfl
  exact GF
theorem AV {d e:Nat} (B:d≠e):∀{m:Tb bJ} {k:Nat},bh m e=none->bh (vY d e m) k=(if k=d then none else(bh m (if k=e then d else k)).map (bJ.vT d e))
 | [],k,_=>by simp[vY,bh]
 | (n,x)::r,k,h=>by
  simp[bh]at h;split at h
  .simp_all
  have D:=AV B  (k:=k) h;simp[vY,bh]
  grind
def wN (ν:Nu) (d e:Nat):Nu:=λk=>if k=e then ν d else ν k
theorem dn.vT {sv:SV} {y:V} {d e:Nat} (U:bh m e=none) (D:sv.c6 e=false) (J:d≠e) (r:dn ν m H Z sv y):dn (wN ν d e) (vY d e m) H Z (sv.vT d e) y:=by
 have key:∀k,k≠e->∀w,bh (vY d e m) (if k=d then e else k)=some w->∃ob,bh m k=some ob/\wN ν d e (if k=d then e else k)=ν k/\w=ob.vT d e:=λk hk w h=>by
  rw[AV J U]at h
  by_cases h1:k=d
  .subst h1;rw[if_pos rfl,if_neg (Ne.symm J),if_pos rfl,ζf]at h;obtain⟨ob,B,rfl⟩:=h;exact⟨ob,B,by unfold wN;grind,rfl⟩
  rw[if_neg h1,if_neg h1,if_neg hk,ζf]at h;obtain⟨ob,B,rfl⟩:=h;exact⟨ob,B,by unfold wN;grind,rfl⟩
 induction r with
 | v x y h=>exact .v x y h
 | own k y h=>
  have hk:k≠e:=by rintro rfl;simp[SV.c6]at D
  refine .own _ y λw G=>?_
  obtain⟨ob,h1,B,rfl⟩:=key k hk w G;obtain⟨_,_,_,rfl,rfl⟩:=h ob h1;exact⟨_,_,_,rfl,by rw[B]⟩
 | ptr k o y h=>
  have hk:k≠e:=by rintro rfl;simp[SV.c6]at D
  refine .ptr _ o y λw G=>?_
  obtain⟨ob,h1,B,rfl⟩:=key k hk w G;obtain⟨_,rfl,rfl⟩:=h ob h1;exact⟨_,rfl,by rw[B]⟩
 | el k i o y h=>
  have hk:k≠e:=by rintro rfl;simp[SV.c6]at D
  refine .el _ i o y λw G=>?_
  obtain⟨ob,h1,B,rfl⟩:=key k hk w G;obtain⟨_,_,_,rfl,S,rfl⟩:=h ob h1;exact⟨_,_,_,rfl,S,by rw[B]⟩
 | mp k y h=>
  have hk:k≠e:=by rintro rfl;simp[SV.c6]at D
  refine .mp _ y λw G=>?_
  obtain⟨ob,h1,B,rfl⟩:=key k hk w G;obtain⟨_,rfl,rfl⟩:=h ob h1;exact⟨_,rfl,by rw[B]⟩
 | clo f a b L T Q X hva W C O=>
  simp[SV.c6]at D;refine .clo f _ _ L T (by rw[pW];omega) (by rw[pW];omega) (λj u v hu hv=>?_) (λj u v hu hv=>?_)
  .rw[uV,ζf]at hu;obtain⟨I,z,rfl⟩:=hu;exact C j I v z hv (uR D.1 z)
  rw[uV,ζf]at hu;obtain⟨I,z,rfl⟩:=hu;exact O j I v z hv (uR D.2 z)
 | tup a L Q hva C=>
  refine .tup _ L (by rw[pW];omega) (λj u v hu hv=>?_)
  rw[uV,ζf]at hu;obtain⟨I,z,rfl⟩:=hu;exact C j I v z hv (uR D z)
 | agg a L Q hva C=>
  refine .agg _ L (by rw[pW];omega) (λj u v hu hv=>?_)
  rw[uV,ζf]at hu;obtain⟨I,z,rfl⟩:=hu;exact C j I v z hv (uR D z)
 | yl id=>exact .yl id
theorem Kq (r:R ν Z st F H) {d e:Nat} (B:d≠e) (Y:st.new e=true):R (wN ν d e) Z { st with g:=A1 d e st.g,m:=vY d e st.m } F H/\Ev Rv ν Z st H (wN ν d e) Z { st with g:=A1 d e st.g,m:=vY d e st.m } H:=by
 obtain⟨n1,J,X,n4⟩:=nu Y;have key:∀k w,bh (vY d e st.m) k=some w->∃k0 ob,bh st.m k0=some ob/\w=ob.vT d e/\wN ν d e k=ν k0/\k≠d/\(k=e/\k0=d\/k≠e/\k0=k):=λk w h=>by
  rw[AV B J]at h;split at h
  .simp_all
  rename_i h1;rw[ζf]at h;obtain⟨ob,z,rfl⟩:=h
  by_cases C:k=e
  .rw[if_pos C]at z;exact⟨d,ob,z,rfl,by unfold wN;grind,h1,.inl ⟨C,rfl⟩⟩
  rw[if_neg C]at z;exact⟨k,ob,z,rfl,by unfold wN;grind,h1,.inr ⟨C,rfl⟩⟩
 have L:∀ob:bJ,cD (ob.vT d e)=cD ob:=λob=>by cases ob <;> rfl
 refine⟨⟨λs sv U=>?_,λk w hk=>?_,λd1 d2 o1 o2 h1 z D W hp=>?_,λd1 o1 h1 D=>?_,r.zrow,r.deep⟩,⟨Nat.le_refl _,λ_ _ _ _ _=>rfl,λid h=>⟨h,rfl⟩,?_,λ_ h=>.inl h,?_,rfl⟩⟩
 .rw[GF,ζf]at U;obtain⟨O,G,rfl⟩:=U;exact dn.vT J (Ao X G) B (r.slot s O G)
 .obtain⟨k0,ob,h1,rfl,z,_,_⟩:=key k w hk;have o:=r.obj k0 ob h1
  cases ob with
  | sl fl es xs=>simp[bJ.vT,en,z]at o ⊢;omega
  | box cs=>
   obtain⟨es,Q,g1,g2,g3⟩:=o;have S  := by have:=zV n4 h1;simpa [bJ.c6]using this
   refine⟨es,Q,by grind,⟨by rw[pW];exact g2.1,λj u v hu hv=>?_⟩,g3⟩
   rw[uV,ζf]at hu;obtain⟨u',I,rfl⟩:=hu;exact dn.vT J (uR S I) B (g2.2 j u' v I hv)
  | mp aa=>simp[bJ.vT,en,z]at o ⊢;omega
 .obtain⟨k1,p1,g1,rfl,e1,c1,T⟩:=key d1 o1 h1;obtain⟨k2,p2,g2,rfl,e2,c3,c4⟩:=key d2 o2 z;rw[L]at D W;have:=r.inj k1 k2 p1 p2 g1 g2 D W Zac
  omega
 .obtain⟨k1,p1,g1,rfl,e1,_⟩:=key d1 o1 h1;rw[L]at D;rw[e1];exact r.apart k1 p1 g1 D
 .rintro id ⟨k,o,h1,z,C⟩;obtain⟨k1,p1,g1,rfl,e1,_⟩:=key k o h1;rw[L]at z;exact .inl ⟨k1,p1,g1,z,by grind⟩
 intro k hk w h;obtain⟨k1,p1,g1,rfl,e1,c1,T⟩:=key k w h;rcases T with⟨rfl,_⟩|⟨T,rfl⟩
 .grind
 exact⟨p1,g1,e1,by cases p1 <;> simp[bJ.vT,sameShape]⟩
theorem R.say (r:R ν Z st F H) {n:Nat} {sv:SV} (h:dn ν st.m H Z sv (get F n)):R ν Z { st with g:=bN st.g n sv } F H where
 slot:=λs x u=>by
  by_cases e:n=s
  .subst e;rw[cI]at u;grind
  rw[dW st.g sv e]at u;exact r.slot s x u
 obj:=r.obj
 inj:=r.inj
 apart:=r.apart
 zrow:=r.zrow
 deep:=r.deep
theorem PY (r:R ν Z st F H) {n d es:Nat} {k:Fl} {x:V} (hk:o6 k es []=x/\cO k=false) (D:bh st.g n=some (.v x)) (B:st.new d=true) (G:∀y,FR H Z x y->y=x) (J:tn (ν d) k es 0=x) :
 R (jf ν d (ν d)) Z { st with g:=bN st.g n (.own d),m:=bN st.m d (.sl k es []) } F H/\Ev Rv ν Z st H (jf ν d (ν d)) Z { st with g:=bN st.g n (.own d),m:=bN st.m d (.sl k es []) } H:=by
 have u:cD (.sl k es [])=true->False:=by simp[cD,hk.2]
 have r1:=r.add B (p:=ν d)  (λh=>(u h).elim) (by simp[en,hk.2])
 refine⟨r1.say   (.own _ _ λz w=>?_),?_⟩
 .rw[cI]at w;cases w;rw[iw,G _ (r.slot n _ D).fr]
  grind
 exact(Ev.add  B (Nat.le_refl _) (λ_ _ _=>rfl) (λ_ _=>rfl) (λh=>(u h).elim)).trans (Ev.slots _)
theorem PO (r:R ν Z st F H) {b i d es:Nat} {k:Fl} {x:V} {cs:List SV} (hk:cO k=false) (U:bh st.m b=some (.box cs)) (hi:cs[i]? = some (.v x)) (D:st.new d=true) (W:∀y,FR H Z x y->y=x) (Y:tn (ν d) k es 0=x) :
 ∃ν',R ν' Z { st with m:=bN (bN st.m d (.sl k es [])) b (.box (cs.set i (.own d))) } F H/\Ev Rv ν Z st H ν' Z { st with m:=bN (bN st.m d (.sl k es [])) b (.box (cs.set i (.own d))) } H:=by
 have B:cD (.sl k es [])=true->False:=by simp[cD,hk]
 have r1:=r.add D (p:=ν d)  (λh=>(B h).elim) (by simp[en,hk])
 have C:b≠d:=by rintro rfl;rw[(nu D).2.1]at U;cases U
 have z:bh (bN st.m d (.sl k es [])) b=some (.box cs):=by rw[dW _ _ (Ne.symm C)];omega
 obtain⟨G,I,h1,J,Q⟩:=r1.obj b _ z;have sm:∀e w,bh (bN (bN st.m d (.sl k es [])) b (.box (cs.set i (.own d)))) e=some w->∃ob,bh (bN st.m d (.sl k es [])) e=some ob/\jf ν d (ν d) e=jf ν d (ν d) e/\sameShape ob w:=λe w h=>by
  by_cases L:e=b
  .subst L;rw[cI]at h;cases h;exact⟨_,z,rfl,trivial⟩
  rw[dW _ _ (Ne.symm L)]at h;exact⟨w,h,rfl,.refl _⟩
 refine⟨jf ν d (ν d),r1.gZ  z  trivial rfl (λ_ _=>rfl) rfl ⟨G,I,h1,⟨by simp[J.1],λj u v hu hv=>?_⟩,Q⟩,?_⟩
 .rw[List.getElem?_set]at hu;split at hu
  .rename_i e;subst e;split at hu
   .cases hu;refine .own _ _ λw O=>?_
    rw[dW _ _ C,cI]at O;cases O;rw[iw,W v (J.2 i _ v hi hv).fr]
    grind
   grind
  exact(J.2 j u v hu hv).mono (λid h=>⟨h,rfl⟩) λe _=>sm e
 exact(Ev.add  D (Nat.le_refl _) (λ_ _ _=>rfl) (λ_ _=>rfl) (λh=>(B h).elim)).trans (Ev.gZ r1 z trivial rfl (λ_ _=>rfl) rfl (Nat.le_refl _))
theorem RD (r:R ν Z st F H) {x:Gh} (h:ghost x st=some st'):∃ν' Z',R ν' Z' st' F H/\Ev Rv ν Z st H ν' Z' st' H:=by
 cases x with
 | close d=>obtain⟨Z',a,b⟩:=Jc (Rv:=Rv) r h;grind
 | closeS l=>
  simp[ghost]at h;split at h
  .obtain⟨Z',a,b⟩:=Jc (Rv:=Rv) r h;grind
  .simp  at h;subst h;exact⟨ν,Z,r,.refl⟩
  grind
 | closeB d=>obtain⟨Z',a,b⟩:=P_ (Rv:=Rv) r h;grind
 | keep gs G=>
  simp[ghost]at h;split at h
  next g m hg B=>simp  at h;subst h;exact⟨ν,Z,r.less (λs D w=>rO hg w) (λd ob hd=>rO B hd),Ev.less (λd ob hd=>rO B hd)⟩
  grind
 | drop ds=>
  simp[ghost]at h;subst h;exact⟨ν,Z,r.less   (λs D w=>pG w) (λd ob hd=>hd),Ev.less   (λd ob hd=>hd)⟩
 | canon l d es=>
  cases l with
  | s n=>
   simp[ghost]at h;split at h
   .rename_i w;split at h
    .rename_i u;simp  at h;obtain⟨a,b⟩:=PY (Rv:=Rv) (es:=es) (k:=.nil) r ⟨rfl,rfl⟩ w u (λy h=>h.bM) rfl
     grind
    grind
   .rename_i w;split at h
    .rename_i u;simp  at h;obtain⟨a,b⟩:=PY (Rv:=Rv) (es:=es) (k:=.emp) r ⟨rfl,rfl⟩ w u (λy h=>h.dL) rfl
     grind
    grind
   .split at h
    .simp  at h;subst h;exact⟨ν,Z,r,.refl⟩
    rename_i z;split at h
    .rename_i u;simp  at h;obtain⟨a,b⟩:=Kq (Rv:=Rv) r z u
     grind
    grind
   .split at h
    .simp  at h;subst h;exact⟨ν,Z,r,.refl⟩
    rename_i z;split at h
    .rename_i u;simp  at h;obtain⟨a,b⟩:=Kq (Rv:=Rv) r z u
     grind
    grind
   grind
  | c b i=>
   simp[ghost]at h;split at h
   .rename_i cs C;split at h
    .rename_i w;split at h
     .rename_i u;simp  at h;obtain⟨ν',a,b⟩:=PO (Rv:=Rv) (es:=es) (k:=.nil) r rfl C w u (λy h=>h.bM) rfl
      grind
     grind
    .rename_i w;split at h
     .rename_i u;simp  at h;obtain⟨ν',a,b⟩:=PO (Rv:=Rv) (es:=es) (k:=.emp) r rfl C w u (λy h=>h.dL) rfl
      grind
     grind
    .split at h
     .simp  at h;subst h;exact⟨ν,Z,r,.refl⟩
     rename_i z;split at h
     .rename_i u;simp  at h;obtain⟨a,b⟩:=Kq (Rv:=Rv) r z u
      grind
     grind
    grind
   grind
end
structure ot (E:Env) (f:FuncId) (q:Hq):Prop where
 keep:E.keep f=true
 own:E.own f=false
 le:∀es xs vs ys,q.go es xs vs=some ys->ys.length<=xs.length/\(q.part=false->ys.length=xs.length)
 none:∀es vs ys,q.go es [] vs=some ys->∀(H:bn) (Z:Nat->Prop) (ws:List V) (w:V),dB H Z vs ws->(w=.bM\/w=.dL)->∃n X,∀k,n<=k->run E k (.fn f) (w::ws) H=some (if q.part then w else .undef,H++X)
 row:∀es xs vs ys,q.go es xs vs=some ys->∀(H:bn) (Z:Nat->Prop) (ws:List V) (id off:Nat) (rs:List (List V)),dB H Z vs ws->H[id]? = some (.row es rs)->off+xs.length<=rs.length ->
  gH H Z xs ((rs.drop off).take xs.length)->wR H Z rs->¬Z id->∃n rs' X,(∀k,n<=k->run E k (.fn f) (.hsl id es off xs.length::ws) H=some (if q.part then .hsl id es off ys.length else .undef,(H++X).set id (.row es rs'))) /\
   rs'.length=rs.length/\gH H Z ys ((rs'.drop off).take ys.length)/\wR H Z rs'
section
variable {Rv:Nat->Prop} {ν ν':Nu} {Z Z':Nat->Prop} {st st':St} {m m':Tb bJ} {F F':Frame} {H H':bn}
theorem U5 {E:Env} {f:FuncId} {q:Hq} (hq:ot E f q) (r:R ν Z st F H) {args:List SV} {ys:List V} (ha:cg ν st.m H Z args ys) {dst:Option Nat} {sv:SV} (h:Dn q dst args st=some (sv,st')) :
 ∃n y H' ν',(∀k,n<=k->run E k (.fn f) ys H=some (y,H'))/\R ν' Z st' F H'/\dn ν' st'.m H' Z sv y/\Ev Rv ν Z st H ν' Z st' H'/\Kept dst ν st.m ν' st'.m:=by
 unfold Dn at h;split at h
 .rename_i d vs;obtain⟨w,ws,rfl,h1,h2⟩:=ha.inv;split at h
  .rename_i k es xs zs u G;have aa:=cg.dy h2 G;split at h
   .rename_i ns T;obtain⟨al,af⟩:=hq.le _ _ _ _ T;obtain⟨_,_,_,ee,rfl⟩:=h1.kK u;cases ee;have grow:∀X:bn,R ν Z st F (H++X)/\Ev Rv ν Z st H ν Z st (H++X)/\∀id,Z id->bq (H++X) id=bq H id:=λX=>by
     have hx:∀id,id<H.length->(H++X)[id]? = H[id]? := λid h=>List.getElem?_append_left h
     have G:∀id,Z id->bq (H++X) id=bq H id:=λid h=>by unfold bq;rw[hx id (r.xq h)]
     exact⟨r.heap (λid h=>hx id (r.lt h)) G,Ev.heap Zab (λid h _ _ _=>hx id h) G,G⟩
    have o:=r.obj d _ u
    cases hk:cO k with
    | false=>
     simp only[en,hk,Bool.false_eq_true,if_false]at o;subst o;have hw:tn (ν d) k es 0=.bM\/tn (ν d) k es 0=.dL:=by cases k <;> simp[tn,cO]at hk ⊢
     obtain⟨n,X,L⟩:=hq.none _ _ _ T H Z ws _ aa hw;obtain⟨r0,I,U⟩:=grow X;simp only[hk,Bool.false_eq_true,if_false]at h;split at h
     .rename_i O;split at h
      .rename_i t;split at h
       .rename_i z;simp only[ζa,ζc]at h;obtain⟨rfl,rfl⟩:=h;have r1:R ν Z { st with m:=eo d st.m } F (H++X):=r0.less (g:=st.g) (λ_ _ h=>h) lg
        rw[if_pos O]at L;refine⟨n,_,H++X,jf ν t (ν d),L,r1.add z (λhb=>by simp[cD,hk]at hb) (by simp[en,hk]),?_,?_,Kept.add lg⟩
        .refine .own _ _ λah W=>?_
         simp only at W;rw[cI]at W;cases W;exact⟨_,_,_,rfl,by rw[iw];rfl⟩
        exact I.trans (Ev.re (st:=st) lg (nu z).1 (Nat.le_refl _) (λ_ _ _ _=>rfl) (λ_ _=>rfl) (λhb=>by simp[cD,hk]at hb))
       cases h
      cases h
     rename_i O;simp only[ζa,ζc]at h;obtain⟨rfl,rfl⟩:=h;rw[if_neg O]at L;have hu:bN st.m d (.sl k es [])=st.m:=qN u;rw[hu];exact⟨n,_,H++X,ν,L,r0,.v _ _ (.same _ rfl),I,.refl⟩
    | true=>
     simp only[en,hk,if_true]at o;obtain⟨rs,hr,hl,hf,ab,Q⟩:=o;have B:cD (.sl k es xs)=true:=hk;obtain⟨n,C,X,L,e1,e2,e3⟩:=hq.row _ _ _ _ T H Z ws _ _ rs aa hr hl hf ab (r.apart d _ u B);obtain⟨r0,I,U⟩:=grow X;have ai:(ν d).1<(H++X).length:=by have:=(ζe.1 hr).1;simp;omega
     have G:∀id,Z id->Z id/\bq ((H++X).set (ν d).1 (.row es C)) id=bq H id:=λid D=>⟨D,by
      rw[<-U id D];unfold bq;rw[List.getElem?_set_ne];rintro rfl;exact r.apart d _ u B D⟩
     have ad:∀id,Z id->bq ((H++X).set (ν d).1 (.row es C)) id=bq (H++X) id:=λid D=>by rw[(G id D).2,U id D]
     have hh:∀id,id≠(ν d).1->((H++X).set (ν d).1 (Ob.row es C))[id]? = (H++X)[id]? := λid aj=>List.getElem?_set_ne (Ne.symm aj)
     have J:((H++X).set (ν d).1 (Ob.row es C))[(ν d).1]? = some (.row es C):=List.getElem?_set_self ai;rw[ta hk];simp only[hk,if_true]at h;split at h
     .rename_i O;split at h
      .rename_i t;split at h
       .rename_i z;simp only[ζa,ζc]at h;obtain⟨rfl,rfl⟩:=h;have r1:R ν Z { st with m:=eo d st.m } F (H++X):=r0.less (g:=st.g) (λ_ _ h=>h) lg
        have ae:¬fS ν (eo d st.m) (ν d).1:=by
         rintro⟨k2,o2,g1,g2,g3⟩;obtain⟨g4,g5⟩:=pe g1;exact g4 (r.inj d k2 _ o2 u g5 B g2 g3.symm)
        have r2:R ν Z { st with m:=eo d st.m } F ((H++X).set (ν d).1 (.row es C)):=r1.heap (λid ho=>hh id (by rintro rfl;exact ae ho)) ad
        rw[if_pos O]at L;refine⟨n,_,_,jf ν t (ν d),L,r2.add z (λ_=>⟨ae,r.apart d _ u B⟩) ?_,?_,?_,Kept.add lg⟩
        .simp only[en,cO,if_true,iw];exact⟨C,J,by omega,e2.mono G,e3.mono G,λe=>by cases e⟩
        .refine .own _ _ λah W=>?_
         simp only at W;rw[cI]at W;cases W;exact⟨_,_,_,rfl,by rw[iw];rfl⟩
        exact I.trans (Ev.re (st:=st) lg (nu z).1 Zab (λid _ ho _=>hh id (by rintro rfl;exact ho ⟨d,_,u,B,rfl⟩)) ad (λ_=>.inl ⟨d,_,u,B,rfl⟩))
       cases h
      cases h
     rename_i O;simp only[ζa,ζc]at h;obtain⟨rfl,rfl⟩:=h;rw[if_neg O]at L;have ak:q.part=false:=by simpa using O
     have S:=af ak;have Y:sameShape (.sl k es xs) (.sl k es ns):=⟨rfl,rfl,S⟩;refine⟨n,_,_,ν,L,r0.gZ u Y rfl hh B ?_,.v _ _ (.same _ rfl),I.trans (Ev.gZ r0 u Y rfl hh B Zab),Kept.gZ u Y⟩
     simp only[en,hk,if_true];exact⟨C,J,by omega,e2.mono G,e3.mono G,λe=>⟨(Q e).1,by rw[e1,(Q e).2,S]⟩⟩
   cases h
  cases h
 cases h
end
def vZ:Nat->List SV->Tb SV
 | _,[]=>[]
 | i,v::vs=>(i,v)::vZ (i+1) vs
def start (svs:List SV) (B:dD):St:=⟨vZ 0 svs,B,B.map (·.1),[],true,0⟩
def jw (S:Sys) (c:b9):Prop:=
 ∀f u w rs z,c f u w=some (rs,z)->∀(ν:Nu) (Z:Nat->Prop) (args:List V) (H:bn),(S.E.keep f=true\/H=[])->R ν Z (start u w) args H->cg ν w H Z u args ->
  ∃n y H' ν' Z' st' F' B,run S.E n (.fn f) args H=some (y,H')/\y=result B/\st'.m=z/\cg ν' z H' Z' rs B/\R ν' Z' st' F' H'/\Ev (λ_=>False) ν Z (start u w) H ν' Z' st' H'
section
variable {Rv:Nat->Prop} {ν ν':Nu} {Z Z':Nat->Prop} {st st':St} {m m':Tb bJ} {F F':Frame} {H H' H1:bn} {N:Nat->FuncId}
theorem Rf {k:Fl} {es:Nat} {xs:List (List V)} {d:Nat} (o:en ν m H Z d (.sl k es xs)):(o6 k es xs).good=true:=by
 by_cases hk:cO k=true
 .simp only[en,hk,if_true]at o;obtain⟨w,_,_,u,_⟩:=o;have e:o6 k es xs=.fsl es xs:=by cases k <;> simp[cO]at hk <;> rfl
  rw[e];simp only[V.good];exact u.good
 cases k <;> simp[cO]at hk <;> rfl
mutual
theorem O5 (D:∀d ob,bh m d=some ob->en ν m H Z d ob):∀(n:Nat) (sv:SV) (x y:V),shut m n sv=some x->dn ν m H Z sv y->x.good=true
 | n,.v x,z,y,h,r=>by simp only[shut,ζa]at h;subst h;exact r.fr.good
 | n,.own d,z,y,h,r=>by
  simp only[shut]at h;split at h
  next k es xs B=>simp only[ζa]at h;subst h;exact Rf (D d _ B)
  simp at h
 | 0,.ptr d o,z,y,h,r=>by simp[shut]at h
 | n+1,.ptr d o,z,y,h,r=>by
  simp only[shut]at h;split at h
  .rename_i cs B;split at h
   .rename_i xs U;split at h
    .simp only[ζa]at h;subst h;obtain⟨es,G,_,hc,_⟩:=D d _ B;simp only[V.good];exact Aj _ (nM D n cs xs G U hc)
    simp at h
   simp at h
  simp at h
 | n,.el d i o,z,y,h,r=>by cases n <;> simp[shut]at h
 | n,.yl id,z,y,h,r=>by cases n <;> simp[shut]at h
 | n,.mp d,z,y,h,r=>by
  simp only[shut]at h;split at h
  .rename_i L B;simp only[ζa]at h;subst h;obtain⟨w,_,hk⟩:=D d _ B;simp only[V.good];refine HJ.2 λj u hu=>?_
   have O:j<w.length:=by rw[<-hk.1];exact(ζe.1 hu).1
   obtain⟨⟨_,h1⟩,C⟩:=hk.2 j u _ hu (ζd O);exact⟨kj h1,C.good⟩
  simp at h
 | 0,.clo f a b,z,y,h,r=>by simp[shut]at h
 | n+1,.clo f a b,z,y,h,r=>by
  simp only[shut]at h;split at h
  next Q x2 h1 C=>simp only[ζa]at h;subst h;obtain⟨S,T,rfl,W,X⟩:=r.kN;simp only[V.good,ζh];exact⟨nM D n a Q S h1 W,nM D n b x2 T C X⟩
  simp at h
 | 0,.tup l,z,y,h,r=>by simp[shut]at h
 | n+1,.tup l,z,y,h,r=>by
  simp only[shut]at h;obtain⟨xs,h1,rfl⟩:=ζf.1 h;obtain⟨I,rfl,J⟩:=r.qZ;simp only[V.good];exact nM D n l xs I h1 J
 | 0,.agg l,z,y,h,r=>by simp[shut]at h
 | n+1,.agg l,z,y,h,r=>by
  simp only[shut]at h;obtain⟨xs,h1,rfl⟩:=ζf.1 h;obtain⟨I,rfl,J⟩:=r.jc;simp only[V.good];exact nM D n l xs I h1 J
theorem nM (D:∀d ob,bh m d=some ob->en ν m H Z d ob):∀(n:Nat) (svs:List SV) (xs ys:List V),c8 m n svs=some xs->cg ν m H Z svs ys->V.cE xs=true
 | n,[],xs,ys,h,r=>by simp only[c8,ζa]at h;subst h;rfl
 | n,sv::svs,xs,ys,h,r=>by
  simp only[c8]at h;split at h
  next y s h1 G=>simp only[ζa]at h;subst h;obtain⟨J,B,rfl,r1,r2⟩:=r.inv;simp only[V.cE,ζh];exact⟨O5 D n sv y J h1 r1,nM D n svs s B G r2⟩
  simp at h
end
theorem I8 {f:V->Option V}:∀{xs ys:List (V×V)},xs.length=ys.length->(∀(j:Nat) u v,xs[j]? = some u->ys[j]? = some v->f v.1=some u.1/\f v.2=some u.2)->mI f ys=some xs
 | [],[],_,_=>rfl
 | [],y::ys,h,_=>by simp at h
 | x::xs,[],h,_=>by simp at h
 | (a,b)::xs,(c,d)::ys,h,B=>by
  obtain⟨h1,D⟩:=B 0 _ _ rfl rfl;simp only at h1 D;simp only[mI,h1,D,I8 (xs:=xs) (ys:=ys) (by simpa using h) λj u v hu hv=>B (j+1) u v (by simpa using hu) (by simpa using hv)]
theorem JK:∀{l:List (V×V)} {n:Nat},V.t_ n l=true↔∀(j:Nat) u,l[j]? = some u->u.1.lvl n=true/\u.2.lvl n=true
 | [],n=>by simp[V.t_]
 | (k,x)::l,n=>by
  simp only[V.t_,ζh,JK (l:=l)];constructor
  .rintro⟨h1,B⟩ j u hu
   cases j with
   | zero=>simp at hu;subst hu;exact h1
   | succ j=>exact B j u (by simpa using hu)
  intro h;exact⟨h 0 (k,x) rfl,λj u hu=>h (j+1) u (by simpa using hu)⟩
theorem vw {n:Nat} {xs ys:List V} (D:iU (borrow n H1) ys=some xs) (B:V.lY ys=true):ys=xs:=by
 have w:=lz (f:=borrow n H1) (xs:=ys) (ys:=ys) rfl λj u v hu hv=>by rw[hu]at hv;cases hv;exact eA n H1 (p_.1 B j u hu)
 rw[D]at w;cases w;rfl
mutual
theorem K1 {fr:List Nat} (G:∀d∈fr,∀e ob,bh m e=some ob->ob.c6 d=false) (J:∀d ob,bh m d=some ob->d∉fr->en ν m H1 Z d ob) :
 ∀(n:Nat) (sv:SV) (x y:V),shut m n sv=some x->(∀d∈fr,sv.c6 d=false)->dn ν m H1 Z sv y->∀k,x.lvl k=true->borrow k H1 y=some x
 | n,.v x,z,y,h,B,r,k,hk=>by simp only[shut,ζa]at h;subst h;exact r.fr.borrow k hk
 | n,.own d,z,y,h,B,r,k,hk=>by
  simp only[shut]at h;split at h
  .rename_i Y es xs D;simp only[ζa]at h;subst h;obtain⟨_,_,_,e,rfl⟩:=r.kK D;cases e;have hd:d∉fr:=λhd=>by have:=B d hd;simp[SV.c6]at this
   have o:=J d _ D hd
   by_cases I:cO Y=true
   .simp only[en,I,if_true]at o;obtain⟨ys,hr,hl,hf,_⟩:=o;rw[ta I];have e:o6 Y es xs=.fsl es xs:=by cases Y <;> simp[cO]at I <;> rfl
    rw[e]at hk ⊢;exact(FR.Nn (Z:=λ_=>True) trivial (show bq H1 (ν d).1=some (es,ys)by unfold bq;rw[hr];rfl) hl (hf.mono λid h=>⟨trivial,rfl⟩)).borrow k hk
   cases Y <;> simp[cO]at I
   .exact eA k H1 rfl
   exact eA k H1 rfl
  simp at h
 | 0,.ptr d o,z,y,h,B,r,k,hk=>by simp[shut]at h
 | n+1,.ptr d o,z,y,h,B,r,k,hk=>by
  simp only[shut]at h;split at h
  .rename_i cs D;split at h
   .rename_i xs hx;split at h
    .rename_i aa;simp only[ζa]at h;subst h;obtain⟨_,e,rfl⟩:=r.qe D;cases e;have hd:d∉fr:=λhd=>by have:=B d hd;simp[SV.c6]at this
     obtain⟨es,L,hr,hc,_⟩:=J d _ D hd
     cases k with
     | zero=>simp[V.lvl]at hk
     | succ k=>
      simp only[V.lvl]at hk;have ab:∀e∈fr,SV.dK e (cs.drop o)=false:=λe he=>by
       have:=G e he d _ D;simp only[bJ.c6]at this
       cases hh:SV.dK e (cs.drop o)with
       | false=>rfl
       | true=>
        exfalso;have:∀{l:List SV} {j:Nat},SV.dK e (l.drop j)=true->SV.dK e l=true:=by
         intro l
         induction l with
         | nil=>intro j h;simpa using h
         | cons a l O=>intro j h;cases j with
          | zero=>simpa using h
          | succ j=>simp only[SV.dK,Bool.or_eq_true];exact .inr (O (by simpa using h))
        rw[this hh]at *;simp_all
      have Q:xs.length=cs.length:=by
       have:∀{l:List SV} {r:List V},c8 m n l=some r->r.length=l.length:=by
        intro l
        induction l with
        | nil=>intro r h;simp only[c8,ζa]at h;subst h;rfl
        | cons a l O=>
         intro r h;simp only[c8]at h;split at h
         next h1 S=>simp only[ζa]at h;subst h;simp[O S]
         simp at h
       exact this hx
      have ad:c8 m n (cs.drop o)=some (xs.drop o):=by
       have:∀{l:List SV} {r:List V} {j:Nat},c8 m n l=some r->c8 m n (l.drop j)=some (r.drop j):=by
        intro l
        induction l with
        | nil=>intro r j h;simp only[c8,ζa]at h;subst h;simp[c8]
        | cons a l O=>
         intro r j h;have h0:=h;simp only[c8]at h;split at h
         .rename_i h1 S;simp only[ζa]at h;subst h
          cases j with
          | zero=>exact h0
          | succ j=>exact O S
         simp at h
       exact this hx
      have hb:=kA G J n (cs.drop o) (xs.drop o) (L.drop o) ad ab (hc.drop o) k hk;unfold borrow;simp only[V.closed,Bool.false_eq_true,if_false,hr,ζb,Ob.rows,List.getElem?_cons_zero,if_pos (show o<=L.length by rw[<-hc.1,<-Q];exact aa),hb,Option.map_some]
    simp at h
   simp at h
  simp at h
 | n,.el d i o,z,y,h,B,r,k,hk=>by cases n <;> simp[shut]at h
 | n,.yl id,z,y,h,B,r,k,hk=>by cases n <;> simp[shut]at h
 | n,.mp d,z,y,h,B,r,k,hk=>by
  simp only[shut]at h;split at h
  .rename_i ae D;simp only[ζa]at h;subst h;obtain⟨_,e,rfl⟩:=r.Ff D;cases e;have hd:d∉fr:=λhd=>by have:=B d hd;simp[SV.c6]at this
   obtain⟨T,hr,U⟩:=J d _ D hd
   cases k with
   | zero=>simp[V.lvl]at hk
   | succ k=>
    simp only[V.lvl]at hk;unfold borrow;simp only[V.closed,Bool.false_eq_true,if_false,hr];rw[I8 (xs:=ae) (ys:=T) U.1 λj u v hu hv=>?_]
    .rfl
    obtain⟨⟨e1,e2⟩,e3⟩:=U.2 j u v hu hv;exact⟨by rw[<-e1];exact eA k H1 (V.lH (kj e2)),e3.borrow k (JK.1 hk j u hu).2⟩
  simp at h
 | 0,.clo f a b,z,y,h,B,r,k,hk=>by simp[shut]at h
 | n+1,.clo f a b,z,y,h,B,r,k,hk=>by
  simp only[shut]at h;split at h
  .rename_i x1 x2 h1 S;simp only[ζa]at h;subst h;obtain⟨a',b',rfl,ra,rb⟩:=r.kN
   cases k with
   | zero=>simp[V.lvl]at hk
   | succ k=>
    simp only[V.lvl,ζh]at hk;have C:=kA G J n a x1 a' h1 (λd hd=>by have:=B d hd;simp only[SV.c6,Bool.or_eq_false_iff]at this;exact this.1) ra k hk.1
    have W:=kA G J n b x2 b' S (λd hd=>by have:=B d hd;simp only[SV.c6,Bool.or_eq_false_iff]at this;exact this.2) rb k hk.2
    by_cases w:(V.clo f a' b').closed=true
    .rw[eA _ _ w];simp only[V.closed,ζh]at w;rw[vw C w.1,vw W w.2]
    unfold borrow;rw[if_neg w];simp only[C,W]
  simp at h
 | 0,.tup l,z,y,h,B,r,k,hk=>by simp[shut]at h
 | n+1,.tup l,z,y,h,B,r,k,hk=>by
  simp only[shut]at h;obtain⟨xs,h1,rfl⟩:=ζf.1 h;obtain⟨X,rfl,rl⟩:=r.qZ
  cases k with
  | zero=>simp[V.lvl]at hk
  | succ k=>
   simp only[V.lvl]at hk;have C:=kA G J n l xs X h1 (λd hd=>by have:=B d hd;simpa [SV.c6]using this) rl k hk
   by_cases w:(V.tup X).closed=true
   .rw[eA _ _ w];simp only[V.closed]at w;rw[vw C w]
   unfold borrow;rw[if_neg w];simp only[C,Option.map_some]
 | 0,.agg l,z,y,h,B,r,k,hk=>by simp[shut]at h
 | n+1,.agg l,z,y,h,B,r,k,hk=>by
  simp only[shut]at h;obtain⟨xs,h1,rfl⟩:=ζf.1 h;obtain⟨X,rfl,rl⟩:=r.jc
  cases k with
  | zero=>simp[V.lvl]at hk
  | succ k=>
   simp only[V.lvl]at hk;have C:=kA G J n l xs X h1 (λd hd=>by have:=B d hd;simpa [SV.c6]using this) rl k hk
   by_cases w:(V.agg X).closed=true
   .rw[eA _ _ w];simp only[V.closed]at w;rw[vw C w]
   unfold borrow;rw[if_neg w];simp only[C,Option.map_some]
theorem kA {fr:List Nat} (B:∀d∈fr,∀e ob,bh m e=some ob->ob.c6 d=false) (J:∀d ob,bh m d=some ob->d∉fr->en ν m H1 Z d ob) :
 ∀(n:Nat) (svs:List SV) (xs ys:List V),c8 m n svs=some xs->(∀d∈fr,SV.dK d svs=false)->cg ν m H1 Z svs ys->∀k,V.mc k xs=true->iU (borrow k H1) ys=some xs
 | n,[],xs,ys,h,D,r,k,hk=>by simp only[c8,ζa]at h;subst h;rw[r.c9];rfl
 | n,sv::svs,xs,ys,h,D,r,k,hk=>by
  simp only[c8]at h;split at h
  .rename_i y s h1 U;simp only[ζa]at h;subst h;obtain⟨W,G,rfl,r1,r2⟩:=r.inv;simp only[V.mc,ζh]at hk;have u:=K1 B J n sv y W h1 (λd hd=>by have:=D d hd;simp only[SV.dK,Bool.or_eq_false_iff]at this;exact this.1) r1 k hk.1
   have w:=kA B J n svs s G U (λd hd=>by have:=D d hd;simp only[SV.dK,Bool.or_eq_false_iff]at this;exact this.2) r2 k hk.2
   simp only[iU,u,w]
  simp at h
end
end
theorem RB (n:Nat):V.mc n []=true:=by cases n <;> rfl
theorem Pa (n:Nat) (x:V) (r:List V):V.mc n (x::r)=(V.lvl n x&&V.mc n r):=by cases n <;> rfl
mutual
theorem Eg:∀{n:Nat} {x:V},V.lvl n x=true->V.lvl (n+1) x=true
 | 0,.fsl ..,h=>by simp[V.lvl]at h
 | 0,.fptr ..,h=>by simp[V.lvl]at h
 | 0,.fmap ..,h=>by simp[V.lvl]at h
 | 0,.agg ..,h=>by simp[V.lvl]at h
 | 0,.tup ..,h=>by simp[V.lvl]at h
 | 0,.clo ..,h=>by simp[V.lvl]at h
 | n+1,.fsl es xs,h=>by simp only[V.lvl]at h ⊢;exact Dx h
 | n+1,.fptr cs,h=>by simp only[V.lvl]at h ⊢;exact tw h
 | n+1,.fmap B,h=>by simp only[V.lvl]at h ⊢;exact FA h
 | n+1,.agg cs,h=>by simp only[V.lvl]at h ⊢;exact tw h
 | n+1,.tup cs,h=>by simp only[V.lvl]at h ⊢;exact tw h
 | n+1,.clo f a b,h=>by simp only[V.lvl,ζh]at h ⊢;exact⟨tw h.1,tw h.2⟩
 | 0,.bool _,_|0,.int ..,_|0,.str _,_|0,.iI,_|0,.gD,_|0,.tF,_|0,.dL,_|0,.bM,_|0,.hsl ..,_|0,.hptr ..,_|0,.yld _,_|0,.hmap _,_=>rfl
 | _+1,.bool _,_|_+1,.int ..,_|_+1,.str _,_|_+1,.iI,_|_+1,.gD,_|_+1,.tF,_|_+1,.dL,_|_+1,.bM,_|_+1,.hsl ..,_|_+1,.hptr ..,_|_+1,.yld _,_|_+1,.hmap _,_=>rfl
theorem tw:∀{n:Nat} {x:List V},V.mc n x=true->V.mc (n+1) x=true
 | n,[],_=>RB _
 | n,a::l,h=>by rw[Pa,ζh]at h ⊢;exact⟨Eg h.1,tw h.2⟩
theorem Dx:∀{n:Nat} {x:List (List V)},V.qt n x=true->V.qt (n+1) x=true
 | n,[],_=>by simp only[V.qt]
 | n,a::l,h=>by simp only[V.qt,ζh]at h ⊢;exact⟨tw h.1,Dx h.2⟩
theorem FA:∀{n:Nat} {x:List (V×V)},V.t_ n x=true->V.t_ (n+1) x=true
 | n,[],_=>by simp only[V.t_]
 | n,(k,v)::l,h=>by simp only[V.t_,ζh]at h ⊢;exact⟨⟨Eg h.1.1,Eg h.1.2⟩,FA h.2⟩
end
theorem ze {n m:Nat} (h:n<=m) {x:V} (B:V.lvl n x=true):V.lvl m x=true:=by
 induction h with
 | refl=>exact B
 | step _ u=>exact Eg u
theorem pZ {n m:Nat} (h:n<=m) {x:List V} (B:V.mc n x=true):V.mc m x=true:=by
 induction h with
 | refl=>exact B
 | step _ u=>exact tw u
theorem Tt {n m:Nat} (h:n<=m) {x:List (List V)} (B:V.qt n x=true):V.qt m x=true:=by
 induction h with
 | refl=>exact B
 | step _ u=>exact Dx u
theorem Va {n m:Nat} (h:n<=m) {x:List (V×V)} (B:V.t_ n x=true):V.t_ m x=true:=by
 induction h with
 | refl=>exact B
 | step _ u=>exact FA u
mutual
theorem Bd:∀x:V,∃n,V.lvl n x=true
 | .fsl es xs=>let ⟨n,h⟩:=Jm xs;⟨n+1,by simp only[V.lvl];exact h⟩
 | .fptr cs=>let ⟨n,h⟩:=mU cs;⟨n+1,by simp only[V.lvl];exact h⟩
 | .fmap u=>let ⟨n,h⟩:=Me u;⟨n+1,by simp only[V.lvl];exact h⟩
 | .agg cs=>let ⟨n,h⟩:=mU cs;⟨n+1,by simp only[V.lvl];exact h⟩
 | .tup cs=>let ⟨n,h⟩:=mU cs;⟨n+1,by simp only[V.lvl];exact h⟩
 | .clo f a b=>let ⟨n,h⟩:=mU a;let ⟨m,k⟩:=mU b;⟨max n m+1,by simp only[V.lvl,ζh];exact⟨pZ (Nat.le_max_left _ _) h,pZ (Nat.le_max_right _ _) k⟩⟩
 | .bool _|.int ..|.str _|.iI|.gD|.tF|.dL|.bM|.hsl ..|.hptr ..|.yld _|.hmap _=>⟨0,rfl⟩
theorem mU:∀x:List V,∃n,V.mc n x=true
 | []=>⟨0,by simp only[V.mc]⟩
 | a::l=>let ⟨n,h⟩:=Bd a;let ⟨m,k⟩:=mU l;⟨max n m,by simp only[V.mc,ζh];exact⟨ze (Nat.le_max_left _ _) h,pZ (Nat.le_max_right _ _) k⟩⟩
theorem Jm:∀x:List (List V),∃n,V.qt n x=true
 | []=>⟨0,by simp only[V.qt]⟩
 | a::l=>let ⟨n,h⟩:=mU a;let ⟨m,k⟩:=Jm l;⟨max n m,by simp only[V.qt,ζh];exact⟨pZ (Nat.le_max_left _ _) h,Tt (Nat.le_max_right _ _) k⟩⟩
theorem Me:∀x:List (V×V),∃n,V.t_ n x=true
 | []=>⟨0,by simp only[V.t_]⟩
 | (a,b)::l=>let ⟨n,h⟩:=Bd a;let ⟨m,k⟩:=Bd b;let ⟨q,p⟩:=Me l;⟨max n (max m q),by simp only[V.t_,ζh];exact⟨⟨ze Zaa h,ze Zaa k⟩,Va Zaa p⟩⟩
end
def jS (E:Env) (call:dG) (ops:List Oper) (place:Option (Nat×Nat)) (f:FuncId) (args:List V) (H:bn):Option (V×bn):=
 if mo E ops place f then
  match place with
  | none=>fq E call f args H
  | some (_,i)=>if dJ ops i then fq E call f args H else none
 else match place with
  | none=>match cm call f args H with
   | some y=>some (y,if y.scalar then H else cM H (cW (cn call.lv H) args))
   | none=>none
  | some (b,i)=>match cm call f args (H.take b)with
   | some y=>if y.scalar then some (y,H)else if jh (H.take b) (cW (cn call.lv (H.take b)) args)then some (y,cM H (cW (cn call.lv (H.take b)) args))else none
   | none=>if dJ ops i then match cm call f args H with
    | some y=>some (y,if y.scalar then H else cM H (cW (cn call.lv H) args))
    | none=>none
    else none
section
variable {Rv:Nat->Prop} {ν ν':Nu} {Z Z':Nat->Prop} {st st':St} {m m':Tb bJ} {F F':Frame} {H H' H1:bn} {N:Nat->FuncId} {S:Sys} {c:b9}
theorem J8:∀(l:List SV) (i s:Nat) (sv:SV),bh (vZ i l) s=some sv->∃j,s=i+j/\l[j]? = some sv
 | [],i,s,sv,h=>by simp[vZ,bh]at h
 | x::l,i,s,sv,h=>by
  simp only[vZ,bh]at h;split at h
  next e=>simp only[ζa]at h;subst h;exact⟨0,by omega,rfl⟩
  obtain⟨j,h1,B⟩:=J8 l (i+1) s sv h;exact⟨j+1,by omega,by simpa using B⟩
theorem yO {svs:List SV} {args:List V} (h:cg ν m H Z svs args):∀s sv,bh (vZ 0 svs) s=some sv->dn ν m H Z sv (get args s):=λs sv u=>by
 obtain⟨j,rfl,w⟩:=J8 svs 0 s sv u;obtain⟨y,z,r⟩:=h.get w;rw[Nat.zero_add,KM args j y z];exact r
theorem yu {az:List V} (hg:V.cE az=true):R (λ_=>(0,0)) (λ_=>False) (start (az.map .v) []) az []/\cg (λ_=>(0,0)) [] [] (λ_=>False) (az.map .v) az:=by
 have h:cg (λ_=>(0,0)) [] [] (λ_=>False) (az.map .v) az:=cg.sB (dB.same hg)
 refine⟨⟨yO h,λd ob hd=>by simp[start,bh]at hd,λd w ob u hd=>by simp[start,bh]at hd,λd ob hd=>by simp[start,bh]at hd,λid h=>h.elim,⟨λid es z h=>h.elim⟩⟩,h⟩
theorem HP {xs ys:List V} (h:dB H Z xs ys):((result xs).scalar=true->result ys=result xs)/\(result ys).scalar=(result xs).scalar:=by
 cases xs with
 | nil=>rw[h.c9];exact⟨λ_=>rfl,rfl⟩
 | cons x xs=>
  obtain⟨y,ys,rfl,h1,u⟩:=h.inv
  cases xs with
  | nil=>rw[u.c9];exact h1.scalar
  | cons x2 xs=>
   obtain⟨w,ys,rfl,z,B⟩:=u.inv;exact FR.scalar (.tup _ _ h.1 h.2)
theorem C8 (hS:jw S c) {f:FuncId} {az ys:List V} {rs:List SV} {m':dD} (hg:V.cE az=true) (h:c f (az.map .v) []=some (rs,m')) (J:c8 m' 8 rs=some ys) :
 ∃n r H2,(∀k,n<=k->run S.E k (.fn f) az []=some (r,H2))/\(∀k,n<=k->borrow k H2 r=some (result ys))/\(result ys).good=true:=by
 obtain⟨W,r1⟩:=yu hg;obtain⟨n,y,H2,ν',Z',st',F',B,h1,rfl,X,O,Q,_⟩:=hS f _ _ _ _ h _ _ az [] (.inr rfl) W r1;subst X;have C:=nM Q.obj 8 rs ys B J O;obtain⟨L,T⟩:=mU ys;refine⟨max n (L+1),result B,H2,λk hk=>(oN S.E (Nat.le_trans (Nat.le_max_left ..) hk)).go _ _ _ _ h1,λk hk=>?_,?_⟩
 .have w:=kA (fr:=[]) (λd hd=>by simp at hd) (λd ob hd _=>Q.obj d ob hd) 8 rs _ _ J (λd hd=>by simp at hd) O
  obtain⟨k,rfl⟩:∃j,k=j+1:=⟨k-1,by omega⟩
  have U:=w k (pZ Zaa T)
  have Y:=w (k+1) (pZ Zaa T)
  obtain⟨e1,e2⟩:=jo Y
  cases B with
  | nil=>obtain rfl:=List.eq_nil_of_length_eq_zero e1;exact eA _ H2 rfl
  | cons z B=>
   cases B with
   | nil=>
    obtain⟨y,rfl⟩:∃y,ys=[y]:=by
     cases ys with
     | nil=>simp at e1
     | cons y l=>cases l with|nil=>exact⟨y,rfl⟩|cons _ _=>simp at e1
    obtain⟨x,Z,G⟩:=e2 0 y rfl;cases Z;exact G
   | cons z2 B=>
    obtain⟨y,D,l,rfl⟩:∃y D l,ys=y::D::l:=by
     cases ys with
     | nil=>simp at e1
     | cons y l=>cases l with|nil=>simp at e1|cons D l=>exact⟨y,D,l,rfl⟩
    by_cases u:(V.tup (z::z2::B)).closed=true
    .simp only[result];rw[eA _ _ u];simp only[V.closed]at u;rw[vw U u]
    simp only[result];unfold borrow;rw[if_neg u];simp only[U,Option.map_some]
 have:∀{l:List V},V.cE l=true->(result l).good=true:=by
  intro l I
  cases l with
  | nil=>rfl
  | cons a l=>cases l with
   | nil=>simp only[V.cE,ζh]at I;exact I.1
   | cons b l=>simp only[result,V.good];exact I
 exact this C
theorem Gb {f:FuncId} {args az:List V} {y r:V} {H2:bn} {n:Nat} (hr:∀k,n<=k->run S.E k (.fn f) az []=some (r,H2)) (D:∀k,n<=k->borrow k H2 r=some y) (hg:y.good=true) {B:Nat} (G:∀k,B<=k->borrows k H args=some az) :
 ∀k,max n B<=k->cm (run S.E k) f args H=some y:=λk hk=>by
 unfold cm;simp only[o9,G k Zaa,hr k Zaa,D k Zaa,V.lH hg,if_true]
theorem sF (B:∀id,Z id->(bq H id).isSome=true) {T:List Nat} {id:Nat} (h:Z id):bq (cM H T) id=bq H id:=by
 have:=B id h;unfold bq at this ⊢;rw[jb]
 cases u:H[id]? with
 | none=>rw[u]at this;simp at this
 | some ob=>
  rw[u]at this;simp only[Option.map_some,ζb]
  by_cases e:id∈T
  .rw[if_pos e];cases ob <;> first|rfl|simp[Ob.rows]at this
  rw[if_neg e]
theorem u9 {T:List Nat} {id:Nat} (h:id∉T):(cM H T)[id]? = H[id]? := by
 rw[jb];cases H[id]? <;> simp[h]
end
section
variable {Rv:Nat->Prop} {ν ν':Nu} {Z Z':Nat->Prop} {st st':St} {m m':Tb bJ} {F F':Frame} {H H' H1:bn} {N:Nat->FuncId} {S:Sys} {c:b9}
theorem A_ {az:List V} {args:List SV} {ys:List V} (B:∀d ob,bh m d=some ob->en ν m H Z d ob) (h:c8 m 8 args=some az) (r:cg ν m H Z args ys):V.cE az=true:=nM B 8 args az ys h r
theorem yR {az:List V} {args:List SV} {ys:List V} (r:R ν Z st F H) (B:cg ν st.m H Z args ys) (h:c8 st.m 8 args=some az):∃n,∀k,n<=k->borrows k H ys=some az:=
 let ⟨n,u⟩:=mU az
 ⟨n,λk hk=>kA (fr:=[]) (λd hd=>by simp_all) (λd ob hd _=>r.obj d ob hd) 8 args az ys h (λd hd=>by simp_all) B k (pZ hk u)⟩
theorem oa {b id:Nat} (h:id<b):bq (H.take b) id=bq H id:=by
 unfold bq;grind
theorem MY {b:Nat} {fr:List Nat} {az:List V} {args:List SV} {ys:List V} (r:R ν Z st F H) (B:cg ν st.m H Z args ys) (h:c8 st.m 8 args=some az)
 (G:∀d ob,bh st.m d=some ob->cD ob=true->d∉fr->(ν d).1<b) (D:∀id,Z id->id<b) (hold:fZ st.m fr args=true):∃n,∀k,n<=k->borrows k (H.take b) ys=some az:=by
 obtain⟨n,w⟩:=mU az;refine⟨n,λk hk=>?_⟩
 unfold fZ at hold;have h1:∀d∈fr,SV.dK d args=false/\tM d st.m=false:=λd hd=>by
  grind
 have u:∀id,Z id->Z id/\bq (H.take b) id=bq H id:=λid h=>⟨h,oa (D id h)⟩
 refine kA   (λd hd e ob z=>zV (h1 d hd).2 z) (λd ob hd C=>?_) 8 args az ys h (λd hd=>(h1 d hd).1) (B.mono u λe _=>jm ν st.m e) k (pZ hk w)
 exact en.mono u rfl (λI=>by grind) (λe _=>jm ν st.m e) (r.obj d ob hd)
theorem LJ (hS:jw S c) {ops:List Oper} {place:Option (Nat×Nat)} {dr nw:Bool} {fr:List Nat} (ae:dr=place.isSome) (ab:∀b i,place=some (b,i)->nw=true->dJ ops i=true)
 (hold:∀b i,place=some (b,i)->(∀d ob,bh st.m d=some ob->cD ob=true->d∉fr->(ν d).1<b)/\∀id,Z id->id<b)
 (r:R ν Z st F H) {args:List SV} {ys:List V} (ha:cg ν st.m H Z args ys) {f:FuncId} (hk:mo S.E ops place f=false) {az:List V} (hs:c8 st.m 8 args=some az) (hno:(!dr||nw)=true\/fZ st.m fr args=true)
 {rs:List SV} {m':dD} {J:List V} (hc:c f (az.map .v) []=some (rs,m')) (hz:c8 m' 8 rs=some J) (U:(result J).scalar=true\/(dy args).isSome=true) :
 ∃n H',(∀k,n<=k->jS S.E (run S.E k) ops place f ys H=some (result J,H'))/\R ν Z st F H'/\dn ν st.m H' Z (.v (result J)) (result J)/\Ev Rv ν Z st H ν Z st H':=by
 have hg:=A_ r.obj hs ha;obtain⟨n1,rr,H2,h1,h2,h3⟩:=C8 hS hg hc hz;obtain⟨n2,hb⟩:=yR r ha hs;have I:=Gb h1 h2 h3 hb;generalize hn:max n1 n2=n at I;have C:=I;have Q:∀k,n<=k->cW (cn k H) ys=cW (cn n H) ys:=λk hk=>Am hk (hb n Zaa)
 have G:∀{H'},dn ν st.m H' Z (.v (result J)) (result J):=.v _ _ (.same _ h3);have D:∀T:List Nat,(∀id∈T,Z id)->R ν Z st F (cM H T)/\Ev Rv ν Z st H ν Z st (cM H T):=λT X=>
  ⟨r.heap (λid ho=>u9 λz=>by obtain⟨d,ob,g1,g2,rfl⟩:=ho;exact r.apart d ob g1 g2 (X _ z)) (λid z=>sF r.zrow z),
   Ev.heap (by rw[kM];grind) (λid _ _ hz _=>u9 λz=>hz (X id z)) (λid z=>sF r.zrow z)⟩
 have L:(dy args).isSome=true->(∀id∈cW (cn n H) ys,Z id)/\True:=λY=>by
  obtain⟨xs,Y⟩:=Option.isSome_iff_exists.1 Y;have hf:=ha.dy Y;exact⟨λid z=>by
   obtain⟨j,u,hu,aa⟩:=qK z;have hj:j<xs.length:=by rw[hf.1];grind
   exact FR.cn r.deep n (hf.2 j _ u (ζd hj) hu) id aa,trivial⟩
 cases place with
 | none=>
  by_cases w:(result J).scalar=true
  .exact⟨n,H,λk B=>by simp[jS,hk,C k B,w],r,G,.refl⟩
  obtain⟨X,-⟩:=L (U.resolve_left w);obtain⟨q1,q2⟩:=D _ X;exact⟨n,cM H (cW (cn n H) ys),λk B=>by simp[jS,hk,C k B,w,o9,Q k B],q1,G,q2⟩
 | some bi=>
  obtain⟨b,i⟩:=bi;obtain⟨o1,o2⟩:=hold b i rfl;have ah  := ae;have fits:∀k,cm (run S.E k) f ys (H.take b)=some (result J)->(result J).scalar=false->jh (H.take b) (cW (cn k (H.take b)) ys)=true/\cW (cn k H) ys=cW (cn k (H.take b)) ys:=λk _ ai=>by
   obtain⟨xs,Y⟩:=Option.isSome_iff_exists.1 (U.resolve_left Zac)
   have hf:=ha.dy Y;have W:∀id,Z id->Z id/\bq (H.take b) id=bq H id:=λid h=>⟨h,oa (o2 id h)⟩
   have hd:Deep (H.take b) Z:=⟨λid es ys hz hr c hc u hu=>by
    rw[(W id hz).2]at hr;obtain⟨x,Y⟩:=r.deep.row id es ys hz hr c hc u hu;exact⟨x,Y.mono W⟩⟩
   have hZ:∀id∈cW (cn k (H.take b)) ys,Z id:=λid z=>by
    obtain⟨j,u,hu,aa⟩:=qK z;have hj:j<xs.length:=by rw[hf.1];grind
    exact FR.cn hd k ((hf.2 j _ u (ζd hj) hu).mono W) id aa
   refine⟨?_,vl _ λid z=>o2 id (hZ id z)⟩
   unfold jh;rw[List.all_eq_true];intro id z;have h1:=r.zrow id (hZ id z);rw[<-(W id (hZ id z)).2]at h1;exact h1
  rcases hno with hno|hno
  .have ad:=ab b i rfl Zac
   by_cases w:(result J).scalar=true
   .refine⟨n,H,λk B=>?_,r,G,.refl⟩
    simp[jS,hk];split
    next y hy=>have:=qP hy;rw[C k B]at this;cases this;simp[w]
    simp[ad,C k B,w]
   obtain⟨X,-⟩:=L (U.resolve_left w);obtain⟨q1,q2⟩:=D _ X;refine⟨n,cM H (cW (cn n H) ys),λk B=>?_,q1,G,q2⟩
   simp only[jS,hk,o9,Bool.false_eq_true,if_false];split
   .rename_i y hy;have h9:=qP hy;rw[C k B]at h9;cases h9;obtain⟨f1,f2⟩:=fits k hy (by simpa using w)
    rw[if_neg w,if_pos f1,<-f2,Q k B]
   simp only[ad,if_true,C k B];rw[if_neg w,Q k B]
  obtain⟨n3,af⟩:=MY r ha hs o1 o2 hno;have O:=Gb h1 h2 h3 af
  by_cases w:(result J).scalar=true
  .refine⟨max n1 n3,H,λk B=>?_,r,G,.refl⟩
   simp[jS,hk];have:=O k B;simp[this,w]
  obtain⟨X,-⟩:=L (U.resolve_left w);obtain⟨q1,q2⟩:=D _ X;refine⟨max n (max n1 n3),cM H (cW (cn n H) ys),λk B=>?_,q1,G,q2⟩
  simp only[jS,hk,o9,Bool.false_eq_true,if_false];have h9:=O k Zaa
  obtain⟨f1,f2⟩:=fits k h9 (by simpa using w)
  simp only[h9];rw[if_neg w,if_pos f1,<-f2,Q k Zaa]
theorem Gg {α:Type} {k:Nat} {v:α}:∀{ds:List Nat} {g:Tb α},bh (oH ds g) k=some v->k∉ds
 | [],_,_=>by simp
 | d::ds,g,h=>by
  have h1:=Gg (ds:=ds) h;have u:=(pe (pG  h)).1
  grind
theorem zQ:∀{args:List SV} {ds:List Nat},rowsOf args=some ds->∀(j:Nat) u,args[j]? = some u->(∃x,u=.v x)\/∃d,u=.own d/\d∈ds
 | [],_,_,j,u,hu=>by simp_all
 | .v x::r,ds,h,j,u,hu=>by
  cases j with
  | zero=>grind
  | succ j=>exact zQ  (by simpa [rowsOf]using h) j u Zac
 | .own d::r,ds,h,j,u,hu=>by
  obtain⟨es,h1,rfl⟩:=ζf.1 h
  cases j with
  | zero=>grind
  | succ j=>
   rcases zQ h1 j u Zac with k|⟨w,k1,k2⟩
   .grind
   grind
 | .ptr ..::_,_,h,_,_,_|.el ..::_,_,h,_,_,_|.mp _::_,_,h,_,_,_|.clo ..::_,_,h,_,_,_|.tup _::_,_,h,_,_,_|.agg _::_,_,h,_,_,_|.yl _::_,_,h,_,_,_=>by simp[rowsOf]at h
theorem xN:∀{args:List SV} {ds:List Nat} {n:Nat} {az:List V},rowsOf args=some ds->c8 m n args=some az->∀d∈ds,∃ob,bh m d=some ob
 | [],ds,_,_,h,_,d,hd=>by simp[rowsOf]at h;grind
 | x::r,ds,n,az,h,B,d,hd=>by
  simp[c8]at B;split at B
  rotate_left
  .cases B
  rename_i y s h1 D
  cases x with
  | v x=>exact xN  (by simpa [rowsOf]using h) D d hd
  | own e=>
   obtain⟨es,g1,rfl⟩:=ζf.1 h;rcases List.mem_cons.1 hd with rfl|hd
   .cases n <;> (simp[shut]at h1;grind)
   exact xN g1 D d hd
  | _=>simp[rowsOf]at h
theorem CS {H0:bn} (hd:Deep H0 Z) (W:∀d ob,bh m d=some ob->cD ob=true->(H0[(ν d).1]?).isSome=true->en ν m H0 Z d ob) {args:List SV} {ys:List V} (U:cg ν m H0 Z args ys) {ds:List Nat} (hr:rowsOf args=some ds)
 (J:∀d∈ds,∃ob,bh m d=some ob) {q id:Nat} (h:id∈cW (cn q H0) ys):Z id\/∃d ob,d∈ds/\bh m d=some ob/\cD ob=true/\(ν d).1=id/\∃j es off len:Nat,ys[j]? = some (V.hsl id es off len):=by
 obtain⟨j,y,T,hk⟩:=qK h;have X:j<args.length:=by rw[U.1];grind
 have hu:=ζd X;have D:=U.2 j _ y hu T;rcases zQ hr j _ hu with⟨x,e⟩|⟨d,e,I⟩
 .rw[e]at D;cases D with|v _ _ Y=>exact .inl (FR.cn hd q Y id hk)
 rw[e]at D;obtain⟨ob,C⟩:=J d I;obtain⟨k,es,G,rfl,rfl⟩:=D.kK C
 by_cases w:cO k=true
 .cases q with
  | zero=>simp[cn]at hk
  | succ q=>
  have L:tn (ν d) k es G.length=.hsl (ν d).1 es (ν d).2 G.length:=by cases k <;> first|rfl|cases w
  rw[L]at hk;have hb:cD (.sl k es G)=true:=w
  by_cases z:(H0[(ν d).1]?).isSome=true
  .have o:=W d _ C hb z;simp[en,w]at o;obtain⟨zs,h1,_,_,h4,_⟩:=o;simp only[cn,V.closed,Bool.false_eq_true,if_false,h1,List.mem_cons]at hk;rcases hk with rfl|hk
   .grind
   obtain⟨i,u,hu,O⟩:=qK hk;obtain⟨c,hc,Q⟩:=List.mem_flatten.1 (List.mem_of_getElem? hu);obtain⟨x,hx⟩:=h4 c (List.mem_of_mem_drop (List.mem_of_mem_take hc)) u Q;exact .inl (FR.cn hd q hx id O)
  have B:H0[(ν d).1]? = none:=by grind
  simp[cn,V.closed,B]at hk
  grind
 have S:(tn (ν d) k es G.length).closed=true:=by cases k <;> first|rfl|(exact absurd rfl w)
 rw[Iy q H0 S]at hk;cases hk
theorem VP (hS:jw S c) {ops:List Oper} {place:Option (Nat×Nat)} {nw:Bool} (W:∀b i,place=some (b,i)->nw=true->dJ ops i=true)
 (hold:∀b i,place=some (b,i)->∀id,Z id->id<b)
 (r:R ν Z st F H) {args:List SV} {ys:List V} (ha:cg ν st.m H Z args ys) {f:FuncId} (hk:S.E.keep f=false) {az:List V} (hs:c8 st.m 8 args=some az) (ad:(!place.isSome||nw)=true)
 {rs:List SV} {m':dD} {J:List V} (hc:c f (az.map .v) []=some (rs,m')) (Y:c8 m' 8 rs=some J) (U:(result J).scalar=false) {ds:List Nat} (hr:rowsOf args=some ds) (aa:∀d∈ds,∃ob,bh st.m d=some ob) :
 ∃n H',(∀k,n<=k->jS S.E (run S.E k) ops place f ys H=some (result J,H'))/\R ν Z { st with m:=oH ds st.m } F H'/\dn ν (oH ds st.m) H' Z (.v (result J)) (result J)/\Ev Rv ν Z st H ν Z { st with m:=oH ds st.m } H':=by
 have hg:=A_ r.obj hs ha;obtain⟨n1,rr,H2,h1,h2,h3⟩:=C8 hS hg hc Y;obtain⟨n2,hb⟩:=yR r ha hs;have C:=Gb h1 h2 h3 hb;generalize hn:max n1 n2=n at C;have D:=C;have L:∀k,n<=k->cW (cn k H) ys=cW (cn n H) ys:=λk hk=>Am hk (hb n Zaa)
 have T:∀{H'},dn ν (oH ds st.m) H' Z (.v (result J)) (result J):=.v _ _ (.same _ h3);have B:∀d ob,bh (oH ds st.m) d=some ob->bh st.m d=some ob:=λd ob h=>pG h
 have hT:∀id∈cW (cn n H) ys,Z id\/∃d ob,d∈ds/\bh st.m d=some ob/\cD ob=true/\(ν d).1=id/\∃j es off len:Nat,ys[j]? = some (V.hsl id es off len):=λid w=>CS r.deep (λd ob h _ _=>r.obj d ob h) ha hr aa w
 have r2  := r.less (λ_ _ h=>h) B
 have q1  := r2.heap (λid X=>u9 λw=>by
  obtain⟨d,ob,g1,g2,rfl⟩:=X;rcases hT _ w with h|⟨d',O,k1,k2,k3,k4,_⟩
  .exact r.apart d ob (B d ob g1) g2 h
  have:=r.inj d' d O ob k2 (B d ob g1) k3 g2 k4;subst this;exact Gg g1 k1) (λid w=>sF r.zrow w)
 have q2:Ev Rv ν Z st H ν Z { st with m:=oH ds st.m } (cM H (cW (cn n H) ys)):=(Ev.heap (by rw[kM];grind) (λid _ X Y _=>u9 λw=>by
  rcases hT _ w with h|⟨d',O,k1,k2,k3,k4,_⟩
  .simp_all
  exact X ⟨d',O,k2,k3,k4⟩) (λid w=>sF r.zrow w)).trans (Ev.less  B)
 cases place with
 | none=>exact⟨n,cM H (cW (cn n H) ys),λk z=>by simp[jS,mo,hk,D k z,U,o9,L k z],q1,T,q2⟩
 | some bi=>
  obtain⟨b,i⟩:=bi;have o2:=hold b i rfl;have fits:∀k,cm (run S.E k) f ys (H.take b)=some (result J)->jh (H.take b) (cW (cn k (H.take b)) ys)=true/\cW (cn k H) ys=cW (cn k (H.take b)) ys:=λk hi=>by
   have G:∀id,Z id->Z id/\bq (H.take b) id=bq H id:=λid h=>⟨h,oa (o2 id h)⟩
   have hd:Deep (H.take b) Z:=⟨λid es ys Y hr c hc u hu=>by
    rw[(G id Y).2]at hr;obtain⟨x,hx⟩:=r.deep.row id es ys Y hr c hc u hu;exact⟨x,hx.mono G⟩⟩
   have ae  := ha.mono G λe _=>jm ν st.m e
   have af:∀d ob,bh st.m d=some ob->cD ob=true->((H.take b)[(ν d).1]?).isSome=true->en ν st.m (H.take b) Z d ob:=λd ob h hb ah=>
    en.mono G rfl (λ_=>by
     grind) (λe _=>jm ν st.m e) (r.obj d ob h)
   have ab:∀(j:Nat) (y:V),ys[j]? = some y->(borrow k (H.take b) y).isSome=true:=λj y Q=>by
    unfold cm at hi;rw[o9]at hi;split at hi
    .rename_i ai aj;obtain⟨_,hm⟩:=jo aj;have hj:=(ζe.1 Q).1;obtain⟨x,al,am⟩:=hm j _ (ζd (show j<ai.length by omega))
     grind
    cases hi
   have hZ:∀id∈cW (cn k (H.take b)) ys,id<b/\(bq (H.take b) id).isSome=true:=λid w=>by
    rcases CS hd af ae hr aa w with h|⟨d,ob,k1,k2,k3,k4,j,es,off,len,Q⟩
    .have:=r.zrow id h
     grind
    have I:=ab j _ Q
    cases k with
    | zero=>simp[borrow,V.closed]at I
    | succ k=>
    simp only[borrow,V.closed,Bool.false_eq_true,if_false]at I;split at I
    next an xs hx=>obtain⟨o,X,_⟩:=ζg.1 hx;have:=(ζe.1 X).1;rw[List.length_take]at this;exact⟨by omega,by unfold bq;rw[hx];rfl⟩
    cases I
   refine⟨?_,vl _ λid w=>(hZ id w).1⟩
   unfold jh;rw[List.all_eq_true];exact λid w=>(hZ id w).2
  refine⟨n,cM H (cW (cn n H) ys),λk z=>?_,q1,T,q2⟩
  simp only[jS,mo,hk,o9,Bool.false_and,Bool.false_eq_true,if_false];split
  next y Q=>have h9:=qP Q;rw[D k z]at h9;cases h9;obtain⟨f1,f2⟩:=fits k Q;rw[if_neg (by rw[U];simp),if_pos f1,<-f2,L k z]
  have ak:=W b i rfl (by simpa using ad)
  simp only[ak,if_true,D k z];rw[if_neg (by rw[U];simp),L k z]
theorem K7 {xs ys:List (List V)} (h:gH H Z xs ys) (B:mw xs=true):ys=xs:=by
 refine(List.ext_getElem h.1 λj h1 z=>?_).symm
 have:=h.2 j _ _ (ζd h1) (ζd z);have w  := by
  unfold mw at B;rw[List.all_eq_true]at B;have:=B _ (List.getElem_mem h1);rw[List.all_eq_true]at this;exact sx.2 λk u hu=>this u (List.mem_of_getElem? hu)
 exact(this.scalar.1 w).symm
theorem EP:∀{B:List Nat} {os:Tb bJ} {g:Tb bJ},kr g B=some os->∀k ob,bh os k=some ob->bh g k=some ob
 | [],os,g,h,k,ob,hk=>by simp[kr]at h;subst h;simp[bh]at hk
 | n::r,os,g,h,k,ob,hk=>by
  simp only[kr]at h;split at h
  .rename_i v t h1 D;cases h;simp only[bh]at hk;split at hk
   next e=>subst e;cases hk;exact h1
   exact EP D k ob hk
  cases h
theorem KW {args:List SV} {os:dD} (h:handed m args=some os):∀k ob,bh os k=some ob->bh m k=some ob:=EP h
mutual
theorem TB {d:Nat}:∀{x:SV},x.c6 d=true->d∈x.CG
 | .v _,h=>by simp[SV.c6]at h
 | .own e,h|.ptr e _,h|.el e _ _,h|.mp e,h=>by simp[SV.c6]at h;simp[SV.CG,h]
 | .clo _ a b,h=>by
  simp only[SV.c6,Bool.or_eq_true]at h;simp only[SV.CG,List.mem_append];rcases h with h|h
  .exact .inl (vC h)
  exact .inr (vC h)
 | .tup l,h|.agg l,h=>by simp only[SV.c6]at h;simp only[SV.CG];exact vC h
 | .yl _,h=>by simp[SV.c6]at h
theorem vC {d:Nat}:∀{l:List SV},SV.dK d l=true->d∈SV.sO l
 | [],h=>by simp[SV.dK]at h
 | x::r,h=>by
  simp only[SV.dK,Bool.or_eq_true]at h;simp only[SV.sO,List.mem_append];rcases h with h|h
  .exact .inl (TB h)
  exact .inr (vC h)
end
theorem C1 {D:List Nat} {ob:bJ} (h:within D ob=true) {e:Nat} (B:ob.c6 e=true):e∈D:=by
 cases ob with
 | box cs=>
  unfold within at h;rw[List.all_eq_true]at h;simpa using h e (vC B)
 | sl k es w=>simp[bJ.c6]at B
 | mp u=>simp[bJ.c6]at B
theorem ET {D:List Nat}:∀{l:List Nat} {a b:Tb bJ},Aw D m' l a=some b->(∀k∈l,bh b k=bh m' k/\∃ob,bh m' k=some ob/\within D ob=true)/\∀k,k∉l->bh b k=bh a k
 | [],a,b,h=>by simp[Aw]at h;grind
 | d::r,a,b,h=>by
  simp[Aw]at h;split at h
  .rename_i ob B;split at h
   .rename_i hp;obtain⟨h1,G⟩:=ET h;refine⟨λk hk=>?_,λk hk=>?_⟩
    .by_cases hr:k∈r
     .grind
     have e:k=d:=by grind
     subst e;exact⟨by rw[G k hr,cI,B],ob,B,hp⟩
    simp  at hk;rw[G k hk.2,dW _ _ (Ne.symm hk.1)]
   grind
  grind
theorem HS {l:List Nat} {a b:Tb bJ} (h:lp m' l a=some b):(∀k∈l,bh b k=bh m' k/\∃ob,bh m' k=some ob/\within l ob=true)/\∀k,k∉l->bh b k=bh a k:=ET h
theorem mem_keys:∀{os:dD} {k:Nat},k∈os.map (·.1)↔∃ob,bh os k=some ob
 | [],k=>by simp[bh]
 | (d,o)::os,k=>by
  simp[bh]
  by_cases e:d=k
  .simp_all
  rw[if_neg e,<-mem_keys]
  grind
theorem uZ:∀{l:List SV} {j:Nat} {u:SV},SV.xV l=true->l[j]? = some u->u.bare=true
 | [],j,u,h,B=>by simp at B
 | x::r,j,u,h,B=>by
  simp only[SV.xV,ζh]at h
  cases j with
  | zero=>simp at B;subst B;exact h.1
  | succ j=>exact uZ h.2 (by simpa using B)
theorem dn.bare {Z2:Nat->Prop} {sv:SV} {y:V} (r:dn ν m H Z sv y):sv.bare=true->dn ν m H Z2 sv y:=by
 induction r with
 | v x y h=>
  intro z;have z:x.scalar=true:=z;rw[(h.scalar.1 z)];exact .v _ _ (.same _ (kj z))
 | own d y h=>intro _;exact .own d y h
 | ptr d o y h=>intro _;exact .ptr d o y h
 | el d i o y h=>intro _;exact .el d i o y h
 | mp d y h=>intro _;exact .mp d y h
 | clo f a b B G C z hva I w D=>
  intro h;simp only[SV.bare,ζh]at h;exact .clo f a b B G C z (λj u v hu hv=>w j u v hu hv (uZ h.1 hu)) λj u v hu hv=>D j u v hu hv (uZ h.2 hu)
 | tup a B C hva w=>intro h;exact .tup a B C λj u v hu hv=>w j u v hu hv (uZ h hu)
 | agg a B C hva w=>intro h;exact .agg a B C λj u v hu hv=>w j u v hu hv (uZ h hu)
 | yl id=>intro _;exact .yl id
theorem en.bare {Z2:Nat->Prop} {d:Nat} {ob:bJ} (h:ob.bare=true) (o:en ν m H Z d ob):en ν m H Z2 d ob:=by
 cases ob with
 | box cs=>
  obtain⟨es,w,h1,z,B⟩:=o;exact⟨es,w,h1,⟨z.1,λj u v hu hv=>(z.2 j u v hu hv).bare (uZ h hu)⟩,B⟩
 | sl k es D=>cases h
 | mp C=>cases h
theorem BN (hS:jw S c) {f:FuncId} (ae:S.E.keep f=true) (r:R ν Z st F H) {args:List SV} {ys:List V} (ha:cg ν st.m H Z args ys) {os:dD} (hh:handed st.m args=some os)
 {rs:List SV} {m':dD} {J:Tb bJ} (hc:c f args os=some (rs,m')) (hb:lp m' (os.map (·.1)) st.m=some J) :
 ∃n H' U Z' G F1 ws,(∀k,n<=k->run S.E k (.fn f) ys H=some (result ws,H'))/\G.m=m'/\cg U m' H' Z' rs ws/\R U Z' G F1 H'/\(∀e ob,bh m' e=some ob->e∉os.map (·.1)->cD ob=true->H.length<=(U e).1) /\
  R ν Z' { st with m:=J } F H'/\Ev Rv ν Z st H ν Z' { st with m:=J } H'/\(∀e ob',bh J e=some ob'->∃ob,bh st.m e=some ob/\ν e=ν e/\sameShape ob ob') /\
  ((∀k∈os.map (·.1),AX J k=true)->R ν Z { st with m:=J } F H'/\Ev Rv ν Z st H ν Z { st with m:=J } H'):=by
 have u:=KW hh;have ab  := ha.mono (λid h=>⟨h,rfl⟩) λe _ ob' h=>⟨ob',u e ob' h,rfl,.refl _⟩
 have r0:R ν Z (start args os) ys H:=by
  refine⟨yO ab,λd ob hd=>?_,λd d' ob ob' h1 B=>r.inj d d' ob ob' (u d ob h1) (u d' ob' B),λd ob h=>r.apart d ob (u d ob h),r.zrow,r.deep⟩
  exact en.mono (λid h=>⟨h,rfl⟩) rfl (λ_=>rfl) (λe _ ob' h=>⟨ob',u e ob' h,rfl,.refl _⟩) (r.obj d ob (u d ob hd))
 obtain⟨n,y,H',U,Z',G,F1,ws,e1,rfl,rfl,e2,e3,ev⟩:=hS f args os rs m' hc ν Z ys H (.inl ae) r0 ab;obtain⟨b1,b2⟩:=HS hb;have I:∀k ob',k∈os.map (·.1)->bh G.m k=some ob'->∃ob,bh os k=some ob/\U k=ν k/\sameShape ob ob':=λk ob' hk h=>ev.pin k hk ob' h
 have L:∀id,fS ν os id->fS ν st.m id:=λid ⟨k,o,h1,B,C⟩=>⟨k,o,u k o h1,B,C⟩
 have bk:∀ob ob':bJ,sameShape ob ob'->cD ob'=cD ob:=λob ob' h=>by
  cases ob <;> cases ob' <;> simp[sameShape]at h
  .simp[cD,h.1]
  .rfl
  rfl
 have D:∀k ob',bh J k=some ob'->∃ob,bh st.m k=some ob/\sameShape ob ob'/\(k∈os.map (·.1)/\bh G.m k=some ob'/\U k=ν k/\bh os k=some ob/\within (os.map (·.1)) ob'=true\/k∉os.map (·.1)/\ob'=ob):=λk ob' h=>by
  by_cases hk:k∈os.map (·.1)
  .grind
  rw[b2 k hk]at h;exact⟨ob',h,.refl _,.inr ⟨hk,rfl⟩⟩
 have z:∀k ob,k∉os.map (·.1)->bh st.m k=some ob->cD ob=true->H'[(ν k).1]? = H[(ν k).1]? /\ ¬Z' (ν k).1:=λk ob hk h w=>by
  have ad:¬fS ν os (ν k).1:=by
   rintro⟨k2,o2,g1,g2,g3⟩;have:=r.inj k2 k o2 ob (u k2 o2 g1) h g2 w g3;subst this;exact hk (mem_keys.2 ⟨o2,g1⟩)
  have af:=r.lt ⟨k,ob,h,w,rfl⟩;have ah:=r.apart k ob h w;refine⟨ev.same _ af ad ah (λh=>h),λai=>?_⟩
  rcases ev.frz _ ai with h|h|h|h
  .simp_all
  .exact ad h
  .omega
  omega
 have sm:∀e ob',bh J e=some ob'->∃ob,bh st.m e=some ob/\ν e=ν e/\sameShape ob ob':=λe ob' h=>by
  obtain⟨ob,h1,B,_⟩:=D e ob' h;exact⟨ob,h1,rfl,B⟩
 have fresh:∀e ob,bh G.m e=some ob->e∉os.map (·.1)->cD ob=true->H.length<=(U e).1:=λe ob he aj w=>by
  rcases ev.own _ ⟨e,ob,he,w,rfl⟩with⟨k,o,h1,B,C⟩|h|h
  .have hk:k∈os.map (·.1):=mem_keys.2 ⟨o,h1⟩;obtain⟨_,ob',h4,_⟩:=b1 k hk;obtain⟨o2,T,Y,q3⟩:=I k ob' hk h4;have T:bh os k=some o2:=T;have h1:bh os k=some o:=h1;rw[h1]at T;cases T;have:=e3.inj e k ob ob' he h4 w (by rw[bk _ _ q3];exact B) (by rw[Y];exact C.symm)
   exact absurd (this▸hk) aj
  .exact h.elim
  exact h
 have W:∀d1 d2 o1 o2,bh J d1=some o1->bh J d2=some o2->cD o1=true->cD o2=true->(ν d1).1=(ν d2).1->d1=d2:=λd1 d2 o1 o2 h1 B k1 k2 hp=>by
  obtain⟨p1,g1,s1,_⟩:=D d1 o1 h1;obtain⟨p2,g2,s2,_⟩:=D d2 o2 B;exact r.inj d1 d2 p1 p2 g1 g2 (by rw[<-bk _ _ s1];omega) (by rw[<-bk _ _ s2];omega) hp
 have O:∀id,id<H.length->¬fS ν st.m id->¬Z id->¬Rv id->H'[id]? = H[id]? := λid hl ho hz _=>ev.same id hl (λh=>ho (L id h)) hz (λh=>h)
 have X:∀id,fS ν J id->fS ν st.m id\/Rv id\/H.length<=id:=by
  rintro id ⟨k,o,h1,B,C⟩;obtain⟨ob,g1,s1,_⟩:=D k o h1;exact .inl ⟨k,ob,g1,by rw[<-bk _ _ s1];omega,C⟩
 have aa:∀id,Z id->Z id/\bq H' id=bq H id:=λid h=>⟨h,(ev.rows id h).2⟩
 refine⟨n,H',U,Z',G,F1,ws,λk hk=>(oN S.E hk).go _ _ _ _ e1,rfl,e2,e3,fresh,⟨λs sv hs=>(r.slot s sv hs).mono ev.rows λe _=>sm e,λk ob' h=>?_,W,λd1 o1 h1 k1=>?_,e3.zrow,e3.deep⟩,⟨ev.len,O,ev.rows,X,?_,λe _=>sm e,rfl⟩,sm,
  λak=>⟨⟨λs sv hs=>(r.slot s sv hs).mono aa λe _=>sm e,λk ob' h=>?_,W,λd1 o1 h1 k1=>?_,λid h=>by rw[(ev.rows id h).2];exact r.zrow id h,r.deep.mono λid h=>(ev.rows id h).2⟩,⟨ev.len,O,aa,X,λid h=>.inl h,λe _=>sm e,rfl⟩⟩⟩
 .obtain⟨ob,h1,B,C|⟨C,rfl⟩⟩:=D k ob' h
  .obtain⟨T,Y,q3,q4,q5⟩:=C;refine en.mono (λid h=>⟨h,rfl⟩) q3.symm (λ_=>rfl) (λe he Q B=>?_) (e3.obj k ob' Y)
   have hm:=C1 q5 he;obtain⟨u1,al,u2,_⟩:=b1 e hm;rw[u1,u2]at B;cases B;obtain⟨_,_,u4,_⟩:=I e Q hm u2;exact⟨Q,u2,u4.symm,.refl _⟩
  exact en.mono ev.rows rfl (λw=>(z k ob' C h1 w).1) (λe _=>sm e) (r.obj k ob' h1)
 .obtain⟨ob,g1,s1,C|⟨C,rfl⟩⟩:=D d1 o1 h1
  .obtain⟨T,Y,q3,q4,q5⟩:=C;rw[<-q3];exact e3.apart d1 o1 Y k1
  exact(z d1 o1 C g1 k1).2
 .intro id h;rcases ev.frz id h with h|h|h|h
  .exact .inl h
  .exact .inr (.inl (L id h))
  .exact h.elim
  omega
 .obtain⟨ob,h1,B,C|⟨C,rfl⟩⟩:=D k ob' h
  .obtain⟨T,Y,q3,q4,q5⟩:=C;have hb:=ak k T;unfold AX at hb;rw[h]at hb;refine en.bare (Z:=Z') hb (en.mono (λid h=>⟨h,rfl⟩) q3.symm (λ_=>rfl) (λe he Q B=>?_) (e3.obj k ob' Y))
   have hm:=C1 q5 he;obtain⟨u1,al,u2,_⟩:=b1 e hm;rw[u1,u2]at B;cases B;obtain⟨_,_,u4,_⟩:=I e Q hm u2;exact⟨Q,u2,u4.symm,.refl _⟩
  exact en.mono aa rfl (λw=>(z k ob' C h1 w).1) (λe _=>sm e) (r.obj k ob' h1)
 obtain⟨ob,g1,s1,_⟩:=D d1 o1 h1;exact r.apart d1 ob g1 (by rw[<-bk _ _ s1];exact k1)
theorem V3 (hS:jw S c) {f:FuncId} (G:S.E.keep f=true) (r:R ν Z st F H) {args:List SV} {ys:List V} (J:cg ν st.m H Z args ys) {os:dD} (U:handed st.m args=some os)
 {rs:List SV} {m':dD} {D:List V} {B:Tb bJ} (hc:c f args os=some (rs,m')) (W:dy rs=some D) (Y:lp m' (os.map (·.1)) st.m=some B) :
 ∃n y H' Z',(∀k,n<=k->run S.E k (.fn f) ys H=some (y,H'))/\R ν Z' { st with m:=B } F H'/\dn ν B H' Z' (.v (result D)) y/\Ev Rv ν Z st H ν Z' { st with m:=B } H'/\∀e ob',bh B e=some ob'->∃ob,bh st.m e=some ob/\ν e=ν e/\sameShape ob ob':=by
 obtain⟨n,H',O,Z',C,F1,w,e1,_,e2,_,_,g1,g2,g3,_⟩:=BN (Rv:=Rv) hS G r J U hc Y;refine⟨n,result w,H',Z',e1,g1,?_,g2,g3⟩;have u:=e2.dy W;have:FR H' Z' (result D) (result w):=by
  cases D with
  | nil=>rw[u.c9];exact .same _ rfl
  | cons x z=>
   obtain⟨y,I,rfl,g1,g2⟩:=u.inv
   cases z with
   | nil=>rw[g2.c9];exact g1
   | cons x2 z=>
    obtain⟨Q,L,rfl,g3,g4⟩:=g2.inv;exact .tup _ _ u.1 u.2
 exact .v _ _ this
theorem zl {ys:List V} (h:V.cV ys=true):(result ys).scalar=true:=by
 cases ys with
 | nil=>rfl
 | cons a l=>
  cases l with
  | nil=>simp only[V.cV,ζh]at h;exact h.1
  | cons b l=>simp[result,V.scalar];omega
theorem Vs (hS:jw S c) {f:FuncId} (G:S.E.keep f=true) (r:R ν Z st F H) {args:List SV} {ys:List V} (W:cg ν st.m H Z args ys) {os:dD} (Y:handed st.m args=some os)
 {rs:List SV} {m':dD} {D:List V} {B:Tb bJ} (hc:c f args os=some (rs,m')) (hz:dy rs=some D) (hb:lp m' (os.map (·.1)) st.m=some B) (U:V.cV D=true) (J:∀k∈os.map (·.1),AX B k=true) :
 ∃n H',(∀k,n<=k->run S.E k (.fn f) ys H=some (result D,H'))/\R ν Z { st with m:=B } F H'/\dn ν B H' Z (.v (result D)) (result D)/\Ev Rv ν Z st H ν Z { st with m:=B } H'/\∀e ob',bh B e=some ob'->∃ob,bh st.m e=some ob/\ν e=ν e/\sameShape ob ob':=by
 obtain⟨n,H',z,Z',u,F1,C,e1,_,e2,_,_,_,_,g3,g4⟩:=BN (Rv:=Rv) hS G r W Y hc hb;obtain⟨g1,g2⟩:=g4 J;have w:=(e2.dy hz).scalar.1 U;subst w;exact⟨n,H',e1,g1,.v _ _ (.same _ (kj (zl U))),g2,g3⟩
theorem Wh (hS:jw S c) {f:FuncId} (W:S.E.keep f=true) (r:R ν Z st F H) {args:List SV} {ys:List V} (ha:cg ν st.m H Z args ys) {os:dD} (hh:handed st.m args=some os)
 {rest:List SV} {m':dD} {U:List V} {B:Tb bJ} {e t es:Nat} {k:Fl} {xs:List (List V)} (hc:c f args os=some (.own e::rest,m')) (hz:dy rest=some U) (hb:lp m' (os.map (·.1)) st.m=some B)
 (G:bh m' e=some (.sl k es xs)) (J:e∉os.map (·.1)) (D:St.new { st with m:=B } t=true) :
 ∃n y H' ν' Z',(∀k,n<=k->run S.E k (.fn f) ys H=some (y,H'))/\R ν' Z' { st with m:=bN B t (.sl k es xs) } F H'/\dn ν' (bN B t (.sl k es xs)) H' Z' (BZ (.own t::U.map .v)) y/\Ev Rv ν Z st H ν' Z' { st with m:=bN B t (.sl k es xs) } H'/\Kept (some t) ν st.m ν' (bN B t (.sl k es xs)):=by
 obtain⟨n,H',I,Z',aa,F1,ws,e1,rfl,e2,e3,fresh,g1,g2,g3,_⟩:=BN (Rv:=Rv) hS W r ha hh hc hb;obtain⟨w,O,rfl,q1,q2⟩:=e2.inv;have o:=e3.obj e _ G;have Q:cD (.sl k es xs)=true->¬fS ν B (I e).1:=λC=>by
  rintro⟨k2,o2,h1,h2,h3⟩;obtain⟨o3,h4,_,X⟩:=g3 k2 o2 h1;have T:cD o3=true:=by
   cases o3 <;> cases o2 <;> simp[sameShape]at X
   .rw[<-h2];simp[cD,X.1]
   .rfl
   rfl
  have ab:=r.lt ⟨k2,o3,h4,T,rfl⟩;have:=fresh e _ G J C;omega
 have hR:=g1.add D (ob:=.sl k es xs) (p:=I e) (λC=>⟨Q C,e3.apart e _ G C⟩) (by
  simp only[en,iw];exact o)
 have hsl:dn (jf ν t (I e)) (bN B t (.sl k es xs)) H' Z' (.own t) w:=by
  refine .own _ _ λu Y=>?_
  rw[cI]at Y;cases Y;obtain⟨_,_,_,ee,rfl⟩:=q1.kK G;cases ee;exact⟨_,_,_,rfl,by rw[iw]⟩
 obtain⟨n1,n2,n3,n4⟩:=nu D;refine⟨n,result (w::O),H',jf ν t (I e),Z',e1,hR,?_,⟨g2.len,g2.same,g2.rows,?_,g2.frz,?_,g2.pins⟩,?_⟩
 .have L:=q2.dy hz
  cases U with
  | nil=>rw[L.c9];exact hsl
  | cons x U=>
   obtain⟨y,ad,rfl,_,_⟩:=L.inv;exact .tup _ _ (by have:=L.1;simp at this ⊢;omega) (cg.cons hsl (cg.sB L)).2
 .intro id h;rcases FV h with h|⟨h1,rfl⟩
  .exact g2.own id h
  exact .inr (.inr (fresh e _ G J h1))
 .intro d hd u h;have z:d≠t:=λe=>n1 (e▸hd)
  have h:bh (bN B t (.sl k es xs)) d=some u:=h;rw[dW _ _ (Ne.symm z)]at h;obtain⟨ob,k1,k2,k3⟩:=g2.pin d hd u h;exact⟨ob,k1,by rw[qd _ _ z],k3⟩
 intro d u hd h;have z:d≠t:=λe=>hd (by rw[e])
 rw[dW _ _ (Ne.symm z)]at h;obtain⟨ob,k1,_,k3⟩:=g3 d u h;exact⟨ob,k1,qd _ _ z,k3⟩
theorem Tr (hS:jw S c) {f:FuncId} {az:List V} {rs:List SV} {m':dD} (hg:V.cE az=true) (h:c f (az.map .v) []=some (rs,m')) :
 ∃n H2 ν' Z' st' F' ys,(∀k,n<=k->run S.E k (.fn f) az []=some (result ys,H2))/\st'.m=m'/\cg ν' m' H2 Z' rs ys/\R ν' Z' st' F' H2:=by
 obtain⟨u,r1⟩:=yu hg;obtain⟨n,y,H2,ν',Z',st',F',w,h1,rfl,z,B,C,_⟩:=hS f _ _ _ _ h _ _ az [] (.inr rfl) u r1;exact⟨n,H2,ν',Z',st',F',w,λk hk=>(oN S.E hk).go _ _ _ _ h1,z,B,C⟩
theorem Eo {ys:List V} (h:V.cV ys=true):V.cV (.bM::ys)=true/\V.cV (.dL::ys)=true:=by
 simp[V.cV,V.scalar];grind
theorem cg.Yg {ys:List V} (h:V.cE ys=true):cg ν m H Z (ys.map .v) ys:=cg.sB (dB.same h)
theorem SM (hS:jw S c) (hP:∀f q,S.prm f=some q->ot S.E f q) {ops:List Oper} {place:Option (Nat×Nat)} {dr nw:Bool} {fr:List Nat} (Y:dr=place.isSome) (U:∀b i,place=some (b,i)->nw=true->dJ ops i=true) (aj:∀b i,place=some (b,i)->nw=false->dJ ops i=false)
 (hold:∀b i,place=some (b,i)->(∀d ob,bh st.m d=some ob->cD ob=true->d∉fr->(ν d).1<b)/\∀id,Z id->id<b)
 (r:R ν Z st F H) {args:List SV} {ys:List V} (ha:cg ν st.m H Z args ys) {f:FuncId} {dst:Option Nat} {sv:SV} (h:fu S c dst dr (!dr||nw) (fZ st.m fr) f args st=some (sv,st')) :
 ∃n y H' ν' Z',(∀k,n<=k->jS S.E (run S.E k) ops place f ys H=some (y,H'))/\R ν' Z' st' F H'/\dn ν' st'.m H' Z' sv y/\Ev Rv ν Z st H ν' Z' st' H'/\(dr=true->Z'=Z)/\Kept dst ν st.m ν' st'.m:=by
 unfold fu at h;split at h
 .rename_i hk;split at h
  .have C:∀{q:dG} {y:V} {H':bn},fq S.E q f ys H=some (y,H')->jS S.E q ops place f ys H=some (y,H'):=λ{q y H'} hd=>by
    unfold jS
    cases place with
    | none=>rw[if_pos (by simp[mo,hk])];omega
    | some bi=>
     obtain⟨b,i⟩:=bi;have aK  := Y;have aB:=U b i rfl Zac
     rw[if_pos (by simp[mo,hk,aB])]
     grind
   split at h
   .
    rename_i L;split at h
    .rename_i az hs;have hg:=A_ r.obj hs ha;obtain⟨nb,hb⟩:=yR r ha hs;split at h
     .rename_i rs m' hc;obtain⟨na,H2,ν2,Z2,st2,F2,ws,aC,rfl,e3,e4⟩:=Tr hS hg hc;obtain⟨n,aD,aE⟩:∃n,na<=n/\nb<=n:=⟨max na nb,Nat.le_max_left ..,Nat.le_max_right ..⟩;have e1:=λk (hk:n<=k)=>aC k (Nat.le_trans aD hk)
      have O:∀k,n<=k->∀{o:Option (V×bn)},(if(result ws).scalar then some (result ws,H)else
       match result ws with
       | .hsl id es off len=>(sq H.length H2 id es off len).map λ(v,ob)=>(v,H++[ob])
       | .tup (.hsl id es off len::rest)=>if V.cV rest then(sq H.length H2 id es off len).map λ(v,ob)=>(.tup (v::rest),H++[ob])else none
       | _=>none)=o->fq S.E (run S.E k) f ys H=o:=λk D o ho=>by
       unfold fq lu;rw[if_pos L];simp[o9,hb k (Nat.le_trans aE D),e1 k D];exact ho
      have ak:∀G:List V,(result G).scalar=true->result ws=result G->sv=.v (result G)->st'=st->∃n y H' ν' Z',(∀k,n<=k->jS S.E (run S.E k) ops place f ys H=some (y,H'))/\R ν' Z' st' F H'/\dn ν' st'.m H' Z' sv y/\Ev Rv ν Z st H ν' Z' st' H'/\(dr=true->Z'=Z)/\Kept dst ν st.m ν' st'.m:=by
       rintro G h1 h2 rfl rfl;exact⟨n,result G,H,ν,Z,λk D=>C (O k D (by rw[h2,if_pos h1])),r,.v _ _ (.same _ (kj h1)),.refl,λ_=>rfl,.refl⟩
      have emp:∀(k:Fl) (es:Nat) (G:List V) (rest:List SV),V.cV G=true->∀t,st.new t=true->∀w:V,(k=.nil/\w=.bM\/k=.emp/\w=.dL)->result (w::G)=result ws->dst=some t->sv=BZ (.own t::G.map .v)->st'={ st with m:=bN st.m t (.sl k es []) } ->
       ∃n y H' ν' Z',(∀k,n<=k->jS S.E (run S.E k) ops place f ys H=some (y,H'))/\R ν' Z' st' F H'/\dn ν' st'.m H' Z' sv y/\Ev Rv ν Z st H ν' Z' st' H'/\(dr=true->Z'=Z)/\Kept dst ν st.m ν' st'.m:=by
       rintro k es G rest W t Q w hw al rfl rfl rfl;have ad:cO k=false:=by rcases hw with⟨rfl,_⟩|⟨rfl,_⟩ <;> rfl
       have hsl:dn (jf ν t (0,0)) (bN st.m t (.sl k es [])) H Z (.own t) w:=by
        refine .own _ _ λT h'=>?_
        rw[cI]at h';cases h';exact⟨_,_,_,rfl,by rcases hw with⟨rfl,rfl⟩|⟨rfl,rfl⟩ <;> rfl⟩
       have am:(result (w::G)).scalar=true:=zl (by rcases hw with⟨_,rfl⟩|⟨_,rfl⟩;exact(Eo W).1;exact(Eo W).2)
       refine⟨n,result (w::G),H,jf ν t (0,0),Z,λk D=>C (O k D (by rw[<-al,if_pos am])),r.add Q (λhb=>by simp[cD,ad]at hb) (by simp[en,ad]),?_,
        Ev.add Q (Nat.le_refl _) (λ_ _ _=>rfl) (λ_ _=>rfl) (λhb=>by simp[cD,ad]at hb),λ_=>rfl,Kept.add λ_ _ h=>h⟩
       cases G with
       | nil=>exact hsl
       | cons z G=>exact .tup _ _ Zab (cg.cons hsl (cg.Yg (qC W))).2
      split at h
      .rename_i G J;split at h
       next W=>simp  at h;exact ak G W ((HP (e3.dy J)).1 W) h.1.symm h.2.symm
       simp at h
      split at h
      .rename_i e rest t _;obtain⟨w,ws,rfl,g1,g2⟩:=e3.inv;split at h
       .
        rename_i es xs G X J;split at h
        .rename_i B;simp  at B;obtain⟨⟨c1,c2⟩,Q⟩:=B;simp  at h;obtain⟨rfl,rfl⟩:=h;have o:=e4.obj e _ X;simp only[en,if_true]at o;obtain⟨rows,hr,aL,hf,aJ,an⟩:=o;obtain⟨q1,q2⟩:=an trivial;have ae  := by
          have:=K7 hf c2;rw[q1,List.drop_zero,<-q2,List.take_length]at this;exact this
         subst ae;obtain⟨_,_,_,ee,rfl⟩:=g1.kK X;cases ee;have I  := (g2.dy J).scalar.1 c1;subst I;have ao:sq H.length H2 (ν2 e).1 es 0 rows.length=some (.hsl H.length es 0 rows.length,.row es rows):=by
          unfold sq;rw[hr];simp only[true_and];rw[if_pos];rw[List.all_eq_true];intro x hx;unfold mw at c2;rw[List.all_eq_true]at c2;exact c2 x hx
         have hH:∀id,id<H.length->(H++[Ob.row es rows])[id]? = H[id]? := λid hl=>List.getElem?_append_left hl
         have ap:∀id,Z id->bq (H++[Ob.row es rows]) id=bq H id:=λid J=>by unfold bq;rw[hH id (r.xq J)]
         have r2  := r.heap (λid ho=>hH id (r.lt ho)) ap
         have aq:V.nW rows=true:=by
          refine lE.2 λj u hu=>?_
          unfold mw at c2;rw[List.all_eq_true]at c2;have:=c2 u (List.mem_of_getElem? hu);rw[List.all_eq_true]at this;exact iz.2 λi v hv=>kj (this v (List.mem_of_getElem? hv))
         have hR:=r2.add   (ob:=.sl .row es rows) (p:=(H.length,0)) Q (λ_=>⟨λho=>absurd (r.lt ho) Zab,λJ=>absurd (r.xq J) Zab⟩) (by
          simp only[en,iw];refine⟨rows,by simp,by simp,?_,(gH.same aq).Ir,λ_=>⟨trivial,rfl⟩⟩
          rw[List.drop_zero,List.take_length];exact gH.same aq)
         have hsl:dn (jf ν t (H.length,0)) (bN st.m t (.sl .row es rows)) (H++[Ob.row es rows]) Z (.own t) (.hsl H.length es 0 rows.length):=by
          refine .own _ _ λT h'=>?_
          rw[cI]at h';cases h';exact⟨_,_,_,rfl,by simp[tn,iw]⟩
         have ar:Ev Rv ν Z st H (jf ν t (H.length,0)) Z { st with m:=bN st.m t (.sl .row es rows) } (H++[Ob.row es rows]):=Ev.add Q Zab (λid hl _=>hH id hl) ap (λ_=>.inr (Nat.le_refl _))
         have au:tn (ν2 e) Fl.row es rows.length=.hsl (ν2 e).1 es 0 rows.length:=by simp[tn,q1]
         rw[au]at O
         cases rest with
         | nil=>
          have  := by simp only[dy,ζa]at J;exact J.symm
          subst this;refine⟨n,_,_,_,Z,λk D=>C (O k D  ?_),hR,hsl,ar,λ_=>rfl,Kept.add λ_ _ h=>h⟩
          simp[result,V.scalar,ao]
         | cons x2 rest=>
          have aF:∃w2 af,ws=w2::af:=by
           have:=g2.1
           cases ws with
           | nil=>simp at this
           | cons a b=>exact⟨a,b,rfl⟩
          obtain⟨w2,af,rfl⟩:=aF;refine⟨n,_,_,_,Z,λk D=>C (O k D (o:=some (.tup (.hsl H.length es 0 rows.length::w2::af),H++[Ob.row es rows])) ?_),hR,?_,ar,λ_=>rfl,Kept.add λ_ _ h=>h⟩
          .simp only[result,V.scalar,V.cV,Bool.false_and,Bool.false_eq_true,if_false];have aG  := by simpa [V.cV]using c1
           simp[aG,ao]
          exact .tup _ _ Zab (cg.cons hsl (cg.Yg (qC c1))).2
        simp at h
       .rename_i es xs G X J;split at h
        next B=>simp  at B;simp  at h;obtain⟨rfl,rfl⟩:=h;obtain⟨_,_,_,ee,rfl⟩:=g1.kK X;cases ee;have I:=(g2.dy J).scalar.1 B.1;subst I;exact emp .nil es ws rest B.1 _ B.2 .bM Zab rfl rfl rfl rfl
        simp at h
       .rename_i es xs G X J;split at h
        next B=>simp  at B;simp  at h;obtain⟨rfl,rfl⟩:=h;obtain⟨_,_,_,ee,rfl⟩:=g1.kK X;cases ee;have I:=(g2.dy J).scalar.1 B.1;subst I;exact emp .emp es ws rest B.1 _ B.2 .dL Zab rfl rfl rfl rfl
        simp at h
       simp at h
      simp at h
     grind
    grind
   rename_i L;split at h
   .rename_i q hq;split at h
    .simp at h
    rename_i hd;obtain⟨n,y,H',ν',e1,e2,e3,e4,e5⟩:=U5  (hP f q hq) r ha h;exact⟨n,y,H',ν',Z,λk D=>C (by unfold fq;rw[if_neg L];exact e1 k D),e2,e3,e4,λh=>absurd h hd,e5⟩
   split at h
   .rename_i os hh;split at h
    .rename_i rs m' hc;split at h
     .rename_i G m2 J hb;split at h
      .simp at h
      rename_i aa;simp  at h;obtain⟨rfl,rfl⟩:=h
      cases av:dr with
      | false=>
       obtain⟨n,y,H',Z',e1,e2,e3,e4,e5⟩:=V3  hS hk r ha hh hc J hb;exact⟨n,y,H',ν,Z',λk D=>C (by unfold fq;rw[if_neg L];exact e1 k D),e2,e3,e4,(λh=>nomatch h),λe T _=>e5 e T⟩
      | true=>
       rw[av]at aa;have jC:V.cV G=true/\∀k∈os.map (·.1),AX m2 k=true:=by
        simp only[Bool.true_and,Bool.not_eq_true',Bool.not_eq_false,ζh,List.all_eq_true]at aa;refine⟨aa.1,λk hk=>?_⟩
        obtain⟨x,hx,rfl⟩:=List.mem_map.1 hk;exact aa.2 x hx
       obtain⟨n,H',e1,e2,e3,e4,e5⟩:=Vs (Rv:=Rv) hS hk r ha hh hc J hb jC.1 jC.2;exact⟨n,_,H',ν,Z,λk D=>C (by unfold fq;rw[if_neg L];exact e1 k D),e2,e3,e4,λ_=>rfl,λe T _=>e5 e T⟩
     .rename_i m2 J hb;split at h
      .simp at h
      rename_i hd;split at h
      .rename_i e rest t;split at h
       .rename_i k es xs G he aH;split at h
        next B=>simp only[ζh,Bool.not_eq_true',List.contains_eq_mem,decide_eq_false_iff_not]at B;simp only[ζa,ζc]at h;obtain⟨rfl,rfl⟩:=h;obtain⟨n,y,H',ν',Z',e1,e2,e3,e4,e5⟩:=Wh hS hk r ha hh hc aH hb he B.1 B.2;exact⟨n,y,H',ν',Z',λk D=>C (by unfold fq;rw[if_neg L];exact e1 k D),e2,e3,e4,λh=>absurd h hd,e5⟩
        simp at h
       simp at h
      simp at h
     simp at h
    simp at h
   simp at h
  rename_i ab;split at h
  .rename_i ah;simp only[ζh]at ah;have ai:mo S.E ops place f=false:=by
    simp only[Bool.not_eq_true,Bool.or_eq_false_iff,Bool.not_eq_false']at ab
    cases place with
    | none=>rw[Y]at ab;simp at ab
    | some bi=>simp[mo,hk,ah.1,aj _ _ rfl ab.2]
   split at h
   .rename_i az hs;split at h
    .rename_i rs m' hc;split at h
     .rename_i G J;split at h
      next B=>simp only[Bool.or_eq_true]at B;simp at h;obtain⟨rfl,rfl⟩:=h;obtain⟨n,H',e1,e2,e3,e4⟩:=LJ hS Y U hold r ha ai hs (.inr ah.2) hc J B;exact⟨n,_,H',ν,Z,e1,e2,e3,e4,λ_=>rfl,.refl⟩
      simp at h
     simp at h
    simp at h
   simp at h
  simp at h
 rename_i hk;have aw:S.E.keep f=false:=by simpa using hk
 have ai:mo S.E ops place f=false:=by unfold mo;rw[aw];rfl
 split at h
 .rename_i az hs;split at h
  .rename_i hl;split at h
   .rename_i rs m' hc;split at h
    .rename_i G J;split at h
     .rename_i B;simp only[Bool.or_eq_true]at B;simp  at h;obtain⟨rfl,rfl⟩:=h;obtain⟨n,H',e1,e2,e3,e4⟩:=LJ  hS Y U hold r ha ai hs (by simpa using hl) hc J B
      exact⟨n,_,H',ν,Z,e1,e2,e3,e4,λ_=>rfl,.refl⟩
     rename_i ax;split at h
     .rename_i aI;obtain⟨ds,ay,e⟩:=ζf.1 h;simp  at e;obtain⟨rfl,rfl⟩:=e;have aA:(result G).scalar=false:=by
       cases hq:(result G).scalar with
       | false=>rfl
       | true=>exact absurd (by simp[hq]) ax
      obtain⟨n,H',e1,e2,e3,e4⟩:=VP  hS U (λb i hp=>(hold b i hp).2) r ha aw hs (by rw[<-Y];exact aI) hc J aA ay (xN ay hs)
      exact⟨n,_,H',ν,Z,e1,e2,e3,e4,λ_=>rfl,λe T _ h=>⟨T,pG h,rfl,.refl _⟩⟩
     simp at h
    simp at h
   simp at h
  simp at h
 simp at h
end
structure CX where
 E:Env
 nm:FuncId->Option Nat
 nt:Nat
def Dr (ops:List Oper) (o:Oper):Option (Option (Nat×Bool)):=
 match o.guard with
 | none=>some none
 | some (j,b)=>((ops[j]?).bind (·.dst)).map λd=>some (d,b)
def zL (nt:Nat):Option Nat->Bool
 | none=>true
 | some d=>decide (d<nt)
def yX (B:Bool) (ops:List Oper) (i:Nat) (k:K) (os:List Operand):K×List Operand×Bool:=
 if B && !dJ ops i then match k,os,Bc ops i with
  | .l (.store n),.tmp u::w,some (a,l)=>if u=a then(.l (.storeF n),(.tmp u::w)++l.map .tmp,true)else(k,os,false)
  | .l (.append n),os,_=>if yB ops i then(.e n,os,true)else(k,os,false)
  | .r (.load n ag),[.tmp u],_=>if(qx ops i u).isEmpty then(k,os,false)else(.r (.loadF n ag),.tmp u::(qx ops i u).map .tmp,false)
  | _,_,_=>(k,os,false)
 else(k,os,B&&dJ ops i)
theorem Ed (B:Bool) (ops:List Oper) (i:Nat) (k:K) (os:List Operand):(yX B ops i k os=(k,os,B&&dJ ops i)/\∀n ag a',B=true->dJ ops i=false->k=.r (.load n ag)->os=[.tmp a']->qx ops i a'=[]) \/
 (B=true/\dJ ops i=false/\∃n a l D,k=.l (.store n)/\os=.tmp a::D/\Bc ops i=some (a,l)/\yX B ops i k os=(.l (.storeF n),os++l.map .tmp,true)) \/
 (B=true/\dJ ops i=false/\∃n ag a,k=.r (.load n ag)/\os=[.tmp a]/\yX B ops i k os=(.r (.loadF n ag),.tmp a::(qx ops i a).map .tmp,false)) \/
 (B=true/\dJ ops i=false/\yB ops i=true/\∃n,k=.l (.append n)/\yX B ops i k os=(.e n,os,true)):=by
 unfold yX;split
 .rename_i h;simp only[ζh,Bool.not_eq_true']at h;split
  .rename_i n a' D a l hk;split
   next e=>subst e;refine .inr (.inl ⟨h.1,h.2,n,a',l,D,rfl,rfl,hk,?_⟩);simp only[yX,h.1,h.2,hk,Bool.not_false,Bool.and_self,if_true]
   exact .inl ⟨by rw[h.2,Bool.and_false],λn ag a' _ _ e=>by cases e⟩
  .rename_i n;split
   next C=>refine .inr (.inr (.inr ⟨h.1,h.2,C,n,rfl,rfl⟩))
   exact .inl ⟨by rw[h.2,Bool.and_false],λn ag a' _ _ e=>by cases e⟩
  .rename_i n ag a';split
   .rename_i G;refine .inl ⟨by rw[h.2,Bool.and_false],λn ag a2 _ _ _ e=>?_⟩
    simp only[List.cons.injEq,Operand.tmp.injEq,and_true]at e;subst e;simpa using G
   exact .inr (.inr (.inl ⟨h.1,h.2,n,ag,a',rfl,rfl,rfl⟩))
  rename_i u w z;refine .inl ⟨by rw[h.2,Bool.and_false],λn ag a2 _ _ e1 e2=>?_⟩
  first|exact(z _ _ _ e1 e2).elim|exact(z _ _ _ _ e1 e2 rfl).elim|exact(u _ _ _ e1 e2).elim|exact(w _ _ _ e1 e2).elim|exact(u _ _ _ _ e1 e2 rfl).elim|exact(w _ _ _ _ e1 e2 rfl).elim
 rename_i h;refine .inl ⟨rfl,λn ag a2 hd I _ _=>?_⟩
 rw[hd,I]at h;exact absurd rfl h
def oG (X:CX) (B:Bool) (ops:List Oper) (i:Nat) (o:Oper):Option RO:=
 if zL X.nt o.dst then
  match Dr ops o,resolve X.E X.nm o.op with
  | some gd,some (k,os)=>if B3 k then if B&&D2 X.E ops i then match k,o.op with
   | .a (.makeSl size zero),.makeSlice ..=>(os.mapM (qg X.nm)).map λaz=>⟨o.dst,gd,false,.p (.makeC size zero),az,[],[]⟩
   | .a (.buildSl size len zero idx),.buildSlice ..=>if size≠0/\len=0/\idx=[]then(os.mapM (qg X.nm)).map λaz=>⟨o.dst,gd,false,.p .emptyC,az,[],[]⟩else(os.mapM (qg X.nm)).map λaz=>⟨o.dst,gd,false,.p (.buildC size len zero idx),az,[],[]⟩
   | _,_=>none
   else((yX B ops i k os).2.1.mapM (qg X.nm)).map λaz=>⟨o.dst,gd,(yX B ops i k os).2.2,(yX B ops i k os).1,az,[],[]⟩else none
  | _,_=>none
 else none
theorem Ee {E:Env} {N:Nat->FuncId} {F:Frame} {op:Op} {ys:List V} {size:Nat} {zero:List V} {y:V} (D:∃t l c,op=.buildSlice t l c) (h:Co E N F op ys (.a (.buildSl size 0 zero []))) (G:size≠0) (B:bl N .emptyC ys=some y):qp E F op=some y:=by
 obtain⟨t,l,c,rfl⟩:=D;obtain⟨g1,g2⟩:=h;unfold bl at B;split at B <;> first|(rename_i e;cases e;done)|skip
 .simp only[ζa]at B;subst B;have u:=g2 _ (show iM (.buildSl size 0 zero []) []=some (.row size [],.sl size 0)by simp[iM,fG])
  unfold qp;rw[u];simp[G]
 cases B
theorem Bz {es:Nat}:∀{vs:List (Nat×V)} {xs ys:List (List V)},fG es xs vs=some ys->ys.length=xs.length
 | [],xs,ys,h=>by simp only[fG,ζa]at h;rw[h]
 | (i,v)::r,xs,ys,h=>by
  simp only[fG]at h;split at h
  .have:=Bz h;simpa using this
  cases h
theorem D3 {E:Env} {N:Nat->FuncId} {F:Frame} {op:Op} {ys:List V} {size len:Nat} {zero:List V} {idx:List Nat} {y:V} (D:∃t l c,op=.buildSlice t l c) (h:Co E N F op ys (.a (.buildSl size len zero idx))) (B:bl N (.buildC size len zero idx) ys=some y):qp E F op=some y:=by
 obtain⟨t,l,c,rfl⟩:=D;obtain⟨g1,g2⟩:=h;simp only[bl]at B;split at B
 .rename_i hc;split at B
  .rename_i z u;split at B
   .rename_i C;have G:len=z.length:=by
     have:=Bz u;rw[this];simp
    have w:=g2 _ (show iM (.buildSl size len zero idx) ys=some (.row size z,.sl size len)by simp only[iM,if_pos hc.2,u,Option.map_some])
    unfold qp;rw[w];simp only;rw[if_pos ⟨trivial,G,C.2⟩,C.1];exact B
   cases B
  cases B
 cases B
theorem ED {E:Env} {N:Nat->FuncId} {F:Frame} {op:Op} {ys:List V} {size:Nat} {zero:List V} {y:V} (D:∃t l c,op=.makeSlice t l c) (h:Co E N F op ys (.a (.makeSl size zero))) (B:bl N (.makeC size zero) ys=some y):qp E F op=some y:=by
 obtain⟨t,l,c,rfl⟩:=D;obtain⟨g1,g2⟩:=h;unfold bl at B;split at B <;> first|(rename_i e;cases e;done)|skip
 .rename_i k n I m e;cases e;split at B
  .rename_i c;obtain⟨rfl,rfl,w,rfl,z,C⟩:=c;have u:=g2 _ (show iM (.makeSl size zero) [.int .i64 n,.int .i64 n]=some (.row size (List.replicate n.toNat zero),.sl size n.toNat)by simp only[iM,w,z,Int.le_refl,and_self,if_true])
   unfold qp;rw[u];simp only;rw[if_pos (by refine⟨by trivial,by simp,List.all_eq_true.2 λx G=>by rw[List.eq_of_mem_replicate G];exact C⟩),<-B]
  cases B
 cases B
theorem Fa {X:CX} {dr:Bool} {ops:List Oper} {i:Nat} {o:Oper} {ro:RO} (hc:oG X dr ops i o=some ro):zL X.nt o.dst=true/\∃g now k az,Dr ops o=some g/\ro=⟨o.dst,g,now,k,az,[],[]⟩:=by
 unfold oG at hc;split at hc
 .rename_i hd;split at hc
  .rename_i g k os hg hr;split at hc
   ·(repeat' split at hc) <;> first|(cases hc;done)|(obtain⟨az,u,rfl⟩:=ζf.1 hc;exact⟨hd,_,_,_,_,hg,rfl⟩)
   cases hc
  cases hc
 cases hc
structure Good (X:CX) (S:Sys):Prop where
 E:X.E=S.E
 N:∀f s,X.nm f=some s->S.N s=f
 prm:∀f q,S.prm f=some q->ot S.E f q
section
variable {Rv:Nat->Prop} {ν ν':Nu} {Z Z':Nat->Prop} {st st':St} {m m':Tb bJ} {F F':Frame} {H H' H1:bn} {S:Sys} {c:b9} {X:CX}
def Old (b:Nat) (fr:List Nat) (ν:Nu) (Z:Nat->Prop) (m:Tb bJ):Prop:=(∀d ob,bh m d=some ob->cD ob=true->d∉fr->(ν d).1<b)/\∀id,Z id->id<b
theorem o4 {fr:List Nat}:∀{svs:List SV},fm fr svs=true->∀d∈fr,SV.dK d svs=false
 | [],_,d,_=>rfl
 | .v _::r,h,d,hd=>(o4 (svs:=r) (by simpa [fm]using h) d hd)
 | .ptr e _::r,h,d,hd=>by
  simp[fm,Bool.not_eq_true']at h;simp[SV.dK,SV.c6];exact⟨λe=>h.1 (e▸hd),o4 h.2 d hd⟩
 | .el e _ _::r,h,d,hd=>by
  simp[fm,Bool.not_eq_true']at h;simp[SV.dK,SV.c6];exact⟨λe=>h.1 (e▸hd),o4 h.2 d hd⟩
 | .mp e::r,h,d,hd=>by
  simp[fm,Bool.not_eq_true']at h;simp[SV.dK,SV.c6];exact⟨λe=>h.1 (e▸hd),o4 h.2 d hd⟩
 | .own _::r,h,_,_=>by simp[fm]at h
 | .clo ..::r,h,_,_=>by simp[fm]at h
 | .tup _::r,h,_,_=>by simp[fm]at h
 | .agg _::r,h,_,_=>by simp[fm]at h
 | .yl _::r,h,_,_=>by simp[fm]at h
def Er (S:Sys) (ops:List Oper) (place:Option (Nat×Nat)) (dr:Bool) (F:Frame) (op:Op) (dst:Option Nat) (ν:Nu) (Z:Nat->Prop) (st:St) (H:bn) (sv:SV) (st':St):Prop:=
 ∃n y H' ν' Z',(∀k,n<=k->dF S.E (run S.E k) ops place F H op=some (y,H'))/\R ν' Z' st' F H'/\dn ν' st'.m H' Z' sv y/\Ev (λid=>∃b j,place=some (b,j)/\id=b+j) ν Z st H ν' Z' st' H' /\
  (dr=true->Z'=Z/\Kept dst ν st.m ν' st'.m)
theorem zS {E:Env} {F:Frame} {H:bn} {place:Option (Nat×Nat)} {op:Op} {v:V} (h:bQ E F op=some v):tX E F H place op=some v:=by unfold tX;rw[h]
theorem AO:∀{xs ys:List (List V)} {l:List Int},gH H Z xs ys->mh xs=some l->mh ys=some l
 | [],ys,l,h,B=>by
  have:=h.1;have:ys=[]:=List.eq_nil_of_length_eq_zero (by simpa using this.symm)
  subst this;exact B
 | x::xs,[],l,h,B=>by have:=h.1;simp at this
 | x::xs,y::ys,l,h,B=>by
  unfold mh at B;split at B
  next e=>cases e
  .rename_i n r e;cases e;obtain⟨k,h1,rfl⟩:=ζf.1 B;have h0:=h.2 0 _ y rfl rfl;obtain⟨u,z,rfl,p1,p2⟩:=h0.inv;rw[p2.c9,p1.int];have:=AO (xs:=xs) (ys:=ys) ⟨by have:=h.1;simpa using this,λj a b w B=>h.2 (j+1) a b w B⟩ h1
   simp only[mh,this,Option.map_some]
  cases B
theorem PN (gd:Good X S) {ops:List Oper} {place:Option (Nat×Nat)} {dr:Bool} {op:Op} {dst:Option Nat} {p:vL} {svs:List SV} {ys:List V} (hk:B3 (.p p)=true) (r:R ν Z st F H) (rs:cg ν st.m H Z svs ys)
 (B:Co X.E S.N F op ys (.p p)) {sv:SV} (h:(jJ S.N st.m p svs).map (λx=>(x,st))=some (sv,st')):Er S ops place dr F op dst ν Z st H sv st':=by
 obtain⟨x,w,e⟩:=ζf.1 h;obtain⟨rfl,rfl⟩:=e;obtain⟨y,z,u⟩:=JF  (λzero pl e=>by subst e;simpa [B3]using hk) r.obj rs w
 obtain⟨h1,C⟩:=B;exact⟨0,y,H,ν,Z,λq _=>by unfold dF;rw[h1];simp only[<-gd.E,zS (C y z),Option.map_some],r,u,.refl,λ_=>⟨rfl,.refl⟩⟩
theorem BT (gd:Good X S) {ops:List Oper} {place:Option (Nat×Nat)} {dr:Bool} {op:Op} {p:vL} {svs:List SV} {ys:List V} (hp:∀zero pl,p≠.build zero pl) (B:dw op=.alloc) (D:sL X.E ops place=true) (G:∀y,bl S.N p ys=some y->qp X.E F op=some y)
 (r:R ν Z st F H) (rs:cg ν st.m H Z svs ys) {sv:SV} (h:(jJ S.N st.m p svs).map (λx=>(x,st))=some (sv,st')):Er S ops place dr F op none ν Z st H sv st':=by
 obtain⟨x,w,e⟩:=ζf.1 h;simp only[ζc]at e;obtain⟨rfl,rfl⟩:=e;obtain⟨y,z,u⟩:=JF (N:=S.N) (λzero pl e=>absurd e (hp zero pl)) r.obj rs w
 refine⟨0,y,H,ν,Z,λq _=>?_,r,u,.refl,λ_=>⟨rfl,.refl⟩⟩
 unfold dF;rw[B];simp only[D,if_true,<-gd.E,G y z,Option.map_some]
theorem Mh:∀{J B:List Operand} {vs:List V},fI F (J++B)=some vs->∃D G,fI F J=some D/\fI F B=some G/\vs=D++G
 | [],B,vs,h=>⟨[],vs,rfl,h,rfl⟩
 | x::J,B,vs,h=>by
  obtain⟨a,az,h1,U,rfl⟩:=jl h;obtain⟨D,G,g1,g2,rfl⟩:=Mh U;exact⟨a::D,G,by simp[fI,h1,g1],g2,rfl⟩
theorem DD:∀{l:List Nat} {vs:List V},fI F (l.map Operand.tmp)=some vs->vs=l.map (get F)
 | [],vs,h=>qX h
 | x::l,vs,h=>by
  obtain⟨a,az,h1,B,rfl⟩:=jl h;simp[ev]at h1;subst h1;rw[DD B];rfl
theorem X_ (gd:Good X S) {call:dG} {ops:List Oper} {b j n a:Nat} {l:List Nat} {o:Oper} {B:List Operand} {ys:List V} {y:V} (hr:resolve X.E X.nm o.op=some (.l (.store n),.tmp a::B)) (D:fI F ((.tmp a::B)++l.map Operand.tmp)=some ys)
 (J:Bc ops j=some (a,l)) (U:dJ ops j=false) (e1:fE H (.storeF n) ys=some (y,H')):dF S.E call ops (some (b,j)) F H o.op=some (y,H'):=by
 obtain⟨W,Y,h1,I,rfl⟩:=Mh D;obtain⟨g1,g2⟩:=jN gd.N hr h1;obtain⟨w,L,z,O,rfl⟩:=jl h1;simp[ev]at z;have u:∃v,L=[v]:=by
  have C:∃x,B=[x]:=by
   unfold resolve at hr
   (repeat' split at hr) <;> first|grind|skip
   all_goals (try (obtain⟨_,_,e⟩:=ζf.1 hr;simp[K.l.injEq,LY.store.injEq,reduceCtorEq]at e))
   grind
  obtain⟨x,rfl⟩:=C;obtain⟨v,Z,_,Q,rfl⟩:=jl O;rw[qX Q];grind
 obtain⟨v,rfl⟩:=u;rw[DD I,<-z]at e1;simp  at e1
 cases G:get F a with
 | hptr id el off=>
  rw[G]at e1;simp only[fE]at e1;split at e1
  .have T:sP ops j F=true:=by
    unfold sP
    grind
   unfold dF;rw[g1];simp[T,<-gd.E];refine g2 _ _ ?_;rw[<-z,G];exact e1
  grind
 | _=>rw[G]at e1;simp[fE]at e1
theorem HY {E:Env} {nm:FuncId->Option Nat} {op:Op} {s:Nat} {a:Bool} {os:List Operand} (h:resolve E nm op=some (.r (.loadF s a),os)):False:=by
 unfold resolve at h
 (repeat' split at h) <;> first|grind|skip
 all_goals simp_all
theorem Kb {E:Env} {nm:FuncId->Option Nat} {op:Op} {s a':Nat} {a:Bool} {t:TypeId} {os:List Operand} (h:resolve E nm op=some (.r (.load s a),os)):∃t x,op=.load t x/\os=[x]:=by
 unfold resolve at h
 (repeat' split at h) <;> first|grind|skip
 all_goals simp_all
 grind
theorem OX {E:Env} {nm:FuncId->Option Nat} {ops:List Oper} {j:Nat} {op:Op} {q:LC} {os:List Operand} (hr:resolve E nm op=some (.r q,os)) (h:∀n ag a',K.r q=.r (.load n ag)->os=[.tmp a']->∀t,op=.load t (.tmp a')->qx ops j a'=[]):o_ ops j F op=true:=by
 unfold o_;split
 .rename_i t a';have:∃n ag,q=.load n ag/\os=[.tmp a']:=by
   obtain⟨d,_,e⟩:=ζf.1 hr
   grind
  grind
 rfl
theorem Wo (gd:Good X S) {ops:List Oper} {b j n a:Nat} {ag:Bool} {fr:List Nat} {o:Oper} {svs:List SV} {ys:List V} {dst:Option Nat} {x:SV} (hr:resolve X.E X.nm o.op=some (.r (.load n ag),[.tmp a])) (W:fI F (.tmp a::(qx ops j a).map Operand.tmp)=some ys) (rs:cg ν st.m H Z svs ys)
 (Y:fm fr svs=true) (aa:b<=H.length) (ab:∀d ob,bh st.m d=some ob->cD ob=true->d∉fr->(ν d).1<b) (D:∀id,Z id->id<b) (r:R ν Z st F H) (U:oF st.m (.loadF n ag) svs=some x):Er S ops (some (b,j)) true F o.op dst ν Z st H x st:=by
 obtain⟨w,ws,h1,h2,rfl⟩:=jl W;simp[ev]at h1;have ad:=DD h2;unfold oF at U;split at U <;> first|(rename_i u;cases u;done)|skip
 .rename_i size agg d off l u;cases u;split at U
  .rename_i C;split at U
   .rename_i cs B;obtain⟨w',ae,e,g1,g2⟩:=rs.inv;cases e;have G:=Mz r B g2 C;obtain⟨_,_,rfl⟩:=g1.qe B;have I:∀id,Z id->Z id/\bq (H.take b) id=bq H id:=λid h=>⟨h,oa (D id h)⟩
    have J:∀id,Z id->Z id/\bq H id=bq (H.take b) id:=λid h=>⟨h,(oa (D id h)).symm⟩
    have af:d∉fr:=λhf=>by
     have:=o4 Y d hf;simp[SV.dK,SV.c6]at this
    obtain⟨y,hy,O⟩:=xM  (r:=.load n ag)   (λs a e=>by cases e) (λkk z ok e=>by cases e) (cg.cons (g1.mono I λe _=>jm ν st.m e) .nil) (λd2 Q ob L=>by
     have ah:d2∉fr:=λhf=>by
      have  := by simpa [SV.dK,SV.c6]using Q
      grind
     exact en.mono I rfl (λhb=>by grind) (λe _=>jm ν st.m e) (r.obj d2 ob L))  (by simp[oF,B];omega)
    obtain⟨k1,k2⟩:=jN  gd.N hr (show fI F [.tmp a]=some [.hptr (ν d).1 0 off]from by simp[fI,ev,h1])
    have T:o_ ops j F o.op=true:=by
     obtain⟨t,x',e1,e2⟩:=Kb (a':=0) (t:=0) hr;rw[e1];simp  at e2;subst e2;simp[o_];intro s hs;have hm:get F s∈ws:=by grind
     have:=List.all_eq_true.1 G _ hm;split
     .rename_i ai _ _ hg;simp[rX]at this ⊢
      grind
     rfl
    refine⟨0,y,H,ν,Z,λq _=>?_,r,O.mono J (λe _=>jm ν st.m e),.refl,λ_=>⟨rfl,.refl⟩⟩
    unfold dF;rw[k1];simp[<-gd.E,k2 (H.take b) y hy,T]
   grind
  grind
 grind
theorem Ft {E:Env} {nm:FuncId->Option Nat} {op:Op} {n:Nat} {os:List Operand} (h:resolve E nm op=some (.l (.append n),os)) {y:V} {ys:List V} (hv:fI F os=some (y::ys)) (B:y=.bM\/y=.dL):isApp op=true/\qQ F op=true:=by
 have key:∃args u p s x,op=.call { callee:=.builtin .append,args:=args,argTypes:=u }/\args.toList=[s,x]/\os=[s,x]/\p=():=by
  unfold resolve at h
  (repeat' split at h) <;> first|(simp at h;done)|skip
  all_goals (try (obtain⟨_,_,e⟩:=ζf.1 h;simp only[ζc,K.l.injEq,reduceCtorEq,false_and]at e))
  all_goals (simp only[ζa,ζc]at h;obtain⟨_,rfl⟩:=h;exact⟨_,_,(),_,_,rfl,by assumption,rfl,rfl⟩)
 obtain⟨args,u,_,s,x,rfl,h1,rfl,_⟩:=key;obtain⟨a,az,w,z,e⟩:=jl hv;cases e;refine⟨rfl,?_⟩;simp only[qQ,h1,w];rcases B with rfl|rfl <;> rfl
theorem Xm (gd:Good X S) (hS:jw S c) {ops:List Oper} {place:Option (Nat×Nat)} {dr:Bool} {fr:List Nat} {i:Nat} (J:dr=place.isSome) (hi:∀b j,place=some (b,j)->j=i)
 (hold:∀b j,place=some (b,j)->b<=H.length/\Old b fr ν Z st.m)
 {o:Oper} {ro:RO} (hc:oG X dr ops i o=some ro) (aE:∀b j,place=some (b,j)->ops[j]? = some o) (al:∀b j,place=some (b,j)->dw o.op=.alloc->H[b+j]? = some .free)
 (r:R ν Z st F H) {sv:SV} (h:mR S c dr fr ro st=some (sv,st')) :
 Er S ops place dr F o.op (Au ro) ν Z st H sv st':=by
 unfold oG at hc;split at hc
 .split at hc
  .rename_i g k os hg hr;split at hc
   .rename_i hk;split at hc
    .rename_i ah;simp only[ζh]at ah;have am:sL X.E ops place=true:=by
      cases place with
      | none=>rw[J]at ah;exact absurd ah.1 Zab
      | some Q=>obtain⟨b,j⟩:=Q;rw[hi b j rfl];exact ah.2
     split at hc
     .rename_i size zero t l c U;obtain⟨az,ha,rfl⟩:=ζf.1 hc;unfold mR at h;split at h
      next L B=>obtain⟨ys,C,rs⟩:=pN gd.N r.slot ha B;have I:=jN gd.N hr C;exact BT gd (λ_ _ e=>by cases e) I.1 am (λy hy=>ED ⟨_,_,_,U⟩ I hy) r rs h
      simp at h
     .rename_i size len zero idx t l c U;split at hc
      .rename_i aF;obtain⟨aG,rfl,rfl⟩:=aF;obtain⟨az,ha,rfl⟩:=ζf.1 hc;unfold mR at h;split at h
       next L B=>obtain⟨ys,C,rs⟩:=pN gd.N r.slot ha B;have I:=jN gd.N hr C;exact BT gd (λ_ _ e=>by cases e) I.1 am (λy hy=>Ee ⟨_,_,_,U⟩ I aG hy) r rs h
       simp at h
      obtain⟨az,ha,rfl⟩:=ζf.1 hc;unfold mR at h;split at h
      next L B=>obtain⟨ys,C,rs⟩:=pN gd.N r.slot ha B;have I:=jN gd.N hr C;exact BT gd (λ_ _ e=>by cases e) I.1 am (λy hy=>D3 ⟨_,_,_,U⟩ I hy) r rs h
      simp at h
     cases hc
    rename_i ai;have ak:sL X.E ops place=false:=by
     cases place with
     | none=>rfl
     | some Q=>
      obtain⟨b,j⟩:=Q;have G:=hi b j rfl
      cases aw:D2 X.E ops j with
      | false=>exact aw
      | true=>exact absurd (by rw[J,<-G,aw];rfl) ai
    rcases Ed dr ops i k os with⟨hq,aH⟩|⟨u,an,n,a,l,aR,rfl,rfl,aI,hq⟩|⟨u,an,n,ag,a,rfl,rfl,hq⟩|⟨u,an,aJ,n,rfl,hq⟩
    rotate_left
    .rw[hq]at hc;obtain⟨az,ha,rfl⟩:=ζf.1 hc;unfold mR at h;split at h
     .rename_i L B;obtain⟨ys,C,rs⟩:=pN gd.N r.slot ha B;simp only[u,Bool.not_true,Bool.false_or,if_true]at h;obtain⟨y,H',ν',e1,e2,e3,e4,e5⟩:=DN r rs h;refine⟨0,y,H',ν',Z,λq _=>?_,e2,e3,e4.weak (λ_ h=>h.elim),λ_=>⟨rfl,e5⟩⟩
      cases place with
      | none=>rw[J]at u;cases u
      | some Q=>
       obtain⟨b,j⟩:=Q;have G:=hi b j rfl;subst G;exact X_ gd hr C aI an e1
     simp at h
    .rw[hq]at hc;obtain⟨az,ha,rfl⟩:=ζf.1 hc;unfold mR at h;split at h
     .rename_i L B;obtain⟨ys,C,rs⟩:=pN gd.N r.slot ha B;simp only[u,Bool.not_true,Bool.or_self,Bool.false_or]at h;split at h
      .rename_i ao;obtain⟨x,hx,e⟩:=ζf.1 h;simp only[ζc]at e;obtain⟨rfl,rfl⟩:=e
       cases place with
       | none=>rw[J]at u;cases u
       | some Q=>
        obtain⟨b,j⟩:=Q;have G:=hi b j rfl;subst G;obtain⟨ax,ap,aj⟩:=hold b j rfl;rw[u];exact Wo gd hr C rs ao ax ap aj r hx
      simp at h
     simp at h
    .rw[hq]at hc;obtain⟨az,ha,rfl⟩:=ζf.1 hc;unfold mR at h;split at h
     rotate_left
     .simp at h
     rename_i L B;obtain⟨ys,C,rs⟩:=pN gd.N r.slot ha B;simp only at h;have key:∃e x,(e=V.bM\/e=V.dL)/\L=[.v e,x]/\nY st o.dst (.append n) L=some (sv,st'):=by
      split at h
      .exact⟨_,_,.inl rfl,rfl,h⟩
      .exact⟨_,_,.inr rfl,rfl,h⟩
      cases h
     obtain⟨e,x,he,rfl,hl⟩:=key;obtain⟨y,H',ν',e1,e2,e3,e4,e5⟩:=DN r rs hl;obtain⟨g1,g2⟩:=jN gd.N hr C;refine⟨0,y,H',ν',Z,λq _=>?_,e2,e3,e4.weak (λ_ h=>h.elim),λ_=>⟨rfl,e5⟩⟩
     obtain⟨y1,zs,rfl,f1,f2⟩:=rs.inv;have aK:y1=.bM\/y1=.dL:=by
      cases f1 with|v _ _ hf=>rcases he with rfl|rfl <;> first|exact .inl hf.bM|exact .inr hf.dL
     cases place with
     | none=>rw[J]at u;cases u
     | some Q=>
      obtain⟨b,j⟩:=Q;have G:=hi b j rfl;subst G;obtain⟨r1,r2⟩:=Ft hr C aK;exact O2 r1 (by rw[<-gd.E];exact g2 _ _ e1) (.inr ⟨aJ,r2,(hold b j rfl).1⟩)
    rw[hq]at hc;obtain⟨az,ha,rfl⟩:=ζf.1 hc;unfold mR at h;split at h
    .rename_i L B;obtain⟨ys,C,rs⟩:=pN gd.N r.slot ha B;have D:=jN gd.N hr C;simp only at h
     cases k with
     | p p=>
      cases p with
      | slice size lo hi=>
       simp only at h;split at h
       .rename_i d bs;split at h
        .simp at h
        rename_i aq;obtain⟨y,ν',h1,h2,h3,h4⟩:=Qq (N:=S.N) (Rv:=λid=>∃b j,place=some (b,j)/\id=b+j) r rs h
        obtain⟨g1,g2⟩:=D;exact⟨0,y,H,ν',Z,λq _=>by unfold dF;rw[g1];simp only[<-gd.E,zS (g2 y h1),Option.map_some],h2,h3,h4,λhd=>absurd hd aq⟩
       exact PN gd hk r rs D h
      | _=>exact PN gd hk r rs D h
     | r q=>
      simp only at h;split at h
      .rename_i W;obtain⟨x,hx,e⟩:=ζf.1 h;simp only[ζc]at e;obtain⟨rfl,rfl⟩:=e;obtain⟨g1,g2⟩:=D;have ar:∀kk z ok,q=.lookup kk z ok->z.good=true:=λkk z ok e=>by subst e;simpa [B3]using hk
       have ab:∀s a,q≠.loadF s a:=λs a e=>by subst e;exact HY hr
       cases place with
       | none=>
        obtain⟨y,hy,ad⟩:=xM ab ar rs (λd _ ob hd=>r.obj d ob hd) hx
        exact⟨0,y,H,ν,Z,λq _=>by unfold dF;rw[g1];simp only[<-gd.E,g2 H y hy,Option.map_some],r,ad,.refl,λ_=>⟨rfl,.refl⟩⟩
       | some Q=>
        obtain⟨b,j⟩:=Q;obtain⟨ax,ap,aj⟩:=hold b j rfl;have u:dr=true:=J;subst u;have G:=hi b j rfl;subst G;simp only[Bool.not_true,Bool.false_or,Bool.true_and]at W;have ay:o_ ops j F o.op=true:=OX hr λn ag a' e1 e2 t e3=>by
         by_cases T:dJ ops j=true
         .exact Ej (aE b j rfl) e3 T
         exact aH n ag a' rfl (by simpa using T) e1 e2
        by_cases T:dJ ops j=true
        .obtain⟨y,hy,ad⟩:=xM ab ar rs (λd _ ob hd=>r.obj d ob hd) hx
         have hH:=g2 H y hy;refine⟨0,y,H,ν,Z,λq _=>?_,r,ad,.refl,λ_=>⟨rfl,.refl⟩⟩
         unfold dF;rw[g1];simp only[<-gd.E,ay,if_true];split
         next v hv=>have:=AF hv;rw[hH]at this;cases this;rfl
         rw[if_pos T,hH];rfl
        have ao:fm fr L=true:=by simpa [T]using W
        have aa:∀id,Z id->Z id/\bq (H.take b) id=bq H id:=λid h=>⟨h,oa (aj id h)⟩
        have aA:∀id,Z id->Z id/\bq H id=bq (H.take b) id:=λid h=>⟨h,(oa (aj id h)).symm⟩
        obtain⟨y,hy,ad⟩:=xM (H:=H.take b) ab ar (rs.mono aa λe _=>jm ν st.m e) (λd hd ob aB=>by
         have ab:d∉fr:=λhf=>by rw[o4 ao d hf]at hd;cases hd
         exact en.mono aa rfl (λhb=>by rw[List.getElem?_take,if_pos (ap d ob aB hb ab)]) (λe _=>jm ν st.m e) (r.obj d ob aB)) hx
        refine⟨0,y,H,ν,Z,λq _=>?_,r,ad.mono aA (λe _=>jm ν st.m e),.refl,λ_=>⟨rfl,.refl⟩⟩
        unfold dF;rw[g1];simp only[<-gd.E,g2 (H.take b) y hy,ay,if_true]
      simp at h
     | a q=>
      simp only at h;split at h
      .rename_i d hd;split at h
       .rename_i Y;obtain⟨⟨ob,x⟩,hx,e⟩:=ζf.1 h;simp only[ζc]at e;obtain⟨rfl,rfl⟩:=e;obtain⟨ae,mk,e1,e2,e3,e4⟩:=Py hk rs hx;obtain⟨g1,g2⟩:=D;obtain⟨n1,n2,n3,n4⟩:=nu Y;have au:∀p:Nat×Nat,∀e,SV.dK e L=true->∀af,bh (bN st.m d ob) e=some af->∃ob,bh st.m e=some ob/\jf ν d p e=ν e/\sameShape ob af:=λp e he=>by
         refine uC ?_;rintro rfl;have:∀{xs:List Arg} {vs:List SV},bW S.N st.g xs=some vs->SV.dK e vs=false:=by
          intro xs
          induction xs with
          | nil=>intro vs h;simp only[bW,ζa]at h;subst h;rfl
          | cons a xs ih=>
           intro vs h;simp only[bW]at h;split at h
           .rename_i v aS h1 h2;simp only[ζa]at h;subst h;simp only[SV.dK,Bool.or_eq_false_iff];refine⟨?_,ih h2⟩
            cases a with
            | s n=>exact Ao n3 h1
            | k c=>simp only[rT,ζa]at h1;subst h1;rfl
            | f s=>simp only[rT,ζa]at h1;subst h1;rfl
           simp at h
         rw[this B]at he;cases he
        have fin:∀(id:Nat) (Hn:bn),H.length<=Hn.length->Hn[id]? = some ae->(∀k,k<H.length->k≠id->Hn[k]? = H[k]?)->(∀k,fS ν st.m k->k≠id)->(∀k,Z k->k≠id) ->
         R (jf ν d (id,0)) Z { st with m:=bN st.m d ob } F Hn/\dn (jf ν d (id,0)) (bN st.m d ob) Hn Z x (mk.val id)/\(∀k,Z k->bq Hn k=bq H k):=λid Hn hl aL I ho hz=>by
         have aa:∀k,Z k->bq Hn k=bq H k:=λk hk=>by unfold bq;rw[I k (r.xq hk) (hz k hk)]
         obtain⟨a1,a2⟩:=e4 id (jf ν d (id,0)) (bN st.m d ob) Hn (iw _ _ _) (cI _ _ _) aL aa (au _);have r2:R ν Z st F Hn:=r.heap (λk hk=>I k (r.lt hk) (ho k hk)) aa
         exact⟨r2.add Y (λ_=>⟨λh=>ho _ h rfl,λh=>hz _ h rfl⟩) a1,a2,aa⟩
        have aC:o.dst=some d:=hd
        cases place with
        | none=>
         obtain⟨f1,f2,f3⟩:=fin H.length (H++[ae]) Zab Zab (λk hk _=>List.getElem?_append_left hk) (λk hk=>Nat.ne_of_lt (r.lt hk)) (λk hk=>Nat.ne_of_lt (r.xq hk))
         refine⟨0,mk.val H.length,H++[ae],jf ν d (H.length,0),Z,λq _=>?_,f1,f2,Ev.add Y Zab (λk hk _=>List.getElem?_append_left hk) f3 (λ_=>.inr (Nat.le_refl _)),λhh=>?_⟩
         .unfold dF;rw[g1];simp only[ak,Bool.false_eq_true,if_false,<-gd.E,g2 _ e1]
         rw[J]at hh;cases hh
        | some Q=>
         obtain⟨b,j⟩:=Q;have hf:=al b j rfl g1;have aM:=(ζe.1 hf).1;have nf:∀k,fS ν st.m k->k≠b+j:=λk hk e=>by
          subst e;obtain⟨d',af,w1,w2,w3⟩:=hk;have:=r.obj d' af w1
          cases af with
          | sl fl es xs=>
           simp only[cD]at w2;simp only[en,w2,if_true]at this;obtain⟨_,O,_⟩:=this;rw[w3,hf]at O;cases O
          | box cs=>obtain⟨_,_,O,_⟩:=this;rw[w3,hf]at O;cases O
          | mp aT=>obtain⟨_,O,_⟩:=this;rw[w3,hf]at O;cases O
         have nz:∀k,Z k->k≠b+j:=λk hk e=>by
          subst e;have:=r.zrow _ hk;unfold bq at this;rw[hf]at this;simp[Ob.rows]at this
         obtain⟨f1,f2,f3⟩:=fin (b+j) (H.set (b+j) ae) Zab (by rw[List.getElem?_set_self aM]) (λk _ hk=>by rw[List.getElem?_set,if_neg (Ne.symm hk)]) nf nz
         refine⟨0,mk.val (b+j),H.set (b+j) ae,jf ν d (b+j,0),Z,λq _=>?_,f1,f2,Ev.add Y Zab (λk _ hk=>?_) f3 (λ_=>.inl ⟨b,j,rfl,rfl⟩),λ_=>⟨rfl,?_⟩⟩
         .unfold dF;rw[g1];simp only[ak,Bool.false_eq_true,if_false,<-gd.E,g2 _ e1,hf]
         .rw[List.getElem?_set,if_neg λe=>hk ⟨b,j,rfl,e.symm⟩]
         have:Au ⟨o.dst,g,dr&&dJ ops j,.a q,az,[],[]⟩=some d:=aC;have G:=hi b j rfl;subst G;rw[this];exact Kept.add λ_ _ h=>h
       simp at h
      simp at h
     | l q=>
      simp only at h;split at h
      .rename_i W;obtain⟨y,H',ν',e1,e2,e3,e4,e5⟩:=DN r rs h;obtain⟨g1,g2⟩:=D;refine⟨0,y,H',ν',Z,λq _=>?_,e2,e3,e4.weak (λ_ h=>h.elim),λ_=>⟨rfl,e5⟩⟩
       unfold dF;rw[g1];simp only[<-gd.E]
       cases place with
       | none=>exact g2 _ _ e1
       | some Q=>
        obtain⟨b,j⟩:=Q;have u:dr=true:=J;subst u;have G:=hi b j rfl;subst G;have T:dJ ops j=true:=by simpa using W
        simp only[T,if_true];exact g2 _ _ e1
      simp at h
     | e n=>exact D.elim
     | b=>
      simp only at h;split at h
      .cases h
      rename_i aq;have aN:dr=false:=by simpa using aq
      have aO:place=none:=by
       cases place with
       | none=>rfl
       | some Q=>rw[aN]at J;simp at J
      subst aO;split at h
      next x=>obtain⟨xs,h1,h2⟩:=ζg.1 h;obtain⟨l,h3,e⟩:=ζf.1 h2;simp only[ζc]at e;obtain⟨rfl,rfl⟩:=e;obtain⟨g1,y,e1,g2⟩:=D;obtain⟨y',_,e2,r1,r2⟩:=rs.inv;rw[e1]at e2;cases e2;obtain⟨zs,k1,k2⟩:=vt r1 r.obj h1;have hz:mh zs=some l:=AO k2 h3;obtain⟨q1,q2⟩:=g2 H zs l k1 hz;exact⟨0,_,H,ν,Z,λq _=>by unfold dF;rw[g1];simp only[tX,<-gd.E,q1,q2,Option.map_some],r,.v _ _ (.same _ rfl),.refl,λ_=>⟨rfl,.refl⟩⟩
      cases h
     | c=>
      simp only at h;obtain⟨g1,f',aU,e1,e2⟩:=D;have go:∀(f:FuncId) (args:List SV) (av:List V),cg ν st.m H Z args av->kC F o.op=some (.fn f,av)->fu S c o.dst dr (!dr||(dr&&dJ ops i)) (fZ st.m fr) f args st=some (sv,st') ->
       Er S ops place dr F o.op (Au ⟨o.dst,g,dr&&dJ ops i,.c,az,[],[]⟩) ν Z st H sv st':=λf args av aP aD aQ=>by
       obtain⟨n,y,H',ν',Z',p1,p2,p3,p4,p5,p6⟩:=SM (ops:=ops) (Rv:=λid=>∃b j,place=some (b,j)/\id=b+j) hS gd.prm J (λb j hp hn=>by
        have:=hi b j hp;subst this;simp only[ζh]at hn;exact hn.2) (λb j hp hn=>by have:=hi b j hp;subst this;rw[J,hp]at hn;simpa using hn) (λb j hp=>(hold b j hp).2) r aP aQ
       refine⟨n,y,H',ν',Z',λq hq=>?_,p2,p3,p4,λhd=>⟨p5 hd,p6⟩⟩
       unfold dF;rw[g1];simp only[aD];exact p1 q hq
      split at h
      next f a b vs=>obtain⟨w,ws,ew,r1,r2⟩:=rs.inv;rw[ew]at e1;simp only[List.cons.injEq]at e1;obtain⟨rfl,rfl⟩:=e1;obtain⟨a',b',rfl,ra,rb⟩:=r1.kN;exact go f _ _ ((ra.append r2).append rb) e2 h
      next f a b vs=>obtain⟨w,ws,ew,r1,r2⟩:=rs.inv;rw[ew]at e1;simp only[List.cons.injEq]at e1;obtain⟨rfl,rfl⟩:=e1;obtain⟨a',b',rfl,ra,rb⟩:=r1.fr.kN;exact go f _ _ (((cg.sB ra).append r2).append (cg.sB rb)) e2 h
      simp at h
    simp at h
   simp at hc
  simp at hc
 simp at hc
end
def gp (N:Nat->FuncId) (g:Tb SV) (o:RO):Option (Nat×List SV):=
 match o.k,bW N g o.az with
 | .c,some (.yl id::u)=>some (id,u)
 | _,_=>none
open Classical in
noncomputable def fM (S:Sys) (c:b9) (dr:Bool) (fr:List Nat) (o:RO) (st:St):Option St:=
 match wanted st.g o.gd with
 | some true=>match gp S.N st.g o with
  | some (id,z)=>if dr then none else match dy z,st.want with
   | some B,w::u=>if B=w/\id=st.yid then some (cT { st with want:=u } o.dst (.v (.bool (st.more || !u.isEmpty))))else none
   | _,_=>none
  | none=>(mR S c dr fr o st).map λ(x,st')=>cT st' o.dst x
 | some false=>some (cT st o.dst (.v .undef))
 | none=>none
def RO.strip (o:RO):RO:={ o with dead:=[],pre:=[] }
def pR:List Gh->St->Option St
 | [],st=>some st
 | x::r,st=>(ghost x st).bind (pR r)
def AN:Gh->Bool
 | .keep ..=>true
 | .drop _=>true
 | _=>false
def Di (dr:Bool) (l:List Gh) (st:St):Option St:=if dr then(if l.all AN then pR l st else none)else pR l st
def qy (ds:List Nat) (st:St):St:={ st with g:=oH ds st.g }
noncomputable def oh (S:Sys) (c:b9) (dr:Bool):List Nat->List RO->St->Option St
 | _,[],st=>some st
 | fr,o::r,st=>match (Di dr o.pre st).bind (fM S c dr fr o.strip)with
  | some st'=>oh S c dr (if dr then sj fr o.strip else fr) r (qy o.dead st')
  | none=>none
abbrev JT:=List (List V)->(Nat->Prop)->(Nat->Prop)->bn->Prop
structure Yc (S:Sys) (J:JT) (more:Bool) (yid:Nat):Prop where
 xu:∀w O Z H O' Z' H',J w O Z H->H.length<=H'.length->(∀i,i<H.length->¬O i->¬Z i->H'[i]? = H[i]?)->(∀i,Z i->Z' i/\bq H' i=bq H i) ->
  (∀i,O' i->O i\/H.length<=i)->(∀i,Z' i->Z i\/O i\/H.length<=i)->J w O' Z' H'
 yield:∀x ws O Z H args,J (x::ws) O Z H->dB H Z x args->(∀i,Z i->(bq H i).isSome=true)->Deep H Z->(∀i,O i->¬Z i/\i<H.length) ->
  ∃n H',run S.E n (.yld yid) args H=some (.bool (more || !ws.isEmpty),H')/\J ws O Z H'/\H.length<=H'.length/\(∀i,O i->H'[i]? = H[i]?)/\(∀i,Z i->bq H' i=bq H i)
structure Fix (ν:Nu) (st:St) (ν':Nu) (st':St):Prop where
 pin:∀d∈st.pin,∀ob',bh st'.m d=some ob'->∃ob,bh st.m d=some ob/\ν' d=ν d/\sameShape ob ob'
 pins:st'.pin=st.pin
 more:st'.more=st.more
 yid:st'.yid=st.yid
section
variable {Rv:Nat->Prop} {ν ν' ν2:Nu} {Z Z':Nat->Prop} {st st' st2:St} {m m':Tb bJ} {F F':Frame} {H H' H1:bn} {S:Sys} {c:b9} {X:CX} {J:JT}
theorem Fix.refl:Fix ν st ν st:=⟨λ_ _ u h=>⟨u,h,rfl,.refl _⟩,rfl,rfl,rfl⟩
theorem Fix.trans (a:Fix ν st ν' st') (b:Fix ν' st' ν2 st2):Fix ν st ν2 st2:=
 ⟨λd hd u h=>by
  obtain⟨w,h1,B,z⟩:=b.pin d (by rw[a.pins];omega) u h
  obtain⟨ob,k1,k2,k3⟩:=a.pin d hd w h1;exact⟨ob,k1,by simp_all,k3.trans z⟩,by rw[b.pins,a.pins],by rw[b.more,a.more],by rw[b.yid,a.yid]⟩
theorem Ev.beside (y:Yc S J st.more st.yid) (a:Ev (λ_=>False) ν Z st H ν' Z' st' H') (B:st'.want=st.want) (j:J st.want (fS ν st.m) Z H):J st'.want (fS ν' st'.m) Z' H':=by
 rw[B];exact y.xu _ _ _ _ _ _ _ j a.len (λi h1 u w=>a.same i h1 u w (λh=>h)) a.rows (λi h=>(a.own i h).imp (λh=>h) (λh=>h.elim (λh=>h.elim) (λh=>h)))
  (λi h=>(a.frz i h).imp (λh=>h) (λh=>h.imp (λh=>h) (λh=>h.elim (λh=>h.elim) (λh=>h))))
theorem wG (D:∀s sv,bh st.g s=some sv->dn ν m H Z sv (get F s)) {ops:List Oper} {o:Oper} {gd:Option (Nat×Bool)} (hg:Dr ops o=some gd) {t:Bool} (B:wanted st.g gd=some t):gx ops F o=t:=by
 unfold Dr at hg;unfold gx
 cases u:o.guard with
 | none=>
  rw[u]at hg;simp  at hg;simp[wanted]at B;grind
 | some C=>
  rw[u]at hg;obtain⟨d,hd,rfl⟩:=ζf.1 hg;simp[hd];simp[wanted]at B;split at B
  next c hc=>simp  at B;subst B;rw[(D d _ hc).fr.bool]
  .rename_i x G hc;simp  at B;subst B;have w:=(D d _ hc).fr;split
   .rename_i c z;rw[z]at w;cases w
    grind
   rfl
  grind
theorem Qy {q:Hq} {dst:Option Nat} {args:List SV} {sv:SV} (h:Dn q dst args st=some (sv,st')):st'.want=st.want/\st'.pin=st.pin/\st'.more=st.more/\st'.yid=st.yid:=by
 unfold Dn at h
 grind
theorem Sg {dr:Bool} {fr:List Nat} {ro:RO} {sv:SV} (h:mR S c dr fr ro st=some (sv,st')):st'.want=st.want/\st'.pin=st.pin/\st'.more=st.more/\st'.yid=st.yid:=by
 unfold mR at h;split at h
 .split at h
  .split at h
   .split at h
    .simp at h
    unfold AY at h;split at h
    .split at h
     .obtain⟨_,_,h⟩:=ζg.1 h;obtain⟨_,_,h⟩:=ζg.1 h;dsimp only at h;split at h
      .simp only[ζa,ζc]at h;obtain⟨_,rfl⟩:=h;exact⟨rfl,rfl,rfl,rfl⟩
      simp at h
     simp at h
    simp at h
   obtain⟨_,_,e⟩:=ζf.1 h;simp only[ζc]at e;obtain⟨_,rfl⟩:=e;exact⟨rfl,rfl,rfl,rfl⟩
  .obtain⟨_,_,e⟩:=ζf.1 h;simp only[ζc]at e;obtain⟨_,rfl⟩:=e;exact⟨rfl,rfl,rfl,rfl⟩
  .split at h
   .obtain⟨_,_,e⟩:=ζf.1 h;simp only[ζc]at e;obtain⟨_,rfl⟩:=e;exact⟨rfl,rfl,rfl,rfl⟩
   simp at h
  .split at h
   .split at h
    .obtain⟨_,_,e⟩:=ζf.1 h;simp only[ζc]at e;obtain⟨_,rfl⟩:=e;exact⟨rfl,rfl,rfl,rfl⟩
    simp at h
   simp at h
  .split at h
   .unfold nY at h
    (repeat' split at h) <;> first|(simp at h;done)|(simp only[ζa,ζc]at h;obtain⟨_,rfl⟩:=h;exact⟨rfl,rfl,rfl,rfl⟩)|(obtain⟨_,_,e⟩:=ζf.1 h;simp only[ζc]at e;obtain⟨_,rfl⟩:=e;exact⟨rfl,rfl,rfl,rfl⟩)|skip
    dsimp only at h
    (repeat' split at h) <;> first|(simp at h;done)|(simp only[ζa,ζc]at h;obtain⟨_,rfl⟩:=h;exact⟨rfl,rfl,rfl,rfl⟩)
   simp at h
  .have hc:∀{dst dr now u f args},fu S c dst dr now u f args st=some (sv,st')->st'.want=st.want/\st'.pin=st.pin/\st'.more=st.more/\st'.yid=st.yid:=by
    intro dst dr now u f args h;unfold fu at h
    (repeat' split at h) <;> first|exact Qy h|(obtain⟨_,_,e⟩:=ζf.1 h;simp only[ζc]at e;obtain⟨_,rfl⟩:=e;exact⟨rfl,rfl,rfl,rfl⟩)|(simp at h;done)|(simp only[ζa,ζc]at h;obtain⟨_,rfl⟩:=h;exact⟨rfl,rfl,rfl,rfl⟩)
   split at h
   .exact hc h
   .exact hc h
   simp at h
  .split at h
   .simp at h
   split at h
   .obtain⟨_,_,h⟩:=ζg.1 h;obtain⟨_,_,e⟩:=ζf.1 h;simp only[ζc]at e;obtain⟨_,rfl⟩:=e;exact⟨rfl,rfl,rfl,rfl⟩
   simp at h
  have z:∀{dst l w},nY st dst l w=some (sv,st')->st'.want=st.want/\st'.pin=st.pin/\st'.more=st.more/\st'.yid=st.yid:=by
   intro dst l w h;unfold nY at h
   (repeat' split at h) <;> first|(simp at h;done)|(simp only[ζa,ζc]at h;obtain⟨_,rfl⟩:=h;exact⟨rfl,rfl,rfl,rfl⟩)|(obtain⟨_,_,e⟩:=ζf.1 h;simp only[ζc]at e;obtain⟨_,rfl⟩:=e;exact⟨rfl,rfl,rfl,rfl⟩)|skip
   all_goals (dsimp only at h;(repeat' split at h) <;> first|(simp at h;done)|(simp only[ζa,ζc]at h;obtain⟨_,rfl⟩:=h;exact⟨rfl,rfl,rfl,rfl⟩))
  split at h
  .exact z h
  .exact z h
  simp at h
 simp at h
theorem Cj (r:R ν Z st F H) {nt:Nat} {dst:Option Nat} (hd:zL nt dst=true) {sv:SV} {y:V} (h:dn ν st.m H Z sv y):∃F',ko nt F dst y=some F'/\R ν Z (cT st dst sv) F' H:=by
 cases dst with
 | none=>exact⟨F,rfl,r⟩
 | some d=>
  have  := by simpa [zL]using hd
  exact⟨set F d y,by simp[ko,if_pos this],r.put h⟩
theorem E5 (st:St) (dst:Option Nat) (sv:SV):(cT st dst sv).m=st.m/\(cT st dst sv).want=st.want/\(cT st dst sv).pin=st.pin/\(cT st dst sv).more=st.more/\(cT st dst sv).yid=st.yid:=by
 cases dst <;> exact⟨rfl,rfl,rfl,rfl,rfl⟩
theorem LW (gd:Good X S) (hS:jw S c) {ops:List Oper} {place:Option (Nat×Nat)} {dr:Bool} {fr:List Nat} {i:Nat} (G:dr=place.isSome) (hi:∀b j,place=some (b,j)->j=i)
 (hold:∀b j,place=some (b,j)->b<=H.length/\Old b fr ν Z st.m)
 {o:Oper} {ro:RO} (hc:oG X dr ops i o=some ro) (J:∀b j,place=some (b,j)->ops[j]? = some o) (D:∀b j,place=some (b,j)->dw o.op=.alloc->H[b+j]? = some .free)
 (r:R ν Z st F H) (B:gp S.N st.g ro=none\/dr=true) (h:fM S c dr fr ro st=some st') :
 ∃n F' H' ν' Z',(∀k,n<=k->gO S.E (run S.E k) X.nt ops place o F H=some (F',H'))/\R ν' Z' st' F' H'/\Ev (λid=>∃b j,place=some (b,j)/\id=b+j) ν Z st H ν' Z' st' H' /\
  (dr=true->Z'=Z/\Kept (Au ro) ν st.m ν' st'.m)/\st'.want=st.want/\Fix ν st ν' st':=by
 have I:=hc;obtain⟨u,g,now,k,az,hg,rfl⟩:=Fa hc;unfold fM at h;split at h
 .rename_i L;have w:=wG r.slot hg L;have T:(mR S c dr fr ⟨o.dst,g,now,k,az,[],[]⟩ st).map (λ(x,st')=>cT st' o.dst x)=some st':=by
   split at h
   .rename_i id vs C;rcases B with B|B
    .rw[B]at C;cases C
    subst B;simp at h
   exact h
  obtain⟨⟨x,O⟩,hd,rfl⟩:=ζf.1 T;obtain⟨n,y,H',ν',Z',e1,e2,e3,e4,e5⟩:=Xm gd hS G hi hold I J D r hd;obtain⟨U,Q,W,Y⟩:=Sg hd;obtain⟨F',f1,f2⟩:=Cj e2 u e3;obtain⟨p1,p2,p3,p4,p5⟩:=E5 O o.dst x;refine⟨n,F',H',ν',Z',λk hk=>?_,f2,?_,λhd=>⟨(e5 hd).1,by rw[p1];exact(e5 hd).2⟩,by rw[p2,U],⟨λd hd=>by rw[p1];exact e4.pin d hd,by rw[p3,Q],by rw[p4,W],by rw[p5,Y]⟩⟩
  .unfold gO;simp only[w,if_true,e1 k hk,f1,Option.map_some]
  exact⟨e4.len,e4.same,e4.rows,λid h=>e4.own id (by rw[p1]at h;exact h),e4.frz,λd hd=>by rw[p1];exact e4.pin d hd,by rw[p3,Q]⟩
 .rename_i L;have w:=wG r.slot hg L;simp only[ζa]at h;subst h;obtain⟨F',f1,f2⟩:=Cj r u (.v V.undef V.undef (.same _ rfl));obtain⟨p1,p2,p3,p4,p5⟩:=E5 st o.dst (.v .undef);refine⟨0,F',H,ν,Z,λk _=>?_,f2,?_,λ_=>⟨rfl,by rw[p1];exact .refl⟩,p2,⟨λd hd=>by rw[p1];exact λz h=>⟨z,h,rfl,.refl _⟩,p3,p4,p5⟩⟩
  .unfold gO;simp only[w,Bool.false_eq_true,if_false,f1,Option.map_some]
  exact⟨Nat.le_refl _,λ_ _ _ _ _=>rfl,λ_ h=>⟨h,rfl⟩,λ_ h=>.inl (by rw[p1]at h;exact h),λ_ h=>.inl h,λd hd=>by rw[p1];exact λz h=>⟨z,h,rfl,.refl _⟩,p3⟩
 simp at h
theorem Tc (gd:Good X S) (y:Yc S J st.more st.yid) {ops:List Oper} {fr:List Nat} {i:Nat} {o:Oper} {ro:RO} (hc:oG X false ops i o=some ro)
 (r:R ν Z st F H) (j:J st.want (fS ν st.m) Z H) {id:Nat} {vs:List SV} (B:gp S.N st.g ro=some (id,vs)) (D:wanted st.g ro.gd=some true) (h:fM S c false fr ro st=some st') :
 ∃n F' H',(∀k,n<=k->gO S.E (run S.E k) X.nt ops none o F H=some (F',H'))/\R ν Z st' F' H'/\J st'.want (fS ν st'.m) Z H'/\Fix ν st ν st':=by
 unfold oG at hc;simp only[Bool.false_and,Bool.false_eq_true,if_false]at hc;split at hc
 .rename_i C;split at hc
  .rename_i g k os hg hr;split at hc
   .obtain⟨az,U,rfl⟩:=ζf.1 hc;unfold fM at h;simp only at D;have L:=wG r.slot hg D;rw[D]at h;simp only[B,Bool.false_eq_true,if_false]at h;unfold gp at B;split at B
    .rename_i W Y hk G;simp only[ζa,ζc]at B;obtain⟨rfl,rfl⟩:=B;simp only at hk G;subst hk;obtain⟨ys,O,rs⟩:=pN gd.N r.slot U G;obtain⟨g1,f',aa,e1,e2⟩:=jN gd.N hr O;obtain⟨w,ws,ew,r1,r2⟩:=rs.inv;rw[ew]at e1;simp only[List.cons.injEq]at e1;obtain⟨rfl,rfl⟩:=e1;cases r1;simp only at e2;split at h
     .rename_i xs x I hx u;split at h
      .rename_i z;obtain⟨rfl,rfl⟩:=z;simp only[ζa]at h;subst h;rw[u]at j;obtain⟨n,H',p1,p2,p3,p4,p5⟩:=y.yield _ _ _ _ _ _ j (r2.dy hx) r.zrow r.deep (λi hi=>⟨by obtain⟨d,ob,h1,h2,rfl⟩:=hi;exact r.apart d ob h1 h2,r.lt hi⟩)
       have r3:R ν Z st F H':=r.heap p4 p5;have r4:R ν Z { st with want:=I } F H':=⟨r3.slot,r3.obj,r3.inj,r3.apart,r3.zrow,r3.deep⟩;obtain⟨F',f1,f2⟩:=Cj (st:={ st with want:=I }) r4 C (sv:=.v (.bool (st.more || !I.isEmpty))) (.v _ _ (.same _ rfl));obtain⟨T,q2,q3,q4,q5⟩:=E5 { st with want:=I } o.dst (.v (.bool (st.more || !I.isEmpty)));refine⟨n,F',H',λk hk=>?_,f2,by rw[T,q2];exact p2,⟨λd hd=>by rw[T];exact λQ h=>⟨Q,h,rfl,.refl _⟩,q3,q4,q5⟩⟩
       unfold gO dF;rw[g1,e2];simp only[L,if_true,(oN S.E hk).go _ _ _ _ p1,f1,Option.map_some]
      simp at h
     simp at h
    simp at B
   simp at hc
  simp at hc
 simp at hc
def l8 (X:CX) (B:Bool) (ops:List Oper):Nat->List Oper->Option (List RO)
 | _,[]=>some []
 | i,o::r=>match oG X B ops i o,l8 X B ops (i+1) r with
  | some ro,some rs=>some (ro::rs)
  | _,_=>none
theorem R.Al (r:R ν Z st F H) (ds:List Nat):R ν Z (qy ds st) F H:=r.less   (λs w u=>pG u) (λd ob hd=>hd)
theorem Fix.Al {ds:List Nat} (f:Fix ν (qy ds st) ν' st'):Fix ν st ν' st':=⟨f.pin,f.pins,f.more,f.yid⟩
theorem Fix.ghost (r:R ν Z st F H) (y:Yc S J st.more st.yid) (j:J st.want (fS ν st.m) Z H) {x:Gh} (h:ghost x st=some st'):∃ν' Z',R ν' Z' st' F H/\J st'.want (fS ν' st'.m) Z' H/\Fix ν st ν' st':=by
 obtain⟨ν',Z',h1,u⟩:=RD (Rv:=λ_=>False) r h
 have w:st'.want=st.want/\st'.more=st.more/\st'.yid=st.yid:=by
  unfold Go.VE.ghost Bn at h
  (repeat' split at h) <;> first|grind|grind
 exact⟨ν',Z',h1,u.beside y w.1 j,⟨u.pin,u.pins,w.2.1,w.2.2⟩⟩
theorem Fix.quiet (r:R ν Z st F H):∀{l:List Gh} {st':St},l.all AN=true->Go.VE.pR l st=some st'->R ν Z st' F H/\Ev Rv ν Z st H ν Z st' H/\st'.want=st.want/\Fix ν st ν st'/\∀d ob,bh st'.m d=some ob->bh st.m d=some ob:=by
 intro l
 induction l generalizing st with
 | nil=>intro st' _ h;simp[Go.VE.pR]at h;subst h;exact⟨r,.refl,rfl,.refl,λ_ _ h=>h⟩
 | cons x l C=>
  intro st' z h;simp only[List.all_cons,ζh]at z;obtain⟨D,h1,G⟩:=ζg.1 h;have key:∃g m,D={ st with g:=g,m:=m }/\(∀s u,bh g s=some u->bh st.g s=some u)/\∀d ob,bh m d=some ob->bh st.m d=some ob:=by
   cases x with
   | keep gs L=>
    simp[Go.VE.ghost]at h1;split at h1
    next g m hg I=>simp  at h1;subst h1;exact⟨g,m,rfl,λs u B=>rO hg B,λd ob hd=>rO I hd⟩
    grind
   | drop ds=>
    simp[Go.VE.ghost]at h1;subst h1;exact⟨_,st.m,rfl,λs u B=>pG B,λ_ _ h=>h⟩
   | _=>simp[AN]at z
  obtain⟨g,m,rfl,J,w⟩:=key;obtain⟨a1,a2,a3,a4,a5⟩:=C (r.less   J w) z.2 G;exact⟨a1,(Ev.less   w).trans a2,a3,Fix.trans  (st':={ st with g:=g,m:=m }) ⟨λd _ ob h=>⟨ob,w d ob h,rfl,.refl _⟩,rfl,rfl,rfl⟩ a4,λd ob h=>w d ob (a5 d ob h)⟩
theorem Fix.pR:∀{l:List Gh} {ν:Nu} {Z:Nat->Prop} {st st':St},R ν Z st F H->Yc S J st.more st.yid->J st.want (fS ν st.m) Z H->pR l st=some st'->∃ν' Z',R ν' Z' st' F H/\J st'.want (fS ν' st'.m) Z' H/\Fix ν st ν' st'
 | [],ν,Z,st,st',r,y,j,h=>by simp[Go.VE.pR]at h;subst h;exact⟨ν,Z,r,j,.refl⟩
 | x::l,ν,Z,st,st',r,y,j,h=>by
  obtain⟨B,h1,D⟩:=ζg.1 h;obtain⟨z,C,r1,u,f1⟩:=Fix.ghost r y j h1;obtain⟨ν2,Z2,r2,w,f2⟩:=Fix.pR r1 (by rw[f1.more,f1.yid];omega) u D
  exact⟨ν2,Z2,r2,w,f1.trans f2⟩
theorem Sh (gd:Good X S) (hS:jw S c) {ops:List Oper} {fr:List Nat} {i:Nat} {o:Oper} {ro:RO} {B:St} (h1:oG X false ops i o=some ro) (y:Yc S J st.more st.yid) (r:R ν Z st F H) (j:J st.want (fS ν st.m) Z H) (G:fM S c false fr ro st=some B) :
 ∃n F' H' ν' Z',(∀k,n<=k->gO S.E (run S.E k) X.nt ops none o F H=some (F',H'))/\R ν' Z' B F' H'/\J B.want (fS ν' B.m) Z' H'/\Fix ν st ν' B:=by
 by_cases L:wanted st.g ro.gd=some true
 .cases C:gp S.N st.g ro with
  | none=>
   obtain⟨n,F',H',ν',Z',e1,e2,e3,e4,e5,e6⟩:=LW gd hS (place:=none) rfl (λb j h=>by cases h) (λb j h=>by cases h) h1 (λb j h=>by cases h) (λb j h=>by cases h) r (.inl C) G
   exact⟨n,F',H',ν',Z',e1,e2,(e3.weak (λid ⟨b,j,h,_⟩=>by cases h)).beside y e5 j,e6⟩
  | some p=>
   obtain⟨id,Q⟩:=p;obtain⟨n,F',H',e1,e2,e3,e4⟩:=Tc gd y h1 r j C L G;exact⟨n,F',H',ν,Z,e1,e2,e3,e4⟩
 have u:fM S c false fr ro st=some B:=G;have O:gp S.N st.g { ro with az:=[] }=none:=by
  unfold gp;simp[bW]
 obtain⟨n,F',H',ν',Z',e1,e2,e3,e4,e5,e6⟩:∃n F' H' ν' Z',(∀k,n<=k->gO S.E (run S.E k) X.nt ops none o F H=some (F',H'))/\R ν' Z' B F' H'/\Ev (λ_=>False) ν Z st H ν' Z' B H'/\True/\B.want=st.want/\Fix ν st ν' B:=by
  unfold fM at u;split at u
  next w=>exact absurd w L
  .rename_i w;simp only[ζa]at u;subst u;unfold oG at h1;simp only[Bool.false_and,Bool.false_eq_true,if_false]at h1;split at h1
   .rename_i D;split at h1
    .rename_i g k os hg hr;split at h1
     .obtain⟨az,T,rfl⟩:=ζf.1 h1;have I:=wG r.slot hg w;obtain⟨F',f1,f2⟩:=Cj r D (.v V.undef V.undef (.same _ rfl));obtain⟨p1,p2,p3,p4,p5⟩:=E5 st o.dst (.v .undef);refine⟨0,F',H,ν,Z,λk _=>?_,f2,?_,trivial,p2,⟨λd hd=>by rw[p1];exact λz h=>⟨z,h,rfl,.refl _⟩,p3,p4,p5⟩⟩
      .unfold gO;simp only[I,Bool.false_eq_true,if_false,f1,Option.map_some]
      exact⟨Nat.le_refl _,λ_ _ _ _ _=>rfl,λ_ h=>⟨h,rfl⟩,λ_ h=>.inl (by rw[p1]at h;exact h),λ_ h=>.inl h,λd hd=>by rw[p1];exact λz h=>⟨z,h,rfl,.refl _⟩,p3⟩
     simp at h1
    simp at h1
   simp at h1
  simp at u
 exact⟨n,F',H',ν',Z',e1,e2,e3.beside y e5 j,e6⟩
theorem Qv (gd:Good X S) (hS:jw S c) {ops:List Oper} {fr:List Nat}:∀(rest:List Oper) {i:Nat} {B:List RO} {ν:Nu} {Z:Nat->Prop} {st st':St} {F:Frame} {H:bn},l8 X false ops i rest=some (B.map RO.strip)->oh S c false fr B st=some st' ->
 Yc S J st.more st.yid->R ν Z st F H->J st.want (fS ν st.m) Z H ->
 ∃n F' H' ν' Z',(∀k,n<=k->mZ S.E (run S.E k) X.nt ops rest F H=some (F',H'))/\R ν' Z' st' F' H'/\J st'.want (fS ν' st'.m) Z' H'/\Fix ν st ν' st'
 | [],i,B,ν,Z,st,st',F,H,hc,h,y,r,j=>by
  simp only[l8,ζa]at hc;have  := List.map_eq_nil_iff.1 hc.symm;subst this;simp[oh]at h;subst h;exact⟨0,F,H,ν,Z,λ_ _=>rfl,r,j,.refl⟩
 | o::rest,i,B,ν,Z,st,st',F,H,hc,h,y,r,j=>by
  simp[l8]at hc;split at hc
  .rename_i Q rs h1 T;obtain⟨u,w,rfl,C,D⟩:∃u w,B=u::w/\Q=u.strip/\rs=w.map RO.strip:=by
    cases B with
    | nil=>simp_all
    | cons a b=>grind
   subst D;simp[oh,<-C]at h;split at h
   .rename_i z G;obtain⟨U,I,G⟩:=ζg.1 G;obtain⟨νg,Zg,rg,W,L⟩:=Fix.pR r y j I;obtain⟨Y,F1,H1,ν1,Z1,a1,a2,a3,O⟩:=Sh gd hS h1 (by rw[L.more,L.yid];omega) rg W G
    have a4:=L.trans O;obtain⟨n2,F2,H2,ν2,Z2,b1,b2,b3,b4⟩:=Qv gd hS rest T h (by show Yc S J z.more z.yid;rw[a4.more,a4.yid];omega) (R.Al a2 u.dead) a3
    refine⟨max Y n2,F2,H2,ν2,Z2,λk hk=>?_,b2,b3,a4.trans (Fix.Al b4)⟩
    simp[mZ,a1 k (Nat.le_trans (Nat.le_max_left _ _) hk),b1 k (Nat.le_trans (Nat.le_max_right _ _) hk)]
   grind
  grind
theorem Old.next {b:Nat} {fr:List Nat} {o:RO} (h:Old b fr ν Z m) (hk:Kept (Au o) ν m ν' m'):Old b (sj fr o) ν' Z m':=by
 refine⟨λd ob hd D w=>?_,h.2⟩
 have z:d∉fr:=λJ=>w (by
  unfold sj
  grind)
 have B:Au o≠some d:=λe=>w (by unfold sj;grind)
 obtain⟨u,h1,G,I⟩:=hk d ob B hd;have C:cD u=true:=by
  cases u <;> cases ob <;> simp[sameShape]at I <;> first|rfl|(simp[cD]at D ⊢;grind)
 rw[G];exact h.1 d u h1 C z
theorem Fj (r:R ν Z st F H) {id:Nat} (h:fS ν st.m id):H[id]? ≠ some .free:=by
 obtain⟨d,ob,h1,u,rfl⟩:=h;have:=r.obj d ob h1
 cases ob with
 | sl k es C=>
  simp[cD]at u;simp[en,u]at this
  grind
 | box cs=>obtain⟨es,z,hr,_⟩:=this;grind
 | mp B=>obtain⟨w,hr,_⟩:=this;grind
theorem Nw (r:R ν Z st F H) {id:Nat} (h:Z id):H[id]? ≠ some .free:=λe=>by
 have:=r.zrow id h;unfold bq at this;rw[e]at this;simp[Ob.rows]at this
theorem Ev.Al {ds:List Nat} (e:Ev Rv ν Z (qy ds st) H ν' Z' st' H'):Ev Rv ν Z st H ν' Z' st' H':=⟨e.len,e.same,e.rows,e.own,e.frz,e.pin,e.pins⟩
theorem Qh (gd:Good X S) (hS:jw S c) {ops:List Oper} {b k:Nat} (G:sV ops=true->k=ops.length):∀(len:Nat) {i:Nat} {B:List RO} {fr:List Nat} {ν:Nu} {Z:Nat->Prop} {st st':St} {F:Frame} {H:bn},
 i+len=ops.length->l8 X true ops i (ops.drop i)=some (B.map RO.strip)->oh S c true fr B st=some st'->R ν Z st F H->b<=H.length->Old b fr ν Z st.m->(∀j,i<=j->j<k->H[b+j]? = some .free) ->
 ∃n F' H' ν',(∀q,n<=q->kB S.E (run S.E q) X.nt ops b (List.range' i len) F H=some (F',H'))/\R ν' Z st' F' H'/\Ev (λid=>b<=id) ν Z st H ν' Z st' H'/\st'.want=st.want/\Fix ν st ν' st'
 | 0,i,B,fr,ν,Z,st,st',F,H,hl,hc,h,r,hb,J,hf=>by
  rw[List.drop_of_length_le Zaa]at hc
  simp only[l8,ζa]at hc;have:B=[]:=List.map_eq_nil_iff.1 hc.symm;subst this;simp[oh]at h;subst h;exact⟨0,F,H,ν,λ_ _=>rfl,r,.refl,rfl,.refl⟩
 | len+1,i,B,fr,ν,Z,st,st',F,H,hl,hc,h,r,hb,J,hf=>by
  have hi:i<ops.length:=by omega
  have hg  := ζd hi;rw[List.drop_eq_getElem_cons hi]at hc;simp[l8]at hc;split at hc
  .rename_i ro rs h1 h2;obtain⟨u,w,rfl,Q,T⟩:∃u w,B=u::w/\ro=u.strip/\rs=w.map RO.strip:=by
    cases B with
    | nil=>simp_all
    | cons a b=>grind
   subst T;simp only[oh,<-Q]at h;split at h
   .rename_i ab U;obtain⟨W,z,U⟩:=ζg.1 U;simp only[Di,if_true]at z;split at z
    rotate_left
    .simp_all
    rename_i L;obtain⟨rg,eg,wg,fg,sg⟩:=Fix.quiet r L z;have J:Old b fr ν Z W.m:=⟨λd ob hd=>J.1 d ob (sg d ob hd),J.2⟩
    obtain⟨n1,F1,H1,ν1,Z1,a1,a2,a3,a4,a5,a6⟩:=LW gd hS (place:=some (b,i))  rfl (λO j e=>by grind) (λO j e=>by grind) h1 (λO j e=>by grind) (λO j e ad=>by
     have:sV ops=true:=by
      unfold sV
      grind
     grind) rg (.inr rfl) U
    obtain⟨rfl,C⟩:=a4 rfl;have I  := a3.weak λid ⟨O,j,e,h⟩=>by cases e;omega
    obtain⟨n2,F2,H2,ν2,b1,b2,b3,b4,b5⟩:=Qh gd hS G len Zaa h2 h (R.Al a2 u.dead) (Nat.le_trans hb a3.len) (J.next C) (λj ae Y=>by
     have D:=hf j Zaa Y
     have aa:=(ζe.1 D).1;rw[I.same (b+j) aa (λh=>Fj rg h D) (λh=>Nw rg h D) Zaa]
     omega)
    refine⟨max n1 n2,F2,H2,ν2,λq L=>?_,b2,eg.trans ((I.weak λid e=>by omega).trans (Ev.Al b3)),by rw[b4,<-wg];exact a5,fg.trans (a6.trans (Fix.Al b5))⟩
    simp[List.range'_succ,kB,hg,a1 q (Nat.le_trans (Nat.le_max_left _ _) L),b1 q (Nat.le_trans (Nat.le_max_right _ _) L)]
   grind
  grind
end
def bS (X:CX):Bool->Code->Option RC
 | _,.skip=>some .skip
 | _,.label _=>some .skip
 | _,.region _ ops B=>
  if B then(if xy ops.toList&&Bm ops.toList then(l8 X true ops.toList 0 ops.toList).map .qn else none)
  else(l8 X false ops.toList 0 ops.toList).map .ops
 | ro,.seq a b=>match bS X ro a,bS X ro b with
  | some a,some b=>some (.seq a b)
  | _,_=>none
 | ro,.cond c a b=>match qg X.nm c,bS X ro a,bS X ro b with
  | some x,some a,some b=>some (.cond x a b)
  | _,_,_=>none
 | ro,.block id c=>(bS X ro c).map (.block id)
 | ro,.loop c=>(bS X ro c).map .loop
 | ro,.rangeFunc g ps D G=>
  if ro || !(ps.toList.all (·<X.nt))then none else
  match qg X.nm g,bS X true D,bS X true G with
  | some x,some a,some b=>some (.each x ps.toList a b)
  | _,_,_=>none
 | _,.exit id=>some (.exit id)
 | _,.ret=>some .ret
 | _,_=>none
def erase:RC->RC
 | .seq a b=>.seq (erase a) (erase b)
 | .cond x a b=>.cond x (erase a) (erase b)
 | .block id c=>.block id (erase c)
 | .loop c=>.loop (erase c)
 | .each g ps a b=>.each g ps (erase a) (erase b)
 | .gh _ c=>erase c
 | .hg c _=>erase c
 | .ops l=>.ops (l.map RO.strip)
 | .qn l=>.qn (l.map RO.strip)
 | c=>c
def jL (step:St->Option (Out×St)):Nat->St->Option (Out×St)
 | 0,_=>none
 | k+1,st=>match step st with
  | some (.norm,st')=>jL step k st'
  | r=>r
open Classical in
noncomputable def pJ (step:St->Option (Out×St)) (st:St):Option (Out×St):=
 if h:∃k r,jL step k st=some r then some (Classical.choose (Classical.choose_spec h))else none
theorem Aq {step:St->Option (Out×St)}:∀{k B:Nat} {st:St} {r:Out×St},k<=B->jL step k st=some r->jL step B st=some r
 | 0,_,_,_,_,h=>by simp[jL]at h
 | k+1,0,_,_,hk,_=>by omega
 | k+1,B+1,st,r,hk,h=>by
  simp only[jL]at h ⊢;split at h
  next st' D=>rw[Aq (Nat.le_of_succ_le_succ hk) h]
  exact h
theorem n9 {step:St->Option (Out×St)} {st:St} {r:Out×St}:pJ step st=some r↔∃k,jL step k st=some r:=by
 unfold pJ;constructor
 .intro h;split at h
  next u=>simp only[ζa]at h;exact⟨_,by rw[<-h];exact Classical.choose_spec (Classical.choose_spec u)⟩
  simp at h
 rintro⟨k,hk⟩;have u:∃k r,jL step k st=some r:=⟨k,r,hk⟩;rw[dif_pos u];have z:=Classical.choose_spec (Classical.choose_spec u);have B:=Aq (Nat.le_max_left (Classical.choose u) k) z;have w:=Aq (Nat.le_max_right (Classical.choose u) k) hk;rw[B]at w;exact w
def jk (ps:List Nat) (A B:St->Option (Out×St)) (st:St) (x:List V) (m:Tb bJ):Option (Out×Tb bJ):=
 if x.length=ps.length then
  match A { g:=yq st.g ps (x.map .v),m:=m,pin:=st.pin++qJ st.g,want:=[],more:=true,yid:=0 } with
  | some (.norm,u)=>(B u).map λ(o,st2)=>(o,st2.m)
  | _=>none
 else none
def ri (step:List V->Tb bJ->Option (Out×Tb bJ)):List (List V)->Tb bJ->Option (Out×Tb bJ)
 | [],m=>some (.norm,m)
 | x::xs,m=>match step x m with
  | some (.norm,m')=>ri step xs m'
  | r=>r
noncomputable def cK (S:Sys) (c:b9):RC->St->Option (Out×St)
 | .skip,st=>some (.norm,st)
 | .ops l,st=>(oh S c false [] l st).map λst=>(.norm,st)
 | .qn l,st=>(oh S c true [] l st).map λst=>(.norm,st)
 | .seq a b,st=>match cK S c a st with
  | some (.norm,st')=>cK S c b st'
  | r=>r
 | .cond x a b,st=>match rT S.N st.g x with
  | some (.v (.bool t))=>if t then cK S c a st else cK S c b st
  | _=>none
 | .block id a,st=>match cK S c a st with
  | some (.exit B,st')=>if B=id then some (.norm,st')else some (.exit B,st')
  | r=>r
 | .loop a,st=>pJ (cK S c a) st
 | .each g ps a b,st=>match rT S.N st.g g with
  | some (.v (.clo f x y))=>match S.items f x y with
   | some xs=>(ri (jk ps (cK S c a) (cK S c b) st) xs st.m).map λ(o,m)=>(o,{ st with m:=m })
   | none=>none
  | _=>none
 | .exit id,st=>some (.exit id,st)
 | .ret,st=>some (.ret,st)
 | .gh x a,st=>(ghost x st).bind (cK S c a)
 | .hg a x,st=>match cK S c a st with
  | some (.norm,st')=>(ghost x st').map λst=>(.norm,st)
  | r=>r
def eD (S:Sys) (f:FuncId) (a b:List V) (xs:List (List V)):Prop:=
 ∀u more,(more=true/\u=xs\/more=false/\u≠[]/\∃r,xs=u++r)->∀yid J,Yc S J more yid->∀Z w z H,dB H Z a w->dB H Z b z->(∀i,Z i->(bq H i).isSome=true)->Deep H Z->J u (λ_=>False) Z H ->
  ∃n y H' B Z',(∀k,n<=k->run S.E k (.fn f) (w++.yld yid::z) H=some (y,H'))/\J [] B Z' H'
section
variable {ν ν' ν2:Nu} {Z Z':Nat->Prop} {st st' st2:St} {m m':Tb bJ} {F F':Frame} {H H' H1:bn} {S:Sys} {c:b9} {X:CX} {J:JT}
end
inductive yf (step:List V->Tb bJ->Option (Out×Tb bJ)) (o:Out) (mf:Tb bJ):List (List V)->Bool->Tb bJ->Prop
 | nil (h:o=.norm):yf step o mf [] true mf
 | next (x:List V) (ws:List (List V)) (more:Bool) (m m1:Tb bJ) (h:step x m=some (.norm,m1)) (r:yf step o mf ws more m1):yf step o mf (x::ws) more m
 | last (x:List V) (m:Tb bJ) (h:step x m=some (o,mf)) (ho:o≠.norm):yf step o mf [x] false m
theorem EJ {step:List V->Tb bJ->Option (Out×Tb bJ)} {o:Out} {D:Tb bJ}:∀{xs:List (List V)} {m:Tb bJ},ri step xs m=some (o,D) ->
 ∃B more,(more=true/\B=xs\/more=false/\B≠[]/\∃r,xs=B++r)/\yf step o D B more m
 | [],m,h=>by
  obtain⟨rfl,rfl⟩:=h;exact⟨[],true,.inl ⟨rfl,rfl⟩,.nil rfl⟩
 | x::xs,m,h=>by
  simp[ri]at h;split at h
  .rename_i m' u;obtain⟨B,more,hc,hr⟩:=EJ h;refine⟨x::B,more,?_,.next x B more m m' u hr⟩
   grind
  refine⟨[x],false,.inr ⟨rfl,by simp,xs,rfl⟩,.last x m h λe=>?_⟩
  simp_all
def vz (O0 Z0:Nat->Prop) (H0:bn):JT:=λw O Z H=>w=[]/\H0.length<=H.length/\(∀i,i<H0.length->¬O0 i->¬Z0 i->H[i]? = H0[i]?)/\(∀i,Z0 i->Z i/\bq H i=bq H0 i) /\
 (∀i,O i->O0 i\/H0.length<=i)/\(∀i,Z i->Z0 i\/O0 i\/H0.length<=i)
section
variable {ν ν' ν2:Nu} {Z Z':Nat->Prop} {st st' st2:St} {m m':Tb bJ} {F F':Frame} {H H' H1:bn} {S:Sys} {c:b9} {X:CX} {J:JT} {O0 Z0:Nat->Prop} {H0:bn}
theorem vz.xu {w:List (List V)} {O Z B Z':Nat->Prop} {H H':bn} (j:vz O0 Z0 H0 w O Z H) (D:H.length<=H'.length) (G:∀i,i<H.length->¬O i->¬Z i->H'[i]? = H[i]?) (hr:∀i,Z i->Z' i/\bq H' i=bq H i)
 (J:∀i,B i->O i\/H.length<=i) (U:∀i,Z' i->Z i\/O i\/H.length<=i):vz O0 Z0 H0 w B Z' H':=by
 obtain⟨u,z,I,C,L,Q⟩:=j;refine⟨u,Nat.le_trans z D,λi h1 S T=>?_,λi h=>⟨(hr i (C i h).1).1,by grind⟩,λi h=>?_,λi h=>?_⟩
 .grind
 .grind
 grind
theorem vz.yc {more:Bool} {yid:Nat}:Yc S (vz O0 Z0 H0) more yid where
 xu:=λ_ _ _ _ _ _ _ j h1 u w z B=>j.xu h1 u w z B
 yield:=λx C O Z H args j=>by obtain⟨h,_⟩:=j;cases h
theorem vz.refl (r:R ν Z st F H):vz (fS ν st.m) Z H [] (fS ν st.m) Z H:=⟨rfl,Nat.le_refl _,λ_ _ _ _=>rfl,λi h=>⟨h,rfl⟩,λi h=>.inl h,λi h=>.inl h⟩
mutual
theorem EE {d:Nat}:∀{sv:SV},sv.c6 d=true->d∈sv.names
 | .v _,h=>by simp[SV.c6]at h
 | .own e,h=>by simp[SV.c6]at h;simp[SV.names,h]
 | .ptr e _,h=>by simp[SV.c6]at h;simp[SV.names,h]
 | .el e _ _,h=>by simp[SV.c6]at h;simp[SV.names,h]
 | .mp e,h=>by simp[SV.c6]at h;simp[SV.names,h]
 | .clo f a b,h=>by
  simp only[SV.c6,Bool.or_eq_true]at h;simp only[SV.names,List.mem_append];exact h.imp sw sw
 | .tup l,h=>by simp only[SV.c6]at h;simp only[SV.names];exact sw h
 | .agg l,h=>by simp only[SV.c6]at h;simp only[SV.names];exact sw h
 | .yl _,h=>by simp[SV.c6]at h
theorem sw {d:Nat}:∀{l:List SV},SV.dK d l=true->d∈SV.xK l
 | [],h=>by simp[SV.dK]at h
 | x::r,h=>by
  simp only[SV.dK,Bool.or_eq_true]at h;simp only[SV.xK,List.mem_append];exact h.imp EE sw
end
theorem CD {d:Nat}:∀{g:Tb SV} {s:Nat} {sv:SV},bh g s=some sv->sv.c6 d=true->d∈qJ g
 | [],s,sv,h,_=>by simp[bh]at h
 | (k,x)::r,s,sv,h,B=>by
  simp[bh]at h;simp[qJ];split at h
  .simp  at h;subst h;exact .inl (EE B)
  exact .inr (CD h B)
theorem R.Zq (r:R ν Z st F H) {Z2:Nat->Prop} (h1:∀i,Z2 i->¬fS ν st.m i) (G:∀i,Z2 i->(bq H i).isSome=true) (J:Deep H Z2):R ν (λi=>Z i\/Z2 i) st F H:=by
 have w:∀i,Z i->(Z i\/Z2 i)/\bq H i=bq H i:=λi h=>⟨.inl h,rfl⟩
 have z:∀i,Z2 i->(Z i\/Z2 i)/\bq H i=bq H i:=λi h=>⟨.inr h,rfl⟩
 refine⟨λs I L=>(r.slot s I L).mono w λe _=>jm ν st.m e,λd ob hd=>en.mono w rfl (λ_=>rfl) (λe _=>jm ν st.m e) (r.obj d ob hd),r.inj,λd ob hd C hh=>?_,λi hi=>?_,⟨λid es D hi hr c hc u hu=>?_⟩⟩
 .rcases hh with hh|hh
  .exact r.apart d ob hd C hh
  exact h1 _ hh ⟨d,ob,hd,C,rfl⟩
 .exact hi.elim (r.zrow i) (G i)
 rcases hi with hi|hi
 .obtain⟨x,B⟩:=r.deep.row id es D hi hr c hc u hu;exact⟨x,B.mono w⟩
 obtain⟨x,B⟩:=J.row id es D hi hr c hc u hu;exact⟨x,B.mono z⟩
theorem R.XI:∀{ps:List Nat} {xs:List V} {vs:List V} {g:Tb SV} {F:Frame},R ν Z { st with g:=g } F H->dB H Z xs vs->xs.length=ps.length->R ν Z { st with g:=yq g ps (xs.map .v) } (zg ps vs F) H
 | [],xs,vs,g,F,r,h,B=>by
  have  := List.length_eq_zero_iff.1 B;subst this;exact r
 | p::ps,[],vs,g,F,r,h,B=>by simp_all
 | p::ps,x::xs,vs,g,F,r,h,B=>by
  obtain⟨w,z,rfl,h1,u⟩:=h.inv;exact R.XI (ps:=ps) (r.put  (.v _ _ h1)) u Zac
def tN (X:CX) (S:Sys) (ro:Bool) (code:Code) (B:St->Option (Out×St)):Prop:=
 ∀st o st',B st=some (o,st')->∀(J:JT) ν Z F H,Yc S J st.more st.yid->R ν Z st F H->J st.want (fS ν st.m) Z H ->
  ∃n F' H' ν' Z',(∀k,n<=k->exec S.E (run S.E k) k ro X.nt code F H=some (o,F',H'))/\R ν' Z' st' F' H'/\J st'.want (fS ν' st'.m) Z' H'/\Fix ν st ν' st'
def TT (st:St) (m:Tb bJ):St:={ g:=st.g,m:=m,pin:=st.pin++qJ st.g,want:=[],more:=true,yid:=0 }
def JI (X:CX) (st:St) (F:Frame) (ν:Nu) (O0 Z0:Nat->Prop) (H0:bn) (B:Nat) (ps:List Nat) (J U:Code) (step:List V->Tb bJ->Option (Out×Tb bJ)) (o:Out) (G:Tb bJ) (more:Bool):JT:=λw O Z H=>
 ∃m z D u,R z D (TT st m) F H/\vz O0 Z0 H0 [] (fS z m) D H/\(∀i,O i->¬fS z m i/\¬D i/\i≠B/\H0.length<=i)/\(∀i,Z i->¬fS z m i/\i≠B/\(Z0 i\/H0.length<=i)) /\
  ¬fS z m B/\¬D B/\H0.length<=B/\H[B]? = some (.loop u)/\(u.frame=F/\u.nt=X.nt/\u.params=ps/\u.assign=J/\u.body=U) /\
  (∀d∈st.pin++qJ st.g,∀C,bh m d=some C->∃ob,bh st.m d=some ob/\z d=ν d/\sameShape ob C) /\
  ((yf step o G w more m/\u.st=.ready/\u.pend=none)\/(w=[]/\m=G/\u.st=.done/\u.pend=some o))
theorem JI.xu {w:List (List V)} {O Z G Z':Nat->Prop} {H H':bn} {B:Nat} {ps:List Nat} {J U:Code} {step:List V->Tb bJ->Option (Out×Tb bJ)} {o:Out} {W:Tb bJ} {more:Bool}
 (j:JI X st F ν O0 Z0 H0 B ps J U step o W more w O Z H) (Y:H.length<=H'.length) (D:∀i,i<H.length->¬O i->¬Z i->H'[i]? = H[i]?) (hr:∀i,Z i->Z' i/\bq H' i=bq H i)
 (ho:∀i,G i->O i\/H.length<=i) (hz:∀i,Z' i->Z i\/O i\/H.length<=i):JI X st F ν O0 Z0 H0 B ps J U step o W more w G Z' H':=by
 obtain⟨m,S,I,T,r,ej,d1,d2,l1,l2,l3,l4,l5,l6,l7⟩:=j;have u  := λi hi=>D i (r.lt  hi) (λh=>(d1 i h).1 hi) (λh=>(d2 i h).1 hi)
 have z:∀i,I i->bq H' i=bq H i:=λi hi=>by
  by_cases C:Z i
  .grind
  unfold bq;rw[D i (r.xq hi) (λh=>(d1 i h).2.1 hi) C]
 have aa  := (ζe.1 l4).1;refine⟨m,S,I,T,r.heap u z,?_,λi h=>?_,λi h=>?_,l1,l2,l3,?_,l5,l6,l7⟩
 .obtain⟨j1,L,j3,j4,j5,j6⟩:=ej;refine⟨j1,Nat.le_trans L Y,λi h1 h2 Q=>?_,λi h=>⟨(j4 i h).1,by grind⟩,j5,j6⟩
  rw[D i (Nat.lt_of_lt_of_le h1 L) (λh=>by have:=(d1 i h).2.2.2;omega) (λh=>by rcases (d2 i h).2.2 with h|h;exact Q h;omega),j3 i h1 h2 Q]
 .rcases ho i h with h|h
  .exact d1 i h
  exact⟨λhi=>absurd (r.lt  hi) Zaa,λhi=>absurd (r.xq hi) Zaa,by omega,by omega⟩
 .rcases hz i h with h|h|h
  .exact d2 i h
  .exact⟨(d1 i h).1,(d1 i h).2.2.1,.inr (d1 i h).2.2.2⟩
  exact⟨λhi=>absurd (r.lt  hi) Zaa,by omega,.inr Zaa⟩
 grind
theorem JI.yield (S:Sys) {A B:St->Option (Out×St)} {aw bw:Code} (hA:tN X S true aw A) (hB:tN X S true bw B) {D:Nat} {ps:List Nat} (ax:ps.all (·<X.nt)=true) {o:Out} {mf:Tb bJ} {more:Bool}
 {x:List V} {ws:List (List V)} {O Z:Nat->Prop} {H:bn} {args:List V} (j:JI X st F ν O0 Z0 H0 D ps aw bw (jk ps A B st) o mf more (x::ws) O Z H)
 (hx:dB H Z x args) (an:∀i,Z i->(bq H i).isSome=true) (ay:Deep H Z) (aA:∀i,O i->¬Z i/\i<H.length) :
 ∃n H',run S.E n (.yld D) args H=some (.bool (more || !ws.isEmpty),H')/\JI X st F ν O0 Z0 H0 D ps aw bw (jk ps A B st) o mf more ws O Z H'/\H.length<=H'.length/\(∀i,O i->H'[i]? = H[i]?)/\(∀i,Z i->bq H' i=bq H i):=by
 obtain⟨m,νb,Zb,lr,r,ej,d1,d2,l1,l2,l3,l4,⟨q1,q2,q3,q4,q5⟩,l6,l7⟩:=j;have aB:yf (jk ps A B st) o mf (x::ws) more m/\lr.st=.ready/\lr.pend=none:=by
  grind
 obtain⟨hE,T,aC⟩:=aB;have U:∃oo m1,jk ps A B st x m=some (oo,m1)/\(oo=.norm/\yf (jk ps A B st) o mf ws more m1/\(more || !ws.isEmpty)=true\/oo≠.norm/\oo=o/\m1=mf/\ws=[]/\more=false):=by
  cases hE with
  | next _ _ _ _ m1 h hr=>
   refine⟨.norm,m1,h,.inl ⟨rfl,hr,?_⟩⟩;cases hr <;> simp
  | last _ _ h ho=>grind
 obtain⟨oo,m1,w,ab⟩:=U;unfold jk at w;split at w
 .rename_i ad;split at w
  .rename_i ah aD;obtain⟨⟨z,st2⟩,aE,e⟩:=ζf.1 w;simp  at e;obtain⟨rfl,rfl⟩:=e;have aF  := (ζe.1 l4).1;have r1  := r.Zq (λi hi=>(d2 i hi).1) an ay
   have aG:dB H (λi=>Zb i\/Z i) x args:=hx.mono λi hi=>⟨.inr hi,rfl⟩
   have r2:=R.XI (st:=TT st m) r1 aG ad;obtain⟨nA,F2,H2,ν2,Z2,a1,a2,a3,a4⟩:=hA _ _ _ aD (vz (fS νb m) (λi=>Zb i\/Z i) H) νb _ _ H vz.yc r2 (vz.refl  r1)
   obtain⟨b1,b2,b3,b4,b5,b6⟩:=a3;have ai:¬(Zb D\/Z D):=λh=>h.elim l2 λh=>(d2 D h).2.1 rfl
   have ao:H2[D]? = some (.loop lr):=by rw[b3 D aF l1 ai];omega
   have ae:D<H2.length:=by omega
   have W:¬fS ν2 ah.m D:=λh=>(b5 D h).elim l1 λh=>by omega
   have aj:¬Z2 D:=λh=>by rcases b6 D h with h|h|h;exact ai h;exact l1 h;omega
   have u:∀(ob:Ob) (Hh:bn) (i:Nat),i≠D->(Hh.set D ob)[i]? = Hh[i]? := λob Hh i Y=>by rw[List.getElem?_set,if_neg (Ne.symm Y)]
   have r3:R ν2 Z2 ah F2 (H2.set D (.loop { lr with st:=.busy })):=a2.heap (λi hi=>u _ _ i λe=>W (e▸hi)) (λi hi=>by unfold bq;rw[u _ _ i λe=>aj (e▸hi)])
   obtain⟨nB,F4,H4,ν4,Z4,c1,c2,c3,c4⟩:=hB _ _ _ aE (vz (fS ν2 ah.m) Z2 (H2.set D (.loop { lr with st:=.busy }))) ν2 Z2 F2 _ vz.yc r3 (by
    rw[b1];exact vz.refl r3)
   obtain⟨_,g2,g3,g4,g5,g6⟩:=c3;simp  at g2 g3 g5 g6;have ap:H4[D]? = some (.loop { lr with st:=.busy }):=by rw[g3 D ae W aj,List.getElem?_set_self ae]
   have aq:D<H4.length:=by omega
   have ar  := λh=>(g5 D h).elim W λh=>by omega
   have au:¬Z4 D:=λh=>by rcases g6 D h with h|h|h;exact aj h;exact W h;omega
   generalize aa:({ lr with st:=(if z==.norm then CM.ready else CM.done),pend:=(if z==.norm then none else some z) }:wZ)=G;have r5:R ν4 Z4 st2 F4 (H4.set D (.loop G)):=c2.heap (λi hi=>u _ _ i λe=>ar (e▸hi)) (λi hi=>by unfold bq;rw[u _ _ i λe=>au (e▸hi)])
   have L:H.length<=(H4.set D (.loop G)).length:=by simp ;omega
   have ak:∀i,i<H.length->i≠D->¬fS νb m i->¬(Zb i\/Z i)->(H4.set D (.loop G))[i]? = H[i]? := λi h1 J I h4=>by
    rw[u _ _ i J,g3 i Zaa (λh=>(b5 i h).elim I λh=>by omega) (λh=>by rcases b6 i h with h|h|h;exact h4 h;exact I h;omega),u _ _ i J,b3 i h1 I h4]
   have C:∀i,(Zb i\/Z i)->Z4 i/\bq (H4.set D (.loop G)) i=bq H i:=λi hi=>by
    have Y:i≠D:=λe=>ai (e▸hi)
    obtain⟨t1,t2⟩:=b4 i hi;obtain⟨t3,t4⟩:=g4 i t1;refine⟨t3,?_⟩;rw[<-t2];have:bq (H2.set D (.loop { lr with st:=.busy })) i=bq H2 i:=by unfold bq;rw[u _ _ i Y]
    rw[<-this,<-t4];unfold bq;rw[u _ _ i Y]
   have Q:∀i,fS ν4 st2.m i->fS νb m i\/H.length<=i:=λi hi=>by
    rcases g5 i hi with h|h
    .exact b5 i h
    exact .inr Zaa
   have af:∀i,Z4 i->(Zb i\/Z i)\/fS νb m i\/H.length<=i:=λi hi=>by
    rcases g6 i hi with h|h|h
    .exact b6 i h
    .rcases b5 i h with h|h
     .exact .inr (.inl h)
     exact .inr (.inr h)
    exact .inr (.inr Zaa)
   have fx:=a4.trans c4;have r6:R ν4 Z4 (TT st st2.m) F (H4.set D (.loop G)):=⟨λs sv hs=>(r.slot s sv hs).mono (λi hi=>C i (.inl hi)) λd hd al am=>fx.pin d (List.mem_append_right _ (CD hs hd)) al am,r5.obj,r5.inj,r5.apart,r5.zrow,r5.deep⟩
   have av:run S.E (max nA nB+1) (.yld D) args H=some (.bool (z==.norm),H4.set D (.loop G)):=by
    simp only[run,kI,l4];rw[if_pos (by rw[q3];exact⟨by rw[<-hx.1];exact ad,by rw[q2];exact ax⟩)]
    rw[q1,q2,q3,q4,q5];rw[a1 _ (Nat.le_max_left _ _)];simp only[ao,T];rw[c1 _ (Nat.le_max_right _ _)];simp only[ap];rw[<-aa]
   refine⟨max nA nB+1,H4.set D (.loop G),?_,⟨st2.m,ν4,Z4,G,r6,?_,λi hi=>?_,λi hi=>?_,ar,au,l3,?_,?_,λd hd al am=>?_,?_⟩,L,λi hi=>?_,λi hi=>(C i (.inr hi)).2⟩
   .rw[av];rcases ab with⟨h1,_,I⟩|⟨h1,_,_,h4,h5⟩
    .rw[h1,I];rfl
    rw[h4,h5]
    cases aH:z with
    | norm=>exact absurd aH h1
    | _=>rfl
   .obtain⟨j1,j2,j3,j4,j5,j6⟩:=ej;refine⟨rfl,Nat.le_trans j2 L,λi h1 J I=>?_,λi h=>⟨(C i (.inl (j4 i h).1)).1,by rw[(C i (.inl (j4 i h).1)).2,(j4 i h).2]⟩,λi h=>?_,λi h=>?_⟩
    .rw[ak i Zaa Zaa (λh=>by rcases j5 i h with h|h;exact J h;omega) (λh=>by
      rcases h with h|h
      .rcases j6 i h with h|h|h;exact I h;exact J h;omega
      rcases (d2 i h).2.2 with h|h;exact I h;omega),j3 i h1 J I]
    .rcases Q i h with h|h
     .exact j5 i h
     exact .inr Zaa
    rcases af i h with (h|h)|h|h
    .exact j6 i h
    .rcases (d2 i h).2.2 with h|h;exact .inl h;exact .inr (.inr h)
    .rcases j5 i h with h|h;exact .inr (.inl h);exact .inr (.inr h)
    exact .inr (.inr Zaa)
   .obtain⟨t1,t2⟩:=aA i hi;obtain⟨t3,t4,t5,t6⟩:=d1 i hi;refine⟨λh=>(Q i h).elim t3 λh=>by omega,λh=>?_,t5,t6⟩
    rcases af i h with (h|h)|h|h
    .exact t4 h
    .exact t1 h
    .exact t3 h
    omega
   .obtain⟨t1,t2,t3⟩:=d2 i hi;have aJ:i<H.length:=by
     have:=an i hi;unfold bq at this
     cases hh:H[i]? with
     | none=>rw[hh]at this;simp at this
     | some _=>exact(ζe.1 hh).1
    exact⟨λh=>(Q i h).elim t1 λh=>by omega,t2,t3⟩
   .rw[List.getElem?_set_self aq]
   .subst aa;exact⟨q1,q2,q3,q4,q5⟩
   .obtain⟨aI,h1,J,I⟩:=fx.pin d hd al am;obtain⟨ob,k1,k2,k3⟩:=l6 d hd aI h1;exact⟨ob,k1,by rw[J,k2],k3.trans I⟩
   .rcases ab with⟨h1,J,I⟩|⟨h1,J,I,h4,h5⟩
    .left;subst h1;subst aa;exact⟨J,rfl,rfl⟩
    right;subst aa;have hb:¬(z==Out.norm)=true:=by simpa using h1
    refine⟨h4,I,?_,?_⟩
    .show (if(z==Out.norm)=true then CM.ready else CM.done)=CM.done;rw[if_neg hb]
    show (if(z==Out.norm)=true then none else some z)=some o;rw[if_neg hb,J]
   grind
  grind
 grind
end
end Go.VE
