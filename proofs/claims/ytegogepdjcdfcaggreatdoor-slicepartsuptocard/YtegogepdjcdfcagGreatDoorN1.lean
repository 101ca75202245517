/-
 The second layer: named objects in the place of rows; texts, calls, iterators.
-/
import Derived.Test.YtegogepdjcdfcagGreatDoorV2
set_option linter.all false
namespace Go.VE
variable [bK]
inductive Fl where|nil|emp|row|part
 deriving DecidableEq,Inhabited
inductive SV where
 | v (x:V)
 | own (d:Nat)
 | ptr (d off:Nat)
 | el (d i off:Nat)
 | mp (d:Nat)
 | clo (f:FuncId) (a b:List SV)
 | tup (l:List SV)
 | agg (l:List SV)
 | yl (id:Nat)
 deriving Inhabited
inductive bu where
 | sl (k:Fl) (es:Nat) (xs:List (List V))
 | box (cs:List SV)
 | mp (kvs:List (V×V))
 | dp (k:Fl) (xs:List (List V)) (h:Option (Nat×Nat))
abbrev Tb (α:Type):=a_ (Nat×α)
def bh {α:Type}:Tb α->Nat->bf α
 | [],_=>none
 | (k,v)::r,n=>if k=n then some v else bh r n
def bB {α:Type}:Tb α->Nat->α->Tb α
 | [],n,v=>[(n,v)]
 | (k,x)::r,n,v=>if k=n then(k,v)::r else(k,x)::bB r n v
def cB {α:Type} (n:Nat):Tb α->Tb α
 | []=>[]
 | (k,x)::r=>if k=n then cB n r else(k,x)::cB n r
def n_ {α:Type}:a_ Nat->Tb α->Tb α
 | [],g=>g
 | d::ds,g=>n_ ds (cB d g)
def vt {α:Type}:Tb α->a_ Nat->a_ α->Tb α
 | g,p::ps,v::vs=>vt (bB g p v) ps vs
 | g,_,_=>g
def jt {α:Type} (g:Tb α):a_ Nat->bf (Tb α)
 | []=>some []
 | n::r=>match bh g n,jt g r with
  | some v,some t=>some ((n,v)::t)
  | _,_=>none
structure St where
 g:Tb SV
 m:Tb bu
 pin:List Nat
 want:List (List V)
 more:Bool
 yid:Nat
structure Fz where
 part:Bool
 go:Nat->List (List V)->List V->Option (List (List V))
structure Sys where
 E:Env
 N:Nat->FuncId
 items:FuncId->List V->List V->Option (List (List V))
 Aq:FuncId->List V->Option V
 prm:FuncId->Option Fz
inductive Arg where
 | s (n:Nat)
 | k (c:V)
 | f (name:Nat)
inductive Loc where
 | s (n:Nat)
 | c (b i:Nat)
inductive Gh where
 | melt (d:Nat)
 | take (d:Nat) (i:Loc) (es t:Nat)
 | put (d:Nat)
 | close (d:Nat)
 | closeB (d:Nat)
 | canon (l:Loc) (d:Nat) (es:Nat)
 | keep (gs ms:List Nat)
 | drop (ds:List Nat)
 | closeS (l:Loc)
structure RO where
 dst:Option Nat
 gd:Option (Nat×Bool)
 now:Bool
 k:K
 az:List Arg
 dead:List Nat:=[]
 pre:List Gh:=[]
inductive RC where
 | skip
 | ops (l:List RO)
 | qO (l:List RO)
 | seq (a b:RC)
 | cond (x:Arg) (a b:RC)
 | block (id:Nat) (c:RC)
 | loop (c:RC)
 | each (g:Arg) (ps:List Nat) (a b:RC)
 | exit (id:Nat)
 | ret
 | gh (x:Gh) (c:RC)
 | hg (c:RC) (x:Gh)
inductive RV where
 | s (n:Nat)
 | ld (n size:Nat) (agg:Bool)
structure RF where
 na:Nat
 rs:List RV
 body:RC
mutual
def SV.cw (d:Nat):SV->Bool
 | .v _=>false
 | .own e=>e==d
 | .ptr e _=>e==d
 | .el e _ _=>e==d
 | .mp e=>e==d
 | .clo _ a b=>SV.c9 d a||SV.c9 d b
 | .tup l=>SV.c9 d l
 | .agg l=>SV.c9 d l
 | .yl _=>false
def SV.c9 (d:Nat):a_ SV->Bool
 | []=>false
 | x::r=>SV.cw d x||SV.c9 d r
end
def bu.cw (d:Nat):bu->Bool
 | .box cs=>SV.c9 d cs
 | .dp _ _ (some (_,t))=>t==d
 | _=>false
def sV (d:Nat):Tb SV->Bool
 | []=>false
 | (_,x)::r=>SV.cw d x||sV d r
def qU (d:Nat):Tb bu->Bool
 | []=>false
 | (_,x)::r=>bu.cw d x||qU d r
def St.new (st:St) (d:Nat):Bool := !(st.pin.contains d)&&(bh st.m d).isNone && !(sV d st.g) && !(qU d st.m)
mutual
def SV.qJ (d e:Nat):SV->SV
 | .v x=>.v x
 | .own k=>.own (if k=d then e else k)
 | .ptr k o=>.ptr (if k=d then e else k) o
 | .el k i o=>.el (if k=d then e else k) i o
 | .mp k=>.mp (if k=d then e else k)
 | .clo f a b=>.clo f (SV.tR d e a) (SV.tR d e b)
 | .tup l=>.tup (SV.tR d e l)
 | .agg l=>.agg (SV.tR d e l)
 | .yl id=>.yl id
def SV.tR (d e:Nat):a_ SV->a_ SV
 | []=>[]
 | x::r=>SV.qJ d e x::SV.tR d e r
end
def bu.qJ (d e:Nat):bu->bu
 | .box cs=>.box (SV.tR d e cs)
 | .dp k xs (some (i,t))=>.dp k xs (some (i,if t=d then e else t))
 | o=>o
def yE (d e:Nat):Tb SV->Tb SV
 | []=>[]
 | (n,x)::r=>(n,x.qJ d e)::yE d e r
def tL (d e:Nat):Tb bu->Tb bu
 | []=>[]
 | (n,x)::r=>((if n=d then e else n),x.qJ d e)::tL d e r
mutual
def SV.sub (d:Nat) (w:V):SV->SV
 | .own k=>if k=d then .v w else .own k
 | .clo f a b=>.clo f (SV.rI d w a) (SV.rI d w b)
 | .tup l=>.tup (SV.rI d w l)
 | .agg l=>.agg (SV.rI d w l)
 | x=>x
def SV.rI (d:Nat) (w:V):a_ SV->a_ SV
 | []=>[]
 | x::r=>SV.sub d w x::SV.rI d w r
end
def cT:a_ SV->bf (a_ V)
 | []=>some []
 | .v x::r=>(cT r).map (x::·)
 | _::_=>none
def Nc (f:FuncId) (a b:a_ SV):SV:=
 match cT a,cT b with
 | some x,some y=>.v (.clo f x y)
 | _,_=>.clo f a b
mutual
def SV.A1 (d:Nat) (cs:a_ V):SV->SV
 | .ptr k o=>if k=d then(if o<=cs.length then .v (.fptr (cs.drop o))else .ptr k o)else .ptr k o
 | .clo f a b=>Nc f (SV.pS d cs a) (SV.pS d cs b)
 | .tup l=>.tup (SV.pS d cs l)
 | .agg l=>.agg (SV.pS d cs l)
 | x=>x
def SV.pS (d:Nat) (cs:a_ V):a_ SV->a_ SV
 | []=>[]
 | x::r=>SV.A1 d cs x::SV.pS d cs r
end
def xP (f:SV->SV):Tb SV->Tb SV
 | []=>[]
 | (n,x)::r=>(n,f x)::xP f r
def mapM (f:a_ SV->a_ SV):Tb bu->Tb bu
 | []=>[]
 | (n,.box cs)::r=>(n,.box (f cs))::mapM f r
 | (n,o)::r=>(n,o)::mapM f r
mutual
def SV.names:SV->a_ Nat
 | .own d|.ptr d _|.el d _ _|.mp d=>[d]
 | .clo _ a b=>SV.uH a++SV.uH b
 | .tup l=>SV.uH l
 | .agg l=>SV.uH l
 | _=>[]
def SV.uH:a_ SV->a_ Nat
 | []=>[]
 | x::r=>SV.names x++SV.uH r
end
def ox:Tb SV->a_ Nat
 | []=>[]
 | (_,x)::r=>SV.names x++ox r
def iY (k:Fl) (es:Nat) (xs:a_ (a_ V)):V:=
 match k with
 | .nil=>.bE
 | .emp=>.c7
 | _=>.fsl es xs
mutual
def V.lvl:Nat->V->Bool
 | n,.fsl _ xs=>match n with|0=>false|n+1=>V.og n xs
 | n,.fptr cs=>match n with|0=>false|n+1=>V.kD n cs
 | n,.fmap u=>match n with|0=>false|n+1=>V.qX n u
 | n,.agg cs=>match n with|0=>false|n+1=>V.kD n cs
 | n,.tup cs=>match n with|0=>false|n+1=>V.kD n cs
 | n,.clo _ a b=>match n with|0=>false|n+1=>V.kD n a&&V.kD n b
 | _,_=>true
def V.kD:Nat->a_ V->Bool
 | _,[]=>true
 | n,x::r=>V.lvl n x&&V.kD n r
def V.og:Nat->a_ (a_ V)->Bool
 | _,[]=>true
 | n,x::r=>V.kD n x&&V.og n r
def V.qX:Nat->a_ (V×V)->Bool
 | _,[]=>true
 | n,(k,x)::r=>V.lvl n k&&V.lvl n x&&V.qX n r
end
mutual
def shut (m:Tb bu):Nat->SV->bf V
 | _,.v x=>some x
 | _,.own d=>match bh m d with
  | some (.sl k es xs)=>some (iY k es xs)
  | some (.dp k xs none)=>some (iY k 1 xs)
  | _=>none
 | n+1,.ptr d o=>match bh m d with
  | some (.box cs)=>match cO m n cs with
   | some xs=>if o<=xs.length then some (.fptr (xs.drop o))else none
   | none=>none
  | _=>none
 | _,.mp d=>match bh m d with
  | some (.mp u)=>some (.fmap u)
  | _=>none
 | n+1,.clo f a b=>match cO m n a,cO m n b with
  | some x,some y=>some (.clo f x y)
  | _,_=>none
 | n+1,.tup l=>(cO m n l).map .tup
 | n+1,.agg l=>(cO m n l).map .agg
 | _,_=>none
def cO (m:Tb bu):Nat->a_ SV->bf (a_ V)
 | _,[]=>some []
 | n,x::r=>match shut m n x,cO m n r with
  | some y,some s=>some (y::s)
  | _,_=>none
end
end Go.VE
namespace Go.VE
variable [bK]
mutual
def V.good:V->Bool
 | .hsl ..|.hptr ..|.yld ..|.hmap ..=>false
 | .fsl _ xs=>V.lQ xs
 | .fptr cs=>V.cN cs
 | .fmap u=>V.qK u
 | .clo _ a b=>V.cN a&&V.cN b
 | .agg cs=>V.cN cs
 | .tup cs=>V.cN cs
 | _=>true
def V.cN:a_ V->Bool
 | []=>true
 | x::r=>V.good x&&V.cN r
def V.lQ:a_ (a_ V)->Bool
 | []=>true
 | x::r=>V.cN x&&V.lQ r
def V.qK:a_ (V×V)->Bool
 | []=>true
 | (k,x)::r=>V.good k&&V.good x&&V.qK r
end
abbrev c8:=Tb bu
abbrev bN:=FuncId->a_ SV->c8->bf (a_ SV×c8)
def pn (N:Nat->FuncId) (g:Tb SV):Arg->bf SV
 | .s n=>bh g n
 | .k c=>some (.v c)
 | .f s=>some (.v (.clo (N s) [] []))
def bQ (N:Nat->FuncId) (g:Tb SV):a_ Arg->bf (a_ SV)
 | []=>some []
 | x::r=>match pn N g x,bQ N g r with
  | some v,some vs=>some (v::vs)
  | _,_=>none
def bR:Fl->Bool
 | .row|.part=>true
 | _=>false
def jX (m:Tb bu):SV->Bool
 | .own d|.ptr d _|.el d _ _|.mp d=>(bh m d).isSome
 | .clo ..=>true
 | _=>false
def vv (m:Tb bu):SV->Bool
 | .v x=>x.one
 | x=>jX m x
def wu (m:Tb bu):SV->bf (a_ SV)
 | .v x=>some (x.cells.map .v)
 | .agg l=>some l
 | x=>if jX m x then some [x]else none
def qN (m:Tb bu) (cells:a_ SV):a_ (Nat×Nat)->a_ SV->bf (a_ SV)
 | [],[]=>some cells
 | (off,size)::pl,v::vs=>match wu m v with
  | some c=>if c.length=size/\off+c.length<=cells.length then qN m (cells.take off++c++cells.drop (off+c.length)) pl vs else none
  | none=>none
 | _,_=>none
def uf (size:Nat) (agg:Bool) (cs:a_ SV):bf SV:=
 if cs.length=size then
  if agg then match cT cs with
   | some t=>some (.v (.agg t))
   | none=>some (.agg cs)
  else match cs with
   | [x]=>some x
   | _=>none
 else none
def vh (N:Nat->FuncId) (m:Tb bu):tU->a_ SV->bf SV
 | .id,[x]=>some x
 | .nilc,[.ptr d o]=>if(bh m d).isSome then some (.ptr d o)else none
 | .nilc,[.el d i o]=>if(bh m d).isSome then some (.el d i o)else none
 | .pick,[.v (.bool t),a,b]=>some (if t then a else b)
 | .bin (some .slice) _ .eql,[.own d,.v .bE]=>match bh m d with
  | some (.sl k _ _)=>if k=.emp then none else some (.v (.bool (k==.nil)))
  | _=>none
 | .bin (some .slice) _ .neq,[.own d,.v .bE]=>match bh m d with
  | some (.sl k _ _)=>if k=.emp then none else some (.v (.bool (!(k==.nil))))
  | _=>none
 | .fieldAddr off,[.ptr d o]=>if(bh m d).isSome then some (.ptr d (o+off))else none
 | .fieldAddr off,[.el d i o]=>if(bh m d).isSome then some (.el d i (o+off))else none
 | .idxS size,[.own d,.v (.int _ i)]=>match bh m d with
  | some (.sl k es xs)=>if bR k/\es=size/\0<=i/\i.toNat<xs.length then some (.el d i.toNat 0)else none
  | some (.dp k xs _)=>if bR k/\1=size/\0<=i/\i.toNat<xs.length then some (.el d i.toNat 0)else none
  | _=>none
 | .idxA len size,[.ptr d o,.v (.int _ i)]=>if 0<=i/\i<len/\(bh m d).isSome then some (.ptr d (o+i.toNat*size))else none
 | .idxA len size,[.el d j o,.v (.int _ i)]=>if 0<=i/\i<len/\(bh m d).isSome then some (.el d j (o+i.toNat*size))else none
 | .lenSl,[.own d]=>match bh m d with
  | some (.sl _ _ xs)=>some (.v (.int .i64 xs.length))
  | some (.dp _ xs _)=>some (.v (.int .i64 xs.length))
  | _=>none
 | .clo name k,vs=>some (.clo (N name) (vs.take k) (vs.drop k))
 | .ext i,[.tup l]=>l[i]?
 | .build zero pl,vs=>(qN m (zero.map .v) pl vs).map .agg
 | .field off size agg,[.agg l]=>uf size agg ((l.drop off).take size)
 | _,_=>none
def iJ (N:Nat->FuncId) (m:Tb bu) (p:tU) (svs:a_ SV):bf SV:=
 match cT svs with
 | some t=>(bP N p t).map .v
 | none=>vh N m p svs
def Ka (m:Tb bu) (d:Nat):SV->Bool
 | .ptr u _=>u != d&&(match bh m u with|some (.box _)=>true|_=>false)
 | .v (.fptr _)=>true
 | _=>false
def n5 (m:Tb bu):IE->a_ SV->bf SV
 | .load size agg,[.ptr d o]=>match bh m d with
  | some (.box cs)=>uf size agg ((cs.drop o).take size)
  | _=>none
 | .load size agg,[.el d i o]=>match bh m d with
  | some (.sl _ _ xs)=>match xs[i]? with
   | some cs=>((cut cs o size).bind (mk agg)).map .v
   | none=>none
  | some (.dp _ _ (some (j,t)))=>if j=i/\o=0/\size=1/\agg=false then some (.own t)else none
  | _=>none
 | .load size agg,[.v p]=>((dV [] p size).bind (mk agg)).map .v
 | .lookup kk z ok,[.mp d,.v k]=>match bh m d with
  | some (.mp u)=>if oC kk k then match gN k u 0 with
   | some (some (_,v))=>some (.v (if ok then .tup [v,.bool true]else v))
   | some none=>some (.v (if ok then .tup [z,.bool false]else z))
   | none=>none
   else none
  | _=>none
 | .lookup kk z ok,[.v p,.v k]=>(eF [] (.lookup kk z ok) [p,k]).map .v
 | .loadF size agg,.ptr d o::l=>if l.all (Ka m d)=true then match bh m d with
  | some (.box cs)=>uf size agg ((cs.drop o).take size)
  | _=>none
  else none
 | _,_=>none
def eB (fr:a_ Nat):a_ SV->Bool
 | []=>true
 | .v _::r=>eB fr r
 | .ptr d _::r => !(fr.contains d)&&eB fr r
 | .el d _ _::r => !(fr.contains d)&&eB fr r
 | .mp d::r => !(fr.contains d)&&eB fr r
 | _=>false
def lR (m:Tb bu) (a:KN) (svs:a_ SV) (d:Nat):bf (bu×SV):=
 match a,svs with
 | .alloc _ zero,[]=>some (.box (zero.map .v),.ptr d 0)
 | .box,[.v x]=>if x.cells.all V.one then some (.box (x.cells.map .v),.ptr d 0)else none
 | .box,[.agg l]=>if l.all (vv m)then some (.box l,.ptr d 0)else none
 | .box,[x]=>if jX m x then some (.box [x],.ptr d 0)else none
 | .makeSl size zero,[.v (.int k n),.v (.int z c)]=>
  if k=.i64/\z=.i64/\0<=n/\n<=c/\c<=2147483648 then some (.sl (if n=c then .row else .part) size (List.replicate n.toNat zero),.own d)else none
 | .buildSl size len zero idx,u=>match cT u with
  | some w=>if idx.length=w.length then(eP size (List.replicate len zero) (idx.zip w)).map λB=>(.sl .row size B,.own d)else none
  | none=>match u,zero with
   | [.own t],[.bE]=>if idx=[0]/\len=1/\size=1/\(bh m t).isSome then some (.dp .row [[.bE]] (some (0,t)),.own d)else none
   | _,_=>none
 | .makeMap,[]=>some (.mp [],.mp d)
 | _,_=>none
def gW (m:Tb bu) (size:Nat):SV->bf (a_ (a_ V))
 | .own d=>match bh m d with
  | some (.sl k es xs)=>if bR k then(if es=size then some xs else none)else some []
  | _=>none
 | .v .bE=>some []
 | .v .c7=>some []
 | .v (.fsl es xs)=>if es=size then some xs else none
 | _=>none
def Az:SV->Bool
 | .own _|.v .bE|.v .c7=>true
 | _=>false
def putCells (m:Tb bu) (size o:Nat) (sv:SV) (cs:a_ SV):bf (a_ SV):=
 match sv with
 | .v x=>if x.cells.length=size/\o+size<=cs.length/\x.cells.all V.one=true then some (cs.take o++x.cells.map .v++cs.drop (o+size))else none
 | .agg l=>if l.length=size/\o+size<=cs.length/\l.all (vv m)=true then some (cs.take o++l++cs.drop (o+size))else none
 | x=>if jX m x=true/\size=1/\o+1<=cs.length then some (cs.take o++[x]++cs.drop (o+1))else none
def giveUp (m:Tb bu):SV->Tb bu
 | .own d=>cB d m
 | _=>m
def uU (d:Nat) (st:St):bf St:=
 match bh st.m d with
 | some (.dp k w (some (i,t)))=>match bh st.m t with
  | some (.sl u es z)=>if u≠.part/\t≠d/\bR k=true then some { st with m:=bB (cB t st.m) d (.dp k (w.set i [iY u es z]) none) } else none
  | _=>none
 | none=>some st
 | _=>none
def sP (st:St) (dst:bf Nat) (size:Nat) (s x:SV):bf (SV×St):=
 match s,x,dst with
 | .own d,.own e,some t=>match bh st.m d,bh st.m e with
  | some (.dp k w none),some (.dp .row u none)=>
   if size=1/\d≠e/\u≠[]/\w.length+u.length<=2147483648 then
    let z:=cB e (cB d st.m)
    if St.new { st with m:=z } t then some (.own t,{ st with m:=bB z t (.dp .row (w++u) none) })else none
   else none
  | _,_=>none
 | _,_,_=>none
def uJ (st:St) (dst:bf Nat) (size:Nat) (s x:SV):bf (SV×St):=
 match x with
 | .own e=>match bh st.m e with
  | some (.dp _ _ (some _))=>match uU e st with
   | some t=>sP t dst size s (.own e)
   | none=>none
  | _=>sP st dst size s (.own e)
 | _=>none
def gB (st:St) (dst:bf Nat):IG->a_ SV->bf (SV×St)
 | .store size,[.ptr d o,x]=>match bh st.m d with
  | some (.box cs)=>(putCells st.m size o x cs).map λcs=>(.v .undef,{ st with m:=bB st.m d (.box cs) })
  | _=>none
 | .store size,[.el d i o,.v x]=>match bh st.m d with
  | some (.sl k es xs)=>match xs[i]? with
   | some cs=>if x.cells.length=size/\o+size<=cs.length/\x.cells.all V.one=true then
    some (.v .undef,{ st with m:=bB st.m d (.sl k es (xs.set i (cs.take o++x.cells++cs.drop (o+x.cells.length)))) })else none
   | none=>none
  | _=>none
 | .store size,[.el d i o,.own t]=>match bh st.m d with
  | some (.dp k xs (some (j,_)))=>if j=i/\o=0/\size=1/\(bh st.m t).isSome/\t≠d then some (.v .undef,{ st with m:=bB st.m d (.dp k xs (some (i,t))) })else none
  | _=>none
 | .mapUp kk,[.mp d,.v k,.v x]=>match bh st.m d with
  | some (.mp u)=>if oC kk k then(ot k x u).map λu=>(.v .undef,{ st with m:=bB st.m d (.mp u) })else none
  | _=>none
 | .append size,[s,x]=>match gW st.m size s,gW st.m size x with
  | some _,some []=>match dst with
   | some t=>match s with
    | .own d=>match bh st.m d with
     | some ob=>if St.new { st with m:=cB d st.m } t then some (.own t,{ st with m:=bB (cB d st.m) t ob })else none
     | none=>none
    | .v .bE=>if st.new t then some (.own t,{ st with m:=bB st.m t (.sl .nil size []) })else none
    | .v .c7=>if st.new t then some (.own t,{ st with m:=bB st.m t (.sl .emp size []) })else none
    | _=>none
   | none=>none
  | some xs,some ys=>
   if xs.length+ys.length<=2147483648/\Az s=true then
    let m1:=giveUp st.m s
    match dst with
    | some t=>if St.new { st with m:=m1 } t then some (.own t,{ st with m:=bB m1 t (.sl .row size (xs++ys)) })else none
    | none=>none
   else none
  | _,_=>uJ st dst size s x
 | .storeF size,.ptr d o::x::l=>if l.all (Ka st.m d)=true then match bh st.m d with
  | some (.box cs)=>(putCells st.m size o x cs).map λcs=>(.v .undef,{ st with m:=bB st.m d (.box cs) })
  | _=>none
  else none
 | _,_=>none
def yb (st:St) (dst:bf Nat) (size:Nat) (B D:Bool) (d:Nat) (G:a_ SV):bf (SV×St):=
 match bh st.m d,cT G,dst with
 | some (.sl k es u),some z,some t=>
  if bR k=true/\es=size then
   (l8 B D z).bind λ(l,h)=>(dD u.length l h).bind λ(l,h)=>
    let w:=cB d st.m
    if St.new { st with m:=w } t then some (.own t,{ st with m:=bB w t (.sl .part es ((u.take h).drop l)) })else none
  else none
 | _,_,_=>none
def zG:a_ SV->SV
 | [x]=>x
 | l=>.tup l
mutual
def SV.Ab:SV->a_ Nat
 | .v _=>[]
 | .own e=>[e]
 | .ptr e _=>[e]
 | .el e _ _=>[e]
 | .mp e=>[e]
 | .clo _ a b=>SV.rN a++SV.rN b
 | .tup l=>SV.rN l
 | .agg l=>SV.rN l
 | .yl _=>[]
def SV.rN:a_ SV->a_ Nat
 | []=>[]
 | x::r=>SV.Ab x++SV.rN r
end
def bu.Ab:bu->a_ Nat
 | .box cs=>SV.rN cs
 | .dp _ _ (some (_,t))=>[t]
 | _=>[]
def reach (m:Tb bu):Nat->a_ Nat->a_ Nat->a_ Nat
 | 0,_,seen=>seen
 | _+1,[],seen=>seen
 | n+1,d::r,seen=>if seen.contains d then reach m n r seen else reach m n ((match bh m d with|some ob=>bu.Ab ob|none=>[])++r) (seen++[d])
def handed (m:Tb bu) (l:a_ SV):bf c8:=jt m (reach m 32 (SV.rN l) [])
mutual
def SV.bare:SV->Bool
 | .v x=>x.scalar
 | .clo _ a b=>SV.vo a&&SV.vo b
 | .tup l=>SV.vo l
 | .agg l=>SV.vo l
 | _=>true
def SV.vo:a_ SV->Bool
 | []=>true
 | x::r=>SV.bare x&&SV.vo r
end
def bu.bare:bu->Bool
 | .box cs=>SV.vo cs
 | _=>false
def vW (m:Tb bu) (k:Nat):Bool:=match bh m k with
 | some ob=>ob.bare
 | none=>true
def within (u:a_ Nat) (ob:bu):Bool:=ob.Ab.all u.contains
def xC (u:a_ Nat) (m':c8):a_ Nat->Tb bu->bf (Tb bu)
 | [],m=>some m
 | d::r,m=>match bh m' d with
  | some ob=>if within u ob then xC u m' r (bB m d ob)else none
  | none=>none
def kf (m':c8) (l:a_ Nat) (m:Tb bu):bf (Tb bu):=xC l m' l m
def nv (xs:a_ (a_ V)):Bool:=xs.all λx=>x.all V.scalar
def Dd (q:Fz) (dst:bf Nat) (args:a_ SV) (st:St):bf (SV×St):=
 match args with
 | .own d::z=>match bh st.m d,cT z with
  | some (.sl k es u),some B=>match q.go es u B with
   | some w=>if q.part then match dst with
    | some t=>if St.new { st with m:=cB d st.m } t then some (.own t,{ st with m:=bB (cB d st.m) t (if bR k then .sl .part es w else .sl k es u) })else none
    | none=>none
    else some (.v .undef,{ st with m:=bB st.m d (if bR k then .sl k es w else .sl k es u) })
   | none=>none
  | _,_=>none
 | _=>none
def rowsOf (m:Tb bu):a_ SV->bf (a_ Nat)
 | []=>some []
 | .v _::r=>rowsOf m r
 | .own d::r=>match bh m d with
  | some (.sl ..)=>(rowsOf m r).map (d::·)
  | _=>none
 | _=>none
def GM (S:Sys) (c:bN) (f:FuncId) (args:a_ SV) (st:St):bf (SV×St):=
 match cO st.m 8 args with
 | some az=>match c f (az.map .v) []with
  | some (rs,m')=>match cO m' 8 rs with
   | some t=>if(result t).scalar||(cT args).isSome then some (.v (result t),st)else none
   | none=>none
  | none=>none
 | none=>none
def eO (S:Sys) (c:bN) (dst:bf Nat) (dr now:Bool) (old:a_ SV->Bool) (f:FuncId) (args:a_ SV) (st:St):bf (SV×St):=
 if S.E.keep f then
  if now then
   if S.E.own f then
    match cO st.m 8 args with
    | some az=>
     match c f (az.map .v) []with
     | some (rs,m')=>match cT rs with
      | some u=>if(result u).scalar then some (.v (result u),st)else none
      | none=>match rs,dst with
       | .own e::rest,some t=>match bh m' e,cT rest with
        | some (.sl .row es z),some u=>
         if V.cQ u&&nv z&&st.new t then
          some (zG (.own t::u.map .v),{ st with m:=bB st.m t (.sl .row es z) })
         else none
        | some (.sl .nil es _),some u=>if V.cQ u&&st.new t then some (zG (.own t::u.map .v),{ st with m:=bB st.m t (.sl .nil es []) })else none
        | some (.sl .emp es _),some u=>if V.cQ u&&st.new t then some (zG (.own t::u.map .v),{ st with m:=bB st.m t (.sl .emp es []) })else none
        | _,_=>none
       | _,_=>none
     | none=>none
    | none=>none
   else if dr&&S.E.soft f then GM S c f args st
   else match S.prm f with
    | some q=>if dr then none else Dd q dst args st
    | none=>match handed st.m args with
    | some os=>match c f args os with
     | some (rs,m')=>match cT rs,kf m' (os.map (·.1)) st.m with
      | some u,some w=>if dr && !(V.cQ u&&os.all λx=>vW w x.1)then none else some (.v (result u),{ st with m:=w })
      | none,some w=>if dr then none else match rs,dst with
       | .own e::rest,some t=>match bh m' e,cT rest with
        | some (.sl k es z),some u=>if !(os.map (·.1)).contains e&&St.new { st with m:=w } t then some (zG (.own t::u.map .v),{ st with m:=bB w t (.sl k es z) })else none
        | _,_=>none
       | .v p::.own e::rest,some t=>match bh m' e,cT rest with
        | some (.sl k es z),some u=>if !(os.map (·.1)).contains e&&St.new { st with m:=w } t then some (.tup (.v p::.own t::u.map .v),{ st with m:=bB w t (.sl k es z) })else none
        | _,_=>none
       | _,_=>none
      | _,_=>none
     | none=>none
    | none=>none
  else if(S.E.own f||S.E.soft f)&&old args then match cO st.m 8 args with
   | some az=>match c f (az.map .v) []with
    | some (rs,m')=>match cO m' 8 rs with
     | some u=>if(result u).scalar||(cT args).isSome then some (.v (result u),st)else none
     | none=>none
    | none=>none
   | none=>none
  else none
 else match cO st.m 8 args with
  | some az=>if now||old args then
   match c f (az.map .v) []with
   | some (rs,m')=>match cO m' 8 rs with
    | some u=>if(result u).scalar||(cT args).isSome then some (.v (result u),st)
     else if now then(rowsOf st.m args).map λds=>(.v (result u),{ st with m:=n_ ds st.m })
     else none
    | none=>none
   | none=>none
   else none
  | none=>none
def eM (m:Tb bu) (fr:a_ Nat) (args:a_ SV):Bool:=fr.all λd => !(SV.c9 d args) && !(qU d m)
def zD:K->Bool
 | .p (.build zero _)=>V.cN zero
 | .r (.lookup _ z _)=>z.good
 | .a (.alloc _ zero)=>V.cN zero&&zero.all V.one
 | .a (.makeSl _ zero)=>V.cN zero
 | .a (.buildSl _ _ zero _)=>V.cN zero
 | _=>true
def kF (S:Sys) (c:bN) (dr:Bool) (fr:a_ Nat) (o:RO) (st:St):bf (SV×St):=
 match bQ S.N st.g o.az with
 | some t=>match o.k with
  | .p (.slice size w z)=>match t with
   | .own d::B=>if dr then none else yb st o.dst size w z d B
   | t=>(iJ S.N st.m (.slice size w z) t).map λx=>(x,st)
  | .p p=>(iJ S.N st.m p t).map λx=>(x,st)
  | .r r=>if !dr||o.now||eB fr t then(n5 st.m r t).map λx=>(x,st)else none
  | .a a=>match o.dst with
   | some d=>if st.new d then(lR st.m a t d).map λ(ob,x)=>(x,{ st with m:=bB st.m d ob })else none
   | none=>none
  | .l l=>if !dr||o.now then gB st o.dst l t else none
  | .c=>match t with
   | .clo f a b::u=>eO S c o.dst dr (!dr||o.now) (eM st.m fr) f (a++u++b) st
   | .v (.clo f a b)::u=>eO S c o.dst dr (!dr||o.now) (eM st.m fr) f (a.map .v++u++b.map .v) st
   | _=>none
  | .b=>if dr then none else match t with
   | [x]=>(gW st.m 1 x).bind λC=>(oH C).map λl=>(.v (.str (JB l)),st)
   | _=>none
  | .e n=>match t with
   | [.v .bE,x]=>gB st o.dst (.append n) [.v .bE,x]
   | [.v .c7,x]=>gB st o.dst (.append n) [.v .c7,x]
   | _=>none
 | none=>none
def cU (st:St) (dst:bf Nat) (x:SV):St:=
 match dst with
 | none=>st
 | some d=>{ st with g:=bB st.g d x }
def wanted (g:Tb SV):bf (Nat×Bool)->bf Bool
 | none=>some true
 | some (s,b)=>match bh g s with
  | some (.v (.bool c))=>some (c==b)
  | some (.v _)=>some false
  | _=>none
def w8 (o:RO):bf Nat:=
 match o.k with
 | .p _|.r _=>none
 | _=>o.dst
def pG (fr:a_ Nat) (o:RO):a_ Nat:=
 match w8 o with
 | some d=>d::fr
 | none=>fr
def bq (H:bp) (id:Nat):bf (Nat×a_ (a_ V)):=(H[id]?).bind Ob.rows
mutual
theorem V.l_:∀{x:V},x.good=true->x.closed=true
 | .hsl ..,h|.hptr ..,h|.yld _,h|.hmap _,h=>by simp[V.good]at h
 | .fsl ..,_|.fptr ..,_|.fmap ..,_=>rfl
 | .bool _,_|.int ..,_|.str _,_|.c7,_|.bE,_|.gu,_|.fQ,_|.qD,_=>rfl
 | .clo _ a b,h=>by
  simp only[V.good,ζh]at h;simp only[V.closed,ζh];exact⟨V.mo h.1,V.mo h.2⟩
 | .agg cs,h=>by simp only[V.good]at h;simp only[V.closed];exact V.mo h
 | .tup cs,h=>by simp only[V.good]at h;simp only[V.closed];exact V.mo h
theorem V.mo:∀{l:a_ V},V.cN l=true->V.gy l=true
 | [],_=>rfl
 | x::r,h=>by
  simp only[V.cN,ζh]at h;simp only[V.gy,ζh];exact⟨V.l_ h.1,V.mo h.2⟩
end
theorem iw:∀{l:a_ V},V.cN l=true↔∀(j:Nat) u,l[j]? = some u->u.good=true
 | []=>by simp[V.cN]
 | x::l=>by
  simp[V.cN,iw ];constructor
  .grind
  intro h;exact⟨h 0 x rfl,λj u hu=>h (j+1) u Zd⟩
theorem jJ:∀{l:a_ (a_ V)},V.lQ l=true↔∀(j:Nat) u,l[j]? = some u->V.cN u=true
 | []=>by simp[V.lQ]
 | x::l=>by
  simp[V.lQ,jJ ];constructor
  .grind
  intro h;exact⟨h 0 x rfl,λj u hu=>h (j+1) u Zd⟩
theorem D7:∀{l:a_ (V×V)},V.qK l=true↔∀(j:Nat) u,l[j]? = some u->u.1.good=true/\u.2.good=true
 | []=>by simp[V.qK]
 | (k,x)::l=>by
  simp only[V.qK,ζh,D7 ];constructor
  .grind
  intro h;exact⟨h 0 (k,x) rfl,λj u hu=>h (j+1) u Zd⟩
theorem xD {l:a_ V} (n:Nat) (h:V.cN l=true):V.cN (l.drop n)=true:=
 iw.2 λj u hu=>iw.1 h (n+j) u Zd
inductive FR (H:bp) (Z:Nat->Prop):V->V->Prop
 | same (x:V) (h:x.good=true):FR H Z x x
 | fsl (es:Nat) (xs:List (List V)) (id off:Nat) (ys:List (List V)) (hz:Z id) (hr:bq H id=some (es,ys)) (hl:off+xs.length<=ys.length)
  (hc:∀(i:Nat) a b,xs[i]? = some a->ys[off+i]? = some b->a.length=b.length)
  (hv:∀(i j:Nat) a b u v,xs[i]? = some a->ys[off+i]? = some b->a[j]? = some u->b[j]? = some v->FR H Z u v):FR H Z (.fsl es xs) (.hsl id es off xs.length)
 | fptr (xs:List V) (id el off es:Nat) (ys:List (List V)) (cs:List V) (hz:Z id) (hr:bq H id=some (es,ys)) (he:ys[el]? = some cs) (ho:off<=cs.length) (hx:xs.length=cs.length-off)
  (hv:∀(j:Nat) u v,xs[j]? = some u->cs[off+j]? = some v->FR H Z u v):FR H Z (.fptr xs) (.hptr id el off)
 | clo (f:FuncId) (a b a' b':List V) (ha:a.length=a'.length) (hb:b.length=b'.length) (hva:∀(j:Nat) u v,a[j]? = some u->a'[j]? = some v->FR H Z u v) (hvb:∀(j:Nat) u v,b[j]? = some u->b'[j]? = some v->FR H Z u v):FR H Z (.clo f a b) (.clo f a' b')
 | agg (a a':List V) (ha:a.length=a'.length) (hva:∀(j:Nat) u v,a[j]? = some u->a'[j]? = some v->FR H Z u v):FR H Z (.agg a) (.agg a')
 | tup (a a':List V) (ha:a.length=a'.length) (hva:∀(j:Nat) u v,a[j]? = some u->a'[j]? = some v->FR H Z u v):FR H Z (.tup a) (.tup a')
def c_ (H:bp) (Z:Nat->Prop) (xs ys:a_ V):Prop:=xs.length=ys.length/\∀(j:Nat) u v,xs[j]? = some u->ys[j]? = some v->FR H Z u v
def fm (H:bp) (Z:Nat->Prop) (xs ys:a_ (a_ V)):Prop:=xs.length=ys.length/\∀(j:Nat) u v,xs[j]? = some u->ys[j]? = some v->c_ H Z u v
section
variable {H H':bp} {Z Z':Nat->Prop}
theorem FR.mono (h:∀id,Z id->Z' id/\bq H' id=bq H id) {x y:V} (r:FR H Z x y):FR H' Z' x y:=by
 induction r with
 | same x h=>exact .same x h
 | fsl es z id off B C hr I hc hv D=>exact .fsl es z id off B (h id C).1 Zd I hc D
 | fptr z id el off es B cs C hr J L O hv D=>exact .fptr z id el off es B cs (h id C).1 Zd J L O D
 | clo f a b u Q w S hva T t G=>exact .clo f a b u Q w S t G
 | agg a u w hva t=>exact .agg a u w t
 | tup a u w hva t=>exact .tup a u w t
theorem c_.mono (h:∀id,Z id->Z' id/\bq H' id=bq H id) {x y:a_ V} (r:c_ H Z x y):c_ H' Z' x y:=⟨r.1,λj u v a b=>(r.2 j u v a b).mono h⟩
theorem fm.mono (h:∀id,Z id->Z' id/\bq H' id=bq H id) {x y:a_ (a_ V)} (r:fm H Z x y):fm H' Z' x y:=⟨r.1,λj u v a b=>(r.2 j u v a b).mono h⟩
theorem c_.nil:c_ H Z [] []:=⟨rfl,by simp⟩
theorem c_.cons {x y:V} {xs ys:a_ V} (h:FR H Z x y) (r:c_ H Z xs ys):c_ H Z (x::xs) (y::ys):=by
 refine⟨by simp[r.1],λj u v hu hv=>?_⟩
 cases j with
 | zero=>grind
 | succ j=>exact r.2 j u v Zd Zd
theorem c_.inv {x:V} {xs B:a_ V} (r:c_ H Z (x::xs) B):∃y ys,B=y::ys/\FR H Z x y/\c_ H Z xs ys:=by
 cases B with
 | nil=>have:=r.1;grind
 | cons y ys=>
  refine⟨y,ys,rfl,r.2 0 x y rfl rfl,by have:=r.1;grind,λj u v hu hv=>r.2 (j+1) u v Zd Zd⟩
theorem c_.cZ {u:a_ V} (r:c_ H Z [] u):u=[]:=by
 have:=r.1
 grind
theorem c_.get {xs ys:a_ V} (r:c_ H Z xs ys) {j:Nat} {u:V} (h:xs[j]? = some u):∃v,ys[j]? = some v/\FR H Z u v:=by
 have t  := (ζe.1 h).1;have:j<ys.length:=by rw[<-r.1];omega
 exact⟨ys[j],ζd this,r.2 j u _ h (ζd this)⟩
theorem fm.get {xs ys:a_ (a_ V)} (r:fm H Z xs ys) {j:Nat} {u:a_ V} (h:xs[j]? = some u):∃v,ys[j]? = some v/\c_ H Z u v:=by
 have t  := (ζe.1 h).1;have:j<ys.length:=by rw[<-r.1];omega
 exact⟨ys[j],ζd this,r.2 j u _ h (ζd this)⟩
theorem c_.append {a b c d:a_ V} (h:c_ H Z a b) (k:c_ H Z c d):c_ H Z (a++c) (b++d):=by
 refine⟨by simp[h.1,k.1],λj u v hu hv=>?_⟩
 by_cases t:j<a.length
 .rw[List.getElem?_append_left t]at hu;rw[List.getElem?_append_left (by rw[<-h.1];omega)]at hv
  exact h.2 j u v hu hv
 rw[List.getElem?_append_right Za]at hu
 rw[List.getElem?_append_right (by rw[<-h.1];omega),<-h.1]at hv
 exact k.2 _ u v hu hv
theorem fm.append {a b c d:a_ (a_ V)} (h:fm H Z a b) (k:fm H Z c d):fm H Z (a++c) (b++d):=by
 refine⟨by simp[h.1,k.1],λj u v hu hv=>?_⟩
 by_cases t:j<a.length
 .rw[List.getElem?_append_left t]at hu;rw[List.getElem?_append_left (by rw[<-h.1];omega)]at hv
  exact h.2 j u v hu hv
 rw[List.getElem?_append_right Za]at hu
 rw[List.getElem?_append_right (by rw[<-h.1];omega),<-h.1]at hv
 exact k.2 _ u v hu hv
theorem c_.take {a b:a_ V} (h:c_ H Z a b) (n:Nat):c_ H Z (a.take n) (b.take n):=by
 refine⟨by simp[h.1],λj u v hu hv=>?_⟩
 rw[List.getElem?_take]at hu hv;split at hu
 next t=>rw[if_pos t]at hv;exact h.2 j u v hu hv
 grind
theorem c_.drop {a b:a_ V} (h:c_ H Z a b) (n:Nat):c_ H Z (a.drop n) (b.drop n):=by
 refine⟨by simp[h.1],λj u v hu hv=>?_⟩
 rw[List.getElem?_drop]at hu hv;exact h.2 _ u v hu hv
theorem fm.take {a b:a_ (a_ V)} (h:fm H Z a b) (n:Nat):fm H Z (a.take n) (b.take n):=by
 refine⟨by simp[h.1],λj u v hu hv=>?_⟩
 rw[List.getElem?_take]at hu hv;split at hu
 next t=>rw[if_pos t]at hv;exact h.2 j u v hu hv
 grind
theorem fm.drop {a b:a_ (a_ V)} (h:fm H Z a b) (n:Nat):fm H Z (a.drop n) (b.drop n):=by
 refine⟨by simp[h.1],λj u v hu hv=>?_⟩
 rw[List.getElem?_drop]at hu hv;exact h.2 _ u v hu hv
theorem c_.set {a b:a_ V} (h:c_ H Z a b) (n:Nat) {x y:V} (B:FR H Z x y):c_ H Z (a.set n x) (b.set n y):=by
 refine⟨by simp[h.1],λj u v hu hv=>?_⟩
 rw[List.getElem?_set]at hu hv;split at hu
 .grind
 rename_i e;rw[if_neg e]at hv;exact h.2 j u v hu hv
theorem fm.set {a b:a_ (a_ V)} (h:fm H Z a b) (n:Nat) {x y:a_ V} (B:c_ H Z x y):fm H Z (a.set n x) (b.set n y):=by
 refine⟨by simp[h.1],λj u v hu hv=>?_⟩
 rw[List.getElem?_set]at hu hv;split at hu
 .grind
 rename_i e;rw[if_neg e]at hv;exact h.2 j u v hu hv
theorem c_.same {l:a_ V} (h:V.cN l=true):c_ H Z l l:=
 ⟨rfl,λj u v hu hv=>by rw[hu]at hv;cases hv;exact .same u (iw.1 h j u hu)⟩
theorem FR.good {x y:V} (r:FR H Z x y):x.good=true:=by
 induction r with
 | same x h=>omega
 | fsl es B id off C D hr L hc hv G=>
  refine jJ.2 λi a w=>iw.2 λj u hu=>?_
  grind
 | fptr B id el off es C cs D hr O Q S hv G=>
  refine iw.2 λj u hu=>?_
  grind
 | clo f a b z T w U hva I t J=>
  simp[V.good];refine⟨iw.2 λj u hu=>?_,iw.2 λj u hu=>?_⟩
  .grind
  grind
 | agg a z w hva t=>
  refine iw.2 λj u hu=>?_
  grind
 | tup a z w hva t=>
  simp[V.good];refine iw.2 λj u hu=>?_
  grind
theorem FR.closed {x y:V} (r:FR H Z x y):x.closed=true:=V.l_ r.good
theorem c_.good {xs ys:a_ V} (r:c_ H Z xs ys):V.cN xs=true:=
 iw.2 λj u hu=>by obtain⟨v,_,h⟩:=r.get hu;exact h.good
theorem fm.good {xs ys:a_ (a_ V)} (r:fm H Z xs ys):V.lQ xs=true:=
 jJ.2 λj u hu=>by obtain⟨v,_,h⟩:=r.get hu;exact h.good
theorem FR.bool {b:Bool} {y:V} (r:FR H Z (.bool b) y):y=.bool b:=by cases r;rfl
theorem FR.int {k:IntKind} {n:Int} {y:V} (r:FR H Z (.int k n) y):y=.int k n:=by cases r;rfl
theorem FR.str {s:ByteArray} {y:V} (r:FR H Z (.str s) y):y=.str s:=by cases r;rfl
theorem FR.c7 {y:V} (r:FR H Z .c7 y):y=.c7:=by cases r;rfl
theorem FR.bE {y:V} (r:FR H Z .bE y):y=.bE:=by cases r;rfl
theorem FR.gu {y:V} (r:FR H Z .gu y):y=.gu:=by cases r;rfl
theorem FR.fQ {y:V} (r:FR H Z .fQ y):y=.fQ:=by cases r;rfl
theorem FR.qD {y:V} (r:FR H Z .qD y):y=.qD:=by cases r;rfl
theorem FR.fmap {u:a_ (V×V)} {y:V} (r:FR H Z (.fmap u) y):y=.fmap u:=by cases r;rfl
theorem FR.gV {a:a_ V} {y:V} (r:FR H Z (.agg a) y):∃a',y=.agg a'/\c_ H Z a a':=by
 cases r with
 | same _ h=>exact⟨a,rfl,.same (by simpa [V.good]using h)⟩
 | agg _ a' t hva=>exact⟨a',rfl,t,hva⟩
theorem FR.o9 {a:a_ V} {y:V} (r:FR H Z (.tup a) y):∃a',y=.tup a'/\c_ H Z a a':=by
 cases r with
 | same _ h=>exact⟨a,rfl,.same (by simpa [V.good]using h)⟩
 | tup _ a' t hva=>exact⟨a',rfl,t,hva⟩
theorem FR.j7 {f:FuncId} {a b:a_ V} {y:V} (r:FR H Z (.clo f a b) y):∃a' u,y=.clo f a' u/\c_ H Z a a'/\c_ H Z b u:=by
 cases r with
 | same _ h=>
  simp[V.good]at h;exact⟨a,b,rfl,.same h.1,.same h.2⟩
 | clo _ _ _ a' u w z hva t=>exact⟨a',u,rfl,⟨w,hva⟩,⟨z,t⟩⟩
theorem FR.kM {es:Nat} {xs:a_ (a_ V)} {y:V} (r:FR H Z (.fsl es xs) y):y=.fsl es xs \/
 ∃id off ys,y=.hsl id es off xs.length/\Z id/\bq H id=some (es,ys)/\off+xs.length<=ys.length/\fm H Z xs ((ys.drop off).take xs.length):=by
 cases r with
 | same _ h=>grind
 | fsl _ _ id off ys z hr B hc hv=>
  refine .inr ⟨id,off,ys,rfl,z,hr,B,by simp;omega,λj u v hu w=>?_⟩
  have C  := (ζe.1 hu).1;rw[List.getElem?_take,if_pos C,List.getElem?_drop]at w;exact⟨hc j u v hu w,λi s t D G=>hv j i u v s t hu w D G⟩
theorem FR.Bi {es:Nat} {xs:a_ (a_ V)} {id off:Nat} {ys:a_ (a_ V)} (B:Z id) (hr:bq H id=some (es,ys)) (D:off+xs.length<=ys.length) (h:fm H Z xs ((ys.drop off).take xs.length)) :
 FR H Z (.fsl es xs) (.hsl id es off xs.length):=by
 have key:∀(i:Nat) a b,xs[i]? = some a->ys[off+i]? = some b->c_ H Z a b:=λi a b t w=>by
  refine h.2 i a b t ?_
  grind
 exact .fsl es xs id off ys B hr D (λi a b t w=>(key i a b t w).1) (λi j a b u v t w hu hv=>(key i a b t w).2 j u v hu hv)
theorem FR.kX {xs:a_ V} {y:V} (r:FR H Z (.fptr xs) y):y=.fptr xs \/
 ∃id el off es ys cs,y=.hptr id el off/\Z id/\bq H id=some (es,ys)/\ys[el]? = some cs/\off<=cs.length/\c_ H Z xs (cs.drop off):=by
 cases r with
 | same _ h=>grind
 | fptr _ id el off es ys cs t hr w z C hv=>
  refine .inr ⟨id,el,off,es,ys,cs,rfl,t,hr,w,z,by simp_all,λj u v hu B=>?_⟩
  grind
theorem FR.Cm {xs:a_ V} {id el off es:Nat} {ys:a_ (a_ V)} {cs:a_ V} (B:Z id) (hr:bq H id=some (es,ys)) (D:ys[el]? = some cs) (G:off<=cs.length) (h:c_ H Z xs (cs.drop off)):FR H Z (.fptr xs) (.hptr id el off):=
 .fptr xs id el off es ys cs B hr D G (by have:=h.1;grind) (λj u v hu hv=>h.2 j u v hu Zd)
theorem FR.cells {x y:V} (r:FR H Z x y):c_ H Z x.cells y.cells:=by
 have one:∀{a b:V},FR H Z a b->c_ H Z [a] [b]:=λh=>.cons h .nil
 cases r with
 | same _ h=>cases x <;> first|exact one (.same _ h)|(exact c_.same h)
 | fsl es w id off z B hr D hc hv=>exact one (.fsl es w id off z B hr D hc hv)
 | fptr w id el off es z cs B hr G I J hv=>exact one (.fptr w id el off es z cs B hr G I J hv)
 | clo f a b u L t O hva C=>exact one (.clo f a b u L t O hva C)
 | agg a u t hva=>exact⟨t,hva⟩
 | tup a u t hva=>exact one (.tup a u t hva)
theorem FR.one {x y:V} (r:FR H Z x y):y.one=x.one:=by cases r <;> rfl
theorem c_.one:∀{xs ys:a_ V},c_ H Z xs ys->ys.all V.one=xs.all V.one
 | [],ys,r=>by rw[r.cZ]
 | x::xs,B,r=>by
  obtain⟨y,ys,rfl,h,u⟩:=r.inv;simp[h.one,u.one]
theorem pH:∀{l:a_ V},V.cQ l=true↔∀(j:Nat) u,l[j]? = some u->u.scalar=true
 | []=>by simp[V.cQ]
 | x::l=>by
  simp[V.cQ,pH ];constructor
  .grind
  intro h;exact⟨h 0 x rfl,λj u hu=>h (j+1) u Zd⟩
theorem FR.scalar {x y:V} (r:FR H Z x y):(x.scalar=true->y=x)/\y.scalar=x.scalar:=by
 have key:∀(a t:a_ V),a.length=t.length->(∀(j:Nat) u v,a[j]? = some u->t[j]? = some v->(u.scalar=true->v=u)/\v.scalar=u.scalar)->(V.cQ a=true->t=a)/\V.cQ t=V.cQ a:=by
  intro a t z D;have h1:V.cQ a=true->t=a:=by
   intro G;refine(List.ext_getElem z λj h1 B=>?_).symm
   exact(((D j _ _ (ζd h1) (ζd B)).1 (pH.1 G j _ (ζd h1)))).symm
  refine⟨h1,?_⟩
  cases G:V.cQ a with
  | true=>grind
  | false=>
   cases C:V.cQ t with
   | false=>rfl
   | true=>
    have:V.cQ a=true:=pH.2 λj u hu=>by
     have I:j<t.length:=by grind
     have:=(D j u _ hu (ζd I)).2;rw[<-this];exact pH.1 C j _ (ζd I)
    grind
 induction r with
 | same x h=>grind
 | fsl=>exact⟨λh=>by simp[V.scalar]at h,rfl⟩
 | fptr=>exact⟨λh=>by simp[V.scalar]at h,rfl⟩
 | clo=>exact⟨λh=>by simp[V.scalar]at h,rfl⟩
 | agg a t z hva w=>
  obtain⟨h1,B⟩:=key a t z w;exact⟨λh=>by rw[h1 (by simpa [V.scalar]using h)],by simpa [V.scalar]using B⟩
 | tup a t z hva w=>
  obtain⟨h1,B⟩:=key a t z w;exact⟨λh=>by rw[h1 (by simpa [V.scalar]using h)],by simpa [V.scalar]using B⟩
theorem c_.scalar {a a':a_ V} (r:c_ H Z a a'):(V.cQ a=true->a'=a)/\V.cQ a'=V.cQ a:=by
 obtain⟨h1,t⟩:=FR.scalar (.tup a a' r.1 r.2);simp[V.scalar]at h1 t
 grind
theorem pQ:∀{l:a_ V} {a:a_ Int},gF l=some a->V.cQ l=true
 | [],_,_=>rfl
 | x::l,a,h=>by
  unfold gF at h;split at h
  .grind
  next n r e=>cases e;obtain⟨b,u,_⟩:=ζf.1 h;simp[V.cQ,V.scalar];exact pQ u
  grind
end
mutual
theorem iZ:∀{x:V},x.scalar=true->x.good=true
 | .bool _,_|.int ..,_|.str _,_|.gu,_|.fQ,_|.qD,_|.c7,_|.bE,_=>rfl
 | .agg cs,h=>by simp only[V.scalar]at h;simp only[V.good];exact oq h
 | .tup cs,h=>by simp only[V.scalar]at h;simp only[V.good];exact oq h
 | .fsl ..,h|.hsl ..,h|.fptr ..,h|.hptr ..,h|.clo ..,h|.yld _,h|.fmap _,h|.hmap _,h=>by simp[V.scalar]at h
theorem oq:∀{l:a_ V},V.cQ l=true->V.cN l=true
 | [],_=>rfl
 | x::r,h=>by
  simp only[V.cQ,ζh]at h;simp only[V.cN,ζh];exact⟨iZ h.1,oq h.2⟩
end
section
variable {H H':bp} {Z Z':Nat->Prop}
theorem jG {f:V->bf V}:∀{xs ys:a_ V},xs.length=ys.length->(∀(j:Nat) u v,xs[j]? = some u->ys[j]? = some v->f v=some u)->hG f ys=some xs
 | [],[],_,_=>rfl
 | [],y::ys,h,_=>by simp_all
 | x::xs,[],h,_=>by simp_all
 | x::xs,y::ys,h,B=>by
  simp[hG,B 0 x y rfl rfl,jG (xs:=xs) (ys:=ys) Zd λj u v hu hv=>B (j+1) u v Zd Zd]
theorem Ge {f:V->bf V}:∀{xs ys:a_ (a_ V)},xs.length=ys.length->(∀(j:Nat) u v,xs[j]? = some u->ys[j]? = some v->hG f v=some u)->ko f ys=some xs
 | [],[],_,_=>rfl
 | [],y::ys,h,_=>by simp_all
 | x::xs,[],h,_=>by simp_all
 | x::xs,y::ys,h,B=>by
  simp[ko,B 0 x y rfl rfl,Ge (xs:=xs) (ys:=ys) Zd λj u v hu hv=>B (j+1) u v Zd Zd]
theorem nP:∀{l:a_ V},V.gy l=true↔∀(j:Nat) u,l[j]? = some u->u.closed=true
 | []=>by simp[V.gy]
 | x::l=>by
  simp[V.gy,nP ];constructor
  .grind
  intro h;exact⟨h 0 x rfl,λj u hu=>h (j+1) u Zd⟩
theorem lU:∀{l:a_ V} {n:Nat},V.kD n l=true↔∀(j:Nat) u,l[j]? = some u->u.lvl n=true
 | [],n=>by simp[V.kD]
 | x::l,n=>by
  simp[V.kD,lU ];constructor
  .grind
  intro h;exact⟨h 0 x rfl,λj u hu=>h (j+1) u Zd⟩
theorem Ej:∀{l:a_ (a_ V)} {n:Nat},V.og n l=true↔∀(j:Nat) u,l[j]? = some u->V.kD n u=true
 | [],n=>by simp[V.og]
 | x::l,n=>by
  simp[V.og,Ej ];constructor
  .grind
  intro h;exact⟨h 0 x rfl,λj u hu=>h (j+1) u Zd⟩
theorem ec (n:Nat) (H:bp) {x:V} (h:x.closed=true):borrow n H x=some x:=j9 n H h
theorem FR.borrow {x y:V} (r:FR H Z x y):∀n,x.lvl n=true->borrow n H y=some x:=by
 induction r with
 | same x h=>grind[ec,V.l_]
 | fsl es J id off U W hr X hc hv L=>
  intro n z
  cases n with
  | zero=>grind[V.lvl]
  | succ n=>
   unfold Go.VE.borrow;unfold bq at hr;simp only[V.closed,Bool.false_eq_true,if_false,hr,true_and,if_pos X,ζf];refine⟨J,Ge (by simp;omega) λj u v hu B=>?_,rfl⟩
   have Y  := (ζe.1 hu).1;rw[List.getElem?_take,if_pos Y,List.getElem?_drop]at B;refine jG (hc j u v hu B) λi s t Q ht=>L j i u v s t hu B Q ht n (lU.1 (Ej.1 z j u hu) i s Q)
 | fptr J id el off es U cs W hr he ho hx hv L=>
  intro n z
  cases n with
  | zero=>grind[V.lvl]
  | succ n=>
   unfold Go.VE.borrow;unfold bq at hr;simp only[V.closed,Bool.false_eq_true,if_false,hr,he,if_pos ho,ζf];refine⟨J,jG (by simp_all) λj u v hu B=>?_,rfl⟩
   rw[List.getElem?_drop]at B;exact L j u v hu B n (lU.1 z j u hu)
 | clo f a b D S G T hva aa C I=>
  intro n z
  cases n with
  | zero=>grind[V.lvl]
  | succ n=>
   simp[V.lvl]at z
   by_cases w:(V.clo f D S).closed=true
   .rw[ec _ _ w];simp[V.closed]at w;have e1:D=a:=by
     have:=jG  G λj u v hu hv=>C j u v hu hv n (lU.1 z.1 j u hu)
     have O:=jG    rfl λj u v hu hv=>by rw[hu]at hv;cases hv;exact ec n H (nP.1 w.1 j u hu)
     grind
    have e2:S=b:=by
     have:=jG  T λj u v hu hv=>I j u v hu hv n (lU.1 z.2 j u hu)
     have O:=jG    rfl λj u v hu hv=>by rw[hu]at hv;cases hv;exact ec n H (nP.1 w.2 j u hu)
     grind
    simp_all
   unfold Go.VE.borrow;rw[if_neg w];simp[jG  G λj u v hu hv=>C j u v hu hv n (lU.1 z.1 j u hu),jG  T λj u v hu hv=>I j u v hu hv n (lU.1 z.2 j u hu)]
 | agg a D G hva C=>
  intro n z
  cases n with
  | zero=>grind[V.lvl]
  | succ n=>
   have hm:=jG  G λj u v hu hv=>C j u v hu hv n (lU.1 z j u hu)
   by_cases w:(V.agg D).closed=true
   .rw[ec _ _ w];have O:=jG    rfl λj u v hu hv=>by rw[hu]at hv;cases hv;exact ec n H (nP.1 w j u hu)
    grind
   grind[Go.VE.borrow]
 | tup a D G hva C=>
  intro n z
  cases n with
  | zero=>grind[V.lvl]
  | succ n=>
   have hm:=jG  G λj u v hu hv=>C j u v hu hv n (lU.1 z j u hu)
   by_cases w:(V.tup D).closed=true
   .rw[ec _ _ w];have O:=jG    rfl λj u v hu hv=>by rw[hu]at hv;cases hv;exact ec n H (nP.1 w j u hu)
    grind
   grind[Go.VE.borrow]
theorem ow {f:V->a_ Nat} {k:Nat}:∀{l:a_ V},k∈cK f l->∃(j:Nat) (u:V),l[j]? = some u/\k∈f u
 | [],h=>by grind[cK]
 | x::l,h=>by
  simp[cK]at h;rcases h with h|h
  .exact⟨0,x,rfl,h⟩
  obtain⟨j,u,hu,hk⟩:=ow h;exact⟨j+1,u,by grind,hk⟩
structure Deep (H:bp) (Z:Nat->Prop):Prop where
 row:∀id es ys,Z id->bq H id=some (es,ys)->∀c∈ys,∀u∈c,∃x,FR H Z x u
theorem FR.bX (hd:Deep H Z):∀(n:Nat) {x y:V},FR H Z x y->∀k∈bX n H y,Z k
 | 0,x,y,r,k,hk=>by grind[Go.VE.bX]
 | n+1,x,y,r,k,hk=>by
  unfold Go.VE.bX at hk;split at hk
  .simp_all
  rename_i J;have pt:∀(a a':a_ V),c_ H Z a a'->k∈cK (Go.VE.bX n H) a'->Z k:=λa a' h hk=>by
   obtain⟨j,u,hu,w⟩:=ow hk;have L:j<a.length:=by rw[h.1];grind
   exact FR.bX hd n (h.2 j _ u (ζd L) hu) k w
  have row:∀(id:Nat) es t (l:a_ V),Z id->bq H id=some (es,t)->(∀u∈l,∃c∈t,u∈c)->k∈cK (Go.VE.bX n H) l->Z k:=λid es t l z hr G hk=>by
   obtain⟨j,u,hu,w⟩:=ow hk;obtain⟨c,hc,C⟩:=G u (List.mem_of_getElem? hu);obtain⟨x,I⟩:=hd.row id es t z hr c hc u C;exact FR.bX hd n I k w
  cases r with
  | same _ h=>grind[V.l_]
  | fsl es O id off t z hr G hc hv=>
   simp only[List.mem_cons]at hk;rcases hk with rfl|hk
   .exact z
   rw[show (H[id]?).bind Ob.rows=some (es,t)from hr]at hk
   grind[List.mem_flatten]
  | fptr O id el off es t cs z hr T U I hv=>
   simp only[List.mem_cons]at hk;rcases hk with rfl|hk
   .exact z
   rw[show (H[id]?).bind Ob.rows=some (es,t)from hr]at hk
   grind
  | clo f a b a' Q B S hva D=>
   simp  at hk;rcases hk with hk|hk
   .exact pt a a' ⟨B,hva⟩ hk
   exact pt b Q ⟨S,D⟩ hk
  | agg a a' B hva=>exact pt a a' ⟨B,hva⟩ hk
  | tup a a' B hva=>exact pt a a' ⟨B,hva⟩ hk
theorem c_.cut {cs ys r:a_ V} {off n:Nat} (h:c_ H Z cs ys) (hc:cut cs off n=some r):∃u,Go.VE.cut ys off n=some u/\c_ H Z r u:=by
 unfold Go.VE.cut at hc ⊢;have t:=(h.drop off).take n;dsimp only at hc ⊢;split at hc
 .simp  at hc;subst hc;exact⟨_,by rw[if_pos (by rw[<-t.1];omega)],t⟩
 grind
theorem c_.mk {agg:Bool} {cs ys:a_ V} {x:V} (h:c_ H Z cs ys) (u:mk agg cs=some x):∃y,Go.VE.mk agg ys=some y/\FR H Z x y:=by
 unfold Go.VE.mk at u ⊢;split at u
 .simp  at u;subst u;exact⟨_,by grind,.agg _ _ h.1 h.2⟩
 split at u
 .simp  at u;obtain⟨y,ys,rfl,h1,t⟩:=h.inv;rw[t.cZ]
  grind
 grind
theorem c_.fill:∀{pl:a_ (Nat×Nat)} {vs u cells cells' r:a_ V},c_ H Z cells cells'->c_ H Z vs u->jL cells pl vs=some r->∃B,jL cells' pl u=some B/\c_ H Z r B
 | [],vs,u,cells,cells',r,hc,hv,h=>by
  cases vs with
  | nil=>rw[hv.cZ];grind[jL]
  | cons v vs=>grind[jL]
 | (off,size)::pl,vs,u,cells,cells',r,hc,hv,h=>by
  cases vs with
  | nil=>grind[jL]
  | cons v vs=>
   obtain⟨w,u,rfl,h1,D⟩:=hv.inv;have k:=h1.cells;simp only[jL]at h ⊢;rw[<-k.1,<-hc.1];split at h
   .simp_all
   rename_i e;rw[if_neg e];exact c_.fill (((hc.take off).append k).append (hc.drop _)) D h
theorem FR.tq {k:KT} {x y D G:V} {b:Bool} (u:FR H Z x D) (B:FR H Z y G) (h:nS k x y=some b):nS k D G=some b:=by
 unfold nS at h;split at h
 .rw[u.bE,B.bE];exact h
 .rw[B.bE];rcases u.kM with rfl|⟨_,_,_,rfl,_⟩ <;> exact h
 .exact absurd u.closed (by simp[V.closed])
 .rw[u.gu,B.gu];exact h
 .rw[B.gu];rcases u.kX with rfl|⟨_,_,_,_,_,_,rfl,_⟩ <;> exact h
 .exact absurd u.closed (by simp[V.closed])
 .rw[u.fQ,B.fQ];exact h
 .rw[B.fQ,u.fmap];exact h
 .exact absurd u.closed (by simp[V.closed])
 grind
theorem FR.jW {a b a' B:a_ V} {r:Bool} (D:c_ H Z a a') (G:c_ H Z b B) (h:jW a b=some r):Go.VE.jW a' B=some r:=by
 unfold Go.VE.jW at h;split at h
 .rename_i u v hu hv;rw[D.scalar.1 (pQ hu),G.scalar.1 (pQ hv)]
  grind[Go.VE.jW]
 grind
theorem xU {k:KT} {x y:V} {b:Bool} (h:nS k x y=some b):(y=.bE/\(x=.bE\/(∃es xs,x=.fsl es xs)\/∃id es off len,x=.hsl id es off len)) \/
 (y=.gu/\(x=.gu\/(∃cs,x=.fptr cs)\/∃id el off,x=.hptr id el off))\/(y=.fQ/\(x=.fQ\/(∃u,x=.fmap u)\/∃id,x=.hmap id)):=by
 unfold nS at h
 grind
theorem Gi {k:bf KT} {e:bf Nat} {op:BinOp} {x y:V} (B:(y=.bE/\(x=.bE\/(∃es xs,x=.fsl es xs)\/∃id es off len,x=.hsl id es off len)) \/
 (y=.gu/\(x=.gu\/(∃cs,x=.fptr cs)\/∃id el off,x=.hptr id el off))\/(y=.fQ/\(x=.fQ\/(∃u,x=.fmap u)\/∃id,x=.hmap id))) :
 mA k e op x y=(match k,op with
 | some k,.eql=>(nS k x y).map .bool
 | some k,.neq=>(nS k x y).map λt=>.bool !t
 | _,_=>none):=by
 rcases B with⟨rfl,rfl|⟨_,_,rfl⟩|⟨_,_,_,_,rfl⟩⟩|⟨rfl,rfl|⟨_,rfl⟩|⟨_,_,_,rfl⟩⟩|⟨rfl,rfl|⟨_,rfl⟩|⟨_,rfl⟩⟩ <;> cases k <;> cases op <;> rfl
theorem Hy {k:bf KT} {e:bf Nat} {op:BinOp} {x y z:V} (h:mA k e op x y=some z):z.good=true:=by
 have w:∀{o:bf Bool} {z:V},o.map V.bool=some z->z.good=true:=λh=>by obtain⟨_,_,rfl⟩:=ζf.1 h;rfl
 have u:∀{o:bf Bool} {z:V},(o.map λt=>V.bool !t)=some z->z.good=true:=λh=>by obtain⟨_,_,rfl⟩:=ζf.1 h;rfl
 unfold mA at h
 (repeat' split at h) <;> first|(simp  at h;subst h;rfl)|exact w h|exact u h|simp at h
theorem FR.bin {k:bf KT} {e:bf Nat} {op:BinOp} {x y D G z:V} (u:FR H Z x D) (B:FR H Z y G) (h:mA k e op x y=some z):mA k e op D G=some z:=by
 have J:=h;unfold mA at h;split at h
 .rw[u.int,B.int];omega
 .rw[u.str,B.str];omega
 .rw[u.bool,B.bool];omega
 .obtain⟨L,rfl,w⟩:=u.gV;obtain⟨O,rfl,I⟩:=B.gV;split at h
  .split at h
   next C=>obtain⟨r,hr,rfl⟩:=ζf.1 h;simp[mA,<-w.1,C,FR.jW w I hr]
   grind
  .split at h
   next C=>obtain⟨r,hr,rfl⟩:=ζf.1 h;simp[mA,<-w.1,C,FR.jW w I hr]
   grind
  grind
 split at h
 .obtain⟨r,hr,rfl⟩:=ζf.1 h;have t:=FR.tq u B hr;rw[Gi (xU t)];grind
 .obtain⟨r,hr,rfl⟩:=ζf.1 h;have t:=FR.tq u B hr;rw[Gi (xU t)];grind
 grind
theorem FR.slice {size:Nat} {x J z:V} {l h:bf Int} (D:FR H Z x J) (B:gX size x l h=some z):∃O,gX size J l h=some O/\FR H Z z O:=by
 have G:∀{n t w:Nat},dD n l h=some (t,w)->w<=n/\t<=w:=by
  grind[dD]
 unfold gX at B;split at B
 .rename_i es L;split at B
  .rename_i T;obtain⟨⟨t,w⟩,I,rfl⟩:=ζf.1 B;obtain⟨U,W⟩:=G I;rcases D.kM with rfl|⟨id,off,X,rfl,Q,hr,Y,S⟩
   .refine⟨_,by grind[gX],.same _ ?_⟩
    have hg:=D.good;refine jJ.2 λj u hu=>?_
    rw[List.getElem?_drop,List.getElem?_take]at hu;split at hu
    .exact jJ.1 hg _ u hu
    grind
   refine⟨.hsl id es (off+t) (w-t),by grind[gX],?_⟩
   have C:((L.take w).drop t).length=w-t:=by simp_all
   rw[<-C];refine FR.Bi Q hr Zd ?_
   have:=(S.take w).drop t
   grind[List.drop_take,List.drop_drop]
  grind
 .exact absurd D.closed (by simp[V.closed])
 .rw[D.c7];obtain⟨_,I,rfl⟩:=ζf.1 B;exact⟨.c7,by grind[gX],.same _ rfl⟩
 .rw[D.bE];obtain⟨_,I,rfl⟩:=ζf.1 B;exact⟨.bE,by grind[gX],.same _ rfl⟩
 grind
theorem c_.l8 {D G:Bool} {J B:a_ V} {r:bf Int×bf Int} (h:c_ H Z J B) (u:l8 D G J=some r):Go.VE.l8 D G B=some r:=by
 unfold Go.VE.l8 at u;split at u
 .rw[h.cZ];exact u
 .obtain⟨_,_,rfl,h1,t⟩:=h.inv;rw[h1.int,t.cZ];exact u
 .obtain⟨_,_,rfl,h1,t⟩:=h.inv;rw[h1.int,t.cZ];exact u
 .obtain⟨_,_,rfl,h1,t⟩:=h.inv;obtain⟨_,_,rfl,w,z⟩:=t.inv;rw[h1.int,w.int,z.cZ];exact u
 grind
theorem c_.bP {N:Nat->FuncId} {p:tU} {xs ys:a_ V} {z:V} (W:∀zero pl,p=.build zero pl->V.cN zero=true) (h:c_ H Z xs ys) (hp:bP N p xs=some z):∃J,Go.VE.bP N p ys=some J/\FR H Z z J:=by
 unfold Go.VE.bP at hp;split at hp
 .
  obtain⟨y,_,rfl,h1,w⟩:=h.inv;rw[w.cZ];simp only[ζa]at hp;subst hp;exact⟨y,rfl,h1⟩
 .
  rename_i t a b;obtain⟨w1,_,rfl,h1,w⟩:=h.inv;obtain⟨w2,_,rfl,C,B⟩:=w.inv;obtain⟨w3,_,rfl,T,O⟩:=B.inv;rw[h1.bool,O.cZ];simp only[ζa]at hp;subst hp;refine⟨if t=true then w2 else w3,rfl,?_⟩
  grind
 .
  obtain⟨y,_,rfl,h1,w⟩:=h.inv;rw[w.cZ];unfold JC at hp;split at hp
  .exact absurd h1.closed (by simp[V.closed])
  .simp only[ζa]at hp;subst hp;rcases h1.kX with rfl|⟨_,_,_,_,_,_,rfl,_⟩
   .exact⟨_,rfl,h1⟩
   exact⟨_,rfl,h1⟩
  .simp only[ζa]at hp;subst hp;obtain⟨_,_,rfl,_⟩:=h1.j7;exact⟨_,rfl,h1⟩
  simp at hp
 .
  obtain⟨_,_,rfl,h1,w⟩:=h.inv;obtain⟨_,_,rfl,C,B⟩:=w.inv;rw[B.cZ];exact⟨z,FR.bin h1 C hp,.same _ (Hy hp)⟩
 .obtain⟨_,_,rfl,h1,w⟩:=h.inv;rw[h1.bool,w.cZ];simp only[ζa]at hp;subst hp;exact⟨_,rfl,.same _ rfl⟩
 .obtain⟨_,_,rfl,h1,w⟩:=h.inv;rw[h1.int,w.cZ];simp only[ζa]at hp;subst hp;exact⟨_,rfl,.same _ rfl⟩
 .obtain⟨_,_,rfl,h1,w⟩:=h.inv;rw[h1.int,w.cZ];simp only[ζa]at hp;subst hp;exact⟨_,rfl,.same _ rfl⟩
 .
  rename_i off p;obtain⟨y,_,rfl,h1,w⟩:=h.inv;rw[w.cZ];unfold oK at hp;split at hp
  .split at hp
   .rename_i cs ho;simp only[ζa]at hp;subst hp;rcases h1.kX with rfl|⟨id,el,o,es,ys,ds,rfl,Q,hr,U,X,L⟩
    .have hg:=h1.good;simp only[V.good]at hg;exact⟨_,by grind[Go.VE.bP,oK],.same _ (by grind[V.good,xD])⟩
    refine⟨.hptr id el (o+off),rfl,FR.Cm Q hr U (by have:=L.1;grind) ?_⟩
    have:=L.drop off;rw[List.drop_drop]at this;exact this
   simp at hp
  .exact absurd h1.closed (by simp[V.closed])
  simp at hp
 .
  rename_i off size agg cs;obtain⟨y,_,rfl,h1,w⟩:=h.inv;rw[w.cZ];obtain⟨Y,rfl,hc⟩:=h1.gV;obtain⟨r,hr,hm⟩:=ζg.1 hp;obtain⟨r',S,D⟩:=hc.cut hr;obtain⟨J,G,I⟩:=D.mk hm
  grind[Go.VE.bP]
 .
  rename_i size s k n;obtain⟨y,_,rfl,h1,w⟩:=h.inv;obtain⟨_,_,rfl,C,B⟩:=w.inv;rw[C.int,B.cZ];unfold kC at hp;split at hp
  .simp at hp
  rename_i hn;split at hp
  .rename_i es xs;split at hp
   .rename_i U;obtain⟨c,hc,rfl⟩:=ζf.1 hp;rcases h1.kM with rfl|⟨id,off,ys,rfl,Q,hr,hl,L⟩
    .have hg:=h1.good;simp only[V.good]at hg;exact⟨_,by grind[Go.VE.bP,kC],.same _ (by grind[V.good,jJ])⟩
    have hj:n.toNat<xs.length:=(ζe.1 hc).1;obtain⟨d,hd,ab⟩:=L.get hc;rw[List.getElem?_take,if_pos hj,List.getElem?_drop]at hd;exact⟨.hptr id (off+n.toNat) 0,by grind[Go.VE.bP,kC],FR.Cm Q hr hd Zc Zd⟩
   simp at hp
  .exact absurd h1.closed (by simp[V.closed])
  simp at hp
 .
  rename_i len size s k n;obtain⟨y,_,rfl,h1,w⟩:=h.inv;obtain⟨_,_,rfl,C,B⟩:=w.inv;rw[C.int,B.cZ];unfold vA at hp;split at hp
  .rename_i hn;split at hp
   .split at hp
    .rename_i cs ho;simp only[ζa]at hp;subst hp;rcases h1.kX with rfl|⟨id,el,o,es,ys,ds,rfl,Q,hr,U,X,L⟩
     .have hg:=h1.good;simp only[V.good]at hg;exact⟨_,by grind[Go.VE.bP,vA],.same _ (by grind[V.good,xD])⟩
     refine⟨.hptr id el (o+n.toNat*size),by grind[Go.VE.bP,vA],FR.Cm Q hr U (by have:=L.1;grind) ?_⟩
     have:=L.drop (n.toNat*size);rw[List.drop_drop]at this;exact this
    simp at hp
   .exact absurd h1.closed (by simp[V.closed])
   simp at hp
  simp at hp
 .
  rename_i s k n;obtain⟨y,_,rfl,h1,w⟩:=h.inv;obtain⟨_,_,rfl,C,B⟩:=w.inv;rw[h1.str,C.int,B.cZ];split at hp
  next hn=>obtain⟨c,hc,rfl⟩:=ζf.1 hp;exact⟨_,by grind[Go.VE.bP],.same _ rfl⟩
  simp at hp
 .
  rename_i len size agg cs k n;obtain⟨y,_,rfl,h1,w⟩:=h.inv;obtain⟨_,_,rfl,C,B⟩:=w.inv;rw[C.int,B.cZ];obtain⟨Y,rfl,hc⟩:=h1.gV;split at hp
  .rename_i hn;obtain⟨r,hr,hm⟩:=ζg.1 hp;obtain⟨r',S,D⟩:=hc.cut hr;obtain⟨J,G,I⟩:=D.mk hm
   grind[Go.VE.bP]
  simp at hp
 .
  rename_i lo hi s bs;obtain⟨y,_,rfl,h1,w⟩:=h.inv;rw[h1.str];obtain⟨⟨l,h'⟩,hb,hp⟩:=ζg.1 hp;obtain⟨⟨l2,ad⟩,aa,rfl⟩:=ζf.1 hp;exact⟨_,by simp only[Go.VE.bP,w.l8 hb,ζb,aa,Option.map_some],.same _ rfl⟩
 .
  rename_i size lo hi s bs;obtain⟨y,_,rfl,h1,w⟩:=h.inv;obtain⟨⟨l,h'⟩,hb,hp⟩:=ζg.1 hp;obtain⟨J,G,I⟩:=FR.slice h1 hp;exact⟨J,by simp only[Go.VE.bP,w.l8 hb,ζb,G],I⟩
 .
  obtain⟨y,_,rfl,h1,w⟩:=h.inv;obtain⟨_,_,rfl,C,B⟩:=w.inv;obtain⟨_,_,rfl,T,O⟩:=B.inv;rw[C.int,T.int,O.cZ];split at hp
  .rename_i hc;simp only[ζa]at hp;subst hp;refine⟨.c7,?_,.same _ rfl⟩;simp only[ζh]at hc;have:Ku y=true:=by
    have h0:=hc.1.1;unfold Ku at h0;split at h0
    .rcases h1.kM with rfl|⟨_,_,_,rfl,_⟩ <;> rfl
    .exact absurd h1.closed (by simp[V.closed])
    .rw[h1.c7];rfl
    .rw[h1.bE];rfl
    simp at h0
   grind[Go.VE.bP]
  simp at hp
 .
  rename_i vs zero pl;obtain⟨r,hr,rfl⟩:=ζf.1 hp;obtain⟨r',S,D⟩:=c_.fill (c_.same (W zero pl rfl)) h hr;exact⟨.agg r',by grind[Go.VE.bP],.agg _ _ D.1 D.2⟩
 .
  rename_i vs name k;simp only[ζa]at hp;subst hp;exact⟨_,rfl,.clo _ _ _ _ _ (h.take k).1 (h.drop k).1 (h.take k).2 (h.drop k).2⟩
 .
  rename_i i vs;obtain⟨y,_,rfl,h1,w⟩:=h.inv;rw[w.cZ];obtain⟨ws,rfl,hw⟩:=h1.o9;obtain⟨J,G,I⟩:=hw.get hp;exact⟨J,G,I⟩
 .
  obtain⟨y,_,rfl,h1,w⟩:=h.inv;rw[h1.str,w.cZ];simp only[ζa]at hp;subst hp;exact⟨_,rfl,.same _ rfl⟩
 .
  obtain⟨y,_,rfl,h1,w⟩:=h.inv;rw[w.cZ];unfold pE at hp;split at hp
  .simp only[ζa]at hp;subst hp;rcases h1.kM with rfl|⟨_,_,_,rfl,_⟩ <;> exact⟨_,rfl,.same _ rfl⟩
  .exact absurd h1.closed (by simp[V.closed])
  .rw[h1.c7];simp only[ζa]at hp;subst hp;exact⟨_,rfl,.same _ rfl⟩
  .rw[h1.bE];simp only[ζa]at hp;subst hp;exact⟨_,rfl,.same _ rfl⟩
  simp at hp
 .
  obtain⟨y,_,rfl,h1,w⟩:=h.inv;rw[w.cZ];unfold Nx at hp;split at hp
  .rw[h1.bE];simp only[ζa]at hp;subst hp;exact⟨_,rfl,.same _ rfl⟩
  .rw[h1.c7];simp only[ζa]at hp;subst hp;exact⟨_,rfl,.same _ rfl⟩
  simp at hp
 .
  obtain⟨_,_,rfl,h1,w⟩:=h.inv;obtain⟨_,_,rfl,C,B⟩:=w.inv;rw[h1.int,C.int,B.cZ];split at hp
  next e=>simp only[ζa]at hp;subst hp;exact⟨_,by grind[Go.VE.bP],.same _ rfl⟩
  simp at hp
 .
  obtain⟨_,_,rfl,h1,w⟩:=h.inv;obtain⟨_,_,rfl,C,B⟩:=w.inv;obtain⟨_,_,rfl,T,O⟩:=B.inv;obtain⟨_,_,rfl,h7,h8⟩:=O.inv;rw[h1.int,C.int,T.int,h7.int,h8.cZ];split at hp
  next e=>simp only[ζa]at hp;subst hp;exact⟨_,by grind[Go.VE.bP],.same _ rfl⟩
  simp at hp
 .
  obtain⟨_,_,rfl,h1,w⟩:=h.inv;obtain⟨_,_,rfl,C,B⟩:=w.inv;rw[h1.int,C.int,B.cZ];split at hp
  next e=>simp only[ζa]at hp;subst hp;exact⟨_,by grind[Go.VE.bP],.same _ rfl⟩
  simp at hp
 .
  obtain⟨_,_,rfl,h1,w⟩:=h.inv;obtain⟨_,_,rfl,C,B⟩:=w.inv;rw[h1.int,C.int,B.cZ];split at hp
  .rename_i e;simp only[ζa]at hp;subst hp;refine⟨_,by grind[Go.VE.bP],.same _ ?_⟩
   grind[V.good,jJ,iw,iZ]
  simp at hp
 .
  split at hp
  .rename_i hc;obtain rfl:=h.scalar.1 hc.1;split at hp
   .rename_i xs ae;split at hp
    .rename_i hx;simp only[ζa]at hp;subst hp;refine⟨_,by grind[Go.VE.bP],.same _ ?_⟩
     simp only[V.good];exact jJ.2 λj u hu=>iw.2 λi v hv=>iZ (List.all_eq_true.1 (List.all_eq_true.1 hx.2 u (List.mem_of_getElem? hu)) v (List.mem_of_getElem? hv))
    simp at hp
   simp at hp
  simp at hp
 .simp only[ζa]at hp;subst hp;rw[h.cZ];exact⟨_,rfl,.same _ rfl⟩
 simp at hp
end
def mM (p:Nat×Nat) (k:Fl) (es len:Nat):V:=
 match k with
 | .nil=>.bE
 | .emp=>.c7
 | _=>.hsl p.1 es p.2 len
structure Nu where
 pl:Nat->Nat×Nat
 inn:Nat->Nat->Nat
instance:CoeFun Nu λ_=>Nat->Nat×Nat:=⟨Nu.pl⟩
def Nu.at (ν:Nu) (d:Nat):Nat->Nat
 | 0=>(ν d).1
 | i+1=>ν.inn d i
inductive Vr where
 | sl (k:Fl) (es n:Nat)|box|mp
def bu.tE:bu->Vr
 | .sl k es xs=>.sl k es xs.length
 | .dp k xs _=>.sl k 1 xs.length
 | .box _=>.box
 | .mp _=>.mp
inductive cF (ν:Nu) (m:Tb bu) (H:bp) (Z:Nat->Prop):SV->V->Prop
 | v (x y:V) (h:FR H Z x y):cF ν m H Z (.v x) y
 | own (d:Nat) (y:V) (h:∀ob,bh m d=some ob->∃k es n,ob.tE=.sl k es n/\y=mM (ν d) k es n):cF ν m H Z (.own d) y
 | ptr (d o:Nat) (y:V) (h:∀ob,bh m d=some ob->∃cs,ob=.box cs/\y=.hptr (ν d).1 0 o):cF ν m H Z (.ptr d o) y
 | el (d i o:Nat) (y:V) (h:∀ob,bh m d=some ob->∃k es n,ob.tE=.sl k es n/\bR k=true/\y=.hptr (ν d).1 ((ν d).2+i) o):cF ν m H Z (.el d i o) y
 | mp (d:Nat) (y:V) (h:∀ob,bh m d=some ob->∃kvs,ob=.mp kvs/\y=.hmap (ν d).1):cF ν m H Z (.mp d) y
 | clo (f:FuncId) (a b:List SV) (a' b':List V) (ha:a.length=a'.length) (hb:b.length=b'.length)
  (hva:∀(j:Nat) u v,a[j]? = some u->a'[j]? = some v->cF ν m H Z u v) (hvb:∀(j:Nat) u v,b[j]? = some u->b'[j]? = some v->cF ν m H Z u v):cF ν m H Z (.clo f a b) (.clo f a' b')
 | tup (a:List SV) (a':List V) (ha:a.length=a'.length) (hva:∀(j:Nat) u v,a[j]? = some u->a'[j]? = some v->cF ν m H Z u v):cF ν m H Z (.tup a) (.tup a')
 | agg (a:List SV) (a':List V) (ha:a.length=a'.length) (hva:∀(j:Nat) u v,a[j]? = some u->a'[j]? = some v->cF ν m H Z u v):cF ν m H Z (.agg a) (.agg a')
 | yl (id:Nat):cF ν m H Z (.yl id) (.yld id)
def bS (ν:Nu) (m:Tb bu) (H:bp) (Z:Nat->Prop) (xs:a_ SV) (ys:a_ V):Prop:=xs.length=ys.length/\∀(j:Nat) u v,xs[j]? = some u->ys[j]? = some v->cF ν m H Z u v
def dJ:bu->Bool
 | .sl k _ _|.dp k _ _=>bR k
 | _=>true
def bu.pt (ob:bu):Nat->Bool
 | 0=>dJ ob
 | i+1=>match ob with
  | .dp _ xs h=>(match h with|some (j,_)=>j != i|none=>true)&&(match xs[i]? with|some [.fsl ..]=>true|_=>false)
  | _=>false
def ez (ν:Nu) (m:Tb bu) (id:Nat):Prop:=∃d ob j,bh m d=some ob/\ob.pt j=true/\ν.at d j=id
def sG (H:bp) (Z:Nat->Prop) (ys:a_ (a_ V)):Prop:=∀c∈ys,∀u∈c,∃x,FR H Z x u
def Ca (H:bp) (Z:Nat->Prop) (a b:a_ (V×V)):Prop:=a.length=b.length/\∀(j:Nat) u v,a[j]? = some u->b[j]? = some v->(u.1=v.1/\u.1.scalar=true)/\FR H Z u.2 v.2
def s7 (ν:Nu) (H:bp) (Z:Nat->Prop) (d i:Nat) (x y:a_ V):Prop:=
 (x=y/\(x=[.bE]\/x=[.c7]))\/∃es t u,x=[.fsl es t]/\y=[.hsl (ν.inn d i) es 0 t.length]/\H[ν.inn d i]? = some (.row es u)/\fm H Z t u
def mP (ν:Nu) (m:Tb bu) (H:bp) (Z:Nat->Prop) (d:Nat) (h:bf (Nat×Nat)) (i:Nat) (x y:a_ V):Prop:=
 match h with
 | some (j,t)=>if j=i then ∃v,y=[v]/\v.one=true/\cF ν m H Z (.own t) v else s7 ν H Z d i x y
 | none=>s7 ν H Z d i x y
def cI (ν:Nu) (m:Tb bu) (H:bp) (Z:Nat->Prop) (d:Nat):bu->Prop
 | .sl k es xs=>if bR k then ∃ys,H[(ν d).1]? = some (.row es ys)/\(ν d).2+xs.length<=ys.length/\fm H Z xs ((ys.drop (ν d).2).take xs.length)/\sG H Z ys/\(k=.row->(ν d).2=0/\ys.length=xs.length)
  else xs=[]
 | .box cs=>∃es B,H[(ν d).1]? = some (.row es [B])/\bS ν m H Z cs B/\B.all V.one=true
 | .mp D=>∃u,H[(ν d).1]? = some (.map u)/\Ca H Z D u
 | .dp k xs h=>if bR k then k=.row/\(ν d).2=0/\(∀i t,h=some (i,t)->i<xs.length)/\∃ys,H[(ν d).1]? = some (.row 1 ys)/\ys.length=xs.length/\∀i x y,xs[i]? = some x->ys[i]? = some y->mP ν m H Z d h i x y
  else xs=[]/\h=none
structure R (ν:Nu) (Z:Nat->Prop) (st:St) (F:Frame) (H:bp):Prop where
 slot:∀s sv,bh st.g s=some sv->cF ν st.m H Z sv (get F s)
 obj:∀d ob,bh st.m d=some ob->cI ν st.m H Z d ob
 inj:∀d d' ob ob' j j',bh st.m d=some ob->bh st.m d'=some ob'->ob.pt j=true->ob'.pt j'=true->ν.at d j=ν.at d' j'->d=d'/\j=j'
 apart:∀d ob j,bh st.m d=some ob->ob.pt j=true->¬Z (ν.at d j)
 zrow:∀id,Z id->(bq H id).isSome=true
 deep:Deep H Z
def sameShape (a b:bu):Prop:=b.tE=a.tE
theorem sameShape.refl (o:bu):sameShape o o:=rfl
theorem sameShape.trans {a b c:bu} (h:sameShape a b) (k:sameShape b c):sameShape a c:=Eq.trans k h
structure Ev (Rv:Nat->Prop) (ν:Nu) (Z:Nat->Prop) (st:St) (H:bp) (ν':Nu) (Z':Nat->Prop) (st':St) (H':bp):Prop where
 len:H.length<=H'.length
 same:∀id,id<H.length->¬ez ν st.m id->¬Z id->¬Rv id->H'[id]? = H[id]?
 rows:∀id,Z id->Z' id/\bq H' id=bq H id
 own:∀id,ez ν' st'.m id->ez ν st.m id\/Rv id\/H.length<=id
 frz:∀id,Z' id->Z id\/ez ν st.m id\/Rv id\/H.length<=id
 pin:∀d∈st.pin,∀ob',bh st'.m d=some ob'->∃ob,bh st.m d=some ob/\ν' d=ν d/\sameShape ob ob'
 pins:st'.pin=st.pin
section
variable {Rv Rv':Nat->Prop} {ν ν' ν2:Nu} {Z Z' Z2:Nat->Prop} {st st' st2:St} {m m':Tb bu} {F F':Frame} {H H' H2:bp}
theorem Ev.refl:Ev Rv ν Z st H ν Z st H:=
 ⟨Nat.le_refl _,λ_ _ _ _ _=>rfl,λ_ h=>⟨h,rfl⟩,λ_ h=>.inl h,λ_ h=>.inl h,λ_ _ t h=>⟨t,h,rfl,.refl _⟩,rfl⟩
theorem Ev.trans (a:Ev Rv ν Z st H ν' Z' st' H') (b:Ev Rv ν' Z' st' H' ν2 Z2 st2 H2):Ev Rv ν Z st H ν2 Z2 st2 H2 where
 len:=Nat.le_trans a.len b.len
 same:=λid z t B hr=>by
  rw[b.same id (Nat.lt_of_lt_of_le z a.len) (λh=>(a.own id h).elim t λh=>h.elim hr λh=>by omega) (λh=>(a.frz id h).elim B λh=>h.elim t λh=>h.elim hr λh=>by omega) hr,a.same id z t B hr]
 rows:=λid h=>⟨(b.rows id (a.rows id h).1).1,by rw[(b.rows id (a.rows id h).1).2,(a.rows id h).2]⟩
 own:=λid h=>by
  rcases b.own id h with h|h|h
  .exact a.own id h
  .grind
  exact .inr (.inr (Nat.le_trans a.len h))
 frz:=λid h=>by
  rcases b.frz id h with h|h|h|h
  .exact a.frz id h
  .rcases a.own id h with h|h|h
   .grind
   .grind
   grind
  .grind
  exact .inr (.inr (.inr (Nat.le_trans a.len h)))
 pin:=λd hd u h=>by
  obtain⟨w,h1,D,C⟩:=b.pin d (by rw[a.pins];omega) u h
  obtain⟨ob,k1,k2,k3⟩:=a.pin d hd w h1;exact⟨ob,k1,by simp_all,k3.trans C⟩
 pins:=by rw[b.pins,a.pins]
theorem Ev.weak (h:∀id,Rv id->Rv' id) (a:Ev Rv ν Z st H ν' Z' st' H'):Ev Rv' ν Z st H ν' Z' st' H':=
 ⟨a.len,λid t u w hr=>a.same id t u w (λk=>hr (h id k)),a.rows,λid k=>(a.own id k).imp (λx=>x) (.imp (h id) (λx=>x)),λid k=>(a.frz id k).imp (λx=>x) (.imp (λx=>x) (.imp (h id) (λx=>x))),a.pin,a.pins⟩
theorem bW {α:Type}:∀(g:Tb α) (n:Nat) (v:α),bh (bB g n v) n=some v
 | [],n,v=>by simp[bB,bh]
 | (k,x)::r,n,v=>by
  simp[bB];split
  next h=>simp[bh,h]
  rename_i h;simp[bh,h,bW r n v]
theorem cn {α:Type}:∀(g:Tb α) {n k:Nat} (v:α),n≠k->bh (bB g n v) k=bh g k
 | [],n,k,v,h=>by simp[bB,bh,h]
 | (j,x)::r,n,k,v,h=>by
  simp[bB];split
  next hk=>subst hk;simp[bh,h]
  simp[bh];split
  .rfl
  exact cn r v h
theorem qx {α:Type}:∀{g:Tb α} {n:Nat} {v:α},bh g n=some v->bB g n v=g
 | [],n,v,h=>by cases h
 | (k,x)::r,n,v,h=>by
  simp[bh]at h;simp[bB];split
  .grind
  rename_i e;rw[if_neg e]at h;rw[qx h]
theorem uN {α:Type}:∀(g:Tb α) (n:Nat),bh (cB n g) n=none
 | [],n=>rfl
 | (k,x)::r,n=>by
  simp[cB];split
  .exact uN r n
  rename_i hk;simp[bh];rw[if_neg hk];exact uN r n
theorem qV {α:Type}:∀(g:Tb α) {n k:Nat},n≠k->bh (cB n g) k=bh g k
 | [],n,k,h=>rfl
 | (j,x)::r,n,k,h=>by
  simp[cB];split
  next hk=>subst hk;simp[bh];rw[if_neg h];exact qV r h
  simp[bh];split
  .rfl
  exact qV r h
theorem jB {α:Type} {g:Tb α} {n k:Nat} {v:α} (h:bh (cB n g) k=some v):n≠k/\bh g k=some v:=by
 by_cases e:n=k
 .subst e;rw[uN]at h;simp_all
 rw[qV g e]at h;grind
theorem m_ {α:Type} {k:Nat} {v:α}:∀{ds:a_ Nat} {g:Tb α},bh (n_ ds g) k=some v->bh g k=some v
 | [],_,h=>h
 | d::ds,g,h=>(jB (m_  h)).2
theorem oR {α:Type} {g:Tb α} {k:Nat} {v:α}:∀{l:a_ Nat} {r:Tb α},jt g l=some r->bh r k=some v->bh g k=some v
 | [],r,h,u=>by simp[jt]at h;subst h;simp[bh]at u
 | n::l,r,h,u=>by
  simp[jt]at h;split at h
  .rename_i w t D B;simp  at h;subst h;simp[bh]at u;split at u
   .grind
   exact oR B u
  grind
theorem w9 {d:Nat}:∀{g:Tb SV} {s:Nat} {sv:SV},sV d g=false->bh g s=some sv->sv.cw d=false
 | [],_,_,_,h=>by simp[bh]at h
 | (k,x)::r,s,sv,h,u=>by
  simp[sV]at h;simp[bh]at u;split at u
  .grind
  exact w9 h.2 u
theorem qd {d:Nat}:∀{g:Tb bu} {s:Nat} {ob:bu},qU d g=false->bh g s=some ob->ob.cw d=false
 | [],_,_,_,h=>by simp[bh]at h
 | (k,x)::r,s,sv,h,u=>by
  simp[qU]at h;simp[bh]at u;split at u
  .grind
  exact qd h.2 u
theorem rZ {d:Nat}:∀{l:a_ SV} {j:Nat} {u:SV},SV.c9 d l=false->l[j]? = some u->u.cw d=false
 | [],_,_,_,h=>by simp_all
 | x::r,j,u,h,B=>by
  simp[SV.c9]at h
  cases j with
  | zero=>grind
  | succ j=>exact rZ h.2 (by simpa using B)
theorem qv {d:Nat}:∀{l:a_ SV} {j:Nat} {u:SV},l[j]? = some u->u.cw d=true->SV.c9 d l=true
 | [],_,_,h,_=>by simp_all
 | x::r,j,u,h,B=>by
  simp[SV.c9]
  cases j with
  | zero=>grind
  | succ j=>exact .inr (qv (j:=j) Zd B)
theorem cF.mono {sv:SV} {y:V} (O:∀id,Z id->Z' id/\bq H' id=bq H id)
 (r:cF ν m H Z sv y) (B:∀d,sv.cw d=true->∀ob',bh m' d=some ob'->∃ob,bh m d=some ob/\ν' d=ν d/\sameShape ob ob'):cF ν' m' H' Z' sv y:=by
 induction r with
 | v x y h=>exact .v x y (h.mono O)
 | own d y h=>
  refine .own d y λob' w=>?_
  obtain⟨ob,h1,z,C⟩:=B d (by simp[SV.cw]) ob' w
  obtain⟨k,es,n,I,rfl⟩:=h ob h1;exact⟨k,es,n,Eq.trans C I,by rw[z]⟩
 | ptr d o y h=>
  refine .ptr d o y λob' w=>?_
  obtain⟨ob,h1,z,C⟩:=B d (by simp[SV.cw]) ob' w
  obtain⟨cs,rfl,rfl⟩:=h ob h1;cases ob' <;> cases C;exact⟨_,rfl,by rw[z]⟩
 | el d i o y h=>
  refine .el d i o y λob' w=>?_
  obtain⟨ob,h1,z,C⟩:=B d (by simp[SV.cw]) ob' w
  obtain⟨k,es,n,I,L,rfl⟩:=h ob h1;exact⟨k,es,n,Eq.trans C I,L,by rw[z]⟩
 | mp d y h=>
  refine .mp d y λob' w=>?_
  obtain⟨ob,h1,z,C⟩:=B d (by simp[SV.cw]) ob' w
  obtain⟨cs,rfl,rfl⟩:=h ob h1;cases ob' <;> cases C;exact⟨_,rfl,by rw[z]⟩
 | clo f a b D Q G S hva T t J=>
  exact .clo f a b D Q G S (λj u v hu hv=>t j u v hu hv λd hd=>B d (by simp[SV.cw,qv hu hd])) (λj u v hu hv=>J j u v hu hv λd hd=>B d (by simp[SV.cw,qv hu hd]))
 | tup a D G hva t=>
  exact .tup a D G (λj u v hu hv=>t j u v hu hv λd hd=>B d (by simp[SV.cw,qv hu hd]))
 | agg a D G hva t=>
  exact .agg a D G (λj u v hu hv=>t j u v hu hv λd hd=>B d (by simp[SV.cw,qv hu hd]))
 | yl id=>exact .yl id
theorem bS.mono {sv:a_ SV} {y:a_ V} (B:∀id,Z id->Z' id/\bq H' id=bq H id)
 (r:bS ν m H Z sv y) (D:∀d,SV.c9 d sv=true->∀ob',bh m' d=some ob'->∃ob,bh m d=some ob/\ν' d=ν d/\sameShape ob ob'):bS ν' m' H' Z' sv y:=
 ⟨r.1,λj u v hu hv=>(r.2 j u v hu hv).mono B λd hd=>D d (qv hu hd)⟩
theorem bS.nil:bS ν m H Z [] []:=⟨rfl,by simp⟩
theorem bS.cons {x:SV} {y:V} {xs:a_ SV} {ys:a_ V} (h:cF ν m H Z x y) (r:bS ν m H Z xs ys):bS ν m H Z (x::xs) (y::ys):=by
 refine⟨by simp[r.1],λj u v hu hv=>?_⟩
 cases j with
 | zero=>grind
 | succ j=>exact r.2 j u v Zd Zd
theorem bS.inv {x:SV} {xs:a_ SV} {B:a_ V} (r:bS ν m H Z (x::xs) B):∃y ys,B=y::ys/\cF ν m H Z x y/\bS ν m H Z xs ys:=by
 cases B with
 | nil=>have:=r.1;grind
 | cons y ys=>
  refine⟨y,ys,rfl,r.2 0 x y rfl rfl,by have:=r.1;grind,λj u v hu hv=>r.2 (j+1) u v Zd Zd⟩
theorem bS.cZ {u:a_ V} (r:bS ν m H Z [] u):u=[]:=by
 have:=r.1
 grind
theorem bS.get {xs:a_ SV} {ys:a_ V} (r:bS ν m H Z xs ys) {j:Nat} {u:SV} (h:xs[j]? = some u):∃v,ys[j]? = some v/\cF ν m H Z u v:=by
 have t  := (ζe.1 h).1;have:j<ys.length:=by rw[<-r.1];omega
 exact⟨ys[j],ζd this,r.2 j u _ h (ζd this)⟩
theorem bS.append {a c:a_ SV} {b d:a_ V} (h:bS ν m H Z a b) (k:bS ν m H Z c d):bS ν m H Z (a++c) (b++d):=by
 refine⟨by simp[h.1,k.1],λj u v hu hv=>?_⟩
 by_cases t:j<a.length
 .rw[List.getElem?_append_left t]at hu;rw[List.getElem?_append_left (by rw[<-h.1];omega)]at hv
  exact h.2 j u v hu hv
 rw[List.getElem?_append_right Za]at hu
 rw[List.getElem?_append_right (by rw[<-h.1];omega),<-h.1]at hv
 exact k.2 _ u v hu hv
theorem bS.take {a:a_ SV} {b:a_ V} (h:bS ν m H Z a b) (n:Nat):bS ν m H Z (a.take n) (b.take n):=by
 refine⟨by simp[h.1],λj u v hu hv=>?_⟩
 rw[List.getElem?_take]at hu hv;split at hu
 next t=>rw[if_pos t]at hv;exact h.2 j u v hu hv
 grind
theorem bS.drop {a:a_ SV} {b:a_ V} (h:bS ν m H Z a b) (n:Nat):bS ν m H Z (a.drop n) (b.drop n):=by
 refine⟨by simp[h.1],λj u v hu hv=>?_⟩
 rw[List.getElem?_drop]at hu hv;exact h.2 _ u v hu hv
theorem cF.fr {x y:V} (r:cF ν m H Z (.v x) y):FR H Z x y:=by cases r;assumption
theorem bS.oM {xs ys:a_ V} (r:c_ H Z xs ys):bS ν m H Z (xs.map .v) ys:=by
 refine⟨by simp[r.1],λj u v hu hv=>?_⟩
 rw[List.getElem?_map,ζf]at hu;obtain⟨x,t,rfl⟩:=hu;exact .v x v (r.2 j x v t hv)
theorem tj:∀{svs:a_ SV} {xs:a_ V},cT svs=some xs->svs=xs.map .v
 | [],xs,h=>by simp[cT]at h;grind
 | x::r,xs,h=>by
  cases x <;> simp only[cT]at h <;> first|grind|skip
  obtain⟨t,u,rfl⟩:=ζf.1 h;rw[tj u];rfl
theorem bS.SQ {xs ys:a_ V} (r:bS ν m H Z (xs.map .v) ys):c_ H Z xs ys:=by
 refine⟨by have:=r.1;grind,λj u v hu hv=>?_⟩
 have:(xs.map SV.v)[j]? = some (.v u):=by grind
 exact(r.2 j _ v this hv).fr
end
section
variable {ν:Nu} {Z:Nat->Prop} {st:St} {m:Tb bu} {F:Frame} {H H1:bp} {N:Nat->FuncId}
def nU (nm:FuncId->bf Nat):Operand->bf Arg
 | .tmp t=>some (.s t)
 | .const v=>match ofValue 4 v with
  | some c=>if c.good then some (.k c)else none
  | none=>none
 | .func f=>(nm f).map .f
 | .global g=>match bK.gl g with
  | some cs=>if(V.fptr cs).good then some (.k (.fptr cs))else none
  | none=>none
theorem Di {nm:FuncId->bf Nat} (D:∀f s,nm f=some s->N s=f) {g:Tb SV} (G:∀s sv,bh g s=some sv->cF ν m H Z sv (get F s)) {o:Operand} {x:Arg} {sv:SV} (u:nU nm o=some x) (hv:pn N g x=some sv) :
 ∃y,ev F o=some y/\cF ν m H Z sv y:=by
 cases o with
 | tmp t=>
  simp[nU]at u;subst u;exact⟨get F t,rfl,G t sv hv⟩
 | const w=>
  simp[nU]at u;split at u
  .rename_i c hc;split at u
   next B=>simp  at u;subst u;simp[pn]at hv;subst hv;exact⟨c,hc,.v _ _ (.same _ B)⟩
   grind
  grind
 | func f=>
  simp[nU]at u;obtain⟨z,C,rfl⟩:=u;simp[pn]at hv;subst hv;exact⟨_,rfl,.v _ _ (by rw[D f z C];exact .same _ rfl)⟩
 | global i=>
  simp[nU]at u;split at u
  .rename_i c hc;split at u
   next B=>simp  at u;subst u;simp[pn]at hv;subst hv;exact⟨.fptr c,by simp[ev,hc],.v _ _ (.same _ B)⟩
   grind
  grind
theorem nq {nm:FuncId->bf Nat} (B:∀f s,nm f=some s->N s=f) {g:Tb SV} (D:∀s sv,bh g s=some sv->cF ν m H Z sv (get F s)):∀{os:a_ Operand} {xs:a_ Arg} {svs:a_ SV},
 os.mapM (nU nm)=some xs->bQ N g xs=some svs->∃ys,eZ F os=some ys/\bS ν m H Z svs ys
 | [],xs,svs,u,hv=>by
  simp  at u;subst u;simp[bQ]at hv;subst hv;exact⟨[],rfl,.nil⟩
 | o::os,xs,svs,u,hv=>by
  simp[ζg]at u;obtain⟨x,G,ys,J,rfl⟩:=u;simp[bQ]at hv;split at hv
  next v C h1 w=>simp  at hv;subst hv;obtain⟨a,u,z⟩:=Di B D G h1;obtain⟨az,has,t⟩:=nq B D J w;exact⟨a::az,by grind[eZ],.cons z t⟩
  grind
theorem cF.fM {d:Nat} {y:V} (r:cF ν m H Z (.own d) y) {ob:bu} (h:bh m d=some ob):∃k es n,ob.tE=.sl k es n/\y=mM (ν d) k es n:=by
 cases r with|own _ _ t=>grind
theorem cF.nQ {d o:Nat} {y:V} (r:cF ν m H Z (.ptr d o) y) {ob:bu} (h:bh m d=some ob):∃cs,ob=.box cs/\y=.hptr (ν d).1 0 o:=by
 cases r with|ptr _ _ _ t=>grind
theorem cF.s8 {d i o:Nat} {y:V} (r:cF ν m H Z (.el d i o) y) {ob:bu} (h:bh m d=some ob):∃k es n,ob.tE=.sl k es n/\bR k=true/\y=.hptr (ν d).1 ((ν d).2+i) o:=by
 cases r with|el _ _ _ _ t=>grind
theorem cF.Bw {d:Nat} {y:V} (r:cF ν m H Z (.mp d) y) {ob:bu} (h:bh m d=some ob):∃u,ob=.mp u/\y=.hmap (ν d).1:=by
 cases r with|mp _ _ t=>grind
theorem cF.j7 {f:FuncId} {a b:a_ SV} {y:V} (r:cF ν m H Z (.clo f a b) y):∃a' u,y=.clo f a' u/\bS ν m H Z a a'/\bS ν m H Z b u:=by
 cases r with|clo _ _ _ a' u w z hva t=>exact⟨a',u,rfl,⟨w,hva⟩,⟨z,t⟩⟩
theorem cF.o9 {a:a_ SV} {y:V} (r:cF ν m H Z (.tup a) y):∃a',y=.tup a'/\bS ν m H Z a a':=by
 cases r with|tup _ a' t hva=>exact⟨a',rfl,t,hva⟩
theorem cF.gV {a:a_ SV} {y:V} (r:cF ν m H Z (.agg a) y):∃a',y=.agg a'/\bS ν m H Z a a':=by
 cases r with|agg _ a' t hva=>exact⟨a',rfl,t,hva⟩
theorem mH {p:Nat×Nat} {k:Fl} {es len:Nat} (h:bR k=true):mM p k es len=.hsl p.1 es p.2 len:=by
 cases k <;> simp[bR]at h <;> rfl
theorem i_ {x:SV} {y:V} (h:jX m x=true) (r:cF ν m H Z x y):y.cells=[y]/\y.one=true:=by
 cases x with
 | v x=>grind[jX]
 | own d=>
  obtain⟨ob,t⟩:=Option.isSome_iff_exists.1 h;obtain⟨k,es,n,_,rfl⟩:=r.fM t;cases k <;> exact⟨rfl,rfl⟩
 | ptr d o=>
  obtain⟨ob,t⟩:=Option.isSome_iff_exists.1 h;obtain⟨cs,rfl,rfl⟩:=r.nQ t;exact⟨rfl,rfl⟩
 | el d i o=>
  obtain⟨ob,t⟩:=Option.isSome_iff_exists.1 h;obtain⟨k,es,n,_,_,rfl⟩:=r.s8 t;exact⟨rfl,rfl⟩
 | mp d=>
  obtain⟨ob,t⟩:=Option.isSome_iff_exists.1 h;obtain⟨u,rfl,rfl⟩:=r.Bw t;exact⟨rfl,rfl⟩
 | clo f a b=>obtain⟨w,z,rfl,_⟩:=r.j7;exact⟨rfl,rfl⟩
 | tup l=>grind[jX]
 | agg l=>grind[jX]
 | yl id=>grind[jX]
theorem KI {x:SV} {y:V} (h:vv m x=true) (r:cF ν m H Z x y):y.one=true:=by
 cases x with
 | v x=>
  have t:=r.fr;have u:x.one=true:=h;have hc:=t.cells;have e:x.cells=[x]:=by cases x <;> first|rfl|grind[V.one]
  rw[e]at hc;have h1:=hc.one;have w:=hc.1
  cases y with
  | agg l=>
   cases t with
   | same _ _=>grind
   | agg _ _ _ _=>grind[V.one]
  | tup l=>
   cases t with
   | same _ _=>grind
   | tup _ _ _ _=>grind[V.one]
  | _=>rfl
 | own d=>exact(i_  (x:=.own d) h r).2
 | ptr d o=>exact(i_  (x:=.ptr d o) h r).2
 | el d i o=>exact(i_  (x:=.el d i o) h r).2
 | mp d=>exact(i_  (x:=.mp d) h r).2
 | clo f a b=>exact(i_  (x:=.clo f a b) h r).2
 | tup l=>grind[vv,jX]
 | agg l=>grind[vv,jX]
 | yl id=>grind[vv,jX]
theorem Ec {l:a_ SV} {ys:a_ V} (h:l.all (vv m)=true) (r:bS ν m H Z l ys):ys.all V.one=true:=by
 refine List.all_eq_true.2 λy u=>?_
 obtain⟨j,w,e⟩:=List.mem_iff_getElem.1 u;have t:j<l.length:=by rw[r.1];omega
 exact KI (List.all_eq_true.1 h _ (List.getElem_mem t)) (r.2 j _ y (ζd t) Zd)
theorem K5 {x:SV} {y:V} {c:a_ SV} (h:wu m x=some c) (r:cF ν m H Z x y):bS ν m H Z c y.cells:=by
 unfold wu at h;split at h
 .cases h;exact bS.oM r.fr.cells
 .cases h;obtain⟨w,rfl,t⟩:=r.gV;exact t
 split at h
 next u=>cases h;rw[(i_ u r).1];exact .cons r .nil
 simp_all
theorem GR:∀{pl:a_ (Nat×Nat)} {vs cells l:a_ SV} {u cells':a_ V},bS ν m H Z cells cells'->bS ν m H Z vs u->qN m cells pl vs=some l->∃B,jL cells' pl u=some B/\bS ν m H Z l B
 | [],[],cells,l,u,cells',hc,hv,h=>by
  rw[hv.cZ];simp[qN]at h;subst h;exact⟨_,rfl,hc⟩
 | [],_::_,_,_,_,_,_,_,h=>by grind[qN]
 | _::_,[],_,_,_,_,_,_,h=>by grind[qN]
 | (off,size)::pl,v::vs,cells,l,u,cells',hc,hv,h=>by
  obtain⟨w,D,rfl,h1,G⟩:=hv.inv;simp only[qN]at h;split at h
  .rename_i c z;have hr:=K5 z h1;split at h
   .obtain⟨B,e1,e2⟩:=GR   (cells':=cells'.take off++w.cells++cells'.drop (off+w.cells.length)) (by rw[<-hr.1];exact((hc.take off).append hr).append (hc.drop _)) G h
    have t:w.cells.length=size/\off+w.cells.length<=cells'.length:=by rw[<-hr.1,<-hc.1];omega
    grind[jL]
   simp_all
  simp_all
theorem GP {size o:Nat} {agg:Bool} {cs:a_ SV} {u:a_ V} {sv:SV} (h:bS ν m H Z cs u) (hp:uf size agg ((cs.drop o).take size)=some sv):∃y,(cut u o size).bind (mk agg)=some y/\cF ν m H Z sv y:=by
 have t:=(h.drop o).take size;unfold uf at hp;split at hp
 .have hc:cut u o size=some ((u.drop o).take size):=by
   unfold cut;rw[if_pos (by rw[<-t.1];omega)]
  rw[hc];split at hp
  .split at hp
   .rename_i C w;cases hp;have z  := by rw[tj w]at t;exact t.SQ
    exact⟨_,by simp_all[mk],.v _ _ (.agg _ _ z.1 z.2)⟩
   cases hp;exact⟨_,by simp_all[mk],.agg _ _ t.1 t.2⟩
  split at hp
  .rename_i x w;simp  at hp;subst hp;rw[w]at t;obtain⟨y,D,e,G,B⟩:=t.inv;rw[e,B.cZ]
   grind[mk]
  grind
 grind
theorem MH {p:tU} {svs:a_ SV} {ys:a_ V} {sv:SV} (hb:∀zero pl,p=.build zero pl->V.cN zero=true) (ho:∀d ob,bh m d=some ob->cI ν m H Z d ob) (h:bS ν m H Z svs ys) (hp:vh N m p svs=some sv):∃y,bP N p ys=some y/\cF ν m H Z sv y:=by
 unfold vh at hp;split at hp
 .
  obtain⟨y,_,rfl,h1,B⟩:=h.inv;rw[B.cZ];simp  at hp;subst hp;exact⟨y,rfl,h1⟩
 .obtain⟨y,_,rfl,h1,B⟩:=h.inv;rw[B.cZ];split at hp
  next L=>simp  at hp;subst hp;obtain⟨ob,u⟩:=Option.isSome_iff_exists.1 L;obtain⟨cs,rfl,rfl⟩:=h1.nQ u;exact⟨_,rfl,h1⟩
  grind
 .obtain⟨y,_,rfl,h1,B⟩:=h.inv;rw[B.cZ];split at hp
  next L=>simp  at hp;subst hp;obtain⟨ob,u⟩:=Option.isSome_iff_exists.1 L;obtain⟨k,es,n,L,hk,rfl⟩:=h1.s8 u;exact⟨_,rfl,h1⟩
  grind
 .
  rename_i t a b;obtain⟨Q,_,rfl,h1,B⟩:=h.inv;obtain⟨T,_,rfl,O,D⟩:=B.inv;obtain⟨w3,_,rfl,h5,h6⟩:=D.inv;rw[h1.fr.bool,h6.cZ];simp  at hp;refine⟨if t=true then T else w3,rfl,?_⟩
  grind
 .
  obtain⟨Q,_,rfl,h1,B⟩:=h.inv;obtain⟨T,_,rfl,O,D⟩:=B.inv;rw[O.fr.bE,D.cZ];split at hp
  .rename_i k es U u;split at hp
   .simp_all
   simp  at hp;subst hp;obtain⟨W,G,I,e,rfl⟩:=h1.fM u;cases e;cases k <;> first|grind|exact⟨_,rfl,.v _ _ (.same _ rfl)⟩
  grind
 .obtain⟨Q,_,rfl,h1,B⟩:=h.inv;obtain⟨T,_,rfl,O,D⟩:=B.inv;rw[O.fr.bE,D.cZ];split at hp
  .rename_i k es U u;split at hp
   .simp_all
   simp  at hp;subst hp;obtain⟨W,G,I,e,rfl⟩:=h1.fM u;cases e;cases k <;> first|grind|exact⟨_,rfl,.v _ _ (.same _ rfl)⟩
  grind
 .
  obtain⟨y,_,rfl,h1,B⟩:=h.inv;rw[B.cZ];split at hp
  next L=>simp  at hp;subst hp;obtain⟨ob,u⟩:=Option.isSome_iff_exists.1 L;obtain⟨cs,rfl,rfl⟩:=h1.nQ u;exact⟨_,rfl,.ptr _ _ _ λJ C=>by grind⟩
  grind
 .obtain⟨y,_,rfl,h1,B⟩:=h.inv;rw[B.cZ];split at hp
  next L=>simp  at hp;subst hp;obtain⟨ob,u⟩:=Option.isSome_iff_exists.1 L;obtain⟨k,es,n,L,hk,rfl⟩:=h1.s8 u;exact⟨_,rfl,.el _ _ _ _ λJ C=>by rw[u]at C;grind⟩
  simp at hp
 .
  obtain⟨Q,_,rfl,h1,B⟩:=h.inv;obtain⟨T,_,rfl,O,D⟩:=B.inv;rw[O.fr.int,D.cZ];split at hp
  .rename_i k es U u;split at hp
   .rename_i hc;obtain⟨hk,rfl,X,S⟩:=hc;simp  at hp;subst hp;obtain⟨W,G,I,e,rfl⟩:=h1.fM u;cases e;rw[mH hk];refine⟨.hptr (ν _).1 ((ν _).2+_) 0,by simp only[bP,kC,if_neg (Int.not_lt.2 X),true_and,if_pos S];rfl,.el _ _ _ _ λJ C=>?_⟩
    rw[u]at C;cases C;exact⟨_,_,_,rfl,hk,rfl⟩
   simp at hp
  .rename_i k U w u;split at hp
   .rename_i hc;obtain⟨hk,rfl,X,S⟩:=hc;simp  at hp;subst hp;obtain⟨W,G,I,e,rfl⟩:=h1.fM u;cases e;rw[mH hk];refine⟨.hptr (ν _).1 ((ν _).2+_) 0,by simp only[bP,kC,if_neg (Int.not_lt.2 X),true_and,if_pos S];rfl,.el _ _ _ _ λJ C=>?_⟩
    rw[u]at C;cases C;exact⟨_,_,_,rfl,hk,rfl⟩
   simp at hp
  simp at hp
 .
  obtain⟨Q,_,rfl,h1,B⟩:=h.inv;obtain⟨T,_,rfl,O,D⟩:=B.inv;rw[O.fr.int,D.cZ];split at hp
  .rename_i hc;simp  at hp;subst hp;obtain⟨ob,u⟩:=Option.isSome_iff_exists.1 hc.2.2;obtain⟨cs,rfl,rfl⟩:=h1.nQ u;refine⟨.hptr (ν _).1 0 (_+_),by simp only[bP,vA,if_pos (And.intro hc.1 hc.2.1)];rfl,.ptr _ _ _ λJ C=>?_⟩
   rw[u]at C;grind
  simp at hp
 .obtain⟨Q,_,rfl,h1,B⟩:=h.inv;obtain⟨T,_,rfl,O,D⟩:=B.inv;rw[O.fr.int,D.cZ];split at hp
  .rename_i hc;simp  at hp;subst hp;obtain⟨ob,u⟩:=Option.isSome_iff_exists.1 hc.2.2;obtain⟨k,es,n,L,hk,rfl⟩:=h1.s8 u;refine⟨.hptr (ν _).1 (_+_) (_+_),by simp only[bP,vA,if_pos (And.intro hc.1 hc.2.1)];rfl,.el _ _ _ _ λJ C=>?_⟩
   rw[u]at C;grind
  simp at hp
 .
  obtain⟨Q,_,rfl,h1,B⟩:=h.inv;rw[B.cZ];split at hp
  .rename_i k es U u;simp  at hp;subst hp;obtain⟨W,G,I,e,rfl⟩:=h1.fM u;cases e;have:=ho _ _ u;simp[cI]at this;cases hk:k <;> simp[hk,bR]at this ⊢
   .subst this;exact⟨_,rfl,.v _ _ (.same _ rfl)⟩
   .subst this;exact⟨_,rfl,.v _ _ (.same _ rfl)⟩
   .exact⟨_,rfl,.v _ _ (.same _ rfl)⟩
   exact⟨_,rfl,.v _ _ (.same _ rfl)⟩
  .rename_i k U w u;simp  at hp;subst hp;obtain⟨W,G,I,e,rfl⟩:=h1.fM u;cases e;have:=ho _ _ u;simp[cI]at this;cases hk:k <;> simp[hk,bR]at this ⊢
   .obtain⟨rfl,_⟩:=this;exact⟨_,rfl,.v _ _ (.same _ rfl)⟩
   .obtain⟨rfl,_⟩:=this;exact⟨_,rfl,.v _ _ (.same _ rfl)⟩
   exact⟨_,rfl,.v _ _ (.same _ rfl)⟩
  simp at hp
 .
  rename_i vs name k;simp  at hp;subst hp;exact⟨_,rfl,.clo _ _ _ _ _ (h.take k).1 (h.drop k).1 (h.take k).2 (h.drop k).2⟩
 .
  obtain⟨Q,_,rfl,h1,B⟩:=h.inv;rw[B.cZ];obtain⟨ws,rfl,hw⟩:=h1.o9;obtain⟨z,hz,Y⟩:=hw.get hp;exact⟨z,hz,Y⟩
 .
  rename_i vs zero pl;obtain⟨l,hl,rfl⟩:=ζf.1 hp;obtain⟨l',h1,B⟩:=GR (bS.oM (c_.same (hb zero pl rfl))) h hl;exact⟨.agg l',by grind[Go.VE.bP],.agg _ _ B.1 B.2⟩
 .
  obtain⟨Q,_,rfl,h1,B⟩:=h.inv;rw[B.cZ];obtain⟨ws,rfl,hw⟩:=h1.gV
  grind[GP,Go.VE.bP]
 grind
theorem Fu {p:tU} {svs:a_ SV} {ys:a_ V} {sv:SV} (u:∀zero pl,p=.build zero pl->V.cN zero=true) (D:∀d ob,bh m d=some ob->cI ν m H Z d ob) (h:bS ν m H Z svs ys) (hp:iJ N m p svs=some sv) :
 ∃y,bP N p ys=some y/\cF ν m H Z sv y:=by
 unfold iJ at hp;split at hp
 next G t=>obtain⟨z,w,rfl⟩:=ζf.1 hp;rw[tj t]at h;obtain⟨B,h1,C⟩:=c_.bP u h.SQ w;exact⟨B,h1,.v _ _ C⟩
 grind[MH]
theorem bS.cT {svs:a_ SV} {xs ys:a_ V} (h:bS ν m H Z svs ys) (u:cT svs=some xs):c_ H Z xs ys:=by
 rw[tj u]at h;exact h.SQ
theorem AI {k:V}:∀{a b:a_ (V×V)} {i:Nat},Ca H Z a b->(gN k a i=some none->gN k b i=some none)/\∀j v,gN k a i=some (some (j,v))->∃B,gN k b i=some (some (j,B))/\FR H Z v B
 | [],b,i,h=>by
  have:b=[]:=List.length_eq_zero_iff.1 (by have:=h.1;grind)
  grind[gN]
 | (k1,x)::a,[],i,h=>by have:=h.1;grind
 | (k1,x)::a,(k2,y)::b,i,h=>by
  obtain⟨⟨e,_⟩,w⟩:=h.2 0 _ _ rfl rfl;subst e;have t:Ca H Z a b:=⟨by have:=h.1;grind,λj u v hu hv=>h.2 (j+1) u v Zd Zd⟩
  have z:=AI (i:=i+1) (k:=k) t
  grind[gN]
theorem uh {kk:vV} {k:V} (h:oC kk k=true):k.scalar=true:=by
 unfold oC at h;split at h
 .rfl
 .rfl
 .simp  at h;obtain⟨a,t⟩:=Option.isSome_iff_exists.1 h.2;exact pQ t
 grind
theorem uD {r:IE} {svs:a_ SV} {ys:a_ V} {sv:SV} (ak:∀s a,r≠.loadF s a) (T:∀kk z ok,r=.lookup kk z ok->z.good=true) (h:bS ν m H Z svs ys) (ho:∀d,SV.c9 d svs=true->∀ob,bh m d=some ob->cI ν m H Z d ob) (hp:n5 m r svs=some sv) :
 ∃y,eF H r ys=some y/\cF ν m H Z sv y:=by
 unfold n5 at hp;split at hp
 .
  obtain⟨U,_,rfl,h1,I⟩:=h.inv;rw[I.cZ];split at hp
  .rename_i cs u;obtain⟨al,e,rfl⟩:=h1.nQ u;obtain⟨es,am,hr,hc,_⟩:=ho _ (by simp[SV.c9,SV.cw]) _ u
   grind[GP,eF,dV,Ob.rows]
  grind
 .
  obtain⟨U,_,rfl,h1,I⟩:=h.inv;rw[I.cZ];split at hp
  .rename_i k es xs u;split at hp
   .rename_i cs W;obtain⟨z,L,rfl⟩:=ζf.1 hp;obtain⟨k1,ab,an,e,hk,rfl⟩:=h1.s8 u;cases e;have:=ho _ (by simp[SV.c9,SV.cw]) _ u
    simp[cI,hk]at this;obtain⟨rs,hr,hl,B,_⟩:=this;obtain⟨c,hc,ad⟩:=B.get W;have hj:=(ζe.1 W).1;rw[List.getElem?_take,if_pos hj,List.getElem?_drop]at hc;obtain⟨r1,w,J⟩:=ζg.1 L;obtain⟨r2,ae,C⟩:=ad.cut w;obtain⟨z',X,Y⟩:=C.mk J;refine⟨z',?_,.v _ _ Y⟩
    grind[eF,dV,Ob.rows]
   grind
  .rename_i k xs j t u;split at hp
   .rename_i hc;obtain⟨rfl,rfl,rfl,rfl⟩:=hc;cases hp;obtain⟨k1,ab,n1,e,hk,rfl⟩:=h1.s8 u;cases e;have:=ho _ (by simp[SV.c9,SV.cw]) _ u
    simp only[cI,hk,if_true]at this;obtain⟨_,h0,af,ys,hr,hl,B⟩:=this;have hj:=af _ _ rfl;have:=B j _ _ (ζd hj) (ζd Za)
    simp only[mP,if_true]at this;obtain⟨v,e1,e2,e3⟩:=this;exact⟨v,by simp[eF,dV,hr,Ob.rows,h0,hl,hj,e1,cut,mk],e3⟩
   grind
  grind
 .
  rename_i size agg p;obtain⟨U,_,rfl,h1,I⟩:=h.inv;rw[I.cZ];obtain⟨z,L,rfl⟩:=ζf.1 hp;obtain⟨r1,w,J⟩:=ζg.1 L;unfold dV at w;split at w
  .rename_i cs;rcases h1.fr.kX with rfl|⟨id,el,off,es,ys,ao,rfl,Y,hr,he,ap,B⟩
   .refine⟨z,by grind[eF,dV],.v _ _ (.same _ ?_)⟩
    have ah  := by have:=h1.fr.good;simpa [V.good]using this
    obtain⟨r',aq,C⟩:=(c_.same (H:=H) (Z:=Z) ah).cut w;obtain⟨z',X,D⟩:=C.mk J;exact D.good
   obtain⟨r2,ae,C⟩:=B.cut w;obtain⟨z',X,D⟩:=C.mk J;refine⟨z',?_,.v _ _ D⟩
   grind[bq,eF,dV,cut]
  all_goals grind
 .
  rename_i kk z ok d k;obtain⟨U,_,rfl,h1,I⟩:=h.inv;obtain⟨w2,_,rfl,h3,h4⟩:=I.inv;rw[h4.cZ];split at hp
  .rename_i O u;split at hp
   .rename_i hk;obtain⟨_,e,rfl⟩:=h1.Bw u;have Q:=h3.fr.scalar.1 (uh hk);subst Q;obtain⟨aj,hr,ai⟩:=ho _ (by simp[SV.c9,SV.cw]) _ u
    obtain⟨f1,f2⟩:=AI   ai;split at hp
    .rename_i j v B;obtain⟨v',ar,aa⟩:=f2 j v B;simp  at hp;subst hp;refine⟨if ok=true then .tup [v',.bool true]else v',by grind[eF,lP],?_⟩
     cases ok
     .exact .v _ _ aa
     refine .v _ _ (.tup _ _ rfl (c_.cons aa (.cons (.same _ rfl) .nil)).2)
    .rename_i B;simp  at hp;subst hp;refine⟨if ok=true then .tup [z,.bool false]else z,by grind[eF,lP],?_⟩
     have L:=T kk z ok rfl;cases ok
     .exact .v _ _ (.same _ L)
     exact .v _ _ (.same _ (by grind[V.good,V.cN]))
    grind
   grind
  grind
 .
  rename_i kk z ok p k;obtain⟨U,_,rfl,h1,I⟩:=h.inv;obtain⟨w2,_,rfl,h3,h4⟩:=I.inv;rw[h4.cZ];obtain⟨x,G,rfl⟩:=ζf.1 hp;simp[eF]at G;have L:=T kk z ok rfl;split at G
  .rename_i O S;have key:lP H U=some O/\V.qK O=true:=by
    unfold lP at S;split at S
    .rw[h1.fr.fQ];simp  at S;subst S;exact⟨rfl,rfl⟩
    .rw[h1.fr.fmap];simp  at S;subst S;exact⟨rfl,by have:=h1.fr.good;grind[V.good]⟩
    all_goals grind
   split at G
   .rename_i hk;have Q:=h3.fr.scalar.1 (uh hk);subst Q;split at G
    .rename_i j v B;simp  at G;subst G;have hv  := by
      have:∀{l:a_ (V×V)} {i:Nat},V.qK l=true->gN w2 l i=some (some (j,v))->v.good=true:=by
       intro l
       induction l with
       | nil=>grind[gN]
       | cons p l ih=>
        intro i hg h;simp[V.qK]at hg;simp[gN]at h
        grind
      exact this key.2 B
     refine⟨if ok=true then .tup [v,.bool true]else v,by grind[eF],?_⟩
     cases ok
     .exact .v _ _ (.same _ hv)
     exact .v _ _ (.same _ (by grind[V.good,V.cN]))
    .rename_i B;simp  at G;subst G;refine⟨if ok=true then .tup [z,.bool false]else z,by grind[eF],?_⟩
     cases ok
     .exact .v _ _ (.same _ L)
     exact .v _ _ (.same _ (by grind[V.good,V.cN]))
    simp at G
   simp at G
  simp at G
 all_goals grind
end
section
variable {Rv:Nat->Prop} {ν ν':Nu} {Z Z':Nat->Prop} {st st':St} {m m':Tb bu} {F F':Frame} {H H':bp}
theorem p_ {k:Fl} {xs:a_ (a_ V)} {h:bf (Nat×Nat)} {i:Nat} (hp:(bu.dp k xs h).pt (i+1)=true):(∀t,h≠some (i,t))/\∃es B,xs[i]? = some [.fsl es B]:=by
 simp only[bu.pt,ζh]at hp;obtain⟨h1,u⟩:=hp;refine⟨λt e=>?_,?_⟩
 .subst e;simp at h1
 split at u
 .exact⟨_,_,by assumption⟩
 cases u
theorem mP.out {d i:Nat} {h:bf (Nat×Nat)} {x y:a_ V} (u:∀t,h≠some (i,t)):mP ν m H Z d h i x y↔s7 ν H Z d i x y:=by
 unfold mP;split
 .rename_i j t;have:j≠i:=λe=>u t (by rw[e])
  rw[if_neg this]
 rfl
theorem cI.at {d:Nat} {ob:bu} (o:cI ν m H Z d ob) {j:Nat} (h:ob.pt j=true):∃x,H[ν.at d j]? = some x:=by
 cases j with
 | zero=>
  have h:dJ ob=true:=h
  cases ob with
  | sl k es u=>
   simp only[dJ]at h;simp only[cI,h,if_true]at o;exact⟨_,o.choose_spec.1⟩
  | box cs=>obtain⟨es,B,hr,_⟩:=o;exact⟨_,hr⟩
  | mp C=>obtain⟨z,hr,_⟩:=o;exact⟨_,hr⟩
  | dp k u w=>
   simp only[dJ]at h;simp only[cI,h,if_true]at o;obtain⟨_,_,_,D,hr,_⟩:=o;exact⟨_,hr⟩
 | succ i=>
  cases ob with
  | dp k u w=>
   obtain⟨h1,es,I,t⟩:=p_ h;simp only[cI]at o;split at o
   .obtain⟨_,_,_,D,hr,J,G⟩:=o;have L:=(ζe.1 t).1;have:=(mP.out h1).1 (G i _ _ t (ζd Za))
    rcases this with⟨_,h|h⟩|⟨_,_,O,_,_,h,_⟩
    .cases h
    .cases h
    exact⟨_,h⟩
   rw[o.1]at t;cases t
  | _=>simp[bu.pt]at h
theorem cI.free {d:Nat} {ob:bu} (o:cI ν m H Z d ob) {j:Nat} (h:ob.pt j=true):H[ν.at d j]? ≠ some .free:=by
 cases j with
 | zero=>
  have h:dJ ob=true:=h;show H[(ν d).1]? ≠ _
  cases ob with
  | sl k es u=>simp only[dJ]at h;simp only[cI,h,if_true]at o;obtain⟨z,hr,_⟩:=o;rw[hr];simp
  | box cs=>obtain⟨es,C,hr,_⟩:=o;rw[hr];simp
  | mp D=>obtain⟨B,hr,_⟩:=o;rw[hr];simp
  | dp k u w=>simp only[dJ]at h;simp only[cI,h,if_true]at o;obtain⟨_,_,_,z,hr,_⟩:=o;rw[hr];simp
 | succ i=>
  cases ob with
  | dp k u w=>
   obtain⟨h1,es,I,t⟩:=p_ h;simp only[cI]at o;split at o
   .obtain⟨_,_,_,z,hr,J,G⟩:=o;have L:=(ζe.1 t).1;rcases (mP.out h1).1 (G i _ _ t (ζd Za))with⟨_,h|h⟩|⟨_,_,O,_,_,h,_⟩
    .cases h
    .cases h
    show H[ν.inn d i]? ≠ _;rw[h];simp
   rw[o.1]at t;cases t
  | _=>simp[bu.pt]at h
theorem R.lt (r:R ν Z st F H) {id:Nat} (h:ez ν st.m id):id<H.length:=by
 obtain⟨d,ob,j,h1,t,rfl⟩:=h;obtain⟨o,u⟩:=(r.obj d ob h1).at t;exact(ζe.1 u).1
theorem R.tw (r:R ν Z st F H) {id:Nat} (h:Z id):id<H.length:=by
 have:=r.zrow id h;unfold bq at this;obtain⟨x,t⟩:=Option.isSome_iff_exists.1 this;obtain⟨ob,h1,_⟩:=ζg.1 t;exact(ζe.1 h1).1
theorem Deep.mono (d:Deep H Z) (h:∀id,Z id->bq H' id=bq H id):Deep H' Z where
 row:=λid es w t hr c hc u hu=>by
  rw[h id t]at hr;obtain⟨x,z⟩:=d.row id es w t hr c hc u hu;exact⟨x,z.mono λk hk=>⟨hk,h k hk⟩⟩
theorem sG.mono {ys:a_ (a_ V)} (h:∀id,Z id->Z' id/\bq H' id=bq H id) (s:sG H Z ys):sG H' Z' ys:=λc hc u hu=>by
 obtain⟨x,t⟩:=s c hc u hu;exact⟨x,t.mono h⟩
theorem Ca.mono {a b:a_ (V×V)} (h:∀id,Z id->Z' id/\bq H' id=bq H id) (s:Ca H Z a b):Ca H' Z' a b:=⟨s.1,λj u v hu hv=>⟨(s.2 j u v hu hv).1,(s.2 j u v hu hv).2.mono h⟩⟩
theorem cI.mono {d J:Nat} {ob:bu} (B:∀id,Z id->Z' id/\bq H' id=bq H id) (hd:ν' J=ν d) (D:∀j,ob.pt j=true->H'[ν.at d j]? = H[ν.at d j]?)
 (T:∀e,ob.cw e=true->∀ob',bh m' e=some ob'->∃ob,bh m e=some ob/\ν' e=ν e/\sameShape ob ob') (o:cI ν m H Z d ob) (U:ν'.inn J=ν.inn d:=by rfl):cI ν' m' H' Z' J ob:=by
 cases ob with
 | sl k es X=>
  simp only[cI,hd]at o ⊢;split
  next hk=>rw[if_pos hk]at o;obtain⟨I,h1,u,C,L,O⟩:=o;exact⟨I,(D 0 (by simpa [bu.pt,dJ]using hk)).trans h1,u,C.mono B,L.mono B,O⟩
  rename_i hk;rw[if_neg hk]at o;exact o
 | box cs=>
  obtain⟨es,Q,h1,u,C⟩:=o;exact⟨es,Q,by rw[hd];exact(D 0 rfl).trans h1,u.mono B T,C⟩
 | mp Y=>
  obtain⟨G,h1,u⟩:=o;exact⟨G,by rw[hd];exact(D 0 rfl).trans h1,u.mono B⟩
 | dp k X w=>
  simp only[cI,hd]at o ⊢;split
  .rename_i hk;rw[if_pos hk]at o;obtain⟨h0,h1,u,I,C,L,O⟩:=o;refine⟨h0,h1,u,I,(D 0 hk).trans C,L,λi x y W hy=>?_⟩
   have hc:(∀t,w≠some (i,t))->s7 ν H Z d i x y->s7 ν' H' Z' J i x y:=λz h=>by
    rcases h with h|⟨es,zs,ws,rfl,rfl,e1,e2⟩
    .exact .inl h
    refine .inr ⟨es,zs,ws,rfl,by rw[U],?_,e2.mono B⟩
    rw[U];have:=D (i+1) (by simp only[bu.pt,W,Bool.and_true];split <;> grind)
    simp only[Nu.at]at this;rw[this];exact e1
   have S:=O i x y W hy
   by_cases z:∃t,w=some (i,t)
   .obtain⟨t,rfl⟩:=z;simp only[mP,if_true]at S ⊢;obtain⟨v,e1,e2,e3⟩:=S;exact⟨v,e1,e2,e3.mono B λe he=>T e (by simpa [SV.cw,bu.cw]using he)⟩
   have z:∀t,w≠some (i,t):=λt e=>z ⟨t,e⟩
   exact(mP.out z).2 (hc z ((mP.out z).1 S))
  rename_i hk;rw[if_neg hk]at o;exact o
theorem iq (ν:Nu) (m:Tb bu) (e:Nat):∀ob',bh m e=some ob'->∃ob,bh m e=some ob/\ν e=ν e/\sameShape ob ob':=λob' h=>⟨ob',h,rfl,.refl _⟩
theorem R.heap (r:R ν Z st F H) (B:∀id,ez ν st.m id->H'[id]? = H[id]?) (u:∀id,Z id->bq H' id=bq H id):R ν Z st F H' where
 slot:=λs t w=>(r.slot s t w).mono (λid h=>⟨h,u id h⟩) λd _=>iq ν st.m d
 obj:=λd ob hd=>cI.mono (λid h=>⟨h,u id h⟩) rfl (λj z=>B _ ⟨d,ob,j,hd,z,rfl⟩) (λe _=>iq ν st.m e) (r.obj d ob hd)
 inj:=r.inj
 apart:=r.apart
 zrow:=λid h=>by rw[u id h];exact r.zrow id h
 deep:=r.deep.mono u
theorem R.put (r:R ν Z st F H) {d:Nat} {sv:SV} {y:V} (h:cF ν st.m H Z sv y):R ν Z { st with g:=bB st.g d sv } (set F d y) H where
 slot:=λs x t=>by
  by_cases e:d=s
  .subst e;rw[bW]at t;cases t;rw[uj];exact h
  rw[cn st.g sv e]at t;rw[iE _ _ e];exact r.slot s x t
 obj:=r.obj
 inj:=r.inj
 apart:=r.apart
 zrow:=r.zrow
 deep:=r.deep
theorem Ev.slots (g:Tb SV):Ev Rv ν Z st H ν Z { st with g:=g } H:=
 ⟨Nat.le_refl _,λ_ _ _ _ _=>rfl,λ_ h=>⟨h,rfl⟩,λ_ h=>.inl h,λ_ h=>.inl h,λ_ _ t h=>⟨t,h,rfl,.refl _⟩,rfl⟩
def fV (ν:Nu) (d:Nat) (p:Nat×Nat):Nu:=⟨λk=>if k=d then p else ν k,ν.inn⟩
theorem gz (ν:Nu) (d:Nat) (p:Nat×Nat):fV ν d p d=p:=if_pos rfl
theorem zk (ν:Nu) {d k:Nat} (p:Nat×Nat) (h:k≠d):fV ν d p k=ν k:=if_neg h
theorem Ig (ν:Nu) {d k:Nat} (p:Nat×Nat) (h:k≠d) (j:Nat):(fV ν d p).at k j=ν.at k j:=by
 cases j with
 | zero=>simp only[Nu.at,zk ν p h]
 | succ i=>rfl
def bu.flat (ob:bu):Prop:=∀j,ob.pt j=true->j=0
theorem iU {ob:bu} (h:∀k xs w,ob≠.dp k xs w):ob.flat:=λj t=>by
 cases j with
 | zero=>rfl
 | succ i=>cases ob <;> simp[bu.pt]at t h
theorem jb {d:Nat} (h:st.new d=true):d∉st.pin/\bh st.m d=none/\sV d st.g=false/\qU d st.m=false:=by
 unfold St.new at h;simp only[ζh,Bool.not_eq_true',Option.isNone_iff_eq_none,List.contains_eq_mem,decide_eq_false_iff_not]at h;exact⟨h.1.1.1,h.1.1.2,h.1.2,h.2⟩
theorem xw {d:Nat} {ob:bu} {p:Nat×Nat} {e:Nat} (h:e≠d):∀ob',bh (bB m d ob) e=some ob'->∃ob,bh m e=some ob/\fV ν d p e=ν e/\sameShape ob ob':=λob' t=>by
 rw[cn m ob (Ne.symm h)]at t;exact⟨ob',t,zk ν p h,.refl _⟩
theorem lH {ob ob':bu} (B:dJ ob'=dJ ob) (u:ob'.flat:=by exact iU Zc):∀j,ob'.pt j=true->ob.pt j=true:=λj h=>by
 have:=u j h;subst this;exact(show dJ ob=true from B▸h)
def iG (ν:Nu) (d:Nat) (p:Nat×Nat) (f:Nat->Nat):Nu:=⟨λk=>if k=d then p else ν k,λk=>if k=d then f else ν.inn k⟩
theorem qb (ν:Nu) {d k:Nat} (p:Nat×Nat) (f:Nat->Nat) (h:k≠d) (j:Nat):(iG ν d p f).at k j=ν.at k j:=by
 cases j with
 | zero=>exact congrArg Prod.fst (if_neg h)
 | succ i=>exact congrFun (if_neg h) i
theorem lE (ν:Nu) (d:Nat) (p:Nat×Nat) (f:Nat->Nat):(iG ν d p f) d=p/\(iG ν d p f).inn d=f:=⟨if_pos rfl,if_pos rfl⟩
theorem Ny (ν:Nu) (d:Nat) (p:Nat×Nat):fV ν d p=iG ν d p (ν.inn d):=by
 have:(iG ν d p (ν.inn d)).inn=ν.inn:=funext λk=>by
  show (if k=d then ν.inn d else ν.inn k)=_;split
  next h=>rw[h]
  rfl
 show (⟨_,ν.inn⟩:Nu)=⟨_,(iG ν d p (ν.inn d)).inn⟩;rw[this]
theorem R.NL (r:R ν Z st F H) {d:Nat} {ob:bu} {p:Nat×Nat} {f:Nat->Nat} (n2:bh st.m d=none) (T:sV d st.g=false) (U:∀e o,bh st.m e=some o->o.cw d=true->cI (iG ν d p f) (bB st.m d ob) H Z e o)
 (J:∀j,ob.pt j=true->¬ez ν st.m ((iG ν d p f).at d j)/\¬Z ((iG ν d p f).at d j)) (W:∀j O,ob.pt j=true->ob.pt O=true->(iG ν d p f).at d j=(iG ν d p f).at d O->j=O) (Y:cI (iG ν d p f) (bB st.m d ob) H Z d ob) :
 R (iG ν d p f) Z { st with m:=bB st.m d ob } F H:=by
 have key:∀u t,bh (bB st.m d ob) u=some t->u≠d->bh st.m u=some t:=λu t h e=>by rw[cn st.m ob (Ne.symm e)]at h;exact h
 have L:∀e,e≠d->∀t,bh (bB st.m d ob) e=some t->∃ob,bh st.m e=some ob/\(iG ν d p f) e=ν e/\sameShape ob t:=λe C t h=>⟨t,key e t h C,if_neg C,.refl _⟩
 refine⟨λs X D=>?_,λu t hd=>?_,?_,?_,r.zrow,r.deep⟩
 .refine(r.slot s X D).mono (λid h=>⟨h,rfl⟩) λe C=>L e ?_
  rintro rfl;rw[w9 T D]at C;cases C
 .by_cases e:u=d
  .subst e;simp only at hd;rw[bW]at hd;cases hd;exact Y
  have G:=key u t hd e
  by_cases D:t.cw d=true
  .exact U u t G D
  refine cI.mono (λid h=>⟨h,rfl⟩) (if_neg e) (λ_ _=>rfl) (λk hk=>L k ?_) (r.obj u t G) (if_neg e)
  rintro rfl;exact D hk
 .intro d1 d2 o1 o2 Q S h1 w z I B
  by_cases e1:d1=d <;> by_cases e2:d2=d
  .subst e1;subst e2;simp only at h1 w;rw[bW]at h1 w;cases h1;cases w;exact⟨rfl,W _ _ z I B⟩
  .subst e1;simp only at h1;rw[bW]at h1;cases h1;rw[qb ν p f e2]at B;exact absurd ⟨d2,o2,S,key d2 o2 w e2,I,B.symm⟩ (J _ z).1
  .subst e2;simp only at w;rw[bW]at w;cases w;rw[qb ν p f e1]at B;exact absurd ⟨d1,o1,Q,key d1 o1 h1 e1,z,B⟩ (J _ I).1
  rw[qb ν p f e1,qb ν p f e2]at B;exact r.inj d1 d2 o1 o2 Q S (key d1 o1 h1 e1) (key d2 o2 w e2) z I B
 intro d1 o1 j h1 z
 by_cases e1:d1=d
 .subst e1;simp only at h1;rw[bW]at h1;cases h1;exact(J _ z).2
 rw[qb ν p f e1];exact r.apart d1 o1 j (key d1 o1 h1 e1) z
theorem R.add (r:R ν Z st F H) {d:Nat} (D:st.new d=true) {ob:bu} {p:Nat×Nat} (G:dJ ob=true->¬ez ν st.m p.1/\¬Z p.1) (B:cI (fV ν d p) (bB st.m d ob) H Z d ob) (u:ob.flat:=by exact iU Zc) :
 R (fV ν d p) Z { st with m:=bB st.m d ob } F H:=by
 obtain⟨_,w,z,C⟩:=jb D;rw[Ny]at B ⊢;refine r.NL w z (λe o h t=>?_) (λj h=>?_) (λj J h I _=>by rw[u _ h,u _ I]) B
 .rw[qd C h]at t;cases t
 have:=u _ h;subst this;simp only[Nu.at,lE];exact G h
theorem E6 {d:Nat} {ob:bu} {p:Nat×Nat} {f:Nat->Nat} {id:Nat} (h:ez (iG ν d p f) (bB m d ob) id):ez ν m id\/∃j,ob.pt j=true/\(iG ν d p f).at d j=id:=by
 obtain⟨k,o,j,h1,u,t⟩:=h
 by_cases e:k=d
 .subst e;rw[bW]at h1;cases h1;exact .inr ⟨j,u,t⟩
 rw[qb ν p f e]at t;rw[cn m ob (Ne.symm e)]at h1;exact .inl ⟨k,o,j,h1,u,t⟩
theorem zQ {d:Nat} {ob:bu} {p:Nat×Nat} {id:Nat} (h:ez (fV ν d p) (bB m d ob) id) (u:ob.flat:=by exact iU Zc):ez ν m id\/(dJ ob=true/\id=p.1):=by
 obtain⟨k,o,j,h1,w,t⟩:=h
 by_cases e:k=d
 .subst e;rw[bW]at h1;cases h1;have:=u _ w;subst this;simp only[Nu.at,gz]at t;exact .inr ⟨w,t.symm⟩
 rw[Ig ν p e]at t;rw[cn m ob (Ne.symm e)]at h1;exact .inl ⟨k,o,j,h1,w,t⟩
theorem Ev.add {d:Nat} (B:st.new d=true) {ob:bu} {p:Nat×Nat} (D:H.length<=H'.length) (G:∀id,id<H.length->¬Rv id->H'[id]? = H[id]?) (J:∀id,Z id->bq H' id=bq H id)
 (hp:dJ ob=true->Rv p.1\/H.length<=p.1) (u:ob.flat:=by exact iU Zc):Ev Rv ν Z st H (fV ν d p) Z { st with m:=bB st.m d ob } H' where
 len:=D
 same:=λid h _ _ hr=>G id h hr
 rows:=λid h=>⟨h,J id h⟩
 own:=λid h=>by
  rcases zQ h u with h|⟨h1,rfl⟩
  .exact .inl h
  exact .inr (hp h1)
 frz:=λid h=>.inl h
 pin:=λe w t h=>by
  have:e≠d:=by rintro rfl;exact(jb B).1 w
  exact xw this t h
 pins:=rfl
theorem R.CH (r:R ν Z st F H) {d:Nat} {ob ob':bu} (B:bh st.m d=some ob) (D:sameShape ob ob') (T:∀j,ob'.pt j=true->ob.pt j=true) (O:∀id,(dJ ob=true->id≠(ν d).1)->H'[id]? = H[id]?)
 (U:cI ν (bB st.m d ob') H' Z d ob'):R ν Z { st with m:=bB st.m d ob' } F H':=by
 have w:∀id,Z id->Z id/\bq H' id=bq H id:=λid h=>⟨h,by
  unfold bq;rw[O id (by rintro z rfl;exact r.apart d ob 0 B z h)]⟩
 have Q:∀e t,bh (bB st.m d ob') e=some t->∃u,bh st.m e=some u/\ν e=ν e/\sameShape u t:=λe t h=>by
  by_cases k:e=d
  .subst k;rw[bW]at h;cases h;exact⟨ob,B,rfl,D⟩
  rw[cn st.m ob' (Ne.symm k)]at h;exact⟨t,h,rfl,.refl _⟩
 have C:∀e t,bh (bB st.m d ob') e=some t->∃u,bh st.m e=some u/\∀j,t.pt j=true->u.pt j=true:=λe t h=>by
  by_cases k:e=d
  .subst k;rw[bW]at h;cases h;exact⟨ob,B,T⟩
  rw[cn st.m ob' (Ne.symm k)]at h;exact⟨t,h,λ_ h=>h⟩
 refine⟨λs S D=>(r.slot s S D).mono w λe _=>Q e,λG t hd=>?_,?_,?_,λid h=>by rw[(w id h).2];exact r.zrow id h,r.deep.mono λid h=>(w id h).2⟩
 .by_cases e:G=d
  .subst e;simp only at hd;rw[bW]at hd;cases hd;exact U
  simp only at hd;rw[cn st.m ob' (Ne.symm e)]at hd;refine cI.mono w rfl (λj I=>O _ λz h=>e (r.inj G d t ob j 0 hd B I z h).1) (λk _=>Q k) (r.obj G t hd)
 .intro d1 d2 o1 o2 W X h1 Y J b2 hp;obtain⟨p1,k1,L⟩:=C d1 o1 h1;obtain⟨p2,k2,l2⟩:=C d2 o2 Y;exact r.inj d1 d2 p1 p2 W X k1 k2 (L _ J) (l2 _ b2) hp
 intro d1 o1 j h1 J;obtain⟨p1,k1,L⟩:=C d1 o1 h1;exact r.apart d1 p1 j k1 (L _ J)
theorem Ev.CH (r:R ν Z st F H) {d:Nat} {ob ob':bu} (u:bh st.m d=some ob) (D:sameShape ob ob') (G:∀j,ob'.pt j=true->ob.pt j=true) (B:∀id,(dJ ob=true->id≠(ν d).1)->H'[id]? = H[id]?) (J:H.length<=H'.length) :
 Ev Rv ν Z st H ν Z { st with m:=bB st.m d ob' } H' where
 len:=J
 same:=λid _ I _ _=>B id λt e=>I ⟨d,ob,0,u,t,e.symm⟩
 rows:=λid h=>⟨h,by unfold bq;rw[B id (by rintro t rfl;exact r.apart d ob 0 u t h)]⟩
 own:=λid ⟨k,o,j,h1,z,C⟩=>by
  by_cases e:k=d
  .subst e;simp only at h1;rw[bW]at h1;cases h1;exact .inl ⟨k,ob,j,u,G _ z,C⟩
  simp only at h1;rw[cn st.m ob' (Ne.symm e)]at h1;exact .inl ⟨k,o,j,h1,z,C⟩
 frz:=λid h=>.inl h
 pin:=λe _ w h=>by
  by_cases k:e=d
  .subst k;simp only at h;rw[bW]at h;cases h;exact⟨ob,u,rfl,D⟩
  simp only at h;rw[cn st.m ob' (Ne.symm k)]at h;exact⟨w,h,rfl,.refl _⟩
 pins:=rfl
theorem R.fJ (r:R ν Z st F H) {d:Nat} {ob ob':bu} (B:bh st.m d=some ob) (D:sameShape ob ob') (G:∀j,ob'.pt j=true->ob.pt j=true) (J:∀id,id≠(ν d).1->H'[id]? = H[id]?) (u:dJ ob=true)
 (O:cI ν (bB st.m d ob') H' Z d ob'):R ν Z { st with m:=bB st.m d ob' } F H':=r.CH B D G (λid h=>J id (h u)) O
theorem Ev.fJ (r:R ν Z st F H) {d:Nat} {ob ob':bu} (B:bh st.m d=some ob) (D:sameShape ob ob') (G:∀j,ob'.pt j=true->ob.pt j=true) (J:∀id,id≠(ν d).1->H'[id]? = H[id]?) (u:dJ ob=true) (O:H.length<=H'.length) :
 Ev Rv ν Z st H ν Z { st with m:=bB st.m d ob' } H':=Ev.CH r B D G (λid h=>J id (h u)) O
theorem R.less (r:R ν Z st F H) {g:Tb SV} {m':Tb bu} (hg:∀s sv,bh g s=some sv->bh st.g s=some sv) (u:∀d ob,bh m' d=some ob->bh st.m d=some ob):R ν Z { st with g:=g,m:=m' } F H where
 slot:=λs sv z=>(r.slot s sv (hg s sv z)).mono (λid h=>⟨h,rfl⟩) λe _ t h=>⟨t,u e t h,rfl,.refl _⟩
 obj:=λd ob hd=>cI.mono (λid h=>⟨h,rfl⟩) rfl (λ_ _=>rfl) (λe _ t h=>⟨t,u e t h,rfl,.refl _⟩) (r.obj d ob (u d ob hd))
 inj:=λd w ob t j B h1 C=>r.inj d w ob t j B (u d ob h1) (u w t C)
 apart:=λd ob j h=>r.apart d ob j (u d ob h)
 zrow:=r.zrow
 deep:=r.deep
theorem Ev.less {g:Tb SV} {m':Tb bu} (u:∀d ob,bh m' d=some ob->bh st.m d=some ob):Ev Rv ν Z st H ν Z { st with g:=g,m:=m' } H:=
 ⟨Nat.le_refl _,λ_ _ _ _ _=>rfl,λ_ h=>⟨h,rfl⟩,λ_ ⟨d,ob,j,h1,w,z⟩=>.inl ⟨d,ob,j,u d ob h1,w,z⟩,λ_ h=>.inl h,λe _ t h=>⟨t,u e t h,rfl,.refl _⟩,rfl⟩
theorem Ev.heap (u:H.length<=H'.length) (B:∀id,id<H.length->¬ez ν st.m id->¬Z id->¬Rv id->H'[id]? = H[id]?) (D:∀id,Z id->bq H' id=bq H id):Ev Rv ν Z st H ν Z st H':=
 ⟨u,B,λid h=>⟨h,D id h⟩,λ_ h=>.inl h,λ_ h=>.inl h,λ_ _ t h=>⟨t,h,rfl,.refl _⟩,rfl⟩
theorem fm.wX {xs ys:a_ (a_ V)} (h:fm H Z xs ys):sG H Z ys:=λc hc u hu=>by
 obtain⟨i,w⟩:=List.mem_iff_getElem?.1 hc;have z:i<xs.length:=by rw[h.1];grind
 have hr:=h.2 i _ c (ζd z) w;obtain⟨j,B⟩:=List.mem_iff_getElem?.1 hu;have t:j<(xs[i]).length:=by rw[hr.1];grind
 exact⟨_,hr.2 j _ u (ζd t) B⟩
theorem fm.same {xs:a_ (a_ V)} (h:V.lQ xs=true):fm H Z xs xs:=
 ⟨rfl,λj u v hu hv=>by rw[hu]at hv;grind[c_.same,jJ]⟩
theorem mZ {z:a_ V} (h:V.cN z=true):∀n,V.lQ (List.replicate n z)=true
 | 0=>rfl
 | n+1=>by simp[List.replicate_succ,V.lQ,h,mZ h n]
theorem Ag {es:Nat}:∀{ps qs:a_ (Nat×V)} {xs u r:a_ (a_ V)},fm H Z xs u->ps.map (·.1)=qs.map (·.1)->c_ H Z (ps.map (·.2)) (qs.map (·.2))->eP es xs ps=some r->∃D,eP es u qs=some D/\fm H Z r D
 | [],qs,xs,u,r,B,h1,G,h=>by
  simp_all[eP]
 | (i,v)::ps,qs,xs,u,r,B,h1,G,h=>by
  cases qs with
  | nil=>simp_all
  | cons q qs=>
   obtain⟨j,w⟩:=q;simp  at h1;obtain⟨e,h1⟩:=h1;subst e;obtain⟨w',C,e,t,z⟩:=G.inv;obtain⟨rfl,rfl⟩:=e;have hc:=t.cells;simp only[eP]at h ⊢;split at h
   .rw[if_pos ⟨by rw[<-hc.1];grind,by rw[<-B.1];grind,by rw[hc.one];grind⟩]
    exact Ag (B.set i hc) h1 z h
   grind
theorem zip_fst:∀{idx:a_ Nat} {xs:a_ V},idx.length=xs.length->(idx.zip xs).map (·.1)=idx
 | [],xs,_=>by simp
 | i::idx,[],h=>by simp_all
 | i::idx,x::xs,h=>by simp[zip_fst (idx:=idx) (xs:=xs) Zd]
theorem CY:∀{idx:a_ Nat} {xs:a_ V},idx.length=xs.length->(idx.zip xs).map (·.2)=xs
 | [],[],_=>by simp
 | [],x::xs,h=>by simp_all
 | i::idx,[],h=>by simp_all
 | i::idx,x::xs,h=>by simp[CY (idx:=idx) (xs:=xs) Zd]
theorem KK {a:KN} {svs:a_ SV} {ys:a_ V} {d:Nat} {ob:bu} {sv:SV} (hk:zD (.a a)=true) (r:bS ν m H Z svs ys) (h:lR m a svs d=some (ob,sv)) :
 ∃o mk,kr a ys=some (o,mk)/\dJ ob=true/\ob.flat/\o≠.free/\∀(id:Nat) (ν':Nu) (m':Tb bu) (H':bp),ν' d=(id,0)->bh m' d=some ob->H'[id]? = some o->(∀k,Z k->bq H' k=bq H k) ->
  (∀e,SV.c9 e svs=true->∀ob',bh m' e=some ob'->∃ob,bh m e=some ob/\ν' e=ν e/\sameShape ob ob')->cI ν' m' H' Z d ob/\cF ν' m' H' Z sv (mk.val id):=by
 unfold lR at h;split at h
 .
  rename_i size zero;obtain⟨rfl,rfl⟩:=h;rw[r.cZ];simp only[zD,ζh]at hk;refine⟨_,_,rfl,rfl,iU Zc,by simp,λid ν' m' H' e1 e2 e3 e4 e5=>⟨⟨_,zero,by rw[e1];omega,bS.oM (c_.same hk.1),hk.2⟩,?_⟩⟩
  exact .ptr _ _ _ λob' u=>by rw[e2]at u;cases u;exact⟨_,rfl,by rw[e1];rfl⟩
 .
  split at h
  .rename_i C;obtain⟨rfl,rfl⟩:=h;obtain⟨y,_,rfl,h1,B⟩:=r.inv;rw[B.cZ];have hc:=h1.fr.cells;refine⟨.row y.cells.length [y.cells],.ptr,by simp[kr,hc.one,C],rfl,iU Zc,by simp,λid ν' m' H' e1 e2 e3 e4 e5=>⟨⟨_,y.cells,by rw[e1];omega,bS.oM (hc.mono λk hk=>⟨hk,e4 k hk⟩),by rw[hc.one];simp_all⟩,?_⟩⟩
   exact .ptr _ _ _ λob' u=>by rw[e2]at u;cases u;exact⟨_,rfl,by rw[e1];rfl⟩
  grind
 .
  split at h
  .rename_i w;obtain⟨rfl,rfl⟩:=h;obtain⟨y,_,rfl,h1,B⟩:=r.inv;rw[B.cZ];obtain⟨S,rfl,X⟩:=h1.gV;have D:=Ec w X;refine⟨.row S.length [S],.ptr,by grind[kr,V.cells],rfl,iU Zc,by simp,λid ν' m' H' e1 e2 e3 e4 e5=>⟨⟨_,S,by rw[e1];omega,X.mono (λk hk=>⟨hk,e4 k hk⟩) λe T=>e5 e (by grind[SV.c9,SV.cw]),D⟩,?_⟩⟩
   exact .ptr _ _ _ λob' u=>by rw[e2]at u;cases u;exact⟨_,rfl,by rw[e1];rfl⟩
  grind
 .
  split at h
  .rename_i w;obtain⟨rfl,rfl⟩:=h;obtain⟨y,_,rfl,h1,B⟩:=r.inv;rw[B.cZ];obtain⟨Y,D⟩:=i_ w h1;refine⟨.row [y].length [[y]],.ptr,by grind[kr],rfl,iU Zc,by simp,λid ν' m' H' e1 e2 e3 e4 e5=>⟨⟨_,[y],by rw[e1];omega,.cons (h1.mono (λk hk=>⟨hk,e4 k hk⟩) λe T=>e5 e (by grind[SV.c9])) .nil,by simp_all⟩,?_⟩⟩
   exact .ptr _ _ _ λob' u=>by rw[e2]at u;cases u;exact⟨_,rfl,by rw[e1];rfl⟩
  grind
 .
  rename_i size zero k n k' c;obtain⟨_,_,rfl,h1,B⟩:=r.inv;obtain⟨_,_,rfl,h3,h4⟩:=B.inv;rw[h1.fr.int,h3.fr.int,h4.cZ];split at h
  .rename_i hc;obtain⟨rfl,rfl⟩:=h;have U:bR (if n=c then Fl.row else Fl.part)=true:=by split <;> rfl
   refine⟨_,_,by simp only[kr];rw[if_pos hc],U,iU Zc,by simp,λid ν' m' H' e1 e2 e3 e4 e5=>⟨?_,?_⟩⟩
   .simp[cI,U,e1];have hg:=mZ hk c.toNat;have W:n.toNat<=c.toNat:=by omega
    refine⟨_,e3,by simp_all,?_,(fm.same hg).wX,λe=>?_⟩
    .simp[Nat.min_eq_left W];exact fm.same (mZ hk _)
    grind
   refine .own _ _ λob' u=>?_
   rw[e2]at u;cases u;exact⟨_,_,_,rfl,by rw[mH U,e1];simp[Mk.val]⟩
  grind
 .
  rename_i vs size len zero idx;split at h
  .rename_i xs G;split at h
   .rename_i w;obtain⟨rows,hr,e⟩:=ζf.1 h;obtain⟨rfl,rfl⟩:=e;have O:=r.cT G;obtain⟨rows',I,z⟩:=Ag   (qs:=idx.zip ys) (fm.same (mZ hk len)) (by rw[zip_fst w,zip_fst (by rw[<-O.1];exact w)]) (by rw[CY w,CY (by rw[<-O.1];exact w)];exact O) hr
    have J:rows'.length=len:=by
     have:∀{Q:a_ (Nat×V)} {a r:a_ (a_ V)},eP size a Q=some r->r.length=a.length:=by
      intro Q
      induction Q with
      | nil=>grind[eP]
      | cons p Q ih=>
       grind[eP]
     rw[this I];simp
    refine⟨.row size rows',.sl size len,by simp only[kr];rw[if_pos (by rw[<-O.1];exact w),I];rfl,rfl,iU Zc,by simp,λid ν' m' H' e1 e2 e3 e4 e5=>⟨?_,?_⟩⟩
    .have L:=z.mono   λk hk=>⟨hk,e4 k hk⟩
     simp only[cI,e1];refine⟨_,e3,by simp[z.1],?_,L.wX,λ_=>⟨trivial,z.1.symm⟩⟩
     simp[z.1];exact L
    refine .own _ _ λob' u=>?_
    rw[e2]at u;cases u;exact⟨_,_,_,rfl,by rw[z.1,J];grind[mM,Mk.val]⟩
   grind
  split at h
  .rename_i t _;split at h
   .rename_i hc;obtain⟨rfl,rfl,rfl,w⟩:=hc;obtain⟨rfl,rfl⟩:=h;obtain⟨y,_,rfl,h1,B⟩:=r.inv;rw[B.cZ];obtain⟨Y,D⟩:=i_ (x:=.own t) w h1;refine⟨.row 1 [[y]],.sl 1 1,by simp[kr,eP,Y,D],rfl,λj hj=>?_,by simp,λid ν' m' H' e1 e2 e3 e4 e5=>⟨?_,?_⟩⟩
    .cases j with
     | zero=>rfl
     | succ i=>cases i <;> simp[bu.pt]at hj
    .simp only[cI,bR,if_true,e1];refine⟨trivial,trivial,λi t' e=>by cases e;simp,_,e3,rfl,λi x y' G hy=>?_⟩
     cases i with
     | zero=>
      simp at G hy;subst G;subst hy;simp only[mP,if_true];exact⟨y,rfl,D,h1.mono (λk hk=>⟨hk,e4 k hk⟩) λe T=>e5 e (by simp[SV.c9,T])⟩
     | succ i=>simp at G
    refine .own _ _ λob' u=>?_
    rw[e2]at u;cases u;exact⟨_,_,_,rfl,by simp[mM,e1,Mk.val]⟩
   cases h
  cases h
 .
  obtain⟨rfl,rfl⟩:=h;rw[r.cZ];refine⟨_,_,rfl,rfl,iU Zc,by simp,λid ν' m' H' e1 e2 e3 e4 e5=>⟨⟨_,by rw[e1];exact e3,rfl,by simp⟩,?_⟩⟩
  exact .mp _ _ λob' u=>by rw[e2]at u;cases u;exact⟨_,rfl,by rw[e1];rfl⟩
 grind
theorem bS.RK {cs:a_ SV} {u:a_ V} (h:bS ν m H Z cs u) {size o:Nat} {x:SV} {y:V} {r:a_ SV} (D:cF ν m H Z x y) (hp:putCells m size o x cs=some r) (B:u.all V.one=true) :
 y.cells.length=size/\o+size<=u.length/\y.cells.all V.one=true/\bS ν m H Z r (u.take o++y.cells++u.drop (o+y.cells.length))/\(u.take o++y.cells++u.drop (o+y.cells.length)).all V.one=true:=by
 have t:∀k:Nat,(u.take k).all V.one=true/\(u.drop k).all V.one=true:=λk=>
  ⟨List.all_eq_true.2 λz C=>List.all_eq_true.1 B z (List.mem_of_mem_take C),List.all_eq_true.2 λz C=>List.all_eq_true.1 B z (List.mem_of_mem_drop C)⟩
 unfold putCells at hp;split at hp
 .split at hp
  .rename_i hc;simp only[ζa]at hp;subst hp;have w:=D.fr.cells;refine⟨by rw[<-w.1];simp_all,by rw[<-h.1];grind,by rw[w.one];grind,?_,?_⟩
   .have e:y.cells.length=size:=by rw[<-w.1];simp_all
    rw[e];exact((h.take o).append (bS.oM w)).append (h.drop _)
   simp only[List.all_append,(t _).1,(t _).2,w.one,hc.2.2,Bool.and_self]
  grind
 .split at hp
  .rename_i hc;simp only[ζa]at hp;subst hp;obtain⟨J,rfl,G⟩:=D.gV;have L:=Ec hc.2.2 G
   grind[bS,V.cells]
  grind
 split at hp
 .rename_i hc;simp only[ζa]at hp;subst hp;obtain⟨I,O⟩:=i_ hc.1 D;rw[I];refine⟨by simp[hc.2.1],by rw[<-h.1];grind,by simp_all,?_,?_⟩
  .exact((h.take o).append (.cons D .nil)).append (h.drop _)
  grind
 grind
theorem tF {size:Nat} {x:SV} {y:V} {xs:a_ (a_ V)} (r:cF ν m H Z x y) (B:∀d ob,bh m d=some ob->cI ν m H Z d ob) (h:gW m size x=some xs):∃ys,dz H size y=some ys/\fm H Z xs ys:=by
 unfold gW at h;split at h
 .split at h
  .rename_i k es u t;obtain⟨_,_,_,e,rfl⟩:=r.fM t;cases e;have o:=B _ _ t;simp[cI]at o;split at h
   .rename_i hk;rw[if_pos hk]at o;split at h
    .rename_i w;simp  at h;subst h;obtain⟨ys,hr,z,C,_⟩:=o;rw[mH hk]
     grind[dz,Ob.rows]
    grind
   rename_i hk;simp  at h;subst h;refine⟨[],?_,rfl,by simp⟩
   cases k <;> simp[bR]at hk <;> rfl
  grind
 .simp  at h;subst h;rw[r.fr.bE];exact⟨[],rfl,rfl,by simp⟩
 .simp  at h;subst h;rw[r.fr.c7];exact⟨[],rfl,rfl,by simp⟩
 .split at h
  .rename_i es u w;simp  at h;subst h;have hg:=r.fr.good;rcases r.fr.kM with rfl|⟨id,off,ys,rfl,D,hr,z,C⟩
   all_goals simp_all[dz,fm.same,V.good,bq]
  grind
 grind
theorem Ev.re {m1:Tb bu} (B:∀d ob,bh m1 d=some ob->bh st.m d=some ob) {d:Nat} (O:d∉st.pin) {ob:bu} {p:Nat×Nat} (D:H.length<=H'.length) (G:∀id,id<H.length->¬ez ν st.m id->¬Rv id->H'[id]? = H[id]?)
 (J:∀id,Z id->bq H' id=bq H id) (hp:dJ ob=true->ez ν st.m p.1\/Rv p.1\/H.length<=p.1) (u:ob.flat:=by exact iU Zc):Ev Rv ν Z st H (fV ν d p) Z { st with m:=bB m1 d ob } H' where
 len:=D
 same:=λid h C _ hr=>G id h C hr
 rows:=λid h=>⟨h,J id h⟩
 own:=λid h=>by
  rcases zQ h u with h|⟨h1,rfl⟩
  .obtain⟨k,o,j,h1,w,z⟩:=h;exact .inl ⟨k,o,j,B k o h1,w,z⟩
  grind
 frz:=λid h=>.inl h
 pin:=λe I t h=>by
  have:e≠d:=by grind
  obtain⟨o,h1,w,z⟩:=xw (ν:=ν) (p:=p) this t h
  grind
 pins:=rfl
def Kept (dst:bf Nat) (ν:Nu) (m:Tb bu) (ν':Nu) (m':Tb bu):Prop:=∀e t,dst≠some e->bh m' e=some t->∃ob,bh m e=some ob/\ν' e=ν e/\sameShape ob t/\∀j,t.pt j=true->ob.pt j=true/\ν'.at e j=ν.at e j
theorem Kept.refl {dst:bf Nat}:Kept dst ν m ν m:=λe t _ h=>⟨t,h,rfl,.refl _,λ_ h=>⟨h,rfl⟩⟩
theorem Kept.fJ {dst:bf Nat} {d:Nat} {ob ob':bu} (u:bh m d=some ob) (B:sameShape ob ob') (hp:∀j,ob'.pt j=true->ob.pt j=true):Kept dst ν m ν (bB m d ob'):=λe t _ h=>by
 by_cases k:e=d
 .subst k;rw[bW]at h;cases h;exact⟨ob,u,rfl,B,λj h=>⟨hp j h,rfl⟩⟩
 rw[cn m ob' (Ne.symm k)]at h;exact⟨t,h,rfl,.refl _,λ_ h=>⟨h,rfl⟩⟩
theorem Kept.add {d:Nat} {ob:bu} {p:Nat×Nat} {m1:Tb bu} (u:∀d ob,bh m1 d=some ob->bh m d=some ob):Kept (some d) ν m (fV ν d p) (bB m1 d ob):=λe t w h=>by
 have:e≠d:=λh=>w (by rw[h])
 obtain⟨o,h1,z,C⟩:=xw (ν:=ν) (p:=p) this t h;rw[cn _ _ (Ne.symm this)]at h;exact⟨t,u e t h,z,.refl _,λj B=>⟨B,Ig ν p this j⟩⟩
theorem jF {d:Nat}:∀e ob,bh (cB d m) e=some ob->bh m e=some ob:=λ_ _ h=>(jB h).2
theorem Ca.put {k x y:V} {a b r:a_ (V×V)} (D:k.scalar=true) (h:Ca H Z a b) (J:FR H Z x y) (hp:ot k x a=some r):∃B,ot k y b=some B/\Ca H Z r B:=by
 unfold ot at hp;obtain⟨f1,z⟩:=AI   h;split at hp
 .rename_i j v C;simp  at hp;subst hp;obtain⟨L,G,_⟩:=z j v C;refine⟨b.set j (k,y),by grind[ot],by simp[h.1],λi u w hu t=>?_⟩
  rw[List.getElem?_set]at hu t;split at hu
  .grind
  rename_i e;rw[if_neg e]at t;exact h.2 i u w hu t
 .simp  at hp;subst hp;refine⟨b++[(k,y)],by grind[ot],by simp[h.1],λi u w hu t=>?_⟩
  by_cases I:i<a.length
  .rw[List.getElem?_append_left I]at hu;rw[List.getElem?_append_left (by rw[<-h.1];omega)]at t
   exact h.2 i u w hu t
  rw[List.getElem?_append_right (by rw[<-h.1];omega),<-h.1]at t
  grind
 grind
theorem ID (r:R ν Z st F H) {d:Nat} {cs:a_ SV} (B:bh st.m d=some (.box cs)):∀{l:a_ SV} {D:a_ V},bS ν st.m H Z l D->l.all (Ka st.m d)=true->D.all (mB (ν d).1)=true:=by
 intro l
 induction l with
 | nil=>intro D z _;rw[z.cZ];rfl
 | cons a l L=>
  intro D z C;obtain⟨w,D,rfl,g1,g2⟩:=z.inv;simp only[List.all_cons,ζh]at C ⊢;refine⟨?_,L g2 C.2⟩;have t:=C.1;unfold Ka at t;split at t
  .rename_i O S;simp  at t;obtain⟨G,I⟩:=t;split at I
   next Q u=>obtain⟨_,_,rfl⟩:=g1.nQ u;simp[mB];exact λe=>G (r.inj O d _ _ 0 0 u B rfl rfl e).1
   grind
  .rcases FR.kX g1.fr with rfl|⟨id,el,off,_,_,_,rfl,J,_⟩
   .rfl
   simp[mB];rintro rfl;exact r.apart d _ 0 B rfl J
  grind
theorem Ff {d:Nat} {k:Fl} {xs:a_ (a_ V)} (o:cI ν m H Z d (.dp k xs none)):∃rs,dz H 1 (mM (ν d) k 1 xs.length)=some rs/\rs.length=xs.length/\(bR k=true->(ν d).2=0/\H[(ν d).1]? = some (.row 1 rs))/\∀i x y,xs[i]? = some x->rs[i]? = some y->s7 ν H Z d i x y:=by
 simp only[cI]at o;split at o
 next hk=>obtain⟨rfl,o2,-,rs,o3,t,u⟩:=o;exact⟨rs,by simp[mM,dz,o3,Ob.rows,o2,<-t],t,λ_=>⟨o2,o3⟩,u⟩
 rename_i hk;obtain⟨rfl,-⟩:=o;exact⟨[],by cases k <;> first|rfl|exact absurd rfl hk,rfl,λh=>absurd h hk,λi x y h=>by simp at h⟩
theorem J8 {d:Nat} {k:Fl} {xs:a_ (a_ V)} (o:cI ν m H Z d (.dp k xs none)) (J:∀id,Z id->Z' id) (hp:∀j,(bu.dp k xs none).pt j=true->Z' (ν.at d j)) :
 FR H Z' (iY k 1 xs) (mM (ν d) k 1 xs.length)/\∀j,(bu.dp k xs none).pt j=true->∃es ys,H[ν.at d j]? = some (.row es ys)/\sG H Z' ys:=by
 obtain⟨rs,-,C,hg,D⟩:=Ff o;have t:∀id,Z id->Z' id/\bq H id=bq H id:=λid h=>⟨J id h,rfl⟩
 have cells:fm H Z' xs rs:=⟨C.symm,λi x y u L=>by
  rcases D i x y u L with⟨rfl,h⟩|⟨es,G,w,rfl,rfl,h1,z⟩
  .exact c_.same (by rcases h with rfl|rfl <;> rfl)
  have B:=z.1;refine .cons (FR.Bi (ys:=w) (hp (i+1) (by simp[bu.pt,u])) (show bq H (ν.inn d i)=some (es,w)by unfold bq;rw[h1];rfl) Za ?_) .nil
  rw[List.drop_zero,B,List.take_length];exact z.mono t⟩
 refine⟨?_,λj I=>?_⟩
 .by_cases hk:bR k=true
  .rw[mH hk,show iY k 1 xs=.fsl 1 xs from by cases k <;> simp[bR]at hk <;> rfl]
   refine FR.Bi (ys:=rs) (hp 0 hk) (show bq H (ν d).1=some (1,rs)by unfold bq;rw[(hg hk).2];rfl) (by rw[(hg hk).1];omega) ?_
   rw[(hg hk).1,List.drop_zero,<-C,List.take_length];exact cells
  cases k <;> simp[bR]at hk
  .exact .same _ rfl
  exact .same _ rfl
 cases j with
 | zero=>exact⟨1,rs,(hg I).2,cells.wX⟩
 | succ i=>
  obtain⟨-,es,G,u⟩:=p_ I;have O:=(ζe.1 u).1;rcases D i _ _ u (ζd Za)with⟨_,h|h⟩|⟨es,G,w,_,_,h1,z⟩
  .cases h
  .cases h
  exact⟨es,w,h1,(z.mono t).wX⟩
theorem Lo (r:R ν Z st F H) {d:Nat} (h:uU d st=some st'):∃ν',R ν' Z st' F H/\Ev Rv ν Z st H ν' Z st' H/\(∀sv y,cF ν st.m H Z sv y->cF ν' st'.m H Z sv y)/\∀k ob,k≠d->bh st'.m k=some ob->bh st.m k=some ob/\ν' k=ν k/\∀j,ν'.at k j=ν.at k j:=by
 unfold uU at h;split at h
 rotate_left
 .cases h;exact⟨ν,r,.refl,λ_ _ h=>h,λ_ _ _ h=>⟨h,rfl,λ_=>rfl⟩⟩
 .cases h
 rename_i k W i t G;split at h
 rotate_left
 .cases h
 rename_i Q es T ht;split at h
 rotate_left
 .cases h
 rename_i hc;obtain⟨aa,X,hk⟩:=hc;cases h;have o:=r.obj d _ G;simp only[cI,hk,if_true]at o;obtain⟨o1,o2,o3,ys,o4,o5,o6⟩:=o;have hi:=o3 _ _ rfl;have p:=r.obj t _ ht;have z:∀e,e=d/\bh (bB (cB t st.m) d (.dp k (W.set i [iY Q es T]) none)) e=some (.dp k (W.set i [iY Q es T]) none)\/e≠d/\∀ob,bh (bB (cB t st.m) d (.dp k (W.set i [iY Q es T]) none)) e=some ob->e≠t/\bh st.m e=some ob:=λe=>by
  by_cases S:e=d
  .subst S;exact .inl ⟨rfl,bW _ _ _⟩
  refine .inr ⟨S,λob h=>?_⟩
  rw[cn _ _ (Ne.symm S)]at h;obtain⟨w1,w2⟩:=jB h;exact⟨Ne.symm w1,w2⟩
 let ν':Nu:=⟨ν.pl,λe u=>if e=d/\u=i then(ν t).1 else ν.inn e u⟩
 have ab:∀e,ν' e=ν e:=λ_=>rfl
 have B:∀e u,¬(e=d/\u=i)->ν'.inn e u=ν.inn e u:=λe u h=>if_neg h
 have C:ν'.inn d i=(ν t).1:=if_pos ⟨rfl,rfl⟩;have sm:∀e I,bh (bB (cB t st.m) d (.dp k (W.set i [iY Q es T]) none)) e=some I->∃ob,bh st.m e=some ob/\ν' e=ν e/\sameShape ob I:=λe I h=>by
  rcases z e with⟨rfl,h1⟩|⟨h1,D⟩
  .rw[h1]at h;cases h;exact⟨_,G,rfl,by simp[sameShape,bu.tE]⟩
  exact⟨I,(D _ h).2,rfl,.refl _⟩
 have J:∀id,Z id->Z id/\bq H id=bq H id:=λid h=>⟨h,rfl⟩
 have L:∀e ob j,bh (bB (cB t st.m) d (.dp k (W.set i [iY Q es T]) none)) e=some ob->ob.pt j=true->∃e0 Y j0,bh st.m e0=some Y/\Y.pt j0=true/\ν'.at e j=ν.at e0 j0/\((e=d/\j=i+1/\e0=t/\j0=0)\/(e0=e/\j0=j/\e≠t/\¬(e=d/\j=i+1))):=λe ob j h hj=>by
  rcases z e with⟨rfl,h1⟩|⟨h1,D⟩
  .rw[h1]at h;cases h
   cases j with
   | zero=>exact⟨e,_,0,G,hj,rfl,.inr ⟨rfl,rfl,Ne.symm X,by omega⟩⟩
   | succ u=>
    obtain⟨-,ae,af,O⟩:=p_ hj
    by_cases w:u=i
    .subst w;rw[List.getElem?_set_self hi]at O;have ad:bR Q=true:=by cases Q <;> first|rfl|cases O
     exact⟨t,_,0,ht,ad,C,.inl ⟨rfl,rfl,rfl,rfl⟩⟩
    rw[List.getElem?_set_ne (Ne.symm w)]at O;exact⟨e,_,u+1,G,by simp[bu.pt,O,Ne.symm w],B e u Za,.inr ⟨rfl,rfl,Ne.symm X,by omega⟩⟩
  obtain⟨h3,h4⟩:=D _ h;refine⟨e,ob,j,h4,hj,?_,.inr ⟨rfl,rfl,h3,by omega⟩⟩
  cases j with
  | zero=>rfl
  | succ u=>exact B e u Za
 refine⟨ν',⟨λs sv hs=>(r.slot s sv hs).mono J λe _=>sm e,λe ob S=>?_,λd1 d2 o1 o2 j1 j2 h1 D b1 b2 hp=>?_,λd1 o1 j1 h1 b1=>?_,r.zrow,r.deep⟩,⟨Nat.le_refl _,λ_ _ _ _ _=>rfl,J,λid ⟨e,o,j,h1,D,h3⟩=>?_,λ_ h=>.inl h,λe _=>sm e,rfl⟩,λsv y h=>h.mono J λe _=>sm e,λe ob hk h=>?_⟩
 .rcases z e with⟨rfl,h1⟩|⟨h1,D⟩
  .simp only at S;rw[h1]at S;cases S;simp only[cI,hk,if_true,ab];refine⟨o1,o2,(λu t' e=>by cases e),ys,o4,by simp[o5],λu x y O hy=>?_⟩
   by_cases w:u=i
   .subst w;rw[List.getElem?_set_self hi]at O;cases O;have U:=o6 u _ y (ζd hi) hy;simp only[mP,if_true]at U;obtain⟨v,rfl,-,hv⟩:=U;obtain⟨_,_,_,q,rfl⟩:=hv.fM ht;cases q;show s7 ν' H Z e u _ _;simp only[cI]at p
    cases Q with
    | nil=>exact .inl ⟨rfl,.inl rfl⟩
    | emp=>exact .inl ⟨rfl,.inr rfl⟩
    | row=>
     simp only[bR,if_true]at p;obtain⟨ws,p1,p2,p3,p4,p5⟩:=p;obtain⟨p5,p6⟩:=p5 trivial;rw[p5,List.drop_zero,<-p6,List.take_length]at p3;exact .inr ⟨es,T,ws,rfl,by rw[C];simp[mM,p5],by rw[C];exact p1,p3⟩
    | part=>exact absurd rfl aa
   rw[List.getElem?_set_ne (Ne.symm w)]at O;have U:=o6 u x y O hy;simp only[mP,if_neg (Ne.symm w)]at U;show s7 ν' H Z e u _ _;unfold s7 at U ⊢;rw[B e u Za];exact U
  obtain⟨h3,h4⟩:=D _ S;exact cI.mono (ν:=ν) (ν':=ν') J rfl (λ_ _=>rfl) (λe' _=>sm e') (r.obj e ob h4) (funext λu=>B e u Za)
 .obtain⟨e1,p1,q1,k1,l1,u1,c1⟩:=L d1 o1 j1 h1 b1;obtain⟨e2,p2,q2,k2,l2,u2,c2⟩:=L d2 o2 j2 D b2;have:=r.inj e1 e2 p1 p2 q1 q2 k1 k2 l1 l2 (by rw[<-u1,<-u2];exact hp)
  omega
 .obtain⟨e1,p1,q1,k1,l1,u1,c1⟩:=L d1 o1 j1 h1 b1;rw[u1];exact r.apart e1 p1 q1 k1 l1
 .obtain⟨e1,p1,q1,k1,l1,u1,c1⟩:=L e o j h1 D;exact .inl ⟨e1,p1,q1,k1,l1,by rw[<-u1];exact h3⟩
 rcases z e with⟨h1,-⟩|⟨h1,D⟩
 .exact absurd h1 hk
 refine⟨(D _ h).2,rfl,λj=>?_⟩
 cases j with
 | zero=>rfl
 | succ u=>exact B e u Za
theorem FM (r:R ν Z st F H) {dst:bf Nat} {size:Nat} {s x sv:SV} {y1 y2:V} (h1:cF ν st.m H Z s y1) (h3:cF ν st.m H Z x y2) (h:sP st dst size s x=some (sv,st')) :
 ∃y H' ν',eE H (.append size) [y1,y2]=some (y,H')/\R ν' Z st' F H'/\cF ν' st'.m H' Z sv y/\Ev (λ_=>False) ν Z st H ν' Z st' H'/\Kept dst ν st.m ν' st'.m:=by
 unfold sP at h;split at h
 .rename_i d e t;split at h
  .rename_i k z ys hd he;split at h
   .rename_i hc;obtain⟨rfl,ad,ah,ai⟩:=hc;dsimp only at h;split at h
    .rename_i ae;obtain⟨rfl,rfl⟩:=h;obtain⟨_,_,_,q,rfl⟩:=h1.fM hd;cases q;obtain⟨_,_,_,q,rfl⟩:=h3.fM he;cases q;obtain⟨S,p1,l1,g1,f1⟩:=Ff (r.obj d _ hd);obtain⟨G,p2,l2,g2,f2⟩:=Ff (r.obj e _ he);obtain⟨n1,n2,n3,n4⟩:=jb ae;have u:∀k ob,bh (cB e (cB d st.m)) k=some ob->k≠d/\k≠e/\bh st.m k=some ob:=λk ob h=>by
      obtain⟨w1,w2⟩:=jB h;obtain⟨w3,w4⟩:=jB w2;exact⟨Ne.symm w3,Ne.symm w1,w4⟩
     have grow:∃H1,fR H (mM (ν d) k 1 z.length)=some H1/\H1.length=H.length/\∀id,(bR k=true->id≠(ν d).1)->H1[id]? = H[id]? := by
      by_cases hk:bR k=true
      .rw[mH hk];exact⟨H.set (ν d).1 .dead,by simp[fR,(g1 hk).2],by simp,λid aa=>List.getElem?_set_ne (Ne.symm (aa hk))⟩
      exact⟨H,by cases k <;> first|rfl|exact absurd rfl hk,rfl,λ_ _=>rfl⟩
     obtain⟨H1,w1,w2,w3⟩:=grow;have hH:∀id,id<H.length->(bR k=true->id≠(ν d).1)->(H1++[Ob.row 1 (S++G)])[id]? = H[id]? := λid hl aa=>by
      rw[List.getElem?_append_left Za,w3 id aa]
     have Y:∀id,Z id->bq (H1++[Ob.row 1 (S++G)]) id=bq H id:=λid Y=>by
      unfold bq;rw[hH id (r.tw Y) λhk e=>r.apart d _ 0 hd hk (by rw[show ν.at d 0=id from e.symm];exact Y)]
     have r1:=r.less (m':=cB e (cB d st.m)) (λ_ _ h=>h) λk ob h=>(u k ob h).2.2
     have r2:=r1.heap (H':=H1++[Ob.row 1 (S++G)]) (λid ho=>by
      refine hH id (r1.lt ho) λhk e=>?_
      obtain⟨k2,o2,j2,Q,I,z3⟩:=ho;obtain⟨z4,z5,z6⟩:=u _ _ Q;exact z4 (r.inj k2 d o2 _ j2 0 z6 hd I hk (z3.trans e)).1) Y
     generalize hf:(λi=>if i<z.length then ν.inn d i else ν.inn e (i-z.length))=f
     have T:∀i,(bu.dp .row (z++ys) none).pt (i+1)=true->∃q U w,bh st.m q=some U/\U.pt (w+1)=true/\f i=ν.at q (w+1)/\(q=d/\w=i/\i<z.length\/q=e/\i=z.length+w):=λi hp=>by
      obtain⟨-,es,zs,J⟩:=p_ hp;subst hf
      by_cases L:i<z.length
      .rw[List.getElem?_append_left L]at J;exact⟨d,_,i,hd,by simp[bu.pt,J],by simp[L,Nu.at],.inl ⟨rfl,rfl,L⟩⟩
      rw[List.getElem?_append_right Za]at J
      exact⟨e,_,i-z.length,he,by simp[bu.pt,J],by simp[L,Nu.at],.inr ⟨rfl,by omega⟩⟩
     have O:∀i,(bu.dp .row (z++ys) none).pt (i+1)=true->ez ν st.m (f i):=λi hp=>by
      obtain⟨q,U,w,k1,k2,k3,_⟩:=T i hp;exact⟨q,U,w+1,k1,k2,k3.symm⟩
     have B:∀i,(iG ν t (H.length,0) f).at t (i+1)=f i:=λi=>congrFun (lE ν t _ f).2 i
     have W:(iG ν t (H.length,0) f).at t 0=H.length:=congrArg Prod.fst (lE ν t _ f).1;have ab:(H1++[Ob.row 1 (S++G)])[H.length]? = some (.row 1 (S++G)):=by rw[<-w2];simp
     have aq:bR k=true->(bu.dp k z none).pt 0=true:=λh=>h
     refine⟨.hsl H.length 1 0 (S.length+G.length),H1++[Ob.row 1 (S++G)],iG ν t (H.length,0) f,?_,r2.NL (p:=(H.length,0)) (f:=f) n2 n3 (λk o hk hs=>?_) (λj hj=>?_) (λj j' hj af hp=>?_) ?_,?_,⟨by simp[w2],λid hl ho _ _=>?_,λid h=>⟨h,Y id h⟩,λid ho=>?_,λid h=>.inl h,λk hk C h=>?_,rfl⟩,λk C hk h=>?_⟩
     .have:G≠[]:=by rintro rfl;exact ah (List.length_eq_zero_iff.1 l2.symm)
      cases G with
      | nil=>exact absurd rfl this
      | cons c G=>
       simp only[eE,p1,p2,w1];rw[if_pos (by rw[l1,l2];exact ai)];rfl
     .rw[qd n4 hk]at hs;cases hs
     .cases j with
      | zero=>
       rw[W];exact⟨λho=>Nat.lt_irrefl _ (r1.lt ho),λY=>Nat.lt_irrefl _ (r.tw Y)⟩
      | succ i=>
       rw[B];obtain⟨q,U,w,k1,k2,k3,k4⟩:=T i hj;rw[k3];refine⟨λ⟨k5,o5,j5,Q,I,z3⟩=>?_,r.apart q U _ k1 k2⟩
       obtain⟨z4,z5,z6⟩:=u _ _ Q;have:=(r.inj k5 q o5 U j5 _ z6 k1 I k2 z3).1;rcases k4 with⟨rfl,_⟩|⟨rfl,_⟩
       .exact z4 this
       exact z5 this
     .cases j with
      | zero=>
       cases j' with
       | zero=>rfl
       | succ i'=>rw[W,B]at hp;have:=r.lt (O i' af);omega
      | succ i=>
       cases j' with
       | zero=>rw[W,B]at hp;have:=r.lt (O i hj);omega
       | succ i'=>
        rw[B,B]at hp;obtain⟨q,U,w,k1,k2,k3,k4⟩:=T i hj;obtain⟨q',aj,ar,ak,al,am,an⟩:=T i' af;obtain⟨e1,e2⟩:=r.inj q q' U aj _ _ k1 ak k2 al (by rw[<-k3,<-am,hp])
        rcases k4 with⟨rfl,_⟩|⟨rfl,_⟩ <;> rcases an with⟨rfl,_⟩|⟨rfl,_⟩ <;> first|omega|(exact absurd e1 ad)|(exact absurd e1.symm ad)
     .simp only[cI,bR,if_true];refine⟨trivial,by rw[(lE ν t _ f).1],(λi t h=>by cases h),S++G,?_,by simp[l1,l2],λi x y J hy=>?_⟩
      .rw[(lE ν t _ f).1];exact ab
      show s7 _ _ _ _ i x y;have go:∀q w,bh st.m q=some (.dp k z none)/\q=d\/bh st.m q=some (.dp .row ys none)/\q=e->f i=ν.inn q w->(∀kq xq,bh st.m q=some (.dp kq xq none)->xq[w]? = some x)->s7 ν H Z q w x y->s7 (iG ν t (H.length,0) f) (H1++[Ob.row 1 (S++G)]) Z t i x y:=λq w hq ao ap hC=>by
       rcases hC with h|⟨es,zs,ws,rfl,rfl,Q,I⟩
       .exact .inl h
       have L:(iG ν t (H.length,0) f).inn t i=ν.inn q w:=(congrFun (lE ν t _ f).2 i).trans ao;refine .inr ⟨es,zs,ws,rfl,by rw[L],?_,I.mono λid h=>⟨h,Y id h⟩⟩
       rw[L,hH _ (ζe.1 Q).1 λhk e=>?_]
       .exact Q
       have X:∃kq xq,bh st.m q=some (.dp kq xq none):=by rcases hq with h|h <;> exact⟨_,_,h.1⟩
       obtain⟨kq,xq,X⟩:=X;have:=(r.inj q d _ _ (w+1) 0 X hd (by simp[bu.pt,ap _ _ X]) hk e).2
       omega
      by_cases L:i<z.length
      .rw[List.getElem?_append_left L]at J;rw[List.getElem?_append_left Za]at hy
       exact go d i (.inl ⟨hd,rfl⟩) (by rw[<-hf];simp[L]) (λkq xq h=>by rw[hd]at h;cases h;exact J) (f1 i x y J hy)
      rw[List.getElem?_append_right Za]at J
      rw[List.getElem?_append_right Za,l1]at hy
      exact go e (i-z.length) (.inr ⟨he,rfl⟩) (by rw[<-hf];simp[L]) (λkq xq h=>by rw[he]at h;cases h;exact J) (f2 _ x y J hy)
     .refine .own _ _ λC h'=>?_
      rw[bW]at h';cases h';exact⟨_,_,_,rfl,by simp[mM,(lE ν t _ f).1,l1,l2]⟩
     .exact hH id hl λhk e=>ho ⟨d,_,0,hd,hk,e.symm⟩
     .rcases E6 ho with⟨k,o,j,Q,I,z3⟩|⟨j,Q,I⟩
      .exact .inl ⟨k,o,j,(u k o Q).2.2,I,z3⟩
      cases j with
      | zero=>rw[W]at I;exact .inr (.inr Za)
      | succ i=>rw[B]at I;subst I;exact .inl (O i Q)
     .have D:k≠t:=by rintro rfl;exact n1 hk
      rw[cn _ _ (Ne.symm D)]at h;exact⟨C,(u k C h).2.2,if_neg D,.refl _⟩
     have D:k≠t:=λe=>hk (by rw[e])
     rw[cn _ _ (Ne.symm D)]at h;exact⟨C,(u k C h).2.2,if_neg D,.refl _,λj hj=>⟨hj,qb ν _ f D j⟩⟩
    cases h
   cases h
  cases h
 cases h
theorem JR {dst:bf Nat} {size e:Nat} {s sv:SV} (h:sP st dst size s (.own e)=some (sv,st')) (hd:dst≠some e) (ob:bu):bh st'.m e≠some ob:=by
 unfold sP at h;split at h
 .rename_i d z t w;cases w;split at h
  .split at h
   .dsimp only at h;split at h
    .obtain⟨-,rfl⟩:=h;intro u;have:t≠e:=λq=>hd (by rw[q])
     simp only at u;rw[cn _ _ this]at u;exact(jB u).1 rfl
    cases h
   cases h
  cases h
 cases h
theorem PD (r:R ν Z st F H) {dst:bf Nat} {size:Nat} {s x sv:SV} {B D:V} (h1:cF ν st.m H Z s B) (G:cF ν st.m H Z x D) (h:uJ st dst size s x=some (sv,st')) :
 ∃y H' ν',eE H (.append size) [B,D]=some (y,H')/\R ν' Z st' F H'/\cF ν' st'.m H' Z sv y/\Ev (λ_=>False) ν Z st H ν' Z st' H'/\Kept dst ν st.m ν' st'.m:=by
 unfold uJ at h;split at h
 rotate_left
 .cases h
 rename_i e;split at h
 rotate_left
 .exact FM r h1 G h
 split at h
 rotate_left
 .cases h
 rename_i I J;obtain⟨ν1,r1,e1,g1,k1⟩:=Lo (Rv:=λ_=>False) r J
 obtain⟨y,H',ν',L,O,Q,S,T⟩:=FM r1 (g1 _ _ h1) (g1 _ _ G) h;refine⟨y,H',ν',L,O,Q,e1.trans S,λk t hk w=>?_⟩
 obtain⟨ob,U,W,X,z⟩:=T k t hk w;have u:k≠e:=by
  rintro rfl;exact JR h (λq=>hk q) _ w
 obtain⟨Y,c2,c3⟩:=k1 k ob u U;exact⟨ob,Y,W.trans c2,X,λj C=>⟨(z j C).1,(z j C).2.trans (c3 j)⟩⟩
theorem AS (r:R ν Z st F H) {dst:bf Nat} {l:IG} {svs:a_ SV} {ys:a_ V} {sv:SV} (Y:bS ν st.m H Z svs ys) (h:gB st dst l svs=some (sv,st')) :
 ∃y H' ν',eE H l ys=some (y,H')/\R ν' Z st' F H'/\cF ν' st'.m H' Z sv y/\Ev (λ_=>False) ν Z st H ν' Z st' H'/\Kept dst ν st.m ν' st'.m:=by
 unfold gB at h;split at h
 .
  rename_i size d o x;obtain⟨_,_,rfl,h1,h2⟩:=Y.inv;obtain⟨y,_,rfl,S,h4⟩:=h2.inv;rw[h4.cZ];split at h
  .rename_i cs B;obtain⟨aw,hp,e⟩:=ζf.1 h;obtain⟨rfl,rfl⟩:=e;obtain⟨_,_,rfl⟩:=h1.nQ B;obtain⟨es,G,hr,hc,aa⟩:=r.obj d _ B;obtain⟨p1,p2,p3,p4,p5⟩:=bS.RK hc S hp aa;have J:∀id,id≠(ν d).1->(H.set (ν d).1 (.row es [G.take o++y.cells++G.drop (o+y.cells.length)]))[id]? = H[id]? := λid I=>by grind
   have C:∀id,Z id->Z id/\bq (H.set (ν d).1 (.row es [G.take o++y.cells++G.drop (o+y.cells.length)])) id=bq H id:=λid C=>⟨C,by
    unfold bq;rw[J id (by rintro rfl;exact r.apart d _ 0 B rfl C)]⟩
   refine⟨.undef,H.set (ν d).1 (.row es [G.take o++y.cells++G.drop (o+y.cells.length)]),ν,?_,?_,.v _ _ (.same _ rfl),Ev.fJ r B rfl (lH rfl) J rfl Zc,Kept.fJ B rfl (lH rfl)⟩
   .grind[eE]
   refine r.fJ B rfl (lH rfl) J rfl ⟨es,_,?_,p4.mono C (λe _ L he=>?_),p5⟩
   .grind
   by_cases k:e=d
   .subst k;rw[bW]at he;cases he;exact⟨_,B,rfl,rfl⟩
   rw[cn st.m _ (Ne.symm k)]at he;exact⟨L,he,rfl,.refl _⟩
  grind
 .
  rename_i size d i o x;obtain⟨_,_,rfl,h1,h2⟩:=Y.inv;obtain⟨y,_,rfl,S,h4⟩:=h2.inv;rw[h4.cZ];split at h
  .rename_i k es T B;split at h
   .rename_i cs ak;split at h
    .rename_i hc;obtain⟨rfl,rfl⟩:=h;obtain⟨_,_,_,e,hk,rfl⟩:=h1.s8 B;cases e;have ob:=r.obj d _ B;simp[cI,hk]at ob;obtain⟨rs,hr,hl,hf,al,aG⟩:=ob;obtain⟨c,ax,af⟩:=hf.get ak;have hi:=(ζe.1 ak).1;rw[List.getElem?_take,if_pos hi,List.getElem?_drop]at ax;have hy:=S.fr.cells;have q1:y.cells.length=size:=by rw[<-hy.1];exact hc.1
     have q2:o+size<=c.length:=by rw[<-af.1];exact hc.2.1
     have q3:y.cells.all V.one=true:=by rw[hy.one];exact hc.2.2
     have D:c_ H Z (cs.take o++x.cells++cs.drop (o+x.cells.length)) (c.take o++y.cells++c.drop (o+y.cells.length)):=by
      rw[hc.1,q1];exact((af.take o).append hy).append (af.drop _)
     generalize hN:(c.take o++y.cells++c.drop (o+y.cells.length))=nc at D;have J:∀id,id≠(ν d).1->(H.set (ν d).1 (.row es (rs.set ((ν d).2+i) nc)))[id]? = H[id]? := λid I=>by rw[List.getElem?_set];rw[if_neg (Ne.symm I)]
     have O  := hk;have C:∀id,Z id->Z id/\bq (H.set (ν d).1 (.row es (rs.set ((ν d).2+i) nc))) id=bq H id:=λid C=>⟨C,by
      unfold bq;rw[J id (by rintro rfl;exact r.apart d _ 0 B O C)]⟩
     have Q:sameShape (.sl k es T) (.sl k es (T.set i (cs.take o++x.cells++cs.drop (o+x.cells.length)))):=by simp[sameShape,bu.tE]
     refine⟨.undef,H.set (ν d).1 (.row es (rs.set ((ν d).2+i) nc)),ν,?_,?_,.v _ _ (.same _ rfl),Ev.fJ r B Q (lH rfl) J O Zc,Kept.fJ B Q (lH rfl)⟩
     .grind[eE]
     refine r.fJ B Q (lH rfl) J O ?_;simp only[cI,hk];have ah:=(ζe.1 hr).1;refine⟨_,List.getElem?_set_self ah,by grind,?_,?_,λe=>?_⟩
     .have e1:List.take (T.set i (cs.take o++x.cells++cs.drop (o+x.cells.length))).length (List.drop (ν d).2 (rs.set ((ν d).2+i) nc))=((rs.drop (ν d).2).take T.length).set i nc:=by
       rw[List.length_set,List.drop_set,if_neg Za,List.take_set]
       grind
      rw[e1];exact(hf.set i D).mono C
     .intro cc am u hu;rcases List.mem_or_eq_of_mem_set am with hm|rfl
      .obtain⟨z,ay⟩:=al cc hm u hu;exact⟨z,ay.mono C⟩
      obtain⟨j,hj⟩:=List.mem_iff_getElem?.1 hu;have an:=(ζe.1 hj).1;rw[<-D.1]at an;exact⟨_,(D.2 j _ u (ζd an) hj).mono C⟩
     grind
    simp at h
   grind
  grind
 .
  rename_i size d i o t;obtain⟨_,_,rfl,h1,h2⟩:=Y.inv;obtain⟨y,_,rfl,S,h4⟩:=h2.inv;rw[h4.cZ];split at h
  .rename_i k T j w B;split at h
   .rename_i hc;obtain⟨rfl,rfl,rfl,hl,aK⟩:=hc;obtain⟨rfl,rfl⟩:=h;obtain⟨_,_,_,e,hk,rfl⟩:=h1.s8 B;cases e;obtain⟨c1,c2⟩:=i_ (x:=.own t) hl S;have ob:=r.obj d _ B;simp only[cI,hk,if_true]at ob;obtain⟨o1,o2,o3,rs,hr,ao,hf⟩:=ob;have hi:=o3 _ _ rfl;have ah:=(ζe.1 hr).1;have aA:∀X,(bu.dp k T (some (j,w))).pt (X+1)=true->ν.inn d X≠(ν d).1:=λX hp e=>by
     have:=(r.inj d d _ _ (X+1) 0 B B hp hk e).2;omega
    have J:∀id,id≠(ν d).1->(H.set (ν d).1 (.row 1 (rs.set j [y])))[id]? = H[id]? := λid I=>by rw[List.getElem?_set];rw[if_neg (Ne.symm I)]
    have C:∀id,Z id->Z id/\bq (H.set (ν d).1 (.row 1 (rs.set j [y]))) id=bq H id:=λid C=>⟨C,by
     unfold bq;rw[J id (by rintro rfl;exact r.apart d _ 0 B hk C)]⟩
    have ai:∀X,(bu.dp k T (some (j,t))).pt X=true->(bu.dp k T (some (j,w))).pt X=true:=λX h=>h
    have Q:sameShape (.dp k T (some (j,w))) (.dp k T (some (j,t))):=rfl;refine⟨.undef,H.set (ν d).1 (.row 1 (rs.set j [y])),ν,?_,?_,.v _ _ (.same _ rfl),Ev.fJ r B Q ai J hk Zc,Kept.fJ B Q ai⟩
    .have:rs[j]? = some rs[j]:=ζd Za
     have h9:=hf j _ _ (ζd hi) this;simp only[mP,if_true]at h9;obtain⟨v,e1,_⟩:=h9;simp[eE,hr,o2,this,e1,c1,c2]
    refine r.fJ B Q ai J hk ?_;simp only[cI,hk,if_true];refine⟨o1,o2,λX t' e=>by cases e;exact hi,_,List.getElem?_set_self ah,by simp[ao],λX x y' hx hy=>?_⟩
    by_cases e:j=X
    .subst e;rw[List.getElem?_set_self Za]at hy;cases hy
     simp only[mP,if_true];exact⟨y,rfl,c2,S.mono C λe he L U=>by
      by_cases k':e=d
      .subst k';rw[bW]at U;cases U;exact⟨_,B,rfl,rfl⟩
      rw[cn st.m _ (Ne.symm k')]at U;exact⟨L,U,rfl,.refl _⟩⟩
    rw[List.getElem?_set_ne e]at hy;have h9:=hf X x y' hx hy;simp only[mP,if_neg e]at h9 ⊢;rcases h9 with h9|⟨es,zs,ws,rfl,rfl,q1,q2⟩
    .exact .inl h9
    exact .inr ⟨es,zs,ws,rfl,rfl,(J _ (aA X (by simp[bu.pt,hx,e]))).trans q1,q2.mono C⟩
   cases h
  cases h
 .
  rename_i kk d k x;obtain⟨_,_,rfl,h1,h2⟩:=Y.inv;obtain⟨k',_,rfl,S,h4⟩:=h2.inv;obtain⟨y,_,rfl,h5,h6⟩:=h4.inv;rw[h6.cZ];split at h
  .rename_i aB B;split at h
   .rename_i hk;obtain⟨aH,hp,e⟩:=ζf.1 h;simp  at e;obtain⟨rfl,rfl⟩:=e;obtain⟨_,_,rfl⟩:=h1.Bw B;have aC:=S.fr.scalar.1 (uh hk);subst aC;obtain⟨aI,hr,aD⟩:=r.obj d _ B;obtain⟨r',aL,aE⟩:=aD.put (uh hk) h5.fr hp;have J:∀id,id≠(ν d).1->(H.set (ν d).1 (.map r'))[id]? = H[id]? := λid I=>by rw[List.getElem?_set];rw[if_neg (Ne.symm I)]
    have C:∀id,Z id->Z id/\bq (H.set (ν d).1 (.map r')) id=bq H id:=λid C=>⟨C,by
     unfold bq;rw[J id (by rintro rfl;exact r.apart d _ 0 B rfl C)]⟩
    refine⟨.undef,H.set (ν d).1 (.map r'),ν,?_,?_,.v _ _ (.same _ rfl),Ev.fJ r B rfl (lH rfl) J rfl Zc,Kept.fJ B rfl (lH rfl)⟩
    .grind[eE]
    refine r.fJ B rfl (lH rfl) J rfl ⟨r',?_,aE.mono C⟩;rw[List.getElem?_set_self (ζe.1 hr).1]
   simp at h
  simp at h
 .
  rename_i size s x;obtain⟨y1,_,rfl,h1,h2⟩:=Y.inv;obtain⟨y2,_,rfl,S,h4⟩:=h2.inv;rw[h4.cZ];split at h
  .rename_i T e1 e2;obtain⟨a1,p1,_⟩:=tF h1 r.obj e1;obtain⟨a2,p2,q2⟩:=tF S r.obj e2;have  := List.length_eq_zero_iff.1 (by have:=q2.1;simpa using this.symm)
   subst this
   cases dst with
   | none=>simp at h
   | some t=>
    have lit:∀(k:Fl) (x0:V),bR k=false->mM (ν t) k size 0=x0->st.new t=true->(∀y,FR H Z x0 y->y=x0)->FR H Z x0 y1 ->
     ∃y H' ν',eE H (.append size) [y1,y2]=some (y,H')/\R ν' Z { st with m:=bB st.m t (.sl k size []) } F H'/\cF ν' (bB st.m t (.sl k size [])) H' Z (.own t) y/\Ev (λ_=>False) ν Z st H ν' Z { st with m:=bB st.m t (.sl k size []) } H'/\Kept (some t) ν st.m ν' (bB st.m t (.sl k size [])):=λk x0 hk aM hn hx hf=>by
     have ap:dJ (.sl k size [])=true->False:=by grind[dJ]
     refine⟨y1,H,fV ν t (ν t),by grind[eE],r.add hn   (λh=>(ap h).elim) (by grind[cI]),.own _ _ λL U=>?_,Ev.add  hn (Nat.le_refl _) (λ_ _ _=>rfl) (λ_ _=>rfl) (λh=>(ap h).elim),Kept.add λ_ _ h=>h⟩
     rw[bW]at U;cases U;exact⟨_,_,_,rfl,by rw[gz,hx _ hf];grind⟩
    cases s with
    | own d=>
     dsimp only at h;split at h
     .rename_i ob B;split at h
      .rename_i D;simp  at h;obtain⟨rfl,rfl⟩:=h;simp[gW,B]at e1
       cases ob with
       | sl k es ab=>
        obtain⟨_,_,_,e,rfl⟩:=h1.fM B;cases e;have r1:R ν Z { st with m:=cB d st.m } F H:=r.less  (λ_ _ h=>h) jF
        obtain⟨n1,_,_,_⟩:=jb D;have aq:cI (fV ν t (ν d)) (bB (cB d st.m) t (.sl k es ab)) H Z t (.sl k es ab):=by
         have o:=r.obj d _ B
         grind[cI,gz]
        refine⟨mM (ν d) k es ab.length,H,fV ν t (ν d),by grind[eE],r1.add D  (λhb=>⟨λho=>?_,r.apart d _ 0 B hb⟩) aq,.own _ _ λL U=>?_,?_,Kept.add jF⟩
        .obtain⟨k2,o2,j2,g1,g2,g3⟩:=ho;obtain⟨g4,g5⟩:=jB g1;exact g4 (r.inj d k2 _ o2 0 j2 B g5 hb g2 g3.symm).1
        .rw[bW]at U;cases U;exact⟨_,_,_,rfl,by rw[gz]⟩
        by_cases hb:dJ (.sl k es ab)=true
        .exact Ev.re  (m1:=cB d st.m) jF n1 (Nat.le_refl _) (λ_ _ _ _=>rfl) (λ_ _=>rfl) (λ_=>.inl ⟨d,_,0,B,hb,rfl⟩)
        exact(Ev.less  jF).trans (Ev.add  D (Nat.le_refl _) (λ_ _ _=>rfl) (λ_ _=>rfl) λh=>absurd h hb)
       | box cs=>cases e1
       | mp aB=>cases e1
       | dp _ _ _=>cases e1
      simp at h
     simp at h
    | v x0=>
     cases x0 with
     | bE=>
      dsimp only at h;split at h
      next hn=>simp  at h;obtain⟨rfl,rfl⟩:=h;exact lit .nil _ rfl rfl hn (λy h=>h.bE) h1.fr
      simp at h
     | c7=>
      dsimp only at h;split at h
      next hn=>simp  at h;obtain⟨rfl,rfl⟩:=h;exact lit .emp _ rfl rfl hn (λy h=>h.c7) h1.fr
      simp at h
     | _=>simp at h
    | _=>simp at h
  .rename_i T zs I e1 e2;split at h
   .rename_i hc;obtain⟨a1,p1,q1⟩:=tF h1 r.obj e1;obtain⟨a2,p2,q2⟩:=tF S r.obj e2
    cases dst with
    | none=>simp at h
    | some t=>
     dsimp only at h;generalize ar:giveUp st.m s=m1 at h;split at h
     .rename_i D;simp  at h;obtain⟨rfl,rfl⟩:=h;obtain⟨n1,_,_,_⟩:=jb D;have grow:∃H1,fR H y1=some H1/\H1.length=H.length/\(∀id,¬ez ν st.m id->H1[id]? = H[id]?) /\
       (∀id,ez ν m1 id->H1[id]? = H[id]?)/\(∀id,Z id->bq H1 id=bq H id):=by
       subst ar
       cases s with
       | own d=>
        simp[gW]at e1;split at e1
        .rename_i k es ab B;obtain⟨_,_,_,e,rfl⟩:=h1.fM B;cases e
         by_cases hk:bR k=true
         .have o:=r.obj d _ B;simp[cI,hk]at o;obtain⟨ys,hr,_⟩:=o;have O  := hk;have J:∀id,id≠(ν d).1->(H.set (ν d).1 .dead)[id]? = H[id]? := λid I=>by rw[List.getElem?_set];rw[if_neg (Ne.symm I)]
          refine⟨H.set (ν d).1 .dead,by rw[mH hk];grind[fR],by simp,λid ho=>J id λe=>ho ⟨d,_,0,B,O,e.symm⟩,λid ho=>J id λe=>?_,λid C=>?_⟩
          .obtain⟨k2,o2,j2,g1,g2,g3⟩:=ho;obtain⟨g4,g5⟩:=jB g1;exact g4 (r.inj d k2 _ o2 0 j2 B g5 O g2 (by rw[g3,e];rfl)).1
          unfold bq;rw[J id (by rintro rfl;exact r.apart d _ 0 B O C)]
         refine⟨H,?_,rfl,λ_ _=>rfl,λ_ _=>rfl,λ_ _=>rfl⟩
         cases k <;> simp[bR]at hk <;> rfl
        simp at e1
       | v x0=>
        refine⟨H,?_,rfl,λ_ _=>rfl,λ_ _=>rfl,λ_ _=>rfl⟩
        cases x0 <;> simp[Az]at hc
        .rw[h1.fr.c7];rfl
        rw[h1.fr.bE];rfl
       | _=>simp[Az]at hc
      obtain⟨H1,g1,g2,g3,g4,g5⟩:=grow;have W:∀e ob,bh m1 e=some ob->bh st.m e=some ob:=by
       subst ar;cases s <;> first|exact λ_ _ h=>h|exact jF
      have au:∀id,ez ν m1 id->id<H.length:=λid ⟨k,o,j,w1,w2,w3⟩=>r.lt ⟨k,o,j,W k o w1,w2,w3⟩
      have ad:∀id,id<H.length->(H1++[Ob.row size (a1++a2)])[id]? = H1[id]? := λid hl=>List.getElem?_append_left (by rw[g2];exact hl)
      have aj:∀id,Z id->bq (H1++[Ob.row size (a1++a2)]) id=bq H id:=λid C=>by
       have:=g5 id C;unfold bq at this ⊢;rw[ad id (r.tw C)];exact this
      have r1  := r.less  (λ_ _ h=>h) W
      have r2  := r1.heap (λid ho=>by rw[ad id (au id ho)];grind) aj
      have ff:=(q1.append q2).mono   λid C=>⟨C,aj id C⟩
      have ae:(H1++[Ob.row size (a1++a2)])[H.length]? = some (.row size (a1++a2)):=by
       rw[<-g2];simp
      refine⟨.hsl H.length size 0 (T.length+zs.length),H1++[Ob.row size (a1++a2)],fV ν t (H.length,0),?_,?_,?_,?_,Kept.add W⟩
      .have aJ:a2≠[]:=by
        rintro rfl;have aF  := List.length_eq_zero_iff.1 (by have:=q2.1;simpa using this)
        exact I aF
       have ao:a1.length+a2.length<=2147483648:=by rw[<-q1.1,<-q2.1];exact hc.1
       have aN:=q1.1;have aO:=q2.1;simp_all[eE]
      .refine r2.add D (λ_=>⟨λho=>?_,λC=>?_⟩) ?_
       .grind
       .exact absurd (r.tw C) Zc
       simp only[cI,gz];refine⟨_,ae,by simp[q1.1,q2.1],?_,ff.wX,λ_=>⟨trivial,by simp[q1.1,q2.1]⟩⟩
       have:(T++zs).length=(a1++a2).length:=by simp[q1.1,q2.1]
       rw[this,List.drop_zero,List.take_length];exact ff
      .refine .own _ _ λL U=>?_
       simp only at U;rw[bW]at U;cases U;exact⟨_,_,_,rfl,by simp[mM,gz]⟩
      refine Ev.re W n1 (by simp[g2]) (λid hl ho _=>?_) aj (λ_=>.inr (.inr (Nat.le_refl _)))
      rw[ad id hl];grind
     simp at h
   simp at h
  obtain⟨y,H',ν',e1,e2,e3,e4,e5⟩:=PD r h1 S h;exact⟨y,H',ν',e1,e2,e3,e4,e5⟩
 .
  rename_i size d o x l;obtain⟨_,_,rfl,h1,h2⟩:=Y.inv;obtain⟨y,aP,rfl,S,h4⟩:=h2.inv;split at h
  .rename_i av;split at h
   .rename_i cs B;obtain⟨aw,hp,e⟩:=ζf.1 h;simp  at e;obtain⟨rfl,rfl⟩:=e;obtain⟨_,_,rfl⟩:=h1.nQ B;obtain⟨es,G,hr,hc,aa⟩:=r.obj d _ B;obtain⟨p1,p2,p3,p4,p5⟩:=bS.RK hc S hp aa;have J:∀id,id≠(ν d).1->(H.set (ν d).1 (.row es [G.take o++y.cells++G.drop (o+y.cells.length)]))[id]? = H[id]? := λid I=>by rw[List.getElem?_set];rw[if_neg (Ne.symm I)]
    have C:∀id,Z id->Z id/\bq (H.set (ν d).1 (.row es [G.take o++y.cells++G.drop (o+y.cells.length)])) id=bq H id:=λid C=>⟨C,by
     unfold bq;rw[J id (by rintro rfl;exact r.apart d _ 0 B rfl C)]⟩
    refine⟨.undef,H.set (ν d).1 (.row es [G.take o++y.cells++G.drop (o+y.cells.length)]),ν,?_,?_,.v _ _ (.same _ rfl),Ev.fJ r B rfl (lH rfl) J rfl Zc,Kept.fJ B rfl (lH rfl)⟩
    .simp only[eE,ID r B h4 av,if_true,hr,List.getElem?_cons_zero,if_pos (And.intro p1 (And.intro p2 p3)),List.set_cons_zero]
    refine r.fJ B rfl (lH rfl) J rfl ⟨es,_,?_,p4.mono C (λe _ L he=>?_),p5⟩
    .have:=(ζe.1 hr).1;rw[List.getElem?_set_self this]
    by_cases k:e=d
    .subst k;rw[bW]at he;cases he;exact⟨_,B,rfl,rfl⟩
    rw[cn st.m _ (Ne.symm k)]at he;exact⟨L,he,rfl,.refl _⟩
   simp at h
  simp at h
 grind
end
def yD (d:Nat) (st:St):bf St:=
 match bh st.m d with
 | some (.sl k es t)=>some { st with g:=xP (SV.sub d (iY k es t)) st.g,m:=mapM (SV.rI d (iY k es t)) (cB d st.m) }
 | some (.dp k t none)=>some { st with g:=xP (SV.sub d (iY k 1 t)) st.g,m:=mapM (SV.rI d (iY k 1 t)) (cB d st.m) }
 | _=>none
def Kj (st:St):Loc->bf SV
 | .s n=>bh st.g n
 | .c b i=>match bh st.m b with
  | some (.box cs)=>cs[i]?
  | _=>none
def Tl:a_ V->Bool
 | [.bE]|[.c7]=>true
 | _=>false
def OZ (es:Nat):a_ V->bf bu
 | [.bE]=>some (.sl .nil es [])
 | [.c7]=>some (.sl .emp es [])
 | [.fsl u B]=>if u=es then some (.sl .row es B)else none
 | _=>none
def MI (st:St) (l:Loc):bf Nat:=match Kj st l with
 | some (.v (.int _ i))=>if 0<=i then some i.toNat else none
 | _=>none
def EN (d:Nat) (st:St):bf St:=
 match bh st.m d with
 | some (.sl k es t)=>if es=1/\k≠.part/\t.all Tl=true then some { st with m:=bB st.m d (.dp k t none) } else none
 | some (.dp _ _ none)=>some st
 | _=>none
def zI (d:Nat) (i:Loc) (es t:Nat) (st:St):bf St:=
 match bh st.m d,MI st i with
 | some (.dp k u none),some i=>if bR k=true/\st.new t=true then(u[i]?).bind λx=>(OZ es x).map λob=>{ st with m:=bB (bB st.m d (.dp k u (some (i,t)))) t ob } else none
 | none,_=>some st
 | _,_=>none
def ghost (x:Gh) (st:St):bf St:=
 match x with
 | .closeS l=>match Kj st l with
  | some (.own d)=>yD d st
  | some _=>some st
  | none=>none
 | .close d=>yD d st
 | .closeB d=>match bh st.m d with
  | some (.box cs)=>match cT cs with
   | some u=>some { st with g:=xP (SV.A1 d u) st.g,m:=mapM (SV.pS d u) (cB d st.m) }
   | none=>none
  | _=>none
 | .canon (.s n) d es=>match bh st.g n with
  | some (.v .bE)=>if st.new d then some { st with g:=bB st.g n (.own d),m:=bB st.m d (.sl .nil es []) } else none
  | some (.v .c7)=>if st.new d then some { st with g:=bB st.g n (.own d),m:=bB st.m d (.sl .emp es []) } else none
  | some (.own e)=>if e=d then some st else if st.new d then some { st with g:=yE e d st.g,m:=tL e d st.m } else none
  | some (.ptr e _)=>if e=d then some st else if st.new d then some { st with g:=yE e d st.g,m:=tL e d st.m } else none
  | _=>none
 | .canon (.c b i) d es=>match bh st.m b with
  | some (.box cs)=>match cs[i]? with
   | some (.v .bE)=>if st.new d then some { st with m:=bB (bB st.m d (.sl .nil es [])) b (.box (cs.set i (.own d))) } else none
   | some (.v .c7)=>if st.new d then some { st with m:=bB (bB st.m d (.sl .emp es [])) b (.box (cs.set i (.own d))) } else none
   | some (.own e)=>if e=d then some st else if st.new d then some { st with g:=yE e d st.g,m:=tL e d st.m } else none
   | _=>none
  | _=>none
 | .keep gs w=>match jt st.g gs,jt st.m w with
  | some g,some m=>some { st with g:=g,m:=m }
  | _,_=>none
 | .drop ds=>some { st with g:=n_ ds st.g }
 | .melt d=>EN d st
 | .take d i es t=>zI d i es t st
 | .put d=>uU d st
section
variable {Rv:Nat->Prop} {ν ν':Nu} {Z Z':Nat->Prop} {st st':St} {m m':Tb bu} {F F':Frame} {H H':bp} {N:Nat->FuncId}
theorem LD (r:R ν Z st F H) {dst:bf Nat} {size d:Nat} {J O:Bool} {T:a_ SV} {ys:a_ V} {sv:SV} (D:bS ν st.m H Z (.own d::T) ys) (h:yb st dst size J O d T=some (sv,st')) :
 ∃y ν',bP N (.slice size J O) ys=some y/\R ν' Z st' F H/\cF ν' st'.m H Z sv y/\Ev Rv ν Z st H ν' Z st' H:=by
 unfold yb at h;obtain⟨y0,zs,rfl,h1,U⟩:=D.inv;split at h
 .rename_i k es L ws t u W;split at h
  .rename_i hk;obtain⟨⟨l,hh⟩,X,h⟩:=ζg.1 h;obtain⟨⟨a,b⟩,C,h⟩:=ζg.1 h;dsimp only at h;split at h
   .rename_i w;obtain⟨rfl,rfl⟩:=h;obtain⟨_,_,_,e,rfl⟩:=h1.fM u;cases e;have Y:b<=L.length/\a<=b:=by
     grind[dD]
    have o:=r.obj d _ u;simp[cI,hk.1]at o;obtain⟨rs,hr,hl,hf,Q,_⟩:=o;have z  := hk.1;have r1:R ν Z { st with m:=cB d st.m } F H:=r.less  (λ_ _ h=>h) jF
    have G:¬ez ν (cB d st.m) (ν d).1:=by
     rintro⟨k2,o2,j2,g1,g2,g3⟩;obtain⟨g4,g5⟩:=jB g1;exact g4 (r.inj d k2 _ o2 0 j2 u g5 z g2 g3.symm).1
    have B:((L.take b).drop a).length=b-a:=by simp_all
    refine⟨.hsl (ν d).1 es ((ν d).2+a) (b-a),fV ν t ((ν d).1,(ν d).2+a),?_,?_,?_,?_⟩
    .have I:=bS.cT U W;rw[mH hk.1];simp[bP,I.l8 X,gX,if_pos hk.2,C]
    .refine r1.add w (λ_=>⟨G,r.apart d _ 0 u z⟩) ?_
     simp[cI,bR,gz];have:=(hf.take b).drop a
     grind[List.drop_take,List.drop_drop]
    .refine .own _ _ λaa S=>?_
     rw[bW]at S;cases S;exact⟨_,_,_,rfl,by rw[B];simp[mM,gz]⟩
    exact Ev.re (st:=st) jF (jb w).1 (Nat.le_refl _) (λ_ _ _ _=>rfl) (λ_ _=>rfl) (λ_=>.inl ⟨d,_,0,u,z,rfl⟩)
   grind
  grind
 grind
theorem Eg {f:SV->SV}:∀{g:Tb SV} {s:Nat},bh (xP f g) s=(bh g s).map f
 | [],s=>rfl
 | (k,x)::r,s=>by
  simp[xP,bh];split
  .rfl
  exact Eg
def zc (f:a_ SV->a_ SV):bu->bu
 | .box cs=>.box (f cs)
 | o=>o
theorem Dv {f:a_ SV->a_ SV}:∀{m:Tb bu} {d:Nat},bh (mapM f m) d=(bh m d).map (zc f)
 | [],d=>rfl
 | (k,x)::r,d=>by
  cases x <;> simp[mapM,bh] <;> split <;> first|rfl|exact Dv
theorem rU {d:Nat} {w:V}:∀{l:a_ SV} {j:Nat},(SV.rI d w l)[j]? = (l[j]?).map (SV.sub d w)
 | [],j=>by simp[SV.rI]
 | x::r,0=>by simp[SV.rI]
 | x::r,j+1=>by simp[SV.rI,rU ]
theorem qC {d:Nat} {w:a_ V}:∀{l:a_ SV} {j:Nat},(SV.pS d w l)[j]? = (l[j]?).map (SV.A1 d w)
 | [],j=>by simp[SV.pS]
 | x::r,0=>by simp[SV.pS]
 | x::r,j+1=>by simp[SV.pS,qC ]
theorem lS {d:Nat} {w:V}:∀{l:a_ SV},(SV.rI d w l).length=l.length
 | []=>rfl
 | x::r=>by simp[SV.rI,lS ]
theorem mT {d:Nat} {w:a_ V}:∀{l:a_ SV},(SV.pS d w l).length=l.length
 | []=>rfl
 | x::r=>by simp[SV.pS,mT ]
theorem cF.sub {sv:SV} {y w:V} {d:Nat} {k:Fl} {es n:Nat} {ob:bu} (J:bh m d=some ob) (D:ob.tE=.sl k es n) (O:FR H Z' w (mM (ν d) k es n)) (T:∀id,Z id->Z' id)
 (U:∀e ob',bh m' e=some ob'->e≠d/\∃ob,bh m e=some ob/\sameShape ob ob') (r:cF ν m H Z sv y):cF ν m' H Z' (sv.sub d w) y:=by
 have t:∀id,Z id->Z' id/\bq H id=bq H id:=λid h=>⟨T id h,rfl⟩
 have C:∀e ob',bh m' e=some ob'->∃ob,bh m e=some ob/\ν e=ν e/\sameShape ob ob':=λe ob' h=>by grind
 induction r with
 | v x y h=>exact .v x y (h.mono t)
 | own e y h=>
  simp[SV.sub];split
  next I=>subst I;obtain⟨_,_,_,e1,rfl⟩:=h _ J;rw[D]at e1;cases e1;exact .v _ _ O
  exact(cF.own e y h).mono t λe _=>C e
 | ptr e o y h=>exact(cF.ptr e o y h).mono t λe _=>C e
 | el e i o y h=>exact(cF.el e i o y h).mono t λe _=>C e
 | mp e y h=>exact(cF.mp e y h).mono t λe _=>C e
 | clo f a b z L G W hva Q B S=>
  refine .clo f _ _ z L (by rw[lS];omega) (by rw[lS];omega) (λj u v hu hv=>?_) (λj u v hu hv=>?_)
  all_goals grind[rU]
 | tup a z G hva B=>
  refine .tup _ z (by rw[lS];omega) (λj u v hu hv=>?_)
  rw[rU,ζf]at hu;grind
 | agg a z G hva B=>
  refine .agg _ z (by rw[lS];omega) (λj u v hu hv=>?_)
  rw[rU,ζf]at hu;grind
 | yl id=>exact .yl id
theorem Q5 {f:FuncId} {a b:a_ SV} {y:V} (r:cF ν m H Z (.clo f a b) y):cF ν m H Z (Nc f a b) y:=by
 unfold Nc;split
 .rename_i x z C D;cases r with|clo _ _ _ u w G I hva t=>
  have h1:=bS.cT (ν:=ν) (m:=m) (H:=H) (Z:=Z) (ys:=u) ⟨G,hva⟩ C;have B:=bS.cT (ν:=ν) (m:=m) (H:=H) (Z:=Z) (ys:=w) ⟨I,t⟩ D;exact .v _ _ (.clo f x z u w h1.1 B.1 h1.2 B.2)
 exact r
theorem cF.A1 {sv:SV} {y:V} {d:Nat} {cs:a_ SV} {xs:a_ V} (D:bh m d=some (.box cs)) (G:∀o,o<=xs.length->FR H Z' (.fptr (xs.drop o)) (.hptr (ν d).1 0 o)) (J:∀id,Z id->Z' id)
 (U:∀e ob',bh m' e=some ob'->e≠d/\∃ob,bh m e=some ob/\sameShape ob ob') (r:cF ν m H Z sv y):cF ν m' H Z' (sv.A1 d xs) y:=by
 have t:∀id,Z id->Z' id/\bq H id=bq H id:=λid h=>⟨J id h,rfl⟩
 have w:∀e ob',bh m' e=some ob'->∃ob,bh m e=some ob/\ν e=ν e/\sameShape ob ob':=λe ob' h=>by grind
 induction r with
 | v x y h=>exact .v x y (h.mono t)
 | own e y h=>exact(cF.own e y h).mono t λe _=>w e
 | ptr e o y h=>
  simp only[SV.A1];split
  .rename_i I;subst I;obtain⟨_,e1,rfl⟩:=h _ D;split
   next L=>exact .v _ _ (G o L)
   exact(cF.ptr e o _ h).mono t λe _=>w e
  exact(cF.ptr e o y h).mono t λe _=>w e
 | el e i o y h=>exact(cF.el e i o y h).mono t λe _=>w e
 | mp e y h=>exact(cF.mp e y h).mono t λe _=>w e
 | clo f a b z O B Q hva S C T=>
  refine Q5 (.clo f _ _ z O (by rw[mT];exact B) (by rw[mT];exact Q) (λj u v hu hv=>?_) (λj u v hu hv=>?_))
  .rw[qC,ζf]at hu;grind
  rw[qC,ζf]at hu;grind
 | tup a z B hva C=>
  refine .tup _ z (by rw[mT];exact B) (λj u v hu hv=>?_)
  rw[qC,ζf]at hu;grind
 | agg a z B hva C=>
  refine .agg _ z (by rw[mT];exact B) (λj u v hu hv=>?_)
  rw[qC,ζf]at hu;grind
 | yl id=>exact .yl id
theorem cI.zc {d:Nat} {ob:bu} {f:a_ SV->a_ SV} (G:∀id,Z id->Z' id) (T:∀l,(f l).length=l.length)
 (J:∀cs u,bS ν m H Z cs u->bS ν m' H Z' (f cs) u) (O:∀e ob',bh m' e=some ob'->∃ob,bh m e=some ob/\sameShape ob ob') (o:cI ν m H Z d ob):cI ν m' H Z' d (zc f ob):=by
 have t:∀id,Z id->Z' id/\bq H id=bq H id:=λid h=>⟨G id h,rfl⟩
 cases ob with
 | sl k es D=>
  simp[Go.VE.zc,cI]at o ⊢;split
  next hk=>rw[if_pos hk]at o;obtain⟨I,h1,z,C,L,Q⟩:=o;exact⟨I,h1,z,C.mono t,L.mono t,Q⟩
  grind
 | box cs=>
  obtain⟨es,u,h1,z,C⟩:=o;exact⟨es,u,h1,J cs u z,C⟩
 | mp S=>
  obtain⟨B,h1,z⟩:=o;exact⟨B,h1,z.mono t⟩
 | dp k D w=>
  exact cI.mono (ob:=.dp k D w) t rfl (λ_ _=>rfl) (λe _ ob' h=>let ⟨ob,h1,z⟩:=O e ob' h;⟨ob,h1,rfl,z⟩) o
theorem CV {f:a_ SV->a_ SV} {ob:bu}:(zc f ob).pt=ob.pt:=by cases ob <;> rfl
theorem IQ {f:a_ SV->a_ SV} {ob:bu}:sameShape ob (zc f ob):=by cases ob <;> rfl
theorem R.shut (r:R ν Z st F H) {d:Nat} {ob:bu} (h0:bh st.m d=some ob) {fs:SV->SV} {D:a_ SV->a_ SV} (hl:∀l,(D l).length=l.length) (hg:∀l (j:Nat),(D l)[j]? = (l[j]?).map fs)
 (B:∀id,Z' id↔Z id\/∃j,ob.pt j=true/\id=ν.at d j) (G:∀j,ob.pt j=true->∃es ys,H[ν.at d j]? = some (.row es ys)/\sG H Z' ys)
 (hf:∀m',(∀e ob',bh m' e=some ob'->e≠d/\∃ob,bh st.m e=some ob/\sameShape ob ob')->∀sv y,cF ν st.m H Z sv y->cF ν m' H Z' (fs sv) y) :
 R ν Z' { st with g:=xP fs st.g,m:=mapM D (cB d st.m) } F H/\Ev Rv ν Z st H ν Z' { st with g:=xP fs st.g,m:=mapM D (cB d st.m) } H:=by
 have key:∀e ob',bh (mapM D (cB d st.m)) e=some ob'->e≠d/\∃ob,bh st.m e=some ob/\ob'=zc D ob:=λe ob' h=>by
  rw[Dv,ζf]at h;obtain⟨o,h1,rfl⟩:=h
  grind[jB]
 have t:∀e ob',bh (mapM D (cB d st.m)) e=some ob'->e≠d/\∃ob,bh st.m e=some ob/\sameShape ob ob':=λe ob' h=>by
  obtain⟨h1,o,w,rfl⟩:=key e ob' h;grind[IQ]
 have hF:=hf _ t;have T:∀cs z,bS ν st.m H Z cs z->bS ν (mapM D (cB d st.m)) H Z' (D cs) z:=λcs z h=>by
  refine⟨by rw[hl];exact h.1,λj u v hu hv=>?_⟩
  rw[hg,ζf]at hu;obtain⟨u',U,rfl⟩:=hu;exact hF u' v (h.2 j u' v U hv)
 have C  := λid h=>(B id).2 (.inl h)
 refine⟨⟨λs sv Q=>?_,λe ob' W=>?_,λd1 d2 o1 o2 S j2 h1 w J b2 hp=>?_,λd1 o1 S h1 J=>?_,λid h=>?_,⟨λid es ys L hr c hc u hu=>?_⟩⟩,⟨Nat.le_refl _,λ_ _ _ _ _=>rfl,λid h=>⟨C id h,rfl⟩,?_,?_,?_,rfl⟩⟩
 .rw[Eg,ζf]at Q;obtain⟨O,X,rfl⟩:=Q;exact hF O _ (r.slot s O X)
 .obtain⟨h1,o,w,rfl⟩:=key e ob' W;exact cI.zc C hl T (λe ob' h=>(t e ob' h).2) (r.obj e o w)
 .obtain⟨_,p1,k1,rfl⟩:=key d1 o1 h1;obtain⟨_,p2,k2,rfl⟩:=key d2 o2 w;rw[CV]at J b2;exact r.inj d1 d2 p1 p2 S j2 k1 k2 J b2 hp
 .obtain⟨Y,p1,k1,rfl⟩:=key d1 o1 h1;rw[CV]at J;intro L;rcases (B _).1 L with L|⟨j,I,W⟩
  .exact r.apart d1 p1 S k1 J L
  exact Y (r.inj d1 d p1 ob S j k1 h0 J I W).1
 .rcases (B id).1 h with h|⟨j,I,rfl⟩
  .exact r.zrow id h
  obtain⟨es,ys,hr,_⟩:=G j I;unfold bq;rw[hr];rfl
 .rcases (B id).1 L with h|⟨j,I,rfl⟩
  .obtain⟨x,hx⟩:=r.deep.row id es ys h hr c hc u hu;exact⟨x,hx.mono λk hk=>⟨C k hk,rfl⟩⟩
  obtain⟨ab,ad,aa,Q⟩:=G j I;unfold bq at hr;rw[aa]at hr;obtain⟨_,rfl⟩:=hr;exact Q c hc u hu
 .rintro id ⟨e,o,j,h1,w,h3⟩;obtain⟨_,p,k1,rfl⟩:=key e o h1;rw[CV]at w;exact .inl ⟨e,p,j,k1,w,h3⟩
 .intro id h;rcases (B id).1 h with h|⟨j,I,rfl⟩
  .grind
  exact .inr (.inl ⟨d,ob,j,h0,I,rfl⟩)
 grind
theorem GK (r:R ν Z st F H) {d:Nat} (h:yD d st=some st'):∃Z',R ν Z' st' F H/\Ev Rv ν Z st H ν Z' st' H:=by
 unfold yD at h;split at h
 .rename_i k es w t;simp only[ζa]at h;subst h;have o:=r.obj d _ t;refine⟨λid=>Z id\/∃j,(bu.sl k es w).pt j=true/\id=ν.at d j,R.shut r t (λ_=>lS) (λ_ _=>rU) (λ_=>Iff.rfl) (λj z=>?_) (λm' u D y hr=>?_)⟩
  .have:=iU (ob:=.sl k es w) Zc j z
   subst this;have hk:bR k=true:=z;simp only[cI,hk,if_true]at o;obtain⟨B,hr,_,_,C,_⟩:=o;exact⟨es,B,hr,C.mono λid h=>⟨.inl h,rfl⟩⟩
  refine cF.sub t rfl ?_ (λid h=>.inl h) u hr
  by_cases hk:bR k=true
  .simp[cI,hk]at o;obtain⟨B,hr,G,I,C,_⟩:=o;rw[mH hk];have e:iY k es w=.fsl es w:=by cases k <;> simp[bR]at hk <;> rfl
   rw[e];refine FR.Bi (.inr ⟨0,hk,rfl⟩) (by unfold bq;rw[hr];rfl) G (I.mono λid h=>⟨.inl h,rfl⟩)
  cases k <;> simp[bR]at hk
  .exact .same _ rfl
  exact .same _ rfl
 .rename_i k w t;simp only[ζa]at h;subst h;obtain⟨h1,J⟩:=J8 (Z':=λid=>Z id\/∃j,(bu.dp k w none).pt j=true/\id=ν.at d j) (r.obj d _ t) (λid h=>.inl h) (λj h=>.inr ⟨j,h,rfl⟩)
  exact⟨_,R.shut r t (λ_=>lS) (λ_ _=>rU) (λ_=>Iff.rfl) J (λm' u D y hr=>cF.sub t rfl h1 (λid h=>.inl h) u hr)⟩
 cases h
theorem K_ (r:R ν Z st F H) {d:Nat} (h:ghost (.closeB d) st=some st'):∃Z',R ν Z' st' F H/\Ev Rv ν Z st H ν Z' st' H:=by
 simp[ghost]at h;split at h
 .rename_i cs t;split at h
  .rename_i G I;simp  at h;subst h;obtain⟨es,w,hr,hc,_⟩:=r.obj d _ t;have B:=hc.cT I;have J:sG H Z [w]:=by
    intro c z u hu;simp[List.mem_singleton]at z;subst z;obtain⟨j,L⟩:=List.mem_iff_getElem?.1 hu;have O:j<G.length:=by rw[B.1];grind
    exact⟨_,B.2 j _ u (ζd O) L⟩
   refine⟨λid=>Z id\/∃j,(bu.box cs).pt j=true/\id=ν.at d j,R.shut r t (λ_=>mT) (λ_ _=>qC) (λ_=>Iff.rfl) (λj Q=>by have:=iU (ob:=.box cs) Zc j Q;subst this;exact⟨es,_,hr,J.mono λid h=>⟨.inl h,rfl⟩⟩) (λm' C S y D=>?_)⟩
   refine cF.A1 t (λo T=>?_) (λid h=>.inl h) C D
   exact FR.Cm (.inr ⟨0,rfl,rfl⟩) (show bq H (ν d).1=some (es,[w])by unfold bq;rw[hr];rfl) rfl (by rw[<-B.1];omega) ((B.drop o).mono λid h=>⟨.inl h,rfl⟩)
  grind
 grind
theorem sq {d e:Nat}:∀{l:a_ SV} {j:Nat},(SV.tR d e l)[j]? = (l[j]?).map (SV.qJ d e)
 | [],j=>by simp[SV.tR]
 | x::r,0=>by simp[SV.tR]
 | x::r,j+1=>by simp[SV.tR,sq ]
theorem nR {d e:Nat}:∀{l:a_ SV},(SV.tR d e l).length=l.length
 | []=>rfl
 | x::r=>by simp[SV.tR,nR ]
theorem DU {d e:Nat}:∀{g:Tb SV} {s:Nat},bh (yE d e g) s=(bh g s).map (SV.qJ d e)
 | [],s=>rfl
 | (k,x)::r,s=>by
  simp[yE,bh];split
  .rfl
  exact DU
theorem yM {d e:Nat} (u:d≠e):∀{m:Tb bu} {k:Nat},bh m e=none->bh (tL d e m) k=(if k=d then none else(bh m (if k=e then d else k)).map (bu.qJ d e))
 | [],k,_=>by simp[tL,bh]
 | (n,x)::r,k,h=>by
  simp[bh]at h;split at h
  .simp_all
  have B:=yM u  (k:=k) h
  grind[tL,bh]
def k8 (ν:Nu) (d e:Nat):Nu:=⟨λk=>if k=e then ν d else ν k,λk=>if k=e then ν.inn d else ν.inn k⟩
theorem Oq (ν:Nu) (d e k j:Nat):(k8 ν d e).at k j=ν.at (if k=e then d else k) j:=by
 cases j <;> simp only[Nu.at,k8] <;> split <;> rfl
theorem CK {d e:Nat} {ob:bu}:(ob.qJ d e).tE=ob.tE:=by
 cases ob with
 | dp k u w=>rcases w with _|⟨i,t⟩ <;> rfl
 | _=>rfl
theorem Ft {d e:Nat} {ob:bu}:(ob.qJ d e).pt=ob.pt:=by
 cases ob with
 | dp k u w=>rcases w with _|⟨i,t⟩ <;> rfl
 | _=>rfl
theorem cF.qJ {sv:SV} {y:V} {d e:Nat} (O:bh m e=none) (D:sv.cw e=false) (G:d≠e) (r:cF ν m H Z sv y):cF (k8 ν d e) (tL d e m) H Z (sv.qJ d e) y:=by
 have key:∀k,k≠e->∀t,bh (tL d e m) (if k=d then e else k)=some t->∃ob,bh m k=some ob/\k8 ν d e (if k=d then e else k)=ν k/\t=ob.qJ d e:=λk hk t h=>by
  rw[yM G O]at h
  by_cases h1:k=d
  .subst h1;rw[if_pos rfl,if_neg (Ne.symm G),if_pos rfl,ζf]at h;obtain⟨ob,z,rfl⟩:=h;simp_all[k8]
  rw[if_neg h1,if_neg h1,if_neg hk,ζf]at h;obtain⟨ob,z,rfl⟩:=h;simp_all[k8]
 induction r with
 | v x y h=>exact .v x y h
 | own k y h=>
  have hk:k≠e:=by simp_all[SV.cw]
  refine .own _ y λt C=>?_
  obtain⟨ob,h1,z,rfl⟩:=key k hk t C;obtain⟨_,_,_,D,rfl⟩:=h ob h1;exact⟨_,_,_,CK.trans D,by rw[z]⟩
 | ptr k o y h=>
  have hk:k≠e:=by simp_all[SV.cw]
  refine .ptr _ o y λt C=>?_
  obtain⟨ob,h1,z,rfl⟩:=key k hk t C;obtain⟨_,rfl,rfl⟩:=h ob h1;exact⟨_,rfl,by rw[z]⟩
 | el k i o y h=>
  have hk:k≠e:=by simp_all[SV.cw]
  refine .el _ i o y λt C=>?_
  obtain⟨ob,h1,z,rfl⟩:=key k hk t C;obtain⟨_,_,_,D,Q,rfl⟩:=h ob h1;exact⟨_,_,_,CK.trans D,Q,by rw[z]⟩
 | mp k y h=>
  have hk:k≠e:=by simp_all[SV.cw]
  refine .mp _ y λt C=>?_
  obtain⟨ob,h1,z,rfl⟩:=key k hk t C;obtain⟨_,rfl,rfl⟩:=h ob h1;exact⟨_,rfl,by rw[z]⟩
 | clo f a b I S L W hva T B U=>
  simp[SV.cw]at D;refine .clo f _ _ I S (by rw[nR];omega) (by rw[nR];omega) (λj u v hu hv=>?_) (λj u v hu hv=>?_)
  .rw[sq,ζf]at hu;obtain⟨J,w,rfl⟩:=hu;grind[rZ]
  rw[sq,ζf]at hu;obtain⟨J,w,rfl⟩:=hu;grind[rZ]
 | tup a I L hva B=>
  refine .tup _ I (by rw[nR];omega) (λj u v hu hv=>?_)
  rw[sq,ζf]at hu;obtain⟨J,w,rfl⟩:=hu;exact B j J v w hv (rZ D w)
 | agg a I L hva B=>
  refine .agg _ I (by rw[nR];omega) (λj u v hu hv=>?_)
  rw[sq,ζf]at hu;obtain⟨J,w,rfl⟩:=hu;exact B j J v w hv (rZ D w)
 | yl id=>exact .yl id
theorem Fg (r:R ν Z st F H) {d e:Nat} (D:d≠e) (hn:st.new e=true):R (k8 ν d e) Z { st with g:=yE d e st.g,m:=tL d e st.m } F H/\Ev Rv ν Z st H (k8 ν d e) Z { st with g:=yE d e st.g,m:=tL d e st.m } H:=by
 obtain⟨n1,U,n3,n4⟩:=jb hn;have key:∀k z,bh (tL d e st.m) k=some z->∃k0 ob,bh st.m k0=some ob/\z=ob.qJ d e/\k0=(if k=e then d else k)/\k≠d/\(k=e/\k0=d\/k≠e/\k0=k):=λk z h=>by
  rw[yM D U]at h;split at h
  .simp_all
  rename_i h1;rw[ζf]at h;obtain⟨ob,B,rfl⟩:=h
  by_cases G:k=e
  .rw[if_pos G]at B;exact⟨d,ob,B,rfl,by grind[k8],h1,.inl ⟨G,rfl⟩⟩
  rw[if_neg G]at B;exact⟨k,ob,B,rfl,by grind[k8],h1,.inr ⟨G,rfl⟩⟩
 have C:∀k j,(k8 ν d e).at k j=ν.at (if k=e then d else k) j:=Oq ν d e;have L:∀k,(k8 ν d e) k=ν (if k=e then d else k):=λk=>by simp only[k8];split <;> rfl
 have W:∀k,(k8 ν d e).inn k=ν.inn (if k=e then d else k):=λk=>by simp only[k8];split <;> rfl
 refine⟨⟨λs sv hs=>?_,λk z hk=>?_,λd1 d2 o1 o2 X j2 h1 B O b2 J=>?_,λd1 o1 X h1 O=>?_,r.zrow,r.deep⟩,⟨Nat.le_refl _,λ_ _ _ _ _=>rfl,λid h=>⟨h,rfl⟩,?_,λ_ h=>.inl h,?_,rfl⟩⟩
 .rw[DU,ζf]at hs;obtain⟨Y,Q,rfl⟩:=hs;exact cF.qJ U (w9 n3 Q) D (r.slot s Y Q)
 .obtain⟨k0,ob,h1,rfl,B,_,_⟩:=key k z hk;have o:=r.obj k0 ob h1;have J:(k8 ν d e) k=ν k0:=by rw[L,<-B]
  cases ob with
  | sl fl es xs=>grind[bu.qJ,cI]
  | box cs=>
   obtain⟨es,aa,g1,g2,g3⟩:=o;have I  := by have:=qd n4 h1;simpa [bu.cw]using this
   refine⟨es,aa,by rw[J];exact g1,⟨by rw[nR];exact g2.1,λj u v hu hv=>?_⟩,g3⟩
   rw[sq,ζf]at hu;obtain⟨u',S,rfl⟩:=hu;exact cF.qJ U (rZ I S) D (g2.2 j u' v S hv)
  | mp ab=>grind[bu.qJ,cI]
  | dp fl xs w=>
   have hi:(k8 ν d e).inn k=ν.inn k0:=by rw[W,<-B]
   have hC:∀i x y,s7 ν H Z k0 i x y->s7 (k8 ν d e) H Z k i x y:=λi x y h=>by
    unfold s7 at h ⊢;rw[hi];exact h
   have I:=qd n4 h1;rcases w with _|⟨i0,t⟩
   .simp only[bu.qJ,cI,J]at o ⊢;split
    next hk=>rw[if_pos hk]at o;obtain⟨o1,o2,o3,ys,o4,o5,o6⟩:=o;exact⟨o1,o2,o3,ys,o4,o5,λi x y hx hy=>hC i x y (o6 i x y hx hy)⟩
    rename_i hk;rw[if_neg hk]at o;exact o
   simp only[bu.qJ,cI,J]at o ⊢;split
   .rename_i hk;rw[if_pos hk]at o;obtain⟨o1,o2,o3,ys,o4,o5,o6⟩:=o;refine⟨o1,o2,λi t' e=>by cases e;exact o3 _ _ rfl,ys,o4,o5,λi x y hx hy=>?_⟩
    have T:=o6 i x y hx hy;simp only[mP]at T ⊢;split
    next e0=>rw[if_pos e0]at T;obtain⟨v,q1,q2,q3⟩:=T;exact⟨v,q1,q2,cF.qJ (sv:=.own t) U (by simpa [bu.cw,SV.cw]using I) D q3⟩
    rename_i e0;rw[if_neg e0]at T;exact hC i x y T
   rename_i hk;rw[if_neg hk]at o;cases o.2
 .obtain⟨k1,p1,g1,rfl,e1,c1,c2⟩:=key d1 o1 h1;obtain⟨k2,p2,g2,rfl,e2,c3,c4⟩:=key d2 o2 B;rw[Ft]at O b2;rw[C,C,<-e1,<-e2]at J;have:=r.inj k1 k2 p1 p2 X j2 g1 g2 O b2 J;omega
 .obtain⟨k1,p1,g1,rfl,e1,_⟩:=key d1 o1 h1;rw[Ft]at O;rw[C,<-e1];exact r.apart k1 p1 X g1 O
 .rintro id ⟨k,o,j,h1,B,G⟩;obtain⟨k1,p1,g1,rfl,e1,_⟩:=key k o h1;rw[Ft]at B;exact .inl ⟨k1,p1,j,g1,B,by rw[C,<-e1]at G;exact G⟩
 intro k hk z h;obtain⟨k1,p1,g1,rfl,e1,c1,c2⟩:=key k z h;rcases c2 with⟨rfl,_⟩|⟨c2,rfl⟩
 .grind
 exact⟨p1,g1,by rw[L,<-e1],CK⟩
theorem R.Vx (r:R ν Z st F H) {n:Nat} {sv:SV} (h:cF ν st.m H Z sv (get F n)):R ν Z { st with g:=bB st.g n sv } F H where
 slot:=λs x t=>by
  by_cases e:n=s
  .grind[bW]
  rw[cn st.g sv e]at t;exact r.slot s x t
 obj:=r.obj
 inj:=r.inj
 apart:=r.apart
 zrow:=r.zrow
 deep:=r.deep
theorem Lc (r:R ν Z st F H) {n d es:Nat} {k:Fl} {x:V} (hk:iY k es []=x/\bR k=false) (D:bh st.g n=some (.v x)) (B:st.new d=true) (G:∀y,FR H Z x y->y=x) (u:mM (ν d) k es 0=x) :
 R (fV ν d (ν d)) Z { st with g:=bB st.g n (.own d),m:=bB st.m d (.sl k es []) } F H/\Ev Rv ν Z st H (fV ν d (ν d)) Z { st with g:=bB st.g n (.own d),m:=bB st.m d (.sl k es []) } H:=by
 have t:dJ (.sl k es [])=true->False:=by grind[dJ]
 have r1:=r.add B (p:=ν d)  (λh=>(t h).elim) (by grind[cI])
 refine⟨r1.Vx   (.own _ _ λz w=>?_),?_⟩
 .rw[bW]at w;cases w;rw[gz,G _ (r.slot n _ D).fr];exact⟨_,_,_,rfl,u.symm⟩
 exact(Ev.add  B (Nat.le_refl _) (λ_ _ _=>rfl) (λ_ _=>rfl) (λh=>(t h).elim)).trans (Ev.slots _)
theorem Lw (r:R ν Z st F H) {b i d es:Nat} {k:Fl} {x:V} {cs:a_ SV} (hk:bR k=false) (O:bh st.m b=some (.box cs)) (T:cs[i]? = some (.v x)) (D:st.new d=true) (U:∀y,FR H Z x y->y=x) (G:mM (ν d) k es 0=x) :
 ∃ν',R ν' Z { st with m:=bB (bB st.m d (.sl k es [])) b (.box (cs.set i (.own d))) } F H/\Ev Rv ν Z st H ν' Z { st with m:=bB (bB st.m d (.sl k es [])) b (.box (cs.set i (.own d))) } H:=by
 have z:dJ (.sl k es [])=true->False:=by grind[dJ]
 have r1:=r.add D (p:=ν d)  (λh=>(z h).elim) (by grind[cI])
 have B:b≠d:=by rintro rfl;rw[(jb D).2.1]at O;cases O
 have w:bh (bB st.m d (.sl k es [])) b=some (.box cs):=by rw[cn _ _ (Ne.symm B)];omega
 obtain⟨C,I,h1,J,S⟩:=r1.obj b _ w;have W:∀e t,bh (bB (bB st.m d (.sl k es [])) b (.box (cs.set i (.own d)))) e=some t->∃ob,bh (bB st.m d (.sl k es [])) e=some ob/\fV ν d (ν d) e=fV ν d (ν d) e/\sameShape ob t:=λe t h=>by
  by_cases L:e=b
  .subst L;rw[bW]at h;cases h;exact⟨_,w,rfl,rfl⟩
  rw[cn _ _ (Ne.symm L)]at h;exact⟨t,h,rfl,.refl _⟩
 refine⟨fV ν d (ν d),r1.fJ w rfl (lH rfl) (λ_ _=>rfl) rfl ⟨C,I,h1,⟨by simp[J.1],λj u v hu hv=>?_⟩,S⟩,?_⟩
 .rw[List.getElem?_set]at hu;split at hu
  .rename_i e;subst e;split at hu
   .cases hu;refine .own _ _ λt Q=>?_
    rw[cn _ _ B,bW]at Q;cases Q;rw[gz,U v (J.2 i _ v T hv).fr];exact⟨_,_,_,rfl,G.symm⟩
   grind
  exact(J.2 j u v hu hv).mono (λid h=>⟨h,rfl⟩) λe _=>W e
 exact(Ev.add  D (Nat.le_refl _) (λ_ _ _=>rfl) (λ_ _=>rfl) (λh=>(z h).elim)).trans (Ev.fJ r1 w rfl (lH rfl) (λ_ _=>rfl) rfl (Nat.le_refl _))
theorem PM (r:R ν Z st F H) {d:Nat} (h:EN d st=some st'):R ν Z st' F H/\Ev Rv ν Z st H ν Z st' H:=by
 unfold EN at h;split at h
 .rename_i k es D u;split at h
  .rename_i hc;obtain⟨rfl,hk,w⟩:=hc;cases h;have G:∀(i:Nat) (x:a_ V),D[i]? = some x->x=[.bE]\/x=[.c7]:=λi x I=>by
    have:=List.all_eq_true.1 w x (List.mem_of_getElem? I);unfold Tl at this;split at this
    .exact .inl rfl
    .exact .inr rfl
    cases this
   have z:∀j,(bu.dp k D none).pt j=true->(bu.sl k 1 D).pt j=true:=λj L=>by
    cases j with
    | zero=>exact L
    | succ i=>
     obtain⟨-,es,T,I⟩:=p_ L;rcases G i _ I with h|h <;> cases h
   have o:=r.obj d _ u;refine⟨r.CH u rfl z (λ_ _=>rfl) ?_,Ev.CH r u rfl z (λ_ _=>rfl) (Nat.le_refl _)⟩
   simp only[cI]at o ⊢;split
   .rename_i hr;rw[if_pos hr]at o;have hk:k=.row:=by cases k <;> simp_all [bR]
    obtain⟨Q,o1,o2,o3,U,C⟩:=o;obtain⟨C,O⟩:=C hk;refine⟨hk,C,(λi t e=>by cases e),Q,o1,O,λi x y w S=>.inl ⟨?_,G i x w⟩⟩
    rw[C,List.drop_zero,<-O,List.take_length]at o3;have B:=o3.2 i x y w S;rcases G i x w with rfl|rfl
    .obtain⟨y,_,rfl,h1,J⟩:=B.inv;rw[J.cZ,h1.bE]
    obtain⟨y,_,rfl,h1,J⟩:=B.inv;rw[J.cZ,h1.c7]
   rename_i hr;rw[if_neg hr]at o;exact⟨o,by simp⟩
  cases h
 .cases h;exact⟨r,.refl⟩
 cases h
theorem PO (r:R ν Z st F H) {d es t:Nat} {i:Loc} (h:zI d i es t st=some st'):∃ν',R ν' Z st' F H/\Ev Rv ν Z st H ν' Z st' H:=by
 unfold zI at h;split at h
 rotate_left
 .cases h;exact⟨ν,r,.refl⟩
 .cases h
 rename_i k S i u _;split at h
 rotate_left
 .cases h
 rename_i hc;obtain⟨hk,ab⟩:=hc;obtain⟨x,hx,h⟩:=ζg.1 h;obtain⟨ob,hu,rfl⟩:=ζf.1 h;obtain⟨n1,n2,n3,n4⟩:=jb ab;have G:d≠t:=by rintro rfl;rw[n2]at u;cases u
 have hi:=(ζe.1 hx).1;have o:=r.obj d _ u;simp only[cI,hk,if_true]at o;obtain⟨o1,o2,-,ys,o3,o4,o5⟩:=o;have T:∀j,(bu.dp k S (some (i,t))).pt j=true->j≠i+1/\(bu.dp k S none).pt j=true:=λj I=>by
  cases j with
  | zero=>exact⟨by omega,I⟩
  | succ j=>
   obtain⟨h1,es,D,J⟩:=p_ I;exact⟨λe=>h1 t (by rw[show i=j by omega]),by simp[bu.pt,J]⟩
 have U:∀y,ys[i]? = some y->s7 ν H Z d i x y:=λy hy=>o5 i x y hx hy
 obtain⟨y,hy⟩:∃y,ys[i]? = some y:=⟨_,ζd Za⟩
 have ae:=U y hy;obtain⟨v,kk,D,e1,e2,e3,e4,e5,e6⟩:∃v kk D,y=[v]/\v.one=true/\ob=.sl kk es D/\v=mM (ν.inn d i,0) kk es D.length/\(bR kk=true->(bu.dp k S none).pt (i+1)=true/\∃ws,H[ν.inn d i]? = some (.row es ws)/\fm H Z D ws)/\(bR kk=false->D=[]):=by
  rcases ae with⟨rfl,rfl|rfl⟩|⟨al,D,ws,rfl,rfl,q1,q2⟩
  .cases hu;exact⟨.bE,.nil,[],rfl,rfl,rfl,rfl,(λh=>by cases h),λ_=>rfl⟩
  .cases hu;exact⟨.c7,.emp,[],rfl,rfl,rfl,rfl,(λh=>by cases h),λ_=>rfl⟩
  simp only[OZ]at hu;split at hu
  next e=>subst e;cases hu;exact⟨_,.row,D,rfl,rfl,rfl,rfl,λ_=>⟨by simp[bu.pt,hx],ws,q1,q2⟩,λh=>by cases h⟩
  cases hu
 subst e3;have r1:R ν Z { st with m:=bB st.m d (.dp k S (some (i,t))) } F H:=by
  refine r.CH u rfl (λj I=>(T j I).2) (λ_ _=>rfl) ?_
  simp only[cI,hk,if_true];refine⟨o1,o2,λi' t' e=>by cases e;exact hi,ys,o3,o4,λi' x' y' W w=>?_⟩
  simp only[mP];split
  next e=>subst e;rw[hy]at w;cases w;exact⟨v,e1,e2,.own _ _ λX h'=>by rw[cn _ _ G,n2]at h';cases h'⟩
  exact o5 i' x' y' W w
 have L:∀e,bh (bB st.m d (.dp k S (some (i,t)))) e=some (.dp k S (some (i,t)))/\e=d\/e≠d/\bh (bB st.m d (.dp k S (some (i,t)))) e=bh st.m e:=λe=>by
  by_cases C:e=d
  .subst C;exact .inl ⟨bW _ _ _,rfl⟩
  exact .inr ⟨C,cn _ _ (Ne.symm C)⟩
 have hs:=lE ν t (ν.inn d i,0) (λ_=>0)
 have ad:(iG ν t (ν.inn d i,0) (λ_=>0)).at t 0=ν.at d (i+1):=congrArg Prod.fst hs.1
 have O:(bu.sl kk es D).flat:=iU Zc
 have af:∀id,Z id->Z id/\bq H id=bq H id:=λid h=>⟨h,rfl⟩
 refine⟨iG ν t (ν.inn d i,0) (λ_=>0),r1.NL (ob:=.sl kk es D) (p:=(ν.inn d i,0)) (f:=λ_=>0) ?_ n3 (λe o C ho=>?_) (λj I=>?_) (λj j' I ah _=>by rw[O j I,O j' ah]) ?_,⟨Nat.le_refl _,λ_ _ _ _ _=>rfl,af,λid ho=>?_,λ_ h=>.inl h,λe C X h=>?_,rfl⟩⟩
 .rw[cn _ _ G];exact n2
 .rcases L e with⟨h1,rfl⟩|⟨h1,J⟩
  .simp only at C;rw[h1]at C;cases C;have ai:(iG ν t (ν.inn e i,0) (λ_=>0)) e=ν e:=if_neg G
   have aj:(iG ν t (ν.inn e i,0) (λ_=>0)).inn e=ν.inn e:=if_neg G
   simp only[cI,hk,if_true,ai];refine⟨o1,o2,λi' t' e=>by cases e;exact hi,ys,o3,o4,λi' x' y' W w=>?_⟩
   simp only[mP];split
   .rename_i e9;subst e9;rw[hy]at w;cases w;refine⟨v,e1,e2,.own _ _ λX h'=>?_⟩
    rw[bW]at h';cases h';exact⟨_,_,_,rfl,by rw[hs.1];exact e4⟩
   have:=o5 i' x' y' W w;unfold mP s7 at *;rw[aj];exact this
  simp only at C;rw[J]at C;rw[qd n4 C]at ho;cases ho
 .have:=O j I;subst this;have z:bR kk=true:=I;rw[ad];refine⟨λ⟨k2,ak,Y,B,Q,z3⟩=>?_,r.apart d _ _ u (e5 z).1⟩
  rcases L k2 with⟨h1,rfl⟩|⟨h1,J⟩
  .simp only at B;rw[h1]at B;cases B;obtain⟨w1,w2⟩:=T Y Q;exact w1 (r.inj k2 k2 _ _ Y _ u u w2 (e5 z).1 z3).2
  simp only at B;rw[J]at B;exact h1 (r.inj k2 d _ _ Y _ B u Q (e5 z).1 z3).1
 .simp only[cI];split
  .rename_i z;obtain⟨_,ws,q1,q2⟩:=e5 z;rw[hs.1];have hl:=q2.1;refine⟨ws,q1,by simp[hl],?_,q2.wX,λ_=>⟨rfl,hl.symm⟩⟩
   rw[hl,List.drop_zero,List.take_length];exact q2
  rename_i z;exact e6 (by simpa using z)
 .rcases E6 ho with⟨k2,ak,Y,B,Q,z3⟩|⟨j,B,Q⟩
  .rcases L k2 with⟨h1,rfl⟩|⟨h1,J⟩
   .rw[h1]at B;cases B;exact .inl ⟨k2,_,Y,u,(T Y Q).2,z3⟩
   rw[J]at B;exact .inl ⟨k2,_,Y,B,Q,z3⟩
  have:=O j B;subst this;rw[ad]at Q;exact .inl ⟨d,_,i+1,u,(e5 B).1,Q⟩
 have aa:e≠t:=by rintro rfl;exact n1 C
 simp only at h;rw[cn _ _ (Ne.symm aa)]at h;rcases L e with⟨h1,rfl⟩|⟨h1,J⟩
 .rw[h1]at h;cases h;exact⟨_,u,if_neg aa,rfl⟩
 rw[J]at h;exact⟨X,h,if_neg aa,.refl _⟩
theorem Oi (r:R ν Z st F H) {x:Gh} (h:ghost x st=some st'):∃ν' Z',R ν' Z' st' F H/\Ev Rv ν Z st H ν' Z' st' H:=by
 cases x with
 | close d=>obtain⟨Z',a,b⟩:=GK (Rv:=Rv) r h;grind
 | closeS l=>
  simp[ghost]at h;split at h
  .obtain⟨Z',a,b⟩:=GK (Rv:=Rv) r h;grind
  .simp  at h;subst h;exact⟨ν,Z,r,.refl⟩
  grind
 | closeB d=>obtain⟨Z',a,b⟩:=K_ (Rv:=Rv) r h;grind
 | keep gs G=>
  simp[ghost]at h;split at h
  next g m hg B=>simp  at h;subst h;exact⟨ν,Z,r.less (λs D w=>oR hg w) (λd ob hd=>oR B hd),Ev.less (λd ob hd=>oR B hd)⟩
  grind
 | drop ds=>
  simp[ghost]at h;subst h;exact⟨ν,Z,r.less   (λs D w=>m_ w) (λd ob hd=>hd),Ev.less   (λd ob hd=>hd)⟩
 | melt d=>obtain⟨a,b⟩:=PM (Rv:=Rv) r h;exact⟨ν,Z,a,b⟩
 | take d i es t=>obtain⟨ν',a,b⟩:=PO (Rv:=Rv) r h;exact⟨ν',Z,a,b⟩
 | put d=>obtain⟨ν',a,b,-⟩:=Lo (Rv:=Rv) r h;exact⟨ν',Z,a,b⟩
 | canon l d es=>
  cases l with
  | s n=>
   simp[ghost]at h;split at h
   .rename_i w;split at h
    .rename_i u;simp  at h;obtain⟨a,b⟩:=Lc (Rv:=Rv) (es:=es) (k:=.nil) r ⟨rfl,rfl⟩ w u (λy h=>h.bE) rfl
     grind
    grind
   .rename_i w;split at h
    .rename_i u;simp  at h;obtain⟨a,b⟩:=Lc (Rv:=Rv) (es:=es) (k:=.emp) r ⟨rfl,rfl⟩ w u (λy h=>h.c7) rfl
     grind
    grind
   .split at h
    .simp  at h;subst h;exact⟨ν,Z,r,.refl⟩
    rename_i z;split at h
    .rename_i u;simp  at h;obtain⟨a,b⟩:=Fg (Rv:=Rv) r z u
     grind
    grind
   .split at h
    .simp  at h;subst h;exact⟨ν,Z,r,.refl⟩
    rename_i z;split at h
    .rename_i u;simp  at h;obtain⟨a,b⟩:=Fg (Rv:=Rv) r z u
     grind
    grind
   grind
  | c b i=>
   simp[ghost]at h;split at h
   .rename_i cs C;split at h
    .rename_i w;split at h
     .rename_i u;simp  at h;obtain⟨ν',a,b⟩:=Lw (Rv:=Rv) (es:=es) (k:=.nil) r rfl C w u (λy h=>h.bE) rfl
      grind
     grind
    .rename_i w;split at h
     .rename_i u;simp  at h;obtain⟨ν',a,b⟩:=Lw (Rv:=Rv) (es:=es) (k:=.emp) r rfl C w u (λy h=>h.c7) rfl
      grind
     grind
    .split at h
     .simp  at h;subst h;exact⟨ν,Z,r,.refl⟩
     rename_i z;split at h
     .rename_i u;simp  at h;obtain⟨a,b⟩:=Fg (Rv:=Rv) r z u
      grind
     grind
    grind
   grind
end
structure ou (E:Env) (f:FuncId) (q:Fz):Prop where
 keep:E.keep f=true
 own:E.own f=false
 le:∀es xs vs ys,q.go es xs vs=some ys->ys.length<=xs.length/\(q.part=false->ys.length=xs.length)
 none:∀es vs ys,q.go es [] vs=some ys->∀(H:bp) (Z:Nat->Prop) (ws:List V) (w:V),c_ H Z vs ws->(w=.bE\/w=.c7)->∃n X,∀k,n<=k->run E k (.fn f) (w::ws) H=some (if q.part then w else .undef,H++X)
 row:∀es xs vs ys,q.go es xs vs=some ys->∀(H:bp) (Z:Nat->Prop) (ws:List V) (id off:Nat) (rs:List (List V)),c_ H Z vs ws->H[id]? = some (.row es rs)->off+xs.length<=rs.length ->
  fm H Z xs ((rs.drop off).take xs.length)->sG H Z rs->¬Z id->∃n rs' X,(∀k,n<=k->run E k (.fn f) (.hsl id es off xs.length::ws) H=some (if q.part then .hsl id es off ys.length else .undef,(H++X).set id (.row es rs'))) /\
   rs'.length=rs.length/\fm H Z ys ((rs'.drop off).take ys.length)/\sG H Z rs'
section
variable {Rv:Nat->Prop} {ν ν':Nu} {Z Z':Nat->Prop} {st st':St} {m m':Tb bu} {F F':Frame} {H H':bp}
theorem Q3 {E:Env} {f:FuncId} {q:Fz} (hq:ou E f q) (r:R ν Z st F H) {args:a_ SV} {ys:a_ V} (ha:bS ν st.m H Z args ys) {dst:bf Nat} {sv:SV} (h:Dd q dst args st=some (sv,st')) :
 ∃n y H' ν',(∀k,n<=k->run E k (.fn f) ys H=some (y,H'))/\R ν' Z st' F H'/\cF ν' st'.m H' Z sv y/\Ev Rv ν Z st H ν' Z st' H'/\Kept dst ν st.m ν' st'.m:=by
 unfold Dd at h;split at h
 .rename_i d vs;obtain⟨w,ws,rfl,h1,h2⟩:=ha.inv;split at h
  .rename_i k es xs zs u G;have aa:=bS.cT h2 G;split at h
   .rename_i ns T;obtain⟨al,af⟩:=hq.le _ _ _ _ T;obtain⟨_,_,_,ee,rfl⟩:=h1.fM u;cases ee;have grow:∀X:bp,R ν Z st F (H++X)/\Ev Rv ν Z st H ν Z st (H++X)/\∀id,Z id->bq (H++X) id=bq H id:=λX=>by
     have hx:∀id,id<H.length->(H++X)[id]? = H[id]? := λid h=>List.getElem?_append_left h
     have G:∀id,Z id->bq (H++X) id=bq H id:=λid h=>by unfold bq;rw[hx id (r.tw h)]
     exact⟨r.heap (λid h=>hx id (r.lt h)) G,Ev.heap Zc (λid h _ _ _=>hx id h) G,G⟩
    have o:=r.obj d _ u
    cases hk:bR k with
    | false=>
     simp only[cI,hk,Bool.false_eq_true,if_false]at o;subst o;have hw:mM (ν d) k es 0=.bE\/mM (ν d) k es 0=.c7:=by cases k <;> simp[mM,bR]at hk ⊢
     obtain⟨n,X,L⟩:=hq.none _ _ _ T H Z ws _ aa hw;obtain⟨r0,I,U⟩:=grow X;simp only[hk,Bool.false_eq_true,if_false]at h;split at h
     .rename_i O;split at h
      .rename_i t;split at h
       .rename_i z;simp only[ζa,ζc]at h;obtain⟨rfl,rfl⟩:=h;have r1:R ν Z { st with m:=cB d st.m } F (H++X):=r0.less (g:=st.g) (λ_ _ h=>h) jF
        rw[if_pos O]at L;refine⟨n,_,H++X,fV ν t (ν d),L,r1.add z (λhb=>by simp[dJ,hk]at hb) (by simp[cI,hk]),?_,?_,Kept.add jF⟩
        .refine .own _ _ λah W=>?_
         simp only at W;rw[bW]at W;cases W;exact⟨_,_,_,rfl,by rw[gz];rfl⟩
        exact I.trans (Ev.re (st:=st) jF (jb z).1 (Nat.le_refl _) (λ_ _ _ _=>rfl) (λ_ _=>rfl) (λhb=>by simp[dJ,hk]at hb))
       cases h
      cases h
     rename_i O;simp only[ζa,ζc]at h;obtain⟨rfl,rfl⟩:=h;rw[if_neg O]at L;have hu:bB st.m d (.sl k es [])=st.m:=qx u;rw[hu];exact⟨n,_,H++X,ν,L,r0,.v _ _ (.same _ rfl),I,.refl⟩
    | true=>
     simp only[cI,hk,if_true]at o;obtain⟨rs,hr,hl,hf,ab,Q⟩:=o;have B:dJ (.sl k es xs)=true:=hk;obtain⟨n,C,X,L,e1,e2,e3⟩:=hq.row _ _ _ _ T H Z ws _ _ rs aa hr hl hf ab (r.apart d _ 0 u B);obtain⟨r0,I,U⟩:=grow X;have ai:(ν d).1<(H++X).length:=by have:=(ζe.1 hr).1;simp;omega
     have G:∀id,Z id->Z id/\bq ((H++X).set (ν d).1 (.row es C)) id=bq H id:=λid D=>⟨D,by
      rw[<-U id D];unfold bq;rw[List.getElem?_set_ne];rintro rfl;exact r.apart d _ 0 u B D⟩
     have ad:∀id,Z id->bq ((H++X).set (ν d).1 (.row es C)) id=bq (H++X) id:=λid D=>by rw[(G id D).2,U id D]
     have hh:∀id,id≠(ν d).1->((H++X).set (ν d).1 (Ob.row es C))[id]? = (H++X)[id]? := λid aj=>List.getElem?_set_ne (Ne.symm aj)
     have J:((H++X).set (ν d).1 (Ob.row es C))[(ν d).1]? = some (.row es C):=List.getElem?_set_self ai;rw[mH hk];simp only[hk,if_true]at h;split at h
     .rename_i O;split at h
      .rename_i t;split at h
       .rename_i z;simp only[ζa,ζc]at h;obtain⟨rfl,rfl⟩:=h;have r1:R ν Z { st with m:=cB d st.m } F (H++X):=r0.less (g:=st.g) (λ_ _ h=>h) jF
        have ae:¬ez ν (cB d st.m) (ν d).1:=by
         rintro⟨k2,o2,j2,g1,g2,g3⟩;obtain⟨g4,g5⟩:=jB g1;exact g4 (r.inj d k2 _ o2 0 j2 u g5 B g2 g3.symm).1
        have r2:R ν Z { st with m:=cB d st.m } F ((H++X).set (ν d).1 (.row es C)):=r1.heap (λid ho=>hh id (by rintro rfl;exact ae ho)) ad
        rw[if_pos O]at L;refine⟨n,_,_,fV ν t (ν d),L,r2.add z (λ_=>⟨ae,r.apart d _ 0 u B⟩) ?_,?_,?_,Kept.add jF⟩
        .simp only[cI,bR,if_true,gz];exact⟨C,J,by omega,e2.mono G,e3.mono G,λe=>by cases e⟩
        .refine .own _ _ λah W=>?_
         simp only at W;rw[bW]at W;cases W;exact⟨_,_,_,rfl,by rw[gz];rfl⟩
        exact I.trans (Ev.re (st:=st) jF (jb z).1 Zc (λid _ ho _=>hh id (by rintro rfl;exact ho ⟨d,_,0,u,B,rfl⟩)) ad (λ_=>.inl ⟨d,_,0,u,B,rfl⟩))
       cases h
      cases h
     rename_i O;simp only[ζa,ζc]at h;obtain⟨rfl,rfl⟩:=h;rw[if_neg O]at L;have ak:q.part=false:=by simpa using O
     have S:=af ak;have Y:sameShape (.sl k es xs) (.sl k es ns):=by simp[sameShape,bu.tE,S]
     refine⟨n,_,_,ν,L,r0.fJ u Y (lH rfl) hh B ?_,.v _ _ (.same _ rfl),I.trans (Ev.fJ r0 u Y (lH rfl) hh B Zc),Kept.fJ u Y (lH rfl)⟩
     simp only[cI,hk,if_true];exact⟨C,J,by omega,e2.mono G,e3.mono G,λe=>⟨(Q e).1,by rw[e1,(Q e).2,S]⟩⟩
   cases h
  cases h
 cases h
end
def vH:Nat->a_ SV->Tb SV
 | _,[]=>[]
 | i,v::vs=>(i,v)::vH (i+1) vs
def start (svs:a_ SV) (u:c8):St:=⟨vH 0 svs,u,u.map (·.1),[],true,0⟩
def iD (S:Sys) (c:bN):Prop:=
 ∀f t u rs w,c f t u=some (rs,w)->∀(ν:Nu) (Z:Nat->Prop) (args:a_ V) (H:bp),(S.E.keep f=true\/H=[])->R ν Z (start t u) args H->bS ν u H Z t args ->
  ∃n y H' ν' Z' st' F' z,run S.E n (.fn f) args H=some (y,H')/\y=result z/\st'.m=w/\bS ν' w H' Z' rs z/\R ν' Z' st' F' H'/\Ev (λ_=>False) ν Z (start t u) H ν' Z' st' H'
section
variable {Rv:Nat->Prop} {ν ν':Nu} {Z Z':Nat->Prop} {st st':St} {m m':Tb bu} {F F':Frame} {H H' H1:bp} {N:Nat->FuncId}
theorem N2 {k:Fl} {es:Nat} {xs:a_ (a_ V)} {d:Nat} (o:cI ν m H Z d (.sl k es xs)):(iY k es xs).good=true:=by
 by_cases hk:bR k=true
 .simp only[cI,hk,if_true]at o;obtain⟨u,_,_,t,_⟩:=o;have e:iY k es xs=.fsl es xs:=by cases k <;> simp[bR]at hk <;> rfl
  rw[e];simp only[V.good];exact t.good
 cases k <;> simp[bR]at hk <;> rfl
mutual
theorem Lz (D:∀d ob,bh m d=some ob->cI ν m H Z d ob):∀(n:Nat) (sv:SV) (x y:V),shut m n sv=some x->cF ν m H Z sv y->x.good=true
 | n,.v x,z,y,h,r=>by simp only[shut,ζa]at h;subst h;exact r.fr.good
 | n,.own d,z,y,h,r=>by
  simp only[shut]at h;split at h
  next k es xs B=>simp only[ζa]at h;subst h;exact N2 (D d _ B)
  next k xs B=>simp only[ζa]at h;subst h;exact(J8 (Z':=λ_=>True) (D d _ B) (λ_ _=>trivial) (λ_ _=>trivial)).1.good
  simp at h
 | 0,.ptr d o,z,y,h,r=>by simp[shut]at h
 | n+1,.ptr d o,z,y,h,r=>by
  simp only[shut]at h;split at h
  .rename_i cs B;split at h
   .rename_i xs J;split at h
    .simp only[ζa]at h;subst h;obtain⟨es,G,_,hc,_⟩:=D d _ B;simp only[V.good];exact xD _ (lC D n cs xs G J hc)
    simp at h
   simp at h
  simp at h
 | n,.el d i o,z,y,h,r=>by cases n <;> simp[shut]at h
 | n,.yl id,z,y,h,r=>by cases n <;> simp[shut]at h
 | n,.mp d,z,y,h,r=>by
  simp only[shut]at h;split at h
  .rename_i L B;simp only[ζa]at h;subst h;obtain⟨t,_,hk⟩:=D d _ B;simp only[V.good];refine D7.2 λj u hu=>?_
   have O:j<t.length:=by rw[<-hk.1];exact(ζe.1 hu).1
   obtain⟨⟨_,h1⟩,w⟩:=hk.2 j u _ hu (ζd O);exact⟨iZ h1,w.good⟩
  simp at h
 | 0,.clo f a b,z,y,h,r=>by simp[shut]at h
 | n+1,.clo f a b,z,y,h,r=>by
  simp only[shut]at h;split at h
  next Q x2 h1 w=>simp only[ζa]at h;subst h;obtain⟨S,T,rfl,U,W⟩:=r.j7;simp only[V.good,ζh];exact⟨lC D n a Q S h1 U,lC D n b x2 T w W⟩
  simp at h
 | 0,.tup l,z,y,h,r=>by simp[shut]at h
 | n+1,.tup l,z,y,h,r=>by
  simp only[shut]at h;obtain⟨xs,h1,rfl⟩:=ζf.1 h;obtain⟨C,rfl,I⟩:=r.o9;simp only[V.good];exact lC D n l xs C h1 I
 | 0,.agg l,z,y,h,r=>by simp[shut]at h
 | n+1,.agg l,z,y,h,r=>by
  simp only[shut]at h;obtain⟨xs,h1,rfl⟩:=ζf.1 h;obtain⟨C,rfl,I⟩:=r.gV;simp only[V.good];exact lC D n l xs C h1 I
theorem lC (B:∀d ob,bh m d=some ob->cI ν m H Z d ob):∀(n:Nat) (svs:a_ SV) (xs ys:a_ V),cO m n svs=some xs->bS ν m H Z svs ys->V.cN xs=true
 | n,[],xs,ys,h,r=>by simp only[cO,ζa]at h;subst h;rfl
 | n,sv::svs,xs,ys,h,r=>by
  simp only[cO]at h;split at h
  next y s h1 D=>simp only[ζa]at h;subst h;obtain⟨G,u,rfl,r1,r2⟩:=r.inv;simp only[V.cN,ζh];exact⟨Lz B n sv y G h1 r1,lC B n svs s u D r2⟩
  simp at h
end
theorem FA {f:V->bf V}:∀{xs ys:a_ (V×V)},xs.length=ys.length->(∀(j:Nat) u v,xs[j]? = some u->ys[j]? = some v->f v.1=some u.1/\f v.2=some u.2)->kB f ys=some xs
 | [],[],_,_=>rfl
 | [],y::ys,h,_=>by simp at h
 | x::xs,[],h,_=>by simp at h
 | (a,b)::xs,(c,d)::ys,h,B=>by
  obtain⟨h1,D⟩:=B 0 _ _ rfl rfl;simp only at h1 D;simp only[kB,h1,D,FA (xs:=xs) (ys:=ys) (by simpa using h) λj u v hu hv=>B (j+1) u v (by simpa using hu) (by simpa using hv)]
theorem Gs:∀{l:a_ (V×V)} {n:Nat},V.qX n l=true↔∀(j:Nat) u,l[j]? = some u->u.1.lvl n=true/\u.2.lvl n=true
 | [],n=>by simp[V.qX]
 | (k,x)::l,n=>by
  simp only[V.qX,ζh,Gs (l:=l)];constructor
  .rintro⟨h1,B⟩ j u hu
   cases j with
   | zero=>simp at hu;subst hu;exact h1
   | succ j=>exact B j u (by simpa using hu)
  intro h;exact⟨h 0 (k,x) rfl,λj u hu=>h (j+1) u (by simpa using hu)⟩
theorem s6 {n:Nat} {xs ys:a_ V} (D:hG (borrow n H1) ys=some xs) (B:V.gy ys=true):ys=xs:=by
 have t:=jG (f:=borrow n H1) (xs:=ys) (ys:=ys) rfl λj u v hu hv=>by rw[hu]at hv;cases hv;exact ec n H1 (nP.1 B j u hu)
 rw[D]at t;cases t;rfl
mutual
theorem HJ {fr:a_ Nat} (G:∀d∈fr,∀e ob,bh m e=some ob->ob.cw d=false) (J:∀d ob,bh m d=some ob->d∉fr->cI ν m H1 Z d ob) :
 ∀(n:Nat) (sv:SV) (x y:V),shut m n sv=some x->(∀d∈fr,sv.cw d=false)->cF ν m H1 Z sv y->∀k,x.lvl k=true->borrow k H1 y=some x
 | n,.v x,z,y,h,D,r,k,hk=>by simp only[shut,ζa]at h;subst h;exact r.fr.borrow k hk
 | n,.own d,z,y,h,D,r,k,hk=>by
  simp only[shut]at h;split at h
  .rename_i O es xs B;simp only[ζa]at h;subst h;obtain⟨_,_,_,e,rfl⟩:=r.fM B;cases e;have hd:d∉fr:=λhd=>by have:=D d hd;simp[SV.cw]at this
   have o:=J d _ B hd
   by_cases C:bR O=true
   .simp only[cI,C,if_true]at o;obtain⟨ys,hr,hl,hf,_⟩:=o;rw[mH C];have e:iY O es xs=.fsl es xs:=by cases O <;> simp[bR]at C <;> rfl
    rw[e]at hk ⊢;exact(FR.Bi (Z:=λ_=>True) trivial (show bq H1 (ν d).1=some (es,ys)by unfold bq;rw[hr];rfl) hl (hf.mono λid h=>⟨trivial,rfl⟩)).borrow k hk
   cases O <;> simp[bR]at C
   .exact ec k H1 rfl
   exact ec k H1 rfl
  .rename_i O xs B;simp only[ζa]at h;subst h;obtain⟨_,_,_,e,rfl⟩:=r.fM B;cases e;have hd:d∉fr:=λhd=>by have:=D d hd;simp[SV.cw]at this
   exact(J8 (Z':=λ_=>True) (J d _ B hd) (λ_ _=>trivial) (λ_ _=>trivial)).1.borrow k hk
  simp at h
 | 0,.ptr d o,z,y,h,D,r,k,hk=>by simp[shut]at h
 | n+1,.ptr d o,z,y,h,D,r,k,hk=>by
  simp only[shut]at h;split at h
  .rename_i cs B;split at h
   .rename_i xs hx;split at h
    .rename_i Y;simp only[ζa]at h;subst h;obtain⟨_,e,rfl⟩:=r.nQ B;cases e;have hd:d∉fr:=λhd=>by have:=D d hd;simp[SV.cw]at this
     obtain⟨es,I,hr,hc,_⟩:=J d _ B hd
     cases k with
     | zero=>simp[V.lvl]at hk
     | succ k=>
      simp only[V.lvl]at hk;have aa:∀e∈fr,SV.c9 e (cs.drop o)=false:=λe he=>by
       have:=G e he d _ B;simp only[bu.cw]at this
       cases hh:SV.c9 e (cs.drop o)with
       | false=>rfl
       | true=>
        exfalso;have:∀{l:a_ SV} {j:Nat},SV.c9 e (l.drop j)=true->SV.c9 e l=true:=by
         intro l
         induction l with
         | nil=>intro j h;simpa using h
         | cons a l L=>intro j h;cases j with
          | zero=>simpa using h
          | succ j=>simp only[SV.c9,Bool.or_eq_true];exact .inr (L (by simpa using h))
        rw[this hh]at *;simp_all
      have Q:xs.length=cs.length:=by
       have:∀{l:a_ SV} {r:a_ V},cO m n l=some r->r.length=l.length:=by
        intro l
        induction l with
        | nil=>intro r h;simp only[cO,ζa]at h;subst h;rfl
        | cons a l L=>
         intro r h;simp only[cO]at h;split at h
         next h1 S=>simp only[ζa]at h;subst h;simp[L S]
         simp at h
       exact this hx
      have ab:cO m n (cs.drop o)=some (xs.drop o):=by
       have:∀{l:a_ SV} {r:a_ V} {j:Nat},cO m n l=some r->cO m n (l.drop j)=some (r.drop j):=by
        intro l
        induction l with
        | nil=>intro r j h;simp only[cO,ζa]at h;subst h;simp[cO]
        | cons a l L=>
         intro r j h;have h0:=h;simp only[cO]at h;split at h
         .rename_i h1 S;simp only[ζa]at h;subst h
          cases j with
          | zero=>exact h0
          | succ j=>exact L S
         simp at h
       exact this hx
      have hb:=jo G J n (cs.drop o) (xs.drop o) (I.drop o) ab aa (hc.drop o) k hk;unfold borrow;simp only[V.closed,Bool.false_eq_true,if_false,hr,ζb,Ob.rows,List.getElem?_cons_zero,if_pos (show o<=I.length by rw[<-hc.1,<-Q];exact Y),hb,Option.map_some]
    simp at h
   simp at h
  simp at h
 | n,.el d i o,z,y,h,D,r,k,hk=>by cases n <;> simp[shut]at h
 | n,.yl id,z,y,h,D,r,k,hk=>by cases n <;> simp[shut]at h
 | n,.mp d,z,y,h,D,r,k,hk=>by
  simp only[shut]at h;split at h
  .rename_i ad B;simp only[ζa]at h;subst h;obtain⟨_,e,rfl⟩:=r.Bw B;cases e;have hd:d∉fr:=λhd=>by have:=D d hd;simp[SV.cw]at this
   obtain⟨T,hr,U⟩:=J d _ B hd
   cases k with
   | zero=>simp[V.lvl]at hk
   | succ k=>
    simp only[V.lvl]at hk;unfold borrow;simp only[V.closed,Bool.false_eq_true,if_false,hr];rw[FA (xs:=ad) (ys:=T) U.1 λj u v hu hv=>?_]
    .rfl
    obtain⟨⟨e1,e2⟩,e3⟩:=U.2 j u v hu hv;exact⟨by rw[<-e1];exact ec k H1 (V.l_ (iZ e2)),e3.borrow k (Gs.1 hk j u hu).2⟩
  simp at h
 | 0,.clo f a b,z,y,h,D,r,k,hk=>by simp[shut]at h
 | n+1,.clo f a b,z,y,h,D,r,k,hk=>by
  simp only[shut]at h;split at h
  .rename_i x1 x2 h1 S;simp only[ζa]at h;subst h;obtain⟨a',b',rfl,ra,rb⟩:=r.j7
   cases k with
   | zero=>simp[V.lvl]at hk
   | succ k=>
    simp only[V.lvl,ζh]at hk;have w:=jo G J n a x1 a' h1 (λd hd=>by have:=D d hd;simp only[SV.cw,Bool.or_eq_false_iff]at this;exact this.1) ra k hk.1
    have W:=jo G J n b x2 b' S (λd hd=>by have:=D d hd;simp only[SV.cw,Bool.or_eq_false_iff]at this;exact this.2) rb k hk.2
    by_cases t:(V.clo f a' b').closed=true
    .rw[ec _ _ t];simp only[V.closed,ζh]at t;rw[s6 w t.1,s6 W t.2]
    unfold borrow;rw[if_neg t];simp only[w,W]
  simp at h
 | 0,.tup l,z,y,h,D,r,k,hk=>by simp[shut]at h
 | n+1,.tup l,z,y,h,D,r,k,hk=>by
  simp only[shut]at h;obtain⟨xs,h1,rfl⟩:=ζf.1 h;obtain⟨X,rfl,rl⟩:=r.o9
  cases k with
  | zero=>simp[V.lvl]at hk
  | succ k=>
   simp only[V.lvl]at hk;have w:=jo G J n l xs X h1 (λd hd=>by have:=D d hd;simpa [SV.cw]using this) rl k hk
   by_cases t:(V.tup X).closed=true
   .rw[ec _ _ t];simp only[V.closed]at t;rw[s6 w t]
   unfold borrow;rw[if_neg t];simp only[w,Option.map_some]
 | 0,.agg l,z,y,h,D,r,k,hk=>by simp[shut]at h
 | n+1,.agg l,z,y,h,D,r,k,hk=>by
  simp only[shut]at h;obtain⟨xs,h1,rfl⟩:=ζf.1 h;obtain⟨X,rfl,rl⟩:=r.gV
  cases k with
  | zero=>simp[V.lvl]at hk
  | succ k=>
   simp only[V.lvl]at hk;have w:=jo G J n l xs X h1 (λd hd=>by have:=D d hd;simpa [SV.cw]using this) rl k hk
   by_cases t:(V.agg X).closed=true
   .rw[ec _ _ t];simp only[V.closed]at t;rw[s6 w t]
   unfold borrow;rw[if_neg t];simp only[w,Option.map_some]
theorem jo {fr:a_ Nat} (u:∀d∈fr,∀e ob,bh m e=some ob->ob.cw d=false) (G:∀d ob,bh m d=some ob->d∉fr->cI ν m H1 Z d ob) :
 ∀(n:Nat) (svs:a_ SV) (xs ys:a_ V),cO m n svs=some xs->(∀d∈fr,SV.c9 d svs=false)->bS ν m H1 Z svs ys->∀k,V.kD k xs=true->hG (borrow k H1) ys=some xs
 | n,[],xs,ys,h,B,r,k,hk=>by simp only[cO,ζa]at h;subst h;rw[r.cZ];rfl
 | n,sv::svs,xs,ys,h,B,r,k,hk=>by
  simp only[cO]at h;split at h
  .rename_i y s h1 J;simp only[ζa]at h;subst h;obtain⟨O,D,rfl,r1,r2⟩:=r.inv;simp only[V.kD,ζh]at hk;have t:=HJ u G n sv y O h1 (λd hd=>by have:=B d hd;simp only[SV.c9,Bool.or_eq_false_iff]at this;exact this.1) r1 k hk.1
   have w:=jo u G n svs s D J (λd hd=>by have:=B d hd;simp only[SV.c9,Bool.or_eq_false_iff]at this;exact this.2) r2 k hk.2
   simp only[hG,t,w]
  simp at h
end
end
theorem On (n:Nat):V.kD n []=true:=by cases n <;> rfl
theorem Lj (n:Nat) (x:V) (r:a_ V):V.kD n (x::r)=(V.lvl n x&&V.kD n r):=by cases n <;> rfl
mutual
theorem Bd:∀{n:Nat} {x:V},V.lvl n x=true->V.lvl (n+1) x=true
 | 0,.fsl ..,h=>by simp[V.lvl]at h
 | 0,.fptr ..,h=>by simp[V.lvl]at h
 | 0,.fmap ..,h=>by simp[V.lvl]at h
 | 0,.agg ..,h=>by simp[V.lvl]at h
 | 0,.tup ..,h=>by simp[V.lvl]at h
 | 0,.clo ..,h=>by simp[V.lvl]at h
 | n+1,.fsl es xs,h=>by simp only[V.lvl]at h ⊢;exact Ay h
 | n+1,.fptr cs,h=>by simp only[V.lvl]at h ⊢;exact qz h
 | n+1,.fmap u,h=>by simp only[V.lvl]at h ⊢;exact C1 h
 | n+1,.agg cs,h=>by simp only[V.lvl]at h ⊢;exact qz h
 | n+1,.tup cs,h=>by simp only[V.lvl]at h ⊢;exact qz h
 | n+1,.clo f a b,h=>by simp only[V.lvl,ζh]at h ⊢;exact⟨qz h.1,qz h.2⟩
 | 0,.bool _,_|0,.int ..,_|0,.str _,_|0,.gu,_|0,.fQ,_|0,.qD,_|0,.c7,_|0,.bE,_|0,.hsl ..,_|0,.hptr ..,_|0,.yld _,_|0,.hmap _,_=>rfl
 | _+1,.bool _,_|_+1,.int ..,_|_+1,.str _,_|_+1,.gu,_|_+1,.fQ,_|_+1,.qD,_|_+1,.c7,_|_+1,.bE,_|_+1,.hsl ..,_|_+1,.hptr ..,_|_+1,.yld _,_|_+1,.hmap _,_=>rfl
theorem qz:∀{n:Nat} {x:a_ V},V.kD n x=true->V.kD (n+1) x=true
 | n,[],_=>On _
 | n,a::l,h=>by rw[Lj,ζh]at h ⊢;exact⟨Bd h.1,qz h.2⟩
theorem Ay:∀{n:Nat} {x:a_ (a_ V)},V.og n x=true->V.og (n+1) x=true
 | n,[],_=>by simp only[V.og]
 | n,a::l,h=>by simp only[V.og,ζh]at h ⊢;exact⟨qz h.1,Ay h.2⟩
theorem C1:∀{n:Nat} {x:a_ (V×V)},V.qX n x=true->V.qX (n+1) x=true
 | n,[],_=>by simp only[V.qX]
 | n,(k,v)::l,h=>by simp only[V.qX,ζh]at h ⊢;exact⟨⟨Bd h.1.1,Bd h.1.2⟩,C1 h.2⟩
end
theorem yq {n m:Nat} (h:n<=m) {x:V} (u:V.lvl n x=true):V.lvl m x=true:=by
 induction h with
 | refl=>exact u
 | step _ t=>exact Bd t
theorem o_ {n m:Nat} (h:n<=m) {x:a_ V} (u:V.kD n x=true):V.kD m x=true:=by
 induction h with
 | refl=>exact u
 | step _ t=>exact qz t
theorem MY {n m:Nat} (h:n<=m) {x:a_ (a_ V)} (u:V.og n x=true):V.og m x=true:=by
 induction h with
 | refl=>exact u
 | step _ t=>exact Ay t
theorem PR {n m:Nat} (h:n<=m) {x:a_ (V×V)} (u:V.qX n x=true):V.qX m x=true:=by
 induction h with
 | refl=>exact u
 | step _ t=>exact C1 t
mutual
theorem yV:∀x:V,∃n,V.lvl n x=true
 | .fsl es xs=>let ⟨n,h⟩:=F_ xs;⟨n+1,by simp only[V.lvl];exact h⟩
 | .fptr cs=>let ⟨n,h⟩:=mE cs;⟨n+1,by simp only[V.lvl];exact h⟩
 | .fmap t=>let ⟨n,h⟩:=Ih t;⟨n+1,by simp only[V.lvl];exact h⟩
 | .agg cs=>let ⟨n,h⟩:=mE cs;⟨n+1,by simp only[V.lvl];exact h⟩
 | .tup cs=>let ⟨n,h⟩:=mE cs;⟨n+1,by simp only[V.lvl];exact h⟩
 | .clo f a b=>let ⟨n,h⟩:=mE a;let ⟨m,k⟩:=mE b;⟨max n m+1,by simp only[V.lvl,ζh];exact⟨o_ (Nat.le_max_left _ _) h,o_ (Nat.le_max_right _ _) k⟩⟩
 | .bool _|.int ..|.str _|.gu|.fQ|.qD|.c7|.bE|.hsl ..|.hptr ..|.yld _|.hmap _=>⟨0,rfl⟩
theorem mE:∀x:a_ V,∃n,V.kD n x=true
 | []=>⟨0,by simp only[V.kD]⟩
 | a::l=>let ⟨n,h⟩:=yV a;let ⟨m,k⟩:=mE l;⟨max n m,by simp only[V.kD,ζh];exact⟨yq (Nat.le_max_left _ _) h,o_ (Nat.le_max_right _ _) k⟩⟩
theorem F_:∀x:a_ (a_ V),∃n,V.og n x=true
 | []=>⟨0,by simp only[V.og]⟩
 | a::l=>let ⟨n,h⟩:=mE a;let ⟨m,k⟩:=F_ l;⟨max n m,by simp only[V.og,ζh];exact⟨o_ (Nat.le_max_left _ _) h,MY (Nat.le_max_right _ _) k⟩⟩
theorem Ih:∀x:a_ (V×V),∃n,V.qX n x=true
 | []=>⟨0,by simp only[V.qX]⟩
 | (a,b)::l=>let ⟨n,h⟩:=yV a;let ⟨m,k⟩:=yV b;let ⟨q,p⟩:=Ih l;⟨max n (max m q),by simp only[V.qX,ζh];exact⟨⟨yq Za h,yq Za k⟩,PR Za p⟩⟩
end
section
variable {Rv:Nat->Prop} {ν ν':Nu} {Z Z':Nat->Prop} {st st':St} {m m':Tb bu} {F F':Frame} {H H' H1:bp} {N:Nat->FuncId} {S:Sys} {c:bN}
theorem GL:∀(l:a_ SV) (i s:Nat) (sv:SV),bh (vH i l) s=some sv->∃j,s=i+j/\l[j]? = some sv
 | [],i,s,sv,h=>by simp[vH,bh]at h
 | x::l,i,s,sv,h=>by
  simp only[vH,bh]at h;split at h
  next e=>simp only[ζa]at h;subst h;exact⟨0,by omega,rfl⟩
  obtain⟨j,h1,u⟩:=GL l (i+1) s sv h;exact⟨j+1,by omega,by simpa using u⟩
theorem vN {svs:a_ SV} {args:a_ V} (h:bS ν m H Z svs args):∀s sv,bh (vH 0 svs) s=some sv->cF ν m H Z sv (get args s):=λs sv t=>by
 obtain⟨j,rfl,u⟩:=GL svs 0 s sv t;obtain⟨y,w,r⟩:=h.get u;rw[Nat.zero_add,E9 args j y w];exact r
theorem yC {az:a_ V} (hg:V.cN az=true):R ⟨λ_=>(0,0),λ_ _=>0⟩ (λ_=>False) (start (az.map .v) []) az []/\bS ⟨λ_=>(0,0),λ_ _=>0⟩ [] [] (λ_=>False) (az.map .v) az:=by
 have h:bS ⟨λ_=>(0,0),λ_ _=>0⟩ [] [] (λ_=>False) (az.map .v) az:=bS.oM (c_.same hg)
 refine⟨⟨vN h,λd ob hd=>by simp[start,bh]at hd,λd u ob t j w hd=>by simp[start,bh]at hd,λd ob j hd=>by simp[start,bh]at hd,λid h=>h.elim,⟨λid es z h=>h.elim⟩⟩,h⟩
theorem Et {xs ys:a_ V} (h:c_ H Z xs ys):((result xs).scalar=true->result ys=result xs)/\(result ys).scalar=(result xs).scalar:=by
 cases xs with
 | nil=>rw[h.cZ];exact⟨λ_=>rfl,rfl⟩
 | cons x xs=>
  obtain⟨y,ys,rfl,h1,t⟩:=h.inv
  cases xs with
  | nil=>rw[t.cZ];exact h1.scalar
  | cons x2 xs=>
   obtain⟨u,ys,rfl,w,z⟩:=t.inv;exact FR.scalar (.tup _ _ h.1 h.2)
theorem AP (U:iD S c) {f:FuncId} {az ys:a_ V} {rs:a_ SV} {m':c8} (hg:V.cN az=true) (h:c f (az.map .v) []=some (rs,m')) (J:cO m' 8 rs=some ys) :
 ∃n r H2,(∀k,n<=k->run S.E k (.fn f) az []=some (r,H2))/\(∀k,n<=k->borrow k H2 r=some (result ys))/\(result ys).good=true:=by
 obtain⟨W,r1⟩:=yC hg;obtain⟨n,y,H2,ν',Z',st',F',w,h1,rfl,X,I,O,_⟩:=U f _ _ _ _ h _ _ az [] (.inr rfl) W r1;subst X;have B:=lC O.obj 8 rs ys w J I;obtain⟨L,Q⟩:=mE ys;refine⟨max n (L+1),result w,H2,λk hk=>(th S.E (Nat.le_trans (Nat.le_max_left ..) hk)).go _ _ _ _ h1,λk hk=>?_,?_⟩
 .have u:=jo (fr:=[]) (λd hd=>by simp at hd) (λd ob hd _=>O.obj d ob hd) 8 rs _ _ J (λd hd=>by simp at hd) I
  obtain⟨k,rfl⟩:∃j,k=j+1:=⟨k-1,by omega⟩
  have T:=u k (o_ Za Q)
  have Y:=u (k+1) (o_ Za Q)
  obtain⟨e1,e2⟩:=ij Y
  cases w with
  | nil=>obtain rfl:=List.eq_nil_of_length_eq_zero e1;exact ec _ H2 rfl
  | cons z w=>
   cases w with
   | nil=>
    obtain⟨y,rfl⟩:∃y,ys=[y]:=by
     cases ys with
     | nil=>simp at e1
     | cons y l=>cases l with|nil=>exact⟨y,rfl⟩|cons _ _=>simp at e1
    obtain⟨x,Z,D⟩:=e2 0 y rfl;cases Z;exact D
   | cons z2 w=>
    obtain⟨y,C,l,rfl⟩:∃y C l,ys=y::C::l:=by
     cases ys with
     | nil=>simp at e1
     | cons y l=>cases l with|nil=>simp at e1|cons C l=>exact⟨y,C,l,rfl⟩
    by_cases t:(V.tup (z::z2::w)).closed=true
    .simp only[result];rw[ec _ _ t];simp only[V.closed]at t;rw[s6 T t]
    simp only[result];unfold borrow;rw[if_neg t];simp only[T,Option.map_some]
 have:∀{l:a_ V},V.cN l=true->(result l).good=true:=by
  intro l G
  cases l with
  | nil=>rfl
  | cons a l=>cases l with
   | nil=>simp only[V.cN,ζh]at G;exact G.1
   | cons b l=>simp only[result,V.good];exact G
 exact this B
theorem CO {f:FuncId} {args az:a_ V} {y r:V} {H2:bp} {n:Nat} (hr:∀k,n<=k->run S.E k (.fn f) az []=some (r,H2)) (B:∀k,n<=k->borrow k H2 r=some y) (hg:y.good=true) {u:Nat} (D:∀k,u<=k->borrows k H args=some az) :
 ∀k,max n u<=k->b_ (run S.E k) f args H=some y:=λk hk=>by
 unfold b_;simp only[oy,D k Za,hr k Za,B k Za,V.l_ hg,if_true]
theorem pX (u:∀id,Z id->(bq H id).isSome=true) {T:a_ Nat} {id:Nat} (h:Z id):bq (cG H T) id=bq H id:=by
 have:=u id h;unfold bq at this ⊢;rw[gR]
 cases t:H[id]? with
 | none=>rw[t]at this;simp at this
 | some ob=>
  rw[t]at this;simp only[Option.map_some,ζb]
  by_cases e:id∈T
  .rw[if_pos e];cases ob <;> first|rfl|simp[Ob.rows]at this
  rw[if_neg e]
theorem sL {T:a_ Nat} {id:Nat} (h:id∉T):(cG H T)[id]? = H[id]? := by
 rw[gR];cases H[id]? <;> simp[h]
theorem yK {az:a_ V} {args:a_ SV} {ys:a_ V} (u:∀d ob,bh m d=some ob->cI ν m H Z d ob) (h:cO m 8 args=some az) (r:bS ν m H Z args ys):V.cN az=true:=lC u 8 args az ys h r
theorem vP {az:a_ V} {args:a_ SV} {ys:a_ V} (r:R ν Z st F H) (u:bS ν st.m H Z args ys) (h:cO st.m 8 args=some az):∃n,∀k,n<=k->borrows k H ys=some az:=
 let ⟨n,t⟩:=mE az
 ⟨n,λk hk=>jo (fr:=[]) (λd hd=>by simp_all) (λd ob hd _=>r.obj d ob hd) 8 args az ys h (λd hd=>by simp_all) u k (o_ hk t)⟩
theorem mb {b id:Nat} (h:id<b):bq (H.take b) id=bq H id:=by
 grind[bq]
theorem Kl {b:Nat} {fr:a_ Nat} {az:a_ V} {args:a_ SV} {ys:a_ V} (r:R ν Z st F H) (u:bS ν st.m H Z args ys) (h:cO st.m 8 args=some az)
 (B:∀d ob j,bh st.m d=some ob->ob.pt j=true->d∉fr->ν.at d j<b) (D:∀id,Z id->id<b) (hold:eM st.m fr args=true):∃n,∀k,n<=k->borrows k (H.take b) ys=some az:=by
 obtain⟨n,w⟩:=mE az;refine⟨n,λk hk=>?_⟩
 unfold eM at hold;have h1:∀d∈fr,SV.c9 d args=false/\qU d st.m=false:=λd hd=>by
  grind
 have t:∀id,Z id->Z id/\bq (H.take b) id=bq H id:=λid h=>⟨h,mb (D id h)⟩
 refine jo   (λd hd e ob z=>qd (h1 d hd).2 z) (λd ob hd C=>?_) 8 args az ys h (λd hd=>(h1 d hd).1) (u.mono t λe _=>iq ν st.m e) k (o_ hk w)
 exact cI.mono t rfl (λj G=>List.getElem?_take_of_lt (B d ob j hd G C)) (λe _=>iq ν st.m e) (r.obj d ob hd)
theorem C_ (hS:iD S c) {ops:a_ Oper} {place:bf (Nat×Nat)} {dr nw:Bool} {fr:a_ Nat} (ab:dr=place.isSome) (aa:∀b i,place=some (b,i)->nw=true->dm ops i=true)
 (hold:∀b i,place=some (b,i)->(∀d ob j,bh st.m d=some ob->ob.pt j=true->d∉fr->ν.at d j<b)/\∀id,Z id->id<b)
 (r:R ν Z st F H) {args:a_ SV} {ys:a_ V} (ha:bS ν st.m H Z args ys) {f:FuncId} (hk:jc S.E ops place f=false) {az:a_ V} (hs:cO st.m 8 args=some az) (hno:(!dr||nw)=true\/eM st.m fr args=true)
 {rs:a_ SV} {m':c8} {D:a_ V} (hc:c f (az.map .v) []=some (rs,m')) (Y:cO m' 8 rs=some D) (J:(result D).scalar=true\/(cT args).isSome=true) :
 ∃n H',(∀k,n<=k->dI S.E (run S.E k) ops place f ys H=some (result D,H'))/\R ν Z st F H'/\cF ν st.m H' Z (.v (result D)) (result D)/\Ev Rv ν Z st H ν Z st H':=by
 have hg:=yK r.obj hs ha;obtain⟨n1,rr,H2,h1,h2,h3⟩:=AP hS hg hc Y;obtain⟨n2,hb⟩:=vP r ha hs;have G:=CO h1 h2 h3 hb;generalize hn:max n1 n2=n at G;have X:=G;have ae:∀k,n<=k->cK (bX k H) ys=cK (bX n H) ys:=λk hk=>wU hk (hb n Za)
 have B:∀{H'},cF ν st.m H' Z (.v (result D)) (result D):=.v _ _ (.same _ h3);have z:∀T:a_ Nat,(∀id∈T,Z id)->R ν Z st F (cG H T)/\Ev Rv ν Z st H ν Z st (cG H T):=λT O=>
  ⟨r.heap (λid ho=>sL λt=>by obtain⟨d,ob,j,g1,g2,rfl⟩:=ho;exact r.apart d ob j g1 g2 (O _ t)) (λid t=>pX r.zrow t),
   Ev.heap (by rw[kg];grind) (λid _ _ Y _=>sL λt=>Y (O id t)) (λid t=>pX r.zrow t)⟩
 have I:(cT args).isSome=true->(∀id∈cK (bX n H) ys,Z id)/\True:=λQ=>by
  obtain⟨xs,Q⟩:=Option.isSome_iff_exists.1 Q;have hf:=ha.cT Q;exact⟨λid t=>by
   obtain⟨j,u,hu,U⟩:=ow t;have hj:j<xs.length:=by rw[hf.1];grind
   exact FR.bX r.deep n (hf.2 j _ u (ζd hj) hu) id U,trivial⟩
 cases place with
 | none=>
  by_cases w:(result D).scalar=true
  .exact⟨n,H,λk C=>by grind[dI],r,B,.refl⟩
  obtain⟨O,-⟩:=I (J.resolve_left w);obtain⟨q1,q2⟩:=z _ O;exact⟨n,cG H (cK (bX n H) ys),λk C=>by grind[dI,oy],q1,B,q2⟩
 | some bi=>
  obtain⟨b,i⟩:=bi;obtain⟨o1,o2⟩:=hold b i rfl;have af  := ab;have fits:∀k,b_ (run S.E k) f ys (H.take b)=some (result D)->(result D).scalar=false->hU (H.take b) (cK (bX k (H.take b)) ys)=true/\cK (bX k H) ys=cK (bX k (H.take b)) ys:=λk _ ah=>by
   obtain⟨xs,Q⟩:=Option.isSome_iff_exists.1 (J.resolve_left Zd)
   have hf:=ha.cT Q;have L:∀id,Z id->Z id/\bq (H.take b) id=bq H id:=λid h=>⟨h,mb (o2 id h)⟩
   have hd:Deep (H.take b) Z:=⟨λid es ys Y hr c hc u hu=>by
    rw[(L id Y).2]at hr;obtain⟨x,Q⟩:=r.deep.row id es ys Y hr c hc u hu;exact⟨x,Q.mono L⟩⟩
   have hZ:∀id∈cK (bX k (H.take b)) ys,Z id:=λid t=>by
    obtain⟨j,u,hu,U⟩:=ow t;have hj:j<xs.length:=by rw[hf.1];grind
    exact FR.bX hd k ((hf.2 j _ u (ζd hj) hu).mono L) id U
   refine⟨?_,sS _ λid t=>o2 id (hZ id t)⟩
   unfold hU;rw[List.all_eq_true];intro id t;have h1:=r.zrow id (hZ id t);rw[<-(L id (hZ id t)).2]at h1;exact h1
  rcases hno with hno|hno
  .have ai:=aa b i rfl Zd
   by_cases w:(result D).scalar=true
   .refine⟨n,H,λk C=>?_,r,B,.refl⟩
    grind[dI,oA]
   obtain⟨O,-⟩:=I (J.resolve_left w);obtain⟨q1,q2⟩:=z _ O;refine⟨n,cG H (cK (bX n H) ys),λk C=>?_,q1,B,q2⟩
   simp only[dI,hk,oy,Bool.false_eq_true,if_false];split
   next y hy=>have h9:=oA hy;rw[X k C]at h9;grind
   grind
  obtain⟨n3,ad⟩:=Kl r ha hs o1 o2 hno;have W:=CO h1 h2 h3 ad
  by_cases w:(result D).scalar=true
  .refine⟨max n1 n3,H,λk C=>?_,r,B,.refl⟩
   grind[dI]
  obtain⟨O,-⟩:=I (J.resolve_left w);obtain⟨q1,q2⟩:=z _ O;refine⟨max n (max n1 n3),cG H (cK (bX n H) ys),λk C=>?_,q1,B,q2⟩
  simp only[dI,hk,oy,Bool.false_eq_true,if_false];have h9:=W k Za
  grind
theorem El {α:Type} {k:Nat} {v:α}:∀{ds:a_ Nat} {g:Tb α},bh (n_ ds g) k=some v->k∉ds
 | [],_,_=>by simp
 | d::ds,g,h=>by
  have h1:=El (ds:=ds) h;have t:=(jB (m_  h)).1
  grind
theorem tY:∀{args:a_ SV} {ds:a_ Nat},rowsOf m args=some ds->(∀d∈ds,∃k es xs,bh m d=some (.sl k es xs))/\∀(j:Nat) u,args[j]? = some u->(∃x,u=.v x)\/∃d,u=.own d/\d∈ds
 | [],_,h=>by cases h;simp
 | .v x::r,ds,h=>by
  obtain⟨h1,B⟩:=tY (args:=r) (by simpa [rowsOf]using h)
  refine⟨h1,λj u hu=>?_⟩
  cases j with
  | zero=>grind
  | succ j=>exact B j u Zd
 | .own d::r,ds,h=>by
  simp only[rowsOf]at h;split at h
  .rename_i k es xs hd;obtain⟨w,h1,rfl⟩:=ζf.1 h;obtain⟨g1,g2⟩:=tY h1;refine⟨λt hd'=>?_,λj u hu=>?_⟩
   .rcases List.mem_cons.1 hd' with rfl|hd'
    .exact⟨_,_,_,hd⟩
    exact g1 t hd'
   cases j with
   | zero=>grind
   | succ j=>
    rcases g2 j u Zd with k|⟨t,k1,k2⟩
    all_goals grind
  cases h
 | .ptr ..::_,_,h|.el ..::_,_,h|.mp _::_,_,h|.clo ..::_,_,h|.tup _::_,_,h|.agg _::_,_,h|.yl _::_,_,h=>by simp[rowsOf]at h
theorem Au {H0:bp} (hd:Deep H0 Z) (T:∀d ob,bh m d=some ob->dJ ob=true->(H0[(ν d).1]?).isSome=true->ob.flat->cI ν m H0 Z d ob) {args:a_ SV} {ys:a_ V} (O:bS ν m H0 Z args ys) {ds:a_ Nat} (hr:rowsOf m args=some ds)
 {q id:Nat} (h:id∈cK (bX q H0) ys):Z id\/∃d ob,d∈ds/\bh m d=some ob/\dJ ob=true/\(ν d).1=id/\∃j es off len:Nat,ys[j]? = some (V.hsl id es off len):=by
 obtain⟨j,y,L,hk⟩:=ow h;have Q:j<args.length:=by rw[O.1];grind
 have hu:=ζd Q;have B:=O.2 j _ y hu L;rcases (tY hr).2 j _ hu with⟨x,e⟩|⟨d,e,D⟩
 .rw[e]at B;cases B with|v _ _ Y=>grind[FR.bX]
 rw[e]at B;obtain⟨k,es,C,z⟩:=(tY hr).1 d D;obtain⟨_,_,_,S,rfl⟩:=B.fM z;cases S
 by_cases t:bR k=true
 .cases q with
  | zero=>grind[bX]
  | succ q=>
  have G:mM (ν d) k es C.length=.hsl (ν d).1 es (ν d).2 C.length:=by cases k <;> first|rfl|cases t
  rw[G]at hk;have U:dJ (.sl k es C)=true:=t
  by_cases w:(H0[(ν d).1]?).isSome=true
  .have o:=T d _ z U w (iU Zc)
   simp[cI,t]at o;obtain⟨zs,h1,_,_,W,_⟩:=o;simp only[bX,V.closed,Bool.false_eq_true,if_false,h1,List.mem_cons]at hk;rcases hk with rfl|hk
   .grind
   obtain⟨i,u,hu,X⟩:=ow hk;obtain⟨c,hc,I⟩:=List.mem_flatten.1 (List.mem_of_getElem? hu);obtain⟨x,hx⟩:=W c (List.mem_of_mem_drop (List.mem_of_mem_take hc)) u I
   grind[FR.bX]
  grind[bX]
 have J:(mM (ν d) k es C.length).closed=true:=by cases k <;> first|rfl|(exact absurd rfl t)
 rw[yH q H0 J]at hk;cases hk
theorem PF (hS:iD S c) {ops:a_ Oper} {place:bf (Nat×Nat)} {nw:Bool} (ai:∀b i,place=some (b,i)->nw=true->dm ops i=true)
 (hold:∀b i,place=some (b,i)->∀id,Z id->id<b)
 (r:R ν Z st F H) {args:a_ SV} {ys:a_ V} (T:bS ν st.m H Z args ys) {f:FuncId} (hk:S.E.keep f=false) {az:a_ V} (hs:cO st.m 8 args=some az) (aj:(!place.isSome||nw)=true)
 {rs:a_ SV} {m':c8} {D:a_ V} (hc:c f (az.map .v) []=some (rs,m')) (G:cO m' 8 rs=some D) (ak:(result D).scalar=false) {ds:a_ Nat} (hr:rowsOf st.m args=some ds) :
 ∃n H',(∀k,n<=k->dI S.E (run S.E k) ops place f ys H=some (result D,H'))/\R ν Z { st with m:=n_ ds st.m } F H'/\cF ν (n_ ds st.m) H' Z (.v (result D)) (result D)/\Ev Rv ν Z st H ν Z { st with m:=n_ ds st.m } H':=by
 have hg:=yK r.obj hs T;obtain⟨n1,rr,H2,h1,h2,h3⟩:=AP hS hg hc G;obtain⟨n2,W⟩:=vP r T hs;have z:=CO h1 h2 h3 W;generalize hn:max n1 n2=n at z;have I:=z;have al:∀k,n<=k->cK (bX k H) ys=cK (bX n H) ys:=λk hk=>wU hk (W n Za)
 have J:∀{H'},cF ν (n_ ds st.m) H' Z (.v (result D)) (result D):=.v _ _ (.same _ h3);have w:∀d ob,bh (n_ ds st.m) d=some ob->bh st.m d=some ob:=λd ob h=>m_ h
 have hT:∀id∈cK (bX n H) ys,Z id\/∃d ob,d∈ds/\bh st.m d=some ob/\dJ ob=true/\(ν d).1=id/\∃j es off len:Nat,ys[j]? = some (V.hsl id es off len):=λid t=>Au r.deep (λd ob h _ _ _=>r.obj d ob h) T hr t
 have r2  := r.less (λ_ _ h=>h) w
 have q1  := r2.heap (λid X=>sL λt=>by
  obtain⟨d,ob,j,g1,g2,rfl⟩:=X;rcases hT _ t with h|⟨Y,C,k1,k2,k3,k4,_⟩
  .exact r.apart d ob j (w d ob g1) g2 h
  have:=(r.inj Y d C ob 0 j k2 (w d ob g1) k3 g2 k4).1
  grind[El]) (λid t=>pX r.zrow t)
 have q2:Ev Rv ν Z st H ν Z { st with m:=n_ ds st.m } (cG H (cK (bX n H) ys)):=(Ev.heap (by rw[kg];grind) (λid _ X G _=>sL λt=>by
  rcases hT _ t with h|⟨Y,C,k1,k2,k3,k4,_⟩
  .simp_all
  exact X ⟨Y,C,0,k2,k3,k4⟩) (λid t=>pX r.zrow t)).trans (Ev.less  w)
 cases place with
 | none=>exact⟨n,cG H (cK (bX n H) ys),λk L=>by grind[dI,jc,oy],q1,J,q2⟩
 | some bi=>
  obtain⟨b,i⟩:=bi;have o2:=hold b i rfl;have fits:∀k,b_ (run S.E k) f ys (H.take b)=some (result D)->hU (H.take b) (cK (bX k (H.take b)) ys)=true/\cK (bX k H) ys=cK (bX k (H.take b)) ys:=λk U=>by
   have B:∀id,Z id->Z id/\bq (H.take b) id=bq H id:=λid h=>⟨h,mb (o2 id h)⟩
   have hd:Deep (H.take b) Z:=⟨λid es ys G hr c hc u hu=>by
    rw[(B id G).2]at hr;obtain⟨x,hx⟩:=r.deep.row id es ys G hr c hc u hu;exact⟨x,hx.mono B⟩⟩
   have aa  := T.mono B λe _=>iq ν st.m e
   have ab:∀d ob,bh st.m d=some ob->dJ ob=true->((H.take b)[(ν d).1]?).isSome=true->ob.flat->cI ν st.m (H.take b) Z d ob:=λd ob h W ad ae=>
    cI.mono B rfl (λj hj=>by
     have:=ae j hj;subst this;simp only[Nu.at]
     grind) (λe _=>iq ν st.m e) (r.obj d ob h)
   have O:∀(j:Nat) (y:V),ys[j]? = some y->(borrow k (H.take b) y).isSome=true:=λj y Q=>by
    unfold b_ at U;rw[oy]at U;split at U
    .rename_i af ah;obtain⟨_,hm⟩:=ij ah;have hj:=(ζe.1 Q).1;obtain⟨x,am,an⟩:=hm j _ (ζd (show j<af.length by omega))
     grind
    cases U
   have hZ:∀id∈cK (bX k (H.take b)) ys,id<b/\(bq (H.take b) id).isSome=true:=λid t=>by
    rcases Au hd ab aa hr t with h|⟨d,ob,k1,k2,k3,k4,j,es,off,len,Q⟩
    .have:=r.zrow id h
     grind
    have ao:=O j _ Q
    cases k with
    | zero=>grind[borrow,V.closed]
    | succ k=>
    grind[borrow,V.closed,bq]
   refine⟨?_,sS _ λid t=>(hZ id t).1⟩
   unfold hU;rw[List.all_eq_true];exact λid t=>(hZ id t).2
  refine⟨n,cG H (cK (bX n H) ys),λk L=>?_,q1,J,q2⟩
  simp only[dI,jc,hk,oy,Bool.false_and,Bool.false_eq_true,if_false];split
  next y Q=>have h9:=oA Q;rw[I k L]at h9;grind
  grind
theorem Hw {xs ys:a_ (a_ V)} (h:fm H Z xs ys) (B:nv xs=true):ys=xs:=by
 refine(List.ext_getElem h.1 λj h1 w=>?_).symm
 have:=h.2 j _ _ (ζd h1) (ζd w);have t  := by
  unfold nv at B;rw[List.all_eq_true]at B;have:=B _ (List.getElem_mem h1);rw[List.all_eq_true]at this;exact pH.2 λk u hu=>this u (List.mem_of_getElem? hu)
 exact(this.scalar.1 t).symm
theorem Bt:∀{u:a_ Nat} {os:Tb bu} {g:Tb bu},jt g u=some os->∀k ob,bh os k=some ob->bh g k=some ob
 | [],os,g,h,k,ob,hk=>by grind[jt,bh]
 | n::r,os,g,h,k,ob,hk=>by
  simp only[jt]at h;split at h
  .rename_i v t h1 B;cases h;simp only[bh]at hk;split at hk
   .grind
   exact Bt B k ob hk
  cases h
theorem Hp {args:a_ SV} {os:c8} (h:handed m args=some os):∀k ob,bh os k=some ob->bh m k=some ob:=Bt h
mutual
theorem Nl {d:Nat}:∀{x:SV},x.cw d=true->d∈x.Ab
 | .v _,h=>by simp[SV.cw]at h
 | .own e,h|.ptr e _,h|.el e _ _,h|.mp e,h=>by simp[SV.cw]at h;simp[SV.Ab,h]
 | .clo _ a b,h=>by
  simp only[SV.cw,Bool.or_eq_true]at h;simp only[SV.Ab,List.mem_append];rcases h with h|h
  .exact .inl (s9 h)
  exact .inr (s9 h)
 | .tup l,h|.agg l,h=>by simp only[SV.cw]at h;simp only[SV.Ab];exact s9 h
 | .yl _,h=>by simp[SV.cw]at h
theorem s9 {d:Nat}:∀{l:a_ SV},SV.c9 d l=true->d∈SV.rN l
 | [],h=>by simp[SV.c9]at h
 | x::r,h=>by
  simp only[SV.c9,Bool.or_eq_true]at h;simp only[SV.rN,List.mem_append];rcases h with h|h
  .exact .inl (Nl h)
  exact .inr (s9 h)
end
theorem Hv {B:a_ Nat} {ob:bu} (h:within B ob=true) {e:Nat} (u:ob.cw e=true):e∈B:=by
 cases ob with
 | box cs=>
  unfold within at h;rw[List.all_eq_true]at h;simpa using h e (s9 u)
 | sl k es z=>grind[bu.cw]
 | mp C=>grind[bu.cw]
 | dp k z w=>
  rcases w with _|⟨i,t⟩
  .cases u
  simp only[bu.cw,beq_iff_eq]at u;subst u;simpa [within,bu.Ab]using h
theorem BL {u:a_ Nat}:∀{l:a_ Nat} {a b:Tb bu},xC u m' l a=some b->(∀k∈l,bh b k=bh m' k/\∃ob,bh m' k=some ob/\within u ob=true)/\∀k,k∉l->bh b k=bh a k
 | [],a,b,h=>by grind[xC]
 | d::r,a,b,h=>by
  simp[xC]at h;split at h
  .rename_i ob B;split at h
   .rename_i hp;obtain⟨h1,D⟩:=BL h;refine⟨λk hk=>?_,λk hk=>?_⟩
    .grind[bW]
    simp_all[cn,Ne.symm]
   grind
  grind
theorem Eu {l:a_ Nat} {a b:Tb bu} (h:kf m' l a=some b):(∀k∈l,bh b k=bh m' k/\∃ob,bh m' k=some ob/\within l ob=true)/\∀k,k∉l->bh b k=bh a k:=BL h
theorem mem_keys:∀{os:c8} {k:Nat},k∈os.map (·.1)↔∃ob,bh os k=some ob
 | [],k=>by simp[bh]
 | (d,o)::os,k=>by
  simp[bh]
  by_cases e:d=k
  .simp_all
  rw[if_neg e,<-mem_keys]
  grind
theorem rX:∀{l:a_ SV} {j:Nat} {u:SV},SV.vo l=true->l[j]? = some u->u.bare=true
 | [],j,u,h,B=>by simp at B
 | x::r,j,u,h,B=>by
  simp only[SV.vo,ζh]at h
  cases j with
  | zero=>grind
  | succ j=>exact rX h.2 (by simpa using B)
theorem cF.bare {Z2:Nat->Prop} {sv:SV} {y:V} (r:cF ν m H Z sv y):sv.bare=true->cF ν m H Z2 sv y:=by
 induction r with
 | v x y h=>
  intro w;have w:x.scalar=true:=w;rw[(h.scalar.1 w)];exact .v _ _ (.same _ (iZ w))
 | own d y h=>intro _;exact .own d y h
 | ptr d o y h=>intro _;exact .ptr d o y h
 | el d i o y h=>intro _;exact .el d i o y h
 | mp d y h=>intro _;exact .mp d y h
 | clo f a b z D B w hva G t C=>
  intro h;simp only[SV.bare,ζh]at h;exact .clo f a b z D B w (λj u v hu hv=>t j u v hu hv (rX h.1 hu)) λj u v hu hv=>C j u v hu hv (rX h.2 hu)
 | tup a z B hva t=>intro h;exact .tup a z B λj u v hu hv=>t j u v hu hv (rX h hu)
 | agg a z B hva t=>intro h;exact .agg a z B λj u v hu hv=>t j u v hu hv (rX h hu)
 | yl id=>intro _;exact .yl id
theorem cI.bare {Z2:Nat->Prop} {d:Nat} {ob:bu} (B:∀e,ν' e=ν e) (h:ob.bare=true) (o:cI ν m H Z d ob):cI ν' m H Z2 d ob:=by
 cases ob with
 | box cs=>
  obtain⟨es,t,h1,z,C⟩:=o;exact⟨es,t,by rw[B];exact h1,⟨z.1,λj u v hu hv=>((z.2 j u v hu hv).bare (Z2:=Z2) (rX h hu)).mono (λid h=>⟨h,rfl⟩) λe _ w h=>⟨w,h,B e,.refl _⟩⟩,C⟩
 | sl k es G=>cases h
 | mp D=>cases h
 | dp _ _ _=>cases h
theorem vg (hS:iD S c) {f:FuncId} (aq:S.E.keep f=true) (r:R ν Z st F H) {args:a_ SV} {ys:a_ V} (ha:bS ν st.m H Z args ys) {os:c8} (hh:handed st.m args=some os)
 {rs:a_ SV} {m':c8} {J:Tb bu} (hc:c f args os=some (rs,m')) (hb:kf m' (os.map (·.1)) st.m=some J) :
 ∃n H' O Z' G F1 ws ν2,(∀k,n<=k->run S.E k (.fn f) ys H=some (result ws,H'))/\G.m=m'/\bS O m' H' Z' rs ws/\R O Z' G F1 H'/\(∀e ob,bh m' e=some ob->e∉os.map (·.1)->dJ ob=true->¬ez ν2 J (O e).1/\(ez ν st.m (O e).1\/H.length<=(O e).1))/\(∀e,ν2 e=ν e) /\
  R ν2 Z' { st with m:=J } F H'/\Ev Rv ν Z st H ν2 Z' { st with m:=J } H'/\(∀e ob',bh J e=some ob'->∃ob,bh st.m e=some ob/\ν e=ν e/\sameShape ob ob') /\
  ((∀k∈os.map (·.1),vW J k=true)->R ν Z { st with m:=J } F H'/\Ev Rv ν Z st H ν Z { st with m:=J } H'/\∀dst,Kept dst ν st.m ν J):=by
 have w:=Hp hh;have ak  := ha.mono (λid h=>⟨h,rfl⟩) λe _ ob' h=>⟨ob',w e ob' h,rfl,.refl _⟩
 have r0:R ν Z (start args os) ys H:=by
  refine⟨vN ak,λd ob hd=>?_,λd d' ob ob' j j' h1 z=>r.inj d d' ob ob' j j' (w d ob h1) (w d' ob' z),λd ob j h=>r.apart d ob j (w d ob h),r.zrow,r.deep⟩
  exact cI.mono (λid h=>⟨h,rfl⟩) rfl (λ_ _=>rfl) (λe _ ob' h=>⟨ob',w e ob' h,rfl,.refl _⟩) (r.obj d ob (w d ob hd))
 obtain⟨n,y,H',O,Z',G,F1,ws,e1,rfl,rfl,e2,e3,ev⟩:=hS f args os rs m' hc ν Z ys H (.inl aq) r0 ak;obtain⟨b1,b2⟩:=Eu hb;have al:∀k ob',k∈os.map (·.1)->bh G.m k=some ob'->∃ob,bh os k=some ob/\O k=ν k/\sameShape ob ob':=λk ob' hk h=>ev.pin k hk ob' h
 have I:∀id,ez ν os id->ez ν st.m id:=λid ⟨k,o,j,h1,z,B⟩=>⟨k,o,j,w k o h1,z,B⟩
 have L:∀k ob',bh J k=some ob'->∃ob,bh st.m k=some ob/\sameShape ob ob'/\(k∈os.map (·.1)/\bh G.m k=some ob'/\O k=ν k/\within (os.map (·.1)) ob'=true\/k∉os.map (·.1)/\ob'=ob):=λk ob' h=>by
  by_cases hk:k∈os.map (·.1)
  .grind
  rw[b2 k hk]at h;exact⟨ob',h,.refl _,.inr ⟨hk,rfl⟩⟩
 have t:∀k ob j,k∉os.map (·.1)->bh st.m k=some ob->ob.pt j=true->H'[ν.at k j]? = H[ν.at k j]? /\ ¬Z' (ν.at k j)/\¬ez O G.m (ν.at k j):=λk ob j hk h C=>by
  have ah:¬ez ν os (ν.at k j):=by
   rintro⟨k2,o2,T,g1,g2,g3⟩;have:=(r.inj k2 k o2 ob T j (w k2 o2 g1) h g2 C g3).1
   grind[mem_keys]
  have ar:=r.lt ⟨k,ob,j,h,C,rfl⟩;have au:=r.apart k ob j h C;refine⟨ev.same _ ar ah au (λh=>h),λav=>?_,λho=>?_⟩
  .rcases ev.frz _ av with h|h|h|h
   .simp_all
   .exact ah h
   all_goals grind
  rcases ev.own _ ho with h|h|h
  .exact ah h
  .exact h
  have h:H.length<=ν.at k j:=h;omega
 have sm:∀e ob',bh J e=some ob'->∃ob,bh st.m e=some ob/\ν e=ν e/\sameShape ob ob':=λe ob' h=>by
  grind
 let ν2:Nu:=⟨ν.pl,λk=>if k∈os.map (·.1)then O.inn k else ν.inn k⟩
 have am:∀k,k∈os.map (·.1)->ν2.inn k=O.inn k:=λk h=>if_pos h
 have ab:∀k,k∉os.map (·.1)->ν2.inn k=ν.inn k:=λk h=>if_neg h
 have U:∀k,k∈os.map (·.1)->O k=ν k->∀j,ν2.at k j=O.at k j:=λk hk h j=>by
  cases j with
  | zero=>exact congrArg Prod.fst h.symm
  | succ i=>exact congrFun (am k hk) i
 have Q:∀k,k∉os.map (·.1)->∀j,ν2.at k j=ν.at k j:=λk hk j=>by
  cases j with
  | zero=>rfl
  | succ i=>exact congrFun (ab k hk) i
 have ad:∀d1 d2 o1 o2 D T,bh J d1=some o1->bh J d2=some o2->o1.pt D=true->o2.pt T=true->ν2.at d1 D=ν2.at d2 T->d1=d2/\D=T:=λd1 d2 o1 o2 D T h1 z k1 k2 hp=>by
  obtain⟨p1,g1,s1,c1⟩:=L d1 o1 h1;obtain⟨p2,g2,s2,c2⟩:=L d2 o2 z;rcases c1 with⟨u,W,X,-⟩|⟨u,rfl⟩ <;> rcases c2 with⟨u1,u2,u3,-⟩|⟨u1,rfl⟩
  .rw[U d1 u X,U d2 u1 u3]at hp;exact e3.inj d1 d2 o1 o2 D T W u2 k1 k2 hp
  .rw[U d1 u X,Q d2 u1]at hp;exact absurd ⟨d1,o1,D,W,k1,hp⟩ (t d2 o2 T u1 g2 k2).2.2
  .rw[Q d1 u,U d2 u1 u3]at hp;exact absurd ⟨d2,o2,T,u2,k2,hp.symm⟩ (t d1 o1 D u g1 k1).2.2
  rw[Q d1 u,Q d2 u1]at hp;exact r.inj d1 d2 o1 o2 D T g1 g2 k1 k2 hp
 have an:∀d1 o1 D,bh J d1=some o1->o1.pt D=true->¬Z' (ν2.at d1 D):=λd1 o1 D h1 k1=>by
  obtain⟨p1,g1,s1,⟨u,W,X,-⟩|⟨u,rfl⟩⟩:=L d1 o1 h1
  .rw[U d1 u X];exact e3.apart d1 o1 D W k1
  rw[Q d1 u];exact(t d1 o1 D u g1 k1).2.1
 have Y:∀id,id<H.length->¬ez ν st.m id->¬Z id->¬Rv id->H'[id]? = H[id]? := λid hl ho hz _=>ev.same id hl (λh=>ho (I id h)) hz (λh=>h)
 have ae:∀id,ez ν2 J id->ez ν st.m id\/Rv id\/H.length<=id:=by
  rintro id ⟨k,o,j,h1,z,B⟩;obtain⟨ob,g1,s1,⟨u,W,X,-⟩|⟨u,rfl⟩⟩:=L k o h1
  .rw[U k u X]at B;rcases ev.own id ⟨k,o,j,W,z,B⟩with h|h|h
   .exact .inl (I id h)
   .exact h.elim
   exact .inr (.inr h)
  rw[Q k u]at B;exact .inl ⟨k,o,j,g1,z,B⟩
 have ai:∀id,Z id->Z id/\bq H' id=bq H id:=λid h=>⟨h,(ev.rows id h).2⟩
 have af:∀k ob',k∈os.map (·.1)->bh G.m k=some ob'->O k=ν k->within (os.map (·.1)) ob'=true->cI ν2 J H' Z' k ob':=λk ob' u W X q5=>by
  refine cI.mono (λid h=>⟨h,rfl⟩) X.symm (λ_ _=>rfl) (λe he aj z=>?_) (e3.obj k ob' W) (am k u)
  have hm:=Hv q5 he;obtain⟨u1,ay,u2,_⟩:=b1 e hm;rw[u1,u2]at z;cases z;obtain⟨_,_,u4,_⟩:=al e aj hm u2;exact⟨aj,u2,u4.symm,.refl _⟩
 refine⟨n,H',O,Z',G,F1,ws,ν2,λk hk=>(th S.E hk).go _ _ _ _ e1,rfl,e2,e3,λe ob he aw C=>?_,λ_=>rfl,⟨λs sv hs=>(r.slot s sv hs).mono ev.rows λe _=>sm e,λk ob' h=>?_,ad,an,e3.zrow,e3.deep⟩,⟨ev.len,Y,ev.rows,ae,?_,λe _=>sm e,rfl⟩,sm,λao=>?_⟩
 .have ap:ez O G.m (O e).1:=⟨e,ob,0,he,C,rfl⟩;refine⟨?_,(ev.own _ ap).imp (I _) λh=>h.elim (λh=>h.elim) λh=>h⟩
  rintro⟨k2,o2,T,h1,z,B⟩;obtain⟨p1,g1,s1,⟨u,W,X,-⟩|⟨u,rfl⟩⟩:=L k2 o2 h1
  .rw[U k2 u X]at B;have:=(e3.inj k2 e o2 ob T 0 W he z C B).1;subst this;exact aw u
  rw[Q k2 u]at B;exact(t k2 o2 T u g1 z).2.2 (B▸ap)
 .obtain⟨ob,h1,z,⟨u,W,X,q5⟩|⟨B,rfl⟩⟩:=L k ob' h
  .exact af k ob' u W X q5
  exact cI.mono (ν:=ν) (ν':=ν2) ev.rows rfl (λj C=>(t k ob' j B h1 C).1) (λe _=>sm e) (r.obj k ob' h1) (ab k B)
 .intro id h;rcases ev.frz id h with h|h|h|h
  .exact .inl h
  .exact .inr (.inl (I id h))
  all_goals grind
 have aa:∀k ob' j,bh J k=some ob'->ob'.pt j=true->ν.at k j=ν2.at k j/\∃ob,bh st.m k=some ob/\sameShape ob ob'/\ob.pt j=true:=λk ob' j h hj=>by
  obtain⟨ob,h1,z,⟨u,W,X,q5⟩|⟨B,rfl⟩⟩:=L k ob' h
  .have hb:=ao k u;unfold vW at hb;rw[h]at hb;have ax:∃cs,ob'=.box cs:=by cases ob' <;> first|exact⟨_,rfl⟩|cases hb
   obtain⟨cs,rfl⟩:=ax;have:=iU (ob:=.box cs) Zc j hj;subst this
   refine⟨rfl,ob,h1,z,?_⟩;cases ob <;> first|rfl|cases z
  exact⟨(Q k B j).symm,ob',h1,.refl _,hj⟩
 refine⟨⟨λs sv hs=>(r.slot s sv hs).mono ai λe _=>sm e,λk ob' h=>?_,λd1 d2 o1 o2 D T h1 z k1 k2 hp=>ad d1 d2 o1 o2 D T h1 z k1 k2 (by rw[<-(aa d1 o1 D h1 k1).1,<-(aa d2 o2 T z k2).1];exact hp),λd1 o1 D h1 k1 hz=>an d1 o1 D h1 k1 (by rw[<-(aa d1 o1 D h1 k1).1];exact(ev.rows _ hz).1),λid h=>by rw[(ev.rows id h).2];exact r.zrow id h,r.deep.mono λid h=>(ev.rows id h).2⟩,
  ⟨ev.len,Y,ai,λid ⟨k,o,j,h1,z,B⟩=>ae id ⟨k,o,j,h1,z,by rw[<-(aa k o j h1 z).1];exact B⟩,λid h=>.inl h,λe _=>sm e,rfl⟩,λdst e ob' _ h=>?_⟩
 .obtain⟨ob,h1,z,⟨u,W,X,q5⟩|⟨B,rfl⟩⟩:=L k ob' h
  .have hb:=ao k u;unfold vW at hb;rw[h]at hb;exact cI.bare (ν:=ν2) (Z:=Z') (λ_=>rfl) hb (af k ob' u W X q5)
  exact cI.mono ai rfl (λj C=>(t k ob' j B h1 C).1) (λe _=>sm e) (r.obj k ob' h1)
 obtain⟨ob,h1,z,B⟩:=sm e ob' h;refine⟨ob,h1,rfl,B,λj hj=>?_⟩
 obtain⟨_,aj,g1,_,g3⟩:=aa e ob' j h hj;rw[h1]at g1;cases g1;exact⟨g3,rfl⟩
theorem Q_ (G:iD S c) {f:FuncId} (D:S.E.keep f=true) (r:R ν Z st F H) {args:a_ SV} {ys:a_ V} (J:bS ν st.m H Z args ys) {os:c8} (O:handed st.m args=some os)
 {rs:a_ SV} {m':c8} {u:a_ V} {B:Tb bu} (hc:c f args os=some (rs,m')) (T:cT rs=some u) (U:kf m' (os.map (·.1)) st.m=some B) :
 ∃n y H' ν' Z',(∀k,n<=k->run S.E k (.fn f) ys H=some (y,H'))/\R ν' Z' { st with m:=B } F H'/\cF ν' B H' Z' (.v (result u)) y/\Ev Rv ν Z st H ν' Z' { st with m:=B } H':=by
 obtain⟨n,H',Q,Z',C,F1,w,ν2,e1,_,e2,_,_,_,g1,g2,_,_⟩:=vg (Rv:=Rv) G D r J O hc U;refine⟨n,result w,H',ν2,Z',e1,g1,?_,g2⟩;have t:=e2.cT T;have:FR H' Z' (result u) (result w):=by
  cases u with
  | nil=>rw[t.cZ];exact .same _ rfl
  | cons x z=>
   obtain⟨y,I,rfl,g1,g2⟩:=t.inv
   cases z with
   | nil=>rw[g2.cZ];exact g1
   | cons x2 z=>
    obtain⟨W,L,rfl,g3,g4⟩:=g2.inv;exact .tup _ _ t.1 t.2
 exact .v _ _ this
theorem v_ {ys:a_ V} (h:V.cQ ys=true):(result ys).scalar=true:=by
 cases ys with
 | nil=>rfl
 | cons a l=>
  cases l with
  | nil=>simp only[V.cQ,ζh]at h;exact h.1
  | cons b l=>grind[result,V.scalar]
theorem PV (O:iD S c) {f:FuncId} (D:S.E.keep f=true) (r:R ν Z st F H) {args:a_ SV} {ys:a_ V} (T:bS ν st.m H Z args ys) {os:c8} (U:handed st.m args=some os)
 {rs:a_ SV} {m':c8} {B:a_ V} {u:Tb bu} (hc:c f args os=some (rs,m')) (W:cT rs=some B) (Y:kf m' (os.map (·.1)) st.m=some u) (J:V.cQ B=true) (G:∀k∈os.map (·.1),vW u k=true) :
 ∃n H',(∀k,n<=k->run S.E k (.fn f) ys H=some (result B,H'))/\R ν Z { st with m:=u } F H'/\cF ν u H' Z (.v (result B)) (result B)/\Ev Rv ν Z st H ν Z { st with m:=u } H'/\∀dst,Kept dst ν st.m ν u:=by
 obtain⟨n,H',z,Z',t,F1,C,ν2,e1,_,e2,_,_,_,_,_,_,g4⟩:=vg (Rv:=Rv) O D r T U hc Y;obtain⟨g1,g2,g3⟩:=g4 G;have w:=(e2.cT W).scalar.1 J;subst w;exact⟨n,H',e1,g1,.v _ _ (.same _ (iZ (v_ J))),g2,g3⟩
theorem PY (Y:iD S c) {f:FuncId} (O:S.E.keep f=true) (r:R ν Z st F H) {args:a_ SV} {ys:a_ V} (ha:bS ν st.m H Z args ys) {os:c8} (hh:handed st.m args=some os)
 {rest:a_ SV} {m':c8} {J:a_ V} {B:Tb bu} {e t es:Nat} {k:Fl} {xs:a_ (a_ V)} (hc:c f args os=some (.own e::rest,m')) (hz:cT rest=some J) (hb:kf m' (os.map (·.1)) st.m=some B)
 (D:bh m' e=some (.sl k es xs)) (G:e∉os.map (·.1)) (u:St.new { st with m:=B } t=true) :
 ∃n y H' ν' Z',(∀k,n<=k->run S.E k (.fn f) ys H=some (y,H'))/\R ν' Z' { st with m:=bB B t (.sl k es xs) } F H'/\cF ν' (bB B t (.sl k es xs)) H' Z' (zG (.own t::J.map .v)) y/\Ev Rv ν Z st H ν' Z' { st with m:=bB B t (.sl k es xs) } H':=by
 obtain⟨n,H',Q,Z',X,F1,ws,ν2,e1,rfl,e2,e3,fresh,T,g1,g2,g3,_⟩:=vg (Rv:=Rv) Y O r ha hh hc hb;obtain⟨w,U,rfl,q1,q2⟩:=e2.inv;have o:=e3.obj e _ D;have hR:=g1.add u (ob:=.sl k es xs) (p:=Q e) (λC=>⟨(fresh e _ D G C).1,e3.apart e _ 0 D C⟩) (by
  grind[cI,gz])
 have hsl:cF (fV ν2 t (Q e)) (bB B t (.sl k es xs)) H' Z' (.own t) w:=by
  refine .own _ _ λz W=>?_
  rw[bW]at W;cases W;obtain⟨_,_,_,ee,rfl⟩:=q1.fM D;cases ee;exact⟨_,_,_,rfl,by rw[gz]⟩
 obtain⟨n1,n2,n3,n4⟩:=jb u;refine⟨n,result (w::U),H',fV ν2 t (Q e),Z',e1,hR,?_,⟨g2.len,g2.same,g2.rows,?_,g2.frz,?_,g2.pins⟩⟩
 .have L:=q2.cT hz
  cases J with
  | nil=>rw[L.cZ];exact hsl
  | cons x J=>
   obtain⟨y,aa,rfl,_,_⟩:=L.inv;exact .tup _ _ (by have:=L.1;grind) (bS.cons hsl (bS.oM L)).2
 .intro id h;rcases zQ h with h|⟨h1,rfl⟩
  .exact g2.own id h
  exact(fresh e _ D G h1).2.imp (λh=>h) .inr
 intro d hd z h;have I:d≠t:=λe=>n1 (e▸hd)
 have h:bh (bB B t (.sl k es xs)) d=some z:=h;rw[cn _ _ (Ne.symm I)]at h;obtain⟨ob,h1,_,h3⟩:=g3 d z h;exact⟨ob,h1,by rw[zk _ _ I,T],h3⟩
theorem M_ (hS:iD S c) {f:FuncId} (O:S.E.keep f=true) (r:R ν Z st F H) {args:a_ SV} {ys:a_ V} (ha:bS ν st.m H Z args ys) {os:c8} (hh:handed st.m args=some os)
 {p:V} {rest:a_ SV} {m':c8} {U:a_ V} {u:Tb bu} {e t es:Nat} {k:Fl} {xs:a_ (a_ V)} (hc:c f args os=some (.v p::.own e::rest,m')) (hz:cT rest=some U) (hb:kf m' (os.map (·.1)) st.m=some u)
 (D:bh m' e=some (.sl k es xs)) (G:e∉os.map (·.1)) (B:St.new { st with m:=u } t=true) :
 ∃n y H' ν' Z',(∀k,n<=k->run S.E k (.fn f) ys H=some (y,H'))/\R ν' Z' { st with m:=bB u t (.sl k es xs) } F H'/\cF ν' (bB u t (.sl k es xs)) H' Z' (.tup (.v p::.own t::U.map .v)) y/\Ev Rv ν Z st H ν' Z' { st with m:=bB u t (.sl k es xs) } H':=by
 obtain⟨n,H',J,Z',aa,F1,ws,ν2,e1,rfl,e2,e3,fresh,L,g1,g2,g3,_⟩:=vg (Rv:=Rv) hS O r ha hh hc hb;obtain⟨W,ab,rfl,q0,Q⟩:=e2.inv;obtain⟨w,T,rfl,q1,q2⟩:=Q.inv;have o:=e3.obj e _ D;have hR:=g1.add B (ob:=.sl k es xs) (p:=J e) (λC=>⟨(fresh e _ D G C).1,e3.apart e _ 0 D C⟩) (by
  grind[cI,gz])
 have hsl:cF (fV ν2 t (J e)) (bB u t (.sl k es xs)) H' Z' (.own t) w:=by
  refine .own _ _ λz X=>?_
  rw[bW]at X;cases X;obtain⟨_,_,_,ee,rfl⟩:=q1.fM D;cases ee;exact⟨_,_,_,rfl,by rw[gz]⟩
 obtain⟨n1,n2,n3,n4⟩:=jb B;refine⟨n,result (W::w::T),H',fV ν2 t (J e),Z',e1,hR,?_,⟨g2.len,g2.same,g2.rows,?_,g2.frz,?_,g2.pins⟩⟩
 .have Y:=q2.cT hz;have h0:cF (fV ν2 t (J e)) (bB u t (.sl k es xs)) H' Z' (.v p) W:=by
   cases q0 with
   | v _ _ h=>exact .v _ _ h
  exact .tup _ _ (by have:=Y.1;grind) (bS.cons h0 (bS.cons hsl (bS.oM Y))).2
 .intro id h;rcases zQ h with h|⟨h1,rfl⟩
  .exact g2.own id h
  exact(fresh e _ D G h1).2.imp (λh=>h) .inr
 intro d hd z h;have I:d≠t:=λe=>n1 (e▸hd)
 have h:bh (bB u t (.sl k es xs)) d=some z:=h;rw[cn _ _ (Ne.symm I)]at h;obtain⟨ob,h1,_,h3⟩:=g3 d z h;exact⟨ob,h1,by rw[zk _ _ I,L],h3⟩
theorem Ng (u:iD S c) {f:FuncId} {az:a_ V} {rs:a_ SV} {m':c8} (hg:V.cN az=true) (h:c f (az.map .v) []=some (rs,m')) :
 ∃n H2 ν' Z' st' F' ys,(∀k,n<=k->run S.E k (.fn f) az []=some (result ys,H2))/\st'.m=m'/\bS ν' m' H2 Z' rs ys/\R ν' Z' st' F' H2:=by
 obtain⟨t,r1⟩:=yC hg;obtain⟨n,y,H2,ν',Z',st',F',w,h1,rfl,z,B,C,_⟩:=u f _ _ _ _ h _ _ az [] (.inr rfl) t r1;exact⟨n,H2,ν',Z',st',F',w,λk hk=>(th S.E hk).go _ _ _ _ h1,z,B,C⟩
theorem JN {ys:a_ V} (h:V.cQ ys=true):V.cQ (.bE::ys)=true/\V.cQ (.c7::ys)=true:=by
 grind[V.cQ,V.scalar]
theorem bS.SS {ys:a_ V} (h:V.cN ys=true):bS ν m H Z (ys.map .v) ys:=bS.oM (c_.same h)
theorem Ns (hS:iD S c) (hP:∀f q,S.prm f=some q->ou S.E f q) {ops:a_ Oper} {place:bf (Nat×Nat)} {dr nw:Bool} {fr:a_ Nat} (T:dr=place.isSome) (J:∀b i,place=some (b,i)->nw=true->dm ops i=true) (ak:∀b i,place=some (b,i)->nw=false->dm ops i=false)
 (hold:∀b i,place=some (b,i)->(∀d ob j,bh st.m d=some ob->ob.pt j=true->d∉fr->ν.at d j<b)/\∀id,Z id->id<b)
 (r:R ν Z st F H) {args:a_ SV} {ys:a_ V} (Y:bS ν st.m H Z args ys) {f:FuncId} {dst:bf Nat} {sv:SV} (h:eO S c dst dr (!dr||nw) (eM st.m fr) f args st=some (sv,st')) :
 ∃n y H' ν' Z',(∀k,n<=k->dI S.E (run S.E k) ops place f ys H=some (y,H'))/\R ν' Z' st' F H'/\cF ν' st'.m H' Z' sv y/\Ev Rv ν Z st H ν' Z' st' H'/\(dr=true->Z'=Z/\Kept dst ν st.m ν' st'.m):=by
 unfold eO at h;split at h
 .rename_i hk;split at h
  .have hplace:(dr=true->S.E.own f=true\/S.E.soft f=false)->∀{q:dn} {y:V} {H':bp},gw S.E q f ys H=some (y,H')->dI S.E q ops place f ys H=some (y,H'):=λad {q y H'} hd=>by
    unfold dI
    cases place with
    | none=>rw[if_pos (by grind[jc])];omega
    | some bi=>
     obtain⟨b,i⟩:=bi;have ax  := T;have aI:=J b i rfl Zd
     have Q:=ad (by rw[ax];rfl)
     rw[if_pos (by grind[jc])]
     grind
   split at h
   .
    rename_i U;have hplace:=@hplace λ_=>.inl U
    split at h
    .rename_i az hs;have hg:=yK r.obj hs Y;obtain⟨nb,hb⟩:=vP r Y hs;split at h
     .rename_i rs m' hc;obtain⟨na,H2,ν2,Z2,st2,F2,ws,ay,rfl,e3,e4⟩:=Ng hS hg hc;obtain⟨n,aA,aJ⟩:∃n,na<=n/\nb<=n:=⟨max na nb,Nat.le_max_left ..,Nat.le_max_right ..⟩;have e1:=λk (hk:n<=k)=>ay k (Nat.le_trans aA hk)
      have L:∀k,n<=k->∀{o:bf (V×bp)},(if(result ws).scalar then some (result ws,H)else
       match result ws with
       | .hsl id es off len=>(sZ H.length H2 id es off len).map λ(v,ob)=>(v,H++[ob])
       | .tup (.hsl id es off len::rest)=>if V.cQ rest then(sZ H.length H2 id es off len).map λ(v,ob)=>(.tup (v::rest),H++[ob])else none
       | _=>none)=o->gw S.E (run S.E k) f ys H=o:=λk C o ho=>by
       unfold gw mD;rw[if_pos U]
       grind[oy]
      have al:∀D:a_ V,(result D).scalar=true->result ws=result D->sv=.v (result D)->st'=st->∃n y H' ν' Z',(∀k,n<=k->dI S.E (run S.E k) ops place f ys H=some (y,H'))/\R ν' Z' st' F H'/\cF ν' st'.m H' Z' sv y/\Ev Rv ν Z st H ν' Z' st' H'/\(dr=true->Z'=Z/\Kept dst ν st.m ν' st'.m):=by
       rintro D h1 h2 rfl rfl;exact⟨n,result D,H,ν,Z,λk C=>hplace (L k C (by rw[h2,if_pos h1])),r,.v _ _ (.same _ (iZ h1)),.refl,λ_=>⟨rfl,.refl⟩⟩
      have emp:∀(k:Fl) (es:Nat) (D:a_ V) (rest:a_ SV),V.cQ D=true->∀t,st.new t=true->∀w:V,(k=.nil/\w=.bE\/k=.emp/\w=.c7)->result (w::D)=result ws->dst=some t->sv=zG (.own t::D.map .v)->st'={ st with m:=bB st.m t (.sl k es []) } ->
       ∃n y H' ν' Z',(∀k,n<=k->dI S.E (run S.E k) ops place f ys H=some (y,H'))/\R ν' Z' st' F H'/\cF ν' st'.m H' Z' sv y/\Ev Rv ν Z st H ν' Z' st' H'/\(dr=true->Z'=Z/\Kept dst ν st.m ν' st'.m):=by
       rintro k es D rest aa t O w hw am rfl rfl rfl;have aK:bR k=false:=by rcases hw with⟨rfl,_⟩|⟨rfl,_⟩ <;> rfl
       have hsl:cF (fV ν t (0,0)) (bB st.m t (.sl k es [])) H Z (.own t) w:=by
        refine .own _ _ λae h'=>?_
        rw[bW]at h';cases h';exact⟨_,_,_,rfl,by rcases hw with⟨rfl,rfl⟩|⟨rfl,rfl⟩ <;> rfl⟩
       have an:(result (w::D)).scalar=true:=v_ (by rcases hw with⟨_,rfl⟩|⟨_,rfl⟩;all_goals simp_all[JN])
       refine⟨n,result (w::D),H,fV ν t (0,0),Z,λk C=>hplace (L k C (by rw[<-am,if_pos an])),r.add O (λhb=>by grind[dJ]) (by grind[cI]),?_,
        Ev.add O (Nat.le_refl _) (λ_ _ _=>rfl) (λ_ _=>rfl) (λhb=>by grind[dJ]),λ_=>⟨rfl,Kept.add λ_ _ h=>h⟩⟩
       cases D with
       | nil=>exact hsl
       | cons z D=>exact .tup _ _ Zc (bS.cons hsl (bS.SS (oq aa))).2
      split at h
      .rename_i D G;split at h
       next aa=>simp  at h;exact al D aa ((Et (e3.cT G)).1 aa) h.1.symm h.2.symm
       simp at h
      split at h
      .rename_i e rest t _;obtain⟨w,ws,rfl,g1,g2⟩:=e3.inv;split at h
       .
        rename_i es xs D W G;split at h
        .rename_i B;simp  at B;obtain⟨⟨c1,c2⟩,O⟩:=B;simp  at h;obtain⟨rfl,rfl⟩:=h;have o:=e4.obj e _ W;simp only[cI,if_true]at o;obtain⟨rows,hr,aL,hf,aG,ao⟩:=o;obtain⟨q1,q2⟩:=ao trivial;have af  := by
          have:=Hw hf c2;rw[q1,List.drop_zero,<-q2,List.take_length]at this;exact this
         subst af;obtain⟨_,_,_,ee,rfl⟩:=g1.fM W;cases ee;have I  := (g2.cT G).scalar.1 c1;subst I;have aM:sZ H.length H2 (ν2 e).1 es 0 rows.length=some (.hsl H.length es 0 rows.length,.row es rows):=by
          grind[sZ,nv]
         have hH:∀id,id<H.length->(H++[Ob.row es rows])[id]? = H[id]? := λid hl=>List.getElem?_append_left hl
         have ap:∀id,Z id->bq (H++[Ob.row es rows]) id=bq H id:=λid G=>by unfold bq;rw[hH id (r.tw G)]
         have r2  := r.heap (λid ho=>hH id (r.lt ho)) ap
         have aB:V.lQ rows=true:=by
          refine jJ.2 λj u hu=>?_
          unfold nv at c2;rw[List.all_eq_true]at c2;have:=c2 u (List.mem_of_getElem? hu);rw[List.all_eq_true]at this
          grind[iw,iZ]
         have hR:=r2.add   (ob:=.sl .row es rows) (p:=(H.length,0)) O (λ_=>⟨λho=>absurd (r.lt ho) Zc,λG=>absurd (r.tw G) Zc⟩) (by
          simp only[cI,gz];refine⟨rows,by simp,by simp,?_,(fm.same aB).wX,λ_=>⟨trivial,rfl⟩⟩
          rw[List.drop_zero,List.take_length]
          grind[fm.same])
         have hsl:cF (fV ν t (H.length,0)) (bB st.m t (.sl .row es rows)) (H++[Ob.row es rows]) Z (.own t) (.hsl H.length es 0 rows.length):=by
          refine .own _ _ λae h'=>?_
          rw[bW]at h';cases h';exact⟨_,_,_,rfl,by simp[mM,gz]⟩
         have aq:Ev Rv ν Z st H (fV ν t (H.length,0)) Z { st with m:=bB st.m t (.sl .row es rows) } (H++[Ob.row es rows]):=Ev.add O Zc (λid hl _=>hH id hl) ap (λ_=>.inr (Nat.le_refl _))
         have ar:mM (ν2 e) Fl.row es rows.length=.hsl (ν2 e).1 es 0 rows.length:=by grind[mM]
         rw[ar]at L
         cases rest with
         | nil=>
          have  := by simp only[cT,ζa]at G;exact G.symm
          subst this;refine⟨n,_,_,_,Z,λk C=>hplace (L k C  ?_),hR,hsl,aq,λ_=>⟨rfl,Kept.add λ_ _ h=>h⟩⟩
          grind[result,V.scalar]
         | cons x2 rest=>
          have aC:∃w2 ah,ws=w2::ah:=by
           have:=g2.1
           cases ws with
           | nil=>simp at this
           | cons a b=>exact⟨a,b,rfl⟩
          obtain⟨w2,ah,rfl⟩:=aC;refine⟨n,_,_,_,Z,λk C=>hplace (L k C (o:=some (.tup (.hsl H.length es 0 rows.length::w2::ah),H++[Ob.row es rows])) ?_),hR,?_,aq,λ_=>⟨rfl,Kept.add λ_ _ h=>h⟩⟩
          .grind[result,V.scalar,V.cQ]
          exact .tup _ _ Zc (bS.cons hsl (bS.SS (oq c1))).2
        simp at h
       .rename_i es xs D W G;split at h
        next B=>simp  at B;simp  at h;obtain⟨rfl,rfl⟩:=h;obtain⟨_,_,_,ee,rfl⟩:=g1.fM W;cases ee;have I:=(g2.cT G).scalar.1 B.1;subst I;exact emp .nil es ws rest B.1 _ B.2 .bE Zc rfl rfl rfl rfl
        simp at h
       .rename_i es xs D W G;split at h
        next B=>simp  at B;simp  at h;obtain⟨rfl,rfl⟩:=h;obtain⟨_,_,_,ee,rfl⟩:=g1.fM W;cases ee;have I:=(g2.cT G).scalar.1 B.1;subst I;exact emp .emp es ws rest B.1 _ B.2 .c7 Zc rfl rfl rfl rfl
        simp at h
       simp at h
      simp at h
     grind
    grind
   rename_i U;split at h
   .rename_i Q;simp only[ζh]at Q;have X:jc S.E ops place f=false:=by
     cases place with
     | none=>rw[T]at Q;simp at Q
     | some bi=>simp[jc,Q.2,U]
    unfold GM at h;split at h
    .rename_i az hs;split at h
     .rename_i rs m' hc;split at h
      .rename_i D G;split at h
       .rename_i B;simp only[Bool.or_eq_true]at B;simp at h;obtain⟨rfl,rfl⟩:=h;obtain⟨n,H',e1,e2,e3,e4⟩:=C_ hS T J hold r Y X hs (.inl (by assumption)) hc G B
        exact⟨n,_,H',ν,Z,e1,e2,e3,e4,λ_=>⟨rfl,.refl⟩⟩
       simp at h
      simp at h
     simp at h
    simp at h
   rename_i Q;have hplace:=@hplace λhd=>.inr (by cases hq:S.E.soft f <;> simp_all)
   split at h
   .rename_i q hq;split at h
    .simp at h
    rename_i hd;obtain⟨n,y,H',ν',e1,e2,e3,e4,e5⟩:=Q3  (hP f q hq) r Y h;exact⟨n,y,H',ν',Z,λk C=>hplace (by grind[gw]),e2,e3,e4,λh=>absurd h hd⟩
   split at h
   .rename_i os hh;split at h
    .rename_i rs m' hc;split at h
     .rename_i D m2 G hb;split at h
      .simp at h
      rename_i au;simp  at h;obtain⟨rfl,rfl⟩:=h
      cases av:dr with
      | false=>
       obtain⟨n,y,H',ν',Z',e1,e2,e3,e4⟩:=Q_  hS hk r Y hh hc G hb;exact⟨n,y,H',ν',Z',λk C=>hplace (by grind[gw]),e2,e3,e4,(λh=>nomatch h)⟩
      | true=>
       rw[av]at au;have zd:V.cQ D=true/\∀k∈os.map (·.1),vW m2 k=true:=by
        simp only[Bool.true_and,Bool.not_eq_true',Bool.not_eq_false,ζh,List.all_eq_true]at au
        grind
       obtain⟨n,H',e1,e2,e3,e4,e5⟩:=PV (Rv:=Rv) hS hk r Y hh hc G hb zd.1 zd.2;exact⟨n,_,H',ν,Z,λk C=>hplace (by grind[gw]),e2,e3,e4,λ_=>⟨rfl,e5 _⟩⟩
     .rename_i m2 G hb;split at h
      .simp at h
      rename_i hd;split at h
      .rename_i e rest t;split at h
       .rename_i k es xs D he ai;split at h
        next B=>simp only[ζh,Bool.not_eq_true',List.contains_eq_mem,decide_eq_false_iff_not]at B;simp only[ζa,ζc]at h;obtain⟨rfl,rfl⟩:=h;obtain⟨n,y,H',ν',Z',e1,e2,e3,e4⟩:=PY hS hk r Y hh hc ai hb he B.1 B.2;exact⟨n,y,H',ν',Z',λk C=>hplace (by grind[gw]),e2,e3,e4,λh=>absurd h hd⟩
        simp at h
       simp at h
      .rename_i p e rest t;split at h
       .rename_i k es xs D he ai;split at h
        next B=>simp only[ζh,Bool.not_eq_true',List.contains_eq_mem,decide_eq_false_iff_not]at B;simp only[ζa,ζc]at h;obtain⟨rfl,rfl⟩:=h;obtain⟨n,y,H',ν',Z',e1,e2,e3,e4⟩:=M_ hS hk r Y hh hc ai hb he B.1 B.2;exact⟨n,y,H',ν',Z',λk C=>hplace (by grind[gw]),e2,e3,e4,λh=>absurd h hd⟩
        simp at h
       simp at h
      simp at h
     simp at h
    simp at h
   simp at h
  rename_i ab;split at h
  .rename_i aj;simp only[ζh]at aj;have X:jc S.E ops place f=false:=by
    simp only[Bool.not_eq_true,Bool.or_eq_false_iff,Bool.not_eq_false']at ab
    cases place with
    | none=>rw[T]at ab;simp at ab
    | some bi=>
     obtain⟨b,i⟩:=bi;have h1:=ak b i rfl ab.2;have h2:=aj.1;simp only[jc,h1,Bool.false_or];cases Q:S.E.soft f <;> simp_all
   split at h
   .rename_i az hs;split at h
    .rename_i rs m' hc;split at h
     .rename_i D G;split at h
      next B=>simp only[Bool.or_eq_true]at B;simp at h;obtain⟨rfl,rfl⟩:=h;obtain⟨n,H',e1,e2,e3,e4⟩:=C_ hS T J hold r Y X hs (.inr aj.2) hc G B;exact⟨n,_,H',ν,Z,e1,e2,e3,e4,λ_=>⟨rfl,.refl⟩⟩
      simp at h
     simp at h
    simp at h
   simp at h
  simp at h
 rename_i hk;have aD:S.E.keep f=false:=by grind
 have X:jc S.E ops place f=false:=by simp_all[jc]
 split at h
 .rename_i az hs;split at h
  .rename_i hl;split at h
   .rename_i rs m' hc;split at h
    .rename_i D G;split at h
     .rename_i B;simp only[Bool.or_eq_true]at B;simp  at h;obtain⟨rfl,rfl⟩:=h;obtain⟨n,H',e1,e2,e3,e4⟩:=C_  hS T J hold r Y X hs Zd hc G B
      exact⟨n,_,H',ν,Z,e1,e2,e3,e4,λ_=>⟨rfl,.refl⟩⟩
     rename_i aH;split at h
     .rename_i aE;obtain⟨ds,aF,e⟩:=ζf.1 h;simp  at e;obtain⟨rfl,rfl⟩:=e;have aw:(result D).scalar=false:=by
       grind
      obtain⟨n,H',e1,e2,e3,e4⟩:=PF  hS J (λb i hp=>(hold b i hp).2) r Y aD hs (by rw[<-T];exact aE) hc G aw aF
      exact⟨n,_,H',ν,Z,e1,e2,e3,e4,λ_=>⟨rfl,λe ae _ h=>⟨ae,m_ h,rfl,.refl _,λ_ h=>⟨h,rfl⟩⟩⟩⟩
     simp at h
    simp at h
   simp at h
  simp at h
 simp at h
end
structure CX where
 E:Env
 nm:FuncId->Option Nat
 nt:Nat
def AY (ops:a_ Oper) (o:Oper):bf (bf (Nat×Bool)):=
 match o.guard with
 | none=>some none
 | some (j,b)=>((ops[j]?).bind (·.dst)).map λd=>some (d,b)
def xE (nt:Nat):bf Nat->Bool
 | none=>true
 | some d=>decide (d<nt)
def vT (u:Bool) (ops:a_ Oper) (i:Nat) (k:K) (os:a_ Operand):K×a_ Operand×Bool:=
 if u && !dm ops i then match k,os,qa false ops i with
  | .l (.store n),.tmp t::w,some (a,l)=>if t=a then(.l (.storeF n),(.tmp t::w)++l.map .tmp,true)else(k,os,false)
  | .l (.append n),os,_=>if vB ops i then(.e n,os,true)else(k,os,false)
  | .r (.load n ag),[.tmp t],_=>if(oa ops i t).isEmpty then(k,os,false)else(.r (.loadF n ag),.tmp t::(oa ops i t).map .tmp,false)
  | _,_,_=>(k,os,false)
 else(k,os,u&&dm ops i)
theorem Cj (u:Bool) (ops:a_ Oper) (i:Nat) (k:K) (os:a_ Operand):(vT u ops i k os=(k,os,u&&dm ops i)/\∀n ag a',u=true->dm ops i=false->k=.r (.load n ag)->os=[.tmp a']->oa ops i a'=[]) \/
 (u=true/\dm ops i=false/\∃n a l B,k=.l (.store n)/\os=.tmp a::B/\qa false ops i=some (a,l)/\vT u ops i k os=(.l (.storeF n),os++l.map .tmp,true)) \/
 (u=true/\dm ops i=false/\∃n ag a,k=.r (.load n ag)/\os=[.tmp a]/\vT u ops i k os=(.r (.loadF n ag),.tmp a::(oa ops i a).map .tmp,false)) \/
 (u=true/\dm ops i=false/\vB ops i=true/\∃n,k=.l (.append n)/\vT u ops i k os=(.e n,os,true)):=by
 unfold vT;split
 .rename_i h;simp only[ζh,Bool.not_eq_true']at h;split
  .rename_i n a' B a l hk;split
   next e=>subst e;refine .inr (.inl ⟨h.1,h.2,n,a',l,B,rfl,rfl,hk,?_⟩);simp only[vT,h.1,h.2,hk,Bool.not_false,Bool.and_self,if_true]
   exact .inl ⟨by rw[h.2,Bool.and_false],λn ag a' _ _ e=>by cases e⟩
  .rename_i n;split
   next D=>refine .inr (.inr (.inr ⟨h.1,h.2,D,n,rfl,rfl⟩))
   exact .inl ⟨by rw[h.2,Bool.and_false],λn ag a' _ _ e=>by cases e⟩
  .rename_i n ag a';split
   .rename_i G;refine .inl ⟨by rw[h.2,Bool.and_false],λn ag C _ _ _ e=>?_⟩
    simp only[List.cons.injEq,Operand.tmp.injEq,and_true]at e;subst e;simpa using G
   exact .inr (.inr (.inl ⟨h.1,h.2,n,ag,a',rfl,rfl,rfl⟩))
  rename_i t w z;refine .inl ⟨by rw[h.2,Bool.and_false],λn ag C _ _ e1 e2=>?_⟩
  first|exact(z _ _ _ e1 e2).elim|exact(z _ _ _ _ e1 e2 rfl).elim|exact(t _ _ _ e1 e2).elim|exact(w _ _ _ e1 e2).elim|exact(t _ _ _ _ e1 e2 rfl).elim|exact(w _ _ _ _ e1 e2 rfl).elim
 rename_i h;refine .inl ⟨rfl,λn ag C hd I _ _=>?_⟩
 rw[hd,I]at h;exact absurd rfl h
def k7 (X:CX) (u:Bool) (ops:a_ Oper) (i:Nat) (o:Oper):bf RO:=
 if xE X.nt o.dst && !(u&&(cD o.op==.call&&Fk ops i))then
  match AY ops o,resolve X.E X.nm o.op with
  | some gd,some (k,os)=>if zD k then if u&&Bj X.E ops i then match k,o.op with
   | .a (.makeSl size zero),.makeSlice ..=>(os.mapM (nU X.nm)).map λaz=>⟨o.dst,gd,false,.p (.makeC size zero),az,[],[]⟩
   | .a (.buildSl size len zero idx),.buildSlice ..=>if size≠0/\len=0/\idx=[]then(os.mapM (nU X.nm)).map λaz=>⟨o.dst,gd,false,.p .emptyC,az,[],[]⟩else(os.mapM (nU X.nm)).map λaz=>⟨o.dst,gd,false,.p (.buildC size len zero idx),az,[],[]⟩
   | _,_=>none
   else((vT u ops i k os).2.1.mapM (nU X.nm)).map λaz=>⟨o.dst,gd,(vT u ops i k os).2.2,(vT u ops i k os).1,az,[],[]⟩else none
  | _,_=>none
 else none
theorem B6 {E:Env} {N:Nat->FuncId} {F:Frame} {op:Op} {ys:a_ V} {size:Nat} {zero:a_ V} {y:V} (u:∃t l c,op=.buildSlice t l c) (h:zK E N F op ys (.a (.buildSl size 0 zero []))) (D:size≠0) (B:bP N .emptyC ys=some y):oe E F op=some y:=by
 obtain⟨t,l,c,rfl⟩:=u;obtain⟨g1,g2⟩:=h;unfold bP at B;split at B <;> first|(rename_i e;cases e;done)|skip
 all_goals simp_all[kr,eP,oe]
theorem yj {es:Nat}:∀{vs:a_ (Nat×V)} {xs ys:a_ (a_ V)},eP es xs vs=some ys->ys.length=xs.length
 | [],xs,ys,h=>by grind[eP]
 | (i,v)::r,xs,ys,h=>by
  simp only[eP]at h;split at h
  .have:=yj h
   grind
  cases h
theorem Cw {E:Env} {N:Nat->FuncId} {F:Frame} {op:Op} {ys:a_ V} {size len:Nat} {zero:a_ V} {idx:a_ Nat} {y:V} (B:∃t l c,op=.buildSlice t l c) (h:zK E N F op ys (.a (.buildSl size len zero idx))) (u:bP N (.buildC size len zero idx) ys=some y):oe E F op=some y:=by
 obtain⟨t,l,c,rfl⟩:=B;obtain⟨g1,g2⟩:=h;simp only[bP]at u;split at u
 .rename_i hc;split at u
  .rename_i z w;split at u
   .rename_i D;have G:len=z.length:=by
     have:=yj w;rw[this];simp
    have C:=g2 _ (show kr (.buildSl size len zero idx) ys=some (.row size z,.sl size len)by grind[kr])
    grind[oe]
   cases u
  cases u
 cases u
theorem CA {E:Env} {N:Nat->FuncId} {F:Frame} {op:Op} {ys:a_ V} {size:Nat} {zero:a_ V} {y:V} (B:∃t l c,op=.makeSlice t l c) (h:zK E N F op ys (.a (.makeSl size zero))) (u:bP N (.makeC size zero) ys=some y):oe E F op=some y:=by
 obtain⟨t,l,c,rfl⟩:=B;obtain⟨g1,g2⟩:=h;unfold bP at u;split at u <;> first|(rename_i e;cases e;done)|skip
 .rename_i k n z m e;cases e;split at u
  .rename_i c;obtain⟨rfl,rfl,C,rfl,D,G⟩:=c;have w:=g2 _ (show kr (.makeSl size zero) [.int .i64 n,.int .i64 n]=some (.row size (List.replicate n.toNat zero),.sl size n.toNat)by grind[kr])
   grind[oe]
  cases u
 cases u
theorem BR {X:CX} {dr:Bool} {ops:a_ Oper} {i:Nat} {o:Oper} {ro:RO} (hc:k7 X dr ops i o=some ro):xE X.nt o.dst=true/\∃g now k az,AY ops o=some g/\ro=⟨o.dst,g,now,k,az,[],[]⟩:=by
 unfold k7 at hc;split at hc
 .rename_i hd;have hd:=(Bool.and_eq_true_iff.1 hd).1;split at hc
  .rename_i g k os hg hr;split at hc
   ·(repeat' split at hc) <;> first|(cases hc;done)|(obtain⟨az,t,rfl⟩:=ζf.1 hc;exact⟨hd,_,_,_,_,hg,rfl⟩)
   cases hc
  cases hc
 cases hc
theorem Du {X:CX} {dr:Bool} {ops:a_ Oper} {i:Nat} {o:Oper} {ro:RO} (hc:k7 X dr ops i o=some ro) (hd:dr=true) (u:cD o.op=.call):Fk ops i=false:=by
 unfold k7 at hc;split at hc
 next h=>subst hd;simp[u]at h;exact h.2
 cases hc
structure Good (X:CX) (S:Sys):Prop where
 E:X.E=S.E
 N:∀f s,X.nm f=some s->S.N s=f
 prm:∀f q,S.prm f=some q->ou S.E f q
section
variable {Rv:Nat->Prop} {ν ν':Nu} {Z Z':Nat->Prop} {st st':St} {m m':Tb bu} {F F':Frame} {H H' H1:bp} {S:Sys} {c:bN} {X:CX}
def Old (b:Nat) (fr:a_ Nat) (ν:Nu) (Z:Nat->Prop) (m:Tb bu):Prop:=(∀d ob j,bh m d=some ob->ob.pt j=true->d∉fr->ν.at d j<b)/\∀id,Z id->id<b
theorem mC {fr:a_ Nat}:∀{svs:a_ SV},eB fr svs=true->∀d∈fr,SV.c9 d svs=false
 | [],_,d,_=>rfl
 | .v _::r,h,d,hd=>(mC (svs:=r) (by grind[eB]) d hd)
 | .ptr e _::r,h,d,hd=>by
  simp[eB,Bool.not_eq_true']at h;simp[SV.c9,SV.cw];exact⟨λe=>h.1 (e▸hd),mC h.2 d hd⟩
 | .el e _ _::r,h,d,hd=>by
  simp[eB,Bool.not_eq_true']at h;simp[SV.c9,SV.cw];exact⟨λe=>h.1 (e▸hd),mC h.2 d hd⟩
 | .mp e::r,h,d,hd=>by
  simp[eB,Bool.not_eq_true']at h;simp[SV.c9,SV.cw];exact⟨λe=>h.1 (e▸hd),mC h.2 d hd⟩
 | .own _::r,h,_,_=>by grind[eB]
 | .clo ..::r,h,_,_=>by grind[eB]
 | .tup _::r,h,_,_=>by grind[eB]
 | .agg _::r,h,_,_=>by grind[eB]
 | .yl _::r,h,_,_=>by grind[eB]
def BG (S:Sys) (ops:a_ Oper) (place:bf (Nat×Nat)) (dr:Bool) (F:Frame) (op:Op) (dst:bf Nat) (ν:Nu) (Z:Nat->Prop) (st:St) (H:bp) (sv:SV) (st':St):Prop:=
 ∃n y H' ν' Z',(∀k,n<=k->cH S.E (run S.E k) ops place F H op=some (y,H'))/\R ν' Z' st' F H'/\cF ν' st'.m H' Z' sv y/\Ev (λid=>∃b j,place=some (b,j)/\id=b+j) ν Z st H ν' Z' st' H' /\
  (dr=true->Z'=Z/\Kept dst ν st.m ν' st'.m)
theorem xm {E:Env} {F:Frame} {H:bp} {place:bf (Nat×Nat)} {op:Op} {v:V} (h:bF E F op=some v):qM E F H place op=some v:=by simp_all[qM]
theorem yg:∀{xs ys:a_ (a_ V)} {l:a_ Int},fm H Z xs ys->oH xs=some l->oH ys=some l
 | [],ys,l,h,B=>by
  have:=h.1;have:ys=[]:=List.eq_nil_of_length_eq_zero Zd
  grind
 | x::xs,[],l,h,B=>by have:=h.1;simp at this
 | x::xs,y::ys,l,h,B=>by
  unfold oH at B;split at B
  .grind
  .rename_i n r e;cases e;obtain⟨k,h1,rfl⟩:=ζf.1 B;have t:=h.2 0 _ y rfl rfl;obtain⟨u,z,rfl,p1,p2⟩:=t.inv;rw[p2.cZ,p1.int];have:=yg (xs:=xs) (ys:=ys) ⟨by have:=h.1;grind,λj a b w B=>h.2 (j+1) a b w B⟩ h1
   grind[oH]
  cases B
theorem L8 (gd:Good X S) {ops:a_ Oper} {place:bf (Nat×Nat)} {dr:Bool} {op:Op} {dst:bf Nat} {p:tU} {svs:a_ SV} {ys:a_ V} (hk:zD (.p p)=true) (r:R ν Z st F H) (rs:bS ν st.m H Z svs ys)
 (u:zK X.E S.N F op ys (.p p)) {sv:SV} (h:(iJ S.N st.m p svs).map (λx=>(x,st))=some (sv,st')):BG S ops place dr F op dst ν Z st H sv st':=by
 obtain⟨x,w,e⟩:=ζf.1 h;obtain⟨rfl,rfl⟩:=e;obtain⟨y,z,t⟩:=Fu  (λzero pl e=>by grind[zD]) r.obj rs w
 obtain⟨h1,B⟩:=u;exact⟨0,y,H,ν,Z,λq _=>by unfold cH;rw[h1];simp only[<-gd.E,xm (B y z),Option.map_some],r,t,.refl,λ_=>⟨rfl,.refl⟩⟩
theorem ya (gd:Good X S) {ops:a_ Oper} {place:bf (Nat×Nat)} {dr:Bool} {op:Op} {p:tU} {svs:a_ SV} {ys:a_ V} (hp:∀zero pl,p≠.build zero pl) (u:cD op=.alloc) (B:mh X.E ops place=true) (D:∀y,bP S.N p ys=some y->oe X.E F op=some y)
 (r:R ν Z st F H) (rs:bS ν st.m H Z svs ys) {sv:SV} (h:(iJ S.N st.m p svs).map (λx=>(x,st))=some (sv,st')):BG S ops place dr F op none ν Z st H sv st':=by
 obtain⟨x,w,e⟩:=ζf.1 h;simp only[ζc]at e;obtain⟨rfl,rfl⟩:=e;obtain⟨y,z,t⟩:=Fu (N:=S.N) (λzero pl e=>absurd e (hp zero pl)) r.obj rs w
 refine⟨0,y,H,ν,Z,λq _=>?_,r,t,.refl,λ_=>⟨rfl,.refl⟩⟩
 unfold cH;rw[u];simp only[B,if_true,<-gd.E,D y z,Option.map_some]
theorem Ir:∀{B u:a_ Operand} {vs:a_ V},eZ F (B++u)=some vs->∃D G,eZ F B=some D/\eZ F u=some G/\vs=D++G
 | [],u,vs,h=>⟨[],vs,rfl,h,rfl⟩
 | x::B,u,vs,h=>by
  obtain⟨a,az,h1,J,rfl⟩:=h_ h;obtain⟨D,G,g1,g2,rfl⟩:=Ir J;simp_all[eZ]
theorem AU:∀{l:a_ Nat} {vs:a_ V},eZ F (l.map Operand.tmp)=some vs->vs=l.map (get F)
 | [],vs,h=>oW h
 | x::l,vs,h=>by
  obtain⟨a,az,h1,u,rfl⟩:=h_ h;simp[ev]at h1;subst h1;rw[AU u];rfl
theorem S3 (gd:Good X S) {call:dn} {ops:a_ Oper} {b j n a:Nat} {l:a_ Nat} {o:Oper} {u:a_ Operand} {ys:a_ V} {y:V} (hr:resolve X.E X.nm o.op=some (.l (.store n),.tmp a::u)) (B:eZ F ((.tmp a::u)++l.map Operand.tmp)=some ys)
 (G:qa false ops j=some (a,l)) (J:dm ops j=false) (e1:eE H (.storeF n) ys=some (y,H')):cH S.E call ops (some (b,j)) F H o.op=some (y,H'):=by
 obtain⟨U,W,h1,I,rfl⟩:=Ir B;obtain⟨g1,g2⟩:=iK gd.N hr h1;obtain⟨w,L,z,O,rfl⟩:=h_ h1;simp[ev]at z;have t:∃v,L=[v]:=by
  have C:∃x,u=[x]:=by
   unfold resolve at hr
   (repeat' split at hr) <;> first|grind|skip
   all_goals (try (obtain⟨_,_,e⟩:=ζf.1 hr;simp[K.l.injEq,IG.store.injEq,reduceCtorEq]at e))
   grind
  obtain⟨x,rfl⟩:=C;obtain⟨v,Y,_,Q,rfl⟩:=h_ O;rw[oW Q];grind
 obtain⟨v,rfl⟩:=t;rw[AU I,<-z]at e1;simp  at e1
 cases D:get F a with
 | hptr id el off=>
  rw[D]at e1;simp only[eE]at e1;split at e1
  .have T:oI ops j F=true:=by
    unfold oI
    grind
   unfold cH;rw[g1];simp[T,<-gd.E];refine g2 _ _ ?_;rw[<-z,D];exact e1
  grind
 | _=>rw[D]at e1;simp[eE]at e1
theorem Es {E:Env} {nm:FuncId->bf Nat} {op:Op} {s:Nat} {a:Bool} {os:a_ Operand} (h:resolve E nm op=some (.r (.loadF s a),os)):False:=by
 unfold resolve at h
 (repeat' split at h) <;> first|grind|skip
 all_goals simp_all
theorem Fh {E:Env} {nm:FuncId->bf Nat} {op:Op} {s a':Nat} {a:Bool} {t:TypeId} {os:a_ Operand} (h:resolve E nm op=some (.r (.load s a),os)):∃t x,op=.load t x/\os=[x]:=by
 unfold resolve at h
 (repeat' split at h) <;> first|grind|skip
 all_goals simp_all
 grind
theorem Lm {E:Env} {nm:FuncId->bf Nat} {ops:a_ Oper} {j:Nat} {op:Op} {q:IE} {os:a_ Operand} (hr:resolve E nm op=some (.r q,os)) (h:∀n ag a',K.r q=.r (.load n ag)->os=[.tmp a']->∀t,op=.load t (.tmp a')->oa ops j a'=[]):mm ops j F op=true:=by
 unfold mm;split
 .rename_i t a';have:∃n ag,q=.load n ag/\os=[.tmp a']:=by
   obtain⟨d,_,e⟩:=ζf.1 hr
   grind
  grind
 rfl
theorem QF (gd:Good X S) {ops:a_ Oper} {b j n a:Nat} {ag:Bool} {fr:a_ Nat} {o:Oper} {svs:a_ SV} {ys:a_ V} {dst:bf Nat} {x:SV} (hr:resolve X.E X.nm o.op=some (.r (.load n ag),[.tmp a])) (T:eZ F (.tmp a::(oa ops j a).map Operand.tmp)=some ys) (rs:bS ν st.m H Z svs ys)
 (U:eB fr svs=true) (ad:b<=H.length) (W:∀d ob j,bh st.m d=some ob->ob.pt j=true->d∉fr->ν.at d j<b) (D:∀id,Z id->id<b) (r:R ν Z st F H) (O:n5 st.m (.loadF n ag) svs=some x):BG S ops (some (b,j)) true F o.op dst ν Z st H x st:=by
 obtain⟨w,ws,h1,h2,rfl⟩:=h_ T;simp[ev]at h1;have ae:=AU h2;unfold n5 at O;split at O <;> first|(rename_i B;cases B;done)|skip
 .rename_i size agg d off l B;cases B;split at O
  .rename_i G;split at O
   .rename_i cs C;obtain⟨w',af,e,g1,g2⟩:=rs.inv;cases e;have I:=ID r C g2 G;obtain⟨_,_,rfl⟩:=g1.nQ C;have J:∀id,Z id->Z id/\bq (H.take b) id=bq H id:=λid h=>⟨h,mb (D id h)⟩
    have L:∀id,Z id->Z id/\bq H id=bq (H.take b) id:=λid h=>⟨h,(mb (D id h)).symm⟩
    have ah:d∉fr:=λhf=>by
     have:=mC U d hf
     grind[SV.c9,SV.cw]
    obtain⟨y,hy,Q⟩:=uD  (r:=.load n ag)   (λs a e=>by cases e) (λkk z ok e=>by cases e) (bS.cons (g1.mono J λe _=>iq ν st.m e) .nil) (λd2 Y ob u=>by
     have aa:d2∉fr:=λhf=>by
      have  := by simpa [SV.c9,SV.cw]using Y
      grind
     exact cI.mono J rfl (λj hb=>List.getElem?_take_of_lt (W d2 ob j u hb aa)) (λe _=>iq ν st.m e) (r.obj d2 ob u))  (by simp[n5,C];omega)
    obtain⟨k1,k2⟩:=iK  gd.N hr (show eZ F [.tmp a]=some [.hptr (ν d).1 0 off]from by grind[eZ])
    have ab:mm ops j F o.op=true:=by
     obtain⟨t,x',e1,e2⟩:=Fh (a':=0) (t:=0) hr;rw[e1];simp  at e2;subst e2;simp[mm];intro s hs;have hm:get F s∈ws:=by grind
     have:=List.all_eq_true.1 I _ hm
     grind[mB]
    refine⟨0,y,H,ν,Z,λq _=>?_,r,Q.mono L (λe _=>iq ν st.m e),.refl,λ_=>⟨rfl,.refl⟩⟩
    unfold cH;rw[k1];simp[<-gd.E,k2 (H.take b) y hy,ab]
   grind
  grind
 grind
theorem CS {E:Env} {nm:FuncId->bf Nat} {op:Op} {n:Nat} {os:a_ Operand} (h:resolve E nm op=some (.l (.append n),os)) {y:V} {ys:a_ V} (hv:eZ F os=some (y::ys)) (B:y=.bE\/y=.c7):isApp op=true/\oG F op=true:=by
 have key:∃args t p s x,op=.call { callee:=.builtin .append,args:=args,argTypes:=t }/\args.toList=[s,x]/\os=[s,x]/\p=():=by
  unfold resolve at h
  (repeat' split at h) <;> first|(simp at h;done)|skip
  grind
 obtain⟨args,t,_,s,x,rfl,h1,rfl,_⟩:=key;obtain⟨a,az,u,w,e⟩:=h_ hv;cases e;refine⟨rfl,?_⟩;simp only[oG,h1,u]
 all_goals grind
theorem Sp (gd:Good X S) (hS:iD S c) {ops:a_ Oper} {place:bf (Nat×Nat)} {dr:Bool} {fr:a_ Nat} {i:Nat} (G:dr=place.isSome) (hi:∀b j,place=some (b,j)->j=i)
 (hold:∀b j,place=some (b,j)->b<=H.length/\Old b fr ν Z st.m)
 {o:Oper} {ro:RO} (hc:k7 X dr ops i o=some ro) (aF:∀b j,place=some (b,j)->ops[j]? = some o) (am:∀b j,place=some (b,j)->cD o.op=.alloc->H[b+j]? = some .free)
 (r:R ν Z st F H) {sv:SV} (h:kF S c dr fr ro st=some (sv,st')) :
 BG S ops place dr F o.op (w8 ro) ν Z st H sv st':=by
 have aw:=λhd hl=>Du hc hd hl
 unfold k7 at hc;split at hc
 .split at hc
  .rename_i g k os hg hr;split at hc
   .rename_i hk;split at hc
    .rename_i af;simp only[ζh]at af;have an:mh X.E ops place=true:=by
      cases place with
      | none=>rw[G]at af;exact absurd af.1 Zc
      | some O=>obtain⟨b,j⟩:=O;rw[hi b j rfl];exact af.2
     split at hc
     .rename_i size zero t l c U;obtain⟨az,ha,rfl⟩:=ζf.1 hc;unfold kF at h;split at h
      next L B=>obtain⟨ys,C,rs⟩:=nq gd.N r.slot ha B;have J:=iK gd.N hr C;exact ya gd (λ_ _ e=>by cases e) J.1 an (λy hy=>CA ⟨_,_,_,U⟩ J hy) r rs h
      simp at h
     .rename_i size len zero idx t l c U;split at hc
      .rename_i aG;obtain⟨aH,rfl,rfl⟩:=aG;obtain⟨az,ha,rfl⟩:=ζf.1 hc;unfold kF at h;split at h
       next L B=>obtain⟨ys,C,rs⟩:=nq gd.N r.slot ha B;have J:=iK gd.N hr C;exact ya gd (λ_ _ e=>by cases e) J.1 an (λy hy=>B6 ⟨_,_,_,U⟩ J aH hy) r rs h
       simp at h
      obtain⟨az,ha,rfl⟩:=ζf.1 hc;unfold kF at h;split at h
      next L B=>obtain⟨ys,C,rs⟩:=nq gd.N r.slot ha B;have J:=iK gd.N hr C;exact ya gd (λ_ _ e=>by cases e) J.1 an (λy hy=>Cw ⟨_,_,_,U⟩ J hy) r rs h
      simp at h
     cases hc
    rename_i ah;have al:mh X.E ops place=false:=by
     cases place with
     | none=>rfl
     | some O=>
      obtain⟨b,j⟩:=O;have I:=hi b j rfl
      cases ax:Bj X.E ops j with
      | false=>exact ax
      | true=>exact absurd (by rw[G,<-I,ax];rfl) ah
    rcases Cj dr ops i k os with⟨hq,aI⟩|⟨u,ao,n,a,l,aT,rfl,rfl,aJ,hq⟩|⟨u,ao,n,ag,a,rfl,rfl,hq⟩|⟨u,ao,aK,n,rfl,hq⟩
    rotate_left
    .rw[hq]at hc;obtain⟨az,ha,rfl⟩:=ζf.1 hc;unfold kF at h;split at h
     .rename_i L B;obtain⟨ys,C,rs⟩:=nq gd.N r.slot ha B;simp only[u,Bool.not_true,Bool.false_or,if_true]at h;obtain⟨y,H',ν',e1,e2,e3,e4,e5⟩:=AS r rs h;refine⟨0,y,H',ν',Z,λq _=>?_,e2,e3,e4.weak (λ_ h=>h.elim),λ_=>⟨rfl,e5⟩⟩
      cases place with
      | none=>rw[G]at u;cases u
      | some O=>
       obtain⟨b,j⟩:=O;have I:=hi b j rfl;subst I;exact S3 gd hr C aJ ao e1
     simp at h
    .rw[hq]at hc;obtain⟨az,ha,rfl⟩:=ζf.1 hc;unfold kF at h;split at h
     .rename_i L B;obtain⟨ys,C,rs⟩:=nq gd.N r.slot ha B;simp only[u,Bool.not_true,Bool.or_self,Bool.false_or]at h;split at h
      .rename_i ap;obtain⟨x,hx,e⟩:=ζf.1 h;simp only[ζc]at e;obtain⟨rfl,rfl⟩:=e
       cases place with
       | none=>rw[G]at u;cases u
       | some O=>
        obtain⟨b,j⟩:=O;have I:=hi b j rfl;subst I;obtain⟨ay,aq,ai⟩:=hold b j rfl;rw[u];exact QF gd hr C rs ap ay aq ai r hx
      simp at h
     simp at h
    .rw[hq]at hc;obtain⟨az,ha,rfl⟩:=ζf.1 hc;unfold kF at h;split at h
     rotate_left
     .simp at h
     rename_i L B;obtain⟨ys,C,rs⟩:=nq gd.N r.slot ha B;simp only at h;have key:∃e x,(e=V.bE\/e=V.c7)/\L=[.v e,x]/\gB st o.dst (.append n) L=some (sv,st'):=by
      split at h
      .exact⟨_,_,.inl rfl,rfl,h⟩
      .exact⟨_,_,.inr rfl,rfl,h⟩
      cases h
     obtain⟨e,x,he,rfl,hl⟩:=key;obtain⟨y,H',ν',e1,e2,e3,e4,e5⟩:=AS r rs hl;obtain⟨g1,g2⟩:=iK gd.N hr C;refine⟨0,y,H',ν',Z,λq _=>?_,e2,e3,e4.weak (λ_ h=>h.elim),λ_=>⟨rfl,e5⟩⟩
     obtain⟨y1,zs,rfl,f1,f2⟩:=rs.inv;have aL:y1=.bE\/y1=.c7:=by
      cases f1 with|v _ _ hf=>rcases he with rfl|rfl <;> first|exact .inl hf.bE|exact .inr hf.c7
     cases place with
     | none=>rw[G]at u;cases u
     | some O=>
      obtain⟨b,j⟩:=O;have I:=hi b j rfl;subst I;obtain⟨r1,r2⟩:=CS hr C aL;exact LL r1 (by rw[<-gd.E];exact g2 _ _ e1) (.inr ⟨aK,r2,(hold b j rfl).1⟩)
    rw[hq]at hc;obtain⟨az,ha,rfl⟩:=ζf.1 hc;unfold kF at h;split at h
    .rename_i L B;obtain⟨ys,C,rs⟩:=nq gd.N r.slot ha B;have D:=iK gd.N hr C;simp only at h
     cases k with
     | p p=>
      cases p with
      | slice size lo hi=>
       simp only at h;split at h
       .rename_i d bs;split at h
        .simp at h
        rename_i ar;obtain⟨y,ν',h1,h2,h3,h4⟩:=LD (N:=S.N) (Rv:=λid=>∃b j,place=some (b,j)/\id=b+j) r rs h
        obtain⟨g1,g2⟩:=D;exact⟨0,y,H,ν',Z,λq _=>by unfold cH;rw[g1];simp only[<-gd.E,xm (g2 y h1),Option.map_some],h2,h3,h4,λhd=>absurd hd ar⟩
       exact L8 gd hk r rs D h
      | _=>exact L8 gd hk r rs D h
     | r q=>
      simp only at h;split at h
      .rename_i W;obtain⟨x,hx,e⟩:=ζf.1 h;simp only[ζc]at e;obtain⟨rfl,rfl⟩:=e;obtain⟨g1,g2⟩:=D;have au:∀kk z ok,q=.lookup kk z ok->z.good=true:=λkk z ok e=>by subst e;simpa [zD]using hk
       have ab:∀s a,q≠.loadF s a:=λs a e=>by subst e;exact Es hr
       cases place with
       | none=>
        obtain⟨y,hy,ad⟩:=uD ab au rs (λd _ ob hd=>r.obj d ob hd) hx
        exact⟨0,y,H,ν,Z,λq _=>by unfold cH;rw[g1];simp only[<-gd.E,g2 H y hy,Option.map_some],r,ad,.refl,λ_=>⟨rfl,.refl⟩⟩
       | some O=>
        obtain⟨b,j⟩:=O;obtain⟨ay,aq,ai⟩:=hold b j rfl;have u:dr=true:=G;subst u;have I:=hi b j rfl;subst I;simp only[Bool.not_true,Bool.false_or,Bool.true_and]at W;have aA:mm ops j F o.op=true:=Lm hr λn ag a' e1 e2 t e3=>by
         by_cases Q:dm ops j=true
         .exact B0 (aF b j rfl) e3 Q
         exact aI n ag a' rfl (by simpa using Q) e1 e2
        by_cases Q:dm ops j=true
        .obtain⟨y,hy,ad⟩:=uD ab au rs (λd _ ob hd=>r.obj d ob hd) hx
         have hH:=g2 H y hy;refine⟨0,y,H,ν,Z,λq _=>?_,r,ad,.refl,λ_=>⟨rfl,.refl⟩⟩
         unfold cH;rw[g1];simp only[<-gd.E,aA,if_true];split
         next v hv=>have:=xK hv;rw[hH]at this;cases this;rfl
         rw[if_pos Q,hH];rfl
        have ap:eB fr L=true:=by simpa [Q]using W
        have aa:∀id,Z id->Z id/\bq (H.take b) id=bq H id:=λid h=>⟨h,mb (ai id h)⟩
        have aB:∀id,Z id->Z id/\bq H id=bq (H.take b) id:=λid h=>⟨h,(mb (ai id h)).symm⟩
        obtain⟨y,hy,ad⟩:=uD (H:=H.take b) ab au (rs.mono aa λe _=>iq ν st.m e) (λd hd ob aC=>by
         have ab:d∉fr:=λhf=>by rw[mC ap d hf]at hd;cases hd
         exact cI.mono aa rfl (λj hb=>List.getElem?_take_of_lt (aq d ob j aC hb ab)) (λe _=>iq ν st.m e) (r.obj d ob aC)) hx
        refine⟨0,y,H,ν,Z,λq _=>?_,r,ad.mono aB (λe _=>iq ν st.m e),.refl,λ_=>⟨rfl,.refl⟩⟩
        unfold cH;rw[g1];simp only[<-gd.E,g2 (H.take b) y hy,aA,if_true]
      simp at h
     | a q=>
      simp only at h;split at h
      .rename_i d hd;split at h
       .rename_i Y;obtain⟨⟨ob,x⟩,hx,e⟩:=ζf.1 h;simp only[ζc]at e;obtain⟨rfl,rfl⟩:=e;obtain⟨ae,mk,e1,e2,T,e3,e4⟩:=KK hk rs hx;obtain⟨g1,g2⟩:=D;obtain⟨n1,n2,n3,n4⟩:=jb Y;have av:∀p:Nat×Nat,∀e,SV.c9 e L=true->∀aj,bh (bB st.m d ob) e=some aj->∃ob,bh st.m e=some ob/\fV ν d p e=ν e/\sameShape ob aj:=λp e he=>by
         refine xw ?_;rintro rfl;have:∀{xs:a_ Arg} {vs:a_ SV},bQ S.N st.g xs=some vs->SV.c9 e vs=false:=by
          intro xs
          induction xs with
          | nil=>intro vs h;simp only[bQ,ζa]at h;subst h;rfl
          | cons a xs ih=>
           intro vs h;simp only[bQ]at h;split at h
           .rename_i v aU h1 h2;simp only[ζa]at h;subst h;simp only[SV.c9,Bool.or_eq_false_iff];refine⟨?_,ih h2⟩
            cases a with
            | s n=>exact w9 n3 h1
            | k c=>simp only[pn,ζa]at h1;subst h1;rfl
            | f s=>simp only[pn,ζa]at h1;subst h1;rfl
           simp at h
         rw[this B]at he;cases he
        have fin:∀(id:Nat) (Hn:bp),H.length<=Hn.length->Hn[id]? = some ae->(∀k,k<H.length->k≠id->Hn[k]? = H[k]?)->(∀k,ez ν st.m k->k≠id)->(∀k,Z k->k≠id) ->
         R (fV ν d (id,0)) Z { st with m:=bB st.m d ob } F Hn/\cF (fV ν d (id,0)) (bB st.m d ob) Hn Z x (mk.val id)/\(∀k,Z k->bq Hn k=bq H k):=λid Hn hl aM J ho hz=>by
         have aa:∀k,Z k->bq Hn k=bq H k:=λk hk=>by unfold bq;rw[J k (r.tw hk) (hz k hk)]
         obtain⟨a1,a2⟩:=e4 id (fV ν d (id,0)) (bB st.m d ob) Hn (gz _ _ _) (bW _ _ _) aM aa (av _);have r2:R ν Z st F Hn:=r.heap (λk hk=>J k (r.lt hk) (ho k hk)) aa
         exact⟨r2.add Y (λ_=>⟨λh=>ho _ h rfl,λh=>hz _ h rfl⟩) a1 T,a2,aa⟩
        have aD:o.dst=some d:=hd
        cases place with
        | none=>
         obtain⟨f1,f2,f3⟩:=fin H.length (H++[ae]) Zc Zc (λk hk _=>List.getElem?_append_left hk) (λk hk=>Nat.ne_of_lt (r.lt hk)) (λk hk=>Nat.ne_of_lt (r.tw hk))
         refine⟨0,mk.val H.length,H++[ae],fV ν d (H.length,0),Z,λq _=>?_,f1,f2,Ev.add Y Zc (λk hk _=>List.getElem?_append_left hk) f3 (λ_=>.inr (Nat.le_refl _)) T,λhh=>?_⟩
         .unfold cH;rw[g1];simp only[al,Bool.false_eq_true,if_false,<-gd.E,g2 _ e1]
         rw[G]at hh;cases hh
        | some O=>
         obtain⟨b,j⟩:=O;have hf:=am b j rfl g1;have aN:=(ζe.1 hf).1;have nf:∀k,ez ν st.m k->k≠b+j:=λk hk e=>by
          subst e;obtain⟨d',aj,j',w1,w2,w3⟩:=hk;exact(r.obj d' aj w1).free w2 (w3▸hf)
         have nz:∀k,Z k->k≠b+j:=λk hk e=>by
          subst e;have:=r.zrow _ hk;unfold bq at this;rw[hf]at this;simp[Ob.rows]at this
         obtain⟨f1,f2,f3⟩:=fin (b+j) (H.set (b+j) ae) Zc (by rw[List.getElem?_set_self aN]) (λk _ hk=>by rw[List.getElem?_set,if_neg (Ne.symm hk)]) nf nz
         refine⟨0,mk.val (b+j),H.set (b+j) ae,fV ν d (b+j,0),Z,λq _=>?_,f1,f2,Ev.add Y Zc (λk _ hk=>?_) f3 (λ_=>.inl ⟨b,j,rfl,rfl⟩) T,λ_=>⟨rfl,?_⟩⟩
         .unfold cH;rw[g1];simp only[al,Bool.false_eq_true,if_false,<-gd.E,g2 _ e1,hf]
         .rw[List.getElem?_set,if_neg λe=>hk ⟨b,j,rfl,e.symm⟩]
         have:w8 ⟨o.dst,g,dr&&dm ops j,.a q,az,[],[]⟩=some d:=aD;have I:=hi b j rfl;subst I;rw[this];exact Kept.add λ_ _ h=>h
       simp at h
      simp at h
     | l q=>
      simp only at h;split at h
      .rename_i W;obtain⟨y,H',ν',e1,e2,e3,e4,e5⟩:=AS r rs h;obtain⟨g1,g2⟩:=D;refine⟨0,y,H',ν',Z,λq _=>?_,e2,e3,e4.weak (λ_ h=>h.elim),λ_=>⟨rfl,e5⟩⟩
       unfold cH;rw[g1];simp only[<-gd.E]
       cases place with
       | none=>exact g2 _ _ e1
       | some O=>
        obtain⟨b,j⟩:=O;have u:dr=true:=G;subst u;have I:=hi b j rfl;subst I;have Q:dm ops j=true:=by simpa using W
        simp only[Q,if_true];exact g2 _ _ e1
      simp at h
     | e n=>exact D.elim
     | b=>
      simp only at h;split at h
      .cases h
      rename_i ar;have aO:dr=false:=by simpa using ar
      have aP:place=none:=by
       cases place with
       | none=>rfl
       | some O=>rw[aO]at G;simp at G
      subst aP;split at h
      next x=>obtain⟨xs,h1,h2⟩:=ζg.1 h;obtain⟨l,h3,e⟩:=ζf.1 h2;simp only[ζc]at e;obtain⟨rfl,rfl⟩:=e;obtain⟨g1,y,e1,g2⟩:=D;obtain⟨y',_,e2,r1,r2⟩:=rs.inv;rw[e1]at e2;cases e2;obtain⟨zs,k1,k2⟩:=tF r1 r.obj h1;have hz:oH zs=some l:=yg k2 h3;obtain⟨q1,q2⟩:=g2 H zs l k1 hz;exact⟨0,_,H,ν,Z,λq _=>by unfold cH;rw[g1];simp only[qM,<-gd.E,q1,q2,Option.map_some],r,.v _ _ (.same _ rfl),.refl,λ_=>⟨rfl,.refl⟩⟩
      cases h
     | c=>
      simp only at h;obtain⟨g1,f',aV,e1,e2⟩:=D;have go:∀(f:FuncId) (args:a_ SV) (ak:a_ V),bS ν st.m H Z args ak->jm F o.op=some (.fn f,ak)->eO S c o.dst dr (!dr||(dr&&dm ops i)) (eM st.m fr) f args st=some (sv,st') ->
       BG S ops place dr F o.op (w8 ⟨o.dst,g,dr&&dm ops i,.c,az,[],[]⟩) ν Z st H sv st':=λf args ak aQ aE aR=>by
       obtain⟨n,y,H',ν',Z',p1,p2,p3,p4,p5⟩:=Ns (ops:=ops) (Rv:=λid=>∃b j,place=some (b,j)/\id=b+j) hS gd.prm G (λb j hp hn=>by
        have:=hi b j hp;subst this;simp only[ζh]at hn;exact hn.2) (λb j hp hn=>by have:=hi b j hp;subst this;rw[G,hp]at hn;simpa using hn) (λb j hp=>(hold b j hp).2) r aQ aR
       refine⟨n,y,H',ν',Z',λq hq=>?_,p2,p3,p4,p5⟩
       have aS:uG ops place ak=true:=by
        cases place with
        | none=>rfl
        | some O=>simp only[uG,hi _ _ rfl,aw G g1];rfl
       unfold cH;rw[g1];simp only[aE,aS,if_true];exact p1 q hq
      split at h
      next f a b vs=>obtain⟨w,ws,ew,r1,r2⟩:=rs.inv;rw[ew]at e1;simp only[List.cons.injEq]at e1;obtain⟨rfl,rfl⟩:=e1;obtain⟨a',b',rfl,ra,rb⟩:=r1.j7;exact go f _ _ ((ra.append r2).append rb) e2 h
      next f a b vs=>obtain⟨w,ws,ew,r1,r2⟩:=rs.inv;rw[ew]at e1;simp only[List.cons.injEq]at e1;obtain⟨rfl,rfl⟩:=e1;obtain⟨a',b',rfl,ra,rb⟩:=r1.fr.j7;exact go f _ _ (((bS.oM ra).append r2).append (bS.oM rb)) e2 h
      simp at h
    simp at h
   simp at hc
  simp at hc
 simp at hc
end
end Go.VE
