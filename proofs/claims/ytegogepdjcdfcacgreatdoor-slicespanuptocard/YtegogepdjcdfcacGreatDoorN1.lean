/-
 The second layer: named objects in the place of rows; texts, calls, iterators.
-/
import Derived.Test.YtegogepdjcdfcacGreatDoorV2
set_option linter.all false
namespace Go.VE
variable [bO]
inductive Fl where|nil|emp|row|part
 deriving DecidableEq,Inhabited
inductive SV where
 | v (x:V)
 | own (d:Nat)
 | ptr (d off:Nat)
 | el (d i off:Nat)
 | mp (d:Nat)
 | clo (f:FuncId) (a b:List SV)
 | tup (l:List SV)
 | agg (l:List SV)
 | yl (id:Nat)
 deriving Inhabited
inductive bu where
 | sl (k:Fl) (es:Nat) (xs:List (List V))
 | box (cs:List SV)
 | mp (kvs:List (V×V))
 | dp (k:Fl) (xs:List (List V)) (h:Option (Nat×Nat))
abbrev Tb (α:Type):=a_ (Nat×α)
def bl {α:Type}:Tb α->Nat->bf α
 | [],_=>none
 | (k,v)::r,n=>if k=n then some v else bl r n
def bA {α:Type}:Tb α->Nat->α->Tb α
 | [],n,v=>[(n,v)]
 | (k,x)::r,n,v=>if k=n then(k,v)::r else(k,x)::bA r n v
def cz {α:Type} (n:Nat):Tb α->Tb α
 | []=>[]
 | (k,x)::r=>if k=n then cz n r else(k,x)::cz n r
def oO {α:Type}:a_ Nat->Tb α->Tb α
 | [],g=>g
 | d::ds,g=>oO ds (cz d g)
def wG {α:Type}:Tb α->a_ Nat->a_ α->Tb α
 | g,p::ps,v::vs=>wG (bA g p v) ps vs
 | g,_,_=>g
def jr {α:Type} (g:Tb α):a_ Nat->bf (Tb α)
 | []=>some []
 | n::r=>match bl g n,jr g r with
  | some v,some t=>some ((n,v)::t)
  | _,_=>none
structure St where
 g:Tb SV
 m:Tb bu
 pin:List Nat
 want:List (List V)
 more:Bool
 yid:Nat
structure ED where
 part:Bool
 go:Nat->List (List V)->List V->Option (List (List V))
structure Sys where
 E:Env
 N:Nat->FuncId
 items:FuncId->List V->List V->Option (List (List V))
 zR:FuncId->List V->Option V
 prm:FuncId->Option ED
inductive Arg where
 | s (n:Nat)
 | k (c:V)
 | f (name:Nat)
inductive Loc where
 | s (n:Nat)
 | c (b i:Nat)
inductive Gh where
 | melt (d:Nat)
 | take (d:Nat) (i:Loc) (es t:Nat)
 | put (d:Nat)
 | close (d:Nat)
 | closeB (d:Nat)
 | canon (l:Loc) (d:Nat) (es:Nat)
 | keep (gs ms:List Nat)
 | drop (ds:List Nat)
 | closeS (l:Loc)
structure RO where
 dst:Option Nat
 gd:Option (Nat×Bool)
 now:Bool
 k:K
 az:List Arg
 dead:List Nat:=[]
 pre:List Gh:=[]
inductive RC where
 | skip
 | ops (l:List RO)
 | sV (l:List RO)
 | seq (a b:RC)
 | cond (x:Arg) (a b:RC)
 | block (id:Nat) (c:RC)
 | loop (c:RC)
 | each (g:Arg) (ps:List Nat) (a b:RC)
 | exit (id:Nat)
 | ret
 | gh (x:Gh) (c:RC)
 | hg (c:RC) (x:Gh)
inductive RV where
 | s (n:Nat)
 | ld (n size:Nat) (agg:Bool)
structure RF where
 na:Nat
 rs:List RV
 body:RC
mutual
def SV.ct (d:Nat):SV->Bool
 | .v _=>false
 | .own e=>e==d
 | .ptr e _=>e==d
 | .el e _ _=>e==d
 | .mp e=>e==d
 | .clo _ a b=>SV.c6 d a||SV.c6 d b
 | .tup l=>SV.c6 d l
 | .agg l=>SV.c6 d l
 | .yl _=>false
def SV.c6 (d:Nat):a_ SV->Bool
 | []=>false
 | x::r=>SV.ct d x||SV.c6 d r
end
def bu.ct (d:Nat):bu->Bool
 | .box cs=>SV.c6 d cs
 | .dp _ _ (some (_,t))=>t==d
 | _=>false
def tQ (d:Nat):Tb SV->Bool
 | []=>false
 | (_,x)::r=>SV.ct d x||tQ d r
def rX (d:Nat):Tb bu->Bool
 | []=>false
 | (_,x)::r=>bu.ct d x||rX d r
def St.new (st:St) (d:Nat):Bool := !(st.pin.contains d)&&(bl st.m d).isNone && !(tQ d st.g) && !(rX d st.m)
mutual
def SV.rF (d e:Nat):SV->SV
 | .v x=>.v x
 | .own k=>.own (if k=d then e else k)
 | .ptr k o=>.ptr (if k=d then e else k) o
 | .el k i o=>.el (if k=d then e else k) i o
 | .mp k=>.mp (if k=d then e else k)
 | .clo f a b=>.clo f (SV.u6 d e a) (SV.u6 d e b)
 | .tup l=>.tup (SV.u6 d e l)
 | .agg l=>.agg (SV.u6 d e l)
 | .yl id=>.yl id
def SV.u6 (d e:Nat):a_ SV->a_ SV
 | []=>[]
 | x::r=>SV.rF d e x::SV.u6 d e r
end
def bu.rF (d e:Nat):bu->bu
 | .box cs=>.box (SV.u6 d e cs)
 | .dp k xs (some (i,t))=>.dp k xs (some (i,if t=d then e else t))
 | o=>o
def zg (d e:Nat):Tb SV->Tb SV
 | []=>[]
 | (n,x)::r=>(n,x.rF d e)::zg d e r
def uZ (d e:Nat):Tb bu->Tb bu
 | []=>[]
 | (n,x)::r=>((if n=d then e else n),x.rF d e)::uZ d e r
mutual
def SV.sub (d:Nat) (w:V):SV->SV
 | .own k=>if k=d then .v w else .own k
 | .clo f a b=>.clo f (SV.s_ d w a) (SV.s_ d w b)
 | .tup l=>.tup (SV.s_ d w l)
 | .agg l=>.agg (SV.s_ d w l)
 | x=>x
def SV.s_ (d:Nat) (w:V):a_ SV->a_ SV
 | []=>[]
 | x::r=>SV.sub d w x::SV.s_ d w r
end
def cV:a_ SV->bf (a_ V)
 | []=>some []
 | .v x::r=>(cV r).map (x::·)
 | _::_=>none
def OC (f:FuncId) (a b:a_ SV):SV:=
 match cV a,cV b with
 | some x,some y=>.v (.clo f x y)
 | _,_=>.clo f a b
mutual
def SV.B9 (d:Nat) (cs:a_ V):SV->SV
 | .ptr k o=>if k=d then(if o<=cs.length then .v (.fptr (cs.drop o))else .ptr k o)else .ptr k o
 | .clo f a b=>OC f (SV.qL d cs a) (SV.qL d cs b)
 | .tup l=>.tup (SV.qL d cs l)
 | .agg l=>.agg (SV.qL d cs l)
 | x=>x
def SV.qL (d:Nat) (cs:a_ V):a_ SV->a_ SV
 | []=>[]
 | x::r=>SV.B9 d cs x::SV.qL d cs r
end
def y_ (f:SV->SV):Tb SV->Tb SV
 | []=>[]
 | (n,x)::r=>(n,f x)::y_ f r
def mapM (f:a_ SV->a_ SV):Tb bu->Tb bu
 | []=>[]
 | (n,.box cs)::r=>(n,.box (f cs))::mapM f r
 | (n,o)::r=>(n,o)::mapM f r
mutual
def SV.names:SV->a_ Nat
 | .own d|.ptr d _|.el d _ _|.mp d=>[d]
 | .clo _ a b=>SV.vX a++SV.vX b
 | .tup l=>SV.vX l
 | .agg l=>SV.vX l
 | _=>[]
def SV.vX:a_ SV->a_ Nat
 | []=>[]
 | x::r=>SV.names x++SV.vX r
end
def pJ:Tb SV->a_ Nat
 | []=>[]
 | (_,x)::r=>SV.names x++pJ r
def jK (k:Fl) (es:Nat) (xs:a_ (a_ V)):V:=
 match k with
 | .nil=>.bN
 | .emp=>.c_
 | _=>.fsl es xs
mutual
def V.lvl:Nat->V->Bool
 | n,.fsl _ xs=>match n with|0=>false|n+1=>V.oJ n xs
 | n,.fptr cs=>match n with|0=>false|n+1=>V.kV n cs
 | n,.fmap u=>match n with|0=>false|n+1=>V.sJ n u
 | n,.agg cs=>match n with|0=>false|n+1=>V.kV n cs
 | n,.tup cs=>match n with|0=>false|n+1=>V.kV n cs
 | n,.clo _ a b=>match n with|0=>false|n+1=>V.kV n a&&V.kV n b
 | _,_=>true
def V.kV:Nat->a_ V->Bool
 | _,[]=>true
 | n,x::r=>V.lvl n x&&V.kV n r
def V.oJ:Nat->a_ (a_ V)->Bool
 | _,[]=>true
 | n,x::r=>V.kV n x&&V.oJ n r
def V.sJ:Nat->a_ (V×V)->Bool
 | _,[]=>true
 | n,(k,x)::r=>V.lvl n k&&V.lvl n x&&V.sJ n r
end
mutual
def shut (m:Tb bu):Nat->SV->bf V
 | _,.v x=>some x
 | _,.own d=>match bl m d with
  | some (.sl k es xs)=>some (jK k es xs)
  | some (.dp k xs none)=>some (jK k 1 xs)
  | _=>none
 | n+1,.ptr d o=>match bl m d with
  | some (.box cs)=>match cO m n cs with
   | some xs=>if o<=xs.length then some (.fptr (xs.drop o))else none
   | none=>none
  | _=>none
 | _,.mp d=>match bl m d with
  | some (.mp u)=>some (.fmap u)
  | _=>none
 | n+1,.clo f a b=>match cO m n a,cO m n b with
  | some x,some y=>some (.clo f x y)
  | _,_=>none
 | n+1,.tup l=>(cO m n l).map .tup
 | n+1,.agg l=>(cO m n l).map .agg
 | _,_=>none
def cO (m:Tb bu):Nat->a_ SV->bf (a_ V)
 | _,[]=>some []
 | n,x::r=>match shut m n x,cO m n r with
  | some y,some s=>some (y::s)
  | _,_=>none
end
end Go.VE
namespace Go.VE
variable [bO]
mutual
def V.good:V->Bool
 | .hsl ..|.hptr ..|.yld ..|.hmap ..=>false
 | .fsl _ xs=>V.mz xs
 | .fptr cs=>V.cQ cs
 | .fmap u=>V.sL u
 | .clo _ a b=>V.cQ a&&V.cQ b
 | .agg cs=>V.cQ cs
 | .tup cs=>V.cQ cs
 | _=>true
def V.cQ:a_ V->Bool
 | []=>true
 | x::r=>V.good x&&V.cQ r
def V.mz:a_ (a_ V)->Bool
 | []=>true
 | x::r=>V.cQ x&&V.mz r
def V.sL:a_ (V×V)->Bool
 | []=>true
 | (k,x)::r=>V.good k&&V.good x&&V.sL r
end
abbrev c7:=Tb bu
abbrev bU:=FuncId->a_ SV->c7->bf (a_ SV×c7)
def qj (N:Nat->FuncId) (g:Tb SV):Arg->bf SV
 | .s n=>bl g n
 | .k c=>some (.v c)
 | .f s=>some (.v (.clo (N s) [] []))
def bV (N:Nat->FuncId) (g:Tb SV):a_ Arg->bf (a_ SV)
 | []=>some []
 | x::r=>match qj N g x,bV N g r with
  | some v,some vs=>some (v::vs)
  | _,_=>none
def bQ:Fl->Bool
 | .row|.part=>true
 | _=>false
def kI (m:Tb bu):SV->Bool
 | .own d|.ptr d _|.el d _ _|.mp d=>(bl m d).isSome
 | .clo ..=>true
 | _=>false
def wq (m:Tb bu):SV->Bool
 | .v x=>x.one
 | x=>kI m x
def xI (m:Tb bu):SV->bf (a_ SV)
 | .v x=>some (x.cells.map .v)
 | .agg l=>some l
 | x=>if kI m x then some [x]else none
def rU (m:Tb bu) (cells:a_ SV):a_ (Nat×Nat)->a_ SV->bf (a_ SV)
 | [],[]=>some cells
 | (off,size)::pl,v::vs=>match xI m v with
  | some c=>if c.length=size/\off+c.length<=cells.length then rU m (cells.take off++c++cells.drop (off+c.length)) pl vs else none
  | none=>none
 | _,_=>none
def vk (size:Nat) (agg:Bool) (cs:a_ SV):bf SV:=
 if cs.length=size then
  if agg then match cV cs with
   | some t=>some (.v (.agg t))
   | none=>some (.agg cs)
  else match cs with
   | [x]=>some x
   | _=>none
 else none
def wW (N:Nat->FuncId) (m:Tb bu):u_->a_ SV->bf SV
 | .id,[x]=>some x
 | .nilc,[.ptr d o]=>if(bl m d).isSome then some (.ptr d o)else none
 | .nilc,[.el d i o]=>if(bl m d).isSome then some (.el d i o)else none
 | .pick,[.v (.bool t),a,b]=>some (if t then a else b)
 | .bin (some .slice) _ .eql,[.own d,.v .bN]=>match bl m d with
  | some (.sl k _ _)=>if k=.emp then none else some (.v (.bool (k==.nil)))
  | _=>none
 | .bin (some .slice) _ .neq,[.own d,.v .bN]=>match bl m d with
  | some (.sl k _ _)=>if k=.emp then none else some (.v (.bool (!(k==.nil))))
  | _=>none
 | .fieldAddr off,[.ptr d o]=>if(bl m d).isSome then some (.ptr d (o+off))else none
 | .fieldAddr off,[.el d i o]=>if(bl m d).isSome then some (.el d i (o+off))else none
 | .idxS size,[.own d,.v (.int _ i)]=>match bl m d with
  | some (.sl k es xs)=>if bQ k/\es=size/\0<=i/\i.toNat<xs.length then some (.el d i.toNat 0)else none
  | some (.dp k xs _)=>if bQ k/\1=size/\0<=i/\i.toNat<xs.length then some (.el d i.toNat 0)else none
  | _=>none
 | .idxA len size,[.ptr d o,.v (.int _ i)]=>if 0<=i/\i<len/\(bl m d).isSome then some (.ptr d (o+i.toNat*size))else none
 | .idxA len size,[.el d j o,.v (.int _ i)]=>if 0<=i/\i<len/\(bl m d).isSome then some (.el d j (o+i.toNat*size))else none
 | .lenSl,[.own d]=>match bl m d with
  | some (.sl _ _ xs)=>some (.v (.int .i64 xs.length))
  | some (.dp _ xs _)=>some (.v (.int .i64 xs.length))
  | _=>none
 | .clo name k,vs=>some (.clo (N name) (vs.take k) (vs.drop k))
 | .ext i,[.tup l]=>l[i]?
 | .build zero pl,vs=>(rU m (zero.map .v) pl vs).map .agg
 | .field off size agg,[.agg l]=>vk size agg ((l.drop off).take size)
 | _,_=>none
def jl (N:Nat->FuncId) (m:Tb bu) (p:u_) (svs:a_ SV):bf SV:=
 match cV svs with
 | some t=>(bS N p t).map .v
 | none=>wW N m p svs
def Ky (m:Tb bu) (d:Nat):SV->Bool
 | .ptr u _=>u != d&&(match bl m u with|some (.box _)=>true|_=>false)
 | .v (.fptr _)=>true
 | _=>false
def oI (m:Tb bu):Jr->a_ SV->bf SV
 | .load size agg,[.ptr d o]=>match bl m d with
  | some (.box cs)=>vk size agg ((cs.drop o).take size)
  | _=>none
 | .load size agg,[.el d i o]=>match bl m d with
  | some (.sl _ _ xs)=>match xs[i]? with
   | some cs=>((cut cs o size).bind (mk agg)).map .v
   | none=>none
  | some (.dp _ _ (some (j,t)))=>if j=i/\o=0/\size=1/\agg=false then some (.own t)else none
  | _=>none
 | .load size agg,[.v p]=>((dX [] p size).bind (mk agg)).map .v
 | .lookup kk z ok,[.mp d,.v k]=>match bl m d with
  | some (.mp u)=>if oZ kk k then match ij k u 0 with
   | some (some (_,v))=>some (.v (if ok then .tup [v,.bool true]else v))
   | some none=>some (.v (if ok then .tup [z,.bool false]else z))
   | none=>none
   else none
  | _=>none
 | .lookup kk z ok,[.v p,.v k]=>(eP [] (.lookup kk z ok) [p,k]).map .v
 | .loadF size agg,.ptr d o::l=>if l.all (Ky m d)=true then match bl m d with
  | some (.box cs)=>vk size agg ((cs.drop o).take size)
  | _=>none
  else none
 | _,_=>none
def eH (fr:a_ Nat):a_ SV->Bool
 | []=>true
 | .v _::r=>eH fr r
 | .ptr d _::r => !(fr.contains d)&&eH fr r
 | .el d _ _::r => !(fr.contains d)&&eH fr r
 | .mp d::r => !(fr.contains d)&&eH fr r
 | _=>false
def mw (m:Tb bu) (a:Mi) (svs:a_ SV) (d:Nat):bf (bu×SV):=
 match a,svs with
 | .alloc _ zero,[]=>some (.box (zero.map .v),.ptr d 0)
 | .box,[.v x]=>if x.cells.all V.one then some (.box (x.cells.map .v),.ptr d 0)else none
 | .box,[.agg l]=>if l.all (wq m)then some (.box l,.ptr d 0)else none
 | .box,[x]=>if kI m x then some (.box [x],.ptr d 0)else none
 | .makeSl size zero,[.v (.int k n),.v (.int z c)]=>
  if k=.i64/\z=.i64/\0<=n/\n<=c/\c<=2147483648 then some (.sl (if n=c then .row else .part) size (List.replicate n.toNat zero),.own d)else none
 | .buildSl size len zero idx,u=>match cV u with
  | some w=>if idx.length=w.length then(eV size (List.replicate len zero) (idx.zip w)).map λB=>(.sl .row size B,.own d)else none
  | none=>match u,zero with
   | [.own t],[.bN]=>if idx=[0]/\len=1/\size=1/\(bl m t).isSome then some (.dp .row [[.bN]] (some (0,t)),.own d)else none
   | _,_=>none
 | .makeMap,[]=>some (.mp [],.mp d)
 | _,_=>none
def iM (m:Tb bu) (size:Nat):SV->bf (a_ (a_ V))
 | .own d=>match bl m d with
  | some (.sl k es xs)=>if bQ k then(if es=size then some xs else none)else some []
  | _=>none
 | .v .bN=>some []
 | .v .c_=>some []
 | .v (.fsl es xs)=>if es=size then some xs else none
 | _=>none
def G6:SV->Bool
 | .own _|.v .bN|.v .c_=>true
 | _=>false
def putCells (m:Tb bu) (size o:Nat) (sv:SV) (cs:a_ SV):bf (a_ SV):=
 match sv with
 | .v x=>if x.cells.length=size/\o+size<=cs.length/\x.cells.all V.one=true then some (cs.take o++x.cells.map .v++cs.drop (o+size))else none
 | .agg l=>if l.length=size/\o+size<=cs.length/\l.all (wq m)=true then some (cs.take o++l++cs.drop (o+size))else none
 | x=>if kI m x=true/\size=1/\o+1<=cs.length then some (cs.take o++[x]++cs.drop (o+1))else none
def giveUp (m:Tb bu):SV->Tb bu
 | .own d=>cz d m
 | _=>m
def vI (d:Nat) (st:St):bf St:=
 match bl st.m d with
 | some (.dp k w (some (i,t)))=>match bl st.m t with
  | some (.sl u es z)=>if u≠.part/\t≠d/\bQ k=true then some { st with m:=bA (cz t st.m) d (.dp k (w.set i [jK u es z]) none) } else none
  | _=>none
 | none=>some st
 | _=>none
def ug (st:St) (dst:bf Nat) (size:Nat) (s x:SV):bf (SV×St):=
 match s,x,dst with
 | .own d,.own e,some t=>match bl st.m d,bl st.m e with
  | some (.dp k w none),some (.dp .row u none)=>
   if size=1/\d≠e/\u≠[]/\w.length+u.length<=2147483648 then
    let z:=cz e (cz d st.m)
    if St.new { st with m:=z } t then some (.own t,{ st with m:=bA z t (.dp .row (w++u) none) })else none
   else none
  | _,_=>none
 | _,_,_=>none
def vV (st:St) (dst:bf Nat) (size:Nat) (s x:SV):bf (SV×St):=
 match x with
 | .own e=>match bl st.m e with
  | some (.dp _ _ (some _))=>match vI e st with
   | some t=>ug t dst size s (.own e)
   | none=>none
  | _=>ug st dst size s (.own e)
 | _=>none
def jC (st:St) (dst:bf Nat):Ke->a_ SV->bf (SV×St)
 | .store size,[.ptr d o,x]=>match bl st.m d with
  | some (.box cs)=>(putCells st.m size o x cs).map λcs=>(.v .undef,{ st with m:=bA st.m d (.box cs) })
  | _=>none
 | .store size,[.el d i o,.v x]=>match bl st.m d with
  | some (.sl k es xs)=>match xs[i]? with
   | some cs=>if x.cells.length=size/\o+size<=cs.length/\x.cells.all V.one=true then
    some (.v .undef,{ st with m:=bA st.m d (.sl k es (xs.set i (cs.take o++x.cells++cs.drop (o+x.cells.length)))) })else none
   | none=>none
  | _=>none
 | .store size,[.el d i o,.own t]=>match bl st.m d with
  | some (.dp k xs (some (j,_)))=>if j=i/\o=0/\size=1/\(bl st.m t).isSome/\t≠d then some (.v .undef,{ st with m:=bA st.m d (.dp k xs (some (i,t))) })else none
  | _=>none
 | .mapUp kk,[.mp d,.v k,.v x]=>match bl st.m d with
  | some (.mp u)=>if oZ kk k then(oT k x u).map λu=>(.v .undef,{ st with m:=bA st.m d (.mp u) })else none
  | _=>none
 | .append size,[s,x]=>match iM st.m size s,iM st.m size x with
  | some _,some []=>match dst with
   | some t=>match s with
    | .own d=>match bl st.m d with
     | some ob=>if St.new { st with m:=cz d st.m } t then some (.own t,{ st with m:=bA (cz d st.m) t ob })else none
     | none=>none
    | .v .bN=>if st.new t then some (.own t,{ st with m:=bA st.m t (.sl .nil size []) })else none
    | .v .c_=>if st.new t then some (.own t,{ st with m:=bA st.m t (.sl .emp size []) })else none
    | _=>none
   | none=>none
  | some xs,some ys=>
   if xs.length+ys.length<=2147483648/\G6 s=true then
    let m1:=giveUp st.m s
    match dst with
    | some t=>if St.new { st with m:=m1 } t then some (.own t,{ st with m:=bA m1 t (.sl .row size (xs++ys)) })else none
    | none=>none
   else none
  | _,_=>vV st dst size s x
 | .storeF size,.ptr d o::x::l=>if l.all (Ky st.m d)=true then match bl st.m d with
  | some (.box cs)=>(putCells st.m size o x cs).map λcs=>(.v .undef,{ st with m:=bA st.m d (.box cs) })
  | _=>none
  else none
 | _,_=>none
def zw (st:St) (dst:bf Nat) (size:Nat) (B D:Bool) (d:Nat) (G:a_ SV):bf (SV×St):=
 match bl st.m d,cV G,dst with
 | some (.sl k es u),some z,some t=>
  if bQ k=true/\es=size then
   (mO B D z).bind λ(l,h)=>(dH u.length l h).bind λ(l,h)=>
    let w:=cz d st.m
    if St.new { st with m:=w } t then some (.own t,{ st with m:=bA w t (.sl .part es ((u.take h).drop l)) })else none
  else none
 | _,_,_=>none
def AH:a_ SV->SV
 | [x]=>x
 | l=>.tup l
mutual
def SV.zc:SV->a_ Nat
 | .v _=>[]
 | .own e=>[e]
 | .ptr e _=>[e]
 | .el e _ _=>[e]
 | .mp e=>[e]
 | .clo _ a b=>SV.rm a++SV.rm b
 | .tup l=>SV.rm l
 | .agg l=>SV.rm l
 | .yl _=>[]
def SV.rm:a_ SV->a_ Nat
 | []=>[]
 | x::r=>SV.zc x++SV.rm r
end
def bu.zc:bu->a_ Nat
 | .box cs=>SV.rm cs
 | .dp _ _ (some (_,t))=>[t]
 | _=>[]
def reach (m:Tb bu):Nat->a_ Nat->a_ Nat->a_ Nat
 | 0,_,seen=>seen
 | _+1,[],seen=>seen
 | n+1,d::r,seen=>if seen.contains d then reach m n r seen else reach m n ((match bl m d with|some ob=>bu.zc ob|none=>[])++r) (seen++[d])
def handed (m:Tb bu) (l:a_ SV):bf c7:=jr m (reach m 32 (SV.rm l) [])
mutual
def SV.bare:SV->Bool
 | .v x=>x.scalar
 | .clo _ a b=>SV.wu a&&SV.wu b
 | .tup l=>SV.wu l
 | .agg l=>SV.wu l
 | _=>true
def SV.wu:a_ SV->Bool
 | []=>true
 | x::r=>SV.bare x&&SV.wu r
end
def bu.bare:bu->Bool
 | .box cs=>SV.wu cs
 | _=>false
def xH (m:Tb bu) (k:Nat):Bool:=match bl m k with
 | some ob=>ob.bare
 | none=>true
def within (u:a_ Nat) (ob:bu):Bool:=ob.zc.all u.contains
def yI (u:a_ Nat) (m':c7):a_ Nat->Tb bu->bf (Tb bu)
 | [],m=>some m
 | d::r,m=>match bl m' d with
  | some ob=>if within u ob then yI u m' r (bA m d ob)else none
  | none=>none
def lM (m':c7) (l:a_ Nat) (m:Tb bu):bf (Tb bu):=yI l m' l m
def nQ (xs:a_ (a_ V)):Bool:=xs.all λx=>x.all V.scalar
def BL (q:ED) (dst:bf Nat) (args:a_ SV) (st:St):bf (SV×St):=
 match args with
 | .own d::z=>match bl st.m d,cV z with
  | some (.sl k es u),some B=>match q.go es u B with
   | some w=>if q.part then match dst with
    | some t=>if St.new { st with m:=cz d st.m } t then some (.own t,{ st with m:=bA (cz d st.m) t (if bQ k then .sl .part es w else .sl k es u) })else none
    | none=>none
    else some (.v .undef,{ st with m:=bA st.m d (if bQ k then .sl k es w else .sl k es u) })
   | none=>none
  | _,_=>none
 | _=>none
def rowsOf (m:Tb bu):a_ SV->bf (a_ Nat)
 | []=>some []
 | .v _::r=>rowsOf m r
 | .own d::r=>match bl m d with
  | some (.sl ..)=>(rowsOf m r).map (d::·)
  | _=>none
 | _=>none
def En (S:Sys) (c:bU) (f:FuncId) (args:a_ SV) (st:St):bf (SV×St):=
 match cO st.m 8 args with
 | some az=>match c f (az.map .v) []with
  | some (rs,m')=>match cO m' 8 rs with
   | some t=>if(result t).scalar||(cV args).isSome then some (.v (result t),st)else none
   | none=>none
  | none=>none
 | none=>none
def ey (S:Sys) (c:bU) (dst:bf Nat) (dr now:Bool) (old:a_ SV->Bool) (f:FuncId) (args:a_ SV) (st:St):bf (SV×St):=
 if S.E.keep f then
  if now then
   if S.E.own f then
    match cO st.m 8 args with
    | some az=>
     match c f (az.map .v) []with
     | some (rs,m')=>match cV rs with
      | some u=>if(result u).scalar then some (.v (result u),st)else none
      | none=>match rs,dst with
       | .own e::rest,some t=>match bl m' e,cV rest with
        | some (.sl .row es z),some u=>
         if V.cF u&&nQ z&&st.new t then
          some (AH (.own t::u.map .v),{ st with m:=bA st.m t (.sl .row es z) })
         else none
        | some (.sl .nil es _),some u=>if V.cF u&&st.new t then some (AH (.own t::u.map .v),{ st with m:=bA st.m t (.sl .nil es []) })else none
        | some (.sl .emp es _),some u=>if V.cF u&&st.new t then some (AH (.own t::u.map .v),{ st with m:=bA st.m t (.sl .emp es []) })else none
        | _,_=>none
       | _,_=>none
     | none=>none
    | none=>none
   else if dr&&S.E.soft f then En S c f args st
   else match S.prm f with
    | some q=>if dr then none else BL q dst args st
    | none=>match handed st.m args with
    | some os=>match c f args os with
     | some (rs,m')=>match cV rs,lM m' (os.map (·.1)) st.m with
      | some u,some w=>if dr && !(V.cF u&&os.all λx=>xH w x.1)then none else some (.v (result u),{ st with m:=w })
      | none,some w=>if dr then none else match rs,dst with
       | .own e::rest,some t=>match bl m' e,cV rest with
        | some (.sl k es z),some u=>if !(os.map (·.1)).contains e&&St.new { st with m:=w } t then some (AH (.own t::u.map .v),{ st with m:=bA w t (.sl k es z) })else none
        | _,_=>none
       | .v p::.own e::rest,some t=>match bl m' e,cV rest with
        | some (.sl k es z),some u=>if !(os.map (·.1)).contains e&&St.new { st with m:=w } t then some (.tup (.v p::.own t::u.map .v),{ st with m:=bA w t (.sl k es z) })else none
        | _,_=>none
       | _,_=>none
      | _,_=>none
     | none=>none
    | none=>none
  else if(S.E.own f||S.E.soft f)&&old args then match cO st.m 8 args with
   | some az=>match c f (az.map .v) []with
    | some (rs,m')=>match cO m' 8 rs with
     | some u=>if(result u).scalar||(cV args).isSome then some (.v (result u),st)else none
     | none=>none
    | none=>none
   | none=>none
  else none
 else match cO st.m 8 args with
  | some az=>if now||old args then
   match c f (az.map .v) []with
   | some (rs,m')=>match cO m' 8 rs with
    | some u=>if(result u).scalar||(cV args).isSome then some (.v (result u),st)
     else if now then(rowsOf st.m args).map λds=>(.v (result u),{ st with m:=oO ds st.m })
     else none
    | none=>none
   | none=>none
   else none
  | none=>none
def dR (m:Tb bu) (fr:a_ Nat) (args:a_ SV):Bool:=fr.all λd => !(SV.c6 d args) && !(rX d m)
def A3:K->Bool
 | .p (.build zero _)=>V.cQ zero
 | .r (.lookup _ z _)=>z.good
 | .a (.alloc _ zero)=>V.cQ zero&&zero.all V.one
 | .a (.makeSl _ zero)=>V.cQ zero
 | .a (.buildSl _ _ zero _)=>V.cQ zero
 | _=>true
def lG (S:Sys) (c:bU) (dr:Bool) (fr:a_ Nat) (o:RO) (st:St):bf (SV×St):=
 match bV S.N st.g o.az with
 | some t=>match o.k with
  | .p (.slice size w z)=>match t with
   | .own d::B=>if dr then none else zw st o.dst size w z d B
   | t=>(jl S.N st.m (.slice size w z) t).map λx=>(x,st)
  | .p p=>(jl S.N st.m p t).map λx=>(x,st)
  | .r r=>if !dr||o.now||eH fr t then(oI st.m r t).map λx=>(x,st)else none
  | .a a=>match o.dst with
   | some d=>if st.new d then(mw st.m a t d).map λ(ob,x)=>(x,{ st with m:=bA st.m d ob })else none
   | none=>none
  | .l l=>if !dr||o.now then jC st o.dst l t else none
  | .c=>match t with
   | .clo f a b::u=>ey S c o.dst dr (!dr||o.now) (dR st.m fr) f (a++u++b) st
   | .v (.clo f a b)::u=>ey S c o.dst dr (!dr||o.now) (dR st.m fr) f (a.map .v++u++b.map .v) st
   | _=>none
  | .b=>if dr then none else match t with
   | [x]=>(iM st.m 1 x).bind λC=>(pK C).map λl=>(.v (.str (K7 l)),st)
   | _=>none
  | .e n=>match t with
   | [.v .bN,x]=>jC st o.dst (.append n) [.v .bN,x]
   | [.v .c_,x]=>jC st o.dst (.append n) [.v .c_,x]
   | _=>none
 | none=>none
def cZ (st:St) (dst:bf Nat) (x:SV):St:=
 match dst with
 | none=>st
 | some d=>{ st with g:=bA st.g d x }
def wanted (g:Tb SV):bf (Nat×Bool)->bf Bool
 | none=>some true
 | some (s,b)=>match bl g s with
  | some (.v (.bool c))=>some (c==b)
  | some (.v _)=>some false
  | _=>none
def yM (o:RO):bf Nat:=
 match o.k with
 | .p _|.r _=>none
 | _=>o.dst
def qy (fr:a_ Nat) (o:RO):a_ Nat:=
 match yM o with
 | some d=>d::fr
 | none=>fr
def bq (H:bn) (id:Nat):bf (Nat×a_ (a_ V)):=(H[id]?).bind Ob.rows
mutual
theorem V.mQ:∀{x:V},x.good=true->x.closed=true
 | .hsl ..,h|.hptr ..,h|.yld _,h|.hmap _,h=>by simp[V.good]at h
 | .fsl ..,_|.fptr ..,_|.fmap ..,_=>rfl
 | .bool _,_|.int ..,_|.str _,_|.c_,_|.bN,_|.gN,_|.gi,_|.rK,_=>rfl
 | .clo _ a b,h=>by
  simp only[V.good,ζh]at h;simp only[V.closed,ζh];exact⟨V.nh h.1,V.nh h.2⟩
 | .agg cs,h=>by simp only[V.good]at h;simp only[V.closed];exact V.nh h
 | .tup cs,h=>by simp only[V.good]at h;simp only[V.closed];exact V.nh h
theorem V.nh:∀{l:a_ V},V.cQ l=true->V.gQ l=true
 | [],_=>rfl
 | x::r,h=>by
  simp only[V.cQ,ζh]at h;simp only[V.gQ,ζh];exact⟨V.mQ h.1,V.nh h.2⟩
end
theorem iF:∀{l:a_ V},V.cQ l=true↔∀(j:Nat) u,l[j]? = some u->u.good=true
 | []=>by simp[V.cQ]
 | x::l=>by
  simp[V.cQ,iF ];constructor
  .grind
  intro h;exact⟨h 0 x rfl,λj u hu=>h (j+1) u Zd⟩
theorem j9:∀{l:a_ (a_ V)},V.mz l=true↔∀(j:Nat) u,l[j]? = some u->V.cQ u=true
 | []=>by simp[V.mz]
 | x::l=>by
  simp[V.mz,j9 ];constructor
  .grind
  intro h;exact⟨h 0 x rfl,λj u hu=>h (j+1) u Zd⟩
theorem Es:∀{l:a_ (V×V)},V.sL l=true↔∀(j:Nat) u,l[j]? = some u->u.1.good=true/\u.2.good=true
 | []=>by simp[V.sL]
 | (k,x)::l=>by
  simp only[V.sL,ζh,Es ];constructor
  .grind
  intro h;exact⟨h 0 (k,x) rfl,λj u hu=>h (j+1) u Zd⟩
theorem yz {l:a_ V} (n:Nat) (h:V.cQ l=true):V.cQ (l.drop n)=true:=
 iF.2 λj u hu=>iF.1 h (n+j) u Zd
inductive FR (H:bn) (Z:Nat->Prop):V->V->Prop
 | same (x:V) (h:x.good=true):FR H Z x x
 | fsl (es:Nat) (xs:List (List V)) (id off:Nat) (ys:List (List V)) (hz:Z id) (hr:bq H id=some (es,ys)) (hl:off+xs.length<=ys.length)
  (hc:∀(i:Nat) a b,xs[i]? = some a->ys[off+i]? = some b->a.length=b.length)
  (hv:∀(i j:Nat) a b u v,xs[i]? = some a->ys[off+i]? = some b->a[j]? = some u->b[j]? = some v->FR H Z u v):FR H Z (.fsl es xs) (.hsl id es off xs.length)
 | fptr (xs:List V) (id el off es:Nat) (ys:List (List V)) (cs:List V) (hz:Z id) (hr:bq H id=some (es,ys)) (he:ys[el]? = some cs) (ho:off<=cs.length) (hx:xs.length=cs.length-off)
  (hv:∀(j:Nat) u v,xs[j]? = some u->cs[off+j]? = some v->FR H Z u v):FR H Z (.fptr xs) (.hptr id el off)
 | clo (f:FuncId) (a b a' b':List V) (ha:a.length=a'.length) (hb:b.length=b'.length) (hva:∀(j:Nat) u v,a[j]? = some u->a'[j]? = some v->FR H Z u v) (hvb:∀(j:Nat) u v,b[j]? = some u->b'[j]? = some v->FR H Z u v):FR H Z (.clo f a b) (.clo f a' b')
 | agg (a a':List V) (ha:a.length=a'.length) (hva:∀(j:Nat) u v,a[j]? = some u->a'[j]? = some v->FR H Z u v):FR H Z (.agg a) (.agg a')
 | tup (a a':List V) (ha:a.length=a'.length) (hva:∀(j:Nat) u v,a[j]? = some u->a'[j]? = some v->FR H Z u v):FR H Z (.tup a) (.tup a')
def c8 (H:bn) (Z:Nat->Prop) (xs ys:a_ V):Prop:=xs.length=ys.length/\∀(j:Nat) u v,xs[j]? = some u->ys[j]? = some v->FR H Z u v
def fh (H:bn) (Z:Nat->Prop) (xs ys:a_ (a_ V)):Prop:=xs.length=ys.length/\∀(j:Nat) u v,xs[j]? = some u->ys[j]? = some v->c8 H Z u v
section
variable {H H':bn} {Z Z':Nat->Prop}
theorem FR.mono (h:∀id,Z id->Z' id/\bq H' id=bq H id) {x y:V} (r:FR H Z x y):FR H' Z' x y:=by
 induction r with
 | same x h=>exact .same x h
 | fsl es z id off B C hr I hc hv D=>exact .fsl es z id off B (h id C).1 Zd I hc D
 | fptr z id el off es B cs C hr J L O hv D=>exact .fptr z id el off es B cs (h id C).1 Zd J L O D
 | clo f a b u Q w S hva T t G=>exact .clo f a b u Q w S t G
 | agg a u w hva t=>exact .agg a u w t
 | tup a u w hva t=>exact .tup a u w t
theorem c8.mono (h:∀id,Z id->Z' id/\bq H' id=bq H id) {x y:a_ V} (r:c8 H Z x y):c8 H' Z' x y:=⟨r.1,λj u v a b=>(r.2 j u v a b).mono h⟩
theorem fh.mono (h:∀id,Z id->Z' id/\bq H' id=bq H id) {x y:a_ (a_ V)} (r:fh H Z x y):fh H' Z' x y:=⟨r.1,λj u v a b=>(r.2 j u v a b).mono h⟩
theorem c8.nil:c8 H Z [] []:=⟨rfl,by simp⟩
theorem c8.cons {x y:V} {xs ys:a_ V} (h:FR H Z x y) (r:c8 H Z xs ys):c8 H Z (x::xs) (y::ys):=by
 refine⟨by simp[r.1],λj u v hu hv=>?_⟩
 cases j with
 | zero=>grind
 | succ j=>exact r.2 j u v Zd Zd
theorem c8.inv {x:V} {xs B:a_ V} (r:c8 H Z (x::xs) B):∃y ys,B=y::ys/\FR H Z x y/\c8 H Z xs ys:=by
 cases B with
 | nil=>have:=r.1;grind
 | cons y ys=>
  refine⟨y,ys,rfl,r.2 0 x y rfl rfl,by have:=r.1;grind,λj u v hu hv=>r.2 (j+1) u v Zd Zd⟩
theorem c8.cT {u:a_ V} (r:c8 H Z [] u):u=[]:=by
 have:=r.1
 grind
theorem c8.get {xs ys:a_ V} (r:c8 H Z xs ys) {j:Nat} {u:V} (h:xs[j]? = some u):∃v,ys[j]? = some v/\FR H Z u v:=by
 have t  := (ζe.1 h).1;have:j<ys.length:=by rw[<-r.1];omega
 exact⟨ys[j],ζd this,r.2 j u _ h (ζd this)⟩
theorem fh.get {xs ys:a_ (a_ V)} (r:fh H Z xs ys) {j:Nat} {u:a_ V} (h:xs[j]? = some u):∃v,ys[j]? = some v/\c8 H Z u v:=by
 have t  := (ζe.1 h).1;have:j<ys.length:=by rw[<-r.1];omega
 exact⟨ys[j],ζd this,r.2 j u _ h (ζd this)⟩
theorem c8.append {a b c d:a_ V} (h:c8 H Z a b) (k:c8 H Z c d):c8 H Z (a++c) (b++d):=by
 refine⟨by simp[h.1,k.1],λj u v hu hv=>?_⟩
 by_cases t:j<a.length
 .rw[List.getElem?_append_left t]at hu;rw[List.getElem?_append_left (by rw[<-h.1];omega)]at hv
  exact h.2 j u v hu hv
 rw[List.getElem?_append_right Za]at hu
 rw[List.getElem?_append_right (by rw[<-h.1];omega),<-h.1]at hv
 exact k.2 _ u v hu hv
theorem fh.append {a b c d:a_ (a_ V)} (h:fh H Z a b) (k:fh H Z c d):fh H Z (a++c) (b++d):=by
 refine⟨by simp[h.1,k.1],λj u v hu hv=>?_⟩
 by_cases t:j<a.length
 .rw[List.getElem?_append_left t]at hu;rw[List.getElem?_append_left (by rw[<-h.1];omega)]at hv
  exact h.2 j u v hu hv
 rw[List.getElem?_append_right Za]at hu
 rw[List.getElem?_append_right (by rw[<-h.1];omega),<-h.1]at hv
 exact k.2 _ u v hu hv
theorem c8.take {a b:a_ V} (h:c8 H Z a b) (n:Nat):c8 H Z (a.take n) (b.take n):=by
 refine⟨by simp[h.1],λj u v hu hv=>?_⟩
 rw[List.getElem?_take]at hu hv;split at hu
 next t=>rw[if_pos t]at hv;exact h.2 j u v hu hv
 grind
theorem c8.drop {a b:a_ V} (h:c8 H Z a b) (n:Nat):c8 H Z (a.drop n) (b.drop n):=by
 refine⟨by simp[h.1],λj u v hu hv=>?_⟩
 rw[List.getElem?_drop]at hu hv;exact h.2 _ u v hu hv
theorem fh.take {a b:a_ (a_ V)} (h:fh H Z a b) (n:Nat):fh H Z (a.take n) (b.take n):=by
 refine⟨by simp[h.1],λj u v hu hv=>?_⟩
 rw[List.getElem?_take]at hu hv;split at hu
 next t=>rw[if_pos t]at hv;exact h.2 j u v hu hv
 grind
theorem fh.drop {a b:a_ (a_ V)} (h:fh H Z a b) (n:Nat):fh H Z (a.drop n) (b.drop n):=by
 refine⟨by simp[h.1],λj u v hu hv=>?_⟩
 rw[List.getElem?_drop]at hu hv;exact h.2 _ u v hu hv
theorem c8.set {a b:a_ V} (h:c8 H Z a b) (n:Nat) {x y:V} (B:FR H Z x y):c8 H Z (a.set n x) (b.set n y):=by
 refine⟨by simp[h.1],λj u v hu hv=>?_⟩
 rw[List.getElem?_set]at hu hv;split at hu
 .grind
 rename_i e;rw[if_neg e]at hv;exact h.2 j u v hu hv
theorem fh.set {a b:a_ (a_ V)} (h:fh H Z a b) (n:Nat) {x y:a_ V} (B:c8 H Z x y):fh H Z (a.set n x) (b.set n y):=by
 refine⟨by simp[h.1],λj u v hu hv=>?_⟩
 rw[List.getElem?_set]at hu hv;split at hu
 .grind
 rename_i e;rw[if_neg e]at hv;exact h.2 j u v hu hv
theorem c8.same {l:a_ V} (h:V.cQ l=true):c8 H Z l l:=
 ⟨rfl,λj u v hu hv=>by rw[hu]at hv;cases hv;exact .same u (iF.1 h j u hu)⟩
theorem FR.good {x y:V} (r:FR H Z x y):x.good=true:=by
 induction r with
 | same x h=>omega
 | fsl es B id off C D hr L hc hv G=>
  refine j9.2 λi a w=>iF.2 λj u hu=>?_
  grind
 | fptr B id el off es C cs D hr O Q S hv G=>
  refine iF.2 λj u hu=>?_
  grind
 | clo f a b z T w U hva I t J=>
  simp[V.good];refine⟨iF.2 λj u hu=>?_,iF.2 λj u hu=>?_⟩
  .grind
  grind
 | agg a z w hva t=>
  refine iF.2 λj u hu=>?_
  grind
 | tup a z w hva t=>
  simp[V.good];refine iF.2 λj u hu=>?_
  grind
theorem FR.closed {x y:V} (r:FR H Z x y):x.closed=true:=V.mQ r.good
theorem c8.good {xs ys:a_ V} (r:c8 H Z xs ys):V.cQ xs=true:=
 iF.2 λj u hu=>by obtain⟨v,_,h⟩:=r.get hu;exact h.good
theorem fh.good {xs ys:a_ (a_ V)} (r:fh H Z xs ys):V.mz xs=true:=
 j9.2 λj u hu=>by obtain⟨v,_,h⟩:=r.get hu;exact h.good
theorem FR.bool {b:Bool} {y:V} (r:FR H Z (.bool b) y):y=.bool b:=by cases r;rfl
theorem FR.int {k:IntKind} {n:Int} {y:V} (r:FR H Z (.int k n) y):y=.int k n:=by cases r;rfl
theorem FR.str {s:ByteArray} {y:V} (r:FR H Z (.str s) y):y=.str s:=by cases r;rfl
theorem FR.c_ {y:V} (r:FR H Z .c_ y):y=.c_:=by cases r;rfl
theorem FR.bN {y:V} (r:FR H Z .bN y):y=.bN:=by cases r;rfl
theorem FR.gN {y:V} (r:FR H Z .gN y):y=.gN:=by cases r;rfl
theorem FR.gi {y:V} (r:FR H Z .gi y):y=.gi:=by cases r;rfl
theorem FR.rK {y:V} (r:FR H Z .rK y):y=.rK:=by cases r;rfl
theorem FR.fmap {u:a_ (V×V)} {y:V} (r:FR H Z (.fmap u) y):y=.fmap u:=by cases r;rfl
theorem FR.h_ {a:a_ V} {y:V} (r:FR H Z (.agg a) y):∃a',y=.agg a'/\c8 H Z a a':=by
 cases r with
 | same _ h=>exact⟨a,rfl,.same (by simpa [V.good]using h)⟩
 | agg _ a' t hva=>exact⟨a',rfl,t,hva⟩
theorem FR.qe {a:a_ V} {y:V} (r:FR H Z (.tup a) y):∃a',y=.tup a'/\c8 H Z a a':=by
 cases r with
 | same _ h=>exact⟨a,rfl,.same (by simpa [V.good]using h)⟩
 | tup _ a' t hva=>exact⟨a',rfl,t,hva⟩
theorem FR.jU {f:FuncId} {a b:a_ V} {y:V} (r:FR H Z (.clo f a b) y):∃a' u,y=.clo f a' u/\c8 H Z a a'/\c8 H Z b u:=by
 cases r with
 | same _ h=>
  simp[V.good]at h;exact⟨a,b,rfl,.same h.1,.same h.2⟩
 | clo _ _ _ a' u w z hva t=>exact⟨a',u,rfl,⟨w,hva⟩,⟨z,t⟩⟩
theorem FR.lu {es:Nat} {xs:a_ (a_ V)} {y:V} (r:FR H Z (.fsl es xs) y):y=.fsl es xs \/
 ∃id off ys,y=.hsl id es off xs.length/\Z id/\bq H id=some (es,ys)/\off+xs.length<=ys.length/\fh H Z xs ((ys.drop off).take xs.length):=by
 cases r with
 | same _ h=>grind
 | fsl _ _ id off ys z hr B hc hv=>
  refine .inr ⟨id,off,ys,rfl,z,hr,B,by simp;omega,λj u v hu w=>?_⟩
  have C  := (ζe.1 hu).1;rw[List.getElem?_take,if_pos C,List.getElem?_drop]at w;exact⟨hc j u v hu w,λi s t D G=>hv j i u v s t hu w D G⟩
theorem FR.Cu {es:Nat} {xs:a_ (a_ V)} {id off:Nat} {ys:a_ (a_ V)} (B:Z id) (hr:bq H id=some (es,ys)) (D:off+xs.length<=ys.length) (h:fh H Z xs ((ys.drop off).take xs.length)) :
 FR H Z (.fsl es xs) (.hsl id es off xs.length):=by
 have key:∀(i:Nat) a b,xs[i]? = some a->ys[off+i]? = some b->c8 H Z a b:=λi a b t w=>by
  refine h.2 i a b t ?_
  grind
 exact .fsl es xs id off ys B hr D (λi a b t w=>(key i a b t w).1) (λi j a b u v t w hu hv=>(key i a b t w).2 j u v hu hv)
theorem FR.lP {xs:a_ V} {y:V} (r:FR H Z (.fptr xs) y):y=.fptr xs \/
 ∃id el off es ys cs,y=.hptr id el off/\Z id/\bq H id=some (es,ys)/\ys[el]? = some cs/\off<=cs.length/\c8 H Z xs (cs.drop off):=by
 cases r with
 | same _ h=>grind
 | fptr _ id el off es ys cs t hr w z C hv=>
  refine .inr ⟨id,el,off,es,ys,cs,rfl,t,hr,w,z,by simp_all,λj u v hu B=>?_⟩
  grind
theorem FR.CD {xs:a_ V} {id el off es:Nat} {ys:a_ (a_ V)} {cs:a_ V} (B:Z id) (hr:bq H id=some (es,ys)) (D:ys[el]? = some cs) (G:off<=cs.length) (h:c8 H Z xs (cs.drop off)):FR H Z (.fptr xs) (.hptr id el off):=
 .fptr xs id el off es ys cs B hr D G (by have:=h.1;grind) (λj u v hu hv=>h.2 j u v hu Zd)
theorem FR.cells {x y:V} (r:FR H Z x y):c8 H Z x.cells y.cells:=by
 have one:∀{a b:V},FR H Z a b->c8 H Z [a] [b]:=λh=>.cons h .nil
 cases r with
 | same _ h=>cases x <;> first|exact one (.same _ h)|(exact c8.same h)
 | fsl es w id off z B hr D hc hv=>exact one (.fsl es w id off z B hr D hc hv)
 | fptr w id el off es z cs B hr G I J hv=>exact one (.fptr w id el off es z cs B hr G I J hv)
 | clo f a b u L t O hva C=>exact one (.clo f a b u L t O hva C)
 | agg a u t hva=>exact⟨t,hva⟩
 | tup a u t hva=>exact one (.tup a u t hva)
theorem FR.one {x y:V} (r:FR H Z x y):y.one=x.one:=by cases r <;> rfl
theorem c8.one:∀{xs ys:a_ V},c8 H Z xs ys->ys.all V.one=xs.all V.one
 | [],ys,r=>by rw[r.cT]
 | x::xs,B,r=>by
  obtain⟨y,ys,rfl,h,u⟩:=r.inv;simp[h.one,u.one]
theorem qB:∀{l:a_ V},V.cF l=true↔∀(j:Nat) u,l[j]? = some u->u.scalar=true
 | []=>by simp[V.cF]
 | x::l=>by
  simp[V.cF,qB ];constructor
  .grind
  intro h;exact⟨h 0 x rfl,λj u hu=>h (j+1) u Zd⟩
theorem FR.scalar {x y:V} (r:FR H Z x y):(x.scalar=true->y=x)/\y.scalar=x.scalar:=by
 have key:∀(a t:a_ V),a.length=t.length->(∀(j:Nat) u v,a[j]? = some u->t[j]? = some v->(u.scalar=true->v=u)/\v.scalar=u.scalar)->(V.cF a=true->t=a)/\V.cF t=V.cF a:=by
  intro a t z D;have h1:V.cF a=true->t=a:=by
   intro G;refine(List.ext_getElem z λj h1 B=>?_).symm
   exact(((D j _ _ (ζd h1) (ζd B)).1 (qB.1 G j _ (ζd h1)))).symm
  refine⟨h1,?_⟩
  cases G:V.cF a with
  | true=>grind
  | false=>
   cases C:V.cF t with
   | false=>rfl
   | true=>
    have:V.cF a=true:=qB.2 λj u hu=>by
     have I:j<t.length:=by grind
     have:=(D j u _ hu (ζd I)).2;rw[<-this];exact qB.1 C j _ (ζd I)
    grind
 induction r with
 | same x h=>grind
 | fsl=>exact⟨λh=>by simp[V.scalar]at h,rfl⟩
 | fptr=>exact⟨λh=>by simp[V.scalar]at h,rfl⟩
 | clo=>exact⟨λh=>by simp[V.scalar]at h,rfl⟩
 | agg a t z hva w=>
  obtain⟨h1,B⟩:=key a t z w;exact⟨λh=>by rw[h1 (by simpa [V.scalar]using h)],by simpa [V.scalar]using B⟩
 | tup a t z hva w=>
  obtain⟨h1,B⟩:=key a t z w;exact⟨λh=>by rw[h1 (by simpa [V.scalar]using h)],by simpa [V.scalar]using B⟩
theorem c8.scalar {a a':a_ V} (r:c8 H Z a a'):(V.cF a=true->a'=a)/\V.cF a'=V.cF a:=by
 obtain⟨h1,t⟩:=FR.scalar (.tup a a' r.1 r.2);simp[V.scalar]at h1 t
 grind
theorem qD:∀{l:a_ V} {a:a_ Int},gZ l=some a->V.cF l=true
 | [],_,_=>rfl
 | x::l,a,h=>by
  unfold gZ at h;split at h
  .grind
  next n r e=>cases e;obtain⟨b,u,_⟩:=ζf.1 h;simp[V.cF,V.scalar];exact qD u
  grind
end
mutual
theorem jo:∀{x:V},x.scalar=true->x.good=true
 | .bool _,_|.int ..,_|.str _,_|.gN,_|.gi,_|.rK,_|.c_,_|.bN,_=>rfl
 | .agg cs,h=>by simp only[V.scalar]at h;simp only[V.good];exact o8 h
 | .tup cs,h=>by simp only[V.scalar]at h;simp only[V.good];exact o8 h
 | .fsl ..,h|.hsl ..,h|.fptr ..,h|.hptr ..,h|.clo ..,h|.yld _,h|.fmap _,h|.hmap _,h=>by simp[V.scalar]at h
theorem o8:∀{l:a_ V},V.cF l=true->V.cQ l=true
 | [],_=>rfl
 | x::r,h=>by
  simp only[V.cF,ζh]at h;simp only[V.cQ,ζh];exact⟨jo h.1,o8 h.2⟩
end
section
variable {H H':bn} {Z Z':Nat->Prop}
theorem jY {f:V->bf V}:∀{xs ys:a_ V},xs.length=ys.length->(∀(j:Nat) u v,xs[j]? = some u->ys[j]? = some v->f v=some u)->iy f ys=some xs
 | [],[],_,_=>rfl
 | [],y::ys,h,_=>by simp_all
 | x::xs,[],h,_=>by simp_all
 | x::xs,y::ys,h,B=>by
  simp[iy,B 0 x y rfl rfl,jY (xs:=xs) (ys:=ys) Zd λj u v hu hv=>B (j+1) u v Zd Zd]
theorem GL {f:V->bf V}:∀{xs ys:a_ (a_ V)},xs.length=ys.length->(∀(j:Nat) u v,xs[j]? = some u->ys[j]? = some v->iy f v=some u)->kY f ys=some xs
 | [],[],_,_=>rfl
 | [],y::ys,h,_=>by simp_all
 | x::xs,[],h,_=>by simp_all
 | x::xs,y::ys,h,B=>by
  simp[kY,B 0 x y rfl rfl,GL (xs:=xs) (ys:=ys) Zd λj u v hu hv=>B (j+1) u v Zd Zd]
theorem ou:∀{l:a_ V},V.gQ l=true↔∀(j:Nat) u,l[j]? = some u->u.closed=true
 | []=>by simp[V.gQ]
 | x::l=>by
  simp[V.gQ,ou ];constructor
  .grind
  intro h;exact⟨h 0 x rfl,λj u hu=>h (j+1) u Zd⟩
theorem mP:∀{l:a_ V} {n:Nat},V.kV n l=true↔∀(j:Nat) u,l[j]? = some u->u.lvl n=true
 | [],n=>by simp[V.kV]
 | x::l,n=>by
  simp[V.kV,mP ];constructor
  .grind
  intro h;exact⟨h 0 x rfl,λj u hu=>h (j+1) u Zd⟩
theorem EZ:∀{l:a_ (a_ V)} {n:Nat},V.oJ n l=true↔∀(j:Nat) u,l[j]? = some u->V.kV n u=true
 | [],n=>by simp[V.oJ]
 | x::l,n=>by
  simp[V.oJ,EZ ];constructor
  .grind
  intro h;exact⟨h 0 x rfl,λj u hu=>h (j+1) u Zd⟩
theorem ez (n:Nat) (H:bn) {x:V} (h:x.closed=true):borrow n H x=some x:=kM n H h
theorem FR.borrow {x y:V} (r:FR H Z x y):∀n,x.lvl n=true->borrow n H y=some x:=by
 induction r with
 | same x h=>grind[ez,V.mQ]
 | fsl es J id off U W hr X hc hv L=>
  intro n z
  cases n with
  | zero=>grind[V.lvl]
  | succ n=>
   unfold Go.VE.borrow;unfold bq at hr;simp only[V.closed,Bool.false_eq_true,if_false,hr,true_and,if_pos X,ζf];refine⟨J,GL (by simp;omega) λj u v hu B=>?_,rfl⟩
   have Y  := (ζe.1 hu).1;rw[List.getElem?_take,if_pos Y,List.getElem?_drop]at B;refine jY (hc j u v hu B) λi s t Q ht=>L j i u v s t hu B Q ht n (mP.1 (EZ.1 z j u hu) i s Q)
 | fptr J id el off es U cs W hr he ho hx hv L=>
  intro n z
  cases n with
  | zero=>grind[V.lvl]
  | succ n=>
   unfold Go.VE.borrow;unfold bq at hr;simp only[V.closed,Bool.false_eq_true,if_false,hr,he,if_pos ho,ζf];refine⟨J,jY (by simp_all) λj u v hu B=>?_,rfl⟩
   rw[List.getElem?_drop]at B;exact L j u v hu B n (mP.1 z j u hu)
 | clo f a b D S G T hva aa C I=>
  intro n z
  cases n with
  | zero=>grind[V.lvl]
  | succ n=>
   simp[V.lvl]at z
   by_cases w:(V.clo f D S).closed=true
   .rw[ez _ _ w];simp[V.closed]at w;have e1:D=a:=by
     have:=jY  G λj u v hu hv=>C j u v hu hv n (mP.1 z.1 j u hu)
     have O:=jY    rfl λj u v hu hv=>by rw[hu]at hv;cases hv;exact ez n H (ou.1 w.1 j u hu)
     grind
    have e2:S=b:=by
     have:=jY  T λj u v hu hv=>I j u v hu hv n (mP.1 z.2 j u hu)
     have O:=jY    rfl λj u v hu hv=>by rw[hu]at hv;cases hv;exact ez n H (ou.1 w.2 j u hu)
     grind
    simp_all
   unfold Go.VE.borrow;rw[if_neg w];simp[jY  G λj u v hu hv=>C j u v hu hv n (mP.1 z.1 j u hu),jY  T λj u v hu hv=>I j u v hu hv n (mP.1 z.2 j u hu)]
 | agg a D G hva C=>
  intro n z
  cases n with
  | zero=>grind[V.lvl]
  | succ n=>
   have hm:=jY  G λj u v hu hv=>C j u v hu hv n (mP.1 z j u hu)
   by_cases w:(V.agg D).closed=true
   .rw[ez _ _ w];have O:=jY    rfl λj u v hu hv=>by rw[hu]at hv;cases hv;exact ez n H (ou.1 w j u hu)
    grind
   grind[Go.VE.borrow]
 | tup a D G hva C=>
  intro n z
  cases n with
  | zero=>grind[V.lvl]
  | succ n=>
   have hm:=jY  G λj u v hu hv=>C j u v hu hv n (mP.1 z j u hu)
   by_cases w:(V.tup D).closed=true
   .rw[ez _ _ w];have O:=jY    rfl λj u v hu hv=>by rw[hu]at hv;cases hv;exact ez n H (ou.1 w j u hu)
    grind
   grind[Go.VE.borrow]
theorem pG {f:V->a_ Nat} {k:Nat}:∀{l:a_ V},k∈cN f l->∃(j:Nat) (u:V),l[j]? = some u/\k∈f u
 | [],h=>by grind[cN]
 | x::l,h=>by
  simp[cN]at h;rcases h with h|h
  .exact⟨0,x,rfl,h⟩
  obtain⟨j,u,hu,hk⟩:=pG h;exact⟨j+1,u,by grind,hk⟩
structure Deep (H:bn) (Z:Nat->Prop):Prop where
 row:∀id es ys,Z id->bq H id=some (es,ys)->∀c∈ys,∀u∈c,∃x,FR H Z x u
theorem FR.b7 (hd:Deep H Z):∀(n:Nat) {x y:V},FR H Z x y->∀k∈b7 n H y,Z k
 | 0,x,y,r,k,hk=>by grind[Go.VE.b7]
 | n+1,x,y,r,k,hk=>by
  unfold Go.VE.b7 at hk;split at hk
  .simp_all
  rename_i J;have pt:∀(a a':a_ V),c8 H Z a a'->k∈cN (Go.VE.b7 n H) a'->Z k:=λa a' h hk=>by
   obtain⟨j,u,hu,w⟩:=pG hk;have L:j<a.length:=by rw[h.1];grind
   exact FR.b7 hd n (h.2 j _ u (ζd L) hu) k w
  have row:∀(id:Nat) es t (l:a_ V),Z id->bq H id=some (es,t)->(∀u∈l,∃c∈t,u∈c)->k∈cN (Go.VE.b7 n H) l->Z k:=λid es t l z hr G hk=>by
   obtain⟨j,u,hu,w⟩:=pG hk;obtain⟨c,hc,C⟩:=G u (List.mem_of_getElem? hu);obtain⟨x,I⟩:=hd.row id es t z hr c hc u C;exact FR.b7 hd n I k w
  cases r with
  | same _ h=>grind[V.mQ]
  | fsl es O id off t z hr G hc hv=>
   simp only[List.mem_cons]at hk;rcases hk with rfl|hk
   .exact z
   rw[show (H[id]?).bind Ob.rows=some (es,t)from hr]at hk
   grind[List.mem_flatten]
  | fptr O id el off es t cs z hr T U I hv=>
   simp only[List.mem_cons]at hk;rcases hk with rfl|hk
   .exact z
   rw[show (H[id]?).bind Ob.rows=some (es,t)from hr]at hk
   grind
  | clo f a b a' Q B S hva D=>
   simp  at hk;rcases hk with hk|hk
   .exact pt a a' ⟨B,hva⟩ hk
   exact pt b Q ⟨S,D⟩ hk
  | agg a a' B hva=>exact pt a a' ⟨B,hva⟩ hk
  | tup a a' B hva=>exact pt a a' ⟨B,hva⟩ hk
theorem c8.cut {cs ys r:a_ V} {off n:Nat} (h:c8 H Z cs ys) (hc:cut cs off n=some r):∃u,Go.VE.cut ys off n=some u/\c8 H Z r u:=by
 unfold Go.VE.cut at hc ⊢;have t:=(h.drop off).take n;dsimp only at hc ⊢;split at hc
 .simp  at hc;subst hc;exact⟨_,by rw[if_pos (by rw[<-t.1];omega)],t⟩
 grind
theorem c8.mk {agg:Bool} {cs ys:a_ V} {x:V} (h:c8 H Z cs ys) (u:mk agg cs=some x):∃y,Go.VE.mk agg ys=some y/\FR H Z x y:=by
 unfold Go.VE.mk at u ⊢;split at u
 .simp  at u;subst u;exact⟨_,by grind,.agg _ _ h.1 h.2⟩
 split at u
 .simp  at u;obtain⟨y,ys,rfl,h1,t⟩:=h.inv;rw[t.cT]
  grind
 grind
theorem c8.fill:∀{pl:a_ (Nat×Nat)} {vs u cells cells' r:a_ V},c8 H Z cells cells'->c8 H Z vs u->kf cells pl vs=some r->∃B,kf cells' pl u=some B/\c8 H Z r B
 | [],vs,u,cells,cells',r,hc,hv,h=>by
  cases vs with
  | nil=>rw[hv.cT];grind[kf]
  | cons v vs=>grind[kf]
 | (off,size)::pl,vs,u,cells,cells',r,hc,hv,h=>by
  cases vs with
  | nil=>grind[kf]
  | cons v vs=>
   obtain⟨w,u,rfl,h1,D⟩:=hv.inv;have k:=h1.cells;simp only[kf]at h ⊢;rw[<-k.1,<-hc.1];split at h
   .simp_all
   rename_i e;rw[if_neg e];exact c8.fill (((hc.take off).append k).append (hc.drop _)) D h
theorem FR.uE {k:KT} {x y D G:V} {b:Bool} (u:FR H Z x D) (B:FR H Z y G) (h:oE k x y=some b):oE k D G=some b:=by
 unfold oE at h;split at h
 .rw[u.bN,B.bN];exact h
 .rw[B.bN];rcases u.lu with rfl|⟨_,_,_,rfl,_⟩ <;> exact h
 .exact absurd u.closed (by simp[V.closed])
 .rw[u.gN,B.gN];exact h
 .rw[B.gN];rcases u.lP with rfl|⟨_,_,_,_,_,_,rfl,_⟩ <;> exact h
 .exact absurd u.closed (by simp[V.closed])
 .rw[u.gi,B.gi];exact h
 .rw[B.gi,u.fmap];exact h
 .exact absurd u.closed (by simp[V.closed])
 grind
theorem FR.kg {a b a' B:a_ V} {r:Bool} (D:c8 H Z a a') (G:c8 H Z b B) (h:kg a b=some r):Go.VE.kg a' B=some r:=by
 unfold Go.VE.kg at h;split at h
 .rename_i u v hu hv;rw[D.scalar.1 (qD hu),G.scalar.1 (qD hv)]
  grind[Go.VE.kg]
 grind
theorem Ab {k:KT} {x y:V} {b:Bool} (h:oE k x y=some b):(y=.bN/\(x=.bN\/(∃es xs,x=.fsl es xs)\/∃id es off len,x=.hsl id es off len)) \/
 (y=.gN/\(x=.gN\/(∃cs,x=.fptr cs)\/∃id el off,x=.hptr id el off))\/(y=.gi/\(x=.gi\/(∃u,x=.fmap u)\/∃id,x=.hmap id)):=by
 unfold oE at h
 grind
theorem Iz {k:bf KT} {e:bf Nat} {op:BinOp} {x y:V} (B:(y=.bN/\(x=.bN\/(∃es xs,x=.fsl es xs)\/∃id es off len,x=.hsl id es off len)) \/
 (y=.gN/\(x=.gN\/(∃cs,x=.fptr cs)\/∃id el off,x=.hptr id el off))\/(y=.gi/\(x=.gi\/(∃u,x=.fmap u)\/∃id,x=.hmap id))) :
 nK k e op x y=(match k,op with
 | some k,.eql=>(oE k x y).map .bool
 | some k,.neq=>(oE k x y).map λt=>.bool !t
 | _,_=>none):=by
 rcases B with⟨rfl,rfl|⟨_,_,rfl⟩|⟨_,_,_,_,rfl⟩⟩|⟨rfl,rfl|⟨_,rfl⟩|⟨_,_,_,rfl⟩⟩|⟨rfl,rfl|⟨_,rfl⟩|⟨_,rfl⟩⟩ <;> cases k <;> cases op <;> rfl
theorem IX {k:bf KT} {e:bf Nat} {op:BinOp} {x y z:V} (h:nK k e op x y=some z):z.good=true:=by
 have w:∀{o:bf Bool} {z:V},o.map V.bool=some z->z.good=true:=λh=>by obtain⟨_,_,rfl⟩:=ζf.1 h;rfl
 have u:∀{o:bf Bool} {z:V},(o.map λt=>V.bool !t)=some z->z.good=true:=λh=>by obtain⟨_,_,rfl⟩:=ζf.1 h;rfl
 unfold nK at h
 (repeat' split at h) <;> first|(simp  at h;subst h;rfl)|exact w h|exact u h|simp at h
theorem FR.bin {k:bf KT} {e:bf Nat} {op:BinOp} {x y D G z:V} (u:FR H Z x D) (B:FR H Z y G) (h:nK k e op x y=some z):nK k e op D G=some z:=by
 have J:=h;unfold nK at h;split at h
 .rw[u.int,B.int];omega
 .rw[u.str,B.str];omega
 .rw[u.bool,B.bool];omega
 .obtain⟨L,rfl,w⟩:=u.h_;obtain⟨O,rfl,I⟩:=B.h_;split at h
  .split at h
   next C=>obtain⟨r,hr,rfl⟩:=ζf.1 h;simp[nK,<-w.1,C,FR.kg w I hr]
   grind
  .split at h
   next C=>obtain⟨r,hr,rfl⟩:=ζf.1 h;simp[nK,<-w.1,C,FR.kg w I hr]
   grind
  grind
 split at h
 .obtain⟨r,hr,rfl⟩:=ζf.1 h;have t:=FR.uE u B hr;rw[Iz (Ab t)];grind
 .obtain⟨r,hr,rfl⟩:=ζf.1 h;have t:=FR.uE u B hr;rw[Iz (Ab t)];grind
 grind
theorem FR.slice {size:Nat} {x J z:V} {l h:bf Int} (D:FR H Z x J) (B:ir size x l h=some z):∃O,ir size J l h=some O/\FR H Z z O:=by
 have G:∀{n t w:Nat},dH n l h=some (t,w)->w<=n/\t<=w:=by
  grind[dH]
 unfold ir at B;split at B
 .rename_i es L;split at B
  .rename_i T;obtain⟨⟨t,w⟩,I,rfl⟩:=ζf.1 B;obtain⟨U,W⟩:=G I;rcases D.lu with rfl|⟨id,off,X,rfl,Q,hr,Y,S⟩
   .refine⟨_,by grind[ir],.same _ ?_⟩
    have hg:=D.good;refine j9.2 λj u hu=>?_
    rw[List.getElem?_drop,List.getElem?_take]at hu;split at hu
    .exact j9.1 hg _ u hu
    grind
   refine⟨.hsl id es (off+t) (w-t),by grind[ir],?_⟩
   have C:((L.take w).drop t).length=w-t:=by simp_all
   rw[<-C];refine FR.Cu Q hr Zd ?_
   have:=(S.take w).drop t
   grind[List.drop_take,List.drop_drop]
  grind
 .exact absurd D.closed (by simp[V.closed])
 .rw[D.c_];obtain⟨_,I,rfl⟩:=ζf.1 B;exact⟨.c_,by grind[ir],.same _ rfl⟩
 .rw[D.bN];obtain⟨_,I,rfl⟩:=ζf.1 B;exact⟨.bN,by grind[ir],.same _ rfl⟩
 grind
theorem c8.mO {D G:Bool} {J B:a_ V} {r:bf Int×bf Int} (h:c8 H Z J B) (u:mO D G J=some r):Go.VE.mO D G B=some r:=by
 unfold Go.VE.mO at u;split at u
 .rw[h.cT];exact u
 .obtain⟨_,_,rfl,h1,t⟩:=h.inv;rw[h1.int,t.cT];exact u
 .obtain⟨_,_,rfl,h1,t⟩:=h.inv;rw[h1.int,t.cT];exact u
 .obtain⟨_,_,rfl,h1,t⟩:=h.inv;obtain⟨_,_,rfl,w,z⟩:=t.inv;rw[h1.int,w.int,z.cT];exact u
 grind
theorem c8.bS {N:Nat->FuncId} {p:u_} {xs ys:a_ V} {z:V} (W:∀zero pl,p=.build zero pl->V.cQ zero=true) (h:c8 H Z xs ys) (hp:bS N p xs=some z):∃J,Go.VE.bS N p ys=some J/\FR H Z z J:=by
 unfold Go.VE.bS at hp;split at hp
 .
  obtain⟨y,_,rfl,h1,w⟩:=h.inv;rw[w.cT];simp only[ζa]at hp;subst hp;exact⟨y,rfl,h1⟩
 .
  rename_i t a b;obtain⟨w1,_,rfl,h1,w⟩:=h.inv;obtain⟨w2,_,rfl,C,B⟩:=w.inv;obtain⟨w3,_,rfl,T,O⟩:=B.inv;rw[h1.bool,O.cT];simp only[ζa]at hp;subst hp;refine⟨if t=true then w2 else w3,rfl,?_⟩
  grind
 .
  obtain⟨y,_,rfl,h1,w⟩:=h.inv;rw[w.cT];unfold KL at hp;split at hp
  .exact absurd h1.closed (by simp[V.closed])
  .simp only[ζa]at hp;subst hp;rcases h1.lP with rfl|⟨_,_,_,_,_,_,rfl,_⟩
   .exact⟨_,rfl,h1⟩
   exact⟨_,rfl,h1⟩
  .simp only[ζa]at hp;subst hp;obtain⟨_,_,rfl,_⟩:=h1.jU;exact⟨_,rfl,h1⟩
  simp at hp
 .
  obtain⟨_,_,rfl,h1,w⟩:=h.inv;obtain⟨_,_,rfl,C,B⟩:=w.inv;rw[B.cT];exact⟨z,FR.bin h1 C hp,.same _ (IX hp)⟩
 .obtain⟨_,_,rfl,h1,w⟩:=h.inv;rw[h1.bool,w.cT];simp only[ζa]at hp;subst hp;exact⟨_,rfl,.same _ rfl⟩
 .obtain⟨_,_,rfl,h1,w⟩:=h.inv;rw[h1.int,w.cT];simp only[ζa]at hp;subst hp;exact⟨_,rfl,.same _ rfl⟩
 .obtain⟨_,_,rfl,h1,w⟩:=h.inv;rw[h1.int,w.cT];simp only[ζa]at hp;subst hp;exact⟨_,rfl,.same _ rfl⟩
 .
  rename_i off p;obtain⟨y,_,rfl,h1,w⟩:=h.inv;rw[w.cT];unfold qa at hp;split at hp
  .split at hp
   .rename_i cs ho;simp only[ζa]at hp;subst hp;rcases h1.lP with rfl|⟨id,el,o,es,ys,ds,rfl,Q,hr,U,X,L⟩
    .have hg:=h1.good;simp only[V.good]at hg;exact⟨_,by grind[Go.VE.bS,qa],.same _ (by grind[V.good,yz])⟩
    refine⟨.hptr id el (o+off),rfl,FR.CD Q hr U (by have:=L.1;grind) ?_⟩
    have:=L.drop off;rw[List.drop_drop]at this;exact this
   simp at hp
  .exact absurd h1.closed (by simp[V.closed])
  simp at hp
 .
  rename_i off size agg cs;obtain⟨y,_,rfl,h1,w⟩:=h.inv;rw[w.cT];obtain⟨Y,rfl,hc⟩:=h1.h_;obtain⟨r,hr,hm⟩:=ζg.1 hp;obtain⟨r',S,D⟩:=hc.cut hr;obtain⟨J,G,I⟩:=D.mk hm
  grind[Go.VE.bS]
 .
  rename_i size s k n;obtain⟨y,_,rfl,h1,w⟩:=h.inv;obtain⟨_,_,rfl,C,B⟩:=w.inv;rw[C.int,B.cT];unfold kS at hp;split at hp
  .simp at hp
  rename_i hn;split at hp
  .rename_i es xs;split at hp
   .rename_i U;obtain⟨c,hc,rfl⟩:=ζf.1 hp;rcases h1.lu with rfl|⟨id,off,ys,rfl,Q,hr,hl,L⟩
    .have hg:=h1.good;simp only[V.good]at hg;exact⟨_,by grind[Go.VE.bS,kS],.same _ (by grind[V.good,j9])⟩
    have hj:n.toNat<xs.length:=(ζe.1 hc).1;obtain⟨d,hd,ab⟩:=L.get hc;rw[List.getElem?_take,if_pos hj,List.getElem?_drop]at hd;exact⟨.hptr id (off+n.toNat) 0,by grind[Go.VE.bS,kS],FR.CD Q hr hd Zc Zd⟩
   simp at hp
  .exact absurd h1.closed (by simp[V.closed])
  simp at hp
 .
  rename_i len size s k n;obtain⟨y,_,rfl,h1,w⟩:=h.inv;obtain⟨_,_,rfl,C,B⟩:=w.inv;rw[C.int,B.cT];unfold wJ at hp;split at hp
  .rename_i hn;split at hp
   .split at hp
    .rename_i cs ho;simp only[ζa]at hp;subst hp;rcases h1.lP with rfl|⟨id,el,o,es,ys,ds,rfl,Q,hr,U,X,L⟩
     .have hg:=h1.good;simp only[V.good]at hg;exact⟨_,by grind[Go.VE.bS,wJ],.same _ (by grind[V.good,yz])⟩
     refine⟨.hptr id el (o+n.toNat*size),by grind[Go.VE.bS,wJ],FR.CD Q hr U (by have:=L.1;grind) ?_⟩
     have:=L.drop (n.toNat*size);rw[List.drop_drop]at this;exact this
    simp at hp
   .exact absurd h1.closed (by simp[V.closed])
   simp at hp
  simp at hp
 .
  rename_i s k n;obtain⟨y,_,rfl,h1,w⟩:=h.inv;obtain⟨_,_,rfl,C,B⟩:=w.inv;rw[h1.str,C.int,B.cT];split at hp
  next hn=>obtain⟨c,hc,rfl⟩:=ζf.1 hp;exact⟨_,by grind[Go.VE.bS],.same _ rfl⟩
  simp at hp
 .
  rename_i len size agg cs k n;obtain⟨y,_,rfl,h1,w⟩:=h.inv;obtain⟨_,_,rfl,C,B⟩:=w.inv;rw[C.int,B.cT];obtain⟨Y,rfl,hc⟩:=h1.h_;split at hp
  .rename_i hn;obtain⟨r,hr,hm⟩:=ζg.1 hp;obtain⟨r',S,D⟩:=hc.cut hr;obtain⟨J,G,I⟩:=D.mk hm
   grind[Go.VE.bS]
  simp at hp
 .
  rename_i lo hi s bs;obtain⟨y,_,rfl,h1,w⟩:=h.inv;rw[h1.str];obtain⟨⟨l,h'⟩,hb,hp⟩:=ζg.1 hp;obtain⟨⟨l2,ad⟩,aa,rfl⟩:=ζf.1 hp;exact⟨_,by simp only[Go.VE.bS,w.mO hb,ζb,aa,Option.map_some],.same _ rfl⟩
 .
  rename_i size lo hi s bs;obtain⟨y,_,rfl,h1,w⟩:=h.inv;obtain⟨⟨l,h'⟩,hb,hp⟩:=ζg.1 hp;obtain⟨J,G,I⟩:=FR.slice h1 hp;exact⟨J,by simp only[Go.VE.bS,w.mO hb,ζb,G],I⟩
 .
  obtain⟨y,_,rfl,h1,w⟩:=h.inv;obtain⟨_,_,rfl,C,B⟩:=w.inv;obtain⟨_,_,rfl,T,O⟩:=B.inv;rw[C.int,T.int,O.cT];split at hp
  .rename_i hc;simp only[ζa]at hp;subst hp;refine⟨.c_,?_,.same _ rfl⟩;simp only[ζh]at hc;have:KH y=true:=by
    have h0:=hc.1.1;unfold KH at h0;split at h0
    .rcases h1.lu with rfl|⟨_,_,_,rfl,_⟩ <;> rfl
    .exact absurd h1.closed (by simp[V.closed])
    .rw[h1.c_];rfl
    .rw[h1.bN];rfl
    simp at h0
   grind[Go.VE.bS]
  simp at hp
 .
  rename_i vs zero pl;obtain⟨r,hr,rfl⟩:=ζf.1 hp;obtain⟨r',S,D⟩:=c8.fill (c8.same (W zero pl rfl)) h hr;exact⟨.agg r',by grind[Go.VE.bS],.agg _ _ D.1 D.2⟩
 .
  rename_i vs name k;simp only[ζa]at hp;subst hp;exact⟨_,rfl,.clo _ _ _ _ _ (h.take k).1 (h.drop k).1 (h.take k).2 (h.drop k).2⟩
 .
  rename_i i vs;obtain⟨y,_,rfl,h1,w⟩:=h.inv;rw[w.cT];obtain⟨ws,rfl,hw⟩:=h1.qe;obtain⟨J,G,I⟩:=hw.get hp;exact⟨J,G,I⟩
 .
  obtain⟨y,_,rfl,h1,w⟩:=h.inv;rw[h1.str,w.cT];simp only[ζa]at hp;subst hp;exact⟨_,rfl,.same _ rfl⟩
 .
  obtain⟨y,_,rfl,h1,w⟩:=h.inv;rw[w.cT];unfold qu at hp;split at hp
  .simp only[ζa]at hp;subst hp;rcases h1.lu with rfl|⟨_,_,_,rfl,_⟩ <;> exact⟨_,rfl,.same _ rfl⟩
  .exact absurd h1.closed (by simp[V.closed])
  .rw[h1.c_];simp only[ζa]at hp;subst hp;exact⟨_,rfl,.same _ rfl⟩
  .rw[h1.bN];simp only[ζa]at hp;subst hp;exact⟨_,rfl,.same _ rfl⟩
  simp at hp
 .
  obtain⟨y,_,rfl,h1,w⟩:=h.inv;rw[w.cT];unfold Qx at hp;split at hp
  .rw[h1.bN];simp only[ζa]at hp;subst hp;exact⟨_,rfl,.same _ rfl⟩
  .rw[h1.c_];simp only[ζa]at hp;subst hp;exact⟨_,rfl,.same _ rfl⟩
  simp at hp
 .
  obtain⟨_,_,rfl,h1,w⟩:=h.inv;obtain⟨_,_,rfl,C,B⟩:=w.inv;rw[h1.int,C.int,B.cT];split at hp
  next e=>simp only[ζa]at hp;subst hp;exact⟨_,by grind[Go.VE.bS],.same _ rfl⟩
  simp at hp
 .
  obtain⟨_,_,rfl,h1,w⟩:=h.inv;obtain⟨_,_,rfl,C,B⟩:=w.inv;obtain⟨_,_,rfl,T,O⟩:=B.inv;obtain⟨_,_,rfl,h7,h8⟩:=O.inv;rw[h1.int,C.int,T.int,h7.int,h8.cT];split at hp
  next e=>simp only[ζa]at hp;subst hp;exact⟨_,by grind[Go.VE.bS],.same _ rfl⟩
  simp at hp
 .
  obtain⟨_,_,rfl,h1,w⟩:=h.inv;obtain⟨_,_,rfl,C,B⟩:=w.inv;rw[h1.int,C.int,B.cT];split at hp
  next e=>simp only[ζa]at hp;subst hp;exact⟨_,by grind[Go.VE.bS],.same _ rfl⟩
  simp at hp
 .
  obtain⟨_,_,rfl,h1,w⟩:=h.inv;obtain⟨_,_,rfl,C,B⟩:=w.inv;rw[h1.int,C.int,B.cT];split at hp
  .rename_i e;simp only[ζa]at hp;subst hp;refine⟨_,by grind[Go.VE.bS],.same _ ?_⟩
   grind[V.good,j9,iF,jo]
  simp at hp
 .
  split at hp
  .rename_i hc;obtain rfl:=h.scalar.1 hc.1;split at hp
   .rename_i xs ae;split at hp
    .rename_i hx;simp only[ζa]at hp;subst hp;refine⟨_,by grind[Go.VE.bS],.same _ ?_⟩
     simp only[V.good];exact j9.2 λj u hu=>iF.2 λi v hv=>jo (List.all_eq_true.1 (List.all_eq_true.1 hx.2 u (List.mem_of_getElem? hu)) v (List.mem_of_getElem? hv))
    simp at hp
   simp at hp
  simp at hp
 .simp only[ζa]at hp;subst hp;rw[h.cT];exact⟨_,rfl,.same _ rfl⟩
 simp at hp
end
def nL (p:Nat×Nat) (k:Fl) (es len:Nat):V:=
 match k with
 | .nil=>.bN
 | .emp=>.c_
 | _=>.hsl p.1 es p.2 len
structure Nu where
 pl:Nat->Nat×Nat
 inn:Nat->Nat->Nat
instance:CoeFun Nu λ_=>Nat->Nat×Nat:=⟨Nu.pl⟩
def Nu.at (ν:Nu) (d:Nat):Nat->Nat
 | 0=>(ν d).1
 | i+1=>ν.inn d i
inductive XY where
 | sl (k:Fl) (es n:Nat)|box|mp
def bu.uw:bu->XY
 | .sl k es xs=>.sl k es xs.length
 | .dp k xs _=>.sl k 1 xs.length
 | .box _=>.box
 | .mp _=>.mp
inductive cD (ν:Nu) (m:Tb bu) (H:bn) (Z:Nat->Prop):SV->V->Prop
 | v (x y:V) (h:FR H Z x y):cD ν m H Z (.v x) y
 | own (d:Nat) (y:V) (h:∀ob,bl m d=some ob->∃k es n,ob.uw=.sl k es n/\y=nL (ν d) k es n):cD ν m H Z (.own d) y
 | ptr (d o:Nat) (y:V) (h:∀ob,bl m d=some ob->∃cs,ob=.box cs/\y=.hptr (ν d).1 0 o):cD ν m H Z (.ptr d o) y
 | el (d i o:Nat) (y:V) (h:∀ob,bl m d=some ob->∃k es n,ob.uw=.sl k es n/\bQ k=true/\y=.hptr (ν d).1 ((ν d).2+i) o):cD ν m H Z (.el d i o) y
 | mp (d:Nat) (y:V) (h:∀ob,bl m d=some ob->∃kvs,ob=.mp kvs/\y=.hmap (ν d).1):cD ν m H Z (.mp d) y
 | clo (f:FuncId) (a b:List SV) (a' b':List V) (ha:a.length=a'.length) (hb:b.length=b'.length)
  (hva:∀(j:Nat) u v,a[j]? = some u->a'[j]? = some v->cD ν m H Z u v) (hvb:∀(j:Nat) u v,b[j]? = some u->b'[j]? = some v->cD ν m H Z u v):cD ν m H Z (.clo f a b) (.clo f a' b')
 | tup (a:List SV) (a':List V) (ha:a.length=a'.length) (hva:∀(j:Nat) u v,a[j]? = some u->a'[j]? = some v->cD ν m H Z u v):cD ν m H Z (.tup a) (.tup a')
 | agg (a:List SV) (a':List V) (ha:a.length=a'.length) (hva:∀(j:Nat) u v,a[j]? = some u->a'[j]? = some v->cD ν m H Z u v):cD ν m H Z (.agg a) (.agg a')
 | yl (id:Nat):cD ν m H Z (.yl id) (.yld id)
def bW (ν:Nu) (m:Tb bu) (H:bn) (Z:Nat->Prop) (xs:a_ SV) (ys:a_ V):Prop:=xs.length=ys.length/\∀(j:Nat) u v,xs[j]? = some u->ys[j]? = some v->cD ν m H Z u v
def dL:bu->Bool
 | .sl k _ _|.dp k _ _=>bQ k
 | _=>true
def bu.pt (ob:bu):Nat->Bool
 | 0=>dL ob
 | i+1=>match ob with
  | .dp _ xs h=>(match h with|some (j,_)=>j != i|none=>true)&&(match xs[i]? with|some [.fsl ..]=>true|_=>false)
  | _=>false
def eF (ν:Nu) (m:Tb bu) (id:Nat):Prop:=∃d ob j,bl m d=some ob/\ob.pt j=true/\ν.at d j=id
def t_ (H:bn) (Z:Nat->Prop) (ys:a_ (a_ V)):Prop:=∀c∈ys,∀u∈c,∃x,FR H Z x u
def DE (H:bn) (Z:Nat->Prop) (a b:a_ (V×V)):Prop:=a.length=b.length/\∀(j:Nat) u v,a[j]? = some u->b[j]? = some v->(u.1=v.1/\u.1.scalar=true)/\FR H Z u.2 v.2
def uq (ν:Nu) (H:bn) (Z:Nat->Prop) (d i:Nat) (x y:a_ V):Prop:=
 (x=y/\(x=[.bN]\/x=[.c_]))\/∃es t u,x=[.fsl es t]/\y=[.hsl (ν.inn d i) es 0 t.length]/\H[ν.inn d i]? = some (.row es u)/\fh H Z t u
def nk (ν:Nu) (m:Tb bu) (H:bn) (Z:Nat->Prop) (d:Nat) (h:bf (Nat×Nat)) (i:Nat) (x y:a_ V):Prop:=
 match h with
 | some (j,t)=>if j=i then ∃v,y=[v]/\v.one=true/\cD ν m H Z (.own t) v else uq ν H Z d i x y
 | none=>uq ν H Z d i x y
def cM (ν:Nu) (m:Tb bu) (H:bn) (Z:Nat->Prop) (d:Nat):bu->Prop
 | .sl k es xs=>if bQ k then ∃ys,H[(ν d).1]? = some (.row es ys)/\(ν d).2+xs.length<=ys.length/\fh H Z xs ((ys.drop (ν d).2).take xs.length)/\t_ H Z ys/\(k=.row->(ν d).2=0/\ys.length=xs.length)
  else xs=[]
 | .box cs=>∃es B,H[(ν d).1]? = some (.row es [B])/\bW ν m H Z cs B/\B.all V.one=true
 | .mp D=>∃u,H[(ν d).1]? = some (.map u)/\DE H Z D u
 | .dp k xs h=>if bQ k then k=.row/\(ν d).2=0/\(∀i t,h=some (i,t)->i<xs.length)/\∃ys,H[(ν d).1]? = some (.row 1 ys)/\ys.length=xs.length/\∀i x y,xs[i]? = some x->ys[i]? = some y->nk ν m H Z d h i x y
  else xs=[]/\h=none
structure R (ν:Nu) (Z:Nat->Prop) (st:St) (F:Frame) (H:bn):Prop where
 slot:∀s sv,bl st.g s=some sv->cD ν st.m H Z sv (get F s)
 obj:∀d ob,bl st.m d=some ob->cM ν st.m H Z d ob
 inj:∀d d' ob ob' j j',bl st.m d=some ob->bl st.m d'=some ob'->ob.pt j=true->ob'.pt j'=true->ν.at d j=ν.at d' j'->d=d'/\j=j'
 apart:∀d ob j,bl st.m d=some ob->ob.pt j=true->¬Z (ν.at d j)
 zrow:∀id,Z id->(bq H id).isSome=true
 deep:Deep H Z
def sameShape (a b:bu):Prop:=b.uw=a.uw
theorem sameShape.refl (o:bu):sameShape o o:=rfl
theorem sameShape.trans {a b c:bu} (h:sameShape a b) (k:sameShape b c):sameShape a c:=Eq.trans k h
structure Ev (Rv:Nat->Prop) (ν:Nu) (Z:Nat->Prop) (st:St) (H:bn) (ν':Nu) (Z':Nat->Prop) (st':St) (H':bn):Prop where
 len:H.length<=H'.length
 same:∀id,id<H.length->¬eF ν st.m id->¬Z id->¬Rv id->H'[id]? = H[id]?
 rows:∀id,Z id->Z' id/\bq H' id=bq H id
 own:∀id,eF ν' st'.m id->eF ν st.m id\/Rv id\/H.length<=id
 frz:∀id,Z' id->Z id\/eF ν st.m id\/Rv id\/H.length<=id
 pin:∀d∈st.pin,∀ob',bl st'.m d=some ob'->∃ob,bl st.m d=some ob/\ν' d=ν d/\sameShape ob ob'
 pins:st'.pin=st.pin
section
variable {Rv Rv':Nat->Prop} {ν ν' ν2:Nu} {Z Z' Z2:Nat->Prop} {st st' st2:St} {m m':Tb bu} {F F':Frame} {H H' H2:bn}
theorem Ev.refl:Ev Rv ν Z st H ν Z st H:=
 ⟨Nat.le_refl _,λ_ _ _ _ _=>rfl,λ_ h=>⟨h,rfl⟩,λ_ h=>.inl h,λ_ h=>.inl h,λ_ _ t h=>⟨t,h,rfl,.refl _⟩,rfl⟩
theorem Ev.trans (a:Ev Rv ν Z st H ν' Z' st' H') (b:Ev Rv ν' Z' st' H' ν2 Z2 st2 H2):Ev Rv ν Z st H ν2 Z2 st2 H2 where
 len:=Nat.le_trans a.len b.len
 same:=λid z t B hr=>by
  rw[b.same id (Nat.lt_of_lt_of_le z a.len) (λh=>(a.own id h).elim t λh=>h.elim hr λh=>by omega) (λh=>(a.frz id h).elim B λh=>h.elim t λh=>h.elim hr λh=>by omega) hr,a.same id z t B hr]
 rows:=λid h=>⟨(b.rows id (a.rows id h).1).1,by rw[(b.rows id (a.rows id h).1).2,(a.rows id h).2]⟩
 own:=λid h=>by
  rcases b.own id h with h|h|h
  .exact a.own id h
  .grind
  exact .inr (.inr (Nat.le_trans a.len h))
 frz:=λid h=>by
  rcases b.frz id h with h|h|h|h
  .exact a.frz id h
  .rcases a.own id h with h|h|h
   .grind
   .grind
   grind
  .grind
  exact .inr (.inr (.inr (Nat.le_trans a.len h)))
 pin:=λd hd u h=>by
  obtain⟨w,h1,D,C⟩:=b.pin d (by rw[a.pins];omega) u h
  obtain⟨ob,k1,k2,k3⟩:=a.pin d hd w h1;exact⟨ob,k1,by simp_all,k3.trans C⟩
 pins:=by rw[b.pins,a.pins]
theorem Ev.weak (h:∀id,Rv id->Rv' id) (a:Ev Rv ν Z st H ν' Z' st' H'):Ev Rv' ν Z st H ν' Z' st' H':=
 ⟨a.len,λid t u w hr=>a.same id t u w (λk=>hr (h id k)),a.rows,λid k=>(a.own id k).imp (λx=>x) (.imp (h id) (λx=>x)),λid k=>(a.frz id k).imp (λx=>x) (.imp (λx=>x) (.imp (h id) (λx=>x))),a.pin,a.pins⟩
theorem bY {α:Type}:∀(g:Tb α) (n:Nat) (v:α),bl (bA g n v) n=some v
 | [],n,v=>by simp[bA,bl]
 | (k,x)::r,n,v=>by
  simp[bA];split
  next h=>simp[bl,h]
  rename_i h;simp[bl,h,bY r n v]
theorem cq {α:Type}:∀(g:Tb α) {n k:Nat} (v:α),n≠k->bl (bA g n v) k=bl g k
 | [],n,k,v,h=>by simp[bA,bl,h]
 | (j,x)::r,n,k,v,h=>by
  simp[bA];split
  next hk=>subst hk;simp[bl,h]
  simp[bl];split
  .rfl
  exact cq r v h
theorem rD {α:Type}:∀{g:Tb α} {n:Nat} {v:α},bl g n=some v->bA g n v=g
 | [],n,v,h=>by cases h
 | (k,x)::r,n,v,h=>by
  simp[bl]at h;simp[bA];split
  .grind
  rename_i e;rw[if_neg e]at h;rw[rD h]
theorem vU {α:Type}:∀(g:Tb α) (n:Nat),bl (cz n g) n=none
 | [],n=>rfl
 | (k,x)::r,n=>by
  simp[cz];split
  .exact vU r n
  rename_i hk;simp[bl];rw[if_neg hk];exact vU r n
theorem sU {α:Type}:∀(g:Tb α) {n k:Nat},n≠k->bl (cz n g) k=bl g k
 | [],n,k,h=>rfl
 | (j,x)::r,n,k,h=>by
  simp[cz];split
  next hk=>subst hk;simp[bl];rw[if_neg h];exact sU r h
  simp[bl];split
  .rfl
  exact sU r h
theorem jQ {α:Type} {g:Tb α} {n k:Nat} {v:α} (h:bl (cz n g) k=some v):n≠k/\bl g k=some v:=by
 by_cases e:n=k
 .subst e;rw[vU]at h;simp_all
 rw[sU g e]at h;grind
theorem nY {α:Type} {k:Nat} {v:α}:∀{ds:a_ Nat} {g:Tb α},bl (oO ds g) k=some v->bl g k=some v
 | [],_,h=>h
 | d::ds,g,h=>(jQ (nY  h)).2
theorem pQ {α:Type} {g:Tb α} {k:Nat} {v:α}:∀{l:a_ Nat} {r:Tb α},jr g l=some r->bl r k=some v->bl g k=some v
 | [],r,h,u=>by simp[jr]at h;subst h;simp[bl]at u
 | n::l,r,h,u=>by
  simp[jr]at h;split at h
  .rename_i w t D B;simp  at h;subst h;simp[bl]at u;split at u
   .grind
   exact pQ B u
  grind
theorem yp {d:Nat}:∀{g:Tb SV} {s:Nat} {sv:SV},tQ d g=false->bl g s=some sv->sv.ct d=false
 | [],_,_,_,h=>by simp[bl]at h
 | (k,x)::r,s,sv,h,u=>by
  simp[tQ]at h;simp[bl]at u;split at u
  .grind
  exact yp h.2 u
theorem q_ {d:Nat}:∀{g:Tb bu} {s:Nat} {ob:bu},rX d g=false->bl g s=some ob->ob.ct d=false
 | [],_,_,_,h=>by simp[bl]at h
 | (k,x)::r,s,sv,h,u=>by
  simp[rX]at h;simp[bl]at u;split at u
  .grind
  exact q_ h.2 u
theorem s7 {d:Nat}:∀{l:a_ SV} {j:Nat} {u:SV},SV.c6 d l=false->l[j]? = some u->u.ct d=false
 | [],_,_,_,h=>by simp_all
 | x::r,j,u,h,B=>by
  simp[SV.c6]at h
  cases j with
  | zero=>grind
  | succ j=>exact s7 h.2 (by simpa using B)
theorem rR {d:Nat}:∀{l:a_ SV} {j:Nat} {u:SV},l[j]? = some u->u.ct d=true->SV.c6 d l=true
 | [],_,_,h,_=>by simp_all
 | x::r,j,u,h,B=>by
  simp[SV.c6]
  cases j with
  | zero=>grind
  | succ j=>exact .inr (rR (j:=j) Zd B)
theorem cD.mono {sv:SV} {y:V} (O:∀id,Z id->Z' id/\bq H' id=bq H id)
 (r:cD ν m H Z sv y) (B:∀d,sv.ct d=true->∀ob',bl m' d=some ob'->∃ob,bl m d=some ob/\ν' d=ν d/\sameShape ob ob'):cD ν' m' H' Z' sv y:=by
 induction r with
 | v x y h=>exact .v x y (h.mono O)
 | own d y h=>
  refine .own d y λob' w=>?_
  obtain⟨ob,h1,z,C⟩:=B d (by simp[SV.ct]) ob' w
  obtain⟨k,es,n,I,rfl⟩:=h ob h1;exact⟨k,es,n,Eq.trans C I,by rw[z]⟩
 | ptr d o y h=>
  refine .ptr d o y λob' w=>?_
  obtain⟨ob,h1,z,C⟩:=B d (by simp[SV.ct]) ob' w
  obtain⟨cs,rfl,rfl⟩:=h ob h1;cases ob' <;> cases C;exact⟨_,rfl,by rw[z]⟩
 | el d i o y h=>
  refine .el d i o y λob' w=>?_
  obtain⟨ob,h1,z,C⟩:=B d (by simp[SV.ct]) ob' w
  obtain⟨k,es,n,I,L,rfl⟩:=h ob h1;exact⟨k,es,n,Eq.trans C I,L,by rw[z]⟩
 | mp d y h=>
  refine .mp d y λob' w=>?_
  obtain⟨ob,h1,z,C⟩:=B d (by simp[SV.ct]) ob' w
  obtain⟨cs,rfl,rfl⟩:=h ob h1;cases ob' <;> cases C;exact⟨_,rfl,by rw[z]⟩
 | clo f a b D Q G S hva T t J=>
  exact .clo f a b D Q G S (λj u v hu hv=>t j u v hu hv λd hd=>B d (by simp[SV.ct,rR hu hd])) (λj u v hu hv=>J j u v hu hv λd hd=>B d (by simp[SV.ct,rR hu hd]))
 | tup a D G hva t=>
  exact .tup a D G (λj u v hu hv=>t j u v hu hv λd hd=>B d (by simp[SV.ct,rR hu hd]))
 | agg a D G hva t=>
  exact .agg a D G (λj u v hu hv=>t j u v hu hv λd hd=>B d (by simp[SV.ct,rR hu hd]))
 | yl id=>exact .yl id
theorem bW.mono {sv:a_ SV} {y:a_ V} (B:∀id,Z id->Z' id/\bq H' id=bq H id)
 (r:bW ν m H Z sv y) (D:∀d,SV.c6 d sv=true->∀ob',bl m' d=some ob'->∃ob,bl m d=some ob/\ν' d=ν d/\sameShape ob ob'):bW ν' m' H' Z' sv y:=
 ⟨r.1,λj u v hu hv=>(r.2 j u v hu hv).mono B λd hd=>D d (rR hu hd)⟩
theorem bW.nil:bW ν m H Z [] []:=⟨rfl,by simp⟩
theorem bW.cons {x:SV} {y:V} {xs:a_ SV} {ys:a_ V} (h:cD ν m H Z x y) (r:bW ν m H Z xs ys):bW ν m H Z (x::xs) (y::ys):=by
 refine⟨by simp[r.1],λj u v hu hv=>?_⟩
 cases j with
 | zero=>grind
 | succ j=>exact r.2 j u v Zd Zd
theorem bW.inv {x:SV} {xs:a_ SV} {B:a_ V} (r:bW ν m H Z (x::xs) B):∃y ys,B=y::ys/\cD ν m H Z x y/\bW ν m H Z xs ys:=by
 cases B with
 | nil=>have:=r.1;grind
 | cons y ys=>
  refine⟨y,ys,rfl,r.2 0 x y rfl rfl,by have:=r.1;grind,λj u v hu hv=>r.2 (j+1) u v Zd Zd⟩
theorem bW.cT {u:a_ V} (r:bW ν m H Z [] u):u=[]:=by
 have:=r.1
 grind
theorem bW.get {xs:a_ SV} {ys:a_ V} (r:bW ν m H Z xs ys) {j:Nat} {u:SV} (h:xs[j]? = some u):∃v,ys[j]? = some v/\cD ν m H Z u v:=by
 have t  := (ζe.1 h).1;have:j<ys.length:=by rw[<-r.1];omega
 exact⟨ys[j],ζd this,r.2 j u _ h (ζd this)⟩
theorem bW.append {a c:a_ SV} {b d:a_ V} (h:bW ν m H Z a b) (k:bW ν m H Z c d):bW ν m H Z (a++c) (b++d):=by
 refine⟨by simp[h.1,k.1],λj u v hu hv=>?_⟩
 by_cases t:j<a.length
 .rw[List.getElem?_append_left t]at hu;rw[List.getElem?_append_left (by rw[<-h.1];omega)]at hv
  exact h.2 j u v hu hv
 rw[List.getElem?_append_right Za]at hu
 rw[List.getElem?_append_right (by rw[<-h.1];omega),<-h.1]at hv
 exact k.2 _ u v hu hv
theorem bW.take {a:a_ SV} {b:a_ V} (h:bW ν m H Z a b) (n:Nat):bW ν m H Z (a.take n) (b.take n):=by
 refine⟨by simp[h.1],λj u v hu hv=>?_⟩
 rw[List.getElem?_take]at hu hv;split at hu
 next t=>rw[if_pos t]at hv;exact h.2 j u v hu hv
 grind
theorem bW.drop {a:a_ SV} {b:a_ V} (h:bW ν m H Z a b) (n:Nat):bW ν m H Z (a.drop n) (b.drop n):=by
 refine⟨by simp[h.1],λj u v hu hv=>?_⟩
 rw[List.getElem?_drop]at hu hv;exact h.2 _ u v hu hv
theorem cD.fr {x y:V} (r:cD ν m H Z (.v x) y):FR H Z x y:=by cases r;assumption
theorem bW.p_ {xs ys:a_ V} (r:c8 H Z xs ys):bW ν m H Z (xs.map .v) ys:=by
 refine⟨by simp[r.1],λj u v hu hv=>?_⟩
 rw[List.getElem?_map,ζf]at hu;obtain⟨x,t,rfl⟩:=hu;exact .v x v (r.2 j x v t hv)
theorem uz:∀{svs:a_ SV} {xs:a_ V},cV svs=some xs->svs=xs.map .v
 | [],xs,h=>by simp[cV]at h;grind
 | x::r,xs,h=>by
  cases x <;> simp only[cV]at h <;> first|grind|skip
  obtain⟨t,u,rfl⟩:=ζf.1 h;rw[uz u];rfl
theorem bW.Va {xs ys:a_ V} (r:bW ν m H Z (xs.map .v) ys):c8 H Z xs ys:=by
 refine⟨by have:=r.1;grind,λj u v hu hv=>?_⟩
 have:(xs.map SV.v)[j]? = some (.v u):=by grind
 exact(r.2 j _ v this hv).fr
end
section
variable {ν:Nu} {Z:Nat->Prop} {st:St} {m:Tb bu} {F:Frame} {H H1:bn} {N:Nat->FuncId}
def oG (nm:FuncId->bf Nat):Operand->bf Arg
 | .tmp t=>some (.s t)
 | .const v=>match ofValue 4 v with
  | some c=>if c.good then some (.k c)else none
  | none=>none
 | .func f=>(nm f).map .f
 | .global g=>match bO.gl g with
  | some cs=>if(V.fptr cs).good then some (.k (.fptr cs))else none
  | none=>none
theorem DR {nm:FuncId->bf Nat} (D:∀f s,nm f=some s->N s=f) {g:Tb SV} (G:∀s sv,bl g s=some sv->cD ν m H Z sv (get F s)) {o:Operand} {x:Arg} {sv:SV} (u:oG nm o=some x) (hv:qj N g x=some sv) :
 ∃y,ev F o=some y/\cD ν m H Z sv y:=by
 cases o with
 | tmp t=>
  simp[oG]at u;subst u;exact⟨get F t,rfl,G t sv hv⟩
 | const w=>
  simp[oG]at u;split at u
  .rename_i c hc;split at u
   next B=>simp  at u;subst u;simp[qj]at hv;subst hv;exact⟨c,hc,.v _ _ (.same _ B)⟩
   grind
  grind
 | func f=>
  simp[oG]at u;obtain⟨z,C,rfl⟩:=u;simp[qj]at hv;subst hv;exact⟨_,rfl,.v _ _ (by rw[D f z C];exact .same _ rfl)⟩
 | global i=>
  simp[oG]at u;split at u
  .rename_i c hc;split at u
   next B=>simp  at u;subst u;simp[qj]at hv;subst hv;exact⟨.fptr c,by simp[ev,hc],.v _ _ (.same _ B)⟩
   grind
  grind
theorem oa {nm:FuncId->bf Nat} (B:∀f s,nm f=some s->N s=f) {g:Tb SV} (D:∀s sv,bl g s=some sv->cD ν m H Z sv (get F s)):∀{os:a_ Operand} {xs:a_ Arg} {svs:a_ SV},
 os.mapM (oG nm)=some xs->bV N g xs=some svs->∃ys,fq F os=some ys/\bW ν m H Z svs ys
 | [],xs,svs,u,hv=>by
  simp  at u;subst u;simp[bV]at hv;subst hv;exact⟨[],rfl,.nil⟩
 | o::os,xs,svs,u,hv=>by
  simp[ζg]at u;obtain⟨x,G,ys,J,rfl⟩:=u;simp[bV]at hv;split at hv
  next v C h1 w=>simp  at hv;subst hv;obtain⟨a,u,z⟩:=DR B D G h1;obtain⟨az,has,t⟩:=oa B D J w;exact⟨a::az,by grind[fq],.cons z t⟩
  grind
theorem cD.fQ {d:Nat} {y:V} (r:cD ν m H Z (.own d) y) {ob:bu} (h:bl m d=some ob):∃k es n,ob.uw=.sl k es n/\y=nL (ν d) k es n:=by
 cases r with|own _ _ t=>grind
theorem cD.oA {d o:Nat} {y:V} (r:cD ν m H Z (.ptr d o) y) {ob:bu} (h:bl m d=some ob):∃cs,ob=.box cs/\y=.hptr (ν d).1 0 o:=by
 cases r with|ptr _ _ _ t=>grind
theorem cD.uB {d i o:Nat} {y:V} (r:cD ν m H Z (.el d i o) y) {ob:bu} (h:bl m d=some ob):∃k es n,ob.uw=.sl k es n/\bQ k=true/\y=.hptr (ν d).1 ((ν d).2+i) o:=by
 cases r with|el _ _ _ _ t=>grind
theorem cD.Cp {d:Nat} {y:V} (r:cD ν m H Z (.mp d) y) {ob:bu} (h:bl m d=some ob):∃u,ob=.mp u/\y=.hmap (ν d).1:=by
 cases r with|mp _ _ t=>grind
theorem cD.jU {f:FuncId} {a b:a_ SV} {y:V} (r:cD ν m H Z (.clo f a b) y):∃a' u,y=.clo f a' u/\bW ν m H Z a a'/\bW ν m H Z b u:=by
 cases r with|clo _ _ _ a' u w z hva t=>exact⟨a',u,rfl,⟨w,hva⟩,⟨z,t⟩⟩
theorem cD.qe {a:a_ SV} {y:V} (r:cD ν m H Z (.tup a) y):∃a',y=.tup a'/\bW ν m H Z a a':=by
 cases r with|tup _ a' t hva=>exact⟨a',rfl,t,hva⟩
theorem cD.h_ {a:a_ SV} {y:V} (r:cD ν m H Z (.agg a) y):∃a',y=.agg a'/\bW ν m H Z a a':=by
 cases r with|agg _ a' t hva=>exact⟨a',rfl,t,hva⟩
theorem nC {p:Nat×Nat} {k:Fl} {es len:Nat} (h:bQ k=true):nL p k es len=.hsl p.1 es p.2 len:=by
 cases k <;> simp[bQ]at h <;> rfl
theorem jq {x:SV} {y:V} (h:kI m x=true) (r:cD ν m H Z x y):y.cells=[y]/\y.one=true:=by
 cases x with
 | v x=>grind[kI]
 | own d=>
  obtain⟨ob,t⟩:=Option.isSome_iff_exists.1 h;obtain⟨k,es,n,_,rfl⟩:=r.fQ t;cases k <;> exact⟨rfl,rfl⟩
 | ptr d o=>
  obtain⟨ob,t⟩:=Option.isSome_iff_exists.1 h;obtain⟨cs,rfl,rfl⟩:=r.oA t;exact⟨rfl,rfl⟩
 | el d i o=>
  obtain⟨ob,t⟩:=Option.isSome_iff_exists.1 h;obtain⟨k,es,n,_,_,rfl⟩:=r.uB t;exact⟨rfl,rfl⟩
 | mp d=>
  obtain⟨ob,t⟩:=Option.isSome_iff_exists.1 h;obtain⟨u,rfl,rfl⟩:=r.Cp t;exact⟨rfl,rfl⟩
 | clo f a b=>obtain⟨w,z,rfl,_⟩:=r.jU;exact⟨rfl,rfl⟩
 | tup l=>grind[kI]
 | agg l=>grind[kI]
 | yl id=>grind[kI]
theorem Nc {x:SV} {y:V} (h:wq m x=true) (r:cD ν m H Z x y):y.one=true:=by
 cases x with
 | v x=>
  have t:=r.fr;have u:x.one=true:=h;have hc:=t.cells;have e:x.cells=[x]:=by cases x <;> first|rfl|grind[V.one]
  rw[e]at hc;have h1:=hc.one;have w:=hc.1
  cases y with
  | agg l=>
   cases t with
   | same _ _=>grind
   | agg _ _ _ _=>grind[V.one]
  | tup l=>
   cases t with
   | same _ _=>grind
   | tup _ _ _ _=>grind[V.one]
  | _=>rfl
 | own d=>exact(jq  (x:=.own d) h r).2
 | ptr d o=>exact(jq  (x:=.ptr d o) h r).2
 | el d i o=>exact(jq  (x:=.el d i o) h r).2
 | mp d=>exact(jq  (x:=.mp d) h r).2
 | clo f a b=>exact(jq  (x:=.clo f a b) h r).2
 | tup l=>grind[wq,kI]
 | agg l=>grind[wq,kI]
 | yl id=>grind[wq,kI]
theorem EH {l:a_ SV} {ys:a_ V} (h:l.all (wq m)=true) (r:bW ν m H Z l ys):ys.all V.one=true:=by
 refine List.all_eq_true.2 λy u=>?_
 obtain⟨j,w,e⟩:=List.mem_iff_getElem.1 u;have t:j<l.length:=by rw[r.1];omega
 exact Nc (List.all_eq_true.1 h _ (List.getElem_mem t)) (r.2 j _ y (ζd t) Zd)
theorem NB {x:SV} {y:V} {c:a_ SV} (h:xI m x=some c) (r:cD ν m H Z x y):bW ν m H Z c y.cells:=by
 unfold xI at h;split at h
 .cases h;exact bW.p_ r.fr.cells
 .cases h;obtain⟨w,rfl,t⟩:=r.h_;exact t
 split at h
 next u=>cases h;rw[(jq u r).1];exact .cons r .nil
 simp_all
theorem Ia:∀{pl:a_ (Nat×Nat)} {vs cells l:a_ SV} {u cells':a_ V},bW ν m H Z cells cells'->bW ν m H Z vs u->rU m cells pl vs=some l->∃B,kf cells' pl u=some B/\bW ν m H Z l B
 | [],[],cells,l,u,cells',hc,hv,h=>by
  rw[hv.cT];simp[rU]at h;subst h;exact⟨_,rfl,hc⟩
 | [],_::_,_,_,_,_,_,_,h=>by grind[rU]
 | _::_,[],_,_,_,_,_,_,h=>by grind[rU]
 | (off,size)::pl,v::vs,cells,l,u,cells',hc,hv,h=>by
  obtain⟨w,D,rfl,h1,G⟩:=hv.inv;simp only[rU]at h;split at h
  .rename_i c z;have hr:=NB z h1;split at h
   .obtain⟨B,e1,e2⟩:=Ia   (cells':=cells'.take off++w.cells++cells'.drop (off+w.cells.length)) (by rw[<-hr.1];exact((hc.take off).append hr).append (hc.drop _)) G h
    have t:w.cells.length=size/\off+w.cells.length<=cells'.length:=by rw[<-hr.1,<-hc.1];omega
    grind[kf]
   simp_all
  simp_all
theorem Gq {size o:Nat} {agg:Bool} {cs:a_ SV} {u:a_ V} {sv:SV} (h:bW ν m H Z cs u) (hp:vk size agg ((cs.drop o).take size)=some sv):∃y,(cut u o size).bind (mk agg)=some y/\cD ν m H Z sv y:=by
 have t:=(h.drop o).take size;unfold vk at hp;split at hp
 .have hc:cut u o size=some ((u.drop o).take size):=by
   unfold cut;rw[if_pos (by rw[<-t.1];omega)]
  rw[hc];split at hp
  .split at hp
   .rename_i C w;cases hp;have z  := by rw[uz w]at t;exact t.Va
    exact⟨_,by simp_all[mk],.v _ _ (.agg _ _ z.1 z.2)⟩
   cases hp;exact⟨_,by simp_all[mk],.agg _ _ t.1 t.2⟩
  split at hp
  .rename_i x w;simp  at hp;subst hp;rw[w]at t;obtain⟨y,D,e,G,B⟩:=t.inv;rw[e,B.cT]
   grind[mk]
  grind
 grind
theorem PS {p:u_} {svs:a_ SV} {ys:a_ V} {sv:SV} (hb:∀zero pl,p=.build zero pl->V.cQ zero=true) (ho:∀d ob,bl m d=some ob->cM ν m H Z d ob) (h:bW ν m H Z svs ys) (hp:wW N m p svs=some sv):∃y,bS N p ys=some y/\cD ν m H Z sv y:=by
 unfold wW at hp;split at hp
 .
  obtain⟨y,_,rfl,h1,B⟩:=h.inv;rw[B.cT];simp  at hp;subst hp;exact⟨y,rfl,h1⟩
 .obtain⟨y,_,rfl,h1,B⟩:=h.inv;rw[B.cT];split at hp
  next L=>simp  at hp;subst hp;obtain⟨ob,u⟩:=Option.isSome_iff_exists.1 L;obtain⟨cs,rfl,rfl⟩:=h1.oA u;exact⟨_,rfl,h1⟩
  grind
 .obtain⟨y,_,rfl,h1,B⟩:=h.inv;rw[B.cT];split at hp
  next L=>simp  at hp;subst hp;obtain⟨ob,u⟩:=Option.isSome_iff_exists.1 L;obtain⟨k,es,n,L,hk,rfl⟩:=h1.uB u;exact⟨_,rfl,h1⟩
  grind
 .
  rename_i t a b;obtain⟨Q,_,rfl,h1,B⟩:=h.inv;obtain⟨T,_,rfl,O,D⟩:=B.inv;obtain⟨w3,_,rfl,h5,h6⟩:=D.inv;rw[h1.fr.bool,h6.cT];simp  at hp;refine⟨if t=true then T else w3,rfl,?_⟩
  grind
 .
  obtain⟨Q,_,rfl,h1,B⟩:=h.inv;obtain⟨T,_,rfl,O,D⟩:=B.inv;rw[O.fr.bN,D.cT];split at hp
  .rename_i k es U u;split at hp
   .simp_all
   simp  at hp;subst hp;obtain⟨W,G,I,e,rfl⟩:=h1.fQ u;cases e;cases k <;> first|grind|exact⟨_,rfl,.v _ _ (.same _ rfl)⟩
  grind
 .obtain⟨Q,_,rfl,h1,B⟩:=h.inv;obtain⟨T,_,rfl,O,D⟩:=B.inv;rw[O.fr.bN,D.cT];split at hp
  .rename_i k es U u;split at hp
   .simp_all
   simp  at hp;subst hp;obtain⟨W,G,I,e,rfl⟩:=h1.fQ u;cases e;cases k <;> first|grind|exact⟨_,rfl,.v _ _ (.same _ rfl)⟩
  grind
 .
  obtain⟨y,_,rfl,h1,B⟩:=h.inv;rw[B.cT];split at hp
  next L=>simp  at hp;subst hp;obtain⟨ob,u⟩:=Option.isSome_iff_exists.1 L;obtain⟨cs,rfl,rfl⟩:=h1.oA u;exact⟨_,rfl,.ptr _ _ _ λJ C=>by grind⟩
  grind
 .obtain⟨y,_,rfl,h1,B⟩:=h.inv;rw[B.cT];split at hp
  next L=>simp  at hp;subst hp;obtain⟨ob,u⟩:=Option.isSome_iff_exists.1 L;obtain⟨k,es,n,L,hk,rfl⟩:=h1.uB u;exact⟨_,rfl,.el _ _ _ _ λJ C=>by rw[u]at C;grind⟩
  simp at hp
 .
  obtain⟨Q,_,rfl,h1,B⟩:=h.inv;obtain⟨T,_,rfl,O,D⟩:=B.inv;rw[O.fr.int,D.cT];split at hp
  .rename_i k es U u;split at hp
   .rename_i hc;obtain⟨hk,rfl,X,S⟩:=hc;simp  at hp;subst hp;obtain⟨W,G,I,e,rfl⟩:=h1.fQ u;cases e;rw[nC hk];refine⟨.hptr (ν _).1 ((ν _).2+_) 0,by simp only[bS,kS,if_neg (Int.not_lt.2 X),true_and,if_pos S];rfl,.el _ _ _ _ λJ C=>?_⟩
    rw[u]at C;cases C;exact⟨_,_,_,rfl,hk,rfl⟩
   simp at hp
  .rename_i k U w u;split at hp
   .rename_i hc;obtain⟨hk,rfl,X,S⟩:=hc;simp  at hp;subst hp;obtain⟨W,G,I,e,rfl⟩:=h1.fQ u;cases e;rw[nC hk];refine⟨.hptr (ν _).1 ((ν _).2+_) 0,by simp only[bS,kS,if_neg (Int.not_lt.2 X),true_and,if_pos S];rfl,.el _ _ _ _ λJ C=>?_⟩
    rw[u]at C;cases C;exact⟨_,_,_,rfl,hk,rfl⟩
   simp at hp
  simp at hp
 .
  obtain⟨Q,_,rfl,h1,B⟩:=h.inv;obtain⟨T,_,rfl,O,D⟩:=B.inv;rw[O.fr.int,D.cT];split at hp
  .rename_i hc;simp  at hp;subst hp;obtain⟨ob,u⟩:=Option.isSome_iff_exists.1 hc.2.2;obtain⟨cs,rfl,rfl⟩:=h1.oA u;refine⟨.hptr (ν _).1 0 (_+_),by simp only[bS,wJ,if_pos (And.intro hc.1 hc.2.1)];rfl,.ptr _ _ _ λJ C=>?_⟩
   rw[u]at C;grind
  simp at hp
 .obtain⟨Q,_,rfl,h1,B⟩:=h.inv;obtain⟨T,_,rfl,O,D⟩:=B.inv;rw[O.fr.int,D.cT];split at hp
  .rename_i hc;simp  at hp;subst hp;obtain⟨ob,u⟩:=Option.isSome_iff_exists.1 hc.2.2;obtain⟨k,es,n,L,hk,rfl⟩:=h1.uB u;refine⟨.hptr (ν _).1 (_+_) (_+_),by simp only[bS,wJ,if_pos (And.intro hc.1 hc.2.1)];rfl,.el _ _ _ _ λJ C=>?_⟩
   rw[u]at C;grind
  simp at hp
 .
  obtain⟨Q,_,rfl,h1,B⟩:=h.inv;rw[B.cT];split at hp
  .rename_i k es U u;simp  at hp;subst hp;obtain⟨W,G,I,e,rfl⟩:=h1.fQ u;cases e;have:=ho _ _ u;simp[cM]at this;cases hk:k <;> simp[hk,bQ]at this ⊢
   .subst this;exact⟨_,rfl,.v _ _ (.same _ rfl)⟩
   .subst this;exact⟨_,rfl,.v _ _ (.same _ rfl)⟩
   .exact⟨_,rfl,.v _ _ (.same _ rfl)⟩
   exact⟨_,rfl,.v _ _ (.same _ rfl)⟩
  .rename_i k U w u;simp  at hp;subst hp;obtain⟨W,G,I,e,rfl⟩:=h1.fQ u;cases e;have:=ho _ _ u;simp[cM]at this;cases hk:k <;> simp[hk,bQ]at this ⊢
   .obtain⟨rfl,_⟩:=this;exact⟨_,rfl,.v _ _ (.same _ rfl)⟩
   .obtain⟨rfl,_⟩:=this;exact⟨_,rfl,.v _ _ (.same _ rfl)⟩
   exact⟨_,rfl,.v _ _ (.same _ rfl)⟩
  simp at hp
 .
  rename_i vs name k;simp  at hp;subst hp;exact⟨_,rfl,.clo _ _ _ _ _ (h.take k).1 (h.drop k).1 (h.take k).2 (h.drop k).2⟩
 .
  obtain⟨Q,_,rfl,h1,B⟩:=h.inv;rw[B.cT];obtain⟨ws,rfl,hw⟩:=h1.qe;obtain⟨z,hz,Y⟩:=hw.get hp;exact⟨z,hz,Y⟩
 .
  rename_i vs zero pl;obtain⟨l,hl,rfl⟩:=ζf.1 hp;obtain⟨l',h1,B⟩:=Ia (bW.p_ (c8.same (hb zero pl rfl))) h hl;exact⟨.agg l',by grind[Go.VE.bS],.agg _ _ B.1 B.2⟩
 .
  obtain⟨Q,_,rfl,h1,B⟩:=h.inv;rw[B.cT];obtain⟨ws,rfl,hw⟩:=h1.h_
  grind[Gq,Go.VE.bS]
 grind
theorem Hi {p:u_} {svs:a_ SV} {ys:a_ V} {sv:SV} (u:∀zero pl,p=.build zero pl->V.cQ zero=true) (D:∀d ob,bl m d=some ob->cM ν m H Z d ob) (h:bW ν m H Z svs ys) (hp:jl N m p svs=some sv) :
 ∃y,bS N p ys=some y/\cD ν m H Z sv y:=by
 unfold jl at hp;split at hp
 next G t=>obtain⟨z,w,rfl⟩:=ζf.1 hp;rw[uz t]at h;obtain⟨B,h1,C⟩:=c8.bS u h.Va w;exact⟨B,h1,.v _ _ C⟩
 grind[PS]
theorem bW.cV {svs:a_ SV} {xs ys:a_ V} (h:bW ν m H Z svs ys) (u:cV svs=some xs):c8 H Z xs ys:=by
 rw[uz u]at h;exact h.Va
theorem Ch {k:V}:∀{a b:a_ (V×V)} {i:Nat},DE H Z a b->(ij k a i=some none->ij k b i=some none)/\∀j v,ij k a i=some (some (j,v))->∃B,ij k b i=some (some (j,B))/\FR H Z v B
 | [],b,i,h=>by
  have:b=[]:=List.length_eq_zero_iff.1 (by have:=h.1;grind)
  grind[ij]
 | (k1,x)::a,[],i,h=>by have:=h.1;grind
 | (k1,x)::a,(k2,y)::b,i,h=>by
  obtain⟨⟨e,_⟩,w⟩:=h.2 0 _ _ rfl rfl;subst e;have t:DE H Z a b:=⟨by have:=h.1;grind,λj u v hu hv=>h.2 (j+1) u v Zd Zd⟩
  have z:=Ch (i:=i+1) (k:=k) t
  grind[ij]
theorem vi {kk:wZ} {k:V} (h:oZ kk k=true):k.scalar=true:=by
 unfold oZ at h;split at h
 .rfl
 .rfl
 .simp  at h;obtain⟨a,t⟩:=Option.isSome_iff_exists.1 h.2;exact qD t
 grind
theorem vS {r:Jr} {svs:a_ SV} {ys:a_ V} {sv:SV} (ak:∀s a,r≠.loadF s a) (T:∀kk z ok,r=.lookup kk z ok->z.good=true) (h:bW ν m H Z svs ys) (ho:∀d,SV.c6 d svs=true->∀ob,bl m d=some ob->cM ν m H Z d ob) (hp:oI m r svs=some sv) :
 ∃y,eP H r ys=some y/\cD ν m H Z sv y:=by
 unfold oI at hp;split at hp
 .
  obtain⟨U,_,rfl,h1,I⟩:=h.inv;rw[I.cT];split at hp
  .rename_i cs u;obtain⟨al,e,rfl⟩:=h1.oA u;obtain⟨es,am,hr,hc,_⟩:=ho _ (by simp[SV.c6,SV.ct]) _ u
   grind[Gq,eP,dX,Ob.rows]
  grind
 .
  obtain⟨U,_,rfl,h1,I⟩:=h.inv;rw[I.cT];split at hp
  .rename_i k es xs u;split at hp
   .rename_i cs W;obtain⟨z,L,rfl⟩:=ζf.1 hp;obtain⟨k1,ab,an,e,hk,rfl⟩:=h1.uB u;cases e;have:=ho _ (by simp[SV.c6,SV.ct]) _ u
    simp[cM,hk]at this;obtain⟨rs,hr,hl,B,_⟩:=this;obtain⟨c,hc,ad⟩:=B.get W;have hj:=(ζe.1 W).1;rw[List.getElem?_take,if_pos hj,List.getElem?_drop]at hc;obtain⟨r1,w,J⟩:=ζg.1 L;obtain⟨r2,ae,C⟩:=ad.cut w;obtain⟨z',X,Y⟩:=C.mk J;refine⟨z',?_,.v _ _ Y⟩
    grind[eP,dX,Ob.rows]
   grind
  .rename_i k xs j t u;split at hp
   .rename_i hc;obtain⟨rfl,rfl,rfl,rfl⟩:=hc;cases hp;obtain⟨k1,ab,n1,e,hk,rfl⟩:=h1.uB u;cases e;have:=ho _ (by simp[SV.c6,SV.ct]) _ u
    simp only[cM,hk,if_true]at this;obtain⟨_,h0,af,ys,hr,hl,B⟩:=this;have hj:=af _ _ rfl;have:=B j _ _ (ζd hj) (ζd Za)
    simp only[nk,if_true]at this;obtain⟨v,e1,e2,e3⟩:=this;exact⟨v,by simp[eP,dX,hr,Ob.rows,h0,hl,hj,e1,cut,mk],e3⟩
   grind
  grind
 .
  rename_i size agg p;obtain⟨U,_,rfl,h1,I⟩:=h.inv;rw[I.cT];obtain⟨z,L,rfl⟩:=ζf.1 hp;obtain⟨r1,w,J⟩:=ζg.1 L;unfold dX at w;split at w
  .rename_i cs;rcases h1.fr.lP with rfl|⟨id,el,off,es,ys,ao,rfl,Y,hr,he,ap,B⟩
   .refine⟨z,by grind[eP,dX],.v _ _ (.same _ ?_)⟩
    have ah  := by have:=h1.fr.good;simpa [V.good]using this
    obtain⟨r',aq,C⟩:=(c8.same (H:=H) (Z:=Z) ah).cut w;obtain⟨z',X,D⟩:=C.mk J;exact D.good
   obtain⟨r2,ae,C⟩:=B.cut w;obtain⟨z',X,D⟩:=C.mk J;refine⟨z',?_,.v _ _ D⟩
   grind[bq,eP,dX,cut]
  all_goals grind
 .
  rename_i kk z ok d k;obtain⟨U,_,rfl,h1,I⟩:=h.inv;obtain⟨w2,_,rfl,h3,h4⟩:=I.inv;rw[h4.cT];split at hp
  .rename_i O u;split at hp
   .rename_i hk;obtain⟨_,e,rfl⟩:=h1.Cp u;have Q:=h3.fr.scalar.1 (vi hk);subst Q;obtain⟨aj,hr,ai⟩:=ho _ (by simp[SV.c6,SV.ct]) _ u
    obtain⟨f1,f2⟩:=Ch   ai;split at hp
    .rename_i j v B;obtain⟨v',ar,aa⟩:=f2 j v B;simp  at hp;subst hp;refine⟨if ok=true then .tup [v',.bool true]else v',by grind[eP,mj],?_⟩
     cases ok
     .exact .v _ _ aa
     refine .v _ _ (.tup _ _ rfl (c8.cons aa (.cons (.same _ rfl) .nil)).2)
    .rename_i B;simp  at hp;subst hp;refine⟨if ok=true then .tup [z,.bool false]else z,by grind[eP,mj],?_⟩
     have L:=T kk z ok rfl;cases ok
     .exact .v _ _ (.same _ L)
     exact .v _ _ (.same _ (by grind[V.good,V.cQ]))
    grind
   grind
  grind
 .
  rename_i kk z ok p k;obtain⟨U,_,rfl,h1,I⟩:=h.inv;obtain⟨w2,_,rfl,h3,h4⟩:=I.inv;rw[h4.cT];obtain⟨x,G,rfl⟩:=ζf.1 hp;simp[eP]at G;have L:=T kk z ok rfl;split at G
  .rename_i O S;have key:mj H U=some O/\V.sL O=true:=by
    unfold mj at S;split at S
    .rw[h1.fr.gi];simp  at S;subst S;exact⟨rfl,rfl⟩
    .rw[h1.fr.fmap];simp  at S;subst S;exact⟨rfl,by have:=h1.fr.good;grind[V.good]⟩
    all_goals grind
   split at G
   .rename_i hk;have Q:=h3.fr.scalar.1 (vi hk);subst Q;split at G
    .rename_i j v B;simp  at G;subst G;have hv  := by
      have:∀{l:a_ (V×V)} {i:Nat},V.sL l=true->ij w2 l i=some (some (j,v))->v.good=true:=by
       intro l
       induction l with
       | nil=>grind[ij]
       | cons p l ih=>
        intro i hg h;simp[V.sL]at hg;simp[ij]at h
        grind
      exact this key.2 B
     refine⟨if ok=true then .tup [v,.bool true]else v,by grind[eP],?_⟩
     cases ok
     .exact .v _ _ (.same _ hv)
     exact .v _ _ (.same _ (by grind[V.good,V.cQ]))
    .rename_i B;simp  at G;subst G;refine⟨if ok=true then .tup [z,.bool false]else z,by grind[eP],?_⟩
     cases ok
     .exact .v _ _ (.same _ L)
     exact .v _ _ (.same _ (by grind[V.good,V.cQ]))
    simp at G
   simp at G
  simp at G
 all_goals grind
end
section
variable {Rv:Nat->Prop} {ν ν':Nu} {Z Z':Nat->Prop} {st st':St} {m m':Tb bu} {F F':Frame} {H H':bn}
theorem qS {k:Fl} {xs:a_ (a_ V)} {h:bf (Nat×Nat)} {i:Nat} (hp:(bu.dp k xs h).pt (i+1)=true):(∀t,h≠some (i,t))/\∃es B,xs[i]? = some [.fsl es B]:=by
 simp only[bu.pt,ζh]at hp;obtain⟨h1,u⟩:=hp;refine⟨λt e=>?_,?_⟩
 .subst e;simp at h1
 split at u
 .exact⟨_,_,by assumption⟩
 cases u
theorem nk.out {d i:Nat} {h:bf (Nat×Nat)} {x y:a_ V} (u:∀t,h≠some (i,t)):nk ν m H Z d h i x y↔uq ν H Z d i x y:=by
 unfold nk;split
 .rename_i j t;have:j≠i:=λe=>u t (by rw[e])
  rw[if_neg this]
 rfl
theorem cM.at {d:Nat} {ob:bu} (o:cM ν m H Z d ob) {j:Nat} (h:ob.pt j=true):∃x,H[ν.at d j]? = some x:=by
 cases j with
 | zero=>
  have h:dL ob=true:=h
  cases ob with
  | sl k es u=>
   simp only[dL]at h;simp only[cM,h,if_true]at o;exact⟨_,o.choose_spec.1⟩
  | box cs=>obtain⟨es,B,hr,_⟩:=o;exact⟨_,hr⟩
  | mp C=>obtain⟨z,hr,_⟩:=o;exact⟨_,hr⟩
  | dp k u w=>
   simp only[dL]at h;simp only[cM,h,if_true]at o;obtain⟨_,_,_,D,hr,_⟩:=o;exact⟨_,hr⟩
 | succ i=>
  cases ob with
  | dp k u w=>
   obtain⟨h1,es,I,t⟩:=qS h;simp only[cM]at o;split at o
   .obtain⟨_,_,_,D,hr,J,G⟩:=o;have L:=(ζe.1 t).1;have:=(nk.out h1).1 (G i _ _ t (ζd Za))
    rcases this with⟨_,h|h⟩|⟨_,_,O,_,_,h,_⟩
    .cases h
    .cases h
    exact⟨_,h⟩
   rw[o.1]at t;cases t
  | _=>simp[bu.pt]at h
theorem cM.free {d:Nat} {ob:bu} (o:cM ν m H Z d ob) {j:Nat} (h:ob.pt j=true):H[ν.at d j]? ≠ some .free:=by
 cases j with
 | zero=>
  have h:dL ob=true:=h;show H[(ν d).1]? ≠ _
  cases ob with
  | sl k es u=>simp only[dL]at h;simp only[cM,h,if_true]at o;obtain⟨z,hr,_⟩:=o;rw[hr];simp
  | box cs=>obtain⟨es,C,hr,_⟩:=o;rw[hr];simp
  | mp D=>obtain⟨B,hr,_⟩:=o;rw[hr];simp
  | dp k u w=>simp only[dL]at h;simp only[cM,h,if_true]at o;obtain⟨_,_,_,z,hr,_⟩:=o;rw[hr];simp
 | succ i=>
  cases ob with
  | dp k u w=>
   obtain⟨h1,es,I,t⟩:=qS h;simp only[cM]at o;split at o
   .obtain⟨_,_,_,z,hr,J,G⟩:=o;have L:=(ζe.1 t).1;rcases (nk.out h1).1 (G i _ _ t (ζd Za))with⟨_,h|h⟩|⟨_,_,O,_,_,h,_⟩
    .cases h
    .cases h
    show H[ν.inn d i]? ≠ _;rw[h];simp
   rw[o.1]at t;cases t
  | _=>simp[bu.pt]at h
theorem R.lt (r:R ν Z st F H) {id:Nat} (h:eF ν st.m id):id<H.length:=by
 obtain⟨d,ob,j,h1,t,rfl⟩:=h;obtain⟨o,u⟩:=(r.obj d ob h1).at t;exact(ζe.1 u).1
theorem R.uC (r:R ν Z st F H) {id:Nat} (h:Z id):id<H.length:=by
 have:=r.zrow id h;unfold bq at this;obtain⟨x,t⟩:=Option.isSome_iff_exists.1 this;obtain⟨ob,h1,_⟩:=ζg.1 t;exact(ζe.1 h1).1
theorem Deep.mono (d:Deep H Z) (h:∀id,Z id->bq H' id=bq H id):Deep H' Z where
 row:=λid es w t hr c hc u hu=>by
  rw[h id t]at hr;obtain⟨x,z⟩:=d.row id es w t hr c hc u hu;exact⟨x,z.mono λk hk=>⟨hk,h k hk⟩⟩
theorem t_.mono {ys:a_ (a_ V)} (h:∀id,Z id->Z' id/\bq H' id=bq H id) (s:t_ H Z ys):t_ H' Z' ys:=λc hc u hu=>by
 obtain⟨x,t⟩:=s c hc u hu;exact⟨x,t.mono h⟩
theorem DE.mono {a b:a_ (V×V)} (h:∀id,Z id->Z' id/\bq H' id=bq H id) (s:DE H Z a b):DE H' Z' a b:=⟨s.1,λj u v hu hv=>⟨(s.2 j u v hu hv).1,(s.2 j u v hu hv).2.mono h⟩⟩
theorem cM.mono {d J:Nat} {ob:bu} (B:∀id,Z id->Z' id/\bq H' id=bq H id) (hd:ν' J=ν d) (D:∀j,ob.pt j=true->H'[ν.at d j]? = H[ν.at d j]?)
 (T:∀e,ob.ct e=true->∀ob',bl m' e=some ob'->∃ob,bl m e=some ob/\ν' e=ν e/\sameShape ob ob') (o:cM ν m H Z d ob) (U:ν'.inn J=ν.inn d:=by rfl):cM ν' m' H' Z' J ob:=by
 cases ob with
 | sl k es X=>
  simp only[cM,hd]at o ⊢;split
  next hk=>rw[if_pos hk]at o;obtain⟨I,h1,u,C,L,O⟩:=o;exact⟨I,(D 0 (by simpa [bu.pt,dL]using hk)).trans h1,u,C.mono B,L.mono B,O⟩
  rename_i hk;rw[if_neg hk]at o;exact o
 | box cs=>
  obtain⟨es,Q,h1,u,C⟩:=o;exact⟨es,Q,by rw[hd];exact(D 0 rfl).trans h1,u.mono B T,C⟩
 | mp Y=>
  obtain⟨G,h1,u⟩:=o;exact⟨G,by rw[hd];exact(D 0 rfl).trans h1,u.mono B⟩
 | dp k X w=>
  simp only[cM,hd]at o ⊢;split
  .rename_i hk;rw[if_pos hk]at o;obtain⟨h0,h1,u,I,C,L,O⟩:=o;refine⟨h0,h1,u,I,(D 0 hk).trans C,L,λi x y W hy=>?_⟩
   have hc:(∀t,w≠some (i,t))->uq ν H Z d i x y->uq ν' H' Z' J i x y:=λz h=>by
    rcases h with h|⟨es,zs,ws,rfl,rfl,e1,e2⟩
    .exact .inl h
    refine .inr ⟨es,zs,ws,rfl,by rw[U],?_,e2.mono B⟩
    rw[U];have:=D (i+1) (by simp only[bu.pt,W,Bool.and_true];split <;> grind)
    simp only[Nu.at]at this;rw[this];exact e1
   have S:=O i x y W hy
   by_cases z:∃t,w=some (i,t)
   .obtain⟨t,rfl⟩:=z;simp only[nk,if_true]at S ⊢;obtain⟨v,e1,e2,e3⟩:=S;exact⟨v,e1,e2,e3.mono B λe he=>T e (by simpa [SV.ct,bu.ct]using he)⟩
   have z:∀t,w≠some (i,t):=λt e=>z ⟨t,e⟩
   exact(nk.out z).2 (hc z ((nk.out z).1 S))
  rename_i hk;rw[if_neg hk]at o;exact o
theorem iE (ν:Nu) (m:Tb bu) (e:Nat):∀ob',bl m e=some ob'->∃ob,bl m e=some ob/\ν e=ν e/\sameShape ob ob':=λob' h=>⟨ob',h,rfl,.refl _⟩
theorem R.heap (r:R ν Z st F H) (B:∀id,eF ν st.m id->H'[id]? = H[id]?) (u:∀id,Z id->bq H' id=bq H id):R ν Z st F H' where
 slot:=λs t w=>(r.slot s t w).mono (λid h=>⟨h,u id h⟩) λd _=>iE ν st.m d
 obj:=λd ob hd=>cM.mono (λid h=>⟨h,u id h⟩) rfl (λj z=>B _ ⟨d,ob,j,hd,z,rfl⟩) (λe _=>iE ν st.m e) (r.obj d ob hd)
 inj:=r.inj
 apart:=r.apart
 zrow:=λid h=>by rw[u id h];exact r.zrow id h
 deep:=r.deep.mono u
theorem R.put (r:R ν Z st F H) {d:Nat} {sv:SV} {y:V} (h:cD ν st.m H Z sv y):R ν Z { st with g:=bA st.g d sv } (set F d y) H where
 slot:=λs x t=>by
  by_cases e:d=s
  .subst e;rw[bY]at t;cases t;rw[vc];exact h
  rw[cq st.g sv e]at t;rw[iP _ _ e];exact r.slot s x t
 obj:=r.obj
 inj:=r.inj
 apart:=r.apart
 zrow:=r.zrow
 deep:=r.deep
theorem Ev.slots (g:Tb SV):Ev Rv ν Z st H ν Z { st with g:=g } H:=
 ⟨Nat.le_refl _,λ_ _ _ _ _=>rfl,λ_ h=>⟨h,rfl⟩,λ_ h=>.inl h,λ_ h=>.inl h,λ_ _ t h=>⟨t,h,rfl,.refl _⟩,rfl⟩
def gA (ν:Nu) (d:Nat) (p:Nat×Nat):Nu:=⟨λk=>if k=d then p else ν k,ν.inn⟩
theorem gO (ν:Nu) (d:Nat) (p:Nat×Nat):gA ν d p d=p:=if_pos rfl
theorem AT (ν:Nu) {d k:Nat} (p:Nat×Nat) (h:k≠d):gA ν d p k=ν k:=if_neg h
theorem J8 (ν:Nu) {d k:Nat} (p:Nat×Nat) (h:k≠d) (j:Nat):(gA ν d p).at k j=ν.at k j:=by
 cases j with
 | zero=>simp only[Nu.at,AT ν p h]
 | succ i=>rfl
def bu.flat (ob:bu):Prop:=∀j,ob.pt j=true->j=0
theorem jh {ob:bu} (h:∀k xs w,ob≠.dp k xs w):ob.flat:=λj t=>by
 cases j with
 | zero=>rfl
 | succ i=>cases ob <;> simp[bu.pt]at t h
theorem jI {d:Nat} (h:st.new d=true):d∉st.pin/\bl st.m d=none/\tQ d st.g=false/\rX d st.m=false:=by
 unfold St.new at h;simp only[ζh,Bool.not_eq_true',Option.isNone_iff_eq_none,List.contains_eq_mem,decide_eq_false_iff_not]at h;exact⟨h.1.1.1,h.1.1.2,h.1.2,h.2⟩
theorem yo {d:Nat} {ob:bu} {p:Nat×Nat} {e:Nat} (h:e≠d):∀ob',bl (bA m d ob) e=some ob'->∃ob,bl m e=some ob/\gA ν d p e=ν e/\sameShape ob ob':=λob' t=>by
 rw[cq m ob (Ne.symm h)]at t;exact⟨ob',t,AT ν p h,.refl _⟩
theorem mm {ob ob':bu} (B:dL ob'=dL ob) (u:ob'.flat:=by exact jh Zc):∀j,ob'.pt j=true->ob.pt j=true:=λj h=>by
 have:=u j h;subst this;exact(show dL ob=true from B▸h)
def iQ (ν:Nu) (d:Nat) (p:Nat×Nat) (f:Nat->Nat):Nu:=⟨λk=>if k=d then p else ν k,λk=>if k=d then f else ν.inn k⟩
theorem rq (ν:Nu) {d k:Nat} (p:Nat×Nat) (f:Nat->Nat) (h:k≠d) (j:Nat):(iQ ν d p f).at k j=ν.at k j:=by
 cases j with
 | zero=>exact congrArg Prod.fst (if_neg h)
 | succ i=>exact congrFun (if_neg h) i
theorem mq (ν:Nu) (d:Nat) (p:Nat×Nat) (f:Nat->Nat):(iQ ν d p f) d=p/\(iQ ν d p f).inn d=f:=⟨if_pos rfl,if_pos rfl⟩
theorem O6 (ν:Nu) (d:Nat) (p:Nat×Nat):gA ν d p=iQ ν d p (ν.inn d):=by
 have:(iQ ν d p (ν.inn d)).inn=ν.inn:=funext λk=>by
  show (if k=d then ν.inn d else ν.inn k)=_;split
  next h=>rw[h]
  rfl
 show (⟨_,ν.inn⟩:Nu)=⟨_,(iQ ν d p (ν.inn d)).inn⟩;rw[this]
theorem R.P0 (r:R ν Z st F H) {d:Nat} {ob:bu} {p:Nat×Nat} {f:Nat->Nat} (n2:bl st.m d=none) (T:tQ d st.g=false) (U:∀e o,bl st.m e=some o->o.ct d=true->cM (iQ ν d p f) (bA st.m d ob) H Z e o)
 (J:∀j,ob.pt j=true->¬eF ν st.m ((iQ ν d p f).at d j)/\¬Z ((iQ ν d p f).at d j)) (W:∀j O,ob.pt j=true->ob.pt O=true->(iQ ν d p f).at d j=(iQ ν d p f).at d O->j=O) (Y:cM (iQ ν d p f) (bA st.m d ob) H Z d ob) :
 R (iQ ν d p f) Z { st with m:=bA st.m d ob } F H:=by
 have key:∀u t,bl (bA st.m d ob) u=some t->u≠d->bl st.m u=some t:=λu t h e=>by rw[cq st.m ob (Ne.symm e)]at h;exact h
 have L:∀e,e≠d->∀t,bl (bA st.m d ob) e=some t->∃ob,bl st.m e=some ob/\(iQ ν d p f) e=ν e/\sameShape ob t:=λe C t h=>⟨t,key e t h C,if_neg C,.refl _⟩
 refine⟨λs X D=>?_,λu t hd=>?_,?_,?_,r.zrow,r.deep⟩
 .refine(r.slot s X D).mono (λid h=>⟨h,rfl⟩) λe C=>L e ?_
  rintro rfl;rw[yp T D]at C;cases C
 .by_cases e:u=d
  .subst e;simp only at hd;rw[bY]at hd;cases hd;exact Y
  have G:=key u t hd e
  by_cases D:t.ct d=true
  .exact U u t G D
  refine cM.mono (λid h=>⟨h,rfl⟩) (if_neg e) (λ_ _=>rfl) (λk hk=>L k ?_) (r.obj u t G) (if_neg e)
  rintro rfl;exact D hk
 .intro d1 d2 o1 o2 Q S h1 w z I B
  by_cases e1:d1=d <;> by_cases e2:d2=d
  .subst e1;subst e2;simp only at h1 w;rw[bY]at h1 w;cases h1;cases w;exact⟨rfl,W _ _ z I B⟩
  .subst e1;simp only at h1;rw[bY]at h1;cases h1;rw[rq ν p f e2]at B;exact absurd ⟨d2,o2,S,key d2 o2 w e2,I,B.symm⟩ (J _ z).1
  .subst e2;simp only at w;rw[bY]at w;cases w;rw[rq ν p f e1]at B;exact absurd ⟨d1,o1,Q,key d1 o1 h1 e1,z,B⟩ (J _ I).1
  rw[rq ν p f e1,rq ν p f e2]at B;exact r.inj d1 d2 o1 o2 Q S (key d1 o1 h1 e1) (key d2 o2 w e2) z I B
 intro d1 o1 j h1 z
 by_cases e1:d1=d
 .subst e1;simp only at h1;rw[bY]at h1;cases h1;exact(J _ z).2
 rw[rq ν p f e1];exact r.apart d1 o1 j (key d1 o1 h1 e1) z
theorem R.add (r:R ν Z st F H) {d:Nat} (D:st.new d=true) {ob:bu} {p:Nat×Nat} (G:dL ob=true->¬eF ν st.m p.1/\¬Z p.1) (B:cM (gA ν d p) (bA st.m d ob) H Z d ob) (u:ob.flat:=by exact jh Zc) :
 R (gA ν d p) Z { st with m:=bA st.m d ob } F H:=by
 obtain⟨_,w,z,C⟩:=jI D;rw[O6]at B ⊢;refine r.P0 w z (λe o h t=>?_) (λj h=>?_) (λj J h I _=>by rw[u _ h,u _ I]) B
 .rw[q_ C h]at t;cases t
 have:=u _ h;subst this;simp only[Nu.at,mq];exact G h
theorem Ho {d:Nat} {ob:bu} {p:Nat×Nat} {f:Nat->Nat} {id:Nat} (h:eF (iQ ν d p f) (bA m d ob) id):eF ν m id\/∃j,ob.pt j=true/\(iQ ν d p f).at d j=id:=by
 obtain⟨k,o,j,h1,u,t⟩:=h
 by_cases e:k=d
 .subst e;rw[bY]at h1;cases h1;exact .inr ⟨j,u,t⟩
 rw[rq ν p f e]at t;rw[cq m ob (Ne.symm e)]at h1;exact .inl ⟨k,o,j,h1,u,t⟩
theorem AM {d:Nat} {ob:bu} {p:Nat×Nat} {id:Nat} (h:eF (gA ν d p) (bA m d ob) id) (u:ob.flat:=by exact jh Zc):eF ν m id\/(dL ob=true/\id=p.1):=by
 obtain⟨k,o,j,h1,w,t⟩:=h
 by_cases e:k=d
 .subst e;rw[bY]at h1;cases h1;have:=u _ w;subst this;simp only[Nu.at,gO]at t;exact .inr ⟨w,t.symm⟩
 rw[J8 ν p e]at t;rw[cq m ob (Ne.symm e)]at h1;exact .inl ⟨k,o,j,h1,w,t⟩
theorem Ev.add {d:Nat} (B:st.new d=true) {ob:bu} {p:Nat×Nat} (D:H.length<=H'.length) (G:∀id,id<H.length->¬Rv id->H'[id]? = H[id]?) (J:∀id,Z id->bq H' id=bq H id)
 (hp:dL ob=true->Rv p.1\/H.length<=p.1) (u:ob.flat:=by exact jh Zc):Ev Rv ν Z st H (gA ν d p) Z { st with m:=bA st.m d ob } H' where
 len:=D
 same:=λid h _ _ hr=>G id h hr
 rows:=λid h=>⟨h,J id h⟩
 own:=λid h=>by
  rcases AM h u with h|⟨h1,rfl⟩
  .exact .inl h
  exact .inr (hp h1)
 frz:=λid h=>.inl h
 pin:=λe w t h=>by
  have:e≠d:=by rintro rfl;exact(jI B).1 w
  exact yo this t h
 pins:=rfl
theorem R.Ej (r:R ν Z st F H) {d:Nat} {ob ob':bu} (B:bl st.m d=some ob) (D:sameShape ob ob') (T:∀j,ob'.pt j=true->ob.pt j=true) (O:∀id,(dL ob=true->id≠(ν d).1)->H'[id]? = H[id]?)
 (U:cM ν (bA st.m d ob') H' Z d ob'):R ν Z { st with m:=bA st.m d ob' } F H':=by
 have w:∀id,Z id->Z id/\bq H' id=bq H id:=λid h=>⟨h,by
  unfold bq;rw[O id (by rintro z rfl;exact r.apart d ob 0 B z h)]⟩
 have Q:∀e t,bl (bA st.m d ob') e=some t->∃u,bl st.m e=some u/\ν e=ν e/\sameShape u t:=λe t h=>by
  by_cases k:e=d
  .subst k;rw[bY]at h;cases h;exact⟨ob,B,rfl,D⟩
  rw[cq st.m ob' (Ne.symm k)]at h;exact⟨t,h,rfl,.refl _⟩
 have C:∀e t,bl (bA st.m d ob') e=some t->∃u,bl st.m e=some u/\∀j,t.pt j=true->u.pt j=true:=λe t h=>by
  by_cases k:e=d
  .subst k;rw[bY]at h;cases h;exact⟨ob,B,T⟩
  rw[cq st.m ob' (Ne.symm k)]at h;exact⟨t,h,λ_ h=>h⟩
 refine⟨λs S D=>(r.slot s S D).mono w λe _=>Q e,λG t hd=>?_,?_,?_,λid h=>by rw[(w id h).2];exact r.zrow id h,r.deep.mono λid h=>(w id h).2⟩
 .by_cases e:G=d
  .subst e;simp only at hd;rw[bY]at hd;cases hd;exact U
  simp only at hd;rw[cq st.m ob' (Ne.symm e)]at hd;refine cM.mono w rfl (λj I=>O _ λz h=>e (r.inj G d t ob j 0 hd B I z h).1) (λk _=>Q k) (r.obj G t hd)
 .intro d1 d2 o1 o2 W X h1 Y J b2 hp;obtain⟨p1,k1,L⟩:=C d1 o1 h1;obtain⟨p2,k2,l2⟩:=C d2 o2 Y;exact r.inj d1 d2 p1 p2 W X k1 k2 (L _ J) (l2 _ b2) hp
 intro d1 o1 j h1 J;obtain⟨p1,k1,L⟩:=C d1 o1 h1;exact r.apart d1 p1 j k1 (L _ J)
theorem Ev.Ej (r:R ν Z st F H) {d:Nat} {ob ob':bu} (u:bl st.m d=some ob) (D:sameShape ob ob') (G:∀j,ob'.pt j=true->ob.pt j=true) (B:∀id,(dL ob=true->id≠(ν d).1)->H'[id]? = H[id]?) (J:H.length<=H'.length) :
 Ev Rv ν Z st H ν Z { st with m:=bA st.m d ob' } H' where
 len:=J
 same:=λid _ I _ _=>B id λt e=>I ⟨d,ob,0,u,t,e.symm⟩
 rows:=λid h=>⟨h,by unfold bq;rw[B id (by rintro t rfl;exact r.apart d ob 0 u t h)]⟩
 own:=λid ⟨k,o,j,h1,z,C⟩=>by
  by_cases e:k=d
  .subst e;simp only at h1;rw[bY]at h1;cases h1;exact .inl ⟨k,ob,j,u,G _ z,C⟩
  simp only at h1;rw[cq st.m ob' (Ne.symm e)]at h1;exact .inl ⟨k,o,j,h1,z,C⟩
 frz:=λid h=>.inl h
 pin:=λe _ w h=>by
  by_cases k:e=d
  .subst k;simp only at h;rw[bY]at h;cases h;exact⟨ob,u,rfl,D⟩
  simp only at h;rw[cq st.m ob' (Ne.symm k)]at h;exact⟨w,h,rfl,.refl _⟩
 pins:=rfl
theorem R.fT (r:R ν Z st F H) {d:Nat} {ob ob':bu} (B:bl st.m d=some ob) (D:sameShape ob ob') (G:∀j,ob'.pt j=true->ob.pt j=true) (J:∀id,id≠(ν d).1->H'[id]? = H[id]?) (u:dL ob=true)
 (O:cM ν (bA st.m d ob') H' Z d ob'):R ν Z { st with m:=bA st.m d ob' } F H':=r.Ej B D G (λid h=>J id (h u)) O
theorem Ev.fT (r:R ν Z st F H) {d:Nat} {ob ob':bu} (B:bl st.m d=some ob) (D:sameShape ob ob') (G:∀j,ob'.pt j=true->ob.pt j=true) (J:∀id,id≠(ν d).1->H'[id]? = H[id]?) (u:dL ob=true) (O:H.length<=H'.length) :
 Ev Rv ν Z st H ν Z { st with m:=bA st.m d ob' } H':=Ev.Ej r B D G (λid h=>J id (h u)) O
theorem R.less (r:R ν Z st F H) {g:Tb SV} {m':Tb bu} (hg:∀s sv,bl g s=some sv->bl st.g s=some sv) (u:∀d ob,bl m' d=some ob->bl st.m d=some ob):R ν Z { st with g:=g,m:=m' } F H where
 slot:=λs sv z=>(r.slot s sv (hg s sv z)).mono (λid h=>⟨h,rfl⟩) λe _ t h=>⟨t,u e t h,rfl,.refl _⟩
 obj:=λd ob hd=>cM.mono (λid h=>⟨h,rfl⟩) rfl (λ_ _=>rfl) (λe _ t h=>⟨t,u e t h,rfl,.refl _⟩) (r.obj d ob (u d ob hd))
 inj:=λd w ob t j B h1 C=>r.inj d w ob t j B (u d ob h1) (u w t C)
 apart:=λd ob j h=>r.apart d ob j (u d ob h)
 zrow:=r.zrow
 deep:=r.deep
theorem Ev.less {g:Tb SV} {m':Tb bu} (u:∀d ob,bl m' d=some ob->bl st.m d=some ob):Ev Rv ν Z st H ν Z { st with g:=g,m:=m' } H:=
 ⟨Nat.le_refl _,λ_ _ _ _ _=>rfl,λ_ h=>⟨h,rfl⟩,λ_ ⟨d,ob,j,h1,w,z⟩=>.inl ⟨d,ob,j,u d ob h1,w,z⟩,λ_ h=>.inl h,λe _ t h=>⟨t,u e t h,rfl,.refl _⟩,rfl⟩
theorem Ev.heap (u:H.length<=H'.length) (B:∀id,id<H.length->¬eF ν st.m id->¬Z id->¬Rv id->H'[id]? = H[id]?) (D:∀id,Z id->bq H' id=bq H id):Ev Rv ν Z st H ν Z st H':=
 ⟨u,B,λid h=>⟨h,D id h⟩,λ_ h=>.inl h,λ_ h=>.inl h,λ_ _ t h=>⟨t,h,rfl,.refl _⟩,rfl⟩
theorem fh.yW {xs ys:a_ (a_ V)} (h:fh H Z xs ys):t_ H Z ys:=λc hc u hu=>by
 obtain⟨i,w⟩:=List.mem_iff_getElem?.1 hc;have z:i<xs.length:=by rw[h.1];grind
 have hr:=h.2 i _ c (ζd z) w;obtain⟨j,B⟩:=List.mem_iff_getElem?.1 hu;have t:j<(xs[i]).length:=by rw[hr.1];grind
 exact⟨_,hr.2 j _ u (ζd t) B⟩
theorem fh.same {xs:a_ (a_ V)} (h:V.mz xs=true):fh H Z xs xs:=
 ⟨rfl,λj u v hu hv=>by rw[hu]at hv;grind[c8.same,j9]⟩
theorem n_ {z:a_ V} (h:V.cQ z=true):∀n,V.mz (List.replicate n z)=true
 | 0=>rfl
 | n+1=>by simp[List.replicate_succ,V.mz,h,n_ h n]
theorem By {es:Nat}:∀{ps qs:a_ (Nat×V)} {xs u r:a_ (a_ V)},fh H Z xs u->ps.map (·.1)=qs.map (·.1)->c8 H Z (ps.map (·.2)) (qs.map (·.2))->eV es xs ps=some r->∃D,eV es u qs=some D/\fh H Z r D
 | [],qs,xs,u,r,B,h1,G,h=>by
  simp_all[eV]
 | (i,v)::ps,qs,xs,u,r,B,h1,G,h=>by
  cases qs with
  | nil=>simp_all
  | cons q qs=>
   obtain⟨j,w⟩:=q;simp  at h1;obtain⟨e,h1⟩:=h1;subst e;obtain⟨w',C,e,t,z⟩:=G.inv;obtain⟨rfl,rfl⟩:=e;have hc:=t.cells;simp only[eV]at h ⊢;split at h
   .rw[if_pos ⟨by rw[<-hc.1];grind,by rw[<-B.1];grind,by rw[hc.one];grind⟩]
    exact By (B.set i hc) h1 z h
   grind
theorem zip_fst:∀{idx:a_ Nat} {xs:a_ V},idx.length=xs.length->(idx.zip xs).map (·.1)=idx
 | [],xs,_=>by simp
 | i::idx,[],h=>by simp_all
 | i::idx,x::xs,h=>by simp[zip_fst (idx:=idx) (xs:=xs) Zd]
theorem DN:∀{idx:a_ Nat} {xs:a_ V},idx.length=xs.length->(idx.zip xs).map (·.2)=xs
 | [],[],_=>by simp
 | [],x::xs,h=>by simp_all
 | i::idx,[],h=>by simp_all
 | i::idx,x::xs,h=>by simp[DN (idx:=idx) (xs:=xs) Zd]
theorem MT {a:Mi} {svs:a_ SV} {ys:a_ V} {d:Nat} {ob:bu} {sv:SV} (hk:A3 (.a a)=true) (r:bW ν m H Z svs ys) (h:mw m a svs d=some (ob,sv)) :
 ∃o mk,kT a ys=some (o,mk)/\dL ob=true/\ob.flat/\o≠.free/\∀(id:Nat) (ν':Nu) (m':Tb bu) (H':bn),ν' d=(id,0)->bl m' d=some ob->H'[id]? = some o->(∀k,Z k->bq H' k=bq H k) ->
  (∀e,SV.c6 e svs=true->∀ob',bl m' e=some ob'->∃ob,bl m e=some ob/\ν' e=ν e/\sameShape ob ob')->cM ν' m' H' Z d ob/\cD ν' m' H' Z sv (mk.val id):=by
 unfold mw at h;split at h
 .
  rename_i size zero;obtain⟨rfl,rfl⟩:=h;rw[r.cT];simp only[A3,ζh]at hk;refine⟨_,_,rfl,rfl,jh Zc,by simp,λid ν' m' H' e1 e2 e3 e4 e5=>⟨⟨_,zero,by rw[e1];omega,bW.p_ (c8.same hk.1),hk.2⟩,?_⟩⟩
  exact .ptr _ _ _ λob' u=>by rw[e2]at u;cases u;exact⟨_,rfl,by rw[e1];rfl⟩
 .
  split at h
  .rename_i C;obtain⟨rfl,rfl⟩:=h;obtain⟨y,_,rfl,h1,B⟩:=r.inv;rw[B.cT];have hc:=h1.fr.cells;refine⟨.row y.cells.length [y.cells],.ptr,by simp[kT,hc.one,C],rfl,jh Zc,by simp,λid ν' m' H' e1 e2 e3 e4 e5=>⟨⟨_,y.cells,by rw[e1];omega,bW.p_ (hc.mono λk hk=>⟨hk,e4 k hk⟩),by rw[hc.one];simp_all⟩,?_⟩⟩
   exact .ptr _ _ _ λob' u=>by rw[e2]at u;cases u;exact⟨_,rfl,by rw[e1];rfl⟩
  grind
 .
  split at h
  .rename_i w;obtain⟨rfl,rfl⟩:=h;obtain⟨y,_,rfl,h1,B⟩:=r.inv;rw[B.cT];obtain⟨S,rfl,X⟩:=h1.h_;have D:=EH w X;refine⟨.row S.length [S],.ptr,by grind[kT,V.cells],rfl,jh Zc,by simp,λid ν' m' H' e1 e2 e3 e4 e5=>⟨⟨_,S,by rw[e1];omega,X.mono (λk hk=>⟨hk,e4 k hk⟩) λe T=>e5 e (by grind[SV.c6,SV.ct]),D⟩,?_⟩⟩
   exact .ptr _ _ _ λob' u=>by rw[e2]at u;cases u;exact⟨_,rfl,by rw[e1];rfl⟩
  grind
 .
  split at h
  .rename_i w;obtain⟨rfl,rfl⟩:=h;obtain⟨y,_,rfl,h1,B⟩:=r.inv;rw[B.cT];obtain⟨Y,D⟩:=jq w h1;refine⟨.row [y].length [[y]],.ptr,by grind[kT],rfl,jh Zc,by simp,λid ν' m' H' e1 e2 e3 e4 e5=>⟨⟨_,[y],by rw[e1];omega,.cons (h1.mono (λk hk=>⟨hk,e4 k hk⟩) λe T=>e5 e (by grind[SV.c6])) .nil,by simp_all⟩,?_⟩⟩
   exact .ptr _ _ _ λob' u=>by rw[e2]at u;cases u;exact⟨_,rfl,by rw[e1];rfl⟩
  grind
 .
  rename_i size zero k n k' c;obtain⟨_,_,rfl,h1,B⟩:=r.inv;obtain⟨_,_,rfl,h3,h4⟩:=B.inv;rw[h1.fr.int,h3.fr.int,h4.cT];split at h
  .rename_i hc;obtain⟨rfl,rfl⟩:=h;have U:bQ (if n=c then Fl.row else Fl.part)=true:=by split <;> rfl
   refine⟨_,_,by simp only[kT];rw[if_pos hc],U,jh Zc,by simp,λid ν' m' H' e1 e2 e3 e4 e5=>⟨?_,?_⟩⟩
   .simp[cM,U,e1];have hg:=n_ hk c.toNat;have W:n.toNat<=c.toNat:=by omega
    refine⟨_,e3,by simp_all,?_,(fh.same hg).yW,λe=>?_⟩
    .simp[Nat.min_eq_left W];exact fh.same (n_ hk _)
    grind
   refine .own _ _ λob' u=>?_
   rw[e2]at u;cases u;exact⟨_,_,_,rfl,by rw[nC U,e1];simp[Mk.val]⟩
  grind
 .
  rename_i vs size len zero idx;split at h
  .rename_i xs G;split at h
   .rename_i w;obtain⟨rows,hr,e⟩:=ζf.1 h;obtain⟨rfl,rfl⟩:=e;have O:=r.cV G;obtain⟨rows',I,z⟩:=By   (qs:=idx.zip ys) (fh.same (n_ hk len)) (by rw[zip_fst w,zip_fst (by rw[<-O.1];exact w)]) (by rw[DN w,DN (by rw[<-O.1];exact w)];exact O) hr
    have J:rows'.length=len:=by
     have:∀{Q:a_ (Nat×V)} {a r:a_ (a_ V)},eV size a Q=some r->r.length=a.length:=by
      intro Q
      induction Q with
      | nil=>grind[eV]
      | cons p Q ih=>
       grind[eV]
     rw[this I];simp
    refine⟨.row size rows',.sl size len,by simp only[kT];rw[if_pos (by rw[<-O.1];exact w),I];rfl,rfl,jh Zc,by simp,λid ν' m' H' e1 e2 e3 e4 e5=>⟨?_,?_⟩⟩
    .have L:=z.mono   λk hk=>⟨hk,e4 k hk⟩
     simp only[cM,e1];refine⟨_,e3,by simp[z.1],?_,L.yW,λ_=>⟨trivial,z.1.symm⟩⟩
     simp[z.1];exact L
    refine .own _ _ λob' u=>?_
    rw[e2]at u;cases u;exact⟨_,_,_,rfl,by rw[z.1,J];grind[nL,Mk.val]⟩
   grind
  split at h
  .rename_i t _;split at h
   .rename_i hc;obtain⟨rfl,rfl,rfl,w⟩:=hc;obtain⟨rfl,rfl⟩:=h;obtain⟨y,_,rfl,h1,B⟩:=r.inv;rw[B.cT];obtain⟨Y,D⟩:=jq (x:=.own t) w h1;refine⟨.row 1 [[y]],.sl 1 1,by simp[kT,eV,Y,D],rfl,λj hj=>?_,by simp,λid ν' m' H' e1 e2 e3 e4 e5=>⟨?_,?_⟩⟩
    .cases j with
     | zero=>rfl
     | succ i=>cases i <;> simp[bu.pt]at hj
    .simp only[cM,bQ,if_true,e1];refine⟨trivial,trivial,λi t' e=>by cases e;simp,_,e3,rfl,λi x y' G hy=>?_⟩
     cases i with
     | zero=>
      simp at G hy;subst G;subst hy;simp only[nk,if_true];exact⟨y,rfl,D,h1.mono (λk hk=>⟨hk,e4 k hk⟩) λe T=>e5 e (by simp[SV.c6,T])⟩
     | succ i=>simp at G
    refine .own _ _ λob' u=>?_
    rw[e2]at u;cases u;exact⟨_,_,_,rfl,by simp[nL,e1,Mk.val]⟩
   cases h
  cases h
 .
  obtain⟨rfl,rfl⟩:=h;rw[r.cT];refine⟨_,_,rfl,rfl,jh Zc,by simp,λid ν' m' H' e1 e2 e3 e4 e5=>⟨⟨_,by rw[e1];exact e3,rfl,by simp⟩,?_⟩⟩
  exact .mp _ _ λob' u=>by rw[e2]at u;cases u;exact⟨_,rfl,by rw[e1];rfl⟩
 grind
theorem bW.VA {cs:a_ SV} {u:a_ V} (h:bW ν m H Z cs u) {size o:Nat} {x:SV} {y:V} {r:a_ SV} (D:cD ν m H Z x y) (hp:putCells m size o x cs=some r) (B:u.all V.one=true) :
 y.cells.length=size/\o+size<=u.length/\y.cells.all V.one=true/\bW ν m H Z r (u.take o++y.cells++u.drop (o+y.cells.length))/\(u.take o++y.cells++u.drop (o+y.cells.length)).all V.one=true:=by
 have t:∀k:Nat,(u.take k).all V.one=true/\(u.drop k).all V.one=true:=λk=>
  ⟨List.all_eq_true.2 λz C=>List.all_eq_true.1 B z (List.mem_of_mem_take C),List.all_eq_true.2 λz C=>List.all_eq_true.1 B z (List.mem_of_mem_drop C)⟩
 unfold putCells at hp;split at hp
 .split at hp
  .rename_i hc;simp only[ζa]at hp;subst hp;have w:=D.fr.cells;refine⟨by rw[<-w.1];simp_all,by rw[<-h.1];grind,by rw[w.one];grind,?_,?_⟩
   .have e:y.cells.length=size:=by rw[<-w.1];simp_all
    rw[e];exact((h.take o).append (bW.p_ w)).append (h.drop _)
   simp only[List.all_append,(t _).1,(t _).2,w.one,hc.2.2,Bool.and_self]
  grind
 .split at hp
  .rename_i hc;simp only[ζa]at hp;subst hp;obtain⟨J,rfl,G⟩:=D.h_;have L:=EH hc.2.2 G
   grind[bW,V.cells]
  grind
 split at hp
 .rename_i hc;simp only[ζa]at hp;subst hp;obtain⟨I,O⟩:=jq hc.1 D;rw[I];refine⟨by simp[hc.2.1],by rw[<-h.1];grind,by simp_all,?_,?_⟩
  .exact((h.take o).append (.cons D .nil)).append (h.drop _)
  grind
 grind
theorem uj {size:Nat} {x:SV} {y:V} {xs:a_ (a_ V)} (r:cD ν m H Z x y) (B:∀d ob,bl m d=some ob->cM ν m H Z d ob) (h:iM m size x=some xs):∃ys,dG H size y=some ys/\fh H Z xs ys:=by
 unfold iM at h;split at h
 .split at h
  .rename_i k es u t;obtain⟨_,_,_,e,rfl⟩:=r.fQ t;cases e;have o:=B _ _ t;simp[cM]at o;split at h
   .rename_i hk;rw[if_pos hk]at o;split at h
    .rename_i w;simp  at h;subst h;obtain⟨ys,hr,z,C,_⟩:=o;rw[nC hk]
     grind[dG,Ob.rows]
    grind
   rename_i hk;simp  at h;subst h;refine⟨[],?_,rfl,by simp⟩
   cases k <;> simp[bQ]at hk <;> rfl
  grind
 .simp  at h;subst h;rw[r.fr.bN];exact⟨[],rfl,rfl,by simp⟩
 .simp  at h;subst h;rw[r.fr.c_];exact⟨[],rfl,rfl,by simp⟩
 .split at h
  .rename_i es u w;simp  at h;subst h;have hg:=r.fr.good;rcases r.fr.lu with rfl|⟨id,off,ys,rfl,D,hr,z,C⟩
   all_goals simp_all[dG,fh.same,V.good,bq]
  grind
 grind
theorem Ev.re {m1:Tb bu} (B:∀d ob,bl m1 d=some ob->bl st.m d=some ob) {d:Nat} (O:d∉st.pin) {ob:bu} {p:Nat×Nat} (D:H.length<=H'.length) (G:∀id,id<H.length->¬eF ν st.m id->¬Rv id->H'[id]? = H[id]?)
 (J:∀id,Z id->bq H' id=bq H id) (hp:dL ob=true->eF ν st.m p.1\/Rv p.1\/H.length<=p.1) (u:ob.flat:=by exact jh Zc):Ev Rv ν Z st H (gA ν d p) Z { st with m:=bA m1 d ob } H' where
 len:=D
 same:=λid h C _ hr=>G id h C hr
 rows:=λid h=>⟨h,J id h⟩
 own:=λid h=>by
  rcases AM h u with h|⟨h1,rfl⟩
  .obtain⟨k,o,j,h1,w,z⟩:=h;exact .inl ⟨k,o,j,B k o h1,w,z⟩
  grind
 frz:=λid h=>.inl h
 pin:=λe I t h=>by
  have:e≠d:=by grind
  obtain⟨o,h1,w,z⟩:=yo (ν:=ν) (p:=p) this t h
  grind
 pins:=rfl
def Kept (dst:bf Nat) (ν:Nu) (m:Tb bu) (ν':Nu) (m':Tb bu):Prop:=∀e t,dst≠some e->bl m' e=some t->∃ob,bl m e=some ob/\ν' e=ν e/\sameShape ob t/\∀j,t.pt j=true->ob.pt j=true/\ν'.at e j=ν.at e j
theorem Kept.refl {dst:bf Nat}:Kept dst ν m ν m:=λe t _ h=>⟨t,h,rfl,.refl _,λ_ h=>⟨h,rfl⟩⟩
theorem Kept.fT {dst:bf Nat} {d:Nat} {ob ob':bu} (u:bl m d=some ob) (B:sameShape ob ob') (hp:∀j,ob'.pt j=true->ob.pt j=true):Kept dst ν m ν (bA m d ob'):=λe t _ h=>by
 by_cases k:e=d
 .subst k;rw[bY]at h;cases h;exact⟨ob,u,rfl,B,λj h=>⟨hp j h,rfl⟩⟩
 rw[cq m ob' (Ne.symm k)]at h;exact⟨t,h,rfl,.refl _,λ_ h=>⟨h,rfl⟩⟩
theorem Kept.add {d:Nat} {ob:bu} {p:Nat×Nat} {m1:Tb bu} (u:∀d ob,bl m1 d=some ob->bl m d=some ob):Kept (some d) ν m (gA ν d p) (bA m1 d ob):=λe t w h=>by
 have:e≠d:=λh=>w (by rw[h])
 obtain⟨o,h1,z,C⟩:=yo (ν:=ν) (p:=p) this t h;rw[cq _ _ (Ne.symm this)]at h;exact⟨t,u e t h,z,.refl _,λj B=>⟨B,J8 ν p this j⟩⟩
theorem jX {d:Nat}:∀e ob,bl (cz d m) e=some ob->bl m e=some ob:=λ_ _ h=>(jQ h).2
theorem DE.put {k x y:V} {a b r:a_ (V×V)} (D:k.scalar=true) (h:DE H Z a b) (J:FR H Z x y) (hp:oT k x a=some r):∃B,oT k y b=some B/\DE H Z r B:=by
 unfold oT at hp;obtain⟨f1,z⟩:=Ch   h;split at hp
 .rename_i j v C;simp  at hp;subst hp;obtain⟨L,G,_⟩:=z j v C;refine⟨b.set j (k,y),by grind[oT],by simp[h.1],λi u w hu t=>?_⟩
  rw[List.getElem?_set]at hu t;split at hu
  .grind
  rename_i e;rw[if_neg e]at t;exact h.2 i u w hu t
 .simp  at hp;subst hp;refine⟨b++[(k,y)],by grind[oT],by simp[h.1],λi u w hu t=>?_⟩
  by_cases I:i<a.length
  .rw[List.getElem?_append_left I]at hu;rw[List.getElem?_append_left (by rw[<-h.1];omega)]at t
   exact h.2 i u w hu t
  rw[List.getElem?_append_right (by rw[<-h.1];omega),<-h.1]at t
  grind
 grind
theorem JS (r:R ν Z st F H) {d:Nat} {cs:a_ SV} (B:bl st.m d=some (.box cs)):∀{l:a_ SV} {D:a_ V},bW ν st.m H Z l D->l.all (Ky st.m d)=true->D.all (nF (ν d).1)=true:=by
 intro l
 induction l with
 | nil=>intro D z _;rw[z.cT];rfl
 | cons a l L=>
  intro D z C;obtain⟨w,D,rfl,g1,g2⟩:=z.inv;simp only[List.all_cons,ζh]at C ⊢;refine⟨?_,L g2 C.2⟩;have t:=C.1;unfold Ky at t;split at t
  .rename_i O S;simp  at t;obtain⟨G,I⟩:=t;split at I
   next Q u=>obtain⟨_,_,rfl⟩:=g1.oA u;simp[nF];exact λe=>G (r.inj O d _ _ 0 0 u B rfl rfl e).1
   grind
  .rcases FR.lP g1.fr with rfl|⟨id,el,off,_,_,_,rfl,J,_⟩
   .rfl
   simp[nF];rintro rfl;exact r.apart d _ 0 B rfl J
  grind
theorem Gr {d:Nat} {k:Fl} {xs:a_ (a_ V)} (o:cM ν m H Z d (.dp k xs none)):∃rs,dG H 1 (nL (ν d) k 1 xs.length)=some rs/\rs.length=xs.length/\(bQ k=true->(ν d).2=0/\H[(ν d).1]? = some (.row 1 rs))/\∀i x y,xs[i]? = some x->rs[i]? = some y->uq ν H Z d i x y:=by
 simp only[cM]at o;split at o
 next hk=>obtain⟨rfl,o2,-,rs,o3,t,u⟩:=o;exact⟨rs,by simp[nL,dG,o3,Ob.rows,o2,<-t],t,λ_=>⟨o2,o3⟩,u⟩
 rename_i hk;obtain⟨rfl,-⟩:=o;exact⟨[],by cases k <;> first|rfl|exact absurd rfl hk,rfl,λh=>absurd h hk,λi x y h=>by simp at h⟩
theorem LG {d:Nat} {k:Fl} {xs:a_ (a_ V)} (o:cM ν m H Z d (.dp k xs none)) (J:∀id,Z id->Z' id) (hp:∀j,(bu.dp k xs none).pt j=true->Z' (ν.at d j)) :
 FR H Z' (jK k 1 xs) (nL (ν d) k 1 xs.length)/\∀j,(bu.dp k xs none).pt j=true->∃es ys,H[ν.at d j]? = some (.row es ys)/\t_ H Z' ys:=by
 obtain⟨rs,-,C,hg,D⟩:=Gr o;have t:∀id,Z id->Z' id/\bq H id=bq H id:=λid h=>⟨J id h,rfl⟩
 have cells:fh H Z' xs rs:=⟨C.symm,λi x y u L=>by
  rcases D i x y u L with⟨rfl,h⟩|⟨es,G,w,rfl,rfl,h1,z⟩
  .exact c8.same (by rcases h with rfl|rfl <;> rfl)
  have B:=z.1;refine .cons (FR.Cu (ys:=w) (hp (i+1) (by simp[bu.pt,u])) (show bq H (ν.inn d i)=some (es,w)by unfold bq;rw[h1];rfl) Za ?_) .nil
  rw[List.drop_zero,B,List.take_length];exact z.mono t⟩
 refine⟨?_,λj I=>?_⟩
 .by_cases hk:bQ k=true
  .rw[nC hk,show jK k 1 xs=.fsl 1 xs from by cases k <;> simp[bQ]at hk <;> rfl]
   refine FR.Cu (ys:=rs) (hp 0 hk) (show bq H (ν d).1=some (1,rs)by unfold bq;rw[(hg hk).2];rfl) (by rw[(hg hk).1];omega) ?_
   rw[(hg hk).1,List.drop_zero,<-C,List.take_length];exact cells
  cases k <;> simp[bQ]at hk
  .exact .same _ rfl
  exact .same _ rfl
 cases j with
 | zero=>exact⟨1,rs,(hg I).2,cells.yW⟩
 | succ i=>
  obtain⟨-,es,G,u⟩:=qS I;have O:=(ζe.1 u).1;rcases D i _ _ u (ζd Za)with⟨_,h|h⟩|⟨es,G,w,_,_,h1,z⟩
  .cases h
  .cases h
  exact⟨es,w,h1,(z.mono t).yW⟩
theorem ME (r:R ν Z st F H) {d:Nat} (h:vI d st=some st'):∃ν',R ν' Z st' F H/\Ev Rv ν Z st H ν' Z st' H/\(∀sv y,cD ν st.m H Z sv y->cD ν' st'.m H Z sv y)/\∀k ob,k≠d->bl st'.m k=some ob->bl st.m k=some ob/\ν' k=ν k/\∀j,ν'.at k j=ν.at k j:=by
 unfold vI at h;split at h
 rotate_left
 .cases h;exact⟨ν,r,.refl,λ_ _ h=>h,λ_ _ _ h=>⟨h,rfl,λ_=>rfl⟩⟩
 .cases h
 rename_i k W i t G;split at h
 rotate_left
 .cases h
 rename_i Q es T ht;split at h
 rotate_left
 .cases h
 rename_i hc;obtain⟨aa,X,hk⟩:=hc;cases h;have o:=r.obj d _ G;simp only[cM,hk,if_true]at o;obtain⟨o1,o2,o3,ys,o4,o5,o6⟩:=o;have hi:=o3 _ _ rfl;have p:=r.obj t _ ht;have z:∀e,e=d/\bl (bA (cz t st.m) d (.dp k (W.set i [jK Q es T]) none)) e=some (.dp k (W.set i [jK Q es T]) none)\/e≠d/\∀ob,bl (bA (cz t st.m) d (.dp k (W.set i [jK Q es T]) none)) e=some ob->e≠t/\bl st.m e=some ob:=λe=>by
  by_cases S:e=d
  .subst S;exact .inl ⟨rfl,bY _ _ _⟩
  refine .inr ⟨S,λob h=>?_⟩
  rw[cq _ _ (Ne.symm S)]at h;obtain⟨w1,w2⟩:=jQ h;exact⟨Ne.symm w1,w2⟩
 let ν':Nu:=⟨ν.pl,λe u=>if e=d/\u=i then(ν t).1 else ν.inn e u⟩
 have ab:∀e,ν' e=ν e:=λ_=>rfl
 have B:∀e u,¬(e=d/\u=i)->ν'.inn e u=ν.inn e u:=λe u h=>if_neg h
 have C:ν'.inn d i=(ν t).1:=if_pos ⟨rfl,rfl⟩;have sm:∀e I,bl (bA (cz t st.m) d (.dp k (W.set i [jK Q es T]) none)) e=some I->∃ob,bl st.m e=some ob/\ν' e=ν e/\sameShape ob I:=λe I h=>by
  rcases z e with⟨rfl,h1⟩|⟨h1,D⟩
  .rw[h1]at h;cases h;exact⟨_,G,rfl,by simp[sameShape,bu.uw]⟩
  exact⟨I,(D _ h).2,rfl,.refl _⟩
 have J:∀id,Z id->Z id/\bq H id=bq H id:=λid h=>⟨h,rfl⟩
 have L:∀e ob j,bl (bA (cz t st.m) d (.dp k (W.set i [jK Q es T]) none)) e=some ob->ob.pt j=true->∃e0 Y j0,bl st.m e0=some Y/\Y.pt j0=true/\ν'.at e j=ν.at e0 j0/\((e=d/\j=i+1/\e0=t/\j0=0)\/(e0=e/\j0=j/\e≠t/\¬(e=d/\j=i+1))):=λe ob j h hj=>by
  rcases z e with⟨rfl,h1⟩|⟨h1,D⟩
  .rw[h1]at h;cases h
   cases j with
   | zero=>exact⟨e,_,0,G,hj,rfl,.inr ⟨rfl,rfl,Ne.symm X,by omega⟩⟩
   | succ u=>
    obtain⟨-,ae,af,O⟩:=qS hj
    by_cases w:u=i
    .subst w;rw[List.getElem?_set_self hi]at O;have ad:bQ Q=true:=by cases Q <;> first|rfl|cases O
     exact⟨t,_,0,ht,ad,C,.inl ⟨rfl,rfl,rfl,rfl⟩⟩
    rw[List.getElem?_set_ne (Ne.symm w)]at O;exact⟨e,_,u+1,G,by simp[bu.pt,O,Ne.symm w],B e u Za,.inr ⟨rfl,rfl,Ne.symm X,by omega⟩⟩
  obtain⟨h3,h4⟩:=D _ h;refine⟨e,ob,j,h4,hj,?_,.inr ⟨rfl,rfl,h3,by omega⟩⟩
  cases j with
  | zero=>rfl
  | succ u=>exact B e u Za
 refine⟨ν',⟨λs sv hs=>(r.slot s sv hs).mono J λe _=>sm e,λe ob S=>?_,λd1 d2 o1 o2 j1 j2 h1 D b1 b2 hp=>?_,λd1 o1 j1 h1 b1=>?_,r.zrow,r.deep⟩,⟨Nat.le_refl _,λ_ _ _ _ _=>rfl,J,λid ⟨e,o,j,h1,D,h3⟩=>?_,λ_ h=>.inl h,λe _=>sm e,rfl⟩,λsv y h=>h.mono J λe _=>sm e,λe ob hk h=>?_⟩
 .rcases z e with⟨rfl,h1⟩|⟨h1,D⟩
  .simp only at S;rw[h1]at S;cases S;simp only[cM,hk,if_true,ab];refine⟨o1,o2,(λu t' e=>by cases e),ys,o4,by simp[o5],λu x y O hy=>?_⟩
   by_cases w:u=i
   .subst w;rw[List.getElem?_set_self hi]at O;cases O;have U:=o6 u _ y (ζd hi) hy;simp only[nk,if_true]at U;obtain⟨v,rfl,-,hv⟩:=U;obtain⟨_,_,_,q,rfl⟩:=hv.fQ ht;cases q;show uq ν' H Z e u _ _;simp only[cM]at p
    cases Q with
    | nil=>exact .inl ⟨rfl,.inl rfl⟩
    | emp=>exact .inl ⟨rfl,.inr rfl⟩
    | row=>
     simp only[bQ,if_true]at p;obtain⟨ws,p1,p2,p3,p4,p5⟩:=p;obtain⟨p5,p6⟩:=p5 trivial;rw[p5,List.drop_zero,<-p6,List.take_length]at p3;exact .inr ⟨es,T,ws,rfl,by rw[C];simp[nL,p5],by rw[C];exact p1,p3⟩
    | part=>exact absurd rfl aa
   rw[List.getElem?_set_ne (Ne.symm w)]at O;have U:=o6 u x y O hy;simp only[nk,if_neg (Ne.symm w)]at U;show uq ν' H Z e u _ _;unfold uq at U ⊢;rw[B e u Za];exact U
  obtain⟨h3,h4⟩:=D _ S;exact cM.mono (ν:=ν) (ν':=ν') J rfl (λ_ _=>rfl) (λe' _=>sm e') (r.obj e ob h4) (funext λu=>B e u Za)
 .obtain⟨e1,p1,q1,k1,l1,u1,c1⟩:=L d1 o1 j1 h1 b1;obtain⟨e2,p2,q2,k2,l2,u2,c2⟩:=L d2 o2 j2 D b2;have:=r.inj e1 e2 p1 p2 q1 q2 k1 k2 l1 l2 (by rw[<-u1,<-u2];exact hp)
  omega
 .obtain⟨e1,p1,q1,k1,l1,u1,c1⟩:=L d1 o1 j1 h1 b1;rw[u1];exact r.apart e1 p1 q1 k1 l1
 .obtain⟨e1,p1,q1,k1,l1,u1,c1⟩:=L e o j h1 D;exact .inl ⟨e1,p1,q1,k1,l1,by rw[<-u1];exact h3⟩
 rcases z e with⟨h1,-⟩|⟨h1,D⟩
 .exact absurd h1 hk
 refine⟨(D _ h).2,rfl,λj=>?_⟩
 cases j with
 | zero=>rfl
 | succ u=>exact B e u Za
theorem Gl (r:R ν Z st F H) {dst:bf Nat} {size:Nat} {s x sv:SV} {y1 y2:V} (h1:cD ν st.m H Z s y1) (h3:cD ν st.m H Z x y2) (h:ug st dst size s x=some (sv,st')) :
 ∃y H' ν',eO H (.append size) [y1,y2]=some (y,H')/\R ν' Z st' F H'/\cD ν' st'.m H' Z sv y/\Ev (λ_=>False) ν Z st H ν' Z st' H'/\Kept dst ν st.m ν' st'.m:=by
 unfold ug at h;split at h
 .rename_i d e t;split at h
  .rename_i k z ys hd he;split at h
   .rename_i hc;obtain⟨rfl,ad,ah,ai⟩:=hc;dsimp only at h;split at h
    .rename_i ae;obtain⟨rfl,rfl⟩:=h;obtain⟨_,_,_,q,rfl⟩:=h1.fQ hd;cases q;obtain⟨_,_,_,q,rfl⟩:=h3.fQ he;cases q;obtain⟨S,p1,l1,g1,f1⟩:=Gr (r.obj d _ hd);obtain⟨G,p2,l2,g2,f2⟩:=Gr (r.obj e _ he);obtain⟨n1,n2,n3,n4⟩:=jI ae;have u:∀k ob,bl (cz e (cz d st.m)) k=some ob->k≠d/\k≠e/\bl st.m k=some ob:=λk ob h=>by
      obtain⟨w1,w2⟩:=jQ h;obtain⟨w3,w4⟩:=jQ w2;exact⟨Ne.symm w3,Ne.symm w1,w4⟩
     have grow:∃H1,gq H (nL (ν d) k 1 z.length)=some H1/\H1.length=H.length/\∀id,(bQ k=true->id≠(ν d).1)->H1[id]? = H[id]? := by
      by_cases hk:bQ k=true
      .rw[nC hk];exact⟨H.set (ν d).1 .dead,by simp[gq,(g1 hk).2],by simp,λid aa=>List.getElem?_set_ne (Ne.symm (aa hk))⟩
      exact⟨H,by cases k <;> first|rfl|exact absurd rfl hk,rfl,λ_ _=>rfl⟩
     obtain⟨H1,w1,w2,w3⟩:=grow;have hH:∀id,id<H.length->(bQ k=true->id≠(ν d).1)->(H1++[Ob.row 1 (S++G)])[id]? = H[id]? := λid hl aa=>by
      rw[List.getElem?_append_left Za,w3 id aa]
     have Y:∀id,Z id->bq (H1++[Ob.row 1 (S++G)]) id=bq H id:=λid Y=>by
      unfold bq;rw[hH id (r.uC Y) λhk e=>r.apart d _ 0 hd hk (by rw[show ν.at d 0=id from e.symm];exact Y)]
     have r1:=r.less (m':=cz e (cz d st.m)) (λ_ _ h=>h) λk ob h=>(u k ob h).2.2
     have r2:=r1.heap (H':=H1++[Ob.row 1 (S++G)]) (λid ho=>by
      refine hH id (r1.lt ho) λhk e=>?_
      obtain⟨k2,o2,j2,Q,I,z3⟩:=ho;obtain⟨z4,z5,z6⟩:=u _ _ Q;exact z4 (r.inj k2 d o2 _ j2 0 z6 hd I hk (z3.trans e)).1) Y
     generalize hf:(λi=>if i<z.length then ν.inn d i else ν.inn e (i-z.length))=f
     have T:∀i,(bu.dp .row (z++ys) none).pt (i+1)=true->∃q U w,bl st.m q=some U/\U.pt (w+1)=true/\f i=ν.at q (w+1)/\(q=d/\w=i/\i<z.length\/q=e/\i=z.length+w):=λi hp=>by
      obtain⟨-,es,zs,J⟩:=qS hp;subst hf
      by_cases L:i<z.length
      .rw[List.getElem?_append_left L]at J;exact⟨d,_,i,hd,by simp[bu.pt,J],by simp[L,Nu.at],.inl ⟨rfl,rfl,L⟩⟩
      rw[List.getElem?_append_right Za]at J
      exact⟨e,_,i-z.length,he,by simp[bu.pt,J],by simp[L,Nu.at],.inr ⟨rfl,by omega⟩⟩
     have O:∀i,(bu.dp .row (z++ys) none).pt (i+1)=true->eF ν st.m (f i):=λi hp=>by
      obtain⟨q,U,w,k1,k2,k3,_⟩:=T i hp;exact⟨q,U,w+1,k1,k2,k3.symm⟩
     have B:∀i,(iQ ν t (H.length,0) f).at t (i+1)=f i:=λi=>congrFun (mq ν t _ f).2 i
     have W:(iQ ν t (H.length,0) f).at t 0=H.length:=congrArg Prod.fst (mq ν t _ f).1;have ab:(H1++[Ob.row 1 (S++G)])[H.length]? = some (.row 1 (S++G)):=by rw[<-w2];simp
     have aq:bQ k=true->(bu.dp k z none).pt 0=true:=λh=>h
     refine⟨.hsl H.length 1 0 (S.length+G.length),H1++[Ob.row 1 (S++G)],iQ ν t (H.length,0) f,?_,r2.P0 (p:=(H.length,0)) (f:=f) n2 n3 (λk o hk hs=>?_) (λj hj=>?_) (λj j' hj af hp=>?_) ?_,?_,⟨by simp[w2],λid hl ho _ _=>?_,λid h=>⟨h,Y id h⟩,λid ho=>?_,λid h=>.inl h,λk hk C h=>?_,rfl⟩,λk C hk h=>?_⟩
     .have:G≠[]:=by rintro rfl;exact ah (List.length_eq_zero_iff.1 l2.symm)
      cases G with
      | nil=>exact absurd rfl this
      | cons c G=>
       simp only[eO,p1,p2,w1];rw[if_pos (by rw[l1,l2];exact ai)];rfl
     .rw[q_ n4 hk]at hs;cases hs
     .cases j with
      | zero=>
       rw[W];exact⟨λho=>Nat.lt_irrefl _ (r1.lt ho),λY=>Nat.lt_irrefl _ (r.uC Y)⟩
      | succ i=>
       rw[B];obtain⟨q,U,w,k1,k2,k3,k4⟩:=T i hj;rw[k3];refine⟨λ⟨k5,o5,j5,Q,I,z3⟩=>?_,r.apart q U _ k1 k2⟩
       obtain⟨z4,z5,z6⟩:=u _ _ Q;have:=(r.inj k5 q o5 U j5 _ z6 k1 I k2 z3).1;rcases k4 with⟨rfl,_⟩|⟨rfl,_⟩
       .exact z4 this
       exact z5 this
     .cases j with
      | zero=>
       cases j' with
       | zero=>rfl
       | succ i'=>rw[W,B]at hp;have:=r.lt (O i' af);omega
      | succ i=>
       cases j' with
       | zero=>rw[W,B]at hp;have:=r.lt (O i hj);omega
       | succ i'=>
        rw[B,B]at hp;obtain⟨q,U,w,k1,k2,k3,k4⟩:=T i hj;obtain⟨q',aj,ar,ak,al,am,an⟩:=T i' af;obtain⟨e1,e2⟩:=r.inj q q' U aj _ _ k1 ak k2 al (by rw[<-k3,<-am,hp])
        rcases k4 with⟨rfl,_⟩|⟨rfl,_⟩ <;> rcases an with⟨rfl,_⟩|⟨rfl,_⟩ <;> first|omega|(exact absurd e1 ad)|(exact absurd e1.symm ad)
     .simp only[cM,bQ,if_true];refine⟨trivial,by rw[(mq ν t _ f).1],(λi t h=>by cases h),S++G,?_,by simp[l1,l2],λi x y J hy=>?_⟩
      .rw[(mq ν t _ f).1];exact ab
      show uq _ _ _ _ i x y;have go:∀q w,bl st.m q=some (.dp k z none)/\q=d\/bl st.m q=some (.dp .row ys none)/\q=e->f i=ν.inn q w->(∀kq xq,bl st.m q=some (.dp kq xq none)->xq[w]? = some x)->uq ν H Z q w x y->uq (iQ ν t (H.length,0) f) (H1++[Ob.row 1 (S++G)]) Z t i x y:=λq w hq ao ap hC=>by
       rcases hC with h|⟨es,zs,ws,rfl,rfl,Q,I⟩
       .exact .inl h
       have L:(iQ ν t (H.length,0) f).inn t i=ν.inn q w:=(congrFun (mq ν t _ f).2 i).trans ao;refine .inr ⟨es,zs,ws,rfl,by rw[L],?_,I.mono λid h=>⟨h,Y id h⟩⟩
       rw[L,hH _ (ζe.1 Q).1 λhk e=>?_]
       .exact Q
       have X:∃kq xq,bl st.m q=some (.dp kq xq none):=by rcases hq with h|h <;> exact⟨_,_,h.1⟩
       obtain⟨kq,xq,X⟩:=X;have:=(r.inj q d _ _ (w+1) 0 X hd (by simp[bu.pt,ap _ _ X]) hk e).2
       omega
      by_cases L:i<z.length
      .rw[List.getElem?_append_left L]at J;rw[List.getElem?_append_left Za]at hy
       exact go d i (.inl ⟨hd,rfl⟩) (by rw[<-hf];simp[L]) (λkq xq h=>by rw[hd]at h;cases h;exact J) (f1 i x y J hy)
      rw[List.getElem?_append_right Za]at J
      rw[List.getElem?_append_right Za,l1]at hy
      exact go e (i-z.length) (.inr ⟨he,rfl⟩) (by rw[<-hf];simp[L]) (λkq xq h=>by rw[he]at h;cases h;exact J) (f2 _ x y J hy)
     .refine .own _ _ λC h'=>?_
      rw[bY]at h';cases h';exact⟨_,_,_,rfl,by simp[nL,(mq ν t _ f).1,l1,l2]⟩
     .exact hH id hl λhk e=>ho ⟨d,_,0,hd,hk,e.symm⟩
     .rcases Ho ho with⟨k,o,j,Q,I,z3⟩|⟨j,Q,I⟩
      .exact .inl ⟨k,o,j,(u k o Q).2.2,I,z3⟩
      cases j with
      | zero=>rw[W]at I;exact .inr (.inr Za)
      | succ i=>rw[B]at I;subst I;exact .inl (O i Q)
     .have D:k≠t:=by rintro rfl;exact n1 hk
      rw[cq _ _ (Ne.symm D)]at h;exact⟨C,(u k C h).2.2,if_neg D,.refl _⟩
     have D:k≠t:=λe=>hk (by rw[e])
     rw[cq _ _ (Ne.symm D)]at h;exact⟨C,(u k C h).2.2,if_neg D,.refl _,λj hj=>⟨hj,rq ν _ f D j⟩⟩
    cases h
   cases h
  cases h
 cases h
theorem KI {dst:bf Nat} {size e:Nat} {s sv:SV} (h:ug st dst size s (.own e)=some (sv,st')) (hd:dst≠some e) (ob:bu):bl st'.m e≠some ob:=by
 unfold ug at h;split at h
 .rename_i d z t w;cases w;split at h
  .split at h
   .dsimp only at h;split at h
    .obtain⟨-,rfl⟩:=h;intro u;have:t≠e:=λq=>hd (by rw[q])
     simp only at u;rw[cq _ _ this]at u;exact(jQ u).1 rfl
    cases h
   cases h
  cases h
 cases h
theorem R2 (r:R ν Z st F H) {dst:bf Nat} {size:Nat} {s x sv:SV} {B D:V} (h1:cD ν st.m H Z s B) (G:cD ν st.m H Z x D) (h:vV st dst size s x=some (sv,st')) :
 ∃y H' ν',eO H (.append size) [B,D]=some (y,H')/\R ν' Z st' F H'/\cD ν' st'.m H' Z sv y/\Ev (λ_=>False) ν Z st H ν' Z st' H'/\Kept dst ν st.m ν' st'.m:=by
 unfold vV at h;split at h
 rotate_left
 .cases h
 rename_i e;split at h
 rotate_left
 .exact Gl r h1 G h
 split at h
 rotate_left
 .cases h
 rename_i I J;obtain⟨ν1,r1,e1,g1,k1⟩:=ME (Rv:=λ_=>False) r J
 obtain⟨y,H',ν',L,O,Q,S,T⟩:=Gl r1 (g1 _ _ h1) (g1 _ _ G) h;refine⟨y,H',ν',L,O,Q,e1.trans S,λk t hk w=>?_⟩
 obtain⟨ob,U,W,X,z⟩:=T k t hk w;have u:k≠e:=by
  rintro rfl;exact KI h (λq=>hk q) _ w
 obtain⟨Y,c2,c3⟩:=k1 k ob u U;exact⟨ob,Y,W.trans c2,X,λj C=>⟨(z j C).1,(z j C).2.trans (c3 j)⟩⟩
theorem BE (r:R ν Z st F H) {dst:bf Nat} {l:Ke} {svs:a_ SV} {ys:a_ V} {sv:SV} (Y:bW ν st.m H Z svs ys) (h:jC st dst l svs=some (sv,st')) :
 ∃y H' ν',eO H l ys=some (y,H')/\R ν' Z st' F H'/\cD ν' st'.m H' Z sv y/\Ev (λ_=>False) ν Z st H ν' Z st' H'/\Kept dst ν st.m ν' st'.m:=by
 unfold jC at h;split at h
 .
  rename_i size d o x;obtain⟨_,_,rfl,h1,h2⟩:=Y.inv;obtain⟨y,_,rfl,S,h4⟩:=h2.inv;rw[h4.cT];split at h
  .rename_i cs B;obtain⟨aw,hp,e⟩:=ζf.1 h;obtain⟨rfl,rfl⟩:=e;obtain⟨_,_,rfl⟩:=h1.oA B;obtain⟨es,G,hr,hc,aa⟩:=r.obj d _ B;obtain⟨p1,p2,p3,p4,p5⟩:=bW.VA hc S hp aa;have J:∀id,id≠(ν d).1->(H.set (ν d).1 (.row es [G.take o++y.cells++G.drop (o+y.cells.length)]))[id]? = H[id]? := λid I=>by grind
   have C:∀id,Z id->Z id/\bq (H.set (ν d).1 (.row es [G.take o++y.cells++G.drop (o+y.cells.length)])) id=bq H id:=λid C=>⟨C,by
    unfold bq;rw[J id (by rintro rfl;exact r.apart d _ 0 B rfl C)]⟩
   refine⟨.undef,H.set (ν d).1 (.row es [G.take o++y.cells++G.drop (o+y.cells.length)]),ν,?_,?_,.v _ _ (.same _ rfl),Ev.fT r B rfl (mm rfl) J rfl Zc,Kept.fT B rfl (mm rfl)⟩
   .grind[eO]
   refine r.fT B rfl (mm rfl) J rfl ⟨es,_,?_,p4.mono C (λe _ L he=>?_),p5⟩
   .grind
   by_cases k:e=d
   .subst k;rw[bY]at he;cases he;exact⟨_,B,rfl,rfl⟩
   rw[cq st.m _ (Ne.symm k)]at he;exact⟨L,he,rfl,.refl _⟩
  grind
 .
  rename_i size d i o x;obtain⟨_,_,rfl,h1,h2⟩:=Y.inv;obtain⟨y,_,rfl,S,h4⟩:=h2.inv;rw[h4.cT];split at h
  .rename_i k es T B;split at h
   .rename_i cs ak;split at h
    .rename_i hc;obtain⟨rfl,rfl⟩:=h;obtain⟨_,_,_,e,hk,rfl⟩:=h1.uB B;cases e;have ob:=r.obj d _ B;simp[cM,hk]at ob;obtain⟨rs,hr,hl,hf,al,aG⟩:=ob;obtain⟨c,ax,af⟩:=hf.get ak;have hi:=(ζe.1 ak).1;rw[List.getElem?_take,if_pos hi,List.getElem?_drop]at ax;have hy:=S.fr.cells;have q1:y.cells.length=size:=by rw[<-hy.1];exact hc.1
     have q2:o+size<=c.length:=by rw[<-af.1];exact hc.2.1
     have q3:y.cells.all V.one=true:=by rw[hy.one];exact hc.2.2
     have D:c8 H Z (cs.take o++x.cells++cs.drop (o+x.cells.length)) (c.take o++y.cells++c.drop (o+y.cells.length)):=by
      rw[hc.1,q1];exact((af.take o).append hy).append (af.drop _)
     generalize hN:(c.take o++y.cells++c.drop (o+y.cells.length))=nc at D;have J:∀id,id≠(ν d).1->(H.set (ν d).1 (.row es (rs.set ((ν d).2+i) nc)))[id]? = H[id]? := λid I=>by rw[List.getElem?_set];rw[if_neg (Ne.symm I)]
     have O  := hk;have C:∀id,Z id->Z id/\bq (H.set (ν d).1 (.row es (rs.set ((ν d).2+i) nc))) id=bq H id:=λid C=>⟨C,by
      unfold bq;rw[J id (by rintro rfl;exact r.apart d _ 0 B O C)]⟩
     have Q:sameShape (.sl k es T) (.sl k es (T.set i (cs.take o++x.cells++cs.drop (o+x.cells.length)))):=by simp[sameShape,bu.uw]
     refine⟨.undef,H.set (ν d).1 (.row es (rs.set ((ν d).2+i) nc)),ν,?_,?_,.v _ _ (.same _ rfl),Ev.fT r B Q (mm rfl) J O Zc,Kept.fT B Q (mm rfl)⟩
     .grind[eO]
     refine r.fT B Q (mm rfl) J O ?_;simp only[cM,hk];have ah:=(ζe.1 hr).1;refine⟨_,List.getElem?_set_self ah,by grind,?_,?_,λe=>?_⟩
     .have e1:List.take (T.set i (cs.take o++x.cells++cs.drop (o+x.cells.length))).length (List.drop (ν d).2 (rs.set ((ν d).2+i) nc))=((rs.drop (ν d).2).take T.length).set i nc:=by
       rw[List.length_set,List.drop_set,if_neg Za,List.take_set]
       grind
      rw[e1];exact(hf.set i D).mono C
     .intro cc am u hu;rcases List.mem_or_eq_of_mem_set am with hm|rfl
      .obtain⟨z,ay⟩:=al cc hm u hu;exact⟨z,ay.mono C⟩
      obtain⟨j,hj⟩:=List.mem_iff_getElem?.1 hu;have an:=(ζe.1 hj).1;rw[<-D.1]at an;exact⟨_,(D.2 j _ u (ζd an) hj).mono C⟩
     grind
    simp at h
   grind
  grind
 .
  rename_i size d i o t;obtain⟨_,_,rfl,h1,h2⟩:=Y.inv;obtain⟨y,_,rfl,S,h4⟩:=h2.inv;rw[h4.cT];split at h
  .rename_i k T j w B;split at h
   .rename_i hc;obtain⟨rfl,rfl,rfl,hl,aK⟩:=hc;obtain⟨rfl,rfl⟩:=h;obtain⟨_,_,_,e,hk,rfl⟩:=h1.uB B;cases e;obtain⟨c1,c2⟩:=jq (x:=.own t) hl S;have ob:=r.obj d _ B;simp only[cM,hk,if_true]at ob;obtain⟨o1,o2,o3,rs,hr,ao,hf⟩:=ob;have hi:=o3 _ _ rfl;have ah:=(ζe.1 hr).1;have aA:∀X,(bu.dp k T (some (j,w))).pt (X+1)=true->ν.inn d X≠(ν d).1:=λX hp e=>by
     have:=(r.inj d d _ _ (X+1) 0 B B hp hk e).2;omega
    have J:∀id,id≠(ν d).1->(H.set (ν d).1 (.row 1 (rs.set j [y])))[id]? = H[id]? := λid I=>by rw[List.getElem?_set];rw[if_neg (Ne.symm I)]
    have C:∀id,Z id->Z id/\bq (H.set (ν d).1 (.row 1 (rs.set j [y]))) id=bq H id:=λid C=>⟨C,by
     unfold bq;rw[J id (by rintro rfl;exact r.apart d _ 0 B hk C)]⟩
    have ai:∀X,(bu.dp k T (some (j,t))).pt X=true->(bu.dp k T (some (j,w))).pt X=true:=λX h=>h
    have Q:sameShape (.dp k T (some (j,w))) (.dp k T (some (j,t))):=rfl;refine⟨.undef,H.set (ν d).1 (.row 1 (rs.set j [y])),ν,?_,?_,.v _ _ (.same _ rfl),Ev.fT r B Q ai J hk Zc,Kept.fT B Q ai⟩
    .have:rs[j]? = some rs[j]:=ζd Za
     have h9:=hf j _ _ (ζd hi) this;simp only[nk,if_true]at h9;obtain⟨v,e1,_⟩:=h9;simp[eO,hr,o2,this,e1,c1,c2]
    refine r.fT B Q ai J hk ?_;simp only[cM,hk,if_true];refine⟨o1,o2,λX t' e=>by cases e;exact hi,_,List.getElem?_set_self ah,by simp[ao],λX x y' hx hy=>?_⟩
    by_cases e:j=X
    .subst e;rw[List.getElem?_set_self Za]at hy;cases hy
     simp only[nk,if_true];exact⟨y,rfl,c2,S.mono C λe he L U=>by
      by_cases k':e=d
      .subst k';rw[bY]at U;cases U;exact⟨_,B,rfl,rfl⟩
      rw[cq st.m _ (Ne.symm k')]at U;exact⟨L,U,rfl,.refl _⟩⟩
    rw[List.getElem?_set_ne e]at hy;have h9:=hf X x y' hx hy;simp only[nk,if_neg e]at h9 ⊢;rcases h9 with h9|⟨es,zs,ws,rfl,rfl,q1,q2⟩
    .exact .inl h9
    exact .inr ⟨es,zs,ws,rfl,rfl,(J _ (aA X (by simp[bu.pt,hx,e]))).trans q1,q2.mono C⟩
   cases h
  cases h
 .
  rename_i kk d k x;obtain⟨_,_,rfl,h1,h2⟩:=Y.inv;obtain⟨k',_,rfl,S,h4⟩:=h2.inv;obtain⟨y,_,rfl,h5,h6⟩:=h4.inv;rw[h6.cT];split at h
  .rename_i aB B;split at h
   .rename_i hk;obtain⟨aH,hp,e⟩:=ζf.1 h;simp  at e;obtain⟨rfl,rfl⟩:=e;obtain⟨_,_,rfl⟩:=h1.Cp B;have aC:=S.fr.scalar.1 (vi hk);subst aC;obtain⟨aI,hr,aD⟩:=r.obj d _ B;obtain⟨r',aL,aE⟩:=aD.put (vi hk) h5.fr hp;have J:∀id,id≠(ν d).1->(H.set (ν d).1 (.map r'))[id]? = H[id]? := λid I=>by rw[List.getElem?_set];rw[if_neg (Ne.symm I)]
    have C:∀id,Z id->Z id/\bq (H.set (ν d).1 (.map r')) id=bq H id:=λid C=>⟨C,by
     unfold bq;rw[J id (by rintro rfl;exact r.apart d _ 0 B rfl C)]⟩
    refine⟨.undef,H.set (ν d).1 (.map r'),ν,?_,?_,.v _ _ (.same _ rfl),Ev.fT r B rfl (mm rfl) J rfl Zc,Kept.fT B rfl (mm rfl)⟩
    .grind[eO]
    refine r.fT B rfl (mm rfl) J rfl ⟨r',?_,aE.mono C⟩;rw[List.getElem?_set_self (ζe.1 hr).1]
   simp at h
  simp at h
 .
  rename_i size s x;obtain⟨y1,_,rfl,h1,h2⟩:=Y.inv;obtain⟨y2,_,rfl,S,h4⟩:=h2.inv;rw[h4.cT];split at h
  .rename_i T e1 e2;obtain⟨a1,p1,_⟩:=uj h1 r.obj e1;obtain⟨a2,p2,q2⟩:=uj S r.obj e2;have  := List.length_eq_zero_iff.1 (by have:=q2.1;simpa using this.symm)
   subst this
   cases dst with
   | none=>simp at h
   | some t=>
    have lit:∀(k:Fl) (x0:V),bQ k=false->nL (ν t) k size 0=x0->st.new t=true->(∀y,FR H Z x0 y->y=x0)->FR H Z x0 y1 ->
     ∃y H' ν',eO H (.append size) [y1,y2]=some (y,H')/\R ν' Z { st with m:=bA st.m t (.sl k size []) } F H'/\cD ν' (bA st.m t (.sl k size [])) H' Z (.own t) y/\Ev (λ_=>False) ν Z st H ν' Z { st with m:=bA st.m t (.sl k size []) } H'/\Kept (some t) ν st.m ν' (bA st.m t (.sl k size [])):=λk x0 hk aM hn hx hf=>by
     have ap:dL (.sl k size [])=true->False:=by grind[dL]
     refine⟨y1,H,gA ν t (ν t),by grind[eO],r.add hn   (λh=>(ap h).elim) (by grind[cM]),.own _ _ λL U=>?_,Ev.add  hn (Nat.le_refl _) (λ_ _ _=>rfl) (λ_ _=>rfl) (λh=>(ap h).elim),Kept.add λ_ _ h=>h⟩
     rw[bY]at U;cases U;exact⟨_,_,_,rfl,by rw[gO,hx _ hf];grind⟩
    cases s with
    | own d=>
     dsimp only at h;split at h
     .rename_i ob B;split at h
      .rename_i D;simp  at h;obtain⟨rfl,rfl⟩:=h;simp[iM,B]at e1
       cases ob with
       | sl k es ab=>
        obtain⟨_,_,_,e,rfl⟩:=h1.fQ B;cases e;have r1:R ν Z { st with m:=cz d st.m } F H:=r.less  (λ_ _ h=>h) jX
        obtain⟨n1,_,_,_⟩:=jI D;have aq:cM (gA ν t (ν d)) (bA (cz d st.m) t (.sl k es ab)) H Z t (.sl k es ab):=by
         have o:=r.obj d _ B
         grind[cM,gO]
        refine⟨nL (ν d) k es ab.length,H,gA ν t (ν d),by grind[eO],r1.add D  (λhb=>⟨λho=>?_,r.apart d _ 0 B hb⟩) aq,.own _ _ λL U=>?_,?_,Kept.add jX⟩
        .obtain⟨k2,o2,j2,g1,g2,g3⟩:=ho;obtain⟨g4,g5⟩:=jQ g1;exact g4 (r.inj d k2 _ o2 0 j2 B g5 hb g2 g3.symm).1
        .rw[bY]at U;cases U;exact⟨_,_,_,rfl,by rw[gO]⟩
        by_cases hb:dL (.sl k es ab)=true
        .exact Ev.re  (m1:=cz d st.m) jX n1 (Nat.le_refl _) (λ_ _ _ _=>rfl) (λ_ _=>rfl) (λ_=>.inl ⟨d,_,0,B,hb,rfl⟩)
        exact(Ev.less  jX).trans (Ev.add  D (Nat.le_refl _) (λ_ _ _=>rfl) (λ_ _=>rfl) λh=>absurd h hb)
       | box cs=>cases e1
       | mp aB=>cases e1
       | dp _ _ _=>cases e1
      simp at h
     simp at h
    | v x0=>
     cases x0 with
     | bN=>
      dsimp only at h;split at h
      next hn=>simp  at h;obtain⟨rfl,rfl⟩:=h;exact lit .nil _ rfl rfl hn (λy h=>h.bN) h1.fr
      simp at h
     | c_=>
      dsimp only at h;split at h
      next hn=>simp  at h;obtain⟨rfl,rfl⟩:=h;exact lit .emp _ rfl rfl hn (λy h=>h.c_) h1.fr
      simp at h
     | _=>simp at h
    | _=>simp at h
  .rename_i T zs I e1 e2;split at h
   .rename_i hc;obtain⟨a1,p1,q1⟩:=uj h1 r.obj e1;obtain⟨a2,p2,q2⟩:=uj S r.obj e2
    cases dst with
    | none=>simp at h
    | some t=>
     dsimp only at h;generalize ar:giveUp st.m s=m1 at h;split at h
     .rename_i D;simp  at h;obtain⟨rfl,rfl⟩:=h;obtain⟨n1,_,_,_⟩:=jI D;have grow:∃H1,gq H y1=some H1/\H1.length=H.length/\(∀id,¬eF ν st.m id->H1[id]? = H[id]?) /\
       (∀id,eF ν m1 id->H1[id]? = H[id]?)/\(∀id,Z id->bq H1 id=bq H id):=by
       subst ar
       cases s with
       | own d=>
        simp[iM]at e1;split at e1
        .rename_i k es ab B;obtain⟨_,_,_,e,rfl⟩:=h1.fQ B;cases e
         by_cases hk:bQ k=true
         .have o:=r.obj d _ B;simp[cM,hk]at o;obtain⟨ys,hr,_⟩:=o;have O  := hk;have J:∀id,id≠(ν d).1->(H.set (ν d).1 .dead)[id]? = H[id]? := λid I=>by rw[List.getElem?_set];rw[if_neg (Ne.symm I)]
          refine⟨H.set (ν d).1 .dead,by rw[nC hk];grind[gq],by simp,λid ho=>J id λe=>ho ⟨d,_,0,B,O,e.symm⟩,λid ho=>J id λe=>?_,λid C=>?_⟩
          .obtain⟨k2,o2,j2,g1,g2,g3⟩:=ho;obtain⟨g4,g5⟩:=jQ g1;exact g4 (r.inj d k2 _ o2 0 j2 B g5 O g2 (by rw[g3,e];rfl)).1
          unfold bq;rw[J id (by rintro rfl;exact r.apart d _ 0 B O C)]
         refine⟨H,?_,rfl,λ_ _=>rfl,λ_ _=>rfl,λ_ _=>rfl⟩
         cases k <;> simp[bQ]at hk <;> rfl
        simp at e1
       | v x0=>
        refine⟨H,?_,rfl,λ_ _=>rfl,λ_ _=>rfl,λ_ _=>rfl⟩
        cases x0 <;> simp[G6]at hc
        .rw[h1.fr.c_];rfl
        rw[h1.fr.bN];rfl
       | _=>simp[G6]at hc
      obtain⟨H1,g1,g2,g3,g4,g5⟩:=grow;have W:∀e ob,bl m1 e=some ob->bl st.m e=some ob:=by
       subst ar;cases s <;> first|exact λ_ _ h=>h|exact jX
      have au:∀id,eF ν m1 id->id<H.length:=λid ⟨k,o,j,w1,w2,w3⟩=>r.lt ⟨k,o,j,W k o w1,w2,w3⟩
      have ad:∀id,id<H.length->(H1++[Ob.row size (a1++a2)])[id]? = H1[id]? := λid hl=>List.getElem?_append_left (by rw[g2];exact hl)
      have aj:∀id,Z id->bq (H1++[Ob.row size (a1++a2)]) id=bq H id:=λid C=>by
       have:=g5 id C;unfold bq at this ⊢;rw[ad id (r.uC C)];exact this
      have r1  := r.less  (λ_ _ h=>h) W
      have r2  := r1.heap (λid ho=>by rw[ad id (au id ho)];grind) aj
      have ff:=(q1.append q2).mono   λid C=>⟨C,aj id C⟩
      have ae:(H1++[Ob.row size (a1++a2)])[H.length]? = some (.row size (a1++a2)):=by
       rw[<-g2];simp
      refine⟨.hsl H.length size 0 (T.length+zs.length),H1++[Ob.row size (a1++a2)],gA ν t (H.length,0),?_,?_,?_,?_,Kept.add W⟩
      .have aJ:a2≠[]:=by
        rintro rfl;have aF  := List.length_eq_zero_iff.1 (by have:=q2.1;simpa using this)
        exact I aF
       have ao:a1.length+a2.length<=2147483648:=by rw[<-q1.1,<-q2.1];exact hc.1
       have aN:=q1.1;have aO:=q2.1;simp_all[eO]
      .refine r2.add D (λ_=>⟨λho=>?_,λC=>?_⟩) ?_
       .grind
       .exact absurd (r.uC C) Zc
       simp only[cM,gO];refine⟨_,ae,by simp[q1.1,q2.1],?_,ff.yW,λ_=>⟨trivial,by simp[q1.1,q2.1]⟩⟩
       have:(T++zs).length=(a1++a2).length:=by simp[q1.1,q2.1]
       rw[this,List.drop_zero,List.take_length];exact ff
      .refine .own _ _ λL U=>?_
       simp only at U;rw[bY]at U;cases U;exact⟨_,_,_,rfl,by simp[nL,gO]⟩
      refine Ev.re W n1 (by simp[g2]) (λid hl ho _=>?_) aj (λ_=>.inr (.inr (Nat.le_refl _)))
      rw[ad id hl];grind
     simp at h
   simp at h
  obtain⟨y,H',ν',e1,e2,e3,e4,e5⟩:=R2 r h1 S h;exact⟨y,H',ν',e1,e2,e3,e4,e5⟩
 .
  rename_i size d o x l;obtain⟨_,_,rfl,h1,h2⟩:=Y.inv;obtain⟨y,aP,rfl,S,h4⟩:=h2.inv;split at h
  .rename_i av;split at h
   .rename_i cs B;obtain⟨aw,hp,e⟩:=ζf.1 h;simp  at e;obtain⟨rfl,rfl⟩:=e;obtain⟨_,_,rfl⟩:=h1.oA B;obtain⟨es,G,hr,hc,aa⟩:=r.obj d _ B;obtain⟨p1,p2,p3,p4,p5⟩:=bW.VA hc S hp aa;have J:∀id,id≠(ν d).1->(H.set (ν d).1 (.row es [G.take o++y.cells++G.drop (o+y.cells.length)]))[id]? = H[id]? := λid I=>by rw[List.getElem?_set];rw[if_neg (Ne.symm I)]
    have C:∀id,Z id->Z id/\bq (H.set (ν d).1 (.row es [G.take o++y.cells++G.drop (o+y.cells.length)])) id=bq H id:=λid C=>⟨C,by
     unfold bq;rw[J id (by rintro rfl;exact r.apart d _ 0 B rfl C)]⟩
    refine⟨.undef,H.set (ν d).1 (.row es [G.take o++y.cells++G.drop (o+y.cells.length)]),ν,?_,?_,.v _ _ (.same _ rfl),Ev.fT r B rfl (mm rfl) J rfl Zc,Kept.fT B rfl (mm rfl)⟩
    .simp only[eO,JS r B h4 av,if_true,hr,List.getElem?_cons_zero,if_pos (And.intro p1 (And.intro p2 p3)),List.set_cons_zero]
    refine r.fT B rfl (mm rfl) J rfl ⟨es,_,?_,p4.mono C (λe _ L he=>?_),p5⟩
    .have:=(ζe.1 hr).1;rw[List.getElem?_set_self this]
    by_cases k:e=d
    .subst k;rw[bY]at he;cases he;exact⟨_,B,rfl,rfl⟩
    rw[cq st.m _ (Ne.symm k)]at he;exact⟨L,he,rfl,.refl _⟩
   simp at h
  simp at h
 grind
end
def zJ (d:Nat) (st:St):bf St:=
 match bl st.m d with
 | some (.sl k es t)=>some { st with g:=y_ (SV.sub d (jK k es t)) st.g,m:=mapM (SV.s_ d (jK k es t)) (cz d st.m) }
 | some (.dp k t none)=>some { st with g:=y_ (SV.sub d (jK k 1 t)) st.g,m:=mapM (SV.s_ d (jK k 1 t)) (cz d st.m) }
 | _=>none
def KF (st:St):Loc->bf SV
 | .s n=>bl st.g n
 | .c b i=>match bl st.m b with
  | some (.box cs)=>cs[i]?
  | _=>none
def Uw:a_ V->Bool
 | [.bN]|[.c_]=>true
 | _=>false
def Ra (es:Nat):a_ V->bf bu
 | [.bN]=>some (.sl .nil es [])
 | [.c_]=>some (.sl .emp es [])
 | [.fsl u B]=>if u=es then some (.sl .row es B)else none
 | _=>none
def QE (st:St) (l:Loc):bf Nat:=match KF st l with
 | some (.v (.int _ i))=>if 0<=i then some i.toNat else none
 | _=>none
def FW (d:Nat) (st:St):bf St:=
 match bl st.m d with
 | some (.sl k es t)=>if es=1/\k≠.part/\t.all Uw=true then some { st with m:=bA st.m d (.dp k t none) } else none
 | some (.dp _ _ none)=>some st
 | _=>none
def AJ (d:Nat) (i:Loc) (es t:Nat) (st:St):bf St:=
 match bl st.m d,QE st i with
 | some (.dp k u none),some i=>if bQ k=true/\st.new t=true then(u[i]?).bind λx=>(Ra es x).map λob=>{ st with m:=bA (bA st.m d (.dp k u (some (i,t)))) t ob } else none
 | none,_=>some st
 | _,_=>none
def ghost (x:Gh) (st:St):bf St:=
 match x with
 | .closeS l=>match KF st l with
  | some (.own d)=>zJ d st
  | some _=>some st
  | none=>none
 | .close d=>zJ d st
 | .closeB d=>match bl st.m d with
  | some (.box cs)=>match cV cs with
   | some u=>some { st with g:=y_ (SV.B9 d u) st.g,m:=mapM (SV.qL d u) (cz d st.m) }
   | none=>none
  | _=>none
 | .canon (.s n) d es=>match bl st.g n with
  | some (.v .bN)=>if st.new d then some { st with g:=bA st.g n (.own d),m:=bA st.m d (.sl .nil es []) } else none
  | some (.v .c_)=>if st.new d then some { st with g:=bA st.g n (.own d),m:=bA st.m d (.sl .emp es []) } else none
  | some (.own e)=>if e=d then some st else if st.new d then some { st with g:=zg e d st.g,m:=uZ e d st.m } else none
  | some (.ptr e _)=>if e=d then some st else if st.new d then some { st with g:=zg e d st.g,m:=uZ e d st.m } else none
  | _=>none
 | .canon (.c b i) d es=>match bl st.m b with
  | some (.box cs)=>match cs[i]? with
   | some (.v .bN)=>if st.new d then some { st with m:=bA (bA st.m d (.sl .nil es [])) b (.box (cs.set i (.own d))) } else none
   | some (.v .c_)=>if st.new d then some { st with m:=bA (bA st.m d (.sl .emp es [])) b (.box (cs.set i (.own d))) } else none
   | some (.own e)=>if e=d then some st else if st.new d then some { st with g:=zg e d st.g,m:=uZ e d st.m } else none
   | _=>none
  | _=>none
 | .keep gs w=>match jr st.g gs,jr st.m w with
  | some g,some m=>some { st with g:=g,m:=m }
  | _,_=>none
 | .drop ds=>some { st with g:=oO ds st.g }
 | .melt d=>FW d st
 | .take d i es t=>AJ d i es t st
 | .put d=>vI d st
section
variable {Rv:Nat->Prop} {ν ν':Nu} {Z Z':Nat->Prop} {st st':St} {m m':Tb bu} {F F':Frame} {H H':bn} {N:Nat->FuncId}
theorem Mn (r:R ν Z st F H) {dst:bf Nat} {size d:Nat} {J O:Bool} {T:a_ SV} {ys:a_ V} {sv:SV} (D:bW ν st.m H Z (.own d::T) ys) (h:zw st dst size J O d T=some (sv,st')) :
 ∃y ν',bS N (.slice size J O) ys=some y/\R ν' Z st' F H/\cD ν' st'.m H Z sv y/\Ev Rv ν Z st H ν' Z st' H:=by
 unfold zw at h;obtain⟨y0,zs,rfl,h1,U⟩:=D.inv;split at h
 .rename_i k es L ws t u W;split at h
  .rename_i hk;obtain⟨⟨l,hh⟩,X,h⟩:=ζg.1 h;obtain⟨⟨a,b⟩,C,h⟩:=ζg.1 h;dsimp only at h;split at h
   .rename_i w;obtain⟨rfl,rfl⟩:=h;obtain⟨_,_,_,e,rfl⟩:=h1.fQ u;cases e;have Y:b<=L.length/\a<=b:=by
     grind[dH]
    have o:=r.obj d _ u;simp[cM,hk.1]at o;obtain⟨rs,hr,hl,hf,Q,_⟩:=o;have z  := hk.1;have r1:R ν Z { st with m:=cz d st.m } F H:=r.less  (λ_ _ h=>h) jX
    have G:¬eF ν (cz d st.m) (ν d).1:=by
     rintro⟨k2,o2,j2,g1,g2,g3⟩;obtain⟨g4,g5⟩:=jQ g1;exact g4 (r.inj d k2 _ o2 0 j2 u g5 z g2 g3.symm).1
    have B:((L.take b).drop a).length=b-a:=by simp_all
    refine⟨.hsl (ν d).1 es ((ν d).2+a) (b-a),gA ν t ((ν d).1,(ν d).2+a),?_,?_,?_,?_⟩
    .have I:=bW.cV U W;rw[nC hk.1];simp[bS,I.mO X,ir,if_pos hk.2,C]
    .refine r1.add w (λ_=>⟨G,r.apart d _ 0 u z⟩) ?_
     simp[cM,bQ,gO];have:=(hf.take b).drop a
     grind[List.drop_take,List.drop_drop]
    .refine .own _ _ λaa S=>?_
     rw[bY]at S;cases S;exact⟨_,_,_,rfl,by rw[B];simp[nL,gO]⟩
    exact Ev.re (st:=st) jX (jI w).1 (Nat.le_refl _) (λ_ _ _ _=>rfl) (λ_ _=>rfl) (λ_=>.inl ⟨d,_,0,u,z,rfl⟩)
   grind
  grind
 grind
theorem E4 {f:SV->SV}:∀{g:Tb SV} {s:Nat},bl (y_ f g) s=(bl g s).map f
 | [],s=>rfl
 | (k,x)::r,s=>by
  simp[y_,bl];split
  .rfl
  exact E4
def Af (f:a_ SV->a_ SV):bu->bu
 | .box cs=>.box (f cs)
 | o=>o
theorem EJ {f:a_ SV->a_ SV}:∀{m:Tb bu} {d:Nat},bl (mapM f m) d=(bl m d).map (Af f)
 | [],d=>rfl
 | (k,x)::r,d=>by
  cases x <;> simp[mapM,bl] <;> split <;> first|rfl|exact EJ
theorem tg {d:Nat} {w:V}:∀{l:a_ SV} {j:Nat},(SV.s_ d w l)[j]? = (l[j]?).map (SV.sub d w)
 | [],j=>by simp[SV.s_]
 | x::r,0=>by simp[SV.s_]
 | x::r,j+1=>by simp[SV.s_,tg ]
theorem rQ {d:Nat} {w:a_ V}:∀{l:a_ SV} {j:Nat},(SV.qL d w l)[j]? = (l[j]?).map (SV.B9 d w)
 | [],j=>by simp[SV.qL]
 | x::r,0=>by simp[SV.qL]
 | x::r,j+1=>by simp[SV.qL,rQ ]
theorem mN {d:Nat} {w:V}:∀{l:a_ SV},(SV.s_ d w l).length=l.length
 | []=>rfl
 | x::r=>by simp[SV.s_,mN ]
theorem nq {d:Nat} {w:a_ V}:∀{l:a_ SV},(SV.qL d w l).length=l.length
 | []=>rfl
 | x::r=>by simp[SV.qL,nq ]
theorem cD.sub {sv:SV} {y w:V} {d:Nat} {k:Fl} {es n:Nat} {ob:bu} (J:bl m d=some ob) (D:ob.uw=.sl k es n) (O:FR H Z' w (nL (ν d) k es n)) (T:∀id,Z id->Z' id)
 (U:∀e ob',bl m' e=some ob'->e≠d/\∃ob,bl m e=some ob/\sameShape ob ob') (r:cD ν m H Z sv y):cD ν m' H Z' (sv.sub d w) y:=by
 have t:∀id,Z id->Z' id/\bq H id=bq H id:=λid h=>⟨T id h,rfl⟩
 have C:∀e ob',bl m' e=some ob'->∃ob,bl m e=some ob/\ν e=ν e/\sameShape ob ob':=λe ob' h=>by grind
 induction r with
 | v x y h=>exact .v x y (h.mono t)
 | own e y h=>
  simp[SV.sub];split
  next I=>subst I;obtain⟨_,_,_,e1,rfl⟩:=h _ J;rw[D]at e1;cases e1;exact .v _ _ O
  exact(cD.own e y h).mono t λe _=>C e
 | ptr e o y h=>exact(cD.ptr e o y h).mono t λe _=>C e
 | el e i o y h=>exact(cD.el e i o y h).mono t λe _=>C e
 | mp e y h=>exact(cD.mp e y h).mono t λe _=>C e
 | clo f a b z L G W hva Q B S=>
  refine .clo f _ _ z L (by rw[mN];omega) (by rw[mN];omega) (λj u v hu hv=>?_) (λj u v hu hv=>?_)
  all_goals grind[tg]
 | tup a z G hva B=>
  refine .tup _ z (by rw[mN];omega) (λj u v hu hv=>?_)
  rw[tg,ζf]at hu;grind
 | agg a z G hva B=>
  refine .agg _ z (by rw[mN];omega) (λj u v hu hv=>?_)
  rw[tg,ζf]at hu;grind
 | yl id=>exact .yl id
theorem Sm {f:FuncId} {a b:a_ SV} {y:V} (r:cD ν m H Z (.clo f a b) y):cD ν m H Z (OC f a b) y:=by
 unfold OC;split
 .rename_i x z C D;cases r with|clo _ _ _ u w G I hva t=>
  have h1:=bW.cV (ν:=ν) (m:=m) (H:=H) (Z:=Z) (ys:=u) ⟨G,hva⟩ C;have B:=bW.cV (ν:=ν) (m:=m) (H:=H) (Z:=Z) (ys:=w) ⟨I,t⟩ D;exact .v _ _ (.clo f x z u w h1.1 B.1 h1.2 B.2)
 exact r
theorem cD.B9 {sv:SV} {y:V} {d:Nat} {cs:a_ SV} {xs:a_ V} (D:bl m d=some (.box cs)) (G:∀o,o<=xs.length->FR H Z' (.fptr (xs.drop o)) (.hptr (ν d).1 0 o)) (J:∀id,Z id->Z' id)
 (U:∀e ob',bl m' e=some ob'->e≠d/\∃ob,bl m e=some ob/\sameShape ob ob') (r:cD ν m H Z sv y):cD ν m' H Z' (sv.B9 d xs) y:=by
 have t:∀id,Z id->Z' id/\bq H id=bq H id:=λid h=>⟨J id h,rfl⟩
 have w:∀e ob',bl m' e=some ob'->∃ob,bl m e=some ob/\ν e=ν e/\sameShape ob ob':=λe ob' h=>by grind
 induction r with
 | v x y h=>exact .v x y (h.mono t)
 | own e y h=>exact(cD.own e y h).mono t λe _=>w e
 | ptr e o y h=>
  simp only[SV.B9];split
  .rename_i I;subst I;obtain⟨_,e1,rfl⟩:=h _ D;split
   next L=>exact .v _ _ (G o L)
   exact(cD.ptr e o _ h).mono t λe _=>w e
  exact(cD.ptr e o y h).mono t λe _=>w e
 | el e i o y h=>exact(cD.el e i o y h).mono t λe _=>w e
 | mp e y h=>exact(cD.mp e y h).mono t λe _=>w e
 | clo f a b z O B Q hva S C T=>
  refine Sm (.clo f _ _ z O (by rw[nq];exact B) (by rw[nq];exact Q) (λj u v hu hv=>?_) (λj u v hu hv=>?_))
  .rw[rQ,ζf]at hu;grind
  rw[rQ,ζf]at hu;grind
 | tup a z B hva C=>
  refine .tup _ z (by rw[nq];exact B) (λj u v hu hv=>?_)
  rw[rQ,ζf]at hu;grind
 | agg a z B hva C=>
  refine .agg _ z (by rw[nq];exact B) (λj u v hu hv=>?_)
  rw[rQ,ζf]at hu;grind
 | yl id=>exact .yl id
theorem cM.Af {d:Nat} {ob:bu} {f:a_ SV->a_ SV} (G:∀id,Z id->Z' id) (T:∀l,(f l).length=l.length)
 (J:∀cs u,bW ν m H Z cs u->bW ν m' H Z' (f cs) u) (O:∀e ob',bl m' e=some ob'->∃ob,bl m e=some ob/\sameShape ob ob') (o:cM ν m H Z d ob):cM ν m' H Z' d (Af f ob):=by
 have t:∀id,Z id->Z' id/\bq H id=bq H id:=λid h=>⟨G id h,rfl⟩
 cases ob with
 | sl k es D=>
  simp[Go.VE.Af,cM]at o ⊢;split
  next hk=>rw[if_pos hk]at o;obtain⟨I,h1,z,C,L,Q⟩:=o;exact⟨I,h1,z,C.mono t,L.mono t,Q⟩
  grind
 | box cs=>
  obtain⟨es,u,h1,z,C⟩:=o;exact⟨es,u,h1,J cs u z,C⟩
 | mp S=>
  obtain⟨B,h1,z⟩:=o;exact⟨B,h1,z.mono t⟩
 | dp k D w=>
  exact cM.mono (ob:=.dp k D w) t rfl (λ_ _=>rfl) (λe _ ob' h=>let ⟨ob,h1,z⟩:=O e ob' h;⟨ob,h1,rfl,z⟩) o
theorem DQ {f:a_ SV->a_ SV} {ob:bu}:(Af f ob).pt=ob.pt:=by cases ob <;> rfl
theorem KK {f:a_ SV->a_ SV} {ob:bu}:sameShape ob (Af f ob):=by cases ob <;> rfl
theorem R.shut (r:R ν Z st F H) {d:Nat} {ob:bu} (h0:bl st.m d=some ob) {fs:SV->SV} {D:a_ SV->a_ SV} (hl:∀l,(D l).length=l.length) (hg:∀l (j:Nat),(D l)[j]? = (l[j]?).map fs)
 (B:∀id,Z' id↔Z id\/∃j,ob.pt j=true/\id=ν.at d j) (G:∀j,ob.pt j=true->∃es ys,H[ν.at d j]? = some (.row es ys)/\t_ H Z' ys)
 (hf:∀m',(∀e ob',bl m' e=some ob'->e≠d/\∃ob,bl st.m e=some ob/\sameShape ob ob')->∀sv y,cD ν st.m H Z sv y->cD ν m' H Z' (fs sv) y) :
 R ν Z' { st with g:=y_ fs st.g,m:=mapM D (cz d st.m) } F H/\Ev Rv ν Z st H ν Z' { st with g:=y_ fs st.g,m:=mapM D (cz d st.m) } H:=by
 have key:∀e ob',bl (mapM D (cz d st.m)) e=some ob'->e≠d/\∃ob,bl st.m e=some ob/\ob'=Af D ob:=λe ob' h=>by
  rw[EJ,ζf]at h;obtain⟨o,h1,rfl⟩:=h
  grind[jQ]
 have t:∀e ob',bl (mapM D (cz d st.m)) e=some ob'->e≠d/\∃ob,bl st.m e=some ob/\sameShape ob ob':=λe ob' h=>by
  obtain⟨h1,o,w,rfl⟩:=key e ob' h;grind[KK]
 have hF:=hf _ t;have T:∀cs z,bW ν st.m H Z cs z->bW ν (mapM D (cz d st.m)) H Z' (D cs) z:=λcs z h=>by
  refine⟨by rw[hl];exact h.1,λj u v hu hv=>?_⟩
  rw[hg,ζf]at hu;obtain⟨u',U,rfl⟩:=hu;exact hF u' v (h.2 j u' v U hv)
 have C  := λid h=>(B id).2 (.inl h)
 refine⟨⟨λs sv Q=>?_,λe ob' W=>?_,λd1 d2 o1 o2 S j2 h1 w J b2 hp=>?_,λd1 o1 S h1 J=>?_,λid h=>?_,⟨λid es ys L hr c hc u hu=>?_⟩⟩,⟨Nat.le_refl _,λ_ _ _ _ _=>rfl,λid h=>⟨C id h,rfl⟩,?_,?_,?_,rfl⟩⟩
 .rw[E4,ζf]at Q;obtain⟨O,X,rfl⟩:=Q;exact hF O _ (r.slot s O X)
 .obtain⟨h1,o,w,rfl⟩:=key e ob' W;exact cM.Af C hl T (λe ob' h=>(t e ob' h).2) (r.obj e o w)
 .obtain⟨_,p1,k1,rfl⟩:=key d1 o1 h1;obtain⟨_,p2,k2,rfl⟩:=key d2 o2 w;rw[DQ]at J b2;exact r.inj d1 d2 p1 p2 S j2 k1 k2 J b2 hp
 .obtain⟨Y,p1,k1,rfl⟩:=key d1 o1 h1;rw[DQ]at J;intro L;rcases (B _).1 L with L|⟨j,I,W⟩
  .exact r.apart d1 p1 S k1 J L
  exact Y (r.inj d1 d p1 ob S j k1 h0 J I W).1
 .rcases (B id).1 h with h|⟨j,I,rfl⟩
  .exact r.zrow id h
  obtain⟨es,ys,hr,_⟩:=G j I;unfold bq;rw[hr];rfl
 .rcases (B id).1 L with h|⟨j,I,rfl⟩
  .obtain⟨x,hx⟩:=r.deep.row id es ys h hr c hc u hu;exact⟨x,hx.mono λk hk=>⟨C k hk,rfl⟩⟩
  obtain⟨ab,ad,aa,Q⟩:=G j I;unfold bq at hr;rw[aa]at hr;obtain⟨_,rfl⟩:=hr;exact Q c hc u hu
 .rintro id ⟨e,o,j,h1,w,h3⟩;obtain⟨_,p,k1,rfl⟩:=key e o h1;rw[DQ]at w;exact .inl ⟨e,p,j,k1,w,h3⟩
 .intro id h;rcases (B id).1 h with h|⟨j,I,rfl⟩
  .grind
  exact .inr (.inl ⟨d,ob,j,h0,I,rfl⟩)
 grind
theorem Ir (r:R ν Z st F H) {d:Nat} (h:zJ d st=some st'):∃Z',R ν Z' st' F H/\Ev Rv ν Z st H ν Z' st' H:=by
 unfold zJ at h;split at h
 .rename_i k es w t;simp only[ζa]at h;subst h;have o:=r.obj d _ t;refine⟨λid=>Z id\/∃j,(bu.sl k es w).pt j=true/\id=ν.at d j,R.shut r t (λ_=>mN) (λ_ _=>tg) (λ_=>Iff.rfl) (λj z=>?_) (λm' u D y hr=>?_)⟩
  .have:=jh (ob:=.sl k es w) Zc j z
   subst this;have hk:bQ k=true:=z;simp only[cM,hk,if_true]at o;obtain⟨B,hr,_,_,C,_⟩:=o;exact⟨es,B,hr,C.mono λid h=>⟨.inl h,rfl⟩⟩
  refine cD.sub t rfl ?_ (λid h=>.inl h) u hr
  by_cases hk:bQ k=true
  .simp[cM,hk]at o;obtain⟨B,hr,G,I,C,_⟩:=o;rw[nC hk];have e:jK k es w=.fsl es w:=by cases k <;> simp[bQ]at hk <;> rfl
   rw[e];refine FR.Cu (.inr ⟨0,hk,rfl⟩) (by unfold bq;rw[hr];rfl) G (I.mono λid h=>⟨.inl h,rfl⟩)
  cases k <;> simp[bQ]at hk
  .exact .same _ rfl
  exact .same _ rfl
 .rename_i k w t;simp only[ζa]at h;subst h;obtain⟨h1,J⟩:=LG (Z':=λid=>Z id\/∃j,(bu.dp k w none).pt j=true/\id=ν.at d j) (r.obj d _ t) (λid h=>.inl h) (λj h=>.inr ⟨j,h,rfl⟩)
  exact⟨_,R.shut r t (λ_=>mN) (λ_ _=>tg) (λ_=>Iff.rfl) J (λm' u D y hr=>cD.sub t rfl h1 (λid h=>.inl h) u hr)⟩
 cases h
theorem N7 (r:R ν Z st F H) {d:Nat} (h:ghost (.closeB d) st=some st'):∃Z',R ν Z' st' F H/\Ev Rv ν Z st H ν Z' st' H:=by
 simp[ghost]at h;split at h
 .rename_i cs t;split at h
  .rename_i G I;simp  at h;subst h;obtain⟨es,w,hr,hc,_⟩:=r.obj d _ t;have B:=hc.cV I;have J:t_ H Z [w]:=by
    intro c z u hu;simp[List.mem_singleton]at z;subst z;obtain⟨j,L⟩:=List.mem_iff_getElem?.1 hu;have O:j<G.length:=by rw[B.1];grind
    exact⟨_,B.2 j _ u (ζd O) L⟩
   refine⟨λid=>Z id\/∃j,(bu.box cs).pt j=true/\id=ν.at d j,R.shut r t (λ_=>nq) (λ_ _=>rQ) (λ_=>Iff.rfl) (λj Q=>by have:=jh (ob:=.box cs) Zc j Q;subst this;exact⟨es,_,hr,J.mono λid h=>⟨.inl h,rfl⟩⟩) (λm' C S y D=>?_)⟩
   refine cD.B9 t (λo T=>?_) (λid h=>.inl h) C D
   exact FR.CD (.inr ⟨0,rfl,rfl⟩) (show bq H (ν d).1=some (es,[w])by unfold bq;rw[hr];rfl) rfl (by rw[<-B.1];omega) ((B.drop o).mono λid h=>⟨.inl h,rfl⟩)
  grind
 grind
theorem tC {d e:Nat}:∀{l:a_ SV} {j:Nat},(SV.u6 d e l)[j]? = (l[j]?).map (SV.rF d e)
 | [],j=>by simp[SV.u6]
 | x::r,0=>by simp[SV.u6]
 | x::r,j+1=>by simp[SV.u6,tC ]
theorem ow {d e:Nat}:∀{l:a_ SV},(SV.u6 d e l).length=l.length
 | []=>rfl
 | x::r=>by simp[SV.u6,ow ]
theorem EO {d e:Nat}:∀{g:Tb SV} {s:Nat},bl (zg d e g) s=(bl g s).map (SV.rF d e)
 | [],s=>rfl
 | (k,x)::r,s=>by
  simp[zg,bl];split
  .rfl
  exact EO
theorem Av {d e:Nat} (u:d≠e):∀{m:Tb bu} {k:Nat},bl m e=none->bl (uZ d e m) k=(if k=d then none else(bl m (if k=e then d else k)).map (bu.rF d e))
 | [],k,_=>by simp[uZ,bl]
 | (n,x)::r,k,h=>by
  simp[bl]at h;split at h
  .simp_all
  have B:=Av u  (k:=k) h
  grind[uZ,bl]
def lY (ν:Nu) (d e:Nat):Nu:=⟨λk=>if k=e then ν d else ν k,λk=>if k=e then ν.inn d else ν.inn k⟩
theorem Ot (ν:Nu) (d e k j:Nat):(lY ν d e).at k j=ν.at (if k=e then d else k) j:=by
 cases j <;> simp only[Nu.at,lY] <;> split <;> rfl
theorem D0 {d e:Nat} {ob:bu}:(ob.rF d e).uw=ob.uw:=by
 cases ob with
 | dp k u w=>rcases w with _|⟨i,t⟩ <;> rfl
 | _=>rfl
theorem HY {d e:Nat} {ob:bu}:(ob.rF d e).pt=ob.pt:=by
 cases ob with
 | dp k u w=>rcases w with _|⟨i,t⟩ <;> rfl
 | _=>rfl
theorem cD.rF {sv:SV} {y:V} {d e:Nat} (O:bl m e=none) (D:sv.ct e=false) (G:d≠e) (r:cD ν m H Z sv y):cD (lY ν d e) (uZ d e m) H Z (sv.rF d e) y:=by
 have key:∀k,k≠e->∀t,bl (uZ d e m) (if k=d then e else k)=some t->∃ob,bl m k=some ob/\lY ν d e (if k=d then e else k)=ν k/\t=ob.rF d e:=λk hk t h=>by
  rw[Av G O]at h
  by_cases h1:k=d
  .subst h1;rw[if_pos rfl,if_neg (Ne.symm G),if_pos rfl,ζf]at h;obtain⟨ob,z,rfl⟩:=h;simp_all[lY]
  rw[if_neg h1,if_neg h1,if_neg hk,ζf]at h;obtain⟨ob,z,rfl⟩:=h;simp_all[lY]
 induction r with
 | v x y h=>exact .v x y h
 | own k y h=>
  have hk:k≠e:=by simp_all[SV.ct]
  refine .own _ y λt C=>?_
  obtain⟨ob,h1,z,rfl⟩:=key k hk t C;obtain⟨_,_,_,D,rfl⟩:=h ob h1;exact⟨_,_,_,D0.trans D,by rw[z]⟩
 | ptr k o y h=>
  have hk:k≠e:=by simp_all[SV.ct]
  refine .ptr _ o y λt C=>?_
  obtain⟨ob,h1,z,rfl⟩:=key k hk t C;obtain⟨_,rfl,rfl⟩:=h ob h1;exact⟨_,rfl,by rw[z]⟩
 | el k i o y h=>
  have hk:k≠e:=by simp_all[SV.ct]
  refine .el _ i o y λt C=>?_
  obtain⟨ob,h1,z,rfl⟩:=key k hk t C;obtain⟨_,_,_,D,Q,rfl⟩:=h ob h1;exact⟨_,_,_,D0.trans D,Q,by rw[z]⟩
 | mp k y h=>
  have hk:k≠e:=by simp_all[SV.ct]
  refine .mp _ y λt C=>?_
  obtain⟨ob,h1,z,rfl⟩:=key k hk t C;obtain⟨_,rfl,rfl⟩:=h ob h1;exact⟨_,rfl,by rw[z]⟩
 | clo f a b I S L W hva T B U=>
  simp[SV.ct]at D;refine .clo f _ _ I S (by rw[ow];omega) (by rw[ow];omega) (λj u v hu hv=>?_) (λj u v hu hv=>?_)
  .rw[tC,ζf]at hu;obtain⟨J,w,rfl⟩:=hu;grind[s7]
  rw[tC,ζf]at hu;obtain⟨J,w,rfl⟩:=hu;grind[s7]
 | tup a I L hva B=>
  refine .tup _ I (by rw[ow];omega) (λj u v hu hv=>?_)
  rw[tC,ζf]at hu;obtain⟨J,w,rfl⟩:=hu;exact B j J v w hv (s7 D w)
 | agg a I L hva B=>
  refine .agg _ I (by rw[ow];omega) (λj u v hu hv=>?_)
  rw[tC,ζf]at hu;obtain⟨J,w,rfl⟩:=hu;exact B j J v w hv (s7 D w)
 | yl id=>exact .yl id
theorem Ii (r:R ν Z st F H) {d e:Nat} (D:d≠e) (hn:st.new e=true):R (lY ν d e) Z { st with g:=zg d e st.g,m:=uZ d e st.m } F H/\Ev Rv ν Z st H (lY ν d e) Z { st with g:=zg d e st.g,m:=uZ d e st.m } H:=by
 obtain⟨n1,U,n3,n4⟩:=jI hn;have key:∀k z,bl (uZ d e st.m) k=some z->∃k0 ob,bl st.m k0=some ob/\z=ob.rF d e/\k0=(if k=e then d else k)/\k≠d/\(k=e/\k0=d\/k≠e/\k0=k):=λk z h=>by
  rw[Av D U]at h;split at h
  .simp_all
  rename_i h1;rw[ζf]at h;obtain⟨ob,B,rfl⟩:=h
  by_cases G:k=e
  .rw[if_pos G]at B;exact⟨d,ob,B,rfl,by grind[lY],h1,.inl ⟨G,rfl⟩⟩
  rw[if_neg G]at B;exact⟨k,ob,B,rfl,by grind[lY],h1,.inr ⟨G,rfl⟩⟩
 have C:∀k j,(lY ν d e).at k j=ν.at (if k=e then d else k) j:=Ot ν d e;have L:∀k,(lY ν d e) k=ν (if k=e then d else k):=λk=>by simp only[lY];split <;> rfl
 have W:∀k,(lY ν d e).inn k=ν.inn (if k=e then d else k):=λk=>by simp only[lY];split <;> rfl
 refine⟨⟨λs sv hs=>?_,λk z hk=>?_,λd1 d2 o1 o2 X j2 h1 B O b2 J=>?_,λd1 o1 X h1 O=>?_,r.zrow,r.deep⟩,⟨Nat.le_refl _,λ_ _ _ _ _=>rfl,λid h=>⟨h,rfl⟩,?_,λ_ h=>.inl h,?_,rfl⟩⟩
 .rw[EO,ζf]at hs;obtain⟨Y,Q,rfl⟩:=hs;exact cD.rF U (yp n3 Q) D (r.slot s Y Q)
 .obtain⟨k0,ob,h1,rfl,B,_,_⟩:=key k z hk;have o:=r.obj k0 ob h1;have J:(lY ν d e) k=ν k0:=by rw[L,<-B]
  cases ob with
  | sl fl es xs=>grind[bu.rF,cM]
  | box cs=>
   obtain⟨es,aa,g1,g2,g3⟩:=o;have I  := by have:=q_ n4 h1;simpa [bu.ct]using this
   refine⟨es,aa,by rw[J];exact g1,⟨by rw[ow];exact g2.1,λj u v hu hv=>?_⟩,g3⟩
   rw[tC,ζf]at hu;obtain⟨u',S,rfl⟩:=hu;exact cD.rF U (s7 I S) D (g2.2 j u' v S hv)
  | mp ab=>grind[bu.rF,cM]
  | dp fl xs w=>
   have hi:(lY ν d e).inn k=ν.inn k0:=by rw[W,<-B]
   have hC:∀i x y,uq ν H Z k0 i x y->uq (lY ν d e) H Z k i x y:=λi x y h=>by
    unfold uq at h ⊢;rw[hi];exact h
   have I:=q_ n4 h1;rcases w with _|⟨i0,t⟩
   .simp only[bu.rF,cM,J]at o ⊢;split
    next hk=>rw[if_pos hk]at o;obtain⟨o1,o2,o3,ys,o4,o5,o6⟩:=o;exact⟨o1,o2,o3,ys,o4,o5,λi x y hx hy=>hC i x y (o6 i x y hx hy)⟩
    rename_i hk;rw[if_neg hk]at o;exact o
   simp only[bu.rF,cM,J]at o ⊢;split
   .rename_i hk;rw[if_pos hk]at o;obtain⟨o1,o2,o3,ys,o4,o5,o6⟩:=o;refine⟨o1,o2,λi t' e=>by cases e;exact o3 _ _ rfl,ys,o4,o5,λi x y hx hy=>?_⟩
    have T:=o6 i x y hx hy;simp only[nk]at T ⊢;split
    next e0=>rw[if_pos e0]at T;obtain⟨v,q1,q2,q3⟩:=T;exact⟨v,q1,q2,cD.rF (sv:=.own t) U (by simpa [bu.ct,SV.ct]using I) D q3⟩
    rename_i e0;rw[if_neg e0]at T;exact hC i x y T
   rename_i hk;rw[if_neg hk]at o;cases o.2
 .obtain⟨k1,p1,g1,rfl,e1,c1,c2⟩:=key d1 o1 h1;obtain⟨k2,p2,g2,rfl,e2,c3,c4⟩:=key d2 o2 B;rw[HY]at O b2;rw[C,C,<-e1,<-e2]at J;have:=r.inj k1 k2 p1 p2 X j2 g1 g2 O b2 J;omega
 .obtain⟨k1,p1,g1,rfl,e1,_⟩:=key d1 o1 h1;rw[HY]at O;rw[C,<-e1];exact r.apart k1 p1 X g1 O
 .rintro id ⟨k,o,j,h1,B,G⟩;obtain⟨k1,p1,g1,rfl,e1,_⟩:=key k o h1;rw[HY]at B;exact .inl ⟨k1,p1,j,g1,B,by rw[C,<-e1]at G;exact G⟩
 intro k hk z h;obtain⟨k1,p1,g1,rfl,e1,c1,c2⟩:=key k z h;rcases c2 with⟨rfl,_⟩|⟨c2,rfl⟩
 .grind
 exact⟨p1,g1,by rw[L,<-e1],D0⟩
theorem R.XS (r:R ν Z st F H) {n:Nat} {sv:SV} (h:cD ν st.m H Z sv (get F n)):R ν Z { st with g:=bA st.g n sv } F H where
 slot:=λs x t=>by
  by_cases e:n=s
  .grind[bY]
  rw[cq st.g sv e]at t;exact r.slot s x t
 obj:=r.obj
 inj:=r.inj
 apart:=r.apart
 zrow:=r.zrow
 deep:=r.deep
theorem MS (r:R ν Z st F H) {n d es:Nat} {k:Fl} {x:V} (hk:jK k es []=x/\bQ k=false) (D:bl st.g n=some (.v x)) (B:st.new d=true) (G:∀y,FR H Z x y->y=x) (u:nL (ν d) k es 0=x) :
 R (gA ν d (ν d)) Z { st with g:=bA st.g n (.own d),m:=bA st.m d (.sl k es []) } F H/\Ev Rv ν Z st H (gA ν d (ν d)) Z { st with g:=bA st.g n (.own d),m:=bA st.m d (.sl k es []) } H:=by
 have t:dL (.sl k es [])=true->False:=by grind[dL]
 have r1:=r.add B (p:=ν d)  (λh=>(t h).elim) (by grind[cM])
 refine⟨r1.XS   (.own _ _ λz w=>?_),?_⟩
 .rw[bY]at w;cases w;rw[gO,G _ (r.slot n _ D).fr];exact⟨_,_,_,rfl,u.symm⟩
 exact(Ev.add  B (Nat.le_refl _) (λ_ _ _=>rfl) (λ_ _=>rfl) (λh=>(t h).elim)).trans (Ev.slots _)
theorem MU (r:R ν Z st F H) {b i d es:Nat} {k:Fl} {x:V} {cs:a_ SV} (hk:bQ k=false) (O:bl st.m b=some (.box cs)) (T:cs[i]? = some (.v x)) (D:st.new d=true) (U:∀y,FR H Z x y->y=x) (G:nL (ν d) k es 0=x) :
 ∃ν',R ν' Z { st with m:=bA (bA st.m d (.sl k es [])) b (.box (cs.set i (.own d))) } F H/\Ev Rv ν Z st H ν' Z { st with m:=bA (bA st.m d (.sl k es [])) b (.box (cs.set i (.own d))) } H:=by
 have z:dL (.sl k es [])=true->False:=by grind[dL]
 have r1:=r.add D (p:=ν d)  (λh=>(z h).elim) (by grind[cM])
 have B:b≠d:=by rintro rfl;rw[(jI D).2.1]at O;cases O
 have w:bl (bA st.m d (.sl k es [])) b=some (.box cs):=by rw[cq _ _ (Ne.symm B)];omega
 obtain⟨C,I,h1,J,S⟩:=r1.obj b _ w;have W:∀e t,bl (bA (bA st.m d (.sl k es [])) b (.box (cs.set i (.own d)))) e=some t->∃ob,bl (bA st.m d (.sl k es [])) e=some ob/\gA ν d (ν d) e=gA ν d (ν d) e/\sameShape ob t:=λe t h=>by
  by_cases L:e=b
  .subst L;rw[bY]at h;cases h;exact⟨_,w,rfl,rfl⟩
  rw[cq _ _ (Ne.symm L)]at h;exact⟨t,h,rfl,.refl _⟩
 refine⟨gA ν d (ν d),r1.fT w rfl (mm rfl) (λ_ _=>rfl) rfl ⟨C,I,h1,⟨by simp[J.1],λj u v hu hv=>?_⟩,S⟩,?_⟩
 .rw[List.getElem?_set]at hu;split at hu
  .rename_i e;subst e;split at hu
   .cases hu;refine .own _ _ λt Q=>?_
    rw[cq _ _ B,bY]at Q;cases Q;rw[gO,U v (J.2 i _ v T hv).fr];exact⟨_,_,_,rfl,G.symm⟩
   grind
  exact(J.2 j u v hu hv).mono (λid h=>⟨h,rfl⟩) λe _=>W e
 exact(Ev.add  D (Nat.le_refl _) (λ_ _ _=>rfl) (λ_ _=>rfl) (λh=>(z h).elim)).trans (Ev.fT r1 w rfl (mm rfl) (λ_ _=>rfl) rfl (Nat.le_refl _))
theorem Tc (r:R ν Z st F H) {d:Nat} (h:FW d st=some st'):R ν Z st' F H/\Ev Rv ν Z st H ν Z st' H:=by
 unfold FW at h;split at h
 .rename_i k es D u;split at h
  .rename_i hc;obtain⟨rfl,hk,w⟩:=hc;cases h;have G:∀(i:Nat) (x:a_ V),D[i]? = some x->x=[.bN]\/x=[.c_]:=λi x I=>by
    have:=List.all_eq_true.1 w x (List.mem_of_getElem? I);unfold Uw at this;split at this
    .exact .inl rfl
    .exact .inr rfl
    cases this
   have z:∀j,(bu.dp k D none).pt j=true->(bu.sl k 1 D).pt j=true:=λj L=>by
    cases j with
    | zero=>exact L
    | succ i=>
     obtain⟨-,es,T,I⟩:=qS L;rcases G i _ I with h|h <;> cases h
   have o:=r.obj d _ u;refine⟨r.Ej u rfl z (λ_ _=>rfl) ?_,Ev.Ej r u rfl z (λ_ _=>rfl) (Nat.le_refl _)⟩
   simp only[cM]at o ⊢;split
   .rename_i hr;rw[if_pos hr]at o;have hk:k=.row:=by cases k <;> simp_all [bQ]
    obtain⟨Q,o1,o2,o3,U,C⟩:=o;obtain⟨C,O⟩:=C hk;refine⟨hk,C,(λi t e=>by cases e),Q,o1,O,λi x y w S=>.inl ⟨?_,G i x w⟩⟩
    rw[C,List.drop_zero,<-O,List.take_length]at o3;have B:=o3.2 i x y w S;rcases G i x w with rfl|rfl
    .obtain⟨y,_,rfl,h1,J⟩:=B.inv;rw[J.cT,h1.bN]
    obtain⟨y,_,rfl,h1,J⟩:=B.inv;rw[J.cT,h1.c_]
   rename_i hr;rw[if_neg hr]at o;exact⟨o,by simp⟩
  cases h
 .cases h;exact⟨r,.refl⟩
 cases h
theorem SK (r:R ν Z st F H) {d es t:Nat} {i:Loc} (h:AJ d i es t st=some st'):∃ν',R ν' Z st' F H/\Ev Rv ν Z st H ν' Z st' H:=by
 unfold AJ at h;split at h
 rotate_left
 .cases h;exact⟨ν,r,.refl⟩
 .cases h
 rename_i k S i u _;split at h
 rotate_left
 .cases h
 rename_i hc;obtain⟨hk,ab⟩:=hc;obtain⟨x,hx,h⟩:=ζg.1 h;obtain⟨ob,hu,rfl⟩:=ζf.1 h;obtain⟨n1,n2,n3,n4⟩:=jI ab;have G:d≠t:=by rintro rfl;rw[n2]at u;cases u
 have hi:=(ζe.1 hx).1;have o:=r.obj d _ u;simp only[cM,hk,if_true]at o;obtain⟨o1,o2,-,ys,o3,o4,o5⟩:=o;have T:∀j,(bu.dp k S (some (i,t))).pt j=true->j≠i+1/\(bu.dp k S none).pt j=true:=λj I=>by
  cases j with
  | zero=>exact⟨by omega,I⟩
  | succ j=>
   obtain⟨h1,es,D,J⟩:=qS I;exact⟨λe=>h1 t (by rw[show i=j by omega]),by simp[bu.pt,J]⟩
 have U:∀y,ys[i]? = some y->uq ν H Z d i x y:=λy hy=>o5 i x y hx hy
 obtain⟨y,hy⟩:∃y,ys[i]? = some y:=⟨_,ζd Za⟩
 have ae:=U y hy;obtain⟨v,kk,D,e1,e2,e3,e4,e5,e6⟩:∃v kk D,y=[v]/\v.one=true/\ob=.sl kk es D/\v=nL (ν.inn d i,0) kk es D.length/\(bQ kk=true->(bu.dp k S none).pt (i+1)=true/\∃ws,H[ν.inn d i]? = some (.row es ws)/\fh H Z D ws)/\(bQ kk=false->D=[]):=by
  rcases ae with⟨rfl,rfl|rfl⟩|⟨al,D,ws,rfl,rfl,q1,q2⟩
  .cases hu;exact⟨.bN,.nil,[],rfl,rfl,rfl,rfl,(λh=>by cases h),λ_=>rfl⟩
  .cases hu;exact⟨.c_,.emp,[],rfl,rfl,rfl,rfl,(λh=>by cases h),λ_=>rfl⟩
  simp only[Ra]at hu;split at hu
  next e=>subst e;cases hu;exact⟨_,.row,D,rfl,rfl,rfl,rfl,λ_=>⟨by simp[bu.pt,hx],ws,q1,q2⟩,λh=>by cases h⟩
  cases hu
 subst e3;have r1:R ν Z { st with m:=bA st.m d (.dp k S (some (i,t))) } F H:=by
  refine r.Ej u rfl (λj I=>(T j I).2) (λ_ _=>rfl) ?_
  simp only[cM,hk,if_true];refine⟨o1,o2,λi' t' e=>by cases e;exact hi,ys,o3,o4,λi' x' y' W w=>?_⟩
  simp only[nk];split
  next e=>subst e;rw[hy]at w;cases w;exact⟨v,e1,e2,.own _ _ λX h'=>by rw[cq _ _ G,n2]at h';cases h'⟩
  exact o5 i' x' y' W w
 have L:∀e,bl (bA st.m d (.dp k S (some (i,t)))) e=some (.dp k S (some (i,t)))/\e=d\/e≠d/\bl (bA st.m d (.dp k S (some (i,t)))) e=bl st.m e:=λe=>by
  by_cases C:e=d
  .subst C;exact .inl ⟨bY _ _ _,rfl⟩
  exact .inr ⟨C,cq _ _ (Ne.symm C)⟩
 have hs:=mq ν t (ν.inn d i,0) (λ_=>0)
 have ad:(iQ ν t (ν.inn d i,0) (λ_=>0)).at t 0=ν.at d (i+1):=congrArg Prod.fst hs.1
 have O:(bu.sl kk es D).flat:=jh Zc
 have af:∀id,Z id->Z id/\bq H id=bq H id:=λid h=>⟨h,rfl⟩
 refine⟨iQ ν t (ν.inn d i,0) (λ_=>0),r1.P0 (ob:=.sl kk es D) (p:=(ν.inn d i,0)) (f:=λ_=>0) ?_ n3 (λe o C ho=>?_) (λj I=>?_) (λj j' I ah _=>by rw[O j I,O j' ah]) ?_,⟨Nat.le_refl _,λ_ _ _ _ _=>rfl,af,λid ho=>?_,λ_ h=>.inl h,λe C X h=>?_,rfl⟩⟩
 .rw[cq _ _ G];exact n2
 .rcases L e with⟨h1,rfl⟩|⟨h1,J⟩
  .simp only at C;rw[h1]at C;cases C;have ai:(iQ ν t (ν.inn e i,0) (λ_=>0)) e=ν e:=if_neg G
   have aj:(iQ ν t (ν.inn e i,0) (λ_=>0)).inn e=ν.inn e:=if_neg G
   simp only[cM,hk,if_true,ai];refine⟨o1,o2,λi' t' e=>by cases e;exact hi,ys,o3,o4,λi' x' y' W w=>?_⟩
   simp only[nk];split
   .rename_i e9;subst e9;rw[hy]at w;cases w;refine⟨v,e1,e2,.own _ _ λX h'=>?_⟩
    rw[bY]at h';cases h';exact⟨_,_,_,rfl,by rw[hs.1];exact e4⟩
   have:=o5 i' x' y' W w;unfold nk uq at *;rw[aj];exact this
  simp only at C;rw[J]at C;rw[q_ n4 C]at ho;cases ho
 .have:=O j I;subst this;have z:bQ kk=true:=I;rw[ad];refine⟨λ⟨k2,ak,Y,B,Q,z3⟩=>?_,r.apart d _ _ u (e5 z).1⟩
  rcases L k2 with⟨h1,rfl⟩|⟨h1,J⟩
  .simp only at B;rw[h1]at B;cases B;obtain⟨w1,w2⟩:=T Y Q;exact w1 (r.inj k2 k2 _ _ Y _ u u w2 (e5 z).1 z3).2
  simp only at B;rw[J]at B;exact h1 (r.inj k2 d _ _ Y _ B u Q (e5 z).1 z3).1
 .simp only[cM];split
  .rename_i z;obtain⟨_,ws,q1,q2⟩:=e5 z;rw[hs.1];have hl:=q2.1;refine⟨ws,q1,by simp[hl],?_,q2.yW,λ_=>⟨rfl,hl.symm⟩⟩
   rw[hl,List.drop_zero,List.take_length];exact q2
  rename_i z;exact e6 (by simpa using z)
 .rcases Ho ho with⟨k2,ak,Y,B,Q,z3⟩|⟨j,B,Q⟩
  .rcases L k2 with⟨h1,rfl⟩|⟨h1,J⟩
   .rw[h1]at B;cases B;exact .inl ⟨k2,_,Y,u,(T Y Q).2,z3⟩
   rw[J]at B;exact .inl ⟨k2,_,Y,B,Q,z3⟩
  have:=O j B;subst this;rw[ad]at Q;exact .inl ⟨d,_,i+1,u,(e5 B).1,Q⟩
 have aa:e≠t:=by rintro rfl;exact n1 C
 simp only at h;rw[cq _ _ (Ne.symm aa)]at h;rcases L e with⟨h1,rfl⟩|⟨h1,J⟩
 .rw[h1]at h;cases h;exact⟨_,u,if_neg aa,rfl⟩
 rw[J]at h;exact⟨X,h,if_neg aa,.refl _⟩
theorem Pq (r:R ν Z st F H) {x:Gh} (h:ghost x st=some st'):∃ν' Z',R ν' Z' st' F H/\Ev Rv ν Z st H ν' Z' st' H:=by
 cases x with
 | close d=>obtain⟨Z',a,b⟩:=Ir (Rv:=Rv) r h;grind
 | closeS l=>
  simp[ghost]at h;split at h
  .obtain⟨Z',a,b⟩:=Ir (Rv:=Rv) r h;grind
  .simp  at h;subst h;exact⟨ν,Z,r,.refl⟩
  grind
 | closeB d=>obtain⟨Z',a,b⟩:=N7 (Rv:=Rv) r h;grind
 | keep gs G=>
  simp[ghost]at h;split at h
  next g m hg B=>simp  at h;subst h;exact⟨ν,Z,r.less (λs D w=>pQ hg w) (λd ob hd=>pQ B hd),Ev.less (λd ob hd=>pQ B hd)⟩
  grind
 | drop ds=>
  simp[ghost]at h;subst h;exact⟨ν,Z,r.less   (λs D w=>nY w) (λd ob hd=>hd),Ev.less   (λd ob hd=>hd)⟩
 | melt d=>obtain⟨a,b⟩:=Tc (Rv:=Rv) r h;exact⟨ν,Z,a,b⟩
 | take d i es t=>obtain⟨ν',a,b⟩:=SK (Rv:=Rv) r h;exact⟨ν',Z,a,b⟩
 | put d=>obtain⟨ν',a,b,-⟩:=ME (Rv:=Rv) r h;exact⟨ν',Z,a,b⟩
 | canon l d es=>
  cases l with
  | s n=>
   simp[ghost]at h;split at h
   .rename_i w;split at h
    .rename_i u;simp  at h;obtain⟨a,b⟩:=MS (Rv:=Rv) (es:=es) (k:=.nil) r ⟨rfl,rfl⟩ w u (λy h=>h.bN) rfl
     grind
    grind
   .rename_i w;split at h
    .rename_i u;simp  at h;obtain⟨a,b⟩:=MS (Rv:=Rv) (es:=es) (k:=.emp) r ⟨rfl,rfl⟩ w u (λy h=>h.c_) rfl
     grind
    grind
   .split at h
    .simp  at h;subst h;exact⟨ν,Z,r,.refl⟩
    rename_i z;split at h
    .rename_i u;simp  at h;obtain⟨a,b⟩:=Ii (Rv:=Rv) r z u
     grind
    grind
   .split at h
    .simp  at h;subst h;exact⟨ν,Z,r,.refl⟩
    rename_i z;split at h
    .rename_i u;simp  at h;obtain⟨a,b⟩:=Ii (Rv:=Rv) r z u
     grind
    grind
   grind
  | c b i=>
   simp[ghost]at h;split at h
   .rename_i cs C;split at h
    .rename_i w;split at h
     .rename_i u;simp  at h;obtain⟨ν',a,b⟩:=MU (Rv:=Rv) (es:=es) (k:=.nil) r rfl C w u (λy h=>h.bN) rfl
      grind
     grind
    .rename_i w;split at h
     .rename_i u;simp  at h;obtain⟨ν',a,b⟩:=MU (Rv:=Rv) (es:=es) (k:=.emp) r rfl C w u (λy h=>h.c_) rfl
      grind
     grind
    .split at h
     .simp  at h;subst h;exact⟨ν,Z,r,.refl⟩
     rename_i z;split at h
     .rename_i u;simp  at h;obtain⟨a,b⟩:=Ii (Rv:=Rv) r z u
      grind
     grind
    grind
   grind
end
structure n9 (E:Env) (f:FuncId) (q:ED):Prop where
 keep:E.keep f=true
 own:E.own f=false
 le:∀es xs vs ys,q.go es xs vs=some ys->ys.length<=xs.length/\(q.part=false->ys.length=xs.length)
 none:∀es vs ys,q.go es [] vs=some ys->∀(H:bn) (Z:Nat->Prop) (ws:List V) (w:V),c8 H Z vs ws->(w=.bN\/w=.c_)->∃n X,∀k,n<=k->run E k (.fn f) (w::ws) H=some (if q.part then w else .undef,H++X)
 row:∀es xs vs ys,q.go es xs vs=some ys->∀(H:bn) (Z:Nat->Prop) (ws:List V) (id off:Nat) (rs:List (List V)),c8 H Z vs ws->H[id]? = some (.row es rs)->off+xs.length<=rs.length ->
  fh H Z xs ((rs.drop off).take xs.length)->t_ H Z rs->¬Z id->∃n rs' X,(∀k,n<=k->run E k (.fn f) (.hsl id es off xs.length::ws) H=some (if q.part then .hsl id es off ys.length else .undef,(H++X).set id (.row es rs'))) /\
   rs'.length=rs.length/\fh H Z ys ((rs'.drop off).take ys.length)/\t_ H Z rs'
section
variable {Rv:Nat->Prop} {ν ν':Nu} {Z Z':Nat->Prop} {st st':St} {m m':Tb bu} {F F':Frame} {H H':bn}
theorem TA {E:Env} {f:FuncId} {q:ED} (hq:n9 E f q) (r:R ν Z st F H) {args:a_ SV} {ys:a_ V} (ha:bW ν st.m H Z args ys) {dst:bf Nat} {sv:SV} (h:BL q dst args st=some (sv,st')) :
 ∃n y H' ν',(∀k,n<=k->run E k (.fn f) ys H=some (y,H'))/\R ν' Z st' F H'/\cD ν' st'.m H' Z sv y/\Ev Rv ν Z st H ν' Z st' H'/\Kept dst ν st.m ν' st'.m:=by
 unfold BL at h;split at h
 .rename_i d vs;obtain⟨w,ws,rfl,h1,h2⟩:=ha.inv;split at h
  .rename_i k es xs zs u G;have aa:=bW.cV h2 G;split at h
   .rename_i ns T;obtain⟨al,af⟩:=hq.le _ _ _ _ T;obtain⟨_,_,_,ee,rfl⟩:=h1.fQ u;cases ee;have grow:∀X:bn,R ν Z st F (H++X)/\Ev Rv ν Z st H ν Z st (H++X)/\∀id,Z id->bq (H++X) id=bq H id:=λX=>by
     have hx:∀id,id<H.length->(H++X)[id]? = H[id]? := λid h=>List.getElem?_append_left h
     have G:∀id,Z id->bq (H++X) id=bq H id:=λid h=>by unfold bq;rw[hx id (r.uC h)]
     exact⟨r.heap (λid h=>hx id (r.lt h)) G,Ev.heap Zc (λid h _ _ _=>hx id h) G,G⟩
    have o:=r.obj d _ u
    cases hk:bQ k with
    | false=>
     simp only[cM,hk,Bool.false_eq_true,if_false]at o;subst o;have hw:nL (ν d) k es 0=.bN\/nL (ν d) k es 0=.c_:=by cases k <;> simp[nL,bQ]at hk ⊢
     obtain⟨n,X,L⟩:=hq.none _ _ _ T H Z ws _ aa hw;obtain⟨r0,I,U⟩:=grow X;simp only[hk,Bool.false_eq_true,if_false]at h;split at h
     .rename_i O;split at h
      .rename_i t;split at h
       .rename_i z;simp only[ζa,ζc]at h;obtain⟨rfl,rfl⟩:=h;have r1:R ν Z { st with m:=cz d st.m } F (H++X):=r0.less (g:=st.g) (λ_ _ h=>h) jX
        rw[if_pos O]at L;refine⟨n,_,H++X,gA ν t (ν d),L,r1.add z (λhb=>by simp[dL,hk]at hb) (by simp[cM,hk]),?_,?_,Kept.add jX⟩
        .refine .own _ _ λah W=>?_
         simp only at W;rw[bY]at W;cases W;exact⟨_,_,_,rfl,by rw[gO];rfl⟩
        exact I.trans (Ev.re (st:=st) jX (jI z).1 (Nat.le_refl _) (λ_ _ _ _=>rfl) (λ_ _=>rfl) (λhb=>by simp[dL,hk]at hb))
       cases h
      cases h
     rename_i O;simp only[ζa,ζc]at h;obtain⟨rfl,rfl⟩:=h;rw[if_neg O]at L;have hu:bA st.m d (.sl k es [])=st.m:=rD u;rw[hu];exact⟨n,_,H++X,ν,L,r0,.v _ _ (.same _ rfl),I,.refl⟩
    | true=>
     simp only[cM,hk,if_true]at o;obtain⟨rs,hr,hl,hf,ab,Q⟩:=o;have B:dL (.sl k es xs)=true:=hk;obtain⟨n,C,X,L,e1,e2,e3⟩:=hq.row _ _ _ _ T H Z ws _ _ rs aa hr hl hf ab (r.apart d _ 0 u B);obtain⟨r0,I,U⟩:=grow X;have ai:(ν d).1<(H++X).length:=by have:=(ζe.1 hr).1;simp;omega
     have G:∀id,Z id->Z id/\bq ((H++X).set (ν d).1 (.row es C)) id=bq H id:=λid D=>⟨D,by
      rw[<-U id D];unfold bq;rw[List.getElem?_set_ne];rintro rfl;exact r.apart d _ 0 u B D⟩
     have ad:∀id,Z id->bq ((H++X).set (ν d).1 (.row es C)) id=bq (H++X) id:=λid D=>by rw[(G id D).2,U id D]
     have hh:∀id,id≠(ν d).1->((H++X).set (ν d).1 (Ob.row es C))[id]? = (H++X)[id]? := λid aj=>List.getElem?_set_ne (Ne.symm aj)
     have J:((H++X).set (ν d).1 (Ob.row es C))[(ν d).1]? = some (.row es C):=List.getElem?_set_self ai;rw[nC hk];simp only[hk,if_true]at h;split at h
     .rename_i O;split at h
      .rename_i t;split at h
       .rename_i z;simp only[ζa,ζc]at h;obtain⟨rfl,rfl⟩:=h;have r1:R ν Z { st with m:=cz d st.m } F (H++X):=r0.less (g:=st.g) (λ_ _ h=>h) jX
        have ae:¬eF ν (cz d st.m) (ν d).1:=by
         rintro⟨k2,o2,j2,g1,g2,g3⟩;obtain⟨g4,g5⟩:=jQ g1;exact g4 (r.inj d k2 _ o2 0 j2 u g5 B g2 g3.symm).1
        have r2:R ν Z { st with m:=cz d st.m } F ((H++X).set (ν d).1 (.row es C)):=r1.heap (λid ho=>hh id (by rintro rfl;exact ae ho)) ad
        rw[if_pos O]at L;refine⟨n,_,_,gA ν t (ν d),L,r2.add z (λ_=>⟨ae,r.apart d _ 0 u B⟩) ?_,?_,?_,Kept.add jX⟩
        .simp only[cM,bQ,if_true,gO];exact⟨C,J,by omega,e2.mono G,e3.mono G,λe=>by cases e⟩
        .refine .own _ _ λah W=>?_
         simp only at W;rw[bY]at W;cases W;exact⟨_,_,_,rfl,by rw[gO];rfl⟩
        exact I.trans (Ev.re (st:=st) jX (jI z).1 Zc (λid _ ho _=>hh id (by rintro rfl;exact ho ⟨d,_,0,u,B,rfl⟩)) ad (λ_=>.inl ⟨d,_,0,u,B,rfl⟩))
       cases h
      cases h
     rename_i O;simp only[ζa,ζc]at h;obtain⟨rfl,rfl⟩:=h;rw[if_neg O]at L;have ak:q.part=false:=by simpa using O
     have S:=af ak;have Y:sameShape (.sl k es xs) (.sl k es ns):=by simp[sameShape,bu.uw,S]
     refine⟨n,_,_,ν,L,r0.fT u Y (mm rfl) hh B ?_,.v _ _ (.same _ rfl),I.trans (Ev.fT r0 u Y (mm rfl) hh B Zc),Kept.fT u Y (mm rfl)⟩
     simp only[cM,hk,if_true];exact⟨C,J,by omega,e2.mono G,e3.mono G,λe=>⟨(Q e).1,by rw[e1,(Q e).2,S]⟩⟩
   cases h
  cases h
 cases h
end
def xD:Nat->a_ SV->Tb SV
 | _,[]=>[]
 | i,v::vs=>(i,v)::xD (i+1) vs
def start (svs:a_ SV) (u:c7):St:=⟨xD 0 svs,u,u.map (·.1),[],true,0⟩
def iH (S:Sys) (c:bU):Prop:=
 ∀f t u rs w,c f t u=some (rs,w)->∀(ν:Nu) (Z:Nat->Prop) (args:a_ V) (H:bn),(S.E.keep f=true\/H=[])->R ν Z (start t u) args H->bW ν u H Z t args ->
  ∃n y H' ν' Z' st' F' z,run S.E n (.fn f) args H=some (y,H')/\y=result z/\st'.m=w/\bW ν' w H' Z' rs z/\R ν' Z' st' F' H'/\Ev (λ_=>False) ν Z (start t u) H ν' Z' st' H'
section
variable {Rv:Nat->Prop} {ν ν':Nu} {Z Z':Nat->Prop} {st st':St} {m m':Tb bu} {F F':Frame} {H H' H1:bn} {N:Nat->FuncId}
theorem QG {k:Fl} {es:Nat} {xs:a_ (a_ V)} {d:Nat} (o:cM ν m H Z d (.sl k es xs)):(jK k es xs).good=true:=by
 by_cases hk:bQ k=true
 .simp only[cM,hk,if_true]at o;obtain⟨u,_,_,t,_⟩:=o;have e:jK k es xs=.fsl es xs:=by cases k <;> simp[bQ]at hk <;> rfl
  rw[e];simp only[V.good];exact t.good
 cases k <;> simp[bQ]at hk <;> rfl
mutual
theorem MP (D:∀d ob,bl m d=some ob->cM ν m H Z d ob):∀(n:Nat) (sv:SV) (x y:V),shut m n sv=some x->cD ν m H Z sv y->x.good=true
 | n,.v x,z,y,h,r=>by simp only[shut,ζa]at h;subst h;exact r.fr.good
 | n,.own d,z,y,h,r=>by
  simp only[shut]at h;split at h
  next k es xs B=>simp only[ζa]at h;subst h;exact QG (D d _ B)
  next k xs B=>simp only[ζa]at h;subst h;exact(LG (Z':=λ_=>True) (D d _ B) (λ_ _=>trivial) (λ_ _=>trivial)).1.good
  simp at h
 | 0,.ptr d o,z,y,h,r=>by simp[shut]at h
 | n+1,.ptr d o,z,y,h,r=>by
  simp only[shut]at h;split at h
  .rename_i cs B;split at h
   .rename_i xs J;split at h
    .simp only[ζa]at h;subst h;obtain⟨es,G,_,hc,_⟩:=D d _ B;simp only[V.good];exact yz _ (mA D n cs xs G J hc)
    simp at h
   simp at h
  simp at h
 | n,.el d i o,z,y,h,r=>by cases n <;> simp[shut]at h
 | n,.yl id,z,y,h,r=>by cases n <;> simp[shut]at h
 | n,.mp d,z,y,h,r=>by
  simp only[shut]at h;split at h
  .rename_i L B;simp only[ζa]at h;subst h;obtain⟨t,_,hk⟩:=D d _ B;simp only[V.good];refine Es.2 λj u hu=>?_
   have O:j<t.length:=by rw[<-hk.1];exact(ζe.1 hu).1
   obtain⟨⟨_,h1⟩,w⟩:=hk.2 j u _ hu (ζd O);exact⟨jo h1,w.good⟩
  simp at h
 | 0,.clo f a b,z,y,h,r=>by simp[shut]at h
 | n+1,.clo f a b,z,y,h,r=>by
  simp only[shut]at h;split at h
  next Q x2 h1 w=>simp only[ζa]at h;subst h;obtain⟨S,T,rfl,U,W⟩:=r.jU;simp only[V.good,ζh];exact⟨mA D n a Q S h1 U,mA D n b x2 T w W⟩
  simp at h
 | 0,.tup l,z,y,h,r=>by simp[shut]at h
 | n+1,.tup l,z,y,h,r=>by
  simp only[shut]at h;obtain⟨xs,h1,rfl⟩:=ζf.1 h;obtain⟨C,rfl,I⟩:=r.qe;simp only[V.good];exact mA D n l xs C h1 I
 | 0,.agg l,z,y,h,r=>by simp[shut]at h
 | n+1,.agg l,z,y,h,r=>by
  simp only[shut]at h;obtain⟨xs,h1,rfl⟩:=ζf.1 h;obtain⟨C,rfl,I⟩:=r.h_;simp only[V.good];exact mA D n l xs C h1 I
theorem mA (B:∀d ob,bl m d=some ob->cM ν m H Z d ob):∀(n:Nat) (svs:a_ SV) (xs ys:a_ V),cO m n svs=some xs->bW ν m H Z svs ys->V.cQ xs=true
 | n,[],xs,ys,h,r=>by simp only[cO,ζa]at h;subst h;rfl
 | n,sv::svs,xs,ys,h,r=>by
  simp only[cO]at h;split at h
  next y s h1 D=>simp only[ζa]at h;subst h;obtain⟨G,u,rfl,r1,r2⟩:=r.inv;simp only[V.cQ,ζh];exact⟨MP B n sv y G h1 r1,mA B n svs s u D r2⟩
  simp at h
end
theorem HS {f:V->bf V}:∀{xs ys:a_ (V×V)},xs.length=ys.length->(∀(j:Nat) u v,xs[j]? = some u->ys[j]? = some v->f v.1=some u.1/\f v.2=some u.2)->kU f ys=some xs
 | [],[],_,_=>rfl
 | [],y::ys,h,_=>by simp at h
 | x::xs,[],h,_=>by simp at h
 | (a,b)::xs,(c,d)::ys,h,B=>by
  obtain⟨h1,D⟩:=B 0 _ _ rfl rfl;simp only at h1 D;simp only[kU,h1,D,HS (xs:=xs) (ys:=ys) (by simpa using h) λj u v hu hv=>B (j+1) u v (by simpa using hu) (by simpa using hv)]
theorem Gw:∀{l:a_ (V×V)} {n:Nat},V.sJ n l=true↔∀(j:Nat) u,l[j]? = some u->u.1.lvl n=true/\u.2.lvl n=true
 | [],n=>by simp[V.sJ]
 | (k,x)::l,n=>by
  simp only[V.sJ,ζh,Gw (l:=l)];constructor
  .rintro⟨h1,B⟩ j u hu
   cases j with
   | zero=>simp at hu;subst hu;exact h1
   | succ j=>exact B j u (by simpa using hu)
  intro h;exact⟨h 0 (k,x) rfl,λj u hu=>h (j+1) u (by simpa using hu)⟩
theorem uu {n:Nat} {xs ys:a_ V} (D:iy (borrow n H1) ys=some xs) (B:V.gQ ys=true):ys=xs:=by
 have t:=jY (f:=borrow n H1) (xs:=ys) (ys:=ys) rfl λj u v hu hv=>by rw[hu]at hv;cases hv;exact ez n H1 (ou.1 B j u hu)
 rw[D]at t;cases t;rfl
mutual
theorem IN {fr:a_ Nat} (G:∀d∈fr,∀e ob,bl m e=some ob->ob.ct d=false) (J:∀d ob,bl m d=some ob->d∉fr->cM ν m H1 Z d ob) :
 ∀(n:Nat) (sv:SV) (x y:V),shut m n sv=some x->(∀d∈fr,sv.ct d=false)->cD ν m H1 Z sv y->∀k,x.lvl k=true->borrow k H1 y=some x
 | n,.v x,z,y,h,D,r,k,hk=>by simp only[shut,ζa]at h;subst h;exact r.fr.borrow k hk
 | n,.own d,z,y,h,D,r,k,hk=>by
  simp only[shut]at h;split at h
  .rename_i O es xs B;simp only[ζa]at h;subst h;obtain⟨_,_,_,e,rfl⟩:=r.fQ B;cases e;have hd:d∉fr:=λhd=>by have:=D d hd;simp[SV.ct]at this
   have o:=J d _ B hd
   by_cases C:bQ O=true
   .simp only[cM,C,if_true]at o;obtain⟨ys,hr,hl,hf,_⟩:=o;rw[nC C];have e:jK O es xs=.fsl es xs:=by cases O <;> simp[bQ]at C <;> rfl
    rw[e]at hk ⊢;exact(FR.Cu (Z:=λ_=>True) trivial (show bq H1 (ν d).1=some (es,ys)by unfold bq;rw[hr];rfl) hl (hf.mono λid h=>⟨trivial,rfl⟩)).borrow k hk
   cases O <;> simp[bQ]at C
   .exact ez k H1 rfl
   exact ez k H1 rfl
  .rename_i O xs B;simp only[ζa]at h;subst h;obtain⟨_,_,_,e,rfl⟩:=r.fQ B;cases e;have hd:d∉fr:=λhd=>by have:=D d hd;simp[SV.ct]at this
   exact(LG (Z':=λ_=>True) (J d _ B hd) (λ_ _=>trivial) (λ_ _=>trivial)).1.borrow k hk
  simp at h
 | 0,.ptr d o,z,y,h,D,r,k,hk=>by simp[shut]at h
 | n+1,.ptr d o,z,y,h,D,r,k,hk=>by
  simp only[shut]at h;split at h
  .rename_i cs B;split at h
   .rename_i xs hx;split at h
    .rename_i Y;simp only[ζa]at h;subst h;obtain⟨_,e,rfl⟩:=r.oA B;cases e;have hd:d∉fr:=λhd=>by have:=D d hd;simp[SV.ct]at this
     obtain⟨es,I,hr,hc,_⟩:=J d _ B hd
     cases k with
     | zero=>simp[V.lvl]at hk
     | succ k=>
      simp only[V.lvl]at hk;have aa:∀e∈fr,SV.c6 e (cs.drop o)=false:=λe he=>by
       have:=G e he d _ B;simp only[bu.ct]at this
       cases hh:SV.c6 e (cs.drop o)with
       | false=>rfl
       | true=>
        exfalso;have:∀{l:a_ SV} {j:Nat},SV.c6 e (l.drop j)=true->SV.c6 e l=true:=by
         intro l
         induction l with
         | nil=>intro j h;simpa using h
         | cons a l L=>intro j h;cases j with
          | zero=>simpa using h
          | succ j=>simp only[SV.c6,Bool.or_eq_true];exact .inr (L (by simpa using h))
        rw[this hh]at *;simp_all
      have Q:xs.length=cs.length:=by
       have:∀{l:a_ SV} {r:a_ V},cO m n l=some r->r.length=l.length:=by
        intro l
        induction l with
        | nil=>intro r h;simp only[cO,ζa]at h;subst h;rfl
        | cons a l L=>
         intro r h;simp only[cO]at h;split at h
         next h1 S=>simp only[ζa]at h;subst h;simp[L S]
         simp at h
       exact this hx
      have ab:cO m n (cs.drop o)=some (xs.drop o):=by
       have:∀{l:a_ SV} {r:a_ V} {j:Nat},cO m n l=some r->cO m n (l.drop j)=some (r.drop j):=by
        intro l
        induction l with
        | nil=>intro r j h;simp only[cO,ζa]at h;subst h;simp[cO]
        | cons a l L=>
         intro r j h;have h0:=h;simp only[cO]at h;split at h
         .rename_i h1 S;simp only[ζa]at h;subst h
          cases j with
          | zero=>exact h0
          | succ j=>exact L S
         simp at h
       exact this hx
      have hb:=jy G J n (cs.drop o) (xs.drop o) (I.drop o) ab aa (hc.drop o) k hk;unfold borrow;simp only[V.closed,Bool.false_eq_true,if_false,hr,ζb,Ob.rows,List.getElem?_cons_zero,if_pos (show o<=I.length by rw[<-hc.1,<-Q];exact Y),hb,Option.map_some]
    simp at h
   simp at h
  simp at h
 | n,.el d i o,z,y,h,D,r,k,hk=>by cases n <;> simp[shut]at h
 | n,.yl id,z,y,h,D,r,k,hk=>by cases n <;> simp[shut]at h
 | n,.mp d,z,y,h,D,r,k,hk=>by
  simp only[shut]at h;split at h
  .rename_i ad B;simp only[ζa]at h;subst h;obtain⟨_,e,rfl⟩:=r.Cp B;cases e;have hd:d∉fr:=λhd=>by have:=D d hd;simp[SV.ct]at this
   obtain⟨T,hr,U⟩:=J d _ B hd
   cases k with
   | zero=>simp[V.lvl]at hk
   | succ k=>
    simp only[V.lvl]at hk;unfold borrow;simp only[V.closed,Bool.false_eq_true,if_false,hr];rw[HS (xs:=ad) (ys:=T) U.1 λj u v hu hv=>?_]
    .rfl
    obtain⟨⟨e1,e2⟩,e3⟩:=U.2 j u v hu hv;exact⟨by rw[<-e1];exact ez k H1 (V.mQ (jo e2)),e3.borrow k (Gw.1 hk j u hu).2⟩
  simp at h
 | 0,.clo f a b,z,y,h,D,r,k,hk=>by simp[shut]at h
 | n+1,.clo f a b,z,y,h,D,r,k,hk=>by
  simp only[shut]at h;split at h
  .rename_i x1 x2 h1 S;simp only[ζa]at h;subst h;obtain⟨a',b',rfl,ra,rb⟩:=r.jU
   cases k with
   | zero=>simp[V.lvl]at hk
   | succ k=>
    simp only[V.lvl,ζh]at hk;have w:=jy G J n a x1 a' h1 (λd hd=>by have:=D d hd;simp only[SV.ct,Bool.or_eq_false_iff]at this;exact this.1) ra k hk.1
    have W:=jy G J n b x2 b' S (λd hd=>by have:=D d hd;simp only[SV.ct,Bool.or_eq_false_iff]at this;exact this.2) rb k hk.2
    by_cases t:(V.clo f a' b').closed=true
    .rw[ez _ _ t];simp only[V.closed,ζh]at t;rw[uu w t.1,uu W t.2]
    unfold borrow;rw[if_neg t];simp only[w,W]
  simp at h
 | 0,.tup l,z,y,h,D,r,k,hk=>by simp[shut]at h
 | n+1,.tup l,z,y,h,D,r,k,hk=>by
  simp only[shut]at h;obtain⟨xs,h1,rfl⟩:=ζf.1 h;obtain⟨X,rfl,rl⟩:=r.qe
  cases k with
  | zero=>simp[V.lvl]at hk
  | succ k=>
   simp only[V.lvl]at hk;have w:=jy G J n l xs X h1 (λd hd=>by have:=D d hd;simpa [SV.ct]using this) rl k hk
   by_cases t:(V.tup X).closed=true
   .rw[ez _ _ t];simp only[V.closed]at t;rw[uu w t]
   unfold borrow;rw[if_neg t];simp only[w,Option.map_some]
 | 0,.agg l,z,y,h,D,r,k,hk=>by simp[shut]at h
 | n+1,.agg l,z,y,h,D,r,k,hk=>by
  simp only[shut]at h;obtain⟨xs,h1,rfl⟩:=ζf.1 h;obtain⟨X,rfl,rl⟩:=r.h_
  cases k with
  | zero=>simp[V.lvl]at hk
  | succ k=>
   simp only[V.lvl]at hk;have w:=jy G J n l xs X h1 (λd hd=>by have:=D d hd;simpa [SV.ct]using this) rl k hk
   by_cases t:(V.agg X).closed=true
   .rw[ez _ _ t];simp only[V.closed]at t;rw[uu w t]
   unfold borrow;rw[if_neg t];simp only[w,Option.map_some]
theorem jy {fr:a_ Nat} (u:∀d∈fr,∀e ob,bl m e=some ob->ob.ct d=false) (G:∀d ob,bl m d=some ob->d∉fr->cM ν m H1 Z d ob) :
 ∀(n:Nat) (svs:a_ SV) (xs ys:a_ V),cO m n svs=some xs->(∀d∈fr,SV.c6 d svs=false)->bW ν m H1 Z svs ys->∀k,V.kV k xs=true->iy (borrow k H1) ys=some xs
 | n,[],xs,ys,h,B,r,k,hk=>by simp only[cO,ζa]at h;subst h;rw[r.cT];rfl
 | n,sv::svs,xs,ys,h,B,r,k,hk=>by
  simp only[cO]at h;split at h
  .rename_i y s h1 J;simp only[ζa]at h;subst h;obtain⟨O,D,rfl,r1,r2⟩:=r.inv;simp only[V.kV,ζh]at hk;have t:=IN u G n sv y O h1 (λd hd=>by have:=B d hd;simp only[SV.c6,Bool.or_eq_false_iff]at this;exact this.1) r1 k hk.1
   have w:=jy u G n svs s D J (λd hd=>by have:=B d hd;simp only[SV.c6,Bool.or_eq_false_iff]at this;exact this.2) r2 k hk.2
   simp only[iy,t,w]
  simp at h
end
end
theorem PB (n:Nat):V.kV n []=true:=by cases n <;> rfl
theorem Mh (n:Nat) (x:V) (r:a_ V):V.kV n (x::r)=(V.lvl n x&&V.kV n r):=by cases n <;> rfl
mutual
theorem CI:∀{n:Nat} {x:V},V.lvl n x=true->V.lvl (n+1) x=true
 | 0,.fsl ..,h=>by simp[V.lvl]at h
 | 0,.fptr ..,h=>by simp[V.lvl]at h
 | 0,.fmap ..,h=>by simp[V.lvl]at h
 | 0,.agg ..,h=>by simp[V.lvl]at h
 | 0,.tup ..,h=>by simp[V.lvl]at h
 | 0,.clo ..,h=>by simp[V.lvl]at h
 | n+1,.fsl es xs,h=>by simp only[V.lvl]at h ⊢;exact BM h
 | n+1,.fptr cs,h=>by simp only[V.lvl]at h ⊢;exact rT h
 | n+1,.fmap u,h=>by simp only[V.lvl]at h ⊢;exact DK h
 | n+1,.agg cs,h=>by simp only[V.lvl]at h ⊢;exact rT h
 | n+1,.tup cs,h=>by simp only[V.lvl]at h ⊢;exact rT h
 | n+1,.clo f a b,h=>by simp only[V.lvl,ζh]at h ⊢;exact⟨rT h.1,rT h.2⟩
 | 0,.bool _,_|0,.int ..,_|0,.str _,_|0,.gN,_|0,.gi,_|0,.rK,_|0,.c_,_|0,.bN,_|0,.hsl ..,_|0,.hptr ..,_|0,.yld _,_|0,.hmap _,_=>rfl
 | _+1,.bool _,_|_+1,.int ..,_|_+1,.str _,_|_+1,.gN,_|_+1,.gi,_|_+1,.rK,_|_+1,.c_,_|_+1,.bN,_|_+1,.hsl ..,_|_+1,.hptr ..,_|_+1,.yld _,_|_+1,.hmap _,_=>rfl
theorem rT:∀{n:Nat} {x:a_ V},V.kV n x=true->V.kV (n+1) x=true
 | n,[],_=>PB _
 | n,a::l,h=>by rw[Mh,ζh]at h ⊢;exact⟨CI h.1,rT h.2⟩
theorem BM:∀{n:Nat} {x:a_ (a_ V)},V.oJ n x=true->V.oJ (n+1) x=true
 | n,[],_=>by simp only[V.oJ]
 | n,a::l,h=>by simp only[V.oJ,ζh]at h ⊢;exact⟨rT h.1,BM h.2⟩
theorem DK:∀{n:Nat} {x:a_ (V×V)},V.sJ n x=true->V.sJ (n+1) x=true
 | n,[],_=>by simp only[V.sJ]
 | n,(k,v)::l,h=>by simp only[V.sJ,ζh]at h ⊢;exact⟨⟨CI h.1.1,CI h.1.2⟩,DK h.2⟩
end
theorem zQ {n m:Nat} (h:n<=m) {x:V} (u:V.lvl n x=true):V.lvl m x=true:=by
 induction h with
 | refl=>exact u
 | step _ t=>exact CI t
theorem pV {n m:Nat} (h:n<=m) {x:a_ V} (u:V.kV n x=true):V.kV m x=true:=by
 induction h with
 | refl=>exact u
 | step _ t=>exact rT t
theorem PY {n m:Nat} (h:n<=m) {x:a_ (a_ V)} (u:V.oJ n x=true):V.oJ m x=true:=by
 induction h with
 | refl=>exact u
 | step _ t=>exact BM t
theorem SF {n m:Nat} (h:n<=m) {x:a_ (V×V)} (u:V.sJ n x=true):V.sJ m x=true:=by
 induction h with
 | refl=>exact u
 | step _ t=>exact DK t
mutual
theorem Ac:∀x:V,∃n,V.lvl n x=true
 | .fsl es xs=>let ⟨n,h⟩:=Gm xs;⟨n+1,by simp only[V.lvl];exact h⟩
 | .fptr cs=>let ⟨n,h⟩:=ny cs;⟨n+1,by simp only[V.lvl];exact h⟩
 | .fmap t=>let ⟨n,h⟩:=Jv t;⟨n+1,by simp only[V.lvl];exact h⟩
 | .agg cs=>let ⟨n,h⟩:=ny cs;⟨n+1,by simp only[V.lvl];exact h⟩
 | .tup cs=>let ⟨n,h⟩:=ny cs;⟨n+1,by simp only[V.lvl];exact h⟩
 | .clo f a b=>let ⟨n,h⟩:=ny a;let ⟨m,k⟩:=ny b;⟨max n m+1,by simp only[V.lvl,ζh];exact⟨pV (Nat.le_max_left _ _) h,pV (Nat.le_max_right _ _) k⟩⟩
 | .bool _|.int ..|.str _|.gN|.gi|.rK|.c_|.bN|.hsl ..|.hptr ..|.yld _|.hmap _=>⟨0,rfl⟩
theorem ny:∀x:a_ V,∃n,V.kV n x=true
 | []=>⟨0,by simp only[V.kV]⟩
 | a::l=>let ⟨n,h⟩:=Ac a;let ⟨m,k⟩:=ny l;⟨max n m,by simp only[V.kV,ζh];exact⟨zQ (Nat.le_max_left _ _) h,pV (Nat.le_max_right _ _) k⟩⟩
theorem Gm:∀x:a_ (a_ V),∃n,V.oJ n x=true
 | []=>⟨0,by simp only[V.oJ]⟩
 | a::l=>let ⟨n,h⟩:=ny a;let ⟨m,k⟩:=Gm l;⟨max n m,by simp only[V.oJ,ζh];exact⟨pV (Nat.le_max_left _ _) h,PY (Nat.le_max_right _ _) k⟩⟩
theorem Jv:∀x:a_ (V×V),∃n,V.sJ n x=true
 | []=>⟨0,by simp only[V.sJ]⟩
 | (a,b)::l=>let ⟨n,h⟩:=Ac a;let ⟨m,k⟩:=Ac b;let ⟨q,p⟩:=Jv l;⟨max n (max m q),by simp only[V.sJ,ζh];exact⟨⟨zQ Za h,zQ Za k⟩,SF Za p⟩⟩
end
section
variable {Rv:Nat->Prop} {ν ν':Nu} {Z Z':Nat->Prop} {st st':St} {m m':Tb bu} {F F':Frame} {H H' H1:bn} {N:Nat->FuncId} {S:Sys} {c:bU}
theorem HC:∀(l:a_ SV) (i s:Nat) (sv:SV),bl (xD i l) s=some sv->∃j,s=i+j/\l[j]? = some sv
 | [],i,s,sv,h=>by simp[xD,bl]at h
 | x::l,i,s,sv,h=>by
  simp only[xD,bl]at h;split at h
  next e=>simp only[ζa]at h;subst h;exact⟨0,by omega,rfl⟩
  obtain⟨j,h1,u⟩:=HC l (i+1) s sv h;exact⟨j+1,by omega,by simpa using u⟩
theorem xy {svs:a_ SV} {args:a_ V} (h:bW ν m H Z svs args):∀s sv,bl (xD 0 svs) s=some sv->cD ν m H Z sv (get args s):=λs sv t=>by
 obtain⟨j,rfl,u⟩:=HC svs 0 s sv t;obtain⟨y,w,r⟩:=h.get u;rw[Nat.zero_add,Hf args j y w];exact r
theorem zL {az:a_ V} (hg:V.cQ az=true):R ⟨λ_=>(0,0),λ_ _=>0⟩ (λ_=>False) (start (az.map .v) []) az []/\bW ⟨λ_=>(0,0),λ_ _=>0⟩ [] [] (λ_=>False) (az.map .v) az:=by
 have h:bW ⟨λ_=>(0,0),λ_ _=>0⟩ [] [] (λ_=>False) (az.map .v) az:=bW.p_ (c8.same hg)
 refine⟨⟨xy h,λd ob hd=>by simp[start,bl]at hd,λd u ob t j w hd=>by simp[start,bl]at hd,λd ob j hd=>by simp[start,bl]at hd,λid h=>h.elim,⟨λid es z h=>h.elim⟩⟩,h⟩
theorem FE {xs ys:a_ V} (h:c8 H Z xs ys):((result xs).scalar=true->result ys=result xs)/\(result ys).scalar=(result xs).scalar:=by
 cases xs with
 | nil=>rw[h.cT];exact⟨λ_=>rfl,rfl⟩
 | cons x xs=>
  obtain⟨y,ys,rfl,h1,t⟩:=h.inv
  cases xs with
  | nil=>rw[t.cT];exact h1.scalar
  | cons x2 xs=>
   obtain⟨u,ys,rfl,w,z⟩:=t.inv;exact FR.scalar (.tup _ _ h.1 h.2)
theorem BS (U:iH S c) {f:FuncId} {az ys:a_ V} {rs:a_ SV} {m':c7} (hg:V.cQ az=true) (h:c f (az.map .v) []=some (rs,m')) (J:cO m' 8 rs=some ys) :
 ∃n r H2,(∀k,n<=k->run S.E k (.fn f) az []=some (r,H2))/\(∀k,n<=k->borrow k H2 r=some (result ys))/\(result ys).good=true:=by
 obtain⟨W,r1⟩:=zL hg;obtain⟨n,y,H2,ν',Z',st',F',w,h1,rfl,X,I,O,_⟩:=U f _ _ _ _ h _ _ az [] (.inr rfl) W r1;subst X;have B:=mA O.obj 8 rs ys w J I;obtain⟨L,Q⟩:=ny ys;refine⟨max n (L+1),result w,H2,λk hk=>(qw S.E (Nat.le_trans (Nat.le_max_left ..) hk)).go _ _ _ _ h1,λk hk=>?_,?_⟩
 .have u:=jy (fr:=[]) (λd hd=>by simp at hd) (λd ob hd _=>O.obj d ob hd) 8 rs _ _ J (λd hd=>by simp at hd) I
  obtain⟨k,rfl⟩:∃j,k=j+1:=⟨k-1,by omega⟩
  have T:=u k (pV Za Q)
  have Y:=u (k+1) (pV Za Q)
  obtain⟨e1,e2⟩:=iB Y
  cases w with
  | nil=>obtain rfl:=List.eq_nil_of_length_eq_zero e1;exact ez _ H2 rfl
  | cons z w=>
   cases w with
   | nil=>
    obtain⟨y,rfl⟩:∃y,ys=[y]:=by
     cases ys with
     | nil=>simp at e1
     | cons y l=>cases l with|nil=>exact⟨y,rfl⟩|cons _ _=>simp at e1
    obtain⟨x,Z,D⟩:=e2 0 y rfl;cases Z;exact D
   | cons z2 w=>
    obtain⟨y,C,l,rfl⟩:∃y C l,ys=y::C::l:=by
     cases ys with
     | nil=>simp at e1
     | cons y l=>cases l with|nil=>simp at e1|cons C l=>exact⟨y,C,l,rfl⟩
    by_cases t:(V.tup (z::z2::w)).closed=true
    .simp only[result];rw[ez _ _ t];simp only[V.closed]at t;rw[uu T t]
    simp only[result];unfold borrow;rw[if_neg t];simp only[T,Option.map_some]
 have:∀{l:a_ V},V.cQ l=true->(result l).good=true:=by
  intro l G
  cases l with
  | nil=>rfl
  | cons a l=>cases l with
   | nil=>simp only[V.cQ,ζh]at G;exact G.1
   | cons b l=>simp only[result,V.good];exact G
 exact this B
theorem D5 {f:FuncId} {args az:a_ V} {y r:V} {H2:bn} {n:Nat} (hr:∀k,n<=k->run S.E k (.fn f) az []=some (r,H2)) (B:∀k,n<=k->borrow k H2 r=some y) (hg:y.good=true) {u:Nat} (D:∀k,u<=k->borrows k H args=some az) :
 ∀k,max n u<=k->b8 (run S.E k) f args H=some y:=λk hk=>by
 unfold b8;simp only[og,D k Za,hr k Za,B k Za,V.mQ hg,if_true]
theorem qG (u:∀id,Z id->(bq H id).isSome=true) {T:a_ Nat} {id:Nat} (h:Z id):bq (cG H T) id=bq H id:=by
 have:=u id h;unfold bq at this ⊢;rw[hG]
 cases t:H[id]? with
 | none=>rw[t]at this;simp at this
 | some ob=>
  rw[t]at this;simp only[Option.map_some,ζb]
  by_cases e:id∈T
  .rw[if_pos e];cases ob <;> first|rfl|simp[Ob.rows]at this
  rw[if_neg e]
theorem tW {T:a_ Nat} {id:Nat} (h:id∉T):(cG H T)[id]? = H[id]? := by
 rw[hG];cases H[id]? <;> simp[h]
theorem zh {az:a_ V} {args:a_ SV} {ys:a_ V} (u:∀d ob,bl m d=some ob->cM ν m H Z d ob) (h:cO m 8 args=some az) (r:bW ν m H Z args ys):V.cQ az=true:=mA u 8 args az ys h r
theorem xm {az:a_ V} {args:a_ SV} {ys:a_ V} (r:R ν Z st F H) (u:bW ν st.m H Z args ys) (h:cO st.m 8 args=some az):∃n,∀k,n<=k->borrows k H ys=some az:=
 let ⟨n,t⟩:=ny az
 ⟨n,λk hk=>jy (fr:=[]) (λd hd=>by simp_all) (λd ob hd _=>r.obj d ob hd) 8 args az ys h (λd hd=>by simp_all) u k (pV hk t)⟩
theorem mG {b id:Nat} (h:id<b):bq (H.take b) id=bq H id:=by
 grind[bq]
theorem Lr {b:Nat} {fr:a_ Nat} {az:a_ V} {args:a_ SV} {ys:a_ V} (r:R ν Z st F H) (u:bW ν st.m H Z args ys) (h:cO st.m 8 args=some az)
 (B:∀d ob j,bl st.m d=some ob->ob.pt j=true->d∉fr->ν.at d j<b) (D:∀id,Z id->id<b) (hold:dR st.m fr args=true):∃n,∀k,n<=k->borrows k (H.take b) ys=some az:=by
 obtain⟨n,w⟩:=ny az;refine⟨n,λk hk=>?_⟩
 unfold dR at hold;have h1:∀d∈fr,SV.c6 d args=false/\rX d st.m=false:=λd hd=>by
  grind
 have t:∀id,Z id->Z id/\bq (H.take b) id=bq H id:=λid h=>⟨h,mG (D id h)⟩
 refine jy   (λd hd e ob z=>q_ (h1 d hd).2 z) (λd ob hd C=>?_) 8 args az ys h (λd hd=>(h1 d hd).1) (u.mono t λe _=>iE ν st.m e) k (pV hk w)
 exact cM.mono t rfl (λj G=>List.getElem?_take_of_lt (B d ob j hd G C)) (λe _=>iE ν st.m e) (r.obj d ob hd)
theorem DS (hS:iH S c) {ops:a_ Oper} {place:bf (Nat×Nat)} {dr nw:Bool} {fr:a_ Nat} (ab:dr=place.isSome) (aa:∀b i,place=some (b,i)->nw=true->dA ops i=true)
 (hold:∀b i,place=some (b,i)->(∀d ob j,bl st.m d=some ob->ob.pt j=true->d∉fr->ν.at d j<b)/\∀id,Z id->id<b)
 (r:R ν Z st F H) {args:a_ SV} {ys:a_ V} (ha:bW ν st.m H Z args ys) {f:FuncId} (hk:jA S.E ops place f=false) {az:a_ V} (hs:cO st.m 8 args=some az) (hno:(!dr||nw)=true\/dR st.m fr args=true)
 {rs:a_ SV} {m':c7} {D:a_ V} (hc:c f (az.map .v) []=some (rs,m')) (Y:cO m' 8 rs=some D) (J:(result D).scalar=true\/(cV args).isSome=true) :
 ∃n H',(∀k,n<=k->dJ S.E (run S.E k) ops place f ys H=some (result D,H'))/\R ν Z st F H'/\cD ν st.m H' Z (.v (result D)) (result D)/\Ev Rv ν Z st H ν Z st H':=by
 have hg:=zh r.obj hs ha;obtain⟨n1,rr,H2,h1,h2,h3⟩:=BS hS hg hc Y;obtain⟨n2,hb⟩:=xm r ha hs;have G:=D5 h1 h2 h3 hb;generalize hn:max n1 n2=n at G;have X:=G;have ae:∀k,n<=k->cN (b7 k H) ys=cN (b7 n H) ys:=λk hk=>yj hk (hb n Za)
 have B:∀{H'},cD ν st.m H' Z (.v (result D)) (result D):=.v _ _ (.same _ h3);have z:∀T:a_ Nat,(∀id∈T,Z id)->R ν Z st F (cG H T)/\Ev Rv ν Z st H ν Z st (cG H T):=λT O=>
  ⟨r.heap (λid ho=>tW λt=>by obtain⟨d,ob,j,g1,g2,rfl⟩:=ho;exact r.apart d ob j g1 g2 (O _ t)) (λid t=>qG r.zrow t),
   Ev.heap (by rw[kR];grind) (λid _ _ Y _=>tW λt=>Y (O id t)) (λid t=>qG r.zrow t)⟩
 have I:(cV args).isSome=true->(∀id∈cN (b7 n H) ys,Z id)/\True:=λQ=>by
  obtain⟨xs,Q⟩:=Option.isSome_iff_exists.1 Q;have hf:=ha.cV Q;exact⟨λid t=>by
   obtain⟨j,u,hu,U⟩:=pG t;have hj:j<xs.length:=by rw[hf.1];grind
   exact FR.b7 r.deep n (hf.2 j _ u (ζd hj) hu) id U,trivial⟩
 cases place with
 | none=>
  by_cases w:(result D).scalar=true
  .exact⟨n,H,λk C=>by grind[dJ],r,B,.refl⟩
  obtain⟨O,-⟩:=I (J.resolve_left w);obtain⟨q1,q2⟩:=z _ O;exact⟨n,cG H (cN (b7 n H) ys),λk C=>by grind[dJ,og],q1,B,q2⟩
 | some bi=>
  obtain⟨b,i⟩:=bi;obtain⟨o1,o2⟩:=hold b i rfl;have af  := ab;have fits:∀k,b8 (run S.E k) f ys (H.take b)=some (result D)->(result D).scalar=false->iw (H.take b) (cN (b7 k (H.take b)) ys)=true/\cN (b7 k H) ys=cN (b7 k (H.take b)) ys:=λk _ ah=>by
   obtain⟨xs,Q⟩:=Option.isSome_iff_exists.1 (J.resolve_left Zd)
   have hf:=ha.cV Q;have L:∀id,Z id->Z id/\bq (H.take b) id=bq H id:=λid h=>⟨h,mG (o2 id h)⟩
   have hd:Deep (H.take b) Z:=⟨λid es ys Y hr c hc u hu=>by
    rw[(L id Y).2]at hr;obtain⟨x,Q⟩:=r.deep.row id es ys Y hr c hc u hu;exact⟨x,Q.mono L⟩⟩
   have hZ:∀id∈cN (b7 k (H.take b)) ys,Z id:=λid t=>by
    obtain⟨j,u,hu,U⟩:=pG t;have hj:j<xs.length:=by rw[hf.1];grind
    exact FR.b7 hd k ((hf.2 j _ u (ζd hj) hu).mono L) id U
   refine⟨?_,tU _ λid t=>o2 id (hZ id t)⟩
   unfold iw;rw[List.all_eq_true];intro id t;have h1:=r.zrow id (hZ id t);rw[<-(L id (hZ id t)).2]at h1;exact h1
  rcases hno with hno|hno
  .have ai:=aa b i rfl Zd
   by_cases w:(result D).scalar=true
   .refine⟨n,H,λk C=>?_,r,B,.refl⟩
    grind[dJ,o7]
   obtain⟨O,-⟩:=I (J.resolve_left w);obtain⟨q1,q2⟩:=z _ O;refine⟨n,cG H (cN (b7 n H) ys),λk C=>?_,q1,B,q2⟩
   simp only[dJ,hk,og,Bool.false_eq_true,if_false];split
   next y hy=>have h9:=o7 hy;rw[X k C]at h9;grind
   grind
  obtain⟨n3,ad⟩:=Lr r ha hs o1 o2 hno;have W:=D5 h1 h2 h3 ad
  by_cases w:(result D).scalar=true
  .refine⟨max n1 n3,H,λk C=>?_,r,B,.refl⟩
   grind[dJ]
  obtain⟨O,-⟩:=I (J.resolve_left w);obtain⟨q1,q2⟩:=z _ O;refine⟨max n (max n1 n3),cG H (cN (b7 n H) ys),λk C=>?_,q1,B,q2⟩
  simp only[dJ,hk,og,Bool.false_eq_true,if_false];have h9:=W k Za
  grind
theorem EL {α:Type} {k:Nat} {v:α}:∀{ds:a_ Nat} {g:Tb α},bl (oO ds g) k=some v->k∉ds
 | [],_,_=>by simp
 | d::ds,g,h=>by
  have h1:=EL (ds:=ds) h;have t:=(jQ (nY  h)).1
  grind
theorem vv:∀{args:a_ SV} {ds:a_ Nat},rowsOf m args=some ds->(∀d∈ds,∃k es xs,bl m d=some (.sl k es xs))/\∀(j:Nat) u,args[j]? = some u->(∃x,u=.v x)\/∃d,u=.own d/\d∈ds
 | [],_,h=>by cases h;simp
 | .v x::r,ds,h=>by
  obtain⟨h1,B⟩:=vv (args:=r) (by simpa [rowsOf]using h)
  refine⟨h1,λj u hu=>?_⟩
  cases j with
  | zero=>grind
  | succ j=>exact B j u Zd
 | .own d::r,ds,h=>by
  simp only[rowsOf]at h;split at h
  .rename_i k es xs hd;obtain⟨w,h1,rfl⟩:=ζf.1 h;obtain⟨g1,g2⟩:=vv h1;refine⟨λt hd'=>?_,λj u hu=>?_⟩
   .rcases List.mem_cons.1 hd' with rfl|hd'
    .exact⟨_,_,_,hd⟩
    exact g1 t hd'
   cases j with
   | zero=>grind
   | succ j=>
    rcases g2 j u Zd with k|⟨t,k1,k2⟩
    all_goals grind
  cases h
 | .ptr ..::_,_,h|.el ..::_,_,h|.mp _::_,_,h|.clo ..::_,_,h|.tup _::_,_,h|.agg _::_,_,h|.yl _::_,_,h=>by simp[rowsOf]at h
theorem Bc {H0:bn} (hd:Deep H0 Z) (T:∀d ob,bl m d=some ob->dL ob=true->(H0[(ν d).1]?).isSome=true->ob.flat->cM ν m H0 Z d ob) {args:a_ SV} {ys:a_ V} (O:bW ν m H0 Z args ys) {ds:a_ Nat} (hr:rowsOf m args=some ds)
 {q id:Nat} (h:id∈cN (b7 q H0) ys):Z id\/∃d ob,d∈ds/\bl m d=some ob/\dL ob=true/\(ν d).1=id/\∃j es off len:Nat,ys[j]? = some (V.hsl id es off len):=by
 obtain⟨j,y,L,hk⟩:=pG h;have Q:j<args.length:=by rw[O.1];grind
 have hu:=ζd Q;have B:=O.2 j _ y hu L;rcases (vv hr).2 j _ hu with⟨x,e⟩|⟨d,e,D⟩
 .rw[e]at B;cases B with|v _ _ Y=>grind[FR.b7]
 rw[e]at B;obtain⟨k,es,C,z⟩:=(vv hr).1 d D;obtain⟨_,_,_,S,rfl⟩:=B.fQ z;cases S
 by_cases t:bQ k=true
 .cases q with
  | zero=>grind[b7]
  | succ q=>
  have G:nL (ν d) k es C.length=.hsl (ν d).1 es (ν d).2 C.length:=by cases k <;> first|rfl|cases t
  rw[G]at hk;have U:dL (.sl k es C)=true:=t
  by_cases w:(H0[(ν d).1]?).isSome=true
  .have o:=T d _ z U w (jh Zc)
   simp[cM,t]at o;obtain⟨zs,h1,_,_,W,_⟩:=o;simp only[b7,V.closed,Bool.false_eq_true,if_false,h1,List.mem_cons]at hk;rcases hk with rfl|hk
   .grind
   obtain⟨i,u,hu,X⟩:=pG hk;obtain⟨c,hc,I⟩:=List.mem_flatten.1 (List.mem_of_getElem? hu);obtain⟨x,hx⟩:=W c (List.mem_of_mem_drop (List.mem_of_mem_take hc)) u I
   grind[FR.b7]
  grind[b7]
 have J:(nL (ν d) k es C.length).closed=true:=by cases k <;> first|rfl|(exact absurd rfl t)
 rw[zK q H0 J]at hk;cases hk
theorem RN (hS:iH S c) {ops:a_ Oper} {place:bf (Nat×Nat)} {nw:Bool} (ai:∀b i,place=some (b,i)->nw=true->dA ops i=true)
 (hold:∀b i,place=some (b,i)->∀id,Z id->id<b)
 (r:R ν Z st F H) {args:a_ SV} {ys:a_ V} (T:bW ν st.m H Z args ys) {f:FuncId} (hk:S.E.keep f=false) {az:a_ V} (hs:cO st.m 8 args=some az) (aj:(!place.isSome||nw)=true)
 {rs:a_ SV} {m':c7} {D:a_ V} (hc:c f (az.map .v) []=some (rs,m')) (G:cO m' 8 rs=some D) (ak:(result D).scalar=false) {ds:a_ Nat} (hr:rowsOf st.m args=some ds) :
 ∃n H',(∀k,n<=k->dJ S.E (run S.E k) ops place f ys H=some (result D,H'))/\R ν Z { st with m:=oO ds st.m } F H'/\cD ν (oO ds st.m) H' Z (.v (result D)) (result D)/\Ev Rv ν Z st H ν Z { st with m:=oO ds st.m } H':=by
 have hg:=zh r.obj hs T;obtain⟨n1,rr,H2,h1,h2,h3⟩:=BS hS hg hc G;obtain⟨n2,W⟩:=xm r T hs;have z:=D5 h1 h2 h3 W;generalize hn:max n1 n2=n at z;have I:=z;have al:∀k,n<=k->cN (b7 k H) ys=cN (b7 n H) ys:=λk hk=>yj hk (W n Za)
 have J:∀{H'},cD ν (oO ds st.m) H' Z (.v (result D)) (result D):=.v _ _ (.same _ h3);have w:∀d ob,bl (oO ds st.m) d=some ob->bl st.m d=some ob:=λd ob h=>nY h
 have hT:∀id∈cN (b7 n H) ys,Z id\/∃d ob,d∈ds/\bl st.m d=some ob/\dL ob=true/\(ν d).1=id/\∃j es off len:Nat,ys[j]? = some (V.hsl id es off len):=λid t=>Bc r.deep (λd ob h _ _ _=>r.obj d ob h) T hr t
 have r2  := r.less (λ_ _ h=>h) w
 have q1  := r2.heap (λid X=>tW λt=>by
  obtain⟨d,ob,j,g1,g2,rfl⟩:=X;rcases hT _ t with h|⟨Y,C,k1,k2,k3,k4,_⟩
  .exact r.apart d ob j (w d ob g1) g2 h
  have:=(r.inj Y d C ob 0 j k2 (w d ob g1) k3 g2 k4).1
  grind[EL]) (λid t=>qG r.zrow t)
 have q2:Ev Rv ν Z st H ν Z { st with m:=oO ds st.m } (cG H (cN (b7 n H) ys)):=(Ev.heap (by rw[kR];grind) (λid _ X G _=>tW λt=>by
  rcases hT _ t with h|⟨Y,C,k1,k2,k3,k4,_⟩
  .simp_all
  exact X ⟨Y,C,0,k2,k3,k4⟩) (λid t=>qG r.zrow t)).trans (Ev.less  w)
 cases place with
 | none=>exact⟨n,cG H (cN (b7 n H) ys),λk L=>by grind[dJ,jA,og],q1,J,q2⟩
 | some bi=>
  obtain⟨b,i⟩:=bi;have o2:=hold b i rfl;have fits:∀k,b8 (run S.E k) f ys (H.take b)=some (result D)->iw (H.take b) (cN (b7 k (H.take b)) ys)=true/\cN (b7 k H) ys=cN (b7 k (H.take b)) ys:=λk U=>by
   have B:∀id,Z id->Z id/\bq (H.take b) id=bq H id:=λid h=>⟨h,mG (o2 id h)⟩
   have hd:Deep (H.take b) Z:=⟨λid es ys G hr c hc u hu=>by
    rw[(B id G).2]at hr;obtain⟨x,hx⟩:=r.deep.row id es ys G hr c hc u hu;exact⟨x,hx.mono B⟩⟩
   have aa  := T.mono B λe _=>iE ν st.m e
   have ab:∀d ob,bl st.m d=some ob->dL ob=true->((H.take b)[(ν d).1]?).isSome=true->ob.flat->cM ν st.m (H.take b) Z d ob:=λd ob h W ad ae=>
    cM.mono B rfl (λj hj=>by
     have:=ae j hj;subst this;simp only[Nu.at]
     grind) (λe _=>iE ν st.m e) (r.obj d ob h)
   have O:∀(j:Nat) (y:V),ys[j]? = some y->(borrow k (H.take b) y).isSome=true:=λj y Q=>by
    unfold b8 at U;rw[og]at U;split at U
    .rename_i af ah;obtain⟨_,hm⟩:=iB ah;have hj:=(ζe.1 Q).1;obtain⟨x,am,an⟩:=hm j _ (ζd (show j<af.length by omega))
     grind
    cases U
   have hZ:∀id∈cN (b7 k (H.take b)) ys,id<b/\(bq (H.take b) id).isSome=true:=λid t=>by
    rcases Bc hd ab aa hr t with h|⟨d,ob,k1,k2,k3,k4,j,es,off,len,Q⟩
    .have:=r.zrow id h
     grind
    have ao:=O j _ Q
    cases k with
    | zero=>grind[borrow,V.closed]
    | succ k=>
    grind[borrow,V.closed,bq]
   refine⟨?_,tU _ λid t=>(hZ id t).1⟩
   unfold iw;rw[List.all_eq_true];exact λid t=>(hZ id t).2
  refine⟨n,cG H (cN (b7 n H) ys),λk L=>?_,q1,J,q2⟩
  simp only[dJ,jA,hk,og,Bool.false_and,Bool.false_eq_true,if_false];split
  next y Q=>have h9:=o7 Q;rw[I k L]at h9;grind
  grind
theorem I5 {xs ys:a_ (a_ V)} (h:fh H Z xs ys) (B:nQ xs=true):ys=xs:=by
 refine(List.ext_getElem h.1 λj h1 w=>?_).symm
 have:=h.2 j _ _ (ζd h1) (ζd w);have t  := by
  unfold nQ at B;rw[List.all_eq_true]at B;have:=B _ (List.getElem_mem h1);rw[List.all_eq_true]at this;exact qB.2 λk u hu=>this u (List.mem_of_getElem? hu)
 exact(this.scalar.1 t).symm
theorem Cl:∀{u:a_ Nat} {os:Tb bu} {g:Tb bu},jr g u=some os->∀k ob,bl os k=some ob->bl g k=some ob
 | [],os,g,h,k,ob,hk=>by grind[jr,bl]
 | n::r,os,g,h,k,ob,hk=>by
  simp only[jr]at h;split at h
  .rename_i v t h1 B;cases h;simp only[bl]at hk;split at hk
   .grind
   exact Cl B k ob hk
  cases h
theorem I8 {args:a_ SV} {os:c7} (h:handed m args=some os):∀k ob,bl os k=some ob->bl m k=some ob:=Cl h
mutual
theorem Pu {d:Nat}:∀{x:SV},x.ct d=true->d∈x.zc
 | .v _,h=>by simp[SV.ct]at h
 | .own e,h|.ptr e _,h|.el e _ _,h|.mp e,h=>by simp[SV.ct]at h;simp[SV.zc,h]
 | .clo _ a b,h=>by
  simp only[SV.ct,Bool.or_eq_true]at h;simp only[SV.zc,List.mem_append];rcases h with h|h
  .exact .inl (uN h)
  exact .inr (uN h)
 | .tup l,h|.agg l,h=>by simp only[SV.ct]at h;simp only[SV.zc];exact uN h
 | .yl _,h=>by simp[SV.ct]at h
theorem uN {d:Nat}:∀{l:a_ SV},SV.c6 d l=true->d∈SV.rm l
 | [],h=>by simp[SV.c6]at h
 | x::r,h=>by
  simp only[SV.c6,Bool.or_eq_true]at h;simp only[SV.rm,List.mem_append];rcases h with h|h
  .exact .inl (Pu h)
  exact .inr (uN h)
end
theorem IS {B:a_ Nat} {ob:bu} (h:within B ob=true) {e:Nat} (u:ob.ct e=true):e∈B:=by
 cases ob with
 | box cs=>
  unfold within at h;rw[List.all_eq_true]at h;simpa using h e (uN u)
 | sl k es z=>grind[bu.ct]
 | mp C=>grind[bu.ct]
 | dp k z w=>
  rcases w with _|⟨i,t⟩
  .cases u
  simp only[bu.ct,beq_iff_eq]at u;subst u;simpa [within,bu.zc]using h
theorem CB {u:a_ Nat}:∀{l:a_ Nat} {a b:Tb bu},yI u m' l a=some b->(∀k∈l,bl b k=bl m' k/\∃ob,bl m' k=some ob/\within u ob=true)/\∀k,k∉l->bl b k=bl a k
 | [],a,b,h=>by grind[yI]
 | d::r,a,b,h=>by
  simp[yI]at h;split at h
  .rename_i ob B;split at h
   .rename_i hp;obtain⟨h1,D⟩:=CB h;refine⟨λk hk=>?_,λk hk=>?_⟩
    .grind[bY]
    simp_all[cq,Ne.symm]
   grind
  grind
theorem FF {l:a_ Nat} {a b:Tb bu} (h:lM m' l a=some b):(∀k∈l,bl b k=bl m' k/\∃ob,bl m' k=some ob/\within l ob=true)/\∀k,k∉l->bl b k=bl a k:=CB h
theorem mem_keys:∀{os:c7} {k:Nat},k∈os.map (·.1)↔∃ob,bl os k=some ob
 | [],k=>by simp[bl]
 | (d,o)::os,k=>by
  simp[bl]
  by_cases e:d=k
  .simp_all
  rw[if_neg e,<-mem_keys]
  grind
theorem tN:∀{l:a_ SV} {j:Nat} {u:SV},SV.wu l=true->l[j]? = some u->u.bare=true
 | [],j,u,h,B=>by simp at B
 | x::r,j,u,h,B=>by
  simp only[SV.wu,ζh]at h
  cases j with
  | zero=>grind
  | succ j=>exact tN h.2 (by simpa using B)
theorem cD.bare {Z2:Nat->Prop} {sv:SV} {y:V} (r:cD ν m H Z sv y):sv.bare=true->cD ν m H Z2 sv y:=by
 induction r with
 | v x y h=>
  intro w;have w:x.scalar=true:=w;rw[(h.scalar.1 w)];exact .v _ _ (.same _ (jo w))
 | own d y h=>intro _;exact .own d y h
 | ptr d o y h=>intro _;exact .ptr d o y h
 | el d i o y h=>intro _;exact .el d i o y h
 | mp d y h=>intro _;exact .mp d y h
 | clo f a b z D B w hva G t C=>
  intro h;simp only[SV.bare,ζh]at h;exact .clo f a b z D B w (λj u v hu hv=>t j u v hu hv (tN h.1 hu)) λj u v hu hv=>C j u v hu hv (tN h.2 hu)
 | tup a z B hva t=>intro h;exact .tup a z B λj u v hu hv=>t j u v hu hv (tN h hu)
 | agg a z B hva t=>intro h;exact .agg a z B λj u v hu hv=>t j u v hu hv (tN h hu)
 | yl id=>intro _;exact .yl id
theorem cM.bare {Z2:Nat->Prop} {d:Nat} {ob:bu} (B:∀e,ν' e=ν e) (h:ob.bare=true) (o:cM ν m H Z d ob):cM ν' m H Z2 d ob:=by
 cases ob with
 | box cs=>
  obtain⟨es,t,h1,z,C⟩:=o;exact⟨es,t,by rw[B];exact h1,⟨z.1,λj u v hu hv=>((z.2 j u v hu hv).bare (Z2:=Z2) (tN h hu)).mono (λid h=>⟨h,rfl⟩) λe _ w h=>⟨w,h,B e,.refl _⟩⟩,C⟩
 | sl k es G=>cases h
 | mp D=>cases h
 | dp _ _ _=>cases h
theorem wS (hS:iH S c) {f:FuncId} (aq:S.E.keep f=true) (r:R ν Z st F H) {args:a_ SV} {ys:a_ V} (ha:bW ν st.m H Z args ys) {os:c7} (hh:handed st.m args=some os)
 {rs:a_ SV} {m':c7} {J:Tb bu} (hc:c f args os=some (rs,m')) (hb:lM m' (os.map (·.1)) st.m=some J) :
 ∃n H' O Z' G F1 ws ν2,(∀k,n<=k->run S.E k (.fn f) ys H=some (result ws,H'))/\G.m=m'/\bW O m' H' Z' rs ws/\R O Z' G F1 H'/\(∀e ob,bl m' e=some ob->e∉os.map (·.1)->dL ob=true->¬eF ν2 J (O e).1/\(eF ν st.m (O e).1\/H.length<=(O e).1))/\(∀e,ν2 e=ν e) /\
  R ν2 Z' { st with m:=J } F H'/\Ev Rv ν Z st H ν2 Z' { st with m:=J } H'/\(∀e ob',bl J e=some ob'->∃ob,bl st.m e=some ob/\ν e=ν e/\sameShape ob ob') /\
  ((∀k∈os.map (·.1),xH J k=true)->R ν Z { st with m:=J } F H'/\Ev Rv ν Z st H ν Z { st with m:=J } H'/\∀dst,Kept dst ν st.m ν J):=by
 have w:=I8 hh;have ak  := ha.mono (λid h=>⟨h,rfl⟩) λe _ ob' h=>⟨ob',w e ob' h,rfl,.refl _⟩
 have r0:R ν Z (start args os) ys H:=by
  refine⟨xy ak,λd ob hd=>?_,λd d' ob ob' j j' h1 z=>r.inj d d' ob ob' j j' (w d ob h1) (w d' ob' z),λd ob j h=>r.apart d ob j (w d ob h),r.zrow,r.deep⟩
  exact cM.mono (λid h=>⟨h,rfl⟩) rfl (λ_ _=>rfl) (λe _ ob' h=>⟨ob',w e ob' h,rfl,.refl _⟩) (r.obj d ob (w d ob hd))
 obtain⟨n,y,H',O,Z',G,F1,ws,e1,rfl,rfl,e2,e3,ev⟩:=hS f args os rs m' hc ν Z ys H (.inl aq) r0 ak;obtain⟨b1,b2⟩:=FF hb;have al:∀k ob',k∈os.map (·.1)->bl G.m k=some ob'->∃ob,bl os k=some ob/\O k=ν k/\sameShape ob ob':=λk ob' hk h=>ev.pin k hk ob' h
 have I:∀id,eF ν os id->eF ν st.m id:=λid ⟨k,o,j,h1,z,B⟩=>⟨k,o,j,w k o h1,z,B⟩
 have L:∀k ob',bl J k=some ob'->∃ob,bl st.m k=some ob/\sameShape ob ob'/\(k∈os.map (·.1)/\bl G.m k=some ob'/\O k=ν k/\within (os.map (·.1)) ob'=true\/k∉os.map (·.1)/\ob'=ob):=λk ob' h=>by
  by_cases hk:k∈os.map (·.1)
  .grind
  rw[b2 k hk]at h;exact⟨ob',h,.refl _,.inr ⟨hk,rfl⟩⟩
 have t:∀k ob j,k∉os.map (·.1)->bl st.m k=some ob->ob.pt j=true->H'[ν.at k j]? = H[ν.at k j]? /\ ¬Z' (ν.at k j)/\¬eF O G.m (ν.at k j):=λk ob j hk h C=>by
  have ah:¬eF ν os (ν.at k j):=by
   rintro⟨k2,o2,T,g1,g2,g3⟩;have:=(r.inj k2 k o2 ob T j (w k2 o2 g1) h g2 C g3).1
   grind[mem_keys]
  have ar:=r.lt ⟨k,ob,j,h,C,rfl⟩;have au:=r.apart k ob j h C;refine⟨ev.same _ ar ah au (λh=>h),λav=>?_,λho=>?_⟩
  .rcases ev.frz _ av with h|h|h|h
   .simp_all
   .exact ah h
   all_goals grind
  rcases ev.own _ ho with h|h|h
  .exact ah h
  .exact h
  have h:H.length<=ν.at k j:=h;omega
 have sm:∀e ob',bl J e=some ob'->∃ob,bl st.m e=some ob/\ν e=ν e/\sameShape ob ob':=λe ob' h=>by
  grind
 let ν2:Nu:=⟨ν.pl,λk=>if k∈os.map (·.1)then O.inn k else ν.inn k⟩
 have am:∀k,k∈os.map (·.1)->ν2.inn k=O.inn k:=λk h=>if_pos h
 have ab:∀k,k∉os.map (·.1)->ν2.inn k=ν.inn k:=λk h=>if_neg h
 have U:∀k,k∈os.map (·.1)->O k=ν k->∀j,ν2.at k j=O.at k j:=λk hk h j=>by
  cases j with
  | zero=>exact congrArg Prod.fst h.symm
  | succ i=>exact congrFun (am k hk) i
 have Q:∀k,k∉os.map (·.1)->∀j,ν2.at k j=ν.at k j:=λk hk j=>by
  cases j with
  | zero=>rfl
  | succ i=>exact congrFun (ab k hk) i
 have ad:∀d1 d2 o1 o2 D T,bl J d1=some o1->bl J d2=some o2->o1.pt D=true->o2.pt T=true->ν2.at d1 D=ν2.at d2 T->d1=d2/\D=T:=λd1 d2 o1 o2 D T h1 z k1 k2 hp=>by
  obtain⟨p1,g1,s1,c1⟩:=L d1 o1 h1;obtain⟨p2,g2,s2,c2⟩:=L d2 o2 z;rcases c1 with⟨u,W,X,-⟩|⟨u,rfl⟩ <;> rcases c2 with⟨u1,u2,u3,-⟩|⟨u1,rfl⟩
  .rw[U d1 u X,U d2 u1 u3]at hp;exact e3.inj d1 d2 o1 o2 D T W u2 k1 k2 hp
  .rw[U d1 u X,Q d2 u1]at hp;exact absurd ⟨d1,o1,D,W,k1,hp⟩ (t d2 o2 T u1 g2 k2).2.2
  .rw[Q d1 u,U d2 u1 u3]at hp;exact absurd ⟨d2,o2,T,u2,k2,hp.symm⟩ (t d1 o1 D u g1 k1).2.2
  rw[Q d1 u,Q d2 u1]at hp;exact r.inj d1 d2 o1 o2 D T g1 g2 k1 k2 hp
 have an:∀d1 o1 D,bl J d1=some o1->o1.pt D=true->¬Z' (ν2.at d1 D):=λd1 o1 D h1 k1=>by
  obtain⟨p1,g1,s1,⟨u,W,X,-⟩|⟨u,rfl⟩⟩:=L d1 o1 h1
  .rw[U d1 u X];exact e3.apart d1 o1 D W k1
  rw[Q d1 u];exact(t d1 o1 D u g1 k1).2.1
 have Y:∀id,id<H.length->¬eF ν st.m id->¬Z id->¬Rv id->H'[id]? = H[id]? := λid hl ho hz _=>ev.same id hl (λh=>ho (I id h)) hz (λh=>h)
 have ae:∀id,eF ν2 J id->eF ν st.m id\/Rv id\/H.length<=id:=by
  rintro id ⟨k,o,j,h1,z,B⟩;obtain⟨ob,g1,s1,⟨u,W,X,-⟩|⟨u,rfl⟩⟩:=L k o h1
  .rw[U k u X]at B;rcases ev.own id ⟨k,o,j,W,z,B⟩with h|h|h
   .exact .inl (I id h)
   .exact h.elim
   exact .inr (.inr h)
  rw[Q k u]at B;exact .inl ⟨k,o,j,g1,z,B⟩
 have ai:∀id,Z id->Z id/\bq H' id=bq H id:=λid h=>⟨h,(ev.rows id h).2⟩
 have af:∀k ob',k∈os.map (·.1)->bl G.m k=some ob'->O k=ν k->within (os.map (·.1)) ob'=true->cM ν2 J H' Z' k ob':=λk ob' u W X q5=>by
  refine cM.mono (λid h=>⟨h,rfl⟩) X.symm (λ_ _=>rfl) (λe he aj z=>?_) (e3.obj k ob' W) (am k u)
  have hm:=IS q5 he;obtain⟨u1,ay,u2,_⟩:=b1 e hm;rw[u1,u2]at z;cases z;obtain⟨_,_,u4,_⟩:=al e aj hm u2;exact⟨aj,u2,u4.symm,.refl _⟩
 refine⟨n,H',O,Z',G,F1,ws,ν2,λk hk=>(qw S.E hk).go _ _ _ _ e1,rfl,e2,e3,λe ob he aw C=>?_,λ_=>rfl,⟨λs sv hs=>(r.slot s sv hs).mono ev.rows λe _=>sm e,λk ob' h=>?_,ad,an,e3.zrow,e3.deep⟩,⟨ev.len,Y,ev.rows,ae,?_,λe _=>sm e,rfl⟩,sm,λao=>?_⟩
 .have ap:eF O G.m (O e).1:=⟨e,ob,0,he,C,rfl⟩;refine⟨?_,(ev.own _ ap).imp (I _) λh=>h.elim (λh=>h.elim) λh=>h⟩
  rintro⟨k2,o2,T,h1,z,B⟩;obtain⟨p1,g1,s1,⟨u,W,X,-⟩|⟨u,rfl⟩⟩:=L k2 o2 h1
  .rw[U k2 u X]at B;have:=(e3.inj k2 e o2 ob T 0 W he z C B).1;subst this;exact aw u
  rw[Q k2 u]at B;exact(t k2 o2 T u g1 z).2.2 (B▸ap)
 .obtain⟨ob,h1,z,⟨u,W,X,q5⟩|⟨B,rfl⟩⟩:=L k ob' h
  .exact af k ob' u W X q5
  exact cM.mono (ν:=ν) (ν':=ν2) ev.rows rfl (λj C=>(t k ob' j B h1 C).1) (λe _=>sm e) (r.obj k ob' h1) (ab k B)
 .intro id h;rcases ev.frz id h with h|h|h|h
  .exact .inl h
  .exact .inr (.inl (I id h))
  all_goals grind
 have aa:∀k ob' j,bl J k=some ob'->ob'.pt j=true->ν.at k j=ν2.at k j/\∃ob,bl st.m k=some ob/\sameShape ob ob'/\ob.pt j=true:=λk ob' j h hj=>by
  obtain⟨ob,h1,z,⟨u,W,X,q5⟩|⟨B,rfl⟩⟩:=L k ob' h
  .have hb:=ao k u;unfold xH at hb;rw[h]at hb;have ax:∃cs,ob'=.box cs:=by cases ob' <;> first|exact⟨_,rfl⟩|cases hb
   obtain⟨cs,rfl⟩:=ax;have:=jh (ob:=.box cs) Zc j hj;subst this
   refine⟨rfl,ob,h1,z,?_⟩;cases ob <;> first|rfl|cases z
  exact⟨(Q k B j).symm,ob',h1,.refl _,hj⟩
 refine⟨⟨λs sv hs=>(r.slot s sv hs).mono ai λe _=>sm e,λk ob' h=>?_,λd1 d2 o1 o2 D T h1 z k1 k2 hp=>ad d1 d2 o1 o2 D T h1 z k1 k2 (by rw[<-(aa d1 o1 D h1 k1).1,<-(aa d2 o2 T z k2).1];exact hp),λd1 o1 D h1 k1 hz=>an d1 o1 D h1 k1 (by rw[<-(aa d1 o1 D h1 k1).1];exact(ev.rows _ hz).1),λid h=>by rw[(ev.rows id h).2];exact r.zrow id h,r.deep.mono λid h=>(ev.rows id h).2⟩,
  ⟨ev.len,Y,ai,λid ⟨k,o,j,h1,z,B⟩=>ae id ⟨k,o,j,h1,z,by rw[<-(aa k o j h1 z).1];exact B⟩,λid h=>.inl h,λe _=>sm e,rfl⟩,λdst e ob' _ h=>?_⟩
 .obtain⟨ob,h1,z,⟨u,W,X,q5⟩|⟨B,rfl⟩⟩:=L k ob' h
  .have hb:=ao k u;unfold xH at hb;rw[h]at hb;exact cM.bare (ν:=ν2) (Z:=Z') (λ_=>rfl) hb (af k ob' u W X q5)
  exact cM.mono ai rfl (λj C=>(t k ob' j B h1 C).1) (λe _=>sm e) (r.obj k ob' h1)
 obtain⟨ob,h1,z,B⟩:=sm e ob' h;refine⟨ob,h1,rfl,B,λj hj=>?_⟩
 obtain⟨_,aj,g1,_,g3⟩:=aa e ob' j h hj;rw[h1]at g1;cases g1;exact⟨g3,rfl⟩
theorem Tm (G:iH S c) {f:FuncId} (D:S.E.keep f=true) (r:R ν Z st F H) {args:a_ SV} {ys:a_ V} (J:bW ν st.m H Z args ys) {os:c7} (O:handed st.m args=some os)
 {rs:a_ SV} {m':c7} {u:a_ V} {B:Tb bu} (hc:c f args os=some (rs,m')) (T:cV rs=some u) (U:lM m' (os.map (·.1)) st.m=some B) :
 ∃n y H' ν' Z',(∀k,n<=k->run S.E k (.fn f) ys H=some (y,H'))/\R ν' Z' { st with m:=B } F H'/\cD ν' B H' Z' (.v (result u)) y/\Ev Rv ν Z st H ν' Z' { st with m:=B } H':=by
 obtain⟨n,H',Q,Z',C,F1,w,ν2,e1,_,e2,_,_,_,g1,g2,_,_⟩:=wS (Rv:=Rv) G D r J O hc U;refine⟨n,result w,H',ν2,Z',e1,g1,?_,g2⟩;have t:=e2.cV T;have:FR H' Z' (result u) (result w):=by
  cases u with
  | nil=>rw[t.cT];exact .same _ rfl
  | cons x z=>
   obtain⟨y,I,rfl,g1,g2⟩:=t.inv
   cases z with
   | nil=>rw[g2.cT];exact g1
   | cons x2 z=>
    obtain⟨W,L,rfl,g3,g4⟩:=g2.inv;exact .tup _ _ t.1 t.2
 exact .v _ _ this
theorem xP {ys:a_ V} (h:V.cF ys=true):(result ys).scalar=true:=by
 cases ys with
 | nil=>rfl
 | cons a l=>
  cases l with
  | nil=>simp only[V.cF,ζh]at h;exact h.1
  | cons b l=>grind[result,V.scalar]
theorem TI (O:iH S c) {f:FuncId} (D:S.E.keep f=true) (r:R ν Z st F H) {args:a_ SV} {ys:a_ V} (T:bW ν st.m H Z args ys) {os:c7} (U:handed st.m args=some os)
 {rs:a_ SV} {m':c7} {B:a_ V} {u:Tb bu} (hc:c f args os=some (rs,m')) (W:cV rs=some B) (Y:lM m' (os.map (·.1)) st.m=some u) (J:V.cF B=true) (G:∀k∈os.map (·.1),xH u k=true) :
 ∃n H',(∀k,n<=k->run S.E k (.fn f) ys H=some (result B,H'))/\R ν Z { st with m:=u } F H'/\cD ν u H' Z (.v (result B)) (result B)/\Ev Rv ν Z st H ν Z { st with m:=u } H'/\∀dst,Kept dst ν st.m ν u:=by
 obtain⟨n,H',z,Z',t,F1,C,ν2,e1,_,e2,_,_,_,_,_,_,g4⟩:=wS (Rv:=Rv) O D r T U hc Y;obtain⟨g1,g2,g3⟩:=g4 G;have w:=(e2.cV W).scalar.1 J;subst w;exact⟨n,H',e1,g1,.v _ _ (.same _ (jo (xP J))),g2,g3⟩
theorem R3 (Y:iH S c) {f:FuncId} (O:S.E.keep f=true) (r:R ν Z st F H) {args:a_ SV} {ys:a_ V} (ha:bW ν st.m H Z args ys) {os:c7} (hh:handed st.m args=some os)
 {rest:a_ SV} {m':c7} {J:a_ V} {B:Tb bu} {e t es:Nat} {k:Fl} {xs:a_ (a_ V)} (hc:c f args os=some (.own e::rest,m')) (hz:cV rest=some J) (hb:lM m' (os.map (·.1)) st.m=some B)
 (D:bl m' e=some (.sl k es xs)) (G:e∉os.map (·.1)) (u:St.new { st with m:=B } t=true) :
 ∃n y H' ν' Z',(∀k,n<=k->run S.E k (.fn f) ys H=some (y,H'))/\R ν' Z' { st with m:=bA B t (.sl k es xs) } F H'/\cD ν' (bA B t (.sl k es xs)) H' Z' (AH (.own t::J.map .v)) y/\Ev Rv ν Z st H ν' Z' { st with m:=bA B t (.sl k es xs) } H':=by
 obtain⟨n,H',Q,Z',X,F1,ws,ν2,e1,rfl,e2,e3,fresh,T,g1,g2,g3,_⟩:=wS (Rv:=Rv) Y O r ha hh hc hb;obtain⟨w,U,rfl,q1,q2⟩:=e2.inv;have o:=e3.obj e _ D;have hR:=g1.add u (ob:=.sl k es xs) (p:=Q e) (λC=>⟨(fresh e _ D G C).1,e3.apart e _ 0 D C⟩) (by
  grind[cM,gO])
 have hsl:cD (gA ν2 t (Q e)) (bA B t (.sl k es xs)) H' Z' (.own t) w:=by
  refine .own _ _ λz W=>?_
  rw[bY]at W;cases W;obtain⟨_,_,_,ee,rfl⟩:=q1.fQ D;cases ee;exact⟨_,_,_,rfl,by rw[gO]⟩
 obtain⟨n1,n2,n3,n4⟩:=jI u;refine⟨n,result (w::U),H',gA ν2 t (Q e),Z',e1,hR,?_,⟨g2.len,g2.same,g2.rows,?_,g2.frz,?_,g2.pins⟩⟩
 .have L:=q2.cV hz
  cases J with
  | nil=>rw[L.cT];exact hsl
  | cons x J=>
   obtain⟨y,aa,rfl,_,_⟩:=L.inv;exact .tup _ _ (by have:=L.1;grind) (bW.cons hsl (bW.p_ L)).2
 .intro id h;rcases AM h with h|⟨h1,rfl⟩
  .exact g2.own id h
  exact(fresh e _ D G h1).2.imp (λh=>h) .inr
 intro d hd z h;have I:d≠t:=λe=>n1 (e▸hd)
 have h:bl (bA B t (.sl k es xs)) d=some z:=h;rw[cq _ _ (Ne.symm I)]at h;obtain⟨ob,h1,_,h3⟩:=g3 d z h;exact⟨ob,h1,by rw[AT _ _ I,T],h3⟩
theorem Qm (hS:iH S c) {f:FuncId} (O:S.E.keep f=true) (r:R ν Z st F H) {args:a_ SV} {ys:a_ V} (ha:bW ν st.m H Z args ys) {os:c7} (hh:handed st.m args=some os)
 {p:V} {rest:a_ SV} {m':c7} {U:a_ V} {u:Tb bu} {e t es:Nat} {k:Fl} {xs:a_ (a_ V)} (hc:c f args os=some (.v p::.own e::rest,m')) (hz:cV rest=some U) (hb:lM m' (os.map (·.1)) st.m=some u)
 (D:bl m' e=some (.sl k es xs)) (G:e∉os.map (·.1)) (B:St.new { st with m:=u } t=true) :
 ∃n y H' ν' Z',(∀k,n<=k->run S.E k (.fn f) ys H=some (y,H'))/\R ν' Z' { st with m:=bA u t (.sl k es xs) } F H'/\cD ν' (bA u t (.sl k es xs)) H' Z' (.tup (.v p::.own t::U.map .v)) y/\Ev Rv ν Z st H ν' Z' { st with m:=bA u t (.sl k es xs) } H':=by
 obtain⟨n,H',J,Z',aa,F1,ws,ν2,e1,rfl,e2,e3,fresh,L,g1,g2,g3,_⟩:=wS (Rv:=Rv) hS O r ha hh hc hb;obtain⟨W,ab,rfl,q0,Q⟩:=e2.inv;obtain⟨w,T,rfl,q1,q2⟩:=Q.inv;have o:=e3.obj e _ D;have hR:=g1.add B (ob:=.sl k es xs) (p:=J e) (λC=>⟨(fresh e _ D G C).1,e3.apart e _ 0 D C⟩) (by
  grind[cM,gO])
 have hsl:cD (gA ν2 t (J e)) (bA u t (.sl k es xs)) H' Z' (.own t) w:=by
  refine .own _ _ λz X=>?_
  rw[bY]at X;cases X;obtain⟨_,_,_,ee,rfl⟩:=q1.fQ D;cases ee;exact⟨_,_,_,rfl,by rw[gO]⟩
 obtain⟨n1,n2,n3,n4⟩:=jI B;refine⟨n,result (W::w::T),H',gA ν2 t (J e),Z',e1,hR,?_,⟨g2.len,g2.same,g2.rows,?_,g2.frz,?_,g2.pins⟩⟩
 .have Y:=q2.cV hz;have h0:cD (gA ν2 t (J e)) (bA u t (.sl k es xs)) H' Z' (.v p) W:=by
   cases q0 with
   | v _ _ h=>exact .v _ _ h
  exact .tup _ _ (by have:=Y.1;grind) (bW.cons h0 (bW.cons hsl (bW.p_ Y))).2
 .intro id h;rcases AM h with h|⟨h1,rfl⟩
  .exact g2.own id h
  exact(fresh e _ D G h1).2.imp (λh=>h) .inr
 intro d hd z h;have I:d≠t:=λe=>n1 (e▸hd)
 have h:bl (bA u t (.sl k es xs)) d=some z:=h;rw[cq _ _ (Ne.symm I)]at h;obtain⟨ob,h1,_,h3⟩:=g3 d z h;exact⟨ob,h1,by rw[AT _ _ I,L],h3⟩
theorem PF (u:iH S c) {f:FuncId} {az:a_ V} {rs:a_ SV} {m':c7} (hg:V.cQ az=true) (h:c f (az.map .v) []=some (rs,m')) :
 ∃n H2 ν' Z' st' F' ys,(∀k,n<=k->run S.E k (.fn f) az []=some (result ys,H2))/\st'.m=m'/\bW ν' m' H2 Z' rs ys/\R ν' Z' st' F' H2:=by
 obtain⟨t,r1⟩:=zL hg;obtain⟨n,y,H2,ν',Z',st',F',w,h1,rfl,z,B,C,_⟩:=u f _ _ _ _ h _ _ az [] (.inr rfl) t r1;exact⟨n,H2,ν',Z',st',F',w,λk hk=>(qw S.E hk).go _ _ _ _ h1,z,B,C⟩
theorem Lc {ys:a_ V} (h:V.cF ys=true):V.cF (.bN::ys)=true/\V.cF (.c_::ys)=true:=by
 grind[V.cF,V.scalar]
theorem bW.Vg {ys:a_ V} (h:V.cQ ys=true):bW ν m H Z (ys.map .v) ys:=bW.p_ (c8.same h)
theorem Pj (hS:iH S c) (hP:∀f q,S.prm f=some q->n9 S.E f q) {ops:a_ Oper} {place:bf (Nat×Nat)} {dr nw:Bool} {fr:a_ Nat} (T:dr=place.isSome) (J:∀b i,place=some (b,i)->nw=true->dA ops i=true) (ak:∀b i,place=some (b,i)->nw=false->dA ops i=false)
 (hold:∀b i,place=some (b,i)->(∀d ob j,bl st.m d=some ob->ob.pt j=true->d∉fr->ν.at d j<b)/\∀id,Z id->id<b)
 (r:R ν Z st F H) {args:a_ SV} {ys:a_ V} (Y:bW ν st.m H Z args ys) {f:FuncId} {dst:bf Nat} {sv:SV} (h:ey S c dst dr (!dr||nw) (dR st.m fr) f args st=some (sv,st')) :
 ∃n y H' ν' Z',(∀k,n<=k->dJ S.E (run S.E k) ops place f ys H=some (y,H'))/\R ν' Z' st' F H'/\cD ν' st'.m H' Z' sv y/\Ev Rv ν Z st H ν' Z' st' H'/\(dr=true->Z'=Z/\Kept dst ν st.m ν' st'.m):=by
 unfold ey at h;split at h
 .rename_i hk;split at h
  .have hplace:(dr=true->S.E.own f=true\/S.E.soft f=false)->∀{q:dz} {y:V} {H':bn},gP S.E q f ys H=some (y,H')->dJ S.E q ops place f ys H=some (y,H'):=λad {q y H'} hd=>by
    unfold dJ
    cases place with
    | none=>rw[if_pos (by grind[jA])];omega
    | some bi=>
     obtain⟨b,i⟩:=bi;have ax  := T;have aI:=J b i rfl Zd
     have Q:=ad (by rw[ax];rfl)
     rw[if_pos (by grind[jA])]
     grind
   split at h
   .
    rename_i U;have hplace:=@hplace λ_=>.inl U
    split at h
    .rename_i az hs;have hg:=zh r.obj hs Y;obtain⟨nb,hb⟩:=xm r Y hs;split at h
     .rename_i rs m' hc;obtain⟨na,H2,ν2,Z2,st2,F2,ws,ay,rfl,e3,e4⟩:=PF hS hg hc;obtain⟨n,aA,aJ⟩:∃n,na<=n/\nb<=n:=⟨max na nb,Nat.le_max_left ..,Nat.le_max_right ..⟩;have e1:=λk (hk:n<=k)=>ay k (Nat.le_trans aA hk)
      have L:∀k,n<=k->∀{o:bf (V×bn)},(if(result ws).scalar then some (result ws,H)else
       match result ws with
       | .hsl id es off len=>(uJ H.length H2 id es off len).map λ(v,ob)=>(v,H++[ob])
       | .tup (.hsl id es off len::rest)=>if V.cF rest then(uJ H.length H2 id es off len).map λ(v,ob)=>(.tup (v::rest),H++[ob])else none
       | _=>none)=o->gP S.E (run S.E k) f ys H=o:=λk C o ho=>by
       unfold gP nH;rw[if_pos U]
       grind[og]
      have al:∀D:a_ V,(result D).scalar=true->result ws=result D->sv=.v (result D)->st'=st->∃n y H' ν' Z',(∀k,n<=k->dJ S.E (run S.E k) ops place f ys H=some (y,H'))/\R ν' Z' st' F H'/\cD ν' st'.m H' Z' sv y/\Ev Rv ν Z st H ν' Z' st' H'/\(dr=true->Z'=Z/\Kept dst ν st.m ν' st'.m):=by
       rintro D h1 h2 rfl rfl;exact⟨n,result D,H,ν,Z,λk C=>hplace (L k C (by rw[h2,if_pos h1])),r,.v _ _ (.same _ (jo h1)),.refl,λ_=>⟨rfl,.refl⟩⟩
      have emp:∀(k:Fl) (es:Nat) (D:a_ V) (rest:a_ SV),V.cF D=true->∀t,st.new t=true->∀w:V,(k=.nil/\w=.bN\/k=.emp/\w=.c_)->result (w::D)=result ws->dst=some t->sv=AH (.own t::D.map .v)->st'={ st with m:=bA st.m t (.sl k es []) } ->
       ∃n y H' ν' Z',(∀k,n<=k->dJ S.E (run S.E k) ops place f ys H=some (y,H'))/\R ν' Z' st' F H'/\cD ν' st'.m H' Z' sv y/\Ev Rv ν Z st H ν' Z' st' H'/\(dr=true->Z'=Z/\Kept dst ν st.m ν' st'.m):=by
       rintro k es D rest aa t O w hw am rfl rfl rfl;have aK:bQ k=false:=by rcases hw with⟨rfl,_⟩|⟨rfl,_⟩ <;> rfl
       have hsl:cD (gA ν t (0,0)) (bA st.m t (.sl k es [])) H Z (.own t) w:=by
        refine .own _ _ λae h'=>?_
        rw[bY]at h';cases h';exact⟨_,_,_,rfl,by rcases hw with⟨rfl,rfl⟩|⟨rfl,rfl⟩ <;> rfl⟩
       have an:(result (w::D)).scalar=true:=xP (by rcases hw with⟨_,rfl⟩|⟨_,rfl⟩;all_goals simp_all[Lc])
       refine⟨n,result (w::D),H,gA ν t (0,0),Z,λk C=>hplace (L k C (by rw[<-am,if_pos an])),r.add O (λhb=>by grind[dL]) (by grind[cM]),?_,
        Ev.add O (Nat.le_refl _) (λ_ _ _=>rfl) (λ_ _=>rfl) (λhb=>by grind[dL]),λ_=>⟨rfl,Kept.add λ_ _ h=>h⟩⟩
       cases D with
       | nil=>exact hsl
       | cons z D=>exact .tup _ _ Zc (bW.cons hsl (bW.Vg (o8 aa))).2
      split at h
      .rename_i D G;split at h
       next aa=>simp  at h;exact al D aa ((FE (e3.cV G)).1 aa) h.1.symm h.2.symm
       simp at h
      split at h
      .rename_i e rest t _;obtain⟨w,ws,rfl,g1,g2⟩:=e3.inv;split at h
       .
        rename_i es xs D W G;split at h
        .rename_i B;simp  at B;obtain⟨⟨c1,c2⟩,O⟩:=B;simp  at h;obtain⟨rfl,rfl⟩:=h;have o:=e4.obj e _ W;simp only[cM,if_true]at o;obtain⟨rows,hr,aL,hf,aG,ao⟩:=o;obtain⟨q1,q2⟩:=ao trivial;have af  := by
          have:=I5 hf c2;rw[q1,List.drop_zero,<-q2,List.take_length]at this;exact this
         subst af;obtain⟨_,_,_,ee,rfl⟩:=g1.fQ W;cases ee;have I  := (g2.cV G).scalar.1 c1;subst I;have aM:uJ H.length H2 (ν2 e).1 es 0 rows.length=some (.hsl H.length es 0 rows.length,.row es rows):=by
          grind[uJ,nQ]
         have hH:∀id,id<H.length->(H++[Ob.row es rows])[id]? = H[id]? := λid hl=>List.getElem?_append_left hl
         have ap:∀id,Z id->bq (H++[Ob.row es rows]) id=bq H id:=λid G=>by unfold bq;rw[hH id (r.uC G)]
         have r2  := r.heap (λid ho=>hH id (r.lt ho)) ap
         have aB:V.mz rows=true:=by
          refine j9.2 λj u hu=>?_
          unfold nQ at c2;rw[List.all_eq_true]at c2;have:=c2 u (List.mem_of_getElem? hu);rw[List.all_eq_true]at this
          grind[iF,jo]
         have hR:=r2.add   (ob:=.sl .row es rows) (p:=(H.length,0)) O (λ_=>⟨λho=>absurd (r.lt ho) Zc,λG=>absurd (r.uC G) Zc⟩) (by
          simp only[cM,gO];refine⟨rows,by simp,by simp,?_,(fh.same aB).yW,λ_=>⟨trivial,rfl⟩⟩
          rw[List.drop_zero,List.take_length]
          grind[fh.same])
         have hsl:cD (gA ν t (H.length,0)) (bA st.m t (.sl .row es rows)) (H++[Ob.row es rows]) Z (.own t) (.hsl H.length es 0 rows.length):=by
          refine .own _ _ λae h'=>?_
          rw[bY]at h';cases h';exact⟨_,_,_,rfl,by simp[nL,gO]⟩
         have aq:Ev Rv ν Z st H (gA ν t (H.length,0)) Z { st with m:=bA st.m t (.sl .row es rows) } (H++[Ob.row es rows]):=Ev.add O Zc (λid hl _=>hH id hl) ap (λ_=>.inr (Nat.le_refl _))
         have ar:nL (ν2 e) Fl.row es rows.length=.hsl (ν2 e).1 es 0 rows.length:=by grind[nL]
         rw[ar]at L
         cases rest with
         | nil=>
          have  := by simp only[cV,ζa]at G;exact G.symm
          subst this;refine⟨n,_,_,_,Z,λk C=>hplace (L k C  ?_),hR,hsl,aq,λ_=>⟨rfl,Kept.add λ_ _ h=>h⟩⟩
          grind[result,V.scalar]
         | cons x2 rest=>
          have aC:∃w2 ah,ws=w2::ah:=by
           have:=g2.1
           cases ws with
           | nil=>simp at this
           | cons a b=>exact⟨a,b,rfl⟩
          obtain⟨w2,ah,rfl⟩:=aC;refine⟨n,_,_,_,Z,λk C=>hplace (L k C (o:=some (.tup (.hsl H.length es 0 rows.length::w2::ah),H++[Ob.row es rows])) ?_),hR,?_,aq,λ_=>⟨rfl,Kept.add λ_ _ h=>h⟩⟩
          .grind[result,V.scalar,V.cF]
          exact .tup _ _ Zc (bW.cons hsl (bW.Vg (o8 c1))).2
        simp at h
       .rename_i es xs D W G;split at h
        next B=>simp  at B;simp  at h;obtain⟨rfl,rfl⟩:=h;obtain⟨_,_,_,ee,rfl⟩:=g1.fQ W;cases ee;have I:=(g2.cV G).scalar.1 B.1;subst I;exact emp .nil es ws rest B.1 _ B.2 .bN Zc rfl rfl rfl rfl
        simp at h
       .rename_i es xs D W G;split at h
        next B=>simp  at B;simp  at h;obtain⟨rfl,rfl⟩:=h;obtain⟨_,_,_,ee,rfl⟩:=g1.fQ W;cases ee;have I:=(g2.cV G).scalar.1 B.1;subst I;exact emp .emp es ws rest B.1 _ B.2 .c_ Zc rfl rfl rfl rfl
        simp at h
       simp at h
      simp at h
     grind
    grind
   rename_i U;split at h
   .rename_i Q;simp only[ζh]at Q;have X:jA S.E ops place f=false:=by
     cases place with
     | none=>rw[T]at Q;simp at Q
     | some bi=>simp[jA,Q.2,U]
    unfold En at h;split at h
    .rename_i az hs;split at h
     .rename_i rs m' hc;split at h
      .rename_i D G;split at h
       .rename_i B;simp only[Bool.or_eq_true]at B;simp at h;obtain⟨rfl,rfl⟩:=h;obtain⟨n,H',e1,e2,e3,e4⟩:=DS hS T J hold r Y X hs (.inl (by assumption)) hc G B
        exact⟨n,_,H',ν,Z,e1,e2,e3,e4,λ_=>⟨rfl,.refl⟩⟩
       simp at h
      simp at h
     simp at h
    simp at h
   rename_i Q;have hplace:=@hplace λhd=>.inr (by cases hq:S.E.soft f <;> simp_all)
   split at h
   .rename_i q hq;split at h
    .simp at h
    rename_i hd;obtain⟨n,y,H',ν',e1,e2,e3,e4,e5⟩:=TA  (hP f q hq) r Y h;exact⟨n,y,H',ν',Z,λk C=>hplace (by grind[gP]),e2,e3,e4,λh=>absurd h hd⟩
   split at h
   .rename_i os hh;split at h
    .rename_i rs m' hc;split at h
     .rename_i D m2 G hb;split at h
      .simp at h
      rename_i au;simp  at h;obtain⟨rfl,rfl⟩:=h
      cases av:dr with
      | false=>
       obtain⟨n,y,H',ν',Z',e1,e2,e3,e4⟩:=Tm  hS hk r Y hh hc G hb;exact⟨n,y,H',ν',Z',λk C=>hplace (by grind[gP]),e2,e3,e4,(λh=>nomatch h)⟩
      | true=>
       rw[av]at au;have jx:V.cF D=true/\∀k∈os.map (·.1),xH m2 k=true:=by
        simp only[Bool.true_and,Bool.not_eq_true',Bool.not_eq_false,ζh,List.all_eq_true]at au
        grind
       obtain⟨n,H',e1,e2,e3,e4,e5⟩:=TI (Rv:=Rv) hS hk r Y hh hc G hb jx.1 jx.2;exact⟨n,_,H',ν,Z,λk C=>hplace (by grind[gP]),e2,e3,e4,λ_=>⟨rfl,e5 _⟩⟩
     .rename_i m2 G hb;split at h
      .simp at h
      rename_i hd;split at h
      .rename_i e rest t;split at h
       .rename_i k es xs D he ai;split at h
        next B=>simp only[ζh,Bool.not_eq_true',List.contains_eq_mem,decide_eq_false_iff_not]at B;simp only[ζa,ζc]at h;obtain⟨rfl,rfl⟩:=h;obtain⟨n,y,H',ν',Z',e1,e2,e3,e4⟩:=R3 hS hk r Y hh hc ai hb he B.1 B.2;exact⟨n,y,H',ν',Z',λk C=>hplace (by grind[gP]),e2,e3,e4,λh=>absurd h hd⟩
        simp at h
       simp at h
      .rename_i p e rest t;split at h
       .rename_i k es xs D he ai;split at h
        next B=>simp only[ζh,Bool.not_eq_true',List.contains_eq_mem,decide_eq_false_iff_not]at B;simp only[ζa,ζc]at h;obtain⟨rfl,rfl⟩:=h;obtain⟨n,y,H',ν',Z',e1,e2,e3,e4⟩:=Qm hS hk r Y hh hc ai hb he B.1 B.2;exact⟨n,y,H',ν',Z',λk C=>hplace (by grind[gP]),e2,e3,e4,λh=>absurd h hd⟩
        simp at h
       simp at h
      simp at h
     simp at h
    simp at h
   simp at h
  rename_i ab;split at h
  .rename_i aj;simp only[ζh]at aj;have X:jA S.E ops place f=false:=by
    simp only[Bool.not_eq_true,Bool.or_eq_false_iff,Bool.not_eq_false']at ab
    cases place with
    | none=>rw[T]at ab;simp at ab
    | some bi=>
     obtain⟨b,i⟩:=bi;have h1:=ak b i rfl ab.2;have h2:=aj.1;simp only[jA,h1,Bool.false_or];cases Q:S.E.soft f <;> simp_all
   split at h
   .rename_i az hs;split at h
    .rename_i rs m' hc;split at h
     .rename_i D G;split at h
      next B=>simp only[Bool.or_eq_true]at B;simp at h;obtain⟨rfl,rfl⟩:=h;obtain⟨n,H',e1,e2,e3,e4⟩:=DS hS T J hold r Y X hs (.inr aj.2) hc G B;exact⟨n,_,H',ν,Z,e1,e2,e3,e4,λ_=>⟨rfl,.refl⟩⟩
      simp at h
     simp at h
    simp at h
   simp at h
  simp at h
 rename_i hk;have aD:S.E.keep f=false:=by grind
 have X:jA S.E ops place f=false:=by simp_all[jA]
 split at h
 .rename_i az hs;split at h
  .rename_i hl;split at h
   .rename_i rs m' hc;split at h
    .rename_i D G;split at h
     .rename_i B;simp only[Bool.or_eq_true]at B;simp  at h;obtain⟨rfl,rfl⟩:=h;obtain⟨n,H',e1,e2,e3,e4⟩:=DS  hS T J hold r Y X hs Zd hc G B
      exact⟨n,_,H',ν,Z,e1,e2,e3,e4,λ_=>⟨rfl,.refl⟩⟩
     rename_i aH;split at h
     .rename_i aE;obtain⟨ds,aF,e⟩:=ζf.1 h;simp  at e;obtain⟨rfl,rfl⟩:=e;have aw:(result D).scalar=false:=by
       grind
      obtain⟨n,H',e1,e2,e3,e4⟩:=RN  hS J (λb i hp=>(hold b i hp).2) r Y aD hs (by rw[<-T];exact aE) hc G aw aF
      exact⟨n,_,H',ν,Z,e1,e2,e3,e4,λ_=>⟨rfl,λe ae _ h=>⟨ae,nY h,rfl,.refl _,λ_ h=>⟨h,rfl⟩⟩⟩⟩
     simp at h
    simp at h
   simp at h
  simp at h
 simp at h
end
structure CX where
 E:Env
 nm:FuncId->Option Nat
 nt:Nat
def BZ (ops:a_ Oper) (o:Oper):bf (bf (Nat×Bool)):=
 match o.guard with
 | none=>some none
 | some (j,b)=>((ops[j]?).bind (·.dst)).map λd=>some (d,b)
def yD (nt:Nat):bf Nat->Bool
 | none=>true
 | some d=>decide (d<nt)
def xe (u:Bool) (ops:a_ Oper) (i:Nat) (k:K) (os:a_ Operand):K×a_ Operand×Bool:=
 if u && !dA ops i then match k,os,qZ false ops i with
  | .l (.store n),.tmp t::w,some (a,l)=>if t=a then(.l (.storeF n),(.tmp t::w)++l.map .tmp,true)else(k,os,false)
  | .l (.append n),os,_=>if wL ops i then(.e n,os,true)else(k,os,false)
  | .r (.load n ag),[.tmp t],_=>if(oQ ops i t).isEmpty then(k,os,false)else(.r (.loadF n ag),.tmp t::(oQ ops i t).map .tmp,false)
  | _,_,_=>(k,os,false)
 else(k,os,u&&dA ops i)
theorem Cr (u:Bool) (ops:a_ Oper) (i:Nat) (k:K) (os:a_ Operand):(xe u ops i k os=(k,os,u&&dA ops i)/\∀n ag a',u=true->dA ops i=false->k=.r (.load n ag)->os=[.tmp a']->oQ ops i a'=[]) \/
 (u=true/\dA ops i=false/\∃n a l B,k=.l (.store n)/\os=.tmp a::B/\qZ false ops i=some (a,l)/\xe u ops i k os=(.l (.storeF n),os++l.map .tmp,true)) \/
 (u=true/\dA ops i=false/\∃n ag a,k=.r (.load n ag)/\os=[.tmp a]/\xe u ops i k os=(.r (.loadF n ag),.tmp a::(oQ ops i a).map .tmp,false)) \/
 (u=true/\dA ops i=false/\wL ops i=true/\∃n,k=.l (.append n)/\xe u ops i k os=(.e n,os,true)):=by
 unfold xe;split
 .rename_i h;simp only[ζh,Bool.not_eq_true']at h;split
  .rename_i n a' B a l hk;split
   next e=>subst e;refine .inr (.inl ⟨h.1,h.2,n,a',l,B,rfl,rfl,hk,?_⟩);simp only[xe,h.1,h.2,hk,Bool.not_false,Bool.and_self,if_true]
   exact .inl ⟨by rw[h.2,Bool.and_false],λn ag a' _ _ e=>by cases e⟩
  .rename_i n;split
   next D=>refine .inr (.inr (.inr ⟨h.1,h.2,D,n,rfl,rfl⟩))
   exact .inl ⟨by rw[h.2,Bool.and_false],λn ag a' _ _ e=>by cases e⟩
  .rename_i n ag a';split
   .rename_i G;refine .inl ⟨by rw[h.2,Bool.and_false],λn ag C _ _ _ e=>?_⟩
    simp only[List.cons.injEq,Operand.tmp.injEq,and_true]at e;subst e;simpa using G
   exact .inr (.inr (.inl ⟨h.1,h.2,n,ag,a',rfl,rfl,rfl⟩))
  rename_i t w z;refine .inl ⟨by rw[h.2,Bool.and_false],λn ag C _ _ e1 e2=>?_⟩
  first|exact(z _ _ _ e1 e2).elim|exact(z _ _ _ _ e1 e2 rfl).elim|exact(t _ _ _ e1 e2).elim|exact(w _ _ _ e1 e2).elim|exact(t _ _ _ _ e1 e2 rfl).elim|exact(w _ _ _ _ e1 e2 rfl).elim
 rename_i h;refine .inl ⟨rfl,λn ag C hd I _ _=>?_⟩
 rw[hd,I]at h;exact absurd rfl h
def lZ (X:CX) (u:Bool) (ops:a_ Oper) (i:Nat) (o:Oper):bf RO:=
 if yD X.nt o.dst && !(u&&(cB o.op==.call&&Gj ops i))then
  match BZ ops o,resolve X.E X.nm o.op with
  | some gd,some (k,os)=>if A3 k then if u&&Dy X.E ops i then match k,o.op with
   | .a (.makeSl size zero),.makeSlice ..=>(os.mapM (oG X.nm)).map λaz=>⟨o.dst,gd,false,.p (.makeC size zero),az,[],[]⟩
   | .a (.buildSl size len zero idx),.buildSlice ..=>if size≠0/\len=0/\idx=[]then(os.mapM (oG X.nm)).map λaz=>⟨o.dst,gd,false,.p .emptyC,az,[],[]⟩else(os.mapM (oG X.nm)).map λaz=>⟨o.dst,gd,false,.p (.buildC size len zero idx),az,[],[]⟩
   | _,_=>none
   else((xe u ops i k os).2.1.mapM (oG X.nm)).map λaz=>⟨o.dst,gd,(xe u ops i k os).2.2,(xe u ops i k os).1,az,[],[]⟩else none
  | _,_=>none
 else none
theorem Dk {E:Env} {N:Nat->FuncId} {F:Frame} {op:Op} {ys:a_ V} {size:Nat} {zero:a_ V} {y:V} (u:∃t l c,op=.buildSlice t l c) (h:AL E N F op ys (.a (.buildSl size 0 zero []))) (D:size≠0) (B:bS N .emptyC ys=some y):oR E F op=some y:=by
 obtain⟨t,l,c,rfl⟩:=u;obtain⟨g1,g2⟩:=h;unfold bS at B;split at B <;> first|(rename_i e;cases e;done)|skip
 all_goals simp_all[kT,eV,oR]
theorem Au {es:Nat}:∀{vs:a_ (Nat×V)} {xs ys:a_ (a_ V)},eV es xs vs=some ys->ys.length=xs.length
 | [],xs,ys,h=>by grind[eV]
 | (i,v)::r,xs,ys,h=>by
  simp only[eV]at h;split at h
  .have:=Au h
   grind
  cases h
theorem C8 {E:Env} {N:Nat->FuncId} {F:Frame} {op:Op} {ys:a_ V} {size len:Nat} {zero:a_ V} {idx:a_ Nat} {y:V} (B:∃t l c,op=.buildSlice t l c) (h:AL E N F op ys (.a (.buildSl size len zero idx))) (u:bS N (.buildC size len zero idx) ys=some y):oR E F op=some y:=by
 obtain⟨t,l,c,rfl⟩:=B;obtain⟨g1,g2⟩:=h;simp only[bS]at u;split at u
 .rename_i hc;split at u
  .rename_i z w;split at u
   .rename_i D;have G:len=z.length:=by
     have:=Au w;rw[this];simp
    have C:=g2 _ (show kT (.buildSl size len zero idx) ys=some (.row size z,.sl size len)by grind[kT])
    grind[oR]
   cases u
  cases u
 cases u
theorem Cs {E:Env} {N:Nat->FuncId} {F:Frame} {op:Op} {ys:a_ V} {size:Nat} {zero:a_ V} {y:V} (B:∃t l c,op=.makeSlice t l c) (h:AL E N F op ys (.a (.makeSl size zero))) (u:bS N (.makeC size zero) ys=some y):oR E F op=some y:=by
 obtain⟨t,l,c,rfl⟩:=B;obtain⟨g1,g2⟩:=h;unfold bS at u;split at u <;> first|(rename_i e;cases e;done)|skip
 .rename_i k n z m e;cases e;split at u
  .rename_i c;obtain⟨rfl,rfl,C,rfl,D,G⟩:=c;have w:=g2 _ (show kT (.makeSl size zero) [.int .i64 n,.int .i64 n]=some (.row size (List.replicate n.toNat zero),.sl size n.toNat)by grind[kT])
   grind[oR]
  cases u
 cases u
theorem CH {X:CX} {dr:Bool} {ops:a_ Oper} {i:Nat} {o:Oper} {ro:RO} (hc:lZ X dr ops i o=some ro):yD X.nt o.dst=true/\∃g now k az,BZ ops o=some g/\ro=⟨o.dst,g,now,k,az,[],[]⟩:=by
 unfold lZ at hc;split at hc
 .rename_i hd;have hd:=(Bool.and_eq_true_iff.1 hd).1;split at hc
  .rename_i g k os hg hr;split at hc
   ·(repeat' split at hc) <;> first|(cases hc;done)|(obtain⟨az,t,rfl⟩:=ζf.1 hc;exact⟨hd,_,_,_,_,hg,rfl⟩)
   cases hc
  cases hc
 cases hc
theorem Fa {X:CX} {dr:Bool} {ops:a_ Oper} {i:Nat} {o:Oper} {ro:RO} (hc:lZ X dr ops i o=some ro) (hd:dr=true) (u:cB o.op=.call):Gj ops i=false:=by
 unfold lZ at hc;split at hc
 next h=>subst hd;simp[u]at h;exact h.2
 cases hc
structure Good (X:CX) (S:Sys):Prop where
 E:X.E=S.E
 N:∀f s,X.nm f=some s->S.N s=f
 prm:∀f q,S.prm f=some q->n9 S.E f q
section
variable {Rv:Nat->Prop} {ν ν':Nu} {Z Z':Nat->Prop} {st st':St} {m m':Tb bu} {F F':Frame} {H H' H1:bn} {S:Sys} {c:bU} {X:CX}
def Old (b:Nat) (fr:a_ Nat) (ν:Nu) (Z:Nat->Prop) (m:Tb bu):Prop:=(∀d ob j,bl m d=some ob->ob.pt j=true->d∉fr->ν.at d j<b)/\∀id,Z id->id<b
theorem nu {fr:a_ Nat}:∀{svs:a_ SV},eH fr svs=true->∀d∈fr,SV.c6 d svs=false
 | [],_,d,_=>rfl
 | .v _::r,h,d,hd=>(nu (svs:=r) (by grind[eH]) d hd)
 | .ptr e _::r,h,d,hd=>by
  simp[eH,Bool.not_eq_true']at h;simp[SV.c6,SV.ct];exact⟨λe=>h.1 (e▸hd),nu h.2 d hd⟩
 | .el e _ _::r,h,d,hd=>by
  simp[eH,Bool.not_eq_true']at h;simp[SV.c6,SV.ct];exact⟨λe=>h.1 (e▸hd),nu h.2 d hd⟩
 | .mp e::r,h,d,hd=>by
  simp[eH,Bool.not_eq_true']at h;simp[SV.c6,SV.ct];exact⟨λe=>h.1 (e▸hd),nu h.2 d hd⟩
 | .own _::r,h,_,_=>by grind[eH]
 | .clo ..::r,h,_,_=>by grind[eH]
 | .tup _::r,h,_,_=>by grind[eH]
 | .agg _::r,h,_,_=>by grind[eH]
 | .yl _::r,h,_,_=>by grind[eH]
def C1 (S:Sys) (ops:a_ Oper) (place:bf (Nat×Nat)) (dr:Bool) (F:Frame) (op:Op) (dst:bf Nat) (ν:Nu) (Z:Nat->Prop) (st:St) (H:bn) (sv:SV) (st':St):Prop:=
 ∃n y H' ν' Z',(∀k,n<=k->cK S.E (run S.E k) ops place F H op=some (y,H'))/\R ν' Z' st' F H'/\cD ν' st'.m H' Z' sv y/\Ev (λid=>∃b j,place=some (b,j)/\id=b+j) ν Z st H ν' Z' st' H' /\
  (dr=true->Z'=Z/\Kept dst ν st.m ν' st'.m)
theorem yx {E:Env} {F:Frame} {H:bn} {place:bf (Nat×Nat)} {op:Op} {v:V} (h:bH E F op=some v):rW E F H place op=some v:=by simp_all[rW]
theorem Ae:∀{xs ys:a_ (a_ V)} {l:a_ Int},fh H Z xs ys->pK xs=some l->pK ys=some l
 | [],ys,l,h,B=>by
  have:=h.1;have:ys=[]:=List.eq_nil_of_length_eq_zero Zd
  grind
 | x::xs,[],l,h,B=>by have:=h.1;simp at this
 | x::xs,y::ys,l,h,B=>by
  unfold pK at B;split at B
  .grind
  .rename_i n r e;cases e;obtain⟨k,h1,rfl⟩:=ζf.1 B;have t:=h.2 0 _ y rfl rfl;obtain⟨u,z,rfl,p1,p2⟩:=t.inv;rw[p2.cT,p1.int];have:=Ae (xs:=xs) (ys:=ys) ⟨by have:=h.1;grind,λj a b w B=>h.2 (j+1) a b w B⟩ h1
   grind[pK]
  cases B
theorem Mb (gd:Good X S) {ops:a_ Oper} {place:bf (Nat×Nat)} {dr:Bool} {op:Op} {dst:bf Nat} {p:u_} {svs:a_ SV} {ys:a_ V} (hk:A3 (.p p)=true) (r:R ν Z st F H) (rs:bW ν st.m H Z svs ys)
 (u:AL X.E S.N F op ys (.p p)) {sv:SV} (h:(jl S.N st.m p svs).map (λx=>(x,st))=some (sv,st')):C1 S ops place dr F op dst ν Z st H sv st':=by
 obtain⟨x,w,e⟩:=ζf.1 h;obtain⟨rfl,rfl⟩:=e;obtain⟨y,z,t⟩:=Hi  (λzero pl e=>by grind[A3]) r.obj rs w
 obtain⟨h1,B⟩:=u;exact⟨0,y,H,ν,Z,λq _=>by unfold cK;rw[h1];simp only[<-gd.E,yx (B y z),Option.map_some],r,t,.refl,λ_=>⟨rfl,.refl⟩⟩
theorem zo (gd:Good X S) {ops:a_ Oper} {place:bf (Nat×Nat)} {dr:Bool} {op:Op} {p:u_} {svs:a_ SV} {ys:a_ V} (hp:∀zero pl,p≠.build zero pl) (u:cB op=.alloc) (B:mX X.E ops place=true) (D:∀y,bS S.N p ys=some y->oR X.E F op=some y)
 (r:R ν Z st F H) (rs:bW ν st.m H Z svs ys) {sv:SV} (h:(jl S.N st.m p svs).map (λx=>(x,st))=some (sv,st')):C1 S ops place dr F op none ν Z st H sv st':=by
 obtain⟨x,w,e⟩:=ζf.1 h;simp only[ζc]at e;obtain⟨rfl,rfl⟩:=e;obtain⟨y,z,t⟩:=Hi (N:=S.N) (λzero pl e=>absurd e (hp zero pl)) r.obj rs w
 refine⟨0,y,H,ν,Z,λq _=>?_,r,t,.refl,λ_=>⟨rfl,.refl⟩⟩
 unfold cK;rw[u];simp only[B,if_true,<-gd.E,D y z,Option.map_some]
theorem JL:∀{B u:a_ Operand} {vs:a_ V},fq F (B++u)=some vs->∃D G,fq F B=some D/\fq F u=some G/\vs=D++G
 | [],u,vs,h=>⟨[],vs,rfl,h,rfl⟩
 | x::B,u,vs,h=>by
  obtain⟨a,az,h1,J,rfl⟩:=iA h;obtain⟨D,G,g1,g2,rfl⟩:=JL J;simp_all[fq]
theorem Ca:∀{l:a_ Nat} {vs:a_ V},fq F (l.map Operand.tmp)=some vs->vs=l.map (get F)
 | [],vs,h=>pS h
 | x::l,vs,h=>by
  obtain⟨a,az,h1,u,rfl⟩:=iA h;simp[ev]at h1;subst h1;rw[Ca u];rfl
theorem UW (gd:Good X S) {call:dz} {ops:a_ Oper} {b j n a:Nat} {l:a_ Nat} {o:Oper} {u:a_ Operand} {ys:a_ V} {y:V} (hr:resolve X.E X.nm o.op=some (.l (.store n),.tmp a::u)) (B:fq F ((.tmp a::u)++l.map Operand.tmp)=some ys)
 (G:qZ false ops j=some (a,l)) (J:dA ops j=false) (e1:eO H (.storeF n) ys=some (y,H')):cK S.E call ops (some (b,j)) F H o.op=some (y,H'):=by
 obtain⟨U,W,h1,I,rfl⟩:=JL B;obtain⟨g1,g2⟩:=iU gd.N hr h1;obtain⟨w,L,z,O,rfl⟩:=iA h1;simp[ev]at z;have t:∃v,L=[v]:=by
  have C:∃x,u=[x]:=by
   unfold resolve at hr
   (repeat' split at hr) <;> first|grind|skip
   all_goals (try (obtain⟨_,_,e⟩:=ζf.1 hr;simp[K.l.injEq,Ke.store.injEq,reduceCtorEq]at e))
   grind
  obtain⟨x,rfl⟩:=C;obtain⟨v,Y,_,Q,rfl⟩:=iA O;rw[pS Q];grind
 obtain⟨v,rfl⟩:=t;rw[Ca I,<-z]at e1;simp  at e1
 cases D:get F a with
 | hptr id el off=>
  rw[D]at e1;simp only[eO]at e1;split at e1
  .have T:pM ops j F=true:=by
    unfold pM
    grind
   unfold cK;rw[g1];simp[T,<-gd.E];refine g2 _ _ ?_;rw[<-z,D];exact e1
  grind
 | _=>rw[D]at e1;simp[eO]at e1
theorem FQ {E:Env} {nm:FuncId->bf Nat} {op:Op} {s:Nat} {a:Bool} {os:a_ Operand} (h:resolve E nm op=some (.r (.loadF s a),os)):False:=by
 unfold resolve at h
 (repeat' split at h) <;> first|grind|skip
 all_goals simp_all
theorem GV {E:Env} {nm:FuncId->bf Nat} {op:Op} {s a':Nat} {a:Bool} {t:TypeId} {os:a_ Operand} (h:resolve E nm op=some (.r (.load s a),os)):∃t x,op=.load t x/\os=[x]:=by
 unfold resolve at h
 (repeat' split at h) <;> first|grind|skip
 all_goals simp_all
 grind
theorem Mr {E:Env} {nm:FuncId->bf Nat} {ops:a_ Oper} {j:Nat} {op:Op} {q:Jr} {os:a_ Operand} (hr:resolve E nm op=some (.r q,os)) (h:∀n ag a',K.r q=.r (.load n ag)->os=[.tmp a']->∀t,op=.load t (.tmp a')->oQ ops j a'=[]):nJ ops j F op=true:=by
 unfold nJ;split
 .rename_i t a';have:∃n ag,q=.load n ag/\os=[.tmp a']:=by
   obtain⟨d,_,e⟩:=ζf.1 hr
   grind
  grind
 rfl
theorem RY (gd:Good X S) {ops:a_ Oper} {b j n a:Nat} {ag:Bool} {fr:a_ Nat} {o:Oper} {svs:a_ SV} {ys:a_ V} {dst:bf Nat} {x:SV} (hr:resolve X.E X.nm o.op=some (.r (.load n ag),[.tmp a])) (T:fq F (.tmp a::(oQ ops j a).map Operand.tmp)=some ys) (rs:bW ν st.m H Z svs ys)
 (U:eH fr svs=true) (ad:b<=H.length) (W:∀d ob j,bl st.m d=some ob->ob.pt j=true->d∉fr->ν.at d j<b) (D:∀id,Z id->id<b) (r:R ν Z st F H) (O:oI st.m (.loadF n ag) svs=some x):C1 S ops (some (b,j)) true F o.op dst ν Z st H x st:=by
 obtain⟨w,ws,h1,h2,rfl⟩:=iA T;simp[ev]at h1;have ae:=Ca h2;unfold oI at O;split at O <;> first|(rename_i B;cases B;done)|skip
 .rename_i size agg d off l B;cases B;split at O
  .rename_i G;split at O
   .rename_i cs C;obtain⟨w',af,e,g1,g2⟩:=rs.inv;cases e;have I:=JS r C g2 G;obtain⟨_,_,rfl⟩:=g1.oA C;have J:∀id,Z id->Z id/\bq (H.take b) id=bq H id:=λid h=>⟨h,mG (D id h)⟩
    have L:∀id,Z id->Z id/\bq H id=bq (H.take b) id:=λid h=>⟨h,(mG (D id h)).symm⟩
    have ah:d∉fr:=λhf=>by
     have:=nu U d hf
     grind[SV.c6,SV.ct]
    obtain⟨y,hy,Q⟩:=vS  (r:=.load n ag)   (λs a e=>by cases e) (λkk z ok e=>by cases e) (bW.cons (g1.mono J λe _=>iE ν st.m e) .nil) (λd2 Y ob u=>by
     have aa:d2∉fr:=λhf=>by
      have  := by simpa [SV.c6,SV.ct]using Y
      grind
     exact cM.mono J rfl (λj hb=>List.getElem?_take_of_lt (W d2 ob j u hb aa)) (λe _=>iE ν st.m e) (r.obj d2 ob u))  (by simp[oI,C];omega)
    obtain⟨k1,k2⟩:=iU  gd.N hr (show fq F [.tmp a]=some [.hptr (ν d).1 0 off]from by grind[fq])
    have ab:nJ ops j F o.op=true:=by
     obtain⟨t,x',e1,e2⟩:=GV (a':=0) (t:=0) hr;rw[e1];simp  at e2;subst e2;simp[nJ];intro s hs;have hm:get F s∈ws:=by grind
     have:=List.all_eq_true.1 I _ hm
     grind[nF]
    refine⟨0,y,H,ν,Z,λq _=>?_,r,Q.mono L (λe _=>iE ν st.m e),.refl,λ_=>⟨rfl,.refl⟩⟩
    unfold cK;rw[k1];simp[<-gd.E,k2 (H.take b) y hy,ab]
   grind
  grind
 grind
theorem D4 {E:Env} {nm:FuncId->bf Nat} {op:Op} {n:Nat} {os:a_ Operand} (h:resolve E nm op=some (.l (.append n),os)) {y:V} {ys:a_ V} (hv:fq F os=some (y::ys)) (B:y=.bN\/y=.c_):isApp op=true/\pq F op=true:=by
 have key:∃args t p s x,op=.call { callee:=.builtin .append,args:=args,argTypes:=t }/\args.toList=[s,x]/\os=[s,x]/\p=():=by
  unfold resolve at h
  (repeat' split at h) <;> first|(simp at h;done)|skip
  grind
 obtain⟨args,t,_,s,x,rfl,h1,rfl,_⟩:=key;obtain⟨a,az,u,w,e⟩:=iA hv;cases e;refine⟨rfl,?_⟩;simp only[pq,h1,u]
 all_goals grind
theorem Ve (gd:Good X S) (hS:iH S c) {ops:a_ Oper} {place:bf (Nat×Nat)} {dr:Bool} {fr:a_ Nat} {i:Nat} (G:dr=place.isSome) (hi:∀b j,place=some (b,j)->j=i)
 (hold:∀b j,place=some (b,j)->b<=H.length/\Old b fr ν Z st.m)
 {o:Oper} {ro:RO} (hc:lZ X dr ops i o=some ro) (aF:∀b j,place=some (b,j)->ops[j]? = some o) (am:∀b j,place=some (b,j)->cB o.op=.alloc->H[b+j]? = some .free)
 (r:R ν Z st F H) {sv:SV} (h:lG S c dr fr ro st=some (sv,st')) :
 C1 S ops place dr F o.op (yM ro) ν Z st H sv st':=by
 have aw:=λhd hl=>Fa hc hd hl
 unfold lZ at hc;split at hc
 .split at hc
  .rename_i g k os hg hr;split at hc
   .rename_i hk;split at hc
    .rename_i af;simp only[ζh]at af;have an:mX X.E ops place=true:=by
      cases place with
      | none=>rw[G]at af;exact absurd af.1 Zc
      | some O=>obtain⟨b,j⟩:=O;rw[hi b j rfl];exact af.2
     split at hc
     .rename_i size zero t l c U;obtain⟨az,ha,rfl⟩:=ζf.1 hc;unfold lG at h;split at h
      next L B=>obtain⟨ys,C,rs⟩:=oa gd.N r.slot ha B;have J:=iU gd.N hr C;exact zo gd (λ_ _ e=>by cases e) J.1 an (λy hy=>Cs ⟨_,_,_,U⟩ J hy) r rs h
      simp at h
     .rename_i size len zero idx t l c U;split at hc
      .rename_i aG;obtain⟨aH,rfl,rfl⟩:=aG;obtain⟨az,ha,rfl⟩:=ζf.1 hc;unfold lG at h;split at h
       next L B=>obtain⟨ys,C,rs⟩:=oa gd.N r.slot ha B;have J:=iU gd.N hr C;exact zo gd (λ_ _ e=>by cases e) J.1 an (λy hy=>Dk ⟨_,_,_,U⟩ J aH hy) r rs h
       simp at h
      obtain⟨az,ha,rfl⟩:=ζf.1 hc;unfold lG at h;split at h
      next L B=>obtain⟨ys,C,rs⟩:=oa gd.N r.slot ha B;have J:=iU gd.N hr C;exact zo gd (λ_ _ e=>by cases e) J.1 an (λy hy=>C8 ⟨_,_,_,U⟩ J hy) r rs h
      simp at h
     cases hc
    rename_i ah;have al:mX X.E ops place=false:=by
     cases place with
     | none=>rfl
     | some O=>
      obtain⟨b,j⟩:=O;have I:=hi b j rfl
      cases ax:Dy X.E ops j with
      | false=>exact ax
      | true=>exact absurd (by rw[G,<-I,ax];rfl) ah
    rcases Cr dr ops i k os with⟨hq,aI⟩|⟨u,ao,n,a,l,aT,rfl,rfl,aJ,hq⟩|⟨u,ao,n,ag,a,rfl,rfl,hq⟩|⟨u,ao,aK,n,rfl,hq⟩
    rotate_left
    .rw[hq]at hc;obtain⟨az,ha,rfl⟩:=ζf.1 hc;unfold lG at h;split at h
     .rename_i L B;obtain⟨ys,C,rs⟩:=oa gd.N r.slot ha B;simp only[u,Bool.not_true,Bool.false_or,if_true]at h;obtain⟨y,H',ν',e1,e2,e3,e4,e5⟩:=BE r rs h;refine⟨0,y,H',ν',Z,λq _=>?_,e2,e3,e4.weak (λ_ h=>h.elim),λ_=>⟨rfl,e5⟩⟩
      cases place with
      | none=>rw[G]at u;cases u
      | some O=>
       obtain⟨b,j⟩:=O;have I:=hi b j rfl;subst I;exact UW gd hr C aJ ao e1
     simp at h
    .rw[hq]at hc;obtain⟨az,ha,rfl⟩:=ζf.1 hc;unfold lG at h;split at h
     .rename_i L B;obtain⟨ys,C,rs⟩:=oa gd.N r.slot ha B;simp only[u,Bool.not_true,Bool.or_self,Bool.false_or]at h;split at h
      .rename_i ap;obtain⟨x,hx,e⟩:=ζf.1 h;simp only[ζc]at e;obtain⟨rfl,rfl⟩:=e
       cases place with
       | none=>rw[G]at u;cases u
       | some O=>
        obtain⟨b,j⟩:=O;have I:=hi b j rfl;subst I;obtain⟨ay,aq,ai⟩:=hold b j rfl;rw[u];exact RY gd hr C rs ap ay aq ai r hx
      simp at h
     simp at h
    .rw[hq]at hc;obtain⟨az,ha,rfl⟩:=ζf.1 hc;unfold lG at h;split at h
     rotate_left
     .simp at h
     rename_i L B;obtain⟨ys,C,rs⟩:=oa gd.N r.slot ha B;simp only at h;have key:∃e x,(e=V.bN\/e=V.c_)/\L=[.v e,x]/\jC st o.dst (.append n) L=some (sv,st'):=by
      split at h
      .exact⟨_,_,.inl rfl,rfl,h⟩
      .exact⟨_,_,.inr rfl,rfl,h⟩
      cases h
     obtain⟨e,x,he,rfl,hl⟩:=key;obtain⟨y,H',ν',e1,e2,e3,e4,e5⟩:=BE r rs hl;obtain⟨g1,g2⟩:=iU gd.N hr C;refine⟨0,y,H',ν',Z,λq _=>?_,e2,e3,e4.weak (λ_ h=>h.elim),λ_=>⟨rfl,e5⟩⟩
     obtain⟨y1,zs,rfl,f1,f2⟩:=rs.inv;have aL:y1=.bN\/y1=.c_:=by
      cases f1 with|v _ _ hf=>rcases he with rfl|rfl <;> first|exact .inl hf.bN|exact .inr hf.c_
     cases place with
     | none=>rw[G]at u;cases u
     | some O=>
      obtain⟨b,j⟩:=O;have I:=hi b j rfl;subst I;obtain⟨r1,r2⟩:=D4 hr C aL;exact Nh r1 (by rw[<-gd.E];exact g2 _ _ e1) (.inr ⟨aK,r2,(hold b j rfl).1⟩)
    rw[hq]at hc;obtain⟨az,ha,rfl⟩:=ζf.1 hc;unfold lG at h;split at h
    .rename_i L B;obtain⟨ys,C,rs⟩:=oa gd.N r.slot ha B;have D:=iU gd.N hr C;simp only at h
     cases k with
     | p p=>
      cases p with
      | slice size lo hi=>
       simp only at h;split at h
       .rename_i d bs;split at h
        .simp at h
        rename_i ar;obtain⟨y,ν',h1,h2,h3,h4⟩:=Mn (N:=S.N) (Rv:=λid=>∃b j,place=some (b,j)/\id=b+j) r rs h
        obtain⟨g1,g2⟩:=D;exact⟨0,y,H,ν',Z,λq _=>by unfold cK;rw[g1];simp only[<-gd.E,yx (g2 y h1),Option.map_some],h2,h3,h4,λhd=>absurd hd ar⟩
       exact Mb gd hk r rs D h
      | _=>exact Mb gd hk r rs D h
     | r q=>
      simp only at h;split at h
      .rename_i W;obtain⟨x,hx,e⟩:=ζf.1 h;simp only[ζc]at e;obtain⟨rfl,rfl⟩:=e;obtain⟨g1,g2⟩:=D;have au:∀kk z ok,q=.lookup kk z ok->z.good=true:=λkk z ok e=>by subst e;simpa [A3]using hk
       have ab:∀s a,q≠.loadF s a:=λs a e=>by subst e;exact FQ hr
       cases place with
       | none=>
        obtain⟨y,hy,ad⟩:=vS ab au rs (λd _ ob hd=>r.obj d ob hd) hx
        exact⟨0,y,H,ν,Z,λq _=>by unfold cK;rw[g1];simp only[<-gd.E,g2 H y hy,Option.map_some],r,ad,.refl,λ_=>⟨rfl,.refl⟩⟩
       | some O=>
        obtain⟨b,j⟩:=O;obtain⟨ay,aq,ai⟩:=hold b j rfl;have u:dr=true:=G;subst u;have I:=hi b j rfl;subst I;simp only[Bool.not_true,Bool.false_or,Bool.true_and]at W;have aA:nJ ops j F o.op=true:=Mr hr λn ag a' e1 e2 t e3=>by
         by_cases Q:dA ops j=true
         .exact C4 (aF b j rfl) e3 Q
         exact aI n ag a' rfl (by simpa using Q) e1 e2
        by_cases Q:dA ops j=true
        .obtain⟨y,hy,ad⟩:=vS ab au rs (λd _ ob hd=>r.obj d ob hd) hx
         have hH:=g2 H y hy;refine⟨0,y,H,ν,Z,λq _=>?_,r,ad,.refl,λ_=>⟨rfl,.refl⟩⟩
         unfold cK;rw[g1];simp only[<-gd.E,aA,if_true];split
         next v hv=>have:=yY hv;rw[hH]at this;cases this;rfl
         rw[if_pos Q,hH];rfl
        have ap:eH fr L=true:=by simpa [Q]using W
        have aa:∀id,Z id->Z id/\bq (H.take b) id=bq H id:=λid h=>⟨h,mG (ai id h)⟩
        have aB:∀id,Z id->Z id/\bq H id=bq (H.take b) id:=λid h=>⟨h,(mG (ai id h)).symm⟩
        obtain⟨y,hy,ad⟩:=vS (H:=H.take b) ab au (rs.mono aa λe _=>iE ν st.m e) (λd hd ob aC=>by
         have ab:d∉fr:=λhf=>by rw[nu ap d hf]at hd;cases hd
         exact cM.mono aa rfl (λj hb=>List.getElem?_take_of_lt (aq d ob j aC hb ab)) (λe _=>iE ν st.m e) (r.obj d ob aC)) hx
        refine⟨0,y,H,ν,Z,λq _=>?_,r,ad.mono aB (λe _=>iE ν st.m e),.refl,λ_=>⟨rfl,.refl⟩⟩
        unfold cK;rw[g1];simp only[<-gd.E,g2 (H.take b) y hy,aA,if_true]
      simp at h
     | a q=>
      simp only at h;split at h
      .rename_i d hd;split at h
       .rename_i Y;obtain⟨⟨ob,x⟩,hx,e⟩:=ζf.1 h;simp only[ζc]at e;obtain⟨rfl,rfl⟩:=e;obtain⟨ae,mk,e1,e2,T,e3,e4⟩:=MT hk rs hx;obtain⟨g1,g2⟩:=D;obtain⟨n1,n2,n3,n4⟩:=jI Y;have av:∀p:Nat×Nat,∀e,SV.c6 e L=true->∀aj,bl (bA st.m d ob) e=some aj->∃ob,bl st.m e=some ob/\gA ν d p e=ν e/\sameShape ob aj:=λp e he=>by
         refine yo ?_;rintro rfl;have:∀{xs:a_ Arg} {vs:a_ SV},bV S.N st.g xs=some vs->SV.c6 e vs=false:=by
          intro xs
          induction xs with
          | nil=>intro vs h;simp only[bV,ζa]at h;subst h;rfl
          | cons a xs ih=>
           intro vs h;simp only[bV]at h;split at h
           .rename_i v aU h1 h2;simp only[ζa]at h;subst h;simp only[SV.c6,Bool.or_eq_false_iff];refine⟨?_,ih h2⟩
            cases a with
            | s n=>exact yp n3 h1
            | k c=>simp only[qj,ζa]at h1;subst h1;rfl
            | f s=>simp only[qj,ζa]at h1;subst h1;rfl
           simp at h
         rw[this B]at he;cases he
        have fin:∀(id:Nat) (Hn:bn),H.length<=Hn.length->Hn[id]? = some ae->(∀k,k<H.length->k≠id->Hn[k]? = H[k]?)->(∀k,eF ν st.m k->k≠id)->(∀k,Z k->k≠id) ->
         R (gA ν d (id,0)) Z { st with m:=bA st.m d ob } F Hn/\cD (gA ν d (id,0)) (bA st.m d ob) Hn Z x (mk.val id)/\(∀k,Z k->bq Hn k=bq H k):=λid Hn hl aM J ho hz=>by
         have aa:∀k,Z k->bq Hn k=bq H k:=λk hk=>by unfold bq;rw[J k (r.uC hk) (hz k hk)]
         obtain⟨a1,a2⟩:=e4 id (gA ν d (id,0)) (bA st.m d ob) Hn (gO _ _ _) (bY _ _ _) aM aa (av _);have r2:R ν Z st F Hn:=r.heap (λk hk=>J k (r.lt hk) (ho k hk)) aa
         exact⟨r2.add Y (λ_=>⟨λh=>ho _ h rfl,λh=>hz _ h rfl⟩) a1 T,a2,aa⟩
        have aD:o.dst=some d:=hd
        cases place with
        | none=>
         obtain⟨f1,f2,f3⟩:=fin H.length (H++[ae]) Zc Zc (λk hk _=>List.getElem?_append_left hk) (λk hk=>Nat.ne_of_lt (r.lt hk)) (λk hk=>Nat.ne_of_lt (r.uC hk))
         refine⟨0,mk.val H.length,H++[ae],gA ν d (H.length,0),Z,λq _=>?_,f1,f2,Ev.add Y Zc (λk hk _=>List.getElem?_append_left hk) f3 (λ_=>.inr (Nat.le_refl _)) T,λhh=>?_⟩
         .unfold cK;rw[g1];simp only[al,Bool.false_eq_true,if_false,<-gd.E,g2 _ e1]
         rw[G]at hh;cases hh
        | some O=>
         obtain⟨b,j⟩:=O;have hf:=am b j rfl g1;have aN:=(ζe.1 hf).1;have nf:∀k,eF ν st.m k->k≠b+j:=λk hk e=>by
          subst e;obtain⟨d',aj,j',w1,w2,w3⟩:=hk;exact(r.obj d' aj w1).free w2 (w3▸hf)
         have nz:∀k,Z k->k≠b+j:=λk hk e=>by
          subst e;have:=r.zrow _ hk;unfold bq at this;rw[hf]at this;simp[Ob.rows]at this
         obtain⟨f1,f2,f3⟩:=fin (b+j) (H.set (b+j) ae) Zc (by rw[List.getElem?_set_self aN]) (λk _ hk=>by rw[List.getElem?_set,if_neg (Ne.symm hk)]) nf nz
         refine⟨0,mk.val (b+j),H.set (b+j) ae,gA ν d (b+j,0),Z,λq _=>?_,f1,f2,Ev.add Y Zc (λk _ hk=>?_) f3 (λ_=>.inl ⟨b,j,rfl,rfl⟩) T,λ_=>⟨rfl,?_⟩⟩
         .unfold cK;rw[g1];simp only[al,Bool.false_eq_true,if_false,<-gd.E,g2 _ e1,hf]
         .rw[List.getElem?_set,if_neg λe=>hk ⟨b,j,rfl,e.symm⟩]
         have:yM ⟨o.dst,g,dr&&dA ops j,.a q,az,[],[]⟩=some d:=aD;have I:=hi b j rfl;subst I;rw[this];exact Kept.add λ_ _ h=>h
       simp at h
      simp at h
     | l q=>
      simp only at h;split at h
      .rename_i W;obtain⟨y,H',ν',e1,e2,e3,e4,e5⟩:=BE r rs h;obtain⟨g1,g2⟩:=D;refine⟨0,y,H',ν',Z,λq _=>?_,e2,e3,e4.weak (λ_ h=>h.elim),λ_=>⟨rfl,e5⟩⟩
       unfold cK;rw[g1];simp only[<-gd.E]
       cases place with
       | none=>exact g2 _ _ e1
       | some O=>
        obtain⟨b,j⟩:=O;have u:dr=true:=G;subst u;have I:=hi b j rfl;subst I;have Q:dA ops j=true:=by simpa using W
        simp only[Q,if_true];exact g2 _ _ e1
      simp at h
     | e n=>exact D.elim
     | b=>
      simp only at h;split at h
      .cases h
      rename_i ar;have aO:dr=false:=by simpa using ar
      have aP:place=none:=by
       cases place with
       | none=>rfl
       | some O=>rw[aO]at G;simp at G
      subst aP;split at h
      next x=>obtain⟨xs,h1,h2⟩:=ζg.1 h;obtain⟨l,h3,e⟩:=ζf.1 h2;simp only[ζc]at e;obtain⟨rfl,rfl⟩:=e;obtain⟨g1,y,e1,g2⟩:=D;obtain⟨y',_,e2,r1,r2⟩:=rs.inv;rw[e1]at e2;cases e2;obtain⟨zs,k1,k2⟩:=uj r1 r.obj h1;have hz:pK zs=some l:=Ae k2 h3;obtain⟨q1,q2⟩:=g2 H zs l k1 hz;exact⟨0,_,H,ν,Z,λq _=>by unfold cK;rw[g1];simp only[rW,<-gd.E,q1,q2,Option.map_some],r,.v _ _ (.same _ rfl),.refl,λ_=>⟨rfl,.refl⟩⟩
      cases h
     | c=>
      simp only at h;obtain⟨g1,f',aV,e1,e2⟩:=D;have go:∀(f:FuncId) (args:a_ SV) (ak:a_ V),bW ν st.m H Z args ak->jL F o.op=some (.fn f,ak)->ey S c o.dst dr (!dr||(dr&&dA ops i)) (dR st.m fr) f args st=some (sv,st') ->
       C1 S ops place dr F o.op (yM ⟨o.dst,g,dr&&dA ops i,.c,az,[],[]⟩) ν Z st H sv st':=λf args ak aQ aE aR=>by
       obtain⟨n,y,H',ν',Z',p1,p2,p3,p4,p5⟩:=Pj (ops:=ops) (Rv:=λid=>∃b j,place=some (b,j)/\id=b+j) hS gd.prm G (λb j hp hn=>by
        have:=hi b j hp;subst this;simp only[ζh]at hn;exact hn.2) (λb j hp hn=>by have:=hi b j hp;subst this;rw[G,hp]at hn;simpa using hn) (λb j hp=>(hold b j hp).2) r aQ aR
       refine⟨n,y,H',ν',Z',λq hq=>?_,p2,p3,p4,p5⟩
       have aS:vZ ops place ak=true:=by
        cases place with
        | none=>rfl
        | some O=>simp only[vZ,hi _ _ rfl,aw G g1];rfl
       unfold cK;rw[g1];simp only[aE,aS,if_true];exact p1 q hq
      split at h
      next f a b vs=>obtain⟨w,ws,ew,r1,r2⟩:=rs.inv;rw[ew]at e1;simp only[List.cons.injEq]at e1;obtain⟨rfl,rfl⟩:=e1;obtain⟨a',b',rfl,ra,rb⟩:=r1.jU;exact go f _ _ ((ra.append r2).append rb) e2 h
      next f a b vs=>obtain⟨w,ws,ew,r1,r2⟩:=rs.inv;rw[ew]at e1;simp only[List.cons.injEq]at e1;obtain⟨rfl,rfl⟩:=e1;obtain⟨a',b',rfl,ra,rb⟩:=r1.fr.jU;exact go f _ _ (((bW.p_ ra).append r2).append (bW.p_ rb)) e2 h
      simp at h
    simp at h
   simp at hc
  simp at hc
 simp at hc
end
end Go.VE
