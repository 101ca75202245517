/-
 The second layer: named objects.
-/
import Derived.Test.YtimppgndlmehbaaGreatV2
set_option linter.all false
namespace Go.VE
variable [bX]
inductive Fl where|nil|emp|row|part
 deriving DecidableEq,Inhabited
inductive SV where
 | v (x:V)
 | own (d:Nat)
 | ptr (d off:Nat)
 | el (d i off:Nat)
 | mp (d:Nat)
 | clo (f:FuncId) (a b:List SV)
 | tup (l:List SV)
 | agg (l:List SV)
 | yl (id:Nat)
 deriving Inhabited
inductive bP where
 | sl (k:Fl) (es:Nat) (xs:List (List V))
 | box (cs:List SV)
 | mp (kvs:List (V×V))
abbrev Tb (α:Type):=List (Nat×α)
def bk {α:Type}:Tb α->Nat->Option α
 | [],_=>none
 | (k,v)::r,n=>if k=n then some v else bk r n
def bT {α:Type}:Tb α->Nat->α->Tb α
 | [],n,v=>[(n,v)]
 | (k,x)::r,n,v=>if k=n then(k,v)::r else(k,x)::bT r n v
def en {α:Type} (n:Nat):Tb α->Tb α
 | []=>[]
 | (k,x)::r=>if k=n then en n r else(k,x)::en n r
def nO {α:Type}:List Nat->Tb α->Tb α
 | [],g=>g
 | d::ds,g=>nO ds (en d g)
def v8 {α:Type}:Tb α->List Nat->List α->Tb α
 | g,p::ps,v::vs=>v8 (bT g p v) ps vs
 | g,_,_=>g
def Az {α:Type} (g:Tb α):List Nat->Option (Tb α)
 | []=>some []
 | n::r=>match bk g n,Az g r with
  | some v,some t=>some ((n,v)::t)
  | _,_=>none
structure St where
 g:Tb SV
 m:Tb bP
 pin:List Nat
 want:List (List V)
 more:Bool
 yid:Nat
structure Gc where
 part:Bool
 go:Nat->List (List V)->List V->Option (List (List V))
structure Sys where
 E:Env
 N:Nat->FuncId
 items:FuncId->List V->List V->Option (List (List V))
 yM:FuncId->List V->Option V
 prm:FuncId->Option Gc
inductive Arg where
 | s (n:Nat)
 | k (c:V)
 | f (name:Nat)
inductive Loc where
 | s (n:Nat)
 | c (b i:Nat)
inductive Gh where
 | close (d:Nat)
 | closeB (d:Nat)
 | canon (l:Loc) (d:Nat) (es:Nat)
 | keep (gs ms:List Nat)
 | drop (ds:List Nat)
 | closeS (l:Loc)
structure RO where
 dst:Option Nat
 gd:Option (Nat×Bool)
 now:Bool
 k:K
 az:List Arg
 dead:List Nat:=[]
 pre:List Gh:=[]
inductive RC where
 | skip
 | ops (l:List RO)
 | oO (l:List RO)
 | seq (a b:RC)
 | cond (x:Arg) (a b:RC)
 | block (id:Nat) (c:RC)
 | loop (c:RC)
 | each (g:Arg) (ps:List Nat) (a b:RC)
 | exit (id:Nat)
 | ret
 | gh (x:Gh) (c:RC)
 | hg (c:RC) (x:Gh)
inductive RV where
 | s (n:Nat)
 | ld (n size:Nat) (agg:Bool)
structure RF where
 na:Nat
 rs:List RV
 body:RC
mutual
def SV.cR (d:Nat):SV->Bool
 | .v _=>false
 | .own e=>e==d
 | .ptr e _=>e==d
 | .el e _ _=>e==d
 | .mp e=>e==d
 | .clo _ a b=>SV.dH d a||SV.dH d b
 | .tup l=>SV.dH d l
 | .agg l=>SV.dH d l
 | .yl _=>false
def SV.dH (d:Nat):List SV->Bool
 | []=>false
 | x::r=>SV.cR d x||SV.dH d r
end
def bP.cR (d:Nat):bP->Bool
 | .box cs=>SV.dH d cs
 | _=>false
def uS (d:Nat):Tb SV->Bool
 | []=>false
 | (_,x)::r=>SV.cR d x||uS d r
def r_ (d:Nat):Tb bP->Bool
 | []=>false
 | (_,x)::r=>bP.cR d x||r_ d r
def St.new (st:St) (d:Nat):Bool := !(st.pin.contains d)&&(bk st.m d).isNone && !(uS d st.g) && !(r_ d st.m)
mutual
def SV.ud (d e:Nat):SV->SV
 | .v x=>.v x
 | .own k=>.own (if k=d then e else k)
 | .ptr k o=>.ptr (if k=d then e else k) o
 | .el k i o=>.el (if k=d then e else k) i o
 | .mp k=>.mp (if k=d then e else k)
 | .clo f a b=>.clo f (SV.uG d e a) (SV.uG d e b)
 | .tup l=>.tup (SV.uG d e l)
 | .agg l=>.agg (SV.uG d e l)
 | .yl id=>.yl id
def SV.uG (d e:Nat):List SV->List SV
 | []=>[]
 | x::r=>SV.ud d e x::SV.uG d e r
end
def bP.ud (d e:Nat):bP->bP
 | .box cs=>.box (SV.uG d e cs)
 | o=>o
def Bh (d e:Nat):Tb SV->Tb SV
 | []=>[]
 | (n,x)::r=>(n,x.ud d e)::Bh d e r
def vQ (d e:Nat):Tb bP->Tb bP
 | []=>[]
 | (n,x)::r=>((if n=d then e else n),x.ud d e)::vQ d e r
mutual
def SV.sub (d:Nat) (w:V):SV->SV
 | .own k=>if k=d then .v w else .own k
 | .clo f a b=>.clo f (SV.uE d w a) (SV.uE d w b)
 | .tup l=>.tup (SV.uE d w l)
 | .agg l=>.agg (SV.uE d w l)
 | x=>x
def SV.uE (d:Nat) (w:V):List SV->List SV
 | []=>[]
 | x::r=>SV.sub d w x::SV.uE d w r
end
def dG:List SV->Option (List V)
 | []=>some []
 | .v x::r=>(dG r).map (x::·)
 | _::_=>none
def NZ (f:FuncId) (a b:List SV):SV:=
 match dG a,dG b with
 | some x,some y=>.v (.clo f x y)
 | _,_=>.clo f a b
mutual
def SV.Bc (d:Nat) (cs:List V):SV->SV
 | .ptr k o=>if k=d then(if o<=cs.length then .v (.fptr (cs.drop o))else .ptr k o)else .ptr k o
 | .clo f a b=>NZ f (SV.qI d cs a) (SV.qI d cs b)
 | .tup l=>.tup (SV.qI d cs l)
 | .agg l=>.agg (SV.qI d cs l)
 | x=>x
def SV.qI (d:Nat) (cs:List V):List SV->List SV
 | []=>[]
 | x::r=>SV.Bc d cs x::SV.qI d cs r
end
def A5 (f:SV->SV):Tb SV->Tb SV
 | []=>[]
 | (n,x)::r=>(n,f x)::A5 f r
def mapM (f:List SV->List SV):Tb bP->Tb bP
 | []=>[]
 | (n,.box cs)::r=>(n,.box (f cs))::mapM f r
 | (n,o)::r=>(n,o)::mapM f r
mutual
def SV.names:SV->List Nat
 | .own d|.ptr d _|.el d _ _|.mp d=>[d]
 | .clo _ a b=>SV.vJ a++SV.vJ b
 | .tup l=>SV.vJ l
 | .agg l=>SV.vJ l
 | _=>[]
def SV.vJ:List SV->List Nat
 | []=>[]
 | x::r=>SV.names x++SV.vJ r
end
def oZ:Tb SV->List Nat
 | []=>[]
 | (_,x)::r=>SV.names x++oZ r
def nF (k:Fl) (es:Nat) (xs:List (List V)):V:=
 match k with
 | .nil=>.bH
 | .emp=>.c9
 | _=>.fsl es xs
mutual
def V.lvl:Nat->V->Bool
 | n,.fsl _ xs=>match n with|0=>false|n+1=>V.m_ n xs
 | n,.fptr cs=>match n with|0=>false|n+1=>V.c7 n cs
 | n,.fmap B=>match n with|0=>false|n+1=>V.oN n B
 | n,.agg cs=>match n with|0=>false|n+1=>V.c7 n cs
 | n,.tup cs=>match n with|0=>false|n+1=>V.c7 n cs
 | n,.clo _ a b=>match n with|0=>false|n+1=>V.c7 n a&&V.c7 n b
 | _,_=>true
def V.c7:Nat->List V->Bool
 | _,[]=>true
 | n,x::r=>V.lvl n x&&V.c7 n r
def V.m_:Nat->List (List V)->Bool
 | _,[]=>true
 | n,x::r=>V.c7 n x&&V.m_ n r
def V.oN:Nat->List (V×V)->Bool
 | _,[]=>true
 | n,(k,x)::r=>V.lvl n k&&V.lvl n x&&V.oN n r
end
mutual
def shut (m:Tb bP):Nat->SV->Option V
 | _,.v x=>some x
 | _,.own d=>match bk m d with
  | some (.sl k es xs)=>some (nF k es xs)
  | _=>none
 | n+1,.ptr d o=>match bk m d with
  | some (.box cs)=>match cG m n cs with
   | some xs=>if o<=xs.length then some (.fptr (xs.drop o))else none
   | none=>none
  | _=>none
 | _,.mp d=>match bk m d with
  | some (.mp B)=>some (.fmap B)
  | _=>none
 | n+1,.clo f a b=>match cG m n a,cG m n b with
  | some x,some y=>some (.clo f x y)
  | _,_=>none
 | n+1,.tup l=>(cG m n l).map .tup
 | n+1,.agg l=>(cG m n l).map .agg
 | _,_=>none
def cG (m:Tb bP):Nat->List SV->Option (List V)
 | _,[]=>some []
 | n,x::r=>match shut m n x,cG m n r with
  | some y,some s=>some (y::s)
  | _,_=>none
end
end Go.VE
namespace Go.VE
variable [bX]
mutual
def V.good:V->Bool
 | .hsl ..|.hptr ..|.yld ..|.hmap ..=>false
 | .fsl _ xs=>V.od xs
 | .fptr cs=>V.cE cs
 | .fmap B=>V.sB B
 | .clo _ a b=>V.cE a&&V.cE b
 | .agg cs=>V.cE cs
 | .tup cs=>V.cE cs
 | _=>true
def V.cE:List V->Bool
 | []=>true
 | x::r=>V.good x&&V.cE r
def V.od:List (List V)->Bool
 | []=>true
 | x::r=>V.cE x&&V.od r
def V.sB:List (V×V)->Bool
 | []=>true
 | (k,x)::r=>V.good k&&V.good x&&V.sB r
end
abbrev iV:=Tb bP
abbrev cq:=FuncId->List SV->iV->Option (List SV×iV)
def ql (N:Nat->FuncId) (g:Tb SV):Arg->Option SV
 | .s n=>bk g n
 | .k c=>some (.v c)
 | .f s=>some (.v (.clo (N s) [] []))
def bZ (N:Nat->FuncId) (g:Tb SV):List Arg->Option (List SV)
 | []=>some []
 | x::r=>match ql N g x,bZ N g r with
  | some v,some vs=>some (v::vs)
  | _,_=>none
def cF:Fl->Bool
 | .row|.part=>true
 | _=>false
def kY (m:Tb bP):SV->Bool
 | .own d|.ptr d _|.el d _ _|.mp d=>(bk m d).isSome
 | .clo ..=>true
 | _=>false
def wk (m:Tb bP):SV->Bool
 | .v x=>x.one
 | x=>kY m x
def xF (m:Tb bP):SV->Option (List SV)
 | .v x=>some (x.cells.map .v)
 | .agg l=>some l
 | x=>if kY m x then some [x]else none
def sq (m:Tb bP) (cells:List SV):List (Nat×Nat)->List SV->Option (List SV)
 | [],[]=>some cells
 | (off,size)::pl,v::vs=>match xF m v with
  | some c=>if c.length=size/\off+c.length<=cells.length then sq m (cells.take off++c++cells.drop (off+c.length)) pl vs else none
  | none=>none
 | _,_=>none
def vc (size:Nat) (agg:Bool) (cs:List SV):Option SV:=
 if cs.length=size then
  if agg then match dG cs with
   | some q=>some (.v (.agg q))
   | none=>some (.agg cs)
  else match cs with
   | [x]=>some x
   | _=>none
 else none
def wH (N:Nat->FuncId) (m:Tb bP):uP->List SV->Option SV
 | .id,[x]=>some x
 | .nilc,[.ptr d o]=>if(bk m d).isSome then some (.ptr d o)else none
 | .nilc,[.el d i o]=>if(bk m d).isSome then some (.el d i o)else none
 | .pick,[.v (.bool t),a,b]=>some (if t then a else b)
 | .bin (some .slice) _ .eql,[.own d,.v .bH]=>match bk m d with
  | some (.sl k _ _)=>if k=.emp then none else some (.v (.bool (k==.nil)))
  | _=>none
 | .bin (some .slice) _ .neq,[.own d,.v .bH]=>match bk m d with
  | some (.sl k _ _)=>if k=.emp then none else some (.v (.bool (!(k==.nil))))
  | _=>none
 | .fieldAddr off,[.ptr d o]=>if(bk m d).isSome then some (.ptr d (o+off))else none
 | .fieldAddr off,[.el d i o]=>if(bk m d).isSome then some (.el d i (o+off))else none
 | .idxS size,[.own d,.v (.int _ i)]=>match bk m d with
  | some (.sl k es xs)=>if cF k/\es=size/\0<=i/\i.toNat<xs.length then some (.el d i.toNat 0)else none
  | _=>none
 | .idxA len size,[.ptr d o,.v (.int _ i)]=>if 0<=i/\i<len/\(bk m d).isSome then some (.ptr d (o+i.toNat*size))else none
 | .idxA len size,[.el d j o,.v (.int _ i)]=>if 0<=i/\i<len/\(bk m d).isSome then some (.el d j (o+i.toNat*size))else none
 | .lenSl,[.own d]=>match bk m d with
  | some (.sl _ _ xs)=>some (.v (.int .i64 xs.length))
  | _=>none
 | .clo name k,vs=>some (.clo (N name) (vs.take k) (vs.drop k))
 | .ext i,[.tup l]=>l[i]?
 | .build zero pl,vs=>(sq m (zero.map .v) pl vs).map .agg
 | .field off size agg,[.agg l]=>vc size agg ((l.drop off).take size)
 | _,_=>none
def jl (N:Nat->FuncId) (m:Tb bP) (p:uP) (svs:List SV):Option SV:=
 match dG svs with
 | some q=>(bh N p q).map .v
 | none=>wH N m p svs
def JH (m:Tb bP) (d:Nat):SV->Bool
 | .ptr B _=>B != d&&(match bk m B with|some (.box _)=>true|_=>false)
 | .v (.fptr _)=>true
 | _=>false
def oT (m:Tb bP):Ii->List SV->Option SV
 | .load size agg,[.ptr d o]=>match bk m d with
  | some (.box cs)=>vc size agg ((cs.drop o).take size)
  | _=>none
 | .load size agg,[.el d i o]=>match bk m d with
  | some (.sl _ _ xs)=>match xs[i]? with
   | some cs=>((cut cs o size).bind (mk agg)).map .v
   | none=>none
  | _=>none
 | .load size agg,[.v p]=>((dY [] p size).bind (mk agg)).map .v
 | .lookup kk z ok,[.mp d,.v k]=>match bk m d with
  | some (.mp B)=>if pL kk k then match iL k B 0 with
   | some (some (_,v))=>some (.v (if ok then .tup [v,.bool true]else v))
   | some none=>some (.v (if ok then .tup [z,.bool false]else z))
   | none=>none
   else none
  | _=>none
 | .lookup kk z ok,[.v p,.v k]=>(eS [] (.lookup kk z ok) [p,k]).map .v
 | .loadF size agg,.ptr d o::l=>if l.all (JH m d)=true then match bk m d with
  | some (.box cs)=>vc size agg ((cs.drop o).take size)
  | _=>none
  else none
 | _,_=>none
def e_ (fr:List Nat):List SV->Bool
 | []=>true
 | .v _::r=>e_ fr r
 | .ptr d _::r => !(fr.contains d)&&e_ fr r
 | .el d _ _::r => !(fr.contains d)&&e_ fr r
 | .mp d::r => !(fr.contains d)&&e_ fr r
 | _=>false
def pE (m:Tb bP) (a:Lh) (svs:List SV) (d:Nat):Option (bP×SV):=
 match a,svs with
 | .alloc _ zero,[]=>some (.box (zero.map .v),.ptr d 0)
 | .box,[.v x]=>if x.cells.all V.one then some (.box (x.cells.map .v),.ptr d 0)else none
 | .box,[.agg l]=>if l.all (wk m)then some (.box l,.ptr d 0)else none
 | .box,[x]=>if kY m x then some (.box [x],.ptr d 0)else none
 | .makeSl size zero,[.v (.int k n),.v (.int t c)]=>
  if k=.i64/\t=.i64/\0<=n/\n<=c/\c<=2147483648 then some (.sl (if n=c then .row else .part) size (List.replicate n.toNat zero),.own d)else none
 | .buildSl size len zero idx,u=>match dG u with
  | some q=>if idx.length=q.length then(gE size (List.replicate len zero) (idx.zip q)).map λw=>(.sl .row size w,.own d)else none
  | none=>none
 | .makeMap,[]=>some (.mp [],.mp d)
 | _,_=>none
def kg (m:Tb bP) (size:Nat):SV->Option (List (List V))
 | .own d=>match bk m d with
  | some (.sl k es xs)=>if cF k then(if es=size then some xs else none)else some []
  | _=>none
 | .v .bH=>some []
 | .v .c9=>some []
 | .v (.fsl es xs)=>if es=size then some xs else none
 | _=>none
def Bw:SV->Bool
 | .own _|.v .bH|.v .c9=>true
 | _=>false
def putCells (m:Tb bP) (size o:Nat) (sv:SV) (cs:List SV):Option (List SV):=
 match sv with
 | .v x=>if x.cells.length=size/\o+size<=cs.length/\x.cells.all V.one=true then some (cs.take o++x.cells.map .v++cs.drop (o+size))else none
 | .agg l=>if l.length=size/\o+size<=cs.length/\l.all (wk m)=true then some (cs.take o++l++cs.drop (o+size))else none
 | x=>if kY m x=true/\size=1/\o+1<=cs.length then some (cs.take o++[x]++cs.drop (o+1))else none
def giveUp (m:Tb bP):SV->Tb bP
 | .own d=>en d m
 | _=>m
def jN (st:St) (dst:Option Nat):Il->List SV->Option (SV×St)
 | .store size,[.ptr d o,x]=>match bk st.m d with
  | some (.box cs)=>(putCells st.m size o x cs).map λcs=>(.v .undef,{ st with m:=bT st.m d (.box cs) })
  | _=>none
 | .store size,[.el d i o,.v x]=>match bk st.m d with
  | some (.sl k es xs)=>match xs[i]? with
   | some cs=>if x.cells.length=size/\o+size<=cs.length/\x.cells.all V.one=true then
    some (.v .undef,{ st with m:=bT st.m d (.sl k es (xs.set i (cs.take o++x.cells++cs.drop (o+x.cells.length)))) })else none
   | none=>none
  | _=>none
 | .mapUp kk,[.mp d,.v k,.v x]=>match bk st.m d with
  | some (.mp B)=>if pL kk k then(pG k x B).map λB=>(.v .undef,{ st with m:=bT st.m d (.mp B) })else none
  | _=>none
 | .append size,[s,x]=>match kg st.m size s,kg st.m size x with
  | some _,some []=>match dst with
   | some t=>match s with
    | .own d=>match bk st.m d with
     | some ob=>if St.new { st with m:=en d st.m } t then some (.own t,{ st with m:=bT (en d st.m) t ob })else none
     | none=>none
    | .v .bH=>if st.new t then some (.own t,{ st with m:=bT st.m t (.sl .nil size []) })else none
    | .v .c9=>if st.new t then some (.own t,{ st with m:=bT st.m t (.sl .emp size []) })else none
    | _=>none
   | none=>none
  | some xs,some ys=>
   if xs.length+ys.length<=2147483648/\Bw s=true then
    let m1:=giveUp st.m s
    match dst with
    | some t=>if St.new { st with m:=m1 } t then some (.own t,{ st with m:=bT m1 t (.sl .row size (xs++ys)) })else none
    | none=>none
   else none
  | _,_=>none
 | .storeF size,.ptr d o::x::l=>if l.all (JH st.m d)=true then match bk st.m d with
  | some (.box cs)=>(putCells st.m size o x cs).map λcs=>(.v .undef,{ st with m:=bT st.m d (.box cs) })
  | _=>none
  else none
 | _,_=>none
def yZ (st:St) (dst:Option Nat) (size:Nat) (B D:Bool) (d:Nat) (G:List SV):Option (SV×St):=
 match bk st.m d,dG G,dst with
 | some (.sl k es q),some w,some t=>
  if cF k=true/\es=size then
   (lC B D w).bind λ(l,h)=>(dN q.length l h).bind λ(l,h)=>
    let u:=en d st.m
    if St.new { st with m:=u } t then some (.own t,{ st with m:=bT u t (.sl .part es ((q.take h).drop l)) })else none
  else none
 | _,_,_=>none
def EY:List SV->SV
 | [x]=>x
 | l=>.tup l
def k_ (m:Tb bP):List SV->Option iV
 | []=>some []
 | .v _::r=>k_ m r
 | .own d::r=>match k_ m r,bk m d with
  | some os,some (.sl k es xs)=>some ((d,.sl k es xs)::os)
  | _,_=>none
 | .ptr d _::r=>match k_ m r,bk m d with
  | some os,some (.box cs)=>if(dG cs).isSome then some ((d,.box cs)::os)else none
  | _,_=>none
 | _=>none
def xL:bP->Bool
 | .box cs=>(dG cs).isSome
 | _=>true
def s_ (m':iV):List Nat->Tb bP->Option (Tb bP)
 | [],m=>some m
 | d::r,m=>match bk m' d with
  | some ob=>if xL ob then s_ m' r (bT m d ob)else none
  | none=>none
def nS (xs:List (List V)):Bool:=xs.all λx=>x.all V.scalar
def Dv (q:Gc) (dst:Option Nat) (args:List SV) (st:St):Option (SV×St):=
 match args with
 | .own d::z=>match bk st.m d,dG z with
  | some (.sl k es u),some A=>match q.go es u A with
   | some w=>if q.part then match dst with
    | some t=>if St.new { st with m:=en d st.m } t then some (.own t,{ st with m:=bT (en d st.m) t (if cF k then .sl .part es w else .sl k es u) })else none
    | none=>none
    else some (.v .undef,{ st with m:=bT st.m d (if cF k then .sl k es w else .sl k es u) })
   | none=>none
  | _,_=>none
 | _=>none
def rowsOf:List SV->Option (List Nat)
 | []=>some []
 | .v _::r=>rowsOf r
 | .own d::r=>(rowsOf r).map (d::·)
 | _=>none
def iY (S:Sys) (c:cq) (dst:Option Nat) (dr now:Bool) (old:List SV->Bool) (f:FuncId) (args:List SV) (st:St):Option (SV×St):=
 if S.E.keep f then
  if now then
   if S.E.own f then
    match cG st.m 8 args with
    | some az=>if V.c7 8 az then
     match c f (az.map .v) []with
     | some (rs,m')=>match dG rs with
      | some u=>if(result u).scalar then some (.v (result u),st)else none
      | none=>match rs,dst with
       | .own e::rest,some t=>match bk m' e,dG rest with
        | some (.sl .row es w),some u=>
         if V.cS u&&nS w&&st.new t then
          some (EY (.own t::u.map .v),{ st with m:=bT st.m t (.sl .row es w) })
         else none
        | some (.sl .nil es _),some u=>if V.cS u&&st.new t then some (EY (.own t::u.map .v),{ st with m:=bT st.m t (.sl .nil es []) })else none
        | some (.sl .emp es _),some u=>if V.cS u&&st.new t then some (EY (.own t::u.map .v),{ st with m:=bT st.m t (.sl .emp es []) })else none
        | _,_=>none
       | _,_=>none
     | none=>none
     else none
    | none=>none
   else if dr then none else match S.prm f with
    | some q=>Dv q dst args st
    | none=>match k_ st.m args with
    | some os=>match c f args os with
     | some (rs,m')=>match dG rs,s_ m' (os.map (·.1)) st.m with
      | some u,some z=>some (.v (result u),{ st with m:=z })
      | _,_=>none
     | none=>none
    | none=>none
  else none
 else match cG st.m 8 args with
  | some az=>if V.c7 8 az&&(now||old args)then
   match c f (az.map .v) []with
   | some (rs,m')=>match cG m' 8 rs with
    | some u=>if V.lvl 8 (result u)&&((result u).scalar||(dG args).isSome)then some (.v (result u),st)
     else if V.lvl 8 (result u)&&now then(rowsOf args).map λA=>(.v (result u),{ st with m:=nO A st.m })
     else none
    | none=>none
   | none=>none
   else none
  | none=>none
def ig (m:Tb bP) (fr:List Nat) (args:List SV):Bool:=fr.all λd => !(SV.dH d args) && !(r_ d m)
def Aw:K->Bool
 | .p (.build zero _)=>V.cE zero
 | .r (.lookup _ z _)=>z.good
 | .a (.alloc _ zero)=>V.cE zero&&zero.all V.one
 | .a (.makeSl _ zero)=>V.cE zero
 | .a (.buildSl _ _ zero _)=>V.cE zero
 | _=>true
def mm (S:Sys) (c:cq) (dr:Bool) (fr:List Nat) (o:RO) (st:St):Option (SV×St):=
 match bZ S.N st.g o.az with
 | some q=>match o.k with
  | .p (.slice size u w)=>match q with
   | .own d::z=>if dr then none else yZ st o.dst size u w d z
   | q=>(jl S.N st.m (.slice size u w) q).map λx=>(x,st)
  | .p p=>(jl S.N st.m p q).map λx=>(x,st)
  | .r r=>if !dr||o.now||e_ fr q then(oT st.m r q).map λx=>(x,st)else none
  | .a a=>match o.dst with
   | some d=>if st.new d then(pE st.m a q d).map λ(ob,x)=>(x,{ st with m:=bT st.m d ob })else none
   | none=>none
  | .l l=>if !dr||o.now then jN st o.dst l q else none
  | .c=>match q with
   | .clo f a b::t=>iY S c o.dst dr (!dr||o.now) (ig st.m fr) f (a++t++b) st
   | .v (.clo f a b)::t=>iY S c o.dst dr (!dr||o.now) (ig st.m fr) f (a.map .v++t++b.map .v) st
   | _=>none
  | .e n=>match q with
   | [.v .bH,x]=>jN st o.dst (.append n) [.v .bH,x]
   | [.v .c9,x]=>jN st o.dst (.append n) [.v .c9,x]
   | _=>none
 | none=>none
def cZ (st:St) (dst:Option Nat) (x:SV):St:=
 match dst with
 | none=>st
 | some d=>{ st with g:=bT st.g d x }
def wanted (g:Tb SV):Option (Nat×Bool)->Option Bool
 | none=>some true
 | some (s,b)=>match bk g s with
  | some (.v (.bool c))=>some (c==b)
  | some (.v _)=>some false
  | _=>none
def yw (o:RO):Option Nat:=
 match o.k with
 | .p _|.r _=>none
 | _=>o.dst
def qD (fr:List Nat) (o:RO):List Nat:=
 match yw o with
 | some d=>d::fr
 | none=>fr
end Go.VE
namespace Go.VE
variable [bX]
def bp (H:bl) (id:Nat):Option (Nat×List (List V)):=(H[id]?).bind Ob.rows
mutual
theorem V.lI:∀{x:V},x.good=true->x.closed=true
 | .hsl ..,h|.hptr ..,h|.yld _,h|.hmap _,h=>by simp[V.good]at h
 | .fsl ..,_|.fptr ..,_|.fmap ..,_=>rfl
 | .bool _,_|.int ..,_|.str _,_|.c9,_|.bH,_|.gV,_|.gw,_|.rI,_=>rfl
 | .clo _ a b,h=>by
  simp only[V.good,ζh]at h;simp only[V.closed,ζh];exact⟨V.nq h.1,V.nq h.2⟩
 | .agg cs,h=>by simp only[V.good]at h;simp only[V.closed];exact V.nq h
 | .tup cs,h=>by simp only[V.good]at h;simp only[V.closed];exact V.nq h
theorem V.nq:∀{l:List V},V.cE l=true->V.kR l=true
 | [],_=>rfl
 | x::r,h=>by
  simp only[V.cE,ζh]at h;simp only[V.kR,ζh];exact⟨V.lI h.1,V.nq h.2⟩
end
theorem iu:∀{l:List V},V.cE l=true↔∀(j:Nat) u,l[j]? = some u->u.good=true
 | []=>by simp[V.cE]
 | x::l=>by
  simp[V.cE,iu ];constructor
  .grind
  .intro h;exact⟨h 0 x rfl,λj u hu=>h (j+1) u (by grind)⟩
theorem lH:∀{l:List (List V)},V.od l=true↔∀(j:Nat) u,l[j]? = some u->V.cE u=true
 | []=>by simp[V.od]
 | x::l=>by
  simp[V.od,lH ];constructor
  .grind
  .intro h;exact⟨h 0 x rfl,λj u hu=>h (j+1) u (by grind)⟩
theorem DQ:∀{l:List (V×V)},V.sB l=true↔∀(j:Nat) u,l[j]? = some u->u.1.good=true/\u.2.good=true
 | []=>by simp[V.sB]
 | (k,x)::l=>by
  simp only[V.sB,ζh,DQ ];constructor
  .grind
  .intro h;exact⟨h 0 (k,x) rfl,λj u hu=>h (j+1) u (by grind)⟩
theorem xY {l:List V} (n:Nat) (h:V.cE l=true):V.cE (l.drop n)=true:=
 iu.2 λj u hu=>iu.1 h (n+j) u (by grind)
inductive FR (H:bl) (Z:Nat->Prop):V->V->Prop
 | same (x:V) (h:x.good=true):FR H Z x x
 | fsl (es:Nat) (xs:List (List V)) (id off:Nat) (ys:List (List V)) (hz:Z id) (hr:bp H id=some (es,ys)) (hl:off+xs.length<=ys.length)
  (hc:∀(i:Nat) a b,xs[i]? = some a->ys[off+i]? = some b->a.length=b.length)
  (hv:∀(i j:Nat) a b u v,xs[i]? = some a->ys[off+i]? = some b->a[j]? = some u->b[j]? = some v->FR H Z u v):FR H Z (.fsl es xs) (.hsl id es off xs.length)
 | fptr (xs:List V) (id el off es:Nat) (ys:List (List V)) (cs:List V) (hz:Z id) (hr:bp H id=some (es,ys)) (he:ys[el]? = some cs) (ho:off<=cs.length) (hx:xs.length=cs.length-off)
  (hv:∀(j:Nat) u v,xs[j]? = some u->cs[off+j]? = some v->FR H Z u v):FR H Z (.fptr xs) (.hptr id el off)
 | clo (f:FuncId) (a b a' b':List V) (ha:a.length=a'.length) (hb:b.length=b'.length) (hva:∀(j:Nat) u v,a[j]? = some u->a'[j]? = some v->FR H Z u v) (hvb:∀(j:Nat) u v,b[j]? = some u->b'[j]? = some v->FR H Z u v):FR H Z (.clo f a b) (.clo f a' b')
 | agg (a a':List V) (ha:a.length=a'.length) (hva:∀(j:Nat) u v,a[j]? = some u->a'[j]? = some v->FR H Z u v):FR H Z (.agg a) (.agg a')
 | tup (a a':List V) (ha:a.length=a'.length) (hva:∀(j:Nat) u v,a[j]? = some u->a'[j]? = some v->FR H Z u v):FR H Z (.tup a) (.tup a')
def di (H:bl) (Z:Nat->Prop) (xs ys:List V):Prop:=xs.length=ys.length/\∀(j:Nat) u v,xs[j]? = some u->ys[j]? = some v->FR H Z u v
def gC (H:bl) (Z:Nat->Prop) (xs ys:List (List V)):Prop:=xs.length=ys.length/\∀(j:Nat) u v,xs[j]? = some u->ys[j]? = some v->di H Z u v
section
variable {H H':bl} {Z Z':Nat->Prop}
theorem FR.mono (h:∀id,Z id->Z' id/\bp H' id=bp H id) {x y:V} (r:FR H Z x y):FR H' Z' x y:=by
 induction r with
 | same x h=>exact .same x h
 | fsl es w id off z A hr D hc hv B=>exact .fsl es w id off z (h id A).1 (by grind) D hc B
 | fptr w id el off es z G A hr I J L hv B=>exact .fptr w id el off es z G (h id A).1 (by grind) I J L B
 | clo f a b t O u Q hva S q C=>exact .clo f a b t O u Q q C
 | agg a t u hva q=>exact .agg a t u q
 | tup a t u hva q=>exact .tup a t u q
theorem di.mono (h:∀id,Z id->Z' id/\bp H' id=bp H id) {x y:List V} (r:di H Z x y):di H' Z' x y:=⟨r.1,λj u v a b=>(r.2 j u v a b).mono h⟩
theorem gC.mono (h:∀id,Z id->Z' id/\bp H' id=bp H id) {x y:List (List V)} (r:gC H Z x y):gC H' Z' x y:=⟨r.1,λj u v a b=>(r.2 j u v a b).mono h⟩
theorem di.nil:di H Z [] []:=⟨rfl,by simp⟩
theorem di.cons {x y:V} {xs ys:List V} (h:FR H Z x y) (r:di H Z xs ys):di H Z (x::xs) (y::ys):=by
 refine⟨by simp[r.1],λj u v hu hv=>?_⟩
 cases j with
 | zero=>grind
 | succ j=>exact r.2 j u v (by grind) (by grind)
theorem di.inv {x:V} {xs B:List V} (r:di H Z (x::xs) B):∃y ys,B=y::ys/\FR H Z x y/\di H Z xs ys:=by
 cases B with
 | nil=>have:=r.1;grind
 | cons y ys=>
  refine⟨y,ys,rfl,r.2 0 x y rfl rfl,by have:=r.1;grind,λj u v hu hv=>r.2 (j+1) u v (by grind) (by grind)⟩
theorem di.cU {B:List V} (r:di H Z [] B):B=[]:=by
 have:=r.1
 grind
theorem di.get {xs ys:List V} (r:di H Z xs ys) {j:Nat} {u:V} (h:xs[j]? = some u):∃v,ys[j]? = some v/\FR H Z u v:=by
 have q  := (ζe.1 h).1;have:j<ys.length:=by rw[<-r.1];omega
 exact⟨ys[j],ζd this,r.2 j u _ h (ζd this)⟩
theorem gC.get {xs ys:List (List V)} (r:gC H Z xs ys) {j:Nat} {u:List V} (h:xs[j]? = some u):∃v,ys[j]? = some v/\di H Z u v:=by
 have q  := (ζe.1 h).1;have:j<ys.length:=by rw[<-r.1];omega
 exact⟨ys[j],ζd this,r.2 j u _ h (ζd this)⟩
theorem di.append {a b c d:List V} (h:di H Z a b) (k:di H Z c d):di H Z (a++c) (b++d):=by
 refine⟨by simp[h.1,k.1],λj u v hu hv=>?_⟩
 by_cases q:j<a.length
 .rw[List.getElem?_append_left q]at hu;rw[List.getElem?_append_left (by rw[<-h.1];omega)]at hv
  exact h.2 j u v hu hv
 .rw[List.getElem?_append_right (by omega)]at hu
  rw[List.getElem?_append_right (by rw[<-h.1];omega),<-h.1]at hv
  exact k.2 _ u v hu hv
theorem gC.append {a b c d:List (List V)} (h:gC H Z a b) (k:gC H Z c d):gC H Z (a++c) (b++d):=by
 refine⟨by simp[h.1,k.1],λj u v hu hv=>?_⟩
 by_cases q:j<a.length
 .rw[List.getElem?_append_left q]at hu;rw[List.getElem?_append_left (by rw[<-h.1];omega)]at hv
  exact h.2 j u v hu hv
 .rw[List.getElem?_append_right (by omega)]at hu
  rw[List.getElem?_append_right (by rw[<-h.1];omega),<-h.1]at hv
  exact k.2 _ u v hu hv
theorem di.take {a b:List V} (h:di H Z a b) (n:Nat):di H Z (a.take n) (b.take n):=by
 refine⟨by simp[h.1],λj u v hu hv=>?_⟩
 rw[List.getElem?_take]at hu hv;split at hu
 .rename_i q;rw[if_pos q]at hv;exact h.2 j u v hu hv
 grind
theorem di.drop {a b:List V} (h:di H Z a b) (n:Nat):di H Z (a.drop n) (b.drop n):=by
 refine⟨by simp[h.1],λj u v hu hv=>?_⟩
 rw[List.getElem?_drop]at hu hv;exact h.2 _ u v hu hv
theorem gC.take {a b:List (List V)} (h:gC H Z a b) (n:Nat):gC H Z (a.take n) (b.take n):=by
 refine⟨by simp[h.1],λj u v hu hv=>?_⟩
 rw[List.getElem?_take]at hu hv;split at hu
 .rename_i q;rw[if_pos q]at hv;exact h.2 j u v hu hv
 grind
theorem gC.drop {a b:List (List V)} (h:gC H Z a b) (n:Nat):gC H Z (a.drop n) (b.drop n):=by
 refine⟨by simp[h.1],λj u v hu hv=>?_⟩
 rw[List.getElem?_drop]at hu hv;exact h.2 _ u v hu hv
theorem di.set {a b:List V} (h:di H Z a b) (n:Nat) {x y:V} (B:FR H Z x y):di H Z (a.set n x) (b.set n y):=by
 refine⟨by simp[h.1],λj u v hu hv=>?_⟩
 rw[List.getElem?_set]at hu hv;split at hu
 .grind
 .rename_i e;rw[if_neg e]at hv;exact h.2 j u v hu hv
theorem gC.set {a b:List (List V)} (h:gC H Z a b) (n:Nat) {x y:List V} (B:di H Z x y):gC H Z (a.set n x) (b.set n y):=by
 refine⟨by simp[h.1],λj u v hu hv=>?_⟩
 rw[List.getElem?_set]at hu hv;split at hu
 .grind
 .rename_i e;rw[if_neg e]at hv;exact h.2 j u v hu hv
theorem di.same {l:List V} (h:V.cE l=true):di H Z l l:=
 ⟨rfl,λj u v hu hv=>by rw[hu]at hv;cases hv;exact .same u (iu.1 h j u hu)⟩
theorem FR.good {x y:V} (r:FR H Z x y):x.good=true:=by
 induction r with
 | same x h=>omega
 | fsl es z id off A B hr I hc hv C=>
  refine lH.2 λi a t=>iu.2 λj u hu=>?_
  grind
 | fptr z id el off es A J B hr L O Q hv C=>
  refine iu.2 λj u hu=>?_
  grind
 | clo f a b w S t T hva D q G=>
  simp[V.good];refine⟨iu.2 λj u hu=>?_,iu.2 λj u hu=>?_⟩
  .grind
  grind
 | agg a w t hva q=>
  refine iu.2 λj u hu=>?_
  grind
 | tup a w t hva q=>
  simp[V.good];refine iu.2 λj u hu=>?_
  grind
theorem FR.closed {x y:V} (r:FR H Z x y):x.closed=true:=V.lI r.good
theorem di.good {xs ys:List V} (r:di H Z xs ys):V.cE xs=true:=
 iu.2 λj u hu=>by obtain⟨v,_,h⟩:=r.get hu;exact h.good
theorem gC.good {xs ys:List (List V)} (r:gC H Z xs ys):V.od xs=true:=
 lH.2 λj u hu=>by obtain⟨v,_,h⟩:=r.get hu;exact h.good
theorem FR.bool {b:Bool} {y:V} (r:FR H Z (.bool b) y):y=.bool b:=by cases r;rfl
theorem FR.int {k:IntKind} {n:Int} {y:V} (r:FR H Z (.int k n) y):y=.int k n:=by cases r;rfl
theorem FR.str {s:ByteArray} {y:V} (r:FR H Z (.str s) y):y=.str s:=by cases r;rfl
theorem FR.c9 {y:V} (r:FR H Z .c9 y):y=.c9:=by cases r;rfl
theorem FR.bH {y:V} (r:FR H Z .bH y):y=.bH:=by cases r;rfl
theorem FR.gV {y:V} (r:FR H Z .gV y):y=.gV:=by cases r;rfl
theorem FR.gw {y:V} (r:FR H Z .gw y):y=.gw:=by cases r;rfl
theorem FR.rI {y:V} (r:FR H Z .rI y):y=.rI:=by cases r;rfl
theorem FR.fmap {B:List (V×V)} {y:V} (r:FR H Z (.fmap B) y):y=.fmap B:=by cases r;rfl
theorem FR.iK {a:List V} {y:V} (r:FR H Z (.agg a) y):∃a',y=.agg a'/\di H Z a a':=by
 cases r with
 | same _ h=>exact⟨a,rfl,.same (by simpa [V.good]using h)⟩
 | agg _ a' q hva=>exact⟨a',rfl,q,hva⟩
theorem FR.pU {a:List V} {y:V} (r:FR H Z (.tup a) y):∃a',y=.tup a'/\di H Z a a':=by
 cases r with
 | same _ h=>exact⟨a,rfl,.same (by simpa [V.good]using h)⟩
 | tup _ a' q hva=>exact⟨a',rfl,q,hva⟩
theorem FR.kP {f:FuncId} {a b:List V} {y:V} (r:FR H Z (.clo f a b) y):∃a' B,y=.clo f a' B/\di H Z a a'/\di H Z b B:=by
 cases r with
 | same _ h=>
  simp[V.good]at h;exact⟨a,b,rfl,.same h.1,.same h.2⟩
 | clo _ _ _ a' B t u hva q=>exact⟨a',B,rfl,⟨t,hva⟩,⟨u,q⟩⟩
theorem FR.lX {es:Nat} {xs:List (List V)} {y:V} (r:FR H Z (.fsl es xs) y):y=.fsl es xs \/
 ∃id off ys,y=.hsl id es off xs.length/\Z id/\bp H id=some (es,ys)/\off+xs.length<=ys.length/\gC H Z xs ((ys.drop off).take xs.length):=by
 cases r with
 | same _ h=>grind
 | fsl _ _ id off ys w hr z hc hv=>
  refine .inr ⟨id,off,ys,rfl,w,hr,z,by simp;omega,λj u v hu q=>?_⟩
  have A  := (ζe.1 hu).1;rw[List.getElem?_take,if_pos A,List.getElem?_drop]at q;exact⟨hc j u v hu q,λi s t B C=>hv j i u v s t hu q B C⟩
theorem FR.KJ {es:Nat} {xs:List (List V)} {id off:Nat} {ys:List (List V)} (B:Z id) (hr:bp H id=some (es,ys)) (D:off+xs.length<=ys.length) (h:gC H Z xs ((ys.drop off).take xs.length)) :
 FR H Z (.fsl es xs) (.hsl id es off xs.length):=by
 have key:∀(i:Nat) a b,xs[i]? = some a->ys[off+i]? = some b->di H Z a b:=λi a b q t=>by
  refine h.2 i a b q ?_
  grind
 exact .fsl es xs id off ys B hr D (λi a b q t=>(key i a b q t).1) (λi j a b u v q t hu hv=>(key i a b q t).2 j u v hu hv)
theorem FR.lZ {xs:List V} {y:V} (r:FR H Z (.fptr xs) y):y=.fptr xs \/
 ∃id el off es ys cs,y=.hptr id el off/\Z id/\bp H id=some (es,ys)/\ys[el]? = some cs/\off<=cs.length/\di H Z xs (cs.drop off):=by
 cases r with
 | same _ h=>grind
 | fptr _ id el off es ys cs q hr t w A hv=>
  refine .inr ⟨id,el,off,es,ys,cs,rfl,q,hr,t,w,by simp_all,λj u v hu z=>?_⟩
  grind
theorem FR.BG {xs:List V} {id el off es:Nat} {ys:List (List V)} {cs:List V} (B:Z id) (hr:bp H id=some (es,ys)) (D:ys[el]? = some cs) (G:off<=cs.length) (h:di H Z xs (cs.drop off)):FR H Z (.fptr xs) (.hptr id el off):=
 .fptr xs id el off es ys cs B hr D G (by have:=h.1;grind) (λj u v hu hv=>h.2 j u v hu (by grind))
theorem FR.cells {x y:V} (r:FR H Z x y):di H Z x.cells y.cells:=by
 have one:∀{a b:V},FR H Z a b->di H Z [a] [b]:=λh=>.cons h .nil
 cases r with
 | same _ h=>cases x <;> first|exact one (.same _ h)|(exact di.same h)
 | fsl es u id off w z hr B hc hv=>exact one (.fsl es u id off w z hr B hc hv)
 | fptr u id el off es w C z hr D G I hv=>exact one (.fptr u id el off es w C z hr D G I hv)
 | clo f a b t J q L hva A=>exact one (.clo f a b t J q L hva A)
 | agg a t q hva=>exact⟨q,hva⟩
 | tup a t q hva=>exact one (.tup a t q hva)
theorem FR.one {x y:V} (r:FR H Z x y):y.one=x.one:=by cases r <;> rfl
theorem di.one:∀{xs ys:List V},di H Z xs ys->ys.all V.one=xs.all V.one
 | [],ys,r=>by rw[r.cU]
 | x::xs,D,r=>by
  obtain⟨y,ys,rfl,h,B⟩:=r.inv;simp[h.one,B.one]
theorem qz:∀{l:List V},V.cS l=true↔∀(j:Nat) u,l[j]? = some u->u.scalar=true
 | []=>by simp[V.cS]
 | x::l=>by
  simp[V.cS,qz ];constructor
  .grind
  .intro h;exact⟨h 0 x rfl,λj u hu=>h (j+1) u (by grind)⟩
theorem FR.scalar {x y:V} (r:FR H Z x y):(x.scalar=true->y=x)/\y.scalar=x.scalar:=by
 have key:∀(a q:List V),a.length=q.length->(∀(j:Nat) u v,a[j]? = some u->q[j]? = some v->(u.scalar=true->v=u)/\v.scalar=u.scalar)->(V.cS a=true->q=a)/\V.cS q=V.cS a:=by
  intro a q w B;have h1:V.cS a=true->q=a:=by
   intro C;refine(List.ext_getElem w λj h1 z=>?_).symm
   exact(((B j _ _ (ζd h1) (ζd z)).1 (qz.1 C j _ (ζd h1)))).symm
  refine⟨h1,?_⟩
  cases C:V.cS a with
  | true=>grind
  | false=>
   cases A:V.cS q with
   | false=>rfl
   | true=>
    have:V.cS a=true:=qz.2 λj u hu=>by
     have D:j<q.length:=by grind
     have:=(B j u _ hu (ζd D)).2;rw[<-this];exact qz.1 A j _ (ζd D)
    grind
 induction r with
 | same x h=>grind
 | fsl=>exact⟨λh=>by simp[V.scalar]at h,rfl⟩
 | fptr=>exact⟨λh=>by simp[V.scalar]at h,rfl⟩
 | clo=>exact⟨λh=>by simp[V.scalar]at h,rfl⟩
 | agg a q w hva t=>
  obtain⟨h1,z⟩:=key a q w t;exact⟨λh=>by rw[h1 (by simpa [V.scalar]using h)],by simpa [V.scalar]using z⟩
 | tup a q w hva t=>
  obtain⟨h1,z⟩:=key a q w t;exact⟨λh=>by rw[h1 (by simpa [V.scalar]using h)],by simpa [V.scalar]using z⟩
theorem di.scalar {a a':List V} (r:di H Z a a'):(V.cS a=true->a'=a)/\V.cS a'=V.cS a:=by
 obtain⟨h1,q⟩:=FR.scalar (.tup a a' r.1 r.2);simp[V.scalar]at h1 q
 grind
theorem qH:∀{l:List V} {a:List Int},iC l=some a->V.cS l=true
 | [],_,_=>rfl
 | x::l,a,h=>by
  unfold iC at h;split at h
  .grind
  .rename_i n r e;cases e;obtain⟨b,B,_⟩:=ζf.1 h;simp[V.cS,V.scalar];exact qH B
  grind
end
end Go.VE
namespace Go.VE
variable [bX]
mutual
theorem mW:∀{x:V},x.scalar=true->x.good=true
 | .bool _,_|.int ..,_|.str _,_|.gV,_|.gw,_|.rI,_|.c9,_|.bH,_=>rfl
 | .agg cs,h=>by simp only[V.scalar]at h;simp only[V.good];exact pP h
 | .tup cs,h=>by simp only[V.scalar]at h;simp only[V.good];exact pP h
 | .fsl ..,h|.hsl ..,h|.fptr ..,h|.hptr ..,h|.clo ..,h|.yld _,h|.fmap _,h|.hmap _,h=>by simp[V.scalar]at h
theorem pP:∀{l:List V},V.cS l=true->V.cE l=true
 | [],_=>rfl
 | x::r,h=>by
  simp only[V.cS,ζh]at h;simp only[V.cE,ζh];exact⟨mW h.1,pP h.2⟩
end
section
variable {H H':bl} {Z Z':Nat->Prop}
theorem kV {f:V->Option V}:∀{xs ys:List V},xs.length=ys.length->(∀(j:Nat) u v,xs[j]? = some u->ys[j]? = some v->f v=some u)->ko f ys=some xs
 | [],[],_,_=>rfl
 | [],y::ys,h,_=>by simp_all
 | x::xs,[],h,_=>by simp_all
 | x::xs,y::ys,h,B=>by
  simp[ko,B 0 x y rfl rfl,kV (xs:=xs) (ys:=ys) (by grind) λj u v hu hv=>B (j+1) u v (by grind) (by grind)]
theorem FJ {f:V->Option V}:∀{xs ys:List (List V)},xs.length=ys.length->(∀(j:Nat) u v,xs[j]? = some u->ys[j]? = some v->ko f v=some u)->tP f ys=some xs
 | [],[],_,_=>rfl
 | [],y::ys,h,_=>by simp_all
 | x::xs,[],h,_=>by simp_all
 | x::xs,y::ys,h,B=>by
  simp[tP,B 0 x y rfl rfl,FJ (xs:=xs) (ys:=ys) (by grind) λj u v hu hv=>B (j+1) u v (by grind) (by grind)]
theorem ox:∀{l:List V},V.kR l=true↔∀(j:Nat) u,l[j]? = some u->u.closed=true
 | []=>by simp[V.kR]
 | x::l=>by
  simp[V.kR,ox ];constructor
  .grind
  .intro h;exact⟨h 0 x rfl,λj u hu=>h (j+1) u (by grind)⟩
theorem nQ:∀{l:List V} {n:Nat},V.c7 n l=true↔∀(j:Nat) u,l[j]? = some u->u.lvl n=true
 | [],n=>by simp[V.c7]
 | x::l,n=>by
  simp[V.c7,nQ ];constructor
  .grind
  .intro h;exact⟨h 0 x rfl,λj u hu=>h (j+1) u (by grind)⟩
theorem EB:∀{l:List (List V)} {n:Nat},V.m_ n l=true↔∀(j:Nat) u,l[j]? = some u->V.c7 n u=true
 | [],n=>by simp[V.m_]
 | x::l,n=>by
  simp[V.m_,EB ];constructor
  .grind
  .intro h;exact⟨h 0 x rfl,λj u hu=>h (j+1) u (by grind)⟩
theorem ez (n:Nat) (H:bl) {x:V} (h:x.closed=true):borrow n H x=some x:=by
 cases n <;> simp[borrow,h]
theorem FR.borrow {x y:V} (r:FR H Z x y):∀n,x.lvl n=true->borrow n H y=some x:=by
 induction r with
 | same x h=>exact λn _=>ez n H (V.lI h)
 | fsl es G id off S T hr U hc hv I=>
  intro n w
  cases n with
  | zero=>simp[V.lvl]at w
  | succ n=>
   unfold Go.VE.borrow;unfold bp at hr;simp only[V.closed,Bool.false_eq_true,if_false,hr,true_and,if_pos U,ζf];refine⟨G,FJ (by simp;omega) λj u v hu z=>?_,rfl⟩
   have W  := (ζe.1 hu).1;rw[List.getElem?_take,if_pos W,List.getElem?_drop]at z;refine kV (hc j u v hu z) λi s t L X=>I j i u v s t hu z L X n (nQ.1 (EB.1 w j u hu) i s L)
 | fptr G id el off es S cs T hr Y ho hx hv I=>
  intro n w
  cases n with
  | zero=>simp[V.lvl]at w
  | succ n=>
   unfold Go.VE.borrow;unfold bp at hr;simp only[V.closed,Bool.false_eq_true,if_false,hr,Y,if_pos ho,ζf];refine⟨G,kV (by simp_all) λj u v hu z=>?_,rfl⟩
   rw[List.getElem?_drop]at z;exact I j u v hu z n (nQ.1 w j u hu)
 | clo f a b B O C Q hva aa A D=>
  intro n w
  cases n with
  | zero=>simp[V.lvl]at w
  | succ n=>
   simp[V.lvl]at w
   by_cases q:(V.clo f B O).closed=true
   .rw[ez _ _ q];simp[V.closed]at q;have e1:B=a:=by
     have:=kV  C λj u v hu hv=>A j u v hu hv n (nQ.1 w.1 j u hu)
     have J:=kV    rfl λj u v hu hv=>by rw[hu]at hv;cases hv;exact ez n H (ox.1 q.1 j u hu)
     grind
    have e2:O=b:=by
     have:=kV  Q λj u v hu hv=>D j u v hu hv n (nQ.1 w.2 j u hu)
     have J:=kV    rfl λj u v hu hv=>by rw[hu]at hv;cases hv;exact ez n H (ox.1 q.2 j u hu)
     grind
    simp_all
   .unfold Go.VE.borrow;rw[if_neg q];simp[kV  C λj u v hu hv=>A j u v hu hv n (nQ.1 w.1 j u hu),kV  Q λj u v hu hv=>D j u v hu hv n (nQ.1 w.2 j u hu)]
 | agg a B C hva A=>
  intro n w
  cases n with
  | zero=>simp[V.lvl]at w
  | succ n=>
   have hm:=kV  C λj u v hu hv=>A j u v hu hv n (nQ.1 w j u hu)
   by_cases q:(V.agg B).closed=true
   .rw[ez _ _ q];have J:=kV    rfl λj u v hu hv=>by rw[hu]at hv;cases hv;exact ez n H (ox.1 q j u hu)
    grind
   .unfold Go.VE.borrow
    grind
 | tup a B C hva A=>
  intro n w
  cases n with
  | zero=>simp[V.lvl]at w
  | succ n=>
   have hm:=kV  C λj u v hu hv=>A j u v hu hv n (nQ.1 w j u hu)
   by_cases q:(V.tup B).closed=true
   .rw[ez _ _ q];have J:=kV    rfl λj u v hu hv=>by rw[hu]at hv;cases hv;exact ez n H (ox.1 q j u hu)
    grind
   .unfold Go.VE.borrow
    grind
theorem o5 {f:V->List Nat} {k:Nat}:∀{l:List V},k∈dx f l->∃(j:Nat) (u:V),l[j]? = some u/\k∈f u
 | [],h=>by simp[dx]at h
 | x::l,h=>by
  simp[dx]at h;rcases h with h|h
  .exact⟨0,x,rfl,h⟩
  .obtain⟨j,u,hu,hk⟩:=o5 h;exact⟨j+1,u,by grind,hk⟩
structure Deep (H:bl) (Z:Nat->Prop):Prop where
 row:∀id es ys,Z id->bp H id=some (es,ys)->∀c∈ys,∀u∈c,∃x,FR H Z x u
theorem FR.cr (D:Deep H Z):∀(n:Nat) {x y:V},FR H Z x y->∀k∈cr n H y,Z k
 | 0,x,y,r,k,hk=>by simp[Go.VE.cr]at hk
 | n+1,x,y,r,k,hk=>by
  unfold Go.VE.cr at hk;split at hk
  .simp_all
  .rename_i G;have B:∀(a a':List V),di H Z a a'->k∈dx (Go.VE.cr n H) a'->Z k:=λa a' h hk=>by
    obtain⟨j,u,hu,q⟩:=o5 hk;have L:j<a.length:=by rw[h.1];grind
    exact FR.cr D n (h.2 j _ u (ζd L) hu) k q
   have row:∀(id:Nat),Z id->k∈(match (H[id]?).bind Ob.rows with|some (_,w)=>dx (Go.VE.cr n H) w.flatten|none=>[])->Z k:=λid z hk=>by
    split at hk
    .rename_i es A hr;obtain⟨j,u,hu,q⟩:=o5 hk;have O  := List.mem_of_getElem? hu;obtain⟨c,hc,C⟩:=List.mem_flatten.1 O;obtain⟨x,J⟩:=D.row id es A z hr c hc u C;exact FR.cr D n J k q
    grind
   cases r with
   | same _ h=>exact absurd (V.lI h) G
   | fsl es w id off A z hr T hc hv=>
    grind
   | fptr w id el off es A U z hr W X J hv=>
    grind
   | clo f a b a' Q t S hva I=>
    simp  at hk;rcases hk with hk|hk
    .exact B a a' ⟨t,hva⟩ hk
    .exact B b Q ⟨S,I⟩ hk
   | agg a a' t hva=>exact B a a' ⟨t,hva⟩ hk
   | tup a a' t hva=>exact B a a' ⟨t,hva⟩ hk
theorem di.cut {cs ys r:List V} {off n:Nat} (h:di H Z cs ys) (hc:cut cs off n=some r):∃B,Go.VE.cut ys off n=some B/\di H Z r B:=by
 unfold Go.VE.cut at hc ⊢;have q:=(h.drop off).take n;dsimp only at hc ⊢;split at hc
 .simp  at hc;subst hc;exact⟨_,by rw[if_pos (by rw[<-q.1];omega)],q⟩
 grind
theorem di.mk {agg:Bool} {cs ys:List V} {x:V} (h:di H Z cs ys) (B:mk agg cs=some x):∃y,Go.VE.mk agg ys=some y/\FR H Z x y:=by
 unfold Go.VE.mk at B ⊢;split at B
 .simp  at B;subst B;exact⟨_,by grind,.agg _ _ h.1 h.2⟩
 .split at B
  .simp  at B;obtain⟨y,ys,rfl,h1,q⟩:=h.inv;rw[q.cU]
   grind
  grind
theorem di.fill:∀{pl:List (Nat×Nat)} {vs B cells cells' r:List V},di H Z cells cells'->di H Z vs B->kB cells pl vs=some r->∃D,kB cells' pl B=some D/\di H Z r D
 | [],vs,B,cells,cells',r,hc,hv,h=>by
  cases vs with
  | nil=>rw[hv.cU];simp[kB]at h ⊢;grind
  | cons v vs=>simp[kB]at h
 | (off,size)::pl,vs,B,cells,cells',r,hc,hv,h=>by
  cases vs with
  | nil=>simp[kB]at h
  | cons v vs=>
   obtain⟨w,B,rfl,h1,G⟩:=hv.inv;have k:=h1.cells;simp only[kB]at h ⊢;rw[<-k.1,<-hc.1];split at h
   .simp_all
   .rename_i e;rw[if_neg e];exact di.fill (((hc.take off).append k).append (hc.drop _)) G h
theorem FR.uA {k:KT} {x y G J:V} {b:Bool} (B:FR H Z x G) (D:FR H Z y J) (h:oF k x y=some b):oF k G J=some b:=by
 unfold oF at h;split at h
 .rw[B.bH,D.bH];exact h
 .rw[D.bH];rcases B.lX with rfl|⟨_,_,_,rfl,_⟩ <;> exact h
 .exact absurd B.closed (by simp[V.closed])
 .rw[B.gV,D.gV];exact h
 .rw[D.gV];rcases B.lZ with rfl|⟨_,_,_,_,_,_,rfl,_⟩ <;> exact h
 .exact absurd B.closed (by simp[V.closed])
 .rw[B.gw,D.gw];exact h
 .rw[D.gw,B.fmap];exact h
 .exact absurd B.closed (by simp[V.closed])
 grind
theorem FR.kD {a b a' B:List V} {r:Bool} (D:di H Z a a') (G:di H Z b B) (h:kD a b=some r):Go.VE.kD a' B=some r:=by
 unfold Go.VE.kD at h;split at h
 .rename_i u v hu hv;rw[D.scalar.1 (qH hu),G.scalar.1 (qH hv)];unfold Go.VE.kD
  grind
 grind
theorem zZ {k:KT} {x y:V} {b:Bool} (h:oF k x y=some b):(y=.bH/\(x=.bH\/(∃es xs,x=.fsl es xs)\/∃id es off len,x=.hsl id es off len)) \/
 (y=.gV/\(x=.gV\/(∃cs,x=.fptr cs)\/∃id el off,x=.hptr id el off))\/(y=.gw/\(x=.gw\/(∃B,x=.fmap B)\/∃id,x=.hmap id)):=by
 unfold oF at h
 grind
theorem GU {k:Option KT} {e:Option Nat} {op:BinOp} {x y:V} (D:(y=.bH/\(x=.bH\/(∃es xs,x=.fsl es xs)\/∃id es off len,x=.hsl id es off len)) \/
 (y=.gV/\(x=.gV\/(∃cs,x=.fptr cs)\/∃id el off,x=.hptr id el off))\/(y=.gw/\(x=.gw\/(∃B,x=.fmap B)\/∃id,x=.hmap id))) :
 hU k e op x y=(match k,op with
 | some k,.eql=>(oF k x y).map .bool
 | some k,.neq=>(oF k x y).map λt=>.bool !t
 | _,_=>none):=by
 rcases D with⟨rfl,rfl|⟨_,_,rfl⟩|⟨_,_,_,_,rfl⟩⟩|⟨rfl,rfl|⟨_,rfl⟩|⟨_,_,_,rfl⟩⟩|⟨rfl,rfl|⟨_,rfl⟩|⟨_,rfl⟩⟩ <;> cases k <;> cases op <;> rfl
theorem Hu {k:Option KT} {e:Option Nat} {op:BinOp} {x y z:V} (h:hU k e op x y=some z):z.good=true:=by
 have u:∀{o:Option Bool} {z:V},o.map V.bool=some z->z.good=true:=λh=>by obtain⟨_,_,rfl⟩:=ζf.1 h;rfl
 have q:∀{o:Option Bool} {z:V},(o.map λt=>V.bool !t)=some z->z.good=true:=λh=>by obtain⟨_,_,rfl⟩:=ζf.1 h;rfl
 unfold hU at h
 (repeat' split at h) <;> first|(simp  at h;subst h;rfl)|exact u h|exact q h|simp at h
theorem FR.bin {k:Option KT} {e:Option Nat} {op:BinOp} {x y G J z:V} (B:FR H Z x G) (D:FR H Z y J) (h:hU k e op x y=some z):hU k e op G J=some z:=by
 have h0:=h;unfold hU at h;split at h
 .rw[B.int,D.int];omega
 .rw[B.str,D.str];omega
 .rw[B.bool,D.bool];omega
 .obtain⟨A,rfl,t⟩:=B.iK;obtain⟨C,rfl,w⟩:=D.iK;split at h
  .split at h
   .rename_i u;obtain⟨r,hr,rfl⟩:=ζf.1 h;simp[hU,<-t.1,u,FR.kD t w hr]
   grind
  .split at h
   .rename_i u;obtain⟨r,hr,rfl⟩:=ζf.1 h;simp[hU,<-t.1,u,FR.kD t w hr]
   grind
  grind
 .split at h
  .obtain⟨r,hr,rfl⟩:=ζf.1 h;have q:=FR.uA B D hr;rw[GU (zZ q)];grind
  .obtain⟨r,hr,rfl⟩:=ζf.1 h;have q:=FR.uA B D hr;rw[GU (zZ q)];grind
  grind
theorem FR.slice {size:Nat} {x G z:V} {l h:Option Int} (D:FR H Z x G) (B:hG size x l h=some z):∃J,hG size G l h=some J/\FR H Z z J:=by
 have C:∀{n q t:Nat},dN n l h=some (q,t)->t<=n/\q<=t:=by
  intro n q t e;unfold dN at e
  grind
 unfold hG at B;split at B
 .rename_i es I;split at B
  .rename_i L;obtain⟨⟨q,t⟩,w,rfl⟩:=ζf.1 B;obtain⟨Q,U⟩:=C w;rcases D.lX with rfl|⟨id,off,O,rfl,S,hr,W,T⟩
   .refine⟨_,by simp[hG,if_pos L,w],.same _ ?_⟩
    have hg:=D.good;refine lH.2 λj u hu=>?_
    rw[List.getElem?_drop,List.getElem?_take]at hu;split at hu
    .exact lH.1 hg _ u hu
    grind
   .refine⟨.hsl id es (off+q) (t-q),by simp[hG,if_pos L,w],?_⟩
    have A:((I.take t).drop q).length=t-q:=by simp_all
    rw[<-A];refine FR.KJ S hr (by grind) ?_
    have:=(T.take t).drop q;have e:List.drop q (List.take t (List.take I.length (List.drop off O)))=List.take (t-q) (List.drop (off+q) O):=by
     rw[List.take_take,Nat.min_eq_left Q,List.drop_take,List.drop_drop]
    grind
  grind
 .exact absurd D.closed (by simp[V.closed])
 .rw[D.c9];obtain⟨_,w,rfl⟩:=ζf.1 B;exact⟨.c9,by simp[hG,w],.same _ rfl⟩
 .rw[D.bH];obtain⟨_,w,rfl⟩:=ζf.1 B;exact⟨.bH,by simp[hG,w],.same _ rfl⟩
 grind
theorem di.lC {G J:Bool} {O D:List V} {r:Option Int×Option Int} (h:di H Z O D) (B:lC G J O=some r):Go.VE.lC G J D=some r:=by
 unfold Go.VE.lC at B;split at B
 .rw[h.cU];exact B
 .obtain⟨_,_,rfl,h1,q⟩:=h.inv;rw[h1.int,q.cU];exact B
 .obtain⟨_,_,rfl,h1,q⟩:=h.inv;rw[h1.int,q.cU];exact B
 .obtain⟨_,_,rfl,h1,q⟩:=h.inv;obtain⟨_,_,rfl,t,u⟩:=q.inv;rw[h1.int,t.int,u.cU];exact B
 grind
theorem di.bh {N:Nat->FuncId} {p:uP} {xs ys:List V} {z:V} (W:∀zero pl,p=.build zero pl->V.cE zero=true) (h:di H Z xs ys) (B:bh N p xs=some z):∃J,Go.VE.bh N p ys=some J/\FR H Z z J:=by
 unfold Go.VE.bh at B;split at B
 .
  obtain⟨y,_,rfl,h1,q⟩:=h.inv;rw[q.cU];simp only[ζa]at B;subst B;exact⟨y,rfl,h1⟩
 .
  rename_i t a b;obtain⟨w1,_,rfl,h1,q⟩:=h.inv;obtain⟨w2,_,rfl,w,A⟩:=q.inv;obtain⟨w3,_,rfl,S,T⟩:=A.inv;rw[h1.bool,T.cU];simp only[ζa]at B;subst B;refine⟨if t=true then w2 else w3,rfl,?_⟩;cases t
  .exact S
  .exact w
 .
  obtain⟨y,_,rfl,h1,q⟩:=h.inv;rw[q.cU];unfold Kr at B;split at B
  .exact absurd h1.closed (by simp[V.closed])
  .simp only[ζa]at B;subst B;rcases h1.lZ with rfl|⟨_,_,_,_,_,_,rfl,_⟩
   .exact⟨_,rfl,h1⟩
   .exact⟨_,rfl,h1⟩
  .simp only[ζa]at B;subst B;obtain⟨_,_,rfl,_⟩:=h1.kP;exact⟨_,rfl,h1⟩
  .simp at B
 .
  obtain⟨_,_,rfl,h1,q⟩:=h.inv;obtain⟨_,_,rfl,w,A⟩:=q.inv;rw[A.cU];exact⟨z,FR.bin h1 w B,.same _ (Hu B)⟩
 .obtain⟨_,_,rfl,h1,q⟩:=h.inv;rw[h1.bool,q.cU];simp only[ζa]at B;subst B;exact⟨_,rfl,.same _ rfl⟩
 .obtain⟨_,_,rfl,h1,q⟩:=h.inv;rw[h1.int,q.cU];simp only[ζa]at B;subst B;exact⟨_,rfl,.same _ rfl⟩
 .obtain⟨_,_,rfl,h1,q⟩:=h.inv;rw[h1.int,q.cU];simp only[ζa]at B;subst B;exact⟨_,rfl,.same _ rfl⟩
 .
  rename_i off p;obtain⟨y,_,rfl,h1,q⟩:=h.inv;rw[q.cU];unfold gZ at B;split at B
  .split at B
   .rename_i X Y;simp only[ζa]at B;subst B;rcases h1.lZ with rfl|⟨id,el,o,es,ys,ds,rfl,U,hr,Q,aa,O⟩
    .have hg:=h1.good;simp only[V.good]at hg;exact⟨_,by simp only[Go.VE.bh,gZ,if_pos Y],.same _ (by simp only[V.good];exact xY _ hg)⟩
    .refine⟨.hptr id el (o+off),rfl,FR.BG U hr Q (by have:=O.1;simp at this;omega) ?_⟩
     have:=O.drop off;rw[List.drop_drop]at this;exact this
   .simp at B
  .exact absurd h1.closed (by simp[V.closed])
  .simp at B
 .
  rename_i off size agg X;obtain⟨y,_,rfl,h1,q⟩:=h.inv;rw[q.cU];obtain⟨ab,rfl,hc⟩:=h1.iK;obtain⟨r,hr,hm⟩:=ζg.1 B;obtain⟨r',I,G⟩:=hc.cut hr;obtain⟨J,C,D⟩:=G.mk hm;exact⟨J,by simp only[Go.VE.bh,I,ζb,C],D⟩
 .
  rename_i size s k n;obtain⟨y,_,rfl,h1,q⟩:=h.inv;obtain⟨_,_,rfl,w,A⟩:=q.inv;rw[w.int,A.cU];unfold lG at B;split at B
  .simp at B
  .rename_i L;split at B
   .rename_i es xs;split at B
    .rename_i Q;obtain⟨c,hc,rfl⟩:=ζf.1 B;rcases h1.lX with rfl|⟨id,off,ys,rfl,U,hr,hl,O⟩
     .have hg:=h1.good;simp only[V.good]at hg;exact⟨_,by simp only[Go.VE.bh,lG,if_neg L,if_pos Q,hc,Option.map_some],.same _ (by simp only[V.good];exact lH.1 hg _ _ hc)⟩
     .have hj:n.toNat<xs.length:=(ζe.1 hc).1;obtain⟨d,hd,ad⟩:=O.get hc;rw[List.getElem?_take,if_pos hj,List.getElem?_drop]at hd;exact⟨.hptr id (off+n.toNat) 0,by simp only[Go.VE.bh,lG,if_neg L,if_pos (And.intro Q hj)],FR.BG U hr hd (by simp) (by simpa using ad)⟩
    .simp at B
   .exact absurd h1.closed (by simp[V.closed])
   .simp at B
 .
  rename_i len size s k n;obtain⟨y,_,rfl,h1,q⟩:=h.inv;obtain⟨_,_,rfl,w,A⟩:=q.inv;rw[w.int,A.cU];unfold wm at B;split at B
  .rename_i L;split at B
   .split at B
    .rename_i X Y;simp only[ζa]at B;subst B;rcases h1.lZ with rfl|⟨id,el,o,es,ys,ds,rfl,U,hr,Q,aa,O⟩
     .have hg:=h1.good;simp only[V.good]at hg;exact⟨_,by simp only[Go.VE.bh,wm,if_pos L,if_pos Y],.same _ (by simp only[V.good];exact xY _ hg)⟩
     .refine⟨.hptr id el (o+n.toNat*size),by simp only[Go.VE.bh,wm,if_pos L],FR.BG U hr Q (by have:=O.1;simp at this;omega) ?_⟩
      have:=O.drop (n.toNat*size);rw[List.drop_drop]at this;exact this
    .simp at B
   .exact absurd h1.closed (by simp[V.closed])
   .simp at B
  .simp at B
 .
  rename_i s k n;obtain⟨y,_,rfl,h1,q⟩:=h.inv;obtain⟨_,_,rfl,w,A⟩:=q.inv;rw[h1.str,w.int,A.cU];split at B
  .rename_i L;obtain⟨c,hc,rfl⟩:=ζf.1 B;exact⟨_,by simp only[Go.VE.bh,if_pos L,hc,Option.map_some],.same _ rfl⟩
  .simp at B
 .
  rename_i len size agg X k n;obtain⟨y,_,rfl,h1,q⟩:=h.inv;obtain⟨_,_,rfl,w,A⟩:=q.inv;rw[w.int,A.cU];obtain⟨ab,rfl,hc⟩:=h1.iK;split at B
  .rename_i L;obtain⟨r,hr,hm⟩:=ζg.1 B;obtain⟨r',I,G⟩:=hc.cut hr;obtain⟨J,C,D⟩:=G.mk hm;exact⟨J,by simp only[Go.VE.bh,if_pos L,I,ζb,C],D⟩
  .simp at B
 .
  rename_i lo hi s bs;obtain⟨y,_,rfl,h1,q⟩:=h.inv;rw[h1.str];obtain⟨⟨l,h'⟩,hb,B⟩:=ζg.1 B;obtain⟨⟨l2,af⟩,ae,rfl⟩:=ζf.1 B;exact⟨_,by simp only[Go.VE.bh,q.lC hb,ζb,ae,Option.map_some],.same _ rfl⟩
 .
  rename_i size lo hi s bs;obtain⟨y,_,rfl,h1,q⟩:=h.inv;obtain⟨⟨l,h'⟩,hb,B⟩:=ζg.1 B;obtain⟨J,C,D⟩:=FR.slice h1 B;exact⟨J,by simp only[Go.VE.bh,q.lC hb,ζb,C],D⟩
 .
  obtain⟨y,_,rfl,h1,q⟩:=h.inv;obtain⟨_,_,rfl,w,A⟩:=q.inv;obtain⟨_,_,rfl,S,T⟩:=A.inv;rw[w.int,S.int,T.cU];split at B
  .rename_i hc;simp only[ζa]at B;subst B;refine⟨.c9,?_,.same _ rfl⟩;simp only[ζh]at hc;have:IY y=true:=by
    have h0:=hc.1.1;unfold IY at h0;split at h0
    .rcases h1.lX with rfl|⟨_,_,_,rfl,_⟩ <;> rfl
    .exact absurd h1.closed (by simp[V.closed])
    .rw[h1.c9];rfl
    .rw[h1.bH];rfl
    .simp at h0
   simp only[Go.VE.bh,this,hc.1.2,hc.2,Bool.and_self,if_true]
  .simp at B
 .
  rename_i vs zero pl;obtain⟨r,hr,rfl⟩:=ζf.1 B;obtain⟨r',I,G⟩:=di.fill (di.same (W zero pl rfl)) h hr;exact⟨.agg r',by simp only[Go.VE.bh,I,Option.map_some],.agg _ _ G.1 G.2⟩
 .
  rename_i vs name k;simp only[ζa]at B;subst B;exact⟨_,rfl,.clo _ _ _ _ _ (h.take k).1 (h.drop k).1 (h.take k).2 (h.drop k).2⟩
 .
  rename_i i vs;obtain⟨y,_,rfl,h1,q⟩:=h.inv;rw[q.cU];obtain⟨ws,rfl,hw⟩:=h1.pU;obtain⟨J,C,D⟩:=hw.get B;exact⟨J,C,D⟩
 .
  obtain⟨y,_,rfl,h1,q⟩:=h.inv;rw[h1.str,q.cU];simp only[ζa]at B;subst B;exact⟨_,rfl,.same _ rfl⟩
 .
  obtain⟨y,_,rfl,h1,q⟩:=h.inv;rw[q.cU];unfold og at B;split at B
  .simp only[ζa]at B;subst B;rcases h1.lX with rfl|⟨_,_,_,rfl,_⟩ <;> exact⟨_,rfl,.same _ rfl⟩
  .exact absurd h1.closed (by simp[V.closed])
  .rw[h1.c9];simp only[ζa]at B;subst B;exact⟨_,rfl,.same _ rfl⟩
  .rw[h1.bH];simp only[ζa]at B;subst B;exact⟨_,rfl,.same _ rfl⟩
  .simp at B
 .
  obtain⟨y,_,rfl,h1,q⟩:=h.inv;rw[q.cU];unfold Ff at B;split at B
  .rw[h1.bH];simp only[ζa]at B;subst B;exact⟨_,rfl,.same _ rfl⟩
  .rw[h1.c9];simp only[ζa]at B;subst B;exact⟨_,rfl,.same _ rfl⟩
  .simp at B
 .
  obtain⟨_,_,rfl,h1,q⟩:=h.inv;obtain⟨_,_,rfl,w,A⟩:=q.inv;rw[h1.int,w.int,A.cU];split at B
  .rename_i e;simp only[ζa]at B;subst B;exact⟨_,by simp only[Go.VE.bh,if_pos e],.same _ rfl⟩
  .simp at B
 .
  obtain⟨_,_,rfl,h1,q⟩:=h.inv;obtain⟨_,_,rfl,w,A⟩:=q.inv;obtain⟨_,_,rfl,S,T⟩:=A.inv;obtain⟨_,_,rfl,h7,h8⟩:=T.inv;rw[h1.int,w.int,S.int,h7.int,h8.cU];split at B
  .rename_i e;simp only[ζa]at B;subst B;exact⟨_,by simp only[Go.VE.bh,if_pos e],.same _ rfl⟩
  .simp at B
 .
  obtain⟨_,_,rfl,h1,q⟩:=h.inv;obtain⟨_,_,rfl,w,A⟩:=q.inv;rw[h1.int,w.int,A.cU];split at B
  .rename_i e;simp only[ζa]at B;subst B;exact⟨_,by simp only[Go.VE.bh,if_pos e],.same _ rfl⟩
  .simp at B
 .
  obtain⟨_,_,rfl,h1,q⟩:=h.inv;obtain⟨_,_,rfl,w,A⟩:=q.inv;rw[h1.int,w.int,A.cU];split at B
  .rename_i e;simp only[ζa]at B;subst B;refine⟨_,by simp only[Go.VE.bh,if_pos e],.same _ ?_⟩
   simp only[V.good];refine lH.2 λj u hu=>?_
   have:=List.eq_of_mem_replicate (List.mem_of_getElem? hu);subst this;exact iu.2 λi v hv=>mW (List.all_eq_true.1 e.2.2.2.2.2 v (List.mem_of_getElem? hv))
  .simp at B
 .simp only[ζa]at B;subst B;rw[h.cU];exact⟨_,rfl,.same _ rfl⟩
 .simp at B
end
end Go.VE
namespace Go.VE
variable [bX]
def rz (p:Nat×Nat) (k:Fl) (es len:Nat):V:=
 match k with
 | .nil=>.bH
 | .emp=>.c9
 | _=>.hsl p.1 es p.2 len
abbrev Nu:=Nat->Nat×Nat
inductive cW (ν:Nu) (m:Tb bP) (H:bl) (Z:Nat->Prop):SV->V->Prop
 | v (x y:V) (h:FR H Z x y):cW ν m H Z (.v x) y
 | own (d:Nat) (y:V) (h:∀ob,bk m d=some ob->∃k es xs,ob=.sl k es xs/\y=rz (ν d) k es xs.length):cW ν m H Z (.own d) y
 | ptr (d o:Nat) (y:V) (h:∀ob,bk m d=some ob->∃cs,ob=.box cs/\y=.hptr (ν d).1 0 o):cW ν m H Z (.ptr d o) y
 | el (d i o:Nat) (y:V) (h:∀ob,bk m d=some ob->∃k es xs,ob=.sl k es xs/\cF k=true/\y=.hptr (ν d).1 ((ν d).2+i) o):cW ν m H Z (.el d i o) y
 | mp (d:Nat) (y:V) (h:∀ob,bk m d=some ob->∃kvs,ob=.mp kvs/\y=.hmap (ν d).1):cW ν m H Z (.mp d) y
 | clo (f:FuncId) (a b:List SV) (a' b':List V) (ha:a.length=a'.length) (hb:b.length=b'.length)
  (hva:∀(j:Nat) u v,a[j]? = some u->a'[j]? = some v->cW ν m H Z u v) (hvb:∀(j:Nat) u v,b[j]? = some u->b'[j]? = some v->cW ν m H Z u v):cW ν m H Z (.clo f a b) (.clo f a' b')
 | tup (a:List SV) (a':List V) (ha:a.length=a'.length) (hva:∀(j:Nat) u v,a[j]? = some u->a'[j]? = some v->cW ν m H Z u v):cW ν m H Z (.tup a) (.tup a')
 | agg (a:List SV) (a':List V) (ha:a.length=a'.length) (hva:∀(j:Nat) u v,a[j]? = some u->a'[j]? = some v->cW ν m H Z u v):cW ν m H Z (.agg a) (.agg a')
 | yl (id:Nat):cW ν m H Z (.yl id) (.yld id)
def b8 (ν:Nu) (m:Tb bP) (H:bl) (Z:Nat->Prop) (xs:List SV) (ys:List V):Prop:=xs.length=ys.length/\∀(j:Nat) u v,xs[j]? = some u->ys[j]? = some v->cW ν m H Z u v
def cC:bP->Bool
 | .sl k _ _=>cF k
 | _=>true
def fS (ν:Nu) (m:Tb bP) (id:Nat):Prop:=∃d ob,bk m d=some ob/\cC ob=true/\(ν d).1=id
def uR (H:bl) (Z:Nat->Prop) (ys:List (List V)):Prop:=∀c∈ys,∀u∈c,∃x,FR H Z x u
def Cp (H:bl) (Z:Nat->Prop) (a b:List (V×V)):Prop:=a.length=b.length/\∀(j:Nat) u v,a[j]? = some u->b[j]? = some v->(u.1=v.1/\u.1.scalar=true)/\FR H Z u.2 v.2
def dV (ν:Nu) (m:Tb bP) (H:bl) (Z:Nat->Prop) (d:Nat):bP->Prop
 | .sl k es xs=>if cF k then ∃ys,H[(ν d).1]? = some (.row es ys)/\(ν d).2+xs.length<=ys.length/\gC H Z xs ((ys.drop (ν d).2).take xs.length)/\uR H Z ys/\(k=.row->(ν d).2=0/\ys.length=xs.length)
  else xs=[]
 | .box cs=>∃es D,H[(ν d).1]? = some (.row es [D])/\b8 ν m H Z cs D/\D.all V.one=true
 | .mp G=>∃B,H[(ν d).1]? = some (.map B)/\Cp H Z G B
structure R (ν:Nu) (Z:Nat->Prop) (st:St) (F:Frame) (H:bl):Prop where
 slot:∀s sv,bk st.g s=some sv->cW ν st.m H Z sv (get F s)
 obj:∀d ob,bk st.m d=some ob->dV ν st.m H Z d ob
 inj:∀d d' ob ob',bk st.m d=some ob->bk st.m d'=some ob'->cC ob=true->cC ob'=true->(ν d).1=(ν d').1->d=d'
 apart:∀d ob,bk st.m d=some ob->cC ob=true->¬Z (ν d).1
 zrow:∀id,Z id->(bp H id).isSome=true
 deep:Deep H Z
def sameShape:bP->bP->Prop
 | .sl k es xs,.sl G B D=>G=k/\B=es/\D.length=xs.length
 | .box _,.box _=>True
 | .mp _,.mp _=>True
 | _,_=>False
theorem sameShape.refl (o:bP):sameShape o o:=by cases o <;> simp[sameShape]
theorem sameShape.trans {a b c:bP} (h:sameShape a b) (k:sameShape b c):sameShape a c:=by
 cases a <;> cases b <;> cases c <;> simp[sameShape]at*<;> simp_all
structure Ev (Rv:Nat->Prop) (ν:Nu) (Z:Nat->Prop) (st:St) (H:bl) (ν':Nu) (Z':Nat->Prop) (st':St) (H':bl):Prop where
 len:H.length<=H'.length
 same:∀id,id<H.length->¬fS ν st.m id->¬Z id->¬Rv id->H'[id]? = H[id]?
 rows:∀id,Z id->Z' id/\bp H' id=bp H id
 own:∀id,fS ν' st'.m id->fS ν st.m id\/Rv id\/H.length<=id
 frz:∀id,Z' id->Z id\/fS ν st.m id\/Rv id\/H.length<=id
 pin:∀d∈st.pin,∀ob',bk st'.m d=some ob'->∃ob,bk st.m d=some ob/\ν' d=ν d/\sameShape ob ob'
 pins:st'.pin=st.pin
section
variable {Rv Rv':Nat->Prop} {ν ν' ν2:Nu} {Z Z' Z2:Nat->Prop} {st st' st2:St} {m m':Tb bP} {F F':Frame} {H H' H2:bl}
theorem Ev.refl:Ev Rv ν Z st H ν Z st H:=
 ⟨Nat.le_refl _,λ_ _ _ _ _=>rfl,λ_ h=>⟨h,rfl⟩,λ_ h=>.inl h,λ_ h=>.inl h,λ_ _ q h=>⟨q,h,rfl,.refl _⟩,rfl⟩
theorem Ev.trans (a:Ev Rv ν Z st H ν' Z' st' H') (b:Ev Rv ν' Z' st' H' ν2 Z2 st2 H2):Ev Rv ν Z st H ν2 Z2 st2 H2 where
 len:=Nat.le_trans a.len b.len
 same:=λid w q z hr=>by
  rw[b.same id (Nat.lt_of_lt_of_le w a.len) (λh=>(a.own id h).elim q λh=>h.elim hr λh=>by omega) (λh=>(a.frz id h).elim z λh=>h.elim q λh=>h.elim hr λh=>by omega) hr,a.same id w q z hr]
 rows:=λid h=>⟨(b.rows id (a.rows id h).1).1,by rw[(b.rows id (a.rows id h).1).2,(a.rows id h).2]⟩
 own:=λid h=>by
  rcases b.own id h with h|h|h
  .exact a.own id h
  .grind
  .exact .inr (.inr (Nat.le_trans a.len h))
 frz:=λid h=>by
  rcases b.frz id h with h|h|h|h
  .exact a.frz id h
  .rcases a.own id h with h|h|h
   .grind
   .grind
   grind
  .grind
  .exact .inr (.inr (.inr (Nat.le_trans a.len h)))
 pin:=λd A t h=>by
  obtain⟨u,h1,C,B⟩:=b.pin d (by rw[a.pins];omega) t h
  obtain⟨ob,k1,k2,k3⟩:=a.pin d A u h1;exact⟨ob,k1,by simp_all,k3.trans B⟩
 pins:=by rw[b.pins,a.pins]
theorem Ev.weak (h:∀id,Rv id->Rv' id) (a:Ev Rv ν Z st H ν' Z' st' H'):Ev Rv' ν Z st H ν' Z' st' H':=
 ⟨a.len,λid q t u hr=>a.same id q t u (λk=>hr (h id k)),a.rows,λid k=>(a.own id k).imp (λx=>x) (.imp (h id) (λx=>x)),λid k=>(a.frz id k).imp (λx=>x) (.imp (λx=>x) (.imp (h id) (λx=>x))),a.pin,a.pins⟩
theorem cD {α:Type}:∀(g:Tb α) (n:Nat) (v:α),bk (bT g n v) n=some v
 | [],n,v=>by simp[bT,bk]
 | (k,x)::r,n,v=>by
  simp[bT];split
  .rename_i h;simp[bk,h]
  .rename_i h;simp[bk,h,cD r n v]
theorem d_ {α:Type}:∀(g:Tb α) {n k:Nat} (v:α),n≠k->bk (bT g n v) k=bk g k
 | [],n,k,v,h=>by simp[bT,bk,h]
 | (j,x)::r,n,k,v,h=>by
  simp[bT];split
  .rename_i hk;subst hk;simp[bk,h]
  .simp[bk];split
   .rfl
   .exact d_ r v h
theorem rL {α:Type}:∀{g:Tb α} {n:Nat} {v:α},bk g n=some v->bT g n v=g
 | [],n,v,h=>by cases h
 | (k,x)::r,n,v,h=>by
  simp[bk]at h;simp[bT];split
  .grind
  .rename_i e;rw[if_neg e]at h;rw[rL h]
theorem vn {α:Type}:∀(g:Tb α) (n:Nat),bk (en n g) n=none
 | [],n=>rfl
 | (k,x)::r,n=>by
  simp[en];split
  .exact vn r n
  .rename_i hk;simp[bk];rw[if_neg hk];exact vn r n
theorem vF {α:Type}:∀(g:Tb α) {n k:Nat},n≠k->bk (en n g) k=bk g k
 | [],n,k,h=>rfl
 | (j,x)::r,n,k,h=>by
  simp[en];split
  .rename_i hk;subst hk;simp[bk];rw[if_neg h];exact vF r h
  .simp[bk];split
   .rfl
   .exact vF r h
theorem nL {α:Type} {g:Tb α} {n k:Nat} {v:α} (h:bk (en n g) k=some v):n≠k/\bk g k=some v:=by
 by_cases e:n=k
 .subst e;rw[vn]at h;simp_all
 .rw[vF g e]at h;grind
theorem nU {α:Type} {k:Nat} {v:α}:∀{ds:List Nat} {g:Tb α},bk (nO ds g) k=some v->bk g k=some v
 | [],_,h=>h
 | d::ds,g,h=>(nL (nU  h)).2
theorem pX {α:Type} {g:Tb α} {k:Nat} {v:α}:∀{l:List Nat} {r:Tb α},Az g l=some r->bk r k=some v->bk g k=some v
 | [],r,h,B=>by simp[Az]at h;subst h;simp[bk]at B
 | n::l,r,h,B=>by
  simp[Az]at h;split at h
  .rename_i w t G D;simp  at h;subst h;simp[bk]at B;split at B
   .grind
   .exact pX D B
  grind
theorem yC {d:Nat}:∀{g:Tb SV} {s:Nat} {sv:SV},uS d g=false->bk g s=some sv->sv.cR d=false
 | [],_,_,_,h=>by simp[bk]at h
 | (k,x)::r,s,sv,h,B=>by
  simp[uS]at h;simp[bk]at B;split at B
  .grind
  .exact yC h.2 B
theorem xR {d:Nat}:∀{g:Tb bP} {s:Nat} {ob:bP},r_ d g=false->bk g s=some ob->ob.cR d=false
 | [],_,_,_,h=>by simp[bk]at h
 | (k,x)::r,s,sv,h,B=>by
  simp[r_]at h;simp[bk]at B;split at B
  .grind
  .exact xR h.2 B
theorem sZ {d:Nat}:∀{l:List SV} {j:Nat} {u:SV},SV.dH d l=false->l[j]? = some u->u.cR d=false
 | [],_,_,_,h=>by simp_all
 | x::r,j,u,h,B=>by
  simp[SV.dH]at h
  cases j with
  | zero=>grind
  | succ j=>exact sZ h.2 (by simpa using B)
theorem rq {d:Nat}:∀{l:List SV} {j:Nat} {u:SV},l[j]? = some u->u.cR d=true->SV.dH d l=true
 | [],_,_,h,_=>by simp_all
 | x::r,j,u,h,B=>by
  simp[SV.dH]
  cases j with
  | zero=>grind
  | succ j=>exact .inr (rq (j:=j) (by grind) B)
theorem cW.mono {sv:SV} {y:V} (J:∀id,Z id->Z' id/\bp H' id=bp H id)
 (r:cW ν m H Z sv y) (B:∀d,sv.cR d=true->∀ob',bk m' d=some ob'->∃ob,bk m d=some ob/\ν' d=ν d/\sameShape ob ob'):cW ν' m' H' Z' sv y:=by
 induction r with
 | v x y h=>exact .v x y (h.mono J)
 | own d y h=>
  refine .own d y λob' t=>?_
  obtain⟨ob,h1,D,w⟩:=B d (by simp[SV.cR]) ob' t
  obtain⟨k,es,I,rfl,rfl⟩:=h ob h1;cases ob' <;> simp[sameShape]at w
  grind
 | ptr d o y h=>
  refine .ptr d o y λob' t=>?_
  obtain⟨ob,h1,D,w⟩:=B d (by simp[SV.cR]) ob' t
  obtain⟨L,rfl,rfl⟩:=h ob h1;cases ob' <;> simp[sameShape]at w
  grind
 | el d i o y h=>
  refine .el d i o y λob' t=>?_
  obtain⟨ob,h1,D,w⟩:=B d (by simp[SV.cR]) ob' t
  obtain⟨k,es,I,rfl,T,rfl⟩:=h ob h1;cases ob' <;> simp[sameShape]at w
  grind
 | mp d y h=>
  refine .mp d y λob' t=>?_
  obtain⟨ob,h1,D,w⟩:=B d (by simp[SV.cR]) ob' t
  obtain⟨L,rfl,rfl⟩:=h ob h1;cases ob' <;> simp[sameShape]at w
  grind
 | clo f a b A O C Q hva S q G=>
  exact .clo f a b A O C Q (λj u v hu hv=>q j u v hu hv λd z=>B d (by simp[SV.cR,rq hu z])) (λj u v hu hv=>G j u v hu hv λd z=>B d (by simp[SV.cR,rq hu z]))
 | tup a A C hva q=>
  exact .tup a A C (λj u v hu hv=>q j u v hu hv λd z=>B d (by simp[SV.cR,rq hu z]))
 | agg a A C hva q=>
  exact .agg a A C (λj u v hu hv=>q j u v hu hv λd z=>B d (by simp[SV.cR,rq hu z]))
 | yl id=>exact .yl id
theorem b8.mono {sv:List SV} {y:List V} (B:∀id,Z id->Z' id/\bp H' id=bp H id)
 (r:b8 ν m H Z sv y) (D:∀d,SV.dH d sv=true->∀ob',bk m' d=some ob'->∃ob,bk m d=some ob/\ν' d=ν d/\sameShape ob ob'):b8 ν' m' H' Z' sv y:=
 ⟨r.1,λj u v hu hv=>(r.2 j u v hu hv).mono B λd q=>D d (rq hu q)⟩
theorem b8.nil:b8 ν m H Z [] []:=⟨rfl,by simp⟩
theorem b8.cons {x:SV} {y:V} {xs:List SV} {ys:List V} (h:cW ν m H Z x y) (r:b8 ν m H Z xs ys):b8 ν m H Z (x::xs) (y::ys):=by
 refine⟨by simp[r.1],λj u v hu hv=>?_⟩
 cases j with
 | zero=>grind
 | succ j=>exact r.2 j u v (by grind) (by grind)
theorem b8.inv {x:SV} {xs:List SV} {B:List V} (r:b8 ν m H Z (x::xs) B):∃y ys,B=y::ys/\cW ν m H Z x y/\b8 ν m H Z xs ys:=by
 cases B with
 | nil=>have:=r.1;grind
 | cons y ys=>
  refine⟨y,ys,rfl,r.2 0 x y rfl rfl,by have:=r.1;grind,λj u v hu hv=>r.2 (j+1) u v (by grind) (by grind)⟩
theorem b8.cU {B:List V} (r:b8 ν m H Z [] B):B=[]:=by
 have:=r.1
 grind
theorem b8.get {xs:List SV} {ys:List V} (r:b8 ν m H Z xs ys) {j:Nat} {u:SV} (h:xs[j]? = some u):∃v,ys[j]? = some v/\cW ν m H Z u v:=by
 have q  := (ζe.1 h).1;have:j<ys.length:=by rw[<-r.1];omega
 exact⟨ys[j],ζd this,r.2 j u _ h (ζd this)⟩
theorem b8.append {a c:List SV} {b d:List V} (h:b8 ν m H Z a b) (k:b8 ν m H Z c d):b8 ν m H Z (a++c) (b++d):=by
 refine⟨by simp[h.1,k.1],λj u v hu hv=>?_⟩
 by_cases q:j<a.length
 .rw[List.getElem?_append_left q]at hu;rw[List.getElem?_append_left (by rw[<-h.1];omega)]at hv
  exact h.2 j u v hu hv
 .rw[List.getElem?_append_right (by omega)]at hu
  rw[List.getElem?_append_right (by rw[<-h.1];omega),<-h.1]at hv
  exact k.2 _ u v hu hv
theorem b8.take {a:List SV} {b:List V} (h:b8 ν m H Z a b) (n:Nat):b8 ν m H Z (a.take n) (b.take n):=by
 refine⟨by simp[h.1],λj u v hu hv=>?_⟩
 rw[List.getElem?_take]at hu hv;split at hu
 .rename_i q;rw[if_pos q]at hv;exact h.2 j u v hu hv
 grind
theorem b8.drop {a:List SV} {b:List V} (h:b8 ν m H Z a b) (n:Nat):b8 ν m H Z (a.drop n) (b.drop n):=by
 refine⟨by simp[h.1],λj u v hu hv=>?_⟩
 rw[List.getElem?_drop]at hu hv;exact h.2 _ u v hu hv
theorem cW.fr {x y:V} (r:cW ν m H Z (.v x) y):FR H Z x y:=by cases r;assumption
theorem b8.qM {xs ys:List V} (r:di H Z xs ys):b8 ν m H Z (xs.map .v) ys:=by
 refine⟨by simp[r.1],λj u v hu hv=>?_⟩
 rw[List.getElem?_map,ζf]at hu;obtain⟨x,q,rfl⟩:=hu;exact .v x v (r.2 j x v q hv)
theorem rN:∀{svs:List SV} {xs:List V},dG svs=some xs->svs=xs.map .v
 | [],xs,h=>by simp[dG]at h;grind
 | x::r,xs,h=>by
  cases x <;> simp only[dG]at h <;> first|grind|skip
  obtain⟨t,B,rfl⟩:=ζf.1 h;rw[rN B];rfl
theorem b8.SA {xs ys:List V} (r:b8 ν m H Z (xs.map .v) ys):di H Z xs ys:=by
 refine⟨by have:=r.1;grind,λj u v hu hv=>?_⟩
 have:(xs.map SV.v)[j]? = some (.v u):=by grind
 exact(r.2 j _ v this hv).fr
end
end Go.VE
namespace Go.VE
variable [bX]
section
variable {ν:Nu} {Z:Nat->Prop} {st:St} {m:Tb bP} {F:Frame} {H H1:bl} {N:Nat->FuncId}
def pR (nm:FuncId->Option Nat):Operand->Option Arg
 | .tmp t=>some (.s t)
 | .const v=>match ofValue 4 v with
  | some c=>if c.good then some (.k c)else none
  | none=>none
 | .func f=>(nm f).map .f
 | .global g=>match bX.gl g with
  | some cs=>if(V.fptr cs).good then some (.k (.fptr cs))else none
  | none=>none
theorem Dg {nm:FuncId->Option Nat} (D:∀f s,nm f=some s->N s=f) {g:Tb SV} (G:∀s sv,bk g s=some sv->cW ν m H Z sv (get F s)) {o:Operand} {x:Arg} {sv:SV} (B:pR nm o=some x) (hv:ql N g x=some sv) :
 ∃y,ev F o=some y/\cW ν m H Z sv y:=by
 cases o with
 | tmp t=>
  simp[pR]at B;subst B;exact⟨get F t,rfl,G t sv hv⟩
 | const w=>
  simp[pR]at B;split at B
  .rename_i c hc;split at B
   .rename_i q;simp  at B;subst B;simp[ql]at hv;subst hv;exact⟨c,hc,.v _ _ (.same _ q)⟩
   grind
  grind
 | func f=>
  simp[pR]at B;obtain⟨z,u,rfl⟩:=B;simp[ql]at hv;subst hv;exact⟨_,rfl,.v _ _ (by rw[D f z u];exact .same _ rfl)⟩
 | global i=>
  simp[pR]at B;split at B
  .rename_i c hc;split at B
   .rename_i q;simp  at B;subst B;simp[ql]at hv;subst hv;exact⟨.fptr c,by simp[ev,hc],.v _ _ (.same _ q)⟩
   grind
  grind
theorem pJ {nm:FuncId->Option Nat} (D:∀f s,nm f=some s->N s=f) {g:Tb SV} (G:∀s sv,bk g s=some sv->cW ν m H Z sv (get F s)):∀{os:List Operand} {xs:List Arg} {svs:List SV},
 os.mapM (pR nm)=some xs->bZ N g xs=some svs->∃ys,fI F os=some ys/\b8 ν m H Z svs ys
 | [],xs,svs,B,hv=>by
  simp  at B;subst B;simp[bZ]at hv;subst hv;exact⟨[],rfl,.nil⟩
 | o::os,xs,svs,B,hv=>by
  simp[ζg]at B;obtain⟨x,J,ys,O,rfl⟩:=B;simp[bZ]at hv;split at hv
  .rename_i v w h1 t;simp  at hv;subst hv;obtain⟨a,B,u⟩:=Dg D G J h1;obtain⟨az,has,q⟩:=pJ D G O t;exact⟨a::az,by simp[fI,B,has],.cons u q⟩
  grind
theorem cW.kq {d:Nat} {y:V} (r:cW ν m H Z (.own d) y) {ob:bP} (h:bk m d=some ob):∃k es xs,ob=.sl k es xs/\y=rz (ν d) k es xs.length:=by
 cases r with|own _ _ q=>grind
theorem cW.oJ {d o:Nat} {y:V} (r:cW ν m H Z (.ptr d o) y) {ob:bP} (h:bk m d=some ob):∃cs,ob=.box cs/\y=.hptr (ν d).1 0 o:=by
 cases r with|ptr _ _ _ q=>grind
theorem cW.xz {d i o:Nat} {y:V} (r:cW ν m H Z (.el d i o) y) {ob:bP} (h:bk m d=some ob):∃k es xs,ob=.sl k es xs/\cF k=true/\y=.hptr (ν d).1 ((ν d).2+i) o:=by
 cases r with|el _ _ _ _ q=>grind
theorem cW.CD {d:Nat} {y:V} (r:cW ν m H Z (.mp d) y) {ob:bP} (h:bk m d=some ob):∃B,ob=.mp B/\y=.hmap (ν d).1:=by
 cases r with|mp _ _ q=>grind
theorem cW.kP {f:FuncId} {a b:List SV} {y:V} (r:cW ν m H Z (.clo f a b) y):∃a' B,y=.clo f a' B/\b8 ν m H Z a a'/\b8 ν m H Z b B:=by
 cases r with|clo _ _ _ a' B t u hva q=>exact⟨a',B,rfl,⟨t,hva⟩,⟨u,q⟩⟩
theorem cW.pU {a:List SV} {y:V} (r:cW ν m H Z (.tup a) y):∃a',y=.tup a'/\b8 ν m H Z a a':=by
 cases r with|tup _ a' q hva=>exact⟨a',rfl,q,hva⟩
theorem cW.iK {a:List SV} {y:V} (r:cW ν m H Z (.agg a) y):∃a',y=.agg a'/\b8 ν m H Z a a':=by
 cases r with|agg _ a' q hva=>exact⟨a',rfl,q,hva⟩
theorem rH {p:Nat×Nat} {k:Fl} {es len:Nat} (h:cF k=true):rz p k es len=.hsl p.1 es p.2 len:=by
 cases k <;> simp[cF]at h <;> rfl
theorem lK {x:SV} {y:V} (h:kY m x=true) (r:cW ν m H Z x y):y.cells=[y]/\y.one=true:=by
 cases x with
 | v x=>simp[kY]at h
 | own d=>
  obtain⟨ob,q⟩:=Option.isSome_iff_exists.1 h;obtain⟨k,es,t,rfl,rfl⟩:=r.kq q;cases k <;> exact⟨rfl,rfl⟩
 | ptr d o=>
  obtain⟨ob,q⟩:=Option.isSome_iff_exists.1 h;obtain⟨w,rfl,rfl⟩:=r.oJ q;exact⟨rfl,rfl⟩
 | el d i o=>
  obtain⟨ob,q⟩:=Option.isSome_iff_exists.1 h;obtain⟨k,es,t,rfl,_,rfl⟩:=r.xz q;exact⟨rfl,rfl⟩
 | mp d=>
  obtain⟨ob,q⟩:=Option.isSome_iff_exists.1 h;obtain⟨u,rfl,rfl⟩:=r.CD q;exact⟨rfl,rfl⟩
 | clo f a b=>obtain⟨z,A,rfl,_⟩:=r.kP;exact⟨rfl,rfl⟩
 | tup l=>simp[kY]at h
 | agg l=>simp[kY]at h
 | yl id=>simp[kY]at h
theorem Lk {x:SV} {y:V} (h:wk m x=true) (r:cW ν m H Z x y):y.one=true:=by
 cases x with
 | v x=>
  have q:=r.fr;have t:x.one=true:=h;have hc:=q.cells;have e:x.cells=[x]:=by cases x <;> first|rfl|(simp[V.one]at t)
  rw[e]at hc;have h1:=hc.one;have u:=hc.1
  cases y with
  | agg l=>
   cases q with
   | same _ _=>grind
   | agg _ _ _ _=>simp[V.one]at t
  | tup l=>
   cases q with
   | same _ _=>grind
   | tup _ _ _ _=>simp[V.one]at t
  | _=>rfl
 | own d=>exact(lK  (x:=.own d) h r).2
 | ptr d o=>exact(lK  (x:=.ptr d o) h r).2
 | el d i o=>exact(lK  (x:=.el d i o) h r).2
 | mp d=>exact(lK  (x:=.mp d) h r).2
 | clo f a b=>exact(lK  (x:=.clo f a b) h r).2
 | tup l=>simp[wk,kY]at h
 | agg l=>simp[wk,kY]at h
 | yl id=>simp[wk,kY]at h
theorem DO {l:List SV} {ys:List V} (h:l.all (wk m)=true) (r:b8 ν m H Z l ys):ys.all V.one=true:=by
 refine List.all_eq_true.2 λy t=>?_
 obtain⟨j,u,e⟩:=List.mem_iff_getElem.1 t;have q:j<l.length:=by rw[r.1];omega
 exact Lk (List.all_eq_true.1 h _ (List.getElem_mem q)) (r.2 j _ y (ζd q) (by grind))
theorem Mh {x:SV} {y:V} {c:List SV} (h:xF m x=some c) (r:cW ν m H Z x y):b8 ν m H Z c y.cells:=by
 unfold xF at h;split at h
 .cases h;exact b8.qM r.fr.cells
 .cases h;obtain⟨u,rfl,q⟩:=r.iK;exact q
 .split at h
  .rename_i t;cases h;rw[(lK t r).1];exact .cons r .nil
  simp_all
theorem FP:∀{pl:List (Nat×Nat)} {vs cells l:List SV} {B cells':List V},b8 ν m H Z cells cells'->b8 ν m H Z vs B->sq m cells pl vs=some l->∃D,kB cells' pl B=some D/\b8 ν m H Z l D
 | [],[],cells,l,B,cells',hc,hv,h=>by
  rw[hv.cU];simp[sq]at h;subst h;exact⟨_,rfl,hc⟩
 | [],_::_,_,_,_,_,_,_,h=>by simp[sq]at h
 | _::_,[],_,_,_,_,_,_,h=>by simp[sq]at h
 | (off,size)::pl,v::vs,cells,l,B,cells',hc,hv,h=>by
  obtain⟨w,G,rfl,h1,J⟩:=hv.inv;simp only[sq]at h;split at h
  .rename_i c t;have hr:=Mh t h1;split at h
   .obtain⟨D,e1,e2⟩:=FP   (cells':=cells'.take off++w.cells++cells'.drop (off+w.cells.length)) (by rw[<-hr.1];exact((hc.take off).append hr).append (hc.drop _)) J h
    have q:w.cells.length=size/\off+w.cells.length<=cells'.length:=by rw[<-hr.1,<-hc.1];omega
    simp[kB]
    grind
   simp_all
  simp_all
theorem Ho {size o:Nat} {agg:Bool} {cs:List SV} {B:List V} {sv:SV} (h:b8 ν m H Z cs B) (D:vc size agg ((cs.drop o).take size)=some sv):∃y,(cut B o size).bind (mk agg)=some y/\cW ν m H Z sv y:=by
 have q:=(h.drop o).take size;unfold vc at D;split at D
 .have hc:cut B o size=some ((B.drop o).take size):=by
   unfold cut;rw[if_pos (by rw[<-q.1];omega)]
  rw[hc];split at D
  .split at D
   .rename_i A t;cases D;have u  := by rw[rN t]at q;exact q.SA
    exact⟨_,by unfold mk;grind,.v _ _ (.agg _ _ u.1 u.2)⟩
   .cases D;exact⟨_,by unfold mk;grind,.agg _ _ q.1 q.2⟩
  .split at D
   .rename_i x t;simp  at D;subst D;rw[t]at q;obtain⟨y,C,e,w,z⟩:=q.inv;rw[e,z.cU];exact⟨y,by unfold mk;grind,w⟩
   grind
 grind
theorem MY {p:uP} {svs:List SV} {ys:List V} {sv:SV} (hb:∀zero pl,p=.build zero pl->V.cE zero=true) (ho:∀d ob,bk m d=some ob->dV ν m H Z d ob) (h:b8 ν m H Z svs ys) (B:wH N m p svs=some sv):∃y,bh N p ys=some y/\cW ν m H Z sv y:=by
 unfold wH at B;split at B
 .
  obtain⟨y,_,rfl,h1,u⟩:=h.inv;rw[u.cU];simp  at B;subst B;exact⟨y,rfl,h1⟩
 .obtain⟨y,_,rfl,h1,u⟩:=h.inv;rw[u.cU];split at B
  .rename_i I;simp  at B;subst B;obtain⟨ob,q⟩:=Option.isSome_iff_exists.1 I;obtain⟨Y,rfl,rfl⟩:=h1.oJ q;exact⟨_,rfl,h1⟩
  grind
 .obtain⟨y,_,rfl,h1,u⟩:=h.inv;rw[u.cU];split at B
  .rename_i I;simp  at B;subst B;obtain⟨ob,q⟩:=Option.isSome_iff_exists.1 I;obtain⟨k,es,O,rfl,hk,rfl⟩:=h1.xz q;exact⟨_,rfl,h1⟩
  grind
 .
  rename_i t a b;obtain⟨G,_,rfl,h1,u⟩:=h.inv;obtain⟨Q,_,rfl,C,A⟩:=u.inv;obtain⟨w3,_,rfl,h5,h6⟩:=A.inv;rw[h1.fr.bool,h6.cU];simp  at B;refine⟨if t=true then Q else w3,rfl,?_⟩
  grind
 .
  obtain⟨G,_,rfl,h1,u⟩:=h.inv;obtain⟨Q,_,rfl,C,A⟩:=u.inv;rw[C.fr.bH,A.cU];split at B
  .rename_i k es O q;split at B
   .simp_all
   .simp  at B;subst B;obtain⟨S,J,L,e,rfl⟩:=h1.kq q;cases e;cases k <;> first|grind|exact⟨_,rfl,.v _ _ (.same _ rfl)⟩
  grind
 .obtain⟨G,_,rfl,h1,u⟩:=h.inv;obtain⟨Q,_,rfl,C,A⟩:=u.inv;rw[C.fr.bH,A.cU];split at B
  .rename_i k es O q;split at B
   .simp_all
   .simp  at B;subst B;obtain⟨S,J,L,e,rfl⟩:=h1.kq q;cases e;cases k <;> first|grind|exact⟨_,rfl,.v _ _ (.same _ rfl)⟩
  grind
 .
  obtain⟨y,_,rfl,h1,u⟩:=h.inv;rw[u.cU];split at B
  .rename_i I;simp  at B;subst B;obtain⟨ob,q⟩:=Option.isSome_iff_exists.1 I;obtain⟨Y,rfl,rfl⟩:=h1.oJ q;exact⟨_,rfl,.ptr _ _ _ λD w=>by grind⟩
  grind
 .obtain⟨y,_,rfl,h1,u⟩:=h.inv;rw[u.cU];split at B
  .rename_i I;simp  at B;subst B;obtain⟨ob,q⟩:=Option.isSome_iff_exists.1 I;obtain⟨k,es,O,rfl,hk,rfl⟩:=h1.xz q;exact⟨_,rfl,.el _ _ _ _ λD w=>by rw[q]at w;cases w;exact⟨_,_,_,rfl,hk,rfl⟩⟩
  .simp at B
 .
  obtain⟨G,_,rfl,h1,u⟩:=h.inv;obtain⟨Q,_,rfl,C,A⟩:=u.inv;rw[C.fr.int,A.cU];split at B
  .rename_i k es O q;split at B
   .rename_i hc;obtain⟨hk,rfl,hn,T⟩:=hc;simp  at B;subst B;obtain⟨S,J,L,e,rfl⟩:=h1.kq q;cases e;rw[rH hk];refine⟨.hptr (ν _).1 ((ν _).2+_) 0,by simp only[bh,lG,if_neg (Int.not_lt.2 hn),true_and,if_pos T];rfl,.el _ _ _ _ λD w=>?_⟩
    rw[q]at w;cases w;exact⟨_,_,_,rfl,hk,rfl⟩
   .simp at B
  .simp at B
 .
  obtain⟨G,_,rfl,h1,u⟩:=h.inv;obtain⟨Q,_,rfl,C,A⟩:=u.inv;rw[C.fr.int,A.cU];split at B
  .rename_i hc;simp  at B;subst B;obtain⟨ob,q⟩:=Option.isSome_iff_exists.1 hc.2.2;obtain⟨Y,rfl,rfl⟩:=h1.oJ q;refine⟨.hptr (ν _).1 0 (_+_),by simp only[bh,wm,if_pos (And.intro hc.1 hc.2.1)];rfl,.ptr _ _ _ λD w=>?_⟩
   rw[q]at w;cases w;exact⟨_,rfl,rfl⟩
  .simp at B
 .obtain⟨G,_,rfl,h1,u⟩:=h.inv;obtain⟨Q,_,rfl,C,A⟩:=u.inv;rw[C.fr.int,A.cU];split at B
  .rename_i hc;simp  at B;subst B;obtain⟨ob,q⟩:=Option.isSome_iff_exists.1 hc.2.2;obtain⟨k,es,O,rfl,hk,rfl⟩:=h1.xz q;refine⟨.hptr (ν _).1 (_+_) (_+_),by simp only[bh,wm,if_pos (And.intro hc.1 hc.2.1)];rfl,.el _ _ _ _ λD w=>?_⟩
   rw[q]at w;cases w;exact⟨_,_,_,rfl,hk,rfl⟩
  .simp at B
 .
  obtain⟨G,_,rfl,h1,u⟩:=h.inv;rw[u.cU];split at B
  .rename_i k es O q;simp  at B;subst B;obtain⟨S,J,L,e,rfl⟩:=h1.kq q;cases e;have:=ho _ _ q;simp[dV]at this;cases hk:k <;> simp[hk,cF]at this ⊢
   .subst this;exact⟨_,rfl,.v _ _ (.same _ rfl)⟩
   .subst this;exact⟨_,rfl,.v _ _ (.same _ rfl)⟩
   .exact⟨_,rfl,.v _ _ (.same _ rfl)⟩
   .exact⟨_,rfl,.v _ _ (.same _ rfl)⟩
  .simp at B
 .
  rename_i vs name k;simp  at B;subst B;exact⟨_,rfl,.clo _ _ _ _ _ (h.take k).1 (h.drop k).1 (h.take k).2 (h.drop k).2⟩
 .
  obtain⟨G,_,rfl,h1,u⟩:=h.inv;rw[u.cU];obtain⟨ws,rfl,U⟩:=h1.pU;obtain⟨z,hz,W⟩:=U.get B;exact⟨z,hz,W⟩
 .
  rename_i vs zero pl;obtain⟨l,hl,rfl⟩:=ζf.1 B;obtain⟨l',h1,u⟩:=FP (b8.qM (di.same (hb zero pl rfl))) h hl;exact⟨.agg l',by simp[Go.VE.bh,h1],.agg _ _ u.1 u.2⟩
 .
  obtain⟨G,_,rfl,h1,u⟩:=h.inv;rw[u.cU];obtain⟨ws,rfl,U⟩:=h1.iK;obtain⟨y,hy,X⟩:=Ho U B;exact⟨y,by simp[Go.VE.bh];exact hy,X⟩
 grind
theorem FF {p:uP} {svs:List SV} {ys:List V} {sv:SV} (D:∀zero pl,p=.build zero pl->V.cE zero=true) (G:∀d ob,bk m d=some ob->dV ν m H Z d ob) (h:b8 ν m H Z svs ys) (B:jl N m p svs=some sv) :
 ∃y,bh N p ys=some y/\cW ν m H Z sv y:=by
 unfold jl at B;split at B
 .rename_i A q;obtain⟨z,t,rfl⟩:=ζf.1 B;rw[rN q]at h;obtain⟨u,h1,w⟩:=di.bh D h.SA t;exact⟨u,h1,.v _ _ w⟩
 .exact MY D G h B
theorem b8.dG {svs:List SV} {xs ys:List V} (h:b8 ν m H Z svs ys) (B:dG svs=some xs):di H Z xs ys:=by
 rw[rN B]at h;exact h.SA
theorem A3 {k:V}:∀{a b:List (V×V)} {i:Nat},Cp H Z a b->(iL k a i=some none->iL k b i=some none)/\∀j v,iL k a i=some (some (j,v))->∃B,iL k b i=some (some (j,B))/\FR H Z v B
 | [],b,i,h=>by
  have:b=[]:=List.length_eq_zero_iff.1 (by have:=h.1;grind)
  subst this;exact⟨λh=>h,λj v h=>by simp[iL]at h⟩
 | (k1,x)::a,[],i,h=>by have:=h.1;grind
 | (k1,x)::a,(k2,y)::b,i,h=>by
  obtain⟨⟨e,_⟩,t⟩:=h.2 0 _ _ rfl rfl;subst e;have q:Cp H Z a b:=⟨by have:=h.1;grind,λj u v hu hv=>h.2 (j+1) u v (by grind) (by grind)⟩
  have w:=A3 (i:=i+1) (k:=k) q;simp only[iL]
  grind
theorem vf {kk:wR} {k:V} (h:pL kk k=true):k.scalar=true:=by
 unfold pL at h;split at h
 .rfl
 .rfl
 .simp  at h;obtain⟨a,q⟩:=Option.isSome_iff_exists.1 h.2;exact qH q
 grind
theorem vC {r:Ii} {svs:List SV} {ys:List V} {sv:SV} (aa:∀s a,r≠.loadF s a) (U:∀kk z ok,r=.lookup kk z ok->z.good=true) (h:b8 ν m H Z svs ys) (ho:∀d,SV.dH d svs=true->∀ob,bk m d=some ob->dV ν m H Z d ob) (B:oT m r svs=some sv) :
 ∃y,eS H r ys=some y/\cW ν m H Z sv y:=by
 unfold oT at B;split at B
 .
  obtain⟨T,_,rfl,h1,G⟩:=h.inv;rw[G.cU];split at B
  .rename_i cs q;obtain⟨ak,e,rfl⟩:=h1.oJ q;obtain⟨es,al,hr,hc,_⟩:=ho _ (by simp[SV.dH,SV.cR]) _ q
   obtain⟨y,hy,ab⟩:=Ho hc B;refine⟨y,?_,ab⟩;simp[eS,dY,hr,Ob.rows,List.getElem?_cons_zero];omega
  grind
 .
  obtain⟨T,_,rfl,h1,G⟩:=h.inv;rw[G.cU];split at B
  .rename_i k es xs q;split at B
   .rename_i cs W;obtain⟨z,I,rfl⟩:=ζf.1 B;obtain⟨k1,am,an,e,hk,rfl⟩:=h1.xz q;cases e;have:=ho _ (by simp[SV.dH,SV.cR]) _ q
    simp[dV,hk]at this;obtain⟨rs,hr,hl,u,_⟩:=this;obtain⟨c,hc,ad⟩:=u.get W;have hj:=(ζe.1 W).1;rw[List.getElem?_take,if_pos hj,List.getElem?_drop]at hc;obtain⟨r1,t,w⟩:=ζg.1 I;obtain⟨r2,L,A⟩:=ad.cut t;obtain⟨z',O,X⟩:=A.mk w;refine⟨z',?_,.v _ _ X⟩;simp[eS,dY,hr,Ob.rows,hc,L,O]
   grind
  grind
 .
  rename_i size agg p;obtain⟨T,_,rfl,h1,G⟩:=h.inv;rw[G.cU];obtain⟨z,I,rfl⟩:=ζf.1 B;obtain⟨r1,t,w⟩:=ζg.1 I;unfold dY at t;split at t
  .rename_i cs;rcases h1.fr.lZ with rfl|⟨id,el,off,es,ys,ae,rfl,X,hr,he,ao,u⟩
   .refine⟨z,by simp[eS,dY,t,w],.v _ _ (.same _ ?_)⟩
    have af  := by have:=h1.fr.good;simpa [V.good]using this
    obtain⟨r',ap,A⟩:=(di.same (H:=H) (Z:=Z) af).cut t;obtain⟨z',O,C⟩:=A.mk w;exact C.good
   .obtain⟨r2,L,A⟩:=u.cut t;obtain⟨z',O,C⟩:=A.mk w;refine⟨z',?_,.v _ _ C⟩;unfold bp at hr;simp[eS,dY,hr,he];have:cut ae off size=some r2:=by
     unfold cut at L ⊢
     grind
    grind
  .grind
  grind
 .
  rename_i kk z ok d k;obtain⟨T,_,rfl,h1,G⟩:=h.inv;obtain⟨w2,_,rfl,h3,h4⟩:=G.inv;rw[h4.cU];split at B
  .rename_i Q q;split at B
   .rename_i hk;obtain⟨_,e,rfl⟩:=h1.CD q;have S:=h3.fr.scalar.1 (vf hk);subst S;obtain⟨aj,hr,ah⟩:=ho _ (by simp[SV.dH,SV.cR]) _ q
    obtain⟨f1,f2⟩:=A3   ah;split at B
    .rename_i j v u;obtain⟨v',ai,Y⟩:=f2 j v u;simp  at B;subst B;refine⟨if ok=true then .tup [v',.bool true]else v',by simp[eS,mC,hr,hk,ai],?_⟩
     cases ok
     .exact .v _ _ Y
     .refine .v _ _ (.tup _ _ rfl (di.cons Y (.cons (.same _ rfl) .nil)).2)
    .rename_i u;simp  at B;subst B;refine⟨if ok=true then .tup [z,.bool false]else z,by simp[eS,mC,hr,hk,f1 u],?_⟩
     have I:=U kk z ok rfl;cases ok
     .exact .v _ _ (.same _ I)
     .exact .v _ _ (.same _ (by simp[V.good,V.cE,I]))
    grind
   grind
  grind
 .
  rename_i kk z ok p k;obtain⟨T,_,rfl,h1,G⟩:=h.inv;obtain⟨w2,_,rfl,h3,h4⟩:=G.inv;rw[h4.cU];obtain⟨x,D,rfl⟩:=ζf.1 B;simp[eS]at D;have I:=U kk z ok rfl;split at D
  .rename_i Q J;have key:mC H T=some Q/\V.sB Q=true:=by
    unfold mC at J;split at J
    .rw[h1.fr.gw];simp  at J;subst J;exact⟨rfl,rfl⟩
    .rw[h1.fr.fmap];simp  at J;subst J;exact⟨rfl,by have:=h1.fr.good;simpa [V.good]using this⟩
    .simp at J
    .simp at J
   split at D
   .rename_i hk;have S:=h3.fr.scalar.1 (vf hk);subst S;split at D
    .rename_i j v u;simp  at D;subst D;have hv  := by
      have:∀{l:List (V×V)} {i:Nat},V.sB l=true->iL w2 l i=some (some (j,v))->v.good=true:=by
       intro l
       induction l with
       | nil=>intro i _ h;simp[iL]at h
       | cons p l ih=>
        intro i hg h;simp[V.sB]at hg;simp[iL]at h;split at h
        .obtain⟨_,rfl⟩:=h;exact hg.1.2
        .exact ih hg.2 h
        .simp at h
      exact this key.2 u
     refine⟨if ok=true then .tup [v,.bool true]else v,by simp[eS,key.1,hk,u],?_⟩
     cases ok
     .exact .v _ _ (.same _ hv)
     .exact .v _ _ (.same _ (by simp[V.good,V.cE,hv]))
    .rename_i u;simp  at D;subst D;refine⟨if ok=true then .tup [z,.bool false]else z,by simp[eS,key.1,hk,u],?_⟩
     cases ok
     .exact .v _ _ (.same _ I)
     .exact .v _ _ (.same _ (by simp[V.good,V.cE,I]))
    .simp at D
   .simp at D
  .simp at D
 .exact absurd rfl (aa _ _)
 grind
end
end Go.VE
namespace Go.VE
variable [bX]
section
variable {Rv:Nat->Prop} {ν ν':Nu} {Z Z':Nat->Prop} {st st':St} {m m':Tb bP} {F F':Frame} {H H':bl}
theorem R.lt (r:R ν Z st F H) {id:Nat} (h:fS ν st.m id):id<H.length:=by
 obtain⟨d,ob,h1,q,rfl⟩:=h;have:=r.obj d ob h1
 cases ob with
 | sl k es z=>
  simp only[cC]at q;simp only[dV,q,if_true]at this;obtain⟨A,hr,_⟩:=this;exact(ζe.1 hr).1
 | box B=>obtain⟨es,u,hr,_⟩:=this;exact(ζe.1 hr).1
 | mp w=>obtain⟨t,hr,_⟩:=this;exact(ζe.1 hr).1
theorem R.vu (r:R ν Z st F H) {id:Nat} (h:Z id):id<H.length:=by
 have:=r.zrow id h;unfold bp at this;obtain⟨x,q⟩:=Option.isSome_iff_exists.1 this;obtain⟨ob,h1,_⟩:=ζg.1 q;exact(ζe.1 h1).1
theorem Deep.mono (d:Deep H Z) (h:∀id,Z id->bp H' id=bp H id):Deep H' Z where
 row:=λid es t q hr c hc u hu=>by
  rw[h id q]at hr;obtain⟨x,w⟩:=d.row id es t q hr c hc u hu;exact⟨x,w.mono λk hk=>⟨hk,h k hk⟩⟩
theorem uR.mono {ys:List (List V)} (h:∀id,Z id->Z' id/\bp H' id=bp H id) (s:uR H Z ys):uR H' Z' ys:=λc hc u hu=>by
 obtain⟨x,q⟩:=s c hc u hu;exact⟨x,q.mono h⟩
theorem Cp.mono {a b:List (V×V)} (h:∀id,Z id->Z' id/\bp H' id=bp H id) (s:Cp H Z a b):Cp H' Z' a b:=⟨s.1,λj u v hu hv=>⟨(s.2 j u v hu hv).1,(s.2 j u v hu hv).2.mono h⟩⟩
theorem dV.mono {d J:Nat} {ob:bP} (B:∀id,Z id->Z' id/\bp H' id=bp H id) (D:ν' J=ν d) (G:cC ob=true->H'[(ν d).1]? = H[(ν d).1]?)
 (O:∀e,ob.cR e=true->∀ob',bk m' e=some ob'->∃ob,bk m e=some ob/\ν' e=ν e/\sameShape ob ob') (o:dV ν m H Z d ob):dV ν' m' H' Z' J ob:=by
 cases ob with
 | sl k es L=>
  simp only[dV,D]at o ⊢;split
  .rename_i hk;rw[if_pos hk]at o;obtain⟨z,h1,q,u,A,C⟩:=o;exact⟨z,by rw[G (by simpa [cC]using hk)];exact h1,q,u.mono B,A.mono B,C⟩
  .rename_i hk;rw[if_neg hk]at o;exact o
 | box Q=>
  obtain⟨es,w,h1,q,u⟩:=o;exact⟨es,w,by rw[D,G rfl];exact h1,q.mono B O,u⟩
 | mp I=>
  obtain⟨t,h1,q⟩:=o;exact⟨t,by rw[D,G rfl];exact h1,q.mono B⟩
theorem jc (ν:Nu) (m:Tb bP) (e:Nat):∀ob',bk m e=some ob'->∃ob,bk m e=some ob/\ν e=ν e/\sameShape ob ob':=λob' h=>⟨ob',h,rfl,.refl _⟩
theorem R.heap (r:R ν Z st F H) (D:∀id,fS ν st.m id->H'[id]? = H[id]?) (B:∀id,Z id->bp H' id=bp H id):R ν Z st F H' where
 slot:=λs t u=>(r.slot s t u).mono (λid h=>⟨h,B id h⟩) λd _=>jc ν st.m d
 obj:=λd ob q=>dV.mono (λid h=>⟨h,B id h⟩) rfl (λw=>D _ ⟨d,ob,q,w,rfl⟩) (λe _=>jc ν st.m e) (r.obj d ob q)
 inj:=r.inj
 apart:=r.apart
 zrow:=λid h=>by rw[B id h];exact r.zrow id h
 deep:=r.deep.mono B
theorem R.put (r:R ν Z st F H) {d:Nat} {sv:SV} {y:V} (h:cW ν st.m H Z sv y):R ν Z { st with g:=bT st.g d sv } (set F d y) H where
 slot:=λs x q=>by
  by_cases e:d=s
  .subst e;rw[cD]at q;cases q;rw[sD];exact h
  .rw[d_ st.g sv e]at q;rw[gX _ _ e];exact r.slot s x q
 obj:=r.obj
 inj:=r.inj
 apart:=r.apart
 zrow:=r.zrow
 deep:=r.deep
theorem Ev.slots (g:Tb SV):Ev Rv ν Z st H ν Z { st with g:=g } H:=
 ⟨Nat.le_refl _,λ_ _ _ _ _=>rfl,λ_ h=>⟨h,rfl⟩,λ_ h=>.inl h,λ_ h=>.inl h,λ_ _ q h=>⟨q,h,rfl,.refl _⟩,rfl⟩
def jq (ν:Nu) (d:Nat) (p:Nat×Nat):Nu:=λk=>if k=d then p else ν k
theorem iJ (ν:Nu) (d:Nat) (p:Nat×Nat):jq ν d p d=p:=if_pos rfl
theorem rK (ν:Nu) {d k:Nat} (p:Nat×Nat) (h:k≠d):jq ν d p k=ν k:=if_neg h
theorem mP {d:Nat} (h:st.new d=true):d∉st.pin/\bk st.m d=none/\uS d st.g=false/\r_ d st.m=false:=by
 unfold St.new at h;simp only[ζh,Bool.not_eq_true',Option.isNone_iff_eq_none,List.contains_eq_mem,decide_eq_false_iff_not]at h;exact⟨h.1.1.1,h.1.1.2,h.1.2,h.2⟩
theorem tu {d:Nat} {ob:bP} {p:Nat×Nat} {e:Nat} (h:e≠d):∀ob',bk (bT m d ob) e=some ob'->∃ob,bk m e=some ob/\jq ν d p e=ν e/\sameShape ob ob':=λob' q=>by
 rw[d_ m ob (Ne.symm h)]at q;exact⟨ob',q,rK ν p h,.refl _⟩
theorem R.add (r:R ν Z st F H) {d:Nat} (O:st.new d=true) {ob:bP} {p:Nat×Nat} (G:cC ob=true->¬fS ν st.m p.1/\¬Z p.1) (U:dV (jq ν d p) (bT st.m d ob) H Z d ob) :
 R (jq ν d p) Z { st with m:=bT st.m d ob } F H:=by
 obtain⟨W,X,Q,S⟩:=mP O;have key:∀u q,bk (bT st.m d ob) u=some q->u≠d->bk st.m u=some q:=λu q h e=>by rw[d_ st.m ob (Ne.symm e)]at h;exact h
 refine⟨λs T J=>?_,λu q D=>?_,?_,?_,r.zrow,r.deep⟩
 .refine(r.slot s T J).mono (λid h=>⟨h,rfl⟩) λe L=>tu ?_
  rintro rfl;rw[yC Q J]at L;cases L
 .by_cases e:u=d
  .subst e;simp only at D;rw[cD]at D;cases D;exact U
  .have A:=key u q D e;refine dV.mono (λid h=>⟨h,rfl⟩) (rK ν p e) (λ_=>rfl) (λk hk=>tu ?_) (r.obj u q A)
   rintro rfl;rw[xR S A]at hk;cases hk
 .intro t B o1 o2 h1 C w I z
  by_cases e1:t=d <;> by_cases e2:B=d
  .rw[e1,e2]
  .subst e1;rw[iJ,rK ν p e2]at z;simp only at h1;rw[cD]at h1;cases h1;exact absurd ⟨B,o2,key B o2 C e2,I,z.symm⟩ (G w).1
  .subst e2;rw[iJ,rK ν p e1]at z;simp only at C;rw[cD]at C;cases C;exact absurd ⟨t,o1,key t o1 h1 e1,w,z⟩ (G I).1
  .rw[rK ν p e1,rK ν p e2]at z;exact r.inj t B o1 o2 (key t o1 h1 e1) (key B o2 C e2) w I z
 .intro t o1 h1 w
  by_cases e1:t=d
  .subst e1;simp only at h1;rw[cD]at h1;cases h1;rw[iJ];exact(G w).2
  .rw[rK ν p e1];exact r.apart t o1 (key t o1 h1 e1) w
theorem IM {d:Nat} {ob:bP} {p:Nat×Nat} {id:Nat} (h:fS (jq ν d p) (bT m d ob) id):fS ν m id\/(cC ob=true/\id=p.1):=by
 obtain⟨k,o,h1,t,q⟩:=h
 by_cases e:k=d
 .subst e;rw[cD]at h1;cases h1;rw[iJ]at q;exact .inr ⟨t,q.symm⟩
 .rw[rK ν p e]at q;rw[d_ m ob (Ne.symm e)]at h1;exact .inl ⟨k,o,h1,t,q⟩
theorem Ev.add {d:Nat} (B:st.new d=true) {ob:bP} {p:Nat×Nat} (D:H.length<=H'.length) (G:∀id,id<H.length->¬Rv id->H'[id]? = H[id]?) (J:∀id,Z id->bp H' id=bp H id)
 (O:cC ob=true->Rv p.1\/H.length<=p.1):Ev Rv ν Z st H (jq ν d p) Z { st with m:=bT st.m d ob } H' where
 len:=D
 same:=λid h _ _ hr=>G id h hr
 rows:=λid h=>⟨h,J id h⟩
 own:=λid h=>by
  rcases IM h with h|⟨h1,rfl⟩
  .exact .inl h
  .exact .inr (O h1)
 frz:=λid h=>.inl h
 pin:=λe t q h=>by
  have:e≠d:=by rintro rfl;exact(mP B).1 t
  exact tu this q h
 pins:=rfl
theorem R.gJ (r:R ν Z st F H) {d:Nat} {ob ob':bP} (h0:bk st.m d=some ob) (D:sameShape ob ob') (U:cC ob'=cC ob) (O:∀id,id≠(ν d).1->H'[id]? = H[id]?) (B:cC ob=true)
 (W:dV ν (bT st.m d ob') H' Z d ob'):R ν Z { st with m:=bT st.m d ob' } F H':=by
 have u:∀id,Z id->Z id/\bp H' id=bp H id:=λid h=>⟨h,by
  unfold bp;rw[O id (by rintro rfl;exact r.apart d ob h0 B h)]⟩
 have L:∀e q,bk (bT st.m d ob') e=some q->∃t,bk st.m e=some t/\ν e=ν e/\sameShape t q:=λe q h=>by
  by_cases k:e=d
  .subst k;rw[cD]at h;cases h;exact⟨ob,h0,rfl,D⟩
  .rw[d_ st.m ob' (Ne.symm k)]at h;exact⟨q,h,rfl,.refl _⟩
 have A:∀e q,bk (bT st.m d ob') e=some q->∃t,bk st.m e=some t/\cC t=cC q:=λe q h=>by
  by_cases k:e=d
  .subst k;rw[cD]at h;cases h;exact⟨ob,h0,U.symm⟩
  .rw[d_ st.m ob' (Ne.symm k)]at h;exact⟨q,h,rfl⟩
 refine⟨λs S D=>(r.slot s S D).mono u λe _=>L e,λC q w=>?_,?_,?_,λid h=>by rw[(u id h).2];exact r.zrow id h,r.deep.mono λid h=>(u id h).2⟩
 .by_cases e:C=d
  .subst e;simp only at w;rw[cD]at w;cases w;exact W
  .simp only at w;rw[d_ st.m ob' (Ne.symm e)]at w;refine dV.mono u rfl (λG=>O _ λh=>e (r.inj C d q ob w h0 G B h)) (λk _=>L k) (r.obj C q w)
 .intro z Q o1 o2 h1 T I X Y;obtain⟨p1,k1,J⟩:=A z o1 h1;obtain⟨p2,k2,l2⟩:=A Q o2 T;exact r.inj z Q p1 p2 k1 k2 (by rw[J];exact I) (by rw[l2];exact X) Y
 .intro z o1 h1 I;obtain⟨p1,k1,J⟩:=A z o1 h1;exact r.apart z p1 k1 (by rw[J];exact I)
theorem Ev.gJ (r:R ν Z st F H) {d:Nat} {ob ob':bP} (h0:bk st.m d=some ob) (G:sameShape ob ob') (O:cC ob'=cC ob) (D:∀id,id≠(ν d).1->H'[id]? = H[id]?) (B:cC ob=true) (J:H.length<=H'.length) :
 Ev Rv ν Z st H ν Z { st with m:=bT st.m d ob' } H' where
 len:=J
 same:=λid _ u _ _=>D id λe=>u ⟨d,ob,h0,B,e.symm⟩
 rows:=λid h=>⟨h,by unfold bp;rw[D id (by rintro rfl;exact r.apart d ob h0 B h)]⟩
 own:=λid ⟨k,o,h1,w,t⟩=>by
  by_cases e:k=d
  .subst e;simp only at h1;rw[cD]at h1;cases h1;exact .inl ⟨k,ob,h0,B,t⟩
  .simp only at h1;rw[d_ st.m ob' (Ne.symm e)]at h1;exact .inl ⟨k,o,h1,w,t⟩
 frz:=λid h=>.inl h
 pin:=λe _ q h=>by
  by_cases k:e=d
  .subst k;simp only at h;rw[cD]at h;cases h;exact⟨ob,h0,rfl,G⟩
  .simp only at h;rw[d_ st.m ob' (Ne.symm k)]at h;exact⟨q,h,rfl,.refl _⟩
 pins:=rfl
theorem R.less (r:R ν Z st F H) {g:Tb SV} {m':Tb bP} (hg:∀s sv,bk g s=some sv->bk st.g s=some sv) (B:∀d ob,bk m' d=some ob->bk st.m d=some ob):R ν Z { st with g:=g,m:=m' } F H where
 slot:=λs sv u=>(r.slot s sv (hg s sv u)).mono (λid h=>⟨h,rfl⟩) λe _ q h=>⟨q,B e q h,rfl,.refl _⟩
 obj:=λd ob w=>dV.mono (λid h=>⟨h,rfl⟩) rfl (λ_=>rfl) (λe _ q h=>⟨q,B e q h,rfl,.refl _⟩) (r.obj d ob (B d ob w))
 inj:=λd t ob q h1 z=>r.inj d t ob q (B d ob h1) (B t q z)
 apart:=λd ob h=>r.apart d ob (B d ob h)
 zrow:=r.zrow
 deep:=r.deep
theorem Ev.less {g:Tb SV} {m':Tb bP} (B:∀d ob,bk m' d=some ob->bk st.m d=some ob):Ev Rv ν Z st H ν Z { st with g:=g,m:=m' } H:=
 ⟨Nat.le_refl _,λ_ _ _ _ _=>rfl,λ_ h=>⟨h,rfl⟩,λ_ ⟨d,ob,h1,t,u⟩=>.inl ⟨d,ob,B d ob h1,t,u⟩,λ_ h=>.inl h,λe _ q h=>⟨q,B e q h,rfl,.refl _⟩,rfl⟩
theorem Ev.heap (B:H.length<=H'.length) (D:∀id,id<H.length->¬fS ν st.m id->¬Z id->¬Rv id->H'[id]? = H[id]?) (G:∀id,Z id->bp H' id=bp H id):Ev Rv ν Z st H ν Z st H':=
 ⟨B,D,λid h=>⟨h,G id h⟩,λ_ h=>.inl h,λ_ h=>.inl h,λ_ _ q h=>⟨q,h,rfl,.refl _⟩,rfl⟩
end
end Go.VE
namespace Go.VE
variable [bX]
section
variable {Rv:Nat->Prop} {ν ν':Nu} {Z Z':Nat->Prop} {st st':St} {m m':Tb bP} {F F':Frame} {H H':bl}
theorem gC.E_ {xs ys:List (List V)} (h:gC H Z xs ys):uR H Z ys:=λc hc u hu=>by
 obtain⟨i,t⟩:=List.mem_iff_getElem?.1 hc;have w:i<xs.length:=by rw[h.1];grind
 have hr:=h.2 i _ c (ζd w) t;obtain⟨j,z⟩:=List.mem_iff_getElem?.1 hu;have q:j<(xs[i]).length:=by rw[hr.1];grind
 exact⟨_,hr.2 j _ u (ζd q) z⟩
theorem gC.same {xs:List (List V)} (h:V.od xs=true):gC H Z xs xs:=
 ⟨rfl,λj u v hu hv=>by rw[hu]at hv;cases hv;exact di.same (lH.1 h j u hu)⟩
theorem nP {z:List V} (h:V.cE z=true):∀n,V.od (List.replicate n z)=true
 | 0=>rfl
 | n+1=>by simp[List.replicate_succ,V.od,h,nP h n]
theorem AF {es:Nat}:∀{ps qs:List (Nat×V)} {xs B r:List (List V)},gC H Z xs B->ps.map (·.1)=qs.map (·.1)->di H Z (ps.map (·.2)) (qs.map (·.2))->gE es xs ps=some r->∃G,gE es B qs=some G/\gC H Z r G
 | [],qs,xs,B,r,D,h1,J,h=>by
  have:qs=[]:=by simp_all
  subst this;simp[gE]at h ⊢;grind
 | (i,v)::ps,qs,xs,B,r,D,h1,J,h=>by
  cases qs with
  | nil=>simp_all
  | cons q qs=>
   obtain⟨j,w⟩:=q;simp  at h1;obtain⟨e,h1⟩:=h1;subst e;obtain⟨w',z,e,t,u⟩:=J.inv;obtain⟨rfl,rfl⟩:=e;have hc:=t.cells;simp only[gE]at h ⊢;split at h
   .rw[if_pos ⟨by rw[<-hc.1];grind,by rw[<-D.1];grind,by rw[hc.one];grind⟩]
    exact AF (D.set i hc) h1 u h
   grind
theorem Dh:∀{idx:List Nat} {xs:List V},idx.length=xs.length->(idx.zip xs).map (·.1)=idx
 | [],xs,_=>by simp
 | i::idx,[],h=>by simp_all
 | i::idx,x::xs,h=>by simp[Dh (idx:=idx) (xs:=xs) (by grind)]
theorem CT:∀{idx:List Nat} {xs:List V},idx.length=xs.length->(idx.zip xs).map (·.2)=xs
 | [],[],_=>by simp
 | [],x::xs,h=>by simp_all
 | i::idx,[],h=>by simp_all
 | i::idx,x::xs,h=>by simp[CT (idx:=idx) (xs:=xs) (by grind)]
theorem Ln {a:Lh} {svs:List SV} {ys:List V} {d:Nat} {ob:bP} {sv:SV} (hk:Aw (.a a)=true) (r:b8 ν m H Z svs ys) (h:pE m a svs d=some (ob,sv)) :
 ∃o mk,iZ a ys=some (o,mk)/\cC ob=true/\o≠.free/\∀(id:Nat) (ν':Nu) (m':Tb bP) (H':bl),ν' d=(id,0)->bk m' d=some ob->H'[id]? = some o->(∀k,Z k->bp H' k=bp H k) ->
  (∀e,SV.dH e svs=true->∀ob',bk m' e=some ob'->∃ob,bk m e=some ob/\ν' e=ν e/\sameShape ob ob')->dV ν' m' H' Z d ob/\cW ν' m' H' Z sv (mk.val id):=by
 unfold pE at h;split at h
 .
  rename_i size zero;obtain⟨rfl,rfl⟩:=h;rw[r.cU];simp only[Aw,ζh]at hk;refine⟨_,_,rfl,rfl,by simp,λid ν' m' H' e1 e2 e3 e4 e5=>⟨⟨_,zero,by rw[e1];omega,b8.qM (di.same hk.1),hk.2⟩,?_⟩⟩
  exact .ptr _ _ _ λob' q=>by rw[e2]at q;cases q;exact⟨_,rfl,by rw[e1];rfl⟩
 .
  split at h
  .rename_i A;obtain⟨rfl,rfl⟩:=h;obtain⟨y,_,rfl,h1,z⟩:=r.inv;rw[z.cU];have hc:=h1.fr.cells;refine⟨.row y.cells.length [y.cells],.ptr,by simp[iZ,hc.one,A],rfl,by simp,λid ν' m' H' e1 e2 e3 e4 e5=>⟨⟨_,y.cells,by rw[e1];omega,b8.qM (hc.mono λk hk=>⟨hk,e4 k hk⟩),by rw[hc.one];simp_all⟩,?_⟩⟩
   exact .ptr _ _ _ λob' q=>by rw[e2]at q;cases q;exact⟨_,rfl,by rw[e1];rfl⟩
  grind
 .
  split at h
  .rename_i w;obtain⟨rfl,rfl⟩:=h;obtain⟨y,_,rfl,h1,z⟩:=r.inv;rw[z.cU];obtain⟨L,rfl,T⟩:=h1.iK;have G:=DO w T;refine⟨.row L.length [L],.ptr,by simp[iZ,V.cells,G],rfl,by simp,λid ν' m' H' e1 e2 e3 e4 e5=>⟨⟨_,L,by rw[e1];omega,T.mono (λk hk=>⟨hk,e4 k hk⟩) λe O=>e5 e (by simp[SV.dH,SV.cR,O]),G⟩,?_⟩⟩
   exact .ptr _ _ _ λob' q=>by rw[e2]at q;cases q;exact⟨_,rfl,by rw[e1];rfl⟩
  grind
 .
  split at h
  .rename_i w;obtain⟨rfl,rfl⟩:=h;obtain⟨y,_,rfl,h1,z⟩:=r.inv;rw[z.cU];obtain⟨U,G⟩:=lK w h1;refine⟨.row [y].length [[y]],.ptr,by simp[iZ,U,G],rfl,by simp,λid ν' m' H' e1 e2 e3 e4 e5=>⟨⟨_,[y],by rw[e1];omega,.cons (h1.mono (λk hk=>⟨hk,e4 k hk⟩) λe O=>e5 e (by simp[SV.dH,O])) .nil,by simp_all⟩,?_⟩⟩
   exact .ptr _ _ _ λob' q=>by rw[e2]at q;cases q;exact⟨_,rfl,by rw[e1];rfl⟩
  grind
 .
  rename_i size zero k n k' c;obtain⟨_,_,rfl,h1,z⟩:=r.inv;obtain⟨_,_,rfl,W,X⟩:=z.inv;rw[h1.fr.int,W.fr.int,X.cU];split at h
  .rename_i hc;obtain⟨rfl,rfl⟩:=h;have Q:cF (if n=c then Fl.row else Fl.part)=true:=by split <;> rfl
   refine⟨_,_,by simp only[iZ];rw[if_pos hc],Q,by simp,λid ν' m' H' e1 e2 e3 e4 e5=>⟨?_,?_⟩⟩
   .simp[dV,Q,e1];have hg:=nP hk c.toNat;have S:n.toNat<=c.toNat:=by omega
    refine⟨_,e3,by simp_all,?_,(gC.same hg).E_,λe=>?_⟩
    .simp[Nat.min_eq_left S];exact gC.same (nP hk _)
    grind
   .refine .own _ _ λob' q=>?_
    rw[e2]at q;cases q;exact⟨_,_,_,rfl,by rw[rH Q,e1];simp[Mk.val]⟩
  grind
 .
  rename_i vs size len zero idx;split at h
  .rename_i xs Y;split at h
   .rename_i w;obtain⟨rows,hr,e⟩:=ζf.1 h;obtain⟨rfl,rfl⟩:=e;have I:=r.dG Y;obtain⟨t,B,u⟩:=AF   (qs:=idx.zip ys) (gC.same (nP hk len)) (by rw[Dh w,Dh (by rw[<-I.1];exact w)]) (by rw[CT w,CT (by rw[<-I.1];exact w)];exact I) hr
    have C:t.length=len:=by
     have:∀{J:List (Nat×V)} {a r:List (List V)},gE size a J=some r->r.length=a.length:=by
      intro J
      induction J with
      | nil=>intro a r h;simp[gE]at h;subst h;rfl
      | cons p J ih=>
       intro a r h;simp only[gE]at h;split at h
       .rw[ih h];simp
       .simp at h
     rw[this B];simp
    refine⟨.row size t,.sl size len,by simp only[iZ];rw[if_pos (by rw[<-I.1];exact w),B];rfl,rfl,by simp,λid ν' m' H' e1 e2 e3 e4 e5=>⟨?_,?_⟩⟩
    .have D:=u.mono   λk hk=>⟨hk,e4 k hk⟩
     simp only[dV,e1];refine⟨_,e3,by simp[u.1],?_,D.E_,λ_=>⟨trivial,u.1.symm⟩⟩
     simp[u.1];exact D
    .refine .own _ _ λob' q=>?_
     rw[e2]at q;cases q;exact⟨_,_,_,rfl,by rw[u.1,C];simp[rz,e1,Mk.val]⟩
   grind
  grind
 .
  obtain⟨rfl,rfl⟩:=h;rw[r.cU];refine⟨_,_,rfl,rfl,by simp,λid ν' m' H' e1 e2 e3 e4 e5=>⟨⟨_,by rw[e1];exact e3,rfl,by simp⟩,?_⟩⟩
  exact .mp _ _ λob' q=>by rw[e2]at q;cases q;exact⟨_,rfl,by rw[e1];rfl⟩
 grind
theorem b8.Tj {cs:List SV} {B:List V} (h:b8 ν m H Z cs B) {size o:Nat} {x:SV} {y:V} {r:List SV} (J:cW ν m H Z x y) (D:putCells m size o x cs=some r) (G:B.all V.one=true) :
 y.cells.length=size/\o+size<=B.length/\y.cells.all V.one=true/\b8 ν m H Z r (B.take o++y.cells++B.drop (o+y.cells.length))/\(B.take o++y.cells++B.drop (o+y.cells.length)).all V.one=true:=by
 have q:∀k:Nat,(B.take k).all V.one=true/\(B.drop k).all V.one=true:=λk=>
  ⟨List.all_eq_true.2 λz u=>List.all_eq_true.1 G z (List.mem_of_mem_take u),List.all_eq_true.2 λz u=>List.all_eq_true.1 G z (List.mem_of_mem_drop u)⟩
 unfold putCells at D;split at D
 .split at D
  .rename_i hc;simp only[ζa]at D;subst D;have t:=J.fr.cells;refine⟨by rw[<-t.1];simp_all,by rw[<-h.1];grind,by rw[t.one];grind,?_,?_⟩
   .have e:y.cells.length=size:=by rw[<-t.1];simp_all
    rw[e];exact((h.take o).append (b8.qM t)).append (h.drop _)
   .simp only[List.all_append,(q _).1,(q _).2,t.one,hc.2.2,Bool.and_self]
  grind
 .split at D
  .rename_i hc;simp only[ζa]at D;subst D;obtain⟨w,rfl,A⟩:=J.iK;have C:=DO hc.2.2 A;have e:w.length=size:=by rw[<-A.1];simp_all
   refine⟨e,by rw[<-h.1];grind,C,?_,?_⟩
   .show b8 ν m H Z _ (B.take o++w++B.drop (o+w.length));rw[e];exact((h.take o).append A).append (h.drop _)
   .simp[(q _).1,(q _).2,V.cells,C]
  grind
 .split at D
  .rename_i hc;simp only[ζa]at D;subst D;obtain⟨I,L⟩:=lK hc.1 J;rw[I];refine⟨by simp[hc.2.1],by rw[<-h.1];grind,by simp_all,?_,?_⟩
   .exact((h.take o).append (.cons J .nil)).append (h.drop _)
   grind
  grind
theorem wv {size:Nat} {x:SV} {y:V} {xs:List (List V)} (r:cW ν m H Z x y) (B:∀d ob,bk m d=some ob->dV ν m H Z d ob) (h:kg m size x=some xs):∃ys,dM H size y=some ys/\gC H Z xs ys:=by
 unfold kg at h;split at h
 .split at h
  .rename_i k es u q;obtain⟨_,_,_,e,rfl⟩:=r.kq q;cases e;have o:=B _ _ q;simp[dV]at o;split at h
   .rename_i hk;rw[if_pos hk]at o;split at h
    .rename_i t;simp  at h;subst h;obtain⟨ys,hr,w,z,_⟩:=o;rw[rH hk];exact⟨_,by simp[dM,if_pos t,hr,Ob.rows,if_pos w],z⟩
    grind
   .rename_i hk;simp  at h;subst h;refine⟨[],?_,rfl,by simp⟩
    cases k <;> simp[cF]at hk <;> rfl
  grind
 .simp  at h;subst h;rw[r.fr.bH];exact⟨[],rfl,rfl,by simp⟩
 .simp  at h;subst h;rw[r.fr.c9];exact⟨[],rfl,rfl,by simp⟩
 .split at h
  .rename_i es u t;simp  at h;subst h;have hg:=r.fr.good;rcases r.fr.lX with rfl|⟨id,off,ys,rfl,A,hr,w,z⟩
   .exact⟨_,by simp[dM,if_pos t],gC.same (by simpa [V.good]using hg)⟩
   .unfold bp at hr;exact⟨_,by simp[dM,if_pos t,hr,if_pos w],z⟩
  grind
 grind
theorem Ev.re {m1:Tb bP} (B:∀d ob,bk m1 d=some ob->bk st.m d=some ob) {d:Nat} (O:d∉st.pin) {ob:bP} {p:Nat×Nat} (D:H.length<=H'.length) (G:∀id,id<H.length->¬fS ν st.m id->¬Rv id->H'[id]? = H[id]?)
 (J:∀id,Z id->bp H' id=bp H id) (U:cC ob=true->fS ν st.m p.1\/Rv p.1\/H.length<=p.1):Ev Rv ν Z st H (jq ν d p) Z { st with m:=bT m1 d ob } H' where
 len:=D
 same:=λid h w _ hr=>G id h w hr
 rows:=λid h=>⟨h,J id h⟩
 own:=λid h=>by
  rcases IM h with h|⟨h1,rfl⟩
  .obtain⟨k,o,h1,t,u⟩:=h;exact .inl ⟨k,o,B k o h1,t,u⟩
  grind
 frz:=λid h=>.inl h
 pin:=λe z q h=>by
  have:e≠d:=by grind
  obtain⟨o,h1,t,u⟩:=tu (ν:=ν) (p:=p) this q h
  grind
 pins:=rfl
def Kept (dst:Option Nat) (ν:Nu) (m:Tb bP) (ν':Nu) (m':Tb bP):Prop:=∀e q,dst≠some e->bk m' e=some q->∃ob,bk m e=some ob/\ν' e=ν e/\sameShape ob q
theorem Kept.refl {dst:Option Nat}:Kept dst ν m ν m:=λe q _ h=>⟨q,h,rfl,.refl _⟩
theorem Kept.gJ {dst:Option Nat} {d:Nat} {ob ob':bP} (h0:bk m d=some ob) (B:sameShape ob ob'):Kept dst ν m ν (bT m d ob'):=λe q _ h=>by
 by_cases k:e=d
 .subst k;rw[cD]at h;grind
 .rw[d_ m ob' (Ne.symm k)]at h;exact⟨q,h,rfl,.refl _⟩
theorem Kept.add {d:Nat} {ob:bP} {p:Nat×Nat} {m1:Tb bP} (B:∀d ob,bk m1 d=some ob->bk m d=some ob):Kept (some d) ν m (jq ν d p) (bT m1 d ob):=λe q t h=>by
 have:e≠d:=λh=>t (by rw[h])
 obtain⟨o,h1,u,w⟩:=tu (ν:=ν) (p:=p) this q h
 grind
theorem kn {d:Nat}:∀e ob,bk (en d m) e=some ob->bk m e=some ob:=λ_ _ h=>(nL h).2
theorem Cp.put {k x y:V} {a b r:List (V×V)} (G:k.scalar=true) (h:Cp H Z a b) (J:FR H Z x y) (B:pG k x a=some r):∃D,pG k y b=some D/\Cp H Z r D:=by
 unfold pG at B;obtain⟨f1,f2⟩:=A3   h;split at B
 .rename_i j v z;simp  at B;subst B;obtain⟨C,t,_⟩:=f2 j v z;refine⟨b.set j (k,y),by unfold pG;rw[t],by simp[h.1],λi u w hu q=>?_⟩
  rw[List.getElem?_set]at hu q;split at hu
  .grind
  .rename_i e;rw[if_neg e]at q;exact h.2 i u w hu q
 .simp  at B;subst B;refine⟨b++[(k,y)],by unfold pG;simp_all,by simp[h.1],λi u w hu q=>?_⟩
  by_cases A:i<a.length
  .rw[List.getElem?_append_left A]at hu;rw[List.getElem?_append_left (by rw[<-h.1];omega)]at q
   exact h.2 i u w hu q
  .rw[List.getElem?_append_right (by rw[<-h.1];omega),<-h.1]at q
   grind
 grind
theorem IA (r:R ν Z st F H) {d:Nat} {cs:List SV} (B:bk st.m d=some (.box cs)):∀{l:List SV} {D:List V},b8 ν st.m H Z l D->l.all (JH st.m d)=true->D.all (qn (ν d).1)=true:=by
 intro l
 induction l with
 | nil=>intro D u _;rw[u.cU];rfl
 | cons a l I=>
  intro D u z;obtain⟨w,D,rfl,g1,g2⟩:=u.inv;simp only[List.all_cons,ζh]at z ⊢;refine⟨?_,I g2 z.2⟩;have q:=z.1;unfold JH at q;split at q
  .rename_i J O;simp  at q;obtain⟨A,C⟩:=q;split at C
   .rename_i L t;obtain⟨_,_,rfl⟩:=g1.oJ t;simp[qn];exact λe=>A (r.inj J d _ _ t B rfl rfl e)
   grind
  .rcases FR.lZ g1.fr with rfl|⟨id,el,off,_,_,_,rfl,G,_⟩
   .rfl
   .simp[qn];rintro rfl;exact r.apart d _ B rfl G
  grind
theorem Bn (r:R ν Z st F H) {dst:Option Nat} {l:Il} {svs:List SV} {ys:List V} {sv:SV} (U:b8 ν st.m H Z svs ys) (h:jN st dst l svs=some (sv,st')) :
 ∃y H' ν',eY H l ys=some (y,H')/\R ν' Z st' F H'/\cW ν' st'.m H' Z sv y/\Ev (λ_=>False) ν Z st H ν' Z st' H'/\Kept dst ν st.m ν' st'.m:=by
 unfold jN at h;split at h
 .
  rename_i size d o x;obtain⟨_,_,rfl,h1,h2⟩:=U.inv;obtain⟨y,_,rfl,h3,h4⟩:=h2.inv;rw[h4.cU];split at h
  .rename_i cs q;obtain⟨ar,hp,e⟩:=ζf.1 h;obtain⟨rfl,rfl⟩:=e;obtain⟨_,_,rfl⟩:=h1.oJ q;obtain⟨es,C,hr,hc,S⟩:=r.obj d _ q;obtain⟨p1,p2,p3,p4,p5⟩:=b8.Tj hc h3 hp S;have G:∀id,id≠(ν d).1->(H.set (ν d).1 (.row es [C.take o++y.cells++C.drop (o+y.cells.length)]))[id]? = H[id]? := λid D=>by grind
   have B:∀id,Z id->Z id/\bp (H.set (ν d).1 (.row es [C.take o++y.cells++C.drop (o+y.cells.length)])) id=bp H id:=λid B=>⟨B,by
    unfold bp;rw[G id (by rintro rfl;exact r.apart d _ q rfl B)]⟩
   refine⟨.undef,H.set (ν d).1 (.row es [C.take o++y.cells++C.drop (o+y.cells.length)]),ν,?_,?_,.v _ _ (.same _ rfl),Ev.gJ r q trivial rfl G rfl (by simp),Kept.gJ q trivial⟩
   .simp only[eY,hr,List.getElem?_cons_zero,if_pos (And.intro p1 (And.intro p2 p3)),List.set_cons_zero]
   .refine r.gJ q  trivial rfl G rfl ⟨es,_,?_,p4.mono B (λe _ L he=>?_),p5⟩
    .grind
    .by_cases k:e=d
     .subst k;rw[cD]at he;cases he;exact⟨_,q,rfl,trivial⟩
     .rw[d_ st.m _ (Ne.symm k)]at he;exact⟨L,he,rfl,.refl _⟩
  grind
 .
  rename_i size d i o x;obtain⟨_,_,rfl,h1,h2⟩:=U.inv;obtain⟨y,_,rfl,h3,h4⟩:=h2.inv;rw[h4.cU];split at h
  .rename_i k es xs q;split at h
   .rename_i cs af;split at h
    .rename_i hc;obtain⟨rfl,rfl⟩:=h;obtain⟨_,_,_,e,hk,rfl⟩:=h1.xz q;cases e;have ob:=r.obj d _ q;simp[dV,hk]at ob;obtain⟨rs,hr,hl,hf,ah,ai⟩:=ob;obtain⟨c,aj,ab⟩:=hf.get af;have hi:=(ζe.1 af).1;rw[List.getElem?_take,if_pos hi,List.getElem?_drop]at aj;have hy:=h3.fr.cells;have q1:y.cells.length=size:=by rw[<-hy.1];exact hc.1
     have T:o+size<=c.length:=by rw[<-ab.1];exact hc.2.1
     have q3:y.cells.all V.one=true:=by rw[hy.one];exact hc.2.2
     have A:di H Z (cs.take o++x.cells++cs.drop (o+x.cells.length)) (c.take o++y.cells++c.drop (o+y.cells.length)):=by
      rw[hc.1,q1];exact((ab.take o).append hy).append (ab.drop _)
     generalize hN:(c.take o++y.cells++c.drop (o+y.cells.length))=nc at A;have G:∀id,id≠(ν d).1->(H.set (ν d).1 (.row es (rs.set ((ν d).2+i) nc)))[id]? = H[id]? := λid D=>by rw[List.getElem?_set];rw[if_neg (Ne.symm D)]
     have I  := hk;have B:∀id,Z id->Z id/\bp (H.set (ν d).1 (.row es (rs.set ((ν d).2+i) nc))) id=bp H id:=λid B=>⟨B,by
      unfold bp;rw[G id (by rintro rfl;exact r.apart d _ q I B)]⟩
     have ad:sameShape (.sl k es xs) (.sl k es (xs.set i (cs.take o++x.cells++cs.drop (o+x.cells.length)))):=⟨rfl,rfl,by simp⟩
     refine⟨.undef,H.set (ν d).1 (.row es (rs.set ((ν d).2+i) nc)),ν,?_,?_,.v _ _ (.same _ rfl),Ev.gJ r q ad rfl G I (by simp),Kept.gJ q ad⟩
     .simp only[eY,hr,aj,if_pos (And.intro q1 (And.intro T q3)),hN]
     .refine r.gJ q ad rfl G I ?_;simp only[dV,hk];have au:=(ζe.1 hr).1;refine⟨_,List.getElem?_set_self au,by simpa using hl,?_,?_,λe=>?_⟩
      .have e1:List.take (xs.set i (cs.take o++x.cells++cs.drop (o+x.cells.length))).length (List.drop (ν d).2 (rs.set ((ν d).2+i) nc))=((rs.drop (ν d).2).take xs.length).set i nc:=by
        rw[List.length_set,List.drop_set,if_neg (by omega),List.take_set]
        congr 1;omega
       rw[e1];exact(hf.set i A).mono B
      .intro cc ak u hu;rcases List.mem_or_eq_of_mem_set ak with hm|rfl
       .obtain⟨z,av⟩:=ah cc hm u hu;exact⟨z,av.mono B⟩
       .obtain⟨j,hj⟩:=List.mem_iff_getElem?.1 hu;have al:=(ζe.1 hj).1;rw[<-A.1]at al;exact⟨_,(A.2 j _ u (ζd al) hj).mono B⟩
      .obtain⟨a1,O⟩:=ai e;exact⟨a1,by simpa using O⟩
    .simp at h
   grind
  grind
 .
  rename_i kk d k x;obtain⟨_,_,rfl,h1,h2⟩:=U.inv;obtain⟨k',_,rfl,h3,h4⟩:=h2.inv;obtain⟨y,_,rfl,h5,h6⟩:=h4.inv;rw[h6.cU];split at h
  .rename_i aw q;split at h
   .rename_i hk;obtain⟨aH,hp,e⟩:=ζf.1 h;simp  at e;obtain⟨rfl,rfl⟩:=e;obtain⟨_,_,rfl⟩:=h1.CD q;have ax:=h3.fr.scalar.1 (vf hk);subst ax;obtain⟨aI,hr,ay⟩:=r.obj d _ q;obtain⟨r',aA,aB⟩:=ay.put (vf hk) h5.fr hp;have G:∀id,id≠(ν d).1->(H.set (ν d).1 (.map r'))[id]? = H[id]? := λid D=>by rw[List.getElem?_set];rw[if_neg (Ne.symm D)]
    have B:∀id,Z id->Z id/\bp (H.set (ν d).1 (.map r')) id=bp H id:=λid B=>⟨B,by
     unfold bp;rw[G id (by rintro rfl;exact r.apart d _ q rfl B)]⟩
    refine⟨.undef,H.set (ν d).1 (.map r'),ν,?_,?_,.v _ _ (.same _ rfl),Ev.gJ r q trivial rfl G rfl (by simp),Kept.gJ q trivial⟩
    .simp[eY,hr,hk,aA]
    .refine r.gJ q  trivial rfl G rfl ⟨r',?_,aB.mono B⟩;rw[List.getElem?_set_self (ζe.1 hr).1]
   .simp at h
  .simp at h
 .
  rename_i size s x;obtain⟨y1,_,rfl,h1,h2⟩:=U.inv;obtain⟨y2,_,rfl,h3,h4⟩:=h2.inv;rw[h4.cU];split at h
  .rename_i xs e1 e2;obtain⟨a1,p1,_⟩:=wv h1 r.obj e1;obtain⟨O,p2,T⟩:=wv h3 r.obj e2;have  := List.length_eq_zero_iff.1 (by have:=T.1;simpa using this.symm)
   subst this
   cases dst with
   | none=>simp at h
   | some t=>
    have lit:∀(k:Fl) (x0:V),cF k=false->rz (ν t) k size 0=x0->st.new t=true->(∀y,FR H Z x0 y->y=x0)->FR H Z x0 y1 ->
     ∃y H' ν',eY H (.append size) [y1,y2]=some (y,H')/\R ν' Z { st with m:=bT st.m t (.sl k size []) } F H'/\cW ν' (bT st.m t (.sl k size [])) H' Z (.own t) y/\Ev (λ_=>False) ν Z st H ν' Z { st with m:=bT st.m t (.sl k size []) } H'/\Kept (some t) ν st.m ν' (bT st.m t (.sl k size [])):=λk x0 hk aC hn hx hf=>by
     have am:cC (.sl k size [])=true->False:=by simp[cC,hk]
     refine⟨y1,H,jq ν t (ν t),by simp[eY,p1,p2],r.add hn   (λh=>(am h).elim) (by simp[dV,hk]),.own _ _ λL h'=>?_,Ev.add  hn (Nat.le_refl _) (λ_ _ _=>rfl) (λ_ _=>rfl) (λh=>(am h).elim),Kept.add λ_ _ h=>h⟩
     rw[cD]at h';cases h';exact⟨_,_,_,rfl,by rw[iJ,hx _ hf];exact aC.symm⟩
    cases s with
    | own d=>
     dsimp only at h;split at h
     .rename_i ob q;split at h
      .rename_i A;simp  at h;obtain⟨rfl,rfl⟩:=h;simp[kg,q]at e1
       cases ob with
       | sl k es W=>
        obtain⟨_,_,_,e,rfl⟩:=h1.kq q;cases e;have r1:R ν Z { st with m:=en d st.m } F H:=r.less  (λ_ _ h=>h) kn
        obtain⟨n1,_,_,_⟩:=mP A;have an:dV (jq ν t (ν d)) (bT (en d st.m) t (.sl k es W)) H Z t (.sl k es W):=by
         have o:=r.obj d _ q;simp[dV,iJ]at o ⊢;exact o
        refine⟨rz (ν d) k es W.length,H,jq ν t (ν d),by simp[eY,p1,p2],r1.add A  (λhb=>⟨λQ=>?_,r.apart d _ q hb⟩) an,.own _ _ λL h'=>?_,?_,Kept.add kn⟩
        .obtain⟨k2,o2,g1,g2,g3⟩:=Q;obtain⟨g4,g5⟩:=nL g1;exact g4 (r.inj d k2 _ o2 q g5 hb g2 g3.symm)
        .rw[cD]at h';cases h';exact⟨_,_,_,rfl,by rw[iJ]⟩
        .by_cases hb:cC (.sl k es W)=true
         .exact Ev.re  (m1:=en d st.m) kn n1 (Nat.le_refl _) (λ_ _ _ _=>rfl) (λ_ _=>rfl) (λ_=>.inl ⟨d,_,q,hb,rfl⟩)
         .exact(Ev.less  kn).trans (Ev.add  A (Nat.le_refl _) (λ_ _ _=>rfl) (λ_ _=>rfl) λh=>absurd h hb)
       | box cs=>cases e1
       | mp aw=>cases e1
      .simp at h
     .simp at h
    | v x0=>
     cases x0 with
     | bH=>
      dsimp only at h;split at h
      .rename_i hn;simp  at h;obtain⟨rfl,rfl⟩:=h;exact lit .nil _ rfl rfl hn (λy h=>h.bH) h1.fr
      .simp at h
     | c9=>
      dsimp only at h;split at h
      .rename_i hn;simp  at h;obtain⟨rfl,rfl⟩:=h;exact lit .emp _ rfl rfl hn (λy h=>h.c9) h1.fr
      .simp at h
     | _=>simp at h
    | _=>simp at h
  .rename_i xs zs D e1 e2;split at h
   .rename_i hc;obtain⟨a1,p1,q1⟩:=wv h1 r.obj e1;obtain⟨O,p2,T⟩:=wv h3 r.obj e2
    cases dst with
    | none=>simp at h
    | some t=>
     dsimp only at h;generalize ao:giveUp st.m s=m1 at h;split at h
     .rename_i A;simp  at h;obtain⟨rfl,rfl⟩:=h;obtain⟨n1,_,_,_⟩:=mP A;have grow:∃H1,gQ H y1=some H1/\H1.length=H.length/\(∀id,¬fS ν st.m id->H1[id]? = H[id]?) /\
       (∀id,fS ν m1 id->H1[id]? = H[id]?)/\(∀id,Z id->bp H1 id=bp H id):=by
       subst ao
       cases s with
       | own d=>
        simp[kg]at e1;split at e1
        .rename_i k es W q;obtain⟨_,_,_,e,rfl⟩:=h1.kq q;cases e
         by_cases hk:cF k=true
         .have o:=r.obj d _ q;simp[dV,hk]at o;obtain⟨ys,hr,_⟩:=o;have I  := hk;have G:∀id,id≠(ν d).1->(H.set (ν d).1 .dead)[id]? = H[id]? := λid D=>by rw[List.getElem?_set];rw[if_neg (Ne.symm D)]
          refine⟨H.set (ν d).1 .dead,by rw[rH hk];simp[gQ,hr],by simp,λid Q=>G id λe=>Q ⟨d,_,q,I,e.symm⟩,λid Q=>G id λe=>?_,λid B=>?_⟩
          .obtain⟨k2,o2,g1,g2,g3⟩:=Q;obtain⟨g4,g5⟩:=nL g1;exact g4 (r.inj d k2 _ o2 q g5 I g2 (by rw[g3,e]))
          .unfold bp;rw[G id (by rintro rfl;exact r.apart d _ q I B)]
         .refine⟨H,?_,rfl,λ_ _=>rfl,λ_ _=>rfl,λ_ _=>rfl⟩
          cases k <;> simp[cF]at hk <;> rfl
        .simp at e1
       | v x0=>
        refine⟨H,?_,rfl,λ_ _=>rfl,λ_ _=>rfl,λ_ _=>rfl⟩
        cases x0 <;> simp[Bw]at hc
        .rw[h1.fr.c9];rfl
        .rw[h1.fr.bH];rfl
       | _=>simp[Bw]at hc
      obtain⟨H1,g1,g2,g3,g4,g5⟩:=grow;have J:∀e ob,bk m1 e=some ob->bk st.m e=some ob:=by
       subst ao;cases s <;> first|exact λ_ _ h=>h|exact kn
      have aa:∀id,fS ν m1 id->id<H.length:=λid ⟨k,o,w1,w2,w3⟩=>r.lt ⟨k,o,J k o w1,w2,w3⟩
      have X:∀id,id<H.length->(H1++[Ob.row size (a1++O)])[id]? = H1[id]? := λid hl=>List.getElem?_append_left (by rw[g2];exact hl)
      have ae:∀id,Z id->bp (H1++[Ob.row size (a1++O)]) id=bp H id:=λid B=>by
       have:=g5 id B;unfold bp at this ⊢;rw[X id (r.vu B)];exact this
      have r1  := r.less  (λ_ _ h=>h) J
      have r2  := r1.heap (λid Q=>by rw[X id (aa id Q)];exact g4 id Q) ae
      have ff:=(q1.append T).mono   λid B=>⟨B,ae id B⟩
      have Y:(H1++[Ob.row size (a1++O)])[H.length]? = some (.row size (a1++O)):=by
       rw[<-g2];simp
      refine⟨.hsl H.length size 0 (xs.length+zs.length),H1++[Ob.row size (a1++O)],jq ν t (H.length,0),?_,?_,?_,?_,Kept.add J⟩
      .have ap:O≠[]:=by
        rintro rfl;have aD  := List.length_eq_zero_iff.1 (by have:=T.1;simpa using this)
        exact D aD
       have aE:a1.length+O.length<=2147483648:=by rw[<-q1.1,<-T.1];exact hc.1
       have aF:=q1.1;have aG:=T.1
       cases O with
       | nil=>exact absurd rfl ap
       | cons w ws=>
        simp only[eY,p1,p2,if_pos aE,g1,Option.map_some,aF,aG]
      .refine r2.add A (λ_=>⟨λQ=>?_,λB=>?_⟩) ?_
       .exact absurd (aa _ Q) (by simp)
       .exact absurd (r.vu B) (by simp)
       .simp only[dV,iJ];refine⟨_,Y,by simp[q1.1,T.1],?_,ff.E_,λ_=>⟨trivial,by simp[q1.1,T.1]⟩⟩
        have:(xs++zs).length=(a1++O).length:=by simp[q1.1,T.1]
        rw[this,List.drop_zero,List.take_length];exact ff
      .refine .own _ _ λL h'=>?_
       simp only at h';rw[cD]at h';cases h';exact⟨_,_,_,rfl,by simp[rz,iJ]⟩
      .refine Ev.re J n1 (by simp[g2]) (λid hl Q _=>?_) ae (λ_=>.inr (.inr (Nat.le_refl _)))
       rw[X id hl];exact g3 id Q
     .simp at h
   .simp at h
  .simp at h
 .
  rename_i size d o x l;obtain⟨_,_,rfl,h1,h2⟩:=U.inv;obtain⟨y,aJ,rfl,h3,h4⟩:=h2.inv;split at h
  .rename_i aq;split at h
   .rename_i cs q;obtain⟨ar,hp,e⟩:=ζf.1 h;simp  at e;obtain⟨rfl,rfl⟩:=e;obtain⟨_,_,rfl⟩:=h1.oJ q;obtain⟨es,C,hr,hc,S⟩:=r.obj d _ q;obtain⟨p1,p2,p3,p4,p5⟩:=b8.Tj hc h3 hp S;have G:∀id,id≠(ν d).1->(H.set (ν d).1 (.row es [C.take o++y.cells++C.drop (o+y.cells.length)]))[id]? = H[id]? := λid D=>by rw[List.getElem?_set];rw[if_neg (Ne.symm D)]
    have B:∀id,Z id->Z id/\bp (H.set (ν d).1 (.row es [C.take o++y.cells++C.drop (o+y.cells.length)])) id=bp H id:=λid B=>⟨B,by
     unfold bp;rw[G id (by rintro rfl;exact r.apart d _ q rfl B)]⟩
    refine⟨.undef,H.set (ν d).1 (.row es [C.take o++y.cells++C.drop (o+y.cells.length)]),ν,?_,?_,.v _ _ (.same _ rfl),Ev.gJ r q trivial rfl G rfl (by simp),Kept.gJ q trivial⟩
    .simp only[eY,IA r q h4 aq,if_true,hr,List.getElem?_cons_zero,if_pos (And.intro p1 (And.intro p2 p3)),List.set_cons_zero]
    .refine r.gJ q  trivial rfl G rfl ⟨es,_,?_,p4.mono B (λe _ L he=>?_),p5⟩
     .have:=(ζe.1 hr).1;rw[List.getElem?_set_self this]
     .by_cases k:e=d
      .subst k;rw[cD]at he;cases he;exact⟨_,q,rfl,trivial⟩
      .rw[d_ st.m _ (Ne.symm k)]at he;exact⟨L,he,rfl,.refl _⟩
   .simp at h
  .simp at h
 grind
end
end Go.VE
namespace Go.VE
variable [bX]
def zz (d:Nat) (st:St):Option St:=
 match bk st.m d with
 | some (.sl k es q)=>some { st with g:=A5 (SV.sub d (nF k es q)) st.g,m:=mapM (SV.uE d (nF k es q)) (en d st.m) }
 | _=>none
def Up (st:St):Loc->Option SV
 | .s n=>bk st.g n
 | .c b i=>match bk st.m b with
  | some (.box cs)=>cs[i]?
  | _=>none
def ghost (x:Gh) (st:St):Option St:=
 match x with
 | .closeS l=>match Up st l with
  | some (.own d)=>zz d st
  | some _=>some st
  | none=>none
 | .close d=>zz d st
 | .closeB d=>match bk st.m d with
  | some (.box q)=>match dG q with
   | some t=>some { st with g:=A5 (SV.Bc d t) st.g,m:=mapM (SV.qI d t) (en d st.m) }
   | none=>none
  | _=>none
 | .canon (.s n) d es=>match bk st.g n with
  | some (.v .bH)=>if st.new d then some { st with g:=bT st.g n (.own d),m:=bT st.m d (.sl .nil es []) } else none
  | some (.v .c9)=>if st.new d then some { st with g:=bT st.g n (.own d),m:=bT st.m d (.sl .emp es []) } else none
  | some (.own e)=>if e=d then some st else if st.new d then some { st with g:=Bh e d st.g,m:=vQ e d st.m } else none
  | _=>none
 | .canon (.c b i) d es=>match bk st.m b with
  | some (.box q)=>match q[i]? with
   | some (.v .bH)=>if st.new d then some { st with m:=bT (bT st.m d (.sl .nil es [])) b (.box (q.set i (.own d))) } else none
   | some (.v .c9)=>if st.new d then some { st with m:=bT (bT st.m d (.sl .emp es [])) b (.box (q.set i (.own d))) } else none
   | some (.own e)=>if e=d then some st else if st.new d then some { st with g:=Bh e d st.g,m:=vQ e d st.m } else none
   | _=>none
  | _=>none
 | .keep gs u=>match Az st.g gs,Az st.m u with
  | some g,some m=>some { st with g:=g,m:=m }
  | _,_=>none
 | .drop w=>some { st with g:=nO w st.g }
section
variable {Rv:Nat->Prop} {ν ν':Nu} {Z Z':Nat->Prop} {st st':St} {m m':Tb bP} {F F':Frame} {H H':bl} {N:Nat->FuncId}
theorem Mr (r:R ν Z st F H) {dst:Option Nat} {size d:Nat} {J O:Bool} {U:List SV} {ys:List V} {sv:SV} (B:b8 ν st.m H Z (.own d::U) ys) (h:yZ st dst size J O d U=some (sv,st')) :
 ∃y ν',bh N (.slice size J O) ys=some y/\R ν' Z st' F H/\cW ν' st'.m H Z sv y/\Ev Rv ν Z st H ν' Z st' H:=by
 unfold yZ at h;obtain⟨y0,zs,rfl,h1,S⟩:=B.inv;split at h
 .rename_i k es C ws t q T;split at h
  .rename_i hk;obtain⟨⟨l,hh⟩,W,h⟩:=ζg.1 h;obtain⟨⟨a,b⟩,z,h⟩:=ζg.1 h;dsimp only at h;split at h
   .rename_i u;obtain⟨rfl,rfl⟩:=h;obtain⟨_,_,_,e,rfl⟩:=h1.kq q;cases e;have D:b<=C.length/\a<=b:=by
     unfold dN at z
     grind
    have o:=r.obj d _ q;simp[dV,hk.1]at o;obtain⟨rs,hr,hl,X,L,_⟩:=o;have w  := hk.1;have r1:R ν Z { st with m:=en d st.m } F H:=r.less  (λ_ _ h=>h) kn
    have G:¬fS ν (en d st.m) (ν d).1:=by
     rintro⟨k2,o2,g1,g2,g3⟩;obtain⟨g4,g5⟩:=nL g1;exact g4 (r.inj d k2 _ o2 q g5 w g2 g3.symm)
    have A:((C.take b).drop a).length=b-a:=by simp_all
    refine⟨.hsl (ν d).1 es ((ν d).2+a) (b-a),jq ν t ((ν d).1,(ν d).2+a),?_,?_,?_,?_⟩
    .have I:=b8.dG S T;rw[rH hk.1];simp[bh,I.lC W,hG,if_pos hk.2,z]
    .refine r1.add u (λ_=>⟨G,r.apart d _ q w⟩) ?_
     simp[dV,cF,iJ];have:=(X.take b).drop a;have e:List.drop a (List.take b (List.take C.length (List.drop (ν d).2 rs)))=List.take (b-a) (List.drop ((ν d).2+a) rs):=by
      rw[List.take_take,Nat.min_eq_left D.1,List.drop_take,List.drop_drop]
     grind
    .refine .own _ _ λY Q=>?_
     rw[cD]at Q;cases Q;exact⟨_,_,_,rfl,by rw[A];simp[rz,iJ]⟩
    .exact Ev.re (st:=st) kn (mP u).1 (Nat.le_refl _) (λ_ _ _ _=>rfl) (λ_ _=>rfl) (λ_=>.inl ⟨d,_,q,w,rfl⟩)
   grind
  grind
 grind
theorem Ea {f:SV->SV}:∀{g:Tb SV} {s:Nat},bk (A5 f g) s=(bk g s).map f
 | [],s=>rfl
 | (k,x)::r,s=>by
  simp[A5,bk];split
  .rfl
  .exact Ea
def xZ (f:List SV->List SV):bP->bP
 | .box cs=>.box (f cs)
 | o=>o
theorem Es {f:List SV->List SV}:∀{m:Tb bP} {d:Nat},bk (mapM f m) d=(bk m d).map (xZ f)
 | [],d=>rfl
 | (k,x)::r,d=>by
  cases x <;> simp[mapM,bk] <;> split <;> first|rfl|exact Es
theorem tD {d:Nat} {w:V}:∀{l:List SV} {j:Nat},(SV.uE d w l)[j]? = (l[j]?).map (SV.sub d w)
 | [],j=>by simp[SV.uE]
 | x::r,0=>by simp[SV.uE]
 | x::r,j+1=>by simp[SV.uE,tD ]
theorem rD {d:Nat} {w:List V}:∀{l:List SV} {j:Nat},(SV.qI d w l)[j]? = (l[j]?).map (SV.Bc d w)
 | [],j=>by simp[SV.qI]
 | x::r,0=>by simp[SV.qI]
 | x::r,j+1=>by simp[SV.qI,rD ]
theorem oD {d:Nat} {w:V}:∀{l:List SV},(SV.uE d w l).length=l.length
 | []=>rfl
 | x::r=>by simp[SV.uE,oD ]
theorem nk {d:Nat} {w:List V}:∀{l:List SV},(SV.qI d w l).length=l.length
 | []=>rfl
 | x::r=>by simp[SV.qI,nk ]
theorem cW.sub {sv:SV} {y:V} {d:Nat} {k:Fl} {es:Nat} {xs:List (List V)} (h0:bk m d=some (.sl k es xs)) (B:FR H Z' (nF k es xs) (rz (ν d) k es xs.length)) (D:∀id,Z id->Z' id)
 (O:∀e ob',bk m' e=some ob'->e≠d/\∃ob,bk m e=some ob/\sameShape ob ob') (r:cW ν m H Z sv y):cW ν m' H Z' (sv.sub d (nF k es xs)) y:=by
 have q:∀id,Z id->Z' id/\bp H id=bp H id:=λid h=>⟨D id h,rfl⟩
 have z:∀e ob',bk m' e=some ob'->∃ob,bk m e=some ob/\ν e=ν e/\sameShape ob ob':=λe ob' h=>by grind
 induction r with
 | v x y h=>exact .v x y (h.mono q)
 | own e y h=>
  simp[SV.sub];split
  .rename_i C;subst C;obtain⟨_,_,_,e1,rfl⟩:=h _ h0;cases e1;exact .v _ _ B
  .exact(cW.own e y h).mono q λe _=>z e
 | ptr e o y h=>exact(cW.ptr e o y h).mono q λe _=>z e
 | el e i o y h=>exact(cW.el e i o y h).mono q λe _=>z e
 | mp e y h=>exact(cW.mp e y h).mono q λe _=>z e
 | clo f a b t G A L hva I w J=>
  refine .clo f _ _ t G (by rw[oD];omega) (by rw[oD];omega) (λj u v hu hv=>?_) (λj u v hu hv=>?_)
  .rw[tD,ζf]at hu;grind
  .rw[tD,ζf]at hu;grind
 | tup a t A hva w=>
  refine .tup _ t (by rw[oD];omega) (λj u v hu hv=>?_)
  rw[tD,ζf]at hu;grind
 | agg a t A hva w=>
  refine .agg _ t (by rw[oD];omega) (λj u v hu hv=>?_)
  rw[tD,ζf]at hu;grind
 | yl id=>exact .yl id
theorem PW {f:FuncId} {a b:List SV} {y:V} (r:cW ν m H Z (.clo f a b) y):cW ν m H Z (NZ f a b) y:=by
 unfold NZ;split
 .rename_i x z A B;cases r with|clo _ _ _ t u C D hva q=>
  have h1:=b8.dG (ν:=ν) (m:=m) (H:=H) (Z:=Z) (ys:=t) ⟨C,hva⟩ A;have w:=b8.dG (ν:=ν) (m:=m) (H:=H) (Z:=Z) (ys:=u) ⟨D,q⟩ B;exact .v _ _ (.clo f x z t u h1.1 w.1 h1.2 w.2)
 .exact r
theorem cW.Bc {sv:SV} {y:V} {d:Nat} {cs:List SV} {xs:List V} (h0:bk m d=some (.box cs)) (G:∀o,o<=xs.length->FR H Z' (.fptr (xs.drop o)) (.hptr (ν d).1 0 o)) (J:∀id,Z id->Z' id)
 (O:∀e ob',bk m' e=some ob'->e≠d/\∃ob,bk m e=some ob/\sameShape ob ob') (r:cW ν m H Z sv y):cW ν m' H Z' (sv.Bc d xs) y:=by
 have t:∀id,Z id->Z' id/\bp H id=bp H id:=λid h=>⟨J id h,rfl⟩
 have A:∀e ob',bk m' e=some ob'->∃ob,bk m e=some ob/\ν e=ν e/\sameShape ob ob':=λe ob' h=>by obtain⟨_,ob,h1,I⟩:=O e ob' h;exact⟨ob,h1,rfl,I⟩
 induction r with
 | v x y h=>exact .v x y (h.mono t)
 | own e y h=>exact(cW.own e y h).mono t λe _=>A e
 | ptr e o y h=>
  simp only[SV.Bc];split
  .rename_i L;subst L;obtain⟨_,e1,rfl⟩:=h _ h0;split
   .rename_i Q;exact .v _ _ (G o Q)
   .exact(cW.ptr e o _ h).mono t λe _=>A e
  .exact(cW.ptr e o y h).mono t λe _=>A e
 | el e i o y h=>exact(cW.el e i o y h).mono t λe _=>A e
 | mp e y h=>exact(cW.mp e y h).mono t λe _=>A e
 | clo f a b B S C T hva U w D=>
  refine PW (.clo f _ _ B S (by rw[nk];exact C) (by rw[nk];exact T) (λj u v hu hv=>?_) (λj u v hu hv=>?_))
  .rw[rD,ζf]at hu;obtain⟨z,q,rfl⟩:=hu;exact w j z v q hv
  .rw[rD,ζf]at hu;obtain⟨z,q,rfl⟩:=hu;exact D j z v q hv
 | tup a B C hva w=>
  refine .tup _ B (by rw[nk];exact C) (λj u v hu hv=>?_)
  rw[rD,ζf]at hu;obtain⟨z,q,rfl⟩:=hu;exact w j z v q hv
 | agg a B C hva w=>
  refine .agg _ B (by rw[nk];exact C) (λj u v hu hv=>?_)
  rw[rD,ζf]at hu;obtain⟨z,q,rfl⟩:=hu;exact w j z v q hv
 | yl id=>exact .yl id
theorem dV.xZ {d:Nat} {ob:bP} {f:List SV->List SV} (D:∀id,Z id->Z' id) (J:∀l,(f l).length=l.length)
 (G:∀cs B,b8 ν m H Z cs B->b8 ν m' H Z' (f cs) B) (o:dV ν m H Z d ob):dV ν m' H Z' d (xZ f ob):=by
 have q:∀id,Z id->Z' id/\bp H id=bp H id:=λid h=>⟨D id h,rfl⟩
 cases ob with
 | sl k es L=>
  simp[Go.VE.xZ,dV]at o ⊢;split
  .rename_i hk;rw[if_pos hk]at o;obtain⟨z,h1,t,w,A,C⟩:=o;exact⟨z,h1,t,w.mono q,A.mono q,C⟩
  grind
 | box cs=>
  obtain⟨es,B,h1,t,w⟩:=o;exact⟨es,B,h1,G cs B t,w⟩
 | mp I=>
  obtain⟨u,h1,t⟩:=o;exact⟨u,h1,t.mono q⟩
theorem w_ {f:List SV->List SV} {ob:bP}:cC (xZ f ob)=cC ob:=by cases ob <;> rfl
theorem Kc {f:List SV->List SV} {ob:bP}:sameShape ob (xZ f ob):=by cases ob <;> simp[xZ,sameShape]
theorem R.shut (r:R ν Z st F H) {d:Nat} {ob:bP} (h0:bk st.m d=some ob) {fs:SV->SV} {D:List SV->List SV} (hl:∀l,(D l).length=l.length) (hg:∀l (j:Nat),(D l)[j]? = (l[j]?).map fs)
 (B:∀id,Z' id↔Z id\/(cC ob=true/\id=(ν d).1)) (G:cC ob=true->∃es ys,H[(ν d).1]? = some (.row es ys)/\uR H Z ys)
 (hf:∀m',(∀e ob',bk m' e=some ob'->e≠d/\∃ob,bk st.m e=some ob/\sameShape ob ob')->∀sv y,cW ν st.m H Z sv y->cW ν m' H Z' (fs sv) y) :
 R ν Z' { st with g:=A5 fs st.g,m:=mapM D (en d st.m) } F H/\Ev Rv ν Z st H ν Z' { st with g:=A5 fs st.g,m:=mapM D (en d st.m) } H:=by
 have key:∀e ob',bk (mapM D (en d st.m)) e=some ob'->e≠d/\∃ob,bk st.m e=some ob/\ob'=xZ D ob:=λe ob' h=>by
  rw[Es,ζf]at h;obtain⟨o,h1,rfl⟩:=h;obtain⟨q,h3⟩:=nL h1
  grind
 have I:∀e ob',bk (mapM D (en d st.m)) e=some ob'->e≠d/\∃ob,bk st.m e=some ob/\sameShape ob ob':=λe ob' h=>by
  obtain⟨h1,o,q,rfl⟩:=key e ob' h;exact⟨h1,o,q,Kc⟩
 have hF:=hf _ I;have Q:∀S w,b8 ν st.m H Z S w->b8 ν (mapM D (en d st.m)) H Z' (D S) w:=λS w h=>by
  refine⟨by rw[hl];exact h.1,λj u v hu hv=>?_⟩
  rw[hg,ζf]at hu;obtain⟨u',T,rfl⟩:=hu;exact hF u' v (h.2 j u' v T hv)
 have t  := λid h=>(B id).2 (.inl h)
 refine⟨⟨λs sv O=>?_,λe ob' U=>?_,λA d2 o1 o2 h1 q C b2 hp=>?_,λA o1 h1 C=>?_,λid h=>?_,⟨λid es ys J hr c hc u hu=>?_⟩⟩,⟨Nat.le_refl _,λ_ _ _ _ _=>rfl,λid h=>⟨t id h,rfl⟩,?_,?_,?_,rfl⟩⟩
 .rw[Ea,ζf]at O;obtain⟨L,W,rfl⟩:=O;exact hF L _ (r.slot s L W)
 .obtain⟨h1,o,q,rfl⟩:=key e ob' U;exact dV.xZ t hl Q (r.obj e o q)
 .obtain⟨_,p1,k1,rfl⟩:=key A o1 h1;obtain⟨_,p2,k2,rfl⟩:=key d2 o2 q;rw[w_]at C b2;exact r.inj A d2 p1 p2 k1 k2 C b2 hp
 .obtain⟨X,p1,k1,rfl⟩:=key A o1 h1;rw[w_]at C;intro J;rcases (B _).1 J with J|⟨z,U⟩
  .exact r.apart A p1 k1 C J
  .exact X (r.inj A d p1 ob k1 h0 C z U)
 .rcases (B id).1 h with h|⟨z,rfl⟩
  .exact r.zrow id h
  .obtain⟨es,ys,hr,_⟩:=G z;unfold bp;rw[hr];rfl
 .rcases (B id).1 J with h|⟨z,rfl⟩
  .obtain⟨x,Y⟩:=r.deep.row id es ys h hr c hc u hu;exact⟨x,Y.mono λk hk=>⟨t k hk,rfl⟩⟩
  .obtain⟨ab,ad,aa,O⟩:=G z;unfold bp at hr;rw[aa]at hr;obtain⟨_,rfl⟩:=hr;obtain⟨x,Y⟩:=O c hc u hu;exact⟨x,Y.mono λk hk=>⟨t k hk,rfl⟩⟩
 .rintro id ⟨e,o,h1,q,h3⟩;obtain⟨_,p,k1,rfl⟩:=key e o h1;rw[w_]at q;exact .inl ⟨e,p,k1,q,h3⟩
 .intro id h;rcases (B id).1 h with h|⟨z,rfl⟩
  .grind
  .exact .inr (.inl ⟨d,ob,h0,z,rfl⟩)
 grind
theorem GP (r:R ν Z st F H) {d:Nat} (h:zz d st=some st'):∃Z',R ν Z' st' F H/\Ev Rv ν Z st H ν Z' st' H:=by
 simp[zz]at h;split at h
 .rename_i k es t q;simp  at h;subst h;have o:=r.obj d _ q;refine⟨λid=>Z id\/(cC (.sl k es t)=true/\id=(ν d).1),R.shut r q (λ_=>oD) (λ_ _=>tD) (λ_=>Iff.rfl) (λw=>?_) (λm' u B y hr=>?_)⟩
  .have hk:cF k=true:=w;simp[dV,hk]at o
   grind
  .refine cW.sub q ?_ (λid h=>.inl h) u hr
   by_cases hk:cF k=true
   .simp[dV,hk]at o;obtain⟨C,hr,z,A,D,_⟩:=o;rw[rH hk];have e:nF k es t=.fsl es t:=by cases k <;> simp[cF]at hk <;> rfl
    rw[e];refine FR.KJ (.inr ⟨hk,rfl⟩) (by unfold bp;rw[hr];rfl) z (A.mono λid h=>⟨.inl h,rfl⟩)
   .cases k <;> simp[cF]at hk
    .exact .same _ rfl
    .exact .same _ rfl
 grind
theorem LO (r:R ν Z st F H) {d:Nat} (h:ghost (.closeB d) st=some st'):∃Z',R ν Z' st' F H/\Ev Rv ν Z st H ν Z' st' H:=by
 simp[ghost]at h;split at h
 .rename_i C q;split at h
  .rename_i D G;simp  at h;subst h;obtain⟨es,t,hr,hc,_⟩:=r.obj d _ q;have z:=hc.dG G;have I:uR H Z [t]:=by
    intro c w u hu;simp[List.mem_singleton]at w;subst w;obtain⟨j,J⟩:=List.mem_iff_getElem?.1 hu;have L:j<D.length:=by rw[z.1];grind
    exact⟨_,z.2 j _ u (ζd L) J⟩
   refine⟨λid=>Z id\/(cC (.box C)=true/\id=(ν d).1),R.shut r q (λ_=>nk) (λ_ _=>rD) (λ_=>Iff.rfl) (λO=>⟨es,_,hr,I⟩) (λm' A Q y B=>?_)⟩
   refine cW.Bc q (λo S=>?_) (λid h=>.inl h) A B
   exact FR.BG (.inr ⟨rfl,rfl⟩) (show bp H (ν d).1=some (es,[t])by unfold bp;rw[hr];rfl) rfl (by rw[<-z.1];omega) ((z.drop o).mono λid h=>⟨.inl h,rfl⟩)
  grind
 grind
theorem tn {d e:Nat}:∀{l:List SV} {j:Nat},(SV.uG d e l)[j]? = (l[j]?).map (SV.ud d e)
 | [],j=>by simp[SV.uG]
 | x::r,0=>by simp[SV.uG]
 | x::r,j+1=>by simp[SV.uG,tn ]
theorem ow {d e:Nat}:∀{l:List SV},(SV.uG d e l).length=l.length
 | []=>rfl
 | x::r=>by simp[SV.uG,ow ]
theorem D2 {d e:Nat}:∀{g:Tb SV} {s:Nat},bk (Bh d e g) s=(bk g s).map (SV.ud d e)
 | [],s=>rfl
 | (k,x)::r,s=>by
  simp[Bh,bk];split
  .rfl
  .exact D2
theorem zI {d e:Nat} (B:d≠e):∀{m:Tb bP} {k:Nat},bk m e=none->bk (vQ d e m) k=(if k=d then none else(bk m (if k=e then d else k)).map (bP.ud d e))
 | [],k,_=>by simp[vQ,bk]
 | (n,x)::r,k,h=>by
  simp[bk]at h;split at h
  .simp_all
  .have D:=zI B  (k:=k) h;simp[vQ,bk]
   grind
def u6 (ν:Nu) (d e:Nat):Nu:=λk=>if k=e then ν d else ν k
theorem cW.ud {sv:SV} {y:V} {d e:Nat} (O:bk m e=none) (B:sv.cR e=false) (D:d≠e) (r:cW ν m H Z sv y):cW (u6 ν d e) (vQ d e m) H Z (sv.ud d e) y:=by
 have key:∀k,k≠e->∀q,bk (vQ d e m) (if k=d then e else k)=some q->∃ob,bk m k=some ob/\u6 ν d e (if k=d then e else k)=ν k/\q=ob.ud d e:=λk hk q h=>by
  rw[zI D O]at h
  by_cases h1:k=d
  .subst h1;rw[if_pos rfl,if_neg (Ne.symm D),if_pos rfl,ζf]at h;obtain⟨ob,w,rfl⟩:=h;exact⟨ob,w,by unfold u6;grind,rfl⟩
  .rw[if_neg h1,if_neg h1,if_neg hk,ζf]at h;obtain⟨ob,w,rfl⟩:=h;exact⟨ob,w,by unfold u6;grind,rfl⟩
 induction r with
 | v x y h=>exact .v x y h
 | own k y h=>
  have hk:k≠e:=by rintro rfl;simp[SV.cR]at B
  refine .own _ y λq A=>?_
  obtain⟨ob,h1,w,rfl⟩:=key k hk q A;obtain⟨_,_,_,rfl,rfl⟩:=h ob h1;exact⟨_,_,_,rfl,by rw[w]⟩
 | ptr k o y h=>
  have hk:k≠e:=by rintro rfl;simp[SV.cR]at B
  refine .ptr _ o y λq A=>?_
  obtain⟨ob,h1,w,rfl⟩:=key k hk q A;obtain⟨_,rfl,rfl⟩:=h ob h1;exact⟨_,rfl,by rw[w]⟩
 | el k i o y h=>
  have hk:k≠e:=by rintro rfl;simp[SV.cR]at B
  refine .el _ i o y λq A=>?_
  obtain⟨ob,h1,w,rfl⟩:=key k hk q A;obtain⟨_,_,_,rfl,L,rfl⟩:=h ob h1;exact⟨_,_,_,rfl,L,by rw[w]⟩
 | mp k y h=>
  have hk:k≠e:=by rintro rfl;simp[SV.cR]at B
  refine .mp _ y λq A=>?_
  obtain⟨ob,h1,w,rfl⟩:=key k hk q A;obtain⟨_,rfl,rfl⟩:=h ob h1;exact⟨_,rfl,by rw[w]⟩
 | clo f a b G Q J T hva S z I=>
  simp[SV.cR]at B;refine .clo f _ _ G Q (by rw[ow];omega) (by rw[ow];omega) (λj u v hu hv=>?_) (λj u v hu hv=>?_)
  .rw[tn,ζf]at hu;obtain⟨C,t,rfl⟩:=hu;exact z j C v t hv (sZ B.1 t)
  .rw[tn,ζf]at hu;obtain⟨C,t,rfl⟩:=hu;exact I j C v t hv (sZ B.2 t)
 | tup a G J hva z=>
  refine .tup _ G (by rw[ow];omega) (λj u v hu hv=>?_)
  rw[tn,ζf]at hu;obtain⟨C,t,rfl⟩:=hu;exact z j C v t hv (sZ B t)
 | agg a G J hva z=>
  refine .agg _ G (by rw[ow];omega) (λj u v hu hv=>?_)
  rw[tn,ζf]at hu;obtain⟨C,t,rfl⟩:=hu;exact z j C v t hv (sZ B t)
 | yl id=>exact .yl id
theorem LV (r:R ν Z st F H) {d e:Nat} (B:d≠e) (U:st.new e=true):R (u6 ν d e) Z { st with g:=Bh d e st.g,m:=vQ d e st.m } F H/\Ev Rv ν Z st H (u6 ν d e) Z { st with g:=Bh d e st.g,m:=vQ d e st.m } H:=by
 obtain⟨n1,D,W,X⟩:=mP U;have key:∀k q,bk (vQ d e st.m) k=some q->∃k0 ob,bk st.m k0=some ob/\q=ob.ud d e/\u6 ν d e k=ν k0/\k≠d/\(k=e/\k0=d\/k≠e/\k0=k):=λk q h=>by
  rw[zI B D]at h;split at h
  .simp_all
  .rename_i h1;rw[ζf]at h;obtain⟨ob,t,rfl⟩:=h
   by_cases w:k=e
   .rw[if_pos w]at t;exact⟨d,ob,t,rfl,by unfold u6;grind,h1,.inl ⟨w,rfl⟩⟩
   .rw[if_neg w]at t;exact⟨k,ob,t,rfl,by unfold u6;grind,h1,.inr ⟨w,rfl⟩⟩
 have G:∀ob:bP,cC (ob.ud d e)=cC ob:=λob=>by cases ob <;> rfl
 refine⟨⟨λs sv S=>?_,λk q hk=>?_,λI Y o1 o2 h1 t z T hp=>?_,λI o1 h1 z=>?_,r.zrow,r.deep⟩,⟨Nat.le_refl _,λ_ _ _ _ _=>rfl,λid h=>⟨h,rfl⟩,?_,λ_ h=>.inl h,?_,rfl⟩⟩
 .rw[D2,ζf]at S;obtain⟨J,A,rfl⟩:=S;exact cW.ud D (yC W A) B (r.slot s J A)
 .obtain⟨k0,ob,h1,rfl,t,_,_⟩:=key k q hk;have o:=r.obj k0 ob h1
  cases ob with
  | sl fl es xs=>simp[bP.ud,dV,t]at o ⊢;omega
  | box cs=>
   obtain⟨es,L,g1,g2,g3⟩:=o;have O  := by have:=xR X h1;simpa [bP.cR]using this
   refine⟨es,L,by grind,⟨by rw[ow];exact g2.1,λj u v hu hv=>?_⟩,g3⟩
   rw[tn,ζf]at hu;obtain⟨u',C,rfl⟩:=hu;exact cW.ud D (sZ O C) B (g2.2 j u' v C hv)
  | mp aa=>simp[bP.ud,dV,t]at o ⊢;omega
 .obtain⟨k1,p1,g1,rfl,e1,c1,Q⟩:=key I o1 h1;obtain⟨k2,p2,g2,rfl,e2,c3,c4⟩:=key Y o2 t;rw[G]at z T;have:=r.inj k1 k2 p1 p2 g1 g2 z T (by grind)
  omega
 .obtain⟨k1,p1,g1,rfl,e1,_⟩:=key I o1 h1;rw[G]at z;rw[e1];exact r.apart k1 p1 g1 z
 .rintro id ⟨k,o,h1,t,w⟩;obtain⟨k1,p1,g1,rfl,e1,_⟩:=key k o h1;rw[G]at t;exact .inl ⟨k1,p1,g1,t,by grind⟩
 .intro k hk q h;obtain⟨k1,p1,g1,rfl,e1,c1,Q⟩:=key k q h;rcases Q with⟨rfl,_⟩|⟨Q,rfl⟩
  .grind
  .exact⟨p1,g1,e1,by cases p1 <;> simp[bP.ud,sameShape]⟩
theorem R.Wh (r:R ν Z st F H) {n:Nat} {sv:SV} (h:cW ν st.m H Z sv (get F n)):R ν Z { st with g:=bT st.g n sv } F H where
 slot:=λs x q=>by
  by_cases e:n=s
  .subst e;rw[cD]at q;grind
  .rw[d_ st.g sv e]at q;exact r.slot s x q
 obj:=r.obj
 inj:=r.inj
 apart:=r.apart
 zrow:=r.zrow
 deep:=r.deep
theorem MG (r:R ν Z st F H) {n d es:Nat} {k:Fl} {x:V} (hk:nF k es []=x/\cF k=false) (D:bk st.g n=some (.v x)) (B:st.new d=true) (G:∀y,FR H Z x y->y=x) (J:rz (ν d) k es 0=x) :
 R (jq ν d (ν d)) Z { st with g:=bT st.g n (.own d),m:=bT st.m d (.sl k es []) } F H/\Ev Rv ν Z st H (jq ν d (ν d)) Z { st with g:=bT st.g n (.own d),m:=bT st.m d (.sl k es []) } H:=by
 have q:cC (.sl k es [])=true->False:=by simp[cC,hk.2]
 have r1:=r.add B (p:=ν d)  (λh=>(q h).elim) (by simp[dV,hk.2])
 refine⟨r1.Wh   (.own _ _ λu t=>?_),?_⟩
 .rw[cD]at t;cases t;rw[iJ,G _ (r.slot n _ D).fr]
  grind
 .exact(Ev.add  B (Nat.le_refl _) (λ_ _ _=>rfl) (λ_ _=>rfl) (λh=>(q h).elim)).trans (Ev.slots _)
theorem Ll (r:R ν Z st F H) {b i d es:Nat} {k:Fl} {x:V} {cs:List SV} (hk:cF k=false) (G:bk st.m b=some (.box cs)) (O:cs[i]? = some (.v x)) (B:st.new d=true) (U:∀y,FR H Z x y->y=x) (W:rz (ν d) k es 0=x) :
 ∃ν',R ν' Z { st with m:=bT (bT st.m d (.sl k es [])) b (.box (cs.set i (.own d))) } F H/\Ev Rv ν Z st H ν' Z { st with m:=bT (bT st.m d (.sl k es [])) b (.box (cs.set i (.own d))) } H:=by
 have w:cC (.sl k es [])=true->False:=by simp[cC,hk]
 have r1:=r.add B (p:=ν d)  (λh=>(w h).elim) (by simp[dV,hk])
 have z:b≠d:=by rintro rfl;rw[(mP B).2.1]at G;cases G
 have t:bk (bT st.m d (.sl k es [])) b=some (.box cs):=by rw[d_ _ _ (Ne.symm z)];omega
 obtain⟨A,C,h1,D,L⟩:=r1.obj b _ t;have Q:∀e q,bk (bT (bT st.m d (.sl k es [])) b (.box (cs.set i (.own d)))) e=some q->∃ob,bk (bT st.m d (.sl k es [])) e=some ob/\jq ν d (ν d) e=jq ν d (ν d) e/\sameShape ob q:=λe q h=>by
  by_cases I:e=b
  .subst I;rw[cD]at h;cases h;exact⟨_,t,rfl,trivial⟩
  .rw[d_ _ _ (Ne.symm I)]at h;exact⟨q,h,rfl,.refl _⟩
 refine⟨jq ν d (ν d),r1.gJ  t  trivial rfl (λ_ _=>rfl) rfl ⟨A,C,h1,⟨by simp[D.1],λj u v hu hv=>?_⟩,L⟩,?_⟩
 .rw[List.getElem?_set]at hu;split at hu
  .rename_i e;subst e;split at hu
   .cases hu;refine .own _ _ λq J=>?_
    rw[d_ _ _ z,cD]at J;cases J;rw[iJ,U v (D.2 i _ v O hv).fr]
    grind
   grind
  .exact(D.2 j u v hu hv).mono (λid h=>⟨h,rfl⟩) λe _=>Q e
 .exact(Ev.add  B (Nat.le_refl _) (λ_ _ _=>rfl) (λ_ _=>rfl) (λh=>(w h).elim)).trans (Ev.gJ r1 t trivial rfl (λ_ _=>rfl) rfl (Nat.le_refl _))
theorem Nd (r:R ν Z st F H) {x:Gh} (h:ghost x st=some st'):∃ν' Z',R ν' Z' st' F H/\Ev Rv ν Z st H ν' Z' st' H:=by
 cases x with
 | close d=>obtain⟨Z',a,b⟩:=GP (Rv:=Rv) r h;grind
 | closeS l=>
  simp[ghost]at h;split at h
  .obtain⟨Z',a,b⟩:=GP (Rv:=Rv) r h;grind
  .simp  at h;subst h;exact⟨ν,Z,r,.refl⟩
  grind
 | closeB d=>obtain⟨Z',a,b⟩:=LO (Rv:=Rv) r h;grind
 | keep gs C=>
  simp[ghost]at h;split at h
  .rename_i g m hg z;simp  at h;subst h;exact⟨ν,Z,r.less (λs B q=>pX hg q) (λd ob u=>pX z u),Ev.less (λd ob u=>pX z u)⟩
  grind
 | drop D=>
  simp[ghost]at h;subst h;exact⟨ν,Z,r.less   (λs B q=>nU q) (λd ob u=>u),Ev.less   (λd ob u=>u)⟩
 | canon l d es=>
  cases l with
  | s n=>
   simp[ghost]at h;split at h
   .rename_i q;split at h
    .rename_i t;simp  at h;obtain⟨a,b⟩:=MG (Rv:=Rv) (es:=es) (k:=.nil) r ⟨rfl,rfl⟩ q t (λy h=>h.bH) rfl
     grind
    grind
   .rename_i q;split at h
    .rename_i t;simp  at h;obtain⟨a,b⟩:=MG (Rv:=Rv) (es:=es) (k:=.emp) r ⟨rfl,rfl⟩ q t (λy h=>h.c9) rfl
     grind
    grind
   .split at h
    .simp  at h;subst h;exact⟨ν,Z,r,.refl⟩
    .rename_i w;split at h
     .rename_i t;simp  at h;obtain⟨a,b⟩:=LV (Rv:=Rv) r w t
      grind
     grind
   grind
  | c b i=>
   simp[ghost]at h;split at h
   .rename_i G A;split at h
    .rename_i q;split at h
     .rename_i t;simp  at h;obtain⟨ν',a,b⟩:=Ll (Rv:=Rv) (es:=es) (k:=.nil) r rfl A q t (λy h=>h.bH) rfl
      grind
     grind
    .rename_i q;split at h
     .rename_i t;simp  at h;obtain⟨ν',a,b⟩:=Ll (Rv:=Rv) (es:=es) (k:=.emp) r rfl A q t (λy h=>h.c9) rfl
      grind
     grind
    .split at h
     .simp  at h;subst h;exact⟨ν,Z,r,.refl⟩
     .rename_i w;split at h
      .rename_i t;simp  at h;obtain⟨a,b⟩:=LV (Rv:=Rv) r w t
       grind
      grind
    grind
   grind
end
end Go.VE
namespace Go.VE
variable [bX]
structure pN (E:Env) (f:FuncId) (q:Gc):Prop where
 keep:E.keep f=true
 own:E.own f=false
 le:∀es xs vs ys,q.go es xs vs=some ys->ys.length<=xs.length/\(q.part=false->ys.length=xs.length)
 none:∀es vs ys,q.go es [] vs=some ys->∀(H:bl) (Z:Nat->Prop) (ws:List V) (w:V),di H Z vs ws->(w=.bH\/w=.c9)->∃n X,∀k,n<=k->run E k (.fn f) (w::ws) H=some (if q.part then w else .undef,H++X)
 row:∀es xs vs ys,q.go es xs vs=some ys->∀(H:bl) (Z:Nat->Prop) (ws:List V) (id off:Nat) (rs:List (List V)),di H Z vs ws->H[id]? = some (.row es rs)->off+xs.length<=rs.length ->
  gC H Z xs ((rs.drop off).take xs.length)->uR H Z rs->¬Z id->∃n rs' X,(∀k,n<=k->run E k (.fn f) (.hsl id es off xs.length::ws) H=some (if q.part then .hsl id es off ys.length else .undef,(H++X).set id (.row es rs'))) /\
   rs'.length=rs.length/\gC H Z ys ((rs'.drop off).take ys.length)/\uR H Z rs'
section
variable {Rv:Nat->Prop} {ν ν':Nu} {Z Z':Nat->Prop} {st st':St} {m m':Tb bP} {F F':Frame} {H H':bl}
theorem Rf {E:Env} {f:FuncId} {q:Gc} (hq:pN E f q) (r:R ν Z st F H) {args:List SV} {ys:List V} (ha:b8 ν st.m H Z args ys) {dst:Option Nat} {sv:SV} (h:Dv q dst args st=some (sv,st')) :
 ∃n y H' ν',(∀k,n<=k->run E k (.fn f) ys H=some (y,H'))/\R ν' Z st' F H'/\cW ν' st'.m H' Z sv y/\Ev Rv ν Z st H ν' Z st' H'/\Kept dst ν st.m ν' st'.m:=by
 unfold Dv at h;split at h
 .rename_i d vs;obtain⟨w,ws,rfl,h1,h2⟩:=ha.inv;split at h
  .rename_i k es xs zs u D;have aa:=b8.dG h2 D;split at h
   .rename_i ns S;obtain⟨al,af⟩:=hq.le _ _ _ _ S;obtain⟨_,_,_,ee,rfl⟩:=h1.kq u;cases ee;have grow:∀X:bl,R ν Z st F (H++X)/\Ev Rv ν Z st H ν Z st (H++X)/\∀id,Z id->bp (H++X) id=bp H id:=λX=>by
     have hx:∀id,id<H.length->(H++X)[id]? = H[id]? := λid h=>List.getElem?_append_left h
     have D:∀id,Z id->bp (H++X) id=bp H id:=λid h=>by unfold bp;rw[hx id (r.vu h)]
     exact⟨r.heap (λid h=>hx id (r.lt h)) D,Ev.heap (by simp) (λid h _ _ _=>hx id h) D,D⟩
    have o:=r.obj d _ u
    cases hk:cF k with
    | false=>
     simp only[dV,hk,Bool.false_eq_true,if_false]at o;subst o;have hw:rz (ν d) k es 0=.bH\/rz (ν d) k es 0=.c9:=by cases k <;> simp[rz,cF]at hk ⊢
     obtain⟨n,X,J⟩:=hq.none _ _ _ S H Z ws _ aa hw;obtain⟨Y,G,T⟩:=grow X;simp only[hk,Bool.false_eq_true,if_false]at h;split at h
     .rename_i L;split at h
      .rename_i t;split at h
       .rename_i z;simp only[ζa,ζc]at h;obtain⟨rfl,rfl⟩:=h;have r1:R ν Z { st with m:=en d st.m } F (H++X):=Y.less (g:=st.g) (λ_ _ h=>h) kn
        rw[if_pos L]at J;refine⟨n,_,H++X,jq ν t (ν d),J,r1.add z (λhb=>by simp[cC,hk]at hb) (by simp[dV,hk]),?_,?_,Kept.add kn⟩
        .refine .own _ _ λah U=>?_
         simp only at U;rw[cD]at U;cases U;exact⟨_,_,_,rfl,by rw[iJ];rfl⟩
        .exact G.trans (Ev.re (st:=st) kn (mP z).1 (Nat.le_refl _) (λ_ _ _ _=>rfl) (λ_ _=>rfl) (λhb=>by simp[cC,hk]at hb))
       .cases h
      .cases h
     .rename_i L;simp only[ζa,ζc]at h;obtain⟨rfl,rfl⟩:=h;rw[if_neg L]at J;have hu:bT st.m d (.sl k es [])=st.m:=rL u;rw[hu];exact⟨n,_,H++X,ν,J,Y,.v _ _ (.same _ rfl),G,.refl⟩
    | true=>
     simp only[dV,hk,if_true]at o;obtain⟨rs,hr,hl,hf,ab,O⟩:=o;have A:cC (.sl k es xs)=true:=hk;obtain⟨n,B,X,J,e1,e2,e3⟩:=hq.row _ _ _ _ S H Z ws _ _ rs aa hr hl hf ab (r.apart d _ u A);obtain⟨Y,G,T⟩:=grow X;have ai:(ν d).1<(H++X).length:=by have:=(ζe.1 hr).1;simp;omega
     have D:∀id,Z id->Z id/\bp ((H++X).set (ν d).1 (.row es B)) id=bp H id:=λid C=>⟨C,by
      rw[<-T id C];unfold bp;rw[List.getElem?_set_ne];rintro rfl;exact r.apart d _ u A C⟩
     have ad:∀id,Z id->bp ((H++X).set (ν d).1 (.row es B)) id=bp (H++X) id:=λid C=>by rw[(D id C).2,T id C]
     have hh:∀id,id≠(ν d).1->((H++X).set (ν d).1 (Ob.row es B))[id]? = (H++X)[id]? := λid aj=>List.getElem?_set_ne (Ne.symm aj)
     have I:((H++X).set (ν d).1 (Ob.row es B))[(ν d).1]? = some (.row es B):=List.getElem?_set_self ai;rw[rH hk];simp only[hk,if_true]at h;split at h
     .rename_i L;split at h
      .rename_i t;split at h
       .rename_i z;simp only[ζa,ζc]at h;obtain⟨rfl,rfl⟩:=h;have r1:R ν Z { st with m:=en d st.m } F (H++X):=Y.less (g:=st.g) (λ_ _ h=>h) kn
        have ae:¬fS ν (en d st.m) (ν d).1:=by
         rintro⟨k2,o2,g1,g2,g3⟩;obtain⟨g4,g5⟩:=nL g1;exact g4 (r.inj d k2 _ o2 u g5 A g2 g3.symm)
        have r2:R ν Z { st with m:=en d st.m } F ((H++X).set (ν d).1 (.row es B)):=r1.heap (λid ho=>hh id (by rintro rfl;exact ae ho)) ad
        rw[if_pos L]at J;refine⟨n,_,_,jq ν t (ν d),J,r2.add z (λ_=>⟨ae,r.apart d _ u A⟩) ?_,?_,?_,Kept.add kn⟩
        .simp only[dV,cF,if_true,iJ];exact⟨B,I,by omega,e2.mono D,e3.mono D,λe=>by cases e⟩
        .refine .own _ _ λah U=>?_
         simp only at U;rw[cD]at U;cases U;exact⟨_,_,_,rfl,by rw[iJ];rfl⟩
        .exact G.trans (Ev.re (st:=st) kn (mP z).1 (by simp) (λid _ ho _=>hh id (by rintro rfl;exact ho ⟨d,_,u,A,rfl⟩)) ad (λ_=>.inl ⟨d,_,u,A,rfl⟩))
       .cases h
      .cases h
     .rename_i L;simp only[ζa,ζc]at h;obtain⟨rfl,rfl⟩:=h;rw[if_neg L]at J;have ak:q.part=false:=by simpa using L
      have Q:=af ak;have W:sameShape (.sl k es xs) (.sl k es ns):=⟨rfl,rfl,Q⟩;refine⟨n,_,_,ν,J,Y.gJ u W rfl hh A ?_,.v _ _ (.same _ rfl),G.trans (Ev.gJ Y u W rfl hh A (by simp)),Kept.gJ u W⟩
      simp only[dV,hk,if_true];exact⟨B,I,by omega,e2.mono D,e3.mono D,λe=>⟨(O e).1,by rw[e1,(O e).2,Q]⟩⟩
   .cases h
  .cases h
 .cases h
end
end Go.VE
namespace Go.VE
variable [bX]
def xh:Nat->List SV->Tb SV
 | _,[]=>[]
 | i,v::vs=>(i,v)::xh (i+1) vs
def start (svs:List SV) (B:iV):St:=⟨xh 0 svs,B,B.map (·.1),[],true,0⟩
def kO (S:Sys) (c:cq):Prop:=
 ∀f q t rs u,c f q t=some (rs,u)->∀(ν:Nu) (Z:Nat->Prop) (args:List V) (H:bl),(S.E.keep f=true\/H=[])->R ν Z (start q t) args H->b8 ν t H Z q args ->
  ∃n y H' ν' Z' st' F' w,run S.E n (.fn f) args H=some (y,H')/\y=result w/\st'.m=u/\b8 ν' u H' Z' rs w/\R ν' Z' st' F' H'/\Ev (λ_=>False) ν Z (start q t) H ν' Z' st' H'
section
variable {Rv:Nat->Prop} {ν ν':Nu} {Z Z':Nat->Prop} {st st':St} {m m':Tb bP} {F F':Frame} {H H' H1:bl} {N:Nat->FuncId}
theorem No {k:Fl} {es:Nat} {xs:List (List V)} {d:Nat} (o:dV ν m H Z d (.sl k es xs)):(nF k es xs).good=true:=by
 by_cases hk:cF k=true
 .simp only[dV,hk,if_true]at o;obtain⟨t,_,_,q,_⟩:=o;have e:nF k es xs=.fsl es xs:=by cases k <;> simp[cF]at hk <;> rfl
  rw[e];simp only[V.good];exact q.good
 .cases k <;> simp[cF]at hk <;> rfl
mutual
theorem Ma (D:∀d ob,bk m d=some ob->dV ν m H Z d ob):∀(n:Nat) (sv:SV) (x y:V),shut m n sv=some x->cW ν m H Z sv y->x.good=true
 | n,.v x,z,y,h,r=>by simp only[shut,ζa]at h;subst h;exact r.fr.good
 | n,.own d,z,y,h,r=>by
  simp only[shut]at h;split at h
  .rename_i k es xs B;simp only[ζa]at h;subst h;exact No (D d _ B)
  .simp at h
 | 0,.ptr d o,z,y,h,r=>by simp[shut]at h
 | n+1,.ptr d o,z,y,h,r=>by
  simp only[shut]at h;split at h
  .rename_i cs B;split at h
   .rename_i xs J;split at h
    .simp only[ζa]at h;subst h;obtain⟨es,G,_,hc,_⟩:=D d _ B;simp only[V.good];exact xY _ (mL D n cs xs G J hc)
    .simp at h
   .simp at h
  .simp at h
 | n,.el d i o,z,y,h,r=>by cases n <;> simp[shut]at h
 | n,.yl id,z,y,h,r=>by cases n <;> simp[shut]at h
 | n,.mp d,z,y,h,r=>by
  simp only[shut]at h;split at h
  .rename_i C B;simp only[ζa]at h;subst h;obtain⟨q,_,hk⟩:=D d _ B;simp only[V.good];refine DQ.2 λj u hu=>?_
   have I:j<q.length:=by rw[<-hk.1];exact(ζe.1 hu).1
   obtain⟨⟨_,h1⟩,t⟩:=hk.2 j u _ hu (ζd I);exact⟨mW h1,t.good⟩
  .simp at h
 | 0,.clo f a b,z,y,h,r=>by simp[shut]at h
 | n+1,.clo f a b,z,y,h,r=>by
  simp only[shut]at h;split at h
  .rename_i L x2 h1 t;simp only[ζa]at h;subst h;obtain⟨O,Q,rfl,S,T⟩:=r.kP;simp only[V.good,ζh];exact⟨mL D n a L O h1 S,mL D n b x2 Q t T⟩
  .simp at h
 | 0,.tup l,z,y,h,r=>by simp[shut]at h
 | n+1,.tup l,z,y,h,r=>by
  simp only[shut]at h;obtain⟨xs,h1,rfl⟩:=ζf.1 h;obtain⟨w,rfl,A⟩:=r.pU;simp only[V.good];exact mL D n l xs w h1 A
 | 0,.agg l,z,y,h,r=>by simp[shut]at h
 | n+1,.agg l,z,y,h,r=>by
  simp only[shut]at h;obtain⟨xs,h1,rfl⟩:=ζf.1 h;obtain⟨w,rfl,A⟩:=r.iK;simp only[V.good];exact mL D n l xs w h1 A
theorem mL (D:∀d ob,bk m d=some ob->dV ν m H Z d ob):∀(n:Nat) (svs:List SV) (xs ys:List V),cG m n svs=some xs->b8 ν m H Z svs ys->V.cE xs=true
 | n,[],xs,ys,h,r=>by simp only[cG,ζa]at h;subst h;rfl
 | n,sv::svs,xs,ys,h,r=>by
  simp only[cG]at h;split at h
  .rename_i y s h1 G;simp only[ζa]at h;subst h;obtain⟨J,B,rfl,r1,r2⟩:=r.inv;simp only[V.cE,ζh];exact⟨Ma D n sv y J h1 r1,mL D n svs s B G r2⟩
  .simp at h
end
theorem FV {f:V->Option V}:∀{xs ys:List (V×V)},xs.length=ys.length->(∀(j:Nat) u v,xs[j]? = some u->ys[j]? = some v->f v.1=some u.1/\f v.2=some u.2)->tX f ys=some xs
 | [],[],_,_=>rfl
 | [],y::ys,h,_=>by simp at h
 | x::xs,[],h,_=>by simp at h
 | (a,b)::xs,(c,d)::ys,h,B=>by
  obtain⟨h1,D⟩:=B 0 _ _ rfl rfl;simp only at h1 D;simp only[tX,h1,D,FV (xs:=xs) (ys:=ys) (by simpa using h) λj u v hu hv=>B (j+1) u v (by simpa using hu) (by simpa using hv)]
theorem G8:∀{l:List (V×V)} {n:Nat},V.oN n l=true↔∀(j:Nat) u,l[j]? = some u->u.1.lvl n=true/\u.2.lvl n=true
 | [],n=>by simp[V.oN]
 | (k,x)::l,n=>by
  simp only[V.oN,ζh,G8 (l:=l)];constructor
  .rintro⟨h1,B⟩ j u hu
   cases j with
   | zero=>simp at hu;subst hu;exact h1
   | succ j=>exact B j u (by simpa using hu)
  .intro h;exact⟨h 0 (k,x) rfl,λj u hu=>h (j+1) u (by simpa using hu)⟩
theorem uh {n:Nat} {xs ys:List V} (D:ko (borrow n H1) ys=some xs) (B:V.kR ys=true):ys=xs:=by
 have q:=kV (f:=borrow n H1) (xs:=ys) (ys:=ys) rfl λj u v hu hv=>by rw[hu]at hv;cases hv;exact ez n H1 (ox.1 B j u hu)
 rw[D]at q;cases q;rfl
mutual
theorem AI {fr:List Nat} (G:∀d∈fr,∀e ob,bk m e=some ob->ob.cR d=false) (J:∀d ob,bk m d=some ob->d∉fr->dV ν m H1 Z d ob) :
 ∀(n:Nat) (sv:SV) (x y:V),shut m n sv=some x->(∀d∈fr,sv.cR d=false)->cW ν m H1 Z sv y->∀k,x.lvl k=true->borrow k H1 y=some x
 | n,.v x,z,y,h,B,r,k,hk=>by simp only[shut,ζa]at h;subst h;exact r.fr.borrow k hk
 | n,.own d,z,y,h,B,r,k,hk=>by
  simp only[shut]at h;split at h
  .rename_i W es xs D;simp only[ζa]at h;subst h;obtain⟨_,_,_,e,rfl⟩:=r.kq D;cases e;have t:d∉fr:=λt=>by have:=B d t;simp[SV.cR]at this
   have o:=J d _ D t
   by_cases A:cF W=true
   .simp only[dV,A,if_true]at o;obtain⟨ys,hr,hl,hf,_⟩:=o;rw[rH A];have e:nF W es xs=.fsl es xs:=by cases W <;> simp[cF]at A <;> rfl
    rw[e]at hk ⊢;exact(FR.KJ (Z:=λ_=>True) trivial (show bp H1 (ν d).1=some (es,ys)by unfold bp;rw[hr];rfl) hl (hf.mono λid h=>⟨trivial,rfl⟩)).borrow k hk
   .cases W <;> simp[cF]at A
    .exact ez k H1 rfl
    .exact ez k H1 rfl
  .simp at h
 | 0,.ptr d o,z,y,h,B,r,k,hk=>by simp[shut]at h
 | n+1,.ptr d o,z,y,h,B,r,k,hk=>by
  simp only[shut]at h;split at h
  .rename_i C D;split at h
   .rename_i xs hx;split at h
    .rename_i X;simp only[ζa]at h;subst h;obtain⟨_,e,rfl⟩:=r.oJ D;cases e;have t:d∉fr:=λt=>by have:=B d t;simp[SV.cR]at this
     obtain⟨es,H,hr,hc,_⟩:=J d _ D t
     cases k with
     | zero=>simp[V.lvl]at hk
     | succ k=>
      simp only[V.lvl]at hk;have Y:∀e∈fr,SV.dH e (C.drop o)=false:=λe he=>by
       have:=G e he d _ D;simp only[bP.cR]at this
       cases hh:SV.dH e (C.drop o)with
       | false=>rfl
       | true=>
        exfalso;have:∀{l:List SV} {j:Nat},SV.dH e (l.drop j)=true->SV.dH e l=true:=by
         intro l
         induction l with
         | nil=>intro j h;simpa using h
         | cons a l I=>intro j h;cases j with
          | zero=>simpa using h
          | succ j=>simp only[SV.dH,Bool.or_eq_true];exact .inr (I (by simpa using h))
        rw[this hh]at *;simp_all
      have L:xs.length=C.length:=by
       have:∀{l:List SV} {r:List V},cG m n l=some r->r.length=l.length:=by
        intro l
        induction l with
        | nil=>intro r h;simp only[cG,ζa]at h;subst h;rfl
        | cons a l I=>
         intro r h;simp only[cG]at h;split at h
         .rename_i h1 O;simp only[ζa]at h;subst h;simp[I O]
         .simp at h
       exact this hx
      have aa:cG m n (C.drop o)=some (xs.drop o):=by
       have:∀{l:List SV} {r:List V} {j:Nat},cG m n l=some r->cG m n (l.drop j)=some (r.drop j):=by
        intro l
        induction l with
        | nil=>intro r j h;simp only[cG,ζa]at h;subst h;simp[cG]
        | cons a l I=>
         intro r j h;have h0:=h;simp only[cG]at h;split at h
         .rename_i h1 O;simp only[ζa]at h;subst h
          cases j with
          | zero=>exact h0
          | succ j=>exact I O
         .simp at h
       exact this hx
      have hb:=jZ G J n (C.drop o) (xs.drop o) (H.drop o) aa Y (hc.drop o) k hk;unfold borrow;simp only[V.closed,Bool.false_eq_true,if_false,hr,ζb,Ob.rows,List.getElem?_cons_zero,if_pos (show o<=H.length by rw[<-hc.1,<-L];exact X),hb,Option.map_some]
    .simp at h
   .simp at h
  .simp at h
 | n,.el d i o,z,y,h,B,r,k,hk=>by cases n <;> simp[shut]at h
 | n,.yl id,z,y,h,B,r,k,hk=>by cases n <;> simp[shut]at h
 | n,.mp d,z,y,h,B,r,k,hk=>by
  simp only[shut]at h;split at h
  .rename_i ab D;simp only[ζa]at h;subst h;obtain⟨_,e,rfl⟩:=r.CD D;cases e;have t:d∉fr:=λt=>by have:=B d t;simp[SV.cR]at this
   obtain⟨Q,hr,S⟩:=J d _ D t
   cases k with
   | zero=>simp[V.lvl]at hk
   | succ k=>
    simp only[V.lvl]at hk;unfold borrow;simp only[V.closed,Bool.false_eq_true,if_false,hr];rw[FV (xs:=ab) (ys:=Q) S.1 λj u v hu hv=>?_]
    .rfl
    .obtain⟨⟨e1,e2⟩,e3⟩:=S.2 j u v hu hv;exact⟨by rw[<-e1];exact ez k H1 (V.lI (mW e2)),e3.borrow k (G8.1 hk j u hu).2⟩
  .simp at h
 | 0,.clo f a b,z,y,h,B,r,k,hk=>by simp[shut]at h
 | n+1,.clo f a b,z,y,h,B,r,k,hk=>by
  simp only[shut]at h;split at h
  .rename_i x1 x2 h1 O;simp only[ζa]at h;subst h;obtain⟨a',b',rfl,ra,rb⟩:=r.kP
   cases k with
   | zero=>simp[V.lvl]at hk
   | succ k=>
    simp only[V.lvl,ζh]at hk;have w:=jZ G J n a x1 a' h1 (λd t=>by have:=B d t;simp only[SV.cR,Bool.or_eq_false_iff]at this;exact this.1) ra k hk.1
    have T:=jZ G J n b x2 b' O (λd t=>by have:=B d t;simp only[SV.cR,Bool.or_eq_false_iff]at this;exact this.2) rb k hk.2
    by_cases q:(V.clo f a' b').closed=true
    .rw[ez _ _ q];simp only[V.closed,ζh]at q;rw[uh w q.1,uh T q.2]
    .unfold borrow;rw[if_neg q];simp only[w,T]
  .simp at h
 | 0,.tup l,z,y,h,B,r,k,hk=>by simp[shut]at h
 | n+1,.tup l,z,y,h,B,r,k,hk=>by
  simp only[shut]at h;obtain⟨xs,h1,rfl⟩:=ζf.1 h;obtain⟨U,rfl,rl⟩:=r.pU
  cases k with
  | zero=>simp[V.lvl]at hk
  | succ k=>
   simp only[V.lvl]at hk;have w:=jZ G J n l xs U h1 (λd t=>by have:=B d t;simpa [SV.cR]using this) rl k hk
   by_cases q:(V.tup U).closed=true
   .rw[ez _ _ q];simp only[V.closed]at q;rw[uh w q]
   .unfold borrow;rw[if_neg q];simp only[w,Option.map_some]
 | 0,.agg l,z,y,h,B,r,k,hk=>by simp[shut]at h
 | n+1,.agg l,z,y,h,B,r,k,hk=>by
  simp only[shut]at h;obtain⟨xs,h1,rfl⟩:=ζf.1 h;obtain⟨U,rfl,rl⟩:=r.iK
  cases k with
  | zero=>simp[V.lvl]at hk
  | succ k=>
   simp only[V.lvl]at hk;have w:=jZ G J n l xs U h1 (λd t=>by have:=B d t;simpa [SV.cR]using this) rl k hk
   by_cases q:(V.agg U).closed=true
   .rw[ez _ _ q];simp only[V.closed]at q;rw[uh w q]
   .unfold borrow;rw[if_neg q];simp only[w,Option.map_some]
theorem jZ {fr:List Nat} (B:∀d∈fr,∀e ob,bk m e=some ob->ob.cR d=false) (J:∀d ob,bk m d=some ob->d∉fr->dV ν m H1 Z d ob) :
 ∀(n:Nat) (svs:List SV) (xs ys:List V),cG m n svs=some xs->(∀d∈fr,SV.dH d svs=false)->b8 ν m H1 Z svs ys->∀k,V.c7 k xs=true->ko (borrow k H1) ys=some xs
 | n,[],xs,ys,h,D,r,k,hk=>by simp only[cG,ζa]at h;subst h;rw[r.cU];rfl
 | n,sv::svs,xs,ys,h,D,r,k,hk=>by
  simp only[cG]at h;split at h
  .rename_i y s h1 O;simp only[ζa]at h;subst h;obtain⟨U,G,rfl,r1,r2⟩:=r.inv;simp only[V.c7,ζh]at hk;have t:=AI B J n sv y U h1 (λd q=>by have:=D d q;simp only[SV.dH,Bool.or_eq_false_iff]at this;exact this.1) r1 k hk.1
   have u:=jZ B J n svs s G O (λd q=>by have:=D d q;simp only[SV.dH,Bool.or_eq_false_iff]at this;exact this.2) r2 k hk.2
   simp only[ko,t,u]
  .simp at h
end
end
end Go.VE
namespace Go.VE
variable [bX]
def jr (E:Env) (call:dn) (ops:List Oper) (place:Option (Nat×Nat)) (f:FuncId) (args:List V) (H:bl):Option (V×bl):=
 if kE E ops place f then
  match place with
  | none=>e9 E call f args H
  | some (_,i)=>if dD ops i then e9 E call f args H else none
 else match place with
  | none=>match cz call f args H with
   | some y=>some (y,if y.scalar then H else cu H (dx (cr 8 H) args))
   | none=>none
  | some (b,i)=>match cz call f args (H.take b)with
   | some y=>if y.scalar then some (y,H)else if iS (H.take b) (dx (cr 8 (H.take b)) args)then some (y,cu H (dx (cr 8 (H.take b)) args))else none
   | none=>if dD ops i then match cz call f args H with
    | some y=>some (y,if y.scalar then H else cu H (dx (cr 8 H) args))
    | none=>none
    else none
section
variable {Rv:Nat->Prop} {ν ν':Nu} {Z Z':Nat->Prop} {st st':St} {m m':Tb bP} {F F':Frame} {H H' H1:bl} {N:Nat->FuncId} {S:Sys} {c:cq}
theorem Gn:∀(l:List SV) (i s:Nat) (sv:SV),bk (xh i l) s=some sv->∃j,s=i+j/\l[j]? = some sv
 | [],i,s,sv,h=>by simp[xh,bk]at h
 | x::l,i,s,sv,h=>by
  simp only[xh,bk]at h;split at h
  .rename_i e;simp only[ζa]at h;subst h;exact⟨0,by omega,rfl⟩
  .obtain⟨j,h1,B⟩:=Gn l (i+1) s sv h;exact⟨j+1,by omega,by simpa using B⟩
theorem w5 {svs:List SV} {args:List V} (h:b8 ν m H Z svs args):∀s sv,bk (xh 0 svs) s=some sv->cW ν m H Z sv (get args s):=λs sv q=>by
 obtain⟨j,rfl,t⟩:=Gn svs 0 s sv q;obtain⟨y,u,r⟩:=h.get t;rw[Nat.zero_add,GB args j y u];exact r
theorem wI {az:List V} (hg:V.cE az=true):R (λ_=>(0,0)) (λ_=>False) (start (az.map .v) []) az []/\b8 (λ_=>(0,0)) [] [] (λ_=>False) (az.map .v) az:=by
 have h:b8 (λ_=>(0,0)) [] [] (λ_=>False) (az.map .v) az:=b8.qM (di.same hg)
 refine⟨⟨w5 h,λd ob q=>by simp[start,bk]at q,λd u ob t q=>by simp[start,bk]at q,λd ob q=>by simp[start,bk]at q,λid h=>h.elim,⟨λid es w h=>h.elim⟩⟩,h⟩
theorem EL {xs ys:List V} (h:di H Z xs ys):((result xs).scalar=true->result ys=result xs)/\(result ys).scalar=(result xs).scalar:=by
 cases xs with
 | nil=>rw[h.cU];exact⟨λ_=>rfl,rfl⟩
 | cons x xs=>
  obtain⟨y,ys,rfl,h1,q⟩:=h.inv
  cases xs with
  | nil=>rw[q.cU];exact h1.scalar
  | cons x2 xs=>
   obtain⟨t,ys,rfl,u,w⟩:=q.inv;exact FR.scalar (.tup _ _ h.1 h.2)
theorem A8 (O:kO S c) {f:FuncId} {az ys:List V} {rs:List SV} {m':iV} (hg:V.cE az=true) (h:c f (az.map .v) []=some (rs,m')) (B:cG m' 8 rs=some ys) (D:(result ys).lvl 8=true) :
 ∃n r H2,(∀k,n<=k->run S.E k (.fn f) az []=some (r,H2))/\borrow 8 H2 r=some (result ys)/\(result ys).good=true:=by
 obtain⟨L,r1⟩:=wI hg;obtain⟨n,y,H2,ν',Z',st',F',w,h1,rfl,Q,G,H,_⟩:=O f _ _ _ _ h _ _ az [] (.inr rfl) L r1;subst Q;have t:=mL H.obj 8 rs ys w B G;refine⟨n,result w,H2,λk hk=>pK S.E hk _ _ _ _ h1,?_,?_⟩
 .have A:∀d∈([]:List Nat),∀e ob,bk st'.m e=some ob->ob.cR d=false:=λd u=>by simp at u
  have I:∀d ob,bk st'.m d=some ob->d∉([]:List Nat)->dV ν' st'.m H2 Z' d ob:=λd ob u _=>H.obj d ob u
  cases rs with
  | nil=>
   simp only[cG,ζa]at B;subst B;rw[G.cU];exact ez 8 H2 rfl
  | cons x rs=>
   obtain⟨z,w,rfl,e1,e2⟩:=G.inv;simp only[cG]at B;split at B
   .rename_i y s g1 g2;simp only[ζa]at B;subst B
    cases rs with
    | nil=>
     simp only[cG,ζa]at g2;subst g2;rw[e2.cU];exact AI A I 8 x y z g1 (λd u=>by simp at u) e1 8 D
    | cons x2 rs=>
     obtain⟨T,w,rfl,e3,e4⟩:=e2.inv;simp only[cG]at g2;split at g2
     .rename_i U W g3 g4;simp only[ζa]at g2;subst g2;simp only[result,V.lvl,V.c7,ζh]at D;have C:cG st'.m 8 (x::x2::rs)=some (y::U::W):=by simp only[cG,g1,g3,g4]
      have J:=jZ A I 8 (x::x2::rs) _ _ C (λd u=>by simp at u) G 7 (by simp only[V.c7,ζh];exact D)
      by_cases q:(V.tup (z::T::w)).closed=true
      .simp only[result];rw[ez _ _ q];simp only[V.closed]at q;rw[uh J q]
      .simp only[result];unfold borrow;rw[if_neg q];simp only[J,Option.map_some]
     .simp at g2
   .simp at B
 .have:∀{l:List V},V.cE l=true->(result l).good=true:=by
   intro l D
   cases l with
   | nil=>rfl
   | cons a l=>cases l with
    | nil=>simp only[V.cE,ζh]at D;exact D.1
    | cons b l=>simp only[result,V.good];exact D
  exact this t
theorem AB {f:FuncId} {args az:List V} {y r:V} {H2:bl} {n:Nat} (hr:∀k,n<=k->run S.E k (.fn f) az []=some (r,H2)) (B:borrow 8 H2 r=some y) (hg:y.good=true) (D:borrows 8 H args=some az) :
 ∀k,n<=k->cz (run S.E k) f args H=some y:=λk hk=>by
 unfold cz;simp only[D,hr k hk,B,V.lI hg,if_true]
theorem qO (B:∀id,Z id->(bp H id).isSome=true) {T:List Nat} {id:Nat} (h:Z id):bp (cu H T) id=bp H id:=by
 have:=B id h;unfold bp at this ⊢;rw[iO]
 cases q:H[id]? with
 | none=>rw[q]at this;simp at this
 | some ob=>
  rw[q]at this;simp only[Option.map_some,ζb]
  by_cases e:id∈T
  .rw[if_pos e];cases ob <;> first|rfl|simp[Ob.rows]at this
  .rw[if_neg e]
theorem tK {T:List Nat} {id:Nat} (h:id∉T):(cu H T)[id]? = H[id]? := by
 rw[iO];cases H[id]? <;> simp[h]
end
end Go.VE
namespace Go.VE
variable [bX]
section
variable {Rv:Nat->Prop} {ν ν':Nu} {Z Z':Nat->Prop} {st st':St} {m m':Tb bP} {F F':Frame} {H H' H1:bl} {N:Nat->FuncId} {S:Sys} {c:cq}
theorem Aa {az:List V} {args:List SV} {ys:List V} (B:∀d ob,bk m d=some ob->dV ν m H Z d ob) (h:cG m 8 args=some az) (r:b8 ν m H Z args ys):V.cE az=true:=mL B 8 args az ys h r
theorem w6 {az:List V} {args:List SV} {ys:List V} (r:R ν Z st F H) (B:b8 ν st.m H Z args ys) (h:cG st.m 8 args=some az) (D:V.c7 8 az=true):borrows 8 H ys=some az:=
 jZ (fr:=[]) (λd q=>by simp_all) (λd ob q _=>r.obj d ob q) 8 args az ys h (λd q=>by simp_all) B 8 D
theorem mU {b id:Nat} (h:id<b):bp (H.take b) id=bp H id:=by
 unfold bp;grind
theorem Jx {b:Nat} {fr:List Nat} {az:List V} {args:List SV} {ys:List V} (r:R ν Z st F H) (D:b8 ν st.m H Z args ys) (h:cG st.m 8 args=some az) (G:V.c7 8 az=true)
 (O:∀d ob,bk st.m d=some ob->cC ob=true->d∉fr->(ν d).1<b) (J:∀id,Z id->id<b) (B:ig st.m fr args=true):borrows 8 (H.take b) ys=some az:=by
 unfold ig at B;have h1:∀d∈fr,SV.dH d args=false/\r_ d st.m=false:=λd q=>by
  grind
 have t:∀id,Z id->Z id/\bp (H.take b) id=bp H id:=λid h=>⟨h,mU (J id h)⟩
 refine jZ   (λd q e ob u=>xR (h1 d q).2 u) (λd ob q w=>?_) 8 args az ys h (λd q=>(h1 d q).1) (D.mono t λe _=>jc ν st.m e) 8 G
 exact dV.mono t rfl (λz=>by grind) (λe _=>jc ν st.m e) (r.obj d ob q)
theorem Qh (hS:kO S c) {ops:List Oper} {place:Option (Nat×Nat)} {dr nw:Bool} {fr:List Nat} (ad:dr=place.isSome) (W:∀b i,place=some (b,i)->nw=true->dD ops i=true)
 (Y:∀b i,place=some (b,i)->(∀d ob,bk st.m d=some ob->cC ob=true->d∉fr->(ν d).1<b)/\∀id,Z id->id<b)
 (r:R ν Z st F H) {args:List SV} {ys:List V} (ha:b8 ν st.m H Z args ys) {f:FuncId} (hk:S.E.keep f=false) {az:List V} (hs:cG st.m 8 args=some az) (hl:V.c7 8 az=true) (hno:(!dr||nw)=true\/ig st.m fr args=true)
 {rs:List SV} {m':iV} {B:List V} (hc:c f (az.map .v) []=some (rs,m')) (U:cG m' 8 rs=some B) (ae:(result B).lvl 8=true) (G:(result B).scalar=true\/(dG args).isSome=true) :
 ∃n H',(∀k,n<=k->jr S.E (run S.E k) ops place f ys H=some (result B,H'))/\R ν Z st F H'/\cW ν st.m H' Z (.v (result B)) (result B)/\Ev Rv ν Z st H ν Z st H':=by
 have hg:=Aa r.obj hs ha;obtain⟨n,rr,H2,h1,h2,h3⟩:=A8 hS hg hc U ae;have hb:=w6 r ha hs hl;have z:=AB h1 h2 h3 hb;have C:∀{H'},cW ν st.m H' Z (.v (result B)) (result B):=.v _ _ (.same _ h3);have A:∀T:List Nat,(∀id∈T,Z id)->R ν Z st F (cu H T)/\Ev Rv ν Z st H ν Z st (cu H T):=λT J=>
  ⟨r.heap (λid ho=>tK λt=>by obtain⟨d,ob,g1,g2,rfl⟩:=ho;exact r.apart d ob g1 g2 (J _ t)) (λid t=>qO r.zrow t),
   Ev.heap (by rw[j8];grind) (λid _ _ U _=>tK λt=>U (J id t)) (λid t=>qO r.zrow t)⟩
 have D:(dG args).isSome=true->(∀id∈dx (cr 8 H) ys,Z id)/\True:=λL=>by
  obtain⟨xs,L⟩:=Option.isSome_iff_exists.1 L;have Q:=ha.dG L;exact⟨λid t=>by
   obtain⟨j,u,hu,O⟩:=o5 t;have hj:j<xs.length:=by rw[Q.1];grind
   exact FR.cr r.deep 8 (Q.2 j _ u (ζd hj) hu) id O,trivial⟩
 cases place with
 | none=>
  by_cases q:(result B).scalar=true
  .exact⟨n,H,λk w=>by simp[jr,kE,hk,z k w,q],r,C,.refl⟩
  .obtain⟨J,-⟩:=D (G.resolve_left q);obtain⟨X,q2⟩:=A _ J;exact⟨n,cu H (dx (cr 8 H) ys),λk w=>by simp[jr,kE,hk,z k w,q],X,C,q2⟩
 | some bi=>
  obtain⟨b,i⟩:=bi;obtain⟨o1,o2⟩:=Y b i rfl;have af  := ad;have fits:∀k,cz (run S.E k) f ys (H.take b)=some (result B)->(result B).scalar=false->iS (H.take b) (dx (cr 8 (H.take b)) ys)=true/\dx (cr 8 H) ys=dx (cr 8 (H.take b)) ys:=λk _ ah=>by
   obtain⟨xs,L⟩:=Option.isSome_iff_exists.1 (G.resolve_left (by grind))
   have Q:=ha.dG L;have I:∀id,Z id->Z id/\bp (H.take b) id=bp H id:=λid h=>⟨h,mU (o2 id h)⟩
   have hd:Deep (H.take b) Z:=⟨λid es ys U hr c hc u hu=>by
    rw[(I id U).2]at hr;obtain⟨x,L⟩:=r.deep.row id es ys U hr c hc u hu;exact⟨x,L.mono I⟩⟩
   have hZ:∀id∈dx (cr 8 (H.take b)) ys,Z id:=λid t=>by
    obtain⟨j,u,hu,O⟩:=o5 t;have hj:j<xs.length:=by rw[Q.1];grind
    exact FR.cr hd 8 ((Q.2 j _ u (ζd hj) hu).mono I) id O
   refine⟨?_,tU _ λid t=>o2 id (hZ id t)⟩
   unfold iS;rw[List.all_eq_true];intro id t;have h1:=r.zrow id (hZ id t);rw[<-(I id (hZ id t)).2]at h1;exact h1
  rcases hno with hno|hno
  .have aa:=W b i rfl (by grind)
   by_cases q:(result B).scalar=true
   .refine⟨n,H,λk w=>?_,r,C,.refl⟩
    simp[jr,kE,hk];split
    .rename_i y hy;have:=o_ hy;rw[z k w]at this;cases this;simp[q]
    .simp[aa,z k w,q]
   .obtain⟨J,-⟩:=D (G.resolve_left q);obtain⟨X,q2⟩:=A _ J;refine⟨n,cu H (dx (cr 8 H) ys),λk w=>?_,X,C,q2⟩
    simp[jr,kE,hk];split
    .rename_i y hy;have h9:=o_ hy;rw[z k w]at h9;cases h9;obtain⟨f1,f2⟩:=fits k hy (by simpa using q)
     rw[if_neg q,if_pos f1,f2]
    .simp only[aa,if_true,z k w];rw[if_neg q]
  .have ab:=Jx r ha hs hl o1 o2 hno
   by_cases q:(result B).scalar=true
   .refine⟨n,H,λk w=>?_,r,C,.refl⟩
    simp[jr,kE,hk];have:=AB h1 h2 h3 ab k w;simp[this,q]
   .obtain⟨J,-⟩:=D (G.resolve_left q);obtain⟨X,q2⟩:=A _ J;refine⟨n,cu H (dx (cr 8 H) ys),λk w=>?_,X,C,q2⟩
    simp[jr,kE,hk];have h9:=AB h1 h2 h3 ab k w;obtain⟨f1,f2⟩:=fits k h9 (by simpa using q)
    simp[h9];rw[if_neg q,if_pos f1,f2]
theorem D5 {α:Type} {k:Nat} {v:α}:∀{ds:List Nat} {g:Tb α},bk (nO ds g) k=some v->k∉ds
 | [],_,_=>by simp
 | d::ds,g,h=>by
  have h1:=D5 (ds:=ds) h;have q:=(nL (nU  h)).1
  grind
theorem yf:∀{args:List SV} {ds:List Nat},rowsOf args=some ds->∀(j:Nat) u,args[j]? = some u->(∃x,u=.v x)\/∃d,u=.own d/\d∈ds
 | [],_,_,j,u,hu=>by simp_all
 | .v x::r,ds,h,j,u,hu=>by
  cases j with
  | zero=>grind
  | succ j=>exact yf  (by simpa [rowsOf]using h) j u (by grind)
 | .own d::r,ds,h,j,u,hu=>by
  obtain⟨es,h1,rfl⟩:=ζf.1 h
  cases j with
  | zero=>grind
  | succ j=>
   rcases yf h1 j u (by grind)with k|⟨q,k1,k2⟩
   .grind
   grind
 | .ptr ..::_,_,h,_,_,_|.el ..::_,_,h,_,_,_|.mp _::_,_,h,_,_,_|.clo ..::_,_,h,_,_,_|.tup _::_,_,h,_,_,_|.agg _::_,_,h,_,_,_|.yl _::_,_,h,_,_,_=>by simp[rowsOf]at h
theorem vM:∀{args:List SV} {ds:List Nat} {n:Nat} {az:List V},rowsOf args=some ds->cG m n args=some az->∀d∈ds,∃ob,bk m d=some ob
 | [],ds,_,_,h,_,d,hd=>by simp[rowsOf]at h;grind
 | x::r,ds,n,az,h,B,d,hd=>by
  simp[cG]at B;split at B
  rotate_left
  .cases B
  rename_i y s h1 D
  cases x with
  | v x=>exact vM  (by simpa [rowsOf]using h) D d hd
  | own e=>
   obtain⟨es,g1,rfl⟩:=ζf.1 h;rcases List.mem_cons.1 hd with rfl|hd
   .cases n <;> (simp[shut]at h1;grind)
   .exact vM g1 D d hd
  | _=>simp[rowsOf]at h
theorem AG {H0:bl} (O:Deep H0 Z) (W:∀d ob,bk m d=some ob->cC ob=true->(H0[(ν d).1]?).isSome=true->dV ν m H0 Z d ob) {args:List SV} {ys:List V} (U:b8 ν m H0 Z args ys) {ds:List Nat} (hr:rowsOf args=some ds)
 (D:∀d∈ds,∃ob,bk m d=some ob) {id:Nat} (h:id∈dx (cr 8 H0) ys):Z id\/∃d ob,d∈ds/\bk m d=some ob/\cC ob=true/\(ν d).1=id/\∃j es off len:Nat,ys[j]? = some (V.hsl id es off len):=by
 obtain⟨j,y,L,hk⟩:=o5 h;have Q:j<args.length:=by rw[U.1];grind
 have hu:=ζd Q;have A:=U.2 j _ y hu L;rcases yf hr j _ hu with⟨x,e⟩|⟨d,e,C⟩
 .rw[e]at A;cases A with|v _ _ S=>exact .inl (FR.cr O 8 S id hk)
 .rw[e]at A;obtain⟨ob,z⟩:=D d C;obtain⟨k,es,B,rfl,rfl⟩:=A.kq z
  by_cases q:cF k=true
  .have G:rz (ν d) k es B.length=.hsl (ν d).1 es (ν d).2 B.length:=by cases k <;> first|rfl|cases q
   rw[G]at hk;have T:cC (.sl k es B)=true:=q
   by_cases t:(H0[(ν d).1]?).isSome=true
   .have o:=W d _ z T t;simp[dV,q]at o;obtain⟨zs,h1,_,_,X,_⟩:=o;simp only[cr,V.closed,Bool.false_eq_true,if_false,h1,List.mem_cons]at hk;rcases hk with rfl|hk
    .grind
    .obtain⟨i,u,hu,H⟩:=o5 hk;obtain⟨c,hc,I⟩:=List.mem_flatten.1 (List.mem_of_getElem? hu);obtain⟨x,Y⟩:=X c hc u I;exact .inl (FR.cr O 7 Y id H)
   .have w:H0[(ν d).1]? = none:=by grind
    simp[cr,V.closed,w]at hk
    grind
  .have J:(rz (ν d) k es B.length).closed=true:=by cases k <;> first|rfl|(exact absurd rfl q)
   rw[Hi 8 H0 J]at hk;cases hk
theorem Rp (hS:kO S c) {ops:List Oper} {place:Option (Nat×Nat)} {nw:Bool} (ai:∀b i,place=some (b,i)->nw=true->dD ops i=true)
 (J:∀b i,place=some (b,i)->∀id,Z id->id<b)
 (r:R ν Z st F H) {args:List SV} {ys:List V} (Y:b8 ν st.m H Z args ys) {f:FuncId} (hk:S.E.keep f=false) {az:List V} (hs:cG st.m 8 args=some az) (hl:V.c7 8 az=true) (aj:(!place.isSome||nw)=true)
 {rs:List SV} {m':iV} {B:List V} (hc:c f (az.map .v) []=some (rs,m')) (O:cG m' 8 rs=some B) (aa:(result B).lvl 8=true) (U:(result B).scalar=false) {ds:List Nat} (hr:rowsOf args=some ds) (W:∀d∈ds,∃ob,bk st.m d=some ob) :
 ∃n H',(∀k,n<=k->jr S.E (run S.E k) ops place f ys H=some (result B,H'))/\R ν Z { st with m:=nO ds st.m } F H'/\cW ν (nO ds st.m) H' Z (.v (result B)) (result B)/\Ev Rv ν Z st H ν Z { st with m:=nO ds st.m } H':=by
 have hg:=Aa r.obj hs Y;obtain⟨n,rr,H2,h1,h2,h3⟩:=A8 hS hg hc O aa;have hb:=w6 r Y hs hl;have z:=AB h1 h2 h3 hb;have I:∀{H'},cW ν (nO ds st.m) H' Z (.v (result B)) (result B):=.v _ _ (.same _ h3);have t:∀d ob,bk (nO ds st.m) d=some ob->bk st.m d=some ob:=λd ob h=>nU h
 have hT:∀id∈dx (cr 8 H) ys,Z id\/∃d ob,d∈ds/\bk st.m d=some ob/\cC ob=true/\(ν d).1=id/\∃j es off len:Nat,ys[j]? = some (V.hsl id es off len):=λid q=>AG r.deep (λd ob h _ _=>r.obj d ob h) Y hr W q
 have r2  := r.less (λ_ _ h=>h) t
 have q1  := r2.heap (λid L=>tK λq=>by
  obtain⟨d,ob,g1,g2,rfl⟩:=L;rcases hT _ q with h|⟨X,A,k1,k2,k3,k4,_⟩
  .exact r.apart d ob (t d ob g1) g2 h
  .have:=r.inj X d A ob k2 (t d ob g1) k3 g2 k4;subst this;exact D5 g1 k1) (λid q=>qO r.zrow q)
 have q2:Ev Rv ν Z st H ν Z { st with m:=nO ds st.m } (cu H (dx (cr 8 H) ys)):=(Ev.heap (by rw[j8];grind) (λid _ L O _=>tK λq=>by
  rcases hT _ q with h|⟨X,A,k1,k2,k3,k4,_⟩
  .simp_all
  .exact L ⟨X,A,k2,k3,k4⟩) (λid q=>qO r.zrow q)).trans (Ev.less  t)
 cases place with
 | none=>exact⟨n,cu H (dx (cr 8 H) ys),λk C=>by simp[jr,kE,hk,z k C,U],q1,I,q2⟩
 | some bi=>
  obtain⟨b,i⟩:=bi;have o2:=J b i rfl;have fits:∀k,cz (run S.E k) f ys (H.take b)=some (result B)->iS (H.take b) (dx (cr 8 (H.take b)) ys)=true/\dx (cr 8 H) ys=dx (cr 8 (H.take b)) ys:=λk hi=>by
   have w:∀id,Z id->Z id/\bp (H.take b) id=bp H id:=λid h=>⟨h,mU (o2 id h)⟩
   have hd:Deep (H.take b) Z:=⟨λid es ys O hr c hc u hu=>by
    rw[(w id O).2]at hr;obtain⟨x,T⟩:=r.deep.row id es ys O hr c hc u hu;exact⟨x,T.mono w⟩⟩
   have ab  := Y.mono w λe _=>jc ν st.m e
   have ad:∀d ob,bk st.m d=some ob->cC ob=true->((H.take b)[(ν d).1]?).isSome=true->dV ν st.m (H.take b) Z d ob:=λd ob h hb ae=>
    dV.mono w rfl (λ_=>by
     grind) (λe _=>jc ν st.m e) (r.obj d ob h)
   have Q:∀(j:Nat) (y:V),ys[j]? = some y->(borrow 8 (H.take b) y).isSome=true:=λj y G=>by
    unfold cz at hi;split at hi
    .rename_i af ah;obtain⟨_,hm⟩:=jC ah;have hj:=(ζe.1 G).1;obtain⟨x,ak,al⟩:=hm j _ (ζd (show j<af.length by omega))
     grind
    .cases hi
   have hZ:∀id∈dx (cr 8 (H.take b)) ys,id<b/\(bp (H.take b) id).isSome=true:=λid q=>by
    rcases AG hd ad ab hr W q with h|⟨d,ob,k1,k2,k3,k4,j,es,off,len,G⟩
    .have:=r.zrow id h
     grind
    .have D:=Q j _ G;simp only[borrow,V.closed,Bool.false_eq_true,if_false]at D;split at D
     .rename_i am xs T;obtain⟨o,L,_⟩:=ζg.1 T;have:=(ζe.1 L).1;rw[List.length_take]at this;exact⟨by omega,by unfold bp;rw[T];rfl⟩
     .cases D
   refine⟨?_,tU _ λid q=>(hZ id q).1⟩
   unfold iS;rw[List.all_eq_true];exact λid q=>(hZ id q).2
  refine⟨n,cu H (dx (cr 8 H) ys),λk C=>?_,q1,I,q2⟩
  simp[jr,kE,hk];split
  .rename_i y G;have h9:=o_ G;rw[z k C]at h9;cases h9;obtain⟨f1,f2⟩:=fits k G;rw[if_neg (by rw[U];simp),if_pos f1,f2]
  grind
theorem HJ {xs ys:List (List V)} (h:gC H Z xs ys) (B:nS xs=true):ys=xs:=by
 refine(List.ext_getElem h.1 λj h1 t=>?_).symm
 have:=h.2 j _ _ (ζd h1) (ζd t);have q  := by
  unfold nS at B;rw[List.all_eq_true]at B;have:=B _ (List.getElem_mem h1);rw[List.all_eq_true]at this;exact qz.2 λk u hu=>this u (List.mem_of_getElem? hu)
 exact(this.scalar.1 q).symm
theorem qB:∀{args:List SV} {os:iV},k_ m args=some os->∀k ob,bk os k=some ob->bk m k=some ob/\xL ob=true
 | [],os,h,k,ob,hk=>by simp[k_]at h;subst h;simp[bk]at hk
 | .v _::r,os,h,k,ob,hk=>qB  (by simpa [k_]using h) k ob hk
 | .own d::r,os,h,k,ob,hk=>by
  simp[k_]at h;split at h
  .rename_i B G es xs h1 D;simp  at h;subst h;simp[bk]at hk;split at hk
   .rename_i e;subst e;cases hk;exact⟨D,rfl⟩
   .exact qB h1 k ob hk
  grind
 | .ptr d _::r,os,h,k,ob,hk=>by
  simp[k_]at h;split at h
  .rename_i B cs h1 D;split at h
   .rename_i hc;simp  at h;subst h;simp[bk]at hk;split at hk
    .rename_i e;subst e;cases hk;exact⟨D,hc⟩
    .exact qB h1 k ob hk
   grind
  grind
 | .el ..::r,os,h,k,ob,hk=>by simp[k_]at h
 | .mp _::r,os,h,k,ob,hk=>by simp[k_]at h
 | .clo ..::r,os,h,k,ob,hk=>by simp[k_]at h
 | .tup _::r,os,h,k,ob,hk=>by simp[k_]at h
 | .agg _::r,os,h,k,ob,hk=>by simp[k_]at h
 | .yl _::r,os,h,k,ob,hk=>by simp[k_]at h
theorem yR:∀{l:List Nat} {a b:Tb bP},s_ m' l a=some b->(∀k∈l,bk b k=bk m' k/\∃ob,bk m' k=some ob/\xL ob=true)/\∀k,k∉l->bk b k=bk a k
 | [],a,b,h=>by simp[s_]at h;grind
 | d::r,a,b,h=>by
  simp[s_]at h;split at h
  .rename_i ob B;split at h
   .rename_i G;obtain⟨h1,D⟩:=yR h;refine⟨λk hk=>?_,λk hk=>?_⟩
    .by_cases hr:k∈r
     .grind
     .have e:k=d:=by grind
      subst e;exact⟨by rw[D k hr,cD,B],ob,B,G⟩
    .simp  at hk;rw[D k hk.2,d_ _ _ (Ne.symm hk.1)]
   grind
  grind
theorem mem_keys:∀{os:iV} {k:Nat},k∈os.map (·.1)↔∃ob,bk os k=some ob
 | [],k=>by simp[bk]
 | (d,o)::os,k=>by
  simp[bk]
  by_cases e:d=k
  .simp_all
  .rw[if_neg e,<-mem_keys]
   grind
theorem dV.plain {d:Nat} {ob:bP} (J:xL ob=true) (B:∀id,Z id->Z' id/\bp H' id=bp H id) (D:ν' d=ν d) (G:cC ob=true->H'[(ν d).1]? = H[(ν d).1]?) (o:dV ν m H Z d ob):dV ν' m' H' Z' d ob:=by
 cases ob with
 | box I=>
  obtain⟨w,u⟩:=Option.isSome_iff_exists.1 J;obtain⟨es,q,h1,z,A⟩:=o;refine⟨es,q,by rw[D,G rfl];omega,?_,A⟩
  have:=(z.dG u).mono B;rw[rN u];exact b8.qM this
 | sl k es w=>exact dV.mono B D G (λe t=>by simp[bP.cR]at t) o
 | mp C=>exact dV.mono B D G (λe t=>by simp[bP.cR]at t) o
theorem Rm (hS:kO S c) {f:FuncId} (U:S.E.keep f=true) (r:R ν Z st F H) {args:List SV} {ys:List V} (ha:b8 ν st.m H Z args ys) {os:iV} (hh:k_ st.m args=some os)
 {rs:List SV} {m':iV} {O:List V} {D:Tb bP} (hc:c f args os=some (rs,m')) (W:dG rs=some O) (hb:s_ m' (os.map (·.1)) st.m=some D) :
 ∃n y H' Z',(∀k,n<=k->run S.E k (.fn f) ys H=some (y,H'))/\R ν Z' { st with m:=D } F H'/\cW ν D H' Z' (.v (result O)) y/\Ev Rv ν Z st H ν Z' { st with m:=D } H'/\∀e ob',bk D e=some ob'->∃ob,bk st.m e=some ob/\ν e=ν e/\sameShape ob ob':=by
 have q  := λk ob h=>(qB hh k ob h).1
 have G  := ha.mono (λid h=>⟨h,rfl⟩) λe _ ob' h=>⟨ob',q e ob' h,rfl,.refl _⟩
 have r0:R ν Z (start args os) ys H:=by
  refine⟨w5 G,λd ob hd=>?_,λd d' ob ob' h1 B=>r.inj d d' ob ob' (q d ob h1) (q d' ob' B),λd ob h=>r.apart d ob (q d ob h),r.zrow,r.deep⟩
  exact dV.plain (qB hh d ob hd).2 (λid h=>⟨h,rfl⟩) rfl (λ_=>rfl) (r.obj d ob (q d ob hd))
 obtain⟨n,y,H',ν1,Z',I,F1,ws,e1,rfl,rfl,e2,e3,ev⟩:=hS f args os rs m' hc ν Z ys H (.inl U) r0 G;obtain⟨b1,b2⟩:=yR hb;have ab:∀k ob',k∈os.map (·.1)->bk I.m k=some ob'->∃ob,bk os k=some ob/\ν1 k=ν k/\sameShape ob ob':=λk ob' hk h=>ev.pin k hk ob' h
 have w:∀id,fS ν os id->fS ν st.m id:=λid ⟨k,o,h1,B,z⟩=>⟨k,o,q k o h1,B,z⟩
 have T:∀ob ob':bP,sameShape ob ob'->cC ob'=cC ob:=λob ob' h=>by
  cases ob <;> cases ob' <;> simp[sameShape]at h
  .simp[cC,h.1]
  .rfl
  .rfl
 have u:∀k ob',bk D k=some ob'->∃ob,bk st.m k=some ob/\sameShape ob ob'/\(k∈os.map (·.1)/\bk I.m k=some ob'/\ν1 k=ν k/\bk os k=some ob/\xL ob'=true\/k∉os.map (·.1)/\ob'=ob):=λk ob' h=>by
  by_cases hk:k∈os.map (·.1)
  .grind
  .rw[b2 k hk]at h;exact⟨ob',h,.refl _,.inr ⟨hk,rfl⟩⟩
 have t:∀k ob,k∉os.map (·.1)->bk st.m k=some ob->cC ob=true->H'[(ν k).1]? = H[(ν k).1]? /\ ¬Z' (ν k).1:=λk ob hk h A=>by
  have J:¬fS ν os (ν k).1:=by
   rintro⟨k2,o2,g1,g2,g3⟩;have:=r.inj k2 k o2 ob (q k2 o2 g1) h g2 A g3;subst this;exact hk (mem_keys.2 ⟨o2,g1⟩)
  have X:=r.lt ⟨k,ob,h,A,rfl⟩;have Y:=r.apart k ob h A;refine⟨ev.same _ X J Y (λh=>h),λaa=>?_⟩
  rcases ev.frz _ aa with h|h|h|h
  .simp_all
  .exact J h
  .omega
  omega
 have L:∀e ob',bk D e=some ob'->∃ob,bk st.m e=some ob/\ν e=ν e/\sameShape ob ob':=λe ob' h=>by
  obtain⟨ob,h1,B,_⟩:=u e ob' h;exact⟨ob,h1,rfl,B⟩
 refine⟨n,result ws,H',Z',λk hk=>pK S.E hk _ _ _ _ e1,⟨λs sv hs=>(r.slot s sv hs).mono ev.rows λe _=>L e,λk ob' h=>?_,λC d2 o1 o2 h1 B k1 k2 hp=>?_,λC o1 h1 k1=>?_,e3.zrow,e3.deep⟩,?_,⟨ev.len,?_,ev.rows,?_,?_,λe _=>L e,rfl⟩,L⟩
 .obtain⟨ob,h1,B,z|⟨z,rfl⟩⟩:=u k ob' h
  .obtain⟨q1,q2,q3,q4,q5⟩:=z;refine dV.plain    q5 (λid h=>⟨h,rfl⟩) q3.symm (λ_=>rfl) (e3.obj k ob' q2)
  .exact dV.mono ev.rows rfl (λA=>(t k ob' z h1 A).1) (λe _=>L e) (r.obj k ob' h1)
 .obtain⟨p1,g1,s1,_⟩:=u C o1 h1;obtain⟨p2,g2,s2,_⟩:=u d2 o2 B;exact r.inj C d2 p1 p2 g1 g2 (by rw[<-T _ _ s1];omega) (by rw[<-T _ _ s2];omega) hp
 .obtain⟨ob,g1,s1,z|⟨z,rfl⟩⟩:=u C o1 h1
  .obtain⟨q1,q2,q3,q4,q5⟩:=z;rw[<-q3];exact e3.apart C o1 q2 k1
  .exact(t C o1 z g1 k1).2
 .have Q:=e2.dG W;have:FR H' Z' (result O) (result ws):=by
   cases O with
   | nil=>rw[Q.cU];exact .same _ rfl
   | cons x xs=>
    obtain⟨y,ad,rfl,g1,g2⟩:=Q.inv
    cases xs with
    | nil=>rw[g2.cU];exact g1
    | cons x2 xs=>
     obtain⟨y2,ae,rfl,g3,g4⟩:=g2.inv;exact .tup _ _ Q.1 Q.2
  exact .v _ _ this
 .intro id hl ho W _;exact ev.same id hl (λh=>ho (w id h)) W (λh=>h)
 .rintro id ⟨k,o,h1,B,z⟩;obtain⟨ob,g1,s1,_⟩:=u k o h1;exact .inl ⟨k,ob,g1,by rw[<-T _ _ s1];omega,z⟩
 .intro id h;rcases ev.frz id h with h|h|h|h
  .exact .inl h
  .exact .inr (.inl (w id h))
  .exact h.elim
  omega
theorem OB (B:kO S c) {f:FuncId} {az:List V} {rs:List SV} {m':iV} (hg:V.cE az=true) (h:c f (az.map .v) []=some (rs,m')) :
 ∃n H2 ν' Z' st' F' ys,(∀k,n<=k->run S.E k (.fn f) az []=some (result ys,H2))/\st'.m=m'/\b8 ν' m' H2 Z' rs ys/\R ν' Z' st' F' H2:=by
 obtain⟨q,r1⟩:=wI hg;obtain⟨n,y,H2,ν',Z',st',F',t,h1,rfl,u,w,z,_⟩:=B f _ _ _ _ h _ _ az [] (.inr rfl) q r1;exact⟨n,H2,ν',Z',st',F',t,λk hk=>pK S.E hk _ _ _ _ h1,u,w,z⟩
theorem BI {ys:List V} (h:V.cS ys=true):V.cS (.bH::ys)=true/\V.cS (.c9::ys)=true:=by
 simp[V.cS,V.scalar];grind
theorem C7 {ys:List V} (h:V.cS ys=true):(result ys).scalar=true:=by
 cases ys with
 | nil=>rfl
 | cons a l=>
  cases l with
  | nil=>simp only[V.cS,ζh]at h;exact h.1
  | cons b l=>simp[result,V.scalar];omega
theorem b8.Sw {ys:List V} (h:V.cE ys=true):b8 ν m H Z (ys.map .v) ys:=b8.qM (di.same h)
theorem N1 (hS:kO S c) (hP:∀f q,S.prm f=some q->pN S.E f q) {ops:List Oper} {place:Option (Nat×Nat)} {dr nw:Bool} {fr:List Nat} (ad:dr=place.isSome) (U:∀b i,place=some (b,i)->nw=true->dD ops i=true)
 (ab:∀b i,place=some (b,i)->(∀d ob,bk st.m d=some ob->cC ob=true->d∉fr->(ν d).1<b)/\∀id,Z id->id<b)
 (r:R ν Z st F H) {args:List SV} {ys:List V} (ha:b8 ν st.m H Z args ys) {f:FuncId} {dst:Option Nat} {sv:SV} (h:iY S c dst dr (!dr||nw) (ig st.m fr) f args st=some (sv,st')) :
 ∃n y H' ν' Z',(∀k,n<=k->jr S.E (run S.E k) ops place f ys H=some (y,H'))/\R ν' Z' st' F H'/\cW ν' st'.m H' Z' sv y/\Ev Rv ν Z st H ν' Z' st' H'/\(dr=true->Z'=Z)/\Kept dst ν st.m ν' st'.m:=by
 unfold iY at h;split at h
 .rename_i hk;split at h
  .have B:∀{q:dn} {y:V} {H':bl},e9 S.E q f ys H=some (y,H')->jr S.E q ops place f ys H=some (y,H'):=λ{q y H'} hd=>by
    unfold jr
    cases place with
    | none=>rw[if_pos (by simp[kE,hk])];omega
    | some bi=>
     obtain⟨b,i⟩:=bi;have aC  := ad;have ax:=U b i rfl (by grind)
     rw[if_pos (by simp[kE,hk,ax])]
     grind
   split at h
   .
    rename_i O;split at h
    .rename_i az hs;split at h
     .rename_i X;have hg:=Aa r.obj hs ha;have hb:=w6 r ha hs X;split at h
      .rename_i rs m' hc;obtain⟨n,H2,ν2,Z2,st2,F2,Y,e1,rfl,e3,e4⟩:=OB hS hg hc;have J:∀k,n<=k->∀{o:Option (V×bl)},(if(result Y).scalar then some (result Y,H)else
        match result Y with
        | .hsl id es off len=>(qo H.length H2 id es off len).map λ(v,ob)=>(v,H++[ob])
        | .tup (.hsl id es off len::rest)=>if V.cS rest then(qo H.length H2 id es off len).map λ(v,ob)=>(.tup (v::rest),H++[ob])else none
        | _=>none)=o->e9 S.E (run S.E k) f ys H=o:=λk C o ho=>by
        unfold e9 kW;rw[if_pos O];simp[hb,e1 k C];exact ho
       have ai:∀D:List V,(result D).scalar=true->result Y=result D->sv=.v (result D)->st'=st->∃n y H' ν' Z',(∀k,n<=k->jr S.E (run S.E k) ops place f ys H=some (y,H'))/\R ν' Z' st' F H'/\cW ν' st'.m H' Z' sv y/\Ev Rv ν Z st H ν' Z' st' H'/\(dr=true->Z'=Z)/\Kept dst ν st.m ν' st'.m:=by
        rintro D h1 h2 rfl rfl;exact⟨n,result D,H,ν,Z,λk C=>B (J k C (by rw[h2,if_pos h1])),r,.v _ _ (.same _ (mW h1)),.refl,λ_=>rfl,.refl⟩
       have emp:∀(k:Fl) (es:Nat) (D:List V) (rest:List SV),V.cS D=true->∀t,st.new t=true->∀w:V,(k=.nil/\w=.bH\/k=.emp/\w=.c9)->result (w::D)=result Y->dst=some t->sv=EY (.own t::D.map .v)->st'={ st with m:=bT st.m t (.sl k es []) } ->
        ∃n y H' ν' Z',(∀k,n<=k->jr S.E (run S.E k) ops place f ys H=some (y,H'))/\R ν' Z' st' F H'/\cW ν' st'.m H' Z' sv y/\Ev Rv ν Z st H ν' Z' st' H'/\(dr=true->Z'=Z)/\Kept dst ν st.m ν' st'.m:=by
        rintro k es D rest Q t L w hw aj rfl rfl rfl;have ae:cF k=false:=by rcases hw with⟨rfl,_⟩|⟨rfl,_⟩ <;> rfl
        have hsl:cW (jq ν t (0,0)) (bT st.m t (.sl k es [])) H Z (.own t) w:=by
         refine .own _ _ λW h'=>?_
         rw[cD]at h';cases h';exact⟨_,_,_,rfl,by rcases hw with⟨rfl,rfl⟩|⟨rfl,rfl⟩ <;> rfl⟩
        have ak:(result (w::D)).scalar=true:=C7 (by rcases hw with⟨_,rfl⟩|⟨_,rfl⟩;exact(BI Q).1;exact(BI Q).2)
        refine⟨n,result (w::D),H,jq ν t (0,0),Z,λk C=>B (J k C (by rw[<-aj,if_pos ak])),r.add L (λhb=>by simp[cC,ae]at hb) (by simp[dV,ae]),?_,
         Ev.add L (Nat.le_refl _) (λ_ _ _=>rfl) (λ_ _=>rfl) (λhb=>by simp[cC,ae]at hb),λ_=>rfl,Kept.add λ_ _ h=>h⟩
        cases D with
        | nil=>exact hsl
        | cons z D=>exact .tup _ _ (by simp) (b8.cons hsl (b8.Sw (pP Q))).2
       split at h
       .rename_i D I;split at h
        .rename_i Q;simp  at h;exact ai D Q ((EL (e3.dG I)).1 Q) h.1.symm h.2.symm
        .simp at h
       .split at h
        .rename_i e rest t _;obtain⟨w,Y,rfl,g1,g2⟩:=e3.inv;split at h
         .
          rename_i es xs D T I;split at h
          .rename_i A;simp  at A;obtain⟨⟨c1,c2⟩,L⟩:=A;simp  at h;obtain⟨rfl,rfl⟩:=h;have o:=e4.obj e _ T;simp only[dV,if_true]at o;obtain⟨rows,hr,aD,hf,aB,al⟩:=o;obtain⟨q1,q2⟩:=al trivial;have af  := by
            have:=HJ hf c2;rw[q1,List.drop_zero,<-q2,List.take_length]at this;exact this
           subst af;obtain⟨_,_,_,ee,rfl⟩:=g1.kq T;cases ee;have G  := (g2.dG I).scalar.1 c1;subst G;have am:qo H.length H2 (ν2 e).1 es 0 rows.length=some (.hsl H.length es 0 rows.length,.row es rows):=by
            unfold qo;rw[hr];simp only[true_and];rw[if_pos];rw[List.all_eq_true];intro x hx;unfold nS at c2;rw[List.all_eq_true]at c2;exact c2 x hx
           have hH:∀id,id<H.length->(H++[Ob.row es rows])[id]? = H[id]? := λid X=>List.getElem?_append_left X
           have an:∀id,Z id->bp (H++[Ob.row es rows]) id=bp H id:=λid I=>by unfold bp;rw[hH id (r.vu I)]
           have r2  := r.heap (λid ho=>hH id (r.lt ho)) an
           have ao:V.od rows=true:=by
            refine lH.2 λj u hu=>?_
            unfold nS at c2;rw[List.all_eq_true]at c2;have:=c2 u (List.mem_of_getElem? hu);rw[List.all_eq_true]at this;exact iu.2 λi v hv=>mW (this v (List.mem_of_getElem? hv))
           have hR:=r2.add   (ob:=.sl .row es rows) (p:=(H.length,0)) L (λ_=>⟨λho=>absurd (r.lt ho) (by simp),λI=>absurd (r.vu I) (by simp)⟩) (by
            simp only[dV,iJ];refine⟨rows,by simp,by simp,?_,(gC.same ao).E_,λ_=>⟨trivial,rfl⟩⟩
            rw[List.drop_zero,List.take_length];exact gC.same ao)
           have hsl:cW (jq ν t (H.length,0)) (bT st.m t (.sl .row es rows)) (H++[Ob.row es rows]) Z (.own t) (.hsl H.length es 0 rows.length):=by
            refine .own _ _ λW h'=>?_
            rw[cD]at h';cases h';exact⟨_,_,_,rfl,by simp[rz,iJ]⟩
           have ap:Ev Rv ν Z st H (jq ν t (H.length,0)) Z { st with m:=bT st.m t (.sl .row es rows) } (H++[Ob.row es rows]):=Ev.add L (by simp) (λid X _=>hH id X) an (λ_=>.inr (Nat.le_refl _))
           have aq:rz (ν2 e) Fl.row es rows.length=.hsl (ν2 e).1 es 0 rows.length:=by simp[rz,q1]
           rw[aq]at J
           cases rest with
           | nil=>
            have  := by simp only[dG,ζa]at I;exact I.symm
            subst this;refine⟨n,_,_,_,Z,λk C=>B (J k C  ?_),hR,hsl,ap,λ_=>rfl,Kept.add λ_ _ h=>h⟩
            simp[result,V.scalar,am]
           | cons x2 rest=>
            have ay:∃w2 ah,Y=w2::ah:=by
             have:=g2.1
             cases Y with
             | nil=>simp at this
             | cons a b=>exact⟨a,b,rfl⟩
            obtain⟨w2,ah,rfl⟩:=ay;refine⟨n,_,_,_,Z,λk C=>B (J k C (o:=some (.tup (.hsl H.length es 0 rows.length::w2::ah),H++[Ob.row es rows])) ?_),hR,?_,ap,λ_=>rfl,Kept.add λ_ _ h=>h⟩
            .simp only[result,V.scalar,V.cS,Bool.false_and,Bool.false_eq_true,if_false];have aA  := by simpa [V.cS]using c1
             simp[aA,am]
            .exact .tup _ _ (by simp) (b8.cons hsl (b8.Sw (pP c1))).2
          .simp at h
         .rename_i es xs D T I;split at h
          .rename_i A;simp  at A;simp  at h;obtain⟨rfl,rfl⟩:=h;obtain⟨_,_,_,ee,rfl⟩:=g1.kq T;cases ee;have G:=(g2.dG I).scalar.1 A.1;subst G;exact emp .nil es Y rest A.1 _ A.2 .bH (by simp) rfl rfl rfl rfl
          .simp at h
         .rename_i es xs D T I;split at h
          .rename_i A;simp  at A;simp  at h;obtain⟨rfl,rfl⟩:=h;obtain⟨_,_,_,ee,rfl⟩:=g1.kq T;cases ee;have G:=(g2.dG I).scalar.1 A.1;subst G;exact emp .emp es Y rest A.1 _ A.2 .c9 (by simp) rfl rfl rfl rfl
          .simp at h
         .simp at h
        .simp at h
      grind
     grind
    grind
   .rename_i O;split at h
    .simp at h
    .rename_i hd;split at h
     .rename_i q hq;obtain⟨n,y,H',ν',e1,e2,e3,e4,e5⟩:=Rf  (hP f q hq) r ha h;exact⟨n,y,H',ν',Z,λk C=>B (by unfold e9;rw[if_neg O];exact e1 k C),e2,e3,e4,λh=>absurd h hd,e5⟩
     .split at h
      .rename_i os hh;split at h
       .rename_i rs m' hc;split at h
        .rename_i D m2 I hb;simp  at h;obtain⟨rfl,rfl⟩:=h;obtain⟨n,y,H',Z',e1,e2,e3,e4,e5⟩:=Rm  hS hk r ha hh hc I hb;exact⟨n,y,H',ν,Z',λk C=>B (by unfold e9;rw[if_neg O];exact e1 k C),e2,e3,e4,λh=>absurd h hd,λe W _=>e5 e W⟩
        .simp at h
       .simp at h
      .simp at h
  grind
 .rename_i hk;have ar  := by simpa using hk
  split at h
  .rename_i az hs;split at h
   .rename_i X;simp  at X;split at h
    .rename_i rs m' hc;split at h
     .rename_i D I;split at h
      .rename_i A;simp[Bool.not_eq_true']at A;simp  at h;obtain⟨rfl,rfl⟩:=h;obtain⟨n,H',e1,e2,e3,e4⟩:=Qh  hS ad U ab r ha ar hs X.1 (by simpa using X.2) hc I A.1 A.2
       exact⟨n,_,H',ν,Z,e1,e2,e3,e4,λ_=>rfl,.refl⟩
      .rename_i au;split at h
       .rename_i aa;simp only[ζh]at aa;obtain⟨ds,av,e⟩:=ζf.1 h;simp  at e;obtain⟨rfl,rfl⟩:=e;have aw:(result D).scalar=false:=by
         cases hq:(result D).scalar with
         | false=>rfl
         | true=>exact absurd (by simp[aa.1,hq]) au
        obtain⟨n,H',e1,e2,e3,e4⟩:=Rp  hS U (λb i hp=>(ab b i hp).2) r ha ar hs X.1 (by rw[<-ad];exact aa.2) hc I aa.1 aw av (vM av hs)
        exact⟨n,_,H',ν,Z,e1,e2,e3,e4,λ_=>rfl,λe W _ h=>⟨W,nU h,rfl,.refl _⟩⟩
       .simp at h
     .simp at h
    .simp at h
   .simp at h
  .simp at h
end
end Go.VE
namespace Go.VE
variable [bX]
structure CX where
 E:Env
 nm:FuncId->Option Nat
 nt:Nat
def A_ (ops:List Oper) (o:Oper):Option (Option (Nat×Bool)):=
 match o.guard with
 | none=>some none
 | some (j,b)=>((ops[j]?).bind (·.dst)).map λd=>some (d,b)
def yg (nt:Nat):Option Nat->Bool
 | none=>true
 | some d=>decide (d<nt)
def wY (B:Bool) (ops:List Oper) (i:Nat) (k:K) (os:List Operand):K×List Operand×Bool:=
 if B && !dD ops i then match k,os,zy ops i with
  | .l (.store n),.tmp q::t,some (a,l)=>if q=a then(.l (.storeF n),(.tmp q::t)++l.map .tmp,true)else(k,os,false)
  | .l (.append n),os,_=>if we ops i then(.e n,os,true)else(k,os,false)
  | .r (.load n ag),[.tmp q],_=>if(oV ops i q).isEmpty then(k,os,false)else(.r (.loadF n ag),.tmp q::(oV ops i q).map .tmp,false)
  | _,_,_=>(k,os,false)
 else(k,os,B&&dD ops i)
theorem CE (B:Bool) (ops:List Oper) (i:Nat) (k:K) (os:List Operand):(wY B ops i k os=(k,os,B&&dD ops i)/\∀n ag a',B=true->dD ops i=false->k=.r (.load n ag)->os=[.tmp a']->oV ops i a'=[]) \/
 (B=true/\dD ops i=false/\∃n a l D,k=.l (.store n)/\os=.tmp a::D/\zy ops i=some (a,l)/\wY B ops i k os=(.l (.storeF n),os++l.map .tmp,true)) \/
 (B=true/\dD ops i=false/\∃n ag a,k=.r (.load n ag)/\os=[.tmp a]/\wY B ops i k os=(.r (.loadF n ag),.tmp a::(oV ops i a).map .tmp,false)) \/
 (B=true/\dD ops i=false/\we ops i=true/\∃n,k=.l (.append n)/\wY B ops i k os=(.e n,os,true)):=by
 unfold wY;split
 .rename_i h;simp only[ζh,Bool.not_eq_true']at h;split
  .rename_i n a' D a l hk;split
   .rename_i e;subst e;refine .inr (.inl ⟨h.1,h.2,n,a',l,D,rfl,rfl,hk,?_⟩);simp only[wY,h.1,h.2,hk,Bool.not_false,Bool.and_self,if_true]
   .exact .inl ⟨by rw[h.2,Bool.and_false],λn ag a' _ _ e=>by cases e⟩
  .rename_i n;split
   .rename_i z;refine .inr (.inr (.inr ⟨h.1,h.2,z,n,rfl,rfl⟩))
   .exact .inl ⟨by rw[h.2,Bool.and_false],λn ag a' _ _ e=>by cases e⟩
  .rename_i n ag a';split
   .rename_i A;refine .inl ⟨by rw[h.2,Bool.and_false],λn ag w _ _ _ e=>?_⟩
    simp only[List.cons.injEq,Operand.tmp.injEq,and_true]at e;subst e;simpa using A
   .exact .inr (.inr (.inl ⟨h.1,h.2,n,ag,a',rfl,rfl,rfl⟩))
  .rename_i q t u;refine .inl ⟨by rw[h.2,Bool.and_false],λn ag w _ _ e1 e2=>?_⟩
   first|exact(u _ _ _ e1 e2).elim|exact(u _ _ _ _ e1 e2 rfl).elim|exact(q _ _ _ e1 e2).elim|exact(t _ _ _ e1 e2).elim|exact(q _ _ _ _ e1 e2 rfl).elim|exact(t _ _ _ _ e1 e2 rfl).elim
 .rename_i h;refine .inl ⟨rfl,λn ag w C G _ _=>?_⟩
  rw[C,G]at h;exact absurd rfl h
def mY (X:CX) (B:Bool) (ops:List Oper) (i:Nat) (o:Oper):Option RO:=
 if yg X.nt o.dst then
  match A_ ops o,resolve X.E X.nm o.op with
  | some gd,some (k,os)=>if Aw k then if B&&xC ops i then match k,o.op with
   | .a (.makeSl size zero),.makeSlice ..=>(os.mapM (pR X.nm)).map λaz=>⟨o.dst,gd,false,.p (.makeC size zero),az,[],[]⟩
   | .a (.buildSl size len zero idx),.buildSlice ..=>if size≠0/\len=0/\idx=[]then(os.mapM (pR X.nm)).map λaz=>⟨o.dst,gd,false,.p .emptyC,az,[],[]⟩else none
   | _,_=>none
   else((wY B ops i k os).2.1.mapM (pR X.nm)).map λaz=>⟨o.dst,gd,(wY B ops i k os).2.2,(wY B ops i k os).1,az,[],[]⟩else none
  | _,_=>none
 else none
theorem BL {E:Env} {N:Nat->FuncId} {F:Frame} {op:Op} {ys:List V} {size:Nat} {zero:List V} {y:V} (D:∃t l c,op=.buildSlice t l c) (h:B4 E N F op ys (.a (.buildSl size 0 zero []))) (G:size≠0) (B:bh N .emptyC ys=some y):qG E F op=some y:=by
 obtain⟨t,l,c,rfl⟩:=D;obtain⟨g1,g2⟩:=h;unfold bh at B;split at B <;> first|(rename_i e;cases e;done)|skip
 .simp only[ζa]at B;subst B;have q:=g2 _ (show iZ (.buildSl size 0 zero []) []=some (.row size [],.sl size 0)by simp[iZ,gE])
  unfold qG;rw[q];simp[G]
 .cases B
theorem B6 {E:Env} {N:Nat->FuncId} {F:Frame} {op:Op} {ys:List V} {size:Nat} {zero:List V} {y:V} (D:∃t l c,op=.makeSlice t l c) (h:B4 E N F op ys (.a (.makeSl size zero))) (B:bh N (.makeC size zero) ys=some y):qG E F op=some y:=by
 obtain⟨t,l,c,rfl⟩:=D;obtain⟨g1,g2⟩:=h;unfold bh at B;split at B <;> first|(rename_i e;cases e;done)|skip
 .rename_i k n C m e;cases e;split at B
  .rename_i c;obtain⟨rfl,rfl,u,rfl,w,z⟩:=c;have q:=g2 _ (show iZ (.makeSl size zero) [.int .i64 n,.int .i64 n]=some (.row size (List.replicate n.toNat zero),.sl size n.toNat)by simp only[iZ,u,w,Int.le_refl,and_self,if_true])
   unfold qG;rw[q];simp only;rw[if_pos (by refine⟨by trivial,by simp,List.all_eq_true.2 λx A=>by rw[List.eq_of_mem_replicate A];exact z⟩),<-B]
  .cases B
 .cases B
theorem CA {X:CX} {dr:Bool} {ops:List Oper} {i:Nat} {o:Oper} {ro:RO} (hc:mY X dr ops i o=some ro):yg X.nt o.dst=true/\∃g now k az,A_ ops o=some g/\ro=⟨o.dst,g,now,k,az,[],[]⟩:=by
 unfold mY at hc;split at hc
 .rename_i q;split at hc
  .rename_i g k os hg hr;split at hc
   ·(repeat' split at hc) <;> first|(cases hc;done)|(obtain⟨az,t,rfl⟩:=ζf.1 hc;exact⟨q,_,_,_,_,hg,rfl⟩)
   .cases hc
  .cases hc
 .cases hc
structure Good (X:CX) (S:Sys):Prop where
 E:X.E=S.E
 N:∀f s,X.nm f=some s->S.N s=f
 prm:∀f q,S.prm f=some q->pN S.E f q
section
variable {Rv:Nat->Prop} {ν ν':Nu} {Z Z':Nat->Prop} {st st':St} {m m':Tb bP} {F F':Frame} {H H' H1:bl} {S:Sys} {c:cq} {X:CX}
def Old (b:Nat) (fr:List Nat) (ν:Nu) (Z:Nat->Prop) (m:Tb bP):Prop:=(∀d ob,bk m d=some ob->cC ob=true->d∉fr->(ν d).1<b)/\∀id,Z id->id<b
theorem nr {fr:List Nat}:∀{svs:List SV},e_ fr svs=true->∀d∈fr,SV.dH d svs=false
 | [],_,d,_=>rfl
 | .v _::r,h,d,B=>(nr (svs:=r) (by simpa [e_]using h) d B)
 | .ptr e _::r,h,d,B=>by
  simp[e_,Bool.not_eq_true']at h;simp[SV.dH,SV.cR];exact⟨λe=>h.1 (e▸B),nr h.2 d B⟩
 | .el e _ _::r,h,d,B=>by
  simp[e_,Bool.not_eq_true']at h;simp[SV.dH,SV.cR];exact⟨λe=>h.1 (e▸B),nr h.2 d B⟩
 | .mp e::r,h,d,B=>by
  simp[e_,Bool.not_eq_true']at h;simp[SV.dH,SV.cR];exact⟨λe=>h.1 (e▸B),nr h.2 d B⟩
 | .own _::r,h,_,_=>by simp[e_]at h
 | .clo ..::r,h,_,_=>by simp[e_]at h
 | .tup _::r,h,_,_=>by simp[e_]at h
 | .agg _::r,h,_,_=>by simp[e_]at h
 | .yl _::r,h,_,_=>by simp[e_]at h
def BW (S:Sys) (ops:List Oper) (place:Option (Nat×Nat)) (dr:Bool) (F:Frame) (op:Op) (dst:Option Nat) (ν:Nu) (Z:Nat->Prop) (st:St) (H:bl) (sv:SV) (st':St):Prop:=
 ∃n y H' ν' Z',(∀k,n<=k->c8 S.E (run S.E k) ops place F H op=some (y,H'))/\R ν' Z' st' F H'/\cW ν' st'.m H' Z' sv y/\Ev (λid=>∃b j,place=some (b,j)/\id=b+j) ν Z st H ν' Z' st' H' /\
  (dr=true->Z'=Z/\Kept dst ν st.m ν' st'.m)
theorem L6 (gd:Good X S) {ops:List Oper} {place:Option (Nat×Nat)} {dr:Bool} {op:Op} {dst:Option Nat} {p:uP} {svs:List SV} {ys:List V} (hk:Aw (.p p)=true) (r:R ν Z st F H) (rs:b8 ν st.m H Z svs ys)
 (B:B4 X.E S.N F op ys (.p p)) {sv:SV} (h:(jl S.N st.m p svs).map (λx=>(x,st))=some (sv,st')):BW S ops place dr F op dst ν Z st H sv st':=by
 obtain⟨x,u,e⟩:=ζf.1 h;obtain⟨rfl,rfl⟩:=e;obtain⟨y,w,t⟩:=FF  (λzero pl e=>by subst e;simpa [Aw]using hk) r.obj rs u
 obtain⟨h1,z⟩:=B;exact⟨0,y,H,ν,Z,λq _=>by unfold c8;rw[h1];simp[<-gd.E,z y w],r,t,.refl,λ_=>⟨rfl,.refl⟩⟩
theorem DW (gd:Good X S) {ops:List Oper} {place:Option (Nat×Nat)} {dr:Bool} {op:Op} {p:uP} {svs:List SV} {ys:List V} (J:∀zero pl,p≠.build zero pl) (B:cV op=.alloc) (D:qN ops place=true) (G:∀y,bh S.N p ys=some y->qG X.E F op=some y)
 (r:R ν Z st F H) (rs:b8 ν st.m H Z svs ys) {sv:SV} (h:(jl S.N st.m p svs).map (λx=>(x,st))=some (sv,st')):BW S ops place dr F op none ν Z st H sv st':=by
 obtain⟨x,u,e⟩:=ζf.1 h;simp only[ζc]at e;obtain⟨rfl,rfl⟩:=e;obtain⟨y,w,t⟩:=FF (N:=S.N) (λzero pl e=>absurd e (J zero pl)) r.obj rs u
 refine⟨0,y,H,ν,Z,λq _=>?_,r,t,.refl,λ_=>⟨rfl,.refl⟩⟩
 unfold c8;rw[B];simp only[D,if_true,<-gd.E,G y w,Option.map_some]
theorem H6:∀{l1 B:List Operand} {vs:List V},fI F (l1++B)=some vs->∃D G,fI F l1=some D/\fI F B=some G/\vs=D++G
 | [],B,vs,h=>⟨[],vs,rfl,h,rfl⟩
 | x::l1,B,vs,h=>by
  obtain⟨a,az,h1,J,rfl⟩:=iW h;obtain⟨D,G,g1,g2,rfl⟩:=H6 J;exact⟨a::D,G,by simp[fI,h1,g1],g2,rfl⟩
theorem Bq:∀{l:List Nat} {vs:List V},fI F (l.map Operand.tmp)=some vs->vs=l.map (get F)
 | [],vs,h=>qd h
 | x::l,vs,h=>by
  obtain⟨a,az,h1,B,rfl⟩:=iW h;simp[ev]at h1;subst h1;rw[Bq B];rfl
theorem S8 (gd:Good X S) {call:dn} {ops:List Oper} {b j n a:Nat} {l:List Nat} {o:Oper} {B:List Operand} {ys:List V} {y:V} (hr:resolve X.E X.nm o.op=some (.l (.store n),.tmp a::B)) (D:fI F ((.tmp a::B)++l.map Operand.tmp)=some ys)
 (G:zy ops j=some (a,l)) (J:dD ops j=false) (e1:eY H (.storeF n) ys=some (y,H')):c8 S.E call ops (some (b,j)) F H o.op=some (y,H'):=by
 obtain⟨Q,T,h1,A,rfl⟩:=H6 D;obtain⟨g1,g2⟩:=kA gd.N hr h1;obtain⟨w,C,t,I,rfl⟩:=iW h1;simp[ev]at t;have q:∃v,C=[v]:=by
  have u:∃x,B=[x]:=by
   unfold resolve at hr
   (repeat' split at hr) <;> first|grind|skip
   all_goals (try (obtain⟨_,_,e⟩:=ζf.1 hr;simp[K.l.injEq,Il.store.injEq,reduceCtorEq]at e))
   grind
  obtain⟨x,rfl⟩:=u;obtain⟨v,U,_,L,rfl⟩:=iW I;rw[qd L];grind
 obtain⟨v,rfl⟩:=q;rw[Bq A,<-t]at e1;simp  at e1
 cases z:get F a with
 | hptr id el off=>
  rw[z]at e1;simp only[eY]at e1;split at e1
  .have O:qZ ops j F=true:=by
    unfold qZ
    grind
   unfold c8;rw[g1];simp[O,<-gd.E];refine g2 _ _ ?_;rw[<-t,z];exact e1
  grind
 | _=>rw[z]at e1;simp[eY]at e1
theorem EK {E:Env} {nm:FuncId->Option Nat} {op:Op} {s:Nat} {a:Bool} {os:List Operand} (h:resolve E nm op=some (.r (.loadF s a),os)):False:=by
 unfold resolve at h
 (repeat' split at h) <;> first|grind|skip
 all_goals simp_all
theorem G6 {E:Env} {nm:FuncId->Option Nat} {op:Op} {s a':Nat} {a:Bool} {t:TypeId} {os:List Operand} (h:resolve E nm op=some (.r (.load s a),os)):∃t x,op=.load t x/\os=[x]:=by
 unfold resolve at h
 (repeat' split at h) <;> first|grind|skip
 all_goals simp_all
 grind
theorem LM {E:Env} {nm:FuncId->Option Nat} {ops:List Oper} {j:Nat} {op:Op} {q:Ii} {os:List Operand} (hr:resolve E nm op=some (.r q,os)) (h:∀n ag a',K.r q=.r (.load n ag)->os=[.tmp a']->∀t,op=.load t (.tmp a')->oV ops j a'=[]):nJ ops j F op=true:=by
 unfold nJ;split
 .rename_i t a';have:∃n ag,q=.load n ag/\os=[.tmp a']:=by
   obtain⟨d,_,e⟩:=ζf.1 hr
   grind
  grind
 .rfl
theorem PL (gd:Good X S) {ops:List Oper} {b j n a:Nat} {ag:Bool} {fr:List Nat} {o:Oper} {svs:List SV} {ys:List V} {dst:Option Nat} {x:SV} (hr:resolve X.E X.nm o.op=some (.r (.load n ag),[.tmp a])) (U:fI F (.tmp a::(oV ops j a).map Operand.tmp)=some ys) (rs:b8 ν st.m H Z svs ys)
 (W:e_ fr svs=true) (aa:b<=H.length) (ab:∀d ob,bk st.m d=some ob->cC ob=true->d∉fr->(ν d).1<b) (B:∀id,Z id->id<b) (r:R ν Z st F H) (O:oT st.m (.loadF n ag) svs=some x):BW S ops (some (b,j)) true F o.op dst ν Z st H x st:=by
 obtain⟨w,ws,h1,h2,rfl⟩:=iW U;simp[ev]at h1;have ad:=Bq h2;unfold oT at O;split at O <;> first|(rename_i u;cases u;done)|skip
 .rename_i size agg d off l u;cases u;split at O
  .rename_i C;split at O
   .rename_i cs A;obtain⟨w',ae,e,g1,g2⟩:=rs.inv;cases e;have D:=IA r A g2 C;obtain⟨_,_,rfl⟩:=g1.oJ A;have G:∀id,Z id->Z id/\bp (H.take b) id=bp H id:=λid h=>⟨h,mU (B id h)⟩
    have I:∀id,Z id->Z id/\bp H id=bp (H.take b) id:=λid h=>⟨h,(mU (B id h)).symm⟩
    have af:d∉fr:=λY=>by
     have:=nr W d Y;simp[SV.dH,SV.cR]at this
    obtain⟨y,hy,L⟩:=vC  (r:=.load n ag)   (λs a e=>by cases e) (λkk z ok e=>by cases e) (b8.cons (g1.mono G λe _=>jc ν st.m e) .nil) (λd2 Q ob J=>by
     have ah:d2∉fr:=λY=>by
      have  := by simpa [SV.dH,SV.cR]using Q
      grind
     exact dV.mono G rfl (λhb=>by grind) (λe _=>jc ν st.m e) (r.obj d2 ob J))  (by simp[oT,A];omega)
    obtain⟨k1,k2⟩:=kA  gd.N hr (show fI F [.tmp a]=some [.hptr (ν d).1 0 off]from by simp[fI,ev,h1])
    have T:nJ ops j F o.op=true:=by
     obtain⟨t,x',e1,e2⟩:=G6 (a':=0) (t:=0) hr;rw[e1];simp  at e2;subst e2;simp[nJ];intro s hs;have hm:get F s∈ws:=by grind
     have:=List.all_eq_true.1 D _ hm;split
     .rename_i ai _ _ hg;simp[qn]at this ⊢
      grind
     .rfl
    refine⟨0,y,H,ν,Z,λq _=>?_,r,L.mono I (λe _=>jc ν st.m e),.refl,λ_=>⟨rfl,.refl⟩⟩
    unfold c8;rw[k1];simp[<-gd.E,k2 (H.take b) y hy,T]
   grind
  grind
 grind
theorem C8 {E:Env} {nm:FuncId->Option Nat} {op:Op} {n:Nat} {os:List Operand} (h:resolve E nm op=some (.l (.append n),os)) {y:V} {ys:List V} (hv:fI F os=some (y::ys)) (B:y=.bH\/y=.c9):isApp op=true/\o7 F op=true:=by
 have key:∃args q p s x,op=.call { callee:=.builtin .append,args:=args,argTypes:=q }/\args.toList=[s,x]/\os=[s,x]/\p=():=by
  unfold resolve at h
  (repeat' split at h) <;> first|(simp at h;done)|skip
  all_goals (try (obtain⟨_,_,e⟩:=ζf.1 h;simp only[ζc,K.l.injEq,reduceCtorEq,false_and]at e))
  all_goals (simp only[ζa,ζc]at h;obtain⟨_,rfl⟩:=h;exact⟨_,_,(),_,_,rfl,by assumption,rfl,rfl⟩)
 obtain⟨args,q,_,s,x,rfl,h1,rfl,_⟩:=key;obtain⟨a,az,t,u,e⟩:=iW hv;cases e;refine⟨rfl,?_⟩;simp only[o7,h1,t];rcases B with rfl|rfl <;> rfl
theorem Sq (gd:Good X S) (hS:kO S c) {ops:List Oper} {place:Option (Nat×Nat)} {dr:Bool} {fr:List Nat} {i:Nat} (G:dr=place.isSome) (hi:∀b j,place=some (b,j)->j=i)
 (U:∀b j,place=some (b,j)->b<=H.length/\Old b fr ν Z st.m)
 {o:Oper} {ro:RO} (hc:mY X dr ops i o=some ro) (aD:∀b j,place=some (b,j)->ops[j]? = some o) (al:∀b j,place=some (b,j)->cV o.op=.alloc->H[b+j]? = some .free)
 (r:R ν Z st F H) {sv:SV} (h:mm S c dr fr ro st=some (sv,st')) :
 BW S ops place dr F o.op (yw ro) ν Z st H sv st':=by
 unfold mY at hc;split at hc
 .split at hc
  .rename_i g k os hg hr;split at hc
   .rename_i hk;split at hc
    .rename_i ah;simp only[ζh]at ah;have au:qN ops place=true:=by
      cases place with
      | none=>rw[G]at ah;exact absurd ah.1 (by simp)
      | some O=>obtain⟨b,j⟩:=O;rw[hi b j rfl];exact ah.2
     split at hc
     .rename_i size zero t l c aa;obtain⟨az,ha,rfl⟩:=ζf.1 hc;unfold mm at h;split at h
      .rename_i I C;obtain⟨ys,D,rs⟩:=pJ gd.N r.slot ha C;have J:=kA gd.N hr D;exact DW gd (λ_ _ e=>by cases e) J.1 au (λy hy=>B6 ⟨_,_,_,aa⟩ J hy) r rs h
      .simp at h
     .rename_i size len zero idx t l c aa;split at hc
      .rename_i aE;obtain⟨aF,rfl,rfl⟩:=aE;obtain⟨az,ha,rfl⟩:=ζf.1 hc;unfold mm at h;split at h
       .rename_i I C;obtain⟨ys,D,rs⟩:=pJ gd.N r.slot ha C;have J:=kA gd.N hr D;exact DW gd (λ_ _ e=>by cases e) J.1 au (λy hy=>BL ⟨_,_,_,aa⟩ J aF hy) r rs h
       .simp at h
      .cases hc
     .cases hc
    rename_i ai;have ak:qN ops place=false:=by
     cases place with
     | none=>rfl
     | some O=>
      obtain⟨b,j⟩:=O;have A:=hi b j rfl
      cases av:xC ops j with
      | false=>exact av
      | true=>exact absurd (by rw[G,<-A,av];rfl) ai
    rcases CE dr ops i k os with⟨hq,aG⟩|⟨u,am,n,a,l,aP,rfl,rfl,aH,hq⟩|⟨u,am,n,ag,a,rfl,rfl,hq⟩|⟨u,am,aI,n,rfl,hq⟩
    rotate_left
    .rw[hq]at hc;obtain⟨az,ha,rfl⟩:=ζf.1 hc;unfold mm at h;split at h
     .rename_i I C;obtain⟨ys,D,rs⟩:=pJ gd.N r.slot ha C;simp only[u,Bool.not_true,Bool.false_or,if_true]at h;obtain⟨y,H',ν',e1,e2,e3,e4,e5⟩:=Bn r rs h;refine⟨0,y,H',ν',Z,λq _=>?_,e2,e3,e4.weak (λ_ h=>h.elim),λ_=>⟨rfl,e5⟩⟩
      cases place with
      | none=>rw[G]at u;cases u
      | some O=>
       obtain⟨b,j⟩:=O;have A:=hi b j rfl;subst A;exact S8 gd hr D aH am e1
     .simp at h
    .rw[hq]at hc;obtain⟨az,ha,rfl⟩:=ζf.1 hc;unfold mm at h;split at h
     .rename_i I C;obtain⟨ys,D,rs⟩:=pJ gd.N r.slot ha C;simp only[u,Bool.not_true,Bool.or_self,Bool.false_or]at h;split at h
      .rename_i an;obtain⟨x,hx,e⟩:=ζf.1 h;simp only[ζc]at e;obtain⟨rfl,rfl⟩:=e
       cases place with
       | none=>rw[G]at u;cases u
       | some O=>
        obtain⟨b,j⟩:=O;have A:=hi b j rfl;subst A;obtain⟨aw,ao,aj⟩:=U b j rfl;rw[u];exact PL gd hr D rs an aw ao aj r hx
      .simp at h
     .simp at h
    .rw[hq]at hc;obtain⟨az,ha,rfl⟩:=ζf.1 hc;unfold mm at h;split at h
     rotate_left
     .simp at h
     rename_i I C;obtain⟨ys,D,rs⟩:=pJ gd.N r.slot ha C;simp only at h;have key:∃e x,(e=V.bH\/e=V.c9)/\I=[.v e,x]/\jN st o.dst (.append n) I=some (sv,st'):=by
      split at h
      .exact⟨_,_,.inl rfl,rfl,h⟩
      .exact⟨_,_,.inr rfl,rfl,h⟩
      .cases h
     obtain⟨e,x,he,rfl,hl⟩:=key;obtain⟨y,H',ν',e1,e2,e3,e4,e5⟩:=Bn r rs hl;obtain⟨g1,g2⟩:=kA gd.N hr D;refine⟨0,y,H',ν',Z,λq _=>?_,e2,e3,e4.weak (λ_ h=>h.elim),λ_=>⟨rfl,e5⟩⟩
     obtain⟨y1,zs,rfl,f1,f2⟩:=rs.inv;have aJ:y1=.bH\/y1=.c9:=by
      cases f1 with|v _ _ hf=>rcases he with rfl|rfl <;> first|exact .inl hf.bH|exact .inr hf.c9
     cases place with
     | none=>rw[G]at u;cases u
     | some O=>
      obtain⟨b,j⟩:=O;have A:=hi b j rfl;subst A;obtain⟨r1,r2⟩:=C8 hr D aJ;exact LD r1 (by rw[<-gd.E];exact g2 _ _ e1) (.inr ⟨aI,r2,(U b j rfl).1⟩)
    rw[hq]at hc;obtain⟨az,ha,rfl⟩:=ζf.1 hc;unfold mm at h;split at h
    .rename_i I C;obtain⟨ys,D,rs⟩:=pJ gd.N r.slot ha C;have B:=kA gd.N hr D;simp only at h
     cases k with
     | p p=>
      cases p with
      | slice size lo hi=>
       simp only at h;split at h
       .rename_i d bs;split at h
        .simp at h
        .rename_i aK;obtain⟨y,ν',h1,h2,h3,h4⟩:=Mr (N:=S.N) (Rv:=λid=>∃b j,place=some (b,j)/\id=b+j) r rs h
         obtain⟨g1,g2⟩:=B;exact⟨0,y,H,ν',Z,λq _=>by unfold c8;rw[g1];simp only[<-gd.E,g2 y h1,Option.map_some],h2,h3,h4,λhd=>absurd hd aK⟩
       .exact L6 gd hk r rs B h
      | _=>exact L6 gd hk r rs B h
     | r q=>
      simp only at h;split at h
      .rename_i T;obtain⟨x,hx,e⟩:=ζf.1 h;simp only[ζc]at e;obtain⟨rfl,rfl⟩:=e;obtain⟨g1,g2⟩:=B;have ap:∀kk z ok,q=.lookup kk z ok->z.good=true:=λkk z ok e=>by subst e;simpa [Aw]using hk
       have ab:∀s a,q≠.loadF s a:=λs a e=>by subst e;exact EK hr
       cases place with
       | none=>
        obtain⟨y,hy,ad⟩:=vC ab ap rs (λd _ ob hd=>r.obj d ob hd) hx
        exact⟨0,y,H,ν,Z,λq _=>by unfold c8;rw[g1];simp only[<-gd.E,g2 H y hy,Option.map_some],r,ad,.refl,λ_=>⟨rfl,.refl⟩⟩
       | some O=>
        obtain⟨b,j⟩:=O;obtain⟨aw,ao,aj⟩:=U b j rfl;have u:dr=true:=G;subst u;have A:=hi b j rfl;subst A;simp only[Bool.not_true,Bool.false_or,Bool.true_and]at T;have ax:nJ ops j F o.op=true:=LM hr λn ag a' e1 e2 t e3=>by
         by_cases Q:dD ops j=true
         .exact Cj (aD b j rfl) e3 Q
         .exact aG n ag a' rfl (by simpa using Q) e1 e2
        by_cases Q:dD ops j=true
        .obtain⟨y,hy,ad⟩:=vC ab ap rs (λd _ ob hd=>r.obj d ob hd) hx
         have hH:=g2 H y hy;refine⟨0,y,H,ν,Z,λq _=>?_,r,ad,.refl,λ_=>⟨rfl,.refl⟩⟩
         unfold c8;rw[g1];simp only[<-gd.E,ax,if_true];split
         .rename_i v hv;have:=yK hv;rw[hH]at this;cases this;rfl
         .rw[if_pos Q,hH];rfl
        .have an:e_ fr I=true:=by simpa [Q]using T
         have Y:∀id,Z id->Z id/\bp (H.take b) id=bp H id:=λid h=>⟨h,mU (aj id h)⟩
         have ay:∀id,Z id->Z id/\bp H id=bp (H.take b) id:=λid h=>⟨h,(mU (aj id h)).symm⟩
         obtain⟨y,hy,ad⟩:=vC (H:=H.take b) ab ap (rs.mono Y λe _=>jc ν st.m e) (λd hd ob aA=>by
          have ab:d∉fr:=λhf=>by rw[nr an d hf]at hd;cases hd
          exact dV.mono Y rfl (λhb=>by rw[List.getElem?_take,if_pos (ao d ob aA hb ab)]) (λe _=>jc ν st.m e) (r.obj d ob aA)) hx
         refine⟨0,y,H,ν,Z,λq _=>?_,r,ad.mono ay (λe _=>jc ν st.m e),.refl,λ_=>⟨rfl,.refl⟩⟩
         unfold c8;rw[g1];simp only[<-gd.E,g2 (H.take b) y hy,ax,if_true]
      .simp at h
     | a q=>
      simp only at h;split at h
      .rename_i d hd;split at h
       .rename_i W;obtain⟨⟨ob,x⟩,hx,e⟩:=ζf.1 h;simp only[ζc]at e;obtain⟨rfl,rfl⟩:=e;obtain⟨ae,mk,e1,e2,e3,e4⟩:=Ln hk rs hx;obtain⟨g1,g2⟩:=B;obtain⟨n1,n2,n3,n4⟩:=mP W;have aq:∀p:Nat×Nat,∀e,SV.dH e I=true->∀af,bk (bT st.m d ob) e=some af->∃ob,bk st.m e=some ob/\jq ν d p e=ν e/\sameShape ob af:=λp e he=>by
         refine tu ?_;rintro rfl;have:∀{xs:List Arg} {vs:List SV},bZ S.N st.g xs=some vs->SV.dH e vs=false:=by
          intro xs
          induction xs with
          | nil=>intro vs h;simp only[bZ,ζa]at h;subst h;rfl
          | cons a xs ih=>
           intro vs h;simp only[bZ]at h;split at h
           .rename_i v aQ h1 h2;simp only[ζa]at h;subst h;simp only[SV.dH,Bool.or_eq_false_iff];refine⟨?_,ih h2⟩
            cases a with
            | s n=>exact yC n3 h1
            | k c=>simp only[ql,ζa]at h1;subst h1;rfl
            | f s=>simp only[ql,ζa]at h1;subst h1;rfl
           .simp at h
         rw[this C]at he;cases he
        have fin:∀(id:Nat) (Hn:bl),H.length<=Hn.length->Hn[id]? = some ae->(∀k,k<H.length->k≠id->Hn[k]? = H[k]?)->(∀k,fS ν st.m k->k≠id)->(∀k,Z k->k≠id) ->
         R (jq ν d (id,0)) Z { st with m:=bT st.m d ob } F Hn/\cW (jq ν d (id,0)) (bT st.m d ob) Hn Z x (mk.val id)/\(∀k,Z k->bp Hn k=bp H k):=λid Hn hl aL J ho hz=>by
         have Y:∀k,Z k->bp Hn k=bp H k:=λk hk=>by unfold bp;rw[J k (r.vu hk) (hz k hk)]
         obtain⟨a1,a2⟩:=e4 id (jq ν d (id,0)) (bT st.m d ob) Hn (iJ _ _ _) (cD _ _ _) aL Y (aq _);have r2:R ν Z st F Hn:=r.heap (λk hk=>J k (r.lt hk) (ho k hk)) Y
         exact⟨r2.add W (λ_=>⟨λh=>ho _ h rfl,λh=>hz _ h rfl⟩) a1,a2,Y⟩
        have aB:o.dst=some d:=hd
        cases place with
        | none=>
         obtain⟨f1,f2,f3⟩:=fin H.length (H++[ae]) (by simp) (by simp) (λk hk _=>List.getElem?_append_left hk) (λk hk=>Nat.ne_of_lt (r.lt hk)) (λk hk=>Nat.ne_of_lt (r.vu hk))
         refine⟨0,mk.val H.length,H++[ae],jq ν d (H.length,0),Z,λq _=>?_,f1,f2,Ev.add W (by simp) (λk hk _=>List.getElem?_append_left hk) f3 (λ_=>.inr (Nat.le_refl _)),λhh=>?_⟩
         .unfold c8;rw[g1];simp only[ak,Bool.false_eq_true,if_false,<-gd.E,g2 _ e1]
         .rw[G]at hh;cases hh
        | some O=>
         obtain⟨b,j⟩:=O;have hf:=al b j rfl g1;have aM:=(ζe.1 hf).1;have nf:∀k,fS ν st.m k->k≠b+j:=λk hk e=>by
          subst e;obtain⟨d',af,w1,w2,w3⟩:=hk;have:=r.obj d' af w1
          cases af with
          | sl fl es xs=>
           simp only[cC]at w2;simp only[dV,w2,if_true]at this;obtain⟨_,L,_⟩:=this;rw[w3,hf]at L;cases L
          | box cs=>obtain⟨_,_,L,_⟩:=this;rw[w3,hf]at L;cases L
          | mp aR=>obtain⟨_,L,_⟩:=this;rw[w3,hf]at L;cases L
         have nz:∀k,Z k->k≠b+j:=λk hk e=>by
          subst e;have:=r.zrow _ hk;unfold bp at this;rw[hf]at this;simp[Ob.rows]at this
         obtain⟨f1,f2,f3⟩:=fin (b+j) (H.set (b+j) ae) (by simp) (by rw[List.getElem?_set_self aM]) (λk _ hk=>by rw[List.getElem?_set,if_neg (Ne.symm hk)]) nf nz
         refine⟨0,mk.val (b+j),H.set (b+j) ae,jq ν d (b+j,0),Z,λq _=>?_,f1,f2,Ev.add W (by simp) (λk _ hk=>?_) f3 (λ_=>.inl ⟨b,j,rfl,rfl⟩),λ_=>⟨rfl,?_⟩⟩
         .unfold c8;rw[g1];simp only[ak,Bool.false_eq_true,if_false,<-gd.E,g2 _ e1,hf]
         .rw[List.getElem?_set,if_neg λe=>hk ⟨b,j,rfl,e.symm⟩]
         .have:yw ⟨o.dst,g,dr&&dD ops j,.a q,az,[],[]⟩=some d:=aB;have A:=hi b j rfl;subst A;rw[this];exact Kept.add λ_ _ h=>h
       .simp at h
      .simp at h
     | l q=>
      simp only at h;split at h
      .rename_i T;obtain⟨y,H',ν',e1,e2,e3,e4,e5⟩:=Bn r rs h;obtain⟨g1,g2⟩:=B;refine⟨0,y,H',ν',Z,λq _=>?_,e2,e3,e4.weak (λ_ h=>h.elim),λ_=>⟨rfl,e5⟩⟩
       unfold c8;rw[g1];simp only[<-gd.E]
       cases place with
       | none=>exact g2 _ _ e1
       | some O=>
        obtain⟨b,j⟩:=O;have u:dr=true:=G;subst u;have A:=hi b j rfl;subst A;have Q:dD ops j=true:=by simpa using T
        simp only[Q,if_true];exact g2 _ _ e1
      .simp at h
     | e n=>exact B.elim
     | c=>
      simp only at h;obtain⟨g1,f',aS,e1,e2⟩:=B;have go:∀(f:FuncId) (args:List SV) (ar:List V),b8 ν st.m H Z args ar->jS F o.op=some (.fn f,ar)->iY S c o.dst dr (!dr||(dr&&dD ops i)) (ig st.m fr) f args st=some (sv,st') ->
       BW S ops place dr F o.op (yw ⟨o.dst,g,dr&&dD ops i,.c,az,[],[]⟩) ν Z st H sv st':=λf args ar aN aC aO=>by
       obtain⟨n,y,H',ν',Z',p1,p2,p3,p4,p5,p6⟩:=N1 (ops:=ops) (Rv:=λid=>∃b j,place=some (b,j)/\id=b+j) hS gd.prm G (λb j hp hn=>by
        have:=hi b j hp;subst this;simp only[ζh]at hn;exact hn.2) (λb j hp=>(U b j hp).2) r aN aO
       refine⟨n,y,H',ν',Z',λq hq=>?_,p2,p3,p4,λhd=>⟨p5 hd,p6⟩⟩
       unfold c8;rw[g1];simp only[aC];exact p1 q hq
      split at h
      .rename_i f a b vs;obtain⟨w,ws,ew,r1,r2⟩:=rs.inv;rw[ew]at e1;simp only[List.cons.injEq]at e1;obtain⟨rfl,rfl⟩:=e1;obtain⟨a',b',rfl,ra,rb⟩:=r1.kP;exact go f _ _ ((ra.append r2).append rb) e2 h
      .rename_i f a b vs;obtain⟨w,ws,ew,r1,r2⟩:=rs.inv;rw[ew]at e1;simp only[List.cons.injEq]at e1;obtain⟨rfl,rfl⟩:=e1;obtain⟨a',b',rfl,ra,rb⟩:=r1.fr.kP;exact go f _ _ (((b8.qM ra).append r2).append (b8.qM rb)) e2 h
      .simp at h
    .simp at h
   .simp at hc
  .simp at hc
 .simp at hc
end
end Go.VE
namespace Go.VE
variable [bX]
def fR (N:Nat->FuncId) (g:Tb SV) (o:RO):Option (Nat×List SV):=
 match o.k,bZ N g o.az with
 | .c,some (.yl id::q)=>some (id,q)
 | _,_=>none
open Classical in
noncomputable def fA (S:Sys) (c:cq) (dr:Bool) (fr:List Nat) (o:RO) (st:St):Option St:=
 match wanted st.g o.gd with
 | some true=>match fR S.N st.g o with
  | some (id,t)=>if dr then none else match dG t,st.want with
   | some u,w::q=>if u=w/\id=st.yid then some (cZ { st with want:=q } o.dst (.v (.bool (st.more || !q.isEmpty))))else none
   | _,_=>none
  | none=>(mm S c dr fr o st).map λ(x,st')=>cZ st' o.dst x
 | some false=>some (cZ st o.dst (.v .undef))
 | none=>none
def RO.strip (o:RO):RO:={ o with dead:=[],pre:=[] }
def ou:List Gh->St->Option St
 | [],st=>some st
 | x::r,st=>(ghost x st).bind (ou r)
def zT:Gh->Bool
 | .keep ..=>true
 | .drop _=>true
 | _=>false
def Bo (dr:Bool) (l:List Gh) (st:St):Option St:=if dr then(if l.all zT then ou l st else none)else ou l st
def oS (ds:List Nat) (st:St):St:={ st with g:=nO ds st.g }
noncomputable def mR (S:Sys) (c:cq) (dr:Bool):List Nat->List RO->St->Option St
 | _,[],st=>some st
 | fr,o::r,st=>match (Bo dr o.pre st).bind (fA S c dr fr o.strip)with
  | some st'=>mR S c dr (if dr then qD fr o.strip else fr) r (oS o.dead st')
  | none=>none
abbrev JT:=List (List V)->(Nat->Prop)->(Nat->Prop)->bl->Prop
structure Yc (S:Sys) (J:JT) (more:Bool) (yid:Nat):Prop where
 wP:∀w O Z H O' Z' H',J w O Z H->H.length<=H'.length->(∀i,i<H.length->¬O i->¬Z i->H'[i]? = H[i]?)->(∀i,Z i->Z' i/\bp H' i=bp H i) ->
  (∀i,O' i->O i\/H.length<=i)->(∀i,Z' i->Z i\/O i\/H.length<=i)->J w O' Z' H'
 yield:∀x ws O Z H args,J (x::ws) O Z H->di H Z x args->(∀i,Z i->(bp H i).isSome=true)->Deep H Z->(∀i,O i->¬Z i/\i<H.length) ->
  ∃n H',run S.E n (.yld yid) args H=some (.bool (more || !ws.isEmpty),H')/\J ws O Z H'/\H.length<=H'.length/\(∀i,O i->H'[i]? = H[i]?)/\(∀i,Z i->bp H' i=bp H i)
structure Fix (ν:Nu) (st:St) (ν':Nu) (st':St):Prop where
 pin:∀d∈st.pin,∀ob',bk st'.m d=some ob'->∃ob,bk st.m d=some ob/\ν' d=ν d/\sameShape ob ob'
 pins:st'.pin=st.pin
 more:st'.more=st.more
 yid:st'.yid=st.yid
section
variable {Rv:Nat->Prop} {ν ν' ν2:Nu} {Z Z':Nat->Prop} {st st' st2:St} {m m':Tb bP} {F F':Frame} {H H' H1:bl} {S:Sys} {c:cq} {X:CX} {J:JT}
theorem Fix.refl:Fix ν st ν st:=⟨λ_ _ q h=>⟨q,h,rfl,.refl _⟩,rfl,rfl,rfl⟩
theorem Fix.trans (a:Fix ν st ν' st') (b:Fix ν' st' ν2 st2):Fix ν st ν2 st2:=
 ⟨λd u q h=>by
  obtain⟨t,h1,z,w⟩:=b.pin d (by rw[a.pins];omega) q h
  obtain⟨ob,k1,k2,k3⟩:=a.pin d u t h1;exact⟨ob,k1,by simp_all,k3.trans w⟩,by rw[b.pins,a.pins],by rw[b.more,a.more],by rw[b.yid,a.yid]⟩
theorem Ev.beside (y:Yc S J st.more st.yid) (a:Ev (λ_=>False) ν Z st H ν' Z' st' H') (B:st'.want=st.want) (j:J st.want (fS ν st.m) Z H):J st'.want (fS ν' st'.m) Z' H':=by
 rw[B];exact y.wP _ _ _ _ _ _ _ j a.len (λi h1 q t=>a.same i h1 q t (λh=>h)) a.rows (λi h=>(a.own i h).imp (λh=>h) (λh=>h.elim (λh=>h.elim) (λh=>h)))
  (λi h=>(a.frz i h).imp (λh=>h) (λh=>h.imp (λh=>h) (λh=>h.elim (λh=>h.elim) (λh=>h))))
theorem ve (D:∀s sv,bk st.g s=some sv->cW ν m H Z sv (get F s)) {ops:List Oper} {o:Oper} {gd:Option (Nat×Bool)} (hg:A_ ops o=some gd) {t:Bool} (B:wanted st.g gd=some t):fP ops F o=t:=by
 unfold A_ at hg;unfold fP
 cases q:o.guard with
 | none=>
  rw[q]at hg;simp  at hg;simp[wanted]at B;grind
 | some A=>
  rw[q]at hg;obtain⟨d,z,rfl⟩:=ζf.1 hg;simp[z];simp[wanted]at B;split at B
  .rename_i c hc;simp  at B;subst B;rw[(D d _ hc).fr.bool]
  .rename_i x C hc;simp  at B;subst B;have u:=(D d _ hc).fr;split
   .rename_i c w;rw[w]at u;cases u
    grind
   .rfl
  grind
theorem Ld {q:Gc} {dst:Option Nat} {args:List SV} {sv:SV} (h:Dv q dst args st=some (sv,st')):st'.want=st.want/\st'.pin=st.pin/\st'.more=st.more/\st'.yid=st.yid:=by
 unfold Dv at h
 grind
theorem OJ {dr:Bool} {fr:List Nat} {ro:RO} {sv:SV} (h:mm S c dr fr ro st=some (sv,st')):st'.want=st.want/\st'.pin=st.pin/\st'.more=st.more/\st'.yid=st.yid:=by
 unfold mm at h;split at h
 .split at h
  .split at h
   .split at h
    .simp at h
    .unfold yZ at h;split at h
     .split at h
      .obtain⟨_,_,h⟩:=ζg.1 h;obtain⟨_,_,h⟩:=ζg.1 h;dsimp only at h;split at h
       .simp only[ζa,ζc]at h;obtain⟨_,rfl⟩:=h;exact⟨rfl,rfl,rfl,rfl⟩
       .simp at h
      .simp at h
     .simp at h
   .obtain⟨_,_,e⟩:=ζf.1 h;simp only[ζc]at e;obtain⟨_,rfl⟩:=e;exact⟨rfl,rfl,rfl,rfl⟩
  .obtain⟨_,_,e⟩:=ζf.1 h;simp only[ζc]at e;obtain⟨_,rfl⟩:=e;exact⟨rfl,rfl,rfl,rfl⟩
  .split at h
   .obtain⟨_,_,e⟩:=ζf.1 h;simp only[ζc]at e;obtain⟨_,rfl⟩:=e;exact⟨rfl,rfl,rfl,rfl⟩
   .simp at h
  .split at h
   .split at h
    .obtain⟨_,_,e⟩:=ζf.1 h;simp only[ζc]at e;obtain⟨_,rfl⟩:=e;exact⟨rfl,rfl,rfl,rfl⟩
    .simp at h
   .simp at h
  .split at h
   .unfold jN at h
    (repeat' split at h) <;> first|(simp at h;done)|(simp only[ζa,ζc]at h;obtain⟨_,rfl⟩:=h;exact⟨rfl,rfl,rfl,rfl⟩)|(obtain⟨_,_,e⟩:=ζf.1 h;simp only[ζc]at e;obtain⟨_,rfl⟩:=e;exact⟨rfl,rfl,rfl,rfl⟩)|skip
    .dsimp only at h
     (repeat' split at h) <;> first|(simp at h;done)|(simp only[ζa,ζc]at h;obtain⟨_,rfl⟩:=h;exact⟨rfl,rfl,rfl,rfl⟩)
   .simp at h
  .have hc:∀{dst dr now q f args},iY S c dst dr now q f args st=some (sv,st')->st'.want=st.want/\st'.pin=st.pin/\st'.more=st.more/\st'.yid=st.yid:=by
    intro dst dr now q f args h;unfold iY at h
    (repeat' split at h) <;> first|exact Ld h|(obtain⟨_,_,e⟩:=ζf.1 h;simp only[ζc]at e;obtain⟨_,rfl⟩:=e;exact⟨rfl,rfl,rfl,rfl⟩)|(simp at h;done)|(simp only[ζa,ζc]at h;obtain⟨_,rfl⟩:=h;exact⟨rfl,rfl,rfl,rfl⟩)
   split at h
   .exact hc h
   .exact hc h
   .simp at h
  .have u:∀{dst l t},jN st dst l t=some (sv,st')->st'.want=st.want/\st'.pin=st.pin/\st'.more=st.more/\st'.yid=st.yid:=by
    intro dst l t h;unfold jN at h
    (repeat' split at h) <;> first|(simp at h;done)|(simp only[ζa,ζc]at h;obtain⟨_,rfl⟩:=h;exact⟨rfl,rfl,rfl,rfl⟩)|(obtain⟨_,_,e⟩:=ζf.1 h;simp only[ζc]at e;obtain⟨_,rfl⟩:=e;exact⟨rfl,rfl,rfl,rfl⟩)|skip
    all_goals (dsimp only at h;(repeat' split at h) <;> first|(simp at h;done)|(simp only[ζa,ζc]at h;obtain⟨_,rfl⟩:=h;exact⟨rfl,rfl,rfl,rfl⟩))
   split at h
   .exact u h
   .exact u h
   .simp at h
 .simp at h
theorem Ai (r:R ν Z st F H) {nt:Nat} {dst:Option Nat} (B:yg nt dst=true) {sv:SV} {y:V} (h:cW ν st.m H Z sv y):∃F',jW nt F dst y=some F'/\R ν Z (cZ st dst sv) F' H:=by
 cases dst with
 | none=>exact⟨F,rfl,r⟩
 | some d=>
  have  := by simpa [yg]using B
  exact⟨set F d y,by simp[jW,if_pos this],r.put h⟩
theorem BY (st:St) (dst:Option Nat) (sv:SV):(cZ st dst sv).m=st.m/\(cZ st dst sv).want=st.want/\(cZ st dst sv).pin=st.pin/\(cZ st dst sv).more=st.more/\(cZ st dst sv).yid=st.yid:=by
 cases dst <;> exact⟨rfl,rfl,rfl,rfl,rfl⟩
theorem IE (gd:Good X S) (U:kO S c) {ops:List Oper} {place:Option (Nat×Nat)} {dr:Bool} {fr:List Nat} {i:Nat} (J:dr=place.isSome) (W:∀b j,place=some (b,j)->j=i)
 (G:∀b j,place=some (b,j)->b<=H.length/\Old b fr ν Z st.m)
 {o:Oper} {ro:RO} (hc:mY X dr ops i o=some ro) (O:∀b j,place=some (b,j)->ops[j]? = some o) (D:∀b j,place=some (b,j)->cV o.op=.alloc->H[b+j]? = some .free)
 (r:R ν Z st F H) (B:fR S.N st.g ro=none\/dr=true) (h:fA S c dr fr ro st=some st') :
 ∃n F' H' ν' Z',(∀k,n<=k->gu S.E (run S.E k) X.nt ops place o F H=some (F',H'))/\R ν' Z' st' F' H'/\Ev (λid=>∃b j,place=some (b,j)/\id=b+j) ν Z st H ν' Z' st' H' /\
  (dr=true->Z'=Z/\Kept (yw ro) ν st.m ν' st'.m)/\st'.want=st.want/\Fix ν st ν' st':=by
 have A:=hc;obtain⟨t,g,now,k,az,hg,rfl⟩:=CA hc;unfold fA at h;split at h
 .rename_i C;have u:=ve r.slot hg C;have Q:(mm S c dr fr ⟨o.dst,g,now,k,az,[],[]⟩ st).map (λ(x,st')=>cZ st' o.dst x)=some st':=by
   split at h
   .rename_i id vs z;rcases B with B|B
    .rw[B]at z;cases z
    .subst B;simp at h
   .exact h
  obtain⟨⟨x,I⟩,q,rfl⟩:=ζf.1 Q;obtain⟨n,y,H',ν',Z',e1,e2,e3,e4,e5⟩:=Sq gd U J W G A O D r q;obtain⟨T,L,Y,w4⟩:=OJ q;obtain⟨F',f1,f2⟩:=Ai e2 t e3;obtain⟨p1,p2,p3,p4,p5⟩:=BY I o.dst x;refine⟨n,F',H',ν',Z',λk hk=>?_,f2,?_,λq=>⟨(e5 q).1,by rw[p1];exact(e5 q).2⟩,by rw[p2,T],⟨λd q=>by rw[p1];exact e4.pin d q,by rw[p3,L],by rw[p4,Y],by rw[p5,w4]⟩⟩
  .unfold gu;simp only[u,if_true,e1 k hk,f1,Option.map_some]
  .exact⟨e4.len,e4.same,e4.rows,λid h=>e4.own id (by rw[p1]at h;exact h),e4.frz,λd q=>by rw[p1];exact e4.pin d q,by rw[p3,L]⟩
 .rename_i C;have u:=ve r.slot hg C;simp only[ζa]at h;subst h;obtain⟨F',f1,f2⟩:=Ai r t (.v V.undef V.undef (.same _ rfl));obtain⟨p1,p2,p3,p4,p5⟩:=BY st o.dst (.v .undef);refine⟨0,F',H,ν,Z,λk _=>?_,f2,?_,λ_=>⟨rfl,by rw[p1];exact .refl⟩,p2,⟨λd q=>by rw[p1];exact λw h=>⟨w,h,rfl,.refl _⟩,p3,p4,p5⟩⟩
  .unfold gu;simp only[u,Bool.false_eq_true,if_false,f1,Option.map_some]
  .exact⟨Nat.le_refl _,λ_ _ _ _ _=>rfl,λ_ h=>⟨h,rfl⟩,λ_ h=>.inl (by rw[p1]at h;exact h),λ_ h=>.inl h,λd q=>by rw[p1];exact λw h=>⟨w,h,rfl,.refl _⟩,p3⟩
 .simp at h
theorem N2 (gd:Good X S) (y:Yc S J st.more st.yid) {ops:List Oper} {fr:List Nat} {i:Nat} {o:Oper} {ro:RO} (hc:mY X false ops i o=some ro)
 (r:R ν Z st F H) (j:J st.want (fS ν st.m) Z H) {id:Nat} {vs:List SV} (B:fR S.N st.g ro=some (id,vs)) (D:wanted st.g ro.gd=some true) (h:fA S c false fr ro st=some st') :
 ∃n F' H',(∀k,n<=k->gu S.E (run S.E k) X.nt ops none o F H=some (F',H'))/\R ν Z st' F' H'/\J st'.want (fS ν st'.m) Z H'/\Fix ν st ν st':=by
 unfold mY at hc;simp only[Bool.false_and,Bool.false_eq_true,if_false]at hc;split at hc
 .rename_i u;split at hc
  .rename_i g k os hg hr;split at hc
   .obtain⟨az,Q,rfl⟩:=ζf.1 hc;unfold fA at h;simp only at D;have C:=ve r.slot hg D;rw[D]at h;simp only[B,Bool.false_eq_true,if_false]at h;unfold fR at B;split at B
    .rename_i T U hk z;simp only[ζa,ζc]at B;obtain⟨rfl,rfl⟩:=B;simp only at hk z;subst hk;obtain⟨ys,G,rs⟩:=pJ gd.N r.slot Q z;obtain⟨g1,f',W,e1,e2⟩:=kA gd.N hr G;obtain⟨w,ws,Y,r1,r2⟩:=rs.inv;rw[Y]at e1;simp only[List.cons.injEq]at e1;obtain⟨rfl,rfl⟩:=e1;cases r1;simp only at e2;split at h
     .rename_i xs x A hx q;split at h
      .rename_i t;obtain⟨rfl,rfl⟩:=t;simp only[ζa]at h;subst h;rw[q]at j;obtain⟨n,H',p1,p2,p3,p4,p5⟩:=y.yield _ _ _ _ _ _ j (r2.dG hx) r.zrow r.deep (λi L=>⟨by obtain⟨d,ob,h1,h2,rfl⟩:=L;exact r.apart d ob h1 h2,r.lt L⟩)
       have r3:R ν Z st F H':=r.heap p4 p5;have r4:R ν Z { st with want:=A } F H':=⟨r3.slot,r3.obj,r3.inj,r3.apart,r3.zrow,r3.deep⟩;obtain⟨F',f1,f2⟩:=Ai (st:={ st with want:=A }) r4 u (sv:=.v (.bool (st.more || !A.isEmpty))) (.v _ _ (.same _ rfl));obtain⟨O,q2,q3,q4,q5⟩:=BY { st with want:=A } o.dst (.v (.bool (st.more || !A.isEmpty)));refine⟨n,F',H',λk hk=>?_,f2,by rw[O,q2];exact p2,⟨λd hd=>by rw[O];exact λI h=>⟨I,h,rfl,.refl _⟩,q3,q4,q5⟩⟩
       unfold gu c8;rw[g1,e2];simp only[C,if_true,pK S.E hk _ _ _ _ p1,f1,Option.map_some]
      .simp at h
     .simp at h
    .simp at B
   .simp at hc
  .simp at hc
 .simp at hc
def kS (X:CX) (B:Bool) (ops:List Oper):Nat->List Oper->Option (List RO)
 | _,[]=>some []
 | i,o::r=>match mY X B ops i o,kS X B ops (i+1) r with
  | some ro,some rs=>some (ro::rs)
  | _,_=>none
theorem R.yH (r:R ν Z st F H) (ds:List Nat):R ν Z (oS ds st) F H:=r.less   (λs u q=>nU q) (λd ob t=>t)
theorem Fix.yH {ds:List Nat} (f:Fix ν (oS ds st) ν' st'):Fix ν st ν' st':=⟨f.pin,f.pins,f.more,f.yid⟩
theorem Fix.ghost (r:R ν Z st F H) (y:Yc S J st.more st.yid) (j:J st.want (fS ν st.m) Z H) {x:Gh} (h:ghost x st=some st'):∃ν' Z',R ν' Z' st' F H/\J st'.want (fS ν' st'.m) Z' H/\Fix ν st ν' st':=by
 obtain⟨ν',Z',h1,q⟩:=Nd (Rv:=λ_=>False) r h
 have t:st'.want=st.want/\st'.more=st.more/\st'.yid=st.yid:=by
  unfold Go.VE.ghost zz at h
  (repeat' split at h) <;> first|grind|grind
 exact⟨ν',Z',h1,q.beside y t.1 j,⟨q.pin,q.pins,t.2.1,t.2.2⟩⟩
theorem Fix.quiet (r:R ν Z st F H):∀{l:List Gh} {st':St},l.all zT=true->Go.VE.ou l st=some st'->R ν Z st' F H/\Ev Rv ν Z st H ν Z st' H/\st'.want=st.want/\Fix ν st ν st'/\∀d ob,bk st'.m d=some ob->bk st.m d=some ob:=by
 intro l
 induction l generalizing st with
 | nil=>intro st' _ h;simp[Go.VE.ou]at h;subst h;exact⟨r,.refl,rfl,.refl,λ_ _ h=>h⟩
 | cons x l z=>
  intro st' u h;simp only[List.all_cons,ζh]at u;obtain⟨s1,h1,A⟩:=ζg.1 h;have key:∃g m,s1={ st with g:=g,m:=m }/\(∀s q,bk g s=some q->bk st.g s=some q)/\∀d ob,bk m d=some ob->bk st.m d=some ob:=by
   cases x with
   | keep gs Q=>
    simp[Go.VE.ghost]at h1;split at h1
    .rename_i g m hg B;simp  at h1;subst h1;exact⟨g,m,rfl,λs q w=>pX hg w,λd ob C=>pX B C⟩
    grind
   | drop S=>
    simp[Go.VE.ghost]at h1;subst h1;exact⟨_,st.m,rfl,λs q w=>nU w,λ_ _ h=>h⟩
   | _=>simp[zT]at u
  obtain⟨g,m,rfl,D,t⟩:=key;obtain⟨G,I,J,L,O⟩:=z (r.less   D t) u.2 A;exact⟨G,(Ev.less   t).trans I,J,Fix.trans  (st':={ st with g:=g,m:=m }) ⟨λd _ ob h=>⟨ob,t d ob h,rfl,.refl _⟩,rfl,rfl,rfl⟩ L,λd ob h=>t d ob (O d ob h)⟩
theorem Fix.ou:∀{l:List Gh} {ν:Nu} {Z:Nat->Prop} {st st':St},R ν Z st F H->Yc S J st.more st.yid->J st.want (fS ν st.m) Z H->ou l st=some st'->∃ν' Z',R ν' Z' st' F H/\J st'.want (fS ν' st'.m) Z' H/\Fix ν st ν' st'
 | [],ν,Z,st,st',r,y,j,h=>by simp[Go.VE.ou]at h;subst h;exact⟨ν,Z,r,j,.refl⟩
 | x::l,ν,Z,st,st',r,y,j,h=>by
  obtain⟨B,h1,D⟩:=ζg.1 h;obtain⟨u,w,r1,q,f1⟩:=Fix.ghost r y j h1;obtain⟨ν2,Z2,r2,t,f2⟩:=Fix.ou r1 (by rw[f1.more,f1.yid];omega) q D
  exact⟨ν2,Z2,r2,t,f1.trans f2⟩
theorem Oc (gd:Good X S) (G:kO S c) {ops:List Oper} {fr:List Nat} {i:Nat} {o:Oper} {ro:RO} {B:St} (h1:mY X false ops i o=some ro) (y:Yc S J st.more st.yid) (r:R ν Z st F H) (j:J st.want (fS ν st.m) Z H) (D:fA S c false fr ro st=some B) :
 ∃n F' H' ν' Z',(∀k,n<=k->gu S.E (run S.E k) X.nt ops none o F H=some (F',H'))/\R ν' Z' B F' H'/\J B.want (fS ν' B.m) Z' H'/\Fix ν st ν' B:=by
 by_cases C:wanted st.g ro.gd=some true
 .cases w:fR S.N st.g ro with
  | none=>
   obtain⟨n,F',H',ν',Z',e1,e2,e3,e4,e5,e6⟩:=IE gd G (place:=none) rfl (λb j h=>by cases h) (λb j h=>by cases h) h1 (λb j h=>by cases h) (λb j h=>by cases h) r (.inl w) D
   exact⟨n,F',H',ν',Z',e1,e2,(e3.weak (λid ⟨b,j,h,_⟩=>by cases h)).beside y e5 j,e6⟩
  | some p=>
   obtain⟨id,O⟩:=p;obtain⟨n,F',H',e1,e2,e3,e4⟩:=N2 gd y h1 r j w C D;exact⟨n,F',H',ν,Z,e1,e2,e3,e4⟩
 .have q:fA S c false fr ro st=some B:=D;have I:fR S.N st.g { ro with az:=[] }=none:=by
   unfold fR;simp[bZ]
  obtain⟨n,F',H',ν',Z',e1,e2,e3,e4,e5,e6⟩:∃n F' H' ν' Z',(∀k,n<=k->gu S.E (run S.E k) X.nt ops none o F H=some (F',H'))/\R ν' Z' B F' H'/\Ev (λ_=>False) ν Z st H ν' Z' B H'/\True/\B.want=st.want/\Fix ν st ν' B:=by
   unfold fA at q;split at q
   .rename_i t;exact absurd t C
   .rename_i t;simp only[ζa]at q;subst q;unfold mY at h1;simp only[Bool.false_and,Bool.false_eq_true,if_false]at h1;split at h1
    .rename_i z;split at h1
     .rename_i g k os hg hr;split at h1
      .obtain⟨az,Q,rfl⟩:=ζf.1 h1;have A:=ve r.slot hg t;obtain⟨F',f1,f2⟩:=Ai r z (.v V.undef V.undef (.same _ rfl));obtain⟨p1,p2,p3,p4,p5⟩:=BY st o.dst (.v .undef);refine⟨0,F',H,ν,Z,λk _=>?_,f2,?_,trivial,p2,⟨λd L=>by rw[p1];exact λu h=>⟨u,h,rfl,.refl _⟩,p3,p4,p5⟩⟩
       .unfold gu;simp only[A,Bool.false_eq_true,if_false,f1,Option.map_some]
       .exact⟨Nat.le_refl _,λ_ _ _ _ _=>rfl,λ_ h=>⟨h,rfl⟩,λ_ h=>.inl (by rw[p1]at h;exact h),λ_ h=>.inl h,λd L=>by rw[p1];exact λu h=>⟨u,h,rfl,.refl _⟩,p3⟩
      .simp at h1
     .simp at h1
    .simp at h1
   .simp at q
  exact⟨n,F',H',ν',Z',e1,e2,e3.beside y e5 j,e6⟩
theorem L4 (gd:Good X S) (O:kO S c) {ops:List Oper} {fr:List Nat}:∀(rest:List Oper) {i:Nat} {B:List RO} {ν:Nu} {Z:Nat->Prop} {st st':St} {F:Frame} {H:bl},kS X false ops i rest=some (B.map RO.strip)->mR S c false fr B st=some st' ->
 Yc S J st.more st.yid->R ν Z st F H->J st.want (fS ν st.m) Z H ->
 ∃n F' H' ν' Z',(∀k,n<=k->mh S.E (run S.E k) X.nt ops rest F H=some (F',H'))/\R ν' Z' st' F' H'/\J st'.want (fS ν' st'.m) Z' H'/\Fix ν st ν' st'
 | [],i,B,ν,Z,st,st',F,H,hc,h,y,r,j=>by
  simp only[kS,ζa]at hc;have  := List.map_eq_nil_iff.1 hc.symm;subst this;simp[mR]at h;subst h;exact⟨0,F,H,ν,Z,λ_ _=>rfl,r,j,.refl⟩
 | o::rest,i,B,ν,Z,st,st',F,H,hc,h,y,r,j=>by
  simp[kS]at hc;split at hc
  .rename_i L rs h1 Q;obtain⟨q,t,rfl,w,z⟩:∃q t,B=q::t/\L=q.strip/\rs=t.map RO.strip:=by
    cases B with
    | nil=>simp_all
    | cons a b=>grind
   subst z;simp[mR,<-w]at h;split at h
   .rename_i u A;obtain⟨T,C,A⟩:=ζg.1 A;obtain⟨νg,Zg,rg,U,D⟩:=Fix.ou r y j C;obtain⟨W,F1,H1,ν1,Z1,Y,a2,a3,G⟩:=Oc gd O h1 (by rw[D.more,D.yid];omega) rg U A
    have I:=D.trans G;obtain⟨n2,F2,H2,ν2,Z2,b1,b2,b3,b4⟩:=L4 gd O rest Q h (by show Yc S J u.more u.yid;rw[I.more,I.yid];omega) (R.yH a2 q.dead) a3
    refine⟨max W n2,F2,H2,ν2,Z2,λk hk=>?_,b2,b3,I.trans (Fix.yH b4)⟩
    simp[mh,Y k (Nat.le_trans (Nat.le_max_left _ _) hk),b1 k (Nat.le_trans (Nat.le_max_right _ _) hk)]
   grind
  grind
theorem Old.next {b:Nat} {fr:List Nat} {o:RO} (h:Old b fr ν Z m) (hk:Kept (yw o) ν m ν' m'):Old b (qD fr o) ν' Z m':=by
 refine⟨λd ob A B t=>?_,h.2⟩
 have u:d∉fr:=λG=>t (by
  unfold qD
  grind)
 have w:yw o≠some d:=λe=>t (by unfold qD;grind)
 obtain⟨q,h1,C,D⟩:=hk d ob w A;have z:cC q=true:=by
  cases q <;> cases ob <;> simp[sameShape]at D <;> first|rfl|(simp[cC]at B ⊢;grind)
 rw[C];exact h.1 d q h1 z u
theorem Dt (r:R ν Z st F H) {id:Nat} (h:fS ν st.m id):H[id]? ≠ some .free:=by
 obtain⟨d,ob,h1,q,rfl⟩:=h;have:=r.obj d ob h1
 cases ob with
 | sl k es z=>
  simp[cC]at q;simp[dV,q]at this
  grind
 | box A=>obtain⟨es,u,hr,_⟩:=this;grind
 | mp w=>obtain⟨t,hr,_⟩:=this;grind
theorem JN (r:R ν Z st F H) {id:Nat} (h:Z id):H[id]? ≠ some .free:=λe=>by
 have:=r.zrow id h;unfold bp at this;rw[e]at this;simp[Ob.rows]at this
theorem Ev.yH {ds:List Nat} (e:Ev Rv ν Z (oS ds st) H ν' Z' st' H'):Ev Rv ν Z st H ν' Z' st' H':=⟨e.len,e.same,e.rows,e.own,e.frz,e.pin,e.pins⟩
theorem LU (gd:Good X S) (Y:kO S c) {ops:List Oper} {b k:Nat} (D:ri ops=true->k=ops.length):∀(len:Nat) {i:Nat} {B:List RO} {fr:List Nat} {ν:Nu} {Z:Nat->Prop} {st st':St} {F:Frame} {H:bl},
 i+len=ops.length->kS X true ops i (ops.drop i)=some (B.map RO.strip)->mR S c true fr B st=some st'->R ν Z st F H->b<=H.length->Old b fr ν Z st.m->(∀j,i<=j->j<k->H[b+j]? = some .free) ->
 ∃n F' H' ν',(∀q,n<=q->jQ S.E (run S.E q) X.nt ops b (List.range' i len) F H=some (F',H'))/\R ν' Z st' F' H'/\Ev (λid=>b<=id) ν Z st H ν' Z st' H'/\st'.want=st.want/\Fix ν st ν' st'
 | 0,i,B,fr,ν,Z,st,st',F,H,hl,hc,h,r,hb,G,hf=>by
  rw[List.drop_of_length_le (by omega)]at hc
  simp only[kS,ζa]at hc;have:B=[]:=List.map_eq_nil_iff.1 hc.symm;subst this;simp[mR]at h;subst h;exact⟨0,F,H,ν,λ_ _=>rfl,r,.refl,rfl,.refl⟩
 | len+1,i,B,fr,ν,Z,st,st',F,H,hl,hc,h,r,hb,G,hf=>by
  have hi:i<ops.length:=by omega
  have hg  := ζd hi;rw[List.drop_eq_getElem_cons hi]at hc;simp[kS]at hc;split at hc
  .rename_i ro rs h1 h2;obtain⟨t,u,rfl,L,O⟩:∃t u,B=t::u/\ro=t.strip/\rs=u.map RO.strip:=by
    cases B with
    | nil=>simp_all
    | cons a b=>grind
   subst O;simp only[mR,<-L]at h;split at h
   .rename_i aa Q;obtain⟨T,w,Q⟩:=ζg.1 Q;simp only[Bo,if_true]at w;split at w
    rotate_left
    .simp_all
    rename_i I;obtain⟨rg,eg,wg,fg,sg⟩:=Fix.quiet r I w;have G:Old b fr ν Z T.m:=⟨λd ob hd=>G.1 d ob (sg d ob hd),G.2⟩
    obtain⟨n1,F1,H1,ν1,Z1,a1,a2,a3,a4,a5,a6⟩:=IE gd Y (place:=some (b,i))  rfl (λJ j e=>by grind) (λJ j e=>by grind) h1 (λJ j e=>by grind) (λJ j e ab=>by
     have:ri ops=true:=by
      unfold ri
      grind
     grind) rg (.inr rfl) Q
    obtain⟨rfl,z⟩:=a4 rfl;have C  := a3.weak λid ⟨J,j,e,h⟩=>by cases e;omega
    obtain⟨n2,F2,H2,ν2,b1,b2,b3,b4,b5⟩:=LU gd Y D len (by omega) h2 h (R.yH a2 t.dead) (Nat.le_trans hb a3.len) (G.next z) (λj ad U=>by
     have A:=hf j (by omega) U
     have W:=(ζe.1 A).1;rw[C.same (b+j) W (λh=>Dt rg h A) (λh=>JN rg h A) (by omega)]
     omega)
    refine⟨max n1 n2,F2,H2,ν2,λq I=>?_,b2,eg.trans ((C.weak λid e=>by omega).trans (Ev.yH b3)),by rw[b4,<-wg];exact a5,fg.trans (a6.trans (Fix.yH b5))⟩
    simp[List.range'_succ,jQ,hg,a1 q (Nat.le_trans (Nat.le_max_left _ _) I),b1 q (Nat.le_trans (Nat.le_max_right _ _) I)]
   grind
  grind
end
end Go.VE
namespace Go.VE
variable [bX]
def bQ (X:CX):Bool->Code->Option RC
 | _,.skip=>some .skip
 | _,.label _=>some .skip
 | _,.region _ ops B=>
  if B then(if vT ops.toList&&zD ops.toList then(kS X true ops.toList 0 ops.toList).map .oO else none)
  else(kS X false ops.toList 0 ops.toList).map .ops
 | ro,.seq a b=>match bQ X ro a,bQ X ro b with
  | some a,some b=>some (.seq a b)
  | _,_=>none
 | ro,.cond c a b=>match pR X.nm c,bQ X ro a,bQ X ro b with
  | some x,some a,some b=>some (.cond x a b)
  | _,_,_=>none
 | ro,.block id c=>(bQ X ro c).map (.block id)
 | ro,.loop c=>(bQ X ro c).map .loop
 | ro,.rangeFunc g ps D G=>
  if ro || !(ps.toList.all (·<X.nt))then none else
  match pR X.nm g,bQ X true D,bQ X true G with
  | some x,some a,some b=>some (.each x ps.toList a b)
  | _,_,_=>none
 | _,.exit id=>some (.exit id)
 | _,.ret=>some .ret
 | _,_=>none
def erase:RC->RC
 | .seq a b=>.seq (erase a) (erase b)
 | .cond x a b=>.cond x (erase a) (erase b)
 | .block id c=>.block id (erase c)
 | .loop c=>.loop (erase c)
 | .each g ps a b=>.each g ps (erase a) (erase b)
 | .gh _ c=>erase c
 | .hg c _=>erase c
 | .ops l=>.ops (l.map RO.strip)
 | .oO l=>.oO (l.map RO.strip)
 | c=>c
def ji (step:St->Option (Out×St)):Nat->St->Option (Out×St)
 | 0,_=>none
 | k+1,st=>match step st with
  | some (.norm,st')=>ji step k st'
  | r=>r
open Classical in
noncomputable def nV (step:St->Option (Out×St)) (st:St):Option (Out×St):=
 if h:∃k r,ji step k st=some r then some (Classical.choose (Classical.choose_spec h))else none
theorem xV {step:St->Option (Out×St)}:∀{k B:Nat} {st:St} {r:Out×St},k<=B->ji step k st=some r->ji step B st=some r
 | 0,_,_,_,_,h=>by simp[ji]at h
 | k+1,0,_,_,hk,_=>by omega
 | k+1,B+1,st,r,hk,h=>by
  simp only[ji]at h ⊢;split at h
  .rename_i st' D;rw[xV (Nat.le_of_succ_le_succ hk) h]
  .exact h
theorem mD {step:St->Option (Out×St)} {st:St} {r:Out×St}:nV step st=some r↔∃k,ji step k st=some r:=by
 unfold nV;constructor
 .intro h;split at h
  .rename_i q;simp only[ζa]at h;exact⟨_,by rw[<-h];exact Classical.choose_spec (Classical.choose_spec q)⟩
  .simp at h
 .rintro⟨k,hk⟩;have q:∃k r,ji step k st=some r:=⟨k,r,hk⟩;rw[dif_pos q];have u:=Classical.choose_spec (Classical.choose_spec q);have w:=xV (Nat.le_max_left (Classical.choose q) k) u;have t:=xV (Nat.le_max_right (Classical.choose q) k) hk;rw[w]at t;exact t
def iT (ps:List Nat) (A B:St->Option (Out×St)) (st:St) (x:List V) (m:Tb bP):Option (Out×Tb bP):=
 if x.length=ps.length then
  match A { g:=v8 st.g ps (x.map .v),m:=m,pin:=st.pin++oZ st.g,want:=[],more:=true,yid:=0 } with
  | some (.norm,q)=>(B q).map λ(o,st2)=>(o,st2.m)
  | _=>none
 else none
def qb (step:List V->Tb bP->Option (Out×Tb bP)):List (List V)->Tb bP->Option (Out×Tb bP)
 | [],m=>some (.norm,m)
 | x::xs,m=>match step x m with
  | some (.norm,m')=>qb step xs m'
  | r=>r
noncomputable def cA (S:Sys) (c:cq):RC->St->Option (Out×St)
 | .skip,st=>some (.norm,st)
 | .ops l,st=>(mR S c false [] l st).map λst=>(.norm,st)
 | .oO l,st=>(mR S c true [] l st).map λst=>(.norm,st)
 | .seq a b,st=>match cA S c a st with
  | some (.norm,st')=>cA S c b st'
  | r=>r
 | .cond x a b,st=>match ql S.N st.g x with
  | some (.v (.bool t))=>if t then cA S c a st else cA S c b st
  | _=>none
 | .block id a,st=>match cA S c a st with
  | some (.exit B,st')=>if B=id then some (.norm,st')else some (.exit B,st')
  | r=>r
 | .loop a,st=>nV (cA S c a) st
 | .each g ps a b,st=>match ql S.N st.g g with
  | some (.v (.clo f x y))=>match S.items f x y with
   | some xs=>(qb (iT ps (cA S c a) (cA S c b) st) xs st.m).map λ(o,m)=>(o,{ st with m:=m })
   | none=>none
  | _=>none
 | .exit id,st=>some (.exit id,st)
 | .ret,st=>some (.ret,st)
 | .gh x a,st=>(ghost x st).bind (cA S c a)
 | .hg a x,st=>match cA S c a st with
  | some (.norm,st')=>(ghost x st').map λst=>(.norm,st)
  | r=>r
def iA (S:Sys) (f:FuncId) (a b:List V) (xs:List (List V)):Prop:=
 ∀q more,(more=true/\q=xs\/more=false/\q≠[]/\∃r,xs=q++r)->∀yid J,Yc S J more yid->∀Z t u H,di H Z a t->di H Z b u->(∀i,Z i->(bp H i).isSome=true)->Deep H Z->J q (λ_=>False) Z H ->
  ∃n y H' w Z',(∀k,n<=k->run S.E k (.fn f) (t++.yld yid::u) H=some (y,H'))/\J [] w Z' H'
section
variable {ν ν' ν2:Nu} {Z Z':Nat->Prop} {st st' st2:St} {m m':Tb bP} {F F':Frame} {H H' H1:bl} {S:Sys} {c:cq} {X:CX} {J:JT}
end
end Go.VE
namespace Go.VE
variable [bX]
inductive v_ (step:List V->Tb bP->Option (Out×Tb bP)) (o:Out) (mf:Tb bP):List (List V)->Bool->Tb bP->Prop
 | nil (h:o=.norm):v_ step o mf [] true mf
 | next (x:List V) (ws:List (List V)) (more:Bool) (m m1:Tb bP) (h:step x m=some (.norm,m1)) (r:v_ step o mf ws more m1):v_ step o mf (x::ws) more m
 | last (x:List V) (m:Tb bP) (h:step x m=some (o,mf)) (ho:o≠.norm):v_ step o mf [x] false m
theorem Cx {step:List V->Tb bP->Option (Out×Tb bP)} {o:Out} {D:Tb bP}:∀{xs:List (List V)} {m:Tb bP},qb step xs m=some (o,D) ->
 ∃B more,(more=true/\B=xs\/more=false/\B≠[]/\∃r,xs=B++r)/\v_ step o D B more m
 | [],m,h=>by
  obtain⟨rfl,rfl⟩:=h;exact⟨[],true,.inl ⟨rfl,rfl⟩,.nil rfl⟩
 | x::xs,m,h=>by
  simp[qb]at h;split at h
  .rename_i m' q;obtain⟨B,more,hc,hr⟩:=Cx h;refine⟨x::B,more,?_,.next x B more m m' q hr⟩
   grind
  .refine⟨[x],false,.inr ⟨rfl,by simp,xs,rfl⟩,.last x m h λe=>?_⟩
   simp_all
def um (O0 Z0:Nat->Prop) (H0:bl):JT:=λw O Z H=>w=[]/\H0.length<=H.length/\(∀i,i<H0.length->¬O0 i->¬Z0 i->H[i]? = H0[i]?)/\(∀i,Z0 i->Z i/\bp H i=bp H0 i) /\
 (∀i,O i->O0 i\/H0.length<=i)/\(∀i,Z i->Z0 i\/O0 i\/H0.length<=i)
section
variable {ν ν' ν2:Nu} {Z Z':Nat->Prop} {st st' st2:St} {m m':Tb bP} {F F':Frame} {H H' H1:bl} {S:Sys} {c:cq} {X:CX} {J:JT} {O0 Z0:Nat->Prop} {H0:bl}
theorem um.wP {w:List (List V)} {O Z B Z':Nat->Prop} {H H':bl} (j:um O0 Z0 H0 w O Z H) (D:H.length<=H'.length) (G:∀i,i<H.length->¬O i->¬Z i->H'[i]? = H[i]?) (hr:∀i,Z i->Z' i/\bp H' i=bp H i)
 (J:∀i,B i->O i\/H.length<=i) (U:∀i,Z' i->Z i\/O i\/H.length<=i):um O0 Z0 H0 w B Z' H':=by
 obtain⟨q,t,z,u,A,C⟩:=j;refine⟨q,Nat.le_trans t D,λi h1 I L=>?_,λi h=>⟨(hr i (u i h).1).1,by grind⟩,λi h=>?_,λi h=>?_⟩
 .grind
 .grind
 grind
theorem um.yc {more:Bool} {yid:Nat}:Yc S (um O0 Z0 H0) more yid where
 wP:=λ_ _ _ _ _ _ _ j h1 q t u w=>j.wP h1 q t u w
 yield:=λx z O Z H args j=>by obtain⟨h,_⟩:=j;cases h
theorem um.refl (r:R ν Z st F H):um (fS ν st.m) Z H [] (fS ν st.m) Z H:=⟨rfl,Nat.le_refl _,λ_ _ _ _=>rfl,λi h=>⟨h,rfl⟩,λi h=>.inl h,λi h=>.inl h⟩
mutual
theorem Ck {d:Nat}:∀{sv:SV},sv.cR d=true->d∈sv.names
 | .v _,h=>by simp[SV.cR]at h
 | .own e,h=>by simp[SV.cR]at h;simp[SV.names,h]
 | .ptr e _,h=>by simp[SV.cR]at h;simp[SV.names,h]
 | .el e _ _,h=>by simp[SV.cR]at h;simp[SV.names,h]
 | .mp e,h=>by simp[SV.cR]at h;simp[SV.names,h]
 | .clo f a b,h=>by
  simp only[SV.cR,Bool.or_eq_true]at h;simp only[SV.names,List.mem_append];exact h.imp qm qm
 | .tup l,h=>by simp only[SV.cR]at h;simp only[SV.names];exact qm h
 | .agg l,h=>by simp only[SV.cR]at h;simp only[SV.names];exact qm h
 | .yl _,h=>by simp[SV.cR]at h
theorem qm {d:Nat}:∀{l:List SV},SV.dH d l=true->d∈SV.vJ l
 | [],h=>by simp[SV.dH]at h
 | x::r,h=>by
  simp only[SV.dH,Bool.or_eq_true]at h;simp only[SV.vJ,List.mem_append];exact h.imp Ck qm
end
theorem AV {d:Nat}:∀{g:Tb SV} {s:Nat} {sv:SV},bk g s=some sv->sv.cR d=true->d∈oZ g
 | [],s,sv,h,_=>by simp[bk]at h
 | (k,x)::r,s,sv,h,B=>by
  simp[bk]at h;simp[oZ];split at h
  .simp  at h;subst h;exact .inl (Ck B)
  .exact .inr (AV h B)
theorem R.UE (r:R ν Z st F H) {Z2:Nat->Prop} (h1:∀i,Z2 i->¬fS ν st.m i) (D:∀i,Z2 i->(bp H i).isSome=true) (G:Deep H Z2):R ν (λi=>Z i\/Z2 i) st F H:=by
 have t:∀i,Z i->(Z i\/Z2 i)/\bp H i=bp H i:=λi h=>⟨.inl h,rfl⟩
 have w:∀i,Z2 i->(Z i\/Z2 i)/\bp H i=bp H i:=λi h=>⟨.inr h,rfl⟩
 refine⟨λs C I=>(r.slot s C I).mono t λe _=>jc ν st.m e,λd ob q=>dV.mono t rfl (λ_=>rfl) (λe _=>jc ν st.m e) (r.obj d ob q),r.inj,λd ob q A hh=>?_,λi hi=>?_,⟨λid es B hi hr c hc u hu=>?_⟩⟩
 .rcases hh with hh|hh
  .exact r.apart d ob q A hh
  .exact h1 _ hh ⟨d,ob,q,A,rfl⟩
 .exact hi.elim (r.zrow i) (D i)
 .rcases hi with hi|hi
  .obtain⟨x,z⟩:=r.deep.row id es B hi hr c hc u hu;exact⟨x,z.mono t⟩
  .obtain⟨x,z⟩:=G.row id es B hi hr c hc u hu;exact⟨x,z.mono w⟩
theorem R.SM:∀{ps:List Nat} {xs:List V} {vs:List V} {g:Tb SV} {F:Frame},R ν Z { st with g:=g } F H->di H Z xs vs->xs.length=ps.length->R ν Z { st with g:=v8 g ps (xs.map .v) } (vw ps vs F) H
 | [],xs,vs,g,F,r,h,B=>by
  have  := List.length_eq_zero_iff.1 B;subst this;exact r
 | p::ps,[],vs,g,F,r,h,B=>by simp_all
 | p::ps,x::xs,vs,g,F,r,h,B=>by
  obtain⟨w,t,rfl,h1,q⟩:=h.inv;exact R.SM (ps:=ps) (r.put  (.v _ _ h1)) q (by grind)
def sL (X:CX) (S:Sys) (ro:Bool) (code:Code) (B:St->Option (Out×St)):Prop:=
 ∀st o st',B st=some (o,st')->∀(J:JT) ν Z F H,Yc S J st.more st.yid->R ν Z st F H->J st.want (fS ν st.m) Z H ->
  ∃n F' H' ν' Z',(∀k,n<=k->exec S.E (run S.E k) k ro X.nt code F H=some (o,F',H'))/\R ν' Z' st' F' H'/\J st'.want (fS ν' st'.m) Z' H'/\Fix ν st ν' st'
def Pz (st:St) (m:Tb bP):St:={ g:=st.g,m:=m,pin:=st.pin++oZ st.g,want:=[],more:=true,yid:=0 }
def JI (X:CX) (st:St) (F:Frame) (ν:Nu) (O0 Z0:Nat->Prop) (H0:bl) (B:Nat) (ps:List Nat) (G J:Code) (step:List V->Tb bP->Option (Out×Tb bP)) (o:Out) (D:Tb bP) (more:Bool):JT:=λw O Z H=>
 ∃m t z q,R t z (Pz st m) F H/\um O0 Z0 H0 [] (fS t m) z H/\(∀i,O i->¬fS t m i/\¬z i/\i≠B/\H0.length<=i)/\(∀i,Z i->¬fS t m i/\i≠B/\(Z0 i\/H0.length<=i)) /\
  ¬fS t m B/\¬z B/\H0.length<=B/\H[B]? = some (.loop q)/\(q.frame=F/\q.nt=X.nt/\q.params=ps/\q.assign=G/\q.body=J) /\
  (∀d∈st.pin++oZ st.g,∀u,bk m d=some u->∃ob,bk st.m d=some ob/\t d=ν d/\sameShape ob u) /\
  ((v_ step o D w more m/\q.st=.ready/\q.pend=none)\/(w=[]/\m=D/\q.st=.done/\q.pend=some o))
theorem JI.wP {w:List (List V)} {O Z G Z':Nat->Prop} {H H':bl} {B:Nat} {ps:List Nat} {J U:Code} {step:List V->Tb bP->Option (Out×Tb bP)} {o:Out} {W:Tb bP} {more:Bool}
 (j:JI X st F ν O0 Z0 H0 B ps J U step o W more w O Z H) (Y:H.length<=H'.length) (D:∀i,i<H.length->¬O i->¬Z i->H'[i]? = H[i]?) (hr:∀i,Z i->Z' i/\bp H' i=bp H i)
 (ho:∀i,G i->O i\/H.length<=i) (hz:∀i,Z' i->Z i\/O i\/H.length<=i):JI X st F ν O0 Z0 H0 B ps J U step o W more w G Z' H':=by
 obtain⟨m,S,I,T,r,ej,t,z,l1,l2,l3,l4,l5,l6,l7⟩:=j;have u  := λi q=>D i (r.lt  q) (λh=>(t i h).1 q) (λh=>(z i h).1 q)
 have A:∀i,I i->bp H' i=bp H i:=λi q=>by
  by_cases C:Z i
  .grind
  .unfold bp;rw[D i (r.vu q) (λh=>(t i h).2.1 q) C]
 have aa  := (ζe.1 l4).1;refine⟨m,S,I,T,r.heap u A,?_,λi h=>?_,λi h=>?_,l1,l2,l3,?_,l5,l6,l7⟩
 .obtain⟨j1,L,j3,j4,j5,j6⟩:=ej;refine⟨j1,Nat.le_trans L Y,λi h1 h2 Q=>?_,λi h=>⟨(j4 i h).1,by grind⟩,j5,j6⟩
  rw[D i (Nat.lt_of_lt_of_le h1 L) (λh=>by have:=(t i h).2.2.2;omega) (λh=>by rcases (z i h).2.2 with h|h;exact Q h;omega),j3 i h1 h2 Q]
 .rcases ho i h with h|h
  .exact t i h
  .exact⟨λq=>absurd (r.lt  q) (by omega),λq=>absurd (r.vu q) (by omega),by omega,by omega⟩
 .rcases hz i h with h|h|h
  .exact z i h
  .exact⟨(t i h).1,(t i h).2.2.1,.inr (t i h).2.2.2⟩
  .exact⟨λq=>absurd (r.lt  q) (by omega),by omega,.inr (by omega)⟩
 grind
theorem JI.yield (S:Sys) {A B:St->Option (Out×St)} {aw bw:Code} (hA:sL X S true aw A) (hB:sL X S true bw B) {D:Nat} {ps:List Nat} (ax:ps.all (·<X.nt)=true) {o:Out} {mf:Tb bP} {more:Bool}
 {x:List V} {ws:List (List V)} {O Z:Nat->Prop} {H:bl} {args:List V} (j:JI X st F ν O0 Z0 H0 D ps aw bw (iT ps A B st) o mf more (x::ws) O Z H)
 (hx:di H Z x args) (an:∀i,Z i->(bp H i).isSome=true) (ay:Deep H Z) (aA:∀i,O i->¬Z i/\i<H.length) :
 ∃n H',run S.E n (.yld D) args H=some (.bool (more || !ws.isEmpty),H')/\JI X st F ν O0 Z0 H0 D ps aw bw (iT ps A B st) o mf more ws O Z H'/\H.length<=H'.length/\(∀i,O i->H'[i]? = H[i]?)/\(∀i,Z i->bp H' i=bp H i):=by
 obtain⟨m,νb,Zb,lr,r,ej,d1,d2,l1,l2,l3,l4,⟨q1,q2,q3,q4,q5⟩,l6,l7⟩:=j;have aB:v_ (iT ps A B st) o mf (x::ws) more m/\lr.st=.ready/\lr.pend=none:=by
  grind
 obtain⟨hE,Q,aC⟩:=aB;have T:∃oo m1,iT ps A B st x m=some (oo,m1)/\(oo=.norm/\v_ (iT ps A B st) o mf ws more m1/\(more || !ws.isEmpty)=true\/oo≠.norm/\oo=o/\m1=mf/\ws=[]/\more=false):=by
  cases hE with
  | next _ _ _ _ m1 h hr=>
   refine⟨.norm,m1,h,.inl ⟨rfl,hr,?_⟩⟩;cases hr <;> simp
  | last _ _ h ho=>grind
 obtain⟨oo,m1,u,ab⟩:=T;unfold iT at u;split at u
 .rename_i ad;split at u
  .rename_i ah aD;obtain⟨⟨w,st2⟩,aE,e⟩:=ζf.1 u;simp  at e;obtain⟨rfl,rfl⟩:=e;have aF  := (ζe.1 l4).1;have r1  := r.UE (λi q=>(d2 i q).1) an ay
   have aG:di H (λi=>Zb i\/Z i) x args:=hx.mono λi q=>⟨.inr q,rfl⟩
   have r2:=R.SM (st:=Pz st m) r1 aG ad;obtain⟨nA,F2,H2,ν2,Z2,a1,a2,a3,a4⟩:=hA _ _ _ aD (um (fS νb m) (λi=>Zb i\/Z i) H) νb _ _ H um.yc r2 (um.refl  r1)
   obtain⟨b1,b2,b3,b4,b5,b6⟩:=a3;have ai:¬(Zb D\/Z D):=λh=>h.elim l2 λh=>(d2 D h).2.1 rfl
   have ao:H2[D]? = some (.loop lr):=by rw[b3 D aF l1 ai];omega
   have ae:D<H2.length:=by omega
   have U:¬fS ν2 ah.m D:=λh=>(b5 D h).elim l1 λh=>by omega
   have aj:¬Z2 D:=λh=>by rcases b6 D h with h|h|h;exact ai h;exact l1 h;omega
   have t:∀(ob:Ob) (Hh:bl) (i:Nat),i≠D->(Hh.set D ob)[i]? = Hh[i]? := λob Hh i W=>by rw[List.getElem?_set,if_neg (Ne.symm W)]
   have r3:R ν2 Z2 ah F2 (H2.set D (.loop { lr with st:=.busy })):=a2.heap (λi q=>t _ _ i λe=>U (e▸q)) (λi q=>by unfold bp;rw[t _ _ i λe=>aj (e▸q)])
   obtain⟨nB,F4,Y,ν4,Z4,c1,c2,c3,c4⟩:=hB _ _ _ aE (um (fS ν2 ah.m) Z2 (H2.set D (.loop { lr with st:=.busy }))) ν2 Z2 F2 _ um.yc r3 (by
    rw[b1];exact um.refl r3)
   obtain⟨_,g2,g3,g4,g5,g6⟩:=c3;simp  at g2 g3 g5 g6;have ap:Y[D]? = some (.loop { lr with st:=.busy }):=by rw[g3 D ae U aj,List.getElem?_set_self ae]
   have aq:D<Y.length:=by omega
   have ar  := λh=>(g5 D h).elim U λh=>by omega
   have au:¬Z4 D:=λh=>by rcases g6 D h with h|h|h;exact aj h;exact U h;omega
   generalize aa:({ lr with st:=(if w==.norm then AS.ready else AS.done),pend:=(if w==.norm then none else some w) }:vk)=C;have r5:R ν4 Z4 st2 F4 (Y.set D (.loop C)):=c2.heap (λi q=>t _ _ i λe=>ar (e▸q)) (λi q=>by unfold bp;rw[t _ _ i λe=>au (e▸q)])
   have J:H.length<=(Y.set D (.loop C)).length:=by simp ;omega
   have ak:∀i,i<H.length->i≠D->¬fS νb m i->¬(Zb i\/Z i)->(Y.set D (.loop C))[i]? = H[i]? := λi h1 I G h4=>by
    rw[t _ _ i I,g3 i (by omega) (λh=>(b5 i h).elim G λh=>by omega) (λh=>by rcases b6 i h with h|h|h;exact h4 h;exact G h;omega),t _ _ i I,b3 i h1 G h4]
   have z:∀i,(Zb i\/Z i)->Z4 i/\bp (Y.set D (.loop C)) i=bp H i:=λi q=>by
    have W:i≠D:=λe=>ai (e▸q)
    obtain⟨t1,t2⟩:=b4 i q;obtain⟨t3,t4⟩:=g4 i t1;refine⟨t3,?_⟩;rw[<-t2];have:bp (H2.set D (.loop { lr with st:=.busy })) i=bp H2 i:=by unfold bp;rw[t _ _ i W]
    rw[<-this,<-t4];unfold bp;rw[t _ _ i W]
   have L:∀i,fS ν4 st2.m i->fS νb m i\/H.length<=i:=λi q=>by
    rcases g5 i q with h|h
    .exact b5 i h
    .exact .inr (by omega)
   have af:∀i,Z4 i->(Zb i\/Z i)\/fS νb m i\/H.length<=i:=λi q=>by
    rcases g6 i q with h|h|h
    .exact b6 i h
    .rcases b5 i h with h|h
     .exact .inr (.inl h)
     .exact .inr (.inr h)
    .exact .inr (.inr (by omega))
   have fx:=a4.trans c4;have r6:R ν4 Z4 (Pz st st2.m) F (Y.set D (.loop C)):=⟨λs sv hs=>(r.slot s sv hs).mono (λi q=>z i (.inl q)) λd hd al am=>fx.pin d (List.mem_append_right _ (AV hs hd)) al am,r5.obj,r5.inj,r5.apart,r5.zrow,r5.deep⟩
   have av:run S.E (max nA nB+1) (.yld D) args H=some (.bool (w==.norm),Y.set D (.loop C)):=by
    simp only[run,l4];rw[if_pos (by rw[q3];exact⟨by rw[<-hx.1];exact ad,by rw[q2];exact ax⟩)]
    rw[q1,q2,q3,q4,q5];rw[a1 _ (Nat.le_max_left _ _)];simp only[ao,Q];rw[c1 _ (Nat.le_max_right _ _)];simp only[ap];rw[<-aa]
   refine⟨max nA nB+1,Y.set D (.loop C),?_,⟨st2.m,ν4,Z4,C,r6,?_,λi q=>?_,λi q=>?_,ar,au,l3,?_,?_,λd hd al am=>?_,?_⟩,J,λi q=>?_,λi q=>(z i (.inr q)).2⟩
   .rw[av];rcases ab with⟨h1,_,G⟩|⟨h1,_,_,h4,h5⟩
    .rw[h1,G];rfl
    .rw[h4,h5]
     cases aH:w with
     | norm=>exact absurd aH h1
     | _=>rfl
   .obtain⟨j1,j2,j3,j4,j5,j6⟩:=ej;refine⟨rfl,Nat.le_trans j2 J,λi h1 I G=>?_,λi h=>⟨(z i (.inl (j4 i h).1)).1,by rw[(z i (.inl (j4 i h).1)).2,(j4 i h).2]⟩,λi h=>?_,λi h=>?_⟩
    .rw[ak i (by omega) (by omega) (λh=>by rcases j5 i h with h|h;exact I h;omega) (λh=>by
      rcases h with h|h
      .rcases j6 i h with h|h|h;exact G h;exact I h;omega
      .rcases (d2 i h).2.2 with h|h;exact G h;omega),j3 i h1 I G]
    .rcases L i h with h|h
     .exact j5 i h
     .exact .inr (by omega)
    .rcases af i h with (h|h)|h|h
     .exact j6 i h
     .rcases (d2 i h).2.2 with h|h;exact .inl h;exact .inr (.inr h)
     .rcases j5 i h with h|h;exact .inr (.inl h);exact .inr (.inr h)
     .exact .inr (.inr (by omega))
   .obtain⟨t1,t2⟩:=aA i q;obtain⟨t3,t4,t5,t6⟩:=d1 i q;refine⟨λh=>(L i h).elim t3 λh=>by omega,λh=>?_,t5,t6⟩
    rcases af i h with (h|h)|h|h
    .exact t4 h
    .exact t1 h
    .exact t3 h
    .omega
   .obtain⟨t1,t2,t3⟩:=d2 i q;have aJ:i<H.length:=by
     have:=an i q;unfold bp at this
     cases hh:H[i]? with
     | none=>rw[hh]at this;simp at this
     | some _=>exact(ζe.1 hh).1
    exact⟨λh=>(L i h).elim t1 λh=>by omega,t2,t3⟩
   .rw[List.getElem?_set_self aq]
   .subst aa;exact⟨q1,q2,q3,q4,q5⟩
   .obtain⟨aI,h1,I,G⟩:=fx.pin d hd al am;obtain⟨ob,k1,k2,k3⟩:=l6 d hd aI h1;exact⟨ob,k1,by rw[I,k2],k3.trans G⟩
   .rcases ab with⟨h1,I,G⟩|⟨h1,I,G,h4,h5⟩
    .left;subst h1;subst aa;exact⟨I,rfl,rfl⟩
    .right;subst aa;have hb:¬(w==Out.norm)=true:=by simpa using h1
     refine⟨h4,G,?_,?_⟩
     .show (if(w==Out.norm)=true then AS.ready else AS.done)=AS.done;rw[if_neg hb]
     .show (if(w==Out.norm)=true then none else some w)=some o;rw[if_neg hb,I]
   grind
  grind
 grind
end
end Go.VE
namespace Go.VE
variable [bX]
section
variable {ν ν' ν2:Nu} {Z Z':Nat->Prop} {st st' st2:St} {m m':Tb bP} {F F':Frame} {H H' H1:bl} {S:Sys} {c:cq} {X:CX} {J:JT}
theorem LL (gd:Good X S) (G:kO S c) {ro:Bool} {id:Nat} {ops:Array Oper} {l:List RO} (hc:kS X true ops.toList 0 ops.toList=some (l.map RO.strip)) (D:(vT ops.toList&&zD ops.toList)=true) :
 sL X S ro (.region id ops true) (λst=>(mR S c true [] l st).map λst=>(.norm,st)):=by
 intro st o st' h J ν Z F H y r j;obtain⟨I,h1,e⟩:=ζf.1 h;simp only[ζc]at e;obtain⟨rfl,rfl⟩:=e;generalize w:(if ri ops.toList then H++List.replicate ops.toList.length .free else H)=H0;generalize hk:(if ri ops.toList then ops.toList.length else 0)=k;have u:∀i,i<H.length->H0[i]? = H[i]? := λi t=>by
  rw[<-w];split
  .exact List.getElem?_append_left t
  .rfl
 have z:H.length<=H0.length:=by rw[<-w];split <;> simp
 have L:R ν Z st F H0:=r.heap (λi t=>u i (r.lt t)) (λi t=>by unfold bp;rw[u i (r.vu t)])
 have A:∀q,0<=q->q<k->H0[H.length+q]? = some .free:=λq _ B=>by
  rw[<-hk]at B;split at B
  .rename_i C;rw[<-w,if_pos C,List.getElem?_append_right (by omega)]
   simp only[Nat.add_sub_cancel_left];rw[List.getElem?_replicate,if_pos B]
  .omega
 obtain⟨n,F',H',ν',e1,e2,e3,e4,e5⟩:=LU gd G (ops:=ops.toList) (b:=H.length) (k:=k) (λC=>by rw[<-hk,if_pos C]) ops.toList.length (i:=0) (fr:=[]) (by omega) (by simpa using hc) h1 L z
  ⟨λd ob D O _=>r.lt ⟨d,ob,D,O,rfl⟩,λi t=>r.vu t⟩ A
 refine⟨n,F',H',ν',Z,λq B=>?_,e2,?_,e5⟩
 .simp only[exec,jt,if_true,D,ζf,ζc,true_and];refine⟨(F',H'),?_,rfl,rfl⟩;rw[w];have:=e1 q B;rw[List.range_eq_range'];exact this
 .rw[e4];refine y.wP _ _ _ _ _ _ _ j (Nat.le_trans z e3.len) (λi h1 Q T=>by rw[e3.same i (by omega) Q T (by omega),u i h1]) (λi t=>⟨t,by rw[(e3.rows i t).2];unfold bp;rw[u i (r.vu t)]⟩) (λi t=>?_) (λi t=>.inl t)
  rcases e3.own i t with h|h|h
  .exact .inl h
  .exact .inr h
  .exact .inr (by omega)
theorem QB {ro:Bool} {code:Code} {f:St->Option (Out×St)} (O:sL X S ro code f):sL X S ro (.loop code) (nV f):=by
 intro st o st' h J ν Z F H y r j;obtain⟨k,hk⟩:=mD.1 h;have key:∀k st ν Z F H,ji f k st=some (o,st')->Yc S J st.more st.yid->R ν Z st F H->J st.want (fS ν st.m) Z H ->
  ∃n F' H' ν' Z',(∀q,n<=q->∀lf,k<=lf->ku (exec S.E (run S.E q) q ro X.nt code) lf F H=some (o,F',H'))/\R ν' Z' st' F' H'/\J st'.want (fS ν' st'.m) Z' H'/\Fix ν st ν' st':=by
  intro k
  induction k with
  | zero=>intro st ν Z F H h;simp[ji]at h
  | succ k Q=>
   intro st ν Z F H h y r j;simp only[ji]at h;split at h
   .rename_i u z;obtain⟨A,F1,H1,B,C,D,G,I,w⟩:=O st .norm u z J ν Z F H y r j;obtain⟨T,U,H2,ν2,Z2,W,Y,b3,b4⟩:=Q u B C F1 H1 h (by rw[w.more,w.yid];exact y) G I
    refine⟨max A T,U,H2,ν2,Z2,λq t lf L=>?_,Y,b3,w.trans b4⟩
    cases lf with
    | zero=>omega
    | succ lf=>
     simp only[ku,D q (Nat.le_trans (Nat.le_max_left _ _) t)];exact W q (Nat.le_trans (Nat.le_max_right _ _) t) lf (by omega)
   .rename_i z;obtain⟨A,F1,H1,B,C,D,G,I,w⟩:=O st o st' h J ν Z F H y r j;have ho:o≠.norm:=λe=>by subst e;exact z st' h
    refine⟨A,F1,H1,B,C,λq t lf L=>?_,G,I,w⟩
    cases lf with
    | zero=>omega
    | succ lf=>
     simp only[ku,D q t];cases o <;> first|exact absurd rfl ho|rfl
 obtain⟨n,F',H',ν',Z',e1,e2,e3,e4⟩:=key k st ν Z F H hk y r j;refine⟨max n k,F',H',ν',Z',λq t=>?_,e2,e3,e4⟩
 simp only[exec];exact e1 q (Nat.le_trans (Nat.le_max_left _ _) t) q (Nat.le_trans (Nat.le_max_right _ _) t)
theorem Ro (gd:Good X S) (hI:∀f a b xs,S.items f a b=some xs->iA S f a b xs) {g:Operand} {ps:Array Tmp} {U W:Code} {x:Arg} {A B:St->Option (Out×St)}
 (ab:ps.toList.all (·<X.nt)=true) (hx:pR X.nm g=some x) (hA:sL X S true U A) (hB:sL X S true W B) :
 sL X S false (.rangeFunc g ps U W) (λst=>match ql S.N st.g x with
 | some (.v (.clo f x y))=>match S.items f x y with
  | some xs=>(qb (iT ps.toList A B st) xs st.m).map λ(o,m)=>(o,{ st with m:=m })
  | none=>none
 | _=>none):=by
 intro st o st' h J ν Z F H y r j;dsimp only at h;split at h
 .rename_i f a b ad;split at h
  .rename_i xs ae;obtain⟨⟨oo,mf⟩,hE,e⟩:=ζf.1 h;simp only[ζc]at e;obtain⟨rfl,rfl⟩:=e;obtain⟨yv,hy,ry⟩:=Dg gd.N r.slot hx ad;obtain⟨a',b',rfl,ra,rb⟩:=ry.fr.kP;obtain⟨ws,more,Q,hR⟩:=Cx hE;generalize I:(⟨.ready,none,F,X.nt,ps.toList,U,W⟩:vk)=u;have z:∀i,i<H.length->(H++[Ob.loop u])[i]? = H[i]? := λi t=>List.getElem?_append_left t
   have C:∀i,Z i->bp (H++[Ob.loop u]) i=bp H i:=λi t=>by unfold bp;rw[z i (r.vu t)]
   have r0:R ν Z (Pz st st.m) F (H++[Ob.loop u]):=by
    have:=r.heap (H':=H++[Ob.loop u]) (λi t=>z i (r.lt t)) C
    exact⟨this.slot,this.obj,this.inj,this.apart,this.zrow,this.deep⟩
   have D:∀i,Z i->Z i/\bp (H++[Ob.loop u]) i=bp H i:=λi t=>⟨t,C i t⟩
   have j0:JI X st F ν (fS ν st.m) Z H H.length ps.toList U W (iT ps.toList A B st) oo mf more ws (λ_=>False) Z (H++[Ob.loop u]):=by
    refine⟨st.m,ν,Z,u,r0,⟨rfl,by simp,λi h1 _ _=>z i h1,λi t=>⟨t,C i t⟩,λi t=>.inl t,λi t=>.inl t⟩,λi t=>t.elim,λi t=>⟨λho=>?_,Nat.ne_of_lt (r.vu t),.inl t⟩,λho=>absurd (r.lt ho) (by simp),λhz=>absurd (r.vu hz) (by simp),Nat.le_refl _,by simp,?_,λd _ af h=>⟨af,h,rfl,.refl _⟩,.inl ⟨hR,?_,?_⟩⟩
    .obtain⟨d,ob,g1,g2,rfl⟩:=ho;exact r.apart d ob g1 g2 t
    .subst I;exact⟨rfl,rfl,rfl,rfl,rfl⟩
    .subst I;rfl
    .subst I;rfl
   have ah:Yc S (JI X st F ν (fS ν st.m) Z H H.length ps.toList U W (iT ps.toList A B st) oo mf more) more H.length:=
    ⟨λw O Z1 H1 O' Z' H' jj h1 Y h3 h4 h5=>JI.wP jj h1 Y h3 h4 h5,λx1 aj O Z1 H1 args jj h1 Y h3 h4=>JI.yield S hA hB ab jj h1 Y h3 h4⟩
   obtain⟨n,yy,H',O',Z',e1,e2⟩:=hI f a b xs ae ws more Q H.length _ ah Z a' b' (H++[Ob.loop u]) (ra.mono D) (rb.mono D) (λi t=>by rw[C i t];exact r.zrow i t) (r.deep.mono C) j0
   obtain⟨m1,νb,Zb,lr,r1,⟨_,k2,k3,k4,k5,k6⟩,_,_,l1,l2,l3,l4,_,l6,l7⟩:=e2;have aa:m1=mf/\(lr.st=.ready\/lr.st=.done)/\lr.pend.getD .norm=oo:=by
    rcases l7 with⟨g1,g2,g3⟩|⟨_,g1,g2,g3⟩
    .cases g1 with
     | nil hn=>
      exact⟨rfl,.inl g2,by rw[g3,hn];rfl⟩
    .exact⟨g1,.inr g2,by rw[g3];rfl⟩
   obtain⟨rfl,hst,T⟩:=aa;have ak:H.length<H'.length:=(ζe.1 l4).1;have G:∀i,i≠H.length->(H'.set H.length .dead)[i]? = H'[i]? := λi ai=>by rw[List.getElem?_set,if_neg (Ne.symm ai)]
   have L:∀i,Zb i->bp (H'.set H.length .dead) i=bp H' i:=λi t=>by unfold bp;rw[G i λe=>l2 (e▸t)]
   have r2:=r1.heap (H':=H'.set H.length .dead) (λi t=>G i λe=>l1 (e▸t)) L
   refine⟨n,F,H'.set H.length .dead,νb,Zb,λq hq=>?_,⟨r2.slot,r2.obj,r2.inj,r2.apart,r2.zrow,r2.deep⟩,?_,⟨λd hd=>l6 d (List.mem_append_left _ hd),rfl,rfl,rfl⟩⟩
   .simp only[exec,hy];rw[I,e1 q hq];simp only[l4];rcases hst with hst|hst <;> rw[hst] <;> simp only[T]
   .refine y.wP _ _ _ _ _ _ _ j (by simp only[List.length_set];omega) (λi h1 Y h3=>by rw[G i (by omega),k3 i h1 Y h3]) (λi t=>⟨(k4 i t).1,by rw[L i (k4 i t).1,(k4 i t).2]⟩) k5 k6
  .simp at h
 .simp at h
end
end Go.VE
namespace Go.VE
variable [bX]
def nW (st:St):List RV->Option (List SV)
 | []=>some []
 | .s n::r=>match bk st.g n,nW st r with
  | some x,some l=>some (x::l)
  | _,_=>none
 | .ld n size agg::r=>match (bk st.g n).bind λp=>oT st.m (.load size agg) [p],nW st r with
  | some x,some l=>some (x::l)
  | _,_=>none
noncomputable def oR (S:Sys) (c:cq) (rf:RF) (svs:List SV) (B:iV):Option (List SV×iV):=
 if svs.length<=rf.na then
  match cA S c rf.body (start svs B)with
  | some (.exit _,_)=>none
  | some (_,st)=>(nW st rf.rs).map λrs=>(rs,st.m)
  | none=>none
 else none
def AA (E:Env):ResultVar->Option RV
 | .tmp t=>some (.s t)
 | .cell a t=>(E.tt t).map λd=>.ld a d.size d.agg
def xT (E:Env) (nm:FuncId->Option Nat) (fi:FI) (rf:RF):Prop:=
 bQ ⟨E,nm,fi.ntmps⟩ false fi.body=some (erase rf.body)/\fi.results.mapM (AA E)=some rf.rs/\rf.na=fi.ntmps
section
variable {ν ν' ν2:Nu} {Z Z':Nat->Prop} {st st' st2:St} {m m':Tb bP} {F F':Frame} {H H' H1:bl} {S:Sys} {c:cq} {X:CX} {J:JT}
theorem ID (gd:Good X S) (hS:kO S c) (hI:∀f a b xs,S.items f a b=some xs->iA S f a b xs):∀(rc:RC) (ro:Bool) (code:Code),bQ X ro code=some (erase rc)->sL X S ro code (cA S c rc):=by
 intro rc
 induction rc with
 | skip=>
  intro ro code hc st o st' h J ν Z F H y r j;obtain⟨rfl,rfl⟩:=h;simp[erase]at hc;have:∀k,exec S.E (run S.E k) k ro X.nt code F H=some (.norm,F,H):=λk=>by
   cases code with
   | skip=>rfl
   | label _=>rfl
   | region id ops w=>
    simp[bQ]at hc;split at hc
    .simp_all
    simp_all
   | seq a b=>simp[bQ]at hc;grind
   | cond x a b=>simp[bQ]at hc;grind
   | block id b=>simp only[bQ]at hc;simp_all
   | loop b=>simp only[bQ]at hc;simp_all
   | rangeFunc g Y U W=>
    simp[bQ]at hc
    grind
   | _=>simp[bQ]at hc
  exact⟨0,F,H,ν,Z,λk _=>this k,r,j,.refl⟩
 | ops l=>
  intro ro code hc;simp[erase]at hc
  cases code with
  | region id ops w=>
   simp[bQ]at hc;split at hc
   .simp_all
   .rename_i hd;obtain⟨l',hl,e⟩:=ζf.1 hc;cases e;intro st o st' h J ν Z F H y r j;obtain⟨z,h1,e⟩:=ζf.1 h;obtain⟨rfl,rfl⟩:=e;obtain⟨n,F',H',ν',Z',e1,e2,e3,e4⟩:=L4 gd hS _ hl h1 y r j;refine⟨n,F',H',ν',Z',λk hk=>?_,e2,e3,e4⟩
    simp[exec,jt,hd,e1 k hk]
  | seq a b=>simp[bQ]at hc;grind
  | cond x a b=>simp[bQ]at hc;grind
  | block id b=>simp only[bQ]at hc;simp_all
  | loop b=>obtain⟨_,_,e⟩:=ζf.1 hc;cases e
  | rangeFunc g Y U W=>
   simp only[bQ]at hc;split at hc
   .simp at hc
   .split at hc <;> simp at hc
  | _=>simp[bQ]at hc
 | oO l=>
  intro ro code hc;simp[erase]at hc
  cases code with
  | region id ops w=>
   simp only[bQ]at hc;split at hc
   .rename_i hd;subst hd;split at hc
    .rename_i ab;obtain⟨l',hl,e⟩:=ζf.1 hc;cases e;have:=LL (ro:=ro) (id:=id) gd hS hl ab;intro st o st' h;exact this st o st' h
    .simp at hc
   .obtain⟨_,_,e⟩:=ζf.1 hc;cases e
  | seq a b=>simp[bQ]at hc;split at hc <;> simp at hc
  | cond x a b=>simp[bQ]at hc;split at hc <;> simp at hc
  | block id b=>obtain⟨_,_,e⟩:=ζf.1 hc;cases e
  | loop b=>obtain⟨_,_,e⟩:=ζf.1 hc;cases e
  | rangeFunc g Y U W=>
   simp only[bQ]at hc;split at hc
   .simp at hc
   .split at hc <;> simp at hc
  | _=>simp[bQ]at hc
 | seq a b u Q=>
  intro ro code hc;simp[erase]at hc
  cases code with
  | seq ca cb=>
   simp[bQ]at hc;split at hc
   .rename_i xa xb T hb;simp[RC.seq.injEq]at hc;obtain⟨rfl,rfl⟩:=hc;intro st o st' h J ν Z F H y r j;simp[cA]at h;split at h
    .rename_i z hs;obtain⟨G,F1,H1,A,B,I,L,O,C⟩:=u ro ca T st .norm z hs J ν Z F H y r j;obtain⟨n2,F2,H2,ν2,Z2,b1,b2,b3,b4⟩:=Q ro cb hb z o st' h J A B F1 H1 (by rw[C.more,C.yid];exact y) L O
     refine⟨max G n2,F2,H2,ν2,Z2,λq D=>?_,b2,b3,C.trans b4⟩
     simp[exec,I q (Nat.le_trans (Nat.le_max_left _ _) D)];exact b1 q (Nat.le_trans (Nat.le_max_right _ _) D)
    .rename_i hs;obtain⟨G,F1,H1,A,B,I,L,O,C⟩:=u ro ca T st o st' h J ν Z F H y r j;refine⟨G,F1,H1,A,B,λq D=>?_,L,O,C⟩
     simp[exec,I q D];cases o <;> first|exact absurd h (hs st')|rfl
   .simp at hc
  | region id ops w=>
   simp[bQ]at hc;split at hc
   .split at hc
    .obtain⟨_,_,e⟩:=ζf.1 hc;cases e
    .simp at hc
   .obtain⟨_,_,e⟩:=ζf.1 hc;cases e
  | cond x a b=>simp[bQ]at hc;split at hc <;> simp at hc
  | block id b=>simp only[bQ]at hc;obtain⟨_,_,e⟩:=ζf.1 hc;cases e
  | loop b=>simp only[bQ]at hc;obtain⟨_,_,e⟩:=ζf.1 hc;cases e
  | rangeFunc g Y U W=>
   simp only[bQ]at hc;split at hc
   .simp at hc
   .split at hc <;> simp at hc
  | _=>simp[bQ]at hc
 | cond x a b u Q=>
  intro ro code hc;simp[erase]at hc
  cases code with
  | cond g ca cb=>
   simp[bQ]at hc;split at hc
   .rename_i xg xa xb hg T hb;simp[RC.cond.injEq]at hc;obtain⟨rfl,rfl,rfl⟩:=hc;intro st o st' h J ν Z F H y r j;simp[cA]at h;split at h
    .rename_i t ht;obtain⟨yv,hy,ry⟩:=Dg gd.N r.slot hg ht;rw[ry.fr.bool]at hy;split at h
     .rename_i hb;obtain⟨G,F1,H1,A,B,I,L,O,C⟩:=u ro ca T st o st' h J ν Z F H y r j;refine⟨G,F1,H1,A,B,λq D=>?_,L,O,C⟩
      simp[exec,hy,hb];exact I q D
     .rename_i hb;obtain⟨G,F1,H1,A,B,I,L,O,C⟩:=Q ro cb (by assumption) st o st' h J ν Z F H y r j
      refine⟨G,F1,H1,A,B,λq D=>?_,L,O,C⟩
      simp[exec,hy,hb];exact I q D
    .simp at h
   .simp at hc
  | region id ops w=>
   simp[bQ]at hc;split at hc
   .split at hc
    .obtain⟨_,_,e⟩:=ζf.1 hc;cases e
    .simp at hc
   .obtain⟨_,_,e⟩:=ζf.1 hc;cases e
  | seq a b=>simp[bQ]at hc;split at hc <;> simp at hc
  | block id b=>simp only[bQ]at hc;obtain⟨_,_,e⟩:=ζf.1 hc;cases e
  | loop b=>simp only[bQ]at hc;obtain⟨_,_,e⟩:=ζf.1 hc;cases e
  | rangeFunc g Y U W=>
   simp only[bQ]at hc;split at hc
   .simp at hc
   .split at hc <;> simp at hc
  | _=>simp[bQ]at hc
 | block id a u=>
  intro ro code hc;simp[erase]at hc
  cases code with
  | block ad ca=>
   simp only[bQ]at hc;obtain⟨xa,T,e⟩:=ζf.1 hc;simp[RC.block.injEq]at e;obtain⟨rfl,rfl⟩:=e;intro st o st' h J ν Z F H y r j;simp[cA]at h;split at h
   .rename_i ae z hs;obtain⟨G,F1,H1,A,B,I,L,O,C⟩:=u ro ca T st (.exit ae) z hs J ν Z F H y r j;split at h
    .rename_i e;simp  at h;obtain⟨rfl,rfl⟩:=h;refine⟨G,F1,H1,A,B,λq D=>?_,L,O,C⟩
     simp[exec,I q D,if_pos e]
    .rename_i e;simp  at h;obtain⟨rfl,rfl⟩:=h;refine⟨G,F1,H1,A,B,λq D=>?_,L,O,C⟩
     simp[exec,I q D,if_neg e]
   .rename_i hs;obtain⟨G,F1,H1,A,B,I,L,O,C⟩:=u ro ca T st o st' h J ν Z F H y r j;refine⟨G,F1,H1,A,B,λq D=>?_,L,O,C⟩
    simp[exec,I q D];cases o <;> first|exact absurd h (hs _ st')|rfl
  | region id ops w=>
   simp[bQ]at hc;split at hc
   .split at hc
    .obtain⟨_,_,e⟩:=ζf.1 hc;cases e
    .simp at hc
   .obtain⟨_,_,e⟩:=ζf.1 hc;cases e
  | seq a b=>simp[bQ]at hc;split at hc <;> simp at hc
  | cond x a b=>simp[bQ]at hc;split at hc <;> simp at hc
  | loop b=>simp only[bQ]at hc;obtain⟨_,_,e⟩:=ζf.1 hc;cases e
  | rangeFunc g Y U W=>
   simp only[bQ]at hc;split at hc
   .simp at hc
   .split at hc <;> simp at hc
  | _=>simp[bQ]at hc
 | loop a u=>
  intro ro code hc;simp[erase]at hc
  cases code with
  | loop ca=>
   simp only[bQ]at hc;obtain⟨xa,T,e⟩:=ζf.1 hc;simp[RC.loop.injEq]at e;subst e;have:=QB (u ro ca T);intro st o st' h;simp[cA]at h;exact this st o st' h
  | region id ops w=>
   simp[bQ]at hc;split at hc
   .split at hc
    .obtain⟨_,_,e⟩:=ζf.1 hc;cases e
    .simp at hc
   .obtain⟨_,_,e⟩:=ζf.1 hc;cases e
  | seq a b=>simp[bQ]at hc;split at hc <;> simp at hc
  | cond x a b=>simp[bQ]at hc;split at hc <;> simp at hc
  | block id b=>simp only[bQ]at hc;obtain⟨_,_,e⟩:=ζf.1 hc;cases e
  | rangeFunc g Y U W=>
   simp only[bQ]at hc;split at hc
   .simp at hc
   .split at hc <;> simp at hc
  | _=>simp[bQ]at hc
 | each x Y a b u Q=>
  intro ro code hc;simp[erase]at hc
  cases code with
  | rangeFunc g ah U W=>
   simp only[bQ]at hc;split at hc
   .simp at hc
   .rename_i aa;simp only[Bool.or_eq_true,not_or,Bool.not_eq_true,Bool.not_eq_false']at aa;obtain⟨rfl,af⟩:=aa;split at hc
    .rename_i xg xa xb hg T hb;simp[RC.each.injEq]at hc;obtain⟨rfl,rfl,rfl,rfl⟩:=hc;have:=Ro gd hI af hg (u true U T) (Q true W hb);intro st o st' h;simp only[cA]at h;exact this st o st' h
    .simp at hc
  | region id ops w=>
   simp only[bQ]at hc;split at hc
   .split at hc
    .obtain⟨_,_,e⟩:=ζf.1 hc;cases e
    .simp at hc
   .obtain⟨_,_,e⟩:=ζf.1 hc;cases e
  | seq a b=>simp only[bQ]at hc;split at hc <;> simp at hc
  | cond x a b=>simp only[bQ]at hc;split at hc <;> simp at hc
  | block id b=>simp only[bQ]at hc;obtain⟨_,_,e⟩:=ζf.1 hc;cases e
  | loop b=>simp only[bQ]at hc;obtain⟨_,_,e⟩:=ζf.1 hc;cases e
  | _=>simp[bQ]at hc
 | exit id=>
  intro ro code hc st o st' h J ν Z F H y r j;simp only[cA,ζa,ζc]at h;obtain⟨rfl,rfl⟩:=h;simp only[erase]at hc;have:∀k,exec S.E (run S.E k) k ro X.nt code F H=some (.exit id,F,H):=λk=>by
   cases code with
   | exit ad=>simp only[bQ,ζa,RC.exit.injEq]at hc;subst hc;rfl
   | region id ops w=>
    simp only[bQ]at hc;split at hc
    .split at hc
     .obtain⟨_,_,e⟩:=ζf.1 hc;cases e
     .simp at hc
    .obtain⟨_,_,e⟩:=ζf.1 hc;cases e
   | seq a b=>simp only[bQ]at hc;split at hc <;> simp at hc
   | cond x a b=>simp only[bQ]at hc;split at hc <;> simp at hc
   | block id b=>simp only[bQ]at hc;obtain⟨_,_,e⟩:=ζf.1 hc;cases e
   | loop b=>simp only[bQ]at hc;obtain⟨_,_,e⟩:=ζf.1 hc;cases e
   | rangeFunc g Y U W=>
    simp only[bQ]at hc;split at hc
    .simp at hc
    .split at hc <;> simp at hc
   | _=>simp[bQ]at hc
  exact⟨0,F,H,ν,Z,λk _=>this k,r,j,.refl⟩
 | ret=>
  intro ro code hc st o st' h J ν Z F H y r j;simp only[cA,ζa,ζc]at h;obtain⟨rfl,rfl⟩:=h;simp only[erase]at hc;have:∀k,exec S.E (run S.E k) k ro X.nt code F H=some (.ret,F,H):=λk=>by
   cases code with
   | ret=>rfl
   | region id ops w=>
    simp only[bQ]at hc;split at hc
    .split at hc
     .obtain⟨_,_,e⟩:=ζf.1 hc;cases e
     .simp at hc
    .obtain⟨_,_,e⟩:=ζf.1 hc;cases e
   | seq a b=>simp only[bQ]at hc;split at hc <;> simp at hc
   | cond x a b=>simp only[bQ]at hc;split at hc <;> simp at hc
   | block id b=>simp only[bQ]at hc;obtain⟨_,_,e⟩:=ζf.1 hc;cases e
   | loop b=>simp only[bQ]at hc;obtain⟨_,_,e⟩:=ζf.1 hc;cases e
   | rangeFunc g Y U W=>
    simp only[bQ]at hc;split at hc
    .simp at hc
    .split at hc <;> simp at hc
   | _=>simp[bQ]at hc
  exact⟨0,F,H,ν,Z,λk _=>this k,r,j,.refl⟩
 | gh x a u=>
  intro ro code hc;simp only[erase]at hc;intro st o st' h J ν Z F H y r j;simp only[cA]at h;obtain⟨z,h1,h2⟩:=ζg.1 h;obtain⟨A,B,g1,g2,g3⟩:=Fix.ghost r y j h1;obtain⟨n,F',H',ν',Z',e1,e2,e3,e4⟩:=u ro code hc z o st' h2 J A B F H (by rw[g3.more,g3.yid];exact y) g1 g2
  exact⟨n,F',H',ν',Z',e1,e2,e3,g3.trans e4⟩
 | hg a x u=>
  intro ro code hc;simp only[erase]at hc;intro st o st' h J ν Z F H y r j;simp only[cA]at h;split at h
  .rename_i z hs;obtain⟨st2,h1,e⟩:=ζf.1 h;simp only[ζc]at e;obtain⟨rfl,rfl⟩:=e;obtain⟨n,F',H',ν',Z',e1,e2,e3,e4⟩:=u ro code hc st .norm z hs J ν Z F H y r j;obtain⟨A,B,g1,g2,g3⟩:=Fix.ghost e2 (by rw[e4.more,e4.yid];exact y) e3 h1
   exact⟨n,F',H',A,B,e1,g1,g2,e4.trans g3⟩
  .exact u ro code hc st o st' h J ν Z F H y r j
end
end Go.VE
