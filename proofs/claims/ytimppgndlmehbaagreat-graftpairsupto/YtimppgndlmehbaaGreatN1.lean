/-
 The second layer: named objects in the place of rows; texts, calls, iterators.
-/
import Derived.Test.YtimppgndlmehbaaGreatV2
set_option linter.all false
namespace Go.VE
variable [aW]
inductive Fl where|nil|emp|row|part
 deriving DecidableEq,Inhabited
inductive SV where
 | v (x:V)
 | own (d:Nat)
 | ptr (d off:Nat)
 | el (d i off:Nat)
 | mp (d:Nat)
 | clo (f:FuncId) (a b:List SV)
 | tup (l:List SV)
 | agg (l:List SV)
 | yl (id:Nat)
 deriving Inhabited
inductive aM where
 | sl (k:Fl) (es:Nat) (xs:List (List V))
 | box (cs:List SV)
 | mp (kvs:List (V×V))
abbrev Tb (α:Type):=List (Nat×α)
def ai {α:Type}:Tb α->Nat->Option α
 | [],_=>none
 | (k,v)::r,n=>if k=n then some v else ai r n
def aU {α:Type}:Tb α->Nat->α->Tb α
 | [],n,v=>[(n,v)]
 | (k,x)::r,n,v=>if k=n then(k,v)::r else(k,x)::aU r n v
def cV {α:Type} (n:Nat):Tb α->Tb α
 | []=>[]
 | (k,x)::r=>if k=n then cV n r else(k,x)::cV n r
def lN {α:Type}:List Nat->Tb α->Tb α
 | [],g=>g
 | d::ds,g=>lN ds (cV d g)
def vi {α:Type}:Tb α->List Nat->List α->Tb α
 | g,p::ps,v::vs=>vi (aU g p v) ps vs
 | g,_,_=>g
def zj {α:Type} (g:Tb α):List Nat->Option (Tb α)
 | []=>some []
 | n::r=>match ai g n,zj g r with
  | some v,some t=>some ((n,v)::t)
  | _,_=>none
structure St where
 g:Tb SV
 m:Tb aM
 pin:List Nat
 want:List (List V)
 more:Bool
 yid:Nat
structure GC where
 part:Bool
 go:Nat->List (List V)->List V->Option (List (List V))
structure Sys where
 E:Env
 N:Nat->FuncId
 items:FuncId->List V->List V->Option (List (List V))
 xI:FuncId->List V->Option V
 prm:FuncId->Option GC
inductive Arg where
 | s (n:Nat)
 | k (c:V)
 | f (name:Nat)
inductive Loc where
 | s (n:Nat)
 | c (b i:Nat)
inductive Gh where
 | close (d:Nat)
 | closeB (d:Nat)
 | canon (l:Loc) (d:Nat) (es:Nat)
 | keep (gs ms:List Nat)
 | drop (ds:List Nat)
 | closeS (l:Loc)
structure RO where
 dst:Option Nat
 gd:Option (Nat×Bool)
 now:Bool
 k:K
 az:List Arg
 dead:List Nat:=[]
 pre:List Gh:=[]
inductive RC where
 | skip
 | ops (l:List RO)
 | nH (l:List RO)
 | seq (a b:RC)
 | cond (x:Arg) (a b:RC)
 | block (id:Nat) (c:RC)
 | loop (c:RC)
 | each (g:Arg) (ps:List Nat) (a b:RC)
 | exit (id:Nat)
 | ret
 | gh (x:Gh) (c:RC)
 | hg (c:RC) (x:Gh)
inductive RV where
 | s (n:Nat)
 | ld (n size:Nat) (agg:Bool)
structure RF where
 na:Nat
 rs:List RV
 body:RC
mutual
def SV.bT (d:Nat):SV->Bool
 | .v _=>false
 | .own e=>e==d
 | .ptr e _=>e==d
 | .el e _ _=>e==d
 | .mp e=>e==d
 | .clo _ a b=>SV.cB d a||SV.cB d b
 | .tup l=>SV.cB d l
 | .agg l=>SV.cB d l
 | .yl _=>false
def SV.cB (d:Nat):List SV->Bool
 | []=>false
 | x::r=>SV.bT d x||SV.cB d r
end
def aM.bT (d:Nat):aM->Bool
 | .box cs=>SV.cB d cs
 | _=>false
def tJ (d:Nat):Tb SV->Bool
 | []=>false
 | (_,x)::r=>SV.bT d x||tJ d r
def qK (d:Nat):Tb aM->Bool
 | []=>false
 | (_,x)::r=>aM.bT d x||qK d r
def St.new (st:St) (d:Nat):Bool := !(st.pin.contains d)&&(ai st.m d).isNone && !(tJ d st.g) && !(qK d st.m)
mutual
def SV.sO (d e:Nat):SV->SV
 | .v x=>.v x
 | .own k=>.own (if k=d then e else k)
 | .ptr k o=>.ptr (if k=d then e else k) o
 | .el k i o=>.el (if k=d then e else k) i o
 | .mp k=>.mp (if k=d then e else k)
 | .clo f a b=>.clo f (SV.th d e a) (SV.th d e b)
 | .tup l=>.tup (SV.th d e l)
 | .agg l=>.agg (SV.th d e l)
 | .yl id=>.yl id
def SV.th (d e:Nat):List SV->List SV
 | []=>[]
 | x::r=>SV.sO d e x::SV.th d e r
end
def aM.sO (d e:Nat):aM->aM
 | .box cs=>.box (SV.th d e cs)
 | o=>o
def Av (d e:Nat):Tb SV->Tb SV
 | []=>[]
 | (n,x)::r=>(n,x.sO d e)::Av d e r
def uc (d e:Nat):Tb aM->Tb aM
 | []=>[]
 | (n,x)::r=>((if n=d then e else n),x.sO d e)::uc d e r
mutual
def SV.sub (d:Nat) (w:V):SV->SV
 | .own k=>if k=d then .v w else .own k
 | .clo f a b=>.clo f (SV.tg d w a) (SV.tg d w b)
 | .tup l=>.tup (SV.tg d w l)
 | .agg l=>.agg (SV.tg d w l)
 | x=>x
def SV.tg (d:Nat) (w:V):List SV->List SV
 | []=>[]
 | x::r=>SV.sub d w x::SV.tg d w r
end
def cG:List SV->Option (List V)
 | []=>some []
 | .v x::r=>(cG r).map (x::·)
 | _::_=>none
def Ml (f:FuncId) (a b:List SV):SV:=
 match cG a,cG b with
 | some x,some y=>.v (.clo f x y)
 | _,_=>.clo f a b
mutual
def SV.As (d:Nat) (cs:List V):SV->SV
 | .ptr k o=>if k=d then(if o<=cs.length then .v (.fptr (cs.drop o))else .ptr k o)else .ptr k o
 | .clo f a b=>Ml f (SV.pG d cs a) (SV.pG d cs b)
 | .tup l=>.tup (SV.pG d cs l)
 | .agg l=>.agg (SV.pG d cs l)
 | x=>x
def SV.pG (d:Nat) (cs:List V):List SV->List SV
 | []=>[]
 | x::r=>SV.As d cs x::SV.pG d cs r
end
def Aq (f:SV->SV):Tb SV->Tb SV
 | []=>[]
 | (n,x)::r=>(n,f x)::Aq f r
def mapM (f:List SV->List SV):Tb aM->Tb aM
 | []=>[]
 | (n,.box cs)::r=>(n,.box (f cs))::mapM f r
 | (n,o)::r=>(n,o)::mapM f r
mutual
def SV.names:SV->List Nat
 | .own d|.ptr d _|.el d _ _|.mp d=>[d]
 | .clo _ a b=>SV.uC a++SV.uC b
 | .tup l=>SV.uC l
 | .agg l=>SV.uC l
 | _=>[]
def SV.uC:List SV->List Nat
 | []=>[]
 | x::r=>SV.names x++SV.uC r
end
def oh:Tb SV->List Nat
 | []=>[]
 | (_,x)::r=>SV.names x++oh r
def mq (k:Fl) (es:Nat) (xs:List (List V)):V:=
 match k with
 | .nil=>.aR
 | .emp=>.ck
 | _=>.fsl es xs
mutual
def V.lvl:Nat->V->Bool
 | n,.fsl _ xs=>match n with|0=>false|n+1=>V.lP n xs
 | n,.fptr cs=>match n with|0=>false|n+1=>V.b8 n cs
 | n,.fmap kvs=>match n with|0=>false|n+1=>V.nC n kvs
 | n,.agg cs=>match n with|0=>false|n+1=>V.b8 n cs
 | n,.tup cs=>match n with|0=>false|n+1=>V.b8 n cs
 | n,.clo _ a b=>match n with|0=>false|n+1=>V.b8 n a&&V.b8 n b
 | _,_=>true
def V.b8:Nat->List V->Bool
 | _,[]=>true
 | n,x::r=>V.lvl n x&&V.b8 n r
def V.lP:Nat->List (List V)->Bool
 | _,[]=>true
 | n,x::r=>V.b8 n x&&V.lP n r
def V.nC:Nat->List (V×V)->Bool
 | _,[]=>true
 | n,(k,x)::r=>V.lvl n k&&V.lvl n x&&V.nC n r
end
mutual
def shut (m:Tb aM):Nat->SV->Option V
 | _,.v x=>some x
 | _,.own d=>match ai m d with
  | some (.sl k es xs)=>some (mq k es xs)
  | _=>none
 | n+1,.ptr d o=>match ai m d with
  | some (.box cs)=>match bN m n cs with
   | some xs=>if o<=xs.length then some (.fptr (xs.drop o))else none
   | none=>none
  | _=>none
 | _,.mp d=>match ai m d with
  | some (.mp kvs)=>some (.fmap kvs)
  | _=>none
 | n+1,.clo f a b=>match bN m n a,bN m n b with
  | some x,some y=>some (.clo f x y)
  | _,_=>none
 | n+1,.tup l=>(bN m n l).map .tup
 | n+1,.agg l=>(bN m n l).map .agg
 | _,_=>none
def bN (m:Tb aM):Nat->List SV->Option (List V)
 | _,[]=>some []
 | n,x::r=>match shut m n x,bN m n r with
  | some y,some s=>some (y::s)
  | _,_=>none
end
end Go.VE
namespace Go.VE
variable [aW]
mutual
def V.good:V->Bool
 | .hsl ..|.hptr ..|.yld ..|.hmap ..=>false
 | .fsl _ xs=>V.mP xs
 | .fptr cs=>V.bL cs
 | .fmap kvs=>V.qU kvs
 | .clo _ a b=>V.bL a&&V.bL b
 | .agg cs=>V.bL cs
 | .tup cs=>V.bL cs
 | _=>true
def V.bL:List V->Bool
 | []=>true
 | x::r=>V.good x&&V.bL r
def V.mP:List (List V)->Bool
 | []=>true
 | x::r=>V.bL x&&V.mP r
def V.qU:List (V×V)->Bool
 | []=>true
 | (k,x)::r=>V.good k&&V.good x&&V.qU r
end
abbrev gI:=Tb aM
abbrev br:=FuncId->List SV->gI->Option (List SV×gI)
def oT (N:Nat->FuncId) (g:Tb SV):Arg->Option SV
 | .s n=>ai g n
 | .k c=>some (.v c)
 | .f s=>some (.v (.clo (N s) [] []))
def a_ (N:Nat->FuncId) (g:Tb SV):List Arg->Option (List SV)
 | []=>some []
 | x::r=>match oT N g x,a_ N g r with
  | some v,some vs=>some (v::vs)
  | _,_=>none
def bM:Fl->Bool
 | .row|.part=>true
 | _=>false
def jN (m:Tb aM):SV->Bool
 | .own d|.ptr d _|.el d _ _|.mp d=>(ai m d).isSome
 | .clo ..=>true
 | _=>false
def vl (m:Tb aM):SV->Bool
 | .v x=>x.one
 | x=>jN m x
def vR (m:Tb aM):SV->Option (List SV)
 | .v x=>some (x.cells.map .v)
 | .agg l=>some l
 | x=>if jN m x then some [x]else none
def qQ (m:Tb aM) (cells:List SV):List (Nat×Nat)->List SV->Option (List SV)
 | [],[]=>some cells
 | (off,size)::pl,v::vs=>match vR m v with
  | some c=>if c.length=size/\off+c.length<=cells.length then qQ m (cells.take off++c++cells.drop (off+c.length)) pl vs else none
  | none=>none
 | _,_=>none
def tO (size:Nat) (agg:Bool) (cs:List SV):Option SV:=
 if cs.length=size then
  if agg then match cG cs with
   | some xs=>some (.v (.agg xs))
   | none=>some (.agg cs)
  else match cs with
   | [x]=>some x
   | _=>none
 else none
def vg (N:Nat->FuncId) (m:Tb aM):tC->List SV->Option SV
 | .id,[x]=>some x
 | .nilc,[.ptr d o]=>if(ai m d).isSome then some (.ptr d o)else none
 | .nilc,[.el d i o]=>if(ai m d).isSome then some (.el d i o)else none
 | .pick,[.v (.bool t),a,b]=>some (if t then a else b)
 | .bin (some .slice) _ .eql,[.own d,.v .aR]=>match ai m d with
  | some (.sl k _ _)=>if k=.emp then none else some (.v (.bool (k==.nil)))
  | _=>none
 | .bin (some .slice) _ .neq,[.own d,.v .aR]=>match ai m d with
  | some (.sl k _ _)=>if k=.emp then none else some (.v (.bool (!(k==.nil))))
  | _=>none
 | .fieldAddr off,[.ptr d o]=>if(ai m d).isSome then some (.ptr d (o+off))else none
 | .fieldAddr off,[.el d i o]=>if(ai m d).isSome then some (.el d i (o+off))else none
 | .idxS size,[.own d,.v (.int _ i)]=>match ai m d with
  | some (.sl k es xs)=>if bM k/\es=size/\0<=i/\i.toNat<xs.length then some (.el d i.toNat 0)else none
  | _=>none
 | .idxA len size,[.ptr d o,.v (.int _ i)]=>if 0<=i/\i<len/\(ai m d).isSome then some (.ptr d (o+i.toNat*size))else none
 | .idxA len size,[.el d j o,.v (.int _ i)]=>if 0<=i/\i<len/\(ai m d).isSome then some (.el d j (o+i.toNat*size))else none
 | .lenSl,[.own d]=>match ai m d with
  | some (.sl _ _ xs)=>some (.v (.int .i64 xs.length))
  | _=>none
 | .clo name k,vs=>some (.clo (N name) (vs.take k) (vs.drop k))
 | .ext i,[.tup l]=>l[i]?
 | .build zero pl,vs=>(qQ m (zero.map .v) pl vs).map .agg
 | .field off size agg,[.agg l]=>tO size agg ((l.drop off).take size)
 | _,_=>none
def iK (N:Nat->FuncId) (m:Tb aM) (p:tC) (svs:List SV):Option SV:=
 match cG svs with
 | some xs=>(aq N p xs).map .v
 | none=>vg N m p svs
def IB (m:Tb aM) (d:Nat):SV->Bool
 | .ptr d' _=>d' != d&&(match ai m d' with|some (.box _)=>true|_=>false)
 | .v (.fptr _)=>true
 | _=>false
def nK (m:Tb aM):GV->List SV->Option SV
 | .load size agg,[.ptr d o]=>match ai m d with
  | some (.box cs)=>tO size agg ((cs.drop o).take size)
  | _=>none
 | .load size agg,[.el d i o]=>match ai m d with
  | some (.sl _ _ xs)=>match xs[i]? with
   | some cs=>((cut cs o size).bind (mk agg)).map .v
   | none=>none
  | _=>none
 | .load size agg,[.v p]=>((cR [] p size).bind (mk agg)).map .v
 | .lookup kk z ok,[.mp d,.v k]=>match ai m d with
  | some (.mp kvs)=>if n9 kk k then match fT k kvs 0 with
   | some (some (_,v))=>some (.v (if ok then .tup [v,.bool true]else v))
   | some none=>some (.v (if ok then .tup [z,.bool false]else z))
   | none=>none
   else none
  | _=>none
 | .lookup kk z ok,[.v p,.v k]=>(dB [] (.lookup kk z ok) [p,k]).map .v
 | .loadF size agg,.ptr d o::l=>if l.all (IB m d)=true then match ai m d with
  | some (.box cs)=>tO size agg ((cs.drop o).take size)
  | _=>none
  else none
 | _,_=>none
def dN (fr:List Nat):List SV->Bool
 | []=>true
 | .v _::r=>dN fr r
 | .ptr d _::r => !(fr.contains d)&&dN fr r
 | .el d _ _::r => !(fr.contains d)&&dN fr r
 | .mp d::r => !(fr.contains d)&&dN fr r
 | _=>false
def nV (m:Tb aM) (a:Kw) (svs:List SV) (d:Nat):Option (aM×SV):=
 match a,svs with
 | .alloc _ zero,[]=>some (.box (zero.map .v),.ptr d 0)
 | .box,[.v x]=>if x.cells.all V.one then some (.box (x.cells.map .v),.ptr d 0)else none
 | .box,[.agg l]=>if l.all (vl m)then some (.box l,.ptr d 0)else none
 | .box,[x]=>if jN m x then some (.box [x],.ptr d 0)else none
 | .makeSl size zero,[.v (.int k n),.v (.int k' c)]=>
  if k=.i64/\k'=.i64/\0<=n/\n<=c/\c<=2147483648 then some (.sl (if n=c then .row else .part) size (List.replicate n.toNat zero),.own d)else none
 | .buildSl size len zero idx,vs=>match cG vs with
  | some xs=>if idx.length=xs.length then(e_ size (List.replicate len zero) (idx.zip xs)).map λys=>(.sl .row size ys,.own d)else none
  | none=>none
 | .makeMap,[]=>some (.mp [],.mp d)
 | _,_=>none
def jf (m:Tb aM) (size:Nat):SV->Option (List (List V))
 | .own d=>match ai m d with
  | some (.sl k es xs)=>if bM k then(if es=size then some xs else none)else some []
  | _=>none
 | .v .aR=>some []
 | .v .ck=>some []
 | .v (.fsl es xs)=>if es=size then some xs else none
 | _=>none
def AK:SV->Bool
 | .own _|.v .aR|.v .ck=>true
 | _=>false
def putCells (m:Tb aM) (size o:Nat) (sv:SV) (cs:List SV):Option (List SV):=
 match sv with
 | .v x=>if x.cells.length=size/\o+size<=cs.length/\x.cells.all V.one=true then some (cs.take o++x.cells.map .v++cs.drop (o+size))else none
 | .agg l=>if l.length=size/\o+size<=cs.length/\l.all (vl m)=true then some (cs.take o++l++cs.drop (o+size))else none
 | x=>if jN m x=true/\size=1/\o+1<=cs.length then some (cs.take o++[x]++cs.drop (o+1))else none
def giveUp (m:Tb aM):SV->Tb aM
 | .own d=>cV d m
 | _=>m
def iX (st:St) (dst:Option Nat):GQ->List SV->Option (SV×St)
 | .store size,[.ptr d o,x]=>match ai st.m d with
  | some (.box cs)=>(putCells st.m size o x cs).map λcs=>(.v .undef,{ st with m:=aU st.m d (.box cs) })
  | _=>none
 | .store size,[.el d i o,.v x]=>match ai st.m d with
  | some (.sl k es xs)=>match xs[i]? with
   | some cs=>if x.cells.length=size/\o+size<=cs.length/\x.cells.all V.one=true then
    some (.v .undef,{ st with m:=aU st.m d (.sl k es (xs.set i (cs.take o++x.cells++cs.drop (o+x.cells.length)))) })else none
   | none=>none
  | _=>none
 | .mapUp kk,[.mp d,.v k,.v x]=>match ai st.m d with
  | some (.mp kvs)=>if n9 kk k then(od k x kvs).map λkvs=>(.v .undef,{ st with m:=aU st.m d (.mp kvs) })else none
  | _=>none
 | .append size,[s,x]=>match jf st.m size s,jf st.m size x with
  | some _,some []=>match dst with
   | some t=>match s with
    | .own d=>match ai st.m d with
     | some ob=>if St.new { st with m:=cV d st.m } t then some (.own t,{ st with m:=aU (cV d st.m) t ob })else none
     | none=>none
    | .v .aR=>if st.new t then some (.own t,{ st with m:=aU st.m t (.sl .nil size []) })else none
    | .v .ck=>if st.new t then some (.own t,{ st with m:=aU st.m t (.sl .emp size []) })else none
    | _=>none
   | none=>none
  | some xs,some ys=>
   if xs.length+ys.length<=2147483648/\AK s=true then
    let m1:=giveUp st.m s
    match dst with
    | some t=>if St.new { st with m:=m1 } t then some (.own t,{ st with m:=aU m1 t (.sl .row size (xs++ys)) })else none
    | none=>none
   else none
  | _,_=>none
 | .storeF size,.ptr d o::x::l=>if l.all (IB st.m d)=true then match ai st.m d with
  | some (.box cs)=>(putCells st.m size o x cs).map λcs=>(.v .undef,{ st with m:=aU st.m d (.box cs) })
  | _=>none
  else none
 | _,_=>none
def yJ (st:St) (dst:Option Nat) (size:Nat) (lo hi:Bool) (d:Nat) (bs:List SV):Option (SV×St):=
 match ai st.m d,cG bs,dst with
 | some (.sl k es xs),some ys,some t=>
  if bM k=true/\es=size then
   (kM lo hi ys).bind λ(l,h)=>(cN xs.length l h).bind λ(l,h)=>
    let m1:=cV d st.m
    if St.new { st with m:=m1 } t then some (.own t,{ st with m:=aU m1 t (.sl .part es ((xs.take h).drop l)) })else none
  else none
 | _,_,_=>none
def DU:List SV->SV
 | [x]=>x
 | l=>.tup l
def jU (m:Tb aM):List SV->Option gI
 | []=>some []
 | .v _::r=>jU m r
 | .own d::r=>match jU m r,ai m d with
  | some os,some (.sl k es xs)=>some ((d,.sl k es xs)::os)
  | _,_=>none
 | .ptr d _::r=>match jU m r,ai m d with
  | some os,some (.box cs)=>if(cG cs).isSome then some ((d,.box cs)::os)else none
  | _,_=>none
 | _=>none
def wu:aM->Bool
 | .box cs=>(cG cs).isSome
 | _=>true
def rD (m':gI):List Nat->Tb aM->Option (Tb aM)
 | [],m=>some m
 | d::r,m=>match ai m' d with
  | some ob=>if wu ob then rD m' r (aU m d ob)else none
  | none=>none
def mI (xs:List (List V)):Bool:=xs.all λx=>x.all V.scalar
def FM (q:GC) (dst:Option Nat) (args:List SV) (st:St):Option (SV×St):=
 match args with
 | .own d::vs=>match ai st.m d,cG vs with
  | some (.sl k es xs),some ys=>match q.go es xs ys with
   | some zs=>if q.part then match dst with
    | some t=>if St.new { st with m:=cV d st.m } t then some (.own t,{ st with m:=aU (cV d st.m) t (if bM k then .sl .part es zs else .sl k es xs) })else none
    | none=>none
    else some (.v .undef,{ st with m:=aU st.m d (if bM k then .sl k es zs else .sl k es xs) })
   | none=>none
  | _,_=>none
 | _=>none
def rowsOf:List SV->Option (List Nat)
 | []=>some []
 | .v _::r=>rowsOf r
 | .own d::r=>(rowsOf r).map (d::·)
 | _=>none
def iI (S:Sys) (c:br) (dst:Option Nat) (dr now:Bool) (old:List SV->Bool) (f:FuncId) (args:List SV) (st:St):Option (SV×St):=
 if S.E.keep f then
  if now then
   if S.E.own f then
    match bN st.m 8 args with
    | some az=>if V.b8 8 az then
     match c f (az.map .v) []with
     | some (rs,m')=>match cG rs with
      | some ys=>if(result ys).scalar then some (.v (result ys),st)else none
      | none=>match rs,dst with
       | .own e::rest,some t=>match ai m' e,cG rest with
        | some (.sl .row es xs),some ys=>
         if V.bQ ys&&mI xs&&st.new t then
          some (DU (.own t::ys.map .v),{ st with m:=aU st.m t (.sl .row es xs) })
         else none
        | some (.sl .nil es _),some ys=>if V.bQ ys&&st.new t then some (DU (.own t::ys.map .v),{ st with m:=aU st.m t (.sl .nil es []) })else none
        | some (.sl .emp es _),some ys=>if V.bQ ys&&st.new t then some (DU (.own t::ys.map .v),{ st with m:=aU st.m t (.sl .emp es []) })else none
        | _,_=>none
       | _,_=>none
     | none=>none
     else none
    | none=>none
   else if dr then none else match S.prm f with
    | some q=>FM q dst args st
    | none=>match jU st.m args with
    | some os=>match c f args os with
     | some (rs,m')=>match cG rs,rD m' (os.map (·.1)) st.m with
      | some ys,some m2=>some (.v (result ys),{ st with m:=m2 })
      | _,_=>none
     | none=>none
    | none=>none
  else none
 else match bN st.m 8 args with
  | some az=>if V.b8 8 az&&(now||old args)then
   match c f (az.map .v) []with
   | some (rs,m')=>match bN m' 8 rs with
    | some ys=>if V.lvl 8 (result ys)&&((result ys).scalar||(cG args).isSome)then some (.v (result ys),st)
     else if V.lvl 8 (result ys)&&now then(rowsOf args).map λds=>(.v (result ys),{ st with m:=lN ds st.m })
     else none
    | none=>none
   | none=>none
   else none
  | none=>none
def gw (m:Tb aM) (fr:List Nat) (args:List SV):Bool:=fr.all λd => !(SV.cB d args) && !(qK d m)
def zx:K->Bool
 | .p (.build zero _)=>V.bL zero
 | .r (.lookup _ z _)=>z.good
 | .a (.alloc _ zero)=>V.bL zero&&zero.all V.one
 | .a (.makeSl _ zero)=>V.bL zero
 | .a (.buildSl _ _ zero _)=>V.bL zero
 | _=>true
def kL (S:Sys) (c:br) (dr:Bool) (fr:List Nat) (o:RO) (st:St):Option (SV×St):=
 match a_ S.N st.g o.az with
 | some svs=>match o.k with
  | .p (.slice size lo hi)=>match svs with
   | .own d::bs=>if dr then none else yJ st o.dst size lo hi d bs
   | svs=>(iK S.N st.m (.slice size lo hi) svs).map λx=>(x,st)
  | .p p=>(iK S.N st.m p svs).map λx=>(x,st)
  | .r r=>if !dr||o.now||dN fr svs then(nK st.m r svs).map λx=>(x,st)else none
  | .a a=>match o.dst with
   | some d=>if st.new d then(nV st.m a svs d).map λ(ob,x)=>(x,{ st with m:=aU st.m d ob })else none
   | none=>none
  | .l l=>if !dr||o.now then iX st o.dst l svs else none
  | .c=>match svs with
   | .clo f a b::vs=>iI S c o.dst dr (!dr||o.now) (gw st.m fr) f (a++vs++b) st
   | .v (.clo f a b)::vs=>iI S c o.dst dr (!dr||o.now) (gw st.m fr) f (a.map .v++vs++b.map .v) st
   | _=>none
  | .e n=>match svs with
   | [.v .aR,x]=>iX st o.dst (.append n) [.v .aR,x]
   | [.v .ck,x]=>iX st o.dst (.append n) [.v .ck,x]
   | _=>none
 | none=>none
def b7 (st:St) (dst:Option Nat) (x:SV):St:=
 match dst with
 | none=>st
 | some d=>{ st with g:=aU st.g d x }
def wanted (g:Tb SV):Option (Nat×Bool)->Option Bool
 | none=>some true
 | some (s,b)=>match ai g s with
  | some (.v (.bool c))=>some (c==b)
  | some (.v _)=>some false
  | _=>none
def wT (o:RO):Option Nat:=
 match o.k with
 | .p _|.r _=>none
 | _=>o.dst
def o6 (fr:List Nat) (o:RO):List Nat:=
 match wT o with
 | some d=>d::fr
 | none=>fr
end Go.VE
namespace Go.VE
variable [aW]
def au (H:ak) (id:Nat):Option (Nat×List (List V)):=(H[id]?).bind Ob.rows
mutual
theorem V.kn:∀{x:V},x.good=true->x.closed=true
 | .hsl ..,h|.hptr ..,h|.yld _,h|.hmap _,h=>by simp[V.good]at h
 | .fsl ..,_|.fptr ..,_|.fmap ..,_=>rfl
 | .bool _,_|.int ..,_|.str _,_|.ck,_|.aR,_|.fI,_|.eX,_|.ql,_=>rfl
 | .clo _ a b,h=>by
  simp only[V.good,ζh]at h;simp only[V.closed,ζh];exact⟨V.mg h.1,V.mg h.2⟩
 | .agg cs,h=>by simp only[V.good]at h;simp only[V.closed];exact V.mg h
 | .tup cs,h=>by simp only[V.good]at h;simp only[V.closed];exact V.mg h
theorem V.mg:∀{l:List V},V.bL l=true->V.jP l=true
 | [],_=>rfl
 | x::r,h=>by
  simp only[V.bL,ζh]at h;simp only[V.jP,ζh];exact⟨V.kn h.1,V.mg h.2⟩
end
theorem iG:∀{l:List V},V.bL l=true↔∀(j:Nat) u,l[j]? = some u->u.good=true
 | []=>by simp[V.bL]
 | x::l=>by
  simp[V.bL,iG ];constructor
  .grind
  .intro h;exact⟨h 0 x rfl,λj u hu=>h (j+1) u (by grind)⟩
theorem jX:∀{l:List (List V)},V.mP l=true↔∀(j:Nat) u,l[j]? = some u->V.bL u=true
 | []=>by simp[V.mP]
 | x::l=>by
  simp[V.mP,jX ];constructor
  .grind
  .intro h;exact⟨h 0 x rfl,λj u hu=>h (j+1) u (by grind)⟩
theorem C1:∀{l:List (V×V)},V.qU l=true↔∀(j:Nat) u,l[j]? = some u->u.1.good=true/\u.2.good=true
 | []=>by simp[V.qU]
 | (k,x)::l=>by
  simp only[V.qU,ζh,C1 ];constructor
  .grind
  .intro h;exact⟨h 0 (k,x) rfl,λj u hu=>h (j+1) u (by grind)⟩
theorem w_ {l:List V} (n:Nat) (h:V.bL l=true):V.bL (l.drop n)=true:=
 iG.2 λj u hu=>iG.1 h (n+j) u (by grind)
inductive FR (H:ak) (Z:Nat->Prop):V->V->Prop
 | same (x:V) (h:x.good=true):FR H Z x x
 | fsl (es:Nat) (xs:List (List V)) (id off:Nat) (ys:List (List V)) (hz:Z id) (hr:au H id=some (es,ys)) (hl:off+xs.length<=ys.length)
  (hc:∀(i:Nat) a b,xs[i]? = some a->ys[off+i]? = some b->a.length=b.length)
  (hv:∀(i j:Nat) a b u v,xs[i]? = some a->ys[off+i]? = some b->a[j]? = some u->b[j]? = some v->FR H Z u v):FR H Z (.fsl es xs) (.hsl id es off xs.length)
 | fptr (xs:List V) (id el off es:Nat) (ys:List (List V)) (cs:List V) (hz:Z id) (hr:au H id=some (es,ys)) (he:ys[el]? = some cs) (ho:off<=cs.length) (hx:xs.length=cs.length-off)
  (hv:∀(j:Nat) u v,xs[j]? = some u->cs[off+j]? = some v->FR H Z u v):FR H Z (.fptr xs) (.hptr id el off)
 | clo (f:FuncId) (a b a' b':List V) (ha:a.length=a'.length) (hb:b.length=b'.length) (hva:∀(j:Nat) u v,a[j]? = some u->a'[j]? = some v->FR H Z u v) (hvb:∀(j:Nat) u v,b[j]? = some u->b'[j]? = some v->FR H Z u v):FR H Z (.clo f a b) (.clo f a' b')
 | agg (a a':List V) (ha:a.length=a'.length) (hva:∀(j:Nat) u v,a[j]? = some u->a'[j]? = some v->FR H Z u v):FR H Z (.agg a) (.agg a')
 | tup (a a':List V) (ha:a.length=a'.length) (hva:∀(j:Nat) u v,a[j]? = some u->a'[j]? = some v->FR H Z u v):FR H Z (.tup a) (.tup a')
def cr (H:ak) (Z:Nat->Prop) (xs ys:List V):Prop:=xs.length=ys.length/\∀(j:Nat) u v,xs[j]? = some u->ys[j]? = some v->FR H Z u v
def fc (H:ak) (Z:Nat->Prop) (xs ys:List (List V)):Prop:=xs.length=ys.length/\∀(j:Nat) u v,xs[j]? = some u->ys[j]? = some v->cr H Z u v
section
variable {H H':ak} {Z Z':Nat->Prop}
theorem FR.mono (h:∀id,Z id->Z' id/\au H' id=au H id) {x y:V} (r:FR H Z x y):FR H' Z' x y:=by
 induction r with
 | same x h=>exact .same x h
 | fsl es xs id off ys hz hr hl hc hv ih=>exact .fsl es xs id off ys (h id hz).1 (by grind) hl hc ih
 | fptr xs id el off es ys cs hz hr he ho hx hv ih=>exact .fptr xs id el off es ys cs (h id hz).1 (by grind) he ho hx ih
 | clo f a b a' b' ha hb hva hvb iha ihb=>exact .clo f a b a' b' ha hb iha ihb
 | agg a a' ha hva iha=>exact .agg a a' ha iha
 | tup a a' ha hva iha=>exact .tup a a' ha iha
theorem cr.mono (h:∀id,Z id->Z' id/\au H' id=au H id) {x y:List V} (r:cr H Z x y):cr H' Z' x y:=⟨r.1,λj u v a b=>(r.2 j u v a b).mono h⟩
theorem fc.mono (h:∀id,Z id->Z' id/\au H' id=au H id) {x y:List (List V)} (r:fc H Z x y):fc H' Z' x y:=⟨r.1,λj u v a b=>(r.2 j u v a b).mono h⟩
theorem cr.nil:cr H Z [] []:=⟨rfl,by simp⟩
theorem cr.cons {x y:V} {xs ys:List V} (h:FR H Z x y) (r:cr H Z xs ys):cr H Z (x::xs) (y::ys):=by
 refine⟨by simp[r.1],λj u v hu hv=>?_⟩
 cases j with
 | zero=>grind
 | succ j=>exact r.2 j u v (by grind) (by grind)
theorem cr.inv {x:V} {xs ws:List V} (r:cr H Z (x::xs) ws):∃y ys,ws=y::ys/\FR H Z x y/\cr H Z xs ys:=by
 cases ws with
 | nil=>have:=r.1;grind
 | cons y ys=>
  refine⟨y,ys,rfl,r.2 0 x y rfl rfl,by have:=r.1;grind,λj u v hu hv=>r.2 (j+1) u v (by grind) (by grind)⟩
theorem cr.bZ {ws:List V} (r:cr H Z [] ws):ws=[]:=by
 have:=r.1
 grind
theorem cr.get {xs ys:List V} (r:cr H Z xs ys) {j:Nat} {u:V} (h:xs[j]? = some u):∃v,ys[j]? = some v/\FR H Z u v:=by
 have hj  := (ζe.1 h).1;have:j<ys.length:=by rw[<-r.1];omega
 exact⟨ys[j],ζd this,r.2 j u _ h (ζd this)⟩
theorem fc.get {xs ys:List (List V)} (r:fc H Z xs ys) {j:Nat} {u:List V} (h:xs[j]? = some u):∃v,ys[j]? = some v/\cr H Z u v:=by
 have hj  := (ζe.1 h).1;have:j<ys.length:=by rw[<-r.1];omega
 exact⟨ys[j],ζd this,r.2 j u _ h (ζd this)⟩
theorem cr.append {a b c d:List V} (h:cr H Z a b) (k:cr H Z c d):cr H Z (a++c) (b++d):=by
 refine⟨by simp[h.1,k.1],λj u v hu hv=>?_⟩
 by_cases hj:j<a.length
 .rw[List.getElem?_append_left hj]at hu;rw[List.getElem?_append_left (by rw[<-h.1];omega)]at hv
  exact h.2 j u v hu hv
 .rw[List.getElem?_append_right (by omega)]at hu
  rw[List.getElem?_append_right (by rw[<-h.1];omega),<-h.1]at hv
  exact k.2 _ u v hu hv
theorem fc.append {a b c d:List (List V)} (h:fc H Z a b) (k:fc H Z c d):fc H Z (a++c) (b++d):=by
 refine⟨by simp[h.1,k.1],λj u v hu hv=>?_⟩
 by_cases hj:j<a.length
 .rw[List.getElem?_append_left hj]at hu;rw[List.getElem?_append_left (by rw[<-h.1];omega)]at hv
  exact h.2 j u v hu hv
 .rw[List.getElem?_append_right (by omega)]at hu
  rw[List.getElem?_append_right (by rw[<-h.1];omega),<-h.1]at hv
  exact k.2 _ u v hu hv
theorem cr.take {a b:List V} (h:cr H Z a b) (n:Nat):cr H Z (a.take n) (b.take n):=by
 refine⟨by simp[h.1],λj u v hu hv=>?_⟩
 rw[List.getElem?_take]at hu hv;split at hu
 .rename_i hj;rw[if_pos hj]at hv;exact h.2 j u v hu hv
 grind
theorem cr.drop {a b:List V} (h:cr H Z a b) (n:Nat):cr H Z (a.drop n) (b.drop n):=by
 refine⟨by simp[h.1],λj u v hu hv=>?_⟩
 rw[List.getElem?_drop]at hu hv;exact h.2 _ u v hu hv
theorem fc.take {a b:List (List V)} (h:fc H Z a b) (n:Nat):fc H Z (a.take n) (b.take n):=by
 refine⟨by simp[h.1],λj u v hu hv=>?_⟩
 rw[List.getElem?_take]at hu hv;split at hu
 .rename_i hj;rw[if_pos hj]at hv;exact h.2 j u v hu hv
 grind
theorem fc.drop {a b:List (List V)} (h:fc H Z a b) (n:Nat):fc H Z (a.drop n) (b.drop n):=by
 refine⟨by simp[h.1],λj u v hu hv=>?_⟩
 rw[List.getElem?_drop]at hu hv;exact h.2 _ u v hu hv
theorem cr.set {a b:List V} (h:cr H Z a b) (n:Nat) {x y:V} (hx:FR H Z x y):cr H Z (a.set n x) (b.set n y):=by
 refine⟨by simp[h.1],λj u v hu hv=>?_⟩
 rw[List.getElem?_set]at hu hv;split at hu
 .grind
 .rename_i e;rw[if_neg e]at hv;exact h.2 j u v hu hv
theorem fc.set {a b:List (List V)} (h:fc H Z a b) (n:Nat) {x y:List V} (hx:cr H Z x y):fc H Z (a.set n x) (b.set n y):=by
 refine⟨by simp[h.1],λj u v hu hv=>?_⟩
 rw[List.getElem?_set]at hu hv;split at hu
 .grind
 .rename_i e;rw[if_neg e]at hv;exact h.2 j u v hu hv
theorem cr.same {l:List V} (h:V.bL l=true):cr H Z l l:=
 ⟨rfl,λj u v hu hv=>by rw[hu]at hv;cases hv;exact .same u (iG.1 h j u hu)⟩
theorem FR.good {x y:V} (r:FR H Z x y):x.good=true:=by
 induction r with
 | same x h=>omega
 | fsl es xs id off ys hz hr hl hc hv ih=>
  refine jX.2 λi a ha=>iG.2 λj u hu=>?_
  grind
 | fptr xs id el off es ys cs hz hr he ho hx hv ih=>
  refine iG.2 λj u hu=>?_
  grind
 | clo f a b a' b' ha hb hva hvb iha ihb=>
  simp[V.good];refine⟨iG.2 λj u hu=>?_,iG.2 λj u hu=>?_⟩
  .grind
  grind
 | agg a a' ha hva iha=>
  refine iG.2 λj u hu=>?_
  grind
 | tup a a' ha hva iha=>
  simp[V.good];refine iG.2 λj u hu=>?_
  grind
theorem FR.closed {x y:V} (r:FR H Z x y):x.closed=true:=V.kn r.good
theorem cr.good {xs ys:List V} (r:cr H Z xs ys):V.bL xs=true:=
 iG.2 λj u hu=>by obtain⟨v,_,h⟩:=r.get hu;exact h.good
theorem fc.good {xs ys:List (List V)} (r:fc H Z xs ys):V.mP xs=true:=
 jX.2 λj u hu=>by obtain⟨v,_,h⟩:=r.get hu;exact h.good
theorem FR.bool {b:Bool} {y:V} (r:FR H Z (.bool b) y):y=.bool b:=by cases r;rfl
theorem FR.int {k:IntKind} {n:Int} {y:V} (r:FR H Z (.int k n) y):y=.int k n:=by cases r;rfl
theorem FR.str {s:ByteArray} {y:V} (r:FR H Z (.str s) y):y=.str s:=by cases r;rfl
theorem FR.ck {y:V} (r:FR H Z .ck y):y=.ck:=by cases r;rfl
theorem FR.aR {y:V} (r:FR H Z .aR y):y=.aR:=by cases r;rfl
theorem FR.fI {y:V} (r:FR H Z .fI y):y=.fI:=by cases r;rfl
theorem FR.eX {y:V} (r:FR H Z .eX y):y=.eX:=by cases r;rfl
theorem FR.ql {y:V} (r:FR H Z .ql y):y=.ql:=by cases r;rfl
theorem FR.fmap {kvs:List (V×V)} {y:V} (r:FR H Z (.fmap kvs) y):y=.fmap kvs:=by cases r;rfl
theorem FR.gq {a:List V} {y:V} (r:FR H Z (.agg a) y):∃a',y=.agg a'/\cr H Z a a':=by
 cases r with
 | same _ h=>exact⟨a,rfl,.same (by simpa [V.good]using h)⟩
 | agg _ a' ha hva=>exact⟨a',rfl,ha,hva⟩
theorem FR.oP {a:List V} {y:V} (r:FR H Z (.tup a) y):∃a',y=.tup a'/\cr H Z a a':=by
 cases r with
 | same _ h=>exact⟨a,rfl,.same (by simpa [V.good]using h)⟩
 | tup _ a' ha hva=>exact⟨a',rfl,ha,hva⟩
theorem FR.jL {f:FuncId} {a b:List V} {y:V} (r:FR H Z (.clo f a b) y):∃a' b',y=.clo f a' b'/\cr H Z a a'/\cr H Z b b':=by
 cases r with
 | same _ h=>
  simp[V.good]at h;exact⟨a,b,rfl,.same h.1,.same h.2⟩
 | clo _ _ _ a' b' ha hb hva hvb=>exact⟨a',b',rfl,⟨ha,hva⟩,⟨hb,hvb⟩⟩
theorem FR.kB {es:Nat} {xs:List (List V)} {y:V} (r:FR H Z (.fsl es xs) y):y=.fsl es xs \/
 ∃id off ys,y=.hsl id es off xs.length/\Z id/\au H id=some (es,ys)/\off+xs.length<=ys.length/\fc H Z xs ((ys.drop off).take xs.length):=by
 cases r with
 | same _ h=>grind
 | fsl _ _ id off ys hz hr hl hc hv=>
  refine .inr ⟨id,off,ys,rfl,hz,hr,hl,by simp;omega,λj u v hu hv'=>?_⟩
  have hj  := (ζe.1 hu).1;rw[List.getElem?_take,if_pos hj,List.getElem?_drop]at hv';exact⟨hc j u v hu hv',λi s t hs ht=>hv j i u v s t hu hv' hs ht⟩
theorem FR.HW {es:Nat} {xs:List (List V)} {id off:Nat} {ys:List (List V)} (hz:Z id) (hr:au H id=some (es,ys)) (hl:off+xs.length<=ys.length) (h:fc H Z xs ((ys.drop off).take xs.length)) :
 FR H Z (.fsl es xs) (.hsl id es off xs.length):=by
 have key:∀(i:Nat) a b,xs[i]? = some a->ys[off+i]? = some b->cr H Z a b:=λi a b ha hb=>by
  refine h.2 i a b ha ?_
  grind
 exact .fsl es xs id off ys hz hr hl (λi a b ha hb=>(key i a b ha hb).1) (λi j a b u v ha hb hu hv=>(key i a b ha hb).2 j u v hu hv)
theorem FR.kG {xs:List V} {y:V} (r:FR H Z (.fptr xs) y):y=.fptr xs \/
 ∃id el off es ys cs,y=.hptr id el off/\Z id/\au H id=some (es,ys)/\ys[el]? = some cs/\off<=cs.length/\cr H Z xs (cs.drop off):=by
 cases r with
 | same _ h=>grind
 | fptr _ id el off es ys cs hz hr he ho hx hv=>
  refine .inr ⟨id,el,off,es,ys,cs,rfl,hz,hr,he,ho,by simp_all,λj u v hu hv'=>?_⟩
  grind
theorem FR.BD {xs:List V} {id el off es:Nat} {ys:List (List V)} {cs:List V} (hz:Z id) (hr:au H id=some (es,ys)) (he:ys[el]? = some cs) (ho:off<=cs.length) (h:cr H Z xs (cs.drop off)):FR H Z (.fptr xs) (.hptr id el off):=
 .fptr xs id el off es ys cs hz hr he ho (by have:=h.1;grind) (λj u v hu hv=>h.2 j u v hu (by grind))
theorem FR.cells {x y:V} (r:FR H Z x y):cr H Z x.cells y.cells:=by
 have one:∀{a b:V},FR H Z a b->cr H Z [a] [b]:=λh=>.cons h .nil
 cases r with
 | same _ h=>cases x <;> first|exact one (.same _ h)|(exact cr.same h)
 | fsl es xs id off ys hz hr hl hc hv=>exact one (.fsl es xs id off ys hz hr hl hc hv)
 | fptr xs id el off es ys cs hz hr he ho hx hv=>exact one (.fptr xs id el off es ys cs hz hr he ho hx hv)
 | clo f a b a' b' ha hb hva hvb=>exact one (.clo f a b a' b' ha hb hva hvb)
 | agg a a' ha hva=>exact⟨ha,hva⟩
 | tup a a' ha hva=>exact one (.tup a a' ha hva)
theorem FR.one {x y:V} (r:FR H Z x y):y.one=x.one:=by cases r <;> rfl
theorem cr.one:∀{xs ys:List V},cr H Z xs ys->ys.all V.one=xs.all V.one
 | [],ys,r=>by rw[r.bZ]
 | x::xs,ws,r=>by
  obtain⟨y,ys,rfl,h,r'⟩:=r.inv;simp[h.one,r'.one]
theorem pe:∀{l:List V},V.bQ l=true↔∀(j:Nat) u,l[j]? = some u->u.scalar=true
 | []=>by simp[V.bQ]
 | x::l=>by
  simp[V.bQ,pe ];constructor
  .grind
  .intro h;exact⟨h 0 x rfl,λj u hu=>h (j+1) u (by grind)⟩
theorem FR.scalar {x y:V} (r:FR H Z x y):(x.scalar=true->y=x)/\y.scalar=x.scalar:=by
 have key:∀(a a':List V),a.length=a'.length->(∀(j:Nat) u v,a[j]? = some u->a'[j]? = some v->(u.scalar=true->v=u)/\v.scalar=u.scalar)->(V.bQ a=true->a'=a)/\V.bQ a'=V.bQ a:=by
  intro a a' ha ih;have h1:V.bQ a=true->a'=a:=by
   intro hs;refine(List.ext_getElem ha λj h1 h2=>?_).symm
   exact(((ih j _ _ (ζd h1) (ζd h2)).1 (pe.1 hs j _ (ζd h1)))).symm
  refine⟨h1,?_⟩
  cases hs:V.bQ a with
  | true=>grind
  | false=>
   cases hs':V.bQ a' with
   | false=>rfl
   | true=>
    have:V.bQ a=true:=pe.2 λj u hu=>by
     have hj:j<a'.length:=by grind
     have:=(ih j u _ hu (ζd hj)).2;rw[<-this];exact pe.1 hs' j _ (ζd hj)
    grind
 induction r with
 | same x h=>grind
 | fsl=>exact⟨λh=>by simp[V.scalar]at h,rfl⟩
 | fptr=>exact⟨λh=>by simp[V.scalar]at h,rfl⟩
 | clo=>exact⟨λh=>by simp[V.scalar]at h,rfl⟩
 | agg a a' ha hva iha=>
  obtain⟨h1,h2⟩:=key a a' ha iha;exact⟨λh=>by rw[h1 (by simpa [V.scalar]using h)],by simpa [V.scalar]using h2⟩
 | tup a a' ha hva iha=>
  obtain⟨h1,h2⟩:=key a a' ha iha;exact⟨λh=>by rw[h1 (by simpa [V.scalar]using h)],by simpa [V.scalar]using h2⟩
theorem cr.scalar {a a':List V} (r:cr H Z a a'):(V.bQ a=true->a'=a)/\V.bQ a'=V.bQ a:=by
 obtain⟨h1,h2⟩:=FR.scalar (.tup a a' r.1 r.2);simp[V.scalar]at h1 h2
 grind
theorem pz:∀{l:List V} {a:List Int},gj l=some a->V.bQ l=true
 | [],_,_=>rfl
 | x::l,a,h=>by
  unfold gj at h;split at h
  .grind
  .rename_i n r e;cases e;obtain⟨b,hb,_⟩:=ζf.1 h;simp[V.bQ,V.scalar];exact pz hb
  grind
end
end Go.VE
namespace Go.VE
variable [aW]
mutual
theorem lq:∀{x:V},x.scalar=true->x.good=true
 | .bool _,_|.int ..,_|.str _,_|.fI,_|.eX,_|.ql,_|.ck,_|.aR,_=>rfl
 | .agg cs,h=>by simp only[V.scalar]at h;simp only[V.good];exact oc h
 | .tup cs,h=>by simp only[V.scalar]at h;simp only[V.good];exact oc h
 | .fsl ..,h|.hsl ..,h|.fptr ..,h|.hptr ..,h|.clo ..,h|.yld _,h|.fmap _,h|.hmap _,h=>by simp[V.scalar]at h
theorem oc:∀{l:List V},V.bQ l=true->V.bL l=true
 | [],_=>rfl
 | x::r,h=>by
  simp only[V.bQ,ζh]at h;simp only[V.bL,ζh];exact⟨lq h.1,oc h.2⟩
end
section
variable {H H':ak} {Z Z':Nat->Prop}
theorem jQ {f:V->Option V}:∀{xs ys:List V},xs.length=ys.length->(∀(j:Nat) u v,xs[j]? = some u->ys[j]? = some v->f v=some u)->jS f ys=some xs
 | [],[],_,_=>rfl
 | [],y::ys,h,_=>by simp_all
 | x::xs,[],h,_=>by simp_all
 | x::xs,y::ys,h,hf=>by
  simp[jS,hf 0 x y rfl rfl,jQ (xs:=xs) (ys:=ys) (by grind) λj u v hu hv=>hf (j+1) u v (by grind) (by grind)]
theorem EZ {f:V->Option V}:∀{xs ys:List (List V)},xs.length=ys.length->(∀(j:Nat) u v,xs[j]? = some u->ys[j]? = some v->jS f v=some u)->sN f ys=some xs
 | [],[],_,_=>rfl
 | [],y::ys,h,_=>by simp_all
 | x::xs,[],h,_=>by simp_all
 | x::xs,y::ys,h,hf=>by
  simp[sN,hf 0 x y rfl rfl,EZ (xs:=xs) (ys:=ys) (by grind) λj u v hu hv=>hf (j+1) u v (by grind) (by grind)]
theorem nk:∀{l:List V},V.jP l=true↔∀(j:Nat) u,l[j]? = some u->u.closed=true
 | []=>by simp[V.jP]
 | x::l=>by
  simp[V.jP,nk ];constructor
  .grind
  .intro h;exact⟨h 0 x rfl,λj u hu=>h (j+1) u (by grind)⟩
theorem mN:∀{l:List V} {n:Nat},V.b8 n l=true↔∀(j:Nat) u,l[j]? = some u->u.lvl n=true
 | [],n=>by simp[V.b8]
 | x::l,n=>by
  simp[V.b8,mN ];constructor
  .grind
  .intro h;exact⟨h 0 x rfl,λj u hu=>h (j+1) u (by grind)⟩
theorem CB:∀{l:List (List V)} {n:Nat},V.lP n l=true↔∀(j:Nat) u,l[j]? = some u->V.b8 n u=true
 | [],n=>by simp[V.lP]
 | x::l,n=>by
  simp[V.lP,CB ];constructor
  .grind
  .intro h;exact⟨h 0 x rfl,λj u hu=>h (j+1) u (by grind)⟩
theorem c6 (n:Nat) (H:ak) {x:V} (h:x.closed=true):borrow n H x=some x:=by
 cases n <;> simp[borrow,h]
theorem FR.borrow {x y:V} (r:FR H Z x y):∀n,x.lvl n=true->borrow n H y=some x:=by
 induction r with
 | same x h=>exact λn _=>c6 n H (V.kn h)
 | fsl es xs id off ys hz hr hl hc hv ih=>
  intro n hn
  cases n with
  | zero=>simp[V.lvl]at hn
  | succ n=>
   unfold Go.VE.borrow;unfold au at hr;simp only[V.closed,Bool.false_eq_true,if_false,hr,true_and,if_pos hl,ζf];refine⟨xs,EZ (by simp;omega) λj u v hu hv'=>?_,rfl⟩
   have hj  := (ζe.1 hu).1;rw[List.getElem?_take,if_pos hj,List.getElem?_drop]at hv';refine jQ (hc j u v hu hv') λi s t hs ht=>ih j i u v s t hu hv' hs ht n (mN.1 (CB.1 hn j u hu) i s hs)
 | fptr xs id el off es ys cs hz hr he ho hx hv ih=>
  intro n hn
  cases n with
  | zero=>simp[V.lvl]at hn
  | succ n=>
   unfold Go.VE.borrow;unfold au at hr;simp only[V.closed,Bool.false_eq_true,if_false,hr,he,if_pos ho,ζf];refine⟨xs,jQ (by simp_all) λj u v hu hv'=>?_,rfl⟩
   rw[List.getElem?_drop]at hv';exact ih j u v hu hv' n (mN.1 hn j u hu)
 | clo f a b a' b' ha hb hva hvb iha ihb=>
  intro n hn
  cases n with
  | zero=>simp[V.lvl]at hn
  | succ n=>
   simp[V.lvl]at hn
   by_cases hcl:(V.clo f a' b').closed=true
   .rw[c6 _ _ hcl];simp[V.closed]at hcl;have e1:a'=a:=by
     have:=jQ  ha λj u v hu hv=>iha j u v hu hv n (mN.1 hn.1 j u hu)
     have h2:=jQ    rfl λj u v hu hv=>by rw[hu]at hv;cases hv;exact c6 n H (nk.1 hcl.1 j u hu)
     grind
    have e2:b'=b:=by
     have:=jQ  hb λj u v hu hv=>ihb j u v hu hv n (mN.1 hn.2 j u hu)
     have h2:=jQ    rfl λj u v hu hv=>by rw[hu]at hv;cases hv;exact c6 n H (nk.1 hcl.2 j u hu)
     grind
    simp_all
   .unfold Go.VE.borrow;rw[if_neg hcl];simp[jQ  ha λj u v hu hv=>iha j u v hu hv n (mN.1 hn.1 j u hu),jQ  hb λj u v hu hv=>ihb j u v hu hv n (mN.1 hn.2 j u hu)]
 | agg a a' ha hva iha=>
  intro n hn
  cases n with
  | zero=>simp[V.lvl]at hn
  | succ n=>
   have hm:=jQ  ha λj u v hu hv=>iha j u v hu hv n (mN.1 hn j u hu)
   by_cases hcl:(V.agg a').closed=true
   .rw[c6 _ _ hcl];have h2:=jQ    rfl λj u v hu hv=>by rw[hu]at hv;cases hv;exact c6 n H (nk.1 hcl j u hu)
    grind
   .unfold Go.VE.borrow
    grind
 | tup a a' ha hva iha=>
  intro n hn
  cases n with
  | zero=>simp[V.lvl]at hn
  | succ n=>
   have hm:=jQ  ha λj u v hu hv=>iha j u v hu hv n (mN.1 hn j u hu)
   by_cases hcl:(V.tup a').closed=true
   .rw[c6 _ _ hcl];have h2:=jQ    rfl λj u v hu hv=>by rw[hu]at hv;cases hv;exact c6 n H (nk.1 hcl j u hu)
    grind
   .unfold Go.VE.borrow
    grind
theorem nY {f:V->List Nat} {k:Nat}:∀{l:List V},k∈cq f l->∃(j:Nat) (u:V),l[j]? = some u/\k∈f u
 | [],h=>by simp[cq]at h
 | x::l,h=>by
  simp[cq]at h;rcases h with h|h
  .exact⟨0,x,rfl,h⟩
  .obtain⟨j,u,hu,hk⟩:=nY h;exact⟨j+1,u,by grind,hk⟩
structure Deep (H:ak) (Z:Nat->Prop):Prop where
 row:∀id es ys,Z id->au H id=some (es,ys)->∀c∈ys,∀u∈c,∃x,FR H Z x u
theorem FR.bz (hd:Deep H Z):∀(n:Nat) {x y:V},FR H Z x y->∀k∈bz n H y,Z k
 | 0,x,y,r,k,hk=>by simp[Go.VE.bz]at hk
 | n+1,x,y,r,k,hk=>by
  unfold Go.VE.bz at hk;split at hk
  .simp_all
  .rename_i hcl;have pt:∀(a a':List V),cr H Z a a'->k∈cq (Go.VE.bz n H) a'->Z k:=λa a' h hk=>by
    obtain⟨j,u,hu,hku⟩:=nY hk;have hj:j<a.length:=by rw[h.1];grind
    exact FR.bz hd n (h.2 j _ u (ζd hj) hu) k hku
   have row:∀(id:Nat),Z id->k∈(match (H[id]?).bind Ob.rows with|some (_,xs)=>cq (Go.VE.bz n H) xs.flatten|none=>[])->Z k:=λid hz hk=>by
    split at hk
    .rename_i es ys hr;obtain⟨j,u,hu,hku⟩:=nY hk;have hm  := List.mem_of_getElem? hu;obtain⟨c,hc,huc⟩:=List.mem_flatten.1 hm;obtain⟨x,hx⟩:=hd.row id es ys hz hr c hc u huc;exact FR.bz hd n hx k hku
    grind
   cases r with
   | same _ h=>exact absurd (V.kn h) hcl
   | fsl es xs id off ys hz hr hl hc hv=>
    grind
   | fptr xs id el off es ys cs hz hr he ho hx hv=>
    grind
   | clo f a b a' b' ha hb hva hvb=>
    simp  at hk;rcases hk with hk|hk
    .exact pt a a' ⟨ha,hva⟩ hk
    .exact pt b b' ⟨hb,hvb⟩ hk
   | agg a a' ha hva=>exact pt a a' ⟨ha,hva⟩ hk
   | tup a a' ha hva=>exact pt a a' ⟨ha,hva⟩ hk
theorem cr.cut {cs ys r:List V} {off n:Nat} (h:cr H Z cs ys) (hc:cut cs off n=some r):∃r',Go.VE.cut ys off n=some r'/\cr H Z r r':=by
 unfold Go.VE.cut at hc ⊢;have h2:=(h.drop off).take n;dsimp only at hc ⊢;split at hc
 .simp  at hc;subst hc;exact⟨_,by rw[if_pos (by rw[<-h2.1];omega)],h2⟩
 grind
theorem cr.mk {agg:Bool} {cs ys:List V} {x:V} (h:cr H Z cs ys) (hm:mk agg cs=some x):∃y,Go.VE.mk agg ys=some y/\FR H Z x y:=by
 unfold Go.VE.mk at hm ⊢;split at hm
 .simp  at hm;subst hm;exact⟨_,by grind,.agg _ _ h.1 h.2⟩
 .split at hm
  .simp  at hm;obtain⟨y,ys,rfl,h1,h2⟩:=h.inv;rw[h2.bZ]
   grind
  grind
theorem cr.fill:∀{pl:List (Nat×Nat)} {vs ws cells cells' r:List V},cr H Z cells cells'->cr H Z vs ws->jt cells pl vs=some r->∃r',jt cells' pl ws=some r'/\cr H Z r r'
 | [],vs,ws,cells,cells',r,hc,hv,h=>by
  cases vs with
  | nil=>rw[hv.bZ];simp[jt]at h ⊢;grind
  | cons v vs=>simp[jt]at h
 | (off,size)::pl,vs,ws,cells,cells',r,hc,hv,h=>by
  cases vs with
  | nil=>simp[jt]at h
  | cons v vs=>
   obtain⟨w,ws,rfl,h1,h2⟩:=hv.inv;have k:=h1.cells;simp only[jt]at h ⊢;rw[<-k.1,<-hc.1];split at h
   .simp_all
   .rename_i e;rw[if_neg e];exact cr.fill (((hc.take off).append k).append (hc.drop _)) h2 h
theorem FR.sR {k:KT} {x y x' y':V} {b:Bool} (hx:FR H Z x x') (hy:FR H Z y y') (h:nr k x y=some b):nr k x' y'=some b:=by
 unfold nr at h;split at h
 .rw[hx.aR,hy.aR];exact h
 .rw[hy.aR];rcases hx.kB with rfl|⟨_,_,_,rfl,_⟩ <;> exact h
 .exact absurd hx.closed (by simp[V.closed])
 .rw[hx.fI,hy.fI];exact h
 .rw[hy.fI];rcases hx.kG with rfl|⟨_,_,_,_,_,_,rfl,_⟩ <;> exact h
 .exact absurd hx.closed (by simp[V.closed])
 .rw[hx.eX,hy.eX];exact h
 .rw[hy.eX,hx.fmap];exact h
 .exact absurd hx.closed (by simp[V.closed])
 grind
theorem FR.jx {a b a' b':List V} {r:Bool} (ha:cr H Z a a') (hb:cr H Z b b') (h:jx a b=some r):Go.VE.jx a' b'=some r:=by
 unfold Go.VE.jx at h;split at h
 .rename_i u v hu hv;rw[ha.scalar.1 (pz hu),hb.scalar.1 (pz hv)];unfold Go.VE.jx
  grind
 grind
theorem yN {k:KT} {x y:V} {b:Bool} (h:nr k x y=some b):(y=.aR/\(x=.aR\/(∃es xs,x=.fsl es xs)\/∃id es off len,x=.hsl id es off len)) \/
 (y=.fI/\(x=.fI\/(∃cs,x=.fptr cs)\/∃id el off,x=.hptr id el off))\/(y=.eX/\(x=.eX\/(∃kvs,x=.fmap kvs)\/∃id,x=.hmap id)):=by
 unfold nr at h
 grind
theorem EJ {k:Option KT} {e:Option Nat} {op:BinOp} {x y:V} (hs:(y=.aR/\(x=.aR\/(∃es xs,x=.fsl es xs)\/∃id es off len,x=.hsl id es off len)) \/
 (y=.fI/\(x=.fI\/(∃cs,x=.fptr cs)\/∃id el off,x=.hptr id el off))\/(y=.eX/\(x=.eX\/(∃kvs,x=.fmap kvs)\/∃id,x=.hmap id))) :
 iQ k e op x y=(match k,op with
 | some k,.eql=>(nr k x y).map .bool
 | some k,.neq=>(nr k x y).map λt=>.bool !t
 | _,_=>none):=by
 rcases hs with⟨rfl,rfl|⟨_,_,rfl⟩|⟨_,_,_,_,rfl⟩⟩|⟨rfl,rfl|⟨_,rfl⟩|⟨_,_,_,rfl⟩⟩|⟨rfl,rfl|⟨_,rfl⟩|⟨_,rfl⟩⟩ <;> cases k <;> cases op <;> rfl
theorem Gj {k:Option KT} {e:Option Nat} {op:BinOp} {x y z:V} (h:iQ k e op x y=some z):z.good=true:=by
 have hb:∀{o:Option Bool} {z:V},o.map V.bool=some z->z.good=true:=λh=>by obtain⟨_,_,rfl⟩:=ζf.1 h;rfl
 have hb':∀{o:Option Bool} {z:V},(o.map λt=>V.bool !t)=some z->z.good=true:=λh=>by obtain⟨_,_,rfl⟩:=ζf.1 h;rfl
 unfold iQ at h
 (repeat' split at h) <;> first|(simp  at h;subst h;rfl)|exact hb h|exact hb' h|simp at h
theorem FR.bin {k:Option KT} {e:Option Nat} {op:BinOp} {x y x' y' z:V} (hx:FR H Z x x') (hy:FR H Z y y') (h:iQ k e op x y=some z):iQ k e op x' y'=some z:=by
 have h0:=h;unfold iQ at h;split at h
 .rw[hx.int,hy.int];omega
 .rw[hx.str,hy.str];omega
 .rw[hx.bool,hy.bool];omega
 .obtain⟨a',rfl,ha⟩:=hx.gq;obtain⟨b',rfl,hb⟩:=hy.gq;split at h
  .split at h
   .rename_i hl;obtain⟨r,hr,rfl⟩:=ζf.1 h;simp[iQ,<-ha.1,hl,FR.jx ha hb hr]
   grind
  .split at h
   .rename_i hl;obtain⟨r,hr,rfl⟩:=ζf.1 h;simp[iQ,<-ha.1,hl,FR.jx ha hb hr]
   grind
  grind
 .split at h
  .obtain⟨r,hr,rfl⟩:=ζf.1 h;have hr':=FR.sR hx hy hr;rw[EJ (yN hr')];grind
  .obtain⟨r,hr,rfl⟩:=ζf.1 h;have hr':=FR.sR hx hy hr;rw[EJ (yN hr')];grind
  grind
theorem FR.slice {size:Nat} {x x' z:V} {l h:Option Int} (hx:FR H Z x x') (hs:gC size x l h=some z):∃z',gC size x' l h=some z'/\FR H Z z z':=by
 have hbd:∀{n lo hi:Nat},cN n l h=some (lo,hi)->hi<=n/\lo<=hi:=by
  intro n lo hi e;unfold cN at e
  grind
 unfold gC at hs;split at hs
 .rename_i es xs;split at hs
  .rename_i he;obtain⟨⟨lo,hi⟩,hb,rfl⟩:=ζf.1 hs;obtain⟨b1,b2⟩:=hbd hb;rcases hx.kB with rfl|⟨id,off,ys,rfl,hz,hr,hl,hf⟩
   .refine⟨_,by simp[gC,if_pos he,hb],.same _ ?_⟩
    have hg:=hx.good;refine jX.2 λj u hu=>?_
    rw[List.getElem?_drop,List.getElem?_take]at hu;split at hu
    .exact jX.1 hg _ u hu
    grind
   .refine⟨.hsl id es (off+lo) (hi-lo),by simp[gC,if_pos he,hb],?_⟩
    have hlen:((xs.take hi).drop lo).length=hi-lo:=by simp_all
    rw[<-hlen];refine FR.HW hz hr (by grind) ?_
    have:=(hf.take hi).drop lo;have e:List.drop lo (List.take hi (List.take xs.length (List.drop off ys)))=List.take (hi-lo) (List.drop (off+lo) ys):=by
     rw[List.take_take,Nat.min_eq_left b1,List.drop_take,List.drop_drop]
    grind
  grind
 .exact absurd hx.closed (by simp[V.closed])
 .rw[hx.ck];obtain⟨_,hb,rfl⟩:=ζf.1 hs;exact⟨.ck,by simp[gC,hb],.same _ rfl⟩
 .rw[hx.aR];obtain⟨_,hb,rfl⟩:=ζf.1 hs;exact⟨.aR,by simp[gC,hb],.same _ rfl⟩
 grind
theorem cr.kM {lo hi:Bool} {bs bs':List V} {r:Option Int×Option Int} (h:cr H Z bs bs') (hb:kM lo hi bs=some r):Go.VE.kM lo hi bs'=some r:=by
 unfold Go.VE.kM at hb;split at hb
 .rw[h.bZ];exact hb
 .obtain⟨_,_,rfl,h1,h2⟩:=h.inv;rw[h1.int,h2.bZ];exact hb
 .obtain⟨_,_,rfl,h1,h2⟩:=h.inv;rw[h1.int,h2.bZ];exact hb
 .obtain⟨_,_,rfl,h1,h2⟩:=h.inv;obtain⟨_,_,rfl,h3,h4⟩:=h2.inv;rw[h1.int,h3.int,h4.bZ];exact hb
 grind
theorem cr.aq {N:Nat->FuncId} {p:tC} {xs ys:List V} {z:V} (hz0:∀zero pl,p=.build zero pl->V.bL zero=true) (h:cr H Z xs ys) (hp:aq N p xs=some z):∃z',Go.VE.aq N p ys=some z'/\FR H Z z z':=by
 unfold Go.VE.aq at hp;split at hp
 .
  obtain⟨y,_,rfl,h1,h2⟩:=h.inv;rw[h2.bZ];simp only[ζa]at hp;subst hp;exact⟨y,rfl,h1⟩
 .
  rename_i t a b;obtain⟨w1,_,rfl,h1,h2⟩:=h.inv;obtain⟨w2,_,rfl,h3,h4⟩:=h2.inv;obtain⟨w3,_,rfl,h5,h6⟩:=h4.inv;rw[h1.bool,h6.bZ];simp only[ζa]at hp;subst hp;refine⟨if t=true then w2 else w3,rfl,?_⟩;cases t
  .exact h5
  .exact h3
 .
  obtain⟨y,_,rfl,h1,h2⟩:=h.inv;rw[h2.bZ];unfold II at hp;split at hp
  .exact absurd h1.closed (by simp[V.closed])
  .simp only[ζa]at hp;subst hp;rcases h1.kG with rfl|⟨_,_,_,_,_,_,rfl,_⟩
   .exact⟨_,rfl,h1⟩
   .exact⟨_,rfl,h1⟩
  .simp only[ζa]at hp;subst hp;obtain⟨_,_,rfl,_⟩:=h1.jL;exact⟨_,rfl,h1⟩
  .simp at hp
 .
  obtain⟨_,_,rfl,h1,h2⟩:=h.inv;obtain⟨_,_,rfl,h3,h4⟩:=h2.inv;rw[h4.bZ];exact⟨z,FR.bin h1 h3 hp,.same _ (Gj hp)⟩
 .obtain⟨_,_,rfl,h1,h2⟩:=h.inv;rw[h1.bool,h2.bZ];simp only[ζa]at hp;subst hp;exact⟨_,rfl,.same _ rfl⟩
 .obtain⟨_,_,rfl,h1,h2⟩:=h.inv;rw[h1.int,h2.bZ];simp only[ζa]at hp;subst hp;exact⟨_,rfl,.same _ rfl⟩
 .obtain⟨_,_,rfl,h1,h2⟩:=h.inv;rw[h1.int,h2.bZ];simp only[ζa]at hp;subst hp;exact⟨_,rfl,.same _ rfl⟩
 .
  rename_i off p;obtain⟨y,_,rfl,h1,h2⟩:=h.inv;rw[h2.bZ];unfold fK at hp;split at hp
  .split at hp
   .rename_i cs ho;simp only[ζa]at hp;subst hp;rcases h1.kG with rfl|⟨id,el,o,es,ys,ds,rfl,hz,hr,he,hle,hf⟩
    .have hg:=h1.good;simp only[V.good]at hg;exact⟨_,by simp only[Go.VE.aq,fK,if_pos ho],.same _ (by simp only[V.good];exact w_ _ hg)⟩
    .refine⟨.hptr id el (o+off),rfl,FR.BD hz hr he (by have:=hf.1;simp at this;omega) ?_⟩
     have:=hf.drop off;rw[List.drop_drop]at this;exact this
   .simp at hp
  .exact absurd h1.closed (by simp[V.closed])
  .simp at hp
 .
  rename_i off size agg cs;obtain⟨y,_,rfl,h1,h2⟩:=h.inv;rw[h2.bZ];obtain⟨cs',rfl,hc⟩:=h1.gq;obtain⟨r,hr,hm⟩:=ζg.1 hp;obtain⟨r',hr',hrr⟩:=hc.cut hr;obtain⟨z',hz',hzz⟩:=hrr.mk hm;exact⟨z',by simp only[Go.VE.aq,hr',ζb,hz'],hzz⟩
 .
  rename_i size s k n;obtain⟨y,_,rfl,h1,h2⟩:=h.inv;obtain⟨_,_,rfl,h3,h4⟩:=h2.inv;rw[h3.int,h4.bZ];unfold j7 at hp;split at hp
  .simp at hp
  .rename_i hn;split at hp
   .rename_i es xs;split at hp
    .rename_i he;obtain⟨c,hc,rfl⟩:=ζf.1 hp;rcases h1.kB with rfl|⟨id,off,ys,rfl,hz,hr,hl,hf⟩
     .have hg:=h1.good;simp only[V.good]at hg;exact⟨_,by simp only[Go.VE.aq,j7,if_neg hn,if_pos he,hc,Option.map_some],.same _ (by simp only[V.good];exact jX.1 hg _ _ hc)⟩
     .have hj:n.toNat<xs.length:=(ζe.1 hc).1;obtain⟨d,hd,hcd⟩:=hf.get hc;rw[List.getElem?_take,if_pos hj,List.getElem?_drop]at hd;exact⟨.hptr id (off+n.toNat) 0,by simp only[Go.VE.aq,j7,if_neg hn,if_pos (And.intro he hj)],FR.BD hz hr hd (by simp) (by simpa using hcd)⟩
    .simp at hp
   .exact absurd h1.closed (by simp[V.closed])
   .simp at hp
 .
  rename_i len size s k n;obtain⟨y,_,rfl,h1,h2⟩:=h.inv;obtain⟨_,_,rfl,h3,h4⟩:=h2.inv;rw[h3.int,h4.bZ];unfold uT at hp;split at hp
  .rename_i hn;split at hp
   .split at hp
    .rename_i cs ho;simp only[ζa]at hp;subst hp;rcases h1.kG with rfl|⟨id,el,o,es,ys,ds,rfl,hz,hr,he,hle,hf⟩
     .have hg:=h1.good;simp only[V.good]at hg;exact⟨_,by simp only[Go.VE.aq,uT,if_pos hn,if_pos ho],.same _ (by simp only[V.good];exact w_ _ hg)⟩
     .refine⟨.hptr id el (o+n.toNat*size),by simp only[Go.VE.aq,uT,if_pos hn],FR.BD hz hr he (by have:=hf.1;simp at this;omega) ?_⟩
      have:=hf.drop (n.toNat*size);rw[List.drop_drop]at this;exact this
    .simp at hp
   .exact absurd h1.closed (by simp[V.closed])
   .simp at hp
  .simp at hp
 .
  rename_i s k n;obtain⟨y,_,rfl,h1,h2⟩:=h.inv;obtain⟨_,_,rfl,h3,h4⟩:=h2.inv;rw[h1.str,h3.int,h4.bZ];split at hp
  .rename_i hn;obtain⟨c,hc,rfl⟩:=ζf.1 hp;exact⟨_,by simp only[Go.VE.aq,if_pos hn,hc,Option.map_some],.same _ rfl⟩
  .simp at hp
 .
  rename_i len size agg cs k n;obtain⟨y,_,rfl,h1,h2⟩:=h.inv;obtain⟨_,_,rfl,h3,h4⟩:=h2.inv;rw[h3.int,h4.bZ];obtain⟨cs',rfl,hc⟩:=h1.gq;split at hp
  .rename_i hn;obtain⟨r,hr,hm⟩:=ζg.1 hp;obtain⟨r',hr',hrr⟩:=hc.cut hr;obtain⟨z',hz',hzz⟩:=hrr.mk hm;exact⟨z',by simp only[Go.VE.aq,if_pos hn,hr',ζb,hz'],hzz⟩
  .simp at hp
 .
  rename_i lo hi s bs;obtain⟨y,_,rfl,h1,h2⟩:=h.inv;rw[h1.str];obtain⟨⟨l,h'⟩,hb,hp⟩:=ζg.1 hp;obtain⟨⟨l2,h2'⟩,hb2,rfl⟩:=ζf.1 hp;exact⟨_,by simp only[Go.VE.aq,h2.kM hb,ζb,hb2,Option.map_some],.same _ rfl⟩
 .
  rename_i size lo hi s bs;obtain⟨y,_,rfl,h1,h2⟩:=h.inv;obtain⟨⟨l,h'⟩,hb,hp⟩:=ζg.1 hp;obtain⟨z',hz',hzz⟩:=FR.slice h1 hp;exact⟨z',by simp only[Go.VE.aq,h2.kM hb,ζb,hz'],hzz⟩
 .
  obtain⟨y,_,rfl,h1,h2⟩:=h.inv;obtain⟨_,_,rfl,h3,h4⟩:=h2.inv;obtain⟨_,_,rfl,h5,h6⟩:=h4.inv;rw[h3.int,h5.int,h6.bZ];split at hp
  .rename_i hc;simp only[ζa]at hp;subst hp;refine⟨.ck,?_,.same _ rfl⟩;simp only[ζh]at hc;have:IU y=true:=by
    have h0:=hc.1.1;unfold IU at h0;split at h0
    .rcases h1.kB with rfl|⟨_,_,_,rfl,_⟩ <;> rfl
    .exact absurd h1.closed (by simp[V.closed])
    .rw[h1.ck];rfl
    .rw[h1.aR];rfl
    .simp at h0
   simp only[Go.VE.aq,this,hc.1.2,hc.2,Bool.and_self,if_true]
  .simp at hp
 .
  rename_i vs zero pl;obtain⟨r,hr,rfl⟩:=ζf.1 hp;obtain⟨r',hr',hrr⟩:=cr.fill (cr.same (hz0 zero pl rfl)) h hr;exact⟨.agg r',by simp only[Go.VE.aq,hr',Option.map_some],.agg _ _ hrr.1 hrr.2⟩
 .
  rename_i vs name k;simp only[ζa]at hp;subst hp;exact⟨_,rfl,.clo _ _ _ _ _ (h.take k).1 (h.drop k).1 (h.take k).2 (h.drop k).2⟩
 .
  rename_i i vs;obtain⟨y,_,rfl,h1,h2⟩:=h.inv;rw[h2.bZ];obtain⟨ws,rfl,hw⟩:=h1.oP;obtain⟨z',hz',hzz⟩:=hw.get hp;exact⟨z',hz',hzz⟩
 .
  obtain⟨y,_,rfl,h1,h2⟩:=h.inv;rw[h1.str,h2.bZ];simp only[ζa]at hp;subst hp;exact⟨_,rfl,.same _ rfl⟩
 .
  obtain⟨y,_,rfl,h1,h2⟩:=h.inv;rw[h2.bZ];unfold o_ at hp;split at hp
  .simp only[ζa]at hp;subst hp;rcases h1.kB with rfl|⟨_,_,_,rfl,_⟩ <;> exact⟨_,rfl,.same _ rfl⟩
  .exact absurd h1.closed (by simp[V.closed])
  .rw[h1.ck];simp only[ζa]at hp;subst hp;exact⟨_,rfl,.same _ rfl⟩
  .rw[h1.aR];simp only[ζa]at hp;subst hp;exact⟨_,rfl,.same _ rfl⟩
  .simp at hp
 .
  obtain⟨y,_,rfl,h1,h2⟩:=h.inv;rw[h2.bZ];unfold LK at hp;split at hp
  .rw[h1.aR];simp only[ζa]at hp;subst hp;exact⟨_,rfl,.same _ rfl⟩
  .rw[h1.ck];simp only[ζa]at hp;subst hp;exact⟨_,rfl,.same _ rfl⟩
  .simp at hp
 .
  obtain⟨_,_,rfl,h1,h2⟩:=h.inv;obtain⟨_,_,rfl,h3,h4⟩:=h2.inv;rw[h1.int,h3.int,h4.bZ];split at hp
  .rename_i e;simp only[ζa]at hp;subst hp;exact⟨_,by simp only[Go.VE.aq,if_pos e],.same _ rfl⟩
  .simp at hp
 .
  obtain⟨_,_,rfl,h1,h2⟩:=h.inv;obtain⟨_,_,rfl,h3,h4⟩:=h2.inv;obtain⟨_,_,rfl,h5,h6⟩:=h4.inv;obtain⟨_,_,rfl,h7,h8⟩:=h6.inv;rw[h1.int,h3.int,h5.int,h7.int,h8.bZ];split at hp
  .rename_i e;simp only[ζa]at hp;subst hp;exact⟨_,by simp only[Go.VE.aq,if_pos e],.same _ rfl⟩
  .simp at hp
 .
  obtain⟨_,_,rfl,h1,h2⟩:=h.inv;obtain⟨_,_,rfl,h3,h4⟩:=h2.inv;rw[h1.int,h3.int,h4.bZ];split at hp
  .rename_i e;simp only[ζa]at hp;subst hp;exact⟨_,by simp only[Go.VE.aq,if_pos e],.same _ rfl⟩
  .simp at hp
 .
  obtain⟨_,_,rfl,h1,h2⟩:=h.inv;obtain⟨_,_,rfl,h3,h4⟩:=h2.inv;rw[h1.int,h3.int,h4.bZ];split at hp
  .rename_i e;simp only[ζa]at hp;subst hp;refine⟨_,by simp only[Go.VE.aq,if_pos e],.same _ ?_⟩
   simp only[V.good];refine jX.2 λj u hu=>?_
   have:=List.eq_of_mem_replicate (List.mem_of_getElem? hu);subst this;exact iG.2 λi v hv=>lq (List.all_eq_true.1 e.2.2.2.2.2 v (List.mem_of_getElem? hv))
  .simp at hp
 .simp only[ζa]at hp;subst hp;rw[h.bZ];exact⟨_,rfl,.same _ rfl⟩
 .simp at hp
end
end Go.VE
namespace Go.VE
variable [aW]
def qq (p:Nat×Nat) (k:Fl) (es len:Nat):V:=
 match k with
 | .nil=>.aR
 | .emp=>.ck
 | _=>.hsl p.1 es p.2 len
abbrev Nu:=Nat->Nat×Nat
inductive bY (ν:Nu) (m:Tb aM) (H:ak) (Z:Nat->Prop):SV->V->Prop
 | v (x y:V) (h:FR H Z x y):bY ν m H Z (.v x) y
 | own (d:Nat) (y:V) (h:∀ob,ai m d=some ob->∃k es xs,ob=.sl k es xs/\y=qq (ν d) k es xs.length):bY ν m H Z (.own d) y
 | ptr (d o:Nat) (y:V) (h:∀ob,ai m d=some ob->∃cs,ob=.box cs/\y=.hptr (ν d).1 0 o):bY ν m H Z (.ptr d o) y
 | el (d i o:Nat) (y:V) (h:∀ob,ai m d=some ob->∃k es xs,ob=.sl k es xs/\bM k=true/\y=.hptr (ν d).1 ((ν d).2+i) o):bY ν m H Z (.el d i o) y
 | mp (d:Nat) (y:V) (h:∀ob,ai m d=some ob->∃kvs,ob=.mp kvs/\y=.hmap (ν d).1):bY ν m H Z (.mp d) y
 | clo (f:FuncId) (a b:List SV) (a' b':List V) (ha:a.length=a'.length) (hb:b.length=b'.length)
  (hva:∀(j:Nat) u v,a[j]? = some u->a'[j]? = some v->bY ν m H Z u v) (hvb:∀(j:Nat) u v,b[j]? = some u->b'[j]? = some v->bY ν m H Z u v):bY ν m H Z (.clo f a b) (.clo f a' b')
 | tup (a:List SV) (a':List V) (ha:a.length=a'.length) (hva:∀(j:Nat) u v,a[j]? = some u->a'[j]? = some v->bY ν m H Z u v):bY ν m H Z (.tup a) (.tup a')
 | agg (a:List SV) (a':List V) (ha:a.length=a'.length) (hva:∀(j:Nat) u v,a[j]? = some u->a'[j]? = some v->bY ν m H Z u v):bY ν m H Z (.agg a) (.agg a')
 | yl (id:Nat):bY ν m H Z (.yl id) (.yld id)
def aZ (ν:Nu) (m:Tb aM) (H:ak) (Z:Nat->Prop) (xs:List SV) (ys:List V):Prop:=xs.length=ys.length/\∀(j:Nat) u v,xs[j]? = some u->ys[j]? = some v->bY ν m H Z u v
def bK:aM->Bool
 | .sl k _ _=>bM k
 | _=>true
def eC (ν:Nu) (m:Tb aM) (id:Nat):Prop:=∃d ob,ai m d=some ob/\bK ob=true/\(ν d).1=id
def tT (H:ak) (Z:Nat->Prop) (ys:List (List V)):Prop:=∀c∈ys,∀u∈c,∃x,FR H Z x u
def Bp (H:ak) (Z:Nat->Prop) (a b:List (V×V)):Prop:=a.length=b.length/\∀(j:Nat) u v,a[j]? = some u->b[j]? = some v->(u.1=v.1/\u.1.scalar=true)/\FR H Z u.2 v.2
def cO (ν:Nu) (m:Tb aM) (H:ak) (Z:Nat->Prop) (d:Nat):aM->Prop
 | .sl k es xs=>if bM k then ∃ys,H[(ν d).1]? = some (.row es ys)/\(ν d).2+xs.length<=ys.length/\fc H Z xs ((ys.drop (ν d).2).take xs.length)/\tT H Z ys/\(k=.row->(ν d).2=0/\ys.length=xs.length)
  else xs=[]
 | .box cs=>∃es cs',H[(ν d).1]? = some (.row es [cs'])/\aZ ν m H Z cs cs'/\cs'.all V.one=true
 | .mp kvs=>∃kvs',H[(ν d).1]? = some (.map kvs')/\Bp H Z kvs kvs'
structure R (ν:Nu) (Z:Nat->Prop) (st:St) (F:Frame) (H:ak):Prop where
 slot:∀s sv,ai st.g s=some sv->bY ν st.m H Z sv (get F s)
 obj:∀d ob,ai st.m d=some ob->cO ν st.m H Z d ob
 inj:∀d d' ob ob',ai st.m d=some ob->ai st.m d'=some ob'->bK ob=true->bK ob'=true->(ν d).1=(ν d').1->d=d'
 apart:∀d ob,ai st.m d=some ob->bK ob=true->¬Z (ν d).1
 zrow:∀id,Z id->(au H id).isSome=true
 deep:Deep H Z
def sameShape:aM->aM->Prop
 | .sl k es xs,.sl k' es' xs'=>k'=k/\es'=es/\xs'.length=xs.length
 | .box _,.box _=>True
 | .mp _,.mp _=>True
 | _,_=>False
theorem sameShape.refl (o:aM):sameShape o o:=by cases o <;> simp[sameShape]
theorem sameShape.trans {a b c:aM} (h:sameShape a b) (k:sameShape b c):sameShape a c:=by
 cases a <;> cases b <;> cases c <;> simp[sameShape]at*<;> simp_all
structure Ev (Rv:Nat->Prop) (ν:Nu) (Z:Nat->Prop) (st:St) (H:ak) (ν':Nu) (Z':Nat->Prop) (st':St) (H':ak):Prop where
 len:H.length<=H'.length
 same:∀id,id<H.length->¬eC ν st.m id->¬Z id->¬Rv id->H'[id]? = H[id]?
 rows:∀id,Z id->Z' id/\au H' id=au H id
 own:∀id,eC ν' st'.m id->eC ν st.m id\/Rv id\/H.length<=id
 frz:∀id,Z' id->Z id\/eC ν st.m id\/Rv id\/H.length<=id
 pin:∀d∈st.pin,∀ob',ai st'.m d=some ob'->∃ob,ai st.m d=some ob/\ν' d=ν d/\sameShape ob ob'
 pins:st'.pin=st.pin
section
variable {Rv Rv':Nat->Prop} {ν ν' ν2:Nu} {Z Z' Z2:Nat->Prop} {st st' st2:St} {m m':Tb aM} {F F':Frame} {H H' H2:ak}
theorem Ev.refl:Ev Rv ν Z st H ν Z st H:=
 ⟨Nat.le_refl _,λ_ _ _ _ _=>rfl,λ_ h=>⟨h,rfl⟩,λ_ h=>.inl h,λ_ h=>.inl h,λ_ _ ob' h=>⟨ob',h,rfl,.refl _⟩,rfl⟩
theorem Ev.trans (a:Ev Rv ν Z st H ν' Z' st' H') (b:Ev Rv ν' Z' st' H' ν2 Z2 st2 H2):Ev Rv ν Z st H ν2 Z2 st2 H2 where
 len:=Nat.le_trans a.len b.len
 same:=λid hl ho hz hr=>by
  rw[b.same id (Nat.lt_of_lt_of_le hl a.len) (λh=>(a.own id h).elim ho λh=>h.elim hr λh=>by omega) (λh=>(a.frz id h).elim hz λh=>h.elim ho λh=>h.elim hr λh=>by omega) hr,a.same id hl ho hz hr]
 rows:=λid h=>⟨(b.rows id (a.rows id h).1).1,by rw[(b.rows id (a.rows id h).1).2,(a.rows id h).2]⟩
 own:=λid h=>by
  rcases b.own id h with h|h|h
  .exact a.own id h
  .grind
  .exact .inr (.inr (Nat.le_trans a.len h))
 frz:=λid h=>by
  rcases b.frz id h with h|h|h|h
  .exact a.frz id h
  .rcases a.own id h with h|h|h
   .grind
   .grind
   grind
  .grind
  .exact .inr (.inr (.inr (Nat.le_trans a.len h)))
 pin:=λd hd ob2 h=>by
  obtain⟨ob1,h1,h2,h3⟩:=b.pin d (by rw[a.pins];omega) ob2 h
  obtain⟨ob,k1,k2,k3⟩:=a.pin d hd ob1 h1;exact⟨ob,k1,by simp_all,k3.trans h3⟩
 pins:=by rw[b.pins,a.pins]
theorem Ev.weak (h:∀id,Rv id->Rv' id) (a:Ev Rv ν Z st H ν' Z' st' H'):Ev Rv' ν Z st H ν' Z' st' H':=
 ⟨a.len,λid hl ho hz hr=>a.same id hl ho hz (λk=>hr (h id k)),a.rows,λid k=>(a.own id k).imp (λx=>x) (.imp (h id) (λx=>x)),λid k=>(a.frz id k).imp (λx=>x) (.imp (λx=>x) (.imp (h id) (λx=>x))),a.pin,a.pins⟩
theorem bH {α:Type}:∀(g:Tb α) (n:Nat) (v:α),ai (aU g n v) n=some v
 | [],n,v=>by simp[aU,ai]
 | (k,x)::r,n,v=>by
  simp[aU];split
  .rename_i h;simp[ai,h]
  .rename_i h;simp[ai,h,bH r n v]
theorem cU {α:Type}:∀(g:Tb α) {n k:Nat} (v:α),n≠k->ai (aU g n v) k=ai g k
 | [],n,k,v,h=>by simp[aU,ai,h]
 | (j,x)::r,n,k,v,h=>by
  simp[aU];split
  .rename_i hk;subst hk;simp[ai,h]
  .simp[ai];split
   .rfl
   .exact cU r v h
theorem qv {α:Type}:∀{g:Tb α} {n:Nat} {v:α},ai g n=some v->aU g n v=g
 | [],n,v,h=>by cases h
 | (k,x)::r,n,v,h=>by
  simp[ai]at h;simp[aU];split
  .grind
  .rename_i e;rw[if_neg e]at h;rw[qv h]
theorem ug {α:Type}:∀(g:Tb α) (n:Nat),ai (cV n g) n=none
 | [],n=>rfl
 | (k,x)::r,n=>by
  simp[cV];split
  .exact ug r n
  .rename_i hk;simp[ai];rw[if_neg hk];exact ug r n
theorem uz {α:Type}:∀(g:Tb α) {n k:Nat},n≠k->ai (cV n g) k=ai g k
 | [],n,k,h=>rfl
 | (j,x)::r,n,k,h=>by
  simp[cV];split
  .rename_i hk;subst hk;simp[ai];rw[if_neg h];exact uz r h
  .simp[ai];split
   .rfl
   .exact uz r h
theorem mz {α:Type} {g:Tb α} {n k:Nat} {v:α} (h:ai (cV n g) k=some v):n≠k/\ai g k=some v:=by
 by_cases e:n=k
 .subst e;rw[ug]at h;simp_all
 .rw[uz g e]at h;grind
theorem mF {α:Type} {k:Nat} {v:α}:∀{ds:List Nat} {g:Tb α},ai (lN ds g) k=some v->ai g k=some v
 | [],_,h=>h
 | d::ds,g,h=>(mz (mF  h)).2
theorem oH {α:Type} {g:Tb α} {k:Nat} {v:α}:∀{l:List Nat} {r:Tb α},zj g l=some r->ai r k=some v->ai g k=some v
 | [],r,h,h2=>by simp[zj]at h;subst h;simp[ai]at h2
 | n::l,r,h,h2=>by
  simp[zj]at h;split at h
  .rename_i w t h3 h4;simp  at h;subst h;simp[ai]at h2;split at h2
   .grind
   .exact oH h4 h2
  grind
theorem wA {d:Nat}:∀{g:Tb SV} {s:Nat} {sv:SV},tJ d g=false->ai g s=some sv->sv.bT d=false
 | [],_,_,_,h=>by simp[ai]at h
 | (k,x)::r,s,sv,h,h2=>by
  simp[tJ]at h;simp[ai]at h2;split at h2
  .grind
  .exact wA h.2 h2
theorem wF {d:Nat}:∀{g:Tb aM} {s:Nat} {ob:aM},qK d g=false->ai g s=some ob->ob.bT d=false
 | [],_,_,_,h=>by simp[ai]at h
 | (k,x)::r,s,sv,h,h2=>by
  simp[qK]at h;simp[ai]at h2;split at h2
  .grind
  .exact wF h.2 h2
theorem ru {d:Nat}:∀{l:List SV} {j:Nat} {u:SV},SV.cB d l=false->l[j]? = some u->u.bT d=false
 | [],_,_,_,h=>by simp_all
 | x::r,j,u,h,h2=>by
  simp[SV.cB]at h
  cases j with
  | zero=>grind
  | succ j=>exact ru h.2 (by simpa using h2)
theorem qm {d:Nat}:∀{l:List SV} {j:Nat} {u:SV},l[j]? = some u->u.bT d=true->SV.cB d l=true
 | [],_,_,h,_=>by simp_all
 | x::r,j,u,h,h2=>by
  simp[SV.cB]
  cases j with
  | zero=>grind
  | succ j=>exact .inr (qm (j:=j) (by grind) h2)
theorem bY.mono {sv:SV} {y:V} (hz:∀id,Z id->Z' id/\au H' id=au H id)
 (r:bY ν m H Z sv y) (hn:∀d,sv.bT d=true->∀ob',ai m' d=some ob'->∃ob,ai m d=some ob/\ν' d=ν d/\sameShape ob ob'):bY ν' m' H' Z' sv y:=by
 induction r with
 | v x y h=>exact .v x y (h.mono hz)
 | own d y h=>
  refine .own d y λob' ho=>?_
  obtain⟨ob,h1,h2,h3⟩:=hn d (by simp[SV.bT]) ob' ho
  obtain⟨k,es,xs,rfl,rfl⟩:=h ob h1;cases ob' <;> simp[sameShape]at h3
  grind
 | ptr d o y h=>
  refine .ptr d o y λob' ho=>?_
  obtain⟨ob,h1,h2,h3⟩:=hn d (by simp[SV.bT]) ob' ho
  obtain⟨cs,rfl,rfl⟩:=h ob h1;cases ob' <;> simp[sameShape]at h3
  grind
 | el d i o y h=>
  refine .el d i o y λob' ho=>?_
  obtain⟨ob,h1,h2,h3⟩:=hn d (by simp[SV.bT]) ob' ho
  obtain⟨k,es,xs,rfl,h4,rfl⟩:=h ob h1;cases ob' <;> simp[sameShape]at h3
  grind
 | mp d y h=>
  refine .mp d y λob' ho=>?_
  obtain⟨ob,h1,h2,h3⟩:=hn d (by simp[SV.bT]) ob' ho
  obtain⟨cs,rfl,rfl⟩:=h ob h1;cases ob' <;> simp[sameShape]at h3
  grind
 | clo f a b a' b' ha hb hva hvb iha ihb=>
  exact .clo f a b a' b' ha hb (λj u v hu hv=>iha j u v hu hv λd hd=>hn d (by simp[SV.bT,qm hu hd])) (λj u v hu hv=>ihb j u v hu hv λd hd=>hn d (by simp[SV.bT,qm hu hd]))
 | tup a a' ha hva iha=>
  exact .tup a a' ha (λj u v hu hv=>iha j u v hu hv λd hd=>hn d (by simp[SV.bT,qm hu hd]))
 | agg a a' ha hva iha=>
  exact .agg a a' ha (λj u v hu hv=>iha j u v hu hv λd hd=>hn d (by simp[SV.bT,qm hu hd]))
 | yl id=>exact .yl id
theorem aZ.mono {sv:List SV} {y:List V} (hz:∀id,Z id->Z' id/\au H' id=au H id)
 (r:aZ ν m H Z sv y) (hn:∀d,SV.cB d sv=true->∀ob',ai m' d=some ob'->∃ob,ai m d=some ob/\ν' d=ν d/\sameShape ob ob'):aZ ν' m' H' Z' sv y:=
 ⟨r.1,λj u v hu hv=>(r.2 j u v hu hv).mono hz λd hd=>hn d (qm hu hd)⟩
theorem aZ.nil:aZ ν m H Z [] []:=⟨rfl,by simp⟩
theorem aZ.cons {x:SV} {y:V} {xs:List SV} {ys:List V} (h:bY ν m H Z x y) (r:aZ ν m H Z xs ys):aZ ν m H Z (x::xs) (y::ys):=by
 refine⟨by simp[r.1],λj u v hu hv=>?_⟩
 cases j with
 | zero=>grind
 | succ j=>exact r.2 j u v (by grind) (by grind)
theorem aZ.inv {x:SV} {xs:List SV} {ws:List V} (r:aZ ν m H Z (x::xs) ws):∃y ys,ws=y::ys/\bY ν m H Z x y/\aZ ν m H Z xs ys:=by
 cases ws with
 | nil=>have:=r.1;grind
 | cons y ys=>
  refine⟨y,ys,rfl,r.2 0 x y rfl rfl,by have:=r.1;grind,λj u v hu hv=>r.2 (j+1) u v (by grind) (by grind)⟩
theorem aZ.bZ {ws:List V} (r:aZ ν m H Z [] ws):ws=[]:=by
 have:=r.1
 grind
theorem aZ.get {xs:List SV} {ys:List V} (r:aZ ν m H Z xs ys) {j:Nat} {u:SV} (h:xs[j]? = some u):∃v,ys[j]? = some v/\bY ν m H Z u v:=by
 have hj  := (ζe.1 h).1;have:j<ys.length:=by rw[<-r.1];omega
 exact⟨ys[j],ζd this,r.2 j u _ h (ζd this)⟩
theorem aZ.append {a c:List SV} {b d:List V} (h:aZ ν m H Z a b) (k:aZ ν m H Z c d):aZ ν m H Z (a++c) (b++d):=by
 refine⟨by simp[h.1,k.1],λj u v hu hv=>?_⟩
 by_cases hj:j<a.length
 .rw[List.getElem?_append_left hj]at hu;rw[List.getElem?_append_left (by rw[<-h.1];omega)]at hv
  exact h.2 j u v hu hv
 .rw[List.getElem?_append_right (by omega)]at hu
  rw[List.getElem?_append_right (by rw[<-h.1];omega),<-h.1]at hv
  exact k.2 _ u v hu hv
theorem aZ.take {a:List SV} {b:List V} (h:aZ ν m H Z a b) (n:Nat):aZ ν m H Z (a.take n) (b.take n):=by
 refine⟨by simp[h.1],λj u v hu hv=>?_⟩
 rw[List.getElem?_take]at hu hv;split at hu
 .rename_i hj;rw[if_pos hj]at hv;exact h.2 j u v hu hv
 grind
theorem aZ.drop {a:List SV} {b:List V} (h:aZ ν m H Z a b) (n:Nat):aZ ν m H Z (a.drop n) (b.drop n):=by
 refine⟨by simp[h.1],λj u v hu hv=>?_⟩
 rw[List.getElem?_drop]at hu hv;exact h.2 _ u v hu hv
theorem bY.fr {x y:V} (r:bY ν m H Z (.v x) y):FR H Z x y:=by cases r;assumption
theorem aZ.pF {xs ys:List V} (r:cr H Z xs ys):aZ ν m H Z (xs.map .v) ys:=by
 refine⟨by simp[r.1],λj u v hu hv=>?_⟩
 rw[List.getElem?_map,ζf]at hu;obtain⟨x,hx,rfl⟩:=hu;exact .v x v (r.2 j x v hx hv)
theorem qw:∀{svs:List SV} {xs:List V},cG svs=some xs->svs=xs.map .v
 | [],xs,h=>by simp[cG]at h;grind
 | x::r,xs,h=>by
  cases x <;> simp only[cG]at h <;> first|grind|skip
  obtain⟨t,ht,rfl⟩:=ζf.1 h;rw[qw ht];rfl
theorem aZ.RJ {xs ys:List V} (r:aZ ν m H Z (xs.map .v) ys):cr H Z xs ys:=by
 refine⟨by have:=r.1;grind,λj u v hu hv=>?_⟩
 have:(xs.map SV.v)[j]? = some (.v u):=by grind
 exact(r.2 j _ v this hv).fr
end
end Go.VE
namespace Go.VE
variable [aW]
section
variable {ν:Nu} {Z:Nat->Prop} {st:St} {m:Tb aM} {F:Frame} {H H1:ak} {N:Nat->FuncId}
def ny (nm:FuncId->Option Nat):Operand->Option Arg
 | .tmp t=>some (.s t)
 | .const v=>match ofValue 4 v with
  | some c=>if c.good then some (.k c)else none
  | none=>none
 | .func f=>(nm f).map .f
 | .global g=>match aW.gl g with
  | some cs=>if(V.fptr cs).good then some (.k (.fptr cs))else none
  | none=>none
theorem Cz {nm:FuncId->Option Nat} (hN:∀f s,nm f=some s->N s=f) {g:Tb SV} (hs:∀s sv,ai g s=some sv->bY ν m H Z sv (get F s)) {o:Operand} {x:Arg} {sv:SV} (ha:ny nm o=some x) (hv:oT N g x=some sv) :
 ∃y,ev F o=some y/\bY ν m H Z sv y:=by
 cases o with
 | tmp t=>
  simp[ny]at ha;subst ha;exact⟨get F t,rfl,hs t sv hv⟩
 | const w=>
  simp[ny]at ha;split at ha
  .rename_i c hc;split at ha
   .rename_i hcl;simp  at ha;subst ha;simp[oT]at hv;subst hv;exact⟨c,hc,.v _ _ (.same _ hcl)⟩
   grind
  grind
 | func f=>
  simp[ny]at ha;obtain⟨z,hz,rfl⟩:=ha;simp[oT]at hv;subst hv;exact⟨_,rfl,.v _ _ (by rw[hN f z hz];exact .same _ rfl)⟩
 | global i=>
  simp[ny]at ha;split at ha
  .rename_i c hc;split at ha
   .rename_i hcl;simp  at ha;subst ha;simp[oT]at hv;subst hv;exact⟨.fptr c,by simp[ev,hc],.v _ _ (.same _ hcl)⟩
   grind
  grind
theorem nO {nm:FuncId->Option Nat} (hN:∀f s,nm f=some s->N s=f) {g:Tb SV} (hs:∀s sv,ai g s=some sv->bY ν m H Z sv (get F s)):∀{os:List Operand} {xs:List Arg} {svs:List SV},
 os.mapM (ny nm)=some xs->a_ N g xs=some svs->∃ys,d_ F os=some ys/\aZ ν m H Z svs ys
 | [],xs,svs,ha,hv=>by
  simp  at ha;subst ha;simp[a_]at hv;subst hv;exact⟨[],rfl,.nil⟩
 | o::os,xs,svs,ha,hv=>by
  simp[ζg]at ha;obtain⟨x,hx,ys,hy,rfl⟩:=ha;simp[a_]at hv;split at hv
  .rename_i v ws h1 h2;simp  at hv;subst hv;obtain⟨a,ha,ra⟩:=Cz hN hs hx h1;obtain⟨az,has,ras⟩:=nO hN hs hy h2;exact⟨a::az,by simp[d_,ha,has],.cons ra ras⟩
  grind
theorem bY.jl {d:Nat} {y:V} (r:bY ν m H Z (.own d) y) {ob:aM} (h:ai m d=some ob):∃k es xs,ob=.sl k es xs/\y=qq (ν d) k es xs.length:=by
 cases r with|own _ _ hh=>grind
theorem bY.nj {d o:Nat} {y:V} (r:bY ν m H Z (.ptr d o) y) {ob:aM} (h:ai m d=some ob):∃cs,ob=.box cs/\y=.hptr (ν d).1 0 o:=by
 cases r with|ptr _ _ _ hh=>grind
theorem bY.wm {d i o:Nat} {y:V} (r:bY ν m H Z (.el d i o) y) {ob:aM} (h:ai m d=some ob):∃k es xs,ob=.sl k es xs/\bM k=true/\y=.hptr (ν d).1 ((ν d).2+i) o:=by
 cases r with|el _ _ _ _ hh=>grind
theorem bY.A9 {d:Nat} {y:V} (r:bY ν m H Z (.mp d) y) {ob:aM} (h:ai m d=some ob):∃kvs,ob=.mp kvs/\y=.hmap (ν d).1:=by
 cases r with|mp _ _ hh=>grind
theorem bY.jL {f:FuncId} {a b:List SV} {y:V} (r:bY ν m H Z (.clo f a b) y):∃a' b',y=.clo f a' b'/\aZ ν m H Z a a'/\aZ ν m H Z b b':=by
 cases r with|clo _ _ _ a' b' ha hb hva hvb=>exact⟨a',b',rfl,⟨ha,hva⟩,⟨hb,hvb⟩⟩
theorem bY.oP {a:List SV} {y:V} (r:bY ν m H Z (.tup a) y):∃a',y=.tup a'/\aZ ν m H Z a a':=by
 cases r with|tup _ a' ha hva=>exact⟨a',rfl,ha,hva⟩
theorem bY.gq {a:List SV} {y:V} (r:bY ν m H Z (.agg a) y):∃a',y=.agg a'/\aZ ν m H Z a a':=by
 cases r with|agg _ a' ha hva=>exact⟨a',rfl,ha,hva⟩
theorem qD {p:Nat×Nat} {k:Fl} {es len:Nat} (h:bM k=true):qq p k es len=.hsl p.1 es p.2 len:=by
 cases k <;> simp[bM]at h <;> rfl
theorem ko {x:SV} {y:V} (h:jN m x=true) (r:bY ν m H Z x y):y.cells=[y]/\y.one=true:=by
 cases x with
 | v x=>simp[jN]at h
 | own d=>
  obtain⟨ob,hob⟩:=Option.isSome_iff_exists.1 h;obtain⟨k,es,xs,rfl,rfl⟩:=r.jl hob;cases k <;> exact⟨rfl,rfl⟩
 | ptr d o=>
  obtain⟨ob,hob⟩:=Option.isSome_iff_exists.1 h;obtain⟨cs,rfl,rfl⟩:=r.nj hob;exact⟨rfl,rfl⟩
 | el d i o=>
  obtain⟨ob,hob⟩:=Option.isSome_iff_exists.1 h;obtain⟨k,es,xs,rfl,_,rfl⟩:=r.wm hob;exact⟨rfl,rfl⟩
 | mp d=>
  obtain⟨ob,hob⟩:=Option.isSome_iff_exists.1 h;obtain⟨kvs,rfl,rfl⟩:=r.A9 hob;exact⟨rfl,rfl⟩
 | clo f a b=>obtain⟨a',b',rfl,_⟩:=r.jL;exact⟨rfl,rfl⟩
 | tup l=>simp[jN]at h
 | agg l=>simp[jN]at h
 | yl id=>simp[jN]at h
theorem JR {x:SV} {y:V} (h:vl m x=true) (r:bY ν m H Z x y):y.one=true:=by
 cases x with
 | v x=>
  have hf:=r.fr;have hx:x.one=true:=h;have hc:=hf.cells;have e:x.cells=[x]:=by cases x <;> first|rfl|(simp[V.one]at hx)
  rw[e]at hc;have h1:=hc.one;have hl:=hc.1
  cases y with
  | agg l=>
   cases hf with
   | same _ _=>grind
   | agg _ _ _ _=>simp[V.one]at hx
  | tup l=>
   cases hf with
   | same _ _=>grind
   | tup _ _ _ _=>simp[V.one]at hx
  | _=>rfl
 | own d=>exact(ko  (x:=.own d) h r).2
 | ptr d o=>exact(ko  (x:=.ptr d o) h r).2
 | el d i o=>exact(ko  (x:=.el d i o) h r).2
 | mp d=>exact(ko  (x:=.mp d) h r).2
 | clo f a b=>exact(ko  (x:=.clo f a b) h r).2
 | tup l=>simp[vl,jN]at h
 | agg l=>simp[vl,jN]at h
 | yl id=>simp[vl,jN]at h
theorem Dq {l:List SV} {ys:List V} (h:l.all (vl m)=true) (r:aZ ν m H Z l ys):ys.all V.one=true:=by
 refine List.all_eq_true.2 λy hy=>?_
 obtain⟨j,hj,e⟩:=List.mem_iff_getElem.1 hy;have hj2:j<l.length:=by rw[r.1];omega
 exact JR (List.all_eq_true.1 h _ (List.getElem_mem hj2)) (r.2 j _ y (ζd hj2) (by grind))
theorem Ky {x:SV} {y:V} {c:List SV} (h:vR m x=some c) (r:bY ν m H Z x y):aZ ν m H Z c y.cells:=by
 unfold vR at h;split at h
 .cases h;exact aZ.pF r.fr.cells
 .cases h;obtain⟨a',rfl,ra⟩:=r.gq;exact ra
 .split at h
  .rename_i hl;cases h;rw[(ko hl r).1];exact .cons r .nil
  simp_all
theorem Et:∀{pl:List (Nat×Nat)} {vs cells l:List SV} {ws cells':List V},aZ ν m H Z cells cells'->aZ ν m H Z vs ws->qQ m cells pl vs=some l->∃l',jt cells' pl ws=some l'/\aZ ν m H Z l l'
 | [],[],cells,l,ws,cells',hc,hv,h=>by
  rw[hv.bZ];simp[qQ]at h;subst h;exact⟨_,rfl,hc⟩
 | [],_::_,_,_,_,_,_,_,h=>by simp[qQ]at h
 | _::_,[],_,_,_,_,_,_,h=>by simp[qQ]at h
 | (off,size)::pl,v::vs,cells,l,ws,cells',hc,hv,h=>by
  obtain⟨w,ws',rfl,h1,h2⟩:=hv.inv;simp only[qQ]at h;split at h
  .rename_i c hcs;have hr:=Ky hcs h1;split at h
   .obtain⟨l',e1,e2⟩:=Et   (cells':=cells'.take off++w.cells++cells'.drop (off+w.cells.length)) (by rw[<-hr.1];exact((hc.take off).append hr).append (hc.drop _)) h2 h
    have hcond2:w.cells.length=size/\off+w.cells.length<=cells'.length:=by rw[<-hr.1,<-hc.1];omega
    simp[jt]
    grind
   simp_all
  simp_all
theorem Ea {size o:Nat} {agg:Bool} {cs:List SV} {cs':List V} {sv:SV} (h:aZ ν m H Z cs cs') (hp:tO size agg ((cs.drop o).take size)=some sv):∃y,(cut cs' o size).bind (mk agg)=some y/\bY ν m H Z sv y:=by
 have h2:=(h.drop o).take size;unfold tO at hp;split at hp
 .have hc:cut cs' o size=some ((cs'.drop o).take size):=by
   unfold cut;rw[if_pos (by rw[<-h2.1];omega)]
  rw[hc];split at hp
  .split at hp
   .rename_i xs hx;cases hp;have hf  := by rw[qw hx]at h2;exact h2.RJ
    exact⟨_,by unfold mk;grind,.v _ _ (.agg _ _ hf.1 hf.2)⟩
   .cases hp;exact⟨_,by unfold mk;grind,.agg _ _ h2.1 h2.2⟩
  .split at hp
   .rename_i x hx;simp  at hp;subst hp;rw[hx]at h2;obtain⟨y,ys,e,h3,h4⟩:=h2.inv;rw[e,h4.bZ];exact⟨y,by unfold mk;grind,h3⟩
   grind
 grind
theorem MY {p:tC} {svs:List SV} {ys:List V} {sv:SV} (hb:∀zero pl,p=.build zero pl->V.bL zero=true) (ho:∀d ob,ai m d=some ob->cO ν m H Z d ob) (h:aZ ν m H Z svs ys) (hp:vg N m p svs=some sv):∃y,aq N p ys=some y/\bY ν m H Z sv y:=by
 unfold vg at hp;split at hp
 .
  obtain⟨y,_,rfl,h1,h2⟩:=h.inv;rw[h2.bZ];simp  at hp;subst hp;exact⟨y,rfl,h1⟩
 .obtain⟨y,_,rfl,h1,h2⟩:=h.inv;rw[h2.bZ];split at hp
  .rename_i hs;simp  at hp;subst hp;obtain⟨ob,hob⟩:=Option.isSome_iff_exists.1 hs;obtain⟨cs,rfl,rfl⟩:=h1.nj hob;exact⟨_,rfl,h1⟩
  grind
 .obtain⟨y,_,rfl,h1,h2⟩:=h.inv;rw[h2.bZ];split at hp
  .rename_i hs;simp  at hp;subst hp;obtain⟨ob,hob⟩:=Option.isSome_iff_exists.1 hs;obtain⟨k,es,xs,rfl,hk,rfl⟩:=h1.wm hob;exact⟨_,rfl,h1⟩
  grind
 .
  rename_i t a b;obtain⟨w1,_,rfl,h1,h2⟩:=h.inv;obtain⟨w2,_,rfl,h3,h4⟩:=h2.inv;obtain⟨w3,_,rfl,h5,h6⟩:=h4.inv;rw[h1.fr.bool,h6.bZ];simp  at hp;refine⟨if t=true then w2 else w3,rfl,?_⟩
  grind
 .
  obtain⟨w1,_,rfl,h1,h2⟩:=h.inv;obtain⟨w2,_,rfl,h3,h4⟩:=h2.inv;rw[h3.fr.aR,h4.bZ];split at hp
  .rename_i k es xs hob;split at hp
   .simp_all
   .simp  at hp;subst hp;obtain⟨k',es',xs',e,rfl⟩:=h1.jl hob;cases e;cases k <;> first|grind|exact⟨_,rfl,.v _ _ (.same _ rfl)⟩
  grind
 .obtain⟨w1,_,rfl,h1,h2⟩:=h.inv;obtain⟨w2,_,rfl,h3,h4⟩:=h2.inv;rw[h3.fr.aR,h4.bZ];split at hp
  .rename_i k es xs hob;split at hp
   .simp_all
   .simp  at hp;subst hp;obtain⟨k',es',xs',e,rfl⟩:=h1.jl hob;cases e;cases k <;> first|grind|exact⟨_,rfl,.v _ _ (.same _ rfl)⟩
  grind
 .
  obtain⟨y,_,rfl,h1,h2⟩:=h.inv;rw[h2.bZ];split at hp
  .rename_i hs;simp  at hp;subst hp;obtain⟨ob,hob⟩:=Option.isSome_iff_exists.1 hs;obtain⟨cs,rfl,rfl⟩:=h1.nj hob;exact⟨_,rfl,.ptr _ _ _ λob' h'=>by grind⟩
  grind
 .obtain⟨y,_,rfl,h1,h2⟩:=h.inv;rw[h2.bZ];split at hp
  .rename_i hs;simp  at hp;subst hp;obtain⟨ob,hob⟩:=Option.isSome_iff_exists.1 hs;obtain⟨k,es,xs,rfl,hk,rfl⟩:=h1.wm hob;exact⟨_,rfl,.el _ _ _ _ λob' h'=>by rw[hob]at h';cases h';exact⟨_,_,_,rfl,hk,rfl⟩⟩
  .simp at hp
 .
  obtain⟨w1,_,rfl,h1,h2⟩:=h.inv;obtain⟨w2,_,rfl,h3,h4⟩:=h2.inv;rw[h3.fr.int,h4.bZ];split at hp
  .rename_i k es xs hob;split at hp
   .rename_i hc;obtain⟨hk,rfl,hn,hlt⟩:=hc;simp  at hp;subst hp;obtain⟨k',es',xs',e,rfl⟩:=h1.jl hob;cases e;rw[qD hk];refine⟨.hptr (ν _).1 ((ν _).2+_) 0,by simp only[aq,j7,if_neg (Int.not_lt.2 hn),true_and,if_pos hlt];rfl,.el _ _ _ _ λob' h'=>?_⟩
    rw[hob]at h';cases h';exact⟨_,_,_,rfl,hk,rfl⟩
   .simp at hp
  .simp at hp
 .
  obtain⟨w1,_,rfl,h1,h2⟩:=h.inv;obtain⟨w2,_,rfl,h3,h4⟩:=h2.inv;rw[h3.fr.int,h4.bZ];split at hp
  .rename_i hc;simp  at hp;subst hp;obtain⟨ob,hob⟩:=Option.isSome_iff_exists.1 hc.2.2;obtain⟨cs,rfl,rfl⟩:=h1.nj hob;refine⟨.hptr (ν _).1 0 (_+_),by simp only[aq,uT,if_pos (And.intro hc.1 hc.2.1)];rfl,.ptr _ _ _ λob' h'=>?_⟩
   rw[hob]at h';cases h';exact⟨_,rfl,rfl⟩
  .simp at hp
 .obtain⟨w1,_,rfl,h1,h2⟩:=h.inv;obtain⟨w2,_,rfl,h3,h4⟩:=h2.inv;rw[h3.fr.int,h4.bZ];split at hp
  .rename_i hc;simp  at hp;subst hp;obtain⟨ob,hob⟩:=Option.isSome_iff_exists.1 hc.2.2;obtain⟨k,es,xs,rfl,hk,rfl⟩:=h1.wm hob;refine⟨.hptr (ν _).1 (_+_) (_+_),by simp only[aq,uT,if_pos (And.intro hc.1 hc.2.1)];rfl,.el _ _ _ _ λob' h'=>?_⟩
   rw[hob]at h';cases h';exact⟨_,_,_,rfl,hk,rfl⟩
  .simp at hp
 .
  obtain⟨w1,_,rfl,h1,h2⟩:=h.inv;rw[h2.bZ];split at hp
  .rename_i k es xs hob;simp  at hp;subst hp;obtain⟨k',es',xs',e,rfl⟩:=h1.jl hob;cases e;have:=ho _ _ hob;simp[cO]at this;cases hk:k <;> simp[hk,bM]at this ⊢
   .subst this;exact⟨_,rfl,.v _ _ (.same _ rfl)⟩
   .subst this;exact⟨_,rfl,.v _ _ (.same _ rfl)⟩
   .exact⟨_,rfl,.v _ _ (.same _ rfl)⟩
   .exact⟨_,rfl,.v _ _ (.same _ rfl)⟩
  .simp at hp
 .
  rename_i vs name k;simp  at hp;subst hp;exact⟨_,rfl,.clo _ _ _ _ _ (h.take k).1 (h.drop k).1 (h.take k).2 (h.drop k).2⟩
 .
  obtain⟨w1,_,rfl,h1,h2⟩:=h.inv;rw[h2.bZ];obtain⟨ws,rfl,hw⟩:=h1.oP;obtain⟨z,hz,hzz⟩:=hw.get hp;exact⟨z,hz,hzz⟩
 .
  rename_i vs zero pl;obtain⟨l,hl,rfl⟩:=ζf.1 hp;obtain⟨l',h1,h2⟩:=Et (aZ.pF (cr.same (hb zero pl rfl))) h hl;exact⟨.agg l',by simp[Go.VE.aq,h1],.agg _ _ h2.1 h2.2⟩
 .
  obtain⟨w1,_,rfl,h1,h2⟩:=h.inv;rw[h2.bZ];obtain⟨ws,rfl,hw⟩:=h1.gq;obtain⟨y,hy,hyy⟩:=Ea hw hp;exact⟨y,by simp[Go.VE.aq];exact hy,hyy⟩
 grind
theorem EI {p:tC} {svs:List SV} {ys:List V} {sv:SV} (hb:∀zero pl,p=.build zero pl->V.bL zero=true) (ho:∀d ob,ai m d=some ob->cO ν m H Z d ob) (h:aZ ν m H Z svs ys) (hp:iK N m p svs=some sv) :
 ∃y,aq N p ys=some y/\bY ν m H Z sv y:=by
 unfold iK at hp;split at hp
 .rename_i xs hx;obtain⟨z,hz,rfl⟩:=ζf.1 hp;rw[qw hx]at h;obtain⟨z',h1,h2⟩:=cr.aq hb h.RJ hz;exact⟨z',h1,.v _ _ h2⟩
 .exact MY hb ho h hp
theorem aZ.cG {svs:List SV} {xs ys:List V} (h:aZ ν m H Z svs ys) (ha:cG svs=some xs):cr H Z xs ys:=by
 rw[qw ha]at h;exact h.RJ
theorem Ad {k:V}:∀{a b:List (V×V)} {i:Nat},Bp H Z a b->(fT k a i=some none->fT k b i=some none)/\∀j v,fT k a i=some (some (j,v))->∃v',fT k b i=some (some (j,v'))/\FR H Z v v'
 | [],b,i,h=>by
  have:b=[]:=List.length_eq_zero_iff.1 (by have:=h.1;grind)
  subst this;exact⟨λh=>h,λj v h=>by simp[fT]at h⟩
 | (k1,x)::a,[],i,h=>by have:=h.1;grind
 | (k1,x)::a,(k2,y)::b,i,h=>by
  obtain⟨⟨e,_⟩,hx⟩:=h.2 0 _ _ rfl rfl;subst e;have ht:Bp H Z a b:=⟨by have:=h.1;grind,λj u v hu hv=>h.2 (j+1) u v (by grind) (by grind)⟩
  have ih:=Ad (i:=i+1) (k:=k) ht;simp only[fT]
  grind
theorem tU {kk:vL} {k:V} (h:n9 kk k=true):k.scalar=true:=by
 unfold n9 at h;split at h
 .rfl
 .rfl
 .simp  at h;obtain⟨a,ha⟩:=Option.isSome_iff_exists.1 h.2;exact pz ha
 grind
theorem uo {r:GV} {svs:List SV} {ys:List V} {sv:SV} (hnf:∀s a,r≠.loadF s a) (hzc:∀kk z ok,r=.lookup kk z ok->z.good=true) (h:aZ ν m H Z svs ys) (ho:∀d,SV.cB d svs=true->∀ob,ai m d=some ob->cO ν m H Z d ob) (hp:nK m r svs=some sv) :
 ∃y,dB H r ys=some y/\bY ν m H Z sv y:=by
 unfold nK at hp;split at hp
 .
  obtain⟨w1,_,rfl,h1,h2⟩:=h.inv;rw[h2.bZ];split at hp
  .rename_i cs hob;obtain⟨cs1,e,rfl⟩:=h1.nj hob;obtain⟨es,cs',hr,hc,_⟩:=ho _ (by simp[SV.cB,SV.bT]) _ hob
   obtain⟨y,hy,hyy⟩:=Ea hc hp;refine⟨y,?_,hyy⟩;simp[dB,cR,hr,Ob.rows,List.getElem?_cons_zero];omega
  grind
 .
  obtain⟨w1,_,rfl,h1,h2⟩:=h.inv;rw[h2.bZ];split at hp
  .rename_i k es xs hob;split at hp
   .rename_i cs hcs;obtain⟨z,hz,rfl⟩:=ζf.1 hp;obtain⟨k1,es1,xs1,e,hk,rfl⟩:=h1.wm hob;cases e;have:=ho _ (by simp[SV.cB,SV.bT]) _ hob
    simp[cO,hk]at this;obtain⟨rs,hr,hl,hf,_⟩:=this;obtain⟨c,hc,hcc⟩:=hf.get hcs;have hj:=(ζe.1 hcs).1;rw[List.getElem?_take,if_pos hj,List.getElem?_drop]at hc;obtain⟨r1,hr1,hm1⟩:=ζg.1 hz;obtain⟨r2,hr2,hrr⟩:=hcc.cut hr1;obtain⟨z',hz',hzz⟩:=hrr.mk hm1;refine⟨z',?_,.v _ _ hzz⟩;simp[dB,cR,hr,Ob.rows,hc,hr2,hz']
   grind
  grind
 .
  rename_i size agg p;obtain⟨w1,_,rfl,h1,h2⟩:=h.inv;rw[h2.bZ];obtain⟨z,hz,rfl⟩:=ζf.1 hp;obtain⟨r1,hr1,hm1⟩:=ζg.1 hz;unfold cR at hr1;split at hr1
  .rename_i cs;rcases h1.fr.kG with rfl|⟨id,el,off,es,ys,cs2,rfl,hzz,hr,he,hle,hf⟩
   .refine⟨z,by simp[dB,cR,hr1,hm1],.v _ _ (.same _ ?_)⟩
    have hcl  := by have:=h1.fr.good;simpa [V.good]using this
    obtain⟨r',hr',hrr⟩:=(cr.same (H:=H) (Z:=Z) hcl).cut hr1;obtain⟨z',hz',hzz'⟩:=hrr.mk hm1;exact hzz'.good
   .obtain⟨r2,hr2,hrr⟩:=hf.cut hr1;obtain⟨z',hz',hzz'⟩:=hrr.mk hm1;refine⟨z',?_,.v _ _ hzz'⟩;unfold au at hr;simp[dB,cR,hr,he];have:cut cs2 off size=some r2:=by
     unfold cut at hr2 ⊢
     grind
    grind
  .grind
  grind
 .
  rename_i kk z ok d k;obtain⟨w1,_,rfl,h1,h2⟩:=h.inv;obtain⟨w2,_,rfl,h3,h4⟩:=h2.inv;rw[h4.bZ];split at hp
  .rename_i kvs hob;split at hp
   .rename_i hk;obtain⟨_,e,rfl⟩:=h1.A9 hob;have hkk:=h3.fr.scalar.1 (tU hk);subst hkk;obtain⟨kvs',hr,hkv⟩:=ho _ (by simp[SV.cB,SV.bT]) _ hob
    obtain⟨f1,f2⟩:=Ad   hkv;split at hp
    .rename_i j v hf;obtain⟨v',hf',hvv⟩:=f2 j v hf;simp  at hp;subst hp;refine⟨if ok=true then .tup [v',.bool true]else v',by simp[dB,kU,hr,hk,hf'],?_⟩
     cases ok
     .exact .v _ _ hvv
     .refine .v _ _ (.tup _ _ rfl (cr.cons hvv (.cons (.same _ rfl) .nil)).2)
    .rename_i hf;simp  at hp;subst hp;refine⟨if ok=true then .tup [z,.bool false]else z,by simp[dB,kU,hr,hk,f1 hf],?_⟩
     have hz:=hzc kk z ok rfl;cases ok
     .exact .v _ _ (.same _ hz)
     .exact .v _ _ (.same _ (by simp[V.good,V.bL,hz]))
    grind
   grind
  grind
 .
  rename_i kk z ok p k;obtain⟨w1,_,rfl,h1,h2⟩:=h.inv;obtain⟨w2,_,rfl,h3,h4⟩:=h2.inv;rw[h4.bZ];obtain⟨x,hx,rfl⟩:=ζf.1 hp;simp[dB]at hx;have hz:=hzc kk z ok rfl;split at hx
  .rename_i kvs hm;have key:kU H w1=some kvs/\V.qU kvs=true:=by
    unfold kU at hm;split at hm
    .rw[h1.fr.eX];simp  at hm;subst hm;exact⟨rfl,rfl⟩
    .rw[h1.fr.fmap];simp  at hm;subst hm;exact⟨rfl,by have:=h1.fr.good;simpa [V.good]using this⟩
    .simp at hm
    .simp at hm
   split at hx
   .rename_i hk;have hkk:=h3.fr.scalar.1 (tU hk);subst hkk;split at hx
    .rename_i j v hf;simp  at hx;subst hx;have hv  := by
      have:∀{l:List (V×V)} {i:Nat},V.qU l=true->fT w2 l i=some (some (j,v))->v.good=true:=by
       intro l
       induction l with
       | nil=>intro i _ h;simp[fT]at h
       | cons p l ih=>
        intro i hg h;simp[V.qU]at hg;simp[fT]at h;split at h
        .obtain⟨_,rfl⟩:=h;exact hg.1.2
        .exact ih hg.2 h
        .simp at h
      exact this key.2 hf
     refine⟨if ok=true then .tup [v,.bool true]else v,by simp[dB,key.1,hk,hf],?_⟩
     cases ok
     .exact .v _ _ (.same _ hv)
     .exact .v _ _ (.same _ (by simp[V.good,V.bL,hv]))
    .rename_i hf;simp  at hx;subst hx;refine⟨if ok=true then .tup [z,.bool false]else z,by simp[dB,key.1,hk,hf],?_⟩
     cases ok
     .exact .v _ _ (.same _ hz)
     .exact .v _ _ (.same _ (by simp[V.good,V.bL,hz]))
    .simp at hx
   .simp at hx
  .simp at hx
 .exact absurd rfl (hnf _ _)
 grind
end
end Go.VE
namespace Go.VE
variable [aW]
section
variable {Rv:Nat->Prop} {ν ν':Nu} {Z Z':Nat->Prop} {st st':St} {m m':Tb aM} {F F':Frame} {H H':ak}
theorem R.lt (r:R ν Z st F H) {id:Nat} (h:eC ν st.m id):id<H.length:=by
 obtain⟨d,ob,h1,h2,rfl⟩:=h;have:=r.obj d ob h1
 cases ob with
 | sl k es xs=>
  simp only[bK]at h2;simp only[cO,h2,if_true]at this;obtain⟨ys,hr,_⟩:=this;exact(ζe.1 hr).1
 | box cs=>obtain⟨es,cs',hr,_⟩:=this;exact(ζe.1 hr).1
 | mp kvs=>obtain⟨kvs',hr,_⟩:=this;exact(ζe.1 hr).1
theorem R.uk (r:R ν Z st F H) {id:Nat} (h:Z id):id<H.length:=by
 have:=r.zrow id h;unfold au at this;obtain⟨x,hx⟩:=Option.isSome_iff_exists.1 this;obtain⟨ob,h1,_⟩:=ζg.1 hx;exact(ζe.1 h1).1
theorem Deep.mono (d:Deep H Z) (h:∀id,Z id->au H' id=au H id):Deep H' Z where
 row:=λid es ys hz hr c hc u hu=>by
  rw[h id hz]at hr;obtain⟨x,hx⟩:=d.row id es ys hz hr c hc u hu;exact⟨x,hx.mono λk hk=>⟨hk,h k hk⟩⟩
theorem tT.mono {ys:List (List V)} (h:∀id,Z id->Z' id/\au H' id=au H id) (s:tT H Z ys):tT H' Z' ys:=λc hc u hu=>by
 obtain⟨x,hx⟩:=s c hc u hu;exact⟨x,hx.mono h⟩
theorem Bp.mono {a b:List (V×V)} (h:∀id,Z id->Z' id/\au H' id=au H id) (s:Bp H Z a b):Bp H' Z' a b:=⟨s.1,λj u v hu hv=>⟨(s.2 j u v hu hv).1,(s.2 j u v hu hv).2.mono h⟩⟩
theorem cO.mono {d d':Nat} {ob:aM} (hz:∀id,Z id->Z' id/\au H' id=au H id) (hd:ν' d'=ν d) (hh:bK ob=true->H'[(ν d).1]? = H[(ν d).1]?)
 (hn:∀e,ob.bT e=true->∀ob',ai m' e=some ob'->∃ob,ai m e=some ob/\ν' e=ν e/\sameShape ob ob') (o:cO ν m H Z d ob):cO ν' m' H' Z' d' ob:=by
 cases ob with
 | sl k es xs=>
  simp only[cO,hd]at o ⊢;split
  .rename_i hk;rw[if_pos hk]at o;obtain⟨ys,h1,h2,h3,h4,h5⟩:=o;exact⟨ys,by rw[hh (by simpa [bK]using hk)];exact h1,h2,h3.mono hz,h4.mono hz,h5⟩
  .rename_i hk;rw[if_neg hk]at o;exact o
 | box cs=>
  obtain⟨es,cs',h1,h2,h3⟩:=o;exact⟨es,cs',by rw[hd,hh rfl];exact h1,h2.mono hz hn,h3⟩
 | mp kvs=>
  obtain⟨kvs',h1,h2⟩:=o;exact⟨kvs',by rw[hd,hh rfl];exact h1,h2.mono hz⟩
theorem gM (ν:Nu) (m:Tb aM) (e:Nat):∀ob',ai m e=some ob'->∃ob,ai m e=some ob/\ν e=ν e/\sameShape ob ob':=λob' h=>⟨ob',h,rfl,.refl _⟩
theorem R.heap (r:R ν Z st F H) (ho:∀id,eC ν st.m id->H'[id]? = H[id]?) (hz:∀id,Z id->au H' id=au H id):R ν Z st F H' where
 slot:=λs sv hs=>(r.slot s sv hs).mono (λid h=>⟨h,hz id h⟩) λd _=>gM ν st.m d
 obj:=λd ob hd=>cO.mono (λid h=>⟨h,hz id h⟩) rfl (λhb=>ho _ ⟨d,ob,hd,hb,rfl⟩) (λe _=>gM ν st.m e) (r.obj d ob hd)
 inj:=r.inj
 apart:=r.apart
 zrow:=λid h=>by rw[hz id h];exact r.zrow id h
 deep:=r.deep.mono hz
theorem R.put (r:R ν Z st F H) {d:Nat} {sv:SV} {y:V} (h:bY ν st.m H Z sv y):R ν Z { st with g:=aU st.g d sv } (set F d y) H where
 slot:=λs x hs=>by
  by_cases e:d=s
  .subst e;rw[bH]at hs;cases hs;rw[tM];exact h
  .rw[cU st.g sv e]at hs;rw[gX _ _ e];exact r.slot s x hs
 obj:=r.obj
 inj:=r.inj
 apart:=r.apart
 zrow:=r.zrow
 deep:=r.deep
theorem Ev.slots (g:Tb SV):Ev Rv ν Z st H ν Z { st with g:=g } H:=
 ⟨Nat.le_refl _,λ_ _ _ _ _=>rfl,λ_ h=>⟨h,rfl⟩,λ_ h=>.inl h,λ_ h=>.inl h,λ_ _ ob' h=>⟨ob',h,rfl,.refl _⟩,rfl⟩
def iq (ν:Nu) (d:Nat) (p:Nat×Nat):Nu:=λk=>if k=d then p else ν k
theorem gy (ν:Nu) (d:Nat) (p:Nat×Nat):iq ν d p d=p:=if_pos rfl
theorem qA (ν:Nu) {d k:Nat} (p:Nat×Nat) (h:k≠d):iq ν d p k=ν k:=if_neg h
theorem lE {d:Nat} (h:st.new d=true):d∉st.pin/\ai st.m d=none/\tJ d st.g=false/\qK d st.m=false:=by
 unfold St.new at h;simp only[ζh,Bool.not_eq_true',Option.isNone_iff_eq_none,List.contains_eq_mem,decide_eq_false_iff_not]at h;exact⟨h.1.1.1,h.1.1.2,h.1.2,h.2⟩
theorem rO {d:Nat} {ob:aM} {p:Nat×Nat} {e:Nat} (h:e≠d):∀ob',ai (aU m d ob) e=some ob'->∃ob,ai m e=some ob/\iq ν d p e=ν e/\sameShape ob ob':=λob' h2=>by
 rw[cU m ob (Ne.symm h)]at h2;exact⟨ob',h2,qA ν p h,.refl _⟩
theorem R.add (r:R ν Z st F H) {d:Nat} (hn:st.new d=true) {ob:aM} {p:Nat×Nat} (hb:bK ob=true->¬eC ν st.m p.1/\¬Z p.1) (ho:cO (iq ν d p) (aU st.m d ob) H Z d ob) :
 R (iq ν d p) Z { st with m:=aU st.m d ob } F H:=by
 obtain⟨n1,n2,n3,n4⟩:=lE hn;have key:∀d' ob',ai (aU st.m d ob) d'=some ob'->d'≠d->ai st.m d'=some ob':=λd' ob' h e=>by rw[cU st.m ob (Ne.symm e)]at h;exact h
 refine⟨λs sv hs=>?_,λd' ob' hd=>?_,?_,?_,r.zrow,r.deep⟩
 .refine(r.slot s sv hs).mono (λid h=>⟨h,rfl⟩) λe he=>rO ?_
  rintro rfl;rw[wA n3 hs]at he;cases he
 .by_cases e:d'=d
  .subst e;simp only at hd;rw[bH]at hd;cases hd;exact ho
  .have hd':=key d' ob' hd e;refine cO.mono (λid h=>⟨h,rfl⟩) (qA ν p e) (λ_=>rfl) (λk hk=>rO ?_) (r.obj d' ob' hd')
   rintro rfl;rw[wF n4 hd']at hk;cases hk
 .intro d1 d2 o1 o2 h1 h2 b1 b2 hp
  by_cases e1:d1=d <;> by_cases e2:d2=d
  .rw[e1,e2]
  .subst e1;rw[gy,qA ν p e2]at hp;simp only at h1;rw[bH]at h1;cases h1;exact absurd ⟨d2,o2,key d2 o2 h2 e2,b2,hp.symm⟩ (hb b1).1
  .subst e2;rw[gy,qA ν p e1]at hp;simp only at h2;rw[bH]at h2;cases h2;exact absurd ⟨d1,o1,key d1 o1 h1 e1,b1,hp⟩ (hb b2).1
  .rw[qA ν p e1,qA ν p e2]at hp;exact r.inj d1 d2 o1 o2 (key d1 o1 h1 e1) (key d2 o2 h2 e2) b1 b2 hp
 .intro d1 o1 h1 b1
  by_cases e1:d1=d
  .subst e1;simp only at h1;rw[bH]at h1;cases h1;rw[gy];exact(hb b1).2
  .rw[qA ν p e1];exact r.apart d1 o1 (key d1 o1 h1 e1) b1
theorem GN {d:Nat} {ob:aM} {p:Nat×Nat} {id:Nat} (h:eC (iq ν d p) (aU m d ob) id):eC ν m id\/(bK ob=true/\id=p.1):=by
 obtain⟨k,o,h1,h2,h3⟩:=h
 by_cases e:k=d
 .subst e;rw[bH]at h1;cases h1;rw[gy]at h3;exact .inr ⟨h2,h3.symm⟩
 .rw[qA ν p e]at h3;rw[cU m ob (Ne.symm e)]at h1;exact .inl ⟨k,o,h1,h2,h3⟩
theorem Ev.add {d:Nat} (hn:st.new d=true) {ob:aM} {p:Nat×Nat} (hl:H.length<=H'.length) (hs:∀id,id<H.length->¬Rv id->H'[id]? = H[id]?) (hz:∀id,Z id->au H' id=au H id)
 (hp:bK ob=true->Rv p.1\/H.length<=p.1):Ev Rv ν Z st H (iq ν d p) Z { st with m:=aU st.m d ob } H' where
 len:=hl
 same:=λid h _ _ hr=>hs id h hr
 rows:=λid h=>⟨h,hz id h⟩
 own:=λid h=>by
  rcases GN h with h|⟨h1,rfl⟩
  .exact .inl h
  .exact .inr (hp h1)
 frz:=λid h=>.inl h
 pin:=λe he ob' h=>by
  have:e≠d:=by rintro rfl;exact(lE hn).1 he
  exact rO this ob' h
 pins:=rfl
theorem R.fB (r:R ν Z st F H) {d:Nat} {ob ob':aM} (h0:ai st.m d=some ob) (hs:sameShape ob ob') (hb:bK ob'=bK ob) (hh:∀id,id≠(ν d).1->H'[id]? = H[id]?) (hbb:bK ob=true)
 (ho:cO ν (aU st.m d ob') H' Z d ob'):R ν Z { st with m:=aU st.m d ob' } F H':=by
 have hzr:∀id,Z id->Z id/\au H' id=au H id:=λid h=>⟨h,by
  unfold au;rw[hh id (by rintro rfl;exact r.apart d ob h0 hbb h)]⟩
 have sm:∀e ob2,ai (aU st.m d ob') e=some ob2->∃ob1,ai st.m e=some ob1/\ν e=ν e/\sameShape ob1 ob2:=λe ob2 h=>by
  by_cases k:e=d
  .subst k;rw[bH]at h;cases h;exact⟨ob,h0,rfl,hs⟩
  .rw[cU st.m ob' (Ne.symm k)]at h;exact⟨ob2,h,rfl,.refl _⟩
 have bk:∀e ob2,ai (aU st.m d ob') e=some ob2->∃ob1,ai st.m e=some ob1/\bK ob1=bK ob2:=λe ob2 h=>by
  by_cases k:e=d
  .subst k;rw[bH]at h;cases h;exact⟨ob,h0,hb.symm⟩
  .rw[cU st.m ob' (Ne.symm k)]at h;exact⟨ob2,h,rfl⟩
 refine⟨λs sv hs=>(r.slot s sv hs).mono hzr λe _=>sm e,λd' ob2 hd=>?_,?_,?_,λid h=>by rw[(hzr id h).2];exact r.zrow id h,r.deep.mono λid h=>(hzr id h).2⟩
 .by_cases e:d'=d
  .subst e;simp only at hd;rw[bH]at hd;cases hd;exact ho
  .simp only at hd;rw[cU st.m ob' (Ne.symm e)]at hd;refine cO.mono hzr rfl (λhb2=>hh _ λh=>e (r.inj d' d ob2 ob hd h0 hb2 hbb h)) (λk _=>sm k) (r.obj d' ob2 hd)
 .intro d1 d2 o1 o2 h1 h2 b1 b2 hp;obtain⟨p1,k1,l1⟩:=bk d1 o1 h1;obtain⟨p2,k2,l2⟩:=bk d2 o2 h2;exact r.inj d1 d2 p1 p2 k1 k2 (by rw[l1];exact b1) (by rw[l2];exact b2) hp
 .intro d1 o1 h1 b1;obtain⟨p1,k1,l1⟩:=bk d1 o1 h1;exact r.apart d1 p1 k1 (by rw[l1];exact b1)
theorem Ev.fB (r:R ν Z st F H) {d:Nat} {ob ob':aM} (h0:ai st.m d=some ob) (hs:sameShape ob ob') (hb:bK ob'=bK ob) (hh:∀id,id≠(ν d).1->H'[id]? = H[id]?) (hbb:bK ob=true) (hl:H.length<=H'.length) :
 Ev Rv ν Z st H ν Z { st with m:=aU st.m d ob' } H' where
 len:=hl
 same:=λid _ ho _ _=>hh id λe=>ho ⟨d,ob,h0,hbb,e.symm⟩
 rows:=λid h=>⟨h,by unfold au;rw[hh id (by rintro rfl;exact r.apart d ob h0 hbb h)]⟩
 own:=λid ⟨k,o,h1,h2,h3⟩=>by
  by_cases e:k=d
  .subst e;simp only at h1;rw[bH]at h1;cases h1;exact .inl ⟨k,ob,h0,hbb,h3⟩
  .simp only at h1;rw[cU st.m ob' (Ne.symm e)]at h1;exact .inl ⟨k,o,h1,h2,h3⟩
 frz:=λid h=>.inl h
 pin:=λe _ ob2 h=>by
  by_cases k:e=d
  .subst k;simp only at h;rw[bH]at h;cases h;exact⟨ob,h0,rfl,hs⟩
  .simp only at h;rw[cU st.m ob' (Ne.symm k)]at h;exact⟨ob2,h,rfl,.refl _⟩
 pins:=rfl
theorem R.less (r:R ν Z st F H) {g:Tb SV} {m':Tb aM} (hg:∀s sv,ai g s=some sv->ai st.g s=some sv) (hm:∀d ob,ai m' d=some ob->ai st.m d=some ob):R ν Z { st with g:=g,m:=m' } F H where
 slot:=λs sv hs=>(r.slot s sv (hg s sv hs)).mono (λid h=>⟨h,rfl⟩) λe _ ob' h=>⟨ob',hm e ob' h,rfl,.refl _⟩
 obj:=λd ob hd=>cO.mono (λid h=>⟨h,rfl⟩) rfl (λ_=>rfl) (λe _ ob' h=>⟨ob',hm e ob' h,rfl,.refl _⟩) (r.obj d ob (hm d ob hd))
 inj:=λd d' ob ob' h1 h2=>r.inj d d' ob ob' (hm d ob h1) (hm d' ob' h2)
 apart:=λd ob h=>r.apart d ob (hm d ob h)
 zrow:=r.zrow
 deep:=r.deep
theorem Ev.less {g:Tb SV} {m':Tb aM} (hm:∀d ob,ai m' d=some ob->ai st.m d=some ob):Ev Rv ν Z st H ν Z { st with g:=g,m:=m' } H:=
 ⟨Nat.le_refl _,λ_ _ _ _ _=>rfl,λ_ h=>⟨h,rfl⟩,λ_ ⟨d,ob,h1,h2,h3⟩=>.inl ⟨d,ob,hm d ob h1,h2,h3⟩,λ_ h=>.inl h,λe _ ob' h=>⟨ob',hm e ob' h,rfl,.refl _⟩,rfl⟩
theorem Ev.heap (hl:H.length<=H'.length) (hs:∀id,id<H.length->¬eC ν st.m id->¬Z id->¬Rv id->H'[id]? = H[id]?) (hz:∀id,Z id->au H' id=au H id):Ev Rv ν Z st H ν Z st H':=
 ⟨hl,hs,λid h=>⟨h,hz id h⟩,λ_ h=>.inl h,λ_ h=>.inl h,λ_ _ ob' h=>⟨ob',h,rfl,.refl _⟩,rfl⟩
end
end Go.VE
namespace Go.VE
variable [aW]
section
variable {Rv:Nat->Prop} {ν ν':Nu} {Z Z':Nat->Prop} {st st':St} {m m':Tb aM} {F F':Frame} {H H':ak}
theorem fc.DZ {xs ys:List (List V)} (h:fc H Z xs ys):tT H Z ys:=λc hc u hu=>by
 obtain⟨i,hi⟩:=List.mem_iff_getElem?.1 hc;have hl:i<xs.length:=by rw[h.1];grind
 have hr:=h.2 i _ c (ζd hl) hi;obtain⟨j,hj⟩:=List.mem_iff_getElem?.1 hu;have hl2:j<(xs[i]).length:=by rw[hr.1];grind
 exact⟨_,hr.2 j _ u (ζd hl2) hj⟩
theorem fc.same {xs:List (List V)} (h:V.mP xs=true):fc H Z xs xs:=
 ⟨rfl,λj u v hu hv=>by rw[hu]at hv;cases hv;exact cr.same (jX.1 h j u hu)⟩
theorem mM {z:List V} (h:V.bL z=true):∀n,V.mP (List.replicate n z)=true
 | 0=>rfl
 | n+1=>by simp[List.replicate_succ,V.mP,h,mM h n]
theorem zW {es:Nat}:∀{ps qs:List (Nat×V)} {xs xs' r:List (List V)},fc H Z xs xs'->ps.map (·.1)=qs.map (·.1)->cr H Z (ps.map (·.2)) (qs.map (·.2))->e_ es xs ps=some r->∃r',e_ es xs' qs=some r'/\fc H Z r r'
 | [],qs,xs,xs',r,hx,h1,h2,h=>by
  have:qs=[]:=by simp_all
  subst this;simp[e_]at h ⊢;grind
 | (i,v)::ps,qs,xs,xs',r,hx,h1,h2,h=>by
  cases qs with
  | nil=>simp_all
  | cons q qs=>
   obtain⟨j,w⟩:=q;simp  at h1;obtain⟨e,h1⟩:=h1;subst e;obtain⟨w',ws,e,h3,h4⟩:=h2.inv;obtain⟨rfl,rfl⟩:=e;have hc:=h3.cells;simp only[e_]at h ⊢;split at h
   .rw[if_pos ⟨by rw[<-hc.1];grind,by rw[<-hx.1];grind,by rw[hc.one];grind⟩]
    exact zW (hx.set i hc) h1 h4 h
   grind
theorem Cx:∀{idx:List Nat} {xs:List V},idx.length=xs.length->(idx.zip xs).map (·.1)=idx
 | [],xs,_=>by simp
 | i::idx,[],h=>by simp_all
 | i::idx,x::xs,h=>by simp[Cx (idx:=idx) (xs:=xs) (by grind)]
theorem Cj:∀{idx:List Nat} {xs:List V},idx.length=xs.length->(idx.zip xs).map (·.2)=xs
 | [],[],_=>by simp
 | [],x::xs,h=>by simp_all
 | i::idx,[],h=>by simp_all
 | i::idx,x::xs,h=>by simp[Cj (idx:=idx) (xs:=xs) (by grind)]
theorem Ju {a:Kw} {svs:List SV} {ys:List V} {d:Nat} {ob:aM} {sv:SV} (hk:zx (.a a)=true) (r:aZ ν m H Z svs ys) (h:nV m a svs d=some (ob,sv)) :
 ∃o mk,gL a ys=some (o,mk)/\bK ob=true/\o≠.free/\∀(id:Nat) (ν':Nu) (m':Tb aM) (H':ak),ν' d=(id,0)->ai m' d=some ob->H'[id]? = some o->(∀k,Z k->au H' k=au H k) ->
  (∀e,SV.cB e svs=true->∀ob',ai m' e=some ob'->∃ob,ai m e=some ob/\ν' e=ν e/\sameShape ob ob')->cO ν' m' H' Z d ob/\bY ν' m' H' Z sv (mk.val id):=by
 unfold nV at h;split at h
 .
  rename_i size zero;obtain⟨rfl,rfl⟩:=h;rw[r.bZ];simp only[zx,ζh]at hk;refine⟨_,_,rfl,rfl,by simp,λid ν' m' H' e1 e2 e3 e4 e5=>⟨⟨_,zero,by rw[e1];omega,aZ.pF (cr.same hk.1),hk.2⟩,?_⟩⟩
  exact .ptr _ _ _ λob' h'=>by rw[e2]at h';cases h';exact⟨_,rfl,by rw[e1];rfl⟩
 .
  split at h
  .rename_i hone;obtain⟨rfl,rfl⟩:=h;obtain⟨y,_,rfl,h1,h2⟩:=r.inv;rw[h2.bZ];have hc:=h1.fr.cells;refine⟨.row y.cells.length [y.cells],.ptr,by simp[gL,hc.one,hone],rfl,by simp,λid ν' m' H' e1 e2 e3 e4 e5=>⟨⟨_,y.cells,by rw[e1];omega,aZ.pF (hc.mono λk hk=>⟨hk,e4 k hk⟩),by rw[hc.one];simp_all⟩,?_⟩⟩
   exact .ptr _ _ _ λob' h'=>by rw[e2]at h';cases h';exact⟨_,rfl,by rw[e1];rfl⟩
  grind
 .
  split at h
  .rename_i hl;obtain⟨rfl,rfl⟩:=h;obtain⟨y,_,rfl,h1,h2⟩:=r.inv;rw[h2.bZ];obtain⟨a',rfl,ra⟩:=h1.gq;have c2:=Dq hl ra;refine⟨.row a'.length [a'],.ptr,by simp[gL,V.cells,c2],rfl,by simp,λid ν' m' H' e1 e2 e3 e4 e5=>⟨⟨_,a',by rw[e1];omega,ra.mono (λk hk=>⟨hk,e4 k hk⟩) λe he=>e5 e (by simp[SV.cB,SV.bT,he]),c2⟩,?_⟩⟩
   exact .ptr _ _ _ λob' h'=>by rw[e2]at h';cases h';exact⟨_,rfl,by rw[e1];rfl⟩
  grind
 .
  split at h
  .rename_i hl;obtain⟨rfl,rfl⟩:=h;obtain⟨y,_,rfl,h1,h2⟩:=r.inv;rw[h2.bZ];obtain⟨c1,c2⟩:=ko hl h1;refine⟨.row [y].length [[y]],.ptr,by simp[gL,c1,c2],rfl,by simp,λid ν' m' H' e1 e2 e3 e4 e5=>⟨⟨_,[y],by rw[e1];omega,.cons (h1.mono (λk hk=>⟨hk,e4 k hk⟩) λe he=>e5 e (by simp[SV.cB,he])) .nil,by simp_all⟩,?_⟩⟩
   exact .ptr _ _ _ λob' h'=>by rw[e2]at h';cases h';exact⟨_,rfl,by rw[e1];rfl⟩
  grind
 .
  rename_i size zero k n k' c;obtain⟨_,_,rfl,h1,h2⟩:=r.inv;obtain⟨_,_,rfl,h3,h4⟩:=h2.inv;rw[h1.fr.int,h3.fr.int,h4.bZ];split at h
  .rename_i hc;obtain⟨rfl,rfl⟩:=h;have hb:bM (if n=c then Fl.row else Fl.part)=true:=by split <;> rfl
   refine⟨_,_,by simp only[gL];rw[if_pos hc],hb,by simp,λid ν' m' H' e1 e2 e3 e4 e5=>⟨?_,?_⟩⟩
   .simp[cO,hb,e1];have hg:=mM hk c.toNat;have hnc:n.toNat<=c.toNat:=by omega
    refine⟨_,e3,by simp_all,?_,(fc.same hg).DZ,λe=>?_⟩
    .simp[Nat.min_eq_left hnc];exact fc.same (mM hk _)
    grind
   .refine .own _ _ λob' h'=>?_
    rw[e2]at h';cases h';exact⟨_,_,_,rfl,by rw[qD hb,e1];simp[Mk.val]⟩
  grind
 .
  rename_i vs size len zero idx;split at h
  .rename_i xs hx;split at h
   .rename_i hl;obtain⟨rows,hr,e⟩:=ζf.1 h;obtain⟨rfl,rfl⟩:=e;have hf:=r.cG hx;obtain⟨rows',hr',hrr⟩:=zW   (qs:=idx.zip ys) (fc.same (mM hk len)) (by rw[Cx hl,Cx (by rw[<-hf.1];exact hl)]) (by rw[Cj hl,Cj (by rw[<-hf.1];exact hl)];exact hf) hr
    have hlen:rows'.length=len:=by
     have:∀{ps:List (Nat×V)} {a r:List (List V)},e_ size a ps=some r->r.length=a.length:=by
      intro ps
      induction ps with
      | nil=>intro a r h;simp[e_]at h;subst h;rfl
      | cons p ps ih=>
       intro a r h;simp only[e_]at h;split at h
       .rw[ih h];simp
       .simp at h
     rw[this hr'];simp
    refine⟨.row size rows',.sl size len,by simp only[gL];rw[if_pos (by rw[<-hf.1];exact hl),hr'];rfl,rfl,by simp,λid ν' m' H' e1 e2 e3 e4 e5=>⟨?_,?_⟩⟩
    .have hr2:=hrr.mono   λk hk=>⟨hk,e4 k hk⟩
     simp only[cO,e1];refine⟨_,e3,by simp[hrr.1],?_,hr2.DZ,λ_=>⟨trivial,hrr.1.symm⟩⟩
     simp[hrr.1];exact hr2
    .refine .own _ _ λob' h'=>?_
     rw[e2]at h';cases h';exact⟨_,_,_,rfl,by rw[hrr.1,hlen];simp[qq,e1,Mk.val]⟩
   grind
  grind
 .
  obtain⟨rfl,rfl⟩:=h;rw[r.bZ];refine⟨_,_,rfl,rfl,by simp,λid ν' m' H' e1 e2 e3 e4 e5=>⟨⟨_,by rw[e1];exact e3,rfl,by simp⟩,?_⟩⟩
  exact .mp _ _ λob' h'=>by rw[e2]at h';cases h';exact⟨_,rfl,by rw[e1];rfl⟩
 grind
theorem aZ.Rc {cs:List SV} {cs':List V} (h:aZ ν m H Z cs cs') {size o:Nat} {x:SV} {y:V} {r:List SV} (hx:bY ν m H Z x y) (hp:putCells m size o x cs=some r) (hone:cs'.all V.one=true) :
 y.cells.length=size/\o+size<=cs'.length/\y.cells.all V.one=true/\aZ ν m H Z r (cs'.take o++y.cells++cs'.drop (o+y.cells.length))/\(cs'.take o++y.cells++cs'.drop (o+y.cells.length)).all V.one=true:=by
 have hall:∀k:Nat,(cs'.take k).all V.one=true/\(cs'.drop k).all V.one=true:=λk=>
  ⟨List.all_eq_true.2 λz hz=>List.all_eq_true.1 hone z (List.mem_of_mem_take hz),List.all_eq_true.2 λz hz=>List.all_eq_true.1 hone z (List.mem_of_mem_drop hz)⟩
 unfold putCells at hp;split at hp
 .split at hp
  .rename_i hc;simp only[ζa]at hp;subst hp;have hf:=hx.fr.cells;refine⟨by rw[<-hf.1];simp_all,by rw[<-h.1];grind,by rw[hf.one];grind,?_,?_⟩
   .have e:y.cells.length=size:=by rw[<-hf.1];simp_all
    rw[e];exact((h.take o).append (aZ.pF hf)).append (h.drop _)
   .simp only[List.all_append,(hall _).1,(hall _).2,hf.one,hc.2.2,Bool.and_self]
  grind
 .split at hp
  .rename_i hc;simp only[ζa]at hp;subst hp;obtain⟨a',rfl,ra⟩:=hx.gq;have ho:=Dq hc.2.2 ra;have e:a'.length=size:=by rw[<-ra.1];simp_all
   refine⟨e,by rw[<-h.1];grind,ho,?_,?_⟩
   .show aZ ν m H Z _ (cs'.take o++a'++cs'.drop (o+a'.length));rw[e];exact((h.take o).append ra).append (h.drop _)
   .simp[(hall _).1,(hall _).2,V.cells,ho]
  grind
 .split at hp
  .rename_i hc;simp only[ζa]at hp;subst hp;obtain⟨c1,c2⟩:=ko hc.1 hx;rw[c1];refine⟨by simp[hc.2.1],by rw[<-h.1];grind,by simp_all,?_,?_⟩
   .exact((h.take o).append (.cons hx .nil)).append (h.drop _)
   grind
  grind
theorem uW {size:Nat} {x:SV} {y:V} {xs:List (List V)} (r:bY ν m H Z x y) (ho:∀d ob,ai m d=some ob->cO ν m H Z d ob) (h:jf m size x=some xs):∃ys,cW H size y=some ys/\fc H Z xs ys:=by
 unfold jf at h;split at h
 .split at h
  .rename_i k es xs' hob;obtain⟨_,_,_,e,rfl⟩:=r.jl hob;cases e;have o:=ho _ _ hob;simp[cO]at o;split at h
   .rename_i hk;rw[if_pos hk]at o;split at h
    .rename_i he;simp  at h;subst h;obtain⟨ys,hr,hl,hf,_⟩:=o;rw[qD hk];exact⟨_,by simp[cW,if_pos he,hr,Ob.rows,if_pos hl],hf⟩
    grind
   .rename_i hk;simp  at h;subst h;refine⟨[],?_,rfl,by simp⟩
    cases k <;> simp[bM]at hk <;> rfl
  grind
 .simp  at h;subst h;rw[r.fr.aR];exact⟨[],rfl,rfl,by simp⟩
 .simp  at h;subst h;rw[r.fr.ck];exact⟨[],rfl,rfl,by simp⟩
 .split at h
  .rename_i es xs' he;simp  at h;subst h;have hg:=r.fr.good;rcases r.fr.kB with rfl|⟨id,off,ys,rfl,hz,hr,hl,hf⟩
   .exact⟨_,by simp[cW,if_pos he],fc.same (by simpa [V.good]using hg)⟩
   .unfold au at hr;exact⟨_,by simp[cW,if_pos he,hr,if_pos hl],hf⟩
  grind
 grind
theorem Ev.re {m1:Tb aM} (hm:∀d ob,ai m1 d=some ob->ai st.m d=some ob) {d:Nat} (hn:d∉st.pin) {ob:aM} {p:Nat×Nat} (hl:H.length<=H'.length) (hs:∀id,id<H.length->¬eC ν st.m id->¬Rv id->H'[id]? = H[id]?)
 (hz:∀id,Z id->au H' id=au H id) (hp:bK ob=true->eC ν st.m p.1\/Rv p.1\/H.length<=p.1):Ev Rv ν Z st H (iq ν d p) Z { st with m:=aU m1 d ob } H' where
 len:=hl
 same:=λid h ho _ hr=>hs id h ho hr
 rows:=λid h=>⟨h,hz id h⟩
 own:=λid h=>by
  rcases GN h with h|⟨h1,rfl⟩
  .obtain⟨k,o,h1,h2,h3⟩:=h;exact .inl ⟨k,o,hm k o h1,h2,h3⟩
  grind
 frz:=λid h=>.inl h
 pin:=λe he ob' h=>by
  have:e≠d:=by grind
  obtain⟨o,h1,h2,h3⟩:=rO (ν:=ν) (p:=p) this ob' h
  grind
 pins:=rfl
def Kept (dst:Option Nat) (ν:Nu) (m:Tb aM) (ν':Nu) (m':Tb aM):Prop:=∀e ob',dst≠some e->ai m' e=some ob'->∃ob,ai m e=some ob/\ν' e=ν e/\sameShape ob ob'
theorem Kept.refl {dst:Option Nat}:Kept dst ν m ν m:=λe ob' _ h=>⟨ob',h,rfl,.refl _⟩
theorem Kept.fB {dst:Option Nat} {d:Nat} {ob ob':aM} (h0:ai m d=some ob) (hs:sameShape ob ob'):Kept dst ν m ν (aU m d ob'):=λe ob2 _ h=>by
 by_cases k:e=d
 .subst k;rw[bH]at h;grind
 .rw[cU m ob' (Ne.symm k)]at h;exact⟨ob2,h,rfl,.refl _⟩
theorem Kept.add {d:Nat} {ob:aM} {p:Nat×Nat} {m1:Tb aM} (hm:∀d ob,ai m1 d=some ob->ai m d=some ob):Kept (some d) ν m (iq ν d p) (aU m1 d ob):=λe ob' he h=>by
 have:e≠d:=λh=>he (by rw[h])
 obtain⟨o,h1,h2,h3⟩:=rO (ν:=ν) (p:=p) this ob' h
 grind
theorem ji {d:Nat}:∀e ob,ai (cV d m) e=some ob->ai m e=some ob:=λ_ _ h=>(mz h).2
theorem Bp.put {k x y:V} {a b r:List (V×V)} (hks:k.scalar=true) (h:Bp H Z a b) (hx:FR H Z x y) (hp:od k x a=some r):∃r',od k y b=some r'/\Bp H Z r r':=by
 unfold od at hp;obtain⟨f1,f2⟩:=Ad   h;split at hp
 .rename_i j v hf;simp  at hp;subst hp;obtain⟨v',hf',_⟩:=f2 j v hf;refine⟨b.set j (k,y),by unfold od;rw[hf'],by simp[h.1],λi u w hu hw=>?_⟩
  rw[List.getElem?_set]at hu hw;split at hu
  .grind
  .rename_i e;rw[if_neg e]at hw;exact h.2 i u w hu hw
 .simp  at hp;subst hp;refine⟨b++[(k,y)],by unfold od;simp_all,by simp[h.1],λi u w hu hw=>?_⟩
  by_cases hi:i<a.length
  .rw[List.getElem?_append_left hi]at hu;rw[List.getElem?_append_left (by rw[<-h.1];omega)]at hw
   exact h.2 i u w hu hw
  .rw[List.getElem?_append_right (by rw[<-h.1];omega),<-h.1]at hw
   grind
 grind
theorem Hi (r:R ν Z st F H) {d:Nat} {cs:List SV} (hob:ai st.m d=some (.box cs)):∀{l:List SV} {ws:List V},aZ ν st.m H Z l ws->l.all (IB st.m d)=true->ws.all (o7 (ν d).1)=true:=by
 intro l
 induction l with
 | nil=>intro ws hw _;rw[hw.bZ];rfl
 | cons a l ih=>
  intro ws hw hf;obtain⟨w,ws,rfl,g1,g2⟩:=hw.inv;simp only[List.all_cons,ζh]at hf ⊢;refine⟨?_,ih g2 hf.2⟩;have hf1:=hf.1;unfold IB at hf1;split at hf1
  .rename_i d' o';simp  at hf1;obtain⟨hne,hbx⟩:=hf1;split at hbx
   .rename_i cs2 hob2;obtain⟨_,_,rfl⟩:=g1.nj hob2;simp[o7];exact λe=>hne (r.inj d' d _ _ hob2 hob rfl rfl e)
   grind
  .rcases FR.kG g1.fr with rfl|⟨id,el,off,_,_,_,rfl,hzz,_⟩
   .rfl
   .simp[o7];rintro rfl;exact r.apart d _ hob rfl hzz
  grind
theorem Am (r:R ν Z st F H) {dst:Option Nat} {l:GQ} {svs:List SV} {ys:List V} {sv:SV} (hsv:aZ ν st.m H Z svs ys) (h:iX st dst l svs=some (sv,st')) :
 ∃y H' ν',eA H l ys=some (y,H')/\R ν' Z st' F H'/\bY ν' st'.m H' Z sv y/\Ev (λ_=>False) ν Z st H ν' Z st' H'/\Kept dst ν st.m ν' st'.m:=by
 unfold iX at h;split at h
 .
  rename_i size d o x;obtain⟨_,_,rfl,h1,h2⟩:=hsv.inv;obtain⟨y,_,rfl,h3,h4⟩:=h2.inv;rw[h4.bZ];split at h
  .rename_i cs hob;obtain⟨cs1,hp,e⟩:=ζf.1 h;obtain⟨rfl,rfl⟩:=e;obtain⟨_,_,rfl⟩:=h1.nj hob;obtain⟨es,cs',hr,hc,hone⟩:=r.obj d _ hob;obtain⟨p1,p2,p3,p4,p5⟩:=aZ.Rc hc h3 hp hone;have hh:∀id,id≠(ν d).1->(H.set (ν d).1 (.row es [cs'.take o++y.cells++cs'.drop (o+y.cells.length)]))[id]? = H[id]? := λid hne=>by grind
   have hz:∀id,Z id->Z id/\au (H.set (ν d).1 (.row es [cs'.take o++y.cells++cs'.drop (o+y.cells.length)])) id=au H id:=λid hz=>⟨hz,by
    unfold au;rw[hh id (by rintro rfl;exact r.apart d _ hob rfl hz)]⟩
   refine⟨.undef,H.set (ν d).1 (.row es [cs'.take o++y.cells++cs'.drop (o+y.cells.length)]),ν,?_,?_,.v _ _ (.same _ rfl),Ev.fB r hob trivial rfl hh rfl (by simp),Kept.fB hob trivial⟩
   .simp only[eA,hr,List.getElem?_cons_zero,if_pos (And.intro p1 (And.intro p2 p3)),List.set_cons_zero]
   .refine r.fB hob  trivial rfl hh rfl ⟨es,_,?_,p4.mono hz (λe _ ob' he=>?_),p5⟩
    .grind
    .by_cases k:e=d
     .subst k;rw[bH]at he;cases he;exact⟨_,hob,rfl,trivial⟩
     .rw[cU st.m _ (Ne.symm k)]at he;exact⟨ob',he,rfl,.refl _⟩
  grind
 .
  rename_i size d i o x;obtain⟨_,_,rfl,h1,h2⟩:=hsv.inv;obtain⟨y,_,rfl,h3,h4⟩:=h2.inv;rw[h4.bZ];split at h
  .rename_i k es xs hob;split at h
   .rename_i cs hcs;split at h
    .rename_i hc;obtain⟨rfl,rfl⟩:=h;obtain⟨_,_,_,e,hk,rfl⟩:=h1.wm hob;cases e;have ob:=r.obj d _ hob;simp[cO,hk]at ob;obtain⟨rs,hr,hl,hf,hsol,hrow⟩:=ob;obtain⟨c,hcc,hfc⟩:=hf.get hcs;have hi:=(ζe.1 hcs).1;rw[List.getElem?_take,if_pos hi,List.getElem?_drop]at hcc;have hy:=h3.fr.cells;have q1:y.cells.length=size:=by rw[<-hy.1];exact hc.1
     have q2:o+size<=c.length:=by rw[<-hfc.1];exact hc.2.1
     have q3:y.cells.all V.one=true:=by rw[hy.one];exact hc.2.2
     have hnew:cr H Z (cs.take o++x.cells++cs.drop (o+x.cells.length)) (c.take o++y.cells++c.drop (o+y.cells.length)):=by
      rw[hc.1,q1];exact((hfc.take o).append hy).append (hfc.drop _)
     generalize hN:(c.take o++y.cells++c.drop (o+y.cells.length))=nc at hnew;have hh:∀id,id≠(ν d).1->(H.set (ν d).1 (.row es (rs.set ((ν d).2+i) nc)))[id]? = H[id]? := λid hne=>by rw[List.getElem?_set];rw[if_neg (Ne.symm hne)]
     have hbk  := hk;have hz:∀id,Z id->Z id/\au (H.set (ν d).1 (.row es (rs.set ((ν d).2+i) nc))) id=au H id:=λid hz=>⟨hz,by
      unfold au;rw[hh id (by rintro rfl;exact r.apart d _ hob hbk hz)]⟩
     have hsh:sameShape (.sl k es xs) (.sl k es (xs.set i (cs.take o++x.cells++cs.drop (o+x.cells.length)))):=⟨rfl,rfl,by simp⟩
     refine⟨.undef,H.set (ν d).1 (.row es (rs.set ((ν d).2+i) nc)),ν,?_,?_,.v _ _ (.same _ rfl),Ev.fB r hob hsh rfl hh hbk (by simp),Kept.fB hob hsh⟩
     .simp only[eA,hr,hcc,if_pos (And.intro q1 (And.intro q2 q3)),hN]
     .refine r.fB hob hsh rfl hh hbk ?_;simp only[cO,hk];have hlt:=(ζe.1 hr).1;refine⟨_,List.getElem?_set_self hlt,by simpa using hl,?_,?_,λe=>?_⟩
      .have e1:List.take (xs.set i (cs.take o++x.cells++cs.drop (o+x.cells.length))).length (List.drop (ν d).2 (rs.set ((ν d).2+i) nc))=((rs.drop (ν d).2).take xs.length).set i nc:=by
        rw[List.length_set,List.drop_set,if_neg (by omega),List.take_set]
        congr 1;omega
       rw[e1];exact(hf.set i hnew).mono hz
      .intro cc hcc' u hu;rcases List.mem_or_eq_of_mem_set hcc' with hm|rfl
       .obtain⟨z,hz'⟩:=hsol cc hm u hu;exact⟨z,hz'.mono hz⟩
       .obtain⟨j,hj⟩:=List.mem_iff_getElem?.1 hu;have hjl:=(ζe.1 hj).1;rw[<-hnew.1]at hjl;exact⟨_,(hnew.2 j _ u (ζd hjl) hj).mono hz⟩
      .obtain⟨a1,a2⟩:=hrow e;exact⟨a1,by simpa using a2⟩
    .simp at h
   grind
  grind
 .
  rename_i kk d k x;obtain⟨_,_,rfl,h1,h2⟩:=hsv.inv;obtain⟨k',_,rfl,h3,h4⟩:=h2.inv;obtain⟨y,_,rfl,h5,h6⟩:=h4.inv;rw[h6.bZ];split at h
  .rename_i kvs hob;split at h
   .rename_i hk;obtain⟨kvs1,hp,e⟩:=ζf.1 h;simp  at e;obtain⟨rfl,rfl⟩:=e;obtain⟨_,_,rfl⟩:=h1.A9 hob;have hkk:=h3.fr.scalar.1 (tU hk);subst hkk;obtain⟨kvs',hr,hkv⟩:=r.obj d _ hob;obtain⟨r',hr',hrr⟩:=hkv.put (tU hk) h5.fr hp;have hh:∀id,id≠(ν d).1->(H.set (ν d).1 (.map r'))[id]? = H[id]? := λid hne=>by rw[List.getElem?_set];rw[if_neg (Ne.symm hne)]
    have hz:∀id,Z id->Z id/\au (H.set (ν d).1 (.map r')) id=au H id:=λid hz=>⟨hz,by
     unfold au;rw[hh id (by rintro rfl;exact r.apart d _ hob rfl hz)]⟩
    refine⟨.undef,H.set (ν d).1 (.map r'),ν,?_,?_,.v _ _ (.same _ rfl),Ev.fB r hob trivial rfl hh rfl (by simp),Kept.fB hob trivial⟩
    .simp[eA,hr,hk,hr']
    .refine r.fB hob  trivial rfl hh rfl ⟨r',?_,hrr.mono hz⟩;rw[List.getElem?_set_self (ζe.1 hr).1]
   .simp at h
  .simp at h
 .
  rename_i size s x;obtain⟨y1,_,rfl,h1,h2⟩:=hsv.inv;obtain⟨y2,_,rfl,h3,h4⟩:=h2.inv;rw[h4.bZ];split at h
  .rename_i xs e1 e2;obtain⟨a1,p1,_⟩:=uW h1 r.obj e1;obtain⟨a2,p2,q2⟩:=uW h3 r.obj e2;have  := List.length_eq_zero_iff.1 (by have:=q2.1;simpa using this.symm)
   subst this
   cases dst with
   | none=>simp at h
   | some t=>
    have lit:∀(k:Fl) (x0:V),bM k=false->qq (ν t) k size 0=x0->st.new t=true->(∀y,FR H Z x0 y->y=x0)->FR H Z x0 y1 ->
     ∃y H' ν',eA H (.append size) [y1,y2]=some (y,H')/\R ν' Z { st with m:=aU st.m t (.sl k size []) } F H'/\bY ν' (aU st.m t (.sl k size [])) H' Z (.own t) y/\Ev (λ_=>False) ν Z st H ν' Z { st with m:=aU st.m t (.sl k size []) } H'/\Kept (some t) ν st.m ν' (aU st.m t (.sl k size [])):=λk x0 hk hxx hn hx hf=>by
     have hnb:bK (.sl k size [])=true->False:=by simp[bK,hk]
     refine⟨y1,H,iq ν t (ν t),by simp[eA,p1,p2],r.add hn   (λh=>(hnb h).elim) (by simp[cO,hk]),.own _ _ λob' h'=>?_,Ev.add  hn (Nat.le_refl _) (λ_ _ _=>rfl) (λ_ _=>rfl) (λh=>(hnb h).elim),Kept.add λ_ _ h=>h⟩
     rw[bH]at h';cases h';exact⟨_,_,_,rfl,by rw[gy,hx _ hf];exact hxx.symm⟩
    cases s with
    | own d=>
     dsimp only at h;split at h
     .rename_i ob hob;split at h
      .rename_i hnew;simp  at h;obtain⟨rfl,rfl⟩:=h;simp[jf,hob]at e1
       cases ob with
       | sl k es xs'=>
        obtain⟨_,_,_,e,rfl⟩:=h1.jl hob;cases e;have r1:R ν Z { st with m:=cV d st.m } F H:=r.less  (λ_ _ h=>h) ji
        obtain⟨n1,_,_,_⟩:=lE hnew;have hob2:cO (iq ν t (ν d)) (aU (cV d st.m) t (.sl k es xs')) H Z t (.sl k es xs'):=by
         have o:=r.obj d _ hob;simp[cO,gy]at o ⊢;exact o
        refine⟨qq (ν d) k es xs'.length,H,iq ν t (ν d),by simp[eA,p1,p2],r1.add hnew  (λhb=>⟨λho=>?_,r.apart d _ hob hb⟩) hob2,.own _ _ λob' h'=>?_,?_,Kept.add ji⟩
        .obtain⟨k2,o2,g1,g2,g3⟩:=ho;obtain⟨g4,g5⟩:=mz g1;exact g4 (r.inj d k2 _ o2 hob g5 hb g2 g3.symm)
        .rw[bH]at h';cases h';exact⟨_,_,_,rfl,by rw[gy]⟩
        .by_cases hb:bK (.sl k es xs')=true
         .exact Ev.re  (m1:=cV d st.m) ji n1 (Nat.le_refl _) (λ_ _ _ _=>rfl) (λ_ _=>rfl) (λ_=>.inl ⟨d,_,hob,hb,rfl⟩)
         .exact(Ev.less  ji).trans (Ev.add  hnew (Nat.le_refl _) (λ_ _ _=>rfl) (λ_ _=>rfl) λh=>absurd h hb)
       | box cs=>cases e1
       | mp kvs=>cases e1
      .simp at h
     .simp at h
    | v x0=>
     cases x0 with
     | aR=>
      dsimp only at h;split at h
      .rename_i hn;simp  at h;obtain⟨rfl,rfl⟩:=h;exact lit .nil _ rfl rfl hn (λy h=>h.aR) h1.fr
      .simp at h
     | ck=>
      dsimp only at h;split at h
      .rename_i hn;simp  at h;obtain⟨rfl,rfl⟩:=h;exact lit .emp _ rfl rfl hn (λy h=>h.ck) h1.fr
      .simp at h
     | _=>simp at h
    | _=>simp at h
  .rename_i xs zs hne e1 e2;split at h
   .rename_i hc;obtain⟨a1,p1,q1⟩:=uW h1 r.obj e1;obtain⟨a2,p2,q2⟩:=uW h3 r.obj e2
    cases dst with
    | none=>simp at h
    | some t=>
     dsimp only at h;generalize hm1:giveUp st.m s=m1 at h;split at h
     .rename_i hnew;simp  at h;obtain⟨rfl,rfl⟩:=h;obtain⟨n1,_,_,_⟩:=lE hnew;have grow:∃H1,fQ H y1=some H1/\H1.length=H.length/\(∀id,¬eC ν st.m id->H1[id]? = H[id]?) /\
       (∀id,eC ν m1 id->H1[id]? = H[id]?)/\(∀id,Z id->au H1 id=au H id):=by
       subst hm1
       cases s with
       | own d=>
        simp[jf]at e1;split at e1
        .rename_i k es xs' hob;obtain⟨_,_,_,e,rfl⟩:=h1.jl hob;cases e
         by_cases hk:bM k=true
         .have o:=r.obj d _ hob;simp[cO,hk]at o;obtain⟨ys,hr,_⟩:=o;have hbk  := hk;have hh:∀id,id≠(ν d).1->(H.set (ν d).1 .dead)[id]? = H[id]? := λid hne=>by rw[List.getElem?_set];rw[if_neg (Ne.symm hne)]
          refine⟨H.set (ν d).1 .dead,by rw[qD hk];simp[fQ,hr],by simp,λid ho=>hh id λe=>ho ⟨d,_,hob,hbk,e.symm⟩,λid ho=>hh id λe=>?_,λid hz=>?_⟩
          .obtain⟨k2,o2,g1,g2,g3⟩:=ho;obtain⟨g4,g5⟩:=mz g1;exact g4 (r.inj d k2 _ o2 hob g5 hbk g2 (by rw[g3,e]))
          .unfold au;rw[hh id (by rintro rfl;exact r.apart d _ hob hbk hz)]
         .refine⟨H,?_,rfl,λ_ _=>rfl,λ_ _=>rfl,λ_ _=>rfl⟩
          cases k <;> simp[bM]at hk <;> rfl
        .simp at e1
       | v x0=>
        refine⟨H,?_,rfl,λ_ _=>rfl,λ_ _=>rfl,λ_ _=>rfl⟩
        cases x0 <;> simp[AK]at hc
        .rw[h1.fr.ck];rfl
        .rw[h1.fr.aR];rfl
       | _=>simp[AK]at hc
      obtain⟨H1,g1,g2,g3,g4,g5⟩:=grow;have hsub:∀e ob,ai m1 e=some ob->ai st.m e=some ob:=by
       subst hm1;cases s <;> first|exact λ_ _ h=>h|exact ji
      have hlt1:∀id,eC ν m1 id->id<H.length:=λid ⟨k,o,w1,w2,w3⟩=>r.lt ⟨k,o,hsub k o w1,w2,w3⟩
      have hget:∀id,id<H.length->(H1++[Ob.row size (a1++a2)])[id]? = H1[id]? := λid hl=>List.getElem?_append_left (by rw[g2];exact hl)
      have hz2:∀id,Z id->au (H1++[Ob.row size (a1++a2)]) id=au H id:=λid hz=>by
       have:=g5 id hz;unfold au at this ⊢;rw[hget id (r.uk hz)];exact this
      have r1  := r.less  (λ_ _ h=>h) hsub
      have r2  := r1.heap (λid ho=>by rw[hget id (hlt1 id ho)];exact g4 id ho) hz2
      have ff:=(q1.append q2).mono   λid hz=>⟨hz,hz2 id hz⟩
      have hnewrow:(H1++[Ob.row size (a1++a2)])[H.length]? = some (.row size (a1++a2)):=by
       rw[<-g2];simp
      refine⟨.hsl H.length size 0 (xs.length+zs.length),H1++[Ob.row size (a1++a2)],iq ν t (H.length,0),?_,?_,?_,?_,Kept.add hsub⟩
      .have hne':a2≠[]:=by
        rintro rfl;have hz0  := List.length_eq_zero_iff.1 (by have:=q2.1;simpa using this)
        exact hne hz0
       have hle:a1.length+a2.length<=2147483648:=by rw[<-q1.1,<-q2.1];exact hc.1
       have hl1:=q1.1;have hl2:=q2.1
       cases a2 with
       | nil=>exact absurd rfl hne'
       | cons w ws=>
        simp only[eA,p1,p2,if_pos hle,g1,Option.map_some,hl1,hl2]
      .refine r2.add hnew (λ_=>⟨λho=>?_,λhz=>?_⟩) ?_
       .exact absurd (hlt1 _ ho) (by simp)
       .exact absurd (r.uk hz) (by simp)
       .simp only[cO,gy];refine⟨_,hnewrow,by simp[q1.1,q2.1],?_,ff.DZ,λ_=>⟨trivial,by simp[q1.1,q2.1]⟩⟩
        have:(xs++zs).length=(a1++a2).length:=by simp[q1.1,q2.1]
        rw[this,List.drop_zero,List.take_length];exact ff
      .refine .own _ _ λob' h'=>?_
       simp only at h';rw[bH]at h';cases h';exact⟨_,_,_,rfl,by simp[qq,gy]⟩
      .refine Ev.re hsub n1 (by simp[g2]) (λid hl ho _=>?_) hz2 (λ_=>.inr (.inr (Nat.le_refl _)))
       rw[hget id hl];exact g3 id ho
     .simp at h
   .simp at h
  .simp at h
 .
  rename_i size d o x l;obtain⟨_,_,rfl,h1,h2⟩:=hsv.inv;obtain⟨y,ys2,rfl,h3,h4⟩:=h2.inv;split at h
  .rename_i hfar;split at h
   .rename_i cs hob;obtain⟨cs1,hp,e⟩:=ζf.1 h;simp  at e;obtain⟨rfl,rfl⟩:=e;obtain⟨_,_,rfl⟩:=h1.nj hob;obtain⟨es,cs',hr,hc,hone⟩:=r.obj d _ hob;obtain⟨p1,p2,p3,p4,p5⟩:=aZ.Rc hc h3 hp hone;have hh:∀id,id≠(ν d).1->(H.set (ν d).1 (.row es [cs'.take o++y.cells++cs'.drop (o+y.cells.length)]))[id]? = H[id]? := λid hne=>by rw[List.getElem?_set];rw[if_neg (Ne.symm hne)]
    have hz:∀id,Z id->Z id/\au (H.set (ν d).1 (.row es [cs'.take o++y.cells++cs'.drop (o+y.cells.length)])) id=au H id:=λid hz=>⟨hz,by
     unfold au;rw[hh id (by rintro rfl;exact r.apart d _ hob rfl hz)]⟩
    refine⟨.undef,H.set (ν d).1 (.row es [cs'.take o++y.cells++cs'.drop (o+y.cells.length)]),ν,?_,?_,.v _ _ (.same _ rfl),Ev.fB r hob trivial rfl hh rfl (by simp),Kept.fB hob trivial⟩
    .simp only[eA,Hi r hob h4 hfar,if_true,hr,List.getElem?_cons_zero,if_pos (And.intro p1 (And.intro p2 p3)),List.set_cons_zero]
    .refine r.fB hob  trivial rfl hh rfl ⟨es,_,?_,p4.mono hz (λe _ ob' he=>?_),p5⟩
     .have:=(ζe.1 hr).1;rw[List.getElem?_set_self this]
     .by_cases k:e=d
      .subst k;rw[bH]at he;cases he;exact⟨_,hob,rfl,trivial⟩
      .rw[cU st.m _ (Ne.symm k)]at he;exact⟨ob',he,rfl,.refl _⟩
   .simp at h
  .simp at h
 grind
end
end Go.VE
namespace Go.VE
variable [aW]
def yS (d:Nat) (st:St):Option St:=
 match ai st.m d with
 | some (.sl k es xs)=>some { st with g:=Aq (SV.sub d (mq k es xs)) st.g,m:=mapM (SV.tg d (mq k es xs)) (cV d st.m) }
 | _=>none
def SS (st:St):Loc->Option SV
 | .s n=>ai st.g n
 | .c b i=>match ai st.m b with
  | some (.box cs)=>cs[i]?
  | _=>none
def ghost (x:Gh) (st:St):Option St:=
 match x with
 | .closeS l=>match SS st l with
  | some (.own d)=>yS d st
  | some _=>some st
  | none=>none
 | .close d=>yS d st
 | .closeB d=>match ai st.m d with
  | some (.box cs)=>match cG cs with
   | some xs=>some { st with g:=Aq (SV.As d xs) st.g,m:=mapM (SV.pG d xs) (cV d st.m) }
   | none=>none
  | _=>none
 | .canon (.s n) d es=>match ai st.g n with
  | some (.v .aR)=>if st.new d then some { st with g:=aU st.g n (.own d),m:=aU st.m d (.sl .nil es []) } else none
  | some (.v .ck)=>if st.new d then some { st with g:=aU st.g n (.own d),m:=aU st.m d (.sl .emp es []) } else none
  | some (.own e)=>if e=d then some st else if st.new d then some { st with g:=Av e d st.g,m:=uc e d st.m } else none
  | _=>none
 | .canon (.c b i) d es=>match ai st.m b with
  | some (.box cs)=>match cs[i]? with
   | some (.v .aR)=>if st.new d then some { st with m:=aU (aU st.m d (.sl .nil es [])) b (.box (cs.set i (.own d))) } else none
   | some (.v .ck)=>if st.new d then some { st with m:=aU (aU st.m d (.sl .emp es [])) b (.box (cs.set i (.own d))) } else none
   | some (.own e)=>if e=d then some st else if st.new d then some { st with g:=Av e d st.g,m:=uc e d st.m } else none
   | _=>none
  | _=>none
 | .keep gs ms=>match zj st.g gs,zj st.m ms with
  | some g,some m=>some { st with g:=g,m:=m }
  | _,_=>none
 | .drop ds=>some { st with g:=lN ds st.g }
section
variable {Rv:Nat->Prop} {ν ν':Nu} {Z Z':Nat->Prop} {st st':St} {m m':Tb aM} {F F':Frame} {H H':ak} {N:Nat->FuncId}
theorem JM (r:R ν Z st F H) {dst:Option Nat} {size d:Nat} {lo hi:Bool} {bs:List SV} {ys:List V} {sv:SV} (hsv:aZ ν st.m H Z (.own d::bs) ys) (h:yJ st dst size lo hi d bs=some (sv,st')) :
 ∃y ν',aq N (.slice size lo hi) ys=some y/\R ν' Z st' F H/\bY ν' st'.m H Z sv y/\Ev Rv ν Z st H ν' Z st' H:=by
 unfold yJ at h;obtain⟨y0,zs,rfl,h1,h2⟩:=hsv.inv;split at h
 .rename_i k es xs ws t hob hw;split at h
  .rename_i hk;obtain⟨⟨l,hh⟩,hb,h⟩:=ζg.1 h;obtain⟨⟨a,b⟩,hbd,h⟩:=ζg.1 h;dsimp only at h;split at h
   .rename_i hnew;obtain⟨rfl,rfl⟩:=h;obtain⟨_,_,_,e,rfl⟩:=h1.jl hob;cases e;have hle:b<=xs.length/\a<=b:=by
     unfold cN at hbd
     grind
    have o:=r.obj d _ hob;simp[cO,hk.1]at o;obtain⟨rs,hr,hl,hf,hsol,_⟩:=o;have hbk  := hk.1;have r1:R ν Z { st with m:=cV d st.m } F H:=r.less  (λ_ _ h=>h) ji
    have hno:¬eC ν (cV d st.m) (ν d).1:=by
     rintro⟨k2,o2,g1,g2,g3⟩;obtain⟨g4,g5⟩:=mz g1;exact g4 (r.inj d k2 _ o2 hob g5 hbk g2 g3.symm)
    have hlen:((xs.take b).drop a).length=b-a:=by simp_all
    refine⟨.hsl (ν d).1 es ((ν d).2+a) (b-a),iq ν t ((ν d).1,(ν d).2+a),?_,?_,?_,?_⟩
    .have hf2:=aZ.cG h2 hw;rw[qD hk.1];simp[aq,hf2.kM hb,gC,if_pos hk.2,hbd]
    .refine r1.add hnew (λ_=>⟨hno,r.apart d _ hob hbk⟩) ?_
     simp[cO,bM,gy];have:=(hf.take b).drop a;have e:List.drop a (List.take b (List.take xs.length (List.drop (ν d).2 rs)))=List.take (b-a) (List.drop ((ν d).2+a) rs):=by
      rw[List.take_take,Nat.min_eq_left hle.1,List.drop_take,List.drop_drop]
     grind
    .refine .own _ _ λob' h'=>?_
     rw[bH]at h';cases h';exact⟨_,_,_,rfl,by rw[hlen];simp[qq,gy]⟩
    .exact Ev.re (st:=st) ji (lE hnew).1 (Nat.le_refl _) (λ_ _ _ _=>rfl) (λ_ _=>rfl) (λ_=>.inl ⟨d,_,hob,hbk,rfl⟩)
   grind
  grind
 grind
theorem Dh {f:SV->SV}:∀{g:Tb SV} {s:Nat},ai (Aq f g) s=(ai g s).map f
 | [],s=>rfl
 | (k,x)::r,s=>by
  simp[Aq,ai];split
  .rfl
  .exact Dh
def xh (f:List SV->List SV):aM->aM
 | .box cs=>.box (f cs)
 | o=>o
theorem Dw {f:List SV->List SV}:∀{m:Tb aM} {d:Nat},ai (mapM f m) d=(ai m d).map (xh f)
 | [],d=>rfl
 | (k,x)::r,d=>by
  cases x <;> simp[mapM,ai] <;> split <;> first|rfl|exact Dw
theorem rF {d:Nat} {w:V}:∀{l:List SV} {j:Nat},(SV.tg d w l)[j]? = (l[j]?).map (SV.sub d w)
 | [],j=>by simp[SV.tg]
 | x::r,0=>by simp[SV.tg]
 | x::r,j+1=>by simp[SV.tg,rF ]
theorem qf {d:Nat} {w:List V}:∀{l:List SV} {j:Nat},(SV.pG d w l)[j]? = (l[j]?).map (SV.As d w)
 | [],j=>by simp[SV.pG]
 | x::r,0=>by simp[SV.pG]
 | x::r,j+1=>by simp[SV.pG,qf ]
theorem m_ {d:Nat} {w:V}:∀{l:List SV},(SV.tg d w l).length=l.length
 | []=>rfl
 | x::r=>by simp[SV.tg,m_ ]
theorem mc {d:Nat} {w:List V}:∀{l:List SV},(SV.pG d w l).length=l.length
 | []=>rfl
 | x::r=>by simp[SV.pG,mc ]
theorem bY.sub {sv:SV} {y:V} {d:Nat} {k:Fl} {es:Nat} {xs:List (List V)} (h0:ai m d=some (.sl k es xs)) (hf:FR H Z' (mq k es xs) (qq (ν d) k es xs.length)) (hz:∀id,Z id->Z' id)
 (hm:∀e ob',ai m' e=some ob'->e≠d/\∃ob,ai m e=some ob/\sameShape ob ob') (r:bY ν m H Z sv y):bY ν m' H Z' (sv.sub d (mq k es xs)) y:=by
 have hz':∀id,Z id->Z' id/\au H id=au H id:=λid h=>⟨hz id h,rfl⟩
 have hn:∀e ob',ai m' e=some ob'->∃ob,ai m e=some ob/\ν e=ν e/\sameShape ob ob':=λe ob' h=>by grind
 induction r with
 | v x y h=>exact .v x y (h.mono hz')
 | own e y h=>
  simp[SV.sub];split
  .rename_i he;subst he;obtain⟨_,_,_,e1,rfl⟩:=h _ h0;cases e1;exact .v _ _ hf
  .exact(bY.own e y h).mono hz' λe _=>hn e
 | ptr e o y h=>exact(bY.ptr e o y h).mono hz' λe _=>hn e
 | el e i o y h=>exact(bY.el e i o y h).mono hz' λe _=>hn e
 | mp e y h=>exact(bY.mp e y h).mono hz' λe _=>hn e
 | clo f a b a' b' ha hb hva hvb iha ihb=>
  refine .clo f _ _ a' b' (by rw[m_];omega) (by rw[m_];omega) (λj u v hu hv=>?_) (λj u v hu hv=>?_)
  .rw[rF,ζf]at hu;grind
  .rw[rF,ζf]at hu;grind
 | tup a a' ha hva iha=>
  refine .tup _ a' (by rw[m_];omega) (λj u v hu hv=>?_)
  rw[rF,ζf]at hu;grind
 | agg a a' ha hva iha=>
  refine .agg _ a' (by rw[m_];omega) (λj u v hu hv=>?_)
  rw[rF,ζf]at hu;grind
 | yl id=>exact .yl id
theorem Pe {f:FuncId} {a b:List SV} {y:V} (r:bY ν m H Z (.clo f a b) y):bY ν m H Z (Ml f a b) y:=by
 unfold Ml;split
 .rename_i x z hx hz;cases r with|clo _ _ _ a' b' ha hb hva hvb=>
  have h1:=aZ.cG (ν:=ν) (m:=m) (H:=H) (Z:=Z) (ys:=a') ⟨ha,hva⟩ hx;have h2:=aZ.cG (ν:=ν) (m:=m) (H:=H) (Z:=Z) (ys:=b') ⟨hb,hvb⟩ hz;exact .v _ _ (.clo f x z a' b' h1.1 h2.1 h1.2 h2.2)
 .exact r
theorem bY.As {sv:SV} {y:V} {d:Nat} {cs:List SV} {xs:List V} (h0:ai m d=some (.box cs)) (hf:∀o,o<=xs.length->FR H Z' (.fptr (xs.drop o)) (.hptr (ν d).1 0 o)) (hz:∀id,Z id->Z' id)
 (hm:∀e ob',ai m' e=some ob'->e≠d/\∃ob,ai m e=some ob/\sameShape ob ob') (r:bY ν m H Z sv y):bY ν m' H Z' (sv.As d xs) y:=by
 have hz':∀id,Z id->Z' id/\au H id=au H id:=λid h=>⟨hz id h,rfl⟩
 have hn:∀e ob',ai m' e=some ob'->∃ob,ai m e=some ob/\ν e=ν e/\sameShape ob ob':=λe ob' h=>by obtain⟨_,ob,h1,h2⟩:=hm e ob' h;exact⟨ob,h1,rfl,h2⟩
 induction r with
 | v x y h=>exact .v x y (h.mono hz')
 | own e y h=>exact(bY.own e y h).mono hz' λe _=>hn e
 | ptr e o y h=>
  simp only[SV.As];split
  .rename_i he;subst he;obtain⟨_,e1,rfl⟩:=h _ h0;split
   .rename_i ho;exact .v _ _ (hf o ho)
   .exact(bY.ptr e o _ h).mono hz' λe _=>hn e
  .exact(bY.ptr e o y h).mono hz' λe _=>hn e
 | el e i o y h=>exact(bY.el e i o y h).mono hz' λe _=>hn e
 | mp e y h=>exact(bY.mp e y h).mono hz' λe _=>hn e
 | clo f a b a' b' ha hb hva hvb iha ihb=>
  refine Pe (.clo f _ _ a' b' (by rw[mc];exact ha) (by rw[mc];exact hb) (λj u v hu hv=>?_) (λj u v hu hv=>?_))
  .rw[qf,ζf]at hu;obtain⟨u',hu',rfl⟩:=hu;exact iha j u' v hu' hv
  .rw[qf,ζf]at hu;obtain⟨u',hu',rfl⟩:=hu;exact ihb j u' v hu' hv
 | tup a a' ha hva iha=>
  refine .tup _ a' (by rw[mc];exact ha) (λj u v hu hv=>?_)
  rw[qf,ζf]at hu;obtain⟨u',hu',rfl⟩:=hu;exact iha j u' v hu' hv
 | agg a a' ha hva iha=>
  refine .agg _ a' (by rw[mc];exact ha) (λj u v hu hv=>?_)
  rw[qf,ζf]at hu;obtain⟨u',hu',rfl⟩:=hu;exact iha j u' v hu' hv
 | yl id=>exact .yl id
theorem cO.xh {d:Nat} {ob:aM} {f:List SV->List SV} (hz:∀id,Z id->Z' id) (hl:∀l,(f l).length=l.length)
 (hf:∀cs cs',aZ ν m H Z cs cs'->aZ ν m' H Z' (f cs) cs') (o:cO ν m H Z d ob):cO ν m' H Z' d (xh f ob):=by
 have hz':∀id,Z id->Z' id/\au H id=au H id:=λid h=>⟨hz id h,rfl⟩
 cases ob with
 | sl k es xs=>
  simp[Go.VE.xh,cO]at o ⊢;split
  .rename_i hk;rw[if_pos hk]at o;obtain⟨ys,h1,h2,h3,h4,h5⟩:=o;exact⟨ys,h1,h2,h3.mono hz',h4.mono hz',h5⟩
  grind
 | box cs=>
  obtain⟨es,cs',h1,h2,h3⟩:=o;exact⟨es,cs',h1,hf cs cs' h2,h3⟩
 | mp kvs=>
  obtain⟨kvs',h1,h2⟩:=o;exact⟨kvs',h1,h2.mono hz'⟩
theorem vo {f:List SV->List SV} {ob:aM}:bK (xh f ob)=bK ob:=by cases ob <;> rfl
theorem Ip {f:List SV->List SV} {ob:aM}:sameShape ob (xh f ob):=by cases ob <;> simp[xh,sameShape]
theorem R.shut (r:R ν Z st F H) {d:Nat} {ob:aM} (h0:ai st.m d=some ob) {fs:SV->SV} {fl:List SV->List SV} (hl:∀l,(fl l).length=l.length) (hg:∀l (j:Nat),(fl l)[j]? = (l[j]?).map fs)
 (hz':∀id,Z' id↔Z id\/(bK ob=true/\id=(ν d).1)) (hrow:bK ob=true->∃es ys,H[(ν d).1]? = some (.row es ys)/\tT H Z ys)
 (hf:∀m',(∀e ob',ai m' e=some ob'->e≠d/\∃ob,ai st.m e=some ob/\sameShape ob ob')->∀sv y,bY ν st.m H Z sv y->bY ν m' H Z' (fs sv) y) :
 R ν Z' { st with g:=Aq fs st.g,m:=mapM fl (cV d st.m) } F H/\Ev Rv ν Z st H ν Z' { st with g:=Aq fs st.g,m:=mapM fl (cV d st.m) } H:=by
 have key:∀e ob',ai (mapM fl (cV d st.m)) e=some ob'->e≠d/\∃ob,ai st.m e=some ob/\ob'=xh fl ob:=λe ob' h=>by
  rw[Dw,ζf]at h;obtain⟨o,h1,rfl⟩:=h;obtain⟨h2,h3⟩:=mz h1
  grind
 have key':∀e ob',ai (mapM fl (cV d st.m)) e=some ob'->e≠d/\∃ob,ai st.m e=some ob/\sameShape ob ob':=λe ob' h=>by
  obtain⟨h1,o,h2,rfl⟩:=key e ob' h;exact⟨h1,o,h2,Ip⟩
 have hF:=hf _ key';have hFL:∀cs cs',aZ ν st.m H Z cs cs'->aZ ν (mapM fl (cV d st.m)) H Z' (fl cs) cs':=λcs cs' h=>by
  refine⟨by rw[hl];exact h.1,λj u v hu hv=>?_⟩
  rw[hg,ζf]at hu;obtain⟨u',hu',rfl⟩:=hu;exact hF u' v (h.2 j u' v hu' hv)
 have hzz  := λid h=>(hz' id).2 (.inl h)
 refine⟨⟨λs sv hs=>?_,λe ob' he=>?_,λd1 d2 o1 o2 h1 h2 b1 b2 hp=>?_,λd1 o1 h1 b1=>?_,λid h=>?_,⟨λid es ys hz hr c hc u hu=>?_⟩⟩,⟨Nat.le_refl _,λ_ _ _ _ _=>rfl,λid h=>⟨hzz id h,rfl⟩,?_,?_,?_,rfl⟩⟩
 .rw[Dh,ζf]at hs;obtain⟨sv',hs',rfl⟩:=hs;exact hF sv' _ (r.slot s sv' hs')
 .obtain⟨h1,o,h2,rfl⟩:=key e ob' he;exact cO.xh hzz hl hFL (r.obj e o h2)
 .obtain⟨_,p1,k1,rfl⟩:=key d1 o1 h1;obtain⟨_,p2,k2,rfl⟩:=key d2 o2 h2;rw[vo]at b1 b2;exact r.inj d1 d2 p1 p2 k1 k2 b1 b2 hp
 .obtain⟨hne,p1,k1,rfl⟩:=key d1 o1 h1;rw[vo]at b1;intro hz;rcases (hz' _).1 hz with hz|⟨hb,he⟩
  .exact r.apart d1 p1 k1 b1 hz
  .exact hne (r.inj d1 d p1 ob k1 h0 b1 hb he)
 .rcases (hz' id).1 h with h|⟨hb,rfl⟩
  .exact r.zrow id h
  .obtain⟨es,ys,hr,_⟩:=hrow hb;unfold au;rw[hr];rfl
 .rcases (hz' id).1 hz with h|⟨hb,rfl⟩
  .obtain⟨x,hx⟩:=r.deep.row id es ys h hr c hc u hu;exact⟨x,hx.mono λk hk=>⟨hzz k hk,rfl⟩⟩
  .obtain⟨es',ys',hr',hs⟩:=hrow hb;unfold au at hr;rw[hr']at hr;obtain⟨_,rfl⟩:=hr;obtain⟨x,hx⟩:=hs c hc u hu;exact⟨x,hx.mono λk hk=>⟨hzz k hk,rfl⟩⟩
 .rintro id ⟨e,o,h1,h2,h3⟩;obtain⟨_,p,k1,rfl⟩:=key e o h1;rw[vo]at h2;exact .inl ⟨e,p,k1,h2,h3⟩
 .intro id h;rcases (hz' id).1 h with h|⟨hb,rfl⟩
  .grind
  .exact .inr (.inl ⟨d,ob,h0,hb,rfl⟩)
 grind
theorem Ft (r:R ν Z st F H) {d:Nat} (h:yS d st=some st'):∃Z',R ν Z' st' F H/\Ev Rv ν Z st H ν Z' st' H:=by
 simp[yS]at h;split at h
 .rename_i k es xs hob;simp  at h;subst h;have o:=r.obj d _ hob;refine⟨λid=>Z id\/(bK (.sl k es xs)=true/\id=(ν d).1),R.shut r hob (λ_=>m_) (λ_ _=>rF) (λ_=>Iff.rfl) (λhb=>?_) (λm' hm' sv y hr=>?_)⟩
  .have hk:bM k=true:=hb;simp[cO,hk]at o
   grind
  .refine bY.sub hob ?_ (λid h=>.inl h) hm' hr
   by_cases hk:bM k=true
   .simp[cO,hk]at o;obtain⟨ys,hr,hl,hf,hs,_⟩:=o;rw[qD hk];have e:mq k es xs=.fsl es xs:=by cases k <;> simp[bM]at hk <;> rfl
    rw[e];refine FR.HW (.inr ⟨hk,rfl⟩) (by unfold au;rw[hr];rfl) hl (hf.mono λid h=>⟨.inl h,rfl⟩)
   .cases k <;> simp[bM]at hk
    .exact .same _ rfl
    .exact .same _ rfl
 grind
theorem Kc (r:R ν Z st F H) {d:Nat} (h:ghost (.closeB d) st=some st'):∃Z',R ν Z' st' F H/\Ev Rv ν Z st H ν Z' st' H:=by
 simp[ghost]at h;split at h
 .rename_i cs hob;split at h
  .rename_i xs hx;simp  at h;subst h;obtain⟨es,cs',hr,hc,_⟩:=r.obj d _ hob;have hf:=hc.cG hx;have hs:tT H Z [cs']:=by
    intro c hcm u hu;simp[List.mem_singleton]at hcm;subst hcm;obtain⟨j,hj⟩:=List.mem_iff_getElem?.1 hu;have hl:j<xs.length:=by rw[hf.1];grind
    exact⟨_,hf.2 j _ u (ζd hl) hj⟩
   refine⟨λid=>Z id\/(bK (.box cs)=true/\id=(ν d).1),R.shut r hob (λ_=>mc) (λ_ _=>qf) (λ_=>Iff.rfl) (λhb=>⟨es,_,hr,hs⟩) (λm' hm' sv y hr'=>?_)⟩
   refine bY.As hob (λo ho=>?_) (λid h=>.inl h) hm' hr'
   exact FR.BD (.inr ⟨rfl,rfl⟩) (show au H (ν d).1=some (es,[cs'])by unfold au;rw[hr];rfl) rfl (by rw[<-hf.1];omega) ((hf.drop o).mono λid h=>⟨.inl h,rfl⟩)
  grind
 grind
theorem rN {d e:Nat}:∀{l:List SV} {j:Nat},(SV.th d e l)[j]? = (l[j]?).map (SV.sO d e)
 | [],j=>by simp[SV.th]
 | x::r,0=>by simp[SV.th]
 | x::r,j+1=>by simp[SV.th,rN ]
theorem nv {d e:Nat}:∀{l:List SV},(SV.th d e l).length=l.length
 | []=>rfl
 | x::r=>by simp[SV.th,nv ]
theorem Dp {d e:Nat}:∀{g:Tb SV} {s:Nat},ai (Av d e g) s=(ai g s).map (SV.sO d e)
 | [],s=>rfl
 | (k,x)::r,s=>by
  simp[Av,ai];split
  .rfl
  .exact Dp
theorem xV {d e:Nat} (hne:d≠e):∀{m:Tb aM} {k:Nat},ai m e=none->ai (uc d e m) k=(if k=d then none else(ai m (if k=e then d else k)).map (aM.sO d e))
 | [],k,_=>by simp[uc,ai]
 | (n,x)::r,k,h=>by
  simp[ai]at h;split at h
  .simp_all
  .have ih:=xV hne  (k:=k) h;simp[uc,ai]
   grind
def tK (ν:Nu) (d e:Nat):Nu:=λk=>if k=e then ν d else ν k
theorem bY.sO {sv:SV} {y:V} {d e:Nat} (hn:ai m e=none) (hs:sv.bT e=false) (hne:d≠e) (r:bY ν m H Z sv y):bY (tK ν d e) (uc d e m) H Z (sv.sO d e) y:=by
 have key:∀k,k≠e->∀ob',ai (uc d e m) (if k=d then e else k)=some ob'->∃ob,ai m k=some ob/\tK ν d e (if k=d then e else k)=ν k/\ob'=ob.sO d e:=λk hk ob' h=>by
  rw[xV hne hn]at h
  by_cases h1:k=d
  .subst h1;rw[if_pos rfl,if_neg (Ne.symm hne),if_pos rfl,ζf]at h;obtain⟨ob,h2,rfl⟩:=h;exact⟨ob,h2,by unfold tK;grind,rfl⟩
  .rw[if_neg h1,if_neg h1,if_neg hk,ζf]at h;obtain⟨ob,h2,rfl⟩:=h;exact⟨ob,h2,by unfold tK;grind,rfl⟩
 induction r with
 | v x y h=>exact .v x y h
 | own k y h=>
  have hk:k≠e:=by rintro rfl;simp[SV.bT]at hs
  refine .own _ y λob' ho=>?_
  obtain⟨ob,h1,h2,rfl⟩:=key k hk ob' ho;obtain⟨_,_,_,rfl,rfl⟩:=h ob h1;exact⟨_,_,_,rfl,by rw[h2]⟩
 | ptr k o y h=>
  have hk:k≠e:=by rintro rfl;simp[SV.bT]at hs
  refine .ptr _ o y λob' ho=>?_
  obtain⟨ob,h1,h2,rfl⟩:=key k hk ob' ho;obtain⟨_,rfl,rfl⟩:=h ob h1;exact⟨_,rfl,by rw[h2]⟩
 | el k i o y h=>
  have hk:k≠e:=by rintro rfl;simp[SV.bT]at hs
  refine .el _ i o y λob' ho=>?_
  obtain⟨ob,h1,h2,rfl⟩:=key k hk ob' ho;obtain⟨_,_,_,rfl,h3,rfl⟩:=h ob h1;exact⟨_,_,_,rfl,h3,by rw[h2]⟩
 | mp k y h=>
  have hk:k≠e:=by rintro rfl;simp[SV.bT]at hs
  refine .mp _ y λob' ho=>?_
  obtain⟨ob,h1,h2,rfl⟩:=key k hk ob' ho;obtain⟨_,rfl,rfl⟩:=h ob h1;exact⟨_,rfl,by rw[h2]⟩
 | clo f a b a' b' ha hb hva hvb iha ihb=>
  simp[SV.bT]at hs;refine .clo f _ _ a' b' (by rw[nv];omega) (by rw[nv];omega) (λj u v hu hv=>?_) (λj u v hu hv=>?_)
  .rw[rN,ζf]at hu;obtain⟨u',hu',rfl⟩:=hu;exact iha j u' v hu' hv (ru hs.1 hu')
  .rw[rN,ζf]at hu;obtain⟨u',hu',rfl⟩:=hu;exact ihb j u' v hu' hv (ru hs.2 hu')
 | tup a a' ha hva iha=>
  refine .tup _ a' (by rw[nv];omega) (λj u v hu hv=>?_)
  rw[rN,ζf]at hu;obtain⟨u',hu',rfl⟩:=hu;exact iha j u' v hu' hv (ru hs hu')
 | agg a a' ha hva iha=>
  refine .agg _ a' (by rw[nv];omega) (λj u v hu hv=>?_)
  rw[rN,ζf]at hu;obtain⟨u',hu',rfl⟩:=hu;exact iha j u' v hu' hv (ru hs hu')
 | yl id=>exact .yl id
theorem K4 (r:R ν Z st F H) {d e:Nat} (hne:d≠e) (hn:st.new e=true):R (tK ν d e) Z { st with g:=Av d e st.g,m:=uc d e st.m } F H/\Ev Rv ν Z st H (tK ν d e) Z { st with g:=Av d e st.g,m:=uc d e st.m } H:=by
 obtain⟨n1,n2,n3,n4⟩:=lE hn;have key:∀k ob',ai (uc d e st.m) k=some ob'->∃k0 ob,ai st.m k0=some ob/\ob'=ob.sO d e/\tK ν d e k=ν k0/\k≠d/\(k=e/\k0=d\/k≠e/\k0=k):=λk ob' h=>by
  rw[xV hne n2]at h;split at h
  .simp_all
  .rename_i h1;rw[ζf]at h;obtain⟨ob,h2,rfl⟩:=h
   by_cases h3:k=e
   .rw[if_pos h3]at h2;exact⟨d,ob,h2,rfl,by unfold tK;grind,h1,.inl ⟨h3,rfl⟩⟩
   .rw[if_neg h3]at h2;exact⟨k,ob,h2,rfl,by unfold tK;grind,h1,.inr ⟨h3,rfl⟩⟩
 have bk:∀ob:aM,bK (ob.sO d e)=bK ob:=λob=>by cases ob <;> rfl
 refine⟨⟨λs sv hs=>?_,λk ob' hk=>?_,λd1 d2 o1 o2 h1 h2 b1 b2 hp=>?_,λd1 o1 h1 b1=>?_,r.zrow,r.deep⟩,⟨Nat.le_refl _,λ_ _ _ _ _=>rfl,λid h=>⟨h,rfl⟩,?_,λ_ h=>.inl h,?_,rfl⟩⟩
 .rw[Dp,ζf]at hs;obtain⟨sv',hs',rfl⟩:=hs;exact bY.sO n2 (wA n3 hs') hne (r.slot s sv' hs')
 .obtain⟨k0,ob,h1,rfl,h2,_,_⟩:=key k ob' hk;have o:=r.obj k0 ob h1
  cases ob with
  | sl fl es xs=>simp[aM.sO,cO,h2]at o ⊢;omega
  | box cs=>
   obtain⟨es,cs',g1,g2,g3⟩:=o;have hns  := by have:=wF n4 h1;simpa [aM.bT]using this
   refine⟨es,cs',by grind,⟨by rw[nv];exact g2.1,λj u v hu hv=>?_⟩,g3⟩
   rw[rN,ζf]at hu;obtain⟨u',hu',rfl⟩:=hu;exact bY.sO n2 (ru hns hu') hne (g2.2 j u' v hu' hv)
  | mp kvs=>simp[aM.sO,cO,h2]at o ⊢;omega
 .obtain⟨k1,p1,g1,rfl,e1,c1,c2⟩:=key d1 o1 h1;obtain⟨k2,p2,g2,rfl,e2,c3,c4⟩:=key d2 o2 h2;rw[bk]at b1 b2;have:=r.inj k1 k2 p1 p2 g1 g2 b1 b2 (by grind)
  omega
 .obtain⟨k1,p1,g1,rfl,e1,_⟩:=key d1 o1 h1;rw[bk]at b1;rw[e1];exact r.apart k1 p1 g1 b1
 .rintro id ⟨k,o,h1,h2,h3⟩;obtain⟨k1,p1,g1,rfl,e1,_⟩:=key k o h1;rw[bk]at h2;exact .inl ⟨k1,p1,g1,h2,by grind⟩
 .intro k hk ob' h;obtain⟨k1,p1,g1,rfl,e1,c1,c2⟩:=key k ob' h;rcases c2 with⟨rfl,_⟩|⟨c2,rfl⟩
  .grind
  .exact⟨p1,g1,e1,by cases p1 <;> simp[aM.sO,sameShape]⟩
theorem R.Uc (r:R ν Z st F H) {n:Nat} {sv:SV} (h:bY ν st.m H Z sv (get F n)):R ν Z { st with g:=aU st.g n sv } F H where
 slot:=λs x hs=>by
  by_cases e:n=s
  .subst e;rw[bH]at hs;grind
  .rw[cU st.g sv e]at hs;exact r.slot s x hs
 obj:=r.obj
 inj:=r.inj
 apart:=r.apart
 zrow:=r.zrow
 deep:=r.deep
theorem KX (r:R ν Z st F H) {n d es:Nat} {k:Fl} {x:V} (hk:mq k es []=x/\bM k=false) (hs:ai st.g n=some (.v x)) (hn:st.new d=true) (hx:∀y,FR H Z x y->y=x) (hxx:qq (ν d) k es 0=x) :
 R (iq ν d (ν d)) Z { st with g:=aU st.g n (.own d),m:=aU st.m d (.sl k es []) } F H/\Ev Rv ν Z st H (iq ν d (ν d)) Z { st with g:=aU st.g n (.own d),m:=aU st.m d (.sl k es []) } H:=by
 have hnb:bK (.sl k es [])=true->False:=by simp[bK,hk.2]
 have r1:=r.add hn (p:=ν d)  (λh=>(hnb h).elim) (by simp[cO,hk.2])
 refine⟨r1.Uc   (.own _ _ λob' h'=>?_),?_⟩
 .rw[bH]at h';cases h';rw[gy,hx _ (r.slot n _ hs).fr]
  grind
 .exact(Ev.add  hn (Nat.le_refl _) (λ_ _ _=>rfl) (λ_ _=>rfl) (λh=>(hnb h).elim)).trans (Ev.slots _)
theorem KA (r:R ν Z st F H) {b i d es:Nat} {k:Fl} {x:V} {cs:List SV} (hk:bM k=false) (hb:ai st.m b=some (.box cs)) (hi:cs[i]? = some (.v x)) (hn:st.new d=true) (hx:∀y,FR H Z x y->y=x) (hxx:qq (ν d) k es 0=x) :
 ∃ν',R ν' Z { st with m:=aU (aU st.m d (.sl k es [])) b (.box (cs.set i (.own d))) } F H/\Ev Rv ν Z st H ν' Z { st with m:=aU (aU st.m d (.sl k es [])) b (.box (cs.set i (.own d))) } H:=by
 have hnb:bK (.sl k es [])=true->False:=by simp[bK,hk]
 have r1:=r.add hn (p:=ν d)  (λh=>(hnb h).elim) (by simp[cO,hk])
 have hne:b≠d:=by rintro rfl;rw[(lE hn).2.1]at hb;cases hb
 have hb1:ai (aU st.m d (.sl k es [])) b=some (.box cs):=by rw[cU _ _ (Ne.symm hne)];omega
 obtain⟨es1,cs',h1,h2,h3⟩:=r1.obj b _ hb1;have sm:∀e ob',ai (aU (aU st.m d (.sl k es [])) b (.box (cs.set i (.own d)))) e=some ob'->∃ob,ai (aU st.m d (.sl k es [])) e=some ob/\iq ν d (ν d) e=iq ν d (ν d) e/\sameShape ob ob':=λe ob' h=>by
  by_cases he:e=b
  .subst he;rw[bH]at h;cases h;exact⟨_,hb1,rfl,trivial⟩
  .rw[cU _ _ (Ne.symm he)]at h;exact⟨ob',h,rfl,.refl _⟩
 refine⟨iq ν d (ν d),r1.fB  hb1  trivial rfl (λ_ _=>rfl) rfl ⟨es1,cs',h1,⟨by simp[h2.1],λj u v hu hv=>?_⟩,h3⟩,?_⟩
 .rw[List.getElem?_set]at hu;split at hu
  .rename_i e;subst e;split at hu
   .cases hu;refine .own _ _ λob' h'=>?_
    rw[cU _ _ hne,bH]at h';cases h';rw[gy,hx v (h2.2 i _ v hi hv).fr]
    grind
   grind
  .exact(h2.2 j u v hu hv).mono (λid h=>⟨h,rfl⟩) λe _=>sm e
 .exact(Ev.add  hn (Nat.le_refl _) (λ_ _ _=>rfl) (λ_ _=>rfl) (λh=>(hnb h).elim)).trans (Ev.fB r1 hb1 trivial rfl (λ_ _=>rfl) rfl (Nat.le_refl _))
theorem MF (r:R ν Z st F H) {x:Gh} (h:ghost x st=some st'):∃ν' Z',R ν' Z' st' F H/\Ev Rv ν Z st H ν' Z' st' H:=by
 cases x with
 | close d=>obtain⟨Z',a,b⟩:=Ft (Rv:=Rv) r h;grind
 | closeS l=>
  simp[ghost]at h;split at h
  .obtain⟨Z',a,b⟩:=Ft (Rv:=Rv) r h;grind
  .simp  at h;subst h;exact⟨ν,Z,r,.refl⟩
  grind
 | closeB d=>obtain⟨Z',a,b⟩:=Kc (Rv:=Rv) r h;grind
 | keep gs ms=>
  simp[ghost]at h;split at h
  .rename_i g m hg hm;simp  at h;subst h;exact⟨ν,Z,r.less (λs sv hs=>oH hg hs) (λd ob hd=>oH hm hd),Ev.less (λd ob hd=>oH hm hd)⟩
  grind
 | drop ds=>
  simp[ghost]at h;subst h;exact⟨ν,Z,r.less   (λs sv hs=>mF hs) (λd ob hd=>hd),Ev.less   (λd ob hd=>hd)⟩
 | canon l d es=>
  cases l with
  | s n=>
   simp[ghost]at h;split at h
   .rename_i hs;split at h
    .rename_i hn;simp  at h;obtain⟨a,b⟩:=KX (Rv:=Rv) (es:=es) (k:=.nil) r ⟨rfl,rfl⟩ hs hn (λy h=>h.aR) rfl
     grind
    grind
   .rename_i hs;split at h
    .rename_i hn;simp  at h;obtain⟨a,b⟩:=KX (Rv:=Rv) (es:=es) (k:=.emp) r ⟨rfl,rfl⟩ hs hn (λy h=>h.ck) rfl
     grind
    grind
   .split at h
    .simp  at h;subst h;exact⟨ν,Z,r,.refl⟩
    .rename_i hne;split at h
     .rename_i hn;simp  at h;obtain⟨a,b⟩:=K4 (Rv:=Rv) r hne hn
      grind
     grind
   grind
  | c b i=>
   simp[ghost]at h;split at h
   .rename_i cs hb;split at h
    .rename_i hs;split at h
     .rename_i hn;simp  at h;obtain⟨ν',a,b⟩:=KA (Rv:=Rv) (es:=es) (k:=.nil) r rfl hb hs hn (λy h=>h.aR) rfl
      grind
     grind
    .rename_i hs;split at h
     .rename_i hn;simp  at h;obtain⟨ν',a,b⟩:=KA (Rv:=Rv) (es:=es) (k:=.emp) r rfl hb hs hn (λy h=>h.ck) rfl
      grind
     grind
    .split at h
     .simp  at h;subst h;exact⟨ν,Z,r,.refl⟩
     .rename_i hne;split at h
      .rename_i hn;simp  at h;obtain⟨a,b⟩:=K4 (Rv:=Rv) r hne hn
       grind
      grind
    grind
   grind
end
end Go.VE
namespace Go.VE
variable [aW]
structure pW (E:Env) (f:FuncId) (q:GC):Prop where
 keep:E.keep f=true
 own:E.own f=false
 le:∀es xs vs ys,q.go es xs vs=some ys->ys.length<=xs.length/\(q.part=false->ys.length=xs.length)
 none:∀es vs ys,q.go es [] vs=some ys->∀(H:ak) (Z:Nat->Prop) (ws:List V) (w:V),cr H Z vs ws->(w=.aR\/w=.ck)->∃n X,∀k,n<=k->run E k (.fn f) (w::ws) H=some (if q.part then w else .undef,H++X)
 row:∀es xs vs ys,q.go es xs vs=some ys->∀(H:ak) (Z:Nat->Prop) (ws:List V) (id off:Nat) (rs:List (List V)),cr H Z vs ws->H[id]? = some (.row es rs)->off+xs.length<=rs.length ->
  fc H Z xs ((rs.drop off).take xs.length)->tT H Z rs->¬Z id->∃n rs' X,(∀k,n<=k->run E k (.fn f) (.hsl id es off xs.length::ws) H=some (if q.part then .hsl id es off ys.length else .undef,(H++X).set id (.row es rs'))) /\
   rs'.length=rs.length/\fc H Z ys ((rs'.drop off).take ys.length)/\tT H Z rs'
section
variable {Rv:Nat->Prop} {ν ν':Nu} {Z Z':Nat->Prop} {st st':St} {m m':Tb aM} {F F':Frame} {H H':ak}
theorem Pk {E:Env} {f:FuncId} {q:GC} (hq:pW E f q) (r:R ν Z st F H) {args:List SV} {ys:List V} (ha:aZ ν st.m H Z args ys) {dst:Option Nat} {sv:SV} (h:FM q dst args st=some (sv,st')) :
 ∃n y H' ν',(∀k,n<=k->run E k (.fn f) ys H=some (y,H'))/\R ν' Z st' F H'/\bY ν' st'.m H' Z sv y/\Ev Rv ν Z st H ν' Z st' H'/\Kept dst ν st.m ν' st'.m:=by
 unfold FM at h;split at h
 .rename_i d vs;obtain⟨w,ws,rfl,h1,h2⟩:=ha.inv;split at h
  .rename_i k es xs zs hob hz;have hws:=aZ.cG h2 hz;split at h
   .rename_i ns hgo;obtain⟨hle,heq⟩:=hq.le _ _ _ _ hgo;obtain⟨_,_,_,ee,rfl⟩:=h1.jl hob;cases ee;have grow:∀X:ak,R ν Z st F (H++X)/\Ev Rv ν Z st H ν Z st (H++X)/\∀id,Z id->au (H++X) id=au H id:=λX=>by
     have hx:∀id,id<H.length->(H++X)[id]? = H[id]? := λid h=>List.getElem?_append_left h
     have hz:∀id,Z id->au (H++X) id=au H id:=λid h=>by unfold au;rw[hx id (r.uk h)]
     exact⟨r.heap (λid h=>hx id (r.lt h)) hz,Ev.heap (by simp) (λid h _ _ _=>hx id h) hz,hz⟩
    have o:=r.obj d _ hob
    cases hk:bM k with
    | false=>
     simp only[cO,hk,Bool.false_eq_true,if_false]at o;subst o;have hw:qq (ν d) k es 0=.aR\/qq (ν d) k es 0=.ck:=by cases k <;> simp[qq,bM]at hk ⊢
     obtain⟨n,X,hn⟩:=hq.none _ _ _ hgo H Z ws _ hws hw;obtain⟨r0,ev0,hz0⟩:=grow X;simp only[hk,Bool.false_eq_true,if_false]at h;split at h
     .rename_i hp;split at h
      .rename_i t;split at h
       .rename_i hnew;simp only[ζa,ζc]at h;obtain⟨rfl,rfl⟩:=h;have r1:R ν Z { st with m:=cV d st.m } F (H++X):=r0.less (g:=st.g) (λ_ _ h=>h) ji
        rw[if_pos hp]at hn;refine⟨n,_,H++X,iq ν t (ν d),hn,r1.add hnew (λhb=>by simp[bK,hk]at hb) (by simp[cO,hk]),?_,?_,Kept.add ji⟩
        .refine .own _ _ λob' h'=>?_
         simp only at h';rw[bH]at h';cases h';exact⟨_,_,_,rfl,by rw[gy];rfl⟩
        .exact ev0.trans (Ev.re (st:=st) ji (lE hnew).1 (Nat.le_refl _) (λ_ _ _ _=>rfl) (λ_ _=>rfl) (λhb=>by simp[bK,hk]at hb))
       .cases h
      .cases h
     .rename_i hp;simp only[ζa,ζc]at h;obtain⟨rfl,rfl⟩:=h;rw[if_neg hp]at hn;have hu:aU st.m d (.sl k es [])=st.m:=qv hob;rw[hu];exact⟨n,_,H++X,ν,hn,r0,.v _ _ (.same _ rfl),ev0,.refl⟩
    | true=>
     simp only[cO,hk,if_true]at o;obtain⟨rs,hr,hl,hf,hsol,hrow⟩:=o;have hbk:bK (.sl k es xs)=true:=hk;obtain⟨n,rs',X,hn,e1,e2,e3⟩:=hq.row _ _ _ _ hgo H Z ws _ _ rs hws hr hl hf hsol (r.apart d _ hob hbk);obtain⟨r0,ev0,hz0⟩:=grow X;have hlt:(ν d).1<(H++X).length:=by have:=(ζe.1 hr).1;simp;omega
     have hz:∀id,Z id->Z id/\au ((H++X).set (ν d).1 (.row es rs')) id=au H id:=λid hid=>⟨hid,by
      rw[<-hz0 id hid];unfold au;rw[List.getElem?_set_ne];rintro rfl;exact r.apart d _ hob hbk hid⟩
     have hzx:∀id,Z id->au ((H++X).set (ν d).1 (.row es rs')) id=au (H++X) id:=λid hid=>by rw[(hz id hid).2,hz0 id hid]
     have hh:∀id,id≠(ν d).1->((H++X).set (ν d).1 (Ob.row es rs'))[id]? = (H++X)[id]? := λid hne=>List.getElem?_set_ne (Ne.symm hne)
     have hself:((H++X).set (ν d).1 (Ob.row es rs'))[(ν d).1]? = some (.row es rs'):=List.getElem?_set_self hlt;rw[qD hk];simp only[hk,if_true]at h;split at h
     .rename_i hp;split at h
      .rename_i t;split at h
       .rename_i hnew;simp only[ζa,ζc]at h;obtain⟨rfl,rfl⟩:=h;have r1:R ν Z { st with m:=cV d st.m } F (H++X):=r0.less (g:=st.g) (λ_ _ h=>h) ji
        have hno:¬eC ν (cV d st.m) (ν d).1:=by
         rintro⟨k2,o2,g1,g2,g3⟩;obtain⟨g4,g5⟩:=mz g1;exact g4 (r.inj d k2 _ o2 hob g5 hbk g2 g3.symm)
        have r2:R ν Z { st with m:=cV d st.m } F ((H++X).set (ν d).1 (.row es rs')):=r1.heap (λid ho=>hh id (by rintro rfl;exact hno ho)) hzx
        rw[if_pos hp]at hn;refine⟨n,_,_,iq ν t (ν d),hn,r2.add hnew (λ_=>⟨hno,r.apart d _ hob hbk⟩) ?_,?_,?_,Kept.add ji⟩
        .simp only[cO,bM,if_true,gy];exact⟨rs',hself,by omega,e2.mono hz,e3.mono hz,λe=>by cases e⟩
        .refine .own _ _ λob' h'=>?_
         simp only at h';rw[bH]at h';cases h';exact⟨_,_,_,rfl,by rw[gy];rfl⟩
        .exact ev0.trans (Ev.re (st:=st) ji (lE hnew).1 (by simp) (λid _ ho _=>hh id (by rintro rfl;exact ho ⟨d,_,hob,hbk,rfl⟩)) hzx (λ_=>.inl ⟨d,_,hob,hbk,rfl⟩))
       .cases h
      .cases h
     .rename_i hp;simp only[ζa,ζc]at h;obtain⟨rfl,rfl⟩:=h;rw[if_neg hp]at hn;have hp':q.part=false:=by simpa using hp
      have hlen:=heq hp';have hss:sameShape (.sl k es xs) (.sl k es ns):=⟨rfl,rfl,hlen⟩;refine⟨n,_,_,ν,hn,r0.fB hob hss rfl hh hbk ?_,.v _ _ (.same _ rfl),ev0.trans (Ev.fB r0 hob hss rfl hh hbk (by simp)),Kept.fB hob hss⟩
      simp only[cO,hk,if_true];exact⟨rs',hself,by omega,e2.mono hz,e3.mono hz,λe=>⟨(hrow e).1,by rw[e1,(hrow e).2,hlen]⟩⟩
   .cases h
  .cases h
 .cases h
end
end Go.VE
namespace Go.VE
variable [aW]
def vt:Nat->List SV->Tb SV
 | _,[]=>[]
 | i,v::vs=>(i,v)::vt (i+1) vs
def start (svs:List SV) (m0:gI):St:=⟨vt 0 svs,m0,m0.map (·.1),[],true,0⟩
def jF (S:Sys) (c:br):Prop:=
 ∀f svs m0 rs m1,c f svs m0=some (rs,m1)->∀(ν:Nu) (Z:Nat->Prop) (args:List V) (H:ak),(S.E.keep f=true\/H=[])->R ν Z (start svs m0) args H->aZ ν m0 H Z svs args ->
  ∃n y H' ν' Z' st' F' ys,run S.E n (.fn f) args H=some (y,H')/\y=result ys/\st'.m=m1/\aZ ν' m1 H' Z' rs ys/\R ν' Z' st' F' H'/\Ev (λ_=>False) ν Z (start svs m0) H ν' Z' st' H'
section
variable {Rv:Nat->Prop} {ν ν':Nu} {Z Z':Nat->Prop} {st st':St} {m m':Tb aM} {F F':Frame} {H H' H1:ak} {N:Nat->FuncId}
theorem Nk {k:Fl} {es:Nat} {xs:List (List V)} {d:Nat} (o:cO ν m H Z d (.sl k es xs)):(mq k es xs).good=true:=by
 by_cases hk:bM k=true
 .simp only[cO,hk,if_true]at o;obtain⟨ys,_,_,hf,_⟩:=o;have e:mq k es xs=.fsl es xs:=by cases k <;> simp[bM]at hk <;> rfl
  rw[e];simp only[V.good];exact hf.good
 .cases k <;> simp[bM]at hk <;> rfl
mutual
theorem Kr (ho:∀d ob,ai m d=some ob->cO ν m H Z d ob):∀(n:Nat) (sv:SV) (x y:V),shut m n sv=some x->bY ν m H Z sv y->x.good=true
 | n,.v x,z,y,h,r=>by simp only[shut,ζa]at h;subst h;exact r.fr.good
 | n,.own d,z,y,h,r=>by
  simp only[shut]at h;split at h
  .rename_i k es xs hob;simp only[ζa]at h;subst h;exact Nk (ho d _ hob)
  .simp at h
 | 0,.ptr d o,z,y,h,r=>by simp[shut]at h
 | n+1,.ptr d o,z,y,h,r=>by
  simp only[shut]at h;split at h
  .rename_i cs hob;split at h
   .rename_i xs hx;split at h
    .simp only[ζa]at h;subst h;obtain⟨es,cs',_,hc,_⟩:=ho d _ hob;simp only[V.good];exact w_ _ (kV ho n cs xs cs' hx hc)
    .simp at h
   .simp at h
  .simp at h
 | n,.el d i o,z,y,h,r=>by cases n <;> simp[shut]at h
 | n,.yl id,z,y,h,r=>by cases n <;> simp[shut]at h
 | n,.mp d,z,y,h,r=>by
  simp only[shut]at h;split at h
  .rename_i kvs hob;simp only[ζa]at h;subst h;obtain⟨kvs',_,hk⟩:=ho d _ hob;simp only[V.good];refine C1.2 λj u hu=>?_
   have hj:j<kvs'.length:=by rw[<-hk.1];exact(ζe.1 hu).1
   obtain⟨⟨_,h1⟩,h2⟩:=hk.2 j u _ hu (ζd hj);exact⟨lq h1,h2.good⟩
  .simp at h
 | 0,.clo f a b,z,y,h,r=>by simp[shut]at h
 | n+1,.clo f a b,z,y,h,r=>by
  simp only[shut]at h;split at h
  .rename_i x1 x2 h1 h2;simp only[ζa]at h;subst h;obtain⟨a',b',rfl,ra,rb⟩:=r.jL;simp only[V.good,ζh];exact⟨kV ho n a x1 a' h1 ra,kV ho n b x2 b' h2 rb⟩
  .simp at h
 | 0,.tup l,z,y,h,r=>by simp[shut]at h
 | n+1,.tup l,z,y,h,r=>by
  simp only[shut]at h;obtain⟨xs,h1,rfl⟩:=ζf.1 h;obtain⟨l',rfl,rl⟩:=r.oP;simp only[V.good];exact kV ho n l xs l' h1 rl
 | 0,.agg l,z,y,h,r=>by simp[shut]at h
 | n+1,.agg l,z,y,h,r=>by
  simp only[shut]at h;obtain⟨xs,h1,rfl⟩:=ζf.1 h;obtain⟨l',rfl,rl⟩:=r.gq;simp only[V.good];exact kV ho n l xs l' h1 rl
theorem kV (ho:∀d ob,ai m d=some ob->cO ν m H Z d ob):∀(n:Nat) (svs:List SV) (xs ys:List V),bN m n svs=some xs->aZ ν m H Z svs ys->V.bL xs=true
 | n,[],xs,ys,h,r=>by simp only[bN,ζa]at h;subst h;rfl
 | n,sv::svs,xs,ys,h,r=>by
  simp only[bN]at h;split at h
  .rename_i y s h1 h2;simp only[ζa]at h;subst h;obtain⟨y',ys',rfl,r1,r2⟩:=r.inv;simp only[V.bL,ζh];exact⟨Kr ho n sv y y' h1 r1,kV ho n svs s ys' h2 r2⟩
  .simp at h
end
theorem Fi {f:V->Option V}:∀{xs ys:List (V×V)},xs.length=ys.length->(∀(j:Nat) u v,xs[j]? = some u->ys[j]? = some v->f v.1=some u.1/\f v.2=some u.2)->sH f ys=some xs
 | [],[],_,_=>rfl
 | [],y::ys,h,_=>by simp at h
 | x::xs,[],h,_=>by simp at h
 | (a,b)::xs,(c,d)::ys,h,hf=>by
  obtain⟨h1,h2⟩:=hf 0 _ _ rfl rfl;simp only at h1 h2;simp only[sH,h1,h2,Fi (xs:=xs) (ys:=ys) (by simpa using h) λj u v hu hv=>hf (j+1) u v (by simpa using hu) (by simpa using hv)]
theorem FA:∀{l:List (V×V)} {n:Nat},V.nC n l=true↔∀(j:Nat) u,l[j]? = some u->u.1.lvl n=true/\u.2.lvl n=true
 | [],n=>by simp[V.nC]
 | (k,x)::l,n=>by
  simp only[V.nC,ζh,FA (l:=l)];constructor
  .rintro⟨h1,h2⟩ j u hu
   cases j with
   | zero=>simp at hu;subst hu;exact h1
   | succ j=>exact h2 j u (by simpa using hu)
  .intro h;exact⟨h 0 (k,x) rfl,λj u hu=>h (j+1) u (by simpa using hu)⟩
theorem s8 {n:Nat} {xs ys:List V} (hm:jS (borrow n H1) ys=some xs) (hcl:V.jP ys=true):ys=xs:=by
 have h2:=jQ (f:=borrow n H1) (xs:=ys) (ys:=ys) rfl λj u v hu hv=>by rw[hu]at hv;cases hv;exact c6 n H1 (nk.1 hcl j u hu)
 rw[hm]at h2;cases h2;rfl
mutual
theorem zR {fr:List Nat} (hfr:∀d∈fr,∀e ob,ai m e=some ob->ob.bT d=false) (ho:∀d ob,ai m d=some ob->d∉fr->cO ν m H1 Z d ob) :
 ∀(n:Nat) (sv:SV) (x y:V),shut m n sv=some x->(∀d∈fr,sv.bT d=false)->bY ν m H1 Z sv y->∀k,x.lvl k=true->borrow k H1 y=some x
 | n,.v x,z,y,h,hn,r,k,hk=>by simp only[shut,ζa]at h;subst h;exact r.fr.borrow k hk
 | n,.own d,z,y,h,hn,r,k,hk=>by
  simp only[shut]at h;split at h
  .rename_i fl es xs hob;simp only[ζa]at h;subst h;obtain⟨_,_,_,e,rfl⟩:=r.jl hob;cases e;have hd:d∉fr:=λhd=>by have:=hn d hd;simp[SV.bT]at this
   have o:=ho d _ hob hd
   by_cases hkk:bM fl=true
   .simp only[cO,hkk,if_true]at o;obtain⟨ys,hr,hl,hf,_⟩:=o;rw[qD hkk];have e:mq fl es xs=.fsl es xs:=by cases fl <;> simp[bM]at hkk <;> rfl
    rw[e]at hk ⊢;exact(FR.HW (Z:=λ_=>True) trivial (show au H1 (ν d).1=some (es,ys)by unfold au;rw[hr];rfl) hl (hf.mono λid h=>⟨trivial,rfl⟩)).borrow k hk
   .cases fl <;> simp[bM]at hkk
    .exact c6 k H1 rfl
    .exact c6 k H1 rfl
  .simp at h
 | 0,.ptr d o,z,y,h,hn,r,k,hk=>by simp[shut]at h
 | n+1,.ptr d o,z,y,h,hn,r,k,hk=>by
  simp only[shut]at h;split at h
  .rename_i cs hob;split at h
   .rename_i xs hx;split at h
    .rename_i hle;simp only[ζa]at h;subst h;obtain⟨_,e,rfl⟩:=r.nj hob;cases e;have hd:d∉fr:=λhd=>by have:=hn d hd;simp[SV.bT]at this
     obtain⟨es,cs',hr,hc,_⟩:=ho d _ hob hd
     cases k with
     | zero=>simp[V.lvl]at hk
     | succ k=>
      simp only[V.lvl]at hk;have hns:∀e∈fr,SV.cB e (cs.drop o)=false:=λe he=>by
       have:=hfr e he d _ hob;simp only[aM.bT]at this
       cases hh:SV.cB e (cs.drop o)with
       | false=>rfl
       | true=>
        exfalso;have:∀{l:List SV} {j:Nat},SV.cB e (l.drop j)=true->SV.cB e l=true:=by
         intro l
         induction l with
         | nil=>intro j h;simpa using h
         | cons a l ih=>intro j h;cases j with
          | zero=>simpa using h
          | succ j=>simp only[SV.cB,Bool.or_eq_true];exact .inr (ih (by simpa using h))
        rw[this hh]at *;simp_all
      have hlen:xs.length=cs.length:=by
       have:∀{l:List SV} {r:List V},bN m n l=some r->r.length=l.length:=by
        intro l
        induction l with
        | nil=>intro r h;simp only[bN,ζa]at h;subst h;rfl
        | cons a l ih=>
         intro r h;simp only[bN]at h;split at h
         .rename_i h1 h2;simp only[ζa]at h;subst h;simp[ih h2]
         .simp at h
       exact this hx
      have hxd:bN m n (cs.drop o)=some (xs.drop o):=by
       have:∀{l:List SV} {r:List V} {j:Nat},bN m n l=some r->bN m n (l.drop j)=some (r.drop j):=by
        intro l
        induction l with
        | nil=>intro r j h;simp only[bN,ζa]at h;subst h;simp[bN]
        | cons a l ih=>
         intro r j h;have h0:=h;simp only[bN]at h;split at h
         .rename_i h1 h2;simp only[ζa]at h;subst h
          cases j with
          | zero=>exact h0
          | succ j=>exact ih h2
         .simp at h
       exact this hx
      have hb:=iT hfr ho n (cs.drop o) (xs.drop o) (cs'.drop o) hxd hns (hc.drop o) k hk;unfold borrow;simp only[V.closed,Bool.false_eq_true,if_false,hr,ζb,Ob.rows,List.getElem?_cons_zero,if_pos (show o<=cs'.length by rw[<-hc.1,<-hlen];exact hle),hb,Option.map_some]
    .simp at h
   .simp at h
  .simp at h
 | n,.el d i o,z,y,h,hn,r,k,hk=>by cases n <;> simp[shut]at h
 | n,.yl id,z,y,h,hn,r,k,hk=>by cases n <;> simp[shut]at h
 | n,.mp d,z,y,h,hn,r,k,hk=>by
  simp only[shut]at h;split at h
  .rename_i kvs hob;simp only[ζa]at h;subst h;obtain⟨_,e,rfl⟩:=r.A9 hob;cases e;have hd:d∉fr:=λhd=>by have:=hn d hd;simp[SV.bT]at this
   obtain⟨kvs',hr,hkv⟩:=ho d _ hob hd
   cases k with
   | zero=>simp[V.lvl]at hk
   | succ k=>
    simp only[V.lvl]at hk;unfold borrow;simp only[V.closed,Bool.false_eq_true,if_false,hr];rw[Fi (xs:=kvs) (ys:=kvs') hkv.1 λj u v hu hv=>?_]
    .rfl
    .obtain⟨⟨e1,e2⟩,e3⟩:=hkv.2 j u v hu hv;exact⟨by rw[<-e1];exact c6 k H1 (V.kn (lq e2)),e3.borrow k (FA.1 hk j u hu).2⟩
  .simp at h
 | 0,.clo f a b,z,y,h,hn,r,k,hk=>by simp[shut]at h
 | n+1,.clo f a b,z,y,h,hn,r,k,hk=>by
  simp only[shut]at h;split at h
  .rename_i x1 x2 h1 h2;simp only[ζa]at h;subst h;obtain⟨a',b',rfl,ra,rb⟩:=r.jL
   cases k with
   | zero=>simp[V.lvl]at hk
   | succ k=>
    simp only[V.lvl,ζh]at hk;have hb1:=iT hfr ho n a x1 a' h1 (λd hd=>by have:=hn d hd;simp only[SV.bT,Bool.or_eq_false_iff]at this;exact this.1) ra k hk.1
    have hb2:=iT hfr ho n b x2 b' h2 (λd hd=>by have:=hn d hd;simp only[SV.bT,Bool.or_eq_false_iff]at this;exact this.2) rb k hk.2
    by_cases hcl:(V.clo f a' b').closed=true
    .rw[c6 _ _ hcl];simp only[V.closed,ζh]at hcl;rw[s8 hb1 hcl.1,s8 hb2 hcl.2]
    .unfold borrow;rw[if_neg hcl];simp only[hb1,hb2]
  .simp at h
 | 0,.tup l,z,y,h,hn,r,k,hk=>by simp[shut]at h
 | n+1,.tup l,z,y,h,hn,r,k,hk=>by
  simp only[shut]at h;obtain⟨xs,h1,rfl⟩:=ζf.1 h;obtain⟨l',rfl,rl⟩:=r.oP
  cases k with
  | zero=>simp[V.lvl]at hk
  | succ k=>
   simp only[V.lvl]at hk;have hb1:=iT hfr ho n l xs l' h1 (λd hd=>by have:=hn d hd;simpa [SV.bT]using this) rl k hk
   by_cases hcl:(V.tup l').closed=true
   .rw[c6 _ _ hcl];simp only[V.closed]at hcl;rw[s8 hb1 hcl]
   .unfold borrow;rw[if_neg hcl];simp only[hb1,Option.map_some]
 | 0,.agg l,z,y,h,hn,r,k,hk=>by simp[shut]at h
 | n+1,.agg l,z,y,h,hn,r,k,hk=>by
  simp only[shut]at h;obtain⟨xs,h1,rfl⟩:=ζf.1 h;obtain⟨l',rfl,rl⟩:=r.gq
  cases k with
  | zero=>simp[V.lvl]at hk
  | succ k=>
   simp only[V.lvl]at hk;have hb1:=iT hfr ho n l xs l' h1 (λd hd=>by have:=hn d hd;simpa [SV.bT]using this) rl k hk
   by_cases hcl:(V.agg l').closed=true
   .rw[c6 _ _ hcl];simp only[V.closed]at hcl;rw[s8 hb1 hcl]
   .unfold borrow;rw[if_neg hcl];simp only[hb1,Option.map_some]
theorem iT {fr:List Nat} (hfr:∀d∈fr,∀e ob,ai m e=some ob->ob.bT d=false) (ho:∀d ob,ai m d=some ob->d∉fr->cO ν m H1 Z d ob) :
 ∀(n:Nat) (svs:List SV) (xs ys:List V),bN m n svs=some xs->(∀d∈fr,SV.cB d svs=false)->aZ ν m H1 Z svs ys->∀k,V.b8 k xs=true->jS (borrow k H1) ys=some xs
 | n,[],xs,ys,h,hn,r,k,hk=>by simp only[bN,ζa]at h;subst h;rw[r.bZ];rfl
 | n,sv::svs,xs,ys,h,hn,r,k,hk=>by
  simp only[bN]at h;split at h
  .rename_i y s h1 h2;simp only[ζa]at h;subst h;obtain⟨y',ys',rfl,r1,r2⟩:=r.inv;simp only[V.b8,ζh]at hk;have b1:=zR hfr ho n sv y y' h1 (λd hd=>by have:=hn d hd;simp only[SV.cB,Bool.or_eq_false_iff]at this;exact this.1) r1 k hk.1
   have b2:=iT hfr ho n svs s ys' h2 (λd hd=>by have:=hn d hd;simp only[SV.cB,Bool.or_eq_false_iff]at this;exact this.2) r2 k hk.2
   simp only[jS,b1,b2]
  .simp at h
end
end
end Go.VE
namespace Go.VE
variable [aW]
def hG (E:Env) (call:cu) (ops:List Oper) (place:Option (Nat×Nat)) (f:FuncId) (args:List V) (H:ak):Option (V×ak):=
 if jD E ops place f then
  match place with
  | none=>eH E call f args H
  | some (_,i)=>if cA ops i then eH E call f args H else none
 else match place with
  | none=>match bG call f args H with
   | some y=>some (y,if y.scalar then H else bu H (cq (bz 8 H) args))
   | none=>none
  | some (b,i)=>match bG call f args (H.take b)with
   | some y=>if y.scalar then some (y,H)else if gG (H.take b) (cq (bz 8 (H.take b)) args)then some (y,bu H (cq (bz 8 (H.take b)) args))else none
   | none=>if cA ops i then match bG call f args H with
    | some y=>some (y,if y.scalar then H else bu H (cq (bz 8 H) args))
    | none=>none
    else none
section
variable {Rv:Nat->Prop} {ν ν':Nu} {Z Z':Nat->Prop} {st st':St} {m m':Tb aM} {F F':Frame} {H H' H1:ak} {N:Nat->FuncId} {S:Sys} {c:br}
theorem EC:∀(l:List SV) (i s:Nat) (sv:SV),ai (vt i l) s=some sv->∃j,s=i+j/\l[j]? = some sv
 | [],i,s,sv,h=>by simp[vt,ai]at h
 | x::l,i,s,sv,h=>by
  simp only[vt,ai]at h;split at h
  .rename_i e;simp only[ζa]at h;subst h;exact⟨0,by omega,rfl⟩
  .obtain⟨j,h1,h2⟩:=EC l (i+1) s sv h;exact⟨j+1,by omega,by simpa using h2⟩
theorem vF {svs:List SV} {args:List V} (h:aZ ν m H Z svs args):∀s sv,ai (vt 0 svs) s=some sv->bY ν m H Z sv (get args s):=λs sv hs=>by
 obtain⟨j,rfl,hj⟩:=EC svs 0 s sv hs;obtain⟨y,hy,r⟩:=h.get hj;rw[Nat.zero_add,EH args j y hy];exact r
theorem u6 {az:List V} (hg:V.bL az=true):R (λ_=>(0,0)) (λ_=>False) (start (az.map .v) []) az []/\aZ (λ_=>(0,0)) [] [] (λ_=>False) (az.map .v) az:=by
 have h:aZ (λ_=>(0,0)) [] [] (λ_=>False) (az.map .v) az:=aZ.pF (cr.same hg)
 refine⟨⟨vF h,λd ob hd=>by simp[start,ai]at hd,λd d' ob ob' hd=>by simp[start,ai]at hd,λd ob hd=>by simp[start,ai]at hd,λid h=>h.elim,⟨λid es ys h=>h.elim⟩⟩,h⟩
theorem DA {xs ys:List V} (h:cr H Z xs ys):((result xs).scalar=true->result ys=result xs)/\(result ys).scalar=(result xs).scalar:=by
 cases xs with
 | nil=>rw[h.bZ];exact⟨λ_=>rfl,rfl⟩
 | cons x xs=>
  obtain⟨y,ys,rfl,h1,h2⟩:=h.inv
  cases xs with
  | nil=>rw[h2.bZ];exact h1.scalar
  | cons x2 xs=>
   obtain⟨y2,ys,rfl,h3,h4⟩:=h2.inv;exact FR.scalar (.tup _ _ h.1 h.2)
theorem Ak (hS:jF S c) {f:FuncId} {az ys:List V} {rs:List SV} {m':gI} (hg:V.bL az=true) (h:c f (az.map .v) []=some (rs,m')) (hs:bN m' 8 rs=some ys) (hl:(result ys).lvl 8=true) :
 ∃n r H2,(∀k,n<=k->run S.E k (.fn f) az []=some (r,H2))/\borrow 8 H2 r=some (result ys)/\(result ys).good=true:=by
 obtain⟨r0,r1⟩:=u6 hg;obtain⟨n,y,H2,ν',Z',st',F',zs,h1,rfl,h3,h4,h5,_⟩:=hS f _ _ _ _ h _ _ az [] (.inr rfl) r0 r1;subst h3;have hgood:=kV h5.obj 8 rs ys zs hs h4;refine⟨n,result zs,H2,λk hk=>sP S.E hk _ _ _ _ h1,?_,?_⟩
 .have hfr:∀d∈([]:List Nat),∀e ob,ai st'.m e=some ob->ob.bT d=false:=λd hd=>by simp at hd
  have ho:∀d ob,ai st'.m d=some ob->d∉([]:List Nat)->cO ν' st'.m H2 Z' d ob:=λd ob hd _=>h5.obj d ob hd
  cases rs with
  | nil=>
   simp only[bN,ζa]at hs;subst hs;rw[h4.bZ];exact c6 8 H2 rfl
  | cons x rs=>
   obtain⟨z,zs,rfl,e1,e2⟩:=h4.inv;simp only[bN]at hs;split at hs
   .rename_i y s g1 g2;simp only[ζa]at hs;subst hs
    cases rs with
    | nil=>
     simp only[bN,ζa]at g2;subst g2;rw[e2.bZ];exact zR hfr ho 8 x y z g1 (λd hd=>by simp at hd) e1 8 hl
    | cons x2 rs=>
     obtain⟨z2,zs,rfl,e3,e4⟩:=e2.inv;simp only[bN]at g2;split at g2
     .rename_i y2 s2 g3 g4;simp only[ζa]at g2;subst g2;simp only[result,V.lvl,V.b8,ζh]at hl;have hall:bN st'.m 8 (x::x2::rs)=some (y::y2::s2):=by simp only[bN,g1,g3,g4]
      have hb:=iT hfr ho 8 (x::x2::rs) _ _ hall (λd hd=>by simp at hd) h4 7 (by simp only[V.b8,ζh];exact hl)
      by_cases hcl:(V.tup (z::z2::zs)).closed=true
      .simp only[result];rw[c6 _ _ hcl];simp only[V.closed]at hcl;rw[s8 hb hcl]
      .simp only[result];unfold borrow;rw[if_neg hcl];simp only[hb,Option.map_some]
     .simp at g2
   .simp at hs
 .have:∀{l:List V},V.bL l=true->(result l).good=true:=by
   intro l hl
   cases l with
   | nil=>rfl
   | cons a l=>cases l with
    | nil=>simp only[V.bL,ζh]at hl;exact hl.1
    | cons b l=>simp only[result,V.good];exact hl
  exact this hgood
theorem y9 {f:FuncId} {args az:List V} {y r:V} {H2:ak} {n:Nat} (hr:∀k,n<=k->run S.E k (.fn f) az []=some (r,H2)) (hb:borrow 8 H2 r=some y) (hg:y.good=true) (ha:borrows 8 H args=some az) :
 ∀k,n<=k->bG (run S.E k) f args H=some y:=λk hk=>by
 unfold bG;simp only[ha,hr k hk,hb,V.kn hg,if_true]
theorem pM (hz:∀id,Z id->(au H id).isSome=true) {T:List Nat} {id:Nat} (h:Z id):au (bu H T) id=au H id:=by
 have:=hz id h;unfold au at this ⊢;rw[gx]
 cases hh:H[id]? with
 | none=>rw[hh]at this;simp at this
 | some ob=>
  rw[hh]at this;simp only[Option.map_some,ζb]
  by_cases e:id∈T
  .rw[if_pos e];cases ob <;> first|rfl|simp[Ob.rows]at this
  .rw[if_neg e]
theorem sJ {T:List Nat} {id:Nat} (h:id∉T):(bu H T)[id]? = H[id]? := by
 rw[gx];cases H[id]? <;> simp[h]
end
end Go.VE
namespace Go.VE
variable [aW]
section
variable {Rv:Nat->Prop} {ν ν':Nu} {Z Z':Nat->Prop} {st st':St} {m m':Tb aM} {F F':Frame} {H H' H1:ak} {N:Nat->FuncId} {S:Sys} {c:br}
theorem yC {az:List V} {args:List SV} {ys:List V} (ho:∀d ob,ai m d=some ob->cO ν m H Z d ob) (h:bN m 8 args=some az) (r:aZ ν m H Z args ys):V.bL az=true:=kV ho 8 args az ys h r
theorem vz {az:List V} {args:List SV} {ys:List V} (r:R ν Z st F H) (ha:aZ ν st.m H Z args ys) (h:bN st.m 8 args=some az) (hl:V.b8 8 az=true):borrows 8 H ys=some az:=
 iT (fr:=[]) (λd hd=>by simp at hd) (λd ob hd _=>r.obj d ob hd) 8 args az ys h (λd hd=>by simp at hd) ha 8 hl
theorem lF {b id:Nat} (h:id<b):au (H.take b) id=au H id:=by
 unfold au;rw[List.getElem?_take,if_pos h]
theorem I8 {b:Nat} {fr:List Nat} {az:List V} {args:List SV} {ys:List V} (r:R ν Z st F H) (ha:aZ ν st.m H Z args ys) (h:bN st.m 8 args=some az) (hl:V.b8 8 az=true)
 (ho:∀d ob,ai st.m d=some ob->bK ob=true->d∉fr->(ν d).1<b) (hz:∀id,Z id->id<b) (hold:gw st.m fr args=true):borrows 8 (H.take b) ys=some az:=by
 unfold gw at hold;rw[List.all_eq_true]at hold;have h1:∀d∈fr,SV.cB d args=false/\qK d st.m=false:=λd hd=>by
  have:=hold d hd;simpa [ζh,Bool.not_eq_true']using this
 have hzr:∀id,Z id->Z id/\au (H.take b) id=au H id:=λid h=>⟨h,lF (hz id h)⟩
 refine iT (Z:=Z) (fr:=fr) (λd hd e ob he=>wF (h1 d hd).2 he) (λd ob hd hf=>?_) 8 args az ys h (λd hd=>(h1 d hd).1) (ha.mono hzr λe _=>gM ν st.m e) 8 hl
 exact cO.mono hzr rfl (λhb=>by rw[List.getElem?_take,if_pos (ho d ob hd hb hf)]) (λe _=>gM ν st.m e) (r.obj d ob hd)
theorem PG (hS:jF S c) {ops:List Oper} {place:Option (Nat×Nat)} {dr nw:Bool} {fr:List Nat} (hdr:dr=place.isSome) (hnow:∀b i,place=some (b,i)->nw=true->cA ops i=true)
 (hold:∀b i,place=some (b,i)->(∀d ob,ai st.m d=some ob->bK ob=true->d∉fr->(ν d).1<b)/\∀id,Z id->id<b)
 (r:R ν Z st F H) {args:List SV} {ys:List V} (ha:aZ ν st.m H Z args ys) {f:FuncId} (hk:S.E.keep f=false) {az:List V} (hs:bN st.m 8 args=some az) (hl:V.b8 8 az=true) (hno:(!dr||nw)=true\/gw st.m fr args=true)
 {rs:List SV} {m':gI} {zs:List V} (hc:c f (az.map .v) []=some (rs,m')) (hz:bN m' 8 rs=some zs) (hzl:(result zs).lvl 8=true) (hsc:(result zs).scalar=true\/(cG args).isSome=true) :
 ∃n H',(∀k,n<=k->hG S.E (run S.E k) ops place f ys H=some (result zs,H'))/\R ν Z st F H'/\bY ν st.m H' Z (.v (result zs)) (result zs)/\Ev Rv ν Z st H ν Z st H':=by
 have hg:=yC r.obj hs ha;obtain⟨n,rr,H2,h1,h2,h3⟩:=Ak hS hg hc hz hzl;have hb:=vz r ha hs hl;have hiso:=y9 h1 h2 h3 hb;have hsv:∀{H'},bY ν st.m H' Z (.v (result zs)) (result zs):=.v _ _ (.same _ h3);have froze:∀T:List Nat,(∀id∈T,Z id)->R ν Z st F (bu H T)/\Ev Rv ν Z st H ν Z st (bu H T):=λT hT=>
  ⟨r.heap (λid ho=>sJ λhid=>by obtain⟨d,ob,g1,g2,rfl⟩:=ho;exact r.apart d ob g1 g2 (hT _ hid)) (λid hid=>pM r.zrow hid),
   Ev.heap (by rw[ja];exact Nat.le_refl _) (λid _ _ hz _=>sJ λhid=>hz (hT id hid)) (λid hid=>pM r.zrow hid)⟩
 have allT:(cG args).isSome=true->(∀id∈cq (bz 8 H) ys,Z id)/\True:=λhx=>by
  obtain⟨xs,hx⟩:=Option.isSome_iff_exists.1 hx;have hf:=ha.cG hx;exact⟨λid hid=>by
   obtain⟨j,u,hu,hku⟩:=nY hid;have hj:j<xs.length:=by rw[hf.1];exact(ζe.1 hu).1
   exact FR.bz r.deep 8 (hf.2 j _ u (ζd hj) hu) id hku,trivial⟩
 cases place with
 | none=>
  subst hdr
  by_cases hsca:(result zs).scalar=true
  .exact⟨n,H,λk hkn=>by simp only[hG,jD,hk,Bool.false_and,Bool.false_eq_true,if_false,hiso k hkn,hsca,if_true],r,hsv,.refl⟩
  .obtain⟨hT,-⟩:=allT (hsc.resolve_left hsca);obtain⟨q1,q2⟩:=froze _ hT;exact⟨n,bu H (cq (bz 8 H) ys),λk hkn=>by simp only[hG,jD,hk,Bool.false_and,Bool.false_eq_true,if_false,hiso k hkn,hsca],q1,hsv,q2⟩
 | some bi=>
  obtain⟨b,i⟩:=bi;obtain⟨o1,o2⟩:=hold b i rfl;have hdt:dr=true:=hdr;subst hdt;have fits:∀k,bG (run S.E k) f ys (H.take b)=some (result zs)->(result zs).scalar=false->gG (H.take b) (cq (bz 8 (H.take b)) ys)=true/\cq (bz 8 H) ys=cq (bz 8 (H.take b)) ys:=λk _ hns=>by
   obtain⟨xs,hx⟩:=Option.isSome_iff_exists.1 (hsc.resolve_left (by rw[hns];simp))
   have hf:=ha.cG hx;have hzr:∀id,Z id->Z id/\au (H.take b) id=au H id:=λid h=>⟨h,lF (o2 id h)⟩
   have hd:Deep (H.take b) Z:=⟨λid es ys hz hr c hc u hu=>by
    rw[(hzr id hz).2]at hr;obtain⟨x,hx⟩:=r.deep.row id es ys hz hr c hc u hu;exact⟨x,hx.mono hzr⟩⟩
   have hZ:∀id∈cq (bz 8 (H.take b)) ys,Z id:=λid hid=>by
    obtain⟨j,u,hu,hku⟩:=nY hid;have hj:j<xs.length:=by rw[hf.1];exact(ζe.1 hu).1
    exact FR.bz hd 8 ((hf.2 j _ u (ζd hj) hu).mono hzr) id hku
   refine⟨?_,sy _ λid hid=>o2 id (hZ id hid)⟩
   unfold gG;rw[List.all_eq_true];intro id hid;have h1:=r.zrow id (hZ id hid);rw[<-(hzr id (hZ id hid)).2]at h1;exact h1
  rcases hno with hno|hno
  .have hlo:=hnow b i rfl (by simpa using hno)
   by_cases hsca:(result zs).scalar=true
   .refine⟨n,H,λk hkn=>?_,r,hsv,.refl⟩
    simp only[hG,jD,hk,Bool.false_and,Bool.false_eq_true,if_false];split
    .rename_i y hy;have:=nT hy;rw[hiso k hkn]at this;cases this;simp only[hsca,if_true]
    .simp only[hlo,if_true,hiso k hkn,hsca]
   .obtain⟨hT,-⟩:=allT (hsc.resolve_left hsca);obtain⟨q1,q2⟩:=froze _ hT;refine⟨n,bu H (cq (bz 8 H) ys),λk hkn=>?_,q1,hsv,q2⟩
    simp only[hG,jD,hk,Bool.false_and,Bool.false_eq_true,if_false];split
    .rename_i y hy;have h9:=nT hy;rw[hiso k hkn]at h9;cases h9;obtain⟨f1,f2⟩:=fits k hy (by simpa using hsca)
     rw[if_neg hsca,if_pos f1,f2]
    .simp only[hlo,if_true,hiso k hkn];rw[if_neg hsca]
  .have hb2:=I8 r ha hs hl o1 o2 hno
   by_cases hsca:(result zs).scalar=true
   .refine⟨n,H,λk hkn=>?_,r,hsv,.refl⟩
    simp only[hG,jD,hk,Bool.false_and,Bool.false_eq_true,if_false];have:=y9 h1 h2 h3 hb2 k hkn;simp only[this,hsca,if_true]
   .obtain⟨hT,-⟩:=allT (hsc.resolve_left hsca);obtain⟨q1,q2⟩:=froze _ hT;refine⟨n,bu H (cq (bz 8 H) ys),λk hkn=>?_,q1,hsv,q2⟩
    simp only[hG,jD,hk,Bool.false_and,Bool.false_eq_true,if_false];have h9:=y9 h1 h2 h3 hb2 k hkn;obtain⟨f1,f2⟩:=fits k h9 (by simpa using hsca)
    simp only[h9];rw[if_neg hsca,if_pos f1,f2]
theorem CM {α:Type} {k:Nat} {v:α}:∀{ds:List Nat} {g:Tb α},ai (lN ds g) k=some v->k∉ds
 | [],_,_=>by simp
 | d::ds,g,h=>by
  have h1:=CM (ds:=ds) h;have h2:=(mz (mF (ds:=ds) h)).1;simp only[List.mem_cons,not_or];exact⟨λe=>h2 e.symm,h1⟩
theorem xy:∀{args:List SV} {ds:List Nat},rowsOf args=some ds->∀(j:Nat) u,args[j]? = some u->(∃x,u=.v x)\/∃d,u=.own d/\d∈ds
 | [],_,_,j,u,hu=>by simp at hu
 | .v x::r,ds,h,j,u,hu=>by
  cases j with
  | zero=>simp only[List.getElem?_cons_zero,ζa]at hu;exact .inl ⟨x,hu.symm⟩
  | succ j=>exact xy (args:=r) (by simpa [rowsOf]using h) j u (by simpa using hu)
 | .own d::r,ds,h,j,u,hu=>by
  simp only[rowsOf]at h;obtain⟨es,h1,rfl⟩:=ζf.1 h
  cases j with
  | zero=>simp only[List.getElem?_cons_zero,ζa]at hu;exact .inr ⟨d,hu.symm,by simp⟩
  | succ j=>
   rcases xy h1 j u (by simpa using hu)with k|⟨d',k1,k2⟩
   .exact .inl k
   .exact .inr ⟨d',k1,by simp[k2]⟩
 | .ptr ..::_,_,h,_,_,_|.el ..::_,_,h,_,_,_|.mp _::_,_,h,_,_,_|.clo ..::_,_,h,_,_,_|.tup _::_,_,h,_,_,_|.agg _::_,_,h,_,_,_|.yl _::_,_,h,_,_,_=>by simp[rowsOf]at h
theorem ue:∀{args:List SV} {ds:List Nat} {n:Nat} {az:List V},rowsOf args=some ds->bN m n args=some az->∀d∈ds,∃ob,ai m d=some ob
 | [],ds,_,_,h,_,d,hd=>by simp only[rowsOf,ζa]at h;subst h;simp at hd
 | x::r,ds,n,az,h,hs,d,hd=>by
  simp only[bN]at hs;split at hs
  rotate_left
  .cases hs
  rename_i y s h1 h2
  cases x with
  | v x=>exact ue (args:=r) (by simpa [rowsOf]using h) h2 d hd
  | own e=>
   simp only[rowsOf]at h;obtain⟨es,g1,rfl⟩:=ζf.1 h;rcases List.mem_cons.1 hd with rfl|hd
   .cases n <;> (simp only[shut]at h1;split at h1 <;> first|(rename_i e;exact⟨_,e⟩)|cases h1)
   .exact ue g1 h2 d hd
  | _=>simp[rowsOf]at h
theorem zL {H0:ak} (hd:Deep H0 Z) (ho:∀d ob,ai m d=some ob->bK ob=true->(H0[(ν d).1]?).isSome=true->cO ν m H0 Z d ob) {args:List SV} {ys:List V} (ha:aZ ν m H0 Z args ys) {ds:List Nat} (hr:rowsOf args=some ds)
 (hin:∀d∈ds,∃ob,ai m d=some ob) {id:Nat} (h:id∈cq (bz 8 H0) ys):Z id\/∃d ob,d∈ds/\ai m d=some ob/\bK ob=true/\(ν d).1=id/\∃j es off len:Nat,ys[j]? = some (V.hsl id es off len):=by
 obtain⟨j,y,hy,hk⟩:=nY h;have hj:j<args.length:=by rw[ha.1];exact(ζe.1 hy).1
 have hu:=ζd hj;have hs:=ha.2 j _ y hu hy;rcases xy hr j _ hu with⟨x,e⟩|⟨d,e,hdd⟩
 .rw[e]at hs;cases hs with|v _ _ hf=>exact .inl (FR.bz hd 8 hf id hk)
 .rw[e]at hs;obtain⟨ob,hob⟩:=hin d hdd;obtain⟨k,es,xs,rfl,rfl⟩:=hs.jl hob
  by_cases hrl:bM k=true
  .have hyv:qq (ν d) k es xs.length=.hsl (ν d).1 es (ν d).2 xs.length:=by cases k <;> first|rfl|cases hrl
   rw[hyv]at hk;have hb:bK (.sl k es xs)=true:=hrl
   by_cases hsome:(H0[(ν d).1]?).isSome=true
   .have o:=ho d _ hob hb hsome;simp only[cO,hrl,if_true]at o;obtain⟨zs,h1,_,_,h4,_⟩:=o;simp only[bz,V.closed,Bool.false_eq_true,if_false,h1,ζb,Ob.rows,List.mem_cons]at hk;rcases hk with rfl|hk
    .exact .inr ⟨d,_,hdd,hob,hb,rfl,j,_,_,_,by rw[hy,hyv]⟩
    .obtain⟨i,u,hu,hku⟩:=nY hk;obtain⟨c,hc,huc⟩:=List.mem_flatten.1 (List.mem_of_getElem? hu);obtain⟨x,hx⟩:=h4 c hc u huc;exact .inl (FR.bz hd 7 hx id hku)
   .have hnone:H0[(ν d).1]? = none:=by simpa using hsome
    simp only[bz,V.closed,Bool.false_eq_true,if_false,hnone,Option.bind_none,List.mem_cons,List.not_mem_nil,or_false]at hk;subst hk;exact .inr ⟨d,_,hdd,hob,hb,rfl,j,_,_,_,by rw[hy,hyv]⟩
  .have hcl:(qq (ν d) k es xs.length).closed=true:=by cases k <;> first|rfl|(exact absurd rfl hrl)
   rw[FH 8 H0 hcl]at hk;cases hk
theorem ON (hS:jF S c) {ops:List Oper} {place:Option (Nat×Nat)} {nw:Bool} (hnow:∀b i,place=some (b,i)->nw=true->cA ops i=true)
 (hold:∀b i,place=some (b,i)->∀id,Z id->id<b)
 (r:R ν Z st F H) {args:List SV} {ys:List V} (ha:aZ ν st.m H Z args ys) {f:FuncId} (hk:S.E.keep f=false) {az:List V} (hs:bN st.m 8 args=some az) (hl:V.b8 8 az=true) (hno:(!place.isSome||nw)=true)
 {rs:List SV} {m':gI} {zs:List V} (hc:c f (az.map .v) []=some (rs,m')) (hz:bN m' 8 rs=some zs) (hzl:(result zs).lvl 8=true) (hsc:(result zs).scalar=false) {ds:List Nat} (hr:rowsOf args=some ds) (hin:∀d∈ds,∃ob,ai st.m d=some ob) :
 ∃n H',(∀k,n<=k->hG S.E (run S.E k) ops place f ys H=some (result zs,H'))/\R ν Z { st with m:=lN ds st.m } F H'/\bY ν (lN ds st.m) H' Z (.v (result zs)) (result zs)/\Ev Rv ν Z st H ν Z { st with m:=lN ds st.m } H':=by
 have hg:=yC r.obj hs ha;obtain⟨n,rr,H2,h1,h2,h3⟩:=Ak hS hg hc hz hzl;have hb:=vz r ha hs hl;have hiso:=y9 h1 h2 h3 hb;have hsv:∀{H'},bY ν (lN ds st.m) H' Z (.v (result zs)) (result zs):=.v _ _ (.same _ h3);have hsub:∀d ob,ai (lN ds st.m) d=some ob->ai st.m d=some ob:=λd ob h=>mF h
 have hT:∀id∈cq (bz 8 H) ys,Z id\/∃d ob,d∈ds/\ai st.m d=some ob/\bK ob=true/\(ν d).1=id/\∃j es off len:Nat,ys[j]? = some (V.hsl id es off len):=λid hid=>zL r.deep (λd ob h _ _=>r.obj d ob h) ha hr hin hid
 have r2:R ν Z { st with m:=lN ds st.m } F H:=r.less (λ_ _ h=>h) hsub
 have q1:R ν Z { st with m:=lN ds st.m } F (bu H (cq (bz 8 H) ys)):=r2.heap (λid ho=>sJ λhid=>by
  obtain⟨d,ob,g1,g2,rfl⟩:=ho;rcases hT _ hid with h|⟨d',ob',k1,k2,k3,k4,_⟩
  .exact r.apart d ob (hsub d ob g1) g2 h
  .have:=r.inj d' d ob' ob k2 (hsub d ob g1) k3 g2 k4;subst this;exact CM g1 k1) (λid hid=>pM r.zrow hid)
 have q2:Ev Rv ν Z st H ν Z { st with m:=lN ds st.m } (bu H (cq (bz 8 H) ys)):=(Ev.heap (by rw[ja];exact Nat.le_refl _) (λid _ ho hz _=>sJ λhid=>by
  rcases hT _ hid with h|⟨d',ob',k1,k2,k3,k4,_⟩
  .exact hz h
  .exact ho ⟨d',ob',k2,k3,k4⟩) (λid hid=>pM r.zrow hid)).trans (Ev.less (g:=st.g) hsub)
 cases place with
 | none=>exact⟨n,bu H (cq (bz 8 H) ys),λk hkn=>by simp only[hG,jD,hk,Bool.false_and,Bool.false_eq_true,if_false,hiso k hkn,hsc],q1,hsv,q2⟩
 | some bi=>
  obtain⟨b,i⟩:=bi;have o2:=hold b i rfl;have hlo:=hnow b i rfl (by simpa using hno)
  have fits:∀k,bG (run S.E k) f ys (H.take b)=some (result zs)->gG (H.take b) (cq (bz 8 (H.take b)) ys)=true/\cq (bz 8 H) ys=cq (bz 8 (H.take b)) ys:=λk hi=>by
   have hzr:∀id,Z id->Z id/\au (H.take b) id=au H id:=λid h=>⟨h,lF (o2 id h)⟩
   have hd:Deep (H.take b) Z:=⟨λid es ys hz hr c hc u hu=>by
    rw[(hzr id hz).2]at hr;obtain⟨x,hx⟩:=r.deep.row id es ys hz hr c hc u hu;exact⟨x,hx.mono hzr⟩⟩
   have ha':aZ ν st.m (H.take b) Z args ys:=ha.mono hzr λe _=>gM ν st.m e
   have hob:∀d ob,ai st.m d=some ob->bK ob=true->((H.take b)[(ν d).1]?).isSome=true->cO ν st.m (H.take b) Z d ob:=λd ob h hb hsome=>
    cO.mono hzr rfl (λ_=>by
     have hlt:(ν d).1<b:=by
      obtain⟨o,ho⟩:=Option.isSome_iff_exists.1 hsome;have:=(ζe.1 ho).1;rw[List.length_take]at this;omega
     rw[List.getElem?_take,if_pos hlt]) (λe _=>gM ν st.m e) (r.obj d ob h)
   have hbor:∀(j:Nat) (y:V),ys[j]? = some y->(borrow 8 (H.take b) y).isSome=true:=λj y hy=>by
    unfold bG at hi;split at hi
    .rename_i az' hbz;obtain⟨_,hm⟩:=gK hbz;have hl:=(gK hbz).1;have hj:=(ζe.1 hy).1;obtain⟨x,hx1,hx2⟩:=hm j _ (ζd (show j<az'.length by omega))
     rw[hy]at hx1;cases hx1;rw[hx2];rfl
    .cases hi
   have hZ:∀id∈cq (bz 8 (H.take b)) ys,id<b/\(au (H.take b) id).isSome=true:=λid hid=>by
    rcases zL hd hob ha' hr hin hid with h|⟨d,ob,k1,k2,k3,k4,j,es,off,len,hy⟩
    .refine⟨o2 id h,?_⟩;have:=r.zrow id h;rw[<-(hzr id h).2]at this;exact this
    .have hbo:=hbor j _ hy;simp only[borrow,V.closed,Bool.false_eq_true,if_false]at hbo;split at hbo
     .rename_i es' xs hx;obtain⟨o,ho,_⟩:=ζg.1 hx;have:=(ζe.1 ho).1;rw[List.length_take]at this;exact⟨by omega,by unfold au;rw[hx];rfl⟩
     .cases hbo
   refine⟨?_,sy _ λid hid=>(hZ id hid).1⟩
   unfold gG;rw[List.all_eq_true];exact λid hid=>(hZ id hid).2
  refine⟨n,bu H (cq (bz 8 H) ys),λk hkn=>?_,q1,hsv,q2⟩
  simp only[hG,jD,hk,Bool.false_and,Bool.false_eq_true,if_false];split
  .rename_i y hy;have h9:=nT hy;rw[hiso k hkn]at h9;cases h9;obtain⟨f1,f2⟩:=fits k hy;rw[if_neg (by rw[hsc];simp),if_pos f1,f2]
  .simp only[hlo,if_true,hiso k hkn];rw[if_neg (by rw[hsc];simp)]
theorem Gs {xs ys:List (List V)} (h:fc H Z xs ys) (hs:mI xs=true):ys=xs:=by
 refine(List.ext_getElem h.1 λj h1 h2=>?_).symm
 have:=h.2 j _ _ (ζd h1) (ζd h2);have hsj:V.bQ xs[j]=true:=by
  unfold mI at hs;rw[List.all_eq_true]at hs;have:=hs _ (List.getElem_mem h1);rw[List.all_eq_true]at this;exact pe.2 λk u hu=>this u (List.mem_of_getElem? hu)
 exact(this.scalar.1 hsj).symm
theorem oW:∀{args:List SV} {os:gI},jU m args=some os->∀k ob,ai os k=some ob->ai m k=some ob/\wu ob=true
 | [],os,h,k,ob,hk=>by simp only[jU,ζa]at h;subst h;simp[ai]at hk
 | .v _::r,os,h,k,ob,hk=>oW (args:=r) (by simpa [jU]using h) k ob hk
 | .own d::r,os,h,k,ob,hk=>by
  simp only[jU]at h;split at h
  .rename_i os' fl es xs h1 h2;simp only[ζa]at h;subst h;simp only[ai]at hk;split at hk
   .rename_i e;subst e;cases hk;exact⟨h2,rfl⟩
   .exact oW h1 k ob hk
  .simp at h
 | .ptr d _::r,os,h,k,ob,hk=>by
  simp only[jU]at h;split at h
  .rename_i os' cs h1 h2;split at h
   .rename_i hc;simp only[ζa]at h;subst h;simp only[ai]at hk;split at hk
    .rename_i e;subst e;cases hk;exact⟨h2,hc⟩
    .exact oW h1 k ob hk
   .simp at h
  .simp at h
 | .el ..::r,os,h,k,ob,hk=>by simp[jU]at h
 | .mp _::r,os,h,k,ob,hk=>by simp[jU]at h
 | .clo ..::r,os,h,k,ob,hk=>by simp[jU]at h
 | .tup _::r,os,h,k,ob,hk=>by simp[jU]at h
 | .agg _::r,os,h,k,ob,hk=>by simp[jU]at h
 | .yl _::r,os,h,k,ob,hk=>by simp[jU]at h
theorem xE:∀{l:List Nat} {a b:Tb aM},rD m' l a=some b->(∀k∈l,ai b k=ai m' k/\∃ob,ai m' k=some ob/\wu ob=true)/\∀k,k∉l->ai b k=ai a k
 | [],a,b,h=>by simp only[rD,ζa]at h;subst h;exact⟨λk hk=>by simp at hk,λ_ _=>rfl⟩
 | d::r,a,b,h=>by
  simp only[rD]at h;split at h
  .rename_i ob hob;split at h
   .rename_i hp;obtain⟨h1,h2⟩:=xE h;refine⟨λk hk=>?_,λk hk=>?_⟩
    .by_cases hr:k∈r
     .exact h1 k hr
     .have e:k=d:=by simpa [hr]using hk
      subst e;exact⟨by rw[h2 k hr,bH,hob],ob,hob,hp⟩
    .simp only[List.mem_cons,not_or]at hk;rw[h2 k hk.2,cU _ _ (Ne.symm hk.1)]
   .simp at h
  .simp at h
theorem mem_keys:∀{os:gI} {k:Nat},k∈os.map (·.1)↔∃ob,ai os k=some ob
 | [],k=>by simp[ai]
 | (d,o)::os,k=>by
  simp only[List.map_cons,List.mem_cons,ai]
  by_cases e:d=k
  .subst e;simp
  .rw[if_neg e,<-mem_keys];constructor
   .rintro (h|h)
    .exact absurd h.symm e
    .exact h
   .exact .inr
theorem cO.plain {d:Nat} {ob:aM} (hp:wu ob=true) (hz:∀id,Z id->Z' id/\au H' id=au H id) (hd:ν' d=ν d) (hh:bK ob=true->H'[(ν d).1]? = H[(ν d).1]?) (o:cO ν m H Z d ob):cO ν' m' H' Z' d ob:=by
 cases ob with
 | box cs=>
  obtain⟨xs,hx⟩:=Option.isSome_iff_exists.1 hp;obtain⟨es,cs',h1,h2,h3⟩:=o;refine⟨es,cs',by rw[hd,hh rfl];exact h1,?_,h3⟩
  have:=(h2.cG hx).mono hz;rw[qw hx];exact aZ.pF this
 | sl k es xs=>exact cO.mono hz hd hh (λe he=>by simp[aM.bT]at he) o
 | mp kvs=>exact cO.mono hz hd hh (λe he=>by simp[aM.bT]at he) o
theorem Oo (hS:jF S c) {f:FuncId} (hkp:S.E.keep f=true) (r:R ν Z st F H) {args:List SV} {ys:List V} (ha:aZ ν st.m H Z args ys) {os:gI} (hh:jU st.m args=some os)
 {rs:List SV} {m':gI} {zs:List V} {m2:Tb aM} (hc:c f args os=some (rs,m')) (hz:cG rs=some zs) (hb:rD m' (os.map (·.1)) st.m=some m2) :
 ∃n y H' Z',(∀k,n<=k->run S.E k (.fn f) ys H=some (y,H'))/\R ν Z' { st with m:=m2 } F H'/\bY ν m2 H' Z' (.v (result zs)) y/\Ev Rv ν Z st H ν Z' { st with m:=m2 } H'/\∀e ob',ai m2 e=some ob'->∃ob,ai st.m e=some ob/\ν e=ν e/\sameShape ob ob':=by
 have hsub:∀k ob,ai os k=some ob->ai st.m k=some ob:=λk ob h=>(oW hh k ob h).1
 have ha0:aZ ν os H Z args ys:=ha.mono (λid h=>⟨h,rfl⟩) λe _ ob' h=>⟨ob',hsub e ob' h,rfl,.refl _⟩
 have r0:R ν Z (start args os) ys H:=by
  refine⟨vF ha0,λd ob hd=>?_,λd d' ob ob' h1 h2=>r.inj d d' ob ob' (hsub d ob h1) (hsub d' ob' h2),λd ob h=>r.apart d ob (hsub d ob h),r.zrow,r.deep⟩
  exact cO.plain (oW hh d ob hd).2 (λid h=>⟨h,rfl⟩) rfl (λ_=>rfl) (r.obj d ob (hsub d ob hd))
 obtain⟨n,y,H',ν1,Z',st1,F1,ws,e1,rfl,rfl,e2,e3,ev⟩:=hS f args os rs m' hc ν Z ys H (.inl hkp) r0 ha0;obtain⟨b1,b2⟩:=xE hb;have hpin:∀k ob',k∈os.map (·.1)->ai st1.m k=some ob'->∃ob,ai os k=some ob/\ν1 k=ν k/\sameShape ob ob':=λk ob' hk h=>ev.pin k hk ob' h
 have hown0:∀id,eC ν os id->eC ν st.m id:=λid ⟨k,o,h1,h2,h3⟩=>⟨k,o,hsub k o h1,h2,h3⟩
 have bk:∀ob ob':aM,sameShape ob ob'->bK ob'=bK ob:=λob ob' h=>by
  cases ob <;> cases ob' <;> simp only[sameShape]at h
  .simp only[bK,h.1]
  .rfl
  .rfl
 have was:∀k ob',ai m2 k=some ob'->∃ob,ai st.m k=some ob/\sameShape ob ob'/\(k∈os.map (·.1)/\ai st1.m k=some ob'/\ν1 k=ν k/\ai os k=some ob/\wu ob'=true\/k∉os.map (·.1)/\ob'=ob):=λk ob' h=>by
  by_cases hk:k∈os.map (·.1)
  .obtain⟨g1,o,g2,g3⟩:=b1 k hk;rw[g1]at h;obtain⟨ob,p1,p2,p3⟩:=hpin k ob' hk h;rw[g2]at h;cases h;exact⟨ob,hsub k ob p1,p3,.inl ⟨hk,g2,p2,p1,g3⟩⟩
  .rw[b2 k hk]at h;exact⟨ob',h,.refl _,.inr ⟨hk,rfl⟩⟩
 have hother:∀k ob,k∉os.map (·.1)->ai st.m k=some ob->bK ob=true->H'[(ν k).1]? = H[(ν k).1]? /\ ¬Z' (ν k).1:=λk ob hk h hbk=>by
  have hno:¬eC ν os (ν k).1:=by
   rintro⟨k2,o2,g1,g2,g3⟩;have:=r.inj k2 k o2 ob (hsub k2 o2 g1) h g2 hbk g3;subst this;exact hk (mem_keys.2 ⟨o2,g1⟩)
  have hlt:=r.lt ⟨k,ob,h,hbk,rfl⟩;have hnz:=r.apart k ob h hbk;refine⟨ev.same _ hlt hno hnz (λh=>h),λhz'=>?_⟩
  rcases ev.frz _ hz' with h|h|h|h
  .exact hnz h
  .exact hno h
  .exact h
  .omega
 have sm:∀e ob',ai m2 e=some ob'->∃ob,ai st.m e=some ob/\ν e=ν e/\sameShape ob ob':=λe ob' h=>by
  obtain⟨ob,h1,h2,_⟩:=was e ob' h;exact⟨ob,h1,rfl,h2⟩
 refine⟨n,result ws,H',Z',λk hk=>sP S.E hk _ _ _ _ e1,⟨λs sv hs=>(r.slot s sv hs).mono ev.rows λe _=>sm e,λk ob' h=>?_,λd1 d2 o1 o2 h1 h2 k1 k2 hp=>?_,λd1 o1 h1 k1=>?_,e3.zrow,e3.deep⟩,?_,⟨ev.len,?_,ev.rows,?_,?_,λe _=>sm e,rfl⟩,sm⟩
 .obtain⟨ob,h1,h2,h3|⟨h3,rfl⟩⟩:=was k ob' h
  .obtain⟨q1,q2,q3,q4,q5⟩:=h3;refine cO.plain (ν:=ν1) (Z:=Z') (H:=H') q5 (λid h=>⟨h,rfl⟩) q3.symm (λ_=>rfl) (e3.obj k ob' q2)
  .exact cO.mono ev.rows rfl (λhbk=>(hother k ob' h3 h1 hbk).1) (λe _=>sm e) (r.obj k ob' h1)
 .obtain⟨p1,g1,s1,_⟩:=was d1 o1 h1;obtain⟨p2,g2,s2,_⟩:=was d2 o2 h2;exact r.inj d1 d2 p1 p2 g1 g2 (by rw[<-bk _ _ s1];exact k1) (by rw[<-bk _ _ s2];exact k2) hp
 .obtain⟨ob,g1,s1,h3|⟨h3,rfl⟩⟩:=was d1 o1 h1
  .obtain⟨q1,q2,q3,q4,q5⟩:=h3;rw[<-q3];exact e3.apart d1 o1 q2 k1
  .exact(hother d1 o1 h3 g1 k1).2
 .have hf:=e2.cG hz;have:FR H' Z' (result zs) (result ws):=by
   cases zs with
   | nil=>rw[hf.bZ];exact .same _ rfl
   | cons x xs=>
    obtain⟨y,ys2,rfl,g1,g2⟩:=hf.inv
    cases xs with
    | nil=>rw[g2.bZ];exact g1
    | cons x2 xs=>
     obtain⟨y2,ys3,rfl,g3,g4⟩:=g2.inv;exact .tup _ _ hf.1 hf.2
  exact .v _ _ this
 .intro id hl ho hz _;exact ev.same id hl (λh=>ho (hown0 id h)) hz (λh=>h)
 .rintro id ⟨k,o,h1,h2,h3⟩;obtain⟨ob,g1,s1,_⟩:=was k o h1;exact .inl ⟨k,ob,g1,by rw[<-bk _ _ s1];exact h2,h3⟩
 .intro id h;rcases ev.frz id h with h|h|h|h
  .exact .inl h
  .exact .inr (.inl (hown0 id h))
  .exact h.elim
  .exact .inr (.inr (.inr h))
theorem Nb (hS:jF S c) {f:FuncId} {az:List V} {rs:List SV} {m':gI} (hg:V.bL az=true) (h:c f (az.map .v) []=some (rs,m')) :
 ∃n H2 ν' Z' st' F' ys,(∀k,n<=k->run S.E k (.fn f) az []=some (result ys,H2))/\st'.m=m'/\aZ ν' m' H2 Z' rs ys/\R ν' Z' st' F' H2:=by
 obtain⟨r0,r1⟩:=u6 hg;obtain⟨n,y,H2,ν',Z',st',F',zs,h1,rfl,h3,h4,h5,_⟩:=hS f _ _ _ _ h _ _ az [] (.inr rfl) r0 r1;exact⟨n,H2,ν',Z',st',F',zs,λk hk=>sP S.E hk _ _ _ _ h1,h3,h4,h5⟩
theorem A1 {ys:List V} (h:V.bQ ys=true):V.bQ (.aR::ys)=true/\V.bQ (.ck::ys)=true:=by
 simp only[V.bQ,V.scalar,Bool.true_and];exact⟨h,h⟩
theorem Co {ys:List V} (h:V.bQ ys=true):(result ys).scalar=true:=by
 cases ys with
 | nil=>rfl
 | cons a l=>
  cases l with
  | nil=>simp only[V.bQ,ζh]at h;exact h.1
  | cons b l=>simp only[result,V.scalar];exact h
theorem aZ.Rf {ys:List V} (h:V.bL ys=true):aZ ν m H Z (ys.map .v) ys:=aZ.pF (cr.same h)
theorem Mt (hS:jF S c) (hP:∀f q,S.prm f=some q->pW S.E f q) {ops:List Oper} {place:Option (Nat×Nat)} {dr nw:Bool} {fr:List Nat} (hdr:dr=place.isSome) (hnow:∀b i,place=some (b,i)->nw=true->cA ops i=true)
 (hold:∀b i,place=some (b,i)->(∀d ob,ai st.m d=some ob->bK ob=true->d∉fr->(ν d).1<b)/\∀id,Z id->id<b)
 (r:R ν Z st F H) {args:List SV} {ys:List V} (ha:aZ ν st.m H Z args ys) {f:FuncId} {dst:Option Nat} {sv:SV} (h:iI S c dst dr (!dr||nw) (gw st.m fr) f args st=some (sv,st')) :
 ∃n y H' ν' Z',(∀k,n<=k->hG S.E (run S.E k) ops place f ys H=some (y,H'))/\R ν' Z' st' F H'/\bY ν' st'.m H' Z' sv y/\Ev Rv ν Z st H ν' Z' st' H'/\(dr=true->Z'=Z)/\Kept dst ν st.m ν' st'.m:=by
 unfold iI at h;split at h
 .rename_i hk;split at h
  .rename_i hnw;have hplace:∀{q:cu} {y:V} {H':ak},eH S.E q f ys H=some (y,H')->hG S.E q ops place f ys H=some (y,H'):=λ{q y H'} hd=>by
    unfold hG
    cases place with
    | none=>rw[if_pos (by simp only[jD,hk,Bool.and_self])];exact hd
    | some bi=>
     obtain⟨b,i⟩:=bi;have hdt:dr=true:=hdr;subst hdt;have hlo:=hnow b i rfl (by simpa using hnw)
     rw[if_pos (by simp only[jD,hk,hlo,Bool.true_or,Bool.and_self])]
     simp only;rw[if_pos hlo];exact hd
   split at h
   .
    rename_i hown;split at h
    .rename_i az hs;split at h
     .rename_i hl;have hg:=yC r.obj hs ha;have hb:=vz r ha hs hl;split at h
      .rename_i rs m' hc;obtain⟨n,H2,ν2,Z2,st2,F2,ws,e1,rfl,e3,e4⟩:=Nb hS hg hc;have hdir:∀k,n<=k->∀{o:Option (V×ak)},(if(result ws).scalar then some (result ws,H)else
        match result ws with
        | .hsl id es off len=>(qV H.length H2 id es off len).map λ(v,ob)=>(v,H++[ob])
        | .tup (.hsl id es off len::rest)=>if V.bQ rest then(qV H.length H2 id es off len).map λ(v,ob)=>(.tup (v::rest),H++[ob])else none
        | _=>none)=o->eH S.E (run S.E k) f ys H=o:=λk hkn o ho=>by
        unfold eH kP;rw[if_pos hown];simp only[hb,e1 k hkn];exact ho
       have scal:∀zs:List V,(result zs).scalar=true->result ws=result zs->sv=.v (result zs)->st'=st->∃n y H' ν' Z',(∀k,n<=k->hG S.E (run S.E k) ops place f ys H=some (y,H'))/\R ν' Z' st' F H'/\bY ν' st'.m H' Z' sv y/\Ev Rv ν Z st H ν' Z' st' H'/\(dr=true->Z'=Z)/\Kept dst ν st.m ν' st'.m:=by
        rintro zs h1 h2 rfl rfl;exact⟨n,result zs,H,ν,Z,λk hkn=>hplace (hdir k hkn (by rw[h2,if_pos h1])),r,.v _ _ (.same _ (lq h1)),.refl,λ_=>rfl,.refl⟩
       have emp:∀(k:Fl) (es:Nat) (zs:List V) (rest:List SV),V.bQ zs=true->∀t,st.new t=true->∀w:V,(k=.nil/\w=.aR\/k=.emp/\w=.ck)->result (w::zs)=result ws->dst=some t->sv=DU (.own t::zs.map .v)->st'={ st with m:=aU st.m t (.sl k es []) } ->
        ∃n y H' ν' Z',(∀k,n<=k->hG S.E (run S.E k) ops place f ys H=some (y,H'))/\R ν' Z' st' F H'/\bY ν' st'.m H' Z' sv y/\Ev Rv ν Z st H ν' Z' st' H'/\(dr=true->Z'=Z)/\Kept dst ν st.m ν' st'.m:=by
        rintro k es zs rest hsc t hnew w hw hres rfl rfl rfl;have hrl:bM k=false:=by rcases hw with⟨rfl,_⟩|⟨rfl,_⟩ <;> rfl
        have hsl:bY (iq ν t (0,0)) (aU st.m t (.sl k es [])) H Z (.own t) w:=by
         refine .own _ _ λob' h'=>?_
         rw[bH]at h';cases h';exact⟨_,_,_,rfl,by rcases hw with⟨rfl,rfl⟩|⟨rfl,rfl⟩ <;> rfl⟩
        have hscw:(result (w::zs)).scalar=true:=Co (by rcases hw with⟨_,rfl⟩|⟨_,rfl⟩;exact(A1 hsc).1;exact(A1 hsc).2)
        refine⟨n,result (w::zs),H,iq ν t (0,0),Z,λk hkn=>hplace (hdir k hkn (by rw[<-hres,if_pos hscw])),r.add hnew (λhb=>by simp[bK,hrl]at hb) (by simp[cO,hrl]),?_,
         Ev.add hnew (Nat.le_refl _) (λ_ _ _=>rfl) (λ_ _=>rfl) (λhb=>by simp[bK,hrl]at hb),λ_=>rfl,Kept.add λ_ _ h=>h⟩
        cases zs with
        | nil=>exact hsl
        | cons z zs=>exact .tup _ _ (by simp) (aZ.cons hsl (aZ.Rf (oc hsc))).2
       split at h
       .rename_i zs hz;split at h
        .rename_i hsc;simp only[ζa,ζc]at h;exact scal zs hsc ((DA (e3.cG hz)).1 hsc) h.1.symm h.2.symm
        .simp at h
       .split at h
        .rename_i e rest t _;obtain⟨w,ws,rfl,g1,g2⟩:=e3.inv;split at h
         .
          rename_i es xs zs hob hz;split at h
          .rename_i hcnd;simp only[ζh]at hcnd;obtain⟨⟨c1,c2⟩,hnew⟩:=hcnd;simp only[ζa,ζc]at h;obtain⟨rfl,rfl⟩:=h;have o:=e4.obj e _ hob;simp only[cO,bM,if_true]at o;obtain⟨rows,hr,hle,hf,hsol,hrow⟩:=o;obtain⟨q1,q2⟩:=hrow trivial;have hrows:rows=xs:=by
            have:=Gs hf c2;rw[q1,List.drop_zero,<-q2,List.take_length]at this;exact this
           subst hrows;obtain⟨_,_,_,ee,rfl⟩:=g1.jl hob;cases ee;have hrest:ws=zs:=(g2.cG hz).scalar.1 c1;subst hrest;have had:qV H.length H2 (ν2 e).1 es 0 rows.length=some (.hsl H.length es 0 rows.length,.row es rows):=by
            unfold qV;rw[hr];simp only[true_and];rw[if_pos];rw[List.all_eq_true];intro x hx;unfold mI at c2;rw[List.all_eq_true]at c2;exact c2 x hx
           have hH:∀id,id<H.length->(H++[Ob.row es rows])[id]? = H[id]? := λid hl=>List.getElem?_append_left hl
           have hzr:∀id,Z id->au (H++[Ob.row es rows]) id=au H id:=λid hz=>by unfold au;rw[hH id (r.uk hz)]
           have r2:R ν Z st F (H++[Ob.row es rows]):=r.heap (λid ho=>hH id (r.lt ho)) hzr
           have hgr:V.mP rows=true:=by
            refine jX.2 λj u hu=>?_
            unfold mI at c2;rw[List.all_eq_true]at c2;have:=c2 u (List.mem_of_getElem? hu);rw[List.all_eq_true]at this;exact iG.2 λi v hv=>lq (this v (List.mem_of_getElem? hv))
           have hR:=r2.add (ν:=ν) (d:=t) (ob:=.sl .row es rows) (p:=(H.length,0)) hnew (λ_=>⟨λho=>absurd (r.lt ho) (by simp),λhz=>absurd (r.uk hz) (by simp)⟩) (by
            simp only[cO,bM,if_true,gy];refine⟨rows,by simp,by simp,?_,(fc.same hgr).DZ,λ_=>⟨trivial,rfl⟩⟩
            rw[List.drop_zero,List.take_length];exact fc.same hgr)
           have hsl:bY (iq ν t (H.length,0)) (aU st.m t (.sl .row es rows)) (H++[Ob.row es rows]) Z (.own t) (.hsl H.length es 0 rows.length):=by
            refine .own _ _ λob' h'=>?_
            rw[bH]at h';cases h';exact⟨_,_,_,rfl,by simp[qq,gy]⟩
           have hev:Ev Rv ν Z st H (iq ν t (H.length,0)) Z { st with m:=aU st.m t (.sl .row es rows) } (H++[Ob.row es rows]):=Ev.add hnew (by simp) (λid hl _=>hH id hl) hzr (λ_=>.inr (Nat.le_refl _))
           have hoff:qq (ν2 e) Fl.row es rows.length=.hsl (ν2 e).1 es 0 rows.length:=by simp[qq,q1]
           rw[hoff]at hdir
           cases rest with
           | nil=>
            have:ws=[]:=by simp only[cG,ζa]at hz;exact hz.symm
            subst this;refine⟨n,_,_,_,Z,λk hkn=>hplace (hdir k hkn (o:=some (.hsl H.length es 0 rows.length,H++[Ob.row es rows])) ?_),hR,hsl,hev,λ_=>rfl,Kept.add λ_ _ h=>h⟩
            simp only[result,V.scalar,Bool.false_eq_true,if_false,had,Option.map_some]
           | cons x2 rest=>
            have hcl:∃w2 ws2,ws=w2::ws2:=by
             have:=g2.1
             cases ws with
             | nil=>simp at this
             | cons a b=>exact⟨a,b,rfl⟩
            obtain⟨w2,ws2,rfl⟩:=hcl;refine⟨n,_,_,_,Z,λk hkn=>hplace (hdir k hkn (o:=some (.tup (.hsl H.length es 0 rows.length::w2::ws2),H++[Ob.row es rows])) ?_),hR,?_,hev,λ_=>rfl,Kept.add λ_ _ h=>h⟩
            .simp only[result,V.scalar,V.bQ,Bool.false_and,Bool.false_eq_true,if_false];have c1':(w2.scalar&&V.bQ ws2)=true:=by simpa [V.bQ]using c1
             simp only[c1',if_true,had,Option.map_some]
            .exact .tup _ _ (by simp) (aZ.cons hsl (aZ.Rf (oc c1))).2
          .simp at h
         .rename_i es xs zs hob hz;split at h
          .rename_i hcnd;simp only[ζh]at hcnd;simp only[ζa,ζc]at h;obtain⟨rfl,rfl⟩:=h;obtain⟨_,_,_,ee,rfl⟩:=g1.jl hob;cases ee;have hrest:=(g2.cG hz).scalar.1 hcnd.1;subst hrest;exact emp .nil es ws rest hcnd.1 _ hcnd.2 .aR (by simp) rfl rfl rfl rfl
          .simp at h
         .rename_i es xs zs hob hz;split at h
          .rename_i hcnd;simp only[ζh]at hcnd;simp only[ζa,ζc]at h;obtain⟨rfl,rfl⟩:=h;obtain⟨_,_,_,ee,rfl⟩:=g1.jl hob;cases ee;have hrest:=(g2.cG hz).scalar.1 hcnd.1;subst hrest;exact emp .emp es ws rest hcnd.1 _ hcnd.2 .ck (by simp) rfl rfl rfl rfl
          .simp at h
         .simp at h
        .simp at h
      .simp at h
     .simp at h
    .simp at h
   .rename_i hown;split at h
    .simp at h
    .rename_i hd;split at h
     .rename_i q hq;obtain⟨n,y,H',ν',e1,e2,e3,e4,e5⟩:=Pk (Rv:=Rv) (hP f q hq) r ha h;exact⟨n,y,H',ν',Z,λk hkn=>hplace (by unfold eH;rw[if_neg hown];exact e1 k hkn),e2,e3,e4,λh=>absurd h hd,e5⟩
     .split at h
      .rename_i os hh;split at h
       .rename_i rs m' hc;split at h
        .rename_i zs m2 hz hb;simp only[ζa,ζc]at h;obtain⟨rfl,rfl⟩:=h;obtain⟨n,y,H',Z',e1,e2,e3,e4,e5⟩:=Oo (Rv:=Rv) hS hk r ha hh hc hz hb;exact⟨n,y,H',ν,Z',λk hkn=>hplace (by unfold eH;rw[if_neg hown];exact e1 k hkn),e2,e3,e4,λh=>absurd h hd,λe ob' _=>e5 e ob'⟩
        .simp at h
       .simp at h
      .simp at h
  .simp at h
 .rename_i hk;have hk':S.E.keep f=false:=by simpa using hk
  split at h
  .rename_i az hs;split at h
   .rename_i hl;simp only[ζh,Bool.or_eq_true]at hl;split at h
    .rename_i rs m' hc;split at h
     .rename_i zs hz;split at h
      .rename_i hcnd;simp only[ζh,Bool.or_eq_true,Bool.not_eq_true']at hcnd;simp only[ζa,ζc]at h;obtain⟨rfl,rfl⟩:=h;obtain⟨n,H',e1,e2,e3,e4⟩:=PG (Rv:=Rv) hS hdr hnow hold r ha hk' hs hl.1 (by simpa using hl.2) hc hz hcnd.1 hcnd.2
       exact⟨n,_,H',ν,Z,e1,e2,e3,e4,λ_=>rfl,.refl⟩
      .rename_i hncd;split at h
       .rename_i hcd;simp only[ζh]at hcd;obtain⟨ds,hds,e⟩:=ζf.1 h;simp only[ζc]at e;obtain⟨rfl,rfl⟩:=e;have hnsc:(result zs).scalar=false:=by
         cases hq:(result zs).scalar with
         | false=>rfl
         | true=>exact absurd (by simp[hcd.1,hq]) hncd
        obtain⟨n,H',e1,e2,e3,e4⟩:=ON (Rv:=Rv) hS hnow (λb i hp=>(hold b i hp).2) r ha hk' hs hl.1 (by rw[<-hdr];exact hcd.2) hc hz hcd.1 hnsc hds (ue hds hs)
        exact⟨n,_,H',ν,Z,e1,e2,e3,e4,λ_=>rfl,λe ob' _ h=>⟨ob',mF h,rfl,.refl _⟩⟩
       .simp at h
     .simp at h
    .simp at h
   .simp at h
  .simp at h
end
end Go.VE
namespace Go.VE
variable [aW]
structure CX where
 E:Env
 nm:FuncId->Option Nat
 nt:Nat
def Ae (ops:List Oper) (o:Oper):Option (Option (Nat×Bool)):=
 match o.guard with
 | none=>some none
 | some (j,b)=>((ops[j]?).bind (·.dst)).map λd=>some (d,b)
def wW (nt:Nat):Option Nat->Bool
 | none=>true
 | some d=>decide (d<nt)
def vO (draw:Bool) (ops:List Oper) (i:Nat) (k:K) (os:List Operand):K×List Operand×Bool:=
 if draw && !cA ops i then match k,os,yI ops i with
  | .l (.store n),.tmp a'::os',some (a,l)=>if a'=a then(.l (.storeF n),(.tmp a'::os')++l.map .tmp,true)else(k,os,false)
  | .l (.append n),os,_=>if vh ops i then(.e n,os,true)else(k,os,false)
  | .r (.load n ag),[.tmp a'],_=>if(nF ops i a').isEmpty then(k,os,false)else(.r (.loadF n ag),.tmp a'::(nF ops i a').map .tmp,false)
  | _,_,_=>(k,os,false)
 else(k,os,draw&&cA ops i)
theorem A0 (draw:Bool) (ops:List Oper) (i:Nat) (k:K) (os:List Operand):(vO draw ops i k os=(k,os,draw&&cA ops i)/\∀n ag a',draw=true->cA ops i=false->k=.r (.load n ag)->os=[.tmp a']->nF ops i a'=[]) \/
 (draw=true/\cA ops i=false/\∃n a l os',k=.l (.store n)/\os=.tmp a::os'/\yI ops i=some (a,l)/\vO draw ops i k os=(.l (.storeF n),os++l.map .tmp,true)) \/
 (draw=true/\cA ops i=false/\∃n ag a,k=.r (.load n ag)/\os=[.tmp a]/\vO draw ops i k os=(.r (.loadF n ag),.tmp a::(nF ops i a).map .tmp,false)) \/
 (draw=true/\cA ops i=false/\vh ops i=true/\∃n,k=.l (.append n)/\vO draw ops i k os=(.e n,os,true)):=by
 unfold vO;split
 .rename_i h;simp only[ζh,Bool.not_eq_true']at h;split
  .rename_i n a' os' a l hk;split
   .rename_i e;subst e;refine .inr (.inl ⟨h.1,h.2,n,a',l,os',rfl,rfl,hk,?_⟩);simp only[vO,h.1,h.2,hk,Bool.not_false,Bool.and_self,if_true]
   .exact .inl ⟨by rw[h.2,Bool.and_false],λn ag a' _ _ e=>by cases e⟩
  .rename_i n;split
   .rename_i ha;refine .inr (.inr (.inr ⟨h.1,h.2,ha,n,rfl,rfl⟩))
   .exact .inl ⟨by rw[h.2,Bool.and_false],λn ag a' _ _ e=>by cases e⟩
  .rename_i n ag a';split
   .rename_i he;refine .inl ⟨by rw[h.2,Bool.and_false],λn ag a2 _ _ _ e=>?_⟩
    simp only[List.cons.injEq,Operand.tmp.injEq,and_true]at e;subst e;simpa using he
   .exact .inr (.inr (.inl ⟨h.1,h.2,n,ag,a',rfl,rfl,rfl⟩))
  .rename_i hn1 hn2 hn3;refine .inl ⟨by rw[h.2,Bool.and_false],λn ag a2 _ _ e1 e2=>?_⟩
   first|exact(hn3 _ _ _ e1 e2).elim|exact(hn3 _ _ _ _ e1 e2 rfl).elim|exact(hn1 _ _ _ e1 e2).elim|exact(hn2 _ _ _ e1 e2).elim|exact(hn1 _ _ _ _ e1 e2 rfl).elim|exact(hn2 _ _ _ _ e1 e2 rfl).elim
 .rename_i h;refine .inl ⟨rfl,λn ag a2 hd hl _ _=>?_⟩
  rw[hd,hl]at h;exact absurd rfl h
def lK (X:CX) (draw:Bool) (ops:List Oper) (i:Nat) (o:Oper):Option RO:=
 if wW X.nt o.dst then
  match Ae ops o,resolve X.E X.nm o.op with
  | some gd,some (k,os)=>if zx k then if draw&&v_ ops i then match k,o.op with
   | .a (.makeSl size zero),.makeSlice ..=>(os.mapM (ny X.nm)).map λaz=>⟨o.dst,gd,false,.p (.makeC size zero),az,[],[]⟩
   | .a (.buildSl size len zero idx),.buildSlice ..=>if size≠0/\len=0/\idx=[]then(os.mapM (ny X.nm)).map λaz=>⟨o.dst,gd,false,.p .emptyC,az,[],[]⟩else none
   | _,_=>none
   else((vO draw ops i k os).2.1.mapM (ny X.nm)).map λaz=>⟨o.dst,gd,(vO draw ops i k os).2.2,(vO draw ops i k os).1,az,[],[]⟩else none
  | _,_=>none
 else none
theorem Bm {E:Env} {N:Nat->FuncId} {F:Frame} {op:Op} {ys:List V} {size:Nat} {zero:List V} {y:V} (hop:∃t l c,op=.buildSlice t l c) (h:Bb E N F op ys (.a (.buildSl size 0 zero []))) (hs:size≠0) (hy:aq N .emptyC ys=some y):pE E F op=some y:=by
 obtain⟨t,l,c,rfl⟩:=hop;obtain⟨g1,g2⟩:=h;unfold aq at hy;split at hy <;> first|(rename_i e;cases e;done)|skip
 .simp only[ζa]at hy;subst hy;have hal:=g2 _ (show gL (.buildSl size 0 zero []) []=some (.row size [],.sl size 0)by simp[gL,e_])
  unfold pE;rw[hal];simp[hs]
 .cases hy
theorem AU {E:Env} {N:Nat->FuncId} {F:Frame} {op:Op} {ys:List V} {size:Nat} {zero:List V} {y:V} (hop:∃t l c,op=.makeSlice t l c) (h:Bb E N F op ys (.a (.makeSl size zero))) (hy:aq N (.makeC size zero) ys=some y):pE E F op=some y:=by
 obtain⟨t,l,c,rfl⟩:=hop;obtain⟨g1,g2⟩:=h;unfold aq at hy;split at hy <;> first|(rename_i e;cases e;done)|skip
 .rename_i k n k' m e;cases e;split at hy
  .rename_i c;obtain⟨rfl,rfl,c3,rfl,c5,c7⟩:=c;have hal:=g2 _ (show gL (.makeSl size zero) [.int .i64 n,.int .i64 n]=some (.row size (List.replicate n.toNat zero),.sl size n.toNat)by simp only[gL,c3,c5,Int.le_refl,and_self,if_true])
   unfold pE;rw[hal];simp only;rw[if_pos (by refine⟨by trivial,by simp,List.all_eq_true.2 λx hx=>by rw[List.eq_of_mem_replicate hx];exact c7⟩),<-hy]
  .cases hy
 .cases hy
theorem AV {X:CX} {dr:Bool} {ops:List Oper} {i:Nat} {o:Oper} {ro:RO} (hc:lK X dr ops i o=some ro):wW X.nt o.dst=true/\∃g now k az,Ae ops o=some g/\ro=⟨o.dst,g,now,k,az,[],[]⟩:=by
 unfold lK at hc;split at hc
 .rename_i hd;split at hc
  .rename_i g k os hg hr;split at hc
   ·(repeat' split at hc) <;> first|(cases hc;done)|(obtain⟨az,ha,rfl⟩:=ζf.1 hc;exact⟨hd,_,_,_,_,hg,rfl⟩)
   .cases hc
  .cases hc
 .cases hc
structure Good (X:CX) (S:Sys):Prop where
 E:X.E=S.E
 N:∀f s,X.nm f=some s->S.N s=f
 prm:∀f q,S.prm f=some q->pW S.E f q
section
variable {Rv:Nat->Prop} {ν ν':Nu} {Z Z':Nat->Prop} {st st':St} {m m':Tb aM} {F F':Frame} {H H' H1:ak} {S:Sys} {c:br} {X:CX}
def Old (b:Nat) (fr:List Nat) (ν:Nu) (Z:Nat->Prop) (m:Tb aM):Prop:=(∀d ob,ai m d=some ob->bK ob=true->d∉fr->(ν d).1<b)/\∀id,Z id->id<b
theorem lX {fr:List Nat}:∀{svs:List SV},dN fr svs=true->∀d∈fr,SV.cB d svs=false
 | [],_,d,_=>rfl
 | .v _::r,h,d,hd=>by simp only[SV.cB,SV.bT,Bool.false_or];exact lX (svs:=r) (by simpa [dN]using h) d hd
 | .ptr e _::r,h,d,hd=>by
  simp only[dN,ζh,Bool.not_eq_true',List.contains_eq_mem,decide_eq_false_iff_not]at h;simp only[SV.cB,SV.bT,Bool.or_eq_false_iff,beq_eq_false_iff_ne];exact⟨λe=>h.1 (e▸hd),lX h.2 d hd⟩
 | .el e _ _::r,h,d,hd=>by
  simp only[dN,ζh,Bool.not_eq_true',List.contains_eq_mem,decide_eq_false_iff_not]at h;simp only[SV.cB,SV.bT,Bool.or_eq_false_iff,beq_eq_false_iff_ne];exact⟨λe=>h.1 (e▸hd),lX h.2 d hd⟩
 | .mp e::r,h,d,hd=>by
  simp only[dN,ζh,Bool.not_eq_true',List.contains_eq_mem,decide_eq_false_iff_not]at h;simp only[SV.cB,SV.bT,Bool.or_eq_false_iff,beq_eq_false_iff_ne];exact⟨λe=>h.1 (e▸hd),lX h.2 d hd⟩
 | .own _::r,h,_,_=>by simp[dN]at h
 | .clo ..::r,h,_,_=>by simp[dN]at h
 | .tup _::r,h,_,_=>by simp[dN]at h
 | .agg _::r,h,_,_=>by simp[dN]at h
 | .yl _::r,h,_,_=>by simp[dN]at h
def AP (S:Sys) (ops:List Oper) (place:Option (Nat×Nat)) (dr:Bool) (F:Frame) (op:Op) (dst:Option Nat) (ν:Nu) (Z:Nat->Prop) (st:St) (H:ak) (sv:SV) (st':St):Prop:=
 ∃n y H' ν' Z',(∀k,n<=k->cg S.E (run S.E k) ops place F H op=some (y,H'))/\R ν' Z' st' F H'/\bY ν' st'.m H' Z' sv y/\Ev (λid=>∃b j,place=some (b,j)/\id=b+j) ν Z st H ν' Z' st' H' /\
  (dr=true->Z'=Z/\Kept dst ν st.m ν' st'.m)
theorem JV (gd:Good X S) {ops:List Oper} {place:Option (Nat×Nat)} {dr:Bool} {op:Op} {dst:Option Nat} {p:tC} {svs:List SV} {ys:List V} (hk:zx (.p p)=true) (r:R ν Z st F H) (rs:aZ ν st.m H Z svs ys)
 (hres:Bb X.E S.N F op ys (.p p)) {sv:SV} (h:(iK S.N st.m p svs).map (λx=>(x,st))=some (sv,st')):AP S ops place dr F op dst ν Z st H sv st':=by
 obtain⟨x,hx,e⟩:=ζf.1 h;simp only[ζc]at e;obtain⟨rfl,rfl⟩:=e;obtain⟨y,hy,hyy⟩:=EI (N:=S.N) (λzero pl e=>by subst e;simpa [zx]using hk) r.obj rs hx
 obtain⟨h1,h2⟩:=hres;exact⟨0,y,H,ν,Z,λq _=>by unfold cg;rw[h1];simp only[<-gd.E,h2 y hy,Option.map_some],r,hyy,.refl,λ_=>⟨rfl,.refl⟩⟩
theorem CN (gd:Good X S) {ops:List Oper} {place:Option (Nat×Nat)} {dr:Bool} {op:Op} {p:tC} {svs:List SV} {ys:List V} (hp:∀zero pl,p≠.build zero pl) (hcl:bX op=.alloc) (hcp:pI ops place=true) (hcv:∀y,aq S.N p ys=some y->pE X.E F op=some y)
 (r:R ν Z st F H) (rs:aZ ν st.m H Z svs ys) {sv:SV} (h:(iK S.N st.m p svs).map (λx=>(x,st))=some (sv,st')):AP S ops place dr F op none ν Z st H sv st':=by
 obtain⟨x,hx,e⟩:=ζf.1 h;simp only[ζc]at e;obtain⟨rfl,rfl⟩:=e;obtain⟨y,hy,hyy⟩:=EI (N:=S.N) (λzero pl e=>absurd e (hp zero pl)) r.obj rs hx
 refine⟨0,y,H,ν,Z,λq _=>?_,r,hyy,.refl,λ_=>⟨rfl,.refl⟩⟩
 unfold cg;rw[hcl];simp only[hcp,if_true,<-gd.E,hcv y hy,Option.map_some]
theorem GP:∀{l1 l2:List Operand} {vs:List V},d_ F (l1++l2)=some vs->∃v1 v2,d_ F l1=some v1/\d_ F l2=some v2/\vs=v1++v2
 | [],l2,vs,h=>⟨[],vs,rfl,h,rfl⟩
 | x::l1,l2,vs,h=>by
  obtain⟨a,az,h1,h2,rfl⟩:=gH h;obtain⟨v1,v2,g1,g2,rfl⟩:=GP h2;exact⟨a::v1,v2,by simp only[d_,h1,g1],g2,rfl⟩
theorem z_:∀{l:List Nat} {vs:List V},d_ F (l.map Operand.tmp)=some vs->vs=l.map (get F)
 | [],vs,h=>oK h
 | x::l,vs,h=>by
  obtain⟨a,az,h1,h2,rfl⟩:=gH h;simp only[ev,ζa]at h1;subst h1;rw[z_ h2];rfl
theorem Q9 (gd:Good X S) {call:cu} {ops:List Oper} {b j n a:Nat} {l:List Nat} {o:Oper} {os':List Operand} {ys:List V} {y:V} (hr:resolve X.E X.nm o.op=some (.l (.store n),.tmp a::os')) (hys:d_ F ((.tmp a::os')++l.map Operand.tmp)=some ys)
 (hfs:yI ops j=some (a,l)) (hnl:cA ops j=false) (e1:eA H (.storeF n) ys=some (y,H')):cg S.E call ops (some (b,j)) F H o.op=some (y,H'):=by
 obtain⟨v1,v2,h1,h2,rfl⟩:=GP hys;obtain⟨g1,g2⟩:=jo gd.N hr h1;obtain⟨w,ws,h3,h4,rfl⟩:=gH h1;simp only[ev,ζa]at h3;have hone:∃v,ws=[v]:=by
  have hos:∃x,os'=[x]:=by
   unfold resolve at hr
   (repeat' split at hr) <;> first|(simp at hr;done)|skip
   all_goals (try (obtain⟨_,_,e⟩:=ζf.1 hr;simp only[ζc,K.l.injEq,GQ.store.injEq,List.cons.injEq,reduceCtorEq,false_and,and_false]at e))
   all_goals (try exact⟨_,e.2.2.symm⟩)
  obtain⟨x,rfl⟩:=hos;obtain⟨v,vs,_,h5,rfl⟩:=gH h4;rw[oK h5];exact⟨v,rfl⟩
 obtain⟨v,rfl⟩:=hone;rw[z_ h2,<-h3]at e1;simp only[List.cons_append,List.nil_append]at e1
 cases hw:get F a with
 | hptr id el off=>
  rw[hw]at e1;simp only[eA]at e1;split at e1
  .rename_i hap;have hf:pY ops j F=true:=by
    unfold pY;rw[hfs];simp only[hw];rw[List.all_map]at hap;exact hap
   unfold cg;rw[g1];simp only[hf,Bool.or_true,if_true,<-gd.E];refine g2 _ _ ?_;rw[<-h3,hw];exact e1
  .simp at e1
 | _=>rw[hw]at e1;simp[eA]at e1
theorem DF {E:Env} {nm:FuncId->Option Nat} {op:Op} {s:Nat} {a:Bool} {os:List Operand} (h:resolve E nm op=some (.r (.loadF s a),os)):False:=by
 unfold resolve at h
 (repeat' split at h) <;> first|(simp at h;done)|skip
 all_goals (obtain⟨_,_,e⟩:=ζf.1 h;simp only[ζc,K.r.injEq,reduceCtorEq,false_and,and_false]at e)
theorem Eu {E:Env} {nm:FuncId->Option Nat} {op:Op} {s a':Nat} {a:Bool} {t:TypeId} {os:List Operand} (h:resolve E nm op=some (.r (.load s a),os)):∃t x,op=.load t x/\os=[x]:=by
 unfold resolve at h
 (repeat' split at h) <;> first|(simp at h;done)|skip
 all_goals (obtain⟨_,_,e⟩:=ζf.1 h;simp only[ζc,K.r.injEq,reduceCtorEq,false_and,and_false]at e)
 all_goals exact⟨_,_,rfl,e.2.symm⟩
theorem JN {E:Env} {nm:FuncId->Option Nat} {ops:List Oper} {j:Nat} {op:Op} {q:GV} {os:List Operand} (hr:resolve E nm op=some (.r q,os)) (h:∀n ag a',K.r q=.r (.load n ag)->os=[.tmp a']->∀t,op=.load t (.tmp a')->nF ops j a'=[]):lV ops j F op=true:=by
 unfold lV;split
 .rename_i t a';have:∃n ag,q=.load n ag/\os=[.tmp a']:=by
   simp only[resolve]at hr;obtain⟨d,_,e⟩:=ζf.1 hr;simp only[ζc,K.r.injEq]at e;exact⟨_,_,e.1.symm,e.2.symm⟩
  obtain⟨n,ag,rfl,rfl⟩:=this;rw[h n ag a' rfl rfl t rfl];rfl
 .rfl
theorem OA (gd:Good X S) {ops:List Oper} {b j n a:Nat} {ag:Bool} {fr:List Nat} {o:Oper} {svs:List SV} {ys:List V} {dst:Option Nat} {x:SV} (hr:resolve X.E X.nm o.op=some (.r (.load n ag),[.tmp a])) (hys:d_ F (.tmp a::(nF ops j a).map Operand.tmp)=some ys) (rs:aZ ν st.m H Z svs ys)
 (hol:dN fr svs=true) (hbl:b<=H.length) (ho1:∀d ob,ai st.m d=some ob->bK ob=true->d∉fr->(ν d).1<b) (ho2:∀id,Z id->id<b) (r:R ν Z st F H) (hx:nK st.m (.loadF n ag) svs=some x):AP S ops (some (b,j)) true F o.op dst ν Z st H x st:=by
 obtain⟨w,ws,h1,h2,rfl⟩:=gH hys;simp only[ev,ζa]at h1;have hws:=z_ h2;unfold nK at hx;split at hx <;> first|(rename_i heq;cases heq;done)|skip
 .rename_i size agg d off l heq;cases heq;split at hx
  .rename_i hfar;split at hx
   .rename_i cs hob;obtain⟨w',ws',e,g1,g2⟩:=rs.inv;cases e;have hall:=Hi r hob g2 hfar;obtain⟨_,_,rfl⟩:=g1.nj hob;have hzr:∀id,Z id->Z id/\au (H.take b) id=au H id:=λid h=>⟨h,lF (ho2 id h)⟩
    have hzr':∀id,Z id->Z id/\au H id=au (H.take b) id:=λid h=>⟨h,(lF (ho2 id h)).symm⟩
    have hnf:d∉fr:=λhf=>by
     have:=lX hol d hf;simp[SV.cB,SV.bT]at this
    obtain⟨y,hy,hyy⟩:=uo (H:=H.take b) (r:=.load n ag) (svs:=[.ptr d off]) (ys:=[.hptr (ν d).1 0 off]) (λs a e=>by cases e) (λkk z ok e=>by cases e) (aZ.cons (g1.mono hzr λe _=>gM ν st.m e) .nil) (λd2 hd2 ob hob2=>by
     have hf2:d2∉fr:=λhf=>by
      have:d=d2:=by simpa [SV.cB,SV.bT]using hd2
      exact hnf (this▸hf)
     exact cO.mono hzr rfl (λhb=>by rw[List.getElem?_take,if_pos (ho1 d2 ob hob2 hb hf2)]) (λe _=>gM ν st.m e) (r.obj d2 ob hob2)) (sv:=x) (by simp only[nK,hob];exact hx)
    obtain⟨k1,k2⟩:=jo (F:=F) gd.N hr (show d_ F [.tmp a]=some [.hptr (ν d).1 0 off]from by simp only[d_,ev,h1])
    have hfr:lV ops j F o.op=true:=by
     obtain⟨t,x',e1,e2⟩:=Eu (a':=0) (t:=0) hr;rw[e1];simp only[List.cons.injEq,and_true]at e2;subst e2;simp only[lV,List.all_eq_true];intro s hs;have hm:get F s∈ws:=by rw[hws];exact List.mem_map_of_mem hs
     have:=List.all_eq_true.1 hall _ hm;rw[h1];split
     .rename_i id' _ _ hg;rw[hg]at this;simp only[o7,bne_iff_ne,ne_eq]at this ⊢;exact λe=>this e.symm
     .rfl
    refine⟨0,y,H,ν,Z,λq _=>?_,r,hyy.mono hzr' (λe _=>gM ν st.m e),.refl,λ_=>⟨rfl,.refl⟩⟩
    unfold cg;rw[k1];simp only[<-gd.E,k2 (H.take b) y hy,hfr,if_true]
   .simp at hx
  .simp at hx
 .simp at hx
theorem BR {E:Env} {nm:FuncId->Option Nat} {op:Op} {n:Nat} {os:List Operand} (h:resolve E nm op=some (.l (.append n),os)) {y:V} {ys:List V} (hv:d_ F os=some (y::ys)) (hy:y=.aR\/y=.ck):isApp op=true/\nP F op=true:=by
 have key:∃args ats p s x,op=.call { callee:=.builtin .append,args:=args,argTypes:=ats }/\args.toList=[s,x]/\os=[s,x]/\p=():=by
  unfold resolve at h
  (repeat' split at h) <;> first|(simp at h;done)|skip
  all_goals (try (obtain⟨_,_,e⟩:=ζf.1 h;simp only[ζc,K.l.injEq,reduceCtorEq,false_and]at e))
  all_goals (simp only[ζa,ζc]at h;obtain⟨_,rfl⟩:=h;exact⟨_,_,(),_,_,rfl,by assumption,rfl,rfl⟩)
 obtain⟨args,ats,_,s,x,rfl,h1,rfl,_⟩:=key;obtain⟨a,az,h2,h3,e⟩:=gH hv;cases e;refine⟨rfl,?_⟩;simp only[nP,h1,h2];rcases hy with rfl|rfl <;> rfl
theorem Rw (gd:Good X S) (hS:jF S c) {ops:List Oper} {place:Option (Nat×Nat)} {dr:Bool} {fr:List Nat} {i:Nat} (hdr:dr=place.isSome) (hi:∀b j,place=some (b,j)->j=i)
 (hold:∀b j,place=some (b,j)->b<=H.length/\Old b fr ν Z st.m)
 {o:Oper} {ro:RO} (hc:lK X dr ops i o=some ro) (hop:∀b j,place=some (b,j)->ops[j]? = some o) (hfree:∀b j,place=some (b,j)->bX o.op=.alloc->H[b+j]? = some .free)
 (r:R ν Z st F H) {sv:SV} (h:kL S c dr fr ro st=some (sv,st')) :
 AP S ops place dr F o.op (wT ro) ν Z st H sv st':=by
 unfold lK at hc;split at hc
 .split at hc
  .rename_i g k os hg hr;split at hc
   .rename_i hk;split at hc
    .rename_i hcd;simp only[ζh]at hcd;have hcp:pI ops place=true:=by
      cases place with
      | none=>rw[hdr]at hcd;exact absurd hcd.1 (by simp)
      | some bi=>obtain⟨b,j⟩:=bi;rw[hi b j rfl];exact hcd.2
     split at hc
     .rename_i size zero t l c hop';obtain⟨az,ha,rfl⟩:=ζf.1 hc;unfold kL at h;split at h
      .rename_i svs hsv;obtain⟨ys,hys,rs⟩:=nO gd.N r.slot ha hsv;have hk':=jo gd.N hr hys;exact CN gd (λ_ _ e=>by cases e) hk'.1 hcp (λy hy=>AU ⟨_,_,_,hop'⟩ hk' hy) r rs h
      .simp at h
     .rename_i size len zero idx t l c hop';split at hc
      .rename_i hcn;obtain⟨hsz,rfl,rfl⟩:=hcn;obtain⟨az,ha,rfl⟩:=ζf.1 hc;unfold kL at h;split at h
       .rename_i svs hsv;obtain⟨ys,hys,rs⟩:=nO gd.N r.slot ha hsv;have hk':=jo gd.N hr hys;exact CN gd (λ_ _ e=>by cases e) hk'.1 hcp (λy hy=>Bm ⟨_,_,_,hop'⟩ hk' hsz hy) r rs h
       .simp at h
      .cases hc
     .cases hc
    rename_i hncold;have hncp:pI ops place=false:=by
     cases place with
     | none=>rfl
     | some bi=>
      obtain⟨b,j⟩:=bi;have hji:=hi b j rfl
      cases hc':v_ ops j with
      | false=>exact hc'
      | true=>exact absurd (by rw[hdr,<-hji,hc'];rfl) hncold
    rcases A0 dr ops i k os with⟨hq,hqr⟩|⟨hdt,hnl,n,a,l,os',rfl,rfl,hfs,hq⟩|⟨hdt,hnl,n,ag,a,rfl,rfl,hq⟩|⟨hdt,hnl,hap,n,rfl,hq⟩
    rotate_left
    .rw[hq]at hc;obtain⟨az,ha,rfl⟩:=ζf.1 hc;unfold kL at h;split at h
     .rename_i svs hsv;obtain⟨ys,hys,rs⟩:=nO gd.N r.slot ha hsv;simp only[hdt,Bool.not_true,Bool.false_or,if_true]at h;obtain⟨y,H',ν',e1,e2,e3,e4,e5⟩:=Am r rs h;refine⟨0,y,H',ν',Z,λq _=>?_,e2,e3,e4.weak (λ_ h=>h.elim),λ_=>⟨rfl,e5⟩⟩
      cases place with
      | none=>rw[hdr]at hdt;cases hdt
      | some bi=>
       obtain⟨b,j⟩:=bi;have hji:=hi b j rfl;subst hji;exact Q9 gd hr hys hfs hnl e1
     .simp at h
    .rw[hq]at hc;obtain⟨az,ha,rfl⟩:=ζf.1 hc;unfold kL at h;split at h
     .rename_i svs hsv;obtain⟨ys,hys,rs⟩:=nO gd.N r.slot ha hsv;simp only[hdt,Bool.not_true,Bool.or_self,Bool.false_or]at h;split at h
      .rename_i hol;obtain⟨x,hx,e⟩:=ζf.1 h;simp only[ζc]at e;obtain⟨rfl,rfl⟩:=e
       cases place with
       | none=>rw[hdr]at hdt;cases hdt
       | some bi=>
        obtain⟨b,j⟩:=bi;have hji:=hi b j rfl;subst hji;obtain⟨hbl,ho1,ho2⟩:=hold b j rfl;rw[hdt];exact OA gd hr hys rs hol hbl ho1 ho2 r hx
      .simp at h
     .simp at h
    .rw[hq]at hc;obtain⟨az,ha,rfl⟩:=ζf.1 hc;unfold kL at h;split at h
     rotate_left
     .simp at h
     rename_i svs hsv;obtain⟨ys,hys,rs⟩:=nO gd.N r.slot ha hsv;simp only at h;have key:∃e x,(e=V.aR\/e=V.ck)/\svs=[.v e,x]/\iX st o.dst (.append n) svs=some (sv,st'):=by
      split at h
      .exact⟨_,_,.inl rfl,rfl,h⟩
      .exact⟨_,_,.inr rfl,rfl,h⟩
      .cases h
     obtain⟨e,x,he,rfl,hl⟩:=key;obtain⟨y,H',ν',e1,e2,e3,e4,e5⟩:=Am r rs hl;obtain⟨g1,g2⟩:=jo gd.N hr hys;refine⟨0,y,H',ν',Z,λq _=>?_,e2,e3,e4.weak (λ_ h=>h.elim),λ_=>⟨rfl,e5⟩⟩
     obtain⟨y1,zs,rfl,f1,f2⟩:=rs.inv;have hy1:y1=.aR\/y1=.ck:=by
      cases f1 with|v _ _ hf=>rcases he with rfl|rfl <;> first|exact .inl hf.aR|exact .inr hf.ck
     cases place with
     | none=>rw[hdr]at hdt;cases hdt
     | some bi=>
      obtain⟨b,j⟩:=bi;have hji:=hi b j rfl;subst hji;obtain⟨r1,r2⟩:=BR hr hys hy1;exact KL r1 (by rw[<-gd.E];exact g2 _ _ e1) (.inr ⟨hap,r2,(hold b j rfl).1⟩)
    rw[hq]at hc;obtain⟨az,ha,rfl⟩:=ζf.1 hc;unfold kL at h;split at h
    .rename_i svs hsv;obtain⟨ys,hys,rs⟩:=nO gd.N r.slot ha hsv;have hres:=jo gd.N hr hys;simp only at h
     cases k with
     | p p=>
      cases p with
      | slice size lo hi=>
       simp only at h;split at h
       .rename_i d bs;split at h
        .simp at h
        .rename_i hnd;obtain⟨y,ν',h1,h2,h3,h4⟩:=JM (N:=S.N) (Rv:=λid=>∃b j,place=some (b,j)/\id=b+j) r rs h
         obtain⟨g1,g2⟩:=hres;exact⟨0,y,H,ν',Z,λq _=>by unfold cg;rw[g1];simp only[<-gd.E,g2 y h1,Option.map_some],h2,h3,h4,λhd=>absurd hd hnd⟩
       .exact JV gd hk r rs hres h
      | _=>exact JV gd hk r rs hres h
     | r q=>
      simp only at h;split at h
      .rename_i hnow;obtain⟨x,hx,e⟩:=ζf.1 h;simp only[ζc]at e;obtain⟨rfl,rfl⟩:=e;obtain⟨g1,g2⟩:=hres;have hzc:∀kk z ok,q=.lookup kk z ok->z.good=true:=λkk z ok e=>by subst e;simpa [zx]using hk
       have hnf:∀s a,q≠.loadF s a:=λs a e=>by subst e;exact DF hr
       cases place with
       | none=>
        obtain⟨y,hy,hyy⟩:=uo hnf hzc rs (λd _ ob hd=>r.obj d ob hd) hx
        exact⟨0,y,H,ν,Z,λq _=>by unfold cg;rw[g1];simp only[<-gd.E,g2 H y hy,Option.map_some],r,hyy,.refl,λ_=>⟨rfl,.refl⟩⟩
       | some bi=>
        obtain⟨b,j⟩:=bi;obtain⟨hbl,ho1,ho2⟩:=hold b j rfl;have hdt:dr=true:=hdr;subst hdt;have hji:=hi b j rfl;subst hji;simp only[Bool.not_true,Bool.false_or,Bool.true_and]at hnow;have hfr:lV ops j F o.op=true:=JN hr λn ag a' e1 e2 t e3=>by
         by_cases hlo:cA ops j=true
         .exact Bq (hop b j rfl) e3 hlo
         .exact hqr n ag a' rfl (by simpa using hlo) e1 e2
        by_cases hlo:cA ops j=true
        .obtain⟨y,hy,hyy⟩:=uo hnf hzc rs (λd _ ob hd=>r.obj d ob hd) hx
         have hH:=g2 H y hy;refine⟨0,y,H,ν,Z,λq _=>?_,r,hyy,.refl,λ_=>⟨rfl,.refl⟩⟩
         unfold cg;rw[g1];simp only[<-gd.E,hfr,if_true];split
         .rename_i v hv;have:=xC hv;rw[hH]at this;cases this;rfl
         .rw[if_pos hlo,hH];rfl
        .have hol:dN fr svs=true:=by simpa [hlo]using hnow
         have hzr:∀id,Z id->Z id/\au (H.take b) id=au H id:=λid h=>⟨h,lF (ho2 id h)⟩
         have hzr':∀id,Z id->Z id/\au H id=au (H.take b) id:=λid h=>⟨h,(lF (ho2 id h)).symm⟩
         obtain⟨y,hy,hyy⟩:=uo (H:=H.take b) hnf hzc (rs.mono hzr λe _=>gM ν st.m e) (λd hd ob hob=>by
          have hnf:d∉fr:=λhf=>by rw[lX hol d hf]at hd;cases hd
          exact cO.mono hzr rfl (λhb=>by rw[List.getElem?_take,if_pos (ho1 d ob hob hb hnf)]) (λe _=>gM ν st.m e) (r.obj d ob hob)) hx
         refine⟨0,y,H,ν,Z,λq _=>?_,r,hyy.mono hzr' (λe _=>gM ν st.m e),.refl,λ_=>⟨rfl,.refl⟩⟩
         unfold cg;rw[g1];simp only[<-gd.E,g2 (H.take b) y hy,hfr,if_true]
      .simp at h
     | a q=>
      simp only at h;split at h
      .rename_i d hd;split at h
       .rename_i hnew;obtain⟨⟨ob,x⟩,hx,e⟩:=ζf.1 h;simp only[ζc]at e;obtain⟨rfl,rfl⟩:=e;obtain⟨obv,mk,e1,e2,e3,e4⟩:=Ju hk rs hx;obtain⟨g1,g2⟩:=hres;obtain⟨n1,n2,n3,n4⟩:=lE hnew;have hsame:∀p:Nat×Nat,∀e,SV.cB e svs=true->∀ob',ai (aU st.m d ob) e=some ob'->∃ob,ai st.m e=some ob/\iq ν d p e=ν e/\sameShape ob ob':=λp e he=>by
         refine rO ?_;rintro rfl;have:∀{xs:List Arg} {vs:List SV},a_ S.N st.g xs=some vs->SV.cB e vs=false:=by
          intro xs
          induction xs with
          | nil=>intro vs h;simp only[a_,ζa]at h;subst h;rfl
          | cons a xs ih=>
           intro vs h;simp only[a_]at h;split at h
           .rename_i v vs' h1 h2;simp only[ζa]at h;subst h;simp only[SV.cB,Bool.or_eq_false_iff];refine⟨?_,ih h2⟩
            cases a with
            | s n=>exact wA n3 h1
            | k c=>simp only[oT,ζa]at h1;subst h1;rfl
            | f s=>simp only[oT,ζa]at h1;subst h1;rfl
           .simp at h
         rw[this hsv]at he;cases he
        have fin:∀(id:Nat) (Hn:ak),H.length<=Hn.length->Hn[id]? = some obv->(∀k,k<H.length->k≠id->Hn[k]? = H[k]?)->(∀k,eC ν st.m k->k≠id)->(∀k,Z k->k≠id) ->
         R (iq ν d (id,0)) Z { st with m:=aU st.m d ob } F Hn/\bY (iq ν d (id,0)) (aU st.m d ob) Hn Z x (mk.val id)/\(∀k,Z k->au Hn k=au H k):=λid Hn hl hid hk' ho hz=>by
         have hzr:∀k,Z k->au Hn k=au H k:=λk hk=>by unfold au;rw[hk' k (r.uk hk) (hz k hk)]
         obtain⟨a1,a2⟩:=e4 id (iq ν d (id,0)) (aU st.m d ob) Hn (gy _ _ _) (bH _ _ _) hid hzr (hsame _);have r2:R ν Z st F Hn:=r.heap (λk hk=>hk' k (r.lt hk) (ho k hk)) hzr
         exact⟨r2.add hnew (λ_=>⟨λh=>ho _ h rfl,λh=>hz _ h rfl⟩) a1,a2,hzr⟩
        have hdst:o.dst=some d:=hd
        cases place with
        | none=>
         obtain⟨f1,f2,f3⟩:=fin H.length (H++[obv]) (by simp) (by simp) (λk hk _=>List.getElem?_append_left hk) (λk hk=>Nat.ne_of_lt (r.lt hk)) (λk hk=>Nat.ne_of_lt (r.uk hk))
         refine⟨0,mk.val H.length,H++[obv],iq ν d (H.length,0),Z,λq _=>?_,f1,f2,Ev.add hnew (by simp) (λk hk _=>List.getElem?_append_left hk) f3 (λ_=>.inr (Nat.le_refl _)),λhh=>?_⟩
         .unfold cg;rw[g1];simp only[hncp,Bool.false_eq_true,if_false,<-gd.E,g2 _ e1]
         .rw[hdr]at hh;cases hh
        | some bi=>
         obtain⟨b,j⟩:=bi;have hf:=hfree b j rfl g1;have hlt:=(ζe.1 hf).1;have nf:∀k,eC ν st.m k->k≠b+j:=λk hk e=>by
          subst e;obtain⟨d',ob',w1,w2,w3⟩:=hk;have:=r.obj d' ob' w1
          cases ob' with
          | sl fl es xs=>
           simp only[bK]at w2;simp only[cO,w2,if_true]at this;obtain⟨_,hr',_⟩:=this;rw[w3,hf]at hr';cases hr'
          | box cs=>obtain⟨_,_,hr',_⟩:=this;rw[w3,hf]at hr';cases hr'
          | mp kvs=>obtain⟨_,hr',_⟩:=this;rw[w3,hf]at hr';cases hr'
         have nz:∀k,Z k->k≠b+j:=λk hk e=>by
          subst e;have:=r.zrow _ hk;unfold au at this;rw[hf]at this;simp[Ob.rows]at this
         obtain⟨f1,f2,f3⟩:=fin (b+j) (H.set (b+j) obv) (by simp) (by rw[List.getElem?_set_self hlt]) (λk _ hk=>by rw[List.getElem?_set,if_neg (Ne.symm hk)]) nf nz
         refine⟨0,mk.val (b+j),H.set (b+j) obv,iq ν d (b+j,0),Z,λq _=>?_,f1,f2,Ev.add hnew (by simp) (λk _ hk=>?_) f3 (λ_=>.inl ⟨b,j,rfl,rfl⟩),λ_=>⟨rfl,?_⟩⟩
         .unfold cg;rw[g1];simp only[hncp,Bool.false_eq_true,if_false,<-gd.E,g2 _ e1,hf]
         .rw[List.getElem?_set,if_neg λe=>hk ⟨b,j,rfl,e.symm⟩]
         .have:wT ⟨o.dst,g,dr&&cA ops j,.a q,az,[],[]⟩=some d:=hdst;have hji:=hi b j rfl;subst hji;rw[this];exact Kept.add λ_ _ h=>h
       .simp at h
      .simp at h
     | l q=>
      simp only at h;split at h
      .rename_i hnow;obtain⟨y,H',ν',e1,e2,e3,e4,e5⟩:=Am r rs h;obtain⟨g1,g2⟩:=hres;refine⟨0,y,H',ν',Z,λq _=>?_,e2,e3,e4.weak (λ_ h=>h.elim),λ_=>⟨rfl,e5⟩⟩
       unfold cg;rw[g1];simp only[<-gd.E]
       cases place with
       | none=>exact g2 _ _ e1
       | some bi=>
        obtain⟨b,j⟩:=bi;have hdt:dr=true:=hdr;subst hdt;have hji:=hi b j rfl;subst hji;have hlo:cA ops j=true:=by simpa using hnow
        simp only[hlo,if_true];exact g2 _ _ e1
      .simp at h
     | e n=>exact hres.elim
     | c=>
      simp only at h;obtain⟨g1,f',az',e1,e2⟩:=hres;have go:∀(f:FuncId) (args:List SV) (ys2:List V),aZ ν st.m H Z args ys2->iP F o.op=some (.fn f,ys2)->iI S c o.dst dr (!dr||(dr&&cA ops i)) (gw st.m fr) f args st=some (sv,st') ->
       AP S ops place dr F o.op (wT ⟨o.dst,g,dr&&cA ops i,.c,az,[],[]⟩) ν Z st H sv st':=λf args ys2 hrl hcal hcs=>by
       obtain⟨n,y,H',ν',Z',p1,p2,p3,p4,p5,p6⟩:=Mt (ops:=ops) (Rv:=λid=>∃b j,place=some (b,j)/\id=b+j) hS gd.prm hdr (λb j hp hn=>by
        have:=hi b j hp;subst this;simp only[ζh]at hn;exact hn.2) (λb j hp=>(hold b j hp).2) r hrl hcs
       refine⟨n,y,H',ν',Z',λq hq=>?_,p2,p3,p4,λhd=>⟨p5 hd,p6⟩⟩
       unfold cg;rw[g1];simp only[hcal];exact p1 q hq
      split at h
      .rename_i f a b vs;obtain⟨w,ws,ew,r1,r2⟩:=rs.inv;rw[ew]at e1;simp only[List.cons.injEq]at e1;obtain⟨rfl,rfl⟩:=e1;obtain⟨a',b',rfl,ra,rb⟩:=r1.jL;exact go f _ _ ((ra.append r2).append rb) e2 h
      .rename_i f a b vs;obtain⟨w,ws,ew,r1,r2⟩:=rs.inv;rw[ew]at e1;simp only[List.cons.injEq]at e1;obtain⟨rfl,rfl⟩:=e1;obtain⟨a',b',rfl,ra,rb⟩:=r1.fr.jL;exact go f _ _ (((aZ.pF ra).append r2).append (aZ.pF rb)) e2 h
      .simp at h
    .simp at h
   .simp at hc
  .simp at hc
 .simp at hc
end
end Go.VE
namespace Go.VE
variable [aW]
def eD (N:Nat->FuncId) (g:Tb SV) (o:RO):Option (Nat×List SV):=
 match o.k,a_ N g o.az with
 | .c,some (.yl id::vs)=>some (id,vs)
 | _,_=>none
open Classical in
noncomputable def dQ (S:Sys) (c:br) (dr:Bool) (fr:List Nat) (o:RO) (st:St):Option St:=
 match wanted st.g o.gd with
 | some true=>match eD S.N st.g o with
  | some (id,vs)=>if dr then none else match cG vs,st.want with
   | some xs,w::ws=>if xs=w/\id=st.yid then some (b7 { st with want:=ws } o.dst (.v (.bool (st.more || !ws.isEmpty))))else none
   | _,_=>none
  | none=>(kL S c dr fr o st).map λ(x,st')=>b7 st' o.dst x
 | some false=>some (b7 st o.dst (.v .undef))
 | none=>none
def RO.strip (o:RO):RO:={ o with dead:=[],pre:=[] }
def mQ:List Gh->St->Option St
 | [],st=>some st
 | x::r,st=>(ghost x st).bind (mQ r)
def yx:Gh->Bool
 | .keep ..=>true
 | .drop _=>true
 | _=>false
def AB (dr:Bool) (l:List Gh) (st:St):Option St:=if dr then(if l.all yx then mQ l st else none)else mQ l st
def nL (ds:List Nat) (st:St):St:={ st with g:=lN ds st.g }
noncomputable def lB (S:Sys) (c:br) (dr:Bool):List Nat->List RO->St->Option St
 | _,[],st=>some st
 | fr,o::r,st=>match (AB dr o.pre st).bind (dQ S c dr fr o.strip)with
  | some st'=>lB S c dr (if dr then o6 fr o.strip else fr) r (nL o.dead st')
  | none=>none
abbrev JT:=List (List V)->(Nat->Prop)->(Nat->Prop)->ak->Prop
structure Yc (S:Sys) (J:JT) (more:Bool) (yid:Nat):Prop where
 vq:∀w O Z H O' Z' H',J w O Z H->H.length<=H'.length->(∀i,i<H.length->¬O i->¬Z i->H'[i]? = H[i]?)->(∀i,Z i->Z' i/\au H' i=au H i) ->
  (∀i,O' i->O i\/H.length<=i)->(∀i,Z' i->Z i\/O i\/H.length<=i)->J w O' Z' H'
 yield:∀x ws O Z H args,J (x::ws) O Z H->cr H Z x args->(∀i,Z i->(au H i).isSome=true)->Deep H Z->(∀i,O i->¬Z i/\i<H.length) ->
  ∃n H',run S.E n (.yld yid) args H=some (.bool (more || !ws.isEmpty),H')/\J ws O Z H'/\H.length<=H'.length/\(∀i,O i->H'[i]? = H[i]?)/\(∀i,Z i->au H' i=au H i)
structure Fix (ν:Nu) (st:St) (ν':Nu) (st':St):Prop where
 pin:∀d∈st.pin,∀ob',ai st'.m d=some ob'->∃ob,ai st.m d=some ob/\ν' d=ν d/\sameShape ob ob'
 pins:st'.pin=st.pin
 more:st'.more=st.more
 yid:st'.yid=st.yid
section
variable {Rv:Nat->Prop} {ν ν' ν2:Nu} {Z Z':Nat->Prop} {st st' st2:St} {m m':Tb aM} {F F':Frame} {H H' H1:ak} {S:Sys} {c:br} {X:CX} {J:JT}
theorem Fix.refl:Fix ν st ν st:=⟨λ_ _ ob' h=>⟨ob',h,rfl,.refl _⟩,rfl,rfl,rfl⟩
theorem Fix.trans (a:Fix ν st ν' st') (b:Fix ν' st' ν2 st2):Fix ν st ν2 st2:=
 ⟨λd hd ob2 h=>by
  obtain⟨ob1,h1,h2,h3⟩:=b.pin d (by rw[a.pins];omega) ob2 h
  obtain⟨ob,k1,k2,k3⟩:=a.pin d hd ob1 h1;exact⟨ob,k1,by simp_all,k3.trans h3⟩,by rw[b.pins,a.pins],by rw[b.more,a.more],by rw[b.yid,a.yid]⟩
theorem Ev.beside (y:Yc S J st.more st.yid) (a:Ev (λ_=>False) ν Z st H ν' Z' st' H') (hw:st'.want=st.want) (j:J st.want (eC ν st.m) Z H):J st'.want (eC ν' st'.m) Z' H':=by
 rw[hw];exact y.vq _ _ _ _ _ _ _ j a.len (λi h1 h2 h3=>a.same i h1 h2 h3 (λh=>h)) a.rows (λi h=>(a.own i h).imp (λh=>h) (λh=>h.elim (λh=>h.elim) (λh=>h)))
  (λi h=>(a.frz i h).imp (λh=>h) (λh=>h.imp (λh=>h) (λh=>h.elim (λh=>h.elim) (λh=>h))))
theorem tP (hs:∀s sv,ai st.g s=some sv->bY ν m H Z sv (get F s)) {ops:List Oper} {o:Oper} {gd:Option (Nat×Bool)} (hg:Ae ops o=some gd) {t:Bool} (hw:wanted st.g gd=some t):ez ops F o=t:=by
 unfold Ae at hg;unfold ez
 cases hgd:o.guard with
 | none=>
  rw[hgd]at hg;simp  at hg;simp[wanted]at hw;grind
 | some jb=>
  rw[hgd]at hg;obtain⟨d,hd,rfl⟩:=ζf.1 hg;simp[hd];simp[wanted]at hw;split at hw
  .rename_i c hc;simp  at hw;subst hw;rw[(hs d _ hc).fr.bool]
  .rename_i x hx hc;simp  at hw;subst hw;have hfr:=(hs d _ hc).fr;split
   .rename_i c hcc;rw[hcc]at hfr;cases hfr
    grind
   .rfl
  grind
theorem Lp {q:GC} {dst:Option Nat} {args:List SV} {sv:SV} (h:FM q dst args st=some (sv,st')):st'.want=st.want/\st'.pin=st.pin/\st'.more=st.more/\st'.yid=st.yid:=by
 unfold FM at h
 grind
theorem Ms {dr:Bool} {fr:List Nat} {ro:RO} {sv:SV} (h:kL S c dr fr ro st=some (sv,st')):st'.want=st.want/\st'.pin=st.pin/\st'.more=st.more/\st'.yid=st.yid:=by
 unfold kL at h;split at h
 .split at h
  .split at h
   .split at h
    .simp at h
    .unfold yJ at h;split at h
     .split at h
      .obtain⟨_,_,h⟩:=ζg.1 h;obtain⟨_,_,h⟩:=ζg.1 h;dsimp only at h;split at h
       .simp only[ζa,ζc]at h;obtain⟨_,rfl⟩:=h;exact⟨rfl,rfl,rfl,rfl⟩
       .simp at h
      .simp at h
     .simp at h
   .obtain⟨_,_,e⟩:=ζf.1 h;simp only[ζc]at e;obtain⟨_,rfl⟩:=e;exact⟨rfl,rfl,rfl,rfl⟩
  .obtain⟨_,_,e⟩:=ζf.1 h;simp only[ζc]at e;obtain⟨_,rfl⟩:=e;exact⟨rfl,rfl,rfl,rfl⟩
  .split at h
   .obtain⟨_,_,e⟩:=ζf.1 h;simp only[ζc]at e;obtain⟨_,rfl⟩:=e;exact⟨rfl,rfl,rfl,rfl⟩
   .simp at h
  .split at h
   .split at h
    .obtain⟨_,_,e⟩:=ζf.1 h;simp only[ζc]at e;obtain⟨_,rfl⟩:=e;exact⟨rfl,rfl,rfl,rfl⟩
    .simp at h
   .simp at h
  .split at h
   .unfold iX at h
    (repeat' split at h) <;> first|(simp at h;done)|(simp only[ζa,ζc]at h;obtain⟨_,rfl⟩:=h;exact⟨rfl,rfl,rfl,rfl⟩)|(obtain⟨_,_,e⟩:=ζf.1 h;simp only[ζc]at e;obtain⟨_,rfl⟩:=e;exact⟨rfl,rfl,rfl,rfl⟩)|skip
    .dsimp only at h
     (repeat' split at h) <;> first|(simp at h;done)|(simp only[ζa,ζc]at h;obtain⟨_,rfl⟩:=h;exact⟨rfl,rfl,rfl,rfl⟩)
   .simp at h
  .have hc:∀{dst dr now old f args},iI S c dst dr now old f args st=some (sv,st')->st'.want=st.want/\st'.pin=st.pin/\st'.more=st.more/\st'.yid=st.yid:=by
    intro dst dr now old f args h;unfold iI at h
    (repeat' split at h) <;> first|exact Lp h|(obtain⟨_,_,e⟩:=ζf.1 h;simp only[ζc]at e;obtain⟨_,rfl⟩:=e;exact⟨rfl,rfl,rfl,rfl⟩)|(simp at h;done)|(simp only[ζa,ζc]at h;obtain⟨_,rfl⟩:=h;exact⟨rfl,rfl,rfl,rfl⟩)
   split at h
   .exact hc h
   .exact hc h
   .simp at h
  .have hl:∀{dst l svs},iX st dst l svs=some (sv,st')->st'.want=st.want/\st'.pin=st.pin/\st'.more=st.more/\st'.yid=st.yid:=by
    intro dst l svs h;unfold iX at h
    (repeat' split at h) <;> first|(simp at h;done)|(simp only[ζa,ζc]at h;obtain⟨_,rfl⟩:=h;exact⟨rfl,rfl,rfl,rfl⟩)|(obtain⟨_,_,e⟩:=ζf.1 h;simp only[ζc]at e;obtain⟨_,rfl⟩:=e;exact⟨rfl,rfl,rfl,rfl⟩)|skip
    all_goals (dsimp only at h;(repeat' split at h) <;> first|(simp at h;done)|(simp only[ζa,ζc]at h;obtain⟨_,rfl⟩:=h;exact⟨rfl,rfl,rfl,rfl⟩))
   split at h
   .exact hl h
   .exact hl h
   .simp at h
 .simp at h
theorem zk (r:R ν Z st F H) {nt:Nat} {dst:Option Nat} (hd:wW nt dst=true) {sv:SV} {y:V} (h:bY ν st.m H Z sv y):∃F',iZ nt F dst y=some F'/\R ν Z (b7 st dst sv) F' H:=by
 cases dst with
 | none=>exact⟨F,rfl,r⟩
 | some d=>
  have  := by simpa [wW]using hd
  exact⟨set F d y,by simp[iZ,if_pos this],r.put h⟩
theorem BJ (st:St) (dst:Option Nat) (sv:SV):(b7 st dst sv).m=st.m/\(b7 st dst sv).want=st.want/\(b7 st dst sv).pin=st.pin/\(b7 st dst sv).more=st.more/\(b7 st dst sv).yid=st.yid:=by
 cases dst <;> exact⟨rfl,rfl,rfl,rfl,rfl⟩
theorem Hw (gd:Good X S) (hS:jF S c) {ops:List Oper} {place:Option (Nat×Nat)} {dr:Bool} {fr:List Nat} {i:Nat} (hdr:dr=place.isSome) (hi:∀b j,place=some (b,j)->j=i)
 (hold:∀b j,place=some (b,j)->b<=H.length/\Old b fr ν Z st.m)
 {o:Oper} {ro:RO} (hc:lK X dr ops i o=some ro) (hop:∀b j,place=some (b,j)->ops[j]? = some o) (hfree:∀b j,place=some (b,j)->bX o.op=.alloc->H[b+j]? = some .free)
 (r:R ν Z st F H) (hny:eD S.N st.g ro=none\/dr=true) (h:dQ S c dr fr ro st=some st') :
 ∃n F' H' ν' Z',(∀k,n<=k->eW S.E (run S.E k) X.nt ops place o F H=some (F',H'))/\R ν' Z' st' F' H'/\Ev (λid=>∃b j,place=some (b,j)/\id=b+j) ν Z st H ν' Z' st' H' /\
  (dr=true->Z'=Z/\Kept (wT ro) ν st.m ν' st'.m)/\st'.want=st.want/\Fix ν st ν' st':=by
 have hc0:=hc;obtain⟨hdst,g,now,k,az,hg,rfl⟩:=AV hc;unfold dQ at h;split at h
 .rename_i hw;have hwv:=tP r.slot hg hw;have h2:(kL S c dr fr ⟨o.dst,g,now,k,az,[],[]⟩ st).map (λ(x,st')=>b7 st' o.dst x)=some st':=by
   split at h
   .rename_i id vs hya;rcases hny with hny|hny
    .rw[hny]at hya;cases hya
    .subst hny;simp at h
   .exact h
  obtain⟨⟨x,st1⟩,hd,rfl⟩:=ζf.1 h2;obtain⟨n,y,H',ν',Z',e1,e2,e3,e4,e5⟩:=Rw gd hS hdr hi hold hc0 hop hfree r hd;obtain⟨w1,w2,w3,w4⟩:=Ms hd;obtain⟨F',f1,f2⟩:=zk e2 hdst e3;obtain⟨p1,p2,p3,p4,p5⟩:=BJ st1 o.dst x;refine⟨n,F',H',ν',Z',λk hk=>?_,f2,?_,λhd=>⟨(e5 hd).1,by rw[p1];exact(e5 hd).2⟩,by rw[p2,w1],⟨λd hd=>by rw[p1];exact e4.pin d hd,by rw[p3,w2],by rw[p4,w3],by rw[p5,w4]⟩⟩
  .unfold eW;simp only[hwv,if_true,e1 k hk,f1,Option.map_some]
  .exact⟨e4.len,e4.same,e4.rows,λid h=>e4.own id (by rw[p1]at h;exact h),e4.frz,λd hd=>by rw[p1];exact e4.pin d hd,by rw[p3,w2]⟩
 .rename_i hw;have hwv:=tP r.slot hg hw;simp only[ζa]at h;subst h;obtain⟨F',f1,f2⟩:=zk r hdst (.v V.undef V.undef (.same _ rfl));obtain⟨p1,p2,p3,p4,p5⟩:=BJ st o.dst (.v .undef);refine⟨0,F',H,ν,Z,λk _=>?_,f2,?_,λ_=>⟨rfl,by rw[p1];exact .refl⟩,p2,⟨λd hd=>by rw[p1];exact λob' h=>⟨ob',h,rfl,.refl _⟩,p3,p4,p5⟩⟩
  .unfold eW;simp only[hwv,Bool.false_eq_true,if_false,f1,Option.map_some]
  .exact⟨Nat.le_refl _,λ_ _ _ _ _=>rfl,λ_ h=>⟨h,rfl⟩,λ_ h=>.inl (by rw[p1]at h;exact h),λ_ h=>.inl h,λd hd=>by rw[p1];exact λob' h=>⟨ob',h,rfl,.refl _⟩,p3⟩
 .simp at h
theorem Mi (gd:Good X S) (y:Yc S J st.more st.yid) {ops:List Oper} {fr:List Nat} {i:Nat} {o:Oper} {ro:RO} (hc:lK X false ops i o=some ro)
 (r:R ν Z st F H) (j:J st.want (eC ν st.m) Z H) {id:Nat} {vs:List SV} (hya:eD S.N st.g ro=some (id,vs)) (hw0:wanted st.g ro.gd=some true) (h:dQ S c false fr ro st=some st') :
 ∃n F' H',(∀k,n<=k->eW S.E (run S.E k) X.nt ops none o F H=some (F',H'))/\R ν Z st' F' H'/\J st'.want (eC ν st'.m) Z H'/\Fix ν st ν st':=by
 unfold lK at hc;simp only[Bool.false_and,Bool.false_eq_true,if_false]at hc;split at hc
 .rename_i hdst;split at hc
  .rename_i g k os hg hr;split at hc
   .obtain⟨az,ha,rfl⟩:=ζf.1 hc;unfold dQ at h;simp only at hw0;have hwv:=tP r.slot hg hw0;rw[hw0]at h;simp only[hya,Bool.false_eq_true,if_false]at h;unfold eD at hya;split at hya
    .rename_i id' vs' hk hsa;simp only[ζa,ζc]at hya;obtain⟨rfl,rfl⟩:=hya;simp only at hk hsa;subst hk;obtain⟨ys,hys,rs⟩:=nO gd.N r.slot ha hsa;obtain⟨g1,f',az',e1,e2⟩:=jo gd.N hr hys;obtain⟨w,ws,ew,r1,r2⟩:=rs.inv;rw[ew]at e1;simp only[List.cons.injEq]at e1;obtain⟨rfl,rfl⟩:=e1;cases r1;simp only at e2;split at h
     .rename_i xs x wl hx hwant;split at h
      .rename_i hcond;obtain⟨rfl,rfl⟩:=hcond;simp only[ζa]at h;subst h;rw[hwant]at j;obtain⟨n,H',p1,p2,p3,p4,p5⟩:=y.yield _ _ _ _ _ _ j (r2.cG hx) r.zrow r.deep (λi hi=>⟨by obtain⟨d,ob,h1,h2,rfl⟩:=hi;exact r.apart d ob h1 h2,r.lt hi⟩)
       have r3:R ν Z st F H':=r.heap p4 p5;have r4:R ν Z { st with want:=wl } F H':=⟨r3.slot,r3.obj,r3.inj,r3.apart,r3.zrow,r3.deep⟩;obtain⟨F',f1,f2⟩:=zk (st:={ st with want:=wl }) r4 hdst (sv:=.v (.bool (st.more || !wl.isEmpty))) (.v _ _ (.same _ rfl));obtain⟨q1,q2,q3,q4,q5⟩:=BJ { st with want:=wl } o.dst (.v (.bool (st.more || !wl.isEmpty)));refine⟨n,F',H',λk hk=>?_,f2,by rw[q1,q2];exact p2,⟨λd hd=>by rw[q1];exact λob' h=>⟨ob',h,rfl,.refl _⟩,q3,q4,q5⟩⟩
       unfold eW cg;rw[g1,e2];simp only[hwv,if_true,sP S.E hk _ _ _ _ p1,f1,Option.map_some]
      .simp at h
     .simp at h
    .simp at hya
   .simp at hc
  .simp at hc
 .simp at hc
def jK (X:CX) (draw:Bool) (ops:List Oper):Nat->List Oper->Option (List RO)
 | _,[]=>some []
 | i,o::r=>match lK X draw ops i o,jK X draw ops (i+1) r with
  | some ro,some rs=>some (ro::rs)
  | _,_=>none
theorem R.wM (r:R ν Z st F H) (ds:List Nat):R ν Z (nL ds st) F H:=r.less   (λs sv hs=>mF hs) (λd ob hd=>hd)
theorem Fix.wM {ds:List Nat} (f:Fix ν (nL ds st) ν' st'):Fix ν st ν' st':=⟨f.pin,f.pins,f.more,f.yid⟩
theorem Fix.ghost (r:R ν Z st F H) (y:Yc S J st.more st.yid) (j:J st.want (eC ν st.m) Z H) {x:Gh} (h:ghost x st=some st'):∃ν' Z',R ν' Z' st' F H/\J st'.want (eC ν' st'.m) Z' H/\Fix ν st ν' st':=by
 obtain⟨ν',Z',h1,h2⟩:=MF (Rv:=λ_=>False) r h
 have hf:st'.want=st.want/\st'.more=st.more/\st'.yid=st.yid:=by
  unfold Go.VE.ghost yS at h
  (repeat' split at h) <;> first|grind|grind
 exact⟨ν',Z',h1,h2.beside y hf.1 j,⟨h2.pin,h2.pins,hf.2.1,hf.2.2⟩⟩
theorem Fix.quiet (r:R ν Z st F H):∀{l:List Gh} {st':St},l.all yx=true->Go.VE.mQ l st=some st'->R ν Z st' F H/\Ev Rv ν Z st H ν Z st' H/\st'.want=st.want/\Fix ν st ν st'/\∀d ob,ai st'.m d=some ob->ai st.m d=some ob:=by
 intro l
 induction l generalizing st with
 | nil=>intro st' _ h;simp[Go.VE.mQ]at h;subst h;exact⟨r,.refl,rfl,.refl,λ_ _ h=>h⟩
 | cons x l ih=>
  intro st' hq h;simp only[List.all_cons,ζh]at hq;obtain⟨s1,h1,h2⟩:=ζg.1 h;have key:∃g m,s1={ st with g:=g,m:=m }/\(∀s sv,ai g s=some sv->ai st.g s=some sv)/\∀d ob,ai m d=some ob->ai st.m d=some ob:=by
   cases x with
   | keep gs ms=>
    simp[Go.VE.ghost]at h1;split at h1
    .rename_i g m hg hm;simp  at h1;subst h1;exact⟨g,m,rfl,λs sv hs=>oH hg hs,λd ob hd=>oH hm hd⟩
    grind
   | drop ds=>
    simp[Go.VE.ghost]at h1;subst h1;exact⟨_,st.m,rfl,λs sv hs=>mF hs,λ_ _ h=>h⟩
   | _=>simp[yx]at hq
  obtain⟨g,m,rfl,kg,km⟩:=key;obtain⟨a1,a2,a3,a4,a5⟩:=ih (r.less   kg km) hq.2 h2;exact⟨a1,(Ev.less   km).trans a2,a3,Fix.trans  (st':={ st with g:=g,m:=m }) ⟨λd _ ob h=>⟨ob,km d ob h,rfl,.refl _⟩,rfl,rfl,rfl⟩ a4,λd ob h=>km d ob (a5 d ob h)⟩
theorem Fix.mQ:∀{l:List Gh} {ν:Nu} {Z:Nat->Prop} {st st':St},R ν Z st F H->Yc S J st.more st.yid->J st.want (eC ν st.m) Z H->mQ l st=some st'->∃ν' Z',R ν' Z' st' F H/\J st'.want (eC ν' st'.m) Z' H/\Fix ν st ν' st'
 | [],ν,Z,st,st',r,y,j,h=>by simp[Go.VE.mQ]at h;subst h;exact⟨ν,Z,r,j,.refl⟩
 | x::l,ν,Z,st,st',r,y,j,h=>by
  obtain⟨st1,h1,h2⟩:=ζg.1 h;obtain⟨ν1,Z1,r1,j1,f1⟩:=Fix.ghost r y j h1;obtain⟨ν2,Z2,r2,j2,f2⟩:=Fix.mQ r1 (by rw[f1.more,f1.yid];omega) j1 h2
  exact⟨ν2,Z2,r2,j2,f1.trans f2⟩
theorem MK (gd:Good X S) (hS:jF S c) {ops:List Oper} {fr:List Nat} {i:Nat} {o:Oper} {ro:RO} {st1:St} (h1:lK X false ops i o=some ro) (y:Yc S J st.more st.yid) (r:R ν Z st F H) (j:J st.want (eC ν st.m) Z H) (hs:dQ S c false fr ro st=some st1) :
 ∃n F' H' ν' Z',(∀k,n<=k->eW S.E (run S.E k) X.nt ops none o F H=some (F',H'))/\R ν' Z' st1 F' H'/\J st1.want (eC ν' st1.m) Z' H'/\Fix ν st ν' st1:=by
 by_cases hw:wanted st.g ro.gd=some true
 .cases hya:eD S.N st.g ro with
  | none=>
   obtain⟨n,F',H',ν',Z',e1,e2,e3,e4,e5,e6⟩:=Hw gd hS (place:=none) rfl (λb j h=>by cases h) (λb j h=>by cases h) h1 (λb j h=>by cases h) (λb j h=>by cases h) r (.inl hya) hs
   exact⟨n,F',H',ν',Z',e1,e2,(e3.weak (λid ⟨b,j,h,_⟩=>by cases h)).beside y e5 j,e6⟩
  | some p=>
   obtain⟨id,vs⟩:=p;obtain⟨n,F',H',e1,e2,e3,e4⟩:=Mi gd y h1 r j hya hw hs;exact⟨n,F',H',ν,Z,e1,e2,e3,e4⟩
 .have hs':dQ S c false fr ro st=some st1:=hs;have hny:eD S.N st.g { ro with az:=[] }=none:=by
   unfold eD;simp[a_]
  obtain⟨n,F',H',ν',Z',e1,e2,e3,e4,e5,e6⟩:∃n F' H' ν' Z',(∀k,n<=k->eW S.E (run S.E k) X.nt ops none o F H=some (F',H'))/\R ν' Z' st1 F' H'/\Ev (λ_=>False) ν Z st H ν' Z' st1 H'/\True/\st1.want=st.want/\Fix ν st ν' st1:=by
   unfold dQ at hs';split at hs'
   .rename_i hw2;exact absurd hw2 hw
   .rename_i hw2;simp only[ζa]at hs';subst hs';unfold lK at h1;simp only[Bool.false_and,Bool.false_eq_true,if_false]at h1;split at h1
    .rename_i hdst;split at h1
     .rename_i g k os hg hr;split at h1
      .obtain⟨az,ha,rfl⟩:=ζf.1 h1;have hwv:=tP r.slot hg hw2;obtain⟨F',f1,f2⟩:=zk r hdst (.v V.undef V.undef (.same _ rfl));obtain⟨p1,p2,p3,p4,p5⟩:=BJ st o.dst (.v .undef);refine⟨0,F',H,ν,Z,λk _=>?_,f2,?_,trivial,p2,⟨λd hd=>by rw[p1];exact λob' h=>⟨ob',h,rfl,.refl _⟩,p3,p4,p5⟩⟩
       .unfold eW;simp only[hwv,Bool.false_eq_true,if_false,f1,Option.map_some]
       .exact⟨Nat.le_refl _,λ_ _ _ _ _=>rfl,λ_ h=>⟨h,rfl⟩,λ_ h=>.inl (by rw[p1]at h;exact h),λ_ h=>.inl h,λd hd=>by rw[p1];exact λob' h=>⟨ob',h,rfl,.refl _⟩,p3⟩
      .simp at h1
     .simp at h1
    .simp at h1
   .simp at hs'
  exact⟨n,F',H',ν',Z',e1,e2,e3.beside y e5 j,e6⟩
theorem KV (gd:Good X S) (hS:jF S c) {ops:List Oper} {fr:List Nat}:∀(rest:List Oper) {i:Nat} {ros:List RO} {ν:Nu} {Z:Nat->Prop} {st st':St} {F:Frame} {H:ak},jK X false ops i rest=some (ros.map RO.strip)->lB S c false fr ros st=some st' ->
 Yc S J st.more st.yid->R ν Z st F H->J st.want (eC ν st.m) Z H ->
 ∃n F' H' ν' Z',(∀k,n<=k->kC S.E (run S.E k) X.nt ops rest F H=some (F',H'))/\R ν' Z' st' F' H'/\J st'.want (eC ν' st'.m) Z' H'/\Fix ν st ν' st'
 | [],i,ros,ν,Z,st,st',F,H,hc,h,y,r,j=>by
  simp only[jK,ζa]at hc;have  := List.map_eq_nil_iff.1 hc.symm;subst this;simp[lB]at h;subst h;exact⟨0,F,H,ν,Z,λ_ _=>rfl,r,j,.refl⟩
 | o::rest,i,ros,ν,Z,st,st',F,H,hc,h,y,r,j=>by
  simp[jK]at hc;split at hc
  .rename_i ro rs h1 h2;obtain⟨ro0,rs0,rfl,hro,hrs⟩:∃ro0 rs0,ros=ro0::rs0/\ro=ro0.strip/\rs=rs0.map RO.strip:=by
    cases ros with
    | nil=>simp_all
    | cons a b=>grind
   subst hrs;simp[lB,<-hro]at h;split at h
   .rename_i st1 hs;obtain⟨stg,hgh,hs⟩:=ζg.1 hs;obtain⟨νg,Zg,rg,jg,fg⟩:=Fix.mQ r y j hgh;obtain⟨n1,F1,H1,ν1,Z1,a1,a2,a3,a4'⟩:=MK gd hS h1 (by rw[fg.more,fg.yid];omega) rg jg hs
    have a4:=fg.trans a4';obtain⟨n2,F2,H2,ν2,Z2,b1,b2,b3,b4⟩:=KV gd hS rest h2 h (by show Yc S J st1.more st1.yid;rw[a4.more,a4.yid];omega) (R.wM a2 ro0.dead) a3
    refine⟨max n1 n2,F2,H2,ν2,Z2,λk hk=>?_,b2,b3,a4.trans (Fix.wM b4)⟩
    simp[kC,a1 k (Nat.le_trans (Nat.le_max_left _ _) hk),b1 k (Nat.le_trans (Nat.le_max_right _ _) hk)]
   grind
  grind
theorem Old.next {b:Nat} {fr:List Nat} {o:RO} (h:Old b fr ν Z m) (hk:Kept (wT o) ν m ν' m'):Old b (o6 fr o) ν' Z m':=by
 refine⟨λd ob hd hb hnf=>?_,h.2⟩
 have hsub:d∉fr:=λhm=>hnf (by
  unfold o6
  grind)
 have hne:wT o≠some d:=λe=>hnf (by unfold o6;grind)
 obtain⟨ob0,h1,h2,hs⟩:=hk d ob hne hd;have hb0:bK ob0=true:=by
  cases ob0 <;> cases ob <;> simp[sameShape]at hs <;> first|rfl|(simp[bK]at hb ⊢;grind)
 rw[h2];exact h.1 d ob0 h1 hb0 hsub
theorem B1 (r:R ν Z st F H) {id:Nat} (h:eC ν st.m id):H[id]? ≠ some .free:=by
 obtain⟨d,ob,h1,h2,rfl⟩:=h;have:=r.obj d ob h1
 cases ob with
 | sl k es xs=>
  simp[bK]at h2;simp[cO,h2]at this
  grind
 | box cs=>obtain⟨es,cs',hr,_⟩:=this;grind
 | mp kvs=>obtain⟨kvs',hr,_⟩:=this;grind
theorem Ia (r:R ν Z st F H) {id:Nat} (h:Z id):H[id]? ≠ some .free:=λe=>by
 have:=r.zrow id h;unfold au at this;rw[e]at this;simp[Ob.rows]at this
theorem Ev.wM {ds:List Nat} (e:Ev Rv ν Z (nL ds st) H ν' Z' st' H'):Ev Rv ν Z st H ν' Z' st' H':=⟨e.len,e.same,e.rows,e.own,e.frz,e.pin,e.pins⟩
theorem J_ (gd:Good X S) (hS:jF S c) {ops:List Oper} {b k:Nat} (hall:pT ops=true->k=ops.length):∀(len:Nat) {i:Nat} {ros:List RO} {fr:List Nat} {ν:Nu} {Z:Nat->Prop} {st st':St} {F:Frame} {H:ak},
 i+len=ops.length->jK X true ops i (ops.drop i)=some (ros.map RO.strip)->lB S c true fr ros st=some st'->R ν Z st F H->b<=H.length->Old b fr ν Z st.m->(∀j,i<=j->j<k->H[b+j]? = some .free) ->
 ∃n F' H' ν',(∀q,n<=q->iM S.E (run S.E q) X.nt ops b (List.range' i len) F H=some (F',H'))/\R ν' Z st' F' H'/\Ev (λid=>b<=id) ν Z st H ν' Z st' H'/\st'.want=st.want/\Fix ν st ν' st'
 | 0,i,ros,fr,ν,Z,st,st',F,H,hl,hc,h,r,hb,ho,hf=>by
  rw[List.drop_of_length_le (by omega)]at hc
  simp only[jK,ζa]at hc;have:ros=[]:=List.map_eq_nil_iff.1 hc.symm;subst this;simp[lB]at h;subst h;exact⟨0,F,H,ν,λ_ _=>rfl,r,.refl,rfl,.refl⟩
 | len+1,i,ros,fr,ν,Z,st,st',F,H,hl,hc,h,r,hb,ho,hf=>by
  have hi:i<ops.length:=by omega
  have hg  := ζd hi;rw[List.drop_eq_getElem_cons hi]at hc;simp[jK]at hc;split at hc
  .rename_i ro rs h1 h2;obtain⟨ro0,rs0,rfl,hro,hrs⟩:∃ro0 rs0,ros=ro0::rs0/\ro=ro0.strip/\rs=rs0.map RO.strip:=by
    cases ros with
    | nil=>simp_all
    | cons a b=>grind
   subst hrs;simp only[lB,<-hro]at h;split at h
   .rename_i st1 hs;obtain⟨stg,hgh,hs⟩:=ζg.1 hs;simp only[AB,if_true]at hgh;split at hgh
    rotate_left
    .simp_all
    rename_i hq;obtain⟨rg,eg,wg,fg,sg⟩:=Fix.quiet r hq hgh;have ho:Old b fr ν Z stg.m:=⟨λd ob hd=>ho.1 d ob (sg d ob hd),ho.2⟩
    obtain⟨n1,F1,H1,ν1,Z1,a1,a2,a3,a4,a5,a6⟩:=Hw gd hS (place:=some (b,i))  rfl (λb' j e=>by grind) (λb' j e=>by grind) h1 (λb' j e=>by grind) (λb' j e hcl=>by
     have:pT ops=true:=by
      unfold pT
      grind
     grind) rg (.inr rfl) hs
    obtain⟨rfl,hkept⟩:=a4 rfl;have a3'  := a3.weak λid ⟨b',j,e,h⟩=>by cases e;omega
    obtain⟨n2,F2,H2,ν2,b1,b2,b3,b4,b5⟩:=J_ gd hS hall len (by omega) h2 h (R.wM a2 ro0.dead) (Nat.le_trans hb a3.len) (ho.next hkept) (λj hij hjk=>by
     have hfr:=hf j (by omega) hjk
     have hlt:=(ζe.1 hfr).1;rw[a3'.same (b+j) hlt (λh=>B1 rg h hfr) (λh=>Ia rg h hfr) (by omega)]
     omega)
    refine⟨max n1 n2,F2,H2,ν2,λq hq=>?_,b2,eg.trans ((a3'.weak λid e=>by omega).trans (Ev.wM b3)),by rw[b4,<-wg];exact a5,fg.trans (a6.trans (Fix.wM b5))⟩
    simp[List.range'_succ,iM,hg,a1 q (Nat.le_trans (Nat.le_max_left _ _) hq),b1 q (Nat.le_trans (Nat.le_max_right _ _) hq)]
   grind
  grind
end
end Go.VE
namespace Go.VE
variable [aW]
def aP (X:CX):Bool->Code->Option RC
 | _,.skip=>some .skip
 | _,.label _=>some .skip
 | _,.region _ ops draw=>
  if draw then(if uu ops.toList&&xW ops.toList then(jK X true ops.toList 0 ops.toList).map .nH else none)
  else(jK X false ops.toList 0 ops.toList).map .ops
 | ro,.seq a b=>match aP X ro a,aP X ro b with
  | some a,some b=>some (.seq a b)
  | _,_=>none
 | ro,.cond c a b=>match ny X.nm c,aP X ro a,aP X ro b with
  | some x,some a,some b=>some (.cond x a b)
  | _,_,_=>none
 | ro,.block id c=>(aP X ro c).map (.block id)
 | ro,.loop c=>(aP X ro c).map .loop
 | ro,.rangeFunc g ps aw bw=>
  if ro || !(ps.toList.all (·<X.nt))then none else
  match ny X.nm g,aP X true aw,aP X true bw with
  | some x,some a,some b=>some (.each x ps.toList a b)
  | _,_,_=>none
 | _,.exit id=>some (.exit id)
 | _,.ret=>some .ret
 | _,_=>none
def erase:RC->RC
 | .seq a b=>.seq (erase a) (erase b)
 | .cond x a b=>.cond x (erase a) (erase b)
 | .block id c=>.block id (erase c)
 | .loop c=>.loop (erase c)
 | .each g ps a b=>.each g ps (erase a) (erase b)
 | .gh _ c=>erase c
 | .hg c _=>erase c
 | .ops l=>.ops (l.map RO.strip)
 | .nH l=>.nH (l.map RO.strip)
 | c=>c
def gZ (step:St->Option (Out×St)):Nat->St->Option (Out×St)
 | 0,_=>none
 | k+1,st=>match step st with
  | some (.norm,st')=>gZ step k st'
  | r=>r
open Classical in
noncomputable def mH (step:St->Option (Out×St)) (st:St):Option (Out×St):=
 if h:∃k r,gZ step k st=some r then some (Classical.choose (Classical.choose_spec h))else none
theorem xu {step:St->Option (Out×St)}:∀{k k':Nat} {st:St} {r:Out×St},k<=k'->gZ step k st=some r->gZ step k' st=some r
 | 0,_,_,_,_,h=>by simp[gZ]at h
 | k+1,0,_,_,hk,_=>by omega
 | k+1,k'+1,st,r,hk,h=>by
  simp only[gZ]at h ⊢;split at h
  .rename_i st' hs;rw[xu (Nat.le_of_succ_le_succ hk) h]
  .exact h
theorem lg {step:St->Option (Out×St)} {st:St} {r:Out×St}:mH step st=some r↔∃k,gZ step k st=some r:=by
 unfold mH;constructor
 .intro h;split at h
  .rename_i hx;simp only[ζa]at h;exact⟨_,by rw[<-h];exact Classical.choose_spec (Classical.choose_spec hx)⟩
  .simp at h
 .rintro⟨k,hk⟩;have hx:∃k r,gZ step k st=some r:=⟨k,r,hk⟩;rw[dif_pos hx];have h2:=Classical.choose_spec (Classical.choose_spec hx);have h3:=xu (Nat.le_max_left (Classical.choose hx) k) h2;have h4:=xu (Nat.le_max_right (Classical.choose hx) k) hk;rw[h3]at h4;exact h4
def gJ (ps:List Nat) (A B:St->Option (Out×St)) (st:St) (x:List V) (m:Tb aM):Option (Out×Tb aM):=
 if x.length=ps.length then
  match A { g:=vi st.g ps (x.map .v),m:=m,pin:=st.pin++oh st.g,want:=[],more:=true,yid:=0 } with
  | some (.norm,st1)=>(B st1).map λ(o,st2)=>(o,st2.m)
  | _=>none
 else none
def oN (step:List V->Tb aM->Option (Out×Tb aM)):List (List V)->Tb aM->Option (Out×Tb aM)
 | [],m=>some (.norm,m)
 | x::xs,m=>match step x m with
  | some (.norm,m')=>oN step xs m'
  | r=>r
noncomputable def bD (S:Sys) (c:br):RC->St->Option (Out×St)
 | .skip,st=>some (.norm,st)
 | .ops l,st=>(lB S c false [] l st).map λst=>(.norm,st)
 | .nH l,st=>(lB S c true [] l st).map λst=>(.norm,st)
 | .seq a b,st=>match bD S c a st with
  | some (.norm,st')=>bD S c b st'
  | r=>r
 | .cond x a b,st=>match oT S.N st.g x with
  | some (.v (.bool t))=>if t then bD S c a st else bD S c b st
  | _=>none
 | .block id a,st=>match bD S c a st with
  | some (.exit id',st')=>if id'=id then some (.norm,st')else some (.exit id',st')
  | r=>r
 | .loop a,st=>mH (bD S c a) st
 | .each g ps a b,st=>match oT S.N st.g g with
  | some (.v (.clo f x y))=>match S.items f x y with
   | some xs=>(oN (gJ ps (bD S c a) (bD S c b) st) xs st.m).map λ(o,m)=>(o,{ st with m:=m })
   | none=>none
  | _=>none
 | .exit id,st=>some (.exit id,st)
 | .ret,st=>some (.ret,st)
 | .gh x a,st=>(ghost x st).bind (bD S c a)
 | .hg a x,st=>match bD S c a st with
  | some (.norm,st')=>(ghost x st').map λst=>(.norm,st)
  | r=>r
def gm (S:Sys) (f:FuncId) (a b:List V) (xs:List (List V)):Prop:=
 ∀ws more,(more=true/\ws=xs\/more=false/\ws≠[]/\∃r,xs=ws++r)->∀yid J,Yc S J more yid->∀Z a' b' H,cr H Z a a'->cr H Z b b'->(∀i,Z i->(au H i).isSome=true)->Deep H Z->J ws (λ_=>False) Z H ->
  ∃n y H' O' Z',(∀k,n<=k->run S.E k (.fn f) (a'++.yld yid::b') H=some (y,H'))/\J [] O' Z' H'
section
variable {ν ν' ν2:Nu} {Z Z':Nat->Prop} {st st' st2:St} {m m':Tb aM} {F F':Frame} {H H' H1:ak} {S:Sys} {c:br} {X:CX} {J:JT}
end
end Go.VE
namespace Go.VE
variable [aW]
inductive uZ (step:List V->Tb aM->Option (Out×Tb aM)) (o:Out) (mf:Tb aM):List (List V)->Bool->Tb aM->Prop
 | nil (h:o=.norm):uZ step o mf [] true mf
 | next (x:List V) (ws:List (List V)) (more:Bool) (m m1:Tb aM) (h:step x m=some (.norm,m1)) (r:uZ step o mf ws more m1):uZ step o mf (x::ws) more m
 | last (x:List V) (m:Tb aM) (h:step x m=some (o,mf)) (ho:o≠.norm):uZ step o mf [x] false m
theorem Bn {step:List V->Tb aM->Option (Out×Tb aM)} {o:Out} {mf:Tb aM}:∀{xs:List (List V)} {m:Tb aM},oN step xs m=some (o,mf) ->
 ∃ws more,(more=true/\ws=xs\/more=false/\ws≠[]/\∃r,xs=ws++r)/\uZ step o mf ws more m
 | [],m,h=>by
  obtain⟨rfl,rfl⟩:=h;exact⟨[],true,.inl ⟨rfl,rfl⟩,.nil rfl⟩
 | x::xs,m,h=>by
  simp[oN]at h;split at h
  .rename_i m' hs;obtain⟨ws,more,hc,hr⟩:=Bn h;refine⟨x::ws,more,?_,.next x ws more m m' hs hr⟩
   grind
  .refine⟨[x],false,.inr ⟨rfl,by simp,xs,rfl⟩,.last x m h λe=>?_⟩
   simp_all
def s9 (O0 Z0:Nat->Prop) (H0:ak):JT:=λw O Z H=>w=[]/\H0.length<=H.length/\(∀i,i<H0.length->¬O0 i->¬Z0 i->H[i]? = H0[i]?)/\(∀i,Z0 i->Z i/\au H i=au H0 i) /\
 (∀i,O i->O0 i\/H0.length<=i)/\(∀i,Z i->Z0 i\/O0 i\/H0.length<=i)
section
variable {ν ν' ν2:Nu} {Z Z':Nat->Prop} {st st' st2:St} {m m':Tb aM} {F F':Frame} {H H' H1:ak} {S:Sys} {c:br} {X:CX} {J:JT} {O0 Z0:Nat->Prop} {H0:ak}
theorem s9.vq {w:List (List V)} {O Z O' Z':Nat->Prop} {H H':ak} (j:s9 O0 Z0 H0 w O Z H) (hl:H.length<=H'.length) (hs:∀i,i<H.length->¬O i->¬Z i->H'[i]? = H[i]?) (hr:∀i,Z i->Z' i/\au H' i=au H i)
 (ho:∀i,O' i->O i\/H.length<=i) (hz:∀i,Z' i->Z i\/O i\/H.length<=i):s9 O0 Z0 H0 w O' Z' H':=by
 obtain⟨j1,j2,j3,j4,j5,j6⟩:=j;refine⟨j1,Nat.le_trans j2 hl,λi h1 h2 h3=>?_,λi h=>⟨(hr i (j4 i h).1).1,by grind⟩,λi h=>?_,λi h=>?_⟩
 .grind
 .grind
 grind
theorem s9.yc {more:Bool} {yid:Nat}:Yc S (s9 O0 Z0 H0) more yid where
 vq:=λ_ _ _ _ _ _ _ j h1 h2 h3 h4 h5=>j.vq h1 h2 h3 h4 h5
 yield:=λx ws O Z H args j=>by obtain⟨h,_⟩:=j;cases h
theorem s9.refl (r:R ν Z st F H):s9 (eC ν st.m) Z H [] (eC ν st.m) Z H:=⟨rfl,Nat.le_refl _,λ_ _ _ _=>rfl,λi h=>⟨h,rfl⟩,λi h=>.inl h,λi h=>.inl h⟩
mutual
theorem BM {d:Nat}:∀{sv:SV},sv.bT d=true->d∈sv.names
 | .v _,h=>by simp[SV.bT]at h
 | .own e,h=>by simp[SV.bT]at h;simp[SV.names,h]
 | .ptr e _,h=>by simp[SV.bT]at h;simp[SV.names,h]
 | .el e _ _,h=>by simp[SV.bT]at h;simp[SV.names,h]
 | .mp e,h=>by simp[SV.bT]at h;simp[SV.names,h]
 | .clo f a b,h=>by
  simp only[SV.bT,Bool.or_eq_true]at h;simp only[SV.names,List.mem_append];exact h.imp pn pn
 | .tup l,h=>by simp only[SV.bT]at h;simp only[SV.names];exact pn h
 | .agg l,h=>by simp only[SV.bT]at h;simp only[SV.names];exact pn h
 | .yl _,h=>by simp[SV.bT]at h
theorem pn {d:Nat}:∀{l:List SV},SV.cB d l=true->d∈SV.uC l
 | [],h=>by simp[SV.cB]at h
 | x::r,h=>by
  simp only[SV.cB,Bool.or_eq_true]at h;simp only[SV.uC,List.mem_append];exact h.imp BM pn
end
theorem zQ {d:Nat}:∀{g:Tb SV} {s:Nat} {sv:SV},ai g s=some sv->sv.bT d=true->d∈oh g
 | [],s,sv,h,_=>by simp[ai]at h
 | (k,x)::r,s,sv,h,hs=>by
  simp[ai]at h;simp[oh];split at h
  .simp  at h;subst h;exact .inl (BM hs)
  .exact .inr (zQ h hs)
theorem R.Sk (r:R ν Z st F H) {Z2:Nat->Prop} (h1:∀i,Z2 i->¬eC ν st.m i) (h2:∀i,Z2 i->(au H i).isSome=true) (h3:Deep H Z2):R ν (λi=>Z i\/Z2 i) st F H:=by
 have hz:∀i,Z i->(Z i\/Z2 i)/\au H i=au H i:=λi h=>⟨.inl h,rfl⟩
 have hz2:∀i,Z2 i->(Z i\/Z2 i)/\au H i=au H i:=λi h=>⟨.inr h,rfl⟩
 refine⟨λs sv hs=>(r.slot s sv hs).mono hz λe _=>gM ν st.m e,λd ob hd=>cO.mono hz rfl (λ_=>rfl) (λe _=>gM ν st.m e) (r.obj d ob hd),r.inj,λd ob hd hb hh=>?_,λi hi=>?_,⟨λid es ys hi hr c hc u hu=>?_⟩⟩
 .rcases hh with hh|hh
  .exact r.apart d ob hd hb hh
  .exact h1 _ hh ⟨d,ob,hd,hb,rfl⟩
 .exact hi.elim (r.zrow i) (h2 i)
 .rcases hi with hi|hi
  .obtain⟨x,hx⟩:=r.deep.row id es ys hi hr c hc u hu;exact⟨x,hx.mono hz⟩
  .obtain⟨x,hx⟩:=h3.row id es ys hi hr c hc u hu;exact⟨x,hx.mono hz2⟩
theorem R.Rp:∀{ps:List Nat} {xs:List V} {vs:List V} {g:Tb SV} {F:Frame},R ν Z { st with g:=g } F H->cr H Z xs vs->xs.length=ps.length->R ν Z { st with g:=vi g ps (xs.map .v) } (uH ps vs F) H
 | [],xs,vs,g,F,r,h,hl=>by
  have  := List.length_eq_zero_iff.1 hl;subst this;exact r
 | p::ps,[],vs,g,F,r,h,hl=>by simp_all
 | p::ps,x::xs,vs,g,F,r,h,hl=>by
  obtain⟨w,ws,rfl,h1,h2⟩:=h.inv;exact R.Rp (ps:=ps) (r.put  (.v _ _ h1)) h2 (by grind)
def qX (X:CX) (S:Sys) (ro:Bool) (code:Code) (run':St->Option (Out×St)):Prop:=
 ∀st o st',run' st=some (o,st')->∀(J:JT) ν Z F H,Yc S J st.more st.yid->R ν Z st F H->J st.want (eC ν st.m) Z H ->
  ∃n F' H' ν' Z',(∀k,n<=k->exec S.E (run S.E k) k ro X.nt code F H=some (o,F',H'))/\R ν' Z' st' F' H'/\J st'.want (eC ν' st'.m) Z' H'/\Fix ν st ν' st'
def NT (st:St) (m:Tb aM):St:={ g:=st.g,m:=m,pin:=st.pin++oh st.g,want:=[],more:=true,yid:=0 }
def JI (X:CX) (st:St) (F:Frame) (ν:Nu) (O0 Z0:Nat->Prop) (H0:ak) (idl:Nat) (ps:List Nat) (aw bw:Code) (step:List V->Tb aM->Option (Out×Tb aM)) (o:Out) (mf:Tb aM) (more:Bool):JT:=λw O Z H=>
 ∃m νb Zb lr,R νb Zb (NT st m) F H/\s9 O0 Z0 H0 [] (eC νb m) Zb H/\(∀i,O i->¬eC νb m i/\¬Zb i/\i≠idl/\H0.length<=i)/\(∀i,Z i->¬eC νb m i/\i≠idl/\(Z0 i\/H0.length<=i)) /\
  ¬eC νb m idl/\¬Zb idl/\H0.length<=idl/\H[idl]? = some (.loop lr)/\(lr.frame=F/\lr.nt=X.nt/\lr.params=ps/\lr.assign=aw/\lr.body=bw) /\
  (∀d∈st.pin++oh st.g,∀ob',ai m d=some ob'->∃ob,ai st.m d=some ob/\νb d=ν d/\sameShape ob ob') /\
  ((uZ step o mf w more m/\lr.st=.ready/\lr.pend=none)\/(w=[]/\m=mf/\lr.st=.done/\lr.pend=some o))
theorem JI.vq {w:List (List V)} {O Z O' Z':Nat->Prop} {H H':ak} {idl:Nat} {ps:List Nat} {aw bw:Code} {step:List V->Tb aM->Option (Out×Tb aM)} {o:Out} {mf:Tb aM} {more:Bool}
 (j:JI X st F ν O0 Z0 H0 idl ps aw bw step o mf more w O Z H) (hl:H.length<=H'.length) (hs:∀i,i<H.length->¬O i->¬Z i->H'[i]? = H[i]?) (hr:∀i,Z i->Z' i/\au H' i=au H i)
 (ho:∀i,O' i->O i\/H.length<=i) (hz:∀i,Z' i->Z i\/O i\/H.length<=i):JI X st F ν O0 Z0 H0 idl ps aw bw step o mf more w O' Z' H':=by
 obtain⟨m,νb,Zb,lr,r,ej,d1,d2,l1,l2,l3,l4,l5,l6,l7⟩:=j;have hown  := λi hi=>hs i (r.lt  hi) (λh=>(d1 i h).1 hi) (λh=>(d2 i h).1 hi)
 have hzb:∀i,Zb i->au H' i=au H i:=λi hi=>by
  by_cases hzi:Z i
  .grind
  .unfold au;rw[hs i (r.uk hi) (λh=>(d1 i h).2.1 hi) hzi]
 have hll  := (ζe.1 l4).1;refine⟨m,νb,Zb,lr,r.heap hown hzb,?_,λi h=>?_,λi h=>?_,l1,l2,l3,?_,l5,l6,l7⟩
 .obtain⟨j1,j2,j3,j4,j5,j6⟩:=ej;refine⟨j1,Nat.le_trans j2 hl,λi h1 h2 h3=>?_,λi h=>⟨(j4 i h).1,by grind⟩,j5,j6⟩
  rw[hs i (Nat.lt_of_lt_of_le h1 j2) (λh=>by have:=(d1 i h).2.2.2;omega) (λh=>by rcases (d2 i h).2.2 with h|h;exact h3 h;omega),j3 i h1 h2 h3]
 .rcases ho i h with h|h
  .exact d1 i h
  .exact⟨λhi=>absurd (r.lt  hi) (by omega),λhi=>absurd (r.uk hi) (by omega),by omega,by omega⟩
 .rcases hz i h with h|h|h
  .exact d2 i h
  .exact⟨(d1 i h).1,(d1 i h).2.2.1,.inr (d1 i h).2.2.2⟩
  .exact⟨λhi=>absurd (r.lt  hi) (by omega),by omega,.inr (by omega)⟩
 grind
theorem JI.yield (S:Sys) {A B:St->Option (Out×St)} {aw bw:Code} (hA:qX X S true aw A) (hB:qX X S true bw B) {idl:Nat} {ps:List Nat} (hps:ps.all (·<X.nt)=true) {o:Out} {mf:Tb aM} {more:Bool}
 {x:List V} {ws:List (List V)} {O Z:Nat->Prop} {H:ak} {args:List V} (j:JI X st F ν O0 Z0 H0 idl ps aw bw (gJ ps A B st) o mf more (x::ws) O Z H)
 (hx:cr H Z x args) (hzr:∀i,Z i->(au H i).isSome=true) (hzd:Deep H Z) (hoz:∀i,O i->¬Z i/\i<H.length) :
 ∃n H',run S.E n (.yld idl) args H=some (.bool (more || !ws.isEmpty),H')/\JI X st F ν O0 Z0 H0 idl ps aw bw (gJ ps A B st) o mf more ws O Z H'/\H.length<=H'.length/\(∀i,O i->H'[i]? = H[i]?)/\(∀i,Z i->au H' i=au H i):=by
 obtain⟨m,νb,Zb,lr,r,ej,d1,d2,l1,l2,l3,l4,⟨q1,q2,q3,q4,q5⟩,l6,l7⟩:=j;have l7':uZ (gJ ps A B st) o mf (x::ws) more m/\lr.st=.ready/\lr.pend=none:=by
  grind
 obtain⟨hE,hready,hpend⟩:=l7';have hround:∃oo m1,gJ ps A B st x m=some (oo,m1)/\(oo=.norm/\uZ (gJ ps A B st) o mf ws more m1/\(more || !ws.isEmpty)=true\/oo≠.norm/\oo=o/\m1=mf/\ws=[]/\more=false):=by
  cases hE with
  | next _ _ _ _ m1 h hr=>
   refine⟨.norm,m1,h,.inl ⟨rfl,hr,?_⟩⟩;cases hr <;> simp
  | last _ _ h ho=>grind
 obtain⟨oo,m1,hstep,hout⟩:=hround;unfold gJ at hstep;split at hstep
 .rename_i hlen;split at hstep
  .rename_i st1 hAs;obtain⟨⟨oo',st2⟩,hBs,e⟩:=ζf.1 hstep;simp  at e;obtain⟨rfl,rfl⟩:=e;have hll  := (ζe.1 l4).1;have r1  := r.Sk (λi hi=>(d2 i hi).1) hzr hzd
   have hxx:cr H (λi=>Zb i\/Z i) x args:=hx.mono λi hi=>⟨.inr hi,rfl⟩
   have r2:=R.Rp (st:=NT st m) r1 hxx hlen;obtain⟨nA,F2,H2,ν2,Z2,a1,a2,a3,a4⟩:=hA _ _ _ hAs (s9 (eC νb m) (λi=>Zb i\/Z i) H) νb _ _ H s9.yc r2 (s9.refl  r1)
   obtain⟨b1,b2,b3,b4,b5,b6⟩:=a3;have hnz:¬(Zb idl\/Z idl):=λh=>h.elim l2 λh=>(d2 idl h).2.1 rfl
   have hlo2:H2[idl]? = some (.loop lr):=by rw[b3 idl hll l1 hnz];omega
   have hll2:idl<H2.length:=by omega
   have no2:¬eC ν2 st1.m idl:=λh=>(b5 idl h).elim l1 λh=>by omega
   have nz2:¬Z2 idl:=λh=>by rcases b6 idl h with h|h|h;exact hnz h;exact l1 h;omega
   have hset:∀(ob:Ob) (Hh:ak) (i:Nat),i≠idl->(Hh.set idl ob)[i]? = Hh[i]? := λob Hh i hne=>by rw[List.getElem?_set,if_neg (Ne.symm hne)]
   have r3:R ν2 Z2 st1 F2 (H2.set idl (.loop { lr with st:=.busy })):=a2.heap (λi hi=>hset _ _ i λe=>no2 (e▸hi)) (λi hi=>by unfold au;rw[hset _ _ i λe=>nz2 (e▸hi)])
   obtain⟨nB,F4,H4,ν4,Z4,c1,c2,c3,c4⟩:=hB _ _ _ hBs (s9 (eC ν2 st1.m) Z2 (H2.set idl (.loop { lr with st:=.busy }))) ν2 Z2 F2 _ s9.yc r3 (by
    rw[b1];exact s9.refl r3)
   obtain⟨_,g2,g3,g4,g5,g6⟩:=c3;simp  at g2 g3 g5 g6;have hlo4:H4[idl]? = some (.loop { lr with st:=.busy }):=by rw[g3 idl hll2 no2 nz2,List.getElem?_set_self hll2]
   have hll4:idl<H4.length:=by omega
   have no4  := λh=>(g5 idl h).elim no2 λh=>by omega
   have nz4:¬Z4 idl:=λh=>by rcases g6 idl h with h|h|h;exact nz2 h;exact no2 h;omega
   generalize hlr:({ lr with st:=(if oo'==.norm then zF.ready else zF.done),pend:=(if oo'==.norm then none else some oo') }:tW)=lr5;have r5:R ν4 Z4 st2 F4 (H4.set idl (.loop lr5)):=c2.heap (λi hi=>hset _ _ i λe=>no4 (e▸hi)) (λi hi=>by unfold au;rw[hset _ _ i λe=>nz4 (e▸hi)])
   have hlen5:H.length<=(H4.set idl (.loop lr5)).length:=by simp ;omega
   have same5:∀i,i<H.length->i≠idl->¬eC νb m i->¬(Zb i\/Z i)->(H4.set idl (.loop lr5))[i]? = H[i]? := λi h1 h2 h3 h4=>by
    rw[hset _ _ i h2,g3 i (by omega) (λh=>(b5 i h).elim h3 λh=>by omega) (λh=>by rcases b6 i h with h|h|h;exact h4 h;exact h3 h;omega),hset _ _ i h2,b3 i h1 h3 h4]
   have rows5:∀i,(Zb i\/Z i)->Z4 i/\au (H4.set idl (.loop lr5)) i=au H i:=λi hi=>by
    have hne:i≠idl:=λe=>hnz (e▸hi)
    obtain⟨t1,t2⟩:=b4 i hi;obtain⟨t3,t4⟩:=g4 i t1;refine⟨t3,?_⟩;rw[<-t2];have:au (H2.set idl (.loop { lr with st:=.busy })) i=au H2 i:=by unfold au;rw[hset _ _ i hne]
    rw[<-this,<-t4];unfold au;rw[hset _ _ i hne]
   have own5:∀i,eC ν4 st2.m i->eC νb m i\/H.length<=i:=λi hi=>by
    rcases g5 i hi with h|h
    .exact b5 i h
    .exact .inr (by omega)
   have frz5:∀i,Z4 i->(Zb i\/Z i)\/eC νb m i\/H.length<=i:=λi hi=>by
    rcases g6 i hi with h|h|h
    .exact b6 i h
    .rcases b5 i h with h|h
     .exact .inr (.inl h)
     .exact .inr (.inr h)
    .exact .inr (.inr (by omega))
   have fx:=a4.trans c4;have r6:R ν4 Z4 (NT st st2.m) F (H4.set idl (.loop lr5)):=⟨λs sv hs=>(r.slot s sv hs).mono (λi hi=>rows5 i (.inl hi)) λd hd ob' hob=>fx.pin d (List.mem_append_right _ (zQ hs hd)) ob' hob,r5.obj,r5.inj,r5.apart,r5.zrow,r5.deep⟩
   have hrun:run S.E (max nA nB+1) (.yld idl) args H=some (.bool (oo'==.norm),H4.set idl (.loop lr5)):=by
    simp only[run,l4];rw[if_pos (by rw[q3];exact⟨by rw[<-hx.1];exact hlen,by rw[q2];exact hps⟩)]
    rw[q1,q2,q3,q4,q5];rw[a1 _ (Nat.le_max_left _ _)];simp only[hlo2,hready];rw[c1 _ (Nat.le_max_right _ _)];simp only[hlo4];rw[<-hlr]
   refine⟨max nA nB+1,H4.set idl (.loop lr5),?_,⟨st2.m,ν4,Z4,lr5,r6,?_,λi hi=>?_,λi hi=>?_,no4,nz4,l3,?_,?_,λd hd ob' hob=>?_,?_⟩,hlen5,λi hi=>?_,λi hi=>(rows5 i (.inr hi)).2⟩
   .rw[hrun];rcases hout with⟨h1,_,h3⟩|⟨h1,_,_,h4,h5⟩
    .rw[h1,h3];rfl
    .rw[h4,h5]
     cases hoo:oo' with
     | norm=>exact absurd hoo h1
     | _=>rfl
   .obtain⟨j1,j2,j3,j4,j5,j6⟩:=ej;refine⟨rfl,Nat.le_trans j2 hlen5,λi h1 h2 h3=>?_,λi h=>⟨(rows5 i (.inl (j4 i h).1)).1,by rw[(rows5 i (.inl (j4 i h).1)).2,(j4 i h).2]⟩,λi h=>?_,λi h=>?_⟩
    .rw[same5 i (by omega) (by omega) (λh=>by rcases j5 i h with h|h;exact h2 h;omega) (λh=>by
      rcases h with h|h
      .rcases j6 i h with h|h|h;exact h3 h;exact h2 h;omega
      .rcases (d2 i h).2.2 with h|h;exact h3 h;omega),j3 i h1 h2 h3]
    .rcases own5 i h with h|h
     .exact j5 i h
     .exact .inr (by omega)
    .rcases frz5 i h with (h|h)|h|h
     .exact j6 i h
     .rcases (d2 i h).2.2 with h|h;exact .inl h;exact .inr (.inr h)
     .rcases j5 i h with h|h;exact .inr (.inl h);exact .inr (.inr h)
     .exact .inr (.inr (by omega))
   .obtain⟨t1,t2⟩:=hoz i hi;obtain⟨t3,t4,t5,t6⟩:=d1 i hi;refine⟨λh=>(own5 i h).elim t3 λh=>by omega,λh=>?_,t5,t6⟩
    rcases frz5 i h with (h|h)|h|h
    .exact t4 h
    .exact t1 h
    .exact t3 h
    .omega
   .obtain⟨t1,t2,t3⟩:=d2 i hi;have hlt:i<H.length:=by
     have:=hzr i hi;unfold au at this
     cases hh:H[i]? with
     | none=>rw[hh]at this;simp at this
     | some _=>exact(ζe.1 hh).1
    exact⟨λh=>(own5 i h).elim t1 λh=>by omega,t2,t3⟩
   .rw[List.getElem?_set_self hll4]
   .subst hlr;exact⟨q1,q2,q3,q4,q5⟩
   .obtain⟨ob1,h1,h2,h3⟩:=fx.pin d hd ob' hob;obtain⟨ob,k1,k2,k3⟩:=l6 d hd ob1 h1;exact⟨ob,k1,by rw[h2,k2],k3.trans h3⟩
   .rcases hout with⟨h1,h2,h3⟩|⟨h1,h2,h3,h4,h5⟩
    .left;subst h1;subst hlr;exact⟨h2,rfl,rfl⟩
    .right;subst hlr;have hb:¬(oo'==Out.norm)=true:=by simpa using h1
     refine⟨h4,h3,?_,?_⟩
     .show (if(oo'==Out.norm)=true then zF.ready else zF.done)=zF.done;rw[if_neg hb]
     .show (if(oo'==Out.norm)=true then none else some oo')=some o;rw[if_neg hb,h2]
   grind
  grind
 grind
end
end Go.VE
namespace Go.VE
variable [aW]
section
variable {ν ν' ν2:Nu} {Z Z':Nat->Prop} {st st' st2:St} {m m':Tb aM} {F F':Frame} {H H' H1:ak} {S:Sys} {c:br} {X:CX} {J:JT}
theorem KS (gd:Good X S) (hS:jF S c) {ro:Bool} {id:Nat} {ops:Array Oper} {l:List RO} (hc:jK X true ops.toList 0 ops.toList=some (l.map RO.strip)) (hd:(uu ops.toList&&xW ops.toList)=true) :
 qX X S ro (.region id ops true) (λst=>(lB S c true [] l st).map λst=>(.norm,st)):=by
 intro st o st' h J ν Z F H y r j;obtain⟨st1,h1,e⟩:=ζf.1 h;simp only[ζc]at e;obtain⟨rfl,rfl⟩:=e;generalize hH0:(if pT ops.toList then H++List.replicate ops.toList.length .free else H)=H0;generalize hk:(if pT ops.toList then ops.toList.length else 0)=k;have hget:∀i,i<H.length->H0[i]? = H[i]? := λi hi=>by
  rw[<-hH0];split
  .exact List.getElem?_append_left hi
  .rfl
 have hlen:H.length<=H0.length:=by rw[<-hH0];split <;> simp
 have r0:R ν Z st F H0:=r.heap (λi hi=>hget i (r.lt hi)) (λi hi=>by unfold au;rw[hget i (r.uk hi)])
 have hfree:∀q,0<=q->q<k->H0[H.length+q]? = some .free:=λq _ hq=>by
  rw[<-hk]at hq;split at hq
  .rename_i ha;rw[<-hH0,if_pos ha,List.getElem?_append_right (by omega)]
   simp only[Nat.add_sub_cancel_left];rw[List.getElem?_replicate,if_pos hq]
  .omega
 obtain⟨n,F',H',ν',e1,e2,e3,e4,e5⟩:=J_ gd hS (ops:=ops.toList) (b:=H.length) (k:=k) (λha=>by rw[<-hk,if_pos ha]) ops.toList.length (i:=0) (fr:=[]) (by omega) (by simpa using hc) h1 r0 hlen
  ⟨λd ob hd hb _=>r.lt ⟨d,ob,hd,hb,rfl⟩,λi hi=>r.uk hi⟩ hfree
 refine⟨n,F',H',ν',Z,λq hq=>?_,e2,?_,e5⟩
 .simp only[exec,iB,if_true,hd,ζf,ζc,true_and];refine⟨(F',H'),?_,rfl,rfl⟩;rw[hH0];have:=e1 q hq;rw[List.range_eq_range'];exact this
 .rw[e4];refine y.vq _ _ _ _ _ _ _ j (Nat.le_trans hlen e3.len) (λi h1 h2 h3=>by rw[e3.same i (by omega) h2 h3 (by omega),hget i h1]) (λi hi=>⟨hi,by rw[(e3.rows i hi).2];unfold au;rw[hget i (r.uk hi)]⟩) (λi hi=>?_) (λi hi=>.inl hi)
  rcases e3.own i hi with h|h|h
  .exact .inl h
  .exact .inr h
  .exact .inr (by omega)
theorem Py {ro:Bool} {code:Code} {f:St->Option (Out×St)} (hf:qX X S ro code f):qX X S ro (.loop code) (mH f):=by
 intro st o st' h J ν Z F H y r j;obtain⟨k,hk⟩:=lg.1 h;have key:∀k st ν Z F H,gZ f k st=some (o,st')->Yc S J st.more st.yid->R ν Z st F H->J st.want (eC ν st.m) Z H ->
  ∃n F' H' ν' Z',(∀q,n<=q->∀lf,k<=lf->js (exec S.E (run S.E q) q ro X.nt code) lf F H=some (o,F',H'))/\R ν' Z' st' F' H'/\J st'.want (eC ν' st'.m) Z' H'/\Fix ν st ν' st':=by
  intro k
  induction k with
  | zero=>intro st ν Z F H h;simp[gZ]at h
  | succ k ih=>
   intro st ν Z F H h y r j;simp only[gZ]at h;split at h
   .rename_i st1 hs;obtain⟨n1,F1,H1,ν1,Z1,a1,a2,a3,a4⟩:=hf st .norm st1 hs J ν Z F H y r j;obtain⟨n2,F2,H2,ν2,Z2,b1,b2,b3,b4⟩:=ih st1 ν1 Z1 F1 H1 h (by rw[a4.more,a4.yid];exact y) a2 a3
    refine⟨max n1 n2,F2,H2,ν2,Z2,λq hq lf hlf=>?_,b2,b3,a4.trans b4⟩
    cases lf with
    | zero=>omega
    | succ lf=>
     simp only[js,a1 q (Nat.le_trans (Nat.le_max_left _ _) hq)];exact b1 q (Nat.le_trans (Nat.le_max_right _ _) hq) lf (by omega)
   .rename_i hs;obtain⟨n1,F1,H1,ν1,Z1,a1,a2,a3,a4⟩:=hf st o st' h J ν Z F H y r j;have ho:o≠.norm:=λe=>by subst e;exact hs st' h
    refine⟨n1,F1,H1,ν1,Z1,λq hq lf hlf=>?_,a2,a3,a4⟩
    cases lf with
    | zero=>omega
    | succ lf=>
     simp only[js,a1 q hq];cases o <;> first|exact absurd rfl ho|rfl
 obtain⟨n,F',H',ν',Z',e1,e2,e3,e4⟩:=key k st ν Z F H hk y r j;refine⟨max n k,F',H',ν',Z',λq hq=>?_,e2,e3,e4⟩
 simp only[exec];exact e1 q (Nat.le_trans (Nat.le_max_left _ _) hq) q (Nat.le_trans (Nat.le_max_right _ _) hq)
theorem O6 (gd:Good X S) (hI:∀f a b xs,S.items f a b=some xs->gm S f a b xs) {g:Operand} {ps:Array Tmp} {aw bw:Code} {x:Arg} {A B:St->Option (Out×St)}
 (hps:ps.toList.all (·<X.nt)=true) (hx:ny X.nm g=some x) (hA:qX X S true aw A) (hB:qX X S true bw B) :
 qX X S false (.rangeFunc g ps aw bw) (λst=>match oT S.N st.g x with
 | some (.v (.clo f x y))=>match S.items f x y with
  | some xs=>(oN (gJ ps.toList A B st) xs st.m).map λ(o,m)=>(o,{ st with m:=m })
  | none=>none
 | _=>none):=by
 intro st o st' h J ν Z F H y r j;dsimp only at h;split at h
 .rename_i f a b hsv;split at h
  .rename_i xs hit;obtain⟨⟨oo,mf⟩,hE,e⟩:=ζf.1 h;simp only[ζc]at e;obtain⟨rfl,rfl⟩:=e;obtain⟨yv,hy,ry⟩:=Cz gd.N r.slot hx hsv;obtain⟨a',b',rfl,ra,rb⟩:=ry.fr.jL;obtain⟨ws,more,hcond,hR⟩:=Bn hE;generalize hlr:(⟨.ready,none,F,X.nt,ps.toList,aw,bw⟩:tW)=lr0;have hgetH:∀i,i<H.length->(H++[Ob.loop lr0])[i]? = H[i]? := λi hi=>List.getElem?_append_left hi
   have hzr:∀i,Z i->au (H++[Ob.loop lr0]) i=au H i:=λi hi=>by unfold au;rw[hgetH i (r.uk hi)]
   have r0:R ν Z (NT st st.m) F (H++[Ob.loop lr0]):=by
    have:=r.heap (H':=H++[Ob.loop lr0]) (λi hi=>hgetH i (r.lt hi)) hzr
    exact⟨this.slot,this.obj,this.inj,this.apart,this.zrow,this.deep⟩
   have hmono:∀i,Z i->Z i/\au (H++[Ob.loop lr0]) i=au H i:=λi hi=>⟨hi,hzr i hi⟩
   have j0:JI X st F ν (eC ν st.m) Z H H.length ps.toList aw bw (gJ ps.toList A B st) oo mf more ws (λ_=>False) Z (H++[Ob.loop lr0]):=by
    refine⟨st.m,ν,Z,lr0,r0,⟨rfl,by simp,λi h1 _ _=>hgetH i h1,λi hi=>⟨hi,hzr i hi⟩,λi hi=>.inl hi,λi hi=>.inl hi⟩,λi hi=>hi.elim,λi hi=>⟨λho=>?_,Nat.ne_of_lt (r.uk hi),.inl hi⟩,λho=>absurd (r.lt ho) (by simp),λhz=>absurd (r.uk hz) (by simp),Nat.le_refl _,by simp,?_,λd _ ob' h=>⟨ob',h,rfl,.refl _⟩,.inl ⟨hR,?_,?_⟩⟩
    .obtain⟨d,ob,g1,g2,rfl⟩:=ho;exact r.apart d ob g1 g2 hi
    .subst hlr;exact⟨rfl,rfl,rfl,rfl,rfl⟩
    .subst hlr;rfl
    .subst hlr;rfl
   have hyc:Yc S (JI X st F ν (eC ν st.m) Z H H.length ps.toList aw bw (gJ ps.toList A B st) oo mf more) more H.length:=
    ⟨λw O Z1 H1 O' Z' H' jj h1 h2 h3 h4 h5=>JI.vq jj h1 h2 h3 h4 h5,λx1 ws1 O Z1 H1 args jj h1 h2 h3 h4=>JI.yield S hA hB hps jj h1 h2 h3 h4⟩
   obtain⟨n,yy,H',O',Z',e1,e2⟩:=hI f a b xs hit ws more hcond H.length _ hyc Z a' b' (H++[Ob.loop lr0]) (ra.mono hmono) (rb.mono hmono) (λi hi=>by rw[hzr i hi];exact r.zrow i hi) (r.deep.mono hzr) j0
   obtain⟨m1,νb,Zb,lr,r1,⟨_,k2,k3,k4,k5,k6⟩,_,_,l1,l2,l3,l4,_,l6,l7⟩:=e2;have hfin:m1=mf/\(lr.st=.ready\/lr.st=.done)/\lr.pend.getD .norm=oo:=by
    rcases l7 with⟨g1,g2,g3⟩|⟨_,g1,g2,g3⟩
    .cases g1 with
     | nil hn=>
      exact⟨rfl,.inl g2,by rw[g3,hn];rfl⟩
    .exact⟨g1,.inr g2,by rw[g3];rfl⟩
   obtain⟨rfl,hst,hpend⟩:=hfin;have hll:H.length<H'.length:=(ζe.1 l4).1;have hset:∀i,i≠H.length->(H'.set H.length .dead)[i]? = H'[i]? := λi hne=>by rw[List.getElem?_set,if_neg (Ne.symm hne)]
   have hzr2:∀i,Zb i->au (H'.set H.length .dead) i=au H' i:=λi hi=>by unfold au;rw[hset i λe=>l2 (e▸hi)]
   have r2:=r1.heap (H':=H'.set H.length .dead) (λi hi=>hset i λe=>l1 (e▸hi)) hzr2
   refine⟨n,F,H'.set H.length .dead,νb,Zb,λq hq=>?_,⟨r2.slot,r2.obj,r2.inj,r2.apart,r2.zrow,r2.deep⟩,?_,⟨λd hd=>l6 d (List.mem_append_left _ hd),rfl,rfl,rfl⟩⟩
   .simp only[exec,hy];rw[hlr,e1 q hq];simp only[l4];rcases hst with hst|hst <;> rw[hst] <;> simp only[hpend]
   .refine y.vq _ _ _ _ _ _ _ j (by simp only[List.length_set];omega) (λi h1 h2 h3=>by rw[hset i (by omega),k3 i h1 h2 h3]) (λi hi=>⟨(k4 i hi).1,by rw[hzr2 i (k4 i hi).1,(k4 i hi).2]⟩) k5 k6
  .simp at h
 .simp at h
end
end Go.VE
namespace Go.VE
variable [aW]
def mJ (st:St):List RV->Option (List SV)
 | []=>some []
 | .s n::r=>match ai st.g n,mJ st r with
  | some x,some l=>some (x::l)
  | _,_=>none
 | .ld n size agg::r=>match (ai st.g n).bind λp=>nK st.m (.load size agg) [p],mJ st r with
  | some x,some l=>some (x::l)
  | _,_=>none
noncomputable def nE (S:Sys) (c:br) (rf:RF) (svs:List SV) (m0:gI):Option (List SV×gI):=
 if svs.length<=rf.na then
  match bD S c rf.body (start svs m0)with
  | some (.exit _,_)=>none
  | some (_,st)=>(mJ st rf.rs).map λrs=>(rs,st.m)
  | none=>none
 else none
def zz (E:Env):ResultVar->Option RV
 | .tmp t=>some (.s t)
 | .cell a t=>(E.tt t).map λd=>.ld a d.size d.agg
def wQ (E:Env) (nm:FuncId->Option Nat) (fi:FI) (rf:RF):Prop:=
 aP ⟨E,nm,fi.ntmps⟩ false fi.body=some (erase rf.body)/\fi.results.mapM (zz E)=some rf.rs/\rf.na=fi.ntmps
section
variable {ν ν' ν2:Nu} {Z Z':Nat->Prop} {st st' st2:St} {m m':Tb aM} {F F':Frame} {H H' H1:ak} {S:Sys} {c:br} {X:CX} {J:JT}
theorem Hj (gd:Good X S) (hS:jF S c) (hI:∀f a b xs,S.items f a b=some xs->gm S f a b xs):∀(rc:RC) (ro:Bool) (code:Code),aP X ro code=some (erase rc)->qX X S ro code (bD S c rc):=by
 intro rc
 induction rc with
 | skip=>
  intro ro code hc st o st' h J ν Z F H y r j;obtain⟨rfl,rfl⟩:=h;simp[erase]at hc;have:∀k,exec S.E (run S.E k) k ro X.nt code F H=some (.norm,F,H):=λk=>by
   cases code with
   | skip=>rfl
   | label _=>rfl
   | region id ops draw=>
    simp[aP]at hc;split at hc
    .simp_all
    simp_all
   | seq a b=>simp[aP]at hc;grind
   | cond x a b=>simp[aP]at hc;grind
   | block id b=>simp only[aP]at hc;simp_all
   | loop b=>simp only[aP]at hc;simp_all
   | rangeFunc g ps aw bw=>
    simp[aP]at hc
    grind
   | _=>simp[aP]at hc
  exact⟨0,F,H,ν,Z,λk _=>this k,r,j,.refl⟩
 | ops l=>
  intro ro code hc;simp[erase]at hc
  cases code with
  | region id ops draw=>
   simp[aP]at hc;split at hc
   .simp_all
   .rename_i hd;obtain⟨l',hl,e⟩:=ζf.1 hc;cases e;intro st o st' h J ν Z F H y r j;obtain⟨st1,h1,e⟩:=ζf.1 h;obtain⟨rfl,rfl⟩:=e;obtain⟨n,F',H',ν',Z',e1,e2,e3,e4⟩:=KV gd hS _ hl h1 y r j;refine⟨n,F',H',ν',Z',λk hk=>?_,e2,e3,e4⟩
    simp[exec,iB,hd,e1 k hk]
  | seq a b=>simp[aP]at hc;grind
  | cond x a b=>simp[aP]at hc;grind
  | block id b=>simp only[aP]at hc;simp_all
  | loop b=>obtain⟨_,_,e⟩:=ζf.1 hc;cases e
  | rangeFunc g ps aw bw=>
   simp only[aP]at hc;split at hc
   .simp at hc
   .split at hc <;> simp at hc
  | _=>simp[aP]at hc
 | nH l=>
  intro ro code hc;simp[erase]at hc
  cases code with
  | region id ops draw=>
   simp only[aP]at hc;split at hc
   .rename_i hd;subst hd;split at hc
    .rename_i hok;obtain⟨l',hl,e⟩:=ζf.1 hc;cases e;have:=KS (ro:=ro) (id:=id) gd hS hl hok;intro st o st' h;exact this st o st' h
    .simp at hc
   .obtain⟨_,_,e⟩:=ζf.1 hc;cases e
  | seq a b=>simp[aP]at hc;split at hc <;> simp at hc
  | cond x a b=>simp[aP]at hc;split at hc <;> simp at hc
  | block id b=>obtain⟨_,_,e⟩:=ζf.1 hc;cases e
  | loop b=>obtain⟨_,_,e⟩:=ζf.1 hc;cases e
  | rangeFunc g ps aw bw=>
   simp only[aP]at hc;split at hc
   .simp at hc
   .split at hc <;> simp at hc
  | _=>simp[aP]at hc
 | seq a b iha ihb=>
  intro ro code hc;simp[erase]at hc
  cases code with
  | seq ca cb=>
   simp[aP]at hc;split at hc
   .rename_i xa xb ha hb;simp[RC.seq.injEq]at hc;obtain⟨rfl,rfl⟩:=hc;intro st o st' h J ν Z F H y r j;simp[bD]at h;split at h
    .rename_i st1 hs;obtain⟨n1,F1,H1,ν1,Z1,a1,a2,a3,a4⟩:=iha ro ca ha st .norm st1 hs J ν Z F H y r j;obtain⟨n2,F2,H2,ν2,Z2,b1,b2,b3,b4⟩:=ihb ro cb hb st1 o st' h J ν1 Z1 F1 H1 (by rw[a4.more,a4.yid];exact y) a2 a3
     refine⟨max n1 n2,F2,H2,ν2,Z2,λq hq=>?_,b2,b3,a4.trans b4⟩
     simp[exec,a1 q (Nat.le_trans (Nat.le_max_left _ _) hq)];exact b1 q (Nat.le_trans (Nat.le_max_right _ _) hq)
    .rename_i hs;obtain⟨n1,F1,H1,ν1,Z1,a1,a2,a3,a4⟩:=iha ro ca ha st o st' h J ν Z F H y r j;refine⟨n1,F1,H1,ν1,Z1,λq hq=>?_,a2,a3,a4⟩
     simp[exec,a1 q hq];cases o <;> first|exact absurd h (hs st')|rfl
   .simp at hc
  | region id ops draw=>
   simp[aP]at hc;split at hc
   .split at hc
    .obtain⟨_,_,e⟩:=ζf.1 hc;cases e
    .simp at hc
   .obtain⟨_,_,e⟩:=ζf.1 hc;cases e
  | cond x a b=>simp[aP]at hc;split at hc <;> simp at hc
  | block id b=>simp only[aP]at hc;obtain⟨_,_,e⟩:=ζf.1 hc;cases e
  | loop b=>simp only[aP]at hc;obtain⟨_,_,e⟩:=ζf.1 hc;cases e
  | rangeFunc g ps aw bw=>
   simp only[aP]at hc;split at hc
   .simp at hc
   .split at hc <;> simp at hc
  | _=>simp[aP]at hc
 | cond x a b iha ihb=>
  intro ro code hc;simp[erase]at hc
  cases code with
  | cond g ca cb=>
   simp[aP]at hc;split at hc
   .rename_i xg xa xb hg ha hb;simp[RC.cond.injEq]at hc;obtain⟨rfl,rfl,rfl⟩:=hc;intro st o st' h J ν Z F H y r j;simp[bD]at h;split at h
    .rename_i t ht;obtain⟨yv,hy,ry⟩:=Cz gd.N r.slot hg ht;rw[ry.fr.bool]at hy;split at h
     .rename_i hb;obtain⟨n1,F1,H1,ν1,Z1,a1,a2,a3,a4⟩:=iha ro ca ha st o st' h J ν Z F H y r j;refine⟨n1,F1,H1,ν1,Z1,λq hq=>?_,a2,a3,a4⟩
      simp[exec,hy,hb];exact a1 q hq
     .rename_i hb;obtain⟨n1,F1,H1,ν1,Z1,a1,a2,a3,a4⟩:=ihb ro cb (by assumption) st o st' h J ν Z F H y r j
      refine⟨n1,F1,H1,ν1,Z1,λq hq=>?_,a2,a3,a4⟩
      simp[exec,hy,hb];exact a1 q hq
    .simp at h
   .simp at hc
  | region id ops draw=>
   simp[aP]at hc;split at hc
   .split at hc
    .obtain⟨_,_,e⟩:=ζf.1 hc;cases e
    .simp at hc
   .obtain⟨_,_,e⟩:=ζf.1 hc;cases e
  | seq a b=>simp[aP]at hc;split at hc <;> simp at hc
  | block id b=>simp only[aP]at hc;obtain⟨_,_,e⟩:=ζf.1 hc;cases e
  | loop b=>simp only[aP]at hc;obtain⟨_,_,e⟩:=ζf.1 hc;cases e
  | rangeFunc g ps aw bw=>
   simp only[aP]at hc;split at hc
   .simp at hc
   .split at hc <;> simp at hc
  | _=>simp[aP]at hc
 | block id a iha=>
  intro ro code hc;simp[erase]at hc
  cases code with
  | block id' ca=>
   simp only[aP]at hc;obtain⟨xa,ha,e⟩:=ζf.1 hc;simp[RC.block.injEq]at e;obtain⟨rfl,rfl⟩:=e;intro st o st' h J ν Z F H y r j;simp[bD]at h;split at h
   .rename_i id2 st1 hs;obtain⟨n1,F1,H1,ν1,Z1,a1,a2,a3,a4⟩:=iha ro ca ha st (.exit id2) st1 hs J ν Z F H y r j;split at h
    .rename_i e;simp  at h;obtain⟨rfl,rfl⟩:=h;refine⟨n1,F1,H1,ν1,Z1,λq hq=>?_,a2,a3,a4⟩
     simp[exec,a1 q hq,if_pos e]
    .rename_i e;simp  at h;obtain⟨rfl,rfl⟩:=h;refine⟨n1,F1,H1,ν1,Z1,λq hq=>?_,a2,a3,a4⟩
     simp[exec,a1 q hq,if_neg e]
   .rename_i hs;obtain⟨n1,F1,H1,ν1,Z1,a1,a2,a3,a4⟩:=iha ro ca ha st o st' h J ν Z F H y r j;refine⟨n1,F1,H1,ν1,Z1,λq hq=>?_,a2,a3,a4⟩
    simp[exec,a1 q hq];cases o <;> first|exact absurd h (hs _ st')|rfl
  | region id ops draw=>
   simp[aP]at hc;split at hc
   .split at hc
    .obtain⟨_,_,e⟩:=ζf.1 hc;cases e
    .simp at hc
   .obtain⟨_,_,e⟩:=ζf.1 hc;cases e
  | seq a b=>simp[aP]at hc;split at hc <;> simp at hc
  | cond x a b=>simp[aP]at hc;split at hc <;> simp at hc
  | loop b=>simp only[aP]at hc;obtain⟨_,_,e⟩:=ζf.1 hc;cases e
  | rangeFunc g ps aw bw=>
   simp only[aP]at hc;split at hc
   .simp at hc
   .split at hc <;> simp at hc
  | _=>simp[aP]at hc
 | loop a iha=>
  intro ro code hc;simp[erase]at hc
  cases code with
  | loop ca=>
   simp only[aP]at hc;obtain⟨xa,ha,e⟩:=ζf.1 hc;simp[RC.loop.injEq]at e;subst e;have:=Py (iha ro ca ha);intro st o st' h;simp[bD]at h;exact this st o st' h
  | region id ops draw=>
   simp[aP]at hc;split at hc
   .split at hc
    .obtain⟨_,_,e⟩:=ζf.1 hc;cases e
    .simp at hc
   .obtain⟨_,_,e⟩:=ζf.1 hc;cases e
  | seq a b=>simp[aP]at hc;split at hc <;> simp at hc
  | cond x a b=>simp[aP]at hc;split at hc <;> simp at hc
  | block id b=>simp only[aP]at hc;obtain⟨_,_,e⟩:=ζf.1 hc;cases e
  | rangeFunc g ps aw bw=>
   simp only[aP]at hc;split at hc
   .simp at hc
   .split at hc <;> simp at hc
  | _=>simp[aP]at hc
 | each x ps a b iha ihb=>
  intro ro code hc;simp[erase]at hc
  cases code with
  | rangeFunc g ps' aw bw=>
   simp only[aP]at hc;split at hc
   .simp at hc
   .rename_i hro;simp only[Bool.or_eq_true,not_or,Bool.not_eq_true,Bool.not_eq_false']at hro;obtain⟨rfl,hps⟩:=hro;split at hc
    .rename_i xg xa xb hg ha hb;simp[RC.each.injEq]at hc;obtain⟨rfl,rfl,rfl,rfl⟩:=hc;have:=O6 gd hI hps hg (iha true aw ha) (ihb true bw hb);intro st o st' h;simp only[bD]at h;exact this st o st' h
    .simp at hc
  | region id ops draw=>
   simp only[aP]at hc;split at hc
   .split at hc
    .obtain⟨_,_,e⟩:=ζf.1 hc;cases e
    .simp at hc
   .obtain⟨_,_,e⟩:=ζf.1 hc;cases e
  | seq a b=>simp only[aP]at hc;split at hc <;> simp at hc
  | cond x a b=>simp only[aP]at hc;split at hc <;> simp at hc
  | block id b=>simp only[aP]at hc;obtain⟨_,_,e⟩:=ζf.1 hc;cases e
  | loop b=>simp only[aP]at hc;obtain⟨_,_,e⟩:=ζf.1 hc;cases e
  | _=>simp[aP]at hc
 | exit id=>
  intro ro code hc st o st' h J ν Z F H y r j;simp only[bD,ζa,ζc]at h;obtain⟨rfl,rfl⟩:=h;simp only[erase]at hc;have:∀k,exec S.E (run S.E k) k ro X.nt code F H=some (.exit id,F,H):=λk=>by
   cases code with
   | exit id'=>simp only[aP,ζa,RC.exit.injEq]at hc;subst hc;rfl
   | region id ops draw=>
    simp only[aP]at hc;split at hc
    .split at hc
     .obtain⟨_,_,e⟩:=ζf.1 hc;cases e
     .simp at hc
    .obtain⟨_,_,e⟩:=ζf.1 hc;cases e
   | seq a b=>simp only[aP]at hc;split at hc <;> simp at hc
   | cond x a b=>simp only[aP]at hc;split at hc <;> simp at hc
   | block id b=>simp only[aP]at hc;obtain⟨_,_,e⟩:=ζf.1 hc;cases e
   | loop b=>simp only[aP]at hc;obtain⟨_,_,e⟩:=ζf.1 hc;cases e
   | rangeFunc g ps aw bw=>
    simp only[aP]at hc;split at hc
    .simp at hc
    .split at hc <;> simp at hc
   | _=>simp[aP]at hc
  exact⟨0,F,H,ν,Z,λk _=>this k,r,j,.refl⟩
 | ret=>
  intro ro code hc st o st' h J ν Z F H y r j;simp only[bD,ζa,ζc]at h;obtain⟨rfl,rfl⟩:=h;simp only[erase]at hc;have:∀k,exec S.E (run S.E k) k ro X.nt code F H=some (.ret,F,H):=λk=>by
   cases code with
   | ret=>rfl
   | region id ops draw=>
    simp only[aP]at hc;split at hc
    .split at hc
     .obtain⟨_,_,e⟩:=ζf.1 hc;cases e
     .simp at hc
    .obtain⟨_,_,e⟩:=ζf.1 hc;cases e
   | seq a b=>simp only[aP]at hc;split at hc <;> simp at hc
   | cond x a b=>simp only[aP]at hc;split at hc <;> simp at hc
   | block id b=>simp only[aP]at hc;obtain⟨_,_,e⟩:=ζf.1 hc;cases e
   | loop b=>simp only[aP]at hc;obtain⟨_,_,e⟩:=ζf.1 hc;cases e
   | rangeFunc g ps aw bw=>
    simp only[aP]at hc;split at hc
    .simp at hc
    .split at hc <;> simp at hc
   | _=>simp[aP]at hc
  exact⟨0,F,H,ν,Z,λk _=>this k,r,j,.refl⟩
 | gh x a iha=>
  intro ro code hc;simp only[erase]at hc;intro st o st' h J ν Z F H y r j;simp only[bD]at h;obtain⟨st1,h1,h2⟩:=ζg.1 h;obtain⟨ν1,Z1,g1,g2,g3⟩:=Fix.ghost r y j h1;obtain⟨n,F',H',ν',Z',e1,e2,e3,e4⟩:=iha ro code hc st1 o st' h2 J ν1 Z1 F H (by rw[g3.more,g3.yid];exact y) g1 g2
  exact⟨n,F',H',ν',Z',e1,e2,e3,g3.trans e4⟩
 | hg a x iha=>
  intro ro code hc;simp only[erase]at hc;intro st o st' h J ν Z F H y r j;simp only[bD]at h;split at h
  .rename_i st1 hs;obtain⟨st2,h1,e⟩:=ζf.1 h;simp only[ζc]at e;obtain⟨rfl,rfl⟩:=e;obtain⟨n,F',H',ν',Z',e1,e2,e3,e4⟩:=iha ro code hc st .norm st1 hs J ν Z F H y r j;obtain⟨ν1,Z1,g1,g2,g3⟩:=Fix.ghost e2 (by rw[e4.more,e4.yid];exact y) e3 h1
   exact⟨n,F',H',ν1,Z1,e1,g1,g2,e4.trans g3⟩
  .exact iha ro code hc st o st' h J ν Z F H y r j
end
end Go.VE
