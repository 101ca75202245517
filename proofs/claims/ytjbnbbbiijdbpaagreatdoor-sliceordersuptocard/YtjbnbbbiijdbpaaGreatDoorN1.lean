/-
 The second layer: named objects in the place of rows; texts, calls, iterators.
-/
import Derived.Test.YtjbnbbbiijdbpaaGreatDoorV2
set_option linter.all false
namespace Go.VE
variable [aW]
inductive Fl where|nil|emp|row|part
 deriving DecidableEq,Inhabited
inductive SV where
 | v (x:V)
 | own (d:Nat)
 | ptr (d off:Nat)
 | el (d i off:Nat)
 | mp (d:Nat)
 | clo (f:FuncId) (a b:List SV)
 | tup (l:List SV)
 | yl (id:Nat)
 deriving Inhabited
inductive aP where
 | sl (k:Fl) (es:Nat) (xs:List (List V))
 | box (cs:List SV)
 | mp (kvs:List (V×V))
abbrev Tb (α:Type):=List (Nat×α)
def an {α:Type}:Tb α→Nat→Option α
 | [],_=>none
 | (k,v)::r,n=>if k=n then some v else an r n
def aV {α:Type}:Tb α→Nat→α→Tb α
 | [],n,v=>[(n,v)]
 | (k,x)::r,n,v=>if k=n then(k,v)::r else(k,x)::aV r n v
def dh {α:Type} (n:Nat):Tb α→Tb α
 | []=>[]
 | (k,x)::r=>if k=n then dh n r else(k,x)::dh n r
def s9 {α:Type}:List Nat→Tb α→Tb α
 | [],g=>g
 | d::ds,g=>s9 ds (dh d g)
def s7 {α:Type}:Tb α→List Nat→List α→Tb α
 | g,p::ps,v::vs=>s7 (aV g p v) ps vs
 | g,_,_=>g
def xz {α:Type} (g:Tb α):List Nat→Option (Tb α)
 | []=>some []
 | n::r=>match an g n,xz g r with
  | some v,some t=>some ((n,v)::t)
  | _,_=>none
structure St where
 g:Tb SV
 m:Tb aP
 pin:List Nat
 want:List (List V)
 more:Bool
 yid:Nat
structure EU where
 part:Bool
 go:Nat→List (List V)→List V→Option (List (List V))
structure Sys where
 E:Env
 N:Nat→FuncId
 items:FuncId→List V→List V→Option (List (List V))
 vz:FuncId→List V→Option V
 prm:FuncId→Option EU
inductive Arg where
 | s (n:Nat)
 | k (c:V)
 | f (name:Nat)
inductive Loc where
 | s (n:Nat)
 | c (b i:Nat)
inductive Gh where
 | close (d:Nat)
 | closeB (d:Nat)
 | canon (l:Loc) (d:Nat) (es:Nat)
 | keep (gs ms:List Nat)
 | drop (ds:List Nat)
 | closeS (l:Loc)
structure RO where
 dst:Option Nat
 gd:Option (Nat×Bool)
 now:Bool
 k:K
 az:List Arg
 dead:List Nat:=[]
 pre:List Gh:=[]
inductive RC where
 | skip
 | ops (l:List RO)
 | lM (l:List RO)
 | seq (a b:RC)
 | cond (x:Arg) (a b:RC)
 | block (id:Nat) (c:RC)
 | loop (c:RC)
 | each (g:Arg) (ps:List Nat) (a b:RC)
 | exit (id:Nat)
 | ret
 | gh (x:Gh) (c:RC)
 | hg (c:RC) (x:Gh)
inductive RV where
 | s (n:Nat)
 | ld (n size:Nat) (agg:Bool)
structure RF where
 na:Nat
 rs:List RV
 body:RC
mutual
def SV.bV (d:Nat):SV→Bool
 | .v _=>false
 | .own e=>e==d
 | .ptr e _=>e==d
 | .el e _ _=>e==d
 | .mp e=>e==d
 | .clo _ a b=>SV.cz d a||SV.cz d b
 | .tup l=>SV.cz d l
 | .yl _=>false
def SV.cz (d:Nat):List SV→Bool
 | []=>false
 | x::r=>SV.bV d x||SV.cz d r
end
def aP.bV (d:Nat):aP→Bool
 | .box cs=>SV.cz d cs
 | _=>false
def rM (d:Nat):Tb SV→Bool
 | []=>false
 | (_,x)::r=>SV.bV d x||rM d r
def oU (d:Nat):Tb aP→Bool
 | []=>false
 | (_,x)::r=>aP.bV d x||oU d r
def St.new (st:St) (d:Nat):Bool := !(st.pin.contains d)&&(an st.m d).isNone && !(rM d st.g) && !(oU d st.m)
mutual
def SV.qR (d e:Nat):SV→SV
 | .v x=>.v x
 | .own k=>.own (if k=d then e else k)
 | .ptr k o=>.ptr (if k=d then e else k) o
 | .el k i o=>.el (if k=d then e else k) i o
 | .mp k=>.mp (if k=d then e else k)
 | .clo f a b=>.clo f (SV.sH d e a) (SV.sH d e b)
 | .tup l=>.tup (SV.sH d e l)
 | .yl id=>.yl id
def SV.sH (d e:Nat):List SV→List SV
 | []=>[]
 | x::r=>SV.qR d e x::SV.sH d e r
end
def aP.qR (d e:Nat):aP→aP
 | .box cs=>.box (SV.sH d e cs)
 | o=>o
def yX (d e:Nat):Tb SV→Tb SV
 | []=>[]
 | (n,x)::r=>(n,x.qR d e)::yX d e r
def sB (d e:Nat):Tb aP→Tb aP
 | []=>[]
 | (n,x)::r=>((if n=d then e else n),x.qR d e)::sB d e r
mutual
def SV.sub (d:Nat) (w:V):SV→SV
 | .own k=>if k=d then .v w else .own k
 | .clo f a b=>.clo f (SV.sO d w a) (SV.sO d w b)
 | .tup l=>.tup (SV.sO d w l)
 | x=>x
def SV.sO (d:Nat) (w:V):List SV→List SV
 | []=>[]
 | x::r=>SV.sub d w x::SV.sO d w r
end
mutual
def SV.yV (d:Nat) (cs:List V):SV→SV
 | .ptr k o=>if k=d then(if o≤cs.length then .v (.fptr (cs.drop o))else .ptr k o)else .ptr k o
 | .clo f a b=>.clo f (SV.oE d cs a) (SV.oE d cs b)
 | .tup l=>.tup (SV.oE d cs l)
 | x=>x
def SV.oE (d:Nat) (cs:List V):List SV→List SV
 | []=>[]
 | x::r=>SV.yV d cs x::SV.oE d cs r
end
def yM (f:SV→SV):Tb SV→Tb SV
 | []=>[]
 | (n,x)::r=>(n,f x)::yM f r
def mapM (f:List SV→List SV):Tb aP→Tb aP
 | []=>[]
 | (n,.box cs)::r=>(n,.box (f cs))::mapM f r
 | (n,o)::r=>(n,o)::mapM f r
mutual
def SV.names:SV→List Nat
 | .own d|.ptr d _|.el d _ _|.mp d=>[d]
 | .clo _ a b=>SV.ug a++SV.ug b
 | .tup l=>SV.ug l
 | _=>[]
def SV.ug:List SV→List Nat
 | []=>[]
 | x::r=>SV.names x++SV.ug r
end
def lZ:Tb SV→List Nat
 | []=>[]
 | (_,x)::r=>SV.names x++lZ r
def dc:List SV→Option (List V)
 | []=>some []
 | .v x::r=>(dc r).map (x::·)
 | _::_=>none
def lC (k:Fl) (es:Nat) (xs:List (List V)):V:=
 match k with
 | .nil=>.aF
 | .emp=>.cC
 | _=>.fsl es xs
mutual
def V.lvl:Nat→V→Bool
 | n,.fsl _ xs=>match n with|0=>false|n+1=>V.jZ n xs
 | n,.fptr cs=>match n with|0=>false|n+1=>V.cg n cs
 | n,.fmap kvs=>match n with|0=>false|n+1=>V.oV n kvs
 | n,.agg cs=>match n with|0=>false|n+1=>V.cg n cs
 | n,.tup cs=>match n with|0=>false|n+1=>V.cg n cs
 | n,.clo _ a b=>match n with|0=>false|n+1=>V.cg n a&&V.cg n b
 | _,_=>true
def V.cg:Nat→List V→Bool
 | _,[]=>true
 | n,x::r=>V.lvl n x&&V.cg n r
def V.jZ:Nat→List (List V)→Bool
 | _,[]=>true
 | n,x::r=>V.cg n x&&V.jZ n r
def V.oV:Nat→List (V×V)→Bool
 | _,[]=>true
 | n,(k,x)::r=>V.lvl n k&&V.lvl n x&&V.oV n r
end
mutual
def shut (m:Tb aP):Nat→SV→Option V
 | _,.v x=>some x
 | _,.own d=>match an m d with
  | some (.sl k es xs)=>some (lC k es xs)
  | _=>none
 | n+1,.ptr d o=>match an m d with
  | some (.box cs)=>match bQ m n cs with
   | some xs=>if o≤xs.length then some (.fptr (xs.drop o))else none
   | none=>none
  | _=>none
 | _,.mp d=>match an m d with
  | some (.mp kvs)=>some (.fmap kvs)
  | _=>none
 | n+1,.clo f a b=>match bQ m n a,bQ m n b with
  | some x,some y=>some (.clo f x y)
  | _,_=>none
 | n+1,.tup l=>(bQ m n l).map .tup
 | _,_=>none
def bQ (m:Tb aP):Nat→List SV→Option (List V)
 | _,[]=>some []
 | n,x::r=>match shut m n x,bQ m n r with
  | some y,some s=>some (y::s)
  | _,_=>none
end
end Go.VE
namespace Go.VE
variable [aW]
mutual
def V.good:V→Bool
 | .hsl ..|.hptr ..|.yld ..|.hmap ..=>false
 | .fsl _ xs=>V.kP xs
 | .fptr cs=>V.bF cs
 | .fmap kvs=>V.sY kvs
 | .clo _ a b=>V.bF a&&V.bF b
 | .agg cs=>V.bF cs
 | .tup cs=>V.bF cs
 | _=>true
def V.bF:List V→Bool
 | []=>true
 | x::r=>V.good x&&V.bF r
def V.kP:List (List V)→Bool
 | []=>true
 | x::r=>V.bF x&&V.kP r
def V.sY:List (V×V)→Bool
 | []=>true
 | (k,x)::r=>V.good k&&V.good x&&V.sY r
end
abbrev ga:=Tb aP
abbrev bD:=FuncId→List SV→ga→Option (List SV×ga)
def mT (N:Nat→FuncId) (g:Tb SV):Arg→Option SV
 | .s n=>an g n
 | .k c=>some (.v c)
 | .f s=>some (.v (.clo (N s) [] []))
def bh (N:Nat→FuncId) (g:Tb SV):List Arg→Option (List SV)
 | []=>some []
 | x::r=>match mT N g x,bh N g r with
  | some v,some vs=>some (v::vs)
  | _,_=>none
def bC:Fl→Bool
 | .row|.part=>true
 | _=>false
def w_ (N:Nat→FuncId) (m:Tb aP):rY→List SV→Option SV
 | .id,[x]=>some x
 | .nilc,[.ptr d o]=>if(an m d).isSome then some (.ptr d o)else none
 | .nilc,[.el d i o]=>if(an m d).isSome then some (.el d i o)else none
 | .pick,[.v (.bool t),a,b]=>some (if t then a else b)
 | .bin (some .slice) _ .eql,[.own d,.v .aF]=>match an m d with
  | some (.sl k _ _)=>if k=.emp then none else some (.v (.bool (k==.nil)))
  | _=>none
 | .bin (some .slice) _ .neq,[.own d,.v .aF]=>match an m d with
  | some (.sl k _ _)=>if k=.emp then none else some (.v (.bool (!(k==.nil))))
  | _=>none
 | .fieldAddr off,[.ptr d o]=>if(an m d).isSome then some (.ptr d (o+off))else none
 | .fieldAddr off,[.el d i o]=>if(an m d).isSome then some (.el d i (o+off))else none
 | .idxS size,[.own d,.v (.int _ i)]=>match an m d with
  | some (.sl k es xs)=>if bC k∧es=size∧0≤i∧i.toNat<xs.length then some (.el d i.toNat 0)else none
  | _=>none
 | .idxA len size,[.ptr d o,.v (.int _ i)]=>if 0≤i∧i<len∧(an m d).isSome then some (.ptr d (o+i.toNat*size))else none
 | .idxA len size,[.el d j o,.v (.int _ i)]=>if 0≤i∧i<len∧(an m d).isSome then some (.el d j (o+i.toNat*size))else none
 | .lenSl,[.own d]=>match an m d with
  | some (.sl _ _ xs)=>some (.v (.int .i64 xs.length))
  | _=>none
 | .clo name k,vs=>some (.clo (N name) (vs.take k) (vs.drop k))
 | .ext i,[.tup l]=>l[i]?
 | _,_=>none
def iK (N:Nat→FuncId) (m:Tb aP) (p:rY) (svs:List SV):Option SV:=
 match dc svs with
 | some xs=>(ay N p xs).map .v
 | none=>w_ N m p svs
def xq (size:Nat) (agg:Bool) (cs:List SV):Option SV:=
 if cs.length=size then
  if agg then(dc cs).map fun xs=>.v (.agg xs)
  else match cs with
   | [x]=>some x
   | _=>none
 else none
def mA (m:Tb aP):II→List SV→Option SV
 | .load size agg,[.ptr d o]=>match an m d with
  | some (.box cs)=>xq size agg ((cs.drop o).take size)
  | _=>none
 | .load size agg,[.el d i o]=>match an m d with
  | some (.sl _ _ xs)=>match xs[i]? with
   | some cs=>((cut cs o size).bind (mk agg)).map .v
   | none=>none
  | _=>none
 | .load size agg,[.v p]=>((cG [] p size).bind (mk agg)).map .v
 | .lookup kk z ok,[.mp d,.v k]=>match an m d with
  | some (.mp kvs)=>if mg kk k then match fc k kvs 0 with
   | some (some (_,v))=>some (.v (if ok then .tup [v,.bool true]else v))
   | some none=>some (.v (if ok then .tup [z,.bool false]else z))
   | none=>none
   else none
  | _=>none
 | .lookup kk z ok,[.v p,.v k]=>(dx [] (.lookup kk z ok) [p,k]).map .v
 | _,_=>none
def dR (fr:List Nat):List SV→Bool
 | []=>true
 | .v _::r=>dR fr r
 | .ptr d _::r => !(fr.contains d)&&dR fr r
 | .el d _ _::r => !(fr.contains d)&&dR fr r
 | .mp d::r => !(fr.contains d)&&dR fr r
 | _=>false
def rX (m:Tb aP):SV→Bool
 | .own d|.ptr d _|.el d _ _|.mp d=>(an m d).isSome
 | .clo ..=>true
 | _=>false
def mm (m:Tb aP) (a:Jc) (svs:List SV) (d:Nat):Option (aP×SV):=
 match a,svs with
 | .alloc _ zero,[]=>some (.box (zero.map .v),.ptr d 0)
 | .box,[.v x]=>if x.cells.all V.one then some (.box (x.cells.map .v),.ptr d 0)else none
 | .box,[x]=>if rX m x then some (.box [x],.ptr d 0)else none
 | .makeSl size zero,[.v (.int k n),.v (.int k' c)]=>
  if k=.i64∧k'=.i64∧0≤n∧n≤c∧c≤2147483648 then some (.sl (if n=c then .row else .part) size (List.replicate n.toNat zero),.own d)else none
 | .buildSl size len zero idx,vs=>match dc vs with
  | some xs=>if idx.length=xs.length then(eU size (List.replicate len zero) (idx.zip xs)).map fun ys=>(.sl .row size ys,.own d)else none
  | none=>none
 | .makeMap,[]=>some (.mp [],.mp d)
 | _,_=>none
def kO (m:Tb aP) (size:Nat):SV→Option (List (List V))
 | .own d=>match an m d with
  | some (.sl k es xs)=>if bC k then(if es=size then some xs else none)else some []
  | _=>none
 | .v .aF=>some []
 | .v .cC=>some []
 | .v (.fsl es xs)=>if es=size then some xs else none
 | _=>none
def AP:SV→Bool
 | .own _|.v .aF|.v .cC=>true
 | _=>false
def putCells (m:Tb aP) (size o:Nat) (sv:SV) (cs:List SV):Option (List SV):=
 match sv with
 | .v x=>if x.cells.length=size∧o+size≤cs.length∧x.cells.all V.one=true then some (cs.take o++x.cells.map .v++cs.drop (o+size))else none
 | x=>if rX m x=true∧size=1∧o+1≤cs.length then some (cs.take o++[x]++cs.drop (o+1))else none
def giveUp (m:Tb aP):SV→Tb aP
 | .own d=>dh d m
 | _=>m
def KF (m:Tb aP) (d:Nat):SV→Bool
 | .ptr d' _=>d' != d&&(match an m d' with|some (.box _)=>true|_=>false)
 | .v (.fptr _)=>true
 | _=>false
def lF (st:St) (dst:Option Nat):E9→List SV→Option (SV×St)
 | .store size,[.ptr d o,x]=>match an st.m d with
  | some (.box cs)=>(putCells st.m size o x cs).map fun cs=>(.v .undef,{ st with m:=aV st.m d (.box cs) })
  | _=>none
 | .store size,[.el d i o,.v x]=>match an st.m d with
  | some (.sl k es xs)=>match xs[i]? with
   | some cs=>if x.cells.length=size∧o+size≤cs.length∧x.cells.all V.one=true then
    some (.v .undef,{ st with m:=aV st.m d (.sl k es (xs.set i (cs.take o++x.cells++cs.drop (o+x.cells.length)))) })else none
   | none=>none
  | _=>none
 | .mapUp kk,[.mp d,.v k,.v x]=>match an st.m d with
  | some (.mp kvs)=>if mg kk k then(lY k x kvs).map fun kvs=>(.v .undef,{ st with m:=aV st.m d (.mp kvs) })else none
  | _=>none
 | .append size,[s,x]=>match kO st.m size s,kO st.m size x with
  | some _,some []=>match dst with
   | some t=>match s with
    | .own d=>match an st.m d with
     | some ob=>if St.new { st with m:=dh d st.m } t then some (.own t,{ st with m:=aV (dh d st.m) t ob })else none
     | none=>none
    | .v .aF=>if st.new t then some (.own t,{ st with m:=aV st.m t (.sl .nil size []) })else none
    | .v .cC=>if st.new t then some (.own t,{ st with m:=aV st.m t (.sl .emp size []) })else none
    | _=>none
   | none=>none
  | some xs,some ys=>
   if xs.length+ys.length≤2147483648∧AP s=true then
    let m1:=giveUp st.m s
    match dst with
    | some t=>if St.new { st with m:=m1 } t then some (.own t,{ st with m:=aV m1 t (.sl .row size (xs++ys)) })else none
    | none=>none
   else none
  | _,_=>none
 | .storeF size,.ptr d o::x::l=>if l.all (KF st.m d)=true then match an st.m d with
  | some (.box cs)=>(putCells st.m size o x cs).map fun cs=>(.v .undef,{ st with m:=aV st.m d (.box cs) })
  | _=>none
  else none
 | _,_=>none
def vM (st:St) (dst:Option Nat) (size:Nat) (lo hi:Bool) (d:Nat) (bs:List SV):Option (SV×St):=
 match an st.m d,dc bs,dst with
 | some (.sl k es xs),some ys,some t=>
  if bC k=true∧es=size then
   (jo lo hi ys).bind fun (l,h)=>(cE xs.length l h).bind fun (l,h)=>
    let m1:=dh d st.m
    if St.new { st with m:=m1 } t then some (.own t,{ st with m:=aV m1 t (.sl .part es ((xs.take h).drop l)) })else none
  else none
 | _,_,_=>none
def B5:List SV→SV
 | [x]=>x
 | l=>.tup l
def handed (m:Tb aP):List SV→Option ga
 | []=>some []
 | .v _::r=>handed m r
 | .own d::r=>match handed m r,an m d with
  | some os,some (.sl k es xs)=>some ((d,.sl k es xs)::os)
  | _,_=>none
 | .ptr d _::r=>match handed m r,an m d with
  | some os,some (.box cs)=>if(dc cs).isSome then some ((d,.box cs)::os)else none
  | _,_=>none
 | _=>none
def uv:aP→Bool
 | .box cs=>(dc cs).isSome
 | _=>true
def qf (m':ga):List Nat→Tb aP→Option (Tb aP)
 | [],m=>some m
 | d::r,m=>match an m' d with
  | some ob=>if uv ob then qf m' r (aV m d ob)else none
  | none=>none
def oO (xs:List (List V)):Bool:=xs.all fun x=>x.all V.scalar
def DU (q:EU) (dst:Option Nat) (args:List SV) (st:St):Option (SV×St):=
 match args with
 | .own d::vs=>match an st.m d,dc vs with
  | some (.sl k es xs),some ys=>match q.go es xs ys with
   | some zs=>if q.part then match dst with
    | some t=>if St.new { st with m:=dh d st.m } t then some (.own t,{ st with m:=aV (dh d st.m) t (if bC k then .sl .part es zs else .sl k es xs) })else none
    | none=>none
    else some (.v .undef,{ st with m:=aV st.m d (if bC k then .sl k es zs else .sl k es xs) })
   | none=>none
  | _,_=>none
 | _=>none
def hU (S:Sys) (c:bD) (dst:Option Nat) (dr now:Bool) (old:List SV→Bool) (f:FuncId) (args:List SV) (st:St):Option (SV×St):=
 if S.E.keep f then
  if now then
   if S.E.own f then
    match bQ st.m 8 args with
    | some az=>if V.cg 8 az then
     match c f (az.map .v) []with
     | some (rs,m')=>match dc rs with
      | some ys=>if(result ys).scalar then some (.v (result ys),st)else none
      | none=>match rs,dst with
       | .own e::rest,some t=>match an m' e,dc rest with
        | some (.sl .row es xs),some ys=>
         if V.bR ys&&oO xs&&st.new t then
          some (B5 (.own t::ys.map .v),{ st with m:=aV st.m t (.sl .row es xs) })
         else none
        | some (.sl .nil es _),some ys=>if V.bR ys&&st.new t then some (B5 (.own t::ys.map .v),{ st with m:=aV st.m t (.sl .nil es []) })else none
        | some (.sl .emp es _),some ys=>if V.bR ys&&st.new t then some (B5 (.own t::ys.map .v),{ st with m:=aV st.m t (.sl .emp es []) })else none
        | _,_=>none
       | _,_=>none
     | none=>none
     else none
    | none=>none
   else if dr then none else match S.prm f with
    | some q=>DU q dst args st
    | none=>match handed st.m args with
    | some os=>match c f args os with
     | some (rs,m')=>match dc rs,qf m' (os.map (·.1)) st.m with
      | some ys,some m2=>some (.v (result ys),{ st with m:=m2 })
      | _,_=>none
     | none=>none
    | none=>none
  else none
 else match bQ st.m 8 args with
  | some az=>if V.cg 8 az&&(now||old args)then
   match c f (az.map .v) []with
   | some (rs,m')=>match bQ m' 8 rs with
    | some ys=>if V.lvl 8 (result ys)&&((result ys).scalar||(dc args).isSome)then some (.v (result ys),st)else none
    | none=>none
   | none=>none
   else none
  | none=>none
def fR (m:Tb aP) (fr:List Nat) (args:List SV):Bool:=fr.all fun d => !(SV.cz d args) && !(oU d m)
def sW:K→Bool
 | .p (.build zero _)=>V.bF zero
 | .r (.lookup _ z _)=>z.good
 | .a (.alloc _ zero)=>V.bF zero&&zero.all V.one
 | .a (.makeSl _ zero)=>V.bF zero
 | .a (.buildSl _ _ zero _)=>V.bF zero
 | _=>true
def lB (S:Sys) (c:bD) (dr:Bool) (fr:List Nat) (o:RO) (st:St):Option (SV×St):=
 match bh S.N st.g o.az with
 | some svs=>match o.k with
  | .p (.slice size lo hi)=>match svs with
   | .own d::bs=>if dr then none else vM st o.dst size lo hi d bs
   | svs=>(iK S.N st.m (.slice size lo hi) svs).map fun x=>(x,st)
  | .p p=>(iK S.N st.m p svs).map fun x=>(x,st)
  | .r r=>if !dr||o.now||dR fr svs then(mA st.m r svs).map fun x=>(x,st)else none
  | .a a=>match o.dst with
   | some d=>if st.new d then(mm st.m a svs d).map fun (ob,x)=>(x,{ st with m:=aV st.m d ob })else none
   | none=>none
  | .l l=>if !dr||o.now then lF st o.dst l svs else none
  | .c=>match svs with
   | .clo f a b::vs=>hU S c o.dst dr (!dr||o.now) (fR st.m fr) f (a++vs++b) st
   | .v (.clo f a b)::vs=>hU S c o.dst dr (!dr||o.now) (fR st.m fr) f (a.map .v++vs++b.map .v) st
   | _=>none
 | none=>none
def cr (st:St) (dst:Option Nat) (x:SV):St:=
 match dst with
 | none=>st
 | some d=>{ st with g:=aV st.g d x }
def wanted (g:Tb SV):Option (Nat×Bool)→Option Bool
 | none=>some true
 | some (s,b)=>match an g s with
  | some (.v (.bool c))=>some (c==b)
  | some (.v _)=>some false
  | _=>none
def uP (o:RO):Option Nat:=
 match o.k with
 | .p _|.r _=>none
 | _=>o.dst
def nj (fr:List Nat) (o:RO):List Nat:=
 match uP o with
 | some d=>d::fr
 | none=>fr
end Go.VE
namespace Go.VE
variable [aW]
def ax (H:aq) (id:Nat):Option (Nat×List (List V)):=(H[id]?).bind Ob.rows
mutual
theorem V.iZ:∀{x:V},x.good=true→x.closed=true
 | .hsl ..,h|.hptr ..,h|.yld _,h|.hmap _,h=>by simp[V.good]at h
 | .fsl ..,_|.fptr ..,_|.fmap ..,_=>rfl
 | .bool _,_|.int ..,_|.str _,_|.cC,_|.aF,_|.eS,_|.ey,_|.oa,_=>rfl
 | .clo _ a b,h=>by
  simp only[V.good,ζh]at h;simp only[V.closed,ζh];exact⟨V.kn h.1,V.kn h.2⟩
 | .agg cs,h=>by simp only[V.good]at h;simp only[V.closed];exact V.kn h
 | .tup cs,h=>by simp only[V.good]at h;simp only[V.closed];exact V.kn h
theorem V.kn:∀{l:List V},V.bF l=true→V.iH l=true
 | [],_=>rfl
 | x::r,h=>by
  simp only[V.bF,ζh]at h;simp only[V.iH,ζh];exact⟨V.iZ h.1,V.kn h.2⟩
end
theorem gW:∀{l:List V},V.bF l=true↔∀(j:Nat) u,l[j]? = some u→u.good=true
 | []=>by simp[V.bF]
 | x::l=>by
  simp only[V.bF,ζh,gW (l:=l)];constructor
  ·rintro⟨h1,h2⟩ j u hu
   cases j with
   | zero=>simp at hu;subst hu;exact h1
   | succ j=>exact h2 j u (by simpa using hu)
  ·intro h;exact⟨h 0 x rfl,fun j u hu=>h (j+1) u (by simpa using hu)⟩
theorem jN:∀{l:List (List V)},V.kP l=true↔∀(j:Nat) u,l[j]? = some u→V.bF u=true
 | []=>by simp[V.kP]
 | x::l=>by
  simp only[V.kP,ζh,jN (l:=l)];constructor
  ·rintro⟨h1,h2⟩ j u hu
   cases j with
   | zero=>simp at hu;subst hu;exact h1
   | succ j=>exact h2 j u (by simpa using hu)
  ·intro h;exact⟨h 0 x rfl,fun j u hu=>h (j+1) u (by simpa using hu)⟩
theorem Bl:∀{l:List (V×V)},V.sY l=true↔∀(j:Nat) u,l[j]? = some u→u.1.good=true∧u.2.good=true
 | []=>by simp[V.sY]
 | (k,x)::l=>by
  simp only[V.sY,ζh,Bl (l:=l)];constructor
  ·rintro⟨h1,h2⟩ j u hu
   cases j with
   | zero=>simp at hu;subst hu;exact h1
   | succ j=>exact h2 j u (by simpa using hu)
  ·intro h;exact⟨h 0 (k,x) rfl,fun j u hu=>h (j+1) u (by simpa using hu)⟩
theorem vh {l:List V} (n:Nat) (h:V.bF l=true):V.bF (l.drop n)=true:=
 gW.2 fun j u hu=>gW.1 h (n+j) u (by rw[List.getElem?_drop]at hu;exact hu)
inductive FR (H:aq) (Z:Nat→Prop):V→V→Prop
 | same (x:V) (h:x.good=true):FR H Z x x
 | fsl (es:Nat) (xs:List (List V)) (id off:Nat) (ys:List (List V)) (hz:Z id) (hr:ax H id=some (es,ys)) (hl:off+xs.length≤ys.length)
  (hc:∀(i:Nat) a b,xs[i]? = some a→ys[off+i]? = some b→a.length=b.length)
  (hv:∀(i j:Nat) a b u v,xs[i]? = some a→ys[off+i]? = some b→a[j]? = some u→b[j]? = some v→FR H Z u v):FR H Z (.fsl es xs) (.hsl id es off xs.length)
 | fptr (xs:List V) (id el off es:Nat) (ys:List (List V)) (cs:List V) (hz:Z id) (hr:ax H id=some (es,ys)) (he:ys[el]? = some cs) (ho:off≤cs.length) (hx:xs.length=cs.length-off)
  (hv:∀(j:Nat) u v,xs[j]? = some u→cs[off+j]? = some v→FR H Z u v):FR H Z (.fptr xs) (.hptr id el off)
 | clo (f:FuncId) (a b a' b':List V) (ha:a.length=a'.length) (hb:b.length=b'.length) (hva:∀(j:Nat) u v,a[j]? = some u→a'[j]? = some v→FR H Z u v) (hvb:∀(j:Nat) u v,b[j]? = some u→b'[j]? = some v→FR H Z u v):FR H Z (.clo f a b) (.clo f a' b')
 | agg (a a':List V) (ha:a.length=a'.length) (hva:∀(j:Nat) u v,a[j]? = some u→a'[j]? = some v→FR H Z u v):FR H Z (.agg a) (.agg a')
 | tup (a a':List V) (ha:a.length=a'.length) (hva:∀(j:Nat) u v,a[j]? = some u→a'[j]? = some v→FR H Z u v):FR H Z (.tup a) (.tup a')
def b8 (H:aq) (Z:Nat→Prop) (xs ys:List V):Prop:=xs.length=ys.length∧∀(j:Nat) u v,xs[j]? = some u→ys[j]? = some v→FR H Z u v
def eA (H:aq) (Z:Nat→Prop) (xs ys:List (List V)):Prop:=xs.length=ys.length∧∀(j:Nat) u v,xs[j]? = some u→ys[j]? = some v→b8 H Z u v
section
variable {H H':aq} {Z Z':Nat→Prop}
theorem FR.mono (h:∀id,Z id→Z' id∧ax H' id=ax H id) {x y:V} (r:FR H Z x y):FR H' Z' x y:=by
 induction r with
 | same x h=>exact .same x h
 | fsl es xs id off ys hz hr hl hc hv ih=>exact .fsl es xs id off ys (h id hz).1 (by rw[(h id hz).2];exact hr) hl hc ih
 | fptr xs id el off es ys cs hz hr he ho hx hv ih=>exact .fptr xs id el off es ys cs (h id hz).1 (by rw[(h id hz).2];exact hr) he ho hx ih
 | clo f a b a' b' ha hb hva hvb iha ihb=>exact .clo f a b a' b' ha hb iha ihb
 | agg a a' ha hva iha=>exact .agg a a' ha iha
 | tup a a' ha hva iha=>exact .tup a a' ha iha
theorem b8.mono (h:∀id,Z id→Z' id∧ax H' id=ax H id) {x y:List V} (r:b8 H Z x y):b8 H' Z' x y:=⟨r.1,fun j u v a b=>(r.2 j u v a b).mono h⟩
theorem eA.mono (h:∀id,Z id→Z' id∧ax H' id=ax H id) {x y:List (List V)} (r:eA H Z x y):eA H' Z' x y:=⟨r.1,fun j u v a b=>(r.2 j u v a b).mono h⟩
theorem b8.nil:b8 H Z [] []:=⟨rfl,by simp⟩
theorem b8.cons {x y:V} {xs ys:List V} (h:FR H Z x y) (r:b8 H Z xs ys):b8 H Z (x::xs) (y::ys):=by
 refine⟨by simp[r.1],fun j u v hu hv=>?_⟩
 cases j with
 | zero=>simp at hu hv;subst hu;subst hv;exact h
 | succ j=>exact r.2 j u v (by simpa using hu) (by simpa using hv)
theorem b8.inv {x:V} {xs ws:List V} (r:b8 H Z (x::xs) ws):∃y ys,ws=y::ys∧FR H Z x y∧b8 H Z xs ys:=by
 cases ws with
 | nil=>have:=r.1;simp at this
 | cons y ys=>
  refine⟨y,ys,rfl,r.2 0 x y rfl rfl,by have:=r.1;simpa using this,fun j u v hu hv=>r.2 (j+1) u v (by simpa using hu) (by simpa using hv)⟩
theorem b8.b7 {ws:List V} (r:b8 H Z [] ws):ws=[]:=by
 have:=r.1;exact List.length_eq_zero_iff.1 this.symm
theorem b8.get {xs ys:List V} (r:b8 H Z xs ys) {j:Nat} {u:V} (h:xs[j]? = some u):∃v,ys[j]? = some v∧FR H Z u v:=by
 have hj:j<xs.length:=(ζe.1 h).1;have:j<ys.length:=by rw[←r.1];exact hj
 exact⟨ys[j],ζd this,r.2 j u _ h (ζd this)⟩
theorem eA.get {xs ys:List (List V)} (r:eA H Z xs ys) {j:Nat} {u:List V} (h:xs[j]? = some u):∃v,ys[j]? = some v∧b8 H Z u v:=by
 have hj:j<xs.length:=(ζe.1 h).1;have:j<ys.length:=by rw[←r.1];exact hj
 exact⟨ys[j],ζd this,r.2 j u _ h (ζd this)⟩
theorem b8.append {a b c d:List V} (h:b8 H Z a b) (k:b8 H Z c d):b8 H Z (a++c) (b++d):=by
 refine⟨by simp[h.1,k.1],fun j u v hu hv=>?_⟩
 by_cases hj:j<a.length
 ·rw[List.getElem?_append_left hj]at hu;rw[List.getElem?_append_left (by rw[←h.1];exact hj)]at hv
  exact h.2 j u v hu hv
 ·rw[List.getElem?_append_right (by omega)]at hu
  rw[List.getElem?_append_right (by rw[←h.1];omega),←h.1]at hv
  exact k.2 _ u v hu hv
theorem eA.append {a b c d:List (List V)} (h:eA H Z a b) (k:eA H Z c d):eA H Z (a++c) (b++d):=by
 refine⟨by simp[h.1,k.1],fun j u v hu hv=>?_⟩
 by_cases hj:j<a.length
 ·rw[List.getElem?_append_left hj]at hu;rw[List.getElem?_append_left (by rw[←h.1];exact hj)]at hv
  exact h.2 j u v hu hv
 ·rw[List.getElem?_append_right (by omega)]at hu
  rw[List.getElem?_append_right (by rw[←h.1];omega),←h.1]at hv
  exact k.2 _ u v hu hv
theorem b8.take {a b:List V} (h:b8 H Z a b) (n:Nat):b8 H Z (a.take n) (b.take n):=by
 refine⟨by simp[h.1],fun j u v hu hv=>?_⟩
 rw[List.getElem?_take]at hu hv;split at hu
 ·rename_i hj;rw[if_pos hj]at hv;exact h.2 j u v hu hv
 ·simp at hu
theorem b8.drop {a b:List V} (h:b8 H Z a b) (n:Nat):b8 H Z (a.drop n) (b.drop n):=by
 refine⟨by simp[h.1],fun j u v hu hv=>?_⟩
 rw[List.getElem?_drop]at hu hv;exact h.2 _ u v hu hv
theorem eA.take {a b:List (List V)} (h:eA H Z a b) (n:Nat):eA H Z (a.take n) (b.take n):=by
 refine⟨by simp[h.1],fun j u v hu hv=>?_⟩
 rw[List.getElem?_take]at hu hv;split at hu
 ·rename_i hj;rw[if_pos hj]at hv;exact h.2 j u v hu hv
 ·simp at hu
theorem eA.drop {a b:List (List V)} (h:eA H Z a b) (n:Nat):eA H Z (a.drop n) (b.drop n):=by
 refine⟨by simp[h.1],fun j u v hu hv=>?_⟩
 rw[List.getElem?_drop]at hu hv;exact h.2 _ u v hu hv
theorem b8.set {a b:List V} (h:b8 H Z a b) (n:Nat) {x y:V} (hx:FR H Z x y):b8 H Z (a.set n x) (b.set n y):=by
 refine⟨by simp[h.1],fun j u v hu hv=>?_⟩
 rw[List.getElem?_set]at hu hv;rw[←h.1]at hv;split at hu
 ·rename_i e;rw[if_pos e]at hv;split at hu
  ·rename_i e2;rw[if_pos e2]at hv;cases hu;cases hv;exact hx
  ·simp at hu
 ·rename_i e;rw[if_neg e]at hv;exact h.2 j u v hu hv
theorem eA.set {a b:List (List V)} (h:eA H Z a b) (n:Nat) {x y:List V} (hx:b8 H Z x y):eA H Z (a.set n x) (b.set n y):=by
 refine⟨by simp[h.1],fun j u v hu hv=>?_⟩
 rw[List.getElem?_set]at hu hv;rw[←h.1]at hv;split at hu
 ·rename_i e;rw[if_pos e]at hv;split at hu
  ·rename_i e2;rw[if_pos e2]at hv;cases hu;cases hv;exact hx
  ·simp at hu
 ·rename_i e;rw[if_neg e]at hv;exact h.2 j u v hu hv
theorem b8.same {l:List V} (h:V.bF l=true):b8 H Z l l:=
 ⟨rfl,fun j u v hu hv=>by rw[hu]at hv;cases hv;exact .same u (gW.1 h j u hu)⟩
theorem FR.good {x y:V} (r:FR H Z x y):x.good=true:=by
 induction r with
 | same x h=>exact h
 | fsl es xs id off ys hz hr hl hc hv ih=>
  simp only[V.good];refine jN.2 fun i a ha=>gW.2 fun j u hu=>?_
  have hi:i<xs.length:=(ζe.1 ha).1;have hb:ys[off+i]? = some ys[off+i]:=ζd (by omega)
  have hj:j<(ys[off+i]).length:=by rw[←hc i a _ ha hb];exact(ζe.1 hu).1
  exact ih i j a _ u _ ha hb hu (ζd hj)
 | fptr xs id el off es ys cs hz hr he ho hx hv ih=>
  simp only[V.good];refine gW.2 fun j u hu=>?_
  have hj:j<xs.length:=(ζe.1 hu).1;exact ih j u _ hu (ζd (by omega))
 | clo f a b a' b' ha hb hva hvb iha ihb=>
  simp only[V.good,ζh];refine⟨gW.2 fun j u hu=>?_,gW.2 fun j u hu=>?_⟩
  ·have:j<a'.length:=by rw[←ha];exact(ζe.1 hu).1
   exact iha j u _ hu (ζd this)
  ·have:j<b'.length:=by rw[←hb];exact(ζe.1 hu).1
   exact ihb j u _ hu (ζd this)
 | agg a a' ha hva iha=>
  simp only[V.good];refine gW.2 fun j u hu=>?_
  have:j<a'.length:=by rw[←ha];exact(ζe.1 hu).1
  exact iha j u _ hu (ζd this)
 | tup a a' ha hva iha=>
  simp only[V.good];refine gW.2 fun j u hu=>?_
  have:j<a'.length:=by rw[←ha];exact(ζe.1 hu).1
  exact iha j u _ hu (ζd this)
theorem FR.closed {x y:V} (r:FR H Z x y):x.closed=true:=V.iZ r.good
theorem b8.good {xs ys:List V} (r:b8 H Z xs ys):V.bF xs=true:=
 gW.2 fun j u hu=>by obtain⟨v,_,h⟩:=r.get hu;exact h.good
theorem eA.good {xs ys:List (List V)} (r:eA H Z xs ys):V.kP xs=true:=
 jN.2 fun j u hu=>by obtain⟨v,_,h⟩:=r.get hu;exact h.good
theorem FR.bool {b:Bool} {y:V} (r:FR H Z (.bool b) y):y=.bool b:=by cases r;rfl
theorem FR.int {k:IntKind} {n:Int} {y:V} (r:FR H Z (.int k n) y):y=.int k n:=by cases r;rfl
theorem FR.str {s:ByteArray} {y:V} (r:FR H Z (.str s) y):y=.str s:=by cases r;rfl
theorem FR.cC {y:V} (r:FR H Z .cC y):y=.cC:=by cases r;rfl
theorem FR.aF {y:V} (r:FR H Z .aF y):y=.aF:=by cases r;rfl
theorem FR.eS {y:V} (r:FR H Z .eS y):y=.eS:=by cases r;rfl
theorem FR.ey {y:V} (r:FR H Z .ey y):y=.ey:=by cases r;rfl
theorem FR.oa {y:V} (r:FR H Z .oa y):y=.oa:=by cases r;rfl
theorem FR.fmap {kvs:List (V×V)} {y:V} (r:FR H Z (.fmap kvs) y):y=.fmap kvs:=by cases r;rfl
theorem FR.jC {a:List V} {y:V} (r:FR H Z (.agg a) y):∃a',y=.agg a'∧b8 H Z a a':=by
 cases r with
 | same _ h=>exact⟨a,rfl,.same (by simpa [V.good]using h)⟩
 | agg _ a' ha hva=>exact⟨a',rfl,ha,hva⟩
theorem FR.mI {a:List V} {y:V} (r:FR H Z (.tup a) y):∃a',y=.tup a'∧b8 H Z a a':=by
 cases r with
 | same _ h=>exact⟨a,rfl,.same (by simpa [V.good]using h)⟩
 | tup _ a' ha hva=>exact⟨a',rfl,ha,hva⟩
theorem FR.iL {f:FuncId} {a b:List V} {y:V} (r:FR H Z (.clo f a b) y):∃a' b',y=.clo f a' b'∧b8 H Z a a'∧b8 H Z b b':=by
 cases r with
 | same _ h=>
  simp only[V.good,ζh]at h;exact⟨a,b,rfl,.same h.1,.same h.2⟩
 | clo _ _ _ a' b' ha hb hva hvb=>exact⟨a',b',rfl,⟨ha,hva⟩,⟨hb,hvb⟩⟩
theorem FR.je {es:Nat} {xs:List (List V)} {y:V} (r:FR H Z (.fsl es xs) y):y=.fsl es xs ∨
 ∃id off ys,y=.hsl id es off xs.length∧Z id∧ax H id=some (es,ys)∧off+xs.length≤ys.length∧eA H Z xs ((ys.drop off).take xs.length):=by
 cases r with
 | same _ h=>exact .inl rfl
 | fsl _ _ id off ys hz hr hl hc hv=>
  refine .inr ⟨id,off,ys,rfl,hz,hr,hl,by simp;omega,fun j u v hu hv'=>?_⟩
  have hj:j<xs.length:=(ζe.1 hu).1;rw[List.getElem?_take,if_pos hj,List.getElem?_drop]at hv';exact⟨hc j u v hu hv',fun i s t hs ht=>hv j i u v s t hu hv' hs ht⟩
theorem FR.GM {es:Nat} {xs:List (List V)} {id off:Nat} {ys:List (List V)} (hz:Z id) (hr:ax H id=some (es,ys)) (hl:off+xs.length≤ys.length) (h:eA H Z xs ((ys.drop off).take xs.length)) :
 FR H Z (.fsl es xs) (.hsl id es off xs.length):=by
 have key:∀(i:Nat) a b,xs[i]? = some a→ys[off+i]? = some b→b8 H Z a b:=fun i a b ha hb=>by
  have hj:i<xs.length:=(ζe.1 ha).1;refine h.2 i a b ha ?_;rw[List.getElem?_take,if_pos hj,List.getElem?_drop];exact hb
 exact .fsl es xs id off ys hz hr hl (fun i a b ha hb=>(key i a b ha hb).1) (fun i j a b u v ha hb hu hv=>(key i a b ha hb).2 j u v hu hv)
theorem FR.jk {xs:List V} {y:V} (r:FR H Z (.fptr xs) y):y=.fptr xs ∨
 ∃id el off es ys cs,y=.hptr id el off∧Z id∧ax H id=some (es,ys)∧ys[el]? = some cs∧off≤cs.length∧b8 H Z xs (cs.drop off):=by
 cases r with
 | same _ h=>exact .inl rfl
 | fptr _ id el off es ys cs hz hr he ho hx hv=>
  refine .inr ⟨id,el,off,es,ys,cs,rfl,hz,hr,he,ho,by simp[hx],fun j u v hu hv'=>?_⟩
  rw[List.getElem?_drop]at hv';exact hv j u v hu hv'
theorem FR.zo {xs:List V} {id el off es:Nat} {ys:List (List V)} {cs:List V} (hz:Z id) (hr:ax H id=some (es,ys)) (he:ys[el]? = some cs) (ho:off≤cs.length) (h:b8 H Z xs (cs.drop off)):FR H Z (.fptr xs) (.hptr id el off):=
 .fptr xs id el off es ys cs hz hr he ho (by have:=h.1;simpa using this) (fun j u v hu hv=>h.2 j u v hu (by rw[List.getElem?_drop];exact hv))
theorem FR.cells {x y:V} (r:FR H Z x y):b8 H Z x.cells y.cells:=by
 have one:∀{a b:V},FR H Z a b→b8 H Z [a] [b]:=fun h=>.cons h .nil
 cases r with
 | same _ h=>cases x <;> first|exact one (.same _ h)|(simp only[V.good]at h;exact b8.same h)
 | fsl es xs id off ys hz hr hl hc hv=>exact one (.fsl es xs id off ys hz hr hl hc hv)
 | fptr xs id el off es ys cs hz hr he ho hx hv=>exact one (.fptr xs id el off es ys cs hz hr he ho hx hv)
 | clo f a b a' b' ha hb hva hvb=>exact one (.clo f a b a' b' ha hb hva hvb)
 | agg a a' ha hva=>exact⟨ha,hva⟩
 | tup a a' ha hva=>exact one (.tup a a' ha hva)
theorem FR.one {x y:V} (r:FR H Z x y):y.one=x.one:=by cases r <;> rfl
theorem b8.one:∀{xs ys:List V},b8 H Z xs ys→ys.all V.one=xs.all V.one
 | [],ys,r=>by rw[r.b7]
 | x::xs,ws,r=>by
  obtain⟨y,ys,rfl,h,r'⟩:=r.inv;simp only[List.all_cons,h.one,r'.one]
theorem ni:∀{l:List V},V.bR l=true↔∀(j:Nat) u,l[j]? = some u→u.scalar=true
 | []=>by simp[V.bR]
 | x::l=>by
  simp only[V.bR,ζh,ni (l:=l)];constructor
  ·rintro⟨h1,h2⟩ j u hu
   cases j with
   | zero=>simp at hu;subst hu;exact h1
   | succ j=>exact h2 j u (by simpa using hu)
  ·intro h;exact⟨h 0 x rfl,fun j u hu=>h (j+1) u (by simpa using hu)⟩
theorem FR.scalar {x y:V} (r:FR H Z x y):(x.scalar=true→y=x)∧y.scalar=x.scalar:=by
 have key:∀(a a':List V),a.length=a'.length→(∀(j:Nat) u v,a[j]? = some u→a'[j]? = some v→(u.scalar=true→v=u)∧v.scalar=u.scalar)→(V.bR a=true→a'=a)∧V.bR a'=V.bR a:=by
  intro a a' ha ih;have h1:V.bR a=true→a'=a:=by
   intro hs;refine(List.ext_getElem ha fun j h1 h2=>?_).symm
   exact(((ih j _ _ (ζd h1) (ζd h2)).1 (ni.1 hs j _ (ζd h1)))).symm
  refine⟨h1,?_⟩
  cases hs:V.bR a with
  | true=>rw[h1 hs];exact hs
  | false=>
   cases hs':V.bR a' with
   | false=>rfl
   | true=>
    have:V.bR a=true:=ni.2 fun j u hu=>by
     have hj:j<a'.length:=by rw[←ha];exact(ζe.1 hu).1
     have:=(ih j u _ hu (ζd hj)).2;rw[←this];exact ni.1 hs' j _ (ζd hj)
    rw[this]at hs;cases hs
 induction r with
 | same x h=>exact⟨fun _=>rfl,rfl⟩
 | fsl=>exact⟨fun h=>by simp[V.scalar]at h,rfl⟩
 | fptr=>exact⟨fun h=>by simp[V.scalar]at h,rfl⟩
 | clo=>exact⟨fun h=>by simp[V.scalar]at h,rfl⟩
 | agg a a' ha hva iha=>
  obtain⟨h1,h2⟩:=key a a' ha iha;exact⟨fun h=>by rw[h1 (by simpa [V.scalar]using h)],by simpa [V.scalar]using h2⟩
 | tup a a' ha hva iha=>
  obtain⟨h1,h2⟩:=key a a' ha iha;exact⟨fun h=>by rw[h1 (by simpa [V.scalar]using h)],by simpa [V.scalar]using h2⟩
theorem b8.scalar {a a':List V} (r:b8 H Z a a'):(V.bR a=true→a'=a)∧V.bR a'=V.bR a:=by
 obtain⟨h1,h2⟩:=FR.scalar (.tup a a' r.1 r.2:FR H Z (.tup a) (.tup a'));simp only[V.scalar]at h1 h2;exact⟨fun h=>by have:=h1 h;cases this;rfl,h2⟩
theorem nF:∀{l:List V} {a:List Int},gJ l=some a→V.bR l=true
 | [],_,_=>rfl
 | x::l,a,h=>by
  unfold gJ at h;split at h
  ·rename_i e;cases e
  ·rename_i n r e;cases e;obtain⟨b,hb,_⟩:=ζf.1 h;simp only[V.bR,V.scalar,Bool.true_and];exact nF hb
  ·simp at h
end
end Go.VE
namespace Go.VE
variable [aW]
section
variable {H H':aq} {Z Z':Nat→Prop}
theorem iN {f:V→Option V}:∀{xs ys:List V},xs.length=ys.length→(∀(j:Nat) u v,xs[j]? = some u→ys[j]? = some v→f v=some u)→iP f ys=some xs
 | [],[],_,_=>rfl
 | [],y::ys,h,_=>by simp at h
 | x::xs,[],h,_=>by simp at h
 | x::xs,y::ys,h,hf=>by
  simp only[iP,hf 0 x y rfl rfl,iN (xs:=xs) (ys:=ys) (by simpa using h) fun j u v hu hv=>hf (j+1) u v (by simpa using hu) (by simpa using hv)]
theorem Dq {f:V→Option V}:∀{xs ys:List (List V)},xs.length=ys.length→(∀(j:Nat) u v,xs[j]? = some u→ys[j]? = some v→iP f v=some u)→qp f ys=some xs
 | [],[],_,_=>rfl
 | [],y::ys,h,_=>by simp at h
 | x::xs,[],h,_=>by simp at h
 | x::xs,y::ys,h,hf=>by
  simp only[qp,hf 0 x y rfl rfl,Dq (xs:=xs) (ys:=ys) (by simpa using h) fun j u v hu hv=>hf (j+1) u v (by simpa using hu) (by simpa using hv)]
theorem kX:∀{l:List V},V.iH l=true↔∀(j:Nat) u,l[j]? = some u→u.closed=true
 | []=>by simp[V.iH]
 | x::l=>by
  simp only[V.iH,ζh,kX (l:=l)];constructor
  ·rintro⟨h1,h2⟩ j u hu
   cases j with
   | zero=>simp at hu;subst hu;exact h1
   | succ j=>exact h2 j u (by simpa using hu)
  ·intro h;exact⟨h 0 x rfl,fun j u hu=>h (j+1) u (by simpa using hu)⟩
theorem kM:∀{l:List V} {n:Nat},V.cg n l=true↔∀(j:Nat) u,l[j]? = some u→u.lvl n=true
 | [],n=>by simp[V.cg]
 | x::l,n=>by
  simp only[V.cg,ζh,kM (l:=l)];constructor
  ·rintro⟨h1,h2⟩ j u hu
   cases j with
   | zero=>simp at hu;subst hu;exact h1
   | succ j=>exact h2 j u (by simpa using hu)
  ·intro h;exact⟨h 0 x rfl,fun j u hu=>h (j+1) u (by simpa using hu)⟩
theorem BH:∀{l:List (List V)} {n:Nat},V.jZ n l=true↔∀(j:Nat) u,l[j]? = some u→V.cg n u=true
 | [],n=>by simp[V.jZ]
 | x::l,n=>by
  simp only[V.jZ,ζh,BH (l:=l)];constructor
  ·rintro⟨h1,h2⟩ j u hu
   cases j with
   | zero=>simp at hu;subst hu;exact h1
   | succ j=>exact h2 j u (by simpa using hu)
  ·intro h;exact⟨h 0 x rfl,fun j u hu=>h (j+1) u (by simpa using hu)⟩
theorem c7 (n:Nat) (H:aq) {x:V} (h:x.closed=true):borrow n H x=some x:=by
 cases n <;> simp[borrow,h]
theorem FR.borrow {x y:V} (r:FR H Z x y):∀n,x.lvl n=true→borrow n H y=some x:=by
 induction r with
 | same x h=>exact fun n _=>c7 n H (V.iZ h)
 | fsl es xs id off ys hz hr hl hc hv ih=>
  intro n hn
  cases n with
  | zero=>simp[V.lvl]at hn
  | succ n=>
   simp only[V.lvl]at hn;unfold Go.VE.borrow;unfold ax at hr;simp only[V.closed,Bool.false_eq_true,if_false,hr,true_and,if_pos hl,ζf,V.fsl.injEq];refine⟨xs,Dq (by simp;omega) fun j u v hu hv'=>?_,rfl⟩
   have hj:j<xs.length:=(ζe.1 hu).1;rw[List.getElem?_take,if_pos hj,List.getElem?_drop]at hv';refine iN (hc j u v hu hv') fun i s t hs ht=>ih j i u v s t hu hv' hs ht n (kM.1 (BH.1 hn j u hu) i s hs)
 | fptr xs id el off es ys cs hz hr he ho hx hv ih=>
  intro n hn
  cases n with
  | zero=>simp[V.lvl]at hn
  | succ n=>
   simp only[V.lvl]at hn;unfold Go.VE.borrow;unfold ax at hr;simp only[V.closed,Bool.false_eq_true,if_false,hr,he,if_pos ho,ζf,V.fptr.injEq];refine⟨xs,iN (by simp[hx]) fun j u v hu hv'=>?_,rfl⟩
   rw[List.getElem?_drop]at hv';exact ih j u v hu hv' n (kM.1 hn j u hu)
 | clo f a b a' b' ha hb hva hvb iha ihb=>
  intro n hn
  cases n with
  | zero=>simp[V.lvl]at hn
  | succ n=>
   simp only[V.lvl,ζh]at hn
   by_cases hcl:(V.clo f a' b').closed=true
   ·rw[c7 _ _ hcl];simp only[V.closed,ζh]at hcl;have e1:a'=a:=by
     have:=iN (f:=Go.VE.borrow n H) ha fun j u v hu hv=>iha j u v hu hv n (kM.1 hn.1 j u hu)
     have h2:=iN (f:=Go.VE.borrow n H) (xs:=a') (ys:=a') rfl fun j u v hu hv=>by rw[hu]at hv;cases hv;exact c7 n H (kX.1 hcl.1 j u hu)
     rw[this]at h2;cases h2;rfl
    have e2:b'=b:=by
     have:=iN (f:=Go.VE.borrow n H) hb fun j u v hu hv=>ihb j u v hu hv n (kM.1 hn.2 j u hu)
     have h2:=iN (f:=Go.VE.borrow n H) (xs:=b') (ys:=b') rfl fun j u v hu hv=>by rw[hu]at hv;cases hv;exact c7 n H (kX.1 hcl.2 j u hu)
     rw[this]at h2;cases h2;rfl
    rw[e1,e2]
   ·unfold Go.VE.borrow;rw[if_neg hcl];simp only[iN (f:=Go.VE.borrow n H) ha fun j u v hu hv=>iha j u v hu hv n (kM.1 hn.1 j u hu),
     iN (f:=Go.VE.borrow n H) hb fun j u v hu hv=>ihb j u v hu hv n (kM.1 hn.2 j u hu)]
 | agg a a' ha hva iha=>
  intro n hn
  cases n with
  | zero=>simp[V.lvl]at hn
  | succ n=>
   simp only[V.lvl]at hn;have hm:=iN (f:=Go.VE.borrow n H) ha fun j u v hu hv=>iha j u v hu hv n (kM.1 hn j u hu)
   by_cases hcl:(V.agg a').closed=true
   ·rw[c7 _ _ hcl];simp only[V.closed]at hcl;have h2:=iN (f:=Go.VE.borrow n H) (xs:=a') (ys:=a') rfl fun j u v hu hv=>by rw[hu]at hv;cases hv;exact c7 n H (kX.1 hcl j u hu)
    rw[hm]at h2;cases h2;rfl
   ·unfold Go.VE.borrow;rw[if_neg hcl];simp only[hm,Option.map_some]
 | tup a a' ha hva iha=>
  intro n hn
  cases n with
  | zero=>simp[V.lvl]at hn
  | succ n=>
   simp only[V.lvl]at hn;have hm:=iN (f:=Go.VE.borrow n H) ha fun j u v hu hv=>iha j u v hu hv n (kM.1 hn j u hu)
   by_cases hcl:(V.tup a').closed=true
   ·rw[c7 _ _ hcl];simp only[V.closed]at hcl;have h2:=iN (f:=Go.VE.borrow n H) (xs:=a') (ys:=a') rfl fun j u v hu hv=>by rw[hu]at hv;cases hv;exact c7 n H (kX.1 hcl j u hu)
    rw[hm]at h2;cases h2;rfl
   ·unfold Go.VE.borrow;rw[if_neg hcl];simp only[hm,Option.map_some]
theorem qM {f:V→List Nat} {k:Nat}:∀{l:List V},k∈cK f l→∃(j:Nat) (u:V),l[j]? = some u∧k∈f u
 | [],h=>by simp[cK]at h
 | x::l,h=>by
  simp only[cK,List.mem_append]at h;rcases h with h|h
  ·exact⟨0,x,rfl,h⟩
  ·obtain⟨j,u,hu,hk⟩:=qM h;exact⟨j+1,u,by simpa using hu,hk⟩
structure Deep (H:aq) (Z:Nat→Prop):Prop where
 row:∀id es ys,Z id→ax H id=some (es,ys)→∀c∈ys,∀u∈c,∃x,FR H Z x u
theorem FR.bS (hd:Deep H Z):∀(n:Nat) {x y:V},FR H Z x y→∀k∈bS n H y,Z k
 | 0,x,y,r,k,hk=>by simp[Go.VE.bS]at hk
 | n+1,x,y,r,k,hk=>by
  unfold Go.VE.bS at hk;split at hk
  ·simp at hk
  ·rename_i hcl;have pt:∀(a a':List V),b8 H Z a a'→k∈cK (Go.VE.bS n H) a'→Z k:=fun a a' h hk=>by
    obtain⟨j,u,hu,hku⟩:=qM hk;have hj:j<a.length:=by rw[h.1];exact(ζe.1 hu).1
    exact FR.bS hd n (h.2 j _ u (ζd hj) hu) k hku
   have row:∀(id:Nat),Z id→k∈(match (H[id]?).bind Ob.rows with|some (_,xs)=>cK (Go.VE.bS n H) xs.flatten|none=>[])→Z k:=fun id hz hk=>by
    split at hk
    ·rename_i es ys hr;obtain⟨j,u,hu,hku⟩:=qM hk;have hm:u∈ys.flatten:=List.mem_of_getElem? hu;obtain⟨c,hc,huc⟩:=List.mem_flatten.1 hm;obtain⟨x,hx⟩:=hd.row id es ys hz hr c hc u huc;exact FR.bS hd n hx k hku
    ·simp at hk
   cases r with
   | same _ h=>exact absurd (V.iZ h) hcl
   | fsl es xs id off ys hz hr hl hc hv=>
    simp only[List.mem_cons]at hk;rcases hk with rfl|hk
    ·exact hz
    ·exact row id hz hk
   | fptr xs id el off es ys cs hz hr he ho hx hv=>
    simp only[List.mem_cons]at hk;rcases hk with rfl|hk
    ·exact hz
    ·exact row id hz hk
   | clo f a b a' b' ha hb hva hvb=>
    simp only[List.mem_append]at hk;rcases hk with hk|hk
    ·exact pt a a' ⟨ha,hva⟩ hk
    ·exact pt b b' ⟨hb,hvb⟩ hk
   | agg a a' ha hva=>exact pt a a' ⟨ha,hva⟩ hk
   | tup a a' ha hva=>exact pt a a' ⟨ha,hva⟩ hk
theorem b8.cut {cs ys r:List V} {off n:Nat} (h:b8 H Z cs ys) (hc:cut cs off n=some r):∃r',Go.VE.cut ys off n=some r'∧b8 H Z r r':=by
 unfold Go.VE.cut at hc ⊢;have h2:=(h.drop off).take n;dsimp only at hc ⊢;split at hc
 ·rename_i e;simp only[ζa]at hc;subst hc;exact⟨_,by rw[if_pos (by rw[←h2.1];exact e)],h2⟩
 ·simp at hc
theorem b8.mk {agg:Bool} {cs ys:List V} {x:V} (h:b8 H Z cs ys) (hm:mk agg cs=some x):∃y,Go.VE.mk agg ys=some y∧FR H Z x y:=by
 unfold Go.VE.mk at hm ⊢;split at hm
 ·rename_i e;simp only[ζa]at hm;subst hm;exact⟨_,by rw[if_pos e],.agg _ _ h.1 h.2⟩
 ·rename_i e;split at hm
  ·simp only[ζa]at hm;subst hm;obtain⟨y,ys,rfl,h1,h2⟩:=h.inv;rw[h2.b7];exact⟨y,by rw[if_neg e],h1⟩
  ·simp at hm
theorem b8.fill:∀{pl:List (Nat×Nat)} {vs ws cells cells' r:List V},b8 H Z cells cells'→b8 H Z vs ws→oZ cells pl vs=some r→∃r',oZ cells' pl ws=some r'∧b8 H Z r r'
 | [],vs,ws,cells,cells',r,hc,hv,h=>by
  cases vs with
  | nil=>rw[hv.b7];simp only[oZ,ζa]at h ⊢;subst h;exact⟨_,rfl,hc⟩
  | cons v vs=>simp[oZ]at h
 | (off,size)::pl,vs,ws,cells,cells',r,hc,hv,h=>by
  cases vs with
  | nil=>simp[oZ]at h
  | cons v vs=>
   obtain⟨w,ws,rfl,h1,h2⟩:=hv.inv;have k:=h1.cells;simp only[oZ]at h ⊢;rw[←k.1,←hc.1];split at h
   ·simp at h
   ·rename_i e;rw[if_neg e];exact b8.fill (((hc.take off).append k).append (hc.drop _)) h2 h
theorem FR.qL {k:KT} {x y x' y':V} {b:Bool} (hx:FR H Z x x') (hy:FR H Z y y') (h:lp k x y=some b):lp k x' y'=some b:=by
 unfold lp at h;split at h
 ·rw[hx.aF,hy.aF];exact h
 ·rw[hy.aF];rcases hx.je with rfl|⟨_,_,_,rfl,_⟩ <;> exact h
 ·exact absurd hx.closed (by simp[V.closed])
 ·rw[hx.eS,hy.eS];exact h
 ·rw[hy.eS];rcases hx.jk with rfl|⟨_,_,_,_,_,_,rfl,_⟩ <;> exact h
 ·exact absurd hx.closed (by simp[V.closed])
 ·rw[hx.ey,hy.ey];exact h
 ·rw[hy.ey,hx.fmap];exact h
 ·exact absurd hx.closed (by simp[V.closed])
 ·simp at h
theorem FR.js {a b a' b':List V} {r:Bool} (ha:b8 H Z a a') (hb:b8 H Z b b') (h:js a b=some r):Go.VE.js a' b'=some r:=by
 unfold Go.VE.js at h;split at h
 ·rename_i u v hu hv;rw[ha.scalar.1 (nF hu),hb.scalar.1 (nF hv)];unfold Go.VE.js;rw[hu,hv];exact h
 ·simp at h
theorem wD {k:KT} {x y:V} {b:Bool} (h:lp k x y=some b):(y=.aF∧(x=.aF∨(∃es xs,x=.fsl es xs)∨∃id es off len,x=.hsl id es off len)) ∨
 (y=.eS∧(x=.eS∨(∃cs,x=.fptr cs)∨∃id el off,x=.hptr id el off))∨(y=.ey∧(x=.ey∨(∃kvs,x=.fmap kvs)∨∃id,x=.hmap id)):=by
 unfold lp at h
 (repeat' split at h) <;> first|(simp;done)|simp at h
theorem CP {k:Option KT} {e:Option Nat} {op:BinOp} {x y:V} (hs:(y=.aF∧(x=.aF∨(∃es xs,x=.fsl es xs)∨∃id es off len,x=.hsl id es off len)) ∨
 (y=.eS∧(x=.eS∨(∃cs,x=.fptr cs)∨∃id el off,x=.hptr id el off))∨(y=.ey∧(x=.ey∨(∃kvs,x=.fmap kvs)∨∃id,x=.hmap id))) :
 gL k e op x y=(match k,op with
 | some k,.eql=>(lp k x y).map .bool
 | some k,.neq=>(lp k x y).map fun t=>.bool !t
 | _,_=>none):=by
 rcases hs with⟨rfl,rfl|⟨_,_,rfl⟩|⟨_,_,_,_,rfl⟩⟩|⟨rfl,rfl|⟨_,rfl⟩|⟨_,_,_,rfl⟩⟩|⟨rfl,rfl|⟨_,rfl⟩|⟨_,rfl⟩⟩ <;> cases k <;> cases op <;> rfl
theorem El {k:Option KT} {e:Option Nat} {op:BinOp} {x y z:V} (h:gL k e op x y=some z):z.good=true:=by
 have hb:∀{o:Option Bool} {z:V},o.map V.bool=some z→z.good=true:=fun h=>by obtain⟨_,_,rfl⟩:=ζf.1 h;rfl
 have hb':∀{o:Option Bool} {z:V},(o.map fun t=>V.bool !t)=some z→z.good=true:=fun h=>by obtain⟨_,_,rfl⟩:=ζf.1 h;rfl
 unfold gL at h
 (repeat' split at h) <;> first|(simp only[ζa]at h;subst h;rfl)|exact hb h|exact hb' h|simp at h
theorem FR.bin {k:Option KT} {e:Option Nat} {op:BinOp} {x y x' y' z:V} (hx:FR H Z x x') (hy:FR H Z y y') (h:gL k e op x y=some z):gL k e op x' y'=some z:=by
 have h0:=h;unfold gL at h;split at h
 ·rw[hx.int,hy.int];exact h0
 ·rw[hx.str,hy.str];exact h0
 ·rw[hx.bool,hy.bool];exact h0
 ·obtain⟨a',rfl,ha⟩:=hx.jC;obtain⟨b',rfl,hb⟩:=hy.jC;split at h
  ·split at h
   ·rename_i hl;obtain⟨r,hr,rfl⟩:=ζf.1 h;simp only[gL,←ha.1,hl,if_true,FR.js ha hb hr,Option.map_some]
   ·simp at h
  ·split at h
   ·rename_i hl;obtain⟨r,hr,rfl⟩:=ζf.1 h;simp only[gL,←ha.1,hl,if_true,FR.js ha hb hr,Option.map_some]
   ·simp at h
  ·simp at h
 ·split at h
  ·obtain⟨r,hr,rfl⟩:=ζf.1 h;have hr':=FR.qL hx hy hr;rw[CP (wD hr')];dsimp only;rw[hr'];rfl
  ·obtain⟨r,hr,rfl⟩:=ζf.1 h;have hr':=FR.qL hx hy hr;rw[CP (wD hr')];dsimp only;rw[hr'];rfl
  ·simp at h
theorem FR.slice {size:Nat} {x x' z:V} {l h:Option Int} (hx:FR H Z x x') (hs:fL size x l h=some z):∃z',fL size x' l h=some z'∧FR H Z z z':=by
 have hbd:∀{n lo hi:Nat},cE n l h=some (lo,hi)→hi≤n∧lo≤hi:=by
  intro n lo hi e;unfold cE at e;dsimp only at e;split at e
  ·rename_i hc;simp only[ζa,ζc]at e;omega
  ·simp at e
 unfold fL at hs;split at hs
 ·rename_i es xs;split at hs
  ·rename_i he;obtain⟨⟨lo,hi⟩,hb,rfl⟩:=ζf.1 hs;obtain⟨b1,b2⟩:=hbd hb;rcases hx.je with rfl|⟨id,off,ys,rfl,hz,hr,hl,hf⟩
   ·refine⟨_,by simp only[fL,if_pos he,hb,Option.map_some],.same _ ?_⟩
    have hg:=hx.good;simp only[V.good]at hg ⊢;refine jN.2 fun j u hu=>?_
    rw[List.getElem?_drop,List.getElem?_take]at hu;split at hu
    ·exact jN.1 hg _ u hu
    ·simp at hu
   ·refine⟨.hsl id es (off+lo) (hi-lo),by simp only[fL,if_pos he,hb,Option.map_some],?_⟩
    have hlen:((xs.take hi).drop lo).length=hi-lo:=by simp;omega
    rw[←hlen];refine FR.GM hz hr (by rw[hlen];omega) ?_
    have:=(hf.take hi).drop lo;rw[hlen];have e:List.drop lo (List.take hi (List.take xs.length (List.drop off ys)))=List.take (hi-lo) (List.drop (off+lo) ys):=by
     rw[List.take_take,Nat.min_eq_left b1,List.drop_take,List.drop_drop]
    rw[e]at this;exact this
  ·simp at hs
 ·exact absurd hx.closed (by simp[V.closed])
 ·rw[hx.cC];obtain⟨_,hb,rfl⟩:=ζf.1 hs;exact⟨.cC,by simp only[fL,hb,Option.map_some],.same _ rfl⟩
 ·rw[hx.aF];obtain⟨_,hb,rfl⟩:=ζf.1 hs;exact⟨.aF,by simp only[fL,hb,Option.map_some],.same _ rfl⟩
 ·simp at hs
theorem b8.jo {lo hi:Bool} {bs bs':List V} {r:Option Int×Option Int} (h:b8 H Z bs bs') (hb:jo lo hi bs=some r):Go.VE.jo lo hi bs'=some r:=by
 unfold Go.VE.jo at hb;split at hb
 ·rw[h.b7];exact hb
 ·obtain⟨_,_,rfl,h1,h2⟩:=h.inv;rw[h1.int,h2.b7];exact hb
 ·obtain⟨_,_,rfl,h1,h2⟩:=h.inv;rw[h1.int,h2.b7];exact hb
 ·obtain⟨_,_,rfl,h1,h2⟩:=h.inv;obtain⟨_,_,rfl,h3,h4⟩:=h2.inv;rw[h1.int,h3.int,h4.b7];exact hb
 ·simp at hb
theorem b8.ay {N:Nat→FuncId} {p:rY} {xs ys:List V} {z:V} (hz0:∀zero pl,p=.build zero pl→V.bF zero=true) (h:b8 H Z xs ys) (hp:ay N p xs=some z):∃z',Go.VE.ay N p ys=some z'∧FR H Z z z':=by
 unfold Go.VE.ay at hp;split at hp
 ·
  obtain⟨y,_,rfl,h1,h2⟩:=h.inv;rw[h2.b7];simp only[ζa]at hp;subst hp;exact⟨y,rfl,h1⟩
 ·
  rename_i t a b;obtain⟨w1,_,rfl,h1,h2⟩:=h.inv;obtain⟨w2,_,rfl,h3,h4⟩:=h2.inv;obtain⟨w3,_,rfl,h5,h6⟩:=h4.inv;rw[h1.bool,h6.b7];simp only[ζa]at hp;subst hp;refine⟨if t=true then w2 else w3,rfl,?_⟩;cases t
  ·exact h5
  ·exact h3
 ·
  obtain⟨y,_,rfl,h1,h2⟩:=h.inv;rw[h2.b7];unfold Gu at hp;split at hp
  ·exact absurd h1.closed (by simp[V.closed])
  ·simp only[ζa]at hp;subst hp;rcases h1.jk with rfl|⟨_,_,_,_,_,_,rfl,_⟩
   ·exact⟨_,rfl,h1⟩
   ·exact⟨_,rfl,h1⟩
  ·simp only[ζa]at hp;subst hp;obtain⟨_,_,rfl,_⟩:=h1.iL;exact⟨_,rfl,h1⟩
  ·simp at hp
 ·
  obtain⟨_,_,rfl,h1,h2⟩:=h.inv;obtain⟨_,_,rfl,h3,h4⟩:=h2.inv;rw[h4.b7];exact⟨z,FR.bin h1 h3 hp,.same _ (El hp)⟩
 ·obtain⟨_,_,rfl,h1,h2⟩:=h.inv;rw[h1.bool,h2.b7];simp only[ζa]at hp;subst hp;exact⟨_,rfl,.same _ rfl⟩
 ·obtain⟨_,_,rfl,h1,h2⟩:=h.inv;rw[h1.int,h2.b7];simp only[ζa]at hp;subst hp;exact⟨_,rfl,.same _ rfl⟩
 ·obtain⟨_,_,rfl,h1,h2⟩:=h.inv;rw[h1.int,h2.b7];simp only[ζa]at hp;subst hp;exact⟨_,rfl,.same _ rfl⟩
 ·
  rename_i off p;obtain⟨y,_,rfl,h1,h2⟩:=h.inv;rw[h2.b7];unfold eZ at hp;split at hp
  ·split at hp
   ·rename_i cs ho;simp only[ζa]at hp;subst hp;rcases h1.jk with rfl|⟨id,el,o,es,ys,ds,rfl,hz,hr,he,hle,hf⟩
    ·have hg:=h1.good;simp only[V.good]at hg;exact⟨_,by simp only[Go.VE.ay,eZ,if_pos ho],.same _ (by simp only[V.good];exact vh _ hg)⟩
    ·refine⟨.hptr id el (o+off),rfl,FR.zo hz hr he (by have:=hf.1;simp at this;omega) ?_⟩
     have:=hf.drop off;rw[List.drop_drop]at this;exact this
   ·simp at hp
  ·exact absurd h1.closed (by simp[V.closed])
  ·simp at hp
 ·
  rename_i off size agg cs;obtain⟨y,_,rfl,h1,h2⟩:=h.inv;rw[h2.b7];obtain⟨cs',rfl,hc⟩:=h1.jC;obtain⟨r,hr,hm⟩:=ζg.1 hp;obtain⟨r',hr',hrr⟩:=hc.cut hr;obtain⟨z',hz',hzz⟩:=hrr.mk hm;exact⟨z',by simp only[Go.VE.ay,hr',ζb,hz'],hzz⟩
 ·
  rename_i size s k n;obtain⟨y,_,rfl,h1,h2⟩:=h.inv;obtain⟨_,_,rfl,h3,h4⟩:=h2.inv;rw[h3.int,h4.b7];unfold iV at hp;split at hp
  ·simp at hp
  ·rename_i hn;split at hp
   ·rename_i es xs;split at hp
    ·rename_i he;obtain⟨c,hc,rfl⟩:=ζf.1 hp;rcases h1.je with rfl|⟨id,off,ys,rfl,hz,hr,hl,hf⟩
     ·have hg:=h1.good;simp only[V.good]at hg;exact⟨_,by simp only[Go.VE.ay,iV,if_neg hn,if_pos he,hc,Option.map_some],.same _ (by simp only[V.good];exact jN.1 hg _ _ hc)⟩
     ·have hj:n.toNat<xs.length:=(ζe.1 hc).1;obtain⟨d,hd,hcd⟩:=hf.get hc;rw[List.getElem?_take,if_pos hj,List.getElem?_drop]at hd;exact⟨.hptr id (off+n.toNat) 0,by simp only[Go.VE.ay,iV,if_neg hn,if_pos (And.intro he hj)],FR.zo hz hr hd (by simp) (by simpa using hcd)⟩
    ·simp at hp
   ·exact absurd h1.closed (by simp[V.closed])
   ·simp at hp
 ·
  rename_i len size s k n;obtain⟨y,_,rfl,h1,h2⟩:=h.inv;obtain⟨_,_,rfl,h3,h4⟩:=h2.inv;rw[h3.int,h4.b7];unfold tv at hp;split at hp
  ·rename_i hn;split at hp
   ·split at hp
    ·rename_i cs ho;simp only[ζa]at hp;subst hp;rcases h1.jk with rfl|⟨id,el,o,es,ys,ds,rfl,hz,hr,he,hle,hf⟩
     ·have hg:=h1.good;simp only[V.good]at hg;exact⟨_,by simp only[Go.VE.ay,tv,if_pos hn,if_pos ho],.same _ (by simp only[V.good];exact vh _ hg)⟩
     ·refine⟨.hptr id el (o+n.toNat*size),by simp only[Go.VE.ay,tv,if_pos hn],FR.zo hz hr he (by have:=hf.1;simp at this;omega) ?_⟩
      have:=hf.drop (n.toNat*size);rw[List.drop_drop]at this;exact this
    ·simp at hp
   ·exact absurd h1.closed (by simp[V.closed])
   ·simp at hp
  ·simp at hp
 ·
  rename_i s k n;obtain⟨y,_,rfl,h1,h2⟩:=h.inv;obtain⟨_,_,rfl,h3,h4⟩:=h2.inv;rw[h1.str,h3.int,h4.b7];split at hp
  ·rename_i hn;obtain⟨c,hc,rfl⟩:=ζf.1 hp;exact⟨_,by simp only[Go.VE.ay,if_pos hn,hc,Option.map_some],.same _ rfl⟩
  ·simp at hp
 ·
  rename_i len size agg cs k n;obtain⟨y,_,rfl,h1,h2⟩:=h.inv;obtain⟨_,_,rfl,h3,h4⟩:=h2.inv;rw[h3.int,h4.b7];obtain⟨cs',rfl,hc⟩:=h1.jC;split at hp
  ·rename_i hn;obtain⟨r,hr,hm⟩:=ζg.1 hp;obtain⟨r',hr',hrr⟩:=hc.cut hr;obtain⟨z',hz',hzz⟩:=hrr.mk hm;exact⟨z',by simp only[Go.VE.ay,if_pos hn,hr',ζb,hz'],hzz⟩
  ·simp at hp
 ·
  rename_i lo hi s bs;obtain⟨y,_,rfl,h1,h2⟩:=h.inv;rw[h1.str];obtain⟨⟨l,h'⟩,hb,hp⟩:=ζg.1 hp;obtain⟨⟨l2,h2'⟩,hb2,rfl⟩:=ζf.1 hp;exact⟨_,by simp only[Go.VE.ay,h2.jo hb,ζb,hb2,Option.map_some],.same _ rfl⟩
 ·
  rename_i size lo hi s bs;obtain⟨y,_,rfl,h1,h2⟩:=h.inv;obtain⟨⟨l,h'⟩,hb,hp⟩:=ζg.1 hp;obtain⟨z',hz',hzz⟩:=FR.slice h1 hp;exact⟨z',by simp only[Go.VE.ay,h2.jo hb,ζb,hz'],hzz⟩
 ·
  obtain⟨y,_,rfl,h1,h2⟩:=h.inv;obtain⟨_,_,rfl,h3,h4⟩:=h2.inv;obtain⟨_,_,rfl,h5,h6⟩:=h4.inv;rw[h3.int,h5.int,h6.b7];split at hp
  ·rename_i hc;simp only[ζa]at hp;subst hp;refine⟨.cC,?_,.same _ rfl⟩;simp only[ζh]at hc;have:Gj y=true:=by
    have h0:=hc.1.1;unfold Gj at h0;split at h0
    ·rcases h1.je with rfl|⟨_,_,_,rfl,_⟩ <;> rfl
    ·exact absurd h1.closed (by simp[V.closed])
    ·rw[h1.cC];rfl
    ·rw[h1.aF];rfl
    ·simp at h0
   simp only[Go.VE.ay,this,hc.1.2,hc.2,Bool.and_self,if_true]
  ·simp at hp
 ·
  rename_i vs zero pl;obtain⟨r,hr,rfl⟩:=ζf.1 hp;obtain⟨r',hr',hrr⟩:=b8.fill (b8.same (hz0 zero pl rfl)) h hr;exact⟨.agg r',by simp only[Go.VE.ay,hr',Option.map_some],.agg _ _ hrr.1 hrr.2⟩
 ·
  rename_i vs name k;simp only[ζa]at hp;subst hp;exact⟨_,rfl,.clo _ _ _ _ _ (h.take k).1 (h.drop k).1 (h.take k).2 (h.drop k).2⟩
 ·
  rename_i i vs;obtain⟨y,_,rfl,h1,h2⟩:=h.inv;rw[h2.b7];obtain⟨ws,rfl,hw⟩:=h1.mI;obtain⟨z',hz',hzz⟩:=hw.get hp;exact⟨z',hz',hzz⟩
 ·
  obtain⟨y,_,rfl,h1,h2⟩:=h.inv;rw[h1.str,h2.b7];simp only[ζa]at hp;subst hp;exact⟨_,rfl,.same _ rfl⟩
 ·
  obtain⟨y,_,rfl,h1,h2⟩:=h.inv;rw[h2.b7];unfold nh at hp;split at hp
  ·simp only[ζa]at hp;subst hp;rcases h1.je with rfl|⟨_,_,_,rfl,_⟩ <;> exact⟨_,rfl,.same _ rfl⟩
  ·exact absurd h1.closed (by simp[V.closed])
  ·rw[h1.cC];simp only[ζa]at hp;subst hp;exact⟨_,rfl,.same _ rfl⟩
  ·rw[h1.aF];simp only[ζa]at hp;subst hp;exact⟨_,rfl,.same _ rfl⟩
  ·simp at hp
 ·
  obtain⟨y,_,rfl,h1,h2⟩:=h.inv;rw[h2.b7];unfold JZ at hp;split at hp
  ·rw[h1.aF];simp only[ζa]at hp;subst hp;exact⟨_,rfl,.same _ rfl⟩
  ·rw[h1.cC];simp only[ζa]at hp;subst hp;exact⟨_,rfl,.same _ rfl⟩
  ·simp at hp
 ·
  obtain⟨_,_,rfl,h1,h2⟩:=h.inv;obtain⟨_,_,rfl,h3,h4⟩:=h2.inv;rw[h1.int,h3.int,h4.b7];split at hp
  ·rename_i e;simp only[ζa]at hp;subst hp;exact⟨_,by simp only[Go.VE.ay,if_pos e],.same _ rfl⟩
  ·simp at hp
 ·
  obtain⟨_,_,rfl,h1,h2⟩:=h.inv;obtain⟨_,_,rfl,h3,h4⟩:=h2.inv;rw[h1.int,h3.int,h4.b7];split at hp
  ·rename_i e;simp only[ζa]at hp;subst hp;exact⟨_,by simp only[Go.VE.ay,if_pos e],.same _ rfl⟩
  ·simp at hp
 ·simp at hp
end
end Go.VE
namespace Go.VE
variable [aW]
def pF (p:Nat×Nat) (k:Fl) (es len:Nat):V:=
 match k with
 | .nil=>.aF
 | .emp=>.cC
 | _=>.hsl p.1 es p.2 len
abbrev Nu:=Nat→Nat×Nat
inductive cq (ν:Nu) (m:Tb aP) (H:aq) (Z:Nat→Prop):SV→V→Prop
 | v (x y:V) (h:FR H Z x y):cq ν m H Z (.v x) y
 | own (d:Nat) (y:V) (h:∀ob,an m d=some ob→∃k es xs,ob=.sl k es xs∧y=pF (ν d) k es xs.length):cq ν m H Z (.own d) y
 | ptr (d o:Nat) (y:V) (h:∀ob,an m d=some ob→∃cs,ob=.box cs∧y=.hptr (ν d).1 0 o):cq ν m H Z (.ptr d o) y
 | el (d i o:Nat) (y:V) (h:∀ob,an m d=some ob→∃k es xs,ob=.sl k es xs∧bC k=true∧y=.hptr (ν d).1 ((ν d).2+i) o):cq ν m H Z (.el d i o) y
 | mp (d:Nat) (y:V) (h:∀ob,an m d=some ob→∃kvs,ob=.mp kvs∧y=.hmap (ν d).1):cq ν m H Z (.mp d) y
 | clo (f:FuncId) (a b:List SV) (a' b':List V) (ha:a.length=a'.length) (hb:b.length=b'.length)
  (hva:∀(j:Nat) u v,a[j]? = some u→a'[j]? = some v→cq ν m H Z u v) (hvb:∀(j:Nat) u v,b[j]? = some u→b'[j]? = some v→cq ν m H Z u v):cq ν m H Z (.clo f a b) (.clo f a' b')
 | tup (a:List SV) (a':List V) (ha:a.length=a'.length) (hva:∀(j:Nat) u v,a[j]? = some u→a'[j]? = some v→cq ν m H Z u v):cq ν m H Z (.tup a) (.tup a')
 | yl (id:Nat):cq ν m H Z (.yl id) (.yld id)
def bg (ν:Nu) (m:Tb aP) (H:aq) (Z:Nat→Prop) (xs:List SV) (ys:List V):Prop:=xs.length=ys.length∧∀(j:Nat) u v,xs[j]? = some u→ys[j]? = some v→cq ν m H Z u v
def bG:aP→Bool
 | .sl k _ _=>bC k
 | _=>true
def dM (ν:Nu) (m:Tb aP) (id:Nat):Prop:=∃d ob,an m d=some ob∧bG ob=true∧(ν d).1=id
def rq (H:aq) (Z:Nat→Prop) (ys:List (List V)):Prop:=∀c∈ys,∀u∈c,∃x,FR H Z x u
def zF (H:aq) (Z:Nat→Prop) (a b:List (V×V)):Prop:=a.length=b.length∧∀(j:Nat) u v,a[j]? = some u→b[j]? = some v→(u.1=v.1∧u.1.scalar=true)∧FR H Z u.2 v.2
def cO (ν:Nu) (m:Tb aP) (H:aq) (Z:Nat→Prop) (d:Nat):aP→Prop
 | .sl k es xs=>if bC k then ∃ys,H[(ν d).1]? = some (.row es ys)∧(ν d).2+xs.length≤ys.length∧eA H Z xs ((ys.drop (ν d).2).take xs.length)∧rq H Z ys∧(k=.row→(ν d).2=0∧ys.length=xs.length)
  else xs=[]
 | .box cs=>∃es cs',H[(ν d).1]? = some (.row es [cs'])∧bg ν m H Z cs cs'∧cs'.all V.one=true
 | .mp kvs=>∃kvs',H[(ν d).1]? = some (.map kvs')∧zF H Z kvs kvs'
structure R (ν:Nu) (Z:Nat→Prop) (st:St) (F:Frame) (H:aq):Prop where
 slot:∀s sv,an st.g s=some sv→cq ν st.m H Z sv (get F s)
 obj:∀d ob,an st.m d=some ob→cO ν st.m H Z d ob
 inj:∀d d' ob ob',an st.m d=some ob→an st.m d'=some ob'→bG ob=true→bG ob'=true→(ν d).1=(ν d').1→d=d'
 apart:∀d ob,an st.m d=some ob→bG ob=true→¬Z (ν d).1
 zrow:∀id,Z id→(ax H id).isSome=true
 deep:Deep H Z
def sameShape:aP→aP→Prop
 | .sl k es xs,.sl k' es' xs'=>k'=k∧es'=es∧xs'.length=xs.length
 | .box _,.box _=>True
 | .mp _,.mp _=>True
 | _,_=>False
theorem sameShape.refl (o:aP):sameShape o o:=by cases o <;> simp[sameShape]
theorem sameShape.trans {a b c:aP} (h:sameShape a b) (k:sameShape b c):sameShape a c:=by
 cases a <;> cases b <;> cases c <;> simp[sameShape]at*<;> simp_all
structure Ev (Rv:Nat→Prop) (ν:Nu) (Z:Nat→Prop) (st:St) (H:aq) (ν':Nu) (Z':Nat→Prop) (st':St) (H':aq):Prop where
 len:H.length≤H'.length
 same:∀id,id<H.length→¬dM ν st.m id→¬Z id→¬Rv id→H'[id]? = H[id]?
 rows:∀id,Z id→Z' id∧ax H' id=ax H id
 own:∀id,dM ν' st'.m id→dM ν st.m id∨Rv id∨H.length≤id
 frz:∀id,Z' id→Z id∨dM ν st.m id∨Rv id∨H.length≤id
 pin:∀d∈st.pin,∀ob',an st'.m d=some ob'→∃ob,an st.m d=some ob∧ν' d=ν d∧sameShape ob ob'
 pins:st'.pin=st.pin
section
variable {Rv Rv':Nat→Prop} {ν ν' ν2:Nu} {Z Z' Z2:Nat→Prop} {st st' st2:St} {m m':Tb aP} {F F':Frame} {H H' H2:aq}
theorem Ev.refl:Ev Rv ν Z st H ν Z st H:=
 ⟨Nat.le_refl _,fun _ _ _ _ _=>rfl,fun _ h=>⟨h,rfl⟩,fun _ h=>.inl h,fun _ h=>.inl h,fun _ _ ob' h=>⟨ob',h,rfl,.refl _⟩,rfl⟩
theorem Ev.trans (a:Ev Rv ν Z st H ν' Z' st' H') (b:Ev Rv ν' Z' st' H' ν2 Z2 st2 H2):Ev Rv ν Z st H ν2 Z2 st2 H2 where
 len:=Nat.le_trans a.len b.len
 same:=fun id hl ho hz hr=>by
  rw[b.same id (Nat.lt_of_lt_of_le hl a.len) (fun h=>(a.own id h).elim ho fun h=>h.elim hr fun h=>by omega) (fun h=>(a.frz id h).elim hz fun h=>h.elim ho fun h=>h.elim hr fun h=>by omega) hr,a.same id hl ho hz hr]
 rows:=fun id h=>⟨(b.rows id (a.rows id h).1).1,by rw[(b.rows id (a.rows id h).1).2,(a.rows id h).2]⟩
 own:=fun id h=>by
  rcases b.own id h with h|h|h
  ·exact a.own id h
  ·exact .inr (.inl h)
  ·exact .inr (.inr (Nat.le_trans a.len h))
 frz:=fun id h=>by
  rcases b.frz id h with h|h|h|h
  ·exact a.frz id h
  ·rcases a.own id h with h|h|h
   ·exact .inr (.inl h)
   ·exact .inr (.inr (.inl h))
   ·exact .inr (.inr (.inr h))
  ·exact .inr (.inr (.inl h))
  ·exact .inr (.inr (.inr (Nat.le_trans a.len h)))
 pin:=fun d hd ob2 h=>by
  obtain⟨ob1,h1,h2,h3⟩:=b.pin d (by rw[a.pins];exact hd) ob2 h
  obtain⟨ob,k1,k2,k3⟩:=a.pin d hd ob1 h1;exact⟨ob,k1,by rw[h2,k2],k3.trans h3⟩
 pins:=by rw[b.pins,a.pins]
theorem Ev.weak (h:∀id,Rv id→Rv' id) (a:Ev Rv ν Z st H ν' Z' st' H'):Ev Rv' ν Z st H ν' Z' st' H':=
 ⟨a.len,fun id hl ho hz hr=>a.same id hl ho hz (fun k=>hr (h id k)),a.rows,fun id k=>(a.own id k).imp (fun x=>x) (.imp (h id) (fun x=>x)),fun id k=>(a.frz id k).imp (fun x=>x) (.imp (fun x=>x) (.imp (h id) (fun x=>x))),a.pin,a.pins⟩
theorem bA {α:Type}:∀(g:Tb α) (n:Nat) (v:α),an (aV g n v) n=some v
 | [],n,v=>by simp[aV,an]
 | (k,x)::r,n,v=>by
  simp only[aV];split
  ·rename_i h;simp[an,h]
  ·rename_i h;simp[an,h,bA r n v]
theorem cM {α:Type}:∀(g:Tb α) {n k:Nat} (v:α),n≠k→an (aV g n v) k=an g k
 | [],n,k,v,h=>by simp[aV,an,h]
 | (j,x)::r,n,k,v,h=>by
  simp only[aV];split
  ·rename_i hk;subst hk;simp[an,h]
  ·simp only[an];split
   ·rfl
   ·exact cM r v h
theorem nV {α:Type}:∀{g:Tb α} {n:Nat} {v:α},an g n=some v→aV g n v=g
 | [],n,v,h=>by cases h
 | (k,x)::r,n,v,h=>by
  simp only[an]at h;simp only[aV];split
  ·rename_i e;rw[if_pos e]at h;cases h;subst e;rfl
  ·rename_i e;rw[if_neg e]at h;rw[nV h]
theorem sK {α:Type}:∀(g:Tb α) (n:Nat),an (dh n g) n=none
 | [],n=>rfl
 | (k,x)::r,n=>by
  simp only[dh];split
  ·exact sK r n
  ·rename_i hk;simp only[an];rw[if_neg hk];exact sK r n
theorem sL {α:Type}:∀(g:Tb α) {n k:Nat},n≠k→an (dh n g) k=an g k
 | [],n,k,h=>rfl
 | (j,x)::r,n,k,h=>by
  simp only[dh];split
  ·rename_i hk;subst hk;simp only[an];rw[if_neg h];exact sL r h
  ·simp only[an];split
   ·rfl
   ·exact sL r h
theorem mb {α:Type} {g:Tb α} {n k:Nat} {v:α} (h:an (dh n g) k=some v):n≠k∧an g k=some v:=by
 by_cases e:n=k
 ·subst e;rw[sK]at h;simp at h
 ·rw[sL g e]at h;exact⟨e,h⟩
theorem ve {α:Type} {k:Nat} {v:α}:∀{ds:List Nat} {g:Tb α},an (s9 ds g) k=some v→an g k=some v
 | [],_,h=>h
 | d::ds,g,h=>(mb (ve (ds:=ds) h)).2
theorem rE {α:Type} {g:Tb α} {k:Nat} {v:α}:∀{l:List Nat} {r:Tb α},xz g l=some r→an r k=some v→an g k=some v
 | [],r,h,h2=>by simp only[xz,ζa]at h;subst h;simp[an]at h2
 | n::l,r,h,h2=>by
  simp only[xz]at h;split at h
  ·rename_i w t h3 h4;simp only[ζa]at h;subst h;simp only[an]at h2;split at h2
   ·rename_i e;subst e;rw[h3];exact h2
   ·exact rE h4 h2
  ·simp at h
theorem uQ {d:Nat}:∀{g:Tb SV} {s:Nat} {sv:SV},rM d g=false→an g s=some sv→sv.bV d=false
 | [],_,_,_,h=>by simp[an]at h
 | (k,x)::r,s,sv,h,h2=>by
  simp only[rM,Bool.or_eq_false_iff]at h;simp only[an]at h2;split at h2
  ·simp only[ζa]at h2;subst h2;exact h.1
  ·exact uQ h.2 h2
theorem uS {d:Nat}:∀{g:Tb aP} {s:Nat} {ob:aP},oU d g=false→an g s=some ob→ob.bV d=false
 | [],_,_,_,h=>by simp[an]at h
 | (k,x)::r,s,sv,h,h2=>by
  simp only[oU,Bool.or_eq_false_iff]at h;simp only[an]at h2;split at h2
  ·simp only[ζa]at h2;subst h2;exact h.1
  ·exact uS h.2 h2
theorem sq {d:Nat}:∀{l:List SV} {j:Nat} {u:SV},SV.cz d l=false→l[j]? = some u→u.bV d=false
 | [],_,_,_,h=>by simp at h
 | x::r,j,u,h,h2=>by
  simp only[SV.cz,Bool.or_eq_false_iff]at h
  cases j with
  | zero=>simp at h2;subst h2;exact h.1
  | succ j=>exact sq h.2 (by simpa using h2)
theorem qN {d:Nat}:∀{l:List SV} {j:Nat} {u:SV},l[j]? = some u→u.bV d=true→SV.cz d l=true
 | [],_,_,h,_=>by simp at h
 | x::r,j,u,h,h2=>by
  simp only[SV.cz,Bool.or_eq_true]
  cases j with
  | zero=>simp at h;subst h;exact .inl h2
  | succ j=>exact .inr (qN (j:=j) (by simpa using h) h2)
theorem cq.mono {sv:SV} {y:V} (hz:∀id,Z id→Z' id∧ax H' id=ax H id)
 (r:cq ν m H Z sv y) (hn:∀d,sv.bV d=true→∀ob',an m' d=some ob'→∃ob,an m d=some ob∧ν' d=ν d∧sameShape ob ob'):cq ν' m' H' Z' sv y:=by
 induction r with
 | v x y h=>exact .v x y (h.mono hz)
 | own d y h=>
  refine .own d y fun ob' ho=>?_
  obtain⟨ob,h1,h2,h3⟩:=hn d (by simp[SV.bV]) ob' ho
  obtain⟨k,es,xs,rfl,rfl⟩:=h ob h1;cases ob' <;> simp only[sameShape]at h3;obtain⟨rfl,rfl,h5⟩:=h3;exact⟨_,_,_,rfl,by rw[h2,h5]⟩
 | ptr d o y h=>
  refine .ptr d o y fun ob' ho=>?_
  obtain⟨ob,h1,h2,h3⟩:=hn d (by simp[SV.bV]) ob' ho
  obtain⟨cs,rfl,rfl⟩:=h ob h1;cases ob' <;> simp only[sameShape]at h3;exact⟨_,rfl,by rw[h2]⟩
 | el d i o y h=>
  refine .el d i o y fun ob' ho=>?_
  obtain⟨ob,h1,h2,h3⟩:=hn d (by simp[SV.bV]) ob' ho
  obtain⟨k,es,xs,rfl,h4,rfl⟩:=h ob h1;cases ob' <;> simp only[sameShape]at h3;obtain⟨rfl,rfl,h5⟩:=h3;exact⟨_,_,_,rfl,h4,by rw[h2]⟩
 | mp d y h=>
  refine .mp d y fun ob' ho=>?_
  obtain⟨ob,h1,h2,h3⟩:=hn d (by simp[SV.bV]) ob' ho
  obtain⟨cs,rfl,rfl⟩:=h ob h1;cases ob' <;> simp only[sameShape]at h3;exact⟨_,rfl,by rw[h2]⟩
 | clo f a b a' b' ha hb hva hvb iha ihb=>
  exact .clo f a b a' b' ha hb (fun j u v hu hv=>iha j u v hu hv fun d hd=>hn d (by simp[SV.bV,qN hu hd])) (fun j u v hu hv=>ihb j u v hu hv fun d hd=>hn d (by simp[SV.bV,qN hu hd]))
 | tup a a' ha hva iha=>
  exact .tup a a' ha (fun j u v hu hv=>iha j u v hu hv fun d hd=>hn d (by simp[SV.bV,qN hu hd]))
 | yl id=>exact .yl id
theorem bg.mono {sv:List SV} {y:List V} (hz:∀id,Z id→Z' id∧ax H' id=ax H id)
 (r:bg ν m H Z sv y) (hn:∀d,SV.cz d sv=true→∀ob',an m' d=some ob'→∃ob,an m d=some ob∧ν' d=ν d∧sameShape ob ob'):bg ν' m' H' Z' sv y:=
 ⟨r.1,fun j u v hu hv=>(r.2 j u v hu hv).mono hz fun d hd=>hn d (qN hu hd)⟩
theorem bg.nil:bg ν m H Z [] []:=⟨rfl,by simp⟩
theorem bg.cons {x:SV} {y:V} {xs:List SV} {ys:List V} (h:cq ν m H Z x y) (r:bg ν m H Z xs ys):bg ν m H Z (x::xs) (y::ys):=by
 refine⟨by simp[r.1],fun j u v hu hv=>?_⟩
 cases j with
 | zero=>simp at hu hv;subst hu;subst hv;exact h
 | succ j=>exact r.2 j u v (by simpa using hu) (by simpa using hv)
theorem bg.inv {x:SV} {xs:List SV} {ws:List V} (r:bg ν m H Z (x::xs) ws):∃y ys,ws=y::ys∧cq ν m H Z x y∧bg ν m H Z xs ys:=by
 cases ws with
 | nil=>have:=r.1;simp at this
 | cons y ys=>
  refine⟨y,ys,rfl,r.2 0 x y rfl rfl,by have:=r.1;simpa using this,fun j u v hu hv=>r.2 (j+1) u v (by simpa using hu) (by simpa using hv)⟩
theorem bg.b7 {ws:List V} (r:bg ν m H Z [] ws):ws=[]:=by
 have:=r.1;exact List.length_eq_zero_iff.1 this.symm
theorem bg.get {xs:List SV} {ys:List V} (r:bg ν m H Z xs ys) {j:Nat} {u:SV} (h:xs[j]? = some u):∃v,ys[j]? = some v∧cq ν m H Z u v:=by
 have hj:j<xs.length:=(ζe.1 h).1;have:j<ys.length:=by rw[←r.1];exact hj
 exact⟨ys[j],ζd this,r.2 j u _ h (ζd this)⟩
theorem bg.append {a c:List SV} {b d:List V} (h:bg ν m H Z a b) (k:bg ν m H Z c d):bg ν m H Z (a++c) (b++d):=by
 refine⟨by simp[h.1,k.1],fun j u v hu hv=>?_⟩
 by_cases hj:j<a.length
 ·rw[List.getElem?_append_left hj]at hu;rw[List.getElem?_append_left (by rw[←h.1];exact hj)]at hv
  exact h.2 j u v hu hv
 ·rw[List.getElem?_append_right (by omega)]at hu
  rw[List.getElem?_append_right (by rw[←h.1];omega),←h.1]at hv
  exact k.2 _ u v hu hv
theorem bg.take {a:List SV} {b:List V} (h:bg ν m H Z a b) (n:Nat):bg ν m H Z (a.take n) (b.take n):=by
 refine⟨by simp[h.1],fun j u v hu hv=>?_⟩
 rw[List.getElem?_take]at hu hv;split at hu
 ·rename_i hj;rw[if_pos hj]at hv;exact h.2 j u v hu hv
 ·simp at hu
theorem bg.drop {a:List SV} {b:List V} (h:bg ν m H Z a b) (n:Nat):bg ν m H Z (a.drop n) (b.drop n):=by
 refine⟨by simp[h.1],fun j u v hu hv=>?_⟩
 rw[List.getElem?_drop]at hu hv;exact h.2 _ u v hu hv
theorem cq.fr {x y:V} (r:cq ν m H Z (.v x) y):FR H Z x y:=by cases r;assumption
theorem bg.qh {xs ys:List V} (r:b8 H Z xs ys):bg ν m H Z (xs.map .v) ys:=by
 refine⟨by simp[r.1],fun j u v hu hv=>?_⟩
 rw[List.getElem?_map,ζf]at hu;obtain⟨x,hx,rfl⟩:=hu;exact .v x v (r.2 j x v hx hv)
theorem qD:∀{svs:List SV} {xs:List V},dc svs=some xs→svs=xs.map .v
 | [],xs,h=>by simp only[dc,ζa]at h;subst h;rfl
 | x::r,xs,h=>by
  cases x <;> simp only[dc]at h <;> first|simp at h;done|skip
  obtain⟨t,ht,rfl⟩:=ζf.1 h;rw[qD ht];rfl
theorem bg.Yv {xs ys:List V} (r:bg ν m H Z (xs.map .v) ys):b8 H Z xs ys:=by
 refine⟨by have:=r.1;simpa using this,fun j u v hu hv=>?_⟩
 have:(xs.map SV.v)[j]? = some (.v u):=by rw[List.getElem?_map,hu];rfl
 exact(r.2 j _ v this hv).fr
end
end Go.VE
namespace Go.VE
variable [aW]
section
variable {ν:Nu} {Z:Nat→Prop} {st:St} {m:Tb aP} {F:Frame} {H H1:aq} {N:Nat→FuncId}
def mU (nm:FuncId→Option Nat):Operand→Option Arg
 | .tmp t=>some (.s t)
 | .const v=>match ofValue 4 v with
  | some c=>if c.good then some (.k c)else none
  | none=>none
 | .func f=>(nm f).map .f
 | .global g=>match aW.gl g with
  | some cs=>if(V.fptr cs).good then some (.k (.fptr cs))else none
  | none=>none
theorem AL {nm:FuncId→Option Nat} (hN:∀f s,nm f=some s→N s=f) {g:Tb SV} (hs:∀s sv,an g s=some sv→cq ν m H Z sv (get F s)) {o:Operand} {x:Arg} {sv:SV} (ha:mU nm o=some x) (hv:mT N g x=some sv) :
 ∃y,ev F o=some y∧cq ν m H Z sv y:=by
 cases o with
 | tmp t=>
  simp only[mU,ζa]at ha;subst ha;exact⟨get F t,rfl,hs t sv hv⟩
 | const w=>
  simp only[mU]at ha;split at ha
  ·rename_i c hc;split at ha
   ·rename_i hcl;simp only[ζa]at ha;subst ha;simp only[mT,ζa]at hv;subst hv;exact⟨c,hc,.v _ _ (.same _ hcl)⟩
   ·simp at ha
  ·simp at ha
 | func f=>
  simp only[mU,ζf]at ha;obtain⟨z,hz,rfl⟩:=ha;simp only[mT,ζa]at hv;subst hv;exact⟨_,rfl,.v _ _ (by rw[hN f z hz];exact .same _ rfl)⟩
 | global i=>
  simp only[mU]at ha;split at ha
  ·rename_i c hc;split at ha
   ·rename_i hcl;simp only[ζa]at ha;subst ha;simp only[mT,ζa]at hv;subst hv;exact⟨.fptr c,by simp only[ev,hc,Option.map_some],.v _ _ (.same _ hcl)⟩
   ·simp at ha
  ·simp at ha
theorem uL {nm:FuncId→Option Nat} (hN:∀f s,nm f=some s→N s=f) {g:Tb SV} (hs:∀s sv,an g s=some sv→cq ν m H Z sv (get F s)):∀{os:List Operand} {xs:List Arg} {svs:List SV},
 os.mapM (mU nm)=some xs→bh N g xs=some svs→∃ys,eD F os=some ys∧bg ν m H Z svs ys
 | [],xs,svs,ha,hv=>by
  simp only[List.mapM_nil,Option.pure_def,ζa]at ha;subst ha;simp only[bh,ζa]at hv;subst hv;exact⟨[],rfl,.nil⟩
 | o::os,xs,svs,ha,hv=>by
  simp only[List.mapM_cons,Option.pure_def,Option.bind_eq_bind,ζg,ζa]at ha;obtain⟨x,hx,ys,hy,rfl⟩:=ha;simp only[bh]at hv;split at hv
  ·rename_i v ws h1 h2;simp only[ζa]at hv;subst hv;obtain⟨a,ha,ra⟩:=AL hN hs hx h1;obtain⟨az,has,ras⟩:=uL hN hs hy h2;exact⟨a::az,by simp only[eD,ha,has],.cons ra ras⟩
  ·simp at hv
theorem cq.iJ {d:Nat} {y:V} (r:cq ν m H Z (.own d) y) {ob:aP} (h:an m d=some ob):∃k es xs,ob=.sl k es xs∧y=pF (ν d) k es xs.length:=by
 cases r with|own _ _ hh=>exact hh ob h
theorem cq.mK {d o:Nat} {y:V} (r:cq ν m H Z (.ptr d o) y) {ob:aP} (h:an m d=some ob):∃cs,ob=.box cs∧y=.hptr (ν d).1 0 o:=by
 cases r with|ptr _ _ _ hh=>exact hh ob h
theorem cq.uk {d i o:Nat} {y:V} (r:cq ν m H Z (.el d i o) y) {ob:aP} (h:an m d=some ob):∃k es xs,ob=.sl k es xs∧bC k=true∧y=.hptr (ν d).1 ((ν d).2+i) o:=by
 cases r with|el _ _ _ _ hh=>exact hh ob h
theorem cq.zj {d:Nat} {y:V} (r:cq ν m H Z (.mp d) y) {ob:aP} (h:an m d=some ob):∃kvs,ob=.mp kvs∧y=.hmap (ν d).1:=by
 cases r with|mp _ _ hh=>exact hh ob h
theorem cq.iL {f:FuncId} {a b:List SV} {y:V} (r:cq ν m H Z (.clo f a b) y):∃a' b',y=.clo f a' b'∧bg ν m H Z a a'∧bg ν m H Z b b':=by
 cases r with|clo _ _ _ a' b' ha hb hva hvb=>exact⟨a',b',rfl,⟨ha,hva⟩,⟨hb,hvb⟩⟩
theorem cq.mI {a:List SV} {y:V} (r:cq ν m H Z (.tup a) y):∃a',y=.tup a'∧bg ν m H Z a a':=by
 cases r with|tup _ a' ha hva=>exact⟨a',rfl,ha,hva⟩
theorem oA {p:Nat×Nat} {k:Fl} {es len:Nat} (h:bC k=true):pF p k es len=.hsl p.1 es p.2 len:=by
 cases k <;> simp[bC]at h <;> rfl
theorem Jx {p:rY} {svs:List SV} {ys:List V} {sv:SV} (ho:∀d ob,an m d=some ob→cO ν m H Z d ob) (h:bg ν m H Z svs ys) (hp:w_ N m p svs=some sv):∃y,ay N p ys=some y∧cq ν m H Z sv y:=by
 unfold w_ at hp;split at hp
 ·
  obtain⟨y,_,rfl,h1,h2⟩:=h.inv;rw[h2.b7];simp only[ζa]at hp;subst hp;exact⟨y,rfl,h1⟩
 ·obtain⟨y,_,rfl,h1,h2⟩:=h.inv;rw[h2.b7];split at hp
  ·rename_i hs;simp only[ζa]at hp;subst hp;obtain⟨ob,hob⟩:=Option.isSome_iff_exists.1 hs;obtain⟨cs,rfl,rfl⟩:=h1.mK hob;exact⟨_,rfl,h1⟩
  ·simp at hp
 ·obtain⟨y,_,rfl,h1,h2⟩:=h.inv;rw[h2.b7];split at hp
  ·rename_i hs;simp only[ζa]at hp;subst hp;obtain⟨ob,hob⟩:=Option.isSome_iff_exists.1 hs;obtain⟨k,es,xs,rfl,hk,rfl⟩:=h1.uk hob;exact⟨_,rfl,h1⟩
  ·simp at hp
 ·
  rename_i t a b;obtain⟨w1,_,rfl,h1,h2⟩:=h.inv;obtain⟨w2,_,rfl,h3,h4⟩:=h2.inv;obtain⟨w3,_,rfl,h5,h6⟩:=h4.inv;rw[h1.fr.bool,h6.b7];simp only[ζa]at hp;subst hp;refine⟨if t=true then w2 else w3,rfl,?_⟩;cases t
  ·exact h5
  ·exact h3
 ·
  obtain⟨w1,_,rfl,h1,h2⟩:=h.inv;obtain⟨w2,_,rfl,h3,h4⟩:=h2.inv;rw[h3.fr.aF,h4.b7];split at hp
  ·rename_i k es xs hob;split at hp
   ·simp at hp
   ·rename_i hk;simp only[ζa]at hp;subst hp;obtain⟨k',es',xs',e,rfl⟩:=h1.iJ hob;cases e;cases k <;> first|exact absurd rfl hk|exact⟨_,rfl,.v _ _ (.same _ rfl)⟩
  ·simp at hp
 ·obtain⟨w1,_,rfl,h1,h2⟩:=h.inv;obtain⟨w2,_,rfl,h3,h4⟩:=h2.inv;rw[h3.fr.aF,h4.b7];split at hp
  ·rename_i k es xs hob;split at hp
   ·simp at hp
   ·rename_i hk;simp only[ζa]at hp;subst hp;obtain⟨k',es',xs',e,rfl⟩:=h1.iJ hob;cases e;cases k <;> first|exact absurd rfl hk|exact⟨_,rfl,.v _ _ (.same _ rfl)⟩
  ·simp at hp
 ·
  obtain⟨y,_,rfl,h1,h2⟩:=h.inv;rw[h2.b7];split at hp
  ·rename_i hs;simp only[ζa]at hp;subst hp;obtain⟨ob,hob⟩:=Option.isSome_iff_exists.1 hs;obtain⟨cs,rfl,rfl⟩:=h1.mK hob;exact⟨_,rfl,.ptr _ _ _ fun ob' h'=>by rw[hob]at h';cases h';exact⟨_,rfl,rfl⟩⟩
  ·simp at hp
 ·obtain⟨y,_,rfl,h1,h2⟩:=h.inv;rw[h2.b7];split at hp
  ·rename_i hs;simp only[ζa]at hp;subst hp;obtain⟨ob,hob⟩:=Option.isSome_iff_exists.1 hs;obtain⟨k,es,xs,rfl,hk,rfl⟩:=h1.uk hob;exact⟨_,rfl,.el _ _ _ _ fun ob' h'=>by rw[hob]at h';cases h';exact⟨_,_,_,rfl,hk,rfl⟩⟩
  ·simp at hp
 ·
  obtain⟨w1,_,rfl,h1,h2⟩:=h.inv;obtain⟨w2,_,rfl,h3,h4⟩:=h2.inv;rw[h3.fr.int,h4.b7];split at hp
  ·rename_i k es xs hob;split at hp
   ·rename_i hc;obtain⟨hk,rfl,hn,hlt⟩:=hc;simp only[ζa]at hp;subst hp;obtain⟨k',es',xs',e,rfl⟩:=h1.iJ hob;cases e;rw[oA hk];refine⟨.hptr (ν _).1 ((ν _).2+_) 0,by simp only[ay,iV,if_neg (Int.not_lt.2 hn),true_and,if_pos hlt];rfl,.el _ _ _ _ fun ob' h'=>?_⟩
    rw[hob]at h';cases h';exact⟨_,_,_,rfl,hk,rfl⟩
   ·simp at hp
  ·simp at hp
 ·
  obtain⟨w1,_,rfl,h1,h2⟩:=h.inv;obtain⟨w2,_,rfl,h3,h4⟩:=h2.inv;rw[h3.fr.int,h4.b7];split at hp
  ·rename_i hc;simp only[ζa]at hp;subst hp;obtain⟨ob,hob⟩:=Option.isSome_iff_exists.1 hc.2.2;obtain⟨cs,rfl,rfl⟩:=h1.mK hob;refine⟨.hptr (ν _).1 0 (_+_),by simp only[ay,tv,if_pos (And.intro hc.1 hc.2.1)];rfl,.ptr _ _ _ fun ob' h'=>?_⟩
   rw[hob]at h';cases h';exact⟨_,rfl,rfl⟩
  ·simp at hp
 ·obtain⟨w1,_,rfl,h1,h2⟩:=h.inv;obtain⟨w2,_,rfl,h3,h4⟩:=h2.inv;rw[h3.fr.int,h4.b7];split at hp
  ·rename_i hc;simp only[ζa]at hp;subst hp;obtain⟨ob,hob⟩:=Option.isSome_iff_exists.1 hc.2.2;obtain⟨k,es,xs,rfl,hk,rfl⟩:=h1.uk hob;refine⟨.hptr (ν _).1 (_+_) (_+_),by simp only[ay,tv,if_pos (And.intro hc.1 hc.2.1)];rfl,.el _ _ _ _ fun ob' h'=>?_⟩
   rw[hob]at h';cases h';exact⟨_,_,_,rfl,hk,rfl⟩
  ·simp at hp
 ·
  obtain⟨w1,_,rfl,h1,h2⟩:=h.inv;rw[h2.b7];split at hp
  ·rename_i k es xs hob;simp only[ζa]at hp;subst hp;obtain⟨k',es',xs',e,rfl⟩:=h1.iJ hob;cases e;have:=ho _ _ hob;simp only[cO]at this;cases hk:k <;> simp only[hk,bC,Bool.false_eq_true,if_false]at this ⊢
   ·subst this;exact⟨_,rfl,.v _ _ (.same _ rfl)⟩
   ·subst this;exact⟨_,rfl,.v _ _ (.same _ rfl)⟩
   ·exact⟨_,rfl,.v _ _ (.same _ rfl)⟩
   ·exact⟨_,rfl,.v _ _ (.same _ rfl)⟩
  ·simp at hp
 ·
  rename_i vs name k;simp only[ζa]at hp;subst hp;exact⟨_,rfl,.clo _ _ _ _ _ (h.take k).1 (h.drop k).1 (h.take k).2 (h.drop k).2⟩
 ·
  obtain⟨w1,_,rfl,h1,h2⟩:=h.inv;rw[h2.b7];obtain⟨ws,rfl,hw⟩:=h1.mI;obtain⟨z,hz,hzz⟩:=hw.get hp;exact⟨z,hz,hzz⟩
 ·simp at hp
theorem Kn {p:rY} {svs:List SV} {ys:List V} {sv:SV} (hb:∀zero pl,p=.build zero pl→V.bF zero=true) (ho:∀d ob,an m d=some ob→cO ν m H Z d ob) (h:bg ν m H Z svs ys) (hp:iK N m p svs=some sv) :
 ∃y,ay N p ys=some y∧cq ν m H Z sv y:=by
 unfold iK at hp;split at hp
 ·rename_i xs hx;obtain⟨z,hz,rfl⟩:=ζf.1 hp;rw[qD hx]at h;obtain⟨z',h1,h2⟩:=b8.ay hb h.Yv hz;exact⟨z',h1,.v _ _ h2⟩
 ·exact Jx ho h hp
theorem bg.dc {svs:List SV} {xs ys:List V} (h:bg ν m H Z svs ys) (ha:dc svs=some xs):b8 H Z xs ys:=by
 rw[qD ha]at h;exact h.Yv
theorem Lf {size o:Nat} {agg:Bool} {cs:List SV} {cs':List V} {sv:SV} (h:bg ν m H Z cs cs') (hp:xq size agg ((cs.drop o).take size)=some sv):∃y,(cut cs' o size).bind (mk agg)=some y∧cq ν m H Z sv y:=by
 have h2:=(h.drop o).take size;unfold xq at hp;split at hp
 ·rename_i hl;have hc:cut cs' o size=some ((cs'.drop o).take size):=by
   unfold cut;dsimp only;rw[if_pos (by rw[←h2.1];exact hl)]
  rw[hc];simp only[ζb];split at hp
  ·rename_i ha;obtain⟨xs,hx,rfl⟩:=ζf.1 hp;have hf:=h2.dc hx;exact⟨_,by unfold mk;rw[if_pos ha],.v _ _ (.agg _ _ hf.1 hf.2)⟩
  ·rename_i ha;split at hp
   ·rename_i x hx;simp only[ζa]at hp;subst hp;rw[hx]at h2;obtain⟨y,ys,e,h3,h4⟩:=h2.inv;rw[e,h4.b7];exact⟨y,by unfold mk;rw[if_neg ha],h3⟩
   ·simp at hp
 ·simp at hp
theorem y9 {k:V}:∀{a b:List (V×V)} {i:Nat},zF H Z a b→(fc k a i=some none→fc k b i=some none)∧∀j v,fc k a i=some (some (j,v))→∃v',fc k b i=some (some (j,v'))∧FR H Z v v'
 | [],b,i,h=>by
  have:b=[]:=List.length_eq_zero_iff.1 (by have:=h.1;simpa using this.symm)
  subst this;exact⟨fun h=>h,fun j v h=>by simp[fc]at h⟩
 | (k1,x)::a,[],i,h=>by have:=h.1;simp at this
 | (k1,x)::a,(k2,y)::b,i,h=>by
  obtain⟨⟨e,_⟩,hx⟩:=h.2 0 _ _ rfl rfl;simp only at e hx;subst e;have ht:zF H Z a b:=⟨by have:=h.1;simpa using this,fun j u v hu hv=>h.2 (j+1) u v (by simpa using hu) (by simpa using hv)⟩
  have ih:=y9 (i:=i+1) (k:=k) ht;simp only[fc]
  cases hk:ru k k1 with
  | none=>simp
  | some t=>
   cases t
   ·exact ih
   ·refine⟨by simp,fun j v h=>?_⟩
    simp only[ζa,ζc]at h;obtain⟨rfl,rfl⟩:=h;exact⟨y,rfl,hx⟩
theorem rA {kk:tO} {k:V} (h:mg kk k=true):k.scalar=true:=by
 unfold mg at h;split at h
 ·rfl
 ·rfl
 ·simp only[ζh]at h;obtain⟨a,ha⟩:=Option.isSome_iff_exists.1 h.2;simp only[V.scalar];exact nF ha
 ·simp at h
theorem uC {r:II} {svs:List SV} {ys:List V} {sv:SV} (hzc:∀kk z ok,r=.lookup kk z ok→z.good=true) (h:bg ν m H Z svs ys) (ho:∀d,SV.cz d svs=true→∀ob,an m d=some ob→cO ν m H Z d ob) (hp:mA m r svs=some sv) :
 ∃y,dx H r ys=some y∧cq ν m H Z sv y:=by
 unfold mA at hp;split at hp
 ·
  obtain⟨w1,_,rfl,h1,h2⟩:=h.inv;rw[h2.b7];split at hp
  ·rename_i cs hob;obtain⟨cs1,e,rfl⟩:=h1.mK hob;obtain⟨es,cs',hr,hc,_⟩:=ho _ (by simp[SV.cz,SV.bV]) _ hob
   obtain⟨y,hy,hyy⟩:=Lf hc hp;refine⟨y,?_,hyy⟩;simp only[dx,cG,hr,ζb,Ob.rows,List.getElem?_cons_zero];exact hy
  ·simp at hp
 ·
  obtain⟨w1,_,rfl,h1,h2⟩:=h.inv;rw[h2.b7];split at hp
  ·rename_i k es xs hob;split at hp
   ·rename_i cs hcs;obtain⟨z,hz,rfl⟩:=ζf.1 hp;obtain⟨k1,es1,xs1,e,hk,rfl⟩:=h1.uk hob;cases e;have:=ho _ (by simp[SV.cz,SV.bV]) _ hob
    simp only[cO,hk,if_true]at this;obtain⟨rs,hr,hl,hf,_⟩:=this;obtain⟨c,hc,hcc⟩:=hf.get hcs;have hj:=(ζe.1 hcs).1;rw[List.getElem?_take,if_pos hj,List.getElem?_drop]at hc;obtain⟨r1,hr1,hm1⟩:=ζg.1 hz;obtain⟨r2,hr2,hrr⟩:=hcc.cut hr1;obtain⟨z',hz',hzz⟩:=hrr.mk hm1;refine⟨z',?_,.v _ _ hzz⟩;simp only[dx,cG,hr,ζb,Ob.rows,hc,hr2,hz']
   ·simp at hp
  ·simp at hp
 ·
  rename_i size agg p;obtain⟨w1,_,rfl,h1,h2⟩:=h.inv;rw[h2.b7];obtain⟨z,hz,rfl⟩:=ζf.1 hp;obtain⟨r1,hr1,hm1⟩:=ζg.1 hz;unfold cG at hr1;split at hr1
  ·rename_i cs;rcases h1.fr.jk with rfl|⟨id,el,off,es,ys,cs2,rfl,hzz,hr,he,hle,hf⟩
   ·refine⟨z,by simp only[dx,cG,hr1,ζb,hm1],.v _ _ (.same _ ?_)⟩
    have hcl:V.bF cs=true:=by have:=h1.fr.good;simpa [V.good]using this
    obtain⟨r',hr',hrr⟩:=(b8.same (H:=H) (Z:=Z) hcl).cut hr1;obtain⟨z',hz',hzz'⟩:=hrr.mk hm1;exact hzz'.good
   ·obtain⟨r2,hr2,hrr⟩:=hf.cut hr1;obtain⟨z',hz',hzz'⟩:=hrr.mk hm1;refine⟨z',?_,.v _ _ hzz'⟩;unfold ax at hr;simp only[dx,cG,hr,he];have:cut cs2 off size=some r2:=by
     unfold cut at hr2 ⊢;simpa [List.drop_drop]using hr2
    rw[this];exact hz'
  ·exact absurd h1.fr.closed (by simp[V.closed])
  ·simp at hr1
 ·
  rename_i kk z ok d k;obtain⟨w1,_,rfl,h1,h2⟩:=h.inv;obtain⟨w2,_,rfl,h3,h4⟩:=h2.inv;rw[h4.b7];split at hp
  ·rename_i kvs hob;split at hp
   ·rename_i hk;obtain⟨_,e,rfl⟩:=h1.zj hob;cases e;have hkk:=h3.fr.scalar.1 (rA hk);subst hkk;obtain⟨kvs',hr,hkv⟩:=ho _ (by simp[SV.cz,SV.bV]) _ hob
    obtain⟨f1,f2⟩:=y9 (k:=w2) (i:=0) hkv;split at hp
    ·rename_i j v hf;obtain⟨v',hf',hvv⟩:=f2 j v hf;simp only[ζa]at hp;subst hp;refine⟨if ok=true then .tup [v',.bool true]else v',by simp only[dx,jO,hr,hk,if_true,hf'],?_⟩
     cases ok
     ·exact .v _ _ hvv
     ·refine .v _ _ (.tup _ _ rfl (b8.cons hvv (.cons (.same _ rfl) .nil)).2)
    ·rename_i hf;simp only[ζa]at hp;subst hp;refine⟨if ok=true then .tup [z,.bool false]else z,by simp only[dx,jO,hr,hk,if_true,f1 hf],?_⟩
     have hz:=hzc kk z ok rfl;cases ok
     ·exact .v _ _ (.same _ hz)
     ·exact .v _ _ (.same _ (by simp[V.good,V.bF,hz]))
    ·simp at hp
   ·simp at hp
  ·simp at hp
 ·
  rename_i kk z ok p k;obtain⟨w1,_,rfl,h1,h2⟩:=h.inv;obtain⟨w2,_,rfl,h3,h4⟩:=h2.inv;rw[h4.b7];obtain⟨x,hx,rfl⟩:=ζf.1 hp;simp only[dx]at hx;have hz:=hzc kk z ok rfl;split at hx
  ·rename_i kvs hm;have key:jO H w1=some kvs∧V.sY kvs=true:=by
    unfold jO at hm;split at hm
    ·rw[h1.fr.ey];simp only[ζa]at hm;subst hm;exact⟨rfl,rfl⟩
    ·rw[h1.fr.fmap];simp only[ζa]at hm;subst hm;exact⟨rfl,by have:=h1.fr.good;simpa [V.good]using this⟩
    ·simp at hm
    ·simp at hm
   split at hx
   ·rename_i hk;have hkk:=h3.fr.scalar.1 (rA hk);subst hkk;split at hx
    ·rename_i j v hf;simp only[ζa]at hx;subst hx;have hv:v.good=true:=by
      have:∀{l:List (V×V)} {i:Nat},V.sY l=true→fc w2 l i=some (some (j,v))→v.good=true:=by
       intro l
       induction l with
       | nil=>intro i _ h;simp[fc]at h
       | cons p l ih=>
        intro i hg h;obtain⟨a,b⟩:=p;simp only[V.sY,ζh]at hg;simp only[fc]at h;split at h
        ·simp only[ζa,ζc]at h;obtain⟨_,rfl⟩:=h;exact hg.1.2
        ·exact ih hg.2 h
        ·simp at h
      exact this key.2 hf
     refine⟨if ok=true then .tup [v,.bool true]else v,by simp only[dx,key.1,hk,if_true,hf],?_⟩
     cases ok
     ·exact .v _ _ (.same _ hv)
     ·exact .v _ _ (.same _ (by simp[V.good,V.bF,hv]))
    ·rename_i hf;simp only[ζa]at hx;subst hx;refine⟨if ok=true then .tup [z,.bool false]else z,by simp only[dx,key.1,hk,if_true,hf],?_⟩
     cases ok
     ·exact .v _ _ (.same _ hz)
     ·exact .v _ _ (.same _ (by simp[V.good,V.bF,hz]))
    ·simp at hx
   ·simp at hx
  ·simp at hx
 ·simp at hp
end
end Go.VE
namespace Go.VE
variable [aW]
section
variable {Rv:Nat→Prop} {ν ν':Nu} {Z Z':Nat→Prop} {st st':St} {m m':Tb aP} {F F':Frame} {H H':aq}
theorem R.lt (r:R ν Z st F H) {id:Nat} (h:dM ν st.m id):id<H.length:=by
 obtain⟨d,ob,h1,h2,rfl⟩:=h;have:=r.obj d ob h1
 cases ob with
 | sl k es xs=>
  simp only[bG]at h2;simp only[cO,h2,if_true]at this;obtain⟨ys,hr,_⟩:=this;exact(ζe.1 hr).1
 | box cs=>obtain⟨es,cs',hr,_⟩:=this;exact(ζe.1 hr).1
 | mp kvs=>obtain⟨kvs',hr,_⟩:=this;exact(ζe.1 hr).1
theorem R.si (r:R ν Z st F H) {id:Nat} (h:Z id):id<H.length:=by
 have:=r.zrow id h;unfold ax at this;obtain⟨x,hx⟩:=Option.isSome_iff_exists.1 this;obtain⟨ob,h1,_⟩:=ζg.1 hx;exact(ζe.1 h1).1
theorem Deep.mono (d:Deep H Z) (h:∀id,Z id→ax H' id=ax H id):Deep H' Z where
 row:=fun id es ys hz hr c hc u hu=>by
  rw[h id hz]at hr;obtain⟨x,hx⟩:=d.row id es ys hz hr c hc u hu;exact⟨x,hx.mono fun k hk=>⟨hk,h k hk⟩⟩
theorem rq.mono {ys:List (List V)} (h:∀id,Z id→Z' id∧ax H' id=ax H id) (s:rq H Z ys):rq H' Z' ys:=fun c hc u hu=>by
 obtain⟨x,hx⟩:=s c hc u hu;exact⟨x,hx.mono h⟩
theorem zF.mono {a b:List (V×V)} (h:∀id,Z id→Z' id∧ax H' id=ax H id) (s:zF H Z a b):zF H' Z' a b:=⟨s.1,fun j u v hu hv=>⟨(s.2 j u v hu hv).1,(s.2 j u v hu hv).2.mono h⟩⟩
theorem cO.mono {d d':Nat} {ob:aP} (hz:∀id,Z id→Z' id∧ax H' id=ax H id) (hd:ν' d'=ν d) (hh:bG ob=true→H'[(ν d).1]? = H[(ν d).1]?)
 (hn:∀e,ob.bV e=true→∀ob',an m' e=some ob'→∃ob,an m e=some ob∧ν' e=ν e∧sameShape ob ob') (o:cO ν m H Z d ob):cO ν' m' H' Z' d' ob:=by
 cases ob with
 | sl k es xs=>
  simp only[cO,hd]at o ⊢;split
  ·rename_i hk;rw[if_pos hk]at o;obtain⟨ys,h1,h2,h3,h4,h5⟩:=o;exact⟨ys,by rw[hh (by simpa [bG]using hk)];exact h1,h2,h3.mono hz,h4.mono hz,h5⟩
  ·rename_i hk;rw[if_neg hk]at o;exact o
 | box cs=>
  obtain⟨es,cs',h1,h2,h3⟩:=o;exact⟨es,cs',by rw[hd,hh rfl];exact h1,h2.mono hz hn,h3⟩
 | mp kvs=>
  obtain⟨kvs',h1,h2⟩:=o;exact⟨kvs',by rw[hd,hh rfl];exact h1,h2.mono hz⟩
theorem jQ (ν:Nu) (m:Tb aP) (e:Nat):∀ob',an m e=some ob'→∃ob,an m e=some ob∧ν e=ν e∧sameShape ob ob':=fun ob' h=>⟨ob',h,rfl,.refl _⟩
theorem R.heap (r:R ν Z st F H) (ho:∀id,dM ν st.m id→H'[id]? = H[id]?) (hz:∀id,Z id→ax H' id=ax H id):R ν Z st F H' where
 slot:=fun s sv hs=>(r.slot s sv hs).mono (fun id h=>⟨h,hz id h⟩) fun d _=>jQ ν st.m d
 obj:=fun d ob hd=>cO.mono (fun id h=>⟨h,hz id h⟩) rfl (fun hb=>ho _ ⟨d,ob,hd,hb,rfl⟩) (fun e _=>jQ ν st.m e) (r.obj d ob hd)
 inj:=r.inj
 apart:=r.apart
 zrow:=fun id h=>by rw[hz id h];exact r.zrow id h
 deep:=r.deep.mono hz
theorem R.put (r:R ν Z st F H) {d:Nat} {sv:SV} {y:V} (h:cq ν st.m H Z sv y):R ν Z { st with g:=aV st.g d sv } (set F d y) H where
 slot:=fun s x hs=>by
  by_cases e:d=s
  ·subst e;rw[bA]at hs;cases hs;rw[rF];exact h
  ·rw[cM st.g sv e]at hs;rw[gi _ _ e];exact r.slot s x hs
 obj:=r.obj
 inj:=r.inj
 apart:=r.apart
 zrow:=r.zrow
 deep:=r.deep
theorem Ev.slots (g:Tb SV):Ev Rv ν Z st H ν Z { st with g:=g } H:=
 ⟨Nat.le_refl _,fun _ _ _ _ _=>rfl,fun _ h=>⟨h,rfl⟩,fun _ h=>.inl h,fun _ h=>.inl h,fun _ _ ob' h=>⟨ob',h,rfl,.refl _⟩,rfl⟩
def gj (ν:Nu) (d:Nat) (p:Nat×Nat):Nu:=fun k=>if k=d then p else ν k
theorem fK (ν:Nu) (d:Nat) (p:Nat×Nat):gj ν d p d=p:=if_pos rfl
theorem n9 (ν:Nu) {d k:Nat} (p:Nat×Nat) (h:k≠d):gj ν d p k=ν k:=if_neg h
theorem jW {d:Nat} (h:st.new d=true):d∉st.pin∧an st.m d=none∧rM d st.g=false∧oU d st.m=false:=by
 unfold St.new at h;simp only[ζh,Bool.not_eq_true',Option.isNone_iff_eq_none,List.contains_eq_mem,decide_eq_false_iff_not]at h;exact⟨h.1.1.1,h.1.1.2,h.1.2,h.2⟩
theorem qg {d:Nat} {ob:aP} {p:Nat×Nat} {e:Nat} (h:e≠d):∀ob',an (aV m d ob) e=some ob'→∃ob,an m e=some ob∧gj ν d p e=ν e∧sameShape ob ob':=fun ob' h2=>by
 rw[cM m ob (Ne.symm h)]at h2;exact⟨ob',h2,n9 ν p h,.refl _⟩
theorem R.add (r:R ν Z st F H) {d:Nat} (hn:st.new d=true) {ob:aP} {p:Nat×Nat} (hb:bG ob=true→¬dM ν st.m p.1∧¬Z p.1) (ho:cO (gj ν d p) (aV st.m d ob) H Z d ob) :
 R (gj ν d p) Z { st with m:=aV st.m d ob } F H:=by
 obtain⟨n1,n2,n3,n4⟩:=jW hn;have key:∀d' ob',an (aV st.m d ob) d'=some ob'→d'≠d→an st.m d'=some ob':=fun d' ob' h e=>by rw[cM st.m ob (Ne.symm e)]at h;exact h
 refine⟨fun s sv hs=>?_,fun d' ob' hd=>?_,?_,?_,r.zrow,r.deep⟩
 ·refine(r.slot s sv hs).mono (fun id h=>⟨h,rfl⟩) fun e he=>qg ?_
  rintro rfl;rw[uQ n3 hs]at he;cases he
 ·by_cases e:d'=d
  ·subst e;simp only at hd;rw[bA]at hd;cases hd;exact ho
  ·have hd':=key d' ob' hd e;refine cO.mono (fun id h=>⟨h,rfl⟩) (n9 ν p e) (fun _=>rfl) (fun k hk=>qg ?_) (r.obj d' ob' hd')
   rintro rfl;rw[uS n4 hd']at hk;cases hk
 ·intro d1 d2 o1 o2 h1 h2 b1 b2 hp
  by_cases e1:d1=d <;> by_cases e2:d2=d
  ·rw[e1,e2]
  ·subst e1;rw[fK,n9 ν p e2]at hp;simp only at h1;rw[bA]at h1;cases h1;exact absurd ⟨d2,o2,key d2 o2 h2 e2,b2,hp.symm⟩ (hb b1).1
  ·subst e2;rw[fK,n9 ν p e1]at hp;simp only at h2;rw[bA]at h2;cases h2;exact absurd ⟨d1,o1,key d1 o1 h1 e1,b1,hp⟩ (hb b2).1
  ·rw[n9 ν p e1,n9 ν p e2]at hp;exact r.inj d1 d2 o1 o2 (key d1 o1 h1 e1) (key d2 o2 h2 e2) b1 b2 hp
 ·intro d1 o1 h1 b1
  by_cases e1:d1=d
  ·subst e1;simp only at h1;rw[bA]at h1;cases h1;rw[fK];exact(hb b1).2
  ·rw[n9 ν p e1];exact r.apart d1 o1 (key d1 o1 h1 e1) b1
theorem EK {d:Nat} {ob:aP} {p:Nat×Nat} {id:Nat} (h:dM (gj ν d p) (aV m d ob) id):dM ν m id∨(bG ob=true∧id=p.1):=by
 obtain⟨k,o,h1,h2,h3⟩:=h
 by_cases e:k=d
 ·subst e;rw[bA]at h1;cases h1;rw[fK]at h3;exact .inr ⟨h2,h3.symm⟩
 ·rw[n9 ν p e]at h3;rw[cM m ob (Ne.symm e)]at h1;exact .inl ⟨k,o,h1,h2,h3⟩
theorem Ev.add {d:Nat} (hn:st.new d=true) {ob:aP} {p:Nat×Nat} (hl:H.length≤H'.length) (hs:∀id,id<H.length→¬Rv id→H'[id]? = H[id]?) (hz:∀id,Z id→ax H' id=ax H id)
 (hp:bG ob=true→Rv p.1∨H.length≤p.1):Ev Rv ν Z st H (gj ν d p) Z { st with m:=aV st.m d ob } H' where
 len:=hl
 same:=fun id h _ _ hr=>hs id h hr
 rows:=fun id h=>⟨h,hz id h⟩
 own:=fun id h=>by
  rcases EK h with h|⟨h1,rfl⟩
  ·exact .inl h
  ·exact .inr (hp h1)
 frz:=fun id h=>.inl h
 pin:=fun e he ob' h=>by
  have:e≠d:=by rintro rfl;exact(jW hn).1 he
  exact qg this ob' h
 pins:=rfl
theorem R.eC (r:R ν Z st F H) {d:Nat} {ob ob':aP} (h0:an st.m d=some ob) (hs:sameShape ob ob') (hb:bG ob'=bG ob) (hh:∀id,id≠(ν d).1→H'[id]? = H[id]?) (hbb:bG ob=true)
 (ho:cO ν (aV st.m d ob') H' Z d ob'):R ν Z { st with m:=aV st.m d ob' } F H':=by
 have hzr:∀id,Z id→Z id∧ax H' id=ax H id:=fun id h=>⟨h,by
  unfold ax;rw[hh id (by rintro rfl;exact r.apart d ob h0 hbb h)]⟩
 have sm:∀e ob2,an (aV st.m d ob') e=some ob2→∃ob1,an st.m e=some ob1∧ν e=ν e∧sameShape ob1 ob2:=fun e ob2 h=>by
  by_cases k:e=d
  ·subst k;rw[bA]at h;cases h;exact⟨ob,h0,rfl,hs⟩
  ·rw[cM st.m ob' (Ne.symm k)]at h;exact⟨ob2,h,rfl,.refl _⟩
 have bk:∀e ob2,an (aV st.m d ob') e=some ob2→∃ob1,an st.m e=some ob1∧bG ob1=bG ob2:=fun e ob2 h=>by
  by_cases k:e=d
  ·subst k;rw[bA]at h;cases h;exact⟨ob,h0,hb.symm⟩
  ·rw[cM st.m ob' (Ne.symm k)]at h;exact⟨ob2,h,rfl⟩
 refine⟨fun s sv hs=>(r.slot s sv hs).mono hzr fun e _=>sm e,fun d' ob2 hd=>?_,?_,?_,fun id h=>by rw[(hzr id h).2];exact r.zrow id h,r.deep.mono fun id h=>(hzr id h).2⟩
 ·by_cases e:d'=d
  ·subst e;simp only at hd;rw[bA]at hd;cases hd;exact ho
  ·simp only at hd;rw[cM st.m ob' (Ne.symm e)]at hd;refine cO.mono hzr rfl (fun hb2=>hh _ fun h=>e (r.inj d' d ob2 ob hd h0 hb2 hbb h)) (fun k _=>sm k) (r.obj d' ob2 hd)
 ·intro d1 d2 o1 o2 h1 h2 b1 b2 hp;obtain⟨p1,k1,l1⟩:=bk d1 o1 h1;obtain⟨p2,k2,l2⟩:=bk d2 o2 h2;exact r.inj d1 d2 p1 p2 k1 k2 (by rw[l1];exact b1) (by rw[l2];exact b2) hp
 ·intro d1 o1 h1 b1;obtain⟨p1,k1,l1⟩:=bk d1 o1 h1;exact r.apart d1 p1 k1 (by rw[l1];exact b1)
theorem Ev.eC (r:R ν Z st F H) {d:Nat} {ob ob':aP} (h0:an st.m d=some ob) (hs:sameShape ob ob') (hb:bG ob'=bG ob) (hh:∀id,id≠(ν d).1→H'[id]? = H[id]?) (hbb:bG ob=true) (hl:H.length≤H'.length) :
 Ev Rv ν Z st H ν Z { st with m:=aV st.m d ob' } H' where
 len:=hl
 same:=fun id _ ho _ _=>hh id fun e=>ho ⟨d,ob,h0,hbb,e.symm⟩
 rows:=fun id h=>⟨h,by unfold ax;rw[hh id (by rintro rfl;exact r.apart d ob h0 hbb h)]⟩
 own:=fun id ⟨k,o,h1,h2,h3⟩=>by
  by_cases e:k=d
  ·subst e;simp only at h1;rw[bA]at h1;cases h1;exact .inl ⟨k,ob,h0,hbb,h3⟩
  ·simp only at h1;rw[cM st.m ob' (Ne.symm e)]at h1;exact .inl ⟨k,o,h1,h2,h3⟩
 frz:=fun id h=>.inl h
 pin:=fun e _ ob2 h=>by
  by_cases k:e=d
  ·subst k;simp only at h;rw[bA]at h;cases h;exact⟨ob,h0,rfl,hs⟩
  ·simp only at h;rw[cM st.m ob' (Ne.symm k)]at h;exact⟨ob2,h,rfl,.refl _⟩
 pins:=rfl
theorem R.less (r:R ν Z st F H) {g:Tb SV} {m':Tb aP} (hg:∀s sv,an g s=some sv→an st.g s=some sv) (hm:∀d ob,an m' d=some ob→an st.m d=some ob):R ν Z { st with g:=g,m:=m' } F H where
 slot:=fun s sv hs=>(r.slot s sv (hg s sv hs)).mono (fun id h=>⟨h,rfl⟩) fun e _ ob' h=>⟨ob',hm e ob' h,rfl,.refl _⟩
 obj:=fun d ob hd=>cO.mono (fun id h=>⟨h,rfl⟩) rfl (fun _=>rfl) (fun e _ ob' h=>⟨ob',hm e ob' h,rfl,.refl _⟩) (r.obj d ob (hm d ob hd))
 inj:=fun d d' ob ob' h1 h2=>r.inj d d' ob ob' (hm d ob h1) (hm d' ob' h2)
 apart:=fun d ob h=>r.apart d ob (hm d ob h)
 zrow:=r.zrow
 deep:=r.deep
theorem Ev.less {g:Tb SV} {m':Tb aP} (hm:∀d ob,an m' d=some ob→an st.m d=some ob):Ev Rv ν Z st H ν Z { st with g:=g,m:=m' } H:=
 ⟨Nat.le_refl _,fun _ _ _ _ _=>rfl,fun _ h=>⟨h,rfl⟩,fun _ ⟨d,ob,h1,h2,h3⟩=>.inl ⟨d,ob,hm d ob h1,h2,h3⟩,fun _ h=>.inl h,fun e _ ob' h=>⟨ob',hm e ob' h,rfl,.refl _⟩,rfl⟩
theorem Ev.heap (hl:H.length≤H'.length) (hs:∀id,id<H.length→¬dM ν st.m id→¬Z id→¬Rv id→H'[id]? = H[id]?) (hz:∀id,Z id→ax H' id=ax H id):Ev Rv ν Z st H ν Z st H':=
 ⟨hl,hs,fun id h=>⟨h,hz id h⟩,fun _ h=>.inl h,fun _ h=>.inl h,fun _ _ ob' h=>⟨ob',h,rfl,.refl _⟩,rfl⟩
end
end Go.VE
namespace Go.VE
variable [aW]
section
variable {Rv:Nat→Prop} {ν ν':Nu} {Z Z':Nat→Prop} {st st':St} {m m':Tb aP} {F F':Frame} {H H':aq}
theorem eA.Ch {xs ys:List (List V)} (h:eA H Z xs ys):rq H Z ys:=fun c hc u hu=>by
 obtain⟨i,hi⟩:=List.mem_iff_getElem?.1 hc;have hl:i<xs.length:=by rw[h.1];exact(ζe.1 hi).1
 have hr:=h.2 i _ c (ζd hl) hi;obtain⟨j,hj⟩:=List.mem_iff_getElem?.1 hu;have hl2:j<(xs[i]).length:=by rw[hr.1];exact(ζe.1 hj).1
 exact⟨_,hr.2 j _ u (ζd hl2) hj⟩
theorem eA.same {xs:List (List V)} (h:V.kP xs=true):eA H Z xs xs:=
 ⟨rfl,fun j u v hu hv=>by rw[hu]at hv;cases hv;exact b8.same (jN.1 h j u hu)⟩
theorem kF {z:List V} (h:V.bF z=true):∀n,V.kP (List.replicate n z)=true
 | 0=>rfl
 | n+1=>by simp only[List.replicate_succ,V.kP,h,kF h n,Bool.and_self]
theorem yh {es:Nat}:∀{ps qs:List (Nat×V)} {xs xs' r:List (List V)},eA H Z xs xs'→ps.map (·.1)=qs.map (·.1)→b8 H Z (ps.map (·.2)) (qs.map (·.2))→eU es xs ps=some r→∃r',eU es xs' qs=some r'∧eA H Z r r'
 | [],qs,xs,xs',r,hx,h1,h2,h=>by
  have:qs=[]:=by cases qs with|nil=>rfl|cons _ _=>simp at h1
  subst this;simp only[eU,ζa]at h ⊢;subst h;exact⟨_,rfl,hx⟩
 | (i,v)::ps,qs,xs,xs',r,hx,h1,h2,h=>by
  cases qs with
  | nil=>simp at h1
  | cons q qs=>
   obtain⟨j,w⟩:=q;simp only[List.map_cons,List.cons.injEq]at h1;obtain⟨e,h1⟩:=h1;subst e;obtain⟨w',ws,e,h3,h4⟩:=h2.inv;simp only[List.map_cons,List.cons.injEq]at e;obtain⟨rfl,rfl⟩:=e;have hc:=h3.cells;simp only[eU]at h ⊢;split at h
   ·rename_i hcnd;rw[if_pos ⟨by rw[←hc.1];exact hcnd.1,by rw[←hx.1];exact hcnd.2.1,by rw[hc.one];exact hcnd.2.2⟩]
    exact yh (hx.set i hc) h1 h4 h
   ·simp at h
theorem zip_fst:∀{idx:List Nat} {xs:List V},idx.length=xs.length→(idx.zip xs).map (·.1)=idx
 | [],xs,_=>by simp
 | i::idx,[],h=>by simp at h
 | i::idx,x::xs,h=>by simp[zip_fst (idx:=idx) (xs:=xs) (by simpa using h)]
theorem A5:∀{idx:List Nat} {xs:List V},idx.length=xs.length→(idx.zip xs).map (·.2)=xs
 | [],[],_=>by simp
 | [],x::xs,h=>by simp at h
 | i::idx,[],h=>by simp at h
 | i::idx,x::xs,h=>by simp[A5 (idx:=idx) (xs:=xs) (by simpa using h)]
theorem yf {x:SV} {y:V} (h:rX m x=true) (r:cq ν m H Z x y):y.cells=[y]∧y.one=true:=by
 cases x with
 | v x=>simp[rX]at h
 | own d=>
  obtain⟨ob,hob⟩:=Option.isSome_iff_exists.1 h;obtain⟨k,es,xs,rfl,rfl⟩:=r.iJ hob;cases k <;> exact⟨rfl,rfl⟩
 | ptr d o=>
  obtain⟨ob,hob⟩:=Option.isSome_iff_exists.1 h;obtain⟨cs,rfl,rfl⟩:=r.mK hob;exact⟨rfl,rfl⟩
 | el d i o=>
  obtain⟨ob,hob⟩:=Option.isSome_iff_exists.1 h;obtain⟨k,es,xs,rfl,_,rfl⟩:=r.uk hob;exact⟨rfl,rfl⟩
 | mp d=>
  obtain⟨ob,hob⟩:=Option.isSome_iff_exists.1 h;obtain⟨kvs,rfl,rfl⟩:=r.zj hob;exact⟨rfl,rfl⟩
 | clo f a b=>obtain⟨a',b',rfl,_⟩:=r.iL;exact⟨rfl,rfl⟩
 | tup l=>simp[rX]at h
 | yl id=>simp[rX]at h
theorem IT {a:Jc} {svs:List SV} {ys:List V} {d:Nat} {ob:aP} {sv:SV} (hk:sW (.a a)=true) (r:bg ν m H Z svs ys) (h:mm m a svs d=some (ob,sv)) :
 ∃o mk,iy a ys=some (o,mk)∧bG ob=true∧o≠.free∧∀(id:Nat) (ν':Nu) (m':Tb aP) (H':aq),ν' d=(id,0)→an m' d=some ob→H'[id]? = some o→(∀k,Z k→ax H' k=ax H k) →
  (∀e,SV.cz e svs=true→∀ob',an m' e=some ob'→∃ob,an m e=some ob∧ν' e=ν e∧sameShape ob ob')→cO ν' m' H' Z d ob∧cq ν' m' H' Z sv (mk.val id):=by
 unfold mm at h;split at h
 ·
  rename_i size zero;simp only[ζa,ζc]at h;obtain⟨rfl,rfl⟩:=h;rw[r.b7];simp only[sW,ζh]at hk;refine⟨_,_,rfl,rfl,by simp,fun id ν' m' H' e1 e2 e3 e4 e5=>⟨⟨_,zero,by rw[e1];exact e3,bg.qh (b8.same hk.1),hk.2⟩,?_⟩⟩
  exact .ptr _ _ _ fun ob' h'=>by rw[e2]at h';cases h';exact⟨_,rfl,by rw[e1];rfl⟩
 ·
  rename_i x;split at h
  ·rename_i hone;simp only[ζa,ζc]at h;obtain⟨rfl,rfl⟩:=h;obtain⟨y,_,rfl,h1,h2⟩:=r.inv;rw[h2.b7];have hc:=h1.fr.cells;refine⟨.row y.cells.length [y.cells],.ptr,by simp only[iy,hc.one,hone,if_true],rfl,by simp,fun id ν' m' H' e1 e2 e3 e4 e5=>⟨⟨_,y.cells,by rw[e1];exact e3,bg.qh (hc.mono fun k hk=>⟨hk,e4 k hk⟩),by rw[hc.one];exact hone⟩,?_⟩⟩
   exact .ptr _ _ _ fun ob' h'=>by rw[e2]at h';cases h';exact⟨_,rfl,by rw[e1];rfl⟩
  ·simp at h
 ·
  rename_i x hx;split at h
  ·rename_i hl;simp only[ζa,ζc]at h;obtain⟨rfl,rfl⟩:=h;obtain⟨y,_,rfl,h1,h2⟩:=r.inv;rw[h2.b7];obtain⟨c1,c2⟩:=yf hl h1;refine⟨.row [y].length [[y]],.ptr,by simp only[iy,c1,List.all_cons,c2,List.all_nil,Bool.and_self,if_true],rfl,by simp,fun id ν' m' H' e1 e2 e3 e4 e5=>⟨⟨_,[y],by rw[e1];exact e3,.cons (h1.mono (fun k hk=>⟨hk,e4 k hk⟩) fun e he=>e5 e (by simp[SV.cz,he])) .nil,by simp[c2]⟩,?_⟩⟩
   exact .ptr _ _ _ fun ob' h'=>by rw[e2]at h';cases h';exact⟨_,rfl,by rw[e1];rfl⟩
  ·simp at h
 ·
  rename_i size zero k n k' c;obtain⟨_,_,rfl,h1,h2⟩:=r.inv;obtain⟨_,_,rfl,h3,h4⟩:=h2.inv;rw[h1.fr.int,h3.fr.int,h4.b7];split at h
  ·rename_i hc;simp only[ζa,ζc]at h;obtain⟨rfl,rfl⟩:=h;simp only[sW]at hk;have hb:bC (if n=c then Fl.row else Fl.part)=true:=by split <;> rfl
   refine⟨_,_,by simp only[iy];rw[if_pos hc],hb,by simp,fun id ν' m' H' e1 e2 e3 e4 e5=>⟨?_,?_⟩⟩
   ·simp only[cO,hb,if_true,e1];have hg:=kF hk c.toNat;have hnc:n.toNat≤c.toNat:=by omega
    refine⟨_,e3,by simp;omega,?_,(eA.same hg).Ch,fun e=>?_⟩
    ·simp only[List.drop_zero,List.length_replicate,List.take_replicate,Nat.min_eq_left hnc];exact eA.same (kF hk _)
    ·have:n=c:=by
      by_cases e':n=c
      ·exact e'
      ·rw[if_neg e']at e;cases e
     subst this;simp
   ·refine .own _ _ fun ob' h'=>?_
    rw[e2]at h';cases h';exact⟨_,_,_,rfl,by rw[oA hb,e1];simp[Mk.val]⟩
  ·simp at h
 ·
  rename_i vs size len zero idx;split at h
  ·rename_i xs hx;split at h
   ·rename_i hl;obtain⟨rows,hr,e⟩:=ζf.1 h;simp only[ζc]at e;obtain⟨rfl,rfl⟩:=e;have hf:=r.dc hx;simp only[sW]at hk;obtain⟨rows',hr',hrr⟩:=yh (H:=H) (Z:=Z) (qs:=idx.zip ys) (eA.same (kF hk len)) (by rw[zip_fst hl,zip_fst (by rw[←hf.1];exact hl)]) (by rw[A5 hl,A5 (by rw[←hf.1];exact hl)];exact hf) hr
    have hlen:rows'.length=len:=by
     have:∀{ps:List (Nat×V)} {a r:List (List V)},eU size a ps=some r→r.length=a.length:=by
      intro ps
      induction ps with
      | nil=>intro a r h;simp only[eU,ζa]at h;subst h;rfl
      | cons p ps ih=>
       intro a r h;obtain⟨i,v⟩:=p;simp only[eU]at h;split at h
       ·rw[ih h];simp
       ·simp at h
     rw[this hr'];simp
    refine⟨.row size rows',.sl size len,by simp only[iy];rw[if_pos (by rw[←hf.1];exact hl),hr'];rfl,rfl,by simp,fun id ν' m' H' e1 e2 e3 e4 e5=>⟨?_,?_⟩⟩
    ·have hr2:=hrr.mono (H':=H') (Z':=Z) fun k hk=>⟨hk,e4 k hk⟩
     simp only[cO,bC,if_true,e1];refine⟨_,e3,by simp[hrr.1],?_,hr2.Ch,fun _=>⟨trivial,hrr.1.symm⟩⟩
     simp only[List.drop_zero,hrr.1,List.take_length];exact hr2
    ·refine .own _ _ fun ob' h'=>?_
     rw[e2]at h';cases h';exact⟨_,_,_,rfl,by rw[hrr.1,hlen];simp[pF,e1,Mk.val]⟩
   ·simp at h
  ·simp at h
 ·
  simp only[ζa,ζc]at h;obtain⟨rfl,rfl⟩:=h;rw[r.b7];refine⟨_,_,rfl,rfl,by simp,fun id ν' m' H' e1 e2 e3 e4 e5=>⟨⟨_,by rw[e1];exact e3,rfl,by simp⟩,?_⟩⟩
  exact .mp _ _ fun ob' h'=>by rw[e2]at h';cases h';exact⟨_,rfl,by rw[e1];rfl⟩
 ·simp at h
theorem bg.S9 {cs:List SV} {cs':List V} (h:bg ν m H Z cs cs') {size o:Nat} {x:SV} {y:V} {r:List SV} (hx:cq ν m H Z x y) (hp:putCells m size o x cs=some r) (hone:cs'.all V.one=true) :
 y.cells.length=size∧o+size≤cs'.length∧y.cells.all V.one=true∧bg ν m H Z r (cs'.take o++y.cells++cs'.drop (o+y.cells.length))∧(cs'.take o++y.cells++cs'.drop (o+y.cells.length)).all V.one=true:=by
 have hall:∀k:Nat,(cs'.take k).all V.one=true∧(cs'.drop k).all V.one=true:=fun k=>
  ⟨List.all_eq_true.2 fun z hz=>List.all_eq_true.1 hone z (List.mem_of_mem_take hz),List.all_eq_true.2 fun z hz=>List.all_eq_true.1 hone z (List.mem_of_mem_drop hz)⟩
 unfold putCells at hp;split at hp
 ·rename_i x;split at hp
  ·rename_i hc;simp only[ζa]at hp;subst hp;have hf:=hx.fr.cells;refine⟨by rw[←hf.1];exact hc.1,by rw[←h.1];exact hc.2.1,by rw[hf.one];exact hc.2.2,?_,?_⟩
   ·have e:y.cells.length=size:=by rw[←hf.1];exact hc.1
    rw[e];exact((h.take o).append (bg.qh hf)).append (h.drop _)
   ·simp only[List.all_append,(hall _).1,(hall _).2,hf.one,hc.2.2,Bool.and_self]
  ·simp at hp
 ·split at hp
  ·rename_i hc;simp only[ζa]at hp;subst hp;obtain⟨c1,c2⟩:=yf hc.1 hx;rw[c1];refine⟨by simp[hc.2.1],by rw[←h.1];have:=hc.2.2;omega,by simp[c2],?_,?_⟩
   ·exact((h.take o).append (.cons hx .nil)).append (h.drop _)
   ·simp only[List.all_append,(hall _).1,(hall _).2,List.all_cons,c2,List.all_nil,Bool.and_self]
  ·simp at hp
theorem s6 {size:Nat} {x:SV} {y:V} {xs:List (List V)} (r:cq ν m H Z x y) (ho:∀d ob,an m d=some ob→cO ν m H Z d ob) (h:kO m size x=some xs):∃ys,dg H size y=some ys∧eA H Z xs ys:=by
 unfold kO at h;split at h
 ·split at h
  ·rename_i k es xs' hob;obtain⟨_,_,_,e,rfl⟩:=r.iJ hob;cases e;have o:=ho _ _ hob;simp only[cO]at o;split at h
   ·rename_i hk;rw[if_pos hk]at o;split at h
    ·rename_i he;simp only[ζa]at h;subst h;obtain⟨ys,hr,hl,hf,_⟩:=o;rw[oA hk];exact⟨_,by simp only[dg,if_pos he,hr,ζb,Ob.rows,if_pos hl],hf⟩
    ·simp at h
   ·rename_i hk;simp only[ζa]at h;subst h;refine⟨[],?_,rfl,by simp⟩
    cases k <;> simp[bC]at hk <;> rfl
  ·simp at h
 ·simp only[ζa]at h;subst h;rw[r.fr.aF];exact⟨[],rfl,rfl,by simp⟩
 ·simp only[ζa]at h;subst h;rw[r.fr.cC];exact⟨[],rfl,rfl,by simp⟩
 ·split at h
  ·rename_i es xs' he;simp only[ζa]at h;subst h;have hg:=r.fr.good;rcases r.fr.je with rfl|⟨id,off,ys,rfl,hz,hr,hl,hf⟩
   ·exact⟨_,by simp only[dg,if_pos he],eA.same (by simpa [V.good]using hg)⟩
   ·unfold ax at hr;exact⟨_,by simp only[dg,if_pos he,hr,if_pos hl],hf⟩
  ·simp at h
 ·simp at h
theorem Ev.re {m1:Tb aP} (hm:∀d ob,an m1 d=some ob→an st.m d=some ob) {d:Nat} (hn:d∉st.pin) {ob:aP} {p:Nat×Nat} (hl:H.length≤H'.length) (hs:∀id,id<H.length→¬dM ν st.m id→¬Rv id→H'[id]? = H[id]?)
 (hz:∀id,Z id→ax H' id=ax H id) (hp:bG ob=true→dM ν st.m p.1∨Rv p.1∨H.length≤p.1):Ev Rv ν Z st H (gj ν d p) Z { st with m:=aV m1 d ob } H' where
 len:=hl
 same:=fun id h ho _ hr=>hs id h ho hr
 rows:=fun id h=>⟨h,hz id h⟩
 own:=fun id h=>by
  rcases EK h with h|⟨h1,rfl⟩
  ·obtain⟨k,o,h1,h2,h3⟩:=h;exact .inl ⟨k,o,hm k o h1,h2,h3⟩
  ·exact hp h1
 frz:=fun id h=>.inl h
 pin:=fun e he ob' h=>by
  have:e≠d:=by rintro rfl;exact hn he
  obtain⟨o,h1,h2,h3⟩:=qg (ν:=ν) (p:=p) this ob' h;exact⟨o,hm e o h1,h2,h3⟩
 pins:=rfl
def Kept (dst:Option Nat) (ν:Nu) (m:Tb aP) (ν':Nu) (m':Tb aP):Prop:=∀e ob',dst≠some e→an m' e=some ob'→∃ob,an m e=some ob∧ν' e=ν e∧sameShape ob ob'
theorem Kept.refl {dst:Option Nat}:Kept dst ν m ν m:=fun e ob' _ h=>⟨ob',h,rfl,.refl _⟩
theorem Kept.eC {dst:Option Nat} {d:Nat} {ob ob':aP} (h0:an m d=some ob) (hs:sameShape ob ob'):Kept dst ν m ν (aV m d ob'):=fun e ob2 _ h=>by
 by_cases k:e=d
 ·subst k;rw[bA]at h;cases h;exact⟨ob,h0,rfl,hs⟩
 ·rw[cM m ob' (Ne.symm k)]at h;exact⟨ob2,h,rfl,.refl _⟩
theorem Kept.add {d:Nat} {ob:aP} {p:Nat×Nat} {m1:Tb aP} (hm:∀d ob,an m1 d=some ob→an m d=some ob):Kept (some d) ν m (gj ν d p) (aV m1 d ob):=fun e ob' he h=>by
 have:e≠d:=fun h=>he (by rw[h])
 obtain⟨o,h1,h2,h3⟩:=qg (ν:=ν) (p:=p) this ob' h;exact⟨o,hm e o h1,h2,h3⟩
theorem iu {d:Nat}:∀e ob,an (dh d m) e=some ob→an m e=some ob:=fun _ _ h=>(mb h).2
theorem zF.put {k x y:V} {a b r:List (V×V)} (hks:k.scalar=true) (h:zF H Z a b) (hx:FR H Z x y) (hp:lY k x a=some r):∃r',lY k y b=some r'∧zF H Z r r':=by
 unfold lY at hp;obtain⟨f1,f2⟩:=y9 (k:=k) (i:=0) h;split at hp
 ·rename_i j v hf;simp only[ζa]at hp;subst hp;obtain⟨v',hf',_⟩:=f2 j v hf;refine⟨b.set j (k,y),by unfold lY;rw[hf'],by simp[h.1],fun i u w hu hw=>?_⟩
  rw[List.getElem?_set]at hu hw;rw[←h.1]at hw;split at hu
  ·rename_i e;rw[if_pos e]at hw;split at hu
   ·rename_i e2;rw[if_pos e2]at hw;cases hu;cases hw;exact⟨⟨rfl,hks⟩,hx⟩
   ·simp at hu
  ·rename_i e;rw[if_neg e]at hw;exact h.2 i u w hu hw
 ·rename_i hf;simp only[ζa]at hp;subst hp;refine⟨b++[(k,y)],by unfold lY;rw[f1 hf],by simp[h.1],fun i u w hu hw=>?_⟩
  by_cases hi:i<a.length
  ·rw[List.getElem?_append_left hi]at hu;rw[List.getElem?_append_left (by rw[←h.1];exact hi)]at hw
   exact h.2 i u w hu hw
  ·rw[List.getElem?_append_right (by omega)]at hu
   rw[List.getElem?_append_right (by rw[←h.1];omega),←h.1]at hw
   have:i-a.length=0:=by
    have:=(ζe.1 hu).1;simp at this;omega
   rw[this]at hu hw;simp at hu hw;subst hu;subst hw;exact⟨⟨rfl,hks⟩,hx⟩
 ·simp at hp
theorem DM (r:R ν Z st F H) {dst:Option Nat} {l:E9} {svs:List SV} {ys:List V} {sv:SV} (hsv:bg ν st.m H Z svs ys) (h:lF st dst l svs=some (sv,st')) :
 ∃y H' ν',dS H l ys=some (y,H')∧R ν' Z st' F H'∧cq ν' st'.m H' Z sv y∧Ev (fun _=>False) ν Z st H ν' Z st' H'∧Kept dst ν st.m ν' st'.m:=by
 unfold lF at h;split at h
 ·
  rename_i size d o x;obtain⟨_,_,rfl,h1,h2⟩:=hsv.inv;obtain⟨y,_,rfl,h3,h4⟩:=h2.inv;rw[h4.b7];split at h
  ·rename_i cs hob;obtain⟨cs1,hp,e⟩:=ζf.1 h;simp only[ζc]at e;obtain⟨rfl,rfl⟩:=e;obtain⟨_,_,rfl⟩:=h1.mK hob;obtain⟨es,cs',hr,hc,hone⟩:=r.obj d _ hob;obtain⟨p1,p2,p3,p4,p5⟩:=bg.S9 hc h3 hp hone;have hh:∀id,id≠(ν d).1→(H.set (ν d).1 (.row es [cs'.take o++y.cells++cs'.drop (o+y.cells.length)]))[id]? = H[id]? := fun id hne=>by rw[List.getElem?_set];rw[if_neg (Ne.symm hne)]
   have hz:∀id,Z id→Z id∧ax (H.set (ν d).1 (.row es [cs'.take o++y.cells++cs'.drop (o+y.cells.length)])) id=ax H id:=fun id hz=>⟨hz,by
    unfold ax;rw[hh id (by rintro rfl;exact r.apart d _ hob rfl hz)]⟩
   refine⟨.undef,H.set (ν d).1 (.row es [cs'.take o++y.cells++cs'.drop (o+y.cells.length)]),ν,?_,?_,.v _ _ (.same _ rfl),Ev.eC r hob trivial rfl hh rfl (by simp),Kept.eC hob trivial⟩
   ·simp only[dS,hr,List.getElem?_cons_zero,if_pos (And.intro p1 (And.intro p2 p3)),List.set_cons_zero]
   ·refine r.eC hob (ob':=.box cs1) trivial rfl hh rfl ⟨es,_,?_,p4.mono hz (fun e _ ob' he=>?_),p5⟩
    ·have:=(ζe.1 hr).1;rw[List.getElem?_set_self this]
    ·by_cases k:e=d
     ·subst k;rw[bA]at he;cases he;exact⟨_,hob,rfl,trivial⟩
     ·rw[cM st.m _ (Ne.symm k)]at he;exact⟨ob',he,rfl,.refl _⟩
  ·simp at h
 ·
  rename_i size d i o x;obtain⟨_,_,rfl,h1,h2⟩:=hsv.inv;obtain⟨y,_,rfl,h3,h4⟩:=h2.inv;rw[h4.b7];split at h
  ·rename_i k es xs hob;split at h
   ·rename_i cs hcs;split at h
    ·rename_i hc;simp only[ζa,ζc]at h;obtain⟨rfl,rfl⟩:=h;obtain⟨_,_,_,e,hk,rfl⟩:=h1.uk hob;cases e;have ob:=r.obj d _ hob;simp only[cO,hk,if_true]at ob;obtain⟨rs,hr,hl,hf,hsol,hrow⟩:=ob;obtain⟨c,hcc,hfc⟩:=hf.get hcs;have hi:=(ζe.1 hcs).1;rw[List.getElem?_take,if_pos hi,List.getElem?_drop]at hcc;have hy:=h3.fr.cells;have q1:y.cells.length=size:=by rw[←hy.1];exact hc.1
     have q2:o+size≤c.length:=by rw[←hfc.1];exact hc.2.1
     have q3:y.cells.all V.one=true:=by rw[hy.one];exact hc.2.2
     have hnew:b8 H Z (cs.take o++x.cells++cs.drop (o+x.cells.length)) (c.take o++y.cells++c.drop (o+y.cells.length)):=by
      rw[hc.1,q1];exact((hfc.take o).append hy).append (hfc.drop _)
     generalize hN:(c.take o++y.cells++c.drop (o+y.cells.length))=nc at hnew;have hh:∀id,id≠(ν d).1→(H.set (ν d).1 (.row es (rs.set ((ν d).2+i) nc)))[id]? = H[id]? := fun id hne=>by rw[List.getElem?_set];rw[if_neg (Ne.symm hne)]
     have hbk:bG (.sl k es xs)=true:=hk;have hz:∀id,Z id→Z id∧ax (H.set (ν d).1 (.row es (rs.set ((ν d).2+i) nc))) id=ax H id:=fun id hz=>⟨hz,by
      unfold ax;rw[hh id (by rintro rfl;exact r.apart d _ hob hbk hz)]⟩
     have hsh:sameShape (.sl k es xs) (.sl k es (xs.set i (cs.take o++x.cells++cs.drop (o+x.cells.length)))):=⟨rfl,rfl,by simp⟩
     refine⟨.undef,H.set (ν d).1 (.row es (rs.set ((ν d).2+i) nc)),ν,?_,?_,.v _ _ (.same _ rfl),Ev.eC r hob hsh rfl hh hbk (by simp),Kept.eC hob hsh⟩
     ·simp only[dS,hr,hcc,if_pos (And.intro q1 (And.intro q2 q3)),hN]
     ·refine r.eC hob hsh rfl hh hbk ?_;simp only[cO,hk,if_true];have hlt:=(ζe.1 hr).1;refine⟨_,List.getElem?_set_self hlt,by simpa using hl,?_,?_,fun e=>?_⟩
      ·have e1:List.take (xs.set i (cs.take o++x.cells++cs.drop (o+x.cells.length))).length (List.drop (ν d).2 (rs.set ((ν d).2+i) nc))=((rs.drop (ν d).2).take xs.length).set i nc:=by
        rw[List.length_set,List.drop_set,if_neg (by omega),List.take_set]
        congr 1;omega
       rw[e1];exact(hf.set i hnew).mono hz
      ·intro cc hcc' u hu;rcases List.mem_or_eq_of_mem_set hcc' with hm|rfl
       ·obtain⟨z,hz'⟩:=hsol cc hm u hu;exact⟨z,hz'.mono hz⟩
       ·obtain⟨j,hj⟩:=List.mem_iff_getElem?.1 hu;have hjl:=(ζe.1 hj).1;rw[←hnew.1]at hjl;exact⟨_,(hnew.2 j _ u (ζd hjl) hj).mono hz⟩
      ·obtain⟨a1,a2⟩:=hrow e;exact⟨a1,by simpa using a2⟩
    ·simp at h
   ·simp at h
  ·simp at h
 ·
  rename_i kk d k x;obtain⟨_,_,rfl,h1,h2⟩:=hsv.inv;obtain⟨k',_,rfl,h3,h4⟩:=h2.inv;obtain⟨y,_,rfl,h5,h6⟩:=h4.inv;rw[h6.b7];split at h
  ·rename_i kvs hob;split at h
   ·rename_i hk;obtain⟨kvs1,hp,e⟩:=ζf.1 h;simp only[ζc]at e;obtain⟨rfl,rfl⟩:=e;obtain⟨_,_,rfl⟩:=h1.zj hob;have hkk:=h3.fr.scalar.1 (rA hk);subst hkk;obtain⟨kvs',hr,hkv⟩:=r.obj d _ hob;obtain⟨r',hr',hrr⟩:=hkv.put (rA hk) h5.fr hp;have hh:∀id,id≠(ν d).1→(H.set (ν d).1 (.map r'))[id]? = H[id]? := fun id hne=>by rw[List.getElem?_set];rw[if_neg (Ne.symm hne)]
    have hz:∀id,Z id→Z id∧ax (H.set (ν d).1 (.map r')) id=ax H id:=fun id hz=>⟨hz,by
     unfold ax;rw[hh id (by rintro rfl;exact r.apart d _ hob rfl hz)]⟩
    refine⟨.undef,H.set (ν d).1 (.map r'),ν,?_,?_,.v _ _ (.same _ rfl),Ev.eC r hob trivial rfl hh rfl (by simp),Kept.eC hob trivial⟩
    ·simp only[dS,hr,hk,if_true,hr',Option.map_some]
    ·refine r.eC hob (ob':=.mp kvs1) trivial rfl hh rfl ⟨r',?_,hrr.mono hz⟩;rw[List.getElem?_set_self (ζe.1 hr).1]
   ·simp at h
  ·simp at h
 ·
  rename_i size s x;obtain⟨y1,_,rfl,h1,h2⟩:=hsv.inv;obtain⟨y2,_,rfl,h3,h4⟩:=h2.inv;rw[h4.b7];split at h
  ·rename_i xs e1 e2;obtain⟨a1,p1,_⟩:=s6 h1 r.obj e1;obtain⟨a2,p2,q2⟩:=s6 h3 r.obj e2;have:a2=[]:=List.length_eq_zero_iff.1 (by have:=q2.1;simpa using this.symm)
   subst this
   cases dst with
   | none=>simp at h
   | some t=>
    have lit:∀(k:Fl) (x0:V),bC k=false→pF (ν t) k size 0=x0→st.new t=true→(∀y,FR H Z x0 y→y=x0)→FR H Z x0 y1 →
     ∃y H' ν',dS H (.append size) [y1,y2]=some (y,H')∧R ν' Z { st with m:=aV st.m t (.sl k size []) } F H'∧cq ν' (aV st.m t (.sl k size [])) H' Z (.own t) y∧Ev (fun _=>False) ν Z st H ν' Z { st with m:=aV st.m t (.sl k size []) } H'∧Kept (some t) ν st.m ν' (aV st.m t (.sl k size [])):=fun k x0 hk hxx hn hx hf=>by
     have hnb:bG (.sl k size [])=true→False:=by simp[bG,hk]
     refine⟨y1,H,gj ν t (ν t),by simp only[dS,p1,p2],r.add hn (p:=ν t) (ob:=.sl k size []) (fun h=>(hnb h).elim) (by simp[cO,hk]),.own _ _ fun ob' h'=>?_,Ev.add (H':=H) hn (Nat.le_refl _) (fun _ _ _=>rfl) (fun _ _=>rfl) (fun h=>(hnb h).elim),Kept.add fun _ _ h=>h⟩
     rw[bA]at h';cases h';exact⟨_,_,_,rfl,by rw[fK,hx _ hf];exact hxx.symm⟩
    cases s with
    | own d=>
     dsimp only at h;split at h
     ·rename_i ob hob;split at h
      ·rename_i hnew;simp only[ζa,ζc]at h;obtain⟨rfl,rfl⟩:=h;simp only[kO,hob]at e1
       cases ob with
       | sl k es xs'=>
        obtain⟨_,_,_,e,rfl⟩:=h1.iJ hob;cases e;have r1:R ν Z { st with m:=dh d st.m } F H:=r.less (g:=st.g) (fun _ _ h=>h) iu
        obtain⟨n1,_,_,_⟩:=jW hnew;have hob2:cO (gj ν t (ν d)) (aV (dh d st.m) t (.sl k es xs')) H Z t (.sl k es xs'):=by
         have o:=r.obj d _ hob;simp only[cO,fK]at o ⊢;exact o
        refine⟨pF (ν d) k es xs'.length,H,gj ν t (ν d),by simp only[dS,p1,p2],r1.add hnew (p:=ν d) (fun hb=>⟨fun ho=>?_,r.apart d _ hob hb⟩) hob2,.own _ _ fun ob' h'=>?_,?_,Kept.add iu⟩
        ·obtain⟨k2,o2,g1,g2,g3⟩:=ho;obtain⟨g4,g5⟩:=mb g1;exact g4 (r.inj d k2 _ o2 hob g5 hb g2 g3.symm)
        ·rw[bA]at h';cases h';exact⟨_,_,_,rfl,by rw[fK]⟩
        ·by_cases hb:bG (.sl k es xs')=true
         ·exact Ev.re (st:=st) (m1:=dh d st.m) iu n1 (Nat.le_refl _) (fun _ _ _ _=>rfl) (fun _ _=>rfl) (fun _=>.inl ⟨d,_,hob,hb,rfl⟩)
         ·exact(Ev.less (g:=st.g) iu).trans (Ev.add (H':=H) hnew (Nat.le_refl _) (fun _ _ _=>rfl) (fun _ _=>rfl) fun h=>absurd h hb)
       | box cs=>cases e1
       | mp kvs=>cases e1
      ·simp at h
     ·simp at h
    | v x0=>
     cases x0 with
     | aF=>
      dsimp only at h;split at h
      ·rename_i hn;simp only[ζa,ζc]at h;obtain⟨rfl,rfl⟩:=h;exact lit .nil _ rfl rfl hn (fun y h=>h.aF) h1.fr
      ·simp at h
     | cC=>
      dsimp only at h;split at h
      ·rename_i hn;simp only[ζa,ζc]at h;obtain⟨rfl,rfl⟩:=h;exact lit .emp _ rfl rfl hn (fun y h=>h.cC) h1.fr
      ·simp at h
     | _=>simp at h
    | _=>simp at h
  ·rename_i xs zs hne e1 e2;split at h
   ·rename_i hc;obtain⟨a1,p1,q1⟩:=s6 h1 r.obj e1;obtain⟨a2,p2,q2⟩:=s6 h3 r.obj e2
    cases dst with
    | none=>simp at h
    | some t=>
     dsimp only at h;generalize hm1:giveUp st.m s=m1 at h;split at h
     ·rename_i hnew;simp only[ζa,ζc]at h;obtain⟨rfl,rfl⟩:=h;obtain⟨n1,_,_,_⟩:=jW hnew;have grow:∃H1,iq H y1=some H1∧H1.length=H.length∧(∀id,¬dM ν st.m id→H1[id]? = H[id]?) ∧
       (∀id,dM ν m1 id→H1[id]? = H[id]?)∧(∀id,Z id→ax H1 id=ax H id):=by
       subst hm1
       cases s with
       | own d=>
        simp only[kO]at e1;split at e1
        ·rename_i k es xs' hob;obtain⟨_,_,_,e,rfl⟩:=h1.iJ hob;cases e
         by_cases hk:bC k=true
         ·have o:=r.obj d _ hob;simp only[cO,hk,if_true]at o;obtain⟨ys,hr,_⟩:=o;have hbk:bG (.sl k es xs')=true:=hk;have hh:∀id,id≠(ν d).1→(H.set (ν d).1 .dead)[id]? = H[id]? := fun id hne=>by rw[List.getElem?_set];rw[if_neg (Ne.symm hne)]
          refine⟨H.set (ν d).1 .dead,by rw[oA hk];simp only[iq,hr],by simp,fun id ho=>hh id fun e=>ho ⟨d,_,hob,hbk,e.symm⟩,fun id ho=>hh id fun e=>?_,fun id hz=>?_⟩
          ·obtain⟨k2,o2,g1,g2,g3⟩:=ho;obtain⟨g4,g5⟩:=mb g1;exact g4 (r.inj d k2 _ o2 hob g5 hbk g2 (by rw[g3,e]))
          ·unfold ax;rw[hh id (by rintro rfl;exact r.apart d _ hob hbk hz)]
         ·refine⟨H,?_,rfl,fun _ _=>rfl,fun _ _=>rfl,fun _ _=>rfl⟩
          cases k <;> simp[bC]at hk <;> rfl
        ·simp at e1
       | v x0=>
        refine⟨H,?_,rfl,fun _ _=>rfl,fun _ _=>rfl,fun _ _=>rfl⟩
        cases x0 <;> simp[AP]at hc
        ·rw[h1.fr.cC];rfl
        ·rw[h1.fr.aF];rfl
       | _=>simp[AP]at hc
      obtain⟨H1,g1,g2,g3,g4,g5⟩:=grow;have hsub:∀e ob,an m1 e=some ob→an st.m e=some ob:=by
       subst hm1;cases s <;> first|exact fun _ _ h=>h|exact iu
      have hlt1:∀id,dM ν m1 id→id<H.length:=fun id ⟨k,o,w1,w2,w3⟩=>r.lt ⟨k,o,hsub k o w1,w2,w3⟩
      have hget:∀id,id<H.length→(H1++[Ob.row size (a1++a2)])[id]? = H1[id]? := fun id hl=>List.getElem?_append_left (by rw[g2];exact hl)
      have hz2:∀id,Z id→ax (H1++[Ob.row size (a1++a2)]) id=ax H id:=fun id hz=>by
       have:=g5 id hz;unfold ax at this ⊢;rw[hget id (r.si hz)];exact this
      have r1:R ν Z { st with m:=m1 } F H:=r.less (g:=st.g) (fun _ _ h=>h) hsub
      have r2:R ν Z { st with m:=m1 } F (H1++[Ob.row size (a1++a2)]):=r1.heap (fun id ho=>by rw[hget id (hlt1 id ho)];exact g4 id ho) hz2
      have ff:=(q1.append q2).mono (H':=H1++[Ob.row size (a1++a2)]) (Z':=Z) fun id hz=>⟨hz,hz2 id hz⟩
      have hnewrow:(H1++[Ob.row size (a1++a2)])[H.length]? = some (.row size (a1++a2)):=by
       rw[←g2];simp
      refine⟨.hsl H.length size 0 (xs.length+zs.length),H1++[Ob.row size (a1++a2)],gj ν t (H.length,0),?_,?_,?_,?_,Kept.add hsub⟩
      ·have hne':a2≠[]:=by
        rintro rfl;have hz0:zs=[]:=List.length_eq_zero_iff.1 (by have:=q2.1;simpa using this)
        exact hne hz0
       have hle:a1.length+a2.length≤2147483648:=by rw[←q1.1,←q2.1];exact hc.1
       have hl1:=q1.1;have hl2:=q2.1
       cases a2 with
       | nil=>exact absurd rfl hne'
       | cons w ws=>
        simp only[dS,p1,p2,if_pos hle,g1,Option.map_some,hl1,hl2]
      ·refine r2.add hnew (fun _=>⟨fun ho=>?_,fun hz=>?_⟩) ?_
       ·exact absurd (hlt1 _ ho) (by simp)
       ·exact absurd (r.si hz) (by simp)
       ·simp only[cO,bC,if_true,fK];refine⟨_,hnewrow,by simp[q1.1,q2.1],?_,ff.Ch,fun _=>⟨trivial,by simp[q1.1,q2.1]⟩⟩
        have:(xs++zs).length=(a1++a2).length:=by simp[q1.1,q2.1]
        rw[this,List.drop_zero,List.take_length];exact ff
      ·refine .own _ _ fun ob' h'=>?_
       simp only at h';rw[bA]at h';cases h';exact⟨_,_,_,rfl,by simp[pF,fK]⟩
      ·refine Ev.re hsub n1 (by simp[g2]) (fun id hl ho _=>?_) hz2 (fun _=>.inr (.inr (Nat.le_refl _)))
       rw[hget id hl];exact g3 id ho
     ·simp at h
   ·simp at h
  ·simp at h
 ·
  rename_i size d o x l;obtain⟨_,_,rfl,h1,h2⟩:=hsv.inv;obtain⟨y,ys2,rfl,h3,h4⟩:=h2.inv;split at h
  ·rename_i hfar;split at h
   ·rename_i cs hob;obtain⟨cs1,hp,e⟩:=ζf.1 h;simp only[ζc]at e;obtain⟨rfl,rfl⟩:=e;obtain⟨_,_,rfl⟩:=h1.mK hob;obtain⟨es,cs',hr,hc,hone⟩:=r.obj d _ hob;obtain⟨p1,p2,p3,p4,p5⟩:=bg.S9 hc h3 hp hone;have hh:∀id,id≠(ν d).1→(H.set (ν d).1 (.row es [cs'.take o++y.cells++cs'.drop (o+y.cells.length)]))[id]? = H[id]? := fun id hne=>by rw[List.getElem?_set];rw[if_neg (Ne.symm hne)]
    have hz:∀id,Z id→Z id∧ax (H.set (ν d).1 (.row es [cs'.take o++y.cells++cs'.drop (o+y.cells.length)])) id=ax H id:=fun id hz=>⟨hz,by
     unfold ax;rw[hh id (by rintro rfl;exact r.apart d _ hob rfl hz)]⟩
    have hall:∀{l:List SV} {ws:List V},bg ν st.m H Z l ws→l.all (KF st.m d)=true→ws.all (qO (ν d).1)=true:=by
     intro l
     induction l with
     | nil=>intro ws hw _;rw[hw.b7];rfl
     | cons a l ih=>
      intro ws hw hf;obtain⟨w,ws,rfl,g1,g2⟩:=hw.inv;simp only[List.all_cons,ζh]at hf ⊢;refine⟨?_,ih g2 hf.2⟩;have hf1:=hf.1;unfold KF at hf1;split at hf1
      ·rename_i d' o';simp only[ζh,bne_iff_ne,ne_eq]at hf1;obtain⟨hne,hbx⟩:=hf1;split at hbx
       ·rename_i cs2 hob2;obtain⟨_,_,rfl⟩:=g1.mK hob2;simp only[qO,bne_iff_ne,ne_eq];exact fun e=>hne (r.inj d' d _ _ hob2 hob rfl rfl e)
       ·cases hbx
      ·rename_i xs;rcases FR.jk g1.fr with rfl|⟨id,el,off,_,_,_,rfl,hzz,_⟩
       ·rfl
       ·simp only[qO,bne_iff_ne,ne_eq];rintro rfl;exact r.apart d _ hob rfl hzz
      ·cases hf1
    refine⟨.undef,H.set (ν d).1 (.row es [cs'.take o++y.cells++cs'.drop (o+y.cells.length)]),ν,?_,?_,.v _ _ (.same _ rfl),Ev.eC r hob trivial rfl hh rfl (by simp),Kept.eC hob trivial⟩
    ·simp only[dS,hall h4 hfar,if_true,hr,List.getElem?_cons_zero,if_pos (And.intro p1 (And.intro p2 p3)),List.set_cons_zero]
    ·refine r.eC hob (ob':=.box cs1) trivial rfl hh rfl ⟨es,_,?_,p4.mono hz (fun e _ ob' he=>?_),p5⟩
     ·have:=(ζe.1 hr).1;rw[List.getElem?_set_self this]
     ·by_cases k:e=d
      ·subst k;rw[bA]at he;cases he;exact⟨_,hob,rfl,trivial⟩
      ·rw[cM st.m _ (Ne.symm k)]at he;exact⟨ob',he,rfl,.refl _⟩
   ·simp at h
  ·simp at h
 ·simp at h
end
end Go.VE
namespace Go.VE
variable [aW]
def vE (d:Nat) (st:St):Option St:=
 match an st.m d with
 | some (.sl k es xs)=>some { st with g:=yM (SV.sub d (lC k es xs)) st.g,m:=mapM (SV.sO d (lC k es xs)) (dh d st.m) }
 | _=>none
def Ws (st:St):Loc→Option SV
 | .s n=>an st.g n
 | .c b i=>match an st.m b with
  | some (.box cs)=>cs[i]?
  | _=>none
def ghost (x:Gh) (st:St):Option St:=
 match x with
 | .closeS l=>match Ws st l with
  | some (.own d)=>vE d st
  | some _=>some st
  | none=>none
 | .close d=>vE d st
 | .closeB d=>match an st.m d with
  | some (.box cs)=>match dc cs with
   | some xs=>some { st with g:=yM (SV.yV d xs) st.g,m:=mapM (SV.oE d xs) (dh d st.m) }
   | none=>none
  | _=>none
 | .canon (.s n) d es=>match an st.g n with
  | some (.v .aF)=>if st.new d then some { st with g:=aV st.g n (.own d),m:=aV st.m d (.sl .nil es []) } else none
  | some (.v .cC)=>if st.new d then some { st with g:=aV st.g n (.own d),m:=aV st.m d (.sl .emp es []) } else none
  | some (.own e)=>if e=d then some st else if st.new d then some { st with g:=yX e d st.g,m:=sB e d st.m } else none
  | _=>none
 | .canon (.c b i) d es=>match an st.m b with
  | some (.box cs)=>match cs[i]? with
   | some (.v .aF)=>if st.new d then some { st with m:=aV (aV st.m d (.sl .nil es [])) b (.box (cs.set i (.own d))) } else none
   | some (.v .cC)=>if st.new d then some { st with m:=aV (aV st.m d (.sl .emp es [])) b (.box (cs.set i (.own d))) } else none
   | some (.own e)=>if e=d then some st else if st.new d then some { st with g:=yX e d st.g,m:=sB e d st.m } else none
   | _=>none
  | _=>none
 | .keep gs ms=>match xz st.g gs,xz st.m ms with
  | some g,some m=>some { st with g:=g,m:=m }
  | _,_=>none
 | .drop ds=>some { st with g:=s9 ds st.g }
section
variable {Rv:Nat→Prop} {ν ν':Nu} {Z Z':Nat→Prop} {st st':St} {m m':Tb aP} {F F':Frame} {H H':aq} {N:Nat→FuncId}
theorem IF (r:R ν Z st F H) {dst:Option Nat} {size d:Nat} {lo hi:Bool} {bs:List SV} {ys:List V} {sv:SV} (hsv:bg ν st.m H Z (.own d::bs) ys) (h:vM st dst size lo hi d bs=some (sv,st')) :
 ∃y ν',ay N (.slice size lo hi) ys=some y∧R ν' Z st' F H∧cq ν' st'.m H Z sv y∧Ev Rv ν Z st H ν' Z st' H:=by
 unfold vM at h;obtain⟨y0,zs,rfl,h1,h2⟩:=hsv.inv;split at h
 ·rename_i k es xs ws t hob hw;split at h
  ·rename_i hk;obtain⟨⟨l,hh⟩,hb,h⟩:=ζg.1 h;obtain⟨⟨a,b⟩,hbd,h⟩:=ζg.1 h;dsimp only at h;split at h
   ·rename_i hnew;simp only[ζa,ζc]at h;obtain⟨rfl,rfl⟩:=h;obtain⟨_,_,_,e,rfl⟩:=h1.iJ hob;cases e;have hle:b≤xs.length∧a≤b:=by
     unfold cE at hbd;dsimp only at hbd;split at hbd
     ·simp only[ζa,ζc]at hbd;omega
     ·simp at hbd
    have o:=r.obj d _ hob;simp only[cO,hk.1,if_true]at o;obtain⟨rs,hr,hl,hf,hsol,_⟩:=o;have hbk:bG (.sl k es xs)=true:=hk.1;have r1:R ν Z { st with m:=dh d st.m } F H:=r.less (g:=st.g) (fun _ _ h=>h) iu
    have hno:¬dM ν (dh d st.m) (ν d).1:=by
     rintro⟨k2,o2,g1,g2,g3⟩;obtain⟨g4,g5⟩:=mb g1;exact g4 (r.inj d k2 _ o2 hob g5 hbk g2 g3.symm)
    have hlen:((xs.take b).drop a).length=b-a:=by simp;omega
    refine⟨.hsl (ν d).1 es ((ν d).2+a) (b-a),gj ν t ((ν d).1,(ν d).2+a),?_,?_,?_,?_⟩
    ·have hf2:=bg.dc h2 hw;rw[oA hk.1];simp only[ay,hf2.jo hb,ζb,fL,if_pos hk.2,hbd,Option.map_some]
    ·refine r1.add hnew (fun _=>⟨hno,r.apart d _ hob hbk⟩) ?_
     simp only[cO,bC,if_true,fK];refine⟨rs,hr,by rw[hlen];omega,?_,hsol,fun e=>by cases e⟩
     have:=(hf.take b).drop a;have e:List.drop a (List.take b (List.take xs.length (List.drop (ν d).2 rs)))=List.take (b-a) (List.drop ((ν d).2+a) rs):=by
      rw[List.take_take,Nat.min_eq_left hle.1,List.drop_take,List.drop_drop]
     rw[e]at this;rw[hlen];exact this
    ·refine .own _ _ fun ob' h'=>?_
     simp only at h';rw[bA]at h';cases h';exact⟨_,_,_,rfl,by rw[hlen];simp[pF,fK]⟩
    ·exact Ev.re (st:=st) iu (jW hnew).1 (Nat.le_refl _) (fun _ _ _ _=>rfl) (fun _ _=>rfl) (fun _=>.inl ⟨d,_,hob,hbk,rfl⟩)
   ·simp at h
  ·simp at h
 ·simp at h
theorem BS {f:SV→SV}:∀{g:Tb SV} {s:Nat},an (yM f g) s=(an g s).map f
 | [],s=>rfl
 | (k,x)::r,s=>by
  simp only[yM,an];split
  ·rfl
  ·exact BS
def vg (f:List SV→List SV):aP→aP
 | .box cs=>.box (f cs)
 | o=>o
theorem Br {f:List SV→List SV}:∀{m:Tb aP} {d:Nat},an (mapM f m) d=(an m d).map (vg f)
 | [],d=>rfl
 | (k,x)::r,d=>by
  cases x <;> simp only[mapM,an] <;> split <;> first|rfl|exact Br
theorem sJ {d:Nat} {w:V}:∀{l:List SV} {j:Nat},(SV.sO d w l)[j]? = (l[j]?).map (SV.sub d w)
 | [],j=>by simp[SV.sO]
 | x::r,0=>by simp[SV.sO]
 | x::r,j+1=>by simp[SV.sO,sJ (l:=r)]
theorem qF {d:Nat} {w:List V}:∀{l:List SV} {j:Nat},(SV.oE d w l)[j]? = (l[j]?).map (SV.yV d w)
 | [],j=>by simp[SV.oE]
 | x::r,0=>by simp[SV.oE]
 | x::r,j+1=>by simp[SV.oE,qF (l:=r)]
theorem m_ {d:Nat} {w:V}:∀{l:List SV},(SV.sO d w l).length=l.length
 | []=>rfl
 | x::r=>by simp[SV.sO,m_ (l:=r)]
theorem mh {d:Nat} {w:List V}:∀{l:List SV},(SV.oE d w l).length=l.length
 | []=>rfl
 | x::r=>by simp[SV.oE,mh (l:=r)]
theorem cq.sub {sv:SV} {y:V} {d:Nat} {k:Fl} {es:Nat} {xs:List (List V)} (h0:an m d=some (.sl k es xs)) (hf:FR H Z' (lC k es xs) (pF (ν d) k es xs.length)) (hz:∀id,Z id→Z' id)
 (hm:∀e ob',an m' e=some ob'→e≠d∧∃ob,an m e=some ob∧sameShape ob ob') (r:cq ν m H Z sv y):cq ν m' H Z' (sv.sub d (lC k es xs)) y:=by
 have hz':∀id,Z id→Z' id∧ax H id=ax H id:=fun id h=>⟨hz id h,rfl⟩
 have hn:∀e ob',an m' e=some ob'→∃ob,an m e=some ob∧ν e=ν e∧sameShape ob ob':=fun e ob' h=>by obtain⟨_,ob,h1,h2⟩:=hm e ob' h;exact⟨ob,h1,rfl,h2⟩
 induction r with
 | v x y h=>exact .v x y (h.mono hz')
 | own e y h=>
  simp only[SV.sub];split
  ·rename_i he;subst he;obtain⟨_,_,_,e1,rfl⟩:=h _ h0;cases e1;exact .v _ _ hf
  ·exact(cq.own e y h).mono hz' fun e _=>hn e
 | ptr e o y h=>exact(cq.ptr e o y h).mono hz' fun e _=>hn e
 | el e i o y h=>exact(cq.el e i o y h).mono hz' fun e _=>hn e
 | mp e y h=>exact(cq.mp e y h).mono hz' fun e _=>hn e
 | clo f a b a' b' ha hb hva hvb iha ihb=>
  refine .clo f _ _ a' b' (by rw[m_];exact ha) (by rw[m_];exact hb) (fun j u v hu hv=>?_) (fun j u v hu hv=>?_)
  ·rw[sJ,ζf]at hu;obtain⟨u',hu',rfl⟩:=hu;exact iha j u' v hu' hv
  ·rw[sJ,ζf]at hu;obtain⟨u',hu',rfl⟩:=hu;exact ihb j u' v hu' hv
 | tup a a' ha hva iha=>
  refine .tup _ a' (by rw[m_];exact ha) (fun j u v hu hv=>?_)
  rw[sJ,ζf]at hu;obtain⟨u',hu',rfl⟩:=hu;exact iha j u' v hu' hv
 | yl id=>exact .yl id
theorem cq.yV {sv:SV} {y:V} {d:Nat} {cs:List SV} {xs:List V} (h0:an m d=some (.box cs)) (hf:∀o,o≤xs.length→FR H Z' (.fptr (xs.drop o)) (.hptr (ν d).1 0 o)) (hz:∀id,Z id→Z' id)
 (hm:∀e ob',an m' e=some ob'→e≠d∧∃ob,an m e=some ob∧sameShape ob ob') (r:cq ν m H Z sv y):cq ν m' H Z' (sv.yV d xs) y:=by
 have hz':∀id,Z id→Z' id∧ax H id=ax H id:=fun id h=>⟨hz id h,rfl⟩
 have hn:∀e ob',an m' e=some ob'→∃ob,an m e=some ob∧ν e=ν e∧sameShape ob ob':=fun e ob' h=>by obtain⟨_,ob,h1,h2⟩:=hm e ob' h;exact⟨ob,h1,rfl,h2⟩
 induction r with
 | v x y h=>exact .v x y (h.mono hz')
 | own e y h=>exact(cq.own e y h).mono hz' fun e _=>hn e
 | ptr e o y h=>
  simp only[SV.yV];split
  ·rename_i he;subst he;obtain⟨_,e1,rfl⟩:=h _ h0;split
   ·rename_i ho;exact .v _ _ (hf o ho)
   ·exact(cq.ptr e o _ h).mono hz' fun e _=>hn e
  ·exact(cq.ptr e o y h).mono hz' fun e _=>hn e
 | el e i o y h=>exact(cq.el e i o y h).mono hz' fun e _=>hn e
 | mp e y h=>exact(cq.mp e y h).mono hz' fun e _=>hn e
 | clo f a b a' b' ha hb hva hvb iha ihb=>
  refine .clo f _ _ a' b' (by rw[mh];exact ha) (by rw[mh];exact hb) (fun j u v hu hv=>?_) (fun j u v hu hv=>?_)
  ·rw[qF,ζf]at hu;obtain⟨u',hu',rfl⟩:=hu;exact iha j u' v hu' hv
  ·rw[qF,ζf]at hu;obtain⟨u',hu',rfl⟩:=hu;exact ihb j u' v hu' hv
 | tup a a' ha hva iha=>
  refine .tup _ a' (by rw[mh];exact ha) (fun j u v hu hv=>?_)
  rw[qF,ζf]at hu;obtain⟨u',hu',rfl⟩:=hu;exact iha j u' v hu' hv
 | yl id=>exact .yl id
theorem cO.vg {d:Nat} {ob:aP} {f:List SV→List SV} (hz:∀id,Z id→Z' id) (hl:∀l,(f l).length=l.length)
 (hf:∀cs cs',bg ν m H Z cs cs'→bg ν m' H Z' (f cs) cs') (o:cO ν m H Z d ob):cO ν m' H Z' d (vg f ob):=by
 have hz':∀id,Z id→Z' id∧ax H id=ax H id:=fun id h=>⟨hz id h,rfl⟩
 cases ob with
 | sl k es xs=>
  simp only[Go.VE.vg,cO]at o ⊢;split
  ·rename_i hk;rw[if_pos hk]at o;obtain⟨ys,h1,h2,h3,h4,h5⟩:=o;exact⟨ys,h1,h2,h3.mono hz',h4.mono hz',h5⟩
  ·rename_i hk;rw[if_neg hk]at o;exact o
 | box cs=>
  obtain⟨es,cs',h1,h2,h3⟩:=o;exact⟨es,cs',h1,hf cs cs' h2,h3⟩
 | mp kvs=>
  obtain⟨kvs',h1,h2⟩:=o;exact⟨kvs',h1,h2.mono hz'⟩
theorem tD {f:List SV→List SV} {ob:aP}:bG (vg f ob)=bG ob:=by cases ob <;> rfl
theorem Aq {f:List SV→List SV} {ob:aP}:sameShape ob (vg f ob):=by cases ob <;> simp[vg,sameShape]
theorem R.shut (r:R ν Z st F H) {d:Nat} {ob:aP} (h0:an st.m d=some ob) {fs:SV→SV} {fl:List SV→List SV} (hl:∀l,(fl l).length=l.length) (hg:∀l (j:Nat),(fl l)[j]? = (l[j]?).map fs)
 (hz':∀id,Z' id↔Z id∨(bG ob=true∧id=(ν d).1)) (hrow:bG ob=true→∃es ys,H[(ν d).1]? = some (.row es ys)∧rq H Z ys)
 (hf:∀m',(∀e ob',an m' e=some ob'→e≠d∧∃ob,an st.m e=some ob∧sameShape ob ob')→∀sv y,cq ν st.m H Z sv y→cq ν m' H Z' (fs sv) y) :
 R ν Z' { st with g:=yM fs st.g,m:=mapM fl (dh d st.m) } F H∧Ev Rv ν Z st H ν Z' { st with g:=yM fs st.g,m:=mapM fl (dh d st.m) } H:=by
 have key:∀e ob',an (mapM fl (dh d st.m)) e=some ob'→e≠d∧∃ob,an st.m e=some ob∧ob'=vg fl ob:=fun e ob' h=>by
  rw[Br,ζf]at h;obtain⟨o,h1,rfl⟩:=h;obtain⟨h2,h3⟩:=mb h1;exact⟨Ne.symm h2,o,h3,rfl⟩
 have key':∀e ob',an (mapM fl (dh d st.m)) e=some ob'→e≠d∧∃ob,an st.m e=some ob∧sameShape ob ob':=fun e ob' h=>by
  obtain⟨h1,o,h2,rfl⟩:=key e ob' h;exact⟨h1,o,h2,Aq⟩
 have hF:=hf _ key';have hFL:∀cs cs',bg ν st.m H Z cs cs'→bg ν (mapM fl (dh d st.m)) H Z' (fl cs) cs':=fun cs cs' h=>by
  refine⟨by rw[hl];exact h.1,fun j u v hu hv=>?_⟩
  rw[hg,ζf]at hu;obtain⟨u',hu',rfl⟩:=hu;exact hF u' v (h.2 j u' v hu' hv)
 have hzz:∀id,Z id→Z' id:=fun id h=>(hz' id).2 (.inl h)
 refine⟨⟨fun s sv hs=>?_,fun e ob' he=>?_,fun d1 d2 o1 o2 h1 h2 b1 b2 hp=>?_,fun d1 o1 h1 b1=>?_,fun id h=>?_,⟨fun id es ys hz hr c hc u hu=>?_⟩⟩,⟨Nat.le_refl _,fun _ _ _ _ _=>rfl,fun id h=>⟨hzz id h,rfl⟩,?_,?_,?_,rfl⟩⟩
 ·rw[BS,ζf]at hs;obtain⟨sv',hs',rfl⟩:=hs;exact hF sv' _ (r.slot s sv' hs')
 ·obtain⟨h1,o,h2,rfl⟩:=key e ob' he;exact cO.vg hzz hl hFL (r.obj e o h2)
 ·obtain⟨_,p1,k1,rfl⟩:=key d1 o1 h1;obtain⟨_,p2,k2,rfl⟩:=key d2 o2 h2;rw[tD]at b1 b2;exact r.inj d1 d2 p1 p2 k1 k2 b1 b2 hp
 ·obtain⟨hne,p1,k1,rfl⟩:=key d1 o1 h1;rw[tD]at b1;intro hz;rcases (hz' _).1 hz with hz|⟨hb,he⟩
  ·exact r.apart d1 p1 k1 b1 hz
  ·exact hne (r.inj d1 d p1 ob k1 h0 b1 hb he)
 ·rcases (hz' id).1 h with h|⟨hb,rfl⟩
  ·exact r.zrow id h
  ·obtain⟨es,ys,hr,_⟩:=hrow hb;unfold ax;rw[hr];rfl
 ·rcases (hz' id).1 hz with h|⟨hb,rfl⟩
  ·obtain⟨x,hx⟩:=r.deep.row id es ys h hr c hc u hu;exact⟨x,hx.mono fun k hk=>⟨hzz k hk,rfl⟩⟩
  ·obtain⟨es',ys',hr',hs⟩:=hrow hb;unfold ax at hr;rw[hr']at hr;simp only[ζb,Ob.rows,ζa,ζc]at hr;obtain⟨_,rfl⟩:=hr;obtain⟨x,hx⟩:=hs c hc u hu;exact⟨x,hx.mono fun k hk=>⟨hzz k hk,rfl⟩⟩
 ·rintro id ⟨e,o,h1,h2,h3⟩;obtain⟨_,p,k1,rfl⟩:=key e o h1;rw[tD]at h2;exact .inl ⟨e,p,k1,h2,h3⟩
 ·intro id h;rcases (hz' id).1 h with h|⟨hb,rfl⟩
  ·exact .inl h
  ·exact .inr (.inl ⟨d,ob,h0,hb,rfl⟩)
 ·intro e _ ob' h;obtain⟨_,o,k1,rfl⟩:=key e ob' h;exact⟨o,k1,rfl,Aq⟩
theorem Cw (r:R ν Z st F H) {d:Nat} (h:vE d st=some st'):∃Z',R ν Z' st' F H∧Ev Rv ν Z st H ν Z' st' H:=by
 simp only[vE]at h;split at h
 ·rename_i k es xs hob;simp only[ζa]at h;subst h;have o:=r.obj d _ hob;refine⟨fun id=>Z id∨(bG (.sl k es xs)=true∧id=(ν d).1),R.shut r hob (fun _=>m_) (fun _ _=>sJ) (fun _=>Iff.rfl) (fun hb=>?_) (fun m' hm' sv y hr=>?_)⟩
  ·have hk:bC k=true:=hb;simp only[cO,hk,if_true]at o;obtain⟨ys,hr,_,_,hs,_⟩:=o;exact⟨es,ys,hr,hs⟩
  ·refine cq.sub hob ?_ (fun id h=>.inl h) hm' hr
   by_cases hk:bC k=true
   ·simp only[cO,hk,if_true]at o;obtain⟨ys,hr,hl,hf,hs,_⟩:=o;rw[oA hk];have e:lC k es xs=.fsl es xs:=by cases k <;> simp[bC]at hk <;> rfl
    rw[e];refine FR.GM (.inr ⟨hk,rfl⟩) (by unfold ax;rw[hr];rfl) hl (hf.mono fun id h=>⟨.inl h,rfl⟩)
   ·cases k <;> simp[bC]at hk
    ·exact .same _ rfl
    ·exact .same _ rfl
 ·simp at h
theorem Io (r:R ν Z st F H) {d:Nat} (h:ghost (.closeB d) st=some st'):∃Z',R ν Z' st' F H∧Ev Rv ν Z st H ν Z' st' H:=by
 simp only[ghost]at h;split at h
 ·rename_i cs hob;split at h
  ·rename_i xs hx;simp only[ζa]at h;subst h;obtain⟨es,cs',hr,hc,_⟩:=r.obj d _ hob;have hf:=hc.dc hx;have hs:rq H Z [cs']:=by
    intro c hcm u hu;simp only[List.mem_singleton]at hcm;subst hcm;obtain⟨j,hj⟩:=List.mem_iff_getElem?.1 hu;have hl:j<xs.length:=by rw[hf.1];exact(ζe.1 hj).1
    exact⟨_,hf.2 j _ u (ζd hl) hj⟩
   refine⟨fun id=>Z id∨(bG (.box cs)=true∧id=(ν d).1),R.shut r hob (fun _=>mh) (fun _ _=>qF) (fun _=>Iff.rfl) (fun hb=>⟨es,_,hr,hs⟩) (fun m' hm' sv y hr'=>?_)⟩
   refine cq.yV hob (fun o ho=>?_) (fun id h=>.inl h) hm' hr'
   exact FR.zo (.inr ⟨rfl,rfl⟩) (show ax H (ν d).1=some (es,[cs'])by unfold ax;rw[hr];rfl) rfl (by rw[←hf.1];exact ho) ((hf.drop o).mono fun id h=>⟨.inl h,rfl⟩)
  ·simp at h
 ·simp at h
theorem sj {d e:Nat}:∀{l:List SV} {j:Nat},(SV.sH d e l)[j]? = (l[j]?).map (SV.qR d e)
 | [],j=>by simp[SV.sH]
 | x::r,0=>by simp[SV.sH]
 | x::r,j+1=>by simp[SV.sH,sj (l:=r)]
theorem nr {d e:Nat}:∀{l:List SV},(SV.sH d e l).length=l.length
 | []=>rfl
 | x::r=>by simp[SV.sH,nr (l:=r)]
theorem BL {d e:Nat}:∀{g:Tb SV} {s:Nat},an (yX d e g) s=(an g s).map (SV.qR d e)
 | [],s=>rfl
 | (k,x)::r,s=>by
  simp only[yX,an];split
  ·rfl
  ·exact BL
theorem wL {d e:Nat} (hne:d≠e):∀{m:Tb aP} {k:Nat},an m e=none→an (sB d e m) k=(if k=d then none else(an m (if k=e then d else k)).map (aP.qR d e))
 | [],k,_=>by simp[sB,an]
 | (n,x)::r,k,h=>by
  simp only[an]at h;split at h
  ·simp at h
  ·rename_i hn;have ih:=wL hne (m:=r) (k:=k) h;simp only[sB,an]
   by_cases h1:k=d
   ·subst h1;rw[if_pos rfl]at ih ⊢
    by_cases h2:n=k
    ·rw[if_pos h2,if_neg (Ne.symm hne)];exact ih
    ·rw[if_neg h2,if_neg h2];exact ih
   ·rw[if_neg h1]at ih ⊢
    by_cases h2:k=e
    ·subst h2;rw[if_pos rfl]at ih ⊢
     by_cases h3:n=d
     ·rw[if_pos h3,if_pos rfl,if_pos h3];rfl
     ·rw[if_neg h3,if_neg hn,if_neg h3];exact ih
    ·rw[if_neg h2]at ih ⊢
     by_cases h3:n=d
     ·rw[if_pos h3,if_neg (Ne.symm h2),if_neg (by rw[h3];exact Ne.symm h1)];exact ih
     ·rw[if_neg h3]
      by_cases h4:n=k
      ·rw[if_pos h4,if_pos h4];rfl
      ·rw[if_neg h4,if_neg h4];exact ih
def rB (ν:Nu) (d e:Nat):Nu:=fun k=>if k=e then ν d else ν k
theorem cq.qR {sv:SV} {y:V} {d e:Nat} (hn:an m e=none) (hs:sv.bV e=false) (hne:d≠e) (r:cq ν m H Z sv y):cq (rB ν d e) (sB d e m) H Z (sv.qR d e) y:=by
 have key:∀k,k≠e→∀ob',an (sB d e m) (if k=d then e else k)=some ob'→∃ob,an m k=some ob∧rB ν d e (if k=d then e else k)=ν k∧ob'=ob.qR d e:=fun k hk ob' h=>by
  rw[wL hne hn]at h
  by_cases h1:k=d
  ·subst h1;rw[if_pos rfl,if_neg (Ne.symm hne),if_pos rfl,ζf]at h;obtain⟨ob,h2,rfl⟩:=h;exact⟨ob,h2,by rw[if_pos rfl];unfold rB;rw[if_pos rfl],rfl⟩
  ·rw[if_neg h1,if_neg h1,if_neg hk,ζf]at h;obtain⟨ob,h2,rfl⟩:=h;exact⟨ob,h2,by rw[if_neg h1];unfold rB;rw[if_neg hk],rfl⟩
 induction r with
 | v x y h=>exact .v x y h
 | own k y h=>
  have hk:k≠e:=by rintro rfl;simp[SV.bV]at hs
  refine .own _ y fun ob' ho=>?_
  obtain⟨ob,h1,h2,rfl⟩:=key k hk ob' ho;obtain⟨_,_,_,rfl,rfl⟩:=h ob h1;exact⟨_,_,_,rfl,by rw[h2]⟩
 | ptr k o y h=>
  have hk:k≠e:=by rintro rfl;simp[SV.bV]at hs
  refine .ptr _ o y fun ob' ho=>?_
  obtain⟨ob,h1,h2,rfl⟩:=key k hk ob' ho;obtain⟨_,rfl,rfl⟩:=h ob h1;exact⟨_,rfl,by rw[h2]⟩
 | el k i o y h=>
  have hk:k≠e:=by rintro rfl;simp[SV.bV]at hs
  refine .el _ i o y fun ob' ho=>?_
  obtain⟨ob,h1,h2,rfl⟩:=key k hk ob' ho;obtain⟨_,_,_,rfl,h3,rfl⟩:=h ob h1;exact⟨_,_,_,rfl,h3,by rw[h2]⟩
 | mp k y h=>
  have hk:k≠e:=by rintro rfl;simp[SV.bV]at hs
  refine .mp _ y fun ob' ho=>?_
  obtain⟨ob,h1,h2,rfl⟩:=key k hk ob' ho;obtain⟨_,rfl,rfl⟩:=h ob h1;exact⟨_,rfl,by rw[h2]⟩
 | clo f a b a' b' ha hb hva hvb iha ihb=>
  simp only[SV.bV,Bool.or_eq_false_iff]at hs;refine .clo f _ _ a' b' (by rw[nr];exact ha) (by rw[nr];exact hb) (fun j u v hu hv=>?_) (fun j u v hu hv=>?_)
  ·rw[sj,ζf]at hu;obtain⟨u',hu',rfl⟩:=hu;exact iha j u' v hu' hv (sq hs.1 hu')
  ·rw[sj,ζf]at hu;obtain⟨u',hu',rfl⟩:=hu;exact ihb j u' v hu' hv (sq hs.2 hu')
 | tup a a' ha hva iha=>
  simp only[SV.bV]at hs;refine .tup _ a' (by rw[nr];exact ha) (fun j u v hu hv=>?_)
  rw[sj,ζf]at hu;obtain⟨u',hu',rfl⟩:=hu;exact iha j u' v hu' hv (sq hs hu')
 | yl id=>exact .yl id
theorem Iu (r:R ν Z st F H) {d e:Nat} (hne:d≠e) (hn:st.new e=true):R (rB ν d e) Z { st with g:=yX d e st.g,m:=sB d e st.m } F H∧Ev Rv ν Z st H (rB ν d e) Z { st with g:=yX d e st.g,m:=sB d e st.m } H:=by
 obtain⟨n1,n2,n3,n4⟩:=jW hn;have key:∀k ob',an (sB d e st.m) k=some ob'→∃k0 ob,an st.m k0=some ob∧ob'=ob.qR d e∧rB ν d e k=ν k0∧k≠d∧(k=e∧k0=d∨k≠e∧k0=k):=fun k ob' h=>by
  rw[wL hne n2]at h;split at h
  ·simp at h
  ·rename_i h1;rw[ζf]at h;obtain⟨ob,h2,rfl⟩:=h
   by_cases h3:k=e
   ·rw[if_pos h3]at h2;exact⟨d,ob,h2,rfl,by unfold rB;rw[if_pos h3],h1,.inl ⟨h3,rfl⟩⟩
   ·rw[if_neg h3]at h2;exact⟨k,ob,h2,rfl,by unfold rB;rw[if_neg h3],h1,.inr ⟨h3,rfl⟩⟩
 have bk:∀ob:aP,bG (ob.qR d e)=bG ob:=fun ob=>by cases ob <;> rfl
 refine⟨⟨fun s sv hs=>?_,fun k ob' hk=>?_,fun d1 d2 o1 o2 h1 h2 b1 b2 hp=>?_,fun d1 o1 h1 b1=>?_,r.zrow,r.deep⟩,⟨Nat.le_refl _,fun _ _ _ _ _=>rfl,fun id h=>⟨h,rfl⟩,?_,fun _ h=>.inl h,?_,rfl⟩⟩
 ·simp only at hs;rw[BL,ζf]at hs;obtain⟨sv',hs',rfl⟩:=hs;exact cq.qR n2 (uQ n3 hs') hne (r.slot s sv' hs')
 ·obtain⟨k0,ob,h1,rfl,h2,_,_⟩:=key k ob' hk;have o:=r.obj k0 ob h1
  cases ob with
  | sl fl es xs=>simp only[aP.qR,cO,h2]at o ⊢;exact o
  | box cs=>
   obtain⟨es,cs',g1,g2,g3⟩:=o;have hns:SV.cz e cs=false:=by have:=uS n4 h1;simpa [aP.bV]using this
   refine⟨es,cs',by rw[h2];exact g1,⟨by rw[nr];exact g2.1,fun j u v hu hv=>?_⟩,g3⟩
   rw[sj,ζf]at hu;obtain⟨u',hu',rfl⟩:=hu;exact cq.qR n2 (sq hns hu') hne (g2.2 j u' v hu' hv)
  | mp kvs=>simp only[aP.qR,cO,h2]at o ⊢;exact o
 ·obtain⟨k1,p1,g1,rfl,e1,c1,c2⟩:=key d1 o1 h1;obtain⟨k2,p2,g2,rfl,e2,c3,c4⟩:=key d2 o2 h2;rw[bk]at b1 b2;have:=r.inj k1 k2 p1 p2 g1 g2 b1 b2 (by rw[←e1,←e2];exact hp)
  omega
 ·obtain⟨k1,p1,g1,rfl,e1,_⟩:=key d1 o1 h1;rw[bk]at b1;rw[e1];exact r.apart k1 p1 g1 b1
 ·rintro id ⟨k,o,h1,h2,h3⟩;obtain⟨k1,p1,g1,rfl,e1,_⟩:=key k o h1;rw[bk]at h2;exact .inl ⟨k1,p1,g1,h2,by rw[←e1];exact h3⟩
 ·intro k hk ob' h;obtain⟨k1,p1,g1,rfl,e1,c1,c2⟩:=key k ob' h;rcases c2 with⟨rfl,_⟩|⟨c2,rfl⟩
  ·exact absurd hk n1
  ·exact⟨p1,g1,e1,by cases p1 <;> simp[aP.qR,sameShape]⟩
theorem R.Zm (r:R ν Z st F H) {n:Nat} {sv:SV} (h:cq ν st.m H Z sv (get F n)):R ν Z { st with g:=aV st.g n sv } F H where
 slot:=fun s x hs=>by
  by_cases e:n=s
  ·subst e;rw[bA]at hs;cases hs;exact h
  ·rw[cM st.g sv e]at hs;exact r.slot s x hs
 obj:=r.obj
 inj:=r.inj
 apart:=r.apart
 zrow:=r.zrow
 deep:=r.deep
theorem Im (r:R ν Z st F H) {n d es:Nat} {k:Fl} {x:V} (hk:lC k es []=x∧bC k=false) (hs:an st.g n=some (.v x)) (hn:st.new d=true) (hx:∀y,FR H Z x y→y=x) (hxx:pF (ν d) k es 0=x) :
 R (gj ν d (ν d)) Z { st with g:=aV st.g n (.own d),m:=aV st.m d (.sl k es []) } F H∧Ev Rv ν Z st H (gj ν d (ν d)) Z { st with g:=aV st.g n (.own d),m:=aV st.m d (.sl k es []) } H:=by
 have hnb:bG (.sl k es [])=true→False:=by simp[bG,hk.2]
 have r1:=r.add hn (p:=ν d) (ob:=.sl k es []) (fun h=>(hnb h).elim) (by simp[cO,hk.2])
 refine⟨r1.Zm (n:=n) (sv:=.own d) (.own _ _ fun ob' h'=>?_),?_⟩
 ·simp only at h';rw[bA]at h';cases h';refine⟨_,_,_,rfl,?_⟩;rw[fK,hx _ (r.slot n _ hs).fr];exact hxx.symm
 ·exact(Ev.add (H':=H) hn (Nat.le_refl _) (fun _ _ _=>rfl) (fun _ _=>rfl) (fun h=>(hnb h).elim)).trans (Ev.slots _)
theorem Jl (r:R ν Z st F H) {b i d es:Nat} {k:Fl} {x:V} {cs:List SV} (hk:bC k=false) (hb:an st.m b=some (.box cs)) (hi:cs[i]? = some (.v x)) (hn:st.new d=true) (hx:∀y,FR H Z x y→y=x) (hxx:pF (ν d) k es 0=x) :
 ∃ν',R ν' Z { st with m:=aV (aV st.m d (.sl k es [])) b (.box (cs.set i (.own d))) } F H∧Ev Rv ν Z st H ν' Z { st with m:=aV (aV st.m d (.sl k es [])) b (.box (cs.set i (.own d))) } H:=by
 have hnb:bG (.sl k es [])=true→False:=by simp[bG,hk]
 have r1:=r.add hn (p:=ν d) (ob:=.sl k es []) (fun h=>(hnb h).elim) (by simp[cO,hk])
 have hne:b≠d:=by rintro rfl;rw[(jW hn).2.1]at hb;cases hb
 have hb1:an (aV st.m d (.sl k es [])) b=some (.box cs):=by rw[cM _ _ (Ne.symm hne)];exact hb
 obtain⟨es1,cs',h1,h2,h3⟩:=r1.obj b _ hb1;have sm:∀e ob',an (aV (aV st.m d (.sl k es [])) b (.box (cs.set i (.own d)))) e=some ob'→∃ob,an (aV st.m d (.sl k es [])) e=some ob∧gj ν d (ν d) e=gj ν d (ν d) e∧sameShape ob ob':=fun e ob' h=>by
  by_cases he:e=b
  ·subst he;rw[bA]at h;cases h;exact⟨_,hb1,rfl,trivial⟩
  ·rw[cM _ _ (Ne.symm he)]at h;exact⟨ob',h,rfl,.refl _⟩
 refine⟨gj ν d (ν d),r1.eC (H':=H) hb1 (ob':=.box (cs.set i (.own d))) trivial rfl (fun _ _=>rfl) rfl ⟨es1,cs',h1,⟨by simp[h2.1],fun j u v hu hv=>?_⟩,h3⟩,?_⟩
 ·rw[List.getElem?_set]at hu;split at hu
  ·rename_i e;subst e;split at hu
   ·cases hu;refine .own _ _ fun ob' h'=>?_
    rw[cM _ _ hne,bA]at h';cases h';refine⟨_,_,_,rfl,?_⟩;rw[fK,hx v (h2.2 i _ v hi hv).fr];exact hxx.symm
   ·simp at hu
  ·exact(h2.2 j u v hu hv).mono (fun id h=>⟨h,rfl⟩) fun e _=>sm e
 ·exact(Ev.add (H':=H) hn (Nat.le_refl _) (fun _ _ _=>rfl) (fun _ _=>rfl) (fun h=>(hnb h).elim)).trans (Ev.eC r1 hb1 trivial rfl (fun _ _=>rfl) rfl (Nat.le_refl _))
theorem JC (r:R ν Z st F H) {x:Gh} (h:ghost x st=some st'):∃ν' Z',R ν' Z' st' F H∧Ev Rv ν Z st H ν' Z' st' H:=by
 cases x with
 | close d=>obtain⟨Z',a,b⟩:=Cw (Rv:=Rv) r h;exact⟨ν,Z',a,b⟩
 | closeS l=>
  simp only[ghost]at h;split at h
  ·obtain⟨Z',a,b⟩:=Cw (Rv:=Rv) r h;exact⟨ν,Z',a,b⟩
  ·simp only[ζa]at h;subst h;exact⟨ν,Z,r,.refl⟩
  ·simp at h
 | closeB d=>obtain⟨Z',a,b⟩:=Io (Rv:=Rv) r h;exact⟨ν,Z',a,b⟩
 | keep gs ms=>
  simp only[ghost]at h;split at h
  ·rename_i g m hg hm;simp only[ζa]at h;subst h;exact⟨ν,Z,r.less (fun s sv hs=>rE hg hs) (fun d ob hd=>rE hm hd),Ev.less (fun d ob hd=>rE hm hd)⟩
  ·simp at h
 | drop ds=>
  simp only[ghost,ζa]at h;subst h;exact⟨ν,Z,r.less (g:=s9 ds st.g) (m':=st.m) (fun s sv hs=>ve hs) (fun d ob hd=>hd),Ev.less (g:=s9 ds st.g) (m':=st.m) (fun d ob hd=>hd)⟩
 | canon l d es=>
  cases l with
  | s n=>
   simp only[ghost]at h;split at h
   ·rename_i hs;split at h
    ·rename_i hn;simp only[ζa]at h;subst h;obtain⟨a,b⟩:=Im (Rv:=Rv) (es:=es) (k:=.nil) r ⟨rfl,rfl⟩ hs hn (fun y h=>h.aF) rfl
     exact⟨_,_,a,b⟩
    ·simp at h
   ·rename_i hs;split at h
    ·rename_i hn;simp only[ζa]at h;subst h;obtain⟨a,b⟩:=Im (Rv:=Rv) (es:=es) (k:=.emp) r ⟨rfl,rfl⟩ hs hn (fun y h=>h.cC) rfl
     exact⟨_,_,a,b⟩
    ·simp at h
   ·rename_i e hs;split at h
    ·simp only[ζa]at h;subst h;exact⟨ν,Z,r,.refl⟩
    ·rename_i hne;split at h
     ·rename_i hn;simp only[ζa]at h;subst h;obtain⟨a,b⟩:=Iu (Rv:=Rv) r hne hn;exact⟨_,_,a,b⟩
     ·simp at h
   ·simp at h
  | c b i=>
   simp only[ghost]at h;split at h
   ·rename_i cs hb;split at h
    ·rename_i hs;split at h
     ·rename_i hn;simp only[ζa]at h;subst h;obtain⟨ν',a,b⟩:=Jl (Rv:=Rv) (es:=es) (k:=.nil) r rfl hb hs hn (fun y h=>h.aF) rfl
      exact⟨_,_,a,b⟩
     ·simp at h
    ·rename_i hs;split at h
     ·rename_i hn;simp only[ζa]at h;subst h;obtain⟨ν',a,b⟩:=Jl (Rv:=Rv) (es:=es) (k:=.emp) r rfl hb hs hn (fun y h=>h.cC) rfl
      exact⟨_,_,a,b⟩
     ·simp at h
    ·rename_i e hs;split at h
     ·simp only[ζa]at h;subst h;exact⟨ν,Z,r,.refl⟩
     ·rename_i hne;split at h
      ·rename_i hn;simp only[ζa]at h;subst h;obtain⟨a,b⟩:=Iu (Rv:=Rv) r hne hn;exact⟨_,_,a,b⟩
      ·simp at h
    ·simp at h
   ·simp at h
end
end Go.VE
namespace Go.VE
variable [aW]
structure nP (E:Env) (f:FuncId) (q:EU):Prop where
 keep:E.keep f=true
 own:E.own f=false
 le:∀es xs vs ys,q.go es xs vs=some ys→ys.length≤xs.length∧(q.part=false→ys.length=xs.length)
 none:∀es vs ys,q.go es [] vs=some ys→∀(H:aq) (Z:Nat→Prop) (ws:List V) (w:V),b8 H Z vs ws→(w=.aF∨w=.cC)→∃n X,∀k,n≤k→run E k (.fn f) (w::ws) H=some (if q.part then w else .undef,H++X)
 row:∀es xs vs ys,q.go es xs vs=some ys→∀(H:aq) (Z:Nat→Prop) (ws:List V) (id off:Nat) (rs:List (List V)),b8 H Z vs ws→H[id]? = some (.row es rs)→off+xs.length≤rs.length →
  eA H Z xs ((rs.drop off).take xs.length)→rq H Z rs→¬Z id→∃n rs' X,(∀k,n≤k→run E k (.fn f) (.hsl id es off xs.length::ws) H=some (if q.part then .hsl id es off ys.length else .undef,(H++X).set id (.row es rs'))) ∧
   rs'.length=rs.length∧eA H Z ys ((rs'.drop off).take ys.length)∧rq H Z rs'
section
variable {Rv:Nat→Prop} {ν ν':Nu} {Z Z':Nat→Prop} {st st':St} {m m':Tb aP} {F F':Frame} {H H':aq}
theorem OQ {E:Env} {f:FuncId} {q:EU} (hq:nP E f q) (r:R ν Z st F H) {args:List SV} {ys:List V} (ha:bg ν st.m H Z args ys) {dst:Option Nat} {sv:SV} (h:DU q dst args st=some (sv,st')) :
 ∃n y H' ν',(∀k,n≤k→run E k (.fn f) ys H=some (y,H'))∧R ν' Z st' F H'∧cq ν' st'.m H' Z sv y∧Ev Rv ν Z st H ν' Z st' H'∧Kept dst ν st.m ν' st'.m:=by
 unfold DU at h;split at h
 ·rename_i d vs;obtain⟨w,ws,rfl,h1,h2⟩:=ha.inv;split at h
  ·rename_i k es xs zs hob hz;have hws:=bg.dc h2 hz;split at h
   ·rename_i ns hgo;obtain⟨hle,heq⟩:=hq.le _ _ _ _ hgo;obtain⟨_,_,_,ee,rfl⟩:=h1.iJ hob;cases ee;have grow:∀X:aq,R ν Z st F (H++X)∧Ev Rv ν Z st H ν Z st (H++X)∧∀id,Z id→ax (H++X) id=ax H id:=fun X=>by
     have hx:∀id,id<H.length→(H++X)[id]? = H[id]? := fun id h=>List.getElem?_append_left h
     have hz:∀id,Z id→ax (H++X) id=ax H id:=fun id h=>by unfold ax;rw[hx id (r.si h)]
     exact⟨r.heap (fun id h=>hx id (r.lt h)) hz,Ev.heap (by simp) (fun id h _ _ _=>hx id h) hz,hz⟩
    have o:=r.obj d _ hob
    cases hk:bC k with
    | false=>
     simp only[cO,hk,Bool.false_eq_true,if_false]at o;subst o;have hw:pF (ν d) k es 0=.aF∨pF (ν d) k es 0=.cC:=by cases k <;> simp[pF,bC]at hk ⊢
     obtain⟨n,X,hn⟩:=hq.none _ _ _ hgo H Z ws _ hws hw;obtain⟨r0,ev0,hz0⟩:=grow X;simp only[hk,Bool.false_eq_true,if_false]at h;split at h
     ·rename_i hp;split at h
      ·rename_i t;split at h
       ·rename_i hnew;simp only[ζa,ζc]at h;obtain⟨rfl,rfl⟩:=h;have r1:R ν Z { st with m:=dh d st.m } F (H++X):=r0.less (g:=st.g) (fun _ _ h=>h) iu
        rw[if_pos hp]at hn;refine⟨n,_,H++X,gj ν t (ν d),hn,r1.add hnew (fun hb=>by simp[bG,hk]at hb) (by simp[cO,hk]),?_,?_,Kept.add iu⟩
        ·refine .own _ _ fun ob' h'=>?_
         simp only at h';rw[bA]at h';cases h';exact⟨_,_,_,rfl,by rw[fK];rfl⟩
        ·exact ev0.trans (Ev.re (st:=st) iu (jW hnew).1 (Nat.le_refl _) (fun _ _ _ _=>rfl) (fun _ _=>rfl) (fun hb=>by simp[bG,hk]at hb))
       ·cases h
      ·cases h
     ·rename_i hp;simp only[ζa,ζc]at h;obtain⟨rfl,rfl⟩:=h;rw[if_neg hp]at hn;have hu:aV st.m d (.sl k es [])=st.m:=nV hob;rw[hu];exact⟨n,_,H++X,ν,hn,r0,.v _ _ (.same _ rfl),ev0,.refl⟩
    | true=>
     simp only[cO,hk,if_true]at o;obtain⟨rs,hr,hl,hf,hsol,hrow⟩:=o;have hbk:bG (.sl k es xs)=true:=hk;obtain⟨n,rs',X,hn,e1,e2,e3⟩:=hq.row _ _ _ _ hgo H Z ws _ _ rs hws hr hl hf hsol (r.apart d _ hob hbk);obtain⟨r0,ev0,hz0⟩:=grow X;have hlt:(ν d).1<(H++X).length:=by have:=(ζe.1 hr).1;simp;omega
     have hz:∀id,Z id→Z id∧ax ((H++X).set (ν d).1 (.row es rs')) id=ax H id:=fun id hid=>⟨hid,by
      rw[←hz0 id hid];unfold ax;rw[List.getElem?_set_ne];rintro rfl;exact r.apart d _ hob hbk hid⟩
     have hzx:∀id,Z id→ax ((H++X).set (ν d).1 (.row es rs')) id=ax (H++X) id:=fun id hid=>by rw[(hz id hid).2,hz0 id hid]
     have hh:∀id,id≠(ν d).1→((H++X).set (ν d).1 (Ob.row es rs'))[id]? = (H++X)[id]? := fun id hne=>List.getElem?_set_ne (Ne.symm hne)
     have hself:((H++X).set (ν d).1 (Ob.row es rs'))[(ν d).1]? = some (.row es rs'):=List.getElem?_set_self hlt;rw[oA hk];simp only[hk,if_true]at h;split at h
     ·rename_i hp;split at h
      ·rename_i t;split at h
       ·rename_i hnew;simp only[ζa,ζc]at h;obtain⟨rfl,rfl⟩:=h;have r1:R ν Z { st with m:=dh d st.m } F (H++X):=r0.less (g:=st.g) (fun _ _ h=>h) iu
        have hno:¬dM ν (dh d st.m) (ν d).1:=by
         rintro⟨k2,o2,g1,g2,g3⟩;obtain⟨g4,g5⟩:=mb g1;exact g4 (r.inj d k2 _ o2 hob g5 hbk g2 g3.symm)
        have r2:R ν Z { st with m:=dh d st.m } F ((H++X).set (ν d).1 (.row es rs')):=r1.heap (fun id ho=>hh id (by rintro rfl;exact hno ho)) hzx
        rw[if_pos hp]at hn;refine⟨n,_,_,gj ν t (ν d),hn,r2.add hnew (fun _=>⟨hno,r.apart d _ hob hbk⟩) ?_,?_,?_,Kept.add iu⟩
        ·simp only[cO,bC,if_true,fK];exact⟨rs',hself,by omega,e2.mono hz,e3.mono hz,fun e=>by cases e⟩
        ·refine .own _ _ fun ob' h'=>?_
         simp only at h';rw[bA]at h';cases h';exact⟨_,_,_,rfl,by rw[fK];rfl⟩
        ·exact ev0.trans (Ev.re (st:=st) iu (jW hnew).1 (by simp) (fun id _ ho _=>hh id (by rintro rfl;exact ho ⟨d,_,hob,hbk,rfl⟩)) hzx (fun _=>.inl ⟨d,_,hob,hbk,rfl⟩))
       ·cases h
      ·cases h
     ·rename_i hp;simp only[ζa,ζc]at h;obtain⟨rfl,rfl⟩:=h;rw[if_neg hp]at hn;have hp':q.part=false:=by simpa using hp
      have hlen:=heq hp';have hss:sameShape (.sl k es xs) (.sl k es ns):=⟨rfl,rfl,hlen⟩;refine⟨n,_,_,ν,hn,r0.eC hob hss rfl hh hbk ?_,.v _ _ (.same _ rfl),ev0.trans (Ev.eC r0 hob hss rfl hh hbk (by simp)),Kept.eC hob hss⟩
      simp only[cO,hk,if_true];exact⟨rs',hself,by omega,e2.mono hz,e3.mono hz,fun e=>⟨(hrow e).1,by rw[e1,(hrow e).2,hlen]⟩⟩
   ·cases h
  ·cases h
 ·cases h
end
end Go.VE
namespace Go.VE
variable [aW]
def tG:Nat→List SV→Tb SV
 | _,[]=>[]
 | i,v::vs=>(i,v)::tG (i+1) vs
def start (svs:List SV) (m0:ga):St:=⟨tG 0 svs,m0,m0.map (·.1),[],true,0⟩
def iS (S:Sys) (c:bD):Prop:=
 ∀f svs m0 rs m1,c f svs m0=some (rs,m1)→∀(ν:Nu) (Z:Nat→Prop) (args:List V) (H:aq),(S.E.keep f=true∨H=[])→R ν Z (start svs m0) args H→bg ν m0 H Z svs args →
  ∃n y H' ν' Z' st' F' ys,run S.E n (.fn f) args H=some (y,H')∧y=result ys∧st'.m=m1∧bg ν' m1 H' Z' rs ys∧R ν' Z' st' F' H'∧Ev (fun _=>False) ν Z (start svs m0) H ν' Z' st' H'
section
variable {Rv:Nat→Prop} {ν ν':Nu} {Z Z':Nat→Prop} {st st':St} {m m':Tb aP} {F F':Frame} {H H' H1:aq} {N:Nat→FuncId}
mutual
theorem kY:∀{x:V},x.scalar=true→x.good=true
 | .bool _,_|.int ..,_|.str _,_|.eS,_|.ey,_|.oa,_|.cC,_|.aF,_=>rfl
 | .agg cs,h=>by simp only[V.scalar]at h;simp only[V.good];exact lU h
 | .tup cs,h=>by simp only[V.scalar]at h;simp only[V.good];exact lU h
 | .fsl ..,h|.hsl ..,h|.fptr ..,h|.hptr ..,h|.clo ..,h|.yld _,h|.fmap _,h|.hmap _,h=>by simp[V.scalar]at h
theorem lU:∀{l:List V},V.bR l=true→V.bF l=true
 | [],_=>rfl
 | x::r,h=>by
  simp only[V.bR,ζh]at h;simp only[V.bF,ζh];exact⟨kY h.1,lU h.2⟩
end
theorem Ku {k:Fl} {es:Nat} {xs:List (List V)} {d:Nat} (o:cO ν m H Z d (.sl k es xs)):(lC k es xs).good=true:=by
 by_cases hk:bC k=true
 ·simp only[cO,hk,if_true]at o;obtain⟨ys,_,_,hf,_⟩:=o;have e:lC k es xs=.fsl es xs:=by cases k <;> simp[bC]at hk <;> rfl
  rw[e];simp only[V.good];exact hf.good
 ·cases k <;> simp[bC]at hk <;> rfl
mutual
theorem Jg (ho:∀d ob,an m d=some ob→cO ν m H Z d ob):∀(n:Nat) (sv:SV) (x y:V),shut m n sv=some x→cq ν m H Z sv y→x.good=true
 | n,.v x,z,y,h,r=>by simp only[shut,ζa]at h;subst h;exact r.fr.good
 | n,.own d,z,y,h,r=>by
  simp only[shut]at h;split at h
  ·rename_i k es xs hob;simp only[ζa]at h;subst h;exact Ku (ho d _ hob)
  ·simp at h
 | 0,.ptr d o,z,y,h,r=>by simp[shut]at h
 | n+1,.ptr d o,z,y,h,r=>by
  simp only[shut]at h;split at h
  ·rename_i cs hob;split at h
   ·rename_i xs hx;split at h
    ·simp only[ζa]at h;subst h;obtain⟨es,cs',_,hc,_⟩:=ho d _ hob;simp only[V.good];exact vh _ (kD ho n cs xs cs' hx hc)
    ·simp at h
   ·simp at h
  ·simp at h
 | n,.el d i o,z,y,h,r=>by cases n <;> simp[shut]at h
 | n,.yl id,z,y,h,r=>by cases n <;> simp[shut]at h
 | n,.mp d,z,y,h,r=>by
  simp only[shut]at h;split at h
  ·rename_i kvs hob;simp only[ζa]at h;subst h;obtain⟨kvs',_,hk⟩:=ho d _ hob;simp only[V.good];refine Bl.2 fun j u hu=>?_
   have hj:j<kvs'.length:=by rw[←hk.1];exact(ζe.1 hu).1
   obtain⟨⟨_,h1⟩,h2⟩:=hk.2 j u _ hu (ζd hj);exact⟨kY h1,h2.good⟩
  ·simp at h
 | 0,.clo f a b,z,y,h,r=>by simp[shut]at h
 | n+1,.clo f a b,z,y,h,r=>by
  simp only[shut]at h;split at h
  ·rename_i x1 x2 h1 h2;simp only[ζa]at h;subst h;obtain⟨a',b',rfl,ra,rb⟩:=r.iL;simp only[V.good,ζh];exact⟨kD ho n a x1 a' h1 ra,kD ho n b x2 b' h2 rb⟩
  ·simp at h
 | 0,.tup l,z,y,h,r=>by simp[shut]at h
 | n+1,.tup l,z,y,h,r=>by
  simp only[shut]at h;obtain⟨xs,h1,rfl⟩:=ζf.1 h;obtain⟨l',rfl,rl⟩:=r.mI;simp only[V.good];exact kD ho n l xs l' h1 rl
theorem kD (ho:∀d ob,an m d=some ob→cO ν m H Z d ob):∀(n:Nat) (svs:List SV) (xs ys:List V),bQ m n svs=some xs→bg ν m H Z svs ys→V.bF xs=true
 | n,[],xs,ys,h,r=>by simp only[bQ,ζa]at h;subst h;rfl
 | n,sv::svs,xs,ys,h,r=>by
  simp only[bQ]at h;split at h
  ·rename_i y s h1 h2;simp only[ζa]at h;subst h;obtain⟨y',ys',rfl,r1,r2⟩:=r.inv;simp only[V.bF,ζh];exact⟨Jg ho n sv y y' h1 r1,kD ho n svs s ys' h2 r2⟩
  ·simp at h
end
theorem DQ {f:V→Option V}:∀{xs ys:List (V×V)},xs.length=ys.length→(∀(j:Nat) u v,xs[j]? = some u→ys[j]? = some v→f v.1=some u.1∧f v.2=some u.2)→qo f ys=some xs
 | [],[],_,_=>rfl
 | [],y::ys,h,_=>by simp at h
 | x::xs,[],h,_=>by simp at h
 | (a,b)::xs,(c,d)::ys,h,hf=>by
  obtain⟨h1,h2⟩:=hf 0 _ _ rfl rfl;simp only at h1 h2;simp only[qo,h1,h2,DQ (xs:=xs) (ys:=ys) (by simpa using h) fun j u v hu hv=>hf (j+1) u v (by simpa using hu) (by simpa using hv)]
theorem Dy:∀{l:List (V×V)} {n:Nat},V.oV n l=true↔∀(j:Nat) u,l[j]? = some u→u.1.lvl n=true∧u.2.lvl n=true
 | [],n=>by simp[V.oV]
 | (k,x)::l,n=>by
  simp only[V.oV,ζh,Dy (l:=l)];constructor
  ·rintro⟨h1,h2⟩ j u hu
   cases j with
   | zero=>simp at hu;subst hu;exact h1
   | succ j=>exact h2 j u (by simpa using hu)
  ·intro h;exact⟨h 0 (k,x) rfl,fun j u hu=>h (j+1) u (by simpa using hu)⟩
theorem tn {n:Nat} {xs ys:List V} (hm:iP (borrow n H1) ys=some xs) (hcl:V.iH ys=true):ys=xs:=by
 have h2:=iN (f:=borrow n H1) (xs:=ys) (ys:=ys) rfl fun j u v hu hv=>by rw[hu]at hv;cases hv;exact c7 n H1 (kX.1 hcl j u hu)
 rw[hm]at h2;cases h2;rfl
mutual
theorem xV {fr:List Nat} (hfr:∀d∈fr,∀e ob,an m e=some ob→ob.bV d=false) (ho:∀d ob,an m d=some ob→d∉fr→cO ν m H1 Z d ob) :
 ∀(n:Nat) (sv:SV) (x y:V),shut m n sv=some x→(∀d∈fr,sv.bV d=false)→cq ν m H1 Z sv y→∀k,x.lvl k=true→borrow k H1 y=some x
 | n,.v x,z,y,h,hn,r,k,hk=>by simp only[shut,ζa]at h;subst h;exact r.fr.borrow k hk
 | n,.own d,z,y,h,hn,r,k,hk=>by
  simp only[shut]at h;split at h
  ·rename_i fl es xs hob;simp only[ζa]at h;subst h;obtain⟨_,_,_,e,rfl⟩:=r.iJ hob;cases e;have hd:d∉fr:=fun hd=>by have:=hn d hd;simp[SV.bV]at this
   have o:=ho d _ hob hd
   by_cases hkk:bC fl=true
   ·simp only[cO,hkk,if_true]at o;obtain⟨ys,hr,hl,hf,_⟩:=o;rw[oA hkk];have e:lC fl es xs=.fsl es xs:=by cases fl <;> simp[bC]at hkk <;> rfl
    rw[e]at hk ⊢;exact(FR.GM (Z:=fun _=>True) trivial (show ax H1 (ν d).1=some (es,ys)by unfold ax;rw[hr];rfl) hl (hf.mono fun id h=>⟨trivial,rfl⟩)).borrow k hk
   ·cases fl <;> simp[bC]at hkk
    ·exact c7 k H1 rfl
    ·exact c7 k H1 rfl
  ·simp at h
 | 0,.ptr d o,z,y,h,hn,r,k,hk=>by simp[shut]at h
 | n+1,.ptr d o,z,y,h,hn,r,k,hk=>by
  simp only[shut]at h;split at h
  ·rename_i cs hob;split at h
   ·rename_i xs hx;split at h
    ·rename_i hle;simp only[ζa]at h;subst h;obtain⟨_,e,rfl⟩:=r.mK hob;cases e;have hd:d∉fr:=fun hd=>by have:=hn d hd;simp[SV.bV]at this
     obtain⟨es,cs',hr,hc,_⟩:=ho d _ hob hd
     cases k with
     | zero=>simp[V.lvl]at hk
     | succ k=>
      simp only[V.lvl]at hk;have hns:∀e∈fr,SV.cz e (cs.drop o)=false:=fun e he=>by
       have:=hfr e he d _ hob;simp only[aP.bV]at this
       cases hh:SV.cz e (cs.drop o)with
       | false=>rfl
       | true=>
        exfalso;have:∀{l:List SV} {j:Nat},SV.cz e (l.drop j)=true→SV.cz e l=true:=by
         intro l
         induction l with
         | nil=>intro j h;simpa using h
         | cons a l ih=>intro j h;cases j with
          | zero=>simpa using h
          | succ j=>simp only[SV.cz,Bool.or_eq_true];exact .inr (ih (by simpa using h))
        rw[this hh]at *;simp_all
      have hlen:xs.length=cs.length:=by
       have:∀{l:List SV} {r:List V},bQ m n l=some r→r.length=l.length:=by
        intro l
        induction l with
        | nil=>intro r h;simp only[bQ,ζa]at h;subst h;rfl
        | cons a l ih=>
         intro r h;simp only[bQ]at h;split at h
         ·rename_i h1 h2;simp only[ζa]at h;subst h;simp[ih h2]
         ·simp at h
       exact this hx
      have hxd:bQ m n (cs.drop o)=some (xs.drop o):=by
       have:∀{l:List SV} {r:List V} {j:Nat},bQ m n l=some r→bQ m n (l.drop j)=some (r.drop j):=by
        intro l
        induction l with
        | nil=>intro r j h;simp only[bQ,ζa]at h;subst h;simp[bQ]
        | cons a l ih=>
         intro r j h;have h0:=h;simp only[bQ]at h;split at h
         ·rename_i h1 h2;simp only[ζa]at h;subst h
          cases j with
          | zero=>exact h0
          | succ j=>exact ih h2
         ·simp at h
       exact this hx
      have hb:=iG hfr ho n (cs.drop o) (xs.drop o) (cs'.drop o) hxd hns (hc.drop o) k hk;unfold borrow;simp only[V.closed,Bool.false_eq_true,if_false,hr,ζb,Ob.rows,List.getElem?_cons_zero,if_pos (show o≤cs'.length by rw[←hc.1,←hlen];exact hle),hb,Option.map_some]
    ·simp at h
   ·simp at h
  ·simp at h
 | n,.el d i o,z,y,h,hn,r,k,hk=>by cases n <;> simp[shut]at h
 | n,.yl id,z,y,h,hn,r,k,hk=>by cases n <;> simp[shut]at h
 | n,.mp d,z,y,h,hn,r,k,hk=>by
  simp only[shut]at h;split at h
  ·rename_i kvs hob;simp only[ζa]at h;subst h;obtain⟨_,e,rfl⟩:=r.zj hob;cases e;have hd:d∉fr:=fun hd=>by have:=hn d hd;simp[SV.bV]at this
   obtain⟨kvs',hr,hkv⟩:=ho d _ hob hd
   cases k with
   | zero=>simp[V.lvl]at hk
   | succ k=>
    simp only[V.lvl]at hk;unfold borrow;simp only[V.closed,Bool.false_eq_true,if_false,hr];rw[DQ (xs:=kvs) (ys:=kvs') hkv.1 fun j u v hu hv=>?_]
    ·rfl
    ·obtain⟨⟨e1,e2⟩,e3⟩:=hkv.2 j u v hu hv;exact⟨by rw[←e1];exact c7 k H1 (V.iZ (kY e2)),e3.borrow k (Dy.1 hk j u hu).2⟩
  ·simp at h
 | 0,.clo f a b,z,y,h,hn,r,k,hk=>by simp[shut]at h
 | n+1,.clo f a b,z,y,h,hn,r,k,hk=>by
  simp only[shut]at h;split at h
  ·rename_i x1 x2 h1 h2;simp only[ζa]at h;subst h;obtain⟨a',b',rfl,ra,rb⟩:=r.iL
   cases k with
   | zero=>simp[V.lvl]at hk
   | succ k=>
    simp only[V.lvl,ζh]at hk;have hb1:=iG hfr ho n a x1 a' h1 (fun d hd=>by have:=hn d hd;simp only[SV.bV,Bool.or_eq_false_iff]at this;exact this.1) ra k hk.1
    have hb2:=iG hfr ho n b x2 b' h2 (fun d hd=>by have:=hn d hd;simp only[SV.bV,Bool.or_eq_false_iff]at this;exact this.2) rb k hk.2
    by_cases hcl:(V.clo f a' b').closed=true
    ·rw[c7 _ _ hcl];simp only[V.closed,ζh]at hcl;rw[tn hb1 hcl.1,tn hb2 hcl.2]
    ·unfold borrow;rw[if_neg hcl];simp only[hb1,hb2]
  ·simp at h
 | 0,.tup l,z,y,h,hn,r,k,hk=>by simp[shut]at h
 | n+1,.tup l,z,y,h,hn,r,k,hk=>by
  simp only[shut]at h;obtain⟨xs,h1,rfl⟩:=ζf.1 h;obtain⟨l',rfl,rl⟩:=r.mI
  cases k with
  | zero=>simp[V.lvl]at hk
  | succ k=>
   simp only[V.lvl]at hk;have hb1:=iG hfr ho n l xs l' h1 (fun d hd=>by have:=hn d hd;simpa [SV.bV]using this) rl k hk
   by_cases hcl:(V.tup l').closed=true
   ·rw[c7 _ _ hcl];simp only[V.closed]at hcl;rw[tn hb1 hcl]
   ·unfold borrow;rw[if_neg hcl];simp only[hb1,Option.map_some]
theorem iG {fr:List Nat} (hfr:∀d∈fr,∀e ob,an m e=some ob→ob.bV d=false) (ho:∀d ob,an m d=some ob→d∉fr→cO ν m H1 Z d ob) :
 ∀(n:Nat) (svs:List SV) (xs ys:List V),bQ m n svs=some xs→(∀d∈fr,SV.cz d svs=false)→bg ν m H1 Z svs ys→∀k,V.cg k xs=true→iP (borrow k H1) ys=some xs
 | n,[],xs,ys,h,hn,r,k,hk=>by simp only[bQ,ζa]at h;subst h;rw[r.b7];rfl
 | n,sv::svs,xs,ys,h,hn,r,k,hk=>by
  simp only[bQ]at h;split at h
  ·rename_i y s h1 h2;simp only[ζa]at h;subst h;obtain⟨y',ys',rfl,r1,r2⟩:=r.inv;simp only[V.cg,ζh]at hk;have b1:=xV hfr ho n sv y y' h1 (fun d hd=>by have:=hn d hd;simp only[SV.cz,Bool.or_eq_false_iff]at this;exact this.1) r1 k hk.1
   have b2:=iG hfr ho n svs s ys' h2 (fun d hd=>by have:=hn d hd;simp only[SV.cz,Bool.or_eq_false_iff]at this;exact this.2) r2 k hk.2
   simp only[iP,b1,b2]
  ·simp at h
end
end
end Go.VE
namespace Go.VE
variable [aW]
def iQ (E:Env) (call:b9) (ops:List Oper) (place:Option (Nat×Nat)) (f:FuncId) (args:List V) (H:aq):Option (V×aq):=
 if jq E ops place f then
  match place with
  | none=>dX E call f args H
  | some (_,i)=>if dA ops i then dX E call f args H else none
 else match place with
  | none=>match bE call f args H with
   | some y=>some (y,if y.scalar then H else bH H (cK (bS 8 H) args))
   | none=>none
  | some (b,i)=>match bE call f args (H.take b)with
   | some y=>if y.scalar then some (y,H)else if gK (H.take b) (cK (bS 8 (H.take b)) args)then some (y,bH H (cK (bS 8 (H.take b)) args))else none
   | none=>if dA ops i then match bE call f args H with
    | some y=>some (y,if y.scalar then H else bH H (cK (bS 8 H) args))
    | none=>none
    else none
section
variable {Rv:Nat→Prop} {ν ν':Nu} {Z Z':Nat→Prop} {st st':St} {m m':Tb aP} {F F':Frame} {H H' H1:aq} {N:Nat→FuncId} {S:Sys} {c:bD}
theorem Dk:∀(l:List SV) (i s:Nat) (sv:SV),an (tG i l) s=some sv→∃j,s=i+j∧l[j]? = some sv
 | [],i,s,sv,h=>by simp[tG,an]at h
 | x::l,i,s,sv,h=>by
  simp only[tG,an]at h;split at h
  ·rename_i e;simp only[ζa]at h;subst h;exact⟨0,by omega,rfl⟩
  ·obtain⟨j,h1,h2⟩:=Dk l (i+1) s sv h;exact⟨j+1,by omega,by simpa using h2⟩
theorem tU {svs:List SV} {args:List V} (h:bg ν m H Z svs args):∀s sv,an (tG 0 svs) s=some sv→cq ν m H Z sv (get args s):=fun s sv hs=>by
 obtain⟨j,rfl,hj⟩:=Dk svs 0 s sv hs;obtain⟨y,hy,r⟩:=h.get hj;rw[Nat.zero_add,C3 args j y hy];exact r
theorem s_ {az:List V} (hg:V.bF az=true):R (fun _=>(0,0)) (fun _=>False) (start (az.map .v) []) az []∧bg (fun _=>(0,0)) [] [] (fun _=>False) (az.map .v) az:=by
 have h:bg (fun _=>(0,0)) [] [] (fun _=>False) (az.map .v) az:=bg.qh (b8.same hg)
 refine⟨⟨tU h,fun d ob hd=>by simp[start,an]at hd,fun d d' ob ob' hd=>by simp[start,an]at hd,fun d ob hd=>by simp[start,an]at hd,fun id h=>h.elim,⟨fun id es ys h=>h.elim⟩⟩,h⟩
theorem BV {xs ys:List V} (h:b8 H Z xs ys):((result xs).scalar=true→result ys=result xs)∧(result ys).scalar=(result xs).scalar:=by
 cases xs with
 | nil=>rw[h.b7];exact⟨fun _=>rfl,rfl⟩
 | cons x xs=>
  obtain⟨y,ys,rfl,h1,h2⟩:=h.inv
  cases xs with
  | nil=>rw[h2.b7];exact h1.scalar
  | cons x2 xs=>
   obtain⟨y2,ys,rfl,h3,h4⟩:=h2.inv;exact FR.scalar (.tup _ _ h.1 h.2)
theorem Db (hS:iS S c) {f:FuncId} {az ys:List V} {rs:List SV} {m':ga} (hg:V.bF az=true) (h:c f (az.map .v) []=some (rs,m')) (hs:bQ m' 8 rs=some ys) (hl:(result ys).lvl 8=true) :
 ∃n r H2,(∀k,n≤k→run S.E k (.fn f) az []=some (r,H2))∧borrow 8 H2 r=some (result ys)∧(result ys).good=true:=by
 obtain⟨r0,r1⟩:=s_ hg;obtain⟨n,y,H2,ν',Z',st',F',zs,h1,rfl,h3,h4,h5,_⟩:=hS f _ _ _ _ h _ _ az [] (.inr rfl) r0 r1;subst h3;have hgood:=kD h5.obj 8 rs ys zs hs h4;refine⟨n,result zs,H2,fun k hk=>qC S.E hk _ _ _ _ h1,?_,?_⟩
 ·have hfr:∀d∈([]:List Nat),∀e ob,an st'.m e=some ob→ob.bV d=false:=fun d hd=>by simp at hd
  have ho:∀d ob,an st'.m d=some ob→d∉([]:List Nat)→cO ν' st'.m H2 Z' d ob:=fun d ob hd _=>h5.obj d ob hd
  cases rs with
  | nil=>
   simp only[bQ,ζa]at hs;subst hs;rw[h4.b7];exact c7 8 H2 rfl
  | cons x rs=>
   obtain⟨z,zs,rfl,e1,e2⟩:=h4.inv;simp only[bQ]at hs;split at hs
   ·rename_i y s g1 g2;simp only[ζa]at hs;subst hs
    cases rs with
    | nil=>
     simp only[bQ,ζa]at g2;subst g2;rw[e2.b7];exact xV hfr ho 8 x y z g1 (fun d hd=>by simp at hd) e1 8 hl
    | cons x2 rs=>
     obtain⟨z2,zs,rfl,e3,e4⟩:=e2.inv;simp only[bQ]at g2;split at g2
     ·rename_i y2 s2 g3 g4;simp only[ζa]at g2;subst g2;simp only[result,V.lvl,V.cg,ζh]at hl;have hall:bQ st'.m 8 (x::x2::rs)=some (y::y2::s2):=by simp only[bQ,g1,g3,g4]
      have hb:=iG hfr ho 8 (x::x2::rs) _ _ hall (fun d hd=>by simp at hd) h4 7 (by simp only[V.cg,ζh];exact hl)
      by_cases hcl:(V.tup (z::z2::zs)).closed=true
      ·simp only[result];rw[c7 _ _ hcl];simp only[V.closed]at hcl;rw[tn hb hcl]
      ·simp only[result];unfold borrow;rw[if_neg hcl];simp only[hb,Option.map_some]
     ·simp at g2
   ·simp at hs
 ·have:∀{l:List V},V.bF l=true→(result l).good=true:=by
   intro l hl
   cases l with
   | nil=>rfl
   | cons a l=>cases l with
    | nil=>simp only[V.bF,ζh]at hl;exact hl.1
    | cons b l=>simp only[result,V.good];exact hl
  exact this hgood
theorem AI {f:FuncId} {args az:List V} {y r:V} {H2:aq} {n:Nat} (hr:∀k,n≤k→run S.E k (.fn f) az []=some (r,H2)) (hb:borrow 8 H2 r=some y) (hg:y.good=true) (ha:borrows 8 H args=some az) :
 ∀k,n≤k→bE (run S.E k) f args H=some y:=fun k hk=>by
 unfold bE;simp only[ha,hr k hk,hb,V.iZ hg,if_true]
theorem vw (hz:∀id,Z id→(ax H id).isSome=true) {T:List Nat} {id:Nat} (h:Z id):ax (bH H T) id=ax H id:=by
 have:=hz id h;unfold ax at this ⊢;rw[fG]
 cases hh:H[id]? with
 | none=>rw[hh]at this;simp at this
 | some ob=>
  rw[hh]at this;simp only[Option.map_some,ζb]
  by_cases e:id∈T
  ·rw[if_pos e];cases ob <;> first|rfl|simp[Ob.rows]at this
  ·rw[if_neg e]
theorem yp {T:List Nat} {id:Nat} (h:id∉T):(bH H T)[id]? = H[id]? := by
 rw[fG];cases H[id]? <;> simp[h]
end
end Go.VE
namespace Go.VE
variable [aW]
section
variable {Rv:Nat→Prop} {ν ν':Nu} {Z Z':Nat→Prop} {st st':St} {m m':Tb aP} {F F':Frame} {H H' H1:aq} {N:Nat→FuncId} {S:Sys} {c:bD}
theorem A6 {az:List V} {args:List SV} {ys:List V} (ho:∀d ob,an m d=some ob→cO ν m H Z d ob) (h:bQ m 8 args=some az) (r:bg ν m H Z args ys):V.bF az=true:=kD ho 8 args az ys h r
theorem xW {az:List V} {args:List SV} {ys:List V} (r:R ν Z st F H) (ha:bg ν st.m H Z args ys) (h:bQ st.m 8 args=some az) (hl:V.cg 8 az=true):borrows 8 H ys=some az:=
 iG (fr:=[]) (fun d hd=>by simp at hd) (fun d ob hd _=>r.obj d ob hd) 8 args az ys h (fun d hd=>by simp at hd) ha 8 hl
theorem qB {b id:Nat} (h:id<b):ax (H.take b) id=ax H id:=by
 unfold ax;rw[List.getElem?_take,if_pos h]
theorem Gb {b:Nat} {fr:List Nat} {az:List V} {args:List SV} {ys:List V} (r:R ν Z st F H) (ha:bg ν st.m H Z args ys) (h:bQ st.m 8 args=some az) (hl:V.cg 8 az=true)
 (ho:∀d ob,an st.m d=some ob→bG ob=true→d∉fr→(ν d).1<b) (hz:∀id,Z id→id<b) (hold:fR st.m fr args=true):borrows 8 (H.take b) ys=some az:=by
 unfold fR at hold;rw[List.all_eq_true]at hold;have h1:∀d∈fr,SV.cz d args=false∧oU d st.m=false:=fun d hd=>by
  have:=hold d hd;simpa [ζh,Bool.not_eq_true']using this
 have hzr:∀id,Z id→Z id∧ax (H.take b) id=ax H id:=fun id h=>⟨h,qB (hz id h)⟩
 refine iG (Z:=Z) (fr:=fr) (fun d hd e ob he=>uS (h1 d hd).2 he) (fun d ob hd hf=>?_) 8 args az ys h (fun d hd=>(h1 d hd).1) (ha.mono hzr fun e _=>jQ ν st.m e) 8 hl
 exact cO.mono hzr rfl (fun hb=>by rw[List.getElem?_take,if_pos (ho d ob hd hb hf)]) (fun e _=>jQ ν st.m e) (r.obj d ob hd)
theorem OH (hS:iS S c) {ops:List Oper} {place:Option (Nat×Nat)} {dr nw:Bool} {fr:List Nat} (hdr:dr=place.isSome) (hnow:∀b i,place=some (b,i)→nw=true→dA ops i=true)
 (hold:∀b i,place=some (b,i)→(∀d ob,an st.m d=some ob→bG ob=true→d∉fr→(ν d).1<b)∧∀id,Z id→id<b)
 (r:R ν Z st F H) {args:List SV} {ys:List V} (ha:bg ν st.m H Z args ys) {f:FuncId} (hk:S.E.keep f=false) {az:List V} (hs:bQ st.m 8 args=some az) (hl:V.cg 8 az=true) (hno:(!dr||nw)=true∨fR st.m fr args=true)
 {rs:List SV} {m':ga} {zs:List V} (hc:c f (az.map .v) []=some (rs,m')) (hz:bQ m' 8 rs=some zs) (hzl:(result zs).lvl 8=true) (hsc:(result zs).scalar=true∨(dc args).isSome=true) :
 ∃n H',(∀k,n≤k→iQ S.E (run S.E k) ops place f ys H=some (result zs,H'))∧R ν Z st F H'∧cq ν st.m H' Z (.v (result zs)) (result zs)∧Ev Rv ν Z st H ν Z st H':=by
 have hg:=A6 r.obj hs ha;obtain⟨n,rr,H2,h1,h2,h3⟩:=Db hS hg hc hz hzl;have hb:=xW r ha hs hl;have hiso:=AI h1 h2 h3 hb;have hsv:∀{H'},cq ν st.m H' Z (.v (result zs)) (result zs):=.v _ _ (.same _ h3);have froze:∀T:List Nat,(∀id∈T,Z id)→R ν Z st F (bH H T)∧Ev Rv ν Z st H ν Z st (bH H T):=fun T hT=>
  ⟨r.heap (fun id ho=>yp fun hid=>by obtain⟨d,ob,g1,g2,rfl⟩:=ho;exact r.apart d ob g1 g2 (hT _ hid)) (fun id hid=>vw r.zrow hid),
   Ev.heap (by rw[iT];exact Nat.le_refl _) (fun id _ _ hz _=>yp fun hid=>hz (hT id hid)) (fun id hid=>vw r.zrow hid)⟩
 have allT:(dc args).isSome=true→(∀id∈cK (bS 8 H) ys,Z id)∧True:=fun hx=>by
  obtain⟨xs,hx⟩:=Option.isSome_iff_exists.1 hx;have hf:=ha.dc hx;exact⟨fun id hid=>by
   obtain⟨j,u,hu,hku⟩:=qM hid;have hj:j<xs.length:=by rw[hf.1];exact(ζe.1 hu).1
   exact FR.bS r.deep 8 (hf.2 j _ u (ζd hj) hu) id hku,trivial⟩
 cases place with
 | none=>
  subst hdr
  by_cases hsca:(result zs).scalar=true
  ·exact⟨n,H,fun k hkn=>by simp only[iQ,jq,hk,Bool.false_and,Bool.false_eq_true,if_false,hiso k hkn,hsca,if_true],r,hsv,.refl⟩
  ·obtain⟨hT,-⟩:=allT (hsc.resolve_left hsca);obtain⟨q1,q2⟩:=froze _ hT;exact⟨n,bH H (cK (bS 8 H) ys),fun k hkn=>by simp only[iQ,jq,hk,Bool.false_and,Bool.false_eq_true,if_false,hiso k hkn,hsca],q1,hsv,q2⟩
 | some bi=>
  obtain⟨b,i⟩:=bi;obtain⟨o1,o2⟩:=hold b i rfl;have hdt:dr=true:=hdr;subst hdt;have fits:∀k,bE (run S.E k) f ys (H.take b)=some (result zs)→(result zs).scalar=false→gK (H.take b) (cK (bS 8 (H.take b)) ys)=true∧cK (bS 8 H) ys=cK (bS 8 (H.take b)) ys:=fun k _ hns=>by
   obtain⟨xs,hx⟩:=Option.isSome_iff_exists.1 (hsc.resolve_left (by rw[hns];simp))
   have hf:=ha.dc hx;have hzr:∀id,Z id→Z id∧ax (H.take b) id=ax H id:=fun id h=>⟨h,qB (o2 id h)⟩
   have hd:Deep (H.take b) Z:=⟨fun id es ys hz hr c hc u hu=>by
    rw[(hzr id hz).2]at hr;obtain⟨x,hx⟩:=r.deep.row id es ys hz hr c hc u hu;exact⟨x,hx.mono hzr⟩⟩
   have hZ:∀id∈cK (bS 8 (H.take b)) ys,Z id:=fun id hid=>by
    obtain⟨j,u,hu,hku⟩:=qM hid;have hj:j<xs.length:=by rw[hf.1];exact(ζe.1 hu).1
    exact FR.bS hd 8 ((hf.2 j _ u (ζd hj) hu).mono hzr) id hku
   refine⟨?_,tW _ fun id hid=>o2 id (hZ id hid)⟩
   unfold gK;rw[List.all_eq_true];intro id hid;have h1:=r.zrow id (hZ id hid);rw[←(hzr id (hZ id hid)).2]at h1;exact h1
  rcases hno with hno|hno
  ·have hlo:=hnow b i rfl (by simpa using hno)
   by_cases hsca:(result zs).scalar=true
   ·refine⟨n,H,fun k hkn=>?_,r,hsv,.refl⟩
    simp only[iQ,jq,hk,Bool.false_and,Bool.false_eq_true,if_false];split
    ·rename_i y hy;have:=oT hy;rw[hiso k hkn]at this;cases this;simp only[hsca,if_true]
    ·simp only[hlo,if_true,hiso k hkn,hsca]
   ·obtain⟨hT,-⟩:=allT (hsc.resolve_left hsca);obtain⟨q1,q2⟩:=froze _ hT;refine⟨n,bH H (cK (bS 8 H) ys),fun k hkn=>?_,q1,hsv,q2⟩
    simp only[iQ,jq,hk,Bool.false_and,Bool.false_eq_true,if_false];split
    ·rename_i y hy;have h9:=oT hy;rw[hiso k hkn]at h9;cases h9;obtain⟨f1,f2⟩:=fits k hy (by simpa using hsca)
     rw[if_neg hsca,if_pos f1,f2]
    ·simp only[hlo,if_true,hiso k hkn];rw[if_neg hsca]
  ·have hb2:=Gb r ha hs hl o1 o2 hno
   by_cases hsca:(result zs).scalar=true
   ·refine⟨n,H,fun k hkn=>?_,r,hsv,.refl⟩
    simp only[iQ,jq,hk,Bool.false_and,Bool.false_eq_true,if_false];have:=AI h1 h2 h3 hb2 k hkn;simp only[this,hsca,if_true]
   ·obtain⟨hT,-⟩:=allT (hsc.resolve_left hsca);obtain⟨q1,q2⟩:=froze _ hT;refine⟨n,bH H (cK (bS 8 H) ys),fun k hkn=>?_,q1,hsv,q2⟩
    simp only[iQ,jq,hk,Bool.false_and,Bool.false_eq_true,if_false];have h9:=AI h1 h2 h3 hb2 k hkn;obtain⟨f1,f2⟩:=fits k h9 (by simpa using hsca)
    simp only[h9];rw[if_neg hsca,if_pos f1,f2]
theorem Ea {xs ys:List (List V)} (h:eA H Z xs ys) (hs:oO xs=true):ys=xs:=by
 refine(List.ext_getElem h.1 fun j h1 h2=>?_).symm
 have:=h.2 j _ _ (ζd h1) (ζd h2);have hsj:V.bR xs[j]=true:=by
  unfold oO at hs;rw[List.all_eq_true]at hs;have:=hs _ (List.getElem_mem h1);rw[List.all_eq_true]at this;exact ni.2 fun k u hu=>this u (List.mem_of_getElem? hu)
 exact(this.scalar.1 hsj).symm
theorem nu:∀{args:List SV} {os:ga},handed m args=some os→∀k ob,an os k=some ob→an m k=some ob∧uv ob=true
 | [],os,h,k,ob,hk=>by simp only[handed,ζa]at h;subst h;simp[an]at hk
 | .v _::r,os,h,k,ob,hk=>nu (args:=r) (by simpa [handed]using h) k ob hk
 | .own d::r,os,h,k,ob,hk=>by
  simp only[handed]at h;split at h
  ·rename_i os' fl es xs h1 h2;simp only[ζa]at h;subst h;simp only[an]at hk;split at hk
   ·rename_i e;subst e;cases hk;exact⟨h2,rfl⟩
   ·exact nu h1 k ob hk
  ·simp at h
 | .ptr d _::r,os,h,k,ob,hk=>by
  simp only[handed]at h;split at h
  ·rename_i os' cs h1 h2;split at h
   ·rename_i hc;simp only[ζa]at h;subst h;simp only[an]at hk;split at hk
    ·rename_i e;subst e;cases hk;exact⟨h2,hc⟩
    ·exact nu h1 k ob hk
   ·simp at h
  ·simp at h
 | .el ..::r,os,h,k,ob,hk=>by simp[handed]at h
 | .mp _::r,os,h,k,ob,hk=>by simp[handed]at h
 | .clo ..::r,os,h,k,ob,hk=>by simp[handed]at h
 | .tup _::r,os,h,k,ob,hk=>by simp[handed]at h
 | .yl _::r,os,h,k,ob,hk=>by simp[handed]at h
theorem vo:∀{l:List Nat} {a b:Tb aP},qf m' l a=some b→(∀k∈l,an b k=an m' k∧∃ob,an m' k=some ob∧uv ob=true)∧∀k,k∉l→an b k=an a k
 | [],a,b,h=>by simp only[qf,ζa]at h;subst h;exact⟨fun k hk=>by simp at hk,fun _ _=>rfl⟩
 | d::r,a,b,h=>by
  simp only[qf]at h;split at h
  ·rename_i ob hob;split at h
   ·rename_i hp;obtain⟨h1,h2⟩:=vo h;refine⟨fun k hk=>?_,fun k hk=>?_⟩
    ·by_cases hr:k∈r
     ·exact h1 k hr
     ·have e:k=d:=by simpa [hr]using hk
      subst e;exact⟨by rw[h2 k hr,bA,hob],ob,hob,hp⟩
    ·simp only[List.mem_cons,not_or]at hk;rw[h2 k hk.2,cM _ _ (Ne.symm hk.1)]
   ·simp at h
  ·simp at h
theorem mem_keys:∀{os:ga} {k:Nat},k∈os.map (·.1)↔∃ob,an os k=some ob
 | [],k=>by simp[an]
 | (d,o)::os,k=>by
  simp only[List.map_cons,List.mem_cons,an]
  by_cases e:d=k
  ·subst e;simp
  ·rw[if_neg e,←mem_keys];constructor
   ·rintro (h|h)
    ·exact absurd h.symm e
    ·exact h
   ·exact .inr
theorem cO.plain {d:Nat} {ob:aP} (hp:uv ob=true) (hz:∀id,Z id→Z' id∧ax H' id=ax H id) (hd:ν' d=ν d) (hh:bG ob=true→H'[(ν d).1]? = H[(ν d).1]?) (o:cO ν m H Z d ob):cO ν' m' H' Z' d ob:=by
 cases ob with
 | box cs=>
  obtain⟨xs,hx⟩:=Option.isSome_iff_exists.1 hp;obtain⟨es,cs',h1,h2,h3⟩:=o;refine⟨es,cs',by rw[hd,hh rfl];exact h1,?_,h3⟩
  have:=(h2.dc hx).mono hz;rw[qD hx];exact bg.qh this
 | sl k es xs=>exact cO.mono hz hd hh (fun e he=>by simp[aP.bV]at he) o
 | mp kvs=>exact cO.mono hz hd hh (fun e he=>by simp[aP.bV]at he) o
theorem P6 (hS:iS S c) {f:FuncId} (hkp:S.E.keep f=true) (r:R ν Z st F H) {args:List SV} {ys:List V} (ha:bg ν st.m H Z args ys) {os:ga} (hh:handed st.m args=some os)
 {rs:List SV} {m':ga} {zs:List V} {m2:Tb aP} (hc:c f args os=some (rs,m')) (hz:dc rs=some zs) (hb:qf m' (os.map (·.1)) st.m=some m2) :
 ∃n y H' Z',(∀k,n≤k→run S.E k (.fn f) ys H=some (y,H'))∧R ν Z' { st with m:=m2 } F H'∧cq ν m2 H' Z' (.v (result zs)) y∧Ev Rv ν Z st H ν Z' { st with m:=m2 } H'∧∀e ob',an m2 e=some ob'→∃ob,an st.m e=some ob∧ν e=ν e∧sameShape ob ob':=by
 have hsub:∀k ob,an os k=some ob→an st.m k=some ob:=fun k ob h=>(nu hh k ob h).1
 have ha0:bg ν os H Z args ys:=ha.mono (fun id h=>⟨h,rfl⟩) fun e _ ob' h=>⟨ob',hsub e ob' h,rfl,.refl _⟩
 have r0:R ν Z (start args os) ys H:=by
  refine⟨tU ha0,fun d ob hd=>?_,fun d d' ob ob' h1 h2=>r.inj d d' ob ob' (hsub d ob h1) (hsub d' ob' h2),fun d ob h=>r.apart d ob (hsub d ob h),r.zrow,r.deep⟩
  exact cO.plain (nu hh d ob hd).2 (fun id h=>⟨h,rfl⟩) rfl (fun _=>rfl) (r.obj d ob (hsub d ob hd))
 obtain⟨n,y,H',ν1,Z',st1,F1,ws,e1,rfl,rfl,e2,e3,ev⟩:=hS f args os rs m' hc ν Z ys H (.inl hkp) r0 ha0;obtain⟨b1,b2⟩:=vo hb;have hpin:∀k ob',k∈os.map (·.1)→an st1.m k=some ob'→∃ob,an os k=some ob∧ν1 k=ν k∧sameShape ob ob':=fun k ob' hk h=>ev.pin k hk ob' h
 have hown0:∀id,dM ν os id→dM ν st.m id:=fun id ⟨k,o,h1,h2,h3⟩=>⟨k,o,hsub k o h1,h2,h3⟩
 have bk:∀ob ob':aP,sameShape ob ob'→bG ob'=bG ob:=fun ob ob' h=>by
  cases ob <;> cases ob' <;> simp only[sameShape]at h
  ·simp only[bG,h.1]
  ·rfl
  ·rfl
 have was:∀k ob',an m2 k=some ob'→∃ob,an st.m k=some ob∧sameShape ob ob'∧(k∈os.map (·.1)∧an st1.m k=some ob'∧ν1 k=ν k∧an os k=some ob∧uv ob'=true∨k∉os.map (·.1)∧ob'=ob):=fun k ob' h=>by
  by_cases hk:k∈os.map (·.1)
  ·obtain⟨g1,o,g2,g3⟩:=b1 k hk;rw[g1]at h;obtain⟨ob,p1,p2,p3⟩:=hpin k ob' hk h;rw[g2]at h;cases h;exact⟨ob,hsub k ob p1,p3,.inl ⟨hk,g2,p2,p1,g3⟩⟩
  ·rw[b2 k hk]at h;exact⟨ob',h,.refl _,.inr ⟨hk,rfl⟩⟩
 have hother:∀k ob,k∉os.map (·.1)→an st.m k=some ob→bG ob=true→H'[(ν k).1]? = H[(ν k).1]? ∧ ¬Z' (ν k).1:=fun k ob hk h hbk=>by
  have hno:¬dM ν os (ν k).1:=by
   rintro⟨k2,o2,g1,g2,g3⟩;have:=r.inj k2 k o2 ob (hsub k2 o2 g1) h g2 hbk g3;subst this;exact hk (mem_keys.2 ⟨o2,g1⟩)
  have hlt:=r.lt ⟨k,ob,h,hbk,rfl⟩;have hnz:=r.apart k ob h hbk;refine⟨ev.same _ hlt hno hnz (fun h=>h),fun hz'=>?_⟩
  rcases ev.frz _ hz' with h|h|h|h
  ·exact hnz h
  ·exact hno h
  ·exact h
  ·omega
 have sm:∀e ob',an m2 e=some ob'→∃ob,an st.m e=some ob∧ν e=ν e∧sameShape ob ob':=fun e ob' h=>by
  obtain⟨ob,h1,h2,_⟩:=was e ob' h;exact⟨ob,h1,rfl,h2⟩
 refine⟨n,result ws,H',Z',fun k hk=>qC S.E hk _ _ _ _ e1,⟨fun s sv hs=>(r.slot s sv hs).mono ev.rows fun e _=>sm e,fun k ob' h=>?_,fun d1 d2 o1 o2 h1 h2 k1 k2 hp=>?_,fun d1 o1 h1 k1=>?_,e3.zrow,e3.deep⟩,?_,⟨ev.len,?_,ev.rows,?_,?_,fun e _=>sm e,rfl⟩,sm⟩
 ·obtain⟨ob,h1,h2,h3|⟨h3,rfl⟩⟩:=was k ob' h
  ·obtain⟨q1,q2,q3,q4,q5⟩:=h3;refine cO.plain (ν:=ν1) (Z:=Z') (H:=H') q5 (fun id h=>⟨h,rfl⟩) q3.symm (fun _=>rfl) (e3.obj k ob' q2)
  ·exact cO.mono ev.rows rfl (fun hbk=>(hother k ob' h3 h1 hbk).1) (fun e _=>sm e) (r.obj k ob' h1)
 ·obtain⟨p1,g1,s1,_⟩:=was d1 o1 h1;obtain⟨p2,g2,s2,_⟩:=was d2 o2 h2;exact r.inj d1 d2 p1 p2 g1 g2 (by rw[←bk _ _ s1];exact k1) (by rw[←bk _ _ s2];exact k2) hp
 ·obtain⟨ob,g1,s1,h3|⟨h3,rfl⟩⟩:=was d1 o1 h1
  ·obtain⟨q1,q2,q3,q4,q5⟩:=h3;rw[←q3];exact e3.apart d1 o1 q2 k1
  ·exact(hother d1 o1 h3 g1 k1).2
 ·have hf:=e2.dc hz;have:FR H' Z' (result zs) (result ws):=by
   cases zs with
   | nil=>rw[hf.b7];exact .same _ rfl
   | cons x xs=>
    obtain⟨y,ys2,rfl,g1,g2⟩:=hf.inv
    cases xs with
    | nil=>rw[g2.b7];exact g1
    | cons x2 xs=>
     obtain⟨y2,ys3,rfl,g3,g4⟩:=g2.inv;exact .tup _ _ hf.1 hf.2
  exact .v _ _ this
 ·intro id hl ho hz _;exact ev.same id hl (fun h=>ho (hown0 id h)) hz (fun h=>h)
 ·rintro id ⟨k,o,h1,h2,h3⟩;obtain⟨ob,g1,s1,_⟩:=was k o h1;exact .inl ⟨k,ob,g1,by rw[←bk _ _ s1];exact h2,h3⟩
 ·intro id h;rcases ev.frz id h with h|h|h|h
  ·exact .inl h
  ·exact .inr (.inl (hown0 id h))
  ·exact h.elim
  ·exact .inr (.inr (.inr h))
theorem KR (hS:iS S c) {f:FuncId} {az:List V} {rs:List SV} {m':ga} (hg:V.bF az=true) (h:c f (az.map .v) []=some (rs,m')) :
 ∃n H2 ν' Z' st' F' ys,(∀k,n≤k→run S.E k (.fn f) az []=some (result ys,H2))∧st'.m=m'∧bg ν' m' H2 Z' rs ys∧R ν' Z' st' F' H2:=by
 obtain⟨r0,r1⟩:=s_ hg;obtain⟨n,y,H2,ν',Z',st',F',zs,h1,rfl,h3,h4,h5,_⟩:=hS f _ _ _ _ h _ _ az [] (.inr rfl) r0 r1;exact⟨n,H2,ν',Z',st',F',zs,fun k hk=>qC S.E hk _ _ _ _ h1,h3,h4,h5⟩
theorem zp {ys:List V} (h:V.bR ys=true):V.bR (.aF::ys)=true∧V.bR (.cC::ys)=true:=by
 simp only[V.bR,V.scalar,Bool.true_and];exact⟨h,h⟩
theorem AT {ys:List V} (h:V.bR ys=true):(result ys).scalar=true:=by
 cases ys with
 | nil=>rfl
 | cons a l=>
  cases l with
  | nil=>simp only[V.bR,ζh]at h;exact h.1
  | cons b l=>simp only[result,V.scalar];exact h
theorem bg.U7 {ys:List V} (h:V.bF ys=true):bg ν m H Z (ys.map .v) ys:=bg.qh (b8.same h)
theorem JR (hS:iS S c) (hP:∀f q,S.prm f=some q→nP S.E f q) {ops:List Oper} {place:Option (Nat×Nat)} {dr nw:Bool} {fr:List Nat} (hdr:dr=place.isSome) (hnow:∀b i,place=some (b,i)→nw=true→dA ops i=true)
 (hold:∀b i,place=some (b,i)→(∀d ob,an st.m d=some ob→bG ob=true→d∉fr→(ν d).1<b)∧∀id,Z id→id<b)
 (r:R ν Z st F H) {args:List SV} {ys:List V} (ha:bg ν st.m H Z args ys) {f:FuncId} {dst:Option Nat} {sv:SV} (h:hU S c dst dr (!dr||nw) (fR st.m fr) f args st=some (sv,st')) :
 ∃n y H' ν' Z',(∀k,n≤k→iQ S.E (run S.E k) ops place f ys H=some (y,H'))∧R ν' Z' st' F H'∧cq ν' st'.m H' Z' sv y∧Ev Rv ν Z st H ν' Z' st' H'∧(dr=true→Z'=Z)∧Kept dst ν st.m ν' st'.m:=by
 unfold hU at h;split at h
 ·rename_i hk;split at h
  ·rename_i hnw;have hplace:∀{q:b9} {y:V} {H':aq},dX S.E q f ys H=some (y,H')→iQ S.E q ops place f ys H=some (y,H'):=fun {q y H'} hd=>by
    unfold iQ
    cases place with
    | none=>rw[if_pos (by simp only[jq,hk,Bool.and_self])];exact hd
    | some bi=>
     obtain⟨b,i⟩:=bi;have hdt:dr=true:=hdr;subst hdt;have hlo:=hnow b i rfl (by simpa using hnw)
     rw[if_pos (by simp only[jq,hk,hlo,Bool.true_or,Bool.and_self])]
     simp only;rw[if_pos hlo];exact hd
   split at h
   ·
    rename_i hown;split at h
    ·rename_i az hs;split at h
     ·rename_i hl;have hg:=A6 r.obj hs ha;have hb:=xW r ha hs hl;split at h
      ·rename_i rs m' hc;obtain⟨n,H2,ν2,Z2,st2,F2,ws,e1,rfl,e3,e4⟩:=KR hS hg hc;have hdir:∀k,n≤k→∀{o:Option (V×aq)},(if(result ws).scalar then some (result ws,H)else
        match result ws with
        | .hsl id es off len=>(oM H.length H2 id es off len).map fun (v,ob)=>(v,H++[ob])
        | .tup (.hsl id es off len::rest)=>if V.bR rest then(oM H.length H2 id es off len).map fun (v,ob)=>(.tup (v::rest),H++[ob])else none
        | _=>none)=o→dX S.E (run S.E k) f ys H=o:=fun k hkn o ho=>by
        unfold dX jB;rw[if_pos hown];simp only[hb,e1 k hkn];exact ho
       have scal:∀zs:List V,(result zs).scalar=true→result ws=result zs→sv=.v (result zs)→st'=st→∃n y H' ν' Z',(∀k,n≤k→iQ S.E (run S.E k) ops place f ys H=some (y,H'))∧R ν' Z' st' F H'∧cq ν' st'.m H' Z' sv y∧Ev Rv ν Z st H ν' Z' st' H'∧(dr=true→Z'=Z)∧Kept dst ν st.m ν' st'.m:=by
        rintro zs h1 h2 rfl rfl;exact⟨n,result zs,H,ν,Z,fun k hkn=>hplace (hdir k hkn (by rw[h2,if_pos h1])),r,.v _ _ (.same _ (kY h1)),.refl,fun _=>rfl,.refl⟩
       have emp:∀(k:Fl) (es:Nat) (zs:List V) (rest:List SV),V.bR zs=true→∀t,st.new t=true→∀w:V,(k=.nil∧w=.aF∨k=.emp∧w=.cC)→result (w::zs)=result ws→dst=some t→sv=B5 (.own t::zs.map .v)→st'={ st with m:=aV st.m t (.sl k es []) } →
        ∃n y H' ν' Z',(∀k,n≤k→iQ S.E (run S.E k) ops place f ys H=some (y,H'))∧R ν' Z' st' F H'∧cq ν' st'.m H' Z' sv y∧Ev Rv ν Z st H ν' Z' st' H'∧(dr=true→Z'=Z)∧Kept dst ν st.m ν' st'.m:=by
        rintro k es zs rest hsc t hnew w hw hres rfl rfl rfl;have hrl:bC k=false:=by rcases hw with⟨rfl,_⟩|⟨rfl,_⟩ <;> rfl
        have hsl:cq (gj ν t (0,0)) (aV st.m t (.sl k es [])) H Z (.own t) w:=by
         refine .own _ _ fun ob' h'=>?_
         rw[bA]at h';cases h';exact⟨_,_,_,rfl,by rcases hw with⟨rfl,rfl⟩|⟨rfl,rfl⟩ <;> rfl⟩
        have hscw:(result (w::zs)).scalar=true:=AT (by rcases hw with⟨_,rfl⟩|⟨_,rfl⟩;exact(zp hsc).1;exact(zp hsc).2)
        refine⟨n,result (w::zs),H,gj ν t (0,0),Z,fun k hkn=>hplace (hdir k hkn (by rw[←hres,if_pos hscw])),r.add hnew (fun hb=>by simp[bG,hrl]at hb) (by simp[cO,hrl]),?_,
         Ev.add hnew (Nat.le_refl _) (fun _ _ _=>rfl) (fun _ _=>rfl) (fun hb=>by simp[bG,hrl]at hb),fun _=>rfl,Kept.add fun _ _ h=>h⟩
        cases zs with
        | nil=>exact hsl
        | cons z zs=>exact .tup _ _ (by simp) (bg.cons hsl (bg.U7 (lU hsc))).2
       split at h
       ·rename_i zs hz;split at h
        ·rename_i hsc;simp only[ζa,ζc]at h;exact scal zs hsc ((BV (e3.dc hz)).1 hsc) h.1.symm h.2.symm
        ·simp at h
       ·split at h
        ·rename_i e rest t _;obtain⟨w,ws,rfl,g1,g2⟩:=e3.inv;split at h
         ·
          rename_i es xs zs hob hz;split at h
          ·rename_i hcnd;simp only[ζh]at hcnd;obtain⟨⟨c1,c2⟩,hnew⟩:=hcnd;simp only[ζa,ζc]at h;obtain⟨rfl,rfl⟩:=h;have o:=e4.obj e _ hob;simp only[cO,bC,if_true]at o;obtain⟨rows,hr,hle,hf,hsol,hrow⟩:=o;obtain⟨q1,q2⟩:=hrow trivial;have hrows:rows=xs:=by
            have:=Ea hf c2;rw[q1,List.drop_zero,←q2,List.take_length]at this;exact this
           subst hrows;obtain⟨_,_,_,ee,rfl⟩:=g1.iJ hob;cases ee;have hrest:ws=zs:=(g2.dc hz).scalar.1 c1;subst hrest;have had:oM H.length H2 (ν2 e).1 es 0 rows.length=some (.hsl H.length es 0 rows.length,.row es rows):=by
            unfold oM;rw[hr];simp only[true_and];rw[if_pos];rw[List.all_eq_true];intro x hx;unfold oO at c2;rw[List.all_eq_true]at c2;exact c2 x hx
           have hH:∀id,id<H.length→(H++[Ob.row es rows])[id]? = H[id]? := fun id hl=>List.getElem?_append_left hl
           have hzr:∀id,Z id→ax (H++[Ob.row es rows]) id=ax H id:=fun id hz=>by unfold ax;rw[hH id (r.si hz)]
           have r2:R ν Z st F (H++[Ob.row es rows]):=r.heap (fun id ho=>hH id (r.lt ho)) hzr
           have hgr:V.kP rows=true:=by
            refine jN.2 fun j u hu=>?_
            unfold oO at c2;rw[List.all_eq_true]at c2;have:=c2 u (List.mem_of_getElem? hu);rw[List.all_eq_true]at this;exact gW.2 fun i v hv=>kY (this v (List.mem_of_getElem? hv))
           have hR:=r2.add (ν:=ν) (d:=t) (ob:=.sl .row es rows) (p:=(H.length,0)) hnew (fun _=>⟨fun ho=>absurd (r.lt ho) (by simp),fun hz=>absurd (r.si hz) (by simp)⟩) (by
            simp only[cO,bC,if_true,fK];refine⟨rows,by simp,by simp,?_,(eA.same hgr).Ch,fun _=>⟨trivial,rfl⟩⟩
            rw[List.drop_zero,List.take_length];exact eA.same hgr)
           have hsl:cq (gj ν t (H.length,0)) (aV st.m t (.sl .row es rows)) (H++[Ob.row es rows]) Z (.own t) (.hsl H.length es 0 rows.length):=by
            refine .own _ _ fun ob' h'=>?_
            rw[bA]at h';cases h';exact⟨_,_,_,rfl,by simp[pF,fK]⟩
           have hev:Ev Rv ν Z st H (gj ν t (H.length,0)) Z { st with m:=aV st.m t (.sl .row es rows) } (H++[Ob.row es rows]):=Ev.add hnew (by simp) (fun id hl _=>hH id hl) hzr (fun _=>.inr (Nat.le_refl _))
           have hoff:pF (ν2 e) Fl.row es rows.length=.hsl (ν2 e).1 es 0 rows.length:=by simp[pF,q1]
           rw[hoff]at hdir
           cases rest with
           | nil=>
            have:ws=[]:=by simp only[dc,ζa]at hz;exact hz.symm
            subst this;refine⟨n,_,_,_,Z,fun k hkn=>hplace (hdir k hkn (o:=some (.hsl H.length es 0 rows.length,H++[Ob.row es rows])) ?_),hR,hsl,hev,fun _=>rfl,Kept.add fun _ _ h=>h⟩
            simp only[result,V.scalar,Bool.false_eq_true,if_false,had,Option.map_some]
           | cons x2 rest=>
            have hcl:∃w2 ws2,ws=w2::ws2:=by
             have:=g2.1
             cases ws with
             | nil=>simp at this
             | cons a b=>exact⟨a,b,rfl⟩
            obtain⟨w2,ws2,rfl⟩:=hcl;refine⟨n,_,_,_,Z,fun k hkn=>hplace (hdir k hkn (o:=some (.tup (.hsl H.length es 0 rows.length::w2::ws2),H++[Ob.row es rows])) ?_),hR,?_,hev,fun _=>rfl,Kept.add fun _ _ h=>h⟩
            ·simp only[result,V.scalar,V.bR,Bool.false_and,Bool.false_eq_true,if_false];have c1':(w2.scalar&&V.bR ws2)=true:=by simpa [V.bR]using c1
             simp only[c1',if_true,had,Option.map_some]
            ·exact .tup _ _ (by simp) (bg.cons hsl (bg.U7 (lU c1))).2
          ·simp at h
         ·rename_i es xs zs hob hz;split at h
          ·rename_i hcnd;simp only[ζh]at hcnd;simp only[ζa,ζc]at h;obtain⟨rfl,rfl⟩:=h;obtain⟨_,_,_,ee,rfl⟩:=g1.iJ hob;cases ee;have hrest:=(g2.dc hz).scalar.1 hcnd.1;subst hrest;exact emp .nil es ws rest hcnd.1 _ hcnd.2 .aF (by simp) rfl rfl rfl rfl
          ·simp at h
         ·rename_i es xs zs hob hz;split at h
          ·rename_i hcnd;simp only[ζh]at hcnd;simp only[ζa,ζc]at h;obtain⟨rfl,rfl⟩:=h;obtain⟨_,_,_,ee,rfl⟩:=g1.iJ hob;cases ee;have hrest:=(g2.dc hz).scalar.1 hcnd.1;subst hrest;exact emp .emp es ws rest hcnd.1 _ hcnd.2 .cC (by simp) rfl rfl rfl rfl
          ·simp at h
         ·simp at h
        ·simp at h
      ·simp at h
     ·simp at h
    ·simp at h
   ·rename_i hown;split at h
    ·simp at h
    ·rename_i hd;split at h
     ·rename_i q hq;obtain⟨n,y,H',ν',e1,e2,e3,e4,e5⟩:=OQ (Rv:=Rv) (hP f q hq) r ha h;exact⟨n,y,H',ν',Z,fun k hkn=>hplace (by unfold dX;rw[if_neg hown];exact e1 k hkn),e2,e3,e4,fun h=>absurd h hd,e5⟩
     ·split at h
      ·rename_i os hh;split at h
       ·rename_i rs m' hc;split at h
        ·rename_i zs m2 hz hb;simp only[ζa,ζc]at h;obtain⟨rfl,rfl⟩:=h;obtain⟨n,y,H',Z',e1,e2,e3,e4,e5⟩:=P6 (Rv:=Rv) hS hk r ha hh hc hz hb;exact⟨n,y,H',ν,Z',fun k hkn=>hplace (by unfold dX;rw[if_neg hown];exact e1 k hkn),e2,e3,e4,fun h=>absurd h hd,fun e ob' _=>e5 e ob'⟩
        ·simp at h
       ·simp at h
      ·simp at h
  ·simp at h
 ·rename_i hk;have hk':S.E.keep f=false:=by simpa using hk
  split at h
  ·rename_i az hs;split at h
   ·rename_i hl;simp only[ζh,Bool.or_eq_true]at hl;split at h
    ·rename_i rs m' hc;split at h
     ·rename_i zs hz;split at h
      ·rename_i hcnd;simp only[ζh,Bool.or_eq_true,Bool.not_eq_true']at hcnd;simp only[ζa,ζc]at h;obtain⟨rfl,rfl⟩:=h;obtain⟨n,H',e1,e2,e3,e4⟩:=OH (Rv:=Rv) hS hdr hnow hold r ha hk' hs hl.1 (by simpa using hl.2) hc hz hcnd.1 hcnd.2
       exact⟨n,_,H',ν,Z,e1,e2,e3,e4,fun _=>rfl,.refl⟩
      ·simp at h
     ·simp at h
    ·simp at h
   ·simp at h
  ·simp at h
end
end Go.VE
namespace Go.VE
variable [aW]
structure CX where
 E:Env
 nm:FuncId→Option Nat
 nt:Nat
def G4 (ops:List Oper) (o:Oper):Option (Option (Nat×Bool)):=
 match o.guard with
 | none=>some none
 | some (j,b)=>((ops[j]?).bind (·.dst)).map fun d=>some (d,b)
def w8 (nt:Nat):Option Nat→Bool
 | none=>true
 | some d=>decide (d<nt)
def tM (draw:Bool) (ops:List Oper) (i:Nat) (k:K) (os:List Operand):K×List Operand×Bool:=
 if draw && !dA ops i then match k,os,yN ops i with
  | .l (.store n),.tmp a'::os',some (a,l)=>if a'=a then(.l (.storeF n),(.tmp a'::os')++l.map .tmp,true)else(k,os,false)
  | _,_,_=>(k,os,false)
 else(k,os,draw&&dA ops i)
theorem uV (draw:Bool) (ops:List Oper) (i:Nat) (k:K) (os:List Operand):tM draw ops i k os=(k,os,draw&&dA ops i) ∨
 (draw=true∧dA ops i=false∧∃n a l os',k=.l (.store n)∧os=.tmp a::os'∧yN ops i=some (a,l)∧tM draw ops i k os=(.l (.storeF n),os++l.map .tmp,true)):=by
 unfold tM;split
 ·rename_i h;simp only[ζh,Bool.not_eq_true']at h;split
  ·rename_i n a' os' a l hk;split
   ·rename_i e;subst e;refine .inr ⟨h.1,h.2,n,a',l,os',rfl,rfl,hk,?_⟩;simp only[tM,h.1,h.2,hk,Bool.not_false,Bool.and_self,if_true]
   ·exact .inl (by rw[h.2,Bool.and_false])
  ·exact .inl (by rw[h.2,Bool.and_false])
 ·exact .inl rfl
def jJ (X:CX) (draw:Bool) (ops:List Oper) (i:Nat) (o:Oper):Option RO:=
 if w8 X.nt o.dst then
  match G4 ops o,resolve X.E X.nm o.op with
  | some gd,some (k,os)=>if sW k then((tM draw ops i k os).2.1.mapM (mU X.nm)).map fun az=>⟨o.dst,gd,(tM draw ops i k os).2.2,(tM draw ops i k os).1,az,[],[]⟩else none
  | _,_=>none
 else none
structure Good (X:CX) (S:Sys):Prop where
 E:X.E=S.E
 N:∀f s,X.nm f=some s→S.N s=f
 prm:∀f q,S.prm f=some q→nP S.E f q
section
variable {Rv:Nat→Prop} {ν ν':Nu} {Z Z':Nat→Prop} {st st':St} {m m':Tb aP} {F F':Frame} {H H' H1:aq} {S:Sys} {c:bD} {X:CX}
def Old (b:Nat) (fr:List Nat) (ν:Nu) (Z:Nat→Prop) (m:Tb aP):Prop:=(∀d ob,an m d=some ob→bG ob=true→d∉fr→(ν d).1<b)∧∀id,Z id→id<b
theorem lW {fr:List Nat}:∀{svs:List SV},dR fr svs=true→∀d∈fr,SV.cz d svs=false
 | [],_,d,_=>rfl
 | .v _::r,h,d,hd=>by simp only[SV.cz,SV.bV,Bool.false_or];exact lW (svs:=r) (by simpa [dR]using h) d hd
 | .ptr e _::r,h,d,hd=>by
  simp only[dR,ζh,Bool.not_eq_true',List.contains_eq_mem,decide_eq_false_iff_not]at h;simp only[SV.cz,SV.bV,Bool.or_eq_false_iff,beq_eq_false_iff_ne];exact⟨fun e=>h.1 (e▸hd),lW h.2 d hd⟩
 | .el e _ _::r,h,d,hd=>by
  simp only[dR,ζh,Bool.not_eq_true',List.contains_eq_mem,decide_eq_false_iff_not]at h;simp only[SV.cz,SV.bV,Bool.or_eq_false_iff,beq_eq_false_iff_ne];exact⟨fun e=>h.1 (e▸hd),lW h.2 d hd⟩
 | .mp e::r,h,d,hd=>by
  simp only[dR,ζh,Bool.not_eq_true',List.contains_eq_mem,decide_eq_false_iff_not]at h;simp only[SV.cz,SV.bV,Bool.or_eq_false_iff,beq_eq_false_iff_ne];exact⟨fun e=>h.1 (e▸hd),lW h.2 d hd⟩
 | .own _::r,h,_,_=>by simp[dR]at h
 | .clo ..::r,h,_,_=>by simp[dR]at h
 | .tup _::r,h,_,_=>by simp[dR]at h
 | .yl _::r,h,_,_=>by simp[dR]at h
def Ga (S:Sys) (ops:List Oper) (place:Option (Nat×Nat)) (dr:Bool) (F:Frame) (op:Op) (dst:Option Nat) (ν:Nu) (Z:Nat→Prop) (st:St) (H:aq) (sv:SV) (st':St):Prop:=
 ∃n y H' ν' Z',(∀k,n≤k→cS S.E (run S.E k) ops place F H op=some (y,H'))∧R ν' Z' st' F H'∧cq ν' st'.m H' Z' sv y∧Ev (fun id=>∃b j,place=some (b,j)∧id=b+j) ν Z st H ν' Z' st' H' ∧
  (dr=true→Z'=Z∧Kept dst ν st.m ν' st'.m)
theorem HB (gd:Good X S) {ops:List Oper} {place:Option (Nat×Nat)} {dr:Bool} {op:Op} {dst:Option Nat} {p:rY} {svs:List SV} {ys:List V} (hk:sW (.p p)=true) (r:R ν Z st F H) (rs:bg ν st.m H Z svs ys)
 (hres:FL X.E S.N F op ys (.p p)) {sv:SV} (h:(iK S.N st.m p svs).map (fun x=>(x,st))=some (sv,st')):Ga S ops place dr F op dst ν Z st H sv st':=by
 obtain⟨x,hx,e⟩:=ζf.1 h;simp only[ζc]at e;obtain⟨rfl,rfl⟩:=e;obtain⟨y,hy,hyy⟩:=Kn (N:=S.N) (fun zero pl e=>by subst e;simpa [sW]using hk) r.obj rs hx
 obtain⟨h1,h2⟩:=hres;exact⟨0,y,H,ν,Z,fun q _=>by unfold cS;rw[h1];simp only[←gd.E,h2 y hy,Option.map_some],r,hyy,.refl,fun _=>⟨rfl,.refl⟩⟩
theorem A3:∀{l1 l2:List Operand} {vs:List V},eD F (l1++l2)=some vs→∃v1 v2,eD F l1=some v1∧eD F l2=some v2∧vs=v1++v2
 | [],l2,vs,h=>⟨[],vs,rfl,h,rfl⟩
 | x::l1,l2,vs,h=>by
  obtain⟨a,az,h1,h2,rfl⟩:=ig h;obtain⟨v1,v2,g1,g2,rfl⟩:=A3 h2;exact⟨a::v1,v2,by simp only[eD,h1,g1],g2,rfl⟩
theorem Dr:∀{l:List Nat} {vs:List V},eD F (l.map Operand.tmp)=some vs→vs=l.map (get F)
 | [],vs,h=>mN h
 | x::l,vs,h=>by
  obtain⟨a,az,h1,h2,rfl⟩:=ig h;simp only[ev,ζa]at h1;subst h1;rw[Dr h2];rfl
theorem TG (gd:Good X S) {call:b9} {ops:List Oper} {b j n a:Nat} {l:List Nat} {o:Oper} {os':List Operand} {ys:List V} {y:V} (hr:resolve X.E X.nm o.op=some (.l (.store n),.tmp a::os')) (hys:eD F ((.tmp a::os')++l.map Operand.tmp)=some ys)
 (hfs:yN ops j=some (a,l)) (hnl:dA ops j=false) (e1:dS H (.storeF n) ys=some (y,H')):cS S.E call ops (some (b,j)) F H o.op=some (y,H'):=by
 obtain⟨v1,v2,h1,h2,rfl⟩:=A3 hys;obtain⟨g1,g2⟩:=pe gd.N hr h1;obtain⟨w,ws,h3,h4,rfl⟩:=ig h1;simp only[ev,ζa]at h3;have hone:∃v,ws=[v]:=by
  have hos:∃x,os'=[x]:=by
   unfold resolve at hr
   (repeat' split at hr) <;> first|(simp at hr;done)|skip
   all_goals (try (obtain⟨_,_,e⟩:=ζf.1 hr;simp only[ζc,K.l.injEq,E9.store.injEq,List.cons.injEq,reduceCtorEq,false_and,and_false]at e))
   all_goals (try exact⟨_,e.2.2.symm⟩)
  obtain⟨x,rfl⟩:=hos;obtain⟨v,vs,_,h5,rfl⟩:=ig h4;rw[mN h5];exact⟨v,rfl⟩
 obtain⟨v,rfl⟩:=hone;rw[Dr h2,←h3]at e1;simp only[List.cons_append,List.nil_append]at e1
 cases hw:get F a with
 | hptr id el off=>
  rw[hw]at e1;simp only[dS]at e1;split at e1
  ·rename_i hap;have hf:pG ops j F=true:=by
    unfold pG;rw[hfs];simp only[hw];rw[List.all_map]at hap;exact hap
   unfold cS;rw[g1];simp only[hf,Bool.or_true,if_true,←gd.E];refine g2 _ _ ?_;rw[←h3,hw];exact e1
  ·simp at e1
 | _=>rw[hw]at e1;simp[dS]at e1
theorem Vz (gd:Good X S) (hS:iS S c) {ops:List Oper} {place:Option (Nat×Nat)} {dr:Bool} {fr:List Nat} {i:Nat} (hdr:dr=place.isSome) (hi:∀b j,place=some (b,j)→j=i)
 (hold:∀b j,place=some (b,j)→b≤H.length∧Old b fr ν Z st.m)
 {o:Oper} {ro:RO} (hc:jJ X dr ops i o=some ro) (hfree:∀b j,place=some (b,j)→dG o.op=.alloc→H[b+j]? = some .free)
 (r:R ν Z st F H) {sv:SV} (h:lB S c dr fr ro st=some (sv,st')) :
 Ga S ops place dr F o.op (uP ro) ν Z st H sv st':=by
 unfold jJ at hc;split at hc
 ·split at hc
  ·rename_i g k os hg hr;split at hc
   ·rename_i hk;rcases uV dr ops i k os with hq|⟨hdt,hnl,n,a,l,os',rfl,rfl,hfs,hq⟩
    rotate_left
    ·rw[hq]at hc;obtain⟨az,ha,rfl⟩:=ζf.1 hc;unfold lB at h;split at h
     ·rename_i svs hsv;obtain⟨ys,hys,rs⟩:=uL gd.N r.slot ha hsv;simp only[hdt,Bool.not_true,Bool.false_or,if_true]at h;obtain⟨y,H',ν',e1,e2,e3,e4,e5⟩:=DM r rs h;refine⟨0,y,H',ν',Z,fun q _=>?_,e2,e3,e4.weak (fun _ h=>h.elim),fun _=>⟨rfl,e5⟩⟩
      cases place with
      | none=>rw[hdr]at hdt;cases hdt
      | some bi=>
       obtain⟨b,j⟩:=bi;have hji:=hi b j rfl;subst hji;exact TG gd hr hys hfs hnl e1
     ·simp at h
    rw[hq]at hc;obtain⟨az,ha,rfl⟩:=ζf.1 hc;unfold lB at h;split at h
    ·rename_i svs hsv;obtain⟨ys,hys,rs⟩:=uL gd.N r.slot ha hsv;have hres:=pe gd.N hr hys;simp only at h
     cases k with
     | p p=>
      cases p with
      | slice size lo hi=>
       simp only at h;split at h
       ·rename_i d bs;split at h
        ·simp at h
        ·rename_i hnd;obtain⟨y,ν',h1,h2,h3,h4⟩:=IF (N:=S.N) (Rv:=fun id=>∃b j,place=some (b,j)∧id=b+j) r rs h
         obtain⟨g1,g2⟩:=hres;exact⟨0,y,H,ν',Z,fun q _=>by unfold cS;rw[g1];simp only[←gd.E,g2 y h1,Option.map_some],h2,h3,h4,fun hd=>absurd hd hnd⟩
       ·exact HB gd hk r rs hres h
      | _=>exact HB gd hk r rs hres h
     | r q=>
      simp only at h;split at h
      ·rename_i hnow;obtain⟨x,hx,e⟩:=ζf.1 h;simp only[ζc]at e;obtain⟨rfl,rfl⟩:=e;obtain⟨g1,g2⟩:=hres;have hzc:∀kk z ok,q=.lookup kk z ok→z.good=true:=fun kk z ok e=>by subst e;simpa [sW]using hk
       cases place with
       | none=>
        obtain⟨y,hy,hyy⟩:=uC hzc rs (fun d _ ob hd=>r.obj d ob hd) hx
        exact⟨0,y,H,ν,Z,fun q _=>by unfold cS;rw[g1];simp only[←gd.E,g2 H y hy,Option.map_some],r,hyy,.refl,fun _=>⟨rfl,.refl⟩⟩
       | some bi=>
        obtain⟨b,j⟩:=bi;obtain⟨hbl,ho1,ho2⟩:=hold b j rfl;have hdt:dr=true:=hdr;subst hdt;have hji:=hi b j rfl;subst hji;simp only[Bool.not_true,Bool.false_or,Bool.true_and]at hnow
        by_cases hlo:dA ops j=true
        ·obtain⟨y,hy,hyy⟩:=uC hzc rs (fun d _ ob hd=>r.obj d ob hd) hx
         have hH:=g2 H y hy;refine⟨0,y,H,ν,Z,fun q _=>?_,r,hyy,.refl,fun _=>⟨rfl,.refl⟩⟩
         unfold cS;rw[g1];simp only[←gd.E];split
         ·rename_i v hv;have:=vr hv;rw[hH]at this;cases this;rfl
         ·rw[if_pos hlo,hH];rfl
        ·have hol:dR fr svs=true:=by simpa [hlo]using hnow
         have hzr:∀id,Z id→Z id∧ax (H.take b) id=ax H id:=fun id h=>⟨h,qB (ho2 id h)⟩
         have hzr':∀id,Z id→Z id∧ax H id=ax (H.take b) id:=fun id h=>⟨h,(qB (ho2 id h)).symm⟩
         obtain⟨y,hy,hyy⟩:=uC (H:=H.take b) hzc (rs.mono hzr fun e _=>jQ ν st.m e) (fun d hd ob hob=>by
          have hnf:d∉fr:=fun hf=>by rw[lW hol d hf]at hd;cases hd
          exact cO.mono hzr rfl (fun hb=>by rw[List.getElem?_take,if_pos (ho1 d ob hob hb hnf)]) (fun e _=>jQ ν st.m e) (r.obj d ob hob)) hx
         refine⟨0,y,H,ν,Z,fun q _=>?_,r,hyy.mono hzr' (fun e _=>jQ ν st.m e),.refl,fun _=>⟨rfl,.refl⟩⟩
         unfold cS;rw[g1];simp only[←gd.E,g2 (H.take b) y hy]
      ·simp at h
     | a q=>
      simp only at h;split at h
      ·rename_i d hd;split at h
       ·rename_i hnew;obtain⟨⟨ob,x⟩,hx,e⟩:=ζf.1 h;simp only[ζc]at e;obtain⟨rfl,rfl⟩:=e;obtain⟨obv,mk,e1,e2,e3,e4⟩:=IT hk rs hx;obtain⟨g1,g2⟩:=hres;obtain⟨n1,n2,n3,n4⟩:=jW hnew;have hsame:∀p:Nat×Nat,∀e,SV.cz e svs=true→∀ob',an (aV st.m d ob) e=some ob'→∃ob,an st.m e=some ob∧gj ν d p e=ν e∧sameShape ob ob':=fun p e he=>by
         refine qg ?_;rintro rfl;have:∀{xs:List Arg} {vs:List SV},bh S.N st.g xs=some vs→SV.cz e vs=false:=by
          intro xs
          induction xs with
          | nil=>intro vs h;simp only[bh,ζa]at h;subst h;rfl
          | cons a xs ih=>
           intro vs h;simp only[bh]at h;split at h
           ·rename_i v vs' h1 h2;simp only[ζa]at h;subst h;simp only[SV.cz,Bool.or_eq_false_iff];refine⟨?_,ih h2⟩
            cases a with
            | s n=>exact uQ n3 h1
            | k c=>simp only[mT,ζa]at h1;subst h1;rfl
            | f s=>simp only[mT,ζa]at h1;subst h1;rfl
           ·simp at h
         rw[this hsv]at he;cases he
        have fin:∀(id:Nat) (Hn:aq),H.length≤Hn.length→Hn[id]? = some obv→(∀k,k<H.length→k≠id→Hn[k]? = H[k]?)→(∀k,dM ν st.m k→k≠id)→(∀k,Z k→k≠id) →
         R (gj ν d (id,0)) Z { st with m:=aV st.m d ob } F Hn∧cq (gj ν d (id,0)) (aV st.m d ob) Hn Z x (mk.val id)∧(∀k,Z k→ax Hn k=ax H k):=fun id Hn hl hid hk' ho hz=>by
         have hzr:∀k,Z k→ax Hn k=ax H k:=fun k hk=>by unfold ax;rw[hk' k (r.si hk) (hz k hk)]
         obtain⟨a1,a2⟩:=e4 id (gj ν d (id,0)) (aV st.m d ob) Hn (fK _ _ _) (bA _ _ _) hid hzr (hsame _);have r2:R ν Z st F Hn:=r.heap (fun k hk=>hk' k (r.lt hk) (ho k hk)) hzr
         exact⟨r2.add hnew (fun _=>⟨fun h=>ho _ h rfl,fun h=>hz _ h rfl⟩) a1,a2,hzr⟩
        have hdst:o.dst=some d:=hd
        cases place with
        | none=>
         obtain⟨f1,f2,f3⟩:=fin H.length (H++[obv]) (by simp) (by simp) (fun k hk _=>List.getElem?_append_left hk) (fun k hk=>Nat.ne_of_lt (r.lt hk)) (fun k hk=>Nat.ne_of_lt (r.si hk))
         refine⟨0,mk.val H.length,H++[obv],gj ν d (H.length,0),Z,fun q _=>?_,f1,f2,Ev.add hnew (by simp) (fun k hk _=>List.getElem?_append_left hk) f3 (fun _=>.inr (Nat.le_refl _)),fun hh=>?_⟩
         ·unfold cS;rw[g1];simp only[←gd.E,g2 _ e1]
         ·rw[hdr]at hh;cases hh
        | some bi=>
         obtain⟨b,j⟩:=bi;have hf:=hfree b j rfl g1;have hlt:=(ζe.1 hf).1;have nf:∀k,dM ν st.m k→k≠b+j:=fun k hk e=>by
          subst e;obtain⟨d',ob',w1,w2,w3⟩:=hk;have:=r.obj d' ob' w1
          cases ob' with
          | sl fl es xs=>
           simp only[bG]at w2;simp only[cO,w2,if_true]at this;obtain⟨_,hr',_⟩:=this;rw[w3,hf]at hr';cases hr'
          | box cs=>obtain⟨_,_,hr',_⟩:=this;rw[w3,hf]at hr';cases hr'
          | mp kvs=>obtain⟨_,hr',_⟩:=this;rw[w3,hf]at hr';cases hr'
         have nz:∀k,Z k→k≠b+j:=fun k hk e=>by
          subst e;have:=r.zrow _ hk;unfold ax at this;rw[hf]at this;simp[Ob.rows]at this
         obtain⟨f1,f2,f3⟩:=fin (b+j) (H.set (b+j) obv) (by simp) (by rw[List.getElem?_set_self hlt]) (fun k _ hk=>by rw[List.getElem?_set,if_neg (Ne.symm hk)]) nf nz
         refine⟨0,mk.val (b+j),H.set (b+j) obv,gj ν d (b+j,0),Z,fun q _=>?_,f1,f2,Ev.add hnew (by simp) (fun k _ hk=>?_) f3 (fun _=>.inl ⟨b,j,rfl,rfl⟩),fun _=>⟨rfl,?_⟩⟩
         ·unfold cS;rw[g1];simp only[←gd.E,g2 _ e1,hf]
         ·rw[List.getElem?_set,if_neg fun e=>hk ⟨b,j,rfl,e.symm⟩]
         ·have:uP ⟨o.dst,g,dr&&dA ops j,.a q,az,[],[]⟩=some d:=hdst;have hji:=hi b j rfl;subst hji;rw[this];exact Kept.add fun _ _ h=>h
       ·simp at h
      ·simp at h
     | l q=>
      simp only at h;split at h
      ·rename_i hnow;obtain⟨y,H',ν',e1,e2,e3,e4,e5⟩:=DM r rs h;obtain⟨g1,g2⟩:=hres;refine⟨0,y,H',ν',Z,fun q _=>?_,e2,e3,e4.weak (fun _ h=>h.elim),fun _=>⟨rfl,e5⟩⟩
       unfold cS;rw[g1];simp only[←gd.E]
       cases place with
       | none=>exact g2 _ _ e1
       | some bi=>
        obtain⟨b,j⟩:=bi;have hdt:dr=true:=hdr;subst hdt;have hji:=hi b j rfl;subst hji;have hlo:dA ops j=true:=by simpa using hnow
        simp only[hlo,if_true];exact g2 _ _ e1
      ·simp at h
     | c=>
      simp only at h;obtain⟨g1,f',az',e1,e2⟩:=hres;have go:∀(f:FuncId) (args:List SV) (ys2:List V),bg ν st.m H Z args ys2→gN F o.op=some (.fn f,ys2)→hU S c o.dst dr (!dr||(dr&&dA ops i)) (fR st.m fr) f args st=some (sv,st') →
       Ga S ops place dr F o.op (uP ⟨o.dst,g,dr&&dA ops i,.c,az,[],[]⟩) ν Z st H sv st':=fun f args ys2 hrl hcal hcs=>by
       obtain⟨n,y,H',ν',Z',p1,p2,p3,p4,p5,p6⟩:=JR (ops:=ops) (Rv:=fun id=>∃b j,place=some (b,j)∧id=b+j) hS gd.prm hdr (fun b j hp hn=>by
        have:=hi b j hp;subst this;simp only[ζh]at hn;exact hn.2) (fun b j hp=>(hold b j hp).2) r hrl hcs
       refine⟨n,y,H',ν',Z',fun q hq=>?_,p2,p3,p4,fun hd=>⟨p5 hd,p6⟩⟩
       unfold cS;rw[g1];simp only[hcal];exact p1 q hq
      split at h
      ·rename_i f a b vs;obtain⟨w,ws,ew,r1,r2⟩:=rs.inv;rw[ew]at e1;simp only[List.cons.injEq]at e1;obtain⟨rfl,rfl⟩:=e1;obtain⟨a',b',rfl,ra,rb⟩:=r1.iL;exact go f _ _ ((ra.append r2).append rb) e2 h
      ·rename_i f a b vs;obtain⟨w,ws,ew,r1,r2⟩:=rs.inv;rw[ew]at e1;simp only[List.cons.injEq]at e1;obtain⟨rfl,rfl⟩:=e1;obtain⟨a',b',rfl,ra,rb⟩:=r1.fr.iL;exact go f _ _ (((bg.qh ra).append r2).append (bg.qh rb)) e2 h
      ·simp at h
    ·simp at h
   ·simp at hc
  ·simp at hc
 ·simp at hc
end
end Go.VE
namespace Go.VE
variable [aW]
def ei (N:Nat→FuncId) (g:Tb SV) (o:RO):Option (Nat×List SV):=
 match o.k,bh N g o.az with
 | .c,some (.yl id::vs)=>some (id,vs)
 | _,_=>none
open Classical in
noncomputable def dW (S:Sys) (c:bD) (dr:Bool) (fr:List Nat) (o:RO) (st:St):Option St:=
 match wanted st.g o.gd with
 | some true=>match ei S.N st.g o with
  | some (id,vs)=>if dr then none else match dc vs,st.want with
   | some xs,w::ws=>if xs=w∧id=st.yid then some (cr { st with want:=ws } o.dst (.v (.bool (st.more || !ws.isEmpty))))else none
   | _,_=>none
  | none=>(lB S c dr fr o st).map fun (x,st')=>cr st' o.dst x
 | some false=>some (cr st o.dst (.v .undef))
 | none=>none
def RO.strip (o:RO):RO:={ o with dead:=[],pre:=[] }
def o5:List Gh→St→Option St
 | [],st=>some st
 | x::r,st=>(ghost x st).bind (o5 r)
def yJ (dr:Bool) (l:List Gh) (st:St):Option St:=if dr then(if l.isEmpty then some st else none)else o5 l st
def lz (ds:List Nat) (st:St):St:={ st with g:=s9 ds st.g }
noncomputable def jS (S:Sys) (c:bD) (dr:Bool):List Nat→List RO→St→Option St
 | _,[],st=>some st
 | fr,o::r,st=>match (yJ dr o.pre st).bind (dW S c dr fr o.strip)with
  | some st'=>jS S c dr (if dr then nj fr o.strip else fr) r (lz o.dead st')
  | none=>none
abbrev JT:=List (List V)→(Nat→Prop)→(Nat→Prop)→aq→Prop
structure Yc (S:Sys) (J:JT) (more:Bool) (yid:Nat):Prop where
 tK:∀w O Z H O' Z' H',J w O Z H→H.length≤H'.length→(∀i,i<H.length→¬O i→¬Z i→H'[i]? = H[i]?)→(∀i,Z i→Z' i∧ax H' i=ax H i) →
  (∀i,O' i→O i∨H.length≤i)→(∀i,Z' i→Z i∨O i∨H.length≤i)→J w O' Z' H'
 yield:∀x ws O Z H args,J (x::ws) O Z H→b8 H Z x args→(∀i,Z i→(ax H i).isSome=true)→Deep H Z→(∀i,O i→¬Z i∧i<H.length) →
  ∃n H',run S.E n (.yld yid) args H=some (.bool (more || !ws.isEmpty),H')∧J ws O Z H'∧H.length≤H'.length∧(∀i,O i→H'[i]? = H[i]?)∧(∀i,Z i→ax H' i=ax H i)
structure Fix (ν:Nu) (st:St) (ν':Nu) (st':St):Prop where
 pin:∀d∈st.pin,∀ob',an st'.m d=some ob'→∃ob,an st.m d=some ob∧ν' d=ν d∧sameShape ob ob'
 pins:st'.pin=st.pin
 more:st'.more=st.more
 yid:st'.yid=st.yid
section
variable {Rv:Nat→Prop} {ν ν' ν2:Nu} {Z Z':Nat→Prop} {st st' st2:St} {m m':Tb aP} {F F':Frame} {H H' H1:aq} {S:Sys} {c:bD} {X:CX} {J:JT}
theorem Fix.refl:Fix ν st ν st:=⟨fun _ _ ob' h=>⟨ob',h,rfl,.refl _⟩,rfl,rfl,rfl⟩
theorem Fix.trans (a:Fix ν st ν' st') (b:Fix ν' st' ν2 st2):Fix ν st ν2 st2:=
 ⟨fun d hd ob2 h=>by
  obtain⟨ob1,h1,h2,h3⟩:=b.pin d (by rw[a.pins];exact hd) ob2 h
  obtain⟨ob,k1,k2,k3⟩:=a.pin d hd ob1 h1;exact⟨ob,k1,by rw[h2,k2],k3.trans h3⟩,by rw[b.pins,a.pins],by rw[b.more,a.more],by rw[b.yid,a.yid]⟩
theorem Ev.beside (y:Yc S J st.more st.yid) (a:Ev (fun _=>False) ν Z st H ν' Z' st' H') (hw:st'.want=st.want) (j:J st.want (dM ν st.m) Z H):J st'.want (dM ν' st'.m) Z' H':=by
 rw[hw];exact y.tK _ _ _ _ _ _ _ j a.len (fun i h1 h2 h3=>a.same i h1 h2 h3 (fun h=>h)) a.rows (fun i h=>(a.own i h).imp (fun h=>h) (fun h=>h.elim (fun h=>h.elim) (fun h=>h)))
  (fun i h=>(a.frz i h).imp (fun h=>h) (fun h=>h.imp (fun h=>h) (fun h=>h.elim (fun h=>h.elim) (fun h=>h))))
theorem rK (hs:∀s sv,an st.g s=some sv→cq ν m H Z sv (get F s)) {ops:List Oper} {o:Oper} {gd:Option (Nat×Bool)} (hg:G4 ops o=some gd) {t:Bool} (hw:wanted st.g gd=some t):en ops F o=t:=by
 unfold G4 at hg;unfold en
 cases hgd:o.guard with
 | none=>
  rw[hgd]at hg;simp only[ζa]at hg;subst hg;simp only[wanted,ζa]at hw;subst hw;rfl
 | some jb=>
  obtain⟨j,b⟩:=jb;rw[hgd]at hg;simp only at hg;obtain⟨d,hd,rfl⟩:=ζf.1 hg;simp only[hd];simp only[wanted]at hw;split at hw
  ·rename_i c hc;simp only[ζa]at hw;subst hw;rw[(hs d _ hc).fr.bool]
  ·rename_i x hx hc;simp only[ζa]at hw;subst hw;have hfr:=(hs d _ hc).fr;split
   ·rename_i c hcc;rw[hcc]at hfr;cases hfr;exact absurd rfl (hx c)
   ·rfl
  ·simp at hw
theorem Ii {q:EU} {dst:Option Nat} {args:List SV} {sv:SV} (h:DU q dst args st=some (sv,st')):st'.want=st.want∧st'.pin=st.pin∧st'.more=st.more∧st'.yid=st.yid:=by
 unfold DU at h;split at h
 ·split at h
  ·split at h
   ·split at h
    ·split at h
     ·split at h
      ·simp only[ζa,ζc]at h;obtain⟨_,rfl⟩:=h;exact⟨rfl,rfl,rfl,rfl⟩
      ·cases h
     ·cases h
    ·simp only[ζa,ζc]at h;obtain⟨_,rfl⟩:=h;exact⟨rfl,rfl,rfl,rfl⟩
   ·cases h
  ·cases h
 ·cases h
theorem KN {dr:Bool} {fr:List Nat} {ro:RO} {sv:SV} (h:lB S c dr fr ro st=some (sv,st')):st'.want=st.want∧st'.pin=st.pin∧st'.more=st.more∧st'.yid=st.yid:=by
 unfold lB at h;split at h
 ·split at h
  ·split at h
   ·split at h
    ·simp at h
    ·unfold vM at h;split at h
     ·split at h
      ·obtain⟨_,_,h⟩:=ζg.1 h;obtain⟨_,_,h⟩:=ζg.1 h;dsimp only at h;split at h
       ·simp only[ζa,ζc]at h;obtain⟨_,rfl⟩:=h;exact⟨rfl,rfl,rfl,rfl⟩
       ·simp at h
      ·simp at h
     ·simp at h
   ·obtain⟨_,_,e⟩:=ζf.1 h;simp only[ζc]at e;obtain⟨_,rfl⟩:=e;exact⟨rfl,rfl,rfl,rfl⟩
  ·obtain⟨_,_,e⟩:=ζf.1 h;simp only[ζc]at e;obtain⟨_,rfl⟩:=e;exact⟨rfl,rfl,rfl,rfl⟩
  ·split at h
   ·obtain⟨_,_,e⟩:=ζf.1 h;simp only[ζc]at e;obtain⟨_,rfl⟩:=e;exact⟨rfl,rfl,rfl,rfl⟩
   ·simp at h
  ·split at h
   ·split at h
    ·obtain⟨_,_,e⟩:=ζf.1 h;simp only[ζc]at e;obtain⟨_,rfl⟩:=e;exact⟨rfl,rfl,rfl,rfl⟩
    ·simp at h
   ·simp at h
  ·split at h
   ·unfold lF at h
    (repeat' split at h) <;> first|(simp at h;done)|(simp only[ζa,ζc]at h;obtain⟨_,rfl⟩:=h;exact⟨rfl,rfl,rfl,rfl⟩)|(obtain⟨_,_,e⟩:=ζf.1 h;simp only[ζc]at e;obtain⟨_,rfl⟩:=e;exact⟨rfl,rfl,rfl,rfl⟩)|skip
    ·dsimp only at h
     (repeat' split at h) <;> first|(simp at h;done)|(simp only[ζa,ζc]at h;obtain⟨_,rfl⟩:=h;exact⟨rfl,rfl,rfl,rfl⟩)
   ·simp at h
  ·have hc:∀{dst dr now old f args},hU S c dst dr now old f args st=some (sv,st')→st'.want=st.want∧st'.pin=st.pin∧st'.more=st.more∧st'.yid=st.yid:=by
    intro dst dr now old f args h;unfold hU at h
    (repeat' split at h) <;> first|exact Ii h|(simp at h;done)|(simp only[ζa,ζc]at h;obtain⟨_,rfl⟩:=h;exact⟨rfl,rfl,rfl,rfl⟩)
   split at h
   ·exact hc h
   ·exact hc h
   ·simp at h
 ·simp at h
theorem xD (r:R ν Z st F H) {nt:Nat} {dst:Option Nat} (hd:w8 nt dst=true) {sv:SV} {y:V} (h:cq ν st.m H Z sv y):∃F',hG nt F dst y=some F'∧R ν Z (cr st dst sv) F' H:=by
 cases dst with
 | none=>exact⟨F,rfl,r⟩
 | some d=>
  have:d<nt:=by simpa [w8]using hd
  exact⟨set F d y,by simp only[hG,if_pos this],r.put h⟩
theorem zq (st:St) (dst:Option Nat) (sv:SV):(cr st dst sv).m=st.m∧(cr st dst sv).want=st.want∧(cr st dst sv).pin=st.pin∧(cr st dst sv).more=st.more∧(cr st dst sv).yid=st.yid:=by
 cases dst <;> exact⟨rfl,rfl,rfl,rfl,rfl⟩
theorem E5 (gd:Good X S) (hS:iS S c) {ops:List Oper} {place:Option (Nat×Nat)} {dr:Bool} {fr:List Nat} {i:Nat} (hdr:dr=place.isSome) (hi:∀b j,place=some (b,j)→j=i)
 (hold:∀b j,place=some (b,j)→b≤H.length∧Old b fr ν Z st.m)
 {o:Oper} {ro:RO} (hc:jJ X dr ops i o=some ro) (hfree:∀b j,place=some (b,j)→dG o.op=.alloc→H[b+j]? = some .free)
 (r:R ν Z st F H) (hny:ei S.N st.g ro=none∨dr=true) (h:dW S c dr fr ro st=some st') :
 ∃n F' H' ν' Z',(∀k,n≤k→dZ S.E (run S.E k) X.nt ops place o F H=some (F',H'))∧R ν' Z' st' F' H'∧Ev (fun id=>∃b j,place=some (b,j)∧id=b+j) ν Z st H ν' Z' st' H' ∧
  (dr=true→Z'=Z∧Kept (uP ro) ν st.m ν' st'.m)∧st'.want=st.want∧Fix ν st ν' st':=by
 have hc0:=hc;unfold jJ at hc;split at hc
 ·rename_i hdst;split at hc
  ·rename_i g k os hg hr;split at hc
   ·obtain⟨az,ha,rfl⟩:=ζf.1 hc;unfold dW at h;split at h
    ·rename_i hw;have hwv:=rK r.slot hg hw;have h2:(lB S c dr fr ⟨o.dst,g,(tM dr ops i k os).2.2,(tM dr ops i k os).1,az,[],[]⟩ st).map (fun (x,st')=>cr st' o.dst x)=some st':=by
      split at h
      ·rename_i id vs hya;rcases hny with hny|hny
       ·rw[hny]at hya;cases hya
       ·subst hny;simp at h
      ·exact h
     obtain⟨⟨x,st1⟩,hd,rfl⟩:=ζf.1 h2;obtain⟨n,y,H',ν',Z',e1,e2,e3,e4,e5⟩:=Vz gd hS hdr hi hold hc0 hfree r hd;obtain⟨w1,w2,w3,w4⟩:=KN hd;obtain⟨F',f1,f2⟩:=xD e2 hdst e3;obtain⟨p1,p2,p3,p4,p5⟩:=zq st1 o.dst x;refine⟨n,F',H',ν',Z',fun k hk=>?_,f2,?_,fun hd=>⟨(e5 hd).1,by rw[p1];exact(e5 hd).2⟩,by rw[p2,w1],⟨fun d hd=>by rw[p1];exact e4.pin d hd,by rw[p3,w2],by rw[p4,w3],by rw[p5,w4]⟩⟩
     ·unfold dZ;simp only[hwv,if_true,e1 k hk,f1,Option.map_some]
     ·exact⟨e4.len,e4.same,e4.rows,fun id h=>e4.own id (by rw[p1]at h;exact h),e4.frz,fun d hd=>by rw[p1];exact e4.pin d hd,by rw[p3,w2]⟩
    ·rename_i hw;have hwv:=rK r.slot hg hw;simp only[ζa]at h;subst h;obtain⟨F',f1,f2⟩:=xD r hdst (.v V.undef V.undef (.same _ rfl));obtain⟨p1,p2,p3,p4,p5⟩:=zq st o.dst (.v .undef);refine⟨0,F',H,ν,Z,fun k _=>?_,f2,?_,fun _=>⟨rfl,by rw[p1];exact .refl⟩,p2,⟨fun d hd=>by rw[p1];exact fun ob' h=>⟨ob',h,rfl,.refl _⟩,p3,p4,p5⟩⟩
     ·unfold dZ;simp only[hwv,Bool.false_eq_true,if_false,f1,Option.map_some]
     ·exact⟨Nat.le_refl _,fun _ _ _ _ _=>rfl,fun _ h=>⟨h,rfl⟩,fun _ h=>.inl (by rw[p1]at h;exact h),fun _ h=>.inl h,fun d hd=>by rw[p1];exact fun ob' h=>⟨ob',h,rfl,.refl _⟩,p3⟩
    ·simp at h
   ·simp at hc
  ·simp at hc
 ·simp at hc
theorem LA (gd:Good X S) (y:Yc S J st.more st.yid) {ops:List Oper} {fr:List Nat} {i:Nat} {o:Oper} {ro:RO} (hc:jJ X false ops i o=some ro)
 (r:R ν Z st F H) (j:J st.want (dM ν st.m) Z H) {id:Nat} {vs:List SV} (hya:ei S.N st.g ro=some (id,vs)) (hw0:wanted st.g ro.gd=some true) (h:dW S c false fr ro st=some st') :
 ∃n F' H',(∀k,n≤k→dZ S.E (run S.E k) X.nt ops none o F H=some (F',H'))∧R ν Z st' F' H'∧J st'.want (dM ν st'.m) Z H'∧Fix ν st ν st':=by
 unfold jJ at hc;split at hc
 ·rename_i hdst;split at hc
  ·rename_i g k os hg hr;split at hc
   ·obtain⟨az,ha,rfl⟩:=ζf.1 hc;unfold dW at h;simp only at hw0;have hwv:=rK r.slot hg hw0;rw[hw0]at h;simp only[hya,Bool.false_eq_true,if_false]at h;unfold ei at hya;split at hya
    ·rename_i id' vs' hk hsa;simp only[ζa,ζc]at hya;obtain⟨rfl,rfl⟩:=hya;simp only at hk hsa;subst hk;obtain⟨ys,hys,rs⟩:=uL gd.N r.slot ha hsa;obtain⟨g1,f',az',e1,e2⟩:=pe gd.N hr hys;obtain⟨w,ws,ew,r1,r2⟩:=rs.inv;rw[ew]at e1;simp only[List.cons.injEq]at e1;obtain⟨rfl,rfl⟩:=e1;cases r1;simp only at e2;split at h
     ·rename_i xs x wl hx hwant;split at h
      ·rename_i hcond;obtain⟨rfl,rfl⟩:=hcond;simp only[ζa]at h;subst h;rw[hwant]at j;obtain⟨n,H',p1,p2,p3,p4,p5⟩:=y.yield _ _ _ _ _ _ j (r2.dc hx) r.zrow r.deep (fun i hi=>⟨by obtain⟨d,ob,h1,h2,rfl⟩:=hi;exact r.apart d ob h1 h2,r.lt hi⟩)
       have r3:R ν Z st F H':=r.heap p4 p5;have r4:R ν Z { st with want:=wl } F H':=⟨r3.slot,r3.obj,r3.inj,r3.apart,r3.zrow,r3.deep⟩;obtain⟨F',f1,f2⟩:=xD (st:={ st with want:=wl }) r4 hdst (sv:=.v (.bool (st.more || !wl.isEmpty))) (.v _ _ (.same _ rfl));obtain⟨q1,q2,q3,q4,q5⟩:=zq { st with want:=wl } o.dst (.v (.bool (st.more || !wl.isEmpty)));refine⟨n,F',H',fun k hk=>?_,f2,by rw[q1,q2];exact p2,⟨fun d hd=>by rw[q1];exact fun ob' h=>⟨ob',h,rfl,.refl _⟩,q3,q4,q5⟩⟩
       unfold dZ cS;rw[g1,e2];simp only[hwv,if_true,qC S.E hk _ _ _ _ p1,f1,Option.map_some]
      ·simp at h
     ·simp at h
    ·simp at hya
   ·simp at hc
  ·simp at hc
 ·simp at hc
def iO (X:CX) (draw:Bool) (ops:List Oper):Nat→List Oper→Option (List RO)
 | _,[]=>some []
 | i,o::r=>match jJ X draw ops i o,iO X draw ops (i+1) r with
  | some ro,some rs=>some (ro::rs)
  | _,_=>none
theorem R.uD (r:R ν Z st F H) (ds:List Nat):R ν Z (lz ds st) F H:=r.less (g:=s9 ds st.g) (m':=st.m) (fun s sv hs=>ve hs) (fun d ob hd=>hd)
theorem Fix.uD {ds:List Nat} (f:Fix ν (lz ds st) ν' st'):Fix ν st ν' st':=⟨f.pin,f.pins,f.more,f.yid⟩
theorem Fix.ghost (r:R ν Z st F H) (y:Yc S J st.more st.yid) (j:J st.want (dM ν st.m) Z H) {x:Gh} (h:ghost x st=some st'):∃ν' Z',R ν' Z' st' F H∧J st'.want (dM ν' st'.m) Z' H∧Fix ν st ν' st':=by
 obtain⟨ν',Z',h1,h2⟩:=JC (Rv:=fun _=>False) r h
 have hf:st'.want=st.want∧st'.more=st.more∧st'.yid=st.yid:=by
  unfold Go.VE.ghost vE at h
  (repeat' split at h) <;> first|(simp at h;done)|(simp only[ζa]at h;subst h;exact⟨rfl,rfl,rfl⟩)
 exact⟨ν',Z',h1,h2.beside y hf.1 j,⟨h2.pin,h2.pins,hf.2.1,hf.2.2⟩⟩
theorem Fix.o5:∀{l:List Gh} {ν:Nu} {Z:Nat→Prop} {st st':St},R ν Z st F H→Yc S J st.more st.yid→J st.want (dM ν st.m) Z H→o5 l st=some st'→∃ν' Z',R ν' Z' st' F H∧J st'.want (dM ν' st'.m) Z' H∧Fix ν st ν' st'
 | [],ν,Z,st,st',r,y,j,h=>by simp only[Go.VE.o5,ζa]at h;subst h;exact⟨ν,Z,r,j,.refl⟩
 | x::l,ν,Z,st,st',r,y,j,h=>by
  simp only[Go.VE.o5]at h;obtain⟨st1,h1,h2⟩:=ζg.1 h;obtain⟨ν1,Z1,r1,j1,f1⟩:=Fix.ghost r y j h1;obtain⟨ν2,Z2,r2,j2,f2⟩:=Fix.o5 r1 (by rw[f1.more,f1.yid];exact y) j1 h2
  exact⟨ν2,Z2,r2,j2,f1.trans f2⟩
theorem JV (gd:Good X S) (hS:iS S c) {ops:List Oper} {fr:List Nat} {i:Nat} {o:Oper} {ro:RO} {st1:St} (h1:jJ X false ops i o=some ro) (y:Yc S J st.more st.yid) (r:R ν Z st F H) (j:J st.want (dM ν st.m) Z H) (hs:dW S c false fr ro st=some st1) :
 ∃n F' H' ν' Z',(∀k,n≤k→dZ S.E (run S.E k) X.nt ops none o F H=some (F',H'))∧R ν' Z' st1 F' H'∧J st1.want (dM ν' st1.m) Z' H'∧Fix ν st ν' st1:=by
 by_cases hw:wanted st.g ro.gd=some true
 ·cases hya:ei S.N st.g ro with
  | none=>
   obtain⟨n,F',H',ν',Z',e1,e2,e3,e4,e5,e6⟩:=E5 gd hS (place:=none) rfl (fun b j h=>by cases h) (fun b j h=>by cases h) h1 (fun b j h=>by cases h) r (.inl hya) hs
   exact⟨n,F',H',ν',Z',e1,e2,(e3.weak (fun id ⟨b,j,h,_⟩=>by cases h)).beside y e5 j,e6⟩
  | some p=>
   obtain⟨id,vs⟩:=p;obtain⟨n,F',H',e1,e2,e3,e4⟩:=LA gd y h1 r j hya hw hs;exact⟨n,F',H',ν,Z,e1,e2,e3,e4⟩
 ·have hs':dW S c false fr ro st=some st1:=hs;have hny:ei S.N st.g { ro with az:=[] }=none:=by
   unfold ei;simp[bh]
  obtain⟨n,F',H',ν',Z',e1,e2,e3,e4,e5,e6⟩:∃n F' H' ν' Z',(∀k,n≤k→dZ S.E (run S.E k) X.nt ops none o F H=some (F',H'))∧R ν' Z' st1 F' H'∧Ev (fun _=>False) ν Z st H ν' Z' st1 H'∧True∧st1.want=st.want∧Fix ν st ν' st1:=by
   unfold dW at hs';split at hs'
   ·rename_i hw2;exact absurd hw2 hw
   ·rename_i hw2;simp only[ζa]at hs';subst hs';unfold jJ at h1;split at h1
    ·rename_i hdst;split at h1
     ·rename_i g k os hg hr;split at h1
      ·obtain⟨az,ha,rfl⟩:=ζf.1 h1;have hwv:=rK r.slot hg hw2;obtain⟨F',f1,f2⟩:=xD r hdst (.v V.undef V.undef (.same _ rfl));obtain⟨p1,p2,p3,p4,p5⟩:=zq st o.dst (.v .undef);refine⟨0,F',H,ν,Z,fun k _=>?_,f2,?_,trivial,p2,⟨fun d hd=>by rw[p1];exact fun ob' h=>⟨ob',h,rfl,.refl _⟩,p3,p4,p5⟩⟩
       ·unfold dZ;simp only[hwv,Bool.false_eq_true,if_false,f1,Option.map_some]
       ·exact⟨Nat.le_refl _,fun _ _ _ _ _=>rfl,fun _ h=>⟨h,rfl⟩,fun _ h=>.inl (by rw[p1]at h;exact h),fun _ h=>.inl h,fun d hd=>by rw[p1];exact fun ob' h=>⟨ob',h,rfl,.refl _⟩,p3⟩
      ·simp at h1
     ·simp at h1
    ·simp at h1
   ·simp at hs'
  exact⟨n,F',H',ν',Z',e1,e2,e3.beside y e5 j,e6⟩
theorem Iq (gd:Good X S) (hS:iS S c) {ops:List Oper} {fr:List Nat}:∀(rest:List Oper) {i:Nat} {ros:List RO} {ν:Nu} {Z:Nat→Prop} {st st':St} {F:Frame} {H:aq},iO X false ops i rest=some (ros.map RO.strip)→jS S c false fr ros st=some st' →
 Yc S J st.more st.yid→R ν Z st F H→J st.want (dM ν st.m) Z H →
 ∃n F' H' ν' Z',(∀k,n≤k→jw S.E (run S.E k) X.nt ops rest F H=some (F',H'))∧R ν' Z' st' F' H'∧J st'.want (dM ν' st'.m) Z' H'∧Fix ν st ν' st'
 | [],i,ros,ν,Z,st,st',F,H,hc,h,y,r,j=>by
  simp only[iO,ζa]at hc;have:ros=[]:=List.map_eq_nil_iff.1 hc.symm;subst this;simp only[jS,ζa]at h;subst h;exact⟨0,F,H,ν,Z,fun _ _=>rfl,r,j,.refl⟩
 | o::rest,i,ros,ν,Z,st,st',F,H,hc,h,y,r,j=>by
  simp only[iO]at hc;split at hc
  ·rename_i ro rs h1 h2;simp only[ζa]at hc;obtain⟨ro0,rs0,rfl,hro,hrs⟩:∃ro0 rs0,ros=ro0::rs0∧ro=ro0.strip∧rs=rs0.map RO.strip:=by
    cases ros with
    | nil=>simp at hc
    | cons a b=>simp only[List.map_cons,List.cons.injEq]at hc;exact⟨a,b,rfl,hc.1,hc.2⟩
   subst hrs;simp only[jS,←hro]at h;split at h
   ·rename_i st1 hs;simp only[Bool.false_eq_true,if_false]at h;obtain⟨stg,hgh,hs⟩:=ζg.1 hs;simp only[yJ,Bool.false_eq_true,if_false]at hgh;obtain⟨νg,Zg,rg,jg,fg⟩:=Fix.o5 r y j hgh;obtain⟨n1,F1,H1,ν1,Z1,a1,a2,a3,a4'⟩:=JV gd hS h1 (by rw[fg.more,fg.yid];exact y) rg jg hs
    have a4:=fg.trans a4';obtain⟨n2,F2,H2,ν2,Z2,b1,b2,b3,b4⟩:=Iq gd hS rest h2 h (by show Yc S J st1.more st1.yid;rw[a4.more,a4.yid];exact y) (R.uD a2 ro0.dead) a3
    refine⟨max n1 n2,F2,H2,ν2,Z2,fun k hk=>?_,b2,b3,a4.trans (Fix.uD b4)⟩
    simp only[jw,a1 k (Nat.le_trans (Nat.le_max_left _ _) hk),b1 k (Nat.le_trans (Nat.le_max_right _ _) hk)]
   ·simp at h
  ·simp at hc
theorem Old.next {b:Nat} {fr:List Nat} {o:RO} (h:Old b fr ν Z m) (hk:Kept (uP o) ν m ν' m'):Old b (nj fr o) ν' Z m':=by
 refine⟨fun d ob hd hb hnf=>?_,h.2⟩
 have hsub:d∉fr:=fun hm=>hnf (by
  unfold nj;split
  ·exact List.mem_cons_of_mem _ hm
  ·exact hm)
 have hne:uP o≠some d:=fun e=>hnf (by unfold nj;rw[e];exact List.mem_cons_self)
 obtain⟨ob0,h1,h2,hs⟩:=hk d ob hne hd;have hb0:bG ob0=true:=by
  cases ob0 <;> cases ob <;> simp only[sameShape]at hs <;> first|rfl|(simp only[bG]at hb ⊢;rw[←hs.1];exact hb)
 rw[h2];exact h.1 d ob0 h1 hb0 hsub
theorem AR (r:R ν Z st F H) {id:Nat} (h:dM ν st.m id):H[id]? ≠ some .free:=by
 obtain⟨d,ob,h1,h2,rfl⟩:=h;have:=r.obj d ob h1
 cases ob with
 | sl k es xs=>
  simp only[bG]at h2;simp only[cO,h2,if_true]at this;obtain⟨ys,hr,_⟩:=this;rw[hr];simp
 | box cs=>obtain⟨es,cs',hr,_⟩:=this;rw[hr];simp
 | mp kvs=>obtain⟨kvs',hr,_⟩:=this;rw[hr];simp
theorem GV (r:R ν Z st F H) {id:Nat} (h:Z id):H[id]? ≠ some .free:=fun e=>by
 have:=r.zrow id h;unfold ax at this;rw[e]at this;simp[Ob.rows]at this
theorem Ev.uD {ds:List Nat} (e:Ev Rv ν Z (lz ds st) H ν' Z' st' H'):Ev Rv ν Z st H ν' Z' st' H':=⟨e.len,e.same,e.rows,e.own,e.frz,e.pin,e.pins⟩
theorem HU (gd:Good X S) (hS:iS S c) {ops:List Oper} {b k:Nat} (hall:nR ops=true→k=ops.length):∀(len:Nat) {i:Nat} {ros:List RO} {fr:List Nat} {ν:Nu} {Z:Nat→Prop} {st st':St} {F:Frame} {H:aq},
 i+len=ops.length→iO X true ops i (ops.drop i)=some (ros.map RO.strip)→jS S c true fr ros st=some st'→R ν Z st F H→b≤H.length→Old b fr ν Z st.m→(∀j,i≤j→j<k→H[b+j]? = some .free) →
 ∃n F' H' ν',(∀q,n≤q→gx S.E (run S.E q) X.nt ops b (List.range' i len) F H=some (F',H'))∧R ν' Z st' F' H'∧Ev (fun id=>b≤id) ν Z st H ν' Z st' H'∧st'.want=st.want∧Fix ν st ν' st'
 | 0,i,ros,fr,ν,Z,st,st',F,H,hl,hc,h,r,hb,ho,hf=>by
  rw[List.drop_of_length_le (by omega)]at hc
  simp only[iO,ζa]at hc;have:ros=[]:=List.map_eq_nil_iff.1 hc.symm;subst this;simp only[jS,ζa]at h;subst h;exact⟨0,F,H,ν,fun _ _=>rfl,r,.refl,rfl,.refl⟩
 | len+1,i,ros,fr,ν,Z,st,st',F,H,hl,hc,h,r,hb,ho,hf=>by
  have hi:i<ops.length:=by omega
  have hg:ops[i]? = some ops[i]:=ζd hi;rw[List.drop_eq_getElem_cons hi]at hc;simp only[iO]at hc;split at hc
  ·rename_i ro rs h1 h2;simp only[ζa]at hc;obtain⟨ro0,rs0,rfl,hro,hrs⟩:∃ro0 rs0,ros=ro0::rs0∧ro=ro0.strip∧rs=rs0.map RO.strip:=by
    cases ros with
    | nil=>simp at hc
    | cons a b=>simp only[List.map_cons,List.cons.injEq]at hc;exact⟨a,b,rfl,hc.1,hc.2⟩
   subst hrs;simp only[jS,←hro]at h;split at h
   ·rename_i st1 hs;simp only[if_true]at h;obtain⟨stg,hgh,hs⟩:=ζg.1 hs;have hst:st=stg:=by
     simp only[yJ,if_true]at hgh;split at hgh
     ·simp only[ζa]at hgh;exact hgh
     ·simp at hgh
    subst hst;obtain⟨n1,F1,H1,ν1,Z1,a1,a2,a3,a4,a5,a6⟩:=E5 gd hS (place:=some (b,i)) (fr:=fr) rfl (fun b' j e=>by cases e;rfl) (fun b' j e=>by cases e;exact⟨hb,ho⟩) h1 (fun b' j e hcl=>by
     cases e;have:nR ops=true:=by
      unfold nR;rw[List.any_eq_true];exact⟨ops[i],List.getElem_mem hi,by simp[hcl]⟩
     exact hf i (Nat.le_refl _) (by rw[hall this];exact hi)) r (.inr rfl) hs
    obtain⟨rfl,hkept⟩:=a4 rfl;have a3':Ev (fun id=>id=b+i) ν Z1 st H ν1 Z1 st1 H1:=a3.weak fun id ⟨b',j,e,h⟩=>by cases e;exact h
    obtain⟨n2,F2,H2,ν2,b1,b2,b3,b4,b5⟩:=HU gd hS hall len (by omega) h2 h (R.uD a2 ro0.dead) (Nat.le_trans hb a3.len) (ho.next hkept) (fun j hij hjk=>by
     have hfr:=hf j (by omega) hjk
     have hlt:=(ζe.1 hfr).1;rw[a3'.same (b+j) hlt (fun h=>AR r h hfr) (fun h=>GV r h hfr) (by omega)]
     exact hfr)
    refine⟨max n1 n2,F2,H2,ν2,fun q hq=>?_,b2,(a3'.weak fun id e=>by subst e;omega).trans (Ev.uD b3),by rw[b4];exact a5,a6.trans (Fix.uD b5)⟩
    simp only[List.range'_succ,gx,hg,a1 q (Nat.le_trans (Nat.le_max_left _ _) hq),b1 q (Nat.le_trans (Nat.le_max_right _ _) hq)]
   ·simp at h
  ·simp at hc
end
end Go.VE
namespace Go.VE
variable [aW]
def aM (X:CX):Bool→Code→Option RC
 | _,.skip=>some .skip
 | _,.label _=>some .skip
 | _,.region _ ops draw=>
  if draw then(if sr ops.toList&&vU ops.toList then(iO X true ops.toList 0 ops.toList).map .lM else none)
  else(iO X false ops.toList 0 ops.toList).map .ops
 | ro,.seq a b=>match aM X ro a,aM X ro b with
  | some a,some b=>some (.seq a b)
  | _,_=>none
 | ro,.cond c a b=>match mU X.nm c,aM X ro a,aM X ro b with
  | some x,some a,some b=>some (.cond x a b)
  | _,_,_=>none
 | ro,.block id c=>(aM X ro c).map (.block id)
 | ro,.loop c=>(aM X ro c).map .loop
 | ro,.rangeFunc g ps aw bw=>
  if ro || !(ps.toList.all (·<X.nt))then none else
  match mU X.nm g,aM X true aw,aM X true bw with
  | some x,some a,some b=>some (.each x ps.toList a b)
  | _,_,_=>none
 | _,.exit id=>some (.exit id)
 | _,.ret=>some .ret
 | _,_=>none
def erase:RC→RC
 | .seq a b=>.seq (erase a) (erase b)
 | .cond x a b=>.cond x (erase a) (erase b)
 | .block id c=>.block id (erase c)
 | .loop c=>.loop (erase c)
 | .each g ps a b=>.each g ps (erase a) (erase b)
 | .gh _ c=>erase c
 | .hg c _=>erase c
 | .ops l=>.ops (l.map RO.strip)
 | .lM l=>.lM (l.map RO.strip)
 | c=>c
def gf (step:St→Option (Out×St)):Nat→St→Option (Out×St)
 | 0,_=>none
 | k+1,st=>match step st with
  | some (.norm,st')=>gf step k st'
  | r=>r
open Classical in
noncomputable def kG (step:St→Option (Out×St)) (st:St):Option (Out×St):=
 if h:∃k r,gf step k st=some r then some (Classical.choose (Classical.choose_spec h))else none
theorem vk {step:St→Option (Out×St)}:∀{k k':Nat} {st:St} {r:Out×St},k≤k'→gf step k st=some r→gf step k' st=some r
 | 0,_,_,_,_,h=>by simp[gf]at h
 | k+1,0,_,_,hk,_=>by omega
 | k+1,k'+1,st,r,hk,h=>by
  simp only[gf]at h ⊢;split at h
  ·rename_i st' hs;rw[vk (Nat.le_of_succ_le_succ hk) h]
  ·exact h
theorem jM {step:St→Option (Out×St)} {st:St} {r:Out×St}:kG step st=some r↔∃k,gf step k st=some r:=by
 unfold kG;constructor
 ·intro h;split at h
  ·rename_i hx;simp only[ζa]at h;exact⟨_,by rw[←h];exact Classical.choose_spec (Classical.choose_spec hx)⟩
  ·simp at h
 ·rintro⟨k,hk⟩;have hx:∃k r,gf step k st=some r:=⟨k,r,hk⟩;rw[dif_pos hx];have h2:=Classical.choose_spec (Classical.choose_spec hx);have h3:=vk (Nat.le_max_left (Classical.choose hx) k) h2;have h4:=vk (Nat.le_max_right (Classical.choose hx) k) hk;rw[h3]at h4;exact h4
def fN (ps:List Nat) (A B:St→Option (Out×St)) (st:St) (x:List V) (m:Tb aP):Option (Out×Tb aP):=
 if x.length=ps.length then
  match A { g:=s7 st.g ps (x.map .v),m:=m,pin:=st.pin++lZ st.g,want:=[],more:=true,yid:=0 } with
  | some (.norm,st1)=>(B st1).map fun (o,st2)=>(o,st2.m)
  | _=>none
 else none
def lI (step:List V→Tb aP→Option (Out×Tb aP)):List (List V)→Tb aP→Option (Out×Tb aP)
 | [],m=>some (.norm,m)
 | x::xs,m=>match step x m with
  | some (.norm,m')=>lI step xs m'
  | r=>r
noncomputable def bn (S:Sys) (c:bD):RC→St→Option (Out×St)
 | .skip,st=>some (.norm,st)
 | .ops l,st=>(jS S c false [] l st).map fun st=>(.norm,st)
 | .lM l,st=>(jS S c true [] l st).map fun st=>(.norm,st)
 | .seq a b,st=>match bn S c a st with
  | some (.norm,st')=>bn S c b st'
  | r=>r
 | .cond x a b,st=>match mT S.N st.g x with
  | some (.v (.bool t))=>if t then bn S c a st else bn S c b st
  | _=>none
 | .block id a,st=>match bn S c a st with
  | some (.exit id',st')=>if id'=id then some (.norm,st')else some (.exit id',st')
  | r=>r
 | .loop a,st=>kG (bn S c a) st
 | .each g ps a b,st=>match mT S.N st.g g with
  | some (.v (.clo f x y))=>match S.items f x y with
   | some xs=>(lI (fN ps (bn S c a) (bn S c b) st) xs st.m).map fun (o,m)=>(o,{ st with m:=m })
   | none=>none
  | _=>none
 | .exit id,st=>some (.exit id,st)
 | .ret,st=>some (.ret,st)
 | .gh x a,st=>(ghost x st).bind (bn S c a)
 | .hg a x,st=>match bn S c a st with
  | some (.norm,st')=>(ghost x st').map fun st=>(.norm,st)
  | r=>r
def fq (S:Sys) (f:FuncId) (a b:List V) (xs:List (List V)):Prop:=
 ∀ws more,(more=true∧ws=xs∨more=false∧ws≠[]∧∃r,xs=ws++r)→∀yid J,Yc S J more yid→∀Z a' b' H,b8 H Z a a'→b8 H Z b b'→(∀i,Z i→(ax H i).isSome=true)→Deep H Z→J ws (fun _=>False) Z H →
  ∃n y H' O' Z',(∀k,n≤k→run S.E k (.fn f) (a'++.yld yid::b') H=some (y,H'))∧J [] O' Z' H'
section
variable {ν ν' ν2:Nu} {Z Z':Nat→Prop} {st st' st2:St} {m m':Tb aP} {F F':Frame} {H H' H1:aq} {S:Sys} {c:bD} {X:CX} {J:JT}
end
end Go.VE
namespace Go.VE
variable [aW]
inductive sU (step:List V→Tb aP→Option (Out×Tb aP)) (o:Out) (mf:Tb aP):List (List V)→Bool→Tb aP→Prop
 | nil (h:o=.norm):sU step o mf [] true mf
 | next (x:List V) (ws:List (List V)) (more:Bool) (m m1:Tb aP) (h:step x m=some (.norm,m1)) (r:sU step o mf ws more m1):sU step o mf (x::ws) more m
 | last (x:List V) (m:Tb aP) (h:step x m=some (o,mf)) (ho:o≠.norm):sU step o mf [x] false m
theorem An {step:List V→Tb aP→Option (Out×Tb aP)} {o:Out} {mf:Tb aP}:∀{xs:List (List V)} {m:Tb aP},lI step xs m=some (o,mf) →
 ∃ws more,(more=true∧ws=xs∨more=false∧ws≠[]∧∃r,xs=ws++r)∧sU step o mf ws more m
 | [],m,h=>by
  simp only[lI,ζa,ζc]at h;obtain⟨rfl,rfl⟩:=h;exact⟨[],true,.inl ⟨rfl,rfl⟩,.nil rfl⟩
 | x::xs,m,h=>by
  simp only[lI]at h;split at h
  ·rename_i m' hs;obtain⟨ws,more,hc,hr⟩:=An h;refine⟨x::ws,more,?_,.next x ws more m m' hs hr⟩;rcases hc with⟨h1,h2⟩|⟨h1,h2,r,h3⟩
   ·exact .inl ⟨h1,by rw[h2]⟩
   ·exact .inr ⟨h1,by simp,r,by rw[h3];rfl⟩
  ·rename_i hs;refine⟨[x],false,.inr ⟨rfl,by simp,xs,rfl⟩,.last x m h fun e=>?_⟩
   subst e;exact hs mf h
def qG (O0 Z0:Nat→Prop) (H0:aq):JT:=fun w O Z H=>w=[]∧H0.length≤H.length∧(∀i,i<H0.length→¬O0 i→¬Z0 i→H[i]? = H0[i]?)∧(∀i,Z0 i→Z i∧ax H i=ax H0 i) ∧
 (∀i,O i→O0 i∨H0.length≤i)∧(∀i,Z i→Z0 i∨O0 i∨H0.length≤i)
section
variable {ν ν' ν2:Nu} {Z Z':Nat→Prop} {st st' st2:St} {m m':Tb aP} {F F':Frame} {H H' H1:aq} {S:Sys} {c:bD} {X:CX} {J:JT} {O0 Z0:Nat→Prop} {H0:aq}
theorem qG.tK {w:List (List V)} {O Z O' Z':Nat→Prop} {H H':aq} (j:qG O0 Z0 H0 w O Z H) (hl:H.length≤H'.length) (hs:∀i,i<H.length→¬O i→¬Z i→H'[i]? = H[i]?) (hr:∀i,Z i→Z' i∧ax H' i=ax H i)
 (ho:∀i,O' i→O i∨H.length≤i) (hz:∀i,Z' i→Z i∨O i∨H.length≤i):qG O0 Z0 H0 w O' Z' H':=by
 obtain⟨j1,j2,j3,j4,j5,j6⟩:=j;refine⟨j1,Nat.le_trans j2 hl,fun i h1 h2 h3=>?_,fun i h=>⟨(hr i (j4 i h).1).1,by rw[(hr i (j4 i h).1).2,(j4 i h).2]⟩,fun i h=>?_,fun i h=>?_⟩
 ·rw[hs i (Nat.lt_of_lt_of_le h1 j2) (fun h=>by rcases j5 i h with h|h;exact h2 h;omega) (fun h=>by rcases j6 i h with h|h|h;exact h3 h;exact h2 h;omega),j3 i h1 h2 h3]
 ·rcases ho i h with h|h
  ·exact j5 i h
  ·exact .inr (Nat.le_trans j2 h)
 ·rcases hz i h with h|h|h
  ·exact j6 i h
  ·rcases j5 i h with h|h
   ·exact .inr (.inl h)
   ·exact .inr (.inr h)
  ·exact .inr (.inr (Nat.le_trans j2 h))
theorem qG.yc {more:Bool} {yid:Nat}:Yc S (qG O0 Z0 H0) more yid where
 tK:=fun _ _ _ _ _ _ _ j h1 h2 h3 h4 h5=>j.tK h1 h2 h3 h4 h5
 yield:=fun x ws O Z H args j=>by obtain⟨h,_⟩:=j;cases h
theorem qG.refl (r:R ν Z st F H):qG (dM ν st.m) Z H [] (dM ν st.m) Z H:=⟨rfl,Nat.le_refl _,fun _ _ _ _=>rfl,fun i h=>⟨h,rfl⟩,fun i h=>.inl h,fun i h=>.inl h⟩
mutual
theorem Al {d:Nat}:∀{sv:SV},sv.bV d=true→d∈sv.names
 | .v _,h=>by simp[SV.bV]at h
 | .own e,h=>by simp[SV.bV]at h;simp[SV.names,h]
 | .ptr e _,h=>by simp[SV.bV]at h;simp[SV.names,h]
 | .el e _ _,h=>by simp[SV.bV]at h;simp[SV.names,h]
 | .mp e,h=>by simp[SV.bV]at h;simp[SV.names,h]
 | .clo f a b,h=>by
  simp only[SV.bV,Bool.or_eq_true]at h;simp only[SV.names,List.mem_append];exact h.imp qw qw
 | .tup l,h=>by simp only[SV.bV]at h;simp only[SV.names];exact qw h
 | .yl _,h=>by simp[SV.bV]at h
theorem qw {d:Nat}:∀{l:List SV},SV.cz d l=true→d∈SV.ug l
 | [],h=>by simp[SV.cz]at h
 | x::r,h=>by
  simp only[SV.cz,Bool.or_eq_true]at h;simp only[SV.ug,List.mem_append];exact h.imp Al qw
end
theorem xJ {d:Nat}:∀{g:Tb SV} {s:Nat} {sv:SV},an g s=some sv→sv.bV d=true→d∈lZ g
 | [],s,sv,h,_=>by simp[an]at h
 | (k,x)::r,s,sv,h,hs=>by
  simp only[an]at h;simp only[lZ,List.mem_append];split at h
  ·simp only[ζa]at h;subst h;exact .inl (Al hs)
  ·exact .inr (xJ h hs)
theorem R.Wn (r:R ν Z st F H) {Z2:Nat→Prop} (h1:∀i,Z2 i→¬dM ν st.m i) (h2:∀i,Z2 i→(ax H i).isSome=true) (h3:Deep H Z2):R ν (fun i=>Z i∨Z2 i) st F H:=by
 have hz:∀i,Z i→(Z i∨Z2 i)∧ax H i=ax H i:=fun i h=>⟨.inl h,rfl⟩
 have hz2:∀i,Z2 i→(Z i∨Z2 i)∧ax H i=ax H i:=fun i h=>⟨.inr h,rfl⟩
 refine⟨fun s sv hs=>(r.slot s sv hs).mono hz fun e _=>jQ ν st.m e,fun d ob hd=>cO.mono hz rfl (fun _=>rfl) (fun e _=>jQ ν st.m e) (r.obj d ob hd),r.inj,fun d ob hd hb hh=>?_,fun i hi=>?_,⟨fun id es ys hi hr c hc u hu=>?_⟩⟩
 ·rcases hh with hh|hh
  ·exact r.apart d ob hd hb hh
  ·exact h1 _ hh ⟨d,ob,hd,hb,rfl⟩
 ·exact hi.elim (r.zrow i) (h2 i)
 ·rcases hi with hi|hi
  ·obtain⟨x,hx⟩:=r.deep.row id es ys hi hr c hc u hu;exact⟨x,hx.mono hz⟩
  ·obtain⟨x,hx⟩:=h3.row id es ys hi hr c hc u hu;exact⟨x,hx.mono hz2⟩
theorem R.QX:∀{ps:List Nat} {xs:List V} {vs:List V} {g:Tb SV} {F:Frame},R ν Z { st with g:=g } F H→b8 H Z xs vs→xs.length=ps.length→R ν Z { st with g:=s7 g ps (xs.map .v) } (qU ps vs F) H
 | [],xs,vs,g,F,r,h,hl=>by
  have:xs=[]:=List.length_eq_zero_iff.1 hl;subst this;rw[h.b7];exact r
 | p::ps,[],vs,g,F,r,h,hl=>by simp at hl
 | p::ps,x::xs,vs,g,F,r,h,hl=>by
  obtain⟨w,ws,rfl,h1,h2⟩:=h.inv;exact R.QX (ps:=ps) (r.put (st:={ st with g:=g }) (.v _ _ h1)) h2 (by simpa using hl)
def o4 (X:CX) (S:Sys) (ro:Bool) (code:Code) (run':St→Option (Out×St)):Prop:=
 ∀st o st',run' st=some (o,st')→∀(J:JT) ν Z F H,Yc S J st.more st.yid→R ν Z st F H→J st.want (dM ν st.m) Z H →
  ∃n F' H' ν' Z',(∀k,n≤k→exec S.E (run S.E k) k ro X.nt code F H=some (o,F',H'))∧R ν' Z' st' F' H'∧J st'.want (dM ν' st'.m) Z' H'∧Fix ν st ν' st'
def Ag (st:St) (m:Tb aP):St:={ g:=st.g,m:=m,pin:=st.pin++lZ st.g,want:=[],more:=true,yid:=0 }
def JI (X:CX) (st:St) (F:Frame) (ν:Nu) (O0 Z0:Nat→Prop) (H0:aq) (idl:Nat) (ps:List Nat) (aw bw:Code) (step:List V→Tb aP→Option (Out×Tb aP)) (o:Out) (mf:Tb aP) (more:Bool):JT:=fun w O Z H=>
 ∃m νb Zb lr,R νb Zb (Ag st m) F H∧qG O0 Z0 H0 [] (dM νb m) Zb H∧(∀i,O i→¬dM νb m i∧¬Zb i∧i≠idl∧H0.length≤i)∧(∀i,Z i→¬dM νb m i∧i≠idl∧(Z0 i∨H0.length≤i)) ∧
  ¬dM νb m idl∧¬Zb idl∧H0.length≤idl∧H[idl]? = some (.loop lr)∧(lr.frame=F∧lr.nt=X.nt∧lr.params=ps∧lr.assign=aw∧lr.body=bw) ∧
  (∀d∈st.pin++lZ st.g,∀ob',an m d=some ob'→∃ob,an st.m d=some ob∧νb d=ν d∧sameShape ob ob') ∧
  ((sU step o mf w more m∧lr.st=.ready∧lr.pend=none)∨(w=[]∧m=mf∧lr.st=.done∧lr.pend=some o))
theorem JI.tK {w:List (List V)} {O Z O' Z':Nat→Prop} {H H':aq} {idl:Nat} {ps:List Nat} {aw bw:Code} {step:List V→Tb aP→Option (Out×Tb aP)} {o:Out} {mf:Tb aP} {more:Bool}
 (j:JI X st F ν O0 Z0 H0 idl ps aw bw step o mf more w O Z H) (hl:H.length≤H'.length) (hs:∀i,i<H.length→¬O i→¬Z i→H'[i]? = H[i]?) (hr:∀i,Z i→Z' i∧ax H' i=ax H i)
 (ho:∀i,O' i→O i∨H.length≤i) (hz:∀i,Z' i→Z i∨O i∨H.length≤i):JI X st F ν O0 Z0 H0 idl ps aw bw step o mf more w O' Z' H':=by
 obtain⟨m,νb,Zb,lr,r,ej,d1,d2,l1,l2,l3,l4,l5,l6,l7⟩:=j;have hown:∀i,dM νb m i→H'[i]? = H[i]? := fun i hi=>hs i (r.lt (st:=Ag st m) hi) (fun h=>(d1 i h).1 hi) (fun h=>(d2 i h).1 hi)
 have hzb:∀i,Zb i→ax H' i=ax H i:=fun i hi=>by
  by_cases hzi:Z i
  ·exact(hr i hzi).2
  ·unfold ax;rw[hs i (r.si hi) (fun h=>(d1 i h).2.1 hi) hzi]
 have hll:idl<H.length:=(ζe.1 l4).1;have h0l:H0.length≤H.length:=ej.2.1;refine⟨m,νb,Zb,lr,r.heap hown hzb,?_,fun i h=>?_,fun i h=>?_,l1,l2,l3,?_,l5,l6,l7⟩
 ·obtain⟨j1,j2,j3,j4,j5,j6⟩:=ej;refine⟨j1,Nat.le_trans j2 hl,fun i h1 h2 h3=>?_,fun i h=>⟨(j4 i h).1,by rw[hzb i (j4 i h).1,(j4 i h).2]⟩,j5,j6⟩
  rw[hs i (Nat.lt_of_lt_of_le h1 j2) (fun h=>by have:=(d1 i h).2.2.2;omega) (fun h=>by rcases (d2 i h).2.2 with h|h;exact h3 h;omega),j3 i h1 h2 h3]
 ·rcases ho i h with h|h
  ·exact d1 i h
  ·exact⟨fun hi=>absurd (r.lt (st:=Ag st m) hi) (by omega),fun hi=>absurd (r.si hi) (by omega),by omega,by omega⟩
 ·rcases hz i h with h|h|h
  ·exact d2 i h
  ·exact⟨(d1 i h).1,(d1 i h).2.2.1,.inr (d1 i h).2.2.2⟩
  ·exact⟨fun hi=>absurd (r.lt (st:=Ag st m) hi) (by omega),by omega,.inr (by omega)⟩
 ·rw[hs idl hll (fun h=>(d1 idl h).2.2.1 rfl) (fun h=>(d2 idl h).2.1 rfl)];exact l4
theorem JI.yield (S:Sys) {A B:St→Option (Out×St)} {aw bw:Code} (hA:o4 X S true aw A) (hB:o4 X S true bw B) {idl:Nat} {ps:List Nat} (hps:ps.all (·<X.nt)=true) {o:Out} {mf:Tb aP} {more:Bool}
 {x:List V} {ws:List (List V)} {O Z:Nat→Prop} {H:aq} {args:List V} (j:JI X st F ν O0 Z0 H0 idl ps aw bw (fN ps A B st) o mf more (x::ws) O Z H)
 (hx:b8 H Z x args) (hzr:∀i,Z i→(ax H i).isSome=true) (hzd:Deep H Z) (hoz:∀i,O i→¬Z i∧i<H.length) :
 ∃n H',run S.E n (.yld idl) args H=some (.bool (more || !ws.isEmpty),H')∧JI X st F ν O0 Z0 H0 idl ps aw bw (fN ps A B st) o mf more ws O Z H'∧H.length≤H'.length∧(∀i,O i→H'[i]? = H[i]?)∧(∀i,Z i→ax H' i=ax H i):=by
 obtain⟨m,νb,Zb,lr,r,ej,d1,d2,l1,l2,l3,l4,⟨q1,q2,q3,q4,q5⟩,l6,l7⟩:=j;have l7':sU (fN ps A B st) o mf (x::ws) more m∧lr.st=.ready∧lr.pend=none:=by
  rcases l7 with h|⟨h,_⟩
  ·exact h
  ·cases h
 obtain⟨hE,hready,hpend⟩:=l7';have hround:∃oo m1,fN ps A B st x m=some (oo,m1)∧(oo=.norm∧sU (fN ps A B st) o mf ws more m1∧(more || !ws.isEmpty)=true∨oo≠.norm∧oo=o∧m1=mf∧ws=[]∧more=false):=by
  cases hE with
  | next _ _ _ _ m1 h hr=>
   refine⟨.norm,m1,h,.inl ⟨rfl,hr,?_⟩⟩;cases hr <;> simp
  | last _ _ h ho=>exact⟨o,mf,h,.inr ⟨ho,rfl,rfl,rfl,rfl⟩⟩
 obtain⟨oo,m1,hstep,hout⟩:=hround;unfold fN at hstep;split at hstep
 ·rename_i hlen;split at hstep
  ·rename_i st1 hAs;obtain⟨⟨oo',st2⟩,hBs,e⟩:=ζf.1 hstep;simp only[ζc]at e;obtain⟨rfl,rfl⟩:=e;have hll:idl<H.length:=(ζe.1 l4).1;have h0l:H0.length≤H.length:=ej.2.1;have r1:R νb (fun i=>Zb i∨Z i) (Ag st m) F H:=r.Wn (fun i hi=>(d2 i hi).1) hzr hzd
   have hxx:b8 H (fun i=>Zb i∨Z i) x args:=hx.mono fun i hi=>⟨.inr hi,rfl⟩
   have r2:=R.QX (st:=Ag st m) r1 hxx hlen;obtain⟨nA,F2,H2,ν2,Z2,a1,a2,a3,a4⟩:=hA _ _ _ hAs (qG (dM νb m) (fun i=>Zb i∨Z i) H) νb _ _ H qG.yc r2 (qG.refl (st:=Ag st m) r1)
   obtain⟨b1,b2,b3,b4,b5,b6⟩:=a3;have hnz:¬(Zb idl∨Z idl):=fun h=>h.elim l2 fun h=>(d2 idl h).2.1 rfl
   have hlo2:H2[idl]? = some (.loop lr):=by rw[b3 idl hll l1 hnz];exact l4
   have hll2:idl<H2.length:=by omega
   have no2:¬dM ν2 st1.m idl:=fun h=>(b5 idl h).elim l1 fun h=>by omega
   have nz2:¬Z2 idl:=fun h=>by rcases b6 idl h with h|h|h;exact hnz h;exact l1 h;omega
   have hset:∀(ob:Ob) (Hh:aq) (i:Nat),i≠idl→(Hh.set idl ob)[i]? = Hh[i]? := fun ob Hh i hne=>by rw[List.getElem?_set,if_neg (Ne.symm hne)]
   have r3:R ν2 Z2 st1 F2 (H2.set idl (.loop { lr with st:=.busy })):=a2.heap (fun i hi=>hset _ _ i fun e=>no2 (e▸hi)) (fun i hi=>by unfold ax;rw[hset _ _ i fun e=>nz2 (e▸hi)])
   obtain⟨nB,F4,H4,ν4,Z4,c1,c2,c3,c4⟩:=hB _ _ _ hBs (qG (dM ν2 st1.m) Z2 (H2.set idl (.loop { lr with st:=.busy }))) ν2 Z2 F2 _ qG.yc r3 (by
    rw[b1];exact qG.refl r3)
   obtain⟨_,g2,g3,g4,g5,g6⟩:=c3;simp only[List.length_set]at g2 g3 g5 g6;have hlo4:H4[idl]? = some (.loop { lr with st:=.busy }):=by rw[g3 idl hll2 no2 nz2,List.getElem?_set_self hll2]
   have hll4:idl<H4.length:=by omega
   have no4:¬dM ν4 st2.m idl:=fun h=>(g5 idl h).elim no2 fun h=>by omega
   have nz4:¬Z4 idl:=fun h=>by rcases g6 idl h with h|h|h;exact nz2 h;exact no2 h;omega
   generalize hlr:({ lr with st:=(if oo'==.norm then xX.ready else xX.done),pend:=(if oo'==.norm then none else some oo') }:rT)=lr5;have r5:R ν4 Z4 st2 F4 (H4.set idl (.loop lr5)):=c2.heap (fun i hi=>hset _ _ i fun e=>no4 (e▸hi)) (fun i hi=>by unfold ax;rw[hset _ _ i fun e=>nz4 (e▸hi)])
   have hlen5:H.length≤(H4.set idl (.loop lr5)).length:=by simp only[List.length_set];omega
   have same5:∀i,i<H.length→i≠idl→¬dM νb m i→¬(Zb i∨Z i)→(H4.set idl (.loop lr5))[i]? = H[i]? := fun i h1 h2 h3 h4=>by
    rw[hset _ _ i h2,g3 i (by omega) (fun h=>(b5 i h).elim h3 fun h=>by omega) (fun h=>by rcases b6 i h with h|h|h;exact h4 h;exact h3 h;omega),hset _ _ i h2,b3 i h1 h3 h4]
   have rows5:∀i,(Zb i∨Z i)→Z4 i∧ax (H4.set idl (.loop lr5)) i=ax H i:=fun i hi=>by
    have hne:i≠idl:=fun e=>hnz (e▸hi)
    obtain⟨t1,t2⟩:=b4 i hi;obtain⟨t3,t4⟩:=g4 i t1;refine⟨t3,?_⟩;rw[←t2];have:ax (H2.set idl (.loop { lr with st:=.busy })) i=ax H2 i:=by unfold ax;rw[hset _ _ i hne]
    rw[←this,←t4];unfold ax;rw[hset _ _ i hne]
   have own5:∀i,dM ν4 st2.m i→dM νb m i∨H.length≤i:=fun i hi=>by
    rcases g5 i hi with h|h
    ·exact b5 i h
    ·exact .inr (by omega)
   have frz5:∀i,Z4 i→(Zb i∨Z i)∨dM νb m i∨H.length≤i:=fun i hi=>by
    rcases g6 i hi with h|h|h
    ·exact b6 i h
    ·rcases b5 i h with h|h
     ·exact .inr (.inl h)
     ·exact .inr (.inr h)
    ·exact .inr (.inr (by omega))
   have fx:=a4.trans c4;have r6:R ν4 Z4 (Ag st st2.m) F (H4.set idl (.loop lr5)):=⟨fun s sv hs=>(r.slot s sv hs).mono (fun i hi=>rows5 i (.inl hi)) fun d hd ob' hob=>fx.pin d (List.mem_append_right _ (xJ hs hd)) ob' hob,r5.obj,r5.inj,r5.apart,r5.zrow,r5.deep⟩
   have hrun:run S.E (max nA nB+1) (.yld idl) args H=some (.bool (oo'==.norm),H4.set idl (.loop lr5)):=by
    simp only[run,l4,hready];rw[if_pos (by rw[q3];exact⟨by rw[←hx.1];exact hlen,by rw[q2];exact hps⟩)]
    rw[q1,q2,q3,q4,q5];rw[a1 _ (Nat.le_max_left _ _)];simp only[hlo2,hready];rw[c1 _ (Nat.le_max_right _ _)];simp only[hlo4];rw[←hlr]
   refine⟨max nA nB+1,H4.set idl (.loop lr5),?_,⟨st2.m,ν4,Z4,lr5,r6,?_,fun i hi=>?_,fun i hi=>?_,no4,nz4,l3,?_,?_,fun d hd ob' hob=>?_,?_⟩,hlen5,fun i hi=>?_,fun i hi=>(rows5 i (.inr hi)).2⟩
   ·rw[hrun];rcases hout with⟨h1,_,h3⟩|⟨h1,_,_,h4,h5⟩
    ·rw[h1,h3];rfl
    ·rw[h4,h5]
     cases hoo:oo' with
     | norm=>exact absurd hoo h1
     | _=>rfl
   ·obtain⟨j1,j2,j3,j4,j5,j6⟩:=ej;refine⟨rfl,Nat.le_trans j2 hlen5,fun i h1 h2 h3=>?_,fun i h=>⟨(rows5 i (.inl (j4 i h).1)).1,by rw[(rows5 i (.inl (j4 i h).1)).2,(j4 i h).2]⟩,fun i h=>?_,fun i h=>?_⟩
    ·rw[same5 i (by omega) (by omega) (fun h=>by rcases j5 i h with h|h;exact h2 h;omega) (fun h=>by
      rcases h with h|h
      ·rcases j6 i h with h|h|h;exact h3 h;exact h2 h;omega
      ·rcases (d2 i h).2.2 with h|h;exact h3 h;omega),j3 i h1 h2 h3]
    ·rcases own5 i h with h|h
     ·exact j5 i h
     ·exact .inr (by omega)
    ·rcases frz5 i h with (h|h)|h|h
     ·exact j6 i h
     ·rcases (d2 i h).2.2 with h|h;exact .inl h;exact .inr (.inr h)
     ·rcases j5 i h with h|h;exact .inr (.inl h);exact .inr (.inr h)
     ·exact .inr (.inr (by omega))
   ·obtain⟨t1,t2⟩:=hoz i hi;obtain⟨t3,t4,t5,t6⟩:=d1 i hi;refine⟨fun h=>(own5 i h).elim t3 fun h=>by omega,fun h=>?_,t5,t6⟩
    rcases frz5 i h with (h|h)|h|h
    ·exact t4 h
    ·exact t1 h
    ·exact t3 h
    ·omega
   ·obtain⟨t1,t2,t3⟩:=d2 i hi;have hlt:i<H.length:=by
     have:=hzr i hi;unfold ax at this
     cases hh:H[i]? with
     | none=>rw[hh]at this;simp at this
     | some _=>exact(ζe.1 hh).1
    exact⟨fun h=>(own5 i h).elim t1 fun h=>by omega,t2,t3⟩
   ·rw[List.getElem?_set_self hll4]
   ·subst hlr;exact⟨q1,q2,q3,q4,q5⟩
   ·obtain⟨ob1,h1,h2,h3⟩:=fx.pin d hd ob' hob;obtain⟨ob,k1,k2,k3⟩:=l6 d hd ob1 h1;exact⟨ob,k1,by rw[h2,k2],k3.trans h3⟩
   ·rcases hout with⟨h1,h2,h3⟩|⟨h1,h2,h3,h4,h5⟩
    ·left;subst h1;subst hlr;exact⟨h2,rfl,rfl⟩
    ·right;subst hlr;have hb:¬(oo'==Out.norm)=true:=by simpa using h1
     refine⟨h4,h3,?_,?_⟩
     ·show (if(oo'==Out.norm)=true then xX.ready else xX.done)=xX.done;rw[if_neg hb]
     ·show (if(oo'==Out.norm)=true then none else some oo')=some o;rw[if_neg hb,h2]
   ·obtain⟨t1,t2⟩:=hoz i hi;obtain⟨t3,t4,t5,t6⟩:=d1 i hi;exact same5 i t2 t5 t3 fun h=>h.elim t4 t1
  ·simp at hstep
 ·simp at hstep
end
end Go.VE
namespace Go.VE
variable [aW]
section
variable {ν ν' ν2:Nu} {Z Z':Nat→Prop} {st st' st2:St} {m m':Tb aP} {F F':Frame} {H H' H1:aq} {S:Sys} {c:bD} {X:CX} {J:JT}
theorem IN (gd:Good X S) (hS:iS S c) {ro:Bool} {id:Nat} {ops:Array Oper} {l:List RO} (hc:iO X true ops.toList 0 ops.toList=some (l.map RO.strip)) (hd:(sr ops.toList&&vU ops.toList)=true) :
 o4 X S ro (.region id ops true) (fun st=>(jS S c true [] l st).map fun st=>(.norm,st)):=by
 intro st o st' h J ν Z F H y r j;obtain⟨st1,h1,e⟩:=ζf.1 h;simp only[ζc]at e;obtain⟨rfl,rfl⟩:=e;generalize hH0:(if nR ops.toList then H++List.replicate ops.toList.length .free else H)=H0;generalize hk:(if nR ops.toList then ops.toList.length else 0)=k;have hget:∀i,i<H.length→H0[i]? = H[i]? := fun i hi=>by
  rw[←hH0];split
  ·exact List.getElem?_append_left hi
  ·rfl
 have hlen:H.length≤H0.length:=by rw[←hH0];split <;> simp
 have r0:R ν Z st F H0:=r.heap (fun i hi=>hget i (r.lt hi)) (fun i hi=>by unfold ax;rw[hget i (r.si hi)])
 have hfree:∀q,0≤q→q<k→H0[H.length+q]? = some .free:=fun q _ hq=>by
  rw[←hk]at hq;split at hq
  ·rename_i ha;rw[←hH0,if_pos ha,List.getElem?_append_right (by omega)]
   simp only[Nat.add_sub_cancel_left];rw[List.getElem?_replicate,if_pos hq]
  ·omega
 obtain⟨n,F',H',ν',e1,e2,e3,e4,e5⟩:=HU gd hS (ops:=ops.toList) (b:=H.length) (k:=k) (fun ha=>by rw[←hk,if_pos ha]) ops.toList.length (i:=0) (fr:=[]) (by omega) (by simpa using hc) h1 r0 hlen
  ⟨fun d ob hd hb _=>r.lt ⟨d,ob,hd,hb,rfl⟩,fun i hi=>r.si hi⟩ hfree
 refine⟨n,F',H',ν',Z,fun q hq=>?_,e2,?_,e5⟩
 ·simp only[exec,gw,if_true,hd,ζf,ζc,true_and];refine⟨(F',H'),?_,rfl,rfl⟩;rw[hH0];have:=e1 q hq;rw[List.range_eq_range'];exact this
 ·rw[e4];refine y.tK _ _ _ _ _ _ _ j (Nat.le_trans hlen e3.len) (fun i h1 h2 h3=>by rw[e3.same i (by omega) h2 h3 (by omega),hget i h1]) (fun i hi=>⟨hi,by rw[(e3.rows i hi).2];unfold ax;rw[hget i (r.si hi)]⟩) (fun i hi=>?_) (fun i hi=>.inl hi)
  rcases e3.own i hi with h|h|h
  ·exact .inl h
  ·exact .inr h
  ·exact .inr (by omega)
theorem Nx {ro:Bool} {code:Code} {f:St→Option (Out×St)} (hf:o4 X S ro code f):o4 X S ro (.loop code) (kG f):=by
 intro st o st' h J ν Z F H y r j;obtain⟨k,hk⟩:=jM.1 h;have key:∀k st ν Z F H,gf f k st=some (o,st')→Yc S J st.more st.yid→R ν Z st F H→J st.want (dM ν st.m) Z H →
  ∃n F' H' ν' Z',(∀q,n≤q→∀lf,k≤lf→iw (exec S.E (run S.E q) q ro X.nt code) lf F H=some (o,F',H'))∧R ν' Z' st' F' H'∧J st'.want (dM ν' st'.m) Z' H'∧Fix ν st ν' st':=by
  intro k
  induction k with
  | zero=>intro st ν Z F H h;simp[gf]at h
  | succ k ih=>
   intro st ν Z F H h y r j;simp only[gf]at h;split at h
   ·rename_i st1 hs;obtain⟨n1,F1,H1,ν1,Z1,a1,a2,a3,a4⟩:=hf st .norm st1 hs J ν Z F H y r j;obtain⟨n2,F2,H2,ν2,Z2,b1,b2,b3,b4⟩:=ih st1 ν1 Z1 F1 H1 h (by rw[a4.more,a4.yid];exact y) a2 a3
    refine⟨max n1 n2,F2,H2,ν2,Z2,fun q hq lf hlf=>?_,b2,b3,a4.trans b4⟩
    cases lf with
    | zero=>omega
    | succ lf=>
     simp only[iw,a1 q (Nat.le_trans (Nat.le_max_left _ _) hq)];exact b1 q (Nat.le_trans (Nat.le_max_right _ _) hq) lf (by omega)
   ·rename_i hs;obtain⟨n1,F1,H1,ν1,Z1,a1,a2,a3,a4⟩:=hf st o st' h J ν Z F H y r j;have ho:o≠.norm:=fun e=>by subst e;exact hs st' h
    refine⟨n1,F1,H1,ν1,Z1,fun q hq lf hlf=>?_,a2,a3,a4⟩
    cases lf with
    | zero=>omega
    | succ lf=>
     simp only[iw,a1 q hq];cases o <;> first|exact absurd rfl ho|rfl
 obtain⟨n,F',H',ν',Z',e1,e2,e3,e4⟩:=key k st ν Z F H hk y r j;refine⟨max n k,F',H',ν',Z',fun q hq=>?_,e2,e3,e4⟩
 simp only[exec];exact e1 q (Nat.le_trans (Nat.le_max_left _ _) hq) q (Nat.le_trans (Nat.le_max_right _ _) hq)
theorem Ow (gd:Good X S) (hI:∀f a b xs,S.items f a b=some xs→fq S f a b xs) {g:Operand} {ps:Array Tmp} {aw bw:Code} {x:Arg} {A B:St→Option (Out×St)}
 (hps:ps.toList.all (·<X.nt)=true) (hx:mU X.nm g=some x) (hA:o4 X S true aw A) (hB:o4 X S true bw B) :
 o4 X S false (.rangeFunc g ps aw bw) (fun st=>match mT S.N st.g x with
 | some (.v (.clo f x y))=>match S.items f x y with
  | some xs=>(lI (fN ps.toList A B st) xs st.m).map fun (o,m)=>(o,{ st with m:=m })
  | none=>none
 | _=>none):=by
 intro st o st' h J ν Z F H y r j;dsimp only at h;split at h
 ·rename_i f a b hsv;split at h
  ·rename_i xs hit;obtain⟨⟨oo,mf⟩,hE,e⟩:=ζf.1 h;simp only[ζc]at e;obtain⟨rfl,rfl⟩:=e;obtain⟨yv,hy,ry⟩:=AL gd.N r.slot hx hsv;obtain⟨a',b',rfl,ra,rb⟩:=ry.fr.iL;obtain⟨ws,more,hcond,hR⟩:=An hE;generalize hlr:(⟨.ready,none,F,X.nt,ps.toList,aw,bw⟩:rT)=lr0;have hgetH:∀i,i<H.length→(H++[Ob.loop lr0])[i]? = H[i]? := fun i hi=>List.getElem?_append_left hi
   have hzr:∀i,Z i→ax (H++[Ob.loop lr0]) i=ax H i:=fun i hi=>by unfold ax;rw[hgetH i (r.si hi)]
   have r0:R ν Z (Ag st st.m) F (H++[Ob.loop lr0]):=by
    have:=r.heap (H':=H++[Ob.loop lr0]) (fun i hi=>hgetH i (r.lt hi)) hzr
    exact⟨this.slot,this.obj,this.inj,this.apart,this.zrow,this.deep⟩
   have hmono:∀i,Z i→Z i∧ax (H++[Ob.loop lr0]) i=ax H i:=fun i hi=>⟨hi,hzr i hi⟩
   have j0:JI X st F ν (dM ν st.m) Z H H.length ps.toList aw bw (fN ps.toList A B st) oo mf more ws (fun _=>False) Z (H++[Ob.loop lr0]):=by
    refine⟨st.m,ν,Z,lr0,r0,⟨rfl,by simp,fun i h1 _ _=>hgetH i h1,fun i hi=>⟨hi,hzr i hi⟩,fun i hi=>.inl hi,fun i hi=>.inl hi⟩,fun i hi=>hi.elim,fun i hi=>⟨fun ho=>?_,Nat.ne_of_lt (r.si hi),.inl hi⟩,fun ho=>absurd (r.lt ho) (by simp),fun hz=>absurd (r.si hz) (by simp),Nat.le_refl _,by simp,?_,fun d _ ob' h=>⟨ob',h,rfl,.refl _⟩,.inl ⟨hR,?_,?_⟩⟩
    ·obtain⟨d,ob,g1,g2,rfl⟩:=ho;exact r.apart d ob g1 g2 hi
    ·subst hlr;exact⟨rfl,rfl,rfl,rfl,rfl⟩
    ·subst hlr;rfl
    ·subst hlr;rfl
   have hyc:Yc S (JI X st F ν (dM ν st.m) Z H H.length ps.toList aw bw (fN ps.toList A B st) oo mf more) more H.length:=
    ⟨fun w O Z1 H1 O' Z' H' jj h1 h2 h3 h4 h5=>JI.tK jj h1 h2 h3 h4 h5,fun x1 ws1 O Z1 H1 args jj h1 h2 h3 h4=>JI.yield S hA hB hps jj h1 h2 h3 h4⟩
   obtain⟨n,yy,H',O',Z',e1,e2⟩:=hI f a b xs hit ws more hcond H.length _ hyc Z a' b' (H++[Ob.loop lr0]) (ra.mono hmono) (rb.mono hmono) (fun i hi=>by rw[hzr i hi];exact r.zrow i hi) (r.deep.mono hzr) j0
   obtain⟨m1,νb,Zb,lr,r1,⟨_,k2,k3,k4,k5,k6⟩,_,_,l1,l2,l3,l4,_,l6,l7⟩:=e2;have hfin:m1=mf∧(lr.st=.ready∨lr.st=.done)∧lr.pend.getD .norm=oo:=by
    rcases l7 with⟨g1,g2,g3⟩|⟨_,g1,g2,g3⟩
    ·cases g1 with
     | nil hn=>
      exact⟨rfl,.inl g2,by rw[g3,hn];rfl⟩
    ·exact⟨g1,.inr g2,by rw[g3];rfl⟩
   obtain⟨rfl,hst,hpend⟩:=hfin;have hll:H.length<H'.length:=(ζe.1 l4).1;have hset:∀i,i≠H.length→(H'.set H.length .dead)[i]? = H'[i]? := fun i hne=>by rw[List.getElem?_set,if_neg (Ne.symm hne)]
   have hzr2:∀i,Zb i→ax (H'.set H.length .dead) i=ax H' i:=fun i hi=>by unfold ax;rw[hset i fun e=>l2 (e▸hi)]
   have r2:=r1.heap (H':=H'.set H.length .dead) (fun i hi=>hset i fun e=>l1 (e▸hi)) hzr2
   refine⟨n,F,H'.set H.length .dead,νb,Zb,fun q hq=>?_,⟨r2.slot,r2.obj,r2.inj,r2.apart,r2.zrow,r2.deep⟩,?_,⟨fun d hd=>l6 d (List.mem_append_left _ hd),rfl,rfl,rfl⟩⟩
   ·simp only[exec,hy];rw[hlr,e1 q hq];simp only[l4];rcases hst with hst|hst <;> rw[hst] <;> simp only[hpend]
   ·refine y.tK _ _ _ _ _ _ _ j (by simp only[List.length_set];omega) (fun i h1 h2 h3=>by rw[hset i (by omega),k3 i h1 h2 h3]) (fun i hi=>⟨(k4 i hi).1,by rw[hzr2 i (k4 i hi).1,(k4 i hi).2]⟩) k5 k6
  ·simp at h
 ·simp at h
end
end Go.VE
namespace Go.VE
variable [aW]
def mR (st:St):List RV→Option (List SV)
 | []=>some []
 | .s n::r=>match an st.g n,mR st r with
  | some x,some l=>some (x::l)
  | _,_=>none
 | .ld n size agg::r=>match (an st.g n).bind fun p=>mA st.m (.load size agg) [p],mR st r with
  | some x,some l=>some (x::l)
  | _,_=>none
noncomputable def nD (S:Sys) (c:bD) (rf:RF) (svs:List SV) (m0:ga):Option (List SV×ga):=
 if svs.length≤rf.na then
  match bn S c rf.body (start svs m0)with
  | some (.exit _,_)=>none
  | some (_,st)=>(mR st rf.rs).map fun rs=>(rs,st.m)
  | none=>none
 else none
def xH (E:Env):ResultVar→Option RV
 | .tmp t=>some (.s t)
 | .cell a t=>(E.tt t).map fun d=>.ld a d.size d.agg
def uM (E:Env) (nm:FuncId→Option Nat) (fi:FI) (rf:RF):Prop:=
 aM ⟨E,nm,fi.ntmps⟩ false fi.body=some (erase rf.body)∧fi.results.mapM (xH E)=some rf.rs∧rf.na=fi.ntmps
section
variable {ν ν' ν2:Nu} {Z Z':Nat→Prop} {st st' st2:St} {m m':Tb aP} {F F':Frame} {H H' H1:aq} {S:Sys} {c:bD} {X:CX} {J:JT}
theorem E6 (gd:Good X S) (hS:iS S c) (hI:∀f a b xs,S.items f a b=some xs→fq S f a b xs):∀(rc:RC) (ro:Bool) (code:Code),aM X ro code=some (erase rc)→o4 X S ro code (bn S c rc):=by
 intro rc
 induction rc with
 | skip=>
  intro ro code hc st o st' h J ν Z F H y r j;simp only[bn,ζa,ζc]at h;obtain⟨rfl,rfl⟩:=h;simp only[erase]at hc;have:∀k,exec S.E (run S.E k) k ro X.nt code F H=some (.norm,F,H):=fun k=>by
   cases code with
   | skip=>rfl
   | label _=>rfl
   | region id ops draw=>
    simp only[aM]at hc;split at hc
    ·split at hc
     ·obtain⟨_,_,e⟩:=ζf.1 hc;cases e
     ·simp at hc
    ·obtain⟨_,_,e⟩:=ζf.1 hc;cases e
   | seq a b=>simp only[aM]at hc;split at hc <;> simp at hc
   | cond x a b=>simp only[aM]at hc;split at hc <;> simp at hc
   | block id b=>simp only[aM]at hc;obtain⟨_,_,e⟩:=ζf.1 hc;cases e
   | loop b=>simp only[aM]at hc;obtain⟨_,_,e⟩:=ζf.1 hc;cases e
   | rangeFunc g ps aw bw=>
    simp only[aM]at hc;split at hc
    ·simp at hc
    ·split at hc <;> simp at hc
   | _=>simp[aM]at hc
  exact⟨0,F,H,ν,Z,fun k _=>this k,r,j,.refl⟩
 | ops l=>
  intro ro code hc;simp only[erase]at hc
  cases code with
  | region id ops draw=>
   simp only[aM]at hc;split at hc
   ·split at hc
    ·obtain⟨_,_,e⟩:=ζf.1 hc;cases e
    ·simp at hc
   ·rename_i hd;obtain⟨l',hl,e⟩:=ζf.1 hc;cases e;intro st o st' h J ν Z F H y r j;simp only[bn]at h;obtain⟨st1,h1,e⟩:=ζf.1 h;simp only[ζc]at e;obtain⟨rfl,rfl⟩:=e;obtain⟨n,F',H',ν',Z',e1,e2,e3,e4⟩:=Iq gd hS _ hl h1 y r j;refine⟨n,F',H',ν',Z',fun k hk=>?_,e2,e3,e4⟩
    simp only[exec,gw,hd,Bool.false_eq_true,if_false,e1 k hk,Option.map_some]
  | seq a b=>simp only[aM]at hc;split at hc <;> simp at hc
  | cond x a b=>simp only[aM]at hc;split at hc <;> simp at hc
  | block id b=>simp only[aM]at hc;obtain⟨_,_,e⟩:=ζf.1 hc;cases e
  | loop b=>simp only[aM]at hc;obtain⟨_,_,e⟩:=ζf.1 hc;cases e
  | rangeFunc g ps aw bw=>
   simp only[aM]at hc;split at hc
   ·simp at hc
   ·split at hc <;> simp at hc
  | _=>simp[aM]at hc
 | lM l=>
  intro ro code hc;simp only[erase]at hc
  cases code with
  | region id ops draw=>
   simp only[aM]at hc;split at hc
   ·rename_i hd;subst hd;split at hc
    ·rename_i hok;obtain⟨l',hl,e⟩:=ζf.1 hc;cases e;have:=IN (ro:=ro) (id:=id) gd hS hl hok;intro st o st' h;simp only[bn]at h;exact this st o st' h
    ·simp at hc
   ·obtain⟨_,_,e⟩:=ζf.1 hc;cases e
  | seq a b=>simp only[aM]at hc;split at hc <;> simp at hc
  | cond x a b=>simp only[aM]at hc;split at hc <;> simp at hc
  | block id b=>simp only[aM]at hc;obtain⟨_,_,e⟩:=ζf.1 hc;cases e
  | loop b=>simp only[aM]at hc;obtain⟨_,_,e⟩:=ζf.1 hc;cases e
  | rangeFunc g ps aw bw=>
   simp only[aM]at hc;split at hc
   ·simp at hc
   ·split at hc <;> simp at hc
  | _=>simp[aM]at hc
 | seq a b iha ihb=>
  intro ro code hc;simp only[erase]at hc
  cases code with
  | seq ca cb=>
   simp only[aM]at hc;split at hc
   ·rename_i xa xb ha hb;simp only[ζa,RC.seq.injEq]at hc;obtain⟨rfl,rfl⟩:=hc;intro st o st' h J ν Z F H y r j;simp only[bn]at h;split at h
    ·rename_i st1 hs;obtain⟨n1,F1,H1,ν1,Z1,a1,a2,a3,a4⟩:=iha ro ca ha st .norm st1 hs J ν Z F H y r j;obtain⟨n2,F2,H2,ν2,Z2,b1,b2,b3,b4⟩:=ihb ro cb hb st1 o st' h J ν1 Z1 F1 H1 (by rw[a4.more,a4.yid];exact y) a2 a3
     refine⟨max n1 n2,F2,H2,ν2,Z2,fun q hq=>?_,b2,b3,a4.trans b4⟩
     simp only[exec,a1 q (Nat.le_trans (Nat.le_max_left _ _) hq)];exact b1 q (Nat.le_trans (Nat.le_max_right _ _) hq)
    ·rename_i hs;obtain⟨n1,F1,H1,ν1,Z1,a1,a2,a3,a4⟩:=iha ro ca ha st o st' h J ν Z F H y r j;refine⟨n1,F1,H1,ν1,Z1,fun q hq=>?_,a2,a3,a4⟩
     simp only[exec,a1 q hq];cases o <;> first|exact absurd h (hs st')|rfl
   ·simp at hc
  | region id ops draw=>
   simp only[aM]at hc;split at hc
   ·split at hc
    ·obtain⟨_,_,e⟩:=ζf.1 hc;cases e
    ·simp at hc
   ·obtain⟨_,_,e⟩:=ζf.1 hc;cases e
  | cond x a b=>simp only[aM]at hc;split at hc <;> simp at hc
  | block id b=>simp only[aM]at hc;obtain⟨_,_,e⟩:=ζf.1 hc;cases e
  | loop b=>simp only[aM]at hc;obtain⟨_,_,e⟩:=ζf.1 hc;cases e
  | rangeFunc g ps aw bw=>
   simp only[aM]at hc;split at hc
   ·simp at hc
   ·split at hc <;> simp at hc
  | _=>simp[aM]at hc
 | cond x a b iha ihb=>
  intro ro code hc;simp only[erase]at hc
  cases code with
  | cond g ca cb=>
   simp only[aM]at hc;split at hc
   ·rename_i xg xa xb hg ha hb;simp only[ζa,RC.cond.injEq]at hc;obtain⟨rfl,rfl,rfl⟩:=hc;intro st o st' h J ν Z F H y r j;simp only[bn]at h;split at h
    ·rename_i t ht;obtain⟨yv,hy,ry⟩:=AL gd.N r.slot hg ht;rw[ry.fr.bool]at hy;split at h
     ·rename_i hb;obtain⟨n1,F1,H1,ν1,Z1,a1,a2,a3,a4⟩:=iha ro ca ha st o st' h J ν Z F H y r j;refine⟨n1,F1,H1,ν1,Z1,fun q hq=>?_,a2,a3,a4⟩
      simp only[exec,hy,hb,if_true];exact a1 q hq
     ·rename_i hb;obtain⟨n1,F1,H1,ν1,Z1,a1,a2,a3,a4⟩:=ihb ro cb (by assumption) st o st' h J ν Z F H y r j
      refine⟨n1,F1,H1,ν1,Z1,fun q hq=>?_,a2,a3,a4⟩
      simp only[exec,hy,hb];exact a1 q hq
    ·simp at h
   ·simp at hc
  | region id ops draw=>
   simp only[aM]at hc;split at hc
   ·split at hc
    ·obtain⟨_,_,e⟩:=ζf.1 hc;cases e
    ·simp at hc
   ·obtain⟨_,_,e⟩:=ζf.1 hc;cases e
  | seq a b=>simp only[aM]at hc;split at hc <;> simp at hc
  | block id b=>simp only[aM]at hc;obtain⟨_,_,e⟩:=ζf.1 hc;cases e
  | loop b=>simp only[aM]at hc;obtain⟨_,_,e⟩:=ζf.1 hc;cases e
  | rangeFunc g ps aw bw=>
   simp only[aM]at hc;split at hc
   ·simp at hc
   ·split at hc <;> simp at hc
  | _=>simp[aM]at hc
 | block id a iha=>
  intro ro code hc;simp only[erase]at hc
  cases code with
  | block id' ca=>
   simp only[aM]at hc;obtain⟨xa,ha,e⟩:=ζf.1 hc;simp only[RC.block.injEq]at e;obtain⟨rfl,rfl⟩:=e;intro st o st' h J ν Z F H y r j;simp only[bn]at h;split at h
   ·rename_i id2 st1 hs;obtain⟨n1,F1,H1,ν1,Z1,a1,a2,a3,a4⟩:=iha ro ca ha st (.exit id2) st1 hs J ν Z F H y r j;split at h
    ·rename_i e;simp only[ζa,ζc]at h;obtain⟨rfl,rfl⟩:=h;refine⟨n1,F1,H1,ν1,Z1,fun q hq=>?_,a2,a3,a4⟩
     simp only[exec,a1 q hq,if_pos e]
    ·rename_i e;simp only[ζa,ζc]at h;obtain⟨rfl,rfl⟩:=h;refine⟨n1,F1,H1,ν1,Z1,fun q hq=>?_,a2,a3,a4⟩
     simp only[exec,a1 q hq,if_neg e]
   ·rename_i hs;obtain⟨n1,F1,H1,ν1,Z1,a1,a2,a3,a4⟩:=iha ro ca ha st o st' h J ν Z F H y r j;refine⟨n1,F1,H1,ν1,Z1,fun q hq=>?_,a2,a3,a4⟩
    simp only[exec,a1 q hq];cases o <;> first|exact absurd h (hs _ st')|rfl
  | region id ops draw=>
   simp only[aM]at hc;split at hc
   ·split at hc
    ·obtain⟨_,_,e⟩:=ζf.1 hc;cases e
    ·simp at hc
   ·obtain⟨_,_,e⟩:=ζf.1 hc;cases e
  | seq a b=>simp only[aM]at hc;split at hc <;> simp at hc
  | cond x a b=>simp only[aM]at hc;split at hc <;> simp at hc
  | loop b=>simp only[aM]at hc;obtain⟨_,_,e⟩:=ζf.1 hc;cases e
  | rangeFunc g ps aw bw=>
   simp only[aM]at hc;split at hc
   ·simp at hc
   ·split at hc <;> simp at hc
  | _=>simp[aM]at hc
 | loop a iha=>
  intro ro code hc;simp only[erase]at hc
  cases code with
  | loop ca=>
   simp only[aM]at hc;obtain⟨xa,ha,e⟩:=ζf.1 hc;simp only[RC.loop.injEq]at e;subst e;have:=Nx (iha ro ca ha);intro st o st' h;simp only[bn]at h;exact this st o st' h
  | region id ops draw=>
   simp only[aM]at hc;split at hc
   ·split at hc
    ·obtain⟨_,_,e⟩:=ζf.1 hc;cases e
    ·simp at hc
   ·obtain⟨_,_,e⟩:=ζf.1 hc;cases e
  | seq a b=>simp only[aM]at hc;split at hc <;> simp at hc
  | cond x a b=>simp only[aM]at hc;split at hc <;> simp at hc
  | block id b=>simp only[aM]at hc;obtain⟨_,_,e⟩:=ζf.1 hc;cases e
  | rangeFunc g ps aw bw=>
   simp only[aM]at hc;split at hc
   ·simp at hc
   ·split at hc <;> simp at hc
  | _=>simp[aM]at hc
 | each x ps a b iha ihb=>
  intro ro code hc;simp only[erase]at hc
  cases code with
  | rangeFunc g ps' aw bw=>
   simp only[aM]at hc;split at hc
   ·simp at hc
   ·rename_i hro;simp only[Bool.or_eq_true,not_or,Bool.not_eq_true,Bool.not_eq_false']at hro;obtain⟨rfl,hps⟩:=hro;split at hc
    ·rename_i xg xa xb hg ha hb;simp only[ζa,RC.each.injEq]at hc;obtain⟨rfl,rfl,rfl,rfl⟩:=hc;have:=Ow gd hI hps hg (iha true aw ha) (ihb true bw hb);intro st o st' h;simp only[bn]at h;exact this st o st' h
    ·simp at hc
  | region id ops draw=>
   simp only[aM]at hc;split at hc
   ·split at hc
    ·obtain⟨_,_,e⟩:=ζf.1 hc;cases e
    ·simp at hc
   ·obtain⟨_,_,e⟩:=ζf.1 hc;cases e
  | seq a b=>simp only[aM]at hc;split at hc <;> simp at hc
  | cond x a b=>simp only[aM]at hc;split at hc <;> simp at hc
  | block id b=>simp only[aM]at hc;obtain⟨_,_,e⟩:=ζf.1 hc;cases e
  | loop b=>simp only[aM]at hc;obtain⟨_,_,e⟩:=ζf.1 hc;cases e
  | _=>simp[aM]at hc
 | exit id=>
  intro ro code hc st o st' h J ν Z F H y r j;simp only[bn,ζa,ζc]at h;obtain⟨rfl,rfl⟩:=h;simp only[erase]at hc;have:∀k,exec S.E (run S.E k) k ro X.nt code F H=some (.exit id,F,H):=fun k=>by
   cases code with
   | exit id'=>simp only[aM,ζa,RC.exit.injEq]at hc;subst hc;rfl
   | region id ops draw=>
    simp only[aM]at hc;split at hc
    ·split at hc
     ·obtain⟨_,_,e⟩:=ζf.1 hc;cases e
     ·simp at hc
    ·obtain⟨_,_,e⟩:=ζf.1 hc;cases e
   | seq a b=>simp only[aM]at hc;split at hc <;> simp at hc
   | cond x a b=>simp only[aM]at hc;split at hc <;> simp at hc
   | block id b=>simp only[aM]at hc;obtain⟨_,_,e⟩:=ζf.1 hc;cases e
   | loop b=>simp only[aM]at hc;obtain⟨_,_,e⟩:=ζf.1 hc;cases e
   | rangeFunc g ps aw bw=>
    simp only[aM]at hc;split at hc
    ·simp at hc
    ·split at hc <;> simp at hc
   | _=>simp[aM]at hc
  exact⟨0,F,H,ν,Z,fun k _=>this k,r,j,.refl⟩
 | ret=>
  intro ro code hc st o st' h J ν Z F H y r j;simp only[bn,ζa,ζc]at h;obtain⟨rfl,rfl⟩:=h;simp only[erase]at hc;have:∀k,exec S.E (run S.E k) k ro X.nt code F H=some (.ret,F,H):=fun k=>by
   cases code with
   | ret=>rfl
   | region id ops draw=>
    simp only[aM]at hc;split at hc
    ·split at hc
     ·obtain⟨_,_,e⟩:=ζf.1 hc;cases e
     ·simp at hc
    ·obtain⟨_,_,e⟩:=ζf.1 hc;cases e
   | seq a b=>simp only[aM]at hc;split at hc <;> simp at hc
   | cond x a b=>simp only[aM]at hc;split at hc <;> simp at hc
   | block id b=>simp only[aM]at hc;obtain⟨_,_,e⟩:=ζf.1 hc;cases e
   | loop b=>simp only[aM]at hc;obtain⟨_,_,e⟩:=ζf.1 hc;cases e
   | rangeFunc g ps aw bw=>
    simp only[aM]at hc;split at hc
    ·simp at hc
    ·split at hc <;> simp at hc
   | _=>simp[aM]at hc
  exact⟨0,F,H,ν,Z,fun k _=>this k,r,j,.refl⟩
 | gh x a iha=>
  intro ro code hc;simp only[erase]at hc;intro st o st' h J ν Z F H y r j;simp only[bn]at h;obtain⟨st1,h1,h2⟩:=ζg.1 h;obtain⟨ν1,Z1,g1,g2,g3⟩:=Fix.ghost r y j h1;obtain⟨n,F',H',ν',Z',e1,e2,e3,e4⟩:=iha ro code hc st1 o st' h2 J ν1 Z1 F H (by rw[g3.more,g3.yid];exact y) g1 g2
  exact⟨n,F',H',ν',Z',e1,e2,e3,g3.trans e4⟩
 | hg a x iha=>
  intro ro code hc;simp only[erase]at hc;intro st o st' h J ν Z F H y r j;simp only[bn]at h;split at h
  ·rename_i st1 hs;obtain⟨st2,h1,e⟩:=ζf.1 h;simp only[ζc]at e;obtain⟨rfl,rfl⟩:=e;obtain⟨n,F',H',ν',Z',e1,e2,e3,e4⟩:=iha ro code hc st .norm st1 hs J ν Z F H y r j;obtain⟨ν1,Z1,g1,g2,g3⟩:=Fix.ghost e2 (by rw[e4.more,e4.yid];exact y) e3 h1
   exact⟨n,F',H',ν1,Z1,e1,g1,g2,e4.trans g3⟩
  ·exact iha ro code hc st o st' h J ν Z F H y r j
end
end Go.VE
