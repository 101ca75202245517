/-
 The second layer, part 1: named objects in the place of rows.
-/
import Derived.Test.YtnfakljmdnbipaaV2
set_option linter.all false
namespace Go.VE
inductive Fl where|nil|emp|row|part
 deriving DecidableEq,Inhabited
inductive SV where
 | v (x:V)
 | own (d:Nat)
 | ptr (d off:Nat)
 | el (d i off:Nat)
 | mp (d:Nat)
 | clo (f:FuncId) (a b:List SV)
 | tup (l:List SV)
 | yl (id:Nat)
 deriving Inhabited
inductive aL where
 | sl (k:Fl) (es:Nat) (xs:List (List V))
 | box (cs:List SV)
 | mp (kvs:List (V×V))
abbrev Tb (α:Type):=List (Nat×α)
def ak {α:Type}:Tb α→Nat→Option α
 | [],_=>none
 | (k,v)::r,n=>if k=n then some v else ak r n
def bl {α:Type}:Tb α→Nat→α→Tb α
 | [],n,v=>[(n,v)]
 | (k,x)::r,n,v=>if k=n then(k,v)::r else(k,x)::bl r n v
def fN {α:Type} (n:Nat):Tb α→Tb α
 | []=>[]
 | (k,x)::r=>if k=n then fN n r else(k,x)::fN n r
def tq {α:Type}:List Nat→Tb α→Tb α
 | [],g=>g
 | d::ds,g=>tq ds (fN d g)
def ri {α:Type}:Tb α→List Nat→List α→Tb α
 | g,p::ps,v::vs=>ri (bl g p v) ps vs
 | g,_,_=>g
def uY {α:Type} (g:Tb α):List Nat→Option (Tb α)
 | []=>some []
 | n::r=>match ak g n,uY g r with
  | some v,some t=>some ((n,v)::t)
  | _,_=>none
structure St where
 g:Tb SV
 m:Tb aL
 pin:List Nat
 want:List (List V)
 more:Bool
 yid:Nat
structure Sys where
 E:Env
 N:Nat→FuncId
 items:FuncId→List V→List V→Option (List (List V))
 tI:FuncId→List V→Option V
inductive Arg where
 | s (n:Nat)
 | k (c:V)
 | f (name:Nat)
inductive Loc where
 | s (n:Nat)
 | c (b i:Nat)
inductive Gh where
 | close (d:Nat)
 | closeB (d:Nat)
 | canon (l:Loc) (d:Nat) (es:Nat)
 | keep (gs ms:List Nat)
 | drop (ds:List Nat)
 | closeS (l:Loc)
structure RO where
 dst:Option Nat
 gd:Option (Nat×Bool)
 now:Bool
 k:K
 as:List Arg
 dead:List Nat:=[]
 pre:List Gh:=[]
inductive RC where
 | skip
 | ops (l:List RO)
 | gb (l:List RO)
 | seq (a b:RC)
 | cond (x:Arg) (a b:RC)
 | block (id:Nat) (c:RC)
 | loop (c:RC)
 | each (g:Arg) (ps:List Nat) (a b:RC)
 | exit (id:Nat)
 | ret
 | gh (x:Gh) (c:RC)
 | hg (c:RC) (x:Gh)
inductive RV where
 | s (n:Nat)
 | ld (n size:Nat) (agg:Bool)
structure RF where
 na:Nat
 rs:List RV
 body:RC
mutual
def SV.cz (d:Nat):SV→Bool
 | .v _=>false
 | .own e=>e==d
 | .ptr e _=>e==d
 | .el e _ _=>e==d
 | .mp e=>e==d
 | .clo _ a b=>SV.c_ d a||SV.c_ d b
 | .tup l=>SV.c_ d l
 | .yl _=>false
def SV.c_ (d:Nat):List SV→Bool
 | []=>false
 | x::r=>SV.cz d x||SV.c_ d r
end
def aL.cz (d:Nat):aL→Bool
 | .box cs=>SV.c_ d cs
 | _=>false
def pP (d:Nat):Tb SV→Bool
 | []=>false
 | (_,x)::r=>SV.cz d x||pP d r
def nj (d:Nat):Tb aL→Bool
 | []=>false
 | (_,x)::r=>aL.cz d x||nj d r
def St.new (st:St) (d:Nat):Bool := !(st.pin.contains d)&&(ak st.m d).isNone && !(pP d st.g) && !(nj d st.m)
mutual
def SV.oX (d e:Nat):SV→SV
 | .v x=>.v x
 | .own k=>.own (if k=d then e else k)
 | .ptr k o=>.ptr (if k=d then e else k) o
 | .el k i o=>.el (if k=d then e else k) i o
 | .mp k=>.mp (if k=d then e else k)
 | .clo f a b=>.clo f (SV.qM d e a) (SV.qM d e b)
 | .tup l=>.tup (SV.qM d e l)
 | .yl id=>.yl id
def SV.qM (d e:Nat):List SV→List SV
 | []=>[]
 | x::r=>SV.oX d e x::SV.qM d e r
end
def aL.oX (d e:Nat):aL→aL
 | .box cs=>.box (SV.qM d e cs)
 | o=>o
def wX (d e:Nat):Tb SV→Tb SV
 | []=>[]
 | (n,x)::r=>(n,x.oX d e)::wX d e r
def qG (d e:Nat):Tb aL→Tb aL
 | []=>[]
 | (n,x)::r=>((if n=d then e else n),x.oX d e)::qG d e r
mutual
def SV.sub (d:Nat) (w:V):SV→SV
 | .own k=>if k=d then .v w else .own k
 | .clo f a b=>.clo f (SV.qh d w a) (SV.qh d w b)
 | .tup l=>.tup (SV.qh d w l)
 | x=>x
def SV.qh (d:Nat) (w:V):List SV→List SV
 | []=>[]
 | x::r=>SV.sub d w x::SV.qh d w r
end
mutual
def SV.wK (d:Nat) (cs:List V):SV→SV
 | .ptr k o=>if k=d then(if o≤cs.length then .v (.fptr (cs.drop o))else .ptr k o)else .ptr k o
 | .clo f a b=>.clo f (SV.nC d cs a) (SV.nC d cs b)
 | .tup l=>.tup (SV.nC d cs l)
 | x=>x
def SV.nC (d:Nat) (cs:List V):List SV→List SV
 | []=>[]
 | x::r=>SV.wK d cs x::SV.nC d cs r
end
def wB (f:SV→SV):Tb SV→Tb SV
 | []=>[]
 | (n,x)::r=>(n,f x)::wB f r
def mapM (f:List SV→List SV):Tb aL→Tb aL
 | []=>[]
 | (n,.box cs)::r=>(n,.box (f cs))::mapM f r
 | (n,o)::r=>(n,o)::mapM f r
mutual
def SV.names:SV→List Nat
 | .own d|.ptr d _|.el d _ _|.mp d=>[d]
 | .clo _ a b=>SV.sA a++SV.sA b
 | .tup l=>SV.sA l
 | _=>[]
def SV.sA:List SV→List Nat
 | []=>[]
 | x::r=>SV.names x++SV.sA r
end
def kU:Tb SV→List Nat
 | []=>[]
 | (_,x)::r=>SV.names x++kU r
def d_:List SV→Option (List V)
 | []=>some []
 | .v x::r=>(d_ r).map (x::·)
 | _::_=>none
def kM (k:Fl) (es:Nat) (xs:List (List V)):V:=
 match k with
 | .nil=>.ay
 | .emp=>.dY
 | _=>.fsl es xs
mutual
def V.lvl:Nat→V→Bool
 | n,.fsl _ xs=>match n with|0=>false|n+1=>V.jP n xs
 | n,.fptr cs=>match n with|0=>false|n+1=>V.dc n cs
 | n,.fmap kvs=>match n with|0=>false|n+1=>V.nv n kvs
 | n,.agg cs=>match n with|0=>false|n+1=>V.dc n cs
 | n,.tup cs=>match n with|0=>false|n+1=>V.dc n cs
 | n,.clo _ a b=>match n with|0=>false|n+1=>V.dc n a&&V.dc n b
 | _,_=>true
def V.dc:Nat→List V→Bool
 | _,[]=>true
 | n,x::r=>V.lvl n x&&V.dc n r
def V.jP:Nat→List (List V)→Bool
 | _,[]=>true
 | n,x::r=>V.dc n x&&V.jP n r
def V.nv:Nat→List (V×V)→Bool
 | _,[]=>true
 | n,(k,x)::r=>V.lvl n k&&V.lvl n x&&V.nv n r
end
mutual
def dI (m:Tb aL):Nat→SV→Option V
 | _,.v x=>some x
 | _,.own d=>match ak m d with
  | some (.sl k es xs)=>some (kM k es xs)
  | _=>none
 | n+1,.ptr d o=>match ak m d with
  | some (.box cs)=>match cj m n cs with
   | some xs=>if o≤xs.length then some (.fptr (xs.drop o))else none
   | none=>none
  | _=>none
 | _,.mp d=>match ak m d with
  | some (.mp kvs)=>some (.fmap kvs)
  | _=>none
 | n+1,.clo f a b=>match cj m n a,cj m n b with
  | some x,some y=>some (.clo f x y)
  | _,_=>none
 | n+1,.tup l=>(cj m n l).map .tup
 | _,_=>none
def cj (m:Tb aL):Nat→List SV→Option (List V)
 | _,[]=>some []
 | n,x::r=>match dI m n x,cj m n r with
  | some y,some s=>some (y::s)
  | _,_=>none
end
end Go.VE
namespace Go.VE
mutual
def V.bg:V→Bool
 | .hsl ..|.hptr ..|.yld ..|.hmap ..=>false
 | .fsl _ xs=>V.kr xs
 | .fptr cs=>V.bR cs
 | .fmap kvs=>V.qP kvs
 | .clo _ a b=>V.bR a&&V.bR b
 | .agg cs=>V.bR cs
 | .tup cs=>V.bR cs
 | _=>true
def V.bR:List V→Bool
 | []=>true
 | x::r=>V.bg x&&V.bR r
def V.kr:List (List V)→Bool
 | []=>true
 | x::r=>V.bR x&&V.kr r
def V.qP:List (V×V)→Bool
 | []=>true
 | (k,x)::r=>V.bg k&&V.bg x&&V.qP r
end
abbrev gq:=Tb aL
abbrev ck:=FuncId→List SV→gq→Option (List SV×gq)
def mD (N:Nat→FuncId) (g:Tb SV):Arg→Option SV
 | .s n=>ak g n
 | .k c=>some (.v c)
 | .f s=>some (.v (.clo (N s) [] []))
def bu (N:Nat→FuncId) (g:Tb SV):List Arg→Option (List SV)
 | []=>some []
 | x::r=>match mD N g x,bu N g r with
  | some v,some vs=>some (v::vs)
  | _,_=>none
def b_:Fl→Bool
 | .row|.part=>true
 | _=>false
def vn (N:Nat→FuncId) (m:Tb aL):qH→List SV→Option SV
 | .id,[x]=>some x
 | .nilc,[.ptr d o]=>if(ak m d).isSome then some (.ptr d o)else none
 | .nilc,[.el d i o]=>if(ak m d).isSome then some (.el d i o)else none
 | .pick,[.v (.bool t),a,b]=>some (if t then a else b)
 | .bin (some .slice) _ .eql,[.own d,.v .ay]=>match ak m d with
  | some (.sl k _ _)=>if k=.emp then none else some (.v (.bool (k==.nil)))
  | _=>none
 | .bin (some .slice) _ .neq,[.own d,.v .ay]=>match ak m d with
  | some (.sl k _ _)=>if k=.emp then none else some (.v (.bool (!(k==.nil))))
  | _=>none
 | .fieldAddr off,[.ptr d o]=>if(ak m d).isSome then some (.ptr d (o+off))else none
 | .fieldAddr off,[.el d i o]=>if(ak m d).isSome then some (.el d i (o+off))else none
 | .idxS size,[.own d,.v (.int _ i)]=>match ak m d with
  | some (.sl k es xs)=>if b_ k∧es=size∧0≤i∧i.toNat<xs.length then some (.el d i.toNat 0)else none
  | _=>none
 | .idxA len size,[.ptr d o,.v (.int _ i)]=>if 0≤i∧i<len∧(ak m d).isSome then some (.ptr d (o+i.toNat*size))else none
 | .idxA len size,[.el d j o,.v (.int _ i)]=>if 0≤i∧i<len∧(ak m d).isSome then some (.el d j (o+i.toNat*size))else none
 | .lenSl,[.own d]=>match ak m d with
  | some (.sl _ _ xs)=>some (.v (.int .i64 xs.length))
  | _=>none
 | .clo name k,vs=>some (.clo (N name) (vs.take k) (vs.drop k))
 | .ext i,[.tup l]=>l[i]?
 | _,_=>none
def hY (N:Nat→FuncId) (m:Tb aL) (p:qH) (svs:List SV):Option SV:=
 match d_ svs with
 | some xs=>(aI N p xs).map .v
 | none=>vn N m p svs
def uR (size:Nat) (agg:Bool) (cs:List SV):Option SV:=
 if cs.length=size then
  if agg then(d_ cs).map fun xs=>.v (.agg xs)
  else match cs with
   | [x]=>some x
   | _=>none
 else none
def lQ (m:Tb aL):FF→List SV→Option SV
 | .load size agg,[.ptr d o]=>match ak m d with
  | some (.box cs)=>uR size agg ((cs.drop o).take size)
  | _=>none
 | .load size agg,[.el d i o]=>match ak m d with
  | some (.sl _ _ xs)=>match xs[i]? with
   | some cs=>((cut cs o size).bind (mk agg)).map .v
   | none=>none
  | _=>none
 | .load size agg,[.v p]=>((dX [] p size).bind (mk agg)).map .v
 | .lookup kk z ok,[.mp d,.v k]=>match ak m d with
  | some (.mp kvs)=>if kV kk k then match fQ k kvs 0 with
   | some (some (_,v))=>some (.v (if ok then .tup [v,.bool true]else v))
   | some none=>some (.v (if ok then .tup [z,.bool false]else z))
   | none=>none
   else none
  | _=>none
 | .lookup kk z ok,[.v p,.v k]=>(fu [] (.lookup kk z ok) [p,k]).map .v
 | _,_=>none
def eO (fr:List Nat):List SV→Bool
 | []=>true
 | .v _::r=>eO fr r
 | .ptr d _::r => !(fr.contains d)&&eO fr r
 | .el d _ _::r => !(fr.contains d)&&eO fr r
 | .mp d::r => !(fr.contains d)&&eO fr r
 | _=>false
def qb (m:Tb aL):SV→Bool
 | .own d|.ptr d _|.el d _ _|.mp d=>(ak m d).isSome
 | .clo ..=>true
 | _=>false
def kT (m:Tb aL) (a:GP) (svs:List SV) (d:Nat):Option (aL×SV):=
 match a,svs with
 | .alloc _ zero,[]=>some (.box (zero.map .v),.ptr d 0)
 | .box,[.v x]=>if x.cells.all V.one then some (.box (x.cells.map .v),.ptr d 0)else none
 | .box,[x]=>if qb m x then some (.box [x],.ptr d 0)else none
 | .makeSl size zero,[.v (.int k n),.v (.int k' c)]=>
  if k=.i64∧k'=.i64∧0≤n∧n≤c∧c≤2147483648 then some (.sl (if n=c then .row else .part) size (List.replicate n.toNat zero),.own d)else none
 | .buildSl size len zero idx,vs=>match d_ vs with
  | some xs=>if idx.length=xs.length then(fH size (List.replicate len zero) (idx.zip xs)).map fun ys=>(.sl .row size ys,.own d)else none
  | none=>none
 | .makeMap,[]=>some (.mp [],.mp d)
 | _,_=>none
def lp (m:Tb aL) (size:Nat):SV→Option (List (List V))
 | .own d=>match ak m d with
  | some (.sl k es xs)=>if b_ k then(if es=size then some xs else none)else some []
  | _=>none
 | .v .ay=>some []
 | .v .dY=>some []
 | .v (.fsl es xs)=>if es=size then some xs else none
 | _=>none
def zk:SV→Bool
 | .own _|.v .ay|.v .dY=>true
 | _=>false
def mH (m:Tb aL) (size o:Nat) (sv:SV) (cs:List SV):Option (List SV):=
 match sv with
 | .v x=>if x.cells.length=size∧o+size≤cs.length∧x.cells.all V.one=true then some (cs.take o++x.cells.map .v++cs.drop (o+size))else none
 | x=>if qb m x=true∧size=1∧o+1≤cs.length then some (cs.take o++[x]++cs.drop (o+1))else none
def giveUp (m:Tb aL):SV→Tb aL
 | .own d=>fN d m
 | _=>m
def Hw (m:Tb aL) (d:Nat):SV→Bool
 | .ptr d' _=>d' != d&&(match ak m d' with|some (.box _)=>true|_=>false)
 | .v (.fptr _)=>true
 | _=>false
def kI (st:St) (dst:Option Nat):Du→List SV→Option (SV×St)
 | .store size,[.ptr d o,x]=>match ak st.m d with
  | some (.box cs)=>(mH st.m size o x cs).map fun cs=>(.v .undef,{ st with m:=bl st.m d (.box cs) })
  | _=>none
 | .store size,[.el d i o,.v x]=>match ak st.m d with
  | some (.sl k es xs)=>match xs[i]? with
   | some cs=>if x.cells.length=size∧o+size≤cs.length∧x.cells.all V.one=true then
    some (.v .undef,{ st with m:=bl st.m d (.sl k es (xs.set i (cs.take o++x.cells++cs.drop (o+x.cells.length)))) })else none
   | none=>none
  | _=>none
 | .mapUp kk,[.mp d,.v k,.v x]=>match ak st.m d with
  | some (.mp kvs)=>if kV kk k then(kX k x kvs).map fun kvs=>(.v .undef,{ st with m:=bl st.m d (.mp kvs) })else none
  | _=>none
 | .append size,[s,x]=>match lp st.m size s,lp st.m size x with
  | some _,some []=>some (s,st)
  | some xs,some ys=>
   if xs.length+ys.length≤2147483648∧zk s=true then
    let m1:=giveUp st.m s
    match dst with
    | some t=>if St.new { st with m:=m1 } t then some (.own t,{ st with m:=bl m1 t (.sl .row size (xs++ys)) })else none
    | none=>none
   else none
  | _,_=>none
 | .storeF size,.ptr d o::x::l=>if l.all (Hw st.m d)=true then match ak st.m d with
  | some (.box cs)=>(mH st.m size o x cs).map fun cs=>(.v .undef,{ st with m:=bl st.m d (.box cs) })
  | _=>none
  else none
 | _,_=>none
def uF (st:St) (dst:Option Nat) (size:Nat) (lo hi:Bool) (d:Nat) (bs:List SV):Option (SV×St):=
 match ak st.m d,d_ bs,dst with
 | some (.sl k es xs),some ys,some t=>
  if b_ k=true∧es=size then
   (jS lo hi ys).bind fun (l,h)=>(dR xs.length l h).bind fun (l,h)=>
    let m1:=fN d st.m
    if St.new { st with m:=m1 } t then some (.own t,{ st with m:=bl m1 t (.sl .part es ((xs.take h).drop l)) })else none
  else none
 | _,_,_=>none
def Pn:List SV→SV
 | [x]=>x
 | l=>.tup l
def jc (m:Tb aL):List SV→Option gq
 | []=>some []
 | .v _::r=>jc m r
 | .own d::r=>match jc m r,ak m d with
  | some os,some (.sl k es xs)=>some ((d,.sl k es xs)::os)
  | _,_=>none
 | .ptr d _::r=>match jc m r,ak m d with
  | some os,some (.box cs)=>if(d_ cs).isSome then some ((d,.box cs)::os)else none
  | _,_=>none
 | _=>none
def so:aL→Bool
 | .box cs=>(d_ cs).isSome
 | _=>true
def oq (m':gq):List Nat→Tb aL→Option (Tb aL)
 | [],m=>some m
 | d::r,m=>match ak m' d with
  | some ob=>if so ob then oq m' r (bl m d ob)else none
  | none=>none
def nO (xs:List (List V)):Bool:=xs.all fun x=>x.all V.scalar
def iq (S:Sys) (c:ck) (dst:Option Nat) (dr now:Bool) (old:List SV→Bool) (f:FuncId) (args:List SV) (st:St):Option (SV×St):=
 if S.E.keep f then
  if now then
   if S.E.own f then
    match cj st.m 8 args with
    | some as=>if V.dc 8 as then
     match c f (as.map .v) []with
     | some (rs,m')=>match d_ rs with
      | some ys=>if(result ys).scalar then some (.v (result ys),st)else none
      | none=>match rs,dst with
       | .own e::rest,some t=>match ak m' e,d_ rest with
        | some (.sl .row es xs),some ys=>
         if V.cE ys&&nO xs&&st.new t then
          some (Pn (.own t::ys.map .v),{ st with m:=bl st.m t (.sl .row es xs) })
         else none
        | some (.sl .nil _ _),some ys=>if V.cE ys then some (.v (result (.ay::ys)),st)else none
        | some (.sl .emp _ _),some ys=>if V.cE ys then some (.v (result (.dY::ys)),st)else none
        | _,_=>none
       | _,_=>none
     | none=>none
     else none
    | none=>none
   else if dr then none else match jc st.m args with
    | some os=>match c f args os with
     | some (rs,m')=>match d_ rs,oq m' (os.map (·.1)) st.m with
      | some ys,some m2=>some (.v (result ys),{ st with m:=m2 })
      | _,_=>none
     | none=>none
    | none=>none
  else none
 else match cj st.m 8 args with
  | some as=>if V.dc 8 as&&(now||old args)then
   match c f (as.map .v) []with
   | some (rs,m')=>match cj m' 8 rs with
    | some ys=>if V.lvl 8 (result ys)&&((result ys).scalar||(d_ args).isSome)then some (.v (result ys),st)else none
    | none=>none
   | none=>none
   else none
  | none=>none
def gY (m:Tb aL) (fr:List Nat) (args:List SV):Bool:=fr.all fun d => !(SV.c_ d args) && !(nj d m)
def qW:K→Bool
 | .p (.build zero _)=>V.bR zero
 | .r (.lookup _ z _)=>z.bg
 | .a (.alloc _ zero)=>V.bR zero&&zero.all V.one
 | .a (.makeSl _ zero)=>V.bR zero
 | .a (.buildSl _ _ zero _)=>V.bR zero
 | _=>true
def kJ (S:Sys) (c:ck) (dr:Bool) (fr:List Nat) (o:RO) (st:St):Option (SV×St):=
 match bu S.N st.g o.as with
 | some svs=>match o.k with
  | .p (.slice size lo hi)=>match svs with
   | .own d::bs=>if dr then none else uF st o.dst size lo hi d bs
   | svs=>(hY S.N st.m (.slice size lo hi) svs).map fun x=>(x,st)
  | .p p=>(hY S.N st.m p svs).map fun x=>(x,st)
  | .r r=>if !dr||o.now||eO fr svs then(lQ st.m r svs).map fun x=>(x,st)else none
  | .a a=>match o.dst with
   | some d=>if st.new d then(kT st.m a svs d).map fun (ob,x)=>(x,{ st with m:=bl st.m d ob })else none
   | none=>none
  | .l l=>if !dr||o.now then kI st o.dst l svs else none
  | .c=>match svs with
   | .clo f a b::vs=>iq S c o.dst dr (!dr||o.now) (gY st.m fr) f (a++vs++b) st
   | .v (.clo f a b)::vs=>iq S c o.dst dr (!dr||o.now) (gY st.m fr) f (a.map .v++vs++b.map .v) st
   | _=>none
 | none=>none
def cO (st:St) (dst:Option Nat) (x:SV):St:=
 match dst with
 | none=>st
 | some d=>{ st with g:=bl st.g d x }
def wanted (g:Tb SV):Option (Nat×Bool)→Option Bool
 | none=>some true
 | some (s,b)=>match ak g s with
  | some (.v (.bool c))=>some (c==b)
  | some (.v _)=>some false
  | _=>none
def sO (o:RO):Option Nat:=
 match o.k with
 | .p _|.r _=>none
 | _=>o.dst
def mq (fr:List Nat) (o:RO):List Nat:=
 match sO o with
 | some d=>d::fr
 | none=>fr
end Go.VE
namespace Go.VE
def aq (H:an) (id:Nat):Option (Nat×List (List V)):=(H[id]?).bind Ob.rows
mutual
theorem V.jI:∀{x:V},x.bg=true→x.closed=true
 | .hsl ..,h|.hptr ..,h|.yld _,h|.hmap _,h=>by simp[V.bg]at h
 | .fsl ..,_|.fptr ..,_|.fmap ..,_=>rfl
 | .bool _,_|.int ..,_|.str _,_|.dY,_|.ay,_|.cq,_|.eT,_|.aO,_=>rfl
 | .clo _ a b,h=>by
  simp only[V.bg,Zj]at h;simp only[V.closed,Zj];exact⟨V.lu h.1,V.lu h.2⟩
 | .agg cs,h=>by simp only[V.bg]at h;simp only[V.closed];exact V.lu h
 | .tup cs,h=>by simp only[V.bg]at h;simp only[V.closed];exact V.lu h
theorem V.lu:∀{l:List V},V.bR l=true→V.iY l=true
 | [],_=>rfl
 | x::r,h=>by
  simp only[V.bR,Zj]at h;simp only[V.iY,Zj];exact⟨V.jI h.1,V.lu h.2⟩
end
theorem gZ:∀{l:List V},V.bR l=true↔∀(j:Nat) u,l[j]? = some u→u.bg=true
 | []=>by simp[V.bR]
 | x::l=>by
  simp only[V.bR,Zj,gZ (l:=l)];constructor
  ·rintro⟨h1,h2⟩ j u hu
   cases j with
   | zero=>simp at hu;subst hu;exact h1
   | succ j=>exact h2 j u (by simpa using hu)
  ·intro h;exact⟨h 0 x rfl,fun j u hu=>h (j+1) u (by simpa using hu)⟩
theorem jA:∀{l:List (List V)},V.kr l=true↔∀(j:Nat) u,l[j]? = some u→V.bR u=true
 | []=>by simp[V.kr]
 | x::l=>by
  simp only[V.kr,Zj,jA (l:=l)];constructor
  ·rintro⟨h1,h2⟩ j u hu
   cases j with
   | zero=>simp at hu;subst hu;exact h1
   | succ j=>exact h2 j u (by simpa using hu)
  ·intro h;exact⟨h 0 x rfl,fun j u hu=>h (j+1) u (by simpa using hu)⟩
theorem Ax:∀{l:List (V×V)},V.qP l=true↔∀(j:Nat) u,l[j]? = some u→u.1.bg=true∧u.2.bg=true
 | []=>by simp[V.qP]
 | (k,x)::l=>by
  simp only[V.qP,Zj,Ax (l:=l)];constructor
  ·rintro⟨h1,h2⟩ j u hu
   cases j with
   | zero=>simp at hu;subst hu;exact h1
   | succ j=>exact h2 j u (by simpa using hu)
  ·intro h;exact⟨h 0 (k,x) rfl,fun j u hu=>h (j+1) u (by simpa using hu)⟩
theorem sR {l:List V} (n:Nat) (h:V.bR l=true):V.bR (l.drop n)=true:=
 gZ.2 fun j u hu=>gZ.1 h (n+j) u (by rw[List.getElem?_drop]at hu;exact hu)
inductive FR (H:an) (Z:Nat→Prop):V→V→Prop
 | same (x:V) (h:x.bg=true):FR H Z x x
 | fsl (es:Nat) (xs:List (List V)) (id off:Nat) (ys:List (List V)) (hz:Z id) (hr:aq H id=some (es,ys)) (hl:off+xs.length≤ys.length)
  (hc:∀(i:Nat) a b,xs[i]? = some a→ys[off+i]? = some b→a.length=b.length)
  (hv:∀(i j:Nat) a b u v,xs[i]? = some a→ys[off+i]? = some b→a[j]? = some u→b[j]? = some v→FR H Z u v):FR H Z (.fsl es xs) (.hsl id es off xs.length)
 | fptr (xs:List V) (id el off es:Nat) (ys:List (List V)) (cs:List V) (hz:Z id) (hr:aq H id=some (es,ys)) (he:ys[el]? = some cs) (ho:off≤cs.length) (hx:xs.length=cs.length-off)
  (hv:∀(j:Nat) u v,xs[j]? = some u→cs[off+j]? = some v→FR H Z u v):FR H Z (.fptr xs) (.hptr id el off)
 | clo (f:FuncId) (a b a' b':List V) (ha:a.length=a'.length) (hb:b.length=b'.length) (hva:∀(j:Nat) u v,a[j]? = some u→a'[j]? = some v→FR H Z u v) (hvb:∀(j:Nat) u v,b[j]? = some u→b'[j]? = some v→FR H Z u v):FR H Z (.clo f a b) (.clo f a' b')
 | agg (a a':List V) (ha:a.length=a'.length) (hva:∀(j:Nat) u v,a[j]? = some u→a'[j]? = some v→FR H Z u v):FR H Z (.agg a) (.agg a')
 | tup (a a':List V) (ha:a.length=a'.length) (hva:∀(j:Nat) u v,a[j]? = some u→a'[j]? = some v→FR H Z u v):FR H Z (.tup a) (.tup a')
def cW (H:an) (Z:Nat→Prop) (xs ys:List V):Prop:=xs.length=ys.length∧∀(j:Nat) u v,xs[j]? = some u→ys[j]? = some v→FR H Z u v
def fG (H:an) (Z:Nat→Prop) (xs ys:List (List V)):Prop:=xs.length=ys.length∧∀(j:Nat) u v,xs[j]? = some u→ys[j]? = some v→cW H Z u v
section
variable {H H':an} {Z Z':Nat→Prop}
theorem FR.mono (h:∀id,Z id→Z' id∧aq H' id=aq H id) {x y:V} (r:FR H Z x y):FR H' Z' x y:=by
 induction r with
 | same x h=>exact .same x h
 | fsl es xs id off ys hz hr hl hc hv ih=>exact .fsl es xs id off ys (h id hz).1 (by rw[(h id hz).2];exact hr) hl hc ih
 | fptr xs id el off es ys cs hz hr he ho hx hv ih=>exact .fptr xs id el off es ys cs (h id hz).1 (by rw[(h id hz).2];exact hr) he ho hx ih
 | clo f a b a' b' ha hb hva hvb iha ihb=>exact .clo f a b a' b' ha hb iha ihb
 | agg a a' ha hva iha=>exact .agg a a' ha iha
 | tup a a' ha hva iha=>exact .tup a a' ha iha
theorem cW.mono (h:∀id,Z id→Z' id∧aq H' id=aq H id) {x y:List V} (r:cW H Z x y):cW H' Z' x y:=⟨r.1,fun j u v a b=>(r.2 j u v a b).mono h⟩
theorem fG.mono (h:∀id,Z id→Z' id∧aq H' id=aq H id) {x y:List (List V)} (r:fG H Z x y):fG H' Z' x y:=⟨r.1,fun j u v a b=>(r.2 j u v a b).mono h⟩
theorem cW.nil:cW H Z [] []:=⟨rfl,by simp⟩
theorem cW.cons {x y:V} {xs ys:List V} (h:FR H Z x y) (r:cW H Z xs ys):cW H Z (x::xs) (y::ys):=by
 refine⟨by simp[r.1],fun j u v hu hv => ?_⟩
 cases j with
 | zero=>simp at hu hv;subst hu;subst hv;exact h
 | succ j=>exact r.2 j u v (by simpa using hu) (by simpa using hv)
theorem cW.inv {x:V} {xs ws:List V} (r:cW H Z (x::xs) ws):∃y ys,ws=y::ys∧FR H Z x y∧cW H Z xs ys:=by
 cases ws with
 | nil=>have:=r.1;simp at this
 | cons y ys=>
  refine⟨y,ys,rfl,r.2 0 x y rfl rfl,by have:=r.1;simpa using this,fun j u v hu hv=>r.2 (j+1) u v (by simpa using hu) (by simpa using hv)⟩
theorem cW.cS {ws:List V} (r:cW H Z [] ws):ws=[]:=by
 have:=r.1;exact List.length_eq_zero_iff.1 this.symm
theorem cW.get {xs ys:List V} (r:cW H Z xs ys) {j:Nat} {u:V} (h:xs[j]? = some u):∃v,ys[j]? = some v∧FR H Z u v:=by
 have hj:j<xs.length:=(Zf.1 h).1;have:j<ys.length:=by rw[←r.1];exact hj
 exact⟨ys[j],Ze this,r.2 j u _ h (Ze this)⟩
theorem fG.get {xs ys:List (List V)} (r:fG H Z xs ys) {j:Nat} {u:List V} (h:xs[j]? = some u):∃v,ys[j]? = some v∧cW H Z u v:=by
 have hj:j<xs.length:=(Zf.1 h).1;have:j<ys.length:=by rw[←r.1];exact hj
 exact⟨ys[j],Ze this,r.2 j u _ h (Ze this)⟩
theorem cW.append {a b c d:List V} (h:cW H Z a b) (k:cW H Z c d):cW H Z (a++c) (b++d):=by
 refine⟨by simp[h.1,k.1],fun j u v hu hv => ?_⟩
 by_cases hj:j<a.length
 ·rw[List.getElem?_append_left hj]at hu;rw[List.getElem?_append_left (by rw[←h.1];exact hj)]at hv
  exact h.2 j u v hu hv
 ·rw[List.getElem?_append_right (by omega)]at hu
  rw[List.getElem?_append_right (by rw[←h.1];omega),←h.1]at hv
  exact k.2 _ u v hu hv
theorem fG.append {a b c d:List (List V)} (h:fG H Z a b) (k:fG H Z c d):fG H Z (a++c) (b++d):=by
 refine⟨by simp[h.1,k.1],fun j u v hu hv => ?_⟩
 by_cases hj:j<a.length
 ·rw[List.getElem?_append_left hj]at hu;rw[List.getElem?_append_left (by rw[←h.1];exact hj)]at hv
  exact h.2 j u v hu hv
 ·rw[List.getElem?_append_right (by omega)]at hu
  rw[List.getElem?_append_right (by rw[←h.1];omega),←h.1]at hv
  exact k.2 _ u v hu hv
theorem cW.take {a b:List V} (h:cW H Z a b) (n:Nat):cW H Z (a.take n) (b.take n):=by
 refine⟨by simp[h.1],fun j u v hu hv => ?_⟩
 rw[List.getElem?_take]at hu hv;split at hu
 ·rename_i hj;rw[if_pos hj]at hv;exact h.2 j u v hu hv
 ·simp at hu
theorem cW.drop {a b:List V} (h:cW H Z a b) (n:Nat):cW H Z (a.drop n) (b.drop n):=by
 refine⟨by simp[h.1],fun j u v hu hv => ?_⟩
 rw[List.getElem?_drop]at hu hv;exact h.2 _ u v hu hv
theorem fG.take {a b:List (List V)} (h:fG H Z a b) (n:Nat):fG H Z (a.take n) (b.take n):=by
 refine⟨by simp[h.1],fun j u v hu hv => ?_⟩
 rw[List.getElem?_take]at hu hv;split at hu
 ·rename_i hj;rw[if_pos hj]at hv;exact h.2 j u v hu hv
 ·simp at hu
theorem fG.drop {a b:List (List V)} (h:fG H Z a b) (n:Nat):fG H Z (a.drop n) (b.drop n):=by
 refine⟨by simp[h.1],fun j u v hu hv => ?_⟩
 rw[List.getElem?_drop]at hu hv;exact h.2 _ u v hu hv
theorem cW.set {a b:List V} (h:cW H Z a b) (n:Nat) {x y:V} (hx:FR H Z x y):cW H Z (a.set n x) (b.set n y):=by
 refine⟨by simp[h.1],fun j u v hu hv => ?_⟩
 rw[List.getElem?_set]at hu hv;rw[←h.1]at hv;split at hu
 ·rename_i e;rw[if_pos e]at hv;split at hu
  ·rename_i e2;rw[if_pos e2]at hv;cases hu;cases hv;exact hx
  ·simp at hu
 ·rename_i e;rw[if_neg e]at hv;exact h.2 j u v hu hv
theorem fG.set {a b:List (List V)} (h:fG H Z a b) (n:Nat) {x y:List V} (hx:cW H Z x y):fG H Z (a.set n x) (b.set n y):=by
 refine⟨by simp[h.1],fun j u v hu hv => ?_⟩
 rw[List.getElem?_set]at hu hv;rw[←h.1]at hv;split at hu
 ·rename_i e;rw[if_pos e]at hv;split at hu
  ·rename_i e2;rw[if_pos e2]at hv;cases hu;cases hv;exact hx
  ·simp at hu
 ·rename_i e;rw[if_neg e]at hv;exact h.2 j u v hu hv
theorem cW.same {l:List V} (h:V.bR l=true):cW H Z l l:=
 ⟨rfl,fun j u v hu hv=>by rw[hu]at hv;cases hv;exact .same u (gZ.1 h j u hu)⟩
theorem FR.bg {x y:V} (r:FR H Z x y):x.bg=true:=by
 induction r with
 | same x h=>exact h
 | fsl es xs id off ys hz hr hl hc hv ih=>
  simp only[V.bg];refine jA.2 fun i a ha=>gZ.2 fun j u hu => ?_
  have hi:i<xs.length:=(Zf.1 ha).1;have hb:ys[off+i]? = some ys[off+i]:=Ze (by omega)
  have hj:j<(ys[off+i]).length:=by rw[←hc i a _ ha hb];exact(Zf.1 hu).1
  exact ih i j a _ u _ ha hb hu (Ze hj)
 | fptr xs id el off es ys cs hz hr he ho hx hv ih=>
  simp only[V.bg];refine gZ.2 fun j u hu => ?_
  have hj:j<xs.length:=(Zf.1 hu).1;exact ih j u _ hu (Ze (by omega))
 | clo f a b a' b' ha hb hva hvb iha ihb=>
  simp only[V.bg,Zj];refine⟨gZ.2 fun j u hu => ?_,gZ.2 fun j u hu => ?_⟩
  ·have:j<a'.length:=by rw[←ha];exact(Zf.1 hu).1
   exact iha j u _ hu (Ze this)
  ·have:j<b'.length:=by rw[←hb];exact(Zf.1 hu).1
   exact ihb j u _ hu (Ze this)
 | agg a a' ha hva iha=>
  simp only[V.bg];refine gZ.2 fun j u hu => ?_
  have:j<a'.length:=by rw[←ha];exact(Zf.1 hu).1
  exact iha j u _ hu (Ze this)
 | tup a a' ha hva iha=>
  simp only[V.bg];refine gZ.2 fun j u hu => ?_
  have:j<a'.length:=by rw[←ha];exact(Zf.1 hu).1
  exact iha j u _ hu (Ze this)
theorem FR.closed {x y:V} (r:FR H Z x y):x.closed=true:=V.jI r.bg
theorem cW.bg {xs ys:List V} (r:cW H Z xs ys):V.bR xs=true:=
 gZ.2 fun j u hu=>by obtain⟨v,_,h⟩:=r.get hu;exact h.bg
theorem fG.bg {xs ys:List (List V)} (r:fG H Z xs ys):V.kr xs=true:=
 jA.2 fun j u hu=>by obtain⟨v,_,h⟩:=r.get hu;exact h.bg
theorem FR.bool {b:Bool} {y:V} (r:FR H Z (.bool b) y):y=.bool b:=by cases r;rfl
theorem FR.int {k:IntKind} {n:Int} {y:V} (r:FR H Z (.int k n) y):y=.int k n:=by cases r;rfl
theorem FR.str {s:ByteArray} {y:V} (r:FR H Z (.str s) y):y=.str s:=by cases r;rfl
theorem FR.dY {y:V} (r:FR H Z .dY y):y=.dY:=by cases r;rfl
theorem FR.ay {y:V} (r:FR H Z .ay y):y=.ay:=by cases r;rfl
theorem FR.cq {y:V} (r:FR H Z .cq y):y=.cq:=by cases r;rfl
theorem FR.eT {y:V} (r:FR H Z .eT y):y=.eT:=by cases r;rfl
theorem FR.aO {y:V} (r:FR H Z .aO y):y=.aO:=by cases r;rfl
theorem FR.fmap {kvs:List (V×V)} {y:V} (r:FR H Z (.fmap kvs) y):y=.fmap kvs:=by cases r;rfl
theorem FR.js {a:List V} {y:V} (r:FR H Z (.agg a) y):∃a',y=.agg a'∧cW H Z a a':=by
 cases r with
 | same _ h=>exact⟨a,rfl,.same (by simpa [V.bg]using h)⟩
 | agg _ a' ha hva=>exact⟨a',rfl,ha,hva⟩
theorem FR.lN {a:List V} {y:V} (r:FR H Z (.tup a) y):∃a',y=.tup a'∧cW H Z a a':=by
 cases r with
 | same _ h=>exact⟨a,rfl,.same (by simpa [V.bg]using h)⟩
 | tup _ a' ha hva=>exact⟨a',rfl,ha,hva⟩
theorem FR.iW {f:FuncId} {a b:List V} {y:V} (r:FR H Z (.clo f a b) y):∃a' b',y=.clo f a' b'∧cW H Z a a'∧cW H Z b b':=by
 cases r with
 | same _ h=>
  simp only[V.bg,Zj]at h;exact⟨a,b,rfl,.same h.1,.same h.2⟩
 | clo _ _ _ a' b' ha hb hva hvb=>exact⟨a',b',rfl,⟨ha,hva⟩,⟨hb,hvb⟩⟩
theorem FR.iX {es:Nat} {xs:List (List V)} {y:V} (r:FR H Z (.fsl es xs) y):y=.fsl es xs ∨
 ∃id off ys,y=.hsl id es off xs.length∧Z id∧aq H id=some (es,ys)∧off+xs.length≤ys.length∧fG H Z xs ((ys.drop off).take xs.length):=by
 cases r with
 | same _ h=>exact .inl rfl
 | fsl _ _ id off ys hz hr hl hc hv=>
  refine .inr ⟨id,off,ys,rfl,hz,hr,hl,by simp;omega,fun j u v hu hv' => ?_⟩
  have hj:j<xs.length:=(Zf.1 hu).1;rw[List.getElem?_take,if_pos hj,List.getElem?_drop]at hv';exact⟨hc j u v hu hv',fun i s t hs ht=>hv j i u v s t hu hv' hs ht⟩
theorem FR.DV {es:Nat} {xs:List (List V)} {id off:Nat} {ys:List (List V)} (hz:Z id) (hr:aq H id=some (es,ys)) (hl:off+xs.length≤ys.length) (h:fG H Z xs ((ys.drop off).take xs.length)) :
 FR H Z (.fsl es xs) (.hsl id es off xs.length):=by
 have key:∀(i:Nat) a b,xs[i]? = some a→ys[off+i]? = some b→cW H Z a b:=fun i a b ha hb=>by
  have hj:i<xs.length:=(Zf.1 ha).1;refine h.2 i a b ha ?_;rw[List.getElem?_take,if_pos hj,List.getElem?_drop];exact hb
 exact .fsl es xs id off ys hz hr hl (fun i a b ha hb=>(key i a b ha hb).1) (fun i j a b u v ha hb hu hv=>(key i a b ha hb).2 j u v hu hv)
theorem FR.jh {xs:List V} {y:V} (r:FR H Z (.fptr xs) y):y=.fptr xs ∨
 ∃id el off es ys cs,y=.hptr id el off∧Z id∧aq H id=some (es,ys)∧ys[el]? = some cs∧off≤cs.length∧cW H Z xs (cs.drop off):=by
 cases r with
 | same _ h=>exact .inl rfl
 | fptr _ id el off es ys cs hz hr he ho hx hv=>
  refine .inr ⟨id,el,off,es,ys,cs,rfl,hz,hr,he,ho,by simp[hx],fun j u v hu hv' => ?_⟩
  rw[List.getElem?_drop]at hv';exact hv j u v hu hv'
theorem FR.yA {xs:List V} {id el off es:Nat} {ys:List (List V)} {cs:List V} (hz:Z id) (hr:aq H id=some (es,ys)) (he:ys[el]? = some cs) (ho:off≤cs.length) (h:cW H Z xs (cs.drop off)):FR H Z (.fptr xs) (.hptr id el off):=
 .fptr xs id el off es ys cs hz hr he ho (by have:=h.1;simpa using this) (fun j u v hu hv=>h.2 j u v hu (by rw[List.getElem?_drop];exact hv))
theorem FR.cells {x y:V} (r:FR H Z x y):cW H Z x.cells y.cells:=by
 have one:∀{a b:V},FR H Z a b→cW H Z [a] [b]:=fun h=>.cons h .nil
 cases r with
 | same _ h=>cases x <;> first|exact one (.same _ h)|(simp only[V.bg]at h;exact cW.same h)
 | fsl es xs id off ys hz hr hl hc hv=>exact one (.fsl es xs id off ys hz hr hl hc hv)
 | fptr xs id el off es ys cs hz hr he ho hx hv=>exact one (.fptr xs id el off es ys cs hz hr he ho hx hv)
 | clo f a b a' b' ha hb hva hvb=>exact one (.clo f a b a' b' ha hb hva hvb)
 | agg a a' ha hva=>exact⟨ha,hva⟩
 | tup a a' ha hva=>exact one (.tup a a' ha hva)
theorem FR.one {x y:V} (r:FR H Z x y):y.one=x.one:=by cases r <;> rfl
theorem cW.one:∀{xs ys:List V},cW H Z xs ys→ys.all V.one=xs.all V.one
 | [],ys,r=>by rw[r.cS]
 | x::xs,ws,r=>by
  obtain⟨y,ys,rfl,h,r'⟩:=r.inv;simp only[List.all_cons,h.one,r'.one]
theorem mc:∀{l:List V},V.cE l=true↔∀(j:Nat) u,l[j]? = some u→u.scalar=true
 | []=>by simp[V.cE]
 | x::l=>by
  simp only[V.cE,Zj,mc (l:=l)];constructor
  ·rintro⟨h1,h2⟩ j u hu
   cases j with
   | zero=>simp at hu;subst hu;exact h1
   | succ j=>exact h2 j u (by simpa using hu)
  ·intro h;exact⟨h 0 x rfl,fun j u hu=>h (j+1) u (by simpa using hu)⟩
theorem FR.scalar {x y:V} (r:FR H Z x y):(x.scalar=true→y=x)∧y.scalar=x.scalar:=by
 have key:∀(a a':List V),a.length=a'.length→(∀(j:Nat) u v,a[j]? = some u→a'[j]? = some v→(u.scalar=true→v=u)∧v.scalar=u.scalar)→(V.cE a=true→a'=a)∧V.cE a'=V.cE a:=by
  intro a a' ha ih;have h1:V.cE a=true→a'=a:=by
   intro hs;refine(List.ext_getElem ha fun j h1 h2 => ?_).symm
   exact(((ih j _ _ (Ze h1) (Ze h2)).1 (mc.1 hs j _ (Ze h1)))).symm
  refine⟨h1,?_⟩
  cases hs:V.cE a with
  | true=>rw[h1 hs];exact hs
  | false=>
   cases hs':V.cE a' with
   | false=>rfl
   | true=>
    have:V.cE a=true:=mc.2 fun j u hu=>by
     have hj:j<a'.length:=by rw[←ha];exact(Zf.1 hu).1
     have:=(ih j u _ hu (Ze hj)).2;rw[←this];exact mc.1 hs' j _ (Ze hj)
    rw[this]at hs;cases hs
 induction r with
 | same x h=>exact⟨fun _=>rfl,rfl⟩
 | fsl=>exact⟨fun h=>by simp[V.scalar]at h,rfl⟩
 | fptr=>exact⟨fun h=>by simp[V.scalar]at h,rfl⟩
 | clo=>exact⟨fun h=>by simp[V.scalar]at h,rfl⟩
 | agg a a' ha hva iha=>
  obtain⟨h1,h2⟩:=key a a' ha iha;exact⟨fun h=>by rw[h1 (by simpa [V.scalar]using h)],by simpa [V.scalar]using h2⟩
 | tup a a' ha hva iha=>
  obtain⟨h1,h2⟩:=key a a' ha iha;exact⟨fun h=>by rw[h1 (by simpa [V.scalar]using h)],by simpa [V.scalar]using h2⟩
theorem cW.scalar {a a':List V} (r:cW H Z a a'):(V.cE a=true→a'=a)∧V.cE a'=V.cE a:=by
 obtain⟨h1,h2⟩:=FR.scalar (.tup a a' r.1 r.2:FR H Z (.tup a) (.tup a'));simp only[V.scalar]at h1 h2;exact⟨fun h=>by have:=h1 h;cases this;rfl,h2⟩
theorem mz:∀{l:List V} {a:List Int},gV l=some a→V.cE l=true
 | [],_,_=>rfl
 | x::l,a,h=>by
  unfold gV at h;split at h
  ·rename_i e;cases e
  ·rename_i n r e;cases e;obtain⟨b,hb,_⟩:=Zh.1 h;simp only[V.cE,V.scalar,Bool.true_and];exact mz hb
  ·simp at h
end
end Go.VE
namespace Go.VE
section
variable {H H':an} {Z Z':Nat→Prop}
theorem iC {f:V→Option V}:∀{xs ys:List V},xs.length=ys.length→(∀(j:Nat) u v,xs[j]? = some u→ys[j]? = some v→f v=some u)→jl f ys=some xs
 | [],[],_,_=>rfl
 | [],y::ys,h,_=>by simp at h
 | x::xs,[],h,_=>by simp at h
 | x::xs,y::ys,h,hf=>by
  simp only[jl,hf 0 x y rfl rfl,iC (xs:=xs) (ys:=ys) (by simpa using h) fun j u v hu hv=>hf (j+1) u v (by simpa using hu) (by simpa using hv)]
theorem BD {f:V→Option V}:∀{xs ys:List (List V)},xs.length=ys.length→(∀(j:Nat) u v,xs[j]? = some u→ys[j]? = some v→jl f v=some u)→oD f ys=some xs
 | [],[],_,_=>rfl
 | [],y::ys,h,_=>by simp at h
 | x::xs,[],h,_=>by simp at h
 | x::xs,y::ys,h,hf=>by
  simp only[oD,hf 0 x y rfl rfl,BD (xs:=xs) (ys:=ys) (by simpa using h) fun j u v hu hv=>hf (j+1) u v (by simpa using hu) (by simpa using hv)]
theorem kA:∀{l:List V},V.iY l=true↔∀(j:Nat) u,l[j]? = some u→u.closed=true
 | []=>by simp[V.iY]
 | x::l=>by
  simp only[V.iY,Zj,kA (l:=l)];constructor
  ·rintro⟨h1,h2⟩ j u hu
   cases j with
   | zero=>simp at hu;subst hu;exact h1
   | succ j=>exact h2 j u (by simpa using hu)
  ·intro h;exact⟨h 0 x rfl,fun j u hu=>h (j+1) u (by simpa using hu)⟩
theorem jY:∀{l:List V} {n:Nat},V.dc n l=true↔∀(j:Nat) u,l[j]? = some u→u.lvl n=true
 | [],n=>by simp[V.dc]
 | x::l,n=>by
  simp only[V.dc,Zj,jY (l:=l)];constructor
  ·rintro⟨h1,h2⟩ j u hu
   cases j with
   | zero=>simp at hu;subst hu;exact h1
   | succ j=>exact h2 j u (by simpa using hu)
  ·intro h;exact⟨h 0 x rfl,fun j u hu=>h (j+1) u (by simpa using hu)⟩
theorem Aw:∀{l:List (List V)} {n:Nat},V.jP n l=true↔∀(j:Nat) u,l[j]? = some u→V.dc n u=true
 | [],n=>by simp[V.jP]
 | x::l,n=>by
  simp only[V.jP,Zj,Aw (l:=l)];constructor
  ·rintro⟨h1,h2⟩ j u hu
   cases j with
   | zero=>simp at hu;subst hu;exact h1
   | succ j=>exact h2 j u (by simpa using hu)
  ·intro h;exact⟨h 0 x rfl,fun j u hu=>h (j+1) u (by simpa using hu)⟩
theorem d9 (n:Nat) (H:an) {x:V} (h:x.closed=true):borrow n H x=some x:=by
 cases n <;> simp[borrow,h]
theorem FR.borrow {x y:V} (r:FR H Z x y):∀n,x.lvl n=true→borrow n H y=some x:=by
 induction r with
 | same x h=>exact fun n _=>d9 n H (V.jI h)
 | fsl es xs id off ys hz hr hl hc hv ih=>
  intro n hn
  cases n with
  | zero=>simp[V.lvl]at hn
  | succ n=>
   simp only[V.lvl]at hn;unfold Go.VE.borrow;unfold aq at hr;simp only[V.closed,Bool.false_eq_true,if_false,hr,true_and,if_pos hl,Zh,V.fsl.injEq];refine⟨xs,BD (by simp;omega) fun j u v hu hv' => ?_,rfl⟩
   have hj:j<xs.length:=(Zf.1 hu).1;rw[List.getElem?_take,if_pos hj,List.getElem?_drop]at hv';refine iC (hc j u v hu hv') fun i s t hs ht=>ih j i u v s t hu hv' hs ht n (jY.1 (Aw.1 hn j u hu) i s hs)
 | fptr xs id el off es ys cs hz hr he ho hx hv ih=>
  intro n hn
  cases n with
  | zero=>simp[V.lvl]at hn
  | succ n=>
   simp only[V.lvl]at hn;unfold Go.VE.borrow;unfold aq at hr;simp only[V.closed,Bool.false_eq_true,if_false,hr,he,if_pos ho,Zh,V.fptr.injEq];refine⟨xs,iC (by simp[hx]) fun j u v hu hv' => ?_,rfl⟩
   rw[List.getElem?_drop]at hv';exact ih j u v hu hv' n (jY.1 hn j u hu)
 | clo f a b a' b' ha hb hva hvb iha ihb=>
  intro n hn
  cases n with
  | zero=>simp[V.lvl]at hn
  | succ n=>
   simp only[V.lvl,Zj]at hn
   by_cases hcl:(V.clo f a' b').closed=true
   ·rw[d9 _ _ hcl];simp only[V.closed,Zj]at hcl;have e1:a'=a:=by
     have:=iC (f:=Go.VE.borrow n H) ha fun j u v hu hv=>iha j u v hu hv n (jY.1 hn.1 j u hu)
     have h2:=iC (f:=Go.VE.borrow n H) (xs:=a') (ys:=a') rfl fun j u v hu hv=>by rw[hu]at hv;cases hv;exact d9 n H (kA.1 hcl.1 j u hu)
     rw[this]at h2;cases h2;rfl
    have e2:b'=b:=by
     have:=iC (f:=Go.VE.borrow n H) hb fun j u v hu hv=>ihb j u v hu hv n (jY.1 hn.2 j u hu)
     have h2:=iC (f:=Go.VE.borrow n H) (xs:=b') (ys:=b') rfl fun j u v hu hv=>by rw[hu]at hv;cases hv;exact d9 n H (kA.1 hcl.2 j u hu)
     rw[this]at h2;cases h2;rfl
    rw[e1,e2]
   ·unfold Go.VE.borrow;rw[if_neg hcl];simp only[iC (f:=Go.VE.borrow n H) ha fun j u v hu hv=>iha j u v hu hv n (jY.1 hn.1 j u hu),
     iC (f:=Go.VE.borrow n H) hb fun j u v hu hv=>ihb j u v hu hv n (jY.1 hn.2 j u hu)]
 | agg a a' ha hva iha=>
  intro n hn
  cases n with
  | zero=>simp[V.lvl]at hn
  | succ n=>
   simp only[V.lvl]at hn;have hm:=iC (f:=Go.VE.borrow n H) ha fun j u v hu hv=>iha j u v hu hv n (jY.1 hn j u hu)
   by_cases hcl:(V.agg a').closed=true
   ·rw[d9 _ _ hcl];simp only[V.closed]at hcl;have h2:=iC (f:=Go.VE.borrow n H) (xs:=a') (ys:=a') rfl fun j u v hu hv=>by rw[hu]at hv;cases hv;exact d9 n H (kA.1 hcl j u hu)
    rw[hm]at h2;cases h2;rfl
   ·unfold Go.VE.borrow;rw[if_neg hcl];simp only[hm,Option.map_some]
 | tup a a' ha hva iha=>
  intro n hn
  cases n with
  | zero=>simp[V.lvl]at hn
  | succ n=>
   simp only[V.lvl]at hn;have hm:=iC (f:=Go.VE.borrow n H) ha fun j u v hu hv=>iha j u v hu hv n (jY.1 hn j u hu)
   by_cases hcl:(V.tup a').closed=true
   ·rw[d9 _ _ hcl];simp only[V.closed]at hcl;have h2:=iC (f:=Go.VE.borrow n H) (xs:=a') (ys:=a') rfl fun j u v hu hv=>by rw[hu]at hv;cases hv;exact d9 n H (kA.1 hcl j u hu)
    rw[hm]at h2;cases h2;rfl
   ·unfold Go.VE.borrow;rw[if_neg hcl];simp only[hm,Option.map_some]
theorem oR {f:V→List Nat} {k:Nat}:∀{l:List V},k∈dz f l→∃(j:Nat) (u:V),l[j]? = some u∧k∈f u
 | [],h=>by simp[dz]at h
 | x::l,h=>by
  simp only[dz,List.mem_append]at h;rcases h with h|h
  ·exact⟨0,x,rfl,h⟩
  ·obtain⟨j,u,hu,hk⟩:=oR h;exact⟨j+1,u,by simpa using hu,hk⟩
structure pA (H:an) (Z:Nat→Prop):Prop where
 row:∀id es ys,Z id→aq H id=some (es,ys)→∀c∈ys,∀u∈c,∃x,FR H Z x u
theorem FR.cB (hd:pA H Z):∀(n:Nat) {x y:V},FR H Z x y→∀k∈cB n H y,Z k
 | 0,x,y,r,k,hk=>by simp[Go.VE.cB]at hk
 | n+1,x,y,r,k,hk=>by
  unfold Go.VE.cB at hk;split at hk
  ·simp at hk
  ·rename_i hcl;have pt:∀(a a':List V),cW H Z a a'→k∈dz (Go.VE.cB n H) a'→Z k:=fun a a' h hk=>by
    obtain⟨j,u,hu,hku⟩:=oR hk;have hj:j<a.length:=by rw[h.1];exact(Zf.1 hu).1
    exact FR.cB hd n (h.2 j _ u (Ze hj) hu) k hku
   have row:∀(id:Nat),Z id→k∈(match (H[id]?).bind Ob.rows with|some (_,xs)=>dz (Go.VE.cB n H) xs.flatten|none=>[])→Z k:=fun id hz hk=>by
    split at hk
    ·rename_i es ys hr;obtain⟨j,u,hu,hku⟩:=oR hk;have hm:u∈ys.flatten:=List.mem_of_getElem? hu;obtain⟨c,hc,huc⟩:=List.mem_flatten.1 hm;obtain⟨x,hx⟩:=hd.row id es ys hz hr c hc u huc;exact FR.cB hd n hx k hku
    ·simp at hk
   cases r with
   | same _ h=>exact absurd (V.jI h) hcl
   | fsl es xs id off ys hz hr hl hc hv=>
    simp only[List.mem_cons]at hk;rcases hk with rfl|hk
    ·exact hz
    ·exact row id hz hk
   | fptr xs id el off es ys cs hz hr he ho hx hv=>
    simp only[List.mem_cons]at hk;rcases hk with rfl|hk
    ·exact hz
    ·exact row id hz hk
   | clo f a b a' b' ha hb hva hvb=>
    simp only[List.mem_append]at hk;rcases hk with hk|hk
    ·exact pt a a' ⟨ha,hva⟩ hk
    ·exact pt b b' ⟨hb,hvb⟩ hk
   | agg a a' ha hva=>exact pt a a' ⟨ha,hva⟩ hk
   | tup a a' ha hva=>exact pt a a' ⟨ha,hva⟩ hk
theorem cW.cut {cs ys r:List V} {off n:Nat} (h:cW H Z cs ys) (hc:cut cs off n=some r):∃r',Go.VE.cut ys off n=some r'∧cW H Z r r':=by
 unfold Go.VE.cut at hc ⊢;have h2:=(h.drop off).take n;dsimp only at hc ⊢;split at hc
 ·rename_i e;simp only[Za]at hc;subst hc;exact⟨_,by rw[if_pos (by rw[←h2.1];exact e)],h2⟩
 ·simp at hc
theorem cW.mk {agg:Bool} {cs ys:List V} {x:V} (h:cW H Z cs ys) (hm:mk agg cs=some x):∃y,Go.VE.mk agg ys=some y∧FR H Z x y:=by
 unfold Go.VE.mk at hm ⊢;split at hm
 ·rename_i e;simp only[Za]at hm;subst hm;exact⟨_,by rw[if_pos e],.agg _ _ h.1 h.2⟩
 ·rename_i e;split at hm
  ·simp only[Za]at hm;subst hm;obtain⟨y,ys,rfl,h1,h2⟩:=h.inv;rw[h2.cS];exact⟨y,by rw[if_neg e],h1⟩
  ·simp at hm
theorem cW.fill:∀{pl:List (Nat×Nat)} {vs ws cells cells' r:List V},cW H Z cells cells'→cW H Z vs ws→iO cells pl vs=some r→∃r',iO cells' pl ws=some r'∧cW H Z r r'
 | [],vs,ws,cells,cells',r,hc,hv,h=>by
  cases vs with
  | nil=>rw[hv.cS];simp only[iO,Za]at h ⊢;subst h;exact⟨_,rfl,hc⟩
  | cons v vs=>simp[iO]at h
 | (off,size)::pl,vs,ws,cells,cells',r,hc,hv,h=>by
  cases vs with
  | nil=>simp[iO]at h
  | cons v vs=>
   obtain⟨w,ws,rfl,h1,h2⟩:=hv.inv;have k:=h1.cells;simp only[iO]at h ⊢;rw[←k.1,←hc.1];split at h
   ·simp at h
   ·rename_i e;rw[if_neg e];exact cW.fill (((hc.take off).append k).append (hc.drop _)) h2 h
theorem FR.oV {k:KT} {x y x' y':V} {b:Bool} (hx:FR H Z x x') (hy:FR H Z y y') (h:kB k x y=some b):kB k x' y'=some b:=by
 unfold kB at h;split at h
 ·rw[hx.ay,hy.ay];exact h
 ·rw[hy.ay];rcases hx.iX with rfl|⟨_,_,_,rfl,_⟩ <;> exact h
 ·exact absurd hx.closed (by simp[V.closed])
 ·rw[hx.cq,hy.cq];exact h
 ·rw[hy.cq];rcases hx.jh with rfl|⟨_,_,_,_,_,_,rfl,_⟩ <;> exact h
 ·exact absurd hx.closed (by simp[V.closed])
 ·rw[hx.eT,hy.eT];exact h
 ·rw[hy.eT,hx.fmap];exact h
 ·exact absurd hx.closed (by simp[V.closed])
 ·simp at h
theorem FR.ji {a b a' b':List V} {r:Bool} (ha:cW H Z a a') (hb:cW H Z b b') (h:ji a b=some r):Go.VE.ji a' b'=some r:=by
 unfold Go.VE.ji at h;split at h
 ·rename_i u v hu hv;rw[ha.scalar.1 (mz hu),hb.scalar.1 (mz hv)];unfold Go.VE.ji;rw[hu,hv];exact h
 ·simp at h
theorem tW {k:KT} {x y:V} {b:Bool} (h:kB k x y=some b):(y=.ay∧(x=.ay∨(∃es xs,x=.fsl es xs)∨∃id es off len,x=.hsl id es off len)) ∨
 (y=.cq∧(x=.cq∨(∃cs,x=.fptr cs)∨∃id el off,x=.hptr id el off))∨(y=.eT∧(x=.eT∨(∃kvs,x=.fmap kvs)∨∃id,x=.hmap id)):=by
 unfold kB at h
 (repeat' split at h) <;> first|(simp;done)|simp at h
theorem B7 {k:Option KT} {e:Option Nat} {op:BinOp} {x y:V} (hs:(y=.ay∧(x=.ay∨(∃es xs,x=.fsl es xs)∨∃id es off len,x=.hsl id es off len)) ∨
 (y=.cq∧(x=.cq∨(∃cs,x=.fptr cs)∨∃id el off,x=.hptr id el off))∨(y=.eT∧(x=.eT∨(∃kvs,x=.fmap kvs)∨∃id,x=.hmap id))) :
 jK k e op x y=(match k,op with
 | some k,.eql=>(kB k x y).map .bool
 | some k,.neq=>(kB k x y).map fun t=>.bool !t
 | _,_=>none):=by
 rcases hs with⟨rfl,rfl|⟨_,_,rfl⟩|⟨_,_,_,_,rfl⟩⟩|⟨rfl,rfl|⟨_,rfl⟩|⟨_,_,_,rfl⟩⟩|⟨rfl,rfl|⟨_,rfl⟩|⟨_,rfl⟩⟩ <;> cases k <;> cases op <;> rfl
theorem CJ {k:Option KT} {e:Option Nat} {op:BinOp} {x y z:V} (h:jK k e op x y=some z):z.bg=true:=by
 have hb:∀{o:Option Bool} {z:V},o.map V.bool=some z→z.bg=true:=fun h=>by obtain⟨_,_,rfl⟩:=Zh.1 h;rfl
 have hb':∀{o:Option Bool} {z:V},(o.map fun t=>V.bool !t)=some z→z.bg=true:=fun h=>by obtain⟨_,_,rfl⟩:=Zh.1 h;rfl
 unfold jK at h
 (repeat' split at h) <;> first|(simp only[Za]at h;subst h;rfl)|exact hb h|exact hb' h|simp at h
theorem FR.bin {k:Option KT} {e:Option Nat} {op:BinOp} {x y x' y' z:V} (hx:FR H Z x x') (hy:FR H Z y y') (h:jK k e op x y=some z):jK k e op x' y'=some z:=by
 have h0:=h;unfold jK at h;split at h
 ·rw[hx.int,hy.int];exact h0
 ·rw[hx.str,hy.str];exact h0
 ·rw[hx.bool,hy.bool];exact h0
 ·obtain⟨a',rfl,ha⟩:=hx.js;obtain⟨b',rfl,hb⟩:=hy.js;split at h
  ·split at h
   ·rename_i hl;obtain⟨r,hr,rfl⟩:=Zh.1 h;simp only[jK,←ha.1,hl,if_true,FR.ji ha hb hr,Option.map_some]
   ·simp at h
  ·split at h
   ·rename_i hl;obtain⟨r,hr,rfl⟩:=Zh.1 h;simp only[jK,←ha.1,hl,if_true,FR.ji ha hb hr,Option.map_some]
   ·simp at h
  ·simp at h
 ·split at h
  ·obtain⟨r,hr,rfl⟩:=Zh.1 h;have hr':=FR.oV hx hy hr;rw[B7 (tW hr')];dsimp only;rw[hr'];rfl
  ·obtain⟨r,hr,rfl⟩:=Zh.1 h;have hr':=FR.oV hx hy hr;rw[B7 (tW hr')];dsimp only;rw[hr'];rfl
  ·simp at h
theorem FR.slice {size:Nat} {x x' z:V} {l h:Option Int} (hx:FR H Z x x') (hs:iI size x l h=some z):∃z',iI size x' l h=some z'∧FR H Z z z':=by
 have hbd:∀{n lo hi:Nat},dR n l h=some (lo,hi)→hi≤n∧lo≤hi:=by
  intro n lo hi e;unfold dR at e;dsimp only at e;split at e
  ·rename_i hc;simp only[Za,Zd]at e;omega
  ·simp at e
 unfold iI at hs;split at hs
 ·rename_i es xs;split at hs
  ·rename_i he;obtain⟨⟨lo,hi⟩,hb,rfl⟩:=Zh.1 hs;obtain⟨b1,b2⟩:=hbd hb;rcases hx.iX with rfl|⟨id,off,ys,rfl,hz,hr,hl,hf⟩
   ·refine⟨_,by simp only[iI,if_pos he,hb,Option.map_some],.same _ ?_⟩
    have hg:=hx.bg;simp only[V.bg]at hg ⊢;refine jA.2 fun j u hu => ?_
    rw[List.getElem?_drop,List.getElem?_take]at hu;split at hu
    ·exact jA.1 hg _ u hu
    ·simp at hu
   ·refine⟨.hsl id es (off+lo) (hi-lo),by simp only[iI,if_pos he,hb,Option.map_some],?_⟩
    have hlen:((xs.take hi).drop lo).length=hi-lo:=by simp;omega
    rw[←hlen];refine FR.DV hz hr (by rw[hlen];omega) ?_
    have:=(hf.take hi).drop lo;rw[hlen];have e:List.drop lo (List.take hi (List.take xs.length (List.drop off ys)))=List.take (hi-lo) (List.drop (off+lo) ys):=by
     rw[List.take_take,Nat.min_eq_left b1,List.drop_take,List.drop_drop]
    rw[e]at this;exact this
  ·simp at hs
 ·exact absurd hx.closed (by simp[V.closed])
 ·rw[hx.dY];obtain⟨_,hb,rfl⟩:=Zh.1 hs;exact⟨.dY,by simp only[iI,hb,Option.map_some],.same _ rfl⟩
 ·rw[hx.ay];obtain⟨_,hb,rfl⟩:=Zh.1 hs;exact⟨.ay,by simp only[iI,hb,Option.map_some],.same _ rfl⟩
 ·simp at hs
theorem cW.jS {lo hi:Bool} {bs bs':List V} {r:Option Int×Option Int} (h:cW H Z bs bs') (hb:jS lo hi bs=some r):Go.VE.jS lo hi bs'=some r:=by
 unfold Go.VE.jS at hb;split at hb
 ·rw[h.cS];exact hb
 ·obtain⟨_,_,rfl,h1,h2⟩:=h.inv;rw[h1.int,h2.cS];exact hb
 ·obtain⟨_,_,rfl,h1,h2⟩:=h.inv;rw[h1.int,h2.cS];exact hb
 ·obtain⟨_,_,rfl,h1,h2⟩:=h.inv;obtain⟨_,_,rfl,h3,h4⟩:=h2.inv;rw[h1.int,h3.int,h4.cS];exact hb
 ·simp at hb
theorem cW.aI {N:Nat→FuncId} {p:qH} {xs ys:List V} {z:V} (hz0:∀zero pl,p=.build zero pl→V.bR zero=true) (h:cW H Z xs ys) (hp:aI N p xs=some z):∃z',Go.VE.aI N p ys=some z'∧FR H Z z z':=by
 unfold Go.VE.aI at hp;split at hp
 ·
  obtain⟨y,_,rfl,h1,h2⟩:=h.inv;rw[h2.cS];simp only[Za]at hp;subst hp;exact⟨y,rfl,h1⟩
 ·
  rename_i t a b;obtain⟨w1,_,rfl,h1,h2⟩:=h.inv;obtain⟨w2,_,rfl,h3,h4⟩:=h2.inv;obtain⟨w3,_,rfl,h5,h6⟩:=h4.inv;rw[h1.bool,h6.cS];simp only[Za]at hp;subst hp;refine⟨if t=true then w2 else w3,rfl,?_⟩;cases t
  ·exact h5
  ·exact h3
 ·
  obtain⟨y,_,rfl,h1,h2⟩:=h.inv;rw[h2.cS];unfold Er at hp;split at hp
  ·exact absurd h1.closed (by simp[V.closed])
  ·simp only[Za]at hp;subst hp;rcases h1.jh with rfl|⟨_,_,_,_,_,_,rfl,_⟩
   ·exact⟨_,rfl,h1⟩
   ·exact⟨_,rfl,h1⟩
  ·simp only[Za]at hp;subst hp;obtain⟨_,_,rfl,_⟩:=h1.iW;exact⟨_,rfl,h1⟩
  ·simp at hp
 ·
  obtain⟨_,_,rfl,h1,h2⟩:=h.inv;obtain⟨_,_,rfl,h3,h4⟩:=h2.inv;rw[h4.cS];exact⟨z,FR.bin h1 h3 hp,.same _ (CJ hp)⟩
 ·obtain⟨_,_,rfl,h1,h2⟩:=h.inv;rw[h1.bool,h2.cS];simp only[Za]at hp;subst hp;exact⟨_,rfl,.same _ rfl⟩
 ·obtain⟨_,_,rfl,h1,h2⟩:=h.inv;rw[h1.int,h2.cS];simp only[Za]at hp;subst hp;exact⟨_,rfl,.same _ rfl⟩
 ·obtain⟨_,_,rfl,h1,h2⟩:=h.inv;rw[h1.int,h2.cS];simp only[Za]at hp;subst hp;exact⟨_,rfl,.same _ rfl⟩
 ·
  rename_i off p;obtain⟨y,_,rfl,h1,h2⟩:=h.inv;rw[h2.cS];unfold h_ at hp;split at hp
  ·split at hp
   ·rename_i cs ho;simp only[Za]at hp;subst hp;rcases h1.jh with rfl|⟨id,el,o,es,ys,ds,rfl,hz,hr,he,hle,hf⟩
    ·have hg:=h1.bg;simp only[V.bg]at hg;exact⟨_,by simp only[Go.VE.aI,h_,if_pos ho],.same _ (by simp only[V.bg];exact sR _ hg)⟩
    ·refine⟨.hptr id el (o+off),rfl,FR.yA hz hr he (by have:=hf.1;simp at this;omega) ?_⟩
     have:=hf.drop off;rw[List.drop_drop]at this;exact this
   ·simp at hp
  ·exact absurd h1.closed (by simp[V.closed])
  ·simp at hp
 ·
  rename_i off size agg cs;obtain⟨y,_,rfl,h1,h2⟩:=h.inv;rw[h2.cS];obtain⟨cs',rfl,hc⟩:=h1.js;obtain⟨r,hr,hm⟩:=Zi.1 hp;obtain⟨r',hr',hrr⟩:=hc.cut hr;obtain⟨z',hz',hzz⟩:=hrr.mk hm;exact⟨z',by simp only[Go.VE.aI,hr',Zc,hz'],hzz⟩
 ·
  rename_i size s k n;obtain⟨y,_,rfl,h1,h2⟩:=h.inv;obtain⟨_,_,rfl,h3,h4⟩:=h2.inv;rw[h3.int,h4.cS];unfold kO at hp;split at hp
  ·simp at hp
  ·rename_i hn;split at hp
   ·rename_i es xs;split at hp
    ·rename_i he;obtain⟨c,hc,rfl⟩:=Zh.1 hp;rcases h1.iX with rfl|⟨id,off,ys,rfl,hz,hr,hl,hf⟩
     ·have hg:=h1.bg;simp only[V.bg]at hg;exact⟨_,by simp only[Go.VE.aI,kO,if_neg hn,if_pos he,hc,Option.map_some],.same _ (by simp only[V.bg];exact jA.1 hg _ _ hc)⟩
     ·have hj:n.toNat<xs.length:=(Zf.1 hc).1;obtain⟨d,hd,hcd⟩:=hf.get hc;rw[List.getElem?_take,if_pos hj,List.getElem?_drop]at hd;exact⟨.hptr id (off+n.toNat) 0,by simp only[Go.VE.aI,kO,if_neg hn,if_pos (And.intro he hj)],FR.yA hz hr hd (by simp) (by simpa using hcd)⟩
    ·simp at hp
   ·exact absurd h1.closed (by simp[V.closed])
   ·simp at hp
 ·
  rename_i len size s k n;obtain⟨y,_,rfl,h1,h2⟩:=h.inv;obtain⟨_,_,rfl,h3,h4⟩:=h2.inv;rw[h3.int,h4.cS];unfold rj at hp;split at hp
  ·rename_i hn;split at hp
   ·split at hp
    ·rename_i cs ho;simp only[Za]at hp;subst hp;rcases h1.jh with rfl|⟨id,el,o,es,ys,ds,rfl,hz,hr,he,hle,hf⟩
     ·have hg:=h1.bg;simp only[V.bg]at hg;exact⟨_,by simp only[Go.VE.aI,rj,if_pos hn,if_pos ho],.same _ (by simp only[V.bg];exact sR _ hg)⟩
     ·refine⟨.hptr id el (o+n.toNat*size),by simp only[Go.VE.aI,rj,if_pos hn],FR.yA hz hr he (by have:=hf.1;simp at this;omega) ?_⟩
      have:=hf.drop (n.toNat*size);rw[List.drop_drop]at this;exact this
    ·simp at hp
   ·exact absurd h1.closed (by simp[V.closed])
   ·simp at hp
  ·simp at hp
 ·
  rename_i s k n;obtain⟨y,_,rfl,h1,h2⟩:=h.inv;obtain⟨_,_,rfl,h3,h4⟩:=h2.inv;rw[h1.str,h3.int,h4.cS];split at hp
  ·rename_i hn;obtain⟨c,hc,rfl⟩:=Zh.1 hp;exact⟨_,by simp only[Go.VE.aI,if_pos hn,hc,Option.map_some],.same _ rfl⟩
  ·simp at hp
 ·
  rename_i len size agg cs k n;obtain⟨y,_,rfl,h1,h2⟩:=h.inv;obtain⟨_,_,rfl,h3,h4⟩:=h2.inv;rw[h3.int,h4.cS];obtain⟨cs',rfl,hc⟩:=h1.js;split at hp
  ·rename_i hn;obtain⟨r,hr,hm⟩:=Zi.1 hp;obtain⟨r',hr',hrr⟩:=hc.cut hr;obtain⟨z',hz',hzz⟩:=hrr.mk hm;exact⟨z',by simp only[Go.VE.aI,if_pos hn,hr',Zc,hz'],hzz⟩
  ·simp at hp
 ·
  rename_i lo hi s bs;obtain⟨y,_,rfl,h1,h2⟩:=h.inv;rw[h1.str];obtain⟨⟨l,h'⟩,hb,hp⟩:=Zi.1 hp;obtain⟨⟨l2,h2'⟩,hb2,rfl⟩:=Zh.1 hp;exact⟨_,by simp only[Go.VE.aI,h2.jS hb,Zc,hb2,Option.map_some],.same _ rfl⟩
 ·
  rename_i size lo hi s bs;obtain⟨y,_,rfl,h1,h2⟩:=h.inv;obtain⟨⟨l,h'⟩,hb,hp⟩:=Zi.1 hp;obtain⟨z',hz',hzz⟩:=FR.slice h1 hp;exact⟨z',by simp only[Go.VE.aI,h2.jS hb,Zc,hz'],hzz⟩
 ·
  obtain⟨y,_,rfl,h1,h2⟩:=h.inv;obtain⟨_,_,rfl,h3,h4⟩:=h2.inv;obtain⟨_,_,rfl,h5,h6⟩:=h4.inv;rw[h3.int,h5.int,h6.cS];split at hp
  ·rename_i hc;simp only[Za]at hp;subst hp;refine⟨.dY,?_,.same _ rfl⟩;simp only[Zj]at hc;have:DN y=true:=by
    have h0:=hc.1.1;unfold DN at h0;split at h0
    ·rcases h1.iX with rfl|⟨_,_,_,rfl,_⟩ <;> rfl
    ·exact absurd h1.closed (by simp[V.closed])
    ·rw[h1.dY];rfl
    ·rw[h1.ay];rfl
    ·simp at h0
   simp only[Go.VE.aI,this,hc.1.2,hc.2,Bool.and_self,if_true]
  ·simp at hp
 ·
  rename_i vs zero pl;obtain⟨r,hr,rfl⟩:=Zh.1 hp;obtain⟨r',hr',hrr⟩:=cW.fill (cW.same (hz0 zero pl rfl)) h hr;exact⟨.agg r',by simp only[Go.VE.aI,hr',Option.map_some],.agg _ _ hrr.1 hrr.2⟩
 ·
  rename_i vs name k;simp only[Za]at hp;subst hp;exact⟨_,rfl,.clo _ _ _ _ _ (h.take k).1 (h.drop k).1 (h.take k).2 (h.drop k).2⟩
 ·
  rename_i i vs;obtain⟨y,_,rfl,h1,h2⟩:=h.inv;rw[h2.cS];obtain⟨ws,rfl,hw⟩:=h1.lN;obtain⟨z',hz',hzz⟩:=hw.get hp;exact⟨z',hz',hzz⟩
 ·
  obtain⟨y,_,rfl,h1,h2⟩:=h.inv;rw[h1.str,h2.cS];simp only[Za]at hp;subst hp;exact⟨_,rfl,.same _ rfl⟩
 ·
  obtain⟨y,_,rfl,h1,h2⟩:=h.inv;rw[h2.cS];unfold uG at hp;split at hp
  ·simp only[Za]at hp;subst hp;rcases h1.iX with rfl|⟨_,_,_,rfl,_⟩ <;> exact⟨_,rfl,.same _ rfl⟩
  ·exact absurd h1.closed (by simp[V.closed])
  ·rw[h1.dY];simp only[Za]at hp;subst hp;exact⟨_,rfl,.same _ rfl⟩
  ·rw[h1.ay];simp only[Za]at hp;subst hp;exact⟨_,rfl,.same _ rfl⟩
  ·simp at hp
 ·
  obtain⟨_,_,rfl,h1,h2⟩:=h.inv;obtain⟨_,_,rfl,h3,h4⟩:=h2.inv;rw[h1.int,h3.int,h4.cS];split at hp
  ·rename_i e;simp only[Za]at hp;subst hp;exact⟨_,by simp only[Go.VE.aI,if_pos e],.same _ rfl⟩
  ·simp at hp
 ·
  obtain⟨_,_,rfl,h1,h2⟩:=h.inv;obtain⟨_,_,rfl,h3,h4⟩:=h2.inv;rw[h1.int,h3.int,h4.cS];split at hp
  ·rename_i e;simp only[Za]at hp;subst hp;exact⟨_,by simp only[Go.VE.aI,if_pos e],.same _ rfl⟩
  ·simp at hp
 ·simp at hp
end
end Go.VE
namespace Go.VE
def rW (p:Nat×Nat) (k:Fl) (es len:Nat):V:=
 match k with
 | .nil=>.ay
 | .emp=>.dY
 | _=>.hsl p.1 es p.2 len
abbrev Nu:=Nat→Nat×Nat
inductive cZ (ν:Nu) (m:Tb aL) (H:an) (Z:Nat→Prop):SV→V→Prop
 | v (x y:V) (h:FR H Z x y):cZ ν m H Z (.v x) y
 | own (d:Nat) (y:V) (h:∀ob,ak m d=some ob→∃k es xs,ob=.sl k es xs∧y=rW (ν d) k es xs.length):cZ ν m H Z (.own d) y
 | ptr (d o:Nat) (y:V) (h:∀ob,ak m d=some ob→∃cs,ob=.box cs∧y=.hptr (ν d).1 0 o):cZ ν m H Z (.ptr d o) y
 | el (d i o:Nat) (y:V) (h:∀ob,ak m d=some ob→∃k es xs,ob=.sl k es xs∧b_ k=true∧y=.hptr (ν d).1 ((ν d).2+i) o):cZ ν m H Z (.el d i o) y
 | mp (d:Nat) (y:V) (h:∀ob,ak m d=some ob→∃kvs,ob=.mp kvs∧y=.hmap (ν d).1):cZ ν m H Z (.mp d) y
 | clo (f:FuncId) (a b:List SV) (a' b':List V) (ha:a.length=a'.length) (hb:b.length=b'.length)
  (hva:∀(j:Nat) u v,a[j]? = some u→a'[j]? = some v→cZ ν m H Z u v) (hvb:∀(j:Nat) u v,b[j]? = some u→b'[j]? = some v→cZ ν m H Z u v):cZ ν m H Z (.clo f a b) (.clo f a' b')
 | tup (a:List SV) (a':List V) (ha:a.length=a'.length) (hva:∀(j:Nat) u v,a[j]? = some u→a'[j]? = some v→cZ ν m H Z u v):cZ ν m H Z (.tup a) (.tup a')
 | yl (id:Nat):cZ ν m H Z (.yl id) (.yld id)
def bF (ν:Nu) (m:Tb aL) (H:an) (Z:Nat→Prop) (xs:List SV) (ys:List V):Prop:=xs.length=ys.length∧∀(j:Nat) u v,xs[j]? = some u→ys[j]? = some v→cZ ν m H Z u v
def cH:aL→Bool
 | .sl k _ _=>b_ k
 | _=>true
def eP (ν:Nu) (m:Tb aL) (id:Nat):Prop:=∃d ob,ak m d=some ob∧cH ob=true∧(ν d).1=id
def tv (H:an) (Z:Nat→Prop) (ys:List (List V)):Prop:=∀c∈ys,∀u∈c,∃x,FR H Z x u
def yI (H:an) (Z:Nat→Prop) (a b:List (V×V)):Prop:=a.length=b.length∧∀(j:Nat) u v,a[j]? = some u→b[j]? = some v→(u.1=v.1∧u.1.scalar=true)∧FR H Z u.2 v.2
def en (ν:Nu) (m:Tb aL) (H:an) (Z:Nat→Prop) (d:Nat):aL→Prop
 | .sl k es xs=>if b_ k then ∃ys,H[(ν d).1]? = some (.row es ys)∧(ν d).2+xs.length≤ys.length∧fG H Z xs ((ys.drop (ν d).2).take xs.length)∧tv H Z ys∧(k=.row→(ν d).2=0∧ys.length=xs.length)
  else xs=[]
 | .box cs=>∃es cs',H[(ν d).1]? = some (.row es [cs'])∧bF ν m H Z cs cs'∧cs'.all V.one=true
 | .mp kvs=>∃kvs',H[(ν d).1]? = some (.map kvs')∧yI H Z kvs kvs'
structure R (ν:Nu) (Z:Nat→Prop) (st:St) (F:Frame) (H:an):Prop where
 slot:∀s sv,ak st.g s=some sv→cZ ν st.m H Z sv (get F s)
 obj:∀d ob,ak st.m d=some ob→en ν st.m H Z d ob
 inj:∀d d' ob ob',ak st.m d=some ob→ak st.m d'=some ob'→cH ob=true→cH ob'=true→(ν d).1=(ν d').1→d=d'
 apart:∀d ob,ak st.m d=some ob→cH ob=true→¬Z (ν d).1
 zrow:∀id,Z id→(aq H id).isSome=true
 deep:pA H Z
def sameShape:aL→aL→Prop
 | .sl k es xs,.sl k' es' xs'=>k'=k∧es'=es∧xs'.length=xs.length
 | .box _,.box _=>True
 | .mp _,.mp _=>True
 | _,_=>False
theorem sameShape.refl (o:aL):sameShape o o:=by cases o <;> simp[sameShape]
theorem sameShape.trans {a b c:aL} (h:sameShape a b) (k:sameShape b c):sameShape a c:=by
 cases a <;> cases b <;> cases c <;> simp[sameShape]at*<;> simp_all
structure Ev (Rv:Nat→Prop) (ν:Nu) (Z:Nat→Prop) (st:St) (H:an) (ν':Nu) (Z':Nat→Prop) (st':St) (H':an):Prop where
 len:H.length≤H'.length
 same:∀id,id<H.length→¬eP ν st.m id→¬Z id→¬Rv id→H'[id]? = H[id]?
 rows:∀id,Z id→Z' id∧aq H' id=aq H id
 own:∀id,eP ν' st'.m id→eP ν st.m id∨Rv id∨H.length≤id
 frz:∀id,Z' id→Z id∨eP ν st.m id∨Rv id∨H.length≤id
 pin:∀d∈st.pin,∀ob',ak st'.m d=some ob'→∃ob,ak st.m d=some ob∧ν' d=ν d∧sameShape ob ob'
 pins:st'.pin=st.pin
section
variable {Rv Rv':Nat→Prop} {ν ν' ν2:Nu} {Z Z' Z2:Nat→Prop} {st st' st2:St} {m m':Tb aL} {F F':Frame} {H H' H2:an}
theorem Ev.refl:Ev Rv ν Z st H ν Z st H:=
 ⟨Nat.le_refl _,fun _ _ _ _ _=>rfl,fun _ h=>⟨h,rfl⟩,fun _ h=>.inl h,fun _ h=>.inl h,fun _ _ ob' h=>⟨ob',h,rfl,.refl _⟩,rfl⟩
theorem Ev.trans (a:Ev Rv ν Z st H ν' Z' st' H') (b:Ev Rv ν' Z' st' H' ν2 Z2 st2 H2):Ev Rv ν Z st H ν2 Z2 st2 H2 where
 len:=Nat.le_trans a.len b.len
 same:=fun id hl ho hz hr=>by
  rw[b.same id (Nat.lt_of_lt_of_le hl a.len) (fun h=>(a.own id h).elim ho fun h=>h.elim hr fun h=>by omega) (fun h=>(a.frz id h).elim hz fun h=>h.elim ho fun h=>h.elim hr fun h=>by omega) hr,a.same id hl ho hz hr]
 rows:=fun id h=>⟨(b.rows id (a.rows id h).1).1,by rw[(b.rows id (a.rows id h).1).2,(a.rows id h).2]⟩
 own:=fun id h=>by
  rcases b.own id h with h|h|h
  ·exact a.own id h
  ·exact .inr (.inl h)
  ·exact .inr (.inr (Nat.le_trans a.len h))
 frz:=fun id h=>by
  rcases b.frz id h with h|h|h|h
  ·exact a.frz id h
  ·rcases a.own id h with h|h|h
   ·exact .inr (.inl h)
   ·exact .inr (.inr (.inl h))
   ·exact .inr (.inr (.inr h))
  ·exact .inr (.inr (.inl h))
  ·exact .inr (.inr (.inr (Nat.le_trans a.len h)))
 pin:=fun d hd ob2 h=>by
  obtain⟨ob1,h1,h2,h3⟩:=b.pin d (by rw[a.pins];exact hd) ob2 h
  obtain⟨ob,k1,k2,k3⟩:=a.pin d hd ob1 h1;exact⟨ob,k1,by rw[h2,k2],k3.trans h3⟩
 pins:=by rw[b.pins,a.pins]
theorem Ev.weak (h:∀id,Rv id→Rv' id) (a:Ev Rv ν Z st H ν' Z' st' H'):Ev Rv' ν Z st H ν' Z' st' H':=
 ⟨a.len,fun id hl ho hz hr=>a.same id hl ho hz (fun k=>hr (h id k)),a.rows,fun id k=>(a.own id k).imp (fun x=>x) (.imp (h id) (fun x=>x)),fun id k=>(a.frz id k).imp (fun x=>x) (.imp (fun x=>x) (.imp (h id) (fun x=>x))),a.pin,a.pins⟩
theorem cm {α:Type}:∀(g:Tb α) (n:Nat) (v:α),ak (bl g n v) n=some v
 | [],n,v=>by simp[bl,ak]
 | (k,x)::r,n,v=>by
  simp only[bl];split
  ·rename_i h;simp[ak,h]
  ·rename_i h;simp[ak,h,cm r n v]
theorem dw {α:Type}:∀(g:Tb α) {n k:Nat} (v:α),n≠k→ak (bl g n v) k=ak g k
 | [],n,k,v,h=>by simp[bl,ak,h]
 | (j,x)::r,n,k,v,h=>by
  simp only[bl];split
  ·rename_i hk;subst hk;simp[ak,h]
  ·simp only[ak];split
   ·rfl
   ·exact dw r v h
theorem qI {α:Type}:∀(g:Tb α) (n:Nat),ak (fN n g) n=none
 | [],n=>rfl
 | (k,x)::r,n=>by
  simp only[fN];split
  ·exact qI r n
  ·rename_i hk;simp only[ak];rw[if_neg hk];exact qI r n
theorem qL {α:Type}:∀(g:Tb α) {n k:Nat},n≠k→ak (fN n g) k=ak g k
 | [],n,k,h=>rfl
 | (j,x)::r,n,k,h=>by
  simp only[fN];split
  ·rename_i hk;subst hk;simp only[ak];rw[if_neg h];exact qL r h
  ·simp only[ak];split
   ·rfl
   ·exact qL r h
theorem o8 {α:Type} {g:Tb α} {n k:Nat} {v:α} (h:ak (fN n g) k=some v):n≠k∧ak g k=some v:=by
 by_cases e:n=k
 ·subst e;rw[qI]at h;simp at h
 ·rw[qL g e]at h;exact⟨e,h⟩
theorem sP {α:Type} {k:Nat} {v:α}:∀{ds:List Nat} {g:Tb α},ak (tq ds g) k=some v→ak g k=some v
 | [],_,h=>h
 | d::ds,g,h=>(o8 (sP (ds:=ds) h)).2
theorem pJ {α:Type} {g:Tb α} {k:Nat} {v:α}:∀{l:List Nat} {r:Tb α},uY g l=some r→ak r k=some v→ak g k=some v
 | [],r,h,h2=>by simp only[uY,Za]at h;subst h;simp[ak]at h2
 | n::l,r,h,h2=>by
  simp only[uY]at h;split at h
  ·rename_i w t h3 h4;simp only[Za]at h;subst h;simp only[ak]at h2;split at h2
   ·rename_i e;subst e;rw[h3];exact h2
   ·exact pJ h4 h2
  ·simp at h
theorem sW {d:Nat}:∀{g:Tb SV} {s:Nat} {sv:SV},pP d g=false→ak g s=some sv→sv.cz d=false
 | [],_,_,_,h=>by simp[ak]at h
 | (k,x)::r,s,sv,h,h2=>by
  simp only[pP,Bool.or_eq_false_iff]at h;simp only[ak]at h2;split at h2
  ·simp only[Za]at h2;subst h2;exact h.1
  ·exact sW h.2 h2
theorem sT {d:Nat}:∀{g:Tb aL} {s:Nat} {ob:aL},nj d g=false→ak g s=some ob→ob.cz d=false
 | [],_,_,_,h=>by simp[ak]at h
 | (k,x)::r,s,sv,h,h2=>by
  simp only[nj,Bool.or_eq_false_iff]at h;simp only[ak]at h2;split at h2
  ·simp only[Za]at h2;subst h2;exact h.1
  ·exact sT h.2 h2
theorem qF {d:Nat}:∀{l:List SV} {j:Nat} {u:SV},SV.c_ d l=false→l[j]? = some u→u.cz d=false
 | [],_,_,_,h=>by simp at h
 | x::r,j,u,h,h2=>by
  simp only[SV.c_,Bool.or_eq_false_iff]at h
  cases j with
  | zero=>simp at h2;subst h2;exact h.1
  | succ j=>exact qF h.2 (by simpa using h2)
theorem oQ {d:Nat}:∀{l:List SV} {j:Nat} {u:SV},l[j]? = some u→u.cz d=true→SV.c_ d l=true
 | [],_,_,h,_=>by simp at h
 | x::r,j,u,h,h2=>by
  simp only[SV.c_,Bool.or_eq_true]
  cases j with
  | zero=>simp at h;subst h;exact .inl h2
  | succ j=>exact .inr (oQ (j:=j) (by simpa using h) h2)
theorem cZ.mono {sv:SV} {y:V} (hz:∀id,Z id→Z' id∧aq H' id=aq H id)
 (r:cZ ν m H Z sv y) (hn:∀d,sv.cz d=true→∀ob',ak m' d=some ob'→∃ob,ak m d=some ob∧ν' d=ν d∧sameShape ob ob'):cZ ν' m' H' Z' sv y:=by
 induction r with
 | v x y h=>exact .v x y (h.mono hz)
 | own d y h=>
  refine .own d y fun ob' ho => ?_
  obtain⟨ob,h1,h2,h3⟩:=hn d (by simp[SV.cz]) ob' ho
  obtain⟨k,es,xs,rfl,rfl⟩:=h ob h1;cases ob' <;> simp only[sameShape]at h3;obtain⟨rfl,rfl,h5⟩:=h3;exact⟨_,_,_,rfl,by rw[h2,h5]⟩
 | ptr d o y h=>
  refine .ptr d o y fun ob' ho => ?_
  obtain⟨ob,h1,h2,h3⟩:=hn d (by simp[SV.cz]) ob' ho
  obtain⟨cs,rfl,rfl⟩:=h ob h1;cases ob' <;> simp only[sameShape]at h3;exact⟨_,rfl,by rw[h2]⟩
 | el d i o y h=>
  refine .el d i o y fun ob' ho => ?_
  obtain⟨ob,h1,h2,h3⟩:=hn d (by simp[SV.cz]) ob' ho
  obtain⟨k,es,xs,rfl,h4,rfl⟩:=h ob h1;cases ob' <;> simp only[sameShape]at h3;obtain⟨rfl,rfl,h5⟩:=h3;exact⟨_,_,_,rfl,h4,by rw[h2]⟩
 | mp d y h=>
  refine .mp d y fun ob' ho => ?_
  obtain⟨ob,h1,h2,h3⟩:=hn d (by simp[SV.cz]) ob' ho
  obtain⟨cs,rfl,rfl⟩:=h ob h1;cases ob' <;> simp only[sameShape]at h3;exact⟨_,rfl,by rw[h2]⟩
 | clo f a b a' b' ha hb hva hvb iha ihb=>
  exact .clo f a b a' b' ha hb (fun j u v hu hv=>iha j u v hu hv fun d hd=>hn d (by simp[SV.cz,oQ hu hd])) (fun j u v hu hv=>ihb j u v hu hv fun d hd=>hn d (by simp[SV.cz,oQ hu hd]))
 | tup a a' ha hva iha=>
  exact .tup a a' ha (fun j u v hu hv=>iha j u v hu hv fun d hd=>hn d (by simp[SV.cz,oQ hu hd]))
 | yl id=>exact .yl id
theorem bF.mono {sv:List SV} {y:List V} (hz:∀id,Z id→Z' id∧aq H' id=aq H id)
 (r:bF ν m H Z sv y) (hn:∀d,SV.c_ d sv=true→∀ob',ak m' d=some ob'→∃ob,ak m d=some ob∧ν' d=ν d∧sameShape ob ob'):bF ν' m' H' Z' sv y:=
 ⟨r.1,fun j u v hu hv=>(r.2 j u v hu hv).mono hz fun d hd=>hn d (oQ hu hd)⟩
theorem bF.nil:bF ν m H Z [] []:=⟨rfl,by simp⟩
theorem bF.cons {x:SV} {y:V} {xs:List SV} {ys:List V} (h:cZ ν m H Z x y) (r:bF ν m H Z xs ys):bF ν m H Z (x::xs) (y::ys):=by
 refine⟨by simp[r.1],fun j u v hu hv => ?_⟩
 cases j with
 | zero=>simp at hu hv;subst hu;subst hv;exact h
 | succ j=>exact r.2 j u v (by simpa using hu) (by simpa using hv)
theorem bF.inv {x:SV} {xs:List SV} {ws:List V} (r:bF ν m H Z (x::xs) ws):∃y ys,ws=y::ys∧cZ ν m H Z x y∧bF ν m H Z xs ys:=by
 cases ws with
 | nil=>have:=r.1;simp at this
 | cons y ys=>
  refine⟨y,ys,rfl,r.2 0 x y rfl rfl,by have:=r.1;simpa using this,fun j u v hu hv=>r.2 (j+1) u v (by simpa using hu) (by simpa using hv)⟩
theorem bF.cS {ws:List V} (r:bF ν m H Z [] ws):ws=[]:=by
 have:=r.1;exact List.length_eq_zero_iff.1 this.symm
theorem bF.get {xs:List SV} {ys:List V} (r:bF ν m H Z xs ys) {j:Nat} {u:SV} (h:xs[j]? = some u):∃v,ys[j]? = some v∧cZ ν m H Z u v:=by
 have hj:j<xs.length:=(Zf.1 h).1;have:j<ys.length:=by rw[←r.1];exact hj
 exact⟨ys[j],Ze this,r.2 j u _ h (Ze this)⟩
theorem bF.append {a c:List SV} {b d:List V} (h:bF ν m H Z a b) (k:bF ν m H Z c d):bF ν m H Z (a++c) (b++d):=by
 refine⟨by simp[h.1,k.1],fun j u v hu hv => ?_⟩
 by_cases hj:j<a.length
 ·rw[List.getElem?_append_left hj]at hu;rw[List.getElem?_append_left (by rw[←h.1];exact hj)]at hv
  exact h.2 j u v hu hv
 ·rw[List.getElem?_append_right (by omega)]at hu
  rw[List.getElem?_append_right (by rw[←h.1];omega),←h.1]at hv
  exact k.2 _ u v hu hv
theorem bF.take {a:List SV} {b:List V} (h:bF ν m H Z a b) (n:Nat):bF ν m H Z (a.take n) (b.take n):=by
 refine⟨by simp[h.1],fun j u v hu hv => ?_⟩
 rw[List.getElem?_take]at hu hv;split at hu
 ·rename_i hj;rw[if_pos hj]at hv;exact h.2 j u v hu hv
 ·simp at hu
theorem bF.drop {a:List SV} {b:List V} (h:bF ν m H Z a b) (n:Nat):bF ν m H Z (a.drop n) (b.drop n):=by
 refine⟨by simp[h.1],fun j u v hu hv => ?_⟩
 rw[List.getElem?_drop]at hu hv;exact h.2 _ u v hu hv
theorem cZ.fr {x y:V} (r:cZ ν m H Z (.v x) y):FR H Z x y:=by cases r;assumption
theorem bF.oG {xs ys:List V} (r:cW H Z xs ys):bF ν m H Z (xs.map .v) ys:=by
 refine⟨by simp[r.1],fun j u v hu hv => ?_⟩
 rw[List.getElem?_map,Zh]at hu;obtain⟨x,hx,rfl⟩:=hu;exact .v x v (r.2 j x v hx hv)
theorem oO:∀{svs:List SV} {xs:List V},d_ svs=some xs→svs=xs.map .v
 | [],xs,h=>by simp only[d_,Za]at h;subst h;rfl
 | x::r,xs,h=>by
  cases x <;> simp only[d_]at h <;> first|simp at h;done|skip
  obtain⟨t,ht,rfl⟩:=Zh.1 h;rw[oO ht];rfl
theorem bF.SA {xs ys:List V} (r:bF ν m H Z (xs.map .v) ys):cW H Z xs ys:=by
 refine⟨by have:=r.1;simpa using this,fun j u v hu hv => ?_⟩
 have:(xs.map SV.v)[j]? = some (.v u):=by rw[List.getElem?_map,hu];rfl
 exact(r.2 j _ v this hv).fr
end
end Go.VE
namespace Go.VE
section
variable {ν:Nu} {Z:Nat→Prop} {st:St} {m:Tb aL} {F:Frame} {H H1:an} {N:Nat→FuncId}
def lZ (nm:FuncId→Option Nat):Operand→Option Arg
 | .tmp t=>some (.s t)
 | .const v=>match ofValue 4 v with
  | some c=>if c.bg then some (.k c)else none
  | none=>none
 | .func f=>(nm f).map .f
 | .global _=>none
theorem zp {nm:FuncId→Option Nat} (hN:∀f s,nm f=some s→N s=f) {g:Tb SV} (hs:∀s sv,ak g s=some sv→cZ ν m H Z sv (get F s)) {o:Operand} {x:Arg} {sv:SV} (ha:lZ nm o=some x) (hv:mD N g x=some sv) :
 ∃y,ev F o=some y∧cZ ν m H Z sv y:=by
 cases o with
 | tmp t=>
  simp only[lZ,Za]at ha;subst ha;exact⟨get F t,rfl,hs t sv hv⟩
 | const w=>
  simp only[lZ]at ha;split at ha
  ·rename_i c hc;split at ha
   ·rename_i hcl;simp only[Za]at ha;subst ha;simp only[mD,Za]at hv;subst hv;exact⟨c,hc,.v _ _ (.same _ hcl)⟩
   ·simp at ha
  ·simp at ha
 | func f=>
  simp only[lZ,Zh]at ha;obtain⟨z,hz,rfl⟩:=ha;simp only[mD,Za]at hv;subst hv;exact⟨_,rfl,.v _ _ (by rw[hN f z hz];exact .same _ rfl)⟩
 | global _=>simp[lZ]at ha
theorem sX {nm:FuncId→Option Nat} (hN:∀f s,nm f=some s→N s=f) {g:Tb SV} (hs:∀s sv,ak g s=some sv→cZ ν m H Z sv (get F s)):∀{os:List Operand} {xs:List Arg} {svs:List SV},
 os.mapM (lZ nm)=some xs→bu N g xs=some svs→∃ys,fP F os=some ys∧bF ν m H Z svs ys
 | [],xs,svs,ha,hv=>by
  simp only[List.mapM_nil,Option.pure_def,Za]at ha;subst ha;simp only[bu,Za]at hv;subst hv;exact⟨[],rfl,.nil⟩
 | o::os,xs,svs,ha,hv=>by
  simp only[List.mapM_cons,Option.pure_def,Option.bind_eq_bind,Zi,Za]at ha;obtain⟨x,hx,ys,hy,rfl⟩:=ha;simp only[bu]at hv;split at hv
  ·rename_i v ws h1 h2;simp only[Za]at hv;subst hv;obtain⟨a,ha,ra⟩:=zp hN hs hx h1;obtain⟨as,has,ras⟩:=sX hN hs hy h2;exact⟨a::as,by simp only[fP,ha,has],.cons ra ras⟩
  ·simp at hv
theorem cZ.ju {d:Nat} {y:V} (r:cZ ν m H Z (.own d) y) {ob:aL} (h:ak m d=some ob):∃k es xs,ob=.sl k es xs∧y=rW (ν d) k es xs.length:=by
 cases r with|own _ _ hh=>exact hh ob h
theorem cZ.lO {d o:Nat} {y:V} (r:cZ ν m H Z (.ptr d o) y) {ob:aL} (h:ak m d=some ob):∃cs,ob=.box cs∧y=.hptr (ν d).1 0 o:=by
 cases r with|ptr _ _ _ hh=>exact hh ob h
theorem cZ.sg {d i o:Nat} {y:V} (r:cZ ν m H Z (.el d i o) y) {ob:aL} (h:ak m d=some ob):∃k es xs,ob=.sl k es xs∧b_ k=true∧y=.hptr (ν d).1 ((ν d).2+i) o:=by
 cases r with|el _ _ _ _ hh=>exact hh ob h
theorem cZ.zb {d:Nat} {y:V} (r:cZ ν m H Z (.mp d) y) {ob:aL} (h:ak m d=some ob):∃kvs,ob=.mp kvs∧y=.hmap (ν d).1:=by
 cases r with|mp _ _ hh=>exact hh ob h
theorem cZ.iW {f:FuncId} {a b:List SV} {y:V} (r:cZ ν m H Z (.clo f a b) y):∃a' b',y=.clo f a' b'∧bF ν m H Z a a'∧bF ν m H Z b b':=by
 cases r with|clo _ _ _ a' b' ha hb hva hvb=>exact⟨a',b',rfl,⟨ha,hva⟩,⟨hb,hvb⟩⟩
theorem cZ.lN {a:List SV} {y:V} (r:cZ ν m H Z (.tup a) y):∃a',y=.tup a'∧bF ν m H Z a a':=by
 cases r with|tup _ a' ha hva=>exact⟨a',rfl,ha,hva⟩
theorem nV {p:Nat×Nat} {k:Fl} {es len:Nat} (h:b_ k=true):rW p k es len=.hsl p.1 es p.2 len:=by
 cases k <;> simp[b_]at h <;> rfl
theorem IB {p:qH} {svs:List SV} {ys:List V} {sv:SV} (ho:∀d ob,ak m d=some ob→en ν m H Z d ob) (h:bF ν m H Z svs ys) (hp:vn N m p svs=some sv):∃y,aI N p ys=some y∧cZ ν m H Z sv y:=by
 unfold vn at hp;split at hp
 ·
  obtain⟨y,_,rfl,h1,h2⟩:=h.inv;rw[h2.cS];simp only[Za]at hp;subst hp;exact⟨y,rfl,h1⟩
 ·obtain⟨y,_,rfl,h1,h2⟩:=h.inv;rw[h2.cS];split at hp
  ·rename_i hs;simp only[Za]at hp;subst hp;obtain⟨ob,hob⟩:=Option.isSome_iff_exists.1 hs;obtain⟨cs,rfl,rfl⟩:=h1.lO hob;exact⟨_,rfl,h1⟩
  ·simp at hp
 ·obtain⟨y,_,rfl,h1,h2⟩:=h.inv;rw[h2.cS];split at hp
  ·rename_i hs;simp only[Za]at hp;subst hp;obtain⟨ob,hob⟩:=Option.isSome_iff_exists.1 hs;obtain⟨k,es,xs,rfl,hk,rfl⟩:=h1.sg hob;exact⟨_,rfl,h1⟩
  ·simp at hp
 ·
  rename_i t a b;obtain⟨w1,_,rfl,h1,h2⟩:=h.inv;obtain⟨w2,_,rfl,h3,h4⟩:=h2.inv;obtain⟨w3,_,rfl,h5,h6⟩:=h4.inv;rw[h1.fr.bool,h6.cS];simp only[Za]at hp;subst hp;refine⟨if t=true then w2 else w3,rfl,?_⟩;cases t
  ·exact h5
  ·exact h3
 ·
  obtain⟨w1,_,rfl,h1,h2⟩:=h.inv;obtain⟨w2,_,rfl,h3,h4⟩:=h2.inv;rw[h3.fr.ay,h4.cS];split at hp
  ·rename_i k es xs hob;split at hp
   ·simp at hp
   ·rename_i hk;simp only[Za]at hp;subst hp;obtain⟨k',es',xs',e,rfl⟩:=h1.ju hob;cases e;cases k <;> first|exact absurd rfl hk|exact⟨_,rfl,.v _ _ (.same _ rfl)⟩
  ·simp at hp
 ·obtain⟨w1,_,rfl,h1,h2⟩:=h.inv;obtain⟨w2,_,rfl,h3,h4⟩:=h2.inv;rw[h3.fr.ay,h4.cS];split at hp
  ·rename_i k es xs hob;split at hp
   ·simp at hp
   ·rename_i hk;simp only[Za]at hp;subst hp;obtain⟨k',es',xs',e,rfl⟩:=h1.ju hob;cases e;cases k <;> first|exact absurd rfl hk|exact⟨_,rfl,.v _ _ (.same _ rfl)⟩
  ·simp at hp
 ·
  obtain⟨y,_,rfl,h1,h2⟩:=h.inv;rw[h2.cS];split at hp
  ·rename_i hs;simp only[Za]at hp;subst hp;obtain⟨ob,hob⟩:=Option.isSome_iff_exists.1 hs;obtain⟨cs,rfl,rfl⟩:=h1.lO hob;exact⟨_,rfl,.ptr _ _ _ fun ob' h'=>by rw[hob]at h';cases h';exact⟨_,rfl,rfl⟩⟩
  ·simp at hp
 ·obtain⟨y,_,rfl,h1,h2⟩:=h.inv;rw[h2.cS];split at hp
  ·rename_i hs;simp only[Za]at hp;subst hp;obtain⟨ob,hob⟩:=Option.isSome_iff_exists.1 hs;obtain⟨k,es,xs,rfl,hk,rfl⟩:=h1.sg hob;exact⟨_,rfl,.el _ _ _ _ fun ob' h'=>by rw[hob]at h';cases h';exact⟨_,_,_,rfl,hk,rfl⟩⟩
  ·simp at hp
 ·
  obtain⟨w1,_,rfl,h1,h2⟩:=h.inv;obtain⟨w2,_,rfl,h3,h4⟩:=h2.inv;rw[h3.fr.int,h4.cS];split at hp
  ·rename_i k es xs hob;split at hp
   ·rename_i hc;obtain⟨hk,rfl,hn,hlt⟩:=hc;simp only[Za]at hp;subst hp;obtain⟨k',es',xs',e,rfl⟩:=h1.ju hob;cases e;rw[nV hk];refine⟨.hptr (ν _).1 ((ν _).2+_) 0,by simp only[aI,kO,if_neg (Int.not_lt.2 hn),true_and,if_pos hlt];rfl,.el _ _ _ _ fun ob' h' => ?_⟩
    rw[hob]at h';cases h';exact⟨_,_,_,rfl,hk,rfl⟩
   ·simp at hp
  ·simp at hp
 ·
  obtain⟨w1,_,rfl,h1,h2⟩:=h.inv;obtain⟨w2,_,rfl,h3,h4⟩:=h2.inv;rw[h3.fr.int,h4.cS];split at hp
  ·rename_i hc;simp only[Za]at hp;subst hp;obtain⟨ob,hob⟩:=Option.isSome_iff_exists.1 hc.2.2;obtain⟨cs,rfl,rfl⟩:=h1.lO hob;refine⟨.hptr (ν _).1 0 (_+_),by simp only[aI,rj,if_pos (And.intro hc.1 hc.2.1)];rfl,.ptr _ _ _ fun ob' h' => ?_⟩
   rw[hob]at h';cases h';exact⟨_,rfl,rfl⟩
  ·simp at hp
 ·obtain⟨w1,_,rfl,h1,h2⟩:=h.inv;obtain⟨w2,_,rfl,h3,h4⟩:=h2.inv;rw[h3.fr.int,h4.cS];split at hp
  ·rename_i hc;simp only[Za]at hp;subst hp;obtain⟨ob,hob⟩:=Option.isSome_iff_exists.1 hc.2.2;obtain⟨k,es,xs,rfl,hk,rfl⟩:=h1.sg hob;refine⟨.hptr (ν _).1 (_+_) (_+_),by simp only[aI,rj,if_pos (And.intro hc.1 hc.2.1)];rfl,.el _ _ _ _ fun ob' h' => ?_⟩
   rw[hob]at h';cases h';exact⟨_,_,_,rfl,hk,rfl⟩
  ·simp at hp
 ·
  obtain⟨w1,_,rfl,h1,h2⟩:=h.inv;rw[h2.cS];split at hp
  ·rename_i k es xs hob;simp only[Za]at hp;subst hp;obtain⟨k',es',xs',e,rfl⟩:=h1.ju hob;cases e;have:=ho _ _ hob;simp only[en]at this;cases hk:k <;> simp only[hk,b_,Bool.false_eq_true,if_false]at this ⊢
   ·subst this;exact⟨_,rfl,.v _ _ (.same _ rfl)⟩
   ·subst this;exact⟨_,rfl,.v _ _ (.same _ rfl)⟩
   ·exact⟨_,rfl,.v _ _ (.same _ rfl)⟩
   ·exact⟨_,rfl,.v _ _ (.same _ rfl)⟩
  ·simp at hp
 ·
  rename_i vs name k;simp only[Za]at hp;subst hp;exact⟨_,rfl,.clo _ _ _ _ _ (h.take k).1 (h.drop k).1 (h.take k).2 (h.drop k).2⟩
 ·
  obtain⟨w1,_,rfl,h1,h2⟩:=h.inv;rw[h2.cS];obtain⟨ws,rfl,hw⟩:=h1.lN;obtain⟨z,hz,hzz⟩:=hw.get hp;exact⟨z,hz,hzz⟩
 ·simp at hp
theorem Iu {p:qH} {svs:List SV} {ys:List V} {sv:SV} (hb:∀zero pl,p=.build zero pl→V.bR zero=true) (ho:∀d ob,ak m d=some ob→en ν m H Z d ob) (h:bF ν m H Z svs ys) (hp:hY N m p svs=some sv) :
 ∃y,aI N p ys=some y∧cZ ν m H Z sv y:=by
 unfold hY at hp;split at hp
 ·rename_i xs hx;obtain⟨z,hz,rfl⟩:=Zh.1 hp;rw[oO hx]at h;obtain⟨z',h1,h2⟩:=cW.aI hb h.SA hz;exact⟨z',h1,.v _ _ h2⟩
 ·exact IB ho h hp
theorem bF.d_ {svs:List SV} {xs ys:List V} (h:bF ν m H Z svs ys) (ha:d_ svs=some xs):cW H Z xs ys:=by
 rw[oO ha]at h;exact h.SA
theorem GR {size o:Nat} {agg:Bool} {cs:List SV} {cs':List V} {sv:SV} (h:bF ν m H Z cs cs') (hp:uR size agg ((cs.drop o).take size)=some sv):∃y,(cut cs' o size).bind (mk agg)=some y∧cZ ν m H Z sv y:=by
 have h2:=(h.drop o).take size;unfold uR at hp;split at hp
 ·rename_i hl;have hc:cut cs' o size=some ((cs'.drop o).take size):=by
   unfold cut;dsimp only;rw[if_pos (by rw[←h2.1];exact hl)]
  rw[hc];simp only[Zc];split at hp
  ·rename_i ha;obtain⟨xs,hx,rfl⟩:=Zh.1 hp;have hf:=h2.d_ hx;exact⟨_,by unfold mk;rw[if_pos ha],.v _ _ (.agg _ _ hf.1 hf.2)⟩
  ·rename_i ha;split at hp
   ·rename_i x hx;simp only[Za]at hp;subst hp;rw[hx]at h2;obtain⟨y,ys,e,h3,h4⟩:=h2.inv;rw[e,h4.cS];exact⟨y,by unfold mk;rw[if_neg ha],h3⟩
   ·simp at hp
 ·simp at hp
theorem wh {k:V}:∀{a b:List (V×V)} {i:Nat},yI H Z a b→(fQ k a i=some none→fQ k b i=some none)∧∀j v,fQ k a i=some (some (j,v))→∃v',fQ k b i=some (some (j,v'))∧FR H Z v v'
 | [],b,i,h=>by
  have:b=[]:=List.length_eq_zero_iff.1 (by have:=h.1;simpa using this.symm)
  subst this;exact⟨fun h=>h,fun j v h=>by simp[fQ]at h⟩
 | (k1,x)::a,[],i,h=>by have:=h.1;simp at this
 | (k1,x)::a,(k2,y)::b,i,h=>by
  obtain⟨⟨e,_⟩,hx⟩:=h.2 0 _ _ rfl rfl;simp only at e hx;subst e;have ht:yI H Z a b:=⟨by have:=h.1;simpa using this,fun j u v hu hv=>h.2 (j+1) u v (by simpa using hu) (by simpa using hv)⟩
  have ih:=wh (i:=i+1) (k:=k) ht;simp only[fQ]
  cases hk:pW k k1 with
  | none=>simp
  | some t=>
   cases t
   ·exact ih
   ·refine⟨by simp,fun j v h => ?_⟩
    simp only[Za,Zd]at h;obtain⟨rfl,rfl⟩:=h;exact⟨y,rfl,hx⟩
theorem pV {kk:rO} {k:V} (h:kV kk k=true):k.scalar=true:=by
 unfold kV at h;split at h
 ·rfl
 ·rfl
 ·simp only[Zj]at h;obtain⟨a,ha⟩:=Option.isSome_iff_exists.1 h.2;simp only[V.scalar];exact mz ha
 ·simp at h
theorem tB {r:FF} {svs:List SV} {ys:List V} {sv:SV} (hzc:∀kk z ok,r=.lookup kk z ok→z.bg=true) (h:bF ν m H Z svs ys) (ho:∀d,SV.c_ d svs=true→∀ob,ak m d=some ob→en ν m H Z d ob) (hp:lQ m r svs=some sv) :
 ∃y,fu H r ys=some y∧cZ ν m H Z sv y:=by
 unfold lQ at hp;split at hp
 ·
  obtain⟨w1,_,rfl,h1,h2⟩:=h.inv;rw[h2.cS];split at hp
  ·rename_i cs hob;obtain⟨cs1,e,rfl⟩:=h1.lO hob;obtain⟨es,cs',hr,hc,_⟩:=ho _ (by simp[SV.c_,SV.cz]) _ hob
   obtain⟨y,hy,hyy⟩:=GR hc hp;refine⟨y,?_,hyy⟩;simp only[fu,dX,hr,Zc,Ob.rows,List.getElem?_cons_zero];exact hy
  ·simp at hp
 ·
  obtain⟨w1,_,rfl,h1,h2⟩:=h.inv;rw[h2.cS];split at hp
  ·rename_i k es xs hob;split at hp
   ·rename_i cs hcs;obtain⟨z,hz,rfl⟩:=Zh.1 hp;obtain⟨k1,es1,xs1,e,hk,rfl⟩:=h1.sg hob;cases e;have:=ho _ (by simp[SV.c_,SV.cz]) _ hob
    simp only[en,hk,if_true]at this;obtain⟨rs,hr,hl,hf,_⟩:=this;obtain⟨c,hc,hcc⟩:=hf.get hcs;have hj:=(Zf.1 hcs).1;rw[List.getElem?_take,if_pos hj,List.getElem?_drop]at hc;obtain⟨r1,hr1,hm1⟩:=Zi.1 hz;obtain⟨r2,hr2,hrr⟩:=hcc.cut hr1;obtain⟨z',hz',hzz⟩:=hrr.mk hm1;refine⟨z',?_,.v _ _ hzz⟩;simp only[fu,dX,hr,Zc,Ob.rows,hc,hr2,hz']
   ·simp at hp
  ·simp at hp
 ·
  rename_i size agg p;obtain⟨w1,_,rfl,h1,h2⟩:=h.inv;rw[h2.cS];obtain⟨z,hz,rfl⟩:=Zh.1 hp;obtain⟨r1,hr1,hm1⟩:=Zi.1 hz;unfold dX at hr1;split at hr1
  ·rename_i cs;rcases h1.fr.jh with rfl|⟨id,el,off,es,ys,cs2,rfl,hzz,hr,he,hle,hf⟩
   ·refine⟨z,by simp only[fu,dX,hr1,Zc,hm1],.v _ _ (.same _ ?_)⟩
    have hcl:V.bR cs=true:=by have:=h1.fr.bg;simpa [V.bg]using this
    obtain⟨r',hr',hrr⟩:=(cW.same (H:=H) (Z:=Z) hcl).cut hr1;obtain⟨z',hz',hzz'⟩:=hrr.mk hm1;exact hzz'.bg
   ·obtain⟨r2,hr2,hrr⟩:=hf.cut hr1;obtain⟨z',hz',hzz'⟩:=hrr.mk hm1;refine⟨z',?_,.v _ _ hzz'⟩;unfold aq at hr;simp only[fu,dX,hr,he];have:cut cs2 off size=some r2:=by
     unfold cut at hr2 ⊢;simpa [List.drop_drop]using hr2
    rw[this];exact hz'
  ·exact absurd h1.fr.closed (by simp[V.closed])
  ·simp at hr1
 ·
  rename_i kk z ok d k;obtain⟨w1,_,rfl,h1,h2⟩:=h.inv;obtain⟨w2,_,rfl,h3,h4⟩:=h2.inv;rw[h4.cS];split at hp
  ·rename_i kvs hob;split at hp
   ·rename_i hk;obtain⟨_,e,rfl⟩:=h1.zb hob;cases e;have hkk:=h3.fr.scalar.1 (pV hk);subst hkk;obtain⟨kvs',hr,hkv⟩:=ho _ (by simp[SV.c_,SV.cz]) _ hob
    obtain⟨f1,f2⟩:=wh (k:=w2) (i:=0) hkv;split at hp
    ·rename_i j v hf;obtain⟨v',hf',hvv⟩:=f2 j v hf;simp only[Za]at hp;subst hp;refine⟨if ok=true then .tup [v',.bool true]else v',by simp only[fu,jx,hr,hk,if_true,hf'],?_⟩
     cases ok
     ·exact .v _ _ hvv
     ·refine .v _ _ (.tup _ _ rfl (cW.cons hvv (.cons (.same _ rfl) .nil)).2)
    ·rename_i hf;simp only[Za]at hp;subst hp;refine⟨if ok=true then .tup [z,.bool false]else z,by simp only[fu,jx,hr,hk,if_true,f1 hf],?_⟩
     have hz:=hzc kk z ok rfl;cases ok
     ·exact .v _ _ (.same _ hz)
     ·exact .v _ _ (.same _ (by simp[V.bg,V.bR,hz]))
    ·simp at hp
   ·simp at hp
  ·simp at hp
 ·
  rename_i kk z ok p k;obtain⟨w1,_,rfl,h1,h2⟩:=h.inv;obtain⟨w2,_,rfl,h3,h4⟩:=h2.inv;rw[h4.cS];obtain⟨x,hx,rfl⟩:=Zh.1 hp;simp only[fu]at hx;have hz:=hzc kk z ok rfl;split at hx
  ·rename_i kvs hm;have key:jx H w1=some kvs∧V.qP kvs=true:=by
    unfold jx at hm;split at hm
    ·rw[h1.fr.eT];simp only[Za]at hm;subst hm;exact⟨rfl,rfl⟩
    ·rw[h1.fr.fmap];simp only[Za]at hm;subst hm;exact⟨rfl,by have:=h1.fr.bg;simpa [V.bg]using this⟩
    ·simp at hm
    ·simp at hm
   split at hx
   ·rename_i hk;have hkk:=h3.fr.scalar.1 (pV hk);subst hkk;split at hx
    ·rename_i j v hf;simp only[Za]at hx;subst hx;have hv:v.bg=true:=by
      have:∀{l:List (V×V)} {i:Nat},V.qP l=true→fQ w2 l i=some (some (j,v))→v.bg=true:=by
       intro l
       induction l with
       | nil=>intro i _ h;simp[fQ]at h
       | cons p l ih=>
        intro i hg h;obtain⟨a,b⟩:=p;simp only[V.qP,Zj]at hg;simp only[fQ]at h;split at h
        ·simp only[Za,Zd]at h;obtain⟨_,rfl⟩:=h;exact hg.1.2
        ·exact ih hg.2 h
        ·simp at h
      exact this key.2 hf
     refine⟨if ok=true then .tup [v,.bool true]else v,by simp only[fu,key.1,hk,if_true,hf],?_⟩
     cases ok
     ·exact .v _ _ (.same _ hv)
     ·exact .v _ _ (.same _ (by simp[V.bg,V.bR,hv]))
    ·rename_i hf;simp only[Za]at hx;subst hx;refine⟨if ok=true then .tup [z,.bool false]else z,by simp only[fu,key.1,hk,if_true,hf],?_⟩
     cases ok
     ·exact .v _ _ (.same _ hz)
     ·exact .v _ _ (.same _ (by simp[V.bg,V.bR,hz]))
    ·simp at hx
   ·simp at hx
  ·simp at hx
 ·simp at hp
end
end Go.VE
namespace Go.VE
section
variable {Rv:Nat→Prop} {ν ν':Nu} {Z Z':Nat→Prop} {st st':St} {m m':Tb aL} {F F':Frame} {H H':an}
theorem R.lt (r:R ν Z st F H) {id:Nat} (h:eP ν st.m id):id<H.length:=by
 obtain⟨d,ob,h1,h2,rfl⟩:=h;have:=r.obj d ob h1
 cases ob with
 | sl k es xs=>
  simp only[cH]at h2;simp only[en,h2,if_true]at this;obtain⟨ys,hr,_⟩:=this;exact(Zf.1 hr).1
 | box cs=>obtain⟨es,cs',hr,_⟩:=this;exact(Zf.1 hr).1
 | mp kvs=>obtain⟨kvs',hr,_⟩:=this;exact(Zf.1 hr).1
theorem R.q9 (r:R ν Z st F H) {id:Nat} (h:Z id):id<H.length:=by
 have:=r.zrow id h;unfold aq at this;obtain⟨x,hx⟩:=Option.isSome_iff_exists.1 this;obtain⟨ob,h1,_⟩:=Zi.1 hx;exact(Zf.1 h1).1
theorem pA.mono (d:pA H Z) (h:∀id,Z id→aq H' id=aq H id):pA H' Z where
 row:=fun id es ys hz hr c hc u hu=>by
  rw[h id hz]at hr;obtain⟨x,hx⟩:=d.row id es ys hz hr c hc u hu;exact⟨x,hx.mono fun k hk=>⟨hk,h k hk⟩⟩
theorem tv.mono {ys:List (List V)} (h:∀id,Z id→Z' id∧aq H' id=aq H id) (s:tv H Z ys):tv H' Z' ys:=fun c hc u hu=>by
 obtain⟨x,hx⟩:=s c hc u hu;exact⟨x,hx.mono h⟩
theorem yI.mono {a b:List (V×V)} (h:∀id,Z id→Z' id∧aq H' id=aq H id) (s:yI H Z a b):yI H' Z' a b:=⟨s.1,fun j u v hu hv=>⟨(s.2 j u v hu hv).1,(s.2 j u v hu hv).2.mono h⟩⟩
theorem en.mono {d d':Nat} {ob:aL} (hz:∀id,Z id→Z' id∧aq H' id=aq H id) (hd:ν' d'=ν d) (hh:cH ob=true→H'[(ν d).1]? = H[(ν d).1]?)
 (hn:∀e,ob.cz e=true→∀ob',ak m' e=some ob'→∃ob,ak m e=some ob∧ν' e=ν e∧sameShape ob ob') (o:en ν m H Z d ob):en ν' m' H' Z' d' ob:=by
 cases ob with
 | sl k es xs=>
  simp only[en,hd]at o ⊢;split
  ·rename_i hk;rw[if_pos hk]at o;obtain⟨ys,h1,h2,h3,h4,h5⟩:=o;exact⟨ys,by rw[hh (by simpa [cH]using hk)];exact h1,h2,h3.mono hz,h4.mono hz,h5⟩
  ·rename_i hk;rw[if_neg hk]at o;exact o
 | box cs=>
  obtain⟨es,cs',h1,h2,h3⟩:=o;exact⟨es,cs',by rw[hd,hh rfl];exact h1,h2.mono hz hn,h3⟩
 | mp kvs=>
  obtain⟨kvs',h1,h2⟩:=o;exact⟨kvs',by rw[hd,hh rfl];exact h1,h2.mono hz⟩
theorem jz (ν:Nu) (m:Tb aL) (e:Nat):∀ob',ak m e=some ob'→∃ob,ak m e=some ob∧ν e=ν e∧sameShape ob ob':=fun ob' h=>⟨ob',h,rfl,.refl _⟩
theorem R.heap (r:R ν Z st F H) (ho:∀id,eP ν st.m id→H'[id]? = H[id]?) (hz:∀id,Z id→aq H' id=aq H id):R ν Z st F H' where
 slot:=fun s sv hs=>(r.slot s sv hs).mono (fun id h=>⟨h,hz id h⟩) fun d _=>jz ν st.m d
 obj:=fun d ob hd=>en.mono (fun id h=>⟨h,hz id h⟩) rfl (fun hb=>ho _ ⟨d,ob,hd,hb,rfl⟩) (fun e _=>jz ν st.m e) (r.obj d ob hd)
 inj:=r.inj
 apart:=r.apart
 zrow:=fun id h=>by rw[hz id h];exact r.zrow id h
 deep:=r.deep.mono hz
theorem R.put (r:R ν Z st F H) {d:Nat} {sv:SV} {y:V} (h:cZ ν st.m H Z sv y):R ν Z { st with g:=bl st.g d sv } (set F d y) H where
 slot:=fun s x hs=>by
  by_cases e:d=s
  ·subst e;rw[cm]at hs;cases hs;rw[xG];exact h
  ·rw[dw st.g sv e]at hs;rw[lF _ _ e];exact r.slot s x hs
 obj:=r.obj
 inj:=r.inj
 apart:=r.apart
 zrow:=r.zrow
 deep:=r.deep
theorem Ev.Ox (g:Tb SV):Ev Rv ν Z st H ν Z { st with g:=g } H:=
 ⟨Nat.le_refl _,fun _ _ _ _ _=>rfl,fun _ h=>⟨h,rfl⟩,fun _ h=>.inl h,fun _ h=>.inl h,fun _ _ ob' h=>⟨ob',h,rfl,.refl _⟩,rfl⟩
def iN (ν:Nu) (d:Nat) (p:Nat×Nat):Nu:=fun k=>if k=d then p else ν k
theorem iV (ν:Nu) (d:Nat) (p:Nat×Nat):iN ν d p d=p:=if_pos rfl
theorem mW (ν:Nu) {d k:Nat} (p:Nat×Nat) (h:k≠d):iN ν d p k=ν k:=if_neg h
theorem mI {d:Nat} (h:st.new d=true):d∉st.pin∧ak st.m d=none∧pP d st.g=false∧nj d st.m=false:=by
 unfold St.new at h;simp only[Zj,Bool.not_eq_true',Option.isNone_iff_eq_none,List.contains_eq_mem,decide_eq_false_iff_not]at h;exact⟨h.1.1.1,h.1.1.2,h.1.2,h.2⟩
theorem nX {d:Nat} {ob:aL} {p:Nat×Nat} {e:Nat} (h:e≠d):∀ob',ak (bl m d ob) e=some ob'→∃ob,ak m e=some ob∧iN ν d p e=ν e∧sameShape ob ob':=fun ob' h2=>by
 rw[dw m ob (Ne.symm h)]at h2;exact⟨ob',h2,mW ν p h,.refl _⟩
theorem R.add (r:R ν Z st F H) {d:Nat} (hn:st.new d=true) {ob:aL} {p:Nat×Nat} (hb:cH ob=true→¬eP ν st.m p.1∧¬Z p.1) (ho:en (iN ν d p) (bl st.m d ob) H Z d ob) :
 R (iN ν d p) Z { st with m:=bl st.m d ob } F H:=by
 obtain⟨n1,n2,n3,n4⟩:=mI hn;have key:∀d' ob',ak (bl st.m d ob) d'=some ob'→d'≠d→ak st.m d'=some ob':=fun d' ob' h e=>by rw[dw st.m ob (Ne.symm e)]at h;exact h
 refine⟨fun s sv hs => ?_,fun d' ob' hd => ?_,?_,?_,r.zrow,r.deep⟩
 ·refine(r.slot s sv hs).mono (fun id h=>⟨h,rfl⟩) fun e he=>nX ?_
  rintro rfl;rw[sW n3 hs]at he;cases he
 ·by_cases e:d'=d
  ·subst e;simp only at hd;rw[cm]at hd;cases hd;exact ho
  ·have hd':=key d' ob' hd e;refine en.mono (fun id h=>⟨h,rfl⟩) (mW ν p e) (fun _=>rfl) (fun k hk=>nX ?_) (r.obj d' ob' hd')
   rintro rfl;rw[sT n4 hd']at hk;cases hk
 ·intro d1 d2 o1 o2 h1 h2 b1 b2 hp
  by_cases e1:d1=d <;> by_cases e2:d2=d
  ·rw[e1,e2]
  ·subst e1;rw[iV,mW ν p e2]at hp;simp only at h1;rw[cm]at h1;cases h1;exact absurd ⟨d2,o2,key d2 o2 h2 e2,b2,hp.symm⟩ (hb b1).1
  ·subst e2;rw[iV,mW ν p e1]at hp;simp only at h2;rw[cm]at h2;cases h2;exact absurd ⟨d1,o1,key d1 o1 h1 e1,b1,hp⟩ (hb b2).1
  ·rw[mW ν p e1,mW ν p e2]at hp;exact r.inj d1 d2 o1 o2 (key d1 o1 h1 e1) (key d2 o2 h2 e2) b1 b2 hp
 ·intro d1 o1 h1 b1
  by_cases e1:d1=d
  ·subst e1;simp only at h1;rw[cm]at h1;cases h1;rw[iV];exact(hb b1).2
  ·rw[mW ν p e1];exact r.apart d1 o1 (key d1 o1 h1 e1) b1
theorem C8 {d:Nat} {ob:aL} {p:Nat×Nat} {id:Nat} (h:eP (iN ν d p) (bl m d ob) id):eP ν m id∨(cH ob=true∧id=p.1):=by
 obtain⟨k,o,h1,h2,h3⟩:=h
 by_cases e:k=d
 ·subst e;rw[cm]at h1;cases h1;rw[iV]at h3;exact .inr ⟨h2,h3.symm⟩
 ·rw[mW ν p e]at h3;rw[dw m ob (Ne.symm e)]at h1;exact .inl ⟨k,o,h1,h2,h3⟩
theorem Ev.add {d:Nat} (hn:st.new d=true) {ob:aL} {p:Nat×Nat} (hl:H.length≤H'.length) (hs:∀id,id<H.length→¬Rv id→H'[id]? = H[id]?) (hz:∀id,Z id→aq H' id=aq H id)
 (hp:cH ob=true→Rv p.1∨H.length≤p.1):Ev Rv ν Z st H (iN ν d p) Z { st with m:=bl st.m d ob } H' where
 len:=hl
 same:=fun id h _ _ hr=>hs id h hr
 rows:=fun id h=>⟨h,hz id h⟩
 own:=fun id h=>by
  rcases C8 h with h|⟨h1,rfl⟩
  ·exact .inl h
  ·exact .inr (hp h1)
 frz:=fun id h=>.inl h
 pin:=fun e he ob' h=>by
  have:e≠d:=by rintro rfl;exact(mI hn).1 he
  exact nX this ob' h
 pins:=rfl
theorem R.fI (r:R ν Z st F H) {d:Nat} {ob ob':aL} (h0:ak st.m d=some ob) (hs:sameShape ob ob') (hb:cH ob'=cH ob) (hh:∀id,id≠(ν d).1→H'[id]? = H[id]?) (hbb:cH ob=true)
 (ho:en ν (bl st.m d ob') H' Z d ob'):R ν Z { st with m:=bl st.m d ob' } F H':=by
 have hzr:∀id,Z id→Z id∧aq H' id=aq H id:=fun id h=>⟨h,by
  unfold aq;rw[hh id (by rintro rfl;exact r.apart d ob h0 hbb h)]⟩
 have sm:∀e ob2,ak (bl st.m d ob') e=some ob2→∃ob1,ak st.m e=some ob1∧ν e=ν e∧sameShape ob1 ob2:=fun e ob2 h=>by
  by_cases k:e=d
  ·subst k;rw[cm]at h;cases h;exact⟨ob,h0,rfl,hs⟩
  ·rw[dw st.m ob' (Ne.symm k)]at h;exact⟨ob2,h,rfl,.refl _⟩
 have bk:∀e ob2,ak (bl st.m d ob') e=some ob2→∃ob1,ak st.m e=some ob1∧cH ob1=cH ob2:=fun e ob2 h=>by
  by_cases k:e=d
  ·subst k;rw[cm]at h;cases h;exact⟨ob,h0,hb.symm⟩
  ·rw[dw st.m ob' (Ne.symm k)]at h;exact⟨ob2,h,rfl⟩
 refine⟨fun s sv hs=>(r.slot s sv hs).mono hzr fun e _=>sm e,fun d' ob2 hd => ?_,?_,?_,fun id h=>by rw[(hzr id h).2];exact r.zrow id h,r.deep.mono fun id h=>(hzr id h).2⟩
 ·by_cases e:d'=d
  ·subst e;simp only at hd;rw[cm]at hd;cases hd;exact ho
  ·simp only at hd;rw[dw st.m ob' (Ne.symm e)]at hd;refine en.mono hzr rfl (fun hb2=>hh _ fun h=>e (r.inj d' d ob2 ob hd h0 hb2 hbb h)) (fun k _=>sm k) (r.obj d' ob2 hd)
 ·intro d1 d2 o1 o2 h1 h2 b1 b2 hp;obtain⟨p1,k1,l1⟩:=bk d1 o1 h1;obtain⟨p2,k2,l2⟩:=bk d2 o2 h2;exact r.inj d1 d2 p1 p2 k1 k2 (by rw[l1];exact b1) (by rw[l2];exact b2) hp
 ·intro d1 o1 h1 b1;obtain⟨p1,k1,l1⟩:=bk d1 o1 h1;exact r.apart d1 p1 k1 (by rw[l1];exact b1)
theorem Ev.fI (r:R ν Z st F H) {d:Nat} {ob ob':aL} (h0:ak st.m d=some ob) (hs:sameShape ob ob') (hb:cH ob'=cH ob) (hh:∀id,id≠(ν d).1→H'[id]? = H[id]?) (hbb:cH ob=true) (hl:H.length≤H'.length) :
 Ev Rv ν Z st H ν Z { st with m:=bl st.m d ob' } H' where
 len:=hl
 same:=fun id _ ho _ _=>hh id fun e=>ho ⟨d,ob,h0,hbb,e.symm⟩
 rows:=fun id h=>⟨h,by unfold aq;rw[hh id (by rintro rfl;exact r.apart d ob h0 hbb h)]⟩
 own:=fun id ⟨k,o,h1,h2,h3⟩=>by
  by_cases e:k=d
  ·subst e;simp only at h1;rw[cm]at h1;cases h1;exact .inl ⟨k,ob,h0,hbb,h3⟩
  ·simp only at h1;rw[dw st.m ob' (Ne.symm e)]at h1;exact .inl ⟨k,o,h1,h2,h3⟩
 frz:=fun id h=>.inl h
 pin:=fun e _ ob2 h=>by
  by_cases k:e=d
  ·subst k;simp only at h;rw[cm]at h;cases h;exact⟨ob,h0,rfl,hs⟩
  ·simp only at h;rw[dw st.m ob' (Ne.symm k)]at h;exact⟨ob2,h,rfl,.refl _⟩
 pins:=rfl
theorem R.less (r:R ν Z st F H) {g:Tb SV} {m':Tb aL} (hg:∀s sv,ak g s=some sv→ak st.g s=some sv) (hm:∀d ob,ak m' d=some ob→ak st.m d=some ob):R ν Z { st with g:=g,m:=m' } F H where
 slot:=fun s sv hs=>(r.slot s sv (hg s sv hs)).mono (fun id h=>⟨h,rfl⟩) fun e _ ob' h=>⟨ob',hm e ob' h,rfl,.refl _⟩
 obj:=fun d ob hd=>en.mono (fun id h=>⟨h,rfl⟩) rfl (fun _=>rfl) (fun e _ ob' h=>⟨ob',hm e ob' h,rfl,.refl _⟩) (r.obj d ob (hm d ob hd))
 inj:=fun d d' ob ob' h1 h2=>r.inj d d' ob ob' (hm d ob h1) (hm d' ob' h2)
 apart:=fun d ob h=>r.apart d ob (hm d ob h)
 zrow:=r.zrow
 deep:=r.deep
theorem Ev.less {g:Tb SV} {m':Tb aL} (hm:∀d ob,ak m' d=some ob→ak st.m d=some ob):Ev Rv ν Z st H ν Z { st with g:=g,m:=m' } H:=
 ⟨Nat.le_refl _,fun _ _ _ _ _=>rfl,fun _ h=>⟨h,rfl⟩,fun _ ⟨d,ob,h1,h2,h3⟩=>.inl ⟨d,ob,hm d ob h1,h2,h3⟩,fun _ h=>.inl h,fun e _ ob' h=>⟨ob',hm e ob' h,rfl,.refl _⟩,rfl⟩
theorem Ev.heap (hl:H.length≤H'.length) (hs:∀id,id<H.length→¬eP ν st.m id→¬Z id→¬Rv id→H'[id]? = H[id]?) (hz:∀id,Z id→aq H' id=aq H id):Ev Rv ν Z st H ν Z st H':=
 ⟨hl,hs,fun id h=>⟨h,hz id h⟩,fun _ h=>.inl h,fun _ h=>.inl h,fun _ _ ob' h=>⟨ob',h,rfl,.refl _⟩,rfl⟩
end
end Go.VE
namespace Go.VE
section
variable {Rv:Nat→Prop} {ν ν':Nu} {Z Z':Nat→Prop} {st st':St} {m m':Tb aL} {F F':Frame} {H H':an}
theorem fG.A0 {xs ys:List (List V)} (h:fG H Z xs ys):tv H Z ys:=fun c hc u hu=>by
 obtain⟨i,hi⟩:=List.mem_iff_getElem?.1 hc;have hl:i<xs.length:=by rw[h.1];exact(Zf.1 hi).1
 have hr:=h.2 i _ c (Ze hl) hi;obtain⟨j,hj⟩:=List.mem_iff_getElem?.1 hu;have hl2:j<(xs[i]).length:=by rw[hr.1];exact(Zf.1 hj).1
 exact⟨_,hr.2 j _ u (Ze hl2) hj⟩
theorem fG.same {xs:List (List V)} (h:V.kr xs=true):fG H Z xs xs:=
 ⟨rfl,fun j u v hu hv=>by rw[hu]at hv;cases hv;exact cW.same (jA.1 h j u hu)⟩
theorem kc {z:List V} (h:V.bR z=true):∀n,V.kr (List.replicate n z)=true
 | 0=>rfl
 | n+1=>by simp only[List.replicate_succ,V.kr,h,kc h n,Bool.and_self]
theorem we {es:Nat}:∀{ps qs:List (Nat×V)} {xs xs' r:List (List V)},fG H Z xs xs'→ps.map (·.1)=qs.map (·.1)→cW H Z (ps.map (·.2)) (qs.map (·.2))→fH es xs ps=some r→∃r',fH es xs' qs=some r'∧fG H Z r r'
 | [],qs,xs,xs',r,hx,h1,h2,h=>by
  have:qs=[]:=by cases qs with|nil=>rfl|cons _ _=>simp at h1
  subst this;simp only[fH,Za]at h ⊢;subst h;exact⟨_,rfl,hx⟩
 | (i,v)::ps,qs,xs,xs',r,hx,h1,h2,h=>by
  cases qs with
  | nil=>simp at h1
  | cons q qs=>
   obtain⟨j,w⟩:=q;simp only[List.map_cons,List.cons.injEq]at h1;obtain⟨e,h1⟩:=h1;subst e;obtain⟨w',ws,e,h3,h4⟩:=h2.inv;simp only[List.map_cons,List.cons.injEq]at e;obtain⟨rfl,rfl⟩:=e;have hc:=h3.cells;simp only[fH]at h ⊢;split at h
   ·rename_i hcnd;rw[if_pos ⟨by rw[←hc.1];exact hcnd.1,by rw[←hx.1];exact hcnd.2.1,by rw[hc.one];exact hcnd.2.2⟩]
    exact we (hx.set i hc) h1 h4 h
   ·simp at h
theorem zg:∀{idx:List Nat} {xs:List V},idx.length=xs.length→(idx.zip xs).map (·.1)=idx
 | [],xs,_=>by simp
 | i::idx,[],h=>by simp at h
 | i::idx,x::xs,h=>by simp[zg (idx:=idx) (xs:=xs) (by simpa using h)]
theorem zA:∀{idx:List Nat} {xs:List V},idx.length=xs.length→(idx.zip xs).map (·.2)=xs
 | [],[],_=>by simp
 | [],x::xs,h=>by simp at h
 | i::idx,[],h=>by simp at h
 | i::idx,x::xs,h=>by simp[zA (idx:=idx) (xs:=xs) (by simpa using h)]
theorem vJ {x:SV} {y:V} (h:qb m x=true) (r:cZ ν m H Z x y):y.cells=[y]∧y.one=true:=by
 cases x with
 | v x=>simp[qb]at h
 | own d=>
  obtain⟨ob,hob⟩:=Option.isSome_iff_exists.1 h;obtain⟨k,es,xs,rfl,rfl⟩:=r.ju hob;cases k <;> exact⟨rfl,rfl⟩
 | ptr d o=>
  obtain⟨ob,hob⟩:=Option.isSome_iff_exists.1 h;obtain⟨cs,rfl,rfl⟩:=r.lO hob;exact⟨rfl,rfl⟩
 | el d i o=>
  obtain⟨ob,hob⟩:=Option.isSome_iff_exists.1 h;obtain⟨k,es,xs,rfl,_,rfl⟩:=r.sg hob;exact⟨rfl,rfl⟩
 | mp d=>
  obtain⟨ob,hob⟩:=Option.isSome_iff_exists.1 h;obtain⟨kvs,rfl,rfl⟩:=r.zb hob;exact⟨rfl,rfl⟩
 | clo f a b=>obtain⟨a',b',rfl,_⟩:=r.iW;exact⟨rfl,rfl⟩
 | tup l=>simp[qb]at h
 | yl id=>simp[qb]at h
theorem E6 {a:GP} {svs:List SV} {ys:List V} {d:Nat} {ob:aL} {sv:SV} (hk:qW (.a a)=true) (r:bF ν m H Z svs ys) (h:kT m a svs d=some (ob,sv)) :
 ∃o mk,iM a ys=some (o,mk)∧cH ob=true∧o≠.free∧∀(id:Nat) (ν':Nu) (m':Tb aL) (H':an),ν' d=(id,0)→ak m' d=some ob→H'[id]? = some o→(∀k,Z k→aq H' k=aq H k) →
  (∀e,SV.c_ e svs=true→∀ob',ak m' e=some ob'→∃ob,ak m e=some ob∧ν' e=ν e∧sameShape ob ob')→en ν' m' H' Z d ob∧cZ ν' m' H' Z sv (mk.val id):=by
 unfold kT at h;split at h
 ·
  rename_i size zero;simp only[Za,Zd]at h;obtain⟨rfl,rfl⟩:=h;rw[r.cS];simp only[qW,Zj]at hk;refine⟨_,_,rfl,rfl,by simp,fun id ν' m' H' e1 e2 e3 e4 e5=>⟨⟨_,zero,by rw[e1];exact e3,bF.oG (cW.same hk.1),hk.2⟩,?_⟩⟩
  exact .ptr _ _ _ fun ob' h'=>by rw[e2]at h';cases h';exact⟨_,rfl,by rw[e1];rfl⟩
 ·
  rename_i x;split at h
  ·rename_i hone;simp only[Za,Zd]at h;obtain⟨rfl,rfl⟩:=h;obtain⟨y,_,rfl,h1,h2⟩:=r.inv;rw[h2.cS];have hc:=h1.fr.cells;refine⟨.row y.cells.length [y.cells],.ptr,by simp only[iM,hc.one,hone,if_true],rfl,by simp,fun id ν' m' H' e1 e2 e3 e4 e5=>⟨⟨_,y.cells,by rw[e1];exact e3,bF.oG (hc.mono fun k hk=>⟨hk,e4 k hk⟩),by rw[hc.one];exact hone⟩,?_⟩⟩
   exact .ptr _ _ _ fun ob' h'=>by rw[e2]at h';cases h';exact⟨_,rfl,by rw[e1];rfl⟩
  ·simp at h
 ·
  rename_i x hx;split at h
  ·rename_i hl;simp only[Za,Zd]at h;obtain⟨rfl,rfl⟩:=h;obtain⟨y,_,rfl,h1,h2⟩:=r.inv;rw[h2.cS];obtain⟨c1,c2⟩:=vJ hl h1;refine⟨.row [y].length [[y]],.ptr,by simp only[iM,c1,List.all_cons,c2,List.all_nil,Bool.and_self,if_true],rfl,by simp,fun id ν' m' H' e1 e2 e3 e4 e5=>⟨⟨_,[y],by rw[e1];exact e3,.cons (h1.mono (fun k hk=>⟨hk,e4 k hk⟩) fun e he=>e5 e (by simp[SV.c_,he])) .nil,by simp[c2]⟩,?_⟩⟩
   exact .ptr _ _ _ fun ob' h'=>by rw[e2]at h';cases h';exact⟨_,rfl,by rw[e1];rfl⟩
  ·simp at h
 ·
  rename_i size zero k n k' c;obtain⟨_,_,rfl,h1,h2⟩:=r.inv;obtain⟨_,_,rfl,h3,h4⟩:=h2.inv;rw[h1.fr.int,h3.fr.int,h4.cS];split at h
  ·rename_i hc;simp only[Za,Zd]at h;obtain⟨rfl,rfl⟩:=h;simp only[qW]at hk;have hb:b_ (if n=c then Fl.row else Fl.part)=true:=by split <;> rfl
   refine⟨_,_,by simp only[iM];rw[if_pos hc],hb,by simp,fun id ν' m' H' e1 e2 e3 e4 e5=>⟨?_,?_⟩⟩
   ·simp only[en,hb,if_true,e1];have hg:=kc hk c.toNat;have hnc:n.toNat≤c.toNat:=by omega
    refine⟨_,e3,by simp;omega,?_,(fG.same hg).A0,fun e => ?_⟩
    ·simp only[List.drop_zero,List.length_replicate,List.take_replicate,Nat.min_eq_left hnc];exact fG.same (kc hk _)
    ·have:n=c:=by
      by_cases e':n=c
      ·exact e'
      ·rw[if_neg e']at e;cases e
     subst this;simp
   ·refine .own _ _ fun ob' h' => ?_
    rw[e2]at h';cases h';exact⟨_,_,_,rfl,by rw[nV hb,e1];simp[Mk.val]⟩
  ·simp at h
 ·
  rename_i vs size len zero idx;split at h
  ·rename_i xs hx;split at h
   ·rename_i hl;obtain⟨rows,hr,e⟩:=Zh.1 h;simp only[Zd]at e;obtain⟨rfl,rfl⟩:=e;have hf:=r.d_ hx;simp only[qW]at hk;obtain⟨rows',hr',hrr⟩:=we (H:=H) (Z:=Z) (qs:=idx.zip ys) (fG.same (kc hk len)) (by rw[zg hl,zg (by rw[←hf.1];exact hl)]) (by rw[zA hl,zA (by rw[←hf.1];exact hl)];exact hf) hr
    have hlen:rows'.length=len:=by
     have:∀{ps:List (Nat×V)} {a r:List (List V)},fH size a ps=some r→r.length=a.length:=by
      intro ps
      induction ps with
      | nil=>intro a r h;simp only[fH,Za]at h;subst h;rfl
      | cons p ps ih=>
       intro a r h;obtain⟨i,v⟩:=p;simp only[fH]at h;split at h
       ·rw[ih h];simp
       ·simp at h
     rw[this hr'];simp
    refine⟨.row size rows',.sl size len,by simp only[iM];rw[if_pos (by rw[←hf.1];exact hl),hr'];rfl,rfl,by simp,fun id ν' m' H' e1 e2 e3 e4 e5=>⟨?_,?_⟩⟩
    ·have hr2:=hrr.mono (H':=H') (Z':=Z) fun k hk=>⟨hk,e4 k hk⟩
     simp only[en,b_,if_true,e1];refine⟨_,e3,by simp[hrr.1],?_,hr2.A0,fun _=>⟨trivial,hrr.1.symm⟩⟩
     simp only[List.drop_zero,hrr.1,List.take_length];exact hr2
    ·refine .own _ _ fun ob' h' => ?_
     rw[e2]at h';cases h';exact⟨_,_,_,rfl,by rw[hrr.1,hlen];simp[rW,e1,Mk.val]⟩
   ·simp at h
  ·simp at h
 ·
  simp only[Za,Zd]at h;obtain⟨rfl,rfl⟩:=h;rw[r.cS];refine⟨_,_,rfl,rfl,by simp,fun id ν' m' H' e1 e2 e3 e4 e5=>⟨⟨_,by rw[e1];exact e3,rfl,by simp⟩,?_⟩⟩
  exact .mp _ _ fun ob' h'=>by rw[e2]at h';cases h';exact⟨_,rfl,by rw[e1];rfl⟩
 ·simp at h
theorem bF.Mi {cs:List SV} {cs':List V} (h:bF ν m H Z cs cs') {size o:Nat} {x:SV} {y:V} {r:List SV} (hx:cZ ν m H Z x y) (hp:mH m size o x cs=some r) (hone:cs'.all V.one=true) :
 y.cells.length=size∧o+size≤cs'.length∧y.cells.all V.one=true∧bF ν m H Z r (cs'.take o++y.cells++cs'.drop (o+y.cells.length))∧(cs'.take o++y.cells++cs'.drop (o+y.cells.length)).all V.one=true:=by
 have hall:∀k:Nat,(cs'.take k).all V.one=true∧(cs'.drop k).all V.one=true:=fun k=>
  ⟨List.all_eq_true.2 fun z hz=>List.all_eq_true.1 hone z (List.mem_of_mem_take hz),List.all_eq_true.2 fun z hz=>List.all_eq_true.1 hone z (List.mem_of_mem_drop hz)⟩
 unfold mH at hp;split at hp
 ·rename_i x;split at hp
  ·rename_i hc;simp only[Za]at hp;subst hp;have hf:=hx.fr.cells;refine⟨by rw[←hf.1];exact hc.1,by rw[←h.1];exact hc.2.1,by rw[hf.one];exact hc.2.2,?_,?_⟩
   ·have e:y.cells.length=size:=by rw[←hf.1];exact hc.1
    rw[e];exact((h.take o).append (bF.oG hf)).append (h.drop _)
   ·simp only[List.all_append,(hall _).1,(hall _).2,hf.one,hc.2.2,Bool.and_self]
  ·simp at hp
 ·split at hp
  ·rename_i hc;simp only[Za]at hp;subst hp;obtain⟨c1,c2⟩:=vJ hc.1 hx;rw[c1];refine⟨by simp[hc.2.1],by rw[←h.1];have:=hc.2.2;omega,by simp[c2],?_,?_⟩
   ·exact((h.take o).append (.cons hx .nil)).append (h.drop _)
   ·simp only[List.all_append,(hall _).1,(hall _).2,List.all_cons,c2,List.all_nil,Bool.and_self]
  ·simp at hp
theorem q_ {size:Nat} {x:SV} {y:V} {xs:List (List V)} (r:cZ ν m H Z x y) (ho:∀d ob,ak m d=some ob→en ν m H Z d ob) (h:lp m size x=some xs):∃ys,ec H size y=some ys∧fG H Z xs ys:=by
 unfold lp at h;split at h
 ·split at h
  ·rename_i k es xs' hob;obtain⟨_,_,_,e,rfl⟩:=r.ju hob;cases e;have o:=ho _ _ hob;simp only[en]at o;split at h
   ·rename_i hk;rw[if_pos hk]at o;split at h
    ·rename_i he;simp only[Za]at h;subst h;obtain⟨ys,hr,hl,hf,_⟩:=o;rw[nV hk];exact⟨_,by simp only[ec,if_pos he,hr,Zc,Ob.rows,if_pos hl],hf⟩
    ·simp at h
   ·rename_i hk;simp only[Za]at h;subst h;refine⟨[],?_,rfl,by simp⟩
    cases k <;> simp[b_]at hk <;> rfl
  ·simp at h
 ·simp only[Za]at h;subst h;rw[r.fr.ay];exact⟨[],rfl,rfl,by simp⟩
 ·simp only[Za]at h;subst h;rw[r.fr.dY];exact⟨[],rfl,rfl,by simp⟩
 ·split at h
  ·rename_i es xs' he;simp only[Za]at h;subst h;have hg:=r.fr.bg;rcases r.fr.iX with rfl|⟨id,off,ys,rfl,hz,hr,hl,hf⟩
   ·exact⟨_,by simp only[ec,if_pos he],fG.same (by simpa [V.bg]using hg)⟩
   ·unfold aq at hr;exact⟨_,by simp only[ec,if_pos he,hr,if_pos hl],hf⟩
  ·simp at h
 ·simp at h
theorem Ev.re {m1:Tb aL} (hm:∀d ob,ak m1 d=some ob→ak st.m d=some ob) {d:Nat} (hn:d∉st.pin) {ob:aL} {p:Nat×Nat} (hl:H.length≤H'.length) (hs:∀id,id<H.length→¬eP ν st.m id→¬Rv id→H'[id]? = H[id]?)
 (hz:∀id,Z id→aq H' id=aq H id) (hp:eP ν st.m p.1∨Rv p.1∨H.length≤p.1):Ev Rv ν Z st H (iN ν d p) Z { st with m:=bl m1 d ob } H' where
 len:=hl
 same:=fun id h ho _ hr=>hs id h ho hr
 rows:=fun id h=>⟨h,hz id h⟩
 own:=fun id h=>by
  rcases C8 h with h|⟨h1,rfl⟩
  ·obtain⟨k,o,h1,h2,h3⟩:=h;exact .inl ⟨k,o,hm k o h1,h2,h3⟩
  ·exact hp
 frz:=fun id h=>.inl h
 pin:=fun e he ob' h=>by
  have:e≠d:=by rintro rfl;exact hn he
  obtain⟨o,h1,h2,h3⟩:=nX (ν:=ν) (p:=p) this ob' h;exact⟨o,hm e o h1,h2,h3⟩
 pins:=rfl
def Kept (dst:Option Nat) (ν:Nu) (m:Tb aL) (ν':Nu) (m':Tb aL):Prop:=∀e ob',dst≠some e→ak m' e=some ob'→∃ob,ak m e=some ob∧ν' e=ν e∧sameShape ob ob'
theorem Kept.refl {dst:Option Nat}:Kept dst ν m ν m:=fun e ob' _ h=>⟨ob',h,rfl,.refl _⟩
theorem Kept.fI {dst:Option Nat} {d:Nat} {ob ob':aL} (h0:ak m d=some ob) (hs:sameShape ob ob'):Kept dst ν m ν (bl m d ob'):=fun e ob2 _ h=>by
 by_cases k:e=d
 ·subst k;rw[cm]at h;cases h;exact⟨ob,h0,rfl,hs⟩
 ·rw[dw m ob' (Ne.symm k)]at h;exact⟨ob2,h,rfl,.refl _⟩
theorem Kept.add {d:Nat} {ob:aL} {p:Nat×Nat} {m1:Tb aL} (hm:∀d ob,ak m1 d=some ob→ak m d=some ob):Kept (some d) ν m (iN ν d p) (bl m1 d ob):=fun e ob' he h=>by
 have:e≠d:=fun h=>he (by rw[h])
 obtain⟨o,h1,h2,h3⟩:=nX (ν:=ν) (p:=p) this ob' h;exact⟨o,hm e o h1,h2,h3⟩
theorem wC {d:Nat}:∀e ob,ak (fN d m) e=some ob→ak m e=some ob:=fun _ _ h=>(o8 h).2
theorem yI.put {k x y:V} {a b r:List (V×V)} (hks:k.scalar=true) (h:yI H Z a b) (hx:FR H Z x y) (hp:kX k x a=some r):∃r',kX k y b=some r'∧yI H Z r r':=by
 unfold kX at hp;obtain⟨f1,f2⟩:=wh (k:=k) (i:=0) h;split at hp
 ·rename_i j v hf;simp only[Za]at hp;subst hp;obtain⟨v',hf',_⟩:=f2 j v hf;refine⟨b.set j (k,y),by unfold kX;rw[hf'],by simp[h.1],fun i u w hu hw => ?_⟩
  rw[List.getElem?_set]at hu hw;rw[←h.1]at hw;split at hu
  ·rename_i e;rw[if_pos e]at hw;split at hu
   ·rename_i e2;rw[if_pos e2]at hw;cases hu;cases hw;exact⟨⟨rfl,hks⟩,hx⟩
   ·simp at hu
  ·rename_i e;rw[if_neg e]at hw;exact h.2 i u w hu hw
 ·rename_i hf;simp only[Za]at hp;subst hp;refine⟨b++[(k,y)],by unfold kX;rw[f1 hf],by simp[h.1],fun i u w hu hw => ?_⟩
  by_cases hi:i<a.length
  ·rw[List.getElem?_append_left hi]at hu;rw[List.getElem?_append_left (by rw[←h.1];exact hi)]at hw
   exact h.2 i u w hu hw
  ·rw[List.getElem?_append_right (by omega)]at hu
   rw[List.getElem?_append_right (by rw[←h.1];omega),←h.1]at hw
   have:i-a.length=0:=by
    have:=(Zf.1 hu).1;simp at this;omega
   rw[this]at hu hw;simp at hu hw;subst hu;subst hw;exact⟨⟨rfl,hks⟩,hx⟩
 ·simp at hp
theorem BQ (r:R ν Z st F H) {dst:Option Nat} {l:Du} {svs:List SV} {ys:List V} {sv:SV} (hsv:bF ν st.m H Z svs ys) (h:kI st dst l svs=some (sv,st')) :
 ∃y H' ν',gA H l ys=some (y,H')∧R ν' Z st' F H'∧cZ ν' st'.m H' Z sv y∧Ev (fun _=>False) ν Z st H ν' Z st' H'∧Kept dst ν st.m ν' st'.m:=by
 unfold kI at h;split at h
 ·
  rename_i size d o x;obtain⟨_,_,rfl,h1,h2⟩:=hsv.inv;obtain⟨y,_,rfl,h3,h4⟩:=h2.inv;rw[h4.cS];split at h
  ·rename_i cs hob;obtain⟨cs1,hp,e⟩:=Zh.1 h;simp only[Zd]at e;obtain⟨rfl,rfl⟩:=e;obtain⟨_,_,rfl⟩:=h1.lO hob;obtain⟨es,cs',hr,hc,hone⟩:=r.obj d _ hob;obtain⟨p1,p2,p3,p4,p5⟩:=bF.Mi hc h3 hp hone;have hh:∀id,id≠(ν d).1→(H.set (ν d).1 (.row es [cs'.take o++y.cells++cs'.drop (o+y.cells.length)]))[id]? = H[id]? := fun id hne=>by rw[List.getElem?_set];rw[if_neg (Ne.symm hne)]
   have hz:∀id,Z id→Z id∧aq (H.set (ν d).1 (.row es [cs'.take o++y.cells++cs'.drop (o+y.cells.length)])) id=aq H id:=fun id hz=>⟨hz,by
    unfold aq;rw[hh id (by rintro rfl;exact r.apart d _ hob rfl hz)]⟩
   refine⟨.undef,H.set (ν d).1 (.row es [cs'.take o++y.cells++cs'.drop (o+y.cells.length)]),ν,?_,?_,.v _ _ (.same _ rfl),Ev.fI r hob trivial rfl hh rfl (by simp),Kept.fI hob trivial⟩
   ·simp only[gA,hr,List.getElem?_cons_zero,if_pos (And.intro p1 (And.intro p2 p3)),List.set_cons_zero]
   ·refine r.fI hob (ob':=.box cs1) trivial rfl hh rfl ⟨es,_,?_,p4.mono hz (fun e _ ob' he => ?_),p5⟩
    ·have:=(Zf.1 hr).1;rw[List.getElem?_set_self this]
    ·by_cases k:e=d
     ·subst k;rw[cm]at he;cases he;exact⟨_,hob,rfl,trivial⟩
     ·rw[dw st.m _ (Ne.symm k)]at he;exact⟨ob',he,rfl,.refl _⟩
  ·simp at h
 ·
  rename_i size d i o x;obtain⟨_,_,rfl,h1,h2⟩:=hsv.inv;obtain⟨y,_,rfl,h3,h4⟩:=h2.inv;rw[h4.cS];split at h
  ·rename_i k es xs hob;split at h
   ·rename_i cs hcs;split at h
    ·rename_i hc;simp only[Za,Zd]at h;obtain⟨rfl,rfl⟩:=h;obtain⟨_,_,_,e,hk,rfl⟩:=h1.sg hob;cases e;have ob:=r.obj d _ hob;simp only[en,hk,if_true]at ob;obtain⟨rs,hr,hl,hf,hsol,hrow⟩:=ob;obtain⟨c,hcc,hfc⟩:=hf.get hcs;have hi:=(Zf.1 hcs).1;rw[List.getElem?_take,if_pos hi,List.getElem?_drop]at hcc;have hy:=h3.fr.cells;have q1:y.cells.length=size:=by rw[←hy.1];exact hc.1
     have q2:o+size≤c.length:=by rw[←hfc.1];exact hc.2.1
     have q3:y.cells.all V.one=true:=by rw[hy.one];exact hc.2.2
     have hnew:cW H Z (cs.take o++x.cells++cs.drop (o+x.cells.length)) (c.take o++y.cells++c.drop (o+y.cells.length)):=by
      rw[hc.1,q1];exact((hfc.take o).append hy).append (hfc.drop _)
     generalize hN:(c.take o++y.cells++c.drop (o+y.cells.length))=nc at hnew;have hh:∀id,id≠(ν d).1→(H.set (ν d).1 (.row es (rs.set ((ν d).2+i) nc)))[id]? = H[id]? := fun id hne=>by rw[List.getElem?_set];rw[if_neg (Ne.symm hne)]
     have hbk:cH (.sl k es xs)=true:=hk;have hz:∀id,Z id→Z id∧aq (H.set (ν d).1 (.row es (rs.set ((ν d).2+i) nc))) id=aq H id:=fun id hz=>⟨hz,by
      unfold aq;rw[hh id (by rintro rfl;exact r.apart d _ hob hbk hz)]⟩
     have hsh:sameShape (.sl k es xs) (.sl k es (xs.set i (cs.take o++x.cells++cs.drop (o+x.cells.length)))):=⟨rfl,rfl,by simp⟩
     refine⟨.undef,H.set (ν d).1 (.row es (rs.set ((ν d).2+i) nc)),ν,?_,?_,.v _ _ (.same _ rfl),Ev.fI r hob hsh rfl hh hbk (by simp),Kept.fI hob hsh⟩
     ·simp only[gA,hr,hcc,if_pos (And.intro q1 (And.intro q2 q3)),hN]
     ·refine r.fI hob hsh rfl hh hbk ?_;simp only[en,hk,if_true];have hlt:=(Zf.1 hr).1;refine⟨_,List.getElem?_set_self hlt,by simpa using hl,?_,?_,fun e => ?_⟩
      ·have e1:List.take (xs.set i (cs.take o++x.cells++cs.drop (o+x.cells.length))).length (List.drop (ν d).2 (rs.set ((ν d).2+i) nc))=((rs.drop (ν d).2).take xs.length).set i nc:=by
        rw[List.length_set,List.drop_set,if_neg (by omega),List.take_set]
        congr 1;omega
       rw[e1];exact(hf.set i hnew).mono hz
      ·intro cc hcc' u hu;rcases List.mem_or_eq_of_mem_set hcc' with hm|rfl
       ·obtain⟨z,hz'⟩:=hsol cc hm u hu;exact⟨z,hz'.mono hz⟩
       ·obtain⟨j,hj⟩:=List.mem_iff_getElem?.1 hu;have hjl:=(Zf.1 hj).1;rw[←hnew.1]at hjl;exact⟨_,(hnew.2 j _ u (Ze hjl) hj).mono hz⟩
      ·obtain⟨a1,a2⟩:=hrow e;exact⟨a1,by simpa using a2⟩
    ·simp at h
   ·simp at h
  ·simp at h
 ·
  rename_i kk d k x;obtain⟨_,_,rfl,h1,h2⟩:=hsv.inv;obtain⟨k',_,rfl,h3,h4⟩:=h2.inv;obtain⟨y,_,rfl,h5,h6⟩:=h4.inv;rw[h6.cS];split at h
  ·rename_i kvs hob;split at h
   ·rename_i hk;obtain⟨kvs1,hp,e⟩:=Zh.1 h;simp only[Zd]at e;obtain⟨rfl,rfl⟩:=e;obtain⟨_,_,rfl⟩:=h1.zb hob;have hkk:=h3.fr.scalar.1 (pV hk);subst hkk;obtain⟨kvs',hr,hkv⟩:=r.obj d _ hob;obtain⟨r',hr',hrr⟩:=hkv.put (pV hk) h5.fr hp;have hh:∀id,id≠(ν d).1→(H.set (ν d).1 (.map r'))[id]? = H[id]? := fun id hne=>by rw[List.getElem?_set];rw[if_neg (Ne.symm hne)]
    have hz:∀id,Z id→Z id∧aq (H.set (ν d).1 (.map r')) id=aq H id:=fun id hz=>⟨hz,by
     unfold aq;rw[hh id (by rintro rfl;exact r.apart d _ hob rfl hz)]⟩
    refine⟨.undef,H.set (ν d).1 (.map r'),ν,?_,?_,.v _ _ (.same _ rfl),Ev.fI r hob trivial rfl hh rfl (by simp),Kept.fI hob trivial⟩
    ·simp only[gA,hr,hk,if_true,hr',Option.map_some]
    ·refine r.fI hob (ob':=.mp kvs1) trivial rfl hh rfl ⟨r',?_,hrr.mono hz⟩;rw[List.getElem?_set_self (Zf.1 hr).1]
   ·simp at h
  ·simp at h
 ·
  rename_i size s x;obtain⟨y1,_,rfl,h1,h2⟩:=hsv.inv;obtain⟨y2,_,rfl,h3,h4⟩:=h2.inv;rw[h4.cS];split at h
  ·rename_i xs e1 e2;simp only[Za,Zd]at h;obtain⟨rfl,rfl⟩:=h;obtain⟨a1,p1,_⟩:=q_ h1 r.obj e1;obtain⟨a2,p2,q2⟩:=q_ h3 r.obj e2;have:a2=[]:=List.length_eq_zero_iff.1 (by have:=q2.1;simpa using this.symm)
   subst this;exact⟨y1,H,ν,by simp only[gA,p1,p2],r,h1,.refl,.refl⟩
  ·rename_i xs zs hne e1 e2;split at h
   ·rename_i hc;obtain⟨a1,p1,q1⟩:=q_ h1 r.obj e1;obtain⟨a2,p2,q2⟩:=q_ h3 r.obj e2
    cases dst with
    | none=>simp at h
    | some t=>
     dsimp only at h;generalize hm1:giveUp st.m s=m1 at h;split at h
     ·rename_i hnew;simp only[Za,Zd]at h;obtain⟨rfl,rfl⟩:=h;obtain⟨n1,_,_,_⟩:=mI hnew;have grow:∃H1,iE H y1=some H1∧H1.length=H.length∧(∀id,¬eP ν st.m id→H1[id]? = H[id]?) ∧
       (∀id,eP ν m1 id→H1[id]? = H[id]?)∧(∀id,Z id→aq H1 id=aq H id):=by
       subst hm1
       cases s with
       | own d=>
        simp only[lp]at e1;split at e1
        ·rename_i k es xs' hob;obtain⟨_,_,_,e,rfl⟩:=h1.ju hob;cases e
         by_cases hk:b_ k=true
         ·have o:=r.obj d _ hob;simp only[en,hk,if_true]at o;obtain⟨ys,hr,_⟩:=o;have hbk:cH (.sl k es xs')=true:=hk;have hh:∀id,id≠(ν d).1→(H.set (ν d).1 .dead)[id]? = H[id]? := fun id hne=>by rw[List.getElem?_set];rw[if_neg (Ne.symm hne)]
          refine⟨H.set (ν d).1 .dead,by rw[nV hk];simp only[iE,hr],by simp,fun id ho=>hh id fun e=>ho ⟨d,_,hob,hbk,e.symm⟩,fun id ho=>hh id fun e => ?_,fun id hz => ?_⟩
          ·obtain⟨k2,o2,g1,g2,g3⟩:=ho;obtain⟨g4,g5⟩:=o8 g1;exact g4 (r.inj d k2 _ o2 hob g5 hbk g2 (by rw[g3,e]))
          ·unfold aq;rw[hh id (by rintro rfl;exact r.apart d _ hob hbk hz)]
         ·refine⟨H,?_,rfl,fun _ _=>rfl,fun _ _=>rfl,fun _ _=>rfl⟩
          cases k <;> simp[b_]at hk <;> rfl
        ·simp at e1
       | v x0=>
        refine⟨H,?_,rfl,fun _ _=>rfl,fun _ _=>rfl,fun _ _=>rfl⟩
        cases x0 <;> simp[zk]at hc
        ·rw[h1.fr.dY];rfl
        ·rw[h1.fr.ay];rfl
       | _=>simp[zk]at hc
      obtain⟨H1,g1,g2,g3,g4,g5⟩:=grow;have hsub:∀e ob,ak m1 e=some ob→ak st.m e=some ob:=by
       subst hm1;cases s <;> first|exact fun _ _ h=>h|exact wC
      have hlt1:∀id,eP ν m1 id→id<H.length:=fun id ⟨k,o,w1,w2,w3⟩=>r.lt ⟨k,o,hsub k o w1,w2,w3⟩
      have hget:∀id,id<H.length→(H1++[Ob.row size (a1++a2)])[id]? = H1[id]? := fun id hl=>List.getElem?_append_left (by rw[g2];exact hl)
      have hz2:∀id,Z id→aq (H1++[Ob.row size (a1++a2)]) id=aq H id:=fun id hz=>by
       have:=g5 id hz;unfold aq at this ⊢;rw[hget id (r.q9 hz)];exact this
      have r1:R ν Z { st with m:=m1 } F H:=r.less (g:=st.g) (fun _ _ h=>h) hsub
      have r2:R ν Z { st with m:=m1 } F (H1++[Ob.row size (a1++a2)]):=r1.heap (fun id ho=>by rw[hget id (hlt1 id ho)];exact g4 id ho) hz2
      have ff:=(q1.append q2).mono (H':=H1++[Ob.row size (a1++a2)]) (Z':=Z) fun id hz=>⟨hz,hz2 id hz⟩
      have hnewrow:(H1++[Ob.row size (a1++a2)])[H.length]? = some (.row size (a1++a2)):=by
       rw[←g2];simp
      refine⟨.hsl H.length size 0 (xs.length+zs.length),H1++[Ob.row size (a1++a2)],iN ν t (H.length,0),?_,?_,?_,?_,Kept.add hsub⟩
      ·have hne':a2≠[]:=by
        rintro rfl;have hz0:zs=[]:=List.length_eq_zero_iff.1 (by have:=q2.1;simpa using this)
        exact hne hz0
       have hle:a1.length+a2.length≤2147483648:=by rw[←q1.1,←q2.1];exact hc.1
       have hl1:=q1.1;have hl2:=q2.1
       cases a2 with
       | nil=>exact absurd rfl hne'
       | cons w ws=>
        simp only[gA,p1,p2,if_pos hle,g1,Option.map_some,hl1,hl2]
      ·refine r2.add hnew (fun _=>⟨fun ho => ?_,fun hz => ?_⟩) ?_
       ·exact absurd (hlt1 _ ho) (by simp)
       ·exact absurd (r.q9 hz) (by simp)
       ·simp only[en,b_,if_true,iV];refine⟨_,hnewrow,by simp[q1.1,q2.1],?_,ff.A0,fun _=>⟨trivial,by simp[q1.1,q2.1]⟩⟩
        have:(xs++zs).length=(a1++a2).length:=by simp[q1.1,q2.1]
        rw[this,List.drop_zero,List.take_length];exact ff
      ·refine .own _ _ fun ob' h' => ?_
       simp only at h';rw[cm]at h';cases h';exact⟨_,_,_,rfl,by simp[rW,iV]⟩
      ·refine Ev.re hsub n1 (by simp[g2]) (fun id hl ho _ => ?_) hz2 (.inr (.inr (Nat.le_refl _)))
       rw[hget id hl];exact g3 id ho
     ·simp at h
   ·simp at h
  ·simp at h
 ·
  rename_i size d o x l;obtain⟨_,_,rfl,h1,h2⟩:=hsv.inv;obtain⟨y,ys2,rfl,h3,h4⟩:=h2.inv;split at h
  ·rename_i hfar;split at h
   ·rename_i cs hob;obtain⟨cs1,hp,e⟩:=Zh.1 h;simp only[Zd]at e;obtain⟨rfl,rfl⟩:=e;obtain⟨_,_,rfl⟩:=h1.lO hob;obtain⟨es,cs',hr,hc,hone⟩:=r.obj d _ hob;obtain⟨p1,p2,p3,p4,p5⟩:=bF.Mi hc h3 hp hone;have hh:∀id,id≠(ν d).1→(H.set (ν d).1 (.row es [cs'.take o++y.cells++cs'.drop (o+y.cells.length)]))[id]? = H[id]? := fun id hne=>by rw[List.getElem?_set];rw[if_neg (Ne.symm hne)]
    have hz:∀id,Z id→Z id∧aq (H.set (ν d).1 (.row es [cs'.take o++y.cells++cs'.drop (o+y.cells.length)])) id=aq H id:=fun id hz=>⟨hz,by
     unfold aq;rw[hh id (by rintro rfl;exact r.apart d _ hob rfl hz)]⟩
    have hall:∀{l:List SV} {ws:List V},bF ν st.m H Z l ws→l.all (Hw st.m d)=true→ws.all (oT (ν d).1)=true:=by
     intro l
     induction l with
     | nil=>intro ws hw _;rw[hw.cS];rfl
     | cons a l ih=>
      intro ws hw hf;obtain⟨w,ws,rfl,g1,g2⟩:=hw.inv;simp only[List.all_cons,Zj]at hf ⊢;refine⟨?_,ih g2 hf.2⟩;have hf1:=hf.1;unfold Hw at hf1;split at hf1
      ·rename_i d' o';simp only[Zj,bne_iff_ne,ne_eq]at hf1;obtain⟨hne,hbx⟩:=hf1;split at hbx
       ·rename_i cs2 hob2;obtain⟨_,_,rfl⟩:=g1.lO hob2;simp only[oT,bne_iff_ne,ne_eq];exact fun e=>hne (r.inj d' d _ _ hob2 hob rfl rfl e)
       ·cases hbx
      ·rename_i xs;rcases FR.jh g1.fr with rfl|⟨id,el,off,_,_,_,rfl,hzz,_⟩
       ·rfl
       ·simp only[oT,bne_iff_ne,ne_eq];rintro rfl;exact r.apart d _ hob rfl hzz
      ·cases hf1
    refine⟨.undef,H.set (ν d).1 (.row es [cs'.take o++y.cells++cs'.drop (o+y.cells.length)]),ν,?_,?_,.v _ _ (.same _ rfl),Ev.fI r hob trivial rfl hh rfl (by simp),Kept.fI hob trivial⟩
    ·simp only[gA,hall h4 hfar,if_true,hr,List.getElem?_cons_zero,if_pos (And.intro p1 (And.intro p2 p3)),List.set_cons_zero]
    ·refine r.fI hob (ob':=.box cs1) trivial rfl hh rfl ⟨es,_,?_,p4.mono hz (fun e _ ob' he => ?_),p5⟩
     ·have:=(Zf.1 hr).1;rw[List.getElem?_set_self this]
     ·by_cases k:e=d
      ·subst k;rw[cm]at he;cases he;exact⟨_,hob,rfl,trivial⟩
      ·rw[dw st.m _ (Ne.symm k)]at he;exact⟨ob',he,rfl,.refl _⟩
   ·simp at h
  ·simp at h
 ·simp at h
end
end Go.VE
namespace Go.VE
def uE (d:Nat) (st:St):Option St:=
 match ak st.m d with
 | some (.sl k es xs)=>some { st with g:=wB (SV.sub d (kM k es xs)) st.g,m:=mapM (SV.qh d (kM k es xs)) (fN d st.m) }
 | _=>none
def Qx (st:St):Loc→Option SV
 | .s n=>ak st.g n
 | .c b i=>match ak st.m b with
  | some (.box cs)=>cs[i]?
  | _=>none
def ghost (x:Gh) (st:St):Option St:=
 match x with
 | .closeS l=>match Qx st l with
  | some (.own d)=>uE d st
  | some _=>some st
  | none=>none
 | .close d=>uE d st
 | .closeB d=>match ak st.m d with
  | some (.box cs)=>match d_ cs with
   | some xs=>some { st with g:=wB (SV.wK d xs) st.g,m:=mapM (SV.nC d xs) (fN d st.m) }
   | none=>none
  | _=>none
 | .canon (.s n) d es=>match ak st.g n with
  | some (.v .ay)=>if st.new d then some { st with g:=bl st.g n (.own d),m:=bl st.m d (.sl .nil es []) } else none
  | some (.v .dY)=>if st.new d then some { st with g:=bl st.g n (.own d),m:=bl st.m d (.sl .emp es []) } else none
  | some (.own e)=>if e=d then some st else if st.new d then some { st with g:=wX e d st.g,m:=qG e d st.m } else none
  | _=>none
 | .canon (.c b i) d es=>match ak st.m b with
  | some (.box cs)=>match cs[i]? with
   | some (.v .ay)=>if st.new d then some { st with m:=bl (bl st.m d (.sl .nil es [])) b (.box (cs.set i (.own d))) } else none
   | some (.v .dY)=>if st.new d then some { st with m:=bl (bl st.m d (.sl .emp es [])) b (.box (cs.set i (.own d))) } else none
   | some (.own e)=>if e=d then some st else if st.new d then some { st with g:=wX e d st.g,m:=qG e d st.m } else none
   | _=>none
  | _=>none
 | .keep gs ms=>match uY st.g gs,uY st.m ms with
  | some g,some m=>some { st with g:=g,m:=m }
  | _,_=>none
 | .drop ds=>some { st with g:=tq ds st.g }
section
variable {Rv:Nat→Prop} {ν ν':Nu} {Z Z':Nat→Prop} {st st':St} {m m':Tb aL} {F F':Frame} {H H':an} {N:Nat→FuncId}
theorem FN (r:R ν Z st F H) {dst:Option Nat} {size d:Nat} {lo hi:Bool} {bs:List SV} {ys:List V} {sv:SV} (hsv:bF ν st.m H Z (.own d::bs) ys) (h:uF st dst size lo hi d bs=some (sv,st')) :
 ∃y ν',aI N (.slice size lo hi) ys=some y∧R ν' Z st' F H∧cZ ν' st'.m H Z sv y∧Ev Rv ν Z st H ν' Z st' H:=by
 unfold uF at h;obtain⟨y0,zs,rfl,h1,h2⟩:=hsv.inv;split at h
 ·rename_i k es xs ws t hob hw;split at h
  ·rename_i hk;obtain⟨⟨l,hh⟩,hb,h⟩:=Zi.1 h;obtain⟨⟨a,b⟩,hbd,h⟩:=Zi.1 h;dsimp only at h;split at h
   ·rename_i hnew;simp only[Za,Zd]at h;obtain⟨rfl,rfl⟩:=h;obtain⟨_,_,_,e,rfl⟩:=h1.ju hob;cases e;have hle:b≤xs.length∧a≤b:=by
     unfold dR at hbd;dsimp only at hbd;split at hbd
     ·simp only[Za,Zd]at hbd;omega
     ·simp at hbd
    have o:=r.obj d _ hob;simp only[en,hk.1,if_true]at o;obtain⟨rs,hr,hl,hf,hsol,_⟩:=o;have hbk:cH (.sl k es xs)=true:=hk.1;have r1:R ν Z { st with m:=fN d st.m } F H:=r.less (g:=st.g) (fun _ _ h=>h) wC
    have hno:¬eP ν (fN d st.m) (ν d).1:=by
     rintro⟨k2,o2,g1,g2,g3⟩;obtain⟨g4,g5⟩:=o8 g1;exact g4 (r.inj d k2 _ o2 hob g5 hbk g2 g3.symm)
    have hlen:((xs.take b).drop a).length=b-a:=by simp;omega
    refine⟨.hsl (ν d).1 es ((ν d).2+a) (b-a),iN ν t ((ν d).1,(ν d).2+a),?_,?_,?_,?_⟩
    ·have hf2:=bF.d_ h2 hw;rw[nV hk.1];simp only[aI,hf2.jS hb,Zc,iI,if_pos hk.2,hbd,Option.map_some]
    ·refine r1.add hnew (fun _=>⟨hno,r.apart d _ hob hbk⟩) ?_
     simp only[en,b_,if_true,iV];refine⟨rs,hr,by rw[hlen];omega,?_,hsol,fun e=>by cases e⟩
     have:=(hf.take b).drop a;have e:List.drop a (List.take b (List.take xs.length (List.drop (ν d).2 rs)))=List.take (b-a) (List.drop ((ν d).2+a) rs):=by
      rw[List.take_take,Nat.min_eq_left hle.1,List.drop_take,List.drop_drop]
     rw[e]at this;rw[hlen];exact this
    ·refine .own _ _ fun ob' h' => ?_
     simp only at h';rw[cm]at h';cases h';exact⟨_,_,_,rfl,by rw[hlen];simp[rW,iV]⟩
    ·exact Ev.re (st:=st) wC (mI hnew).1 (Nat.le_refl _) (fun _ _ _ _=>rfl) (fun _ _=>rfl) (.inl ⟨d,_,hob,hbk,rfl⟩)
   ·simp at h
  ·simp at h
 ·simp at h
theorem zY {f:SV→SV}:∀{g:Tb SV} {s:Nat},ak (wB f g) s=(ak g s).map f
 | [],s=>rfl
 | (k,x)::r,s=>by
  simp only[wB,ak];split
  ·rfl
  ·exact zY
def tf (f:List SV→List SV):aL→aL
 | .box cs=>.box (f cs)
 | o=>o
theorem AD {f:List SV→List SV}:∀{m:Tb aL} {d:Nat},ak (mapM f m) d=(ak m d).map (tf f)
 | [],d=>rfl
 | (k,x)::r,d=>by
  cases x <;> simp only[mapM,ak] <;> split <;> first|rfl|exact AD
theorem qD {d:Nat} {w:V}:∀{l:List SV} {j:Nat},(SV.qh d w l)[j]? = (l[j]?).map (SV.sub d w)
 | [],j=>by simp[SV.qh]
 | x::r,0=>by simp[SV.qh]
 | x::r,j+1=>by simp[SV.qh,qD (l:=r)]
theorem oP {d:Nat} {w:List V}:∀{l:List SV} {j:Nat},(SV.nC d w l)[j]? = (l[j]?).map (SV.wK d w)
 | [],j=>by simp[SV.nC]
 | x::r,0=>by simp[SV.nC]
 | x::r,j+1=>by simp[SV.nC,oP (l:=r)]
theorem mg {d:Nat} {w:V}:∀{l:List SV},(SV.qh d w l).length=l.length
 | []=>rfl
 | x::r=>by simp[SV.qh,mg (l:=r)]
theorem lA {d:Nat} {w:List V}:∀{l:List SV},(SV.nC d w l).length=l.length
 | []=>rfl
 | x::r=>by simp[SV.nC,lA (l:=r)]
theorem cZ.sub {sv:SV} {y:V} {d:Nat} {k:Fl} {es:Nat} {xs:List (List V)} (h0:ak m d=some (.sl k es xs)) (hf:FR H Z' (kM k es xs) (rW (ν d) k es xs.length)) (hz:∀id,Z id→Z' id)
 (hm:∀e ob',ak m' e=some ob'→e≠d∧∃ob,ak m e=some ob∧sameShape ob ob') (r:cZ ν m H Z sv y):cZ ν m' H Z' (sv.sub d (kM k es xs)) y:=by
 have hz':∀id,Z id→Z' id∧aq H id=aq H id:=fun id h=>⟨hz id h,rfl⟩
 have hn:∀e ob',ak m' e=some ob'→∃ob,ak m e=some ob∧ν e=ν e∧sameShape ob ob':=fun e ob' h=>by obtain⟨_,ob,h1,h2⟩:=hm e ob' h;exact⟨ob,h1,rfl,h2⟩
 induction r with
 | v x y h=>exact .v x y (h.mono hz')
 | own e y h=>
  simp only[SV.sub];split
  ·rename_i he;subst he;obtain⟨_,_,_,e1,rfl⟩:=h _ h0;cases e1;exact .v _ _ hf
  ·exact(cZ.own e y h).mono hz' fun e _=>hn e
 | ptr e o y h=>exact(cZ.ptr e o y h).mono hz' fun e _=>hn e
 | el e i o y h=>exact(cZ.el e i o y h).mono hz' fun e _=>hn e
 | mp e y h=>exact(cZ.mp e y h).mono hz' fun e _=>hn e
 | clo f a b a' b' ha hb hva hvb iha ihb=>
  refine .clo f _ _ a' b' (by rw[mg];exact ha) (by rw[mg];exact hb) (fun j u v hu hv => ?_) (fun j u v hu hv => ?_)
  ·rw[qD,Zh]at hu;obtain⟨u',hu',rfl⟩:=hu;exact iha j u' v hu' hv
  ·rw[qD,Zh]at hu;obtain⟨u',hu',rfl⟩:=hu;exact ihb j u' v hu' hv
 | tup a a' ha hva iha=>
  refine .tup _ a' (by rw[mg];exact ha) (fun j u v hu hv => ?_)
  rw[qD,Zh]at hu;obtain⟨u',hu',rfl⟩:=hu;exact iha j u' v hu' hv
 | yl id=>exact .yl id
theorem cZ.wK {sv:SV} {y:V} {d:Nat} {cs:List SV} {xs:List V} (h0:ak m d=some (.box cs)) (hf:∀o,o≤xs.length→FR H Z' (.fptr (xs.drop o)) (.hptr (ν d).1 0 o)) (hz:∀id,Z id→Z' id)
 (hm:∀e ob',ak m' e=some ob'→e≠d∧∃ob,ak m e=some ob∧sameShape ob ob') (r:cZ ν m H Z sv y):cZ ν m' H Z' (sv.wK d xs) y:=by
 have hz':∀id,Z id→Z' id∧aq H id=aq H id:=fun id h=>⟨hz id h,rfl⟩
 have hn:∀e ob',ak m' e=some ob'→∃ob,ak m e=some ob∧ν e=ν e∧sameShape ob ob':=fun e ob' h=>by obtain⟨_,ob,h1,h2⟩:=hm e ob' h;exact⟨ob,h1,rfl,h2⟩
 induction r with
 | v x y h=>exact .v x y (h.mono hz')
 | own e y h=>exact(cZ.own e y h).mono hz' fun e _=>hn e
 | ptr e o y h=>
  simp only[SV.wK];split
  ·rename_i he;subst he;obtain⟨_,e1,rfl⟩:=h _ h0;split
   ·rename_i ho;exact .v _ _ (hf o ho)
   ·exact(cZ.ptr e o _ h).mono hz' fun e _=>hn e
  ·exact(cZ.ptr e o y h).mono hz' fun e _=>hn e
 | el e i o y h=>exact(cZ.el e i o y h).mono hz' fun e _=>hn e
 | mp e y h=>exact(cZ.mp e y h).mono hz' fun e _=>hn e
 | clo f a b a' b' ha hb hva hvb iha ihb=>
  refine .clo f _ _ a' b' (by rw[lA];exact ha) (by rw[lA];exact hb) (fun j u v hu hv => ?_) (fun j u v hu hv => ?_)
  ·rw[oP,Zh]at hu;obtain⟨u',hu',rfl⟩:=hu;exact iha j u' v hu' hv
  ·rw[oP,Zh]at hu;obtain⟨u',hu',rfl⟩:=hu;exact ihb j u' v hu' hv
 | tup a a' ha hva iha=>
  refine .tup _ a' (by rw[lA];exact ha) (fun j u v hu hv => ?_)
  rw[oP,Zh]at hu;obtain⟨u',hu',rfl⟩:=hu;exact iha j u' v hu' hv
 | yl id=>exact .yl id
theorem en.tf {d:Nat} {ob:aL} {f:List SV→List SV} (hz:∀id,Z id→Z' id) (hl:∀l,(f l).length=l.length)
 (hf:∀cs cs',bF ν m H Z cs cs'→bF ν m' H Z' (f cs) cs') (o:en ν m H Z d ob):en ν m' H Z' d (tf f ob):=by
 have hz':∀id,Z id→Z' id∧aq H id=aq H id:=fun id h=>⟨hz id h,rfl⟩
 cases ob with
 | sl k es xs=>
  simp only[Go.VE.tf,en]at o ⊢;split
  ·rename_i hk;rw[if_pos hk]at o;obtain⟨ys,h1,h2,h3,h4,h5⟩:=o;exact⟨ys,h1,h2,h3.mono hz',h4.mono hz',h5⟩
  ·rename_i hk;rw[if_neg hk]at o;exact o
 | box cs=>
  obtain⟨es,cs',h1,h2,h3⟩:=o;exact⟨es,cs',h1,hf cs cs' h2,h3⟩
 | mp kvs=>
  obtain⟨kvs',h1,h2⟩:=o;exact⟨kvs',h1,h2.mono hz'⟩
theorem rB {f:List SV→List SV} {ob:aL}:cH (tf f ob)=cH ob:=by cases ob <;> rfl
theorem yO {f:List SV→List SV} {ob:aL}:sameShape ob (tf f ob):=by cases ob <;> simp[tf,sameShape]
theorem R.dI (r:R ν Z st F H) {d:Nat} {ob:aL} (h0:ak st.m d=some ob) {fs:SV→SV} {fl:List SV→List SV} (hl:∀l,(fl l).length=l.length) (hg:∀l (j:Nat),(fl l)[j]? = (l[j]?).map fs)
 (hz':∀id,Z' id↔Z id∨(cH ob=true∧id=(ν d).1)) (hrow:cH ob=true→∃es ys,H[(ν d).1]? = some (.row es ys)∧tv H Z ys)
 (hf:∀m',(∀e ob',ak m' e=some ob'→e≠d∧∃ob,ak st.m e=some ob∧sameShape ob ob')→∀sv y,cZ ν st.m H Z sv y→cZ ν m' H Z' (fs sv) y) :
 R ν Z' { st with g:=wB fs st.g,m:=mapM fl (fN d st.m) } F H∧Ev Rv ν Z st H ν Z' { st with g:=wB fs st.g,m:=mapM fl (fN d st.m) } H:=by
 have key:∀e ob',ak (mapM fl (fN d st.m)) e=some ob'→e≠d∧∃ob,ak st.m e=some ob∧ob'=tf fl ob:=fun e ob' h=>by
  rw[AD,Zh]at h;obtain⟨o,h1,rfl⟩:=h;obtain⟨h2,h3⟩:=o8 h1;exact⟨Ne.symm h2,o,h3,rfl⟩
 have key':∀e ob',ak (mapM fl (fN d st.m)) e=some ob'→e≠d∧∃ob,ak st.m e=some ob∧sameShape ob ob':=fun e ob' h=>by
  obtain⟨h1,o,h2,rfl⟩:=key e ob' h;exact⟨h1,o,h2,yO⟩
 have hF:=hf _ key';have hFL:∀cs cs',bF ν st.m H Z cs cs'→bF ν (mapM fl (fN d st.m)) H Z' (fl cs) cs':=fun cs cs' h=>by
  refine⟨by rw[hl];exact h.1,fun j u v hu hv => ?_⟩
  rw[hg,Zh]at hu;obtain⟨u',hu',rfl⟩:=hu;exact hF u' v (h.2 j u' v hu' hv)
 have hzz:∀id,Z id→Z' id:=fun id h=>(hz' id).2 (.inl h)
 refine⟨⟨fun s sv hs => ?_,fun e ob' he => ?_,fun d1 d2 o1 o2 h1 h2 b1 b2 hp => ?_,fun d1 o1 h1 b1 => ?_,fun id h => ?_,⟨fun id es ys hz hr c hc u hu => ?_⟩⟩,⟨Nat.le_refl _,fun _ _ _ _ _=>rfl,fun id h=>⟨hzz id h,rfl⟩,?_,?_,?_,rfl⟩⟩
 ·rw[zY,Zh]at hs;obtain⟨sv',hs',rfl⟩:=hs;exact hF sv' _ (r.slot s sv' hs')
 ·obtain⟨h1,o,h2,rfl⟩:=key e ob' he;exact en.tf hzz hl hFL (r.obj e o h2)
 ·obtain⟨_,p1,k1,rfl⟩:=key d1 o1 h1;obtain⟨_,p2,k2,rfl⟩:=key d2 o2 h2;rw[rB]at b1 b2;exact r.inj d1 d2 p1 p2 k1 k2 b1 b2 hp
 ·obtain⟨hne,p1,k1,rfl⟩:=key d1 o1 h1;rw[rB]at b1;intro hz;rcases (hz' _).1 hz with hz|⟨hb,he⟩
  ·exact r.apart d1 p1 k1 b1 hz
  ·exact hne (r.inj d1 d p1 ob k1 h0 b1 hb he)
 ·rcases (hz' id).1 h with h|⟨hb,rfl⟩
  ·exact r.zrow id h
  ·obtain⟨es,ys,hr,_⟩:=hrow hb;unfold aq;rw[hr];rfl
 ·rcases (hz' id).1 hz with h|⟨hb,rfl⟩
  ·obtain⟨x,hx⟩:=r.deep.row id es ys h hr c hc u hu;exact⟨x,hx.mono fun k hk=>⟨hzz k hk,rfl⟩⟩
  ·obtain⟨es',ys',hr',hs⟩:=hrow hb;unfold aq at hr;rw[hr']at hr;simp only[Zc,Ob.rows,Za,Zd]at hr;obtain⟨_,rfl⟩:=hr;obtain⟨x,hx⟩:=hs c hc u hu;exact⟨x,hx.mono fun k hk=>⟨hzz k hk,rfl⟩⟩
 ·rintro id ⟨e,o,h1,h2,h3⟩;obtain⟨_,p,k1,rfl⟩:=key e o h1;rw[rB]at h2;exact .inl ⟨e,p,k1,h2,h3⟩
 ·intro id h;rcases (hz' id).1 h with h|⟨hb,rfl⟩
  ·exact .inl h
  ·exact .inr (.inl ⟨d,ob,h0,hb,rfl⟩)
 ·intro e _ ob' h;obtain⟨_,o,k1,rfl⟩:=key e ob' h;exact⟨o,k1,rfl,yO⟩
theorem BI (r:R ν Z st F H) {d:Nat} (h:uE d st=some st'):∃Z',R ν Z' st' F H∧Ev Rv ν Z st H ν Z' st' H:=by
 simp only[uE]at h;split at h
 ·rename_i k es xs hob;simp only[Za]at h;subst h;have o:=r.obj d _ hob;refine⟨fun id=>Z id∨(cH (.sl k es xs)=true∧id=(ν d).1),R.dI r hob (fun _=>mg) (fun _ _=>qD) (fun _=>Iff.rfl) (fun hb => ?_) (fun m' hm' sv y hr => ?_)⟩
  ·have hk:b_ k=true:=hb;simp only[en,hk,if_true]at o;obtain⟨ys,hr,_,_,hs,_⟩:=o;exact⟨es,ys,hr,hs⟩
  ·refine cZ.sub hob ?_ (fun id h=>.inl h) hm' hr
   by_cases hk:b_ k=true
   ·simp only[en,hk,if_true]at o;obtain⟨ys,hr,hl,hf,hs,_⟩:=o;rw[nV hk];have e:kM k es xs=.fsl es xs:=by cases k <;> simp[b_]at hk <;> rfl
    rw[e];refine FR.DV (.inr ⟨hk,rfl⟩) (by unfold aq;rw[hr];rfl) hl (hf.mono fun id h=>⟨.inl h,rfl⟩)
   ·cases k <;> simp[b_]at hk
    ·exact .same _ rfl
    ·exact .same _ rfl
 ·simp at h
theorem GC (r:R ν Z st F H) {d:Nat} (h:ghost (.closeB d) st=some st'):∃Z',R ν Z' st' F H∧Ev Rv ν Z st H ν Z' st' H:=by
 simp only[ghost]at h;split at h
 ·rename_i cs hob;split at h
  ·rename_i xs hx;simp only[Za]at h;subst h;obtain⟨es,cs',hr,hc,_⟩:=r.obj d _ hob;have hf:=hc.d_ hx;have hs:tv H Z [cs']:=by
    intro c hcm u hu;simp only[List.mem_singleton]at hcm;subst hcm;obtain⟨j,hj⟩:=List.mem_iff_getElem?.1 hu;have hl:j<xs.length:=by rw[hf.1];exact(Zf.1 hj).1
    exact⟨_,hf.2 j _ u (Ze hl) hj⟩
   refine⟨fun id=>Z id∨(cH (.box cs)=true∧id=(ν d).1),R.dI r hob (fun _=>lA) (fun _ _=>oP) (fun _=>Iff.rfl) (fun hb=>⟨es,_,hr,hs⟩) (fun m' hm' sv y hr' => ?_)⟩
   refine cZ.wK hob (fun o ho => ?_) (fun id h=>.inl h) hm' hr'
   exact FR.yA (.inr ⟨rfl,rfl⟩) (show aq H (ν d).1=some (es,[cs'])by unfold aq;rw[hr];rfl) rfl (by rw[←hf.1];exact ho) ((hf.drop o).mono fun id h=>⟨.inl h,rfl⟩)
  ·simp at h
 ·simp at h
theorem qu {d e:Nat}:∀{l:List SV} {j:Nat},(SV.qM d e l)[j]? = (l[j]?).map (SV.oX d e)
 | [],j=>by simp[SV.qM]
 | x::r,0=>by simp[SV.qM]
 | x::r,j+1=>by simp[SV.qM,qu (l:=r)]
theorem mj {d e:Nat}:∀{l:List SV},(SV.qM d e l).length=l.length
 | []=>rfl
 | x::r=>by simp[SV.qM,mj (l:=r)]
theorem zV {d e:Nat}:∀{g:Tb SV} {s:Nat},ak (wX d e g) s=(ak g s).map (SV.oX d e)
 | [],s=>rfl
 | (k,x)::r,s=>by
  simp only[wX,ak];split
  ·rfl
  ·exact zV
theorem tY {d e:Nat} (hne:d≠e):∀{m:Tb aL} {k:Nat},ak m e=none→ak (qG d e m) k=(if k=d then none else(ak m (if k=e then d else k)).map (aL.oX d e))
 | [],k,_=>by simp[qG,ak]
 | (n,x)::r,k,h=>by
  simp only[ak]at h;split at h
  ·simp at h
  ·rename_i hn;have ih:=tY hne (m:=r) (k:=k) h;simp only[qG,ak]
   by_cases h1:k=d
   ·subst h1;rw[if_pos rfl]at ih ⊢
    by_cases h2:n=k
    ·rw[if_pos h2,if_neg (Ne.symm hne)];exact ih
    ·rw[if_neg h2,if_neg h2];exact ih
   ·rw[if_neg h1]at ih ⊢
    by_cases h2:k=e
    ·subst h2;rw[if_pos rfl]at ih ⊢
     by_cases h3:n=d
     ·rw[if_pos h3,if_pos rfl,if_pos h3];rfl
     ·rw[if_neg h3,if_neg hn,if_neg h3];exact ih
    ·rw[if_neg h2]at ih ⊢
     by_cases h3:n=d
     ·rw[if_pos h3,if_neg (Ne.symm h2),if_neg (by rw[h3];exact Ne.symm h1)];exact ih
     ·rw[if_neg h3]
      by_cases h4:n=k
      ·rw[if_pos h4,if_pos h4];rfl
      ·rw[if_neg h4,if_neg h4];exact ih
def pK (ν:Nu) (d e:Nat):Nu:=fun k=>if k=e then ν d else ν k
theorem cZ.oX {sv:SV} {y:V} {d e:Nat} (hn:ak m e=none) (hs:sv.cz e=false) (hne:d≠e) (r:cZ ν m H Z sv y):cZ (pK ν d e) (qG d e m) H Z (sv.oX d e) y:=by
 have key:∀k,k≠e→∀ob',ak (qG d e m) (if k=d then e else k)=some ob'→∃ob,ak m k=some ob∧pK ν d e (if k=d then e else k)=ν k∧ob'=ob.oX d e:=fun k hk ob' h=>by
  rw[tY hne hn]at h
  by_cases h1:k=d
  ·subst h1;rw[if_pos rfl,if_neg (Ne.symm hne),if_pos rfl,Zh]at h;obtain⟨ob,h2,rfl⟩:=h;exact⟨ob,h2,by rw[if_pos rfl];unfold pK;rw[if_pos rfl],rfl⟩
  ·rw[if_neg h1,if_neg h1,if_neg hk,Zh]at h;obtain⟨ob,h2,rfl⟩:=h;exact⟨ob,h2,by rw[if_neg h1];unfold pK;rw[if_neg hk],rfl⟩
 induction r with
 | v x y h=>exact .v x y h
 | own k y h=>
  have hk:k≠e:=by rintro rfl;simp[SV.cz]at hs
  refine .own _ y fun ob' ho => ?_
  obtain⟨ob,h1,h2,rfl⟩:=key k hk ob' ho;obtain⟨_,_,_,rfl,rfl⟩:=h ob h1;exact⟨_,_,_,rfl,by rw[h2]⟩
 | ptr k o y h=>
  have hk:k≠e:=by rintro rfl;simp[SV.cz]at hs
  refine .ptr _ o y fun ob' ho => ?_
  obtain⟨ob,h1,h2,rfl⟩:=key k hk ob' ho;obtain⟨_,rfl,rfl⟩:=h ob h1;exact⟨_,rfl,by rw[h2]⟩
 | el k i o y h=>
  have hk:k≠e:=by rintro rfl;simp[SV.cz]at hs
  refine .el _ i o y fun ob' ho => ?_
  obtain⟨ob,h1,h2,rfl⟩:=key k hk ob' ho;obtain⟨_,_,_,rfl,h3,rfl⟩:=h ob h1;exact⟨_,_,_,rfl,h3,by rw[h2]⟩
 | mp k y h=>
  have hk:k≠e:=by rintro rfl;simp[SV.cz]at hs
  refine .mp _ y fun ob' ho => ?_
  obtain⟨ob,h1,h2,rfl⟩:=key k hk ob' ho;obtain⟨_,rfl,rfl⟩:=h ob h1;exact⟨_,rfl,by rw[h2]⟩
 | clo f a b a' b' ha hb hva hvb iha ihb=>
  simp only[SV.cz,Bool.or_eq_false_iff]at hs;refine .clo f _ _ a' b' (by rw[mj];exact ha) (by rw[mj];exact hb) (fun j u v hu hv => ?_) (fun j u v hu hv => ?_)
  ·rw[qu,Zh]at hu;obtain⟨u',hu',rfl⟩:=hu;exact iha j u' v hu' hv (qF hs.1 hu')
  ·rw[qu,Zh]at hu;obtain⟨u',hu',rfl⟩:=hu;exact ihb j u' v hu' hv (qF hs.2 hu')
 | tup a a' ha hva iha=>
  simp only[SV.cz]at hs;refine .tup _ a' (by rw[mj];exact ha) (fun j u v hu hv => ?_)
  rw[qu,Zh]at hu;obtain⟨u',hu',rfl⟩:=hu;exact iha j u' v hu' hv (qF hs hu')
 | yl id=>exact .yl id
theorem Gj (r:R ν Z st F H) {d e:Nat} (hne:d≠e) (hn:st.new e=true):R (pK ν d e) Z { st with g:=wX d e st.g,m:=qG d e st.m } F H∧Ev Rv ν Z st H (pK ν d e) Z { st with g:=wX d e st.g,m:=qG d e st.m } H:=by
 obtain⟨n1,n2,n3,n4⟩:=mI hn;have key:∀k ob',ak (qG d e st.m) k=some ob'→∃k0 ob,ak st.m k0=some ob∧ob'=ob.oX d e∧pK ν d e k=ν k0∧k≠d∧(k=e∧k0=d∨k≠e∧k0=k):=fun k ob' h=>by
  rw[tY hne n2]at h;split at h
  ·simp at h
  ·rename_i h1;rw[Zh]at h;obtain⟨ob,h2,rfl⟩:=h
   by_cases h3:k=e
   ·rw[if_pos h3]at h2;exact⟨d,ob,h2,rfl,by unfold pK;rw[if_pos h3],h1,.inl ⟨h3,rfl⟩⟩
   ·rw[if_neg h3]at h2;exact⟨k,ob,h2,rfl,by unfold pK;rw[if_neg h3],h1,.inr ⟨h3,rfl⟩⟩
 have bk:∀ob:aL,cH (ob.oX d e)=cH ob:=fun ob=>by cases ob <;> rfl
 refine⟨⟨fun s sv hs => ?_,fun k ob' hk => ?_,fun d1 d2 o1 o2 h1 h2 b1 b2 hp => ?_,fun d1 o1 h1 b1 => ?_,r.zrow,r.deep⟩,⟨Nat.le_refl _,fun _ _ _ _ _=>rfl,fun id h=>⟨h,rfl⟩,?_,fun _ h=>.inl h,?_,rfl⟩⟩
 ·simp only at hs;rw[zV,Zh]at hs;obtain⟨sv',hs',rfl⟩:=hs;exact cZ.oX n2 (sW n3 hs') hne (r.slot s sv' hs')
 ·obtain⟨k0,ob,h1,rfl,h2,_,_⟩:=key k ob' hk;have o:=r.obj k0 ob h1
  cases ob with
  | sl fl es xs=>simp only[aL.oX,en,h2]at o ⊢;exact o
  | box cs=>
   obtain⟨es,cs',g1,g2,g3⟩:=o;have hns:SV.c_ e cs=false:=by have:=sT n4 h1;simpa [aL.cz]using this
   refine⟨es,cs',by rw[h2];exact g1,⟨by rw[mj];exact g2.1,fun j u v hu hv => ?_⟩,g3⟩
   rw[qu,Zh]at hu;obtain⟨u',hu',rfl⟩:=hu;exact cZ.oX n2 (qF hns hu') hne (g2.2 j u' v hu' hv)
  | mp kvs=>simp only[aL.oX,en,h2]at o ⊢;exact o
 ·obtain⟨k1,p1,g1,rfl,e1,c1,c2⟩:=key d1 o1 h1;obtain⟨k2,p2,g2,rfl,e2,c3,c4⟩:=key d2 o2 h2;rw[bk]at b1 b2;have:=r.inj k1 k2 p1 p2 g1 g2 b1 b2 (by rw[←e1,←e2];exact hp)
  omega
 ·obtain⟨k1,p1,g1,rfl,e1,_⟩:=key d1 o1 h1;rw[bk]at b1;rw[e1];exact r.apart k1 p1 g1 b1
 ·rintro id ⟨k,o,h1,h2,h3⟩;obtain⟨k1,p1,g1,rfl,e1,_⟩:=key k o h1;rw[bk]at h2;exact .inl ⟨k1,p1,g1,h2,by rw[←e1];exact h3⟩
 ·intro k hk ob' h;obtain⟨k1,p1,g1,rfl,e1,c1,c2⟩:=key k ob' h;rcases c2 with⟨rfl,_⟩|⟨c2,rfl⟩
  ·exact absurd hk n1
  ·exact⟨p1,g1,e1,by cases p1 <;> simp[aL.oX,sameShape]⟩
theorem R.V4 (r:R ν Z st F H) {n:Nat} {sv:SV} (h:cZ ν st.m H Z sv (get F n)):R ν Z { st with g:=bl st.g n sv } F H where
 slot:=fun s x hs=>by
  by_cases e:n=s
  ·subst e;rw[cm]at hs;cases hs;exact h
  ·rw[dw st.g sv e]at hs;exact r.slot s x hs
 obj:=r.obj
 inj:=r.inj
 apart:=r.apart
 zrow:=r.zrow
 deep:=r.deep
theorem E8 (r:R ν Z st F H) {n d es:Nat} {k:Fl} {x:V} (hk:kM k es []=x∧b_ k=false) (hs:ak st.g n=some (.v x)) (hn:st.new d=true) (hx:∀y,FR H Z x y→y=x) (hxx:rW (ν d) k es 0=x) :
 R (iN ν d (ν d)) Z { st with g:=bl st.g n (.own d),m:=bl st.m d (.sl k es []) } F H∧Ev Rv ν Z st H (iN ν d (ν d)) Z { st with g:=bl st.g n (.own d),m:=bl st.m d (.sl k es []) } H:=by
 have hnb:cH (.sl k es [])=true→False:=by simp[cH,hk.2]
 have r1:=r.add hn (p:=ν d) (ob:=.sl k es []) (fun h=>(hnb h).elim) (by simp[en,hk.2])
 refine⟨r1.V4 (n:=n) (sv:=.own d) (.own _ _ fun ob' h' => ?_),?_⟩
 ·simp only at h';rw[cm]at h';cases h';refine⟨_,_,_,rfl,?_⟩;rw[iV,hx _ (r.slot n _ hs).fr];exact hxx.symm
 ·exact(Ev.add (H':=H) hn (Nat.le_refl _) (fun _ _ _=>rfl) (fun _ _=>rfl) (fun h=>(hnb h).elim)).trans (Ev.Ox _)
theorem FZ (r:R ν Z st F H) {b i d es:Nat} {k:Fl} {x:V} {cs:List SV} (hk:b_ k=false) (hb:ak st.m b=some (.box cs)) (hi:cs[i]? = some (.v x)) (hn:st.new d=true) (hx:∀y,FR H Z x y→y=x) (hxx:rW (ν d) k es 0=x) :
 ∃ν',R ν' Z { st with m:=bl (bl st.m d (.sl k es [])) b (.box (cs.set i (.own d))) } F H∧Ev Rv ν Z st H ν' Z { st with m:=bl (bl st.m d (.sl k es [])) b (.box (cs.set i (.own d))) } H:=by
 have hnb:cH (.sl k es [])=true→False:=by simp[cH,hk]
 have r1:=r.add hn (p:=ν d) (ob:=.sl k es []) (fun h=>(hnb h).elim) (by simp[en,hk])
 have hne:b≠d:=by rintro rfl;rw[(mI hn).2.1]at hb;cases hb
 have hb1:ak (bl st.m d (.sl k es [])) b=some (.box cs):=by rw[dw _ _ (Ne.symm hne)];exact hb
 obtain⟨es1,cs',h1,h2,h3⟩:=r1.obj b _ hb1;have sm:∀e ob',ak (bl (bl st.m d (.sl k es [])) b (.box (cs.set i (.own d)))) e=some ob'→∃ob,ak (bl st.m d (.sl k es [])) e=some ob∧iN ν d (ν d) e=iN ν d (ν d) e∧sameShape ob ob':=fun e ob' h=>by
  by_cases he:e=b
  ·subst he;rw[cm]at h;cases h;exact⟨_,hb1,rfl,trivial⟩
  ·rw[dw _ _ (Ne.symm he)]at h;exact⟨ob',h,rfl,.refl _⟩
 refine⟨iN ν d (ν d),r1.fI (H':=H) hb1 (ob':=.box (cs.set i (.own d))) trivial rfl (fun _ _=>rfl) rfl ⟨es1,cs',h1,⟨by simp[h2.1],fun j u v hu hv => ?_⟩,h3⟩,?_⟩
 ·rw[List.getElem?_set]at hu;split at hu
  ·rename_i e;subst e;split at hu
   ·cases hu;refine .own _ _ fun ob' h' => ?_
    rw[dw _ _ hne,cm]at h';cases h';refine⟨_,_,_,rfl,?_⟩;rw[iV,hx v (h2.2 i _ v hi hv).fr];exact hxx.symm
   ·simp at hu
  ·exact(h2.2 j u v hu hv).mono (fun id h=>⟨h,rfl⟩) fun e _=>sm e
 ·exact(Ev.add (H':=H) hn (Nat.le_refl _) (fun _ _ _=>rfl) (fun _ _=>rfl) (fun h=>(hnb h).elim)).trans (Ev.fI r1 hb1 trivial rfl (fun _ _=>rfl) rfl (Nat.le_refl _))
theorem Is (r:R ν Z st F H) {x:Gh} (h:ghost x st=some st'):∃ν' Z',R ν' Z' st' F H∧Ev Rv ν Z st H ν' Z' st' H:=by
 cases x with
 | close d=>obtain⟨Z',a,b⟩:=BI (Rv:=Rv) r h;exact⟨ν,Z',a,b⟩
 | closeS l=>
  simp only[ghost]at h;split at h
  ·obtain⟨Z',a,b⟩:=BI (Rv:=Rv) r h;exact⟨ν,Z',a,b⟩
  ·simp only[Za]at h;subst h;exact⟨ν,Z,r,.refl⟩
  ·simp at h
 | closeB d=>obtain⟨Z',a,b⟩:=GC (Rv:=Rv) r h;exact⟨ν,Z',a,b⟩
 | keep gs ms=>
  simp only[ghost]at h;split at h
  ·rename_i g m hg hm;simp only[Za]at h;subst h;exact⟨ν,Z,r.less (fun s sv hs=>pJ hg hs) (fun d ob hd=>pJ hm hd),Ev.less (fun d ob hd=>pJ hm hd)⟩
  ·simp at h
 | drop ds=>
  simp only[ghost,Za]at h;subst h;exact⟨ν,Z,r.less (g:=tq ds st.g) (m':=st.m) (fun s sv hs=>sP hs) (fun d ob hd=>hd),Ev.less (g:=tq ds st.g) (m':=st.m) (fun d ob hd=>hd)⟩
 | canon l d es=>
  cases l with
  | s n=>
   simp only[ghost]at h;split at h
   ·rename_i hs;split at h
    ·rename_i hn;simp only[Za]at h;subst h;obtain⟨a,b⟩:=E8 (Rv:=Rv) (es:=es) (k:=.nil) r ⟨rfl,rfl⟩ hs hn (fun y h=>h.ay) rfl
     exact⟨_,_,a,b⟩
    ·simp at h
   ·rename_i hs;split at h
    ·rename_i hn;simp only[Za]at h;subst h;obtain⟨a,b⟩:=E8 (Rv:=Rv) (es:=es) (k:=.emp) r ⟨rfl,rfl⟩ hs hn (fun y h=>h.dY) rfl
     exact⟨_,_,a,b⟩
    ·simp at h
   ·rename_i e hs;split at h
    ·simp only[Za]at h;subst h;exact⟨ν,Z,r,.refl⟩
    ·rename_i hne;split at h
     ·rename_i hn;simp only[Za]at h;subst h;obtain⟨a,b⟩:=Gj (Rv:=Rv) r hne hn;exact⟨_,_,a,b⟩
     ·simp at h
   ·simp at h
  | c b i=>
   simp only[ghost]at h;split at h
   ·rename_i cs hb;split at h
    ·rename_i hs;split at h
     ·rename_i hn;simp only[Za]at h;subst h;obtain⟨ν',a,b⟩:=FZ (Rv:=Rv) (es:=es) (k:=.nil) r rfl hb hs hn (fun y h=>h.ay) rfl
      exact⟨_,_,a,b⟩
     ·simp at h
    ·rename_i hs;split at h
     ·rename_i hn;simp only[Za]at h;subst h;obtain⟨ν',a,b⟩:=FZ (Rv:=Rv) (es:=es) (k:=.emp) r rfl hb hs hn (fun y h=>h.dY) rfl
      exact⟨_,_,a,b⟩
     ·simp at h
    ·rename_i e hs;split at h
     ·simp only[Za]at h;subst h;exact⟨ν,Z,r,.refl⟩
     ·rename_i hne;split at h
      ·rename_i hn;simp only[Za]at h;subst h;obtain⟨a,b⟩:=Gj (Rv:=Rv) r hne hn;exact⟨_,_,a,b⟩
      ·simp at h
    ·simp at h
   ·simp at h
end
end Go.VE
