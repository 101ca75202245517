/-
 The second layer, part 1: named objects in the place of rows.
-/
import Derived.Test.YtnfakljmdnbipaaV2
set_option linter.all false
namespace Go.VE
inductive Fl where | nil | emp | row | part
 deriving DecidableEq, Inhabited
inductive SV where
 | v (x : V)
 | own (d : Nat)
 | ptr (d off : Nat)
 | el (d i off : Nat)
 | mp (d : Nat)
 | clo (f : FuncId) (a b : List SV)
 | tup (l : List SV)
 | yl (id : Nat)
 deriving Inhabited
inductive aE where
 | sl (k : Fl) (es : Nat) (xs : List (List V))
 | box (cs : List SV)
 | mp (kvs : List (V × V))
abbrev Tb (α : Type) := List (Nat × α)
def aj {α : Type} : Tb α → Nat → Option α
 | [], _ => none
 | (k, v) :: r, n => if k = n then some v else aj r n
def aW {α : Type} : Tb α → Nat → α → Tb α
 | [], n, v => [(n, v)]
 | (k, x) :: r, n, v => if k = n then (k, v) :: r else (k, x) :: aW r n v
def f_ {α : Type} (n : Nat) : Tb α → Tb α
 | [] => []
 | (k, x) :: r => if k = n then f_ n r else (k, x) :: f_ n r
def sR {α : Type} : List Nat → Tb α → Tb α
 | [], g => g
 | d :: ds, g => sR ds (f_ d g)
def sG {α : Type} : Tb α → List Nat → List α → Tb α
 | g, p :: ps, v :: vs => sG (aW g p v) ps vs
 | g, _, _ => g
def uA {α : Type} (g : Tb α) : List Nat → Option (Tb α)
 | [] => some []
 | n :: r => match aj g n, uA g r with
  | some v, some t => some ((n, v) :: t)
  | _, _ => none
structure St where
 g : Tb SV
 m : Tb aE
 pin : List Nat
 want : List (List V)
 more : Bool
 yid : Nat
structure Sys where
 E : Env
 N : Nat → FuncId
 items : FuncId → List V → List V → Option (List (List V))
 vg : FuncId → List V → Option V
inductive Arg where
 | s (n : Nat)
 | k (c : V)
 | f (name : Nat)
inductive Loc where
 | s (n : Nat)
 | c (b i : Nat)
inductive Gh where
 | close (d : Nat)
 | closeB (d : Nat)
 | canon (l : Loc) (d : Nat) (es : Nat)
 | keep (gs ms : List Nat)
 | drop (ds : List Nat)
 | closeS (l : Loc)
structure RO where
 dst : Option Nat
 gd : Option (Nat × Bool)
 now : Bool
 k : K
 as : List Arg
 dead : List Nat := []
 pre : List Gh := []
inductive RC where
 | skip
 | ops (l : List RO)
 | reg (l : List RO)
 | seq (a b : RC)
 | cond (x : Arg) (a b : RC)
 | block (id : Nat) (c : RC)
 | loop (c : RC)
 | each (g : Arg) (ps : List Nat) (a b : RC)
 | exit (id : Nat)
 | ret
 | gh (x : Gh) (c : RC)
 | hg (c : RC) (x : Gh)
inductive RV where
 | s (n : Nat)
 | ld (n size : Nat) (agg : Bool)
structure RF where
 na : Nat
 rs : List RV
 body : RC
mutual
def SV.bT (d : Nat) : SV → Bool
 | .v _ => false
 | .own e => e == d
 | .ptr e _ => e == d
 | .el e _ _ => e == d
 | .mp e => e == d
 | .clo _ a b => SV.cx d a || SV.cx d b
 | .tup l => SV.cx d l
 | .yl _ => false
def SV.cx (d : Nat) : List SV → Bool
 | [] => false
 | x :: r => SV.bT d x || SV.cx d r
end
def aE.bT (d : Nat) : aE → Bool
 | .box cs => SV.cx d cs
 | _ => false
def o6 (d : Nat) : Tb SV → Bool
 | [] => false
 | (_, x) :: r => SV.bT d x || o6 d r
def mP (d : Nat) : Tb aE → Bool
 | [] => false
 | (_, x) :: r => aE.bT d x || mP d r
def St.new (st : St) (d : Nat) : Bool := !(st.pin.contains d) && (aj st.m d).isNone && !(o6 d st.g) && !(mP d st.m)
mutual
def SV.oQ (d e : Nat) : SV → SV
 | .v x => .v x
 | .own k => .own (if k = d then e else k)
 | .ptr k o => .ptr (if k = d then e else k) o
 | .el k i o => .el (if k = d then e else k) i o
 | .mp k => .mp (if k = d then e else k)
 | .clo f a b => .clo f (SV.qt d e a) (SV.qt d e b)
 | .tup l => .tup (SV.qt d e l)
 | .yl id => .yl id
def SV.qt (d e : Nat) : List SV → List SV
 | [] => []
 | x :: r => SV.oQ d e x :: SV.qt d e r
end
def aE.oQ (d e : Nat) : aE → aE
 | .box cs => .box (SV.qt d e cs)
 | o => o
def we (d e : Nat) : Tb SV → Tb SV
 | [] => []
 | (n, x) :: r => (n, x.oQ d e) :: we d e r
def pZ (d e : Nat) : Tb aE → Tb aE
 | [] => []
 | (n, x) :: r => ((if n = d then e else n), x.oQ d e) :: pZ d e r
mutual
def SV.sub (d : Nat) (w : V) : SV → SV
 | .own k => if k = d then .v w else .own k
 | .clo f a b => .clo f (SV.qj d w a) (SV.qj d w b)
 | .tup l => .tup (SV.qj d w l)
 | x => x
def SV.qj (d : Nat) (w : V) : List SV → List SV
 | [] => []
 | x :: r => SV.sub d w x :: SV.qj d w r
end
mutual
def SV.vI (d : Nat) (cs : List V) : SV → SV
 | .ptr k o => if k = d then (if o ≤ cs.length then .v (.fptr (cs.drop o)) else .ptr k o) else .ptr k o
 | .clo f a b => .clo f (SV.mT d cs a) (SV.mT d cs b)
 | .tup l => .tup (SV.mT d cs l)
 | x => x
def SV.mT (d : Nat) (cs : List V) : List SV → List SV
 | [] => []
 | x :: r => SV.vI d cs x :: SV.mT d cs r
end
def vR (f : SV → SV) : Tb SV → Tb SV
 | [] => []
 | (n, x) :: r => (n, f x) :: vR f r
def mapM (f : List SV → List SV) : Tb aE → Tb aE
 | [] => []
 | (n, .box cs) :: r => (n, .box (f cs)) :: mapM f r
 | (n, o) :: r => (n, o) :: mapM f r
mutual
def SV.names : SV → List Nat
 | .own d | .ptr d _ | .el d _ _ | .mp d => [d]
 | .clo _ a b => SV.rG a ++ SV.rG b
 | .tup l => SV.rG l
 | _ => []
def SV.rG : List SV → List Nat
 | [] => []
 | x :: r => SV.names x ++ SV.rG r
end
def lP : Tb SV → List Nat
 | [] => []
 | (_, x) :: r => SV.names x ++ lP r
def d6 : List SV → Option (List V)
 | [] => some []
 | .v x :: r => (d6 r).map (x :: ·)
 | _ :: _ => none
def kz (k : Fl) (es : Nat) (xs : List (List V)) : V :=
 match k with
 | .nil => .au
 | .emp => .dZ
 | _ => .fsl es xs
mutual
def V.lvl : Nat → V → Bool
 | n, .fsl _ xs => match n with | 0 => false | n + 1 => V.m_ n xs
 | n, .fptr cs => match n with | 0 => false | n + 1 => V.dB n cs
 | n, .fmap kvs => match n with | 0 => false | n + 1 => V.r8 n kvs
 | n, .agg cs => match n with | 0 => false | n + 1 => V.dB n cs
 | n, .tup cs => match n with | 0 => false | n + 1 => V.dB n cs
 | n, .clo _ a b => match n with | 0 => false | n + 1 => V.dB n a && V.dB n b
 | _, _ => true
def V.dB : Nat → List V → Bool
 | _, [] => true
 | n, x :: r => V.lvl n x && V.dB n r
def V.m_ : Nat → List (List V) → Bool
 | _, [] => true
 | n, x :: r => V.dB n x && V.m_ n r
def V.r8 : Nat → List (V × V) → Bool
 | _, [] => true
 | n, (k, x) :: r => V.lvl n k && V.lvl n x && V.r8 n r
end
mutual
def dA (m : Tb aE) : Nat → SV → Option V
 | _, .v x => some x
 | _, .own d => match aj m d with
  | some (.sl k es xs) => some (kz k es xs)
  | _ => none
 | n + 1, .ptr d o => match aj m d with
  | some (.box cs) => match bN m n cs with
   | some xs => if o ≤ xs.length then some (.fptr (xs.drop o)) else none
   | none => none
  | _ => none
 | _, .mp d => match aj m d with
  | some (.mp kvs) => some (.fmap kvs)
  | _ => none
 | n + 1, .clo f a b => match bN m n a, bN m n b with
  | some x, some y => some (.clo f x y)
  | _, _ => none
 | n + 1, .tup l => (bN m n l).map .tup
 | _, _ => none
def bN (m : Tb aE) : Nat → List SV → Option (List V)
 | _, [] => some []
 | n, x :: r => match dA m n x, bN m n r with
  | some y, some s => some (y :: s)
  | _, _ => none
end
end Go.VE
namespace Go.VE
mutual
def V.aN : V → Bool
 | .hsl .. | .hptr .. | .yld .. | .hmap .. => false
 | .fsl _ xs => V.j9 xs
 | .fptr cs => V.bK cs
 | .fmap kvs => V.qC kvs
 | .clo _ a b => V.bK a && V.bK b
 | .agg cs => V.bK cs
 | .tup cs => V.bK cs
 | _ => true
def V.bK : List V → Bool
 | [] => true
 | x :: r => V.aN x && V.bK r
def V.j9 : List (List V) → Bool
 | [] => true
 | x :: r => V.bK x && V.j9 r
def V.qC : List (V × V) → Bool
 | [] => true
 | (k, x) :: r => V.aN k && V.aN x && V.qC r
end
abbrev gr := Tb aE
abbrev b_ := FuncId → List SV → gr → Option (List SV × gr)
def m6 (N : Nat → FuncId) (g : Tb SV) : Arg → Option SV
 | .s n => aj g n
 | .k c => some (.v c)
 | .f s => some (.v (.clo (N s) [] []))
def bB (N : Nat → FuncId) (g : Tb SV) : List Arg → Option (List SV)
 | [] => some []
 | x :: r => match m6 N g x, bB N g r with
  | some v, some vs => some (v :: vs)
  | _, _ => none
def bP : Fl → Bool
 | .row | .part => true
 | _ => false
def uG (N : Nat → FuncId) (m : Tb aE) : pU → List SV → Option SV
 | .id, [x] => some x
 | .nilc, [.ptr d o] => if (aj m d).isSome then some (.ptr d o) else none
 | .nilc, [.el d i o] => if (aj m d).isSome then some (.el d i o) else none
 | .pick, [.v (.bool t), a, b] => some (if t then a else b)
 | .bin (some .slice) _ .eql, [.own d, .v .au] => match aj m d with
  | some (.sl k _ _) => if k = .emp then none else some (.v (.bool (k == .nil)))
  | _ => none
 | .bin (some .slice) _ .neq, [.own d, .v .au] => match aj m d with
  | some (.sl k _ _) => if k = .emp then none else some (.v (.bool (!(k == .nil))))
  | _ => none
 | .fieldAddr off, [.ptr d o] => if (aj m d).isSome then some (.ptr d (o + off)) else none
 | .fieldAddr off, [.el d i o] => if (aj m d).isSome then some (.el d i (o + off)) else none
 | .idxS size, [.own d, .v (.int _ i)] => match aj m d with
  | some (.sl k es xs) => if bP k ∧ es = size ∧ 0 ≤ i ∧ i.toNat < xs.length then some (.el d i.toNat 0) else none
  | _ => none
 | .idxA len size, [.ptr d o, .v (.int _ i)] => if 0 ≤ i ∧ i < len ∧ (aj m d).isSome then some (.ptr d (o + i.toNat * size)) else none
 | .idxA len size, [.el d j o, .v (.int _ i)] => if 0 ≤ i ∧ i < len ∧ (aj m d).isSome then some (.el d j (o + i.toNat * size)) else none
 | .lenSl, [.own d] => match aj m d with
  | some (.sl _ _ xs) => some (.v (.int .i64 xs.length))
  | _ => none
 | .clo name k, vs => some (.clo (N name) (vs.take k) (vs.drop k))
 | .ext i, [.tup l] => l[i]?
 | _, _ => none
def hY (N : Nat → FuncId) (m : Tb aE) (p : pU) (svs : List SV) : Option SV :=
 match d6 svs with
 | some xs => (bh N p xs).map .v
 | none => uG N m p svs
def uH (size : Nat) (agg : Bool) (cs : List SV) : Option SV :=
 if cs.length = size then
  if agg then (d6 cs).map fun xs => .v (.agg xs)
  else match cs with
   | [x] => some x
   | _ => none
 else none
def kX (m : Tb aE) : DN → List SV → Option SV
 | .load size agg, [.ptr d o] => match aj m d with
  | some (.box cs) => uH size agg ((cs.drop o).take size)
  | _ => none
 | .load size agg, [.el d i o] => match aj m d with
  | some (.sl _ _ xs) => match xs[i]? with
   | some cs => ((cut cs o size).bind (mk agg)).map .v
   | none => none
  | _ => none
 | .load size agg, [.v p] => ((fu [] p size).bind (mk agg)).map .v
 | .lookup kk z ok, [.mp d, .v k] => match aj m d with
  | some (.mp kvs) => if kR kk k then match fR k kvs 0 with
   | some (some (_, v)) => some (.v (if ok then .tup [v, .bool true] else v))
   | some none => some (.v (if ok then .tup [z, .bool false] else z))
   | none => none
   else none
  | _ => none
 | .lookup kk z ok, [.v p, .v k] => (ko [] (.lookup kk z ok) [p, k]).map .v
 | _, _ => none
def fq (fr : List Nat) : List SV → Bool
 | [] => true
 | .v _ :: r => fq fr r
 | .ptr d _ :: r => !(fr.contains d) && fq fr r
 | .el d _ _ :: r => !(fr.contains d) && fq fr r
 | .mp d :: r => !(fr.contains d) && fq fr r
 | _ => false
def pJ (m : Tb aE) : SV → Bool
 | .own d | .ptr d _ | .el d _ _ | .mp d => (aj m d).isSome
 | .clo .. => true
 | _ => false
def lX (m : Tb aE) (a : Es) (svs : List SV) (d : Nat) : Option (aE × SV) :=
 match a, svs with
 | .alloc _ zero, [] => some (.box (zero.map .v), .ptr d 0)
 | .box, [.v x] => if x.cells.all V.one then some (.box (x.cells.map .v), .ptr d 0) else none
 | .box, [x] => if pJ m x then some (.box [x], .ptr d 0) else none
 | .makeSl size zero, [.v (.int k n), .v (.int k' c)] =>
  if k = .i64 ∧ k' = .i64 ∧ 0 ≤ n ∧ n ≤ c ∧ c ≤ 2147483648 then some (.sl (if n = c then .row else .part) size (List.replicate n.toNat zero), .own d) else none
 | .buildSl size len zero idx, vs => match d6 vs with
  | some xs => if idx.length = xs.length then (gn size (List.replicate len zero) (idx.zip xs)).map fun ys => (.sl .row size ys, .own d) else none
  | none => none
 | .makeMap, [] => some (.mp [], .mp d)
 | _, _ => none
def kO (m : Tb aE) (size : Nat) : SV → Option (List (List V))
 | .own d => match aj m d with
  | some (.sl k es xs) => if bP k then (if es = size then some xs else none) else some []
  | _ => none
 | .v .au => some []
 | .v .dZ => some []
 | .v (.fsl es xs) => if es = size then some xs else none
 | _ => none
def yL : SV → Bool
 | .own _ | .v .au | .v .dZ => true
 | _ => false
def nJ (m : Tb aE) (size o : Nat) (sv : SV) (cs : List SV) : Option (List SV) :=
 match sv with
 | .v x => if x.cells.length = size ∧ o + size ≤ cs.length ∧ x.cells.all V.one = true then some (cs.take o ++ x.cells.map .v ++ cs.drop (o + size)) else none
 | x => if pJ m x = true ∧ size = 1 ∧ o + 1 ≤ cs.length then some (cs.take o ++ [x] ++ cs.drop (o + 1)) else none
def giveUp (m : Tb aE) : SV → Tb aE
 | .own d => f_ d m
 | _ => m
def Gw (m : Tb aE) (d : Nat) : SV → Bool
 | .ptr d' _ => d' != d && (match aj m d' with | some (.box _) => true | _ => false)
 | .v (.fptr _) => true
 | _ => false
def k_ (st : St) (dst : Option Nat) : Cj → List SV → Option (SV × St)
 | .store size, [.ptr d o, x] => match aj st.m d with
  | some (.box cs) => (nJ st.m size o x cs).map fun cs => (.v .undef, { st with m := aW st.m d (.box cs) })
  | _ => none
 | .store size, [.el d i o, .v x] => match aj st.m d with
  | some (.sl k es xs) => match xs[i]? with
   | some cs => if x.cells.length = size ∧ o + size ≤ cs.length ∧ x.cells.all V.one = true then
    some (.v .undef, { st with m := aW st.m d (.sl k es (xs.set i (cs.take o ++ x.cells ++ cs.drop (o + x.cells.length)))) }) else none
   | none => none
  | _ => none
 | .mapUp kk, [.mp d, .v k, .v x] => match aj st.m d with
  | some (.mp kvs) => if kR kk k then (kL k x kvs).map fun kvs => (.v .undef, { st with m := aW st.m d (.mp kvs) }) else none
  | _ => none
 | .append size, [s, x] => match kO st.m size s, kO st.m size x with
  | some _, some [] => some (s, st)
  | some xs, some ys =>
   if xs.length + ys.length ≤ 2147483648 ∧ yL s = true then
    let m1 := giveUp st.m s
    match dst with
    | some t => if St.new { st with m := m1 } t then some (.own t, { st with m := aW m1 t (.sl .row size (xs ++ ys)) }) else none
    | none => none
   else none
  | _, _ => none
 | .storeF size, .ptr d o :: x :: l => if l.all (Gw st.m d) = true then match aj st.m d with
  | some (.box cs) => (nJ st.m size o x cs).map fun cs => (.v .undef, { st with m := aW st.m d (.box cs) })
  | _ => none
  else none
 | _, _ => none
def tT (st : St) (dst : Option Nat) (size : Nat) (lo hi : Bool) (d : Nat) (bs : List SV) : Option (SV × St) :=
 match aj st.m d, d6 bs, dst with
 | some (.sl k es xs), some ys, some t =>
  if bP k = true ∧ es = size then
   (kF lo hi ys).bind fun (l, h) => (dR xs.length l h).bind fun (l, h) =>
    let m1 := f_ d st.m
    if St.new { st with m := m1 } t then some (.own t, { st with m := aW m1 t (.sl .part es ((xs.take h).drop l)) }) else none
  else none
 | _, _, _ => none
def Np : List SV → SV
 | [x] => x
 | l => .tup l
def i9 (m : Tb aE) : List SV → Option gr
 | [] => some []
 | .v _ :: r => i9 m r
 | .own d :: r => match i9 m r, aj m d with
  | some os, some (.sl k es xs) => some ((d, .sl k es xs) :: os)
  | _, _ => none
 | .ptr d _ :: r => match i9 m r, aj m d with
  | some os, some (.box cs) => if (d6 cs).isSome then some ((d, .box cs) :: os) else none
  | _, _ => none
 | _ => none
def rW : aE → Bool
 | .box cs => (d6 cs).isSome
 | _ => true
def nF (m' : gr) : List Nat → Tb aE → Option (Tb aE)
 | [], m => some m
 | d :: r, m => match aj m' d with
  | some ob => if rW ob then nF m' r (aW m d ob) else none
  | none => none
def mS (xs : List (List V)) : Bool := xs.all fun x => x.all V.scalar
def h_ (S : Sys) (c : b_) (dst : Option Nat) (dr now : Bool) (old : List SV → Bool) (f : FuncId) (args : List SV) (st : St) : Option (SV × St) :=
 if S.E.keep f then
  if now then
   if S.E.own f then
    match bN st.m 8 args with
    | some as => if V.dB 8 as then
     match c f (as.map .v) [] with
     | some (rs, m') => match d6 rs with
      | some ys => if (result ys).scalar then some (.v (result ys), st) else none
      | none => match rs, dst with
       | .own e :: rest, some t => match aj m' e, d6 rest with
        | some (.sl .row es xs), some ys =>
         if V.bZ ys && mS xs && st.new t then
          some (Np (.own t :: ys.map .v), { st with m := aW st.m t (.sl .row es xs) })
         else none
        | some (.sl .nil _ _), some ys => if V.bZ ys then some (.v (result (.au :: ys)), st) else none
        | some (.sl .emp _ _), some ys => if V.bZ ys then some (.v (result (.dZ :: ys)), st) else none
        | _, _ => none
       | _, _ => none
     | none => none
     else none
    | none => none
   else if dr then none else match i9 st.m args with
    | some os => match c f args os with
     | some (rs, m') => match d6 rs, nF m' (os.map (·.1)) st.m with
      | some ys, some m2 => some (.v (result ys), { st with m := m2 })
      | _, _ => none
     | none => none
    | none => none
  else none
 else match bN st.m 8 args with
  | some as => if V.dB 8 as && (now || old args) then
   match c f (as.map .v) [] with
   | some (rs, m') => match bN m' 8 rs with
    | some ys => if V.lvl 8 (result ys) && ((result ys).scalar || (d6 args).isSome) then some (.v (result ys), st) else none
    | none => none
   | none => none
   else none
  | none => none
def fF (m : Tb aE) (fr : List Nat) (args : List SV) : Bool := fr.all fun d => !(SV.cx d args) && !(mP d m)
def qI : K → Bool
 | .p (.build zero _) => V.bK zero
 | .r (.lookup _ z _) => z.aN
 | .a (.alloc _ zero) => V.bK zero && zero.all V.one
 | .a (.makeSl _ zero) => V.bK zero
 | .a (.buildSl _ _ zero _) => V.bK zero
 | _ => true
def kn (S : Sys) (c : b_) (dr : Bool) (fr : List Nat) (o : RO) (st : St) : Option (SV × St) :=
 match bB S.N st.g o.as with
 | some svs => match o.k with
  | .p (.slice size lo hi) => match svs with
   | .own d :: bs => if dr then none else tT st o.dst size lo hi d bs
   | svs => (hY S.N st.m (.slice size lo hi) svs).map fun x => (x, st)
  | .p p => (hY S.N st.m p svs).map fun x => (x, st)
  | .r r => if !dr || o.now || fq fr svs then (kX st.m r svs).map fun x => (x, st) else none
  | .a a => match o.dst with
   | some d => if st.new d then (lX st.m a svs d).map fun (ob, x) => (x, { st with m := aW st.m d ob }) else none
   | none => none
  | .l l => if !dr || o.now then k_ st o.dst l svs else none
  | .c => match svs with
   | .clo f a b :: vs => h_ S c o.dst dr (!dr || o.now) (fF st.m fr) f (a ++ vs ++ b) st
   | .v (.clo f a b) :: vs => h_ S c o.dst dr (!dr || o.now) (fF st.m fr) f (a.map .v ++ vs ++ b.map .v) st
   | _ => none
 | none => none
def c_ (st : St) (dst : Option Nat) (x : SV) : St :=
 match dst with
 | none => st
 | some d => { st with g := aW st.g d x }
def wanted (g : Tb SV) : Option (Nat × Bool) → Option Bool
 | none => some true
 | some (s, b) => match aj g s with
  | some (.v (.bool c)) => some (c == b)
  | some (.v _) => some false
  | _ => none
def sN (o : RO) : Option Nat :=
 match o.k with
 | .p _ | .r _ => none
 | _ => o.dst
def lY (fr : List Nat) (o : RO) : List Nat :=
 match sN o with
 | some d => d :: fr
 | none => fr
end Go.VE
namespace Go.VE
def an (H : ao) (id : Nat) : Option (Nat × List (List V)) := (H[id]?).bind Ob.rows
mutual
theorem V.ki : ∀ {x : V}, x.aN = true → x.closed = true
 | .hsl .., h | .hptr .., h | .yld _, h | .hmap _, h => by simp [V.aN] at h
 | .fsl .., _ | .fptr .., _ | .fmap .., _ => rfl
 | .bool _, _ | .int .., _ | .str _, _ | .dZ, _ | .au, _ | .bX, _ | .fh, _ | .aH, _ => rfl
 | .clo _ a b, h => by
  simp only [V.aN, Bool.and_eq_true] at h
  simp only [V.closed, Bool.and_eq_true]
  exact ⟨V.kT h.1, V.kT h.2⟩
 | .agg cs, h => by simp only [V.aN] at h; simp only [V.closed]; exact V.kT h
 | .tup cs, h => by simp only [V.aN] at h; simp only [V.closed]; exact V.kT h
theorem V.kT : ∀ {l : List V}, V.bK l = true → V.iX l = true
 | [], _ => rfl
 | x :: r, h => by
  simp only [V.bK, Bool.and_eq_true] at h
  simp only [V.iX, Bool.and_eq_true]
  exact ⟨V.ki h.1, V.kT h.2⟩
end
theorem gZ : ∀ {l : List V}, V.bK l = true ↔ ∀ (j : Nat) u, l[j]? = some u → u.aN = true
 | [] => by simp [V.bK]
 | x :: l => by
  simp only [V.bK, Bool.and_eq_true, gZ (l := l)]
  constructor
  ·rintro ⟨h1, h2⟩ j u hu
   cases j with
   | zero => simp at hu; subst hu; exact h1
   | succ j => exact h2 j u (by simpa using hu)
  ·intro h
   exact ⟨h 0 x rfl, fun j u hu => h (j + 1) u (by simpa using hu)⟩
theorem jy : ∀ {l : List (List V)}, V.j9 l = true ↔ ∀ (j : Nat) u, l[j]? = some u → V.bK u = true
 | [] => by simp [V.j9]
 | x :: l => by
  simp only [V.j9, Bool.and_eq_true, jy (l := l)]
  constructor
  ·rintro ⟨h1, h2⟩ j u hu
   cases j with
   | zero => simp at hu; subst hu; exact h1
   | succ j => exact h2 j u (by simpa using hu)
  ·intro h
   exact ⟨h 0 x rfl, fun j u hu => h (j + 1) u (by simpa using hu)⟩
theorem zc : ∀ {l : List (V × V)}, V.qC l = true ↔ ∀ (j : Nat) u, l[j]? = some u → u.1.aN = true ∧ u.2.aN = true
 | [] => by simp [V.qC]
 | (k, x) :: l => by
  simp only [V.qC, Bool.and_eq_true, zc (l := l)]
  constructor
  ·rintro ⟨h1, h2⟩ j u hu
   cases j with
   | zero => simp at hu; subst hu; exact h1
   | succ j => exact h2 j u (by simpa using hu)
  ·intro h
   exact ⟨h 0 (k, x) rfl, fun j u hu => h (j + 1) u (by simpa using hu)⟩
theorem sB {l : List V} (n : Nat) (h : V.bK l = true) : V.bK (l.drop n) = true :=
 gZ.2 fun j u hu => gZ.1 h (n + j) u (by rw [List.getElem?_drop] at hu; exact hu)
inductive FR (H : ao) (Z : Nat → Prop) : V → V → Prop
 | same (x : V) (h : x.aN = true) : FR H Z x x
 | fsl (es : Nat) (xs : List (List V)) (id off : Nat) (ys : List (List V)) (hz : Z id) (hr : an H id = some (es, ys)) (hl : off + xs.length ≤ ys.length)
  (hc : ∀ (i : Nat) a b, xs[i]? = some a → ys[off + i]? = some b → a.length = b.length)
  (hv : ∀ (i j : Nat) a b u v, xs[i]? = some a → ys[off + i]? = some b → a[j]? = some u → b[j]? = some v → FR H Z u v) : FR H Z (.fsl es xs) (.hsl id es off xs.length)
 | fptr (xs : List V) (id el off es : Nat) (ys : List (List V)) (cs : List V) (hz : Z id) (hr : an H id = some (es, ys)) (he : ys[el]? = some cs) (ho : off ≤ cs.length) (hx : xs.length = cs.length - off)
  (hv : ∀ (j : Nat) u v, xs[j]? = some u → cs[off + j]? = some v → FR H Z u v) : FR H Z (.fptr xs) (.hptr id el off)
 | clo (f : FuncId) (a b a' b' : List V) (ha : a.length = a'.length) (hb : b.length = b'.length) (hva : ∀ (j : Nat) u v, a[j]? = some u → a'[j]? = some v → FR H Z u v) (hvb : ∀ (j : Nat) u v, b[j]? = some u → b'[j]? = some v → FR H Z u v) : FR H Z (.clo f a b) (.clo f a' b')
 | agg (a a' : List V) (ha : a.length = a'.length) (hva : ∀ (j : Nat) u v, a[j]? = some u → a'[j]? = some v → FR H Z u v) : FR H Z (.agg a) (.agg a')
 | tup (a a' : List V) (ha : a.length = a'.length) (hva : ∀ (j : Nat) u v, a[j]? = some u → a'[j]? = some v → FR H Z u v) : FR H Z (.tup a) (.tup a')
def cu (H : ao) (Z : Nat → Prop) (xs ys : List V) : Prop := xs.length = ys.length ∧ ∀ (j : Nat) u v, xs[j]? = some u → ys[j]? = some v → FR H Z u v
def fI (H : ao) (Z : Nat → Prop) (xs ys : List (List V)) : Prop := xs.length = ys.length ∧ ∀ (j : Nat) u v, xs[j]? = some u → ys[j]? = some v → cu H Z u v
section
variable {H H' : ao} {Z Z' : Nat → Prop}
theorem FR.mono (h : ∀ id, Z id → Z' id ∧ an H' id = an H id) {x y : V} (r : FR H Z x y) : FR H' Z' x y := by
 induction r with
 | same x h => exact .same x h
 | fsl es xs id off ys hz hr hl hc hv ih => exact .fsl es xs id off ys (h id hz).1 (by rw [(h id hz).2]; exact hr) hl hc ih
 | fptr xs id el off es ys cs hz hr he ho hx hv ih => exact .fptr xs id el off es ys cs (h id hz).1 (by rw [(h id hz).2]; exact hr) he ho hx ih
 | clo f a b a' b' ha hb hva hvb iha ihb => exact .clo f a b a' b' ha hb iha ihb
 | agg a a' ha hva iha => exact .agg a a' ha iha
 | tup a a' ha hva iha => exact .tup a a' ha iha
theorem cu.mono (h : ∀ id, Z id → Z' id ∧ an H' id = an H id) {x y : List V} (r : cu H Z x y) : cu H' Z' x y := ⟨r.1, fun j u v a b => (r.2 j u v a b).mono h⟩
theorem fI.mono (h : ∀ id, Z id → Z' id ∧ an H' id = an H id) {x y : List (List V)} (r : fI H Z x y) : fI H' Z' x y := ⟨r.1, fun j u v a b => (r.2 j u v a b).mono h⟩
theorem cu.nil : cu H Z [] [] := ⟨rfl, by simp⟩
theorem cu.cons {x y : V} {xs ys : List V} (h : FR H Z x y) (r : cu H Z xs ys) : cu H Z (x :: xs) (y :: ys) := by
 refine ⟨by simp [r.1], fun j u v hu hv => ?_⟩
 cases j with
 | zero => simp at hu hv; subst hu; subst hv; exact h
 | succ j => exact r.2 j u v (by simpa using hu) (by simpa using hv)
theorem cu.inv {x : V} {xs ws : List V} (r : cu H Z (x :: xs) ws) : ∃ y ys, ws = y :: ys ∧ FR H Z x y ∧ cu H Z xs ys := by
 cases ws with
 | nil => have := r.1; simp at this
 | cons y ys =>
  refine ⟨y, ys, rfl, r.2 0 x y rfl rfl, by have := r.1; simpa using this, fun j u v hu hv => r.2 (j + 1) u v (by simpa using hu) (by simpa using hv)⟩
theorem cu.ct {ws : List V} (r : cu H Z [] ws) : ws = [] := by
 have := r.1
 exact List.length_eq_zero_iff.1 this.symm
theorem cu.get {xs ys : List V} (r : cu H Z xs ys) {j : Nat} {u : V} (h : xs[j]? = some u) : ∃ v, ys[j]? = some v ∧ FR H Z u v := by
 have hj : j < xs.length := (List.getElem?_eq_some_iff.1 h).1
 have : j < ys.length := by rw [← r.1]; exact hj
 exact ⟨ys[j], List.getElem?_eq_getElem this, r.2 j u _ h (List.getElem?_eq_getElem this)⟩
theorem fI.get {xs ys : List (List V)} (r : fI H Z xs ys) {j : Nat} {u : List V} (h : xs[j]? = some u) : ∃ v, ys[j]? = some v ∧ cu H Z u v := by
 have hj : j < xs.length := (List.getElem?_eq_some_iff.1 h).1
 have : j < ys.length := by rw [← r.1]; exact hj
 exact ⟨ys[j], List.getElem?_eq_getElem this, r.2 j u _ h (List.getElem?_eq_getElem this)⟩
theorem cu.append {a b c d : List V} (h : cu H Z a b) (k : cu H Z c d) : cu H Z (a ++ c) (b ++ d) := by
 refine ⟨by simp [h.1, k.1], fun j u v hu hv => ?_⟩
 by_cases hj : j < a.length
 ·rw [List.getElem?_append_left hj] at hu
  rw [List.getElem?_append_left (by rw [← h.1]; exact hj)] at hv
  exact h.2 j u v hu hv
 ·rw [List.getElem?_append_right (by omega)] at hu
  rw [List.getElem?_append_right (by rw [← h.1]; omega), ← h.1] at hv
  exact k.2 _ u v hu hv
theorem fI.append {a b c d : List (List V)} (h : fI H Z a b) (k : fI H Z c d) : fI H Z (a ++ c) (b ++ d) := by
 refine ⟨by simp [h.1, k.1], fun j u v hu hv => ?_⟩
 by_cases hj : j < a.length
 ·rw [List.getElem?_append_left hj] at hu
  rw [List.getElem?_append_left (by rw [← h.1]; exact hj)] at hv
  exact h.2 j u v hu hv
 ·rw [List.getElem?_append_right (by omega)] at hu
  rw [List.getElem?_append_right (by rw [← h.1]; omega), ← h.1] at hv
  exact k.2 _ u v hu hv
theorem cu.take {a b : List V} (h : cu H Z a b) (n : Nat) : cu H Z (a.take n) (b.take n) := by
 refine ⟨by simp [h.1], fun j u v hu hv => ?_⟩
 rw [List.getElem?_take] at hu hv
 split at hu
 ·rename_i hj; rw [if_pos hj] at hv; exact h.2 j u v hu hv
 ·simp at hu
theorem cu.drop {a b : List V} (h : cu H Z a b) (n : Nat) : cu H Z (a.drop n) (b.drop n) := by
 refine ⟨by simp [h.1], fun j u v hu hv => ?_⟩
 rw [List.getElem?_drop] at hu hv
 exact h.2 _ u v hu hv
theorem fI.take {a b : List (List V)} (h : fI H Z a b) (n : Nat) : fI H Z (a.take n) (b.take n) := by
 refine ⟨by simp [h.1], fun j u v hu hv => ?_⟩
 rw [List.getElem?_take] at hu hv
 split at hu
 ·rename_i hj; rw [if_pos hj] at hv; exact h.2 j u v hu hv
 ·simp at hu
theorem fI.drop {a b : List (List V)} (h : fI H Z a b) (n : Nat) : fI H Z (a.drop n) (b.drop n) := by
 refine ⟨by simp [h.1], fun j u v hu hv => ?_⟩
 rw [List.getElem?_drop] at hu hv
 exact h.2 _ u v hu hv
theorem cu.set {a b : List V} (h : cu H Z a b) (n : Nat) {x y : V} (hx : FR H Z x y) : cu H Z (a.set n x) (b.set n y) := by
 refine ⟨by simp [h.1], fun j u v hu hv => ?_⟩
 rw [List.getElem?_set] at hu hv
 rw [← h.1] at hv
 split at hu
 ·rename_i e; rw [if_pos e] at hv
  split at hu
  ·rename_i e2; rw [if_pos e2] at hv; cases hu; cases hv; exact hx
  ·simp at hu
 ·rename_i e; rw [if_neg e] at hv; exact h.2 j u v hu hv
theorem fI.set {a b : List (List V)} (h : fI H Z a b) (n : Nat) {x y : List V} (hx : cu H Z x y) : fI H Z (a.set n x) (b.set n y) := by
 refine ⟨by simp [h.1], fun j u v hu hv => ?_⟩
 rw [List.getElem?_set] at hu hv
 rw [← h.1] at hv
 split at hu
 ·rename_i e; rw [if_pos e] at hv
  split at hu
  ·rename_i e2; rw [if_pos e2] at hv; cases hu; cases hv; exact hx
  ·simp at hu
 ·rename_i e; rw [if_neg e] at hv; exact h.2 j u v hu hv
theorem cu.same {l : List V} (h : V.bK l = true) : cu H Z l l :=
 ⟨rfl, fun j u v hu hv => by rw [hu] at hv; cases hv; exact .same u (gZ.1 h j u hu)⟩
theorem FR.aN {x y : V} (r : FR H Z x y) : x.aN = true := by
 induction r with
 | same x h => exact h
 | fsl es xs id off ys hz hr hl hc hv ih =>
  simp only [V.aN]
  refine jy.2 fun i a ha => gZ.2 fun j u hu => ?_
  have hi : i < xs.length := (List.getElem?_eq_some_iff.1 ha).1
  have hb : ys[off + i]? = some ys[off + i] := List.getElem?_eq_getElem (by omega)
  have hj : j < (ys[off + i]).length := by rw [← hc i a _ ha hb]; exact (List.getElem?_eq_some_iff.1 hu).1
  exact ih i j a _ u _ ha hb hu (List.getElem?_eq_getElem hj)
 | fptr xs id el off es ys cs hz hr he ho hx hv ih =>
  simp only [V.aN]
  refine gZ.2 fun j u hu => ?_
  have hj : j < xs.length := (List.getElem?_eq_some_iff.1 hu).1
  exact ih j u _ hu (List.getElem?_eq_getElem (by omega))
 | clo f a b a' b' ha hb hva hvb iha ihb =>
  simp only [V.aN, Bool.and_eq_true]
  refine ⟨gZ.2 fun j u hu => ?_, gZ.2 fun j u hu => ?_⟩
  ·have : j < a'.length := by rw [← ha]; exact (List.getElem?_eq_some_iff.1 hu).1
   exact iha j u _ hu (List.getElem?_eq_getElem this)
  ·have : j < b'.length := by rw [← hb]; exact (List.getElem?_eq_some_iff.1 hu).1
   exact ihb j u _ hu (List.getElem?_eq_getElem this)
 | agg a a' ha hva iha =>
  simp only [V.aN]
  refine gZ.2 fun j u hu => ?_
  have : j < a'.length := by rw [← ha]; exact (List.getElem?_eq_some_iff.1 hu).1
  exact iha j u _ hu (List.getElem?_eq_getElem this)
 | tup a a' ha hva iha =>
  simp only [V.aN]
  refine gZ.2 fun j u hu => ?_
  have : j < a'.length := by rw [← ha]; exact (List.getElem?_eq_some_iff.1 hu).1
  exact iha j u _ hu (List.getElem?_eq_getElem this)
theorem FR.closed {x y : V} (r : FR H Z x y) : x.closed = true := V.ki r.aN
theorem cu.aN {xs ys : List V} (r : cu H Z xs ys) : V.bK xs = true :=
 gZ.2 fun j u hu => by obtain ⟨v, _, h⟩ := r.get hu; exact h.aN
theorem fI.aN {xs ys : List (List V)} (r : fI H Z xs ys) : V.j9 xs = true :=
 jy.2 fun j u hu => by obtain ⟨v, _, h⟩ := r.get hu; exact h.aN
theorem FR.bool {b : Bool} {y : V} (r : FR H Z (.bool b) y) : y = .bool b := by cases r; rfl
theorem FR.int {k : IntKind} {n : Int} {y : V} (r : FR H Z (.int k n) y) : y = .int k n := by cases r; rfl
theorem FR.str {s : ByteArray} {y : V} (r : FR H Z (.str s) y) : y = .str s := by cases r; rfl
theorem FR.dZ {y : V} (r : FR H Z .dZ y) : y = .dZ := by cases r; rfl
theorem FR.au {y : V} (r : FR H Z .au y) : y = .au := by cases r; rfl
theorem FR.bX {y : V} (r : FR H Z .bX y) : y = .bX := by cases r; rfl
theorem FR.fh {y : V} (r : FR H Z .fh y) : y = .fh := by cases r; rfl
theorem FR.aH {y : V} (r : FR H Z .aH y) : y = .aH := by cases r; rfl
theorem FR.fmap {kvs : List (V × V)} {y : V} (r : FR H Z (.fmap kvs) y) : y = .fmap kvs := by cases r; rfl
theorem FR.jm {a : List V} {y : V} (r : FR H Z (.agg a) y) : ∃ a', y = .agg a' ∧ cu H Z a a' := by
 cases r with
 | same _ h => exact ⟨a, rfl, .same (by simpa [V.aN] using h)⟩
 | agg _ a' ha hva => exact ⟨a', rfl, ha, hva⟩
theorem FR.kZ {a : List V} {y : V} (r : FR H Z (.tup a) y) : ∃ a', y = .tup a' ∧ cu H Z a a' := by
 cases r with
 | same _ h => exact ⟨a, rfl, .same (by simpa [V.aN] using h)⟩
 | tup _ a' ha hva => exact ⟨a', rfl, ha, hva⟩
theorem FR.iT {f : FuncId} {a b : List V} {y : V} (r : FR H Z (.clo f a b) y) : ∃ a' b', y = .clo f a' b' ∧ cu H Z a a' ∧ cu H Z b b' := by
 cases r with
 | same _ h =>
  simp only [V.aN, Bool.and_eq_true] at h
  exact ⟨a, b, rfl, .same h.1, .same h.2⟩
 | clo _ _ _ a' b' ha hb hva hvb => exact ⟨a', b', rfl, ⟨ha, hva⟩, ⟨hb, hvb⟩⟩
theorem FR.i4 {es : Nat} {xs : List (List V)} {y : V} (r : FR H Z (.fsl es xs) y) : y = .fsl es xs ∨
 ∃ id off ys, y = .hsl id es off xs.length ∧ Z id ∧ an H id = some (es, ys) ∧ off + xs.length ≤ ys.length ∧ fI H Z xs ((ys.drop off).take xs.length) := by
 cases r with
 | same _ h => exact .inl rfl
 | fsl _ _ id off ys hz hr hl hc hv =>
  refine .inr ⟨id, off, ys, rfl, hz, hr, hl, by simp; omega, fun j u v hu hv' => ?_⟩
  have hj : j < xs.length := (List.getElem?_eq_some_iff.1 hu).1
  rw [List.getElem?_take, if_pos hj, List.getElem?_drop] at hv'
  exact ⟨hc j u v hu hv', fun i s t hs ht => hv j i u v s t hu hv' hs ht⟩
theorem FR.CW {es : Nat} {xs : List (List V)} {id off : Nat} {ys : List (List V)} (hz : Z id) (hr : an H id = some (es, ys)) (hl : off + xs.length ≤ ys.length) (h : fI H Z xs ((ys.drop off).take xs.length)) :
 FR H Z (.fsl es xs) (.hsl id es off xs.length) := by
 have key : ∀ (i : Nat) a b, xs[i]? = some a → ys[off + i]? = some b → cu H Z a b := fun i a b ha hb => by
  have hj : i < xs.length := (List.getElem?_eq_some_iff.1 ha).1
  refine h.2 i a b ha ?_
  rw [List.getElem?_take, if_pos hj, List.getElem?_drop]; exact hb
 exact .fsl es xs id off ys hz hr hl (fun i a b ha hb => (key i a b ha hb).1) (fun i j a b u v ha hb hu hv => (key i a b ha hb).2 j u v hu hv)
theorem FR.jc {xs : List V} {y : V} (r : FR H Z (.fptr xs) y) : y = .fptr xs ∨
 ∃ id el off es ys cs, y = .hptr id el off ∧ Z id ∧ an H id = some (es, ys) ∧ ys[el]? = some cs ∧ off ≤ cs.length ∧ cu H Z xs (cs.drop off) := by
 cases r with
 | same _ h => exact .inl rfl
 | fptr _ id el off es ys cs hz hr he ho hx hv =>
  refine .inr ⟨id, el, off, es, ys, cs, rfl, hz, hr, he, ho, by simp [hx], fun j u v hu hv' => ?_⟩
  rw [List.getElem?_drop] at hv'
  exact hv j u v hu hv'
theorem FR.xp {xs : List V} {id el off es : Nat} {ys : List (List V)} {cs : List V} (hz : Z id) (hr : an H id = some (es, ys)) (he : ys[el]? = some cs) (ho : off ≤ cs.length) (h : cu H Z xs (cs.drop off)) : FR H Z (.fptr xs) (.hptr id el off) :=
 .fptr xs id el off es ys cs hz hr he ho (by have := h.1; simpa using this) (fun j u v hu hv => h.2 j u v hu (by rw [List.getElem?_drop]; exact hv))
theorem FR.cells {x y : V} (r : FR H Z x y) : cu H Z x.cells y.cells := by
 have one : ∀ {a b : V}, FR H Z a b → cu H Z [a] [b] := fun h => .cons h .nil
 cases r with
 | same _ h => cases x <;> first | exact one (.same _ h) | (simp only [V.aN] at h; exact cu.same h)
 | fsl es xs id off ys hz hr hl hc hv => exact one (.fsl es xs id off ys hz hr hl hc hv)
 | fptr xs id el off es ys cs hz hr he ho hx hv => exact one (.fptr xs id el off es ys cs hz hr he ho hx hv)
 | clo f a b a' b' ha hb hva hvb => exact one (.clo f a b a' b' ha hb hva hvb)
 | agg a a' ha hva => exact ⟨ha, hva⟩
 | tup a a' ha hva => exact one (.tup a a' ha hva)
theorem FR.one {x y : V} (r : FR H Z x y) : y.one = x.one := by cases r <;> rfl
theorem cu.one : ∀ {xs ys : List V}, cu H Z xs ys → ys.all V.one = xs.all V.one
 | [], ys, r => by rw [r.ct]
 | x :: xs, ws, r => by
  obtain ⟨y, ys, rfl, h, r'⟩ := r.inv
  simp only [List.all_cons, h.one, r'.one]
theorem l9 : ∀ {l : List V}, V.bZ l = true ↔ ∀ (j : Nat) u, l[j]? = some u → u.scalar = true
 | [] => by simp [V.bZ]
 | x :: l => by
  simp only [V.bZ, Bool.and_eq_true, l9 (l := l)]
  constructor
  ·rintro ⟨h1, h2⟩ j u hu
   cases j with
   | zero => simp at hu; subst hu; exact h1
   | succ j => exact h2 j u (by simpa using hu)
  ·intro h
   exact ⟨h 0 x rfl, fun j u hu => h (j + 1) u (by simpa using hu)⟩
theorem FR.scalar {x y : V} (r : FR H Z x y) : (x.scalar = true → y = x) ∧ y.scalar = x.scalar := by
 have key : ∀ (a a' : List V), a.length = a'.length → (∀ (j : Nat) u v, a[j]? = some u → a'[j]? = some v → (u.scalar = true → v = u) ∧ v.scalar = u.scalar) → (V.bZ a = true → a' = a) ∧ V.bZ a' = V.bZ a := by
  intro a a' ha ih
  have h1 : V.bZ a = true → a' = a := by
   intro hs
   refine (List.ext_getElem ha fun j h1 h2 => ?_).symm
   exact (((ih j _ _ (List.getElem?_eq_getElem h1) (List.getElem?_eq_getElem h2)).1 (l9.1 hs j _ (List.getElem?_eq_getElem h1)))).symm
  refine ⟨h1, ?_⟩
  cases hs : V.bZ a with
  | true => rw [h1 hs]; exact hs
  | false =>
   cases hs' : V.bZ a' with
   | false => rfl
   | true =>
    have : V.bZ a = true := l9.2 fun j u hu => by
     have hj : j < a'.length := by rw [← ha]; exact (List.getElem?_eq_some_iff.1 hu).1
     have := (ih j u _ hu (List.getElem?_eq_getElem hj)).2
     rw [← this]; exact l9.1 hs' j _ (List.getElem?_eq_getElem hj)
    rw [this] at hs; cases hs
 induction r with
 | same x h => exact ⟨fun _ => rfl, rfl⟩
 | fsl => exact ⟨fun h => by simp [V.scalar] at h, rfl⟩
 | fptr => exact ⟨fun h => by simp [V.scalar] at h, rfl⟩
 | clo => exact ⟨fun h => by simp [V.scalar] at h, rfl⟩
 | agg a a' ha hva iha =>
  obtain ⟨h1, h2⟩ := key a a' ha iha
  exact ⟨fun h => by rw [h1 (by simpa [V.scalar] using h)], by simpa [V.scalar] using h2⟩
 | tup a a' ha hva iha =>
  obtain ⟨h1, h2⟩ := key a a' ha iha
  exact ⟨fun h => by rw [h1 (by simpa [V.scalar] using h)], by simpa [V.scalar] using h2⟩
theorem cu.scalar {a a' : List V} (r : cu H Z a a') : (V.bZ a = true → a' = a) ∧ V.bZ a' = V.bZ a := by
 obtain ⟨h1, h2⟩ := FR.scalar (.tup a a' r.1 r.2 : FR H Z (.tup a) (.tup a'))
 simp only [V.scalar] at h1 h2
 exact ⟨fun h => by have := h1 h; cases this; rfl, h2⟩
theorem mb : ∀ {l : List V} {a : List Int}, gW l = some a → V.bZ l = true
 | [], _, _ => rfl
 | x :: l, a, h => by
  unfold gW at h
  split at h
  ·rename_i e; cases e
  ·rename_i n r e
   cases e
   obtain ⟨b, hb, _⟩ := Option.map_eq_some_iff.1 h
   simp only [V.bZ, V.scalar, Bool.true_and]
   exact mb hb
  ·simp at h
end
end Go.VE
namespace Go.VE
section
variable {H H' : ao} {Z Z' : Nat → Prop}
theorem iz {f : V → Option V} : ∀ {xs ys : List V}, xs.length = ys.length → (∀ (j : Nat) u v, xs[j]? = some u → ys[j]? = some v → f v = some u) → jh f ys = some xs
 | [], [], _, _ => rfl
 | [], y :: ys, h, _ => by simp at h
 | x :: xs, [], h, _ => by simp at h
 | x :: xs, y :: ys, h, hf => by
  simp only [jh, hf 0 x y rfl rfl, iz (xs := xs) (ys := ys) (by simpa using h) fun j u v hu hv => hf (j + 1) u v (by simpa using hu) (by simpa using hv)]
theorem AW {f : V → Option V} : ∀ {xs ys : List (List V)}, xs.length = ys.length → (∀ (j : Nat) u v, xs[j]? = some u → ys[j]? = some v → jh f v = some u) → n7 f ys = some xs
 | [], [], _, _ => rfl
 | [], y :: ys, h, _ => by simp at h
 | x :: xs, [], h, _ => by simp at h
 | x :: xs, y :: ys, h, hf => by
  simp only [n7, hf 0 x y rfl rfl, AW (xs := xs) (ys := ys) (by simpa using h) fun j u v hu hv => hf (j + 1) u v (by simpa using hu) (by simpa using hv)]
theorem kg : ∀ {l : List V}, V.iX l = true ↔ ∀ (j : Nat) u, l[j]? = some u → u.closed = true
 | [] => by simp [V.iX]
 | x :: l => by
  simp only [V.iX, Bool.and_eq_true, kg (l := l)]
  constructor
  ·rintro ⟨h1, h2⟩ j u hu
   cases j with
   | zero => simp at hu; subst hu; exact h1
   | succ j => exact h2 j u (by simpa using hu)
  ·intro h
   exact ⟨h 0 x rfl, fun j u hu => h (j + 1) u (by simpa using hu)⟩
theorem jS : ∀ {l : List V} {n : Nat}, V.dB n l = true ↔ ∀ (j : Nat) u, l[j]? = some u → u.lvl n = true
 | [], n => by simp [V.dB]
 | x :: l, n => by
  simp only [V.dB, Bool.and_eq_true, jS (l := l)]
  constructor
  ·rintro ⟨h1, h2⟩ j u hu
   cases j with
   | zero => simp at hu; subst hu; exact h1
   | succ j => exact h2 j u (by simpa using hu)
  ·intro h
   exact ⟨h 0 x rfl, fun j u hu => h (j + 1) u (by simpa using hu)⟩
theorem zy : ∀ {l : List (List V)} {n : Nat}, V.m_ n l = true ↔ ∀ (j : Nat) u, l[j]? = some u → V.dB n u = true
 | [], n => by simp [V.m_]
 | x :: l, n => by
  simp only [V.m_, Bool.and_eq_true, zy (l := l)]
  constructor
  ·rintro ⟨h1, h2⟩ j u hu
   cases j with
   | zero => simp at hu; subst hu; exact h1
   | succ j => exact h2 j u (by simpa using hu)
  ·intro h
   exact ⟨h 0 x rfl, fun j u hu => h (j + 1) u (by simpa using hu)⟩
theorem ez (n : Nat) (H : ao) {x : V} (h : x.closed = true) : borrow n H x = some x := by
 cases n <;> simp [borrow, h]
theorem FR.borrow {x y : V} (r : FR H Z x y) : ∀ n, x.lvl n = true → borrow n H y = some x := by
 induction r with
 | same x h => exact fun n _ => ez n H (V.ki h)
 | fsl es xs id off ys hz hr hl hc hv ih =>
  intro n hn
  cases n with
  | zero => simp [V.lvl] at hn
  | succ n =>
   simp only [V.lvl] at hn
   unfold Go.VE.borrow
   unfold an at hr
   simp only [V.closed, Bool.false_eq_true, if_false, hr, true_and, if_pos hl, Option.map_eq_some_iff, V.fsl.injEq]
   refine ⟨xs, AW (by simp; omega) fun j u v hu hv' => ?_, rfl⟩
   have hj : j < xs.length := (List.getElem?_eq_some_iff.1 hu).1
   rw [List.getElem?_take, if_pos hj, List.getElem?_drop] at hv'
   refine iz (hc j u v hu hv') fun i s t hs ht => ih j i u v s t hu hv' hs ht n (jS.1 (zy.1 hn j u hu) i s hs)
 | fptr xs id el off es ys cs hz hr he ho hx hv ih =>
  intro n hn
  cases n with
  | zero => simp [V.lvl] at hn
  | succ n =>
   simp only [V.lvl] at hn
   unfold Go.VE.borrow
   unfold an at hr
   simp only [V.closed, Bool.false_eq_true, if_false, hr, he, if_pos ho, Option.map_eq_some_iff, V.fptr.injEq]
   refine ⟨xs, iz (by simp [hx]) fun j u v hu hv' => ?_, rfl⟩
   rw [List.getElem?_drop] at hv'
   exact ih j u v hu hv' n (jS.1 hn j u hu)
 | clo f a b a' b' ha hb hva hvb iha ihb =>
  intro n hn
  cases n with
  | zero => simp [V.lvl] at hn
  | succ n =>
   simp only [V.lvl, Bool.and_eq_true] at hn
   by_cases hcl : (V.clo f a' b').closed = true
   ·rw [ez _ _ hcl]
    simp only [V.closed, Bool.and_eq_true] at hcl
    have e1 : a' = a := by
     have := iz (f := Go.VE.borrow n H) ha fun j u v hu hv => iha j u v hu hv n (jS.1 hn.1 j u hu)
     have h2 := iz (f := Go.VE.borrow n H) (xs := a') (ys := a') rfl fun j u v hu hv => by rw [hu] at hv; cases hv; exact ez n H (kg.1 hcl.1 j u hu)
     rw [this] at h2; cases h2; rfl
    have e2 : b' = b := by
     have := iz (f := Go.VE.borrow n H) hb fun j u v hu hv => ihb j u v hu hv n (jS.1 hn.2 j u hu)
     have h2 := iz (f := Go.VE.borrow n H) (xs := b') (ys := b') rfl fun j u v hu hv => by rw [hu] at hv; cases hv; exact ez n H (kg.1 hcl.2 j u hu)
     rw [this] at h2; cases h2; rfl
    rw [e1, e2]
   ·unfold Go.VE.borrow
    rw [if_neg hcl]
    simp only [iz (f := Go.VE.borrow n H) ha fun j u v hu hv => iha j u v hu hv n (jS.1 hn.1 j u hu),
     iz (f := Go.VE.borrow n H) hb fun j u v hu hv => ihb j u v hu hv n (jS.1 hn.2 j u hu)]
 | agg a a' ha hva iha =>
  intro n hn
  cases n with
  | zero => simp [V.lvl] at hn
  | succ n =>
   simp only [V.lvl] at hn
   have hm := iz (f := Go.VE.borrow n H) ha fun j u v hu hv => iha j u v hu hv n (jS.1 hn j u hu)
   by_cases hcl : (V.agg a').closed = true
   ·rw [ez _ _ hcl]
    simp only [V.closed] at hcl
    have h2 := iz (f := Go.VE.borrow n H) (xs := a') (ys := a') rfl fun j u v hu hv => by rw [hu] at hv; cases hv; exact ez n H (kg.1 hcl j u hu)
    rw [hm] at h2; cases h2; rfl
   ·unfold Go.VE.borrow
    rw [if_neg hcl]
    simp only [hm, Option.map_some]
 | tup a a' ha hva iha =>
  intro n hn
  cases n with
  | zero => simp [V.lvl] at hn
  | succ n =>
   simp only [V.lvl] at hn
   have hm := iz (f := Go.VE.borrow n H) ha fun j u v hu hv => iha j u v hu hv n (jS.1 hn j u hu)
   by_cases hcl : (V.tup a').closed = true
   ·rw [ez _ _ hcl]
    simp only [V.closed] at hcl
    have h2 := iz (f := Go.VE.borrow n H) (xs := a') (ys := a') rfl fun j u v hu hv => by rw [hu] at hv; cases hv; exact ez n H (kg.1 hcl j u hu)
    rw [hm] at h2; cases h2; rfl
   ·unfold Go.VE.borrow
    rw [if_neg hcl]
    simp only [hm, Option.map_some]
theorem oA {f : V → List Nat} {k : Nat} : ∀ {l : List V}, k ∈ dg f l → ∃ (j : Nat) (u : V), l[j]? = some u ∧ k ∈ f u
 | [], h => by simp [dg] at h
 | x :: l, h => by
  simp only [dg, List.mem_append] at h
  rcases h with h | h
  ·exact ⟨0, x, rfl, h⟩
  ·obtain ⟨j, u, hu, hk⟩ := oA h
   exact ⟨j + 1, u, by simpa using hu, hk⟩
structure q8 (H : ao) (Z : Nat → Prop) : Prop where
 row : ∀ id es ys, Z id → an H id = some (es, ys) → ∀ c ∈ ys, ∀ u ∈ c, ∃ x, FR H Z x u
theorem FR.bY (hd : q8 H Z) : ∀ (n : Nat) {x y : V}, FR H Z x y → ∀ k ∈ bY n H y, Z k
 | 0, x, y, r, k, hk => by simp [Go.VE.bY] at hk
 | n + 1, x, y, r, k, hk => by
  unfold Go.VE.bY at hk
  split at hk
  ·simp at hk
  ·rename_i hcl
   have pt : ∀ (a a' : List V), cu H Z a a' → k ∈ dg (Go.VE.bY n H) a' → Z k := fun a a' h hk => by
    obtain ⟨j, u, hu, hku⟩ := oA hk
    have hj : j < a.length := by rw [h.1]; exact (List.getElem?_eq_some_iff.1 hu).1
    exact FR.bY hd n (h.2 j _ u (List.getElem?_eq_getElem hj) hu) k hku
   have row : ∀ (id : Nat), Z id → k ∈ (match (H[id]?).bind Ob.rows with | some (_, xs) => dg (Go.VE.bY n H) xs.flatten | none => []) → Z k := fun id hz hk => by
    split at hk
    ·rename_i es ys hr
     obtain ⟨j, u, hu, hku⟩ := oA hk
     have hm : u ∈ ys.flatten := List.mem_of_getElem? hu
     obtain ⟨c, hc, huc⟩ := List.mem_flatten.1 hm
     obtain ⟨x, hx⟩ := hd.row id es ys hz hr c hc u huc
     exact FR.bY hd n hx k hku
    ·simp at hk
   cases r with
   | same _ h => exact absurd (V.ki h) hcl
   | fsl es xs id off ys hz hr hl hc hv =>
    simp only [List.mem_cons] at hk
    rcases hk with rfl | hk
    ·exact hz
    ·exact row id hz hk
   | fptr xs id el off es ys cs hz hr he ho hx hv =>
    simp only [List.mem_cons] at hk
    rcases hk with rfl | hk
    ·exact hz
    ·exact row id hz hk
   | clo f a b a' b' ha hb hva hvb =>
    simp only [List.mem_append] at hk
    rcases hk with hk | hk
    ·exact pt a a' ⟨ha, hva⟩ hk
    ·exact pt b b' ⟨hb, hvb⟩ hk
   | agg a a' ha hva => exact pt a a' ⟨ha, hva⟩ hk
   | tup a a' ha hva => exact pt a a' ⟨ha, hva⟩ hk
theorem cu.cut {cs ys r : List V} {off n : Nat} (h : cu H Z cs ys) (hc : cut cs off n = some r) : ∃ r', Go.VE.cut ys off n = some r' ∧ cu H Z r r' := by
 unfold Go.VE.cut at hc ⊢
 have h2 := (h.drop off).take n
 dsimp only at hc ⊢
 split at hc
 ·rename_i e
  simp only [Option.some.injEq] at hc; subst hc
  exact ⟨_, by rw [if_pos (by rw [← h2.1]; exact e)], h2⟩
 ·simp at hc
theorem cu.mk {agg : Bool} {cs ys : List V} {x : V} (h : cu H Z cs ys) (hm : mk agg cs = some x) : ∃ y, Go.VE.mk agg ys = some y ∧ FR H Z x y := by
 unfold Go.VE.mk at hm ⊢
 split at hm
 ·rename_i e
  simp only [Option.some.injEq] at hm; subst hm
  exact ⟨_, by rw [if_pos e], .agg _ _ h.1 h.2⟩
 ·rename_i e
  split at hm
  ·simp only [Option.some.injEq] at hm; subst hm
   obtain ⟨y, ys, rfl, h1, h2⟩ := h.inv
   rw [h2.ct]
   exact ⟨y, by rw [if_neg e], h1⟩
  ·simp at hm
theorem cu.fill : ∀ {pl : List (Nat × Nat)} {vs ws cells cells' r : List V}, cu H Z cells cells' → cu H Z vs ws → jf cells pl vs = some r → ∃ r', jf cells' pl ws = some r' ∧ cu H Z r r'
 | [], vs, ws, cells, cells', r, hc, hv, h => by
  cases vs with
  | nil => rw [hv.ct]; simp only [jf, Option.some.injEq] at h ⊢; subst h; exact ⟨_, rfl, hc⟩
  | cons v vs => simp [jf] at h
 | (off, size) :: pl, vs, ws, cells, cells', r, hc, hv, h => by
  cases vs with
  | nil => simp [jf] at h
  | cons v vs =>
   obtain ⟨w, ws, rfl, h1, h2⟩ := hv.inv
   have k := h1.cells
   simp only [jf] at h ⊢
   rw [← k.1, ← hc.1]
   split at h
   ·simp at h
   ·rename_i e
    rw [if_neg e]
    exact cu.fill (((hc.take off).append k).append (hc.drop _)) h2 h
theorem FR.oN {k : KT} {x y x' y' : V} {b : Bool} (hx : FR H Z x x') (hy : FR H Z y y') (h : ke k x y = some b) : ke k x' y' = some b := by
 unfold ke at h
 split at h
 ·rw [hx.au, hy.au]; exact h
 ·rw [hy.au]
  rcases hx.i4 with rfl | ⟨_, _, _, rfl, _⟩ <;> exact h
 ·exact absurd hx.closed (by simp [V.closed])
 ·rw [hx.bX, hy.bX]; exact h
 ·rw [hy.bX]
  rcases hx.jc with rfl | ⟨_, _, _, _, _, _, rfl, _⟩ <;> exact h
 ·exact absurd hx.closed (by simp [V.closed])
 ·rw [hx.fh, hy.fh]; exact h
 ·rw [hy.fh, hx.fmap]; exact h
 ·exact absurd hx.closed (by simp [V.closed])
 ·simp at h
theorem FR.i5 {a b a' b' : List V} {r : Bool} (ha : cu H Z a a') (hb : cu H Z b b') (h : i5 a b = some r) : Go.VE.i5 a' b' = some r := by
 unfold Go.VE.i5 at h
 split at h
 ·rename_i u v hu hv
  rw [ha.scalar.1 (mb hu), hb.scalar.1 (mb hv)]
  unfold Go.VE.i5
  rw [hu, hv]; exact h
 ·simp at h
theorem tN {k : KT} {x y : V} {b : Bool} (h : ke k x y = some b) : (y = .au ∧ (x = .au ∨ (∃ es xs, x = .fsl es xs) ∨ ∃ id es off len, x = .hsl id es off len)) ∨
 (y = .bX ∧ (x = .bX ∨ (∃ cs, x = .fptr cs) ∨ ∃ id el off, x = .hptr id el off)) ∨ (y = .fh ∧ (x = .fh ∨ (∃ kvs, x = .fmap kvs) ∨ ∃ id, x = .hmap id)) := by
 unfold ke at h
 (repeat' split at h) <;> first | (simp; done) | simp at h
theorem Be {k : Option KT} {e : Option Nat} {op : BinOp} {x y : V} (hs : (y = .au ∧ (x = .au ∨ (∃ es xs, x = .fsl es xs) ∨ ∃ id es off len, x = .hsl id es off len)) ∨
 (y = .bX ∧ (x = .bX ∨ (∃ cs, x = .fptr cs) ∨ ∃ id el off, x = .hptr id el off)) ∨ (y = .fh ∧ (x = .fh ∨ (∃ kvs, x = .fmap kvs) ∨ ∃ id, x = .hmap id))) :
 mg k e op x y = (match k, op with
 | some k, .eql => (ke k x y).map .bool
 | some k, .neq => (ke k x y).map fun t => .bool !t
 | _, _ => none) := by
 rcases hs with ⟨rfl, rfl | ⟨_, _, rfl⟩ | ⟨_, _, _, _, rfl⟩⟩ | ⟨rfl, rfl | ⟨_, rfl⟩ | ⟨_, _, _, rfl⟩⟩ | ⟨rfl, rfl | ⟨_, rfl⟩ | ⟨_, rfl⟩⟩ <;> cases k <;> cases op <;> rfl
theorem BU {k : Option KT} {e : Option Nat} {op : BinOp} {x y z : V} (h : mg k e op x y = some z) : z.aN = true := by
 have hb : ∀ {o : Option Bool} {z : V}, o.map V.bool = some z → z.aN = true := fun h => by obtain ⟨_, _, rfl⟩ := Option.map_eq_some_iff.1 h; rfl
 have hb' : ∀ {o : Option Bool} {z : V}, (o.map fun t => V.bool !t) = some z → z.aN = true := fun h => by obtain ⟨_, _, rfl⟩ := Option.map_eq_some_iff.1 h; rfl
 unfold mg at h
 (repeat' split at h) <;> first | (simp only [Option.some.injEq] at h; subst h; rfl) | exact hb h | exact hb' h | simp at h
theorem FR.bin {k : Option KT} {e : Option Nat} {op : BinOp} {x y x' y' z : V} (hx : FR H Z x x') (hy : FR H Z y y') (h : mg k e op x y = some z) : mg k e op x' y' = some z := by
 have h0 := h
 unfold mg at h
 split at h
 ·rw [hx.int, hy.int]; exact h0
 ·rw [hx.str, hy.str]; exact h0
 ·rw [hx.bool, hy.bool]; exact h0
 ·obtain ⟨a', rfl, ha⟩ := hx.jm
  obtain ⟨b', rfl, hb⟩ := hy.jm
  split at h
  ·split at h
   ·rename_i hl
    obtain ⟨r, hr, rfl⟩ := Option.map_eq_some_iff.1 h
    simp only [mg, ← ha.1, hl, if_true, FR.i5 ha hb hr, Option.map_some]
   ·simp at h
  ·split at h
   ·rename_i hl
    obtain ⟨r, hr, rfl⟩ := Option.map_eq_some_iff.1 h
    simp only [mg, ← ha.1, hl, if_true, FR.i5 ha hb hr, Option.map_some]
   ·simp at h
  ·simp at h
 ·split at h
  ·obtain ⟨r, hr, rfl⟩ := Option.map_eq_some_iff.1 h
   have hr' := FR.oN hx hy hr
   rw [Be (tN hr')]; dsimp only; rw [hr']; rfl
  ·obtain ⟨r, hr, rfl⟩ := Option.map_eq_some_iff.1 h
   have hr' := FR.oN hx hy hr
   rw [Be (tN hr')]; dsimp only; rw [hr']; rfl
  ·simp at h
theorem FR.slice {size : Nat} {x x' z : V} {l h : Option Int} (hx : FR H Z x x') (hs : jr size x l h = some z) : ∃ z', jr size x' l h = some z' ∧ FR H Z z z' := by
 have hbd : ∀ {n lo hi : Nat}, dR n l h = some (lo, hi) → hi ≤ n ∧ lo ≤ hi := by
  intro n lo hi e
  unfold dR at e
  dsimp only at e
  split at e
  ·rename_i hc
   simp only [Option.some.injEq, Prod.mk.injEq] at e
   omega
  ·simp at e
 unfold jr at hs
 split at hs
 ·rename_i es xs
  split at hs
  ·rename_i he
   obtain ⟨⟨lo, hi⟩, hb, rfl⟩ := Option.map_eq_some_iff.1 hs
   obtain ⟨b1, b2⟩ := hbd hb
   rcases hx.i4 with rfl | ⟨id, off, ys, rfl, hz, hr, hl, hf⟩
   ·refine ⟨_, by simp only [jr, if_pos he, hb, Option.map_some], .same _ ?_⟩
    have hg := hx.aN
    simp only [V.aN] at hg ⊢
    refine jy.2 fun j u hu => ?_
    rw [List.getElem?_drop, List.getElem?_take] at hu
    split at hu
    ·exact jy.1 hg _ u hu
    ·simp at hu
   ·refine ⟨.hsl id es (off + lo) (hi - lo), by simp only [jr, if_pos he, hb, Option.map_some], ?_⟩
    have hlen : ((xs.take hi).drop lo).length = hi - lo := by simp; omega
    rw [← hlen]
    refine FR.CW hz hr (by rw [hlen]; omega) ?_
    have := (hf.take hi).drop lo
    rw [hlen]
    have e : List.drop lo (List.take hi (List.take xs.length (List.drop off ys))) = List.take (hi - lo) (List.drop (off + lo) ys) := by
     rw [List.take_take, Nat.min_eq_left b1, List.drop_take, List.drop_drop]
    rw [e] at this; exact this
  ·simp at hs
 ·exact absurd hx.closed (by simp [V.closed])
 ·rw [hx.dZ]
  obtain ⟨_, hb, rfl⟩ := Option.map_eq_some_iff.1 hs
  exact ⟨.dZ, by simp only [jr, hb, Option.map_some], .same _ rfl⟩
 ·rw [hx.au]
  obtain ⟨_, hb, rfl⟩ := Option.map_eq_some_iff.1 hs
  exact ⟨.au, by simp only [jr, hb, Option.map_some], .same _ rfl⟩
 ·simp at hs
theorem cu.kF {lo hi : Bool} {bs bs' : List V} {r : Option Int × Option Int} (h : cu H Z bs bs') (hb : kF lo hi bs = some r) : Go.VE.kF lo hi bs' = some r := by
 unfold Go.VE.kF at hb
 split at hb
 ·rw [h.ct]; exact hb
 ·obtain ⟨_, _, rfl, h1, h2⟩ := h.inv; rw [h1.int, h2.ct]; exact hb
 ·obtain ⟨_, _, rfl, h1, h2⟩ := h.inv; rw [h1.int, h2.ct]; exact hb
 ·obtain ⟨_, _, rfl, h1, h2⟩ := h.inv
  obtain ⟨_, _, rfl, h3, h4⟩ := h2.inv
  rw [h1.int, h3.int, h4.ct]; exact hb
 ·simp at hb
theorem cu.bh {N : Nat → FuncId} {p : pU} {xs ys : List V} {z : V} (hz0 : ∀ zero pl, p = .build zero pl → V.bK zero = true) (h : cu H Z xs ys) (hp : bh N p xs = some z) : ∃ z', Go.VE.bh N p ys = some z' ∧ FR H Z z z' := by
 unfold Go.VE.bh at hp
 split at hp
 ·
  obtain ⟨y, _, rfl, h1, h2⟩ := h.inv; rw [h2.ct]
  simp only [Option.some.injEq] at hp; subst hp
  exact ⟨y, rfl, h1⟩
 ·
  rename_i t a b
  obtain ⟨w1, _, rfl, h1, h2⟩ := h.inv
  obtain ⟨w2, _, rfl, h3, h4⟩ := h2.inv
  obtain ⟨w3, _, rfl, h5, h6⟩ := h4.inv
  rw [h1.bool, h6.ct]
  simp only [Option.some.injEq] at hp; subst hp
  refine ⟨if t = true then w2 else w3, rfl, ?_⟩
  cases t
  ·exact h5
  ·exact h3
 ·
  obtain ⟨y, _, rfl, h1, h2⟩ := h.inv; rw [h2.ct]
  unfold Dt at hp
  split at hp
  ·exact absurd h1.closed (by simp [V.closed])
  ·simp only [Option.some.injEq] at hp; subst hp
   rcases h1.jc with rfl | ⟨_, _, _, _, _, _, rfl, _⟩
   ·exact ⟨_, rfl, h1⟩
   ·exact ⟨_, rfl, h1⟩
  ·simp only [Option.some.injEq] at hp; subst hp
   obtain ⟨_, _, rfl, _⟩ := h1.iT
   exact ⟨_, rfl, h1⟩
  ·simp at hp
 ·
  obtain ⟨_, _, rfl, h1, h2⟩ := h.inv
  obtain ⟨_, _, rfl, h3, h4⟩ := h2.inv
  rw [h4.ct]
  exact ⟨z, FR.bin h1 h3 hp, .same _ (BU hp)⟩
 ·obtain ⟨_, _, rfl, h1, h2⟩ := h.inv; rw [h1.bool, h2.ct]
  simp only [Option.some.injEq] at hp; subst hp
  exact ⟨_, rfl, .same _ rfl⟩
 ·obtain ⟨_, _, rfl, h1, h2⟩ := h.inv; rw [h1.int, h2.ct]
  simp only [Option.some.injEq] at hp; subst hp
  exact ⟨_, rfl, .same _ rfl⟩
 ·obtain ⟨_, _, rfl, h1, h2⟩ := h.inv; rw [h1.int, h2.ct]
  simp only [Option.some.injEq] at hp; subst hp
  exact ⟨_, rfl, .same _ rfl⟩
 ·
  rename_i off p
  obtain ⟨y, _, rfl, h1, h2⟩ := h.inv; rw [h2.ct]
  unfold pq at hp
  split at hp
  ·split at hp
   ·rename_i cs ho
    simp only [Option.some.injEq] at hp; subst hp
    rcases h1.jc with rfl | ⟨id, el, o, es, ys, ds, rfl, hz, hr, he, hle, hf⟩
    ·have hg := h1.aN
     simp only [V.aN] at hg
     exact ⟨_, by simp only [Go.VE.bh, pq, if_pos ho], .same _ (by simp only [V.aN]; exact sB _ hg)⟩
    ·refine ⟨.hptr id el (o + off), rfl, FR.xp hz hr he (by have := hf.1; simp at this; omega) ?_⟩
     have := hf.drop off
     rw [List.drop_drop] at this
     exact this
   ·simp at hp
  ·exact absurd h1.closed (by simp [V.closed])
  ·simp at hp
 ·
  rename_i off size agg cs
  obtain ⟨y, _, rfl, h1, h2⟩ := h.inv; rw [h2.ct]
  obtain ⟨cs', rfl, hc⟩ := h1.jm
  obtain ⟨r, hr, hm⟩ := Option.bind_eq_some_iff.1 hp
  obtain ⟨r', hr', hrr⟩ := hc.cut hr
  obtain ⟨z', hz', hzz⟩ := hrr.mk hm
  exact ⟨z', by simp only [Go.VE.bh, hr', Option.bind_some, hz'], hzz⟩
 ·
  rename_i size s k n
  obtain ⟨y, _, rfl, h1, h2⟩ := h.inv
  obtain ⟨_, _, rfl, h3, h4⟩ := h2.inv
  rw [h3.int, h4.ct]
  unfold sH at hp
  split at hp
  ·simp at hp
  ·rename_i hn
   split at hp
   ·rename_i es xs
    split at hp
    ·rename_i he
     obtain ⟨c, hc, rfl⟩ := Option.map_eq_some_iff.1 hp
     rcases h1.i4 with rfl | ⟨id, off, ys, rfl, hz, hr, hl, hf⟩
     ·have hg := h1.aN
      simp only [V.aN] at hg
      exact ⟨_, by simp only [Go.VE.bh, sH, if_neg hn, if_pos he, hc, Option.map_some], .same _ (by simp only [V.aN]; exact jy.1 hg _ _ hc)⟩
     ·have hj : n.toNat < xs.length := (List.getElem?_eq_some_iff.1 hc).1
      obtain ⟨d, hd, hcd⟩ := hf.get hc
      rw [List.getElem?_take, if_pos hj, List.getElem?_drop] at hd
      exact ⟨.hptr id (off + n.toNat) 0, by simp only [Go.VE.bh, sH, if_neg hn, if_pos (And.intro he hj)], FR.xp hz hr hd (by simp) (by simpa using hcd)⟩
    ·simp at hp
   ·exact absurd h1.closed (by simp [V.closed])
   ·simp at hp
 ·
  rename_i len size s k n
  obtain ⟨y, _, rfl, h1, h2⟩ := h.inv
  obtain ⟨_, _, rfl, h3, h4⟩ := h2.inv
  rw [h3.int, h4.ct]
  unfold qR at hp
  split at hp
  ·rename_i hn
   split at hp
   ·split at hp
    ·rename_i cs ho
     simp only [Option.some.injEq] at hp; subst hp
     rcases h1.jc with rfl | ⟨id, el, o, es, ys, ds, rfl, hz, hr, he, hle, hf⟩
     ·have hg := h1.aN
      simp only [V.aN] at hg
      exact ⟨_, by simp only [Go.VE.bh, qR, if_pos hn, if_pos ho], .same _ (by simp only [V.aN]; exact sB _ hg)⟩
     ·refine ⟨.hptr id el (o + n.toNat * size), by simp only [Go.VE.bh, qR, if_pos hn], FR.xp hz hr he (by have := hf.1; simp at this; omega) ?_⟩
      have := hf.drop (n.toNat * size)
      rw [List.drop_drop] at this
      exact this
    ·simp at hp
   ·exact absurd h1.closed (by simp [V.closed])
   ·simp at hp
  ·simp at hp
 ·
  rename_i s k n
  obtain ⟨y, _, rfl, h1, h2⟩ := h.inv
  obtain ⟨_, _, rfl, h3, h4⟩ := h2.inv
  rw [h1.str, h3.int, h4.ct]
  split at hp
  ·rename_i hn
   obtain ⟨c, hc, rfl⟩ := Option.map_eq_some_iff.1 hp
   exact ⟨_, by simp only [Go.VE.bh, if_pos hn, hc, Option.map_some], .same _ rfl⟩
  ·simp at hp
 ·
  rename_i len size agg cs k n
  obtain ⟨y, _, rfl, h1, h2⟩ := h.inv
  obtain ⟨_, _, rfl, h3, h4⟩ := h2.inv
  rw [h3.int, h4.ct]
  obtain ⟨cs', rfl, hc⟩ := h1.jm
  split at hp
  ·rename_i hn
   obtain ⟨r, hr, hm⟩ := Option.bind_eq_some_iff.1 hp
   obtain ⟨r', hr', hrr⟩ := hc.cut hr
   obtain ⟨z', hz', hzz⟩ := hrr.mk hm
   exact ⟨z', by simp only [Go.VE.bh, if_pos hn, hr', Option.bind_some, hz'], hzz⟩
  ·simp at hp
 ·
  rename_i lo hi s bs
  obtain ⟨y, _, rfl, h1, h2⟩ := h.inv
  rw [h1.str]
  obtain ⟨⟨l, h'⟩, hb, hp⟩ := Option.bind_eq_some_iff.1 hp
  obtain ⟨⟨l2, h2'⟩, hb2, rfl⟩ := Option.map_eq_some_iff.1 hp
  exact ⟨_, by simp only [Go.VE.bh, h2.kF hb, Option.bind_some, hb2, Option.map_some], .same _ rfl⟩
 ·
  rename_i size lo hi s bs
  obtain ⟨y, _, rfl, h1, h2⟩ := h.inv
  obtain ⟨⟨l, h'⟩, hb, hp⟩ := Option.bind_eq_some_iff.1 hp
  obtain ⟨z', hz', hzz⟩ := FR.slice h1 hp
  exact ⟨z', by simp only [Go.VE.bh, h2.kF hb, Option.bind_some, hz'], hzz⟩
 ·
  obtain ⟨y, _, rfl, h1, h2⟩ := h.inv
  obtain ⟨_, _, rfl, h3, h4⟩ := h2.inv
  obtain ⟨_, _, rfl, h5, h6⟩ := h4.inv
  rw [h3.int, h5.int, h6.ct]
  split at hp
  ·rename_i hc
   simp only [Option.some.injEq] at hp; subst hp
   refine ⟨.dZ, ?_, .same _ rfl⟩
   simp only [Bool.and_eq_true] at hc
   have : CT y = true := by
    have h0 := hc.1.1
    unfold CT at h0
    split at h0
    ·rcases h1.i4 with rfl | ⟨_, _, _, rfl, _⟩ <;> rfl
    ·exact absurd h1.closed (by simp [V.closed])
    ·rw [h1.dZ]; rfl
    ·rw [h1.au]; rfl
    ·simp at h0
   simp only [Go.VE.bh, this, hc.1.2, hc.2, Bool.and_self, if_true]
  ·simp at hp
 ·
  rename_i vs zero pl
  obtain ⟨r, hr, rfl⟩ := Option.map_eq_some_iff.1 hp
  obtain ⟨r', hr', hrr⟩ := cu.fill (cu.same (hz0 zero pl rfl)) h hr
  exact ⟨.agg r', by simp only [Go.VE.bh, hr', Option.map_some], .agg _ _ hrr.1 hrr.2⟩
 ·
  rename_i vs name k
  simp only [Option.some.injEq] at hp; subst hp
  exact ⟨_, rfl, .clo _ _ _ _ _ (h.take k).1 (h.drop k).1 (h.take k).2 (h.drop k).2⟩
 ·
  rename_i i vs
  obtain ⟨y, _, rfl, h1, h2⟩ := h.inv; rw [h2.ct]
  obtain ⟨ws, rfl, hw⟩ := h1.kZ
  obtain ⟨z', hz', hzz⟩ := hw.get hp
  exact ⟨z', hz', hzz⟩
 ·
  obtain ⟨y, _, rfl, h1, h2⟩ := h.inv; rw [h1.str, h2.ct]
  simp only [Option.some.injEq] at hp; subst hp
  exact ⟨_, rfl, .same _ rfl⟩
 ·
  obtain ⟨y, _, rfl, h1, h2⟩ := h.inv; rw [h2.ct]
  unfold xY at hp
  split at hp
  ·simp only [Option.some.injEq] at hp; subst hp
   rcases h1.i4 with rfl | ⟨_, _, _, rfl, _⟩ <;> exact ⟨_, rfl, .same _ rfl⟩
  ·exact absurd h1.closed (by simp [V.closed])
  ·rw [h1.dZ]; simp only [Option.some.injEq] at hp; subst hp; exact ⟨_, rfl, .same _ rfl⟩
  ·rw [h1.au]; simp only [Option.some.injEq] at hp; subst hp; exact ⟨_, rfl, .same _ rfl⟩
  ·simp at hp
 ·
  obtain ⟨_, _, rfl, h1, h2⟩ := h.inv
  obtain ⟨_, _, rfl, h3, h4⟩ := h2.inv
  rw [h1.int, h3.int, h4.ct]
  split at hp
  ·rename_i e
   simp only [Option.some.injEq] at hp; subst hp
   exact ⟨_, by simp only [Go.VE.bh, if_pos e], .same _ rfl⟩
  ·simp at hp
 ·
  obtain ⟨_, _, rfl, h1, h2⟩ := h.inv
  obtain ⟨_, _, rfl, h3, h4⟩ := h2.inv
  rw [h1.int, h3.int, h4.ct]
  split at hp
  ·rename_i e
   simp only [Option.some.injEq] at hp; subst hp
   exact ⟨_, by simp only [Go.VE.bh, if_pos e], .same _ rfl⟩
  ·simp at hp
 ·simp at hp
end
end Go.VE
namespace Go.VE
def sW (p : Nat × Nat) (k : Fl) (es len : Nat) : V :=
 match k with
 | .nil => .au
 | .emp => .dZ
 | _ => .hsl p.1 es p.2 len
abbrev Nu := Nat → Nat × Nat
inductive cz (ν : Nu) (m : Tb aE) (H : ao) (Z : Nat → Prop) : SV → V → Prop
 | v (x y : V) (h : FR H Z x y) : cz ν m H Z (.v x) y
 | own (d : Nat) (y : V) (h : ∀ ob, aj m d = some ob → ∃ k es xs, ob = .sl k es xs ∧ y = sW (ν d) k es xs.length) : cz ν m H Z (.own d) y
 | ptr (d o : Nat) (y : V) (h : ∀ ob, aj m d = some ob → ∃ cs, ob = .box cs ∧ y = .hptr (ν d).1 0 o) : cz ν m H Z (.ptr d o) y
 | el (d i o : Nat) (y : V) (h : ∀ ob, aj m d = some ob → ∃ k es xs, ob = .sl k es xs ∧ bP k = true ∧ y = .hptr (ν d).1 ((ν d).2 + i) o) : cz ν m H Z (.el d i o) y
 | mp (d : Nat) (y : V) (h : ∀ ob, aj m d = some ob → ∃ kvs, ob = .mp kvs ∧ y = .hmap (ν d).1) : cz ν m H Z (.mp d) y
 | clo (f : FuncId) (a b : List SV) (a' b' : List V) (ha : a.length = a'.length) (hb : b.length = b'.length)
  (hva : ∀ (j : Nat) u v, a[j]? = some u → a'[j]? = some v → cz ν m H Z u v) (hvb : ∀ (j : Nat) u v, b[j]? = some u → b'[j]? = some v → cz ν m H Z u v) : cz ν m H Z (.clo f a b) (.clo f a' b')
 | tup (a : List SV) (a' : List V) (ha : a.length = a'.length) (hva : ∀ (j : Nat) u v, a[j]? = some u → a'[j]? = some v → cz ν m H Z u v) : cz ν m H Z (.tup a) (.tup a')
 | yl (id : Nat) : cz ν m H Z (.yl id) (.yld id)
def aU (ν : Nu) (m : Tb aE) (H : ao) (Z : Nat → Prop) (xs : List SV) (ys : List V) : Prop := xs.length = ys.length ∧ ∀ (j : Nat) u v, xs[j]? = some u → ys[j]? = some v → cz ν m H Z u v
def b7 : aE → Bool
 | .sl k _ _ => bP k
 | _ => true
def eS (ν : Nu) (m : Tb aE) (id : Nat) : Prop := ∃ d ob, aj m d = some ob ∧ b7 ob = true ∧ (ν d).1 = id
def sL (H : ao) (Z : Nat → Prop) (ys : List (List V)) : Prop := ∀ c ∈ ys, ∀ u ∈ c, ∃ x, FR H Z x u
def xP (H : ao) (Z : Nat → Prop) (a b : List (V × V)) : Prop := a.length = b.length ∧ ∀ (j : Nat) u v, a[j]? = some u → b[j]? = some v → (u.1 = v.1 ∧ u.1.scalar = true) ∧ FR H Z u.2 v.2
def d_ (ν : Nu) (m : Tb aE) (H : ao) (Z : Nat → Prop) (d : Nat) : aE → Prop
 | .sl k es xs => if bP k then ∃ ys, H[(ν d).1]? = some (.row es ys) ∧ (ν d).2 + xs.length ≤ ys.length ∧ fI H Z xs ((ys.drop (ν d).2).take xs.length) ∧ sL H Z ys ∧ (k = .row → (ν d).2 = 0 ∧ ys.length = xs.length)
  else xs = []
 | .box cs => ∃ es cs', H[(ν d).1]? = some (.row es [cs']) ∧ aU ν m H Z cs cs' ∧ cs'.all V.one = true
 | .mp kvs => ∃ kvs', H[(ν d).1]? = some (.map kvs') ∧ xP H Z kvs kvs'
structure R (ν : Nu) (Z : Nat → Prop) (st : St) (F : Frame) (H : ao) : Prop where
 slot : ∀ s sv, aj st.g s = some sv → cz ν st.m H Z sv (get F s)
 obj : ∀ d ob, aj st.m d = some ob → d_ ν st.m H Z d ob
 inj : ∀ d d' ob ob', aj st.m d = some ob → aj st.m d' = some ob' → b7 ob = true → b7 ob' = true → (ν d).1 = (ν d').1 → d = d'
 apart : ∀ d ob, aj st.m d = some ob → b7 ob = true → ¬ Z (ν d).1
 zrow : ∀ id, Z id → (an H id).isSome = true
 deep : q8 H Z
def sameShape : aE → aE → Prop
 | .sl k es xs, .sl k' es' xs' => k' = k ∧ es' = es ∧ xs'.length = xs.length
 | .box _, .box _ => True
 | .mp _, .mp _ => True
 | _, _ => False
theorem sameShape.refl (o : aE) : sameShape o o := by cases o <;> simp [sameShape]
theorem sameShape.trans {a b c : aE} (h : sameShape a b) (k : sameShape b c) : sameShape a c := by
 cases a <;> cases b <;> cases c <;> simp [sameShape] at * <;> simp_all
structure Ev (Rv : Nat → Prop) (ν : Nu) (Z : Nat → Prop) (st : St) (H : ao) (ν' : Nu) (Z' : Nat → Prop) (st' : St) (H' : ao) : Prop where
 len : H.length ≤ H'.length
 same : ∀ id, id < H.length → ¬ eS ν st.m id → ¬ Z id → ¬ Rv id → H'[id]? = H[id]?
 rows : ∀ id, Z id → Z' id ∧ an H' id = an H id
 own : ∀ id, eS ν' st'.m id → eS ν st.m id ∨ Rv id ∨ H.length ≤ id
 frz : ∀ id, Z' id → Z id ∨ eS ν st.m id ∨ Rv id ∨ H.length ≤ id
 pin : ∀ d ∈ st.pin, ∀ ob', aj st'.m d = some ob' → ∃ ob, aj st.m d = some ob ∧ ν' d = ν d ∧ sameShape ob ob'
 pins : st'.pin = st.pin
section
variable {Rv Rv' : Nat → Prop} {ν ν' ν2 : Nu} {Z Z' Z2 : Nat → Prop} {st st' st2 : St} {m m' : Tb aE} {F F' : Frame} {H H' H2 : ao}
theorem Ev.refl : Ev Rv ν Z st H ν Z st H :=
 ⟨Nat.le_refl _, fun _ _ _ _ _ => rfl, fun _ h => ⟨h, rfl⟩, fun _ h => .inl h, fun _ h => .inl h, fun _ _ ob' h => ⟨ob', h, rfl, .refl _⟩, rfl⟩
theorem Ev.trans (a : Ev Rv ν Z st H ν' Z' st' H') (b : Ev Rv ν' Z' st' H' ν2 Z2 st2 H2) : Ev Rv ν Z st H ν2 Z2 st2 H2 where
 len := Nat.le_trans a.len b.len
 same := fun id hl ho hz hr => by
  rw [b.same id (Nat.lt_of_lt_of_le hl a.len) (fun h => (a.own id h).elim ho fun h => h.elim hr fun h => by omega) (fun h => (a.frz id h).elim hz fun h => h.elim ho fun h => h.elim hr fun h => by omega) hr, a.same id hl ho hz hr]
 rows := fun id h => ⟨(b.rows id (a.rows id h).1).1, by rw [(b.rows id (a.rows id h).1).2, (a.rows id h).2]⟩
 own := fun id h => by
  rcases b.own id h with h | h | h
  ·exact a.own id h
  ·exact .inr (.inl h)
  ·exact .inr (.inr (Nat.le_trans a.len h))
 frz := fun id h => by
  rcases b.frz id h with h | h | h | h
  ·exact a.frz id h
  ·rcases a.own id h with h | h | h
   ·exact .inr (.inl h)
   ·exact .inr (.inr (.inl h))
   ·exact .inr (.inr (.inr h))
  ·exact .inr (.inr (.inl h))
  ·exact .inr (.inr (.inr (Nat.le_trans a.len h)))
 pin := fun d hd ob2 h => by
  obtain ⟨ob1, h1, h2, h3⟩ := b.pin d (by rw [a.pins]; exact hd) ob2 h
  obtain ⟨ob, k1, k2, k3⟩ := a.pin d hd ob1 h1
  exact ⟨ob, k1, by rw [h2, k2], k3.trans h3⟩
 pins := by rw [b.pins, a.pins]
theorem Ev.weak (h : ∀ id, Rv id → Rv' id) (a : Ev Rv ν Z st H ν' Z' st' H') : Ev Rv' ν Z st H ν' Z' st' H' :=
 ⟨a.len, fun id hl ho hz hr => a.same id hl ho hz (fun k => hr (h id k)), a.rows, fun id k => (a.own id k).imp (fun x => x) (.imp (h id) (fun x => x)), fun id k => (a.frz id k).imp (fun x => x) (.imp (fun x => x) (.imp (h id) (fun x => x))), a.pin, a.pins⟩
theorem bQ {α : Type} : ∀ (g : Tb α) (n : Nat) (v : α), aj (aW g n v) n = some v
 | [], n, v => by simp [aW, aj]
 | (k, x) :: r, n, v => by
  simp only [aW]
  split
  ·rename_i h; simp [aj, h]
  ·rename_i h; simp [aj, h, bQ r n v]
theorem c9 {α : Type} : ∀ (g : Tb α) {n k : Nat} (v : α), n ≠ k → aj (aW g n v) k = aj g k
 | [], n, k, v, h => by simp [aW, aj, h]
 | (j, x) :: r, n, k, v, h => by
  simp only [aW]
  split
  ·rename_i hk; subst hk; simp [aj, h]
  ·simp only [aj]
   split
   ·rfl
   ·exact c9 r v h
theorem pX {α : Type} : ∀ (g : Tb α) (n : Nat), aj (f_ n g) n = none
 | [], n => rfl
 | (k, x) :: r, n => by
  simp only [f_]
  split
  ·exact pX r n
  ·rename_i hk
   simp only [aj]
   rw [if_neg hk]; exact pX r n
theorem qd {α : Type} : ∀ (g : Tb α) {n k : Nat}, n ≠ k → aj (f_ n g) k = aj g k
 | [], n, k, h => rfl
 | (j, x) :: r, n, k, h => by
  simp only [f_]
  split
  ·rename_i hk
   subst hk
   simp only [aj]
   rw [if_neg h]; exact qd r h
  ·simp only [aj]
   split
   ·rfl
   ·exact qd r h
theorem oK {α : Type} {g : Tb α} {n k : Nat} {v : α} (h : aj (f_ n g) k = some v) : n ≠ k ∧ aj g k = some v := by
 by_cases e : n = k
 ·subst e; rw [pX] at h; simp at h
 ·rw [qd g e] at h; exact ⟨e, h⟩
theorem rX {α : Type} {k : Nat} {v : α} : ∀ {ds : List Nat} {g : Tb α}, aj (sR ds g) k = some v → aj g k = some v
 | [], _, h => h
 | d :: ds, g, h => (oK (rX (ds := ds) h)).2
theorem pH {α : Type} {g : Tb α} {k : Nat} {v : α} : ∀ {l : List Nat} {r : Tb α}, uA g l = some r → aj r k = some v → aj g k = some v
 | [], r, h, h2 => by simp only [uA, Option.some.injEq] at h; subst h; simp [aj] at h2
 | n :: l, r, h, h2 => by
  simp only [uA] at h
  split at h
  ·rename_i w t h3 h4
   simp only [Option.some.injEq] at h; subst h
   simp only [aj] at h2
   split at h2
   ·rename_i e; subst e; rw [h3]; exact h2
   ·exact pH h4 h2
  ·simp at h
theorem sj {d : Nat} : ∀ {g : Tb SV} {s : Nat} {sv : SV}, o6 d g = false → aj g s = some sv → sv.bT d = false
 | [], _, _, _, h => by simp [aj] at h
 | (k, x) :: r, s, sv, h, h2 => by
  simp only [o6, Bool.or_eq_false_iff] at h
  simp only [aj] at h2
  split at h2
  ·simp only [Option.some.injEq] at h2; subst h2; exact h.1
  ·exact sj h.2 h2
theorem rY {d : Nat} : ∀ {g : Tb aE} {s : Nat} {ob : aE}, mP d g = false → aj g s = some ob → ob.bT d = false
 | [], _, _, _, h => by simp [aj] at h
 | (k, x) :: r, s, sv, h, h2 => by
  simp only [mP, Bool.or_eq_false_iff] at h
  simp only [aj] at h2
  split at h2
  ·simp only [Option.some.injEq] at h2; subst h2; exact h.1
  ·exact rY h.2 h2
theorem qq {d : Nat} : ∀ {l : List SV} {j : Nat} {u : SV}, SV.cx d l = false → l[j]? = some u → u.bT d = false
 | [], _, _, _, h => by simp at h
 | x :: r, j, u, h, h2 => by
  simp only [SV.cx, Bool.or_eq_false_iff] at h
  cases j with
  | zero => simp at h2; subst h2; exact h.1
  | succ j => exact qq h.2 (by simpa using h2)
theorem oL {d : Nat} : ∀ {l : List SV} {j : Nat} {u : SV}, l[j]? = some u → u.bT d = true → SV.cx d l = true
 | [], _, _, h, _ => by simp at h
 | x :: r, j, u, h, h2 => by
  simp only [SV.cx, Bool.or_eq_true]
  cases j with
  | zero => simp at h; subst h; exact .inl h2
  | succ j => exact .inr (oL (j := j) (by simpa using h) h2)
theorem cz.mono {sv : SV} {y : V} (hz : ∀ id, Z id → Z' id ∧ an H' id = an H id)
 (r : cz ν m H Z sv y) (hn : ∀ d, sv.bT d = true → ∀ ob', aj m' d = some ob' → ∃ ob, aj m d = some ob ∧ ν' d = ν d ∧ sameShape ob ob') : cz ν' m' H' Z' sv y := by
 induction r with
 | v x y h => exact .v x y (h.mono hz)
 | own d y h =>
  refine .own d y fun ob' ho => ?_
  obtain ⟨ob, h1, h2, h3⟩ := hn d (by simp [SV.bT]) ob' ho
  obtain ⟨k, es, xs, rfl, rfl⟩ := h ob h1
  cases ob' <;> simp only [sameShape] at h3
  obtain ⟨rfl, rfl, h5⟩ := h3
  exact ⟨_, _, _, rfl, by rw [h2, h5]⟩
 | ptr d o y h =>
  refine .ptr d o y fun ob' ho => ?_
  obtain ⟨ob, h1, h2, h3⟩ := hn d (by simp [SV.bT]) ob' ho
  obtain ⟨cs, rfl, rfl⟩ := h ob h1
  cases ob' <;> simp only [sameShape] at h3
  exact ⟨_, rfl, by rw [h2]⟩
 | el d i o y h =>
  refine .el d i o y fun ob' ho => ?_
  obtain ⟨ob, h1, h2, h3⟩ := hn d (by simp [SV.bT]) ob' ho
  obtain ⟨k, es, xs, rfl, h4, rfl⟩ := h ob h1
  cases ob' <;> simp only [sameShape] at h3
  obtain ⟨rfl, rfl, h5⟩ := h3
  exact ⟨_, _, _, rfl, h4, by rw [h2]⟩
 | mp d y h =>
  refine .mp d y fun ob' ho => ?_
  obtain ⟨ob, h1, h2, h3⟩ := hn d (by simp [SV.bT]) ob' ho
  obtain ⟨cs, rfl, rfl⟩ := h ob h1
  cases ob' <;> simp only [sameShape] at h3
  exact ⟨_, rfl, by rw [h2]⟩
 | clo f a b a' b' ha hb hva hvb iha ihb =>
  exact .clo f a b a' b' ha hb (fun j u v hu hv => iha j u v hu hv fun d hd => hn d (by simp [SV.bT, oL hu hd])) (fun j u v hu hv => ihb j u v hu hv fun d hd => hn d (by simp [SV.bT, oL hu hd]))
 | tup a a' ha hva iha =>
  exact .tup a a' ha (fun j u v hu hv => iha j u v hu hv fun d hd => hn d (by simp [SV.bT, oL hu hd]))
 | yl id => exact .yl id
theorem aU.mono {sv : List SV} {y : List V} (hz : ∀ id, Z id → Z' id ∧ an H' id = an H id)
 (r : aU ν m H Z sv y) (hn : ∀ d, SV.cx d sv = true → ∀ ob', aj m' d = some ob' → ∃ ob, aj m d = some ob ∧ ν' d = ν d ∧ sameShape ob ob') : aU ν' m' H' Z' sv y :=
 ⟨r.1, fun j u v hu hv => (r.2 j u v hu hv).mono hz fun d hd => hn d (oL hu hd)⟩
theorem aU.nil : aU ν m H Z [] [] := ⟨rfl, by simp⟩
theorem aU.cons {x : SV} {y : V} {xs : List SV} {ys : List V} (h : cz ν m H Z x y) (r : aU ν m H Z xs ys) : aU ν m H Z (x :: xs) (y :: ys) := by
 refine ⟨by simp [r.1], fun j u v hu hv => ?_⟩
 cases j with
 | zero => simp at hu hv; subst hu; subst hv; exact h
 | succ j => exact r.2 j u v (by simpa using hu) (by simpa using hv)
theorem aU.inv {x : SV} {xs : List SV} {ws : List V} (r : aU ν m H Z (x :: xs) ws) : ∃ y ys, ws = y :: ys ∧ cz ν m H Z x y ∧ aU ν m H Z xs ys := by
 cases ws with
 | nil => have := r.1; simp at this
 | cons y ys =>
  refine ⟨y, ys, rfl, r.2 0 x y rfl rfl, by have := r.1; simpa using this, fun j u v hu hv => r.2 (j + 1) u v (by simpa using hu) (by simpa using hv)⟩
theorem aU.ct {ws : List V} (r : aU ν m H Z [] ws) : ws = [] := by
 have := r.1
 exact List.length_eq_zero_iff.1 this.symm
theorem aU.get {xs : List SV} {ys : List V} (r : aU ν m H Z xs ys) {j : Nat} {u : SV} (h : xs[j]? = some u) : ∃ v, ys[j]? = some v ∧ cz ν m H Z u v := by
 have hj : j < xs.length := (List.getElem?_eq_some_iff.1 h).1
 have : j < ys.length := by rw [← r.1]; exact hj
 exact ⟨ys[j], List.getElem?_eq_getElem this, r.2 j u _ h (List.getElem?_eq_getElem this)⟩
theorem aU.append {a c : List SV} {b d : List V} (h : aU ν m H Z a b) (k : aU ν m H Z c d) : aU ν m H Z (a ++ c) (b ++ d) := by
 refine ⟨by simp [h.1, k.1], fun j u v hu hv => ?_⟩
 by_cases hj : j < a.length
 ·rw [List.getElem?_append_left hj] at hu
  rw [List.getElem?_append_left (by rw [← h.1]; exact hj)] at hv
  exact h.2 j u v hu hv
 ·rw [List.getElem?_append_right (by omega)] at hu
  rw [List.getElem?_append_right (by rw [← h.1]; omega), ← h.1] at hv
  exact k.2 _ u v hu hv
theorem aU.take {a : List SV} {b : List V} (h : aU ν m H Z a b) (n : Nat) : aU ν m H Z (a.take n) (b.take n) := by
 refine ⟨by simp [h.1], fun j u v hu hv => ?_⟩
 rw [List.getElem?_take] at hu hv
 split at hu
 ·rename_i hj; rw [if_pos hj] at hv; exact h.2 j u v hu hv
 ·simp at hu
theorem aU.drop {a : List SV} {b : List V} (h : aU ν m H Z a b) (n : Nat) : aU ν m H Z (a.drop n) (b.drop n) := by
 refine ⟨by simp [h.1], fun j u v hu hv => ?_⟩
 rw [List.getElem?_drop] at hu hv
 exact h.2 _ u v hu hv
theorem cz.fr {x y : V} (r : cz ν m H Z (.v x) y) : FR H Z x y := by cases r; assumption
theorem aU.oc {xs ys : List V} (r : cu H Z xs ys) : aU ν m H Z (xs.map .v) ys := by
 refine ⟨by simp [r.1], fun j u v hu hv => ?_⟩
 rw [List.getElem?_map, Option.map_eq_some_iff] at hu
 obtain ⟨x, hx, rfl⟩ := hu
 exact .v x v (r.2 j x v hx hv)
theorem oq : ∀ {svs : List SV} {xs : List V}, d6 svs = some xs → svs = xs.map .v
 | [], xs, h => by simp only [d6, Option.some.injEq] at h; subst h; rfl
 | x :: r, xs, h => by
  cases x <;> simp only [d6] at h <;> first | simp at h; done | skip
  obtain ⟨t, ht, rfl⟩ := Option.map_eq_some_iff.1 h
  rw [oq ht]; rfl
theorem aU.Pc {xs ys : List V} (r : aU ν m H Z (xs.map .v) ys) : cu H Z xs ys := by
 refine ⟨by have := r.1; simpa using this, fun j u v hu hv => ?_⟩
 have : (xs.map SV.v)[j]? = some (.v u) := by rw [List.getElem?_map, hu]; rfl
 exact (r.2 j _ v this hv).fr
end
end Go.VE
namespace Go.VE
section
variable {ν : Nu} {Z : Nat → Prop} {st : St} {m : Tb aE} {F : Frame} {H H1 : ao} {N : Nat → FuncId}
def rj (nm : FuncId → Option Nat) : Operand → Option Arg
 | .tmp t => some (.s t)
 | .const v => match ofValue 4 v with
  | some c => if c.aN then some (.k c) else none
  | none => none
 | .func f => (nm f).map .f
 | .global _ => none
theorem yS {nm : FuncId → Option Nat} (hN : ∀ f s, nm f = some s → N s = f) {g : Tb SV} (hs : ∀ s sv, aj g s = some sv → cz ν m H Z sv (get F s)) {o : Operand} {x : Arg} {sv : SV} (ha : rj nm o = some x) (hv : m6 N g x = some sv) :
 ∃ y, ev F o = some y ∧ cz ν m H Z sv y := by
 cases o with
 | tmp t =>
  simp only [rj, Option.some.injEq] at ha; subst ha
  exact ⟨get F t, rfl, hs t sv hv⟩
 | const w =>
  simp only [rj] at ha
  split at ha
  ·rename_i c hc
   split at ha
   ·rename_i hcl
    simp only [Option.some.injEq] at ha; subst ha
    simp only [m6, Option.some.injEq] at hv; subst hv
    exact ⟨c, hc, .v _ _ (.same _ hcl)⟩
   ·simp at ha
  ·simp at ha
 | func f =>
  simp only [rj, Option.map_eq_some_iff] at ha
  obtain ⟨z, hz, rfl⟩ := ha
  simp only [m6, Option.some.injEq] at hv; subst hv
  exact ⟨_, rfl, .v _ _ (by rw [hN f z hz]; exact .same _ rfl)⟩
 | global _ => simp [rj] at ha
theorem rZ {nm : FuncId → Option Nat} (hN : ∀ f s, nm f = some s → N s = f) {g : Tb SV} (hs : ∀ s sv, aj g s = some sv → cz ν m H Z sv (get F s)) : ∀ {os : List Operand} {xs : List Arg} {svs : List SV},
 os.mapM (rj nm) = some xs → bB N g xs = some svs → ∃ ys, gw F os = some ys ∧ aU ν m H Z svs ys
 | [], xs, svs, ha, hv => by
  simp only [List.mapM_nil, Option.pure_def, Option.some.injEq] at ha; subst ha
  simp only [bB, Option.some.injEq] at hv; subst hv
  exact ⟨[], rfl, .nil⟩
 | o :: os, xs, svs, ha, hv => by
  simp only [List.mapM_cons, Option.pure_def, Option.bind_eq_bind, Option.bind_eq_some_iff, Option.some.injEq] at ha
  obtain ⟨x, hx, ys, hy, rfl⟩ := ha
  simp only [bB] at hv
  split at hv
  ·rename_i v ws h1 h2
   simp only [Option.some.injEq] at hv; subst hv
   obtain ⟨a, ha, ra⟩ := yS hN hs hx h1
   obtain ⟨as, has, ras⟩ := rZ hN hs hy h2
   exact ⟨a :: as, by simp only [gw, ha, has], .cons ra ras⟩
  ·simp at hv
theorem cz.jk {d : Nat} {y : V} (r : cz ν m H Z (.own d) y) {ob : aE} (h : aj m d = some ob) : ∃ k es xs, ob = .sl k es xs ∧ y = sW (ν d) k es xs.length := by
 cases r with | own _ _ hh => exact hh ob h
theorem cz.lx {d o : Nat} {y : V} (r : cz ν m H Z (.ptr d o) y) {ob : aE} (h : aj m d = some ob) : ∃ cs, ob = .box cs ∧ y = .hptr (ν d).1 0 o := by
 cases r with | ptr _ _ _ hh => exact hh ob h
theorem cz.rR {d i o : Nat} {y : V} (r : cz ν m H Z (.el d i o) y) {ob : aE} (h : aj m d = some ob) : ∃ k es xs, ob = .sl k es xs ∧ bP k = true ∧ y = .hptr (ν d).1 ((ν d).2 + i) o := by
 cases r with | el _ _ _ _ hh => exact hh ob h
theorem cz.xj {d : Nat} {y : V} (r : cz ν m H Z (.mp d) y) {ob : aE} (h : aj m d = some ob) : ∃ kvs, ob = .mp kvs ∧ y = .hmap (ν d).1 := by
 cases r with | mp _ _ hh => exact hh ob h
theorem cz.iT {f : FuncId} {a b : List SV} {y : V} (r : cz ν m H Z (.clo f a b) y) : ∃ a' b', y = .clo f a' b' ∧ aU ν m H Z a a' ∧ aU ν m H Z b b' := by
 cases r with | clo _ _ _ a' b' ha hb hva hvb => exact ⟨a', b', rfl, ⟨ha, hva⟩, ⟨hb, hvb⟩⟩
theorem cz.kZ {a : List SV} {y : V} (r : cz ν m H Z (.tup a) y) : ∃ a', y = .tup a' ∧ aU ν m H Z a a' := by
 cases r with | tup _ a' ha hva => exact ⟨a', rfl, ha, hva⟩
theorem nH {p : Nat × Nat} {k : Fl} {es len : Nat} (h : bP k = true) : sW p k es len = .hsl p.1 es p.2 len := by
 cases k <;> simp [bP] at h <;> rfl
theorem Fc {p : pU} {svs : List SV} {ys : List V} {sv : SV} (ho : ∀ d ob, aj m d = some ob → d_ ν m H Z d ob) (h : aU ν m H Z svs ys) (hp : uG N m p svs = some sv) : ∃ y, bh N p ys = some y ∧ cz ν m H Z sv y := by
 unfold uG at hp
 split at hp
 ·
  obtain ⟨y, _, rfl, h1, h2⟩ := h.inv; rw [h2.ct]
  simp only [Option.some.injEq] at hp; subst hp
  exact ⟨y, rfl, h1⟩
 ·obtain ⟨y, _, rfl, h1, h2⟩ := h.inv; rw [h2.ct]
  split at hp
  ·rename_i hs
   simp only [Option.some.injEq] at hp; subst hp
   obtain ⟨ob, hob⟩ := Option.isSome_iff_exists.1 hs
   obtain ⟨cs, rfl, rfl⟩ := h1.lx hob
   exact ⟨_, rfl, h1⟩
  ·simp at hp
 ·obtain ⟨y, _, rfl, h1, h2⟩ := h.inv; rw [h2.ct]
  split at hp
  ·rename_i hs
   simp only [Option.some.injEq] at hp; subst hp
   obtain ⟨ob, hob⟩ := Option.isSome_iff_exists.1 hs
   obtain ⟨k, es, xs, rfl, hk, rfl⟩ := h1.rR hob
   exact ⟨_, rfl, h1⟩
  ·simp at hp
 ·
  rename_i t a b
  obtain ⟨w1, _, rfl, h1, h2⟩ := h.inv
  obtain ⟨w2, _, rfl, h3, h4⟩ := h2.inv
  obtain ⟨w3, _, rfl, h5, h6⟩ := h4.inv
  rw [h1.fr.bool, h6.ct]
  simp only [Option.some.injEq] at hp; subst hp
  refine ⟨if t = true then w2 else w3, rfl, ?_⟩
  cases t
  ·exact h5
  ·exact h3
 ·
  obtain ⟨w1, _, rfl, h1, h2⟩ := h.inv
  obtain ⟨w2, _, rfl, h3, h4⟩ := h2.inv
  rw [h3.fr.au, h4.ct]
  split at hp
  ·rename_i k es xs hob
   split at hp
   ·simp at hp
   ·rename_i hk
    simp only [Option.some.injEq] at hp; subst hp
    obtain ⟨k', es', xs', e, rfl⟩ := h1.jk hob
    cases e
    cases k <;> first | exact absurd rfl hk | exact ⟨_, rfl, .v _ _ (.same _ rfl)⟩
  ·simp at hp
 ·obtain ⟨w1, _, rfl, h1, h2⟩ := h.inv
  obtain ⟨w2, _, rfl, h3, h4⟩ := h2.inv
  rw [h3.fr.au, h4.ct]
  split at hp
  ·rename_i k es xs hob
   split at hp
   ·simp at hp
   ·rename_i hk
    simp only [Option.some.injEq] at hp; subst hp
    obtain ⟨k', es', xs', e, rfl⟩ := h1.jk hob
    cases e
    cases k <;> first | exact absurd rfl hk | exact ⟨_, rfl, .v _ _ (.same _ rfl)⟩
  ·simp at hp
 ·
  obtain ⟨y, _, rfl, h1, h2⟩ := h.inv; rw [h2.ct]
  split at hp
  ·rename_i hs
   simp only [Option.some.injEq] at hp; subst hp
   obtain ⟨ob, hob⟩ := Option.isSome_iff_exists.1 hs
   obtain ⟨cs, rfl, rfl⟩ := h1.lx hob
   exact ⟨_, rfl, .ptr _ _ _ fun ob' h' => by rw [hob] at h'; cases h'; exact ⟨_, rfl, rfl⟩⟩
  ·simp at hp
 ·obtain ⟨y, _, rfl, h1, h2⟩ := h.inv; rw [h2.ct]
  split at hp
  ·rename_i hs
   simp only [Option.some.injEq] at hp; subst hp
   obtain ⟨ob, hob⟩ := Option.isSome_iff_exists.1 hs
   obtain ⟨k, es, xs, rfl, hk, rfl⟩ := h1.rR hob
   exact ⟨_, rfl, .el _ _ _ _ fun ob' h' => by rw [hob] at h'; cases h'; exact ⟨_, _, _, rfl, hk, rfl⟩⟩
  ·simp at hp
 ·
  obtain ⟨w1, _, rfl, h1, h2⟩ := h.inv
  obtain ⟨w2, _, rfl, h3, h4⟩ := h2.inv
  rw [h3.fr.int, h4.ct]
  split at hp
  ·rename_i k es xs hob
   split at hp
   ·rename_i hc
    obtain ⟨hk, rfl, hn, hlt⟩ := hc
    simp only [Option.some.injEq] at hp; subst hp
    obtain ⟨k', es', xs', e, rfl⟩ := h1.jk hob
    cases e
    rw [nH hk]
    refine ⟨.hptr (ν _).1 ((ν _).2 + _) 0, by simp only [bh, sH, if_neg (Int.not_lt.2 hn), true_and, if_pos hlt]; rfl, .el _ _ _ _ fun ob' h' => ?_⟩
    rw [hob] at h'; cases h'; exact ⟨_, _, _, rfl, hk, rfl⟩
   ·simp at hp
  ·simp at hp
 ·
  obtain ⟨w1, _, rfl, h1, h2⟩ := h.inv
  obtain ⟨w2, _, rfl, h3, h4⟩ := h2.inv
  rw [h3.fr.int, h4.ct]
  split at hp
  ·rename_i hc
   simp only [Option.some.injEq] at hp; subst hp
   obtain ⟨ob, hob⟩ := Option.isSome_iff_exists.1 hc.2.2
   obtain ⟨cs, rfl, rfl⟩ := h1.lx hob
   refine ⟨.hptr (ν _).1 0 (_ + _), by simp only [bh, qR, if_pos (And.intro hc.1 hc.2.1)]; rfl, .ptr _ _ _ fun ob' h' => ?_⟩
   rw [hob] at h'; cases h'; exact ⟨_, rfl, rfl⟩
  ·simp at hp
 ·obtain ⟨w1, _, rfl, h1, h2⟩ := h.inv
  obtain ⟨w2, _, rfl, h3, h4⟩ := h2.inv
  rw [h3.fr.int, h4.ct]
  split at hp
  ·rename_i hc
   simp only [Option.some.injEq] at hp; subst hp
   obtain ⟨ob, hob⟩ := Option.isSome_iff_exists.1 hc.2.2
   obtain ⟨k, es, xs, rfl, hk, rfl⟩ := h1.rR hob
   refine ⟨.hptr (ν _).1 (_ + _) (_ + _), by simp only [bh, qR, if_pos (And.intro hc.1 hc.2.1)]; rfl, .el _ _ _ _ fun ob' h' => ?_⟩
   rw [hob] at h'; cases h'; exact ⟨_, _, _, rfl, hk, rfl⟩
  ·simp at hp
 ·
  obtain ⟨w1, _, rfl, h1, h2⟩ := h.inv
  rw [h2.ct]
  split at hp
  ·rename_i k es xs hob
   simp only [Option.some.injEq] at hp; subst hp
   obtain ⟨k', es', xs', e, rfl⟩ := h1.jk hob
   cases e
   have := ho _ _ hob
   simp only [d_] at this
   cases hk : k <;> simp only [hk, bP, Bool.false_eq_true, if_false] at this ⊢
   ·subst this; exact ⟨_, rfl, .v _ _ (.same _ rfl)⟩
   ·subst this; exact ⟨_, rfl, .v _ _ (.same _ rfl)⟩
   ·exact ⟨_, rfl, .v _ _ (.same _ rfl)⟩
   ·exact ⟨_, rfl, .v _ _ (.same _ rfl)⟩
  ·simp at hp
 ·
  rename_i vs name k
  simp only [Option.some.injEq] at hp; subst hp
  exact ⟨_, rfl, .clo _ _ _ _ _ (h.take k).1 (h.drop k).1 (h.take k).2 (h.drop k).2⟩
 ·
  obtain ⟨w1, _, rfl, h1, h2⟩ := h.inv
  rw [h2.ct]
  obtain ⟨ws, rfl, hw⟩ := h1.kZ
  obtain ⟨z, hz, hzz⟩ := hw.get hp
  exact ⟨z, hz, hzz⟩
 ·simp at hp
theorem Fu {p : pU} {svs : List SV} {ys : List V} {sv : SV} (hb : ∀ zero pl, p = .build zero pl → V.bK zero = true) (ho : ∀ d ob, aj m d = some ob → d_ ν m H Z d ob) (h : aU ν m H Z svs ys) (hp : hY N m p svs = some sv) :
 ∃ y, bh N p ys = some y ∧ cz ν m H Z sv y := by
 unfold hY at hp
 split at hp
 ·rename_i xs hx
  obtain ⟨z, hz, rfl⟩ := Option.map_eq_some_iff.1 hp
  rw [oq hx] at h
  obtain ⟨z', h1, h2⟩ := cu.bh hb h.Pc hz
  exact ⟨z', h1, .v _ _ h2⟩
 ·exact Fc ho h hp
theorem aU.d6 {svs : List SV} {xs ys : List V} (h : aU ν m H Z svs ys) (ha : d6 svs = some xs) : cu H Z xs ys := by
 rw [oq ha] at h; exact h.Pc
theorem Fv {size o : Nat} {agg : Bool} {cs : List SV} {cs' : List V} {sv : SV} (h : aU ν m H Z cs cs') (hp : uH size agg ((cs.drop o).take size) = some sv) : ∃ y, (cut cs' o size).bind (mk agg) = some y ∧ cz ν m H Z sv y := by
 have h2 := (h.drop o).take size
 unfold uH at hp
 split at hp
 ·rename_i hl
  have hc : cut cs' o size = some ((cs'.drop o).take size) := by
   unfold cut; dsimp only; rw [if_pos (by rw [← h2.1]; exact hl)]
  rw [hc]
  simp only [Option.bind_some]
  split at hp
  ·rename_i ha
   obtain ⟨xs, hx, rfl⟩ := Option.map_eq_some_iff.1 hp
   have hf := h2.d6 hx
   exact ⟨_, by unfold mk; rw [if_pos ha], .v _ _ (.agg _ _ hf.1 hf.2)⟩
  ·rename_i ha
   split at hp
   ·rename_i x hx
    simp only [Option.some.injEq] at hp; subst hp
    rw [hx] at h2
    obtain ⟨y, ys, e, h3, h4⟩ := h2.inv
    rw [e, h4.ct]
    exact ⟨y, by unfold mk; rw [if_neg ha], h3⟩
   ·simp at hp
 ·simp at hp
theorem vB {k : V} : ∀ {a b : List (V × V)} {i : Nat}, xP H Z a b → (fR k a i = some none → fR k b i = some none) ∧ ∀ j v, fR k a i = some (some (j, v)) → ∃ v', fR k b i = some (some (j, v')) ∧ FR H Z v v'
 | [], b, i, h => by
  have : b = [] := List.length_eq_zero_iff.1 (by have := h.1; simpa using this.symm)
  subst this
  exact ⟨fun h => h, fun j v h => by simp [fR] at h⟩
 | (k1, x) :: a, [], i, h => by have := h.1; simp at this
 | (k1, x) :: a, (k2, y) :: b, i, h => by
  obtain ⟨⟨e, _⟩, hx⟩ := h.2 0 _ _ rfl rfl
  simp only at e hx
  subst e
  have ht : xP H Z a b := ⟨by have := h.1; simpa using this, fun j u v hu hv => h.2 (j + 1) u v (by simpa using hu) (by simpa using hv)⟩
  have ih := vB (i := i + 1) (k := k) ht
  simp only [fR]
  cases hk : o_ k k1 with
  | none => simp
  | some t =>
   cases t
   ·exact ih
   ·refine ⟨by simp, fun j v h => ?_⟩
    simp only [Option.some.injEq, Prod.mk.injEq] at h
    obtain ⟨rfl, rfl⟩ := h
    exact ⟨y, rfl, hx⟩
theorem pe {kk : rq} {k : V} (h : kR kk k = true) : k.scalar = true := by
 unfold kR at h
 split at h
 ·rfl
 ·rfl
 ·simp only [Bool.and_eq_true] at h
  obtain ⟨a, ha⟩ := Option.isSome_iff_exists.1 h.2
  simp only [V.scalar]; exact mb ha
 ·simp at h
theorem sJ {r : DN} {svs : List SV} {ys : List V} {sv : SV} (hzc : ∀ kk z ok, r = .lookup kk z ok → z.aN = true) (h : aU ν m H Z svs ys) (ho : ∀ d, SV.cx d svs = true → ∀ ob, aj m d = some ob → d_ ν m H Z d ob) (hp : kX m r svs = some sv) :
 ∃ y, ko H r ys = some y ∧ cz ν m H Z sv y := by
 unfold kX at hp
 split at hp
 ·
  obtain ⟨w1, _, rfl, h1, h2⟩ := h.inv
  rw [h2.ct]
  split at hp
  ·rename_i cs hob
   obtain ⟨cs1, e, rfl⟩ := h1.lx hob
   obtain ⟨es, cs', hr, hc, _⟩ := ho _ (by simp [SV.cx, SV.bT]) _ hob
   obtain ⟨y, hy, hyy⟩ := Fv hc hp
   refine ⟨y, ?_, hyy⟩
   simp only [ko, fu, hr, Option.bind_some, Ob.rows, List.getElem?_cons_zero]
   exact hy
  ·simp at hp
 ·
  obtain ⟨w1, _, rfl, h1, h2⟩ := h.inv
  rw [h2.ct]
  split at hp
  ·rename_i k es xs hob
   split at hp
   ·rename_i cs hcs
    obtain ⟨z, hz, rfl⟩ := Option.map_eq_some_iff.1 hp
    obtain ⟨k1, es1, xs1, e, hk, rfl⟩ := h1.rR hob
    cases e
    have := ho _ (by simp [SV.cx, SV.bT]) _ hob
    simp only [d_, hk, if_true] at this
    obtain ⟨rs, hr, hl, hf, _⟩ := this
    obtain ⟨c, hc, hcc⟩ := hf.get hcs
    have hj := (List.getElem?_eq_some_iff.1 hcs).1
    rw [List.getElem?_take, if_pos hj, List.getElem?_drop] at hc
    obtain ⟨r1, hr1, hm1⟩ := Option.bind_eq_some_iff.1 hz
    obtain ⟨r2, hr2, hrr⟩ := hcc.cut hr1
    obtain ⟨z', hz', hzz⟩ := hrr.mk hm1
    refine ⟨z', ?_, .v _ _ hzz⟩
    simp only [ko, fu, hr, Option.bind_some, Ob.rows, hc, hr2, hz']
   ·simp at hp
  ·simp at hp
 ·
  rename_i size agg p
  obtain ⟨w1, _, rfl, h1, h2⟩ := h.inv
  rw [h2.ct]
  obtain ⟨z, hz, rfl⟩ := Option.map_eq_some_iff.1 hp
  obtain ⟨r1, hr1, hm1⟩ := Option.bind_eq_some_iff.1 hz
  unfold fu at hr1
  split at hr1
  ·rename_i cs
   rcases h1.fr.jc with rfl | ⟨id, el, off, es, ys, cs2, rfl, hzz, hr, he, hle, hf⟩
   ·refine ⟨z, by simp only [ko, fu, hr1, Option.bind_some, hm1], .v _ _ (.same _ ?_)⟩
    have hcl : V.bK cs = true := by have := h1.fr.aN; simpa [V.aN] using this
    obtain ⟨r', hr', hrr⟩ := (cu.same (H := H) (Z := Z) hcl).cut hr1
    obtain ⟨z', hz', hzz'⟩ := hrr.mk hm1
    exact hzz'.aN
   ·obtain ⟨r2, hr2, hrr⟩ := hf.cut hr1
    obtain ⟨z', hz', hzz'⟩ := hrr.mk hm1
    refine ⟨z', ?_, .v _ _ hzz'⟩
    unfold an at hr
    simp only [ko, fu, hr, he]
    have : cut cs2 off size = some r2 := by
     unfold cut at hr2 ⊢
     simpa [List.drop_drop] using hr2
    rw [this]; exact hz'
  ·exact absurd h1.fr.closed (by simp [V.closed])
  ·simp at hr1
 ·
  rename_i kk z ok d k
  obtain ⟨w1, _, rfl, h1, h2⟩ := h.inv
  obtain ⟨w2, _, rfl, h3, h4⟩ := h2.inv
  rw [h4.ct]
  split at hp
  ·rename_i kvs hob
   split at hp
   ·rename_i hk
    obtain ⟨_, e, rfl⟩ := h1.xj hob
    cases e
    have hkk := h3.fr.scalar.1 (pe hk)
    subst hkk
    obtain ⟨kvs', hr, hkv⟩ := ho _ (by simp [SV.cx, SV.bT]) _ hob
    obtain ⟨f1, f2⟩ := vB (k := w2) (i := 0) hkv
    split at hp
    ·rename_i j v hf
     obtain ⟨v', hf', hvv⟩ := f2 j v hf
     simp only [Option.some.injEq] at hp; subst hp
     refine ⟨if ok = true then .tup [v', .bool true] else v', by simp only [ko, ju, hr, hk, if_true, hf'], ?_⟩
     cases ok
     ·exact .v _ _ hvv
     ·refine .v _ _ (.tup _ _ rfl (cu.cons hvv (.cons (.same _ rfl) .nil)).2)
    ·rename_i hf
     simp only [Option.some.injEq] at hp; subst hp
     refine ⟨if ok = true then .tup [z, .bool false] else z, by simp only [ko, ju, hr, hk, if_true, f1 hf], ?_⟩
     have hz := hzc kk z ok rfl
     cases ok
     ·exact .v _ _ (.same _ hz)
     ·exact .v _ _ (.same _ (by simp [V.aN, V.bK, hz]))
    ·simp at hp
   ·simp at hp
  ·simp at hp
 ·
  rename_i kk z ok p k
  obtain ⟨w1, _, rfl, h1, h2⟩ := h.inv
  obtain ⟨w2, _, rfl, h3, h4⟩ := h2.inv
  rw [h4.ct]
  obtain ⟨x, hx, rfl⟩ := Option.map_eq_some_iff.1 hp
  simp only [ko] at hx
  have hz := hzc kk z ok rfl
  split at hx
  ·rename_i kvs hm
   have key : ju H w1 = some kvs ∧ V.qC kvs = true := by
    unfold ju at hm
    split at hm
    ·rw [h1.fr.fh]; simp only [Option.some.injEq] at hm; subst hm; exact ⟨rfl, rfl⟩
    ·rw [h1.fr.fmap]; simp only [Option.some.injEq] at hm; subst hm; exact ⟨rfl, by have := h1.fr.aN; simpa [V.aN] using this⟩
    ·simp at hm
    ·simp at hm
   split at hx
   ·rename_i hk
    have hkk := h3.fr.scalar.1 (pe hk)
    subst hkk
    split at hx
    ·rename_i j v hf
     simp only [Option.some.injEq] at hx; subst hx
     have hv : v.aN = true := by
      have : ∀ {l : List (V × V)} {i : Nat}, V.qC l = true → fR w2 l i = some (some (j, v)) → v.aN = true := by
       intro l
       induction l with
       | nil => intro i _ h; simp [fR] at h
       | cons p l ih =>
        intro i hg h
        obtain ⟨a, b⟩ := p
        simp only [V.qC, Bool.and_eq_true] at hg
        simp only [fR] at h
        split at h
        ·simp only [Option.some.injEq, Prod.mk.injEq] at h; obtain ⟨_, rfl⟩ := h; exact hg.1.2
        ·exact ih hg.2 h
        ·simp at h
      exact this key.2 hf
     refine ⟨if ok = true then .tup [v, .bool true] else v, by simp only [ko, key.1, hk, if_true, hf], ?_⟩
     cases ok
     ·exact .v _ _ (.same _ hv)
     ·exact .v _ _ (.same _ (by simp [V.aN, V.bK, hv]))
    ·rename_i hf
     simp only [Option.some.injEq] at hx; subst hx
     refine ⟨if ok = true then .tup [z, .bool false] else z, by simp only [ko, key.1, hk, if_true, hf], ?_⟩
     cases ok
     ·exact .v _ _ (.same _ hz)
     ·exact .v _ _ (.same _ (by simp [V.aN, V.bK, hz]))
    ·simp at hx
   ·simp at hx
  ·simp at hx
 ·simp at hp
end
end Go.VE
namespace Go.VE
section
variable {Rv : Nat → Prop} {ν ν' : Nu} {Z Z' : Nat → Prop} {st st' : St} {m m' : Tb aE} {F F' : Frame} {H H' : ao}
theorem R.lt (r : R ν Z st F H) {id : Nat} (h : eS ν st.m id) : id < H.length := by
 obtain ⟨d, ob, h1, h2, rfl⟩ := h
 have := r.obj d ob h1
 cases ob with
 | sl k es xs =>
  simp only [b7] at h2
  simp only [d_, h2, if_true] at this
  obtain ⟨ys, hr, _⟩ := this
  exact (List.getElem?_eq_some_iff.1 hr).1
 | box cs => obtain ⟨es, cs', hr, _⟩ := this; exact (List.getElem?_eq_some_iff.1 hr).1
 | mp kvs => obtain ⟨kvs', hr, _⟩ := this; exact (List.getElem?_eq_some_iff.1 hr).1
theorem R.qK (r : R ν Z st F H) {id : Nat} (h : Z id) : id < H.length := by
 have := r.zrow id h
 unfold an at this
 obtain ⟨x, hx⟩ := Option.isSome_iff_exists.1 this
 obtain ⟨ob, h1, _⟩ := Option.bind_eq_some_iff.1 hx
 exact (List.getElem?_eq_some_iff.1 h1).1
theorem q8.mono (d : q8 H Z) (h : ∀ id, Z id → an H' id = an H id) : q8 H' Z where
 row := fun id es ys hz hr c hc u hu => by
  rw [h id hz] at hr
  obtain ⟨x, hx⟩ := d.row id es ys hz hr c hc u hu
  exact ⟨x, hx.mono fun k hk => ⟨hk, h k hk⟩⟩
theorem sL.mono {ys : List (List V)} (h : ∀ id, Z id → Z' id ∧ an H' id = an H id) (s : sL H Z ys) : sL H' Z' ys := fun c hc u hu => by
 obtain ⟨x, hx⟩ := s c hc u hu; exact ⟨x, hx.mono h⟩
theorem xP.mono {a b : List (V × V)} (h : ∀ id, Z id → Z' id ∧ an H' id = an H id) (s : xP H Z a b) : xP H' Z' a b := ⟨s.1, fun j u v hu hv => ⟨(s.2 j u v hu hv).1, (s.2 j u v hu hv).2.mono h⟩⟩
theorem d_.mono {d d' : Nat} {ob : aE} (hz : ∀ id, Z id → Z' id ∧ an H' id = an H id) (hd : ν' d' = ν d) (hh : b7 ob = true → H'[(ν d).1]? = H[(ν d).1]?)
 (hn : ∀ e, ob.bT e = true → ∀ ob', aj m' e = some ob' → ∃ ob, aj m e = some ob ∧ ν' e = ν e ∧ sameShape ob ob') (o : d_ ν m H Z d ob) : d_ ν' m' H' Z' d' ob := by
 cases ob with
 | sl k es xs =>
  simp only [d_, hd] at o ⊢
  split
  ·rename_i hk
   rw [if_pos hk] at o
   obtain ⟨ys, h1, h2, h3, h4, h5⟩ := o
   exact ⟨ys, by rw [hh (by simpa [b7] using hk)]; exact h1, h2, h3.mono hz, h4.mono hz, h5⟩
  ·rename_i hk; rw [if_neg hk] at o; exact o
 | box cs =>
  obtain ⟨es, cs', h1, h2, h3⟩ := o
  exact ⟨es, cs', by rw [hd, hh rfl]; exact h1, h2.mono hz hn, h3⟩
 | mp kvs =>
  obtain ⟨kvs', h1, h2⟩ := o
  exact ⟨kvs', by rw [hd, hh rfl]; exact h1, h2.mono hz⟩
theorem jv (ν : Nu) (m : Tb aE) (e : Nat) : ∀ ob', aj m e = some ob' → ∃ ob, aj m e = some ob ∧ ν e = ν e ∧ sameShape ob ob' := fun ob' h => ⟨ob', h, rfl, .refl _⟩
theorem R.heap (r : R ν Z st F H) (ho : ∀ id, eS ν st.m id → H'[id]? = H[id]?) (hz : ∀ id, Z id → an H' id = an H id) : R ν Z st F H' where
 slot := fun s sv hs => (r.slot s sv hs).mono (fun id h => ⟨h, hz id h⟩) fun d _ => jv ν st.m d
 obj := fun d ob hd => d_.mono (fun id h => ⟨h, hz id h⟩) rfl (fun hb => ho _ ⟨d, ob, hd, hb, rfl⟩) (fun e _ => jv ν st.m e) (r.obj d ob hd)
 inj := r.inj
 apart := r.apart
 zrow := fun id h => by rw [hz id h]; exact r.zrow id h
 deep := r.deep.mono hz
theorem R.put (r : R ν Z st F H) {d : Nat} {sv : SV} {y : V} (h : cz ν st.m H Z sv y) : R ν Z { st with g := aW st.g d sv } (set F d y) H where
 slot := fun s x hs => by
  by_cases e : d = s
  ·subst e; rw [bQ] at hs; cases hs; rw [CP]; exact h
  ·rw [c9 st.g sv e] at hs; rw [nh _ _ e]; exact r.slot s x hs
 obj := r.obj
 inj := r.inj
 apart := r.apart
 zrow := r.zrow
 deep := r.deep
theorem Ev.LZ (g : Tb SV) : Ev Rv ν Z st H ν Z { st with g := g } H :=
 ⟨Nat.le_refl _, fun _ _ _ _ _ => rfl, fun _ h => ⟨h, rfl⟩, fun _ h => .inl h, fun _ h => .inl h, fun _ _ ob' h => ⟨ob', h, rfl, .refl _⟩, rfl⟩
def iN (ν : Nu) (d : Nat) (p : Nat × Nat) : Nu := fun k => if k = d then p else ν k
theorem iV (ν : Nu) (d : Nat) (p : Nat × Nat) : iN ν d p d = p := if_pos rfl
theorem mH (ν : Nu) {d k : Nat} (p : Nat × Nat) (h : k ≠ d) : iN ν d p k = ν k := if_neg h
theorem mq {d : Nat} (h : st.new d = true) : d ∉ st.pin ∧ aj st.m d = none ∧ o6 d st.g = false ∧ mP d st.m = false := by
 unfold St.new at h
 simp only [Bool.and_eq_true, Bool.not_eq_true', Option.isNone_iff_eq_none, List.contains_eq_mem, decide_eq_false_iff_not] at h
 exact ⟨h.1.1.1, h.1.1.2, h.1.2, h.2⟩
theorem nP {d : Nat} {ob : aE} {p : Nat × Nat} {e : Nat} (h : e ≠ d) : ∀ ob', aj (aW m d ob) e = some ob' → ∃ ob, aj m e = some ob ∧ iN ν d p e = ν e ∧ sameShape ob ob' := fun ob' h2 => by
 rw [c9 m ob (Ne.symm h)] at h2
 exact ⟨ob', h2, mH ν p h, .refl _⟩
theorem R.add (r : R ν Z st F H) {d : Nat} (hn : st.new d = true) {ob : aE} {p : Nat × Nat} (hb : b7 ob = true → ¬ eS ν st.m p.1 ∧ ¬ Z p.1) (ho : d_ (iN ν d p) (aW st.m d ob) H Z d ob) :
 R (iN ν d p) Z { st with m := aW st.m d ob } F H := by
 obtain ⟨n1, n2, n3, n4⟩ := mq hn
 have key : ∀ d' ob', aj (aW st.m d ob) d' = some ob' → d' ≠ d → aj st.m d' = some ob' := fun d' ob' h e => by rw [c9 st.m ob (Ne.symm e)] at h; exact h
 refine ⟨fun s sv hs => ?_, fun d' ob' hd => ?_, ?_, ?_, r.zrow, r.deep⟩
 ·refine (r.slot s sv hs).mono (fun id h => ⟨h, rfl⟩) fun e he => nP ?_
  rintro rfl
  rw [sj n3 hs] at he; cases he
 ·by_cases e : d' = d
  ·subst e; simp only at hd; rw [bQ] at hd; cases hd; exact ho
  ·have hd' := key d' ob' hd e
   refine d_.mono (fun id h => ⟨h, rfl⟩) (mH ν p e) (fun _ => rfl) (fun k hk => nP ?_) (r.obj d' ob' hd')
   rintro rfl
   rw [rY n4 hd'] at hk; cases hk
 ·intro d1 d2 o1 o2 h1 h2 b1 b2 hp
  by_cases e1 : d1 = d <;> by_cases e2 : d2 = d
  ·rw [e1, e2]
  ·subst e1
   rw [iV, mH ν p e2] at hp
   simp only at h1; rw [bQ] at h1; cases h1
   exact absurd ⟨d2, o2, key d2 o2 h2 e2, b2, hp.symm⟩ (hb b1).1
  ·subst e2
   rw [iV, mH ν p e1] at hp
   simp only at h2; rw [bQ] at h2; cases h2
   exact absurd ⟨d1, o1, key d1 o1 h1 e1, b1, hp⟩ (hb b2).1
  ·rw [mH ν p e1, mH ν p e2] at hp
   exact r.inj d1 d2 o1 o2 (key d1 o1 h1 e1) (key d2 o2 h2 e2) b1 b2 hp
 ·intro d1 o1 h1 b1
  by_cases e1 : d1 = d
  ·subst e1; simp only at h1; rw [bQ] at h1; cases h1; rw [iV]; exact (hb b1).2
  ·rw [mH ν p e1]; exact r.apart d1 o1 (key d1 o1 h1 e1) b1
theorem Cf {d : Nat} {ob : aE} {p : Nat × Nat} {id : Nat} (h : eS (iN ν d p) (aW m d ob) id) : eS ν m id ∨ (b7 ob = true ∧ id = p.1) := by
 obtain ⟨k, o, h1, h2, h3⟩ := h
 by_cases e : k = d
 ·subst e; rw [bQ] at h1; cases h1; rw [iV] at h3; exact .inr ⟨h2, h3.symm⟩
 ·rw [mH ν p e] at h3
  rw [c9 m ob (Ne.symm e)] at h1
  exact .inl ⟨k, o, h1, h2, h3⟩
theorem Ev.add {d : Nat} (hn : st.new d = true) {ob : aE} {p : Nat × Nat} (hl : H.length ≤ H'.length) (hs : ∀ id, id < H.length → ¬ Rv id → H'[id]? = H[id]?) (hz : ∀ id, Z id → an H' id = an H id)
 (hp : b7 ob = true → Rv p.1 ∨ H.length ≤ p.1) : Ev Rv ν Z st H (iN ν d p) Z { st with m := aW st.m d ob } H' where
 len := hl
 same := fun id h _ _ hr => hs id h hr
 rows := fun id h => ⟨h, hz id h⟩
 own := fun id h => by
  rcases Cf h with h | ⟨h1, rfl⟩
  ·exact .inl h
  ·exact .inr (hp h1)
 frz := fun id h => .inl h
 pin := fun e he ob' h => by
  have : e ≠ d := by rintro rfl; exact (mq hn).1 he
  exact nP this ob' h
 pins := rfl
theorem R.fK (r : R ν Z st F H) {d : Nat} {ob ob' : aE} (h0 : aj st.m d = some ob) (hs : sameShape ob ob') (hb : b7 ob' = b7 ob) (hh : ∀ id, id ≠ (ν d).1 → H'[id]? = H[id]?) (hbb : b7 ob = true)
 (ho : d_ ν (aW st.m d ob') H' Z d ob') : R ν Z { st with m := aW st.m d ob' } F H' := by
 have hzr : ∀ id, Z id → Z id ∧ an H' id = an H id := fun id h => ⟨h, by
  unfold an; rw [hh id (by rintro rfl; exact r.apart d ob h0 hbb h)]⟩
 have sm : ∀ e ob2, aj (aW st.m d ob') e = some ob2 → ∃ ob1, aj st.m e = some ob1 ∧ ν e = ν e ∧ sameShape ob1 ob2 := fun e ob2 h => by
  by_cases k : e = d
  ·subst k; rw [bQ] at h; cases h; exact ⟨ob, h0, rfl, hs⟩
  ·rw [c9 st.m ob' (Ne.symm k)] at h; exact ⟨ob2, h, rfl, .refl _⟩
 have bk : ∀ e ob2, aj (aW st.m d ob') e = some ob2 → ∃ ob1, aj st.m e = some ob1 ∧ b7 ob1 = b7 ob2 := fun e ob2 h => by
  by_cases k : e = d
  ·subst k; rw [bQ] at h; cases h; exact ⟨ob, h0, hb.symm⟩
  ·rw [c9 st.m ob' (Ne.symm k)] at h; exact ⟨ob2, h, rfl⟩
 refine ⟨fun s sv hs => (r.slot s sv hs).mono hzr fun e _ => sm e, fun d' ob2 hd => ?_, ?_, ?_, fun id h => by rw [(hzr id h).2]; exact r.zrow id h, r.deep.mono fun id h => (hzr id h).2⟩
 ·by_cases e : d' = d
  ·subst e; simp only at hd; rw [bQ] at hd; cases hd; exact ho
  ·simp only at hd; rw [c9 st.m ob' (Ne.symm e)] at hd
   refine d_.mono hzr rfl (fun hb2 => hh _ fun h => e (r.inj d' d ob2 ob hd h0 hb2 hbb h)) (fun k _ => sm k) (r.obj d' ob2 hd)
 ·intro d1 d2 o1 o2 h1 h2 b1 b2 hp
  obtain ⟨p1, k1, l1⟩ := bk d1 o1 h1
  obtain ⟨p2, k2, l2⟩ := bk d2 o2 h2
  exact r.inj d1 d2 p1 p2 k1 k2 (by rw [l1]; exact b1) (by rw [l2]; exact b2) hp
 ·intro d1 o1 h1 b1
  obtain ⟨p1, k1, l1⟩ := bk d1 o1 h1
  exact r.apart d1 p1 k1 (by rw [l1]; exact b1)
theorem Ev.fK (r : R ν Z st F H) {d : Nat} {ob ob' : aE} (h0 : aj st.m d = some ob) (hs : sameShape ob ob') (hb : b7 ob' = b7 ob) (hh : ∀ id, id ≠ (ν d).1 → H'[id]? = H[id]?) (hbb : b7 ob = true) (hl : H.length ≤ H'.length) :
 Ev Rv ν Z st H ν Z { st with m := aW st.m d ob' } H' where
 len := hl
 same := fun id _ ho _ _ => hh id fun e => ho ⟨d, ob, h0, hbb, e.symm⟩
 rows := fun id h => ⟨h, by unfold an; rw [hh id (by rintro rfl; exact r.apart d ob h0 hbb h)]⟩
 own := fun id ⟨k, o, h1, h2, h3⟩ => by
  by_cases e : k = d
  ·subst e; simp only at h1; rw [bQ] at h1; cases h1; exact .inl ⟨k, ob, h0, hbb, h3⟩
  ·simp only at h1; rw [c9 st.m ob' (Ne.symm e)] at h1; exact .inl ⟨k, o, h1, h2, h3⟩
 frz := fun id h => .inl h
 pin := fun e _ ob2 h => by
  by_cases k : e = d
  ·subst k; simp only at h; rw [bQ] at h; cases h; exact ⟨ob, h0, rfl, hs⟩
  ·simp only at h; rw [c9 st.m ob' (Ne.symm k)] at h; exact ⟨ob2, h, rfl, .refl _⟩
 pins := rfl
theorem R.less (r : R ν Z st F H) {g : Tb SV} {m' : Tb aE} (hg : ∀ s sv, aj g s = some sv → aj st.g s = some sv) (hm : ∀ d ob, aj m' d = some ob → aj st.m d = some ob) : R ν Z { st with g := g, m := m' } F H where
 slot := fun s sv hs => (r.slot s sv (hg s sv hs)).mono (fun id h => ⟨h, rfl⟩) fun e _ ob' h => ⟨ob', hm e ob' h, rfl, .refl _⟩
 obj := fun d ob hd => d_.mono (fun id h => ⟨h, rfl⟩) rfl (fun _ => rfl) (fun e _ ob' h => ⟨ob', hm e ob' h, rfl, .refl _⟩) (r.obj d ob (hm d ob hd))
 inj := fun d d' ob ob' h1 h2 => r.inj d d' ob ob' (hm d ob h1) (hm d' ob' h2)
 apart := fun d ob h => r.apart d ob (hm d ob h)
 zrow := r.zrow
 deep := r.deep
theorem Ev.less {g : Tb SV} {m' : Tb aE} (hm : ∀ d ob, aj m' d = some ob → aj st.m d = some ob) : Ev Rv ν Z st H ν Z { st with g := g, m := m' } H :=
 ⟨Nat.le_refl _, fun _ _ _ _ _ => rfl, fun _ h => ⟨h, rfl⟩, fun _ ⟨d, ob, h1, h2, h3⟩ => .inl ⟨d, ob, hm d ob h1, h2, h3⟩, fun _ h => .inl h, fun e _ ob' h => ⟨ob', hm e ob' h, rfl, .refl _⟩, rfl⟩
theorem Ev.heap (hl : H.length ≤ H'.length) (hs : ∀ id, id < H.length → ¬ eS ν st.m id → ¬ Z id → ¬ Rv id → H'[id]? = H[id]?) (hz : ∀ id, Z id → an H' id = an H id) : Ev Rv ν Z st H ν Z st H' :=
 ⟨hl, hs, fun id h => ⟨h, hz id h⟩, fun _ h => .inl h, fun _ h => .inl h, fun _ _ ob' h => ⟨ob', h, rfl, .refl _⟩, rfl⟩
end
end Go.VE
namespace Go.VE
section
variable {Rv : Nat → Prop} {ν ν' : Nu} {Z Z' : Nat → Prop} {st st' : St} {m m' : Tb aE} {F F' : Frame} {H H' : ao}
theorem fI.z8 {xs ys : List (List V)} (h : fI H Z xs ys) : sL H Z ys := fun c hc u hu => by
 obtain ⟨i, hi⟩ := List.mem_iff_getElem?.1 hc
 have hl : i < xs.length := by rw [h.1]; exact (List.getElem?_eq_some_iff.1 hi).1
 have hr := h.2 i _ c (List.getElem?_eq_getElem hl) hi
 obtain ⟨j, hj⟩ := List.mem_iff_getElem?.1 hu
 have hl2 : j < (xs[i]).length := by rw [hr.1]; exact (List.getElem?_eq_some_iff.1 hj).1
 exact ⟨_, hr.2 j _ u (List.getElem?_eq_getElem hl2) hj⟩
theorem fI.same {xs : List (List V)} (h : V.j9 xs = true) : fI H Z xs xs :=
 ⟨rfl, fun j u v hu hv => by rw [hu] at hv; cases hv; exact cu.same (jy.1 h j u hu)⟩
theorem jU {z : List V} (h : V.bK z = true) : ∀ n, V.j9 (List.replicate n z) = true
 | 0 => rfl
 | n + 1 => by simp only [List.replicate_succ, V.j9, h, jU h n, Bool.and_self]
theorem vz {es : Nat} : ∀ {ps qs : List (Nat × V)} {xs xs' r : List (List V)}, fI H Z xs xs' → ps.map (·.1) = qs.map (·.1) → cu H Z (ps.map (·.2)) (qs.map (·.2)) → gn es xs ps = some r → ∃ r', gn es xs' qs = some r' ∧ fI H Z r r'
 | [], qs, xs, xs', r, hx, h1, h2, h => by
  have : qs = [] := by cases qs with | nil => rfl | cons _ _ => simp at h1
  subst this
  simp only [gn, Option.some.injEq] at h ⊢; subst h
  exact ⟨_, rfl, hx⟩
 | (i, v) :: ps, qs, xs, xs', r, hx, h1, h2, h => by
  cases qs with
  | nil => simp at h1
  | cons q qs =>
   obtain ⟨j, w⟩ := q
   simp only [List.map_cons, List.cons.injEq] at h1
   obtain ⟨e, h1⟩ := h1
   subst e
   obtain ⟨w', ws, e, h3, h4⟩ := h2.inv
   simp only [List.map_cons, List.cons.injEq] at e
   obtain ⟨rfl, rfl⟩ := e
   have hc := h3.cells
   simp only [gn] at h ⊢
   split at h
   ·rename_i hcnd
    rw [if_pos ⟨by rw [← hc.1]; exact hcnd.1, by rw [← hx.1]; exact hcnd.2.1, by rw [hc.one]; exact hcnd.2.2⟩]
    exact vz (hx.set i hc) h1 h4 h
   ·simp at h
theorem yo : ∀ {idx : List Nat} {xs : List V}, idx.length = xs.length → (idx.zip xs).map (·.1) = idx
 | [], xs, _ => by simp
 | i :: idx, [], h => by simp at h
 | i :: idx, x :: xs, h => by simp [yo (idx := idx) (xs := xs) (by simpa using h)]
theorem yU : ∀ {idx : List Nat} {xs : List V}, idx.length = xs.length → (idx.zip xs).map (·.2) = xs
 | [], [], _ => by simp
 | [], x :: xs, h => by simp at h
 | i :: idx, [], h => by simp at h
 | i :: idx, x :: xs, h => by simp [yU (idx := idx) (xs := xs) (by simpa using h)]
theorem vu {x : SV} {y : V} (h : pJ m x = true) (r : cz ν m H Z x y) : y.cells = [y] ∧ y.one = true := by
 cases x with
 | v x => simp [pJ] at h
 | own d =>
  obtain ⟨ob, hob⟩ := Option.isSome_iff_exists.1 h
  obtain ⟨k, es, xs, rfl, rfl⟩ := r.jk hob
  cases k <;> exact ⟨rfl, rfl⟩
 | ptr d o =>
  obtain ⟨ob, hob⟩ := Option.isSome_iff_exists.1 h
  obtain ⟨cs, rfl, rfl⟩ := r.lx hob
  exact ⟨rfl, rfl⟩
 | el d i o =>
  obtain ⟨ob, hob⟩ := Option.isSome_iff_exists.1 h
  obtain ⟨k, es, xs, rfl, _, rfl⟩ := r.rR hob
  exact ⟨rfl, rfl⟩
 | mp d =>
  obtain ⟨ob, hob⟩ := Option.isSome_iff_exists.1 h
  obtain ⟨kvs, rfl, rfl⟩ := r.xj hob
  exact ⟨rfl, rfl⟩
 | clo f a b => obtain ⟨a', b', rfl, _⟩ := r.iT; exact ⟨rfl, rfl⟩
 | tup l => simp [pJ] at h
 | yl id => simp [pJ] at h
theorem Eb {a : Es} {svs : List SV} {ys : List V} {d : Nat} {ob : aE} {sv : SV} (hk : qI (.a a) = true) (r : aU ν m H Z svs ys) (h : lX m a svs d = some (ob, sv)) :
 ∃ o mk, oe a ys = some (o, mk) ∧ b7 ob = true ∧ o ≠ .free ∧ ∀ (id : Nat) (ν' : Nu) (m' : Tb aE) (H' : ao), ν' d = (id, 0) → aj m' d = some ob → H'[id]? = some o → (∀ k, Z k → an H' k = an H k) →
  (∀ e, SV.cx e svs = true → ∀ ob', aj m' e = some ob' → ∃ ob, aj m e = some ob ∧ ν' e = ν e ∧ sameShape ob ob') → d_ ν' m' H' Z d ob ∧ cz ν' m' H' Z sv (mk.val id) := by
 unfold lX at h
 split at h
 ·
  rename_i size zero
  simp only [Option.some.injEq, Prod.mk.injEq] at h; obtain ⟨rfl, rfl⟩ := h
  rw [r.ct]
  simp only [qI, Bool.and_eq_true] at hk
  refine ⟨_, _, rfl, rfl, by simp, fun id ν' m' H' e1 e2 e3 e4 e5 => ⟨⟨_, zero, by rw [e1]; exact e3, aU.oc (cu.same hk.1), hk.2⟩, ?_⟩⟩
  exact .ptr _ _ _ fun ob' h' => by rw [e2] at h'; cases h'; exact ⟨_, rfl, by rw [e1]; rfl⟩
 ·
  rename_i x
  split at h
  ·rename_i hone
   simp only [Option.some.injEq, Prod.mk.injEq] at h; obtain ⟨rfl, rfl⟩ := h
   obtain ⟨y, _, rfl, h1, h2⟩ := r.inv
   rw [h2.ct]
   have hc := h1.fr.cells
   refine ⟨.row y.cells.length [y.cells], .ptr, by simp only [oe, hc.one, hone, if_true], rfl, by simp, fun id ν' m' H' e1 e2 e3 e4 e5 => ⟨⟨_, y.cells, by rw [e1]; exact e3, aU.oc (hc.mono fun k hk => ⟨hk, e4 k hk⟩), by rw [hc.one]; exact hone⟩, ?_⟩⟩
   exact .ptr _ _ _ fun ob' h' => by rw [e2] at h'; cases h'; exact ⟨_, rfl, by rw [e1]; rfl⟩
  ·simp at h
 ·
  rename_i x hx
  split at h
  ·rename_i hl
   simp only [Option.some.injEq, Prod.mk.injEq] at h; obtain ⟨rfl, rfl⟩ := h
   obtain ⟨y, _, rfl, h1, h2⟩ := r.inv
   rw [h2.ct]
   obtain ⟨c1, c2⟩ := vu hl h1
   refine ⟨.row [y].length [[y]], .ptr, by simp only [oe, c1, List.all_cons, c2, List.all_nil, Bool.and_self, if_true], rfl, by simp, fun id ν' m' H' e1 e2 e3 e4 e5 => ⟨⟨_, [y], by rw [e1]; exact e3, .cons (h1.mono (fun k hk => ⟨hk, e4 k hk⟩) fun e he => e5 e (by simp [SV.cx, he])) .nil, by simp [c2]⟩, ?_⟩⟩
   exact .ptr _ _ _ fun ob' h' => by rw [e2] at h'; cases h'; exact ⟨_, rfl, by rw [e1]; rfl⟩
  ·simp at h
 ·
  rename_i size zero k n k' c
  obtain ⟨_, _, rfl, h1, h2⟩ := r.inv
  obtain ⟨_, _, rfl, h3, h4⟩ := h2.inv
  rw [h1.fr.int, h3.fr.int, h4.ct]
  split at h
  ·rename_i hc
   simp only [Option.some.injEq, Prod.mk.injEq] at h; obtain ⟨rfl, rfl⟩ := h
   simp only [qI] at hk
   have hb : bP (if n = c then Fl.row else Fl.part) = true := by split <;> rfl
   refine ⟨_, _, by simp only [oe]; rw [if_pos hc], hb, by simp, fun id ν' m' H' e1 e2 e3 e4 e5 => ⟨?_, ?_⟩⟩
   ·simp only [d_, hb, if_true, e1]
    have hg := jU hk c.toNat
    have hnc : n.toNat ≤ c.toNat := by omega
    refine ⟨_, e3, by simp; omega, ?_, (fI.same hg).z8, fun e => ?_⟩
    ·simp only [List.drop_zero, List.length_replicate, List.take_replicate, Nat.min_eq_left hnc]
     exact fI.same (jU hk _)
    ·have : n = c := by
      by_cases e' : n = c
      ·exact e'
      ·rw [if_neg e'] at e; cases e
     subst this
     simp
   ·refine .own _ _ fun ob' h' => ?_
    rw [e2] at h'; cases h'
    exact ⟨_, _, _, rfl, by rw [nH hb, e1]; simp [Mk.val]⟩
  ·simp at h
 ·
  rename_i vs size len zero idx
  split at h
  ·rename_i xs hx
   split at h
   ·rename_i hl
    obtain ⟨rows, hr, e⟩ := Option.map_eq_some_iff.1 h
    simp only [Prod.mk.injEq] at e; obtain ⟨rfl, rfl⟩ := e
    have hf := r.d6 hx
    simp only [qI] at hk
    obtain ⟨rows', hr', hrr⟩ := vz (H := H) (Z := Z) (qs := idx.zip ys) (fI.same (jU hk len)) (by rw [yo hl, yo (by rw [← hf.1]; exact hl)]) (by rw [yU hl, yU (by rw [← hf.1]; exact hl)]; exact hf) hr
    have hlen : rows'.length = len := by
     have : ∀ {ps : List (Nat × V)} {a r : List (List V)}, gn size a ps = some r → r.length = a.length := by
      intro ps
      induction ps with
      | nil => intro a r h; simp only [gn, Option.some.injEq] at h; subst h; rfl
      | cons p ps ih =>
       intro a r h
       obtain ⟨i, v⟩ := p
       simp only [gn] at h
       split at h
       ·rw [ih h]; simp
       ·simp at h
     rw [this hr']; simp
    refine ⟨.row size rows', .sl size len, by simp only [oe]; rw [if_pos (by rw [← hf.1]; exact hl), hr']; rfl, rfl, by simp, fun id ν' m' H' e1 e2 e3 e4 e5 => ⟨?_, ?_⟩⟩
    ·have hr2 := hrr.mono (H' := H') (Z' := Z) fun k hk => ⟨hk, e4 k hk⟩
     simp only [d_, bP, if_true, e1]
     refine ⟨_, e3, by simp [hrr.1], ?_, hr2.z8, fun _ => ⟨trivial, hrr.1.symm⟩⟩
     simp only [List.drop_zero, hrr.1, List.take_length]
     exact hr2
    ·refine .own _ _ fun ob' h' => ?_
     rw [e2] at h'; cases h'
     exact ⟨_, _, _, rfl, by rw [hrr.1, hlen]; simp [sW, e1, Mk.val]⟩
   ·simp at h
  ·simp at h
 ·
  simp only [Option.some.injEq, Prod.mk.injEq] at h; obtain ⟨rfl, rfl⟩ := h
  rw [r.ct]
  refine ⟨_, _, rfl, rfl, by simp, fun id ν' m' H' e1 e2 e3 e4 e5 => ⟨⟨_, by rw [e1]; exact e3, rfl, by simp⟩, ?_⟩⟩
  exact .mp _ _ fun ob' h' => by rw [e2] at h'; cases h'; exact ⟨_, rfl, by rw [e1]; rfl⟩
 ·simp at h
theorem aU.JO {cs : List SV} {cs' : List V} (h : aU ν m H Z cs cs') {size o : Nat} {x : SV} {y : V} {r : List SV} (hx : cz ν m H Z x y) (hp : nJ m size o x cs = some r) (hone : cs'.all V.one = true) :
 y.cells.length = size ∧ o + size ≤ cs'.length ∧ y.cells.all V.one = true ∧ aU ν m H Z r (cs'.take o ++ y.cells ++ cs'.drop (o + y.cells.length)) ∧ (cs'.take o ++ y.cells ++ cs'.drop (o + y.cells.length)).all V.one = true := by
 have hall : ∀ k : Nat, (cs'.take k).all V.one = true ∧ (cs'.drop k).all V.one = true := fun k =>
  ⟨List.all_eq_true.2 fun z hz => List.all_eq_true.1 hone z (List.mem_of_mem_take hz), List.all_eq_true.2 fun z hz => List.all_eq_true.1 hone z (List.mem_of_mem_drop hz)⟩
 unfold nJ at hp
 split at hp
 ·rename_i x
  split at hp
  ·rename_i hc
   simp only [Option.some.injEq] at hp; subst hp
   have hf := hx.fr.cells
   refine ⟨by rw [← hf.1]; exact hc.1, by rw [← h.1]; exact hc.2.1, by rw [hf.one]; exact hc.2.2, ?_, ?_⟩
   ·have e : y.cells.length = size := by rw [← hf.1]; exact hc.1
    rw [e]
    exact ((h.take o).append (aU.oc hf)).append (h.drop _)
   ·simp only [List.all_append, (hall _).1, (hall _).2, hf.one, hc.2.2, Bool.and_self]
  ·simp at hp
 ·split at hp
  ·rename_i hc
   simp only [Option.some.injEq] at hp; subst hp
   obtain ⟨c1, c2⟩ := vu hc.1 hx
   rw [c1]
   refine ⟨by simp [hc.2.1], by rw [← h.1]; have := hc.2.2; omega, by simp [c2], ?_, ?_⟩
   ·exact ((h.take o).append (.cons hx .nil)).append (h.drop _)
   ·simp only [List.all_append, (hall _).1, (hall _).2, List.all_cons, c2, List.all_nil, Bool.and_self]
  ·simp at hp
theorem qB {size : Nat} {x : SV} {y : V} {xs : List (List V)} (r : cz ν m H Z x y) (ho : ∀ d ob, aj m d = some ob → d_ ν m H Z d ob) (h : kO m size x = some xs) : ∃ ys, gG H size y = some ys ∧ fI H Z xs ys := by
 unfold kO at h
 split at h
 ·split at h
  ·rename_i k es xs' hob
   obtain ⟨_, _, _, e, rfl⟩ := r.jk hob
   cases e
   have o := ho _ _ hob
   simp only [d_] at o
   split at h
   ·rename_i hk
    rw [if_pos hk] at o
    split at h
    ·rename_i he
     simp only [Option.some.injEq] at h; subst h
     obtain ⟨ys, hr, hl, hf, _⟩ := o
     rw [nH hk]
     exact ⟨_, by simp only [gG, if_pos he, hr, Option.bind_some, Ob.rows, if_pos hl], hf⟩
    ·simp at h
   ·rename_i hk
    simp only [Option.some.injEq] at h; subst h
    refine ⟨[], ?_, rfl, by simp⟩
    cases k <;> simp [bP] at hk <;> rfl
  ·simp at h
 ·simp only [Option.some.injEq] at h; subst h; rw [r.fr.au]; exact ⟨[], rfl, rfl, by simp⟩
 ·simp only [Option.some.injEq] at h; subst h; rw [r.fr.dZ]; exact ⟨[], rfl, rfl, by simp⟩
 ·split at h
  ·rename_i es xs' he
   simp only [Option.some.injEq] at h; subst h
   have hg := r.fr.aN
   rcases r.fr.i4 with rfl | ⟨id, off, ys, rfl, hz, hr, hl, hf⟩
   ·exact ⟨_, by simp only [gG, if_pos he], fI.same (by simpa [V.aN] using hg)⟩
   ·unfold an at hr
    exact ⟨_, by simp only [gG, if_pos he, hr, if_pos hl], hf⟩
  ·simp at h
 ·simp at h
theorem Ev.re {m1 : Tb aE} (hm : ∀ d ob, aj m1 d = some ob → aj st.m d = some ob) {d : Nat} (hn : d ∉ st.pin) {ob : aE} {p : Nat × Nat} (hl : H.length ≤ H'.length) (hs : ∀ id, id < H.length → ¬ eS ν st.m id → ¬ Rv id → H'[id]? = H[id]?)
 (hz : ∀ id, Z id → an H' id = an H id) (hp : eS ν st.m p.1 ∨ Rv p.1 ∨ H.length ≤ p.1) : Ev Rv ν Z st H (iN ν d p) Z { st with m := aW m1 d ob } H' where
 len := hl
 same := fun id h ho _ hr => hs id h ho hr
 rows := fun id h => ⟨h, hz id h⟩
 own := fun id h => by
  rcases Cf h with h | ⟨h1, rfl⟩
  ·obtain ⟨k, o, h1, h2, h3⟩ := h; exact .inl ⟨k, o, hm k o h1, h2, h3⟩
  ·exact hp
 frz := fun id h => .inl h
 pin := fun e he ob' h => by
  have : e ≠ d := by rintro rfl; exact hn he
  obtain ⟨o, h1, h2, h3⟩ := nP (ν := ν) (p := p) this ob' h
  exact ⟨o, hm e o h1, h2, h3⟩
 pins := rfl
def Kept (dst : Option Nat) (ν : Nu) (m : Tb aE) (ν' : Nu) (m' : Tb aE) : Prop := ∀ e ob', dst ≠ some e → aj m' e = some ob' → ∃ ob, aj m e = some ob ∧ ν' e = ν e ∧ sameShape ob ob'
theorem Kept.refl {dst : Option Nat} : Kept dst ν m ν m := fun e ob' _ h => ⟨ob', h, rfl, .refl _⟩
theorem Kept.fK {dst : Option Nat} {d : Nat} {ob ob' : aE} (h0 : aj m d = some ob) (hs : sameShape ob ob') : Kept dst ν m ν (aW m d ob') := fun e ob2 _ h => by
 by_cases k : e = d
 ·subst k; rw [bQ] at h; cases h; exact ⟨ob, h0, rfl, hs⟩
 ·rw [c9 m ob' (Ne.symm k)] at h; exact ⟨ob2, h, rfl, .refl _⟩
theorem Kept.add {d : Nat} {ob : aE} {p : Nat × Nat} {m1 : Tb aE} (hm : ∀ d ob, aj m1 d = some ob → aj m d = some ob) : Kept (some d) ν m (iN ν d p) (aW m1 d ob) := fun e ob' he h => by
 have : e ≠ d := fun h => he (by rw [h])
 obtain ⟨o, h1, h2, h3⟩ := nP (ν := ν) (p := p) this ob' h
 exact ⟨o, hm e o h1, h2, h3⟩
theorem vQ {d : Nat} : ∀ e ob, aj (f_ d m) e = some ob → aj m e = some ob := fun _ _ h => (oK h).2
theorem xP.put {k x y : V} {a b r : List (V × V)} (hks : k.scalar = true) (h : xP H Z a b) (hx : FR H Z x y) (hp : kL k x a = some r) : ∃ r', kL k y b = some r' ∧ xP H Z r r' := by
 unfold kL at hp
 obtain ⟨f1, f2⟩ := vB (k := k) (i := 0) h
 split at hp
 ·rename_i j v hf
  simp only [Option.some.injEq] at hp; subst hp
  obtain ⟨v', hf', _⟩ := f2 j v hf
  refine ⟨b.set j (k, y), by unfold kL; rw [hf'], by simp [h.1], fun i u w hu hw => ?_⟩
  rw [List.getElem?_set] at hu hw
  rw [← h.1] at hw
  split at hu
  ·rename_i e; rw [if_pos e] at hw
   split at hu
   ·rename_i e2; rw [if_pos e2] at hw; cases hu; cases hw; exact ⟨⟨rfl, hks⟩, hx⟩
   ·simp at hu
  ·rename_i e; rw [if_neg e] at hw; exact h.2 i u w hu hw
 ·rename_i hf
  simp only [Option.some.injEq] at hp; subst hp
  refine ⟨b ++ [(k, y)], by unfold kL; rw [f1 hf], by simp [h.1], fun i u w hu hw => ?_⟩
  by_cases hi : i < a.length
  ·rw [List.getElem?_append_left hi] at hu
   rw [List.getElem?_append_left (by rw [← h.1]; exact hi)] at hw
   exact h.2 i u w hu hw
  ·rw [List.getElem?_append_right (by omega)] at hu
   rw [List.getElem?_append_right (by rw [← h.1]; omega), ← h.1] at hw
   have : i - a.length = 0 := by
    have := (List.getElem?_eq_some_iff.1 hu).1; simp at this; omega
   rw [this] at hu hw
   simp at hu hw; subst hu; subst hw; exact ⟨⟨rfl, hks⟩, hx⟩
 ·simp at hp
theorem Am (r : R ν Z st F H) {dst : Option Nat} {l : Cj} {svs : List SV} {ys : List V} {sv : SV} (hsv : aU ν st.m H Z svs ys) (h : k_ st dst l svs = some (sv, st')) :
 ∃ y H' ν', kB H l ys = some (y, H') ∧ R ν' Z st' F H' ∧ cz ν' st'.m H' Z sv y ∧ Ev (fun _ => False) ν Z st H ν' Z st' H' ∧ Kept dst ν st.m ν' st'.m := by
 unfold k_ at h
 split at h
 ·
  rename_i size d o x
  obtain ⟨_, _, rfl, h1, h2⟩ := hsv.inv
  obtain ⟨y, _, rfl, h3, h4⟩ := h2.inv
  rw [h4.ct]
  split at h
  ·rename_i cs hob
   obtain ⟨cs1, hp, e⟩ := Option.map_eq_some_iff.1 h
   simp only [Prod.mk.injEq] at e; obtain ⟨rfl, rfl⟩ := e
   obtain ⟨_, _, rfl⟩ := h1.lx hob
   obtain ⟨es, cs', hr, hc, hone⟩ := r.obj d _ hob
   obtain ⟨p1, p2, p3, p4, p5⟩ := aU.JO hc h3 hp hone
   have hh : ∀ id, id ≠ (ν d).1 → (H.set (ν d).1 (.row es [cs'.take o ++ y.cells ++ cs'.drop (o + y.cells.length)]))[id]? = H[id]? := fun id hne => by rw [List.getElem?_set]; rw [if_neg (Ne.symm hne)]
   have hz : ∀ id, Z id → Z id ∧ an (H.set (ν d).1 (.row es [cs'.take o ++ y.cells ++ cs'.drop (o + y.cells.length)])) id = an H id := fun id hz => ⟨hz, by
    unfold an; rw [hh id (by rintro rfl; exact r.apart d _ hob rfl hz)]⟩
   refine ⟨.undef, H.set (ν d).1 (.row es [cs'.take o ++ y.cells ++ cs'.drop (o + y.cells.length)]), ν, ?_, ?_, .v _ _ (.same _ rfl), Ev.fK r hob trivial rfl hh rfl (by simp), Kept.fK hob trivial⟩
   ·simp only [kB, hr, List.getElem?_cons_zero, if_pos (And.intro p1 (And.intro p2 p3)), List.set_cons_zero]
   ·refine r.fK hob (ob' := .box cs1) trivial rfl hh rfl ⟨es, _, ?_, p4.mono hz (fun e _ ob' he => ?_), p5⟩
    ·have := (List.getElem?_eq_some_iff.1 hr).1
     rw [List.getElem?_set_self this]
    ·by_cases k : e = d
     ·subst k; rw [bQ] at he; cases he; exact ⟨_, hob, rfl, trivial⟩
     ·rw [c9 st.m _ (Ne.symm k)] at he; exact ⟨ob', he, rfl, .refl _⟩
  ·simp at h
 ·
  rename_i size d i o x
  obtain ⟨_, _, rfl, h1, h2⟩ := hsv.inv
  obtain ⟨y, _, rfl, h3, h4⟩ := h2.inv
  rw [h4.ct]
  split at h
  ·rename_i k es xs hob
   split at h
   ·rename_i cs hcs
    split at h
    ·rename_i hc
     simp only [Option.some.injEq, Prod.mk.injEq] at h; obtain ⟨rfl, rfl⟩ := h
     obtain ⟨_, _, _, e, hk, rfl⟩ := h1.rR hob
     cases e
     have ob := r.obj d _ hob
     simp only [d_, hk, if_true] at ob
     obtain ⟨rs, hr, hl, hf, hsol, hrow⟩ := ob
     obtain ⟨c, hcc, hfc⟩ := hf.get hcs
     have hi := (List.getElem?_eq_some_iff.1 hcs).1
     rw [List.getElem?_take, if_pos hi, List.getElem?_drop] at hcc
     have hy := h3.fr.cells
     have q1 : y.cells.length = size := by rw [← hy.1]; exact hc.1
     have q2 : o + size ≤ c.length := by rw [← hfc.1]; exact hc.2.1
     have q3 : y.cells.all V.one = true := by rw [hy.one]; exact hc.2.2
     have hnew : cu H Z (cs.take o ++ x.cells ++ cs.drop (o + x.cells.length)) (c.take o ++ y.cells ++ c.drop (o + y.cells.length)) := by
      rw [hc.1, q1]
      exact ((hfc.take o).append hy).append (hfc.drop _)
     generalize hN : (c.take o ++ y.cells ++ c.drop (o + y.cells.length)) = nc at hnew
     have hh : ∀ id, id ≠ (ν d).1 → (H.set (ν d).1 (.row es (rs.set ((ν d).2 + i) nc)))[id]? = H[id]? := fun id hne => by rw [List.getElem?_set]; rw [if_neg (Ne.symm hne)]
     have hbk : b7 (.sl k es xs) = true := hk
     have hz : ∀ id, Z id → Z id ∧ an (H.set (ν d).1 (.row es (rs.set ((ν d).2 + i) nc))) id = an H id := fun id hz => ⟨hz, by
      unfold an; rw [hh id (by rintro rfl; exact r.apart d _ hob hbk hz)]⟩
     have hsh : sameShape (.sl k es xs) (.sl k es (xs.set i (cs.take o ++ x.cells ++ cs.drop (o + x.cells.length)))) := ⟨rfl, rfl, by simp⟩
     refine ⟨.undef, H.set (ν d).1 (.row es (rs.set ((ν d).2 + i) nc)), ν, ?_, ?_, .v _ _ (.same _ rfl), Ev.fK r hob hsh rfl hh hbk (by simp), Kept.fK hob hsh⟩
     ·simp only [kB, hr, hcc, if_pos (And.intro q1 (And.intro q2 q3)), hN]
     ·refine r.fK hob hsh rfl hh hbk ?_
      simp only [d_, hk, if_true]
      have hlt := (List.getElem?_eq_some_iff.1 hr).1
      refine ⟨_, List.getElem?_set_self hlt, by simpa using hl, ?_, ?_, fun e => ?_⟩
      ·have e1 : List.take (xs.set i (cs.take o ++ x.cells ++ cs.drop (o + x.cells.length))).length (List.drop (ν d).2 (rs.set ((ν d).2 + i) nc)) = ((rs.drop (ν d).2).take xs.length).set i nc := by
        rw [List.length_set, List.drop_set, if_neg (by omega), List.take_set]
        congr 1; omega
       rw [e1]
       exact (hf.set i hnew).mono hz
      ·intro cc hcc' u hu
       rcases List.mem_or_eq_of_mem_set hcc' with hm | rfl
       ·obtain ⟨z, hz'⟩ := hsol cc hm u hu
        exact ⟨z, hz'.mono hz⟩
       ·obtain ⟨j, hj⟩ := List.mem_iff_getElem?.1 hu
        have hjl := (List.getElem?_eq_some_iff.1 hj).1
        rw [← hnew.1] at hjl
        exact ⟨_, (hnew.2 j _ u (List.getElem?_eq_getElem hjl) hj).mono hz⟩
      ·obtain ⟨a1, a2⟩ := hrow e
       exact ⟨a1, by simpa using a2⟩
    ·simp at h
   ·simp at h
  ·simp at h
 ·
  rename_i kk d k x
  obtain ⟨_, _, rfl, h1, h2⟩ := hsv.inv
  obtain ⟨k', _, rfl, h3, h4⟩ := h2.inv
  obtain ⟨y, _, rfl, h5, h6⟩ := h4.inv
  rw [h6.ct]
  split at h
  ·rename_i kvs hob
   split at h
   ·rename_i hk
    obtain ⟨kvs1, hp, e⟩ := Option.map_eq_some_iff.1 h
    simp only [Prod.mk.injEq] at e; obtain ⟨rfl, rfl⟩ := e
    obtain ⟨_, _, rfl⟩ := h1.xj hob
    have hkk := h3.fr.scalar.1 (pe hk)
    subst hkk
    obtain ⟨kvs', hr, hkv⟩ := r.obj d _ hob
    obtain ⟨r', hr', hrr⟩ := hkv.put (pe hk) h5.fr hp
    have hh : ∀ id, id ≠ (ν d).1 → (H.set (ν d).1 (.map r'))[id]? = H[id]? := fun id hne => by rw [List.getElem?_set]; rw [if_neg (Ne.symm hne)]
    have hz : ∀ id, Z id → Z id ∧ an (H.set (ν d).1 (.map r')) id = an H id := fun id hz => ⟨hz, by
     unfold an; rw [hh id (by rintro rfl; exact r.apart d _ hob rfl hz)]⟩
    refine ⟨.undef, H.set (ν d).1 (.map r'), ν, ?_, ?_, .v _ _ (.same _ rfl), Ev.fK r hob trivial rfl hh rfl (by simp), Kept.fK hob trivial⟩
    ·simp only [kB, hr, hk, if_true, hr', Option.map_some]
    ·refine r.fK hob (ob' := .mp kvs1) trivial rfl hh rfl ⟨r', ?_, hrr.mono hz⟩
     rw [List.getElem?_set_self (List.getElem?_eq_some_iff.1 hr).1]
   ·simp at h
  ·simp at h
 ·
  rename_i size s x
  obtain ⟨y1, _, rfl, h1, h2⟩ := hsv.inv
  obtain ⟨y2, _, rfl, h3, h4⟩ := h2.inv
  rw [h4.ct]
  split at h
  ·rename_i xs e1 e2
   simp only [Option.some.injEq, Prod.mk.injEq] at h; obtain ⟨rfl, rfl⟩ := h
   obtain ⟨a1, p1, _⟩ := qB h1 r.obj e1
   obtain ⟨a2, p2, q2⟩ := qB h3 r.obj e2
   have : a2 = [] := List.length_eq_zero_iff.1 (by have := q2.1; simpa using this.symm)
   subst this
   exact ⟨y1, H, ν, by simp only [kB, p1, p2], r, h1, .refl, .refl⟩
  ·rename_i xs zs hne e1 e2
   split at h
   ·rename_i hc
    obtain ⟨a1, p1, q1⟩ := qB h1 r.obj e1
    obtain ⟨a2, p2, q2⟩ := qB h3 r.obj e2
    cases dst with
    | none => simp at h
    | some t =>
     dsimp only at h
     generalize hm1 : giveUp st.m s = m1 at h
     split at h
     ·rename_i hnew
      simp only [Option.some.injEq, Prod.mk.injEq] at h; obtain ⟨rfl, rfl⟩ := h
      obtain ⟨n1, _, _, _⟩ := mq hnew
      have grow : ∃ H1, mL H y1 = some H1 ∧ H1.length = H.length ∧ (∀ id, ¬ eS ν st.m id → H1[id]? = H[id]?) ∧
       (∀ id, eS ν m1 id → H1[id]? = H[id]?) ∧ (∀ id, Z id → an H1 id = an H id) := by
       subst hm1
       cases s with
       | own d =>
        simp only [kO] at e1
        split at e1
        ·rename_i k es xs' hob
         obtain ⟨_, _, _, e, rfl⟩ := h1.jk hob
         cases e
         by_cases hk : bP k = true
         ·have o := r.obj d _ hob
          simp only [d_, hk, if_true] at o
          obtain ⟨ys, hr, _⟩ := o
          have hbk : b7 (.sl k es xs') = true := hk
          have hh : ∀ id, id ≠ (ν d).1 → (H.set (ν d).1 .dead)[id]? = H[id]? := fun id hne => by rw [List.getElem?_set]; rw [if_neg (Ne.symm hne)]
          refine ⟨H.set (ν d).1 .dead, by rw [nH hk]; simp only [mL, hr], by simp, fun id ho => hh id fun e => ho ⟨d, _, hob, hbk, e.symm⟩, fun id ho => hh id fun e => ?_, fun id hz => ?_⟩
          ·obtain ⟨k2, o2, g1, g2, g3⟩ := ho
           obtain ⟨g4, g5⟩ := oK g1
           exact g4 (r.inj d k2 _ o2 hob g5 hbk g2 (by rw [g3, e]))
          ·unfold an; rw [hh id (by rintro rfl; exact r.apart d _ hob hbk hz)]
         ·refine ⟨H, ?_, rfl, fun _ _ => rfl, fun _ _ => rfl, fun _ _ => rfl⟩
          cases k <;> simp [bP] at hk <;> rfl
        ·simp at e1
       | v x0 =>
        refine ⟨H, ?_, rfl, fun _ _ => rfl, fun _ _ => rfl, fun _ _ => rfl⟩
        cases x0 <;> simp [yL] at hc
        ·rw [h1.fr.dZ]; rfl
        ·rw [h1.fr.au]; rfl
       | _ => simp [yL] at hc
      obtain ⟨H1, g1, g2, g3, g4, g5⟩ := grow
      have hsub : ∀ e ob, aj m1 e = some ob → aj st.m e = some ob := by
       subst hm1
       cases s <;> first | exact fun _ _ h => h | exact vQ
      have hlt1 : ∀ id, eS ν m1 id → id < H.length := fun id ⟨k, o, w1, w2, w3⟩ => r.lt ⟨k, o, hsub k o w1, w2, w3⟩
      have hget : ∀ id, id < H.length → (H1 ++ [Ob.row size (a1 ++ a2)])[id]? = H1[id]? := fun id hl => List.getElem?_append_left (by rw [g2]; exact hl)
      have hz2 : ∀ id, Z id → an (H1 ++ [Ob.row size (a1 ++ a2)]) id = an H id := fun id hz => by
       have := g5 id hz
       unfold an at this ⊢
       rw [hget id (r.qK hz)]; exact this
      have r1 : R ν Z { st with m := m1 } F H := r.less (g := st.g) (fun _ _ h => h) hsub
      have r2 : R ν Z { st with m := m1 } F (H1 ++ [Ob.row size (a1 ++ a2)]) := r1.heap (fun id ho => by rw [hget id (hlt1 id ho)]; exact g4 id ho) hz2
      have ff := (q1.append q2).mono (H' := H1 ++ [Ob.row size (a1 ++ a2)]) (Z' := Z) fun id hz => ⟨hz, hz2 id hz⟩
      have hnewrow : (H1 ++ [Ob.row size (a1 ++ a2)])[H.length]? = some (.row size (a1 ++ a2)) := by
       rw [← g2]; simp
      refine ⟨.hsl H.length size 0 (xs.length + zs.length), H1 ++ [Ob.row size (a1 ++ a2)], iN ν t (H.length, 0), ?_, ?_, ?_, ?_, Kept.add hsub⟩
      ·have hne' : a2 ≠ [] := by
        rintro rfl
        have hz0 : zs = [] := List.length_eq_zero_iff.1 (by have := q2.1; simpa using this)
        exact hne hz0
       have hle : a1.length + a2.length ≤ 2147483648 := by rw [← q1.1, ← q2.1]; exact hc.1
       have hl1 := q1.1
       have hl2 := q2.1
       cases a2 with
       | nil => exact absurd rfl hne'
       | cons w ws =>
        simp only [kB, p1, p2, if_pos hle, g1, Option.map_some, hl1, hl2]
      ·refine r2.add hnew (fun _ => ⟨fun ho => ?_, fun hz => ?_⟩) ?_
       ·exact absurd (hlt1 _ ho) (by simp)
       ·exact absurd (r.qK hz) (by simp)
       ·simp only [d_, bP, if_true, iV]
        refine ⟨_, hnewrow, by simp [q1.1, q2.1], ?_, ff.z8, fun _ => ⟨trivial, by simp [q1.1, q2.1]⟩⟩
        have : (xs ++ zs).length = (a1 ++ a2).length := by simp [q1.1, q2.1]
        rw [this, List.drop_zero, List.take_length]
        exact ff
      ·refine .own _ _ fun ob' h' => ?_
       simp only at h'
       rw [bQ] at h'; cases h'
       exact ⟨_, _, _, rfl, by simp [sW, iV]⟩
      ·refine Ev.re hsub n1 (by simp [g2]) (fun id hl ho _ => ?_) hz2 (.inr (.inr (Nat.le_refl _)))
       rw [hget id hl]; exact g3 id ho
     ·simp at h
   ·simp at h
  ·simp at h
 ·
  rename_i size d o x l
  obtain ⟨_, _, rfl, h1, h2⟩ := hsv.inv
  obtain ⟨y, ys2, rfl, h3, h4⟩ := h2.inv
  split at h
  ·rename_i hfar
   split at h
   ·rename_i cs hob
    obtain ⟨cs1, hp, e⟩ := Option.map_eq_some_iff.1 h
    simp only [Prod.mk.injEq] at e; obtain ⟨rfl, rfl⟩ := e
    obtain ⟨_, _, rfl⟩ := h1.lx hob
    obtain ⟨es, cs', hr, hc, hone⟩ := r.obj d _ hob
    obtain ⟨p1, p2, p3, p4, p5⟩ := aU.JO hc h3 hp hone
    have hh : ∀ id, id ≠ (ν d).1 → (H.set (ν d).1 (.row es [cs'.take o ++ y.cells ++ cs'.drop (o + y.cells.length)]))[id]? = H[id]? := fun id hne => by rw [List.getElem?_set]; rw [if_neg (Ne.symm hne)]
    have hz : ∀ id, Z id → Z id ∧ an (H.set (ν d).1 (.row es [cs'.take o ++ y.cells ++ cs'.drop (o + y.cells.length)])) id = an H id := fun id hz => ⟨hz, by
     unfold an; rw [hh id (by rintro rfl; exact r.apart d _ hob rfl hz)]⟩
    have hall : ∀ {l : List SV} {ws : List V}, aU ν st.m H Z l ws → l.all (Gw st.m d) = true → ws.all (oH (ν d).1) = true := by
     intro l
     induction l with
     | nil => intro ws hw _; rw [hw.ct]; rfl
     | cons a l ih =>
      intro ws hw hf
      obtain ⟨w, ws, rfl, g1, g2⟩ := hw.inv
      simp only [List.all_cons, Bool.and_eq_true] at hf ⊢
      refine ⟨?_, ih g2 hf.2⟩
      have hf1 := hf.1
      unfold Gw at hf1
      split at hf1
      ·rename_i d' o'
       simp only [Bool.and_eq_true, bne_iff_ne, ne_eq] at hf1
       obtain ⟨hne, hbx⟩ := hf1
       split at hbx
       ·rename_i cs2 hob2
        obtain ⟨_, _, rfl⟩ := g1.lx hob2
        simp only [oH, bne_iff_ne, ne_eq]
        exact fun e => hne (r.inj d' d _ _ hob2 hob rfl rfl e)
       ·cases hbx
      ·rename_i xs
       rcases FR.jc g1.fr with rfl | ⟨id, el, off, _, _, _, rfl, hzz, _⟩
       ·rfl
       ·simp only [oH, bne_iff_ne, ne_eq]
        rintro rfl
        exact r.apart d _ hob rfl hzz
      ·cases hf1
    refine ⟨.undef, H.set (ν d).1 (.row es [cs'.take o ++ y.cells ++ cs'.drop (o + y.cells.length)]), ν, ?_, ?_, .v _ _ (.same _ rfl), Ev.fK r hob trivial rfl hh rfl (by simp), Kept.fK hob trivial⟩
    ·simp only [kB, hall h4 hfar, if_true, hr, List.getElem?_cons_zero, if_pos (And.intro p1 (And.intro p2 p3)), List.set_cons_zero]
    ·refine r.fK hob (ob' := .box cs1) trivial rfl hh rfl ⟨es, _, ?_, p4.mono hz (fun e _ ob' he => ?_), p5⟩
     ·have := (List.getElem?_eq_some_iff.1 hr).1
      rw [List.getElem?_set_self this]
     ·by_cases k : e = d
      ·subst k; rw [bQ] at he; cases he; exact ⟨_, hob, rfl, trivial⟩
      ·rw [c9 st.m _ (Ne.symm k)] at he; exact ⟨ob', he, rfl, .refl _⟩
   ·simp at h
  ·simp at h
 ·simp at h
end
end Go.VE
namespace Go.VE
def tI (d : Nat) (st : St) : Option St :=
 match aj st.m d with
 | some (.sl k es xs) => some { st with g := vR (SV.sub d (kz k es xs)) st.g, m := mapM (SV.qj d (kz k es xs)) (f_ d st.m) }
 | _ => none
def K5 (st : St) : Loc → Option SV
 | .s n => aj st.g n
 | .c b i => match aj st.m b with
  | some (.box cs) => cs[i]?
  | _ => none
def ghost (x : Gh) (st : St) : Option St :=
 match x with
 | .closeS l => match K5 st l with
  | some (.own d) => tI d st
  | some _ => some st
  | none => none
 | .close d => tI d st
 | .closeB d => match aj st.m d with
  | some (.box cs) => match d6 cs with
   | some xs => some { st with g := vR (SV.vI d xs) st.g, m := mapM (SV.mT d xs) (f_ d st.m) }
   | none => none
  | _ => none
 | .canon (.s n) d es => match aj st.g n with
  | some (.v .au) => if st.new d then some { st with g := aW st.g n (.own d), m := aW st.m d (.sl .nil es []) } else none
  | some (.v .dZ) => if st.new d then some { st with g := aW st.g n (.own d), m := aW st.m d (.sl .emp es []) } else none
  | some (.own e) => if e = d then some st else if st.new d then some { st with g := we e d st.g, m := pZ e d st.m } else none
  | _ => none
 | .canon (.c b i) d es => match aj st.m b with
  | some (.box cs) => match cs[i]? with
   | some (.v .au) => if st.new d then some { st with m := aW (aW st.m d (.sl .nil es [])) b (.box (cs.set i (.own d))) } else none
   | some (.v .dZ) => if st.new d then some { st with m := aW (aW st.m d (.sl .emp es [])) b (.box (cs.set i (.own d))) } else none
   | some (.own e) => if e = d then some st else if st.new d then some { st with g := we e d st.g, m := pZ e d st.m } else none
   | _ => none
  | _ => none
 | .keep gs ms => match uA st.g gs, uA st.m ms with
  | some g, some m => some { st with g := g, m := m }
  | _, _ => none
 | .drop ds => some { st with g := sR ds st.g }
section
variable {Rv : Nat → Prop} {ν ν' : Nu} {Z Z' : Nat → Prop} {st st' : St} {m m' : Tb aE} {F F' : Frame} {H H' : ao} {N : Nat → FuncId}
theorem DP (r : R ν Z st F H) {dst : Option Nat} {size d : Nat} {lo hi : Bool} {bs : List SV} {ys : List V} {sv : SV} (hsv : aU ν st.m H Z (.own d :: bs) ys) (h : tT st dst size lo hi d bs = some (sv, st')) :
 ∃ y ν', bh N (.slice size lo hi) ys = some y ∧ R ν' Z st' F H ∧ cz ν' st'.m H Z sv y ∧ Ev Rv ν Z st H ν' Z st' H := by
 unfold tT at h
 obtain ⟨y0, zs, rfl, h1, h2⟩ := hsv.inv
 split at h
 ·rename_i k es xs ws t hob hw
  split at h
  ·rename_i hk
   obtain ⟨⟨l, hh⟩, hb, h⟩ := Option.bind_eq_some_iff.1 h
   obtain ⟨⟨a, b⟩, hbd, h⟩ := Option.bind_eq_some_iff.1 h
   dsimp only at h
   split at h
   ·rename_i hnew
    simp only [Option.some.injEq, Prod.mk.injEq] at h; obtain ⟨rfl, rfl⟩ := h
    obtain ⟨_, _, _, e, rfl⟩ := h1.jk hob
    cases e
    have hle : b ≤ xs.length ∧ a ≤ b := by
     unfold dR at hbd
     dsimp only at hbd
     split at hbd
     ·simp only [Option.some.injEq, Prod.mk.injEq] at hbd; omega
     ·simp at hbd
    have o := r.obj d _ hob
    simp only [d_, hk.1, if_true] at o
    obtain ⟨rs, hr, hl, hf, hsol, _⟩ := o
    have hbk : b7 (.sl k es xs) = true := hk.1
    have r1 : R ν Z { st with m := f_ d st.m } F H := r.less (g := st.g) (fun _ _ h => h) vQ
    have hno : ¬ eS ν (f_ d st.m) (ν d).1 := by
     rintro ⟨k2, o2, g1, g2, g3⟩
     obtain ⟨g4, g5⟩ := oK g1
     exact g4 (r.inj d k2 _ o2 hob g5 hbk g2 g3.symm)
    have hlen : ((xs.take b).drop a).length = b - a := by simp; omega
    refine ⟨.hsl (ν d).1 es ((ν d).2 + a) (b - a), iN ν t ((ν d).1, (ν d).2 + a), ?_, ?_, ?_, ?_⟩
    ·have hf2 := aU.d6 h2 hw
     rw [nH hk.1]
     simp only [bh, hf2.kF hb, Option.bind_some, jr, if_pos hk.2, hbd, Option.map_some]
    ·refine r1.add hnew (fun _ => ⟨hno, r.apart d _ hob hbk⟩) ?_
     simp only [d_, bP, if_true, iV]
     refine ⟨rs, hr, by rw [hlen]; omega, ?_, hsol, fun e => by cases e⟩
     have := (hf.take b).drop a
     have e : List.drop a (List.take b (List.take xs.length (List.drop (ν d).2 rs))) = List.take (b - a) (List.drop ((ν d).2 + a) rs) := by
      rw [List.take_take, Nat.min_eq_left hle.1, List.drop_take, List.drop_drop]
     rw [e] at this
     rw [hlen]; exact this
    ·refine .own _ _ fun ob' h' => ?_
     simp only at h'
     rw [bQ] at h'; cases h'
     exact ⟨_, _, _, rfl, by rw [hlen]; simp [sW, iV]⟩
    ·exact Ev.re (st := st) vQ (mq hnew).1 (Nat.le_refl _) (fun _ _ _ _ => rfl) (fun _ _ => rfl) (.inl ⟨d, _, hob, hbk, rfl⟩)
   ·simp at h
  ·simp at h
 ·simp at h
theorem zE {f : SV → SV} : ∀ {g : Tb SV} {s : Nat}, aj (vR f g) s = (aj g s).map f
 | [], s => rfl
 | (k, x) :: r, s => by
  simp only [vR, aj]
  split
  ·rfl
  ·exact zE
def sI (f : List SV → List SV) : aE → aE
 | .box cs => .box (f cs)
 | o => o
theorem zG {f : List SV → List SV} : ∀ {m : Tb aE} {d : Nat}, aj (mapM f m) d = (aj m d).map (sI f)
 | [], d => rfl
 | (k, x) :: r, d => by
  cases x <;> simp only [mapM, aj] <;> split <;> first | rfl | exact zG
theorem p_ {d : Nat} {w : V} : ∀ {l : List SV} {j : Nat}, (SV.qj d w l)[j]? = (l[j]?).map (SV.sub d w)
 | [], j => by simp [SV.qj]
 | x :: r, 0 => by simp [SV.qj]
 | x :: r, j + 1 => by simp [SV.qj, p_ (l := r)]
theorem oB {d : Nat} {w : List V} : ∀ {l : List SV} {j : Nat}, (SV.mT d w l)[j]? = (l[j]?).map (SV.vI d w)
 | [], j => by simp [SV.mT]
 | x :: r, 0 => by simp [SV.mT]
 | x :: r, j + 1 => by simp [SV.mT, oB (l := r)]
theorem lS {d : Nat} {w : V} : ∀ {l : List SV}, (SV.qj d w l).length = l.length
 | [] => rfl
 | x :: r => by simp [SV.qj, lS (l := r)]
theorem kP {d : Nat} {w : List V} : ∀ {l : List SV}, (SV.mT d w l).length = l.length
 | [] => rfl
 | x :: r => by simp [SV.mT, kP (l := r)]
theorem cz.sub {sv : SV} {y : V} {d : Nat} {k : Fl} {es : Nat} {xs : List (List V)} (h0 : aj m d = some (.sl k es xs)) (hf : FR H Z' (kz k es xs) (sW (ν d) k es xs.length)) (hz : ∀ id, Z id → Z' id)
 (hm : ∀ e ob', aj m' e = some ob' → e ≠ d ∧ ∃ ob, aj m e = some ob ∧ sameShape ob ob') (r : cz ν m H Z sv y) : cz ν m' H Z' (sv.sub d (kz k es xs)) y := by
 have hz' : ∀ id, Z id → Z' id ∧ an H id = an H id := fun id h => ⟨hz id h, rfl⟩
 have hn : ∀ e ob', aj m' e = some ob' → ∃ ob, aj m e = some ob ∧ ν e = ν e ∧ sameShape ob ob' := fun e ob' h => by obtain ⟨_, ob, h1, h2⟩ := hm e ob' h; exact ⟨ob, h1, rfl, h2⟩
 induction r with
 | v x y h => exact .v x y (h.mono hz')
 | own e y h =>
  simp only [SV.sub]
  split
  ·rename_i he
   subst he
   obtain ⟨_, _, _, e1, rfl⟩ := h _ h0
   cases e1
   exact .v _ _ hf
  ·exact (cz.own e y h).mono hz' fun e _ => hn e
 | ptr e o y h => exact (cz.ptr e o y h).mono hz' fun e _ => hn e
 | el e i o y h => exact (cz.el e i o y h).mono hz' fun e _ => hn e
 | mp e y h => exact (cz.mp e y h).mono hz' fun e _ => hn e
 | clo f a b a' b' ha hb hva hvb iha ihb =>
  refine .clo f _ _ a' b' (by rw [lS]; exact ha) (by rw [lS]; exact hb) (fun j u v hu hv => ?_) (fun j u v hu hv => ?_)
  ·rw [p_, Option.map_eq_some_iff] at hu; obtain ⟨u', hu', rfl⟩ := hu; exact iha j u' v hu' hv
  ·rw [p_, Option.map_eq_some_iff] at hu; obtain ⟨u', hu', rfl⟩ := hu; exact ihb j u' v hu' hv
 | tup a a' ha hva iha =>
  refine .tup _ a' (by rw [lS]; exact ha) (fun j u v hu hv => ?_)
  rw [p_, Option.map_eq_some_iff] at hu; obtain ⟨u', hu', rfl⟩ := hu; exact iha j u' v hu' hv
 | yl id => exact .yl id
theorem cz.vI {sv : SV} {y : V} {d : Nat} {cs : List SV} {xs : List V} (h0 : aj m d = some (.box cs)) (hf : ∀ o, o ≤ xs.length → FR H Z' (.fptr (xs.drop o)) (.hptr (ν d).1 0 o)) (hz : ∀ id, Z id → Z' id)
 (hm : ∀ e ob', aj m' e = some ob' → e ≠ d ∧ ∃ ob, aj m e = some ob ∧ sameShape ob ob') (r : cz ν m H Z sv y) : cz ν m' H Z' (sv.vI d xs) y := by
 have hz' : ∀ id, Z id → Z' id ∧ an H id = an H id := fun id h => ⟨hz id h, rfl⟩
 have hn : ∀ e ob', aj m' e = some ob' → ∃ ob, aj m e = some ob ∧ ν e = ν e ∧ sameShape ob ob' := fun e ob' h => by obtain ⟨_, ob, h1, h2⟩ := hm e ob' h; exact ⟨ob, h1, rfl, h2⟩
 induction r with
 | v x y h => exact .v x y (h.mono hz')
 | own e y h => exact (cz.own e y h).mono hz' fun e _ => hn e
 | ptr e o y h =>
  simp only [SV.vI]
  split
  ·rename_i he
   subst he
   obtain ⟨_, e1, rfl⟩ := h _ h0
   split
   ·rename_i ho; exact .v _ _ (hf o ho)
   ·exact (cz.ptr e o _ h).mono hz' fun e _ => hn e
  ·exact (cz.ptr e o y h).mono hz' fun e _ => hn e
 | el e i o y h => exact (cz.el e i o y h).mono hz' fun e _ => hn e
 | mp e y h => exact (cz.mp e y h).mono hz' fun e _ => hn e
 | clo f a b a' b' ha hb hva hvb iha ihb =>
  refine .clo f _ _ a' b' (by rw [kP]; exact ha) (by rw [kP]; exact hb) (fun j u v hu hv => ?_) (fun j u v hu hv => ?_)
  ·rw [oB, Option.map_eq_some_iff] at hu; obtain ⟨u', hu', rfl⟩ := hu; exact iha j u' v hu' hv
  ·rw [oB, Option.map_eq_some_iff] at hu; obtain ⟨u', hu', rfl⟩ := hu; exact ihb j u' v hu' hv
 | tup a a' ha hva iha =>
  refine .tup _ a' (by rw [kP]; exact ha) (fun j u v hu hv => ?_)
  rw [oB, Option.map_eq_some_iff] at hu; obtain ⟨u', hu', rfl⟩ := hu; exact iha j u' v hu' hv
 | yl id => exact .yl id
theorem d_.sI {d : Nat} {ob : aE} {f : List SV → List SV} (hz : ∀ id, Z id → Z' id) (hl : ∀ l, (f l).length = l.length)
 (hf : ∀ cs cs', aU ν m H Z cs cs' → aU ν m' H Z' (f cs) cs') (o : d_ ν m H Z d ob) : d_ ν m' H Z' d (sI f ob) := by
 have hz' : ∀ id, Z id → Z' id ∧ an H id = an H id := fun id h => ⟨hz id h, rfl⟩
 cases ob with
 | sl k es xs =>
  simp only [Go.VE.sI, d_] at o ⊢
  split
  ·rename_i hk
   rw [if_pos hk] at o
   obtain ⟨ys, h1, h2, h3, h4, h5⟩ := o
   exact ⟨ys, h1, h2, h3.mono hz', h4.mono hz', h5⟩
  ·rename_i hk; rw [if_neg hk] at o; exact o
 | box cs =>
  obtain ⟨es, cs', h1, h2, h3⟩ := o
  exact ⟨es, cs', h1, hf cs cs' h2, h3⟩
 | mp kvs =>
  obtain ⟨kvs', h1, h2⟩ := o
  exact ⟨kvs', h1, h2.mono hz'⟩
theorem ru {f : List SV → List SV} {ob : aE} : b7 (sI f ob) = b7 ob := by cases ob <;> rfl
theorem w7 {f : List SV → List SV} {ob : aE} : sameShape ob (sI f ob) := by cases ob <;> simp [sI, sameShape]
theorem R.dA (r : R ν Z st F H) {d : Nat} {ob : aE} (h0 : aj st.m d = some ob) {fs : SV → SV} {fl : List SV → List SV} (hl : ∀ l, (fl l).length = l.length) (hg : ∀ l (j : Nat), (fl l)[j]? = (l[j]?).map fs)
 (hz' : ∀ id, Z' id ↔ Z id ∨ (b7 ob = true ∧ id = (ν d).1)) (hrow : b7 ob = true → ∃ es ys, H[(ν d).1]? = some (.row es ys) ∧ sL H Z ys)
 (hf : ∀ m', (∀ e ob', aj m' e = some ob' → e ≠ d ∧ ∃ ob, aj st.m e = some ob ∧ sameShape ob ob') → ∀ sv y, cz ν st.m H Z sv y → cz ν m' H Z' (fs sv) y) :
 R ν Z' { st with g := vR fs st.g, m := mapM fl (f_ d st.m) } F H ∧ Ev Rv ν Z st H ν Z' { st with g := vR fs st.g, m := mapM fl (f_ d st.m) } H := by
 have key : ∀ e ob', aj (mapM fl (f_ d st.m)) e = some ob' → e ≠ d ∧ ∃ ob, aj st.m e = some ob ∧ ob' = sI fl ob := fun e ob' h => by
  rw [zG, Option.map_eq_some_iff] at h
  obtain ⟨o, h1, rfl⟩ := h
  obtain ⟨h2, h3⟩ := oK h1
  exact ⟨Ne.symm h2, o, h3, rfl⟩
 have key' : ∀ e ob', aj (mapM fl (f_ d st.m)) e = some ob' → e ≠ d ∧ ∃ ob, aj st.m e = some ob ∧ sameShape ob ob' := fun e ob' h => by
  obtain ⟨h1, o, h2, rfl⟩ := key e ob' h; exact ⟨h1, o, h2, w7⟩
 have hF := hf _ key'
 have hFL : ∀ cs cs', aU ν st.m H Z cs cs' → aU ν (mapM fl (f_ d st.m)) H Z' (fl cs) cs' := fun cs cs' h => by
  refine ⟨by rw [hl]; exact h.1, fun j u v hu hv => ?_⟩
  rw [hg, Option.map_eq_some_iff] at hu
  obtain ⟨u', hu', rfl⟩ := hu
  exact hF u' v (h.2 j u' v hu' hv)
 have hzz : ∀ id, Z id → Z' id := fun id h => (hz' id).2 (.inl h)
 refine ⟨⟨fun s sv hs => ?_, fun e ob' he => ?_, fun d1 d2 o1 o2 h1 h2 b1 b2 hp => ?_, fun d1 o1 h1 b1 => ?_, fun id h => ?_, ⟨fun id es ys hz hr c hc u hu => ?_⟩⟩, ⟨Nat.le_refl _, fun _ _ _ _ _ => rfl, fun id h => ⟨hzz id h, rfl⟩, ?_, ?_, ?_, rfl⟩⟩
 ·rw [zE, Option.map_eq_some_iff] at hs
  obtain ⟨sv', hs', rfl⟩ := hs
  exact hF sv' _ (r.slot s sv' hs')
 ·obtain ⟨h1, o, h2, rfl⟩ := key e ob' he
  exact d_.sI hzz hl hFL (r.obj e o h2)
 ·obtain ⟨_, p1, k1, rfl⟩ := key d1 o1 h1
  obtain ⟨_, p2, k2, rfl⟩ := key d2 o2 h2
  rw [ru] at b1 b2
  exact r.inj d1 d2 p1 p2 k1 k2 b1 b2 hp
 ·obtain ⟨hne, p1, k1, rfl⟩ := key d1 o1 h1
  rw [ru] at b1
  intro hz
  rcases (hz' _).1 hz with hz | ⟨hb, he⟩
  ·exact r.apart d1 p1 k1 b1 hz
  ·exact hne (r.inj d1 d p1 ob k1 h0 b1 hb he)
 ·rcases (hz' id).1 h with h | ⟨hb, rfl⟩
  ·exact r.zrow id h
  ·obtain ⟨es, ys, hr, _⟩ := hrow hb
   unfold an; rw [hr]; rfl
 ·rcases (hz' id).1 hz with h | ⟨hb, rfl⟩
  ·obtain ⟨x, hx⟩ := r.deep.row id es ys h hr c hc u hu
   exact ⟨x, hx.mono fun k hk => ⟨hzz k hk, rfl⟩⟩
  ·obtain ⟨es', ys', hr', hs⟩ := hrow hb
   unfold an at hr; rw [hr'] at hr
   simp only [Option.bind_some, Ob.rows, Option.some.injEq, Prod.mk.injEq] at hr
   obtain ⟨_, rfl⟩ := hr
   obtain ⟨x, hx⟩ := hs c hc u hu
   exact ⟨x, hx.mono fun k hk => ⟨hzz k hk, rfl⟩⟩
 ·rintro id ⟨e, o, h1, h2, h3⟩
  obtain ⟨_, p, k1, rfl⟩ := key e o h1
  rw [ru] at h2
  exact .inl ⟨e, p, k1, h2, h3⟩
 ·intro id h
  rcases (hz' id).1 h with h | ⟨hb, rfl⟩
  ·exact .inl h
  ·exact .inr (.inl ⟨d, ob, h0, hb, rfl⟩)
 ·intro e _ ob' h
  obtain ⟨_, o, k1, rfl⟩ := key e ob' h
  exact ⟨o, k1, rfl, w7⟩
theorem A4 (r : R ν Z st F H) {d : Nat} (h : tI d st = some st') : ∃ Z', R ν Z' st' F H ∧ Ev Rv ν Z st H ν Z' st' H := by
 simp only [tI] at h
 split at h
 ·rename_i k es xs hob
  simp only [Option.some.injEq] at h; subst h
  have o := r.obj d _ hob
  refine ⟨fun id => Z id ∨ (b7 (.sl k es xs) = true ∧ id = (ν d).1), R.dA r hob (fun _ => lS) (fun _ _ => p_) (fun _ => Iff.rfl) (fun hb => ?_) (fun m' hm' sv y hr => ?_)⟩
  ·have hk : bP k = true := hb
   simp only [d_, hk, if_true] at o
   obtain ⟨ys, hr, _, _, hs, _⟩ := o
   exact ⟨es, ys, hr, hs⟩
  ·refine cz.sub hob ?_ (fun id h => .inl h) hm' hr
   by_cases hk : bP k = true
   ·simp only [d_, hk, if_true] at o
    obtain ⟨ys, hr, hl, hf, hs, _⟩ := o
    rw [nH hk]
    have e : kz k es xs = .fsl es xs := by cases k <;> simp [bP] at hk <;> rfl
    rw [e]
    refine FR.CW (.inr ⟨hk, rfl⟩) (by unfold an; rw [hr]; rfl) hl (hf.mono fun id h => ⟨.inl h, rfl⟩)
   ·cases k <;> simp [bP] at hk
    ·exact .same _ rfl
    ·exact .same _ rfl
 ·simp at h
theorem DM (r : R ν Z st F H) {d : Nat} (h : ghost (.closeB d) st = some st') : ∃ Z', R ν Z' st' F H ∧ Ev Rv ν Z st H ν Z' st' H := by
 simp only [ghost] at h
 split at h
 ·rename_i cs hob
  split at h
  ·rename_i xs hx
   simp only [Option.some.injEq] at h; subst h
   obtain ⟨es, cs', hr, hc, _⟩ := r.obj d _ hob
   have hf := hc.d6 hx
   have hs : sL H Z [cs'] := by
    intro c hcm u hu
    simp only [List.mem_singleton] at hcm; subst hcm
    obtain ⟨j, hj⟩ := List.mem_iff_getElem?.1 hu
    have hl : j < xs.length := by rw [hf.1]; exact (List.getElem?_eq_some_iff.1 hj).1
    exact ⟨_, hf.2 j _ u (List.getElem?_eq_getElem hl) hj⟩
   refine ⟨fun id => Z id ∨ (b7 (.box cs) = true ∧ id = (ν d).1), R.dA r hob (fun _ => kP) (fun _ _ => oB) (fun _ => Iff.rfl) (fun hb => ⟨es, _, hr, hs⟩) (fun m' hm' sv y hr' => ?_)⟩
   refine cz.vI hob (fun o ho => ?_) (fun id h => .inl h) hm' hr'
   exact FR.xp (.inr ⟨rfl, rfl⟩) (show an H (ν d).1 = some (es, [cs']) by unfold an; rw [hr]; rfl) rfl (by rw [← hf.1]; exact ho) ((hf.drop o).mono fun id h => ⟨.inl h, rfl⟩)
  ·simp at h
 ·simp at h
theorem ql {d e : Nat} : ∀ {l : List SV} {j : Nat}, (SV.qt d e l)[j]? = (l[j]?).map (SV.oQ d e)
 | [], j => by simp [SV.qt]
 | x :: r, 0 => by simp [SV.qt]
 | x :: r, j + 1 => by simp [SV.qt, ql (l := r)]
theorem lT {d e : Nat} : ∀ {l : List SV}, (SV.qt d e l).length = l.length
 | [] => rfl
 | x :: r => by simp [SV.qt, lT (l := r)]
theorem y9 {d e : Nat} : ∀ {g : Tb SV} {s : Nat}, aj (we d e g) s = (aj g s).map (SV.oQ d e)
 | [], s => rfl
 | (k, x) :: r, s => by
  simp only [we, aj]
  split
  ·rfl
  ·exact y9
theorem t7 {d e : Nat} (hne : d ≠ e) : ∀ {m : Tb aE} {k : Nat}, aj m e = none → aj (pZ d e m) k = (if k = d then none else (aj m (if k = e then d else k)).map (aE.oQ d e))
 | [], k, _ => by simp [pZ, aj]
 | (n, x) :: r, k, h => by
  simp only [aj] at h
  split at h
  ·simp at h
  ·rename_i hn
   have ih := t7 hne (m := r) (k := k) h
   simp only [pZ, aj]
   by_cases h1 : k = d
   ·subst h1
    rw [if_pos rfl] at ih ⊢
    by_cases h2 : n = k
    ·rw [if_pos h2, if_neg (Ne.symm hne)]; exact ih
    ·rw [if_neg h2, if_neg h2]; exact ih
   ·rw [if_neg h1] at ih ⊢
    by_cases h2 : k = e
    ·subst h2
     rw [if_pos rfl] at ih ⊢
     by_cases h3 : n = d
     ·rw [if_pos h3, if_pos rfl, if_pos h3]; rfl
     ·rw [if_neg h3, if_neg hn, if_neg h3]; exact ih
    ·rw [if_neg h2] at ih ⊢
     by_cases h3 : n = d
     ·rw [if_pos h3, if_neg (Ne.symm h2), if_neg (by rw [h3]; exact Ne.symm h1)]; exact ih
     ·rw [if_neg h3]
      by_cases h4 : n = k
      ·rw [if_pos h4, if_pos h4]; rfl
      ·rw [if_neg h4, if_neg h4]; exact ih
def pz (ν : Nu) (d e : Nat) : Nu := fun k => if k = e then ν d else ν k
theorem cz.oQ {sv : SV} {y : V} {d e : Nat} (hn : aj m e = none) (hs : sv.bT e = false) (hne : d ≠ e) (r : cz ν m H Z sv y) : cz (pz ν d e) (pZ d e m) H Z (sv.oQ d e) y := by
 have key : ∀ k, k ≠ e → ∀ ob', aj (pZ d e m) (if k = d then e else k) = some ob' → ∃ ob, aj m k = some ob ∧ pz ν d e (if k = d then e else k) = ν k ∧ ob' = ob.oQ d e := fun k hk ob' h => by
  rw [t7 hne hn] at h
  by_cases h1 : k = d
  ·subst h1
   rw [if_pos rfl, if_neg (Ne.symm hne), if_pos rfl, Option.map_eq_some_iff] at h
   obtain ⟨ob, h2, rfl⟩ := h
   exact ⟨ob, h2, by rw [if_pos rfl]; unfold pz; rw [if_pos rfl], rfl⟩
  ·rw [if_neg h1, if_neg h1, if_neg hk, Option.map_eq_some_iff] at h
   obtain ⟨ob, h2, rfl⟩ := h
   exact ⟨ob, h2, by rw [if_neg h1]; unfold pz; rw [if_neg hk], rfl⟩
 induction r with
 | v x y h => exact .v x y h
 | own k y h =>
  have hk : k ≠ e := by rintro rfl; simp [SV.bT] at hs
  refine .own _ y fun ob' ho => ?_
  obtain ⟨ob, h1, h2, rfl⟩ := key k hk ob' ho
  obtain ⟨_, _, _, rfl, rfl⟩ := h ob h1
  exact ⟨_, _, _, rfl, by rw [h2]⟩
 | ptr k o y h =>
  have hk : k ≠ e := by rintro rfl; simp [SV.bT] at hs
  refine .ptr _ o y fun ob' ho => ?_
  obtain ⟨ob, h1, h2, rfl⟩ := key k hk ob' ho
  obtain ⟨_, rfl, rfl⟩ := h ob h1
  exact ⟨_, rfl, by rw [h2]⟩
 | el k i o y h =>
  have hk : k ≠ e := by rintro rfl; simp [SV.bT] at hs
  refine .el _ i o y fun ob' ho => ?_
  obtain ⟨ob, h1, h2, rfl⟩ := key k hk ob' ho
  obtain ⟨_, _, _, rfl, h3, rfl⟩ := h ob h1
  exact ⟨_, _, _, rfl, h3, by rw [h2]⟩
 | mp k y h =>
  have hk : k ≠ e := by rintro rfl; simp [SV.bT] at hs
  refine .mp _ y fun ob' ho => ?_
  obtain ⟨ob, h1, h2, rfl⟩ := key k hk ob' ho
  obtain ⟨_, rfl, rfl⟩ := h ob h1
  exact ⟨_, rfl, by rw [h2]⟩
 | clo f a b a' b' ha hb hva hvb iha ihb =>
  simp only [SV.bT, Bool.or_eq_false_iff] at hs
  refine .clo f _ _ a' b' (by rw [lT]; exact ha) (by rw [lT]; exact hb) (fun j u v hu hv => ?_) (fun j u v hu hv => ?_)
  ·rw [ql, Option.map_eq_some_iff] at hu; obtain ⟨u', hu', rfl⟩ := hu; exact iha j u' v hu' hv (qq hs.1 hu')
  ·rw [ql, Option.map_eq_some_iff] at hu; obtain ⟨u', hu', rfl⟩ := hu; exact ihb j u' v hu' hv (qq hs.2 hu')
 | tup a a' ha hva iha =>
  simp only [SV.bT] at hs
  refine .tup _ a' (by rw [lT]; exact ha) (fun j u v hu hv => ?_)
  rw [ql, Option.map_eq_some_iff] at hu; obtain ⟨u', hu', rfl⟩ := hu; exact iha j u' v hu' hv (qq hs hu')
 | yl id => exact .yl id
theorem DT (r : R ν Z st F H) {d e : Nat} (hne : d ≠ e) (hn : st.new e = true) : R (pz ν d e) Z { st with g := we d e st.g, m := pZ d e st.m } F H ∧ Ev Rv ν Z st H (pz ν d e) Z { st with g := we d e st.g, m := pZ d e st.m } H := by
 obtain ⟨n1, n2, n3, n4⟩ := mq hn
 have key : ∀ k ob', aj (pZ d e st.m) k = some ob' → ∃ k0 ob, aj st.m k0 = some ob ∧ ob' = ob.oQ d e ∧ pz ν d e k = ν k0 ∧ k ≠ d ∧ (k = e ∧ k0 = d ∨ k ≠ e ∧ k0 = k) := fun k ob' h => by
  rw [t7 hne n2] at h
  split at h
  ·simp at h
  ·rename_i h1
   rw [Option.map_eq_some_iff] at h
   obtain ⟨ob, h2, rfl⟩ := h
   by_cases h3 : k = e
   ·rw [if_pos h3] at h2
    exact ⟨d, ob, h2, rfl, by unfold pz; rw [if_pos h3], h1, .inl ⟨h3, rfl⟩⟩
   ·rw [if_neg h3] at h2
    exact ⟨k, ob, h2, rfl, by unfold pz; rw [if_neg h3], h1, .inr ⟨h3, rfl⟩⟩
 have bk : ∀ ob : aE, b7 (ob.oQ d e) = b7 ob := fun ob => by cases ob <;> rfl
 refine ⟨⟨fun s sv hs => ?_, fun k ob' hk => ?_, fun d1 d2 o1 o2 h1 h2 b1 b2 hp => ?_, fun d1 o1 h1 b1 => ?_, r.zrow, r.deep⟩, ⟨Nat.le_refl _, fun _ _ _ _ _ => rfl, fun id h => ⟨h, rfl⟩, ?_, fun _ h => .inl h, ?_, rfl⟩⟩
 ·simp only at hs
  rw [y9, Option.map_eq_some_iff] at hs
  obtain ⟨sv', hs', rfl⟩ := hs
  exact cz.oQ n2 (sj n3 hs') hne (r.slot s sv' hs')
 ·obtain ⟨k0, ob, h1, rfl, h2, _, _⟩ := key k ob' hk
  have o := r.obj k0 ob h1
  cases ob with
  | sl fl es xs => simp only [aE.oQ, d_, h2] at o ⊢; exact o
  | box cs =>
   obtain ⟨es, cs', g1, g2, g3⟩ := o
   have hns : SV.cx e cs = false := by have := rY n4 h1; simpa [aE.bT] using this
   refine ⟨es, cs', by rw [h2]; exact g1, ⟨by rw [lT]; exact g2.1, fun j u v hu hv => ?_⟩, g3⟩
   rw [ql, Option.map_eq_some_iff] at hu
   obtain ⟨u', hu', rfl⟩ := hu
   exact cz.oQ n2 (qq hns hu') hne (g2.2 j u' v hu' hv)
  | mp kvs => simp only [aE.oQ, d_, h2] at o ⊢; exact o
 ·obtain ⟨k1, p1, g1, rfl, e1, c1, c2⟩ := key d1 o1 h1
  obtain ⟨k2, p2, g2, rfl, e2, c3, c4⟩ := key d2 o2 h2
  rw [bk] at b1 b2
  have := r.inj k1 k2 p1 p2 g1 g2 b1 b2 (by rw [← e1, ← e2]; exact hp)
  omega
 ·obtain ⟨k1, p1, g1, rfl, e1, _⟩ := key d1 o1 h1
  rw [bk] at b1
  rw [e1]; exact r.apart k1 p1 g1 b1
 ·rintro id ⟨k, o, h1, h2, h3⟩
  obtain ⟨k1, p1, g1, rfl, e1, _⟩ := key k o h1
  rw [bk] at h2
  exact .inl ⟨k1, p1, g1, h2, by rw [← e1]; exact h3⟩
 ·intro k hk ob' h
  obtain ⟨k1, p1, g1, rfl, e1, c1, c2⟩ := key k ob' h
  rcases c2 with ⟨rfl, _⟩ | ⟨c2, rfl⟩
  ·exact absurd hk n1
  ·exact ⟨p1, g1, e1, by cases p1 <;> simp [aE.oQ, sameShape]⟩
theorem R.Ux (r : R ν Z st F H) {n : Nat} {sv : SV} (h : cz ν st.m H Z sv (get F n)) : R ν Z { st with g := aW st.g n sv } F H where
 slot := fun s x hs => by
  by_cases e : n = s
  ·subst e; rw [bQ] at hs; cases hs; exact h
  ·rw [c9 st.g sv e] at hs; exact r.slot s x hs
 obj := r.obj
 inj := r.inj
 apart := r.apart
 zrow := r.zrow
 deep := r.deep
theorem Fa (r : R ν Z st F H) {n d es : Nat} {k : Fl} {x : V} (hk : kz k es [] = x ∧ bP k = false) (hs : aj st.g n = some (.v x)) (hn : st.new d = true) (hx : ∀ y, FR H Z x y → y = x) (hxx : sW (ν d) k es 0 = x) :
 R (iN ν d (ν d)) Z { st with g := aW st.g n (.own d), m := aW st.m d (.sl k es []) } F H ∧ Ev Rv ν Z st H (iN ν d (ν d)) Z { st with g := aW st.g n (.own d), m := aW st.m d (.sl k es []) } H := by
 have hnb : b7 (.sl k es []) = true → False := by simp [b7, hk.2]
 have r1 := r.add hn (p := ν d) (ob := .sl k es []) (fun h => (hnb h).elim) (by simp [d_, hk.2])
 refine ⟨r1.Ux (n := n) (sv := .own d) (.own _ _ fun ob' h' => ?_), ?_⟩
 ·simp only at h'
  rw [bQ] at h'; cases h'
  refine ⟨_, _, _, rfl, ?_⟩
  rw [iV, hx _ (r.slot n _ hs).fr]
  exact hxx.symm
 ·exact (Ev.add (H' := H) hn (Nat.le_refl _) (fun _ _ _ => rfl) (fun _ _ => rfl) (fun h => (hnb h).elim)).trans (Ev.LZ _)
theorem DU (r : R ν Z st F H) {b i d es : Nat} {k : Fl} {x : V} {cs : List SV} (hk : bP k = false) (hb : aj st.m b = some (.box cs)) (hi : cs[i]? = some (.v x)) (hn : st.new d = true) (hx : ∀ y, FR H Z x y → y = x) (hxx : sW (ν d) k es 0 = x) :
 ∃ ν', R ν' Z { st with m := aW (aW st.m d (.sl k es [])) b (.box (cs.set i (.own d))) } F H ∧ Ev Rv ν Z st H ν' Z { st with m := aW (aW st.m d (.sl k es [])) b (.box (cs.set i (.own d))) } H := by
 have hnb : b7 (.sl k es []) = true → False := by simp [b7, hk]
 have r1 := r.add hn (p := ν d) (ob := .sl k es []) (fun h => (hnb h).elim) (by simp [d_, hk])
 have hne : b ≠ d := by rintro rfl; rw [(mq hn).2.1] at hb; cases hb
 have hb1 : aj (aW st.m d (.sl k es [])) b = some (.box cs) := by rw [c9 _ _ (Ne.symm hne)]; exact hb
 obtain ⟨es1, cs', h1, h2, h3⟩ := r1.obj b _ hb1
 have sm : ∀ e ob', aj (aW (aW st.m d (.sl k es [])) b (.box (cs.set i (.own d)))) e = some ob' → ∃ ob, aj (aW st.m d (.sl k es [])) e = some ob ∧ iN ν d (ν d) e = iN ν d (ν d) e ∧ sameShape ob ob' := fun e ob' h => by
  by_cases he : e = b
  ·subst he; rw [bQ] at h; cases h; exact ⟨_, hb1, rfl, trivial⟩
  ·rw [c9 _ _ (Ne.symm he)] at h; exact ⟨ob', h, rfl, .refl _⟩
 refine ⟨iN ν d (ν d), r1.fK (H' := H) hb1 (ob' := .box (cs.set i (.own d))) trivial rfl (fun _ _ => rfl) rfl ⟨es1, cs', h1, ⟨by simp [h2.1], fun j u v hu hv => ?_⟩, h3⟩, ?_⟩
 ·rw [List.getElem?_set] at hu
  split at hu
  ·rename_i e; subst e
   split at hu
   ·cases hu
    refine .own _ _ fun ob' h' => ?_
    rw [c9 _ _ hne, bQ] at h'; cases h'
    refine ⟨_, _, _, rfl, ?_⟩
    rw [iV, hx v (h2.2 i _ v hi hv).fr]
    exact hxx.symm
   ·simp at hu
  ·exact (h2.2 j u v hu hv).mono (fun id h => ⟨h, rfl⟩) fun e _ => sm e
 ·exact (Ev.add (H' := H) hn (Nat.le_refl _) (fun _ _ _ => rfl) (fun _ _ => rfl) (fun h => (hnb h).elim)).trans (Ev.fK r1 hb1 trivial rfl (fun _ _ => rfl) rfl (Nat.le_refl _))
theorem Fh (r : R ν Z st F H) {x : Gh} (h : ghost x st = some st') : ∃ ν' Z', R ν' Z' st' F H ∧ Ev Rv ν Z st H ν' Z' st' H := by
 cases x with
 | close d => obtain ⟨Z', a, b⟩ := A4 (Rv := Rv) r h; exact ⟨ν, Z', a, b⟩
 | closeS l =>
  simp only [ghost] at h
  split at h
  ·obtain ⟨Z', a, b⟩ := A4 (Rv := Rv) r h; exact ⟨ν, Z', a, b⟩
  ·simp only [Option.some.injEq] at h; subst h; exact ⟨ν, Z, r, .refl⟩
  ·simp at h
 | closeB d => obtain ⟨Z', a, b⟩ := DM (Rv := Rv) r h; exact ⟨ν, Z', a, b⟩
 | keep gs ms =>
  simp only [ghost] at h
  split at h
  ·rename_i g m hg hm
   simp only [Option.some.injEq] at h; subst h
   exact ⟨ν, Z, r.less (fun s sv hs => pH hg hs) (fun d ob hd => pH hm hd), Ev.less (fun d ob hd => pH hm hd)⟩
  ·simp at h
 | drop ds =>
  simp only [ghost, Option.some.injEq] at h; subst h
  exact ⟨ν, Z, r.less (g := sR ds st.g) (m' := st.m) (fun s sv hs => rX hs) (fun d ob hd => hd), Ev.less (g := sR ds st.g) (m' := st.m) (fun d ob hd => hd)⟩
 | canon l d es =>
  cases l with
  | s n =>
   simp only [ghost] at h
   split at h
   ·rename_i hs
    split at h
    ·rename_i hn
     simp only [Option.some.injEq] at h; subst h
     obtain ⟨a, b⟩ := Fa (Rv := Rv) (es := es) (k := .nil) r ⟨rfl, rfl⟩ hs hn (fun y h => h.au) rfl
     exact ⟨_, _, a, b⟩
    ·simp at h
   ·rename_i hs
    split at h
    ·rename_i hn
     simp only [Option.some.injEq] at h; subst h
     obtain ⟨a, b⟩ := Fa (Rv := Rv) (es := es) (k := .emp) r ⟨rfl, rfl⟩ hs hn (fun y h => h.dZ) rfl
     exact ⟨_, _, a, b⟩
    ·simp at h
   ·rename_i e hs
    split at h
    ·simp only [Option.some.injEq] at h; subst h; exact ⟨ν, Z, r, .refl⟩
    ·rename_i hne
     split at h
     ·rename_i hn
      simp only [Option.some.injEq] at h; subst h
      obtain ⟨a, b⟩ := DT (Rv := Rv) r hne hn
      exact ⟨_, _, a, b⟩
     ·simp at h
   ·simp at h
  | c b i =>
   simp only [ghost] at h
   split at h
   ·rename_i cs hb
    split at h
    ·rename_i hs
     split at h
     ·rename_i hn
      simp only [Option.some.injEq] at h; subst h
      obtain ⟨ν', a, b⟩ := DU (Rv := Rv) (es := es) (k := .nil) r rfl hb hs hn (fun y h => h.au) rfl
      exact ⟨_, _, a, b⟩
     ·simp at h
    ·rename_i hs
     split at h
     ·rename_i hn
      simp only [Option.some.injEq] at h; subst h
      obtain ⟨ν', a, b⟩ := DU (Rv := Rv) (es := es) (k := .emp) r rfl hb hs hn (fun y h => h.dZ) rfl
      exact ⟨_, _, a, b⟩
     ·simp at h
    ·rename_i e hs
     split at h
     ·simp only [Option.some.injEq] at h; subst h; exact ⟨ν, Z, r, .refl⟩
     ·rename_i hne
      split at h
      ·rename_i hn
       simp only [Option.some.injEq] at h; subst h
       obtain ⟨a, b⟩ := DT (Rv := Rv) r hne hn
       exact ⟨_, _, a, b⟩
      ·simp at h
    ·simp at h
   ·simp at h
end
end Go.VE
