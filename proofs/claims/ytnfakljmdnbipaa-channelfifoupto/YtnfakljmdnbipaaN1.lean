/-
  The second layer, part 1: named objects in the place of rows.
-/
import Derived.Test.YtnfakljmdnbipaaV2
set_option linter.all false
namespace Go.VE
inductive Fl where | nil | emp | row | part
  deriving DecidableEq, Inhabited
inductive SV where
  | v (x : V)
  | own (d : Nat)
  | ptr (d off : Nat)
  | el (d i off : Nat)
  | mp (d : Nat)
  | clo (f : FuncId) (a b : List SV)
  | tup (l : List SV)
  | yl (id : Nat)
  deriving Inhabited
inductive SOb where
  | sl (k : Fl) (es : Nat) (xs : List (List V))
  | box (cs : List SV)
  | mp (kvs : List (V × V))
abbrev Tb (α : Type) := List (Nat × α)
def tget {α : Type} : Tb α → Nat → Option α
  | [], _ => none
  | (k, v) :: r, n => if k = n then some v else tget r n
def tput {α : Type} : Tb α → Nat → α → Tb α
  | [], n, v => [(n, v)]
  | (k, x) :: r, n, v => if k = n then (k, v) :: r else (k, x) :: tput r n v
def tdel {α : Type} (n : Nat) : Tb α → Tb α
  | [] => []
  | (k, x) :: r => if k = n then tdel n r else (k, x) :: tdel n r
def tdels {α : Type} : List Nat → Tb α → Tb α
  | [], g => g
  | d :: ds, g => tdels ds (tdel d g)
def tputs {α : Type} : Tb α → List Nat → List α → Tb α
  | g, p :: ps, v :: vs => tputs (tput g p v) ps vs
  | g, _, _ => g
def tkeep {α : Type} (g : Tb α) : List Nat → Option (Tb α)
  | [] => some []
  | n :: r => match tget g n, tkeep g r with
    | some v, some t => some ((n, v) :: t)
    | _, _ => none
structure St where
  g : Tb SV
  m : Tb SOb
  pin : List Nat
  want : List (List V)
  more : Bool
  yid : Nat
structure Sys where
  E : Env
  N : Nat → FuncId
  items : FuncId → List V → List V → Option (List (List V))
  orc : FuncId → List V → Option V
inductive Arg where
  | s (n : Nat)
  | k (c : V)
  | f (name : Nat)
inductive Loc where
  | s (n : Nat)
  | c (b i : Nat)
inductive Gh where
  | close (d : Nat)
  | closeB (d : Nat)
  | canon (l : Loc) (d : Nat) (es : Nat)
  | keep (gs ms : List Nat)
  | drop (ds : List Nat)
  | closeS (l : Loc)
structure RO where
  dst : Option Nat
  gd : Option (Nat × Bool)
  now : Bool
  k : K
  as : List Arg
  dead : List Nat := []
  pre : List Gh := []
inductive RC where
  | skip
  | ops (l : List RO)
  | reg (l : List RO)
  | seq (a b : RC)
  | cond (x : Arg) (a b : RC)
  | block (id : Nat) (c : RC)
  | loop (c : RC)
  | each (g : Arg) (ps : List Nat) (a b : RC)
  | exit (id : Nat)
  | ret
  | gh (x : Gh) (c : RC)
  | hg (c : RC) (x : Gh)
inductive RV where
  | s (n : Nat)
  | ld (n size : Nat) (agg : Bool)
structure RF where
  na : Nat
  rs : List RV
  body : RC
mutual
def SV.says (d : Nat) : SV → Bool
  | .v _ => false
  | .own e => e == d
  | .ptr e _ => e == d
  | .el e _ _ => e == d
  | .mp e => e == d
  | .clo _ a b => SV.saysL d a || SV.saysL d b
  | .tup l => SV.saysL d l
  | .yl _ => false
def SV.saysL (d : Nat) : List SV → Bool
  | [] => false
  | x :: r => SV.says d x || SV.saysL d r
end
def SOb.says (d : Nat) : SOb → Bool
  | .box cs => SV.saysL d cs
  | _ => false
def saysG (d : Nat) : Tb SV → Bool
  | [] => false
  | (_, x) :: r => SV.says d x || saysG d r
def saysM (d : Nat) : Tb SOb → Bool
  | [] => false
  | (_, x) :: r => SOb.says d x || saysM d r
def St.new (st : St) (d : Nat) : Bool := !(st.pin.contains d) && (tget st.m d).isNone && !(saysG d st.g) && !(saysM d st.m)
mutual
def SV.ren (d e : Nat) : SV → SV
  | .v x => .v x
  | .own k => .own (if k = d then e else k)
  | .ptr k o => .ptr (if k = d then e else k) o
  | .el k i o => .el (if k = d then e else k) i o
  | .mp k => .mp (if k = d then e else k)
  | .clo f a b => .clo f (SV.renL d e a) (SV.renL d e b)
  | .tup l => .tup (SV.renL d e l)
  | .yl id => .yl id
def SV.renL (d e : Nat) : List SV → List SV
  | [] => []
  | x :: r => SV.ren d e x :: SV.renL d e r
end
def SOb.ren (d e : Nat) : SOb → SOb
  | .box cs => .box (SV.renL d e cs)
  | o => o
def renG (d e : Nat) : Tb SV → Tb SV
  | [] => []
  | (n, x) :: r => (n, x.ren d e) :: renG d e r
def renM (d e : Nat) : Tb SOb → Tb SOb
  | [] => []
  | (n, x) :: r => ((if n = d then e else n), x.ren d e) :: renM d e r
mutual
def SV.sub (d : Nat) (w : V) : SV → SV
  | .own k => if k = d then .v w else .own k
  | .clo f a b => .clo f (SV.subL d w a) (SV.subL d w b)
  | .tup l => .tup (SV.subL d w l)
  | x => x
def SV.subL (d : Nat) (w : V) : List SV → List SV
  | [] => []
  | x :: r => SV.sub d w x :: SV.subL d w r
end
mutual
def SV.subB (d : Nat) (cs : List V) : SV → SV
  | .ptr k o => if k = d then (if o ≤ cs.length then .v (.fptr (cs.drop o)) else .ptr k o) else .ptr k o
  | .clo f a b => .clo f (SV.subBL d cs a) (SV.subBL d cs b)
  | .tup l => .tup (SV.subBL d cs l)
  | x => x
def SV.subBL (d : Nat) (cs : List V) : List SV → List SV
  | [] => []
  | x :: r => SV.subB d cs x :: SV.subBL d cs r
end
def mapG (f : SV → SV) : Tb SV → Tb SV
  | [] => []
  | (n, x) :: r => (n, f x) :: mapG f r
def mapM (f : List SV → List SV) : Tb SOb → Tb SOb
  | [] => []
  | (n, .box cs) :: r => (n, .box (f cs)) :: mapM f r
  | (n, o) :: r => (n, o) :: mapM f r
mutual
def SV.names : SV → List Nat
  | .own d | .ptr d _ | .el d _ _ | .mp d => [d]
  | .clo _ a b => SV.namesL a ++ SV.namesL b
  | .tup l => SV.namesL l
  | _ => []
def SV.namesL : List SV → List Nat
  | [] => []
  | x :: r => SV.names x ++ SV.namesL r
end
def namesG : Tb SV → List Nat
  | [] => []
  | (_, x) :: r => SV.names x ++ namesG r
def allV : List SV → Option (List V)
  | [] => some []
  | .v x :: r => (allV r).map (x :: ·)
  | _ :: _ => none
def slV (k : Fl) (es : Nat) (xs : List (List V)) : V :=
  match k with
  | .nil => .nsl
  | .emp => .esl
  | _ => .fsl es xs
mutual
def V.lvl : Nat → V → Bool
  | n, .fsl _ xs => match n with | 0 => false | n + 1 => V.lvlLL n xs
  | n, .fptr cs => match n with | 0 => false | n + 1 => V.lvlL n cs
  | n, .fmap kvs => match n with | 0 => false | n + 1 => V.lvlM n kvs
  | n, .agg cs => match n with | 0 => false | n + 1 => V.lvlL n cs
  | n, .tup cs => match n with | 0 => false | n + 1 => V.lvlL n cs
  | n, .clo _ a b => match n with | 0 => false | n + 1 => V.lvlL n a && V.lvlL n b
  | _, _ => true
def V.lvlL : Nat → List V → Bool
  | _, [] => true
  | n, x :: r => V.lvl n x && V.lvlL n r
def V.lvlLL : Nat → List (List V) → Bool
  | _, [] => true
  | n, x :: r => V.lvlL n x && V.lvlLL n r
def V.lvlM : Nat → List (V × V) → Bool
  | _, [] => true
  | n, (k, x) :: r => V.lvl n k && V.lvl n x && V.lvlM n r
end
mutual
def shut (m : Tb SOb) : Nat → SV → Option V
  | _, .v x => some x
  | _, .own d => match tget m d with
    | some (.sl k es xs) => some (slV k es xs)
    | _ => none
  | n + 1, .ptr d o => match tget m d with
    | some (.box cs) => match shutL m n cs with
      | some xs => if o ≤ xs.length then some (.fptr (xs.drop o)) else none
      | none => none
    | _ => none
  | _, .mp d => match tget m d with
    | some (.mp kvs) => some (.fmap kvs)
    | _ => none
  | n + 1, .clo f a b => match shutL m n a, shutL m n b with
    | some x, some y => some (.clo f x y)
    | _, _ => none
  | n + 1, .tup l => (shutL m n l).map .tup
  | _, _ => none
def shutL (m : Tb SOb) : Nat → List SV → Option (List V)
  | _, [] => some []
  | n, x :: r => match shut m n x, shutL m n r with
    | some y, some s => some (y :: s)
    | _, _ => none
end
end Go.VE
namespace Go.VE
mutual
def V.good : V → Bool
  | .hsl .. | .hptr .. | .yld .. | .hmap .. => false
  | .fsl _ xs => V.goodLL xs
  | .fptr cs => V.goodL cs
  | .fmap kvs => V.goodM kvs
  | .clo _ a b => V.goodL a && V.goodL b
  | .agg cs => V.goodL cs
  | .tup cs => V.goodL cs
  | _ => true
def V.goodL : List V → Bool
  | [] => true
  | x :: r => V.good x && V.goodL r
def V.goodLL : List (List V) → Bool
  | [] => true
  | x :: r => V.goodL x && V.goodLL r
def V.goodM : List (V × V) → Bool
  | [] => true
  | (k, x) :: r => V.good k && V.good x && V.goodM r
end
abbrev Objs := Tb SOb
abbrev CallS := FuncId → List SV → Objs → Option (List SV × Objs)
def sarg (N : Nat → FuncId) (g : Tb SV) : Arg → Option SV
  | .s n => tget g n
  | .k c => some (.v c)
  | .f s => some (.v (.clo (N s) [] []))
def sargs (N : Nat → FuncId) (g : Tb SV) : List Arg → Option (List SV)
  | [] => some []
  | x :: r => match sarg N g x, sargs N g r with
    | some v, some vs => some (v :: vs)
    | _, _ => none
def rowLike : Fl → Bool
  | .row | .part => true
  | _ => false
def pureR (N : Nat → FuncId) (m : Tb SOb) : POp → List SV → Option SV
  | .id, [x] => some x
  | .nilc, [.ptr d o] => if (tget m d).isSome then some (.ptr d o) else none
  | .nilc, [.el d i o] => if (tget m d).isSome then some (.el d i o) else none
  | .pick, [.v (.bool t), a, b] => some (if t then a else b)
  | .bin (some .slice) _ .eql, [.own d, .v .nsl] => match tget m d with
    | some (.sl k _ _) => if k = .emp then none else some (.v (.bool (k == .nil)))
    | _ => none
  | .bin (some .slice) _ .neq, [.own d, .v .nsl] => match tget m d with
    | some (.sl k _ _) => if k = .emp then none else some (.v (.bool (!(k == .nil))))
    | _ => none
  | .fieldAddr off, [.ptr d o] => if (tget m d).isSome then some (.ptr d (o + off)) else none
  | .fieldAddr off, [.el d i o] => if (tget m d).isSome then some (.el d i (o + off)) else none
  | .idxS size, [.own d, .v (.int _ i)] => match tget m d with
    | some (.sl k es xs) => if rowLike k ∧ es = size ∧ 0 ≤ i ∧ i.toNat < xs.length then some (.el d i.toNat 0) else none
    | _ => none
  | .idxA len size, [.ptr d o, .v (.int _ i)] => if 0 ≤ i ∧ i < len ∧ (tget m d).isSome then some (.ptr d (o + i.toNat * size)) else none
  | .idxA len size, [.el d j o, .v (.int _ i)] => if 0 ≤ i ∧ i < len ∧ (tget m d).isSome then some (.el d j (o + i.toNat * size)) else none
  | .lenSl, [.own d] => match tget m d with
    | some (.sl _ _ xs) => some (.v (.int .i64 xs.length))
    | _ => none
  | .clo name k, vs => some (.clo (N name) (vs.take k) (vs.drop k))
  | .ext i, [.tup l] => l[i]?
  | _, _ => none
def pureS (N : Nat → FuncId) (m : Tb SOb) (p : POp) (svs : List SV) : Option SV :=
  match allV svs with
  | some xs => (peval N p xs).map .v
  | none => pureR N m p svs
def loadC (size : Nat) (agg : Bool) (cs : List SV) : Option SV :=
  if cs.length = size then
    if agg then (allV cs).map fun xs => .v (.agg xs)
    else match cs with
      | [x] => some x
      | _ => none
  else none
def readS (m : Tb SOb) : ROp → List SV → Option SV
  | .load size agg, [.ptr d o] => match tget m d with
    | some (.box cs) => loadC size agg ((cs.drop o).take size)
    | _ => none
  | .load size agg, [.el d i o] => match tget m d with
    | some (.sl _ _ xs) => match xs[i]? with
      | some cs => ((cut cs o size).bind (mk agg)).map .v
      | none => none
    | _ => none
  | .load size agg, [.v p] => ((cellsAt [] p size).bind (mk agg)).map .v
  | .lookup kk z ok, [.mp d, .v k] => match tget m d with
    | some (.mp kvs) => if keyOkT kk k then match findV k kvs 0 with
        | some (some (_, v)) => some (.v (if ok then .tup [v, .bool true] else v))
        | some none => some (.v (if ok then .tup [z, .bool false] else z))
        | none => none
      else none
    | _ => none
  | .lookup kk z ok, [.v p, .v k] => (reval [] (.lookup kk z ok) [p, k]).map .v
  | _, _ => none
def oldRead (fr : List Nat) : List SV → Bool
  | [] => true
  | .v _ :: r => oldRead fr r
  | .ptr d _ :: r => !(fr.contains d) && oldRead fr r
  | .el d _ _ :: r => !(fr.contains d) && oldRead fr r
  | .mp d :: r => !(fr.contains d) && oldRead fr r
  | _ => false
def liveRef (m : Tb SOb) : SV → Bool
  | .own d | .ptr d _ | .el d _ _ | .mp d => (tget m d).isSome
  | .clo .. => true
  | _ => false
def allocS (m : Tb SOb) (a : AOp) (svs : List SV) (d : Nat) : Option (SOb × SV) :=
  match a, svs with
  | .alloc _ zero, [] => some (.box (zero.map .v), .ptr d 0)
  | .box, [.v x] => if x.cells.all V.one then some (.box (x.cells.map .v), .ptr d 0) else none
  | .box, [x] => if liveRef m x then some (.box [x], .ptr d 0) else none
  | .makeSl size zero, [.v (.int k n), .v (.int k' c)] =>
    if k = .i64 ∧ k' = .i64 ∧ 0 ≤ n ∧ n ≤ c ∧ c ≤ 2147483648 then some (.sl (if n = c then .row else .part) size (List.replicate n.toNat zero), .own d) else none
  | .buildSl size len zero idx, vs => match allV vs with
    | some xs => if idx.length = xs.length then (setParts size (List.replicate len zero) (idx.zip xs)).map fun ys => (.sl .row size ys, .own d) else none
    | none => none
  | .makeMap, [] => some (.mp [], .mp d)
  | _, _ => none
def elemsS (m : Tb SOb) (size : Nat) : SV → Option (List (List V))
  | .own d => match tget m d with
    | some (.sl k es xs) => if rowLike k then (if es = size then some xs else none) else some []
    | _ => none
  | .v .nsl => some []
  | .v .esl => some []
  | .v (.fsl es xs) => if es = size then some xs else none
  | _ => none
def ownS : SV → Bool
  | .own _ | .v .nsl | .v .esl => true
  | _ => false
def putCells (m : Tb SOb) (size o : Nat) (sv : SV) (cs : List SV) : Option (List SV) :=
  match sv with
  | .v x => if x.cells.length = size ∧ o + size ≤ cs.length ∧ x.cells.all V.one = true then some (cs.take o ++ x.cells.map .v ++ cs.drop (o + size)) else none
  | x => if liveRef m x = true ∧ size = 1 ∧ o + 1 ≤ cs.length then some (cs.take o ++ [x] ++ cs.drop (o + 1)) else none
def giveUp (m : Tb SOb) : SV → Tb SOb
  | .own d => tdel d m
  | _ => m
def farB (m : Tb SOb) (d : Nat) : SV → Bool
  | .ptr d' _ => d' != d && (match tget m d' with | some (.box _) => true | _ => false)
  | .v (.fptr _) => true
  | _ => false
def loudS (st : St) (dst : Option Nat) : LOp → List SV → Option (SV × St)
  | .store size, [.ptr d o, x] => match tget st.m d with
    | some (.box cs) => (putCells st.m size o x cs).map fun cs => (.v .undef, { st with m := tput st.m d (.box cs) })
    | _ => none
  | .store size, [.el d i o, .v x] => match tget st.m d with
    | some (.sl k es xs) => match xs[i]? with
      | some cs => if x.cells.length = size ∧ o + size ≤ cs.length ∧ x.cells.all V.one = true then
          some (.v .undef, { st with m := tput st.m d (.sl k es (xs.set i (cs.take o ++ x.cells ++ cs.drop (o + x.cells.length)))) }) else none
      | none => none
    | _ => none
  | .mapUp kk, [.mp d, .v k, .v x] => match tget st.m d with
    | some (.mp kvs) => if keyOkT kk k then (putMap k x kvs).map fun kvs => (.v .undef, { st with m := tput st.m d (.mp kvs) }) else none
    | _ => none
  | .append size, [s, x] => match elemsS st.m size s, elemsS st.m size x with
    | some _, some [] => some (s, st)
    | some xs, some ys =>
      if xs.length + ys.length ≤ 2147483648 ∧ ownS s = true then
        let m1 := giveUp st.m s
        match dst with
        | some t => if St.new { st with m := m1 } t then some (.own t, { st with m := tput m1 t (.sl .row size (xs ++ ys)) }) else none
        | none => none
      else none
    | _, _ => none
  | .storeF size, .ptr d o :: x :: l => if l.all (farB st.m d) = true then match tget st.m d with
    | some (.box cs) => (putCells st.m size o x cs).map fun cs => (.v .undef, { st with m := tput st.m d (.box cs) })
    | _ => none
    else none
  | _, _ => none
def sliceS (st : St) (dst : Option Nat) (size : Nat) (lo hi : Bool) (d : Nat) (bs : List SV) : Option (SV × St) :=
  match tget st.m d, allV bs, dst with
  | some (.sl k es xs), some ys, some t =>
    if rowLike k = true ∧ es = size then
      (bnds lo hi ys).bind fun (l, h) => (boundsV xs.length l h).bind fun (l, h) =>
        let m1 := tdel d st.m
        if St.new { st with m := m1 } t then some (.own t, { st with m := tput m1 t (.sl .part es ((xs.take h).drop l)) }) else none
    else none
  | _, _, _ => none
def isTup : List SV → SV
  | [x] => x
  | l => .tup l
def handed (m : Tb SOb) : List SV → Option Objs
  | [] => some []
  | .v _ :: r => handed m r
  | .own d :: r => match handed m r, tget m d with
    | some os, some (.sl k es xs) => some ((d, .sl k es xs) :: os)
    | _, _ => none
  | .ptr d _ :: r => match handed m r, tget m d with
    | some os, some (.box cs) => if (allV cs).isSome then some ((d, .box cs) :: os) else none
    | _, _ => none
  | _ => none
def plainOb : SOb → Bool
  | .box cs => (allV cs).isSome
  | _ => true
def handBack (m' : Objs) : List Nat → Tb SOb → Option (Tb SOb)
  | [], m => some m
  | d :: r, m => match tget m' d with
    | some ob => if plainOb ob then handBack m' r (tput m d ob) else none
    | none => none
def scalarRows (xs : List (List V)) : Bool := xs.all fun x => x.all V.scalar
def callS (S : Sys) (c : CallS) (dst : Option Nat) (dr now : Bool) (old : List SV → Bool) (f : FuncId) (args : List SV) (st : St) : Option (SV × St) :=
  if S.E.keep f then
    if now then
      if S.E.own f then
        match shutL st.m 8 args with
        | some as => if V.lvlL 8 as then
            match c f (as.map .v) [] with
            | some (rs, m') => match allV rs with
              | some ys => if (result ys).scalar then some (.v (result ys), st) else none
              | none => match rs, dst with
                | .own e :: rest, some t => match tget m' e, allV rest with
                  | some (.sl .row es xs), some ys =>
                    if V.scalarL ys && scalarRows xs && st.new t then
                      some (isTup (.own t :: ys.map .v), { st with m := tput st.m t (.sl .row es xs) })
                    else none
                  | some (.sl .nil _ _), some ys => if V.scalarL ys then some (.v (result (.nsl :: ys)), st) else none
                  | some (.sl .emp _ _), some ys => if V.scalarL ys then some (.v (result (.esl :: ys)), st) else none
                  | _, _ => none
                | _, _ => none
            | none => none
          else none
        | none => none
      else if dr then none else match handed st.m args with
        | some os => match c f args os with
          | some (rs, m') => match allV rs, handBack m' (os.map (·.1)) st.m with
            | some ys, some m2 => some (.v (result ys), { st with m := m2 })
            | _, _ => none
          | none => none
        | none => none
    else none
  else match shutL st.m 8 args with
    | some as => if V.lvlL 8 as && (now || old args) then
        match c f (as.map .v) [] with
        | some (rs, m') => match shutL m' 8 rs with
          | some ys => if V.lvl 8 (result ys) && ((result ys).scalar || (!dr && (allV args).isSome)) then some (.v (result ys), st) else none
          | none => none
        | none => none
      else none
    | none => none
def oldArgs (m : Tb SOb) (fr : List Nat) (args : List SV) : Bool := fr.all fun d => !(SV.saysL d args) && !(saysM d m)
def kGood : K → Bool
  | .p (.build zero _) => V.goodL zero
  | .r (.lookup _ z _) => z.good
  | .a (.alloc _ zero) => V.goodL zero && zero.all V.one
  | .a (.makeSl _ zero) => V.goodL zero
  | .a (.buildSl _ _ zero _) => V.goodL zero
  | _ => true
def doS (S : Sys) (c : CallS) (dr : Bool) (fr : List Nat) (o : RO) (st : St) : Option (SV × St) :=
  match sargs S.N st.g o.as with
  | some svs => match o.k with
    | .p (.slice size lo hi) => match svs with
      | .own d :: bs => if dr then none else sliceS st o.dst size lo hi d bs
      | svs => (pureS S.N st.m (.slice size lo hi) svs).map fun x => (x, st)
    | .p p => (pureS S.N st.m p svs).map fun x => (x, st)
    | .r r => if !dr || o.now || oldRead fr svs then (readS st.m r svs).map fun x => (x, st) else none
    | .a a => match o.dst with
      | some d => if st.new d then (allocS st.m a svs d).map fun (ob, x) => (x, { st with m := tput st.m d ob }) else none
      | none => none
    | .l l => if !dr || o.now then loudS st o.dst l svs else none
    | .c => match svs with
      | .clo f a b :: vs => callS S c o.dst dr (!dr || o.now) (oldArgs st.m fr) f (a ++ vs ++ b) st
      | .v (.clo f a b) :: vs => callS S c o.dst dr (!dr || o.now) (oldArgs st.m fr) f (a.map .v ++ vs ++ b.map .v) st
      | _ => none
  | none => none
def putO (st : St) (dst : Option Nat) (x : SV) : St :=
  match dst with
  | none => st
  | some d => { st with g := tput st.g d x }
def wanted (g : Tb SV) : Option (Nat × Bool) → Option Bool
  | none => some true
  | some (s, b) => match tget g s with
    | some (.v (.bool c)) => some (c == b)
    | some (.v _) => some false
    | _ => none
def newOf (o : RO) : Option Nat :=
  match o.k with
  | .p _ | .r _ => none
  | _ => o.dst
def freshS (fr : List Nat) (o : RO) : List Nat :=
  match newOf o with
  | some d => d :: fr
  | none => fr
end Go.VE
namespace Go.VE
def rowsAt (H : Heap) (id : Nat) : Option (Nat × List (List V)) := (H[id]?).bind Ob.rows
mutual
theorem V.good_closed : ∀ {x : V}, x.good = true → x.closed = true
  | .hsl .., h | .hptr .., h | .yld _, h | .hmap _, h => by simp [V.good] at h
  | .fsl .., _ | .fptr .., _ | .fmap .., _ => rfl
  | .bool _, _ | .int .., _ | .str _, _ | .esl, _ | .nsl, _ | .nptr, _ | .nmap, _ | .nfn, _ => rfl
  | .clo _ a b, h => by
    simp only [V.good, Bool.and_eq_true] at h
    simp only [V.closed, Bool.and_eq_true]
    exact ⟨V.goodL_closed h.1, V.goodL_closed h.2⟩
  | .agg cs, h => by simp only [V.good] at h; simp only [V.closed]; exact V.goodL_closed h
  | .tup cs, h => by simp only [V.good] at h; simp only [V.closed]; exact V.goodL_closed h
theorem V.goodL_closed : ∀ {l : List V}, V.goodL l = true → V.closedL l = true
  | [], _ => rfl
  | x :: r, h => by
    simp only [V.goodL, Bool.and_eq_true] at h
    simp only [V.closedL, Bool.and_eq_true]
    exact ⟨V.good_closed h.1, V.goodL_closed h.2⟩
end
theorem goodL_iff : ∀ {l : List V}, V.goodL l = true ↔ ∀ (j : Nat) u, l[j]? = some u → u.good = true
  | [] => by simp [V.goodL]
  | x :: l => by
    simp only [V.goodL, Bool.and_eq_true, goodL_iff (l := l)]
    constructor
    · rintro ⟨h1, h2⟩ j u hu
      cases j with
      | zero => simp at hu; subst hu; exact h1
      | succ j => exact h2 j u (by simpa using hu)
    · intro h
      exact ⟨h 0 x rfl, fun j u hu => h (j + 1) u (by simpa using hu)⟩
theorem goodLL_iff : ∀ {l : List (List V)}, V.goodLL l = true ↔ ∀ (j : Nat) u, l[j]? = some u → V.goodL u = true
  | [] => by simp [V.goodLL]
  | x :: l => by
    simp only [V.goodLL, Bool.and_eq_true, goodLL_iff (l := l)]
    constructor
    · rintro ⟨h1, h2⟩ j u hu
      cases j with
      | zero => simp at hu; subst hu; exact h1
      | succ j => exact h2 j u (by simpa using hu)
    · intro h
      exact ⟨h 0 x rfl, fun j u hu => h (j + 1) u (by simpa using hu)⟩
theorem goodM_iff : ∀ {l : List (V × V)}, V.goodM l = true ↔ ∀ (j : Nat) u, l[j]? = some u → u.1.good = true ∧ u.2.good = true
  | [] => by simp [V.goodM]
  | (k, x) :: l => by
    simp only [V.goodM, Bool.and_eq_true, goodM_iff (l := l)]
    constructor
    · rintro ⟨h1, h2⟩ j u hu
      cases j with
      | zero => simp at hu; subst hu; exact h1
      | succ j => exact h2 j u (by simpa using hu)
    · intro h
      exact ⟨h 0 (k, x) rfl, fun j u hu => h (j + 1) u (by simpa using hu)⟩
theorem goodL_drop {l : List V} (n : Nat) (h : V.goodL l = true) : V.goodL (l.drop n) = true :=
  goodL_iff.2 fun j u hu => goodL_iff.1 h (n + j) u (by rw [List.getElem?_drop] at hu; exact hu)
inductive FR (H : Heap) (Z : Nat → Prop) : V → V → Prop
  | same (x : V) (h : x.good = true) : FR H Z x x
  | fsl (es : Nat) (xs : List (List V)) (id off : Nat) (ys : List (List V)) (hz : Z id) (hr : rowsAt H id = some (es, ys)) (hl : off + xs.length ≤ ys.length)
      (hc : ∀ (i : Nat) a b, xs[i]? = some a → ys[off + i]? = some b → a.length = b.length)
      (hv : ∀ (i j : Nat) a b u v, xs[i]? = some a → ys[off + i]? = some b → a[j]? = some u → b[j]? = some v → FR H Z u v) : FR H Z (.fsl es xs) (.hsl id es off xs.length)
  | fptr (xs : List V) (id el off es : Nat) (ys : List (List V)) (cs : List V) (hz : Z id) (hr : rowsAt H id = some (es, ys)) (he : ys[el]? = some cs) (ho : off ≤ cs.length) (hx : xs.length = cs.length - off)
      (hv : ∀ (j : Nat) u v, xs[j]? = some u → cs[off + j]? = some v → FR H Z u v) : FR H Z (.fptr xs) (.hptr id el off)
  | clo (f : FuncId) (a b a' b' : List V) (ha : a.length = a'.length) (hb : b.length = b'.length) (hva : ∀ (j : Nat) u v, a[j]? = some u → a'[j]? = some v → FR H Z u v) (hvb : ∀ (j : Nat) u v, b[j]? = some u → b'[j]? = some v → FR H Z u v) : FR H Z (.clo f a b) (.clo f a' b')
  | agg (a a' : List V) (ha : a.length = a'.length) (hva : ∀ (j : Nat) u v, a[j]? = some u → a'[j]? = some v → FR H Z u v) : FR H Z (.agg a) (.agg a')
  | tup (a a' : List V) (ha : a.length = a'.length) (hva : ∀ (j : Nat) u v, a[j]? = some u → a'[j]? = some v → FR H Z u v) : FR H Z (.tup a) (.tup a')
def FRL (H : Heap) (Z : Nat → Prop) (xs ys : List V) : Prop := xs.length = ys.length ∧ ∀ (j : Nat) u v, xs[j]? = some u → ys[j]? = some v → FR H Z u v
def FRLL (H : Heap) (Z : Nat → Prop) (xs ys : List (List V)) : Prop := xs.length = ys.length ∧ ∀ (j : Nat) u v, xs[j]? = some u → ys[j]? = some v → FRL H Z u v
section
variable {H H' : Heap} {Z Z' : Nat → Prop}
theorem FR.mono (h : ∀ id, Z id → Z' id ∧ rowsAt H' id = rowsAt H id) {x y : V} (r : FR H Z x y) : FR H' Z' x y := by
  induction r with
  | same x h => exact .same x h
  | fsl es xs id off ys hz hr hl hc hv ih => exact .fsl es xs id off ys (h id hz).1 (by rw [(h id hz).2]; exact hr) hl hc ih
  | fptr xs id el off es ys cs hz hr he ho hx hv ih => exact .fptr xs id el off es ys cs (h id hz).1 (by rw [(h id hz).2]; exact hr) he ho hx ih
  | clo f a b a' b' ha hb hva hvb iha ihb => exact .clo f a b a' b' ha hb iha ihb
  | agg a a' ha hva iha => exact .agg a a' ha iha
  | tup a a' ha hva iha => exact .tup a a' ha iha
theorem FRL.mono (h : ∀ id, Z id → Z' id ∧ rowsAt H' id = rowsAt H id) {x y : List V} (r : FRL H Z x y) : FRL H' Z' x y := ⟨r.1, fun j u v a b => (r.2 j u v a b).mono h⟩
theorem FRLL.mono (h : ∀ id, Z id → Z' id ∧ rowsAt H' id = rowsAt H id) {x y : List (List V)} (r : FRLL H Z x y) : FRLL H' Z' x y := ⟨r.1, fun j u v a b => (r.2 j u v a b).mono h⟩
theorem FRL.nil : FRL H Z [] [] := ⟨rfl, by simp⟩
theorem FRL.cons {x y : V} {xs ys : List V} (h : FR H Z x y) (r : FRL H Z xs ys) : FRL H Z (x :: xs) (y :: ys) := by
  refine ⟨by simp [r.1], fun j u v hu hv => ?_⟩
  cases j with
  | zero => simp at hu hv; subst hu; subst hv; exact h
  | succ j => exact r.2 j u v (by simpa using hu) (by simpa using hv)
theorem FRL.inv {x : V} {xs ws : List V} (r : FRL H Z (x :: xs) ws) : ∃ y ys, ws = y :: ys ∧ FR H Z x y ∧ FRL H Z xs ys := by
  cases ws with
  | nil => have := r.1; simp at this
  | cons y ys =>
    refine ⟨y, ys, rfl, r.2 0 x y rfl rfl, by have := r.1; simpa using this, fun j u v hu hv => r.2 (j + 1) u v (by simpa using hu) (by simpa using hv)⟩
theorem FRL.inv0 {ws : List V} (r : FRL H Z [] ws) : ws = [] := by
  have := r.1
  exact List.length_eq_zero_iff.1 this.symm
theorem FRL.get {xs ys : List V} (r : FRL H Z xs ys) {j : Nat} {u : V} (h : xs[j]? = some u) : ∃ v, ys[j]? = some v ∧ FR H Z u v := by
  have hj : j < xs.length := (List.getElem?_eq_some_iff.1 h).1
  have : j < ys.length := by rw [← r.1]; exact hj
  exact ⟨ys[j], List.getElem?_eq_getElem this, r.2 j u _ h (List.getElem?_eq_getElem this)⟩
theorem FRLL.get {xs ys : List (List V)} (r : FRLL H Z xs ys) {j : Nat} {u : List V} (h : xs[j]? = some u) : ∃ v, ys[j]? = some v ∧ FRL H Z u v := by
  have hj : j < xs.length := (List.getElem?_eq_some_iff.1 h).1
  have : j < ys.length := by rw [← r.1]; exact hj
  exact ⟨ys[j], List.getElem?_eq_getElem this, r.2 j u _ h (List.getElem?_eq_getElem this)⟩
theorem FRL.append {a b c d : List V} (h : FRL H Z a b) (k : FRL H Z c d) : FRL H Z (a ++ c) (b ++ d) := by
  refine ⟨by simp [h.1, k.1], fun j u v hu hv => ?_⟩
  by_cases hj : j < a.length
  · rw [List.getElem?_append_left hj] at hu
    rw [List.getElem?_append_left (by rw [← h.1]; exact hj)] at hv
    exact h.2 j u v hu hv
  · rw [List.getElem?_append_right (by omega)] at hu
    rw [List.getElem?_append_right (by rw [← h.1]; omega), ← h.1] at hv
    exact k.2 _ u v hu hv
theorem FRLL.append {a b c d : List (List V)} (h : FRLL H Z a b) (k : FRLL H Z c d) : FRLL H Z (a ++ c) (b ++ d) := by
  refine ⟨by simp [h.1, k.1], fun j u v hu hv => ?_⟩
  by_cases hj : j < a.length
  · rw [List.getElem?_append_left hj] at hu
    rw [List.getElem?_append_left (by rw [← h.1]; exact hj)] at hv
    exact h.2 j u v hu hv
  · rw [List.getElem?_append_right (by omega)] at hu
    rw [List.getElem?_append_right (by rw [← h.1]; omega), ← h.1] at hv
    exact k.2 _ u v hu hv
theorem FRL.take {a b : List V} (h : FRL H Z a b) (n : Nat) : FRL H Z (a.take n) (b.take n) := by
  refine ⟨by simp [h.1], fun j u v hu hv => ?_⟩
  rw [List.getElem?_take] at hu hv
  split at hu
  · rename_i hj; rw [if_pos hj] at hv; exact h.2 j u v hu hv
  · simp at hu
theorem FRL.drop {a b : List V} (h : FRL H Z a b) (n : Nat) : FRL H Z (a.drop n) (b.drop n) := by
  refine ⟨by simp [h.1], fun j u v hu hv => ?_⟩
  rw [List.getElem?_drop] at hu hv
  exact h.2 _ u v hu hv
theorem FRLL.take {a b : List (List V)} (h : FRLL H Z a b) (n : Nat) : FRLL H Z (a.take n) (b.take n) := by
  refine ⟨by simp [h.1], fun j u v hu hv => ?_⟩
  rw [List.getElem?_take] at hu hv
  split at hu
  · rename_i hj; rw [if_pos hj] at hv; exact h.2 j u v hu hv
  · simp at hu
theorem FRLL.drop {a b : List (List V)} (h : FRLL H Z a b) (n : Nat) : FRLL H Z (a.drop n) (b.drop n) := by
  refine ⟨by simp [h.1], fun j u v hu hv => ?_⟩
  rw [List.getElem?_drop] at hu hv
  exact h.2 _ u v hu hv
theorem FRL.set {a b : List V} (h : FRL H Z a b) (n : Nat) {x y : V} (hx : FR H Z x y) : FRL H Z (a.set n x) (b.set n y) := by
  refine ⟨by simp [h.1], fun j u v hu hv => ?_⟩
  rw [List.getElem?_set] at hu hv
  rw [← h.1] at hv
  split at hu
  · rename_i e; rw [if_pos e] at hv
    split at hu
    · rename_i e2; rw [if_pos e2] at hv; cases hu; cases hv; exact hx
    · simp at hu
  · rename_i e; rw [if_neg e] at hv; exact h.2 j u v hu hv
theorem FRLL.set {a b : List (List V)} (h : FRLL H Z a b) (n : Nat) {x y : List V} (hx : FRL H Z x y) : FRLL H Z (a.set n x) (b.set n y) := by
  refine ⟨by simp [h.1], fun j u v hu hv => ?_⟩
  rw [List.getElem?_set] at hu hv
  rw [← h.1] at hv
  split at hu
  · rename_i e; rw [if_pos e] at hv
    split at hu
    · rename_i e2; rw [if_pos e2] at hv; cases hu; cases hv; exact hx
    · simp at hu
  · rename_i e; rw [if_neg e] at hv; exact h.2 j u v hu hv
theorem FRL.same {l : List V} (h : V.goodL l = true) : FRL H Z l l :=
  ⟨rfl, fun j u v hu hv => by rw [hu] at hv; cases hv; exact .same u (goodL_iff.1 h j u hu)⟩
theorem FR.good {x y : V} (r : FR H Z x y) : x.good = true := by
  induction r with
  | same x h => exact h
  | fsl es xs id off ys hz hr hl hc hv ih =>
    simp only [V.good]
    refine goodLL_iff.2 fun i a ha => goodL_iff.2 fun j u hu => ?_
    have hi : i < xs.length := (List.getElem?_eq_some_iff.1 ha).1
    have hb : ys[off + i]? = some ys[off + i] := List.getElem?_eq_getElem (by omega)
    have hj : j < (ys[off + i]).length := by rw [← hc i a _ ha hb]; exact (List.getElem?_eq_some_iff.1 hu).1
    exact ih i j a _ u _ ha hb hu (List.getElem?_eq_getElem hj)
  | fptr xs id el off es ys cs hz hr he ho hx hv ih =>
    simp only [V.good]
    refine goodL_iff.2 fun j u hu => ?_
    have hj : j < xs.length := (List.getElem?_eq_some_iff.1 hu).1
    exact ih j u _ hu (List.getElem?_eq_getElem (by omega))
  | clo f a b a' b' ha hb hva hvb iha ihb =>
    simp only [V.good, Bool.and_eq_true]
    refine ⟨goodL_iff.2 fun j u hu => ?_, goodL_iff.2 fun j u hu => ?_⟩
    · have : j < a'.length := by rw [← ha]; exact (List.getElem?_eq_some_iff.1 hu).1
      exact iha j u _ hu (List.getElem?_eq_getElem this)
    · have : j < b'.length := by rw [← hb]; exact (List.getElem?_eq_some_iff.1 hu).1
      exact ihb j u _ hu (List.getElem?_eq_getElem this)
  | agg a a' ha hva iha =>
    simp only [V.good]
    refine goodL_iff.2 fun j u hu => ?_
    have : j < a'.length := by rw [← ha]; exact (List.getElem?_eq_some_iff.1 hu).1
    exact iha j u _ hu (List.getElem?_eq_getElem this)
  | tup a a' ha hva iha =>
    simp only [V.good]
    refine goodL_iff.2 fun j u hu => ?_
    have : j < a'.length := by rw [← ha]; exact (List.getElem?_eq_some_iff.1 hu).1
    exact iha j u _ hu (List.getElem?_eq_getElem this)
theorem FR.closed {x y : V} (r : FR H Z x y) : x.closed = true := V.good_closed r.good
theorem FRL.good {xs ys : List V} (r : FRL H Z xs ys) : V.goodL xs = true :=
  goodL_iff.2 fun j u hu => by obtain ⟨v, _, h⟩ := r.get hu; exact h.good
theorem FRLL.good {xs ys : List (List V)} (r : FRLL H Z xs ys) : V.goodLL xs = true :=
  goodLL_iff.2 fun j u hu => by obtain ⟨v, _, h⟩ := r.get hu; exact h.good
theorem FR.bool {b : Bool} {y : V} (r : FR H Z (.bool b) y) : y = .bool b := by cases r; rfl
theorem FR.int {k : IntKind} {n : Int} {y : V} (r : FR H Z (.int k n) y) : y = .int k n := by cases r; rfl
theorem FR.str {s : ByteArray} {y : V} (r : FR H Z (.str s) y) : y = .str s := by cases r; rfl
theorem FR.esl {y : V} (r : FR H Z .esl y) : y = .esl := by cases r; rfl
theorem FR.nsl {y : V} (r : FR H Z .nsl y) : y = .nsl := by cases r; rfl
theorem FR.nptr {y : V} (r : FR H Z .nptr y) : y = .nptr := by cases r; rfl
theorem FR.nmap {y : V} (r : FR H Z .nmap y) : y = .nmap := by cases r; rfl
theorem FR.nfn {y : V} (r : FR H Z .nfn y) : y = .nfn := by cases r; rfl
theorem FR.fmap {kvs : List (V × V)} {y : V} (r : FR H Z (.fmap kvs) y) : y = .fmap kvs := by cases r; rfl
theorem FR.agg_inv {a : List V} {y : V} (r : FR H Z (.agg a) y) : ∃ a', y = .agg a' ∧ FRL H Z a a' := by
  cases r with
  | same _ h => exact ⟨a, rfl, .same (by simpa [V.good] using h)⟩
  | agg _ a' ha hva => exact ⟨a', rfl, ha, hva⟩
theorem FR.tup_inv {a : List V} {y : V} (r : FR H Z (.tup a) y) : ∃ a', y = .tup a' ∧ FRL H Z a a' := by
  cases r with
  | same _ h => exact ⟨a, rfl, .same (by simpa [V.good] using h)⟩
  | tup _ a' ha hva => exact ⟨a', rfl, ha, hva⟩
theorem FR.clo_inv {f : FuncId} {a b : List V} {y : V} (r : FR H Z (.clo f a b) y) : ∃ a' b', y = .clo f a' b' ∧ FRL H Z a a' ∧ FRL H Z b b' := by
  cases r with
  | same _ h =>
    simp only [V.good, Bool.and_eq_true] at h
    exact ⟨a, b, rfl, .same h.1, .same h.2⟩
  | clo _ _ _ a' b' ha hb hva hvb => exact ⟨a', b', rfl, ⟨ha, hva⟩, ⟨hb, hvb⟩⟩
theorem FR.fsl_inv {es : Nat} {xs : List (List V)} {y : V} (r : FR H Z (.fsl es xs) y) : y = .fsl es xs ∨
    ∃ id off ys, y = .hsl id es off xs.length ∧ Z id ∧ rowsAt H id = some (es, ys) ∧ off + xs.length ≤ ys.length ∧ FRLL H Z xs ((ys.drop off).take xs.length) := by
  cases r with
  | same _ h => exact .inl rfl
  | fsl _ _ id off ys hz hr hl hc hv =>
    refine .inr ⟨id, off, ys, rfl, hz, hr, hl, by simp; omega, fun j u v hu hv' => ?_⟩
    have hj : j < xs.length := (List.getElem?_eq_some_iff.1 hu).1
    rw [List.getElem?_take, if_pos hj, List.getElem?_drop] at hv'
    exact ⟨hc j u v hu hv', fun i s t hs ht => hv j i u v s t hu hv' hs ht⟩
theorem FR.ofHsl {es : Nat} {xs : List (List V)} {id off : Nat} {ys : List (List V)} (hz : Z id) (hr : rowsAt H id = some (es, ys)) (hl : off + xs.length ≤ ys.length) (h : FRLL H Z xs ((ys.drop off).take xs.length)) :
    FR H Z (.fsl es xs) (.hsl id es off xs.length) := by
  have key : ∀ (i : Nat) a b, xs[i]? = some a → ys[off + i]? = some b → FRL H Z a b := fun i a b ha hb => by
    have hj : i < xs.length := (List.getElem?_eq_some_iff.1 ha).1
    refine h.2 i a b ha ?_
    rw [List.getElem?_take, if_pos hj, List.getElem?_drop]; exact hb
  exact .fsl es xs id off ys hz hr hl (fun i a b ha hb => (key i a b ha hb).1) (fun i j a b u v ha hb hu hv => (key i a b ha hb).2 j u v hu hv)
theorem FR.fptr_inv {xs : List V} {y : V} (r : FR H Z (.fptr xs) y) : y = .fptr xs ∨
    ∃ id el off es ys cs, y = .hptr id el off ∧ Z id ∧ rowsAt H id = some (es, ys) ∧ ys[el]? = some cs ∧ off ≤ cs.length ∧ FRL H Z xs (cs.drop off) := by
  cases r with
  | same _ h => exact .inl rfl
  | fptr _ id el off es ys cs hz hr he ho hx hv =>
    refine .inr ⟨id, el, off, es, ys, cs, rfl, hz, hr, he, ho, by simp [hx], fun j u v hu hv' => ?_⟩
    rw [List.getElem?_drop] at hv'
    exact hv j u v hu hv'
theorem FR.ofHptr {xs : List V} {id el off es : Nat} {ys : List (List V)} {cs : List V} (hz : Z id) (hr : rowsAt H id = some (es, ys)) (he : ys[el]? = some cs) (ho : off ≤ cs.length) (h : FRL H Z xs (cs.drop off)) : FR H Z (.fptr xs) (.hptr id el off) :=
  .fptr xs id el off es ys cs hz hr he ho (by have := h.1; simpa using this) (fun j u v hu hv => h.2 j u v hu (by rw [List.getElem?_drop]; exact hv))
theorem FR.cells {x y : V} (r : FR H Z x y) : FRL H Z x.cells y.cells := by
  have one : ∀ {a b : V}, FR H Z a b → FRL H Z [a] [b] := fun h => .cons h .nil
  cases r with
  | same _ h => cases x <;> first | exact one (.same _ h) | (simp only [V.good] at h; exact FRL.same h)
  | fsl es xs id off ys hz hr hl hc hv => exact one (.fsl es xs id off ys hz hr hl hc hv)
  | fptr xs id el off es ys cs hz hr he ho hx hv => exact one (.fptr xs id el off es ys cs hz hr he ho hx hv)
  | clo f a b a' b' ha hb hva hvb => exact one (.clo f a b a' b' ha hb hva hvb)
  | agg a a' ha hva => exact ⟨ha, hva⟩
  | tup a a' ha hva => exact one (.tup a a' ha hva)
theorem FR.one {x y : V} (r : FR H Z x y) : y.one = x.one := by cases r <;> rfl
theorem FRL.one : ∀ {xs ys : List V}, FRL H Z xs ys → ys.all V.one = xs.all V.one
  | [], ys, r => by rw [r.inv0]
  | x :: xs, ws, r => by
    obtain ⟨y, ys, rfl, h, r'⟩ := r.inv
    simp only [List.all_cons, h.one, r'.one]
theorem scalarL_iff : ∀ {l : List V}, V.scalarL l = true ↔ ∀ (j : Nat) u, l[j]? = some u → u.scalar = true
  | [] => by simp [V.scalarL]
  | x :: l => by
    simp only [V.scalarL, Bool.and_eq_true, scalarL_iff (l := l)]
    constructor
    · rintro ⟨h1, h2⟩ j u hu
      cases j with
      | zero => simp at hu; subst hu; exact h1
      | succ j => exact h2 j u (by simpa using hu)
    · intro h
      exact ⟨h 0 x rfl, fun j u hu => h (j + 1) u (by simpa using hu)⟩
theorem FR.scalar {x y : V} (r : FR H Z x y) : (x.scalar = true → y = x) ∧ y.scalar = x.scalar := by
  have key : ∀ (a a' : List V), a.length = a'.length → (∀ (j : Nat) u v, a[j]? = some u → a'[j]? = some v → (u.scalar = true → v = u) ∧ v.scalar = u.scalar) → (V.scalarL a = true → a' = a) ∧ V.scalarL a' = V.scalarL a := by
    intro a a' ha ih
    have h1 : V.scalarL a = true → a' = a := by
      intro hs
      refine (List.ext_getElem ha fun j h1 h2 => ?_).symm
      exact (((ih j _ _ (List.getElem?_eq_getElem h1) (List.getElem?_eq_getElem h2)).1 (scalarL_iff.1 hs j _ (List.getElem?_eq_getElem h1)))).symm
    refine ⟨h1, ?_⟩
    cases hs : V.scalarL a with
    | true => rw [h1 hs]; exact hs
    | false =>
      cases hs' : V.scalarL a' with
      | false => rfl
      | true =>
        have : V.scalarL a = true := scalarL_iff.2 fun j u hu => by
          have hj : j < a'.length := by rw [← ha]; exact (List.getElem?_eq_some_iff.1 hu).1
          have := (ih j u _ hu (List.getElem?_eq_getElem hj)).2
          rw [← this]; exact scalarL_iff.1 hs' j _ (List.getElem?_eq_getElem hj)
        rw [this] at hs; cases hs
  induction r with
  | same x h => exact ⟨fun _ => rfl, rfl⟩
  | fsl => exact ⟨fun h => by simp [V.scalar] at h, rfl⟩
  | fptr => exact ⟨fun h => by simp [V.scalar] at h, rfl⟩
  | clo => exact ⟨fun h => by simp [V.scalar] at h, rfl⟩
  | agg a a' ha hva iha =>
    obtain ⟨h1, h2⟩ := key a a' ha iha
    exact ⟨fun h => by rw [h1 (by simpa [V.scalar] using h)], by simpa [V.scalar] using h2⟩
  | tup a a' ha hva iha =>
    obtain ⟨h1, h2⟩ := key a a' ha iha
    exact ⟨fun h => by rw [h1 (by simpa [V.scalar] using h)], by simpa [V.scalar] using h2⟩
theorem FRL.scalar {a a' : List V} (r : FRL H Z a a') : (V.scalarL a = true → a' = a) ∧ V.scalarL a' = V.scalarL a := by
  obtain ⟨h1, h2⟩ := FR.scalar (.tup a a' r.1 r.2 : FR H Z (.tup a) (.tup a'))
  simp only [V.scalar] at h1 h2
  exact ⟨fun h => by have := h1 h; cases this; rfl, h2⟩
theorem intsOf_scalar : ∀ {l : List V} {a : List Int}, intsOf l = some a → V.scalarL l = true
  | [], _, _ => rfl
  | x :: l, a, h => by
    unfold intsOf at h
    split at h
    · rename_i e; cases e
    · rename_i n r e
      cases e
      obtain ⟨b, hb, _⟩ := Option.map_eq_some_iff.1 h
      simp only [V.scalarL, V.scalar, Bool.true_and]
      exact intsOf_scalar hb
    · simp at h
end
end Go.VE
namespace Go.VE
section
variable {H H' : Heap} {Z Z' : Nat → Prop}
theorem mapO_of {f : V → Option V} : ∀ {xs ys : List V}, xs.length = ys.length → (∀ (j : Nat) u v, xs[j]? = some u → ys[j]? = some v → f v = some u) → mapO f ys = some xs
  | [], [], _, _ => rfl
  | [], y :: ys, h, _ => by simp at h
  | x :: xs, [], h, _ => by simp at h
  | x :: xs, y :: ys, h, hf => by
    simp only [mapO, hf 0 x y rfl rfl, mapO_of (xs := xs) (ys := ys) (by simpa using h) fun j u v hu hv => hf (j + 1) u v (by simpa using hu) (by simpa using hv)]
theorem mapOO_of {f : V → Option V} : ∀ {xs ys : List (List V)}, xs.length = ys.length → (∀ (j : Nat) u v, xs[j]? = some u → ys[j]? = some v → mapO f v = some u) → mapOO f ys = some xs
  | [], [], _, _ => rfl
  | [], y :: ys, h, _ => by simp at h
  | x :: xs, [], h, _ => by simp at h
  | x :: xs, y :: ys, h, hf => by
    simp only [mapOO, hf 0 x y rfl rfl, mapOO_of (xs := xs) (ys := ys) (by simpa using h) fun j u v hu hv => hf (j + 1) u v (by simpa using hu) (by simpa using hv)]
theorem closedL_iff : ∀ {l : List V}, V.closedL l = true ↔ ∀ (j : Nat) u, l[j]? = some u → u.closed = true
  | [] => by simp [V.closedL]
  | x :: l => by
    simp only [V.closedL, Bool.and_eq_true, closedL_iff (l := l)]
    constructor
    · rintro ⟨h1, h2⟩ j u hu
      cases j with
      | zero => simp at hu; subst hu; exact h1
      | succ j => exact h2 j u (by simpa using hu)
    · intro h
      exact ⟨h 0 x rfl, fun j u hu => h (j + 1) u (by simpa using hu)⟩
theorem lvlL_iff : ∀ {l : List V} {n : Nat}, V.lvlL n l = true ↔ ∀ (j : Nat) u, l[j]? = some u → u.lvl n = true
  | [], n => by simp [V.lvlL]
  | x :: l, n => by
    simp only [V.lvlL, Bool.and_eq_true, lvlL_iff (l := l)]
    constructor
    · rintro ⟨h1, h2⟩ j u hu
      cases j with
      | zero => simp at hu; subst hu; exact h1
      | succ j => exact h2 j u (by simpa using hu)
    · intro h
      exact ⟨h 0 x rfl, fun j u hu => h (j + 1) u (by simpa using hu)⟩
theorem lvlLL_iff : ∀ {l : List (List V)} {n : Nat}, V.lvlLL n l = true ↔ ∀ (j : Nat) u, l[j]? = some u → V.lvlL n u = true
  | [], n => by simp [V.lvlLL]
  | x :: l, n => by
    simp only [V.lvlLL, Bool.and_eq_true, lvlLL_iff (l := l)]
    constructor
    · rintro ⟨h1, h2⟩ j u hu
      cases j with
      | zero => simp at hu; subst hu; exact h1
      | succ j => exact h2 j u (by simpa using hu)
    · intro h
      exact ⟨h 0 x rfl, fun j u hu => h (j + 1) u (by simpa using hu)⟩
theorem borrow_self (n : Nat) (H : Heap) {x : V} (h : x.closed = true) : borrow n H x = some x := by
  cases n <;> simp [borrow, h]
theorem FR.borrow {x y : V} (r : FR H Z x y) : ∀ n, x.lvl n = true → borrow n H y = some x := by
  induction r with
  | same x h => exact fun n _ => borrow_self n H (V.good_closed h)
  | fsl es xs id off ys hz hr hl hc hv ih =>
    intro n hn
    cases n with
    | zero => simp [V.lvl] at hn
    | succ n =>
      simp only [V.lvl] at hn
      unfold Go.VE.borrow
      unfold rowsAt at hr
      simp only [V.closed, Bool.false_eq_true, if_false, hr, true_and, if_pos hl, Option.map_eq_some_iff, V.fsl.injEq]
      refine ⟨xs, mapOO_of (by simp; omega) fun j u v hu hv' => ?_, rfl⟩
      have hj : j < xs.length := (List.getElem?_eq_some_iff.1 hu).1
      rw [List.getElem?_take, if_pos hj, List.getElem?_drop] at hv'
      refine mapO_of (hc j u v hu hv') fun i s t hs ht => ih j i u v s t hu hv' hs ht n (lvlL_iff.1 (lvlLL_iff.1 hn j u hu) i s hs)
  | fptr xs id el off es ys cs hz hr he ho hx hv ih =>
    intro n hn
    cases n with
    | zero => simp [V.lvl] at hn
    | succ n =>
      simp only [V.lvl] at hn
      unfold Go.VE.borrow
      unfold rowsAt at hr
      simp only [V.closed, Bool.false_eq_true, if_false, hr, he, if_pos ho, Option.map_eq_some_iff, V.fptr.injEq]
      refine ⟨xs, mapO_of (by simp [hx]) fun j u v hu hv' => ?_, rfl⟩
      rw [List.getElem?_drop] at hv'
      exact ih j u v hu hv' n (lvlL_iff.1 hn j u hu)
  | clo f a b a' b' ha hb hva hvb iha ihb =>
    intro n hn
    cases n with
    | zero => simp [V.lvl] at hn
    | succ n =>
      simp only [V.lvl, Bool.and_eq_true] at hn
      by_cases hcl : (V.clo f a' b').closed = true
      · rw [borrow_self _ _ hcl]
        simp only [V.closed, Bool.and_eq_true] at hcl
        have e1 : a' = a := by
          have := mapO_of (f := Go.VE.borrow n H) ha fun j u v hu hv => iha j u v hu hv n (lvlL_iff.1 hn.1 j u hu)
          have h2 := mapO_of (f := Go.VE.borrow n H) (xs := a') (ys := a') rfl fun j u v hu hv => by rw [hu] at hv; cases hv; exact borrow_self n H (closedL_iff.1 hcl.1 j u hu)
          rw [this] at h2; cases h2; rfl
        have e2 : b' = b := by
          have := mapO_of (f := Go.VE.borrow n H) hb fun j u v hu hv => ihb j u v hu hv n (lvlL_iff.1 hn.2 j u hu)
          have h2 := mapO_of (f := Go.VE.borrow n H) (xs := b') (ys := b') rfl fun j u v hu hv => by rw [hu] at hv; cases hv; exact borrow_self n H (closedL_iff.1 hcl.2 j u hu)
          rw [this] at h2; cases h2; rfl
        rw [e1, e2]
      · unfold Go.VE.borrow
        rw [if_neg hcl]
        simp only [mapO_of (f := Go.VE.borrow n H) ha fun j u v hu hv => iha j u v hu hv n (lvlL_iff.1 hn.1 j u hu),
          mapO_of (f := Go.VE.borrow n H) hb fun j u v hu hv => ihb j u v hu hv n (lvlL_iff.1 hn.2 j u hu)]
  | agg a a' ha hva iha =>
    intro n hn
    cases n with
    | zero => simp [V.lvl] at hn
    | succ n =>
      simp only [V.lvl] at hn
      have hm := mapO_of (f := Go.VE.borrow n H) ha fun j u v hu hv => iha j u v hu hv n (lvlL_iff.1 hn j u hu)
      by_cases hcl : (V.agg a').closed = true
      · rw [borrow_self _ _ hcl]
        simp only [V.closed] at hcl
        have h2 := mapO_of (f := Go.VE.borrow n H) (xs := a') (ys := a') rfl fun j u v hu hv => by rw [hu] at hv; cases hv; exact borrow_self n H (closedL_iff.1 hcl j u hu)
        rw [hm] at h2; cases h2; rfl
      · unfold Go.VE.borrow
        rw [if_neg hcl]
        simp only [hm, Option.map_some]
  | tup a a' ha hva iha =>
    intro n hn
    cases n with
    | zero => simp [V.lvl] at hn
    | succ n =>
      simp only [V.lvl] at hn
      have hm := mapO_of (f := Go.VE.borrow n H) ha fun j u v hu hv => iha j u v hu hv n (lvlL_iff.1 hn j u hu)
      by_cases hcl : (V.tup a').closed = true
      · rw [borrow_self _ _ hcl]
        simp only [V.closed] at hcl
        have h2 := mapO_of (f := Go.VE.borrow n H) (xs := a') (ys := a') rfl fun j u v hu hv => by rw [hu] at hv; cases hv; exact borrow_self n H (closedL_iff.1 hcl j u hu)
        rw [hm] at h2; cases h2; rfl
      · unfold Go.VE.borrow
        rw [if_neg hcl]
        simp only [hm, Option.map_some]
theorem mem_flatV {f : V → List Nat} {k : Nat} : ∀ {l : List V}, k ∈ flatV f l → ∃ (j : Nat) (u : V), l[j]? = some u ∧ k ∈ f u
  | [], h => by simp [flatV] at h
  | x :: l, h => by
    simp only [flatV, List.mem_append] at h
    rcases h with h | h
    · exact ⟨0, x, rfl, h⟩
    · obtain ⟨j, u, hu, hk⟩ := mem_flatV h
      exact ⟨j + 1, u, by simpa using hu, hk⟩
structure Deep (H : Heap) (Z : Nat → Prop) : Prop where
  row : ∀ id es ys, Z id → rowsAt H id = some (es, ys) → ∀ c ∈ ys, ∀ u ∈ c, ∃ x, FR H Z x u
theorem FR.touch (hd : Deep H Z) : ∀ (n : Nat) {x y : V}, FR H Z x y → ∀ k ∈ touch n H y, Z k
  | 0, x, y, r, k, hk => by simp [Go.VE.touch] at hk
  | n + 1, x, y, r, k, hk => by
    unfold Go.VE.touch at hk
    split at hk
    · simp at hk
    · rename_i hcl
      have pt : ∀ (a a' : List V), FRL H Z a a' → k ∈ flatV (Go.VE.touch n H) a' → Z k := fun a a' h hk => by
        obtain ⟨j, u, hu, hku⟩ := mem_flatV hk
        have hj : j < a.length := by rw [h.1]; exact (List.getElem?_eq_some_iff.1 hu).1
        exact FR.touch hd n (h.2 j _ u (List.getElem?_eq_getElem hj) hu) k hku
      have row : ∀ (id : Nat), Z id → k ∈ (match (H[id]?).bind Ob.rows with | some (_, xs) => flatV (Go.VE.touch n H) xs.flatten | none => []) → Z k := fun id hz hk => by
        split at hk
        · rename_i es ys hr
          obtain ⟨j, u, hu, hku⟩ := mem_flatV hk
          have hm : u ∈ ys.flatten := List.mem_of_getElem? hu
          obtain ⟨c, hc, huc⟩ := List.mem_flatten.1 hm
          obtain ⟨x, hx⟩ := hd.row id es ys hz hr c hc u huc
          exact FR.touch hd n hx k hku
        · simp at hk
      cases r with
      | same _ h => exact absurd (V.good_closed h) hcl
      | fsl es xs id off ys hz hr hl hc hv =>
        simp only [List.mem_cons] at hk
        rcases hk with rfl | hk
        · exact hz
        · exact row id hz hk
      | fptr xs id el off es ys cs hz hr he ho hx hv =>
        simp only [List.mem_cons] at hk
        rcases hk with rfl | hk
        · exact hz
        · exact row id hz hk
      | clo f a b a' b' ha hb hva hvb =>
        simp only [List.mem_append] at hk
        rcases hk with hk | hk
        · exact pt a a' ⟨ha, hva⟩ hk
        · exact pt b b' ⟨hb, hvb⟩ hk
      | agg a a' ha hva => exact pt a a' ⟨ha, hva⟩ hk
      | tup a a' ha hva => exact pt a a' ⟨ha, hva⟩ hk
theorem FRL.cut {cs ys r : List V} {off n : Nat} (h : FRL H Z cs ys) (hc : cut cs off n = some r) : ∃ r', Go.VE.cut ys off n = some r' ∧ FRL H Z r r' := by
  unfold Go.VE.cut at hc ⊢
  have h2 := (h.drop off).take n
  dsimp only at hc ⊢
  split at hc
  · rename_i e
    simp only [Option.some.injEq] at hc; subst hc
    exact ⟨_, by rw [if_pos (by rw [← h2.1]; exact e)], h2⟩
  · simp at hc
theorem FRL.mk {agg : Bool} {cs ys : List V} {x : V} (h : FRL H Z cs ys) (hm : mk agg cs = some x) : ∃ y, Go.VE.mk agg ys = some y ∧ FR H Z x y := by
  unfold Go.VE.mk at hm ⊢
  split at hm
  · rename_i e
    simp only [Option.some.injEq] at hm; subst hm
    exact ⟨_, by rw [if_pos e], .agg _ _ h.1 h.2⟩
  · rename_i e
    split at hm
    · simp only [Option.some.injEq] at hm; subst hm
      obtain ⟨y, ys, rfl, h1, h2⟩ := h.inv
      rw [h2.inv0]
      exact ⟨y, by rw [if_neg e], h1⟩
    · simp at hm
theorem FRL.fill : ∀ {pl : List (Nat × Nat)} {vs ws cells cells' r : List V}, FRL H Z cells cells' → FRL H Z vs ws → fillP cells pl vs = some r → ∃ r', fillP cells' pl ws = some r' ∧ FRL H Z r r'
  | [], vs, ws, cells, cells', r, hc, hv, h => by
    cases vs with
    | nil => rw [hv.inv0]; simp only [fillP, Option.some.injEq] at h ⊢; subst h; exact ⟨_, rfl, hc⟩
    | cons v vs => simp [fillP] at h
  | (off, size) :: pl, vs, ws, cells, cells', r, hc, hv, h => by
    cases vs with
    | nil => simp [fillP] at h
    | cons v vs =>
      obtain ⟨w, ws, rfl, h1, h2⟩ := hv.inv
      have k := h1.cells
      simp only [fillP] at h ⊢
      rw [← k.1, ← hc.1]
      split at h
      · simp at h
      · rename_i e
        rw [if_neg e]
        exact FRL.fill (((hc.take off).append k).append (hc.drop _)) h2 h
theorem FR.nilCmp {k : KT} {x y x' y' : V} {b : Bool} (hx : FR H Z x x') (hy : FR H Z y y') (h : nilCmpT k x y = some b) : nilCmpT k x' y' = some b := by
  unfold nilCmpT at h
  split at h
  · rw [hx.nsl, hy.nsl]; exact h
  · rw [hy.nsl]
    rcases hx.fsl_inv with rfl | ⟨_, _, _, rfl, _⟩ <;> exact h
  · exact absurd hx.closed (by simp [V.closed])
  · rw [hx.nptr, hy.nptr]; exact h
  · rw [hy.nptr]
    rcases hx.fptr_inv with rfl | ⟨_, _, _, _, _, _, rfl, _⟩ <;> exact h
  · exact absurd hx.closed (by simp [V.closed])
  · rw [hx.nmap, hy.nmap]; exact h
  · rw [hy.nmap, hx.fmap]; exact h
  · exact absurd hx.closed (by simp [V.closed])
  · simp at h
theorem FR.intsEq {a b a' b' : List V} {r : Bool} (ha : FRL H Z a a') (hb : FRL H Z b b') (h : intsEq a b = some r) : Go.VE.intsEq a' b' = some r := by
  unfold Go.VE.intsEq at h
  split at h
  · rename_i u v hu hv
    rw [ha.scalar.1 (intsOf_scalar hu), hb.scalar.1 (intsOf_scalar hv)]
    unfold Go.VE.intsEq
    rw [hu, hv]; exact h
  · simp at h
theorem nilCmp_shape {k : KT} {x y : V} {b : Bool} (h : nilCmpT k x y = some b) : (y = .nsl ∧ (x = .nsl ∨ (∃ es xs, x = .fsl es xs) ∨ ∃ id es off len, x = .hsl id es off len)) ∨
    (y = .nptr ∧ (x = .nptr ∨ (∃ cs, x = .fptr cs) ∨ ∃ id el off, x = .hptr id el off)) ∨ (y = .nmap ∧ (x = .nmap ∨ (∃ kvs, x = .fmap kvs) ∨ ∃ id, x = .hmap id)) := by
  unfold nilCmpT at h
  (repeat' split at h) <;> first | (simp; done) | simp at h
theorem binT_nil {k : Option KT} {e : Option Nat} {op : BinOp} {x y : V} (hs : (y = .nsl ∧ (x = .nsl ∨ (∃ es xs, x = .fsl es xs) ∨ ∃ id es off len, x = .hsl id es off len)) ∨
    (y = .nptr ∧ (x = .nptr ∨ (∃ cs, x = .fptr cs) ∨ ∃ id el off, x = .hptr id el off)) ∨ (y = .nmap ∧ (x = .nmap ∨ (∃ kvs, x = .fmap kvs) ∨ ∃ id, x = .hmap id))) :
    binT k e op x y = (match k, op with
    | some k, .eql => (nilCmpT k x y).map .bool
    | some k, .neq => (nilCmpT k x y).map fun t => .bool !t
    | _, _ => none) := by
  rcases hs with ⟨rfl, rfl | ⟨_, _, rfl⟩ | ⟨_, _, _, _, rfl⟩⟩ | ⟨rfl, rfl | ⟨_, rfl⟩ | ⟨_, _, _, rfl⟩⟩ | ⟨rfl, rfl | ⟨_, rfl⟩ | ⟨_, rfl⟩⟩ <;> cases k <;> cases op <;> rfl
theorem binT_closed {k : Option KT} {e : Option Nat} {op : BinOp} {x y z : V} (h : binT k e op x y = some z) : z.good = true := by
  have hb : ∀ {o : Option Bool} {z : V}, o.map V.bool = some z → z.good = true := fun h => by obtain ⟨_, _, rfl⟩ := Option.map_eq_some_iff.1 h; rfl
  have hb' : ∀ {o : Option Bool} {z : V}, (o.map fun t => V.bool !t) = some z → z.good = true := fun h => by obtain ⟨_, _, rfl⟩ := Option.map_eq_some_iff.1 h; rfl
  unfold binT at h
  (repeat' split at h) <;> first | (simp only [Option.some.injEq] at h; subst h; rfl) | exact hb h | exact hb' h | simp at h
theorem FR.bin {k : Option KT} {e : Option Nat} {op : BinOp} {x y x' y' z : V} (hx : FR H Z x x') (hy : FR H Z y y') (h : binT k e op x y = some z) : binT k e op x' y' = some z := by
  have h0 := h
  unfold binT at h
  split at h
  · rw [hx.int, hy.int]; exact h0
  · rw [hx.str, hy.str]; exact h0
  · rw [hx.bool, hy.bool]; exact h0
  · obtain ⟨a', rfl, ha⟩ := hx.agg_inv
    obtain ⟨b', rfl, hb⟩ := hy.agg_inv
    split at h
    · split at h
      · rename_i hl
        obtain ⟨r, hr, rfl⟩ := Option.map_eq_some_iff.1 h
        simp only [binT, ← ha.1, hl, if_true, FR.intsEq ha hb hr, Option.map_some]
      · simp at h
    · split at h
      · rename_i hl
        obtain ⟨r, hr, rfl⟩ := Option.map_eq_some_iff.1 h
        simp only [binT, ← ha.1, hl, if_true, FR.intsEq ha hb hr, Option.map_some]
      · simp at h
    · simp at h
  · split at h
    · obtain ⟨r, hr, rfl⟩ := Option.map_eq_some_iff.1 h
      have hr' := FR.nilCmp hx hy hr
      rw [binT_nil (nilCmp_shape hr')]; dsimp only; rw [hr']; rfl
    · obtain ⟨r, hr, rfl⟩ := Option.map_eq_some_iff.1 h
      have hr' := FR.nilCmp hx hy hr
      rw [binT_nil (nilCmp_shape hr')]; dsimp only; rw [hr']; rfl
    · simp at h
theorem FR.slice {size : Nat} {x x' z : V} {l h : Option Int} (hx : FR H Z x x') (hs : sliceV size x l h = some z) : ∃ z', sliceV size x' l h = some z' ∧ FR H Z z z' := by
  have hbd : ∀ {n lo hi : Nat}, boundsV n l h = some (lo, hi) → hi ≤ n ∧ lo ≤ hi := by
    intro n lo hi e
    unfold boundsV at e
    dsimp only at e
    split at e
    · rename_i hc
      simp only [Option.some.injEq, Prod.mk.injEq] at e
      omega
    · simp at e
  unfold sliceV at hs
  split at hs
  · rename_i es xs
    split at hs
    · rename_i he
      obtain ⟨⟨lo, hi⟩, hb, rfl⟩ := Option.map_eq_some_iff.1 hs
      obtain ⟨b1, b2⟩ := hbd hb
      rcases hx.fsl_inv with rfl | ⟨id, off, ys, rfl, hz, hr, hl, hf⟩
      · refine ⟨_, by simp only [sliceV, if_pos he, hb, Option.map_some], .same _ ?_⟩
        have hg := hx.good
        simp only [V.good] at hg ⊢
        refine goodLL_iff.2 fun j u hu => ?_
        rw [List.getElem?_drop, List.getElem?_take] at hu
        split at hu
        · exact goodLL_iff.1 hg _ u hu
        · simp at hu
      · refine ⟨.hsl id es (off + lo) (hi - lo), by simp only [sliceV, if_pos he, hb, Option.map_some], ?_⟩
        have hlen : ((xs.take hi).drop lo).length = hi - lo := by simp; omega
        rw [← hlen]
        refine FR.ofHsl hz hr (by rw [hlen]; omega) ?_
        have := (hf.take hi).drop lo
        rw [hlen]
        have e : List.drop lo (List.take hi (List.take xs.length (List.drop off ys))) = List.take (hi - lo) (List.drop (off + lo) ys) := by
          rw [List.take_take, Nat.min_eq_left b1, List.drop_take, List.drop_drop]
        rw [e] at this; exact this
    · simp at hs
  · exact absurd hx.closed (by simp [V.closed])
  · rw [hx.esl]
    obtain ⟨_, hb, rfl⟩ := Option.map_eq_some_iff.1 hs
    exact ⟨.esl, by simp only [sliceV, hb, Option.map_some], .same _ rfl⟩
  · rw [hx.nsl]
    obtain ⟨_, hb, rfl⟩ := Option.map_eq_some_iff.1 hs
    exact ⟨.nsl, by simp only [sliceV, hb, Option.map_some], .same _ rfl⟩
  · simp at hs
theorem FRL.bnds {lo hi : Bool} {bs bs' : List V} {r : Option Int × Option Int} (h : FRL H Z bs bs') (hb : bnds lo hi bs = some r) : Go.VE.bnds lo hi bs' = some r := by
  unfold Go.VE.bnds at hb
  split at hb
  · rw [h.inv0]; exact hb
  · obtain ⟨_, _, rfl, h1, h2⟩ := h.inv; rw [h1.int, h2.inv0]; exact hb
  · obtain ⟨_, _, rfl, h1, h2⟩ := h.inv; rw [h1.int, h2.inv0]; exact hb
  · obtain ⟨_, _, rfl, h1, h2⟩ := h.inv
    obtain ⟨_, _, rfl, h3, h4⟩ := h2.inv
    rw [h1.int, h3.int, h4.inv0]; exact hb
  · simp at hb
theorem FRL.peval {N : Nat → FuncId} {p : POp} {xs ys : List V} {z : V} (hz0 : ∀ zero pl, p = .build zero pl → V.goodL zero = true) (h : FRL H Z xs ys) (hp : peval N p xs = some z) : ∃ z', Go.VE.peval N p ys = some z' ∧ FR H Z z z' := by
  unfold Go.VE.peval at hp
  split at hp
  ·
    obtain ⟨y, _, rfl, h1, h2⟩ := h.inv; rw [h2.inv0]
    simp only [Option.some.injEq] at hp; subst hp
    exact ⟨y, rfl, h1⟩
  ·
    rename_i t a b
    obtain ⟨w1, _, rfl, h1, h2⟩ := h.inv
    obtain ⟨w2, _, rfl, h3, h4⟩ := h2.inv
    obtain ⟨w3, _, rfl, h5, h6⟩ := h4.inv
    rw [h1.bool, h6.inv0]
    simp only [Option.some.injEq] at hp; subst hp
    refine ⟨if t = true then w2 else w3, rfl, ?_⟩
    cases t
    · exact h5
    · exact h3
  ·
    obtain ⟨y, _, rfl, h1, h2⟩ := h.inv; rw [h2.inv0]
    unfold nilcV at hp
    split at hp
    · exact absurd h1.closed (by simp [V.closed])
    · simp only [Option.some.injEq] at hp; subst hp
      rcases h1.fptr_inv with rfl | ⟨_, _, _, _, _, _, rfl, _⟩
      · exact ⟨_, rfl, h1⟩
      · exact ⟨_, rfl, h1⟩
    · simp only [Option.some.injEq] at hp; subst hp
      obtain ⟨_, _, rfl, _⟩ := h1.clo_inv
      exact ⟨_, rfl, h1⟩
    · simp at hp
  ·
    obtain ⟨_, _, rfl, h1, h2⟩ := h.inv
    obtain ⟨_, _, rfl, h3, h4⟩ := h2.inv
    rw [h4.inv0]
    exact ⟨z, FR.bin h1 h3 hp, .same _ (binT_closed hp)⟩
  · obtain ⟨_, _, rfl, h1, h2⟩ := h.inv; rw [h1.bool, h2.inv0]
    simp only [Option.some.injEq] at hp; subst hp
    exact ⟨_, rfl, .same _ rfl⟩
  · obtain ⟨_, _, rfl, h1, h2⟩ := h.inv; rw [h1.int, h2.inv0]
    simp only [Option.some.injEq] at hp; subst hp
    exact ⟨_, rfl, .same _ rfl⟩
  · obtain ⟨_, _, rfl, h1, h2⟩ := h.inv; rw [h1.int, h2.inv0]
    simp only [Option.some.injEq] at hp; subst hp
    exact ⟨_, rfl, .same _ rfl⟩
  ·
    rename_i off p
    obtain ⟨y, _, rfl, h1, h2⟩ := h.inv; rw [h2.inv0]
    unfold fieldAddrV at hp
    split at hp
    · split at hp
      · rename_i cs ho
        simp only [Option.some.injEq] at hp; subst hp
        rcases h1.fptr_inv with rfl | ⟨id, el, o, es, ys, ds, rfl, hz, hr, he, hle, hf⟩
        · have hg := h1.good
          simp only [V.good] at hg
          exact ⟨_, by simp only [Go.VE.peval, fieldAddrV, if_pos ho], .same _ (by simp only [V.good]; exact goodL_drop _ hg)⟩
        · refine ⟨.hptr id el (o + off), rfl, FR.ofHptr hz hr he (by have := hf.1; simp at this; omega) ?_⟩
          have := hf.drop off
          rw [List.drop_drop] at this
          exact this
      · simp at hp
    · exact absurd h1.closed (by simp [V.closed])
    · simp at hp
  ·
    rename_i off size agg cs
    obtain ⟨y, _, rfl, h1, h2⟩ := h.inv; rw [h2.inv0]
    obtain ⟨cs', rfl, hc⟩ := h1.agg_inv
    obtain ⟨r, hr, hm⟩ := Option.bind_eq_some_iff.1 hp
    obtain ⟨r', hr', hrr⟩ := hc.cut hr
    obtain ⟨z', hz', hzz⟩ := hrr.mk hm
    exact ⟨z', by simp only [Go.VE.peval, hr', Option.bind_some, hz'], hzz⟩
  ·
    rename_i size s k n
    obtain ⟨y, _, rfl, h1, h2⟩ := h.inv
    obtain ⟨_, _, rfl, h3, h4⟩ := h2.inv
    rw [h3.int, h4.inv0]
    unfold idxSV at hp
    split at hp
    · simp at hp
    · rename_i hn
      split at hp
      · rename_i es xs
        split at hp
        · rename_i he
          obtain ⟨c, hc, rfl⟩ := Option.map_eq_some_iff.1 hp
          rcases h1.fsl_inv with rfl | ⟨id, off, ys, rfl, hz, hr, hl, hf⟩
          · have hg := h1.good
            simp only [V.good] at hg
            exact ⟨_, by simp only [Go.VE.peval, idxSV, if_neg hn, if_pos he, hc, Option.map_some], .same _ (by simp only [V.good]; exact goodLL_iff.1 hg _ _ hc)⟩
          · have hj : n.toNat < xs.length := (List.getElem?_eq_some_iff.1 hc).1
            obtain ⟨d, hd, hcd⟩ := hf.get hc
            rw [List.getElem?_take, if_pos hj, List.getElem?_drop] at hd
            exact ⟨.hptr id (off + n.toNat) 0, by simp only [Go.VE.peval, idxSV, if_neg hn, if_pos (And.intro he hj)], FR.ofHptr hz hr hd (by simp) (by simpa using hcd)⟩
        · simp at hp
      · exact absurd h1.closed (by simp [V.closed])
      · simp at hp
  ·
    rename_i len size s k n
    obtain ⟨y, _, rfl, h1, h2⟩ := h.inv
    obtain ⟨_, _, rfl, h3, h4⟩ := h2.inv
    rw [h3.int, h4.inv0]
    unfold idxAV at hp
    split at hp
    · rename_i hn
      split at hp
      · split at hp
        · rename_i cs ho
          simp only [Option.some.injEq] at hp; subst hp
          rcases h1.fptr_inv with rfl | ⟨id, el, o, es, ys, ds, rfl, hz, hr, he, hle, hf⟩
          · have hg := h1.good
            simp only [V.good] at hg
            exact ⟨_, by simp only [Go.VE.peval, idxAV, if_pos hn, if_pos ho], .same _ (by simp only [V.good]; exact goodL_drop _ hg)⟩
          · refine ⟨.hptr id el (o + n.toNat * size), by simp only [Go.VE.peval, idxAV, if_pos hn], FR.ofHptr hz hr he (by have := hf.1; simp at this; omega) ?_⟩
            have := hf.drop (n.toNat * size)
            rw [List.drop_drop] at this
            exact this
        · simp at hp
      · exact absurd h1.closed (by simp [V.closed])
      · simp at hp
    · simp at hp
  ·
    rename_i s k n
    obtain ⟨y, _, rfl, h1, h2⟩ := h.inv
    obtain ⟨_, _, rfl, h3, h4⟩ := h2.inv
    rw [h1.str, h3.int, h4.inv0]
    split at hp
    · rename_i hn
      obtain ⟨c, hc, rfl⟩ := Option.map_eq_some_iff.1 hp
      exact ⟨_, by simp only [Go.VE.peval, if_pos hn, hc, Option.map_some], .same _ rfl⟩
    · simp at hp
  ·
    rename_i len size agg cs k n
    obtain ⟨y, _, rfl, h1, h2⟩ := h.inv
    obtain ⟨_, _, rfl, h3, h4⟩ := h2.inv
    rw [h3.int, h4.inv0]
    obtain ⟨cs', rfl, hc⟩ := h1.agg_inv
    split at hp
    · rename_i hn
      obtain ⟨r, hr, hm⟩ := Option.bind_eq_some_iff.1 hp
      obtain ⟨r', hr', hrr⟩ := hc.cut hr
      obtain ⟨z', hz', hzz⟩ := hrr.mk hm
      exact ⟨z', by simp only [Go.VE.peval, if_pos hn, hr', Option.bind_some, hz'], hzz⟩
    · simp at hp
  ·
    rename_i lo hi s bs
    obtain ⟨y, _, rfl, h1, h2⟩ := h.inv
    rw [h1.str]
    obtain ⟨⟨l, h'⟩, hb, hp⟩ := Option.bind_eq_some_iff.1 hp
    obtain ⟨⟨l2, h2'⟩, hb2, rfl⟩ := Option.map_eq_some_iff.1 hp
    exact ⟨_, by simp only [Go.VE.peval, h2.bnds hb, Option.bind_some, hb2, Option.map_some], .same _ rfl⟩
  ·
    rename_i size lo hi s bs
    obtain ⟨y, _, rfl, h1, h2⟩ := h.inv
    obtain ⟨⟨l, h'⟩, hb, hp⟩ := Option.bind_eq_some_iff.1 hp
    obtain ⟨z', hz', hzz⟩ := FR.slice h1 hp
    exact ⟨z', by simp only [Go.VE.peval, h2.bnds hb, Option.bind_some, hz'], hzz⟩
  ·
    obtain ⟨y, _, rfl, h1, h2⟩ := h.inv
    obtain ⟨_, _, rfl, h3, h4⟩ := h2.inv
    obtain ⟨_, _, rfl, h5, h6⟩ := h4.inv
    rw [h3.int, h5.int, h6.inv0]
    split at hp
    · rename_i hc
      simp only [Option.some.injEq] at hp; subst hp
      refine ⟨.esl, ?_, .same _ rfl⟩
      simp only [Bool.and_eq_true] at hc
      have : isSl y = true := by
        have h0 := hc.1.1
        unfold isSl at h0
        split at h0
        · rcases h1.fsl_inv with rfl | ⟨_, _, _, rfl, _⟩ <;> rfl
        · exact absurd h1.closed (by simp [V.closed])
        · rw [h1.esl]; rfl
        · rw [h1.nsl]; rfl
        · simp at h0
      simp only [Go.VE.peval, this, hc.1.2, hc.2, Bool.and_self, if_true]
    · simp at hp
  ·
    rename_i vs zero pl
    obtain ⟨r, hr, rfl⟩ := Option.map_eq_some_iff.1 hp
    obtain ⟨r', hr', hrr⟩ := FRL.fill (FRL.same (hz0 zero pl rfl)) h hr
    exact ⟨.agg r', by simp only [Go.VE.peval, hr', Option.map_some], .agg _ _ hrr.1 hrr.2⟩
  ·
    rename_i vs name k
    simp only [Option.some.injEq] at hp; subst hp
    exact ⟨_, rfl, .clo _ _ _ _ _ (h.take k).1 (h.drop k).1 (h.take k).2 (h.drop k).2⟩
  ·
    rename_i i vs
    obtain ⟨y, _, rfl, h1, h2⟩ := h.inv; rw [h2.inv0]
    obtain ⟨ws, rfl, hw⟩ := h1.tup_inv
    obtain ⟨z', hz', hzz⟩ := hw.get hp
    exact ⟨z', hz', hzz⟩
  ·
    obtain ⟨y, _, rfl, h1, h2⟩ := h.inv; rw [h1.str, h2.inv0]
    simp only [Option.some.injEq] at hp; subst hp
    exact ⟨_, rfl, .same _ rfl⟩
  ·
    obtain ⟨y, _, rfl, h1, h2⟩ := h.inv; rw [h2.inv0]
    unfold lenSlV at hp
    split at hp
    · simp only [Option.some.injEq] at hp; subst hp
      rcases h1.fsl_inv with rfl | ⟨_, _, _, rfl, _⟩ <;> exact ⟨_, rfl, .same _ rfl⟩
    · exact absurd h1.closed (by simp [V.closed])
    · rw [h1.esl]; simp only [Option.some.injEq] at hp; subst hp; exact ⟨_, rfl, .same _ rfl⟩
    · rw [h1.nsl]; simp only [Option.some.injEq] at hp; subst hp; exact ⟨_, rfl, .same _ rfl⟩
    · simp at hp
  ·
    obtain ⟨_, _, rfl, h1, h2⟩ := h.inv
    obtain ⟨_, _, rfl, h3, h4⟩ := h2.inv
    rw [h1.int, h3.int, h4.inv0]
    split at hp
    · rename_i e
      simp only [Option.some.injEq] at hp; subst hp
      exact ⟨_, by simp only [Go.VE.peval, if_pos e], .same _ rfl⟩
    · simp at hp
  ·
    obtain ⟨_, _, rfl, h1, h2⟩ := h.inv
    obtain ⟨_, _, rfl, h3, h4⟩ := h2.inv
    rw [h1.int, h3.int, h4.inv0]
    split at hp
    · rename_i e
      simp only [Option.some.injEq] at hp; subst hp
      exact ⟨_, by simp only [Go.VE.peval, if_pos e], .same _ rfl⟩
    · simp at hp
  · simp at hp
end
end Go.VE
namespace Go.VE
def slA (p : Nat × Nat) (k : Fl) (es len : Nat) : V :=
  match k with
  | .nil => .nsl
  | .emp => .esl
  | _ => .hsl p.1 es p.2 len
abbrev Nu := Nat → Nat × Nat
inductive SVR (ν : Nu) (m : Tb SOb) (H : Heap) (Z : Nat → Prop) : SV → V → Prop
  | v (x y : V) (h : FR H Z x y) : SVR ν m H Z (.v x) y
  | own (d : Nat) (y : V) (h : ∀ ob, tget m d = some ob → ∃ k es xs, ob = .sl k es xs ∧ y = slA (ν d) k es xs.length) : SVR ν m H Z (.own d) y
  | ptr (d o : Nat) (y : V) (h : ∀ ob, tget m d = some ob → ∃ cs, ob = .box cs ∧ y = .hptr (ν d).1 0 o) : SVR ν m H Z (.ptr d o) y
  | el (d i o : Nat) (y : V) (h : ∀ ob, tget m d = some ob → ∃ k es xs, ob = .sl k es xs ∧ rowLike k = true ∧ y = .hptr (ν d).1 ((ν d).2 + i) o) : SVR ν m H Z (.el d i o) y
  | mp (d : Nat) (y : V) (h : ∀ ob, tget m d = some ob → ∃ kvs, ob = .mp kvs ∧ y = .hmap (ν d).1) : SVR ν m H Z (.mp d) y
  | clo (f : FuncId) (a b : List SV) (a' b' : List V) (ha : a.length = a'.length) (hb : b.length = b'.length)
      (hva : ∀ (j : Nat) u v, a[j]? = some u → a'[j]? = some v → SVR ν m H Z u v) (hvb : ∀ (j : Nat) u v, b[j]? = some u → b'[j]? = some v → SVR ν m H Z u v) : SVR ν m H Z (.clo f a b) (.clo f a' b')
  | tup (a : List SV) (a' : List V) (ha : a.length = a'.length) (hva : ∀ (j : Nat) u v, a[j]? = some u → a'[j]? = some v → SVR ν m H Z u v) : SVR ν m H Z (.tup a) (.tup a')
  | yl (id : Nat) : SVR ν m H Z (.yl id) (.yld id)
def SVRL (ν : Nu) (m : Tb SOb) (H : Heap) (Z : Nat → Prop) (xs : List SV) (ys : List V) : Prop := xs.length = ys.length ∧ ∀ (j : Nat) u v, xs[j]? = some u → ys[j]? = some v → SVR ν m H Z u v
def backed : SOb → Bool
  | .sl k _ _ => rowLike k
  | _ => true
def Own (ν : Nu) (m : Tb SOb) (id : Nat) : Prop := ∃ d ob, tget m d = some ob ∧ backed ob = true ∧ (ν d).1 = id
def Solid (H : Heap) (Z : Nat → Prop) (ys : List (List V)) : Prop := ∀ c ∈ ys, ∀ u ∈ c, ∃ x, FR H Z x u
def KvR (H : Heap) (Z : Nat → Prop) (a b : List (V × V)) : Prop := a.length = b.length ∧ ∀ (j : Nat) u v, a[j]? = some u → b[j]? = some v → (u.1 = v.1 ∧ u.1.scalar = true) ∧ FR H Z u.2 v.2
def ObR (ν : Nu) (m : Tb SOb) (H : Heap) (Z : Nat → Prop) (d : Nat) : SOb → Prop
  | .sl k es xs => if rowLike k then ∃ ys, H[(ν d).1]? = some (.row es ys) ∧ (ν d).2 + xs.length ≤ ys.length ∧ FRLL H Z xs ((ys.drop (ν d).2).take xs.length) ∧ Solid H Z ys ∧ (k = .row → (ν d).2 = 0 ∧ ys.length = xs.length)
    else xs = []
  | .box cs => ∃ es cs', H[(ν d).1]? = some (.row es [cs']) ∧ SVRL ν m H Z cs cs' ∧ cs'.all V.one = true
  | .mp kvs => ∃ kvs', H[(ν d).1]? = some (.map kvs') ∧ KvR H Z kvs kvs'
structure R (ν : Nu) (Z : Nat → Prop) (st : St) (F : Frame) (H : Heap) : Prop where
  slot : ∀ s sv, tget st.g s = some sv → SVR ν st.m H Z sv (get F s)
  obj : ∀ d ob, tget st.m d = some ob → ObR ν st.m H Z d ob
  inj : ∀ d d' ob ob', tget st.m d = some ob → tget st.m d' = some ob' → backed ob = true → backed ob' = true → (ν d).1 = (ν d').1 → d = d'
  apart : ∀ d ob, tget st.m d = some ob → backed ob = true → ¬ Z (ν d).1
  zrow : ∀ id, Z id → (rowsAt H id).isSome = true
  deep : Deep H Z
def sameShape : SOb → SOb → Prop
  | .sl k es xs, .sl k' es' xs' => k' = k ∧ es' = es ∧ xs'.length = xs.length
  | .box _, .box _ => True
  | .mp _, .mp _ => True
  | _, _ => False
theorem sameShape.refl (o : SOb) : sameShape o o := by cases o <;> simp [sameShape]
theorem sameShape.trans {a b c : SOb} (h : sameShape a b) (k : sameShape b c) : sameShape a c := by
  cases a <;> cases b <;> cases c <;> simp [sameShape] at * <;> simp_all
structure Ev (Rv : Nat → Prop) (ν : Nu) (Z : Nat → Prop) (st : St) (H : Heap) (ν' : Nu) (Z' : Nat → Prop) (st' : St) (H' : Heap) : Prop where
  len : H.length ≤ H'.length
  same : ∀ id, id < H.length → ¬ Own ν st.m id → ¬ Z id → ¬ Rv id → H'[id]? = H[id]?
  rows : ∀ id, Z id → Z' id ∧ rowsAt H' id = rowsAt H id
  own : ∀ id, Own ν' st'.m id → Own ν st.m id ∨ Rv id ∨ H.length ≤ id
  frz : ∀ id, Z' id → Z id ∨ Own ν st.m id ∨ Rv id ∨ H.length ≤ id
  pin : ∀ d ∈ st.pin, ∀ ob', tget st'.m d = some ob' → ∃ ob, tget st.m d = some ob ∧ ν' d = ν d ∧ sameShape ob ob'
  pins : st'.pin = st.pin
section
variable {Rv Rv' : Nat → Prop} {ν ν' ν2 : Nu} {Z Z' Z2 : Nat → Prop} {st st' st2 : St} {m m' : Tb SOb} {F F' : Frame} {H H' H2 : Heap}
theorem Ev.refl : Ev Rv ν Z st H ν Z st H :=
  ⟨Nat.le_refl _, fun _ _ _ _ _ => rfl, fun _ h => ⟨h, rfl⟩, fun _ h => .inl h, fun _ h => .inl h, fun _ _ ob' h => ⟨ob', h, rfl, .refl _⟩, rfl⟩
theorem Ev.trans (a : Ev Rv ν Z st H ν' Z' st' H') (b : Ev Rv ν' Z' st' H' ν2 Z2 st2 H2) : Ev Rv ν Z st H ν2 Z2 st2 H2 where
  len := Nat.le_trans a.len b.len
  same := fun id hl ho hz hr => by
    rw [b.same id (Nat.lt_of_lt_of_le hl a.len) (fun h => (a.own id h).elim ho fun h => h.elim hr fun h => by omega) (fun h => (a.frz id h).elim hz fun h => h.elim ho fun h => h.elim hr fun h => by omega) hr, a.same id hl ho hz hr]
  rows := fun id h => ⟨(b.rows id (a.rows id h).1).1, by rw [(b.rows id (a.rows id h).1).2, (a.rows id h).2]⟩
  own := fun id h => by
    rcases b.own id h with h | h | h
    · exact a.own id h
    · exact .inr (.inl h)
    · exact .inr (.inr (Nat.le_trans a.len h))
  frz := fun id h => by
    rcases b.frz id h with h | h | h | h
    · exact a.frz id h
    · rcases a.own id h with h | h | h
      · exact .inr (.inl h)
      · exact .inr (.inr (.inl h))
      · exact .inr (.inr (.inr h))
    · exact .inr (.inr (.inl h))
    · exact .inr (.inr (.inr (Nat.le_trans a.len h)))
  pin := fun d hd ob2 h => by
    obtain ⟨ob1, h1, h2, h3⟩ := b.pin d (by rw [a.pins]; exact hd) ob2 h
    obtain ⟨ob, k1, k2, k3⟩ := a.pin d hd ob1 h1
    exact ⟨ob, k1, by rw [h2, k2], k3.trans h3⟩
  pins := by rw [b.pins, a.pins]
theorem Ev.weak (h : ∀ id, Rv id → Rv' id) (a : Ev Rv ν Z st H ν' Z' st' H') : Ev Rv' ν Z st H ν' Z' st' H' :=
  ⟨a.len, fun id hl ho hz hr => a.same id hl ho hz (fun k => hr (h id k)), a.rows, fun id k => (a.own id k).imp (fun x => x) (.imp (h id) (fun x => x)), fun id k => (a.frz id k).imp (fun x => x) (.imp (fun x => x) (.imp (h id) (fun x => x))), a.pin, a.pins⟩
theorem tget_tput_eq {α : Type} : ∀ (g : Tb α) (n : Nat) (v : α), tget (tput g n v) n = some v
  | [], n, v => by simp [tput, tget]
  | (k, x) :: r, n, v => by
    simp only [tput]
    split
    · rename_i h; simp [tget, h]
    · rename_i h; simp [tget, h, tget_tput_eq r n v]
theorem tget_tput_ne {α : Type} : ∀ (g : Tb α) {n k : Nat} (v : α), n ≠ k → tget (tput g n v) k = tget g k
  | [], n, k, v, h => by simp [tput, tget, h]
  | (j, x) :: r, n, k, v, h => by
    simp only [tput]
    split
    · rename_i hk; subst hk; simp [tget, h]
    · simp only [tget]
      split
      · rfl
      · exact tget_tput_ne r v h
theorem tget_tdel_eq {α : Type} : ∀ (g : Tb α) (n : Nat), tget (tdel n g) n = none
  | [], n => rfl
  | (k, x) :: r, n => by
    simp only [tdel]
    split
    · exact tget_tdel_eq r n
    · rename_i hk
      simp only [tget]
      rw [if_neg hk]; exact tget_tdel_eq r n
theorem tget_tdel_ne {α : Type} : ∀ (g : Tb α) {n k : Nat}, n ≠ k → tget (tdel n g) k = tget g k
  | [], n, k, h => rfl
  | (j, x) :: r, n, k, h => by
    simp only [tdel]
    split
    · rename_i hk
      subst hk
      simp only [tget]
      rw [if_neg h]; exact tget_tdel_ne r h
    · simp only [tget]
      split
      · rfl
      · exact tget_tdel_ne r h
theorem tget_tdel {α : Type} {g : Tb α} {n k : Nat} {v : α} (h : tget (tdel n g) k = some v) : n ≠ k ∧ tget g k = some v := by
  by_cases e : n = k
  · subst e; rw [tget_tdel_eq] at h; simp at h
  · rw [tget_tdel_ne g e] at h; exact ⟨e, h⟩
theorem tget_tdels {α : Type} {k : Nat} {v : α} : ∀ {ds : List Nat} {g : Tb α}, tget (tdels ds g) k = some v → tget g k = some v
  | [], _, h => h
  | d :: ds, g, h => (tget_tdel (tget_tdels (ds := ds) h)).2
theorem tget_tkeep {α : Type} {g : Tb α} {k : Nat} {v : α} : ∀ {l : List Nat} {r : Tb α}, tkeep g l = some r → tget r k = some v → tget g k = some v
  | [], r, h, h2 => by simp only [tkeep, Option.some.injEq] at h; subst h; simp [tget] at h2
  | n :: l, r, h, h2 => by
    simp only [tkeep] at h
    split at h
    · rename_i w t h3 h4
      simp only [Option.some.injEq] at h; subst h
      simp only [tget] at h2
      split at h2
      · rename_i e; subst e; rw [h3]; exact h2
      · exact tget_tkeep h4 h2
    · simp at h
theorem saysG_of {d : Nat} : ∀ {g : Tb SV} {s : Nat} {sv : SV}, saysG d g = false → tget g s = some sv → sv.says d = false
  | [], _, _, _, h => by simp [tget] at h
  | (k, x) :: r, s, sv, h, h2 => by
    simp only [saysG, Bool.or_eq_false_iff] at h
    simp only [tget] at h2
    split at h2
    · simp only [Option.some.injEq] at h2; subst h2; exact h.1
    · exact saysG_of h.2 h2
theorem saysM_of {d : Nat} : ∀ {g : Tb SOb} {s : Nat} {ob : SOb}, saysM d g = false → tget g s = some ob → ob.says d = false
  | [], _, _, _, h => by simp [tget] at h
  | (k, x) :: r, s, sv, h, h2 => by
    simp only [saysM, Bool.or_eq_false_iff] at h
    simp only [tget] at h2
    split at h2
    · simp only [Option.some.injEq] at h2; subst h2; exact h.1
    · exact saysM_of h.2 h2
theorem saysL_of {d : Nat} : ∀ {l : List SV} {j : Nat} {u : SV}, SV.saysL d l = false → l[j]? = some u → u.says d = false
  | [], _, _, _, h => by simp at h
  | x :: r, j, u, h, h2 => by
    simp only [SV.saysL, Bool.or_eq_false_iff] at h
    cases j with
    | zero => simp at h2; subst h2; exact h.1
    | succ j => exact saysL_of h.2 (by simpa using h2)
theorem saysL_mem {d : Nat} : ∀ {l : List SV} {j : Nat} {u : SV}, l[j]? = some u → u.says d = true → SV.saysL d l = true
  | [], _, _, h, _ => by simp at h
  | x :: r, j, u, h, h2 => by
    simp only [SV.saysL, Bool.or_eq_true]
    cases j with
    | zero => simp at h; subst h; exact .inl h2
    | succ j => exact .inr (saysL_mem (j := j) (by simpa using h) h2)
theorem SVR.mono {sv : SV} {y : V} (hz : ∀ id, Z id → Z' id ∧ rowsAt H' id = rowsAt H id)
    (r : SVR ν m H Z sv y) (hn : ∀ d, sv.says d = true → ∀ ob', tget m' d = some ob' → ∃ ob, tget m d = some ob ∧ ν' d = ν d ∧ sameShape ob ob') : SVR ν' m' H' Z' sv y := by
  induction r with
  | v x y h => exact .v x y (h.mono hz)
  | own d y h =>
    refine .own d y fun ob' ho => ?_
    obtain ⟨ob, h1, h2, h3⟩ := hn d (by simp [SV.says]) ob' ho
    obtain ⟨k, es, xs, rfl, rfl⟩ := h ob h1
    cases ob' <;> simp only [sameShape] at h3
    obtain ⟨rfl, rfl, h5⟩ := h3
    exact ⟨_, _, _, rfl, by rw [h2, h5]⟩
  | ptr d o y h =>
    refine .ptr d o y fun ob' ho => ?_
    obtain ⟨ob, h1, h2, h3⟩ := hn d (by simp [SV.says]) ob' ho
    obtain ⟨cs, rfl, rfl⟩ := h ob h1
    cases ob' <;> simp only [sameShape] at h3
    exact ⟨_, rfl, by rw [h2]⟩
  | el d i o y h =>
    refine .el d i o y fun ob' ho => ?_
    obtain ⟨ob, h1, h2, h3⟩ := hn d (by simp [SV.says]) ob' ho
    obtain ⟨k, es, xs, rfl, h4, rfl⟩ := h ob h1
    cases ob' <;> simp only [sameShape] at h3
    obtain ⟨rfl, rfl, h5⟩ := h3
    exact ⟨_, _, _, rfl, h4, by rw [h2]⟩
  | mp d y h =>
    refine .mp d y fun ob' ho => ?_
    obtain ⟨ob, h1, h2, h3⟩ := hn d (by simp [SV.says]) ob' ho
    obtain ⟨cs, rfl, rfl⟩ := h ob h1
    cases ob' <;> simp only [sameShape] at h3
    exact ⟨_, rfl, by rw [h2]⟩
  | clo f a b a' b' ha hb hva hvb iha ihb =>
    exact .clo f a b a' b' ha hb (fun j u v hu hv => iha j u v hu hv fun d hd => hn d (by simp [SV.says, saysL_mem hu hd])) (fun j u v hu hv => ihb j u v hu hv fun d hd => hn d (by simp [SV.says, saysL_mem hu hd]))
  | tup a a' ha hva iha =>
    exact .tup a a' ha (fun j u v hu hv => iha j u v hu hv fun d hd => hn d (by simp [SV.says, saysL_mem hu hd]))
  | yl id => exact .yl id
theorem SVRL.mono {sv : List SV} {y : List V} (hz : ∀ id, Z id → Z' id ∧ rowsAt H' id = rowsAt H id)
    (r : SVRL ν m H Z sv y) (hn : ∀ d, SV.saysL d sv = true → ∀ ob', tget m' d = some ob' → ∃ ob, tget m d = some ob ∧ ν' d = ν d ∧ sameShape ob ob') : SVRL ν' m' H' Z' sv y :=
  ⟨r.1, fun j u v hu hv => (r.2 j u v hu hv).mono hz fun d hd => hn d (saysL_mem hu hd)⟩
theorem SVRL.nil : SVRL ν m H Z [] [] := ⟨rfl, by simp⟩
theorem SVRL.cons {x : SV} {y : V} {xs : List SV} {ys : List V} (h : SVR ν m H Z x y) (r : SVRL ν m H Z xs ys) : SVRL ν m H Z (x :: xs) (y :: ys) := by
  refine ⟨by simp [r.1], fun j u v hu hv => ?_⟩
  cases j with
  | zero => simp at hu hv; subst hu; subst hv; exact h
  | succ j => exact r.2 j u v (by simpa using hu) (by simpa using hv)
theorem SVRL.inv {x : SV} {xs : List SV} {ws : List V} (r : SVRL ν m H Z (x :: xs) ws) : ∃ y ys, ws = y :: ys ∧ SVR ν m H Z x y ∧ SVRL ν m H Z xs ys := by
  cases ws with
  | nil => have := r.1; simp at this
  | cons y ys =>
    refine ⟨y, ys, rfl, r.2 0 x y rfl rfl, by have := r.1; simpa using this, fun j u v hu hv => r.2 (j + 1) u v (by simpa using hu) (by simpa using hv)⟩
theorem SVRL.inv0 {ws : List V} (r : SVRL ν m H Z [] ws) : ws = [] := by
  have := r.1
  exact List.length_eq_zero_iff.1 this.symm
theorem SVRL.get {xs : List SV} {ys : List V} (r : SVRL ν m H Z xs ys) {j : Nat} {u : SV} (h : xs[j]? = some u) : ∃ v, ys[j]? = some v ∧ SVR ν m H Z u v := by
  have hj : j < xs.length := (List.getElem?_eq_some_iff.1 h).1
  have : j < ys.length := by rw [← r.1]; exact hj
  exact ⟨ys[j], List.getElem?_eq_getElem this, r.2 j u _ h (List.getElem?_eq_getElem this)⟩
theorem SVRL.append {a c : List SV} {b d : List V} (h : SVRL ν m H Z a b) (k : SVRL ν m H Z c d) : SVRL ν m H Z (a ++ c) (b ++ d) := by
  refine ⟨by simp [h.1, k.1], fun j u v hu hv => ?_⟩
  by_cases hj : j < a.length
  · rw [List.getElem?_append_left hj] at hu
    rw [List.getElem?_append_left (by rw [← h.1]; exact hj)] at hv
    exact h.2 j u v hu hv
  · rw [List.getElem?_append_right (by omega)] at hu
    rw [List.getElem?_append_right (by rw [← h.1]; omega), ← h.1] at hv
    exact k.2 _ u v hu hv
theorem SVRL.take {a : List SV} {b : List V} (h : SVRL ν m H Z a b) (n : Nat) : SVRL ν m H Z (a.take n) (b.take n) := by
  refine ⟨by simp [h.1], fun j u v hu hv => ?_⟩
  rw [List.getElem?_take] at hu hv
  split at hu
  · rename_i hj; rw [if_pos hj] at hv; exact h.2 j u v hu hv
  · simp at hu
theorem SVRL.drop {a : List SV} {b : List V} (h : SVRL ν m H Z a b) (n : Nat) : SVRL ν m H Z (a.drop n) (b.drop n) := by
  refine ⟨by simp [h.1], fun j u v hu hv => ?_⟩
  rw [List.getElem?_drop] at hu hv
  exact h.2 _ u v hu hv
theorem SVR.fr {x y : V} (r : SVR ν m H Z (.v x) y) : FR H Z x y := by cases r; assumption
theorem SVRL.ofFRL {xs ys : List V} (r : FRL H Z xs ys) : SVRL ν m H Z (xs.map .v) ys := by
  refine ⟨by simp [r.1], fun j u v hu hv => ?_⟩
  rw [List.getElem?_map, Option.map_eq_some_iff] at hu
  obtain ⟨x, hx, rfl⟩ := hu
  exact .v x v (r.2 j x v hx hv)
theorem allV_spec : ∀ {svs : List SV} {xs : List V}, allV svs = some xs → svs = xs.map .v
  | [], xs, h => by simp only [allV, Option.some.injEq] at h; subst h; rfl
  | x :: r, xs, h => by
    cases x <;> simp only [allV] at h <;> first | simp at h; done | skip
    obtain ⟨t, ht, rfl⟩ := Option.map_eq_some_iff.1 h
    rw [allV_spec ht]; rfl
theorem SVRL.frl {xs ys : List V} (r : SVRL ν m H Z (xs.map .v) ys) : FRL H Z xs ys := by
  refine ⟨by have := r.1; simpa using this, fun j u v hu hv => ?_⟩
  have : (xs.map SV.v)[j]? = some (.v u) := by rw [List.getElem?_map, hu]; rfl
  exact (r.2 j _ v this hv).fr
end
end Go.VE
namespace Go.VE
section
variable {ν : Nu} {Z : Nat → Prop} {st : St} {m : Tb SOb} {F : Frame} {H H1 : Heap} {N : Nat → FuncId}
def argN (nm : FuncId → Option Nat) : Operand → Option Arg
  | .tmp t => some (.s t)
  | .const v => match ofValue 4 v with
    | some c => if c.good then some (.k c) else none
    | none => none
  | .func f => (nm f).map .f
  | .global _ => none
theorem sarg_ok {nm : FuncId → Option Nat} (hN : ∀ f s, nm f = some s → N s = f) {g : Tb SV} (hs : ∀ s sv, tget g s = some sv → SVR ν m H Z sv (get F s)) {o : Operand} {x : Arg} {sv : SV} (ha : argN nm o = some x) (hv : sarg N g x = some sv) :
    ∃ y, ev F o = some y ∧ SVR ν m H Z sv y := by
  cases o with
  | tmp t =>
    simp only [argN, Option.some.injEq] at ha; subst ha
    exact ⟨get F t, rfl, hs t sv hv⟩
  | const w =>
    simp only [argN] at ha
    split at ha
    · rename_i c hc
      split at ha
      · rename_i hcl
        simp only [Option.some.injEq] at ha; subst ha
        simp only [sarg, Option.some.injEq] at hv; subst hv
        exact ⟨c, hc, .v _ _ (.same _ hcl)⟩
      · simp at ha
    · simp at ha
  | func f =>
    simp only [argN, Option.map_eq_some_iff] at ha
    obtain ⟨z, hz, rfl⟩ := ha
    simp only [sarg, Option.some.injEq] at hv; subst hv
    exact ⟨_, rfl, .v _ _ (by rw [hN f z hz]; exact .same _ rfl)⟩
  | global _ => simp [argN] at ha
theorem sargs_ok {nm : FuncId → Option Nat} (hN : ∀ f s, nm f = some s → N s = f) {g : Tb SV} (hs : ∀ s sv, tget g s = some sv → SVR ν m H Z sv (get F s)) : ∀ {os : List Operand} {xs : List Arg} {svs : List SV},
    os.mapM (argN nm) = some xs → sargs N g xs = some svs → ∃ ys, evs F os = some ys ∧ SVRL ν m H Z svs ys
  | [], xs, svs, ha, hv => by
    simp only [List.mapM_nil, Option.pure_def, Option.some.injEq] at ha; subst ha
    simp only [sargs, Option.some.injEq] at hv; subst hv
    exact ⟨[], rfl, .nil⟩
  | o :: os, xs, svs, ha, hv => by
    simp only [List.mapM_cons, Option.pure_def, Option.bind_eq_bind, Option.bind_eq_some_iff, Option.some.injEq] at ha
    obtain ⟨x, hx, ys, hy, rfl⟩ := ha
    simp only [sargs] at hv
    split at hv
    · rename_i v ws h1 h2
      simp only [Option.some.injEq] at hv; subst hv
      obtain ⟨a, ha, ra⟩ := sarg_ok hN hs hx h1
      obtain ⟨as, has, ras⟩ := sargs_ok hN hs hy h2
      exact ⟨a :: as, by simp only [evs, ha, has], .cons ra ras⟩
    · simp at hv
theorem SVR.own_inv {d : Nat} {y : V} (r : SVR ν m H Z (.own d) y) {ob : SOb} (h : tget m d = some ob) : ∃ k es xs, ob = .sl k es xs ∧ y = slA (ν d) k es xs.length := by
  cases r with | own _ _ hh => exact hh ob h
theorem SVR.ptr_inv {d o : Nat} {y : V} (r : SVR ν m H Z (.ptr d o) y) {ob : SOb} (h : tget m d = some ob) : ∃ cs, ob = .box cs ∧ y = .hptr (ν d).1 0 o := by
  cases r with | ptr _ _ _ hh => exact hh ob h
theorem SVR.el_inv {d i o : Nat} {y : V} (r : SVR ν m H Z (.el d i o) y) {ob : SOb} (h : tget m d = some ob) : ∃ k es xs, ob = .sl k es xs ∧ rowLike k = true ∧ y = .hptr (ν d).1 ((ν d).2 + i) o := by
  cases r with | el _ _ _ _ hh => exact hh ob h
theorem SVR.mp_inv {d : Nat} {y : V} (r : SVR ν m H Z (.mp d) y) {ob : SOb} (h : tget m d = some ob) : ∃ kvs, ob = .mp kvs ∧ y = .hmap (ν d).1 := by
  cases r with | mp _ _ hh => exact hh ob h
theorem SVR.clo_inv {f : FuncId} {a b : List SV} {y : V} (r : SVR ν m H Z (.clo f a b) y) : ∃ a' b', y = .clo f a' b' ∧ SVRL ν m H Z a a' ∧ SVRL ν m H Z b b' := by
  cases r with | clo _ _ _ a' b' ha hb hva hvb => exact ⟨a', b', rfl, ⟨ha, hva⟩, ⟨hb, hvb⟩⟩
theorem SVR.tup_inv {a : List SV} {y : V} (r : SVR ν m H Z (.tup a) y) : ∃ a', y = .tup a' ∧ SVRL ν m H Z a a' := by
  cases r with | tup _ a' ha hva => exact ⟨a', rfl, ha, hva⟩
theorem slA_row {p : Nat × Nat} {k : Fl} {es len : Nat} (h : rowLike k = true) : slA p k es len = .hsl p.1 es p.2 len := by
  cases k <;> simp [rowLike] at h <;> rfl
theorem pureR_ok {p : POp} {svs : List SV} {ys : List V} {sv : SV} (ho : ∀ d ob, tget m d = some ob → ObR ν m H Z d ob) (h : SVRL ν m H Z svs ys) (hp : pureR N m p svs = some sv) : ∃ y, peval N p ys = some y ∧ SVR ν m H Z sv y := by
  unfold pureR at hp
  split at hp
  ·
    obtain ⟨y, _, rfl, h1, h2⟩ := h.inv; rw [h2.inv0]
    simp only [Option.some.injEq] at hp; subst hp
    exact ⟨y, rfl, h1⟩
  · obtain ⟨y, _, rfl, h1, h2⟩ := h.inv; rw [h2.inv0]
    split at hp
    · rename_i hs
      simp only [Option.some.injEq] at hp; subst hp
      obtain ⟨ob, hob⟩ := Option.isSome_iff_exists.1 hs
      obtain ⟨cs, rfl, rfl⟩ := h1.ptr_inv hob
      exact ⟨_, rfl, h1⟩
    · simp at hp
  · obtain ⟨y, _, rfl, h1, h2⟩ := h.inv; rw [h2.inv0]
    split at hp
    · rename_i hs
      simp only [Option.some.injEq] at hp; subst hp
      obtain ⟨ob, hob⟩ := Option.isSome_iff_exists.1 hs
      obtain ⟨k, es, xs, rfl, hk, rfl⟩ := h1.el_inv hob
      exact ⟨_, rfl, h1⟩
    · simp at hp
  ·
    rename_i t a b
    obtain ⟨w1, _, rfl, h1, h2⟩ := h.inv
    obtain ⟨w2, _, rfl, h3, h4⟩ := h2.inv
    obtain ⟨w3, _, rfl, h5, h6⟩ := h4.inv
    rw [h1.fr.bool, h6.inv0]
    simp only [Option.some.injEq] at hp; subst hp
    refine ⟨if t = true then w2 else w3, rfl, ?_⟩
    cases t
    · exact h5
    · exact h3
  ·
    obtain ⟨w1, _, rfl, h1, h2⟩ := h.inv
    obtain ⟨w2, _, rfl, h3, h4⟩ := h2.inv
    rw [h3.fr.nsl, h4.inv0]
    split at hp
    · rename_i k es xs hob
      split at hp
      · simp at hp
      · rename_i hk
        simp only [Option.some.injEq] at hp; subst hp
        obtain ⟨k', es', xs', e, rfl⟩ := h1.own_inv hob
        cases e
        cases k <;> first | exact absurd rfl hk | exact ⟨_, rfl, .v _ _ (.same _ rfl)⟩
    · simp at hp
  · obtain ⟨w1, _, rfl, h1, h2⟩ := h.inv
    obtain ⟨w2, _, rfl, h3, h4⟩ := h2.inv
    rw [h3.fr.nsl, h4.inv0]
    split at hp
    · rename_i k es xs hob
      split at hp
      · simp at hp
      · rename_i hk
        simp only [Option.some.injEq] at hp; subst hp
        obtain ⟨k', es', xs', e, rfl⟩ := h1.own_inv hob
        cases e
        cases k <;> first | exact absurd rfl hk | exact ⟨_, rfl, .v _ _ (.same _ rfl)⟩
    · simp at hp
  ·
    obtain ⟨y, _, rfl, h1, h2⟩ := h.inv; rw [h2.inv0]
    split at hp
    · rename_i hs
      simp only [Option.some.injEq] at hp; subst hp
      obtain ⟨ob, hob⟩ := Option.isSome_iff_exists.1 hs
      obtain ⟨cs, rfl, rfl⟩ := h1.ptr_inv hob
      exact ⟨_, rfl, .ptr _ _ _ fun ob' h' => by rw [hob] at h'; cases h'; exact ⟨_, rfl, rfl⟩⟩
    · simp at hp
  · obtain ⟨y, _, rfl, h1, h2⟩ := h.inv; rw [h2.inv0]
    split at hp
    · rename_i hs
      simp only [Option.some.injEq] at hp; subst hp
      obtain ⟨ob, hob⟩ := Option.isSome_iff_exists.1 hs
      obtain ⟨k, es, xs, rfl, hk, rfl⟩ := h1.el_inv hob
      exact ⟨_, rfl, .el _ _ _ _ fun ob' h' => by rw [hob] at h'; cases h'; exact ⟨_, _, _, rfl, hk, rfl⟩⟩
    · simp at hp
  ·
    obtain ⟨w1, _, rfl, h1, h2⟩ := h.inv
    obtain ⟨w2, _, rfl, h3, h4⟩ := h2.inv
    rw [h3.fr.int, h4.inv0]
    split at hp
    · rename_i k es xs hob
      split at hp
      · rename_i hc
        obtain ⟨hk, rfl, hn, hlt⟩ := hc
        simp only [Option.some.injEq] at hp; subst hp
        obtain ⟨k', es', xs', e, rfl⟩ := h1.own_inv hob
        cases e
        rw [slA_row hk]
        refine ⟨.hptr (ν _).1 ((ν _).2 + _) 0, by simp only [peval, idxSV, if_neg (Int.not_lt.2 hn), true_and, if_pos hlt]; rfl, .el _ _ _ _ fun ob' h' => ?_⟩
        rw [hob] at h'; cases h'; exact ⟨_, _, _, rfl, hk, rfl⟩
      · simp at hp
    · simp at hp
  ·
    obtain ⟨w1, _, rfl, h1, h2⟩ := h.inv
    obtain ⟨w2, _, rfl, h3, h4⟩ := h2.inv
    rw [h3.fr.int, h4.inv0]
    split at hp
    · rename_i hc
      simp only [Option.some.injEq] at hp; subst hp
      obtain ⟨ob, hob⟩ := Option.isSome_iff_exists.1 hc.2.2
      obtain ⟨cs, rfl, rfl⟩ := h1.ptr_inv hob
      refine ⟨.hptr (ν _).1 0 (_ + _), by simp only [peval, idxAV, if_pos (And.intro hc.1 hc.2.1)]; rfl, .ptr _ _ _ fun ob' h' => ?_⟩
      rw [hob] at h'; cases h'; exact ⟨_, rfl, rfl⟩
    · simp at hp
  · obtain ⟨w1, _, rfl, h1, h2⟩ := h.inv
    obtain ⟨w2, _, rfl, h3, h4⟩ := h2.inv
    rw [h3.fr.int, h4.inv0]
    split at hp
    · rename_i hc
      simp only [Option.some.injEq] at hp; subst hp
      obtain ⟨ob, hob⟩ := Option.isSome_iff_exists.1 hc.2.2
      obtain ⟨k, es, xs, rfl, hk, rfl⟩ := h1.el_inv hob
      refine ⟨.hptr (ν _).1 (_ + _) (_ + _), by simp only [peval, idxAV, if_pos (And.intro hc.1 hc.2.1)]; rfl, .el _ _ _ _ fun ob' h' => ?_⟩
      rw [hob] at h'; cases h'; exact ⟨_, _, _, rfl, hk, rfl⟩
    · simp at hp
  ·
    obtain ⟨w1, _, rfl, h1, h2⟩ := h.inv
    rw [h2.inv0]
    split at hp
    · rename_i k es xs hob
      simp only [Option.some.injEq] at hp; subst hp
      obtain ⟨k', es', xs', e, rfl⟩ := h1.own_inv hob
      cases e
      have := ho _ _ hob
      simp only [ObR] at this
      cases hk : k <;> simp only [hk, rowLike, Bool.false_eq_true, if_false] at this ⊢
      · subst this; exact ⟨_, rfl, .v _ _ (.same _ rfl)⟩
      · subst this; exact ⟨_, rfl, .v _ _ (.same _ rfl)⟩
      · exact ⟨_, rfl, .v _ _ (.same _ rfl)⟩
      · exact ⟨_, rfl, .v _ _ (.same _ rfl)⟩
    · simp at hp
  ·
    rename_i vs name k
    simp only [Option.some.injEq] at hp; subst hp
    exact ⟨_, rfl, .clo _ _ _ _ _ (h.take k).1 (h.drop k).1 (h.take k).2 (h.drop k).2⟩
  ·
    obtain ⟨w1, _, rfl, h1, h2⟩ := h.inv
    rw [h2.inv0]
    obtain ⟨ws, rfl, hw⟩ := h1.tup_inv
    obtain ⟨z, hz, hzz⟩ := hw.get hp
    exact ⟨z, hz, hzz⟩
  · simp at hp
theorem pureS_ok {p : POp} {svs : List SV} {ys : List V} {sv : SV} (hb : ∀ zero pl, p = .build zero pl → V.goodL zero = true) (ho : ∀ d ob, tget m d = some ob → ObR ν m H Z d ob) (h : SVRL ν m H Z svs ys) (hp : pureS N m p svs = some sv) :
    ∃ y, peval N p ys = some y ∧ SVR ν m H Z sv y := by
  unfold pureS at hp
  split at hp
  · rename_i xs hx
    obtain ⟨z, hz, rfl⟩ := Option.map_eq_some_iff.1 hp
    rw [allV_spec hx] at h
    obtain ⟨z', h1, h2⟩ := FRL.peval hb h.frl hz
    exact ⟨z', h1, .v _ _ h2⟩
  · exact pureR_ok ho h hp
theorem SVRL.allV {svs : List SV} {xs ys : List V} (h : SVRL ν m H Z svs ys) (ha : allV svs = some xs) : FRL H Z xs ys := by
  rw [allV_spec ha] at h; exact h.frl
theorem loadC_ok {size o : Nat} {agg : Bool} {cs : List SV} {cs' : List V} {sv : SV} (h : SVRL ν m H Z cs cs') (hp : loadC size agg ((cs.drop o).take size) = some sv) : ∃ y, (cut cs' o size).bind (mk agg) = some y ∧ SVR ν m H Z sv y := by
  have h2 := (h.drop o).take size
  unfold loadC at hp
  split at hp
  · rename_i hl
    have hc : cut cs' o size = some ((cs'.drop o).take size) := by
      unfold cut; dsimp only; rw [if_pos (by rw [← h2.1]; exact hl)]
    rw [hc]
    simp only [Option.bind_some]
    split at hp
    · rename_i ha
      obtain ⟨xs, hx, rfl⟩ := Option.map_eq_some_iff.1 hp
      have hf := h2.allV hx
      exact ⟨_, by unfold mk; rw [if_pos ha], .v _ _ (.agg _ _ hf.1 hf.2)⟩
    · rename_i ha
      split at hp
      · rename_i x hx
        simp only [Option.some.injEq] at hp; subst hp
        rw [hx] at h2
        obtain ⟨y, ys, e, h3, h4⟩ := h2.inv
        rw [e, h4.inv0]
        exact ⟨y, by unfold mk; rw [if_neg ha], h3⟩
      · simp at hp
  · simp at hp
theorem findV_ok {k : V} : ∀ {a b : List (V × V)} {i : Nat}, KvR H Z a b → (findV k a i = some none → findV k b i = some none) ∧ ∀ j v, findV k a i = some (some (j, v)) → ∃ v', findV k b i = some (some (j, v')) ∧ FR H Z v v'
  | [], b, i, h => by
    have : b = [] := List.length_eq_zero_iff.1 (by have := h.1; simpa using this.symm)
    subst this
    exact ⟨fun h => h, fun j v h => by simp [findV] at h⟩
  | (k1, x) :: a, [], i, h => by have := h.1; simp at this
  | (k1, x) :: a, (k2, y) :: b, i, h => by
    obtain ⟨⟨e, _⟩, hx⟩ := h.2 0 _ _ rfl rfl
    simp only at e hx
    subst e
    have ht : KvR H Z a b := ⟨by have := h.1; simpa using this, fun j u v hu hv => h.2 (j + 1) u v (by simpa using hu) (by simpa using hv)⟩
    have ih := findV_ok (i := i + 1) (k := k) ht
    simp only [findV]
    cases hk : keyEq k k1 with
    | none => simp
    | some t =>
      cases t
      · exact ih
      · refine ⟨by simp, fun j v h => ?_⟩
        simp only [Option.some.injEq, Prod.mk.injEq] at h
        obtain ⟨rfl, rfl⟩ := h
        exact ⟨y, rfl, hx⟩
theorem key_scalar {kk : KeyK} {k : V} (h : keyOkT kk k = true) : k.scalar = true := by
  unfold keyOkT at h
  split at h
  · rfl
  · rfl
  · simp only [Bool.and_eq_true] at h
    obtain ⟨a, ha⟩ := Option.isSome_iff_exists.1 h.2
    simp only [V.scalar]; exact intsOf_scalar ha
  · simp at h
theorem readS_ok {r : ROp} {svs : List SV} {ys : List V} {sv : SV} (hzc : ∀ kk z ok, r = .lookup kk z ok → z.good = true) (h : SVRL ν m H Z svs ys) (ho : ∀ d, SV.saysL d svs = true → ∀ ob, tget m d = some ob → ObR ν m H Z d ob) (hp : readS m r svs = some sv) :
    ∃ y, reval H r ys = some y ∧ SVR ν m H Z sv y := by
  unfold readS at hp
  split at hp
  ·
    obtain ⟨w1, _, rfl, h1, h2⟩ := h.inv
    rw [h2.inv0]
    split at hp
    · rename_i cs hob
      obtain ⟨cs1, e, rfl⟩ := h1.ptr_inv hob
      obtain ⟨es, cs', hr, hc, _⟩ := ho _ (by simp [SV.saysL, SV.says]) _ hob
      obtain ⟨y, hy, hyy⟩ := loadC_ok hc hp
      refine ⟨y, ?_, hyy⟩
      simp only [reval, cellsAt, hr, Option.bind_some, Ob.rows, List.getElem?_cons_zero]
      exact hy
    · simp at hp
  ·
    obtain ⟨w1, _, rfl, h1, h2⟩ := h.inv
    rw [h2.inv0]
    split at hp
    · rename_i k es xs hob
      split at hp
      · rename_i cs hcs
        obtain ⟨z, hz, rfl⟩ := Option.map_eq_some_iff.1 hp
        obtain ⟨k1, es1, xs1, e, hk, rfl⟩ := h1.el_inv hob
        cases e
        have := ho _ (by simp [SV.saysL, SV.says]) _ hob
        simp only [ObR, hk, if_true] at this
        obtain ⟨rs, hr, hl, hf, _⟩ := this
        obtain ⟨c, hc, hcc⟩ := hf.get hcs
        have hj := (List.getElem?_eq_some_iff.1 hcs).1
        rw [List.getElem?_take, if_pos hj, List.getElem?_drop] at hc
        obtain ⟨r1, hr1, hm1⟩ := Option.bind_eq_some_iff.1 hz
        obtain ⟨r2, hr2, hrr⟩ := hcc.cut hr1
        obtain ⟨z', hz', hzz⟩ := hrr.mk hm1
        refine ⟨z', ?_, .v _ _ hzz⟩
        simp only [reval, cellsAt, hr, Option.bind_some, Ob.rows, hc, hr2, hz']
      · simp at hp
    · simp at hp
  ·
    rename_i size agg p
    obtain ⟨w1, _, rfl, h1, h2⟩ := h.inv
    rw [h2.inv0]
    obtain ⟨z, hz, rfl⟩ := Option.map_eq_some_iff.1 hp
    obtain ⟨r1, hr1, hm1⟩ := Option.bind_eq_some_iff.1 hz
    unfold cellsAt at hr1
    split at hr1
    · rename_i cs
      rcases h1.fr.fptr_inv with rfl | ⟨id, el, off, es, ys, cs2, rfl, hzz, hr, he, hle, hf⟩
      · refine ⟨z, by simp only [reval, cellsAt, hr1, Option.bind_some, hm1], .v _ _ (.same _ ?_)⟩
        have hcl : V.goodL cs = true := by have := h1.fr.good; simpa [V.good] using this
        obtain ⟨r', hr', hrr⟩ := (FRL.same (H := H) (Z := Z) hcl).cut hr1
        obtain ⟨z', hz', hzz'⟩ := hrr.mk hm1
        exact hzz'.good
      · obtain ⟨r2, hr2, hrr⟩ := hf.cut hr1
        obtain ⟨z', hz', hzz'⟩ := hrr.mk hm1
        refine ⟨z', ?_, .v _ _ hzz'⟩
        unfold rowsAt at hr
        simp only [reval, cellsAt, hr, he]
        have : cut cs2 off size = some r2 := by
          unfold cut at hr2 ⊢
          simpa [List.drop_drop] using hr2
        rw [this]; exact hz'
    · exact absurd h1.fr.closed (by simp [V.closed])
    · simp at hr1
  ·
    rename_i kk z ok d k
    obtain ⟨w1, _, rfl, h1, h2⟩ := h.inv
    obtain ⟨w2, _, rfl, h3, h4⟩ := h2.inv
    rw [h4.inv0]
    split at hp
    · rename_i kvs hob
      split at hp
      · rename_i hk
        obtain ⟨_, e, rfl⟩ := h1.mp_inv hob
        cases e
        have hkk := h3.fr.scalar.1 (key_scalar hk)
        subst hkk
        obtain ⟨kvs', hr, hkv⟩ := ho _ (by simp [SV.saysL, SV.says]) _ hob
        obtain ⟨f1, f2⟩ := findV_ok (k := w2) (i := 0) hkv
        split at hp
        · rename_i j v hf
          obtain ⟨v', hf', hvv⟩ := f2 j v hf
          simp only [Option.some.injEq] at hp; subst hp
          refine ⟨if ok = true then .tup [v', .bool true] else v', by simp only [reval, mapAt, hr, hk, if_true, hf'], ?_⟩
          cases ok
          · exact .v _ _ hvv
          · refine .v _ _ (.tup _ _ rfl (FRL.cons hvv (.cons (.same _ rfl) .nil)).2)
        · rename_i hf
          simp only [Option.some.injEq] at hp; subst hp
          refine ⟨if ok = true then .tup [z, .bool false] else z, by simp only [reval, mapAt, hr, hk, if_true, f1 hf], ?_⟩
          have hz := hzc kk z ok rfl
          cases ok
          · exact .v _ _ (.same _ hz)
          · exact .v _ _ (.same _ (by simp [V.good, V.goodL, hz]))
        · simp at hp
      · simp at hp
    · simp at hp
  ·
    rename_i kk z ok p k
    obtain ⟨w1, _, rfl, h1, h2⟩ := h.inv
    obtain ⟨w2, _, rfl, h3, h4⟩ := h2.inv
    rw [h4.inv0]
    obtain ⟨x, hx, rfl⟩ := Option.map_eq_some_iff.1 hp
    simp only [reval] at hx
    have hz := hzc kk z ok rfl
    split at hx
    · rename_i kvs hm
      have key : mapAt H w1 = some kvs ∧ V.goodM kvs = true := by
        unfold mapAt at hm
        split at hm
        · rw [h1.fr.nmap]; simp only [Option.some.injEq] at hm; subst hm; exact ⟨rfl, rfl⟩
        · rw [h1.fr.fmap]; simp only [Option.some.injEq] at hm; subst hm; exact ⟨rfl, by have := h1.fr.good; simpa [V.good] using this⟩
        · simp at hm
        · simp at hm
      split at hx
      · rename_i hk
        have hkk := h3.fr.scalar.1 (key_scalar hk)
        subst hkk
        split at hx
        · rename_i j v hf
          simp only [Option.some.injEq] at hx; subst hx
          have hv : v.good = true := by
            have : ∀ {l : List (V × V)} {i : Nat}, V.goodM l = true → findV w2 l i = some (some (j, v)) → v.good = true := by
              intro l
              induction l with
              | nil => intro i _ h; simp [findV] at h
              | cons p l ih =>
                intro i hg h
                obtain ⟨a, b⟩ := p
                simp only [V.goodM, Bool.and_eq_true] at hg
                simp only [findV] at h
                split at h
                · simp only [Option.some.injEq, Prod.mk.injEq] at h; obtain ⟨_, rfl⟩ := h; exact hg.1.2
                · exact ih hg.2 h
                · simp at h
            exact this key.2 hf
          refine ⟨if ok = true then .tup [v, .bool true] else v, by simp only [reval, key.1, hk, if_true, hf], ?_⟩
          cases ok
          · exact .v _ _ (.same _ hv)
          · exact .v _ _ (.same _ (by simp [V.good, V.goodL, hv]))
        · rename_i hf
          simp only [Option.some.injEq] at hx; subst hx
          refine ⟨if ok = true then .tup [z, .bool false] else z, by simp only [reval, key.1, hk, if_true, hf], ?_⟩
          cases ok
          · exact .v _ _ (.same _ hz)
          · exact .v _ _ (.same _ (by simp [V.good, V.goodL, hz]))
        · simp at hx
      · simp at hx
    · simp at hx
  · simp at hp
end
end Go.VE
namespace Go.VE
section
variable {Rv : Nat → Prop} {ν ν' : Nu} {Z Z' : Nat → Prop} {st st' : St} {m m' : Tb SOb} {F F' : Frame} {H H' : Heap}
theorem R.lt (r : R ν Z st F H) {id : Nat} (h : Own ν st.m id) : id < H.length := by
  obtain ⟨d, ob, h1, h2, rfl⟩ := h
  have := r.obj d ob h1
  cases ob with
  | sl k es xs =>
    simp only [backed] at h2
    simp only [ObR, h2, if_true] at this
    obtain ⟨ys, hr, _⟩ := this
    exact (List.getElem?_eq_some_iff.1 hr).1
  | box cs => obtain ⟨es, cs', hr, _⟩ := this; exact (List.getElem?_eq_some_iff.1 hr).1
  | mp kvs => obtain ⟨kvs', hr, _⟩ := this; exact (List.getElem?_eq_some_iff.1 hr).1
theorem R.zlt (r : R ν Z st F H) {id : Nat} (h : Z id) : id < H.length := by
  have := r.zrow id h
  unfold rowsAt at this
  obtain ⟨x, hx⟩ := Option.isSome_iff_exists.1 this
  obtain ⟨ob, h1, _⟩ := Option.bind_eq_some_iff.1 hx
  exact (List.getElem?_eq_some_iff.1 h1).1
theorem Deep.mono (d : Deep H Z) (h : ∀ id, Z id → rowsAt H' id = rowsAt H id) : Deep H' Z where
  row := fun id es ys hz hr c hc u hu => by
    rw [h id hz] at hr
    obtain ⟨x, hx⟩ := d.row id es ys hz hr c hc u hu
    exact ⟨x, hx.mono fun k hk => ⟨hk, h k hk⟩⟩
theorem Solid.mono {ys : List (List V)} (h : ∀ id, Z id → Z' id ∧ rowsAt H' id = rowsAt H id) (s : Solid H Z ys) : Solid H' Z' ys := fun c hc u hu => by
  obtain ⟨x, hx⟩ := s c hc u hu; exact ⟨x, hx.mono h⟩
theorem KvR.mono {a b : List (V × V)} (h : ∀ id, Z id → Z' id ∧ rowsAt H' id = rowsAt H id) (s : KvR H Z a b) : KvR H' Z' a b := ⟨s.1, fun j u v hu hv => ⟨(s.2 j u v hu hv).1, (s.2 j u v hu hv).2.mono h⟩⟩
theorem ObR.mono {d d' : Nat} {ob : SOb} (hz : ∀ id, Z id → Z' id ∧ rowsAt H' id = rowsAt H id) (hd : ν' d' = ν d) (hh : backed ob = true → H'[(ν d).1]? = H[(ν d).1]?)
    (hn : ∀ e, ob.says e = true → ∀ ob', tget m' e = some ob' → ∃ ob, tget m e = some ob ∧ ν' e = ν e ∧ sameShape ob ob') (o : ObR ν m H Z d ob) : ObR ν' m' H' Z' d' ob := by
  cases ob with
  | sl k es xs =>
    simp only [ObR, hd] at o ⊢
    split
    · rename_i hk
      rw [if_pos hk] at o
      obtain ⟨ys, h1, h2, h3, h4, h5⟩ := o
      exact ⟨ys, by rw [hh (by simpa [backed] using hk)]; exact h1, h2, h3.mono hz, h4.mono hz, h5⟩
    · rename_i hk; rw [if_neg hk] at o; exact o
  | box cs =>
    obtain ⟨es, cs', h1, h2, h3⟩ := o
    exact ⟨es, cs', by rw [hd, hh rfl]; exact h1, h2.mono hz hn, h3⟩
  | mp kvs =>
    obtain ⟨kvs', h1, h2⟩ := o
    exact ⟨kvs', by rw [hd, hh rfl]; exact h1, h2.mono hz⟩
theorem same_self (ν : Nu) (m : Tb SOb) (e : Nat) : ∀ ob', tget m e = some ob' → ∃ ob, tget m e = some ob ∧ ν e = ν e ∧ sameShape ob ob' := fun ob' h => ⟨ob', h, rfl, .refl _⟩
theorem R.heap (r : R ν Z st F H) (ho : ∀ id, Own ν st.m id → H'[id]? = H[id]?) (hz : ∀ id, Z id → rowsAt H' id = rowsAt H id) : R ν Z st F H' where
  slot := fun s sv hs => (r.slot s sv hs).mono (fun id h => ⟨h, hz id h⟩) fun d _ => same_self ν st.m d
  obj := fun d ob hd => ObR.mono (fun id h => ⟨h, hz id h⟩) rfl (fun hb => ho _ ⟨d, ob, hd, hb, rfl⟩) (fun e _ => same_self ν st.m e) (r.obj d ob hd)
  inj := r.inj
  apart := r.apart
  zrow := fun id h => by rw [hz id h]; exact r.zrow id h
  deep := r.deep.mono hz
theorem R.put (r : R ν Z st F H) {d : Nat} {sv : SV} {y : V} (h : SVR ν st.m H Z sv y) : R ν Z { st with g := tput st.g d sv } (set F d y) H where
  slot := fun s x hs => by
    by_cases e : d = s
    · subst e; rw [tget_tput_eq] at hs; cases hs; rw [get_set_eq]; exact h
    · rw [tget_tput_ne st.g sv e] at hs; rw [get_set_ne _ _ e]; exact r.slot s x hs
  obj := r.obj
  inj := r.inj
  apart := r.apart
  zrow := r.zrow
  deep := r.deep
theorem Ev.slots (g : Tb SV) : Ev Rv ν Z st H ν Z { st with g := g } H :=
  ⟨Nat.le_refl _, fun _ _ _ _ _ => rfl, fun _ h => ⟨h, rfl⟩, fun _ h => .inl h, fun _ h => .inl h, fun _ _ ob' h => ⟨ob', h, rfl, .refl _⟩, rfl⟩
def nuAt (ν : Nu) (d : Nat) (p : Nat × Nat) : Nu := fun k => if k = d then p else ν k
theorem nuAt_eq (ν : Nu) (d : Nat) (p : Nat × Nat) : nuAt ν d p d = p := if_pos rfl
theorem nuAt_ne (ν : Nu) {d k : Nat} (p : Nat × Nat) (h : k ≠ d) : nuAt ν d p k = ν k := if_neg h
theorem new_spec {d : Nat} (h : st.new d = true) : d ∉ st.pin ∧ tget st.m d = none ∧ saysG d st.g = false ∧ saysM d st.m = false := by
  unfold St.new at h
  simp only [Bool.and_eq_true, Bool.not_eq_true', Option.isNone_iff_eq_none, List.contains_eq_mem, decide_eq_false_iff_not] at h
  exact ⟨h.1.1.1, h.1.1.2, h.1.2, h.2⟩
theorem new_same {d : Nat} {ob : SOb} {p : Nat × Nat} {e : Nat} (h : e ≠ d) : ∀ ob', tget (tput m d ob) e = some ob' → ∃ ob, tget m e = some ob ∧ nuAt ν d p e = ν e ∧ sameShape ob ob' := fun ob' h2 => by
  rw [tget_tput_ne m ob (Ne.symm h)] at h2
  exact ⟨ob', h2, nuAt_ne ν p h, .refl _⟩
theorem R.add (r : R ν Z st F H) {d : Nat} (hn : st.new d = true) {ob : SOb} {p : Nat × Nat} (hb : backed ob = true → ¬ Own ν st.m p.1 ∧ ¬ Z p.1) (ho : ObR (nuAt ν d p) (tput st.m d ob) H Z d ob) :
    R (nuAt ν d p) Z { st with m := tput st.m d ob } F H := by
  obtain ⟨n1, n2, n3, n4⟩ := new_spec hn
  have key : ∀ d' ob', tget (tput st.m d ob) d' = some ob' → d' ≠ d → tget st.m d' = some ob' := fun d' ob' h e => by rw [tget_tput_ne st.m ob (Ne.symm e)] at h; exact h
  refine ⟨fun s sv hs => ?_, fun d' ob' hd => ?_, ?_, ?_, r.zrow, r.deep⟩
  · refine (r.slot s sv hs).mono (fun id h => ⟨h, rfl⟩) fun e he => new_same ?_
    rintro rfl
    rw [saysG_of n3 hs] at he; cases he
  · by_cases e : d' = d
    · subst e; simp only at hd; rw [tget_tput_eq] at hd; cases hd; exact ho
    · have hd' := key d' ob' hd e
      refine ObR.mono (fun id h => ⟨h, rfl⟩) (nuAt_ne ν p e) (fun _ => rfl) (fun k hk => new_same ?_) (r.obj d' ob' hd')
      rintro rfl
      rw [saysM_of n4 hd'] at hk; cases hk
  · intro d1 d2 o1 o2 h1 h2 b1 b2 hp
    by_cases e1 : d1 = d <;> by_cases e2 : d2 = d
    · rw [e1, e2]
    · subst e1
      rw [nuAt_eq, nuAt_ne ν p e2] at hp
      simp only at h1; rw [tget_tput_eq] at h1; cases h1
      exact absurd ⟨d2, o2, key d2 o2 h2 e2, b2, hp.symm⟩ (hb b1).1
    · subst e2
      rw [nuAt_eq, nuAt_ne ν p e1] at hp
      simp only at h2; rw [tget_tput_eq] at h2; cases h2
      exact absurd ⟨d1, o1, key d1 o1 h1 e1, b1, hp⟩ (hb b2).1
    · rw [nuAt_ne ν p e1, nuAt_ne ν p e2] at hp
      exact r.inj d1 d2 o1 o2 (key d1 o1 h1 e1) (key d2 o2 h2 e2) b1 b2 hp
  · intro d1 o1 h1 b1
    by_cases e1 : d1 = d
    · subst e1; simp only at h1; rw [tget_tput_eq] at h1; cases h1; rw [nuAt_eq]; exact (hb b1).2
    · rw [nuAt_ne ν p e1]; exact r.apart d1 o1 (key d1 o1 h1 e1) b1
theorem own_add {d : Nat} {ob : SOb} {p : Nat × Nat} {id : Nat} (h : Own (nuAt ν d p) (tput m d ob) id) : Own ν m id ∨ (backed ob = true ∧ id = p.1) := by
  obtain ⟨k, o, h1, h2, h3⟩ := h
  by_cases e : k = d
  · subst e; rw [tget_tput_eq] at h1; cases h1; rw [nuAt_eq] at h3; exact .inr ⟨h2, h3.symm⟩
  · rw [nuAt_ne ν p e] at h3
    rw [tget_tput_ne m ob (Ne.symm e)] at h1
    exact .inl ⟨k, o, h1, h2, h3⟩
theorem Ev.add {d : Nat} (hn : st.new d = true) {ob : SOb} {p : Nat × Nat} (hl : H.length ≤ H'.length) (hs : ∀ id, id < H.length → ¬ Rv id → H'[id]? = H[id]?) (hz : ∀ id, Z id → rowsAt H' id = rowsAt H id)
    (hp : backed ob = true → Rv p.1 ∨ H.length ≤ p.1) : Ev Rv ν Z st H (nuAt ν d p) Z { st with m := tput st.m d ob } H' where
  len := hl
  same := fun id h _ _ hr => hs id h hr
  rows := fun id h => ⟨h, hz id h⟩
  own := fun id h => by
    rcases own_add h with h | ⟨h1, rfl⟩
    · exact .inl h
    · exact .inr (hp h1)
  frz := fun id h => .inl h
  pin := fun e he ob' h => by
    have : e ≠ d := by rintro rfl; exact (new_spec hn).1 he
    exact new_same this ob' h
  pins := rfl
theorem R.upd (r : R ν Z st F H) {d : Nat} {ob ob' : SOb} (h0 : tget st.m d = some ob) (hs : sameShape ob ob') (hb : backed ob' = backed ob) (hh : ∀ id, id ≠ (ν d).1 → H'[id]? = H[id]?) (hbb : backed ob = true)
    (ho : ObR ν (tput st.m d ob') H' Z d ob') : R ν Z { st with m := tput st.m d ob' } F H' := by
  have hzr : ∀ id, Z id → Z id ∧ rowsAt H' id = rowsAt H id := fun id h => ⟨h, by
    unfold rowsAt; rw [hh id (by rintro rfl; exact r.apart d ob h0 hbb h)]⟩
  have sm : ∀ e ob2, tget (tput st.m d ob') e = some ob2 → ∃ ob1, tget st.m e = some ob1 ∧ ν e = ν e ∧ sameShape ob1 ob2 := fun e ob2 h => by
    by_cases k : e = d
    · subst k; rw [tget_tput_eq] at h; cases h; exact ⟨ob, h0, rfl, hs⟩
    · rw [tget_tput_ne st.m ob' (Ne.symm k)] at h; exact ⟨ob2, h, rfl, .refl _⟩
  have bk : ∀ e ob2, tget (tput st.m d ob') e = some ob2 → ∃ ob1, tget st.m e = some ob1 ∧ backed ob1 = backed ob2 := fun e ob2 h => by
    by_cases k : e = d
    · subst k; rw [tget_tput_eq] at h; cases h; exact ⟨ob, h0, hb.symm⟩
    · rw [tget_tput_ne st.m ob' (Ne.symm k)] at h; exact ⟨ob2, h, rfl⟩
  refine ⟨fun s sv hs => (r.slot s sv hs).mono hzr fun e _ => sm e, fun d' ob2 hd => ?_, ?_, ?_, fun id h => by rw [(hzr id h).2]; exact r.zrow id h, r.deep.mono fun id h => (hzr id h).2⟩
  · by_cases e : d' = d
    · subst e; simp only at hd; rw [tget_tput_eq] at hd; cases hd; exact ho
    · simp only at hd; rw [tget_tput_ne st.m ob' (Ne.symm e)] at hd
      refine ObR.mono hzr rfl (fun hb2 => hh _ fun h => e (r.inj d' d ob2 ob hd h0 hb2 hbb h)) (fun k _ => sm k) (r.obj d' ob2 hd)
  · intro d1 d2 o1 o2 h1 h2 b1 b2 hp
    obtain ⟨p1, k1, l1⟩ := bk d1 o1 h1
    obtain ⟨p2, k2, l2⟩ := bk d2 o2 h2
    exact r.inj d1 d2 p1 p2 k1 k2 (by rw [l1]; exact b1) (by rw [l2]; exact b2) hp
  · intro d1 o1 h1 b1
    obtain ⟨p1, k1, l1⟩ := bk d1 o1 h1
    exact r.apart d1 p1 k1 (by rw [l1]; exact b1)
theorem Ev.upd (r : R ν Z st F H) {d : Nat} {ob ob' : SOb} (h0 : tget st.m d = some ob) (hs : sameShape ob ob') (hb : backed ob' = backed ob) (hh : ∀ id, id ≠ (ν d).1 → H'[id]? = H[id]?) (hbb : backed ob = true) (hl : H.length ≤ H'.length) :
    Ev Rv ν Z st H ν Z { st with m := tput st.m d ob' } H' where
  len := hl
  same := fun id _ ho _ _ => hh id fun e => ho ⟨d, ob, h0, hbb, e.symm⟩
  rows := fun id h => ⟨h, by unfold rowsAt; rw [hh id (by rintro rfl; exact r.apart d ob h0 hbb h)]⟩
  own := fun id ⟨k, o, h1, h2, h3⟩ => by
    by_cases e : k = d
    · subst e; simp only at h1; rw [tget_tput_eq] at h1; cases h1; exact .inl ⟨k, ob, h0, hbb, h3⟩
    · simp only at h1; rw [tget_tput_ne st.m ob' (Ne.symm e)] at h1; exact .inl ⟨k, o, h1, h2, h3⟩
  frz := fun id h => .inl h
  pin := fun e _ ob2 h => by
    by_cases k : e = d
    · subst k; simp only at h; rw [tget_tput_eq] at h; cases h; exact ⟨ob, h0, rfl, hs⟩
    · simp only at h; rw [tget_tput_ne st.m ob' (Ne.symm k)] at h; exact ⟨ob2, h, rfl, .refl _⟩
  pins := rfl
theorem R.less (r : R ν Z st F H) {g : Tb SV} {m' : Tb SOb} (hg : ∀ s sv, tget g s = some sv → tget st.g s = some sv) (hm : ∀ d ob, tget m' d = some ob → tget st.m d = some ob) : R ν Z { st with g := g, m := m' } F H where
  slot := fun s sv hs => (r.slot s sv (hg s sv hs)).mono (fun id h => ⟨h, rfl⟩) fun e _ ob' h => ⟨ob', hm e ob' h, rfl, .refl _⟩
  obj := fun d ob hd => ObR.mono (fun id h => ⟨h, rfl⟩) rfl (fun _ => rfl) (fun e _ ob' h => ⟨ob', hm e ob' h, rfl, .refl _⟩) (r.obj d ob (hm d ob hd))
  inj := fun d d' ob ob' h1 h2 => r.inj d d' ob ob' (hm d ob h1) (hm d' ob' h2)
  apart := fun d ob h => r.apart d ob (hm d ob h)
  zrow := r.zrow
  deep := r.deep
theorem Ev.less {g : Tb SV} {m' : Tb SOb} (hm : ∀ d ob, tget m' d = some ob → tget st.m d = some ob) : Ev Rv ν Z st H ν Z { st with g := g, m := m' } H :=
  ⟨Nat.le_refl _, fun _ _ _ _ _ => rfl, fun _ h => ⟨h, rfl⟩, fun _ ⟨d, ob, h1, h2, h3⟩ => .inl ⟨d, ob, hm d ob h1, h2, h3⟩, fun _ h => .inl h, fun e _ ob' h => ⟨ob', hm e ob' h, rfl, .refl _⟩, rfl⟩
theorem Ev.heap (hl : H.length ≤ H'.length) (hs : ∀ id, id < H.length → ¬ Own ν st.m id → ¬ Z id → ¬ Rv id → H'[id]? = H[id]?) (hz : ∀ id, Z id → rowsAt H' id = rowsAt H id) : Ev Rv ν Z st H ν Z st H' :=
  ⟨hl, hs, fun id h => ⟨h, hz id h⟩, fun _ h => .inl h, fun _ h => .inl h, fun _ _ ob' h => ⟨ob', h, rfl, .refl _⟩, rfl⟩
end
end Go.VE
namespace Go.VE
section
variable {Rv : Nat → Prop} {ν ν' : Nu} {Z Z' : Nat → Prop} {st st' : St} {m m' : Tb SOb} {F F' : Frame} {H H' : Heap}
theorem FRLL.solid {xs ys : List (List V)} (h : FRLL H Z xs ys) : Solid H Z ys := fun c hc u hu => by
  obtain ⟨i, hi⟩ := List.mem_iff_getElem?.1 hc
  have hl : i < xs.length := by rw [h.1]; exact (List.getElem?_eq_some_iff.1 hi).1
  have hr := h.2 i _ c (List.getElem?_eq_getElem hl) hi
  obtain ⟨j, hj⟩ := List.mem_iff_getElem?.1 hu
  have hl2 : j < (xs[i]).length := by rw [hr.1]; exact (List.getElem?_eq_some_iff.1 hj).1
  exact ⟨_, hr.2 j _ u (List.getElem?_eq_getElem hl2) hj⟩
theorem FRLL.same {xs : List (List V)} (h : V.goodLL xs = true) : FRLL H Z xs xs :=
  ⟨rfl, fun j u v hu hv => by rw [hu] at hv; cases hv; exact FRL.same (goodLL_iff.1 h j u hu)⟩
theorem goodLL_replicate {z : List V} (h : V.goodL z = true) : ∀ n, V.goodLL (List.replicate n z) = true
  | 0 => rfl
  | n + 1 => by simp only [List.replicate_succ, V.goodLL, h, goodLL_replicate h n, Bool.and_self]
theorem setParts_ok {es : Nat} : ∀ {ps qs : List (Nat × V)} {xs xs' r : List (List V)}, FRLL H Z xs xs' → ps.map (·.1) = qs.map (·.1) → FRL H Z (ps.map (·.2)) (qs.map (·.2)) → setParts es xs ps = some r → ∃ r', setParts es xs' qs = some r' ∧ FRLL H Z r r'
  | [], qs, xs, xs', r, hx, h1, h2, h => by
    have : qs = [] := by cases qs with | nil => rfl | cons _ _ => simp at h1
    subst this
    simp only [setParts, Option.some.injEq] at h ⊢; subst h
    exact ⟨_, rfl, hx⟩
  | (i, v) :: ps, qs, xs, xs', r, hx, h1, h2, h => by
    cases qs with
    | nil => simp at h1
    | cons q qs =>
      obtain ⟨j, w⟩ := q
      simp only [List.map_cons, List.cons.injEq] at h1
      obtain ⟨e, h1⟩ := h1
      subst e
      obtain ⟨w', ws, e, h3, h4⟩ := h2.inv
      simp only [List.map_cons, List.cons.injEq] at e
      obtain ⟨rfl, rfl⟩ := e
      have hc := h3.cells
      simp only [setParts] at h ⊢
      split at h
      · rename_i hcnd
        rw [if_pos ⟨by rw [← hc.1]; exact hcnd.1, by rw [← hx.1]; exact hcnd.2.1, by rw [hc.one]; exact hcnd.2.2⟩]
        exact setParts_ok (hx.set i hc) h1 h4 h
      · simp at h
theorem zip_fst : ∀ {idx : List Nat} {xs : List V}, idx.length = xs.length → (idx.zip xs).map (·.1) = idx
  | [], xs, _ => by simp
  | i :: idx, [], h => by simp at h
  | i :: idx, x :: xs, h => by simp [zip_fst (idx := idx) (xs := xs) (by simpa using h)]
theorem zip_snd : ∀ {idx : List Nat} {xs : List V}, idx.length = xs.length → (idx.zip xs).map (·.2) = xs
  | [], [], _ => by simp
  | [], x :: xs, h => by simp at h
  | i :: idx, [], h => by simp at h
  | i :: idx, x :: xs, h => by simp [zip_snd (idx := idx) (xs := xs) (by simpa using h)]
theorem liveRef_one {x : SV} {y : V} (h : liveRef m x = true) (r : SVR ν m H Z x y) : y.cells = [y] ∧ y.one = true := by
  cases x with
  | v x => simp [liveRef] at h
  | own d =>
    obtain ⟨ob, hob⟩ := Option.isSome_iff_exists.1 h
    obtain ⟨k, es, xs, rfl, rfl⟩ := r.own_inv hob
    cases k <;> exact ⟨rfl, rfl⟩
  | ptr d o =>
    obtain ⟨ob, hob⟩ := Option.isSome_iff_exists.1 h
    obtain ⟨cs, rfl, rfl⟩ := r.ptr_inv hob
    exact ⟨rfl, rfl⟩
  | el d i o =>
    obtain ⟨ob, hob⟩ := Option.isSome_iff_exists.1 h
    obtain ⟨k, es, xs, rfl, _, rfl⟩ := r.el_inv hob
    exact ⟨rfl, rfl⟩
  | mp d =>
    obtain ⟨ob, hob⟩ := Option.isSome_iff_exists.1 h
    obtain ⟨kvs, rfl, rfl⟩ := r.mp_inv hob
    exact ⟨rfl, rfl⟩
  | clo f a b => obtain ⟨a', b', rfl, _⟩ := r.clo_inv; exact ⟨rfl, rfl⟩
  | tup l => simp [liveRef] at h
  | yl id => simp [liveRef] at h
theorem allocS_ok {a : AOp} {svs : List SV} {ys : List V} {d : Nat} {ob : SOb} {sv : SV} (hk : kGood (.a a) = true) (r : SVRL ν m H Z svs ys) (h : allocS m a svs d = some (ob, sv)) :
    ∃ o mk, aeval a ys = some (o, mk) ∧ backed ob = true ∧ o ≠ .free ∧ ∀ (id : Nat) (ν' : Nu) (m' : Tb SOb) (H' : Heap), ν' d = (id, 0) → tget m' d = some ob → H'[id]? = some o → (∀ k, Z k → rowsAt H' k = rowsAt H k) →
      (∀ e, SV.saysL e svs = true → ∀ ob', tget m' e = some ob' → ∃ ob, tget m e = some ob ∧ ν' e = ν e ∧ sameShape ob ob') → ObR ν' m' H' Z d ob ∧ SVR ν' m' H' Z sv (mk.val id) := by
  unfold allocS at h
  split at h
  ·
    rename_i size zero
    simp only [Option.some.injEq, Prod.mk.injEq] at h; obtain ⟨rfl, rfl⟩ := h
    rw [r.inv0]
    simp only [kGood, Bool.and_eq_true] at hk
    refine ⟨_, _, rfl, rfl, by simp, fun id ν' m' H' e1 e2 e3 e4 e5 => ⟨⟨_, zero, by rw [e1]; exact e3, SVRL.ofFRL (FRL.same hk.1), hk.2⟩, ?_⟩⟩
    exact .ptr _ _ _ fun ob' h' => by rw [e2] at h'; cases h'; exact ⟨_, rfl, by rw [e1]; rfl⟩
  ·
    rename_i x
    split at h
    · rename_i hone
      simp only [Option.some.injEq, Prod.mk.injEq] at h; obtain ⟨rfl, rfl⟩ := h
      obtain ⟨y, _, rfl, h1, h2⟩ := r.inv
      rw [h2.inv0]
      have hc := h1.fr.cells
      refine ⟨.row y.cells.length [y.cells], .ptr, by simp only [aeval, hc.one, hone, if_true], rfl, by simp, fun id ν' m' H' e1 e2 e3 e4 e5 => ⟨⟨_, y.cells, by rw [e1]; exact e3, SVRL.ofFRL (hc.mono fun k hk => ⟨hk, e4 k hk⟩), by rw [hc.one]; exact hone⟩, ?_⟩⟩
      exact .ptr _ _ _ fun ob' h' => by rw [e2] at h'; cases h'; exact ⟨_, rfl, by rw [e1]; rfl⟩
    · simp at h
  ·
    rename_i x hx
    split at h
    · rename_i hl
      simp only [Option.some.injEq, Prod.mk.injEq] at h; obtain ⟨rfl, rfl⟩ := h
      obtain ⟨y, _, rfl, h1, h2⟩ := r.inv
      rw [h2.inv0]
      obtain ⟨c1, c2⟩ := liveRef_one hl h1
      refine ⟨.row [y].length [[y]], .ptr, by simp only [aeval, c1, List.all_cons, c2, List.all_nil, Bool.and_self, if_true], rfl, by simp, fun id ν' m' H' e1 e2 e3 e4 e5 => ⟨⟨_, [y], by rw [e1]; exact e3, .cons (h1.mono (fun k hk => ⟨hk, e4 k hk⟩) fun e he => e5 e (by simp [SV.saysL, he])) .nil, by simp [c2]⟩, ?_⟩⟩
      exact .ptr _ _ _ fun ob' h' => by rw [e2] at h'; cases h'; exact ⟨_, rfl, by rw [e1]; rfl⟩
    · simp at h
  ·
    rename_i size zero k n k' c
    obtain ⟨_, _, rfl, h1, h2⟩ := r.inv
    obtain ⟨_, _, rfl, h3, h4⟩ := h2.inv
    rw [h1.fr.int, h3.fr.int, h4.inv0]
    split at h
    · rename_i hc
      simp only [Option.some.injEq, Prod.mk.injEq] at h; obtain ⟨rfl, rfl⟩ := h
      simp only [kGood] at hk
      have hb : rowLike (if n = c then Fl.row else Fl.part) = true := by split <;> rfl
      refine ⟨_, _, by simp only [aeval]; rw [if_pos hc], hb, by simp, fun id ν' m' H' e1 e2 e3 e4 e5 => ⟨?_, ?_⟩⟩
      · simp only [ObR, hb, if_true, e1]
        have hg := goodLL_replicate hk c.toNat
        have hnc : n.toNat ≤ c.toNat := by omega
        refine ⟨_, e3, by simp; omega, ?_, (FRLL.same hg).solid, fun e => ?_⟩
        · simp only [List.drop_zero, List.length_replicate, List.take_replicate, Nat.min_eq_left hnc]
          exact FRLL.same (goodLL_replicate hk _)
        · have : n = c := by
            by_cases e' : n = c
            · exact e'
            · rw [if_neg e'] at e; cases e
          subst this
          simp
      · refine .own _ _ fun ob' h' => ?_
        rw [e2] at h'; cases h'
        exact ⟨_, _, _, rfl, by rw [slA_row hb, e1]; simp [Mk.val]⟩
    · simp at h
  ·
    rename_i vs size len zero idx
    split at h
    · rename_i xs hx
      split at h
      · rename_i hl
        obtain ⟨rows, hr, e⟩ := Option.map_eq_some_iff.1 h
        simp only [Prod.mk.injEq] at e; obtain ⟨rfl, rfl⟩ := e
        have hf := r.allV hx
        simp only [kGood] at hk
        obtain ⟨rows', hr', hrr⟩ := setParts_ok (H := H) (Z := Z) (qs := idx.zip ys) (FRLL.same (goodLL_replicate hk len)) (by rw [zip_fst hl, zip_fst (by rw [← hf.1]; exact hl)]) (by rw [zip_snd hl, zip_snd (by rw [← hf.1]; exact hl)]; exact hf) hr
        have hlen : rows'.length = len := by
          have : ∀ {ps : List (Nat × V)} {a r : List (List V)}, setParts size a ps = some r → r.length = a.length := by
            intro ps
            induction ps with
            | nil => intro a r h; simp only [setParts, Option.some.injEq] at h; subst h; rfl
            | cons p ps ih =>
              intro a r h
              obtain ⟨i, v⟩ := p
              simp only [setParts] at h
              split at h
              · rw [ih h]; simp
              · simp at h
          rw [this hr']; simp
        refine ⟨.row size rows', .sl size len, by simp only [aeval]; rw [if_pos (by rw [← hf.1]; exact hl), hr']; rfl, rfl, by simp, fun id ν' m' H' e1 e2 e3 e4 e5 => ⟨?_, ?_⟩⟩
        · have hr2 := hrr.mono (H' := H') (Z' := Z) fun k hk => ⟨hk, e4 k hk⟩
          simp only [ObR, rowLike, if_true, e1]
          refine ⟨_, e3, by simp [hrr.1], ?_, hr2.solid, fun _ => ⟨trivial, hrr.1.symm⟩⟩
          simp only [List.drop_zero, hrr.1, List.take_length]
          exact hr2
        · refine .own _ _ fun ob' h' => ?_
          rw [e2] at h'; cases h'
          exact ⟨_, _, _, rfl, by rw [hrr.1, hlen]; simp [slA, e1, Mk.val]⟩
      · simp at h
    · simp at h
  ·
    simp only [Option.some.injEq, Prod.mk.injEq] at h; obtain ⟨rfl, rfl⟩ := h
    rw [r.inv0]
    refine ⟨_, _, rfl, rfl, by simp, fun id ν' m' H' e1 e2 e3 e4 e5 => ⟨⟨_, by rw [e1]; exact e3, rfl, by simp⟩, ?_⟩⟩
    exact .mp _ _ fun ob' h' => by rw [e2] at h'; cases h'; exact ⟨_, rfl, by rw [e1]; rfl⟩
  · simp at h
theorem SVRL.set1 {cs : List SV} {cs' : List V} (h : SVRL ν m H Z cs cs') {size o : Nat} {x : SV} {y : V} {r : List SV} (hx : SVR ν m H Z x y) (hp : putCells m size o x cs = some r) (hone : cs'.all V.one = true) :
    y.cells.length = size ∧ o + size ≤ cs'.length ∧ y.cells.all V.one = true ∧ SVRL ν m H Z r (cs'.take o ++ y.cells ++ cs'.drop (o + y.cells.length)) ∧ (cs'.take o ++ y.cells ++ cs'.drop (o + y.cells.length)).all V.one = true := by
  have hall : ∀ k : Nat, (cs'.take k).all V.one = true ∧ (cs'.drop k).all V.one = true := fun k =>
    ⟨List.all_eq_true.2 fun z hz => List.all_eq_true.1 hone z (List.mem_of_mem_take hz), List.all_eq_true.2 fun z hz => List.all_eq_true.1 hone z (List.mem_of_mem_drop hz)⟩
  unfold putCells at hp
  split at hp
  · rename_i x
    split at hp
    · rename_i hc
      simp only [Option.some.injEq] at hp; subst hp
      have hf := hx.fr.cells
      refine ⟨by rw [← hf.1]; exact hc.1, by rw [← h.1]; exact hc.2.1, by rw [hf.one]; exact hc.2.2, ?_, ?_⟩
      · have e : y.cells.length = size := by rw [← hf.1]; exact hc.1
        rw [e]
        exact ((h.take o).append (SVRL.ofFRL hf)).append (h.drop _)
      · simp only [List.all_append, (hall _).1, (hall _).2, hf.one, hc.2.2, Bool.and_self]
    · simp at hp
  · split at hp
    · rename_i hc
      simp only [Option.some.injEq] at hp; subst hp
      obtain ⟨c1, c2⟩ := liveRef_one hc.1 hx
      rw [c1]
      refine ⟨by simp [hc.2.1], by rw [← h.1]; have := hc.2.2; omega, by simp [c2], ?_, ?_⟩
      · exact ((h.take o).append (.cons hx .nil)).append (h.drop _)
      · simp only [List.all_append, (hall _).1, (hall _).2, List.all_cons, c2, List.all_nil, Bool.and_self]
    · simp at hp
theorem elemsS_ok {size : Nat} {x : SV} {y : V} {xs : List (List V)} (r : SVR ν m H Z x y) (ho : ∀ d ob, tget m d = some ob → ObR ν m H Z d ob) (h : elemsS m size x = some xs) : ∃ ys, elemsOf H size y = some ys ∧ FRLL H Z xs ys := by
  unfold elemsS at h
  split at h
  · split at h
    · rename_i k es xs' hob
      obtain ⟨_, _, _, e, rfl⟩ := r.own_inv hob
      cases e
      have o := ho _ _ hob
      simp only [ObR] at o
      split at h
      · rename_i hk
        rw [if_pos hk] at o
        split at h
        · rename_i he
          simp only [Option.some.injEq] at h; subst h
          obtain ⟨ys, hr, hl, hf, _⟩ := o
          rw [slA_row hk]
          exact ⟨_, by simp only [elemsOf, if_pos he, hr, Option.bind_some, Ob.rows, if_pos hl], hf⟩
        · simp at h
      · rename_i hk
        simp only [Option.some.injEq] at h; subst h
        refine ⟨[], ?_, rfl, by simp⟩
        cases k <;> simp [rowLike] at hk <;> rfl
    · simp at h
  · simp only [Option.some.injEq] at h; subst h; rw [r.fr.nsl]; exact ⟨[], rfl, rfl, by simp⟩
  · simp only [Option.some.injEq] at h; subst h; rw [r.fr.esl]; exact ⟨[], rfl, rfl, by simp⟩
  · split at h
    · rename_i es xs' he
      simp only [Option.some.injEq] at h; subst h
      have hg := r.fr.good
      rcases r.fr.fsl_inv with rfl | ⟨id, off, ys, rfl, hz, hr, hl, hf⟩
      · exact ⟨_, by simp only [elemsOf, if_pos he], FRLL.same (by simpa [V.good] using hg)⟩
      · unfold rowsAt at hr
        exact ⟨_, by simp only [elemsOf, if_pos he, hr, if_pos hl], hf⟩
    · simp at h
  · simp at h
theorem Ev.re {m1 : Tb SOb} (hm : ∀ d ob, tget m1 d = some ob → tget st.m d = some ob) {d : Nat} (hn : d ∉ st.pin) {ob : SOb} {p : Nat × Nat} (hl : H.length ≤ H'.length) (hs : ∀ id, id < H.length → ¬ Own ν st.m id → ¬ Rv id → H'[id]? = H[id]?)
    (hz : ∀ id, Z id → rowsAt H' id = rowsAt H id) (hp : Own ν st.m p.1 ∨ Rv p.1 ∨ H.length ≤ p.1) : Ev Rv ν Z st H (nuAt ν d p) Z { st with m := tput m1 d ob } H' where
  len := hl
  same := fun id h ho _ hr => hs id h ho hr
  rows := fun id h => ⟨h, hz id h⟩
  own := fun id h => by
    rcases own_add h with h | ⟨h1, rfl⟩
    · obtain ⟨k, o, h1, h2, h3⟩ := h; exact .inl ⟨k, o, hm k o h1, h2, h3⟩
    · exact hp
  frz := fun id h => .inl h
  pin := fun e he ob' h => by
    have : e ≠ d := by rintro rfl; exact hn he
    obtain ⟨o, h1, h2, h3⟩ := new_same (ν := ν) (p := p) this ob' h
    exact ⟨o, hm e o h1, h2, h3⟩
  pins := rfl
def Kept (dst : Option Nat) (ν : Nu) (m : Tb SOb) (ν' : Nu) (m' : Tb SOb) : Prop := ∀ e ob', dst ≠ some e → tget m' e = some ob' → ∃ ob, tget m e = some ob ∧ ν' e = ν e ∧ sameShape ob ob'
theorem Kept.refl {dst : Option Nat} : Kept dst ν m ν m := fun e ob' _ h => ⟨ob', h, rfl, .refl _⟩
theorem Kept.upd {dst : Option Nat} {d : Nat} {ob ob' : SOb} (h0 : tget m d = some ob) (hs : sameShape ob ob') : Kept dst ν m ν (tput m d ob') := fun e ob2 _ h => by
  by_cases k : e = d
  · subst k; rw [tget_tput_eq] at h; cases h; exact ⟨ob, h0, rfl, hs⟩
  · rw [tget_tput_ne m ob' (Ne.symm k)] at h; exact ⟨ob2, h, rfl, .refl _⟩
theorem Kept.add {d : Nat} {ob : SOb} {p : Nat × Nat} {m1 : Tb SOb} (hm : ∀ d ob, tget m1 d = some ob → tget m d = some ob) : Kept (some d) ν m (nuAt ν d p) (tput m1 d ob) := fun e ob' he h => by
  have : e ≠ d := fun h => he (by rw [h])
  obtain ⟨o, h1, h2, h3⟩ := new_same (ν := ν) (p := p) this ob' h
  exact ⟨o, hm e o h1, h2, h3⟩
theorem tdel_sub {d : Nat} : ∀ e ob, tget (tdel d m) e = some ob → tget m e = some ob := fun _ _ h => (tget_tdel h).2
theorem KvR.put {k x y : V} {a b r : List (V × V)} (hks : k.scalar = true) (h : KvR H Z a b) (hx : FR H Z x y) (hp : putMap k x a = some r) : ∃ r', putMap k y b = some r' ∧ KvR H Z r r' := by
  unfold putMap at hp
  obtain ⟨f1, f2⟩ := findV_ok (k := k) (i := 0) h
  split at hp
  · rename_i j v hf
    simp only [Option.some.injEq] at hp; subst hp
    obtain ⟨v', hf', _⟩ := f2 j v hf
    refine ⟨b.set j (k, y), by unfold putMap; rw [hf'], by simp [h.1], fun i u w hu hw => ?_⟩
    rw [List.getElem?_set] at hu hw
    rw [← h.1] at hw
    split at hu
    · rename_i e; rw [if_pos e] at hw
      split at hu
      · rename_i e2; rw [if_pos e2] at hw; cases hu; cases hw; exact ⟨⟨rfl, hks⟩, hx⟩
      · simp at hu
    · rename_i e; rw [if_neg e] at hw; exact h.2 i u w hu hw
  · rename_i hf
    simp only [Option.some.injEq] at hp; subst hp
    refine ⟨b ++ [(k, y)], by unfold putMap; rw [f1 hf], by simp [h.1], fun i u w hu hw => ?_⟩
    by_cases hi : i < a.length
    · rw [List.getElem?_append_left hi] at hu
      rw [List.getElem?_append_left (by rw [← h.1]; exact hi)] at hw
      exact h.2 i u w hu hw
    · rw [List.getElem?_append_right (by omega)] at hu
      rw [List.getElem?_append_right (by rw [← h.1]; omega), ← h.1] at hw
      have : i - a.length = 0 := by
        have := (List.getElem?_eq_some_iff.1 hu).1; simp at this; omega
      rw [this] at hu hw
      simp at hu hw; subst hu; subst hw; exact ⟨⟨rfl, hks⟩, hx⟩
  · simp at hp
theorem loudS_ok (r : R ν Z st F H) {dst : Option Nat} {l : LOp} {svs : List SV} {ys : List V} {sv : SV} (hsv : SVRL ν st.m H Z svs ys) (h : loudS st dst l svs = some (sv, st')) :
    ∃ y H' ν', leval H l ys = some (y, H') ∧ R ν' Z st' F H' ∧ SVR ν' st'.m H' Z sv y ∧ Ev (fun _ => False) ν Z st H ν' Z st' H' ∧ Kept dst ν st.m ν' st'.m := by
  unfold loudS at h
  split at h
  ·
    rename_i size d o x
    obtain ⟨_, _, rfl, h1, h2⟩ := hsv.inv
    obtain ⟨y, _, rfl, h3, h4⟩ := h2.inv
    rw [h4.inv0]
    split at h
    · rename_i cs hob
      obtain ⟨cs1, hp, e⟩ := Option.map_eq_some_iff.1 h
      simp only [Prod.mk.injEq] at e; obtain ⟨rfl, rfl⟩ := e
      obtain ⟨_, _, rfl⟩ := h1.ptr_inv hob
      obtain ⟨es, cs', hr, hc, hone⟩ := r.obj d _ hob
      obtain ⟨p1, p2, p3, p4, p5⟩ := SVRL.set1 hc h3 hp hone
      have hh : ∀ id, id ≠ (ν d).1 → (H.set (ν d).1 (.row es [cs'.take o ++ y.cells ++ cs'.drop (o + y.cells.length)]))[id]? = H[id]? := fun id hne => by rw [List.getElem?_set]; rw [if_neg (Ne.symm hne)]
      have hz : ∀ id, Z id → Z id ∧ rowsAt (H.set (ν d).1 (.row es [cs'.take o ++ y.cells ++ cs'.drop (o + y.cells.length)])) id = rowsAt H id := fun id hz => ⟨hz, by
        unfold rowsAt; rw [hh id (by rintro rfl; exact r.apart d _ hob rfl hz)]⟩
      refine ⟨.undef, H.set (ν d).1 (.row es [cs'.take o ++ y.cells ++ cs'.drop (o + y.cells.length)]), ν, ?_, ?_, .v _ _ (.same _ rfl), Ev.upd r hob trivial rfl hh rfl (by simp), Kept.upd hob trivial⟩
      · simp only [leval, hr, List.getElem?_cons_zero, if_pos (And.intro p1 (And.intro p2 p3)), List.set_cons_zero]
      · refine r.upd hob (ob' := .box cs1) trivial rfl hh rfl ⟨es, _, ?_, p4.mono hz (fun e _ ob' he => ?_), p5⟩
        · have := (List.getElem?_eq_some_iff.1 hr).1
          rw [List.getElem?_set_self this]
        · by_cases k : e = d
          · subst k; rw [tget_tput_eq] at he; cases he; exact ⟨_, hob, rfl, trivial⟩
          · rw [tget_tput_ne st.m _ (Ne.symm k)] at he; exact ⟨ob', he, rfl, .refl _⟩
    · simp at h
  ·
    rename_i size d i o x
    obtain ⟨_, _, rfl, h1, h2⟩ := hsv.inv
    obtain ⟨y, _, rfl, h3, h4⟩ := h2.inv
    rw [h4.inv0]
    split at h
    · rename_i k es xs hob
      split at h
      · rename_i cs hcs
        split at h
        · rename_i hc
          simp only [Option.some.injEq, Prod.mk.injEq] at h; obtain ⟨rfl, rfl⟩ := h
          obtain ⟨_, _, _, e, hk, rfl⟩ := h1.el_inv hob
          cases e
          have ob := r.obj d _ hob
          simp only [ObR, hk, if_true] at ob
          obtain ⟨rs, hr, hl, hf, hsol, hrow⟩ := ob
          obtain ⟨c, hcc, hfc⟩ := hf.get hcs
          have hi := (List.getElem?_eq_some_iff.1 hcs).1
          rw [List.getElem?_take, if_pos hi, List.getElem?_drop] at hcc
          have hy := h3.fr.cells
          have q1 : y.cells.length = size := by rw [← hy.1]; exact hc.1
          have q2 : o + size ≤ c.length := by rw [← hfc.1]; exact hc.2.1
          have q3 : y.cells.all V.one = true := by rw [hy.one]; exact hc.2.2
          have hnew : FRL H Z (cs.take o ++ x.cells ++ cs.drop (o + x.cells.length)) (c.take o ++ y.cells ++ c.drop (o + y.cells.length)) := by
            rw [hc.1, q1]
            exact ((hfc.take o).append hy).append (hfc.drop _)
          generalize hN : (c.take o ++ y.cells ++ c.drop (o + y.cells.length)) = nc at hnew
          have hh : ∀ id, id ≠ (ν d).1 → (H.set (ν d).1 (.row es (rs.set ((ν d).2 + i) nc)))[id]? = H[id]? := fun id hne => by rw [List.getElem?_set]; rw [if_neg (Ne.symm hne)]
          have hbk : backed (.sl k es xs) = true := hk
          have hz : ∀ id, Z id → Z id ∧ rowsAt (H.set (ν d).1 (.row es (rs.set ((ν d).2 + i) nc))) id = rowsAt H id := fun id hz => ⟨hz, by
            unfold rowsAt; rw [hh id (by rintro rfl; exact r.apart d _ hob hbk hz)]⟩
          have hsh : sameShape (.sl k es xs) (.sl k es (xs.set i (cs.take o ++ x.cells ++ cs.drop (o + x.cells.length)))) := ⟨rfl, rfl, by simp⟩
          refine ⟨.undef, H.set (ν d).1 (.row es (rs.set ((ν d).2 + i) nc)), ν, ?_, ?_, .v _ _ (.same _ rfl), Ev.upd r hob hsh rfl hh hbk (by simp), Kept.upd hob hsh⟩
          · simp only [leval, hr, hcc, if_pos (And.intro q1 (And.intro q2 q3)), hN]
          · refine r.upd hob hsh rfl hh hbk ?_
            simp only [ObR, hk, if_true]
            have hlt := (List.getElem?_eq_some_iff.1 hr).1
            refine ⟨_, List.getElem?_set_self hlt, by simpa using hl, ?_, ?_, fun e => ?_⟩
            · have e1 : List.take (xs.set i (cs.take o ++ x.cells ++ cs.drop (o + x.cells.length))).length (List.drop (ν d).2 (rs.set ((ν d).2 + i) nc)) = ((rs.drop (ν d).2).take xs.length).set i nc := by
                rw [List.length_set, List.drop_set, if_neg (by omega), List.take_set]
                congr 1; omega
              rw [e1]
              exact (hf.set i hnew).mono hz
            · intro cc hcc' u hu
              rcases List.mem_or_eq_of_mem_set hcc' with hm | rfl
              · obtain ⟨z, hz'⟩ := hsol cc hm u hu
                exact ⟨z, hz'.mono hz⟩
              · obtain ⟨j, hj⟩ := List.mem_iff_getElem?.1 hu
                have hjl := (List.getElem?_eq_some_iff.1 hj).1
                rw [← hnew.1] at hjl
                exact ⟨_, (hnew.2 j _ u (List.getElem?_eq_getElem hjl) hj).mono hz⟩
            · obtain ⟨a1, a2⟩ := hrow e
              exact ⟨a1, by simpa using a2⟩
        · simp at h
      · simp at h
    · simp at h
  ·
    rename_i kk d k x
    obtain ⟨_, _, rfl, h1, h2⟩ := hsv.inv
    obtain ⟨k', _, rfl, h3, h4⟩ := h2.inv
    obtain ⟨y, _, rfl, h5, h6⟩ := h4.inv
    rw [h6.inv0]
    split at h
    · rename_i kvs hob
      split at h
      · rename_i hk
        obtain ⟨kvs1, hp, e⟩ := Option.map_eq_some_iff.1 h
        simp only [Prod.mk.injEq] at e; obtain ⟨rfl, rfl⟩ := e
        obtain ⟨_, _, rfl⟩ := h1.mp_inv hob
        have hkk := h3.fr.scalar.1 (key_scalar hk)
        subst hkk
        obtain ⟨kvs', hr, hkv⟩ := r.obj d _ hob
        obtain ⟨r', hr', hrr⟩ := hkv.put (key_scalar hk) h5.fr hp
        have hh : ∀ id, id ≠ (ν d).1 → (H.set (ν d).1 (.map r'))[id]? = H[id]? := fun id hne => by rw [List.getElem?_set]; rw [if_neg (Ne.symm hne)]
        have hz : ∀ id, Z id → Z id ∧ rowsAt (H.set (ν d).1 (.map r')) id = rowsAt H id := fun id hz => ⟨hz, by
          unfold rowsAt; rw [hh id (by rintro rfl; exact r.apart d _ hob rfl hz)]⟩
        refine ⟨.undef, H.set (ν d).1 (.map r'), ν, ?_, ?_, .v _ _ (.same _ rfl), Ev.upd r hob trivial rfl hh rfl (by simp), Kept.upd hob trivial⟩
        · simp only [leval, hr, hk, if_true, hr', Option.map_some]
        · refine r.upd hob (ob' := .mp kvs1) trivial rfl hh rfl ⟨r', ?_, hrr.mono hz⟩
          rw [List.getElem?_set_self (List.getElem?_eq_some_iff.1 hr).1]
      · simp at h
    · simp at h
  ·
    rename_i size s x
    obtain ⟨y1, _, rfl, h1, h2⟩ := hsv.inv
    obtain ⟨y2, _, rfl, h3, h4⟩ := h2.inv
    rw [h4.inv0]
    split at h
    · rename_i xs e1 e2
      simp only [Option.some.injEq, Prod.mk.injEq] at h; obtain ⟨rfl, rfl⟩ := h
      obtain ⟨a1, p1, _⟩ := elemsS_ok h1 r.obj e1
      obtain ⟨a2, p2, q2⟩ := elemsS_ok h3 r.obj e2
      have : a2 = [] := List.length_eq_zero_iff.1 (by have := q2.1; simpa using this.symm)
      subst this
      exact ⟨y1, H, ν, by simp only [leval, p1, p2], r, h1, .refl, .refl⟩
    · rename_i xs zs hne e1 e2
      split at h
      · rename_i hc
        obtain ⟨a1, p1, q1⟩ := elemsS_ok h1 r.obj e1
        obtain ⟨a2, p2, q2⟩ := elemsS_ok h3 r.obj e2
        cases dst with
        | none => simp at h
        | some t =>
          dsimp only at h
          generalize hm1 : giveUp st.m s = m1 at h
          split at h
          · rename_i hnew
            simp only [Option.some.injEq, Prod.mk.injEq] at h; obtain ⟨rfl, rfl⟩ := h
            obtain ⟨n1, _, _, _⟩ := new_spec hnew
            have grow : ∃ H1, growRow H y1 = some H1 ∧ H1.length = H.length ∧ (∀ id, ¬ Own ν st.m id → H1[id]? = H[id]?) ∧
                (∀ id, Own ν m1 id → H1[id]? = H[id]?) ∧ (∀ id, Z id → rowsAt H1 id = rowsAt H id) := by
              subst hm1
              cases s with
              | own d =>
                simp only [elemsS] at e1
                split at e1
                · rename_i k es xs' hob
                  obtain ⟨_, _, _, e, rfl⟩ := h1.own_inv hob
                  cases e
                  by_cases hk : rowLike k = true
                  · have o := r.obj d _ hob
                    simp only [ObR, hk, if_true] at o
                    obtain ⟨ys, hr, _⟩ := o
                    have hbk : backed (.sl k es xs') = true := hk
                    have hh : ∀ id, id ≠ (ν d).1 → (H.set (ν d).1 .dead)[id]? = H[id]? := fun id hne => by rw [List.getElem?_set]; rw [if_neg (Ne.symm hne)]
                    refine ⟨H.set (ν d).1 .dead, by rw [slA_row hk]; simp only [growRow, hr], by simp, fun id ho => hh id fun e => ho ⟨d, _, hob, hbk, e.symm⟩, fun id ho => hh id fun e => ?_, fun id hz => ?_⟩
                    · obtain ⟨k2, o2, g1, g2, g3⟩ := ho
                      obtain ⟨g4, g5⟩ := tget_tdel g1
                      exact g4 (r.inj d k2 _ o2 hob g5 hbk g2 (by rw [g3, e]))
                    · unfold rowsAt; rw [hh id (by rintro rfl; exact r.apart d _ hob hbk hz)]
                  · refine ⟨H, ?_, rfl, fun _ _ => rfl, fun _ _ => rfl, fun _ _ => rfl⟩
                    cases k <;> simp [rowLike] at hk <;> rfl
                · simp at e1
              | v x0 =>
                refine ⟨H, ?_, rfl, fun _ _ => rfl, fun _ _ => rfl, fun _ _ => rfl⟩
                cases x0 <;> simp [ownS] at hc
                · rw [h1.fr.esl]; rfl
                · rw [h1.fr.nsl]; rfl
              | _ => simp [ownS] at hc
            obtain ⟨H1, g1, g2, g3, g4, g5⟩ := grow
            have hsub : ∀ e ob, tget m1 e = some ob → tget st.m e = some ob := by
              subst hm1
              cases s <;> first | exact fun _ _ h => h | exact tdel_sub
            have hlt1 : ∀ id, Own ν m1 id → id < H.length := fun id ⟨k, o, w1, w2, w3⟩ => r.lt ⟨k, o, hsub k o w1, w2, w3⟩
            have hget : ∀ id, id < H.length → (H1 ++ [Ob.row size (a1 ++ a2)])[id]? = H1[id]? := fun id hl => List.getElem?_append_left (by rw [g2]; exact hl)
            have hz2 : ∀ id, Z id → rowsAt (H1 ++ [Ob.row size (a1 ++ a2)]) id = rowsAt H id := fun id hz => by
              have := g5 id hz
              unfold rowsAt at this ⊢
              rw [hget id (r.zlt hz)]; exact this
            have r1 : R ν Z { st with m := m1 } F H := r.less (g := st.g) (fun _ _ h => h) hsub
            have r2 : R ν Z { st with m := m1 } F (H1 ++ [Ob.row size (a1 ++ a2)]) := r1.heap (fun id ho => by rw [hget id (hlt1 id ho)]; exact g4 id ho) hz2
            have ff := (q1.append q2).mono (H' := H1 ++ [Ob.row size (a1 ++ a2)]) (Z' := Z) fun id hz => ⟨hz, hz2 id hz⟩
            have hnewrow : (H1 ++ [Ob.row size (a1 ++ a2)])[H.length]? = some (.row size (a1 ++ a2)) := by
              rw [← g2]; simp
            refine ⟨.hsl H.length size 0 (xs.length + zs.length), H1 ++ [Ob.row size (a1 ++ a2)], nuAt ν t (H.length, 0), ?_, ?_, ?_, ?_, Kept.add hsub⟩
            · have hne' : a2 ≠ [] := by
                rintro rfl
                have hz0 : zs = [] := List.length_eq_zero_iff.1 (by have := q2.1; simpa using this)
                exact hne hz0
              have hle : a1.length + a2.length ≤ 2147483648 := by rw [← q1.1, ← q2.1]; exact hc.1
              have hl1 := q1.1
              have hl2 := q2.1
              cases a2 with
              | nil => exact absurd rfl hne'
              | cons w ws =>
                simp only [leval, p1, p2, if_pos hle, g1, Option.map_some, hl1, hl2]
            · refine r2.add hnew (fun _ => ⟨fun ho => ?_, fun hz => ?_⟩) ?_
              · exact absurd (hlt1 _ ho) (by simp)
              · exact absurd (r.zlt hz) (by simp)
              · simp only [ObR, rowLike, if_true, nuAt_eq]
                refine ⟨_, hnewrow, by simp [q1.1, q2.1], ?_, ff.solid, fun _ => ⟨trivial, by simp [q1.1, q2.1]⟩⟩
                have : (xs ++ zs).length = (a1 ++ a2).length := by simp [q1.1, q2.1]
                rw [this, List.drop_zero, List.take_length]
                exact ff
            · refine .own _ _ fun ob' h' => ?_
              simp only at h'
              rw [tget_tput_eq] at h'; cases h'
              exact ⟨_, _, _, rfl, by simp [slA, nuAt_eq]⟩
            · refine Ev.re hsub n1 (by simp [g2]) (fun id hl ho _ => ?_) hz2 (.inr (.inr (Nat.le_refl _)))
              rw [hget id hl]; exact g3 id ho
          · simp at h
      · simp at h
    · simp at h
  ·
    rename_i size d o x l
    obtain ⟨_, _, rfl, h1, h2⟩ := hsv.inv
    obtain ⟨y, ys2, rfl, h3, h4⟩ := h2.inv
    split at h
    · rename_i hfar
      split at h
      · rename_i cs hob
        obtain ⟨cs1, hp, e⟩ := Option.map_eq_some_iff.1 h
        simp only [Prod.mk.injEq] at e; obtain ⟨rfl, rfl⟩ := e
        obtain ⟨_, _, rfl⟩ := h1.ptr_inv hob
        obtain ⟨es, cs', hr, hc, hone⟩ := r.obj d _ hob
        obtain ⟨p1, p2, p3, p4, p5⟩ := SVRL.set1 hc h3 hp hone
        have hh : ∀ id, id ≠ (ν d).1 → (H.set (ν d).1 (.row es [cs'.take o ++ y.cells ++ cs'.drop (o + y.cells.length)]))[id]? = H[id]? := fun id hne => by rw [List.getElem?_set]; rw [if_neg (Ne.symm hne)]
        have hz : ∀ id, Z id → Z id ∧ rowsAt (H.set (ν d).1 (.row es [cs'.take o ++ y.cells ++ cs'.drop (o + y.cells.length)])) id = rowsAt H id := fun id hz => ⟨hz, by
          unfold rowsAt; rw [hh id (by rintro rfl; exact r.apart d _ hob rfl hz)]⟩
        have hall : ∀ {l : List SV} {ws : List V}, SVRL ν st.m H Z l ws → l.all (farB st.m d) = true → ws.all (apartP (ν d).1) = true := by
          intro l
          induction l with
          | nil => intro ws hw _; rw [hw.inv0]; rfl
          | cons a l ih =>
            intro ws hw hf
            obtain ⟨w, ws, rfl, g1, g2⟩ := hw.inv
            simp only [List.all_cons, Bool.and_eq_true] at hf ⊢
            refine ⟨?_, ih g2 hf.2⟩
            have hf1 := hf.1
            unfold farB at hf1
            split at hf1
            · rename_i d' o'
              simp only [Bool.and_eq_true, bne_iff_ne, ne_eq] at hf1
              obtain ⟨hne, hbx⟩ := hf1
              split at hbx
              · rename_i cs2 hob2
                obtain ⟨_, _, rfl⟩ := g1.ptr_inv hob2
                simp only [apartP, bne_iff_ne, ne_eq]
                exact fun e => hne (r.inj d' d _ _ hob2 hob rfl rfl e)
              · cases hbx
            · rename_i xs
              rcases FR.fptr_inv g1.fr with rfl | ⟨id, el, off, _, _, _, rfl, hzz, _⟩
              · rfl
              · simp only [apartP, bne_iff_ne, ne_eq]
                rintro rfl
                exact r.apart d _ hob rfl hzz
            · cases hf1
        refine ⟨.undef, H.set (ν d).1 (.row es [cs'.take o ++ y.cells ++ cs'.drop (o + y.cells.length)]), ν, ?_, ?_, .v _ _ (.same _ rfl), Ev.upd r hob trivial rfl hh rfl (by simp), Kept.upd hob trivial⟩
        · simp only [leval, hall h4 hfar, if_true, hr, List.getElem?_cons_zero, if_pos (And.intro p1 (And.intro p2 p3)), List.set_cons_zero]
        · refine r.upd hob (ob' := .box cs1) trivial rfl hh rfl ⟨es, _, ?_, p4.mono hz (fun e _ ob' he => ?_), p5⟩
          · have := (List.getElem?_eq_some_iff.1 hr).1
            rw [List.getElem?_set_self this]
          · by_cases k : e = d
            · subst k; rw [tget_tput_eq] at he; cases he; exact ⟨_, hob, rfl, trivial⟩
            · rw [tget_tput_ne st.m _ (Ne.symm k)] at he; exact ⟨ob', he, rfl, .refl _⟩
      · simp at h
    · simp at h
  · simp at h
end
end Go.VE
namespace Go.VE
def closeD (d : Nat) (st : St) : Option St :=
  match tget st.m d with
  | some (.sl k es xs) => some { st with g := mapG (SV.sub d (slV k es xs)) st.g, m := mapM (SV.subL d (slV k es xs)) (tdel d st.m) }
  | _ => none
def locAt (st : St) : Loc → Option SV
  | .s n => tget st.g n
  | .c b i => match tget st.m b with
    | some (.box cs) => cs[i]?
    | _ => none
def ghost (x : Gh) (st : St) : Option St :=
  match x with
  | .closeS l => match locAt st l with
    | some (.own d) => closeD d st
    | some _ => some st
    | none => none
  | .close d => closeD d st
  | .closeB d => match tget st.m d with
    | some (.box cs) => match allV cs with
      | some xs => some { st with g := mapG (SV.subB d xs) st.g, m := mapM (SV.subBL d xs) (tdel d st.m) }
      | none => none
    | _ => none
  | .canon (.s n) d es => match tget st.g n with
    | some (.v .nsl) => if st.new d then some { st with g := tput st.g n (.own d), m := tput st.m d (.sl .nil es []) } else none
    | some (.v .esl) => if st.new d then some { st with g := tput st.g n (.own d), m := tput st.m d (.sl .emp es []) } else none
    | some (.own e) => if e = d then some st else if st.new d then some { st with g := renG e d st.g, m := renM e d st.m } else none
    | _ => none
  | .canon (.c b i) d es => match tget st.m b with
    | some (.box cs) => match cs[i]? with
      | some (.v .nsl) => if st.new d then some { st with m := tput (tput st.m d (.sl .nil es [])) b (.box (cs.set i (.own d))) } else none
      | some (.v .esl) => if st.new d then some { st with m := tput (tput st.m d (.sl .emp es [])) b (.box (cs.set i (.own d))) } else none
      | some (.own e) => if e = d then some st else if st.new d then some { st with g := renG e d st.g, m := renM e d st.m } else none
      | _ => none
    | _ => none
  | .keep gs ms => match tkeep st.g gs, tkeep st.m ms with
    | some g, some m => some { st with g := g, m := m }
    | _, _ => none
  | .drop ds => some { st with g := tdels ds st.g }
section
variable {Rv : Nat → Prop} {ν ν' : Nu} {Z Z' : Nat → Prop} {st st' : St} {m m' : Tb SOb} {F F' : Frame} {H H' : Heap} {N : Nat → FuncId}
theorem sliceS_ok (r : R ν Z st F H) {dst : Option Nat} {size d : Nat} {lo hi : Bool} {bs : List SV} {ys : List V} {sv : SV} (hsv : SVRL ν st.m H Z (.own d :: bs) ys) (h : sliceS st dst size lo hi d bs = some (sv, st')) :
    ∃ y ν', peval N (.slice size lo hi) ys = some y ∧ R ν' Z st' F H ∧ SVR ν' st'.m H Z sv y ∧ Ev Rv ν Z st H ν' Z st' H := by
  unfold sliceS at h
  obtain ⟨y0, zs, rfl, h1, h2⟩ := hsv.inv
  split at h
  · rename_i k es xs ws t hob hw
    split at h
    · rename_i hk
      obtain ⟨⟨l, hh⟩, hb, h⟩ := Option.bind_eq_some_iff.1 h
      obtain ⟨⟨a, b⟩, hbd, h⟩ := Option.bind_eq_some_iff.1 h
      dsimp only at h
      split at h
      · rename_i hnew
        simp only [Option.some.injEq, Prod.mk.injEq] at h; obtain ⟨rfl, rfl⟩ := h
        obtain ⟨_, _, _, e, rfl⟩ := h1.own_inv hob
        cases e
        have hle : b ≤ xs.length ∧ a ≤ b := by
          unfold boundsV at hbd
          dsimp only at hbd
          split at hbd
          · simp only [Option.some.injEq, Prod.mk.injEq] at hbd; omega
          · simp at hbd
        have o := r.obj d _ hob
        simp only [ObR, hk.1, if_true] at o
        obtain ⟨rs, hr, hl, hf, hsol, _⟩ := o
        have hbk : backed (.sl k es xs) = true := hk.1
        have r1 : R ν Z { st with m := tdel d st.m } F H := r.less (g := st.g) (fun _ _ h => h) tdel_sub
        have hno : ¬ Own ν (tdel d st.m) (ν d).1 := by
          rintro ⟨k2, o2, g1, g2, g3⟩
          obtain ⟨g4, g5⟩ := tget_tdel g1
          exact g4 (r.inj d k2 _ o2 hob g5 hbk g2 g3.symm)
        have hlen : ((xs.take b).drop a).length = b - a := by simp; omega
        refine ⟨.hsl (ν d).1 es ((ν d).2 + a) (b - a), nuAt ν t ((ν d).1, (ν d).2 + a), ?_, ?_, ?_, ?_⟩
        · have hf2 := SVRL.allV h2 hw
          rw [slA_row hk.1]
          simp only [peval, hf2.bnds hb, Option.bind_some, sliceV, if_pos hk.2, hbd, Option.map_some]
        · refine r1.add hnew (fun _ => ⟨hno, r.apart d _ hob hbk⟩) ?_
          simp only [ObR, rowLike, if_true, nuAt_eq]
          refine ⟨rs, hr, by rw [hlen]; omega, ?_, hsol, fun e => by cases e⟩
          have := (hf.take b).drop a
          have e : List.drop a (List.take b (List.take xs.length (List.drop (ν d).2 rs))) = List.take (b - a) (List.drop ((ν d).2 + a) rs) := by
            rw [List.take_take, Nat.min_eq_left hle.1, List.drop_take, List.drop_drop]
          rw [e] at this
          rw [hlen]; exact this
        · refine .own _ _ fun ob' h' => ?_
          simp only at h'
          rw [tget_tput_eq] at h'; cases h'
          exact ⟨_, _, _, rfl, by rw [hlen]; simp [slA, nuAt_eq]⟩
        · exact Ev.re (st := st) tdel_sub (new_spec hnew).1 (Nat.le_refl _) (fun _ _ _ _ => rfl) (fun _ _ => rfl) (.inl ⟨d, _, hob, hbk, rfl⟩)
      · simp at h
    · simp at h
  · simp at h
theorem tget_mapG {f : SV → SV} : ∀ {g : Tb SV} {s : Nat}, tget (mapG f g) s = (tget g s).map f
  | [], s => rfl
  | (k, x) :: r, s => by
    simp only [mapG, tget]
    split
    · rfl
    · exact tget_mapG
def boxF (f : List SV → List SV) : SOb → SOb
  | .box cs => .box (f cs)
  | o => o
theorem tget_mapM {f : List SV → List SV} : ∀ {m : Tb SOb} {d : Nat}, tget (mapM f m) d = (tget m d).map (boxF f)
  | [], d => rfl
  | (k, x) :: r, d => by
    cases x <;> simp only [mapM, tget] <;> split <;> first | rfl | exact tget_mapM
theorem subL_get {d : Nat} {w : V} : ∀ {l : List SV} {j : Nat}, (SV.subL d w l)[j]? = (l[j]?).map (SV.sub d w)
  | [], j => by simp [SV.subL]
  | x :: r, 0 => by simp [SV.subL]
  | x :: r, j + 1 => by simp [SV.subL, subL_get (l := r)]
theorem subBL_get {d : Nat} {w : List V} : ∀ {l : List SV} {j : Nat}, (SV.subBL d w l)[j]? = (l[j]?).map (SV.subB d w)
  | [], j => by simp [SV.subBL]
  | x :: r, 0 => by simp [SV.subBL]
  | x :: r, j + 1 => by simp [SV.subBL, subBL_get (l := r)]
theorem subL_length {d : Nat} {w : V} : ∀ {l : List SV}, (SV.subL d w l).length = l.length
  | [] => rfl
  | x :: r => by simp [SV.subL, subL_length (l := r)]
theorem subBL_length {d : Nat} {w : List V} : ∀ {l : List SV}, (SV.subBL d w l).length = l.length
  | [] => rfl
  | x :: r => by simp [SV.subBL, subBL_length (l := r)]
theorem SVR.sub {sv : SV} {y : V} {d : Nat} {k : Fl} {es : Nat} {xs : List (List V)} (h0 : tget m d = some (.sl k es xs)) (hf : FR H Z' (slV k es xs) (slA (ν d) k es xs.length)) (hz : ∀ id, Z id → Z' id)
    (hm : ∀ e ob', tget m' e = some ob' → e ≠ d ∧ ∃ ob, tget m e = some ob ∧ sameShape ob ob') (r : SVR ν m H Z sv y) : SVR ν m' H Z' (sv.sub d (slV k es xs)) y := by
  have hz' : ∀ id, Z id → Z' id ∧ rowsAt H id = rowsAt H id := fun id h => ⟨hz id h, rfl⟩
  have hn : ∀ e ob', tget m' e = some ob' → ∃ ob, tget m e = some ob ∧ ν e = ν e ∧ sameShape ob ob' := fun e ob' h => by obtain ⟨_, ob, h1, h2⟩ := hm e ob' h; exact ⟨ob, h1, rfl, h2⟩
  induction r with
  | v x y h => exact .v x y (h.mono hz')
  | own e y h =>
    simp only [SV.sub]
    split
    · rename_i he
      subst he
      obtain ⟨_, _, _, e1, rfl⟩ := h _ h0
      cases e1
      exact .v _ _ hf
    · exact (SVR.own e y h).mono hz' fun e _ => hn e
  | ptr e o y h => exact (SVR.ptr e o y h).mono hz' fun e _ => hn e
  | el e i o y h => exact (SVR.el e i o y h).mono hz' fun e _ => hn e
  | mp e y h => exact (SVR.mp e y h).mono hz' fun e _ => hn e
  | clo f a b a' b' ha hb hva hvb iha ihb =>
    refine .clo f _ _ a' b' (by rw [subL_length]; exact ha) (by rw [subL_length]; exact hb) (fun j u v hu hv => ?_) (fun j u v hu hv => ?_)
    · rw [subL_get, Option.map_eq_some_iff] at hu; obtain ⟨u', hu', rfl⟩ := hu; exact iha j u' v hu' hv
    · rw [subL_get, Option.map_eq_some_iff] at hu; obtain ⟨u', hu', rfl⟩ := hu; exact ihb j u' v hu' hv
  | tup a a' ha hva iha =>
    refine .tup _ a' (by rw [subL_length]; exact ha) (fun j u v hu hv => ?_)
    rw [subL_get, Option.map_eq_some_iff] at hu; obtain ⟨u', hu', rfl⟩ := hu; exact iha j u' v hu' hv
  | yl id => exact .yl id
theorem SVR.subB {sv : SV} {y : V} {d : Nat} {cs : List SV} {xs : List V} (h0 : tget m d = some (.box cs)) (hf : ∀ o, o ≤ xs.length → FR H Z' (.fptr (xs.drop o)) (.hptr (ν d).1 0 o)) (hz : ∀ id, Z id → Z' id)
    (hm : ∀ e ob', tget m' e = some ob' → e ≠ d ∧ ∃ ob, tget m e = some ob ∧ sameShape ob ob') (r : SVR ν m H Z sv y) : SVR ν m' H Z' (sv.subB d xs) y := by
  have hz' : ∀ id, Z id → Z' id ∧ rowsAt H id = rowsAt H id := fun id h => ⟨hz id h, rfl⟩
  have hn : ∀ e ob', tget m' e = some ob' → ∃ ob, tget m e = some ob ∧ ν e = ν e ∧ sameShape ob ob' := fun e ob' h => by obtain ⟨_, ob, h1, h2⟩ := hm e ob' h; exact ⟨ob, h1, rfl, h2⟩
  induction r with
  | v x y h => exact .v x y (h.mono hz')
  | own e y h => exact (SVR.own e y h).mono hz' fun e _ => hn e
  | ptr e o y h =>
    simp only [SV.subB]
    split
    · rename_i he
      subst he
      obtain ⟨_, e1, rfl⟩ := h _ h0
      split
      · rename_i ho; exact .v _ _ (hf o ho)
      · exact (SVR.ptr e o _ h).mono hz' fun e _ => hn e
    · exact (SVR.ptr e o y h).mono hz' fun e _ => hn e
  | el e i o y h => exact (SVR.el e i o y h).mono hz' fun e _ => hn e
  | mp e y h => exact (SVR.mp e y h).mono hz' fun e _ => hn e
  | clo f a b a' b' ha hb hva hvb iha ihb =>
    refine .clo f _ _ a' b' (by rw [subBL_length]; exact ha) (by rw [subBL_length]; exact hb) (fun j u v hu hv => ?_) (fun j u v hu hv => ?_)
    · rw [subBL_get, Option.map_eq_some_iff] at hu; obtain ⟨u', hu', rfl⟩ := hu; exact iha j u' v hu' hv
    · rw [subBL_get, Option.map_eq_some_iff] at hu; obtain ⟨u', hu', rfl⟩ := hu; exact ihb j u' v hu' hv
  | tup a a' ha hva iha =>
    refine .tup _ a' (by rw [subBL_length]; exact ha) (fun j u v hu hv => ?_)
    rw [subBL_get, Option.map_eq_some_iff] at hu; obtain ⟨u', hu', rfl⟩ := hu; exact iha j u' v hu' hv
  | yl id => exact .yl id
theorem ObR.boxF {d : Nat} {ob : SOb} {f : List SV → List SV} (hz : ∀ id, Z id → Z' id) (hl : ∀ l, (f l).length = l.length)
    (hf : ∀ cs cs', SVRL ν m H Z cs cs' → SVRL ν m' H Z' (f cs) cs') (o : ObR ν m H Z d ob) : ObR ν m' H Z' d (boxF f ob) := by
  have hz' : ∀ id, Z id → Z' id ∧ rowsAt H id = rowsAt H id := fun id h => ⟨hz id h, rfl⟩
  cases ob with
  | sl k es xs =>
    simp only [Go.VE.boxF, ObR] at o ⊢
    split
    · rename_i hk
      rw [if_pos hk] at o
      obtain ⟨ys, h1, h2, h3, h4, h5⟩ := o
      exact ⟨ys, h1, h2, h3.mono hz', h4.mono hz', h5⟩
    · rename_i hk; rw [if_neg hk] at o; exact o
  | box cs =>
    obtain ⟨es, cs', h1, h2, h3⟩ := o
    exact ⟨es, cs', h1, hf cs cs' h2, h3⟩
  | mp kvs =>
    obtain ⟨kvs', h1, h2⟩ := o
    exact ⟨kvs', h1, h2.mono hz'⟩
theorem backed_boxF {f : List SV → List SV} {ob : SOb} : backed (boxF f ob) = backed ob := by cases ob <;> rfl
theorem shape_boxF {f : List SV → List SV} {ob : SOb} : sameShape ob (boxF f ob) := by cases ob <;> simp [boxF, sameShape]
theorem R.shut (r : R ν Z st F H) {d : Nat} {ob : SOb} (h0 : tget st.m d = some ob) {fs : SV → SV} {fl : List SV → List SV} (hl : ∀ l, (fl l).length = l.length) (hg : ∀ l (j : Nat), (fl l)[j]? = (l[j]?).map fs)
    (hz' : ∀ id, Z' id ↔ Z id ∨ (backed ob = true ∧ id = (ν d).1)) (hrow : backed ob = true → ∃ es ys, H[(ν d).1]? = some (.row es ys) ∧ Solid H Z ys)
    (hf : ∀ m', (∀ e ob', tget m' e = some ob' → e ≠ d ∧ ∃ ob, tget st.m e = some ob ∧ sameShape ob ob') → ∀ sv y, SVR ν st.m H Z sv y → SVR ν m' H Z' (fs sv) y) :
    R ν Z' { st with g := mapG fs st.g, m := mapM fl (tdel d st.m) } F H ∧ Ev Rv ν Z st H ν Z' { st with g := mapG fs st.g, m := mapM fl (tdel d st.m) } H := by
  have key : ∀ e ob', tget (mapM fl (tdel d st.m)) e = some ob' → e ≠ d ∧ ∃ ob, tget st.m e = some ob ∧ ob' = boxF fl ob := fun e ob' h => by
    rw [tget_mapM, Option.map_eq_some_iff] at h
    obtain ⟨o, h1, rfl⟩ := h
    obtain ⟨h2, h3⟩ := tget_tdel h1
    exact ⟨Ne.symm h2, o, h3, rfl⟩
  have key' : ∀ e ob', tget (mapM fl (tdel d st.m)) e = some ob' → e ≠ d ∧ ∃ ob, tget st.m e = some ob ∧ sameShape ob ob' := fun e ob' h => by
    obtain ⟨h1, o, h2, rfl⟩ := key e ob' h; exact ⟨h1, o, h2, shape_boxF⟩
  have hF := hf _ key'
  have hFL : ∀ cs cs', SVRL ν st.m H Z cs cs' → SVRL ν (mapM fl (tdel d st.m)) H Z' (fl cs) cs' := fun cs cs' h => by
    refine ⟨by rw [hl]; exact h.1, fun j u v hu hv => ?_⟩
    rw [hg, Option.map_eq_some_iff] at hu
    obtain ⟨u', hu', rfl⟩ := hu
    exact hF u' v (h.2 j u' v hu' hv)
  have hzz : ∀ id, Z id → Z' id := fun id h => (hz' id).2 (.inl h)
  refine ⟨⟨fun s sv hs => ?_, fun e ob' he => ?_, fun d1 d2 o1 o2 h1 h2 b1 b2 hp => ?_, fun d1 o1 h1 b1 => ?_, fun id h => ?_, ⟨fun id es ys hz hr c hc u hu => ?_⟩⟩, ⟨Nat.le_refl _, fun _ _ _ _ _ => rfl, fun id h => ⟨hzz id h, rfl⟩, ?_, ?_, ?_, rfl⟩⟩
  · rw [tget_mapG, Option.map_eq_some_iff] at hs
    obtain ⟨sv', hs', rfl⟩ := hs
    exact hF sv' _ (r.slot s sv' hs')
  · obtain ⟨h1, o, h2, rfl⟩ := key e ob' he
    exact ObR.boxF hzz hl hFL (r.obj e o h2)
  · obtain ⟨_, p1, k1, rfl⟩ := key d1 o1 h1
    obtain ⟨_, p2, k2, rfl⟩ := key d2 o2 h2
    rw [backed_boxF] at b1 b2
    exact r.inj d1 d2 p1 p2 k1 k2 b1 b2 hp
  · obtain ⟨hne, p1, k1, rfl⟩ := key d1 o1 h1
    rw [backed_boxF] at b1
    intro hz
    rcases (hz' _).1 hz with hz | ⟨hb, he⟩
    · exact r.apart d1 p1 k1 b1 hz
    · exact hne (r.inj d1 d p1 ob k1 h0 b1 hb he)
  · rcases (hz' id).1 h with h | ⟨hb, rfl⟩
    · exact r.zrow id h
    · obtain ⟨es, ys, hr, _⟩ := hrow hb
      unfold rowsAt; rw [hr]; rfl
  · rcases (hz' id).1 hz with h | ⟨hb, rfl⟩
    · obtain ⟨x, hx⟩ := r.deep.row id es ys h hr c hc u hu
      exact ⟨x, hx.mono fun k hk => ⟨hzz k hk, rfl⟩⟩
    · obtain ⟨es', ys', hr', hs⟩ := hrow hb
      unfold rowsAt at hr; rw [hr'] at hr
      simp only [Option.bind_some, Ob.rows, Option.some.injEq, Prod.mk.injEq] at hr
      obtain ⟨_, rfl⟩ := hr
      obtain ⟨x, hx⟩ := hs c hc u hu
      exact ⟨x, hx.mono fun k hk => ⟨hzz k hk, rfl⟩⟩
  · rintro id ⟨e, o, h1, h2, h3⟩
    obtain ⟨_, p, k1, rfl⟩ := key e o h1
    rw [backed_boxF] at h2
    exact .inl ⟨e, p, k1, h2, h3⟩
  · intro id h
    rcases (hz' id).1 h with h | ⟨hb, rfl⟩
    · exact .inl h
    · exact .inr (.inl ⟨d, ob, h0, hb, rfl⟩)
  · intro e _ ob' h
    obtain ⟨_, o, k1, rfl⟩ := key e ob' h
    exact ⟨o, k1, rfl, shape_boxF⟩
theorem close_ok (r : R ν Z st F H) {d : Nat} (h : closeD d st = some st') : ∃ Z', R ν Z' st' F H ∧ Ev Rv ν Z st H ν Z' st' H := by
  simp only [closeD] at h
  split at h
  · rename_i k es xs hob
    simp only [Option.some.injEq] at h; subst h
    have o := r.obj d _ hob
    refine ⟨fun id => Z id ∨ (backed (.sl k es xs) = true ∧ id = (ν d).1), R.shut r hob (fun _ => subL_length) (fun _ _ => subL_get) (fun _ => Iff.rfl) (fun hb => ?_) (fun m' hm' sv y hr => ?_)⟩
    · have hk : rowLike k = true := hb
      simp only [ObR, hk, if_true] at o
      obtain ⟨ys, hr, _, _, hs, _⟩ := o
      exact ⟨es, ys, hr, hs⟩
    · refine SVR.sub hob ?_ (fun id h => .inl h) hm' hr
      by_cases hk : rowLike k = true
      · simp only [ObR, hk, if_true] at o
        obtain ⟨ys, hr, hl, hf, hs, _⟩ := o
        rw [slA_row hk]
        have e : slV k es xs = .fsl es xs := by cases k <;> simp [rowLike] at hk <;> rfl
        rw [e]
        refine FR.ofHsl (.inr ⟨hk, rfl⟩) (by unfold rowsAt; rw [hr]; rfl) hl (hf.mono fun id h => ⟨.inl h, rfl⟩)
      · cases k <;> simp [rowLike] at hk
        · exact .same _ rfl
        · exact .same _ rfl
  · simp at h
theorem closeB_ok (r : R ν Z st F H) {d : Nat} (h : ghost (.closeB d) st = some st') : ∃ Z', R ν Z' st' F H ∧ Ev Rv ν Z st H ν Z' st' H := by
  simp only [ghost] at h
  split at h
  · rename_i cs hob
    split at h
    · rename_i xs hx
      simp only [Option.some.injEq] at h; subst h
      obtain ⟨es, cs', hr, hc, _⟩ := r.obj d _ hob
      have hf := hc.allV hx
      have hs : Solid H Z [cs'] := by
        intro c hcm u hu
        simp only [List.mem_singleton] at hcm; subst hcm
        obtain ⟨j, hj⟩ := List.mem_iff_getElem?.1 hu
        have hl : j < xs.length := by rw [hf.1]; exact (List.getElem?_eq_some_iff.1 hj).1
        exact ⟨_, hf.2 j _ u (List.getElem?_eq_getElem hl) hj⟩
      refine ⟨fun id => Z id ∨ (backed (.box cs) = true ∧ id = (ν d).1), R.shut r hob (fun _ => subBL_length) (fun _ _ => subBL_get) (fun _ => Iff.rfl) (fun hb => ⟨es, _, hr, hs⟩) (fun m' hm' sv y hr' => ?_)⟩
      refine SVR.subB hob (fun o ho => ?_) (fun id h => .inl h) hm' hr'
      exact FR.ofHptr (.inr ⟨rfl, rfl⟩) (show rowsAt H (ν d).1 = some (es, [cs']) by unfold rowsAt; rw [hr]; rfl) rfl (by rw [← hf.1]; exact ho) ((hf.drop o).mono fun id h => ⟨.inl h, rfl⟩)
    · simp at h
  · simp at h
theorem renL_get {d e : Nat} : ∀ {l : List SV} {j : Nat}, (SV.renL d e l)[j]? = (l[j]?).map (SV.ren d e)
  | [], j => by simp [SV.renL]
  | x :: r, 0 => by simp [SV.renL]
  | x :: r, j + 1 => by simp [SV.renL, renL_get (l := r)]
theorem renL_length {d e : Nat} : ∀ {l : List SV}, (SV.renL d e l).length = l.length
  | [] => rfl
  | x :: r => by simp [SV.renL, renL_length (l := r)]
theorem tget_renG {d e : Nat} : ∀ {g : Tb SV} {s : Nat}, tget (renG d e g) s = (tget g s).map (SV.ren d e)
  | [], s => rfl
  | (k, x) :: r, s => by
    simp only [renG, tget]
    split
    · rfl
    · exact tget_renG
theorem tget_renM {d e : Nat} (hne : d ≠ e) : ∀ {m : Tb SOb} {k : Nat}, tget m e = none → tget (renM d e m) k = (if k = d then none else (tget m (if k = e then d else k)).map (SOb.ren d e))
  | [], k, _ => by simp [renM, tget]
  | (n, x) :: r, k, h => by
    simp only [tget] at h
    split at h
    · simp at h
    · rename_i hn
      have ih := tget_renM hne (m := r) (k := k) h
      simp only [renM, tget]
      by_cases h1 : k = d
      · subst h1
        rw [if_pos rfl] at ih ⊢
        by_cases h2 : n = k
        · rw [if_pos h2, if_neg (Ne.symm hne)]; exact ih
        · rw [if_neg h2, if_neg h2]; exact ih
      · rw [if_neg h1] at ih ⊢
        by_cases h2 : k = e
        · subst h2
          rw [if_pos rfl] at ih ⊢
          by_cases h3 : n = d
          · rw [if_pos h3, if_pos rfl, if_pos h3]; rfl
          · rw [if_neg h3, if_neg hn, if_neg h3]; exact ih
        · rw [if_neg h2] at ih ⊢
          by_cases h3 : n = d
          · rw [if_pos h3, if_neg (Ne.symm h2), if_neg (by rw [h3]; exact Ne.symm h1)]; exact ih
          · rw [if_neg h3]
            by_cases h4 : n = k
            · rw [if_pos h4, if_pos h4]; rfl
            · rw [if_neg h4, if_neg h4]; exact ih
def nuRen (ν : Nu) (d e : Nat) : Nu := fun k => if k = e then ν d else ν k
theorem SVR.ren {sv : SV} {y : V} {d e : Nat} (hn : tget m e = none) (hs : sv.says e = false) (hne : d ≠ e) (r : SVR ν m H Z sv y) : SVR (nuRen ν d e) (renM d e m) H Z (sv.ren d e) y := by
  have key : ∀ k, k ≠ e → ∀ ob', tget (renM d e m) (if k = d then e else k) = some ob' → ∃ ob, tget m k = some ob ∧ nuRen ν d e (if k = d then e else k) = ν k ∧ ob' = ob.ren d e := fun k hk ob' h => by
    rw [tget_renM hne hn] at h
    by_cases h1 : k = d
    · subst h1
      rw [if_pos rfl, if_neg (Ne.symm hne), if_pos rfl, Option.map_eq_some_iff] at h
      obtain ⟨ob, h2, rfl⟩ := h
      exact ⟨ob, h2, by rw [if_pos rfl]; unfold nuRen; rw [if_pos rfl], rfl⟩
    · rw [if_neg h1, if_neg h1, if_neg hk, Option.map_eq_some_iff] at h
      obtain ⟨ob, h2, rfl⟩ := h
      exact ⟨ob, h2, by rw [if_neg h1]; unfold nuRen; rw [if_neg hk], rfl⟩
  induction r with
  | v x y h => exact .v x y h
  | own k y h =>
    have hk : k ≠ e := by rintro rfl; simp [SV.says] at hs
    refine .own _ y fun ob' ho => ?_
    obtain ⟨ob, h1, h2, rfl⟩ := key k hk ob' ho
    obtain ⟨_, _, _, rfl, rfl⟩ := h ob h1
    exact ⟨_, _, _, rfl, by rw [h2]⟩
  | ptr k o y h =>
    have hk : k ≠ e := by rintro rfl; simp [SV.says] at hs
    refine .ptr _ o y fun ob' ho => ?_
    obtain ⟨ob, h1, h2, rfl⟩ := key k hk ob' ho
    obtain ⟨_, rfl, rfl⟩ := h ob h1
    exact ⟨_, rfl, by rw [h2]⟩
  | el k i o y h =>
    have hk : k ≠ e := by rintro rfl; simp [SV.says] at hs
    refine .el _ i o y fun ob' ho => ?_
    obtain ⟨ob, h1, h2, rfl⟩ := key k hk ob' ho
    obtain ⟨_, _, _, rfl, h3, rfl⟩ := h ob h1
    exact ⟨_, _, _, rfl, h3, by rw [h2]⟩
  | mp k y h =>
    have hk : k ≠ e := by rintro rfl; simp [SV.says] at hs
    refine .mp _ y fun ob' ho => ?_
    obtain ⟨ob, h1, h2, rfl⟩ := key k hk ob' ho
    obtain ⟨_, rfl, rfl⟩ := h ob h1
    exact ⟨_, rfl, by rw [h2]⟩
  | clo f a b a' b' ha hb hva hvb iha ihb =>
    simp only [SV.says, Bool.or_eq_false_iff] at hs
    refine .clo f _ _ a' b' (by rw [renL_length]; exact ha) (by rw [renL_length]; exact hb) (fun j u v hu hv => ?_) (fun j u v hu hv => ?_)
    · rw [renL_get, Option.map_eq_some_iff] at hu; obtain ⟨u', hu', rfl⟩ := hu; exact iha j u' v hu' hv (saysL_of hs.1 hu')
    · rw [renL_get, Option.map_eq_some_iff] at hu; obtain ⟨u', hu', rfl⟩ := hu; exact ihb j u' v hu' hv (saysL_of hs.2 hu')
  | tup a a' ha hva iha =>
    simp only [SV.says] at hs
    refine .tup _ a' (by rw [renL_length]; exact ha) (fun j u v hu hv => ?_)
    rw [renL_get, Option.map_eq_some_iff] at hu; obtain ⟨u', hu', rfl⟩ := hu; exact iha j u' v hu' hv (saysL_of hs hu')
  | yl id => exact .yl id
theorem ren_ok (r : R ν Z st F H) {d e : Nat} (hne : d ≠ e) (hn : st.new e = true) : R (nuRen ν d e) Z { st with g := renG d e st.g, m := renM d e st.m } F H ∧ Ev Rv ν Z st H (nuRen ν d e) Z { st with g := renG d e st.g, m := renM d e st.m } H := by
  obtain ⟨n1, n2, n3, n4⟩ := new_spec hn
  have key : ∀ k ob', tget (renM d e st.m) k = some ob' → ∃ k0 ob, tget st.m k0 = some ob ∧ ob' = ob.ren d e ∧ nuRen ν d e k = ν k0 ∧ k ≠ d ∧ (k = e ∧ k0 = d ∨ k ≠ e ∧ k0 = k) := fun k ob' h => by
    rw [tget_renM hne n2] at h
    split at h
    · simp at h
    · rename_i h1
      rw [Option.map_eq_some_iff] at h
      obtain ⟨ob, h2, rfl⟩ := h
      by_cases h3 : k = e
      · rw [if_pos h3] at h2
        exact ⟨d, ob, h2, rfl, by unfold nuRen; rw [if_pos h3], h1, .inl ⟨h3, rfl⟩⟩
      · rw [if_neg h3] at h2
        exact ⟨k, ob, h2, rfl, by unfold nuRen; rw [if_neg h3], h1, .inr ⟨h3, rfl⟩⟩
  have bk : ∀ ob : SOb, backed (ob.ren d e) = backed ob := fun ob => by cases ob <;> rfl
  refine ⟨⟨fun s sv hs => ?_, fun k ob' hk => ?_, fun d1 d2 o1 o2 h1 h2 b1 b2 hp => ?_, fun d1 o1 h1 b1 => ?_, r.zrow, r.deep⟩, ⟨Nat.le_refl _, fun _ _ _ _ _ => rfl, fun id h => ⟨h, rfl⟩, ?_, fun _ h => .inl h, ?_, rfl⟩⟩
  · simp only at hs
    rw [tget_renG, Option.map_eq_some_iff] at hs
    obtain ⟨sv', hs', rfl⟩ := hs
    exact SVR.ren n2 (saysG_of n3 hs') hne (r.slot s sv' hs')
  · obtain ⟨k0, ob, h1, rfl, h2, _, _⟩ := key k ob' hk
    have o := r.obj k0 ob h1
    cases ob with
    | sl fl es xs => simp only [SOb.ren, ObR, h2] at o ⊢; exact o
    | box cs =>
      obtain ⟨es, cs', g1, g2, g3⟩ := o
      have hns : SV.saysL e cs = false := by have := saysM_of n4 h1; simpa [SOb.says] using this
      refine ⟨es, cs', by rw [h2]; exact g1, ⟨by rw [renL_length]; exact g2.1, fun j u v hu hv => ?_⟩, g3⟩
      rw [renL_get, Option.map_eq_some_iff] at hu
      obtain ⟨u', hu', rfl⟩ := hu
      exact SVR.ren n2 (saysL_of hns hu') hne (g2.2 j u' v hu' hv)
    | mp kvs => simp only [SOb.ren, ObR, h2] at o ⊢; exact o
  · obtain ⟨k1, p1, g1, rfl, e1, c1, c2⟩ := key d1 o1 h1
    obtain ⟨k2, p2, g2, rfl, e2, c3, c4⟩ := key d2 o2 h2
    rw [bk] at b1 b2
    have := r.inj k1 k2 p1 p2 g1 g2 b1 b2 (by rw [← e1, ← e2]; exact hp)
    omega
  · obtain ⟨k1, p1, g1, rfl, e1, _⟩ := key d1 o1 h1
    rw [bk] at b1
    rw [e1]; exact r.apart k1 p1 g1 b1
  · rintro id ⟨k, o, h1, h2, h3⟩
    obtain ⟨k1, p1, g1, rfl, e1, _⟩ := key k o h1
    rw [bk] at h2
    exact .inl ⟨k1, p1, g1, h2, by rw [← e1]; exact h3⟩
  · intro k hk ob' h
    obtain ⟨k1, p1, g1, rfl, e1, c1, c2⟩ := key k ob' h
    rcases c2 with ⟨rfl, _⟩ | ⟨c2, rfl⟩
    · exact absurd hk n1
    · exact ⟨p1, g1, e1, by cases p1 <;> simp [SOb.ren, sameShape]⟩
theorem R.say (r : R ν Z st F H) {n : Nat} {sv : SV} (h : SVR ν st.m H Z sv (get F n)) : R ν Z { st with g := tput st.g n sv } F H where
  slot := fun s x hs => by
    by_cases e : n = s
    · subst e; rw [tget_tput_eq] at hs; cases hs; exact h
    · rw [tget_tput_ne st.g sv e] at hs; exact r.slot s x hs
  obj := r.obj
  inj := r.inj
  apart := r.apart
  zrow := r.zrow
  deep := r.deep
theorem canonS (r : R ν Z st F H) {n d es : Nat} {k : Fl} {x : V} (hk : slV k es [] = x ∧ rowLike k = false) (hs : tget st.g n = some (.v x)) (hn : st.new d = true) (hx : ∀ y, FR H Z x y → y = x) (hxx : slA (ν d) k es 0 = x) :
    R (nuAt ν d (ν d)) Z { st with g := tput st.g n (.own d), m := tput st.m d (.sl k es []) } F H ∧ Ev Rv ν Z st H (nuAt ν d (ν d)) Z { st with g := tput st.g n (.own d), m := tput st.m d (.sl k es []) } H := by
  have hnb : backed (.sl k es []) = true → False := by simp [backed, hk.2]
  have r1 := r.add hn (p := ν d) (ob := .sl k es []) (fun h => (hnb h).elim) (by simp [ObR, hk.2])
  refine ⟨r1.say (n := n) (sv := .own d) (.own _ _ fun ob' h' => ?_), ?_⟩
  · simp only at h'
    rw [tget_tput_eq] at h'; cases h'
    refine ⟨_, _, _, rfl, ?_⟩
    rw [nuAt_eq, hx _ (r.slot n _ hs).fr]
    exact hxx.symm
  · exact (Ev.add (H' := H) hn (Nat.le_refl _) (fun _ _ _ => rfl) (fun _ _ => rfl) (fun h => (hnb h).elim)).trans (Ev.slots _)
theorem canonC (r : R ν Z st F H) {b i d es : Nat} {k : Fl} {x : V} {cs : List SV} (hk : rowLike k = false) (hb : tget st.m b = some (.box cs)) (hi : cs[i]? = some (.v x)) (hn : st.new d = true) (hx : ∀ y, FR H Z x y → y = x) (hxx : slA (ν d) k es 0 = x) :
    ∃ ν', R ν' Z { st with m := tput (tput st.m d (.sl k es [])) b (.box (cs.set i (.own d))) } F H ∧ Ev Rv ν Z st H ν' Z { st with m := tput (tput st.m d (.sl k es [])) b (.box (cs.set i (.own d))) } H := by
  have hnb : backed (.sl k es []) = true → False := by simp [backed, hk]
  have r1 := r.add hn (p := ν d) (ob := .sl k es []) (fun h => (hnb h).elim) (by simp [ObR, hk])
  have hne : b ≠ d := by rintro rfl; rw [(new_spec hn).2.1] at hb; cases hb
  have hb1 : tget (tput st.m d (.sl k es [])) b = some (.box cs) := by rw [tget_tput_ne _ _ (Ne.symm hne)]; exact hb
  obtain ⟨es1, cs', h1, h2, h3⟩ := r1.obj b _ hb1
  have sm : ∀ e ob', tget (tput (tput st.m d (.sl k es [])) b (.box (cs.set i (.own d)))) e = some ob' → ∃ ob, tget (tput st.m d (.sl k es [])) e = some ob ∧ nuAt ν d (ν d) e = nuAt ν d (ν d) e ∧ sameShape ob ob' := fun e ob' h => by
    by_cases he : e = b
    · subst he; rw [tget_tput_eq] at h; cases h; exact ⟨_, hb1, rfl, trivial⟩
    · rw [tget_tput_ne _ _ (Ne.symm he)] at h; exact ⟨ob', h, rfl, .refl _⟩
  refine ⟨nuAt ν d (ν d), r1.upd (H' := H) hb1 (ob' := .box (cs.set i (.own d))) trivial rfl (fun _ _ => rfl) rfl ⟨es1, cs', h1, ⟨by simp [h2.1], fun j u v hu hv => ?_⟩, h3⟩, ?_⟩
  · rw [List.getElem?_set] at hu
    split at hu
    · rename_i e; subst e
      split at hu
      · cases hu
        refine .own _ _ fun ob' h' => ?_
        rw [tget_tput_ne _ _ hne, tget_tput_eq] at h'; cases h'
        refine ⟨_, _, _, rfl, ?_⟩
        rw [nuAt_eq, hx v (h2.2 i _ v hi hv).fr]
        exact hxx.symm
      · simp at hu
    · exact (h2.2 j u v hu hv).mono (fun id h => ⟨h, rfl⟩) fun e _ => sm e
  · exact (Ev.add (H' := H) hn (Nat.le_refl _) (fun _ _ _ => rfl) (fun _ _ => rfl) (fun h => (hnb h).elim)).trans (Ev.upd r1 hb1 trivial rfl (fun _ _ => rfl) rfl (Nat.le_refl _))
theorem ghost_ok (r : R ν Z st F H) {x : Gh} (h : ghost x st = some st') : ∃ ν' Z', R ν' Z' st' F H ∧ Ev Rv ν Z st H ν' Z' st' H := by
  cases x with
  | close d => obtain ⟨Z', a, b⟩ := close_ok (Rv := Rv) r h; exact ⟨ν, Z', a, b⟩
  | closeS l =>
    simp only [ghost] at h
    split at h
    · obtain ⟨Z', a, b⟩ := close_ok (Rv := Rv) r h; exact ⟨ν, Z', a, b⟩
    · simp only [Option.some.injEq] at h; subst h; exact ⟨ν, Z, r, .refl⟩
    · simp at h
  | closeB d => obtain ⟨Z', a, b⟩ := closeB_ok (Rv := Rv) r h; exact ⟨ν, Z', a, b⟩
  | keep gs ms =>
    simp only [ghost] at h
    split at h
    · rename_i g m hg hm
      simp only [Option.some.injEq] at h; subst h
      exact ⟨ν, Z, r.less (fun s sv hs => tget_tkeep hg hs) (fun d ob hd => tget_tkeep hm hd), Ev.less (fun d ob hd => tget_tkeep hm hd)⟩
    · simp at h
  | drop ds =>
    simp only [ghost, Option.some.injEq] at h; subst h
    exact ⟨ν, Z, r.less (g := tdels ds st.g) (m' := st.m) (fun s sv hs => tget_tdels hs) (fun d ob hd => hd), Ev.less (g := tdels ds st.g) (m' := st.m) (fun d ob hd => hd)⟩
  | canon l d es =>
    cases l with
    | s n =>
      simp only [ghost] at h
      split at h
      · rename_i hs
        split at h
        · rename_i hn
          simp only [Option.some.injEq] at h; subst h
          obtain ⟨a, b⟩ := canonS (Rv := Rv) (es := es) (k := .nil) r ⟨rfl, rfl⟩ hs hn (fun y h => h.nsl) rfl
          exact ⟨_, _, a, b⟩
        · simp at h
      · rename_i hs
        split at h
        · rename_i hn
          simp only [Option.some.injEq] at h; subst h
          obtain ⟨a, b⟩ := canonS (Rv := Rv) (es := es) (k := .emp) r ⟨rfl, rfl⟩ hs hn (fun y h => h.esl) rfl
          exact ⟨_, _, a, b⟩
        · simp at h
      · rename_i e hs
        split at h
        · simp only [Option.some.injEq] at h; subst h; exact ⟨ν, Z, r, .refl⟩
        · rename_i hne
          split at h
          · rename_i hn
            simp only [Option.some.injEq] at h; subst h
            obtain ⟨a, b⟩ := ren_ok (Rv := Rv) r hne hn
            exact ⟨_, _, a, b⟩
          · simp at h
      · simp at h
    | c b i =>
      simp only [ghost] at h
      split at h
      · rename_i cs hb
        split at h
        · rename_i hs
          split at h
          · rename_i hn
            simp only [Option.some.injEq] at h; subst h
            obtain ⟨ν', a, b⟩ := canonC (Rv := Rv) (es := es) (k := .nil) r rfl hb hs hn (fun y h => h.nsl) rfl
            exact ⟨_, _, a, b⟩
          · simp at h
        · rename_i hs
          split at h
          · rename_i hn
            simp only [Option.some.injEq] at h; subst h
            obtain ⟨ν', a, b⟩ := canonC (Rv := Rv) (es := es) (k := .emp) r rfl hb hs hn (fun y h => h.esl) rfl
            exact ⟨_, _, a, b⟩
          · simp at h
        · rename_i e hs
          split at h
          · simp only [Option.some.injEq] at h; subst h; exact ⟨ν, Z, r, .refl⟩
          · rename_i hne
            split at h
            · rename_i hn
              simp only [Option.some.injEq] at h; subst h
              obtain ⟨a, b⟩ := ren_ok (Rv := Rv) r hne hn
              exact ⟨_, _, a, b⟩
            · simp at h
        · simp at h
      · simp at h
end
end Go.VE
