/-
  Plain values and the steps of a certificate.
-/
import Derived.KernelRfl
import Derived.Test.YtnfakljmdnbipaaN2
set_option linter.all false
namespace Go.VE
inductive Sl (α : Type) where
  | nil
  | emp
  | row (l : List α)
  | part (l : List α)
  deriving Inhabited
def Sl.l {α : Type} : Sl α → List α
  | .nil | .emp => []
  | .row l | .part l => l
def Sl.k {α : Type} : Sl α → Fl
  | .nil => .nil
  | .emp => .emp
  | .row _ => .row
  | .part _ => .part
class Enc (α : Type) where
  cells : α → List V
  agg : Bool
  size : Nat
  len : ∀ a, (cells a).length = size
  good : ∀ a, V.goodL (cells a) = true
  one : ∀ a, (cells a).all V.one = true
  plain : agg = false → size = 1
def cells {α : Type} [Enc α] (a : α) : List V := Enc.cells a
def enc {α : Type} [Enc α] (a : α) : V := if Enc.agg α then .agg (cells a) else (cells a).headD .undef
def rows {α : Type} [Enc α] (l : List α) : List (List V) := l.map cells
def slEnc {α : Type} [Enc α] (s : Sl α) : V := slV s.k (Enc.size α) (rows s.l)
instance : Enc Int where
  cells n := [.int .i64 n]
  agg := false
  size := 1
  len _ := rfl
  good _ := rfl
  one _ := rfl
  plain _ := rfl
instance : Enc Bool where
  cells b := [.bool b]
  agg := false
  size := 1
  len _ := rfl
  good _ := rfl
  one _ := rfl
  plain _ := rfl
instance : Enc ByteArray where
  cells s := [.str s]
  agg := false
  size := 1
  len _ := rfl
  good _ := rfl
  one _ := rfl
  plain _ := rfl
structure EventId where
  proc : Int
  index : Int
  deriving DecidableEq, Inhabited
instance : Enc EventId where
  cells x := [.int .i64 x.proc, .int .i64 x.index]
  agg := true
  size := 2
  len _ := rfl
  good _ := rfl
  one _ := rfl
  plain h := by cases h
@[simp] theorem enc_int (n : Int) : enc n = .int .i64 n := rfl
@[simp] theorem enc_bool (n : Bool) : enc n = .bool n := rfl
@[simp] theorem enc_str (n : ByteArray) : enc n = .str n := rfl
@[simp] theorem cells_int (n : Int) : cells n = [.int .i64 n] := rfl
@[simp] theorem cells_bool (n : Bool) : cells n = [.bool n] := rfl
@[simp] theorem cells_str (n : ByteArray) : cells n = [.str n] := rfl
@[simp] theorem cells_ev (n : EventId) : cells n = [.int .i64 n.proc, .int .i64 n.index] := rfl
@[simp] theorem enc_ev (n : EventId) : enc n = .agg [.int .i64 n.proc, .int .i64 n.index] := rfl
section
variable {α : Type} [Enc α]
theorem rows_length (l : List α) : (rows l).length = l.length := by simp [rows]
def idx (s : Sl α) (i : Int) : Option α := if 0 ≤ i then s.l[i.toNat]? else none
theorem idxS_enc {N : Nat → FuncId} (s : Sl α) (k : IntKind) (i : Int) {n : Nat} (hn : n = Enc.size α) : peval N (.idxS n) [slEnc s, .int k i] = (idx s i).map fun x => .fptr (cells x) := by
  subst hn
  unfold idx slEnc
  simp only [peval, idxSV]
  by_cases h : i < 0
  · rw [if_pos h, if_neg (by omega)]; rfl
  · rw [if_neg h, if_pos (by omega)]
    cases s <;> simp [Sl.k, Sl.l, slV, rows, Function.comp_def]
theorem lenSl_enc {N : Nat → FuncId} (s : Sl α) : peval N .lenSl [slEnc s] = some (.int .i64 s.l.length) := by
  cases s <;> simp [peval, lenSlV, slEnc, Sl.k, Sl.l, slV, rows_length]
end
section
variable {S : Sys} {c : CallS}
theorem sops_nil (dr : Bool) (fr : List Nat) (st : St) : sops S c dr fr [] st = some st := rfl
end
end Go.VE
namespace Go.VE
section
variable {S : Sys} {c : CallS}
def isSlice : POp → Bool
  | .slice .. => true
  | _ => false
theorem sargs_nil (N : Nat → FuncId) (g : Tb SV) : sargs N g [] = some [] := rfl
theorem sargs_cons (N : Nat → FuncId) (g : Tb SV) (x : Arg) (r : List Arg) : sargs N g (x :: r) = (sarg N g x).bind fun v => (sargs N g r).bind fun vs => some (v :: vs) := by
  simp only [sargs]; cases sarg N g x <;> cases sargs N g r <;> rfl
theorem sarg_s (N : Nat → FuncId) (g : Tb SV) (n : Nat) : sarg N g (.s n) = tget g n := rfl
theorem sarg_k (N : Nat → FuncId) (g : Tb SV) (x : V) : sarg N g (.k x) = some (.v x) := rfl
theorem sarg_f (N : Nat → FuncId) (g : Tb SV) (n : Nat) : sarg N g (.f n) = some (.v (.clo (N n) [] [])) := rfl
theorem tget_cons {α : Type} (k : Nat) (v : α) (r : Tb α) (n : Nat) : tget ((k, v) :: r) n = if k = n then some v else tget r n := rfl
theorem tget_nil {α : Type} (n : Nat) : tget ([] : Tb α) n = none := rfl
theorem tput_cons {α : Type} (k : Nat) (x : α) (r : Tb α) (n : Nat) (v : α) : tput ((k, x) :: r) n v = if k = n then (k, v) :: r else (k, x) :: tput r n v := rfl
theorem tput_nil {α : Type} (n : Nat) (v : α) : tput [] n v = [(n, v)] := rfl
theorem sop_p (dr : Bool) (fr : List Nat) (dst : Option Nat) (now : Bool) (p : POp) (as : List Arg) (st : St) (h : isSlice p = false) :
    sop S c dr fr ⟨dst, none, now, .p p, as, [], []⟩ st = (sargs S.N st.g as).bind fun svs => (pureS S.N st.m p svs).bind fun x => some (putO st dst x) := by
  unfold sop doS
  have hy : yieldArgs S.N st.g ⟨dst, none, now, .p p, as, [], []⟩ = none := by unfold yieldArgs; cases p <;> rfl
  simp only [wanted, hy]
  cases hs : sargs S.N st.g as with
  | none => rfl
  | some svs =>
    simp only [Option.bind_some]
    cases p <;> first | (simp [isSlice] at h; done) | (cases hp : pureS S.N st.m _ svs <;> simp [hp])
theorem pureS_v (N : Nat → FuncId) (m : Tb SOb) (p : POp) (svs : List SV) (xs : List V) (h : allV svs = some xs) : pureS N m p svs = (peval N p xs).bind fun x => some (.v x) := by
  unfold pureS; rw [h]; dsimp only; cases peval N p xs <;> rfl
theorem sop_r (dr : Bool) (fr : List Nat) (dst : Option Nat) (now : Bool) (q : ROp) (as : List Arg) (st : St) :
    sop S c dr fr ⟨dst, none, now, .r q, as, [], []⟩ st = (sargs S.N st.g as).bind fun svs => if !dr || now || oldRead fr svs then (readS st.m q svs).bind fun x => some (putO st dst x) else none := by
  unfold sop doS
  have hy : yieldArgs S.N st.g ⟨dst, none, now, .r q, as, [], []⟩ = none := rfl
  simp only [wanted, hy]
  cases hs : sargs S.N st.g as with
  | none => rfl
  | some svs =>
    simp only [Option.bind_some]
    split
    · cases hp : readS st.m q svs <;> simp
    · rfl
theorem sop_a (dr : Bool) (fr : List Nat) (d : Nat) (now : Bool) (q : AOp) (as : List Arg) (st : St) :
    sop S c dr fr ⟨some d, none, now, .a q, as, [], []⟩ st = (sargs S.N st.g as).bind fun svs => if st.new d then (allocS st.m q svs d).bind fun r => some { st with g := tput st.g d r.2, m := tput st.m d r.1 } else none := by
  unfold sop doS
  have hy : yieldArgs S.N st.g ⟨some d, none, now, .a q, as, [], []⟩ = none := rfl
  simp only [wanted, hy]
  cases hs : sargs S.N st.g as with
  | none => rfl
  | some svs =>
    simp only [Option.bind_some]
    split
    · cases hp : allocS st.m q svs d <;> simp [putO]
    · rfl
theorem sop_l (dr : Bool) (fr : List Nat) (dst : Option Nat) (now : Bool) (q : LOp) (as : List Arg) (st : St) :
    sop S c dr fr ⟨dst, none, now, .l q, as, [], []⟩ st = (sargs S.N st.g as).bind fun svs => if !dr || now then (loudS st dst q svs).bind fun r => some (putO r.2 dst r.1) else none := by
  unfold sop doS
  have hy : yieldArgs S.N st.g ⟨dst, none, now, .l q, as, [], []⟩ = none := rfl
  simp only [wanted, hy]
  cases hs : sargs S.N st.g as with
  | none => rfl
  | some svs =>
    simp only [Option.bind_some]
    split
    · cases hp : loudS st dst q svs <;> simp
    · rfl
def calleeS : List SV → Option (FuncId × List SV)
  | .clo f a b :: vs => some (f, a ++ vs ++ b)
  | .v (.clo f a b) :: vs => some (f, a.map .v ++ vs ++ b.map .v)
  | _ => none
theorem sop_c (dr : Bool) (fr : List Nat) (dst : Option Nat) (now : Bool) (as : List Arg) (st : St) (svs : List SV) (f : FuncId) (args : List SV) (hs : sargs S.N st.g as = some svs) (hc : calleeS svs = some (f, args)) :
    sop S c dr fr ⟨dst, none, now, .c, as, [], []⟩ st = (callS S c dst dr (!dr || now) (oldArgs st.m fr) f args st).bind fun r => some (putO r.2 dst r.1) := by
  unfold sop doS
  unfold calleeS at hc
  split at hc
  · simp only [Option.some.injEq, Prod.mk.injEq] at hc; obtain ⟨rfl, rfl⟩ := hc
    simp only [wanted, yieldArgs, hs]
    cases callS S c dst dr _ _ _ _ st <;> simp
  · simp only [Option.some.injEq, Prod.mk.injEq] at hc; obtain ⟨rfl, rfl⟩ := hc
    simp only [wanted, yieldArgs, hs]
    cases callS S c dst dr _ _ _ _ st <;> simp
  · simp at hc
theorem callS_iso (dst : Option Nat) (dr now : Bool) (old : List SV → Bool) (f : FuncId) (args : List SV) (st : St) (as : List V) (hk : S.E.keep f = false) (hs : shutL st.m 8 args = some as) (hl : V.lvlL 8 as = true) (ho : now = true ∨ old args = true) :
    callS S c dst dr now old f args st = (c f (as.map .v) []).bind fun r => (shutL r.2 8 r.1).bind fun ys => if V.lvl 8 (result ys) && ((result ys).scalar || (!dr && (allV args).isSome)) then some (.v (result ys), st) else none := by
  unfold callS
  have : (now || old args) = true := by rcases ho with h | h <;> simp [h]
  simp only [hk, Bool.false_eq_true, if_false, hs, hl, this, Bool.and_self, if_true]
  cases c f (as.map .v) [] with
  | none => rfl
  | some r =>
    obtain ⟨rs, m'⟩ := r
    simp only [Option.bind_some]
    cases shutL m' 8 rs <;> rfl
theorem sexec_ops (l : List RO) (st : St) : sexec S c (.ops l) st = (sops S c false [] l st).bind fun st => some (.norm, st) := by
  simp only [sexec]; cases sops S c false [] l st <;> rfl
noncomputable def opsF {β : Type} (S : Sys) (c : CallS) (fr : List Nat) (l : List RO) (k : St → Option β) : St → Option β := fun st => (sops S c false fr l st).bind k
noncomputable def regF {β : Type} (S : Sys) (c : CallS) (fr : List Nat) (l : List RO) (k : St → Option β) : St → Option β := fun st => (sops S c true fr l st).bind k
noncomputable def opsD {β : Type} (S : Sys) (c : CallS) (fr dd : List Nat) (l : List RO) (k : St → Option β) : St → Option β := fun st => opsF S c fr l k (dropD dd st)
noncomputable def regD {β : Type} (S : Sys) (c : CallS) (fr dd : List Nat) (l : List RO) (k : St → Option β) : St → Option β := fun st => regF S c fr l k (dropD dd st)
theorem opsD_eq {β : Type} (fr dd : List Nat) (l : List RO) (k : St → Option β) (g : Tb SV) (m : Tb SOb) (p : List Nat) (w : List (List V)) (mo : Bool) (y : Nat) : opsD S c fr dd l k ⟨g, m, p, w, mo, y⟩ = opsF S c fr l k ⟨tdels dd g, m, p, w, mo, y⟩ := rfl
theorem regD_eq {β : Type} (fr dd : List Nat) (l : List RO) (k : St → Option β) (g : Tb SV) (m : Tb SOb) (p : List Nat) (w : List (List V)) (mo : Bool) (y : Nat) : regD S c fr dd l k ⟨g, m, p, w, mo, y⟩ = regF S c fr l k ⟨tdels dd g, m, p, w, mo, y⟩ := rfl
@[congr] theorem opsF_congr {β : Type} {fr : List Nat} {l : List RO} {k : St → Option β} {st st' : St} (h : st = st') : opsF S c fr l k st = opsF S c fr l k st' := by rw [h]
@[congr] theorem regF_congr {β : Type} {fr fr' : List Nat} {l : List RO} {k : St → Option β} {st st' : St} (hf : fr = fr') (h : st = st') : regF S c fr l k st = regF S c fr' l k st' := by rw [h, hf]
@[congr] theorem opsD_congr {β : Type} {fr dd : List Nat} {l : List RO} {k : St → Option β} {st st' : St} (h : st = st') : opsD S c fr dd l k st = opsD S c fr dd l k st' := by rw [h]
@[congr] theorem regD_congr {β : Type} {fr fr' dd : List Nat} {l : List RO} {k : St → Option β} {st st' : St} (hf : fr = fr') (h : st = st') : regD S c fr dd l k st = regD S c fr' dd l k st' := by rw [h, hf]
@[congr] theorem sop_congr {dr : Bool} {fr : List Nat} {o : RO} {st st' : St} (h : st = st') : sop S c dr fr o st = sop S c dr fr o st' := by rw [h]
theorem opsF_nil {β : Type} (fr : List Nat) (k : St → Option β) (st : St) : opsF S c fr [] k st = k st := rfl
theorem opsF_cons {β : Type} (fr : List Nat) (d : Option Nat) (g : Option (Nat × Bool)) (n : Bool) (k0 : K) (as : List Arg) (dd : List Nat) (l : List RO) (k : St → Option β) (st : St) : opsF S c fr (⟨d, g, n, k0, as, dd, []⟩ :: l) k st = (sop S c false fr ⟨d, g, n, k0, as, [], []⟩ st).bind (fun st' => opsD S c fr dd l k st') := by
  unfold opsD opsF; simp only [sops, RO.strip, preG, ghosts, Option.bind_some, Bool.false_eq_true, if_false]; cases sop S c false fr ⟨d, g, n, k0, as, [], []⟩ st <;> rfl
theorem opsF_pre {β : Type} (fr : List Nat) (d : Option Nat) (g : Option (Nat × Bool)) (n : Bool) (k0 : K) (as : List Arg) (dd : List Nat) (x : Gh) (xs : List Gh) (l : List RO) (k : St → Option β) (st : St) : opsF S c fr (⟨d, g, n, k0, as, dd, x :: xs⟩ :: l) k st = (ghost x st).bind (fun st' => opsF S c fr (⟨d, g, n, k0, as, dd, xs⟩ :: l) k st') := by
  unfold opsF; simp only [sops, RO.strip, preG, ghosts, Bool.false_eq_true, if_false]; cases ghost x st <;> rfl
theorem regF_nil {β : Type} (fr : List Nat) (k : St → Option β) (st : St) : regF S c fr [] k st = k st := rfl
theorem regF_cons {β : Type} (fr : List Nat) (d : Option Nat) (g : Option (Nat × Bool)) (n : Bool) (k0 : K) (as : List Arg) (dd : List Nat) (l : List RO) (k : St → Option β) (st : St) : regF S c fr (⟨d, g, n, k0, as, dd, []⟩ :: l) k st = (sop S c true fr ⟨d, g, n, k0, as, [], []⟩ st).bind (fun st' => regD S c (freshS fr ⟨d, g, n, k0, as, [], []⟩) dd l k st') := by
  unfold regD regF; simp only [sops, RO.strip, preG, List.isEmpty_nil, if_true, Option.bind_some]; cases sop S c true fr ⟨d, g, n, k0, as, [], []⟩ st <;> rfl
def normK (st : St) : Option (Out × St) := some (.norm, st)
theorem sexec_opsF (l : List RO) (st : St) : sexec S c (.ops l) st = opsF S c [] l normK st := by
  simp only [sexec, opsF]; cases sops S c false [] l st <;> rfl
theorem sexec_regF (l : List RO) (st : St) : sexec S c (.reg l) st = regF S c [] l normK st := by
  simp only [sexec, regF]; cases sops S c true [] l st <;> rfl
theorem pv_id (N : Nat → FuncId) (x : V) : peval N .id [x] = some x := rfl
end
section
variable {S : Sys} {c : CallS} (dr : Bool) (fr : List Nat) (dst : Option Nat) (now : Bool) (as : List Arg) (st : St)
theorem sp_id  : sop S c dr fr ⟨dst, none, now, .p (.id), as, [], []⟩ st = (sargs S.N st.g as).bind fun svs => (pureS S.N st.m (.id) svs).bind fun x => some (putO st dst x) := sop_p _ _ _ _ _ _ _ rfl
theorem sp_pick  : sop S c dr fr ⟨dst, none, now, .p (.pick), as, [], []⟩ st = (sargs S.N st.g as).bind fun svs => (pureS S.N st.m (.pick) svs).bind fun x => some (putO st dst x) := sop_p _ _ _ _ _ _ _ rfl
theorem sp_nilc  : sop S c dr fr ⟨dst, none, now, .p (.nilc), as, [], []⟩ st = (sargs S.N st.g as).bind fun svs => (pureS S.N st.m (.nilc) svs).bind fun x => some (putO st dst x) := sop_p _ _ _ _ _ _ _ rfl
theorem sp_bin (k : Option KT) (e : Option Nat) (op : BinOp) : sop S c dr fr ⟨dst, none, now, .p (.bin k e op), as, [], []⟩ st = (sargs S.N st.g as).bind fun svs => (pureS S.N st.m (.bin k e op) svs).bind fun x => some (putO st dst x) := sop_p _ _ _ _ _ _ _ rfl
theorem sp_not  : sop S c dr fr ⟨dst, none, now, .p (.not), as, [], []⟩ st = (sargs S.N st.g as).bind fun svs => (pureS S.N st.m (.not) svs).bind fun x => some (putO st dst x) := sop_p _ _ _ _ _ _ _ rfl
theorem sp_neg  : sop S c dr fr ⟨dst, none, now, .p (.neg), as, [], []⟩ st = (sargs S.N st.g as).bind fun svs => (pureS S.N st.m (.neg) svs).bind fun x => some (putO st dst x) := sop_p _ _ _ _ _ _ _ rfl
theorem sp_conv (k : IntKind) : sop S c dr fr ⟨dst, none, now, .p (.conv k), as, [], []⟩ st = (sargs S.N st.g as).bind fun svs => (pureS S.N st.m (.conv k) svs).bind fun x => some (putO st dst x) := sop_p _ _ _ _ _ _ _ rfl
theorem sp_fieldAddr (o : Nat) : sop S c dr fr ⟨dst, none, now, .p (.fieldAddr o), as, [], []⟩ st = (sargs S.N st.g as).bind fun svs => (pureS S.N st.m (.fieldAddr o) svs).bind fun x => some (putO st dst x) := sop_p _ _ _ _ _ _ _ rfl
theorem sp_field (o s : Nat) (a : Bool) : sop S c dr fr ⟨dst, none, now, .p (.field o s a), as, [], []⟩ st = (sargs S.N st.g as).bind fun svs => (pureS S.N st.m (.field o s a) svs).bind fun x => some (putO st dst x) := sop_p _ _ _ _ _ _ _ rfl
theorem sp_idxS (s : Nat) : sop S c dr fr ⟨dst, none, now, .p (.idxS s), as, [], []⟩ st = (sargs S.N st.g as).bind fun svs => (pureS S.N st.m (.idxS s) svs).bind fun x => some (putO st dst x) := sop_p _ _ _ _ _ _ _ rfl
theorem sp_idxA (l s : Nat) : sop S c dr fr ⟨dst, none, now, .p (.idxA l s), as, [], []⟩ st = (sargs S.N st.g as).bind fun svs => (pureS S.N st.m (.idxA l s) svs).bind fun x => some (putO st dst x) := sop_p _ _ _ _ _ _ _ rfl
theorem sp_idxStr  : sop S c dr fr ⟨dst, none, now, .p (.idxStr), as, [], []⟩ st = (sargs S.N st.g as).bind fun svs => (pureS S.N st.m (.idxStr) svs).bind fun x => some (putO st dst x) := sop_p _ _ _ _ _ _ _ rfl
theorem sp_idxArr (l s : Nat) (a : Bool) : sop S c dr fr ⟨dst, none, now, .p (.idxArr l s a), as, [], []⟩ st = (sargs S.N st.g as).bind fun svs => (pureS S.N st.m (.idxArr l s a) svs).bind fun x => some (putO st dst x) := sop_p _ _ _ _ _ _ _ rfl
theorem sp_sliceStr (l h : Bool) : sop S c dr fr ⟨dst, none, now, .p (.sliceStr l h), as, [], []⟩ st = (sargs S.N st.g as).bind fun svs => (pureS S.N st.m (.sliceStr l h) svs).bind fun x => some (putO st dst x) := sop_p _ _ _ _ _ _ _ rfl
theorem sp_slice00  : sop S c dr fr ⟨dst, none, now, .p (.slice00), as, [], []⟩ st = (sargs S.N st.g as).bind fun svs => (pureS S.N st.m (.slice00) svs).bind fun x => some (putO st dst x) := sop_p _ _ _ _ _ _ _ rfl
theorem sp_build (z : List V) (pl : List (Nat × Nat)) : sop S c dr fr ⟨dst, none, now, .p (.build z pl), as, [], []⟩ st = (sargs S.N st.g as).bind fun svs => (pureS S.N st.m (.build z pl) svs).bind fun x => some (putO st dst x) := sop_p _ _ _ _ _ _ _ rfl
theorem sp_clo (n : Nat) (k : Nat) : sop S c dr fr ⟨dst, none, now, .p (.clo n k), as, [], []⟩ st = (sargs S.N st.g as).bind fun svs => (pureS S.N st.m (.clo n k) svs).bind fun x => some (putO st dst x) := sop_p _ _ _ _ _ _ _ rfl
theorem sp_ext (i : Nat) : sop S c dr fr ⟨dst, none, now, .p (.ext i), as, [], []⟩ st = (sargs S.N st.g as).bind fun svs => (pureS S.N st.m (.ext i) svs).bind fun x => some (putO st dst x) := sop_p _ _ _ _ _ _ _ rfl
theorem sp_lenStr  : sop S c dr fr ⟨dst, none, now, .p (.lenStr), as, [], []⟩ st = (sargs S.N st.g as).bind fun svs => (pureS S.N st.m (.lenStr) svs).bind fun x => some (putO st dst x) := sop_p _ _ _ _ _ _ _ rfl
theorem sp_lenSl  : sop S c dr fr ⟨dst, none, now, .p (.lenSl), as, [], []⟩ st = (sargs S.N st.g as).bind fun svs => (pureS S.N st.m (.lenSl) svs).bind fun x => some (putO st dst x) := sop_p _ _ _ _ _ _ _ rfl
theorem sp_max  : sop S c dr fr ⟨dst, none, now, .p (.max), as, [], []⟩ st = (sargs S.N st.g as).bind fun svs => (pureS S.N st.m (.max) svs).bind fun x => some (putO st dst x) := sop_p _ _ _ _ _ _ _ rfl
theorem sp_min  : sop S c dr fr ⟨dst, none, now, .p (.min), as, [], []⟩ st = (sargs S.N st.g as).bind fun svs => (pureS S.N st.m (.min) svs).bind fun x => some (putO st dst x) := sop_p _ _ _ _ _ _ _ rfl
end
end Go.VE
namespace Go.VE
inductive Fm where
  | seq (b : RC)
  | blk (id : Nat)
  | gst (x : Gh)
section
variable (S : Sys) (c : CallS) {β : Type} (Q : Out × St → Option β)
noncomputable def runK : List Fm → Out × St → Option β
  | [], r => Q r
  | .seq b :: fs, (.norm, st) => (sexec S c b st).bind (runK fs)
  | .seq _ :: fs, r => runK fs r
  | .blk id :: fs, (.exit k, st) => if k = id then runK fs (.norm, st) else runK fs (.exit k, st)
  | .blk _ :: fs, r => runK fs r
  | .gst x :: fs, (.norm, st) => (ghost x st).bind fun st => runK fs (.norm, st)
  | .gst _ :: fs, r => runK fs r
noncomputable def go (rc : RC) (fs : List Fm) (st : St) : Option β := (sexec S c rc st).bind (runK S c Q fs)
noncomputable def nextK (fs : List Fm) : St → Option β := fun st => runK S c Q fs (.norm, st)
def cif {α : Type} (t : Bool) (a b : α) : α := if t then a else b
end
@[congr] theorem cif_congr {α : Type} {t t' : Bool} {a b a' b' : α} (h : t = t') (ha : t' = true → a = a') (hb : t' = false → b = b') : cif t a b = cif t' a' b' := by
  subst h; cases t
  · exact hb rfl
  · exact ha rfl
theorem cif_true {α : Type} (a b : α) : cif true a b = a := rfl
theorem cif_false {α : Type} (a b : α) : cif false a b = b := rfl
theorem cif_bind {α β : Type} (t : Bool) (a b : Option α) (k : α → Option β) : (cif t a b).bind k = cif t (a.bind k) (b.bind k) := by cases t <;> rfl
theorem cif_map {α β : Type} (t : Bool) (a b : Option α) (k : α → β) : (cif t a b).map k = cif t (a.map k) (b.map k) := by cases t <;> rfl
section
variable {S : Sys} {c : CallS} {β : Type} {Q : Out × St → Option β}
@[congr] theorem go_congr {a : RC} {fs : List Fm} {st st' : St} (h : st = st') : go S c Q a fs st = go S c Q a fs st' := by rw [h]
@[congr] theorem nextK_congr {fs : List Fm} {st st' : St} (h : st = st') : nextK S c Q fs st = nextK S c Q fs st' := by rw [h]
@[congr] theorem runK_congr {fs : List Fm} {r r' : Out × St} (h : r = r') : runK S c Q fs r = runK S c Q fs r' := by rw [h]
theorem go_seq (a b : RC) (fs : List Fm) (st : St) : go S c Q (.seq a b) fs st = go S c Q a (.seq b :: fs) st := by
  simp only [go, sexec]
  cases h : sexec S c a st with
  | none => rfl
  | some r =>
    obtain ⟨o, st'⟩ := r
    cases o <;> simp only [Option.bind_some, runK]
theorem go_block (id : Nat) (a : RC) (fs : List Fm) (st : St) : go S c Q (.block id a) fs st = go S c Q a (.blk id :: fs) st := by
  simp only [go, sexec]
  cases h : sexec S c a st with
  | none => rfl
  | some r =>
    obtain ⟨o, st'⟩ := r
    cases o with
    | exit k =>
      simp only [Option.bind_some, runK]
      split <;> rfl
    | _ => simp only [Option.bind_some, runK]
theorem go_hg (a : RC) (x : Gh) (fs : List Fm) (st : St) : go S c Q (.hg a x) fs st = go S c Q a (.gst x :: fs) st := by
  simp only [go, sexec]
  cases h : sexec S c a st with
  | none => rfl
  | some r =>
    obtain ⟨o, st'⟩ := r
    cases o with
    | norm =>
      simp only [Option.bind_some, runK]
      cases ghost x st' <;> rfl
    | _ => simp only [Option.bind_some, runK]
theorem go_gh (x : Gh) (a : RC) (fs : List Fm) (st : St) : go S c Q (.gh x a) fs st = (ghost x st).bind (fun st' => go S c Q a fs st') := by
  simp only [go, sexec]
  cases ghost x st <;> rfl
theorem go_cond (x : Arg) (a b : RC) (fs : List Fm) (st : St) (t : Bool) (h : sarg S.N st.g x = some (.v (.bool t))) : go S c Q (.cond x a b) fs st = cif t (go S c Q a fs st) (go S c Q b fs st) := by
  simp only [go, sexec, h]
  cases t <;> rfl
theorem go_ops (l : List RO) (fs : List Fm) (st : St) : go S c Q (.ops l) fs st = opsF S c [] l (nextK S c Q fs) st := by
  simp only [go, sexec, opsF]
  cases sops S c false [] l st <;> rfl
theorem go_reg (l : List RO) (fs : List Fm) (st : St) : go S c Q (.reg l) fs st = regF S c [] l (nextK S c Q fs) st := by
  simp only [go, sexec, regF]
  cases sops S c true [] l st <;> rfl
theorem go_skip (fs : List Fm) (st : St) : go S c Q .skip fs st = nextK S c Q fs st := rfl
theorem go_exit (id : Nat) (fs : List Fm) (st : St) : go S c Q (.exit id) fs st = runK S c Q fs (.exit id, st) := rfl
theorem go_ret (fs : List Fm) (st : St) : go S c Q .ret fs st = runK S c Q fs (.ret, st) := rfl
theorem go_loop (a : RC) (fs : List Fm) (st : St) : go S c Q (.loop a) fs st = (loopS (sexec S c a) st).bind (runK S c Q fs) := rfl
theorem nextK_nil (st : St) : nextK S c Q [] st = Q (.norm, st) := rfl
theorem nextK_seq (b : RC) (fs : List Fm) (st : St) : nextK S c Q (.seq b :: fs) st = go S c Q b fs st := rfl
theorem nextK_blk (id : Nat) (fs : List Fm) (st : St) : nextK S c Q (.blk id :: fs) st = nextK S c Q fs st := rfl
theorem nextK_gst (x : Gh) (fs : List Fm) (st : St) : nextK S c Q (.gst x :: fs) st = (ghost x st).bind (fun st' => nextK S c Q fs st') := rfl
theorem runK_nil (r : Out × St) : runK S c Q [] r = Q r := rfl
theorem runK_norm (fs : List Fm) (st : St) : runK S c Q fs (.norm, st) = nextK S c Q fs st := rfl
theorem runK_ret_seq (b : RC) (fs : List Fm) (st : St) : runK S c Q (.seq b :: fs) (.ret, st) = runK S c Q fs (.ret, st) := rfl
theorem runK_ret_blk (id : Nat) (fs : List Fm) (st : St) : runK S c Q (.blk id :: fs) (.ret, st) = runK S c Q fs (.ret, st) := rfl
theorem runK_ret_gst (x : Gh) (fs : List Fm) (st : St) : runK S c Q (.gst x :: fs) (.ret, st) = runK S c Q fs (.ret, st) := rfl
theorem runK_exit_seq (b : RC) (id : Nat) (fs : List Fm) (st : St) : runK S c Q (.seq b :: fs) (.exit id, st) = runK S c Q fs (.exit id, st) := rfl
theorem runK_exit_gst (x : Gh) (id : Nat) (fs : List Fm) (st : St) : runK S c Q (.gst x :: fs) (.exit id, st) = runK S c Q fs (.exit id, st) := rfl
theorem runK_exit_blk (id k : Nat) (fs : List Fm) (st : St) : runK S c Q (.blk id :: fs) (.exit k, st) = if k = id then nextK S c Q fs st else runK S c Q fs (.exit k, st) := rfl
theorem sexec_go (rc : RC) (st : St) : (sexec S c rc st).bind Q = go S c Q rc [] st := by
  simp only [go]; cases sexec S c rc st <;> rfl
theorem sexec_goS (rc : RC) (st : St) : sexec S c rc st = go S c some rc [] st := by
  simp only [go]; cases sexec S c rc st <;> rfl
theorem sop_guard (dr : Bool) (fr : List Nat) (dst : Option Nat) (s : Nat) (b now : Bool) (k : K) (as : List Arg) (st : St) (t : Bool) (h : tget st.g s = some (.v (.bool t))) :
    sop S c dr fr ⟨dst, some (s, b), now, k, as, [], []⟩ st = cif (t == b) (sop S c dr fr ⟨dst, none, now, k, as, [], []⟩ st) (some (putO st dst (.v .undef))) := by
  unfold sop
  simp only [wanted, h]
  have hy : yieldArgs S.N st.g ⟨dst, some (s, b), now, k, as, [], []⟩ = yieldArgs S.N st.g ⟨dst, none, now, k, as, [], []⟩ := rfl
  have hd : doS S c dr fr ⟨dst, some (s, b), now, k, as, [], []⟩ st = doS S c dr fr ⟨dst, none, now, k, as, [], []⟩ st := rfl
  rw [hy, hd]
  cases h2 : (t == b) <;> rfl
theorem sop_guard_u (dr : Bool) (fr : List Nat) (dst : Option Nat) (s : Nat) (b now : Bool) (k : K) (as : List Arg) (st : St) (h : tget st.g s = some (.v .undef)) :
    sop S c dr fr ⟨dst, some (s, b), now, k, as, [], []⟩ st = some (putO st dst (.v .undef)) := by
  unfold sop
  simp only [wanted, h, V.undef]
inductive Fw (ν ε ρ : Type) where
  | n (a : ν)
  | x (e : ε)
  | r (b : ρ)
def wloopK {σ ε ρ : Type} (step : σ → Option (Fw σ ε ρ)) : Nat → σ → Option (Fw Empty ε ρ)
  | 0, _ => none
  | k + 1, s => match step s with
    | some (.n s') => wloopK step k s'
    | some (.x e) => some (.x e)
    | some (.r b) => some (.r b)
    | none => none
theorem wloopK_mono {σ ε ρ : Type} {step : σ → Option (Fw σ ε ρ)} : ∀ {k k' : Nat} {s : σ} {r : Fw Empty ε ρ}, k ≤ k' → wloopK step k s = some r → wloopK step k' s = some r
  | 0, _, _, _, _, h => by simp [wloopK] at h
  | k + 1, 0, _, _, hk, _ => by omega
  | k + 1, k' + 1, s, r, hk, h => by
    simp only [wloopK] at h ⊢
    split at h
    · exact wloopK_mono (Nat.le_of_succ_le_succ hk) h
    · exact h
    · exact h
    · simp at h
open Classical in
noncomputable def wloop {σ ε ρ : Type} (step : σ → Option (Fw σ ε ρ)) (s : σ) : Option (Fw Empty ε ρ) :=
  if h : ∃ k r, wloopK step k s = some r then some (Classical.choose (Classical.choose_spec h)) else none
theorem wloop_iff {σ ε ρ : Type} {step : σ → Option (Fw σ ε ρ)} {s : σ} {r : Fw Empty ε ρ} : wloop step s = some r ↔ ∃ k, wloopK step k s = some r := by
  unfold wloop
  constructor
  · intro h
    split at h
    · rename_i hx
      simp only [Option.some.injEq] at h
      exact ⟨_, by rw [← h]; exact Classical.choose_spec (Classical.choose_spec hx)⟩
    · simp at h
  · rintro ⟨k, hk⟩
    have hx : ∃ k r, wloopK step k s = some r := ⟨k, r, hk⟩
    rw [dif_pos hx]
    have h2 := Classical.choose_spec (Classical.choose_spec hx)
    have h3 := wloopK_mono (Nat.le_max_left (Classical.choose hx) k) h2
    have h4 := wloopK_mono (Nat.le_max_right (Classical.choose hx) k) hk
    rw [h3] at h4; exact h4
def Fw.out {ν ε ρ : Type} (eν : ν → St) (eε : ε → Nat × St) (eρ : ρ → St) : Fw ν ε ρ → Out × St
  | .n a => (.norm, eν a)
  | .x e => (.exit (eε e).1, (eε e).2)
  | .r b => (.ret, eρ b)
theorem loopS_wloop {σ ε ρ : Type} {f : St → Option (Out × St)} {step : σ → Option (Fw σ ε ρ)} {eσ : σ → St} {eε : ε → Nat × St} {eρ : ρ → St} (h : ∀ s, f (eσ s) = (step s).map (Fw.out eσ eε eρ)) (s : σ) :
    loopS f (eσ s) = (wloop step s).map (Fw.out (fun e => Empty.elim e) eε eρ) := by
  have key : ∀ k s, loopK f k (eσ s) = (wloopK step k s).map (Fw.out (fun e => Empty.elim e) eε eρ) := by
    intro k
    induction k with
    | zero => intro s; rfl
    | succ k ih =>
      intro s
      simp only [loopK, wloopK, h]
      cases step s with
      | none => rfl
      | some r =>
        cases r with
        | n a => simp only [Option.map_some, Fw.out]; exact ih a
        | x e => rfl
        | r b => rfl
  cases hw : wloop step s with
  | some r =>
    obtain ⟨k, hk⟩ := wloop_iff.1 hw
    refine loopS_iff.2 ⟨k, ?_⟩
    rw [key, hk]; rfl
  | none =>
    cases hl : loopS f (eσ s) with
    | none => rfl
    | some r =>
      obtain ⟨k, hk⟩ := loopS_iff.1 hl
      rw [key] at hk
      obtain ⟨q, hq, _⟩ := Option.map_eq_some_iff.1 hk
      rw [wloop_iff.2 ⟨k, hq⟩] at hw; cases hw
def Fw.elim {ε ρ γ : Type} (fx : ε → γ) (fr : ρ → γ) : Fw Empty ε ρ → γ
  | .x e => fx e
  | .r b => fr b
theorem Fw.elim_x {ε ρ γ : Type} (fx : ε → γ) (fr : ρ → γ) (e : ε) : Fw.elim fx fr (.x e) = fx e := rfl
theorem Fw.elim_r {ε ρ γ : Type} (fx : ε → γ) (fr : ρ → γ) (e : ρ) : Fw.elim fx fr (.r e) = fr e := rfl
theorem Fw.elim_bind {ε ρ γ δ : Type} (fx : ε → Option γ) (fr : ρ → Option γ) (w : Fw Empty ε ρ) (k : γ → Option δ) : (Fw.elim fx fr w).bind k = Fw.elim (fun e => (fx e).bind k) (fun e => (fr e).bind k) w := by
  cases w <;> first | rfl | (rename_i a; cases a)
theorem go_loop_w {σ ε ρ β : Type} {Q : Out × St → Option β} {a : RC} {step : σ → Option (Fw σ ε ρ)} {eσ : σ → St} {eε : ε → Nat × St} {eρ : ρ → St} (h : ∀ s, sexec S c a (eσ s) = (step s).bind fun w => some (Fw.out eσ eε eρ w)) (fs : List Fm) (s : σ) :
    go S c Q (.loop a) fs (eσ s) = (wloop step s).bind (Fw.elim (fun e => runK S c Q fs (.exit (eε e).1, (eε e).2)) (fun b => runK S c Q fs (.ret, eρ b))) := by
  rw [go_loop, loopS_wloop (step := step) (eσ := eσ) (eε := eε) (eρ := eρ) (fun s => by rw [h]; cases step s <;> rfl)]
  cases wloop step s with
  | none => rfl
  | some w => cases w <;> first | rfl | (rename_i a; cases a)
end
end Go.VE
namespace Go.VE
class Lv (n : Nat) (α : Type) [Enc α] : Prop where
  lv : ∀ a : α, V.lvlL n (cells a) = true
instance {n : Nat} : Lv n Int := ⟨fun _ => by cases n <;> rfl⟩
instance {n : Nat} : Lv n Bool := ⟨fun _ => by cases n <;> rfl⟩
instance {n : Nat} : Lv n ByteArray := ⟨fun _ => by cases n <;> rfl⟩
instance {n : Nat} : Lv n EventId := ⟨fun _ => by cases n <;> rfl⟩
section
variable {α : Type} [Enc α]
theorem slEnc_one (s : Sl α) : V.one (slEnc s) = true := by cases s <;> rfl
theorem slEnc_cells (s : Sl α) : V.cells (slEnc s) = [slEnc s] := by cases s <;> rfl
theorem rows_good (l : List α) : V.goodLL (rows l) = true := by
  induction l with
  | nil => rfl
  | cons a l ih => simp only [rows, List.map_cons, V.goodLL, Bool.and_eq_true]; exact ⟨Enc.good a, ih⟩
theorem slEnc_good (s : Sl α) : V.good (slEnc s) = true := by
  cases s <;> simp only [slEnc, Sl.k, slV, V.good] <;> exact rows_good _
theorem rows_lvl {n : Nat} [Lv n α] (l : List α) : V.lvlLL n (rows l) = true := by
  induction l with
  | nil => cases n <;> rfl
  | cons a l ih => simp only [rows, List.map_cons, V.lvlLL, Bool.and_eq_true]; exact ⟨Lv.lv a, ih⟩
theorem lvl_slEnc {n : Nat} [Lv n α] (s : Sl α) : V.lvl (n + 1) (slEnc s) = true := by
  cases s <;> simp only [slEnc, Sl.k, slV, V.lvl] <;> exact rows_lvl _
instance : Enc (Sl α) where
  cells s := [slEnc s]
  agg := false
  size := 1
  len _ := rfl
  good s := by simp only [V.goodL, slEnc_good, Bool.and_self]
  one s := by simp [slEnc_one]
  plain _ := rfl
instance {n : Nat} [Lv n α] : Lv (n + 1) (Sl α) := ⟨fun s => by
  show V.lvlL (n + 1) [slEnc s] = true
  simp only [V.lvlL, lvl_slEnc, Bool.and_self]⟩
theorem cells_sl (s : Sl α) : cells s = [slEnc s] := rfl
end
theorem lvl_agg (n : Nat) (cs : List V) : V.lvl (n + 1) (.agg cs) = V.lvlL n cs := rfl
theorem lvl_tup (n : Nat) (cs : List V) : V.lvl (n + 1) (.tup cs) = V.lvlL n cs := rfl
theorem lvl_fptr (n : Nat) (cs : List V) : V.lvl (n + 1) (.fptr cs) = V.lvlL n cs := rfl
theorem lvl_clo (n : Nat) (f : FuncId) (a b : List V) : V.lvl (n + 1) (.clo f a b) = (V.lvlL n a && V.lvlL n b) := rfl
theorem lvl_int (n : Nat) (k : IntKind) (x : Int) : V.lvl n (.int k x) = true := by cases n <;> rfl
theorem lvl_bool (n : Nat) (x : Bool) : V.lvl n (.bool x) = true := by cases n <;> rfl
theorem lvl_str (n : Nat) (x : ByteArray) : V.lvl n (.str x) = true := by cases n <;> rfl
theorem lvl_nsl (n : Nat) : V.lvl n .nsl = true := by cases n <;> rfl
theorem lvl_esl (n : Nat) : V.lvl n .esl = true := by cases n <;> rfl
theorem lvl_nptr (n : Nat) : V.lvl n .nptr = true := by cases n <;> rfl
theorem lvlL_nil (n : Nat) : V.lvlL n [] = true := by cases n <;> rfl
theorem lvlL_cons (n : Nat) (x : V) (r : List V) : V.lvlL n (x :: r) = (V.lvl n x && V.lvlL n r) := by cases n <;> rfl
section
variable {S : Sys} {c : CallS}
def guardS (x : Option SV) (b : Bool) (y z : Option St) : Option St :=
  match x with
  | some (.v (.bool t)) => cif (t == b) y z
  | some (.v _) => z
  | _ => none
theorem sop_g (dr : Bool) (fr : List Nat) (dst : Option Nat) (s : Nat) (b now : Bool) (k : K) (as : List Arg) (st : St) :
    sop S c dr fr ⟨dst, some (s, b), now, k, as, [], []⟩ st = guardS (tget st.g s) b (sop S c dr fr ⟨dst, none, now, k, as, [], []⟩ st) (some (putO st dst (.v .undef))) := by
  have hy : yieldArgs S.N st.g ⟨dst, some (s, b), now, k, as, [], []⟩ = yieldArgs S.N st.g ⟨dst, none, now, k, as, [], []⟩ := rfl
  have hd : doS S c dr fr ⟨dst, some (s, b), now, k, as, [], []⟩ st = doS S c dr fr ⟨dst, none, now, k, as, [], []⟩ st := rfl
  cases h : tget st.g s with
  | none => unfold sop; simp only [wanted, h]; rfl
  | some x =>
    cases x with
    | v y =>
      cases y with
      | bool t =>
        simp only [guardS]
        unfold sop
        simp only [wanted, h, hy, hd]
        cases h2 : (t == b) <;> rfl
      | _ => unfold sop; simp only [wanted, h]; rfl
    | _ => unfold sop; simp only [wanted, h]; rfl
@[congr] theorem guardS_congr {x x' : Option SV} {b : Bool} {y z : Option St} (h : x = x') : guardS x b y z = guardS x' b y z := by rw [h]
theorem guardS_bool (t b : Bool) (y z : Option St) : guardS (some (.v (.bool t))) b y z = cif (t == b) y z := rfl
theorem guardS_undef (b : Bool) (y z : Option St) : guardS (some (.v .undef)) b y z = z := rfl
def condS {β : Type} (x : Option SV) (y z : Option β) : Option β :=
  match x with
  | some (.v (.bool t)) => cif t y z
  | _ => none
theorem go_condS {β : Type} {Q : Out × St → Option β} (x : Arg) (a b : RC) (fs : List Fm) (st : St) : go S c Q (.cond x a b) fs st = condS (sarg S.N st.g x) (go S c Q a fs st) (go S c Q b fs st) := by
  simp only [go, sexec]
  unfold condS
  split
  · rename_i t h
    simp only [h]
    cases t <;> rfl
  · rename_i h
    split
    · rename_i t h2; exact absurd h2 (h t)
    · rfl
@[congr] theorem condS_congr {β : Type} {x x' : Option SV} {y z : Option β} (h : x = x') : condS x y z = condS x' y z := by rw [h]
theorem condS_bool {β : Type} (t : Bool) (y z : Option β) : condS (some (.v (.bool t))) y z = cif t y z := rfl
def callC (c : CallS) (f : FuncId) (as : List V) : Option (List V) := (c f (as.map .v) []).bind fun r => shutL r.2 8 r.1
def isoRes (dr : Bool) (ok : Bool) (st : St) (ys : List V) : Option (SV × St) :=
  if V.lvl 8 (result ys) && ((result ys).scalar || (!dr && ok)) then some (.v (result ys), st) else none
noncomputable def sopC (S : Sys) (c : CallS) (dr : Bool) (fr : List Nat) (dst : Option Nat) (now : Bool) (as : List Arg) (st : St) (svs : List SV) : Option St :=
  match svs with
  | .clo f a b :: vs => (callS S c dst dr (!dr || now) (oldArgs st.m fr) f (a ++ vs ++ b) st).bind fun r => some (putO r.2 dst r.1)
  | .v (.clo f a b) :: vs => (callS S c dst dr (!dr || now) (oldArgs st.m fr) f (a.map .v ++ vs ++ b.map .v) st).bind fun r => some (putO r.2 dst r.1)
  | _ => sop S c dr fr ⟨dst, none, now, .c, as, [], []⟩ st
theorem sop_call (dr : Bool) (fr : List Nat) (dst : Option Nat) (now : Bool) (as : List Arg) (st : St) :
    sop S c dr fr ⟨dst, none, now, .c, as, [], []⟩ st = (sargs S.N st.g as).bind (sopC S c dr fr dst now as st) := by
  cases hs : sargs S.N st.g as with
  | none => unfold sop; simp only [wanted, yieldArgs, hs]; unfold doS; simp only [hs]; rfl
  | some svs =>
    simp only [Option.bind_some]
    unfold sopC
    split
    · unfold sop doS
      simp only [wanted, yieldArgs, hs]
      generalize callS S c dst dr _ _ _ _ st = x
      cases x <;> rfl
    · unfold sop doS
      simp only [wanted, yieldArgs, hs]
      generalize callS S c dst dr _ _ _ _ st = x
      cases x <;> rfl
    · rfl
theorem sopC_clo (dr : Bool) (fr : List Nat) (dst : Option Nat) (now : Bool) (as : List Arg) (st : St) (f : FuncId) (a b vs : List SV) :
    sopC S c dr fr dst now as st (.clo f a b :: vs) = (callS S c dst dr (!dr || now) (oldArgs st.m fr) f (a ++ vs ++ b) st).bind fun r => some (putO r.2 dst r.1) := rfl
theorem sopC_v (dr : Bool) (fr : List Nat) (dst : Option Nat) (now : Bool) (as : List Arg) (st : St) (f : FuncId) (a b : List V) (vs : List SV) :
    sopC S c dr fr dst now as st (.v (.clo f a b) :: vs) = (callS S c dst dr (!dr || now) (oldArgs st.m fr) f (a.map .v ++ vs ++ b.map .v) st).bind fun r => some (putO r.2 dst r.1) := rfl
theorem callS_c (dst : Option Nat) (dr now : Bool) (old : List SV → Bool) (f : FuncId) (args : List SV) (st : St) (hk : S.E.keep f = false) :
    callS S c dst dr now old f args st = (shutL st.m 8 args).bind fun as => if V.lvlL 8 as && (now || old args) then (callC c f as).bind (isoRes dr (allV args).isSome st) else none := by
  unfold callS callC
  simp only [hk, Bool.false_eq_true, if_false]
  cases shutL st.m 8 args with
  | none => rfl
  | some as =>
    simp only [Option.bind_some]
    split
    · cases c f (as.map .v) [] with
      | none => rfl
      | some r =>
        obtain ⟨rs, m'⟩ := r
        simp only [Option.bind_some]
        cases shutL m' 8 rs <;> rfl
    · rfl
end
section
variable {S : Sys} {T : Tab}
def finF (rs : List RV) : Out × St → Option (List V)
  | (.exit _, _) => none
  | (_, st) => (resS st rs).bind (shutL st.m 8)
theorem callC_eq {f : FuncId} {rf : RF} (hT : T f = some rf) (as : List V) (hn : as.length ≤ rf.na) : callC (callL S T) f as = go S (callL S T) (finF rf.rs) rf.body [] (start (as.map .v) []) := by
  unfold callC
  rw [callL_eq hT]
  unfold fbody
  rw [if_pos (by simpa using hn), ← sexec_go]
  cases h : sexec S (callL S T) rf.body (start (as.map .v) []) with
  | none => rfl
  | some r =>
    obtain ⟨o, st⟩ := r
    cases o <;> simp only [Option.bind_some, finF] <;> (try rfl) <;> (cases resS st rf.rs <;> rfl)
theorem finF_ret (rs : List RV) (st : St) : finF rs (.ret, st) = (resS st rs).bind (shutL st.m 8) := rfl
theorem finF_norm (rs : List RV) (st : St) : finF rs (.norm, st) = (resS st rs).bind (shutL st.m 8) := rfl
end
end Go.VE
namespace Go.VE
variable {N : Nat → FuncId}
theorem pv_pick (t : Bool) (a b : V) : peval N .pick [.bool t, a, b] = some (if t then a else b) := rfl
theorem pv_not (t : Bool) : peval N .not [.bool t] = some (.bool !t) := rfl
theorem pv_neg (k : IntKind) (a : Int) : peval N .neg [.int k a] = some (.int k (k.wrap (0 - a))) := rfl
theorem pv_conv (k k' : IntKind) (a : Int) : peval N (.conv k') [.int k a] = some (.int k' (k'.wrap a)) := rfl
theorem pv_ext (i : Nat) (l : List V) : peval N (.ext i) [.tup l] = l[i]? := rfl
theorem pv_clo (n : Nat) (k : Nat) (vs : List V) : peval N (.clo n k) vs = some (.clo (N n) (vs.take k) (vs.drop k)) := rfl
theorem pv_add (e : Option KT) (q : Option Nat) (k : IntKind) (a b : Int) : peval N (.bin e q .add) [.int k a, .int k b] = some (.int k (k.wrap (a + b))) := by simp [peval, binT]
theorem pv_sub (e : Option KT) (q : Option Nat) (k : IntKind) (a b : Int) : peval N (.bin e q .sub) [.int k a, .int k b] = some (.int k (k.wrap (a - b))) := by simp [peval, binT]
theorem pv_mul (e : Option KT) (q : Option Nat) (k : IntKind) (a b : Int) : peval N (.bin e q .mul) [.int k a, .int k b] = some (.int k (k.wrap (a * b))) := by simp [peval, binT]
theorem pv_lss (e : Option KT) (q : Option Nat) (k : IntKind) (a b : Int) : peval N (.bin e q .lss) [.int k a, .int k b] = some (.bool (decide (a < b))) := by simp [peval, binT, cmpI]
theorem pv_leq (e : Option KT) (q : Option Nat) (k : IntKind) (a b : Int) : peval N (.bin e q .leq) [.int k a, .int k b] = some (.bool (decide (a ≤ b))) := by simp [peval, binT, cmpI]
theorem pv_gtr (e : Option KT) (q : Option Nat) (k : IntKind) (a b : Int) : peval N (.bin e q .gtr) [.int k a, .int k b] = some (.bool (decide (a > b))) := by simp [peval, binT, cmpI]
theorem pv_geq (e : Option KT) (q : Option Nat) (k : IntKind) (a b : Int) : peval N (.bin e q .geq) [.int k a, .int k b] = some (.bool (decide (a ≥ b))) := by simp [peval, binT, cmpI]
theorem pv_eql (e : Option KT) (q : Option Nat) (k : IntKind) (a b : Int) : peval N (.bin e q .eql) [.int k a, .int k b] = some (.bool (a == b)) := by simp [peval, binT, cmpI]
theorem pv_neq (e : Option KT) (q : Option Nat) (k : IntKind) (a b : Int) : peval N (.bin e q .neq) [.int k a, .int k b] = some (.bool (a != b)) := by simp [peval, binT, cmpI]
def divI (k : IntKind) (a b : Int) : Option Int := if b = 0 then none else some (k.wrap (a.tdiv b))
def remI (a b : Int) : Option Int := if b = 0 then none else some (a.tmod b)
theorem pv_quo (e : Option KT) (q : Option Nat) (k : IntKind) (a b : Int) : peval N (.bin e q .quo) [.int k a, .int k b] = (divI k a b).bind fun x => some (.int k x) := by
  simp only [peval, binT, divI, if_true]; split <;> rfl
theorem pv_rem (e : Option KT) (q : Option Nat) (k : IntKind) (a b : Int) : peval N (.bin e q .rem) [.int k a, .int k b] = (remI a b).bind fun x => some (.int k x) := by
  simp only [peval, binT, remI, if_true]; split <;> rfl
def shrI (k : IntKind) (a b : Int) : Option Int := if b < 0 then none else some (a.fdiv (2 ^ (min b.toNat k.bits)))
def shlI (k : IntKind) (a b : Int) : Option Int := if b < 0 then none else some (k.wrap (a * 2 ^ (min b.toNat k.bits)))
theorem pv_shr (e : Option KT) (q : Option Nat) (k k' : IntKind) (a b : Int) : peval N (.bin e q .shr) [.int k a, .int k' b] = (shrI k a b).bind fun x => some (.int k x) := by
  simp only [peval, binT, shrI]; split <;> rfl
theorem pv_shl (e : Option KT) (q : Option Nat) (k k' : IntKind) (a b : Int) : peval N (.bin e q .shl) [.int k a, .int k' b] = (shlI k a b).bind fun x => some (.int k x) := by
  simp only [peval, binT, shlI]; split <;> rfl
theorem pv_seql (e : Option KT) (q : Option Nat) (a b : ByteArray) : peval N (.bin e q .eql) [.str a, .str b] = some (.bool (a.toList == b.toList)) := rfl
theorem pv_sneq (e : Option KT) (q : Option Nat) (a b : ByteArray) : peval N (.bin e q .neq) [.str a, .str b] = some (.bool (!(a.toList == b.toList))) := rfl
theorem pv_beql (q : Option Nat) (a b : Bool) : peval N (.bin (some .bool) q .eql) [.bool a, .bool b] = some (.bool (a == b)) := rfl
theorem pv_bneq (q : Option Nat) (a b : Bool) : peval N (.bin (some .bool) q .neq) [.bool a, .bool b] = some (.bool (!(a == b))) := rfl
theorem pv_eql2 (e : Option KT) (a b c d : Int) : peval N (.bin e (some 2) .eql) [.agg [.int .i64 a, .int .i64 b], .agg [.int .i64 c, .int .i64 d]] = some (.bool ([a, b] == [c, d])) := by
  simp [peval, binT, intsEq, intsOf]
theorem pv_neq2 (e : Option KT) (a b c d : Int) : peval N (.bin e (some 2) .neq) [.agg [.int .i64 a, .int .i64 b], .agg [.int .i64 c, .int .i64 d]] = some (.bool (!([a, b] == [c, d]))) := by
  simp [peval, binT, intsEq, intsOf]
theorem pv_fieldAddr (o : Nat) (cs : List V) : peval N (.fieldAddr o) [.fptr cs] = if o ≤ cs.length then some (.fptr (cs.drop o)) else none := rfl
theorem pv_field (o s : Nat) (a : Bool) (cs : List V) : peval N (.field o s a) [.agg cs] = (cut cs o s).bind (mk a) := rfl
theorem pv_lenStr (s : ByteArray) : peval N .lenStr [.str s] = some (.int .i64 s.size) := rfl
def strIdx (s : ByteArray) (n : Int) : Option Int := if 0 ≤ n then (s[n.toNat]?).map fun b => (b.toNat : Int) else none
theorem pv_idxStr (s : ByteArray) (k : IntKind) (n : Int) : peval N .idxStr [.str s, .int k n] = (strIdx s n).bind fun x => some (.int .u8 x) := by
  simp only [peval, strIdx]
  split
  · cases s[n.toNat]? <;> rfl
  · rfl
theorem pv_max (k : IntKind) (a b : Int) : peval N .max [.int k a, .int k b] = some (.int k (if b > a then b else a)) := by simp [peval]
theorem pv_min (k : IntKind) (a b : Int) : peval N .min [.int k a, .int k b] = some (.int k (if b < a then b else a)) := by simp [peval]
theorem pv_build (z : List V) (pl : List (Nat × Nat)) (vs : List V) : peval N (.build z pl) vs = (fillP z pl vs).bind fun cs => some (.agg cs) := by
  simp only [peval]; cases fillP z pl vs <;> rfl
section
variable {α : Type} [Enc α]
theorem pv_idxS (s : Sl α) (k : IntKind) (i : Int) (n : Nat) (hn : n = Enc.size α) : peval N (.idxS n) [slEnc s, .int k i] = (idx s i).bind fun x => some (.fptr (cells x)) := by
  rw [idxS_enc s k i hn]; cases idx s i <;> rfl
theorem pv_lenSl (s : Sl α) : peval N .lenSl [slEnc s] = some (.int .i64 s.l.length) := lenSl_enc s
theorem slEnc_nil : slEnc (Sl.nil : Sl α) = .nsl := rfl
theorem slEnc_emp : slEnc (Sl.emp : Sl α) = .esl := rfl
def Sl.isNil {α : Type} (s : Sl α) : Option Bool :=
  match s with
  | .nil => some true
  | .emp => none
  | _ => some false
theorem pv_isNil (q : Option Nat) (s : Sl α) : peval N (.bin (some .slice) q .eql) [slEnc s, .nsl] = s.isNil.bind fun t => some (.bool t) := by
  cases s <;> rfl
theorem pv_notNil (q : Option Nat) (s : Sl α) : peval N (.bin (some .slice) q .neq) [slEnc s, .nsl] = s.isNil.bind fun t => some (.bool !t) := by
  cases s <;> rfl
def slPart (s : Sl α) (lo hi : Option Int) : Option (Sl α) :=
  (boundsV s.l.length lo hi).map fun (l, h) => match s with
    | .nil => .nil
    | .emp => .emp
    | .row x => .part ((x.take h).drop l)
    | .part x => .part ((x.take h).drop l)
theorem slEnc_part (x : List α) : slEnc (Sl.part x) = .fsl (Enc.size α) (rows x) := rfl
theorem sliceV_enc (s : Sl α) (lo hi : Option Int) (n : Nat) (hn : n = Enc.size α) : sliceV n (slEnc s) lo hi = (slPart s lo hi).bind fun x => some (slEnc x) := by
  subst hn
  cases s with
  | nil => simp only [slEnc, Sl.k, slV, sliceV, slPart, Sl.l, List.length_nil]; cases boundsV 0 lo hi <;> rfl
  | emp => simp only [slEnc, Sl.k, slV, sliceV, slPart, Sl.l, List.length_nil]; cases boundsV 0 lo hi <;> rfl
  | row l => simp only [slEnc, Sl.k, slV, sliceV, slPart, Sl.l, if_true, rows_length]; cases boundsV l.length lo hi <;> simp [rows, List.map_take, List.map_drop]
  | part l => simp only [slEnc, Sl.k, slV, sliceV, slPart, Sl.l, if_true, rows_length]; cases boundsV l.length lo hi <;> simp [rows, List.map_take, List.map_drop]
theorem pv_slice00 (s : Sl α) (k k' : IntKind) : peval N .slice00 [slEnc s, .int k 0, .int k' 0] = some .esl := by
  cases s <;> rfl
end
theorem rd_closed (m : Tb SOb) (n : Nat) (a : Bool) (cs : List V) : readS m (.load n a) [.v (.fptr cs)] = (cut cs 0 n).bind fun r => (mk a r).bind fun x => some (.v x) := by
  simp only [readS, cellsAt]
  cases cut cs 0 n with
  | none => rfl
  | some r => simp only [Option.bind_some]; cases mk a r <;> rfl
theorem cut_eq (cs : List V) (o n : Nat) : cut cs o n = if ((cs.drop o).take n).length = n then some ((cs.drop o).take n) else none := rfl
theorem mk_agg' (cs : List V) : mk true cs = some (.agg cs) := rfl
theorem mk_one' (x : V) : mk false [x] = some x := rfl
theorem rd_ptr (m : Tb SOb) (n : Nat) (a : Bool) (d o : Nat) (cs : List SV) (h : tget m d = some (.box cs)) : readS m (.load n a) [.ptr d o] = loadC n a ((cs.drop o).take n) := by
  simp only [readS, h]
theorem loadC_agg (n : Nat) (cs : List SV) : loadC n true cs = if cs.length = n then (allV cs).bind fun xs => some (.v (.agg xs)) else none := by
  unfold loadC; split
  · simp only [if_true]; cases allV cs <;> rfl
  · rfl
theorem loadC_one (x : SV) : loadC 1 false [x] = some x := rfl
end Go.VE
namespace Go.VE
section
variable {α : Type} [Enc α]
def slOb (s : Sl α) : SOb := .sl s.k (Enc.size α) (rows s.l)
def Sl.chk (s : Sl α) (i : Int) : Option Nat := if 0 ≤ i ∧ i.toNat < s.l.length then some i.toNat else none
def Sl.get (s : Sl α) (i : Nat) : Option α := s.l[i]?
def Sl.put (s : Sl α) (i : Nat) (x : α) : Option (Sl α) :=
  if i < s.l.length then some (match s with | .row l => .row (l.set i x) | .part l => .part (l.set i x) | s => s) else none
def app1 (s : Sl α) (x : α) : Option (Sl α) := if s.l.length + 1 ≤ 2147483648 then some (.row (s.l ++ [x])) else none
def mkSl (n : Int) (z : α) : Option (Sl α) := if 0 ≤ n ∧ n ≤ 2147483648 then some (.row (List.replicate n.toNat z)) else none
theorem slV_enc (s : Sl α) (n : Nat) (h : n = Enc.size α) : slV s.k n (rows s.l) = slEnc s := by subst h; rfl
end
section
variable {α : Type} [Enc α] {N : Nat → FuncId} {m : Tb SOb}
def onOb {β : Type} (o : Option SOb) (f : SOb → Option β) : Option β := o.bind f
theorem ps_id_own (d : Nat) : pureS N m .id [.own d] = some (.own d) := rfl
theorem ps_id_ptr (d o : Nat) : pureS N m .id [.ptr d o] = some (.ptr d o) := rfl
theorem ps_id_el (d i o : Nat) : pureS N m .id [.el d i o] = some (.el d i o) := rfl
theorem ps_id_clo (f : FuncId) (a b : List SV) : pureS N m .id [.clo f a b] = some (.clo f a b) := rfl
theorem ps_id_tup (l : List SV) : pureS N m .id [.tup l] = some (.tup l) := rfl
theorem ps_id_mp (d : Nat) : pureS N m .id [.mp d] = some (.mp d) := rfl
theorem ps_id_yl (d : Nat) : pureS N m .id [.yl d] = some (.yl d) := rfl
theorem ps_id_v (x : V) : pureS N m .id [.v x] = some (.v x) := rfl
theorem ps_nilc_ptr (d o : Nat) : pureS N m .nilc [.ptr d o] = if (tget m d).isSome then some (.ptr d o) else none := rfl
theorem ps_nilc_el (d i o : Nat) : pureS N m .nilc [.el d i o] = if (tget m d).isSome then some (.el d i o) else none := rfl
theorem ps_fa_ptr (off d o : Nat) : pureS N m (.fieldAddr off) [.ptr d o] = if (tget m d).isSome then some (.ptr d (o + off)) else none := rfl
theorem ps_fa_el (off d i o : Nat) : pureS N m (.fieldAddr off) [.el d i o] = if (tget m d).isSome then some (.el d i (o + off)) else none := rfl
theorem ps_ext (i : Nat) (l : List SV) : pureS N m (.ext i) [.tup l] = l[i]? := rfl
def isNilO (o : Option SOb) (t : Bool) : Option SV :=
  match o with
  | some (.sl k _ _) => if k = .emp then none else some (.v (.bool ((k == .nil) == t)))
  | _ => none
theorem ps_isNil (q : Option Nat) (d : Nat) : pureS N m (.bin (some .slice) q .eql) [.own d, .v .nsl] = isNilO (tget m d) true := by
  simp only [pureS, allV, pureR, isNilO]
  cases tget m d with
  | none => rfl
  | some o => cases o <;> first | rfl | (dsimp only; split <;> simp)
theorem ps_notNil (q : Option Nat) (d : Nat) : pureS N m (.bin (some .slice) q .neq) [.own d, .v .nsl] = isNilO (tget m d) false := by
  simp only [pureS, allV, pureR, isNilO]
  cases tget m d with
  | none => rfl
  | some o => cases o <;> first | rfl | (dsimp only; split <;> simp)
theorem isNilO_sl (s : Sl α) : isNilO (some (slOb s)) true = s.isNil.bind fun t => some (.v (.bool t)) := by cases s <;> rfl
theorem notNilO_sl (s : Sl α) : isNilO (some (slOb s)) false = s.isNil.bind fun t => some (.v (.bool !t)) := by cases s <;> rfl
def idxO (n d : Nat) (o : Option SOb) (i : Int) : Option SV :=
  match o with
  | some (.sl k es xs) => if rowLike k ∧ es = n ∧ 0 ≤ i ∧ i.toNat < xs.length then some (.el d i.toNat 0) else none
  | _ => none
theorem ps_idxS (n d : Nat) (k : IntKind) (i : Int) : pureS N m (.idxS n) [.own d, .v (.int k i)] = idxO n d (tget m d) i := by
  simp only [pureS, allV, pureR, idxO]
  cases tget m d with
  | none => rfl
  | some o => cases o <;> rfl
theorem idxO_sl (n d : Nat) (s : Sl α) (i : Int) (h : n = Enc.size α) : idxO n d (some (slOb s)) i = (s.chk i).bind fun j => some (.el d j 0) := by
  subst h
  simp only [idxO, slOb, rows_length, true_and, Sl.chk]
  cases s with
  | nil => simp [Sl.l, Sl.k, rowLike]
  | emp => simp [Sl.l, Sl.k, rowLike]
  | row l => simp only [Sl.k, Sl.l, rowLike, true_and]; by_cases h : 0 ≤ i ∧ i.toNat < l.length <;> simp [h]
  | part l => simp only [Sl.k, Sl.l, rowLike, true_and]; by_cases h : 0 ≤ i ∧ i.toNat < l.length <;> simp [h]
def lenO (o : Option SOb) : Option SV :=
  match o with
  | some (.sl _ _ xs) => some (.v (.int .i64 xs.length))
  | _ => none
theorem ps_lenSl (d : Nat) : pureS N m .lenSl [.own d] = lenO (tget m d) := by
  simp only [pureS, allV, pureR, lenO]
  cases tget m d with
  | none => rfl
  | some o => cases o <;> rfl
theorem lenO_sl (s : Sl α) : lenO (some (slOb s)) = some (.v (.int .i64 s.l.length)) := by simp [lenO, slOb, rows_length]
def loadP (n : Nat) (a : Bool) (o : Nat) (ob : Option SOb) : Option SV :=
  match ob with
  | some (.box cs) => loadC n a ((cs.drop o).take n)
  | _ => none
theorem rd_p (n : Nat) (a : Bool) (d o : Nat) : readS m (.load n a) [.ptr d o] = loadP n a o (tget m d) := by
  simp only [readS, loadP]
  rfl
theorem loadP_box (n : Nat) (a : Bool) (o : Nat) (cs : List SV) : loadP n a o (some (.box cs)) = loadC n a ((cs.drop o).take n) := rfl
def loadEl (n : Nat) (a : Bool) (i o : Nat) (ob : Option SOb) : Option SV :=
  match ob with
  | some (.sl _ _ xs) => match xs[i]? with
    | some cs => ((cut cs o n).bind (mk a)).map .v
    | none => none
  | _ => none
theorem rd_el (n : Nat) (a : Bool) (d i o : Nat) : readS m (.load n a) [.el d i o] = loadEl n a i o (tget m d) := by
  simp only [readS, loadEl]
  rfl
theorem loadEl_sl (n : Nat) (a : Bool) (i o : Nat) (s : Sl α) : loadEl n a i o (some (slOb s)) = (s.get i).bind fun x => (cut (cells x) o n).bind fun r => (mk a r).bind fun y => some (.v y) := by
  simp only [loadEl, slOb, Sl.get, rows, List.getElem?_map]
  cases s.l[i]? with
  | none => rfl
  | some x =>
    simp only [Option.map_some, Option.bind_some]
    cases cut (cells x) o n with
    | none => rfl
    | some r => simp only [Option.bind_some]; cases mk a r <;> rfl
theorem al_alloc (x : List V) (n : Nat) (d : Nat) : allocS m (.alloc n x) [] d = some (.box (x.map .v), .ptr d 0) := rfl
theorem al_box_v (x : V) (d : Nat) : allocS m .box [.v x] d = if x.cells.all V.one then some (.box (x.cells.map .v), .ptr d 0) else none := rfl
theorem al_box_own (e d : Nat) : allocS m .box [.own e] d = if (tget m e).isSome then some (.box [.own e], .ptr d 0) else none := rfl
theorem al_box_ptr (e o d : Nat) : allocS m .box [.ptr e o] d = if (tget m e).isSome then some (.box [.ptr e o], .ptr d 0) else none := rfl
theorem al_box_clo (f : FuncId) (a b : List SV) (d : Nat) : allocS m .box [.clo f a b] d = some (.box [.clo f a b], .ptr d 0) := rfl
theorem mk_sl (z : α) (n : Int) (d : Nat) (size : Nat) (zero : List V) (h : zero = cells z) (h2 : size = Enc.size α) :
    allocS m (.makeSl size zero) [.v (.int .i64 n), .v (.int .i64 n)] d = (mkSl n z).bind fun s => some (slOb s, .own d) := by
  subst h h2
  simp only [allocS, mkSl, true_and, Int.le_refl]
  split
  · simp [slOb, Sl.k, Sl.l, rows, List.map_replicate]
  · rfl
def storeP (st : St) (d o size : Nat) (x : SV) (ob : Option SOb) : Option (SV × St) :=
  match ob with
  | some (.box cs) => (putCells st.m size o x cs).map fun cs => (.v .undef, { st with m := tput st.m d (.box cs) })
  | _ => none
theorem ld_storeP (st : St) (dst : Option Nat) (size d o : Nat) (x : SV) : loudS st dst (.store size) [.ptr d o, x] = storeP st d o size x (tget st.m d) := by
  cases x <;> (simp only [loudS, storeP]; rfl)
theorem storeP_v (g : Tb SV) (p : List Nat) (w : List (List V)) (mo : Bool) (y : Nat) (d o size : Nat) (x : V) (cs : List SV) : storeP ⟨g, m, p, w, mo, y⟩ d o size (.v x) (some (.box cs)) =
    if x.cells.length = size ∧ o + size ≤ cs.length ∧ x.cells.all V.one = true then some (.v .undef, ⟨g, tput m d (.box (cs.take o ++ x.cells.map .v ++ cs.drop (o + size))), p, w, mo, y⟩) else none := by
  simp only [storeP, putCells]; split <;> rfl
theorem storeP_own (g : Tb SV) (p : List Nat) (w : List (List V)) (mo : Bool) (y : Nat) (d o e size : Nat) (cs : List SV) : storeP ⟨g, m, p, w, mo, y⟩ d o size (.own e) (some (.box cs)) =
    if (tget m e).isSome = true ∧ size = 1 ∧ o + 1 ≤ cs.length then some (.v .undef, ⟨g, tput m d (.box (cs.take o ++ [.own e] ++ cs.drop (o + 1))), p, w, mo, y⟩) else none := by
  simp only [storeP, putCells, liveRef]; by_cases h : (tget m e).isSome = true ∧ size = 1 ∧ o + 1 ≤ cs.length <;> simp only [h, if_true, if_false, Option.map_some, Option.map_none]
  · rw [if_pos ⟨trivial, trivial, trivial⟩]; rfl
def storeEl (st : St) (d i o size : Nat) (x : V) (ob : Option SOb) : Option (SV × St) :=
  match ob with
  | some (.sl k es xs) => match xs[i]? with
    | some cs => if x.cells.length = size ∧ o + size ≤ cs.length ∧ x.cells.all V.one = true then
        some (.v .undef, { st with m := tput st.m d (.sl k es (xs.set i (cs.take o ++ x.cells ++ cs.drop (o + x.cells.length)))) }) else none
    | none => none
  | _ => none
theorem ld_storeEl (st : St) (dst : Option Nat) (size d i o : Nat) (x : V) : loudS st dst (.store size) [.el d i o, .v x] = storeEl st d i o size x (tget st.m d) := by
  simp only [loudS, storeEl]; rfl
theorem storeEl_sl (g : Tb SV) (p : List Nat) (w : List (List V)) (mo : Bool) (y : Nat) (d i size : Nat) (x : V) (a : α) (hx : x.cells = cells a) (hs : size = Enc.size α) (s : Sl α) :
    storeEl ⟨g, m, p, w, mo, y⟩ d i 0 size x (some (slOb s)) = (s.put i a).bind fun s' => some (.v .undef, ⟨g, tput m d (slOb s'), p, w, mo, y⟩) := by
  have h1 : (cells a).all V.one = true := Enc.one a
  have hl : ∀ b : α, (cells b).length = Enc.size α := Enc.len
  subst hs
  simp only [storeEl, slOb, rows, List.getElem?_map, hx, Sl.put]
  by_cases hi : i < s.l.length
  · have hg : s.l[i]? = some s.l[i] := List.getElem?_eq_getElem hi
    rw [if_pos hi, hg]
    simp only [Option.map_some, hl, h1, Option.bind_some]
    rw [if_pos ⟨trivial, by omega, trivial⟩]
    cases s with
    | nil => simp [Sl.l] at hi
    | emp => simp [Sl.l] at hi
    | row l => simp [Sl.k, Sl.l, rows, List.drop_of_length_le, hl, List.map_set]
    | part l => simp [Sl.k, Sl.l, rows, List.drop_of_length_le, hl, List.map_set]
  · rw [if_neg hi, List.getElem?_eq_none (by omega)]; rfl
def appO (st : St) (t n : Nat) (s : SV) (xs ys : Option (List (List V))) : Option (SV × St) :=
  match xs, ys with
  | some _, some [] => some (s, st)
  | some xs, some ys =>
    if xs.length + ys.length ≤ 2147483648 ∧ ownS s = true then
      if St.new { st with m := giveUp st.m s } t then some (.own t, { st with m := tput (giveUp st.m s) t (.sl .row n (xs ++ ys)) }) else none
    else none
  | _, _ => none
theorem ld_append (st : St) (t n : Nat) (s x : SV) : loudS st (some t) (.append n) [s, x] = appO st t n s (elemsS st.m n s) (elemsS st.m n x) := by
  cases s <;> cases x <;> (simp only [loudS, appO]; rfl)
def elsO (n : Nat) (o : Option SOb) : Option (List (List V)) :=
  match o with
  | some (.sl k es xs) => if rowLike k then (if es = n then some xs else none) else some []
  | _ => none
theorem els_own (n d : Nat) : elemsS m n (.own d) = elsO n (tget m d) := by
  simp only [elemsS, elsO]
  cases tget m d with
  | none => rfl
  | some ob => cases ob <;> rfl
theorem elsO_sl (n : Nat) (s : Sl α) (h : n = Enc.size α) : elsO n (some (slOb s)) = some (rows s.l) := by
  subst h; cases s <;> simp [elsO, slOb, Sl.k, Sl.l, rowLike, rows]
theorem els_nsl (n : Nat) : elemsS m n (.v .nsl) = some [] := rfl
theorem els_esl (n : Nat) : elemsS m n (.v .esl) = some [] := rfl
theorem els_enc (n : Nat) (s : Sl α) (h : n = Enc.size α) : elemsS m n (.v (slEnc s)) = some (rows s.l) := by
  subst h; cases s <;> simp [elemsS, slEnc, slV, Sl.k, Sl.l, rows]
theorem appO_own1 (g : Tb SV) (p : List Nat) (w : List (List V)) (mo : Bool) (y : Nat) (t n d : Nat) (l : List α) (x : α) (h : n = Enc.size α) : appO ⟨g, m, p, w, mo, y⟩ t n (.own d) (some (rows l)) (some (rows [x])) =
    (app1 (.row l) x).bind fun s => if St.new ⟨g, tdel d m, p, w, mo, y⟩ t then some (.own t, ⟨g, tput (tdel d m) t (slOb s), p, w, mo, y⟩) else none := by
  subst h
  have e : (rows l).length + (rows [x]).length = l.length + 1 := by simp [rows_length]
  by_cases h : l.length + 1 ≤ 2147483648
  · have h1 : app1 (.row l) x = some (.row (l ++ [x])) := if_pos h
    have h2 : appO ⟨g, m, p, w, mo, y⟩ t (Enc.size α) (.own d) (some (rows l)) (some (rows [x])) = if St.new ⟨g, tdel d m, p, w, mo, y⟩ t then some (.own t, ⟨g, tput (tdel d m) t (.sl .row (Enc.size α) (rows l ++ rows [x])), p, w, mo, y⟩) else none := if_pos ⟨by omega, rfl⟩
    rw [h1, h2]
    simp only [Option.bind_some, slOb, Sl.k, Sl.l, rows, List.map_append, List.map_cons, List.map_nil]
  · have h1 : app1 (.row l) x = none := if_neg h
    have h2 : appO ⟨g, m, p, w, mo, y⟩ t (Enc.size α) (.own d) (some (rows l)) (some (rows [x])) = none := if_neg (fun q => h (by omega))
    rw [h1, h2]; rfl
theorem appO_nil1 (g : Tb SV) (p : List Nat) (w : List (List V)) (mo : Bool) (y : Nat) (t n : Nat) (x : α) (h : n = Enc.size α) : appO ⟨g, m, p, w, mo, y⟩ t n (.v .nsl) (some []) (some (rows [x])) =
    if St.new ⟨g, m, p, w, mo, y⟩ t then some (.own t, ⟨g, tput m t (slOb (.row [x])), p, w, mo, y⟩) else none := by
  subst h
  simp [appO, rows, ownS, giveUp, slOb, Sl.k, Sl.l]; rfl
theorem appO_emp1 (g : Tb SV) (p : List Nat) (w : List (List V)) (mo : Bool) (y : Nat) (t n : Nat) (x : α) (h : n = Enc.size α) : appO ⟨g, m, p, w, mo, y⟩ t n (.v .esl) (some []) (some (rows [x])) =
    if St.new ⟨g, m, p, w, mo, y⟩ t then some (.own t, ⟨g, tput m t (slOb (.row [x])), p, w, mo, y⟩) else none := by
  subst h
  simp [appO, rows, ownS, giveUp, slOb, Sl.k, Sl.l]; rfl
end
theorem new_eq (g : Tb SV) (m : Tb SOb) (p : List Nat) (w : List (List V)) (mo : Bool) (y d : Nat) : St.new ⟨g, m, p, w, mo, y⟩ d = (!(p.contains d) && (tget m d).isNone && !(saysG d g) && !(saysM d m)) := rfl
theorem saysG_nil (d : Nat) : saysG d [] = false := rfl
theorem saysG_cons (d n : Nat) (x : SV) (r : Tb SV) : saysG d ((n, x) :: r) = (SV.says d x || saysG d r) := rfl
theorem saysM_nil (d : Nat) : saysM d [] = false := rfl
theorem saysM_cons (d n : Nat) (x : SOb) (r : Tb SOb) : saysM d ((n, x) :: r) = (SOb.says d x || saysM d r) := rfl
theorem says_v (d : Nat) (x : V) : SV.says d (.v x) = false := rfl
theorem says_own (d e : Nat) : SV.says d (.own e) = (e == d) := rfl
theorem says_ptr (d e o : Nat) : SV.says d (.ptr e o) = (e == d) := rfl
theorem says_el (d e i o : Nat) : SV.says d (.el e i o) = (e == d) := rfl
theorem says_mp (d e : Nat) : SV.says d (.mp e) = (e == d) := rfl
theorem says_clo (d : Nat) (f : FuncId) (a b : List SV) : SV.says d (.clo f a b) = (SV.saysL d a || SV.saysL d b) := rfl
theorem says_tup (d : Nat) (l : List SV) : SV.says d (.tup l) = SV.saysL d l := rfl
theorem saysL_nil (d : Nat) : SV.saysL d [] = false := rfl
theorem saysL_cons (d : Nat) (x : SV) (r : List SV) : SV.saysL d (x :: r) = (SV.says d x || SV.saysL d r) := rfl
theorem saysO_box (d : Nat) (cs : List SV) : SOb.says d (.box cs) = SV.saysL d cs := rfl
theorem saysO_sl {α : Type} [Enc α] (d : Nat) (s : Sl α) : SOb.says d (slOb s) = false := rfl
theorem shutL_nil (m : Tb SOb) (n : Nat) : shutL m n [] = some [] := by cases n <;> simp only [shutL]
theorem shutL_cons (m : Tb SOb) (n : Nat) (x : SV) (r : List SV) : shutL m n (x :: r) = (shut m n x).bind fun y => (shutL m n r).bind fun s => some (y :: s) := by
  cases n <;> (simp only [shutL]; cases shut m _ x <;> (try rfl) <;> (cases shutL m _ r <;> rfl))
theorem shut_v (m : Tb SOb) (n : Nat) (x : V) : shut m n (.v x) = some x := by cases n <;> simp only [shut]
def shutO (o : Option SOb) : Option V :=
  match o with
  | some (.sl k es xs) => some (slV k es xs)
  | _ => none
theorem shut_own (m : Tb SOb) (n d : Nat) : shut m n (.own d) = shutO (tget m d) := by
  cases n <;> (simp only [shut, shutO]; rfl)
theorem shutO_sl {α : Type} [Enc α] (s : Sl α) : shutO (some (slOb s)) = some (slEnc s) := rfl
def shutB (m : Tb SOb) (n o : Nat) (ob : Option SOb) : Option V :=
  match ob with
  | some (.box cs) => (shutL m n cs).bind fun xs => if o ≤ xs.length then some (.fptr (xs.drop o)) else none
  | _ => none
theorem shut_ptr (m : Tb SOb) (n d o : Nat) : shut m (n + 1) (.ptr d o) = shutB m n o (tget m d) := by
  simp only [shut, shutB]
  cases tget m d with
  | none => rfl
  | some ob =>
    cases ob <;> first | rfl | (dsimp only; cases shutL m n _ <;> rfl)
theorem shutB_box (m : Tb SOb) (n o : Nat) (cs : List SV) : shutB m n o (some (.box cs)) = (shutL m n cs).bind fun xs => if o ≤ xs.length then some (.fptr (xs.drop o)) else none := rfl
theorem shut_clo (m : Tb SOb) (n : Nat) (f : FuncId) (a b : List SV) : shut m (n + 1) (.clo f a b) = (shutL m n a).bind fun x => (shutL m n b).bind fun y => some (.clo f x y) := by
  simp only [shut]; cases shutL m n a <;> (try rfl) <;> (cases shutL m n b <;> rfl)
theorem shut_tup (m : Tb SOb) (n : Nat) (l : List SV) : shut m (n + 1) (.tup l) = (shutL m n l).bind fun x => some (.tup x) := by
  simp only [shut]; cases shutL m n l <;> rfl
theorem allV_nil : allV [] = some [] := rfl
theorem allV_v (x : V) (r : List SV) : allV (.v x :: r) = (allV r).bind fun s => some (x :: s) := by simp only [allV]; cases allV r <;> rfl
theorem allV_own (d : Nat) (r : List SV) : allV (.own d :: r) = none := rfl
theorem allV_ptr (d o : Nat) (r : List SV) : allV (.ptr d o :: r) = none := rfl
theorem allV_el (d i o : Nat) (r : List SV) : allV (.el d i o :: r) = none := rfl
theorem allV_mp (d : Nat) (r : List SV) : allV (.mp d :: r) = none := rfl
theorem allV_clo (f : FuncId) (a b : List SV) (r : List SV) : allV (.clo f a b :: r) = none := rfl
theorem allV_tup (l : List SV) (r : List SV) : allV (.tup l :: r) = none := rfl
theorem resS_nil (st : St) : resS st [] = some [] := rfl
theorem resS_s (st : St) (n : Nat) (r : List RV) : resS st (.s n :: r) = (tget st.g n).bind fun x => (resS st r).bind fun l => some (x :: l) := by
  simp only [resS]; cases tget st.g n <;> (try rfl) <;> (cases resS st r <;> rfl)
theorem resS_ld (st : St) (n size : Nat) (a : Bool) (r : List RV) : resS st (.ld n size a :: r) = ((tget st.g n).bind fun p => readS st.m (.load size a) [p]).bind fun x => (resS st r).bind fun l => some (x :: l) := by
  simp only [resS]; cases (tget st.g n).bind fun p => readS st.m (.load size a) [p] <;> (try rfl) <;> (cases resS st r <;> rfl)
theorem tdel_nil {α : Type} (n : Nat) : tdel n ([] : Tb α) = [] := rfl
theorem tdel_cons {α : Type} (n k : Nat) (x : α) (r : Tb α) : tdel n ((k, x) :: r) = if k = n then tdel n r else (k, x) :: tdel n r := rfl
theorem tdels_nil {α : Type} (g : Tb α) : tdels [] g = g := rfl
theorem tdels_cons {α : Type} (d : Nat) (ds : List Nat) (g : Tb α) : tdels (d :: ds) g = tdels ds (tdel d g) := rfl
theorem tkeep_nil {α : Type} (g : Tb α) : tkeep g [] = some [] := rfl
theorem tkeep_cons {α : Type} (g : Tb α) (n : Nat) (r : List Nat) : tkeep g (n :: r) = (tget g n).bind fun v => (tkeep g r).bind fun t => some ((n, v) :: t) := by
  simp only [tkeep]; cases tget g n <;> (try rfl) <;> (cases tkeep g r <;> rfl)
theorem gh_keep (gs ms : List Nat) (g : Tb SV) (m : Tb SOb) (p : List Nat) (w : List (List V)) (mo : Bool) (y : Nat) : ghost (.keep gs ms) ⟨g, m, p, w, mo, y⟩ = (tkeep g gs).bind fun g' => (tkeep m ms).bind fun m' => some ⟨g', m', p, w, mo, y⟩ := by
  simp only [ghost]; cases tkeep g gs <;> (try rfl) <;> (cases tkeep m ms <;> rfl)
def closeO (d : Nat) (st : St) (o : Option SOb) : Option St :=
  match o with
  | some (.sl k es xs) => some { st with g := mapG (SV.sub d (slV k es xs)) st.g, m := mapM (SV.subL d (slV k es xs)) (tdel d st.m) }
  | _ => none
theorem closeD_eq (d : Nat) (st : St) : closeD d st = closeO d st (tget st.m d) := rfl
theorem closeO_sl {α : Type} [Enc α] (d : Nat) (g : Tb SV) (m : Tb SOb) (p : List Nat) (w : List (List V)) (mo : Bool) (y : Nat) (s : Sl α) :
    closeO d ⟨g, m, p, w, mo, y⟩ (some (slOb s)) = some ⟨mapG (SV.sub d (slEnc s)) g, mapM (SV.subL d (slEnc s)) (tdel d m), p, w, mo, y⟩ := rfl
def closeQ (st : St) (x : Option SV) : Option St :=
  match x with
  | some (.own d) => closeD d st
  | some _ => some st
  | none => none
theorem gh_closeS (l : Loc) (st : St) : ghost (.closeS l) st = closeQ st (locAt st l) := by
  simp only [ghost, closeQ]
  cases locAt st l with
  | none => rfl
  | some x => cases x <;> rfl
theorem gh_close (d : Nat) (st : St) : ghost (.close d) st = closeD d st := rfl
theorem closeQ_own (st : St) (d : Nat) : closeQ st (some (.own d)) = closeD d st := rfl
theorem closeQ_v (st : St) (x : V) : closeQ st (some (.v x)) = some st := rfl
theorem locAt_s (st : St) (n : Nat) : locAt st (.s n) = tget st.g n := rfl
def locO (i : Nat) (o : Option SOb) : Option SV :=
  match o with
  | some (.box cs) => cs[i]?
  | _ => none
theorem locAt_c (st : St) (b i : Nat) : locAt st (.c b i) = locO i (tget st.m b) := rfl
theorem locO_box (i : Nat) (cs : List SV) : locO i (some (.box cs)) = cs[i]? := rfl
def canonQ (st : St) (n d es : Nat) (x : Option SV) : Option St :=
  match x with
  | some (.v .nsl) => if st.new d then some { st with g := tput st.g n (.own d), m := tput st.m d (.sl .nil es []) } else none
  | some (.v .esl) => if st.new d then some { st with g := tput st.g n (.own d), m := tput st.m d (.sl .emp es []) } else none
  | some (.own e) => if e = d then some st else if st.new d then some { st with g := renG e d st.g, m := renM e d st.m } else none
  | _ => none
theorem gh_canon_s (n d es : Nat) (st : St) : ghost (.canon (.s n) d es) st = canonQ st n d es (tget st.g n) := by
  simp only [ghost]; rfl
theorem canonQ_own (g : Tb SV) (m : Tb SOb) (p : List Nat) (w : List (List V)) (mo : Bool) (y : Nat) (n d es e : Nat) : canonQ ⟨g, m, p, w, mo, y⟩ n d es (some (.own e)) =
    if e = d then some ⟨g, m, p, w, mo, y⟩ else if St.new ⟨g, m, p, w, mo, y⟩ d then some ⟨renG e d g, renM e d m, p, w, mo, y⟩ else none := rfl
theorem canonQ_nsl {α : Type} [Enc α] (g : Tb SV) (m : Tb SOb) (p : List Nat) (w : List (List V)) (mo : Bool) (y : Nat) (n d es : Nat) (h : es = Enc.size α) : canonQ ⟨g, m, p, w, mo, y⟩ n d es (some (.v .nsl)) =
    if St.new ⟨g, m, p, w, mo, y⟩ d then some ⟨tput g n (.own d), tput m d (slOb (Sl.nil : Sl α)), p, w, mo, y⟩ else none := by subst h; rfl
theorem canonQ_esl {α : Type} [Enc α] (g : Tb SV) (m : Tb SOb) (p : List Nat) (w : List (List V)) (mo : Bool) (y : Nat) (n d es : Nat) (h : es = Enc.size α) : canonQ ⟨g, m, p, w, mo, y⟩ n d es (some (.v .esl)) =
    if St.new ⟨g, m, p, w, mo, y⟩ d then some ⟨tput g n (.own d), tput m d (slOb (Sl.emp : Sl α)), p, w, mo, y⟩ else none := by subst h; rfl
theorem renG_nil (d e : Nat) : renG d e [] = [] := rfl
theorem renG_cons (d e n : Nat) (x : SV) (r : Tb SV) : renG d e ((n, x) :: r) = (n, SV.ren d e x) :: renG d e r := rfl
theorem renM_nil (d e : Nat) : renM d e [] = [] := rfl
theorem renM_cons (d e n : Nat) (x : SOb) (r : Tb SOb) : renM d e ((n, x) :: r) = ((if n = d then e else n), SOb.ren d e x) :: renM d e r := rfl
theorem ren_v (d e : Nat) (x : V) : SV.ren d e (.v x) = .v x := rfl
theorem ren_own (d e k : Nat) : SV.ren d e (.own k) = .own (if k = d then e else k) := rfl
theorem ren_ptr (d e k o : Nat) : SV.ren d e (.ptr k o) = .ptr (if k = d then e else k) o := rfl
theorem ren_el (d e k i o : Nat) : SV.ren d e (.el k i o) = .el (if k = d then e else k) i o := rfl
theorem ren_clo (d e : Nat) (f : FuncId) (a b : List SV) : SV.ren d e (.clo f a b) = .clo f (SV.renL d e a) (SV.renL d e b) := rfl
theorem ren_tup (d e : Nat) (l : List SV) : SV.ren d e (.tup l) = .tup (SV.renL d e l) := rfl
theorem renL_nil (d e : Nat) : SV.renL d e [] = [] := rfl
theorem renL_cons (d e : Nat) (x : SV) (r : List SV) : SV.renL d e (x :: r) = SV.ren d e x :: SV.renL d e r := rfl
theorem renO_box (d e : Nat) (cs : List SV) : SOb.ren d e (.box cs) = .box (SV.renL d e cs) := rfl
theorem renO_sl {α : Type} [Enc α] (d e : Nat) (s : Sl α) : SOb.ren d e (slOb s) = slOb s := rfl
theorem sub_v (d : Nat) (w x : V) : SV.sub d w (.v x) = .v x := rfl
theorem sub_own (d : Nat) (w : V) (k : Nat) : SV.sub d w (.own k) = if k = d then .v w else .own k := rfl
theorem sub_ptr (d : Nat) (w : V) (k o : Nat) : SV.sub d w (.ptr k o) = .ptr k o := rfl
theorem sub_el (d : Nat) (w : V) (k i o : Nat) : SV.sub d w (.el k i o) = .el k i o := rfl
theorem sub_clo (d : Nat) (w : V) (f : FuncId) (a b : List SV) : SV.sub d w (.clo f a b) = .clo f (SV.subL d w a) (SV.subL d w b) := rfl
theorem sub_tup (d : Nat) (w : V) (l : List SV) : SV.sub d w (.tup l) = .tup (SV.subL d w l) := rfl
theorem subL_nil (d : Nat) (w : V) : SV.subL d w [] = [] := rfl
theorem subL_cons (d : Nat) (w : V) (x : SV) (r : List SV) : SV.subL d w (x :: r) = SV.sub d w x :: SV.subL d w r := rfl
theorem mapG_nil (f : SV → SV) : mapG f [] = [] := rfl
theorem mapG_cons (f : SV → SV) (n : Nat) (x : SV) (r : Tb SV) : mapG f ((n, x) :: r) = (n, f x) :: mapG f r := rfl
theorem mapM_nil (f : List SV → List SV) : mapM f [] = [] := rfl
theorem mapM_box (f : List SV → List SV) (n : Nat) (cs : List SV) (r : Tb SOb) : mapM f ((n, .box cs) :: r) = (n, .box (f cs)) :: mapM f r := rfl
theorem mapM_sl {α : Type} [Enc α] (f : List SV → List SV) (n : Nat) (s : Sl α) (r : Tb SOb) : mapM f ((n, slOb s) :: r) = (n, slOb s) :: mapM f r := rfl
theorem numS_nil (i : Nat) : numS i [] = [] := rfl
theorem numS_cons (i : Nat) (v : SV) (vs : List SV) : numS i (v :: vs) = (i, v) :: numS (i + 1) vs := rfl
theorem start_eq (svs : List SV) : start svs [] = ⟨numS 0 svs, [], [], [], true, 0⟩ := rfl
end Go.VE
namespace Go.VE
section
variable {N : Nat → FuncId} {m : Tb SOb}
theorem res_nil : result [] = .tup [] := rfl
theorem res_one (x : V) : result [x] = x := rfl
theorem res_two (x y : V) (l : List V) : result (x :: y :: l) = .tup (x :: y :: l) := rfl
theorem pureS_v0 (p : POp) : pureS N m p [] = (peval N p []).bind fun x => some (.v x) := pureS_v N m p [] [] rfl
theorem pureS_v1 (p : POp) (a : V) : pureS N m p [.v a] = (peval N p [a]).bind fun x => some (.v x) := pureS_v N m p _ [a] rfl
theorem pureS_v2 (p : POp) (a b : V) : pureS N m p [.v a, .v b] = (peval N p [a, b]).bind fun x => some (.v x) := pureS_v N m p _ [a, b] rfl
theorem pureS_v3 (p : POp) (a b c : V) : pureS N m p [.v a, .v b, .v c] = (peval N p [a, b, c]).bind fun x => some (.v x) := pureS_v N m p _ [a, b, c] rfl
theorem pureS_v4 (p : POp) (a b c d : V) : pureS N m p [.v a, .v b, .v c, .v d] = (peval N p [a, b, c, d]).bind fun x => some (.v x) := pureS_v N m p _ [a, b, c, d] rfl
theorem ps_pick_true (a b : SV) : pureS N m .pick [.v (.bool true), a, b] = some a := by
  cases a <;> cases b <;> rfl
theorem ps_pick_false (a b : SV) : pureS N m .pick [.v (.bool false), a, b] = some b := by
  cases a <;> cases b <;> rfl
def cloO (N : Nat → FuncId) (n : Nat) (k : Nat) (svs : List SV) : Option (List V) → Option SV
  | some xs => some (.v (.clo (N n) (xs.take k) (xs.drop k)))
  | none => some (.clo (N n) (svs.take k) (svs.drop k))
theorem ps_clo (n : Nat) (k : Nat) (svs : List SV) : pureS N m (.clo n k) svs = cloO N n k svs (allV svs) := by
  unfold pureS; cases allV svs <;> simp [cloO, peval, pureR]
theorem cloO_some (n : Nat) (k : Nat) (svs : List SV) (xs : List V) : cloO N n k svs (some xs) = some (.v (.clo (N n) (xs.take k) (xs.drop k))) := rfl
theorem cloO_none (n : Nat) (k : Nat) (svs : List SV) : cloO N n k svs none = some (.clo (N n) (svs.take k) (svs.drop k)) := rfl
theorem allV_map (l : List V) : allV (l.map .v) = some l := by
  induction l with
  | nil => rfl
  | cons a l ih => simp only [List.map_cons, allV, ih]; rfl
theorem shutL_map (n : Nat) (l : List V) : shutL m n (l.map .v) = some l := by
  induction l with
  | nil => exact shutL_nil m n
  | cons a l ih => rw [List.map_cons, shutL_cons, shut_v, ih]; rfl
theorem cont_nil (d : Nat) : ([] : List Nat).contains d = false := rfl
theorem Sl.l_nil {α : Type} : (Sl.nil : Sl α).l = [] := rfl
theorem Sl.l_emp {α : Type} : (Sl.emp : Sl α).l = [] := rfl
theorem Sl.l_row {α : Type} (l : List α) : (Sl.row l).l = l := rfl
theorem Sl.l_part {α : Type} (l : List α) : (Sl.part l).l = l := rfl
theorem size_int : Enc.size Int = 1 := rfl
theorem size_bool : Enc.size Bool = 1 := rfl
theorem size_str : Enc.size ByteArray = 1 := rfl
theorem size_sl {α : Type} [Enc α] : Enc.size (Sl α) = 1 := rfl
theorem fillP_nil (cs : List V) : fillP cs [] [] = some cs := rfl
theorem fillP_cons (cs : List V) (off size : Nat) (pl : List (Nat × Nat)) (v : V) (vs : List V) : fillP cs ((off, size) :: pl) (v :: vs) =
    if v.cells.length = size ∧ off + v.cells.length ≤ cs.length then fillP (cs.take off ++ v.cells ++ cs.drop (off + v.cells.length)) pl vs else none := by
  simp only [fillP]
  by_cases h : v.cells.length = size <;> by_cases h2 : off + v.cells.length ≤ cs.length
  · rw [if_neg (by simp [h]; omega), if_pos ⟨h, h2⟩]
  · rw [if_pos (by simp [h]; omega), if_neg (fun q => h2 q.2)]
  · rw [if_pos (by simp [h]), if_neg (fun q => h q.1)]
  · rw [if_pos (by simp [h]), if_neg (fun q => h q.1)]
theorem cs_agg (cs : List V) : V.cells (.agg cs) = cs := rfl
theorem cs_int (k : IntKind) (n : Int) : V.cells (.int k n) = [.int k n] := rfl
theorem cs_bool (n : Bool) : V.cells (.bool n) = [.bool n] := rfl
theorem cs_str (n : ByteArray) : V.cells (.str n) = [.str n] := rfl
theorem cs_nsl : V.cells .nsl = [.nsl] := rfl
theorem cs_esl : V.cells .esl = [.esl] := rfl
theorem cs_nptr : V.cells .nptr = [.nptr] := rfl
theorem cs_fptr (cs : List V) : V.cells (.fptr cs) = [.fptr cs] := rfl
theorem cs_fmap (cs : List (V × V)) : V.cells (.fmap cs) = [.fmap cs] := rfl
theorem cs_clo (f : FuncId) (a b : List V) : V.cells (.clo f a b) = [.clo f a b] := rfl
theorem one_int (k : IntKind) (n : Int) : V.one (.int k n) = true := rfl
theorem one_bool (n : Bool) : V.one (.bool n) = true := rfl
theorem one_str (n : ByteArray) : V.one (.str n) = true := rfl
theorem one_nsl : V.one .nsl = true := rfl
theorem one_esl : V.one .esl = true := rfl
theorem one_nptr : V.one .nptr = true := rfl
theorem one_fptr (cs : List V) : V.one (.fptr cs) = true := rfl
theorem one_fmap (cs : List (V × V)) : V.one (.fmap cs) = true := rfl
theorem one_clo (f : FuncId) (a b : List V) : V.one (.clo f a b) = true := rfl
theorem scalar_sl {α : Type} [Enc α] (s : Sl α) : V.scalar (slEnc s) = (match s with | .nil | .emp => true | _ => false) := by cases s <;> rfl
theorem sc_agg (cs : List V) : V.scalar (.agg cs) = V.scalarL cs := rfl
theorem sc_tup (cs : List V) : V.scalar (.tup cs) = V.scalarL cs := rfl
theorem sc_int (k : IntKind) (n : Int) : V.scalar (.int k n) = true := rfl
theorem sc_bool (n : Bool) : V.scalar (.bool n) = true := rfl
theorem sc_str (n : ByteArray) : V.scalar (.str n) = true := rfl
theorem scL_nil : V.scalarL [] = true := rfl
theorem scL_cons (x : V) (r : List V) : V.scalarL (x :: r) = (V.scalar x && V.scalarL r) := rfl
theorem storeEl_int (g : Tb SV) (p : List Nat) (w : List (List V)) (mo : Bool) (y : Nat) (d i : Nat) (a : Int) (s : Sl Int) :
    storeEl ⟨g, m, p, w, mo, y⟩ d i 0 1 (.int .i64 a) (some (slOb s)) = (s.put i a).bind fun s' => some (.v .undef, ⟨g, tput m d (slOb s'), p, w, mo, y⟩) := storeEl_sl _ _ _ _ _ _ _ _ _ _ rfl rfl _
theorem storeEl_bool (g : Tb SV) (p : List Nat) (w : List (List V)) (mo : Bool) (y : Nat) (d i : Nat) (a : Bool) (s : Sl Bool) :
    storeEl ⟨g, m, p, w, mo, y⟩ d i 0 1 (.bool a) (some (slOb s)) = (s.put i a).bind fun s' => some (.v .undef, ⟨g, tput m d (slOb s'), p, w, mo, y⟩) := storeEl_sl _ _ _ _ _ _ _ _ _ _ rfl rfl _
theorem storeEl_str (g : Tb SV) (p : List Nat) (w : List (List V)) (mo : Bool) (y : Nat) (d i : Nat) (a : ByteArray) (s : Sl ByteArray) :
    storeEl ⟨g, m, p, w, mo, y⟩ d i 0 1 (.str a) (some (slOb s)) = (s.put i a).bind fun s' => some (.v .undef, ⟨g, tput m d (slOb s'), p, w, mo, y⟩) := storeEl_sl _ _ _ _ _ _ _ _ _ _ rfl rfl _
theorem storeEl_slc {α : Type} [Enc α] (g : Tb SV) (p : List Nat) (w : List (List V)) (mo : Bool) (y : Nat) (d i : Nat) (a : Sl α) (s : Sl (Sl α)) :
    storeEl ⟨g, m, p, w, mo, y⟩ d i 0 1 (slEnc a) (some (slOb s)) = (s.put i a).bind fun s' => some (.v .undef, ⟨g, tput m d (slOb s'), p, w, mo, y⟩) := storeEl_sl _ _ _ _ _ _ _ _ _ _ (slEnc_cells a) rfl _
theorem cs_sl {α : Type} [Enc α] (s : Sl α) : V.cells (slEnc s) = [slEnc s] := slEnc_cells s
theorem bs_gen {α : Type} [Enc α] (x : V) (a : α) (hx : x.cells = cells a) (n : Nat) (hn : n = Enc.size α) (zero : List V) (d : Nat) : allocS m (.buildSl n 1 zero [0]) [.v x] d = some (slOb (.row [a]), .own d) := by
  subst hn
  have h1 : (cells a).all V.one = true := Enc.one a
  have hl : (cells a).length = Enc.size α := Enc.len a
  simp [allocS, allV, setParts, hx, hl, h1, slOb, Sl.k, Sl.l, rows, List.replicate]
theorem bs_int (zero : List V) (d : Nat) (a : Int) : allocS m (.buildSl 1 1 zero [0]) [.v (.int .i64 a)] d = some (slOb (.row [a]), .own d) := bs_gen _ a rfl 1 rfl _ _
theorem bs_bool (zero : List V) (d : Nat) (a : Bool) : allocS m (.buildSl 1 1 zero [0]) [.v (.bool a)] d = some (slOb (.row [a]), .own d) := bs_gen _ a rfl 1 rfl _ _
theorem bs_str (zero : List V) (d : Nat) (a : ByteArray) : allocS m (.buildSl 1 1 zero [0]) [.v (.str a)] d = some (slOb (.row [a]), .own d) := bs_gen _ a rfl 1 rfl _ _
theorem bs_slc {α : Type} [Enc α] (zero : List V) (d : Nat) (a : Sl α) : allocS m (.buildSl 1 1 zero [0]) [.v (slEnc a)] d = some (slOb (.row [a]), .own d) := bs_gen _ a (slEnc_cells a) 1 rfl _ _
end
theorem Fw_out_n {ν ε ρ : Type} (eν : ν → St) (eε : ε → Nat × St) (eρ : ρ → St) (a : ν) : Fw.out eν eε eρ (.n a) = (.norm, eν a) := rfl
theorem Fw_out_x {ν ε ρ : Type} (eν : ν → St) (eε : ε → Nat × St) (eρ : ρ → St) (a : ε) : Fw.out eν eε eρ (.x a) = (.exit (eε a).1, (eε a).2) := rfl
theorem Fw_out_r {ν ε ρ : Type} (eν : ν → St) (eε : ε → Nat × St) (eρ : ρ → St) (a : ρ) : Fw.out eν eε eρ (.r a) = (.ret, eρ a) := rfl
theorem bt_true (b : Bool) : (b == true) = b := by cases b <;> rfl
theorem bt_false (b : Bool) : (b == false) = !b := by cases b <;> rfl
theorem cif_not {α : Type} (t : Bool) (a b : α) : cif (!t) a b = cif t b a := by cases t <;> rfl
theorem go_unf {S : Sys} {c : CallS} {β : Type} {Q : Out × St → Option β} {u v : RC} (h : u = v) (fs : List Fm) (st : St) : go S c Q u fs st = go S c Q v fs st := by rw [h]
end Go.VE
namespace Go.VE
section
variable {S : Sys} {c : CallS} {β γ δ : Type} {Q : Out × St → Option β} {L : Option β} {e : γ → Option β}
theorem K_cif {A : Bool → Option β} {t : Bool} {x y : Option γ} (hL : L = A t) (ha : A true = x.bind e) (hb : A false = y.bind e) : L = (cif t x y).bind e := by
  subst hL; cases t
  · exact hb
  · exact ha
theorem K_ret {r : γ} (h : L = e r) : L = (some r).bind e := h
theorem sop_on {dr : Bool} {fr : List Nat} {d : Option Nat} {gd : Option (Nat × Bool)} {now : Bool} {k : K} {as : List Arg} {st : St} (h : wanted st.g gd = some true) :
    sop S c dr fr ⟨d, gd, now, k, as, [], []⟩ st = sop S c dr fr ⟨d, none, now, k, as, [], []⟩ st := by
  unfold sop
  rw [h]
  rfl
theorem preG_nil (dr : Bool) (st : St) : preG dr [] st = some st := by cases dr <;> rfl
def trav (f : SV → Option V) : List SV → Option (List V)
  | [] => some []
  | x :: r => (f x).bind fun y => (trav f r).bind fun s => some (y :: s)
def shutF (m : Tb SOb) : Nat → SV → Option V
  | 0, x => match x with
    | .v y => some y
    | .own d => match tget m d with
      | some (.sl k es xs) => some (slV k es xs)
      | _ => none
    | .mp d => match tget m d with
      | some (.mp kvs) => some (.fmap kvs)
      | _ => none
    | _ => none
  | n + 1, x => match x with
    | .v y => some y
    | .own d => match tget m d with
      | some (.sl k es xs) => some (slV k es xs)
      | _ => none
    | .ptr d o => match tget m d with
      | some (.box cs) => match trav (shutF m n) cs with
        | some xs => if o ≤ xs.length then some (.fptr (xs.drop o)) else none
        | none => none
      | _ => none
    | .mp d => match tget m d with
      | some (.mp kvs) => some (.fmap kvs)
      | _ => none
    | .clo f a b => (trav (shutF m n) a).bind fun x => (trav (shutF m n) b).bind fun y => some (.clo f x y)
    | .tup l => (trav (shutF m n) l).bind fun x => some (.tup x)
    | _ => none
theorem shutL_F (m : Tb SOb) : ∀ (n : Nat), (∀ x, shut m n x = shutF m n x) ∧ ∀ l, shutL m n l = trav (shutF m n) l := by
  have hl : ∀ n, (∀ x, shut m n x = shutF m n x) → ∀ l, shutL m n l = trav (shutF m n) l := by
    intro n h l
    induction l with
    | nil => exact shutL_nil m n
    | cons a l ih => rw [shutL_cons, h a, ih]; rfl
  intro n
  induction n with
  | zero =>
    have h0 : ∀ x, shut m 0 x = shutF m 0 x := by
      intro x
      cases x <;> simp only [shut, shutF] <;> rfl
    exact ⟨h0, hl 0 h0⟩
  | succ n ih =>
    have h1 : ∀ x, shut m (n + 1) x = shutF m (n + 1) x := by
      intro x
      cases x with
      | ptr d o => simp only [shut, shutF, ih.2]; rfl
      | clo f a b => rw [shut_clo, ih.2, ih.2]; rfl
      | tup l => rw [shut_tup, ih.2]; rfl
      | _ => simp only [shut, shutF] <;> rfl
    exact ⟨h1, hl _ h1⟩
noncomputable def opsC (S : Sys) (c : CallS) (dr : Bool) : List Nat → List RO → (St → Option β) → St → Option β
  | _, [], k, st => k st
  | fr, o :: r, k, st => ((preG dr o.pre st).bind (sop S c dr fr o.strip)).bind fun st' => opsC S c dr (if dr then freshS fr o.strip else fr) r k (dropD o.dead st')
theorem opsC_eq (dr : Bool) : ∀ (l : List RO) (fr : List Nat) (k : St → Option β) (st : St), opsC S c dr fr l k st = (sops S c dr fr l st).bind k
  | [], _, _, _ => rfl
  | o :: r, fr, k, st => by
    simp only [opsC, sops]
    cases (preG dr o.pre st).bind (sop S c dr fr o.strip) with
    | none => rfl
    | some st' => exact opsC_eq dr r _ k _
noncomputable def cps (S : Sys) (c : CallS) : RC → (St → Option β) → (Nat → St → Option β) → (St → Option β) → St → Option β
  | .skip, n, _, _, st => n st
  | .ops l, n, _, _, st => opsC S c false [] l n st
  | .reg l, n, _, _, st => opsC S c true [] l n st
  | .seq a b, n, x, r, st => cps S c a (fun st => cps S c b n x r st) x r st
  | .cond y a b, n, x, r, st => match sarg S.N st.g y with
    | some (.v (.bool t)) => cif t (cps S c a n x r st) (cps S c b n x r st)
    | _ => none
  | .block id a, n, x, r, st => cps S c a n (fun k st => if k = id then n st else x k st) r st
  | .loop a, n, x, r, st => (loopS (sexec S c a) st).bind fun q => match q with | (.norm, st) => n st | (.exit k, st) => x k st | (.ret, st) => r st
  | .each g ps a b, n, x, r, st => (sexec S c (.each g ps a b) st).bind fun q => match q with | (.norm, st) => n st | (.exit k, st) => x k st | (.ret, st) => r st
  | .exit k, _, x, _, st => x k st
  | .ret, _, _, r, st => r st
  | .gh g a, n, x, r, st => (ghost g st).bind fun st => cps S c a n x r st
  | .hg a g, n, x, r, st => cps S c a (fun st => (ghost g st).bind n) x r st
def endC (n : St → Option β) (x : Nat → St → Option β) (r : St → Option β) : Out × St → Option β
  | (.norm, st) => n st
  | (.exit k, st) => x k st
  | (.ret, st) => r st
theorem cps_eq : ∀ (rc : RC) (n : St → Option β) (x : Nat → St → Option β) (r : St → Option β) (st : St), cps S c rc n x r st = (sexec S c rc st).bind (endC n x r) := by
  intro rc
  induction rc with
  | skip => intros; rfl
  | ops l => intro n x r st; simp only [cps, sexec, opsC_eq]; cases sops S c false [] l st <;> rfl
  | reg l => intro n x r st; simp only [cps, sexec, opsC_eq]; cases sops S c true [] l st <;> rfl
  | seq a b iha ihb =>
    intro n x r st
    simp only [cps, sexec, iha, ihb]
    cases h : sexec S c a st with
    | none => rfl
    | some q => obtain ⟨o, st'⟩ := q; cases o <;> rfl
  | cond y a b iha ihb =>
    intro n x r st
    simp only [cps, sexec, iha, ihb]
    cases sarg S.N st.g y with
    | none => rfl
    | some v => cases v with
      | v z => cases z with
        | bool t => cases t <;> rfl
        | _ => rfl
      | _ => rfl
  | block id a ih =>
    intro n x r st
    simp only [cps, sexec, ih]
    cases h : sexec S c a st with
    | none => rfl
    | some q =>
      obtain ⟨o, st'⟩ := q
      cases o with
      | exit k => simp only [Option.bind_some, endC]; split <;> rfl
      | _ => rfl
  | loop a ih =>
    intro n x r st
    simp only [cps, sexec]
    rfl
  | each g ps a b iha ihb =>
    intro n x r st
    simp only [cps]
    rfl
  | exit k => intros; rfl
  | ret => intros; rfl
  | gh g a ih =>
    intro n x r st
    simp only [cps, sexec, ih]
    cases ghost g st <;> rfl
  | hg a g ih =>
    intro n x r st
    simp only [cps, sexec, ih]
    cases h : sexec S c a st with
    | none => rfl
    | some q =>
      obtain ⟨o, st'⟩ := q
      cases o with
      | norm => simp only [Option.bind_some, endC]; cases ghost g st' <;> rfl
      | _ => rfl
section
variable (S c Q)
mutual
noncomputable def nextC : List Fm → St → Option β
  | [] => fun st => Q (.norm, st)
  | .seq b :: fs => fun st => cps S c b (nextC fs) (exitC fs) (fun st => Q (.ret, st)) st
  | .blk _ :: fs => nextC fs
  | .gst g :: fs => fun st => (ghost g st).bind (nextC fs)
noncomputable def exitC : List Fm → Nat → St → Option β
  | [] => fun k st => Q (.exit k, st)
  | .seq _ :: fs => exitC fs
  | .blk id :: fs => fun k st => if k = id then nextC fs st else exitC fs k st
  | .gst _ :: fs => exitC fs
end
noncomputable def goC (rc : RC) (fs : List Fm) (st : St) : Option β := cps S c rc (nextC S c Q fs) (exitC S c Q fs) (fun st => Q (.ret, st)) st
end
theorem K_op {dr : Bool} {q l : List RO} {fs : List Fm} {fr : List Nat} {st : St} {d : Option Nat} {gd : Option (Nat × Bool)} {now : Bool} {k : K} {as : List Arg} {dd : List Nat} {m : Option δ} {g : δ → St} {f : δ → Option γ}
    (hL : L = opsC S c dr fr q (nextC S c Q fs) st) (hq : q = ⟨d, gd, now, k, as, dd, []⟩ :: l) (hg : wanted st.g gd = some true)
    (hs : sop S c dr fr ⟨d, none, now, k, as, [], []⟩ st = m.bind fun x => some (g x))
    (h : ∀ x, opsC S c dr (if dr then freshS fr ⟨d, gd, now, k, as, [], []⟩ else fr) l (nextC S c Q fs) (dropD dd (g x)) = (f x).bind e) : L = (m.bind f).bind e := by
  subst hL hq
  simp only [opsC, RO.strip, preG_nil, Option.bind_some]
  rw [sop_on hg, hs]
  cases m with
  | none => rfl
  | some x => exact h x
theorem K_one {dr : Bool} {q l : List RO} {fs : List Fm} {fr : List Nat} {st st' : St} {d : Option Nat} {gd : Option (Nat × Bool)} {now : Bool} {k : K} {as : List Arg} {dd : List Nat} {R : Option β}
    (hL : L = opsC S c dr fr q (nextC S c Q fs) st) (hq : q = ⟨d, gd, now, k, as, dd, []⟩ :: l) (hg : wanted st.g gd = some true)
    (hs : sop S c dr fr ⟨d, none, now, k, as, [], []⟩ st = some st')
    (h : opsC S c dr (if dr then freshS fr ⟨d, gd, now, k, as, [], []⟩ else fr) l (nextC S c Q fs) (dropD dd st') = R) : L = R := by
  subst hL hq
  simp only [opsC, RO.strip, preG_nil, Option.bind_some]
  rw [sop_on hg, hs]
  exact h
section
variable {dr : Bool} {fr : List Nat} {d : Nat} {dst : Option Nat} {now : Bool} {as : List Arg} {st : St} {α : Type} [Enc α]
theorem s_p {p : POp} {svs : List SV} {m : Option δ} {v : δ → SV} (hs : sargs S.N st.g as = some svs) (hi : isSlice p = false) (h : pureS S.N st.m p svs = m.bind fun x => some (v x)) :
    sop S c dr fr ⟨dst, none, now, .p p, as, [], []⟩ st = m.bind fun x => some (putO st dst (v x)) := by
  rw [sop_p _ _ _ _ _ _ _ hi, hs]
  simp only [Option.bind_some, h]
  cases m <;> rfl
theorem s_p1 {p : POp} {svs : List SV} {v : SV} (hs : sargs S.N st.g as = some svs) (hi : isSlice p = false) (h : pureS S.N st.m p svs = some v) :
    sop S c dr fr ⟨dst, none, now, .p p, as, [], []⟩ st = some (putO st dst v) := by
  rw [sop_p _ _ _ _ _ _ _ hi, hs]
  simp only [Option.bind_some, h]
theorem s_idx {n : Nat} {s : Sl α} {k : IntKind} {i : Int} (hs : sargs S.N st.g as = some [.v (slEnc s), .v (.int k i)]) (hn : n = Enc.size α) :
    sop S c dr fr ⟨dst, none, now, .p (.idxS n), as, [], []⟩ st = (idx s i).bind fun x => some (putO st dst (.v (.fptr (cells x)))) :=
  s_p hs rfl (by rw [pureS_v2, pv_idxS s k i n hn]; cases idx s i <;> rfl)
theorem s_chk {n e : Nat} {s : Sl α} {k : IntKind} {i : Int} (hs : sargs S.N st.g as = some [.own e, .v (.int k i)]) (ho : tget st.m e = some (slOb s)) (hn : n = Enc.size α) :
    sop S c dr fr ⟨dst, none, now, .p (.idxS n), as, [], []⟩ st = (s.chk i).bind fun j => some (putO st dst (.el e j 0)) :=
  s_p hs rfl (by rw [ps_idxS, ho, idxO_sl n e s i hn])
theorem s_len {s : Sl α} (hs : sargs S.N st.g as = some [.v (slEnc s)]) : sop S c dr fr ⟨dst, none, now, .p .lenSl, as, [], []⟩ st = some (putO st dst (.v (.int .i64 s.l.length))) :=
  s_p1 hs rfl (by rw [pureS_v1, pv_lenSl]; rfl)
theorem s_lenO {e : Nat} {s : Sl α} (hs : sargs S.N st.g as = some [.own e]) (ho : tget st.m e = some (slOb s)) : sop S c dr fr ⟨dst, none, now, .p .lenSl, as, [], []⟩ st = some (putO st dst (.v (.int .i64 s.l.length))) :=
  s_p1 hs rfl (by rw [ps_lenSl, ho, lenO_sl])
theorem s_quo {q : Option KT} {u : Option Nat} {k : IntKind} {a b : Int} (hs : sargs S.N st.g as = some [.v (.int k a), .v (.int k b)]) : sop S c dr fr ⟨dst, none, now, .p (.bin q u .quo), as, [], []⟩ st = (divI k a b).bind fun x => some (putO st dst (.v (.int k x))) :=
  s_p hs rfl (by rw [pureS_v2, pv_quo]; cases divI k a b <;> rfl)
theorem s_rem {q : Option KT} {u : Option Nat} {k : IntKind} {a b : Int} (hs : sargs S.N st.g as = some [.v (.int k a), .v (.int k b)]) : sop S c dr fr ⟨dst, none, now, .p (.bin q u .rem), as, [], []⟩ st = (remI a b).bind fun x => some (putO st dst (.v (.int k x))) :=
  s_p hs rfl (by rw [pureS_v2, pv_rem]; cases remI a b <;> rfl)
theorem s_shr {q : Option KT} {u : Option Nat} {k k' : IntKind} {a b : Int} (hs : sargs S.N st.g as = some [.v (.int k a), .v (.int k' b)]) : sop S c dr fr ⟨dst, none, now, .p (.bin q u .shr), as, [], []⟩ st = (shrI k a b).bind fun x => some (putO st dst (.v (.int k x))) :=
  s_p hs rfl (by rw [pureS_v2, pv_shr]; cases shrI k a b <;> rfl)
theorem s_shl {q : Option KT} {u : Option Nat} {k k' : IntKind} {a b : Int} (hs : sargs S.N st.g as = some [.v (.int k a), .v (.int k' b)]) : sop S c dr fr ⟨dst, none, now, .p (.bin q u .shl), as, [], []⟩ st = (shlI k a b).bind fun x => some (putO st dst (.v (.int k x))) :=
  s_p hs rfl (by rw [pureS_v2, pv_shl]; cases shlI k a b <;> rfl)
theorem s_isNil {u : Option Nat} {s : Sl α} (hs : sargs S.N st.g as = some [.v (slEnc s), .v .nsl]) : sop S c dr fr ⟨dst, none, now, .p (.bin (some .slice) u .eql), as, [], []⟩ st = s.isNil.bind fun t => some (putO st dst (.v (.bool t))) :=
  s_p hs rfl (by rw [pureS_v2, pv_isNil]; cases s.isNil <;> rfl)
theorem s_notNil {u : Option Nat} {s : Sl α} (hs : sargs S.N st.g as = some [.v (slEnc s), .v .nsl]) : sop S c dr fr ⟨dst, none, now, .p (.bin (some .slice) u .neq), as, [], []⟩ st = s.isNil.bind fun t => some (putO st dst (.v (.bool !t))) :=
  s_p hs rfl (by rw [pureS_v2, pv_notNil]; cases s.isNil <;> rfl)
theorem s_isNilO {u : Option Nat} {n : Nat} {s : Sl α} (hs : sargs S.N st.g as = some [.own n, .v .nsl]) (ho : tget st.m n = some (slOb s)) : sop S c dr fr ⟨dst, none, now, .p (.bin (some .slice) u .eql), as, [], []⟩ st = s.isNil.bind fun t => some (putO st dst (.v (.bool t))) :=
  s_p hs rfl (by rw [ps_isNil, ho, isNilO_sl])
theorem s_notNilO {u : Option Nat} {n : Nat} {s : Sl α} (hs : sargs S.N st.g as = some [.own n, .v .nsl]) (ho : tget st.m n = some (slOb s)) : sop S c dr fr ⟨dst, none, now, .p (.bin (some .slice) u .neq), as, [], []⟩ st = s.isNil.bind fun t => some (putO st dst (.v (.bool !t))) :=
  s_p hs rfl (by rw [ps_notNil, ho, notNilO_sl])
theorem s_strIdx {s : ByteArray} {k : IntKind} {n : Int} (hs : sargs S.N st.g as = some [.v (.str s), .v (.int k n)]) : sop S c dr fr ⟨dst, none, now, .p .idxStr, as, [], []⟩ st = (strIdx s n).bind fun x => some (putO st dst (.v (.int .u8 x))) :=
  s_p hs rfl (by rw [pureS_v2, pv_idxStr]; cases strIdx s n <;> rfl)
theorem s_load {n e i o : Nat} {a : Bool} {s : Sl α} {v : α → V} (hs : sargs S.N st.g as = some [.el e i o]) (hd : (!dr || now || oldRead fr [.el e i o]) = true) (ho : tget st.m e = some (slOb s)) (hv : ∀ x : α, (cut (cells x) o n).bind (mk a) = some (v x)) :
    sop S c dr fr ⟨dst, none, now, .r (.load n a), as, [], []⟩ st = (s.get i).bind fun x => some (putO st dst (.v (v x))) := by
  rw [sop_r, hs]
  simp only [Option.bind_some, hd, if_true, rd_el, ho, loadEl_sl]
  cases s.get i with
  | none => rfl
  | some x =>
    simp only [Option.bind_some]
    have := hv x
    cases hc : cut (cells x) o n with
    | none => rw [hc] at this; cases this
    | some r => rw [hc] at this; simp only [Option.bind_some] at this ⊢; rw [this]; rfl
theorem s_store {n e i : Nat} {s : Sl α} {x : V} {a : α} (hs : sargs S.N st.g as = some [.el e i 0, .v x]) (hd : (!dr || now) = true) (ho : tget st.m e = some (slOb s)) (hx : x.cells = cells a) (hn : n = Enc.size α) :
    sop S c dr fr ⟨dst, none, now, .l (.store n), as, [], []⟩ st = (s.put i a).bind fun s' => some (putO { st with m := tput st.m e (slOb s') } dst (.v .undef)) := by
  rw [sop_l, hs]
  simp only [Option.bind_some, hd, if_true, ld_storeEl, ho]
  rw [storeEl_sl st.g st.pin st.want st.more st.yid e i n x a hx hn s]
  cases s.put i a <;> rfl
theorem s_make {n : Nat} {z : α} {zero : List V} {i : Int} (hs : sargs S.N st.g as = some [.v (.int .i64 i), .v (.int .i64 i)]) (hz : zero = cells z) (hn : n = Enc.size α) (hw : st.new d = true) :
    sop S c dr fr ⟨some d, none, now, .a (.makeSl n zero), as, [], []⟩ st = (mkSl i z).bind fun s => some { st with g := tput st.g d (.own d), m := tput st.m d (slOb s) } := by
  rw [sop_a, hs]
  simp only [Option.bind_some, hw, if_true]
  rw [mk_sl z i d n zero hz hn]
  cases mkSl i z <;> rfl
theorem s_app {n e u : Nat} {s : Sl α} {x : α} (hs : sargs S.N st.g as = some [.own e, .own u]) (hd : (!dr || now) = true) (ho : tget st.m e = some (slOb s)) (hu : tget st.m u = some (slOb (.row [x]))) (hn : n = Enc.size α) (hw : St.new { st with m := tdel e st.m } d = true) :
    sop S c dr fr ⟨some d, none, now, .l (.append n), as, [], []⟩ st = (app1 s x).bind fun s' => some { st with g := tput st.g d (.own d), m := tput (tdel e st.m) d (slOb s') } := by
  rw [sop_l, hs]
  simp only [Option.bind_some, hd, if_true, ld_append, els_own, ho, hu]
  rw [elsO_sl n s hn, elsO_sl n (.row [x]) hn]
  have := appO_own1 (m := st.m) st.g st.pin st.want st.more st.yid d n e s.l x hn
  simp only [Sl.l_row]
  rw [show appO st d n (.own e) (some (rows s.l)) (some (rows [x])) = _ from this]
  have ha : app1 (.row s.l) x = app1 s x := by cases s <;> rfl
  rw [ha]
  cases app1 s x with
  | none => rfl
  | some s' =>
    simp only [Option.bind_some]
    rw [if_pos hw]; rfl
theorem s_appN {n u : Nat} {x : α} {v : V} (hv : v = .nsl ∨ v = .esl) (hs : sargs S.N st.g as = some [.v v, .own u]) (hd : (!dr || now) = true) (hu : tget st.m u = some (slOb (.row [x]))) (hn : n = Enc.size α) (hw : st.new d = true) :
    sop S c dr fr ⟨some d, none, now, .l (.append n), as, [], []⟩ st = some { st with g := tput st.g d (.own d), m := tput st.m d (slOb (.row [x])) } := by
  rw [sop_l, hs]
  simp only [Option.bind_some, hd, if_true, ld_append, els_own, hu]
  rw [elsO_sl n (.row [x]) hn]
  simp only [Sl.l_row]
  rcases hv with rfl | rfl
  · rw [els_nsl, show appO st d n (.v .nsl) (some []) (some (rows [x])) = _ from appO_nil1 (m := st.m) st.g st.pin st.want st.more st.yid d n x hn]
    rw [if_pos hw]; rfl
  · rw [els_esl, show appO st d n (.v .esl) (some []) (some (rows [x])) = _ from appO_emp1 (m := st.m) st.g st.pin st.want st.more st.yid d n x hn]
    rw [if_pos hw]; rfl
theorem s_call {f : FuncId} {svs args : List SV} {cs : List V} {m : Option δ} {E : δ → List V} (hc : callC c f cs = m.bind fun r => some (E r)) (hk : S.E.keep f = false) (hs : sargs S.N st.g as = some svs) (hf : calleeS svs = some (f, args))
    (hsh : trav (shutF st.m 8) args = some cs) (hl : V.lvlL 8 cs = true) (ho : ((!dr || now) || oldArgs st.m fr args) = true) (hr : ∀ r, (V.lvl 8 (result (E r)) && ((result (E r)).scalar || (!dr && (allV args).isSome))) = true) :
    sop S c dr fr ⟨dst, none, now, .c, as, [], []⟩ st = m.bind fun r => some (putO st dst (.v (result (E r)))) := by
  rw [sop_c dr fr dst now as st svs f args hs hf, callS_c _ _ _ _ _ _ _ hk, (shutL_F st.m 8).2, hsh]
  simp only [Option.bind_some, hl, ho, Bool.and_self, if_true, hc]
  cases m with
  | none => rfl
  | some r =>
    simp only [Option.bind_some, isoRes]
    rw [if_pos (hr r)]; rfl
end
end
end Go.VE
namespace Go.VE
section
variable {S : Sys} {c : CallS} {β γ : Type} {Q : Out × St → Option β} {L : Option β} {e : γ → Option β}
theorem goC_nil (rc : RC) (st : St) : goC S c Q rc [] st = (sexec S c rc st).bind Q := by
  unfold goC
  rw [cps_eq]
  congr 1
  funext q; obtain ⟨o, st⟩ := q
  cases o <;> rfl
theorem sexec_C (rc : RC) (st : St) : sexec S c rc st = goC S c some rc [] st := by
  rw [goC_nil]; cases sexec S c rc st <;> rfl
theorem K_loop {σ ε ρ : Type} {a : RC} {fs : List Fm} {step : σ → Option (Fw σ ε ρ)} {eσ : σ → St} {eε : ε → Nat × St} {eρ : ρ → St} {s : σ} {fx : ε → Option γ} {fr : ρ → Option γ}
    (hL : L = goC S c Q (.loop a) fs (eσ s)) (h : ∀ s, goC S c some a [] (eσ s) = (step s).bind fun w => some (Fw.out eσ eε eρ w))
    (hx : ∀ x, exitC S c Q fs (eε x).1 (eε x).2 = (fx x).bind e) (hr : ∀ b, Q (.ret, eρ b) = (fr b).bind e) : L = ((wloop step s).bind (Fw.elim fx fr)).bind e := by
  subst hL
  have h1 : goC S c Q (.loop a) fs (eσ s) = (loopS (sexec S c a) (eσ s)).bind (endC (nextC S c Q fs) (exitC S c Q fs) (fun st => Q (.ret, st))) := by
    unfold goC; rw [cps_eq]; rfl
  rw [h1, loopS_wloop (step := step) (eσ := eσ) (eε := eε) (eρ := eρ) (fun s => by rw [sexec_C, h]; cases step s <;> rfl)]
  cases wloop step s with
  | none => rfl
  | some w =>
    cases w with
    | n a => cases a
    | x a => exact hx a
    | r a => exact hr a
def finC (rs : List RV) : Out × St → Option (List V)
  | (.exit _, _) => none
  | (_, st) => (resS st rs).bind (trav (shutF st.m 8))
theorem finC_eq (rs : List RV) : finF rs = finC rs := by
  funext q; obtain ⟨o, st⟩ := q
  cases o
  · simp only [finF, finC]; congr 1; funext l; exact (shutL_F st.m 8).2 l
  · rfl
  · simp only [finF, finC]; congr 1; funext l; exact (shutL_F st.m 8).2 l
theorem callC_C {S : Sys} {T : Tab} {f : FuncId} {rf : RF} (hT : T f = some rf) (as : List V) (hn : as.length ≤ rf.na) : callC (callL S T) f as = goC S (callL S T) (finC rf.rs) rf.body [] (start (as.map .v) []) := by
  rw [callC_eq hT as hn, ← sexec_go, goC_nil, finC_eq]
end
end Go.VE
namespace Go.VE
def weach {α σ ε ρ : Type} (step : α → σ → Option (Fw σ ε ρ)) : List α → σ → Option (Fw σ ε ρ)
  | [], s => some (.n s)
  | x :: xs, s => (step x s).bind fun w => match w with
    | .n s' => weach step xs s'
    | .x e => some (.x e)
    | .r b => some (.r b)
def Fw.elimE {ν ε ρ γ : Type} (fn : ν → γ) (fx : ε → γ) (fr : ρ → γ) : Fw ν ε ρ → γ
  | .n a => fn a
  | .x e => fx e
  | .r b => fr b
def Fw.outM {ν ε ρ : Type} (eν : ν → Tb SOb) (eε : ε → Nat × Tb SOb) (eρ : ρ → Tb SOb) : Fw ν ε ρ → Out × Tb SOb
  | .n a => (.norm, eν a)
  | .x e => (.exit (eε e).1, (eε e).2)
  | .r b => (.ret, eρ b)
def outM (q : Out × St) : Option (Out × Tb SOb) := some (q.1, q.2.m)
section
variable {S : Sys} {c : CallS} {β γ : Type} {Q : Out × St → Option β} {L : Option β} {e : γ → Option β}
noncomputable def eachQ (S : Sys) (c : CallS) (b : RC) : Out × St → Option (Out × Tb SOb)
  | (.norm, st) => goC S c outM b [] st
  | _ => none
theorem eachStep_C (ps : List Nat) (a b : RC) (st : St) (x : List V) (m : Tb SOb) (hx : x.length = ps.length) :
    eachStep ps (sexec S c a) (sexec S c b) st x m = goC S c (eachQ S c b) a [] ⟨tputs st.g ps (x.map .v), m, st.pin ++ namesG st.g, [], true, 0⟩ := by
  unfold eachStep
  rw [if_pos hx, goC_nil]
  cases sexec S c a ⟨tputs st.g ps (x.map .v), m, st.pin ++ namesG st.g, [], true, 0⟩ with
  | none => rfl
  | some q =>
    obtain ⟨o, st1⟩ := q
    cases o with
    | norm =>
      simp only [Option.bind_some, eachQ]
      rw [goC_nil]
      cases sexec S c b st1 <;> rfl
    | _ => rfl
theorem eachS_weach {α σ ε ρ : Type} {f : List V → Tb SOb → Option (Out × Tb SOb)} {step : α → σ → Option (Fw σ ε ρ)} {eI : α → List V} {eσ : σ → Tb SOb} {eε : ε → Nat × Tb SOb} {eρ : ρ → Tb SOb}
    (h : ∀ x s, f (eI x) (eσ s) = (step x s).bind fun w => some (Fw.outM eσ eε eρ w)) : ∀ (xs : List α) (s : σ), eachS f (xs.map eI) (eσ s) = (weach step xs s).bind fun w => some (Fw.outM eσ eε eρ w)
  | [], s => rfl
  | x :: xs, s => by
    simp only [List.map_cons, eachS, weach, h]
    cases step x s with
    | none => rfl
    | some w =>
      cases w with
      | n s' => simp only [Option.bind_some, Fw.outM]; exact eachS_weach h xs s'
      | x e => rfl
      | r b => rfl
theorem K_each {α σ ε ρ : Type} {g : Arg} {ps : List Nat} {a b : RC} {fs : List Fm} {f : FuncId} {x y : List V} {items : List α} {eI : α → List V} {step : α → σ → Option (Fw σ ε ρ)} {eσ : σ → Tb SOb} {eε : ε → Nat × Tb SOb} {eρ : ρ → Tb SOb} {gt : Tb SV} {s : σ}
    {fn : σ → Option γ} {fx : ε → Option γ} {fr : ρ → Option γ}
    (hL : L = goC S c Q (.each g ps a b) fs ⟨gt, eσ s, [], [], true, 0⟩) (hg : sarg S.N gt g = some (.v (.clo f x y))) (hi : S.items f x y = some (items.map eI)) (hl : ∀ x, (eI x).length = ps.length)
    (h : ∀ x s, goC S c (eachQ S c b) a [] ⟨tputs gt ps ((eI x).map .v), eσ s, namesG gt, [], true, 0⟩ = (step x s).bind fun w => some (Fw.outM eσ eε eρ w))
    (hn : ∀ s, nextC S c Q fs ⟨gt, eσ s, [], [], true, 0⟩ = (fn s).bind e)
    (hx : ∀ x, exitC S c Q fs (eε x).1 ⟨gt, (eε x).2, [], [], true, 0⟩ = (fx x).bind e) (hr : ∀ b, Q (.ret, ⟨gt, eρ b, [], [], true, 0⟩) = (fr b).bind e) :
    L = ((weach step items s).bind (Fw.elimE fn fx fr)).bind e := by
  subst hL
  have h1 : goC S c Q (.each g ps a b) fs ⟨gt, eσ s, [], [], true, 0⟩ = (sexec S c (.each g ps a b) ⟨gt, eσ s, [], [], true, 0⟩).bind (endC (nextC S c Q fs) (exitC S c Q fs) (fun st => Q (.ret, st))) := by
    unfold goC; rw [cps_eq]
  rw [h1]
  simp only [sexec, hg, hi]
  rw [eachS_weach (step := step) (eσ := eσ) (eε := eε) (eρ := eρ) (fun x s => by rw [eachStep_C _ _ _ _ _ _ (hl x)]; exact h x s)]
  cases weach step items s with
  | none => rfl
  | some w =>
    cases w with
    | n a => exact hn a
    | x a => exact hx a
    | r a => exact hr a
end
end Go.VE
namespace Go.VE
def Le {α : Type} (a b : Option α) : Prop := ∀ r, a = some r → b = some r
section
variable {α : Type}
theorem Le.refl (a : Option α) : Le a a := fun _ h => h
theorem Le.of_eq {a b : Option α} (h : b = a) : Le a b := fun _ h2 => h.trans h2
theorem Le.trans {a b d : Option α} (h1 : Le a b) (h2 : Le b d) : Le a d := fun r h => h2 r (h1 r h)
theorem Le.none (b : Option α) : Le (none : Option α) b := fun r h => by cases h
theorem Le.bind {β : Type} {a b : Option α} {f g : α → Option β} (h : Le a b) (hf : ∀ x, Le (f x) (g x)) : Le (a.bind f) (b.bind g) := fun r hr => by
  obtain ⟨x, h1, h2⟩ := Option.bind_eq_some_iff.1 hr
  rw [h x h1]; exact hf x r h2
end
section
variable {S : Sys} {c : CallS} {β γ δ : Type} {Q : Out × St → Option β} {L : Option β} {e : γ → Option β}
theorem Kif {A : Bool → Option β} {t : Bool} {x y : Option γ} (hL : L = A t) (ha : Le (x.bind e) (A true)) (hb : Le (y.bind e) (A false)) : Le ((cif t x y).bind e) L := by
  subst hL; cases t
  · exact hb
  · exact ha
theorem Kret {r : γ} (h : L = e r) : Le ((some r).bind e) L := Le.of_eq h
theorem Kto {L' : Option β} {m : Option γ} (h : L = L') (h2 : Le (m.bind e) L') : Le (m.bind e) L := h ▸ h2
theorem Kop {dr : Bool} {q l : List RO} {fs : List Fm} {fr : List Nat} {st : St} {d : Option Nat} {gd : Option (Nat × Bool)} {now : Bool} {k : K} {as : List Arg} {dd : List Nat} {m : Option δ} {g : δ → St} {f : δ → Option γ}
    (hL : L = opsC S c dr fr q (nextC S c Q fs) st) (hq : q = ⟨d, gd, now, k, as, dd, []⟩ :: l) (hg : wanted st.g gd = some true)
    (hs : Le (m.bind fun x => some (g x)) (sop S c dr fr ⟨d, none, now, k, as, [], []⟩ st))
    (h : ∀ x, Le ((f x).bind e) (opsC S c dr (if dr then freshS fr ⟨d, gd, now, k, as, [], []⟩ else fr) l (nextC S c Q fs) (dropD dd (g x)))) : Le ((m.bind f).bind e) L := by
  subst hL hq
  simp only [opsC, RO.strip, preG_nil, Option.bind_some]
  rw [sop_on hg]
  cases m with
  | none => exact Le.none _
  | some x => rw [hs (g x) rfl]; exact h x
theorem Kone {dr : Bool} {q l : List RO} {fs : List Fm} {fr : List Nat} {st st' : St} {d : Option Nat} {gd : Option (Nat × Bool)} {now : Bool} {k : K} {as : List Arg} {dd : List Nat} {R : Option γ}
    (hL : L = opsC S c dr fr q (nextC S c Q fs) st) (hq : q = ⟨d, gd, now, k, as, dd, []⟩ :: l) (hg : wanted st.g gd = some true)
    (hs : sop S c dr fr ⟨d, none, now, k, as, [], []⟩ st = some st')
    (h : Le (R.bind e) (opsC S c dr (if dr then freshS fr ⟨d, gd, now, k, as, [], []⟩ else fr) l (nextC S c Q fs) (dropD dd st'))) : Le (R.bind e) L := by
  subst hL hq
  simp only [opsC, RO.strip, preG_nil, Option.bind_some]
  rw [sop_on hg, hs]
  exact h
theorem s_callLe {dr : Bool} {fr : List Nat} {dst : Option Nat} {now : Bool} {as : List Arg} {st : St} {f : FuncId} {svs args : List SV} {cs : List V} {m : Option δ} {E : δ → List V} (hc : Le (m.bind fun r => some (E r)) (callC c f cs)) (hk : S.E.keep f = false) (hs : sargs S.N st.g as = some svs) (hf : calleeS svs = some (f, args))
    (hsh : trav (shutF st.m 8) args = some cs) (hl : V.lvlL 8 cs = true) (ho : ((!dr || now) || oldArgs st.m fr args) = true) (hr : ∀ r, (V.lvl 8 (result (E r)) && ((result (E r)).scalar || (!dr && (allV args).isSome))) = true) :
    Le (m.bind fun r => some (putO st dst (.v (result (E r))))) (sop S c dr fr ⟨dst, none, now, .c, as, [], []⟩ st) := by
  intro q hq
  obtain ⟨r, h1, h2⟩ := Option.bind_eq_some_iff.1 hq
  have hc' : callC c f cs = (some r).bind fun r => some (E r) := hc _ (by rw [h1]; rfl)
  rw [s_call (m := some r) hc' hk hs hf hsh hl ho hr]
  exact h2
theorem wloop_le {σ ε ρ : Type} {f : St → Option (Out × St)} {step : σ → Option (Fw σ ε ρ)} {eσ : σ → St} {eε : ε → Nat × St} {eρ : ρ → St} (h : ∀ s, Le ((step s).bind fun w => some (Fw.out eσ eε eρ w)) (f (eσ s))) (s : σ) :
    Le ((wloop step s).bind fun w => some (Fw.out (fun e => Empty.elim e) eε eρ w)) (loopS f (eσ s)) := by
  have key : ∀ k s r, wloopK step k s = some r → loopK f k (eσ s) = some (Fw.out (fun e => Empty.elim e) eε eρ r) := by
    intro k
    induction k with
    | zero => intro s r h; simp [wloopK] at h
    | succ k ih =>
      intro s r hw
      simp only [wloopK] at hw
      cases hs : step s with
      | none => rw [hs] at hw; cases hw
      | some w =>
        rw [hs] at hw
        have h2 := h s (Fw.out eσ eε eρ w) (by rw [hs]; rfl)
        simp only [loopK, h2]
        cases w with
        | n a => exact ih a r hw
        | x e => cases hw; rfl
        | r b => cases hw; rfl
  intro r hr
  obtain ⟨w, h1, h2⟩ := Option.bind_eq_some_iff.1 hr
  obtain ⟨k, hk⟩ := wloop_iff.1 h1
  cases h2
  exact loopS_iff.2 ⟨k, key k s w hk⟩
theorem Kloop {σ ε ρ : Type} {a : RC} {fs : List Fm} {step : σ → Option (Fw σ ε ρ)} {eσ : σ → St} {eε : ε → Nat × St} {eρ : ρ → St} {s : σ} {fx : ε → Option γ} {fr : ρ → Option γ}
    (hL : L = goC S c Q (.loop a) fs (eσ s)) (h : ∀ s, Le ((step s).bind fun w => some (Fw.out eσ eε eρ w)) (goC S c some a [] (eσ s)))
    (hx : ∀ x, Le ((fx x).bind e) (exitC S c Q fs (eε x).1 (eε x).2)) (hr : ∀ b, Le ((fr b).bind e) (Q (.ret, eρ b))) : Le (((wloop step s).bind (Fw.elim fx fr)).bind e) L := by
  subst hL
  have h1 : goC S c Q (.loop a) fs (eσ s) = (loopS (sexec S c a) (eσ s)).bind (endC (nextC S c Q fs) (exitC S c Q fs) (fun st => Q (.ret, st))) := by
    unfold goC; rw [cps_eq]; rfl
  rw [h1]
  have h2 := wloop_le (step := step) (f := sexec S c a) (eσ := eσ) (eε := eε) (eρ := eρ) (fun s => by rw [sexec_C]; exact h s) s
  cases hw : wloop step s with
  | none => exact Le.none _
  | some w =>
    have h3 := h2 _ (by rw [hw]; rfl)
    rw [h3]
    cases w with
    | n a => cases a
    | x a => exact hx a
    | r a => exact hr a
theorem weach_le {α σ ε ρ : Type} {f : List V → Tb SOb → Option (Out × Tb SOb)} {step : α → σ → Option (Fw σ ε ρ)} {eI : α → List V} {eσ : σ → Tb SOb} {eε : ε → Nat × Tb SOb} {eρ : ρ → Tb SOb}
    (h : ∀ x s, Le ((step x s).bind fun w => some (Fw.outM eσ eε eρ w)) (f (eI x) (eσ s))) : ∀ (xs : List α) (s : σ), Le ((weach step xs s).bind fun w => some (Fw.outM eσ eε eρ w)) (eachS f (xs.map eI) (eσ s))
  | [], s => fun r hr => hr
  | x :: xs, s => by
    simp only [List.map_cons, eachS, weach]
    cases hs : step x s with
    | none => exact Le.none _
    | some w =>
      have h2 := h x s (Fw.outM eσ eε eρ w) (by rw [hs]; rfl)
      rw [h2]
      cases w with
      | n s' => simp only [Option.bind_some, Fw.outM]; exact weach_le h xs s'
      | x e => exact Le.refl _
      | r b => exact Le.refl _
theorem Keach {α σ ε ρ : Type} {g : Arg} {ps : List Nat} {a b : RC} {fs : List Fm} {f : FuncId} {x y : List V} {items : List α} {eI : α → List V} {step : α → σ → Option (Fw σ ε ρ)} {eσ : σ → Tb SOb} {eε : ε → Nat × Tb SOb} {eρ : ρ → Tb SOb} {gt : Tb SV} {s : σ}
    {fn : σ → Option γ} {fx : ε → Option γ} {fr : ρ → Option γ}
    (hL : L = goC S c Q (.each g ps a b) fs ⟨gt, eσ s, [], [], true, 0⟩) (hg : sarg S.N gt g = some (.v (.clo f x y))) (hi : S.items f x y = some (items.map eI)) (hl : ∀ x, (eI x).length = ps.length)
    (h : ∀ x s, Le ((step x s).bind fun w => some (Fw.outM eσ eε eρ w)) (goC S c (eachQ S c b) a [] ⟨tputs gt ps ((eI x).map .v), eσ s, namesG gt, [], true, 0⟩))
    (hn : ∀ s, Le ((fn s).bind e) (nextC S c Q fs ⟨gt, eσ s, [], [], true, 0⟩))
    (hx : ∀ x, Le ((fx x).bind e) (exitC S c Q fs (eε x).1 ⟨gt, (eε x).2, [], [], true, 0⟩)) (hr : ∀ b, Le ((fr b).bind e) (Q (.ret, ⟨gt, eρ b, [], [], true, 0⟩))) :
    Le (((weach step items s).bind (Fw.elimE fn fx fr)).bind e) L := by
  subst hL
  have h1 : goC S c Q (.each g ps a b) fs ⟨gt, eσ s, [], [], true, 0⟩ = (sexec S c (.each g ps a b) ⟨gt, eσ s, [], [], true, 0⟩).bind (endC (nextC S c Q fs) (exitC S c Q fs) (fun st => Q (.ret, st))) := by
    unfold goC; rw [cps_eq]
  rw [h1]
  simp only [sexec, hg, hi]
  have h2 := weach_le (step := step) (f := eachStep ps (sexec S c a) (sexec S c b) ⟨gt, eσ s, [], [], true, 0⟩) (eI := eI) (eσ := eσ) (eε := eε) (eρ := eρ) (fun x s => by rw [eachStep_C _ _ _ _ _ _ (hl x)]; exact h x s) items s
  cases hw : weach step items s with
  | none => exact Le.none _
  | some w =>
    have h3 := h2 _ (by rw [hw]; rfl)
    rw [h3]
    cases w with
    | n a => exact hn a
    | x a => exact hx a
    | r a => exact hr a
end
end Go.VE
namespace Go.VE
inductive Fo where
  | rc (c : RC)
  | ops (dr : Bool) (fr : List Nat) (l : List RO)
  | nx
  | ex (k : Nat)
  | rt
abbrev mkS (g : Tb SV) (m : Tb SOb) : St := ⟨g, m, [], [], true, 0⟩
section
variable (S : Sys) (c : CallS) {β : Type} (Q : Out × St → Option β)
noncomputable def rn : Fo → List Fm → St → Option β
  | .rc a, fs, st => goC S c Q a fs st
  | .ops dr fr l, fs, st => opsC S c dr fr l (nextC S c Q fs) st
  | .nx, fs, st => nextC S c Q fs st
  | .ex k, fs, st => exitC S c Q fs k st
  | .rt, _, st => Q (.ret, st)
noncomputable def mstep : Fo → List Fm → St → Option (Fo × List Fm × St)
  | .rc .skip, fs, st => some (.nx, fs, st)
  | .rc (.ops l), fs, st => some (.ops false [] l, fs, st)
  | .rc (.reg l), fs, st => some (.ops true [] l, fs, st)
  | .rc (.seq a b), fs, st => some (.rc a, .seq b :: fs, st)
  | .rc (.cond y a b), fs, st => match sarg S.N st.g y with
    | some (.v (.bool true)) => some (.rc a, fs, st)
    | some (.v (.bool false)) => some (.rc b, fs, st)
    | _ => none
  | .rc (.block id a), fs, st => some (.rc a, .blk id :: fs, st)
  | .rc (.exit k), fs, st => some (.ex k, fs, st)
  | .rc .ret, fs, st => some (.rt, fs, st)
  | .rc (.gh g a), fs, st => match ghost g st with
    | some st' => some (.rc a, fs, st')
    | none => none
  | .rc (.hg a g), fs, st => some (.rc a, .gst g :: fs, st)
  | .rc (.loop _), _, _ => none
  | .rc (.each ..), _, _ => none
  | .ops _ _ [], fs, st => some (.nx, fs, st)
  | .ops dr fr (⟨d, gd, now, k, as, dd, []⟩ :: r), fs, st => match sop S c dr fr ⟨d, gd, now, k, as, [], []⟩ st with
    | some st' => some (.ops dr (if dr then freshS fr ⟨d, gd, now, k, as, [], []⟩ else fr) r, fs, dropD dd st')
    | none => none
  | .ops false fr (⟨d, gd, now, k, as, dd, x :: xs⟩ :: r), fs, st => match ghost x st with
    | some st' => some (.ops false fr (⟨d, gd, now, k, as, dd, xs⟩ :: r), fs, st')
    | none => none
  | .ops true _ (⟨_, _, _, _, _, _, _ :: _⟩ :: _), _, _ => none
  | .nx, .seq b :: fs, st => some (.rc b, fs, st)
  | .nx, .blk _ :: fs, st => some (.nx, fs, st)
  | .nx, .gst g :: fs, st => match ghost g st with
    | some st' => some (.nx, fs, st')
    | none => none
  | .nx, [], _ => none
  | .ex k, .seq _ :: fs, st => some (.ex k, fs, st)
  | .ex k, .blk id :: fs, st => some (if k = id then .nx else .ex k, fs, st)
  | .ex k, .gst _ :: fs, st => some (.ex k, fs, st)
  | .ex _, [], _ => none
  | .rt, _, _ => none
noncomputable def adv : Nat → Fo → List Fm → St → Option (Fo × List Fm × St)
  | 0, fo, fs, st => some (fo, fs, st)
  | n + 1, fo, fs, st => match mstep S c fo fs st with
    | some (fo', fs', st') => adv n fo' fs' st'
    | none => none
end
section
variable {S : Sys} {c : CallS} {β γ δ : Type} {Q : Out × St → Option β} {e : γ → Option β}
theorem mstep_ok {fo fo' : Fo} {fs fs' : List Fm} {st st' : St} (h : mstep S c fo fs st = some (fo', fs', st')) : rn S c Q fo fs st = rn S c Q fo' fs' st' := by
  cases fo with
  | rc a =>
    cases a with
    | cond y a b =>
      simp only [mstep] at h
      split at h
      · rename_i hs; cases h; simp only [rn, goC, cps, hs, cif, if_true]
      · rename_i hs; cases h; simp only [rn, goC, cps, hs, cif]; rfl
      · cases h
    | gh g a =>
      simp only [mstep] at h
      split at h
      · rename_i hs; cases h; simp only [rn, goC, cps, hs, Option.bind_some]
      · cases h
    | loop a => cases h
    | each g ps a b => cases h
    | seq a b => cases h; simp only [rn, goC, cps, nextC, exitC]
    | block id a => cases h; simp only [rn, goC, cps, nextC, exitC]
    | hg a g => cases h; simp only [rn, goC, cps, nextC, exitC]
    | _ => cases h; simp only [rn, goC, cps]
  | ops dr fr l =>
    cases l with
    | nil => cases h; simp only [rn, opsC]
    | cons o r =>
      obtain ⟨d, gd, now, k, as, dd, pre⟩ := o
      cases pre with
      | nil =>
        simp only [mstep] at h
        split at h
        · rename_i hs; cases h; simp only [rn, opsC, preG_nil, RO.strip, Option.bind_some, hs]
        · cases h
      | cons x xs =>
        cases dr with
        | true => cases h
        | false =>
          simp only [mstep] at h
          split at h
          · rename_i hs; cases h
            simp only [rn, opsC, RO.strip, preG, ghosts, Bool.false_eq_true, if_false, hs, Option.bind_some]
          · cases h
  | nx =>
    cases fs with
    | nil => cases h
    | cons f fs =>
      cases f with
      | seq b => cases h; simp only [rn, goC, nextC]
      | blk id => cases h; simp only [rn, nextC]
      | gst g =>
        simp only [mstep] at h
        split at h
        · rename_i hs; cases h; simp only [rn, nextC, hs, Option.bind_some]
        · cases h
  | ex k =>
    cases fs with
    | nil => cases h
    | cons f fs =>
      cases f with
      | seq b => cases h; simp only [rn, exitC]
      | blk id =>
        cases h
        simp only [rn, exitC]
        by_cases hk : k = id
        · simp only [if_pos hk, rn]
        · simp only [if_neg hk, rn]
      | gst g => cases h; simp only [rn, exitC]
  | rt => cases h
theorem adv_ok : ∀ {n : Nat} {fo fo' : Fo} {fs fs' : List Fm} {st st' : St}, adv S c n fo fs st = some (fo', fs', st') → rn S c Q fo fs st = rn S c Q fo' fs' st'
  | 0, fo, fo', fs, fs', st, st', h => by cases h; rfl
  | n + 1, fo, fo', fs, fs', st, st', h => by
    simp only [adv] at h
    split at h
    · rename_i a b d hs
      rw [mstep_ok hs]; exact adv_ok h
    · cases h
theorem Kadv {n : Nat} {fo fo' : Fo} {fs fs' : List Fm} {st st' : St} {m : Option β} (h : adv S c n fo fs st = some (fo', fs', st')) (h2 : Le m (rn S c Q fo' fs' st')) : Le m (rn S c Q fo fs st) := by
  rw [adv_ok h]; exact h2
theorem Kend {n : Nat} {fo fo' : Fo} {fs fs' : List Fm} {st st' : St} {r : γ} (h : adv S c n fo fs st = some (fo', fs', st')) (h2 : rn S c Q fo' fs' st' = e r) : Le ((some r).bind e) (rn S c Q fo fs st) := by
  rw [adv_ok h]; exact Le.of_eq h2
theorem KifA {n : Nat} {fo fo' : Fo} {fs fs' : List Fm} {st : St} {A : Bool → St} {t : Bool} {x y : Option γ} (h : adv S c n fo fs st = some (fo', fs', A t))
    (ha : Le (x.bind e) (rn S c Q fo' fs' (A true))) (hb : Le (y.bind e) (rn S c Q fo' fs' (A false))) : Le ((cif t x y).bind e) (rn S c Q fo fs st) := by
  rw [adv_ok h]
  cases t
  · exact hb
  · exact ha
theorem Kjoin {m : Option δ} {f : δ → Option γ} {L : Option β} (k : δ → Option β) (h2 : Le (m.bind k) L) (h1 : ∀ r, Le ((f r).bind e) (k r)) : Le ((m.bind f).bind e) L := by
  intro r hr
  cases m with
  | none => cases hr
  | some x => exact h2 r (h1 x r hr)
theorem KopA {n : Nat} {fo : Fo} {fs fs' : List Fm} {st0 : St} {dr : Bool} {q l : List RO} {fr : List Nat} {st : St} {d : Option Nat} {gd : Option (Nat × Bool)} {now : Bool} {k : K} {as : List Arg} {dd : List Nat} {m : Option δ} {g : δ → St} {f : δ → Option γ}
    (hL : adv S c n fo fs st0 = some (.ops dr fr q, fs', st)) (hq : q = ⟨d, gd, now, k, as, dd, []⟩ :: l) (hg : wanted st.g gd = some true)
    (hs : Le (m.bind fun x => some (g x)) (sop S c dr fr ⟨d, none, now, k, as, [], []⟩ st))
    (h : ∀ x, m = some x → Le ((f x).bind e) (rn S c Q (.ops dr (if dr then freshS fr ⟨d, gd, now, k, as, [], []⟩ else fr) l) fs' (dropD dd (g x)))) : Le ((m.bind f).bind e) (rn S c Q fo fs st0) := by
  rw [adv_ok hL]
  subst hq
  simp only [rn, opsC, RO.strip, preG_nil, Option.bind_some]
  rw [sop_on hg]
  cases m with
  | none => exact Le.none _
  | some x => rw [hs (g x) rfl]; exact h x rfl
theorem KoneA {n : Nat} {fo : Fo} {fs fs' : List Fm} {st0 : St} {dr : Bool} {q l : List RO} {fr : List Nat} {st st' : St} {d : Option Nat} {gd : Option (Nat × Bool)} {now : Bool} {k : K} {as : List Arg} {dd : List Nat} {m : Option β}
    (hL : adv S c n fo fs st0 = some (.ops dr fr q, fs', st)) (hq : q = ⟨d, gd, now, k, as, dd, []⟩ :: l) (hg : wanted st.g gd = some true)
    (hs : sop S c dr fr ⟨d, none, now, k, as, [], []⟩ st = some st')
    (h : Le m (rn S c Q (.ops dr (if dr then freshS fr ⟨d, gd, now, k, as, [], []⟩ else fr) l) fs' (dropD dd st'))) : Le m (rn S c Q fo fs st0) := by
  rw [adv_ok hL]
  subst hq
  simp only [rn, opsC, RO.strip, preG_nil, Option.bind_some]
  rw [sop_on hg, hs]
  exact h
theorem KloopA {n : Nat} {fo : Fo} {fs0 : List Fm} {st : St} {σ ε ρ : Type} {a : RC} {fs : List Fm} {step : σ → Option (Fw σ ε ρ)} {eσ : σ → St} {eε : ε → Nat × St} {eρ : ρ → St} {s : σ} {fx : ε → Option γ} {fr : ρ → Option γ}
    (hL : adv S c n fo fs0 st = some (.rc (.loop a), fs, eσ s)) (h : ∀ s, Le ((step s).bind fun w => some (Fw.out eσ eε eρ w)) (rn S c some (.rc a) [] (eσ s)))
    (hx : ∀ x, Le ((fx x).bind e) (rn S c Q (.ex (eε x).1) fs (eε x).2)) (hr : ∀ b, Le ((fr b).bind e) (Q (.ret, eρ b))) : Le (((wloop step s).bind (Fw.elim fx fr)).bind e) (rn S c Q fo fs0 st) := by
  rw [adv_ok hL]
  exact Kloop (L := rn S c Q (.rc (.loop a)) fs (eσ s)) rfl h hx hr
theorem KeachA {n : Nat} {fo : Fo} {fs0 : List Fm} {st : St} {α σ ε ρ : Type} {g : Arg} {ps : List Nat} {a b : RC} {fs : List Fm} {f : FuncId} {x y : List V} {items : List α} {eI : α → List V} {step : α → σ → Option (Fw σ ε ρ)} {eσ : σ → Tb SOb} {eε : ε → Nat × Tb SOb} {eρ : ρ → Tb SOb} {gt : Tb SV} {s : σ}
    {fn : σ → Option γ} {fx : ε → Option γ} {fr : ρ → Option γ}
    (hL : adv S c n fo fs0 st = some (.rc (.each g ps a b), fs, mkS gt (eσ s))) (hg : sarg S.N gt g = some (.v (.clo f x y))) (hi : S.items f x y = some (items.map eI)) (hl : ∀ x, (eI x).length = ps.length)
    (h : ∀ x s, Le ((step x s).bind fun w => some (Fw.outM eσ eε eρ w)) (rn S c (eachQ S c b) (.rc a) [] ⟨tputs gt ps ((eI x).map .v), eσ s, namesG gt, [], true, 0⟩))
    (hn : ∀ s, Le ((fn s).bind e) (rn S c Q .nx fs (mkS gt (eσ s))))
    (hx : ∀ x, Le ((fx x).bind e) (rn S c Q (.ex (eε x).1) fs (mkS gt (eε x).2))) (hr : ∀ b, Le ((fr b).bind e) (Q (.ret, mkS gt (eρ b)))) :
    Le (((weach step items s).bind (Fw.elimE fn fx fr)).bind e) (rn S c Q fo fs0 st) := by
  rw [adv_ok hL]
  exact Keach (L := rn S c Q (.rc (.each g ps a b)) fs (mkS gt (eσ s))) rfl hg hi hl h hn hx hr
theorem KeachQ {b : RC} {st st' : St} {m : Option (Out × Tb SOb)} {fs : List Fm} {n : Nat} {fo : Fo} (h : adv S c n fo fs st = some (.nx, [], st')) (h2 : Le m (rn S c outM (.rc b) [] st')) : Le m (rn S c (eachQ S c b) fo fs st) := by
  rw [adv_ok h]; exact h2
theorem KoptA {α : Type} {n : Nat} {fo fo' : Fo} {fs fs' : List Fm} {st : St} {A : Option α → St} {o : Option α} {f : α → Option γ} (h : adv S c n fo fs st = some (fo', fs', A o))
    (h2 : ∀ x, o = some x → Le ((f x).bind e) (rn S c Q fo' fs' (A (some x)))) : Le ((o.bind f).bind e) (rn S c Q fo fs st) := by
  rw [adv_ok h]
  cases o with
  | none => exact Le.none _
  | some x => exact h2 x rfl
theorem Kfun {T : Tab} {f : FuncId} {rf : RF} {as : List V} {m : Option (List V)} (hT : T f = some rf) (hn : as.length ≤ rf.na) (h : Le m (rn S (callL S T) (finC rf.rs) (.rc rf.body) [] (start (as.map .v) []))) : Le m (callC (callL S T) f as) := by
  rw [callC_C hT as hn]; exact h
theorem Kfin {r : γ} {L : Option β} (h : L = e r) : Le ((some r).bind e) L := Le.of_eq h
end
section
variable {α : Type} [Enc α]
abbrev cv (x : α) : SV := .v (enc x)
abbrev cp (x : α) : SV := .v (.fptr (cells x))
abbrev bx (x : α) : SOb := .box ((cells x).map .v)
end
abbrev uv : SV := .v .undef
end Go.VE
namespace Go.VE
structure Fun (S : Sys) (c : CallS) {α δ : Type} (fn : FuncId) (A : α → List V) (E : δ → List V) (p : α → Option δ) (sc : Bool) : Prop where
  k : S.E.keep fn = false
  h : ∀ z, Le ((p z).bind fun r => some (E r)) (callC c fn (A z))
  l : ∀ z, V.lvlL 8 (A z) = true
  r : ∀ r, V.lvl 8 (result (E r)) = true
  s : sc = true → ∀ r, (result (E r)).scalar = true
section
variable {S : Sys} {c : CallS} {β γ δ α : Type} {Q : Out × St → Option β} {e : γ → Option β} {fo : Fo} {fs : List Fm} {st0 : St} {l : List RO} {d : Option Nat} {gd : Option (Nat × Bool)} {now : Bool} {as : List Arg} {dd : List Nat}
noncomputable abbrev aft (S : Sys) (c : CallS) (Q : Out × St → Option β) (dr : Bool) (fr : List Nat) (d : Option Nat) (k : K) (l : List RO) (fs : List Fm) (dd : List Nat) (st : St) : Option β :=
  rn S c Q (.ops dr (if dr then (match k with | .p _ | .r _ => fr | _ => match d with | some d => d :: fr | none => fr) else fr) l) fs (dropD dd st)
theorem freshS_eq (fr : List Nat) (k : K) : freshS fr ⟨d, gd, now, k, as, [], []⟩ = (match k with | .p _ | .r _ => fr | _ => match d with | some d => d :: fr | none => fr) := by
  cases k <;> cases d <;> rfl
theorem KopB {n : Nat} {dr : Bool} {fr : List Nat} {q : List RO} {fs' : List Fm} {st : St} {k : K} {m : Option δ} {g : δ → St} {f : δ → Option γ}
    (hL : adv S c n fo fs st0 = some (.ops dr fr q, fs', st)) (hq : q = ⟨d, gd, now, k, as, dd, []⟩ :: l) (hg : wanted st.g gd = some true)
    (hs : Le (m.bind fun x => some (g x)) (sop S c dr fr ⟨d, none, now, k, as, [], []⟩ st))
    (h : ∀ x, m = some x → Le ((f x).bind e) (aft S c Q dr fr d k l fs' dd (g x))) : Le ((m.bind f).bind e) (rn S c Q fo fs st0) :=
  KopA hL hq hg hs (fun x hx => by rw [freshS_eq]; exact h x hx)
theorem KoneB {n : Nat} {dr : Bool} {fr : List Nat} {q : List RO} {fs' : List Fm} {st st' : St} {k : K} {m : Option β}
    (hL : adv S c n fo fs st0 = some (.ops dr fr q, fs', st)) (hq : q = ⟨d, gd, now, k, as, dd, []⟩ :: l) (hg : wanted st.g gd = some true)
    (hs : sop S c dr fr ⟨d, none, now, k, as, [], []⟩ st = some st') (h : Le m (aft S c Q dr fr d k l fs' dd st')) : Le m (rn S c Q fo fs st0) :=
  KoneA hL hq hg hs (by rw [freshS_eq]; exact h)
section
variable [Enc α]
theorem Aidx (n : Nat) (dr : Bool) (fr : List Nat) (q : List RO) (fs' : List Fm) (st : St) (k : IntKind) {sz : Nat} {s : Sl α} {i : Int} {f : α → Option γ} (hq : q = ⟨d, gd, now, .p (.idxS sz), as, dd, []⟩ :: l)
    (hL : (adv S c n fo fs st0, wanted st.g gd, sargs S.N st.g as, sz) = (some (.ops dr fr q, fs', st), some true, some [.v (slEnc s), .v (.int k i)], Enc.size α))
    (h : ∀ x, idx s i = some x → Le ((f x).bind e) (aft S c Q dr fr d (.p (.idxS sz)) l fs' dd (putO st d (cp x)))) : Le (((idx s i).bind f).bind e) (rn S c Q fo fs st0) := by
  simp only [Prod.mk.injEq] at hL
  exact KopB hL.1 hq hL.2.1 (Le.of_eq (s_idx hL.2.2.1 hL.2.2.2)) h
theorem Achk (n : Nat) (dr : Bool) (fr : List Nat) (q : List RO) (fs' : List Fm) (st : St) (k : IntKind) (u : Nat) {sz : Nat} {s : Sl α} {i : Int} {f : Nat → Option γ} (hq : q = ⟨d, gd, now, .p (.idxS sz), as, dd, []⟩ :: l)
    (hL : (adv S c n fo fs st0, wanted st.g gd, sargs S.N st.g as, tget st.m u, sz) = (some (.ops dr fr q, fs', st), some true, some [.own u, .v (.int k i)], some (slOb s), Enc.size α))
    (h : ∀ x, s.chk i = some x → Le ((f x).bind e) (aft S c Q dr fr d (.p (.idxS sz)) l fs' dd (putO st d (.el u x 0)))) : Le (((s.chk i).bind f).bind e) (rn S c Q fo fs st0) := by
  simp only [Prod.mk.injEq] at hL
  exact KopB hL.1 hq hL.2.1 (Le.of_eq (s_chk hL.2.2.1 hL.2.2.2.1 hL.2.2.2.2)) h
theorem Aget (n : Nat) (dr : Bool) (fr : List Nat) (q : List RO) (fs' : List Fm) (st : St) (u o : Nat) (v : α → V) {sz : Nat} {a : Bool} {s : Sl α} {i : Nat} {f : α → Option γ} (hq : q = ⟨d, gd, now, .r (.load sz a), as, dd, []⟩ :: l)
    (hL : (adv S c n fo fs st0, wanted st.g gd, sargs S.N st.g as, tget st.m u, (!dr || now || oldRead fr [.el u i o])) = (some (.ops dr fr q, fs', st), some true, some [.el u i o], some (slOb s), true)) (hv : ∀ x : α, (cut (cells x) o sz).bind (mk a) = some (v x))
    (h : ∀ x, s.get i = some x → Le ((f x).bind e) (aft S c Q dr fr d (.r (.load sz a)) l fs' dd (putO st d (.v (v x))))) : Le (((s.get i).bind f).bind e) (rn S c Q fo fs st0) := by
  simp only [Prod.mk.injEq] at hL
  exact KopB hL.1 hq hL.2.1 (Le.of_eq (s_load hL.2.2.1 hL.2.2.2.2 hL.2.2.2.1 hv)) h
theorem Aput (n : Nat) (dr : Bool) (fr : List Nat) (q : List RO) (fs' : List Fm) (st : St) (u : Nat) (x : V) {sz : Nat} {s : Sl α} {i : Nat} {a : α} {f : Sl α → Option γ} (hq : q = ⟨d, gd, now, .l (.store sz), as, dd, []⟩ :: l)
    (hL : (adv S c n fo fs st0, wanted st.g gd, sargs S.N st.g as, tget st.m u, (!dr || now), x.cells, sz) = (some (.ops dr fr q, fs', st), some true, some [.el u i 0, .v x], some (slOb s), true, cells a, Enc.size α))
    (h : ∀ s', s.put i a = some s' → Le ((f s').bind e) (aft S c Q dr fr d (.l (.store sz)) l fs' dd (putO { st with m := tput st.m u (slOb s') } d (.v .undef)))) : Le (((s.put i a).bind f).bind e) (rn S c Q fo fs st0) := by
  simp only [Prod.mk.injEq] at hL
  exact KopB hL.1 hq hL.2.1 (Le.of_eq (s_store hL.2.2.1 hL.2.2.2.2.1 hL.2.2.2.1 hL.2.2.2.2.2.1 hL.2.2.2.2.2.2)) h
theorem Amk (n : Nat) (dr : Bool) (fr : List Nat) (q : List RO) (fs' : List Fm) (st : St) {u : Nat} {sz : Nat} {zero : List V} {i : Int} {z : α} {f : Sl α → Option γ} (hq : q = ⟨some u, gd, now, .a (.makeSl sz zero), as, dd, []⟩ :: l)
    (hn : st.new u = true) (hL : (adv S c n fo fs st0, wanted st.g gd, sargs S.N st.g as, zero, sz) = (some (.ops dr fr q, fs', st), some true, some [.v (.int .i64 i), .v (.int .i64 i)], cells z, Enc.size α))
    (h : ∀ s', mkSl i z = some s' → Le ((f s').bind e) (aft S c Q dr fr (some u) (.a (.makeSl sz zero)) l fs' dd { st with g := tput st.g u (.own u), m := tput st.m u (slOb s') })) : Le (((mkSl i z).bind f).bind e) (rn S c Q fo fs st0) := by
  simp only [Prod.mk.injEq] at hL
  exact KopB hL.1 hq hL.2.1 (Le.of_eq (s_make hL.2.2.1 hL.2.2.2.1 hL.2.2.2.2 hn)) h
theorem Aapp (n : Nat) (dr : Bool) (fr : List Nat) (q : List RO) (fs' : List Fm) (st : St) (o w : Nat) {u : Nat} {sz : Nat} {s : Sl α} {x : α} {f : Sl α → Option γ} (hq : q = ⟨some u, gd, now, .l (.append sz), as, dd, []⟩ :: l)
    (hn : St.new { st with m := tdel o st.m } u = true) (hL : (adv S c n fo fs st0, wanted st.g gd, sargs S.N st.g as, (!dr || now), tget st.m o, tget st.m w, sz) = (some (.ops dr fr q, fs', st), some true, some [.own o, .own w], true, some (slOb s), some (slOb (.row [x])), Enc.size α))
    (h : ∀ s', app1 s x = some s' → Le ((f s').bind e) (aft S c Q dr fr (some u) (.l (.append sz)) l fs' dd { st with g := tput st.g u (.own u), m := tput (tdel o st.m) u (slOb s') })) : Le (((app1 s x).bind f).bind e) (rn S c Q fo fs st0) := by
  simp only [Prod.mk.injEq] at hL
  exact KopB hL.1 hq hL.2.1 (Le.of_eq (s_app hL.2.2.1 hL.2.2.2.1 hL.2.2.2.2.1 hL.2.2.2.2.2.1 hL.2.2.2.2.2.2 hn)) h
theorem AappN (n : Nat) (dr : Bool) (fr : List Nat) (q : List RO) (fs' : List Fm) (st : St) (w : Nat) (v : V) (x : α) {u : Nat} {sz : Nat} {m : Option β} (hv : v = .nsl ∨ v = .esl) (hq : q = ⟨some u, gd, now, .l (.append sz), as, dd, []⟩ :: l)
    (hn : st.new u = true) (hL : (adv S c n fo fs st0, wanted st.g gd, sargs S.N st.g as, (!dr || now), tget st.m w, sz) = (some (.ops dr fr q, fs', st), some true, some [.v v, .own w], true, some (slOb (.row [x])), Enc.size α))
    (h : Le m (aft S c Q dr fr (some u) (.l (.append sz)) l fs' dd { st with g := tput st.g u (.own u), m := tput st.m u (slOb (.row [x])) })) : Le m (rn S c Q fo fs st0) := by
  simp only [Prod.mk.injEq] at hL
  exact KoneB hL.1 hq hL.2.1 (s_appN hv hL.2.2.1 hL.2.2.2.1 hL.2.2.2.2.1 hL.2.2.2.2.2 hn) h
theorem Alen (n : Nat) (dr : Bool) (fr : List Nat) (q : List RO) (fs' : List Fm) (st : St) (s : Sl α) {m : Option β} (hq : q = ⟨d, gd, now, .p .lenSl, as, dd, []⟩ :: l)
    (hL : (adv S c n fo fs st0, wanted st.g gd, sargs S.N st.g as) = (some (.ops dr fr q, fs', st), some true, some [.v (slEnc s)]))
    (h : Le m (aft S c Q dr fr d (.p .lenSl) l fs' dd (putO st d (.v (.int .i64 s.l.length))))) : Le m (rn S c Q fo fs st0) := by
  simp only [Prod.mk.injEq] at hL
  exact KoneB hL.1 hq hL.2.1 (s_len hL.2.2) h
theorem AlenO (n : Nat) (dr : Bool) (fr : List Nat) (q : List RO) (fs' : List Fm) (st : St) (u : Nat) (s : Sl α) {m : Option β} (hq : q = ⟨d, gd, now, .p .lenSl, as, dd, []⟩ :: l)
    (hL : (adv S c n fo fs st0, wanted st.g gd, sargs S.N st.g as, tget st.m u) = (some (.ops dr fr q, fs', st), some true, some [.own u], some (slOb s)))
    (h : Le m (aft S c Q dr fr d (.p .lenSl) l fs' dd (putO st d (.v (.int .i64 s.l.length))))) : Le m (rn S c Q fo fs st0) := by
  simp only [Prod.mk.injEq] at hL
  exact KoneB hL.1 hq hL.2.1 (s_lenO hL.2.2.1 hL.2.2.2) h
theorem Anil (n : Nat) (dr : Bool) (fr : List Nat) (q : List RO) (fs' : List Fm) (st : St) {u : Option Nat} {s : Sl α} {f : Bool → Option γ} (hq : q = ⟨d, gd, now, .p (.bin (some .slice) u .eql), as, dd, []⟩ :: l)
    (hL : (adv S c n fo fs st0, wanted st.g gd, sargs S.N st.g as) = (some (.ops dr fr q, fs', st), some true, some [.v (slEnc s), .v .nsl]))
    (h : ∀ t, s.isNil = some t → Le ((f t).bind e) (aft S c Q dr fr d (.p (.bin (some .slice) u .eql)) l fs' dd (putO st d (.v (.bool t))))) : Le ((s.isNil.bind f).bind e) (rn S c Q fo fs st0) := by
  simp only [Prod.mk.injEq] at hL
  exact KopB hL.1 hq hL.2.1 (Le.of_eq (s_isNil hL.2.2)) h
theorem AnilN (n : Nat) (dr : Bool) (fr : List Nat) (q : List RO) (fs' : List Fm) (st : St) {u : Option Nat} {s : Sl α} {f : Bool → Option γ} (hq : q = ⟨d, gd, now, .p (.bin (some .slice) u .neq), as, dd, []⟩ :: l)
    (hL : (adv S c n fo fs st0, wanted st.g gd, sargs S.N st.g as) = (some (.ops dr fr q, fs', st), some true, some [.v (slEnc s), .v .nsl]))
    (h : ∀ t, s.isNil = some t → Le ((f t).bind e) (aft S c Q dr fr d (.p (.bin (some .slice) u .neq)) l fs' dd (putO st d (.v (.bool !t))))) : Le ((s.isNil.bind f).bind e) (rn S c Q fo fs st0) := by
  simp only [Prod.mk.injEq] at hL
  exact KopB hL.1 hq hL.2.1 (Le.of_eq (s_notNil hL.2.2)) h
end
section
variable {q : List RO} {fs' : List Fm}
theorem Aquo (n : Nat) (dr : Bool) (fr : List Nat) (q : List RO) (fs' : List Fm) (st : St) {k : IntKind} {kt : Option KT} {u : Option Nat} {a b : Int} {f : Int → Option γ} (hq : q = ⟨d, gd, now, .p (.bin kt u .quo), as, dd, []⟩ :: l)
    (hL : (adv S c n fo fs st0, wanted st.g gd, sargs S.N st.g as) = (some (.ops dr fr q, fs', st), some true, some [.v (.int k a), .v (.int k b)]))
    (h : ∀ x, divI k a b = some x → Le ((f x).bind e) (aft S c Q dr fr d (.p (.bin kt u .quo)) l fs' dd (putO st d (.v (.int k x))))) : Le (((divI k a b).bind f).bind e) (rn S c Q fo fs st0) := by
  simp only [Prod.mk.injEq] at hL
  exact KopB hL.1 hq hL.2.1 (Le.of_eq (s_quo hL.2.2)) h
theorem Arem (n : Nat) (dr : Bool) (fr : List Nat) (q : List RO) (fs' : List Fm) (st : St) (k : IntKind) {kt : Option KT} {u : Option Nat} {a b : Int} {f : Int → Option γ} (hq : q = ⟨d, gd, now, .p (.bin kt u .rem), as, dd, []⟩ :: l)
    (hL : (adv S c n fo fs st0, wanted st.g gd, sargs S.N st.g as) = (some (.ops dr fr q, fs', st), some true, some [.v (.int k a), .v (.int k b)]))
    (h : ∀ x, remI a b = some x → Le ((f x).bind e) (aft S c Q dr fr d (.p (.bin kt u .rem)) l fs' dd (putO st d (.v (.int k x))))) : Le (((remI a b).bind f).bind e) (rn S c Q fo fs st0) := by
  simp only [Prod.mk.injEq] at hL
  exact KopB hL.1 hq hL.2.1 (Le.of_eq (s_rem hL.2.2)) h
theorem Ashr (n : Nat) (dr : Bool) (fr : List Nat) (q : List RO) (fs' : List Fm) (st : St) (k' : IntKind) {k : IntKind} {kt : Option KT} {u : Option Nat} {a b : Int} {f : Int → Option γ} (hq : q = ⟨d, gd, now, .p (.bin kt u .shr), as, dd, []⟩ :: l)
    (hL : (adv S c n fo fs st0, wanted st.g gd, sargs S.N st.g as) = (some (.ops dr fr q, fs', st), some true, some [.v (.int k a), .v (.int k' b)]))
    (h : ∀ x, shrI k a b = some x → Le ((f x).bind e) (aft S c Q dr fr d (.p (.bin kt u .shr)) l fs' dd (putO st d (.v (.int k x))))) : Le (((shrI k a b).bind f).bind e) (rn S c Q fo fs st0) := by
  simp only [Prod.mk.injEq] at hL
  exact KopB hL.1 hq hL.2.1 (Le.of_eq (s_shr hL.2.2)) h
theorem Ashl (n : Nat) (dr : Bool) (fr : List Nat) (q : List RO) (fs' : List Fm) (st : St) (k' : IntKind) {k : IntKind} {kt : Option KT} {u : Option Nat} {a b : Int} {f : Int → Option γ} (hq : q = ⟨d, gd, now, .p (.bin kt u .shl), as, dd, []⟩ :: l)
    (hL : (adv S c n fo fs st0, wanted st.g gd, sargs S.N st.g as) = (some (.ops dr fr q, fs', st), some true, some [.v (.int k a), .v (.int k' b)]))
    (h : ∀ x, shlI k a b = some x → Le ((f x).bind e) (aft S c Q dr fr d (.p (.bin kt u .shl)) l fs' dd (putO st d (.v (.int k x))))) : Le (((shlI k a b).bind f).bind e) (rn S c Q fo fs st0) := by
  simp only [Prod.mk.injEq] at hL
  exact KopB hL.1 hq hL.2.1 (Le.of_eq (s_shl hL.2.2)) h
theorem Achr (n : Nat) (dr : Bool) (fr : List Nat) (q : List RO) (fs' : List Fm) (st : St) (k : IntKind) {a : ByteArray} {b : Int} {f : Int → Option γ} (hq : q = ⟨d, gd, now, .p .idxStr, as, dd, []⟩ :: l)
    (hL : (adv S c n fo fs st0, wanted st.g gd, sargs S.N st.g as) = (some (.ops dr fr q, fs', st), some true, some [.v (.str a), .v (.int k b)]))
    (h : ∀ x, strIdx a b = some x → Le ((f x).bind e) (aft S c Q dr fr d (.p .idxStr) l fs' dd (putO st d (.v (.int .u8 x))))) : Le (((strIdx a b).bind f).bind e) (rn S c Q fo fs st0) := by
  simp only [Prod.mk.injEq] at hL
  exact KopB hL.1 hq hL.2.1 (Le.of_eq (s_strIdx hL.2.2)) h
end
theorem trav_v (m : Tb SOb) (n : Nat) (l : List V) : trav (shutF m n) (l.map .v) = some l := by rw [← (shutL_F m n).2, shutL_map]
variable {A : α → List V} {E : δ → List V} {p : α → Option δ} {fn : FuncId} {sc : Bool}
theorem AcallS (n : Nat) (dr : Bool) (fr : List Nat) (q : List RO) (fs' : List Fm) (st : St) (F : Fun S c fn A E p true) (z : α) (svs args : List SV) {f : δ → Option γ} (hq : q = ⟨d, gd, now, .c, as, dd, []⟩ :: l)
    (hL : (adv S c n fo fs st0, wanted st.g gd, sargs S.N st.g as, calleeS svs, trav (shutF st.m 8) args, ((!dr || now) || oldArgs st.m fr args)) = (some (.ops dr fr q, fs', st), some true, some svs, some (fn, args), some (A z), true))
    (h : ∀ x, p z = some x → Le ((f x).bind e) (aft S c Q dr fr d .c l fs' dd (putO st d (.v (result (E x)))))) : Le (((p z).bind f).bind e) (rn S c Q fo fs st0) := by
  simp only [Prod.mk.injEq] at hL
  exact KopB hL.1 hq hL.2.1 (s_callLe (F.h z) F.k hL.2.2.1 hL.2.2.2.1 hL.2.2.2.2.1 (F.l z) hL.2.2.2.2.2 (fun r => by rw [F.r, F.s rfl]; rfl)) h
theorem AcallV (n : Nat) (fr : List Nat) (q : List RO) (fs' : List Fm) (st : St) (F : Fun S c fn A E p sc) (z : α) {f : δ → Option γ} (hq : q = ⟨d, gd, now, .c, as, dd, []⟩ :: l)
    (hL : (adv S c n fo fs st0, wanted st.g gd, sargs S.N st.g as) = (some (.ops false fr q, fs', st), some true, some (.v (.clo fn [] []) :: (A z).map .v)))
    (h : ∀ x, p z = some x → Le ((f x).bind e) (aft S c Q false fr d .c l fs' dd (putO st d (.v (result (E x)))))) : Le (((p z).bind f).bind e) (rn S c Q fo fs st0) := by
  simp only [Prod.mk.injEq] at hL
  have hc : calleeS (.v (.clo fn [] []) :: (A z).map .v) = some (fn, (A z).map .v) := by simp [calleeS]
  exact KopB hL.1 hq hL.2.1 (s_callLe (F.h z) F.k hL.2.2 hc (trav_v _ _ _) (F.l z) rfl (fun r => by rw [F.r, allV_map]; simp)) h
theorem AcallW (n : Nat) (dr : Bool) (fr : List Nat) (q : List RO) (fs' : List Fm) (st : St) (F : Fun S c fn A E p true) (z : α) (en as' : List V) {f : δ → Option γ} (hq : q = ⟨d, gd, now, .c, as, dd, []⟩ :: l) (hA : A z = as' ++ en)
    (hL : (adv S c n fo fs st0, wanted st.g gd, sargs S.N st.g as, (!dr || now || oldArgs st.m fr [])) = (some (.ops dr fr q, fs', st), some true, some (.v (.clo fn [] en) :: as'.map .v), true))
    (h : ∀ x, p z = some x → Le ((f x).bind e) (aft S c Q dr fr d .c l fs' dd (putO st d (.v (result (E x)))))) : Le (((p z).bind f).bind e) (rn S c Q fo fs st0) := by
  simp only [Prod.mk.injEq] at hL
  have hc : calleeS (.v (.clo fn [] en) :: as'.map .v) = some (fn, (A z).map .v) := by rw [hA]; simp [calleeS]
  have hnil : ∀ d (vs : List V), SV.saysL d (vs.map .v) = false := fun d vs => by
    induction vs with
    | nil => rfl
    | cons a l ih => simp only [List.map_cons, SV.saysL, SV.says, ih, Bool.or_self]
  have ho : (!dr || now || oldArgs st.m fr ((A z).map .v)) = true := by
    have : oldArgs st.m fr ((A z).map .v) = oldArgs st.m fr [] := by unfold oldArgs; simp only [hnil]; rfl
    rw [this]; exact hL.2.2.2
  exact KopB hL.1 hq hL.2.1 (s_callLe (F.h z) F.k hL.2.2.1 hc (trav_v _ _ _) (F.l z) ho (fun r => by rw [F.r, F.s rfl]; rfl)) h
theorem Apick [Enc α] (n : Nat) (dr : Bool) (fr : List Nat) (q : List RO) (fs' : List Fm) (st : St) (t : Bool) (x y : α) {m : Option β} (hq : q = ⟨d, gd, now, .p .pick, as, dd, []⟩ :: l)
    (hL : (adv S c n fo fs st0, wanted st.g gd, sargs S.N st.g as) = (some (.ops dr fr q, fs', st), some true, some [.v (.bool t), cv x, cv y]))
    (h : Le m (aft S c Q dr fr d (.p .pick) l fs' dd (putO st d (cv (cif t x y))))) : Le m (rn S c Q fo fs st0) := by
  simp only [Prod.mk.injEq] at hL
  refine KoneB hL.1 hq hL.2.1 (s_p1 hL.2.2 rfl ?_) h
  rw [pureS_v3]; cases t <;> rfl
end
end Go.VE
namespace Go.VE
abbrev iv (n : Int) : SV := .v (.int .i64 n)
abbrev bv (b : Bool) : SV := .v (.bool b)
abbrev len {α : Type} (s : Sl α) : Int := ((List.length (Sl.l s) : Nat) : Int)
abbrev o1 (d : Nat) (a : Arg) (dd : List Nat) : RO := ⟨some d, none, false, .p .id, [a], dd, []⟩
abbrev o2 (d : Nat) (k : K) (as : List Arg) (dd : List Nat) : RO := ⟨some d, none, false, k, as, dd, []⟩
abbrev o3 (d s : Nat) (b : Bool) (k : K) (as : List Arg) (dd : List Nat) : RO := ⟨some d, some (s, b), false, k, as, dd, []⟩
def ev2 (a b : EventId) : Bool := [a.proc, a.index] == [b.proc, b.index]
mutual
theorem lvl_up : ∀ {n : Nat} {x : V}, V.lvl n x = true → V.lvl (n + 1) x = true
  | 0, .fsl .., h => by simp [V.lvl] at h
  | 0, .fptr .., h => by simp [V.lvl] at h
  | 0, .fmap .., h => by simp [V.lvl] at h
  | 0, .agg .., h => by simp [V.lvl] at h
  | 0, .tup .., h => by simp [V.lvl] at h
  | 0, .clo .., h => by simp [V.lvl] at h
  | n + 1, .fsl es xs, h => by simp only [V.lvl] at h ⊢; exact lvlLL_up h
  | n + 1, .fptr cs, h => by simp only [V.lvl] at h ⊢; exact lvlL_up h
  | n + 1, .fmap kvs, h => by simp only [V.lvl] at h ⊢; exact lvlM_up h
  | n + 1, .agg cs, h => by simp only [V.lvl] at h ⊢; exact lvlL_up h
  | n + 1, .tup cs, h => by simp only [V.lvl] at h ⊢; exact lvlL_up h
  | n + 1, .clo f a b, h => by simp only [V.lvl, Bool.and_eq_true] at h ⊢; exact ⟨lvlL_up h.1, lvlL_up h.2⟩
  | 0, .bool _, _ | 0, .int .., _ | 0, .str _, _ | 0, .nptr, _ | 0, .nmap, _ | 0, .nfn, _ | 0, .esl, _ | 0, .nsl, _ | 0, .hsl .., _ | 0, .hptr .., _ | 0, .yld _, _ | 0, .hmap _, _ => rfl
  | _ + 1, .bool _, _ | _ + 1, .int .., _ | _ + 1, .str _, _ | _ + 1, .nptr, _ | _ + 1, .nmap, _ | _ + 1, .nfn, _ | _ + 1, .esl, _ | _ + 1, .nsl, _ | _ + 1, .hsl .., _ | _ + 1, .hptr .., _ | _ + 1, .yld _, _ | _ + 1, .hmap _, _ => rfl
theorem lvlL_up : ∀ {n : Nat} {x : List V}, V.lvlL n x = true → V.lvlL (n + 1) x = true
  | n, [], _ => lvlL_nil _
  | n, a :: l, h => by rw [lvlL_cons, Bool.and_eq_true] at h ⊢; exact ⟨lvl_up h.1, lvlL_up h.2⟩
theorem lvlLL_up : ∀ {n : Nat} {x : List (List V)}, V.lvlLL n x = true → V.lvlLL (n + 1) x = true
  | n, [], _ => by simp only [V.lvlLL]
  | n, a :: l, h => by simp only [V.lvlLL, Bool.and_eq_true] at h ⊢; exact ⟨lvlL_up h.1, lvlLL_up h.2⟩
theorem lvlM_up : ∀ {n : Nat} {x : List (V × V)}, V.lvlM n x = true → V.lvlM (n + 1) x = true
  | n, [], _ => by simp only [V.lvlM]
  | n, (k, v) :: l, h => by simp only [V.lvlM, Bool.and_eq_true] at h ⊢; exact ⟨⟨lvl_up h.1.1, lvl_up h.1.2⟩, lvlM_up h.2⟩
end
section
variable {α : Type} [Enc α]
theorem enc_plain (h : Enc.agg α = false) (a : α) : cells a = [enc a] := by
  have hl : (cells a).length = 1 := by rw [show (cells a).length = _ from Enc.len a, Enc.plain h]
  unfold enc
  rw [if_neg (by simp [h])]
  match hc : cells a, hl with
  | [x], _ => rfl
theorem enc_agg (h : Enc.agg α = true) (a : α) : enc a = .agg (cells a) := by unfold enc; rw [if_pos h]
theorem lvl_enc {n : Nat} [Lv n α] (a : α) : V.lvl (n + 1) (enc a) = true := by
  have h := Lv.lv (n := n) a
  cases ha : Enc.agg α with
  | true => rw [enc_agg ha]; exact h
  | false =>
    rw [enc_plain ha, lvlL_cons, Bool.and_eq_true] at h
    exact lvl_up h.1
theorem lvl_fp {n : Nat} [Lv n α] (a : α) : V.lvl (n + 1) (.fptr (cells a)) = true := Lv.lv a
theorem good_enc (a : α) : V.good (enc a) = true := by
  have h : V.goodL (cells a) = true := Enc.good a
  cases ha : Enc.agg α with
  | true => rw [enc_agg ha]; exact h
  | false =>
    rw [enc_plain ha] at h
    simp only [V.goodL, Bool.and_true] at h
    exact h
theorem one_encp (s : Sl α) : V.one (enc s) = true := slEnc_one s
theorem lvl_encp {n : Nat} [Lv n α] (s : Sl α) : V.lvl (n + 1) (enc s) = true := lvl_slEnc s
theorem one_enco (s : α) (h : Enc.agg α = false) : V.one (enc s) = true := by
  have := Enc.one s
  rw [show Enc.cells s = cells s from rfl, enc_plain h] at this
  simpa using this
end
instance {α : Type} [Enc α] : Enc (Option α) where
  cells o := [match o with | none => .nptr | some x => .fptr (cells x)]
  agg := false
  size := 1
  len _ := rfl
  good o := by
    cases o with
    | none => rfl
    | some x => simp only [V.goodL, V.good, Bool.and_true]; exact Enc.good x
  one o := by cases o <;> rfl
  plain _ := rfl
instance {n : Nat} {α : Type} [Enc α] [Lv n α] : Lv (n + 1) (Option α) := ⟨fun o => by
  cases o with
  | none => rfl
  | some x =>
    show V.lvlL (n + 1) [.fptr (cells x)] = true
    rw [lvlL_cons, lvlL_nil, Bool.and_true]; exact Lv.lv x⟩
structure U8 where
  v : Int
  deriving Inhabited, DecidableEq
instance : Enc U8 where
  cells n := [.int .u8 n.v]
  agg := false
  size := 1
  len _ := rfl
  good _ := rfl
  one _ := rfl
  plain _ := rfl
instance {n : Nat} : Lv n U8 := ⟨fun _ => by cases n <;> rfl⟩
structure U64 where
  v : Int
  deriving Inhabited, DecidableEq
instance : Enc U64 where
  cells n := [.int .u64 n.v]
  agg := false
  size := 1
  len _ := rfl
  good _ := rfl
  one _ := rfl
  plain _ := rfl
instance {n : Nat} : Lv n U64 := ⟨fun _ => by cases n <;> rfl⟩
structure U32 where
  v : Int
  deriving Inhabited, DecidableEq
instance : Enc U32 where
  cells n := [.int .u32 n.v]
  agg := false
  size := 1
  len _ := rfl
  good _ := rfl
  one _ := rfl
  plain _ := rfl
instance {n : Nat} : Lv n U32 := ⟨fun _ => by cases n <;> rfl⟩
structure I32 where
  v : Int
  deriving Inhabited, DecidableEq
instance : Enc I32 where
  cells n := [.int .i32 n.v]
  agg := false
  size := 1
  len _ := rfl
  good _ := rfl
  one _ := rfl
  plain _ := rfl
instance {n : Nat} : Lv n I32 := ⟨fun _ => by cases n <;> rfl⟩
structure FnP (S : Sys) (c : CallS) {α δ : Type} (g : FuncId) (e : List V) (A : α → List V) (R : δ → List V) (p : α → Option δ) : Prop where
  f : Fun S c g (fun z => A z ++ e) R p true
  d : V.lvlL 7 e = true
theorem FnP.of {S : Sys} {c : CallS} {α α' δ : Type} {fn : FuncId} {e : List V} {A : α → List V} {A' : α' → List V} {E : δ → List V} {P : α → Option δ} {p : α' → Option δ} (F : Fun S c fn A E P true) (ι : α' → α)
    (hA : ∀ z, A (ι z) = A' z ++ e) (hp : ∀ z, P (ι z) = p z) (hd : V.lvlL 7 e = true) : FnP S c fn e A' E p where
  f := { k := F.k, h := fun z => by rw [← hp, ← hA]; exact F.h (ι z), l := fun z => by rw [← hA]; exact F.l (ι z), r := F.r, s := F.s }
  d := hd
section
variable {S : Sys} {c : CallS} {β γ δ α : Type} {Q : Out × St → Option β} {e : γ → Option β} {fo : Fo} {fs : List Fm} {st0 : St} {l : List RO} {d : Option Nat} {gd : Option (Nat × Bool)} {now : Bool} {as : List Arg} {dd : List Nat}
theorem AcallX {A : α → List V} {E : δ → List V} {p : α → Option δ} {fn : FuncId} {sc : Bool} (n : Nat) (fr : List Nat) (q : List RO) (fs' : List Fm) (st : St) (F : Fun S c fn A E p sc) (z : α) (svs : List SV) {f : δ → Option γ} (hq : q = ⟨d, gd, now, .c, as, dd, []⟩ :: l)
    (hL : (adv S c n fo fs st0, wanted st.g gd, sargs S.N st.g as, calleeS svs) = (some (.ops false fr q, fs', st), some true, some svs, some (fn, (A z).map .v)))
    (h : ∀ x, p z = some x → Le ((f x).bind e) (aft S c Q false fr d .c l fs' dd (putO st d (.v (result (E x)))))) : Le (((p z).bind f).bind e) (rn S c Q fo fs st0) := by
  simp only [Prod.mk.injEq] at hL
  exact KopB hL.1 hq hL.2.1 (s_callLe (F.h z) F.k hL.2.2.1 hL.2.2.2 (trav_v _ _ _) (F.l z) rfl (fun r => by rw [F.r, allV_map]; simp)) h
theorem cells_enc {α : Type} [Enc α] (a : α) : V.cells (enc a) = cells a := by
  cases ha : Enc.agg α with
  | true => rw [enc_agg ha]; rfl
  | false =>
    have h1 : V.one (enc a) = true := one_enco a ha
    rw [enc_plain ha]
    cases h : enc a <;> first | rfl | (rw [h] at h1; cases h1)
theorem all_one {α : Type} [Enc α] (a : α) : (cells a).all V.one = true := Enc.one a
theorem cells_len {α : Type} [Enc α] (a : α) : (cells a).length = Enc.size α := Enc.len a
theorem Abox [Enc α] (n : Nat) (dr : Bool) (fr : List Nat) (q : List RO) (fs' : List Fm) (st : St) (x : α) {u : Nat} {m : Option β} (hq : q = ⟨some u, gd, now, .a .box, as, dd, []⟩ :: l)
    (h4 : st.new u = true) (hL : (adv S c n fo fs st0, wanted st.g gd, sargs S.N st.g as) = (some (.ops dr fr q, fs', st), some true, some [cv x]))
    (h : Le m (aft S c Q dr fr (some u) (.a .box) l fs' dd { st with g := tput st.g u (.ptr u 0), m := tput st.m u (bx x) })) : Le m (rn S c Q fo fs st0) := by
  simp only [Prod.mk.injEq] at hL
  obtain ⟨h1, h2, h3⟩ := hL
  refine KoneB h1 hq h2 ?_ h
  rw [sop_a, h3]
  simp only [Option.bind_some, h4, if_true, allocS, cells_enc, all_one]
theorem Ast [Enc α] (n : Nat) (dr : Bool) (fr : List Nat) (q : List RO) (fs' : List Fm) (st : St) (u o : Nat) (x : α) (cs cs' : List SV) {sz : Nat} {m : Option β} (hq : q = ⟨d, gd, now, .l (.store sz), as, dd, []⟩ :: l)
    (hL : (adv S c n fo fs st0, wanted st.g gd, sargs S.N st.g as, tget st.m u, (!dr || now), sz, Nat.ble (o + sz) cs.length, cs.take o ++ (cells x).map .v ++ cs.drop (o + sz)) = (some (.ops dr fr q, fs', st), some true, some [.ptr u o, cv x], some (.box cs), true, Enc.size α, true, cs'))
    (h : Le m (aft S c Q dr fr d (.l (.store sz)) l fs' dd (putO { st with m := tput st.m u (.box cs') } d (.v .undef)))) : Le m (rn S c Q fo fs st0) := by
  simp only [Prod.mk.injEq] at hL
  obtain ⟨h1, h2, h3, h4, h5, h6, h7, h8⟩ := hL
  refine KoneB h1 hq h2 ?_ h
  rw [sop_l, h3]
  subst h6
  have h9 := Nat.le_of_ble_eq_true h7
  simp only [Option.bind_some, h5, if_true, loudS, h4, putCells, cells_enc, cells_len, all_one, h9, and_self, h8, Option.map_some]
theorem setParts_row {α : Type} [Enc α] : ∀ (xs : List α) (pre : List (List V)) (suf : List (List V)), suf.length = xs.length → setParts (Enc.size α) (pre ++ suf) ((List.range' pre.length xs.length).zip (xs.map enc)) = some (pre ++ rows xs)
  | [], pre, suf, h => by
    have : suf = [] := List.eq_nil_of_length_eq_zero h
    subst this; rfl
  | x :: xs, pre, s :: suf, h => by
    simp only [List.length_cons, List.range'_succ, List.map_cons, List.zip_cons_cons, setParts, cells_enc, cells_len, all_one]
    rw [if_pos ⟨trivial, by simp, trivial⟩]
    have := setParts_row xs (pre ++ [cells x]) suf (by simpa using h)
    simp only [List.length_append, List.length_cons, List.length_nil, Nat.zero_add] at this
    have e : (pre ++ s :: suf).set pre.length (cells x) = pre ++ [cells x] ++ suf := by simp
    rw [e, this]
    simp [rows]
theorem Abs [Enc α] (n : Nat) (dr : Bool) (fr : List Nat) (q : List RO) (fs' : List Fm) (st : St) (xs : List α) {u sz ln : Nat} {zero : List V} {ix : List Nat} {m : Option β} (hq : q = ⟨some u, gd, now, .a (.buildSl sz ln zero ix), as, dd, []⟩ :: l)
    (h4 : st.new u = true) (hL : (adv S c n fo fs st0, wanted st.g gd, sargs S.N st.g as, sz, ln, ix) = (some (.ops dr fr q, fs', st), some true, some ((xs.map enc).map .v), Enc.size α, xs.length, List.range' 0 xs.length))
    (h : Le m (aft S c Q dr fr (some u) (.a (.buildSl sz ln zero ix)) l fs' dd { st with g := tput st.g u (.own u), m := tput st.m u (slOb (.row xs)) })) : Le m (rn S c Q fo fs st0) := by
  simp only [Prod.mk.injEq] at hL
  obtain ⟨h1, h2, h3, h5, h6, h7⟩ := hL
  subst h5 h6 h7
  refine KoneB h1 hq h2 ?_ h
  rw [sop_a, h3]
  simp only [Option.bind_some, h4, if_true, allocS, allV_map, List.length_range', List.length_map, if_true]
  have := setParts_row xs [] (List.replicate xs.length zero) (by simp)
  simp only [List.nil_append, List.length_nil] at this
  rw [this]
  rfl
theorem Abld [Enc α] (n : Nat) (dr : Bool) (fr : List Nat) (q : List RO) (fs' : List Fm) (st : St) (x : α) (vs : List V) {z : List V} {pl : List (Nat × Nat)} {m : Option β} (hq : q = ⟨d, gd, now, .p (.build z pl), as, dd, []⟩ :: l)
    (hp : fillP z pl vs = some (cells x)) (ha : Enc.agg α = true)
    (hL : (adv S c n fo fs st0, wanted st.g gd, sargs S.N st.g as) = (some (.ops dr fr q, fs', st), some true, some (vs.map .v)))
    (h : Le m (aft S c Q dr fr d (.p (.build z pl)) l fs' dd (putO st d (cv x)))) : Le m (rn S c Q fo fs st0) := by
  simp only [Prod.mk.injEq] at hL
  refine KoneB hL.1 hq hL.2.1 (s_p1 hL.2.2 rfl ?_) h
  unfold pureS
  rw [allV_map]
  simp only [pv_build, hp, Option.bind_some, Option.map_some]
  show some (SV.v (.agg (cells x))) = some (.v (enc x))
  rw [enc_agg ha]
section
variable [Enc α]
theorem Acut (n : Nat) (dr : Bool) (fr : List Nat) (q : List RO) (fs' : List Fm) (st : St) (lo hi : Bool) (bs : List V) {sz : Nat} {s : Sl α} {a b : Option Int} {f : Sl α → Option γ} (hq : q = ⟨d, gd, now, .p (.slice sz lo hi), as, dd, []⟩ :: l)
    (hL : (adv S c n fo fs st0, wanted st.g gd, sargs S.N st.g as, bnds lo hi bs, sz) = (some (.ops dr fr q, fs', st), some true, some (.v (slEnc s) :: bs.map .v), some (a, b), Enc.size α))
    (h : ∀ x, slPart s a b = some x → Le ((f x).bind e) (aft S c Q dr fr d (.p (.slice sz lo hi)) l fs' dd (putO st d (.v (slEnc x))))) : Le (((slPart s a b).bind f).bind e) (rn S c Q fo fs st0) := by
  simp only [Prod.mk.injEq] at hL
  refine KopB hL.1 hq hL.2.1 (Le.of_eq ?_) h
  have hy : sargs S.N st.g as = some ((slEnc s :: bs).map .v) := hL.2.2.1
  unfold sop doS
  simp only [wanted, yieldArgs, hy]
  have hp : pureS S.N st.m (.slice sz lo hi) ((slEnc s :: bs).map .v) = (slPart s a b).bind fun x => some (.v (slEnc x)) := by
    unfold pureS
    rw [allV_map]
    simp only [peval, hL.2.2.2.1, Option.bind_some, sliceV_enc s a b sz hL.2.2.2.2]
    cases slPart s a b <;> rfl
  simp only [List.map_cons] at hp ⊢
  rw [hp]
  cases slPart s a b <;> rfl
def slCutO (s : Sl α) (lo hi : Option Int) : Option (Sl α) :=
  match s with
  | .nil | .emp => none
  | .row x | .part x => (boundsV x.length lo hi).map fun (l, h) => .part ((x.take h).drop l)
theorem AcutO (n : Nat) (fr : List Nat) (q : List RO) (fs' : List Fm) (st : St) (lo hi : Bool) (u : Nat) (bs : List V) {t sz : Nat} {s : Sl α} {a b : Option Int} {f : Sl α → Option γ} (hq : q = ⟨some t, gd, now, .p (.slice sz lo hi), as, dd, []⟩ :: l)
    (h7 : St.new { st with m := tdel u st.m } t = true) (hL : (adv S c n fo fs st0, wanted st.g gd, sargs S.N st.g as, bnds lo hi bs, tget st.m u, sz) = (some (.ops false fr q, fs', st), some true, some (.own u :: bs.map .v), some (a, b), some (slOb s), Enc.size α))
    (h : ∀ x, slCutO s a b = some x → Le ((f x).bind e) (aft S c Q false fr (some t) (.p (.slice sz lo hi)) l fs' dd { st with g := tput st.g t (.own t), m := tput (tdel u st.m) t (slOb x) })) : Le (((slCutO s a b).bind f).bind e) (rn S c Q fo fs st0) := by
  simp only [Prod.mk.injEq] at hL
  refine KopB hL.1 hq hL.2.1 (Le.of_eq ?_) h
  obtain ⟨_, _, h3, h4, h5, h6⟩ := hL
  subst h6
  unfold sop doS
  simp only [wanted, yieldArgs, h3, Bool.false_eq_true, if_false, sliceS, allV_map, h5, h4, Option.bind_some]
  have hn : (tget st.m u).isSome := by rw [h5]; rfl
  cases s with
  | nil => simp [slCutO, slOb, Sl.k, rowLike]
  | emp => simp [slCutO, slOb, Sl.k, rowLike]
  | row x =>
    simp only [slOb, Sl.k, Sl.l, rowLike, slCutO, rows_length, and_self, if_true, h4, Option.bind_some]
    cases boundsV x.length a b with
    | none => rfl
    | some r => simp [h7, putO, rows, List.map_take, List.map_drop]
  | part x =>
    simp only [slOb, Sl.k, Sl.l, rowLike, slCutO, rows_length, and_self, if_true, h4, Option.bind_some]
    cases boundsV x.length a b with
    | none => rfl
    | some r => simp [h7, putO, rows, List.map_take, List.map_drop]
def mkRoom (n : Int) (_z : α) : Option (Sl α) := if 0 ≤ n ∧ n ≤ 2147483648 then some (if n = 0 then .row [] else .part []) else none
theorem Amk0 (n : Nat) (dr : Bool) (fr : List Nat) (q : List RO) (fs' : List Fm) (st : St) {u : Nat} {sz : Nat} {zero : List V} {i : Int} {z : α} {f : Sl α → Option γ} (hq : q = ⟨some u, gd, now, .a (.makeSl sz zero), as, dd, []⟩ :: l)
    (h4 : st.new u = true) (hL : (adv S c n fo fs st0, wanted st.g gd, sargs S.N st.g as, sz) = (some (.ops dr fr q, fs', st), some true, some [.v (.int .i64 0), .v (.int .i64 i)], Enc.size α))
    (h : ∀ s', mkRoom i z = some s' → Le ((f s').bind e) (aft S c Q dr fr (some u) (.a (.makeSl sz zero)) l fs' dd { st with g := tput st.g u (.own u), m := tput st.m u (slOb s') })) : Le (((mkRoom i z).bind f).bind e) (rn S c Q fo fs st0) := by
  simp only [Prod.mk.injEq] at hL
  obtain ⟨h1, h2, h3, h5⟩ := hL
  subst h5
  refine KopB h1 hq h2 (Le.of_eq ?_) h
  rw [sop_a, h3]
  simp only [Option.bind_some, h4, if_true, allocS, true_and, mkRoom]
  by_cases hi : 0 ≤ i ∧ i ≤ 2147483648
  · rw [if_pos hi, if_pos ⟨Int.le_refl 0, hi⟩]
    simp only [Option.bind_some]
    by_cases h0 : i = 0
    · subst h0; rfl
    · have : ¬ (0 : Int) = i := fun h => h0 h.symm
      simp only [if_neg h0, if_neg this]; rfl
  · rw [if_neg hi, if_neg (fun h => hi h.2)]; rfl
end
end
end Go.VE
