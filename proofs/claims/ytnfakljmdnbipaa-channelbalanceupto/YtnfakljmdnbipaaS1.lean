/-
 Plain values and the steps of a certificate.
-/
import Derived.KernelRfl
import Derived.Test.YtnfakljmdnbipaaN2
set_option linter.all false
namespace Go.VE
inductive Sl (α : Type) where
 | nil
 | emp
 | row (l : List α)
 | part (l : List α)
 deriving Inhabited
def Sl.l {α : Type} : Sl α → List α
 | .nil | .emp => []
 | .row l | .part l => l
def Sl.k {α : Type} : Sl α → Fl
 | .nil => .nil
 | .emp => .emp
 | .row _ => .row
 | .part _ => .part
class aF (α : Type) where
 cells : α → List V
 agg : Bool
 size : Nat
 len : ∀ a, (cells a).length = size
 aN : ∀ a, V.bK (cells a) = true
 one : ∀ a, (cells a).all V.one = true
 plain : agg = false → size = 1
def cells {α : Type} [aF α] (a : α) : List V := aF.cells a
def enc {α : Type} [aF α] (a : α) : V := if aF.agg α then .agg (cells a) else (cells a).headD .undef
def rows {α : Type} [aF α] (l : List α) : List (List V) := l.map cells
def dI {α : Type} [aF α] (s : Sl α) : V := kz s.k (aF.size α) (rows s.l)
instance : aF Int where
 cells n := [.int .i64 n]
 agg := false
 size := 1
 len _ := rfl
 aN _ := rfl
 one _ := rfl
 plain _ := rfl
instance : aF Bool where
 cells b := [.bool b]
 agg := false
 size := 1
 len _ := rfl
 aN _ := rfl
 one _ := rfl
 plain _ := rfl
instance : aF ByteArray where
 cells s := [.str s]
 agg := false
 size := 1
 len _ := rfl
 aN _ := rfl
 one _ := rfl
 plain _ := rfl
structure aa where
 proc : Int
 index : Int
 deriving DecidableEq, Inhabited
instance : aF aa where
 cells x := [.int .i64 x.proc, .int .i64 x.index]
 agg := true
 size := 2
 len _ := rfl
 aN _ := rfl
 one _ := rfl
 plain h := by cases h
@[simp] theorem Uc (n : Int) : enc n = .int .i64 n := rfl
@[simp] theorem R6 (n : Bool) : enc n = .bool n := rfl
@[simp] theorem Ub (n : ByteArray) : enc n = .str n := rfl
@[simp] theorem PI (n : Int) : cells n = [.int .i64 n] := rfl
@[simp] theorem M7 (n : Bool) : cells n = [.bool n] := rfl
@[simp] theorem Oq (n : ByteArray) : cells n = [.str n] := rfl
@[simp] theorem Tc (n : aa) : cells n = [.int .i64 n.proc, .int .i64 n.index] := rfl
@[simp] theorem Jz (n : aa) : enc n = .agg [.int .i64 n.proc, .int .i64 n.index] := rfl
section
variable {α : Type} [aF α]
theorem ie (l : List α) : (rows l).length = l.length := by simp [rows]
def idx (s : Sl α) (i : Int) : Option α := if 0 ≤ i then s.l[i.toNat]? else none
theorem FW {N : Nat → FuncId} (s : Sl α) (k : IntKind) (i : Int) {n : Nat} (hn : n = aF.size α) : bh N (.idxS n) [dI s, .int k i] = (idx s i).map fun x => .fptr (cells x) := by
 subst hn
 unfold idx dI
 simp only [bh, sH]
 by_cases h : i < 0
 ·rw [if_pos h, if_neg (by omega)]; rfl
 ·rw [if_neg h, if_pos (by omega)]
  cases s <;> simp [Sl.k, Sl.l, kz, rows, Function.comp_def]
theorem D2 {N : Nat → FuncId} (s : Sl α) : bh N .lenSl [dI s] = some (.int .i64 s.l.length) := by
 cases s <;> simp [bh, xY, dI, Sl.k, Sl.l, kz, ie]
end
section
variable {S : Sys} {c : b_}
end
end Go.VE
namespace Go.VE
section
variable {S : Sys} {c : b_}
def isSlice : pU → Bool
 | .slice .. => true
 | _ => false
theorem GF (dr : Bool) (fr : List Nat) (dst : Option Nat) (now : Bool) (p : pU) (as : List Arg) (st : St) (h : isSlice p = false) :
 e9 S c dr fr ⟨dst, none, now, .p p, as, [], []⟩ st = (bB S.N st.g as).bind fun svs => (hY S.N st.m p svs).bind fun x => some (c_ st dst x) := by
 unfold e9 kn
 have hy : fm S.N st.g ⟨dst, none, now, .p p, as, [], []⟩ = none := by unfold fm; cases p <;> rfl
 simp only [wanted, hy]
 cases hs : bB S.N st.g as with
 | none => rfl
 | some svs =>
  simp only [Option.bind_some]
  cases p <;> first | (simp [isSlice] at h; done) | (cases hp : hY S.N st.m _ svs <;> simp [hp])
theorem Ch (N : Nat → FuncId) (m : Tb aE) (p : pU) (svs : List SV) (xs : List V) (h : d6 svs = some xs) : hY N m p svs = (bh N p xs).bind fun x => some (.v x) := by
 unfold hY; rw [h]; dsimp only; cases bh N p xs <;> rfl
theorem z_ (dr : Bool) (fr : List Nat) (dst : Option Nat) (now : Bool) (q : DN) (as : List Arg) (st : St) :
 e9 S c dr fr ⟨dst, none, now, .r q, as, [], []⟩ st = (bB S.N st.g as).bind fun svs => if !dr || now || fq fr svs then (kX st.m q svs).bind fun x => some (c_ st dst x) else none := by
 unfold e9 kn
 have hy : fm S.N st.g ⟨dst, none, now, .r q, as, [], []⟩ = none := rfl
 simp only [wanted, hy]
 cases hs : bB S.N st.g as with
 | none => rfl
 | some svs =>
  simp only [Option.bind_some]
  split
  ·cases hp : kX st.m q svs <;> simp
  ·rfl
theorem z7 (dr : Bool) (fr : List Nat) (d : Nat) (now : Bool) (q : Es) (as : List Arg) (st : St) :
 e9 S c dr fr ⟨some d, none, now, .a q, as, [], []⟩ st = (bB S.N st.g as).bind fun svs => if st.new d then (lX st.m q svs d).bind fun r => some { st with g := aW st.g d r.2, m := aW st.m d r.1 } else none := by
 unfold e9 kn
 have hy : fm S.N st.g ⟨some d, none, now, .a q, as, [], []⟩ = none := rfl
 simp only [wanted, hy]
 cases hs : bB S.N st.g as with
 | none => rfl
 | some svs =>
  simp only [Option.bind_some]
  split
  ·cases hp : lX st.m q svs d <;> simp [c_]
  ·rfl
theorem uR (dr : Bool) (fr : List Nat) (dst : Option Nat) (now : Bool) (q : Cj) (as : List Arg) (st : St) :
 e9 S c dr fr ⟨dst, none, now, .l q, as, [], []⟩ st = (bB S.N st.g as).bind fun svs => if !dr || now then (k_ st dst q svs).bind fun r => some (c_ r.2 dst r.1) else none := by
 unfold e9 kn
 have hy : fm S.N st.g ⟨dst, none, now, .l q, as, [], []⟩ = none := rfl
 simp only [wanted, hy]
 cases hs : bB S.N st.g as with
 | none => rfl
 | some svs =>
  simp only [Option.bind_some]
  split
  ·cases hp : k_ st dst q svs <;> simp
  ·rfl
def kc : List SV → Option (FuncId × List SV)
 | .clo f a b :: vs => some (f, a ++ vs ++ b)
 | .v (.clo f a b) :: vs => some (f, a.map .v ++ vs ++ b.map .v)
 | _ => none
theorem Nv (dr : Bool) (fr : List Nat) (dst : Option Nat) (now : Bool) (as : List Arg) (st : St) (svs : List SV) (f : FuncId) (args : List SV) (hs : bB S.N st.g as = some svs) (hc : kc svs = some (f, args)) :
 e9 S c dr fr ⟨dst, none, now, .c, as, [], []⟩ st = (h_ S c dst dr (!dr || now) (fF st.m fr) f args st).bind fun r => some (c_ r.2 dst r.1) := by
 unfold e9 kn
 unfold kc at hc
 split at hc
 ·simp only [Option.some.injEq, Prod.mk.injEq] at hc; obtain ⟨rfl, rfl⟩ := hc
  simp only [wanted, fm, hs]
  cases h_ S c dst dr _ _ _ _ st <;> simp
 ·simp only [Option.some.injEq, Prod.mk.injEq] at hc; obtain ⟨rfl, rfl⟩ := hc
  simp only [wanted, fm, hs]
  cases h_ S c dst dr _ _ _ _ st <;> simp
 ·simp at hc
noncomputable def FM {β : Type} (S : Sys) (c : b_) (fr : List Nat) (l : List RO) (k : St → Option β) : St → Option β := fun st => (jC S c false fr l st).bind k
noncomputable def FH {β : Type} (S : Sys) (c : b_) (fr : List Nat) (l : List RO) (k : St → Option β) : St → Option β := fun st => (jC S c true fr l st).bind k
noncomputable def IS {β : Type} (S : Sys) (c : b_) (fr dd : List Nat) (l : List RO) (k : St → Option β) : St → Option β := fun st => FM S c fr l k (lB dd st)
noncomputable def Jg {β : Type} (S : Sys) (c : b_) (fr dd : List Nat) (l : List RO) (k : St → Option β) : St → Option β := fun st => FH S c fr l k (lB dd st)
@[congr] theorem LV {β : Type} {fr : List Nat} {l : List RO} {k : St → Option β} {st st' : St} (h : st = st') : FM S c fr l k st = FM S c fr l k st' := by rw [h]
@[congr] theorem LK {β : Type} {fr fr' : List Nat} {l : List RO} {k : St → Option β} {st st' : St} (hf : fr = fr') (h : st = st') : FH S c fr l k st = FH S c fr' l k st' := by rw [h, hf]
@[congr] theorem LM {β : Type} {fr dd : List Nat} {l : List RO} {k : St → Option β} {st st' : St} (h : st = st') : IS S c fr dd l k st = IS S c fr dd l k st' := by rw [h]
@[congr] theorem Lo {β : Type} {fr fr' dd : List Nat} {l : List RO} {k : St → Option β} {st st' : St} (hf : fr = fr') (h : st = st') : Jg S c fr dd l k st = Jg S c fr' dd l k st' := by rw [h, hf]
@[congr] theorem O6 {dr : Bool} {fr : List Nat} {o : RO} {st st' : St} (h : st = st') : e9 S c dr fr o st = e9 S c dr fr o st' := by rw [h]
end
section
variable {S : Sys} {c : b_} (dr : Bool) (fr : List Nat) (dst : Option Nat) (now : Bool) (as : List Arg) (st : St)
end
end Go.VE
namespace Go.VE
inductive Fm where
 | seq (b : RC)
 | blk (id : Nat)
 | gst (x : Gh)
section
variable (S : Sys) (c : b_) {β : Type} (Q : Out × St → Option β)
noncomputable def runK : List Fm → Out × St → Option β
 | [], r => Q r
 | .seq b :: fs, (.norm, st) => (aX S c b st).bind (runK fs)
 | .seq _ :: fs, r => runK fs r
 | .blk id :: fs, (.exit k, st) => if k = id then runK fs (.norm, st) else runK fs (.exit k, st)
 | .blk _ :: fs, r => runK fs r
 | .gst x :: fs, (.norm, st) => (ghost x st).bind fun st => runK fs (.norm, st)
 | .gst _ :: fs, r => runK fs r
noncomputable def go (rc : RC) (fs : List Fm) (st : St) : Option β := (aX S c rc st).bind (runK S c Q fs)
noncomputable def GV (fs : List Fm) : St → Option β := fun st => runK S c Q fs (.norm, st)
def aL {α : Type} (t : Bool) (a b : α) : α := if t then a else b
end
@[congr] theorem PO {α : Type} {t t' : Bool} {a b a' b' : α} (h : t = t') (ha : t' = true → a = a') (hb : t' = false → b = b') : aL t a b = aL t' a' b' := by
 subst h; cases t
 ·exact hb rfl
 ·exact ha rfl
section
variable {S : Sys} {c : b_} {β : Type} {Q : Out × St → Option β}
@[congr] theorem go_congr {a : RC} {fs : List Fm} {st st' : St} (h : st = st') : go S c Q a fs st = go S c Q a fs st' := by rw [h]
@[congr] theorem KW {fs : List Fm} {st st' : St} (h : st = st') : GV S c Q fs st = GV S c Q fs st' := by rw [h]
@[congr] theorem Ln {fs : List Fm} {r r' : Out × St} (h : r = r') : runK S c Q fs r = runK S c Q fs r' := by rw [h]
theorem Ak (rc : RC) (st : St) : (aX S c rc st).bind Q = go S c Q rc [] st := by
 simp only [go]; cases aX S c rc st <;> rfl
inductive Fw (ν ε ρ : Type) where
 | n (a : ν)
 | x (e : ε)
 | r (b : ρ)
def iI {σ ε ρ : Type} (step : σ → Option (Fw σ ε ρ)) : Nat → σ → Option (Fw Empty ε ρ)
 | 0, _ => none
 | k + 1, s => match step s with
  | some (.n s') => iI step k s'
  | some (.x e) => some (.x e)
  | some (.r b) => some (.r b)
  | none => none
theorem qW {σ ε ρ : Type} {step : σ → Option (Fw σ ε ρ)} : ∀ {k k' : Nat} {s : σ} {r : Fw Empty ε ρ}, k ≤ k' → iI step k s = some r → iI step k' s = some r
 | 0, _, _, _, _, h => by simp [iI] at h
 | k + 1, 0, _, _, hk, _ => by omega
 | k + 1, k' + 1, s, r, hk, h => by
  simp only [iI] at h ⊢
  split at h
  ·exact qW (Nat.le_of_succ_le_succ hk) h
  ·exact h
  ·exact h
  ·simp at h
open Classical in
noncomputable def cW {σ ε ρ : Type} (step : σ → Option (Fw σ ε ρ)) (s : σ) : Option (Fw Empty ε ρ) :=
 if h : ∃ k r, iI step k s = some r then some (Classical.choose (Classical.choose_spec h)) else none
theorem kV {σ ε ρ : Type} {step : σ → Option (Fw σ ε ρ)} {s : σ} {r : Fw Empty ε ρ} : cW step s = some r ↔ ∃ k, iI step k s = some r := by
 unfold cW
 constructor
 ·intro h
  split at h
  ·rename_i hx
   simp only [Option.some.injEq] at h
   exact ⟨_, by rw [← h]; exact Classical.choose_spec (Classical.choose_spec hx)⟩
  ·simp at h
 ·rintro ⟨k, hk⟩
  have hx : ∃ k r, iI step k s = some r := ⟨k, r, hk⟩
  rw [dif_pos hx]
  have h2 := Classical.choose_spec (Classical.choose_spec hx)
  have h3 := qW (Nat.le_max_left (Classical.choose hx) k) h2
  have h4 := qW (Nat.le_max_right (Classical.choose hx) k) hk
  rw [h3] at h4; exact h4
def Fw.out {ν ε ρ : Type} (eν : ν → St) (eε : ε → Nat × St) (eρ : ρ → St) : Fw ν ε ρ → Out × St
 | .n a => (.norm, eν a)
 | .x e => (.exit (eε e).1, (eε e).2)
 | .r b => (.ret, eρ b)
def Fw.elim {ε ρ γ : Type} (fx : ε → γ) (fr : ρ → γ) : Fw Empty ε ρ → γ
 | .x e => fx e
 | .r b => fr b
end
end Go.VE
namespace Go.VE
class Lv (n : Nat) (α : Type) [aF α] : Prop where
 lv : ∀ a : α, V.dB n (cells a) = true
instance {n : Nat} : Lv n Int := ⟨fun _ => by cases n <;> rfl⟩
instance {n : Nat} : Lv n Bool := ⟨fun _ => by cases n <;> rfl⟩
instance {n : Nat} : Lv n ByteArray := ⟨fun _ => by cases n <;> rfl⟩
instance {n : Nat} : Lv n aa := ⟨fun _ => by cases n <;> rfl⟩
section
variable {α : Type} [aF α]
theorem zJ (s : Sl α) : V.one (dI s) = true := by cases s <;> rfl
theorem D8 (l : List α) : V.j9 (rows l) = true := by
 induction l with
 | nil => rfl
 | cons a l ih => simp only [rows, List.map_cons, V.j9, Bool.and_eq_true]; exact ⟨aF.aN a, ih⟩
theorem CE (s : Sl α) : V.aN (dI s) = true := by
 cases s <;> simp only [dI, Sl.k, kz, V.aN] <;> exact D8 _
theorem Gy {n : Nat} [Lv n α] (l : List α) : V.m_ n (rows l) = true := by
 induction l with
 | nil => cases n <;> rfl
 | cons a l ih => simp only [rows, List.map_cons, V.m_, Bool.and_eq_true]; exact ⟨Lv.lv a, ih⟩
theorem zw {n : Nat} [Lv n α] (s : Sl α) : V.lvl (n + 1) (dI s) = true := by
 cases s <;> simp only [dI, Sl.k, kz, V.lvl] <;> exact Gy _
instance : aF (Sl α) where
 cells s := [dI s]
 agg := false
 size := 1
 len _ := rfl
 aN s := by simp only [V.bK, CE, Bool.and_self]
 one s := by simp [zJ]
 plain _ := rfl
instance {n : Nat} [Lv n α] : Lv (n + 1) (Sl α) := ⟨fun s => by
 show V.dB (n + 1) [dI s] = true
 simp only [V.dB, zw, Bool.and_self]⟩
end
theorem HR (n : Nat) (cs : List V) : V.lvl (n + 1) (.agg cs) = V.dB n cs := rfl
theorem H_ (n : Nat) (cs : List V) : V.lvl (n + 1) (.tup cs) = V.dB n cs := rfl
theorem FY (n : Nat) (cs : List V) : V.lvl (n + 1) (.fptr cs) = V.dB n cs := rfl
theorem Iq (n : Nat) (f : FuncId) (a b : List V) : V.lvl (n + 1) (.clo f a b) = (V.dB n a && V.dB n b) := rfl
theorem lA (n : Nat) (k : IntKind) (x : Int) : V.lvl n (.int k x) = true := by cases n <;> rfl
theorem jZ (n : Nat) (x : Bool) : V.lvl n (.bool x) = true := by cases n <;> rfl
theorem lz (n : Nat) (x : ByteArray) : V.lvl n (.str x) = true := by cases n <;> rfl
theorem Ib (n : Nat) : V.lvl n .au = true := by cases n <;> rfl
theorem Ie (n : Nat) : V.lvl n .dZ = true := by cases n <;> rfl
theorem FE (n : Nat) : V.lvl n .bX = true := by cases n <;> rfl
theorem iF (n : Nat) : V.dB n [] = true := by cases n <;> rfl
theorem gF (n : Nat) (x : V) (r : List V) : V.dB n (x :: r) = (V.lvl n x && V.dB n r) := by cases n <;> rfl
section
variable {S : Sys} {c : b_}
def ED (x : Option SV) (b : Bool) (y z : Option St) : Option St :=
 match x with
 | some (.v (.bool t)) => aL (t == b) y z
 | some (.v _) => z
 | _ => none
@[congr] theorem Kl {x x' : Option SV} {b : Bool} {y z : Option St} (h : x = x') : ED x b y z = ED x' b y z := by rw [h]
def GH {β : Type} (x : Option SV) (y z : Option β) : Option β :=
 match x with
 | some (.v (.bool t)) => aL t y z
 | _ => none
@[congr] theorem KV {β : Type} {x x' : Option SV} {y z : Option β} (h : x = x') : GH x y z = GH x' y z := by rw [h]
def bl (c : b_) (f : FuncId) (as : List V) : Option (List V) := (c f (as.map .v) []).bind fun r => bN r.2 8 r.1
def Ee (dr : Bool) (ok : Bool) (st : St) (ys : List V) : Option (SV × St) :=
 if V.lvl 8 (result ys) && ((result ys).scalar || ok) then some (.v (result ys), st) else none
theorem Hz (dst : Option Nat) (dr now : Bool) (old : List SV → Bool) (f : FuncId) (args : List SV) (st : St) (hk : S.E.keep f = false) :
 h_ S c dst dr now old f args st = (bN st.m 8 args).bind fun as => if V.dB 8 as && (now || old args) then (bl c f as).bind (Ee dr (d6 args).isSome st) else none := by
 unfold h_ bl
 simp only [hk, Bool.false_eq_true, if_false]
 cases bN st.m 8 args with
 | none => rfl
 | some as =>
  simp only [Option.bind_some]
  split
  ·cases c f (as.map .v) [] with
   | none => rfl
   | some r =>
    obtain ⟨rs, m'⟩ := r
    simp only [Option.bind_some]
    cases bN m' 8 rs <;> rfl
  ·rfl
end
section
variable {S : Sys} {T : az}
def Bf (rs : List RV) : Out × St → Option (List V)
 | (.exit _, _) => none
 | (_, st) => (oY st rs).bind (bN st.m 8)
theorem FJ {f : FuncId} {rf : RF} (hT : T f = some rf) (as : List V) (hn : as.length ≤ rf.na) : bl (ah S T) f as = go S (ah S T) (Bf rf.rs) rf.body [] (start (as.map .v) []) := by
 unfold bl
 rw [FB hT]
 unfold mO
 rw [if_pos (by simpa using hn), ← Ak]
 cases h : aX S (ah S T) rf.body (start (as.map .v) []) with
 | none => rfl
 | some r =>
  obtain ⟨o, st⟩ := r
  cases o <;> simp only [Option.bind_some, Bf] <;> (try rfl) <;> (cases oY st rf.rs <;> rfl)
end
end Go.VE
namespace Go.VE
variable {N : Nat → FuncId}
def sK (k : IntKind) (a b : Int) : Option Int := if b < 0 then none else some (a.fdiv (2 ^ (min b.toNat k.bits)))
theorem I_ (e : Option KT) (q : Option Nat) (k k' : IntKind) (a b : Int) : bh N (.bin e q .shr) [.int k a, .int k' b] = (sK k a b).bind fun x => some (.int k x) := by
 simp only [bh, mg, sK]; split <;> rfl
theorem Az (o : Nat) (cs : List V) : bh N (.fieldAddr o) [.fptr cs] = if o ≤ cs.length then some (.fptr (cs.drop o)) else none := rfl
def jL (s : ByteArray) (n : Int) : Option Int := if 0 ≤ n then (s[n.toNat]?).map fun b => (b.toNat : Int) else none
theorem E3 (s : ByteArray) (k : IntKind) (n : Int) : bh N .idxStr [.str s, .int k n] = (jL s n).bind fun x => some (.int .u8 x) := by
 simp only [bh, jL]
 split
 ·cases s[n.toNat]? <;> rfl
 ·rfl
theorem FZ (z : List V) (pl : List (Nat × Nat)) (vs : List V) : bh N (.build z pl) vs = (jf z pl vs).bind fun cs => some (.agg cs) := by
 simp only [bh]; cases jf z pl vs <;> rfl
section
variable {α : Type} [aF α]
theorem HB (s : Sl α) (k : IntKind) (i : Int) (n : Nat) (hn : n = aF.size α) : bh N (.idxS n) [dI s, .int k i] = (idx s i).bind fun x => some (.fptr (cells x)) := by
 rw [FW s k i hn]; cases idx s i <;> rfl
theorem Gd (s : Sl α) : bh N .lenSl [dI s] = some (.int .i64 s.l.length) := D2 s
def iJ (s : Sl α) (lo hi : Option Int) : Option (Sl α) :=
 (dR s.l.length lo hi).map fun (l, h) => match s with
  | .nil => .nil
  | .emp => .emp
  | .row x => .part ((x.take h).drop l)
  | .part x => .part ((x.take h).drop l)
theorem CN (s : Sl α) (lo hi : Option Int) (n : Nat) (hn : n = aF.size α) : jr n (dI s) lo hi = (iJ s lo hi).bind fun x => some (dI x) := by
 subst hn
 cases s with
 | nil => simp only [dI, Sl.k, kz, jr, iJ, Sl.l, List.length_nil]; cases dR 0 lo hi <;> rfl
 | emp => simp only [dI, Sl.k, kz, jr, iJ, Sl.l, List.length_nil]; cases dR 0 lo hi <;> rfl
 | row l => simp only [dI, Sl.k, kz, jr, iJ, Sl.l, if_true, ie]; cases dR l.length lo hi <;> simp [rows, List.map_take, List.map_drop]
 | part l => simp only [dI, Sl.k, kz, jr, iJ, Sl.l, if_true, ie]; cases dR l.length lo hi <;> simp [rows, List.map_take, List.map_drop]
end
theorem DK (m : Tb aE) (n : Nat) (a : Bool) (cs : List V) : kX m (.load n a) [.v (.fptr cs)] = (cut cs 0 n).bind fun r => (mk a r).bind fun x => some (.v x) := by
 simp only [kX, fu]
 cases cut cs 0 n with
 | none => rfl
 | some r => simp only [Option.bind_some]; cases mk a r <;> rfl
end Go.VE
namespace Go.VE
section
variable {α : Type} [aF α]
def dV (s : Sl α) : aE := .sl s.k (aF.size α) (rows s.l)
def Sl.uj (s : Sl α) (i : Int) : Option Nat := if 0 ≤ i ∧ i.toNat < s.l.length then some i.toNat else none
def Sl.get (s : Sl α) (i : Nat) : Option α := s.l[i]?
def Sl.put (s : Sl α) (i : Nat) (x : α) : Option (Sl α) :=
 if i < s.l.length then some (match s with | .row l => .row (l.set i x) | .part l => .part (l.set i x) | s => s) else none
def iM (s : Sl α) (x : α) : Option (Sl α) := if s.l.length + 1 ≤ 2147483648 then some (.row (s.l ++ [x])) else none
def pR (n : Int) (z : α) : Option (Sl α) := if 0 ≤ n ∧ n ≤ 2147483648 then some (.row (List.replicate n.toNat z)) else none
end
section
variable {α : Type} [aF α] {N : Nat → FuncId} {m : Tb aE}
def CG (n d : Nat) (o : Option aE) (i : Int) : Option SV :=
 match o with
 | some (.sl k es xs) => if bP k ∧ es = n ∧ 0 ≤ i ∧ i.toNat < xs.length then some (.el d i.toNat 0) else none
 | _ => none
theorem Ij (n d : Nat) (k : IntKind) (i : Int) : hY N m (.idxS n) [.own d, .v (.int k i)] = CG n d (aj m d) i := by
 simp only [hY, d6, uG, CG]
 cases aj m d with
 | none => rfl
 | some o => cases o <;> rfl
theorem Il (n d : Nat) (s : Sl α) (i : Int) (h : n = aF.size α) : CG n d (some (dV s)) i = (s.uj i).bind fun j => some (.el d j 0) := by
 subst h
 simp only [CG, dV, ie, true_and, Sl.uj]
 cases s with
 | nil => simp [Sl.l, Sl.k, bP]
 | emp => simp [Sl.l, Sl.k, bP]
 | row l => simp only [Sl.k, Sl.l, bP, true_and]; by_cases h : 0 ≤ i ∧ i.toNat < l.length <;> simp [h]
 | part l => simp only [Sl.k, Sl.l, bP, true_and]; by_cases h : 0 ≤ i ∧ i.toNat < l.length <;> simp [h]
def Cr (o : Option aE) : Option SV :=
 match o with
 | some (.sl _ _ xs) => some (.v (.int .i64 xs.length))
 | _ => none
theorem Gq (d : Nat) : hY N m .lenSl [.own d] = Cr (aj m d) := by
 simp only [hY, d6, uG, Cr]
 cases aj m d with
 | none => rfl
 | some o => cases o <;> rfl
theorem HQ (s : Sl α) : Cr (some (dV s)) = some (.v (.int .i64 s.l.length)) := by simp [Cr, dV, ie]
def CO (n : Nat) (a : Bool) (o : Nat) (ob : Option aE) : Option SV :=
 match ob with
 | some (.box cs) => uH n a ((cs.drop o).take n)
 | _ => none
theorem S5 (n : Nat) (a : Bool) (d o : Nat) : kX m (.load n a) [.ptr d o] = CO n a o (aj m d) := by
 simp only [kX, CO]
 rfl
theorem Et (n : Nat) (a : Bool) (o : Nat) (cs : List SV) : CO n a o (some (.box cs)) = uH n a ((cs.drop o).take n) := rfl
def wG (n : Nat) (a : Bool) (i o : Nat) (ob : Option aE) : Option SV :=
 match ob with
 | some (.sl _ _ xs) => match xs[i]? with
  | some cs => ((cut cs o n).bind (mk a)).map .v
  | none => none
 | _ => none
theorem Lm (n : Nat) (a : Bool) (d i o : Nat) : kX m (.load n a) [.el d i o] = wG n a i o (aj m d) := by
 simp only [kX, wG]
 rfl
theorem EK (n : Nat) (a : Bool) (i o : Nat) (s : Sl α) : wG n a i o (some (dV s)) = (s.get i).bind fun x => (cut (cells x) o n).bind fun r => (mk a r).bind fun y => some (.v y) := by
 simp only [wG, dV, Sl.get, rows, List.getElem?_map]
 cases s.l[i]? with
 | none => rfl
 | some x =>
  simp only [Option.map_some, Option.bind_some]
  cases cut (cells x) o n with
  | none => rfl
  | some r => simp only [Option.bind_some]; cases mk a r <;> rfl
theorem MQ (z : α) (n : Int) (d : Nat) (size : Nat) (zero : List V) (h : zero = cells z) (h2 : size = aF.size α) :
 lX m (.makeSl size zero) [.v (.int .i64 n), .v (.int .i64 n)] d = (pR n z).bind fun s => some (dV s, .own d) := by
 subst h h2
 simp only [lX, pR, true_and, Int.le_refl]
 split
 ·simp [dV, Sl.k, Sl.l, rows, List.map_replicate]
 ·rfl
def uB (st : St) (d i o size : Nat) (x : V) (ob : Option aE) : Option (SV × St) :=
 match ob with
 | some (.sl k es xs) => match xs[i]? with
  | some cs => if x.cells.length = size ∧ o + size ≤ cs.length ∧ x.cells.all V.one = true then
   some (.v .undef, { st with m := aW st.m d (.sl k es (xs.set i (cs.take o ++ x.cells ++ cs.drop (o + x.cells.length)))) }) else none
  | none => none
 | _ => none
theorem Dp (st : St) (dst : Option Nat) (size d i o : Nat) (x : V) : k_ st dst (.store size) [.el d i o, .v x] = uB st d i o size x (aj st.m d) := by
 simp only [k_, uB]; rfl
theorem CF (g : Tb SV) (p : List Nat) (w : List (List V)) (mo : Bool) (y : Nat) (d i size : Nat) (x : V) (a : α) (hx : x.cells = cells a) (hs : size = aF.size α) (s : Sl α) :
 uB ⟨g, m, p, w, mo, y⟩ d i 0 size x (some (dV s)) = (s.put i a).bind fun s' => some (.v .undef, ⟨g, aW m d (dV s'), p, w, mo, y⟩) := by
 have h1 : (cells a).all V.one = true := aF.one a
 have hl : ∀ b : α, (cells b).length = aF.size α := aF.len
 subst hs
 simp only [uB, dV, rows, List.getElem?_map, hx, Sl.put]
 by_cases hi : i < s.l.length
 ·have hg : s.l[i]? = some s.l[i] := List.getElem?_eq_getElem hi
  rw [if_pos hi, hg]
  simp only [Option.map_some, hl, h1, Option.bind_some]
  rw [if_pos ⟨trivial, by omega, trivial⟩]
  cases s with
  | nil => simp [Sl.l] at hi
  | emp => simp [Sl.l] at hi
  | row l => simp [Sl.k, Sl.l, rows, List.drop_of_length_le, hl, List.map_set]
  | part l => simp [Sl.k, Sl.l, rows, List.drop_of_length_le, hl, List.map_set]
 ·rw [if_neg hi, List.getElem?_eq_none (by omega)]; rfl
def oV (st : St) (t n : Nat) (s : SV) (xs ys : Option (List (List V))) : Option (SV × St) :=
 match xs, ys with
 | some _, some [] => some (s, st)
 | some xs, some ys =>
  if xs.length + ys.length ≤ 2147483648 ∧ yL s = true then
   if St.new { st with m := giveUp st.m s } t then some (.own t, { st with m := aW (giveUp st.m s) t (.sl .row n (xs ++ ys)) }) else none
  else none
 | _, _ => none
theorem zl (st : St) (t n : Nat) (s x : SV) : k_ st (some t) (.append n) [s, x] = oV st t n s (kO st.m n s) (kO st.m n x) := by
 cases s <;> cases x <;> (simp only [k_, oV]; rfl)
def Dj (n : Nat) (o : Option aE) : Option (List (List V)) :=
 match o with
 | some (.sl k es xs) => if bP k then (if es = n then some xs else none) else some []
 | _ => none
theorem Ce (n d : Nat) : kO m n (.own d) = Dj n (aj m d) := by
 simp only [kO, Dj]
 cases aj m d with
 | none => rfl
 | some ob => cases ob <;> rfl
theorem yh (n : Nat) (s : Sl α) (h : n = aF.size α) : Dj n (some (dV s)) = some (rows s.l) := by
 subst h; cases s <;> simp [Dj, dV, Sl.k, Sl.l, bP, rows]
theorem HC (n : Nat) : kO m n (.v .au) = some [] := rfl
theorem Ii (n : Nat) : kO m n (.v .dZ) = some [] := rfl
theorem Ea (g : Tb SV) (p : List Nat) (w : List (List V)) (mo : Bool) (y : Nat) (t n d : Nat) (l : List α) (x : α) (h : n = aF.size α) : oV ⟨g, m, p, w, mo, y⟩ t n (.own d) (some (rows l)) (some (rows [x])) =
 (iM (.row l) x).bind fun s => if St.new ⟨g, f_ d m, p, w, mo, y⟩ t then some (.own t, ⟨g, aW (f_ d m) t (dV s), p, w, mo, y⟩) else none := by
 subst h
 have e : (rows l).length + (rows [x]).length = l.length + 1 := by simp [ie]
 by_cases h : l.length + 1 ≤ 2147483648
 ·have h1 : iM (.row l) x = some (.row (l ++ [x])) := if_pos h
  have h2 : oV ⟨g, m, p, w, mo, y⟩ t (aF.size α) (.own d) (some (rows l)) (some (rows [x])) = if St.new ⟨g, f_ d m, p, w, mo, y⟩ t then some (.own t, ⟨g, aW (f_ d m) t (.sl .row (aF.size α) (rows l ++ rows [x])), p, w, mo, y⟩) else none := if_pos ⟨by omega, rfl⟩
  rw [h1, h2]
  simp only [Option.bind_some, dV, Sl.k, Sl.l, rows, List.map_append, List.map_cons, List.map_nil]
 ·have h1 : iM (.row l) x = none := if_neg h
  have h2 : oV ⟨g, m, p, w, mo, y⟩ t (aF.size α) (.own d) (some (rows l)) (some (rows [x])) = none := if_neg (fun q => h (by omega))
  rw [h1, h2]; rfl
theorem EG (g : Tb SV) (p : List Nat) (w : List (List V)) (mo : Bool) (y : Nat) (t n : Nat) (x : α) (h : n = aF.size α) : oV ⟨g, m, p, w, mo, y⟩ t n (.v .au) (some []) (some (rows [x])) =
 if St.new ⟨g, m, p, w, mo, y⟩ t then some (.own t, ⟨g, aW m t (dV (.row [x])), p, w, mo, y⟩) else none := by
 subst h
 simp [oV, rows, yL, giveUp, dV, Sl.k, Sl.l]; rfl
theorem Ef (g : Tb SV) (p : List Nat) (w : List (List V)) (mo : Bool) (y : Nat) (t n : Nat) (x : α) (h : n = aF.size α) : oV ⟨g, m, p, w, mo, y⟩ t n (.v .dZ) (some []) (some (rows [x])) =
 if St.new ⟨g, m, p, w, mo, y⟩ t then some (.own t, ⟨g, aW m t (dV (.row [x])), p, w, mo, y⟩) else none := by
 subst h
 simp [oV, rows, yL, giveUp, dV, Sl.k, Sl.l]; rfl
end
theorem rE (g : Tb SV) (m : Tb aE) (p : List Nat) (w : List (List V)) (mo : Bool) (y d : Nat) : St.new ⟨g, m, p, w, mo, y⟩ d = (!(p.contains d) && (aj m d).isNone && !(o6 d g) && !(mP d m)) := rfl
theorem mE (d : Nat) : o6 d [] = false := rfl
theorem lu (d n : Nat) (x : SV) (r : Tb SV) : o6 d ((n, x) :: r) = (SV.bT d x || o6 d r) := rfl
theorem mI (d : Nat) : mP d [] = false := rfl
theorem lC (d n : Nat) (x : aE) (r : Tb aE) : mP d ((n, x) :: r) = (aE.bT d x || mP d r) := rfl
theorem rI (d : Nat) (x : V) : SV.bT d (.v x) = false := rfl
theorem nI (d e : Nat) : SV.bT d (.own e) = (e == d) := rfl
theorem nN (d e o : Nat) : SV.bT d (.ptr e o) = (e == d) := rfl
theorem pK (d e i o : Nat) : SV.bT d (.el e i o) = (e == d) := rfl
theorem pN (d e : Nat) : SV.bT d (.mp e) = (e == d) := rfl
theorem nE (d : Nat) (f : FuncId) (a b : List SV) : SV.bT d (.clo f a b) = (SV.cx d a || SV.cx d b) := rfl
theorem nL (d : Nat) (l : List SV) : SV.bT d (.tup l) = SV.cx d l := rfl
theorem mw (d : Nat) : SV.cx d [] = false := rfl
theorem kY (d : Nat) (x : SV) (r : List SV) : SV.cx d (x :: r) = (SV.bT d x || SV.cx d r) := rfl
theorem mJ (d : Nat) (cs : List SV) : aE.bT d (.box cs) = SV.cx d cs := rfl
theorem y6 (m : Tb aE) (n : Nat) : bN m n [] = some [] := by cases n <;> simp only [bN]
theorem wI (m : Tb aE) (n : Nat) (x : SV) (r : List SV) : bN m n (x :: r) = (dA m n x).bind fun y => (bN m n r).bind fun s => some (y :: s) := by
 cases n <;> (simp only [bN]; cases dA m _ x <;> (try rfl) <;> (cases bN m _ r <;> rfl))
theorem J_ (m : Tb aE) (n : Nat) (x : V) : dA m n (.v x) = some x := by cases n <;> simp only [dA]
theorem FQ (m : Tb aE) (n : Nat) (f : FuncId) (a b : List SV) : dA m (n + 1) (.clo f a b) = (bN m n a).bind fun x => (bN m n b).bind fun y => some (.clo f x y) := by
 simp only [dA]; cases bN m n a <;> (try rfl) <;> (cases bN m n b <;> rfl)
theorem Gu (m : Tb aE) (n : Nat) (l : List SV) : dA m (n + 1) (.tup l) = (bN m n l).bind fun x => some (.tup x) := by
 simp only [dA]; cases bN m n l <;> rfl
theorem nu {α : Type} (n : Nat) : f_ n ([] : Tb α) = [] := rfl
theorem mK {α : Type} (n k : Nat) (x : α) (r : Tb α) : f_ n ((k, x) :: r) = if k = n then f_ n r else (k, x) :: f_ n r := rfl
theorem mapM_nil (f : List SV → List SV) : mapM f [] = [] := rfl
end Go.VE
namespace Go.VE
section
variable {N : Nat → FuncId} {m : Tb aE}
theorem HO : result [] = .tup [] := rfl
theorem HI (x : V) : result [x] = x := rfl
theorem Ic (x y : V) (l : List V) : result (x :: y :: l) = .tup (x :: y :: l) := rfl
theorem AN (p : pU) (a : V) : hY N m p [.v a] = (bh N p [a]).bind fun x => some (.v x) := Ch N m p _ [a] rfl
theorem sQ (p : pU) (a b : V) : hY N m p [.v a, .v b] = (bh N p [a, b]).bind fun x => some (.v x) := Ch N m p _ [a, b] rfl
theorem mm (l : List V) : d6 (l.map .v) = some l := by
 induction l with
 | nil => rfl
 | cons a l ih => simp only [List.map_cons, d6, ih]; rfl
theorem zf (n : Nat) (l : List V) : bN m n (l.map .v) = some l := by
 induction l with
 | nil => exact y6 m n
 | cons a l ih => rw [List.map_cons, wI, J_, ih]; rfl
theorem Sl.GK {α : Type} (l : List α) : (Sl.row l).l = l := rfl
theorem D5 (cs : List V) : jf cs [] [] = some cs := rfl
theorem Da (cs : List V) (off size : Nat) (pl : List (Nat × Nat)) (v : V) (vs : List V) : jf cs ((off, size) :: pl) (v :: vs) =
 if v.cells.length = size ∧ off + v.cells.length ≤ cs.length then jf (cs.take off ++ v.cells ++ cs.drop (off + v.cells.length)) pl vs else none := by
 simp only [jf]
 by_cases h : v.cells.length = size <;> by_cases h2 : off + v.cells.length ≤ cs.length
 ·rw [if_neg (by simp [h]; omega), if_pos ⟨h, h2⟩]
 ·rw [if_pos (by simp [h]; omega), if_neg (fun q => h2 q.2)]
 ·rw [if_pos (by simp [h]), if_neg (fun q => h q.1)]
 ·rw [if_pos (by simp [h]), if_neg (fun q => h q.1)]
theorem Ku (k : IntKind) (n : Int) : V.cells (.int k n) = [.int k n] := rfl
theorem Im (n : Bool) : V.cells (.bool n) = [.bool n] := rfl
theorem JD (n : ByteArray) : V.cells (.str n) = [.str n] := rfl
theorem Jr : V.cells .au = [.au] := rfl
theorem mA (k : IntKind) (n : Int) : V.one (.int k n) = true := rfl
theorem kQ (n : Bool) : V.one (.bool n) = true := rfl
theorem mF (n : ByteArray) : V.one (.str n) = true := rfl
end
end Go.VE
namespace Go.VE
section
variable {S : Sys} {c : b_} {β γ δ : Type} {Q : Out × St → Option β} {L : Option β} {e : γ → Option β}
theorem Ei {dr : Bool} {fr : List Nat} {d : Option Nat} {gd : Option (Nat × Bool)} {now : Bool} {k : K} {as : List Arg} {st : St} (h : wanted st.g gd = some true) :
 e9 S c dr fr ⟨d, gd, now, k, as, [], []⟩ st = e9 S c dr fr ⟨d, none, now, k, as, [], []⟩ st := by
 unfold e9
 rw [h]
 rfl
theorem wm (dr : Bool) (st : St) : vN dr [] st = some st := by cases dr <;> rfl
def lM (f : SV → Option V) : List SV → Option (List V)
 | [] => some []
 | x :: r => (f x).bind fun y => (lM f r).bind fun s => some (y :: s)
def g8 (m : Tb aE) : Nat → SV → Option V
 | 0, x => match x with
  | .v y => some y
  | .own d => match aj m d with
   | some (.sl k es xs) => some (kz k es xs)
   | _ => none
  | .mp d => match aj m d with
   | some (.mp kvs) => some (.fmap kvs)
   | _ => none
  | _ => none
 | n + 1, x => match x with
  | .v y => some y
  | .own d => match aj m d with
   | some (.sl k es xs) => some (kz k es xs)
   | _ => none
  | .ptr d o => match aj m d with
   | some (.box cs) => match lM (g8 m n) cs with
    | some xs => if o ≤ xs.length then some (.fptr (xs.drop o)) else none
    | none => none
   | _ => none
  | .mp d => match aj m d with
   | some (.mp kvs) => some (.fmap kvs)
   | _ => none
  | .clo f a b => (lM (g8 m n) a).bind fun x => (lM (g8 m n) b).bind fun y => some (.clo f x y)
  | .tup l => (lM (g8 m n) l).bind fun x => some (.tup x)
  | _ => none
theorem uw (m : Tb aE) : ∀ (n : Nat), (∀ x, dA m n x = g8 m n x) ∧ ∀ l, bN m n l = lM (g8 m n) l := by
 have hl : ∀ n, (∀ x, dA m n x = g8 m n x) → ∀ l, bN m n l = lM (g8 m n) l := by
  intro n h l
  induction l with
  | nil => exact y6 m n
  | cons a l ih => rw [wI, h a, ih]; rfl
 intro n
 induction n with
 | zero =>
  have h0 : ∀ x, dA m 0 x = g8 m 0 x := by
   intro x
   cases x <;> simp only [dA, g8] <;> rfl
  exact ⟨h0, hl 0 h0⟩
 | succ n ih =>
  have h1 : ∀ x, dA m (n + 1) x = g8 m (n + 1) x := by
   intro x
   cases x with
   | ptr d o => simp only [dA, g8, ih.2]; rfl
   | clo f a b => rw [FQ, ih.2, ih.2]; rfl
   | tup l => rw [Gu, ih.2]; rfl
   | _ => simp only [dA, g8] <;> rfl
  exact ⟨h1, hl _ h1⟩
noncomputable def qo (S : Sys) (c : b_) (dr : Bool) : List Nat → List RO → (St → Option β) → St → Option β
 | _, [], k, st => k st
 | fr, o :: r, k, st => ((vN dr o.pre st).bind (e9 S c dr fr o.strip)).bind fun st' => qo S c dr (if dr then lY fr o.strip else fr) r k (lB o.dead st')
theorem ym (dr : Bool) : ∀ (l : List RO) (fr : List Nat) (k : St → Option β) (st : St), qo S c dr fr l k st = (jC S c dr fr l st).bind k
 | [], _, _, _ => rfl
 | o :: r, fr, k, st => by
  simp only [qo, jC]
  cases (vN dr o.pre st).bind (e9 S c dr fr o.strip) with
  | none => rfl
  | some st' => exact ym dr r _ k _
noncomputable def jN (S : Sys) (c : b_) : RC → (St → Option β) → (Nat → St → Option β) → (St → Option β) → St → Option β
 | .skip, n, _, _, st => n st
 | .ops l, n, _, _, st => qo S c false [] l n st
 | .reg l, n, _, _, st => qo S c true [] l n st
 | .seq a b, n, x, r, st => jN S c a (fun st => jN S c b n x r st) x r st
 | .cond y a b, n, x, r, st => match m6 S.N st.g y with
  | some (.v (.bool t)) => aL t (jN S c a n x r st) (jN S c b n x r st)
  | _ => none
 | .block id a, n, x, r, st => jN S c a n (fun k st => if k = id then n st else x k st) r st
 | .loop a, n, x, r, st => (jT (aX S c a) st).bind fun q => match q with | (.norm, st) => n st | (.exit k, st) => x k st | (.ret, st) => r st
 | .each g ps a b, n, x, r, st => (aX S c (.each g ps a b) st).bind fun q => match q with | (.norm, st) => n st | (.exit k, st) => x k st | (.ret, st) => r st
 | .exit k, _, x, _, st => x k st
 | .ret, _, _, r, st => r st
 | .gh g a, n, x, r, st => (ghost g st).bind fun st => jN S c a n x r st
 | .hg a g, n, x, r, st => jN S c a (fun st => (ghost g st).bind n) x r st
def yq (n : St → Option β) (x : Nat → St → Option β) (r : St → Option β) : Out × St → Option β
 | (.norm, st) => n st
 | (.exit k, st) => x k st
 | (.ret, st) => r st
theorem xB : ∀ (rc : RC) (n : St → Option β) (x : Nat → St → Option β) (r : St → Option β) (st : St), jN S c rc n x r st = (aX S c rc st).bind (yq n x r) := by
 intro rc
 induction rc with
 | skip => intros; rfl
 | ops l => intro n x r st; simp only [jN, aX, ym]; cases jC S c false [] l st <;> rfl
 | reg l => intro n x r st; simp only [jN, aX, ym]; cases jC S c true [] l st <;> rfl
 | seq a b iha ihb =>
  intro n x r st
  simp only [jN, aX, iha, ihb]
  cases h : aX S c a st with
  | none => rfl
  | some q => obtain ⟨o, st'⟩ := q; cases o <;> rfl
 | cond y a b iha ihb =>
  intro n x r st
  simp only [jN, aX, iha, ihb]
  cases m6 S.N st.g y with
  | none => rfl
  | some v => cases v with
   | v z => cases z with
    | bool t => cases t <;> rfl
    | _ => rfl
   | _ => rfl
 | block id a ih =>
  intro n x r st
  simp only [jN, aX, ih]
  cases h : aX S c a st with
  | none => rfl
  | some q =>
   obtain ⟨o, st'⟩ := q
   cases o with
   | exit k => simp only [Option.bind_some, yq]; split <;> rfl
   | _ => rfl
 | loop a ih =>
  intro n x r st
  simp only [jN, aX]
  rfl
 | each g ps a b iha ihb =>
  intro n x r st
  simp only [jN]
  rfl
 | exit k => intros; rfl
 | ret => intros; rfl
 | gh g a ih =>
  intro n x r st
  simp only [jN, aX, ih]
  cases ghost g st <;> rfl
 | hg a g ih =>
  intro n x r st
  simp only [jN, aX, ih]
  cases h : aX S c a st with
  | none => rfl
  | some q =>
   obtain ⟨o, st'⟩ := q
   cases o with
   | norm => simp only [Option.bind_some, yq]; cases ghost g st' <;> rfl
   | _ => rfl
section
variable (S c Q)
mutual
noncomputable def jn : List Fm → St → Option β
 | [] => fun st => Q (.norm, st)
 | .seq b :: fs => fun st => jN S c b (jn fs) (jx fs) (fun st => Q (.ret, st)) st
 | .blk _ :: fs => jn fs
 | .gst g :: fs => fun st => (ghost g st).bind (jn fs)
noncomputable def jx : List Fm → Nat → St → Option β
 | [] => fun k st => Q (.exit k, st)
 | .seq _ :: fs => jx fs
 | .blk id :: fs => fun k st => if k = id then jn fs st else jx fs k st
 | .gst _ :: fs => jx fs
end
noncomputable def jP (rc : RC) (fs : List Fm) (st : St) : Option β := jN S c rc (jn S c Q fs) (jx S c Q fs) (fun st => Q (.ret, st)) st
end
section
variable {dr : Bool} {fr : List Nat} {d : Nat} {dst : Option Nat} {now : Bool} {as : List Arg} {st : St} {α : Type} [aF α]
theorem GU {p : pU} {svs : List SV} {m : Option δ} {v : δ → SV} (hs : bB S.N st.g as = some svs) (hi : isSlice p = false) (h : hY S.N st.m p svs = m.bind fun x => some (v x)) :
 e9 S c dr fr ⟨dst, none, now, .p p, as, [], []⟩ st = m.bind fun x => some (c_ st dst (v x)) := by
 rw [GF _ _ _ _ _ _ _ hi, hs]
 simp only [Option.bind_some, h]
 cases m <;> rfl
theorem yM {p : pU} {svs : List SV} {v : SV} (hs : bB S.N st.g as = some svs) (hi : isSlice p = false) (h : hY S.N st.m p svs = some v) :
 e9 S c dr fr ⟨dst, none, now, .p p, as, [], []⟩ st = some (c_ st dst v) := by
 rw [GF _ _ _ _ _ _ _ hi, hs]
 simp only [Option.bind_some, h]
theorem Ld {n : Nat} {s : Sl α} {k : IntKind} {i : Int} (hs : bB S.N st.g as = some [.v (dI s), .v (.int k i)]) (hn : n = aF.size α) :
 e9 S c dr fr ⟨dst, none, now, .p (.idxS n), as, [], []⟩ st = (idx s i).bind fun x => some (c_ st dst (.v (.fptr (cells x)))) :=
 GU hs rfl (by rw [sQ, HB s k i n hn]; cases idx s i <;> rfl)
theorem MJ {n e : Nat} {s : Sl α} {k : IntKind} {i : Int} (hs : bB S.N st.g as = some [.own e, .v (.int k i)]) (ho : aj st.m e = some (dV s)) (hn : n = aF.size α) :
 e9 S c dr fr ⟨dst, none, now, .p (.idxS n), as, [], []⟩ st = (s.uj i).bind fun j => some (c_ st dst (.el e j 0)) :=
 GU hs rfl (by rw [Ij, ho, Il n e s i hn])
theorem M3 {s : Sl α} (hs : bB S.N st.g as = some [.v (dI s)]) : e9 S c dr fr ⟨dst, none, now, .p .lenSl, as, [], []⟩ st = some (c_ st dst (.v (.int .i64 s.l.length))) :=
 yM hs rfl (by rw [AN, Gd]; rfl)
theorem KG {e : Nat} {s : Sl α} (hs : bB S.N st.g as = some [.own e]) (ho : aj st.m e = some (dV s)) : e9 S c dr fr ⟨dst, none, now, .p .lenSl, as, [], []⟩ st = some (c_ st dst (.v (.int .i64 s.l.length))) :=
 yM hs rfl (by rw [Gq, ho, HQ])
theorem NM {q : Option KT} {u : Option Nat} {k k' : IntKind} {a b : Int} (hs : bB S.N st.g as = some [.v (.int k a), .v (.int k' b)]) : e9 S c dr fr ⟨dst, none, now, .p (.bin q u .shr), as, [], []⟩ st = (sK k a b).bind fun x => some (c_ st dst (.v (.int k x))) :=
 GU hs rfl (by rw [sQ, I_]; cases sK k a b <;> rfl)
theorem FT {s : ByteArray} {k : IntKind} {n : Int} (hs : bB S.N st.g as = some [.v (.str s), .v (.int k n)]) : e9 S c dr fr ⟨dst, none, now, .p .idxStr, as, [], []⟩ st = (jL s n).bind fun x => some (c_ st dst (.v (.int .u8 x))) :=
 GU hs rfl (by rw [sQ, E3]; cases jL s n <;> rfl)
theorem JX {n e i o : Nat} {a : Bool} {s : Sl α} {v : α → V} (hs : bB S.N st.g as = some [.el e i o]) (hd : (!dr || now || fq fr [.el e i o]) = true) (ho : aj st.m e = some (dV s)) (hv : ∀ x : α, (cut (cells x) o n).bind (mk a) = some (v x)) :
 e9 S c dr fr ⟨dst, none, now, .r (.load n a), as, [], []⟩ st = (s.get i).bind fun x => some (c_ st dst (.v (v x))) := by
 rw [z_, hs]
 simp only [Option.bind_some, hd, if_true, Lm, ho, EK]
 cases s.get i with
 | none => rfl
 | some x =>
  simp only [Option.bind_some]
  have := hv x
  cases hc : cut (cells x) o n with
  | none => rw [hc] at this; cases this
  | some r => rw [hc] at this; simp only [Option.bind_some] at this ⊢; rw [this]; rfl
theorem H9 {n e i : Nat} {s : Sl α} {x : V} {a : α} (hs : bB S.N st.g as = some [.el e i 0, .v x]) (hd : (!dr || now) = true) (ho : aj st.m e = some (dV s)) (hx : x.cells = cells a) (hn : n = aF.size α) :
 e9 S c dr fr ⟨dst, none, now, .l (.store n), as, [], []⟩ st = (s.put i a).bind fun s' => some (c_ { st with m := aW st.m e (dV s') } dst (.v .undef)) := by
 rw [uR, hs]
 simp only [Option.bind_some, hd, if_true, Dp, ho]
 rw [CF st.g st.pin st.want st.more st.yid e i n x a hx hn s]
 cases s.put i a <;> rfl
theorem I5 {n : Nat} {z : α} {zero : List V} {i : Int} (hs : bB S.N st.g as = some [.v (.int .i64 i), .v (.int .i64 i)]) (hz : zero = cells z) (hn : n = aF.size α) (hw : st.new d = true) :
 e9 S c dr fr ⟨some d, none, now, .a (.makeSl n zero), as, [], []⟩ st = (pR i z).bind fun s => some { st with g := aW st.g d (.own d), m := aW st.m d (dV s) } := by
 rw [z7, hs]
 simp only [Option.bind_some, hw, if_true]
 rw [MQ z i d n zero hz hn]
 cases pR i z <;> rfl
theorem Nw {n e u : Nat} {s : Sl α} {x : α} (hs : bB S.N st.g as = some [.own e, .own u]) (hd : (!dr || now) = true) (ho : aj st.m e = some (dV s)) (hu : aj st.m u = some (dV (.row [x]))) (hn : n = aF.size α) (hw : St.new { st with m := f_ e st.m } d = true) :
 e9 S c dr fr ⟨some d, none, now, .l (.append n), as, [], []⟩ st = (iM s x).bind fun s' => some { st with g := aW st.g d (.own d), m := aW (f_ e st.m) d (dV s') } := by
 rw [uR, hs]
 simp only [Option.bind_some, hd, if_true, zl, Ce, ho, hu]
 rw [yh n s hn, yh n (.row [x]) hn]
 have := Ea (m := st.m) st.g st.pin st.want st.more st.yid d n e s.l x hn
 simp only [Sl.GK]
 rw [show oV st d n (.own e) (some (rows s.l)) (some (rows [x])) = _ from this]
 have ha : iM (.row s.l) x = iM s x := by cases s <;> rfl
 rw [ha]
 cases iM s x with
 | none => rfl
 | some s' =>
  simp only [Option.bind_some]
  rw [if_pos hw]; rfl
theorem IA {n u : Nat} {x : α} {v : V} (hv : v = .au ∨ v = .dZ) (hs : bB S.N st.g as = some [.v v, .own u]) (hd : (!dr || now) = true) (hu : aj st.m u = some (dV (.row [x]))) (hn : n = aF.size α) (hw : st.new d = true) :
 e9 S c dr fr ⟨some d, none, now, .l (.append n), as, [], []⟩ st = some { st with g := aW st.g d (.own d), m := aW st.m d (dV (.row [x])) } := by
 rw [uR, hs]
 simp only [Option.bind_some, hd, if_true, zl, Ce, hu]
 rw [yh n (.row [x]) hn]
 simp only [Sl.GK]
 rcases hv with rfl | rfl
 ·rw [HC, show oV st d n (.v .au) (some []) (some (rows [x])) = _ from EG (m := st.m) st.g st.pin st.want st.more st.yid d n x hn]
  rw [if_pos hw]; rfl
 ·rw [Ii, show oV st d n (.v .dZ) (some []) (some (rows [x])) = _ from Ef (m := st.m) st.g st.pin st.want st.more st.yid d n x hn]
  rw [if_pos hw]; rfl
theorem JL {f : FuncId} {svs args : List SV} {cs : List V} {m : Option δ} {E : δ → List V} (hc : bl c f cs = m.bind fun r => some (E r)) (hk : S.E.keep f = false) (hs : bB S.N st.g as = some svs) (hf : kc svs = some (f, args))
 (hsh : lM (g8 st.m 8) args = some cs) (hl : V.dB 8 cs = true) (ho : ((!dr || now) || fF st.m fr args) = true) (hr : ∀ r, (V.lvl 8 (result (E r)) && ((result (E r)).scalar || (d6 args).isSome)) = true) :
 e9 S c dr fr ⟨dst, none, now, .c, as, [], []⟩ st = m.bind fun r => some (c_ st dst (.v (result (E r)))) := by
 rw [Nv dr fr dst now as st svs f args hs hf, Hz _ _ _ _ _ _ _ hk, (uw st.m 8).2, hsh]
 simp only [Option.bind_some, hl, ho, Bool.and_self, if_true, hc]
 cases m with
 | none => rfl
 | some r =>
  simp only [Option.bind_some, Ee]
  rw [if_pos (hr r)]; rfl
end
end
end Go.VE
namespace Go.VE
section
variable {S : Sys} {c : b_} {β γ : Type} {Q : Out × St → Option β} {L : Option β} {e : γ → Option β}
theorem rU (rc : RC) (st : St) : jP S c Q rc [] st = (aX S c rc st).bind Q := by
 unfold jP
 rw [xB]
 congr 1
 funext q; obtain ⟨o, st⟩ := q
 cases o <;> rfl
theorem uM (rc : RC) (st : St) : aX S c rc st = jP S c some rc [] st := by
 rw [rU]; cases aX S c rc st <;> rfl
def cj (rs : List RV) : Out × St → Option (List V)
 | (.exit _, _) => none
 | (_, st) => (oY st rs).bind (lM (g8 st.m 8))
theorem HP (rs : List RV) : Bf rs = cj rs := by
 funext q; obtain ⟨o, st⟩ := q
 cases o
 ·simp only [Bf, cj]; congr 1; funext l; exact (uw st.m 8).2 l
 ·rfl
 ·simp only [Bf, cj]; congr 1; funext l; exact (uw st.m 8).2 l
theorem Hr {S : Sys} {T : az} {f : FuncId} {rf : RF} (hT : T f = some rf) (as : List V) (hn : as.length ≤ rf.na) : bl (ah S T) f as = jP S (ah S T) (cj rf.rs) rf.body [] (start (as.map .v) []) := by
 rw [FJ hT as hn, ← Ak, rU, HP]
end
end Go.VE
namespace Go.VE
def kr {α σ ε ρ : Type} (step : α → σ → Option (Fw σ ε ρ)) : List α → σ → Option (Fw σ ε ρ)
 | [], s => some (.n s)
 | x :: xs, s => (step x s).bind fun w => match w with
  | .n s' => kr step xs s'
  | .x e => some (.x e)
  | .r b => some (.r b)
def Fw.sE {ν ε ρ γ : Type} (fn : ν → γ) (fx : ε → γ) (fr : ρ → γ) : Fw ν ε ρ → γ
 | .n a => fn a
 | .x e => fx e
 | .r b => fr b
def Fw.lK {ν ε ρ : Type} (eν : ν → Tb aE) (eε : ε → Nat × Tb aE) (eρ : ρ → Tb aE) : Fw ν ε ρ → Out × Tb aE
 | .n a => (.norm, eν a)
 | .x e => (.exit (eε e).1, (eε e).2)
 | .r b => (.ret, eρ b)
def lK (q : Out × St) : Option (Out × Tb aE) := some (q.1, q.2.m)
section
variable {S : Sys} {c : b_} {β γ : Type} {Q : Out × St → Option β} {L : Option β} {e : γ → Option β}
noncomputable def pI (S : Sys) (c : b_) (b : RC) : Out × St → Option (Out × Tb aE)
 | (.norm, st) => jP S c lK b [] st
 | _ => none
theorem Cz (ps : List Nat) (a b : RC) (st : St) (x : List V) (m : Tb aE) (hx : x.length = ps.length) :
 gl ps (aX S c a) (aX S c b) st x m = jP S c (pI S c b) a [] ⟨sG st.g ps (x.map .v), m, st.pin ++ lP st.g, [], true, 0⟩ := by
 unfold gl
 rw [if_pos hx, rU]
 cases aX S c a ⟨sG st.g ps (x.map .v), m, st.pin ++ lP st.g, [], true, 0⟩ with
 | none => rfl
 | some q =>
  obtain ⟨o, st1⟩ := q
  cases o with
  | norm =>
   simp only [Option.bind_some, pI]
   rw [rU]
   cases aX S c b st1 <;> rfl
  | _ => rfl
end
end Go.VE
namespace Go.VE
def Le {α : Type} (a b : Option α) : Prop := ∀ r, a = some r → b = some r
section
variable {α : Type}
theorem Le.refl (a : Option α) : Le a a := fun _ h => h
theorem Le.of_eq {a b : Option α} (h : b = a) : Le a b := fun _ h2 => h.trans h2
theorem Le.trans {a b d : Option α} (h1 : Le a b) (h2 : Le b d) : Le a d := fun r h => h2 r (h1 r h)
theorem Le.none (b : Option α) : Le (none : Option α) b := fun r h => by cases h
theorem Le.bind {β : Type} {a b : Option α} {f g : α → Option β} (h : Le a b) (hf : ∀ x, Le (f x) (g x)) : Le (a.bind f) (b.bind g) := fun r hr => by
 obtain ⟨x, h1, h2⟩ := Option.bind_eq_some_iff.1 hr
 rw [h x h1]; exact hf x r h2
end
section
variable {S : Sys} {c : b_} {β γ δ : Type} {Q : Out × St → Option β} {L : Option β} {e : γ → Option β}
theorem GX {L' : Option β} {m : Option γ} (h : L = L') (h2 : Le (m.bind e) L') : Le (m.bind e) L := h ▸ h2
theorem sM {dr : Bool} {fr : List Nat} {dst : Option Nat} {now : Bool} {as : List Arg} {st : St} {f : FuncId} {svs args : List SV} {cs : List V} {m : Option δ} {E : δ → List V} (hc : Le (m.bind fun r => some (E r)) (bl c f cs)) (hk : S.E.keep f = false) (hs : bB S.N st.g as = some svs) (hf : kc svs = some (f, args))
 (hsh : lM (g8 st.m 8) args = some cs) (hl : V.dB 8 cs = true) (ho : ((!dr || now) || fF st.m fr args) = true) (hr : ∀ r, (V.lvl 8 (result (E r)) && ((result (E r)).scalar || (d6 args).isSome)) = true) :
 Le (m.bind fun r => some (c_ st dst (.v (result (E r))))) (e9 S c dr fr ⟨dst, none, now, .c, as, [], []⟩ st) := by
 intro q hq
 obtain ⟨r, h1, h2⟩ := Option.bind_eq_some_iff.1 hq
 have hc' : bl c f cs = (some r).bind fun r => some (E r) := hc _ (by rw [h1]; rfl)
 rw [JL (m := some r) hc' hk hs hf hsh hl ho hr]
 exact h2
theorem Fg {σ ε ρ : Type} {f : St → Option (Out × St)} {step : σ → Option (Fw σ ε ρ)} {eσ : σ → St} {eε : ε → Nat × St} {eρ : ρ → St} (h : ∀ s, Le ((step s).bind fun w => some (Fw.out eσ eε eρ w)) (f (eσ s))) (s : σ) :
 Le ((cW step s).bind fun w => some (Fw.out (fun e => Empty.elim e) eε eρ w)) (jT f (eσ s)) := by
 have key : ∀ k s r, iI step k s = some r → gx f k (eσ s) = some (Fw.out (fun e => Empty.elim e) eε eρ r) := by
  intro k
  induction k with
  | zero => intro s r h; simp [iI] at h
  | succ k ih =>
   intro s r hw
   simp only [iI] at hw
   cases hs : step s with
   | none => rw [hs] at hw; cases hw
   | some w =>
    rw [hs] at hw
    have h2 := h s (Fw.out eσ eε eρ w) (by rw [hs]; rfl)
    simp only [gx, h2]
    cases w with
    | n a => exact ih a r hw
    | x e => cases hw; rfl
    | r b => cases hw; rfl
 intro r hr
 obtain ⟨w, h1, h2⟩ := Option.bind_eq_some_iff.1 hr
 obtain ⟨k, hk⟩ := kV.1 h1
 cases h2
 exact jt.2 ⟨k, key k s w hk⟩
theorem MT {σ ε ρ : Type} {a : RC} {fs : List Fm} {step : σ → Option (Fw σ ε ρ)} {eσ : σ → St} {eε : ε → Nat × St} {eρ : ρ → St} {s : σ} {fx : ε → Option γ} {fr : ρ → Option γ}
 (hL : L = jP S c Q (.loop a) fs (eσ s)) (h : ∀ s, Le ((step s).bind fun w => some (Fw.out eσ eε eρ w)) (jP S c some a [] (eσ s)))
 (hx : ∀ x, Le ((fx x).bind e) (jx S c Q fs (eε x).1 (eε x).2)) (hr : ∀ b, Le ((fr b).bind e) (Q (.ret, eρ b))) : Le (((cW step s).bind (Fw.elim fx fr)).bind e) L := by
 subst hL
 have h1 : jP S c Q (.loop a) fs (eσ s) = (jT (aX S c a) (eσ s)).bind (yq (jn S c Q fs) (jx S c Q fs) (fun st => Q (.ret, st))) := by
  unfold jP; rw [xB]; rfl
 rw [h1]
 have h2 := Fg (step := step) (f := aX S c a) (eσ := eσ) (eε := eε) (eρ := eρ) (fun s => by rw [uM]; exact h s) s
 cases hw : cW step s with
 | none => exact Le.none _
 | some w =>
  have h3 := h2 _ (by rw [hw]; rfl)
  rw [h3]
  cases w with
  | n a => cases a
  | x a => exact hx a
  | r a => exact hr a
theorem AH {α σ ε ρ : Type} {f : List V → Tb aE → Option (Out × Tb aE)} {step : α → σ → Option (Fw σ ε ρ)} {eI : α → List V} {eσ : σ → Tb aE} {eε : ε → Nat × Tb aE} {eρ : ρ → Tb aE}
 (h : ∀ x s, Le ((step x s).bind fun w => some (Fw.lK eσ eε eρ w)) (f (eI x) (eσ s))) : ∀ (xs : List α) (s : σ), Le ((kr step xs s).bind fun w => some (Fw.lK eσ eε eρ w)) (kC f (xs.map eI) (eσ s))
 | [], s => fun r hr => hr
 | x :: xs, s => by
  simp only [List.map_cons, kC, kr]
  cases hs : step x s with
  | none => exact Le.none _
  | some w =>
   have h2 := h x s (Fw.lK eσ eε eρ w) (by rw [hs]; rfl)
   rw [h2]
   cases w with
   | n s' => simp only [Option.bind_some, Fw.lK]; exact AH h xs s'
   | x e => exact Le.refl _
   | r b => exact Le.refl _
theorem L0 {α σ ε ρ : Type} {g : Arg} {ps : List Nat} {a b : RC} {fs : List Fm} {f : FuncId} {x y : List V} {items : List α} {eI : α → List V} {step : α → σ → Option (Fw σ ε ρ)} {eσ : σ → Tb aE} {eε : ε → Nat × Tb aE} {eρ : ρ → Tb aE} {gt : Tb SV} {s : σ}
 {fn : σ → Option γ} {fx : ε → Option γ} {fr : ρ → Option γ}
 (hL : L = jP S c Q (.each g ps a b) fs ⟨gt, eσ s, [], [], true, 0⟩) (hg : m6 S.N gt g = some (.v (.clo f x y))) (hi : S.items f x y = some (items.map eI)) (hl : ∀ x, (eI x).length = ps.length)
 (h : ∀ x s, Le ((step x s).bind fun w => some (Fw.lK eσ eε eρ w)) (jP S c (pI S c b) a [] ⟨sG gt ps ((eI x).map .v), eσ s, lP gt, [], true, 0⟩))
 (hn : ∀ s, Le ((fn s).bind e) (jn S c Q fs ⟨gt, eσ s, [], [], true, 0⟩))
 (hx : ∀ x, Le ((fx x).bind e) (jx S c Q fs (eε x).1 ⟨gt, (eε x).2, [], [], true, 0⟩)) (hr : ∀ b, Le ((fr b).bind e) (Q (.ret, ⟨gt, eρ b, [], [], true, 0⟩))) :
 Le (((kr step items s).bind (Fw.sE fn fx fr)).bind e) L := by
 subst hL
 have h1 : jP S c Q (.each g ps a b) fs ⟨gt, eσ s, [], [], true, 0⟩ = (aX S c (.each g ps a b) ⟨gt, eσ s, [], [], true, 0⟩).bind (yq (jn S c Q fs) (jx S c Q fs) (fun st => Q (.ret, st))) := by
  unfold jP; rw [xB]
 rw [h1]
 simp only [aX, hg, hi]
 have h2 := AH (step := step) (f := gl ps (aX S c a) (aX S c b) ⟨gt, eσ s, [], [], true, 0⟩) (eI := eI) (eσ := eσ) (eε := eε) (eρ := eρ) (fun x s => by rw [Cz _ _ _ _ _ _ (hl x)]; exact h x s) items s
 cases hw : kr step items s with
 | none => exact Le.none _
 | some w =>
  have h3 := h2 _ (by rw [hw]; rfl)
  rw [h3]
  cases w with
  | n a => exact hn a
  | x a => exact hx a
  | r a => exact hr a
end
end Go.VE
namespace Go.VE
inductive Fo where
 | rc (c : RC)
 | ops (dr : Bool) (fr : List Nat) (l : List RO)
 | nx
 | ex (k : Nat)
 | rt
abbrev af (g : Tb SV) (m : Tb aE) : St := ⟨g, m, [], [], true, 0⟩
section
variable (S : Sys) (c : b_) {β : Type} (Q : Out × St → Option β)
noncomputable def rn : Fo → List Fm → St → Option β
 | .rc a, fs, st => jP S c Q a fs st
 | .ops dr fr l, fs, st => qo S c dr fr l (jn S c Q fs) st
 | .nx, fs, st => jn S c Q fs st
 | .ex k, fs, st => jx S c Q fs k st
 | .rt, _, st => Q (.ret, st)
noncomputable def sq : Fo → List Fm → St → Option (Fo × List Fm × St)
 | .rc .skip, fs, st => some (.nx, fs, st)
 | .rc (.ops l), fs, st => some (.ops false [] l, fs, st)
 | .rc (.reg l), fs, st => some (.ops true [] l, fs, st)
 | .rc (.seq a b), fs, st => some (.rc a, .seq b :: fs, st)
 | .rc (.cond y a b), fs, st => match m6 S.N st.g y with
  | some (.v (.bool true)) => some (.rc a, fs, st)
  | some (.v (.bool false)) => some (.rc b, fs, st)
  | _ => none
 | .rc (.block id a), fs, st => some (.rc a, .blk id :: fs, st)
 | .rc (.exit k), fs, st => some (.ex k, fs, st)
 | .rc .ret, fs, st => some (.rt, fs, st)
 | .rc (.gh g a), fs, st => match ghost g st with
  | some st' => some (.rc a, fs, st')
  | none => none
 | .rc (.hg a g), fs, st => some (.rc a, .gst g :: fs, st)
 | .rc (.loop _), _, _ => none
 | .rc (.each ..), _, _ => none
 | .ops _ _ [], fs, st => some (.nx, fs, st)
 | .ops dr fr (⟨d, gd, now, k, as, dd, []⟩ :: r), fs, st => match e9 S c dr fr ⟨d, gd, now, k, as, [], []⟩ st with
  | some st' => some (.ops dr (if dr then lY fr ⟨d, gd, now, k, as, [], []⟩ else fr) r, fs, lB dd st')
  | none => none
 | .ops false fr (⟨d, gd, now, k, as, dd, x :: xs⟩ :: r), fs, st => match ghost x st with
  | some st' => some (.ops false fr (⟨d, gd, now, k, as, dd, xs⟩ :: r), fs, st')
  | none => none
 | .ops true _ (⟨_, _, _, _, _, _, _ :: _⟩ :: _), _, _ => none
 | .nx, .seq b :: fs, st => some (.rc b, fs, st)
 | .nx, .blk _ :: fs, st => some (.nx, fs, st)
 | .nx, .gst g :: fs, st => match ghost g st with
  | some st' => some (.nx, fs, st')
  | none => none
 | .nx, [], _ => none
 | .ex k, .seq _ :: fs, st => some (.ex k, fs, st)
 | .ex k, .blk id :: fs, st => some (if k = id then .nx else .ex k, fs, st)
 | .ex k, .gst _ :: fs, st => some (.ex k, fs, st)
 | .ex _, [], _ => none
 | .rt, _, _ => none
noncomputable def fO : Nat → Fo → List Fm → St → Option (Fo × List Fm × St)
 | 0, fo, fs, st => some (fo, fs, st)
 | n + 1, fo, fs, st => match sq S c fo fs st with
  | some (fo', fs', st') => fO n fo' fs' st'
  | none => none
end
section
variable {S : Sys} {c : b_} {β γ δ : Type} {Q : Out × St → Option β} {e : γ → Option β}
theorem FG {fo fo' : Fo} {fs fs' : List Fm} {st st' : St} (h : sq S c fo fs st = some (fo', fs', st')) : rn S c Q fo fs st = rn S c Q fo' fs' st' := by
 cases fo with
 | rc a =>
  cases a with
  | cond y a b =>
   simp only [sq] at h
   split at h
   ·rename_i hs; cases h; simp only [rn, jP, jN, hs, aL, if_true]
   ·rename_i hs; cases h; simp only [rn, jP, jN, hs, aL]; rfl
   ·cases h
  | gh g a =>
   simp only [sq] at h
   split at h
   ·rename_i hs; cases h; simp only [rn, jP, jN, hs, Option.bind_some]
   ·cases h
  | loop a => cases h
  | each g ps a b => cases h
  | seq a b => cases h; simp only [rn, jP, jN, jn, jx]
  | block id a => cases h; simp only [rn, jP, jN, jn, jx]
  | hg a g => cases h; simp only [rn, jP, jN, jn, jx]
  | _ => cases h; simp only [rn, jP, jN]
 | ops dr fr l =>
  cases l with
  | nil => cases h; simp only [rn, qo]
  | cons o r =>
   obtain ⟨d, gd, now, k, as, dd, pre⟩ := o
   cases pre with
   | nil =>
    simp only [sq] at h
    split at h
    ·rename_i hs; cases h; simp only [rn, qo, wm, RO.strip, Option.bind_some, hs]
    ·cases h
   | cons x xs =>
    cases dr with
    | true => cases h
    | false =>
     simp only [sq] at h
     split at h
     ·rename_i hs; cases h
      simp only [rn, qo, RO.strip, vN, m9, Bool.false_eq_true, if_false, hs, Option.bind_some]
     ·cases h
 | nx =>
  cases fs with
  | nil => cases h
  | cons f fs =>
   cases f with
   | seq b => cases h; simp only [rn, jP, jn]
   | blk id => cases h; simp only [rn, jn]
   | gst g =>
    simp only [sq] at h
    split at h
    ·rename_i hs; cases h; simp only [rn, jn, hs, Option.bind_some]
    ·cases h
 | ex k =>
  cases fs with
  | nil => cases h
  | cons f fs =>
   cases f with
   | seq b => cases h; simp only [rn, jx]
   | blk id =>
    cases h
    simp only [rn, jx]
    by_cases hk : k = id
    ·simp only [if_pos hk, rn]
    ·simp only [if_neg hk, rn]
   | gst g => cases h; simp only [rn, jx]
 | rt => cases h
theorem jI : ∀ {n : Nat} {fo fo' : Fo} {fs fs' : List Fm} {st st' : St}, fO S c n fo fs st = some (fo', fs', st') → rn S c Q fo fs st = rn S c Q fo' fs' st'
 | 0, fo, fo', fs, fs', st, st', h => by cases h; rfl
 | n + 1, fo, fo', fs, fs', st, st', h => by
  simp only [fO] at h
  split at h
  ·rename_i a b d hs
   rw [FG hs]; exact jI h
  ·cases h
theorem eY {n : Nat} {fo fo' : Fo} {fs fs' : List Fm} {st st' : St} {m : Option β} (h : fO S c n fo fs st = some (fo', fs', st')) (h2 : Le m (rn S c Q fo' fs' st')) : Le m (rn S c Q fo fs st) := by
 rw [jI h]; exact h2
theorem bp {n : Nat} {fo fo' : Fo} {fs fs' : List Fm} {st st' : St} {r : γ} (h : fO S c n fo fs st = some (fo', fs', st')) (h2 : rn S c Q fo' fs' st' = e r) : Le ((some r).bind e) (rn S c Q fo fs st) := by
 rw [jI h]; exact Le.of_eq h2
theorem aJ {n : Nat} {fo fo' : Fo} {fs fs' : List Fm} {st : St} {A : Bool → St} {t : Bool} {x y : Option γ} (h : fO S c n fo fs st = some (fo', fs', A t))
 (ha : Le (x.bind e) (rn S c Q fo' fs' (A true))) (hb : Le (y.bind e) (rn S c Q fo' fs' (A false))) : Le ((aL t x y).bind e) (rn S c Q fo fs st) := by
 rw [jI h]
 cases t
 ·exact hb
 ·exact ha
theorem dw {m : Option δ} {f : δ → Option γ} {L : Option β} (k : δ → Option β) (h2 : Le (m.bind k) L) (h1 : ∀ r, Le ((f r).bind e) (k r)) : Le ((m.bind f).bind e) L := by
 intro r hr
 cases m with
 | none => cases hr
 | some x => exact h2 r (h1 x r hr)
theorem Rz {n : Nat} {fo : Fo} {fs fs' : List Fm} {st0 : St} {dr : Bool} {q l : List RO} {fr : List Nat} {st : St} {d : Option Nat} {gd : Option (Nat × Bool)} {now : Bool} {k : K} {as : List Arg} {dd : List Nat} {m : Option δ} {g : δ → St} {f : δ → Option γ}
 (hL : fO S c n fo fs st0 = some (.ops dr fr q, fs', st)) (hq : q = ⟨d, gd, now, k, as, dd, []⟩ :: l) (hg : wanted st.g gd = some true)
 (hs : Le (m.bind fun x => some (g x)) (e9 S c dr fr ⟨d, none, now, k, as, [], []⟩ st))
 (h : ∀ x, m = some x → Le ((f x).bind e) (rn S c Q (.ops dr (if dr then lY fr ⟨d, gd, now, k, as, [], []⟩ else fr) l) fs' (lB dd (g x)))) : Le ((m.bind f).bind e) (rn S c Q fo fs st0) := by
 rw [jI hL]
 subst hq
 simp only [rn, qo, RO.strip, wm, Option.bind_some]
 rw [Ei hg]
 cases m with
 | none => exact Le.none _
 | some x => rw [hs (g x) rfl]; exact h x rfl
theorem G8 {n : Nat} {fo : Fo} {fs fs' : List Fm} {st0 : St} {dr : Bool} {q l : List RO} {fr : List Nat} {st st' : St} {d : Option Nat} {gd : Option (Nat × Bool)} {now : Bool} {k : K} {as : List Arg} {dd : List Nat} {m : Option β}
 (hL : fO S c n fo fs st0 = some (.ops dr fr q, fs', st)) (hq : q = ⟨d, gd, now, k, as, dd, []⟩ :: l) (hg : wanted st.g gd = some true)
 (hs : e9 S c dr fr ⟨d, none, now, k, as, [], []⟩ st = some st')
 (h : Le m (rn S c Q (.ops dr (if dr then lY fr ⟨d, gd, now, k, as, [], []⟩ else fr) l) fs' (lB dd st'))) : Le m (rn S c Q fo fs st0) := by
 rw [jI hL]
 subst hq
 simp only [rn, qo, RO.strip, wm, Option.bind_some]
 rw [Ei hg, hs]
 exact h
theorem eJ {n : Nat} {fo : Fo} {fs0 : List Fm} {st : St} {σ ε ρ : Type} {a : RC} {fs : List Fm} {step : σ → Option (Fw σ ε ρ)} {eσ : σ → St} {eε : ε → Nat × St} {eρ : ρ → St} {s : σ} {fx : ε → Option γ} {fr : ρ → Option γ}
 (hL : fO S c n fo fs0 st = some (.rc (.loop a), fs, eσ s)) (h : ∀ s, Le ((step s).bind fun w => some (Fw.out eσ eε eρ w)) (rn S c some (.rc a) [] (eσ s)))
 (hx : ∀ x, Le ((fx x).bind e) (rn S c Q (.ex (eε x).1) fs (eε x).2)) (hr : ∀ b, Le ((fr b).bind e) (Q (.ret, eρ b))) : Le (((cW step s).bind (Fw.elim fx fr)).bind e) (rn S c Q fo fs0 st) := by
 rw [jI hL]
 exact MT (L := rn S c Q (.rc (.loop a)) fs (eσ s)) rfl h hx hr
theorem xk {n : Nat} {fo : Fo} {fs0 : List Fm} {st : St} {α σ ε ρ : Type} {g : Arg} {ps : List Nat} {a b : RC} {fs : List Fm} {f : FuncId} {x y : List V} {items : List α} {eI : α → List V} {step : α → σ → Option (Fw σ ε ρ)} {eσ : σ → Tb aE} {eε : ε → Nat × Tb aE} {eρ : ρ → Tb aE} {gt : Tb SV} {s : σ}
 {fn : σ → Option γ} {fx : ε → Option γ} {fr : ρ → Option γ}
 (hL : fO S c n fo fs0 st = some (.rc (.each g ps a b), fs, af gt (eσ s))) (hg : m6 S.N gt g = some (.v (.clo f x y))) (hi : S.items f x y = some (items.map eI)) (hl : ∀ x, (eI x).length = ps.length)
 (h : ∀ x s, Le ((step x s).bind fun w => some (Fw.lK eσ eε eρ w)) (rn S c (pI S c b) (.rc a) [] ⟨sG gt ps ((eI x).map .v), eσ s, lP gt, [], true, 0⟩))
 (hn : ∀ s, Le ((fn s).bind e) (rn S c Q .nx fs (af gt (eσ s))))
 (hx : ∀ x, Le ((fx x).bind e) (rn S c Q (.ex (eε x).1) fs (af gt (eε x).2))) (hr : ∀ b, Le ((fr b).bind e) (Q (.ret, af gt (eρ b)))) :
 Le (((kr step items s).bind (Fw.sE fn fx fr)).bind e) (rn S c Q fo fs0 st) := by
 rw [jI hL]
 exact L0 (L := rn S c Q (.rc (.each g ps a b)) fs (af gt (eσ s))) rfl hg hi hl h hn hx hr
theorem wJ {b : RC} {st st' : St} {m : Option (Out × Tb aE)} {fs : List Fm} {n : Nat} {fo : Fo} (h : fO S c n fo fs st = some (.nx, [], st')) (h2 : Le m (rn S c lK (.rc b) [] st')) : Le m (rn S c (pI S c b) fo fs st) := by
 rw [jI h]; exact h2
theorem M6 {α : Type} {n : Nat} {fo fo' : Fo} {fs fs' : List Fm} {st : St} {A : Option α → St} {o : Option α} {f : α → Option γ} (h : fO S c n fo fs st = some (fo', fs', A o))
 (h2 : ∀ x, o = some x → Le ((f x).bind e) (rn S c Q fo' fs' (A (some x)))) : Le ((o.bind f).bind e) (rn S c Q fo fs st) := by
 rw [jI h]
 cases o with
 | none => exact Le.none _
 | some x => exact h2 x rfl
theorem cZ {T : az} {f : FuncId} {rf : RF} {as : List V} {m : Option (List V)} (hT : T f = some rf) (hn : as.length ≤ rf.na) (h : Le m (rn S (ah S T) (cj rf.rs) (.rc rf.body) [] (start (as.map .v) []))) : Le m (bl (ah S T) f as) := by
 rw [Hr hT as hn]; exact h
theorem av {r : γ} {L : Option β} (h : L = e r) : Le ((some r).bind e) L := Le.of_eq h
end
section
variable {α : Type} [aF α]
abbrev cv (x : α) : SV := .v (enc x)
abbrev cp (x : α) : SV := .v (.fptr (cells x))
abbrev bx (x : α) : aE := .box ((cells x).map .v)
end
end Go.VE
namespace Go.VE
structure dS (S : Sys) (c : b_) {α δ : Type} (fn : FuncId) (A : α → List V) (E : δ → List V) (p : α → Option δ) (sc : Bool) : Prop where
 k : S.E.keep fn = false
 h : ∀ z, Le ((p z).bind fun r => some (E r)) (bl c fn (A z))
 l : ∀ z, V.dB 8 (A z) = true
 r : ∀ r, V.lvl 8 (result (E r)) = true
 s : sc = true → ∀ r, (result (E r)).scalar = true
section
variable {S : Sys} {c : b_} {β γ δ α : Type} {Q : Out × St → Option β} {e : γ → Option β} {fo : Fo} {fs : List Fm} {st0 : St} {l : List RO} {d : Option Nat} {gd : Option (Nat × Bool)} {now : Bool} {as : List Arg} {dd : List Nat}
noncomputable abbrev iR (S : Sys) (c : b_) (Q : Out × St → Option β) (dr : Bool) (fr : List Nat) (d : Option Nat) (k : K) (l : List RO) (fs : List Fm) (dd : List Nat) (st : St) : Option β :=
 rn S c Q (.ops dr (if dr then (match k with | .p _ | .r _ => fr | _ => match d with | some d => d :: fr | none => fr) else fr) l) fs (lB dd st)
theorem y7 (fr : List Nat) (k : K) : lY fr ⟨d, gd, now, k, as, [], []⟩ = (match k with | .p _ | .r _ => fr | _ => match d with | some d => d :: fr | none => fr) := by
 cases k <;> cases d <;> rfl
theorem lN {n : Nat} {dr : Bool} {fr : List Nat} {q : List RO} {fs' : List Fm} {st : St} {k : K} {m : Option δ} {g : δ → St} {f : δ → Option γ}
 (hL : fO S c n fo fs st0 = some (.ops dr fr q, fs', st)) (hq : q = ⟨d, gd, now, k, as, dd, []⟩ :: l) (hg : wanted st.g gd = some true)
 (hs : Le (m.bind fun x => some (g x)) (e9 S c dr fr ⟨d, none, now, k, as, [], []⟩ st))
 (h : ∀ x, m = some x → Le ((f x).bind e) (iR S c Q dr fr d k l fs' dd (g x))) : Le ((m.bind f).bind e) (rn S c Q fo fs st0) :=
 Rz hL hq hg hs (fun x hx => by rw [y7]; exact h x hx)
theorem kA {n : Nat} {dr : Bool} {fr : List Nat} {q : List RO} {fs' : List Fm} {st st' : St} {k : K} {m : Option β}
 (hL : fO S c n fo fs st0 = some (.ops dr fr q, fs', st)) (hq : q = ⟨d, gd, now, k, as, dd, []⟩ :: l) (hg : wanted st.g gd = some true)
 (hs : e9 S c dr fr ⟨d, none, now, k, as, [], []⟩ st = some st') (h : Le m (iR S c Q dr fr d k l fs' dd st')) : Le m (rn S c Q fo fs st0) :=
 G8 hL hq hg hs (by rw [y7]; exact h)
section
variable [aF α]
theorem ey (n : Nat) (dr : Bool) (fr : List Nat) (q : List RO) (fs' : List Fm) (st : St) (k : IntKind) {sz : Nat} {s : Sl α} {i : Int} {f : α → Option γ} (hq : q = ⟨d, gd, now, .p (.idxS sz), as, dd, []⟩ :: l)
 (hL : (fO S c n fo fs st0, wanted st.g gd, bB S.N st.g as, sz) = (some (.ops dr fr q, fs', st), some true, some [.v (dI s), .v (.int k i)], aF.size α))
 (h : ∀ x, idx s i = some x → Le ((f x).bind e) (iR S c Q dr fr d (.p (.idxS sz)) l fs' dd (c_ st d (cp x)))) : Le (((idx s i).bind f).bind e) (rn S c Q fo fs st0) := by
 simp only [Prod.mk.injEq] at hL
 exact lN hL.1 hq hL.2.1 (Le.of_eq (Ld hL.2.2.1 hL.2.2.2)) h
theorem ID (n : Nat) (dr : Bool) (fr : List Nat) (q : List RO) (fs' : List Fm) (st : St) (k : IntKind) (u : Nat) {sz : Nat} {s : Sl α} {i : Int} {f : Nat → Option γ} (hq : q = ⟨d, gd, now, .p (.idxS sz), as, dd, []⟩ :: l)
 (hL : (fO S c n fo fs st0, wanted st.g gd, bB S.N st.g as, aj st.m u, sz) = (some (.ops dr fr q, fs', st), some true, some [.own u, .v (.int k i)], some (dV s), aF.size α))
 (h : ∀ x, s.uj i = some x → Le ((f x).bind e) (iR S c Q dr fr d (.p (.idxS sz)) l fs' dd (c_ st d (.el u x 0)))) : Le (((s.uj i).bind f).bind e) (rn S c Q fo fs st0) := by
 simp only [Prod.mk.injEq] at hL
 exact lN hL.1 hq hL.2.1 (Le.of_eq (MJ hL.2.2.1 hL.2.2.2.1 hL.2.2.2.2)) h
theorem Qv (n : Nat) (dr : Bool) (fr : List Nat) (q : List RO) (fs' : List Fm) (st : St) (u o : Nat) (v : α → V) {sz : Nat} {a : Bool} {s : Sl α} {i : Nat} {f : α → Option γ} (hq : q = ⟨d, gd, now, .r (.load sz a), as, dd, []⟩ :: l)
 (hL : (fO S c n fo fs st0, wanted st.g gd, bB S.N st.g as, aj st.m u, (!dr || now || fq fr [.el u i o])) = (some (.ops dr fr q, fs', st), some true, some [.el u i o], some (dV s), true)) (hv : ∀ x : α, (cut (cells x) o sz).bind (mk a) = some (v x))
 (h : ∀ x, s.get i = some x → Le ((f x).bind e) (iR S c Q dr fr d (.r (.load sz a)) l fs' dd (c_ st d (.v (v x))))) : Le (((s.get i).bind f).bind e) (rn S c Q fo fs st0) := by
 simp only [Prod.mk.injEq] at hL
 exact lN hL.1 hq hL.2.1 (Le.of_eq (JX hL.2.2.1 hL.2.2.2.2 hL.2.2.2.1 hv)) h
theorem Qo (n : Nat) (dr : Bool) (fr : List Nat) (q : List RO) (fs' : List Fm) (st : St) (u : Nat) (x : V) {sz : Nat} {s : Sl α} {i : Nat} {a : α} {f : Sl α → Option γ} (hq : q = ⟨d, gd, now, .l (.store sz), as, dd, []⟩ :: l)
 (hL : (fO S c n fo fs st0, wanted st.g gd, bB S.N st.g as, aj st.m u, (!dr || now), x.cells, sz) = (some (.ops dr fr q, fs', st), some true, some [.el u i 0, .v x], some (dV s), true, cells a, aF.size α))
 (h : ∀ s', s.put i a = some s' → Le ((f s').bind e) (iR S c Q dr fr d (.l (.store sz)) l fs' dd (c_ { st with m := aW st.m u (dV s') } d (.v .undef)))) : Le (((s.put i a).bind f).bind e) (rn S c Q fo fs st0) := by
 simp only [Prod.mk.injEq] at hL
 exact lN hL.1 hq hL.2.1 (Le.of_eq (H9 hL.2.2.1 hL.2.2.2.2.1 hL.2.2.2.1 hL.2.2.2.2.2.1 hL.2.2.2.2.2.2)) h
theorem O3 (n : Nat) (dr : Bool) (fr : List Nat) (q : List RO) (fs' : List Fm) (st : St) {u : Nat} {sz : Nat} {zero : List V} {i : Int} {z : α} {f : Sl α → Option γ} (hq : q = ⟨some u, gd, now, .a (.makeSl sz zero), as, dd, []⟩ :: l)
 (hn : st.new u = true) (hL : (fO S c n fo fs st0, wanted st.g gd, bB S.N st.g as, zero, sz) = (some (.ops dr fr q, fs', st), some true, some [.v (.int .i64 i), .v (.int .i64 i)], cells z, aF.size α))
 (h : ∀ s', pR i z = some s' → Le ((f s').bind e) (iR S c Q dr fr (some u) (.a (.makeSl sz zero)) l fs' dd { st with g := aW st.g u (.own u), m := aW st.m u (dV s') })) : Le (((pR i z).bind f).bind e) (rn S c Q fo fs st0) := by
 simp only [Prod.mk.injEq] at hL
 exact lN hL.1 hq hL.2.1 (Le.of_eq (I5 hL.2.2.1 hL.2.2.2.1 hL.2.2.2.2 hn)) h
theorem vV (n : Nat) (dr : Bool) (fr : List Nat) (q : List RO) (fs' : List Fm) (st : St) (o w : Nat) {u : Nat} {sz : Nat} {s : Sl α} {x : α} {f : Sl α → Option γ} (hq : q = ⟨some u, gd, now, .l (.append sz), as, dd, []⟩ :: l)
 (hn : St.new { st with m := f_ o st.m } u = true) (hL : (fO S c n fo fs st0, wanted st.g gd, bB S.N st.g as, (!dr || now), aj st.m o, aj st.m w, sz) = (some (.ops dr fr q, fs', st), some true, some [.own o, .own w], true, some (dV s), some (dV (.row [x])), aF.size α))
 (h : ∀ s', iM s x = some s' → Le ((f s').bind e) (iR S c Q dr fr (some u) (.l (.append sz)) l fs' dd { st with g := aW st.g u (.own u), m := aW (f_ o st.m) u (dV s') })) : Le (((iM s x).bind f).bind e) (rn S c Q fo fs st0) := by
 simp only [Prod.mk.injEq] at hL
 exact lN hL.1 hq hL.2.1 (Le.of_eq (Nw hL.2.2.1 hL.2.2.2.1 hL.2.2.2.2.1 hL.2.2.2.2.2.1 hL.2.2.2.2.2.2 hn)) h
theorem MH (n : Nat) (dr : Bool) (fr : List Nat) (q : List RO) (fs' : List Fm) (st : St) (w : Nat) (v : V) (x : α) {u : Nat} {sz : Nat} {m : Option β} (hv : v = .au ∨ v = .dZ) (hq : q = ⟨some u, gd, now, .l (.append sz), as, dd, []⟩ :: l)
 (hn : st.new u = true) (hL : (fO S c n fo fs st0, wanted st.g gd, bB S.N st.g as, (!dr || now), aj st.m w, sz) = (some (.ops dr fr q, fs', st), some true, some [.v v, .own w], true, some (dV (.row [x])), aF.size α))
 (h : Le m (iR S c Q dr fr (some u) (.l (.append sz)) l fs' dd { st with g := aW st.g u (.own u), m := aW st.m u (dV (.row [x])) })) : Le m (rn S c Q fo fs st0) := by
 simp only [Prod.mk.injEq] at hL
 exact kA hL.1 hq hL.2.1 (IA hv hL.2.2.1 hL.2.2.2.1 hL.2.2.2.2.1 hL.2.2.2.2.2 hn) h
theorem dP (n : Nat) (dr : Bool) (fr : List Nat) (q : List RO) (fs' : List Fm) (st : St) (s : Sl α) {m : Option β} (hq : q = ⟨d, gd, now, .p .lenSl, as, dd, []⟩ :: l)
 (hL : (fO S c n fo fs st0, wanted st.g gd, bB S.N st.g as) = (some (.ops dr fr q, fs', st), some true, some [.v (dI s)]))
 (h : Le m (iR S c Q dr fr d (.p .lenSl) l fs' dd (c_ st d (.v (.int .i64 s.l.length))))) : Le m (rn S c Q fo fs st0) := by
 simp only [Prod.mk.injEq] at hL
 exact kA hL.1 hq hL.2.1 (M3 hL.2.2) h
theorem Co (n : Nat) (dr : Bool) (fr : List Nat) (q : List RO) (fs' : List Fm) (st : St) (u : Nat) (s : Sl α) {m : Option β} (hq : q = ⟨d, gd, now, .p .lenSl, as, dd, []⟩ :: l)
 (hL : (fO S c n fo fs st0, wanted st.g gd, bB S.N st.g as, aj st.m u) = (some (.ops dr fr q, fs', st), some true, some [.own u], some (dV s)))
 (h : Le m (iR S c Q dr fr d (.p .lenSl) l fs' dd (c_ st d (.v (.int .i64 s.l.length))))) : Le m (rn S c Q fo fs st0) := by
 simp only [Prod.mk.injEq] at hL
 exact kA hL.1 hq hL.2.1 (KG hL.2.2.1 hL.2.2.2) h
end
section
variable {q : List RO} {fs' : List Fm}
theorem P0 (n : Nat) (dr : Bool) (fr : List Nat) (q : List RO) (fs' : List Fm) (st : St) (k' : IntKind) {k : IntKind} {kt : Option KT} {u : Option Nat} {a b : Int} {f : Int → Option γ} (hq : q = ⟨d, gd, now, .p (.bin kt u .shr), as, dd, []⟩ :: l)
 (hL : (fO S c n fo fs st0, wanted st.g gd, bB S.N st.g as) = (some (.ops dr fr q, fs', st), some true, some [.v (.int k a), .v (.int k' b)]))
 (h : ∀ x, sK k a b = some x → Le ((f x).bind e) (iR S c Q dr fr d (.p (.bin kt u .shr)) l fs' dd (c_ st d (.v (.int k x))))) : Le (((sK k a b).bind f).bind e) (rn S c Q fo fs st0) := by
 simp only [Prod.mk.injEq] at hL
 exact lN hL.1 hq hL.2.1 (Le.of_eq (NM hL.2.2)) h
theorem Cq (n : Nat) (dr : Bool) (fr : List Nat) (q : List RO) (fs' : List Fm) (st : St) (k : IntKind) {a : ByteArray} {b : Int} {f : Int → Option γ} (hq : q = ⟨d, gd, now, .p .idxStr, as, dd, []⟩ :: l)
 (hL : (fO S c n fo fs st0, wanted st.g gd, bB S.N st.g as) = (some (.ops dr fr q, fs', st), some true, some [.v (.str a), .v (.int k b)]))
 (h : ∀ x, jL a b = some x → Le ((f x).bind e) (iR S c Q dr fr d (.p .idxStr) l fs' dd (c_ st d (.v (.int .u8 x))))) : Le (((jL a b).bind f).bind e) (rn S c Q fo fs st0) := by
 simp only [Prod.mk.injEq] at hL
 exact lN hL.1 hq hL.2.1 (Le.of_eq (FT hL.2.2)) h
end
theorem tu (m : Tb aE) (n : Nat) (l : List V) : lM (g8 m n) (l.map .v) = some l := by rw [← (uw m n).2, zf]
variable {A : α → List V} {E : δ → List V} {p : α → Option δ} {fn : FuncId} {sc : Bool}
theorem kK (n : Nat) (dr : Bool) (fr : List Nat) (q : List RO) (fs' : List Fm) (st : St) (F : dS S c fn A E p true) (z : α) (svs args : List SV) {f : δ → Option γ} (hq : q = ⟨d, gd, now, .c, as, dd, []⟩ :: l)
 (hL : (fO S c n fo fs st0, wanted st.g gd, bB S.N st.g as, kc svs, lM (g8 st.m 8) args, ((!dr || now) || fF st.m fr args)) = (some (.ops dr fr q, fs', st), some true, some svs, some (fn, args), some (A z), true))
 (h : ∀ x, p z = some x → Le ((f x).bind e) (iR S c Q dr fr d .c l fs' dd (c_ st d (.v (result (E x)))))) : Le (((p z).bind f).bind e) (rn S c Q fo fs st0) := by
 simp only [Prod.mk.injEq] at hL
 exact lN hL.1 hq hL.2.1 (sM (F.h z) F.k hL.2.2.1 hL.2.2.2.1 hL.2.2.2.2.1 (F.l z) hL.2.2.2.2.2 (fun r => by rw [F.r, F.s rfl]; rfl)) h
theorem bg (n : Nat) (fr : List Nat) (q : List RO) (fs' : List Fm) (st : St) (F : dS S c fn A E p sc) (z : α) {f : δ → Option γ} (hq : q = ⟨d, gd, now, .c, as, dd, []⟩ :: l)
 (hL : (fO S c n fo fs st0, wanted st.g gd, bB S.N st.g as) = (some (.ops false fr q, fs', st), some true, some (.v (.clo fn [] []) :: (A z).map .v)))
 (h : ∀ x, p z = some x → Le ((f x).bind e) (iR S c Q false fr d .c l fs' dd (c_ st d (.v (result (E x)))))) : Le (((p z).bind f).bind e) (rn S c Q fo fs st0) := by
 simp only [Prod.mk.injEq] at hL
 have hc : kc (.v (.clo fn [] []) :: (A z).map .v) = some (fn, (A z).map .v) := by simp [kc]
 exact lN hL.1 hq hL.2.1 (sM (F.h z) F.k hL.2.2 hc (tu _ _ _) (F.l z) rfl (fun r => by rw [F.r, mm]; simp)) h
theorem rQ (n : Nat) (dr : Bool) (fr : List Nat) (q : List RO) (fs' : List Fm) (st : St) (F : dS S c fn A E p true) (z : α) (en as' : List V) {f : δ → Option γ} (hq : q = ⟨d, gd, now, .c, as, dd, []⟩ :: l) (hA : A z = as' ++ en)
 (hL : (fO S c n fo fs st0, wanted st.g gd, bB S.N st.g as, (!dr || now || fF st.m fr [])) = (some (.ops dr fr q, fs', st), some true, some (.v (.clo fn [] en) :: as'.map .v), true))
 (h : ∀ x, p z = some x → Le ((f x).bind e) (iR S c Q dr fr d .c l fs' dd (c_ st d (.v (result (E x)))))) : Le (((p z).bind f).bind e) (rn S c Q fo fs st0) := by
 simp only [Prod.mk.injEq] at hL
 have hc : kc (.v (.clo fn [] en) :: as'.map .v) = some (fn, (A z).map .v) := by rw [hA]; simp [kc]
 have hnil : ∀ d (vs : List V), SV.cx d (vs.map .v) = false := fun d vs => by
  induction vs with
  | nil => rfl
  | cons a l ih => simp only [List.map_cons, SV.cx, SV.bT, ih, Bool.or_self]
 have ho : (!dr || now || fF st.m fr ((A z).map .v)) = true := by
  have : fF st.m fr ((A z).map .v) = fF st.m fr [] := by unfold fF; simp only [hnil]; rfl
  rw [this]; exact hL.2.2.2
 exact lN hL.1 hq hL.2.1 (sM (F.h z) F.k hL.2.2.1 hc (tu _ _ _) (F.l z) ho (fun r => by rw [F.r, F.s rfl]; rfl)) h
end
end Go.VE
namespace Go.VE
abbrev iv (n : Int) : SV := .v (.int .i64 n)
abbrev bv (b : Bool) : SV := .v (.bool b)
abbrev len {α : Type} (s : Sl α) : Int := ((List.length (Sl.l s) : Nat) : Int)
abbrev o1 (d : Nat) (a : Arg) (dd : List Nat) : RO := ⟨some d, none, false, .p .id, [a], dd, []⟩
abbrev o2 (d : Nat) (k : K) (as : List Arg) (dd : List Nat) : RO := ⟨some d, none, false, k, as, dd, []⟩
abbrev o3 (d s : Nat) (b : Bool) (k : K) (as : List Arg) (dd : List Nat) : RO := ⟨some d, some (s, b), false, k, as, dd, []⟩
def NW (a b : aa) : Bool := [a.proc, a.index] == [b.proc, b.index]
mutual
theorem xN : ∀ {n : Nat} {x : V}, V.lvl n x = true → V.lvl (n + 1) x = true
 | 0, .fsl .., h => by simp [V.lvl] at h
 | 0, .fptr .., h => by simp [V.lvl] at h
 | 0, .fmap .., h => by simp [V.lvl] at h
 | 0, .agg .., h => by simp [V.lvl] at h
 | 0, .tup .., h => by simp [V.lvl] at h
 | 0, .clo .., h => by simp [V.lvl] at h
 | n + 1, .fsl es xs, h => by simp only [V.lvl] at h ⊢; exact AF h
 | n + 1, .fptr cs, h => by simp only [V.lvl] at h ⊢; exact nv h
 | n + 1, .fmap kvs, h => by simp only [V.lvl] at h ⊢; exact B4 h
 | n + 1, .agg cs, h => by simp only [V.lvl] at h ⊢; exact nv h
 | n + 1, .tup cs, h => by simp only [V.lvl] at h ⊢; exact nv h
 | n + 1, .clo f a b, h => by simp only [V.lvl, Bool.and_eq_true] at h ⊢; exact ⟨nv h.1, nv h.2⟩
 | 0, .bool _, _ | 0, .int .., _ | 0, .str _, _ | 0, .bX, _ | 0, .fh, _ | 0, .aH, _ | 0, .dZ, _ | 0, .au, _ | 0, .hsl .., _ | 0, .hptr .., _ | 0, .yld _, _ | 0, .hmap _, _ => rfl
 | _ + 1, .bool _, _ | _ + 1, .int .., _ | _ + 1, .str _, _ | _ + 1, .bX, _ | _ + 1, .fh, _ | _ + 1, .aH, _ | _ + 1, .dZ, _ | _ + 1, .au, _ | _ + 1, .hsl .., _ | _ + 1, .hptr .., _ | _ + 1, .yld _, _ | _ + 1, .hmap _, _ => rfl
theorem nv : ∀ {n : Nat} {x : List V}, V.dB n x = true → V.dB (n + 1) x = true
 | n, [], _ => iF _
 | n, a :: l, h => by rw [gF, Bool.and_eq_true] at h ⊢; exact ⟨xN h.1, nv h.2⟩
theorem AF : ∀ {n : Nat} {x : List (List V)}, V.m_ n x = true → V.m_ (n + 1) x = true
 | n, [], _ => by simp only [V.m_]
 | n, a :: l, h => by simp only [V.m_, Bool.and_eq_true] at h ⊢; exact ⟨nv h.1, AF h.2⟩
theorem B4 : ∀ {n : Nat} {x : List (V × V)}, V.r8 n x = true → V.r8 (n + 1) x = true
 | n, [], _ => by simp only [V.r8]
 | n, (k, v) :: l, h => by simp only [V.r8, Bool.and_eq_true] at h ⊢; exact ⟨⟨xN h.1.1, xN h.1.2⟩, B4 h.2⟩
end
section
variable {α : Type} [aF α]
theorem oO (h : aF.agg α = false) (a : α) : cells a = [enc a] := by
 have hl : (cells a).length = 1 := by rw [show (cells a).length = _ from aF.len a, aF.plain h]
 unfold enc
 rw [if_neg (by simp [h])]
 match hc : cells a, hl with
 | [x], _ => rfl
theorem rF (h : aF.agg α = true) (a : α) : enc a = .agg (cells a) := by unfold enc; rw [if_pos h]
theorem Hw {n : Nat} [Lv n α] (a : α) : V.lvl (n + 1) (enc a) = true := by
 have h := Lv.lv (n := n) a
 cases ha : aF.agg α with
 | true => rw [rF ha]; exact h
 | false =>
  rw [oO ha, gF, Bool.and_eq_true] at h
  exact xN h.1
theorem JC {n : Nat} [Lv n α] (a : α) : V.lvl (n + 1) (.fptr (cells a)) = true := Lv.lv a
theorem jX (a : α) : V.aN (enc a) = true := by
 have h : V.bK (cells a) = true := aF.aN a
 cases ha : aF.agg α with
 | true => rw [rF ha]; exact h
 | false =>
  rw [oO ha] at h
  simp only [V.bK, Bool.and_true] at h
  exact h
theorem kN (s : Sl α) : V.one (enc s) = true := zJ s
theorem kJ {n : Nat} [Lv n α] (s : Sl α) : V.lvl (n + 1) (enc s) = true := zw s
theorem FV (s : α) (h : aF.agg α = false) : V.one (enc s) = true := by
 have := aF.one s
 rw [show aF.cells s = cells s from rfl, oO h] at this
 simpa using this
end
instance {α : Type} [aF α] : aF (Option α) where
 cells o := [match o with | none => .bX | some x => .fptr (cells x)]
 agg := false
 size := 1
 len _ := rfl
 aN o := by
  cases o with
  | none => rfl
  | some x => simp only [V.bK, V.aN, Bool.and_true]; exact aF.aN x
 one o := by cases o <;> rfl
 plain _ := rfl
instance {n : Nat} {α : Type} [aF α] [Lv n α] : Lv (n + 1) (Option α) := ⟨fun o => by
 cases o with
 | none => rfl
 | some x =>
  show V.dB (n + 1) [.fptr (cells x)] = true
  rw [gF, iF, Bool.and_true]; exact Lv.lv x⟩
structure U8 where
 v : Int
 deriving Inhabited, DecidableEq
instance : aF U8 where
 cells n := [.int .u8 n.v]
 agg := false
 size := 1
 len _ := rfl
 aN _ := rfl
 one _ := rfl
 plain _ := rfl
instance {n : Nat} : Lv n U8 := ⟨fun _ => by cases n <;> rfl⟩
structure Oc where
 v : Int
 deriving Inhabited, DecidableEq
instance : aF Oc where
 cells n := [.int .u64 n.v]
 agg := false
 size := 1
 len _ := rfl
 aN _ := rfl
 one _ := rfl
 plain _ := rfl
instance {n : Nat} : Lv n Oc := ⟨fun _ => by cases n <;> rfl⟩
structure OJ where
 v : Int
 deriving Inhabited, DecidableEq
instance : aF OJ where
 cells n := [.int .u32 n.v]
 agg := false
 size := 1
 len _ := rfl
 aN _ := rfl
 one _ := rfl
 plain _ := rfl
instance {n : Nat} : Lv n OJ := ⟨fun _ => by cases n <;> rfl⟩
structure OK where
 v : Int
 deriving Inhabited, DecidableEq
instance : aF OK where
 cells n := [.int .i32 n.v]
 agg := false
 size := 1
 len _ := rfl
 aN _ := rfl
 one _ := rfl
 plain _ := rfl
instance {n : Nat} : Lv n OK := ⟨fun _ => by cases n <;> rfl⟩
structure fZ (S : Sys) (c : b_) {α δ : Type} (g : FuncId) (e : List V) (A : α → List V) (R : δ → List V) (p : α → Option δ) : Prop where
 f : dS S c g (fun z => A z ++ e) R p true
 d : V.dB 7 e = true
theorem fZ.of {S : Sys} {c : b_} {α α' δ : Type} {fn : FuncId} {e : List V} {A : α → List V} {A' : α' → List V} {E : δ → List V} {P : α → Option δ} {p : α' → Option δ} (F : dS S c fn A E P true) (ι : α' → α)
 (hA : ∀ z, A (ι z) = A' z ++ e) (hp : ∀ z, P (ι z) = p z) (hd : V.dB 7 e = true) : fZ S c fn e A' E p where
 f := { k := F.k, h := fun z => by rw [← hp, ← hA]; exact F.h (ι z), l := fun z => by rw [← hA]; exact F.l (ι z), r := F.r, s := F.s }
 d := hd
section
variable {S : Sys} {c : b_} {β γ δ α : Type} {Q : Out × St → Option β} {e : γ → Option β} {fo : Fo} {fs : List Fm} {st0 : St} {l : List RO} {d : Option Nat} {gd : Option (Nat × Bool)} {now : Bool} {as : List Arg} {dd : List Nat}
theorem Kc {A : α → List V} {E : δ → List V} {p : α → Option δ} {fn : FuncId} {sc : Bool} (n : Nat) (dr : Bool) (fr : List Nat) (q : List RO) (fs' : List Fm) (st : St) (F : dS S c fn A E p sc) (z : α) (svs : List SV) {f : δ → Option γ} (hq : q = ⟨d, gd, now, .c, as, dd, []⟩ :: l)
 (hL : (fO S c n fo fs st0, wanted st.g gd, bB S.N st.g as, kc svs, (!dr || now || fF st.m fr [])) = (some (.ops dr fr q, fs', st), some true, some svs, some (fn, (A z).map .v), true))
 (h : ∀ x, p z = some x → Le ((f x).bind e) (iR S c Q dr fr d .c l fs' dd (c_ st d (.v (result (E x)))))) : Le (((p z).bind f).bind e) (rn S c Q fo fs st0) := by
 simp only [Prod.mk.injEq] at hL
 have hnil : ∀ d (vs : List V), SV.cx d (vs.map .v) = false := fun d vs => by
  induction vs with
  | nil => rfl
  | cons a l ih => simp only [List.map_cons, SV.cx, SV.bT, ih, Bool.or_self]
 have ho : (!dr || now || fF st.m fr ((A z).map .v)) = true := by
  have : fF st.m fr ((A z).map .v) = fF st.m fr [] := by unfold fF; simp only [hnil]; rfl
  rw [this]; exact hL.2.2.2.2
 exact lN hL.1 hq hL.2.1 (sM (F.h z) F.k hL.2.2.1 hL.2.2.2.1 (tu _ _ _) (F.l z) ho (fun r => by rw [F.r, mm]; simp)) h
theorem qS {α : Type} [aF α] (a : α) : V.cells (enc a) = cells a := by
 cases ha : aF.agg α with
 | true => rw [rF ha]; rfl
 | false =>
  have h1 : V.one (enc a) = true := FV a ha
  rw [oO ha]
  cases h : enc a <;> first | rfl | (rw [h] at h1; cases h1)
theorem rH {α : Type} [aF α] (a : α) : (cells a).all V.one = true := aF.one a
theorem gI {α : Type} [aF α] (a : α) : (cells a).length = aF.size α := aF.len a
theorem gm [aF α] (n : Nat) (dr : Bool) (fr : List Nat) (q : List RO) (fs' : List Fm) (st : St) (x : α) {u : Nat} {m : Option β} (hq : q = ⟨some u, gd, now, .a .box, as, dd, []⟩ :: l)
 (h4 : st.new u = true) (hL : (fO S c n fo fs st0, wanted st.g gd, bB S.N st.g as) = (some (.ops dr fr q, fs', st), some true, some [cv x]))
 (h : Le m (iR S c Q dr fr (some u) (.a .box) l fs' dd { st with g := aW st.g u (.ptr u 0), m := aW st.m u (bx x) })) : Le m (rn S c Q fo fs st0) := by
 simp only [Prod.mk.injEq] at hL
 obtain ⟨h1, h2, h3⟩ := hL
 refine kA h1 hq h2 ?_ h
 rw [z7, h3]
 simp only [Option.bind_some, h4, if_true, lX, qS, rH]
theorem Ast [aF α] (n : Nat) (dr : Bool) (fr : List Nat) (q : List RO) (fs' : List Fm) (st : St) (u o : Nat) (x : α) (cs cs' : List SV) {sz : Nat} {m : Option β} (hq : q = ⟨d, gd, now, .l (.store sz), as, dd, []⟩ :: l)
 (hL : (fO S c n fo fs st0, wanted st.g gd, bB S.N st.g as, aj st.m u, (!dr || now), sz, Nat.ble (o + sz) cs.length, cs.take o ++ (cells x).map .v ++ cs.drop (o + sz)) = (some (.ops dr fr q, fs', st), some true, some [.ptr u o, cv x], some (.box cs), true, aF.size α, true, cs'))
 (h : Le m (iR S c Q dr fr d (.l (.store sz)) l fs' dd (c_ { st with m := aW st.m u (.box cs') } d (.v .undef)))) : Le m (rn S c Q fo fs st0) := by
 simp only [Prod.mk.injEq] at hL
 obtain ⟨h1, h2, h3, h4, h5, h6, h7, h8⟩ := hL
 refine kA h1 hq h2 ?_ h
 rw [uR, h3]
 subst h6
 have h9 := Nat.le_of_ble_eq_true h7
 simp only [Option.bind_some, h5, if_true, k_, h4, nJ, qS, gI, rH, h9, and_self, h8, Option.map_some]
theorem t9 {α : Type} [aF α] : ∀ (xs : List α) (pre : List (List V)) (suf : List (List V)), suf.length = xs.length → gn (aF.size α) (pre ++ suf) ((List.range' pre.length xs.length).zip (xs.map enc)) = some (pre ++ rows xs)
 | [], pre, suf, h => by
  have : suf = [] := List.eq_nil_of_length_eq_zero h
  subst this; rfl
 | x :: xs, pre, s :: suf, h => by
  simp only [List.length_cons, List.range'_succ, List.map_cons, List.zip_cons_cons, gn, qS, gI, rH]
  rw [if_pos ⟨trivial, by simp, trivial⟩]
  have := t9 xs (pre ++ [cells x]) suf (by simpa using h)
  simp only [List.length_append, List.length_cons, List.length_nil, Nat.zero_add] at this
  have e : (pre ++ s :: suf).set pre.length (cells x) = pre ++ [cells x] ++ suf := by simp
  rw [e, this]
  simp [rows]
theorem Kd [aF α] (n : Nat) (dr : Bool) (fr : List Nat) (q : List RO) (fs' : List Fm) (st : St) (xs : List α) {u sz ln : Nat} {zero : List V} {ix : List Nat} {m : Option β} (hq : q = ⟨some u, gd, now, .a (.buildSl sz ln zero ix), as, dd, []⟩ :: l)
 (h4 : st.new u = true) (hL : (fO S c n fo fs st0, wanted st.g gd, bB S.N st.g as, sz, ln, ix) = (some (.ops dr fr q, fs', st), some true, some ((xs.map enc).map .v), aF.size α, xs.length, List.range' 0 xs.length))
 (h : Le m (iR S c Q dr fr (some u) (.a (.buildSl sz ln zero ix)) l fs' dd { st with g := aW st.g u (.own u), m := aW st.m u (dV (.row xs)) })) : Le m (rn S c Q fo fs st0) := by
 simp only [Prod.mk.injEq] at hL
 obtain ⟨h1, h2, h3, h5, h6, h7⟩ := hL
 subst h5 h6 h7
 refine kA h1 hq h2 ?_ h
 rw [z7, h3]
 simp only [Option.bind_some, h4, if_true, lX, mm, List.length_range', List.length_map, if_true]
 have := t9 xs [] (List.replicate xs.length zero) (by simp)
 simp only [List.nil_append, List.length_nil] at this
 rw [this]
 rfl
theorem Sf [aF α] (n : Nat) (dr : Bool) (fr : List Nat) (q : List RO) (fs' : List Fm) (st : St) (x : α) (vs : List V) {z : List V} {pl : List (Nat × Nat)} {m : Option β} (hq : q = ⟨d, gd, now, .p (.build z pl), as, dd, []⟩ :: l)
 (hp : jf z pl vs = some (cells x)) (ha : aF.agg α = true)
 (hL : (fO S c n fo fs st0, wanted st.g gd, bB S.N st.g as) = (some (.ops dr fr q, fs', st), some true, some (vs.map .v)))
 (h : Le m (iR S c Q dr fr d (.p (.build z pl)) l fs' dd (c_ st d (cv x)))) : Le m (rn S c Q fo fs st0) := by
 simp only [Prod.mk.injEq] at hL
 refine kA hL.1 hq hL.2.1 (yM hL.2.2 rfl ?_) h
 unfold hY
 rw [mm]
 simp only [FZ, hp, Option.bind_some, Option.map_some]
 show some (SV.v (.agg (cells x))) = some (.v (enc x))
 rw [rF ha]
section
variable [aF α]
theorem Dd (n : Nat) (dr : Bool) (fr : List Nat) (q : List RO) (fs' : List Fm) (st : St) (lo hi : Bool) (bs : List V) {sz : Nat} {s : Sl α} {a b : Option Int} {f : Sl α → Option γ} (hq : q = ⟨d, gd, now, .p (.slice sz lo hi), as, dd, []⟩ :: l)
 (hL : (fO S c n fo fs st0, wanted st.g gd, bB S.N st.g as, kF lo hi bs, sz) = (some (.ops dr fr q, fs', st), some true, some (.v (dI s) :: bs.map .v), some (a, b), aF.size α))
 (h : ∀ x, iJ s a b = some x → Le ((f x).bind e) (iR S c Q dr fr d (.p (.slice sz lo hi)) l fs' dd (c_ st d (.v (dI x))))) : Le (((iJ s a b).bind f).bind e) (rn S c Q fo fs st0) := by
 simp only [Prod.mk.injEq] at hL
 refine lN hL.1 hq hL.2.1 (Le.of_eq ?_) h
 have hy : bB S.N st.g as = some ((dI s :: bs).map .v) := hL.2.2.1
 unfold e9 kn
 simp only [wanted, fm, hy]
 have hp : hY S.N st.m (.slice sz lo hi) ((dI s :: bs).map .v) = (iJ s a b).bind fun x => some (.v (dI x)) := by
  unfold hY
  rw [mm]
  simp only [bh, hL.2.2.2.1, Option.bind_some, CN s a b sz hL.2.2.2.2]
  cases iJ s a b <;> rfl
 simp only [List.map_cons] at hp ⊢
 rw [hp]
 cases iJ s a b <;> rfl
def lQ (s : Sl α) (lo hi : Option Int) : Option (Sl α) :=
 match s with
 | .nil | .emp => none
 | .row x | .part x => (dR x.length lo hi).map fun (l, h) => .part ((x.take h).drop l)
theorem Mn (n : Nat) (fr : List Nat) (q : List RO) (fs' : List Fm) (st : St) (lo hi : Bool) (u : Nat) (bs : List V) {t sz : Nat} {s : Sl α} {a b : Option Int} {f : Sl α → Option γ} (hq : q = ⟨some t, gd, now, .p (.slice sz lo hi), as, dd, []⟩ :: l)
 (h7 : St.new { st with m := f_ u st.m } t = true) (hL : (fO S c n fo fs st0, wanted st.g gd, bB S.N st.g as, kF lo hi bs, aj st.m u, sz) = (some (.ops false fr q, fs', st), some true, some (.own u :: bs.map .v), some (a, b), some (dV s), aF.size α))
 (h : ∀ x, lQ s a b = some x → Le ((f x).bind e) (iR S c Q false fr (some t) (.p (.slice sz lo hi)) l fs' dd { st with g := aW st.g t (.own t), m := aW (f_ u st.m) t (dV x) })) : Le (((lQ s a b).bind f).bind e) (rn S c Q fo fs st0) := by
 simp only [Prod.mk.injEq] at hL
 refine lN hL.1 hq hL.2.1 (Le.of_eq ?_) h
 obtain ⟨_, _, h3, h4, h5, h6⟩ := hL
 subst h6
 unfold e9 kn
 simp only [wanted, fm, h3, Bool.false_eq_true, if_false, tT, mm, h5, h4, Option.bind_some]
 have hn : (aj st.m u).isSome := by rw [h5]; rfl
 cases s with
 | nil => simp [lQ, dV, Sl.k, bP]
 | emp => simp [lQ, dV, Sl.k, bP]
 | row x =>
  simp only [dV, Sl.k, Sl.l, bP, lQ, ie, and_self, if_true, h4, Option.bind_some]
  cases dR x.length a b with
  | none => rfl
  | some r => simp [h7, c_, rows, List.map_take, List.map_drop]
 | part x =>
  simp only [dV, Sl.k, Sl.l, bP, lQ, ie, and_self, if_true, h4, Option.bind_some]
  cases dR x.length a b with
  | none => rfl
  | some r => simp [h7, c_, rows, List.map_take, List.map_drop]
end
end
end Go.VE
