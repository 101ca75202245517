/-
 The second layer, part 2: texts, calls, iterators.
-/
import Derived.Test.YtnfakljmdnbipaaN1
set_option linter.all false
namespace Go.VE
def q_ : Nat → List SV → Tb SV
 | _, [] => []
 | i, v :: vs => (i, v) :: q_ (i + 1) vs
def start (svs : List SV) (m0 : gr) : St := ⟨q_ 0 svs, m0, m0.map (·.1), [], true, 0⟩
def iL (S : Sys) (c : b_) : Prop :=
 ∀ f svs m0 rs m1, c f svs m0 = some (rs, m1) → ∀ (ν : Nu) (Z : Nat → Prop) (args : List V) (H : ao), (S.E.keep f = true ∨ H = []) → R ν Z (start svs m0) args H → aU ν m0 H Z svs args →
  ∃ n y H' ν' Z' st' F' ys, run S.E n (.fn f) args H = some (y, H') ∧ y = result ys ∧ st'.m = m1 ∧ aU ν' m1 H' Z' rs ys ∧ R ν' Z' st' F' H' ∧ Ev (fun _ => False) ν Z (start svs m0) H ν' Z' st' H'
section
variable {Rv : Nat → Prop} {ν ν' : Nu} {Z Z' : Nat → Prop} {st st' : St} {m m' : Tb aE} {F F' : Frame} {H H' H1 : ao} {N : Nat → FuncId}
mutual
theorem kd : ∀ {x : V}, x.scalar = true → x.aN = true
 | .bool _, _ | .int .., _ | .str _, _ | .bX, _ | .fh, _ | .aH, _ | .dZ, _ | .au, _ => rfl
 | .agg cs, h => by simp only [V.scalar] at h; simp only [V.aN]; exact nj h
 | .tup cs, h => by simp only [V.scalar] at h; simp only [V.aN]; exact nj h
 | .fsl .., h | .hsl .., h | .fptr .., h | .hptr .., h | .clo .., h | .yld _, h | .fmap _, h | .hmap _, h => by simp [V.scalar] at h
theorem nj : ∀ {l : List V}, V.bZ l = true → V.bK l = true
 | [], _ => rfl
 | x :: r, h => by
  simp only [V.bZ, Bool.and_eq_true] at h
  simp only [V.bK, Bool.and_eq_true]
  exact ⟨kd h.1, nj h.2⟩
end
theorem Fy {k : Fl} {es : Nat} {xs : List (List V)} {d : Nat} (o : d_ ν m H Z d (.sl k es xs)) : (kz k es xs).aN = true := by
 by_cases hk : bP k = true
 ·simp only [d_, hk, if_true] at o
  obtain ⟨ys, _, _, hf, _⟩ := o
  have e : kz k es xs = .fsl es xs := by cases k <;> simp [bP] at hk <;> rfl
  rw [e]; simp only [V.aN]; exact hf.aN
 ·cases k <;> simp [bP] at hk <;> rfl
mutual
theorem EC (ho : ∀ d ob, aj m d = some ob → d_ ν m H Z d ob) : ∀ (n : Nat) (sv : SV) (x y : V), dA m n sv = some x → cz ν m H Z sv y → x.aN = true
 | n, .v x, z, y, h, r => by simp only [dA, Option.some.injEq] at h; subst h; exact r.fr.aN
 | n, .own d, z, y, h, r => by
  simp only [dA] at h
  split at h
  ·rename_i k es xs hob
   simp only [Option.some.injEq] at h; subst h
   exact Fy (ho d _ hob)
  ·simp at h
 | 0, .ptr d o, z, y, h, r => by simp [dA] at h
 | n + 1, .ptr d o, z, y, h, r => by
  simp only [dA] at h
  split at h
  ·rename_i cs hob
   split at h
   ·rename_i xs hx
    split at h
    ·simp only [Option.some.injEq] at h; subst h
     obtain ⟨es, cs', _, hc, _⟩ := ho d _ hob
     simp only [V.aN]
     exact sB _ (jV ho n cs xs cs' hx hc)
    ·simp at h
   ·simp at h
  ·simp at h
 | n, .el d i o, z, y, h, r => by cases n <;> simp [dA] at h
 | n, .yl id, z, y, h, r => by cases n <;> simp [dA] at h
 | n, .mp d, z, y, h, r => by
  simp only [dA] at h
  split at h
  ·rename_i kvs hob
   simp only [Option.some.injEq] at h; subst h
   obtain ⟨kvs', _, hk⟩ := ho d _ hob
   simp only [V.aN]
   refine zc.2 fun j u hu => ?_
   have hj : j < kvs'.length := by rw [← hk.1]; exact (List.getElem?_eq_some_iff.1 hu).1
   obtain ⟨⟨_, h1⟩, h2⟩ := hk.2 j u _ hu (List.getElem?_eq_getElem hj)
   exact ⟨kd h1, h2.aN⟩
  ·simp at h
 | 0, .clo f a b, z, y, h, r => by simp [dA] at h
 | n + 1, .clo f a b, z, y, h, r => by
  simp only [dA] at h
  split at h
  ·rename_i x1 x2 h1 h2
   simp only [Option.some.injEq] at h; subst h
   obtain ⟨a', b', rfl, ra, rb⟩ := r.iT
   simp only [V.aN, Bool.and_eq_true]
   exact ⟨jV ho n a x1 a' h1 ra, jV ho n b x2 b' h2 rb⟩
  ·simp at h
 | 0, .tup l, z, y, h, r => by simp [dA] at h
 | n + 1, .tup l, z, y, h, r => by
  simp only [dA] at h
  obtain ⟨xs, h1, rfl⟩ := Option.map_eq_some_iff.1 h
  obtain ⟨l', rfl, rl⟩ := r.kZ
  simp only [V.aN]
  exact jV ho n l xs l' h1 rl
theorem jV (ho : ∀ d ob, aj m d = some ob → d_ ν m H Z d ob) : ∀ (n : Nat) (svs : List SV) (xs ys : List V), bN m n svs = some xs → aU ν m H Z svs ys → V.bK xs = true
 | n, [], xs, ys, h, r => by simp only [bN, Option.some.injEq] at h; subst h; rfl
 | n, sv :: svs, xs, ys, h, r => by
  simp only [bN] at h
  split at h
  ·rename_i y s h1 h2
   simp only [Option.some.injEq] at h; subst h
   obtain ⟨y', ys', rfl, r1, r2⟩ := r.inv
   simp only [V.bK, Bool.and_eq_true]
   exact ⟨EC ho n sv y y' h1 r1, jV ho n svs s ys' h2 r2⟩
  ·simp at h
end
theorem Bd {f : V → Option V} : ∀ {xs ys : List (V × V)}, xs.length = ys.length → (∀ (j : Nat) u v, xs[j]? = some u → ys[j]? = some v → f v.1 = some u.1 ∧ f v.2 = some u.2) → n_ f ys = some xs
 | [], [], _, _ => rfl
 | [], y :: ys, h, _ => by simp at h
 | x :: xs, [], h, _ => by simp at h
 | (a, b) :: xs, (c, d) :: ys, h, hf => by
  obtain ⟨h1, h2⟩ := hf 0 _ _ rfl rfl
  simp only at h1 h2
  simp only [n_, h1, h2, Bd (xs := xs) (ys := ys) (by simpa using h) fun j u v hu hv => hf (j + 1) u v (by simpa using hu) (by simpa using hv)]
theorem AX : ∀ {l : List (V × V)} {n : Nat}, V.r8 n l = true ↔ ∀ (j : Nat) u, l[j]? = some u → u.1.lvl n = true ∧ u.2.lvl n = true
 | [], n => by simp [V.r8]
 | (k, x) :: l, n => by
  simp only [V.r8, Bool.and_eq_true, AX (l := l)]
  constructor
  ·rintro ⟨h1, h2⟩ j u hu
   cases j with
   | zero => simp at hu; subst hu; exact h1
   | succ j => exact h2 j u (by simpa using hu)
  ·intro h
   exact ⟨h 0 (k, x) rfl, fun j u hu => h (j + 1) u (by simpa using hu)⟩
theorem qN {n : Nat} {xs ys : List V} (hm : jh (borrow n H1) ys = some xs) (hcl : V.iX ys = true) : ys = xs := by
 have h2 := iz (f := borrow n H1) (xs := ys) (ys := ys) rfl fun j u v hu hv => by rw [hu] at hv; cases hv; exact ez n H1 (kg.1 hcl j u hu)
 rw [hm] at h2; cases h2; rfl
mutual
theorem vk {fr : List Nat} (hfr : ∀ d ∈ fr, ∀ e ob, aj m e = some ob → ob.bT d = false) (ho : ∀ d ob, aj m d = some ob → d ∉ fr → d_ ν m H1 Z d ob) :
 ∀ (n : Nat) (sv : SV) (x y : V), dA m n sv = some x → (∀ d ∈ fr, sv.bT d = false) → cz ν m H1 Z sv y → ∀ k, x.lvl k = true → borrow k H1 y = some x
 | n, .v x, z, y, h, hn, r, k, hk => by simp only [dA, Option.some.injEq] at h; subst h; exact r.fr.borrow k hk
 | n, .own d, z, y, h, hn, r, k, hk => by
  simp only [dA] at h
  split at h
  ·rename_i fl es xs hob
   simp only [Option.some.injEq] at h; subst h
   obtain ⟨_, _, _, e, rfl⟩ := r.jk hob
   cases e
   have hd : d ∉ fr := fun hd => by have := hn d hd; simp [SV.bT] at this
   have o := ho d _ hob hd
   by_cases hkk : bP fl = true
   ·simp only [d_, hkk, if_true] at o
    obtain ⟨ys, hr, hl, hf, _⟩ := o
    rw [nH hkk]
    have e : kz fl es xs = .fsl es xs := by cases fl <;> simp [bP] at hkk <;> rfl
    rw [e] at hk ⊢
    exact (FR.CW (Z := fun _ => True) trivial (show an H1 (ν d).1 = some (es, ys) by unfold an; rw [hr]; rfl) hl (hf.mono fun id h => ⟨trivial, rfl⟩)).borrow k hk
   ·cases fl <;> simp [bP] at hkk
    ·exact ez k H1 rfl
    ·exact ez k H1 rfl
  ·simp at h
 | 0, .ptr d o, z, y, h, hn, r, k, hk => by simp [dA] at h
 | n + 1, .ptr d o, z, y, h, hn, r, k, hk => by
  simp only [dA] at h
  split at h
  ·rename_i cs hob
   split at h
   ·rename_i xs hx
    split at h
    ·rename_i hle
     simp only [Option.some.injEq] at h; subst h
     obtain ⟨_, e, rfl⟩ := r.lx hob
     cases e
     have hd : d ∉ fr := fun hd => by have := hn d hd; simp [SV.bT] at this
     obtain ⟨es, cs', hr, hc, _⟩ := ho d _ hob hd
     cases k with
     | zero => simp [V.lvl] at hk
     | succ k =>
      simp only [V.lvl] at hk
      have hns : ∀ e ∈ fr, SV.cx e (cs.drop o) = false := fun e he => by
       have := hfr e he d _ hob
       simp only [aE.bT] at this
       cases hh : SV.cx e (cs.drop o) with
       | false => rfl
       | true =>
        exfalso
        have : ∀ {l : List SV} {j : Nat}, SV.cx e (l.drop j) = true → SV.cx e l = true := by
         intro l
         induction l with
         | nil => intro j h; simpa using h
         | cons a l ih => intro j h; cases j with
          | zero => simpa using h
          | succ j => simp only [SV.cx, Bool.or_eq_true]; exact .inr (ih (by simpa using h))
        rw [this hh] at *; simp_all
      have hlen : xs.length = cs.length := by
       have : ∀ {l : List SV} {r : List V}, bN m n l = some r → r.length = l.length := by
        intro l
        induction l with
        | nil => intro r h; simp only [bN, Option.some.injEq] at h; subst h; rfl
        | cons a l ih =>
         intro r h
         simp only [bN] at h
         split at h
         ·rename_i h1 h2; simp only [Option.some.injEq] at h; subst h; simp [ih h2]
         ·simp at h
       exact this hx
      have hxd : bN m n (cs.drop o) = some (xs.drop o) := by
       have : ∀ {l : List SV} {r : List V} {j : Nat}, bN m n l = some r → bN m n (l.drop j) = some (r.drop j) := by
        intro l
        induction l with
        | nil => intro r j h; simp only [bN, Option.some.injEq] at h; subst h; simp [bN]
        | cons a l ih =>
         intro r j h
         have h0 := h
         simp only [bN] at h
         split at h
         ·rename_i h1 h2
          simp only [Option.some.injEq] at h; subst h
          cases j with
          | zero => exact h0
          | succ j => exact ih h2
         ·simp at h
       exact this hx
      have hb := ij hfr ho n (cs.drop o) (xs.drop o) (cs'.drop o) hxd hns (hc.drop o) k hk
      unfold borrow
      simp only [V.closed, Bool.false_eq_true, if_false, hr, Option.bind_some, Ob.rows, List.getElem?_cons_zero, if_pos (show o ≤ cs'.length by rw [← hc.1, ← hlen]; exact hle), hb, Option.map_some]
    ·simp at h
   ·simp at h
  ·simp at h
 | n, .el d i o, z, y, h, hn, r, k, hk => by cases n <;> simp [dA] at h
 | n, .yl id, z, y, h, hn, r, k, hk => by cases n <;> simp [dA] at h
 | n, .mp d, z, y, h, hn, r, k, hk => by
  simp only [dA] at h
  split at h
  ·rename_i kvs hob
   simp only [Option.some.injEq] at h; subst h
   obtain ⟨_, e, rfl⟩ := r.xj hob
   cases e
   have hd : d ∉ fr := fun hd => by have := hn d hd; simp [SV.bT] at this
   obtain ⟨kvs', hr, hkv⟩ := ho d _ hob hd
   cases k with
   | zero => simp [V.lvl] at hk
   | succ k =>
    simp only [V.lvl] at hk
    unfold borrow
    simp only [V.closed, Bool.false_eq_true, if_false, hr]
    rw [Bd (xs := kvs) (ys := kvs') hkv.1 fun j u v hu hv => ?_]
    ·rfl
    ·obtain ⟨⟨e1, e2⟩, e3⟩ := hkv.2 j u v hu hv
     exact ⟨by rw [← e1]; exact ez k H1 (V.ki (kd e2)), e3.borrow k (AX.1 hk j u hu).2⟩
  ·simp at h
 | 0, .clo f a b, z, y, h, hn, r, k, hk => by simp [dA] at h
 | n + 1, .clo f a b, z, y, h, hn, r, k, hk => by
  simp only [dA] at h
  split at h
  ·rename_i x1 x2 h1 h2
   simp only [Option.some.injEq] at h; subst h
   obtain ⟨a', b', rfl, ra, rb⟩ := r.iT
   cases k with
   | zero => simp [V.lvl] at hk
   | succ k =>
    simp only [V.lvl, Bool.and_eq_true] at hk
    have hb1 := ij hfr ho n a x1 a' h1 (fun d hd => by have := hn d hd; simp only [SV.bT, Bool.or_eq_false_iff] at this; exact this.1) ra k hk.1
    have hb2 := ij hfr ho n b x2 b' h2 (fun d hd => by have := hn d hd; simp only [SV.bT, Bool.or_eq_false_iff] at this; exact this.2) rb k hk.2
    by_cases hcl : (V.clo f a' b').closed = true
    ·rw [ez _ _ hcl]
     simp only [V.closed, Bool.and_eq_true] at hcl
     rw [qN hb1 hcl.1, qN hb2 hcl.2]
    ·unfold borrow
     rw [if_neg hcl]
     simp only [hb1, hb2]
  ·simp at h
 | 0, .tup l, z, y, h, hn, r, k, hk => by simp [dA] at h
 | n + 1, .tup l, z, y, h, hn, r, k, hk => by
  simp only [dA] at h
  obtain ⟨xs, h1, rfl⟩ := Option.map_eq_some_iff.1 h
  obtain ⟨l', rfl, rl⟩ := r.kZ
  cases k with
  | zero => simp [V.lvl] at hk
  | succ k =>
   simp only [V.lvl] at hk
   have hb1 := ij hfr ho n l xs l' h1 (fun d hd => by have := hn d hd; simpa [SV.bT] using this) rl k hk
   by_cases hcl : (V.tup l').closed = true
   ·rw [ez _ _ hcl]
    simp only [V.closed] at hcl
    rw [qN hb1 hcl]
   ·unfold borrow
    rw [if_neg hcl]
    simp only [hb1, Option.map_some]
theorem ij {fr : List Nat} (hfr : ∀ d ∈ fr, ∀ e ob, aj m e = some ob → ob.bT d = false) (ho : ∀ d ob, aj m d = some ob → d ∉ fr → d_ ν m H1 Z d ob) :
 ∀ (n : Nat) (svs : List SV) (xs ys : List V), bN m n svs = some xs → (∀ d ∈ fr, SV.cx d svs = false) → aU ν m H1 Z svs ys → ∀ k, V.dB k xs = true → jh (borrow k H1) ys = some xs
 | n, [], xs, ys, h, hn, r, k, hk => by simp only [bN, Option.some.injEq] at h; subst h; rw [r.ct]; rfl
 | n, sv :: svs, xs, ys, h, hn, r, k, hk => by
  simp only [bN] at h
  split at h
  ·rename_i y s h1 h2
   simp only [Option.some.injEq] at h; subst h
   obtain ⟨y', ys', rfl, r1, r2⟩ := r.inv
   simp only [V.dB, Bool.and_eq_true] at hk
   have b1 := vk hfr ho n sv y y' h1 (fun d hd => by have := hn d hd; simp only [SV.cx, Bool.or_eq_false_iff] at this; exact this.1) r1 k hk.1
   have b2 := ij hfr ho n svs s ys' h2 (fun d hd => by have := hn d hd; simp only [SV.cx, Bool.or_eq_false_iff] at this; exact this.2) r2 k hk.2
   simp only [jh, b1, b2]
  ·simp at h
end
end
end Go.VE
namespace Go.VE
def i_ (E : Env) (call : eB) (ops : List Oper) (place : Option (Nat × Nat)) (f : FuncId) (args : List V) (H : ao) : Option (V × ao) :=
 if E.keep f then
  match place with
  | none => gJ E call f args H
  | some (_, i) => if eT ops i then gJ E call f args H else none
 else match place with
  | none => match di call f args H with
   | some y => some (y, if y.scalar then H else bz H (dg (bY 8 H) args))
   | none => none
  | some (b, i) => match di call f args (H.take b) with
   | some y => if y.scalar then some (y, H) else if gR (H.take b) (dg (bY 8 (H.take b)) args) then some (y, bz H (dg (bY 8 (H.take b)) args)) else none
   | none => if eT ops i then match di call f args H with
    | some y => some (y, if y.scalar then H else bz H (dg (bY 8 H) args))
    | none => none
    else none
section
variable {Rv : Nat → Prop} {ν ν' : Nu} {Z Z' : Nat → Prop} {st st' : St} {m m' : Tb aE} {F F' : Frame} {H H' H1 : ao} {N : Nat → FuncId} {S : Sys} {c : b_}
theorem AP : ∀ (l : List SV) (i s : Nat) (sv : SV), aj (q_ i l) s = some sv → ∃ j, s = i + j ∧ l[j]? = some sv
 | [], i, s, sv, h => by simp [q_, aj] at h
 | x :: l, i, s, sv, h => by
  simp only [q_, aj] at h
  split at h
  ·rename_i e; simp only [Option.some.injEq] at h; subst h; exact ⟨0, by omega, rfl⟩
  ·obtain ⟨j, h1, h2⟩ := AP l (i + 1) s sv h
   exact ⟨j + 1, by omega, by simpa using h2⟩
theorem rm {svs : List SV} {args : List V} (h : aU ν m H Z svs args) : ∀ s sv, aj (q_ 0 svs) s = some sv → cz ν m H Z sv (get args s) := fun s sv hs => by
 obtain ⟨j, rfl, hj⟩ := AP svs 0 s sv hs
 obtain ⟨y, hy, r⟩ := h.get hj
 rw [Nat.zero_add, Bg args j y hy]; exact r
theorem tv {as : List V} (hg : V.bK as = true) : R (fun _ => (0, 0)) (fun _ => False) (start (as.map .v) []) as [] ∧ aU (fun _ => (0, 0)) [] [] (fun _ => False) (as.map .v) as := by
 have h : aU (fun _ => (0, 0)) [] [] (fun _ => False) (as.map .v) as := aU.oc (cu.same hg)
 refine ⟨⟨rm h, fun d ob hd => by simp [start, aj] at hd, fun d d' ob ob' hd => by simp [start, aj] at hd, fun d ob hd => by simp [start, aj] at hd, fun id h => h.elim, ⟨fun id es ys h => h.elim⟩⟩, h⟩
theorem zP {xs ys : List V} (h : cu H Z xs ys) : ((result xs).scalar = true → result ys = result xs) ∧ (result ys).scalar = (result xs).scalar := by
 cases xs with
 | nil => rw [h.ct]; exact ⟨fun _ => rfl, rfl⟩
 | cons x xs =>
  obtain ⟨y, ys, rfl, h1, h2⟩ := h.inv
  cases xs with
  | nil => rw [h2.ct]; exact h1.scalar
  | cons x2 xs =>
   obtain ⟨y2, ys, rfl, h3, h4⟩ := h2.inv
   exact FR.scalar (.tup _ _ h.1 h.2)
theorem Gl (hS : iL S c) {f : FuncId} {as ys : List V} {rs : List SV} {m' : gr} (hg : V.bK as = true) (h : c f (as.map .v) [] = some (rs, m')) (hs : bN m' 8 rs = some ys) (hl : (result ys).lvl 8 = true) :
 ∃ n r H2, (∀ k, n ≤ k → run S.E k (.fn f) as [] = some (r, H2)) ∧ borrow 8 H2 r = some (result ys) ∧ (result ys).aN = true := by
 obtain ⟨r0, r1⟩ := tv hg
 obtain ⟨n, y, H2, ν', Z', st', F', zs, h1, rfl, h3, h4, h5, _⟩ := hS f _ _ _ _ h _ _ as [] (.inr rfl) r0 r1
 subst h3
 have hgood := jV h5.obj 8 rs ys zs hs h4
 refine ⟨n, result zs, H2, fun k hk => um S.E hk _ _ _ _ h1, ?_, ?_⟩
 ·have hfr : ∀ d ∈ ([] : List Nat), ∀ e ob, aj st'.m e = some ob → ob.bT d = false := fun d hd => by simp at hd
  have ho : ∀ d ob, aj st'.m d = some ob → d ∉ ([] : List Nat) → d_ ν' st'.m H2 Z' d ob := fun d ob hd _ => h5.obj d ob hd
  cases rs with
  | nil =>
   simp only [bN, Option.some.injEq] at hs; subst hs
   rw [h4.ct]
   exact ez 8 H2 rfl
  | cons x rs =>
   obtain ⟨z, zs, rfl, e1, e2⟩ := h4.inv
   simp only [bN] at hs
   split at hs
   ·rename_i y s g1 g2
    simp only [Option.some.injEq] at hs; subst hs
    cases rs with
    | nil =>
     simp only [bN, Option.some.injEq] at g2; subst g2
     rw [e2.ct]
     exact vk hfr ho 8 x y z g1 (fun d hd => by simp at hd) e1 8 hl
    | cons x2 rs =>
     obtain ⟨z2, zs, rfl, e3, e4⟩ := e2.inv
     simp only [bN] at g2
     split at g2
     ·rename_i y2 s2 g3 g4
      simp only [Option.some.injEq] at g2; subst g2
      simp only [result, V.lvl, V.dB, Bool.and_eq_true] at hl
      have hall : bN st'.m 8 (x :: x2 :: rs) = some (y :: y2 :: s2) := by simp only [bN, g1, g3, g4]
      have hb := ij hfr ho 8 (x :: x2 :: rs) _ _ hall (fun d hd => by simp at hd) h4 7 (by simp only [V.dB, Bool.and_eq_true]; exact hl)
      by_cases hcl : (V.tup (z :: z2 :: zs)).closed = true
      ·simp only [result]
       rw [ez _ _ hcl]
       simp only [V.closed] at hcl
       rw [qN hb hcl]
      ·simp only [result]
       unfold borrow
       rw [if_neg hcl]
       simp only [hb, Option.map_some]
     ·simp at g2
   ·simp at hs
 ·have : ∀ {l : List V}, V.bK l = true → (result l).aN = true := by
   intro l hl
   cases l with
   | nil => rfl
   | cons a l => cases l with
    | nil => simp only [V.bK, Bool.and_eq_true] at hl; exact hl.1
    | cons b l => simp only [result, V.aN]; exact hl
  exact this hgood
theorem yF {f : FuncId} {args as : List V} {y r : V} {H2 : ao} {n : Nat} (hr : ∀ k, n ≤ k → run S.E k (.fn f) as [] = some (r, H2)) (hb : borrow 8 H2 r = some y) (hg : y.aN = true) (ha : borrows 8 H args = some as) :
 ∀ k, n ≤ k → di (run S.E k) f args H = some y := fun k hk => by
 unfold di
 simp only [ha, hr k hk, hb, V.ki hg, if_true]
theorem s_ (hz : ∀ id, Z id → (an H id).isSome = true) {T : List Nat} {id : Nat} (h : Z id) : an (bz H T) id = an H id := by
 have := hz id h
 unfold an at this ⊢
 rw [gf]
 cases hh : H[id]? with
 | none => rw [hh] at this; simp at this
 | some ob =>
  rw [hh] at this
  simp only [Option.map_some, Option.bind_some]
  by_cases e : id ∈ T
  ·rw [if_pos e]
   cases ob <;> first | rfl | simp [Ob.rows] at this
  ·rw [if_neg e]
theorem vc {T : List Nat} {id : Nat} (h : id ∉ T) : (bz H T)[id]? = H[id]? := by
 rw [gf]
 cases H[id]? <;> simp [h]
end
end Go.VE
namespace Go.VE
section
variable {Rv : Nat → Prop} {ν ν' : Nu} {Z Z' : Nat → Prop} {st st' : St} {m m' : Tb aE} {F F' : Frame} {H H' H1 : ao} {N : Nat → FuncId} {S : Sys} {c : b_}
theorem y_ {as : List V} {args : List SV} {ys : List V} (ho : ∀ d ob, aj m d = some ob → d_ ν m H Z d ob) (h : bN m 8 args = some as) (r : aU ν m H Z args ys) : V.bK as = true := jV ho 8 args as ys h r
theorem vn {as : List V} {args : List SV} {ys : List V} (r : R ν Z st F H) (ha : aU ν st.m H Z args ys) (h : bN st.m 8 args = some as) (hl : V.dB 8 as = true) : borrows 8 H ys = some as :=
 ij (fr := []) (fun d hd => by simp at hd) (fun d ob hd _ => r.obj d ob hd) 8 args as ys h (fun d hd => by simp at hd) ha 8 hl
theorem nZ {b id : Nat} (h : id < b) : an (H.take b) id = an H id := by
 unfold an; rw [List.getElem?_take, if_pos h]
theorem CL {b : Nat} {fr : List Nat} {as : List V} {args : List SV} {ys : List V} (r : R ν Z st F H) (ha : aU ν st.m H Z args ys) (h : bN st.m 8 args = some as) (hl : V.dB 8 as = true)
 (ho : ∀ d ob, aj st.m d = some ob → b7 ob = true → d ∉ fr → (ν d).1 < b) (hz : ∀ id, Z id → id < b) (hold : fF st.m fr args = true) : borrows 8 (H.take b) ys = some as := by
 unfold fF at hold
 rw [List.all_eq_true] at hold
 have h1 : ∀ d ∈ fr, SV.cx d args = false ∧ mP d st.m = false := fun d hd => by
  have := hold d hd
  simpa [Bool.and_eq_true, Bool.not_eq_true'] using this
 have hzr : ∀ id, Z id → Z id ∧ an (H.take b) id = an H id := fun id h => ⟨h, nZ (hz id h)⟩
 refine ij (Z := Z) (fr := fr) (fun d hd e ob he => rY (h1 d hd).2 he) (fun d ob hd hf => ?_) 8 args as ys h (fun d hd => (h1 d hd).1) (ha.mono hzr fun e _ => jv ν st.m e) 8 hl
 exact d_.mono hzr rfl (fun hb => by rw [List.getElem?_take, if_pos (ho d ob hd hb hf)]) (fun e _ => jv ν st.m e) (r.obj d ob hd)
theorem HH (hS : iL S c) {ops : List Oper} {place : Option (Nat × Nat)} {dr nw : Bool} {fr : List Nat} (hdr : dr = place.isSome) (hnow : ∀ b i, place = some (b, i) → nw = true → eT ops i = true)
 (hold : ∀ b i, place = some (b, i) → (∀ d ob, aj st.m d = some ob → b7 ob = true → d ∉ fr → (ν d).1 < b) ∧ ∀ id, Z id → id < b)
 (r : R ν Z st F H) {args : List SV} {ys : List V} (ha : aU ν st.m H Z args ys) {f : FuncId} (hk : S.E.keep f = false) {as : List V} (hs : bN st.m 8 args = some as) (hl : V.dB 8 as = true) (hno : (!dr || nw) = true ∨ fF st.m fr args = true)
 {rs : List SV} {m' : gr} {zs : List V} (hc : c f (as.map .v) [] = some (rs, m')) (hz : bN m' 8 rs = some zs) (hzl : (result zs).lvl 8 = true) (hsc : (result zs).scalar = true ∨ (d6 args).isSome = true) :
 ∃ n H', (∀ k, n ≤ k → i_ S.E (run S.E k) ops place f ys H = some (result zs, H')) ∧ R ν Z st F H' ∧ cz ν st.m H' Z (.v (result zs)) (result zs) ∧ Ev Rv ν Z st H ν Z st H' := by
 have hg := y_ r.obj hs ha
 obtain ⟨n, rr, H2, h1, h2, h3⟩ := Gl hS hg hc hz hzl
 have hb := vn r ha hs hl
 have hiso := yF h1 h2 h3 hb
 have hsv : ∀ {H'}, cz ν st.m H' Z (.v (result zs)) (result zs) := .v _ _ (.same _ h3)
 have froze : ∀ T : List Nat, (∀ id ∈ T, Z id) → R ν Z st F (bz H T) ∧ Ev Rv ν Z st H ν Z st (bz H T) := fun T hT =>
  ⟨r.heap (fun id ho => vc fun hid => by obtain ⟨d, ob, g1, g2, rfl⟩ := ho; exact r.apart d ob g1 g2 (hT _ hid)) (fun id hid => s_ r.zrow hid),
   Ev.heap (by rw [iK]; exact Nat.le_refl _) (fun id _ _ hz _ => vc fun hid => hz (hT id hid)) (fun id hid => s_ r.zrow hid)⟩
 have allT : (d6 args).isSome = true → (∀ id ∈ dg (bY 8 H) ys, Z id) ∧ True := fun hx => by
  obtain ⟨xs, hx⟩ := Option.isSome_iff_exists.1 hx
  have hf := ha.d6 hx
  exact ⟨fun id hid => by
   obtain ⟨j, u, hu, hku⟩ := oA hid
   have hj : j < xs.length := by rw [hf.1]; exact (List.getElem?_eq_some_iff.1 hu).1
   exact FR.bY r.deep 8 (hf.2 j _ u (List.getElem?_eq_getElem hj) hu) id hku, trivial⟩
 cases place with
 | none =>
  subst hdr
  by_cases hsca : (result zs).scalar = true
  ·exact ⟨n, H, fun k hkn => by simp only [i_, hk, Bool.false_eq_true, if_false, hiso k hkn, hsca, if_true], r, hsv, .refl⟩
  ·obtain ⟨hT, -⟩ := allT (hsc.resolve_left hsca)
   obtain ⟨q1, q2⟩ := froze _ hT
   exact ⟨n, bz H (dg (bY 8 H) ys), fun k hkn => by simp only [i_, hk, Bool.false_eq_true, if_false, hiso k hkn, hsca], q1, hsv, q2⟩
 | some bi =>
  obtain ⟨b, i⟩ := bi
  obtain ⟨o1, o2⟩ := hold b i rfl
  have hdt : dr = true := hdr
  subst hdt
  have fits : ∀ k, di (run S.E k) f ys (H.take b) = some (result zs) → (result zs).scalar = false → gR (H.take b) (dg (bY 8 (H.take b)) ys) = true ∧ dg (bY 8 H) ys = dg (bY 8 (H.take b)) ys := fun k _ hns => by
   obtain ⟨xs, hx⟩ := Option.isSome_iff_exists.1 (hsc.resolve_left (by rw [hns]; simp))
   have hf := ha.d6 hx
   have hzr : ∀ id, Z id → Z id ∧ an (H.take b) id = an H id := fun id h => ⟨h, nZ (o2 id h)⟩
   have hd : q8 (H.take b) Z := ⟨fun id es ys hz hr c hc u hu => by
    rw [(hzr id hz).2] at hr
    obtain ⟨x, hx⟩ := r.deep.row id es ys hz hr c hc u hu
    exact ⟨x, hx.mono hzr⟩⟩
   have hZ : ∀ id ∈ dg (bY 8 (H.take b)) ys, Z id := fun id hid => by
    obtain ⟨j, u, hu, hku⟩ := oA hid
    have hj : j < xs.length := by rw [hf.1]; exact (List.getElem?_eq_some_iff.1 hu).1
    exact FR.bY hd 8 ((hf.2 j _ u (List.getElem?_eq_getElem hj) hu).mono hzr) id hku
   refine ⟨?_, qY _ fun id hid => o2 id (hZ id hid)⟩
   unfold gR
   rw [List.all_eq_true]
   intro id hid
   have h1 := r.zrow id (hZ id hid)
   rw [← (hzr id (hZ id hid)).2] at h1
   exact h1
  rcases hno with hno | hno
  ·have hlo := hnow b i rfl (by simpa using hno)
   by_cases hsca : (result zs).scalar = true
   ·refine ⟨n, H, fun k hkn => ?_, r, hsv, .refl⟩
    simp only [i_, hk, Bool.false_eq_true, if_false]
    split
    ·rename_i y hy
     have := mQ hy
     rw [hiso k hkn] at this; cases this
     simp only [hsca, if_true]
    ·simp only [hlo, if_true, hiso k hkn, hsca]
   ·obtain ⟨hT, -⟩ := allT (hsc.resolve_left hsca)
    obtain ⟨q1, q2⟩ := froze _ hT
    refine ⟨n, bz H (dg (bY 8 H) ys), fun k hkn => ?_, q1, hsv, q2⟩
    simp only [i_, hk, Bool.false_eq_true, if_false]
    split
    ·rename_i y hy
     have h9 := mQ hy
     rw [hiso k hkn] at h9; cases h9
     obtain ⟨f1, f2⟩ := fits k hy (by simpa using hsca)
     rw [if_neg hsca, if_pos f1, f2]
    ·simp only [hlo, if_true, hiso k hkn]
     rw [if_neg hsca]
  ·have hb2 := CL r ha hs hl o1 o2 hno
   by_cases hsca : (result zs).scalar = true
   ·refine ⟨n, H, fun k hkn => ?_, r, hsv, .refl⟩
    simp only [i_, hk, Bool.false_eq_true, if_false]
    have := yF h1 h2 h3 hb2 k hkn
    simp only [this, hsca, if_true]
   ·obtain ⟨hT, -⟩ := allT (hsc.resolve_left hsca)
    obtain ⟨q1, q2⟩ := froze _ hT
    refine ⟨n, bz H (dg (bY 8 H) ys), fun k hkn => ?_, q1, hsv, q2⟩
    simp only [i_, hk, Bool.false_eq_true, if_false]
    have h9 := yF h1 h2 h3 hb2 k hkn
    obtain ⟨f1, f2⟩ := fits k h9 (by simpa using hsca)
    simp only [h9]
    rw [if_neg hsca, if_pos f1, f2]
theorem BM {xs ys : List (List V)} (h : fI H Z xs ys) (hs : mS xs = true) : ys = xs := by
 refine (List.ext_getElem h.1 fun j h1 h2 => ?_).symm
 have := h.2 j _ _ (List.getElem?_eq_getElem h1) (List.getElem?_eq_getElem h2)
 have hsj : V.bZ xs[j] = true := by
  unfold mS at hs
  rw [List.all_eq_true] at hs
  have := hs _ (List.getElem_mem h1)
  rw [List.all_eq_true] at this
  exact l9.2 fun k u hu => this u (List.mem_of_getElem? hu)
 exact (this.scalar.1 hsj).symm
theorem l8 : ∀ {args : List SV} {os : gr}, i9 m args = some os → ∀ k ob, aj os k = some ob → aj m k = some ob ∧ rW ob = true
 | [], os, h, k, ob, hk => by simp only [i9, Option.some.injEq] at h; subst h; simp [aj] at hk
 | .v _ :: r, os, h, k, ob, hk => l8 (args := r) (by simpa [i9] using h) k ob hk
 | .own d :: r, os, h, k, ob, hk => by
  simp only [i9] at h
  split at h
  ·rename_i os' fl es xs h1 h2
   simp only [Option.some.injEq] at h; subst h
   simp only [aj] at hk
   split at hk
   ·rename_i e; subst e; cases hk; exact ⟨h2, rfl⟩
   ·exact l8 h1 k ob hk
  ·simp at h
 | .ptr d _ :: r, os, h, k, ob, hk => by
  simp only [i9] at h
  split at h
  ·rename_i os' cs h1 h2
   split at h
   ·rename_i hc
    simp only [Option.some.injEq] at h; subst h
    simp only [aj] at hk
    split at hk
    ·rename_i e; subst e; cases hk; exact ⟨h2, hc⟩
    ·exact l8 h1 k ob hk
   ·simp at h
  ·simp at h
 | .el .. :: r, os, h, k, ob, hk => by simp [i9] at h
 | .mp _ :: r, os, h, k, ob, hk => by simp [i9] at h
 | .clo .. :: r, os, h, k, ob, hk => by simp [i9] at h
 | .tup _ :: r, os, h, k, ob, hk => by simp [i9] at h
 | .yl _ :: r, os, h, k, ob, hk => by simp [i9] at h
theorem sY : ∀ {l : List Nat} {a b : Tb aE}, nF m' l a = some b → (∀ k ∈ l, aj b k = aj m' k ∧ ∃ ob, aj m' k = some ob ∧ rW ob = true) ∧ ∀ k, k ∉ l → aj b k = aj a k
 | [], a, b, h => by simp only [nF, Option.some.injEq] at h; subst h; exact ⟨fun k hk => by simp at hk, fun _ _ => rfl⟩
 | d :: r, a, b, h => by
  simp only [nF] at h
  split at h
  ·rename_i ob hob
   split at h
   ·rename_i hp
    obtain ⟨h1, h2⟩ := sY h
    refine ⟨fun k hk => ?_, fun k hk => ?_⟩
    ·by_cases hr : k ∈ r
     ·exact h1 k hr
     ·have e : k = d := by simpa [hr] using hk
      subst e
      exact ⟨by rw [h2 k hr, bQ, hob], ob, hob, hp⟩
    ·simp only [List.mem_cons, not_or] at hk
     rw [h2 k hk.2, c9 _ _ (Ne.symm hk.1)]
   ·simp at h
  ·simp at h
theorem mem_keys : ∀ {os : gr} {k : Nat}, k ∈ os.map (·.1) ↔ ∃ ob, aj os k = some ob
 | [], k => by simp [aj]
 | (d, o) :: os, k => by
  simp only [List.map_cons, List.mem_cons, aj]
  by_cases e : d = k
  ·subst e; simp
  ·rw [if_neg e, ← mem_keys]
   constructor
   ·rintro (h | h)
    ·exact absurd h.symm e
    ·exact h
   ·exact .inr
theorem d_.plain {d : Nat} {ob : aE} (hp : rW ob = true) (hz : ∀ id, Z id → Z' id ∧ an H' id = an H id) (hd : ν' d = ν d) (hh : b7 ob = true → H'[(ν d).1]? = H[(ν d).1]?) (o : d_ ν m H Z d ob) : d_ ν' m' H' Z' d ob := by
 cases ob with
 | box cs =>
  obtain ⟨xs, hx⟩ := Option.isSome_iff_exists.1 hp
  obtain ⟨es, cs', h1, h2, h3⟩ := o
  refine ⟨es, cs', by rw [hd, hh rfl]; exact h1, ?_, h3⟩
  have := (h2.d6 hx).mono hz
  rw [oq hx]; exact aU.oc this
 | sl k es xs => exact d_.mono hz hd hh (fun e he => by simp [aE.bT] at he) o
 | mp kvs => exact d_.mono hz hd hh (fun e he => by simp [aE.bT] at he) o
theorem Ht (hS : iL S c) {f : FuncId} (hkp : S.E.keep f = true) (r : R ν Z st F H) {args : List SV} {ys : List V} (ha : aU ν st.m H Z args ys) {os : gr} (hh : i9 st.m args = some os)
 {rs : List SV} {m' : gr} {zs : List V} {m2 : Tb aE} (hc : c f args os = some (rs, m')) (hz : d6 rs = some zs) (hb : nF m' (os.map (·.1)) st.m = some m2) :
 ∃ n y H' Z', (∀ k, n ≤ k → run S.E k (.fn f) ys H = some (y, H')) ∧ R ν Z' { st with m := m2 } F H' ∧ cz ν m2 H' Z' (.v (result zs)) y ∧ Ev Rv ν Z st H ν Z' { st with m := m2 } H' ∧ ∀ e ob', aj m2 e = some ob' → ∃ ob, aj st.m e = some ob ∧ ν e = ν e ∧ sameShape ob ob' := by
 have hsub : ∀ k ob, aj os k = some ob → aj st.m k = some ob := fun k ob h => (l8 hh k ob h).1
 have ha0 : aU ν os H Z args ys := ha.mono (fun id h => ⟨h, rfl⟩) fun e _ ob' h => ⟨ob', hsub e ob' h, rfl, .refl _⟩
 have r0 : R ν Z (start args os) ys H := by
  refine ⟨rm ha0, fun d ob hd => ?_, fun d d' ob ob' h1 h2 => r.inj d d' ob ob' (hsub d ob h1) (hsub d' ob' h2), fun d ob h => r.apart d ob (hsub d ob h), r.zrow, r.deep⟩
  exact d_.plain (l8 hh d ob hd).2 (fun id h => ⟨h, rfl⟩) rfl (fun _ => rfl) (r.obj d ob (hsub d ob hd))
 obtain ⟨n, y, H', ν1, Z', st1, F1, ws, e1, rfl, rfl, e2, e3, ev⟩ := hS f args os rs m' hc ν Z ys H (.inl hkp) r0 ha0
 obtain ⟨b1, b2⟩ := sY hb
 have hpin : ∀ k ob', k ∈ os.map (·.1) → aj st1.m k = some ob' → ∃ ob, aj os k = some ob ∧ ν1 k = ν k ∧ sameShape ob ob' := fun k ob' hk h => ev.pin k hk ob' h
 have hown0 : ∀ id, eS ν os id → eS ν st.m id := fun id ⟨k, o, h1, h2, h3⟩ => ⟨k, o, hsub k o h1, h2, h3⟩
 have bk : ∀ ob ob' : aE, sameShape ob ob' → b7 ob' = b7 ob := fun ob ob' h => by
  cases ob <;> cases ob' <;> simp only [sameShape] at h
  ·simp only [b7, h.1]
  ·rfl
  ·rfl
 have was : ∀ k ob', aj m2 k = some ob' → ∃ ob, aj st.m k = some ob ∧ sameShape ob ob' ∧ (k ∈ os.map (·.1) ∧ aj st1.m k = some ob' ∧ ν1 k = ν k ∧ aj os k = some ob ∧ rW ob' = true ∨ k ∉ os.map (·.1) ∧ ob' = ob) := fun k ob' h => by
  by_cases hk : k ∈ os.map (·.1)
  ·obtain ⟨g1, o, g2, g3⟩ := b1 k hk
   rw [g1] at h
   obtain ⟨ob, p1, p2, p3⟩ := hpin k ob' hk h
   rw [g2] at h; cases h
   exact ⟨ob, hsub k ob p1, p3, .inl ⟨hk, g2, p2, p1, g3⟩⟩
  ·rw [b2 k hk] at h
   exact ⟨ob', h, .refl _, .inr ⟨hk, rfl⟩⟩
 have hother : ∀ k ob, k ∉ os.map (·.1) → aj st.m k = some ob → b7 ob = true → H'[(ν k).1]? = H[(ν k).1]? ∧ ¬ Z' (ν k).1 := fun k ob hk h hbk => by
  have hno : ¬ eS ν os (ν k).1 := by
   rintro ⟨k2, o2, g1, g2, g3⟩
   have := r.inj k2 k o2 ob (hsub k2 o2 g1) h g2 hbk g3
   subst this
   exact hk (mem_keys.2 ⟨o2, g1⟩)
  have hlt := r.lt ⟨k, ob, h, hbk, rfl⟩
  have hnz := r.apart k ob h hbk
  refine ⟨ev.same _ hlt hno hnz (fun h => h), fun hz' => ?_⟩
  rcases ev.frz _ hz' with h | h | h | h
  ·exact hnz h
  ·exact hno h
  ·exact h
  ·omega
 have sm : ∀ e ob', aj m2 e = some ob' → ∃ ob, aj st.m e = some ob ∧ ν e = ν e ∧ sameShape ob ob' := fun e ob' h => by
  obtain ⟨ob, h1, h2, _⟩ := was e ob' h; exact ⟨ob, h1, rfl, h2⟩
 refine ⟨n, result ws, H', Z', fun k hk => um S.E hk _ _ _ _ e1, ⟨fun s sv hs => (r.slot s sv hs).mono ev.rows fun e _ => sm e, fun k ob' h => ?_, fun d1 d2 o1 o2 h1 h2 k1 k2 hp => ?_, fun d1 o1 h1 k1 => ?_, e3.zrow, e3.deep⟩, ?_, ⟨ev.len, ?_, ev.rows, ?_, ?_, fun e _ => sm e, rfl⟩, sm⟩
 ·obtain ⟨ob, h1, h2, h3 | ⟨h3, rfl⟩⟩ := was k ob' h
  ·obtain ⟨q1, q2, q3, q4, q5⟩ := h3
   refine d_.plain (ν := ν1) (Z := Z') (H := H') q5 (fun id h => ⟨h, rfl⟩) q3.symm (fun _ => rfl) (e3.obj k ob' q2)
  ·exact d_.mono ev.rows rfl (fun hbk => (hother k ob' h3 h1 hbk).1) (fun e _ => sm e) (r.obj k ob' h1)
 ·obtain ⟨p1, g1, s1, _⟩ := was d1 o1 h1
  obtain ⟨p2, g2, s2, _⟩ := was d2 o2 h2
  exact r.inj d1 d2 p1 p2 g1 g2 (by rw [← bk _ _ s1]; exact k1) (by rw [← bk _ _ s2]; exact k2) hp
 ·obtain ⟨ob, g1, s1, h3 | ⟨h3, rfl⟩⟩ := was d1 o1 h1
  ·obtain ⟨q1, q2, q3, q4, q5⟩ := h3
   rw [← q3]; exact e3.apart d1 o1 q2 k1
  ·exact (hother d1 o1 h3 g1 k1).2
 ·have hf := e2.d6 hz
  have : FR H' Z' (result zs) (result ws) := by
   cases zs with
   | nil => rw [hf.ct]; exact .same _ rfl
   | cons x xs =>
    obtain ⟨y, ys2, rfl, g1, g2⟩ := hf.inv
    cases xs with
    | nil => rw [g2.ct]; exact g1
    | cons x2 xs =>
     obtain ⟨y2, ys3, rfl, g3, g4⟩ := g2.inv
     exact .tup _ _ hf.1 hf.2
  exact .v _ _ this
 ·intro id hl ho hz _
  exact ev.same id hl (fun h => ho (hown0 id h)) hz (fun h => h)
 ·rintro id ⟨k, o, h1, h2, h3⟩
  obtain ⟨ob, g1, s1, _⟩ := was k o h1
  exact .inl ⟨k, ob, g1, by rw [← bk _ _ s1]; exact h2, h3⟩
 ·intro id h
  rcases ev.frz id h with h | h | h | h
  ·exact .inl h
  ·exact .inr (.inl (hown0 id h))
  ·exact h.elim
  ·exact .inr (.inr (.inr h))
theorem Gr (hS : iL S c) {f : FuncId} {as : List V} {rs : List SV} {m' : gr} (hg : V.bK as = true) (h : c f (as.map .v) [] = some (rs, m')) :
 ∃ n H2 ν' Z' st' F' ys, (∀ k, n ≤ k → run S.E k (.fn f) as [] = some (result ys, H2)) ∧ st'.m = m' ∧ aU ν' m' H2 Z' rs ys ∧ R ν' Z' st' F' H2 := by
 obtain ⟨r0, r1⟩ := tv hg
 obtain ⟨n, y, H2, ν', Z', st', F', zs, h1, rfl, h3, h4, h5, _⟩ := hS f _ _ _ _ h _ _ as [] (.inr rfl) r0 r1
 exact ⟨n, H2, ν', Z', st', F', zs, fun k hk => um S.E hk _ _ _ _ h1, h3, h4, h5⟩
theorem xU {ys : List V} (h : V.bZ ys = true) : V.bZ (.au :: ys) = true ∧ V.bZ (.dZ :: ys) = true := by
 simp only [V.bZ, V.scalar, Bool.true_and]; exact ⟨h, h⟩
theorem rS {ys : List V} (h : V.bZ ys = true) : (result ys).scalar = true := by
 cases ys with
 | nil => rfl
 | cons a l =>
  cases l with
  | nil => simp only [V.bZ, Bool.and_eq_true] at h; exact h.1
  | cons b l => simp only [result, V.scalar]; exact h
theorem aU.KA {ys : List V} (h : V.bK ys = true) : aU ν m H Z (ys.map .v) ys := aU.oc (cu.same h)
theorem Gn (hS : iL S c) {ops : List Oper} {place : Option (Nat × Nat)} {dr nw : Bool} {fr : List Nat} (hdr : dr = place.isSome) (hnow : ∀ b i, place = some (b, i) → nw = true → eT ops i = true)
 (hold : ∀ b i, place = some (b, i) → (∀ d ob, aj st.m d = some ob → b7 ob = true → d ∉ fr → (ν d).1 < b) ∧ ∀ id, Z id → id < b)
 (r : R ν Z st F H) {args : List SV} {ys : List V} (ha : aU ν st.m H Z args ys) {f : FuncId} {dst : Option Nat} {sv : SV} (h : h_ S c dst dr (!dr || nw) (fF st.m fr) f args st = some (sv, st')) :
 ∃ n y H' ν' Z', (∀ k, n ≤ k → i_ S.E (run S.E k) ops place f ys H = some (y, H')) ∧ R ν' Z' st' F H' ∧ cz ν' st'.m H' Z' sv y ∧ Ev Rv ν Z st H ν' Z' st' H' ∧ (dr = true → Z' = Z) ∧ Kept dst ν st.m ν' st'.m := by
 unfold h_ at h
 split at h
 ·rename_i hk
  split at h
  ·rename_i hnw
   have hplace : ∀ {q : eB} {y : V} {H' : ao}, gJ S.E q f ys H = some (y, H') → i_ S.E q ops place f ys H = some (y, H') := fun {q y H'} hd => by
    unfold i_
    rw [if_pos hk]
    cases place with
    | none => exact hd
    | some bi =>
     obtain ⟨b, i⟩ := bi
     have hdt : dr = true := hdr
     subst hdt
     simp only
     rw [if_pos (hnow b i rfl (by simpa using hnw))]; exact hd
   split at h
   ·
    rename_i hown
    split at h
    ·rename_i as hs
     split at h
     ·rename_i hl
      have hg := y_ r.obj hs ha
      have hb := vn r ha hs hl
      split at h
      ·rename_i rs m' hc
       obtain ⟨n, H2, ν2, Z2, st2, F2, ws, e1, rfl, e3, e4⟩ := Gr hS hg hc
       have hdir : ∀ k, n ≤ k → ∀ {o : Option (V × ao)}, (if (result ws).scalar then some (result ws, H) else
        match result ws with
        | .hsl id es off len => (ow H.length H2 id es off len).map fun (v, ob) => (v, H ++ [ob])
        | .tup (.hsl id es off len :: rest) => if V.bZ rest then (ow H.length H2 id es off len).map fun (v, ob) => (.tup (v :: rest), H ++ [ob]) else none
        | _ => none) = o → gJ S.E (run S.E k) f ys H = o := fun k hkn o ho => by
        unfold gJ kh
        rw [if_pos hown]
        simp only [hb, e1 k hkn]
        exact ho
       have scal : ∀ zs : List V, (result zs).scalar = true → result ws = result zs → sv = .v (result zs) → st' = st → ∃ n y H' ν' Z', (∀ k, n ≤ k → i_ S.E (run S.E k) ops place f ys H = some (y, H')) ∧ R ν' Z' st' F H' ∧ cz ν' st'.m H' Z' sv y ∧ Ev Rv ν Z st H ν' Z' st' H' ∧ (dr = true → Z' = Z) ∧ Kept dst ν st.m ν' st'.m := by
        rintro zs h1 h2 rfl rfl
        exact ⟨n, result zs, H, ν, Z, fun k hkn => hplace (hdir k hkn (by rw [h2, if_pos h1])), r, .v _ _ (.same _ (kd h1)), .refl, fun _ => rfl, .refl⟩
       split at h
       ·rename_i zs hz
        split at h
        ·rename_i hsc
         simp only [Option.some.injEq, Prod.mk.injEq] at h
         exact scal zs hsc ((zP (e3.d6 hz)).1 hsc) h.1.symm h.2.symm
        ·simp at h
       ·split at h
        ·rename_i e rest t _
         obtain ⟨w, ws, rfl, g1, g2⟩ := e3.inv
         split at h
         ·
          rename_i es xs zs hob hz
          split at h
          ·rename_i hcnd
           simp only [Bool.and_eq_true] at hcnd
           obtain ⟨⟨c1, c2⟩, hnew⟩ := hcnd
           simp only [Option.some.injEq, Prod.mk.injEq] at h; obtain ⟨rfl, rfl⟩ := h
           have o := e4.obj e _ hob
           simp only [d_, bP, if_true] at o
           obtain ⟨rows, hr, hle, hf, hsol, hrow⟩ := o
           obtain ⟨q1, q2⟩ := hrow trivial
           have hrows : rows = xs := by
            have := BM hf c2
            rw [q1, List.drop_zero, ← q2, List.take_length] at this
            exact this
           subst hrows
           obtain ⟨_, _, _, ee, rfl⟩ := g1.jk hob
           cases ee
           have hrest : ws = zs := (g2.d6 hz).scalar.1 c1
           subst hrest
           have had : ow H.length H2 (ν2 e).1 es 0 rows.length = some (.hsl H.length es 0 rows.length, .row es rows) := by
            unfold ow
            rw [hr]
            simp only [true_and]
            rw [if_pos]
            rw [List.all_eq_true]
            intro x hx
            unfold mS at c2
            rw [List.all_eq_true] at c2
            exact c2 x hx
           have hH : ∀ id, id < H.length → (H ++ [Ob.row es rows])[id]? = H[id]? := fun id hl => List.getElem?_append_left hl
           have hzr : ∀ id, Z id → an (H ++ [Ob.row es rows]) id = an H id := fun id hz => by unfold an; rw [hH id (r.qK hz)]
           have r2 : R ν Z st F (H ++ [Ob.row es rows]) := r.heap (fun id ho => hH id (r.lt ho)) hzr
           have hgr : V.j9 rows = true := by
            refine jy.2 fun j u hu => ?_
            unfold mS at c2
            rw [List.all_eq_true] at c2
            have := c2 u (List.mem_of_getElem? hu)
            rw [List.all_eq_true] at this
            exact gZ.2 fun i v hv => kd (this v (List.mem_of_getElem? hv))
           have hR := r2.add (ν := ν) (d := t) (ob := .sl .row es rows) (p := (H.length, 0)) hnew (fun _ => ⟨fun ho => absurd (r.lt ho) (by simp), fun hz => absurd (r.qK hz) (by simp)⟩) (by
            simp only [d_, bP, if_true, iV]
            refine ⟨rows, by simp, by simp, ?_, (fI.same hgr).z8, fun _ => ⟨trivial, rfl⟩⟩
            rw [List.drop_zero, List.take_length]
            exact fI.same hgr)
           have hsl : cz (iN ν t (H.length, 0)) (aW st.m t (.sl .row es rows)) (H ++ [Ob.row es rows]) Z (.own t) (.hsl H.length es 0 rows.length) := by
            refine .own _ _ fun ob' h' => ?_
            rw [bQ] at h'; cases h'
            exact ⟨_, _, _, rfl, by simp [sW, iV]⟩
           have hev : Ev Rv ν Z st H (iN ν t (H.length, 0)) Z { st with m := aW st.m t (.sl .row es rows) } (H ++ [Ob.row es rows]) := Ev.add hnew (by simp) (fun id hl _ => hH id hl) hzr (fun _ => .inr (Nat.le_refl _))
           have hoff : sW (ν2 e) Fl.row es rows.length = .hsl (ν2 e).1 es 0 rows.length := by simp [sW, q1]
           rw [hoff] at hdir
           cases rest with
           | nil =>
            have : ws = [] := by simp only [d6, Option.some.injEq] at hz; exact hz.symm
            subst this
            refine ⟨n, _, _, _, Z, fun k hkn => hplace (hdir k hkn (o := some (.hsl H.length es 0 rows.length, H ++ [Ob.row es rows])) ?_), hR, hsl, hev, fun _ => rfl, Kept.add fun _ _ h => h⟩
            simp only [result, V.scalar, Bool.false_eq_true, if_false, had, Option.map_some]
           | cons x2 rest =>
            have hcl : ∃ w2 ws2, ws = w2 :: ws2 := by
             have := g2.1
             cases ws with
             | nil => simp at this
             | cons a b => exact ⟨a, b, rfl⟩
            obtain ⟨w2, ws2, rfl⟩ := hcl
            refine ⟨n, _, _, _, Z, fun k hkn => hplace (hdir k hkn (o := some (.tup (.hsl H.length es 0 rows.length :: w2 :: ws2), H ++ [Ob.row es rows])) ?_), hR, ?_, hev, fun _ => rfl, Kept.add fun _ _ h => h⟩
            ·simp only [result, V.scalar, V.bZ, Bool.false_and, Bool.false_eq_true, if_false]
             have c1' : (w2.scalar && V.bZ ws2) = true := by simpa [V.bZ] using c1
             simp only [c1', if_true, had, Option.map_some]
            ·exact .tup _ _ (by simp) (aU.cons hsl (aU.KA (nj c1))).2
          ·simp at h
         ·
          rename_i es xs zs hob hz
          split at h
          ·rename_i c1
           simp only [Option.some.injEq, Prod.mk.injEq] at h
           obtain ⟨_, _, _, ee, rfl⟩ := g1.jk hob
           cases ee
           have hrest := (g2.d6 hz).scalar.1 c1
           subst hrest
           exact scal (.au :: ws) (rS (xU c1).1) rfl h.1.symm h.2.symm
          ·simp at h
         ·rename_i es xs zs hob hz
          split at h
          ·rename_i c1
           simp only [Option.some.injEq, Prod.mk.injEq] at h
           obtain ⟨_, _, _, ee, rfl⟩ := g1.jk hob
           cases ee
           have hrest := (g2.d6 hz).scalar.1 c1
           subst hrest
           exact scal (.dZ :: ws) (rS (xU c1).2) rfl h.1.symm h.2.symm
          ·simp at h
         ·simp at h
        ·simp at h
      ·simp at h
     ·simp at h
    ·simp at h
   ·rename_i hown
    split at h
    ·simp at h
    ·rename_i hd
     split at h
     ·rename_i os hh
      split at h
      ·rename_i rs m' hc
       split at h
       ·rename_i zs m2 hz hb
        simp only [Option.some.injEq, Prod.mk.injEq] at h; obtain ⟨rfl, rfl⟩ := h
        obtain ⟨n, y, H', Z', e1, e2, e3, e4, e5⟩ := Ht (Rv := Rv) hS hk r ha hh hc hz hb
        exact ⟨n, y, H', ν, Z', fun k hkn => hplace (by unfold gJ; rw [if_neg hown]; exact e1 k hkn), e2, e3, e4, fun h => absurd h hd, fun e ob' _ => e5 e ob'⟩
       ·simp at h
      ·simp at h
     ·simp at h
  ·simp at h
 ·rename_i hk
  have hk' : S.E.keep f = false := by simpa using hk
  split at h
  ·rename_i as hs
   split at h
   ·rename_i hl
    simp only [Bool.and_eq_true, Bool.or_eq_true] at hl
    split at h
    ·rename_i rs m' hc
     split at h
     ·rename_i zs hz
      split at h
      ·rename_i hcnd
       simp only [Bool.and_eq_true, Bool.or_eq_true, Bool.not_eq_true'] at hcnd
       simp only [Option.some.injEq, Prod.mk.injEq] at h; obtain ⟨rfl, rfl⟩ := h
       obtain ⟨n, H', e1, e2, e3, e4⟩ := HH (Rv := Rv) hS hdr hnow hold r ha hk' hs hl.1 (by simpa using hl.2) hc hz hcnd.1 hcnd.2
       exact ⟨n, _, H', ν, Z, e1, e2, e3, e4, fun _ => rfl, .refl⟩
      ·simp at h
     ·simp at h
    ·simp at h
   ·simp at h
  ·simp at h
end
end Go.VE
namespace Go.VE
structure CX where
 E : Env
 nm : FuncId → Option Nat
 nt : Nat
def Ff (ops : List Oper) (o : Oper) : Option (Option (Nat × Bool)) :=
 match o.guard with
 | none => some none
 | some (j, b) => ((ops[j]?).bind (·.dst)).map fun d => some (d, b)
def Dm (nt : Nat) : Option Nat → Bool
 | none => true
 | some d => decide (d < nt)
def sP (draw : Bool) (ops : List Oper) (i : Nat) (k : K) (os : List Operand) : K × List Operand × Bool :=
 if draw && !eT ops i then match k, os, wq ops i with
  | .l (.store n), .tmp a' :: os', some (a, l) => if a' = a then (.l (.storeF n), (.tmp a' :: os') ++ l.map .tmp, true) else (k, os, false)
  | _, _, _ => (k, os, false)
 else (k, os, draw && eT ops i)
theorem C0 (draw : Bool) (ops : List Oper) (i : Nat) (k : K) (os : List Operand) : sP draw ops i k os = (k, os, draw && eT ops i) ∨
 (draw = true ∧ eT ops i = false ∧ ∃ n a l os', k = .l (.store n) ∧ os = .tmp a :: os' ∧ wq ops i = some (a, l) ∧ sP draw ops i k os = (.l (.storeF n), os ++ l.map .tmp, true)) := by
 unfold sP
 split
 ·rename_i h
  simp only [Bool.and_eq_true, Bool.not_eq_true'] at h
  split
  ·rename_i n a' os' a l hk
   split
   ·rename_i e; subst e
    refine .inr ⟨h.1, h.2, n, a', l, os', rfl, rfl, hk, ?_⟩
    simp only [sP, h.1, h.2, hk, Bool.not_false, Bool.and_self, if_true]
   ·exact .inl (by rw [h.2, Bool.and_false])
  ·exact .inl (by rw [h.2, Bool.and_false])
 ·exact .inl rfl
def o5 (X : CX) (draw : Bool) (ops : List Oper) (i : Nat) (o : Oper) : Option RO :=
 if Dm X.nt o.dst then
  match Ff ops o, resolve X.E X.nm o.op with
  | some gd, some (k, os) => if qI k then ((sP draw ops i k os).2.1.mapM (rj X.nm)).map fun as => ⟨o.dst, gd, (sP draw ops i k os).2.2, (sP draw ops i k os).1, as, [], []⟩ else none
  | _, _ => none
 else none
structure Good (X : CX) (S : Sys) : Prop where
 E : X.E = S.E
 N : ∀ f s, X.nm f = some s → S.N s = f
section
variable {Rv : Nat → Prop} {ν ν' : Nu} {Z Z' : Nat → Prop} {st st' : St} {m m' : Tb aE} {F F' : Frame} {H H' H1 : ao} {S : Sys} {c : b_} {X : CX}
def Old (b : Nat) (fr : List Nat) (ν : Nu) (Z : Nat → Prop) (m : Tb aE) : Prop := (∀ d ob, aj m d = some ob → b7 ob = true → d ∉ fr → (ν d).1 < b) ∧ ∀ id, Z id → id < b
theorem kW {fr : List Nat} : ∀ {svs : List SV}, fq fr svs = true → ∀ d ∈ fr, SV.cx d svs = false
 | [], _, d, _ => rfl
 | .v _ :: r, h, d, hd => by simp only [SV.cx, SV.bT, Bool.false_or]; exact kW (svs := r) (by simpa [fq] using h) d hd
 | .ptr e _ :: r, h, d, hd => by
  simp only [fq, Bool.and_eq_true, Bool.not_eq_true', List.contains_eq_mem, decide_eq_false_iff_not] at h
  simp only [SV.cx, SV.bT, Bool.or_eq_false_iff, beq_eq_false_iff_ne]
  exact ⟨fun e => h.1 (e ▸ hd), kW h.2 d hd⟩
 | .el e _ _ :: r, h, d, hd => by
  simp only [fq, Bool.and_eq_true, Bool.not_eq_true', List.contains_eq_mem, decide_eq_false_iff_not] at h
  simp only [SV.cx, SV.bT, Bool.or_eq_false_iff, beq_eq_false_iff_ne]
  exact ⟨fun e => h.1 (e ▸ hd), kW h.2 d hd⟩
 | .mp e :: r, h, d, hd => by
  simp only [fq, Bool.and_eq_true, Bool.not_eq_true', List.contains_eq_mem, decide_eq_false_iff_not] at h
  simp only [SV.cx, SV.bT, Bool.or_eq_false_iff, beq_eq_false_iff_ne]
  exact ⟨fun e => h.1 (e ▸ hd), kW h.2 d hd⟩
 | .own _ :: r, h, _, _ => by simp [fq] at h
 | .clo .. :: r, h, _, _ => by simp [fq] at h
 | .tup _ :: r, h, _, _ => by simp [fq] at h
 | .yl _ :: r, h, _, _ => by simp [fq] at h
def Dk (S : Sys) (ops : List Oper) (place : Option (Nat × Nat)) (dr : Bool) (F : Frame) (op : Op) (dst : Option Nat) (ν : Nu) (Z : Nat → Prop) (st : St) (H : ao) (sv : SV) (st' : St) : Prop :=
 ∃ n y H' ν' Z', (∀ k, n ≤ k → dO S.E (run S.E k) ops place F H op = some (y, H')) ∧ R ν' Z' st' F H' ∧ cz ν' st'.m H' Z' sv y ∧ Ev (fun id => ∃ b j, place = some (b, j) ∧ id = b + j) ν Z st H ν' Z' st' H' ∧
  (dr = true → Z' = Z ∧ Kept dst ν st.m ν' st'.m)
theorem EO (gd : Good X S) {ops : List Oper} {place : Option (Nat × Nat)} {dr : Bool} {op : Op} {dst : Option Nat} {p : pU} {svs : List SV} {ys : List V} (hk : qI (.p p) = true) (r : R ν Z st F H) (rs : aU ν st.m H Z svs ys)
 (hres : GS X.E S.N F op ys (.p p)) {sv : SV} (h : (hY S.N st.m p svs).map (fun x => (x, st)) = some (sv, st')) : Dk S ops place dr F op dst ν Z st H sv st' := by
 obtain ⟨x, hx, e⟩ := Option.map_eq_some_iff.1 h
 simp only [Prod.mk.injEq] at e; obtain ⟨rfl, rfl⟩ := e
 obtain ⟨y, hy, hyy⟩ := Fu (N := S.N) (fun zero pl e => by subst e; simpa [qI] using hk) r.obj rs hx
 obtain ⟨h1, h2⟩ := hres
 exact ⟨0, y, H, ν, Z, fun q _ => by unfold dO; rw [h1]; simp only [← gd.E, h2 y hy, Option.map_some], r, hyy, .refl, fun _ => ⟨rfl, .refl⟩⟩
theorem B1 : ∀ {l1 l2 : List Operand} {vs : List V}, gw F (l1 ++ l2) = some vs → ∃ v1 v2, gw F l1 = some v1 ∧ gw F l2 = some v2 ∧ vs = v1 ++ v2
 | [], l2, vs, h => ⟨[], vs, rfl, h, rfl⟩
 | x :: l1, l2, vs, h => by
  obtain ⟨a, as, h1, h2, rfl⟩ := hO h
  obtain ⟨v1, v2, g1, g2, rfl⟩ := B1 h2
  exact ⟨a :: v1, v2, by simp only [gw, h1, g1], g2, rfl⟩
theorem Bn : ∀ {l : List Nat} {vs : List V}, gw F (l.map Operand.tmp) = some vs → vs = l.map (get F)
 | [], vs, h => ny h
 | x :: l, vs, h => by
  obtain ⟨a, as, h1, h2, rfl⟩ := hO h
  simp only [ev, Option.some.injEq] at h1; subst h1
  rw [Bn h2]; rfl
theorem IJ (gd : Good X S) {call : eB} {ops : List Oper} {b j n a : Nat} {l : List Nat} {o : Oper} {os' : List Operand} {ys : List V} {y : V} (hr : resolve X.E X.nm o.op = some (.l (.store n), .tmp a :: os')) (hys : gw F ((.tmp a :: os') ++ l.map Operand.tmp) = some ys)
 (hfs : wq ops j = some (a, l)) (hnl : eT ops j = false) (e1 : kB H (.storeF n) ys = some (y, H')) : dO S.E call ops (some (b, j)) F H o.op = some (y, H') := by
 obtain ⟨v1, v2, h1, h2, rfl⟩ := B1 hys
 obtain ⟨g1, g2⟩ := sn gd.N hr h1
 obtain ⟨w, ws, h3, h4, rfl⟩ := hO h1
 simp only [ev, Option.some.injEq] at h3
 have hone : ∃ v, ws = [v] := by
  have hos : ∃ x, os' = [x] := by
   unfold resolve at hr
   (repeat' split at hr) <;> first | (simp at hr; done) | skip
   all_goals (try (obtain ⟨_, _, e⟩ := Option.map_eq_some_iff.1 hr; simp only [Prod.mk.injEq, K.l.injEq, Cj.store.injEq, List.cons.injEq, reduceCtorEq, false_and, and_false] at e))
   all_goals (try exact ⟨_, e.2.2.symm⟩)
  obtain ⟨x, rfl⟩ := hos
  obtain ⟨v, vs, _, h5, rfl⟩ := hO h4
  rw [ny h5]; exact ⟨v, rfl⟩
 obtain ⟨v, rfl⟩ := hone
 rw [Bn h2, ← h3] at e1
 simp only [List.cons_append, List.nil_append] at e1
 cases hw : get F a with
 | hptr id el off =>
  rw [hw] at e1
  simp only [kB] at e1
  split at e1
  ·rename_i hap
   have hf : nC ops j F = true := by
    unfold nC
    rw [hfs]
    simp only [hw]
    rw [List.all_map] at hap
    exact hap
   unfold dO
   rw [g1]
   simp only [hf, Bool.or_true, if_true, ← gd.E]
   refine g2 _ _ ?_
   rw [← h3, hw]
   exact e1
  ·simp at e1
 | _ => rw [hw] at e1; simp [kB] at e1
theorem Iz (gd : Good X S) (hS : iL S c) {ops : List Oper} {place : Option (Nat × Nat)} {dr : Bool} {fr : List Nat} {i : Nat} (hdr : dr = place.isSome) (hi : ∀ b j, place = some (b, j) → j = i)
 (hold : ∀ b j, place = some (b, j) → b ≤ H.length ∧ Old b fr ν Z st.m)
 {o : Oper} {ro : RO} (hc : o5 X dr ops i o = some ro) (hfree : ∀ b j, place = some (b, j) → eR o.op = .alloc → H[b + j]? = some .free)
 (r : R ν Z st F H) {sv : SV} (h : kn S c dr fr ro st = some (sv, st')) :
 Dk S ops place dr F o.op (sN ro) ν Z st H sv st' := by
 unfold o5 at hc
 split at hc
 ·split at hc
  ·rename_i g k os hg hr
   split at hc
   ·rename_i hk
    rcases C0 dr ops i k os with hq | ⟨hdt, hnl, n, a, l, os', rfl, rfl, hfs, hq⟩
    rotate_left
    ·rw [hq] at hc
     obtain ⟨as, ha, rfl⟩ := Option.map_eq_some_iff.1 hc
     unfold kn at h
     split at h
     ·rename_i svs hsv
      obtain ⟨ys, hys, rs⟩ := rZ gd.N r.slot ha hsv
      simp only [hdt, Bool.not_true, Bool.false_or, if_true] at h
      obtain ⟨y, H', ν', e1, e2, e3, e4, e5⟩ := Am r rs h
      refine ⟨0, y, H', ν', Z, fun q _ => ?_, e2, e3, e4.weak (fun _ h => h.elim), fun _ => ⟨rfl, e5⟩⟩
      cases place with
      | none => rw [hdr] at hdt; cases hdt
      | some bi =>
       obtain ⟨b, j⟩ := bi
       have hji := hi b j rfl
       subst hji
       exact IJ gd hr hys hfs hnl e1
     ·simp at h
    rw [hq] at hc
    obtain ⟨as, ha, rfl⟩ := Option.map_eq_some_iff.1 hc
    unfold kn at h
    split at h
    ·rename_i svs hsv
     obtain ⟨ys, hys, rs⟩ := rZ gd.N r.slot ha hsv
     have hres := sn gd.N hr hys
     simp only at h
     cases k with
     | p p =>
      cases p with
      | slice size lo hi =>
       simp only at h
       split at h
       ·rename_i d bs
        split at h
        ·simp at h
        ·rename_i hnd
         obtain ⟨y, ν', h1, h2, h3, h4⟩ := DP (N := S.N) (Rv := fun id => ∃ b j, place = some (b, j) ∧ id = b + j) r rs h
         obtain ⟨g1, g2⟩ := hres
         exact ⟨0, y, H, ν', Z, fun q _ => by unfold dO; rw [g1]; simp only [← gd.E, g2 y h1, Option.map_some], h2, h3, h4, fun hd => absurd hd hnd⟩
       ·exact EO gd hk r rs hres h
      | _ => exact EO gd hk r rs hres h
     | r q =>
      simp only at h
      split at h
      ·rename_i hnow
       obtain ⟨x, hx, e⟩ := Option.map_eq_some_iff.1 h
       simp only [Prod.mk.injEq] at e; obtain ⟨rfl, rfl⟩ := e
       obtain ⟨g1, g2⟩ := hres
       have hzc : ∀ kk z ok, q = .lookup kk z ok → z.aN = true := fun kk z ok e => by subst e; simpa [qI] using hk
       cases place with
       | none =>
        obtain ⟨y, hy, hyy⟩ := sJ hzc rs (fun d _ ob hd => r.obj d ob hd) hx
        exact ⟨0, y, H, ν, Z, fun q _ => by unfold dO; rw [g1]; simp only [← gd.E, g2 H y hy, Option.map_some], r, hyy, .refl, fun _ => ⟨rfl, .refl⟩⟩
       | some bi =>
        obtain ⟨b, j⟩ := bi
        obtain ⟨hbl, ho1, ho2⟩ := hold b j rfl
        have hdt : dr = true := hdr
        subst hdt
        have hji := hi b j rfl
        subst hji
        simp only [Bool.not_true, Bool.false_or, Bool.true_and] at hnow
        by_cases hlo : eT ops j = true
        ·obtain ⟨y, hy, hyy⟩ := sJ hzc rs (fun d _ ob hd => r.obj d ob hd) hx
         have hH := g2 H y hy
         refine ⟨0, y, H, ν, Z, fun q _ => ?_, r, hyy, .refl, fun _ => ⟨rfl, .refl⟩⟩
         unfold dO; rw [g1]
         simp only [← gd.E]
         split
         ·rename_i v hv
          have := sX hv
          rw [hH] at this; cases this; rfl
         ·rw [if_pos hlo, hH]; rfl
        ·have hol : fq fr svs = true := by simpa [hlo] using hnow
         have hzr : ∀ id, Z id → Z id ∧ an (H.take b) id = an H id := fun id h => ⟨h, nZ (ho2 id h)⟩
         have hzr' : ∀ id, Z id → Z id ∧ an H id = an (H.take b) id := fun id h => ⟨h, (nZ (ho2 id h)).symm⟩
         obtain ⟨y, hy, hyy⟩ := sJ (H := H.take b) hzc (rs.mono hzr fun e _ => jv ν st.m e) (fun d hd ob hob => by
          have hnf : d ∉ fr := fun hf => by rw [kW hol d hf] at hd; cases hd
          exact d_.mono hzr rfl (fun hb => by rw [List.getElem?_take, if_pos (ho1 d ob hob hb hnf)]) (fun e _ => jv ν st.m e) (r.obj d ob hob)) hx
         refine ⟨0, y, H, ν, Z, fun q _ => ?_, r, hyy.mono hzr' (fun e _ => jv ν st.m e), .refl, fun _ => ⟨rfl, .refl⟩⟩
         unfold dO; rw [g1]
         simp only [← gd.E, g2 (H.take b) y hy]
      ·simp at h
     | a q =>
      simp only at h
      split at h
      ·rename_i d hd
       split at h
       ·rename_i hnew
        obtain ⟨⟨ob, x⟩, hx, e⟩ := Option.map_eq_some_iff.1 h
        simp only [Prod.mk.injEq] at e; obtain ⟨rfl, rfl⟩ := e
        obtain ⟨obv, mk, e1, e2, e3, e4⟩ := Eb hk rs hx
        obtain ⟨g1, g2⟩ := hres
        obtain ⟨n1, n2, n3, n4⟩ := mq hnew
        have hsame : ∀ p : Nat × Nat, ∀ e, SV.cx e svs = true → ∀ ob', aj (aW st.m d ob) e = some ob' → ∃ ob, aj st.m e = some ob ∧ iN ν d p e = ν e ∧ sameShape ob ob' := fun p e he => by
         refine nP ?_
         rintro rfl
         have : ∀ {xs : List Arg} {vs : List SV}, bB S.N st.g xs = some vs → SV.cx e vs = false := by
          intro xs
          induction xs with
          | nil => intro vs h; simp only [bB, Option.some.injEq] at h; subst h; rfl
          | cons a xs ih =>
           intro vs h
           simp only [bB] at h
           split at h
           ·rename_i v vs' h1 h2
            simp only [Option.some.injEq] at h; subst h
            simp only [SV.cx, Bool.or_eq_false_iff]
            refine ⟨?_, ih h2⟩
            cases a with
            | s n => exact sj n3 h1
            | k c => simp only [m6, Option.some.injEq] at h1; subst h1; rfl
            | f s => simp only [m6, Option.some.injEq] at h1; subst h1; rfl
           ·simp at h
         rw [this hsv] at he; cases he
        have fin : ∀ (id : Nat) (Hn : ao), H.length ≤ Hn.length → Hn[id]? = some obv → (∀ k, k < H.length → k ≠ id → Hn[k]? = H[k]?) → (∀ k, eS ν st.m k → k ≠ id) → (∀ k, Z k → k ≠ id) →
         R (iN ν d (id, 0)) Z { st with m := aW st.m d ob } F Hn ∧ cz (iN ν d (id, 0)) (aW st.m d ob) Hn Z x (mk.val id) ∧ (∀ k, Z k → an Hn k = an H k) := fun id Hn hl hid hk' ho hz => by
         have hzr : ∀ k, Z k → an Hn k = an H k := fun k hk => by unfold an; rw [hk' k (r.qK hk) (hz k hk)]
         obtain ⟨a1, a2⟩ := e4 id (iN ν d (id, 0)) (aW st.m d ob) Hn (iV _ _ _) (bQ _ _ _) hid hzr (hsame _)
         have r2 : R ν Z st F Hn := r.heap (fun k hk => hk' k (r.lt hk) (ho k hk)) hzr
         exact ⟨r2.add hnew (fun _ => ⟨fun h => ho _ h rfl, fun h => hz _ h rfl⟩) a1, a2, hzr⟩
        have hdst : o.dst = some d := hd
        cases place with
        | none =>
         obtain ⟨f1, f2, f3⟩ := fin H.length (H ++ [obv]) (by simp) (by simp) (fun k hk _ => List.getElem?_append_left hk) (fun k hk => Nat.ne_of_lt (r.lt hk)) (fun k hk => Nat.ne_of_lt (r.qK hk))
         refine ⟨0, mk.val H.length, H ++ [obv], iN ν d (H.length, 0), Z, fun q _ => ?_, f1, f2, Ev.add hnew (by simp) (fun k hk _ => List.getElem?_append_left hk) f3 (fun _ => .inr (Nat.le_refl _)), fun hh => ?_⟩
         ·unfold dO; rw [g1]
          simp only [← gd.E, g2 _ e1]
         ·rw [hdr] at hh; cases hh
        | some bi =>
         obtain ⟨b, j⟩ := bi
         have hf := hfree b j rfl g1
         have hlt := (List.getElem?_eq_some_iff.1 hf).1
         have nf : ∀ k, eS ν st.m k → k ≠ b + j := fun k hk e => by
          subst e
          obtain ⟨d', ob', w1, w2, w3⟩ := hk
          have := r.obj d' ob' w1
          cases ob' with
          | sl fl es xs =>
           simp only [b7] at w2
           simp only [d_, w2, if_true] at this
           obtain ⟨_, hr', _⟩ := this
           rw [w3, hf] at hr'; cases hr'
          | box cs => obtain ⟨_, _, hr', _⟩ := this; rw [w3, hf] at hr'; cases hr'
          | mp kvs => obtain ⟨_, hr', _⟩ := this; rw [w3, hf] at hr'; cases hr'
         have nz : ∀ k, Z k → k ≠ b + j := fun k hk e => by
          subst e
          have := r.zrow _ hk
          unfold an at this; rw [hf] at this; simp [Ob.rows] at this
         obtain ⟨f1, f2, f3⟩ := fin (b + j) (H.set (b + j) obv) (by simp) (by rw [List.getElem?_set_self hlt]) (fun k _ hk => by rw [List.getElem?_set, if_neg (Ne.symm hk)]) nf nz
         refine ⟨0, mk.val (b + j), H.set (b + j) obv, iN ν d (b + j, 0), Z, fun q _ => ?_, f1, f2, Ev.add hnew (by simp) (fun k _ hk => ?_) f3 (fun _ => .inl ⟨b, j, rfl, rfl⟩), fun _ => ⟨rfl, ?_⟩⟩
         ·unfold dO; rw [g1]
          simp only [← gd.E, g2 _ e1, hf]
         ·rw [List.getElem?_set, if_neg fun e => hk ⟨b, j, rfl, e.symm⟩]
         ·have : sN ⟨o.dst, g, dr && eT ops j, .a q, as, [], []⟩ = some d := hdst
          have hji := hi b j rfl
          subst hji
          rw [this]; exact Kept.add fun _ _ h => h
       ·simp at h
      ·simp at h
     | l q =>
      simp only at h
      split at h
      ·rename_i hnow
       obtain ⟨y, H', ν', e1, e2, e3, e4, e5⟩ := Am r rs h
       obtain ⟨g1, g2⟩ := hres
       refine ⟨0, y, H', ν', Z, fun q _ => ?_, e2, e3, e4.weak (fun _ h => h.elim), fun _ => ⟨rfl, e5⟩⟩
       unfold dO; rw [g1]
       simp only [← gd.E]
       cases place with
       | none => exact g2 _ _ e1
       | some bi =>
        obtain ⟨b, j⟩ := bi
        have hdt : dr = true := hdr
        subst hdt
        have hji := hi b j rfl
        subst hji
        have hlo : eT ops j = true := by simpa using hnow
        simp only [hlo, if_true]; exact g2 _ _ e1
      ·simp at h
     | c =>
      simp only at h
      obtain ⟨g1, f', as', e1, e2⟩ := hres
      have go : ∀ (f : FuncId) (args : List SV) (ys2 : List V), aU ν st.m H Z args ys2 → gU F o.op = some (.fn f, ys2) → h_ S c o.dst dr (!dr || (dr && eT ops i)) (fF st.m fr) f args st = some (sv, st') →
       Dk S ops place dr F o.op (sN ⟨o.dst, g, dr && eT ops i, .c, as, [], []⟩) ν Z st H sv st' := fun f args ys2 hrl hcal hcs => by
       obtain ⟨n, y, H', ν', Z', p1, p2, p3, p4, p5, p6⟩ := Gn (ops := ops) (Rv := fun id => ∃ b j, place = some (b, j) ∧ id = b + j) hS hdr (fun b j hp hn => by
        have := hi b j hp; subst this
        simp only [Bool.and_eq_true] at hn; exact hn.2) (fun b j hp => (hold b j hp).2) r hrl hcs
       refine ⟨n, y, H', ν', Z', fun q hq => ?_, p2, p3, p4, fun hd => ⟨p5 hd, p6⟩⟩
       unfold dO; rw [g1]
       simp only [hcal]
       exact p1 q hq
      split at h
      ·rename_i f a b vs
       obtain ⟨w, ws, ew, r1, r2⟩ := rs.inv
       rw [ew] at e1
       simp only [List.cons.injEq] at e1
       obtain ⟨rfl, rfl⟩ := e1
       obtain ⟨a', b', rfl, ra, rb⟩ := r1.iT
       exact go f _ _ ((ra.append r2).append rb) e2 h
      ·rename_i f a b vs
       obtain ⟨w, ws, ew, r1, r2⟩ := rs.inv
       rw [ew] at e1
       simp only [List.cons.injEq] at e1
       obtain ⟨rfl, rfl⟩ := e1
       obtain ⟨a', b', rfl, ra, rb⟩ := r1.fr.iT
       exact go f _ _ (((aU.oc ra).append r2).append (aU.oc rb)) e2 h
      ·simp at h
    ·simp at h
   ·simp at hc
  ·simp at hc
 ·simp at hc
end
end Go.VE
namespace Go.VE
def fm (N : Nat → FuncId) (g : Tb SV) (o : RO) : Option (Nat × List SV) :=
 match o.k, bB N g o.as with
 | .c, some (.yl id :: vs) => some (id, vs)
 | _, _ => none
open Classical in
noncomputable def e9 (S : Sys) (c : b_) (dr : Bool) (fr : List Nat) (o : RO) (st : St) : Option St :=
 match wanted st.g o.gd with
 | some true => match fm S.N st.g o with
  | some (id, vs) => if dr then none else match d6 vs, st.want with
   | some xs, w :: ws => if xs = w ∧ id = st.yid then some (c_ { st with want := ws } o.dst (.v (.bool (st.more || !ws.isEmpty)))) else none
   | _, _ => none
  | none => (kn S c dr fr o st).map fun (x, st') => c_ st' o.dst x
 | some false => some (c_ st o.dst (.v .undef))
 | none => none
def RO.strip (o : RO) : RO := { o with dead := [], pre := [] }
def m9 : List Gh → St → Option St
 | [], st => some st
 | x :: r, st => (ghost x st).bind (m9 r)
def vN (dr : Bool) (l : List Gh) (st : St) : Option St := if dr then (if l.isEmpty then some st else none) else m9 l st
def lB (ds : List Nat) (st : St) : St := { st with g := sR ds st.g }
noncomputable def jC (S : Sys) (c : b_) (dr : Bool) : List Nat → List RO → St → Option St
 | _, [], st => some st
 | fr, o :: r, st => match (vN dr o.pre st).bind (e9 S c dr fr o.strip) with
  | some st' => jC S c dr (if dr then lY fr o.strip else fr) r (lB o.dead st')
  | none => none
abbrev JT := List (List V) → (Nat → Prop) → (Nat → Prop) → ao → Prop
structure Yc (S : Sys) (J : JT) (more : Bool) (yid : Nat) : Prop where
 qU : ∀ w O Z H O' Z' H', J w O Z H → H.length ≤ H'.length → (∀ i, i < H.length → ¬ O i → ¬ Z i → H'[i]? = H[i]?) → (∀ i, Z i → Z' i ∧ an H' i = an H i) →
  (∀ i, O' i → O i ∨ H.length ≤ i) → (∀ i, Z' i → Z i ∨ O i ∨ H.length ≤ i) → J w O' Z' H'
 yield : ∀ x ws O Z H args, J (x :: ws) O Z H → cu H Z x args → (∀ i, Z i → (an H i).isSome = true) → q8 H Z → (∀ i, O i → ¬ Z i ∧ i < H.length) →
  ∃ n H', run S.E n (.yld yid) args H = some (.bool (more || !ws.isEmpty), H') ∧ J ws O Z H' ∧ H.length ≤ H'.length ∧ (∀ i, O i → H'[i]? = H[i]?) ∧ (∀ i, Z i → an H' i = an H i)
structure Fix (ν : Nu) (st : St) (ν' : Nu) (st' : St) : Prop where
 pin : ∀ d ∈ st.pin, ∀ ob', aj st'.m d = some ob' → ∃ ob, aj st.m d = some ob ∧ ν' d = ν d ∧ sameShape ob ob'
 pins : st'.pin = st.pin
 more : st'.more = st.more
 yid : st'.yid = st.yid
section
variable {Rv : Nat → Prop} {ν ν' ν2 : Nu} {Z Z' : Nat → Prop} {st st' st2 : St} {m m' : Tb aE} {F F' : Frame} {H H' H1 : ao} {S : Sys} {c : b_} {X : CX} {J : JT}
theorem Fix.refl : Fix ν st ν st := ⟨fun _ _ ob' h => ⟨ob', h, rfl, .refl _⟩, rfl, rfl, rfl⟩
theorem Fix.trans (a : Fix ν st ν' st') (b : Fix ν' st' ν2 st2) : Fix ν st ν2 st2 :=
 ⟨fun d hd ob2 h => by
  obtain ⟨ob1, h1, h2, h3⟩ := b.pin d (by rw [a.pins]; exact hd) ob2 h
  obtain ⟨ob, k1, k2, k3⟩ := a.pin d hd ob1 h1
  exact ⟨ob, k1, by rw [h2, k2], k3.trans h3⟩, by rw [b.pins, a.pins], by rw [b.more, a.more], by rw [b.yid, a.yid]⟩
theorem Ev.beside (y : Yc S J st.more st.yid) (a : Ev (fun _ => False) ν Z st H ν' Z' st' H') (hw : st'.want = st.want) (j : J st.want (eS ν st.m) Z H) : J st'.want (eS ν' st'.m) Z' H' := by
 rw [hw]
 exact y.qU _ _ _ _ _ _ _ j a.len (fun i h1 h2 h3 => a.same i h1 h2 h3 (fun h => h)) a.rows (fun i h => (a.own i h).imp (fun h => h) (fun h => h.elim (fun h => h.elim) (fun h => h)))
  (fun i h => (a.frz i h).imp (fun h => h) (fun h => h.imp (fun h => h) (fun h => h.elim (fun h => h.elim) (fun h => h))))
theorem o8 (hs : ∀ s sv, aj st.g s = some sv → cz ν m H Z sv (get F s)) {ops : List Oper} {o : Oper} {gd : Option (Nat × Bool)} (hg : Ff ops o = some gd) {t : Bool} (hw : wanted st.g gd = some t) : fN ops F o = t := by
 unfold Ff at hg
 unfold fN
 cases hgd : o.guard with
 | none =>
  rw [hgd] at hg
  simp only [Option.some.injEq] at hg; subst hg
  simp only [wanted, Option.some.injEq] at hw; subst hw; rfl
 | some jb =>
  obtain ⟨j, b⟩ := jb
  rw [hgd] at hg
  simp only at hg
  obtain ⟨d, hd, rfl⟩ := Option.map_eq_some_iff.1 hg
  simp only [hd]
  simp only [wanted] at hw
  split at hw
  ·rename_i c hc
   simp only [Option.some.injEq] at hw; subst hw
   rw [(hs d _ hc).fr.bool]
  ·rename_i x hx hc
   simp only [Option.some.injEq] at hw; subst hw
   have hfr := (hs d _ hc).fr
   split
   ·rename_i c hcc
    rw [hcc] at hfr
    cases hfr
    exact absurd rfl (hx c)
   ·rfl
  ·simp at hw
theorem Fi {dr : Bool} {fr : List Nat} {ro : RO} {sv : SV} (h : kn S c dr fr ro st = some (sv, st')) : st'.want = st.want ∧ st'.pin = st.pin ∧ st'.more = st.more ∧ st'.yid = st.yid := by
 unfold kn at h
 split at h
 ·split at h
  ·split at h
   ·split at h
    ·simp at h
    ·unfold tT at h
     split at h
     ·split at h
      ·obtain ⟨_, _, h⟩ := Option.bind_eq_some_iff.1 h
       obtain ⟨_, _, h⟩ := Option.bind_eq_some_iff.1 h
       dsimp only at h
       split at h
       ·simp only [Option.some.injEq, Prod.mk.injEq] at h; obtain ⟨_, rfl⟩ := h; exact ⟨rfl, rfl, rfl, rfl⟩
       ·simp at h
      ·simp at h
     ·simp at h
   ·obtain ⟨_, _, e⟩ := Option.map_eq_some_iff.1 h
    simp only [Prod.mk.injEq] at e; obtain ⟨_, rfl⟩ := e; exact ⟨rfl, rfl, rfl, rfl⟩
  ·obtain ⟨_, _, e⟩ := Option.map_eq_some_iff.1 h
   simp only [Prod.mk.injEq] at e; obtain ⟨_, rfl⟩ := e; exact ⟨rfl, rfl, rfl, rfl⟩
  ·split at h
   ·obtain ⟨_, _, e⟩ := Option.map_eq_some_iff.1 h
    simp only [Prod.mk.injEq] at e; obtain ⟨_, rfl⟩ := e; exact ⟨rfl, rfl, rfl, rfl⟩
   ·simp at h
  ·split at h
   ·split at h
    ·obtain ⟨_, _, e⟩ := Option.map_eq_some_iff.1 h
     simp only [Prod.mk.injEq] at e; obtain ⟨_, rfl⟩ := e; exact ⟨rfl, rfl, rfl, rfl⟩
    ·simp at h
   ·simp at h
  ·split at h
   ·unfold k_ at h
    (repeat' split at h) <;> first | (simp at h; done) | (simp only [Option.some.injEq, Prod.mk.injEq] at h; obtain ⟨_, rfl⟩ := h; exact ⟨rfl, rfl, rfl, rfl⟩) | (obtain ⟨_, _, e⟩ := Option.map_eq_some_iff.1 h; simp only [Prod.mk.injEq] at e; obtain ⟨_, rfl⟩ := e; exact ⟨rfl, rfl, rfl, rfl⟩) | skip
    ·dsimp only at h
     (repeat' split at h) <;> first | (simp at h; done) | (simp only [Option.some.injEq, Prod.mk.injEq] at h; obtain ⟨_, rfl⟩ := h; exact ⟨rfl, rfl, rfl, rfl⟩)
   ·simp at h
  ·have hc : ∀ {dst dr now old f args}, h_ S c dst dr now old f args st = some (sv, st') → st'.want = st.want ∧ st'.pin = st.pin ∧ st'.more = st.more ∧ st'.yid = st.yid := by
    intro dst dr now old f args h
    unfold h_ at h
    (repeat' split at h) <;> first | (simp at h; done) | (simp only [Option.some.injEq, Prod.mk.injEq] at h; obtain ⟨_, rfl⟩ := h; exact ⟨rfl, rfl, rfl, rfl⟩)
   split at h
   ·exact hc h
   ·exact hc h
   ·simp at h
 ·simp at h
theorem uv (r : R ν Z st F H) {nt : Nat} {dst : Option Nat} (hd : Dm nt dst = true) {sv : SV} {y : V} (h : cz ν st.m H Z sv y) : ∃ F', iu nt F dst y = some F' ∧ R ν Z (c_ st dst sv) F' H := by
 cases dst with
 | none => exact ⟨F, rfl, r⟩
 | some d =>
  have : d < nt := by simpa [Dm] using hd
  exact ⟨set F d y, by simp only [iu, if_pos this], r.put h⟩
theorem xq (st : St) (dst : Option Nat) (sv : SV) : (c_ st dst sv).m = st.m ∧ (c_ st dst sv).want = st.want ∧ (c_ st dst sv).pin = st.pin ∧ (c_ st dst sv).more = st.more ∧ (c_ st dst sv).yid = st.yid := by
 cases dst <;> exact ⟨rfl, rfl, rfl, rfl, rfl⟩
theorem Ci (gd : Good X S) (hS : iL S c) {ops : List Oper} {place : Option (Nat × Nat)} {dr : Bool} {fr : List Nat} {i : Nat} (hdr : dr = place.isSome) (hi : ∀ b j, place = some (b, j) → j = i)
 (hold : ∀ b j, place = some (b, j) → b ≤ H.length ∧ Old b fr ν Z st.m)
 {o : Oper} {ro : RO} (hc : o5 X dr ops i o = some ro) (hfree : ∀ b j, place = some (b, j) → eR o.op = .alloc → H[b + j]? = some .free)
 (r : R ν Z st F H) (hny : fm S.N st.g ro = none ∨ dr = true) (h : e9 S c dr fr ro st = some st') :
 ∃ n F' H' ν' Z', (∀ k, n ≤ k → fP S.E (run S.E k) X.nt ops place o F H = some (F', H')) ∧ R ν' Z' st' F' H' ∧ Ev (fun id => ∃ b j, place = some (b, j) ∧ id = b + j) ν Z st H ν' Z' st' H' ∧
  (dr = true → Z' = Z ∧ Kept (sN ro) ν st.m ν' st'.m) ∧ st'.want = st.want ∧ Fix ν st ν' st' := by
 have hc0 := hc
 unfold o5 at hc
 split at hc
 ·rename_i hdst
  split at hc
  ·rename_i g k os hg hr
   split at hc
   ·obtain ⟨as, ha, rfl⟩ := Option.map_eq_some_iff.1 hc
    unfold e9 at h
    split at h
    ·rename_i hw
     have hwv := o8 r.slot hg hw
     have h2 : (kn S c dr fr ⟨o.dst, g, (sP dr ops i k os).2.2, (sP dr ops i k os).1, as, [], []⟩ st).map (fun (x, st') => c_ st' o.dst x) = some st' := by
      split at h
      ·rename_i id vs hya
       rcases hny with hny | hny
       ·rw [hny] at hya; cases hya
       ·subst hny; simp at h
      ·exact h
     obtain ⟨⟨x, st1⟩, hd, rfl⟩ := Option.map_eq_some_iff.1 h2
     obtain ⟨n, y, H', ν', Z', e1, e2, e3, e4, e5⟩ := Iz gd hS hdr hi hold hc0 hfree r hd
     obtain ⟨w1, w2, w3, w4⟩ := Fi hd
     obtain ⟨F', f1, f2⟩ := uv e2 hdst e3
     obtain ⟨p1, p2, p3, p4, p5⟩ := xq st1 o.dst x
     refine ⟨n, F', H', ν', Z', fun k hk => ?_, f2, ?_, fun hd => ⟨(e5 hd).1, by rw [p1]; exact (e5 hd).2⟩, by rw [p2, w1], ⟨fun d hd => by rw [p1]; exact e4.pin d hd, by rw [p3, w2], by rw [p4, w3], by rw [p5, w4]⟩⟩
     ·unfold fP
      simp only [hwv, if_true, e1 k hk, f1, Option.map_some]
     ·exact ⟨e4.len, e4.same, e4.rows, fun id h => e4.own id (by rw [p1] at h; exact h), e4.frz, fun d hd => by rw [p1]; exact e4.pin d hd, by rw [p3, w2]⟩
    ·rename_i hw
     have hwv := o8 r.slot hg hw
     simp only [Option.some.injEq] at h; subst h
     obtain ⟨F', f1, f2⟩ := uv r hdst (.v V.undef V.undef (.same _ rfl))
     obtain ⟨p1, p2, p3, p4, p5⟩ := xq st o.dst (.v .undef)
     refine ⟨0, F', H, ν, Z, fun k _ => ?_, f2, ?_, fun _ => ⟨rfl, by rw [p1]; exact .refl⟩, p2, ⟨fun d hd => by rw [p1]; exact fun ob' h => ⟨ob', h, rfl, .refl _⟩, p3, p4, p5⟩⟩
     ·unfold fP
      simp only [hwv, Bool.false_eq_true, if_false, f1, Option.map_some]
     ·exact ⟨Nat.le_refl _, fun _ _ _ _ _ => rfl, fun _ h => ⟨h, rfl⟩, fun _ h => .inl (by rw [p1] at h; exact h), fun _ h => .inl h, fun d hd => by rw [p1]; exact fun ob' h => ⟨ob', h, rfl, .refl _⟩, p3⟩
    ·simp at h
   ·simp at hc
  ·simp at hc
 ·simp at hc
theorem F_ (gd : Good X S) (y : Yc S J st.more st.yid) {ops : List Oper} {fr : List Nat} {i : Nat} {o : Oper} {ro : RO} (hc : o5 X false ops i o = some ro)
 (r : R ν Z st F H) (j : J st.want (eS ν st.m) Z H) {id : Nat} {vs : List SV} (hya : fm S.N st.g ro = some (id, vs)) (hw0 : wanted st.g ro.gd = some true) (h : e9 S c false fr ro st = some st') :
 ∃ n F' H', (∀ k, n ≤ k → fP S.E (run S.E k) X.nt ops none o F H = some (F', H')) ∧ R ν Z st' F' H' ∧ J st'.want (eS ν st'.m) Z H' ∧ Fix ν st ν st' := by
 unfold o5 at hc
 split at hc
 ·rename_i hdst
  split at hc
  ·rename_i g k os hg hr
   split at hc
   ·obtain ⟨as, ha, rfl⟩ := Option.map_eq_some_iff.1 hc
    unfold e9 at h
    simp only at hw0
    have hwv := o8 r.slot hg hw0
    rw [hw0] at h
    simp only [hya, Bool.false_eq_true, if_false] at h
    unfold fm at hya
    split at hya
    ·rename_i id' vs' hk hsa
     simp only [Option.some.injEq, Prod.mk.injEq] at hya
     obtain ⟨rfl, rfl⟩ := hya
     simp only at hk hsa
     subst hk
     obtain ⟨ys, hys, rs⟩ := rZ gd.N r.slot ha hsa
     obtain ⟨g1, f', as', e1, e2⟩ := sn gd.N hr hys
     obtain ⟨w, ws, ew, r1, r2⟩ := rs.inv
     rw [ew] at e1
     simp only [List.cons.injEq] at e1
     obtain ⟨rfl, rfl⟩ := e1
     cases r1
     simp only at e2
     split at h
     ·rename_i xs x wl hx hwant
      split at h
      ·rename_i hcond
       obtain ⟨rfl, rfl⟩ := hcond
       simp only [Option.some.injEq] at h; subst h
       rw [hwant] at j
       obtain ⟨n, H', p1, p2, p3, p4, p5⟩ := y.yield _ _ _ _ _ _ j (r2.d6 hx) r.zrow r.deep (fun i hi => ⟨by obtain ⟨d, ob, h1, h2, rfl⟩ := hi; exact r.apart d ob h1 h2, r.lt hi⟩)
       have r3 : R ν Z st F H' := r.heap p4 p5
       have r4 : R ν Z { st with want := wl } F H' := ⟨r3.slot, r3.obj, r3.inj, r3.apart, r3.zrow, r3.deep⟩
       obtain ⟨F', f1, f2⟩ := uv (st := { st with want := wl }) r4 hdst (sv := .v (.bool (st.more || !wl.isEmpty))) (.v _ _ (.same _ rfl))
       obtain ⟨q1, q2, q3, q4, q5⟩ := xq { st with want := wl } o.dst (.v (.bool (st.more || !wl.isEmpty)))
       refine ⟨n, F', H', fun k hk => ?_, f2, by rw [q1, q2]; exact p2, ⟨fun d hd => by rw [q1]; exact fun ob' h => ⟨ob', h, rfl, .refl _⟩, q3, q4, q5⟩⟩
       unfold fP dO
       rw [g1, e2]
       simp only [hwv, if_true, um S.E hk _ _ _ _ p1, f1, Option.map_some]
      ·simp at h
     ·simp at h
    ·simp at hya
   ·simp at hc
  ·simp at hc
 ·simp at hc
def n5 (X : CX) (draw : Bool) (ops : List Oper) : Nat → List Oper → Option (List RO)
 | _, [] => some []
 | i, o :: r => match o5 X draw ops i o, n5 X draw ops (i + 1) r with
  | some ro, some rs => some (ro :: rs)
  | _, _ => none
theorem R.sw (r : R ν Z st F H) (ds : List Nat) : R ν Z (lB ds st) F H := r.less (g := sR ds st.g) (m' := st.m) (fun s sv hs => rX hs) (fun d ob hd => hd)
theorem Fix.sw {ds : List Nat} (f : Fix ν (lB ds st) ν' st') : Fix ν st ν' st' := ⟨f.pin, f.pins, f.more, f.yid⟩
theorem Fix.ghost (r : R ν Z st F H) (y : Yc S J st.more st.yid) (j : J st.want (eS ν st.m) Z H) {x : Gh} (h : ghost x st = some st') : ∃ ν' Z', R ν' Z' st' F H ∧ J st'.want (eS ν' st'.m) Z' H ∧ Fix ν st ν' st' := by
 obtain ⟨ν', Z', h1, h2⟩ := Fh (Rv := fun _ => False) r h
 have hf : st'.want = st.want ∧ st'.more = st.more ∧ st'.yid = st.yid := by
  unfold Go.VE.ghost tI at h
  (repeat' split at h) <;> first | (simp at h; done) | (simp only [Option.some.injEq] at h; subst h; exact ⟨rfl, rfl, rfl⟩)
 exact ⟨ν', Z', h1, h2.beside y hf.1 j, ⟨h2.pin, h2.pins, hf.2.1, hf.2.2⟩⟩
theorem Fix.m9 : ∀ {l : List Gh} {ν : Nu} {Z : Nat → Prop} {st st' : St}, R ν Z st F H → Yc S J st.more st.yid → J st.want (eS ν st.m) Z H → m9 l st = some st' → ∃ ν' Z', R ν' Z' st' F H ∧ J st'.want (eS ν' st'.m) Z' H ∧ Fix ν st ν' st'
 | [], ν, Z, st, st', r, y, j, h => by simp only [Go.VE.m9, Option.some.injEq] at h; subst h; exact ⟨ν, Z, r, j, .refl⟩
 | x :: l, ν, Z, st, st', r, y, j, h => by
  simp only [Go.VE.m9] at h
  obtain ⟨st1, h1, h2⟩ := Option.bind_eq_some_iff.1 h
  obtain ⟨ν1, Z1, r1, j1, f1⟩ := Fix.ghost r y j h1
  obtain ⟨ν2, Z2, r2, j2, f2⟩ := Fix.m9 r1 (by rw [f1.more, f1.yid]; exact y) j1 h2
  exact ⟨ν2, Z2, r2, j2, f1.trans f2⟩
theorem Fs (gd : Good X S) (hS : iL S c) {ops : List Oper} {fr : List Nat} {i : Nat} {o : Oper} {ro : RO} {st1 : St} (h1 : o5 X false ops i o = some ro) (y : Yc S J st.more st.yid) (r : R ν Z st F H) (j : J st.want (eS ν st.m) Z H) (hs : e9 S c false fr ro st = some st1) :
 ∃ n F' H' ν' Z', (∀ k, n ≤ k → fP S.E (run S.E k) X.nt ops none o F H = some (F', H')) ∧ R ν' Z' st1 F' H' ∧ J st1.want (eS ν' st1.m) Z' H' ∧ Fix ν st ν' st1 := by
 by_cases hw : wanted st.g ro.gd = some true
 ·cases hya : fm S.N st.g ro with
  | none =>
   obtain ⟨n, F', H', ν', Z', e1, e2, e3, e4, e5, e6⟩ := Ci gd hS (place := none) rfl (fun b j h => by cases h) (fun b j h => by cases h) h1 (fun b j h => by cases h) r (.inl hya) hs
   exact ⟨n, F', H', ν', Z', e1, e2, (e3.weak (fun id ⟨b, j, h, _⟩ => by cases h)).beside y e5 j, e6⟩
  | some p =>
   obtain ⟨id, vs⟩ := p
   obtain ⟨n, F', H', e1, e2, e3, e4⟩ := F_ gd y h1 r j hya hw hs
   exact ⟨n, F', H', ν, Z, e1, e2, e3, e4⟩
 ·have hs' : e9 S c false fr ro st = some st1 := hs
  have hny : fm S.N st.g { ro with as := [] } = none := by
   unfold fm; simp [bB]
  obtain ⟨n, F', H', ν', Z', e1, e2, e3, e4, e5, e6⟩ : ∃ n F' H' ν' Z', (∀ k, n ≤ k → fP S.E (run S.E k) X.nt ops none o F H = some (F', H')) ∧ R ν' Z' st1 F' H' ∧ Ev (fun _ => False) ν Z st H ν' Z' st1 H' ∧ True ∧ st1.want = st.want ∧ Fix ν st ν' st1 := by
   unfold e9 at hs'
   split at hs'
   ·rename_i hw2; exact absurd hw2 hw
   ·rename_i hw2
    simp only [Option.some.injEq] at hs'; subst hs'
    unfold o5 at h1
    split at h1
    ·rename_i hdst
     split at h1
     ·rename_i g k os hg hr
      split at h1
      ·obtain ⟨as, ha, rfl⟩ := Option.map_eq_some_iff.1 h1
       have hwv := o8 r.slot hg hw2
       obtain ⟨F', f1, f2⟩ := uv r hdst (.v V.undef V.undef (.same _ rfl))
       obtain ⟨p1, p2, p3, p4, p5⟩ := xq st o.dst (.v .undef)
       refine ⟨0, F', H, ν, Z, fun k _ => ?_, f2, ?_, trivial, p2, ⟨fun d hd => by rw [p1]; exact fun ob' h => ⟨ob', h, rfl, .refl _⟩, p3, p4, p5⟩⟩
       ·unfold fP
        simp only [hwv, Bool.false_eq_true, if_false, f1, Option.map_some]
       ·exact ⟨Nat.le_refl _, fun _ _ _ _ _ => rfl, fun _ h => ⟨h, rfl⟩, fun _ h => .inl (by rw [p1] at h; exact h), fun _ h => .inl h, fun d hd => by rw [p1]; exact fun ob' h => ⟨ob', h, rfl, .refl _⟩, p3⟩
      ·simp at h1
     ·simp at h1
    ·simp at h1
   ·simp at hs'
  exact ⟨n, F', H', ν', Z', e1, e2, e3.beside y e5 j, e6⟩
theorem DO (gd : Good X S) (hS : iL S c) {ops : List Oper} {fr : List Nat} : ∀ (rest : List Oper) {i : Nat} {ros : List RO} {ν : Nu} {Z : Nat → Prop} {st st' : St} {F : Frame} {H : ao}, n5 X false ops i rest = some (ros.map RO.strip) → jC S c false fr ros st = some st' →
 Yc S J st.more st.yid → R ν Z st F H → J st.want (eS ν st.m) Z H →
 ∃ n F' H' ν' Z', (∀ k, n ≤ k → jK S.E (run S.E k) X.nt ops rest F H = some (F', H')) ∧ R ν' Z' st' F' H' ∧ J st'.want (eS ν' st'.m) Z' H' ∧ Fix ν st ν' st'
 | [], i, ros, ν, Z, st, st', F, H, hc, h, y, r, j => by
  simp only [n5, Option.some.injEq] at hc
  have : ros = [] := List.map_eq_nil_iff.1 hc.symm
  subst this
  simp only [jC, Option.some.injEq] at h; subst h
  exact ⟨0, F, H, ν, Z, fun _ _ => rfl, r, j, .refl⟩
 | o :: rest, i, ros, ν, Z, st, st', F, H, hc, h, y, r, j => by
  simp only [n5] at hc
  split at hc
  ·rename_i ro rs h1 h2
   simp only [Option.some.injEq] at hc
   obtain ⟨ro0, rs0, rfl, hro, hrs⟩ : ∃ ro0 rs0, ros = ro0 :: rs0 ∧ ro = ro0.strip ∧ rs = rs0.map RO.strip := by
    cases ros with
    | nil => simp at hc
    | cons a b => simp only [List.map_cons, List.cons.injEq] at hc; exact ⟨a, b, rfl, hc.1, hc.2⟩
   subst hrs
   simp only [jC, ← hro] at h
   split at h
   ·rename_i st1 hs
    simp only [Bool.false_eq_true, if_false] at h
    obtain ⟨stg, hgh, hs⟩ := Option.bind_eq_some_iff.1 hs
    simp only [vN, Bool.false_eq_true, if_false] at hgh
    obtain ⟨νg, Zg, rg, jg, fg⟩ := Fix.m9 r y j hgh
    obtain ⟨n1, F1, H1, ν1, Z1, a1, a2, a3, a4'⟩ := Fs gd hS h1 (by rw [fg.more, fg.yid]; exact y) rg jg hs
    have a4 := fg.trans a4'
    obtain ⟨n2, F2, H2, ν2, Z2, b1, b2, b3, b4⟩ := DO gd hS rest h2 h (by show Yc S J st1.more st1.yid; rw [a4.more, a4.yid]; exact y) (R.sw a2 ro0.dead) a3
    refine ⟨max n1 n2, F2, H2, ν2, Z2, fun k hk => ?_, b2, b3, a4.trans (Fix.sw b4)⟩
    simp only [jK, a1 k (Nat.le_trans (Nat.le_max_left _ _) hk), b1 k (Nat.le_trans (Nat.le_max_right _ _) hk)]
   ·simp at h
  ·simp at hc
theorem Old.next {b : Nat} {fr : List Nat} {o : RO} (h : Old b fr ν Z m) (hk : Kept (sN o) ν m ν' m') : Old b (lY fr o) ν' Z m' := by
 refine ⟨fun d ob hd hb hnf => ?_, h.2⟩
 have hsub : d ∉ fr := fun hm => hnf (by
  unfold lY
  split
  ·exact List.mem_cons_of_mem _ hm
  ·exact hm)
 have hne : sN o ≠ some d := fun e => hnf (by unfold lY; rw [e]; exact List.mem_cons_self)
 obtain ⟨ob0, h1, h2, hs⟩ := hk d ob hne hd
 have hb0 : b7 ob0 = true := by
  cases ob0 <;> cases ob <;> simp only [sameShape] at hs <;> first | rfl | (simp only [b7] at hb ⊢; rw [← hs.1]; exact hb)
 rw [h2]; exact h.1 d ob0 h1 hb0 hsub
theorem yA (r : R ν Z st F H) {id : Nat} (h : eS ν st.m id) : H[id]? ≠ some .free := by
 obtain ⟨d, ob, h1, h2, rfl⟩ := h
 have := r.obj d ob h1
 cases ob with
 | sl k es xs =>
  simp only [b7] at h2
  simp only [d_, h2, if_true] at this
  obtain ⟨ys, hr, _⟩ := this
  rw [hr]; simp
 | box cs => obtain ⟨es, cs', hr, _⟩ := this; rw [hr]; simp
 | mp kvs => obtain ⟨kvs', hr, _⟩ := this; rw [hr]; simp
theorem Cn (r : R ν Z st F H) {id : Nat} (h : Z id) : H[id]? ≠ some .free := fun e => by
 have := r.zrow id h
 unfold an at this; rw [e] at this; simp [Ob.rows] at this
theorem Ev.sw {ds : List Nat} (e : Ev Rv ν Z (lB ds st) H ν' Z' st' H') : Ev Rv ν Z st H ν' Z' st' H' := ⟨e.len, e.same, e.rows, e.own, e.frz, e.pin, e.pins⟩
theorem EV (gd : Good X S) (hS : iL S c) {ops : List Oper} {b k : Nat} (hall : nS ops = true → k = ops.length) : ∀ (len : Nat) {i : Nat} {ros : List RO} {fr : List Nat} {ν : Nu} {Z : Nat → Prop} {st st' : St} {F : Frame} {H : ao},
 i + len = ops.length → n5 X true ops i (ops.drop i) = some (ros.map RO.strip) → jC S c true fr ros st = some st' → R ν Z st F H → b ≤ H.length → Old b fr ν Z st.m → (∀ j, i ≤ j → j < k → H[b + j]? = some .free) →
 ∃ n F' H' ν', (∀ q, n ≤ q → g9 S.E (run S.E q) X.nt ops b (List.range' i len) F H = some (F', H')) ∧ R ν' Z st' F' H' ∧ Ev (fun id => b ≤ id) ν Z st H ν' Z st' H' ∧ st'.want = st.want ∧ Fix ν st ν' st'
 | 0, i, ros, fr, ν, Z, st, st', F, H, hl, hc, h, r, hb, ho, hf => by
  rw [List.drop_of_length_le (by omega)] at hc
  simp only [n5, Option.some.injEq] at hc
  have : ros = [] := List.map_eq_nil_iff.1 hc.symm
  subst this
  simp only [jC, Option.some.injEq] at h; subst h
  exact ⟨0, F, H, ν, fun _ _ => rfl, r, .refl, rfl, .refl⟩
 | len + 1, i, ros, fr, ν, Z, st, st', F, H, hl, hc, h, r, hb, ho, hf => by
  have hi : i < ops.length := by omega
  have hg : ops[i]? = some ops[i] := List.getElem?_eq_getElem hi
  rw [List.drop_eq_getElem_cons hi] at hc
  simp only [n5] at hc
  split at hc
  ·rename_i ro rs h1 h2
   simp only [Option.some.injEq] at hc
   obtain ⟨ro0, rs0, rfl, hro, hrs⟩ : ∃ ro0 rs0, ros = ro0 :: rs0 ∧ ro = ro0.strip ∧ rs = rs0.map RO.strip := by
    cases ros with
    | nil => simp at hc
    | cons a b => simp only [List.map_cons, List.cons.injEq] at hc; exact ⟨a, b, rfl, hc.1, hc.2⟩
   subst hrs
   simp only [jC, ← hro] at h
   split at h
   ·rename_i st1 hs
    simp only [if_true] at h
    obtain ⟨stg, hgh, hs⟩ := Option.bind_eq_some_iff.1 hs
    have hst : st = stg := by
     simp only [vN, if_true] at hgh
     split at hgh
     ·simp only [Option.some.injEq] at hgh; exact hgh
     ·simp at hgh
    subst hst
    obtain ⟨n1, F1, H1, ν1, Z1, a1, a2, a3, a4, a5, a6⟩ := Ci gd hS (place := some (b, i)) (fr := fr) rfl (fun b' j e => by cases e; rfl) (fun b' j e => by cases e; exact ⟨hb, ho⟩) h1 (fun b' j e hcl => by
     cases e
     have : nS ops = true := by
      unfold nS
      rw [List.any_eq_true]
      exact ⟨ops[i], List.getElem_mem hi, by simp [hcl]⟩
     exact hf i (Nat.le_refl _) (by rw [hall this]; exact hi)) r (.inr rfl) hs
    obtain ⟨rfl, hkept⟩ := a4 rfl
    have a3' : Ev (fun id => id = b + i) ν Z1 st H ν1 Z1 st1 H1 := a3.weak fun id ⟨b', j, e, h⟩ => by cases e; exact h
    obtain ⟨n2, F2, H2, ν2, b1, b2, b3, b4, b5⟩ := EV gd hS hall len (by omega) h2 h (R.sw a2 ro0.dead) (Nat.le_trans hb a3.len) (ho.next hkept) (fun j hij hjk => by
     have hfr := hf j (by omega) hjk
     have hlt := (List.getElem?_eq_some_iff.1 hfr).1
     rw [a3'.same (b + j) hlt (fun h => yA r h hfr) (fun h => Cn r h hfr) (by omega)]
     exact hfr)
    refine ⟨max n1 n2, F2, H2, ν2, fun q hq => ?_, b2, (a3'.weak fun id e => by subst e; omega).trans (Ev.sw b3), by rw [b4]; exact a5, a6.trans (Fix.sw b5)⟩
    simp only [List.range'_succ, g9, hg, a1 q (Nat.le_trans (Nat.le_max_left _ _) hq), b1 q (Nat.le_trans (Nat.le_max_right _ _) hq)]
   ·simp at h
  ·simp at hc
end
end Go.VE
namespace Go.VE
def aO (X : CX) : Bool → Code → Option RC
 | _, .skip => some .skip
 | _, .label _ => some .skip
 | _, .region _ ops draw =>
  if draw then (if qg ops.toList && tq ops.toList then (n5 X true ops.toList 0 ops.toList).map .reg else none)
  else (n5 X false ops.toList 0 ops.toList).map .ops
 | ro, .seq a b => match aO X ro a, aO X ro b with
  | some a, some b => some (.seq a b)
  | _, _ => none
 | ro, .cond c a b => match rj X.nm c, aO X ro a, aO X ro b with
  | some x, some a, some b => some (.cond x a b)
  | _, _, _ => none
 | ro, .block id c => (aO X ro c).map (.block id)
 | ro, .loop c => (aO X ro c).map .loop
 | ro, .rangeFunc g ps aw bw =>
  if ro || !(ps.toList.all (· < X.nt)) then none else
  match rj X.nm g, aO X true aw, aO X true bw with
  | some x, some a, some b => some (.each x ps.toList a b)
  | _, _, _ => none
 | _, .exit id => some (.exit id)
 | _, .ret => some .ret
 | _, _ => none
def erase : RC → RC
 | .seq a b => .seq (erase a) (erase b)
 | .cond x a b => .cond x (erase a) (erase b)
 | .block id c => .block id (erase c)
 | .loop c => .loop (erase c)
 | .each g ps a b => .each g ps (erase a) (erase b)
 | .gh _ c => erase c
 | .hg c _ => erase c
 | .ops l => .ops (l.map RO.strip)
 | .reg l => .reg (l.map RO.strip)
 | c => c
def gx (step : St → Option (Out × St)) : Nat → St → Option (Out × St)
 | 0, _ => none
 | k + 1, st => match step st with
  | some (.norm, st') => gx step k st'
  | r => r
open Classical in
noncomputable def jT (step : St → Option (Out × St)) (st : St) : Option (Out × St) :=
 if h : ∃ k r, gx step k st = some r then some (Classical.choose (Classical.choose_spec h)) else none
theorem sx {step : St → Option (Out × St)} : ∀ {k k' : Nat} {st : St} {r : Out × St}, k ≤ k' → gx step k st = some r → gx step k' st = some r
 | 0, _, _, _, _, h => by simp [gx] at h
 | k + 1, 0, _, _, hk, _ => by omega
 | k + 1, k' + 1, st, r, hk, h => by
  simp only [gx] at h ⊢
  split at h
  ·rename_i st' hs
   rw [sx (Nat.le_of_succ_le_succ hk) h]
  ·exact h
theorem jt {step : St → Option (Out × St)} {st : St} {r : Out × St} : jT step st = some r ↔ ∃ k, gx step k st = some r := by
 unfold jT
 constructor
 ·intro h
  split at h
  ·rename_i hx
   simp only [Option.some.injEq] at h
   exact ⟨_, by rw [← h]; exact Classical.choose_spec (Classical.choose_spec hx)⟩
  ·simp at h
 ·rintro ⟨k, hk⟩
  have hx : ∃ k r, gx step k st = some r := ⟨k, r, hk⟩
  rw [dif_pos hx]
  have h2 := Classical.choose_spec (Classical.choose_spec hx)
  have h3 := sx (Nat.le_max_left (Classical.choose hx) k) h2
  have h4 := sx (Nat.le_max_right (Classical.choose hx) k) hk
  rw [h3] at h4; exact h4
def gl (ps : List Nat) (A B : St → Option (Out × St)) (st : St) (x : List V) (m : Tb aE) : Option (Out × Tb aE) :=
 if x.length = ps.length then
  match A { g := sG st.g ps (x.map .v), m := m, pin := st.pin ++ lP st.g, want := [], more := true, yid := 0 } with
  | some (.norm, st1) => (B st1).map fun (o, st2) => (o, st2.m)
  | _ => none
 else none
def kC (step : List V → Tb aE → Option (Out × Tb aE)) : List (List V) → Tb aE → Option (Out × Tb aE)
 | [], m => some (.norm, m)
 | x :: xs, m => match step x m with
  | some (.norm, m') => kC step xs m'
  | r => r
noncomputable def aX (S : Sys) (c : b_) : RC → St → Option (Out × St)
 | .skip, st => some (.norm, st)
 | .ops l, st => (jC S c false [] l st).map fun st => (.norm, st)
 | .reg l, st => (jC S c true [] l st).map fun st => (.norm, st)
 | .seq a b, st => match aX S c a st with
  | some (.norm, st') => aX S c b st'
  | r => r
 | .cond x a b, st => match m6 S.N st.g x with
  | some (.v (.bool t)) => if t then aX S c a st else aX S c b st
  | _ => none
 | .block id a, st => match aX S c a st with
  | some (.exit id', st') => if id' = id then some (.norm, st') else some (.exit id', st')
  | r => r
 | .loop a, st => jT (aX S c a) st
 | .each g ps a b, st => match m6 S.N st.g g with
  | some (.v (.clo f x y)) => match S.items f x y with
   | some xs => (kC (gl ps (aX S c a) (aX S c b) st) xs st.m).map fun (o, m) => (o, { st with m := m })
   | none => none
  | _ => none
 | .exit id, st => some (.exit id, st)
 | .ret, st => some (.ret, st)
 | .gh x a, st => (ghost x st).bind (aX S c a)
 | .hg a x, st => match aX S c a st with
  | some (.norm, st') => (ghost x st').map fun st => (.norm, st)
  | r => r
def gM (S : Sys) (f : FuncId) (a b : List V) (xs : List (List V)) : Prop :=
 ∀ ws more, (more = true ∧ ws = xs ∨ more = false ∧ ws ≠ [] ∧ ∃ r, xs = ws ++ r) → ∀ yid J, Yc S J more yid → ∀ Z a' b' H, cu H Z a a' → cu H Z b b' → (∀ i, Z i → (an H i).isSome = true) → q8 H Z → J ws (fun _ => False) Z H →
  ∃ n y H' O' Z', (∀ k, n ≤ k → run S.E k (.fn f) (a' ++ .yld yid :: b') H = some (y, H')) ∧ J [] O' Z' H'
section
variable {ν ν' ν2 : Nu} {Z Z' : Nat → Prop} {st st' st2 : St} {m m' : Tb aE} {F F' : Frame} {H H' H1 : ao} {S : Sys} {c : b_} {X : CX} {J : JT}
end
end Go.VE
namespace Go.VE
inductive qL (step : List V → Tb aE → Option (Out × Tb aE)) (o : Out) (mf : Tb aE) : List (List V) → Bool → Tb aE → Prop
 | nil (h : o = .norm) : qL step o mf [] true mf
 | next (x : List V) (ws : List (List V)) (more : Bool) (m m1 : Tb aE) (h : step x m = some (.norm, m1)) (r : qL step o mf ws more m1) : qL step o mf (x :: ws) more m
 | last (x : List V) (m : Tb aE) (h : step x m = some (o, mf)) (ho : o ≠ .norm) : qL step o mf [x] false m
theorem wV {step : List V → Tb aE → Option (Out × Tb aE)} {o : Out} {mf : Tb aE} : ∀ {xs : List (List V)} {m : Tb aE}, kC step xs m = some (o, mf) →
 ∃ ws more, (more = true ∧ ws = xs ∨ more = false ∧ ws ≠ [] ∧ ∃ r, xs = ws ++ r) ∧ qL step o mf ws more m
 | [], m, h => by
  simp only [kC, Option.some.injEq, Prod.mk.injEq] at h; obtain ⟨rfl, rfl⟩ := h
  exact ⟨[], true, .inl ⟨rfl, rfl⟩, .nil rfl⟩
 | x :: xs, m, h => by
  simp only [kC] at h
  split at h
  ·rename_i m' hs
   obtain ⟨ws, more, hc, hr⟩ := wV h
   refine ⟨x :: ws, more, ?_, .next x ws more m m' hs hr⟩
   rcases hc with ⟨h1, h2⟩ | ⟨h1, h2, r, h3⟩
   ·exact .inl ⟨h1, by rw [h2]⟩
   ·exact .inr ⟨h1, by simp, r, by rw [h3]; rfl⟩
  ·rename_i hs
   refine ⟨[x], false, .inr ⟨rfl, by simp, xs, rfl⟩, .last x m h fun e => ?_⟩
   subst e
   exact hs mf h
def oM (O0 Z0 : Nat → Prop) (H0 : ao) : JT := fun w O Z H => w = [] ∧ H0.length ≤ H.length ∧ (∀ i, i < H0.length → ¬ O0 i → ¬ Z0 i → H[i]? = H0[i]?) ∧ (∀ i, Z0 i → Z i ∧ an H i = an H0 i) ∧
 (∀ i, O i → O0 i ∨ H0.length ≤ i) ∧ (∀ i, Z i → Z0 i ∨ O0 i ∨ H0.length ≤ i)
section
variable {ν ν' ν2 : Nu} {Z Z' : Nat → Prop} {st st' st2 : St} {m m' : Tb aE} {F F' : Frame} {H H' H1 : ao} {S : Sys} {c : b_} {X : CX} {J : JT} {O0 Z0 : Nat → Prop} {H0 : ao}
theorem oM.qU {w : List (List V)} {O Z O' Z' : Nat → Prop} {H H' : ao} (j : oM O0 Z0 H0 w O Z H) (hl : H.length ≤ H'.length) (hs : ∀ i, i < H.length → ¬ O i → ¬ Z i → H'[i]? = H[i]?) (hr : ∀ i, Z i → Z' i ∧ an H' i = an H i)
 (ho : ∀ i, O' i → O i ∨ H.length ≤ i) (hz : ∀ i, Z' i → Z i ∨ O i ∨ H.length ≤ i) : oM O0 Z0 H0 w O' Z' H' := by
 obtain ⟨j1, j2, j3, j4, j5, j6⟩ := j
 refine ⟨j1, Nat.le_trans j2 hl, fun i h1 h2 h3 => ?_, fun i h => ⟨(hr i (j4 i h).1).1, by rw [(hr i (j4 i h).1).2, (j4 i h).2]⟩, fun i h => ?_, fun i h => ?_⟩
 ·rw [hs i (Nat.lt_of_lt_of_le h1 j2) (fun h => by rcases j5 i h with h | h; exact h2 h; omega) (fun h => by rcases j6 i h with h | h | h; exact h3 h; exact h2 h; omega), j3 i h1 h2 h3]
 ·rcases ho i h with h | h
  ·exact j5 i h
  ·exact .inr (Nat.le_trans j2 h)
 ·rcases hz i h with h | h | h
  ·exact j6 i h
  ·rcases j5 i h with h | h
   ·exact .inr (.inl h)
   ·exact .inr (.inr h)
  ·exact .inr (.inr (Nat.le_trans j2 h))
theorem oM.yc {more : Bool} {yid : Nat} : Yc S (oM O0 Z0 H0) more yid where
 qU := fun _ _ _ _ _ _ _ j h1 h2 h3 h4 h5 => j.qU h1 h2 h3 h4 h5
 yield := fun x ws O Z H args j => by obtain ⟨h, _⟩ := j; cases h
theorem oM.refl (r : R ν Z st F H) : oM (eS ν st.m) Z H [] (eS ν st.m) Z H := ⟨rfl, Nat.le_refl _, fun _ _ _ _ => rfl, fun i h => ⟨h, rfl⟩, fun i h => .inl h, fun i h => .inl h⟩
mutual
theorem wM {d : Nat} : ∀ {sv : SV}, sv.bT d = true → d ∈ sv.names
 | .v _, h => by simp [SV.bT] at h
 | .own e, h => by simp [SV.bT] at h; simp [SV.names, h]
 | .ptr e _, h => by simp [SV.bT] at h; simp [SV.names, h]
 | .el e _ _, h => by simp [SV.bT] at h; simp [SV.names, h]
 | .mp e, h => by simp [SV.bT] at h; simp [SV.names, h]
 | .clo f a b, h => by
  simp only [SV.bT, Bool.or_eq_true] at h
  simp only [SV.names, List.mem_append]
  exact h.imp nX nX
 | .tup l, h => by simp only [SV.bT] at h; simp only [SV.names]; exact nX h
 | .yl _, h => by simp [SV.bT] at h
theorem nX {d : Nat} : ∀ {l : List SV}, SV.cx d l = true → d ∈ SV.rG l
 | [], h => by simp [SV.cx] at h
 | x :: r, h => by
  simp only [SV.cx, Bool.or_eq_true] at h
  simp only [SV.rG, List.mem_append]
  exact h.imp wM nX
end
theorem vp {d : Nat} : ∀ {g : Tb SV} {s : Nat} {sv : SV}, aj g s = some sv → sv.bT d = true → d ∈ lP g
 | [], s, sv, h, _ => by simp [aj] at h
 | (k, x) :: r, s, sv, h, hs => by
  simp only [aj] at h
  simp only [lP, List.mem_append]
  split at h
  ·simp only [Option.some.injEq] at h; subst h; exact .inl (wM hs)
  ·exact .inr (vp h hs)
theorem R.MY (r : R ν Z st F H) {Z2 : Nat → Prop} (h1 : ∀ i, Z2 i → ¬ eS ν st.m i) (h2 : ∀ i, Z2 i → (an H i).isSome = true) (h3 : q8 H Z2) : R ν (fun i => Z i ∨ Z2 i) st F H := by
 have hz : ∀ i, Z i → (Z i ∨ Z2 i) ∧ an H i = an H i := fun i h => ⟨.inl h, rfl⟩
 have hz2 : ∀ i, Z2 i → (Z i ∨ Z2 i) ∧ an H i = an H i := fun i h => ⟨.inr h, rfl⟩
 refine ⟨fun s sv hs => (r.slot s sv hs).mono hz fun e _ => jv ν st.m e, fun d ob hd => d_.mono hz rfl (fun _ => rfl) (fun e _ => jv ν st.m e) (r.obj d ob hd), r.inj, fun d ob hd hb hh => ?_, fun i hi => ?_, ⟨fun id es ys hi hr c hc u hu => ?_⟩⟩
 ·rcases hh with hh | hh
  ·exact r.apart d ob hd hb hh
  ·exact h1 _ hh ⟨d, ob, hd, hb, rfl⟩
 ·exact hi.elim (r.zrow i) (h2 i)
 ·rcases hi with hi | hi
  ·obtain ⟨x, hx⟩ := r.deep.row id es ys hi hr c hc u hu; exact ⟨x, hx.mono hz⟩
  ·obtain ⟨x, hx⟩ := h3.row id es ys hi hr c hc u hu; exact ⟨x, hx.mono hz2⟩
theorem R.IX : ∀ {ps : List Nat} {xs : List V} {vs : List V} {g : Tb SV} {F : Frame}, R ν Z { st with g := g } F H → cu H Z xs vs → xs.length = ps.length → R ν Z { st with g := sG g ps (xs.map .v) } (oI ps vs F) H
 | [], xs, vs, g, F, r, h, hl => by
  have : xs = [] := List.length_eq_zero_iff.1 hl
  subst this
  rw [h.ct]; exact r
 | p :: ps, [], vs, g, F, r, h, hl => by simp at hl
 | p :: ps, x :: xs, vs, g, F, r, h, hl => by
  obtain ⟨w, ws, rfl, h1, h2⟩ := h.inv
  exact R.IX (ps := ps) (r.put (st := { st with g := g }) (.v _ _ h1)) h2 (by simpa using hl)
def m7 (X : CX) (S : Sys) (ro : Bool) (code : Code) (run' : St → Option (Out × St)) : Prop :=
 ∀ st o st', run' st = some (o, st') → ∀ (J : JT) ν Z F H, Yc S J st.more st.yid → R ν Z st F H → J st.want (eS ν st.m) Z H →
  ∃ n F' H' ν' Z', (∀ k, n ≤ k → exec S.E (run S.E k) k ro X.nt code F H = some (o, F', H')) ∧ R ν' Z' st' F' H' ∧ J st'.want (eS ν' st'.m) Z' H' ∧ Fix ν st ν' st'
def xL (st : St) (m : Tb aE) : St := { g := st.g, m := m, pin := st.pin ++ lP st.g, want := [], more := true, yid := 0 }
def JI (X : CX) (st : St) (F : Frame) (ν : Nu) (O0 Z0 : Nat → Prop) (H0 : ao) (idl : Nat) (ps : List Nat) (aw bw : Code) (step : List V → Tb aE → Option (Out × Tb aE)) (o : Out) (mf : Tb aE) (more : Bool) : JT := fun w O Z H =>
 ∃ m νb Zb lr, R νb Zb (xL st m) F H ∧ oM O0 Z0 H0 [] (eS νb m) Zb H ∧ (∀ i, O i → ¬ eS νb m i ∧ ¬ Zb i ∧ i ≠ idl ∧ H0.length ≤ i) ∧ (∀ i, Z i → ¬ eS νb m i ∧ i ≠ idl ∧ (Z0 i ∨ H0.length ≤ i)) ∧
  ¬ eS νb m idl ∧ ¬ Zb idl ∧ H0.length ≤ idl ∧ H[idl]? = some (.loop lr) ∧ (lr.frame = F ∧ lr.nt = X.nt ∧ lr.params = ps ∧ lr.assign = aw ∧ lr.body = bw) ∧
  (∀ d ∈ st.pin ++ lP st.g, ∀ ob', aj m d = some ob' → ∃ ob, aj st.m d = some ob ∧ νb d = ν d ∧ sameShape ob ob') ∧
  ((qL step o mf w more m ∧ lr.st = .ready ∧ lr.pend = none) ∨ (w = [] ∧ m = mf ∧ lr.st = .done ∧ lr.pend = some o))
theorem JI.qU {w : List (List V)} {O Z O' Z' : Nat → Prop} {H H' : ao} {idl : Nat} {ps : List Nat} {aw bw : Code} {step : List V → Tb aE → Option (Out × Tb aE)} {o : Out} {mf : Tb aE} {more : Bool}
 (j : JI X st F ν O0 Z0 H0 idl ps aw bw step o mf more w O Z H) (hl : H.length ≤ H'.length) (hs : ∀ i, i < H.length → ¬ O i → ¬ Z i → H'[i]? = H[i]?) (hr : ∀ i, Z i → Z' i ∧ an H' i = an H i)
 (ho : ∀ i, O' i → O i ∨ H.length ≤ i) (hz : ∀ i, Z' i → Z i ∨ O i ∨ H.length ≤ i) : JI X st F ν O0 Z0 H0 idl ps aw bw step o mf more w O' Z' H' := by
 obtain ⟨m, νb, Zb, lr, r, ej, d1, d2, l1, l2, l3, l4, l5, l6, l7⟩ := j
 have hown : ∀ i, eS νb m i → H'[i]? = H[i]? := fun i hi => hs i (r.lt (st := xL st m) hi) (fun h => (d1 i h).1 hi) (fun h => (d2 i h).1 hi)
 have hzb : ∀ i, Zb i → an H' i = an H i := fun i hi => by
  by_cases hzi : Z i
  ·exact (hr i hzi).2
  ·unfold an; rw [hs i (r.qK hi) (fun h => (d1 i h).2.1 hi) hzi]
 have hll : idl < H.length := (List.getElem?_eq_some_iff.1 l4).1
 have h0l : H0.length ≤ H.length := ej.2.1
 refine ⟨m, νb, Zb, lr, r.heap hown hzb, ?_, fun i h => ?_, fun i h => ?_, l1, l2, l3, ?_, l5, l6, l7⟩
 ·obtain ⟨j1, j2, j3, j4, j5, j6⟩ := ej
  refine ⟨j1, Nat.le_trans j2 hl, fun i h1 h2 h3 => ?_, fun i h => ⟨(j4 i h).1, by rw [hzb i (j4 i h).1, (j4 i h).2]⟩, j5, j6⟩
  rw [hs i (Nat.lt_of_lt_of_le h1 j2) (fun h => by have := (d1 i h).2.2.2; omega) (fun h => by rcases (d2 i h).2.2 with h | h; exact h3 h; omega), j3 i h1 h2 h3]
 ·rcases ho i h with h | h
  ·exact d1 i h
  ·exact ⟨fun hi => absurd (r.lt (st := xL st m) hi) (by omega), fun hi => absurd (r.qK hi) (by omega), by omega, by omega⟩
 ·rcases hz i h with h | h | h
  ·exact d2 i h
  ·exact ⟨(d1 i h).1, (d1 i h).2.2.1, .inr (d1 i h).2.2.2⟩
  ·exact ⟨fun hi => absurd (r.lt (st := xL st m) hi) (by omega), by omega, .inr (by omega)⟩
 ·rw [hs idl hll (fun h => (d1 idl h).2.2.1 rfl) (fun h => (d2 idl h).2.1 rfl)]; exact l4
theorem JI.yield (S : Sys) {A B : St → Option (Out × St)} {aw bw : Code} (hA : m7 X S true aw A) (hB : m7 X S true bw B) {idl : Nat} {ps : List Nat} (hps : ps.all (· < X.nt) = true) {o : Out} {mf : Tb aE} {more : Bool}
 {x : List V} {ws : List (List V)} {O Z : Nat → Prop} {H : ao} {args : List V} (j : JI X st F ν O0 Z0 H0 idl ps aw bw (gl ps A B st) o mf more (x :: ws) O Z H)
 (hx : cu H Z x args) (hzr : ∀ i, Z i → (an H i).isSome = true) (hzd : q8 H Z) (hoz : ∀ i, O i → ¬ Z i ∧ i < H.length) :
 ∃ n H', run S.E n (.yld idl) args H = some (.bool (more || !ws.isEmpty), H') ∧ JI X st F ν O0 Z0 H0 idl ps aw bw (gl ps A B st) o mf more ws O Z H' ∧ H.length ≤ H'.length ∧ (∀ i, O i → H'[i]? = H[i]?) ∧ (∀ i, Z i → an H' i = an H i) := by
 obtain ⟨m, νb, Zb, lr, r, ej, d1, d2, l1, l2, l3, l4, ⟨q1, q2, q3, q4, q5⟩, l6, l7⟩ := j
 have l7' : qL (gl ps A B st) o mf (x :: ws) more m ∧ lr.st = .ready ∧ lr.pend = none := by
  rcases l7 with h | ⟨h, _⟩
  ·exact h
  ·cases h
 obtain ⟨hE, hready, hpend⟩ := l7'
 have hround : ∃ oo m1, gl ps A B st x m = some (oo, m1) ∧ (oo = .norm ∧ qL (gl ps A B st) o mf ws more m1 ∧ (more || !ws.isEmpty) = true ∨ oo ≠ .norm ∧ oo = o ∧ m1 = mf ∧ ws = [] ∧ more = false) := by
  cases hE with
  | next _ _ _ _ m1 h hr =>
   refine ⟨.norm, m1, h, .inl ⟨rfl, hr, ?_⟩⟩
   cases hr <;> simp
  | last _ _ h ho => exact ⟨o, mf, h, .inr ⟨ho, rfl, rfl, rfl, rfl⟩⟩
 obtain ⟨oo, m1, hstep, hout⟩ := hround
 unfold gl at hstep
 split at hstep
 ·rename_i hlen
  split at hstep
  ·rename_i st1 hAs
   obtain ⟨⟨oo', st2⟩, hBs, e⟩ := Option.map_eq_some_iff.1 hstep
   simp only [Prod.mk.injEq] at e; obtain ⟨rfl, rfl⟩ := e
   have hll : idl < H.length := (List.getElem?_eq_some_iff.1 l4).1
   have h0l : H0.length ≤ H.length := ej.2.1
   have r1 : R νb (fun i => Zb i ∨ Z i) (xL st m) F H := r.MY (fun i hi => (d2 i hi).1) hzr hzd
   have hxx : cu H (fun i => Zb i ∨ Z i) x args := hx.mono fun i hi => ⟨.inr hi, rfl⟩
   have r2 := R.IX (st := xL st m) r1 hxx hlen
   obtain ⟨nA, F2, H2, ν2, Z2, a1, a2, a3, a4⟩ := hA _ _ _ hAs (oM (eS νb m) (fun i => Zb i ∨ Z i) H) νb _ _ H oM.yc r2 (oM.refl (st := xL st m) r1)
   obtain ⟨b1, b2, b3, b4, b5, b6⟩ := a3
   have hnz : ¬ (Zb idl ∨ Z idl) := fun h => h.elim l2 fun h => (d2 idl h).2.1 rfl
   have hlo2 : H2[idl]? = some (.loop lr) := by rw [b3 idl hll l1 hnz]; exact l4
   have hll2 : idl < H2.length := by omega
   have no2 : ¬ eS ν2 st1.m idl := fun h => (b5 idl h).elim l1 fun h => by omega
   have nz2 : ¬ Z2 idl := fun h => by rcases b6 idl h with h | h | h; exact hnz h; exact l1 h; omega
   have hset : ∀ (ob : Ob) (Hh : ao) (i : Nat), i ≠ idl → (Hh.set idl ob)[i]? = Hh[i]? := fun ob Hh i hne => by rw [List.getElem?_set, if_neg (Ne.symm hne)]
   have r3 : R ν2 Z2 st1 F2 (H2.set idl (.loop { lr with st := .busy })) := a2.heap (fun i hi => hset _ _ i fun e => no2 (e ▸ hi)) (fun i hi => by unfold an; rw [hset _ _ i fun e => nz2 (e ▸ hi)])
   obtain ⟨nB, F4, H4, ν4, Z4, c1, c2, c3, c4⟩ := hB _ _ _ hBs (oM (eS ν2 st1.m) Z2 (H2.set idl (.loop { lr with st := .busy }))) ν2 Z2 F2 _ oM.yc r3 (by
    rw [b1]; exact oM.refl r3)
   obtain ⟨_, g2, g3, g4, g5, g6⟩ := c3
   simp only [List.length_set] at g2 g3 g5 g6
   have hlo4 : H4[idl]? = some (.loop { lr with st := .busy }) := by rw [g3 idl hll2 no2 nz2, List.getElem?_set_self hll2]
   have hll4 : idl < H4.length := by omega
   have no4 : ¬ eS ν4 st2.m idl := fun h => (g5 idl h).elim no2 fun h => by omega
   have nz4 : ¬ Z4 idl := fun h => by rcases g6 idl h with h | h | h; exact nz2 h; exact no2 h; omega
   generalize hlr : ({ lr with st := (if oo' == .norm then vo.ready else vo.done), pend := (if oo' == .norm then none else some oo') } : pL) = lr5
   have r5 : R ν4 Z4 st2 F4 (H4.set idl (.loop lr5)) := c2.heap (fun i hi => hset _ _ i fun e => no4 (e ▸ hi)) (fun i hi => by unfold an; rw [hset _ _ i fun e => nz4 (e ▸ hi)])
   have hlen5 : H.length ≤ (H4.set idl (.loop lr5)).length := by simp only [List.length_set]; omega
   have same5 : ∀ i, i < H.length → i ≠ idl → ¬ eS νb m i → ¬ (Zb i ∨ Z i) → (H4.set idl (.loop lr5))[i]? = H[i]? := fun i h1 h2 h3 h4 => by
    rw [hset _ _ i h2, g3 i (by omega) (fun h => (b5 i h).elim h3 fun h => by omega) (fun h => by rcases b6 i h with h | h | h; exact h4 h; exact h3 h; omega), hset _ _ i h2, b3 i h1 h3 h4]
   have rows5 : ∀ i, (Zb i ∨ Z i) → Z4 i ∧ an (H4.set idl (.loop lr5)) i = an H i := fun i hi => by
    have hne : i ≠ idl := fun e => hnz (e ▸ hi)
    obtain ⟨t1, t2⟩ := b4 i hi
    obtain ⟨t3, t4⟩ := g4 i t1
    refine ⟨t3, ?_⟩
    rw [← t2]
    have : an (H2.set idl (.loop { lr with st := .busy })) i = an H2 i := by unfold an; rw [hset _ _ i hne]
    rw [← this, ← t4]
    unfold an; rw [hset _ _ i hne]
   have own5 : ∀ i, eS ν4 st2.m i → eS νb m i ∨ H.length ≤ i := fun i hi => by
    rcases g5 i hi with h | h
    ·exact b5 i h
    ·exact .inr (by omega)
   have frz5 : ∀ i, Z4 i → (Zb i ∨ Z i) ∨ eS νb m i ∨ H.length ≤ i := fun i hi => by
    rcases g6 i hi with h | h | h
    ·exact b6 i h
    ·rcases b5 i h with h | h
     ·exact .inr (.inl h)
     ·exact .inr (.inr h)
    ·exact .inr (.inr (by omega))
   have fx := a4.trans c4
   have r6 : R ν4 Z4 (xL st st2.m) F (H4.set idl (.loop lr5)) := ⟨fun s sv hs => (r.slot s sv hs).mono (fun i hi => rows5 i (.inl hi)) fun d hd ob' hob => fx.pin d (List.mem_append_right _ (vp hs hd)) ob' hob, r5.obj, r5.inj, r5.apart, r5.zrow, r5.deep⟩
   have hrun : run S.E (max nA nB + 1) (.yld idl) args H = some (.bool (oo' == .norm), H4.set idl (.loop lr5)) := by
    simp only [run, l4, hready]
    rw [if_pos (by rw [q3]; exact ⟨by rw [← hx.1]; exact hlen, by rw [q2]; exact hps⟩)]
    rw [q1, q2, q3, q4, q5]
    rw [a1 _ (Nat.le_max_left _ _)]
    simp only [hlo2, hready]
    rw [c1 _ (Nat.le_max_right _ _)]
    simp only [hlo4]
    rw [← hlr]
   refine ⟨max nA nB + 1, H4.set idl (.loop lr5), ?_, ⟨st2.m, ν4, Z4, lr5, r6, ?_, fun i hi => ?_, fun i hi => ?_, no4, nz4, l3, ?_, ?_, fun d hd ob' hob => ?_, ?_⟩, hlen5, fun i hi => ?_, fun i hi => (rows5 i (.inr hi)).2⟩
   ·rw [hrun]
    rcases hout with ⟨h1, _, h3⟩ | ⟨h1, _, _, h4, h5⟩
    ·rw [h1, h3]; rfl
    ·rw [h4, h5]
     cases hoo : oo' with
     | norm => exact absurd hoo h1
     | _ => rfl
   ·obtain ⟨j1, j2, j3, j4, j5, j6⟩ := ej
    refine ⟨rfl, Nat.le_trans j2 hlen5, fun i h1 h2 h3 => ?_, fun i h => ⟨(rows5 i (.inl (j4 i h).1)).1, by rw [(rows5 i (.inl (j4 i h).1)).2, (j4 i h).2]⟩, fun i h => ?_, fun i h => ?_⟩
    ·rw [same5 i (by omega) (by omega) (fun h => by rcases j5 i h with h | h; exact h2 h; omega) (fun h => by
      rcases h with h | h
      ·rcases j6 i h with h | h | h; exact h3 h; exact h2 h; omega
      ·rcases (d2 i h).2.2 with h | h; exact h3 h; omega), j3 i h1 h2 h3]
    ·rcases own5 i h with h | h
     ·exact j5 i h
     ·exact .inr (by omega)
    ·rcases frz5 i h with (h | h) | h | h
     ·exact j6 i h
     ·rcases (d2 i h).2.2 with h | h; exact .inl h; exact .inr (.inr h)
     ·rcases j5 i h with h | h; exact .inr (.inl h); exact .inr (.inr h)
     ·exact .inr (.inr (by omega))
   ·obtain ⟨t1, t2⟩ := hoz i hi
    obtain ⟨t3, t4, t5, t6⟩ := d1 i hi
    refine ⟨fun h => (own5 i h).elim t3 fun h => by omega, fun h => ?_, t5, t6⟩
    rcases frz5 i h with (h | h) | h | h
    ·exact t4 h
    ·exact t1 h
    ·exact t3 h
    ·omega
   ·obtain ⟨t1, t2, t3⟩ := d2 i hi
    have hlt : i < H.length := by
     have := hzr i hi
     unfold an at this
     cases hh : H[i]? with
     | none => rw [hh] at this; simp at this
     | some _ => exact (List.getElem?_eq_some_iff.1 hh).1
    exact ⟨fun h => (own5 i h).elim t1 fun h => by omega, t2, t3⟩
   ·rw [List.getElem?_set_self hll4]
   ·subst hlr; exact ⟨q1, q2, q3, q4, q5⟩
   ·obtain ⟨ob1, h1, h2, h3⟩ := fx.pin d hd ob' hob
    obtain ⟨ob, k1, k2, k3⟩ := l6 d hd ob1 h1
    exact ⟨ob, k1, by rw [h2, k2], k3.trans h3⟩
   ·rcases hout with ⟨h1, h2, h3⟩ | ⟨h1, h2, h3, h4, h5⟩
    ·left
     subst h1; subst hlr
     exact ⟨h2, rfl, rfl⟩
    ·right
     subst hlr
     have hb : ¬ (oo' == Out.norm) = true := by simpa using h1
     refine ⟨h4, h3, ?_, ?_⟩
     ·show (if (oo' == Out.norm) = true then vo.ready else vo.done) = vo.done
      rw [if_neg hb]
     ·show (if (oo' == Out.norm) = true then none else some oo') = some o
      rw [if_neg hb, h2]
   ·obtain ⟨t1, t2⟩ := hoz i hi
    obtain ⟨t3, t4, t5, t6⟩ := d1 i hi
    exact same5 i t2 t5 t3 fun h => h.elim t4 t1
  ·simp at hstep
 ·simp at hstep
end
end Go.VE
namespace Go.VE
section
variable {ν ν' ν2 : Nu} {Z Z' : Nat → Prop} {st st' st2 : St} {m m' : Tb aE} {F F' : Frame} {H H' H1 : ao} {S : Sys} {c : b_} {X : CX} {J : JT}
theorem E8 (gd : Good X S) (hS : iL S c) {ro : Bool} {id : Nat} {ops : Array Oper} {l : List RO} (hc : n5 X true ops.toList 0 ops.toList = some (l.map RO.strip)) (hd : (qg ops.toList && tq ops.toList) = true) :
 m7 X S ro (.region id ops true) (fun st => (jC S c true [] l st).map fun st => (.norm, st)) := by
 intro st o st' h J ν Z F H y r j
 obtain ⟨st1, h1, e⟩ := Option.map_eq_some_iff.1 h
 simp only [Prod.mk.injEq] at e; obtain ⟨rfl, rfl⟩ := e
 generalize hH0 : (if nS ops.toList then H ++ List.replicate ops.toList.length .free else H) = H0
 generalize hk : (if nS ops.toList then ops.toList.length else 0) = k
 have hget : ∀ i, i < H.length → H0[i]? = H[i]? := fun i hi => by
  rw [← hH0]; split
  ·exact List.getElem?_append_left hi
  ·rfl
 have hlen : H.length ≤ H0.length := by rw [← hH0]; split <;> simp
 have r0 : R ν Z st F H0 := r.heap (fun i hi => hget i (r.lt hi)) (fun i hi => by unfold an; rw [hget i (r.qK hi)])
 have hfree : ∀ q, 0 ≤ q → q < k → H0[H.length + q]? = some .free := fun q _ hq => by
  rw [← hk] at hq
  split at hq
  ·rename_i ha
   rw [← hH0, if_pos ha, List.getElem?_append_right (by omega)]
   simp only [Nat.add_sub_cancel_left]
   rw [List.getElem?_replicate, if_pos hq]
  ·omega
 obtain ⟨n, F', H', ν', e1, e2, e3, e4, e5⟩ := EV gd hS (ops := ops.toList) (b := H.length) (k := k) (fun ha => by rw [← hk, if_pos ha]) ops.toList.length (i := 0) (fr := []) (by omega) (by simpa using hc) h1 r0 hlen
  ⟨fun d ob hd hb _ => r.lt ⟨d, ob, hd, hb, rfl⟩, fun i hi => r.qK hi⟩ hfree
 refine ⟨n, F', H', ν', Z, fun q hq => ?_, e2, ?_, e5⟩
 ·simp only [exec, iq, if_true, hd, Option.map_eq_some_iff, Prod.mk.injEq, true_and]
  refine ⟨(F', H'), ?_, rfl, rfl⟩
  rw [hH0]
  have := e1 q hq
  rw [List.range_eq_range']; exact this
 ·rw [e4]
  refine y.qU _ _ _ _ _ _ _ j (Nat.le_trans hlen e3.len) (fun i h1 h2 h3 => by rw [e3.same i (by omega) h2 h3 (by omega), hget i h1]) (fun i hi => ⟨hi, by rw [(e3.rows i hi).2]; unfold an; rw [hget i (r.qK hi)]⟩) (fun i hi => ?_) (fun i hi => .inl hi)
  rcases e3.own i hi with h | h | h
  ·exact .inl h
  ·exact .inr h
  ·exact .inr (by omega)
theorem HN {ro : Bool} {code : Code} {f : St → Option (Out × St)} (hf : m7 X S ro code f) : m7 X S ro (.loop code) (jT f) := by
 intro st o st' h J ν Z F H y r j
 obtain ⟨k, hk⟩ := jt.1 h
 have key : ∀ k st ν Z F H, gx f k st = some (o, st') → Yc S J st.more st.yid → R ν Z st F H → J st.want (eS ν st.m) Z H →
  ∃ n F' H' ν' Z', (∀ q, n ≤ q → ∀ lf, k ≤ lf → lG (exec S.E (run S.E q) q ro X.nt code) lf F H = some (o, F', H')) ∧ R ν' Z' st' F' H' ∧ J st'.want (eS ν' st'.m) Z' H' ∧ Fix ν st ν' st' := by
  intro k
  induction k with
  | zero => intro st ν Z F H h; simp [gx] at h
  | succ k ih =>
   intro st ν Z F H h y r j
   simp only [gx] at h
   split at h
   ·rename_i st1 hs
    obtain ⟨n1, F1, H1, ν1, Z1, a1, a2, a3, a4⟩ := hf st .norm st1 hs J ν Z F H y r j
    obtain ⟨n2, F2, H2, ν2, Z2, b1, b2, b3, b4⟩ := ih st1 ν1 Z1 F1 H1 h (by rw [a4.more, a4.yid]; exact y) a2 a3
    refine ⟨max n1 n2, F2, H2, ν2, Z2, fun q hq lf hlf => ?_, b2, b3, a4.trans b4⟩
    cases lf with
    | zero => omega
    | succ lf =>
     simp only [lG, a1 q (Nat.le_trans (Nat.le_max_left _ _) hq)]
     exact b1 q (Nat.le_trans (Nat.le_max_right _ _) hq) lf (by omega)
   ·rename_i hs
    obtain ⟨n1, F1, H1, ν1, Z1, a1, a2, a3, a4⟩ := hf st o st' h J ν Z F H y r j
    have ho : o ≠ .norm := fun e => by subst e; exact hs st' h
    refine ⟨n1, F1, H1, ν1, Z1, fun q hq lf hlf => ?_, a2, a3, a4⟩
    cases lf with
    | zero => omega
    | succ lf =>
     simp only [lG, a1 q hq]
     cases o <;> first | exact absurd rfl ho | rfl
 obtain ⟨n, F', H', ν', Z', e1, e2, e3, e4⟩ := key k st ν Z F H hk y r j
 refine ⟨max n k, F', H', ν', Z', fun q hq => ?_, e2, e3, e4⟩
 simp only [exec]
 exact e1 q (Nat.le_trans (Nat.le_max_left _ _) hq) q (Nat.le_trans (Nat.le_max_right _ _) hq)
theorem HL (gd : Good X S) (hI : ∀ f a b xs, S.items f a b = some xs → gM S f a b xs) {g : Operand} {ps : Array Tmp} {aw bw : Code} {x : Arg} {A B : St → Option (Out × St)}
 (hps : ps.toList.all (· < X.nt) = true) (hx : rj X.nm g = some x) (hA : m7 X S true aw A) (hB : m7 X S true bw B) :
 m7 X S false (.rangeFunc g ps aw bw) (fun st => match m6 S.N st.g x with
 | some (.v (.clo f x y)) => match S.items f x y with
  | some xs => (kC (gl ps.toList A B st) xs st.m).map fun (o, m) => (o, { st with m := m })
  | none => none
 | _ => none) := by
 intro st o st' h J ν Z F H y r j
 dsimp only at h
 split at h
 ·rename_i f a b hsv
  split at h
  ·rename_i xs hit
   obtain ⟨⟨oo, mf⟩, hE, e⟩ := Option.map_eq_some_iff.1 h
   simp only [Prod.mk.injEq] at e; obtain ⟨rfl, rfl⟩ := e
   obtain ⟨yv, hy, ry⟩ := yS gd.N r.slot hx hsv
   obtain ⟨a', b', rfl, ra, rb⟩ := ry.fr.iT
   obtain ⟨ws, more, hcond, hR⟩ := wV hE
   generalize hlr : (⟨.ready, none, F, X.nt, ps.toList, aw, bw⟩ : pL) = lr0
   have hgetH : ∀ i, i < H.length → (H ++ [Ob.loop lr0])[i]? = H[i]? := fun i hi => List.getElem?_append_left hi
   have hzr : ∀ i, Z i → an (H ++ [Ob.loop lr0]) i = an H i := fun i hi => by unfold an; rw [hgetH i (r.qK hi)]
   have r0 : R ν Z (xL st st.m) F (H ++ [Ob.loop lr0]) := by
    have := r.heap (H' := H ++ [Ob.loop lr0]) (fun i hi => hgetH i (r.lt hi)) hzr
    exact ⟨this.slot, this.obj, this.inj, this.apart, this.zrow, this.deep⟩
   have hmono : ∀ i, Z i → Z i ∧ an (H ++ [Ob.loop lr0]) i = an H i := fun i hi => ⟨hi, hzr i hi⟩
   have j0 : JI X st F ν (eS ν st.m) Z H H.length ps.toList aw bw (gl ps.toList A B st) oo mf more ws (fun _ => False) Z (H ++ [Ob.loop lr0]) := by
    refine ⟨st.m, ν, Z, lr0, r0, ⟨rfl, by simp, fun i h1 _ _ => hgetH i h1, fun i hi => ⟨hi, hzr i hi⟩, fun i hi => .inl hi, fun i hi => .inl hi⟩, fun i hi => hi.elim, fun i hi => ⟨fun ho => ?_, Nat.ne_of_lt (r.qK hi), .inl hi⟩, fun ho => absurd (r.lt ho) (by simp), fun hz => absurd (r.qK hz) (by simp), Nat.le_refl _, by simp, ?_, fun d _ ob' h => ⟨ob', h, rfl, .refl _⟩, .inl ⟨hR, ?_, ?_⟩⟩
    ·obtain ⟨d, ob, g1, g2, rfl⟩ := ho
     exact r.apart d ob g1 g2 hi
    ·subst hlr; exact ⟨rfl, rfl, rfl, rfl, rfl⟩
    ·subst hlr; rfl
    ·subst hlr; rfl
   have hyc : Yc S (JI X st F ν (eS ν st.m) Z H H.length ps.toList aw bw (gl ps.toList A B st) oo mf more) more H.length :=
    ⟨fun w O Z1 H1 O' Z' H' jj h1 h2 h3 h4 h5 => JI.qU jj h1 h2 h3 h4 h5, fun x1 ws1 O Z1 H1 args jj h1 h2 h3 h4 => JI.yield S hA hB hps jj h1 h2 h3 h4⟩
   obtain ⟨n, yy, H', O', Z', e1, e2⟩ := hI f a b xs hit ws more hcond H.length _ hyc Z a' b' (H ++ [Ob.loop lr0]) (ra.mono hmono) (rb.mono hmono) (fun i hi => by rw [hzr i hi]; exact r.zrow i hi) (r.deep.mono hzr) j0
   obtain ⟨m1, νb, Zb, lr, r1, ⟨_, k2, k3, k4, k5, k6⟩, _, _, l1, l2, l3, l4, _, l6, l7⟩ := e2
   have hfin : m1 = mf ∧ (lr.st = .ready ∨ lr.st = .done) ∧ lr.pend.getD .norm = oo := by
    rcases l7 with ⟨g1, g2, g3⟩ | ⟨_, g1, g2, g3⟩
    ·cases g1 with
     | nil hn =>
      exact ⟨rfl, .inl g2, by rw [g3, hn]; rfl⟩
    ·exact ⟨g1, .inr g2, by rw [g3]; rfl⟩
   obtain ⟨rfl, hst, hpend⟩ := hfin
   have hll : H.length < H'.length := (List.getElem?_eq_some_iff.1 l4).1
   have hset : ∀ i, i ≠ H.length → (H'.set H.length .dead)[i]? = H'[i]? := fun i hne => by rw [List.getElem?_set, if_neg (Ne.symm hne)]
   have hzr2 : ∀ i, Zb i → an (H'.set H.length .dead) i = an H' i := fun i hi => by unfold an; rw [hset i fun e => l2 (e ▸ hi)]
   have r2 := r1.heap (H' := H'.set H.length .dead) (fun i hi => hset i fun e => l1 (e ▸ hi)) hzr2
   refine ⟨n, F, H'.set H.length .dead, νb, Zb, fun q hq => ?_, ⟨r2.slot, r2.obj, r2.inj, r2.apart, r2.zrow, r2.deep⟩, ?_, ⟨fun d hd => l6 d (List.mem_append_left _ hd), rfl, rfl, rfl⟩⟩
   ·simp only [exec, hy]
    rw [hlr, e1 q hq]
    simp only [l4]
    rcases hst with hst | hst <;> rw [hst] <;> simp only [hpend]
   ·refine y.qU _ _ _ _ _ _ _ j (by simp only [List.length_set]; omega) (fun i h1 h2 h3 => by rw [hset i (by omega), k3 i h1 h2 h3]) (fun i hi => ⟨(k4 i hi).1, by rw [hzr2 i (k4 i hi).1, (k4 i hi).2]⟩) k5 k6
  ·simp at h
 ·simp at h
end
end Go.VE
namespace Go.VE
def oY (st : St) : List RV → Option (List SV)
 | [] => some []
 | .s n :: r => match aj st.g n, oY st r with
  | some x, some l => some (x :: l)
  | _, _ => none
 | .ld n size agg :: r => match (aj st.g n).bind fun p => kX st.m (.load size agg) [p], oY st r with
  | some x, some l => some (x :: l)
  | _, _ => none
noncomputable def mO (S : Sys) (c : b_) (rf : RF) (svs : List SV) (m0 : gr) : Option (List SV × gr) :=
 if svs.length ≤ rf.na then
  match aX S c rf.body (start svs m0) with
  | some (.exit _, _) => none
  | some (_, st) => (oY st rf.rs).map fun rs => (rs, st.m)
  | none => none
 else none
def xS (E : Env) : ResultVar → Option RV
 | .tmp t => some (.s t)
 | .cell a t => (E.tt t).map fun d => .ld a d.size d.agg
def bD (E : Env) (nm : FuncId → Option Nat) (fi : FI) (rf : RF) : Prop :=
 aO ⟨E, nm, fi.ntmps⟩ false fi.body = some (erase rf.body) ∧ fi.results.mapM (xS E) = some rf.rs ∧ rf.na = fi.ntmps
section
variable {ν ν' ν2 : Nu} {Z Z' : Nat → Prop} {st st' st2 : St} {m m' : Tb aE} {F F' : Frame} {H H' H1 : ao} {S : Sys} {c : b_} {X : CX} {J : JT}
theorem Cg (gd : Good X S) (hS : iL S c) (hI : ∀ f a b xs, S.items f a b = some xs → gM S f a b xs) : ∀ (rc : RC) (ro : Bool) (code : Code), aO X ro code = some (erase rc) → m7 X S ro code (aX S c rc) := by
 intro rc
 induction rc with
 | skip =>
  intro ro code hc st o st' h J ν Z F H y r j
  simp only [aX, Option.some.injEq, Prod.mk.injEq] at h; obtain ⟨rfl, rfl⟩ := h
  simp only [erase] at hc
  have : ∀ k, exec S.E (run S.E k) k ro X.nt code F H = some (.norm, F, H) := fun k => by
   cases code with
   | skip => rfl
   | label _ => rfl
   | region id ops draw =>
    simp only [aO] at hc
    split at hc
    ·split at hc
     ·obtain ⟨_, _, e⟩ := Option.map_eq_some_iff.1 hc; cases e
     ·simp at hc
    ·obtain ⟨_, _, e⟩ := Option.map_eq_some_iff.1 hc; cases e
   | seq a b => simp only [aO] at hc; split at hc <;> simp at hc
   | cond x a b => simp only [aO] at hc; split at hc <;> simp at hc
   | block id b => simp only [aO] at hc; obtain ⟨_, _, e⟩ := Option.map_eq_some_iff.1 hc; cases e
   | loop b => simp only [aO] at hc; obtain ⟨_, _, e⟩ := Option.map_eq_some_iff.1 hc; cases e
   | rangeFunc g ps aw bw =>
    simp only [aO] at hc
    split at hc
    ·simp at hc
    ·split at hc <;> simp at hc
   | _ => simp [aO] at hc
  exact ⟨0, F, H, ν, Z, fun k _ => this k, r, j, .refl⟩
 | ops l =>
  intro ro code hc
  simp only [erase] at hc
  cases code with
  | region id ops draw =>
   simp only [aO] at hc
   split at hc
   ·split at hc
    ·obtain ⟨_, _, e⟩ := Option.map_eq_some_iff.1 hc; cases e
    ·simp at hc
   ·rename_i hd
    obtain ⟨l', hl, e⟩ := Option.map_eq_some_iff.1 hc
    cases e
    intro st o st' h J ν Z F H y r j
    simp only [aX] at h
    obtain ⟨st1, h1, e⟩ := Option.map_eq_some_iff.1 h
    simp only [Prod.mk.injEq] at e; obtain ⟨rfl, rfl⟩ := e
    obtain ⟨n, F', H', ν', Z', e1, e2, e3, e4⟩ := DO gd hS _ hl h1 y r j
    refine ⟨n, F', H', ν', Z', fun k hk => ?_, e2, e3, e4⟩
    simp only [exec, iq, hd, Bool.false_eq_true, if_false, e1 k hk, Option.map_some]
  | seq a b => simp only [aO] at hc; split at hc <;> simp at hc
  | cond x a b => simp only [aO] at hc; split at hc <;> simp at hc
  | block id b => simp only [aO] at hc; obtain ⟨_, _, e⟩ := Option.map_eq_some_iff.1 hc; cases e
  | loop b => simp only [aO] at hc; obtain ⟨_, _, e⟩ := Option.map_eq_some_iff.1 hc; cases e
  | rangeFunc g ps aw bw =>
   simp only [aO] at hc
   split at hc
   ·simp at hc
   ·split at hc <;> simp at hc
  | _ => simp [aO] at hc
 | reg l =>
  intro ro code hc
  simp only [erase] at hc
  cases code with
  | region id ops draw =>
   simp only [aO] at hc
   split at hc
   ·rename_i hd
    subst hd
    split at hc
    ·rename_i hok
     obtain ⟨l', hl, e⟩ := Option.map_eq_some_iff.1 hc
     cases e
     have := E8 (ro := ro) (id := id) gd hS hl hok
     intro st o st' h
     simp only [aX] at h
     exact this st o st' h
    ·simp at hc
   ·obtain ⟨_, _, e⟩ := Option.map_eq_some_iff.1 hc; cases e
  | seq a b => simp only [aO] at hc; split at hc <;> simp at hc
  | cond x a b => simp only [aO] at hc; split at hc <;> simp at hc
  | block id b => simp only [aO] at hc; obtain ⟨_, _, e⟩ := Option.map_eq_some_iff.1 hc; cases e
  | loop b => simp only [aO] at hc; obtain ⟨_, _, e⟩ := Option.map_eq_some_iff.1 hc; cases e
  | rangeFunc g ps aw bw =>
   simp only [aO] at hc
   split at hc
   ·simp at hc
   ·split at hc <;> simp at hc
  | _ => simp [aO] at hc
 | seq a b iha ihb =>
  intro ro code hc
  simp only [erase] at hc
  cases code with
  | seq ca cb =>
   simp only [aO] at hc
   split at hc
   ·rename_i xa xb ha hb
    simp only [Option.some.injEq, RC.seq.injEq] at hc
    obtain ⟨rfl, rfl⟩ := hc
    intro st o st' h J ν Z F H y r j
    simp only [aX] at h
    split at h
    ·rename_i st1 hs
     obtain ⟨n1, F1, H1, ν1, Z1, a1, a2, a3, a4⟩ := iha ro ca ha st .norm st1 hs J ν Z F H y r j
     obtain ⟨n2, F2, H2, ν2, Z2, b1, b2, b3, b4⟩ := ihb ro cb hb st1 o st' h J ν1 Z1 F1 H1 (by rw [a4.more, a4.yid]; exact y) a2 a3
     refine ⟨max n1 n2, F2, H2, ν2, Z2, fun q hq => ?_, b2, b3, a4.trans b4⟩
     simp only [exec, a1 q (Nat.le_trans (Nat.le_max_left _ _) hq)]
     exact b1 q (Nat.le_trans (Nat.le_max_right _ _) hq)
    ·rename_i hs
     obtain ⟨n1, F1, H1, ν1, Z1, a1, a2, a3, a4⟩ := iha ro ca ha st o st' h J ν Z F H y r j
     refine ⟨n1, F1, H1, ν1, Z1, fun q hq => ?_, a2, a3, a4⟩
     simp only [exec, a1 q hq]
     cases o <;> first | exact absurd h (hs st') | rfl
   ·simp at hc
  | region id ops draw =>
   simp only [aO] at hc
   split at hc
   ·split at hc
    ·obtain ⟨_, _, e⟩ := Option.map_eq_some_iff.1 hc; cases e
    ·simp at hc
   ·obtain ⟨_, _, e⟩ := Option.map_eq_some_iff.1 hc; cases e
  | cond x a b => simp only [aO] at hc; split at hc <;> simp at hc
  | block id b => simp only [aO] at hc; obtain ⟨_, _, e⟩ := Option.map_eq_some_iff.1 hc; cases e
  | loop b => simp only [aO] at hc; obtain ⟨_, _, e⟩ := Option.map_eq_some_iff.1 hc; cases e
  | rangeFunc g ps aw bw =>
   simp only [aO] at hc
   split at hc
   ·simp at hc
   ·split at hc <;> simp at hc
  | _ => simp [aO] at hc
 | cond x a b iha ihb =>
  intro ro code hc
  simp only [erase] at hc
  cases code with
  | cond g ca cb =>
   simp only [aO] at hc
   split at hc
   ·rename_i xg xa xb hg ha hb
    simp only [Option.some.injEq, RC.cond.injEq] at hc
    obtain ⟨rfl, rfl, rfl⟩ := hc
    intro st o st' h J ν Z F H y r j
    simp only [aX] at h
    split at h
    ·rename_i t ht
     obtain ⟨yv, hy, ry⟩ := yS gd.N r.slot hg ht
     rw [ry.fr.bool] at hy
     split at h
     ·rename_i hb
      obtain ⟨n1, F1, H1, ν1, Z1, a1, a2, a3, a4⟩ := iha ro ca ha st o st' h J ν Z F H y r j
      refine ⟨n1, F1, H1, ν1, Z1, fun q hq => ?_, a2, a3, a4⟩
      simp only [exec, hy, hb, if_true]
      exact a1 q hq
     ·rename_i hb
      obtain ⟨n1, F1, H1, ν1, Z1, a1, a2, a3, a4⟩ := ihb ro cb (by assumption) st o st' h J ν Z F H y r j
      refine ⟨n1, F1, H1, ν1, Z1, fun q hq => ?_, a2, a3, a4⟩
      simp only [exec, hy, hb]
      exact a1 q hq
    ·simp at h
   ·simp at hc
  | region id ops draw =>
   simp only [aO] at hc
   split at hc
   ·split at hc
    ·obtain ⟨_, _, e⟩ := Option.map_eq_some_iff.1 hc; cases e
    ·simp at hc
   ·obtain ⟨_, _, e⟩ := Option.map_eq_some_iff.1 hc; cases e
  | seq a b => simp only [aO] at hc; split at hc <;> simp at hc
  | block id b => simp only [aO] at hc; obtain ⟨_, _, e⟩ := Option.map_eq_some_iff.1 hc; cases e
  | loop b => simp only [aO] at hc; obtain ⟨_, _, e⟩ := Option.map_eq_some_iff.1 hc; cases e
  | rangeFunc g ps aw bw =>
   simp only [aO] at hc
   split at hc
   ·simp at hc
   ·split at hc <;> simp at hc
  | _ => simp [aO] at hc
 | block id a iha =>
  intro ro code hc
  simp only [erase] at hc
  cases code with
  | block id' ca =>
   simp only [aO] at hc
   obtain ⟨xa, ha, e⟩ := Option.map_eq_some_iff.1 hc
   simp only [RC.block.injEq] at e
   obtain ⟨rfl, rfl⟩ := e
   intro st o st' h J ν Z F H y r j
   simp only [aX] at h
   split at h
   ·rename_i id2 st1 hs
    obtain ⟨n1, F1, H1, ν1, Z1, a1, a2, a3, a4⟩ := iha ro ca ha st (.exit id2) st1 hs J ν Z F H y r j
    split at h
    ·rename_i e
     simp only [Option.some.injEq, Prod.mk.injEq] at h; obtain ⟨rfl, rfl⟩ := h
     refine ⟨n1, F1, H1, ν1, Z1, fun q hq => ?_, a2, a3, a4⟩
     simp only [exec, a1 q hq, if_pos e]
    ·rename_i e
     simp only [Option.some.injEq, Prod.mk.injEq] at h; obtain ⟨rfl, rfl⟩ := h
     refine ⟨n1, F1, H1, ν1, Z1, fun q hq => ?_, a2, a3, a4⟩
     simp only [exec, a1 q hq, if_neg e]
   ·rename_i hs
    obtain ⟨n1, F1, H1, ν1, Z1, a1, a2, a3, a4⟩ := iha ro ca ha st o st' h J ν Z F H y r j
    refine ⟨n1, F1, H1, ν1, Z1, fun q hq => ?_, a2, a3, a4⟩
    simp only [exec, a1 q hq]
    cases o <;> first | exact absurd h (hs _ st') | rfl
  | region id ops draw =>
   simp only [aO] at hc
   split at hc
   ·split at hc
    ·obtain ⟨_, _, e⟩ := Option.map_eq_some_iff.1 hc; cases e
    ·simp at hc
   ·obtain ⟨_, _, e⟩ := Option.map_eq_some_iff.1 hc; cases e
  | seq a b => simp only [aO] at hc; split at hc <;> simp at hc
  | cond x a b => simp only [aO] at hc; split at hc <;> simp at hc
  | loop b => simp only [aO] at hc; obtain ⟨_, _, e⟩ := Option.map_eq_some_iff.1 hc; cases e
  | rangeFunc g ps aw bw =>
   simp only [aO] at hc
   split at hc
   ·simp at hc
   ·split at hc <;> simp at hc
  | _ => simp [aO] at hc
 | loop a iha =>
  intro ro code hc
  simp only [erase] at hc
  cases code with
  | loop ca =>
   simp only [aO] at hc
   obtain ⟨xa, ha, e⟩ := Option.map_eq_some_iff.1 hc
   simp only [RC.loop.injEq] at e
   subst e
   have := HN (iha ro ca ha)
   intro st o st' h
   simp only [aX] at h
   exact this st o st' h
  | region id ops draw =>
   simp only [aO] at hc
   split at hc
   ·split at hc
    ·obtain ⟨_, _, e⟩ := Option.map_eq_some_iff.1 hc; cases e
    ·simp at hc
   ·obtain ⟨_, _, e⟩ := Option.map_eq_some_iff.1 hc; cases e
  | seq a b => simp only [aO] at hc; split at hc <;> simp at hc
  | cond x a b => simp only [aO] at hc; split at hc <;> simp at hc
  | block id b => simp only [aO] at hc; obtain ⟨_, _, e⟩ := Option.map_eq_some_iff.1 hc; cases e
  | rangeFunc g ps aw bw =>
   simp only [aO] at hc
   split at hc
   ·simp at hc
   ·split at hc <;> simp at hc
  | _ => simp [aO] at hc
 | each x ps a b iha ihb =>
  intro ro code hc
  simp only [erase] at hc
  cases code with
  | rangeFunc g ps' aw bw =>
   simp only [aO] at hc
   split at hc
   ·simp at hc
   ·rename_i hro
    simp only [Bool.or_eq_true, not_or, Bool.not_eq_true, Bool.not_eq_false'] at hro
    obtain ⟨rfl, hps⟩ := hro
    split at hc
    ·rename_i xg xa xb hg ha hb
     simp only [Option.some.injEq, RC.each.injEq] at hc
     obtain ⟨rfl, rfl, rfl, rfl⟩ := hc
     have := HL gd hI hps hg (iha true aw ha) (ihb true bw hb)
     intro st o st' h
     simp only [aX] at h
     exact this st o st' h
    ·simp at hc
  | region id ops draw =>
   simp only [aO] at hc
   split at hc
   ·split at hc
    ·obtain ⟨_, _, e⟩ := Option.map_eq_some_iff.1 hc; cases e
    ·simp at hc
   ·obtain ⟨_, _, e⟩ := Option.map_eq_some_iff.1 hc; cases e
  | seq a b => simp only [aO] at hc; split at hc <;> simp at hc
  | cond x a b => simp only [aO] at hc; split at hc <;> simp at hc
  | block id b => simp only [aO] at hc; obtain ⟨_, _, e⟩ := Option.map_eq_some_iff.1 hc; cases e
  | loop b => simp only [aO] at hc; obtain ⟨_, _, e⟩ := Option.map_eq_some_iff.1 hc; cases e
  | _ => simp [aO] at hc
 | exit id =>
  intro ro code hc st o st' h J ν Z F H y r j
  simp only [aX, Option.some.injEq, Prod.mk.injEq] at h; obtain ⟨rfl, rfl⟩ := h
  simp only [erase] at hc
  have : ∀ k, exec S.E (run S.E k) k ro X.nt code F H = some (.exit id, F, H) := fun k => by
   cases code with
   | exit id' => simp only [aO, Option.some.injEq, RC.exit.injEq] at hc; subst hc; rfl
   | region id ops draw =>
    simp only [aO] at hc
    split at hc
    ·split at hc
     ·obtain ⟨_, _, e⟩ := Option.map_eq_some_iff.1 hc; cases e
     ·simp at hc
    ·obtain ⟨_, _, e⟩ := Option.map_eq_some_iff.1 hc; cases e
   | seq a b => simp only [aO] at hc; split at hc <;> simp at hc
   | cond x a b => simp only [aO] at hc; split at hc <;> simp at hc
   | block id b => simp only [aO] at hc; obtain ⟨_, _, e⟩ := Option.map_eq_some_iff.1 hc; cases e
   | loop b => simp only [aO] at hc; obtain ⟨_, _, e⟩ := Option.map_eq_some_iff.1 hc; cases e
   | rangeFunc g ps aw bw =>
    simp only [aO] at hc
    split at hc
    ·simp at hc
    ·split at hc <;> simp at hc
   | _ => simp [aO] at hc
  exact ⟨0, F, H, ν, Z, fun k _ => this k, r, j, .refl⟩
 | ret =>
  intro ro code hc st o st' h J ν Z F H y r j
  simp only [aX, Option.some.injEq, Prod.mk.injEq] at h; obtain ⟨rfl, rfl⟩ := h
  simp only [erase] at hc
  have : ∀ k, exec S.E (run S.E k) k ro X.nt code F H = some (.ret, F, H) := fun k => by
   cases code with
   | ret => rfl
   | region id ops draw =>
    simp only [aO] at hc
    split at hc
    ·split at hc
     ·obtain ⟨_, _, e⟩ := Option.map_eq_some_iff.1 hc; cases e
     ·simp at hc
    ·obtain ⟨_, _, e⟩ := Option.map_eq_some_iff.1 hc; cases e
   | seq a b => simp only [aO] at hc; split at hc <;> simp at hc
   | cond x a b => simp only [aO] at hc; split at hc <;> simp at hc
   | block id b => simp only [aO] at hc; obtain ⟨_, _, e⟩ := Option.map_eq_some_iff.1 hc; cases e
   | loop b => simp only [aO] at hc; obtain ⟨_, _, e⟩ := Option.map_eq_some_iff.1 hc; cases e
   | rangeFunc g ps aw bw =>
    simp only [aO] at hc
    split at hc
    ·simp at hc
    ·split at hc <;> simp at hc
   | _ => simp [aO] at hc
  exact ⟨0, F, H, ν, Z, fun k _ => this k, r, j, .refl⟩
 | gh x a iha =>
  intro ro code hc
  simp only [erase] at hc
  intro st o st' h J ν Z F H y r j
  simp only [aX] at h
  obtain ⟨st1, h1, h2⟩ := Option.bind_eq_some_iff.1 h
  obtain ⟨ν1, Z1, g1, g2, g3⟩ := Fix.ghost r y j h1
  obtain ⟨n, F', H', ν', Z', e1, e2, e3, e4⟩ := iha ro code hc st1 o st' h2 J ν1 Z1 F H (by rw [g3.more, g3.yid]; exact y) g1 g2
  exact ⟨n, F', H', ν', Z', e1, e2, e3, g3.trans e4⟩
 | hg a x iha =>
  intro ro code hc
  simp only [erase] at hc
  intro st o st' h J ν Z F H y r j
  simp only [aX] at h
  split at h
  ·rename_i st1 hs
   obtain ⟨st2, h1, e⟩ := Option.map_eq_some_iff.1 h
   simp only [Prod.mk.injEq] at e; obtain ⟨rfl, rfl⟩ := e
   obtain ⟨n, F', H', ν', Z', e1, e2, e3, e4⟩ := iha ro code hc st .norm st1 hs J ν Z F H y r j
   obtain ⟨ν1, Z1, g1, g2, g3⟩ := Fix.ghost e2 (by rw [e4.more, e4.yid]; exact y) e3 h1
   exact ⟨n, F', H', ν1, Z1, e1, g1, g2, e4.trans g3⟩
  ·exact iha ro code hc st o st' h J ν Z F H y r j
end
end Go.VE
namespace Go.VE
abbrev az := FuncId → Option RF
structure uJ (S : Sys) (T : az) : Prop where
 fn : ∀ f rf, T f = some rf → ∃ fi nm, S.E.ft f = some fi ∧ (∀ g s, nm g = some s → S.N s = g) ∧ bD S.E nm fi rf
 vg : ∀ f as y, S.vg f as = some y → y.scalar = true ∧ ∃ n H', run S.E n (.fn f) as [] = some (y, H')
def FD (S : Sys) (f : FuncId) (svs : List SV) (m0 : gr) : Option (List SV × gr) :=
 if S.E.keep f then none else match d6 svs, m0 with
  | some as, [] => (S.vg f as).map fun y => ([.v y], [])
  | _, _ => none
noncomputable def iO (S : Sys) (T : az) : Nat → b_
 | 0 => fun _ _ _ => none
 | n + 1 => fun f svs m0 => match T f with
  | some rf => mO S (iO S T n) rf svs m0
  | none => FD S f svs m0
section
variable {ν ν' ν2 : Nu} {Z Z' : Nat → Prop} {st st' st2 : St} {m m' : Tb aE} {F F' : Frame} {H H' H1 : ao} {S : Sys} {c c' : b_} {X : CX} {J : JT} {T : az}
theorem uz (r : R ν Z st F H) {nm : FuncId → Option Nat} : ∀ {rvs : List ResultVar} {rs : List RV} {l : List SV}, rvs.mapM (xS S.E) = some rs → oY st rs = some l → ∃ ys, gT S.E F H rvs = some ys ∧ aU ν st.m H Z l ys
 | [], rs, l, hc, h => by
  simp only [List.mapM_nil, Option.pure_def, Option.some.injEq] at hc; subst hc
  simp only [oY, Option.some.injEq] at h; subst h
  exact ⟨[], rfl, .nil⟩
 | rv :: rvs, rs, l, hc, h => by
  simp only [List.mapM_cons, Option.pure_def, Option.bind_eq_bind, Option.bind_eq_some_iff, Option.some.injEq] at hc
  obtain ⟨x, hx, ys, hy, rfl⟩ := hc
  cases rv with
  | tmp t =>
   simp only [xS, Option.some.injEq] at hx; subst hx
   simp only [oY] at h
   split at h
   ·rename_i v vs h1 h2
    simp only [Option.some.injEq] at h; subst h
    obtain ⟨zs, e1, e2⟩ := uz r (nm := nm) hy h2
    exact ⟨get F t :: zs, by simp only [gT, e1, Option.map_some], .cons (r.slot t v h1) e2⟩
   ·simp at h
  | cell a t =>
   simp only [xS, Option.map_eq_some_iff] at hx
   obtain ⟨d, hd, rfl⟩ := hx
   simp only [oY] at h
   split at h
   ·rename_i v vs h1 h2
    simp only [Option.some.injEq] at h; subst h
    obtain ⟨p, hp, h1⟩ := Option.bind_eq_some_iff.1 h1
    obtain ⟨zs, e1, e2⟩ := uz r (nm := nm) hy h2
    obtain ⟨y, g1, g2⟩ := sJ (fun kk z ok e => by cases e) (aU.cons (r.slot a p hp) .nil) (fun d' _ ob hob => r.obj d' ob hob) h1
    simp only [ko] at g1
    exact ⟨y :: zs, by simp only [gT, hd, e1, g1, Option.map_some], .cons g2 e2⟩
   ·simp at h
theorem BE (hS : iL S c) (hI : ∀ f a b xs, S.items f a b = some xs → gM S f a b xs) {f : FuncId} {fi : FI} {nm : FuncId → Option Nat} {rf : RF} (hft : S.E.ft f = some fi) (hN : ∀ g s, nm g = some s → S.N s = g) (hr : bD S.E nm fi rf)
 {svs : List SV} {m0 : gr} {rs : List SV} {m1 : gr} (h : mO S c rf svs m0 = some (rs, m1)) {args : List V} (r : R ν Z (start svs m0) args H) (hl : aU ν m0 H Z svs args) :
 ∃ n y H' ν' Z' st' F' ys, run S.E n (.fn f) args H = some (y, H') ∧ y = result ys ∧ st'.m = m1 ∧ aU ν' m1 H' Z' rs ys ∧ R ν' Z' st' F' H' ∧ Ev (fun _ => False) ν Z (start svs m0) H ν' Z' st' H' := by
 obtain ⟨hc, hrs, hna⟩ := hr
 unfold mO at h
 split at h
 ·rename_i hlen
  have key : ∀ o st', aX S c rf.body (start svs m0) = some (o, st') → (∀ id, o ≠ .exit id) → (oY st' rf.rs).map (fun rs => (rs, st'.m)) = some (rs, m1) →
   ∃ n y H' ν' Z' st' F' ys, run S.E n (.fn f) args H = some (y, H') ∧ y = result ys ∧ st'.m = m1 ∧ aU ν' m1 H' Z' rs ys ∧ R ν' Z' st' F' H' ∧ Ev (fun _ => False) ν Z (start svs m0) H ν' Z' st' H' := fun o st' hs ho hres => by
   obtain ⟨l, h1, e⟩ := Option.map_eq_some_iff.1 hres
   simp only [Prod.mk.injEq] at e; obtain ⟨rfl, rfl⟩ := e
   obtain ⟨n, F', H', ν', Z', e1, e2, e3, e4⟩ := Cg (X := ⟨S.E, nm, fi.ntmps⟩) ⟨rfl, hN⟩ hS hI rf.body false fi.body hc _ _ _ hs (oM (eS ν (start svs m0).m) Z H) ν Z args H oM.yc r (oM.refl r)
   obtain ⟨ys, p1, p2⟩ := uz (nm := nm) e2 hrs h1
   obtain ⟨_, q2, q3, q4, q5, q6⟩ := e3
   refine ⟨n + 1, result ys, H', ν', Z', st', F', ys, ?_, rfl, rfl, p2, e2, ⟨q2, fun i h1 h2 h3 _ => q3 i h1 h2 h3, q4, fun i h => (q5 i h).imp (fun h => h) .inr, fun i h => (q6 i h).imp (fun h => h) (.imp (fun h => h) .inr), e4.pin, e4.pins⟩⟩
   have hargs : args.length ≤ fi.ntmps := by rw [← hl.1, ← hna]; exact hlen
   simp only [run, hft, if_pos hargs, e1 n (Nat.le_refl _)]
   cases o with
   | exit id => exact absurd rfl (ho id)
   | norm => simp only [p1, Option.map_some]
   | ret => simp only [p1, Option.map_some]
  split at h
  ·simp at h
  ·rename_i o st' hne hs
   exact key o st' hs (fun id e => by subst e; exact hne id rfl) h
  ·simp at h
 ·simp at h
theorem FR.emp {x y : V} (hz : ∀ id, ¬ Z id) (r : FR H Z x y) : x = y := by
 have hl : ∀ {a a' : List V}, a.length = a'.length → (∀ (j : Nat) u v, a[j]? = some u → a'[j]? = some v → u = v) → a = a' := fun {a a'} h1 h2 => by
  apply List.ext_getElem h1
  intro i p q
  exact h2 i _ _ (List.getElem?_eq_getElem p) (List.getElem?_eq_getElem q)
 induction r with
 | same x h => rfl
 | fsl es xs id off ys h => exact absurd h (hz _)
 | fptr xs id el off es ys cs h => exact absurd h (hz _)
 | clo f a b a' b' h1 h2 _ _ i1 i2 => rw [hl h1 i1, hl h2 i2]
 | agg a a' h1 _ i1 => rw [hl h1 i1]
 | tup a a' h1 _ i1 => rw [hl h1 i1]
theorem aU.emp (hz : ∀ id, ¬ Z id) : ∀ {xs ys : List V}, aU ν m H Z (xs.map .v) ys → xs = ys
 | [], ys, h => h.ct.symm
 | x :: xs, ys, h => by
  obtain ⟨y, ys, rfl, h1, h2⟩ := h.inv
  rw [FR.emp hz h1.fr, aU.emp hz h2]
theorem vt (hT : uJ S T) (hI : ∀ f a b xs, S.items f a b = some xs → gM S f a b xs) : ∀ n, iL S (iO S T n)
 | 0 => fun f svs m0 rs m1 h => by simp [iO] at h
 | n + 1 => fun f svs m0 rs m1 h ν Z args H hH r hl => by
  simp only [iO] at h
  split at h
  ·rename_i rf hrf
   obtain ⟨fi, nm, h1, h2, h3⟩ := hT.fn f rf hrf
   exact BE (vt hT hI n) hI h1 h2 h3 h r hl
  ·unfold FD at h
   split at h
   ·simp at h
   ·rename_i hk
    split at h
    ·rename_i as ha
     obtain ⟨y, hy, e⟩ := Option.map_eq_some_iff.1 h
     simp only [Prod.mk.injEq] at e; obtain ⟨rfl, rfl⟩ := e
     obtain ⟨hs, k, H', hrun⟩ := hT.vg f as y hy
     rcases hH with hH | rfl
     ·exact absurd hH hk
     have hz : ∀ id, ¬ Z id := fun id hid => by have := r.zrow id hid; simp [an] at this
     have hargs : args = as := by
      rw [oq ha] at hl
      exact (aU.emp hz hl).symm
     subst hargs
     refine ⟨k, y, H', fun _ => (0, 0), fun _ => False, ⟨[], [], [], [], true, 0⟩, [], [y], hrun, rfl, rfl, aU.KA (ys := [y]) (by show (V.aN y && true) = true; rw [kd hs]; rfl), ?_, ?_⟩
     ·exact ⟨fun s sv h => by simp [aj] at h, fun d ob h => by simp [aj] at h, fun d d' ob ob' h => by simp [aj] at h, fun d ob h => by simp [aj] at h, fun id h => h.elim, ⟨fun id es ys h => h.elim⟩⟩
     ·exact ⟨Nat.zero_le _, fun id h => by simp at h, fun id h => absurd h (hz id), fun id h => by obtain ⟨d, ob, h, _⟩ := h; simp [aj] at h, fun id h => h.elim, fun d h => by simp [start] at h, rfl⟩
    ·simp at h
abbrev Cw := List ((FuncId × List SV × gr) × (List SV × gr))
def xM (c : b_) (L : Cw) : Prop := ∀ p ∈ L, c p.1.1 p.1.2.1 p.1.2.2 = some p.2
def Fin {α : Type} (c : b_) (f : b_ → Option α) (r : α) : Prop := ∃ L : Cw, xM c L ∧ ∀ c', xM c' L → f c' = some r
theorem Fin.pure {α : Type} {f : b_ → Option α} {r : α} (h : ∀ c', f c' = some r) : Fin c f r := ⟨[], fun p hp => by simp at hp, fun c' _ => h c'⟩
theorem Fin.bind {α β : Type} {f : b_ → Option α} {r : α} {g : b_ → Option β} {q : β} (h1 : Fin c f r) (g' : b_ → α → Option β) (h2 : Fin c (fun c => g' c r) q) (hg : ∀ c', f c' = some r → g c' = g' c' r) : Fin c g q := by
 obtain ⟨L1, a1, b1⟩ := h1
 obtain ⟨L2, a2, b2⟩ := h2
 refine ⟨L1 ++ L2, fun p hp => (List.mem_append.1 hp).elim (a1 p) (a2 p), fun c' hc => ?_⟩
 rw [hg c' (b1 c' fun p hp => hc p (List.mem_append_left _ hp))]
 exact b2 c' fun p hp => hc p (List.mem_append_right _ hp)
theorem Fin.call {f : FuncId} {svs : List SV} {m0 : gr} {r : List SV × gr} (h : c f svs m0 = some r) : Fin c (fun c => c f svs m0) r :=
 ⟨[((f, svs, m0), r)], fun p hp => by simp at hp; subst hp; exact h, fun c' hc => hc ((f, svs, m0), r) (by simp)⟩
theorem zn {dst : Option Nat} {dr now : Bool} {old : List SV → Bool} {f : FuncId} {args : List SV} {r : SV × St} (h : h_ S c dst dr now old f args st = some r) : Fin c (fun c => h_ S c dst dr now old f args st) r := by
 have h0 := h
 unfold h_ at h
 split at h
 ·rename_i hk
  split at h
  ·rename_i hn
   split at h
   ·rename_i ho
    split at h
    ·rename_i as hs
     split at h
     ·rename_i hl
      split at h
      ·rename_i rs m' hc
       refine (Fin.call hc).bind (fun c' q => h_ S c dst dr now old f args st) (.pure fun _ => h0) (fun c' hc' => ?_)
       unfold h_
       simp only [hk, hn, ho, if_true, hs, hl, hc, hc']
      ·simp at h
     ·simp at h
    ·simp at h
   ·rename_i ho
    split at h
    ·simp at h
    ·rename_i hd
     split at h
     ·rename_i os hh
      split at h
      ·rename_i rs m' hc
       refine (Fin.call hc).bind (fun c' q => h_ S c dst dr now old f args st) (.pure fun _ => h0) (fun c' hc' => ?_)
       unfold h_
       simp only [hk, hn, ho, if_true, hd, hh, hc, hc', Bool.false_eq_true, if_false]
      ·simp at h
     ·simp at h
  ·simp at h
 ·rename_i hk
  split at h
  ·rename_i as hs
   split at h
   ·rename_i hl
    split at h
    ·rename_i rs m' hc
     refine (Fin.call hc).bind (fun c' q => h_ S c dst dr now old f args st) (.pure fun _ => h0) (fun c' hc' => ?_)
     unfold h_
     simp only [hk, if_false, hs, hl, if_true, hc, hc', Bool.false_eq_true]
    ·simp at h
   ·simp at h
  ·simp at h
theorem Ig {dr : Bool} {fr : List Nat} {o : RO} {r : SV × St} (h : kn S c dr fr o st = some r) : Fin c (fun c => kn S c dr fr o st) r := by
 have h0 := h
 unfold kn at h
 split at h
 ·rename_i svs hs
  split at h
  ·refine .pure fun c' => ?_
   have h1 := h0
   unfold kn at h1 ⊢
   rename_i hk
   simp only [hs, hk] at h1 ⊢
   exact h1
  ·refine .pure fun c' => ?_
   have h1 := h0
   unfold kn at h1 ⊢
   rename_i hne hk
   simp only [hs, hk] at h1 ⊢
   exact h1
  ·refine .pure fun c' => ?_
   have h1 := h0
   unfold kn at h1 ⊢
   rename_i hk
   simp only [hs, hk] at h1 ⊢
   exact h1
  ·refine .pure fun c' => ?_
   have h1 := h0
   unfold kn at h1 ⊢
   rename_i hk
   simp only [hs, hk] at h1 ⊢
   exact h1
  ·refine .pure fun c' => ?_
   have h1 := h0
   unfold kn at h1 ⊢
   rename_i hk
   simp only [hs, hk] at h1 ⊢
   exact h1
  ·rename_i hk
   split at h
   ·refine (zn h).bind (fun _ q => some q) (.pure fun _ => rfl) (fun c' hc' => ?_)
    unfold kn
    simp only [hs, hk, hc']
   ·refine (zn h).bind (fun _ q => some q) (.pure fun _ => rfl) (fun c' hc' => ?_)
    unfold kn
    simp only [hs, hk, hc']
   ·simp at h
 ·simp at h
theorem HG {dr : Bool} {fr : List Nat} {o : RO} {r : St} (h : e9 S c dr fr o st = some r) : Fin c (fun c => e9 S c dr fr o st) r := by
 have h0 := h
 unfold e9 at h
 split at h
 ·rename_i hw
  split at h
  ·rename_i id vs hy
   refine .pure fun c' => ?_
   unfold e9
   simp only [hw, hy]
   exact h
  ·rename_i hy
   obtain ⟨q, hq, e⟩ := Option.map_eq_some_iff.1 h
   refine (Ig hq).bind (fun _ q => some (c_ q.2 o.dst q.1)) (.pure fun _ => by rw [← e]) (fun c' hc' => ?_)
   unfold e9
   simp only [hw, hy, hc', Option.map_some]
 ·rename_i hw
  refine .pure fun c' => ?_
  unfold e9
  simp only [hw]
  exact h
 ·simp at h
theorem vE {dr : Bool} : ∀ {l : List RO} {fr : List Nat} {st r : St}, jC S c dr fr l st = some r → Fin c (fun c => jC S c dr fr l st) r
 | [], fr, st, r, h => .pure fun _ => h
 | o :: l, fr, st, r, h => by
  simp only [jC] at h
  split at h
  ·rename_i st1 hs
   obtain ⟨stg, hg, hs⟩ := Option.bind_eq_some_iff.1 hs
   exact (HG hs).bind (fun c' q => jC S c' dr (if dr then lY fr o.strip else fr) l (lB o.dead q)) (vE h) (fun c' hc' => by simp only [jC, hg, Option.bind_some, hc'])
  ·simp at h
theorem zb {f : b_ → St → Option (Out × St)} (hf : ∀ st r, f c st = some r → Fin c (fun c => f c st) r) : ∀ {k : Nat} {st : St} {r : Out × St}, gx (f c) k st = some r → Fin c (fun c => gx (f c) k st) r
 | 0, st, r, h => by simp [gx] at h
 | k + 1, st, r, h => by
  simp only [gx] at h
  split at h
  ·rename_i st1 hs
   exact (hf st _ hs).bind (fun c' q => gx (f c') k st1) (zb hf h) (fun c' hc' => by simp only [gx, hc'])
  ·rename_i hs
   refine (hf st r h).bind (fun _ q => some q) (.pure fun _ => rfl) (fun c' hc' => ?_)
   obtain ⟨o, st'⟩ := r
   simp only [gx, hc']
   cases o <;> first | exact absurd h (hs st') | rfl
theorem zk {f : b_ → List V → Tb aE → Option (Out × Tb aE)} (hf : ∀ x m r, f c x m = some r → Fin c (fun c => f c x m) r) : ∀ {xs : List (List V)} {m : Tb aE} {r : Out × Tb aE}, kC (f c) xs m = some r → Fin c (fun c => kC (f c) xs m) r
 | [], m, r, h => .pure fun _ => h
 | x :: xs, m, r, h => by
  simp only [kC] at h
  split at h
  ·rename_i m1 hs
   exact (hf x m _ hs).bind (fun c' q => kC (f c') xs m1) (zk hf h) (fun c' hc' => by simp only [kC, hc'])
  ·rename_i hs
   refine (hf x m r h).bind (fun _ q => some q) (.pure fun _ => rfl) (fun c' hc' => ?_)
   obtain ⟨o, st'⟩ := r
   simp only [kC, hc']
   cases o <;> first | exact absurd h (hs st') | rfl
theorem Em : ∀ {rc : RC} {st : St} {r : Out × St}, aX S c rc st = some r → Fin c (fun c => aX S c rc st) r := by
 intro rc
 induction rc with
 | skip => exact fun h => .pure fun _ => h
 | exit id => exact fun h => .pure fun _ => h
 | ret => exact fun h => .pure fun _ => h
 | ops l =>
  intro st r h
  simp only [aX] at h ⊢
  obtain ⟨q, hq, e⟩ := Option.map_eq_some_iff.1 h
  exact (vE hq).bind (fun _ q => some (.norm, q)) (.pure fun _ => by rw [← e]) (fun c' hc' => by simp only [hc', Option.map_some])
 | reg l =>
  intro st r h
  simp only [aX] at h ⊢
  obtain ⟨q, hq, e⟩ := Option.map_eq_some_iff.1 h
  exact (vE hq).bind (fun _ q => some (.norm, q)) (.pure fun _ => by rw [← e]) (fun c' hc' => by simp only [hc', Option.map_some])
 | seq a b iha ihb =>
  intro st r h
  simp only [aX] at h ⊢
  split at h
  ·rename_i st1 hs
   exact (iha hs).bind (fun c' q => aX S c' b st1) (ihb h) (fun c' hc' => by simp only [hc'])
  ·rename_i hs
   refine (iha h).bind (fun _ q => some q) (.pure fun _ => rfl) (fun c' hc' => ?_)
   obtain ⟨o, st'⟩ := r
   simp only [hc']
   cases o <;> first | exact absurd h (hs st') | rfl
 | cond x a b iha ihb =>
  intro st r h
  simp only [aX] at h ⊢
  split at h
  ·rename_i t ht
   split at h
   ·rename_i hb; simp only [hb, if_true]; exact iha h
   ·rename_i hb; simp only [hb]; exact ihb h
  ·simp at h
 | block id a iha =>
  intro st r h
  simp only [aX] at h ⊢
  split at h
  ·rename_i id2 st1 hs
   exact (iha hs).bind (fun c' q => if id2 = id then some (.norm, st1) else some (.exit id2, st1)) (.pure fun _ => h) (fun c' hc' => by simp only [hc'])
  ·rename_i hs
   refine (iha h).bind (fun _ q => some q) (.pure fun _ => rfl) (fun c' hc' => ?_)
   obtain ⟨o, st'⟩ := r
   simp only [hc']
   cases o <;> first | exact absurd h (hs _ st') | rfl
 | loop a iha =>
  intro st r h
  simp only [aX] at h ⊢
  obtain ⟨k, hk⟩ := jt.1 h
  refine (zb (f := fun c => aX S c a) (fun st r h => iha h) hk).bind (fun _ q => some q) (.pure fun _ => rfl) (fun c' hc' => ?_)
  exact jt.2 ⟨k, hc'⟩
 | each g ps a b iha ihb =>
  intro st r h
  simp only [aX] at h ⊢
  split at h
  ·rename_i f x y hs
   split at h
   ·rename_i xs hi
    obtain ⟨q, hq, e⟩ := Option.map_eq_some_iff.1 h
    refine (zk (f := fun c => gl ps (aX S c a) (aX S c b) st) (fun z m r h => ?_) hq).bind (fun _ q => some (q.1, { st with m := q.2 })) (.pure fun _ => by rw [← e]) (fun c' hc' => by simp only [hc', Option.map_some])
    unfold gl at h
    split at h
    ·rename_i hl
     split at h
     ·rename_i st1 h1
      obtain ⟨q2, hq2, e2⟩ := Option.map_eq_some_iff.1 h
      refine (iha h1).bind (fun c' q => (aX S c' b st1).map fun (o, st2) => (o, st2.m)) ((ihb hq2).bind (fun _ q => some (q.1, q.2.m)) (.pure fun _ => by rw [← e2]) (fun c' hc' => by simp only [hc', Option.map_some])) (fun c' hc' => ?_)
      unfold gl
      simp only [if_pos hl, hc']
     ·simp at h
    ·simp at h
   ·simp at h
  ·simp at h
 | gh x a iha =>
  intro st r h
  simp only [aX] at h ⊢
  obtain ⟨st1, h1, h2⟩ := Option.bind_eq_some_iff.1 h
  rw [h1]
  exact iha h2
 | hg a x iha =>
  intro st r h
  simp only [aX] at h ⊢
  split at h
  ·rename_i st1 hs
   exact (iha hs).bind (fun c' q => (ghost x st1).map fun st => (.norm, st)) (.pure fun _ => h) (fun c' hc' => by simp only [hc'])
  ·rename_i hs
   refine (iha h).bind (fun _ q => some q) (.pure fun _ => rfl) (fun c' hc' => ?_)
   obtain ⟨o, st'⟩ := r
   simp only [hc']
   cases o <;> first | exact absurd h (hs st') | rfl
theorem tD {rf : RF} {svs : List SV} {m0 : gr} {r : List SV × gr} (h : mO S c rf svs m0 = some r) : Fin c (fun c => mO S c rf svs m0) r := by
 have h0 := h
 unfold mO at h
 split at h
 ·rename_i hl
  split at h
  ·simp at h
  ·rename_i o st hne hs
   refine (Em hs).bind (fun c' q => mO S c rf svs m0) (.pure fun _ => h0) (fun c' hc' => ?_)
   unfold mO
   simp only [if_pos hl, hc', hs]
  ·simp at h
 ·simp at h
theorem xR : ∀ {n : Nat} {f : FuncId} {svs : List SV} {m0 : gr} {r : List SV × gr}, iO S T n f svs m0 = some r → iO S T (n + 1) f svs m0 = some r
 | 0, f, svs, m0, r, h => by simp [iO] at h
 | n + 1, f, svs, m0, r, h => by
  simp only [iO] at h
  rw [iO]
  split at h
  ·rename_i rf hrf
   obtain ⟨L, h1, h2⟩ := tD h
   simp only [hrf]
   exact h2 _ fun p hp => xR (h1 p hp)
  ·rename_i hrf
   simp only [hrf]
   exact h
theorem vP {n k : Nat} (h : n ≤ k) {f : FuncId} {svs : List SV} {m0 : gr} {r : List SV × gr} (hn : iO S T n f svs m0 = some r) : iO S T k f svs m0 = some r := by
 induction h with
 | refl => exact hn
 | step _ ih => exact xR ih
open Classical in
noncomputable def ah (S : Sys) (T : az) : b_ := fun f svs m0 => if h : ∃ n r, iO S T n f svs m0 = some r then some (Classical.choose (Classical.choose_spec h)) else none
theorem mz {f : FuncId} {svs : List SV} {m0 : gr} {r : List SV × gr} : ah S T f svs m0 = some r ↔ ∃ n, iO S T n f svs m0 = some r := by
 unfold ah
 constructor
 ·intro h
  split at h
  ·rename_i hx
   simp only [Option.some.injEq] at h
   exact ⟨_, by rw [← h]; exact Classical.choose_spec (Classical.choose_spec hx)⟩
  ·simp at h
 ·rintro ⟨k, hk⟩
  have hx : ∃ n r, iO S T n f svs m0 = some r := ⟨k, r, hk⟩
  rw [dif_pos hx]
  have h2 := Classical.choose_spec (Classical.choose_spec hx)
  have h3 := vP (Nat.le_max_left (Classical.choose hx) k) h2
  have h4 := vP (Nat.le_max_right (Classical.choose hx) k) hk
  rw [h3] at h4; exact h4
theorem CS {L : Cw} (h : xM (ah S T) L) : ∃ n, ∀ k, n ≤ k → xM (iO S T k) L := by
 induction L with
 | nil => exact ⟨0, fun k _ p hp => by simp at hp⟩
 | cons q L ih =>
  obtain ⟨n1, h1⟩ := mz.1 (h q (by simp))
  obtain ⟨n2, h2⟩ := ih fun p hp => h p (List.mem_cons_of_mem _ hp)
  refine ⟨max n1 n2, fun k hk p hp => ?_⟩
  rcases List.mem_cons.1 hp with rfl | hp
  ·exact vP (Nat.le_trans (Nat.le_max_left _ _) hk) h1
  ·exact h2 k (Nat.le_trans (Nat.le_max_right _ _) hk) p hp
theorem DL {f : FuncId} {as : List V} {y : V} (hT : T f = none) (hk : S.E.keep f = false) (h : S.vg f as = some y) : ah S T f (as.map .v) [] = some ([.v y], []) := by
 refine mz.2 ⟨1, ?_⟩
 have ha : d6 (as.map .v) = some as := by
  clear h
  induction as with
  | nil => rfl
  | cons a l ih => simp only [List.map_cons, d6, ih]; rfl
 simp only [iO, hT, FD, hk, ha, h]
 rfl
theorem FB {f : FuncId} {rf : RF} (hT : T f = some rf) (svs : List SV) (m0 : gr) : ah S T f svs m0 = mO S (ah S T) rf svs m0 := by
 cases h : mO S (ah S T) rf svs m0 with
 | some r =>
  obtain ⟨L, h1, h2⟩ := tD h
  obtain ⟨n, hn⟩ := CS h1
  refine mz.2 ⟨n + 1, ?_⟩
  simp only [iO, hT]
  exact h2 _ (hn n (Nat.le_refl _))
 | none =>
  cases h2 : ah S T f svs m0 with
  | none => rfl
  | some r =>
   obtain ⟨n, hn⟩ := mz.1 h2
   cases n with
   | zero => simp [iO] at hn
   | succ n =>
    simp only [iO, hT] at hn
    obtain ⟨L, h3, h4⟩ := tD hn
    have h5 := h4 (ah S T) fun p hp => mz.2 ⟨n, h3 p hp⟩
    dsimp only at h5
    rw [h5] at h; cases h
theorem By (hT : uJ S T) (hI : ∀ f a b xs, S.items f a b = some xs → gM S f a b xs) : iL S (ah S T) := fun f svs m0 rs m1 h => by
 obtain ⟨n, hn⟩ := mz.1 h
 exact vt hT hI n f svs m0 rs m1 hn
theorem Hv (hS : iL S c) {f : FuncId} {fi : FI} {nm : FuncId → Option Nat} {rf : RF} (hI : ∀ f a b xs, S.items f a b = some xs → gM S f a b xs) (hft : S.E.ft f = some fi) (hN : ∀ g s, nm g = some s → S.N s = g) (hr : bD S.E nm fi rf) {a b : List V} {xs : List (List V)}
 (hlen : a.length + 1 + b.length ≤ rf.na) (hrs : rf.rs = [])
 (h : ∀ ws more, (more = true ∧ ws = xs ∨ more = false ∧ ws ≠ [] ∧ ∃ r, xs = ws ++ r) → ∀ yid, ∃ o st', aX S c rf.body { g := q_ 0 (a.map .v ++ .yl yid :: b.map .v), m := [], pin := [], want := ws, more := more, yid := yid } = some (o, st') ∧ (∀ id, o ≠ .exit id) ∧ st'.want = [] ∧ st'.m = st'.m) :
 gM S f a b xs := by
 intro ws more hw yid J y Z a' b' H ha hb hz hd j
 obtain ⟨o, st', h1, h2, h3, _⟩ := h ws more hw yid
 obtain ⟨hc, hrr, hna⟩ := hr
 have hl : aU (fun _ => (0, 0)) [] H Z (a.map .v ++ .yl yid :: b.map .v) (a' ++ .yld yid :: b') := (aU.oc ha).append (.cons (.yl yid) (aU.oc hb))
 have r0 : R (fun _ => (0, 0)) Z { g := q_ 0 (a.map .v ++ .yl yid :: b.map .v), m := [], pin := [], want := ws, more := more, yid := yid } (a' ++ .yld yid :: b') H :=
  ⟨rm hl, fun d ob h => by simp [aj] at h, fun d d' ob ob' h => by simp [aj] at h, fun d ob h => by simp [aj] at h, hz, hd⟩
 obtain ⟨n, F', H', ν', Z', e1, e2, e3, e4⟩ := Cg (X := ⟨S.E, nm, fi.ntmps⟩) ⟨rfl, hN⟩ hS hI rf.body false fi.body hc _ _ _ h1 J _ Z _ H y r0 (by
  refine y.qU _ _ _ _ _ _ _ j (Nat.le_refl _) (fun _ _ _ _ => rfl) (fun i hi => ⟨hi, rfl⟩) (fun i hi => ?_) (fun i hi => .inl hi)
  obtain ⟨d, ob, h, _⟩ := hi
  simp [aj] at h)
 rw [h3] at e3
 rw [hrs] at hrr
 obtain ⟨ys, p1, p2⟩ := uz (nm := nm) (rs := []) (l := []) e2 hrr rfl
 refine ⟨n + 1, result ys, H', _, Z', fun k hk => ?_, e3⟩
 have hargs : (a' ++ V.yld yid :: b').length ≤ fi.ntmps := by rw [← hl.1, ← hna]; simp; omega
 cases k with
 | zero => omega
 | succ k =>
  simp only [run, hft, if_pos hargs, e1 k (by omega)]
  cases o with
  | exit id => exact absurd rfl (h2 id)
  | norm => simp only [p1, Option.map_some]
  | ret => simp only [p1, Option.map_some]
theorem Hy (hT : uJ S T) (hI : ∀ f a b xs, S.items f a b = some xs → gM S f a b xs) {f : FuncId} {as : List V} (hg : V.bK as = true) {y : V} {m' : gr} (h : ah S T f (as.map .v) [] = some ([.v y], m')) (hy : y.scalar = true) :
 ∃ n H', run S.E n (.fn f) as [] = some (y, H') := by
 obtain ⟨r0, r1⟩ := tv hg
 obtain ⟨n, y', H2, ν', Z', st', F', zs, h1, rfl, h3, h4, h5, _⟩ := By hT hI f _ _ _ _ h _ _ as [] (.inr rfl) r0 r1
 obtain ⟨z, zs, rfl, e1, e2⟩ := h4.inv
 rw [e2.ct] at h1
 have := (e1.fr.scalar).1 hy
 subst this
 exact ⟨n, H2, h1⟩
end
end Go.VE
