/-
  The second layer, part 2: texts, calls, iterators.
-/
import Derived.Test.YtnfakljmdnbipaaN1
set_option linter.all false
namespace Go.VE
def numS : Nat → List SV → Tb SV
  | _, [] => []
  | i, v :: vs => (i, v) :: numS (i + 1) vs
def start (svs : List SV) (m0 : Objs) : St := ⟨numS 0 svs, m0, m0.map (·.1), [], true, 0⟩
def SoundC (S : Sys) (c : CallS) : Prop :=
  ∀ f svs m0 rs m1, c f svs m0 = some (rs, m1) → ∀ (ν : Nu) (Z : Nat → Prop) (args : List V) (H : Heap), (S.E.keep f = true ∨ H = []) → R ν Z (start svs m0) args H → SVRL ν m0 H Z svs args →
    ∃ n y H' ν' Z' st' F' ys, run S.E n (.fn f) args H = some (y, H') ∧ y = result ys ∧ st'.m = m1 ∧ SVRL ν' m1 H' Z' rs ys ∧ R ν' Z' st' F' H' ∧ Ev (fun _ => False) ν Z (start svs m0) H ν' Z' st' H'
section
variable {Rv : Nat → Prop} {ν ν' : Nu} {Z Z' : Nat → Prop} {st st' : St} {m m' : Tb SOb} {F F' : Frame} {H H' H1 : Heap} {N : Nat → FuncId}
mutual
theorem scalar_good : ∀ {x : V}, x.scalar = true → x.good = true
  | .bool _, _ | .int .., _ | .str _, _ | .nptr, _ | .nmap, _ | .nfn, _ | .esl, _ | .nsl, _ => rfl
  | .agg cs, h => by simp only [V.scalar] at h; simp only [V.good]; exact scalarL_good h
  | .tup cs, h => by simp only [V.scalar] at h; simp only [V.good]; exact scalarL_good h
  | .fsl .., h | .hsl .., h | .fptr .., h | .hptr .., h | .clo .., h | .yld _, h | .fmap _, h | .hmap _, h => by simp [V.scalar] at h
theorem scalarL_good : ∀ {l : List V}, V.scalarL l = true → V.goodL l = true
  | [], _ => rfl
  | x :: r, h => by
    simp only [V.scalarL, Bool.and_eq_true] at h
    simp only [V.goodL, Bool.and_eq_true]
    exact ⟨scalar_good h.1, scalarL_good h.2⟩
end
theorem slV_good {k : Fl} {es : Nat} {xs : List (List V)} {d : Nat} (o : ObR ν m H Z d (.sl k es xs)) : (slV k es xs).good = true := by
  by_cases hk : rowLike k = true
  · simp only [ObR, hk, if_true] at o
    obtain ⟨ys, _, _, hf, _⟩ := o
    have e : slV k es xs = .fsl es xs := by cases k <;> simp [rowLike] at hk <;> rfl
    rw [e]; simp only [V.good]; exact hf.good
  · cases k <;> simp [rowLike] at hk <;> rfl
mutual
theorem shut_good (ho : ∀ d ob, tget m d = some ob → ObR ν m H Z d ob) : ∀ (n : Nat) (sv : SV) (x y : V), shut m n sv = some x → SVR ν m H Z sv y → x.good = true
  | n, .v x, z, y, h, r => by simp only [shut, Option.some.injEq] at h; subst h; exact r.fr.good
  | n, .own d, z, y, h, r => by
    simp only [shut] at h
    split at h
    · rename_i k es xs hob
      simp only [Option.some.injEq] at h; subst h
      exact slV_good (ho d _ hob)
    · simp at h
  | 0, .ptr d o, z, y, h, r => by simp [shut] at h
  | n + 1, .ptr d o, z, y, h, r => by
    simp only [shut] at h
    split at h
    · rename_i cs hob
      split at h
      · rename_i xs hx
        split at h
        · simp only [Option.some.injEq] at h; subst h
          obtain ⟨es, cs', _, hc, _⟩ := ho d _ hob
          simp only [V.good]
          exact goodL_drop _ (shutL_good ho n cs xs cs' hx hc)
        · simp at h
      · simp at h
    · simp at h
  | n, .el d i o, z, y, h, r => by cases n <;> simp [shut] at h
  | n, .yl id, z, y, h, r => by cases n <;> simp [shut] at h
  | n, .mp d, z, y, h, r => by
    simp only [shut] at h
    split at h
    · rename_i kvs hob
      simp only [Option.some.injEq] at h; subst h
      obtain ⟨kvs', _, hk⟩ := ho d _ hob
      simp only [V.good]
      refine goodM_iff.2 fun j u hu => ?_
      have hj : j < kvs'.length := by rw [← hk.1]; exact (List.getElem?_eq_some_iff.1 hu).1
      obtain ⟨⟨_, h1⟩, h2⟩ := hk.2 j u _ hu (List.getElem?_eq_getElem hj)
      exact ⟨scalar_good h1, h2.good⟩
    · simp at h
  | 0, .clo f a b, z, y, h, r => by simp [shut] at h
  | n + 1, .clo f a b, z, y, h, r => by
    simp only [shut] at h
    split at h
    · rename_i x1 x2 h1 h2
      simp only [Option.some.injEq] at h; subst h
      obtain ⟨a', b', rfl, ra, rb⟩ := r.clo_inv
      simp only [V.good, Bool.and_eq_true]
      exact ⟨shutL_good ho n a x1 a' h1 ra, shutL_good ho n b x2 b' h2 rb⟩
    · simp at h
  | 0, .tup l, z, y, h, r => by simp [shut] at h
  | n + 1, .tup l, z, y, h, r => by
    simp only [shut] at h
    obtain ⟨xs, h1, rfl⟩ := Option.map_eq_some_iff.1 h
    obtain ⟨l', rfl, rl⟩ := r.tup_inv
    simp only [V.good]
    exact shutL_good ho n l xs l' h1 rl
theorem shutL_good (ho : ∀ d ob, tget m d = some ob → ObR ν m H Z d ob) : ∀ (n : Nat) (svs : List SV) (xs ys : List V), shutL m n svs = some xs → SVRL ν m H Z svs ys → V.goodL xs = true
  | n, [], xs, ys, h, r => by simp only [shutL, Option.some.injEq] at h; subst h; rfl
  | n, sv :: svs, xs, ys, h, r => by
    simp only [shutL] at h
    split at h
    · rename_i y s h1 h2
      simp only [Option.some.injEq] at h; subst h
      obtain ⟨y', ys', rfl, r1, r2⟩ := r.inv
      simp only [V.goodL, Bool.and_eq_true]
      exact ⟨shut_good ho n sv y y' h1 r1, shutL_good ho n svs s ys' h2 r2⟩
    · simp at h
end
theorem mapKV_of {f : V → Option V} : ∀ {xs ys : List (V × V)}, xs.length = ys.length → (∀ (j : Nat) u v, xs[j]? = some u → ys[j]? = some v → f v.1 = some u.1 ∧ f v.2 = some u.2) → mapKV f ys = some xs
  | [], [], _, _ => rfl
  | [], y :: ys, h, _ => by simp at h
  | x :: xs, [], h, _ => by simp at h
  | (a, b) :: xs, (c, d) :: ys, h, hf => by
    obtain ⟨h1, h2⟩ := hf 0 _ _ rfl rfl
    simp only at h1 h2
    simp only [mapKV, h1, h2, mapKV_of (xs := xs) (ys := ys) (by simpa using h) fun j u v hu hv => hf (j + 1) u v (by simpa using hu) (by simpa using hv)]
theorem lvlM_iff : ∀ {l : List (V × V)} {n : Nat}, V.lvlM n l = true ↔ ∀ (j : Nat) u, l[j]? = some u → u.1.lvl n = true ∧ u.2.lvl n = true
  | [], n => by simp [V.lvlM]
  | (k, x) :: l, n => by
    simp only [V.lvlM, Bool.and_eq_true, lvlM_iff (l := l)]
    constructor
    · rintro ⟨h1, h2⟩ j u hu
      cases j with
      | zero => simp at hu; subst hu; exact h1
      | succ j => exact h2 j u (by simpa using hu)
    · intro h
      exact ⟨h 0 (k, x) rfl, fun j u hu => h (j + 1) u (by simpa using hu)⟩
theorem closed_eq {n : Nat} {xs ys : List V} (hm : mapO (borrow n H1) ys = some xs) (hcl : V.closedL ys = true) : ys = xs := by
  have h2 := mapO_of (f := borrow n H1) (xs := ys) (ys := ys) rfl fun j u v hu hv => by rw [hu] at hv; cases hv; exact borrow_self n H1 (closedL_iff.1 hcl j u hu)
  rw [hm] at h2; cases h2; rfl
mutual
theorem shut_borrow {fr : List Nat} (hfr : ∀ d ∈ fr, ∀ e ob, tget m e = some ob → ob.says d = false) (ho : ∀ d ob, tget m d = some ob → d ∉ fr → ObR ν m H1 Z d ob) :
    ∀ (n : Nat) (sv : SV) (x y : V), shut m n sv = some x → (∀ d ∈ fr, sv.says d = false) → SVR ν m H1 Z sv y → ∀ k, x.lvl k = true → borrow k H1 y = some x
  | n, .v x, z, y, h, hn, r, k, hk => by simp only [shut, Option.some.injEq] at h; subst h; exact r.fr.borrow k hk
  | n, .own d, z, y, h, hn, r, k, hk => by
    simp only [shut] at h
    split at h
    · rename_i fl es xs hob
      simp only [Option.some.injEq] at h; subst h
      obtain ⟨_, _, _, e, rfl⟩ := r.own_inv hob
      cases e
      have hd : d ∉ fr := fun hd => by have := hn d hd; simp [SV.says] at this
      have o := ho d _ hob hd
      by_cases hkk : rowLike fl = true
      · simp only [ObR, hkk, if_true] at o
        obtain ⟨ys, hr, hl, hf, _⟩ := o
        rw [slA_row hkk]
        have e : slV fl es xs = .fsl es xs := by cases fl <;> simp [rowLike] at hkk <;> rfl
        rw [e] at hk ⊢
        exact (FR.ofHsl (Z := fun _ => True) trivial (show rowsAt H1 (ν d).1 = some (es, ys) by unfold rowsAt; rw [hr]; rfl) hl (hf.mono fun id h => ⟨trivial, rfl⟩)).borrow k hk
      · cases fl <;> simp [rowLike] at hkk
        · exact borrow_self k H1 rfl
        · exact borrow_self k H1 rfl
    · simp at h
  | 0, .ptr d o, z, y, h, hn, r, k, hk => by simp [shut] at h
  | n + 1, .ptr d o, z, y, h, hn, r, k, hk => by
    simp only [shut] at h
    split at h
    · rename_i cs hob
      split at h
      · rename_i xs hx
        split at h
        · rename_i hle
          simp only [Option.some.injEq] at h; subst h
          obtain ⟨_, e, rfl⟩ := r.ptr_inv hob
          cases e
          have hd : d ∉ fr := fun hd => by have := hn d hd; simp [SV.says] at this
          obtain ⟨es, cs', hr, hc, _⟩ := ho d _ hob hd
          cases k with
          | zero => simp [V.lvl] at hk
          | succ k =>
            simp only [V.lvl] at hk
            have hns : ∀ e ∈ fr, SV.saysL e (cs.drop o) = false := fun e he => by
              have := hfr e he d _ hob
              simp only [SOb.says] at this
              cases hh : SV.saysL e (cs.drop o) with
              | false => rfl
              | true =>
                exfalso
                have : ∀ {l : List SV} {j : Nat}, SV.saysL e (l.drop j) = true → SV.saysL e l = true := by
                  intro l
                  induction l with
                  | nil => intro j h; simpa using h
                  | cons a l ih => intro j h; cases j with
                    | zero => simpa using h
                    | succ j => simp only [SV.saysL, Bool.or_eq_true]; exact .inr (ih (by simpa using h))
                rw [this hh] at *; simp_all
            have hlen : xs.length = cs.length := by
              have : ∀ {l : List SV} {r : List V}, shutL m n l = some r → r.length = l.length := by
                intro l
                induction l with
                | nil => intro r h; simp only [shutL, Option.some.injEq] at h; subst h; rfl
                | cons a l ih =>
                  intro r h
                  simp only [shutL] at h
                  split at h
                  · rename_i h1 h2; simp only [Option.some.injEq] at h; subst h; simp [ih h2]
                  · simp at h
              exact this hx
            have hxd : shutL m n (cs.drop o) = some (xs.drop o) := by
              have : ∀ {l : List SV} {r : List V} {j : Nat}, shutL m n l = some r → shutL m n (l.drop j) = some (r.drop j) := by
                intro l
                induction l with
                | nil => intro r j h; simp only [shutL, Option.some.injEq] at h; subst h; simp [shutL]
                | cons a l ih =>
                  intro r j h
                  have h0 := h
                  simp only [shutL] at h
                  split at h
                  · rename_i h1 h2
                    simp only [Option.some.injEq] at h; subst h
                    cases j with
                    | zero => exact h0
                    | succ j => exact ih h2
                  · simp at h
              exact this hx
            have hb := shutL_borrow hfr ho n (cs.drop o) (xs.drop o) (cs'.drop o) hxd hns (hc.drop o) k hk
            unfold borrow
            simp only [V.closed, Bool.false_eq_true, if_false, hr, Option.bind_some, Ob.rows, List.getElem?_cons_zero, if_pos (show o ≤ cs'.length by rw [← hc.1, ← hlen]; exact hle), hb, Option.map_some]
        · simp at h
      · simp at h
    · simp at h
  | n, .el d i o, z, y, h, hn, r, k, hk => by cases n <;> simp [shut] at h
  | n, .yl id, z, y, h, hn, r, k, hk => by cases n <;> simp [shut] at h
  | n, .mp d, z, y, h, hn, r, k, hk => by
    simp only [shut] at h
    split at h
    · rename_i kvs hob
      simp only [Option.some.injEq] at h; subst h
      obtain ⟨_, e, rfl⟩ := r.mp_inv hob
      cases e
      have hd : d ∉ fr := fun hd => by have := hn d hd; simp [SV.says] at this
      obtain ⟨kvs', hr, hkv⟩ := ho d _ hob hd
      cases k with
      | zero => simp [V.lvl] at hk
      | succ k =>
        simp only [V.lvl] at hk
        unfold borrow
        simp only [V.closed, Bool.false_eq_true, if_false, hr]
        rw [mapKV_of (xs := kvs) (ys := kvs') hkv.1 fun j u v hu hv => ?_]
        · rfl
        · obtain ⟨⟨e1, e2⟩, e3⟩ := hkv.2 j u v hu hv
          exact ⟨by rw [← e1]; exact borrow_self k H1 (V.good_closed (scalar_good e2)), e3.borrow k (lvlM_iff.1 hk j u hu).2⟩
    · simp at h
  | 0, .clo f a b, z, y, h, hn, r, k, hk => by simp [shut] at h
  | n + 1, .clo f a b, z, y, h, hn, r, k, hk => by
    simp only [shut] at h
    split at h
    · rename_i x1 x2 h1 h2
      simp only [Option.some.injEq] at h; subst h
      obtain ⟨a', b', rfl, ra, rb⟩ := r.clo_inv
      cases k with
      | zero => simp [V.lvl] at hk
      | succ k =>
        simp only [V.lvl, Bool.and_eq_true] at hk
        have hb1 := shutL_borrow hfr ho n a x1 a' h1 (fun d hd => by have := hn d hd; simp only [SV.says, Bool.or_eq_false_iff] at this; exact this.1) ra k hk.1
        have hb2 := shutL_borrow hfr ho n b x2 b' h2 (fun d hd => by have := hn d hd; simp only [SV.says, Bool.or_eq_false_iff] at this; exact this.2) rb k hk.2
        by_cases hcl : (V.clo f a' b').closed = true
        · rw [borrow_self _ _ hcl]
          simp only [V.closed, Bool.and_eq_true] at hcl
          rw [closed_eq hb1 hcl.1, closed_eq hb2 hcl.2]
        · unfold borrow
          rw [if_neg hcl]
          simp only [hb1, hb2]
    · simp at h
  | 0, .tup l, z, y, h, hn, r, k, hk => by simp [shut] at h
  | n + 1, .tup l, z, y, h, hn, r, k, hk => by
    simp only [shut] at h
    obtain ⟨xs, h1, rfl⟩ := Option.map_eq_some_iff.1 h
    obtain ⟨l', rfl, rl⟩ := r.tup_inv
    cases k with
    | zero => simp [V.lvl] at hk
    | succ k =>
      simp only [V.lvl] at hk
      have hb1 := shutL_borrow hfr ho n l xs l' h1 (fun d hd => by have := hn d hd; simpa [SV.says] using this) rl k hk
      by_cases hcl : (V.tup l').closed = true
      · rw [borrow_self _ _ hcl]
        simp only [V.closed] at hcl
        rw [closed_eq hb1 hcl]
      · unfold borrow
        rw [if_neg hcl]
        simp only [hb1, Option.map_some]
theorem shutL_borrow {fr : List Nat} (hfr : ∀ d ∈ fr, ∀ e ob, tget m e = some ob → ob.says d = false) (ho : ∀ d ob, tget m d = some ob → d ∉ fr → ObR ν m H1 Z d ob) :
    ∀ (n : Nat) (svs : List SV) (xs ys : List V), shutL m n svs = some xs → (∀ d ∈ fr, SV.saysL d svs = false) → SVRL ν m H1 Z svs ys → ∀ k, V.lvlL k xs = true → mapO (borrow k H1) ys = some xs
  | n, [], xs, ys, h, hn, r, k, hk => by simp only [shutL, Option.some.injEq] at h; subst h; rw [r.inv0]; rfl
  | n, sv :: svs, xs, ys, h, hn, r, k, hk => by
    simp only [shutL] at h
    split at h
    · rename_i y s h1 h2
      simp only [Option.some.injEq] at h; subst h
      obtain ⟨y', ys', rfl, r1, r2⟩ := r.inv
      simp only [V.lvlL, Bool.and_eq_true] at hk
      have b1 := shut_borrow hfr ho n sv y y' h1 (fun d hd => by have := hn d hd; simp only [SV.saysL, Bool.or_eq_false_iff] at this; exact this.1) r1 k hk.1
      have b2 := shutL_borrow hfr ho n svs s ys' h2 (fun d hd => by have := hn d hd; simp only [SV.saysL, Bool.or_eq_false_iff] at this; exact this.2) r2 k hk.2
      simp only [mapO, b1, b2]
    · simp at h
end
end
end Go.VE
namespace Go.VE
def callPart (E : Env) (call : CallF) (ops : List Oper) (place : Option (Nat × Nat)) (f : FuncId) (args : List V) (H : Heap) : Option (V × Heap) :=
  if E.keep f then
    match place with
    | none => dirCall E call f args H
    | some (_, i) => if loudOk ops i then dirCall E call f args H else none
  else match place with
    | none => match isoCall call f args H with
      | some y => some (y, if y.scalar then H else freezeRows H (flatV (touch 8 H) args))
      | none => none
    | some (b, i) => match isoCall call f args (H.take b) with
      | some y => if y.scalar || V.closedL args then some (y, H) else none
      | none => if loudOk ops i then match isoCall call f args H with
          | some y => some (y, if y.scalar then H else freezeRows H (flatV (touch 8 H) args))
          | none => none
        else none
section
variable {Rv : Nat → Prop} {ν ν' : Nu} {Z Z' : Nat → Prop} {st st' : St} {m m' : Tb SOb} {F F' : Frame} {H H' H1 : Heap} {N : Nat → FuncId} {S : Sys} {c : CallS}
theorem numS_get : ∀ (l : List SV) (i s : Nat) (sv : SV), tget (numS i l) s = some sv → ∃ j, s = i + j ∧ l[j]? = some sv
  | [], i, s, sv, h => by simp [numS, tget] at h
  | x :: l, i, s, sv, h => by
    simp only [numS, tget] at h
    split at h
    · rename_i e; simp only [Option.some.injEq] at h; subst h; exact ⟨0, by omega, rfl⟩
    · obtain ⟨j, h1, h2⟩ := numS_get l (i + 1) s sv h
      exact ⟨j + 1, by omega, by simpa using h2⟩
theorem slots_start {svs : List SV} {args : List V} (h : SVRL ν m H Z svs args) : ∀ s sv, tget (numS 0 svs) s = some sv → SVR ν m H Z sv (get args s) := fun s sv hs => by
  obtain ⟨j, rfl, hj⟩ := numS_get svs 0 s sv hs
  obtain ⟨y, hy, r⟩ := h.get hj
  rw [Nat.zero_add, get_lt args j y hy]; exact r
theorem start_iso {as : List V} (hg : V.goodL as = true) : R (fun _ => (0, 0)) (fun _ => False) (start (as.map .v) []) as [] ∧ SVRL (fun _ => (0, 0)) [] [] (fun _ => False) (as.map .v) as := by
  have h : SVRL (fun _ => (0, 0)) [] [] (fun _ => False) (as.map .v) as := SVRL.ofFRL (FRL.same hg)
  refine ⟨⟨slots_start h, fun d ob hd => by simp [start, tget] at hd, fun d d' ob ob' hd => by simp [start, tget] at hd, fun d ob hd => by simp [start, tget] at hd, fun id h => h.elim, ⟨fun id es ys h => h.elim⟩⟩, h⟩
theorem result_scalar {xs ys : List V} (h : FRL H Z xs ys) : ((result xs).scalar = true → result ys = result xs) ∧ (result ys).scalar = (result xs).scalar := by
  cases xs with
  | nil => rw [h.inv0]; exact ⟨fun _ => rfl, rfl⟩
  | cons x xs =>
    obtain ⟨y, ys, rfl, h1, h2⟩ := h.inv
    cases xs with
    | nil => rw [h2.inv0]; exact h1.scalar
    | cons x2 xs =>
      obtain ⟨y2, ys, rfl, h3, h4⟩ := h2.inv
      exact FR.scalar (.tup _ _ h.1 h.2)
theorem iso_back (hS : SoundC S c) {f : FuncId} {as ys : List V} {rs : List SV} {m' : Objs} (hg : V.goodL as = true) (h : c f (as.map .v) [] = some (rs, m')) (hs : shutL m' 8 rs = some ys) (hl : (result ys).lvl 8 = true) :
    ∃ n r H2, (∀ k, n ≤ k → run S.E k (.fn f) as [] = some (r, H2)) ∧ borrow 8 H2 r = some (result ys) ∧ (result ys).good = true := by
  obtain ⟨r0, r1⟩ := start_iso hg
  obtain ⟨n, y, H2, ν', Z', st', F', zs, h1, rfl, h3, h4, h5, _⟩ := hS f _ _ _ _ h _ _ as [] (.inr rfl) r0 r1
  subst h3
  have hgood := shutL_good h5.obj 8 rs ys zs hs h4
  refine ⟨n, result zs, H2, fun k hk => run_le S.E hk _ _ _ _ h1, ?_, ?_⟩
  · have hfr : ∀ d ∈ ([] : List Nat), ∀ e ob, tget st'.m e = some ob → ob.says d = false := fun d hd => by simp at hd
    have ho : ∀ d ob, tget st'.m d = some ob → d ∉ ([] : List Nat) → ObR ν' st'.m H2 Z' d ob := fun d ob hd _ => h5.obj d ob hd
    cases rs with
    | nil =>
      simp only [shutL, Option.some.injEq] at hs; subst hs
      rw [h4.inv0]
      exact borrow_self 8 H2 rfl
    | cons x rs =>
      obtain ⟨z, zs, rfl, e1, e2⟩ := h4.inv
      simp only [shutL] at hs
      split at hs
      · rename_i y s g1 g2
        simp only [Option.some.injEq] at hs; subst hs
        cases rs with
        | nil =>
          simp only [shutL, Option.some.injEq] at g2; subst g2
          rw [e2.inv0]
          exact shut_borrow hfr ho 8 x y z g1 (fun d hd => by simp at hd) e1 8 hl
        | cons x2 rs =>
          obtain ⟨z2, zs, rfl, e3, e4⟩ := e2.inv
          simp only [shutL] at g2
          split at g2
          · rename_i y2 s2 g3 g4
            simp only [Option.some.injEq] at g2; subst g2
            simp only [result, V.lvl, V.lvlL, Bool.and_eq_true] at hl
            have hall : shutL st'.m 8 (x :: x2 :: rs) = some (y :: y2 :: s2) := by simp only [shutL, g1, g3, g4]
            have hb := shutL_borrow hfr ho 8 (x :: x2 :: rs) _ _ hall (fun d hd => by simp at hd) h4 7 (by simp only [V.lvlL, Bool.and_eq_true]; exact hl)
            by_cases hcl : (V.tup (z :: z2 :: zs)).closed = true
            · simp only [result]
              rw [borrow_self _ _ hcl]
              simp only [V.closed] at hcl
              rw [closed_eq hb hcl]
            · simp only [result]
              unfold borrow
              rw [if_neg hcl]
              simp only [hb, Option.map_some]
          · simp at g2
      · simp at hs
  · have : ∀ {l : List V}, V.goodL l = true → (result l).good = true := by
      intro l hl
      cases l with
      | nil => rfl
      | cons a l => cases l with
        | nil => simp only [V.goodL, Bool.and_eq_true] at hl; exact hl.1
        | cons b l => simp only [result, V.good]; exact hl
    exact this hgood
theorem iso_run {f : FuncId} {args as : List V} {y r : V} {H2 : Heap} {n : Nat} (hr : ∀ k, n ≤ k → run S.E k (.fn f) as [] = some (r, H2)) (hb : borrow 8 H2 r = some y) (hg : y.good = true) (ha : borrows 8 H args = some as) :
    ∀ k, n ≤ k → isoCall (run S.E k) f args H = some y := fun k hk => by
  unfold isoCall
  simp only [ha, hr k hk, hb, V.good_closed hg, if_true]
theorem rowsAt_freeze (hz : ∀ id, Z id → (rowsAt H id).isSome = true) {T : List Nat} {id : Nat} (h : Z id) : rowsAt (freezeRows H T) id = rowsAt H id := by
  have := hz id h
  unfold rowsAt at this ⊢
  rw [freezeRows_get]
  cases hh : H[id]? with
  | none => rw [hh] at this; simp at this
  | some ob =>
    rw [hh] at this
    simp only [Option.map_some, Option.bind_some]
    by_cases e : id ∈ T
    · rw [if_pos e]
      cases ob <;> first | rfl | simp [Ob.rows] at this
    · rw [if_neg e]
theorem freeze_same {T : List Nat} {id : Nat} (h : id ∉ T) : (freezeRows H T)[id]? = H[id]? := by
  rw [freezeRows_get]
  cases H[id]? <;> simp [h]
theorem own_tput {d : Nat} {ob ob' : SOb} {id : Nat} (h0 : tget m d = some ob) (hb : backed ob' = backed ob) (h : Own ν (tput m d ob') id) : Own ν m id := by
  obtain ⟨k, o, h1, h2, h3⟩ := h
  by_cases e : k = d
  · subst e; rw [tget_tput_eq] at h1; cases h1; exact ⟨k, ob, h0, by rw [← hb]; exact h2, h3⟩
  · rw [tget_tput_ne _ _ (Ne.symm e)] at h1; exact ⟨k, o, h1, h2, h3⟩
end
end Go.VE
namespace Go.VE
section
variable {Rv : Nat → Prop} {ν ν' : Nu} {Z Z' : Nat → Prop} {st st' : St} {m m' : Tb SOb} {F F' : Frame} {H H' H1 : Heap} {N : Nat → FuncId} {S : Sys} {c : CallS}
theorem svrl_good {as : List V} {args : List SV} {ys : List V} (ho : ∀ d ob, tget m d = some ob → ObR ν m H Z d ob) (h : shutL m 8 args = some as) (r : SVRL ν m H Z args ys) : V.goodL as = true := shutL_good ho 8 args as ys h r
theorem borrow_args {as : List V} {args : List SV} {ys : List V} (r : R ν Z st F H) (ha : SVRL ν st.m H Z args ys) (h : shutL st.m 8 args = some as) (hl : V.lvlL 8 as = true) : borrows 8 H ys = some as :=
  shutL_borrow (fr := []) (fun d hd => by simp at hd) (fun d ob hd _ => r.obj d ob hd) 8 args as ys h (fun d hd => by simp at hd) ha 8 hl
theorem rowsAt_take {b id : Nat} (h : id < b) : rowsAt (H.take b) id = rowsAt H id := by
  unfold rowsAt; rw [List.getElem?_take, if_pos h]
theorem borrow_old {b : Nat} {fr : List Nat} {as : List V} {args : List SV} {ys : List V} (r : R ν Z st F H) (ha : SVRL ν st.m H Z args ys) (h : shutL st.m 8 args = some as) (hl : V.lvlL 8 as = true)
    (ho : ∀ d ob, tget st.m d = some ob → backed ob = true → d ∉ fr → (ν d).1 < b) (hz : ∀ id, Z id → id < b) (hold : oldArgs st.m fr args = true) : borrows 8 (H.take b) ys = some as := by
  unfold oldArgs at hold
  rw [List.all_eq_true] at hold
  have h1 : ∀ d ∈ fr, SV.saysL d args = false ∧ saysM d st.m = false := fun d hd => by
    have := hold d hd
    simpa [Bool.and_eq_true, Bool.not_eq_true'] using this
  have hzr : ∀ id, Z id → Z id ∧ rowsAt (H.take b) id = rowsAt H id := fun id h => ⟨h, rowsAt_take (hz id h)⟩
  refine shutL_borrow (Z := Z) (fr := fr) (fun d hd e ob he => saysM_of (h1 d hd).2 he) (fun d ob hd hf => ?_) 8 args as ys h (fun d hd => (h1 d hd).1) (ha.mono hzr fun e _ => same_self ν st.m e) 8 hl
  exact ObR.mono hzr rfl (fun hb => by rw [List.getElem?_take, if_pos (ho d ob hd hb hf)]) (fun e _ => same_self ν st.m e) (r.obj d ob hd)
theorem isoS_ok (hS : SoundC S c) {ops : List Oper} {place : Option (Nat × Nat)} {dr nw : Bool} {fr : List Nat} (hdr : dr = place.isSome) (hnow : ∀ b i, place = some (b, i) → nw = true → loudOk ops i = true)
    (hold : ∀ b i, place = some (b, i) → (∀ d ob, tget st.m d = some ob → backed ob = true → d ∉ fr → (ν d).1 < b) ∧ ∀ id, Z id → id < b)
    (r : R ν Z st F H) {args : List SV} {ys : List V} (ha : SVRL ν st.m H Z args ys) {f : FuncId} (hk : S.E.keep f = false) {as : List V} (hs : shutL st.m 8 args = some as) (hl : V.lvlL 8 as = true) (hno : (!dr || nw) = true ∨ oldArgs st.m fr args = true)
    {rs : List SV} {m' : Objs} {zs : List V} (hc : c f (as.map .v) [] = some (rs, m')) (hz : shutL m' 8 rs = some zs) (hzl : (result zs).lvl 8 = true) (hsc : (result zs).scalar = true ∨ (dr = false ∧ (allV args).isSome = true)) :
    ∃ n H', (∀ k, n ≤ k → callPart S.E (run S.E k) ops place f ys H = some (result zs, H')) ∧ R ν Z st F H' ∧ SVR ν st.m H' Z (.v (result zs)) (result zs) ∧ Ev Rv ν Z st H ν Z st H' := by
  have hg := svrl_good r.obj hs ha
  obtain ⟨n, rr, H2, h1, h2, h3⟩ := iso_back hS hg hc hz hzl
  have hb := borrow_args r ha hs hl
  have hiso := iso_run h1 h2 h3 hb
  have hsv : ∀ {H'}, SVR ν st.m H' Z (.v (result zs)) (result zs) := .v _ _ (.same _ h3)
  cases place with
  | none =>
    subst hdr
    by_cases hsca : (result zs).scalar = true
    · exact ⟨n, H, fun k hkn => by simp only [callPart, hk, Bool.false_eq_true, if_false, hiso k hkn, hsca, if_true], r, hsv, .refl⟩
    · obtain ⟨xs, hx⟩ := Option.isSome_iff_exists.1 (hsc.resolve_left hsca).2
      have hf := ha.allV hx
      have hT : ∀ id ∈ flatV (touch 8 H) ys, Z id := fun id hid => by
        obtain ⟨j, u, hu, hku⟩ := mem_flatV hid
        have hj : j < xs.length := by rw [hf.1]; exact (List.getElem?_eq_some_iff.1 hu).1
        exact FR.touch r.deep 8 (hf.2 j _ u (List.getElem?_eq_getElem hj) hu) id hku
      refine ⟨n, freezeRows H (flatV (touch 8 H) ys), fun k hkn => by simp only [callPart, hk, Bool.false_eq_true, if_false, hiso k hkn, hsca], r.heap (fun id ho => freeze_same fun hid => ?_) (fun id hid => rowsAt_freeze r.zrow hid), hsv, Ev.heap (by rw [freezeRows_length]; exact Nat.le_refl _) (fun id _ _ hz _ => freeze_same fun hid => hz (hT id hid)) (fun id hid => rowsAt_freeze r.zrow hid)⟩
      obtain ⟨d, ob, g1, g2, rfl⟩ := ho
      exact r.apart d ob g1 g2 (hT _ hid)
  | some bi =>
    obtain ⟨b, i⟩ := bi
    obtain ⟨o1, o2⟩ := hold b i rfl
    have hdt : dr = true := hdr
    subst hdt
    have hsca : (result zs).scalar = true := hsc.resolve_right fun h => by simp at h
    refine ⟨n, H, fun k hkn => ?_, r, hsv, .refl⟩
    simp only [callPart, hk, Bool.false_eq_true, if_false]
    rcases hno with hno | hno
    · have hlo := hnow b i rfl (by simpa using hno)
      split
      · rename_i y hy
        have := isoCall_take hy
        rw [hiso k hkn] at this; cases this
        simp only [hsca, Bool.true_or, if_true]
      · simp only [hlo, if_true, hiso k hkn, hsca]
    · have hb2 := borrow_old r ha hs hl o1 o2 hno
      have := iso_run h1 h2 h3 hb2 k hkn
      simp only [this, hsca, Bool.true_or, if_true]
theorem scalar_rows {xs ys : List (List V)} (h : FRLL H Z xs ys) (hs : scalarRows xs = true) : ys = xs := by
  refine (List.ext_getElem h.1 fun j h1 h2 => ?_).symm
  have := h.2 j _ _ (List.getElem?_eq_getElem h1) (List.getElem?_eq_getElem h2)
  have hsj : V.scalarL xs[j] = true := by
    unfold scalarRows at hs
    rw [List.all_eq_true] at hs
    have := hs _ (List.getElem_mem h1)
    rw [List.all_eq_true] at this
    exact scalarL_iff.2 fun k u hu => this u (List.mem_of_getElem? hu)
  exact (this.scalar.1 hsj).symm
theorem handed_spec : ∀ {args : List SV} {os : Objs}, handed m args = some os → ∀ k ob, tget os k = some ob → tget m k = some ob ∧ plainOb ob = true
  | [], os, h, k, ob, hk => by simp only [handed, Option.some.injEq] at h; subst h; simp [tget] at hk
  | .v _ :: r, os, h, k, ob, hk => handed_spec (args := r) (by simpa [handed] using h) k ob hk
  | .own d :: r, os, h, k, ob, hk => by
    simp only [handed] at h
    split at h
    · rename_i os' fl es xs h1 h2
      simp only [Option.some.injEq] at h; subst h
      simp only [tget] at hk
      split at hk
      · rename_i e; subst e; cases hk; exact ⟨h2, rfl⟩
      · exact handed_spec h1 k ob hk
    · simp at h
  | .ptr d _ :: r, os, h, k, ob, hk => by
    simp only [handed] at h
    split at h
    · rename_i os' cs h1 h2
      split at h
      · rename_i hc
        simp only [Option.some.injEq] at h; subst h
        simp only [tget] at hk
        split at hk
        · rename_i e; subst e; cases hk; exact ⟨h2, hc⟩
        · exact handed_spec h1 k ob hk
      · simp at h
    · simp at h
  | .el .. :: r, os, h, k, ob, hk => by simp [handed] at h
  | .mp _ :: r, os, h, k, ob, hk => by simp [handed] at h
  | .clo .. :: r, os, h, k, ob, hk => by simp [handed] at h
  | .tup _ :: r, os, h, k, ob, hk => by simp [handed] at h
  | .yl _ :: r, os, h, k, ob, hk => by simp [handed] at h
theorem handBack_spec : ∀ {l : List Nat} {a b : Tb SOb}, handBack m' l a = some b → (∀ k ∈ l, tget b k = tget m' k ∧ ∃ ob, tget m' k = some ob ∧ plainOb ob = true) ∧ ∀ k, k ∉ l → tget b k = tget a k
  | [], a, b, h => by simp only [handBack, Option.some.injEq] at h; subst h; exact ⟨fun k hk => by simp at hk, fun _ _ => rfl⟩
  | d :: r, a, b, h => by
    simp only [handBack] at h
    split at h
    · rename_i ob hob
      split at h
      · rename_i hp
        obtain ⟨h1, h2⟩ := handBack_spec h
        refine ⟨fun k hk => ?_, fun k hk => ?_⟩
        · by_cases hr : k ∈ r
          · exact h1 k hr
          · have e : k = d := by simpa [hr] using hk
            subst e
            exact ⟨by rw [h2 k hr, tget_tput_eq, hob], ob, hob, hp⟩
        · simp only [List.mem_cons, not_or] at hk
          rw [h2 k hk.2, tget_tput_ne _ _ (Ne.symm hk.1)]
      · simp at h
    · simp at h
theorem mem_keys : ∀ {os : Objs} {k : Nat}, k ∈ os.map (·.1) ↔ ∃ ob, tget os k = some ob
  | [], k => by simp [tget]
  | (d, o) :: os, k => by
    simp only [List.map_cons, List.mem_cons, tget]
    by_cases e : d = k
    · subst e; simp
    · rw [if_neg e, ← mem_keys]
      constructor
      · rintro (h | h)
        · exact absurd h.symm e
        · exact h
      · exact .inr
theorem ObR.plain {d : Nat} {ob : SOb} (hp : plainOb ob = true) (hz : ∀ id, Z id → Z' id ∧ rowsAt H' id = rowsAt H id) (hd : ν' d = ν d) (hh : backed ob = true → H'[(ν d).1]? = H[(ν d).1]?) (o : ObR ν m H Z d ob) : ObR ν' m' H' Z' d ob := by
  cases ob with
  | box cs =>
    obtain ⟨xs, hx⟩ := Option.isSome_iff_exists.1 hp
    obtain ⟨es, cs', h1, h2, h3⟩ := o
    refine ⟨es, cs', by rw [hd, hh rfl]; exact h1, ?_, h3⟩
    have := (h2.allV hx).mono hz
    rw [allV_spec hx]; exact SVRL.ofFRL this
  | sl k es xs => exact ObR.mono hz hd hh (fun e he => by simp [SOb.says] at he) o
  | mp kvs => exact ObR.mono hz hd hh (fun e he => by simp [SOb.says] at he) o
theorem dirS_ok (hS : SoundC S c) {f : FuncId} (hkp : S.E.keep f = true) (r : R ν Z st F H) {args : List SV} {ys : List V} (ha : SVRL ν st.m H Z args ys) {os : Objs} (hh : handed st.m args = some os)
    {rs : List SV} {m' : Objs} {zs : List V} {m2 : Tb SOb} (hc : c f args os = some (rs, m')) (hz : allV rs = some zs) (hb : handBack m' (os.map (·.1)) st.m = some m2) :
    ∃ n y H' Z', (∀ k, n ≤ k → run S.E k (.fn f) ys H = some (y, H')) ∧ R ν Z' { st with m := m2 } F H' ∧ SVR ν m2 H' Z' (.v (result zs)) y ∧ Ev Rv ν Z st H ν Z' { st with m := m2 } H' ∧ ∀ e ob', tget m2 e = some ob' → ∃ ob, tget st.m e = some ob ∧ ν e = ν e ∧ sameShape ob ob' := by
  have hsub : ∀ k ob, tget os k = some ob → tget st.m k = some ob := fun k ob h => (handed_spec hh k ob h).1
  have ha0 : SVRL ν os H Z args ys := ha.mono (fun id h => ⟨h, rfl⟩) fun e _ ob' h => ⟨ob', hsub e ob' h, rfl, .refl _⟩
  have r0 : R ν Z (start args os) ys H := by
    refine ⟨slots_start ha0, fun d ob hd => ?_, fun d d' ob ob' h1 h2 => r.inj d d' ob ob' (hsub d ob h1) (hsub d' ob' h2), fun d ob h => r.apart d ob (hsub d ob h), r.zrow, r.deep⟩
    exact ObR.plain (handed_spec hh d ob hd).2 (fun id h => ⟨h, rfl⟩) rfl (fun _ => rfl) (r.obj d ob (hsub d ob hd))
  obtain ⟨n, y, H', ν1, Z', st1, F1, ws, e1, rfl, rfl, e2, e3, ev⟩ := hS f args os rs m' hc ν Z ys H (.inl hkp) r0 ha0
  obtain ⟨b1, b2⟩ := handBack_spec hb
  have hpin : ∀ k ob', k ∈ os.map (·.1) → tget st1.m k = some ob' → ∃ ob, tget os k = some ob ∧ ν1 k = ν k ∧ sameShape ob ob' := fun k ob' hk h => ev.pin k hk ob' h
  have hown0 : ∀ id, Own ν os id → Own ν st.m id := fun id ⟨k, o, h1, h2, h3⟩ => ⟨k, o, hsub k o h1, h2, h3⟩
  have bk : ∀ ob ob' : SOb, sameShape ob ob' → backed ob' = backed ob := fun ob ob' h => by
    cases ob <;> cases ob' <;> simp only [sameShape] at h
    · simp only [backed, h.1]
    · rfl
    · rfl
  have was : ∀ k ob', tget m2 k = some ob' → ∃ ob, tget st.m k = some ob ∧ sameShape ob ob' ∧ (k ∈ os.map (·.1) ∧ tget st1.m k = some ob' ∧ ν1 k = ν k ∧ tget os k = some ob ∧ plainOb ob' = true ∨ k ∉ os.map (·.1) ∧ ob' = ob) := fun k ob' h => by
    by_cases hk : k ∈ os.map (·.1)
    · obtain ⟨g1, o, g2, g3⟩ := b1 k hk
      rw [g1] at h
      obtain ⟨ob, p1, p2, p3⟩ := hpin k ob' hk h
      rw [g2] at h; cases h
      exact ⟨ob, hsub k ob p1, p3, .inl ⟨hk, g2, p2, p1, g3⟩⟩
    · rw [b2 k hk] at h
      exact ⟨ob', h, .refl _, .inr ⟨hk, rfl⟩⟩
  have hother : ∀ k ob, k ∉ os.map (·.1) → tget st.m k = some ob → backed ob = true → H'[(ν k).1]? = H[(ν k).1]? ∧ ¬ Z' (ν k).1 := fun k ob hk h hbk => by
    have hno : ¬ Own ν os (ν k).1 := by
      rintro ⟨k2, o2, g1, g2, g3⟩
      have := r.inj k2 k o2 ob (hsub k2 o2 g1) h g2 hbk g3
      subst this
      exact hk (mem_keys.2 ⟨o2, g1⟩)
    have hlt := r.lt ⟨k, ob, h, hbk, rfl⟩
    have hnz := r.apart k ob h hbk
    refine ⟨ev.same _ hlt hno hnz (fun h => h), fun hz' => ?_⟩
    rcases ev.frz _ hz' with h | h | h | h
    · exact hnz h
    · exact hno h
    · exact h
    · omega
  have sm : ∀ e ob', tget m2 e = some ob' → ∃ ob, tget st.m e = some ob ∧ ν e = ν e ∧ sameShape ob ob' := fun e ob' h => by
    obtain ⟨ob, h1, h2, _⟩ := was e ob' h; exact ⟨ob, h1, rfl, h2⟩
  refine ⟨n, result ws, H', Z', fun k hk => run_le S.E hk _ _ _ _ e1, ⟨fun s sv hs => (r.slot s sv hs).mono ev.rows fun e _ => sm e, fun k ob' h => ?_, fun d1 d2 o1 o2 h1 h2 k1 k2 hp => ?_, fun d1 o1 h1 k1 => ?_, e3.zrow, e3.deep⟩, ?_, ⟨ev.len, ?_, ev.rows, ?_, ?_, fun e _ => sm e, rfl⟩, sm⟩
  · obtain ⟨ob, h1, h2, h3 | ⟨h3, rfl⟩⟩ := was k ob' h
    · obtain ⟨q1, q2, q3, q4, q5⟩ := h3
      refine ObR.plain (ν := ν1) (Z := Z') (H := H') q5 (fun id h => ⟨h, rfl⟩) q3.symm (fun _ => rfl) (e3.obj k ob' q2)
    · exact ObR.mono ev.rows rfl (fun hbk => (hother k ob' h3 h1 hbk).1) (fun e _ => sm e) (r.obj k ob' h1)
  · obtain ⟨p1, g1, s1, _⟩ := was d1 o1 h1
    obtain ⟨p2, g2, s2, _⟩ := was d2 o2 h2
    exact r.inj d1 d2 p1 p2 g1 g2 (by rw [← bk _ _ s1]; exact k1) (by rw [← bk _ _ s2]; exact k2) hp
  · obtain ⟨ob, g1, s1, h3 | ⟨h3, rfl⟩⟩ := was d1 o1 h1
    · obtain ⟨q1, q2, q3, q4, q5⟩ := h3
      rw [← q3]; exact e3.apart d1 o1 q2 k1
    · exact (hother d1 o1 h3 g1 k1).2
  · have hf := e2.allV hz
    have : FR H' Z' (result zs) (result ws) := by
      cases zs with
      | nil => rw [hf.inv0]; exact .same _ rfl
      | cons x xs =>
        obtain ⟨y, ys2, rfl, g1, g2⟩ := hf.inv
        cases xs with
        | nil => rw [g2.inv0]; exact g1
        | cons x2 xs =>
          obtain ⟨y2, ys3, rfl, g3, g4⟩ := g2.inv
          exact .tup _ _ hf.1 hf.2
    exact .v _ _ this
  · intro id hl ho hz _
    exact ev.same id hl (fun h => ho (hown0 id h)) hz (fun h => h)
  · rintro id ⟨k, o, h1, h2, h3⟩
    obtain ⟨ob, g1, s1, _⟩ := was k o h1
    exact .inl ⟨k, ob, g1, by rw [← bk _ _ s1]; exact h2, h3⟩
  · intro id h
    rcases ev.frz id h with h | h | h | h
    · exact .inl h
    · exact .inr (.inl (hown0 id h))
    · exact h.elim
    · exact .inr (.inr (.inr h))
theorem own_back (hS : SoundC S c) {f : FuncId} {as : List V} {rs : List SV} {m' : Objs} (hg : V.goodL as = true) (h : c f (as.map .v) [] = some (rs, m')) :
    ∃ n H2 ν' Z' st' F' ys, (∀ k, n ≤ k → run S.E k (.fn f) as [] = some (result ys, H2)) ∧ st'.m = m' ∧ SVRL ν' m' H2 Z' rs ys ∧ R ν' Z' st' F' H2 := by
  obtain ⟨r0, r1⟩ := start_iso hg
  obtain ⟨n, y, H2, ν', Z', st', F', zs, h1, rfl, h3, h4, h5, _⟩ := hS f _ _ _ _ h _ _ as [] (.inr rfl) r0 r1
  exact ⟨n, H2, ν', Z', st', F', zs, fun k hk => run_le S.E hk _ _ _ _ h1, h3, h4, h5⟩
theorem scalar_all {ys : List V} (h : V.scalarL ys = true) : V.scalarL (.nsl :: ys) = true ∧ V.scalarL (.esl :: ys) = true := by
  simp only [V.scalarL, V.scalar, Bool.true_and]; exact ⟨h, h⟩
theorem result_scalarL {ys : List V} (h : V.scalarL ys = true) : (result ys).scalar = true := by
  cases ys with
  | nil => rfl
  | cons a l =>
    cases l with
    | nil => simp only [V.scalarL, Bool.and_eq_true] at h; exact h.1
    | cons b l => simp only [result, V.scalar]; exact h
theorem SVRL.mapv {ys : List V} (h : V.goodL ys = true) : SVRL ν m H Z (ys.map .v) ys := SVRL.ofFRL (FRL.same h)
theorem callS_ok (hS : SoundC S c) {ops : List Oper} {place : Option (Nat × Nat)} {dr nw : Bool} {fr : List Nat} (hdr : dr = place.isSome) (hnow : ∀ b i, place = some (b, i) → nw = true → loudOk ops i = true)
    (hold : ∀ b i, place = some (b, i) → (∀ d ob, tget st.m d = some ob → backed ob = true → d ∉ fr → (ν d).1 < b) ∧ ∀ id, Z id → id < b)
    (r : R ν Z st F H) {args : List SV} {ys : List V} (ha : SVRL ν st.m H Z args ys) {f : FuncId} {dst : Option Nat} {sv : SV} (h : callS S c dst dr (!dr || nw) (oldArgs st.m fr) f args st = some (sv, st')) :
    ∃ n y H' ν' Z', (∀ k, n ≤ k → callPart S.E (run S.E k) ops place f ys H = some (y, H')) ∧ R ν' Z' st' F H' ∧ SVR ν' st'.m H' Z' sv y ∧ Ev Rv ν Z st H ν' Z' st' H' ∧ (dr = true → Z' = Z) ∧ Kept dst ν st.m ν' st'.m := by
  unfold callS at h
  split at h
  · rename_i hk
    split at h
    · rename_i hnw
      have hplace : ∀ {q : CallF} {y : V} {H' : Heap}, dirCall S.E q f ys H = some (y, H') → callPart S.E q ops place f ys H = some (y, H') := fun {q y H'} hd => by
        unfold callPart
        rw [if_pos hk]
        cases place with
        | none => exact hd
        | some bi =>
          obtain ⟨b, i⟩ := bi
          have hdt : dr = true := hdr
          subst hdt
          simp only
          rw [if_pos (hnow b i rfl (by simpa using hnw))]; exact hd
      split at h
      ·
        rename_i hown
        split at h
        · rename_i as hs
          split at h
          · rename_i hl
            have hg := svrl_good r.obj hs ha
            have hb := borrow_args r ha hs hl
            split at h
            · rename_i rs m' hc
              obtain ⟨n, H2, ν2, Z2, st2, F2, ws, e1, rfl, e3, e4⟩ := own_back hS hg hc
              have hdir : ∀ k, n ≤ k → ∀ {o : Option (V × Heap)}, (if (result ws).scalar then some (result ws, H) else
                  match result ws with
                  | .hsl id es off len => (adopt1 H.length H2 id es off len).map fun (v, ob) => (v, H ++ [ob])
                  | .tup (.hsl id es off len :: rest) => if V.scalarL rest then (adopt1 H.length H2 id es off len).map fun (v, ob) => (.tup (v :: rest), H ++ [ob]) else none
                  | _ => none) = o → dirCall S.E (run S.E k) f ys H = o := fun k hkn o ho => by
                unfold dirCall ownCall
                rw [if_pos hown]
                simp only [hb, e1 k hkn]
                exact ho
              have scal : ∀ zs : List V, (result zs).scalar = true → result ws = result zs → sv = .v (result zs) → st' = st → ∃ n y H' ν' Z', (∀ k, n ≤ k → callPart S.E (run S.E k) ops place f ys H = some (y, H')) ∧ R ν' Z' st' F H' ∧ SVR ν' st'.m H' Z' sv y ∧ Ev Rv ν Z st H ν' Z' st' H' ∧ (dr = true → Z' = Z) ∧ Kept dst ν st.m ν' st'.m := by
                rintro zs h1 h2 rfl rfl
                exact ⟨n, result zs, H, ν, Z, fun k hkn => hplace (hdir k hkn (by rw [h2, if_pos h1])), r, .v _ _ (.same _ (scalar_good h1)), .refl, fun _ => rfl, .refl⟩
              split at h
              · rename_i zs hz
                split at h
                · rename_i hsc
                  simp only [Option.some.injEq, Prod.mk.injEq] at h
                  exact scal zs hsc ((result_scalar (e3.allV hz)).1 hsc) h.1.symm h.2.symm
                · simp at h
              · split at h
                · rename_i e rest t _
                  obtain ⟨w, ws, rfl, g1, g2⟩ := e3.inv
                  split at h
                  ·
                    rename_i es xs zs hob hz
                    split at h
                    · rename_i hcnd
                      simp only [Bool.and_eq_true] at hcnd
                      obtain ⟨⟨c1, c2⟩, hnew⟩ := hcnd
                      simp only [Option.some.injEq, Prod.mk.injEq] at h; obtain ⟨rfl, rfl⟩ := h
                      have o := e4.obj e _ hob
                      simp only [ObR, rowLike, if_true] at o
                      obtain ⟨rows, hr, hle, hf, hsol, hrow⟩ := o
                      obtain ⟨q1, q2⟩ := hrow trivial
                      have hrows : rows = xs := by
                        have := scalar_rows hf c2
                        rw [q1, List.drop_zero, ← q2, List.take_length] at this
                        exact this
                      subst hrows
                      obtain ⟨_, _, _, ee, rfl⟩ := g1.own_inv hob
                      cases ee
                      have hrest : ws = zs := (g2.allV hz).scalar.1 c1
                      subst hrest
                      have had : adopt1 H.length H2 (ν2 e).1 es 0 rows.length = some (.hsl H.length es 0 rows.length, .row es rows) := by
                        unfold adopt1
                        rw [hr]
                        simp only [true_and]
                        rw [if_pos]
                        rw [List.all_eq_true]
                        intro x hx
                        unfold scalarRows at c2
                        rw [List.all_eq_true] at c2
                        exact c2 x hx
                      have hH : ∀ id, id < H.length → (H ++ [Ob.row es rows])[id]? = H[id]? := fun id hl => List.getElem?_append_left hl
                      have hzr : ∀ id, Z id → rowsAt (H ++ [Ob.row es rows]) id = rowsAt H id := fun id hz => by unfold rowsAt; rw [hH id (r.zlt hz)]
                      have r2 : R ν Z st F (H ++ [Ob.row es rows]) := r.heap (fun id ho => hH id (r.lt ho)) hzr
                      have hgr : V.goodLL rows = true := by
                        refine goodLL_iff.2 fun j u hu => ?_
                        unfold scalarRows at c2
                        rw [List.all_eq_true] at c2
                        have := c2 u (List.mem_of_getElem? hu)
                        rw [List.all_eq_true] at this
                        exact goodL_iff.2 fun i v hv => scalar_good (this v (List.mem_of_getElem? hv))
                      have hR := r2.add (ν := ν) (d := t) (ob := .sl .row es rows) (p := (H.length, 0)) hnew (fun _ => ⟨fun ho => absurd (r.lt ho) (by simp), fun hz => absurd (r.zlt hz) (by simp)⟩) (by
                        simp only [ObR, rowLike, if_true, nuAt_eq]
                        refine ⟨rows, by simp, by simp, ?_, (FRLL.same hgr).solid, fun _ => ⟨trivial, rfl⟩⟩
                        rw [List.drop_zero, List.take_length]
                        exact FRLL.same hgr)
                      have hsl : SVR (nuAt ν t (H.length, 0)) (tput st.m t (.sl .row es rows)) (H ++ [Ob.row es rows]) Z (.own t) (.hsl H.length es 0 rows.length) := by
                        refine .own _ _ fun ob' h' => ?_
                        rw [tget_tput_eq] at h'; cases h'
                        exact ⟨_, _, _, rfl, by simp [slA, nuAt_eq]⟩
                      have hev : Ev Rv ν Z st H (nuAt ν t (H.length, 0)) Z { st with m := tput st.m t (.sl .row es rows) } (H ++ [Ob.row es rows]) := Ev.add hnew (by simp) (fun id hl _ => hH id hl) hzr (fun _ => .inr (Nat.le_refl _))
                      have hoff : slA (ν2 e) Fl.row es rows.length = .hsl (ν2 e).1 es 0 rows.length := by simp [slA, q1]
                      rw [hoff] at hdir
                      cases rest with
                      | nil =>
                        have : ws = [] := by simp only [allV, Option.some.injEq] at hz; exact hz.symm
                        subst this
                        refine ⟨n, _, _, _, Z, fun k hkn => hplace (hdir k hkn (o := some (.hsl H.length es 0 rows.length, H ++ [Ob.row es rows])) ?_), hR, hsl, hev, fun _ => rfl, Kept.add fun _ _ h => h⟩
                        simp only [result, V.scalar, Bool.false_eq_true, if_false, had, Option.map_some]
                      | cons x2 rest =>
                        have hcl : ∃ w2 ws2, ws = w2 :: ws2 := by
                          have := g2.1
                          cases ws with
                          | nil => simp at this
                          | cons a b => exact ⟨a, b, rfl⟩
                        obtain ⟨w2, ws2, rfl⟩ := hcl
                        refine ⟨n, _, _, _, Z, fun k hkn => hplace (hdir k hkn (o := some (.tup (.hsl H.length es 0 rows.length :: w2 :: ws2), H ++ [Ob.row es rows])) ?_), hR, ?_, hev, fun _ => rfl, Kept.add fun _ _ h => h⟩
                        · simp only [result, V.scalar, V.scalarL, Bool.false_and, Bool.false_eq_true, if_false]
                          have c1' : (w2.scalar && V.scalarL ws2) = true := by simpa [V.scalarL] using c1
                          simp only [c1', if_true, had, Option.map_some]
                        · exact .tup _ _ (by simp) (SVRL.cons hsl (SVRL.mapv (scalarL_good c1))).2
                    · simp at h
                  ·
                    rename_i es xs zs hob hz
                    split at h
                    · rename_i c1
                      simp only [Option.some.injEq, Prod.mk.injEq] at h
                      obtain ⟨_, _, _, ee, rfl⟩ := g1.own_inv hob
                      cases ee
                      have hrest := (g2.allV hz).scalar.1 c1
                      subst hrest
                      exact scal (.nsl :: ws) (result_scalarL (scalar_all c1).1) rfl h.1.symm h.2.symm
                    · simp at h
                  · rename_i es xs zs hob hz
                    split at h
                    · rename_i c1
                      simp only [Option.some.injEq, Prod.mk.injEq] at h
                      obtain ⟨_, _, _, ee, rfl⟩ := g1.own_inv hob
                      cases ee
                      have hrest := (g2.allV hz).scalar.1 c1
                      subst hrest
                      exact scal (.esl :: ws) (result_scalarL (scalar_all c1).2) rfl h.1.symm h.2.symm
                    · simp at h
                  · simp at h
                · simp at h
            · simp at h
          · simp at h
        · simp at h
      · rename_i hown
        split at h
        · simp at h
        · rename_i hd
          split at h
          · rename_i os hh
            split at h
            · rename_i rs m' hc
              split at h
              · rename_i zs m2 hz hb
                simp only [Option.some.injEq, Prod.mk.injEq] at h; obtain ⟨rfl, rfl⟩ := h
                obtain ⟨n, y, H', Z', e1, e2, e3, e4, e5⟩ := dirS_ok (Rv := Rv) hS hk r ha hh hc hz hb
                exact ⟨n, y, H', ν, Z', fun k hkn => hplace (by unfold dirCall; rw [if_neg hown]; exact e1 k hkn), e2, e3, e4, fun h => absurd h hd, fun e ob' _ => e5 e ob'⟩
              · simp at h
            · simp at h
          · simp at h
    · simp at h
  · rename_i hk
    have hk' : S.E.keep f = false := by simpa using hk
    split at h
    · rename_i as hs
      split at h
      · rename_i hl
        simp only [Bool.and_eq_true, Bool.or_eq_true] at hl
        split at h
        · rename_i rs m' hc
          split at h
          · rename_i zs hz
            split at h
            · rename_i hcnd
              simp only [Bool.and_eq_true, Bool.or_eq_true, Bool.not_eq_true'] at hcnd
              simp only [Option.some.injEq, Prod.mk.injEq] at h; obtain ⟨rfl, rfl⟩ := h
              obtain ⟨n, H', e1, e2, e3, e4⟩ := isoS_ok (Rv := Rv) hS hdr hnow hold r ha hk' hs hl.1 (by simpa using hl.2) hc hz hcnd.1 hcnd.2
              exact ⟨n, _, H', ν, Z, e1, e2, e3, e4, fun _ => rfl, .refl⟩
            · simp at h
          · simp at h
        · simp at h
      · simp at h
    · simp at h
end
end Go.VE
namespace Go.VE
structure CX where
  E : Env
  nm : FuncId → Option Nat
  nt : Nat
def gdOf (ops : List Oper) (o : Oper) : Option (Option (Nat × Bool)) :=
  match o.guard with
  | none => some none
  | some (j, b) => ((ops[j]?).bind (·.dst)).map fun d => some (d, b)
def dstOk (nt : Nat) : Option Nat → Bool
  | none => true
  | some d => decide (d < nt)
def farK (draw : Bool) (ops : List Oper) (i : Nat) (k : K) (os : List Operand) : K × List Operand × Bool :=
  if draw && !loudOk ops i then match k, os, farS ops i with
    | .l (.store n), .tmp a' :: os', some (a, l) => if a' = a then (.l (.storeF n), (.tmp a' :: os') ++ l.map .tmp, true) else (k, os, false)
    | _, _, _ => (k, os, false)
  else (k, os, draw && loudOk ops i)
theorem farK_cases (draw : Bool) (ops : List Oper) (i : Nat) (k : K) (os : List Operand) : farK draw ops i k os = (k, os, draw && loudOk ops i) ∨
    (draw = true ∧ loudOk ops i = false ∧ ∃ n a l os', k = .l (.store n) ∧ os = .tmp a :: os' ∧ farS ops i = some (a, l) ∧ farK draw ops i k os = (.l (.storeF n), os ++ l.map .tmp, true)) := by
  unfold farK
  split
  · rename_i h
    simp only [Bool.and_eq_true, Bool.not_eq_true'] at h
    split
    · rename_i n a' os' a l hk
      split
      · rename_i e; subst e
        refine .inr ⟨h.1, h.2, n, a', l, os', rfl, rfl, hk, ?_⟩
        simp only [farK, h.1, h.2, hk, Bool.not_false, Bool.and_self, if_true]
      · exact .inl (by rw [h.2, Bool.and_false])
    · exact .inl (by rw [h.2, Bool.and_false])
  · exact .inl rfl
theorem farK_false (ops : List Oper) (i : Nat) (k : K) (os : List Operand) : farK false ops i k os = (k, os, false) := rfl
def compO (X : CX) (draw : Bool) (ops : List Oper) (i : Nat) (o : Oper) : Option RO :=
  if dstOk X.nt o.dst then
    match gdOf ops o, resolve X.E X.nm o.op with
    | some gd, some (k, os) => if kGood k then ((farK draw ops i k os).2.1.mapM (argN X.nm)).map fun as => ⟨o.dst, gd, (farK draw ops i k os).2.2, (farK draw ops i k os).1, as, [], []⟩ else none
    | _, _ => none
  else none
structure Good (X : CX) (S : Sys) : Prop where
  E : X.E = S.E
  N : ∀ f s, X.nm f = some s → S.N s = f
section
variable {Rv : Nat → Prop} {ν ν' : Nu} {Z Z' : Nat → Prop} {st st' : St} {m m' : Tb SOb} {F F' : Frame} {H H' H1 : Heap} {S : Sys} {c : CallS} {X : CX}
def Old (b : Nat) (fr : List Nat) (ν : Nu) (Z : Nat → Prop) (m : Tb SOb) : Prop := (∀ d ob, tget m d = some ob → backed ob = true → d ∉ fr → (ν d).1 < b) ∧ ∀ id, Z id → id < b
theorem oldRead_says {fr : List Nat} : ∀ {svs : List SV}, oldRead fr svs = true → ∀ d ∈ fr, SV.saysL d svs = false
  | [], _, d, _ => rfl
  | .v _ :: r, h, d, hd => by simp only [SV.saysL, SV.says, Bool.false_or]; exact oldRead_says (svs := r) (by simpa [oldRead] using h) d hd
  | .ptr e _ :: r, h, d, hd => by
    simp only [oldRead, Bool.and_eq_true, Bool.not_eq_true', List.contains_eq_mem, decide_eq_false_iff_not] at h
    simp only [SV.saysL, SV.says, Bool.or_eq_false_iff, beq_eq_false_iff_ne]
    exact ⟨fun e => h.1 (e ▸ hd), oldRead_says h.2 d hd⟩
  | .el e _ _ :: r, h, d, hd => by
    simp only [oldRead, Bool.and_eq_true, Bool.not_eq_true', List.contains_eq_mem, decide_eq_false_iff_not] at h
    simp only [SV.saysL, SV.says, Bool.or_eq_false_iff, beq_eq_false_iff_ne]
    exact ⟨fun e => h.1 (e ▸ hd), oldRead_says h.2 d hd⟩
  | .mp e :: r, h, d, hd => by
    simp only [oldRead, Bool.and_eq_true, Bool.not_eq_true', List.contains_eq_mem, decide_eq_false_iff_not] at h
    simp only [SV.saysL, SV.says, Bool.or_eq_false_iff, beq_eq_false_iff_ne]
    exact ⟨fun e => h.1 (e ▸ hd), oldRead_says h.2 d hd⟩
  | .own _ :: r, h, _, _ => by simp [oldRead] at h
  | .clo .. :: r, h, _, _ => by simp [oldRead] at h
  | .tup _ :: r, h, _, _ => by simp [oldRead] at h
  | .yl _ :: r, h, _, _ => by simp [oldRead] at h
def DoesS (S : Sys) (ops : List Oper) (place : Option (Nat × Nat)) (dr : Bool) (F : Frame) (op : Op) (dst : Option Nat) (ν : Nu) (Z : Nat → Prop) (st : St) (H : Heap) (sv : SV) (st' : St) : Prop :=
  ∃ n y H' ν' Z', (∀ k, n ≤ k → doOp S.E (run S.E k) ops place F H op = some (y, H')) ∧ R ν' Z' st' F H' ∧ SVR ν' st'.m H' Z' sv y ∧ Ev (fun id => ∃ b j, place = some (b, j) ∧ id = b + j) ν Z st H ν' Z' st' H' ∧
      (dr = true → Z' = Z ∧ Kept dst ν st.m ν' st'.m)
theorem pur_ok (gd : Good X S) {ops : List Oper} {place : Option (Nat × Nat)} {dr : Bool} {op : Op} {dst : Option Nat} {p : POp} {svs : List SV} {ys : List V} (hk : kGood (.p p) = true) (r : R ν Z st F H) (rs : SVRL ν st.m H Z svs ys)
    (hres : KSpec X.E S.N F op ys (.p p)) {sv : SV} (h : (pureS S.N st.m p svs).map (fun x => (x, st)) = some (sv, st')) : DoesS S ops place dr F op dst ν Z st H sv st' := by
  obtain ⟨x, hx, e⟩ := Option.map_eq_some_iff.1 h
  simp only [Prod.mk.injEq] at e; obtain ⟨rfl, rfl⟩ := e
  obtain ⟨y, hy, hyy⟩ := pureS_ok (N := S.N) (fun zero pl e => by subst e; simpa [kGood] using hk) r.obj rs hx
  obtain ⟨h1, h2⟩ := hres
  exact ⟨0, y, H, ν, Z, fun q _ => by unfold doOp; rw [h1]; simp only [← gd.E, h2 y hy, Option.map_some], r, hyy, .refl, fun _ => ⟨rfl, .refl⟩⟩
theorem evs_app : ∀ {l1 l2 : List Operand} {vs : List V}, evs F (l1 ++ l2) = some vs → ∃ v1 v2, evs F l1 = some v1 ∧ evs F l2 = some v2 ∧ vs = v1 ++ v2
  | [], l2, vs, h => ⟨[], vs, rfl, h, rfl⟩
  | x :: l1, l2, vs, h => by
    obtain ⟨a, as, h1, h2, rfl⟩ := evs_cons h
    obtain ⟨v1, v2, g1, g2, rfl⟩ := evs_app h2
    exact ⟨a :: v1, v2, by simp only [evs, h1, g1], g2, rfl⟩
theorem evs_tmps : ∀ {l : List Nat} {vs : List V}, evs F (l.map Operand.tmp) = some vs → vs = l.map (get F)
  | [], vs, h => evs_nil h
  | x :: l, vs, h => by
    obtain ⟨a, as, h1, h2, rfl⟩ := evs_cons h
    simp only [ev, Option.some.injEq] at h1; subst h1
    rw [evs_tmps h2]; rfl
theorem far_ok (gd : Good X S) {call : CallF} {ops : List Oper} {b j n a : Nat} {l : List Nat} {o : Oper} {os' : List Operand} {ys : List V} {y : V} (hr : resolve X.E X.nm o.op = some (.l (.store n), .tmp a :: os')) (hys : evs F ((.tmp a :: os') ++ l.map Operand.tmp) = some ys)
    (hfs : farS ops j = some (a, l)) (hnl : loudOk ops j = false) (e1 : leval H (.storeF n) ys = some (y, H')) : doOp S.E call ops (some (b, j)) F H o.op = some (y, H') := by
  obtain ⟨v1, v2, h1, h2, rfl⟩ := evs_app hys
  obtain ⟨g1, g2⟩ := resolve_ok gd.N hr h1
  obtain ⟨w, ws, h3, h4, rfl⟩ := evs_cons h1
  simp only [ev, Option.some.injEq] at h3
  have hone : ∃ v, ws = [v] := by
    have hos : ∃ x, os' = [x] := by
      unfold resolve at hr
      (repeat' split at hr) <;> first | (simp at hr; done) | skip
      all_goals (try (obtain ⟨_, _, e⟩ := Option.map_eq_some_iff.1 hr; simp only [Prod.mk.injEq, K.l.injEq, LOp.store.injEq, List.cons.injEq, reduceCtorEq, false_and, and_false] at e))
      all_goals (try exact ⟨_, e.2.2.symm⟩)
    obtain ⟨x, rfl⟩ := hos
    obtain ⟨v, vs, _, h5, rfl⟩ := evs_cons h4
    rw [evs_nil h5]; exact ⟨v, rfl⟩
  obtain ⟨v, rfl⟩ := hone
  rw [evs_tmps h2, ← h3] at e1
  simp only [List.cons_append, List.nil_append] at e1
  cases hw : get F a with
  | hptr id el off =>
    rw [hw] at e1
    simp only [leval] at e1
    split at e1
    · rename_i hap
      have hf : farV ops j F = true := by
        unfold farV
        rw [hfs]
        simp only [hw]
        rw [List.all_map] at hap
        exact hap
      unfold doOp
      rw [g1]
      simp only [hf, Bool.or_true, if_true, ← gd.E]
      refine g2 _ _ ?_
      rw [← h3, hw]
      exact e1
    · simp at e1
  | _ => rw [hw] at e1; simp [leval] at e1
theorem doS_ok (gd : Good X S) (hS : SoundC S c) {ops : List Oper} {place : Option (Nat × Nat)} {dr : Bool} {fr : List Nat} {i : Nat} (hdr : dr = place.isSome) (hi : ∀ b j, place = some (b, j) → j = i)
    (hold : ∀ b j, place = some (b, j) → b ≤ H.length ∧ Old b fr ν Z st.m)
    {o : Oper} {ro : RO} (hc : compO X dr ops i o = some ro) (hfree : ∀ b j, place = some (b, j) → classOf o.op = .alloc → H[b + j]? = some .free)
    (r : R ν Z st F H) {sv : SV} (h : doS S c dr fr ro st = some (sv, st')) :
    DoesS S ops place dr F o.op (newOf ro) ν Z st H sv st' := by
  unfold compO at hc
  split at hc
  · split at hc
    · rename_i g k os hg hr
      split at hc
      · rename_i hk
        rcases farK_cases dr ops i k os with hq | ⟨hdt, hnl, n, a, l, os', rfl, rfl, hfs, hq⟩
        rotate_left
        · rw [hq] at hc
          obtain ⟨as, ha, rfl⟩ := Option.map_eq_some_iff.1 hc
          unfold doS at h
          split at h
          · rename_i svs hsv
            obtain ⟨ys, hys, rs⟩ := sargs_ok gd.N r.slot ha hsv
            simp only [hdt, Bool.not_true, Bool.false_or, if_true] at h
            obtain ⟨y, H', ν', e1, e2, e3, e4, e5⟩ := loudS_ok r rs h
            refine ⟨0, y, H', ν', Z, fun q _ => ?_, e2, e3, e4.weak (fun _ h => h.elim), fun _ => ⟨rfl, e5⟩⟩
            cases place with
            | none => rw [hdr] at hdt; cases hdt
            | some bi =>
              obtain ⟨b, j⟩ := bi
              have hji := hi b j rfl
              subst hji
              exact far_ok gd hr hys hfs hnl e1
          · simp at h
        rw [hq] at hc
        obtain ⟨as, ha, rfl⟩ := Option.map_eq_some_iff.1 hc
        unfold doS at h
        split at h
        · rename_i svs hsv
          obtain ⟨ys, hys, rs⟩ := sargs_ok gd.N r.slot ha hsv
          have hres := resolve_ok gd.N hr hys
          simp only at h
          cases k with
          | p p =>
            cases p with
            | slice size lo hi =>
              simp only at h
              split at h
              · rename_i d bs
                split at h
                · simp at h
                · rename_i hnd
                  obtain ⟨y, ν', h1, h2, h3, h4⟩ := sliceS_ok (N := S.N) (Rv := fun id => ∃ b j, place = some (b, j) ∧ id = b + j) r rs h
                  obtain ⟨g1, g2⟩ := hres
                  exact ⟨0, y, H, ν', Z, fun q _ => by unfold doOp; rw [g1]; simp only [← gd.E, g2 y h1, Option.map_some], h2, h3, h4, fun hd => absurd hd hnd⟩
              · exact pur_ok gd hk r rs hres h
            | _ => exact pur_ok gd hk r rs hres h
          | r q =>
            simp only at h
            split at h
            · rename_i hnow
              obtain ⟨x, hx, e⟩ := Option.map_eq_some_iff.1 h
              simp only [Prod.mk.injEq] at e; obtain ⟨rfl, rfl⟩ := e
              obtain ⟨g1, g2⟩ := hres
              have hzc : ∀ kk z ok, q = .lookup kk z ok → z.good = true := fun kk z ok e => by subst e; simpa [kGood] using hk
              cases place with
              | none =>
                obtain ⟨y, hy, hyy⟩ := readS_ok hzc rs (fun d _ ob hd => r.obj d ob hd) hx
                exact ⟨0, y, H, ν, Z, fun q _ => by unfold doOp; rw [g1]; simp only [← gd.E, g2 H y hy, Option.map_some], r, hyy, .refl, fun _ => ⟨rfl, .refl⟩⟩
              | some bi =>
                obtain ⟨b, j⟩ := bi
                obtain ⟨hbl, ho1, ho2⟩ := hold b j rfl
                have hdt : dr = true := hdr
                subst hdt
                have hji := hi b j rfl
                subst hji
                simp only [Bool.not_true, Bool.false_or, Bool.true_and] at hnow
                by_cases hlo : loudOk ops j = true
                · obtain ⟨y, hy, hyy⟩ := readS_ok hzc rs (fun d _ ob hd => r.obj d ob hd) hx
                  have hH := g2 H y hy
                  refine ⟨0, y, H, ν, Z, fun q _ => ?_, r, hyy, .refl, fun _ => ⟨rfl, .refl⟩⟩
                  unfold doOp; rw [g1]
                  simp only [← gd.E]
                  split
                  · rename_i v hv
                    have := evalRead_take hv
                    rw [hH] at this; cases this; rfl
                  · rw [if_pos hlo, hH]; rfl
                · have hol : oldRead fr svs = true := by simpa [hlo] using hnow
                  have hzr : ∀ id, Z id → Z id ∧ rowsAt (H.take b) id = rowsAt H id := fun id h => ⟨h, rowsAt_take (ho2 id h)⟩
                  have hzr' : ∀ id, Z id → Z id ∧ rowsAt H id = rowsAt (H.take b) id := fun id h => ⟨h, (rowsAt_take (ho2 id h)).symm⟩
                  obtain ⟨y, hy, hyy⟩ := readS_ok (H := H.take b) hzc (rs.mono hzr fun e _ => same_self ν st.m e) (fun d hd ob hob => by
                    have hnf : d ∉ fr := fun hf => by rw [oldRead_says hol d hf] at hd; cases hd
                    exact ObR.mono hzr rfl (fun hb => by rw [List.getElem?_take, if_pos (ho1 d ob hob hb hnf)]) (fun e _ => same_self ν st.m e) (r.obj d ob hob)) hx
                  refine ⟨0, y, H, ν, Z, fun q _ => ?_, r, hyy.mono hzr' (fun e _ => same_self ν st.m e), .refl, fun _ => ⟨rfl, .refl⟩⟩
                  unfold doOp; rw [g1]
                  simp only [← gd.E, g2 (H.take b) y hy]
            · simp at h
          | a q =>
            simp only at h
            split at h
            · rename_i d hd
              split at h
              · rename_i hnew
                obtain ⟨⟨ob, x⟩, hx, e⟩ := Option.map_eq_some_iff.1 h
                simp only [Prod.mk.injEq] at e; obtain ⟨rfl, rfl⟩ := e
                obtain ⟨obv, mk, e1, e2, e3, e4⟩ := allocS_ok hk rs hx
                obtain ⟨g1, g2⟩ := hres
                obtain ⟨n1, n2, n3, n4⟩ := new_spec hnew
                have hsame : ∀ p : Nat × Nat, ∀ e, SV.saysL e svs = true → ∀ ob', tget (tput st.m d ob) e = some ob' → ∃ ob, tget st.m e = some ob ∧ nuAt ν d p e = ν e ∧ sameShape ob ob' := fun p e he => by
                  refine new_same ?_
                  rintro rfl
                  have : ∀ {xs : List Arg} {vs : List SV}, sargs S.N st.g xs = some vs → SV.saysL e vs = false := by
                    intro xs
                    induction xs with
                    | nil => intro vs h; simp only [sargs, Option.some.injEq] at h; subst h; rfl
                    | cons a xs ih =>
                      intro vs h
                      simp only [sargs] at h
                      split at h
                      · rename_i v vs' h1 h2
                        simp only [Option.some.injEq] at h; subst h
                        simp only [SV.saysL, Bool.or_eq_false_iff]
                        refine ⟨?_, ih h2⟩
                        cases a with
                        | s n => exact saysG_of n3 h1
                        | k c => simp only [sarg, Option.some.injEq] at h1; subst h1; rfl
                        | f s => simp only [sarg, Option.some.injEq] at h1; subst h1; rfl
                      · simp at h
                  rw [this hsv] at he; cases he
                have fin : ∀ (id : Nat) (Hn : Heap), H.length ≤ Hn.length → Hn[id]? = some obv → (∀ k, k < H.length → k ≠ id → Hn[k]? = H[k]?) → (∀ k, Own ν st.m k → k ≠ id) → (∀ k, Z k → k ≠ id) →
                    R (nuAt ν d (id, 0)) Z { st with m := tput st.m d ob } F Hn ∧ SVR (nuAt ν d (id, 0)) (tput st.m d ob) Hn Z x (mk.val id) ∧ (∀ k, Z k → rowsAt Hn k = rowsAt H k) := fun id Hn hl hid hk' ho hz => by
                  have hzr : ∀ k, Z k → rowsAt Hn k = rowsAt H k := fun k hk => by unfold rowsAt; rw [hk' k (r.zlt hk) (hz k hk)]
                  obtain ⟨a1, a2⟩ := e4 id (nuAt ν d (id, 0)) (tput st.m d ob) Hn (nuAt_eq _ _ _) (tget_tput_eq _ _ _) hid hzr (hsame _)
                  have r2 : R ν Z st F Hn := r.heap (fun k hk => hk' k (r.lt hk) (ho k hk)) hzr
                  exact ⟨r2.add hnew (fun _ => ⟨fun h => ho _ h rfl, fun h => hz _ h rfl⟩) a1, a2, hzr⟩
                have hdst : o.dst = some d := hd
                cases place with
                | none =>
                  obtain ⟨f1, f2, f3⟩ := fin H.length (H ++ [obv]) (by simp) (by simp) (fun k hk _ => List.getElem?_append_left hk) (fun k hk => Nat.ne_of_lt (r.lt hk)) (fun k hk => Nat.ne_of_lt (r.zlt hk))
                  refine ⟨0, mk.val H.length, H ++ [obv], nuAt ν d (H.length, 0), Z, fun q _ => ?_, f1, f2, Ev.add hnew (by simp) (fun k hk _ => List.getElem?_append_left hk) f3 (fun _ => .inr (Nat.le_refl _)), fun hh => ?_⟩
                  · unfold doOp; rw [g1]
                    simp only [← gd.E, g2 _ e1]
                  · rw [hdr] at hh; cases hh
                | some bi =>
                  obtain ⟨b, j⟩ := bi
                  have hf := hfree b j rfl g1
                  have hlt := (List.getElem?_eq_some_iff.1 hf).1
                  have nf : ∀ k, Own ν st.m k → k ≠ b + j := fun k hk e => by
                    subst e
                    obtain ⟨d', ob', w1, w2, w3⟩ := hk
                    have := r.obj d' ob' w1
                    cases ob' with
                    | sl fl es xs =>
                      simp only [backed] at w2
                      simp only [ObR, w2, if_true] at this
                      obtain ⟨_, hr', _⟩ := this
                      rw [w3, hf] at hr'; cases hr'
                    | box cs => obtain ⟨_, _, hr', _⟩ := this; rw [w3, hf] at hr'; cases hr'
                    | mp kvs => obtain ⟨_, hr', _⟩ := this; rw [w3, hf] at hr'; cases hr'
                  have nz : ∀ k, Z k → k ≠ b + j := fun k hk e => by
                    subst e
                    have := r.zrow _ hk
                    unfold rowsAt at this; rw [hf] at this; simp [Ob.rows] at this
                  obtain ⟨f1, f2, f3⟩ := fin (b + j) (H.set (b + j) obv) (by simp) (by rw [List.getElem?_set_self hlt]) (fun k _ hk => by rw [List.getElem?_set, if_neg (Ne.symm hk)]) nf nz
                  refine ⟨0, mk.val (b + j), H.set (b + j) obv, nuAt ν d (b + j, 0), Z, fun q _ => ?_, f1, f2, Ev.add hnew (by simp) (fun k _ hk => ?_) f3 (fun _ => .inl ⟨b, j, rfl, rfl⟩), fun _ => ⟨rfl, ?_⟩⟩
                  · unfold doOp; rw [g1]
                    simp only [← gd.E, g2 _ e1, hf]
                  · rw [List.getElem?_set, if_neg fun e => hk ⟨b, j, rfl, e.symm⟩]
                  · have : newOf ⟨o.dst, g, dr && loudOk ops j, .a q, as, [], []⟩ = some d := hdst
                    have hji := hi b j rfl
                    subst hji
                    rw [this]; exact Kept.add fun _ _ h => h
              · simp at h
            · simp at h
          | l q =>
            simp only at h
            split at h
            · rename_i hnow
              obtain ⟨y, H', ν', e1, e2, e3, e4, e5⟩ := loudS_ok r rs h
              obtain ⟨g1, g2⟩ := hres
              refine ⟨0, y, H', ν', Z, fun q _ => ?_, e2, e3, e4.weak (fun _ h => h.elim), fun _ => ⟨rfl, e5⟩⟩
              unfold doOp; rw [g1]
              simp only [← gd.E]
              cases place with
              | none => exact g2 _ _ e1
              | some bi =>
                obtain ⟨b, j⟩ := bi
                have hdt : dr = true := hdr
                subst hdt
                have hji := hi b j rfl
                subst hji
                have hlo : loudOk ops j = true := by simpa using hnow
                simp only [hlo, if_true]; exact g2 _ _ e1
            · simp at h
          | c =>
            simp only at h
            obtain ⟨g1, f', as', e1, e2⟩ := hres
            have go : ∀ (f : FuncId) (args : List SV) (ys2 : List V), SVRL ν st.m H Z args ys2 → calleeOf F o.op = some (.fn f, ys2) → callS S c o.dst dr (!dr || (dr && loudOk ops i)) (oldArgs st.m fr) f args st = some (sv, st') →
                DoesS S ops place dr F o.op (newOf ⟨o.dst, g, dr && loudOk ops i, .c, as, [], []⟩) ν Z st H sv st' := fun f args ys2 hrl hcal hcs => by
              obtain ⟨n, y, H', ν', Z', p1, p2, p3, p4, p5, p6⟩ := callS_ok (ops := ops) (Rv := fun id => ∃ b j, place = some (b, j) ∧ id = b + j) hS hdr (fun b j hp hn => by
                have := hi b j hp; subst this
                simp only [Bool.and_eq_true] at hn; exact hn.2) (fun b j hp => (hold b j hp).2) r hrl hcs
              refine ⟨n, y, H', ν', Z', fun q hq => ?_, p2, p3, p4, fun hd => ⟨p5 hd, p6⟩⟩
              unfold doOp; rw [g1]
              simp only [hcal]
              exact p1 q hq
            split at h
            · rename_i f a b vs
              obtain ⟨w, ws, ew, r1, r2⟩ := rs.inv
              rw [ew] at e1
              simp only [List.cons.injEq] at e1
              obtain ⟨rfl, rfl⟩ := e1
              obtain ⟨a', b', rfl, ra, rb⟩ := r1.clo_inv
              exact go f _ _ ((ra.append r2).append rb) e2 h
            · rename_i f a b vs
              obtain ⟨w, ws, ew, r1, r2⟩ := rs.inv
              rw [ew] at e1
              simp only [List.cons.injEq] at e1
              obtain ⟨rfl, rfl⟩ := e1
              obtain ⟨a', b', rfl, ra, rb⟩ := r1.fr.clo_inv
              exact go f _ _ (((SVRL.ofFRL ra).append r2).append (SVRL.ofFRL rb)) e2 h
            · simp at h
        · simp at h
      · simp at hc
    · simp at hc
  · simp at hc
end
end Go.VE
namespace Go.VE
def yieldArgs (N : Nat → FuncId) (g : Tb SV) (o : RO) : Option (Nat × List SV) :=
  match o.k, sargs N g o.as with
  | .c, some (.yl id :: vs) => some (id, vs)
  | _, _ => none
open Classical in
noncomputable def sop (S : Sys) (c : CallS) (dr : Bool) (fr : List Nat) (o : RO) (st : St) : Option St :=
  match wanted st.g o.gd with
  | some true => match yieldArgs S.N st.g o with
    | some (id, vs) => if dr then none else match allV vs, st.want with
      | some xs, w :: ws => if xs = w ∧ id = st.yid then some (putO { st with want := ws } o.dst (.v (.bool (st.more || !ws.isEmpty)))) else none
      | _, _ => none
    | none => (doS S c dr fr o st).map fun (x, st') => putO st' o.dst x
  | some false => some (putO st o.dst (.v .undef))
  | none => none
def RO.strip (o : RO) : RO := { o with dead := [], pre := [] }
def ghosts : List Gh → St → Option St
  | [], st => some st
  | x :: r, st => (ghost x st).bind (ghosts r)
def preG (dr : Bool) (l : List Gh) (st : St) : Option St := if dr then (if l.isEmpty then some st else none) else ghosts l st
def dropD (ds : List Nat) (st : St) : St := { st with g := tdels ds st.g }
noncomputable def sops (S : Sys) (c : CallS) (dr : Bool) : List Nat → List RO → St → Option St
  | _, [], st => some st
  | fr, o :: r, st => match (preG dr o.pre st).bind (sop S c dr fr o.strip) with
    | some st' => sops S c dr (if dr then freshS fr o.strip else fr) r (dropD o.dead st')
    | none => none
abbrev JT := List (List V) → (Nat → Prop) → (Nat → Prop) → Heap → Prop
structure Yc (S : Sys) (J : JT) (more : Bool) (yid : Nat) : Prop where
  stab : ∀ w O Z H O' Z' H', J w O Z H → H.length ≤ H'.length → (∀ i, i < H.length → ¬ O i → ¬ Z i → H'[i]? = H[i]?) → (∀ i, Z i → Z' i ∧ rowsAt H' i = rowsAt H i) →
    (∀ i, O' i → O i ∨ H.length ≤ i) → (∀ i, Z' i → Z i ∨ O i ∨ H.length ≤ i) → J w O' Z' H'
  yield : ∀ x ws O Z H args, J (x :: ws) O Z H → FRL H Z x args → (∀ i, Z i → (rowsAt H i).isSome = true) → Deep H Z → (∀ i, O i → ¬ Z i ∧ i < H.length) →
    ∃ n H', run S.E n (.yld yid) args H = some (.bool (more || !ws.isEmpty), H') ∧ J ws O Z H' ∧ H.length ≤ H'.length ∧ (∀ i, O i → H'[i]? = H[i]?) ∧ (∀ i, Z i → rowsAt H' i = rowsAt H i)
structure Fix (ν : Nu) (st : St) (ν' : Nu) (st' : St) : Prop where
  pin : ∀ d ∈ st.pin, ∀ ob', tget st'.m d = some ob' → ∃ ob, tget st.m d = some ob ∧ ν' d = ν d ∧ sameShape ob ob'
  pins : st'.pin = st.pin
  more : st'.more = st.more
  yid : st'.yid = st.yid
section
variable {Rv : Nat → Prop} {ν ν' ν2 : Nu} {Z Z' : Nat → Prop} {st st' st2 : St} {m m' : Tb SOb} {F F' : Frame} {H H' H1 : Heap} {S : Sys} {c : CallS} {X : CX} {J : JT}
theorem Fix.refl : Fix ν st ν st := ⟨fun _ _ ob' h => ⟨ob', h, rfl, .refl _⟩, rfl, rfl, rfl⟩
theorem Fix.trans (a : Fix ν st ν' st') (b : Fix ν' st' ν2 st2) : Fix ν st ν2 st2 :=
  ⟨fun d hd ob2 h => by
    obtain ⟨ob1, h1, h2, h3⟩ := b.pin d (by rw [a.pins]; exact hd) ob2 h
    obtain ⟨ob, k1, k2, k3⟩ := a.pin d hd ob1 h1
    exact ⟨ob, k1, by rw [h2, k2], k3.trans h3⟩, by rw [b.pins, a.pins], by rw [b.more, a.more], by rw [b.yid, a.yid]⟩
theorem Ev.beside (y : Yc S J st.more st.yid) (a : Ev (fun _ => False) ν Z st H ν' Z' st' H') (hw : st'.want = st.want) (j : J st.want (Own ν st.m) Z H) : J st'.want (Own ν' st'.m) Z' H' := by
  rw [hw]
  exact y.stab _ _ _ _ _ _ _ j a.len (fun i h1 h2 h3 => a.same i h1 h2 h3 (fun h => h)) a.rows (fun i h => (a.own i h).imp (fun h => h) (fun h => h.elim (fun h => h.elim) (fun h => h)))
    (fun i h => (a.frz i h).imp (fun h => h) (fun h => h.imp (fun h => h) (fun h => h.elim (fun h => h.elim) (fun h => h))))
theorem wantedS_ok (hs : ∀ s sv, tget st.g s = some sv → SVR ν m H Z sv (get F s)) {ops : List Oper} {o : Oper} {gd : Option (Nat × Bool)} (hg : gdOf ops o = some gd) {t : Bool} (hw : wanted st.g gd = some t) : wantedV ops F o = t := by
  unfold gdOf at hg
  unfold wantedV
  cases hgd : o.guard with
  | none =>
    rw [hgd] at hg
    simp only [Option.some.injEq] at hg; subst hg
    simp only [wanted, Option.some.injEq] at hw; subst hw; rfl
  | some jb =>
    obtain ⟨j, b⟩ := jb
    rw [hgd] at hg
    simp only at hg
    obtain ⟨d, hd, rfl⟩ := Option.map_eq_some_iff.1 hg
    simp only [hd]
    simp only [wanted] at hw
    split at hw
    · rename_i c hc
      simp only [Option.some.injEq] at hw; subst hw
      rw [(hs d _ hc).fr.bool]
    · rename_i x hx hc
      simp only [Option.some.injEq] at hw; subst hw
      have hfr := (hs d _ hc).fr
      split
      · rename_i c hcc
        rw [hcc] at hfr
        cases hfr
        exact absurd rfl (hx c)
      · rfl
    · simp at hw
theorem doS_want {dr : Bool} {fr : List Nat} {ro : RO} {sv : SV} (h : doS S c dr fr ro st = some (sv, st')) : st'.want = st.want ∧ st'.pin = st.pin ∧ st'.more = st.more ∧ st'.yid = st.yid := by
  unfold doS at h
  split at h
  · split at h
    · split at h
      · split at h
        · simp at h
        · unfold sliceS at h
          split at h
          · split at h
            · obtain ⟨_, _, h⟩ := Option.bind_eq_some_iff.1 h
              obtain ⟨_, _, h⟩ := Option.bind_eq_some_iff.1 h
              dsimp only at h
              split at h
              · simp only [Option.some.injEq, Prod.mk.injEq] at h; obtain ⟨_, rfl⟩ := h; exact ⟨rfl, rfl, rfl, rfl⟩
              · simp at h
            · simp at h
          · simp at h
      · obtain ⟨_, _, e⟩ := Option.map_eq_some_iff.1 h
        simp only [Prod.mk.injEq] at e; obtain ⟨_, rfl⟩ := e; exact ⟨rfl, rfl, rfl, rfl⟩
    · obtain ⟨_, _, e⟩ := Option.map_eq_some_iff.1 h
      simp only [Prod.mk.injEq] at e; obtain ⟨_, rfl⟩ := e; exact ⟨rfl, rfl, rfl, rfl⟩
    · split at h
      · obtain ⟨_, _, e⟩ := Option.map_eq_some_iff.1 h
        simp only [Prod.mk.injEq] at e; obtain ⟨_, rfl⟩ := e; exact ⟨rfl, rfl, rfl, rfl⟩
      · simp at h
    · split at h
      · split at h
        · obtain ⟨_, _, e⟩ := Option.map_eq_some_iff.1 h
          simp only [Prod.mk.injEq] at e; obtain ⟨_, rfl⟩ := e; exact ⟨rfl, rfl, rfl, rfl⟩
        · simp at h
      · simp at h
    · split at h
      · unfold loudS at h
        (repeat' split at h) <;> first | (simp at h; done) | (simp only [Option.some.injEq, Prod.mk.injEq] at h; obtain ⟨_, rfl⟩ := h; exact ⟨rfl, rfl, rfl, rfl⟩) | (obtain ⟨_, _, e⟩ := Option.map_eq_some_iff.1 h; simp only [Prod.mk.injEq] at e; obtain ⟨_, rfl⟩ := e; exact ⟨rfl, rfl, rfl, rfl⟩) | skip
        · dsimp only at h
          (repeat' split at h) <;> first | (simp at h; done) | (simp only [Option.some.injEq, Prod.mk.injEq] at h; obtain ⟨_, rfl⟩ := h; exact ⟨rfl, rfl, rfl, rfl⟩)
      · simp at h
    · have hc : ∀ {dst dr now old f args}, callS S c dst dr now old f args st = some (sv, st') → st'.want = st.want ∧ st'.pin = st.pin ∧ st'.more = st.more ∧ st'.yid = st.yid := by
        intro dst dr now old f args h
        unfold callS at h
        (repeat' split at h) <;> first | (simp at h; done) | (simp only [Option.some.injEq, Prod.mk.injEq] at h; obtain ⟨_, rfl⟩ := h; exact ⟨rfl, rfl, rfl, rfl⟩)
      split at h
      · exact hc h
      · exact hc h
      · simp at h
  · simp at h
theorem putN_ok (r : R ν Z st F H) {nt : Nat} {dst : Option Nat} (hd : dstOk nt dst = true) {sv : SV} {y : V} (h : SVR ν st.m H Z sv y) : ∃ F', putN nt F dst y = some F' ∧ R ν Z (putO st dst sv) F' H := by
  cases dst with
  | none => exact ⟨F, rfl, r⟩
  | some d =>
    have : d < nt := by simpa [dstOk] using hd
    exact ⟨set F d y, by simp only [putN, if_pos this], r.put h⟩
theorem putO_m (st : St) (dst : Option Nat) (sv : SV) : (putO st dst sv).m = st.m ∧ (putO st dst sv).want = st.want ∧ (putO st dst sv).pin = st.pin ∧ (putO st dst sv).more = st.more ∧ (putO st dst sv).yid = st.yid := by
  cases dst <;> exact ⟨rfl, rfl, rfl, rfl, rfl⟩
theorem step_ok (gd : Good X S) (hS : SoundC S c) {ops : List Oper} {place : Option (Nat × Nat)} {dr : Bool} {fr : List Nat} {i : Nat} (hdr : dr = place.isSome) (hi : ∀ b j, place = some (b, j) → j = i)
    (hold : ∀ b j, place = some (b, j) → b ≤ H.length ∧ Old b fr ν Z st.m)
    {o : Oper} {ro : RO} (hc : compO X dr ops i o = some ro) (hfree : ∀ b j, place = some (b, j) → classOf o.op = .alloc → H[b + j]? = some .free)
    (r : R ν Z st F H) (hny : yieldArgs S.N st.g ro = none ∨ dr = true) (h : sop S c dr fr ro st = some st') :
    ∃ n F' H' ν' Z', (∀ k, n ≤ k → stepV S.E (run S.E k) X.nt ops place o F H = some (F', H')) ∧ R ν' Z' st' F' H' ∧ Ev (fun id => ∃ b j, place = some (b, j) ∧ id = b + j) ν Z st H ν' Z' st' H' ∧
      (dr = true → Z' = Z ∧ Kept (newOf ro) ν st.m ν' st'.m) ∧ st'.want = st.want ∧ Fix ν st ν' st' := by
  have hc0 := hc
  unfold compO at hc
  split at hc
  · rename_i hdst
    split at hc
    · rename_i g k os hg hr
      split at hc
      · obtain ⟨as, ha, rfl⟩ := Option.map_eq_some_iff.1 hc
        unfold sop at h
        split at h
        · rename_i hw
          have hwv := wantedS_ok r.slot hg hw
          have h2 : (doS S c dr fr ⟨o.dst, g, (farK dr ops i k os).2.2, (farK dr ops i k os).1, as, [], []⟩ st).map (fun (x, st') => putO st' o.dst x) = some st' := by
            split at h
            · rename_i id vs hya
              rcases hny with hny | hny
              · rw [hny] at hya; cases hya
              · subst hny; simp at h
            · exact h
          obtain ⟨⟨x, st1⟩, hd, rfl⟩ := Option.map_eq_some_iff.1 h2
          obtain ⟨n, y, H', ν', Z', e1, e2, e3, e4, e5⟩ := doS_ok gd hS hdr hi hold hc0 hfree r hd
          obtain ⟨w1, w2, w3, w4⟩ := doS_want hd
          obtain ⟨F', f1, f2⟩ := putN_ok e2 hdst e3
          obtain ⟨p1, p2, p3, p4, p5⟩ := putO_m st1 o.dst x
          refine ⟨n, F', H', ν', Z', fun k hk => ?_, f2, ?_, fun hd => ⟨(e5 hd).1, by rw [p1]; exact (e5 hd).2⟩, by rw [p2, w1], ⟨fun d hd => by rw [p1]; exact e4.pin d hd, by rw [p3, w2], by rw [p4, w3], by rw [p5, w4]⟩⟩
          · unfold stepV
            simp only [hwv, if_true, e1 k hk, f1, Option.map_some]
          · exact ⟨e4.len, e4.same, e4.rows, fun id h => e4.own id (by rw [p1] at h; exact h), e4.frz, fun d hd => by rw [p1]; exact e4.pin d hd, by rw [p3, w2]⟩
        · rename_i hw
          have hwv := wantedS_ok r.slot hg hw
          simp only [Option.some.injEq] at h; subst h
          obtain ⟨F', f1, f2⟩ := putN_ok r hdst (.v V.undef V.undef (.same _ rfl))
          obtain ⟨p1, p2, p3, p4, p5⟩ := putO_m st o.dst (.v .undef)
          refine ⟨0, F', H, ν, Z, fun k _ => ?_, f2, ?_, fun _ => ⟨rfl, by rw [p1]; exact .refl⟩, p2, ⟨fun d hd => by rw [p1]; exact fun ob' h => ⟨ob', h, rfl, .refl _⟩, p3, p4, p5⟩⟩
          · unfold stepV
            simp only [hwv, Bool.false_eq_true, if_false, f1, Option.map_some]
          · exact ⟨Nat.le_refl _, fun _ _ _ _ _ => rfl, fun _ h => ⟨h, rfl⟩, fun _ h => .inl (by rw [p1] at h; exact h), fun _ h => .inl h, fun d hd => by rw [p1]; exact fun ob' h => ⟨ob', h, rfl, .refl _⟩, p3⟩
        · simp at h
      · simp at hc
    · simp at hc
  · simp at hc
theorem yield_ok (gd : Good X S) (y : Yc S J st.more st.yid) {ops : List Oper} {fr : List Nat} {i : Nat} {o : Oper} {ro : RO} (hc : compO X false ops i o = some ro)
    (r : R ν Z st F H) (j : J st.want (Own ν st.m) Z H) {id : Nat} {vs : List SV} (hya : yieldArgs S.N st.g ro = some (id, vs)) (hw0 : wanted st.g ro.gd = some true) (h : sop S c false fr ro st = some st') :
    ∃ n F' H', (∀ k, n ≤ k → stepV S.E (run S.E k) X.nt ops none o F H = some (F', H')) ∧ R ν Z st' F' H' ∧ J st'.want (Own ν st'.m) Z H' ∧ Fix ν st ν st' := by
  unfold compO at hc
  split at hc
  · rename_i hdst
    split at hc
    · rename_i g k os hg hr
      split at hc
      · obtain ⟨as, ha, rfl⟩ := Option.map_eq_some_iff.1 hc
        unfold sop at h
        simp only at hw0
        have hwv := wantedS_ok r.slot hg hw0
        rw [hw0] at h
        simp only [hya, Bool.false_eq_true, if_false] at h
        unfold yieldArgs at hya
        split at hya
        · rename_i id' vs' hk hsa
          simp only [Option.some.injEq, Prod.mk.injEq] at hya
          obtain ⟨rfl, rfl⟩ := hya
          simp only at hk hsa
          subst hk
          obtain ⟨ys, hys, rs⟩ := sargs_ok gd.N r.slot ha hsa
          obtain ⟨g1, f', as', e1, e2⟩ := resolve_ok gd.N hr hys
          obtain ⟨w, ws, ew, r1, r2⟩ := rs.inv
          rw [ew] at e1
          simp only [List.cons.injEq] at e1
          obtain ⟨rfl, rfl⟩ := e1
          cases r1
          simp only at e2
          split at h
          · rename_i xs x wl hx hwant
            split at h
            · rename_i hcond
              obtain ⟨rfl, rfl⟩ := hcond
              simp only [Option.some.injEq] at h; subst h
              rw [hwant] at j
              obtain ⟨n, H', p1, p2, p3, p4, p5⟩ := y.yield _ _ _ _ _ _ j (r2.allV hx) r.zrow r.deep (fun i hi => ⟨by obtain ⟨d, ob, h1, h2, rfl⟩ := hi; exact r.apart d ob h1 h2, r.lt hi⟩)
              have r3 : R ν Z st F H' := r.heap p4 p5
              have r4 : R ν Z { st with want := wl } F H' := ⟨r3.slot, r3.obj, r3.inj, r3.apart, r3.zrow, r3.deep⟩
              obtain ⟨F', f1, f2⟩ := putN_ok (st := { st with want := wl }) r4 hdst (sv := .v (.bool (st.more || !wl.isEmpty))) (.v _ _ (.same _ rfl))
              obtain ⟨q1, q2, q3, q4, q5⟩ := putO_m { st with want := wl } o.dst (.v (.bool (st.more || !wl.isEmpty)))
              refine ⟨n, F', H', fun k hk => ?_, f2, by rw [q1, q2]; exact p2, ⟨fun d hd => by rw [q1]; exact fun ob' h => ⟨ob', h, rfl, .refl _⟩, q3, q4, q5⟩⟩
              unfold stepV doOp
              rw [g1, e2]
              simp only [hwv, if_true, run_le S.E hk _ _ _ _ p1, f1, Option.map_some]
            · simp at h
          · simp at h
        · simp at hya
      · simp at hc
    · simp at hc
  · simp at hc
def compL (X : CX) (draw : Bool) (ops : List Oper) : Nat → List Oper → Option (List RO)
  | _, [] => some []
  | i, o :: r => match compO X draw ops i o, compL X draw ops (i + 1) r with
    | some ro, some rs => some (ro :: rs)
    | _, _ => none
theorem R.drops (r : R ν Z st F H) (ds : List Nat) : R ν Z (dropD ds st) F H := r.less (g := tdels ds st.g) (m' := st.m) (fun s sv hs => tget_tdels hs) (fun d ob hd => hd)
theorem Fix.drops {ds : List Nat} (f : Fix ν (dropD ds st) ν' st') : Fix ν st ν' st' := ⟨f.pin, f.pins, f.more, f.yid⟩
theorem Fix.ghost (r : R ν Z st F H) (y : Yc S J st.more st.yid) (j : J st.want (Own ν st.m) Z H) {x : Gh} (h : ghost x st = some st') : ∃ ν' Z', R ν' Z' st' F H ∧ J st'.want (Own ν' st'.m) Z' H ∧ Fix ν st ν' st' := by
  obtain ⟨ν', Z', h1, h2⟩ := ghost_ok (Rv := fun _ => False) r h
  have hf : st'.want = st.want ∧ st'.more = st.more ∧ st'.yid = st.yid := by
    unfold Go.VE.ghost closeD at h
    (repeat' split at h) <;> first | (simp at h; done) | (simp only [Option.some.injEq] at h; subst h; exact ⟨rfl, rfl, rfl⟩)
  exact ⟨ν', Z', h1, h2.beside y hf.1 j, ⟨h2.pin, h2.pins, hf.2.1, hf.2.2⟩⟩
theorem Fix.ghosts : ∀ {l : List Gh} {ν : Nu} {Z : Nat → Prop} {st st' : St}, R ν Z st F H → Yc S J st.more st.yid → J st.want (Own ν st.m) Z H → ghosts l st = some st' → ∃ ν' Z', R ν' Z' st' F H ∧ J st'.want (Own ν' st'.m) Z' H ∧ Fix ν st ν' st'
  | [], ν, Z, st, st', r, y, j, h => by simp only [Go.VE.ghosts, Option.some.injEq] at h; subst h; exact ⟨ν, Z, r, j, .refl⟩
  | x :: l, ν, Z, st, st', r, y, j, h => by
    simp only [Go.VE.ghosts] at h
    obtain ⟨st1, h1, h2⟩ := Option.bind_eq_some_iff.1 h
    obtain ⟨ν1, Z1, r1, j1, f1⟩ := Fix.ghost r y j h1
    obtain ⟨ν2, Z2, r2, j2, f2⟩ := Fix.ghosts r1 (by rw [f1.more, f1.yid]; exact y) j1 h2
    exact ⟨ν2, Z2, r2, j2, f1.trans f2⟩
theorem step1_ok (gd : Good X S) (hS : SoundC S c) {ops : List Oper} {fr : List Nat} {i : Nat} {o : Oper} {ro : RO} {st1 : St} (h1 : compO X false ops i o = some ro) (y : Yc S J st.more st.yid) (r : R ν Z st F H) (j : J st.want (Own ν st.m) Z H) (hs : sop S c false fr ro st = some st1) :
    ∃ n F' H' ν' Z', (∀ k, n ≤ k → stepV S.E (run S.E k) X.nt ops none o F H = some (F', H')) ∧ R ν' Z' st1 F' H' ∧ J st1.want (Own ν' st1.m) Z' H' ∧ Fix ν st ν' st1 := by
  by_cases hw : wanted st.g ro.gd = some true
  · cases hya : yieldArgs S.N st.g ro with
    | none =>
      obtain ⟨n, F', H', ν', Z', e1, e2, e3, e4, e5, e6⟩ := step_ok gd hS (place := none) rfl (fun b j h => by cases h) (fun b j h => by cases h) h1 (fun b j h => by cases h) r (.inl hya) hs
      exact ⟨n, F', H', ν', Z', e1, e2, (e3.weak (fun id ⟨b, j, h, _⟩ => by cases h)).beside y e5 j, e6⟩
    | some p =>
      obtain ⟨id, vs⟩ := p
      obtain ⟨n, F', H', e1, e2, e3, e4⟩ := yield_ok gd y h1 r j hya hw hs
      exact ⟨n, F', H', ν, Z, e1, e2, e3, e4⟩
  · have hs' : sop S c false fr ro st = some st1 := hs
    have hny : yieldArgs S.N st.g { ro with as := [] } = none := by
      unfold yieldArgs; simp [sargs]
    obtain ⟨n, F', H', ν', Z', e1, e2, e3, e4, e5, e6⟩ : ∃ n F' H' ν' Z', (∀ k, n ≤ k → stepV S.E (run S.E k) X.nt ops none o F H = some (F', H')) ∧ R ν' Z' st1 F' H' ∧ Ev (fun _ => False) ν Z st H ν' Z' st1 H' ∧ True ∧ st1.want = st.want ∧ Fix ν st ν' st1 := by
      unfold sop at hs'
      split at hs'
      · rename_i hw2; exact absurd hw2 hw
      · rename_i hw2
        simp only [Option.some.injEq] at hs'; subst hs'
        unfold compO at h1
        split at h1
        · rename_i hdst
          split at h1
          · rename_i g k os hg hr
            split at h1
            · obtain ⟨as, ha, rfl⟩ := Option.map_eq_some_iff.1 h1
              have hwv := wantedS_ok r.slot hg hw2
              obtain ⟨F', f1, f2⟩ := putN_ok r hdst (.v V.undef V.undef (.same _ rfl))
              obtain ⟨p1, p2, p3, p4, p5⟩ := putO_m st o.dst (.v .undef)
              refine ⟨0, F', H, ν, Z, fun k _ => ?_, f2, ?_, trivial, p2, ⟨fun d hd => by rw [p1]; exact fun ob' h => ⟨ob', h, rfl, .refl _⟩, p3, p4, p5⟩⟩
              · unfold stepV
                simp only [hwv, Bool.false_eq_true, if_false, f1, Option.map_some]
              · exact ⟨Nat.le_refl _, fun _ _ _ _ _ => rfl, fun _ h => ⟨h, rfl⟩, fun _ h => .inl (by rw [p1] at h; exact h), fun _ h => .inl h, fun d hd => by rw [p1]; exact fun ob' h => ⟨ob', h, rfl, .refl _⟩, p3⟩
            · simp at h1
          · simp at h1
        · simp at h1
      · simp at hs'
    exact ⟨n, F', H', ν', Z', e1, e2, e3.beside y e5 j, e6⟩
theorem seq_ok (gd : Good X S) (hS : SoundC S c) {ops : List Oper} {fr : List Nat} : ∀ (rest : List Oper) {i : Nat} {ros : List RO} {ν : Nu} {Z : Nat → Prop} {st st' : St} {F : Frame} {H : Heap}, compL X false ops i rest = some (ros.map RO.strip) → sops S c false fr ros st = some st' →
    Yc S J st.more st.yid → R ν Z st F H → J st.want (Own ν st.m) Z H →
    ∃ n F' H' ν' Z', (∀ k, n ≤ k → runSeq S.E (run S.E k) X.nt ops rest F H = some (F', H')) ∧ R ν' Z' st' F' H' ∧ J st'.want (Own ν' st'.m) Z' H' ∧ Fix ν st ν' st'
  | [], i, ros, ν, Z, st, st', F, H, hc, h, y, r, j => by
    simp only [compL, Option.some.injEq] at hc
    have : ros = [] := List.map_eq_nil_iff.1 hc.symm
    subst this
    simp only [sops, Option.some.injEq] at h; subst h
    exact ⟨0, F, H, ν, Z, fun _ _ => rfl, r, j, .refl⟩
  | o :: rest, i, ros, ν, Z, st, st', F, H, hc, h, y, r, j => by
    simp only [compL] at hc
    split at hc
    · rename_i ro rs h1 h2
      simp only [Option.some.injEq] at hc
      obtain ⟨ro0, rs0, rfl, hro, hrs⟩ : ∃ ro0 rs0, ros = ro0 :: rs0 ∧ ro = ro0.strip ∧ rs = rs0.map RO.strip := by
        cases ros with
        | nil => simp at hc
        | cons a b => simp only [List.map_cons, List.cons.injEq] at hc; exact ⟨a, b, rfl, hc.1, hc.2⟩
      subst hrs
      simp only [sops, ← hro] at h
      split at h
      · rename_i st1 hs
        simp only [Bool.false_eq_true, if_false] at h
        obtain ⟨stg, hgh, hs⟩ := Option.bind_eq_some_iff.1 hs
        simp only [preG, Bool.false_eq_true, if_false] at hgh
        obtain ⟨νg, Zg, rg, jg, fg⟩ := Fix.ghosts r y j hgh
        obtain ⟨n1, F1, H1, ν1, Z1, a1, a2, a3, a4'⟩ := step1_ok gd hS h1 (by rw [fg.more, fg.yid]; exact y) rg jg hs
        have a4 := fg.trans a4'
        obtain ⟨n2, F2, H2, ν2, Z2, b1, b2, b3, b4⟩ := seq_ok gd hS rest h2 h (by show Yc S J st1.more st1.yid; rw [a4.more, a4.yid]; exact y) (R.drops a2 ro0.dead) a3
        refine ⟨max n1 n2, F2, H2, ν2, Z2, fun k hk => ?_, b2, b3, a4.trans (Fix.drops b4)⟩
        simp only [runSeq, a1 k (Nat.le_trans (Nat.le_max_left _ _) hk), b1 k (Nat.le_trans (Nat.le_max_right _ _) hk)]
      · simp at h
    · simp at hc
theorem Old.next {b : Nat} {fr : List Nat} {o : RO} (h : Old b fr ν Z m) (hk : Kept (newOf o) ν m ν' m') : Old b (freshS fr o) ν' Z m' := by
  refine ⟨fun d ob hd hb hnf => ?_, h.2⟩
  have hsub : d ∉ fr := fun hm => hnf (by
    unfold freshS
    split
    · exact List.mem_cons_of_mem _ hm
    · exact hm)
  have hne : newOf o ≠ some d := fun e => hnf (by unfold freshS; rw [e]; exact List.mem_cons_self)
  obtain ⟨ob0, h1, h2, hs⟩ := hk d ob hne hd
  have hb0 : backed ob0 = true := by
    cases ob0 <;> cases ob <;> simp only [sameShape] at hs <;> first | rfl | (simp only [backed] at hb ⊢; rw [← hs.1]; exact hb)
  rw [h2]; exact h.1 d ob0 h1 hb0 hsub
theorem owned_not_free (r : R ν Z st F H) {id : Nat} (h : Own ν st.m id) : H[id]? ≠ some .free := by
  obtain ⟨d, ob, h1, h2, rfl⟩ := h
  have := r.obj d ob h1
  cases ob with
  | sl k es xs =>
    simp only [backed] at h2
    simp only [ObR, h2, if_true] at this
    obtain ⟨ys, hr, _⟩ := this
    rw [hr]; simp
  | box cs => obtain ⟨es, cs', hr, _⟩ := this; rw [hr]; simp
  | mp kvs => obtain ⟨kvs', hr, _⟩ := this; rw [hr]; simp
theorem z_not_free (r : R ν Z st F H) {id : Nat} (h : Z id) : H[id]? ≠ some .free := fun e => by
  have := r.zrow id h
  unfold rowsAt at this; rw [e] at this; simp [Ob.rows] at this
theorem Ev.drops {ds : List Nat} (e : Ev Rv ν Z (dropD ds st) H ν' Z' st' H') : Ev Rv ν Z st H ν' Z' st' H' := ⟨e.len, e.same, e.rows, e.own, e.frz, e.pin, e.pins⟩
theorem idx_ok (gd : Good X S) (hS : SoundC S c) {ops : List Oper} {b k : Nat} (hall : anyAlloc ops = true → k = ops.length) : ∀ (len : Nat) {i : Nat} {ros : List RO} {fr : List Nat} {ν : Nu} {Z : Nat → Prop} {st st' : St} {F : Frame} {H : Heap},
    i + len = ops.length → compL X true ops i (ops.drop i) = some (ros.map RO.strip) → sops S c true fr ros st = some st' → R ν Z st F H → b ≤ H.length → Old b fr ν Z st.m → (∀ j, i ≤ j → j < k → H[b + j]? = some .free) →
    ∃ n F' H' ν', (∀ q, n ≤ q → runIdx S.E (run S.E q) X.nt ops b (List.range' i len) F H = some (F', H')) ∧ R ν' Z st' F' H' ∧ Ev (fun id => b ≤ id) ν Z st H ν' Z st' H' ∧ st'.want = st.want ∧ Fix ν st ν' st'
  | 0, i, ros, fr, ν, Z, st, st', F, H, hl, hc, h, r, hb, ho, hf => by
    rw [List.drop_of_length_le (by omega)] at hc
    simp only [compL, Option.some.injEq] at hc
    have : ros = [] := List.map_eq_nil_iff.1 hc.symm
    subst this
    simp only [sops, Option.some.injEq] at h; subst h
    exact ⟨0, F, H, ν, fun _ _ => rfl, r, .refl, rfl, .refl⟩
  | len + 1, i, ros, fr, ν, Z, st, st', F, H, hl, hc, h, r, hb, ho, hf => by
    have hi : i < ops.length := by omega
    have hg : ops[i]? = some ops[i] := List.getElem?_eq_getElem hi
    rw [List.drop_eq_getElem_cons hi] at hc
    simp only [compL] at hc
    split at hc
    · rename_i ro rs h1 h2
      simp only [Option.some.injEq] at hc
      obtain ⟨ro0, rs0, rfl, hro, hrs⟩ : ∃ ro0 rs0, ros = ro0 :: rs0 ∧ ro = ro0.strip ∧ rs = rs0.map RO.strip := by
        cases ros with
        | nil => simp at hc
        | cons a b => simp only [List.map_cons, List.cons.injEq] at hc; exact ⟨a, b, rfl, hc.1, hc.2⟩
      subst hrs
      simp only [sops, ← hro] at h
      split at h
      · rename_i st1 hs
        simp only [if_true] at h
        obtain ⟨stg, hgh, hs⟩ := Option.bind_eq_some_iff.1 hs
        have hst : st = stg := by
          simp only [preG, if_true] at hgh
          split at hgh
          · simp only [Option.some.injEq] at hgh; exact hgh
          · simp at hgh
        subst hst
        obtain ⟨n1, F1, H1, ν1, Z1, a1, a2, a3, a4, a5, a6⟩ := step_ok gd hS (place := some (b, i)) (fr := fr) rfl (fun b' j e => by cases e; rfl) (fun b' j e => by cases e; exact ⟨hb, ho⟩) h1 (fun b' j e hcl => by
          cases e
          have : anyAlloc ops = true := by
            unfold anyAlloc
            rw [List.any_eq_true]
            exact ⟨ops[i], List.getElem_mem hi, by simp [hcl]⟩
          exact hf i (Nat.le_refl _) (by rw [hall this]; exact hi)) r (.inr rfl) hs
        obtain ⟨rfl, hkept⟩ := a4 rfl
        have a3' : Ev (fun id => id = b + i) ν Z1 st H ν1 Z1 st1 H1 := a3.weak fun id ⟨b', j, e, h⟩ => by cases e; exact h
        obtain ⟨n2, F2, H2, ν2, b1, b2, b3, b4, b5⟩ := idx_ok gd hS hall len (by omega) h2 h (R.drops a2 ro0.dead) (Nat.le_trans hb a3.len) (ho.next hkept) (fun j hij hjk => by
          have hfr := hf j (by omega) hjk
          have hlt := (List.getElem?_eq_some_iff.1 hfr).1
          rw [a3'.same (b + j) hlt (fun h => owned_not_free r h hfr) (fun h => z_not_free r h hfr) (by omega)]
          exact hfr)
        refine ⟨max n1 n2, F2, H2, ν2, fun q hq => ?_, b2, (a3'.weak fun id e => by subst e; omega).trans (Ev.drops b3), by rw [b4]; exact a5, a6.trans (Fix.drops b5)⟩
        simp only [List.range'_succ, runIdx, hg, a1 q (Nat.le_trans (Nat.le_max_left _ _) hq), b1 q (Nat.le_trans (Nat.le_max_right _ _) hq)]
      · simp at h
    · simp at hc
end
end Go.VE
namespace Go.VE
def compC (X : CX) : Bool → Code → Option RC
  | _, .skip => some .skip
  | _, .label _ => some .skip
  | _, .region _ ops draw =>
    if draw then (if drawOk ops.toList && backOk ops.toList then (compL X true ops.toList 0 ops.toList).map .reg else none)
    else (compL X false ops.toList 0 ops.toList).map .ops
  | ro, .seq a b => match compC X ro a, compC X ro b with
    | some a, some b => some (.seq a b)
    | _, _ => none
  | ro, .cond c a b => match argN X.nm c, compC X ro a, compC X ro b with
    | some x, some a, some b => some (.cond x a b)
    | _, _, _ => none
  | ro, .block id c => (compC X ro c).map (.block id)
  | ro, .loop c => (compC X ro c).map .loop
  | ro, .rangeFunc g ps aw bw =>
    if ro || !(ps.toList.all (· < X.nt)) then none else
    match argN X.nm g, compC X true aw, compC X true bw with
    | some x, some a, some b => some (.each x ps.toList a b)
    | _, _, _ => none
  | _, .exit id => some (.exit id)
  | _, .ret => some .ret
  | _, _ => none
def erase : RC → RC
  | .seq a b => .seq (erase a) (erase b)
  | .cond x a b => .cond x (erase a) (erase b)
  | .block id c => .block id (erase c)
  | .loop c => .loop (erase c)
  | .each g ps a b => .each g ps (erase a) (erase b)
  | .gh _ c => erase c
  | .hg c _ => erase c
  | .ops l => .ops (l.map RO.strip)
  | .reg l => .reg (l.map RO.strip)
  | c => c
def loopK (step : St → Option (Out × St)) : Nat → St → Option (Out × St)
  | 0, _ => none
  | k + 1, st => match step st with
    | some (.norm, st') => loopK step k st'
    | r => r
open Classical in
noncomputable def loopS (step : St → Option (Out × St)) (st : St) : Option (Out × St) :=
  if h : ∃ k r, loopK step k st = some r then some (Classical.choose (Classical.choose_spec h)) else none
theorem loopK_mono {step : St → Option (Out × St)} : ∀ {k k' : Nat} {st : St} {r : Out × St}, k ≤ k' → loopK step k st = some r → loopK step k' st = some r
  | 0, _, _, _, _, h => by simp [loopK] at h
  | k + 1, 0, _, _, hk, _ => by omega
  | k + 1, k' + 1, st, r, hk, h => by
    simp only [loopK] at h ⊢
    split at h
    · rename_i st' hs
      rw [loopK_mono (Nat.le_of_succ_le_succ hk) h]
    · exact h
theorem loopS_iff {step : St → Option (Out × St)} {st : St} {r : Out × St} : loopS step st = some r ↔ ∃ k, loopK step k st = some r := by
  unfold loopS
  constructor
  · intro h
    split at h
    · rename_i hx
      simp only [Option.some.injEq] at h
      exact ⟨_, by rw [← h]; exact Classical.choose_spec (Classical.choose_spec hx)⟩
    · simp at h
  · rintro ⟨k, hk⟩
    have hx : ∃ k r, loopK step k st = some r := ⟨k, r, hk⟩
    rw [dif_pos hx]
    have h2 := Classical.choose_spec (Classical.choose_spec hx)
    have h3 := loopK_mono (Nat.le_max_left (Classical.choose hx) k) h2
    have h4 := loopK_mono (Nat.le_max_right (Classical.choose hx) k) hk
    rw [h3] at h4; exact h4
def eachStep (ps : List Nat) (A B : St → Option (Out × St)) (st : St) (x : List V) (m : Tb SOb) : Option (Out × Tb SOb) :=
  if x.length = ps.length then
    match A { g := tputs st.g ps (x.map .v), m := m, pin := st.pin ++ namesG st.g, want := [], more := true, yid := 0 } with
    | some (.norm, st1) => (B st1).map fun (o, st2) => (o, st2.m)
    | _ => none
  else none
def eachS (step : List V → Tb SOb → Option (Out × Tb SOb)) : List (List V) → Tb SOb → Option (Out × Tb SOb)
  | [], m => some (.norm, m)
  | x :: xs, m => match step x m with
    | some (.norm, m') => eachS step xs m'
    | r => r
noncomputable def sexec (S : Sys) (c : CallS) : RC → St → Option (Out × St)
  | .skip, st => some (.norm, st)
  | .ops l, st => (sops S c false [] l st).map fun st => (.norm, st)
  | .reg l, st => (sops S c true [] l st).map fun st => (.norm, st)
  | .seq a b, st => match sexec S c a st with
    | some (.norm, st') => sexec S c b st'
    | r => r
  | .cond x a b, st => match sarg S.N st.g x with
    | some (.v (.bool t)) => if t then sexec S c a st else sexec S c b st
    | _ => none
  | .block id a, st => match sexec S c a st with
    | some (.exit id', st') => if id' = id then some (.norm, st') else some (.exit id', st')
    | r => r
  | .loop a, st => loopS (sexec S c a) st
  | .each g ps a b, st => match sarg S.N st.g g with
    | some (.v (.clo f x y)) => match S.items f x y with
      | some xs => (eachS (eachStep ps (sexec S c a) (sexec S c b) st) xs st.m).map fun (o, m) => (o, { st with m := m })
      | none => none
    | _ => none
  | .exit id, st => some (.exit id, st)
  | .ret, st => some (.ret, st)
  | .gh x a, st => (ghost x st).bind (sexec S c a)
  | .hg a x, st => match sexec S c a st with
    | some (.norm, st') => (ghost x st').map fun st => (.norm, st)
    | r => r
def IterSound (S : Sys) (f : FuncId) (a b : List V) (xs : List (List V)) : Prop :=
  ∀ ws more, (more = true ∧ ws = xs ∨ more = false ∧ ws ≠ [] ∧ ∃ r, xs = ws ++ r) → ∀ yid J, Yc S J more yid → ∀ Z a' b' H, FRL H Z a a' → FRL H Z b b' → (∀ i, Z i → (rowsAt H i).isSome = true) → Deep H Z → J ws (fun _ => False) Z H →
    ∃ n y H' O' Z', (∀ k, n ≤ k → run S.E k (.fn f) (a' ++ .yld yid :: b') H = some (y, H')) ∧ J [] O' Z' H'
section
variable {ν ν' ν2 : Nu} {Z Z' : Nat → Prop} {st st' st2 : St} {m m' : Tb SOb} {F F' : Frame} {H H' H1 : Heap} {S : Sys} {c : CallS} {X : CX} {J : JT}
end
end Go.VE
namespace Go.VE
inductive EachR (step : List V → Tb SOb → Option (Out × Tb SOb)) (o : Out) (mf : Tb SOb) : List (List V) → Bool → Tb SOb → Prop
  | nil (h : o = .norm) : EachR step o mf [] true mf
  | next (x : List V) (ws : List (List V)) (more : Bool) (m m1 : Tb SOb) (h : step x m = some (.norm, m1)) (r : EachR step o mf ws more m1) : EachR step o mf (x :: ws) more m
  | last (x : List V) (m : Tb SOb) (h : step x m = some (o, mf)) (ho : o ≠ .norm) : EachR step o mf [x] false m
theorem eachS_spec {step : List V → Tb SOb → Option (Out × Tb SOb)} {o : Out} {mf : Tb SOb} : ∀ {xs : List (List V)} {m : Tb SOb}, eachS step xs m = some (o, mf) →
    ∃ ws more, (more = true ∧ ws = xs ∨ more = false ∧ ws ≠ [] ∧ ∃ r, xs = ws ++ r) ∧ EachR step o mf ws more m
  | [], m, h => by
    simp only [eachS, Option.some.injEq, Prod.mk.injEq] at h; obtain ⟨rfl, rfl⟩ := h
    exact ⟨[], true, .inl ⟨rfl, rfl⟩, .nil rfl⟩
  | x :: xs, m, h => by
    simp only [eachS] at h
    split at h
    · rename_i m' hs
      obtain ⟨ws, more, hc, hr⟩ := eachS_spec h
      refine ⟨x :: ws, more, ?_, .next x ws more m m' hs hr⟩
      rcases hc with ⟨h1, h2⟩ | ⟨h1, h2, r, h3⟩
      · exact .inl ⟨h1, by rw [h2]⟩
      · exact .inr ⟨h1, by simp, r, by rw [h3]; rfl⟩
    · rename_i hs
      refine ⟨[x], false, .inr ⟨rfl, by simp, xs, rfl⟩, .last x m h fun e => ?_⟩
      subst e
      exact hs mf h
def EvJ (O0 Z0 : Nat → Prop) (H0 : Heap) : JT := fun w O Z H => w = [] ∧ H0.length ≤ H.length ∧ (∀ i, i < H0.length → ¬ O0 i → ¬ Z0 i → H[i]? = H0[i]?) ∧ (∀ i, Z0 i → Z i ∧ rowsAt H i = rowsAt H0 i) ∧
  (∀ i, O i → O0 i ∨ H0.length ≤ i) ∧ (∀ i, Z i → Z0 i ∨ O0 i ∨ H0.length ≤ i)
section
variable {ν ν' ν2 : Nu} {Z Z' : Nat → Prop} {st st' st2 : St} {m m' : Tb SOb} {F F' : Frame} {H H' H1 : Heap} {S : Sys} {c : CallS} {X : CX} {J : JT} {O0 Z0 : Nat → Prop} {H0 : Heap}
theorem EvJ.stab {w : List (List V)} {O Z O' Z' : Nat → Prop} {H H' : Heap} (j : EvJ O0 Z0 H0 w O Z H) (hl : H.length ≤ H'.length) (hs : ∀ i, i < H.length → ¬ O i → ¬ Z i → H'[i]? = H[i]?) (hr : ∀ i, Z i → Z' i ∧ rowsAt H' i = rowsAt H i)
    (ho : ∀ i, O' i → O i ∨ H.length ≤ i) (hz : ∀ i, Z' i → Z i ∨ O i ∨ H.length ≤ i) : EvJ O0 Z0 H0 w O' Z' H' := by
  obtain ⟨j1, j2, j3, j4, j5, j6⟩ := j
  refine ⟨j1, Nat.le_trans j2 hl, fun i h1 h2 h3 => ?_, fun i h => ⟨(hr i (j4 i h).1).1, by rw [(hr i (j4 i h).1).2, (j4 i h).2]⟩, fun i h => ?_, fun i h => ?_⟩
  · rw [hs i (Nat.lt_of_lt_of_le h1 j2) (fun h => by rcases j5 i h with h | h; exact h2 h; omega) (fun h => by rcases j6 i h with h | h | h; exact h3 h; exact h2 h; omega), j3 i h1 h2 h3]
  · rcases ho i h with h | h
    · exact j5 i h
    · exact .inr (Nat.le_trans j2 h)
  · rcases hz i h with h | h | h
    · exact j6 i h
    · rcases j5 i h with h | h
      · exact .inr (.inl h)
      · exact .inr (.inr h)
    · exact .inr (.inr (Nat.le_trans j2 h))
theorem EvJ.yc {more : Bool} {yid : Nat} : Yc S (EvJ O0 Z0 H0) more yid where
  stab := fun _ _ _ _ _ _ _ j h1 h2 h3 h4 h5 => j.stab h1 h2 h3 h4 h5
  yield := fun x ws O Z H args j => by obtain ⟨h, _⟩ := j; cases h
theorem EvJ.refl (r : R ν Z st F H) : EvJ (Own ν st.m) Z H [] (Own ν st.m) Z H := ⟨rfl, Nat.le_refl _, fun _ _ _ _ => rfl, fun i h => ⟨h, rfl⟩, fun i h => .inl h, fun i h => .inl h⟩
mutual
theorem names_says {d : Nat} : ∀ {sv : SV}, sv.says d = true → d ∈ sv.names
  | .v _, h => by simp [SV.says] at h
  | .own e, h => by simp [SV.says] at h; simp [SV.names, h]
  | .ptr e _, h => by simp [SV.says] at h; simp [SV.names, h]
  | .el e _ _, h => by simp [SV.says] at h; simp [SV.names, h]
  | .mp e, h => by simp [SV.says] at h; simp [SV.names, h]
  | .clo f a b, h => by
    simp only [SV.says, Bool.or_eq_true] at h
    simp only [SV.names, List.mem_append]
    exact h.imp namesL_says namesL_says
  | .tup l, h => by simp only [SV.says] at h; simp only [SV.names]; exact namesL_says h
  | .yl _, h => by simp [SV.says] at h
theorem namesL_says {d : Nat} : ∀ {l : List SV}, SV.saysL d l = true → d ∈ SV.namesL l
  | [], h => by simp [SV.saysL] at h
  | x :: r, h => by
    simp only [SV.saysL, Bool.or_eq_true] at h
    simp only [SV.namesL, List.mem_append]
    exact h.imp names_says namesL_says
end
theorem namesG_says {d : Nat} : ∀ {g : Tb SV} {s : Nat} {sv : SV}, tget g s = some sv → sv.says d = true → d ∈ namesG g
  | [], s, sv, h, _ => by simp [tget] at h
  | (k, x) :: r, s, sv, h, hs => by
    simp only [tget] at h
    simp only [namesG, List.mem_append]
    split at h
    · simp only [Option.some.injEq] at h; subst h; exact .inl (names_says hs)
    · exact .inr (namesG_says h hs)
theorem R.moreZ (r : R ν Z st F H) {Z2 : Nat → Prop} (h1 : ∀ i, Z2 i → ¬ Own ν st.m i) (h2 : ∀ i, Z2 i → (rowsAt H i).isSome = true) (h3 : Deep H Z2) : R ν (fun i => Z i ∨ Z2 i) st F H := by
  have hz : ∀ i, Z i → (Z i ∨ Z2 i) ∧ rowsAt H i = rowsAt H i := fun i h => ⟨.inl h, rfl⟩
  have hz2 : ∀ i, Z2 i → (Z i ∨ Z2 i) ∧ rowsAt H i = rowsAt H i := fun i h => ⟨.inr h, rfl⟩
  refine ⟨fun s sv hs => (r.slot s sv hs).mono hz fun e _ => same_self ν st.m e, fun d ob hd => ObR.mono hz rfl (fun _ => rfl) (fun e _ => same_self ν st.m e) (r.obj d ob hd), r.inj, fun d ob hd hb hh => ?_, fun i hi => ?_, ⟨fun id es ys hi hr c hc u hu => ?_⟩⟩
  · rcases hh with hh | hh
    · exact r.apart d ob hd hb hh
    · exact h1 _ hh ⟨d, ob, hd, hb, rfl⟩
  · exact hi.elim (r.zrow i) (h2 i)
  · rcases hi with hi | hi
    · obtain ⟨x, hx⟩ := r.deep.row id es ys hi hr c hc u hu; exact ⟨x, hx.mono hz⟩
    · obtain ⟨x, hx⟩ := h3.row id es ys hi hr c hc u hu; exact ⟨x, hx.mono hz2⟩
theorem R.puts : ∀ {ps : List Nat} {xs : List V} {vs : List V} {g : Tb SV} {F : Frame}, R ν Z { st with g := g } F H → FRL H Z xs vs → xs.length = ps.length → R ν Z { st with g := tputs g ps (xs.map .v) } (setAll ps vs F) H
  | [], xs, vs, g, F, r, h, hl => by
    have : xs = [] := List.length_eq_zero_iff.1 hl
    subst this
    rw [h.inv0]; exact r
  | p :: ps, [], vs, g, F, r, h, hl => by simp at hl
  | p :: ps, x :: xs, vs, g, F, r, h, hl => by
    obtain ⟨w, ws, rfl, h1, h2⟩ := h.inv
    exact R.puts (ps := ps) (r.put (st := { st with g := g }) (.v _ _ h1)) h2 (by simpa using hl)
def CodeOk (X : CX) (S : Sys) (ro : Bool) (code : Code) (run' : St → Option (Out × St)) : Prop :=
  ∀ st o st', run' st = some (o, st') → ∀ (J : JT) ν Z F H, Yc S J st.more st.yid → R ν Z st F H → J st.want (Own ν st.m) Z H →
    ∃ n F' H' ν' Z', (∀ k, n ≤ k → exec S.E (run S.E k) k ro X.nt code F H = some (o, F', H')) ∧ R ν' Z' st' F' H' ∧ J st'.want (Own ν' st'.m) Z' H' ∧ Fix ν st ν' st'
def stb (st : St) (m : Tb SOb) : St := { g := st.g, m := m, pin := st.pin ++ namesG st.g, want := [], more := true, yid := 0 }
def JI (X : CX) (st : St) (F : Frame) (ν : Nu) (O0 Z0 : Nat → Prop) (H0 : Heap) (idl : Nat) (ps : List Nat) (aw bw : Code) (step : List V → Tb SOb → Option (Out × Tb SOb)) (o : Out) (mf : Tb SOb) (more : Bool) : JT := fun w O Z H =>
  ∃ m νb Zb lr, R νb Zb (stb st m) F H ∧ EvJ O0 Z0 H0 [] (Own νb m) Zb H ∧ (∀ i, O i → ¬ Own νb m i ∧ ¬ Zb i ∧ i ≠ idl ∧ H0.length ≤ i) ∧ (∀ i, Z i → ¬ Own νb m i ∧ i ≠ idl ∧ (Z0 i ∨ H0.length ≤ i)) ∧
    ¬ Own νb m idl ∧ ¬ Zb idl ∧ H0.length ≤ idl ∧ H[idl]? = some (.loop lr) ∧ (lr.frame = F ∧ lr.nt = X.nt ∧ lr.params = ps ∧ lr.assign = aw ∧ lr.body = bw) ∧
    (∀ d ∈ st.pin ++ namesG st.g, ∀ ob', tget m d = some ob' → ∃ ob, tget st.m d = some ob ∧ νb d = ν d ∧ sameShape ob ob') ∧
    ((EachR step o mf w more m ∧ lr.st = .ready ∧ lr.pend = none) ∨ (w = [] ∧ m = mf ∧ lr.st = .done ∧ lr.pend = some o))
theorem JI.stab {w : List (List V)} {O Z O' Z' : Nat → Prop} {H H' : Heap} {idl : Nat} {ps : List Nat} {aw bw : Code} {step : List V → Tb SOb → Option (Out × Tb SOb)} {o : Out} {mf : Tb SOb} {more : Bool}
    (j : JI X st F ν O0 Z0 H0 idl ps aw bw step o mf more w O Z H) (hl : H.length ≤ H'.length) (hs : ∀ i, i < H.length → ¬ O i → ¬ Z i → H'[i]? = H[i]?) (hr : ∀ i, Z i → Z' i ∧ rowsAt H' i = rowsAt H i)
    (ho : ∀ i, O' i → O i ∨ H.length ≤ i) (hz : ∀ i, Z' i → Z i ∨ O i ∨ H.length ≤ i) : JI X st F ν O0 Z0 H0 idl ps aw bw step o mf more w O' Z' H' := by
  obtain ⟨m, νb, Zb, lr, r, ej, d1, d2, l1, l2, l3, l4, l5, l6, l7⟩ := j
  have hown : ∀ i, Own νb m i → H'[i]? = H[i]? := fun i hi => hs i (r.lt (st := stb st m) hi) (fun h => (d1 i h).1 hi) (fun h => (d2 i h).1 hi)
  have hzb : ∀ i, Zb i → rowsAt H' i = rowsAt H i := fun i hi => by
    by_cases hzi : Z i
    · exact (hr i hzi).2
    · unfold rowsAt; rw [hs i (r.zlt hi) (fun h => (d1 i h).2.1 hi) hzi]
  have hll : idl < H.length := (List.getElem?_eq_some_iff.1 l4).1
  have h0l : H0.length ≤ H.length := ej.2.1
  refine ⟨m, νb, Zb, lr, r.heap hown hzb, ?_, fun i h => ?_, fun i h => ?_, l1, l2, l3, ?_, l5, l6, l7⟩
  · obtain ⟨j1, j2, j3, j4, j5, j6⟩ := ej
    refine ⟨j1, Nat.le_trans j2 hl, fun i h1 h2 h3 => ?_, fun i h => ⟨(j4 i h).1, by rw [hzb i (j4 i h).1, (j4 i h).2]⟩, j5, j6⟩
    rw [hs i (Nat.lt_of_lt_of_le h1 j2) (fun h => by have := (d1 i h).2.2.2; omega) (fun h => by rcases (d2 i h).2.2 with h | h; exact h3 h; omega), j3 i h1 h2 h3]
  · rcases ho i h with h | h
    · exact d1 i h
    · exact ⟨fun hi => absurd (r.lt (st := stb st m) hi) (by omega), fun hi => absurd (r.zlt hi) (by omega), by omega, by omega⟩
  · rcases hz i h with h | h | h
    · exact d2 i h
    · exact ⟨(d1 i h).1, (d1 i h).2.2.1, .inr (d1 i h).2.2.2⟩
    · exact ⟨fun hi => absurd (r.lt (st := stb st m) hi) (by omega), by omega, .inr (by omega)⟩
  · rw [hs idl hll (fun h => (d1 idl h).2.2.1 rfl) (fun h => (d2 idl h).2.1 rfl)]; exact l4
theorem JI.yield (S : Sys) {A B : St → Option (Out × St)} {aw bw : Code} (hA : CodeOk X S true aw A) (hB : CodeOk X S true bw B) {idl : Nat} {ps : List Nat} (hps : ps.all (· < X.nt) = true) {o : Out} {mf : Tb SOb} {more : Bool}
    {x : List V} {ws : List (List V)} {O Z : Nat → Prop} {H : Heap} {args : List V} (j : JI X st F ν O0 Z0 H0 idl ps aw bw (eachStep ps A B st) o mf more (x :: ws) O Z H)
    (hx : FRL H Z x args) (hzr : ∀ i, Z i → (rowsAt H i).isSome = true) (hzd : Deep H Z) (hoz : ∀ i, O i → ¬ Z i ∧ i < H.length) :
    ∃ n H', run S.E n (.yld idl) args H = some (.bool (more || !ws.isEmpty), H') ∧ JI X st F ν O0 Z0 H0 idl ps aw bw (eachStep ps A B st) o mf more ws O Z H' ∧ H.length ≤ H'.length ∧ (∀ i, O i → H'[i]? = H[i]?) ∧ (∀ i, Z i → rowsAt H' i = rowsAt H i) := by
  obtain ⟨m, νb, Zb, lr, r, ej, d1, d2, l1, l2, l3, l4, ⟨q1, q2, q3, q4, q5⟩, l6, l7⟩ := j
  have l7' : EachR (eachStep ps A B st) o mf (x :: ws) more m ∧ lr.st = .ready ∧ lr.pend = none := by
    rcases l7 with h | ⟨h, _⟩
    · exact h
    · cases h
  obtain ⟨hE, hready, hpend⟩ := l7'
  have hround : ∃ oo m1, eachStep ps A B st x m = some (oo, m1) ∧ (oo = .norm ∧ EachR (eachStep ps A B st) o mf ws more m1 ∧ (more || !ws.isEmpty) = true ∨ oo ≠ .norm ∧ oo = o ∧ m1 = mf ∧ ws = [] ∧ more = false) := by
    cases hE with
    | next _ _ _ _ m1 h hr =>
      refine ⟨.norm, m1, h, .inl ⟨rfl, hr, ?_⟩⟩
      cases hr <;> simp
    | last _ _ h ho => exact ⟨o, mf, h, .inr ⟨ho, rfl, rfl, rfl, rfl⟩⟩
  obtain ⟨oo, m1, hstep, hout⟩ := hround
  unfold eachStep at hstep
  split at hstep
  · rename_i hlen
    split at hstep
    · rename_i st1 hAs
      obtain ⟨⟨oo', st2⟩, hBs, e⟩ := Option.map_eq_some_iff.1 hstep
      simp only [Prod.mk.injEq] at e; obtain ⟨rfl, rfl⟩ := e
      have hll : idl < H.length := (List.getElem?_eq_some_iff.1 l4).1
      have h0l : H0.length ≤ H.length := ej.2.1
      have r1 : R νb (fun i => Zb i ∨ Z i) (stb st m) F H := r.moreZ (fun i hi => (d2 i hi).1) hzr hzd
      have hxx : FRL H (fun i => Zb i ∨ Z i) x args := hx.mono fun i hi => ⟨.inr hi, rfl⟩
      have r2 := R.puts (st := stb st m) r1 hxx hlen
      obtain ⟨nA, F2, H2, ν2, Z2, a1, a2, a3, a4⟩ := hA _ _ _ hAs (EvJ (Own νb m) (fun i => Zb i ∨ Z i) H) νb _ _ H EvJ.yc r2 (EvJ.refl (st := stb st m) r1)
      obtain ⟨b1, b2, b3, b4, b5, b6⟩ := a3
      have hnz : ¬ (Zb idl ∨ Z idl) := fun h => h.elim l2 fun h => (d2 idl h).2.1 rfl
      have hlo2 : H2[idl]? = some (.loop lr) := by rw [b3 idl hll l1 hnz]; exact l4
      have hll2 : idl < H2.length := by omega
      have no2 : ¬ Own ν2 st1.m idl := fun h => (b5 idl h).elim l1 fun h => by omega
      have nz2 : ¬ Z2 idl := fun h => by rcases b6 idl h with h | h | h; exact hnz h; exact l1 h; omega
      have hset : ∀ (ob : Ob) (Hh : Heap) (i : Nat), i ≠ idl → (Hh.set idl ob)[i]? = Hh[i]? := fun ob Hh i hne => by rw [List.getElem?_set, if_neg (Ne.symm hne)]
      have r3 : R ν2 Z2 st1 F2 (H2.set idl (.loop { lr with st := .busy })) := a2.heap (fun i hi => hset _ _ i fun e => no2 (e ▸ hi)) (fun i hi => by unfold rowsAt; rw [hset _ _ i fun e => nz2 (e ▸ hi)])
      obtain ⟨nB, F4, H4, ν4, Z4, c1, c2, c3, c4⟩ := hB _ _ _ hBs (EvJ (Own ν2 st1.m) Z2 (H2.set idl (.loop { lr with st := .busy }))) ν2 Z2 F2 _ EvJ.yc r3 (by
        rw [b1]; exact EvJ.refl r3)
      obtain ⟨_, g2, g3, g4, g5, g6⟩ := c3
      simp only [List.length_set] at g2 g3 g5 g6
      have hlo4 : H4[idl]? = some (.loop { lr with st := .busy }) := by rw [g3 idl hll2 no2 nz2, List.getElem?_set_self hll2]
      have hll4 : idl < H4.length := by omega
      have no4 : ¬ Own ν4 st2.m idl := fun h => (g5 idl h).elim no2 fun h => by omega
      have nz4 : ¬ Z4 idl := fun h => by rcases g6 idl h with h | h | h; exact nz2 h; exact no2 h; omega
      generalize hlr : ({ lr with st := (if oo' == .norm then LSt.ready else LSt.done), pend := (if oo' == .norm then none else some oo') } : LoopRec) = lr5
      have r5 : R ν4 Z4 st2 F4 (H4.set idl (.loop lr5)) := c2.heap (fun i hi => hset _ _ i fun e => no4 (e ▸ hi)) (fun i hi => by unfold rowsAt; rw [hset _ _ i fun e => nz4 (e ▸ hi)])
      have hlen5 : H.length ≤ (H4.set idl (.loop lr5)).length := by simp only [List.length_set]; omega
      have same5 : ∀ i, i < H.length → i ≠ idl → ¬ Own νb m i → ¬ (Zb i ∨ Z i) → (H4.set idl (.loop lr5))[i]? = H[i]? := fun i h1 h2 h3 h4 => by
        rw [hset _ _ i h2, g3 i (by omega) (fun h => (b5 i h).elim h3 fun h => by omega) (fun h => by rcases b6 i h with h | h | h; exact h4 h; exact h3 h; omega), hset _ _ i h2, b3 i h1 h3 h4]
      have rows5 : ∀ i, (Zb i ∨ Z i) → Z4 i ∧ rowsAt (H4.set idl (.loop lr5)) i = rowsAt H i := fun i hi => by
        have hne : i ≠ idl := fun e => hnz (e ▸ hi)
        obtain ⟨t1, t2⟩ := b4 i hi
        obtain ⟨t3, t4⟩ := g4 i t1
        refine ⟨t3, ?_⟩
        rw [← t2]
        have : rowsAt (H2.set idl (.loop { lr with st := .busy })) i = rowsAt H2 i := by unfold rowsAt; rw [hset _ _ i hne]
        rw [← this, ← t4]
        unfold rowsAt; rw [hset _ _ i hne]
      have own5 : ∀ i, Own ν4 st2.m i → Own νb m i ∨ H.length ≤ i := fun i hi => by
        rcases g5 i hi with h | h
        · exact b5 i h
        · exact .inr (by omega)
      have frz5 : ∀ i, Z4 i → (Zb i ∨ Z i) ∨ Own νb m i ∨ H.length ≤ i := fun i hi => by
        rcases g6 i hi with h | h | h
        · exact b6 i h
        · rcases b5 i h with h | h
          · exact .inr (.inl h)
          · exact .inr (.inr h)
        · exact .inr (.inr (by omega))
      have fx := a4.trans c4
      have r6 : R ν4 Z4 (stb st st2.m) F (H4.set idl (.loop lr5)) := ⟨fun s sv hs => (r.slot s sv hs).mono (fun i hi => rows5 i (.inl hi)) fun d hd ob' hob => fx.pin d (List.mem_append_right _ (namesG_says hs hd)) ob' hob, r5.obj, r5.inj, r5.apart, r5.zrow, r5.deep⟩
      have hrun : run S.E (max nA nB + 1) (.yld idl) args H = some (.bool (oo' == .norm), H4.set idl (.loop lr5)) := by
        simp only [run, l4, hready]
        rw [if_pos (by rw [q3]; exact ⟨by rw [← hx.1]; exact hlen, by rw [q2]; exact hps⟩)]
        rw [q1, q2, q3, q4, q5]
        rw [a1 _ (Nat.le_max_left _ _)]
        simp only [hlo2, hready]
        rw [c1 _ (Nat.le_max_right _ _)]
        simp only [hlo4]
        rw [← hlr]
      refine ⟨max nA nB + 1, H4.set idl (.loop lr5), ?_, ⟨st2.m, ν4, Z4, lr5, r6, ?_, fun i hi => ?_, fun i hi => ?_, no4, nz4, l3, ?_, ?_, fun d hd ob' hob => ?_, ?_⟩, hlen5, fun i hi => ?_, fun i hi => (rows5 i (.inr hi)).2⟩
      · rw [hrun]
        rcases hout with ⟨h1, _, h3⟩ | ⟨h1, _, _, h4, h5⟩
        · rw [h1, h3]; rfl
        · rw [h4, h5]
          cases hoo : oo' with
          | norm => exact absurd hoo h1
          | _ => rfl
      · obtain ⟨j1, j2, j3, j4, j5, j6⟩ := ej
        refine ⟨rfl, Nat.le_trans j2 hlen5, fun i h1 h2 h3 => ?_, fun i h => ⟨(rows5 i (.inl (j4 i h).1)).1, by rw [(rows5 i (.inl (j4 i h).1)).2, (j4 i h).2]⟩, fun i h => ?_, fun i h => ?_⟩
        · rw [same5 i (by omega) (by omega) (fun h => by rcases j5 i h with h | h; exact h2 h; omega) (fun h => by
            rcases h with h | h
            · rcases j6 i h with h | h | h; exact h3 h; exact h2 h; omega
            · rcases (d2 i h).2.2 with h | h; exact h3 h; omega), j3 i h1 h2 h3]
        · rcases own5 i h with h | h
          · exact j5 i h
          · exact .inr (by omega)
        · rcases frz5 i h with (h | h) | h | h
          · exact j6 i h
          · rcases (d2 i h).2.2 with h | h; exact .inl h; exact .inr (.inr h)
          · rcases j5 i h with h | h; exact .inr (.inl h); exact .inr (.inr h)
          · exact .inr (.inr (by omega))
      · obtain ⟨t1, t2⟩ := hoz i hi
        obtain ⟨t3, t4, t5, t6⟩ := d1 i hi
        refine ⟨fun h => (own5 i h).elim t3 fun h => by omega, fun h => ?_, t5, t6⟩
        rcases frz5 i h with (h | h) | h | h
        · exact t4 h
        · exact t1 h
        · exact t3 h
        · omega
      · obtain ⟨t1, t2, t3⟩ := d2 i hi
        have hlt : i < H.length := by
          have := hzr i hi
          unfold rowsAt at this
          cases hh : H[i]? with
          | none => rw [hh] at this; simp at this
          | some _ => exact (List.getElem?_eq_some_iff.1 hh).1
        exact ⟨fun h => (own5 i h).elim t1 fun h => by omega, t2, t3⟩
      · rw [List.getElem?_set_self hll4]
      · subst hlr; exact ⟨q1, q2, q3, q4, q5⟩
      · obtain ⟨ob1, h1, h2, h3⟩ := fx.pin d hd ob' hob
        obtain ⟨ob, k1, k2, k3⟩ := l6 d hd ob1 h1
        exact ⟨ob, k1, by rw [h2, k2], k3.trans h3⟩
      · rcases hout with ⟨h1, h2, h3⟩ | ⟨h1, h2, h3, h4, h5⟩
        · left
          subst h1; subst hlr
          exact ⟨h2, rfl, rfl⟩
        · right
          subst hlr
          have hb : ¬ (oo' == Out.norm) = true := by simpa using h1
          refine ⟨h4, h3, ?_, ?_⟩
          · show (if (oo' == Out.norm) = true then LSt.ready else LSt.done) = LSt.done
            rw [if_neg hb]
          · show (if (oo' == Out.norm) = true then none else some oo') = some o
            rw [if_neg hb, h2]
      · obtain ⟨t1, t2⟩ := hoz i hi
        obtain ⟨t3, t4, t5, t6⟩ := d1 i hi
        exact same5 i t2 t5 t3 fun h => h.elim t4 t1
    · simp at hstep
  · simp at hstep
end
end Go.VE
namespace Go.VE
section
variable {ν ν' ν2 : Nu} {Z Z' : Nat → Prop} {st st' st2 : St} {m m' : Tb SOb} {F F' : Frame} {H H' H1 : Heap} {S : Sys} {c : CallS} {X : CX} {J : JT}
theorem region_ok (gd : Good X S) (hS : SoundC S c) {ro : Bool} {id : Nat} {ops : Array Oper} {l : List RO} (hc : compL X true ops.toList 0 ops.toList = some (l.map RO.strip)) (hd : (drawOk ops.toList && backOk ops.toList) = true) :
    CodeOk X S ro (.region id ops true) (fun st => (sops S c true [] l st).map fun st => (.norm, st)) := by
  intro st o st' h J ν Z F H y r j
  obtain ⟨st1, h1, e⟩ := Option.map_eq_some_iff.1 h
  simp only [Prod.mk.injEq] at e; obtain ⟨rfl, rfl⟩ := e
  generalize hH0 : (if anyAlloc ops.toList then H ++ List.replicate ops.toList.length .free else H) = H0
  generalize hk : (if anyAlloc ops.toList then ops.toList.length else 0) = k
  have hget : ∀ i, i < H.length → H0[i]? = H[i]? := fun i hi => by
    rw [← hH0]; split
    · exact List.getElem?_append_left hi
    · rfl
  have hlen : H.length ≤ H0.length := by rw [← hH0]; split <;> simp
  have r0 : R ν Z st F H0 := r.heap (fun i hi => hget i (r.lt hi)) (fun i hi => by unfold rowsAt; rw [hget i (r.zlt hi)])
  have hfree : ∀ q, 0 ≤ q → q < k → H0[H.length + q]? = some .free := fun q _ hq => by
    rw [← hk] at hq
    split at hq
    · rename_i ha
      rw [← hH0, if_pos ha, List.getElem?_append_right (by omega)]
      simp only [Nat.add_sub_cancel_left]
      rw [List.getElem?_replicate, if_pos hq]
    · omega
  obtain ⟨n, F', H', ν', e1, e2, e3, e4, e5⟩ := idx_ok gd hS (ops := ops.toList) (b := H.length) (k := k) (fun ha => by rw [← hk, if_pos ha]) ops.toList.length (i := 0) (fr := []) (by omega) (by simpa using hc) h1 r0 hlen
    ⟨fun d ob hd hb _ => r.lt ⟨d, ob, hd, hb, rfl⟩, fun i hi => r.zlt hi⟩ hfree
  refine ⟨n, F', H', ν', Z, fun q hq => ?_, e2, ?_, e5⟩
  · simp only [exec, runRegion, if_true, hd, Option.map_eq_some_iff, Prod.mk.injEq, true_and]
    refine ⟨(F', H'), ?_, rfl, rfl⟩
    rw [hH0]
    have := e1 q hq
    rw [List.range_eq_range']; exact this
  · rw [e4]
    refine y.stab _ _ _ _ _ _ _ j (Nat.le_trans hlen e3.len) (fun i h1 h2 h3 => by rw [e3.same i (by omega) h2 h3 (by omega), hget i h1]) (fun i hi => ⟨hi, by rw [(e3.rows i hi).2]; unfold rowsAt; rw [hget i (r.zlt hi)]⟩) (fun i hi => ?_) (fun i hi => .inl hi)
    rcases e3.own i hi with h | h | h
    · exact .inl h
    · exact .inr h
    · exact .inr (by omega)
theorem loop_ok {ro : Bool} {code : Code} {f : St → Option (Out × St)} (hf : CodeOk X S ro code f) : CodeOk X S ro (.loop code) (loopS f) := by
  intro st o st' h J ν Z F H y r j
  obtain ⟨k, hk⟩ := loopS_iff.1 h
  have key : ∀ k st ν Z F H, loopK f k st = some (o, st') → Yc S J st.more st.yid → R ν Z st F H → J st.want (Own ν st.m) Z H →
      ∃ n F' H' ν' Z', (∀ q, n ≤ q → ∀ lf, k ≤ lf → loopN (exec S.E (run S.E q) q ro X.nt code) lf F H = some (o, F', H')) ∧ R ν' Z' st' F' H' ∧ J st'.want (Own ν' st'.m) Z' H' ∧ Fix ν st ν' st' := by
    intro k
    induction k with
    | zero => intro st ν Z F H h; simp [loopK] at h
    | succ k ih =>
      intro st ν Z F H h y r j
      simp only [loopK] at h
      split at h
      · rename_i st1 hs
        obtain ⟨n1, F1, H1, ν1, Z1, a1, a2, a3, a4⟩ := hf st .norm st1 hs J ν Z F H y r j
        obtain ⟨n2, F2, H2, ν2, Z2, b1, b2, b3, b4⟩ := ih st1 ν1 Z1 F1 H1 h (by rw [a4.more, a4.yid]; exact y) a2 a3
        refine ⟨max n1 n2, F2, H2, ν2, Z2, fun q hq lf hlf => ?_, b2, b3, a4.trans b4⟩
        cases lf with
        | zero => omega
        | succ lf =>
          simp only [loopN, a1 q (Nat.le_trans (Nat.le_max_left _ _) hq)]
          exact b1 q (Nat.le_trans (Nat.le_max_right _ _) hq) lf (by omega)
      · rename_i hs
        obtain ⟨n1, F1, H1, ν1, Z1, a1, a2, a3, a4⟩ := hf st o st' h J ν Z F H y r j
        have ho : o ≠ .norm := fun e => by subst e; exact hs st' h
        refine ⟨n1, F1, H1, ν1, Z1, fun q hq lf hlf => ?_, a2, a3, a4⟩
        cases lf with
        | zero => omega
        | succ lf =>
          simp only [loopN, a1 q hq]
          cases o <;> first | exact absurd rfl ho | rfl
  obtain ⟨n, F', H', ν', Z', e1, e2, e3, e4⟩ := key k st ν Z F H hk y r j
  refine ⟨max n k, F', H', ν', Z', fun q hq => ?_, e2, e3, e4⟩
  simp only [exec]
  exact e1 q (Nat.le_trans (Nat.le_max_left _ _) hq) q (Nat.le_trans (Nat.le_max_right _ _) hq)
theorem each_ok (gd : Good X S) (hI : ∀ f a b xs, S.items f a b = some xs → IterSound S f a b xs) {g : Operand} {ps : Array Tmp} {aw bw : Code} {x : Arg} {A B : St → Option (Out × St)}
    (hps : ps.toList.all (· < X.nt) = true) (hx : argN X.nm g = some x) (hA : CodeOk X S true aw A) (hB : CodeOk X S true bw B) :
    CodeOk X S false (.rangeFunc g ps aw bw) (fun st => match sarg S.N st.g x with
    | some (.v (.clo f x y)) => match S.items f x y with
      | some xs => (eachS (eachStep ps.toList A B st) xs st.m).map fun (o, m) => (o, { st with m := m })
      | none => none
    | _ => none) := by
  intro st o st' h J ν Z F H y r j
  dsimp only at h
  split at h
  · rename_i f a b hsv
    split at h
    · rename_i xs hit
      obtain ⟨⟨oo, mf⟩, hE, e⟩ := Option.map_eq_some_iff.1 h
      simp only [Prod.mk.injEq] at e; obtain ⟨rfl, rfl⟩ := e
      obtain ⟨yv, hy, ry⟩ := sarg_ok gd.N r.slot hx hsv
      obtain ⟨a', b', rfl, ra, rb⟩ := ry.fr.clo_inv
      obtain ⟨ws, more, hcond, hR⟩ := eachS_spec hE
      generalize hlr : (⟨.ready, none, F, X.nt, ps.toList, aw, bw⟩ : LoopRec) = lr0
      have hgetH : ∀ i, i < H.length → (H ++ [Ob.loop lr0])[i]? = H[i]? := fun i hi => List.getElem?_append_left hi
      have hzr : ∀ i, Z i → rowsAt (H ++ [Ob.loop lr0]) i = rowsAt H i := fun i hi => by unfold rowsAt; rw [hgetH i (r.zlt hi)]
      have r0 : R ν Z (stb st st.m) F (H ++ [Ob.loop lr0]) := by
        have := r.heap (H' := H ++ [Ob.loop lr0]) (fun i hi => hgetH i (r.lt hi)) hzr
        exact ⟨this.slot, this.obj, this.inj, this.apart, this.zrow, this.deep⟩
      have hmono : ∀ i, Z i → Z i ∧ rowsAt (H ++ [Ob.loop lr0]) i = rowsAt H i := fun i hi => ⟨hi, hzr i hi⟩
      have j0 : JI X st F ν (Own ν st.m) Z H H.length ps.toList aw bw (eachStep ps.toList A B st) oo mf more ws (fun _ => False) Z (H ++ [Ob.loop lr0]) := by
        refine ⟨st.m, ν, Z, lr0, r0, ⟨rfl, by simp, fun i h1 _ _ => hgetH i h1, fun i hi => ⟨hi, hzr i hi⟩, fun i hi => .inl hi, fun i hi => .inl hi⟩, fun i hi => hi.elim, fun i hi => ⟨fun ho => ?_, Nat.ne_of_lt (r.zlt hi), .inl hi⟩, fun ho => absurd (r.lt ho) (by simp), fun hz => absurd (r.zlt hz) (by simp), Nat.le_refl _, by simp, ?_, fun d _ ob' h => ⟨ob', h, rfl, .refl _⟩, .inl ⟨hR, ?_, ?_⟩⟩
        · obtain ⟨d, ob, g1, g2, rfl⟩ := ho
          exact r.apart d ob g1 g2 hi
        · subst hlr; exact ⟨rfl, rfl, rfl, rfl, rfl⟩
        · subst hlr; rfl
        · subst hlr; rfl
      have hyc : Yc S (JI X st F ν (Own ν st.m) Z H H.length ps.toList aw bw (eachStep ps.toList A B st) oo mf more) more H.length :=
        ⟨fun w O Z1 H1 O' Z' H' jj h1 h2 h3 h4 h5 => JI.stab jj h1 h2 h3 h4 h5, fun x1 ws1 O Z1 H1 args jj h1 h2 h3 h4 => JI.yield S hA hB hps jj h1 h2 h3 h4⟩
      obtain ⟨n, yy, H', O', Z', e1, e2⟩ := hI f a b xs hit ws more hcond H.length _ hyc Z a' b' (H ++ [Ob.loop lr0]) (ra.mono hmono) (rb.mono hmono) (fun i hi => by rw [hzr i hi]; exact r.zrow i hi) (r.deep.mono hzr) j0
      obtain ⟨m1, νb, Zb, lr, r1, ⟨_, k2, k3, k4, k5, k6⟩, _, _, l1, l2, l3, l4, _, l6, l7⟩ := e2
      have hfin : m1 = mf ∧ (lr.st = .ready ∨ lr.st = .done) ∧ lr.pend.getD .norm = oo := by
        rcases l7 with ⟨g1, g2, g3⟩ | ⟨_, g1, g2, g3⟩
        · cases g1 with
          | nil hn =>
            exact ⟨rfl, .inl g2, by rw [g3, hn]; rfl⟩
        · exact ⟨g1, .inr g2, by rw [g3]; rfl⟩
      obtain ⟨rfl, hst, hpend⟩ := hfin
      have hll : H.length < H'.length := (List.getElem?_eq_some_iff.1 l4).1
      have hset : ∀ i, i ≠ H.length → (H'.set H.length .dead)[i]? = H'[i]? := fun i hne => by rw [List.getElem?_set, if_neg (Ne.symm hne)]
      have hzr2 : ∀ i, Zb i → rowsAt (H'.set H.length .dead) i = rowsAt H' i := fun i hi => by unfold rowsAt; rw [hset i fun e => l2 (e ▸ hi)]
      have r2 := r1.heap (H' := H'.set H.length .dead) (fun i hi => hset i fun e => l1 (e ▸ hi)) hzr2
      refine ⟨n, F, H'.set H.length .dead, νb, Zb, fun q hq => ?_, ⟨r2.slot, r2.obj, r2.inj, r2.apart, r2.zrow, r2.deep⟩, ?_, ⟨fun d hd => l6 d (List.mem_append_left _ hd), rfl, rfl, rfl⟩⟩
      · simp only [exec, hy]
        rw [hlr, e1 q hq]
        simp only [l4]
        rcases hst with hst | hst <;> rw [hst] <;> simp only [hpend]
      · refine y.stab _ _ _ _ _ _ _ j (by simp only [List.length_set]; omega) (fun i h1 h2 h3 => by rw [hset i (by omega), k3 i h1 h2 h3]) (fun i hi => ⟨(k4 i hi).1, by rw [hzr2 i (k4 i hi).1, (k4 i hi).2]⟩) k5 k6
    · simp at h
  · simp at h
end
end Go.VE
namespace Go.VE
def resS (st : St) : List RV → Option (List SV)
  | [] => some []
  | .s n :: r => match tget st.g n, resS st r with
    | some x, some l => some (x :: l)
    | _, _ => none
  | .ld n size agg :: r => match (tget st.g n).bind fun p => readS st.m (.load size agg) [p], resS st r with
    | some x, some l => some (x :: l)
    | _, _ => none
noncomputable def fbody (S : Sys) (c : CallS) (rf : RF) (svs : List SV) (m0 : Objs) : Option (List SV × Objs) :=
  if svs.length ≤ rf.na then
    match sexec S c rf.body (start svs m0) with
    | some (.exit _, _) => none
    | some (_, st) => (resS st rf.rs).map fun rs => (rs, st.m)
    | none => none
  else none
def compR (E : Env) : ResultVar → Option RV
  | .tmp t => some (.s t)
  | .cell a t => (E.tt t).map fun d => .ld a d.size d.agg
def IsRes (E : Env) (nm : FuncId → Option Nat) (fi : FI) (rf : RF) : Prop :=
  compC ⟨E, nm, fi.ntmps⟩ false fi.body = some (erase rf.body) ∧ fi.results.mapM (compR E) = some rf.rs ∧ rf.na = fi.ntmps
section
variable {ν ν' ν2 : Nu} {Z Z' : Nat → Prop} {st st' st2 : St} {m m' : Tb SOb} {F F' : Frame} {H H' H1 : Heap} {S : Sys} {c : CallS} {X : CX} {J : JT}
def hasEach : RC → Bool
  | .seq a b => hasEach a || hasEach b
  | .cond _ a b => hasEach a || hasEach b
  | .block _ c => hasEach c
  | .loop c => hasEach c
  | .each .. => true
  | .gh _ c => hasEach c
  | .hg c _ => hasEach c
  | _ => false
theorem code_ok (gd : Good X S) (hS : SoundC S c) (hI : ∀ f a b xs, S.items f a b = some xs → IterSound S f a b xs) : ∀ (rc : RC) (ro : Bool) (code : Code), compC X ro code = some (erase rc) → CodeOk X S ro code (sexec S c rc) := by
  intro rc
  induction rc with
  | skip =>
    intro ro code hc st o st' h J ν Z F H y r j
    simp only [sexec, Option.some.injEq, Prod.mk.injEq] at h; obtain ⟨rfl, rfl⟩ := h
    simp only [erase] at hc
    have : ∀ k, exec S.E (run S.E k) k ro X.nt code F H = some (.norm, F, H) := fun k => by
      cases code with
      | skip => rfl
      | label _ => rfl
      | region id ops draw =>
        simp only [compC] at hc
        split at hc
        · split at hc
          · obtain ⟨_, _, e⟩ := Option.map_eq_some_iff.1 hc; cases e
          · simp at hc
        · obtain ⟨_, _, e⟩ := Option.map_eq_some_iff.1 hc; cases e
      | seq a b => simp only [compC] at hc; split at hc <;> simp at hc
      | cond x a b => simp only [compC] at hc; split at hc <;> simp at hc
      | block id b => simp only [compC] at hc; obtain ⟨_, _, e⟩ := Option.map_eq_some_iff.1 hc; cases e
      | loop b => simp only [compC] at hc; obtain ⟨_, _, e⟩ := Option.map_eq_some_iff.1 hc; cases e
      | rangeFunc g ps aw bw =>
        simp only [compC] at hc
        split at hc
        · simp at hc
        · split at hc <;> simp at hc
      | _ => simp [compC] at hc
    exact ⟨0, F, H, ν, Z, fun k _ => this k, r, j, .refl⟩
  | ops l =>
    intro ro code hc
    simp only [erase] at hc
    cases code with
    | region id ops draw =>
      simp only [compC] at hc
      split at hc
      · split at hc
        · obtain ⟨_, _, e⟩ := Option.map_eq_some_iff.1 hc; cases e
        · simp at hc
      · rename_i hd
        obtain ⟨l', hl, e⟩ := Option.map_eq_some_iff.1 hc
        cases e
        intro st o st' h J ν Z F H y r j
        simp only [sexec] at h
        obtain ⟨st1, h1, e⟩ := Option.map_eq_some_iff.1 h
        simp only [Prod.mk.injEq] at e; obtain ⟨rfl, rfl⟩ := e
        obtain ⟨n, F', H', ν', Z', e1, e2, e3, e4⟩ := seq_ok gd hS _ hl h1 y r j
        refine ⟨n, F', H', ν', Z', fun k hk => ?_, e2, e3, e4⟩
        simp only [exec, runRegion, hd, Bool.false_eq_true, if_false, e1 k hk, Option.map_some]
    | seq a b => simp only [compC] at hc; split at hc <;> simp at hc
    | cond x a b => simp only [compC] at hc; split at hc <;> simp at hc
    | block id b => simp only [compC] at hc; obtain ⟨_, _, e⟩ := Option.map_eq_some_iff.1 hc; cases e
    | loop b => simp only [compC] at hc; obtain ⟨_, _, e⟩ := Option.map_eq_some_iff.1 hc; cases e
    | rangeFunc g ps aw bw =>
      simp only [compC] at hc
      split at hc
      · simp at hc
      · split at hc <;> simp at hc
    | _ => simp [compC] at hc
  | reg l =>
    intro ro code hc
    simp only [erase] at hc
    cases code with
    | region id ops draw =>
      simp only [compC] at hc
      split at hc
      · rename_i hd
        subst hd
        split at hc
        · rename_i hok
          obtain ⟨l', hl, e⟩ := Option.map_eq_some_iff.1 hc
          cases e
          have := region_ok (ro := ro) (id := id) gd hS hl hok
          intro st o st' h
          simp only [sexec] at h
          exact this st o st' h
        · simp at hc
      · obtain ⟨_, _, e⟩ := Option.map_eq_some_iff.1 hc; cases e
    | seq a b => simp only [compC] at hc; split at hc <;> simp at hc
    | cond x a b => simp only [compC] at hc; split at hc <;> simp at hc
    | block id b => simp only [compC] at hc; obtain ⟨_, _, e⟩ := Option.map_eq_some_iff.1 hc; cases e
    | loop b => simp only [compC] at hc; obtain ⟨_, _, e⟩ := Option.map_eq_some_iff.1 hc; cases e
    | rangeFunc g ps aw bw =>
      simp only [compC] at hc
      split at hc
      · simp at hc
      · split at hc <;> simp at hc
    | _ => simp [compC] at hc
  | seq a b iha ihb =>
    intro ro code hc
    simp only [erase] at hc
    cases code with
    | seq ca cb =>
      simp only [compC] at hc
      split at hc
      · rename_i xa xb ha hb
        simp only [Option.some.injEq, RC.seq.injEq] at hc
        obtain ⟨rfl, rfl⟩ := hc
        intro st o st' h J ν Z F H y r j
        simp only [sexec] at h
        split at h
        · rename_i st1 hs
          obtain ⟨n1, F1, H1, ν1, Z1, a1, a2, a3, a4⟩ := iha ro ca ha st .norm st1 hs J ν Z F H y r j
          obtain ⟨n2, F2, H2, ν2, Z2, b1, b2, b3, b4⟩ := ihb ro cb hb st1 o st' h J ν1 Z1 F1 H1 (by rw [a4.more, a4.yid]; exact y) a2 a3
          refine ⟨max n1 n2, F2, H2, ν2, Z2, fun q hq => ?_, b2, b3, a4.trans b4⟩
          simp only [exec, a1 q (Nat.le_trans (Nat.le_max_left _ _) hq)]
          exact b1 q (Nat.le_trans (Nat.le_max_right _ _) hq)
        · rename_i hs
          obtain ⟨n1, F1, H1, ν1, Z1, a1, a2, a3, a4⟩ := iha ro ca ha st o st' h J ν Z F H y r j
          refine ⟨n1, F1, H1, ν1, Z1, fun q hq => ?_, a2, a3, a4⟩
          simp only [exec, a1 q hq]
          cases o <;> first | exact absurd h (hs st') | rfl
      · simp at hc
    | region id ops draw =>
      simp only [compC] at hc
      split at hc
      · split at hc
        · obtain ⟨_, _, e⟩ := Option.map_eq_some_iff.1 hc; cases e
        · simp at hc
      · obtain ⟨_, _, e⟩ := Option.map_eq_some_iff.1 hc; cases e
    | cond x a b => simp only [compC] at hc; split at hc <;> simp at hc
    | block id b => simp only [compC] at hc; obtain ⟨_, _, e⟩ := Option.map_eq_some_iff.1 hc; cases e
    | loop b => simp only [compC] at hc; obtain ⟨_, _, e⟩ := Option.map_eq_some_iff.1 hc; cases e
    | rangeFunc g ps aw bw =>
      simp only [compC] at hc
      split at hc
      · simp at hc
      · split at hc <;> simp at hc
    | _ => simp [compC] at hc
  | cond x a b iha ihb =>
    intro ro code hc
    simp only [erase] at hc
    cases code with
    | cond g ca cb =>
      simp only [compC] at hc
      split at hc
      · rename_i xg xa xb hg ha hb
        simp only [Option.some.injEq, RC.cond.injEq] at hc
        obtain ⟨rfl, rfl, rfl⟩ := hc
        intro st o st' h J ν Z F H y r j
        simp only [sexec] at h
        split at h
        · rename_i t ht
          obtain ⟨yv, hy, ry⟩ := sarg_ok gd.N r.slot hg ht
          rw [ry.fr.bool] at hy
          split at h
          · rename_i hb
            obtain ⟨n1, F1, H1, ν1, Z1, a1, a2, a3, a4⟩ := iha ro ca ha st o st' h J ν Z F H y r j
            refine ⟨n1, F1, H1, ν1, Z1, fun q hq => ?_, a2, a3, a4⟩
            simp only [exec, hy, hb, if_true]
            exact a1 q hq
          · rename_i hb
            obtain ⟨n1, F1, H1, ν1, Z1, a1, a2, a3, a4⟩ := ihb ro cb (by assumption) st o st' h J ν Z F H y r j
            refine ⟨n1, F1, H1, ν1, Z1, fun q hq => ?_, a2, a3, a4⟩
            simp only [exec, hy, hb]
            exact a1 q hq
        · simp at h
      · simp at hc
    | region id ops draw =>
      simp only [compC] at hc
      split at hc
      · split at hc
        · obtain ⟨_, _, e⟩ := Option.map_eq_some_iff.1 hc; cases e
        · simp at hc
      · obtain ⟨_, _, e⟩ := Option.map_eq_some_iff.1 hc; cases e
    | seq a b => simp only [compC] at hc; split at hc <;> simp at hc
    | block id b => simp only [compC] at hc; obtain ⟨_, _, e⟩ := Option.map_eq_some_iff.1 hc; cases e
    | loop b => simp only [compC] at hc; obtain ⟨_, _, e⟩ := Option.map_eq_some_iff.1 hc; cases e
    | rangeFunc g ps aw bw =>
      simp only [compC] at hc
      split at hc
      · simp at hc
      · split at hc <;> simp at hc
    | _ => simp [compC] at hc
  | block id a iha =>
    intro ro code hc
    simp only [erase] at hc
    cases code with
    | block id' ca =>
      simp only [compC] at hc
      obtain ⟨xa, ha, e⟩ := Option.map_eq_some_iff.1 hc
      simp only [RC.block.injEq] at e
      obtain ⟨rfl, rfl⟩ := e
      intro st o st' h J ν Z F H y r j
      simp only [sexec] at h
      split at h
      · rename_i id2 st1 hs
        obtain ⟨n1, F1, H1, ν1, Z1, a1, a2, a3, a4⟩ := iha ro ca ha st (.exit id2) st1 hs J ν Z F H y r j
        split at h
        · rename_i e
          simp only [Option.some.injEq, Prod.mk.injEq] at h; obtain ⟨rfl, rfl⟩ := h
          refine ⟨n1, F1, H1, ν1, Z1, fun q hq => ?_, a2, a3, a4⟩
          simp only [exec, a1 q hq, if_pos e]
        · rename_i e
          simp only [Option.some.injEq, Prod.mk.injEq] at h; obtain ⟨rfl, rfl⟩ := h
          refine ⟨n1, F1, H1, ν1, Z1, fun q hq => ?_, a2, a3, a4⟩
          simp only [exec, a1 q hq, if_neg e]
      · rename_i hs
        obtain ⟨n1, F1, H1, ν1, Z1, a1, a2, a3, a4⟩ := iha ro ca ha st o st' h J ν Z F H y r j
        refine ⟨n1, F1, H1, ν1, Z1, fun q hq => ?_, a2, a3, a4⟩
        simp only [exec, a1 q hq]
        cases o <;> first | exact absurd h (hs _ st') | rfl
    | region id ops draw =>
      simp only [compC] at hc
      split at hc
      · split at hc
        · obtain ⟨_, _, e⟩ := Option.map_eq_some_iff.1 hc; cases e
        · simp at hc
      · obtain ⟨_, _, e⟩ := Option.map_eq_some_iff.1 hc; cases e
    | seq a b => simp only [compC] at hc; split at hc <;> simp at hc
    | cond x a b => simp only [compC] at hc; split at hc <;> simp at hc
    | loop b => simp only [compC] at hc; obtain ⟨_, _, e⟩ := Option.map_eq_some_iff.1 hc; cases e
    | rangeFunc g ps aw bw =>
      simp only [compC] at hc
      split at hc
      · simp at hc
      · split at hc <;> simp at hc
    | _ => simp [compC] at hc
  | loop a iha =>
    intro ro code hc
    simp only [erase] at hc
    cases code with
    | loop ca =>
      simp only [compC] at hc
      obtain ⟨xa, ha, e⟩ := Option.map_eq_some_iff.1 hc
      simp only [RC.loop.injEq] at e
      subst e
      have := loop_ok (iha ro ca ha)
      intro st o st' h
      simp only [sexec] at h
      exact this st o st' h
    | region id ops draw =>
      simp only [compC] at hc
      split at hc
      · split at hc
        · obtain ⟨_, _, e⟩ := Option.map_eq_some_iff.1 hc; cases e
        · simp at hc
      · obtain ⟨_, _, e⟩ := Option.map_eq_some_iff.1 hc; cases e
    | seq a b => simp only [compC] at hc; split at hc <;> simp at hc
    | cond x a b => simp only [compC] at hc; split at hc <;> simp at hc
    | block id b => simp only [compC] at hc; obtain ⟨_, _, e⟩ := Option.map_eq_some_iff.1 hc; cases e
    | rangeFunc g ps aw bw =>
      simp only [compC] at hc
      split at hc
      · simp at hc
      · split at hc <;> simp at hc
    | _ => simp [compC] at hc
  | each x ps a b iha ihb =>
    intro ro code hc
    simp only [erase] at hc
    cases code with
    | rangeFunc g ps' aw bw =>
      simp only [compC] at hc
      split at hc
      · simp at hc
      · rename_i hro
        simp only [Bool.or_eq_true, not_or, Bool.not_eq_true, Bool.not_eq_false'] at hro
        obtain ⟨rfl, hps⟩ := hro
        split at hc
        · rename_i xg xa xb hg ha hb
          simp only [Option.some.injEq, RC.each.injEq] at hc
          obtain ⟨rfl, rfl, rfl, rfl⟩ := hc
          have := each_ok gd hI hps hg (iha true aw ha) (ihb true bw hb)
          intro st o st' h
          simp only [sexec] at h
          exact this st o st' h
        · simp at hc
    | region id ops draw =>
      simp only [compC] at hc
      split at hc
      · split at hc
        · obtain ⟨_, _, e⟩ := Option.map_eq_some_iff.1 hc; cases e
        · simp at hc
      · obtain ⟨_, _, e⟩ := Option.map_eq_some_iff.1 hc; cases e
    | seq a b => simp only [compC] at hc; split at hc <;> simp at hc
    | cond x a b => simp only [compC] at hc; split at hc <;> simp at hc
    | block id b => simp only [compC] at hc; obtain ⟨_, _, e⟩ := Option.map_eq_some_iff.1 hc; cases e
    | loop b => simp only [compC] at hc; obtain ⟨_, _, e⟩ := Option.map_eq_some_iff.1 hc; cases e
    | _ => simp [compC] at hc
  | exit id =>
    intro ro code hc st o st' h J ν Z F H y r j
    simp only [sexec, Option.some.injEq, Prod.mk.injEq] at h; obtain ⟨rfl, rfl⟩ := h
    simp only [erase] at hc
    have : ∀ k, exec S.E (run S.E k) k ro X.nt code F H = some (.exit id, F, H) := fun k => by
      cases code with
      | exit id' => simp only [compC, Option.some.injEq, RC.exit.injEq] at hc; subst hc; rfl
      | region id ops draw =>
        simp only [compC] at hc
        split at hc
        · split at hc
          · obtain ⟨_, _, e⟩ := Option.map_eq_some_iff.1 hc; cases e
          · simp at hc
        · obtain ⟨_, _, e⟩ := Option.map_eq_some_iff.1 hc; cases e
      | seq a b => simp only [compC] at hc; split at hc <;> simp at hc
      | cond x a b => simp only [compC] at hc; split at hc <;> simp at hc
      | block id b => simp only [compC] at hc; obtain ⟨_, _, e⟩ := Option.map_eq_some_iff.1 hc; cases e
      | loop b => simp only [compC] at hc; obtain ⟨_, _, e⟩ := Option.map_eq_some_iff.1 hc; cases e
      | rangeFunc g ps aw bw =>
        simp only [compC] at hc
        split at hc
        · simp at hc
        · split at hc <;> simp at hc
      | _ => simp [compC] at hc
    exact ⟨0, F, H, ν, Z, fun k _ => this k, r, j, .refl⟩
  | ret =>
    intro ro code hc st o st' h J ν Z F H y r j
    simp only [sexec, Option.some.injEq, Prod.mk.injEq] at h; obtain ⟨rfl, rfl⟩ := h
    simp only [erase] at hc
    have : ∀ k, exec S.E (run S.E k) k ro X.nt code F H = some (.ret, F, H) := fun k => by
      cases code with
      | ret => rfl
      | region id ops draw =>
        simp only [compC] at hc
        split at hc
        · split at hc
          · obtain ⟨_, _, e⟩ := Option.map_eq_some_iff.1 hc; cases e
          · simp at hc
        · obtain ⟨_, _, e⟩ := Option.map_eq_some_iff.1 hc; cases e
      | seq a b => simp only [compC] at hc; split at hc <;> simp at hc
      | cond x a b => simp only [compC] at hc; split at hc <;> simp at hc
      | block id b => simp only [compC] at hc; obtain ⟨_, _, e⟩ := Option.map_eq_some_iff.1 hc; cases e
      | loop b => simp only [compC] at hc; obtain ⟨_, _, e⟩ := Option.map_eq_some_iff.1 hc; cases e
      | rangeFunc g ps aw bw =>
        simp only [compC] at hc
        split at hc
        · simp at hc
        · split at hc <;> simp at hc
      | _ => simp [compC] at hc
    exact ⟨0, F, H, ν, Z, fun k _ => this k, r, j, .refl⟩
  | gh x a iha =>
    intro ro code hc
    simp only [erase] at hc
    intro st o st' h J ν Z F H y r j
    simp only [sexec] at h
    obtain ⟨st1, h1, h2⟩ := Option.bind_eq_some_iff.1 h
    obtain ⟨ν1, Z1, g1, g2, g3⟩ := Fix.ghost r y j h1
    obtain ⟨n, F', H', ν', Z', e1, e2, e3, e4⟩ := iha ro code hc st1 o st' h2 J ν1 Z1 F H (by rw [g3.more, g3.yid]; exact y) g1 g2
    exact ⟨n, F', H', ν', Z', e1, e2, e3, g3.trans e4⟩
  | hg a x iha =>
    intro ro code hc
    simp only [erase] at hc
    intro st o st' h J ν Z F H y r j
    simp only [sexec] at h
    split at h
    · rename_i st1 hs
      obtain ⟨st2, h1, e⟩ := Option.map_eq_some_iff.1 h
      simp only [Prod.mk.injEq] at e; obtain ⟨rfl, rfl⟩ := e
      obtain ⟨n, F', H', ν', Z', e1, e2, e3, e4⟩ := iha ro code hc st .norm st1 hs J ν Z F H y r j
      obtain ⟨ν1, Z1, g1, g2, g3⟩ := Fix.ghost e2 (by rw [e4.more, e4.yid]; exact y) e3 h1
      exact ⟨n, F', H', ν1, Z1, e1, g1, g2, e4.trans g3⟩
    · exact iha ro code hc st o st' h J ν Z F H y r j
end
end Go.VE
namespace Go.VE
abbrev Tab := FuncId → Option RF
structure TabOk (S : Sys) (T : Tab) : Prop where
  fn : ∀ f rf, T f = some rf → ∃ fi nm, S.E.ft f = some fi ∧ (∀ g s, nm g = some s → S.N s = g) ∧ IsRes S.E nm fi rf
  orc : ∀ f as y, S.orc f as = some y → y.scalar = true ∧ ∃ n H', run S.E n (.fn f) as [] = some (y, H')
def orcS (S : Sys) (f : FuncId) (svs : List SV) (m0 : Objs) : Option (List SV × Objs) :=
  if S.E.keep f then none else match allV svs, m0 with
    | some as, [] => (S.orc f as).map fun y => ([.v y], [])
    | _, _ => none
noncomputable def callN (S : Sys) (T : Tab) : Nat → CallS
  | 0 => fun _ _ _ => none
  | n + 1 => fun f svs m0 => match T f with
    | some rf => fbody S (callN S T n) rf svs m0
    | none => orcS S f svs m0
section
variable {ν ν' ν2 : Nu} {Z Z' : Nat → Prop} {st st' st2 : St} {m m' : Tb SOb} {F F' : Frame} {H H' H1 : Heap} {S : Sys} {c c' : CallS} {X : CX} {J : JT} {T : Tab}
theorem resS_ok (r : R ν Z st F H) {nm : FuncId → Option Nat} : ∀ {rvs : List ResultVar} {rs : List RV} {l : List SV}, rvs.mapM (compR S.E) = some rs → resS st rs = some l → ∃ ys, resultsV S.E F H rvs = some ys ∧ SVRL ν st.m H Z l ys
  | [], rs, l, hc, h => by
    simp only [List.mapM_nil, Option.pure_def, Option.some.injEq] at hc; subst hc
    simp only [resS, Option.some.injEq] at h; subst h
    exact ⟨[], rfl, .nil⟩
  | rv :: rvs, rs, l, hc, h => by
    simp only [List.mapM_cons, Option.pure_def, Option.bind_eq_bind, Option.bind_eq_some_iff, Option.some.injEq] at hc
    obtain ⟨x, hx, ys, hy, rfl⟩ := hc
    cases rv with
    | tmp t =>
      simp only [compR, Option.some.injEq] at hx; subst hx
      simp only [resS] at h
      split at h
      · rename_i v vs h1 h2
        simp only [Option.some.injEq] at h; subst h
        obtain ⟨zs, e1, e2⟩ := resS_ok r (nm := nm) hy h2
        exact ⟨get F t :: zs, by simp only [resultsV, e1, Option.map_some], .cons (r.slot t v h1) e2⟩
      · simp at h
    | cell a t =>
      simp only [compR, Option.map_eq_some_iff] at hx
      obtain ⟨d, hd, rfl⟩ := hx
      simp only [resS] at h
      split at h
      · rename_i v vs h1 h2
        simp only [Option.some.injEq] at h; subst h
        obtain ⟨p, hp, h1⟩ := Option.bind_eq_some_iff.1 h1
        obtain ⟨zs, e1, e2⟩ := resS_ok r (nm := nm) hy h2
        obtain ⟨y, g1, g2⟩ := readS_ok (fun kk z ok e => by cases e) (SVRL.cons (r.slot a p hp) .nil) (fun d' _ ob hob => r.obj d' ob hob) h1
        simp only [reval] at g1
        exact ⟨y :: zs, by simp only [resultsV, hd, e1, g1, Option.map_some], .cons g2 e2⟩
      · simp at h
theorem fbody_sound (hS : SoundC S c) (hI : ∀ f a b xs, S.items f a b = some xs → IterSound S f a b xs) {f : FuncId} {fi : FI} {nm : FuncId → Option Nat} {rf : RF} (hft : S.E.ft f = some fi) (hN : ∀ g s, nm g = some s → S.N s = g) (hr : IsRes S.E nm fi rf)
    {svs : List SV} {m0 : Objs} {rs : List SV} {m1 : Objs} (h : fbody S c rf svs m0 = some (rs, m1)) {args : List V} (r : R ν Z (start svs m0) args H) (hl : SVRL ν m0 H Z svs args) :
    ∃ n y H' ν' Z' st' F' ys, run S.E n (.fn f) args H = some (y, H') ∧ y = result ys ∧ st'.m = m1 ∧ SVRL ν' m1 H' Z' rs ys ∧ R ν' Z' st' F' H' ∧ Ev (fun _ => False) ν Z (start svs m0) H ν' Z' st' H' := by
  obtain ⟨hc, hrs, hna⟩ := hr
  unfold fbody at h
  split at h
  · rename_i hlen
    have key : ∀ o st', sexec S c rf.body (start svs m0) = some (o, st') → (∀ id, o ≠ .exit id) → (resS st' rf.rs).map (fun rs => (rs, st'.m)) = some (rs, m1) →
        ∃ n y H' ν' Z' st' F' ys, run S.E n (.fn f) args H = some (y, H') ∧ y = result ys ∧ st'.m = m1 ∧ SVRL ν' m1 H' Z' rs ys ∧ R ν' Z' st' F' H' ∧ Ev (fun _ => False) ν Z (start svs m0) H ν' Z' st' H' := fun o st' hs ho hres => by
      obtain ⟨l, h1, e⟩ := Option.map_eq_some_iff.1 hres
      simp only [Prod.mk.injEq] at e; obtain ⟨rfl, rfl⟩ := e
      obtain ⟨n, F', H', ν', Z', e1, e2, e3, e4⟩ := code_ok (X := ⟨S.E, nm, fi.ntmps⟩) ⟨rfl, hN⟩ hS hI rf.body false fi.body hc _ _ _ hs (EvJ (Own ν (start svs m0).m) Z H) ν Z args H EvJ.yc r (EvJ.refl r)
      obtain ⟨ys, p1, p2⟩ := resS_ok (nm := nm) e2 hrs h1
      obtain ⟨_, q2, q3, q4, q5, q6⟩ := e3
      refine ⟨n + 1, result ys, H', ν', Z', st', F', ys, ?_, rfl, rfl, p2, e2, ⟨q2, fun i h1 h2 h3 _ => q3 i h1 h2 h3, q4, fun i h => (q5 i h).imp (fun h => h) .inr, fun i h => (q6 i h).imp (fun h => h) (.imp (fun h => h) .inr), e4.pin, e4.pins⟩⟩
      have hargs : args.length ≤ fi.ntmps := by rw [← hl.1, ← hna]; exact hlen
      simp only [run, hft, if_pos hargs, e1 n (Nat.le_refl _)]
      cases o with
      | exit id => exact absurd rfl (ho id)
      | norm => simp only [p1, Option.map_some]
      | ret => simp only [p1, Option.map_some]
    split at h
    · simp at h
    · rename_i o st' hne hs
      exact key o st' hs (fun id e => by subst e; exact hne id rfl) h
    · simp at h
  · simp at h
theorem FR.emp {x y : V} (hz : ∀ id, ¬ Z id) (r : FR H Z x y) : x = y := by
  have hl : ∀ {a a' : List V}, a.length = a'.length → (∀ (j : Nat) u v, a[j]? = some u → a'[j]? = some v → u = v) → a = a' := fun {a a'} h1 h2 => by
    apply List.ext_getElem h1
    intro i p q
    exact h2 i _ _ (List.getElem?_eq_getElem p) (List.getElem?_eq_getElem q)
  induction r with
  | same x h => rfl
  | fsl es xs id off ys h => exact absurd h (hz _)
  | fptr xs id el off es ys cs h => exact absurd h (hz _)
  | clo f a b a' b' h1 h2 _ _ i1 i2 => rw [hl h1 i1, hl h2 i2]
  | agg a a' h1 _ i1 => rw [hl h1 i1]
  | tup a a' h1 _ i1 => rw [hl h1 i1]
theorem SVRL.emp (hz : ∀ id, ¬ Z id) : ∀ {xs ys : List V}, SVRL ν m H Z (xs.map .v) ys → xs = ys
  | [], ys, h => h.inv0.symm
  | x :: xs, ys, h => by
    obtain ⟨y, ys, rfl, h1, h2⟩ := h.inv
    rw [FR.emp hz h1.fr, SVRL.emp hz h2]
theorem callN_sound (hT : TabOk S T) (hI : ∀ f a b xs, S.items f a b = some xs → IterSound S f a b xs) : ∀ n, SoundC S (callN S T n)
  | 0 => fun f svs m0 rs m1 h => by simp [callN] at h
  | n + 1 => fun f svs m0 rs m1 h ν Z args H hH r hl => by
    simp only [callN] at h
    split at h
    · rename_i rf hrf
      obtain ⟨fi, nm, h1, h2, h3⟩ := hT.fn f rf hrf
      exact fbody_sound (callN_sound hT hI n) hI h1 h2 h3 h r hl
    · unfold orcS at h
      split at h
      · simp at h
      · rename_i hk
        split at h
        · rename_i as ha
          obtain ⟨y, hy, e⟩ := Option.map_eq_some_iff.1 h
          simp only [Prod.mk.injEq] at e; obtain ⟨rfl, rfl⟩ := e
          obtain ⟨hs, k, H', hrun⟩ := hT.orc f as y hy
          rcases hH with hH | rfl
          · exact absurd hH hk
          have hz : ∀ id, ¬ Z id := fun id hid => by have := r.zrow id hid; simp [rowsAt] at this
          have hargs : args = as := by
            rw [allV_spec ha] at hl
            exact (SVRL.emp hz hl).symm
          subst hargs
          refine ⟨k, y, H', fun _ => (0, 0), fun _ => False, ⟨[], [], [], [], true, 0⟩, [], [y], hrun, rfl, rfl, SVRL.mapv (ys := [y]) (by show (V.good y && true) = true; rw [scalar_good hs]; rfl), ?_, ?_⟩
          · exact ⟨fun s sv h => by simp [tget] at h, fun d ob h => by simp [tget] at h, fun d d' ob ob' h => by simp [tget] at h, fun d ob h => by simp [tget] at h, fun id h => h.elim, ⟨fun id es ys h => h.elim⟩⟩
          · exact ⟨Nat.zero_le _, fun id h => by simp at h, fun id h => absurd h (hz id), fun id h => by obtain ⟨d, ob, h, _⟩ := h; simp [tget] at h, fun id h => h.elim, fun d h => by simp [start] at h, rfl⟩
        · simp at h
abbrev Asked := List ((FuncId × List SV × Objs) × (List SV × Objs))
def Agrees (c : CallS) (L : Asked) : Prop := ∀ p ∈ L, c p.1.1 p.1.2.1 p.1.2.2 = some p.2
def Fin {α : Type} (c : CallS) (f : CallS → Option α) (r : α) : Prop := ∃ L : Asked, Agrees c L ∧ ∀ c', Agrees c' L → f c' = some r
theorem Fin.pure {α : Type} {f : CallS → Option α} {r : α} (h : ∀ c', f c' = some r) : Fin c f r := ⟨[], fun p hp => by simp at hp, fun c' _ => h c'⟩
theorem Fin.bind {α β : Type} {f : CallS → Option α} {r : α} {g : CallS → Option β} {q : β} (h1 : Fin c f r) (g' : CallS → α → Option β) (h2 : Fin c (fun c => g' c r) q) (hg : ∀ c', f c' = some r → g c' = g' c' r) : Fin c g q := by
  obtain ⟨L1, a1, b1⟩ := h1
  obtain ⟨L2, a2, b2⟩ := h2
  refine ⟨L1 ++ L2, fun p hp => (List.mem_append.1 hp).elim (a1 p) (a2 p), fun c' hc => ?_⟩
  rw [hg c' (b1 c' fun p hp => hc p (List.mem_append_left _ hp))]
  exact b2 c' fun p hp => hc p (List.mem_append_right _ hp)
theorem Fin.call {f : FuncId} {svs : List SV} {m0 : Objs} {r : List SV × Objs} (h : c f svs m0 = some r) : Fin c (fun c => c f svs m0) r :=
  ⟨[((f, svs, m0), r)], fun p hp => by simp at hp; subst hp; exact h, fun c' hc => hc ((f, svs, m0), r) (by simp)⟩
theorem callS_fin {dst : Option Nat} {dr now : Bool} {old : List SV → Bool} {f : FuncId} {args : List SV} {r : SV × St} (h : callS S c dst dr now old f args st = some r) : Fin c (fun c => callS S c dst dr now old f args st) r := by
  have h0 := h
  unfold callS at h
  split at h
  · rename_i hk
    split at h
    · rename_i hn
      split at h
      · rename_i ho
        split at h
        · rename_i as hs
          split at h
          · rename_i hl
            split at h
            · rename_i rs m' hc
              refine (Fin.call hc).bind (fun c' q => callS S c dst dr now old f args st) (.pure fun _ => h0) (fun c' hc' => ?_)
              unfold callS
              simp only [hk, hn, ho, if_true, hs, hl, hc, hc']
            · simp at h
          · simp at h
        · simp at h
      · rename_i ho
        split at h
        · simp at h
        · rename_i hd
          split at h
          · rename_i os hh
            split at h
            · rename_i rs m' hc
              refine (Fin.call hc).bind (fun c' q => callS S c dst dr now old f args st) (.pure fun _ => h0) (fun c' hc' => ?_)
              unfold callS
              simp only [hk, hn, ho, if_true, hd, hh, hc, hc', Bool.false_eq_true, if_false]
            · simp at h
          · simp at h
    · simp at h
  · rename_i hk
    split at h
    · rename_i as hs
      split at h
      · rename_i hl
        split at h
        · rename_i rs m' hc
          refine (Fin.call hc).bind (fun c' q => callS S c dst dr now old f args st) (.pure fun _ => h0) (fun c' hc' => ?_)
          unfold callS
          simp only [hk, if_false, hs, hl, if_true, hc, hc', Bool.false_eq_true]
        · simp at h
      · simp at h
    · simp at h
theorem doS_fin {dr : Bool} {fr : List Nat} {o : RO} {r : SV × St} (h : doS S c dr fr o st = some r) : Fin c (fun c => doS S c dr fr o st) r := by
  have h0 := h
  unfold doS at h
  split at h
  · rename_i svs hs
    split at h
    · refine .pure fun c' => ?_
      have h1 := h0
      unfold doS at h1 ⊢
      rename_i hk
      simp only [hs, hk] at h1 ⊢
      exact h1
    · refine .pure fun c' => ?_
      have h1 := h0
      unfold doS at h1 ⊢
      rename_i hne hk
      simp only [hs, hk] at h1 ⊢
      exact h1
    · refine .pure fun c' => ?_
      have h1 := h0
      unfold doS at h1 ⊢
      rename_i hk
      simp only [hs, hk] at h1 ⊢
      exact h1
    · refine .pure fun c' => ?_
      have h1 := h0
      unfold doS at h1 ⊢
      rename_i hk
      simp only [hs, hk] at h1 ⊢
      exact h1
    · refine .pure fun c' => ?_
      have h1 := h0
      unfold doS at h1 ⊢
      rename_i hk
      simp only [hs, hk] at h1 ⊢
      exact h1
    · rename_i hk
      split at h
      · refine (callS_fin h).bind (fun _ q => some q) (.pure fun _ => rfl) (fun c' hc' => ?_)
        unfold doS
        simp only [hs, hk, hc']
      · refine (callS_fin h).bind (fun _ q => some q) (.pure fun _ => rfl) (fun c' hc' => ?_)
        unfold doS
        simp only [hs, hk, hc']
      · simp at h
  · simp at h
theorem sop_fin {dr : Bool} {fr : List Nat} {o : RO} {r : St} (h : sop S c dr fr o st = some r) : Fin c (fun c => sop S c dr fr o st) r := by
  have h0 := h
  unfold sop at h
  split at h
  · rename_i hw
    split at h
    · rename_i id vs hy
      refine .pure fun c' => ?_
      unfold sop
      simp only [hw, hy]
      exact h
    · rename_i hy
      obtain ⟨q, hq, e⟩ := Option.map_eq_some_iff.1 h
      refine (doS_fin hq).bind (fun _ q => some (putO q.2 o.dst q.1)) (.pure fun _ => by rw [← e]) (fun c' hc' => ?_)
      unfold sop
      simp only [hw, hy, hc', Option.map_some]
  · rename_i hw
    refine .pure fun c' => ?_
    unfold sop
    simp only [hw]
    exact h
  · simp at h
theorem sops_fin {dr : Bool} : ∀ {l : List RO} {fr : List Nat} {st r : St}, sops S c dr fr l st = some r → Fin c (fun c => sops S c dr fr l st) r
  | [], fr, st, r, h => .pure fun _ => h
  | o :: l, fr, st, r, h => by
    simp only [sops] at h
    split at h
    · rename_i st1 hs
      obtain ⟨stg, hg, hs⟩ := Option.bind_eq_some_iff.1 hs
      exact (sop_fin hs).bind (fun c' q => sops S c' dr (if dr then freshS fr o.strip else fr) l (dropD o.dead q)) (sops_fin h) (fun c' hc' => by simp only [sops, hg, Option.bind_some, hc'])
    · simp at h
theorem loopK_fin {f : CallS → St → Option (Out × St)} (hf : ∀ st r, f c st = some r → Fin c (fun c => f c st) r) : ∀ {k : Nat} {st : St} {r : Out × St}, loopK (f c) k st = some r → Fin c (fun c => loopK (f c) k st) r
  | 0, st, r, h => by simp [loopK] at h
  | k + 1, st, r, h => by
    simp only [loopK] at h
    split at h
    · rename_i st1 hs
      exact (hf st _ hs).bind (fun c' q => loopK (f c') k st1) (loopK_fin hf h) (fun c' hc' => by simp only [loopK, hc'])
    · rename_i hs
      refine (hf st r h).bind (fun _ q => some q) (.pure fun _ => rfl) (fun c' hc' => ?_)
      obtain ⟨o, st'⟩ := r
      simp only [loopK, hc']
      cases o <;> first | exact absurd h (hs st') | rfl
theorem eachS_fin {f : CallS → List V → Tb SOb → Option (Out × Tb SOb)} (hf : ∀ x m r, f c x m = some r → Fin c (fun c => f c x m) r) : ∀ {xs : List (List V)} {m : Tb SOb} {r : Out × Tb SOb}, eachS (f c) xs m = some r → Fin c (fun c => eachS (f c) xs m) r
  | [], m, r, h => .pure fun _ => h
  | x :: xs, m, r, h => by
    simp only [eachS] at h
    split at h
    · rename_i m1 hs
      exact (hf x m _ hs).bind (fun c' q => eachS (f c') xs m1) (eachS_fin hf h) (fun c' hc' => by simp only [eachS, hc'])
    · rename_i hs
      refine (hf x m r h).bind (fun _ q => some q) (.pure fun _ => rfl) (fun c' hc' => ?_)
      obtain ⟨o, st'⟩ := r
      simp only [eachS, hc']
      cases o <;> first | exact absurd h (hs st') | rfl
theorem sexec_fin : ∀ {rc : RC} {st : St} {r : Out × St}, sexec S c rc st = some r → Fin c (fun c => sexec S c rc st) r := by
  intro rc
  induction rc with
  | skip => exact fun h => .pure fun _ => h
  | exit id => exact fun h => .pure fun _ => h
  | ret => exact fun h => .pure fun _ => h
  | ops l =>
    intro st r h
    simp only [sexec] at h ⊢
    obtain ⟨q, hq, e⟩ := Option.map_eq_some_iff.1 h
    exact (sops_fin hq).bind (fun _ q => some (.norm, q)) (.pure fun _ => by rw [← e]) (fun c' hc' => by simp only [hc', Option.map_some])
  | reg l =>
    intro st r h
    simp only [sexec] at h ⊢
    obtain ⟨q, hq, e⟩ := Option.map_eq_some_iff.1 h
    exact (sops_fin hq).bind (fun _ q => some (.norm, q)) (.pure fun _ => by rw [← e]) (fun c' hc' => by simp only [hc', Option.map_some])
  | seq a b iha ihb =>
    intro st r h
    simp only [sexec] at h ⊢
    split at h
    · rename_i st1 hs
      exact (iha hs).bind (fun c' q => sexec S c' b st1) (ihb h) (fun c' hc' => by simp only [hc'])
    · rename_i hs
      refine (iha h).bind (fun _ q => some q) (.pure fun _ => rfl) (fun c' hc' => ?_)
      obtain ⟨o, st'⟩ := r
      simp only [hc']
      cases o <;> first | exact absurd h (hs st') | rfl
  | cond x a b iha ihb =>
    intro st r h
    simp only [sexec] at h ⊢
    split at h
    · rename_i t ht
      split at h
      · rename_i hb; simp only [hb, if_true]; exact iha h
      · rename_i hb; simp only [hb]; exact ihb h
    · simp at h
  | block id a iha =>
    intro st r h
    simp only [sexec] at h ⊢
    split at h
    · rename_i id2 st1 hs
      exact (iha hs).bind (fun c' q => if id2 = id then some (.norm, st1) else some (.exit id2, st1)) (.pure fun _ => h) (fun c' hc' => by simp only [hc'])
    · rename_i hs
      refine (iha h).bind (fun _ q => some q) (.pure fun _ => rfl) (fun c' hc' => ?_)
      obtain ⟨o, st'⟩ := r
      simp only [hc']
      cases o <;> first | exact absurd h (hs _ st') | rfl
  | loop a iha =>
    intro st r h
    simp only [sexec] at h ⊢
    obtain ⟨k, hk⟩ := loopS_iff.1 h
    refine (loopK_fin (f := fun c => sexec S c a) (fun st r h => iha h) hk).bind (fun _ q => some q) (.pure fun _ => rfl) (fun c' hc' => ?_)
    exact loopS_iff.2 ⟨k, hc'⟩
  | each g ps a b iha ihb =>
    intro st r h
    simp only [sexec] at h ⊢
    split at h
    · rename_i f x y hs
      split at h
      · rename_i xs hi
        obtain ⟨q, hq, e⟩ := Option.map_eq_some_iff.1 h
        refine (eachS_fin (f := fun c => eachStep ps (sexec S c a) (sexec S c b) st) (fun z m r h => ?_) hq).bind (fun _ q => some (q.1, { st with m := q.2 })) (.pure fun _ => by rw [← e]) (fun c' hc' => by simp only [hc', Option.map_some])
        unfold eachStep at h
        split at h
        · rename_i hl
          split at h
          · rename_i st1 h1
            obtain ⟨q2, hq2, e2⟩ := Option.map_eq_some_iff.1 h
            refine (iha h1).bind (fun c' q => (sexec S c' b st1).map fun (o, st2) => (o, st2.m)) ((ihb hq2).bind (fun _ q => some (q.1, q.2.m)) (.pure fun _ => by rw [← e2]) (fun c' hc' => by simp only [hc', Option.map_some])) (fun c' hc' => ?_)
            unfold eachStep
            simp only [if_pos hl, hc']
          · simp at h
        · simp at h
      · simp at h
    · simp at h
  | gh x a iha =>
    intro st r h
    simp only [sexec] at h ⊢
    obtain ⟨st1, h1, h2⟩ := Option.bind_eq_some_iff.1 h
    rw [h1]
    exact iha h2
  | hg a x iha =>
    intro st r h
    simp only [sexec] at h ⊢
    split at h
    · rename_i st1 hs
      exact (iha hs).bind (fun c' q => (ghost x st1).map fun st => (.norm, st)) (.pure fun _ => h) (fun c' hc' => by simp only [hc'])
    · rename_i hs
      refine (iha h).bind (fun _ q => some q) (.pure fun _ => rfl) (fun c' hc' => ?_)
      obtain ⟨o, st'⟩ := r
      simp only [hc']
      cases o <;> first | exact absurd h (hs st') | rfl
theorem fbody_fin {rf : RF} {svs : List SV} {m0 : Objs} {r : List SV × Objs} (h : fbody S c rf svs m0 = some r) : Fin c (fun c => fbody S c rf svs m0) r := by
  have h0 := h
  unfold fbody at h
  split at h
  · rename_i hl
    split at h
    · simp at h
    · rename_i o st hne hs
      refine (sexec_fin hs).bind (fun c' q => fbody S c rf svs m0) (.pure fun _ => h0) (fun c' hc' => ?_)
      unfold fbody
      simp only [if_pos hl, hc', hs]
    · simp at h
  · simp at h
theorem callN_succ : ∀ {n : Nat} {f : FuncId} {svs : List SV} {m0 : Objs} {r : List SV × Objs}, callN S T n f svs m0 = some r → callN S T (n + 1) f svs m0 = some r
  | 0, f, svs, m0, r, h => by simp [callN] at h
  | n + 1, f, svs, m0, r, h => by
    simp only [callN] at h
    rw [callN]
    split at h
    · rename_i rf hrf
      obtain ⟨L, h1, h2⟩ := fbody_fin h
      simp only [hrf]
      exact h2 _ fun p hp => callN_succ (h1 p hp)
    · rename_i hrf
      simp only [hrf]
      exact h
theorem callN_le {n k : Nat} (h : n ≤ k) {f : FuncId} {svs : List SV} {m0 : Objs} {r : List SV × Objs} (hn : callN S T n f svs m0 = some r) : callN S T k f svs m0 = some r := by
  induction h with
  | refl => exact hn
  | step _ ih => exact callN_succ ih
open Classical in
noncomputable def callL (S : Sys) (T : Tab) : CallS := fun f svs m0 => if h : ∃ n r, callN S T n f svs m0 = some r then some (Classical.choose (Classical.choose_spec h)) else none
theorem callL_iff {f : FuncId} {svs : List SV} {m0 : Objs} {r : List SV × Objs} : callL S T f svs m0 = some r ↔ ∃ n, callN S T n f svs m0 = some r := by
  unfold callL
  constructor
  · intro h
    split at h
    · rename_i hx
      simp only [Option.some.injEq] at h
      exact ⟨_, by rw [← h]; exact Classical.choose_spec (Classical.choose_spec hx)⟩
    · simp at h
  · rintro ⟨k, hk⟩
    have hx : ∃ n r, callN S T n f svs m0 = some r := ⟨k, r, hk⟩
    rw [dif_pos hx]
    have h2 := Classical.choose_spec (Classical.choose_spec hx)
    have h3 := callN_le (Nat.le_max_left (Classical.choose hx) k) h2
    have h4 := callN_le (Nat.le_max_right (Classical.choose hx) k) hk
    rw [h3] at h4; exact h4
theorem agrees_fin {L : Asked} (h : Agrees (callL S T) L) : ∃ n, ∀ k, n ≤ k → Agrees (callN S T k) L := by
  induction L with
  | nil => exact ⟨0, fun k _ p hp => by simp at hp⟩
  | cons q L ih =>
    obtain ⟨n1, h1⟩ := callL_iff.1 (h q (by simp))
    obtain ⟨n2, h2⟩ := ih fun p hp => h p (List.mem_cons_of_mem _ hp)
    refine ⟨max n1 n2, fun k hk p hp => ?_⟩
    rcases List.mem_cons.1 hp with rfl | hp
    · exact callN_le (Nat.le_trans (Nat.le_max_left _ _) hk) h1
    · exact h2 k (Nat.le_trans (Nat.le_max_right _ _) hk) p hp
theorem callL_orc {f : FuncId} {as : List V} {y : V} (hT : T f = none) (hk : S.E.keep f = false) (h : S.orc f as = some y) : callL S T f (as.map .v) [] = some ([.v y], []) := by
  refine callL_iff.2 ⟨1, ?_⟩
  have ha : allV (as.map .v) = some as := by
    clear h
    induction as with
    | nil => rfl
    | cons a l ih => simp only [List.map_cons, allV, ih]; rfl
  simp only [callN, hT, orcS, hk, ha, h]
  rfl
theorem callL_eq {f : FuncId} {rf : RF} (hT : T f = some rf) (svs : List SV) (m0 : Objs) : callL S T f svs m0 = fbody S (callL S T) rf svs m0 := by
  cases h : fbody S (callL S T) rf svs m0 with
  | some r =>
    obtain ⟨L, h1, h2⟩ := fbody_fin h
    obtain ⟨n, hn⟩ := agrees_fin h1
    refine callL_iff.2 ⟨n + 1, ?_⟩
    simp only [callN, hT]
    exact h2 _ (hn n (Nat.le_refl _))
  | none =>
    cases h2 : callL S T f svs m0 with
    | none => rfl
    | some r =>
      obtain ⟨n, hn⟩ := callL_iff.1 h2
      cases n with
      | zero => simp [callN] at hn
      | succ n =>
        simp only [callN, hT] at hn
        obtain ⟨L, h3, h4⟩ := fbody_fin hn
        have h5 := h4 (callL S T) fun p hp => callL_iff.2 ⟨n, h3 p hp⟩
        dsimp only at h5
        rw [h5] at h; cases h
theorem callL_sound (hT : TabOk S T) (hI : ∀ f a b xs, S.items f a b = some xs → IterSound S f a b xs) : SoundC S (callL S T) := fun f svs m0 rs m1 h => by
  obtain ⟨n, hn⟩ := callL_iff.1 h
  exact callN_sound hT hI n f svs m0 rs m1 hn
theorem iter_of (hS : SoundC S c) {f : FuncId} {fi : FI} {nm : FuncId → Option Nat} {rf : RF} (hI : ∀ f a b xs, S.items f a b = some xs → IterSound S f a b xs) (hft : S.E.ft f = some fi) (hN : ∀ g s, nm g = some s → S.N s = g) (hr : IsRes S.E nm fi rf) {a b : List V} {xs : List (List V)}
    (hlen : a.length + 1 + b.length ≤ rf.na) (hrs : rf.rs = [])
    (h : ∀ ws more, (more = true ∧ ws = xs ∨ more = false ∧ ws ≠ [] ∧ ∃ r, xs = ws ++ r) → ∀ yid, ∃ o st', sexec S c rf.body { g := numS 0 (a.map .v ++ .yl yid :: b.map .v), m := [], pin := [], want := ws, more := more, yid := yid } = some (o, st') ∧ (∀ id, o ≠ .exit id) ∧ st'.want = [] ∧ st'.m = st'.m) :
    IterSound S f a b xs := by
  intro ws more hw yid J y Z a' b' H ha hb hz hd j
  obtain ⟨o, st', h1, h2, h3, _⟩ := h ws more hw yid
  obtain ⟨hc, hrr, hna⟩ := hr
  have hl : SVRL (fun _ => (0, 0)) [] H Z (a.map .v ++ .yl yid :: b.map .v) (a' ++ .yld yid :: b') := (SVRL.ofFRL ha).append (.cons (.yl yid) (SVRL.ofFRL hb))
  have r0 : R (fun _ => (0, 0)) Z { g := numS 0 (a.map .v ++ .yl yid :: b.map .v), m := [], pin := [], want := ws, more := more, yid := yid } (a' ++ .yld yid :: b') H :=
    ⟨slots_start hl, fun d ob h => by simp [tget] at h, fun d d' ob ob' h => by simp [tget] at h, fun d ob h => by simp [tget] at h, hz, hd⟩
  obtain ⟨n, F', H', ν', Z', e1, e2, e3, e4⟩ := code_ok (X := ⟨S.E, nm, fi.ntmps⟩) ⟨rfl, hN⟩ hS hI rf.body false fi.body hc _ _ _ h1 J _ Z _ H y r0 (by
    refine y.stab _ _ _ _ _ _ _ j (Nat.le_refl _) (fun _ _ _ _ => rfl) (fun i hi => ⟨hi, rfl⟩) (fun i hi => ?_) (fun i hi => .inl hi)
    obtain ⟨d, ob, h, _⟩ := hi
    simp [tget] at h)
  rw [h3] at e3
  rw [hrs] at hrr
  obtain ⟨ys, p1, p2⟩ := resS_ok (nm := nm) (rs := []) (l := []) e2 hrr rfl
  refine ⟨n + 1, result ys, H', _, Z', fun k hk => ?_, e3⟩
  have hargs : (a' ++ V.yld yid :: b').length ≤ fi.ntmps := by rw [← hl.1, ← hna]; simp; omega
  cases k with
  | zero => omega
  | succ k =>
    simp only [run, hft, if_pos hargs, e1 k (by omega)]
    cases o with
    | exit id => exact absurd rfl (h2 id)
    | norm => simp only [p1, Option.map_some]
    | ret => simp only [p1, Option.map_some]
theorem runs_of (hT : TabOk S T) (hI : ∀ f a b xs, S.items f a b = some xs → IterSound S f a b xs) {f : FuncId} {as : List V} (hg : V.goodL as = true) {y : V} {m' : Objs} (h : callL S T f (as.map .v) [] = some ([.v y], m')) (hy : y.scalar = true) :
    ∃ n H', run S.E n (.fn f) as [] = some (y, H') := by
  obtain ⟨r0, r1⟩ := start_iso hg
  obtain ⟨n, y', H2, ν', Z', st', F', zs, h1, rfl, h3, h4, h5, _⟩ := callL_sound hT hI f _ _ _ _ h _ _ as [] (.inr rfl) r0 r1
  obtain ⟨z, zs, rfl, e1, e2⟩ := h4.inv
  rw [e2.inv0] at h1
  have := (e1.fr.scalar).1 hy
  subst this
  exact ⟨n, H2, h1⟩
end
end Go.VE
