/-
 The engine, part 2: calls, regions, loops; a run of it is a run of the program.
-/
import Derived.OrdersIn
import Derived.RangeFuncRecord
import Derived.RangeFuncLeaves
import Derived.Laws.StructEq
import Derived.Test.YtnfakljmdnbipaaV1
set_option linter.all false
namespace Go.VE
theorem n9 {xs : List V} (h : V.iX xs = true) : ∀ x ∈ xs, V.closed x = true := by
 induction xs with
 | nil => simp
 | cons x r ih =>
  simp only [V.iX, Bool.and_eq_true] at h
  intro y hy
  rcases List.mem_cons.1 hy with rfl | hy
  ·exact h.1
  ·exact ih h.2 y hy
theorem vm {xs : List V} (h : V.bZ xs = true) : ∀ x ∈ xs, V.scalar x = true := by
 induction xs with
 | nil => simp
 | cons x r ih =>
  simp only [V.bZ, Bool.and_eq_true] at h
  intro y hy
  rcases List.mem_cons.1 hy with rfl | hy
  ·exact h.1
  ·exact ih h.2 y hy
section
variable {I I' : aR} {μ : Mu} {H H' : ao} {w : World}
theorem aD.closed {x : V} {v : Value} (h : aD I μ x v) (hc : x.closed = true) : d4 I x v := by
 induction h with
 | c x v h => exact h
 | hsl id off len cap p hm h1 h2 => simp [V.closed] at hc
 | hsl0 id es off a => simp [V.closed] at hc
 | hptr id el off p hm => simp [V.closed] at hc
 | yld id p hm => simp [V.closed] at hc
 | hmap id p hm => simp [V.closed] at hc
 | clo f x y u v hx hy _ _ ih1 ih2 =>
  simp only [V.closed, Bool.and_eq_true] at hc
  exact .clo f x y u v hx hy (fun j a b p q => ih1 j a b p q (n9 hc.1 a (List.mem_of_getElem? p))) (fun j a b p q => ih2 j a b p q (n9 hc.2 a (List.mem_of_getElem? p)))
 | agg cs vs hl _ ih =>
  simp only [V.closed] at hc
  exact .agg cs vs hl fun j a b p q => ih j a b p q (n9 hc a (List.mem_of_getElem? p))
 | tup cs vs hl _ ih =>
  simp only [V.closed] at hc
  exact .tup cs vs hl fun j a b p q => ih j a b p q (n9 hc a (List.mem_of_getElem? p))
theorem d4.scalar {x : V} {v : Value} (h : d4 I x v) (hs : x.scalar = true) : d4 I' x v := by
 induction h with
 | bool b => exact .bool b
 | int k n => exact .int k n
 | str s => exact .str s
 | dZ a => exact .dZ a
 | au => exact .au
 | bX => exact .bX
 | fh => exact .fh
 | aH => exact .aH
 | agg cs vs hl _ ih =>
  simp only [V.scalar] at hs
  exact .agg cs vs hl fun j a b p q => ih j a b p q (vm hs a (List.mem_of_getElem? p))
 | tup cs vs hl _ ih =>
  simp only [V.scalar] at hs
  exact .tup cs vs hl fun j a b p q => ih j a b p q (vm hs a (List.mem_of_getElem? p))
 | _ => simp [V.scalar] at hs
theorem iP {f : V → Option V} : ∀ {xs ys : List V}, jh f xs = some ys → ys.length = xs.length ∧ ∀ (j : Nat) y, ys[j]? = some y → ∃ x, xs[j]? = some x ∧ f x = some y := by
 intro xs
 induction xs with
 | nil => intro ys h; simp only [jh, Option.some.injEq] at h; subst h; simp
 | cons x xs ih =>
  intro ys h
  simp only [jh] at h
  split at h
  ·rename_i y s hy hs
   simp only [Option.some.injEq] at h; subst h
   obtain ⟨h1, h2⟩ := ih hs
   refine ⟨by simp [h1], fun j z hz => ?_⟩
   cases j with
   | zero => simp at hz; subst hz; exact ⟨x, rfl, hy⟩
   | succ j => exact h2 j z (by simpa using hz)
  ·simp at h
theorem CM {f : V → Option V} : ∀ {xs ys : List (List V)}, n7 f xs = some ys → ys.length = xs.length ∧ ∀ (j : Nat) y, ys[j]? = some y → ∃ x, xs[j]? = some x ∧ jh f x = some y := by
 intro xs
 induction xs with
 | nil => intro ys h; simp only [n7, Option.some.injEq] at h; subst h; simp
 | cons x xs ih =>
  intro ys h
  simp only [n7] at h
  split at h
  ·rename_i y s hy hs
   simp only [Option.some.injEq] at h; subst h
   obtain ⟨h1, h2⟩ := ih hs
   refine ⟨by simp [h1], fun j z hz => ?_⟩
   cases j with
   | zero => simp at hz; subst hz; exact ⟨x, rfl, hy⟩
   | succ j => exact h2 j z (by simpa using hz)
  ·simp at h
theorem Du {f : V → Option V} : ∀ {xs ys : List (V × V)}, n_ f xs = some ys → ys.length = xs.length ∧ ∀ (j : Nat) y, ys[j]? = some y → ∃ x, xs[j]? = some x ∧ f x.1 = some y.1 ∧ f x.2 = some y.2 := by
 intro xs
 induction xs with
 | nil => intro ys h; simp only [n_, Option.some.injEq] at h; subst h; simp
 | cons x xs ih =>
  intro ys h
  obtain ⟨k, x⟩ := x
  simp only [n_] at h
  split at h
  ·rename_i y s hk hy hs
   simp only [Option.some.injEq] at h; subst h
   obtain ⟨h1, h2⟩ := ih hs
   refine ⟨by simp [h1], fun j z hz => ?_⟩
   cases j with
   | zero => simp at hz; subst hz; exact ⟨(k, x), rfl, hk, hy⟩
   | succ j => exact h2 j z (by simpa using hz)
  ·simp at h
def Obj.ic : Obj → Option IC
 | .cells c _ _ => some (.cells c)
 | .map es _ => some (.map es)
 | _ => none
def uE (μ : Mu) (H : ao) (T : List Nat) (b : Nat) : Prop := ∃ id p ob, id ∈ T ∧ H[id]? = some ob ∧ ob.live = true ∧ μ id = some p ∧ p.b = b
open Classical in
noncomputable def plus (I : aR) (μ : Mu) (H : ao) (w : World) (T : List Nat) : aR := fun b =>
 match I b with
 | some x => some x
 | none => if uE μ H T b then (w.heap[b]?).bind Obj.ic else none
theorem pO (I : aR) (μ : Mu) (H : ao) (w : World) (T : List Nat) : aR.le I (plus I μ H w T) := by
 intro b x h; simp [plus, h]
theorem uC (s : bM I μ H w) (T : List Nat) : ∀ b x, plus I μ H w T b = some x → x.at w b := by
 intro b x h
 unfold plus at h
 split at h
 ·rename_i y hy; cases h; exact s.imm b _ hy
 ·split at h
  ·obtain ⟨o, ho, hx⟩ := Option.bind_eq_some_iff.1 h
   cases o <;> simp [Obj.ic] at hx
   ·subst hx; exact ⟨_, _, ho⟩
   ·subst hx; exact ⟨_, ho⟩
  ·simp at h
theorem wL {T : List Nat} {b : Nat} (h : (plus I μ H w T b).isSome = true) : (I b).isSome = true ∨ uE μ H T b := by
 unfold plus at h
 split at h
 ·rename_i x hx; rw [hx]; exact .inl rfl
 ·split at h
  ·rename_i ht; exact .inr ht
  ·simp at h
theorem vj {T : List Nat} {b : Nat} (h : uE μ H T b) : gj μ H b := by
 obtain ⟨id, p, ob, _, h1, h2, h3, h4⟩ := h; exact ⟨id, p, ob, h1, h2, h3, h4⟩
theorem vJ (s : bM I μ H w) {T : List Nat} {id es : Nat} {xs : List (List V)} (hT : id ∈ T) (h : (H[id]?).bind Ob.rows = some (es, xs)) :
 ∃ p c, μ id = some p ∧ plus I μ H w T p.b = some (.cells c) ∧ fE I μ p c es xs := by
 obtain ⟨ob, h1, h2⟩ := Option.bind_eq_some_iff.1 h
 have hob := s.obs id ob h1
 rcases AZ h2 with rfl | rfl
 ·obtain ⟨p, c, el, g1, g2, g3, g4⟩ := hob
  refine ⟨p, c, g1, ?_, g4⟩
  have ht : uE μ H T p.b := ⟨id, p, _, hT, h1, rfl, g1, rfl⟩
  unfold plus
  rw [g2]
  simp [ht, g3, Obj.ic]
 ·obtain ⟨p, c, g1, g2, g4⟩ := hob
  exact ⟨p, c, g1, pO _ _ _ _ _ _ _ g2, g4⟩
theorem fE.idx {p : Pl} {c : Array Value} {es : Nat} {xs : List (List V)} (r : fE I μ p c es xs) {i j : Nat} {x : List V} {y : V} {v : Value} (h1 : xs[i]? = some x) (h2 : x[j]? = some y)
 (h3 : c[p.o + i * es + j]? = some v) : aD I μ y v := by
 have hf := vL r.uni h1 h2
 refine r.rel.2 (i * es + j) y v hf ?_
 have hlt := (List.getElem?_eq_some_iff.1 hf).1
 rw [fW r.uni] at hlt
 rw [List.getElem?_take, if_pos hlt, List.getElem?_drop]
 rw [← Nat.add_assoc]; simpa using h3
theorem iS {f : V → List Nat} {xs : List V} {x : V} {k : Nat} (hx : x ∈ xs) (hk : k ∈ f x) : k ∈ dg f xs := by
 induction xs with
 | nil => simp at hx
 | cons y r ih =>
  simp only [dg, List.mem_append]
  rcases List.mem_cons.1 hx with rfl | hx
  ·exact .inl hk
  ·exact .inr (ih hx)
theorem tO (s : bM I μ H w) (T : List Nat) : ∀ (n : Nat) (x y : V) (v : Value), borrow n H x = some y → (∀ k ∈ bY n H x, k ∈ T) → aD I μ x v →
 d4 (plus I μ H w T) y v ∧ (x.one = true → y.one = true) := by
 intro n
 induction n with
 | zero =>
  intro x y v h _ hv
  simp only [borrow] at h
  split at h
  ·rename_i hc; simp only [Option.some.injEq] at h; subst h
   exact ⟨(hv.closed hc).mono (pO _ _ _ _ _), id⟩
  ·simp at h
 | succ n ih =>
  intro x y v h hT hv
  simp only [borrow] at h
  split at h
  ·rename_i hc; simp only [Option.some.injEq] at h; subst h
   exact ⟨(hv.closed hc).mono (pO _ _ _ _ _), id⟩
  ·rename_i hnc
   simp only [bY, if_neg hnc] at hT
   split at h
   ·
    rename_i id es off len
    split at h
    ·rename_i es' xs hrow
     split at h
     ·rename_i hc
      obtain ⟨rfl, hle⟩ := hc
      simp only [hrow] at hT
      simp only [Option.map_eq_some_iff] at h
      obtain ⟨zs, hz, rfl⟩ := h
      obtain ⟨hzl, hzs⟩ := CM hz
      refine ⟨?_, fun _ => rfl⟩
      have hlen : zs.length = len := by rw [hzl]; simp; omega
      rcases hv.lg with ⟨p, cap, hm, hp, hcap, hb, rfl⟩ | ⟨h0, a, rfl⟩
      ·obtain ⟨p', c, g1, g2, g3⟩ := vJ s (T := T) (hT id (by simp)) hrow
       rw [hm] at g1; cases g1
       have hget : ∀ i z, zs[i]? = some z → ∃ x', xs[off + i]? = some x' ∧ jh (borrow n H) x' = some z := by
        intro i z hi
        obtain ⟨x', hx1, hx2⟩ := hzs i z hi
        rw [List.getElem?_take, List.getElem?_drop] at hx1
        split at hx1
        ·exact ⟨x', hx1, hx2⟩
        ·simp at hx1
       have hTx : ∀ x' ∈ xs, ∀ q ∈ x', ∀ k ∈ bY n H q, k ∈ T := by
        intro x' hx' q hq k hk
        refine hT k ?_
        exact List.mem_cons_of_mem _ (iS (List.mem_flatten.2 ⟨x', hx', hq⟩) hk)
       have hrel : d4 (plus I μ H w T) (.fsl es' zs) (.slice (some ⟨p.b, p.o + off * es', none⟩) zs.length cap) := by
        refine .fsl es' zs p.b (p.o + off * es') cap c g2 (by omega) ?_ ?_ ?_ ?_
        ·intro z hz'
         obtain ⟨i, hi⟩ := List.mem_iff_getElem?.1 hz'
         obtain ⟨x', hx1, hx2⟩ := hget i z hi
         rw [(iP hx2).1]
         exact g3.uni x' (List.mem_of_getElem? hx1)
        ·intro z hz' q hq
         obtain ⟨i, hi⟩ := List.mem_iff_getElem?.1 hz'
         obtain ⟨x', hx1, hx2⟩ := hget i z hi
         obtain ⟨j, hj⟩ := List.mem_iff_getElem?.1 hq
         obtain ⟨q0, hq0, hq1⟩ := (iP hx2).2 j q hj
         have hx'm := List.mem_of_getElem? hx1
         have hq0m := List.mem_of_getElem? hq0
         have hroom := g3.room
         have hxl := g3.uni x' hx'm
         have hjl := (List.getElem?_eq_some_iff.1 hq0).1
         have hil := (List.getElem?_eq_some_iff.1 hx1).1
         have hmul : (off + i) * es' + es' ≤ xs.length * es' := by
          have := Nat.mul_le_mul_right es' (show off + i + 1 ≤ xs.length from hil)
          rwa [Nat.add_mul, Nat.one_mul] at this
         have hlt : p.o + (off + i) * es' + j < c.size := by omega
         have hvr := g3.idx hx1 hq0 (v := c[p.o + (off + i) * es' + j]) (by simp [hlt])
         exact (ih q0 q _ hq1 (hTx x' hx'm q0 hq0m) hvr).2 (g3.one x' hx'm q0 hq0m)
        ·have h1 := (g3.span hle).2
         rw [hlen]; exact h1
        ·intro i j z q u hi hj hu
         obtain ⟨x', hx1, hx2⟩ := hget i z hi
         obtain ⟨q0, hq0, hq1⟩ := (iP hx2).2 j q hj
         have hvr := g3.idx hx1 hq0 (v := u) (by rw [← hu]; congr 1; rw [Nat.add_mul]; omega)
         exact (ih q0 q u hq1 (hTx x' (List.mem_of_getElem? hx1) q0 (List.mem_of_getElem? hq0)) hvr).1
       rw [hlen] at hrel
       subst hp
       exact hrel
      ·subst h0
       have : zs = [] := List.eq_nil_of_length_eq_zero hlen
       subst this
       exact .fsl0 es' _ _
     ·simp at h
    ·simp at h
   ·
    rename_i id el off
    split at h
    ·rename_i es' xs hrow
     split at h
     ·rename_i cs hcs
      split at h
      ·rename_i hle
       simp only [hrow] at hT
       simp only [Option.map_eq_some_iff] at h
       obtain ⟨zs, hz, rfl⟩ := h
       obtain ⟨hzl, hzs⟩ := iP hz
       refine ⟨?_, fun _ => rfl⟩
       obtain ⟨p, hm, rfl⟩ := hv.nV
       obtain ⟨p', c, g1, g2, g3⟩ := vJ s (T := T) (hT id (by simp)) hrow
       rw [hm] at g1; cases g1
       obtain ⟨k1, k2, k3⟩ := g3.elem hcs
       rw [g3.es_eq]
       refine .fptr zs p.b _ c g2 ?_ ?_
       ·rw [hzl, List.length_drop]; omega
       ·intro j q u hj hu
        obtain ⟨q0, hq0, hq1⟩ := hzs j q hj
        rw [List.getElem?_drop] at hq0
        have hvr := g3.idx hcs hq0 (v := u) (by rw [← Nat.add_assoc]; exact hu)
        refine (ih q0 q u hq1 (fun k hk => hT k ?_) hvr).1
        exact List.mem_cons_of_mem _ (iS (List.mem_flatten.2 ⟨cs, List.mem_of_getElem? hcs, List.mem_of_getElem? hq0⟩) hk)
      ·simp at h
     ·simp at h
    ·simp at h
   ·
    rename_i id
    split at h
    ·rename_i kvs hid
     simp only [Option.map_eq_some_iff] at h
     obtain ⟨zs, hz, rfl⟩ := h
     simp only [hid] at hT
     obtain ⟨hzl, hzs⟩ := Du hz
     refine ⟨?_, fun _ => rfl⟩
     obtain ⟨p, hm, rfl⟩ := hv.vX
     obtain ⟨p', es, cl, g1, g2, g3, g4⟩ := s.obs id _ hid
     rw [hm] at g1; cases g1
     have ht : uE μ H T p.b := ⟨id, p, _, hT id (by simp), hid, rfl, hm, rfl⟩
     have hI : plus I μ H w T p.b = some (.map es) := by
      unfold plus
      rw [g2]
      simp [ht, g3, Obj.ic]
     refine .fmap zs p.b es hI (by rw [hzl]; exact g4.1) ?_ ?_
     ·intro j q e hj he
      obtain ⟨q0, h1, h2, h3⟩ := hzs j q hj
      refine (ih q0.1 q.1 e.key h2 (fun k hk => hT k ?_) (g4.2 j q0 e h1 he).1).1
      exact List.mem_cons_of_mem _ (List.mem_append.2 (.inl (iS (List.mem_map.2 ⟨q0, List.mem_of_getElem? h1, rfl⟩) hk)))
     ·intro j q e hj he
      obtain ⟨q0, h1, h2, h3⟩ := hzs j q hj
      refine (ih q0.2 q.2 e.val h3 (fun k hk => hT k ?_) (g4.2 j q0 e h1 he).2).1
      exact List.mem_cons_of_mem _ (List.mem_append.2 (.inr (iS (List.mem_map.2 ⟨q0, List.mem_of_getElem? h1, rfl⟩) hk)))
    ·simp at h
   ·rename_i f p q
    split at h
    ·rename_i p' q' hp hq
     simp only [Option.some.injEq] at h; subst h
     obtain ⟨u1, u2, rfl, r1, r2⟩ := hv.iT
     obtain ⟨l1, m1⟩ := iP hp
     obtain ⟨l2, m2⟩ := iP hq
     refine ⟨.clo f p' q' u1 u2 (by rw [l1]; simpa using r1.1) (by rw [l2]; simpa using r2.1) ?_ ?_, fun _ => rfl⟩
     ·intro j a b ha hb
      obtain ⟨a0, ha0, ha1⟩ := m1 j a ha
      exact (ih a0 a b ha1 (fun k hk => hT k (List.mem_append.2 (.inl (iS (List.mem_of_getElem? ha0) hk)))) (r1.2 j a0 b ha0 (by simpa using hb))).1
     ·intro j a b ha hb
      obtain ⟨a0, ha0, ha1⟩ := m2 j a ha
      exact (ih a0 a b ha1 (fun k hk => hT k (List.mem_append.2 (.inr (iS (List.mem_of_getElem? ha0) hk)))) (r2.2 j a0 b ha0 (by simpa using hb))).1
    ·simp at h
   ·rename_i cs
    simp only [Option.map_eq_some_iff] at h
    obtain ⟨zs, hz, rfl⟩ := h
    obtain ⟨l1, m1⟩ := iP hz
    obtain ⟨u1, rfl, r1⟩ := hv.jm
    refine ⟨.agg zs u1 (by rw [l1]; simpa using r1.1) ?_, fun h => by simp [V.one] at h⟩
    intro j a b ha hb
    obtain ⟨a0, ha0, ha1⟩ := m1 j a ha
    exact (ih a0 a b ha1 (fun k hk => hT k (iS (List.mem_of_getElem? ha0) hk)) (r1.2 j a0 b ha0 (by simpa using hb))).1
   ·rename_i cs
    simp only [Option.map_eq_some_iff] at h
    obtain ⟨zs, hz, rfl⟩ := h
    obtain ⟨l1, m1⟩ := iP hz
    obtain ⟨u1, rfl, r1⟩ := hv.kZ
    refine ⟨.tup zs u1 (by rw [l1]; simpa using r1.1) ?_, fun h => by simp [V.one] at h⟩
    intro j a b ha hb
    obtain ⟨a0, ha0, ha1⟩ := m1 j a ha
    exact (ih a0 a b ha1 (fun k hk => hT k (iS (List.mem_of_getElem? ha0) hk)) (r1.2 j a0 b ha0 (by simpa using hb))).1
   ·simp at h
end
end Go.VE
namespace Go.VE
def fr (ro : Option Nat) : Fence := { fn := fun _ => True, depth := none, alive := false, round := ro }
def ua (I : aR) (μ : Mu) (H : ao) (w : World) (r : V) (H' : ao) : Ending → World → Prop :=
 fun e w' => ∃ u I' μ', e = .returned u ∧ aD I' μ' r u ∧ bM I' μ' H' w' ∧ Step I μ H w I' μ' H' w'
def yg (P : Program) (f : FuncId) : Prop := ∃ fn, P.funcs[f]? = some fn ∧ fn.body.isSome = true ∧ (fn.name == "runtime.NumGoroutine") = false
structure jq (P : Program) (call : eB) : Prop where
 fn : ∀ f args H r H', call (.fn f) args H = some (r, H') → yg P f ∧ ∀ I μ w vs, bM I μ H w → bA I μ args vs → CallsIn (fr none) 0 P f vs.toArray w (ua I μ H w r H')
 yld : ∀ id args H r H', call (.yld id) args H = some (r, H') → ∀ I μ w vs p, bM I μ H w → bA I μ args vs → μ id = some p →
  ∃ l f tmps assign body, (Instr.yield p.b vs.toArray).run P w = .ok (.round l f tmps assign body) w ∧ RoundIn (fr none) 0 P l f tmps assign body w (ua I μ H w r H')
def jG : Ob → Ob
 | .row es xs => .frz es xs
 | .map _ => .dead
 | o => o
theorem zM (H : ao) (k id : Nat) : (om H k)[id]? = (H[id]?).map fun ob => if id = k then jG ob else ob := by
 unfold om
 by_cases e : id = k
 ·subst e
  cases h : H[id]? with
  | none => simp [h]
  | some ob =>
   have hlt := (List.getElem?_eq_some_iff.1 h).1
   cases ob <;> simp [jG, h, hlt] <;> exact (List.getElem?_eq_some_iff.1 h).2
 ·have : ∀ x, (H.set k x)[id]? = H[id]? := fun x => List.getElem?_set_ne (Ne.symm e)
  have h2 : (H[id]?).map (fun ob => if id = k then jG ob else ob) = H[id]? := by simp [e]
  rw [h2]
  split <;> simp [this]
theorem vv (o : Ob) : jG (jG o) = jG o := by cases o <;> rfl
theorem gf : ∀ (T : List Nat) (H : ao) (id : Nat), (bz H T)[id]? = (H[id]?).map fun ob => if id ∈ T then jG ob else ob := by
 intro T
 induction T with
 | nil => intro H id; simp [bz]
 | cons k T ih =>
  intro H id
  have := ih (om H k) id
  simp only [bz, List.foldl_cons] at this ⊢
  rw [this, zM]
  cases h : H[id]? with
  | none => simp
  | some ob =>
   simp only [Option.map_some, List.mem_cons]
   by_cases e : id = k <;> by_cases e' : id ∈ T <;> simp [e, e', vv] <;> (try subst e) <;> simp_all [vv]
theorem iK (T : List Nat) (H : ao) : (bz H T).length = H.length := by
 induction T generalizing H with
 | nil => rfl
 | cons k T ih =>
  simp only [bz, List.foldl_cons] at ih ⊢
  rw [ih]
  unfold om
  split <;> simp
section
variable {P : Program} {I I' : aR} {μ μ' : Mu} {H H' : ao} {w w' : World}
theorem bM.kept (s : bM I μ H w) (hk : ∀ b, b < w.heap.size → w'.heap[b]? = w.heap[b]?) : bM I μ H w' where
 dom := s.dom
 imm := fun b x h => IC.pQ (s.imm b x h) (hk b (s.AT h))
 obs := fun id ob h => (s.obs id ob h).mono (aR.le_refl _) (Mu.le_refl _) (fun p hp hl => by
  have ho : gj μ H p.b := ⟨id, p, ob, h, hl, hp, rfl⟩
  exact ⟨hk _ (jY s ho), fB s ho⟩) (fun he => by subst he; exact s.obs id _ h)
 inj := s.inj
theorem l_ (μ : Mu) (b : Nat) : ¬ gj μ [] b := by
 rintro ⟨id, p, ob, h, _⟩; simp at h
theorem KN {call : eB} (hc : jq P call) {f : FuncId} {args : List V} {y : V} (h : di call f args H = some y) (s : bM I μ H w) {vs : List Value} (hv : bA I μ args vs) :
 yg P f ∧ CallsIn (fr none) 0 P f vs.toArray w (ua I μ H w y (if y.scalar then H else bz H (dg (bY 8 H) args))) := by
 unfold di at h
 split at h
 ·rename_i as has
  split at h
  ·rename_i r H1 hcall
   split at h
   ·rename_i y' hy
    split at h
    ·rename_i hclosed
     simp only [Option.some.injEq] at h; subst h
     generalize hT : dg (bY 8 H) args = T
     obtain ⟨hlen, hb⟩ := iP has
     have s0 : bM (plus I μ H w T) (fun _ => none) [] w := ⟨fun _ _ => rfl, uC s T, by simp, by simp⟩
     have hargs : bA (plus I μ H w T) (fun _ => none) as vs := by
      refine ⟨hlen.trans hv.1, fun j a b h1 h2 => ?_⟩
      obtain ⟨x, hx, hxa⟩ := hb j a h1
      refine .c _ _ (tO s T 8 x a b hxa (fun k hk => ?_) (hv.2 j x b hx h2)).1
      rw [← hT]; exact iS (List.mem_of_getElem? hx) hk
     obtain ⟨hf, hcalls⟩ := hc.fn f as [] r H1 hcall
     refine ⟨hf, (hcalls _ _ w vs s0 hargs).mono ?_⟩
     rintro e w' ⟨u, I1, μ1, rfl, hr, s1, st⟩
     have hkept : ∀ b, b < w.heap.size → w'.heap[b]? = w.heap[b]? := fun b hb => st.frame b hb (l_ _ _)
     generalize hT1 : bY 8 H1 r = T1
     have hy1 := (tO s1 T1 8 r y' u hy (fun k hk => by rw [← hT1]; exact hk) hr).1
     cases hsc : y'.scalar with
     | true =>
      simp only [if_true]
      exact ⟨u, I, μ, rfl, .c _ _ (hy1.scalar hsc), s.kept hkept, ⟨aR.le_refl _, Mu.le_refl _, Nat.le_refl _, st.size, fun b hb _ => hkept b hb, fun _ h => h.elim .inl fun h => .inr (.inl h), st.os, st.out, st.fz⟩⟩
     | false =>
      simp only [Bool.false_eq_true, if_false]
      let I2 := plus I1 μ1 H1 w' T1
      have hle : aR.le I I2 := aR.le_trans (pO I μ H w T) (aR.le_trans st.le (pO _ _ _ _ _))
      have hterr : ∀ b, (I2 b).isSome = true → (I b).isSome = true ∨ uE μ H T b ∨ w.heap.size ≤ b := by
       intro b hb
       have h1 : (I1 b).isSome = true ∨ gj μ1 H1 b := by
        rcases wL hb with h | h
        ·exact .inl h
        ·exact .inr (vj h)
       rcases st.terr b h1 with h | h | h
       ·rcases wL h with h | h
        ·exact .inl h
        ·exact .inr (.inl h)
       ·exact absurd h (l_ _ _)
       ·exact .inr (.inr h)
      have hlive : ∀ id ob p, H[id]? = some ob → ob.live = true → id ∉ T → μ id = some p → I2 p.b = none := by
       intro id ob p h1 h2 h3 h4
       cases hI : I2 p.b with
       | none => rfl
       | some x =>
        exfalso
        have ho : gj μ H p.b := ⟨id, p, ob, h1, h2, h4, rfl⟩
        rcases hterr p.b (by rw [hI]; rfl) with h | ⟨id', p', ob', g0, g1, g2, g3, g4⟩ | h
        ·rw [fB s ho] at h; cases h
        ·have := s.inj id' id ob' ob p' p g1 h1 g2 h2 g3 h4 g4
         subst this; exact h3 g0
        ·have := jY s ho; omega
      have hget : ∀ id x, (bz H T)[id]? = some x → ∃ ob, H[id]? = some ob ∧ x = (if id ∈ T then jG ob else ob) := by
       intro id x hx
       rw [gf] at hx
       obtain ⟨ob, h1, h2⟩ := Option.map_eq_some_iff.1 hx
       exact ⟨ob, h1, h2.symm⟩
      have hlive' : ∀ id x, (bz H T)[id]? = some x → x.live = true → H[id]? = some x ∧ (id ∉ T ∨ ∃ r, x = .loop r) := by
       intro id x hx hl
       obtain ⟨ob, h1, h2⟩ := hget id x hx
       by_cases hm : id ∈ T
       ·rw [if_pos hm] at h2
        cases ob <;> simp [jG] at h2 <;> subst h2 <;> simp [Ob.live] at hl
        exact ⟨h1, .inr ⟨_, rfl⟩⟩
       ·rw [if_neg hm] at h2; subst h2; exact ⟨h1, .inl hm⟩
      refine ⟨u, I2, μ, rfl, .c _ _ hy1, ⟨?_, ?_, ?_, ?_⟩, ⟨hle, Mu.le_refl _, by rw [iK]; exact Nat.le_refl _, st.size, fun b hb _ => hkept b hb, ?_, st.os, st.out, st.fz⟩⟩
      ·intro id h; rw [iK] at h; exact s.dom id h
      ·exact uC s1 T1
      ·intro id x hx
       obtain ⟨ob, h1, h2⟩ := hget id x hx
       have hob := s.obs id ob h1
       by_cases hm : id ∈ T
       ·rw [if_pos hm] at h2
        cases ob with
        | row es xs =>
         simp only [jG] at h2; subst h2
         obtain ⟨p, c, g1, g2, g3⟩ := vJ s (T := T) hm (id := id) (es := es) (xs := xs) (by rw [h1]; rfl)
         exact ⟨p, c, g1, pO _ _ _ _ _ _ _ (st.le _ _ g2), g3.mono hle (Mu.le_refl _)⟩
        | frz es xs =>
         simp only [jG] at h2; subst h2
         exact hob.mono hle (Mu.le_refl _) (fun p _ hl => by simp [Ob.live] at hl) (fun he => by cases he)
        | map kvs => simp only [jG] at h2; subst h2; trivial
        | free => simp only [jG] at h2; subst h2; exact hob
        | dead => simp only [jG] at h2; subst h2; trivial
        | loop r =>
         simp only [jG] at h2; subst h2
         obtain ⟨p, l, g1, g2, g3, g4⟩ := hob
         refine ⟨p, l, g1, ?_, ?_, g4.mono hle (Mu.le_refl _)⟩
         ·
          cases hI : I2 p.b with
          | none => rfl
          | some x =>
           exfalso
           have hat := uC s1 T1 p.b x hI
           have hbl : p.b < w.heap.size := (Array.getElem?_eq_some_iff.1 g3).1
           have hh := hkept p.b hbl
           rw [g3] at hh
           cases x with
           | cells c => obtain ⟨_, _, q⟩ := hat; rw [hh] at q; cases q
           | map es => obtain ⟨_, q⟩ := hat; rw [hh] at q; cases q
         ·rw [hkept p.b (Array.getElem?_eq_some_iff.1 g3).1]; exact g3
       ·rw [if_neg hm] at h2; subst h2
        refine hob.mono hle (Mu.le_refl _) (fun p hp hl => ⟨hkept _ (jY s ⟨id, p, x, h1, hl, hp, rfl⟩), hlive id x p h1 hl hm hp⟩) (fun he => by subst he; exact hob)
      ·intro id id' o1 o2 p p' h1 h2 l1 l2 m1 m2 hb
       exact s.inj id id' o1 o2 p p' (hlive' id o1 h1 l1).1 (hlive' id' o2 h2 l2).1 l1 l2 m1 m2 hb
      ·intro b hb
       rcases hb with h | ⟨id, p, x, h1, h2, h3, rfl⟩
       ·rcases hterr b h with h | h | h
        ·exact .inl h
        ·exact .inr (.inl (vj h))
        ·exact .inr (.inr h)
       ·exact .inr (.inl ⟨id, p, x, (hlive' id x h1 h2).1, h2, h3, rfl⟩)
    ·simp at h
   ·simp at h
  ·simp at h
 ·simp at h
theorem aD.scalar {x : V} {v : Value} (h : aD I μ x v) (hs : x.scalar = true) : aD I' μ' x v := by
 have key : ∀ (l : List V) (vs : List Value), (∀ x ∈ l, ∀ v, aD I μ x v → x.scalar = true → aD I' μ' x v) → V.bZ l = true → (∀ (j : Nat) a b, l[j]? = some a → vs[j]? = some b → aD I μ a b) →
  ∀ (j : Nat) a b, l[j]? = some a → vs[j]? = some b → aD I' μ' a b := by
  intro l
  induction l with
  | nil => intro vs _ _ _ j a b h; simp at h
  | cons x l ih =>
   intro vs h1 h2 h3 j a b ha hb
   simp only [V.bZ, Bool.and_eq_true] at h2
   cases j with
   | zero =>
    simp at ha; subst ha
    exact h1 _ (by simp) b (h3 0 _ b rfl hb) h2.1
   | succ j =>
    cases vs with
    | nil => simp at hb
    | cons v vs => exact ih vs (fun y hy => h1 y (List.mem_cons_of_mem _ hy)) h2.2 (fun j a b p q => h3 (j + 1) a b (by simpa using p) (by simpa using q)) j a b (by simpa using ha) (by simpa using hb)
 have main : ∀ (k : Nat) (x : V) (v : Value), SizeOf.sizeOf x < k → aD I μ x v → x.scalar = true → aD I' μ' x v := by
  intro k
  induction k with
  | zero => intro x v h; omega
  | succ k ih =>
   intro x v hk h hs
   cases h with
   | c _ _ h => exact .c _ _ (h.scalar hs)
   | agg cs vs hl h =>
    simp only [V.scalar] at hs
    refine .agg cs vs hl (fun j a b ha hb => key cs vs.toList (fun y hy v hv hs => ih y v ?_ hv hs) hs (fun j a b p q => h j a b p (by simpa using q)) j a b ha (by simpa using hb))
    have := List.sizeOf_lt_of_mem hy
    simp at hk; omega
   | tup cs vs hl h =>
    simp only [V.scalar] at hs
    refine .tup cs vs hl (fun j a b ha hb => key cs vs.toList (fun y hy v hv hs => ih y v ?_ hv hs) hs (fun j a b p q => h j a b p (by simpa using q)) j a b ha (by simpa using hb))
    have := List.sizeOf_lt_of_mem hy
    simp at hk; omega
   | _ => simp [V.scalar] at hs
 exact main (SizeOf.sizeOf x + 1) x v (by omega) h hs
theorem bM.DG (s : bM I μ H w) {ob : Ob} {p : Pl} (hne : ob ≠ .free) (hI : I p.b = none) (hn : ¬ gj μ H p.b) (hob : mZ I (μ.fK H.length p) w H.length ob) :
 bM I (μ.fK H.length p) (H ++ [ob]) w := by
 have hk : μ H.length = none := s.dom _ (Nat.le_refl _)
 have hget : ∀ id x, (H ++ [ob])[id]? = some x → (id ≠ H.length ∧ H[id]? = some x) ∨ (id = H.length ∧ x = ob) := by
  intro id x h
  by_cases hlt : id < H.length
  ·rw [List.getElem?_append_left hlt] at h; exact .inl ⟨by omega, h⟩
  ·rw [List.getElem?_append_right (by omega)] at h
   have : id - H.length = 0 := by have := (List.getElem?_eq_some_iff.1 h).1; simpa using this
   rw [this] at h; simp at h
   exact .inr ⟨by omega, h.symm⟩
 refine ⟨?_, s.imm, ?_, ?_⟩
 ·intro id h
  simp at h
  rw [Mu.gk _ _ (by omega)]; exact s.dom id (by omega)
 ·intro id x h
  rcases hget id x h with ⟨e, h⟩ | ⟨rfl, rfl⟩
  ·refine (s.obs id x h).mono (aR.le_refl _) (Mu.lW hk) (fun q hq hl => ?_) (fun he => by subst he; rw [Mu.gk _ _ e]; exact s.obs id _ h)
   exact ⟨rfl, fB s ⟨id, q, x, h, hl, hq, rfl⟩⟩
  ·exact hob
 ·intro id id' o1 o2 q q' h1 h2 l1 l2 m1 m2 hb
  rcases hget id o1 h1 with ⟨e1, k1⟩ | ⟨a1, b1⟩ <;> rcases hget id' o2 h2 with ⟨e2, k2⟩ | ⟨a2, b2⟩
  ·rw [Mu.gk _ _ e1] at m1; rw [Mu.gk _ _ e2] at m2
   exact s.inj id id' o1 o2 q q' k1 k2 l1 l2 m1 m2 hb
  ·subst a2
   rw [Mu.gk _ _ e1] at m1; rw [Mu.fA] at m2; cases m2
   exact absurd ⟨id, q, o1, k1, l1, m1, hb⟩ hn
  ·subst a1
   rw [Mu.gk _ _ e2] at m2; rw [Mu.fA] at m1; cases m1
   exact absurd ⟨id', q', o2, k2, l2, m2, hb.symm⟩ hn
  ·rw [a1, a2]
theorem Jb {call : eB} (hc : jq P call) {f : FuncId} {args : List V} {y : V} (h : kh call f args H = some (y, H')) (s : bM I μ H w) {vs : List Value} (hv : bA I μ args vs) :
 yg P f ∧ CallsIn (fr none) 0 P f vs.toArray w (ua I μ H w y H') := by
 unfold kh at h
 split at h
 ·rename_i as has
  split at h
  ·rename_i r H1 hcall
   generalize hT : dg (bY 8 H) args = T
   obtain ⟨hlen, hb⟩ := iP has
   have s0 : bM (plus I μ H w T) (fun _ => none) [] w := ⟨fun _ _ => rfl, uC s T, by simp, by simp⟩
   have hargs : bA (plus I μ H w T) (fun _ => none) as vs := by
    refine ⟨hlen.trans hv.1, fun j a b h1 h2 => ?_⟩
    obtain ⟨x, hx, hxa⟩ := hb j a h1
    refine .c _ _ (tO s T 8 x a b hxa (fun k hk => ?_) (hv.2 j x b hx h2)).1
    rw [← hT]; exact iS (List.mem_of_getElem? hx) hk
   obtain ⟨hf, hcalls⟩ := hc.fn f as [] r H1 hcall
   refine ⟨hf, (hcalls _ _ w vs s0 hargs).mono ?_⟩
   rintro e w' ⟨u, I1, μ1, rfl, hr, s1, st⟩
   have hkept : ∀ b, b < w.heap.size → w'.heap[b]? = w.heap[b]? := fun b hb => st.frame b hb (l_ _ _)
   have sk : bM I μ H w' := s.kept hkept
   have stk : Step I μ H w I μ H w' := ⟨aR.le_refl _, Mu.le_refl _, Nat.le_refl _, st.size, fun b hb _ => hkept b hb, fun _ h => h.elim .inl fun h => .inr (.inl h), st.os, st.out, st.fz⟩
   split at h
   ·rename_i hsc
    simp only [Option.some.injEq, Prod.mk.injEq] at h
    obtain ⟨rfl, rfl⟩ := h
    exact ⟨u, I, μ, rfl, hr.scalar hsc, sk, stk⟩
   ·
    have key : ∀ (id es off len : Nat) (v : V) (ob : Ob) (u : Value), ow H.length H1 id es off len = some (v, ob) → aD I1 μ1 (.hsl id es off len) u →
     ∃ p, aD I (μ.fK H.length p) v u ∧ bM I (μ.fK H.length p) (H ++ [ob]) w' ∧ Step I μ H w I (μ.fK H.length p) (H ++ [ob]) w' := by
     intro id es off len v ob u ha hu
     unfold ow at ha
     split at ha
     ·rename_i es' xs hrow
      split at ha
      ·rename_i hcond
       obtain ⟨rfl, hall⟩ := hcond
       simp only [Option.some.injEq, Prod.mk.injEq] at ha
       obtain ⟨rfl, rfl⟩ := ha
       obtain ⟨p, c, el, g1, g2, g3, g4⟩ := s1.obs id _ hrow
       have hbig : w.heap.size ≤ p.b := by
        rcases st.terr p.b (.inr ⟨id, p, _, hrow, rfl, g1, rfl⟩) with h | h | h
        ·obtain ⟨x, hx⟩ := Option.isSome_iff_exists.1 h
         have := st.le _ _ hx
         rw [g2] at this; cases this
        ·exact absurd h (l_ _ _)
        ·exact h
       have hI : I p.b = none := by
        cases hx : I p.b with
        | none => rfl
        | some x => have := s.AT hx; omega
       have hn : ¬ gj μ H p.b := fun ho => by have := jY s ho; omega
       have hrr : fE I (μ.fK H.length p) p c es' xs := by
        refine ⟨g4.es_eq, g4.sz, g4.uni, g4.one, g4.room, g4.rel.1, fun j a b ha hb => (g4.rel.2 j a b ha hb).scalar ?_⟩
        have hm := List.mem_of_getElem? ha
        rw [List.mem_flatten] at hm
        obtain ⟨l, hl, hal⟩ := hm
        have := List.all_eq_true.1 hall l hl
        exact List.all_eq_true.1 this a hal
       have sa := sk.DG (ob := .row es' xs) (p := p) (by simp) hI hn ⟨p, c, el, Mu.fA _ _ _, hI, g3, hrr⟩
       refine ⟨p, ?_, sa, ⟨aR.le_refl _, Mu.lW (s.dom _ (Nat.le_refl _)), by simp, st.size, fun b hb _ => hkept b hb, ?_, st.os, st.out, st.fz⟩⟩
       ·rcases hu.lg with ⟨p', cap, hm, hp', hcc, hbd, ee⟩ | ⟨h0, ad, ee⟩
        ·rw [g1] at hm; cases hm
         rw [ee]
         subst hp'
         exact .hsl _ off len cap p (Mu.fA _ _ _) hcc hbd
        ·rw [ee, h0]; exact .hsl0 _ _ _ _
       ·rintro b (h | ⟨k, q, x, h1, h2, h3, rfl⟩)
        ·exact .inl h
        ·by_cases e : k = H.length
         ·subst e; rw [Mu.fA] at h3; cases h3; exact .inr (.inr hbig)
         ·rw [Mu.gk _ _ e] at h3
          have hlt : k < H.length := by
           have := (List.getElem?_eq_some_iff.1 h1).1
           simp at this; omega
          rw [List.getElem?_append_left hlt] at h1
          exact .inr (.inl ⟨k, q, x, h1, h2, h3, rfl⟩)
      ·simp at ha
     ·simp at ha
    split at h
    ·rename_i id es off len _
     simp only [Option.map_eq_some_iff, Prod.mk.injEq] at h
     obtain ⟨⟨v, ob⟩, ha, rfl, rfl⟩ := h
     obtain ⟨p, k1, k2, k3⟩ := key id es off len v ob u ha hr
     exact ⟨u, I, _, rfl, k1, k2, k3⟩
    ·rename_i id es off len rest _
     split at h
     ·rename_i hrest
      simp only [Option.map_eq_some_iff, Prod.mk.injEq] at h
      obtain ⟨⟨v, ob⟩, ha, rfl, rfl⟩ := h
      obtain ⟨us, rfl, hus⟩ := hr.kZ
      have hlu : 0 < us.toList.length := by have := hus.1; simp at this ⊢; omega
      obtain ⟨u0, ur, hur⟩ : ∃ u0 ur, us.toList = u0 :: ur := by
       cases hl : us.toList with
       | nil => rw [hl] at hlu; simp at hlu
       | cons a b => exact ⟨a, b, rfl⟩
      rw [hur] at hus
      obtain ⟨p, k1, k2, k3⟩ := key id es off len v ob u0 ha (hus.2 0 _ _ rfl rfl)
      refine ⟨_, I, _, rfl, .tup _ _ ?_ ?_, k2, k3⟩
      ·have := hus.1; simp at this
       have h2 : us.toList.length = ur.length + 1 := by rw [hur]; rfl
       simp at h2 ⊢; omega
      ·intro j a b hj hb
       have hb' : (u0 :: ur)[j]? = some b := by rw [← hur]; simpa using hb
       cases j with
       | zero => simp at hj hb'; subst hj; subst hb'; exact k1
       | succ j =>
        simp at hj hb'
        refine (hus.2 (j + 1) a b (by simpa using hj) (by simpa using hb')).scalar ?_
        have : ∀ (l : List V), V.bZ l = true → ∀ x ∈ l, x.scalar = true := by
         intro l
         induction l with
         | nil => intro _ x hx; simp at hx
         | cons y l ih =>
          intro hl x hx
          simp only [V.bZ, Bool.and_eq_true] at hl
          rcases List.mem_cons.1 hx with rfl | hx
          ·exact hl.1
          ·exact ih hl.2 x hx
        exact this rest hrest a (List.mem_of_getElem? hj)
     ·simp at h
    ·simp at h
  ·simp at h
 ·simp at h
theorem IZ {E : Env} {call : eB} (hc : jq P call) {f : FuncId} {args : List V} {y : V} (h : gJ E call f args H = some (y, H')) (s : bM I μ H w) {vs : List Value} (hv : bA I μ args vs) :
 yg P f ∧ CallsIn (fr none) 0 P f vs.toArray w (ua I μ H w y H') := by
 unfold gJ at h
 split at h
 ·exact Jb hc h s hv
 ·obtain ⟨k1, k2⟩ := hc.fn f args H y H' h
  exact ⟨k1, k2 I μ w vs s hv⟩
end
end Go.VE
namespace Go.VE
def Ob.mp : Ob → Option (List (V × V))
 | .map kvs => some kvs
 | _ => none
def jQ (H H2 : ao) : Prop := ∀ id : Nat, (H[id]?).bind Ob.rows = (H2[id]?).bind Ob.rows ∧ (H[id]?).bind Ob.mp = (H2[id]?).bind Ob.mp
theorem jQ.refl (H : ao) : jQ H H := fun _ => ⟨rfl, rfl⟩
theorem jQ.symm {H H2 : ao} (h : jQ H H2) : jQ H2 H := fun id => ⟨(h id).1.symm, (h id).2.symm⟩
theorem jQ.trans {H H2 H3 : ao} (h : jQ H H2) (k : jQ H2 H3) : jQ H H3 := fun id => ⟨(h id).1.trans (k id).1, (h id).2.trans (k id).2⟩
theorem jQ.of_eq {H H2 : ao} (h : H = H2) : jQ H H2 := by subst h; exact .refl _
theorem BY {H H2 : ao} (h : jQ H H2) : ∀ n, borrow n H = borrow n H2 := by
 intro n
 induction n with
 | zero => funext x; rfl
 | succ n ih =>
  funext x
  cases x with
  | hsl id es off len => simp only [borrow, (h id).1, ih]
  | hptr id el off => simp only [borrow, (h id).1, ih]
  | hmap id =>
   have := (h id).2
   simp only [borrow, ih]
   split
   ·rfl
   ·cases h1 : H[id]? with
    | none =>
     cases h2 : H2[id]? with
     | none => rfl
     | some o2 => rw [h1, h2] at this; cases o2 <;> simp [Ob.mp] at this <;> rfl
    | some o =>
     cases h2 : H2[id]? with
     | none => rw [h1, h2] at this; cases o <;> simp [Ob.mp] at this <;> rfl
     | some o2 => rw [h1, h2] at this; cases o <;> cases o2 <;> simp [Ob.mp] at this <;> first | rfl | (subst this; rfl)
  | _ => simp only [borrow, ih]
theorem Cu {H H2 : ao} (h : jQ H H2) : ∀ n, bY n H = bY n H2 := by
 intro n
 induction n with
 | zero => funext x; rfl
 | succ n ih =>
  funext x
  cases x with
  | hsl id es off len => simp only [bY, (h id).1, ih]
  | hptr id el off => simp only [bY, (h id).1, ih]
  | hmap id =>
   have := (h id).2
   simp only [bY, ih]
   split
   ·rfl
   ·cases h1 : H[id]? with
    | none =>
     cases h2 : H2[id]? with
     | none => rfl
     | some o2 => rw [h1, h2] at this; cases o2 <;> simp [Ob.mp] at this <;> rfl
    | some o =>
     cases h2 : H2[id]? with
     | none => rw [h1, h2] at this; cases o <;> simp [Ob.mp] at this <;> rfl
     | some o2 => rw [h1, h2] at this; cases o <;> cases o2 <;> simp [Ob.mp] at this <;> first | rfl | (subst this; rfl)
  | _ => simp only [bY, ih]
theorem t8 {H H2 : ao} (h : jQ H H2) (call : eB) (f : FuncId) (args : List V) : di call f args H = di call f args H2 := by
 unfold di borrows
 rw [BY h]
theorem Aq {H H2 : ao} (h : jQ H H2) (p : V) (n : Nat) : fu H p n = fu H2 p n := by
 cases p with
 | hptr id el off => simp only [fu, (h id).1]
 | _ => rfl
theorem DE {H H2 : ao} (h : jQ H H2) (p : V) : ju H p = ju H2 p := by
 cases p with
 | hmap id =>
  have := (h id).2
  simp only [ju]
  cases h1 : H[id]? with
  | none =>
   cases h2 : H2[id]? with
   | none => rfl
   | some o2 => rw [h1, h2] at this; cases o2 <;> simp [Ob.mp] at this <;> rfl
  | some o =>
   cases h2 : H2[id]? with
   | none => rw [h1, h2] at this; cases o <;> simp [Ob.mp] at this <;> rfl
   | some o2 => rw [h1, h2] at this; cases o <;> cases o2 <;> simp [Ob.mp] at this <;> first | rfl | (subst this; rfl)
 | _ => rfl
theorem zV {E : Env} {F : Frame} {H H2 : ao} (h : jQ H H2) (op : Op) : cI E F H op = cI E F H2 op := by
 cases op <;> simp only [cI, Aq h, DE h]
theorem oU {H H2 : ao} (h : jQ H H2) (T : List Nat) : gR H T = gR H2 T := by
 unfold gR
 congr 1
 funext id
 rw [(h id).1]
theorem ud {H : ao} {T : List Nat} (h : gR H T = true) {id : Nat} (hi : id ∈ T) : ∃ es xs, H[id]? = some (.row es xs) ∨ H[id]? = some (.frz es xs) := by
 unfold gR at h
 rw [List.all_eq_true] at h
 have := h id hi
 cases h1 : H[id]? with
 | none => rw [h1] at this; simp at this
 | some o => rw [h1] at this; cases o <;> simp [Ob.rows] at this <;> exact ⟨_, _, by first | exact .inl rfl | exact .inr rfl⟩
theorem kS {H : ao} {b id : Nat} : (H.take b)[id]? = if id < b then H[id]? else none := by
 rw [List.getElem?_take]
theorem lR {H : ao} {T : List Nat} {b : Nat} (h : gR (H.take b) T = true) : jQ (bz H T) H := by
 intro id
 rw [gf]
 by_cases hi : id ∈ T
 ·obtain ⟨es, xs, hx⟩ := ud h hi
  rw [kS] at hx
  by_cases hb : id < b
  ·rw [if_pos hb] at hx
   rcases hx with hx | hx <;> simp [hx, hi, jG, Ob.rows, Ob.mp]
  ·rw [if_neg hb] at hx; rcases hx with hx | hx <;> cases hx
 ·cases H[id]? <;> simp [hi]
theorem jQ.take {H H2 : ao} (h : jQ H H2) (b : Nat) : jQ (H.take b) (H2.take b) := by
 intro id
 rw [kS, kS]
 by_cases hb : id < b
 ·rw [if_pos hb, if_pos hb]; exact h id
 ·rw [if_neg hb, if_neg hb]; exact ⟨rfl, rfl⟩
theorem tA {H : ao} {T : List Nat} {b : Nat} (h : gR (H.take b) T = true) {id : Nat} (hi : id ∈ T) : id < b := by
 obtain ⟨es, xs, hx⟩ := ud h hi
 rw [kS] at hx
 by_cases hb : id < b
 ·exact hb
 ·rw [if_neg hb] at hx; rcases hx with hx | hx <;> cases hx
theorem xI {H : ao} {T : List Nat} {k : Nat} {ob : Ob} (h : k ∉ T) : bz (H.set k ob) T = (bz H T).set k ob := by
 apply List.ext_getElem?
 intro i
 rw [gf]
 by_cases e : i = k
 ·subst e
  by_cases hl : i < H.length
  ·rw [List.getElem?_set_self hl, List.getElem?_set_self (by rw [iK]; exact hl)]; simp [h]
  ·rw [List.getElem?_eq_none (by simp; omega), List.getElem?_eq_none (by rw [List.length_set, iK]; omega)]; rfl
 ·rw [List.getElem?_set_ne (Ne.symm e), List.getElem?_set_ne (Ne.symm e), gf]
theorem BP (H : ao) (T T' : List Nat) : bz (bz H T) T' = bz (bz H T') T := by
 apply List.ext_getElem?
 intro i
 simp only [gf]
 cases H[i]? with
 | none => rfl
 | some o => by_cases h1 : i ∈ T <;> by_cases h2 : i ∈ T' <;> simp [h1, h2]
theorem De {H : ao} {b : Nat} : ∀ (n : Nat) (x : V), (∀ id ∈ bY n (H.take b) x, id < b) → bY n H x = bY n (H.take b) x := by
 intro n
 induction n with
 | zero => intro x _; rfl
 | succ n ih =>
  have ihL : ∀ l : List V, (∀ id ∈ dg (bY n (H.take b)) l, id < b) → dg (bY n H) l = dg (bY n (H.take b)) l := by
   intro l
   induction l with
   | nil => intro _; rfl
   | cons x r ihr =>
    intro h
    simp only [dg, List.mem_append] at h ⊢
    rw [ih x fun id hi => h id (.inl hi), ihr fun id hi => h id (.inr hi)]
  intro x h
  simp only [bY] at h ⊢
  split
  ·rfl
  ·rename_i hc
   rw [if_neg hc] at h
   cases x with
   | hsl id es off len =>
    simp only at h ⊢
    have hb : id < b := h id (List.mem_cons_self ..)
    rw [kS, if_pos hb] at h ⊢
    cases hr : (H[id]?).bind Ob.rows with
    | none => rfl
    | some q =>
     rw [hr] at h
     simp only at h ⊢
     rw [ihL _ fun i hi => h i (List.mem_cons_of_mem _ hi)]
   | hptr id el off =>
    simp only at h ⊢
    have hb : id < b := h id (List.mem_cons_self ..)
    rw [kS, if_pos hb] at h ⊢
    cases hr : (H[id]?).bind Ob.rows with
    | none => rfl
    | some q =>
     rw [hr] at h
     simp only at h ⊢
     rw [ihL _ fun i hi => h i (List.mem_cons_of_mem _ hi)]
   | hmap id =>
    simp only at h ⊢
    have hb : id < b := h id (List.mem_cons_self ..)
    rw [kS, if_pos hb] at h ⊢
    split
    ·rename_i kvs hk
     rw [hk] at h
     simp only [List.mem_cons, List.mem_append] at h
     rw [ihL _ fun i hi => h i (.inr (.inl hi)), ihL _ fun i hi => h i (.inr (.inr hi))]
    ·rfl
   | clo f a c =>
    simp only [List.mem_append] at h ⊢
    rw [ihL _ fun i hi => h i (.inl hi), ihL _ fun i hi => h i (.inr hi)]
   | agg cs => simp only at h ⊢; exact ihL _ h
   | tup cs => simp only at h ⊢; exact ihL _ h
   | _ => rfl
theorem qY {H : ao} {b n : Nat} : ∀ (l : List V), (∀ id ∈ dg (bY n (H.take b)) l, id < b) → dg (bY n H) l = dg (bY n (H.take b)) l
 | [], _ => rfl
 | x :: r, h => by
  simp only [dg, List.mem_append] at h ⊢
  rw [De n x fun id hi => h id (.inl hi), qY r fun id hi => h id (.inr hi)]
end Go.VE
namespace Go.VE
theorem wg {H : ao} {b id : Nat} {ob : Ob} (h : (H.take b)[id]? = some ob) : H[id]? = some ob := by
 rw [List.getElem?_take] at h
 split at h
 ·exact h
 ·simp at h
theorem tU {H : ao} {b id es : Nat} {xs : List (List V)} (h : ((H.take b)[id]?).bind Ob.rows = some (es, xs)) : (H[id]?).bind Ob.rows = some (es, xs) := by
 obtain ⟨ob, h1, h2⟩ := Option.bind_eq_some_iff.1 h
 rw [wg h1]; exact h2
theorem AE {H : ao} {b : Nat} {p : V} {n : Nat} {cs : List V} (h : fu (H.take b) p n = some cs) : fu H p n = some cs := by
 unfold fu at h ⊢
 split at h
 ·exact h
 ·split at h
  ·rename_i hr; simp only [tU hr]; exact h
  ·simp at h
 ·simp at h
theorem Db {H : ao} {b : Nat} {m : V} {kvs : List (V × V)} (h : ju (H.take b) m = some kvs) : ju H m = some kvs := by
 unfold ju at h ⊢
 split at h
 ·exact h
 ·exact h
 ·split at h
  ·rename_i hr; rw [wg hr]; exact h
  ·simp at h
 ·simp at h
theorem sX {E : Env} {F : Frame} {H : ao} {b : Nat} {op : Op} {x : V} (h : cI E F (H.take b) op = some x) : cI E F H op = some x := by
 cases op with
 | load t a =>
  simp only [cI] at h ⊢
  split at h
  ·rename_i d p hd hp
   obtain ⟨cs, h1, h2⟩ := Option.bind_eq_some_iff.1 h
   rw [AE h1]; exact h2
  ·simp at h
 | lookup t m k ok =>
  simp only [cI] at h ⊢
  split at h
  ·split at h
   ·rename_i hd hkv
    rw [hd, Db hkv]; exact h
   ·simp at h
  ·simp at h
 | _ => simp [cI] at h
theorem js {f g : V → Option V} (hfg : ∀ x y, f x = some y → g x = some y) : ∀ {xs ys : List V}, jh f xs = some ys → jh g xs = some ys := by
 intro xs
 induction xs with
 | nil => intro ys h; exact h
 | cons x xs ih =>
  intro ys h
  simp only [jh] at h ⊢
  split at h
  ·rename_i y s hy hs
   rw [hfg _ _ hy, ih hs]; exact h
  ·simp at h
theorem BH {f g : V → Option V} (hfg : ∀ x y, f x = some y → g x = some y) : ∀ {xs ys : List (List V)}, n7 f xs = some ys → n7 g xs = some ys := by
 intro xs
 induction xs with
 | nil => intro ys h; exact h
 | cons x xs ih =>
  intro ys h
  simp only [n7] at h ⊢
  split at h
  ·rename_i y s hy hs
   rw [js hfg hy, ih hs]; exact h
  ·simp at h
theorem BD {f g : V → Option V} (hfg : ∀ x y, f x = some y → g x = some y) : ∀ {xs ys : List (V × V)}, n_ f xs = some ys → n_ g xs = some ys := by
 intro xs
 induction xs with
 | nil => intro ys h; exact h
 | cons x xs ih =>
  intro ys h
  obtain ⟨k, x⟩ := x
  simp only [n_] at h ⊢
  split at h
  ·rename_i y s hk hy hs
   rw [hfg _ _ hk, hfg _ _ hy, ih hs]; exact h
  ·simp at h
theorem vh {H : ao} {b : Nat} : ∀ (n : Nat) (x y : V), borrow n (H.take b) x = some y → borrow n H x = some y := by
 intro n
 induction n with
 | zero => intro x y h; exact h
 | succ n ih =>
  intro x y h
  simp only [borrow] at h ⊢
  split at h
  ·rename_i hc; rw [if_pos hc]; exact h
  ·rename_i hc
   rw [if_neg hc]
   split at h
   ·split at h
    ·rename_i hr
     simp only [tU hr]
     split at h
     ·rename_i hcond
      rw [if_pos hcond]
      obtain ⟨zs, hz, hzy⟩ := Option.map_eq_some_iff.1 h
      rw [BH ih hz, ← hzy]; rfl
     ·simp at h
    ·simp at h
   ·split at h
    ·rename_i hr
     simp only [tU hr]
     split at h
     ·rename_i hcs
      split at h
      ·rename_i hle
       rw [if_pos hle]
       obtain ⟨zs, hz, hzy⟩ := Option.map_eq_some_iff.1 h
       rw [js ih hz, ← hzy]; rfl
      ·simp at h
     ·simp at h
    ·simp at h
   ·split at h
    ·rename_i hr
     simp only [wg hr]
     obtain ⟨zs, hz, hzy⟩ := Option.map_eq_some_iff.1 h
     rw [BD ih hz, ← hzy]; rfl
    ·simp at h
   ·split at h
    ·rename_i h1 h2
     rw [js ih h1, js ih h2]; exact h
    ·simp at h
   ·obtain ⟨zs, hz, hzy⟩ := Option.map_eq_some_iff.1 h
    rw [js ih hz, ← hzy]; rfl
   ·obtain ⟨zs, hz, hzy⟩ := Option.map_eq_some_iff.1 h
    rw [js ih hz, ← hzy]; rfl
   ·simp at h
theorem mQ {call : eB} {f : FuncId} {args : List V} {H : ao} {b : Nat} {y : V} (h : di call f args (H.take b) = some y) : di call f args H = some y := by
 unfold di borrows at h ⊢
 split at h
 ·rename_i as has
  rw [js (vh 8) has]; exact h
 ·simp at h
section
variable {P : Program} {E : Env} {I I' : aR} {μ μ' : Mu} {H H' : ao} {n : Nat} {F : Frame} {a : Act} {w w' : World}
theorem vi {f : FuncId} (h : yg P f) (args : Array Value) : (callFunc f args).run P w = .ok (.enter f args) w := by
 obtain ⟨fn, h1, h2, h3⟩ := h
 unfold callFunc
 have hb : fn.body.isNone = false := by cases hb : fn.body <;> simp_all
 simp only [Sem.run_bind, run_program, Result.andThen_ok, h1, h3, hb, Bool.false_eq_true, if_false, Sem.run_pure]
theorem xd {o : Oper} {ro : Option Nat} {K : Act → World → Prop} {Q : Exit → Act → World → Prop} {f : FuncId} {args : Array Value} {r : V}
 (hcall : CallsIn (fr none) 0 P f args w (ua I μ H w r H')) (hK : ∀ u I' μ' w', aD I' μ' r u → bM I' μ' H' w' → Step I μ H w I' μ' H' w' → K (a.put o.dst u) w') :
 o.uponIn (fr ro) 0 P a K Q (.ok (.enter f args) w) := by
 rw [Oper.uponIn_enter]
 refine ⟨fun h => by simp [fr] at h, ?_⟩
 have h2 : CallsIn (fr ro) 0 P f args w (ua I μ H w r H') := hcall
 refine h2.mono ?_
 rintro e w' ⟨u, I', μ', rfl, h1, h2, h3⟩
 exact hK u I' μ' w' h1 h2 h3
theorem Fz (hE : eA P E) {call : eB} (hc : jq P call) {ops : List Oper} {place : Option (Nat × Nat)} {o : Oper} {x : V} (h : dO E call ops place F H o.op = some (x, H'))
 (r : dF I μ n F a.tmps) (s : bM I μ H w) (ro : Option Nat) {K : Act → World → Prop} {Q : Exit → Act → World → Prop}
 (hK : ∀ u I' μ' w', aD I' μ' x u → bM I' μ' H' w' → Step I μ H w I' μ' H' w' → K (a.put o.dst u) w') : o.wpIn (fr ro) 0 P a w K Q := by
 refine ⟨fun _ _ => trivial, ?_⟩
 have hnd : ∀ c, o.op ≠ .defer c := by
  intro c hc'
  rw [hc'] at h
  simp [dO, eR, aG] at h
 show o.uponIn (fr ro) 0 P a K Q ((o.semAt ro a.eval).run P w)
 rw [Oper.semAt_eq ro a.eval o hnd]
 have hval : ∀ v, (execOp a.eval o).run P w = .ok (.value v) w → aD I μ x v → H' = H → o.uponIn (fr ro) 0 P a K Q ((execOp a.eval o).run P w) := by
  intro v e hv hH
  rw [e, Oper.uponIn_value]
  subst hH
  exact hK v I μ w hv s (.refl _ _ _ _)
 unfold dO at h
 split at h
 ·
  simp only [Option.map_eq_some_iff, Prod.mk.injEq] at h
  obtain ⟨v, hv, rfl, rfl⟩ := h
  obtain ⟨u, h1, h2⟩ := HJ (w := w) hE r o hv
  exact hval u h1 h2 rfl
 ·
  have hr : cI E F H o.op = some x ∧ H' = H := by
   split at h
   ·simp only [Option.map_eq_some_iff, Prod.mk.injEq] at h
    obtain ⟨v, hv, rfl, rfl⟩ := h
    exact ⟨hv, rfl⟩
   ·split at h
    ·rename_i v hv
     simp only [Option.some.injEq, Prod.mk.injEq] at h
     obtain ⟨rfl, rfl⟩ := h
     exact ⟨sX hv, rfl⟩
    ·split at h
     ·simp only [Option.map_eq_some_iff, Prod.mk.injEq] at h
      obtain ⟨v, hv, rfl, rfl⟩ := h
      exact ⟨hv, rfl⟩
     ·simp at h
  obtain ⟨u, h1, h2⟩ := H6 hE r s o hr.1
  exact hval u h1 h2 hr.2
 ·
  split at h
  ·rename_i ob m hal
   simp only [Option.some.injEq, Prod.mk.injEq] at h
   obtain ⟨rfl, rfl⟩ := h
   obtain ⟨obj, p, u, h1, h2⟩ := AD hE r s o hal
   rw [h1, Oper.uponIn_value]
   obtain ⟨g1, g2⟩ := h2.rel _ (s.dom _ (Nat.le_refl _))
   obtain ⟨s1, s2⟩ := s.push h2.b g1 h2.nf
   exact hK u _ _ _ g2 s1 s2
  ·rename_i ob m b i hal
   split at h
   ·rename_i hfree
    simp only [Option.some.injEq, Prod.mk.injEq] at h
    obtain ⟨rfl, rfl⟩ := h
    obtain ⟨obj, p, u, h1, h2⟩ := AD hE r s o hal
    rw [h1, Oper.uponIn_value]
    obtain ⟨g1, g2⟩ := h2.rel _ (s.obs _ _ hfree)
    obtain ⟨s1, s2⟩ := s.fill hfree h2.b g1 h2.nf
    exact hK u _ _ _ g2 s1 s2
   ·simp at h
  ·simp at h
 ·
  have hl : dU E F H o.op = some (x, H') := by
   split at h
   ·exact h
   ·split at h
    ·exact h
    ·simp at h
  obtain ⟨nx, u, w', μ', h1, h2, h3, h4, h5⟩ := (Ia hE r s o hl).run
  rw [h1]
  rcases h2 with rfl | ⟨rfl, rfl⟩
  ·rw [Oper.uponIn_value]; exact hK u I μ' w' h3 h4 h5
  ·rw [Oper.uponIn_skip]; exact hK _ I μ' w' h3 h4 h5
 ·
  have hcallee : ∀ c args, gU F o.op = some (c, args) → ∃ vs : List Value, bA I μ args vs ∧
   (∀ f, c = .fn f → yg P f → (execOp a.eval o).run P w = .ok (.enter f vs.toArray) w) ∧
   (∀ id, c = .yld id → ∃ p, μ id = some p ∧ (execOp a.eval o).run P w = (Instr.yield p.b vs.toArray).run P w) := by
   intro c args hca
   obtain ⟨dst, op, ty, pos, after, guard⟩ := o
   cases op with
   | call cl =>
    obtain ⟨callee, args0, ats⟩ := cl
    cases callee with
    | value f =>
     simp only [gU] at hca
     split at hca
     ·rename_i g p q vs hf hvs
      simp only [Option.some.injEq, Prod.mk.injEq] at hca
      obtain ⟨rfl, rfl⟩ := hca
      obtain ⟨u, v, ef, hu, hv⟩ := (ck r hf).iT
      have hargs := mG r hvs
      refine ⟨u.toList ++ args0.toList.map a.eval ++ v.toList, (hu.append hargs).append hv, ?_, by simp⟩
      intro f' hf' hok
      cases hf'
      simp only [execOp, resolve, Sem.run_bind]
      rw [ef]
      simp only [Deferred.ofValue, Sem.run_pure, Result.andThen_ok, invoke, vi hok]
      congr 2
      apply Array.ext'
      simp
     ·rename_i id vs hf hvs
      simp only [Option.some.injEq, Prod.mk.injEq] at hca
      obtain ⟨rfl, rfl⟩ := hca
      obtain ⟨p, hm, ef⟩ := (ck r hf).HA
      have hargs := mG r hvs
      refine ⟨args0.toList.map a.eval, hargs, by simp, ?_⟩
      intro id' hid'
      cases hid'
      refine ⟨p, hm, ?_⟩
      simp only [execOp, resolve, Sem.run_bind]
      rw [ef]
      simp only [Deferred.ofValue, Sem.run_pure, Result.andThen_ok, invoke]
      congr 1
      congr 1
      apply Array.ext'
      simp
     ·simp at hca
    | _ => simp [gU] at hca
   | _ => simp [gU] at hca
  have hiso : ∀ f args y, gU F o.op = some (.fn f, args) → di call f args H = some y → x = y → H' = (if y.scalar then H else bz H (dg (bY 8 H) args)) →
   o.uponIn (fr ro) 0 P a K Q ((execOp a.eval o).run P w) := by
   intro f args y h1 h2 h3 h4
   obtain ⟨vs, g1, g2, _⟩ := hcallee _ _ h1
   obtain ⟨k1, k2⟩ := KN hc h2 s g1
   rw [g2 f rfl k1]
   subst h3; subst h4
   exact xd k2 hK
  have hdir : ∀ f args, gU F o.op = some (.fn f, args) → gJ E call f args H = some (x, H') → o.uponIn (fr ro) 0 P a K Q ((execOp a.eval o).run P w) := by
   intro f args h1 h2
   obtain ⟨vs, g1, g2, _⟩ := hcallee _ _ h1
   obtain ⟨k1, k2⟩ := IZ hc h2 s g1
   rw [g2 f rfl k1]
   exact xd k2 hK
  have hyld : ∀ id args, gU F o.op = some (.yld id, args) → call (.yld id) args H = some (x, H') → o.uponIn (fr ro) 0 P a K Q ((execOp a.eval o).run P w) := by
   intro id args h1 h2
   obtain ⟨vs, g1, _, g3⟩ := hcallee _ _ h1
   obtain ⟨p, hm, e⟩ := g3 id rfl
   obtain ⟨l, f, tmps, assign, body, k1, k2⟩ := hc.yld id args H x H' h2 I μ w vs p s g1 hm
   rw [e, k1, Oper.uponIn_round]
   refine ⟨fun h => by simp [fr] at h, ?_⟩
   have h2 : RoundIn (fr ro) 0 P l f tmps assign body w (ua I μ H w x H') := k2
   refine h2.mono ?_
   rintro e w' ⟨u, I', μ', rfl, h1, h2, h3⟩
   exact hK u I' μ' w' h1 h2 h3
  split at h
  ·rename_i f args hca
   split at h
   ·split at h
    ·exact hdir f args hca h
    ·split at h
     ·exact hdir f args hca h
     ·simp at h
   ·split at h
    ·split at h
     ·rename_i y hy
      simp only [Option.some.injEq, Prod.mk.injEq] at h
      exact hiso f args y hca hy h.1.symm h.2.symm
     ·simp at h
    ·split at h
     ·rename_i y hy
      split at h
      ·rename_i hsc
       simp only [Option.some.injEq, Prod.mk.injEq] at h
       refine hiso f args y hca (mQ hy) h.1.symm ?_
       rw [← h.2, if_pos hsc]
      ·rename_i hsc
       split at h
       ·rename_i hro
        simp only [Option.some.injEq, Prod.mk.injEq] at h
        refine hiso f args y hca (mQ hy) h.1.symm ?_
        rw [← h.2, if_neg hsc, qY _ fun id hi => tA hro hi]
       ·simp at h
     ·split at h
      ·split at h
       ·rename_i y hy
        simp only [Option.some.injEq, Prod.mk.injEq] at h
        exact hiso f args y hca hy h.1.symm h.2.symm
       ·simp at h
      ·simp at h
  ·rename_i id args hca
   split at h
   ·exact hyld id args hca h
   ·split at h
    ·exact hyld id args hca h
    ·simp at h
  ·simp at h
end
end Go.VE
namespace Go.VE
structure gp (B : Nat) (ds : List Deferred) (w : World) : Prop where
 all : ∀ d ∈ ds, ∃ r, d.target = .collected r ∧ B ≤ r ∧ w.heap[r]? = some (.deferred (some []))
 apart : ds.Pairwise fun d d' => ∀ r, d.target = .collected r → d'.target ≠ .collected r
section
variable {P : Program} {E : Env} {I I' I'' : aR} {μ μ' μ'' : Mu} {H H' H'' : ao} {n B : Nat} {F F' : Frame} {a : Act} {w w' w'' : World}
theorem oG (s : bM I μ H w) {r : Nat} {c : Option (List Deferred)} (h : w.heap[r]? = some (.deferred c)) : ¬ gj μ H r := by
 rintro ⟨id, p, ob, h1, h2, h3, rfl⟩
 have := s.obs id ob h1
 cases ob with
 | row es xs => obtain ⟨q, c, el, hq, _, hh, _⟩ := this; rw [h3] at hq; cases hq; rw [h] at hh; cases hh
 | map kvs => obtain ⟨q, c, el, hq, _, hh, _⟩ := this; rw [h3] at hq; cases hq; rw [h] at hh; cases hh
 | loop x => obtain ⟨q, c, hq, _, hh, _⟩ := this; rw [h3] at hq; cases hq; rw [h] at hh; cases hh
 | _ => simp [Ob.live] at h2
theorem gp.step {ds : List Deferred} (h : gp B ds w) (s : bM I μ H w) (st : Step I μ H w I' μ' H' w') : gp B ds w' where
 all := by
  intro d hd
  obtain ⟨r, h1, h2, h3⟩ := h.all d hd
  refine ⟨r, h1, h2, ?_⟩
  rw [st.frame r (Array.getElem?_eq_some_iff.1 h3).1 (oG s h3)]
  exact h3
 apart := h.apart
structure At (B n : Nat) (I0 : aR) (μ0 : Mu) (H0 : ao) (w0 : World) (F : Frame) (H : ao) (ds : List Deferred) (a : Act) (w : World) : Prop where
 rel : ∃ I μ, dF I μ n F a.tmps ∧ bM I μ H w ∧ Step I0 μ0 H0 w0 I μ H w
 defers : a.defers = ds
 marks : gp B ds w
theorem E4 (r : dF I μ n F a.tmps) (ops : Array Oper) (o : Oper) : fN ops.toList F o = Region.wanted o (yielded ops a.tmps) := by
 unfold fN Region.wanted
 cases hg : o.guard with
 | none => rfl
 | some g =>
  obtain ⟨j, b⟩ := g
  simp only
  unfold yielded
  have e : ops.toList[j]? = ops[j]? := by simp
  rw [e]
  cases hd : (ops[j]?).bind (·.dst) with
  | none => simp
  | some d =>
   simp only [Option.bind_some]
   have hr := r.2 d
   by_cases hlt : d < a.tmps.size
   ·have hget : a.tmps[d]? = some a.tmps[d] := by simp [hlt]
    have hgd : a.tmps.getD d undef = a.tmps[d] := by simp [hlt]
    rw [hgd] at hr
    rw [hget]
    cases hx : get F d with
    | bool c => rw [hx] at hr; rw [hr.me]; cases c <;> cases b <;> rfl
    | _ =>
     cases hv : a.tmps[d] with
     | bool c => rw [hv] at hr; have := hr.of_bool; rw [hx] at this; cases this
     | _ => rfl
   ·have hget : a.tmps[d]? = none := Array.getElem?_eq_none (Nat.le_of_not_lt hlt)
    have hgd : a.tmps.getD d undef = undef := by simp [hlt]
    rw [hgd] at hr
    rw [hget]
    cases hx : get F d with
    | bool c => rw [hx] at hr; have := hr.me; simp [undef] at this
    | _ => rfl
theorem xX (hE : eA P E) {call : eB} (hc : jq P call) {ops : Array Oper} {place : Option (Nat × Nat)} {o : Oper} (h : fP E call n ops.toList place o F H = some (F', H'))
 (r : dF I μ n F a.tmps) (s : bM I μ H w) (ro : Option Nat) {K : Act → World → Prop} {Q : Exit → Act → World → Prop}
 (hK : ∀ a' I' μ' w', dF I' μ' n F' a'.tmps → a'.defers = a.defers → bM I' μ' H' w' → Step I μ H w I' μ' H' w' → K a' w') :
 if Region.wanted o (yielded ops a.tmps) then o.wpIn (fr ro) 0 P a w K Q else (∀ f, o.about P w a.eval = some f → (fr ro).fn f) ∧ K (a.put o.dst undef) w := by
 unfold fP at h
 rw [← E4 r]
 have hdef : ∀ v, (a.put o.dst v).defers = a.defers := fun v => by cases o.dst <;> rfl
 split at h
 ·rename_i hw
  rw [if_pos hw]
  split at h
  ·rename_i x H2 hdo
   simp only [Option.map_eq_some_iff, Prod.mk.injEq] at h
   obtain ⟨F2, hp, rfl, rfl⟩ := h
   refine Fz hE hc hdo r s ro (fun u I' μ' w' hx hs hst => ?_)
   exact hK _ I' μ' w' ((r.mono hst.le hst.mu).put hx hp) (hdef u) hs hst
  ·simp at h
 ·rename_i hw
  rw [if_neg hw]
  simp only [Option.map_eq_some_iff, Prod.mk.injEq] at h
  obtain ⟨F2, hp, rfl, rfl⟩ := h
  exact ⟨fun _ _ => trivial, hK _ I μ w (r.put (.undef I μ) hp) (hdef _) s (.refl _ _ _ _)⟩
theorem Ec (hE : eA P E) {call : eB} (hc : jq P call) {ops : Array Oper} (ro : Option Nat) {Q : Exit → Act → World → Prop} : ∀ (rest : List Oper) (k : Nat) (I : aR) (μ : Mu) (F : Frame) (H : ao) (a : Act) (w : World),
 (∀ j, rest[j]? = ops[k + j]?) → jK E call n ops.toList rest F H = some (F', H') → dF I μ n F a.tmps → bM I μ H w →
 (∀ a' I' μ' w', dF I' μ' n F' a'.tmps → a'.defers = a.defers → bM I' μ' H' w' → Step I μ H w I' μ' H' w' → Q .normal a' w') →
 wpOpsIn (fr ro) 0 P ops Q (List.range' k rest.length) a w := by
 intro rest
 induction rest with
 | nil =>
  intro k I μ F H a w _ h r s hQ
  simp only [jK, Option.some.injEq, Prod.mk.injEq] at h
  obtain ⟨rfl, rfl⟩ := h
  exact hQ a I μ w r rfl s (.refl _ _ _ _)
 | cons o rest ih =>
  intro k I μ F H a w hidx h r s hQ
  simp only [jK] at h
  split at h
  ·rename_i F1 H1 hstep
   have h0 : ops[k]? = some o := by simpa using (hidx 0).symm
   simp only [List.length_cons, List.range'_succ, wpOpsIn, h0]
   refine xX hE hc hstep r s ro (fun a' I' μ' w' hr hd hs hst => ?_)
   refine ih (k + 1) I' μ' F1 H1 a' w' (fun j => by have := hidx (j + 1); simpa [Nat.add_assoc, Nat.add_comm 1 j] using this) h hr hs ?_
   intro a2 I2 μ2 w2 hr2 hd2 hs2 hst2
   exact hQ a2 I2 μ2 w2 hr2 (hd2.trans hd) hs2 (Step.trans hs hst hst2)
  ·simp at h
end
end Go.VE
namespace Go.VE
def mW (F F' : Frame) (op : Op) : Prop := ∀ x ∈ op.operands, ev F x = ev F' x
theorem oP {F F' : Frame} : ∀ {l : List Operand}, (∀ x ∈ l, ev F x = ev F' x) → gw F l = gw F' l := by
 intro l
 induction l with
 | nil => intro _; rfl
 | cons x l ih =>
  intro h
  simp only [gw]
  rw [h x (by simp), ih (fun y hy => h y (List.mem_cons_of_mem _ hy))]
theorem tL {F F' : Frame} : ∀ {l : List (Nat × Operand)}, (∀ x ∈ l, ev F x.2 = ev F' x.2) → ja F l = ja F' l := by
 intro l
 induction l with
 | nil => intro _; rfl
 | cons x l ih =>
  intro h
  obtain ⟨i, x⟩ := x
  simp only [ja]
  rw [h (i, x) (by simp), ih (fun y hy => h y (List.mem_cons_of_mem _ hy))]
theorem rA {F F' : Frame} {o : Option Operand} (h : ∀ x ∈ o.toArray, ev F x = ev F' x) : gV F o = gV F' o := by
 cases o with
 | none => rfl
 | some x => simp only [gV]; rw [h x (by simp)]
theorem yu {E : Env} {F F' : Frame} {op : Op} (h : mW F F' op) : aG E F op = aG E F' op := by
 cases op with
 | move x => exact h x (by simp [Op.operands])
 | assign x => exact h x (by simp [Op.operands])
 | pick c a b =>
  simp only [aG]
  rw [h c (by simp [Op.operands]), h a (by simp [Op.operands]), h b (by simp [Op.operands])]
 | nilCheck x => simp only [aG]; rw [h x (by simp [Op.operands])]
 | binOp op t x y yt => simp only [aG]; rw [h x (by simp [Op.operands]), h y (by simp [Op.operands])]
 | unOp op t x => simp only [aG]; rw [h x (by simp [Op.operands])]
 | convert s d x => simp only [aG]; rw [h x (by simp [Op.operands])]
 | fieldAddr s x f => simp only [aG]; rw [h x (by simp [Op.operands])]
 | field s x f => simp only [aG]; rw [h x (by simp [Op.operands])]
 | indexAddr t x i => simp only [aG]; rw [h x (by simp [Op.operands]), h i (by simp [Op.operands])]
 | index t x i => simp only [aG]; rw [h x (by simp [Op.operands]), h i (by simp [Op.operands])]
 | slice t x lo hi mx =>
  simp only [aG]
  rw [h x (by simp [Op.operands]), rA (o := lo) (fun y hy => h y (by simp [Op.operands] at hy ⊢; simp [hy])), rA (o := hi) (fun y hy => h y (by simp [Op.operands] at hy ⊢; simp [hy])),
   rA (o := mx) (fun y hy => h y (by simp [Op.operands] at hy ⊢; simp [hy]))]
 | build t ps =>
  simp only [aG]
  rw [tL (l := ps.toList) (fun x hx => h x.2 (by simp only [Op.operands, List.mem_toArray, List.mem_map]; exact ⟨x, hx, rfl⟩))]
 | makeFunc f a b =>
  cases f with
  | func f =>
   simp only [aG]
   rw [oP (l := a.toList) (fun x hx => h x (by simp only [Op.operands, Array.mem_append]; left; simpa using hx)), oP (l := b.toList) (fun x hx => h x (by simp only [Op.operands, Array.mem_append]; right; simpa using hx))]
  | _ => rfl
 | extract x i => simp only [aG]; rw [h x (by simp [Op.operands])]
 | call c =>
  obtain ⟨callee, args, ats⟩ := c
  cases callee with
  | builtin b =>
   simp only [aG]
   rw [oP (l := args.toList) (fun x hx => h x (by simp only [Op.operands, Call.operands, Array.mem_append]; right; simpa using hx))]
  | _ => rfl
 | _ => rfl
theorem rT {E : Env} {F F' : Frame} {H : ao} {op : Op} (h : mW F F' op) : cI E F H op = cI E F' H op := by
 cases op with
 | load t x => simp only [cI]; rw [h x (by simp [Op.operands])]
 | lookup t m k ok => simp only [cI]; rw [h m (by simp [Op.operands]), h k (by simp [Op.operands])]
 | _ => rfl
theorem xC {E : Env} {F F' : Frame} {op : Op} (h : mW F F' op) : eu E F op = eu E F' op := by
 cases op with
 | alloc t => rfl
 | box t x => simp only [eu]; rw [h x (by simp [Op.operands])]
 | makeSlice t l c => simp only [eu]; rw [h l (by simp [Op.operands]), h c (by simp [Op.operands])]
 | buildSlice t len ps =>
  simp only [eu]
  rw [tL (l := ps.toList) (fun x hx => h x.2 (by simp only [Op.operands, List.mem_toArray, List.mem_map]; exact ⟨x, hx, rfl⟩))]
 | makeMap t r => cases r <;> rfl
 | _ => rfl
theorem yO {E : Env} {F F' : Frame} {H : ao} {op : Op} (h : mW F F' op) : dU E F H op = dU E F' H op := by
 cases op with
 | store t p x => simp only [dU]; rw [h p (by simp [Op.operands]), h x (by simp [Op.operands])]
 | mapUpdate t m k x => simp only [dU]; rw [h m (by simp [Op.operands]), h k (by simp [Op.operands]), h x (by simp [Op.operands])]
 | call c =>
  obtain ⟨callee, args, ats⟩ := c
  cases callee with
  | builtin b =>
   cases b with
   | append =>
    simp only [dU]
    rw [oP (l := args.toList) (fun x hx => h x (by simp only [Op.operands, Call.operands, Array.mem_append]; right; simpa using hx))]
   | _ => rfl
  | _ => rfl
 | _ => rfl
theorem yC {F F' : Frame} {op : Op} (h : mW F F' op) : gU F op = gU F' op := by
 cases op with
 | call c =>
  obtain ⟨callee, args, ats⟩ := c
  cases callee with
  | value f =>
   simp only [gU]
   rw [h f (by simp [Op.operands, Call.operands]), oP (l := args.toList) (fun x hx => h x (by simp only [Op.operands, Call.operands, Array.mem_append]; right; simpa using hx))]
  | _ => rfl
 | _ => rfl
theorem x8 {E : Env} {call : eB} {ops : List Oper} {place : Option (Nat × Nat)} {F F' : Frame} {H : ao} {op : Op} (h : mW F F' op) (hf : ∀ b i, place = some (b, i) → nC ops i F = nC ops i F') : dO E call ops place F H op = dO E call ops place F' H op := by
 unfold dO
 rw [yu h, xC h, yO h, yC h, rT (H := H) h]
 split <;> (try rfl)
 ·split <;> (try rfl)
  rw [rT h]
 ·split <;> (try rfl)
  rename_i i
  rw [hf _ i rfl]
section
variable {E : Env} {call : eB} {n : Nat} {ops : List Oper} {base : Nat}
theorem Dx {o : Oper} {t : Nat} (h : .tmp t ∈ o.op.operands) : t ∈ mY o ops := by
 unfold mY
 refine List.mem_append.2 (.inl (List.mem_filterMap.2 ⟨.tmp t, by simpa using h, rfl⟩))
theorem zH {F F' : Frame} {o : Oper} {dst : Option Nat} {v : V} (hp : iu n F dst v = some F') (h : ∀ d, dst = some d → d ∉ mY o ops) : mW F' F o.op := by
 intro x hx
 cases x with
 | tmp t =>
  cases dst with
  | none => simp only [iu, Option.some.injEq] at hp; subst hp; rfl
  | some d =>
   simp only [iu] at hp
   split at hp
   ·simp only [Option.some.injEq] at hp; subst hp
    have hne : d ≠ t := fun e => h d rfl (by rw [e]; exact Dx hx)
    simp only [ev]; rw [nh _ _ hne]
   ·simp at hp
 | const v => rfl
 | func f => rfl
 | global g => rfl
theorem u9 {F F' : Frame} {o : Oper} {dst : Option Nat} {v : V} (hp : iu n F dst v = some F') (h : ∀ d, dst = some d → d ∉ mY o ops) : fN ops F' o = fN ops F o := by
 unfold fN
 cases hg : o.guard with
 | none => rfl
 | some g =>
  obtain ⟨j, b⟩ := g
  simp only
  cases hd : (ops[j]?).bind (·.dst) with
  | none => rfl
  | some t =>
   simp only
   cases dst with
   | none => simp only [iu, Option.some.injEq] at hp; subst hp; rfl
   | some d =>
    simp only [iu] at hp
    split at hp
    ·simp only [Option.some.injEq] at hp; subst hp
     have hne : d ≠ t := fun e => h d rfl (by
      rw [e]; unfold mY
      refine List.mem_append.2 (.inr ?_)
      rw [hg]; simp only [hd, Option.toList_some, List.mem_singleton])
     rw [nh _ _ hne]
    ·simp at hp
theorem EL {F F1 F2 : Frame} {d d' : Option Nat} {u v : V} (h1 : iu n F d u = some F1) (h2 : iu n F1 d' v = some F2) (hne : ∀ x, d = some x → d' ≠ some x) :
 ∃ F1', iu n F d' v = some F1' ∧ iu n F1' d u = some F2 := by
 cases d with
 | none =>
  simp only [iu, Option.some.injEq] at h1; subst h1
  exact ⟨F2, h2, rfl⟩
 | some x =>
  cases d' with
  | none =>
   simp only [iu, Option.some.injEq] at h2; subst h2
   exact ⟨F, rfl, h1⟩
  | some y =>
   simp only [iu] at h1 h2 ⊢
   split at h1
   ·rename_i hx
    split at h2
    ·rename_i hy
     simp only [Option.some.injEq] at h1 h2; subst h1; subst h2
     have : x ≠ y := fun e => hne x rfl (by rw [e])
     exact ⟨set F y v, by rw [if_pos hy], by rw [if_pos hx, AR _ _ _ (Ne.symm this)]⟩
    ·simp at h2
   ·simp at h1
theorem vf {i k : Nat} {oi ok : Oper} (h : eT ops i = true) (hi : ops[i]? = some oi) (hk : ops[k]? = some ok) (hne : k ≠ i) : eR ok.op = .pure ∨ (if k < i then before ops i k else before ops k i) = true := by
 unfold eT at h
 rw [hi] at h
 simp only [List.all_eq_true, List.mem_range] at h
 have hlt := (List.getElem?_eq_some_iff.1 hk).1
 have := h k hlt
 rw [hk] at this
 simp only [Bool.or_eq_true, beq_iff_eq] at this
 rcases this with (h | h) | h
 ·exact absurd h hne
 ·exact .inl h
 ·exact .inr h
theorem oa {i : Nat} {F : Frame} {H H' : ao} {op : Op} {v : V} (h : dO E call ops (some (base, i)) F H op = some (v, H')) (hnl : eT ops i = false) (hcl : eR op ≠ .loud) :
 (H' = H ∧ ∀ H2 : ao, jQ (H2.take base) (H.take base) → dO E call ops (some (base, i)) F H2 op = some (v, H2)) ∨
 (∃ ob, H[base + i]? = some .free ∧ H' = H.set (base + i) ob ∧ ∀ H2 : ao, H2[base + i]? = some .free → dO E call ops (some (base, i)) F H2 op = some (v, H2.set (base + i) ob)) ∨
 (∃ T, gR (H.take base) T = true ∧ H' = bz H T ∧ ∀ H2 : ao, jQ (H2.take base) (H.take base) → dO E call ops (some (base, i)) F H2 op = some (v, bz H2 T)) := by
 unfold dO at h
 split at h
 ·rename_i hcl
  simp only [Option.map_eq_some_iff, Prod.mk.injEq] at h
  obtain ⟨x, hx, rfl, rfl⟩ := h
  refine .inl ⟨rfl, fun H2 _ => ?_⟩
  unfold dO; rw [hcl]; simp [hx]
 ·rename_i hcl
  simp only at h
  split at h
  ·rename_i x hx
   simp only [Option.some.injEq, Prod.mk.injEq] at h
   obtain ⟨rfl, rfl⟩ := h
   refine .inl ⟨rfl, fun H2 h2 => ?_⟩
   unfold dO; rw [hcl]; simp only [zV h2, hx]
  ·rw [hnl] at h; simp at h
 ·rename_i hcl
  split at h
  ·rename_i heq; simp at heq
  ·rename_i ob m b' i' hal heq
   simp only [Option.some.injEq, Prod.mk.injEq] at heq
   obtain ⟨rfl, rfl⟩ := heq
   split at h
   ·rename_i hfree
    simp only [Option.some.injEq, Prod.mk.injEq] at h
    obtain ⟨rfl, rfl⟩ := h
    refine .inr (.inl ⟨ob, hfree, rfl, fun H2 h2 => ?_⟩)
    unfold dO; rw [hcl]; simp only [hal, h2]
   ·simp at h
  ·simp at h
 ·rename_i hl; exact absurd hl hcl
 ·rename_i hcl
  split at h
  ·rename_i f args hca
   split at h
   ·simp only at h
    rw [hnl] at h; simp at h
   ·rename_i hkeep
    simp only at h
    split at h
    ·rename_i y hy
     split at h
     ·rename_i hcond
      simp only [Option.some.injEq, Prod.mk.injEq] at h
      obtain ⟨rfl, rfl⟩ := h
      refine .inl ⟨rfl, fun H2 h2 => ?_⟩
      unfold dO; rw [hcl]; simp only [hca]
      rw [if_neg hkeep]
      simp only [t8 h2, hy, hcond, if_true]
     ·rename_i hcond
      split at h
      ·rename_i hro
       simp only [Option.some.injEq, Prod.mk.injEq] at h
       obtain ⟨rfl, rfl⟩ := h
       refine .inr (.inr ⟨_, hro, rfl, fun H2 h2 => ?_⟩)
       unfold dO; rw [hcl]; simp only [hca]
       rw [if_neg hkeep]
       simp only [t8 h2, hy, Cu h2, oU h2, hro, if_true]
       rw [if_neg hcond]
      ·simp at h
    ·rw [hnl] at h; simp at h
  ·simp only at h
   rw [hnl] at h; simp at h
  ·simp at h
theorem zx {i : Nat} : ∀ {r l : List Nat}, vF ops i r = some l → ∀ k ∈ r, ∃ a, z0 ops i k = some a ∧ ∀ s ∈ a, s ∈ l
 | [], l, h, k, hk => by simp at hk
 | q :: r, l, h, k, hk => by
  simp only [vF] at h
  split at h
  ·rename_i a b h1 h2
   simp only [Option.some.injEq] at h; subst h
   rcases List.mem_cons.1 hk with rfl | hk
   ·exact ⟨a, h1, fun s hs => List.mem_append_left _ hs⟩
   ·obtain ⟨a', g1, g2⟩ := zx h2 k hk
    exact ⟨a', g1, fun s hs => List.mem_append_right _ (g2 s hs)⟩
  ·simp at h
theorem Au {i : Nat} : ∀ {r l : List Nat}, vF ops i r = some l → ∀ s ∈ l, s ∉ pY ops
 | [], l, h, s, hs => by simp only [vF, Option.some.injEq] at h; subst h; simp at hs
 | q :: r, l, h, s, hs => by
  simp only [vF] at h
  split at h
  ·rename_i a b h1 h2
   simp only [Option.some.injEq] at h; subst h
   rcases List.mem_append.1 hs with hs | hs
   ·unfold z0 at h1
    split at h1
    ·split at h1
     ·simp only [Option.some.injEq] at h1; subst h1; simp at hs
     ·split at h1
      ·split at h1
       ·simp at h1
       ·rename_i hc
        simp only [Option.some.injEq] at h1; subst h1
        simp only [List.mem_singleton] at hs; subst hs
        simpa using hc
      ·simp at h1
    ·simp only [Option.some.injEq] at h1; subst h1; simp at hs
   ·exact Au h2 s hs
  ·simp at h
theorem zd {i a : Nat} {l : List Nat} {oi : Oper} (hi : ops[i]? = some oi) (h : wq ops i = some (a, l)) : (∃ t x, oi.op = .store t (.tmp a) x) ∧ a ∉ pY ops ∧ (∀ s ∈ l, s ∉ pY ops) ∧
 ∀ k ok, ops[k]? = some ok → k ≠ i → eR ok.op = .pure ∨ (if k < i then before ops i k else before ops k i) = true ∨ ∃ t' a', ok.op = .load t' (.tmp a') ∧ a' ∈ l := by
 unfold wq at h
 rw [hi] at h
 simp only [Option.map_some] at h
 split at h
 ·rename_i t a0 x heq
  simp only [Option.some.injEq] at heq
  split at h
  ·simp at h
  ·rename_i hc
   obtain ⟨l0, hl, e⟩ := Option.map_eq_some_iff.1 h
   simp only [Prod.mk.injEq] at e; obtain ⟨rfl, rfl⟩ := e
   refine ⟨⟨t, x, heq⟩, by simpa using hc, Au hl, fun k ok hk hne => ?_⟩
   obtain ⟨b, h1, h2⟩ := zx hl k (List.mem_range.2 (List.getElem?_eq_some_iff.1 hk).1)
   unfold z0 at h1
   rw [hk] at h1
   simp only at h1
   split at h1
   ·rename_i hcond
    simp only [Bool.or_eq_true, beq_iff_eq] at hcond
    rcases hcond with (hcond | hcond) | hcond
    ·exact absurd hcond hne
    ·exact .inl hcond
    ·exact .inr (.inl hcond)
   ·split at h1
    ·rename_i t' a' hop
     split at h1
     ·simp at h1
     ·simp only [Option.some.injEq] at h1; subst h1
      exact .inr (.inr ⟨t', a', hop, h2 a' (by simp)⟩)
    ·simp at h1
 ·simp at h
theorem Gj {F F' : Frame} {dst : Option Nat} {v : V} {s : Nat} (hp : iu n F dst v = some F') (h : ∀ d, dst = some d → s ≠ d) : get F' s = get F s := by
 unfold iu at hp
 split at hp
 ·simp only [Option.some.injEq] at hp; rw [hp]
 ·rename_i d
  split at hp
  ·simp only [Option.some.injEq] at hp; subst hp
   exact nh _ _ (Ne.symm (h d rfl))
  ·simp at hp
theorem Fp {k d : Nat} {ok : Oper} (hk : ops[k]? = some ok) (hd : ok.dst = some d) : d ∈ pY ops :=
 List.mem_filterMap.2 ⟨ok, List.mem_of_getElem? hk, hd⟩
theorem zh {F F' : Frame} {k i : Nat} {ok oi : Oper} {v : V} (hk : ops[k]? = some ok) (hi : ops[i]? = some oi) (hp : iu n F ok.dst v = some F') : nC ops i F' = nC ops i F := by
 unfold nC
 cases hf : wq ops i with
 | none => rfl
 | some al =>
  obtain ⟨a, l⟩ := al
  obtain ⟨_, h2, h3, _⟩ := zd hi hf
  have hg : ∀ s, s ∉ pY ops → get F' s = get F s := fun s hs => Gj hp fun d hd e => hs (e ▸ Fp hk hd)
  simp only
  rw [hg a h2]
  split
  ·rw [Bool.eq_iff_iff]
   simp only [List.all_eq_true]
   exact ⟨fun h s hs => by rw [← hg s (h3 s hs)]; exact h s hs, fun h s hs => by rw [hg s (h3 s hs)]; exact h s hs⟩
  ·rfl
theorem BR {F : Frame} {H H' : ao} {t : TypeId} {a : Nat} {x : Operand} {id el off : Nat} {u : V} (ha : get F a = .hptr id el off) (h : dU E F H (.store t (.tmp a) x) = some (u, H')) : ∃ r, H' = H.set id r := by
 simp only [dU, ev, ha] at h
 split at h
 ·rename_i h1 h2 h3
  simp only [Option.some.injEq, V.hptr.injEq] at h2
  obtain ⟨rfl, rfl, rfl⟩ := h2
  split at h
  ·split at h
   ·split at h
    ·simp only [Option.some.injEq, Prod.mk.injEq] at h; exact ⟨_, h.2.symm⟩
    ·simp at h
   ·simp at h
  ·simp at h
 ·simp at h
theorem C_ {F : Frame} {H : ao} {t : TypeId} {a id b : Nat} {r : Ob} (ha : oH id (get F a) = true) : cI E F ((H.set id r).take b) (.load t (.tmp a)) = cI E F (H.take b) (.load t (.tmp a)) := by
 have : ∀ m, fu ((H.set id r).take b) (get F a) m = fu (H.take b) (get F a) m := fun m => by
  unfold oH at ha
  split at ha
  ·rename_i id' el off hg
   rw [hg]
   simp only [fu]
   have hne : id ≠ id' := fun e => by simp [e] at ha
   have : ((H.set id r).take b)[id']? = (H.take b)[id']? := by
    rw [List.getElem?_take, List.getElem?_take, List.getElem?_set_ne hne]
   rw [this]
  ·rename_i cs hg; rw [hg]; rfl
  ·simp at ha
 unfold cI
 simp only [ev]
 cases E.tt t with
 | none => rfl
 | some d => simp only [this]
theorem AI {k i : Nat} {ok oi : Oper} (hk : ops[k]? = some ok) (hi : ops[i]? = some oi) (hne : k ≠ i) (hb : (if k < i then before ops i k else before ops k i) = false) (lk : eT ops k = false) (pk : eR ok.op ≠ .pure) (hl : eR oi.op = .loud) (li : eT ops i = false)
 {F : Frame} {H0 H1 H2 Hs Hs' : ao} {u v : V} (hs : dO E call ops (some (base, i)) F Hs oi.op = some (u, Hs')) (hld : dO E call ops (some (base, k)) F H0 ok.op = some (v, H1)) :
 H1 = H0 ∧ ∃ id, (∀ (H : ao) (r : Ob), cI E F ((H.set id r).take base) ok.op = cI E F (H.take base) ok.op) ∧ (∃ r, Hs' = Hs.set id r) ∧ eR ok.op = .read ∧ cI E F (H0.take base) ok.op = some v := by
 unfold dO at hs
 rw [hl] at hs
 simp only [li, Bool.false_or] at hs
 split at hs
 ·rename_i hf
  unfold nC at hf
  split at hf
  ·rename_i a l hfs
   split at hf
   ·rename_i id el off hg
    obtain ⟨⟨t, x, hop⟩, h2, h3, h4⟩ := zd hi hfs
    rcases h4 k ok hk hne with h | h | ⟨t', a', hlo, hmem⟩
    ·exact absurd h pk
    ·rw [hb] at h; cases h
    ·have hap : oH id (get F a') = true := List.all_eq_true.1 hf a' hmem
     rw [hop] at hs
     obtain ⟨r, hr⟩ := BR hg hs
     unfold dO at hld
     rw [hlo] at hld
     simp only [eR] at hld
     split at hld
     ·rename_i v' hv
      simp only [Option.some.injEq, Prod.mk.injEq] at hld
      obtain ⟨rfl, rfl⟩ := hld
      refine ⟨rfl, id, fun H r => by rw [hlo]; exact C_ hap, ⟨r, hr⟩, by rw [hlo]; rfl, by rw [hlo]; exact hv⟩
     ·rw [lk] at hld; simp at hld
   ·simp at hf
  ·simp at hf
 ·simp at hs
theorem xJ {place : Option (Nat × Nat)} {F : Frame} {H H' : ao} {op : Op} {v : V} (hcl : eR op = .pure) (h : dO E call ops place F H op = some (v, H')) :
 H' = H ∧ ∀ H2 : ao, dO E call ops place F H2 op = some (v, H2) := by
 unfold dO at h
 rw [hcl] at h
 simp only [Option.map_eq_some_iff, Prod.mk.injEq] at h
 obtain ⟨x, hx, rfl, rfl⟩ := h
 refine ⟨rfl, fun H2 => ?_⟩
 unfold dO; rw [hcl]; simp [hx]
theorem take_set_of_le {H : ao} {b k : Nat} {x : Ob} (h : b ≤ k) : (H.set k x).take b = H.take b := List.take_set_of_le h
theorem apart_spec {a b : Oper} (h : rP ops a b = true) : (∀ d, a.dst = some d → d ∉ mY b ops ∧ b.dst ≠ some d) ∧ (∀ d, b.dst = some d → d ∉ mY a ops) := by
 unfold rP at h
 simp only [Bool.and_eq_true] at h
 obtain ⟨h1, h2⟩ := h
 refine ⟨fun d hd => ?_, fun d hd => ?_⟩
 ·rw [hd] at h1; simpa using h1
 ·rw [hd] at h2; simpa using h2
theorem swap {k i : Nat} {ok oi : Oper} (hk : ops[k]? = some ok) (hi : ops[i]? = some oi) (hki : k < i) (hne : before ops i k = false) (hap : rP ops ok oi = true) {F F1 F2 : Frame} {H H1 H2 : ao}
 (h1 : fP E call n ops (some (base, k)) ok F H = some (F1, H1)) (h2 : fP E call n ops (some (base, i)) oi F1 H1 = some (F2, H2)) :
 ∃ F1' H1', fP E call n ops (some (base, i)) oi F H = some (F1', H1') ∧ fP E call n ops (some (base, k)) ok F1' H1' = some (F2, H2) := by
 obtain ⟨a1, a2⟩ := apart_spec hap
 have hput1 : ∃ v, iu n F ok.dst v = some F1 ∧ ((fN ops F ok = true ∧ dO E call ops (some (base, k)) F H ok.op = some (v, H1)) ∨ (fN ops F ok = false ∧ v = .undef ∧ H1 = H)) := by
  unfold fP at h1
  split at h1
  ·rename_i hw
   split at h1
   ·rename_i v H' hd
    simp only [Option.map_eq_some_iff, Prod.mk.injEq] at h1
    obtain ⟨Fx, hp, rfl, rfl⟩ := h1
    exact ⟨v, hp, .inl ⟨hw, hd⟩⟩
   ·simp at h1
  ·rename_i hw
   simp only [Option.map_eq_some_iff, Prod.mk.injEq] at h1
   obtain ⟨Fx, hp, rfl, rfl⟩ := h1
   exact ⟨_, hp, .inr ⟨by simpa using hw, rfl, rfl⟩⟩
 have hput2 : ∃ v, iu n F1 oi.dst v = some F2 ∧ ((fN ops F1 oi = true ∧ dO E call ops (some (base, i)) F1 H1 oi.op = some (v, H2)) ∨ (fN ops F1 oi = false ∧ v = .undef ∧ H2 = H1)) := by
  unfold fP at h2
  split at h2
  ·rename_i hw
   split at h2
   ·rename_i v H' hd
    simp only [Option.map_eq_some_iff, Prod.mk.injEq] at h2
    obtain ⟨Fx, hp, rfl, rfl⟩ := h2
    exact ⟨v, hp, .inl ⟨hw, hd⟩⟩
   ·simp at h2
  ·rename_i hw
   simp only [Option.map_eq_some_iff, Prod.mk.injEq] at h2
   obtain ⟨Fx, hp, rfl, rfl⟩ := h2
   exact ⟨_, hp, .inr ⟨by simpa using hw, rfl, rfl⟩⟩
 obtain ⟨v, hp1, hd1⟩ := hput1
 obtain ⟨u, hp2, hd2⟩ := hput2
 have hw2 : fN ops F1 oi = fN ops F oi := u9 hp1 fun d hd => (a1 d hd).1
 have hs2 : mW F1 F oi.op := zH hp1 fun d hd => (a1 d hd).1
 have hf2 : ∀ (b j : Nat), (some (base, i) : Option (Nat × Nat)) = some (b, j) → nC ops j F1 = nC ops j F := fun b j e => by cases e; exact zh hk hi hp1
 rw [hw2, x8 hs2 hf2] at hd2
 obtain ⟨F1', hq1, hq2⟩ := EL hp1 hp2 fun x hx => (a1 x hx).2
 have hw1 : fN ops F1' ok = fN ops F ok := u9 hq1 fun d hd => a2 d hd
 have hs1 : mW F1' F ok.op := zH hq1 fun d hd => a2 d hd
 have hf1 : ∀ (b j : Nat), (some (base, k) : Option (Nat × Nat)) = some (b, j) → nC ops j F1' = nC ops j F := fun b j e => by cases e; exact zh hi hk hq1
 have fin : ∀ H1', ((fN ops F oi = true ∧ dO E call ops (some (base, i)) F H oi.op = some (u, H1')) ∨ (fN ops F oi = false ∧ u = .undef ∧ H1' = H)) →
  ((fN ops F ok = true ∧ dO E call ops (some (base, k)) F H1' ok.op = some (v, H2)) ∨ (fN ops F ok = false ∧ v = .undef ∧ H2 = H1')) →
  ∃ F1' H1', fP E call n ops (some (base, i)) oi F H = some (F1', H1') ∧ fP E call n ops (some (base, k)) ok F1' H1' = some (F2, H2) := by
  intro H1' e1 e2
  refine ⟨F1', H1', ?_, ?_⟩
  ·unfold fP
   rcases e1 with ⟨x1, x2⟩ | ⟨x1, x2, x3⟩
   ·rw [if_pos x1, x2]; simp [hq1]
   ·rw [if_neg (by simp [x1])]; subst x2; subst x3; simp [hq1]
  ·unfold fP
   rw [hw1]
   rcases e2 with ⟨x1, x2⟩ | ⟨x1, x2, x3⟩
   ·rw [if_pos x1, x8 hs1 hf1, x2]; simp [hq2]
   ·rw [if_neg (by simp [x1])]; subst x2; subst x3; simp [hq2]
 rcases hd1 with ⟨w1, d1⟩ | ⟨w1, rfl, rfl⟩
 ·rcases hd2 with ⟨w2, d2⟩ | ⟨w2, rfl, rfl⟩
  ·by_cases pk : eR ok.op = .pure
   ·obtain ⟨rfl, q⟩ := xJ pk d1
    exact fin H2 (.inl ⟨w2, d2⟩) (.inl ⟨w1, q H2⟩)
   ·by_cases pi : eR oi.op = .pure
    ·obtain ⟨rfl, q⟩ := xJ pi d2
     exact fin H (.inl ⟨w2, q H⟩) (.inl ⟨w1, d1⟩)
    ·have lk : eT ops k = false := by
      cases hl : eT ops k with
      | false => rfl
      | true =>
       rcases vf hl hk hi (by omega) with h | h
       ·exact absurd h pi
       ·rw [if_neg (by omega)] at h; rw [hne] at h; cases h
     have li : eT ops i = false := by
      cases hl : eT ops i with
      | false => rfl
      | true =>
       rcases vf hl hi hk (by omega) with h | h
       ·exact absurd h pk
       ·rw [if_pos hki] at h; rw [hne] at h; cases h
     by_cases hki1 : eR oi.op = .loud
     ·obtain ⟨rfl, id, q1, ⟨r, hr⟩, q3, q4⟩ := AI (H2 := H2) hk hi (by omega) (by rw [if_pos hki]; exact hne) lk pk hki1 li d2 d1
      refine fin H2 (.inl ⟨w2, d2⟩) (.inl ⟨w1, ?_⟩)
      unfold dO; rw [q3]; subst hr
      simp only [q1, q4]
     by_cases hki2 : eR ok.op = .loud
     ·obtain ⟨rfl, id, q1, ⟨r, hr⟩, q3, q4⟩ := AI (H2 := H2) hi hk (by omega) (by rw [if_neg (by omega)]; exact hne) li pi hki2 lk d1 d2
      refine fin H (.inl ⟨w2, ?_⟩) (.inl ⟨w1, d1⟩)
      unfold dO; rw [q3]; subst hr
      rw [q1] at q4
      simp only [q4]
     have tk : ∀ (X : ao) (k : Nat) (o : Ob), jQ ((X.set (base + k) o).take base) (X.take base) := fun X k o => jQ.of_eq (take_set_of_le (by omega))
     rcases oa d1 lk hki2 with ⟨rfl, qk⟩ | ⟨ob, fk, rfl, qk⟩ | ⟨T, tr, rfl, qk⟩
     ·rcases oa d2 li hki1 with ⟨rfl, qi⟩ | ⟨ob2, fi, rfl, qi⟩ | ⟨T2, tr2, rfl, qi⟩
      ·exact fin H2 (.inl ⟨w2, d2⟩) (.inl ⟨w1, d1⟩)
      ·exact fin _ (.inl ⟨w2, d2⟩) (.inl ⟨w1, qk _ (tk _ _ _)⟩)
      ·exact fin _ (.inl ⟨w2, d2⟩) (.inl ⟨w1, qk _ ((lR tr2).take base)⟩)
     ·rcases oa d2 li hki1 with ⟨rfl, qi⟩ | ⟨ob2, fi, rfl, qi⟩ | ⟨T2, tr2, rfl, qi⟩
      ·refine fin H (.inl ⟨w2, qi H (tk _ _ _).symm⟩) (.inl ⟨w1, d1⟩)
      ·have fi' : H[base + i]? = some .free := by rw [List.getElem?_set_ne (by omega)] at fi; exact fi
       refine fin (H.set (base + i) ob2) (.inl ⟨w2, qi H fi'⟩) (.inl ⟨w1, ?_⟩)
       rw [qk _ (by rw [List.getElem?_set_ne (by omega)]; exact fk)]
       rw [List.set_comm _ _ (by omega)]
      ·have tr2' : gR (H.take base) T2 = true := by rw [← oU (tk H k ob)]; exact tr2
       have hk2 : base + k ∉ T2 := fun hm => absurd (tA tr2' hm) (by omega)
       refine fin (bz H T2) (.inl ⟨w2, qi H (tk _ _ _).symm⟩) (.inl ⟨w1, ?_⟩)
       rw [qk _ (by rw [gf, fk]; simp [hk2]), xI hk2]
     ·rcases oa d2 li hki1 with ⟨rfl, qi⟩ | ⟨ob2, fi, rfl, qi⟩ | ⟨T2, tr2, rfl, qi⟩
      ·refine fin H (.inl ⟨w2, qi H ((lR tr).take base).symm⟩) (.inl ⟨w1, d1⟩)
      ·have hi2 : base + i ∉ T := fun hm => absurd (tA tr hm) (by omega)
       have fi' : H[base + i]? = some .free := by
        rw [gf] at fi
        obtain ⟨o, ho, hf⟩ := Option.map_eq_some_iff.1 fi
        rw [if_neg hi2] at hf; rw [ho, hf]
       refine fin (H.set (base + i) ob2) (.inl ⟨w2, qi H fi'⟩) (.inl ⟨w1, ?_⟩)
       rw [qk _ (tk _ _ _), xI hi2]
      ·have tr2' : gR (H.take base) T2 = true := by rw [← oU ((lR tr).take base)]; exact tr2
       refine fin (bz H T2) (.inl ⟨w2, qi H ((lR tr).take base).symm⟩) (.inl ⟨w1, ?_⟩)
       rw [qk _ ((lR tr2').take base), BP]
  ·exact fin H (.inr ⟨w2, rfl, rfl⟩) (.inl ⟨w1, d1⟩)
 ·rcases hd2 with ⟨w2, d2⟩ | ⟨w2, rfl, rfl⟩
  ·exact fin H2 (.inl ⟨w2, d2⟩) (.inr ⟨w1, rfl, rfl⟩)
  ·exact fin _ (.inr ⟨w2, rfl, rfl⟩) (.inr ⟨w1, rfl, rfl⟩)
theorem BW (h : qg ops = true) {k i : Nat} {ok oi : Oper} (hk : ops[k]? = some ok) (hi : ops[i]? = some oi) (hki : k < i) : yN oi k = true ∨ rP ops ok oi = true := by
 unfold qg at h
 simp only [List.all_eq_true, List.mem_range] at h
 have hlt := (List.getElem?_eq_some_iff.1 hi).1
 have := h i hlt k hki
 rw [hk, hi] at this
 simpa using this
theorem GC (hd : qg ops = true) {i : Nat} {oi : Oper} (hi : ops[i]? = some oi) : ∀ (l r : List Nat), (∀ k ∈ l, k < i ∧ yN oi k = false ∧ before ops i k = false) → ∀ {F F' : Frame} {H H' : ao},
 g9 E call n ops base (l ++ i :: r) F H = some (F', H') → g9 E call n ops base (i :: (l ++ r)) F H = some (F', H') := by
 intro l
 induction l with
 | nil => intro r _ F F' H H' h; exact h
 | cons k l ih =>
  intro r hl F F' H H' h
  obtain ⟨hki, hke, hkb⟩ := hl k (by simp)
  simp only [List.cons_append, g9] at h
  split at h
  ·rename_i ok hk
   split at h
   ·rename_i F1 H1 h1
    have := ih r (fun x hx => hl x (List.mem_cons_of_mem _ hx)) h
    simp only [g9, hi] at this
    split at this
    ·rename_i F2 H2 h2
     have hap : rP ops ok oi = true := by
      rcases BW hd hk hi hki with h | h
      ·rw [hke] at h; cases h
      ·exact h
     obtain ⟨F1', H1', g1, g2⟩ := swap hk hi hki hkb hap h1 h2
     simp only [List.cons_append, g9, hi, g1, hk, g2]
     exact this
    ·simp at this
   ·simp at h
  ·simp at h
inductive Reach (ops : List Oper) : Nat → Nat → Prop
 | one (i k : Nat) (o : Oper) (e : Edge) (hi : ops[i]? = some o) (he : e ∈ o.after) (hb : iG e = true) (hk : e.on = k) : Reach ops i k
 | more (i j k : Nat) (o : Oper) (e : Edge) (hi : ops[i]? = some o) (he : e ∈ o.after) (hb : iG e = true) (hk : e.on = j) (h : Reach ops j k) : Reach ops i k
theorem wu : ∀ (ks l : List Nat) (k : Nat), k ∈ ks.foldl (fun l k => if l.contains k then l else k :: l) l → k ∈ ks ∨ k ∈ l
 | [], _, _, h => .inr h
 | x :: ks, l, k, h => by
  rcases wu ks _ k h with h | h
  ·exact .inl (List.mem_cons_of_mem _ h)
  ·simp only at h
   split at h
   ·exact .inr h
   ·rcases List.mem_cons.1 h with h | h
    ·exact .inl (by simp [h])
    ·exact .inr h
theorem CC {acc : List (List Nat)} {o : Oper} {k : Nat} (h : k ∈ wz acc o) : ∃ e ∈ o.after, iG e = true ∧ (k = e.on ∨ ∃ S, acc[e.on]? = some S ∧ k ∈ S) := by
 unfold wz at h
 have key : ∀ (es : List Edge) (l : List Nat), k ∈ es.foldl (fun l e => (e.on :: (acc[e.on]?).getD []).foldl (fun l k => if l.contains k then l else k :: l) l) l → k ∈ l ∨ ∃ e ∈ es, k = e.on ∨ ∃ S, acc[e.on]? = some S ∧ k ∈ S := by
  intro es
  induction es with
  | nil => intro l h; exact .inl h
  | cons e es ih =>
   intro l h
   rw [List.foldl_cons] at h
   rcases ih _ h with h | ⟨e', h1, h2⟩
   ·rcases wu _ _ _ h with h | h
    ·refine .inr ⟨e, by simp, ?_⟩
     rcases List.mem_cons.1 h with h | h
     ·exact .inl h
     ·cases hS : acc[e.on]? with
      | none => rw [hS] at h; simp at h
      | some S => rw [hS] at h; exact .inr ⟨S, rfl, h⟩
    ·exact .inl h
   ·exact .inr ⟨e', List.mem_cons_of_mem _ h1, h2⟩
 rcases key _ _ h with h | ⟨e, h1, h2⟩
 ·simp at h
 ·rw [List.mem_filter] at h1
  exact ⟨e, by simpa using h1.1, h1.2, h2⟩
theorem rV (ops : List Oper) : ∀ (l : List Oper) (acc : List (List Nat)) (pre : List Oper), ops = pre ++ l → acc.length = pre.length → (∀ (i : Nat) S, acc[i]? = some S → ∀ k ∈ S, Reach ops i k) →
 ∀ (i : Nat) S, (l.foldl (fun acc o => acc ++ [wz acc o]) acc)[i]? = some S → ∀ k ∈ S, Reach ops i k
 | [], _, _, _, _, h => h
 | o :: l, acc, pre, hops, hlen, h => by
  rw [List.foldl_cons]
  refine rV ops l _ (pre ++ [o]) (by simp [hops]) (by simp [hlen]) ?_
  intro i S hS k hk
  by_cases hi : i < acc.length
  ·rw [List.getElem?_append_left hi] at hS; exact h i S hS k hk
  ·rw [List.getElem?_append_right (by omega)] at hS
   have hi2 : i = acc.length := by
    have := (List.getElem?_eq_some_iff.1 hS).1
    simp at this; omega
   subst hi2
   simp at hS; subst hS
   have ho : ops[acc.length]? = some o := by rw [hops, hlen]; simp
   obtain ⟨e, he, hb, hk⟩ := CC hk
   rcases hk with hk | ⟨S, hS, hk⟩
   ·exact .one _ _ o e ho he hb hk.symm
   ·exact .more _ e.on _ o e ho he hb rfl (h _ S hS k hk)
theorem AO {i k : Nat} (h : before ops i k = true) : Reach ops i k := by
 unfold before at h
 cases hS : (AK ops)[i]? with
 | none => rw [hS] at h; simp at h
 | some S =>
  rw [hS] at h
  exact rV ops ops [] [] rfl rfl (by simp) i S hS k (by simpa using h)
end
end Go.VE
namespace Go.VE
section
variable {P : Program} {E : Env} {I I' : aR} {μ μ' : Mu} {H H' : ao} {n B : Nat} {F F' : Frame} {a : Act} {w w' : World}
theorem zD (e : Edge) : Region.binds .any e = iG e := by
 unfold Region.binds iG
 cases e.ground <;> rfl
def todo (ops : Array Oper) (listed : Array Bool) : List Nat := (List.range ops.size).filter fun i => !listed.getD i true
theorem qV (ops : Array Oper) (listed : Array Bool) : (todo ops listed).Pairwise (· < ·) := List.pairwise_lt_range.filter _
theorem FO {ops : Array Oper} {listed : Array Bool} {i : Nat} (hsz : listed.size = ops.size) (hi : i < ops.size) {l1 l2 : List Nat} (h : todo ops listed = l1 ++ i :: l2) :
 todo ops (listed.setIfInBounds i true) = l1 ++ l2 := by
 have hp : ∀ j ∈ List.range ops.size, (!(listed.setIfInBounds i true).getD j true) = ((!listed.getD j true) && (j != i)) := by
  intro j _
  by_cases e : j = i
  ·subst e
   have : (listed.setIfInBounds j true).getD j true = true := by simp [Array.getD_eq_getD_getElem?, hsz, hi]
   rw [this]; simp
  ·have : (listed.setIfInBounds i true).getD j true = listed.getD j true := by simp [Array.getD_eq_getD_getElem?, Array.getElem?_setIfInBounds_ne (Ne.symm e)]
   rw [this]; simp [e]
 have : todo ops (listed.setIfInBounds i true) = (todo ops listed).filter (· != i) := by
  unfold todo
  rw [List.filter_filter]
  exact List.filter_congr (fun j hj => by rw [hp j hj, Bool.and_comm])
 rw [this, h]
 have hs := qV ops listed
 rw [h] at hs
 rw [List.pairwise_append] at hs
 obtain ⟨_, h2, h3⟩ := hs
 rw [List.pairwise_cons] at h2
 rw [List.filter_append, List.filter_cons]
 simp only [bne_self_eq_false, Bool.false_eq_true, if_false]
 rw [List.filter_eq_self.2 (fun x hx => by have := h3 x hx i (by simp); simp; omega), List.filter_eq_self.2 (fun x hx => by have := h2.1 x hx; simp; omega)]
def Down (ops : Array Oper) (listed : Array Bool) : Prop := ∀ j o, listed.getD j false = true → ops[j]? = some o → ∀ e ∈ o.after, iG e = true → listed.getD e.on false = true
theorem Cx {ops : Array Oper} {listed : Array Bool} (hd : Down ops listed) {i k : Nat} (h : Reach ops.toList i k) (hi : ∀ o, ops[i]? = some o → ∀ e ∈ o.after, iG e = true → listed.getD e.on false = true) : listed.getD k false = true := by
 induction h with
 | one i k o e ho he hb hk => subst hk; exact hi o (by simpa using ho) e he hb
 | more i j k o e ho he hb hk _ ih =>
  subst hk
  exact ih fun o' ho' => hd _ _ (hi o (by simpa using ho) e he hb) ho'
theorem zL (hE : eA P E) {call : eB} (hc : jq P call) {ops : Array Oper} (hd : qg ops.toList = true) (hb : tq ops.toList = true) (ro : Option Nat) {Q : Exit → Act → World → Prop} (base : Nat) :
 ∀ (fuel : Nat) (listed : Array Bool) (I : aR) (μ : Mu) (F : Frame) (H : ao) (a : Act) (w : World), listed.size = ops.size → Down ops listed → (todo ops listed).length = fuel →
 g9 E call n ops.toList base (todo ops listed) F H = some (F', H') → dF I μ n F a.tmps → bM I μ H w →
 (∀ a' I' μ' w', dF I' μ' n F' a'.tmps → a'.defers = a.defers → bM I' μ' H' w' → Step I μ H w I' μ' H' w' → Q .normal a' w') →
 wpAnyIn (fr ro) 0 P .any ops Q fuel listed a w := by
 intro fuel
 induction fuel with
 | zero =>
  intro listed I μ F H a w hsz hdown hl h r s hQ
  have hnil : todo ops listed = [] := List.eq_nil_of_length_eq_zero hl
  rw [hnil] at h
  simp only [g9, Option.some.injEq, Prod.mk.injEq] at h
  obtain ⟨rfl, rfl⟩ := h
  refine ⟨?_, hQ a I μ w r rfl s (.refl _ _ _ _)⟩
  unfold Region.ready
  rw [List.filter_eq_nil_iff]
  intro i hi
  have : i ∉ todo ops listed := by rw [hnil]; simp
  unfold todo at this
  rw [List.mem_filter] at this
  simp only [not_and] at this
  have h2 := this hi
  simp only [Bool.and_eq_true, not_and]
  intro h3; exact absurd h3 h2
 | succ fuel ih =>
  intro listed I μ F H a w hsz hdown hl h r s hQ
  have hready : ∀ i, i ∈ Region.ready .any ops listed → i < ops.size ∧ i ∈ todo ops listed ∧ ∃ o, ops[i]? = some o ∧ ∀ e ∈ o.after, iG e = true → listed.getD e.on false = true := by
   intro i hi
   unfold Region.ready at hi
   rw [List.mem_filter] at hi
   obtain ⟨h1, h2⟩ := hi
   simp only [Bool.and_eq_true] at h2
   obtain ⟨h3, h4⟩ := h2
   have hlt : i < ops.size := by simpa using h1
   refine ⟨hlt, by unfold todo; rw [List.mem_filter]; exact ⟨h1, h3⟩, ops[i], by simp [hlt], ?_⟩
   have h5 : (ops[i].after.all fun e => !Region.binds .any e || listed.getD e.on false) = true := by
    have e : ops[i]? = some ops[i] := by simp [hlt]
    rw [e] at h4; simpa using h4
   rw [Array.all_eq_true_iff_forall_mem] at h5
   intro e he hb'
   have := h5 e he
   rw [zD, hb'] at this
   simpa using this
  refine ⟨?_, ?_⟩
  ·
   intro hnil
   exfalso
   cases hl' : todo ops listed with
   | nil => rw [hl'] at hl; simp at hl
   | cons i0 rest =>
    have hmem : i0 ∈ todo ops listed := by rw [hl']; simp
    have hs := qV ops listed
    rw [hl', List.pairwise_cons] at hs
    unfold todo at hmem
    rw [List.mem_filter] at hmem
    have hlt : i0 < ops.size := by simpa using hmem.1
    have : i0 ∈ Region.ready .any ops listed := by
     unfold Region.ready
     rw [List.mem_filter]
     refine ⟨hmem.1, ?_⟩
     simp only [Bool.and_eq_true]
     refine ⟨hmem.2, ?_⟩
     have e0 : ops[i0]? = some ops[i0] := by simp [hlt]
     rw [e0]
     simp only [Option.map_some, Option.getD_some]
     rw [Array.all_eq_true_iff_forall_mem]
     intro e he
     rw [zD]
     cases hbe : iG e with
     | false => simp
     | true =>
      simp only [Bool.not_true, Bool.false_or]
      have hback : e.on < i0 := by
       unfold tq at hb
       simp only [List.all_eq_true, List.mem_range] at hb
       have := hb i0 (by simpa using hlt)
       have e1 : ops.toList[i0]? = some ops[i0] := by simp [hlt]
       rw [e1] at this
       simp only [Array.all_eq_true_iff_forall_mem] at this
       have := this e he
       rw [hbe] at this
       simpa using this
      cases hon : listed.getD e.on false with
      | true => rfl
      | false =>
       exfalso
       have hin : e.on ∈ todo ops listed := by
        unfold todo
        rw [List.mem_filter]
        refine ⟨by simp; omega, ?_⟩
        have hlt2 : e.on < listed.size := by omega
        have : listed.getD e.on true = listed.getD e.on false := by simp [hlt2]
        rw [this, hon]; rfl
       rw [hl'] at hin
       rcases List.mem_cons.1 hin with h | h
       ·omega
       ·have := hs.1 _ h; omega
    rw [hnil] at this
    simp at this
  ·intro i hi
   obtain ⟨hlt, hmem, o, ho, hedges⟩ := hready i hi
   obtain ⟨l1, l2, hsplit⟩ := List.append_of_mem hmem
   have hsorted := qV ops listed
   rw [hsplit, List.pairwise_append] at hsorted
   have hfront : ∀ k ∈ l1, k < i ∧ yN o k = false ∧ before ops.toList i k = false := by
    intro k hk
    have hun : listed.getD k false = false := by
     have hkm : k ∈ todo ops listed := by rw [hsplit]; simp [hk]
     unfold todo at hkm
     rw [List.mem_filter] at hkm
     have hk2 : k < listed.size := by rw [hsz]; simpa using hkm.1
     have : listed.getD k true = listed.getD k false := by simp [hk2]
     rw [this] at hkm
     simpa using hkm.2
    refine ⟨hsorted.2.2 k hk i (by simp), ?_, ?_⟩
    rotate_left
    ·cases hbf : before ops.toList i k with
     | false => rfl
     | true =>
      have := Cx hdown (AO hbf) (fun o' ho' => by rw [ho] at ho'; cases ho'; exact hedges)
      rw [hun] at this; cases this
    cases he : yN o k with
    | false => rfl
    | true =>
     exfalso
     unfold yN at he
     rw [Array.any_eq_true] at he
     obtain ⟨ix, hix, he2⟩ := he
     have he1 : o.after[ix] ∈ o.after := Array.getElem_mem hix
     generalize o.after[ix] = e at he1 he2
     simp only [Bool.and_eq_true, beq_iff_eq] at he2
     have h1 := hedges e he1 he2.2
     rw [he2.1] at h1
     have hkm : k ∈ todo ops listed := by rw [hsplit]; simp [hk]
     unfold todo at hkm
     rw [List.mem_filter] at hkm
     have hk2 : k < listed.size := by rw [hsz]; simpa using hkm.1
     have : listed.getD k true = listed.getD k false := by simp [hk2]
     rw [this, h1] at hkm
     simp at hkm
   rw [hsplit] at h
   have h' := GC hd (by simpa using ho) l1 l2 hfront h
   simp only [g9] at h'
   have ho' : ops.toList[i]? = some o := by simpa using ho
   rw [ho'] at h'
   simp only at h'
   split at h'
   ·rename_i F1 H1 hstep
    unfold wpOpIn
    rw [ho]
    simp only
    refine xX hE hc hstep r s ro (fun a' I' μ' w' hr hdf hs hst => ?_)
    have ht := FO hsz hlt hsplit
    refine ih (listed.setIfInBounds i true) I' μ' F1 H1 a' w' (by simpa using hsz) ?_ ?_ (by rw [ht]; exact h') hr hs ?_
    ·have hgrow : ∀ j, listed.getD j false = true → (listed.setIfInBounds i true).getD j false = true := by
      intro j hj
      by_cases e : i = j
      ·subst e; simp [Array.getD_eq_getD_getElem?, hsz, hlt]
      ·simpa [Array.getD_eq_getD_getElem?, Array.getElem?_setIfInBounds_ne e] using hj
     intro j oj hj hoj e he hb'
     by_cases e' : i = j
     ·subst e'; rw [ho] at hoj; cases hoj; exact hgrow _ (hedges e he hb')
     ·refine hgrow _ (hdown j oj ?_ hoj e he hb')
      simpa [Array.getD_eq_getD_getElem?, Array.getElem?_setIfInBounds_ne e'] using hj
    ·rw [ht]; rw [hsplit] at hl; simp at hl ⊢; omega
    ·intro a2 I2 μ2 w2 hr2 hd2 hs2 hst2
     exact hQ a2 I2 μ2 w2 hr2 (hd2.trans hdf) hs2 (Step.trans hs hst hst2)
   ·simp at h'
theorem bM.Ab (s : bM I μ H w) (k : Nat) : bM I μ (H ++ List.replicate k .free) w := by
 have hget : ∀ id ob, (H ++ List.replicate k Ob.free)[id]? = some ob → H[id]? = some ob ∨ (ob = .free ∧ H.length ≤ id) := by
  intro id ob h
  by_cases hlt : id < H.length
  ·rw [List.getElem?_append_left hlt] at h; exact .inl h
  ·rw [List.getElem?_append_right (by omega), List.getElem?_replicate] at h
   split at h
   ·simp at h; exact .inr ⟨h.symm, by omega⟩
   ·simp at h
 refine ⟨fun id h => s.dom id (by simp at h; omega), s.imm, ?_, ?_⟩
 ·intro id ob h
  rcases hget id ob h with h | ⟨rfl, h2⟩
  ·exact s.obs id ob h
  ·exact s.dom id h2
 ·intro id id' ob ob' p p' h1 h2 l1 l2
  rcases hget id ob h1 with h1 | ⟨rfl, _⟩
  ·rcases hget id' ob' h2 with h2 | ⟨rfl, _⟩
   ·exact s.inj id id' ob ob' p p' h1 h2 l1 l2
   ·simp [Ob.live] at l2
  ·simp [Ob.live] at l1
theorem BB (k : Nat) (b : Nat) : gj μ (H ++ List.replicate k .free) b ↔ gj μ H b := by
 constructor
 ·rintro ⟨id, p, ob, h1, h2, h3, h4⟩
  by_cases hlt : id < H.length
  ·rw [List.getElem?_append_left hlt] at h1; exact ⟨id, p, ob, h1, h2, h3, h4⟩
  ·rw [List.getElem?_append_right (by omega), List.getElem?_replicate] at h1
   split at h1
   ·simp at h1; subst h1; simp [Ob.live] at h2
   ·simp at h1
 ·rintro ⟨id, p, ob, h1, h2, h3, h4⟩
  exact ⟨id, p, ob, by rw [List.getElem?_append_left (List.getElem?_eq_some_iff.1 h1).1]; exact h1, h2, h3, h4⟩
theorem Step.Ab (k : Nat) : Step I μ H w I μ (H ++ List.replicate k .free) w :=
 ⟨aR.le_refl _, Mu.le_refl _, by simp, Nat.le_refl _, fun _ _ _ => rfl, fun b h => h.elim .inl fun h => .inr (.inl ((BB k b).1 h)), rfl, rfl, fun _ h => h⟩
theorem Bi (hE : eA P E) (hm : P.follows .mixedOrders = true) {call : eB} (hc : jq P call) {id : Nat} {ops : Array Oper} {draw : Bool} (ro : Option Nat) {Q : Exit → Act → World → Prop}
 (h : iq E call n ops.toList draw F H = some (F', H')) (r : dF I μ n F a.tmps) (s : bM I μ H w)
 (hQ : ∀ a' I' μ' w', dF I' μ' n F' a'.tmps → a'.defers = a.defers → bM I' μ' H' w' → Step I μ H w I' μ' H' w' → Q .normal a' w') :
 (Code.region id ops draw).wpIn (fr ro) 0 P Q a w := by
 unfold iq at h
 cases draw with
 | false =>
  simp only [Bool.false_eq_true, if_false] at h
  refine wpIn_region ?_
  rw [List.range_eq_range', ← Array.length_toList]
  exact Ec hE hc ro ops.toList 0 I μ F H a w (by simp) h r s hQ
 | true =>
  simp only [if_true] at h
  split at h
  ·rename_i hok
   simp only [Bool.and_eq_true] at hok
   refine wpIn_region_draw fun t => ?_
   simp only [Region.schedule, hm, Bool.true_or, if_true]
   have s0 : bM I μ H { w with drawn := w.drawn + 1 } := s.nD rfl
   have st0 : Step I μ H w I μ H { w with drawn := w.drawn + 1 } := Step.nD rfl rfl rfl
   have htodo : todo ops (Array.replicate ops.size false) = List.range ops.toList.length := by
    unfold todo
    rw [List.filter_eq_self.2]
    ·simp
    ·intro i hi
     have : i < ops.size := by simpa using hi
     simp [this]
   have hdown : Down ops (Array.replicate ops.size false) := by
    intro j o hj
    simp [Array.getD_eq_getD_getElem?, Array.getElem?_replicate] at hj
    split at hj <;> simp at hj
   refine wpAnyIn_sound ops.size t _ a _ ?_
   split at h
   ·refine zL hE hc hok.1 hok.2 ro H.length ops.size _ I μ F (H ++ List.replicate ops.toList.length .free) a _ (by simp) hdown (by rw [htodo]; simp) (by rw [htodo]; exact h) r (s0.Ab _) ?_
    intro a' I' μ' w' h1 h2 h3 h4
    exact hQ a' I' μ' w' h1 h2 h3 (Step.trans s0 st0 (Step.trans (s0.Ab _) (Step.Ab _) h4))
   ·refine zL hE hc hok.1 hok.2 ro H.length ops.size _ I μ F H a _ (by simp) hdown (by rw [htodo]; simp) (by rw [htodo]; exact h) r s0 ?_
    intro a' I' μ' w' h1 h2 h3 h4
    exact hQ a' I' μ' w' h1 h2 h3 (Step.trans s0 st0 h4)
  ·simp at h
end
end Go.VE
namespace Go.VE
def Out.AG : Out → Exit
 | .norm => .normal
 | .exit id => .exit id
 | .ret => .ret
theorem Ao (p : Nat → Prop) : ∀ k, p k → ∃ m, p m ∧ ∀ j, p j → m ≤ j := by
 intro k
 induction k using Nat.strongRecOn with
 | _ k ih =>
  intro hk
  by_cases h : ∃ j, j < k ∧ p j
  ·obtain ⟨j, hj, hp⟩ := h; exact ih j hj hp
  ·exact ⟨k, hk, fun j hp => Nat.le_of_not_lt fun hlt => h ⟨j, hlt, hp⟩⟩
open Classical in
noncomputable def least (p : Nat → Prop) : Nat := if h : ∃ m, p m ∧ ∀ j, p j → m ≤ j then h.choose else 0
theorem CK (p : Nat → Prop) {k : Nat} (hk : p k) : p (least p) ∧ least p ≤ k := by
 have h := Ao p k hk
 unfold least
 rw [dif_pos h]
 exact ⟨h.choose_spec.1, h.choose_spec.2 k hk⟩
section
variable {P : Program} {E : Env} {I I' : aR} {μ μ' : Mu} {H H' : ao} {n B : Nat} {F F' : Frame} {a : Act} {w w' : World}
def Post (B n : Nat) (I : aR) (μ : Mu) (H : ao) (w : World) (o : Out) (F' : Frame) (H' : ao) : Exit → Act → World → Prop :=
 fun e a' w' => e = o.AG ∧ (∃ I' μ', dF I' μ' n F' a'.tmps ∧ bM I' μ' H' w' ∧ Step I μ H w I' μ' H' w') ∧ gp B a'.defers w'
theorem Post.mono {I1 : aR} {μ1 : Mu} {H1 : ao} {w1 : World} {o : Out} (s1 : bM I1 μ1 H1 w1) (st : Step I μ H w I1 μ1 H1 w1) {e : Exit} {a' : Act} {w' : World} (h : Post B n I1 μ1 H1 w1 o F' H' e a' w') :
 Post B n I μ H w o F' H' e a' w' := by
 obtain ⟨h1, ⟨I', μ', h2, h3, h4⟩, h5⟩ := h
 exact ⟨h1, ⟨I', μ', h2, h3, Step.trans s1 st h4⟩, h5⟩
theorem bM.uN (s : bM I μ H w) {b : Nat} (o : Obj) (hI : I b = none) (hn : ¬ gj μ H b) : bM I μ H (fJ w b o) where
 dom := s.dom
 imm := fun b' x h => IC.pQ (s.imm b' x h) (e_ o (by rintro rfl; rw [hI] at h; cases h))
 obs := fun id ob h => (s.obs id ob h).mono (aR.le_refl _) (Mu.le_refl _) (fun p hp hl => by
  have ho : gj μ H p.b := ⟨id, p, ob, h, hl, hp, rfl⟩
  exact ⟨e_ o (fun e => hn (e ▸ ho)), fB s ho⟩) (fun he => by subst he; exact s.obs id _ h)
 inj := s.inj
theorem HU (s : bM I μ H w) {b : Nat} {o : Obj} (h : w.heap[b]? = some o) (h1 : ∀ c e f, o ≠ .cells c e f) (h2 : ∀ es c, o ≠ .map es c) : I b = none := by
 cases hI : I b with
 | none => rfl
 | some x =>
  have := s.imm b x hI
  cases x with
  | cells c => obtain ⟨_, _, q⟩ := this; rw [h] at q; cases q; exact absurd rfl (h1 _ _ _)
  | map es => obtain ⟨_, q⟩ := this; rw [h] at q; cases q; exact absurd rfl (h2 _ _)
theorem Step.kept (hk : ∀ b, b < w.heap.size → w'.heap[b]? = w.heap[b]?) (hs : w.heap.size ≤ w'.heap.size) (h1 : w'.os = w.os) (h2 : w'.output = w.output) (h3 : ∀ a : Addr, w.frozen? a = false → w'.frozen? a = false) : Step I μ H w I μ H w' :=
 ⟨aR.le_refl _, Mu.le_refl _, Nat.le_refl _, hs, fun b hb _ => hk b hb, fun _ h => h.elim .inl fun h => .inr (.inl h), h1, h2, h3⟩
theorem Step.after (st : Step I μ H w I' μ' H' w') {b : Nat} (o : Obj) (hb : w.heap.size ≤ b) (hz : Obj.nf o := by first | exact nW _ _ | exact mj rfl) : Step I μ H w I' μ' H' (fJ w' b o) :=
 ⟨st.le, st.mu, st.len, by rw [qD]; exact st.size, fun b' hb' hn => by rw [e_ o (by omega)]; exact st.frame b' hb' hn, st.terr, st.os, st.out, fun a ha => Kk hz a (st.fz a ha)⟩
theorem gp.uN {ds : List Deferred} (h : gp B ds w) {b : Nat} {o : Obj} (hn : ∀ r, w.heap[r]? = some (.deferred (some [])) → r ≠ b) : gp B ds (fJ w b o) :=
 ⟨fun d hd => by
  obtain ⟨r, h1, h2, h3⟩ := h.all d hd
  exact ⟨r, h1, h2, by rw [e_ o (hn r h3)]; exact h3⟩, h.apart⟩
theorem CI {step : Frame → ao → Option (Out × Frame × ao)} {c : Code} {ro : Option Nat} {o : Out}
 (hstep : ∀ I μ F H a w o F' H', step F H = some (o, F', H') → dF I μ n F a.tmps → bM I μ H w → gp B a.defers w → B ≤ w.heap.size → c.wpIn (fr ro) 0 P (Post B n I μ H w o F' H') a w)
 {k : Nat} (h : lG step k F H = some (o, F', H')) (r : dF I μ n F a.tmps) (s : bM I μ H w) (m : gp B a.defers w) (hB : B ≤ w.heap.size) :
 (Code.loop c).wpIn (fr ro) 0 P (Post B n I μ H w o F' H') a w := by
 let Inv : Nat → Act → World → Prop := fun k a' w' => ∃ I1 μ1 F1 H1, lG step k F1 H1 = some (o, F', H') ∧ dF I1 μ1 n F1 a'.tmps ∧ bM I1 μ1 H1 w' ∧ Step I μ H w I1 μ1 H1 w' ∧ gp B a'.defers w' ∧ B ≤ w'.heap.size
 let M : Act → World → Nat := fun a' w' => least (fun k => Inv k a' w')
 have hM : ∀ k a' w', Inv k a' w' → Inv (M a' w') a' w' ∧ M a' w' ≤ k := fun k a' w' hi => CK (fun k => Inv k a' w') hi
 refine wpIn_loop (fun a' w' => ∃ k, Inv k a' w') M ⟨k, I, μ, F, H, h, r, s, .refl _ _ _ _, m, hB⟩ ?_
 rintro a1 w1 ⟨k1, hk1⟩
 obtain ⟨hi, _⟩ := hM k1 a1 w1 hk1
 generalize hk : M a1 w1 = kk at hi
 obtain ⟨I1, μ1, F1, H1, hl, r1, s1, st1, m1, hB1⟩ := hi
 cases kk with
 | zero => simp [lG] at hl
 | succ kk =>
  simp only [lG] at hl
  split at hl
  ·rename_i F2 H2 hs2
   refine wpIn_mono (hstep I1 μ1 F1 H1 a1 w1 .norm F2 H2 hs2 r1 s1 m1 hB1) ?_
   rintro e a2 w2 ⟨rfl, ⟨I2, μ2, r2, s2, st2⟩, m2⟩
   show (∃ k, Inv k a2 w2) ∧ M a2 w2 < kk + 1
   have hinv : Inv kk a2 w2 := ⟨I2, μ2, F2, H2, hl, r2, s2, Step.trans s1 st1 st2, m2, Nat.le_trans hB1 st2.size⟩
   exact ⟨⟨kk, hinv⟩, Nat.lt_succ_of_le (hM kk a2 w2 hinv).2⟩
  ·rename_i hne
   refine wpIn_mono (hstep I1 μ1 F1 H1 a1 w1 o F' H' hl r1 s1 m1 hB1) ?_
   intro e a2 w2 hp
   have hon : o ≠ .norm := by
    rintro rfl
    exact hne F' H' hl
   obtain ⟨rfl, h2, h3⟩ := hp
   cases o with
   | norm => exact absurd rfl hon
   | exit id => exact Post.mono s1 st1 ⟨rfl, h2, h3⟩
   | ret => exact Post.mono s1 st1 ⟨rfl, h2, h3⟩
end
end Go.VE
namespace Go.VE
section
variable {P : Program} {E : Env} {I I' : aR} {μ μ' : Mu} {H H' : ao} {n B : Nat} {F F' : Frame} {a : Act} {w w' : World}
theorem uP (s : bM I μ H w) {id : Nat} {r : pL} (h : H[id]? = some (.loop r)) : ∃ p l, μ id = some p ∧ I p.b = none ∧ w.heap[p.b]? = some (.loop l) ∧ pM I μ r l := s.obs id _ h
theorem tJ {p : Option Out} (hp : p ≠ some .norm) : (p.bind gX = none → p.getD .norm = .norm) ∧ (∀ c, p.bind gX = some c → (c = .ret ∧ p.getD .norm = .ret) ∨ ∃ id, c = .exit id ∧ p.getD .norm = .exit id) := by
 cases p with
 | none => exact ⟨fun _ => rfl, by simp⟩
 | some o =>
  cases o with
  | norm => exact absurd rfl hp
  | ret => exact ⟨by simp [gX], by simp [gX]⟩
  | exit id => exact ⟨by simp [gX], by simp [gX]⟩
theorem BG {call : eB} (hc : jq P call) {g : Operand} {ps : Array Tmp} {assign body : Code} {o : Out} {lf : Nat}
 (h : exec E call lf false n (.rangeFunc g ps assign body) F H = some (o, F', H')) (r : dF I μ n F a.tmps) (s : bM I μ H w) (m : gp B a.defers w) (hB : B ≤ w.heap.size) :
 (Code.rangeFunc g ps assign body).wpIn (fr none) 0 P (Post B n I μ H w o F' H') a w := by
 cases hg : ev F g with
 | none => simp [exec, hg] at h
 | some gv =>
 cases gv with
 | clo f x y =>
  simp only [exec, hg] at h
  split at h
  ·rename_i res H2 hcall
   split at h
   ·rename_i r2 hr2
    have hnb : r2.st ≠ .busy ∧ r2.pend.getD .norm = o ∧ F = F' ∧ H2.set H.length .dead = H' := by
     split at h
     ·simp at h
     ·rename_i hst
      simp only [Option.some.injEq, Prod.mk.injEq] at h
      exact ⟨hst, h.1, h.2.1, h.2.2⟩
    obtain ⟨hnb, rfl, rfl, rfl⟩ := hnb
    obtain ⟨u, v, eg, hu, hv⟩ := (ck r hg).iT
    refine wpIn_rangeFunc fun fnn _ => ?_
    have hk1 : ∀ b, b < w.heap.size → (w.alloc (.deferred (some []))).heap[b]? = w.heap[b]? := fun b hb => jw _ b hb
    have s1 : bM I μ H (w.alloc (.deferred (some []))) := s.kept hk1
    have st1 : Step I μ H w I μ H (w.alloc (.deferred (some []))) := Step.kept hk1 (by simp) rfl rfl (I4 (mj rfl))
    have hlr : pM I μ ⟨.ready, none, F, n, ps.toList, assign, body⟩ { state := .ready, pending := none, fn := fnn, tmps := a.tmps, params := ps, assign, body, defers := w.heap.size } :=
     ⟨trivial, rfl, by simp, r, rfl, rfl, rfl⟩
    obtain ⟨s2, st2⟩ := s1.push (ob := .loop ⟨.ready, none, F, n, ps.toList, assign, body⟩)
     (o := .loop { state := .ready, pending := none, fn := fnn, tmps := a.tmps, params := ps, assign, body, defers := w.heap.size }) (p := ⟨w.heap.size + 1, 0, 0, 0⟩) (by simp)
     ⟨_, _, Mu.fA _ _ _, by have := s1.sC; simpa using this, by have := kD (w := w.alloc (.deferred (some []))) (.loop { state := .ready, pending := none, fn := fnn, tmps := a.tmps, params := ps, assign, body, defers := w.heap.size }); simpa using this,
      hlr.mono (aR.le_refl _) (Mu.lW (s1.dom _ (Nat.le_refl _)))⟩
    have hargs : bA I (μ.fK H.length ⟨w.heap.size + 1, 0, 0, 0⟩) (x ++ .yld H.length :: y) (u.toList ++ .func (.yield (w.heap.size + 1)) #[] #[] :: v.toList) :=
     (hu.mono (aR.le_refl _) st2.mu).append (.cons (.yld H.length ⟨w.heap.size + 1, 0, 0, 0⟩ (Mu.fA _ _ _)) (hv.mono (aR.le_refl _) st2.mu))
    obtain ⟨hf, hcalls⟩ := hc.fn f _ _ _ _ hcall
    refine ⟨w.heap.size + 1, [{ target := .collected w.heap.size, args := #[] }], ((w.alloc (.deferred (some []))).alloc (.loop { state := .ready, pending := none, fn := fnn, tmps := a.tmps, params := ps, assign, body, defers := w.heap.size })), { target := .fn (.func f) v, args := u ++ #[.func (.yield (w.heap.size + 1)) #[] #[]] }, ((w.alloc (.deferred (some []))).alloc (.loop { state := .ready, pending := none, fn := fnn, tmps := a.tmps, params := ps, assign, body, defers := w.heap.size })), f, u ++ #[.func (.yield (w.heap.size + 1)) #[] #[]] ++ v, ((w.alloc (.deferred (some []))).alloc (.loop { state := .ready, pending := none, fn := fnn, tmps := a.tmps, params := ps, assign, body, defers := w.heap.size })),
     run_enterLoop_outer fnn a.tmps ps assign body, ?_, fun _ _ => trivial, ?_, fun h => by simp [fr] at h, ?_⟩
    ·simp only [resolve]
     rw [eg]
     simp [Deferred.ofValue, Act.eval]
    ·simp only [invoke]
     exact vi hf _
    ·have hc2 := hcalls _ _ _ _ s2 hargs
     have eargs : (u.toList ++ .func (.yield (w.heap.size + 1)) #[] #[] :: v.toList).toArray = u ++ #[.func (.yield (w.heap.size + 1)) #[] #[]] ++ v := by apply Array.ext'; simp
     rw [eargs] at hc2
     refine hc2.mono ?_
     rintro e w3 ⟨res', I3, μ3, rfl, _, s3, st3⟩
     obtain ⟨p, l, g1, g2, g3, g4⟩ := uP s3 hr2
     have hp : p = ⟨w.heap.size + 1, 0, 0, 0⟩ := by
      have := st3.mu _ _ (Mu.fA μ H.length ⟨w.heap.size + 1, 0, 0, 0⟩)
      rw [g1] at this; cases this; rfl
     subst hp
     have hnbusy : l.state ≠ .busy := by
      intro he
      have := g4.st
      rw [he] at this
      cases hst : r2.st <;> rw [hst] at this <;> simp [vo.is] at this
      exact hnb hst
     refine ⟨l.pending, _, run_endLoop g3 hnbusy, ?_⟩
     obtain ⟨s4, st4⟩ := s3.kill hr2
     have hnown : ¬ gj μ3 (H2.set H.length .dead) (w.heap.size + 1) := by
      rintro ⟨id, q, ob, h1, h2, h3, h4⟩
      by_cases e : id = H.length
      ·subst e
       rw [List.getElem?_set_self (List.getElem?_eq_some_iff.1 hr2).1] at h1
       cases h1; simp [Ob.live] at h2
      ·rw [List.getElem?_set_ne (Ne.symm e)] at h1
       exact e (s3.inj id H.length ob _ q _ h1 hr2 h2 rfl h3 g1 h4)
     have s5 : bM I3 μ3 (H2.set H.length .dead) (fJ w3 (w.heap.size + 1) (.loop { l with state := .exhausted })) := s4.uN _ g2 hnown
     have st : Step I μ H w I3 μ3 (H2.set H.length .dead) w3 := Step.trans s1 st1 (Step.trans s2 st2 (Step.trans s3 st3 st4))
     have st5 : Step I μ H w I3 μ3 (H2.set H.length .dead) (fJ w3 (w.heap.size + 1) (.loop { l with state := .exhausted })) := st.after _ (by omega)
     have m2 : gp B ({ target := .collected w.heap.size, args := #[] } :: a.defers) ((w.alloc (.deferred (some []))).alloc (.loop { state := .ready, pending := none, fn := fnn, tmps := a.tmps, params := ps, assign, body, defers := w.heap.size })) := by
      refine ⟨?_, ?_⟩
      ·intro d hd
       rcases List.mem_cons.1 hd with rfl | hd
       ·refine ⟨w.heap.size, rfl, hB, ?_⟩
        rw [jw _ _ (by simp)]; exact kD _
       ·obtain ⟨q, h1, h2, h3⟩ := m.all d hd
        have hq := (Array.getElem?_eq_some_iff.1 h3).1
        refine ⟨q, h1, h2, ?_⟩
        rw [jw _ _ (by simp; omega), jw _ _ hq]; exact h3
      ·refine List.Pairwise.cons ?_ m.apart
       intro d hd q hq hq'
       obtain ⟨q2, h1, h2, h3⟩ := m.all d hd
       have := (Array.getElem?_eq_some_iff.1 h3).1
       cases hq
       rw [h1] at hq'; cases hq'
       omega
     have m3 := m2.step s2 st3
     have m5 : gp B ({ target := .collected w.heap.size, args := #[] } :: a.defers) (fJ w3 (w.heap.size + 1) (.loop { l with state := .exhausted })) :=
      m3.uN (fun q hq e => by subst e; rw [g3] at hq; cases hq)
     have hle : aR.le I I3 := st.le
     have hmu : Mu.le μ μ3 := st.mu
     have hpost : ∀ oo : Out, r2.pend.getD .norm = oo → Post B n I μ H w oo F (H2.set H.length .dead) oo.AG { a with defers := [{ target := .collected w.heap.size, args := #[] }] ++ a.defers } (fJ w3 (w.heap.size + 1) (.loop { l with state := .exhausted })) :=
      fun oo _ => ⟨rfl, ⟨I3, μ3, r.mono hle hmu, s5, st5⟩, m5⟩
     obtain ⟨k1, k2⟩ := tJ g4.pendOk
     obtain ⟨W5, hW5⟩ : ∃ W5, w3.putObj (w.heap.size + 1) (.loop { l with state := .exhausted }) = W5 := ⟨_, rfl⟩
     have hpost : ∀ oo : Out, r2.pend.getD .norm = oo → Post B n I μ H w oo F (H2.set H.length .dead) oo.AG { a with defers := [{ target := .collected w.heap.size, args := #[] }] ++ a.defers } W5 := by
      intro oo ho; rw [← hW5]; exact hpost oo ho
     show match l.pending with
      | none => Post B n I μ H w (r2.pend.getD .norm) F (H2.set H.length .dead) .normal { a with defers := [{ target := .collected w.heap.size, args := #[] }] ++ a.defers } (w3.putObj (w.heap.size + 1) (.loop { l with state := .exhausted }))
      | some c => c.wpIn (fr none) 0 P (Post B n I μ H w (r2.pend.getD .norm) F (H2.set H.length .dead)) { a with defers := [{ target := .collected w.heap.size, args := #[] }] ++ a.defers } (w3.putObj (w.heap.size + 1) (.loop { l with state := .exhausted }))
     rw [hW5]
     obtain ⟨k1, k2⟩ := tJ g4.pendOk
     rw [g4.pend]
     cases hj : r2.pend.bind gX with
     | none => rw [k1 hj]; exact hpost .norm (k1 hj)
     | some c =>
      rcases k2 c hj with ⟨rfl, e⟩ | ⟨id, rfl, e⟩
      ·rw [e]; exact wpIn_ret (hpost .ret e)
      ·rw [e]; exact wpIn_exit (hpost (.exit id) e)
   ·simp at h
  ·simp at h
 | _ => simp [exec, hg] at h
theorem sg (hE : eA P E) (hm : P.follows .mixedOrders = true) {call : eB} (hc : jq P call) (lf : Nat) (ro : Option Nat) (rb : Bool) (hro : rb = ro.isSome) (n : Nat) :
 ∀ (c : Code) (I : aR) (μ : Mu) (F : Frame) (H : ao) (a : Act) (w : World) (o : Out) (F' : Frame) (H' : ao), exec E call lf rb n c F H = some (o, F', H') → dF I μ n F a.tmps → bM I μ H w →
  gp B a.defers w → B ≤ w.heap.size → c.wpIn (fr ro) 0 P (Post B n I μ H w o F' H') a w := by
 intro c
 induction c with
 | skip =>
  intro I μ F H a w o F' H' h r s m _
  simp only [exec, Option.some.injEq, Prod.mk.injEq] at h
  obtain ⟨rfl, rfl, rfl⟩ := h
  exact wpIn_skip ⟨rfl, ⟨I, μ, r, s, .refl _ _ _ _⟩, m⟩
 | label l =>
  intro I μ F H a w o F' H' h r s m _
  simp only [exec, Option.some.injEq, Prod.mk.injEq] at h
  obtain ⟨rfl, rfl, rfl⟩ := h
  exact wpIn_label ⟨rfl, ⟨I, μ, r, s, .refl _ _ _ _⟩, m⟩
 | region id ops draw =>
  intro I μ F H a w o F' H' h r s m _
  simp only [exec, Option.map_eq_some_iff, Prod.mk.injEq] at h
  obtain ⟨⟨F2, H2⟩, h, rfl, rfl, rfl⟩ := h
  refine Bi hE hm hc ro h r s (fun a' I' μ' w' h1 h2 h3 h4 => ⟨rfl, ⟨I', μ', h1, h3, h4⟩, ?_⟩)
  rw [h2]; exact m.step s h4
 | seq x y ihx ihy =>
  intro I μ F H a w o F' H' h r s m hB
  simp only [exec] at h
  refine wpIn_seq ?_
  split at h
  ·rename_i F1 H1 h1
   refine wpIn_mono (ihx I μ F H a w _ F1 H1 h1 r s m hB) ?_
   rintro e a1 w1 ⟨rfl, ⟨I1, μ1, r1, s1, st1⟩, m1⟩
   show y.wpIn (fr ro) 0 P _ a1 w1
   refine wpIn_mono (ihy I1 μ1 F1 H1 a1 w1 o F' H' h r1 s1 m1 (Nat.le_trans hB st1.size)) ?_
   intro e a2 w2 hp
   exact Post.mono s1 st1 hp
  ·rename_i hne
   refine wpIn_mono (ihx I μ F H a w o F' H' h r s m hB) ?_
   rintro e a1 w1 ⟨rfl, h2, h3⟩
   cases o with
   | norm => exact absurd h (hne F' H')
   | exit id => exact ⟨rfl, h2, h3⟩
   | ret => exact ⟨rfl, h2, h3⟩
 | cond c x y ihx ihy =>
  intro I μ F H a w o F' H' h r s m hB
  simp only [exec] at h
  split at h
  ·rename_i t hct
   have hcv := (ck r hct).me
   refine wpIn_cond hcv ?_
   cases t with
   | true => simp only [if_true] at h ⊢; exact ihx I μ F H a w o F' H' h r s m hB
   | false => simp only [Bool.false_eq_true, if_false] at h ⊢; exact ihy I μ F H a w o F' H' h r s m hB
  ·simp at h
 | block id c ih =>
  intro I μ F H a w o F' H' h r s m hB
  simp only [exec] at h
  refine wpIn_block ?_
  split at h
  ·rename_i id' F1 H1 h1
   refine wpIn_mono (ih I μ F H a w _ F1 H1 h1 r s m hB) ?_
   rintro e a1 w1 ⟨rfl, h2, h3⟩
   show Exit.inBlock id _ (.exit id') a1 w1
   unfold Exit.inBlock
   split at h
   ·rename_i he
    simp only [Option.some.injEq, Prod.mk.injEq] at h
    obtain ⟨rfl, rfl, rfl⟩ := h
    simp only [he, if_true]
    exact ⟨rfl, h2, h3⟩
   ·rename_i he
    simp only [Option.some.injEq, Prod.mk.injEq] at h
    obtain ⟨rfl, rfl, rfl⟩ := h
    simp only [he, if_false]
    exact ⟨rfl, h2, h3⟩
  ·rename_i hne
   refine wpIn_mono (ih I μ F H a w o F' H' h r s m hB) ?_
   rintro e a1 w1 ⟨rfl, h2, h3⟩
   cases o with
   | norm => exact ⟨rfl, h2, h3⟩
   | exit id' => exact absurd h (hne id' F' H')
   | ret => exact ⟨rfl, h2, h3⟩
 | loop c ih =>
  intro I μ F H a w o F' H' h r s m hB
  simp only [exec] at h
  exact CI (fun I μ F H a w o F' H' h r s m hB => ih I μ F H a w o F' H' h r s m hB) h r s m hB
 | rangeFunc g ps assign body _ _ =>
  intro I μ F H a w o F' H' h r s m hB
  cases rb with
  | true => simp [exec] at h
  | false =>
   cases ro with
   | none => exact BG hc h r s m hB
   | some l => simp at hro
 | exit id =>
  intro I μ F H a w o F' H' h r s m _
  simp only [exec, Option.some.injEq, Prod.mk.injEq] at h
  obtain ⟨rfl, rfl, rfl⟩ := h
  exact wpIn_exit ⟨rfl, ⟨I, μ, r, s, .refl _ _ _ _⟩, m⟩
 | ret =>
  intro I μ F H a w o F' H' h r s m _
  simp only [exec, Option.some.injEq, Prod.mk.injEq] at h
  obtain ⟨rfl, rfl, rfl⟩ := h
  exact wpIn_ret ⟨rfl, ⟨I, μ, r, s, .refl _ _ _ _⟩, m⟩
 | scope body _ => intro I μ F H a w o F' H' h; simp [exec] at h
 | goto l => intro I μ F H a w o F' H' h; simp [exec] at h
 | refuse why => intro I μ F H a w o F' H' h; simp [exec] at h
end
end Go.VE
namespace Go.VE
section
variable {P : Program} {E : Env} {I I' : aR} {μ μ' : Mu} {H H' : ao} {n B : Nat} {F F' : Frame} {a : Act} {w w' : World}
theorem Ca : ∀ (F : Frame) (t : Nat), F.length ≤ t → get F t = .undef
 | [], _, _ => rfl
 | _ :: _, 0, h => by simp at h
 | _ :: r, i + 1, h => Ca r i (by simpa using h)
theorem Bg : ∀ (F : Frame) (t : Nat) (x : V), F[t]? = some x → get F t = x
 | [], _, _, h => by simp at h
 | _ :: _, 0, _, h => by simpa [get] using h
 | _ :: r, i + 1, x, h => Bg r i x (by simpa using h)
theorem Di {args : List V} {vs : List Value} {nt : Nat} (h : bA I μ args vs) (hl : args.length ≤ nt) :
 dF I μ nt args (vs.toArray ++ Array.replicate (nt - vs.toArray.size) undef) := by
 have hlen : args.length = vs.length := h.1
 refine ⟨by simp; omega, fun t => ?_⟩
 by_cases ht : t < args.length
 ·have h1 : args[t]? = some args[t] := by simp [ht]
  have ht' : t < vs.length := by omega
  have h2 : vs[t]? = some vs[t] := by simp [ht']
  rw [Bg _ _ _ h1]
  have : (vs.toArray ++ Array.replicate (nt - vs.toArray.size) undef).getD t undef = vs[t] := by
   rw [Array.getD_eq_getD_getElem?, Array.getElem?_append_left (by simpa using ht')]
   simp [ht']
  rw [this]
  exact h.2 t _ _ h1 h2
 ·rw [Ca _ _ (by omega)]
  have : (vs.toArray ++ Array.replicate (nt - vs.toArray.size) undef).getD t undef = undef := by
   rw [Array.getD_eq_getD_getElem?, Array.getElem?_append_right (by simp; omega), Array.getElem?_replicate]
   split <;> rfl
  rw [this]
  exact aD.undef _ _
theorem GD (r : dF I μ n F a.tmps) {t : Nat} {x : V} {v : Value} (ht : t < n) (h : aD I μ x v) : dF I μ n (set F t x) (a.tmps.setIfInBounds t v) := by
 have := dF.put (a := a) (dst := some t) r h (F' := set F t x) (by simp [iu, ht])
 simpa [Act.put] using this
theorem vw : ∀ (ps : List Nat) (xs : List V) (vs : List Value) (F : Frame) (tmps : Array Value), dF I μ n F tmps → bA I μ xs vs → ps.all (· < n) = true →
 dF I μ n (oI ps xs F) ((ps.zip vs).foldl (fun tmps (t, a) => tmps.setIfInBounds t a) tmps)
 | [], _, _, F, tmps, r, _, _ => by simpa [oI] using r
 | t :: ps, [], [], F, tmps, r, _, _ => by simpa [oI] using r
 | t :: ps, [], v :: vs, F, tmps, r, h, _ => by have := h.1; simp at this
 | t :: ps, x :: xs, [], F, tmps, r, h, _ => by have := h.1; simp at this
 | t :: ps, x :: xs, v :: vs, F, tmps, r, h, hp => by
  simp only [List.all_cons, Bool.and_eq_true, decide_eq_true_eq] at hp
  have h0 : aD I μ x v := h.2 0 x v rfl rfl
  have ht : bA I μ xs vs := ⟨by have := h.1; simpa using this, fun j a b h1 h2 => h.2 (j + 1) a b (by simpa using h1) (by simpa using h2)⟩
  simp only [oI, List.zip_cons_cons, List.foldl_cons]
  exact vw ps xs vs _ _ (GD (a := { tmps := tmps, defers := [] }) r hp.1 h0) ht hp.2
theorem Bk {α β : Type} (g : α → Sem β) : ∀ (l : List α) (w : World) (bs : List β), bs.length = l.length → (∀ (j : Nat) x y, l[j]? = some x → bs[j]? = some y → (g x).run P w = .ok y w) → (l.mapM g).run P w = .ok bs w
 | [], w, [], _, _ => by simp
 | [], w, _ :: _, h, _ => by simp at h
 | _ :: _, w, [], h, _ => by simp at h
 | x :: l, w, y :: bs, h, hg => by
  rw [List.mapM_cons]
  have h0 := hg 0 x y rfl rfl
  have ht := Bk g l w bs (by simpa using h) (fun j a b h1 h2 => hg (j + 1) a b (by simpa using h1) (by simpa using h2))
  simp [Sem.run_bind, h0, ht, Result.andThen]
def Cp (tmps : Array Value) : ResultVar → Sem Value
 | .tmp t => pure (tmps.getD t undef)
 | .cell a t => do loadVar t (← asAddr (tmps.getD a undef))
theorem CD (fn : Func) (tmps : Array Value) : results fn tmps = (fn.results.mapM (Cp tmps) >>= fun vs => pure (if h : vs.size = 1 then vs[0] else .tuple vs)) := by
 unfold results
 congr 1
theorem CJ (hE : eA P E) {fn : Func} {tmps : Array Value} (r : dF I μ n F tmps) (s : bM I μ H w) {vs : List V} (h : gT E F H fn.results.toList = some vs) :
 ∃ u, (results fn tmps).run P w = .ok u w ∧ aD I μ (result vs) u := by
 have key : ∀ (l : List ResultVar) (vs : List V), gT E F H l = some vs → ∃ us : List Value, us.length = l.length ∧ bA I μ vs us ∧
  ∀ (j : Nat) x y, l[j]? = some x → us[j]? = some y → (Cp tmps x).run P w = .ok y w := by
  intro l
  induction l with
  | nil => intro vs h; simp [gT] at h; subst h; exact ⟨[], rfl, .nil, by simp⟩
  | cons x l ih =>
   intro vs h
   cases x with
   | tmp t =>
    simp only [gT, Option.map_eq_some_iff] at h
    obtain ⟨vs', h, rfl⟩ := h
    obtain ⟨us, h1, h2, h3⟩ := ih vs' h
    refine ⟨tmps.getD t undef :: us, by simp [h1], .cons (r.2 t) h2, ?_⟩
    intro j x y hx hy
    cases j with
    | zero => simp at hx hy; subst hx; subst hy; simp [Cp]
    | succ j => exact h3 j x y (by simpa using hx) (by simpa using hy)
   | cell p t =>
    simp only [gT] at h
    split at h
    ·rename_i d vs' hd hvs
     simp only [Option.map_eq_some_iff] at h
     obtain ⟨v, hv, rfl⟩ := h
     obtain ⟨us, h1, h2, h3⟩ := ih vs' hvs
     obtain ⟨u, _, hu, ad, had, hload⟩ := xG hE s hd (r.2 p) hv
     refine ⟨u :: us, by simp [h1], .cons hu h2, ?_⟩
     intro j x y hx hy
     cases j with
     | zero =>
      simp only [List.getElem?_cons_zero, Option.some.injEq] at hx hy; subst hx; subst hy
      have e : (do loadVar t (← asAddr (tmps.getD p undef)) : Sem Value).run P w = (loadVar t ad).run P w := by rw [Sem.run_bind, had]; rfl
      exact e.trans hload
     | succ j => exact h3 j x y (by simpa using hx) (by simpa using hy)
    ·simp at h
 obtain ⟨us, h1, h2, h3⟩ := key _ _ h
 have hm := Bk (P := P) _ fn.results.toList w us h1 h3
 have hA : (fn.results.mapM (Cp tmps)).run P w = .ok us.toArray w := by
  rw [Array.mapM_eq_mapM_toList]
  rw [← bind_pure_comp, Sem.run_bind, hm]
  rfl
 have hsz : us.length = vs.length := h2.1.symm
 rw [CD, Sem.run_bind, hA]
 simp only [Result.andThen]
 by_cases hone : us.length = 1
 ·obtain ⟨u, rfl⟩ := List.length_eq_one_iff.1 hone
  obtain ⟨v, rfl⟩ := List.length_eq_one_iff.1 (hsz ▸ hone)
  exact ⟨u, by simp, by simpa [result] using h2.2 0 v u rfl rfl⟩
 ·refine ⟨.tuple us.toArray, by simp [hone], ?_⟩
  have hr : result vs = .tup vs := by
   match vs, hsz with
   | [], _ => rfl
   | [_], h => exact absurd h hone
   | _ :: _ :: _, _ => rfl
  rw [hr]
  exact .tup _ _ (by simpa using h2.1) (by simpa using h2.2)
theorem D_ (hE : eA P E) {fn : Func} {tmps : Array Value} {vs : List V} (h : gT E F H' fn.results.toList = some vs) (hB : w.heap.size ≤ B) : ∀ (ds : List Deferred) (w' : World),
 dF I' μ' n F tmps → bM I' μ' H' w' → Step I μ H w I' μ' H' w' → gp B ds w' →
 LeavesInM (fr none) 0 P fn tmps (ua I μ H w (result vs) H') ds .returning w' := by
 intro ds
 induction ds with
 | nil =>
  intro w' r s st m
  obtain ⟨u, hu, hv⟩ := CJ hE r s h
  exact ⟨u, hu, u, I', μ', rfl, hv, s, st⟩
 | cons d ds ih =>
  intro w' r s st m
  obtain ⟨q, h1, h2, h3⟩ := m.all d (by simp)
  refine ⟨by simp, .inl ⟨q, _, h1, run_takeDeferred h3, ?_⟩⟩
  have hown := oG s h3
  have hI := HU s h3 (by simp) (by simp)
  have m' : gp B ds w' := ⟨fun d hd => m.all d (List.mem_cons_of_mem _ hd), (List.pairwise_cons.1 m.apart).2⟩
  refine ih (fJ w' q (.deferred none)) r (s.uN _ hI hown) (st.after _ (by omega)) ⟨fun d' hd' => ?_, m'.apart⟩
  obtain ⟨q', g1, g2, g3⟩ := m'.all d' hd'
  refine ⟨q', g1, g2, ?_⟩
  rw [e_ _ ?_]; exact g3
  rintro rfl
  exact (List.pairwise_cons.1 m.apart).1 d' hd' _ h1 g1
theorem yJ (o : Out) : (gX o).isNone = (o == .norm) := by
 cases o <;> simp [gX] <;> rfl
theorem E7 (hE : eA P E) (hm : P.follows .mixedOrders = true) : ∀ n, jq P (run E n) := by
 intro n
 induction n with
 | zero => exact ⟨fun _ _ _ _ _ h => by simp [run] at h, fun _ _ _ _ _ h => by simp [run] at h⟩
 | succ n ihn =>
  constructor
  ·intro f args H r H' h
   simp only [run] at h
   split at h
   ·rename_i fi hfi
    obtain ⟨fn, hf, hb, hnt, hres, hname⟩ := hE.ft f fi hfi
    refine ⟨⟨fn, hf, by simp [hb], hname⟩, ?_⟩
    intro I μ w vs s hv
    split at h
    ·rename_i hlen
     have main : ∀ o F' H2 rs, exec E (run E n) n false fi.ntmps fi.body args H = some (o, F', H2) → (∀ id, o ≠ .exit id) → gT E F' H2 fi.results = some rs → CallsIn (fr none) 0 P f vs.toArray w (ua I μ H w (result rs) H2) := by
      intro o F' H2 rs hx hne hr
      refine callsIn_of_wp_marks hf hb trivial ?_
      rw [hnt]
      have r0 := Di hv hlen
      have := sg (B := w.heap.size) hE hm ihn n none false rfl fi.ntmps fi.body I μ args H { tmps := vs.toArray ++ Array.replicate (fi.ntmps - vs.toArray.size) undef, defers := [] } w o F' H2 hx r0 s ⟨by simp, .nil⟩ (Nat.le_refl _)
      refine wpIn_mono this ?_
      rintro e a1 w1 ⟨rfl, ⟨I1, μ1, r1, s1, st1⟩, m1⟩
      have hl := D_ (n := fi.ntmps) hE (fn := fn) (by rw [hres]; exact hr) (Nat.le_refl _) a1.defers w1 r1 s1 st1 m1
      cases o with
      | norm => exact hl
      | ret => exact hl
      | exit id => exact absurd rfl (hne id)
     split at h
     ·simp at h
     ·rename_i o F' H2 hne hx
      simp only [Option.map_eq_some_iff, Prod.mk.injEq] at h
      obtain ⟨rs, hr, rfl, rfl⟩ := h
      exact main o F' H2 rs hx (fun id e => hne id (by rw [e])) hr
     ·simp at h
    ·simp at h
   ·simp at h
  ·intro id args H r H' h I μ w vs p s hv hp
   simp only [run] at h
   split at h
   ·rename_i rec hrec
    split at h
    ·rename_i hst
     split at h
     ·rename_i hlen
      split at h
      ·rename_i F2 H2 hx1
       split at h
       ·rename_i r2 hr2
        split at h
        ·rename_i hst2
         split at h
         ·rename_i o F4 H4 hx2
          split at h
          ·rename_i r4 hr4
           simp only [Option.some.injEq, Prod.mk.injEq] at h
           obtain ⟨rfl, rfl⟩ := h
           obtain ⟨q, l, g1, g2, g3, g4⟩ := uP s hrec
           rw [hp] at g1; cases g1
           have hps : l.params.size = rec.params.length := by have := congrArg List.length g4.params; simpa using this
           have hsz : vs.toArray.size = l.params.size := by
            rw [hps, ← hlen.1]; simpa using hv.1.symm
           refine ⟨p.b, l.fn, _, l.assign, l.body, run_yield g3 hsz, ?_⟩
           refine roundIn_of_wpIn trivial ?_
           have hfold : (l.params.zip vs.toArray).foldl (fun tmps (x : Tmp × Value) => tmps.setIfInBounds x.1 x.2) l.tmps = (rec.params.zip vs).foldl (fun tmps (x : Tmp × Value) => tmps.setIfInBounds x.1 x.2) l.tmps := by
            rw [← Array.foldl_toList, Array.toList_zip, g4.params]
           have r0 := vw rec.params args vs rec.frame l.tmps g4.frame hv hlen.2
           rw [← hfold] at r0
           have w1 := sg (B := w.heap.size) hE hm ihn n (some p.b) true rfl rec.nt rec.assign I μ _ H { tmps := _, defers := [] } w _ _ _ hx1 r0 s ⟨by simp, .nil⟩ (Nat.le_refl _)
           rw [g4.assign, g4.body]
           refine wpIn_mono w1 ?_
           rintro e a1 w1 ⟨rfl, ⟨I1, μ1, r1, s1, st1⟩, m1⟩
           obtain ⟨q, l2, k1, k2, k3, k4⟩ := uP s1 hr2
           rw [st1.mu _ _ hp] at k1; cases k1
           have hready : l2.state = .ready := by
            have := k4.st; rw [hst2] at this
            cases hl : l2.state <;> rw [hl] at this <;> simp [vo.is] at this
           refine ⟨_, run_beginRound k3 hready, ?_⟩
           have hp1 : μ1 id = some p := st1.mu _ _ hp
           obtain ⟨s2, st2⟩ := s1.write (o := .loop { l2 with state := .busy }) (ob' := .loop { r2 with st := .busy }) hr2 rfl hp1
            ⟨p, { l2 with state := .busy }, hp1, k2, gQ _ (Array.getElem?_eq_some_iff.1 k3).1, ⟨trivial, k4.pend, k4.pendOk, k4.frame, k4.params, k4.assign, k4.body⟩⟩
           have st12 := Step.trans s1 st1 st2
           have m2 : gp w.heap.size a1.defers (fJ w1 p.b (.loop { l2 with state := .busy })) := m1.step s1 st2
           have w2 := sg (B := w.heap.size) hE hm ihn n (some p.b) true rfl rec.nt rec.body I1 μ1 F2 _ a1 (fJ w1 p.b (.loop { l2 with state := .busy })) o F4 H4 hx2 r1 s2 m2 (by rw [qD]; exact st1.size)
           refine wpIn_mono w2 ?_
           rintro e a3 w3 ⟨rfl, ⟨I3, μ3, r3, s3, st3⟩, m3⟩
           obtain ⟨q, l4, j1, j2, j3, j4⟩ := uP s3 hr4
           rw [st3.mu _ _ hp1] at j1; cases j1
           have hp3 : μ3 id = some p := st3.mu _ _ hp1
           have fin : ∃ v w', (Instr.endRound p.b (gX o)).run P w3 = .ok v w' ∧ ua I μ H w (.bool (o == .norm)) (H4.set id (.loop { r4 with st := (if o == .norm then .ready else .done), pend := (if o == .norm then none else some o) })) (.returned v) w' := by
            refine ⟨_, _, run_endRound (gX o) j3, ?_⟩
            obtain ⟨s4, st4⟩ := s3.write (o := .loop { l4 with state := if (gX o).isNone then .ready else .done, pending := gX o }) (ob' := .loop { r4 with st := (if o == .norm then .ready else .done), pend := (if o == .norm then none else some o) }) hr4 rfl hp3
             ⟨p, { l4 with state := if (gX o).isNone then .ready else .done, pending := gX o }, hp3, j2, gQ _ (Array.getElem?_eq_some_iff.1 j3).1, ⟨by cases o <;> exact trivial, by cases o <;> rfl, by cases o <;> simp, j4.frame, j4.params, j4.assign, j4.body⟩⟩
            refine ⟨_, I3, μ3, rfl, ?_, s4, Step.trans s1 st1 (Step.trans s2 st2 (Step.trans s3 st3 st4))⟩
            rw [yJ]
            exact .c _ _ (.bool _)
           cases o with
           | norm => exact fin
           | ret => exact fin
           | exit id => exact fin
          ·simp at h
         ·simp at h
        ·simp at h
       ·simp at h
      ·simp at h
     ·simp at h
    ·simp at h
   ·simp at h
end
end Go.VE
namespace Go.VE
variable {P : Program}
theorem mh.MW {t : TypeId} {d : TD} (h : aA P t = some d) : mh P t d :=
 eA.ty (E := { tt := aA P, ft := fun _ => none, keep := fun _ => false, own := fun _ => false, eqN := fun _ => none }) ⟨fun _ _ h => h, by simp, by simp⟩ h
theorem sS {i : TypeId} {cs : Array Value} {o : Nat} {v : Value} {w : World} (hi : aA P i = some ⟨1, 8, [.int .i64 0], .int .i64⟩) (h : cs[o]? = some v) : (part i cs o).run P w = .ok v w := by
 unfold part
 simp [Sem.run_bind, (mh.MW hi).CZ, Result.andThen, TD.agg, h]
theorem nM {a : List Int} (h : a.length = 2) : ∃ x y, a = [x, y] := by
 match a, h with
 | [x, y], _ => exact ⟨x, y, rfl⟩
theorem Bo (d : Nat) (e : Bool) {i : TypeId} (x : Int) {w : World} (hui : P.underlying i = some (.int .i64)) : (Instr.checkKey e (d + 1) i (.int .i64 x)).run P w = .ok () w := by
 simp only [Instr.checkKey, Sem.run_bind, dm hui, Result.andThen_ok, Sem.run_pure]
theorem AB (d : Nat) (e : Bool) {t i : TypeId} {f g : Field} (x y : Int) {w : World} (hu : P.underlying t = some (.struct #[f, g])) (hf : f.type = i) (hg : g.type = i) (of : f.offset = 0) (og : g.offset = 1) (nf : f.name ≠ "_") (ng : g.name ≠ "_")
 (hi : aA P i = some ⟨1, 8, [.int .i64 0], .int .i64⟩) (hui : P.underlying i = some (.int .i64)) : (Instr.checkKey e (d + 1 + 1) t (.agg (ic [x, y]))).run P w = .ok () w := by
 have p0 : ∀ w, (part i (ic [x, y]) 0).run P w = .ok (.int .i64 x) w := fun w => sS hi rfl
 have p1 : ∀ w, (part i (ic [x, y]) 1).run P w = .ok (.int .i64 y) w := fun w => sS hi rfl
 have q : ∀ (x : Int) w, (Instr.checkKey e (d + 1) i (.int .i64 x)).run P w = .ok () w := fun x w => Bo d e x hui
 unfold Instr.checkKey
 simp only [Sem.run_bind, dm hu, Result.andThen_ok]
 rw [← Array.forIn_toList]
 simp only [List.forIn_cons, List.forIn_nil, Sem.run_bind, hf, hg, of, og, nf, ng, ne_eq, not_false_eq_true, if_true, p0, p1, q, Result.andThen_ok, Sem.run_pure]
theorem vA.two {t i : TypeId} {f g : Field} (hu : P.underlying t = some (.struct #[f, g])) (hf : f.type = i) (hg : g.type = i) (of : f.offset = 0) (og : g.offset = 1) (nf : f.name ≠ "_") (ng : g.name ≠ "_")
 (hi : aA P i = some ⟨1, 8, [.int .i64 0], .int .i64⟩) (hui : P.underlying i = some (.int .i64)) (hs : P.stoodInHeld t = false) (hq : P.eqGuardType P.depth t = false) : vA P t 2 := by
 have hfo : P.fieldsOf t = #[f, g] := by unfold Program.fieldsOf; rw [hu]
 have heq : ∀ (w : World) (x y z u : Int), (Op.equal t (.agg (ic [x, y])) (.agg (ic [z, u]))).run P w = .ok ([x, y] == [z, u]) w := by
  intro w x y z u
  show (Op.equalIn (9999 + 1) t _ _).run P w = _
  rw [run_equalIn_struct w 9999 t _ _ (by rw [hfo]; exact hu) hs, hfo]
  have p0 : ∀ (x y : Int) w, (part i (ic [x, y]) 0).run P w = .ok (.int .i64 x) w := fun x y w => sS hi rfl
  have p1 : ∀ (x y : Int) w, (part i (ic [x, y]) 1).run P w = .ok (.int .i64 y) w := fun x y w => sS hi rfl
  have q : ∀ (x y : Int) w, (Op.equalIn 9999 i (.int .i64 x) (.int .i64 y)).run P w = .ok (x == y) w := fun x y w => BX 9998 x y hui
  simp only [Op.eqFields, hf, hg, of, og, nf, ng, ne_eq, not_false_eq_true, if_true, Sem.run_bind, p0, q, Result.andThen_ok]
  by_cases hxz : x = z
  ·by_cases hyu : y = u
   ·subst hxz; subst hyu
    simp [Sem.run_bind, p1, q, Result.andThen]
   ·subst hxz
    have : (y == u) = false := by simpa using hyu
    simp [Sem.run_bind, p1, q, Result.andThen, this]
  ·have : (x == z) = false := by simpa using hxz
   simp [this]
 have hg0 : ∀ (op : BinOp) (p q : Operand) (w : World) (u v : Array Value), (eqGuard op t p q (.agg u) (.agg v)).run P w = .ok () w := by
  intro op p q w u v
  unfold eqGuard
  cases op <;> simp [Sem.run_bind, run_program, Result.andThen, hq]
 refine ⟨?_, ?_, ?_, ?_, ⟨_, hu, .inr ⟨_, rfl⟩⟩⟩
 ·intro w p q a b ha hb
  obtain ⟨x, y, rfl⟩ := nM ha
  obtain ⟨z, u, rfl⟩ := nM hb
  rw [Sem.run_bind, hg0, Result.andThen_ok]
  show (do pure (Value.bool (← Op.equal t (.agg (ic [x, y])) (.agg (ic [z, u])))) : Sem Value).run P w = _
  rw [Sem.run_bind, heq]; rfl
 ·intro w p q a b ha hb
  obtain ⟨x, y, rfl⟩ := nM ha
  obtain ⟨z, u, rfl⟩ := nM hb
  rw [Sem.run_bind, hg0, Result.andThen_ok]
  show (do pure (Value.bool (!(← Op.equal t (.agg (ic [x, y])) (.agg (ic [z, u]))))) : Sem Value).run P w = _
  rw [Sem.run_bind, heq]; rfl
 ·intro w a b ha hb
  obtain ⟨x, y, rfl⟩ := nM ha
  obtain ⟨z, u, rfl⟩ := nM hb
  exact heq w x y z u
 ·intro w e a ha
  obtain ⟨x, y, rfl⟩ := nM ha
  exact AB 9998 e x y hu hf hg of og nf ng hi hui
def lk {α : Type} : List (Nat × α) → Nat → Option α
 | [], _ => none
 | (k, v) :: r, n => bif Nat.beq k n then some v else lk r n
theorem xw {α : Type} : ∀ {l : List (Nat × α)} {n : Nat} {v : α}, lk l n = some v → (n, v) ∈ l
 | [], _, _, h => by simp [lk] at h
 | (k, x) :: r, n, v, h => by
  simp only [lk] at h
  cases hk : Nat.beq k n with
  | true =>
   rw [hk] at h
   simp only [cond_true, Option.some.injEq] at h
   have := Nat.eq_of_beq_eq_true hk
   subst this; subst h; simp
  | false => rw [hk] at h; exact List.mem_cons_of_mem _ (xw h)
def aI (P : Program) (f : FuncId) (fi : FI) : Prop := ∃ fn, P.funcs[f]? = some fn ∧ fn.body = some fi.body ∧ fn.ntmps = fi.ntmps ∧ fn.results.toList = fi.results ∧ (fn.name == "runtime.NumGoroutine") = false
end Go.VE
namespace Go.VE
inductive KT where | bool | str | slice | ptr | map | int | other
 deriving DecidableEq
def TK.tag : TK → KT
 | .bool => .bool
 | .int _ => .int
 | .str => .str
 | .ptr _ => .ptr
 | .slice _ => .slice
 | .map .. => .map
 | _ => .other
def ke (k : KT) (x y : V) : Option Bool :=
 match k, x, y with
 | .slice, .au, .au => some true
 | .slice, .fsl .., .au => some false
 | .slice, .hsl .., .au => some false
 | .ptr, .bX, .bX => some true
 | .ptr, .fptr _, .bX => some false
 | .ptr, .hptr .., .bX => some false
 | .map, .fh, .fh => some true
 | .map, .fmap _, .fh => some false
 | .map, .hmap _, .fh => some false
 | _, _, _ => none
def mg (k : Option KT) (e : Option Nat) (op : BinOp) (x y : V) : Option V :=
 match x, y with
 | .int k a, .int k' b =>
  match op with
  | .shl => if b < 0 then none else some (.int k (k.wrap (a * 2 ^ (min b.toNat k.bits))))
  | .shr => if b < 0 then none else some (.int k (a.fdiv (2 ^ (min b.toNat k.bits))))
  | _ => if k = k' then
   match op with
   | .add => some (.int k (k.wrap (a + b)))
   | .sub => some (.int k (k.wrap (a - b)))
   | .mul => some (.int k (k.wrap (a * b)))
   | .quo => if b = 0 then none else some (.int k (k.wrap (a.tdiv b)))
   | .rem => if b = 0 then none else some (.int k (a.tmod b))
   | .and => some (.int k (k.wrap (BitVec.ofInt k.bits a &&& BitVec.ofInt k.bits b).toNat))
   | .or => some (.int k (k.wrap (BitVec.ofInt k.bits a ||| BitVec.ofInt k.bits b).toNat))
   | .xor => some (.int k (k.wrap (BitVec.ofInt k.bits a ^^^ BitVec.ofInt k.bits b).toNat))
   | .andNot => some (.int k (k.wrap (BitVec.ofInt k.bits a &&& ~~~ BitVec.ofInt k.bits b).toNat))
   | op => (tS op a b).map .bool
   else none
 | .str a, .str b =>
  match op with
  | .add => if ((a.size + b.size : Nat) : Int) > IntKind.i64.max then none else some (.str (a ++ b))
  | .eql => some (.bool (a.toList == b.toList))
  | .neq => some (.bool !(a.toList == b.toList))
  | .lss => some (.bool (Op.bytesLess a.toList b.toList))
  | .leq => some (.bool (Op.bytesLess a.toList b.toList || a.toList == b.toList))
  | .gtr => some (.bool !(Op.bytesLess a.toList b.toList || a.toList == b.toList))
  | .geq => some (.bool !(Op.bytesLess a.toList b.toList))
  | _ => none
 | .bool a, .bool b =>
  match k, op with
  | some .bool, .eql => some (.bool (a == b))
  | some .bool, .neq => some (.bool !(a == b))
  | _, _ => none
 | .agg a, .agg b =>
  match e, op with
  | some n, .eql => if a.length = n then (i5 a b).map .bool else none
  | some n, .neq => if a.length = n then (i5 a b).map (fun t => .bool !t) else none
  | _, _ => none
 | x, y =>
  match k, op with
  | some k, .eql => (ke k x y).map .bool
  | some k, .neq => (ke k x y).map fun t => .bool !t
  | _, _ => none
theorem Dh (k : TK) (x y : V) : oN k x y = ke k.tag x y := by
 cases k <;> cases y <;> (try rfl) <;> cases x <;> rfl
theorem Io (E : Env) (op : BinOp) (t : TypeId) (x y : V) : AQ E op t x y = mg ((E.cY t).map TK.tag) (E.eqN t) op x y := by
 unfold AQ
 split
 ·rfl
 ·rfl
 ·cases hk : E.cY t with
  | none => rfl
  | some k => cases k <;> cases op <;> rfl
 ·rfl
 ·rename_i h1 h2 h3 h4
  cases hk : E.cY t with
  | none => rw [mg.eq_29 _ _ _ _ _ h1 h2 h3 h4 (by simp) (by simp)]
  | some k =>
   simp only [Dh]
   cases op <;> first
    | exact (mg.eq_27 _ _ _ _ h1 h2 h3 h4).symm
    | exact (mg.eq_28 _ _ _ _ h1 h2 h3 h4).symm
    | (rw [mg.eq_29 _ _ _ _ _ h1 h2 h3 h4 (by simp) (by simp)])
inductive pU where
 | id | pick | nilc
 | bin (k : Option KT) (e : Option Nat) (op : BinOp)
 | not | neg
 | conv (k : IntKind)
 | fieldAddr (off : Nat)
 | field (off size : Nat) (agg : Bool)
 | idxS (size : Nat)
 | idxA (len size : Nat)
 | idxStr
 | idxArr (len size : Nat) (agg : Bool)
 | sliceStr (lo hi : Bool)
 | slice (size : Nat) (lo hi : Bool)
 | slice00
 | build (zero : List V) (pl : List (Nat × Nat))
 | clo (name : Nat) (k : Nat)
 | ext (i : Nat)
 | lenStr | lenSl | max | min
def Dt : V → Option V
 | .hptr id el off => some (.hptr id el off)
 | .fptr cs => some (.fptr cs)
 | .clo f a b => some (.clo f a b)
 | _ => none
def pq (off : Nat) : V → Option V
 | .fptr cs => if off ≤ cs.length then some (.fptr (cs.drop off)) else none
 | .hptr id el o => some (.hptr id el (o + off))
 | _ => none
def sH (size : Nat) (s : V) (n : Int) : Option V :=
 if n < 0 then none else match s with
 | .fsl es xs => if es = size then (xs[n.toNat]?).map .fptr else none
 | .hsl id es off len => if es = size ∧ n.toNat < len then some (.hptr id (off + n.toNat) 0) else none
 | _ => none
def qR (len size : Nat) (p : V) (n : Int) : Option V :=
 if 0 ≤ n ∧ n < len then match p with
  | .fptr cs => if n.toNat * size ≤ cs.length then some (.fptr (cs.drop (n.toNat * size))) else none
  | .hptr id el o => some (.hptr id el (o + n.toNat * size))
  | _ => none
 else none
def kF : Bool → Bool → List V → Option (Option Int × Option Int)
 | false, false, [] => some (none, none)
 | true, false, [.int _ l] => some (some l, none)
 | false, true, [.int _ h] => some (none, some h)
 | true, true, [.int _ l, .int _ h] => some (some l, some h)
 | _, _, _ => none
def jr (size : Nat) (v : V) (l h : Option Int) : Option V :=
 match v with
 | .fsl es xs => if es = size then (dR xs.length l h).map fun (l, h) => .fsl es ((xs.take h).drop l) else none
 | .hsl id es off len => if es = size then (dR len l h).map fun (l, h) => .hsl id es (off + l) (h - l) else none
 | .dZ => (dR 0 l h).map fun _ => .dZ
 | .au => (dR 0 l h).map fun _ => .au
 | _ => none
def CT : V → Bool
 | .fsl .. | .hsl .. | .dZ | .au => true
 | _ => false
def jf (cells : List V) : List (Nat × Nat) → List V → Option (List V)
 | [], [] => some cells
 | (off, size) :: pl, v :: vs =>
  if v.cells.length ≠ size || off + v.cells.length > cells.length then none
  else jf (cells.take off ++ v.cells ++ cells.drop (off + v.cells.length)) pl vs
 | _, _ => none
def xY : V → Option V
 | .fsl _ xs => some (.int .i64 xs.length)
 | .hsl _ _ _ len => some (.int .i64 len)
 | .dZ => some (.int .i64 0)
 | .au => some (.int .i64 0)
 | _ => none
def bh (N : Nat → FuncId) : pU → List V → Option V
 | .id, [x] => some x
 | .pick, [.bool t, a, b] => some (if t then a else b)
 | .nilc, [x] => Dt x
 | .bin k e op, [x, y] => mg k e op x y
 | .not, [.bool b] => some (.bool !b)
 | .neg, [.int k n] => some (.int k (k.wrap (0 - n)))
 | .conv k, [.int _ n] => some (.int k (k.wrap n))
 | .fieldAddr off, [p] => pq off p
 | .field off size agg, [.agg cs] => (cut cs off size).bind (mk agg)
 | .idxS size, [s, .int _ n] => sH size s n
 | .idxA len size, [p, .int _ n] => qR len size p n
 | .idxStr, [.str s, .int _ n] => if 0 ≤ n then (s[n.toNat]?).map (fun b => .int .u8 b.toNat) else none
 | .idxArr len size agg, [.agg cs, .int _ n] => if 0 ≤ n ∧ n < len then (cut cs (n.toNat * size) size).bind (mk agg) else none
 | .sliceStr lo hi, .str s :: bs => (kF lo hi bs).bind fun (l, h) => (dR s.size l h).map fun (l, h) => .str (s.extract l h)
 | .slice size lo hi, v :: bs => (kF lo hi bs).bind fun (l, h) => jr size v l h
 | .slice00, [v, .int _ h, .int _ m] => if CT v && h == 0 && m == 0 then some .dZ else none
 | .build zero pl, vs => (jf zero pl vs).map .agg
 | .clo name k, vs => some (.clo (N name) (vs.take k) (vs.drop k))
 | .ext i, [.tup vs] => vs[i]?
 | .lenStr, [.str s] => some (.int .i64 s.size)
 | .lenSl, [v] => xY v
 | .max, [.int k a, .int k' b] => if k = k' then some (.int k (if b > a then b else a)) else none
 | .min, [.int k a, .int k' b] => if k = k' then some (.int k (if b < a then b else a)) else none
 | _, _ => none
inductive rq where | int (k : IntKind) | str | ints (n : Nat)
def wS (E : Env) (t : TypeId) : Option rq :=
 match E.cY t with
 | some (.int k) => some (.int k)
 | some .str => some .str
 | some _ => (E.eqN t).map .ints
 | none => none
def kR : rq → V → Bool
 | .int k, .int k' _ => k == k'
 | .str, .str _ => true
 | .ints n, .agg cs => cs.length == n && (gW cs).isSome
 | _, _ => false
inductive DN where
 | load (size : Nat) (agg : Bool)
 | lookup (kk : rq) (zero : V) (ok : Bool)
def ko (H : ao) : DN → List V → Option V
 | .load size agg, [p] => (fu H p size).bind (mk agg)
 | .lookup kk z ok, [m, k] => match ju H m with
  | some kvs => if kR kk k then match fR k kvs 0 with
   | some (some (_, v)) => some (if ok then .tup [v, .bool true] else v)
   | some none => some (if ok then .tup [z, .bool false] else z)
   | none => none
   else none
  | none => none
 | _, _ => none
inductive Es where
 | alloc (size : Nat) (zero : List V)
 | box
 | makeSl (size : Nat) (zero : List V)
 | buildSl (size len : Nat) (zero : List V) (idx : List Nat)
 | makeMap
def oe : Es → List V → Option (Ob × Mk)
 | .alloc size zero, [] => some (.row size [zero], .ptr)
 | .box, [v] => if v.cells.all V.one then some (.row v.cells.length [v.cells], .ptr) else none
 | .makeSl size zero, [.int k n, .int k' m] => if k = .i64 ∧ k' = .i64 ∧ 0 ≤ n ∧ n ≤ m ∧ m ≤ 2147483648 then some (.row size (List.replicate m.toNat zero), .sl size n.toNat) else none
 | .buildSl size len zero idx, vs => if idx.length = vs.length then (gn size (List.replicate len zero) (idx.zip vs)).map fun xs => (.row size xs, .sl size len) else none
 | .makeMap, [] => some (.map [], .map)
 | _, _ => none
inductive Cj where
 | store (size : Nat)
 | storeF (size : Nat)
 | mapUp (kk : rq)
 | append (size : Nat)
def kB (H : ao) : Cj → List V → Option (V × ao)
 | .store size, [.hptr id el off, v] => match H[id]? with
  | some (.row es xs) => match xs[el]? with
   | some cs => if v.cells.length = size ∧ off + size ≤ cs.length ∧ v.cells.all V.one = true then
    some (.undef, H.set id (.row es (xs.set el (cs.take off ++ v.cells ++ cs.drop (off + v.cells.length))))) else none
   | none => none
  | _ => none
 | .mapUp kk, [.hmap id, k, v] => match H[id]? with
  | some (.map kvs) => if kR kk k then (kL k v kvs).map fun kvs => (.undef, H.set id (.map kvs)) else none
  | _ => none
 | .append size, [s, x] => match gG H size s, gG H size x with
  | some _, some [] => some (s, H)
  | some xs, some ys => if xs.length + ys.length ≤ 2147483648 then (mL H s).map fun H1 => (.hsl H.length size 0 (xs.length + ys.length), H1 ++ [.row size (xs ++ ys)]) else none
  | _, _ => none
 | .storeF size, .hptr id el off :: v :: l => if l.all (oH id) = true then match H[id]? with
  | some (.row es xs) => match xs[el]? with
   | some cs => if v.cells.length = size ∧ off + size ≤ cs.length ∧ v.cells.all V.one = true then
    some (.undef, H.set id (.row es (xs.set el (cs.take off ++ v.cells ++ cs.drop (off + v.cells.length))))) else none
   | none => none
  | _ => none
  else none
 | _, _ => none
inductive K where
 | p (p : pU)
 | r (r : DN)
 | a (a : Es)
 | l (l : Cj)
 | c
def Mt (E : Env) (t : TypeId) : Option KT := (E.cY t).map TK.tag
def resolve (E : Env) (nm : FuncId → Option Nat) : Op → Option (K × List Operand)
 | .move x | .assign x => some (.p .id, [x])
 | .pick c a b => some (.p .pick, [c, a, b])
 | .nilCheck x => some (.p .nilc, [x])
 | .binOp op t x y _ => some (.p (.bin (Mt E t) (E.eqN t) op), [x, y])
 | .unOp .not _ x => some (.p .not, [x])
 | .unOp .neg _ x => some (.p .neg, [x])
 | .convert s d x => match E.tt s, E.tt d with
  | some _, some td => match td.kind with
   | .int k => some (.p (.conv k), [x])
   | _ => none
  | _, _ => none
 | .fieldAddr s x f => match E.cY s with
  | some (.struct fs) => match fs[f]? with
   | some (off, t) => match E.tt t with
    | some d => if d.size = 0 then none else some (.p (.fieldAddr off), [x])
    | none => none
   | none => none
  | _ => none
 | .field s x f => match E.cY s with
  | some (.struct fs) => match fs[f]? with
   | some (off, t) => match E.tt t with
    | some d => some (.p (.field off d.size d.agg), [x])
    | none => none
   | none => none
  | _ => none
 | .indexAddr t x i => match E.cY t with
  | some (.slice e) => (E.tt e).map fun d => (.p (.idxS d.size), [x, i])
  | some (.array len e) => (E.tt e).map fun d => (.p (.idxA len d.size), [x, i])
  | _ => none
 | .index t x i => match E.cY t with
  | some .str => some (.p .idxStr, [x, i])
  | some (.array len e) => (E.tt e).map fun d => (.p (.idxArr len d.size d.agg), [x, i])
  | _ => none
 | .slice t x lo hi mx => match E.cY t, mx with
  | some .str, none => some (.p (.sliceStr lo.isSome hi.isSome), x :: (lo.toList ++ hi.toList))
  | some (.slice e), none => (E.tt e).map fun d => (.p (.slice d.size lo.isSome hi.isSome), x :: (lo.toList ++ hi.toList))
  | some (.slice e), some m => match E.tt e, lo, hi with
   | some _, none, some h => some (.p .slice00, [x, h, m])
   | _, _, _ => none
  | _, _ => none
 | .build t ps => match E.tt t with
  | some d => match d.kind with
   | .struct fs => match jz E fs with
    | some pl => (ps.toList.mapM fun (q : Nat × Operand) => pl[q.1]?).map fun q => (K.p (.build d.zero q), ps.toList.map fun (q : Nat × Operand) => q.2)
    | none => none
   | .array _ e => (E.tt e).map fun de => (K.p (.build d.zero (ps.toList.map fun (q : Nat × Operand) => (q.1 * de.size, de.size))), ps.toList.map fun (q : Nat × Operand) => q.2)
   | _ => none
  | none => none
 | .makeFunc (.func f) a b => (nm f).map fun s => (.p (.clo s a.toList.length), a.toList ++ b.toList)
 | .extract x i => some (.p (.ext i), [x])
 | .load t a => (E.tt t).map fun d => (.r (.load d.size d.agg), [a])
 | .lookup t m k ok => match E.cY t with
  | some (.map kt et) => match E.tt et, wS E kt with
   | some d, some kk => (mk d.agg d.zero).map fun z => (.r (.lookup kk z ok), [m, k])
   | _, _ => none
  | _ => none
 | .alloc t => (E.tt t).map fun d => (.a (.alloc d.size d.zero), [])
 | .box _ x => some (.a .box, [x])
 | .makeSlice t l c => match E.cY t with
  | some (.slice e) => match E.tt e with
   | some d => if d.bytes ≤ 4096 then some (.a (.makeSl d.size d.zero), [l, c]) else none
   | none => none
  | _ => none
 | .buildSlice t len ps => match E.cY t with
  | some (.slice e) => match E.tt e with
   | some d => if len * d.size ≤ 16777216 then some (.a (.buildSl d.size len d.zero (ps.toList.map (·.1))), ps.toList.map (·.2)) else none
   | none => none
  | _ => none
 | .makeMap _ none => some (.a .makeMap, [])
 | .store t a x => (E.tt t).map fun d => (.l (.store d.size), [a, x])
 | .mapUpdate t m k x => match E.cY t with
  | some (.map kt _) => (wS E kt).map fun kk => (.l (.mapUp kk), [m, k, x])
  | _ => none
 | .call { callee := .builtin .append, args, argTypes } => match argTypes.toList, args.toList with
  | [t, t'], [s, x] => match E.cY t, E.cY t' with
   | some (.slice e), some (.slice _) => match E.tt e with
    | some d => if d.bytes ≤ 4096 ∧ 0 < d.bytes then some (.l (.append d.size), [s, x]) else none
    | none => none
   | _, _ => none
  | _, _ => none
 | .call { callee := .builtin .len, args, argTypes } => match argTypes[0]?, args.toList with
  | some t, [x] => match E.cY t with
   | some .str => some (.p .lenStr, [x])
   | some (.slice _) => some (.p .lenSl, [x])
   | _ => none
  | _, _ => none
 | .call { callee := .builtin .max, args, .. } => match args.toList with
  | [x, y] => some (.p .max, [x, y])
  | _ => none
 | .call { callee := .builtin .min, args, .. } => match args.toList with
  | [x, y] => some (.p .min, [x, y])
  | _ => none
 | .call { callee := .value f, args, .. } => some (.c, f :: args.toList)
 | _ => none
end Go.VE
namespace Go.VE
section
variable {E : Env} {nm : FuncId → Option Nat} {N : Nat → FuncId} {F : Frame}
theorem lJ {x : Operand} {vs : List V} (h : gw F [x] = some vs) : ∃ a, ev F x = some a ∧ vs = [a] := by
 simp only [gw] at h
 split at h
 ·rename_i a bs ha hb
  simp only [Option.some.injEq] at h hb; subst h; subst hb
  exact ⟨a, ha, rfl⟩
 ·simp at h
theorem hO {x : Operand} {l : List Operand} {vs : List V} (h : gw F (x :: l) = some vs) : ∃ a as, ev F x = some a ∧ gw F l = some as ∧ vs = a :: as := by
 simp only [gw] at h
 split at h
 ·rename_i a bs ha hb
  simp only [Option.some.injEq] at h; subst h
  exact ⟨a, bs, ha, hb, rfl⟩
 ·simp at h
theorem ny {vs : List V} (h : gw F [] = some vs) : vs = [] := by simp only [gw, Option.some.injEq] at h; exact h.symm
theorem nQ {x y : Operand} {vs : List V} (h : gw F [x, y] = some vs) : ∃ a b, ev F x = some a ∧ ev F y = some b ∧ vs = [a, b] := by
 obtain ⟨a, as, ha, h2, rfl⟩ := hO h
 obtain ⟨b, hb, rfl⟩ := lJ h2
 exact ⟨a, b, ha, hb, rfl⟩
theorem Gk {x y z : Operand} {vs : List V} (h : gw F [x, y, z] = some vs) : ∃ a b c, ev F x = some a ∧ ev F y = some b ∧ ev F z = some c ∧ vs = [a, b, c] := by
 obtain ⟨a, as, ha, h2, rfl⟩ := hO h
 obtain ⟨b, c, hb, hc, rfl⟩ := nQ h2
 exact ⟨a, b, c, ha, hb, hc, rfl⟩
theorem Ct {l m : List Operand} {vs : List V} (h : gw F (l ++ m) = some vs) : ∃ as bs, gw F l = some as ∧ gw F m = some bs ∧ vs = as ++ bs := by
 induction l generalizing vs with
 | nil => exact ⟨[], vs, rfl, h, rfl⟩
 | cons x l ih =>
  obtain ⟨a, as, ha, h2, rfl⟩ := hO h
  obtain ⟨b, c, hb, hc, rfl⟩ := ih h2
  refine ⟨a :: b, c, ?_, hc, rfl⟩
  simp only [gw, ha, hb]
theorem Dg {l : List Operand} {vs : List V} (h : gw F l = some vs) : vs.length = l.length := by
 induction l generalizing vs with
 | nil => rw [ny h]; rfl
 | cons x l ih => obtain ⟨a, as, _, h2, rfl⟩ := hO h; simp [ih h2]
def GS (E : Env) (N : Nat → FuncId) (F : Frame) (op : Op) (vs : List V) : K → Prop
 | .p p => eR op = .pure ∧ ∀ v, bh N p vs = some v → aG E F op = some v
 | .r r => eR op = .read ∧ ∀ H v, ko H r vs = some v → cI E F H op = some v
 | .a a => eR op = .alloc ∧ ∀ x, oe a vs = some x → eu E F op = some x
 | .l l => eR op = .loud ∧ ∀ H x, kB H l vs = some x → dU E F H op = some x
 | .c => eR op = .call ∧ ∃ f as, vs = f :: as ∧ gU F op = (match f with | .clo g a b => some (.fn g, a ++ as ++ b) | .yld id => some (.yld id, as) | _ => none)
theorem AL (place : Nat → Option (Nat × Nat)) : ∀ (ps : List (Nat × Operand)) (q : List (Nat × Nat)) (vs : List V) (cells cs : List V), (ps.mapM fun (x : Nat × Operand) => place x.1) = some q →
 gw F (ps.map fun (x : Nat × Operand) => x.2) = some vs → jf cells q vs = some cs → ∃ ws, ja F ps = some ws ∧ nY place cells ws = some cs := by
 intro ps
 induction ps with
 | nil =>
  intro q vs cells cs hq hv h
  simp only [List.mapM_nil, Option.pure_def, Option.some.injEq] at hq; subst hq
  have := ny (by simpa using hv); subst this
  simp only [jf, Option.some.injEq] at h; subst h
  exact ⟨[], rfl, rfl⟩
 | cons p ps ih =>
  intro q vs cells cs hq hv h
  obtain ⟨i, x⟩ := p
  simp only [List.mapM_cons, Option.pure_def, Option.bind_eq_bind, Option.bind_eq_some_iff, Option.some.injEq] at hq
  obtain ⟨pl, hpl, q', hq', rfl⟩ := hq
  obtain ⟨a, as, ha, hv', rfl⟩ := hO (by simpa using hv)
  obtain ⟨off, size⟩ := pl
  simp only [jf] at h
  split at h
  ·simp at h
  ·rename_i hc
   obtain ⟨ws, h1, h2⟩ := ih q' as _ cs hq' hv' h
   refine ⟨(i, a) :: ws, by simp only [ja, ha, h1], ?_⟩
   simp only [nY, hpl]
   rw [if_neg hc]; exact h2
theorem DV : ∀ (ps : List (Nat × Operand)) (vs : List V), gw F (ps.map fun (x : Nat × Operand) => x.2) = some vs → ja F ps = some ((ps.map fun (x : Nat × Operand) => x.1).zip vs) := by
 intro ps
 induction ps with
 | nil => intro vs hv; simp [ja]
 | cons p ps ih =>
  intro vs hv
  obtain ⟨i, x⟩ := p
  obtain ⟨a, as, ha, hv', rfl⟩ := hO (by simpa using hv)
  simp only [ja, ha, ih as hv', List.map_cons, List.zip_cons_cons]
theorem Bb {lo hi : Option Operand} {vs : List V} {l h : Option Int} (hv : gw F (lo.toList ++ hi.toList) = some vs) (hb : kF lo.isSome hi.isSome vs = some (l, h)) : gV F lo = some l ∧ gV F hi = some h := by
 cases lo with
 | none =>
  cases hi with
  | none =>
   have := ny (by simpa using hv); subst this; simp [kF] at hb
   obtain ⟨rfl, rfl⟩ := hb; exact ⟨rfl, rfl⟩
  | some y =>
   obtain ⟨b, hb', rfl⟩ := lJ (by simpa using hv)
   cases b <;> simp [kF] at hb
   obtain ⟨rfl, rfl⟩ := hb; simp [gV, hb']
 | some x =>
  cases hi with
  | none =>
   obtain ⟨b, hb', rfl⟩ := lJ (by simpa using hv)
   cases b <;> simp [kF] at hb
   obtain ⟨rfl, rfl⟩ := hb; simp [gV, hb']
  | some y =>
   obtain ⟨a, b, ha, hb', rfl⟩ := nQ (by simpa using hv)
   cases a <;> cases b <;> simp [kF] at hb
   obtain ⟨rfl, rfl⟩ := hb; simp [gV, ha, hb']
theorem zB {t : TypeId} {kk : rq} {k : V} (h : wS E t = some kk) (hk : kR kk k = true) : uF E t k = true := by
 unfold wS at h
 unfold uF
 cases hki : E.cY t with
 | none => rw [hki] at h; simp at h
 | some tk =>
  rw [hki] at h
  have gen : (E.eqN t).map rq.ints = some kk → ∃ n cs, E.eqN t = some n ∧ k = .agg cs ∧ (cs.length == n && (gW cs).isSome) = true := by
   intro h
   simp only [Option.map_eq_some_iff] at h
   obtain ⟨n, hn, rfl⟩ := h
   cases k <;> simp only [kR] at hk <;> first | cases hk; done | exact ⟨n, _, hn, rfl, hk⟩
  cases tk with
  | int ik =>
   simp only [Option.some.injEq] at h; subst h
   cases k <;> simp [kR] at hk
   subst hk; simp
  | str =>
   simp only [Option.some.injEq] at h; subst h
   cases k <;> simp [kR] at hk
   rfl
  | _ =>
   obtain ⟨n, cs, h1, rfl, h2⟩ := gen h
   simp only [h1]; exact h2
theorem sn (hN : ∀ f s, nm f = some s → N s = f) {op : Op} {k : K} {os : List Operand} {vs : List V} (h : resolve E nm op = some (k, os)) (hv : gw F os = some vs) : GS E N F op vs k := by
 cases op with
 | move x =>
  simp only [resolve, Option.some.injEq, Prod.mk.injEq] at h; obtain ⟨rfl, rfl⟩ := h
  obtain ⟨a, ha, rfl⟩ := lJ hv
  exact ⟨rfl, fun v hp => by simpa [bh, aG, ha] using hp⟩
 | assign x =>
  simp only [resolve, Option.some.injEq, Prod.mk.injEq] at h; obtain ⟨rfl, rfl⟩ := h
  obtain ⟨a, ha, rfl⟩ := lJ hv
  exact ⟨rfl, fun v hp => by simpa [bh, aG, ha] using hp⟩
 | pick c a b =>
  simp only [resolve, Option.some.injEq, Prod.mk.injEq] at h; obtain ⟨rfl, rfl⟩ := h
  obtain ⟨x, y, z, hx, hy, hz, rfl⟩ := Gk hv
  refine ⟨rfl, fun v hp => ?_⟩
  cases x <;> simp [bh] at hp
  rename_i t
  subst hp
  cases t <;> simp [aG, hx, hy, hz]
 | nilCheck x =>
  simp only [resolve, Option.some.injEq, Prod.mk.injEq] at h; obtain ⟨rfl, rfl⟩ := h
  obtain ⟨a, ha, rfl⟩ := lJ hv
  refine ⟨rfl, fun v hp => ?_⟩
  cases a <;> simp [bh, Dt] at hp <;> subst hp <;> simp [aG, ha]
 | binOp bop t x y yt =>
  simp only [resolve, Option.some.injEq, Prod.mk.injEq] at h; obtain ⟨rfl, rfl⟩ := h
  obtain ⟨a, b, ha, hb, rfl⟩ := nQ hv
  exact ⟨rfl, fun v hp => by simp only [aG, ha, hb, Io]; exact hp⟩
 | unOp u t x =>
  cases u with
  | not =>
   simp only [resolve, Option.some.injEq, Prod.mk.injEq] at h; obtain ⟨rfl, rfl⟩ := h
   obtain ⟨a, ha, rfl⟩ := lJ hv
   refine ⟨rfl, fun v hp => ?_⟩
   cases a <;> simp [bh] at hp
   subst hp; simp [aG, ha]
  | neg =>
   simp only [resolve, Option.some.injEq, Prod.mk.injEq] at h; obtain ⟨rfl, rfl⟩ := h
   obtain ⟨a, ha, rfl⟩ := lJ hv
   refine ⟨rfl, fun v hp => ?_⟩
   cases a <;> simp [bh] at hp
   subst hp; simp [aG, ha]
  | _ => simp [resolve] at h
 | convert s d x =>
  simp only [resolve] at h
  split at h
  ·rename_i sd td hs hd
   split at h
   ·rename_i k hk
    simp only [Option.some.injEq, Prod.mk.injEq] at h; obtain ⟨rfl, rfl⟩ := h
    obtain ⟨a, ha, rfl⟩ := lJ hv
    refine ⟨rfl, fun v hp => ?_⟩
    cases a <;> simp [bh] at hp
    subst hp; simp [aG, ha, hs, hd, hk]
   ·simp at h
  ·simp at h
 | fieldAddr s x f =>
  simp only [resolve] at h
  split at h
  ·rename_i fs hk
   split at h
   ·rename_i off t hf
    split at h
    ·rename_i d hd
     split at h
     ·simp at h
     ·rename_i hz
      simp only [Option.some.injEq, Prod.mk.injEq] at h; obtain ⟨rfl, rfl⟩ := h
      obtain ⟨a, ha, rfl⟩ := lJ hv
      refine ⟨rfl, fun v hp => ?_⟩
      simp only [aG, ha, hk, hf, hd, if_neg hz]
      simp only [bh, pq] at hp
      cases a <;> simp at hp ⊢ <;> exact hp
    ·simp at h
   ·simp at h
  ·simp at h
 | field s x f =>
  simp only [resolve] at h
  split at h
  ·rename_i fs hk
   split at h
   ·rename_i off t hf
    split at h
    ·rename_i d hd
     simp only [Option.some.injEq, Prod.mk.injEq] at h; obtain ⟨rfl, rfl⟩ := h
     obtain ⟨a, ha, rfl⟩ := lJ hv
     refine ⟨rfl, fun v hp => ?_⟩
     cases a <;> simp only [bh] at hp <;> first | (simp only [aG, ha, hk, hf, hd]; exact hp) | simp at hp
    ·simp at h
   ·simp at h
  ·simp at h
 | indexAddr t x i =>
  simp only [resolve] at h
  split at h
  ·rename_i e hk
   simp only [Option.map_eq_some_iff, Prod.mk.injEq] at h
   obtain ⟨d, hd, rfl, rfl⟩ := h
   obtain ⟨a, b, ha, hb, rfl⟩ := nQ hv
   refine ⟨rfl, fun v hp => ?_⟩
   cases b <;> simp only [bh] at hp <;> first | simp at hp; done | skip
   simp only [aG, ha, hb, hk, hd]
   unfold sH at hp
   exact hp
  ·rename_i len e hk
   simp only [Option.map_eq_some_iff, Prod.mk.injEq] at h
   obtain ⟨d, hd, rfl, rfl⟩ := h
   obtain ⟨a, b, ha, hb, rfl⟩ := nQ hv
   refine ⟨rfl, fun v hp => ?_⟩
   cases b <;> simp only [bh] at hp <;> first | simp at hp; done | skip
   simp only [aG, ha, hb, hk, hd]
   unfold qR at hp
   exact hp
  ·simp at h
 | index t x i =>
  simp only [resolve] at h
  split at h
  ·rename_i hk
   simp only [Option.some.injEq, Prod.mk.injEq] at h; obtain ⟨rfl, rfl⟩ := h
   obtain ⟨a, b, ha, hb, rfl⟩ := nQ hv
   refine ⟨rfl, fun v hp => ?_⟩
   cases a <;> cases b <;> simp only [bh] at hp <;> first | simp at hp; done | skip
   simp only [aG, ha, hb, hk]
   exact hp
  ·rename_i len e hk
   simp only [Option.map_eq_some_iff, Prod.mk.injEq] at h
   obtain ⟨d, hd, rfl, rfl⟩ := h
   obtain ⟨a, b, ha, hb, rfl⟩ := nQ hv
   refine ⟨rfl, fun v hp => ?_⟩
   cases a <;> cases b <;> simp only [bh] at hp <;> first | simp at hp; done | skip
   simp only [aG, ha, hb, hk, hd]
   exact hp
  ·simp at h
 | slice t x lo hi mx =>
  simp only [resolve] at h
  split at h
  ·rename_i hk
   simp only [Option.some.injEq, Prod.mk.injEq] at h; obtain ⟨rfl, rfl⟩ := h
   obtain ⟨a, bs, ha, hb, rfl⟩ := hO hv
   refine ⟨rfl, fun v hp => ?_⟩
   cases a <;> simp only [bh] at hp <;> first | simp at hp; done | skip
   obtain ⟨⟨l, h⟩, hbn, hp⟩ := Option.bind_eq_some_iff.1 hp
   obtain ⟨h1, h2⟩ := Bb hb hbn
   have hm : gV F none = some none := rfl
   simp only [aG, ha, hk, h1, h2, hm]
   exact hp
  ·rename_i e hk
   simp only [Option.map_eq_some_iff, Prod.mk.injEq] at h
   obtain ⟨d, hd, rfl, rfl⟩ := h
   obtain ⟨a, bs, ha, hb, rfl⟩ := hO hv
   refine ⟨rfl, fun v hp => ?_⟩
   simp only [bh] at hp
   obtain ⟨⟨l, h⟩, hbn, hp⟩ := Option.bind_eq_some_iff.1 hp
   obtain ⟨h1, h2⟩ := Bb hb hbn
   have hm : gV F none = some none := rfl
   simp only [aG, ha, hk, h1, h2, hm, hd]
   cases a <;> exact hp
  ·rename_i e m hk
   split at h
   ·rename_i d hh hd
    simp only [Option.some.injEq, Prod.mk.injEq] at h; obtain ⟨rfl, rfl⟩ := h
    obtain ⟨a, b, c, ha, hb, hc, rfl⟩ := Gk hv
    refine ⟨rfl, fun v hp => ?_⟩
    cases b <;> cases c <;> simp only [bh] at hp <;> first | simp at hp; done | skip
    rename_i k1 n1 k2 n2
    split at hp
    ·rename_i hcnd
     simp only [Bool.and_eq_true, beq_iff_eq] at hcnd
     obtain ⟨⟨h1, rfl⟩, rfl⟩ := hcnd
     have m1 : gV F none = some none := rfl
     have m2 : gV F (some hh) = some (some 0) := by simp [gV, hb]
     have m3 : gV F (some m) = some (some 0) := by simp [gV, hc]
     simp only [aG, ha, hk, m1, m2, m3, hd]
     cases a <;> simp [CT] at h1 <;> exact hp
    ·simp at hp
   ·simp at h
  ·simp at h
 | build t ps =>
  simp only [resolve] at h
  split at h
  ·rename_i d hd
   split at h
   ·rename_i fs hk
    split at h
    ·rename_i pl hpl
     simp only [Option.map_eq_some_iff, Prod.mk.injEq] at h
     obtain ⟨q, hq, rfl, rfl⟩ := h
     refine ⟨rfl, fun v hp => ?_⟩
     simp only [bh, Option.map_eq_some_iff] at hp
     obtain ⟨cs, hcs, rfl⟩ := hp
     obtain ⟨ws, w1, w2⟩ := AL (fun i => pl[i]?) _ q vs _ cs hq hv hcs
     simp only [aG, hd, w1, hk, hpl, w2, Option.map_some]
    ·simp at h
   ·rename_i len e hk
    simp only [Option.map_eq_some_iff, Prod.mk.injEq] at h
    obtain ⟨de, hde, rfl, rfl⟩ := h
    refine ⟨rfl, fun v hp => ?_⟩
    simp only [bh, Option.map_eq_some_iff] at hp
    obtain ⟨cs, hcs, rfl⟩ := hp
    obtain ⟨ws, w1, w2⟩ := AL (fun i => some (i * de.size, de.size)) ps.toList (ps.toList.map fun (q : Nat × Operand) => (q.1 * de.size, de.size)) vs _ cs (by
     generalize ps.toList = l
     induction l with
     | nil => rfl
     | cons x l ih => simp [List.mapM_cons, ih]) hv hcs
    simp only [aG, hd, w1, hk, hde, w2, Option.map_some]
   ·simp at h
  ·simp at h
 | makeFunc f a b =>
  cases f with
  | func f =>
   simp only [resolve, Option.map_eq_some_iff, Prod.mk.injEq] at h
   obtain ⟨s, hs, rfl, rfl⟩ := h
   obtain ⟨as, bs, ha, hb, rfl⟩ := Ct hv
   refine ⟨rfl, fun v hp => ?_⟩
   simp only [bh, Option.some.injEq] at hp; subst hp
   simp only [aG, ha, hb, hN f s hs]
   rw [← Dg ha]
   simp
  | _ => simp [resolve] at h
 | extract x i =>
  simp only [resolve, Option.some.injEq, Prod.mk.injEq] at h; obtain ⟨rfl, rfl⟩ := h
  obtain ⟨a, ha, rfl⟩ := lJ hv
  refine ⟨rfl, fun v hp => ?_⟩
  cases a <;> simp only [bh] at hp <;> first | simp at hp; done | skip
  simp only [aG, ha]; exact hp
 | load t x =>
  simp only [resolve, Option.map_eq_some_iff, Prod.mk.injEq] at h
  obtain ⟨d, hd, rfl, rfl⟩ := h
  obtain ⟨a, ha, rfl⟩ := lJ hv
  exact ⟨rfl, fun H v hp => by simp only [cI, hd, ha]; exact hp⟩
 | lookup t m k ok =>
  simp only [resolve] at h
  split at h
  ·rename_i kt et hk
   split at h
   ·rename_i d kk hd hkk
    simp only [Option.map_eq_some_iff, Prod.mk.injEq] at h
    obtain ⟨z, hz, rfl, rfl⟩ := h
    obtain ⟨a, b, ha, hb, rfl⟩ := nQ hv
    refine ⟨rfl, fun H v hp => ?_⟩
    simp only [ko] at hp
    split at hp
    ·rename_i kvs hkv
     split at hp
     ·rename_i hko
      simp only [cI, hk, ha, hb, hd, hkv, zB hkk hko, if_true, hz]
      split at hp
      ·rename_i hf; rw [hf]; exact hp
      ·rename_i hf; rw [hf]; exact hp
      ·simp at hp
     ·simp at hp
    ·simp at hp
   ·simp at h
  ·simp at h
 | alloc t =>
  simp only [resolve, Option.map_eq_some_iff, Prod.mk.injEq] at h
  obtain ⟨d, hd, rfl, rfl⟩ := h
  have := ny hv; subst this
  exact ⟨rfl, fun x hp => by simpa [oe, eu, hd] using hp⟩
 | box t x =>
  simp only [resolve, Option.some.injEq, Prod.mk.injEq] at h; obtain ⟨rfl, rfl⟩ := h
  obtain ⟨a, ha, rfl⟩ := lJ hv
  exact ⟨rfl, fun x hp => by simp only [eu, ha]; exact hp⟩
 | makeSlice t l c =>
  simp only [resolve] at h
  split at h
  ·rename_i e hk
   split at h
   ·rename_i d hd
    split at h
    ·rename_i hby
     simp only [Option.some.injEq, Prod.mk.injEq] at h; obtain ⟨rfl, rfl⟩ := h
     obtain ⟨a, b, ha, hb, rfl⟩ := nQ hv
     refine ⟨rfl, fun x hp => ?_⟩
     cases a <;> cases b <;> simp only [oe] at hp <;> first | simp at hp; done | skip
     rename_i k1 n1 k2 n2
     split at hp
     ·rename_i hc
      simp only [eu, hk, ha, hb, hd]
      rw [if_pos ⟨hc.1, hc.2.1, hc.2.2.1, hc.2.2.2.1, hc.2.2.2.2, hby⟩]; exact hp
     ·simp at hp
    ·simp at h
   ·simp at h
  ·simp at h
 | buildSlice t len ps =>
  simp only [resolve] at h
  split at h
  ·rename_i e hk
   split at h
   ·rename_i d hd
    split at h
    ·rename_i hby
     simp only [Option.some.injEq, Prod.mk.injEq] at h; obtain ⟨rfl, rfl⟩ := h
     refine ⟨rfl, fun x hp => ?_⟩
     have hz := DV _ _ hv
     simp only [oe] at hp
     split at hp
     ·simp only [eu, hk, hz, hd, if_pos hby]; exact hp
     ·simp at hp
    ·simp at h
   ·simp at h
  ·simp at h
 | makeMap t r =>
  cases r with
  | none =>
   simp only [resolve, Option.some.injEq, Prod.mk.injEq] at h; obtain ⟨rfl, rfl⟩ := h
   have := ny hv; subst this
   exact ⟨rfl, fun x hp => by simpa [oe, eu] using hp⟩
  | some r => simp [resolve] at h
 | store t p x =>
  simp only [resolve, Option.map_eq_some_iff, Prod.mk.injEq] at h
  obtain ⟨d, hd, rfl, rfl⟩ := h
  obtain ⟨a, b, ha, hb, rfl⟩ := nQ hv
  refine ⟨rfl, fun H v hp => ?_⟩
  cases a <;> simp only [kB] at hp <;> first | simp at hp; done | skip
  simp only [dU, hd, ha, hb]; exact hp
 | mapUpdate t m k x =>
  simp only [resolve] at h
  split at h
  ·rename_i kt et hk
   simp only [Option.map_eq_some_iff, Prod.mk.injEq] at h
   obtain ⟨kk, hkk, rfl, rfl⟩ := h
   obtain ⟨a, b, c, ha, hb, hc, rfl⟩ := Gk hv
   refine ⟨rfl, fun H v hp => ?_⟩
   cases a <;> simp only [kB] at hp <;> first | simp at hp; done | skip
   simp only [dU, hk, ha, hb, hc]
   split at hp
   ·rename_i kvs hkv
    split at hp
    ·rename_i hko
     rw [hkv]; simp only [zB hkk hko, if_true]; exact hp
    ·simp at hp
   ·simp at hp
  ·simp at h
 | call c =>
  obtain ⟨callee, args, ats⟩ := c
  cases callee with
  | value f =>
   simp only [resolve, Option.some.injEq, Prod.mk.injEq] at h; obtain ⟨rfl, rfl⟩ := h
   obtain ⟨a, as, ha, has, rfl⟩ := hO hv
   refine ⟨rfl, a, as, rfl, ?_⟩
   simp only [gU, ha, has]
   cases a <;> rfl
  | builtin b =>
   cases b with
   | append =>
    simp only [resolve] at h
    split at h
    ·rename_i t t' s x hats hargs
     split at h
     ·rename_i e e' hk hk'
      split at h
      ·rename_i d hd
       split at h
       ·rename_i hby
        simp only [Option.some.injEq, Prod.mk.injEq] at h; obtain ⟨rfl, rfl⟩ := h
        obtain ⟨a, b, ha, hb, rfl⟩ := nQ hv
        refine ⟨rfl, fun H v hp => ?_⟩
        have hev : gw F args.toList = some [a, b] := by rw [hargs]; exact hv
        simp only [dU, hats, hev, hk, hk', hd]
        simp only [kB] at hp
        split at hp
        ·rename_i h1 h2; rw [h1, h2]; exact hp
        ·rename_i xs ys hne h1 h2
         rw [h1, h2]
         split at hp
         ·rename_i hle
          simp only [if_pos (show xs.length + ys.length ≤ 2147483648 ∧ d.bytes ≤ 4096 ∧ 0 < d.bytes from ⟨hle, hby⟩)]
          cases ys with
          | nil => exact absurd rfl hne
          | cons y ys => exact hp
         ·simp at hp
        ·simp at hp
       ·simp at h
      ·simp at h
     ·simp at h
    ·simp at h
   | len =>
    simp only [resolve] at h
    split at h
    ·rename_i t x hats hargs
     split at h
     ·rename_i hk
      simp only [Option.some.injEq, Prod.mk.injEq] at h; obtain ⟨rfl, rfl⟩ := h
      obtain ⟨a, ha, rfl⟩ := lJ hv
      have hev : gw F args.toList = some [a] := by rw [hargs]; exact hv
      refine ⟨rfl, fun v hp => ?_⟩
      cases a <;> simp only [bh] at hp <;> first | simp at hp; done | skip
      simp only [aG, hev, hats, hk]; exact hp
     ·rename_i e hk
      simp only [Option.some.injEq, Prod.mk.injEq] at h; obtain ⟨rfl, rfl⟩ := h
      obtain ⟨a, ha, rfl⟩ := lJ hv
      have hev : gw F args.toList = some [a] := by rw [hargs]; exact hv
      refine ⟨rfl, fun v hp => ?_⟩
      simp only [aG, hev, hats, hk]
      simp only [bh, xY] at hp
      cases a <;> simp at hp ⊢ <;> exact hp
     ·simp at h
    ·simp at h
   | max =>
    simp only [resolve] at h
    split at h
    ·rename_i x y hargs
     simp only [Option.some.injEq, Prod.mk.injEq] at h; obtain ⟨rfl, rfl⟩ := h
     obtain ⟨a, b, ha, hb, rfl⟩ := nQ hv
     have hev : gw F args.toList = some [a, b] := by rw [hargs]; exact hv
     refine ⟨rfl, fun v hp => ?_⟩
     cases a <;> cases b <;> simp only [bh] at hp <;> first | simp at hp; done | skip
     simp only [aG, hev]; exact hp
    ·simp at h
   | min =>
    simp only [resolve] at h
    split at h
    ·rename_i x y hargs
     simp only [Option.some.injEq, Prod.mk.injEq] at h; obtain ⟨rfl, rfl⟩ := h
     obtain ⟨a, b, ha, hb, rfl⟩ := nQ hv
     have hev : gw F args.toList = some [a, b] := by rw [hargs]; exact hv
     refine ⟨rfl, fun v hp => ?_⟩
     cases a <;> cases b <;> simp only [bh] at hp <;> first | simp at hp; done | skip
     simp only [aG, hev]; exact hp
    ·simp at h
   | _ => simp [resolve] at h
  | _ => simp [resolve] at h
 | _ => simp [resolve] at h
end
end Go.VE
namespace Go.VE
def tZ (c c' : eB) : Prop := ∀ x a H r, c x a H = some r → c' x a H = some r
section
variable {E : Env} {c c' : eB} {n : Nat} {ops : List Oper} {F F' : Frame} {H H' : ao}
theorem pT (h : tZ c c') {f : FuncId} {args : List V} {y : V} (hi : di c f args H = some y) : di c' f args H = some y := by
 unfold di at hi ⊢
 split at hi
 ·split at hi
  ·rename_i hc
   rw [h _ _ _ _ hc]; exact hi
  ·simp at hi
 ·simp at hi
theorem Bm (h : tZ c c') {f : FuncId} {args : List V} {r : V × ao} (hi : kh c f args H = some r) : kh c' f args H = some r := by
 unfold kh at hi ⊢
 split at hi
 ·split at hi
  ·rename_i hc
   rw [h _ _ _ _ hc]; exact hi
  ·simp at hi
 ·simp at hi
theorem uu (h : tZ c c') {f : FuncId} {args : List V} {r : V × ao} (hi : gJ E c f args H = some r) : gJ E c' f args H = some r := by
 unfold gJ at hi ⊢
 split
 ·rename_i ho; rw [if_pos ho] at hi; exact Bm h hi
 ·rename_i ho; rw [if_neg ho] at hi; exact h _ _ _ _ hi
theorem uk {f : FuncId} {args : List V} {y y' : V} {b : Nat} (h1 : di c f args (H.take b) = none) (h2 : di c f args H = some y) (h3 : di c' f args (H.take b) = some y') : False := by
 unfold di at h1 h2 h3
 split at h3
 ·rename_i as has
  have hb : borrows 8 H args = some as := js (vh 8) has
  rw [hb] at h2
  rw [has] at h1
  simp only at h1 h2
  rw [h1] at h2; simp at h2
 ·simp at h3
theorem Fb (h : tZ c c') {place : Option (Nat × Nat)} {op : Op} {r : V × ao} (hi : dO E c ops place F H op = some r) : dO E c' ops place F H op = some r := by
 unfold dO at hi ⊢
 split at hi
 ·exact hi
 ·exact hi
 ·exact hi
 ·exact hi
 ·split at hi
  ·rename_i f args hca
   split at hi
   ·rename_i hk
    rw [if_pos hk]
    split at hi
    ·exact uu h hi
    ·skip
     split at hi
     ·rename_i hl; rw [if_pos hl]; exact uu h hi
     ·simp at hi
   ·rename_i hk
    rw [if_neg hk]
    split at hi
    ·skip
     split at hi
     ·rename_i y hy; rw [pT h hy]; exact hi
     ·simp at hi
    ·rename_i b i
     skip
     split at hi
     ·rename_i y hy; rw [pT h hy]; exact hi
     ·rename_i hnone
      split at hi
      ·rename_i hl
       split at hi
       ·rename_i y hy
        cases h3 : di c' f args (List.take b H) with
        | some y' => exact (uk hnone hy h3).elim
        | none => simp only [if_pos hl, pT h hy]; exact hi
       ·simp at hi
      ·simp at hi
  ·rename_i id args hca
   split at hi
   ·exact h _ _ _ _ hi
   ·skip
    split at hi
    ·rename_i hl; rw [if_pos hl]; exact h _ _ _ _ hi
    ·simp at hi
  ·simp at hi
theorem xZ (h : tZ c c') {place : Option (Nat × Nat)} {o : Oper} {r : Frame × ao} (hi : fP E c n ops place o F H = some r) : fP E c' n ops place o F H = some r := by
 unfold fP at hi ⊢
 split at hi
 ·rename_i hw
  rw [if_pos hw]
  split at hi
  ·rename_i v H1 hd; rw [Fb h hd]; exact hi
  ·simp at hi
 ·rename_i hw; rw [if_neg hw]; exact hi
theorem vl (h : tZ c c') {r : Frame × ao} : ∀ (l : List Oper) {F : Frame} {H : ao}, jK E c n ops l F H = some r → jK E c' n ops l F H = some r
 | [], _, _, hi => hi
 | o :: l, F, H, hi => by
  simp only [jK] at hi ⊢
  split at hi
  ·rename_i F1 H1 hs; rw [xZ h hs]; exact vl h l hi
  ·simp at hi
theorem vq (h : tZ c c') {base : Nat} {r : Frame × ao} : ∀ (l : List Nat) {F : Frame} {H : ao}, g9 E c n ops base l F H = some r → g9 E c' n ops base l F H = some r
 | [], _, _, hi => hi
 | i :: l, F, H, hi => by
  simp only [g9] at hi ⊢
  split at hi
  ·split at hi
   ·rename_i F1 H1 hs; rw [xZ h hs]; exact vq h l hi
   ·simp at hi
  ·simp at hi
theorem yj (h : tZ c c') {draw : Bool} {r : Frame × ao} (hi : iq E c n ops draw F H = some r) : iq E c' n ops draw F H = some r := by
 unfold iq at hi ⊢
 split
 ·rename_i hd
  rw [if_pos hd] at hi
  split at hi
  ·rename_i hok; rw [if_pos hok]; exact vq h _ hi
  ·simp at hi
 ·rename_i hd; rw [if_neg hd] at hi; exact vl h _ hi
theorem sF {s s' : Frame → ao → Option (Out × Frame × ao)} (h : ∀ F H r, s F H = some r → s' F H = some r) : ∀ (k k' : Nat), k ≤ k' → ∀ {F H r}, lG s k F H = some r → lG s' k' F H = some r
 | 0, _, _, F, H, r, hi => by simp [lG] at hi
 | k + 1, 0, hk, F, H, r, hi => by omega
 | k + 1, k' + 1, hk, F, H, r, hi => by
  simp only [lG] at hi ⊢
  split at hi
  ·rename_i F1 H1 hs
   rw [h _ _ _ hs]
   exact sF h k k' (by omega) hi
  ·rename_i hne
   rw [h _ _ _ hi]
   split
   ·rename_i F1 H1 heq
    cases heq; exact absurd hi (hne _ _)
   ·rfl
theorem uo (h : tZ c c') {lf lf' : Nat} (hl : lf ≤ lf') (ro : Bool) (nt : Nat) : ∀ (code : Code) {F : Frame} {H : ao} {r : Out × Frame × ao}, exec E c lf ro nt code F H = some r → exec E c' lf' ro nt code F H = some r := by
 intro code
 induction code with
 | skip => intro F H r hi; exact hi
 | label l => intro F H r hi; exact hi
 | region id ops draw =>
  intro F H r hi
  simp only [exec, Option.map_eq_some_iff] at hi ⊢
  obtain ⟨x, hx, rfl⟩ := hi
  exact ⟨x, yj h hx, rfl⟩
 | seq a b iha ihb =>
  intro F H r hi
  simp only [exec] at hi ⊢
  split at hi
  ·rename_i F1 H1 h1
   rw [iha h1]; exact ihb hi
  ·rename_i hne
   rw [iha hi]
   split
   ·rename_i heq; cases heq; exact absurd hi (hne _ _)
   ·rfl
 | cond x a b iha ihb =>
  intro F H r hi
  simp only [exec] at hi ⊢
  split at hi
  ·rename_i t ht
   split at hi
   ·rename_i htt; subst htt; simp only [if_true]; exact iha hi
   ·rename_i htt
    rw [if_neg htt]; exact ihb hi
  ·simp at hi
 | block id a ih =>
  intro F H r hi
  simp only [exec] at hi ⊢
  split at hi
  ·rename_i id' F1 H1 h1
   rw [ih h1]; exact hi
  ·rename_i hne
   rw [ih hi]
   split
   ·rename_i heq; cases heq; exact absurd hi (hne _ _ _)
   ·rfl
 | loop a ih =>
  intro F H r hi
  simp only [exec] at hi ⊢
  exact sF (fun F H r hr => ih hr) lf lf' hl hi
 | rangeFunc g ps aw bw _ _ =>
  intro F H r hi
  simp only [exec] at hi ⊢
  split at hi
  ·split at hi
   ·rename_i res H1 hc
    rw [h _ _ _ _ hc]; exact hi
   ·simp at hi
  ·simp at hi
 | exit id => intro F H r hi; exact hi
 | ret => intro F H r hi; exact hi
 | scope a _ => intro F H r hi; simp [exec] at hi
 | goto l => intro F H r hi; simp [exec] at hi
 | refuse w => intro F H r hi; simp [exec] at hi
theorem Gp (E : Env) : ∀ n, tZ (run E n) (run E (n + 1)) := by
 intro n
 induction n with
 | zero => intro x a H r h; simp [run] at h
 | succ n ih =>
  intro x a H r h
  cases x with
  | fn f =>
   rw [run] at h ⊢
   split at h
   ·rename_i fi hfi
    split at h
    ·rename_i hle
     rw [if_pos hle]
     split at h
     ·simp at h
     ·rename_i o F1 H1 hne hx
      rw [uo ih (Nat.le_succ n) _ _ _ hx]
      cases o with
      | exit id => exact (hne id rfl).elim
      | norm => exact h
      | ret => exact h
     ·simp at h
    ·simp at h
   ·simp at h
  | yld id =>
   rw [run] at h ⊢
   split at h
   ·rename_i rec hrec
    split at h
    ·rename_i hst
     split at h
     ·rename_i hlen
      split at h
      ·rename_i F2 H2 hx1
       split at h
       ·rename_i r2 hr2
        split at h
        ·rename_i hst2
         split at h
         ·rename_i o F4 H4 hx2
          simp only [if_pos hlen, uo ih (Nat.le_succ n) _ _ _ hx1, hr2, hst2, uo ih (Nat.le_succ n) _ _ _ hx2]
          exact h
         ·simp at h
        ·simp at h
       ·simp at h
      ·simp at h
     ·simp at h
    ·simp at h
   ·simp at h
theorem um (E : Env) {n m : Nat} (h : n ≤ m) : tZ (run E n) (run E m) := by
 induction h with
 | refl => exact fun _ _ _ _ h => h
 | step _ ih => exact fun x a H r h => Gp E _ x a H r (ih x a H r h)
end
end Go.VE
namespace Go.VE
structure CR (E : Env) (c c' : eB) : Prop where
 iso : ∀ f args H y, E.keep f = false → di c f args H = some y → di c' f args H = some y
 dir : ∀ f args H r, E.keep f = true → c (.fn f) args H = some r → c' (.fn f) args H = some r
 yld : ∀ id args H r, c (.yld id) args H = some r → c' (.yld id) args H = some r
 rng : ∀ f args H r, H ≠ [] → c (.fn f) args H = some r → c' (.fn f) args H = some r
section
variable {E : Env} {c c' : eB} {n : Nat} {ops : List Oper} {F F' : Frame} {H H' : ao}
theorem BS (h : CR E c c') {f : FuncId} {args : List V} {r : V × ao} (hk : E.keep f = true) (hi : kh c f args H = some r) : kh c' f args H = some r := by
 unfold kh at hi ⊢
 split at hi
 ·split at hi
  ·rename_i hc
   rw [h.dir _ _ _ _ hk hc]; exact hi
  ·simp at hi
 ·simp at hi
theorem u_ (h : CR E c c') {f : FuncId} {args : List V} {r : V × ao} (hk : E.keep f = true) (hi : gJ E c f args H = some r) : gJ E c' f args H = some r := by
 unfold gJ at hi ⊢
 split
 ·rename_i ho; rw [if_pos ho] at hi; exact BS h hk hi
 ·rename_i ho; rw [if_neg ho] at hi; exact h.dir _ _ _ _ hk hi
theorem F0 (h : CR E c c') {place : Option (Nat × Nat)} {op : Op} {r : V × ao} (hi : dO E c ops place F H op = some r) : dO E c' ops place F H op = some r := by
 unfold dO at hi ⊢
 split at hi
 ·exact hi
 ·exact hi
 ·exact hi
 ·exact hi
 ·split at hi
  ·rename_i f args hca
   split at hi
   ·rename_i hk
    rw [if_pos hk]
    split at hi
    ·exact u_ h hk hi
    ·skip
     split at hi
     ·rename_i hl; rw [if_pos hl]; exact u_ h hk hi
     ·simp at hi
   ·rename_i hk
    rw [if_neg hk]
    split at hi
    ·skip
     split at hi
     ·rename_i y hy; rw [h.iso _ _ _ _ (by simpa using hk) hy]; exact hi
     ·simp at hi
    ·rename_i b i
     skip
     split at hi
     ·rename_i y hy; rw [h.iso _ _ _ _ (by simpa using hk) hy]; exact hi
     ·rename_i hnone
      split at hi
      ·rename_i hl
       split at hi
       ·rename_i y hy
        cases h3 : di c' f args (List.take b H) with
        | some y' => exact (uk hnone hy h3).elim
        | none => simp only [if_pos hl, h.iso _ _ _ _ (by simpa using hk) hy]; exact hi
       ·simp at hi
      ·simp at hi
  ·rename_i id args hca
   split at hi
   ·exact h.yld _ _ _ _ hi
   ·skip
    split at hi
    ·rename_i hl; rw [if_pos hl]; exact h.yld _ _ _ _ hi
    ·simp at hi
  ·simp at hi
theorem zm (h : CR E c c') {place : Option (Nat × Nat)} {o : Oper} {r : Frame × ao} (hi : fP E c n ops place o F H = some r) : fP E c' n ops place o F H = some r := by
 unfold fP at hi ⊢
 split at hi
 ·rename_i hw
  rw [if_pos hw]
  split at hi
  ·rename_i v H1 hd; rw [F0 h hd]; exact hi
  ·simp at hi
 ·rename_i hw; rw [if_neg hw]; exact hi
theorem w_ (h : CR E c c') {r : Frame × ao} : ∀ (l : List Oper) {F : Frame} {H : ao}, jK E c n ops l F H = some r → jK E c' n ops l F H = some r
 | [], _, _, hi => hi
 | o :: l, F, H, hi => by
  simp only [jK] at hi ⊢
  split at hi
  ·rename_i F1 H1 hs; rw [zm h hs]; exact w_ h l hi
  ·simp at hi
theorem wC (h : CR E c c') {base : Nat} {r : Frame × ao} : ∀ (l : List Nat) {F : Frame} {H : ao}, g9 E c n ops base l F H = some r → g9 E c' n ops base l F H = some r
 | [], _, _, hi => hi
 | i :: l, F, H, hi => by
  simp only [g9] at hi ⊢
  split at hi
  ·split at hi
   ·rename_i F1 H1 hs; rw [zm h hs]; exact wC h l hi
   ·simp at hi
  ·simp at hi
theorem zU (h : CR E c c') {draw : Bool} {r : Frame × ao} (hi : iq E c n ops draw F H = some r) : iq E c' n ops draw F H = some r := by
 unfold iq at hi ⊢
 split
 ·rename_i hd
  rw [if_pos hd] at hi
  split at hi
  ·rename_i hok; rw [if_pos hok]; exact wC h _ hi
  ·simp at hi
 ·rename_i hd; rw [if_neg hd] at hi; exact w_ h _ hi
theorem vZ (h : CR E c c') {lf lf' : Nat} (hl : lf ≤ lf') (ro : Bool) (nt : Nat) : ∀ (code : Code) {F : Frame} {H : ao} {r : Out × Frame × ao}, exec E c lf ro nt code F H = some r → exec E c' lf' ro nt code F H = some r := by
 intro code
 induction code with
 | skip => intro F H r hi; exact hi
 | label l => intro F H r hi; exact hi
 | region id ops draw =>
  intro F H r hi
  simp only [exec, Option.map_eq_some_iff] at hi ⊢
  obtain ⟨x, hx, rfl⟩ := hi
  exact ⟨x, zU h hx, rfl⟩
 | seq a b iha ihb =>
  intro F H r hi
  simp only [exec] at hi ⊢
  split at hi
  ·rename_i F1 H1 h1
   rw [iha h1]; exact ihb hi
  ·rename_i hne
   rw [iha hi]
   split
   ·rename_i heq; cases heq; exact absurd hi (hne _ _)
   ·rfl
 | cond x a b iha ihb =>
  intro F H r hi
  simp only [exec] at hi ⊢
  split at hi
  ·rename_i t ht
   split at hi
   ·rename_i htt; subst htt; simp only [if_true]; exact iha hi
   ·rename_i htt
    rw [if_neg htt]; exact ihb hi
  ·simp at hi
 | block id a ih =>
  intro F H r hi
  simp only [exec] at hi ⊢
  split at hi
  ·rename_i id' F1 H1 h1
   rw [ih h1]; exact hi
  ·rename_i hne
   rw [ih hi]
   split
   ·rename_i heq; cases heq; exact absurd hi (hne _ _ _)
   ·rfl
 | loop a ih =>
  intro F H r hi
  simp only [exec] at hi ⊢
  exact sF (fun F H r hr => ih hr) lf lf' hl hi
 | rangeFunc g ps aw bw _ _ =>
  intro F H r hi
  simp only [exec] at hi ⊢
  split at hi
  ·split at hi
   ·rename_i res H1 hc
    rw [h.rng _ _ _ _ (by simp) hc]; exact hi
   ·simp at hi
  ·simp at hi
 | exit id => intro F H r hi; exact hi
 | ret => intro F H r hi; exact hi
 | scope a _ => intro F H r hi; simp [exec] at hi
 | goto l => intro F H r hi; simp [exec] at hi
 | refuse w => intro F H r hi; simp [exec] at hi
def lp (E : Env) (c : eB) (n : Nat) : eB
 | .fn f, args, H => match E.ft f with
  | some fi => if args.length ≤ fi.ntmps then
   match exec E c n false fi.ntmps fi.body args H with
   | some (.exit _, _, _) => none
   | some (_, F', H') => (gT E F' H' fi.results).map fun vs => (result vs, H')
   | none => none
   else none
  | none => none
 | .yld id, args, H => match H[id]? with
  | some (.loop r) => match r.st with
   | .ready => if args.length = r.params.length ∧ r.params.all (· < r.nt) then
    match exec E c n true r.nt r.assign (oI r.params args r.frame) H with
    | some (.norm, F2, H2) => match H2[id]? with
     | some (.loop r2) => match r2.st with
      | .ready => match exec E c n true r.nt r.body F2 (H2.set id (.loop { r2 with st := .busy })) with
       | some (o, _, H4) => match H4[id]? with
        | some (.loop r4) => some (.bool (o == .norm), H4.set id (.loop { r4 with st := (if o == .norm then .ready else .done), pend := (if o == .norm then none else some o) }))
        | _ => none
       | none => none
      | _ => none
     | _ => none
    | _ => none
    else none
   | _ => none
  | _ => none
theorem v_ (E : Env) (n : Nat) : run E (n + 1) = lp E (run E n) n := by
 funext x a H
 cases x with
 | fn f => rw [run, lp]; rfl
 | yld id => rw [run, lp]; rfl
theorem tW (h : CR E c c') {n m : Nat} (hl : n ≤ m) {x : Callee} {a : List V} {r : V × ao} (hi : lp E c n x a H = some r) : lp E c' m x a H = some r := by
 cases x with
 | fn f =>
  rw [lp] at hi ⊢
  split at hi
  ·split at hi
   ·rename_i hle
    rw [if_pos hle]
    split at hi
    ·simp at hi
    ·rename_i o F1 H1 hne hx
     rw [vZ h hl _ _ _ hx]
     cases o with
     | exit id => exact (hne id rfl).elim
     | norm => exact hi
     | ret => exact hi
    ·simp at hi
   ·simp at hi
  ·simp at hi
 | yld id =>
  rw [lp] at hi ⊢
  split at hi
  ·rename_i rec hrec
   split at hi
   ·rename_i hst
    split at hi
    ·rename_i hlen
     split at hi
     ·rename_i F2 H2 hx1
      split at hi
      ·rename_i r2 hr2
       split at hi
       ·rename_i hst2
        split at hi
        ·rename_i o F4 H4 hx2
         simp only [if_pos hlen, vZ h hl _ _ _ hx1, hr2, hst2, vZ h hl _ _ _ hx2]
         exact hi
        ·simp at hi
       ·simp at hi
      ·simp at hi
     ·simp at hi
    ·simp at hi
   ·simp at hi
  ·simp at hi
mutual
def V.same : Nat → V → V → Bool
 | 0, _, _ => false
 | _ + 1, .bool a, .bool b => a == b
 | _ + 1, .int k a, .int l b => decide (k = l) && decide (a = b)
 | _ + 1, .str a, .str b => decide (a.data.toList = b.data.toList)
 | _ + 1, .au, .au => true
 | _ + 1, .dZ, .dZ => true
 | _ + 1, .bX, .bX => true
 | _ + 1, .fh, .fh => true
 | _ + 1, .aH, .aH => true
 | n + 1, .agg a, .agg b => V.mc n a b
 | n + 1, .tup a, .tup b => V.mc n a b
 | n + 1, .fptr a, .fptr b => V.mc n a b
 | n + 1, .fsl e a, .fsl e' b => Nat.beq e e' && V.tV n a b
 | n + 1, .clo f a b, .clo f' a' b' => Nat.beq f f' && V.mc n a a' && V.mc n b b'
 | _ + 1, _, _ => false
def V.mc : Nat → List V → List V → Bool
 | 0, _, _ => false
 | _ + 1, [], [] => true
 | n + 1, a :: r, b :: s => V.same n a b && V.mc n r s
 | _ + 1, _, _ => false
def V.tV : Nat → List (List V) → List (List V) → Bool
 | 0, _, _ => false
 | _ + 1, [], [] => true
 | n + 1, a :: r, b :: s => V.mc n a b && V.tV n r s
 | _ + 1, _, _ => false
end
theorem H8 : ∀ n, (∀ a b, V.same n a b = true → a = b) ∧ (∀ a b, V.mc n a b = true → a = b) ∧ (∀ a b, V.tV n a b = true → a = b) := by
 intro n
 induction n with
 | zero => exact ⟨fun a b h => by simp [V.same] at h, fun a b h => by simp [V.mc] at h, fun a b h => by simp [V.tV] at h⟩
 | succ n ih =>
  obtain ⟨i1, i2, i3⟩ := ih
  refine ⟨fun a b h => ?_, fun a b h => ?_, fun a b h => ?_⟩
  ·cases a <;> cases b <;> simp only [V.same, Bool.and_eq_true, decide_eq_true_eq, beq_iff_eq, Bool.false_eq_true] at h <;> first | rfl | (exact h.elim) | skip
   all_goals first
    | (rw [h]; done)
    | (rw [h.1, h.2]; done)
    | (rw [i2 _ _ h]; done)
    | (rw [Nat.eq_of_beq_eq_true h.1, i3 _ _ h.2]; done)
    | (rw [Nat.eq_of_beq_eq_true h.1.1, i2 _ _ h.1.2, i2 _ _ h.2]; done)
    | (congr 1; exact ByteArray.ext (Array.ext' h))
  ·cases a <;> cases b <;> simp only [V.mc, Bool.and_eq_true, Bool.false_eq_true] at h <;> first | rfl | (exact h.elim) | (rw [i1 _ _ h.1, i2 _ _ h.2])
  ·cases a <;> cases b <;> simp only [V.tV, Bool.and_eq_true, Bool.false_eq_true] at h <;> first | rfl | (exact h.elim) | (rw [i2 _ _ h.1, i3 _ _ h.2])
structure aC where
 f : FuncId
 as : List V
 y : V
def r9 : List aC → FuncId → List V → Option V
 | [], _, _ => none
 | k :: r, f, as => bif Nat.beq k.f f && V.mc 1000 k.as as then some k.y else r9 r f as
theorem vU : ∀ {l : List aC} {f : FuncId} {as : List V} {y : V}, r9 l f as = some y → ∃ k ∈ l, k.f = f ∧ k.as = as ∧ k.y = y
 | [], _, _, _, h => by simp [r9] at h
 | k :: r, f, as, y, h => by
  unfold r9 at h
  cases hb : Nat.beq k.f f && V.mc 1000 k.as as with
  | true =>
   rw [hb] at h
   simp only [Bool.and_eq_true] at hb
   exact ⟨k, List.mem_cons_self .., Nat.eq_of_beq_eq_true hb.1, (H8 1000).2.1 _ _ hb.2, by simpa using h⟩
  | false =>
   rw [hb] at h
   obtain ⟨q, h1, h2⟩ := vU h
   exact ⟨q, List.mem_cons_of_mem _ h1, h2⟩
def runM (E : Env) (l : List aC) : Nat → eB
 | 0, _, _, _ => none
 | n + 1, .fn f, as, [] => match r9 l f as with
  | some y => some (y, [])
  | none => lp E (runM E l n) n (.fn f) as []
 | n + 1, x, as, H => lp E (runM E l n) n x as H
def pP (E : Env) (n : Nat) (k : aC) : Prop := ∃ r H1, run E n (.fn k.f) k.as [] = some (r, H1) ∧ borrow 8 H1 r = some k.y
structure ax (E : Env) (k : aC) : Prop where
 keep : E.keep k.f = false
 self : borrow 8 [] k.y = some k.y
 cl : k.y.closed = true
 at_ : ∃ n, pP E n k
theorem pP.le {n m : Nat} {k : aC} (h : pP E n k) (hm : n ≤ m) : pP E m k := by
 obtain ⟨r, H1, h1, h2⟩ := h
 exact ⟨r, H1, um E hm _ _ _ _ h1, h2⟩
theorem uq : ∀ {l : List aC}, (∀ k ∈ l, ax E k) → ∃ N, ∀ k ∈ l, pP E N k
 | [], _ => ⟨0, by simp⟩
 | k :: r, h => by
  obtain ⟨N, hN⟩ := uq (fun q hq => h q (List.mem_cons_of_mem _ hq))
  obtain ⟨n, hn⟩ := (h k (List.mem_cons_self ..)).at_
  refine ⟨max N n, fun q hq => ?_⟩
  rcases List.mem_cons.1 hq with rfl | hq
  ·exact hn.le (Nat.le_max_right ..)
  ·exact (hN q hq).le (Nat.le_max_left ..)
theorem qJ {l : List aC} {x : Callee} {as : List V} (h : H ≠ [] ∨ (∃ id, x = .yld id) ∨ ∃ f, x = .fn f ∧ r9 l f as = none) : runM E l (n + 1) x as H = lp E (runM E l n) n x as H := by
 rcases h with h | ⟨id, rfl⟩ | ⟨f, rfl, h⟩
 ·cases x with
  | yld id => rw [runM]; simp
  | fn f =>
   cases H with
   | nil => exact absurd rfl h
   | cons a r => rw [runM]; simp
 ·rw [runM]; simp
 ·cases H with
  | nil => rw [runM, h]
  | cons a r => rw [runM]; simp
theorem Cd {l : List aC} {N : Nat} (hl : ∀ k ∈ l, ax E k) (hN : ∀ k ∈ l, pP E N k) : ∀ n, CR E (runM E l n) (run E (N + n)) := by
 intro n
 induction n with
 | zero =>
  refine ⟨fun f args H y _ h => ?_, fun f args H r _ h => by simp [runM] at h, fun id args H r h => by simp [runM] at h, fun f args H r _ h => by simp [runM] at h⟩
  unfold di at h
  split at h
  ·simp [runM] at h
  ·simp at h
 | succ n ih =>
  have up : ∀ {x : Callee} {as : List V} {H : ao} {r : V × ao}, lp E (runM E l n) n x as H = some r → run E (N + (n + 1)) x as H = some r := fun h => by
   rw [show N + (n + 1) = (N + n) + 1 from rfl, v_]
   exact tW ih (Nat.le_add_left ..) h
  refine ⟨fun f args H y hk h => ?_, fun f args H r hk h => ?_, fun id args H r h => ?_, fun f args H r hne h => ?_⟩
  ·unfold di at h ⊢
   split at h
   ·rename_i as has
    split at h
    ·rename_i r H1 hc
     cases hs : r9 l f as with
     | none =>
      rw [qJ (.inr (.inr ⟨f, rfl, hs⟩))] at hc
      rw [up hc]
      exact h
     | some y0 =>
      rw [runM, hs] at hc
      simp only [Option.some.injEq, Prod.mk.injEq] at hc
      obtain ⟨rfl, rfl⟩ := hc
      obtain ⟨k, hkm, rfl, rfl, rfl⟩ := vU hs
      have ok := hl k hkm
      obtain ⟨r1, H2, h1, h2⟩ := (hN k hkm).le (Nat.le_add_right N (n + 1))
      rw [ok.self] at h
      rw [h1]
      simp only [h2]
      exact h
    ·simp at h
   ·simp at h
  ·by_cases hs : H ≠ [] ∨ (∃ id, (Callee.fn f) = .yld id) ∨ ∃ f', Callee.fn f = .fn f' ∧ r9 l f' args = none
   ·rw [qJ hs] at h; exact up h
   ·exfalso
    cases hq : r9 l f args with
    | none => exact hs (.inr (.inr ⟨f, rfl, hq⟩))
    | some y =>
     obtain ⟨k, hkm, rfl, _, _⟩ := vU hq
     rw [(hl k hkm).keep] at hk; cases hk
  ·rw [qJ (.inr (.inl ⟨id, rfl⟩))] at h; exact up h
  ·rw [qJ (.inl hne)] at h; exact up h
def JV (E : Env) (l : List aC) (n : Nat) (k : aC) : Option V :=
 match lp E (runM E l n) n (.fn k.f) k.as [] with
 | some (r, H1) => borrow 8 H1 r
 | none => none
theorem aq {l : List aC} (hl : ∀ k ∈ l, ax E k) {k : aC} (h : (JV E l n k, borrow 8 [] k.y, k.y.closed, E.keep k.f) = (some k.y, some k.y, true, false)) : ax E k := by
 simp only [Prod.mk.injEq] at h
 obtain ⟨N, hN⟩ := uq hl
 refine ⟨h.2.2.2, h.2.1, h.2.2.1, N + n + 1, ?_⟩
 have h1 := h.1
 unfold JV at h1
 split at h1
 ·rename_i r H1 hs
  refine ⟨r, H1, ?_, h1⟩
  rw [v_]
  exact tW (Cd hl hN n) (Nat.le_add_left ..) hs
 ·simp at h1
def G_ (E : Env) (l : List aC) (n : Nat) (f : FuncId) (as : List V) : Bool :=
 match lp E (runM E l n) n (.fn f) as [] with
 | some (.bool b, _) => b
 | _ => false
theorem DC {l : List aC} (hl : ∀ k ∈ l, ax E k) {f : FuncId} {as : List V} (h : G_ E l n f as = true) : ∃ n H1, run E n (.fn f) as [] = some (.bool true, H1) := by
 obtain ⟨N, hN⟩ := uq hl
 unfold G_ at h
 split at h
 ·rename_i b H1 hs
  subst h
  exact ⟨N + n + 1, H1, by rw [v_]; exact tW (Cd hl hN n) (Nat.le_add_left ..) hs⟩
 ·cases h
end
end Go.VE
