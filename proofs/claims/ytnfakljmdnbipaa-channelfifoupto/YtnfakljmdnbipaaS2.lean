/-
  Arrays, maps, iterators; readings; plain laws.
-/
import Derived.JoinedCond
import Derived.ReadAgain
import Derived.WalkKit
import Derived.ProofKit
import Derived.OpenShut
import Derived.ChangeSame
import Derived.RowKit3
import Derived.Test.YtnfakljmdnbipaaV2
import Derived.Test.YtnfakljmdnbipaaS1
set_option linter.all false
namespace Go.VE
structure Arr (n : Nat) (α : Type) where
  l : List α
  len : l.length = n
theorem flat_len {α : Type} [Enc α] (l : List α) : (l.map (cells (α := α))).flatten.length = l.length * Enc.size α := by
  induction l with
  | nil => simp
  | cons a l ih => simp only [List.map_cons, List.flatten_cons, List.length_append, ih, cells_len, List.length_cons, Nat.add_mul, Nat.one_mul, Nat.add_comm]
theorem flat_good {α : Type} [Enc α] (l : List α) : V.goodL (l.map (cells (α := α))).flatten = true := by
  induction l with
  | nil => rfl
  | cons a l ih =>
    simp only [List.map_cons, List.flatten_cons]
    have h : ∀ (x y : List V), V.goodL x = true → V.goodL y = true → V.goodL (x ++ y) = true := by
      intro x
      induction x with
      | nil => intro y _ h; exact h
      | cons b x ih2 => intro y h1 h2; simp only [V.goodL, Bool.and_eq_true, List.cons_append] at h1 ⊢; exact ⟨h1.1, ih2 y h1.2 h2⟩
    exact h _ _ (Enc.good a) ih
theorem lvlL_app {n : Nat} : ∀ {x y : List V}, V.lvlL n x = true → V.lvlL n y = true → V.lvlL n (x ++ y) = true
  | [], _, _, h => h
  | a :: x, y, h1, h2 => by
    simp only [lvlL_cons, Bool.and_eq_true, List.cons_append] at h1 ⊢
    exact ⟨h1.1, lvlL_app h1.2 h2⟩
theorem flat_lvl {n : Nat} {α : Type} [Enc α] [Lv n α] (l : List α) : V.lvlL n (l.map (cells (α := α))).flatten = true := by
  induction l with
  | nil => exact lvlL_nil n
  | cons a l ih => simp only [List.map_cons, List.flatten_cons]; exact lvlL_app (Lv.lv a) ih
instance {n : Nat} {α : Type} [Enc α] : Enc (Arr n α) where
  cells a := (a.l.map cells).flatten
  agg := true
  size := n * Enc.size α
  len a := by rw [flat_len, a.len]
  good a := flat_good a.l
  one a := by
    have : ∀ l : List α, (l.map (cells (α := α))).flatten.all V.one = true := by
      intro l
      induction l with
      | nil => rfl
      | cons a l ih => simp only [List.map_cons, List.flatten_cons, List.all_append, ih, all_one, Bool.and_self]
    exact this a.l
  plain h := by cases h
instance {k n : Nat} {α : Type} [Enc α] [Lv k α] : Lv k (Arr n α) := ⟨fun a => flat_lvl a.l⟩
def Arr.mk0 (n : Nat) {α : Type} (z : α) : Arr n α := ⟨List.replicate n z, by simp⟩
def Arr.at {n : Nat} {α : Type} (a : Arr n α) (i : Int) : Option α := if 0 ≤ i then a.l[i.toNat]? else none
def Arr.set {n : Nat} {α : Type} (a : Arr n α) (i : Int) (x : α) : Arr n α := ⟨a.l.set i.toNat x, by simp [a.len]⟩
def pa {n : Nat} {α : Type} [Enc α] (a : Arr n α) (i : Int) : List V := (cells a).drop (i.toNat * Enc.size α)
theorem Arr.at_lt {n : Nat} {α : Type} {a : Arr n α} {i : Int} {x : α} (h : a.at i = some x) : 0 ≤ i ∧ i.toNat < n ∧ a.l[i.toNat]? = some x := by
  unfold Arr.at at h
  split at h
  · rename_i hi
    refine ⟨hi, ?_, h⟩
    have := (List.getElem?_eq_some_iff.1 h).1
    rw [← a.len]; exact this
  · cases h
theorem flat_drop {α : Type} [Enc α] : ∀ (l : List α) (k : Nat), ((l.map (cells (α := α))).flatten).drop (k * Enc.size α) = ((l.drop k).map (cells (α := α))).flatten
  | [], k => by simp
  | a :: l, 0 => by simp
  | a :: l, k + 1 => by
    have h : (cells a).length = Enc.size α := cells_len a
    rw [List.map_cons, List.flatten_cons, List.drop_succ_cons, ← flat_drop l k, Nat.add_mul, Nat.one_mul, Nat.add_comm, ← h, List.drop_length_add_append]
theorem pa_cons {n : Nat} {α : Type} [Enc α] {a : Arr n α} {i : Int} {x : α} (h : a.at i = some x) : ∃ r, pa a i = cells x ++ r := by
  obtain ⟨h1, h2, h3⟩ := Arr.at_lt h
  obtain ⟨hlt, hx⟩ := List.getElem?_eq_some_iff.1 h3
  refine ⟨((a.l.drop (i.toNat + 1)).map cells).flatten, ?_⟩
  show ((a.l.map (cells (α := α))).flatten).drop (i.toNat * Enc.size α) = _
  rw [flat_drop, List.drop_eq_getElem_cons hlt, List.map_cons, List.flatten_cons, hx]
section
variable {S : Sys} {c : CallS} {β γ δ α : Type} {Q : Out × St → Option β} {e : γ → Option β} {fo : Fo} {fs : List Fm} {st0 : St} {l : List RO} {d : Option Nat} {gd : Option (Nat × Bool)} {now : Bool} {as : List Arg} {dd : List Nat}
section
variable {N : Nat} [Enc α]
theorem AidxA (n : Nat) (dr : Bool) (fr : List Nat) (q : List RO) (fs' : List Fm) (st : St) (k : IntKind) {ln sz : Nat} {a : Arr N α} {i : Int} {f : α → Option γ} (hq : q = ⟨d, gd, now, .p (.idxA ln sz), as, dd, []⟩ :: l)
    (hL : (adv S c n fo fs st0, wanted st.g gd, sargs S.N st.g as, sz, ln) = (some (.ops dr fr q, fs', st), some true, some [cp a, .v (.int k i)], Enc.size α, N))
    (h : ∀ x, a.at i = some x → Le ((f x).bind e) (aft S c Q dr fr d (.p (.idxA ln sz)) l fs' dd (putO st d (.v (.fptr (pa a i)))))) : Le (((a.at i).bind f).bind e) (rn S c Q fo fs st0) := by
  simp only [Prod.mk.injEq] at hL
  obtain ⟨h1, h2, h3, h4, h5⟩ := hL
  subst h4 h5
  refine KopB h1 hq h2 (?_ : Le ((a.at i).bind fun _ => some (putO st d (.v (.fptr (pa a i))))) _) h
  intro r hr
  obtain ⟨x, hx, hr⟩ := Option.bind_eq_some_iff.1 hr
  obtain ⟨g1, g2, _⟩ := Arr.at_lt hx
  rw [s_p1 (v := .v (.fptr (pa a i))) h3 rfl ?_]
  · exact hr
  rw [pureS_v2]
  simp only [peval, idxAV]
  have hlen : i.toNat * Enc.size α ≤ (cells a).length := by
    rw [cells_len]; exact Nat.mul_le_mul_right _ (Nat.le_of_lt g2)
  rw [if_pos ⟨g1, by omega⟩, if_pos hlen]
  rfl
theorem AfaA (n : Nat) (dr : Bool) (fr : List Nat) (q : List RO) (fs' : List Fm) (st : St) (a : Arr N α) (i : Int) (o : Nat) (x : α) (hx : a.at i = some x) {k : Nat} {m : Option β} (hq : q = ⟨d, gd, now, .p (.fieldAddr k), as, dd, []⟩ :: l)
    (hL : (adv S c n fo fs st0, wanted st.g gd, sargs S.N st.g as, Nat.ble (o + k) (Enc.size α)) = (some (.ops dr fr q, fs', st), some true, some [.v (.fptr ((pa a i).drop o))], true))
    (h : Le m (aft S c Q dr fr d (.p (.fieldAddr k)) l fs' dd (putO st d (.v (.fptr ((pa a i).drop (o + k))))))) : Le m (rn S c Q fo fs st0) := by
  simp only [Prod.mk.injEq] at hL
  obtain ⟨h1, h2, h3, h4⟩ := hL
  refine KoneB h1 hq h2 (s_p1 h3 rfl ?_) h
  have h9 := Nat.le_of_ble_eq_true h4
  obtain ⟨r, hr⟩ := pa_cons hx
  have hl : (pa a i).length ≥ Enc.size α := by rw [hr, List.length_append, cells_len]; omega
  rw [pureS_v1, pv_fieldAddr, if_pos (by rw [List.length_drop]; omega), List.drop_drop]
  rfl
theorem AgetA (n : Nat) (dr : Bool) (fr : List Nat) (q : List RO) (fs' : List Fm) (st : St) (a : Arr N α) (i : Int) (o : Nat) (x : α) (hx : a.at i = some x) {sz : Nat} {ag : Bool} {v : V} (hv : (cut (cells x) o sz).bind (mk ag) = some v) (v' : V) {m : Option β} (hq : q = ⟨d, gd, now, .r (.load sz ag), as, dd, []⟩ :: l)
    (hL : (adv S c n fo fs st0, wanted st.g gd, sargs S.N st.g as, v) = (some (.ops dr fr q, fs', st), some true, some [.v (.fptr ((pa a i).drop o))], v'))
    (h : Le m (aft S c Q dr fr d (.r (.load sz ag)) l fs' dd (putO st d (.v v')))) : Le m (rn S c Q fo fs st0) := by
  simp only [Prod.mk.injEq] at hL
  obtain ⟨h1, h2, h3, rfl⟩ := hL
  refine KoneB h1 hq h2 ?_ h
  rw [sop_r, h3]
  have hold : oldRead fr [SV.v (.fptr ((pa a i).drop o))] = true := rfl
  simp only [Option.bind_some, hold, Bool.or_true, if_true, rd_closed]
  obtain ⟨r, hr⟩ := pa_cons hx
  rw [hr]
  have hc : cut ((cells x ++ r).drop o) 0 sz = cut (cells x) o sz := by
    cases hcc : cut (cells x) o sz with
    | none => rw [hcc] at hv; cases hv
    | some w =>
      unfold cut at hcc ⊢
      dsimp only at hcc ⊢
      split at hcc
      · rename_i hl
        cases hcc
        have e1 : (List.drop 0 (List.drop o (cells x ++ r))).take sz = ((cells x).drop o).take sz := by
          rw [List.drop_zero]
          have ho : sz = 0 ∨ o ≤ (cells x).length := by
            simp only [List.length_take, List.length_drop] at hl; omega
          rcases ho with rfl | ho
          · simp
          · rw [List.drop_append_of_le_length ho, List.take_append_of_le_length]
            simp only [List.length_take, List.length_drop] at hl ⊢; omega
        rw [e1, if_pos hl]
      · cases hcc
  rw [hc]
  cases hcc : cut (cells x) o sz with
  | none => rw [hcc] at hv; cases hv
  | some w => rw [hcc] at hv; simp only [Option.bind_some] at hv ⊢; rw [hv]; rfl
theorem AallocA (n : Nat) (dr : Bool) (fr : List Nat) (q : List RO) (fs' : List Fm) (st : St) (len : Nat) (z : α) {u sz : Nat} {zero : List V} {m : Option β} (hq : q = ⟨some u, gd, now, .a (.alloc sz zero), as, dd, []⟩ :: l)
    (h4 : st.new u = true) (hL : (adv S c n fo fs st0, wanted st.g gd, sargs S.N st.g as, zero) = (some (.ops dr fr q, fs', st), some true, some [], cells (Arr.mk0 len z)))
    (h : Le m (aft S c Q dr fr (some u) (.a (.alloc sz zero)) l fs' dd { st with g := tput st.g u (.ptr u 0), m := tput st.m u (bx (Arr.mk0 len z)) })) : Le m (rn S c Q fo fs st0) := by
  simp only [Prod.mk.injEq] at hL
  obtain ⟨h1, h2, h3, h5⟩ := hL
  subst h5
  refine KoneB h1 hq h2 ?_ h
  rw [sop_a, h3]
  simp only [Option.bind_some, h4, if_true, allocS]
theorem Aal (n : Nat) (dr : Bool) (fr : List Nat) (q : List RO) (fs' : List Fm) (st : St) (cs : List SV) {u sz : Nat} {zero : List V} {m : Option β} (hq : q = ⟨some u, gd, now, .a (.alloc sz zero), as, dd, []⟩ :: l)
    (h4 : st.new u = true) (hL : (adv S c n fo fs st0, wanted st.g gd, sargs S.N st.g as, zero.map SV.v) = (some (.ops dr fr q, fs', st), some true, some [], cs))
    (h : Le m (aft S c Q dr fr (some u) (.a (.alloc sz zero)) l fs' dd { st with g := tput st.g u (.ptr u 0), m := tput st.m u (.box cs) })) : Le m (rn S c Q fo fs st0) := by
  simp only [Prod.mk.injEq] at hL
  obtain ⟨h1, h2, h3, h5⟩ := hL
  subst h5
  refine KoneB h1 hq h2 ?_ h
  rw [sop_a, h3]
  simp only [Option.bind_some, h4, if_true, allocS]
theorem saysL_v (d : Nat) (l : List V) : SV.saysL d (l.map .v) = false := by
  induction l with
  | nil => rfl
  | cons a l ih => simp only [List.map_cons, SV.saysL, SV.says, ih, Bool.or_self]
theorem saysO_bx {α : Type} [Enc α] (d : Nat) (x : α) : SOb.says d (bx x) = false := saysL_v d (cells x)
theorem AidxB (n : Nat) (dr : Bool) (fr : List Nat) (q : List RO) (fs' : List Fm) (st : St) (k : IntKind) (u : Nat) {ln sz : Nat} {a : Arr N α} {i : Int} {f : α → Option γ} (hq : q = ⟨d, gd, now, .p (.idxA ln sz), as, dd, []⟩ :: l)
    (hL : (adv S c n fo fs st0, wanted st.g gd, sargs S.N st.g as, sz, ln, tget st.m u) = (some (.ops dr fr q, fs', st), some true, some [.ptr u 0, .v (.int k i)], Enc.size α, N, some (bx a)))
    (h : ∀ x, a.at i = some x → Le ((f x).bind e) (aft S c Q dr fr d (.p (.idxA ln sz)) l fs' dd (putO st d (.ptr u (i.toNat * Enc.size α + 0))))) : Le (((a.at i).bind f).bind e) (rn S c Q fo fs st0) := by
  simp only [Prod.mk.injEq] at hL
  obtain ⟨h1, h2, h3, h4, h5, h6⟩ := hL
  subst h4 h5
  refine KopB h1 hq h2 (?_ : Le ((a.at i).bind fun _ => some (putO st d (.ptr u (i.toNat * Enc.size α + 0)))) _) h
  intro r hr
  obtain ⟨x, hx, hr⟩ := Option.bind_eq_some_iff.1 hr
  obtain ⟨g1, g2, _⟩ := Arr.at_lt hx
  rw [s_p1 (v := .ptr u (i.toNat * Enc.size α + 0)) h3 rfl ?_]
  · exact hr
  simp only [pureS, allV, pureR, h6]
  rw [if_pos ⟨g1, by omega, rfl⟩, Nat.zero_add, Nat.add_zero]
theorem AgetB (n : Nat) (dr : Bool) (fr : List Nat) (q : List RO) (fs' : List Fm) (st : St) (u : Nat) (a : Arr N α) (i : Int) (o : Nat) (x : α) (hx : a.at i = some x) {sz : Nat} {ag : Bool} {v : V} (hv : (cut (cells x) o sz).bind (mk ag) = some v) (v' : V) {m : Option β} (hq : q = ⟨d, gd, now, .r (.load sz ag), as, dd, []⟩ :: l)
    (hL : (adv S c n fo fs st0, wanted st.g gd, sargs S.N st.g as, v, tget st.m u, (!dr || now || oldRead fr [.ptr u 0])) = (some (.ops dr fr q, fs', st), some true, some [.ptr u (i.toNat * Enc.size α + o)], v', some (bx a), true))
    (h : Le m (aft S c Q dr fr d (.r (.load sz ag)) l fs' dd (putO st d (.v v')))) : Le m (rn S c Q fo fs st0) := by
  simp only [Prod.mk.injEq] at hL
  obtain ⟨h1, h2, h3, rfl, h5, h6⟩ := hL
  refine KoneB h1 hq h2 ?_ h
  rw [sop_r, h3]
  have hold : (!dr || now || oldRead fr [SV.ptr u (i.toNat * Enc.size α + o)]) = true := h6
  simp only [Option.bind_some, hold, if_true, rd_p, h5, loadP_box]
  obtain ⟨r, hr⟩ := pa_cons hx
  have e1 : (((cells a).map SV.v).drop (i.toNat * Enc.size α + o)).take sz = (((cells x).drop o).take sz).map SV.v := by
    have hcc : ((cells x).drop o).take sz = ((cells x ++ r).drop o).take sz := by
      cases hc : cut (cells x) o sz with
      | none => rw [hc] at hv; cases hv
      | some w =>
        unfold cut at hc
        dsimp only at hc
        split at hc
        · rename_i hl
          have ho : sz = 0 ∨ o ≤ (cells x).length := by
            simp only [List.length_take, List.length_drop] at hl; omega
          rcases ho with rfl | ho
          · simp
          · rw [List.drop_append_of_le_length ho, List.take_append_of_le_length]
            simp only [List.length_take, List.length_drop] at hl ⊢; omega
        · cases hc
    rw [hcc, ← hr, pa, List.drop_drop, List.map_take, List.map_drop]
  rw [e1]
  unfold loadC
  cases hc : cut (cells x) o sz with
  | none => rw [hc] at hv; cases hv
  | some w =>
    rw [hc] at hv
    unfold cut at hc
    dsimp only at hc
    split at hc
    · rename_i hl
      cases hc
      simp only [List.length_map, hl, if_true]
      simp only [Option.bind_some] at hv
      unfold mk at hv
      cases ag with
      | true =>
        simp only [if_true] at hv ⊢
        cases hv
        rw [allV_map]; rfl
      | false =>
        simp only [Bool.false_eq_true, if_false] at hv ⊢
        split at hv
        · rename_i hw; cases hv; rw [hw]; rfl
        · cases hv
    · cases hc
theorem cells_set {N : Nat} (a : Arr N α) (i : Int) (y : α) (h : i.toNat < N) : cells (a.set i y) = (cells a).take (i.toNat * Enc.size α) ++ cells y ++ (cells a).drop ((i.toNat + 1) * Enc.size α) := by
  have key : ∀ (l : List α) (k : Nat), k < l.length → ((l.set k y).map (cells (α := α))).flatten = (l.map (cells (α := α))).flatten.take (k * Enc.size α) ++ cells y ++ (l.map (cells (α := α))).flatten.drop ((k + 1) * Enc.size α) := by
    intro l
    induction l with
    | nil => intro k h; simp at h
    | cons b l ih =>
      intro k h
      have hb : (cells b).length = Enc.size α := cells_len b
      cases k with
      | zero =>
        simp only [List.set_cons_zero, List.map_cons, List.flatten_cons, Nat.zero_mul, List.take_zero, List.nil_append, Nat.zero_add, Nat.one_mul]
        rw [← hb, List.drop_left]
      | succ k =>
        simp only [List.set_cons_succ, List.map_cons, List.flatten_cons]
        rw [ih k (by simpa using h)]
        have e1 : (k + 1) * Enc.size α = (cells b).length + k * Enc.size α := by rw [hb, Nat.add_mul, Nat.one_mul, Nat.add_comm]
        have e2 : (k + 1 + 1) * Enc.size α = (cells b).length + (k + 1) * Enc.size α := by rw [hb, Nat.add_mul (k + 1), Nat.one_mul, Nat.add_comm]
        rw [e2, List.drop_length_add_append]
        rw [e1, List.take_length_add_append]
        simp [List.append_assoc]
  exact key a.l i.toNat (by rw [a.len]; exact h)
theorem AputB (n : Nat) (dr : Bool) (fr : List Nat) (q : List RO) (fs' : List Fm) (st : St) (u : Nat) (a : Arr N α) (i : Int) (o : Nat) (x : α) (hx : a.at i = some x) (y : α) (v : V) {sz : Nat} (hy : cells y = (cells x).take o ++ v.cells ++ (cells x).drop (o + sz)) {m : Option β} (hq : q = ⟨d, gd, now, .l (.store sz), as, dd, []⟩ :: l)
    (hL : (adv S c n fo fs st0, wanted st.g gd, sargs S.N st.g as, tget st.m u, (!dr || now), v.cells.length, v.cells.all V.one, Nat.ble (o + sz) (Enc.size α)) = (some (.ops dr fr q, fs', st), some true, some [.ptr u (i.toNat * Enc.size α + o), .v v], some (bx a), true, sz, true, true))
    (h : Le m (aft S c Q dr fr d (.l (.store sz)) l fs' dd (putO { st with m := tput st.m u (bx (a.set i y)) } d (.v .undef)))) : Le m (rn S c Q fo fs st0) := by
  simp only [Prod.mk.injEq] at hL
  obtain ⟨h1, h2, h3, h4, h5, h6, h7, h8⟩ := hL
  refine KoneB h1 hq h2 ?_ h
  rw [sop_l, h3]
  have h9 := Nat.le_of_ble_eq_true h8
  obtain ⟨g1, g2, g3⟩ := Arr.at_lt hx
  have hb : i.toNat * Enc.size α + o + sz ≤ ((cells a).map SV.v).length := by
    rw [List.length_map, cells_len]
    have : (i.toNat + 1) * Enc.size α ≤ N * Enc.size α := Nat.mul_le_mul_right _ g2
    rw [Nat.add_mul, Nat.one_mul] at this
    show _ ≤ N * Enc.size α
    omega
  simp only [Option.bind_some, h5, if_true, loudS, h4, putCells, h6, h7, hb, and_self, Option.map_some]
  obtain ⟨r, hr⟩ := pa_cons hx
  have e : ((cells a).map SV.v).take (i.toNat * Enc.size α + o) ++ v.cells.map .v ++ ((cells a).map SV.v).drop (i.toNat * Enc.size α + o + sz) = (cells (a.set i y)).map SV.v := by
    rw [cells_set a i y g2, hy]
    have hd : (cells a).drop (i.toNat * Enc.size α) = cells x ++ r := hr
    have hlx : (cells x).length = Enc.size α := cells_len x
    have e1 : (cells a).take (i.toNat * Enc.size α + o) = (cells a).take (i.toNat * Enc.size α) ++ (cells x).take o := by
      rw [List.take_add, hd, List.take_append_of_le_length (by omega)]
    have e2 : (cells a).drop (i.toNat * Enc.size α + o + sz) = (cells x).drop (o + sz) ++ (cells a).drop ((i.toNat + 1) * Enc.size α) := by
      have e3 : (cells a).drop ((i.toNat + 1) * Enc.size α) = r := by
        rw [Nat.add_mul, Nat.one_mul, ← List.drop_drop, hd, ← hlx, List.drop_left]
      rw [e3, Nat.add_assoc, ← List.drop_drop, hd, List.drop_append_of_le_length (by omega)]
    rw [← List.map_take, ← List.map_drop, e1, e2]
    simp [List.map_append, List.append_assoc]
  rw [e]
end
theorem trav_bx {α : Type} [Enc α] {m : Tb SOb} {d : Nat} {x : α} {vs : List V} (h : tget m d = some (bx x)) : trav (shutF m 8) (.ptr d 0 :: vs.map .v) = some (.fptr (cells x) :: vs) := by
  have h1 : shutF m 8 (.ptr d 0) = some (.fptr (cells x)) := by
    show (match tget m d with
      | some (.box cs) => match trav (shutF m 7) cs with
        | some xs => if 0 ≤ xs.length then some (V.fptr (xs.drop 0)) else none
        | none => none
      | _ => none) = _
    rw [h]
    simp only [trav_v, Nat.zero_le, if_true, List.drop_zero]
  simp only [trav, h1, trav_v, Option.bind_some]
theorem KfinP (n : Nat) {fo : Fo} {fs fs' : List Fm} {st0 st : St} {rs : List RV} {e : γ → Option (List V)} {r : γ} (svs : List SV) {ys : List V} (h2 : trav (shutF st.m 8) svs = some ys) (h : (adv S c n fo fs st0, resS st rs) = (some (.rt, fs', st), some svs)) (h3 : e r = some ys) :
    Le ((some r).bind e) (rn S c (finC rs) fo fs st0) := by
  simp only [Prod.mk.injEq] at h
  rw [adv_ok h.1]
  refine Le.of_eq ?_
  simp only [rn, finC, h.2, Option.bind_some, h2]
  exact h3.symm
abbrev Mo (κ ν : Type) := List (κ × ν)
abbrev Mp (κ ν : Type) := Option (List (κ × ν))
class Key (κ : Type) [Enc κ] [DecidableEq κ] where
  kk : KeyK
  ok : ∀ a : κ, keyOkT kk (enc a) = true
  eq : ∀ a b : κ, keyEq (enc a) (enc b) = some (decide (a = b))
instance : Key Int where
  kk := .int .i64
  ok _ := rfl
  eq a b := by
    show some (a == b) = some (decide (a = b))
    rw [show (a == b) = decide (a = b) from Bool.eq_iff_iff.2 (by simp)]
instance : Key EventId where
  kk := .ints 2
  ok _ := rfl
  eq a b := by
    obtain ⟨p, i⟩ := a; obtain ⟨q, j⟩ := b
    simp only [keyEq, intsEq, intsOf, enc_ev, Option.map_some, List.length_cons, if_true, Option.some.injEq]
    rw [Bool.eq_iff_iff]; simp
section
variable {κ ν : Type} [Enc κ] [DecidableEq κ] [Key κ] [Enc ν]
def mfind (k : κ) : Mo κ ν → Option ν
  | [] => none
  | (a, v) :: r => if k = a then some v else mfind k r
def mget (m : Mo κ ν) (k : κ) (z : ν) : ν := (mfind k m).getD z
def mhas (m : Mo κ ν) (k : κ) : Bool := (mfind k m).isSome
def mput (m : Mo κ ν) (k : κ) (v : ν) : Mo κ ν :=
  match m with
  | [] => [(k, v)]
  | (a, w) :: r => if k = a then (k, v) :: r else (a, w) :: mput r k v
def mpKV (m : Mo κ ν) : List (V × V) := m.map fun x => (enc x.1, enc x.2)
def mpOb (m : Mo κ ν) : SOb := .mp (mpKV m)
theorem findV_m (k : κ) : ∀ (m : Mo κ ν) (i : Nat), (findV (enc k) (mpKV m) i).map (Option.map (·.2)) = some ((mfind k m).map enc)
  | [], i => rfl
  | (a, v) :: r, i => by
    simp only [mpKV, List.map_cons, findV, Key.eq, mfind]
    by_cases h : k = a
    · rw [if_pos h]; simp [h]
    · rw [if_neg h]; simp only [h, decide_false]; exact findV_m k r (i + 1)
theorem putMap_m (k : κ) (v : ν) (m : Mo κ ν) : putMap (enc k) (enc v) (mpKV m) = some (mpKV (mput m k v)) := by
  unfold putMap
  have key : ∀ (m : Mo κ ν) (pre : List (V × V)) (i : Nat), pre.length = i → (match findV (enc k) (mpKV m) i with
      | some (some (j, _)) => some ((pre ++ mpKV m).set j (enc k, enc v))
      | some none => some (pre ++ mpKV m ++ [(enc k, enc v)])
      | none => none) = some (pre ++ mpKV (mput m k v)) := by
    intro m
    induction m with
    | nil => intro pre i h; simp [mpKV, findV, mput]
    | cons x r ih =>
      obtain ⟨a, w⟩ := x
      intro pre i h
      rw [show mpKV ((a, w) :: r) = (enc a, enc w) :: mpKV r from rfl]
      simp only [findV, Key.eq, mput]
      by_cases hk : k = a
      · subst hk h
        simp [mpKV]
      · simp only [hk, decide_false, if_false]
        rw [show mpKV ((a, w) :: mput r k v) = (enc a, enc w) :: mpKV (mput r k v) from rfl]
        have := ih (pre ++ [(enc a, enc w)]) (i + 1) (by simp [h])
        simp only [List.append_assoc, List.cons_append, List.nil_append] at this ⊢
        exact this
  have := key m [] 0 rfl
  cases hf : findV (enc k) (mpKV m) 0 with
  | none => rw [hf] at this; cases this
  | some r =>
    rw [hf] at this
    cases r with
    | none => simpa using this
    | some w => obtain ⟨j, w⟩ := w; simpa using this
theorem Alook (n : Nat) (dr : Bool) (fr : List Nat) (q : List RO) (fs' : List Fm) (st : St) (u : Nat) (mp : Mo κ ν) (k : κ) (z : ν) {kk : KeyK} {zv : V} {m : Option β} (hq : q = ⟨d, gd, now, .r (.lookup kk zv false), as, dd, []⟩ :: l)
    (hL : (adv S c n fo fs st0, wanted st.g gd, sargs S.N st.g as, tget st.m u, (!dr || now || oldRead fr [.mp u, cv k]), zv, kk) = (some (.ops dr fr q, fs', st), some true, some [.mp u, cv k], some (mpOb mp), true, enc z, Key.kk κ))
    (h : Le m (aft S c Q dr fr d (.r (.lookup kk zv false)) l fs' dd (putO st d (cv (mget mp k z))))) : Le m (rn S c Q fo fs st0) := by
  simp only [Prod.mk.injEq] at hL
  obtain ⟨h1, h2, h3, h4, h5, h6, h7⟩ := hL
  subst h6 h7
  refine KoneB h1 hq h2 ?_ h
  rw [sop_r, h3]
  simp only [Option.bind_some, h5, if_true, readS, h4, mpOb, Key.ok]
  have := findV_m k mp 0
  simp only [mget]
  cases hf : findV (enc k) (mpKV mp) 0 with
  | none => rw [hf] at this; cases this
  | some r =>
    rw [hf] at this
    simp only [Option.map_some, Option.some.injEq] at this
    cases r with
    | none =>
      cases hm : mfind k mp with
      | none => rfl
      | some w => rw [hm] at this; cases this
    | some w =>
      cases hm : mfind k mp with
      | none => rw [hm] at this; cases this
      | some w2 =>
        rw [hm] at this
        simp only [Option.map_some, Option.some.injEq] at this
        simp only [this]; rfl
theorem Alook2 (n : Nat) (dr : Bool) (fr : List Nat) (q : List RO) (fs' : List Fm) (st : St) (u : Nat) (mp : Mo κ ν) (k : κ) (z : ν) {kk : KeyK} {zv : V} {m : Option β} (hq : q = ⟨d, gd, now, .r (.lookup kk zv true), as, dd, []⟩ :: l)
    (hL : (adv S c n fo fs st0, wanted st.g gd, sargs S.N st.g as, tget st.m u, (!dr || now || oldRead fr [.mp u, cv k]), zv, kk) = (some (.ops dr fr q, fs', st), some true, some [.mp u, cv k], some (mpOb mp), true, enc z, Key.kk κ))
    (h : Le m (aft S c Q dr fr d (.r (.lookup kk zv true)) l fs' dd (putO st d (.v (.tup [enc (mget mp k z), .bool (mhas mp k)]))))) : Le m (rn S c Q fo fs st0) := by
  simp only [Prod.mk.injEq] at hL
  obtain ⟨h1, h2, h3, h4, h5, h6, h7⟩ := hL
  subst h6 h7
  refine KoneB h1 hq h2 ?_ h
  rw [sop_r, h3]
  simp only [Option.bind_some, h5, if_true, readS, h4, mpOb, Key.ok]
  have := findV_m k mp 0
  simp only [mget, mhas]
  cases hf : findV (enc k) (mpKV mp) 0 with
  | none => rw [hf] at this; cases this
  | some r =>
    rw [hf] at this
    simp only [Option.map_some, Option.some.injEq] at this
    cases r with
    | none =>
      cases hm : mfind k mp with
      | none => rfl
      | some w => rw [hm] at this; cases this
    | some w =>
      cases hm : mfind k mp with
      | none => rw [hm] at this; cases this
      | some w2 =>
        rw [hm] at this
        simp only [Option.map_some, Option.some.injEq] at this
        simp only [this]; rfl
theorem Amup (n : Nat) (dr : Bool) (fr : List Nat) (q : List RO) (fs' : List Fm) (st : St) (u : Nat) (mp : Mo κ ν) (k : κ) (v : ν) {kk : KeyK} {m : Option β} (hq : q = ⟨d, gd, now, .l (.mapUp kk), as, dd, []⟩ :: l)
    (hL : (adv S c n fo fs st0, wanted st.g gd, sargs S.N st.g as, tget st.m u, (!dr || now), kk) = (some (.ops dr fr q, fs', st), some true, some [.mp u, cv k, cv v], some (mpOb mp), true, Key.kk κ))
    (h : Le m (aft S c Q dr fr d (.l (.mapUp kk)) l fs' dd (putO { st with m := tput st.m u (mpOb (mput mp k v)) } d (.v .undef)))) : Le m (rn S c Q fo fs st0) := by
  simp only [Prod.mk.injEq] at hL
  obtain ⟨h1, h2, h3, h4, h5, h6⟩ := hL
  subst h6
  refine KoneB h1 hq h2 ?_ h
  rw [sop_l, h3]
  simp only [Option.bind_some, h5, if_true, loudS, h4, mpOb, Key.ok, putMap_m, Option.map_some]
end
end
end Go.VE
namespace Go.VE
instance {n : Nat} : OfNat Arg n := ⟨.s n⟩
abbrev bI (o : BinOp) : K := .p (.bin (some .int) none o)
abbrev ix (n : Nat) : K := .p (.idxS n)
abbrev ld (n : Nat) : K := .r (.load n false)
abbrev lD (n : Nat) : K := .r (.load n true)
abbrev fa (n : Nat) : K := .p (.fieldAddr n)
abbrev ln : K := .p .lenSl
abbrev su (n : Nat) : K := .l (.store n)
abbrev Iv (n : Nat) (x : Int) : Nat × SV := (n, iv x)
abbrev Bv (n : Nat) (x : Bool) : Nat × SV := (n, bv x)
abbrev Cv {α : Type} [Enc α] (n : Nat) (x : α) : Nat × SV := (n, cv x)
abbrev Kv {α : Type} [Enc α] (n : Nat) (x : α) : Nat × SV := (n, cp x)
abbrev Pv (n : Nat) : Nat × SV := (n, .ptr n 0)
abbrev Ov (n : Nat) : Nat × SV := (n, .own (2000 + n))
abbrev Xb {α : Type} [Enc α] (n : Nat) (x : α) : Nat × SOb := (n, bx x)
abbrev Lb {α : Type} [Enc α] (n : Nat) (x : Sl α) : Nat × SOb := (n, slOb x)
abbrev on (d : Nat) (k : K) (as : List Arg) (dd : List Nat) : RO := ⟨some d, none, true, k, as, dd, []⟩
abbrev oz (k : K) (as : List Arg) (dd : List Nat) : RO := ⟨none, none, false, k, as, dd, []⟩
abbrev oy (k : K) (as : List Arg) (dd : List Nat) : RO := ⟨none, none, true, k, as, dd, []⟩
theorem lvl_cells {n : Nat} {α : Type} [Enc α] [Lv n α] (a : α) : V.lvlL n (cells a) = true := Lv.lv a
attribute [simp] lvl_cells lvl_agg lvl_fptr lvlL_cons lvlL_nil lvl_int lvl_bool lvl_str lvl_nsl lvl_esl lvl_nptr lvl_enc lvl_fp lvl_clo lvl_tup res_one res_two res_nil
theorem Fun.orc {S : Sys} {T : Tab} {f : FuncId} {b : Bool} (hT : T f = none) (hk : S.E.keep f = false) (ho : S.orc f [] = some (.bool b)) :
    Fun S (callL S T) f (fun _ : Unit => []) (fun r : Bool => [.bool r]) (fun _ => some b) true where
  k := hk
  h _ := by
    have h := callL_orc (as := []) hT hk ho
    intro r hr
    cases hr
    unfold callC
    rw [h]
    exact shutL_map 8 [.bool b]
  l _ := by simp
  r _ := by simp
  s _ _ := rfl
end Go.VE
namespace Go.VE
def Wp {α : Type} (m : Option α) (P : α → Prop) : Prop := ∃ a, m = some a ∧ P a
section
variable {α β : Type} {P Q : α → Prop}
theorem Wp_some (a : α) : Wp (some a) P ↔ P a := ⟨fun h => by obtain ⟨b, e, p⟩ := h; cases e; exact p, fun p => ⟨a, rfl, p⟩⟩
theorem Wp_none : Wp (none : Option α) P ↔ False := ⟨fun h => (by obtain ⟨b, e, p⟩ := h; cases e), fun h => False.elim h⟩
theorem Wp_bind {m : Option β} {k : β → Option α} : Wp (m.bind k) P ↔ Wp m fun b => Wp (k b) P := by
  cases m with
  | none => simp only [Option.bind_none, Wp_none]
  | some b => simp only [Option.bind_some, Wp_some]
theorem Wp_cif {t : Bool} {a b : Option α} : Wp (cif t a b) P ↔ (t = true → Wp a P) ∧ (t = false → Wp b P) := by
  cases t <;> simp [cif]
theorem Wp.mono {m : Option α} (h : Wp m P) (hpq : ∀ a, P a → Q a) : Wp m Q := let ⟨a, e, p⟩ := h; ⟨a, e, hpq a p⟩
theorem Wp.and {m : Option α} (h : Wp m P) (h2 : Wp m Q) : Wp m fun a => P a ∧ Q a := by
  obtain ⟨a, e, p⟩ := h; obtain ⟨b, e2, q⟩ := h2
  rw [e] at e2; cases e2; exact ⟨a, e, p, q⟩
theorem Wp_eq {m : Option α} {a : α} (h : m = some a) : Wp m P ↔ P a := by subst h; exact Wp_some a
theorem Wp.eq {m : Option α} {a : α} (h : Wp m fun x => x = a) : m = some a := by obtain ⟨b, e, rfl⟩ := h; exact e
theorem Wp_of_eq {m : Option α} {a : α} (h : m = some a) : Wp m fun x => x = a := ⟨a, h, rfl⟩
theorem Wp.det {m : Option α} {a : α} (h : Wp m P) (e : m = some a) : P a := by obtain ⟨b, e2, p⟩ := h; rw [e] at e2; cases e2; exact p
end
section
variable {σ ε ρ : Type}
theorem wloop_step (step : σ → Option (Fw σ ε ρ)) (s : σ) : wloop step s = (step s).bind fun w => match w with
    | .n s' => wloop step s'
    | .x e => some (.x e)
    | .r b => some (.r b) := by
  have h1 : ∀ r, wloop step s = some r → ((step s).bind fun w => match w with
    | .n s' => wloop step s'
    | .x e => some (.x e)
    | .r b => some (.r b)) = some r := by
    intro r h
    obtain ⟨k, hk⟩ := wloop_iff.1 h
    cases k with
    | zero => simp [wloopK] at hk
    | succ k =>
      simp only [wloopK] at hk
      cases hs : step s with
      | none => rw [hs] at hk; cases hk
      | some w =>
        rw [hs] at hk
        cases w with
        | n s' => exact wloop_iff.2 ⟨k, hk⟩
        | x e => exact hk
        | r b => exact hk
  cases hw : wloop step s with
  | some r => exact (h1 r hw).symm
  | none =>
    cases hr : ((step s).bind fun w => match w with
    | .n s' => wloop step s'
    | .x e => some (.x e)
    | .r b => some (.r b)) with
    | none => rfl
    | some r =>
      exfalso
      cases hs : step s with
      | none => rw [hs] at hr; cases hr
      | some w =>
        rw [hs] at hr
        simp only [Option.bind_some] at hr
        have : wloop step s = some r := by
          cases w with
          | n s' =>
            obtain ⟨k, hk⟩ := wloop_iff.1 hr
            exact wloop_iff.2 ⟨k + 1, by simp only [wloopK, hs]; exact hk⟩
          | x e => exact wloop_iff.2 ⟨1, by simp only [wloopK, hs]; exact hr⟩
          | r b => exact wloop_iff.2 ⟨1, by simp only [wloopK, hs]; exact hr⟩
        rw [hw] at this; cases this
def Rnd (I : σ → Prop) (μ : σ → Nat) (px : ε → Prop) (pr : ρ → Prop) (s : σ) : Fw σ ε ρ → Prop
  | .n s' => I s' ∧ μ s' < μ s
  | .x e => px e
  | .r b => pr b
def Pfw (px : ε → Prop) (pr : ρ → Prop) : Fw Empty ε ρ → Prop
  | .x e => px e
  | .r b => pr b
theorem Wp_wloop {step : σ → Option (Fw σ ε ρ)} (I : σ → Prop) (μ : σ → Nat) (px : ε → Prop) (pr : ρ → Prop) (h : ∀ s, I s → Wp (step s) (Rnd I μ px pr s)) {s : σ} (hs : I s) : Wp (wloop step s) (Pfw px pr) := by
  have key : ∀ n s, μ s ≤ n → I s → Wp (wloop step s) (Pfw px pr) := by
    intro n
    induction n with
    | zero =>
      intro s hm hi
      obtain ⟨w, hw, hr⟩ := h s hi
      rw [wloop_step, hw]
      cases w with
      | n s' => exact absurd hr.2 (by omega)
      | x e => exact ⟨_, rfl, hr⟩
      | r b => exact ⟨_, rfl, hr⟩
    | succ n ih =>
      intro s hm hi
      obtain ⟨w, hw, hr⟩ := h s hi
      rw [wloop_step, hw]
      cases w with
      | n s' => exact ih s' (by have := hr.2; omega) hr.1
      | x e => exact ⟨_, rfl, hr⟩
      | r b => exact ⟨_, rfl, hr⟩
  exact key (μ s) s (Nat.le_refl _) hs
theorem Wp_loop {γ : Type} {step : σ → Option (Fw σ ε ρ)} {fx : ε → Option γ} {fr : ρ → Option γ} {P : γ → Prop} (I : σ → Prop) (μ : σ → Nat) {s : σ} (hs : I s)
    (h : ∀ s, I s → Wp (step s) (Rnd I μ (fun e => Wp (fx e) P) (fun b => Wp (fr b) P) s)) : Wp ((wloop step s).bind (Fw.elim fx fr)) P := by
  rw [Wp_bind]
  refine (Wp_wloop I μ _ _ h hs).mono ?_
  intro w hw
  cases w with
  | n a => cases a
  | x e => exact hw
  | r b => exact hw
end
end Go.VE
namespace Go.VE
theorem KitO {β γ δ : Type} {e : γ → Option β} {m : Option δ} {f : δ → Option γ} {L : Option β} (h : ∀ x, m = some x → Le ((f x).bind e) L) : Le ((m.bind f).bind e) L := by
  cases m with
  | none => exact Le.none _
  | some x => exact h x rfl
section
variable {S : Sys} {c : CallS} {β : Type} {Q : Out × St → Option β} {fo : Fo} {fs : List Fm} {st0 : St} {l : List RO} {d : Option Nat} {now : Bool} {as : List Arg} {dd : List Nat}
theorem Le.get {β : Type} {r : β} {L : Option β} (h : Le (some r) L) : L = some r := h r rfl
theorem Kt {n : Nat} {fo fo' : Fo} {fs fs' : List Fm} {st : St} (A : Bool → St) {t : Bool} {m : Option β} (ht : t = true) (h : adv S c n fo fs st = some (fo', fs', A t)) (ha : Le m (rn S c Q fo' fs' (A true))) : Le m (rn S c Q fo fs st) := by
  rw [adv_ok h, ht]; exact ha
theorem Kf {n : Nat} {fo fo' : Fo} {fs fs' : List Fm} {st : St} (A : Bool → St) {t : Bool} {m : Option β} (ht : t = false) (h : adv S c n fo fs st = some (fo', fs', A t)) (ha : Le m (rn S c Q fo' fs' (A false))) : Le m (rn S c Q fo fs st) := by
  rw [adv_ok h, ht]; exact ha
theorem Kidx {α : Type} [Enc α] {s : Sl α} {i : Int} {x : α} {r : β} {L : Option β} (hx : idx s i = some x) (h : Le (((idx s i).bind fun _ => some r).bind some) L) : Le (some r) L := by
  rw [hx] at h; exact h
theorem Kyl {n : Nat} {q : List RO} {fs' : List Fm} {st : St} {id : Nat} {vs : List SV} {xs : List V} {ws : List (List V)} {m : Option β}
    (hL : adv S c n fo fs st0 = some (.ops false [] q, fs', st)) (hq : q = ⟨d, none, now, .c, as, dd, []⟩ :: l) (hs : sargs S.N st.g as = some (.yl id :: vs)) (ha : allV vs = some xs) (hw : st.want = xs :: ws) (hi : id = st.yid)
    (h : Le m (rn S c Q (.ops false [] l) fs' (dropD dd (putO { st with want := ws } d (.v (.bool (st.more || !ws.isEmpty))))))) : Le m (rn S c Q fo fs st0) := by
  refine KoneA hL hq rfl ?_ h
  unfold sop
  simp only [wanted, yieldArgs, hs, ha, hw, hi, if_true, and_self, Bool.false_eq_true, if_false]
theorem loop_eq (a : RC) (fs : List Fm) (st : St) : rn S c Q (.rc (.loop a)) fs st = (loopS (sexec S c a) st).bind (endC (nextC S c Q fs) (exitC S c Q fs) (fun st => Q (.ret, st))) := by
  show goC S c Q (.loop a) fs st = _
  unfold goC; rw [cps_eq]; rfl
theorem loopS_n {f : St → Option (Out × St)} {st st' : St} (h : f st = some (.norm, st')) : loopS f st = loopS f st' := by
  have key : ∀ r, loopS f st = some r ↔ loopS f st' = some r := fun r => by
    constructor
    · intro hr
      obtain ⟨k, hk⟩ := loopS_iff.1 hr
      cases k with
      | zero => simp [loopK] at hk
      | succ k => simp only [loopK, h] at hk; exact loopS_iff.2 ⟨k, hk⟩
    · intro hr
      obtain ⟨k, hk⟩ := loopS_iff.1 hr
      exact loopS_iff.2 ⟨k + 1, by simp only [loopK, h]; exact hk⟩
  cases hx : loopS f st with
  | none =>
    cases hy : loopS f st' with
    | none => rfl
    | some r => rw [(key r).2 hy] at hx; cases hx
  | some r => rw [(key r).1 hx]
theorem loopS_x {f : St → Option (Out × St)} {st st' : St} {o : Out} (h : f st = some (o, st')) (ho : o ≠ .norm) : loopS f st = some (o, st') := by
  refine loopS_iff.2 ⟨1, ?_⟩
  cases o with
  | norm => exact absurd rfl ho
  | exit k => simp only [loopK, h]
  | ret => simp only [loopK, h]
theorem rn_loop_n {a : RC} {fs : List Fm} {st st' : St} (h : rn S c some (.rc a) [] st = some (.norm, st')) : rn S c Q (.rc (.loop a)) fs st = rn S c Q (.rc (.loop a)) fs st' := by
  rw [loop_eq, loop_eq, loopS_n (by rw [sexec_C]; exact h)]
theorem rn_loop_x {a : RC} {fs : List Fm} {st st' : St} {k : Nat} (h : rn S c some (.rc a) [] st = some (.exit k, st')) : rn S c Q (.rc (.loop a)) fs st = rn S c Q (.ex k) fs st' := by
  rw [loop_eq, loopS_x (by rw [sexec_C]; exact h) (by simp)]; rfl
theorem rn_loop_r {a : RC} {fs : List Fm} {st st' : St} (h : rn S c some (.rc a) [] st = some (.ret, st')) : rn S c Q (.rc (.loop a)) fs st = Q (.ret, st') := by
  rw [loop_eq, loopS_x (by rw [sexec_C]; exact h) (by simp)]; rfl
end
def Qi : Out × St → Option Unit
  | (.exit _, _) => none
  | (_, st) => if st.want.isEmpty then some () else none
def Sys.bare (S : Sys) : Sys := ⟨S.E, S.N, fun _ _ _ => none, fun _ _ => none⟩
def callO : CallS := fun _ _ _ => none
def Due (ws rest : List (List V)) (more : Bool) : Prop := more = true ∧ ws = rest ∨ more = false ∧ ws ≠ [] ∧ ∃ r, rest = ws ++ r
theorem iter_run (S : Sys) {f : FuncId} {fi : FI} {nm : FuncId → Option Nat} {rf : RF} (hft : S.E.ft f = some fi) (hN : ∀ g s, nm g = some s → S.N s = g) (hr : IsRes S.E nm fi rf) {a b : List V} {xs : List (List V)} (hlen : a.length + 1 + b.length ≤ rf.na) (hrs : rf.rs = [])
    (h : ∀ ws more, Due ws xs more → ∀ yid, rn S.bare callO Qi (.rc rf.body) [] ⟨numS 0 (a.map .v ++ .yl yid :: b.map .v), [], [], ws, more, yid⟩ = some ()) : IterSound S f a b xs := by
  have k : IterSound S.bare f a b xs := iter_of (S := S.bare) (c := callO) (fi := fi) (nm := nm) (rf := rf) (fun _ _ _ _ _ h => by simp [callO] at h) (fun _ _ _ _ h => by simp [Sys.bare] at h) hft hN hr hlen hrs (fun ws more hw yid => by
    have h1 := h ws more hw yid
    change goC S.bare callO Qi rf.body [] _ = some () at h1
    rw [goC_nil] at h1
    obtain ⟨⟨o, st'⟩, h2, h3⟩ := Option.bind_eq_some_iff.1 h1
    refine ⟨o, st', h2, ?_, ?_, rfl⟩
    · rintro id rfl; simp [Qi] at h3
    · cases o <;> simp [Qi] at h3 <;> exact h3)
  intro ws more hw yid J y Z a' b' H h1 h2 h3 h4 h5
  exact k ws more hw yid J ⟨y.stab, y.yield⟩ Z a' b' H h1 h2 h3 h4 h5
open Classical in
noncomputable def itemsOf (P : FuncId → List V → List V → List (List V) → Prop) (f : FuncId) (a b : List V) : Option (List (List V)) := if h : ∃ xs, P f a b xs then some (Classical.choose h) else none
theorem itemsOf_eq {P : FuncId → List V → List V → List (List V) → Prop} {f : FuncId} {a b : List V} {xs : List (List V)} (h : P f a b xs) (hu : ∀ ys, P f a b ys → ys = xs) : itemsOf P f a b = some xs := by
  have h1 : ∃ xs, P f a b xs := ⟨xs, h⟩
  unfold itemsOf
  rw [dif_pos h1, hu _ (Classical.choose_spec h1)]
theorem itemsOf_ok {P : FuncId → List V → List V → List (List V) → Prop} {f : FuncId} {a b : List V} {xs : List (List V)} (h : itemsOf P f a b = some xs) : P f a b xs := by
  unfold itemsOf at h
  split at h
  · rename_i h1; cases h; exact Classical.choose_spec h1
  · cases h
theorem nm_ok (N : Nat → FuncId) (l : FuncId → Option Nat) : ∀ g s, ((l g).bind fun s => bif Nat.beq (N s) g then some s else none) = some s → N s = g := by
  intro g s h
  obtain ⟨x, _, h2⟩ := Option.bind_eq_some_iff.1 h
  cases hb : Nat.beq (N x) g with
  | true => rw [hb] at h2; cases h2; exact Nat.eq_of_beq_eq_true hb
  | false => rw [hb] at h2; cases h2
theorem res_of {E : Env} {nm : FuncId → Option Nat} {f : FuncId} {rf : RF}
    (h : ((E.ft f).bind fun fi => (compC ⟨E, nm, fi.ntmps⟩ false fi.body).bind fun c => (fi.results.mapM (compR E)).bind fun rs => some (c, rs, fi.ntmps)) = some (erase rf.body, rf.rs, rf.na)) : ∃ fi, E.ft f = some fi ∧ IsRes E nm fi rf := by
  obtain ⟨fi, h1, h2⟩ := Option.bind_eq_some_iff.1 h
  obtain ⟨c, h3, h4⟩ := Option.bind_eq_some_iff.1 h2
  obtain ⟨rs, h5, h6⟩ := Option.bind_eq_some_iff.1 h4
  simp only [Option.some.injEq, Prod.mk.injEq] at h6
  obtain ⟨rfl, rfl, h7⟩ := h6
  exact ⟨fi, h1, h3, h5, h7.symm⟩
def orcOf (f0 : FuncId) (f : FuncId) (as : List V) : Option V := match as with
  | [] => bif Nat.beq f f0 then some (.bool true) else none
  | _ => none
theorem orcOf_ok {E : Env} {f0 f : FuncId} {as : List V} {y : V} (h0 : ∃ n H1, run E n (.fn f0) [] [] = some (.bool true, H1)) (h : orcOf f0 f as = some y) : y.scalar = true ∧ ∃ n H', run E n (.fn f) as [] = some (y, H') := by
  unfold orcOf at h
  split at h
  · cases hb : Nat.beq f f0 with
    | true =>
      rw [hb] at h; cases h
      have := Nat.eq_of_beq_eq_true hb
      subst this
      exact ⟨rfl, h0⟩
    | false => rw [hb] at h; cases h
  · cases h
end Go.VE
namespace Go.VE
def snap (w : World) : Imm := fun b => match w.heap[b]? with
  | some (.cells c _ _) => some (.cells c)
  | some (.map es _) => some (.map es)
  | _ => none
theorem snap_sim (w : World) : Sim (snap w) (fun _ => none) [] w where
  dom _ _ := rfl
  imm b x h := by
    unfold snap at h
    split at h
    · rename_i c el fr hh; cases h; exact ⟨el, fr, hh⟩
    · rename_i es cl hh; cases h; exact ⟨cl, hh⟩
    · cases h
  obs id ob h := by simp at h
  inj id id' ob ob' p p' h := by simp at h
def CLR (I : Imm) (xs : List V) (vs : List Value) : Prop := xs.length = vs.length ∧ ∀ (j : Nat) a b, xs[j]? = some a → vs[j]? = some b → CRel I a b
theorem CLR.nil {I : Imm} : CLR I [] [] := ⟨rfl, by simp⟩
theorem CLR.one {I : Imm} {x : V} {v : Value} (h : CRel I x v) : CLR I [x] [v] := ⟨rfl, fun j a b h1 h2 => by
  cases j with
  | zero => simp at h1 h2; subst h1 h2; exact h
  | succ j => simp at h1⟩
theorem CLR.append {I : Imm} {xs ys : List V} {us vs : List Value} (h : CLR I xs us) (k : CLR I ys vs) : CLR I (xs ++ ys) (us ++ vs) := by
  refine ⟨by simp [h.1, k.1], fun j a b h1 h2 => ?_⟩
  by_cases hj : j < xs.length
  · rw [List.getElem?_append_left hj] at h1
    rw [List.getElem?_append_left (by rw [← h.1]; exact hj)] at h2
    exact h.2 j a b h1 h2
  · rw [List.getElem?_append_right (by omega)] at h1
    rw [List.getElem?_append_right (by rw [← h.1]; omega), ← h.1] at h2
    exact k.2 _ a b h1 h2
theorem mapM_inv {α β : Type} {f : α → Option β} : ∀ {l : List α} {r : List β}, l.mapM f = some r → r.length = l.length ∧ ∀ (i : Nat) a b, l[i]? = some a → r[i]? = some b → f a = some b
  | [], r, h => by simp only [List.mapM_nil, Option.pure_def, Option.some.injEq] at h; subst h; simp
  | x :: l, r, h => by
    simp only [List.mapM_cons, Option.bind_eq_bind, Option.pure_def, Option.bind_eq_some_iff, Option.some.injEq] at h
    obtain ⟨y, hy, ys, hys, rfl⟩ := h
    obtain ⟨h1, h2⟩ := mapM_inv hys
    refine ⟨by simp [h1], fun i a b h3 h4 => ?_⟩
    cases i with
    | zero => simp at h3 h4; subst h3 h4; exact hy
    | succ i => exact h2 i a b (by simpa using h3) (by simpa using h4)
structure BulkOk {H : Type} (b : DataW H → Nat) : Prop where
  lit : ∀ l, 1 ≤ b (.lit l)
  str : ∀ s, s.length + 1 ≤ b (.lit (.string s))
  nil : 1 ≤ b .nil
  slice : ∀ es sp, (es.map b).sum + 1 ≤ b (.slice es sp)
  agg : ∀ ps, (ps.map b).sum + 1 ≤ b (.agg ps)
class Dat (α : Type) where
  wt : α → Nat
  ok : α → Prop
instance : Dat Int where
  wt _ := 1
  ok n := -9223372036854775808 ≤ n ∧ n ≤ 9223372036854775807
instance : Dat Bool where
  wt _ := 1
  ok _ := True
instance : Dat ByteArray where
  wt s := s.size + 1
  ok s := s.size ≤ maxLen
instance {α : Type} [Dat α] : Dat (Sl α) where
  wt s := (s.l.map Dat.wt).sum + 1
  ok s := ∀ x ∈ s.l, Dat.ok x
class Reads (P : Program) (t : TypeId) (α : Type) [Enc α] [Dat α] : Prop where
  size : P.cellsOf t = Enc.size α
  rd : ∀ {H : Type} {enc : TypeId × Value → H} {w : World} {base : Nat} {spare : Nat → Bool} {held : Bool} {fuel : Nat} {cs : List Value} {d : DataW H} {ps : List MemPlace},
    DataW.trod enc P w base spare held fuel t cs = some (d, ps) → ∃ a : α, CLR (snap w) (cells a) cs ∧ Dat.ok a ∧ ∀ b : DataW H → Nat, BulkOk b → Dat.wt a ≤ b d
  shape : ∀ {w : World} {r : _root_.Go.Reach} {base : Nat} {v : Value}, Value.okWide P w r base t v → if Enc.agg α then ∃ cs, v = .agg cs else v.cells = #[v]
section
variable {P : Program}
theorem okWide_flat {w : World} {r : _root_.Go.Reach} {base : Nat} {t : TypeId} {v : Value} {u : _} (hu : P.underlying t = some u) (h1 : ∀ fs, u ≠ .struct fs) (h2 : ∀ n e, u ≠ .array n e) (h : Value.okWide P w r base t v) : v.cells = #[v] := by
  cases v with
  | agg cs =>
    exfalso
    unfold Value.okWide at h
    rw [hu] at h
    split at h
    · rename_i fs heq; cases heq; exact h1 _ rfl
    · rename_i n e heq; cases heq; exact h2 _ _ rfl
    · unfold Cell.okWide at h
      rw [hu] at h
      split at h <;> first | (simp at *; done) | skip
      unfold Cell.ok at h
      rw [hu] at h
      cases u <;> simp at h
  | _ => rfl
theorem Reads.int {t : TypeId} (hu : P.underlying t = some (.int .i64)) (hc : P.cellsOf t = 1) : Reads P t Int where
  size := hc
  rd {H enc w base spare held fuel cs d ps} h := by
    cases fuel with
    | zero => simp [DataW.trod] at h
    | succ fuel =>
      simp only [DataW.trod, hu] at h
      split at h <;> first | (simp at h; done) | skip
      · rename_i heq; cases heq
      · rename_i k k' n heq
        simp only [Option.some.injEq, TypeDesc.int.injEq] at heq
        split at h
        · rename_i hk; obtain ⟨rfl, hw⟩ := hk; subst heq; cases h; exact ⟨n, CLR.one (.int _ n), show _ ∧ _ by simpa [Lit.wf, IntKind.min, IntKind.max, IntKind.signed, IntKind.bits] using hw, fun b hb => hb.lit _⟩
        · simp at h
      all_goals (rename_i heq; cases heq)
  shape h := by simp only [show Enc.agg Int = false from rfl]; exact okWide_flat hu (by simp) (by simp) h
theorem Reads.bool {t : TypeId} (hu : P.underlying t = some .bool) (hc : P.cellsOf t = 1) : Reads P t Bool where
  size := hc
  rd {H enc w base spare held fuel cs d ps} h := by
    cases fuel with
    | zero => simp [DataW.trod] at h
    | succ fuel =>
      simp only [DataW.trod, hu] at h
      split at h <;> first | (simp at h; done) | skip
      · rename_i b _; cases h; exact ⟨b, CLR.one (.bool b), trivial, fun b hb => hb.lit _⟩
      all_goals (rename_i heq; cases heq)
  shape h := by simp only [show Enc.agg Bool = false from rfl]; exact okWide_flat hu (by simp) (by simp) h
theorem Reads.str {t : TypeId} (hu : P.underlying t = some .string) (hc : P.cellsOf t = 1) : Reads P t ByteArray where
  size := hc
  rd {H enc w base spare held fuel cs d ps} h := by
    cases fuel with
    | zero => simp [DataW.trod] at h
    | succ fuel =>
      simp only [DataW.trod, hu] at h
      split at h <;> first | (simp at h; done) | skip
      all_goals (first | (rename_i heq; cases heq; done) | skip)
      rename_i s _
      split at h
      · rename_i hs
        cases h
        exact ⟨s, CLR.one (.str s), hs, fun b hb => hb.str _⟩
      · simp at h
  shape h := by simp only [show Enc.agg ByteArray = false from rfl]; exact okWide_flat hu (by simp) (by simp) h
theorem add_cell {w : World} {a : Addr} {n : Nat} {v : Value} (h : w.cell? (a.add n) = some v) (hn : n = 0 ∨ True) : ∃ c el fr, w.heap[a.block]? = some (.cells c el fr) ∧ c[a.off + n]? = some v ∧ (n = 0 → a.spot = none) := by
  unfold World.cell? Addr.add at h
  by_cases h0 : n = 0
  · subst h0
    simp only [if_true] at h
    split at h
    · rename_i c el fr hh
      split at h
      · simp at h
      · rename_i hs
        exact ⟨c, el, fr, hh, h, fun _ => by simpa using hs⟩
    · simp at h
  · simp only [if_neg h0] at h
    split at h
    · rename_i c el fr hh
      simp only [Option.isSome_none, Bool.false_eq_true, if_false] at h
      exact ⟨c, el, fr, hh, h, fun e => absurd e h0⟩
    · simp at h
theorem Reads.sl {t e : TypeId} {α : Type} [Enc α] [Dat α] [Reads P e α] (hu : P.underlying t = some (.slice e)) (hc : P.cellsOf t = 1) (hpos : 0 < Enc.size α) : Reads P t (Sl α) where
  size := hc
  rd {H enc w base spare held fuel cs d ps} h := by
    cases fuel with
    | zero => simp [DataW.trod] at h
    | succ fuel =>
      simp only [DataW.trod, hu] at h
      split at h <;> first | (simp at h; done) | skip
      all_goals (first | (rename_i heq; cases heq; done) | skip)
      · cases h; exact ⟨.nil, CLR.one .nsl, fun x hx => by simp [Sl.l] at hx, fun b hb => hb.nil⟩
      · rename_i e' a len cap heq
        cases heq
        split at h
        · rename_i hcap
          obtain ⟨elems, hel, h⟩ := Option.bind_eq_some_iff.1 h
          obtain ⟨rest, _, h⟩ := Option.map_eq_some_iff.1 h
          cases h
          obtain ⟨hlen, hget⟩ := mapM_inv hel
          simp only [List.length_range] at hlen
          have hes : P.cellsOf e = Enc.size α := Reads.size (α := α)
          have hx : ∀ i, i < len → ∃ x : α, ∃ csi : List Value, w.cells? base (a.add (i * P.cellsOf e)) (P.cellsOf e) = some csi ∧ CLR (snap w) (cells x) csi ∧ Dat.ok x ∧ ∀ b : DataW H → Nat, BulkOk b → ∀ y, elems[i]? = some y → Dat.wt x ≤ b y.1 := fun i hi => by
            have := hget i i (elems[i]'(by omega)) (by simp [hi]) (List.getElem?_eq_getElem (by omega))
            obtain ⟨csi, h1, h2⟩ := Option.bind_eq_some_iff.1 this
            obtain ⟨x, hx, hk, hb⟩ := Reads.rd (P := P) (t := e) (α := α) (d := (elems[i]'(by omega)).1) (ps := (elems[i]'(by omega)).2) h2
            exact ⟨x, csi, h1, hx, hk, fun b bo y hy => by
              rw [List.getElem?_eq_getElem (by omega)] at hy; cases hy; exact hb b bo⟩
          have hall : ∀ n, n ≤ len → ∃ xs : List α, xs.length = n ∧ (∀ i x, xs[i]? = some x → ∃ csi : List Value, w.cells? base (a.add (i * P.cellsOf e)) (P.cellsOf e) = some csi ∧ CLR (snap w) (cells x) csi) ∧ (∀ x ∈ xs, Dat.ok x) ∧ ∀ b : DataW H → Nat, BulkOk b → (xs.map Dat.wt).sum ≤ (((elems.take n).map (·.1)).map b).sum := by
            intro n
            induction n with
            | zero => intro _; exact ⟨[], rfl, by simp, by simp, by simp⟩
            | succ n ih =>
              intro hn
              obtain ⟨xs, h1, h2, h5, h6⟩ := ih (by omega)
              obtain ⟨x, csi, h3, h4, h7, h8⟩ := hx n (by omega)
              refine ⟨xs ++ [x], by simp [h1], fun i y hy => ?_, fun y hy => ?_, fun b bo => ?_⟩
              rotate_left
              · rcases List.mem_append.1 hy with hy | hy
                · exact h5 y hy
                · simp at hy; subst hy; exact h7
              · have k1 := h6 b bo
                have k2 := h8 b bo _ (List.getElem?_eq_getElem (by omega))
                rw [List.take_succ, List.getElem?_eq_getElem (by omega : n < elems.length)]
                simp only [List.map_append, List.sum_append, Option.toList_some, List.map_cons, List.map_nil, List.sum_cons, List.sum_nil]
                omega
              by_cases hi : i < xs.length
              · rw [List.getElem?_append_left hi] at hy; exact h2 i y hy
              · rw [List.getElem?_append_right (by omega)] at hy
                have : i - xs.length = 0 := by
                  cases hk : i - xs.length with
                  | zero => rfl
                  | succ k => rw [hk] at hy; simp at hy
                rw [this] at hy
                simp at hy; subst hy
                have : i = n := by omega
                subst this
                exact ⟨csi, h3, h4⟩
          obtain ⟨xs, hxl, hxs, hxok, hxw⟩ := hall len (Nat.le_refl _)
          refine ⟨.row xs, CLR.one ?_, hxok, fun b bo => ?_⟩
          rotate_left
          · have k := hxw b bo
            rw [List.take_of_length_le (by omega)] at k
            have k2 := bo.slice (elems.map (·.1)) (rest.map (·.1))
            show (xs.map Dat.wt).sum + 1 ≤ _
            omega
          show CRel _ (.fsl (Enc.size α) (rows xs)) _
          cases hl : xs with
          | nil =>
            subst hl
            simp at hxl; subst hxl
            exact .fsl0 _ _ _
          | cons x0 xr =>
            rw [← hl]
            have hl0 : 0 < len := by rw [← hxl, hl]; simp
            have hcell : ∀ i x, xs[i]? = some x → ∀ j y, (cells x)[j]? = some y → ∃ v, w.cell? ((a.add (i * Enc.size α)).add j) = some v ∧ CRel (snap w) y v := by
              intro i x hi j y hy
              obtain ⟨csi, h1, h2⟩ := hxs i x hi
              rw [hes] at h1
              unfold World.cells? at h1
              split at h1
              · obtain ⟨g1, g2⟩ := mapM_inv h1
                have hj : j < Enc.size α := by rw [← cells_len x]; exact (List.getElem?_eq_some_iff.1 hy).1
                obtain ⟨v, hv⟩ : ∃ v, csi[j]? = some v := ⟨_, List.getElem?_eq_getElem (by rw [g1]; simpa using hj)⟩
                exact ⟨v, g2 j j v (by simp [hj]) hv, h2.2 j y v hy hv⟩
              · simp at h1
            have hadd : ∀ i j, (a.add (i * Enc.size α)).add j = a.add (i * Enc.size α + j) ∨ True := fun _ _ => .inr trivial
            have hget2 : ∀ i x, xs[i]? = some x → ∀ j y, (cells x)[j]? = some y → ∃ c el fr v, w.heap[a.block]? = some (.cells c el fr) ∧ c[a.off + i * Enc.size α + j]? = some v ∧ CRel (snap w) y v ∧ (i = 0 → j = 0 → a.spot = none) := by
              intro i x hi j y hy
              obtain ⟨v, h1, h2⟩ := hcell i x hi j y hy
              obtain ⟨c, el, fr, g1, g2, g3⟩ := add_cell h1 (.inr trivial)
              have hb : (a.add (i * Enc.size α)).block = a.block := by unfold Addr.add; split <;> rfl
              have ho : (a.add (i * Enc.size α)).off = a.off + i * Enc.size α := by unfold Addr.add; split <;> simp_all
              rw [hb] at g1; rw [ho] at g2
              refine ⟨c, el, fr, v, g1, g2, h2, ?_⟩
              rintro rfl rfl
              have := g3 rfl
              simpa [Addr.add] using this
            have h00 : ∃ y, (cells x0)[0]? = some y := ⟨_, List.getElem?_eq_getElem (by rw [cells_len]; exact hpos)⟩
            obtain ⟨y0, hy0⟩ := h00
            obtain ⟨c, el, fr, v0, hc1, _, _, hsp⟩ := hget2 0 x0 (by rw [hl]; rfl) 0 y0 hy0
            have hsp := hsp rfl rfl
            obtain ⟨b, o, sp⟩ := a
            simp only at hsp hc1; subst hsp
            have hI : snap w b = some (.cells c) := by unfold snap; rw [hc1]
            have hrl : (rows xs).length = len := by rw [rows_length, hxl]
            rw [← hrl]
            refine .fsl _ _ b o cap c hI (by rw [hrl]; exact hcap.2.1) (fun r hr => ?_) (fun r hr y hy => ?_) ?_ (fun i j r y v hr hy hv => ?_)
            · obtain ⟨x, _, rfl⟩ := List.mem_map.1 hr; exact cells_len x
            · obtain ⟨x, _, rfl⟩ := List.mem_map.1 hr; exact List.all_eq_true.1 (all_one x) y hy
            ·
              obtain ⟨xl, hxl2⟩ : ∃ x, xs[len - 1]? = some x := ⟨_, List.getElem?_eq_getElem (by omega)⟩
              obtain ⟨yl, hyl⟩ : ∃ y, (cells xl)[Enc.size α - 1]? = some y := ⟨_, List.getElem?_eq_getElem (by rw [cells_len]; omega)⟩
              obtain ⟨c2, _, _, v2, k1, k2, _, _⟩ := hget2 (len - 1) xl hxl2 (Enc.size α - 1) yl hyl
              simp only at k1 k2
              rw [hc1] at k1; cases k1
              have := (Array.getElem?_eq_some_iff.1 k2).1
              rw [hrl]
              have e : len * Enc.size α = (len - 1) * Enc.size α + Enc.size α := by
                obtain ⟨m, rfl⟩ : ∃ m, len = m + 1 := ⟨len - 1, by omega⟩
                simp [Nat.add_mul]
              omega
            · simp only [rows, List.getElem?_map, Option.map_eq_some_iff] at hr
              obtain ⟨x, hx1, rfl⟩ := hr
              obtain ⟨c2, _, _, v2, k1, k2, k3, _⟩ := hget2 i x hx1 j y hy
              simp only at k1 k2
              rw [hc1] at k1; cases k1
              rw [hv] at k2; cases k2
              exact k3
        · simp at h
  shape h := by simp only [show Enc.agg (Sl α) = false from rfl]; exact okWide_flat hu (by simp) (by simp) h
theorem CLR.seg {I : Imm} {acc xs : List V} {cs : List Value} {o n : Nat} (h : CLR I acc (cs.take o)) (k : CLR I xs ((cs.drop o).take n)) : CLR I (acc ++ xs) (cs.take (o + n)) := by
  rw [List.take_add]; exact h.append k
theorem CLR.fin {I : Imm} {xs : List V} {cs : List Value} {n : Nat} (h : CLR I xs (cs.take n)) (hl : cs.length = n) : CLR I xs cs := by
  rw [List.take_of_length_le (by omega)] at h; exact h
theorem Reads.st {t : TypeId} {fs : Array Field} {α : Type} [Enc α] [Dat α] (hu : P.underlying t = some (.struct fs)) (hc : P.cellsOf t = Enc.size α) (ha : Enc.agg α = true)
    (h : ∀ {H : Type} {enc : TypeId × Value → H} {w : World} {base : Nat} {spare : Nat → Bool} {held : Bool} {fuel : Nat} {cs : List Value} {l : List (DataW H × List MemPlace)}, cs.length = Enc.size α →
      (fs.toList.mapM fun f => DataW.trod enc P w base spare held fuel f.type ((cs.drop f.offset).take (P.cellsOf f.type))) = some l → ∃ a : α, CLR (snap w) (cells a) cs ∧ Dat.ok a ∧ ∀ b : DataW H → Nat, BulkOk b → Dat.wt a ≤ ((l.map (·.1)).map b).sum + 1) : Reads P t α where
  size := hc
  rd {H enc w base spare held fuel cs d ps} hr := by
    cases fuel with
    | zero => simp [DataW.trod] at hr
    | succ fuel =>
      simp only [DataW.trod, hu] at hr
      split at hr <;> first | (simp at hr; done) | skip
      all_goals (first | (rename_i heq; cases heq; done) | skip)
      rename_i hl
      obtain ⟨l, h1, h2⟩ := Option.map_eq_some_iff.1 hr
      cases h2
      obtain ⟨a, k1, k2, k3⟩ := h (by rw [hl, hc]) h1
      exact ⟨a, k1, k2, fun b bo => Nat.le_trans (k3 b bo) (bo.agg _)⟩
  shape hv := by
    rw [if_pos ha]
    unfold Value.okWide at hv
    rw [hu] at hv
    obtain ⟨cs, h1, _⟩ := hv
    exact ⟨cs, h1⟩
theorem Reads.arg {t : TypeId} {α : Type} [Enc α] [Dat α] [Reads P t α] {H : Type} {enc' : TypeId × Value → H} {w : World} {base : Nat} {spare : Nat → Bool} {held : Bool} {r : _root_.Go.Reach} {b : Nat} {v : Value} {d : DataW H} {ps : List MemPlace}
    (hv : Value.okWide P w r b t v) (h : DataW.Trod enc' P w base spare held t v d ps) : ∃ a : α, VRel (snap w) (fun _ => none) (enc a) v ∧ Dat.ok a ∧ ∀ b : DataW H → Nat, BulkOk b → Dat.wt a ≤ b d := by
  obtain ⟨fuel, h⟩ := h
  obtain ⟨a, ⟨h1, h2⟩, hok, hwt⟩ := Reads.rd (P := P) (t := t) (α := α) h
  have hs := Reads.shape (P := P) (t := t) (α := α) hv
  refine ⟨a, ?_, hok, hwt⟩
  cases ha : Enc.agg α with
  | true =>
    rw [ha, if_pos rfl] at hs
    obtain ⟨cs, rfl⟩ := hs
    rw [enc_agg ha]
    refine .c _ _ (.agg _ _ (by simpa [Value.cells] using h1) (fun j x y hx hy => h2 j x y hx (by simpa [Value.cells] using hy)))
  | false =>
    rw [ha] at hs
    simp only [Bool.false_eq_true, if_false] at hs
    rw [hs] at h2
    rw [enc_plain ha] at h2
    exact .c _ _ (h2 0 _ _ rfl rfl)
end
end Go.VE
namespace Go.VE
open Go.ChangeShapes Go.WideShapes Go.ChangeAt Go.RowKit
theorem grown_of_step {I I' : Imm} {μ' : Mu} {H' : Heap} {w w' : World} (s : Step I (fun _ => none) [] w I' μ' H' w') : Grown w w' := by
  have hf : ∀ b, b < w.heap.size → w'.heap[b]? = w.heap[b]? := fun b hb => s.frame b hb (by rintro ⟨id, p, ob, h, _⟩; simp at h)
  refine ⟨⟨s.os, s.out, fun i hi => ?_⟩, fun a => ?_, s.size⟩
  · rw [hf i hi]
    split
    · rename_i h1 h2; rw [h1] at h2; cases h2; exact ⟨rfl, rfl, rfl, fun _ _ => rfl⟩
    · rename_i h1 h2; rw [h1] at h2; cases h2; exact .inr ⟨rfl, rfl⟩
    · rfl
  · by_cases hb : a.block < w.heap.size
    · unfold World.frozen?; rw [hf _ hb]
    · have h0 : w.frozen? a = false := by
        unfold World.frozen?
        rw [Array.getElem?_eq_none (by omega)]
      rw [h0]; exact s.fz a h0
theorem calls_of_run {P : Program} {call : CallF} (hc : CallOK P call) {f : FuncId} {args : List V} {b : Bool} {H' : Heap} (h : call (.fn f) args [] = some (.bool b, H')) {w : World} {vs : List Value}
    (hv : LRel (snap w) (fun _ => none) args vs) : Calls P f vs.toArray w fun e w' => e = .returned (.bool b) ∧ Grown w w' := by
  intro cs
  have k := ((hc.fn f args [] _ H' h).2 (snap w) (fun _ => none) w vs (snap_sim w) hv)
  obtain ⟨e, w', fr, ⟨u, I', μ', rfl, hu, _, hs⟩, hcm, h1, h2⟩ := k.2 cs (by simp [Fence.room, fr])
  refine ⟨_, w', fr, ⟨?_, grown_of_step hs⟩, hcm.comes, h1, h2⟩
  cases hu with
  | c _ _ hcr => cases hcr; rfl
variable {P : Program} {H : Type} {enc : TypeId × Value → H}
theorem trodAll_grown {ts : List TypeId} {vs : List Value} {ds : List (DataW H)} {ps : List MemPlace} {w w' : World} (hg : Grown w w') (h : DataW.TrodAll enc P w 0 (fun _ => true) true ts vs ds ps) : DataW.TrodAll enc P w' 0 (fun _ => true) true ts vs ds ps := by
  have hcell : ∀ p : MemPlace, p.block < w.heap.size → w.sameAt w' p := by
    intro p hp
    have k := hg.1.2.2 p.block hp
    cases p with
    | cell b off =>
      simp only [World.sameAt, World.cell?]
      simp only [MemPlace.block] at k hp
      split at k
      · rename_i c t fr c' t' fr' h1 h2
        rw [h1, h2]
        simp only
        have := k.2.2.2 off (fun x => x)
        simpa using this
      · rename_i h1 h2; rw [h1, h2]
      · rw [k]
    | map b =>
      simp only [World.sameAt]
      simp only [MemPlace.block] at k hp
      split at k
      · rename_i c t fr c' t' fr' h1 h2
        obtain ⟨rfl, rfl, h3, h4⟩ := k
        rw [h1, h2]
        have : c' = c := Array.ext_getElem? fun i => h4 i (fun x => x)
        rw [this]
      · rename_i h1 h2
        rcases k with k | ⟨rfl, rfl⟩
        · exact k.elim
        · rw [h1, h2]
      · exact k
  induction ts generalizing vs ds ps with
  | nil => cases vs <;> cases ds <;> simp_all [DataW.TrodAll]
  | cons t ts ih =>
    cases vs with
    | nil => simp [DataW.TrodAll] at h
    | cons v vs =>
      cases ds with
      | nil => simp [DataW.TrodAll] at h
      | cons d ds =>
        obtain ⟨p, q, ⟨n, h1⟩, h2, rfl⟩ := h
        exact ⟨p, q, ⟨n, DataW.trod_carry n _ _ _ h1 fun x hx => hcell x (DataW.trod_lt n _ _ _ h1 x hx)⟩, ih h2, rfl⟩
theorem post_true {T : TypeId → Prop} (K : Kids P T) (hz : ∀ t e, T t → P.underlying t = some (.slice e) → 0 < P.cellsOf e) {f : Func} {s : ChangeSpec} {apart fresh handsOn again : Bool} {W W' : World} {args : Array Value} {ds gs : List (DataW H)} {before : List MemPlace} {tb : TypeId}
    (hT : ∀ t ∈ f.params.toList, T t) (hvars : s.vars = []) (hfn : s.fn H (ds ++ gs) = { results := [.lit (.bool true)], args := ds }) (hrt : f.resultTypes = #[tb]) (hb : P.underlying tb = some .bool)
    (hW : DataW.Whole enc P f.params.toList s.vars apart W args.toList ds gs before) (hg : Grown W W') : s.post enc P f apart fresh handsOn again W args (.bool true) W' := by
  have hW' := hW
  obtain ⟨p, q, hA, hV, rfl, hfz, hnd⟩ := hW
  rw [hvars] at hV
  obtain ⟨rfl, rfl⟩ := trodVars_none hV
  refine post_of_same (pa := p) (pv := []) hW' (fun _ _ _ => ?_) (fun sp hsp => ?_) (fun _ _ => ?_) rfl (hg.frame _) hg.2.1 (ok_one hrt rfl (okWide_bool_mk hb _))
  · rw [hrt, hfn]; exact trodAll_cons_mk (shut_bool hb _) trodAll_mk0
  · rw [hfn]
    exact DataW.TrodAll.respare K hz hT (trodAll_grown hg hA) (fun x hx => hsp x (List.mem_append_left _ hx))
  · rw [hfn, hvars]; rfl
end Go.VE
namespace Go.VE
theorem shutL_bool {m : Tb SOb} {n : Nat} {rs : List SV} {b : Bool} (h : shutL m n rs = some [.bool b]) : rs = [.v (.bool b)] := by
  cases rs with
  | nil => cases n <;> simp [shutL] at h
  | cons x r =>
    have h1 : shut m n x = some (.bool b) ∧ shutL m n r = some [] := by
      unfold shutL at h
      split at h
      · rename_i y s h1 h2; simp only [Option.some.injEq, List.cons.injEq] at h; obtain ⟨rfl, rfl⟩ := h; exact ⟨h1, h2⟩
      · cases h
    have h2 : r = [] := by
      cases r with
      | nil => rfl
      | cons y r =>
        have := h1.2
        unfold shutL at this
        split at this <;> simp at this
    subst h2
    have h3 := h1.1
    cases x with
    | v y => unfold shut at h3; simp only [Option.some.injEq] at h3; rw [h3]
    | own d => unfold shut at h3; split at h3 <;> simp only [Option.some.injEq, reduceCtorEq] at h3; rename_i k es xs _; cases k <;> simp [slV] at h3
    | ptr d o =>
      cases n with
      | zero => simp [shut] at h3
      | succ n =>
        unfold shut at h3
        split at h3 <;> try cases h3
        split at h3 <;> try cases h3
        split at h3 <;> cases h3
    | mp d => unfold shut at h3; split at h3 <;> cases h3
    | clo f a b =>
      cases n with
      | zero => simp [shut] at h3
      | succ n => unfold shut at h3; split at h3 <;> cases h3
    | tup l =>
      cases n with
      | zero => simp [shut] at h3
      | succ n => unfold shut at h3; obtain ⟨_, _, hq⟩ := Option.map_eq_some_iff.1 h3; cases hq
    | _ => cases n <;> simp [shut] at h3
theorem run_true {S : Sys} {T : Tab} (hT : TabOk S T) (hI : ∀ f a b xs, S.items f a b = some xs → IterSound S f a b xs) {f : FuncId} {xs : List V} (hg : V.goodL xs = true) (h : callC (callL S T) f xs = some [.bool true]) :
    ∃ n H', run S.E n (.fn f) xs [] = some (.bool true, H') := by
  unfold callC at h
  obtain ⟨⟨rs, m⟩, h1, h2⟩ := Option.bind_eq_some_iff.1 h
  have := shutL_bool h2
  simp only at this
  subst this
  exact runs_of hT hI hg h1 rfl
theorem calls_true {S : Sys} {T : Tab} {P : Program} (hT : TabOk S T) (hI : ∀ f a b xs, S.items f a b = some xs → IterSound S f a b xs) (hc : ∀ n, CallOK P (run S.E n)) {f : FuncId} {xs : List V} (hg : V.goodL xs = true) (h : callC (callL S T) f xs = some [.bool true])
    {w : World} {args : Array Value} (hv : LRel (snap w) (fun _ => none) xs args.toList) : Calls P f args w fun e w' => e = .returned (.bool true) ∧ Go.RowKit.Grown w w' := by
  obtain ⟨n, H', hr⟩ := run_true hT hI hg h
  have := calls_of_run (hc n) hr hv
  simpa using this
theorem Reads.argOf {P : Program} {t : TypeId} {α : Type} [Enc α] [Dat α] [Reads P t α] {H : Type} {enc' : TypeId × Value → H} {w : World} {base b : Nat} {spare : Nat → Bool} {held : Bool} {v : Value} {d : DataW H} {ps : List MemPlace} {params : Array TypeId} {args : Array Value}
    (hval : ∀ (j : Nat) t v, params[j]? = some t → args[j]? = some v → Value.okWide P w .any b t v) (j : Nat) (h1 : params[j]? = some t) (h2 : args[j]? = some v) (h : DataW.Trod enc' P w base spare held t v d ps) :
    ∃ a : α, VRel (snap w) (fun _ => none) (enc a) v ∧ Dat.ok a ∧ ∀ b : DataW H → Nat, BulkOk b → Dat.wt a ≤ b d := Reads.arg (hval j t v h1 h2) h
end Go.VE
namespace Go.VE
theorem wrapN (n : Nat) (h : n < 9223372036854775807) : IntKind.wrap .i64 ((n : Int) + 1) = ((n + 1 : Nat) : Int) := by
  simp [IntKind.wrap, IntKind.bits, IntKind.signed]; omega
theorem wrapI (n : Int) (h1 : -9223372036854775808 ≤ n) (h2 : n ≤ 9223372036854775807) : IntKind.wrap .i64 n = n := by
  simp [IntKind.wrap, IntKind.bits, IntKind.signed]; omega
section
variable {α β : Type} {P : β → Prop}
theorem idxN (s : Sl α) (i : Nat) : idx s (i : Int) = s.l[i]? := by
  unfold idx; rw [if_pos (by omega)]; rfl
theorem idx_some {s : Sl α} {i : Nat} (h : i < s.l.length) : idx s (i : Int) = some s.l[i] := by rw [idxN, List.getElem?_eq_getElem h]
theorem idxI {s : Sl α} {i : Int} (h0 : 0 ≤ i) : idx s i = s.l[i.toNat]? := by unfold idx; rw [if_pos h0]
theorem slPart_to (s : Sl α) (i : Nat) (h : i ≤ s.l.length) : ∃ x, slPart s none (some (i : Int)) = some x ∧ x.l = s.l.take i := by
  unfold slPart boundsV
  simp only [Option.getD_none, Option.getD_some]
  rw [if_pos (by omega)]
  cases s <;> simp [Sl.l] at h ⊢ <;> simp [h]
theorem bind_eq {m : Option α} {a : α} {k : α → Option β} (h : m = some a) : m.bind k = k a := by rw [h]; rfl
theorem cif_t {γ : Type} {a b : γ} : cif true a b = a := rfl
theorem cif_f {γ : Type} {a b : γ} : cif false a b = b := rfl
theorem cif_and (a b : Bool) : cif a (some b) (some false) = some (a && b) := by cases a <;> rfl
theorem cif_or (a b : Bool) : cif a (some true) (some b) = some (a || b) := by cases a <;> rfl
theorem cif_some (a : Bool) (x y : β) : cif a (some x) (some y) = some (if a then x else y) := by cases a <;> rfl
end
def place {α : Type} (f : α → Bool) (l : List α) : Int := match l.findIdx? f with
  | some i => i
  | none => -1
theorem findIdx?_take_none {α : Type} {f : α → Bool} {l : List α} {i : Nat} (h : ∀ j, j < i → ∀ x, l[j]? = some x → f x = false) (hi : l.length ≤ i) : l.findIdx? f = none := by
  rw [List.findIdx?_eq_none_iff]
  intro x hx
  obtain ⟨j, hj⟩ := List.getElem?_of_mem hx
  have : j < l.length := (List.getElem?_eq_some_iff.1 hj).1
  exact h j (by omega) x hj
theorem findIdx?_at {α : Type} {f : α → Bool} {l : List α} {i : Nat} {x : α} (h : ∀ j, j < i → ∀ x, l[j]? = some x → f x = false) (hx : l[i]? = some x) (hf : f x = true) : l.findIdx? f = some i := by
  rw [List.findIdx?_eq_some_iff_getElem]
  obtain ⟨hi, rfl⟩ := List.getElem?_eq_some_iff.1 hx
  exact ⟨hi, hf, fun j hj => by rw [h j hj _ (List.getElem?_eq_getElem (by omega))]; simp⟩
theorem search_eq {α : Type} {step : Int → Option (Fw Int Unit Int)} {s : Sl α} {p : α → Option Bool} {f : α → Bool} (hp : ∀ x ∈ s.l, p x = some (f x)) (hl : s.l.length < 9223372036854775807)
    (hs : ∀ i, step i = cif (decide (i < len s)) ((idx s i).bind fun x_1 => (p x_1).bind fun x_2 => cif x_2 (some (.r i)) (some (.n (IntKind.wrap .i64 (i + 1))))) (some (.x ()))) :
    (wloop step 0).bind (Fw.elim (fun _ => some (-1)) (fun e => some e)) = some (place f s.l) := by
  refine Wp.eq (Wp_loop (fun i : Int => ∃ n : Nat, i = n ∧ n ≤ s.l.length ∧ ∀ j, j < n → ∀ x, s.l[j]? = some x → f x = false) (fun i : Int => s.l.length - i.toNat) ⟨0, rfl, Nat.zero_le _, fun j hj => absurd hj (by omega)⟩ ?_)
  rintro i ⟨n, rfl, hn, hb⟩
  rw [hs, Wp_cif]
  refine ⟨fun h => ?_, fun h => ?_⟩
  · have hlt : n < s.l.length := by simpa [len] using h
    rw [idx_some hlt, Option.bind_some, hp _ (List.getElem_mem hlt), Option.bind_some, Wp_cif]
    refine ⟨fun hf => ?_, fun hf => ?_⟩
    · rw [Wp_some]
      show Wp (some (n : Int)) _
      rw [Wp_some]
      unfold place
      rw [findIdx?_at hb (List.getElem?_eq_getElem hlt) hf]
    · rw [Wp_some]
      refine ⟨⟨n + 1, wrapN n (by omega), by omega, fun j hj x hx => ?_⟩, ?_⟩
      · by_cases e : j = n
        · subst e; rw [List.getElem?_eq_getElem hlt] at hx; cases hx; exact hf
        · exact hb j (by omega) x hx
      · rw [wrapN n (by omega)]; simp; omega
  · have hge : s.l.length ≤ n := by simpa [len] using h
    rw [Wp_some]
    show Wp (some (-1 : Int)) _
    rw [Wp_some]
    unfold place
    rw [findIdx?_take_none hb hge]
theorem place_any {α : Type} (f : α → Bool) (l : List α) : decide (place f l ≥ 0) = l.any f := by
  unfold place
  cases h : l.findIdx? f with
  | none =>
    rw [List.findIdx?_eq_none_iff] at h
    have : l.any f = false := by rw [List.any_eq_false]; intro x hx; simp [h x hx]
    rw [this]; rfl
  | some i =>
    obtain ⟨hi, hf, _⟩ := List.findIdx?_eq_some_iff_getElem.1 h
    have : l.any f = true := List.any_eq_true.2 ⟨_, List.getElem_mem hi, hf⟩
    rw [this]; simp
theorem place_lt {α : Type} (f : α → Bool) (l : List α) : -1 ≤ place f l ∧ place f l < l.length := by
  unfold place
  cases h : l.findIdx? f with
  | none => simp; omega
  | some i =>
    obtain ⟨hi, _⟩ := List.findIdx?_eq_some_iff_getElem.1 h
    constructor <;> simp <;> omega
theorem Wp_weach {α σ ε ρ : Type} {step : α → σ → Option (Fw σ ε ρ)} {l : List α} (I : Nat → σ → Prop) (px : ε → Prop) (pr : ρ → Prop) {s : σ} (h0 : I 0 s)
    (h : ∀ i a s, l[i]? = some a → I i s → Wp (step a s) fun w => match w with | .n s' => I (i + 1) s' | .x e => px e | .r b => pr b) :
    Wp (weach step l s) fun w => match w with | .n s' => I l.length s' | .x e => px e | .r b => pr b := by
  have key : ∀ (r : List α) (i : Nat) (s : σ), l.drop i = r → i ≤ l.length → I i s → Wp (weach step r s) fun w => match w with | .n s' => I l.length s' | .x e => px e | .r b => pr b := by
    intro r
    induction r with
    | nil =>
      intro i s hd hi hs
      have : i = l.length := by have := List.drop_eq_nil_iff.1 hd; omega
      subst this
      exact ⟨_, rfl, hs⟩
    | cons a r ih =>
      intro i s hd hi hs
      have hlt : i < l.length := by
        apply Classical.byContradiction; intro hn
        rw [List.drop_eq_nil_of_le (by omega)] at hd; cases hd
      have h2 := List.drop_eq_getElem_cons hlt
      rw [h2] at hd
      simp only [List.cons.injEq] at hd
      obtain ⟨w, hw, hp⟩ := h i a s (by rw [List.getElem?_eq_getElem hlt, hd.1]) hs
      simp only [weach, hw, Option.bind_some]
      cases w with
      | n s' => exact ih (i + 1) s' hd.2 (by omega) hp
      | x e => exact ⟨_, rfl, hp⟩
      | r b => exact ⟨_, rfl, hp⟩
  exact key l 0 s rfl (Nat.zero_le _) h0
theorem Wp_each {α σ ε ρ γ : Type} {step : α → σ → Option (Fw σ ε ρ)} {l : List α} {fn : σ → Option γ} {fx : ε → Option γ} {fr : ρ → Option γ} {P : γ → Prop} (I : Nat → σ → Prop) {s : σ} (h0 : I 0 s)
    (h : ∀ i a s, l[i]? = some a → I i s → Wp (step a s) fun w => match w with | .n s' => I (i + 1) s' | .x e => Wp (fx e) P | .r b => Wp (fr b) P)
    (hn : ∀ s, I l.length s → Wp (fn s) P) : Wp ((weach step l s).bind (Fw.elimE fn fx fr)) P := by
  rw [Wp_bind]
  refine (Wp_weach I _ _ h0 h).mono ?_
  intro w hw
  cases w with
  | n s => exact hn s hw
  | x e => exact hw
  | r b => exact hw
end Go.VE
