/-
 ChannelBalance says true for every trace and every list of counts that together are of bulk at most 1048576, and both read behind the call as they read before: for every such argument, without a condition.
-/
import Derived.Test.YtnfakljmdnbipaaRows
import Derived.Test.YtnfakljmdnbipaaS2
import Derived.Test.YtnfakljmdnbipaaT1
import Derived.Test.YtnfakljmdnbipaaG1
set_option linter.all false
namespace Go.VE
namespace trace_events_c1
def ve : List RO := [o1 20 (.s 18) [], o2 21 (ix 5) [.s 16, .s 18] [], o2 22 (lD 5) [.s 21] [21], o2 6 (.a (.alloc 5 [.int .i64 0, .int .i64 0, .int .i64 0, .int .i64 0, .au])) [] [], o1 5 (.s 20) [20], oz (.l (.store 5)) [.s 6, .s 22] [22]]
def s7 : List RO := [o1 23 (.s 0) [], o1 24 (.s 3) [], o1 25 (.s 5) [5], o2 26 (bI .add) [.s 25, .k (.int .i64 1)] [25], o2 27 (.p (.build [.int .i64 0, .int .i64 0] [(0, 1), (1, 1)])) [.s 24, .s 26] [24, 26], o2 28 (lD 5) [.s 6] [6],
 o2 29 .c [.s 23, .s 27, .s 28] [23, 27, 28], o2 30 (.p .not) [.s 29] [29]]
def qF : List RO := [o2 31 (bI .add) [.s 18, .k (.int .i64 1)] [], o1 18 (.s 31) [31]]
def zo : RC := .hg (.seq (.ops [o2 19 (bI .lss) [.s 18, .s 17] []]) (.seq (.cond (.s 19) .skip (.exit 2)) (.seq (.block 3 (.seq (.ops ve) (.seq (.ops s7) (.cond (.s 30) .ret .skip)))) (.ops qF)))) (.keep [0,3,8,9,10,16,17,18] [])
def B5 : List RO := [o1 12 (.s 10) [], o2 13 (ix 3) [.s 8, .s 10] [], o2 14 (lD 3) [.s 13] [13], o2 4 (.a (.alloc 3 [.str ByteArray.empty, .au, .au])) [] [], o1 3 (.s 12) [12], oz (.l (.store 3)) [.s 4, .s 14] [14]]
def A3 : List RO := [o2 15 (fa 2) [.s 4] [], o2 16 (ld 1) [.s 15] [15], o2 17 ln [.s 16] [], o1 18 (.k (.int .i64 0)) []]
def za : List RO := [o2 32 (bI .add) [.s 10, .k (.int .i64 1)] [], o1 10 (.s 32) [32]]
def U2 : RC := .block 2 (.gh (.keep [0,3,8,9,10,16,17,18] []) (.loop zo))
def D1 : RC := .hg (.seq (.ops [o2 11 (bI .lss) [.s 10, .s 9] []]) (.seq (.cond (.s 11) .skip (.exit 0)) (.seq (.block 1 (.seq (.ops B5) (.seq (.ops A3) U2))) (.ops za)))) (.keep [0,8,9,10] [])
def Qa : List RO := [o2 7 (fa 0) [.s 1] [1], o2 8 (ld 1) [.s 7] [7], o2 9 ln [.s 8] [], o1 10 (.k (.int .i64 0)) []]
def U1 : RC := .block 0 (.gh (.keep [0,8,9,10] []) (.loop D1))
def text : RF := ⟨33, [], .seq (.ops Qa) U1⟩
section
variable {S : Sys}
abbrev I1 (ps : Sl aS) (i : Int) (ws : List (List V)) (more : Bool) (y : Nat) : St := ⟨[(0, .yl y), Cv 8 ps, Iv 9 (len ps), Iv 10 i], [], [], ws, more, y⟩
abbrev I2 (ps : Sl aS) (i : Int) (es : Sl Event) (j : Int) (ws : List (List V)) (more : Bool) (y : Nat) : St := ⟨[(0, .yl y), Iv 3 i, Cv 8 ps, Iv 9 (len ps), Iv 10 i, Cv 16 es, Iv 17 (len es), Iv 18 j], [], [], ws, more, y⟩
abbrev S2 (ps : Sl aS) (i : Int) (es : Sl Event) (j : Int) (b : Bool) (ws : List (List V)) (more : Bool) (y : Nat) : St := ⟨[(0, .yl y), Iv 3 i, Cv 8 ps, Iv 9 (len ps), Iv 10 i, Cv 16 es, Iv 17 (len es), Iv 18 j, Bv 19 b], [], [], ws, more, y⟩
theorem Jw (ps : Sl aS) (i : Int) (es : Sl Event) (j : Int) (ws : List (List V)) (more : Bool) (y : Nat) (hj : decide (j < len es) = false) :
 rn S.bare jH some (.rc zo) [] (I2 ps i es j ws more y) = some (.exit 2, S2 ps i es j false ws more y) := by
 refine Le.get ?_
 refine Kf (n := 7) (fo' := .rc (.cond (.s 19) .skip (.exit 2))) (fs' := [.seq (.seq (.block 3 (.seq (.ops ve) (.seq (.ops s7) (.cond (.s 30) .ret .skip)))) (.ops qF)), .gst (.keep [0,3,8,9,10,16,17,18] [])]) (fun b => S2 ps i es j b ws more y) hj (by kernel_rfl) ?_
 exact Le.of_eq (by kernel_rfl)
theorem Ma (ps : Sl aS) (i : Int) (es : Sl Event) (j : Int) (e : Event) (ws : List (List V)) (more : Bool) (y : Nat) (hj : decide (j < len es) = true) (hx : idx es j = some e) (hb : (!(more || !ws.isEmpty)) = false) :
 rn S.bare jH some (.rc zo) [] (I2 ps i es j ([enc (⟨i, IntKind.wrap .i64 (j + 1)⟩ : aa), enc e] :: ws) more y) = some (.norm, I2 ps i es (IntKind.wrap .i64 (j + 1)) ws more y) := by
 refine Le.get ?_
 refine Kt (n := 7) (fo' := .rc (.cond (.s 19) .skip (.exit 2))) (fs' := [.seq (.seq (.block 3 (.seq (.ops ve) (.seq (.ops s7) (.cond (.s 30) .ret .skip)))) (.ops qF)), .gst (.keep [0,3,8,9,10,16,17,18] [])]) (fun b => S2 ps i es j b ([enc (⟨i, IntKind.wrap .i64 (j + 1)⟩ : aa), enc e] :: ws) more y) hj (by kernel_rfl) ?_
 refine Gi hx ?_
 refine ey 8 false [] (ve.drop 1) [.seq (.seq (.ops s7) (.cond (.s 30) .ret .skip)), .blk 3, .seq (.ops qF), .gst (.keep [0,3,8,9,10,16,17,18] [])] ⟨[(0, .yl y), Iv 3 i, Cv 8 ps, Iv 9 (len ps), Iv 10 i, Cv 16 es, Iv 17 (len es), Iv 18 j, Bv 19 true, Iv 20 j], [], [], ([enc (⟨i, IntKind.wrap .i64 (j + 1)⟩ : aa), enc e] :: ws), more, y⟩ .i64 rfl (by kernel_rfl) fun x h1 => ?_
 obtain rfl : x = e := by rw [hx] at h1; cases h1; rfl
 refine B6 1 false [] (ve.drop 3) [.seq (.seq (.ops s7) (.cond (.s 30) .ret .skip)), .blk 3, .seq (.ops qF), .gst (.keep [0,3,8,9,10,16,17,18] [])] ⟨[(0, .yl y), Iv 3 i, Cv 8 ps, Iv 9 (len ps), Iv 10 i, Cv 16 es, Iv 17 (len es), Iv 18 j, Bv 19 true, Iv 20 j, Cv 22 x], [], [], ([enc (⟨i, IntKind.wrap .i64 (j + 1)⟩ : aa), enc x] :: ws), more, y⟩ [iv 0, iv 0, iv 0, iv 0, .v .au] rfl (by simp only [af, rE, lu, mE, lC, mI, nR, mJ, nK, kY, mw, rI, nI, nN, nE, nL, pN, pK, mK, nu, SV.bT]; rfl) (by kernel_rfl) ?_
 refine Ast 1 false [] (ve.drop 5) [.seq (.seq (.ops s7) (.cond (.s 30) .ret .skip)), .blk 3, .seq (.ops qF), .gst (.keep [0,3,8,9,10,16,17,18] [])] ⟨[(0, .yl y), Iv 3 i, Cv 8 ps, Iv 9 (len ps), Iv 10 i, Cv 16 es, Iv 17 (len es), Iv 18 j, Bv 19 true, Cv 22 x, Pv 6, Iv 5 j], [Xb 6 (⟨0, 0, 0, 0, .nil⟩ : Event)], [], ([enc (⟨i, IntKind.wrap .i64 (j + 1)⟩ : aa), enc x] :: ws), more, y⟩ 6 0 x [iv 0, iv 0, iv 0, iv 0, .v .au] ((cells x).map .v) rfl (by kernel_rfl) ?_
 refine N9 (n := 10) (q := s7.drop 6) (fs' := [.seq (.cond (.s 30) .ret .skip), .blk 3, .seq (.ops qF), .gst (.keep [0,3,8,9,10,16,17,18] [])]) (st := ⟨[(0, .yl y), Iv 3 i, Cv 8 ps, Iv 9 (len ps), Iv 10 i, Cv 16 es, Iv 17 (len es), Iv 18 j, Bv 19 true, (23, .yl y), Cv 27 (⟨i, IntKind.wrap .i64 (j + 1)⟩ : aa), Cv 28 x], [Xb 6 x], [], ([enc (⟨i, IntKind.wrap .i64 (j + 1)⟩ : aa), enc x] :: ws), more, y⟩) (vs := [cv (⟨i, IntKind.wrap .i64 (j + 1)⟩ : aa), cv x]) (by kernel_rfl) rfl (by kernel_rfl) (by kernel_rfl) rfl rfl ?_
 refine Kf (n := 3) (fo' := .rc (.cond (.s 30) .ret .skip)) (fs' := [.blk 3, .seq (.ops qF), .gst (.keep [0,3,8,9,10,16,17,18] [])]) (fun b => ⟨[(0, .yl y), Iv 3 i, Cv 8 ps, Iv 9 (len ps), Iv 10 i, Cv 16 es, Iv 17 (len es), Iv 18 j, Bv 19 true, Bv 30 b], [Xb 6 x], [], ws, more, y⟩) hb (by kernel_rfl) ?_
 exact Le.of_eq (by kernel_rfl)
theorem Ih (ps : Sl aS) (i : Int) (es : Sl Event) (j : Int) (e : Event) (ws : List (List V)) (more : Bool) (y : Nat) (hj : decide (j < len es) = true) (hx : idx es j = some e) (hb : (!(more || !ws.isEmpty)) = true) :
 rn S.bare jH some (.rc zo) [] (I2 ps i es j ([enc (⟨i, IntKind.wrap .i64 (j + 1)⟩ : aa), enc e] :: ws) more y) = some (.ret, ⟨[(0, .yl y), Iv 3 i, Cv 8 ps, Iv 9 (len ps), Iv 10 i, Cv 16 es, Iv 17 (len es), Iv 18 j, Bv 19 true, Bv 30 true], [Xb 6 e], [], ws, more, y⟩) := by
 refine Le.get ?_
 refine Kt (n := 7) (fo' := .rc (.cond (.s 19) .skip (.exit 2))) (fs' := [.seq (.seq (.block 3 (.seq (.ops ve) (.seq (.ops s7) (.cond (.s 30) .ret .skip)))) (.ops qF)), .gst (.keep [0,3,8,9,10,16,17,18] [])]) (fun b => S2 ps i es j b ([enc (⟨i, IntKind.wrap .i64 (j + 1)⟩ : aa), enc e] :: ws) more y) hj (by kernel_rfl) ?_
 refine Gi hx ?_
 refine ey 8 false [] (ve.drop 1) [.seq (.seq (.ops s7) (.cond (.s 30) .ret .skip)), .blk 3, .seq (.ops qF), .gst (.keep [0,3,8,9,10,16,17,18] [])] ⟨[(0, .yl y), Iv 3 i, Cv 8 ps, Iv 9 (len ps), Iv 10 i, Cv 16 es, Iv 17 (len es), Iv 18 j, Bv 19 true, Iv 20 j], [], [], ([enc (⟨i, IntKind.wrap .i64 (j + 1)⟩ : aa), enc e] :: ws), more, y⟩ .i64 rfl (by kernel_rfl) fun x h1 => ?_
 obtain rfl : x = e := by rw [hx] at h1; cases h1; rfl
 refine B6 1 false [] (ve.drop 3) [.seq (.seq (.ops s7) (.cond (.s 30) .ret .skip)), .blk 3, .seq (.ops qF), .gst (.keep [0,3,8,9,10,16,17,18] [])] ⟨[(0, .yl y), Iv 3 i, Cv 8 ps, Iv 9 (len ps), Iv 10 i, Cv 16 es, Iv 17 (len es), Iv 18 j, Bv 19 true, Iv 20 j, Cv 22 x], [], [], ([enc (⟨i, IntKind.wrap .i64 (j + 1)⟩ : aa), enc x] :: ws), more, y⟩ [iv 0, iv 0, iv 0, iv 0, .v .au] rfl (by simp only [af, rE, lu, mE, lC, mI, nR, mJ, nK, kY, mw, rI, nI, nN, nE, nL, pN, pK, mK, nu, SV.bT]; rfl) (by kernel_rfl) ?_
 refine Ast 1 false [] (ve.drop 5) [.seq (.seq (.ops s7) (.cond (.s 30) .ret .skip)), .blk 3, .seq (.ops qF), .gst (.keep [0,3,8,9,10,16,17,18] [])] ⟨[(0, .yl y), Iv 3 i, Cv 8 ps, Iv 9 (len ps), Iv 10 i, Cv 16 es, Iv 17 (len es), Iv 18 j, Bv 19 true, Cv 22 x, Pv 6, Iv 5 j], [Xb 6 (⟨0, 0, 0, 0, .nil⟩ : Event)], [], ([enc (⟨i, IntKind.wrap .i64 (j + 1)⟩ : aa), enc x] :: ws), more, y⟩ 6 0 x [iv 0, iv 0, iv 0, iv 0, .v .au] ((cells x).map .v) rfl (by kernel_rfl) ?_
 refine N9 (n := 10) (q := s7.drop 6) (fs' := [.seq (.cond (.s 30) .ret .skip), .blk 3, .seq (.ops qF), .gst (.keep [0,3,8,9,10,16,17,18] [])]) (st := ⟨[(0, .yl y), Iv 3 i, Cv 8 ps, Iv 9 (len ps), Iv 10 i, Cv 16 es, Iv 17 (len es), Iv 18 j, Bv 19 true, (23, .yl y), Cv 27 (⟨i, IntKind.wrap .i64 (j + 1)⟩ : aa), Cv 28 x], [Xb 6 x], [], ([enc (⟨i, IntKind.wrap .i64 (j + 1)⟩ : aa), enc x] :: ws), more, y⟩) (vs := [cv (⟨i, IntKind.wrap .i64 (j + 1)⟩ : aa), cv x]) (by kernel_rfl) rfl (by kernel_rfl) (by kernel_rfl) rfl rfl ?_
 refine Kt (n := 3) (fo' := .rc (.cond (.s 30) .ret .skip)) (fs' := [.blk 3, .seq (.ops qF), .gst (.keep [0,3,8,9,10,16,17,18] [])]) (fun b => ⟨[(0, .yl y), Iv 3 i, Cv 8 ps, Iv 9 (len ps), Iv 10 i, Cv 16 es, Iv 17 (len es), Iv 18 j, Bv 19 true, Bv 30 b], [Xb 6 x], [], ws, more, y⟩) hb (by kernel_rfl) ?_
 exact Le.of_eq (by kernel_rfl)
abbrev S1 (ps : Sl aS) (i : Int) (b : Bool) (ws : List (List V)) (more : Bool) (y : Nat) : St := ⟨[(0, .yl y), Cv 8 ps, Iv 9 (len ps), Iv 10 i, Bv 11 b], [], [], ws, more, y⟩
theorem IM (ps : Sl aS) (i : Int) (ws : List (List V)) (more : Bool) (y : Nat) (hj : decide (i < len ps) = false) :
 rn S.bare jH some (.rc D1) [] (I1 ps i ws more y) = some (.exit 0, S1 ps i false ws more y) := by
 refine Le.get ?_
 refine Kf (n := 7) (fo' := .rc (.cond (.s 11) .skip (.exit 0))) (fs' := [.seq (.seq (.block 1 (.seq (.ops B5) (.seq (.ops A3) U2))) (.ops za)), .gst (.keep [0,8,9,10] [])]) (fun b => S1 ps i b ws more y) hj (by kernel_rfl) ?_
 exact Le.of_eq (by kernel_rfl)
def Hi : List Fm := [.blk 2, .blk 1, .seq (.ops za), .gst (.keep [0,8,9,10] [])]
theorem Hp (ps : Sl aS) (i : Int) (p : aS) (ws : List (List V)) (more : Bool) (y : Nat) (r : Out × St) (hj : decide (i < len ps) = true) (hx : idx ps i = some p)
 (h : rn S.bare jH some (.rc (.loop zo)) Hi (I2 ps i p.events 0 ws more y) = some r) : rn S.bare jH some (.rc D1) [] (I1 ps i ws more y) = some r := by
 refine Le.get ?_
 refine Kt (n := 7) (fo' := .rc (.cond (.s 11) .skip (.exit 0))) (fs' := [.seq (.seq (.block 1 (.seq (.ops B5) (.seq (.ops A3) U2))) (.ops za)), .gst (.keep [0,8,9,10] [])]) (fun b => S1 ps i b ws more y) hj (by kernel_rfl) ?_
 refine Gi hx ?_
 refine ey 8 false [] (B5.drop 1) [.seq (.seq (.ops A3) U2), .blk 1, .seq (.ops za), .gst (.keep [0,8,9,10] [])] ⟨[(0, .yl y), Cv 8 ps, Iv 9 (len ps), Iv 10 i, Bv 11 true, Iv 12 i], [], [], ws, more, y⟩ .i64 rfl (by kernel_rfl) fun x h1 => ?_
 obtain rfl : x = p := by rw [hx] at h1; cases h1; rfl
 refine B6 1 false [] (B5.drop 3) [.seq (.seq (.ops A3) U2), .blk 1, .seq (.ops za), .gst (.keep [0,8,9,10] [])] ⟨[(0, .yl y), Cv 8 ps, Iv 9 (len ps), Iv 10 i, Bv 11 true, Iv 12 i, Cv 14 x], [], [], ws, more, y⟩ [.v (.str ByteArray.empty), .v .au, .v .au] rfl (by simp only [af, rE, lu, mE, lC, mI, nR, mJ, nK, kY, mw, rI, nI, nN, nE, nL, pN, pK, mK, nu, SV.bT]; rfl) (by kernel_rfl) ?_
 refine Ast 1 false [] (B5.drop 5) [.seq (.seq (.ops A3) U2), .blk 1, .seq (.ops za), .gst (.keep [0,8,9,10] [])] ⟨[(0, .yl y), Cv 8 ps, Iv 9 (len ps), Iv 10 i, Bv 11 true, Cv 14 x, Pv 4, Iv 3 i], [Xb 4 (⟨ByteArray.empty, .nil, .nil⟩ : aS)], [], ws, more, y⟩ 4 0 x [.v (.str ByteArray.empty), .v .au, .v .au] ((cells x).map .v) rfl (by kernel_rfl) ?_
 refine dP 6 false [] (A3.drop 2) [.seq U2, .blk 1, .seq (.ops za), .gst (.keep [0,8,9,10] [])] ⟨[(0, .yl y), Cv 8 ps, Iv 9 (len ps), Iv 10 i, Bv 11 true, Pv 4, Iv 3 i, Cv 16 x.events], [Xb 4 x], [], ws, more, y⟩ x.events rfl (by kernel_rfl) ?_
 refine eY (n := 5) (fo' := .rc (.loop zo)) (fs' := Hi) (st' := I2 ps i x.events 0 ws more y) (by kernel_rfl) (Le.of_eq h)
theorem Hx (ps : Sl aS) (i : Int) (es : Sl Event) (j : Int) (ws : List (List V)) (more : Bool) (y : Nat) :
 rn S.bare jH some (.ex 2) Hi (S2 ps i es j false ws more y) = some (.norm, I1 ps (IntKind.wrap .i64 (i + 1)) ws more y) := by kernel_rfl
theorem wX (n : Nat) (h : n < 9223372036854775807) : IntKind.wrap .i64 ((n : Int) + 1) = ((n + 1 : Nat) : Int) := by
 simp [IntKind.wrap, IntKind.bits, IntKind.signed]; omega
abbrev eI (x : aa × Event) : List V := [enc x.1, enc x.2]
theorem ya.step {x : List V} {ws rest : List (List V)} {more : Bool} (h : ya ws (x :: rest) more) : ∃ ws', ws = x :: ws' ∧ ((!(more || !ws'.isEmpty)) = false ∧ ya ws' rest more ∨ (!(more || !ws'.isEmpty)) = true ∧ ws' = []) := by
 rcases h with ⟨rfl, rfl⟩ | ⟨rfl, hn, r, hr⟩
 ·exact ⟨rest, rfl, .inl ⟨rfl, .inl ⟨rfl, rfl⟩⟩⟩
 ·cases ws with
  | nil => exact absurd rfl hn
  | cons w ws =>
   simp only [List.cons_append, List.cons.injEq] at hr
   obtain ⟨rfl, rfl⟩ := hr
   refine ⟨ws, rfl, ?_⟩
   cases ws with
   | nil => exact .inr ⟨rfl, rfl⟩
   | cons z zs => exact .inl ⟨rfl, .inr ⟨rfl, by simp, r, rfl⟩⟩
theorem Bu {α : Type} {s : Sl α} {j : Nat} {x : α} {r : List α} (h : s.l.drop j = x :: r) : idx s (j : Int) = some x ∧ decide ((j : Int) < len s) = true ∧ s.l.drop (j + 1) = r := by
 have h1 : j < s.l.length := by
  apply Classical.byContradiction; intro hn
  rw [List.drop_eq_nil_of_le (by omega)] at h; cases h
 have h2 := List.drop_eq_getElem_cons h1
 rw [h2] at h
 simp only [List.cons.injEq] at h
 refine ⟨?_, by simp [len, h1], h.2⟩
 unfold idx
 rw [if_pos (by omega)]
 simp [List.getElem?_eq_getElem h1, h.1]
variable {Q : Out × St → Option (Out × St)} {fs : List Fm}
theorem inner (ps : Sl aS) (i : Int) (es : Sl Event) (hl : es.l.length < 9223372036854775807) (more : Bool) (y : Nat) (R : List (List V)) : ∀ (rem : List Event) (j : Nat), es.l.drop j = rem → ∀ ws, ya ws ((iW i j rem).map eI ++ R) more →
 (∃ (ws' : List (List V)) (j' : Int), ya ws' R more ∧ rn S.bare jH Q (.rc (.loop zo)) fs (I2 ps i es j ws more y) = rn S.bare jH Q (.ex 2) fs (S2 ps i es j' false ws' more y)) ∨
 (∃ st' : St, st'.want = [] ∧ rn S.bare jH Q (.rc (.loop zo)) fs (I2 ps i es j ws more y) = Q (.ret, st'))
 | [], j, hd, ws, hw => by
  have h1 : decide ((j : Int) < len es) = false := by
   have : es.l.length ≤ j := by simpa using hd
   simp [len]; omega
  exact .inl ⟨ws, j, by simpa [iW] using hw, zI (Jw ps i es j ws more y h1)⟩
 | e :: rem, j, hd, ws, hw => by
  obtain ⟨h1, h2, h3⟩ := Bu hd
  have hj : j < es.l.length := by simpa [len] using h2
  simp only [iW, List.map_cons, List.cons_append] at hw
  obtain ⟨ws', rfl, hb⟩ := ya.step hw
  have hwr := wX j (by omega)
  have hji : ((j : Int) + 1) = IntKind.wrap .i64 ((j : Int) + 1) := by rw [hwr]; simp
  rcases hb with ⟨hb, hd'⟩ | ⟨hb, rfl⟩
  ·have k := Ma (S := S) ps i es j e ws' more y h2 h1 hb
   rw [← hji] at k
   have k2 := zg (Q := Q) (fs := fs) k
   have ih := inner ps i es hl more y R rem (j + 1) h3 ws' (by push_cast; exact hd')
   rw [show ((j + 1 : Nat) : Int) = (j : Int) + 1 from rfl] at ih
   rcases ih with ⟨ws2, j2, g1, g2⟩ | ⟨st', g1, g2⟩
   ·exact .inl ⟨ws2, j2, g1, k2.trans g2⟩
   ·exact .inr ⟨st', g1, k2.trans g2⟩
  ·have k := Ih (S := S) ps i es j e [] more y h2 h1 hb
   rw [← hji] at k
   exact .inr ⟨_, by rfl, zz k⟩
theorem outer (ps : Sl aS) (hl : ps.l.length < 9223372036854775807) (hes : ∀ p ∈ ps.l, p.events.l.length < 9223372036854775807) (more : Bool) (y : Nat) : ∀ (rem : List aS) (i : Nat), ps.l.drop i = rem → ∀ ws, ya ws ((fT i rem).map eI) more →
 rn S.bare jH Qi (.rc (.loop D1)) [.blk 0] (I1 ps i ws more y) = some ()
 | [], i, hd, ws, hw => by
  have h1 : decide ((i : Int) < len ps) = false := by
   have : ps.l.length ≤ i := by simpa using hd
   simp [len]; omega
  rw [zI (IM ps i ws more y h1)]
  have : ws = [] := by
   rcases hw with ⟨_, rfl⟩ | ⟨_, hn, r, hr⟩
   ·rfl
   ·have : ws = [] := by cases ws with
     | nil => rfl
     | cons => simp [fT] at hr
    exact absurd this hn
  subst this
  rfl
 | p :: rem, i, hd, ws, hw => by
  obtain ⟨h1, h2, h3⟩ := Bu hd
  have hi : i < ps.l.length := by simpa [len] using h2
  have hp : p ∈ ps.l := List.mem_of_mem_drop (i := i) (by rw [hd]; exact List.mem_cons_self ..)
  simp only [fT, List.map_append] at hw
  have hwr := wX i (by omega)
  rcases inner (S := S) (Q := some) (fs := Hi) ps i p.events (hes p hp) more y _ p.events.l 0 rfl ws hw with ⟨ws', j', g1, g2⟩ | ⟨st', g1, g2⟩
  ·rw [Hx, hwr] at g2
   rw [zg (Hp ps i p ws more y _ h2 h1 g2)]
   exact outer ps hl hes more y rem (i + 1) h3 ws' g1
  ·rw [zz (Hp ps i p ws more y _ h2 h1 g2)]
   simp [Qi, g1]
theorem all (t : Trace) (its : List (aa × Event)) (h : eN t = some its) (ws : List (List V)) (more : Bool) (hw : ya ws (its.map eI) more) (y : Nat) :
 rn S.bare jH Qi (.rc text.body) [] ⟨q_ 0 (([] : List V).map .v ++ .yl y :: [V.fptr (cells t)].map .v), [], [], ws, more, y⟩ = some () := by
 unfold eN at h
 split at h
 ·rename_i hk
  cases h
  simp only [Bool.and_eq_true, List.all_eq_true, z6, decide_eq_true_eq] at hk
  refine Le.get ?_
  refine dP 4 false [] (Qa.drop 2) [.seq U1] ⟨[(0, .yl y), Cv 8 t.procs], [], [], ws, more, y⟩ t.procs rfl (by kernel_rfl) ?_
  refine eY (n := 5) (fo' := .rc (.loop D1)) (fs' := [.blk 0]) (st' := I1 t.procs 0 ws more y) (by kernel_rfl) (Le.of_eq ?_)
  exact outer t.procs hk.1 hk.2 more y t.procs.l 0 rfl ws hw
 ·cases h
end
theorem B9 {α : Type} [aF α] {a b : Sl α} (h : dI a = dI b) : rows a.l = rows b.l := by
 cases a <;> cases b <;> first | rfl | (simp only [dI, Sl.k, kz, V.fsl.injEq, true_and, reduceCtorEq] at h; done) | (simp only [dI, Sl.k, kz, V.fsl.injEq, true_and, reduceCtorEq] at h; exact h)
theorem A_ (p : Int) : ∀ (es es' : List Event) (j : Int), rows es = rows es' → (iW p j es).map eI = (iW p j es').map eI
 | [], [], _, _ => rfl
 | [], _ :: _, _, h => by simp [rows] at h
 | _ :: _, [], _, h => by simp [rows] at h
 | e :: es, e' :: es', j, h => by
  simp only [rows, List.map_cons, List.cons.injEq] at h
  have h1 : enc e = enc e' := by show V.agg (cells e) = V.agg (cells e'); rw [h.1]
  simp only [iW, List.map_cons, eI, h1, A_ p es es' (j + 1) h.2]
theorem wZ : ∀ (ps ps' : List aS) (i : Int), rows ps = rows ps' → (fT i ps).map eI = (fT i ps').map eI
 | [], [], _, _ => rfl
 | [], _ :: _, _, h => by simp [rows] at h
 | _ :: _, [], _, h => by simp [rows] at h
 | p :: ps, p' :: ps', i, h => by
  simp only [rows, List.map_cons, List.cons.injEq] at h
  have h1 : dI p.events = dI p'.events := by
   have := h.1
   change [V.str p.name, dI p.vars, dI p.events] = [V.str p'.name, dI p'.vars, dI p'.events] at this
   simp only [List.cons.injEq] at this
   exact this.2.2.1
  simp only [fT, List.map_append, A_ i _ _ 0 (B9 h1), wZ ps ps' (i + 1) h.2]
def z9 (f : FuncId) (g : FuncId) (a b : List V) (xs : List (List V)) : Prop := ∃ (t : Trace) (its : List (aa × Event)), g = f ∧ a = [] ∧ b = [.fptr (cells t)] ∧ eN t = some its ∧ xs = its.map eI
theorem z9.uniq {f g : FuncId} {a b : List V} {xs ys : List (List V)} (h : z9 f g a b xs) (k : z9 f g a b ys) : xs = ys := by
 obtain ⟨t, its, rfl, rfl, rfl, h1, rfl⟩ := h
 obtain ⟨t', its', _, _, h2, h3, rfl⟩ := k
 simp only [List.cons.injEq, V.fptr.injEq, and_true] at h2
 have h4 : dI t.procs = dI t'.procs := by
  change [dI t.procs] = [dI t'.procs] at h2
  simpa using h2
 unfold eN at h1 h3
 split at h1 <;> split at h3 <;> simp only [Option.some.injEq, reduceCtorEq] at h1 h3
 subst h1 h3
 exact wZ _ _ 0 (B9 h4)
end trace_events_c1
end Go.VE
namespace Go.VE
instance : a_ Assign where
 wt x := a_.wt x.var + a_.wt x.value + 1
 ok x := a_.ok x.var ∧ a_.ok x.value ∧ True
instance : a_ Event where
 wt x := a_.wt x.kind + a_.wt x.peer + a_.wt x.message + a_.wt x.time + a_.wt x.assign + 1
 ok x := a_.ok x.kind ∧ a_.ok x.peer ∧ a_.ok x.message ∧ a_.ok x.time ∧ a_.ok x.assign ∧ True
instance : a_ Var where
 wt x := a_.wt x.name + a_.wt x.init_ + 1
 ok x := a_.ok x.name ∧ a_.ok x.init_ ∧ True
instance : a_ aS where
 wt x := a_.wt x.name + a_.wt x.vars + a_.wt x.events + 1
 ok x := a_.ok x.name ∧ a_.ok x.vars ∧ a_.ok x.events ∧ True
instance : a_ Trace where
 wt x := a_.wt x.procs + 1
 ok x := a_.ok x.procs ∧ True
instance : a_ Slice where
 wt x := a_.wt x.empty + a_.wt x.first + a_.wt x.last + a_.wt x.j + 1
 ok x := a_.ok x.empty ∧ a_.ok x.first ∧ a_.ok x.last ∧ a_.ok x.j ∧ True
instance : a_ ak where
 wt x := a_.wt x.p + a_.wt x.q + a_.wt x.sent + a_.wt x.received + 1
 ok x := a_.ok x.p ∧ a_.ok x.q ∧ a_.ok x.sent ∧ a_.ok x.received ∧ True
end Go.VE
namespace Go.VE.Ytnfakljmdnbipaa
open Go.Proofs Go.Proofs.Ytnfakljmdnbipaa
instance UQ : Reads Try.prog 9 ByteArray := Reads.str Try.underlying9 (by kernel_rfl)
instance UR : Reads Try.prog 3 Int := Reads.int Try.underlying3 (by kernel_rfl)
instance UG : Reads Try.prog 117 Var := by
 refine Reads.st Try.underlying117 (by kernel_rfl) rfl ?_
 intro H enc w base spare held fuel cs l hl h
 simp only [List.mapM_cons, List.mapM_nil, Option.pure_def, Option.bind_eq_bind, Option.bind_eq_some_iff, Option.some.injEq] at h
 obtain ⟨x0, h0, ys0, ⟨x1, h1, ys1, rfl, rfl⟩, rfl⟩ := h
 obtain ⟨a0, c0, k0, b0⟩ := Reads.rd (P := Try.prog) (t := 9) (α := ByteArray) (d := x0.1) (ps := x0.2) h0
 rw [show Try.prog.cellsOf 9 = 1 from by kernel_rfl] at c0
 obtain ⟨a1, c1, k1, b1⟩ := Reads.rd (P := Try.prog) (t := 3) (α := Int) (d := x1.1) (ps := x1.2) h1
 rw [show Try.prog.cellsOf 3 = 1 from by kernel_rfl] at c1
 refine ⟨⟨a0, a1⟩, fy.fin (n := 2) (fy.seg (o := 1) (n := 1) (fy.seg (o := 0) (n := 1) (show fy (snap w) [] (cs.take 0) from by simpa using fy.nil) c0) c1) hl, ⟨k0, k1, trivial⟩, fun b bo => ?_⟩
 have w0 := b0 b bo
 have w1 := b1 b bo
 show a_.wt a0 + a_.wt a1 + 1 ≤ _
 simp only [List.map_cons, List.map_nil, List.sum_cons, List.sum_nil]
 omega
instance UL : Reads Try.prog 34 (Sl Var) := Reads.sl (e := 117) Try.underlying34 (by kernel_rfl) (by decide)
instance UF : Reads Try.prog 123 Assign := by
 refine Reads.st Try.underlying123 (by kernel_rfl) rfl ?_
 intro H enc w base spare held fuel cs l hl h
 simp only [List.mapM_cons, List.mapM_nil, Option.pure_def, Option.bind_eq_bind, Option.bind_eq_some_iff, Option.some.injEq] at h
 obtain ⟨x0, h0, ys0, ⟨x1, h1, ys1, rfl, rfl⟩, rfl⟩ := h
 obtain ⟨a0, c0, k0, b0⟩ := Reads.rd (P := Try.prog) (t := 3) (α := Int) (d := x0.1) (ps := x0.2) h0
 rw [show Try.prog.cellsOf 3 = 1 from by kernel_rfl] at c0
 obtain ⟨a1, c1, k1, b1⟩ := Reads.rd (P := Try.prog) (t := 3) (α := Int) (d := x1.1) (ps := x1.2) h1
 rw [show Try.prog.cellsOf 3 = 1 from by kernel_rfl] at c1
 refine ⟨⟨a0, a1⟩, fy.fin (n := 2) (fy.seg (o := 1) (n := 1) (fy.seg (o := 0) (n := 1) (show fy (snap w) [] (cs.take 0) from by simpa using fy.nil) c0) c1) hl, ⟨k0, k1, trivial⟩, fun b bo => ?_⟩
 have w0 := b0 b bo
 have w1 := b1 b bo
 show a_.wt a0 + a_.wt a1 + 1 ≤ _
 simp only [List.map_cons, List.map_nil, List.sum_cons, List.sum_nil]
 omega
instance UJ : Reads Try.prog 38 (Sl Assign) := Reads.sl (e := 123) Try.underlying38 (by kernel_rfl) (by decide)
instance UO : Reads Try.prog 40 Event := by
 refine Reads.st Try.underlying40 (by kernel_rfl) rfl ?_
 intro H enc w base spare held fuel cs l hl h
 simp only [List.mapM_cons, List.mapM_nil, Option.pure_def, Option.bind_eq_bind, Option.bind_eq_some_iff, Option.some.injEq] at h
 obtain ⟨x0, h0, ys0, ⟨x1, h1, ys1, ⟨x2, h2, ys2, ⟨x3, h3, ys3, ⟨x4, h4, ys4, rfl, rfl⟩, rfl⟩, rfl⟩, rfl⟩, rfl⟩ := h
 obtain ⟨a0, c0, k0, b0⟩ := Reads.rd (P := Try.prog) (t := 3) (α := Int) (d := x0.1) (ps := x0.2) h0
 rw [show Try.prog.cellsOf 3 = 1 from by kernel_rfl] at c0
 obtain ⟨a1, c1, k1, b1⟩ := Reads.rd (P := Try.prog) (t := 3) (α := Int) (d := x1.1) (ps := x1.2) h1
 rw [show Try.prog.cellsOf 3 = 1 from by kernel_rfl] at c1
 obtain ⟨a2, c2, k2, b2⟩ := Reads.rd (P := Try.prog) (t := 3) (α := Int) (d := x2.1) (ps := x2.2) h2
 rw [show Try.prog.cellsOf 3 = 1 from by kernel_rfl] at c2
 obtain ⟨a3, c3, k3, b3⟩ := Reads.rd (P := Try.prog) (t := 3) (α := Int) (d := x3.1) (ps := x3.2) h3
 rw [show Try.prog.cellsOf 3 = 1 from by kernel_rfl] at c3
 obtain ⟨a4, c4, k4, b4⟩ := Reads.rd (P := Try.prog) (t := 38) (α := (Sl Assign)) (d := x4.1) (ps := x4.2) h4
 rw [show Try.prog.cellsOf 38 = 1 from by kernel_rfl] at c4
 refine ⟨⟨a0, a1, a2, a3, a4⟩, fy.fin (n := 5) (fy.seg (o := 4) (n := 1) (fy.seg (o := 3) (n := 1) (fy.seg (o := 2) (n := 1) (fy.seg (o := 1) (n := 1) (fy.seg (o := 0) (n := 1) (show fy (snap w) [] (cs.take 0) from by simpa using fy.nil) c0) c1) c2) c3) c4) hl, ⟨k0, k1, k2, k3, k4, trivial⟩, fun b bo => ?_⟩
 have w0 := b0 b bo
 have w1 := b1 b bo
 have w2 := b2 b bo
 have w3 := b3 b bo
 have w4 := b4 b bo
 show a_.wt a0 + a_.wt a1 + a_.wt a2 + a_.wt a3 + a_.wt a4 + 1 ≤ _
 simp only [List.map_cons, List.map_nil, List.sum_cons, List.sum_nil]
 omega
instance UM : Reads Try.prog 35 (Sl Event) := Reads.sl (e := 40) Try.underlying35 (by kernel_rfl) (by decide)
instance UI : Reads Try.prog 37 aS := by
 refine Reads.st Try.underlying37 (by kernel_rfl) rfl ?_
 intro H enc w base spare held fuel cs l hl h
 simp only [List.mapM_cons, List.mapM_nil, Option.pure_def, Option.bind_eq_bind, Option.bind_eq_some_iff, Option.some.injEq] at h
 obtain ⟨x0, h0, ys0, ⟨x1, h1, ys1, ⟨x2, h2, ys2, rfl, rfl⟩, rfl⟩, rfl⟩ := h
 obtain ⟨a0, c0, k0, b0⟩ := Reads.rd (P := Try.prog) (t := 9) (α := ByteArray) (d := x0.1) (ps := x0.2) h0
 rw [show Try.prog.cellsOf 9 = 1 from by kernel_rfl] at c0
 obtain ⟨a1, c1, k1, b1⟩ := Reads.rd (P := Try.prog) (t := 34) (α := (Sl Var)) (d := x1.1) (ps := x1.2) h1
 rw [show Try.prog.cellsOf 34 = 1 from by kernel_rfl] at c1
 obtain ⟨a2, c2, k2, b2⟩ := Reads.rd (P := Try.prog) (t := 35) (α := (Sl Event)) (d := x2.1) (ps := x2.2) h2
 rw [show Try.prog.cellsOf 35 = 1 from by kernel_rfl] at c2
 refine ⟨⟨a0, a1, a2⟩, fy.fin (n := 3) (fy.seg (o := 2) (n := 1) (fy.seg (o := 1) (n := 1) (fy.seg (o := 0) (n := 1) (show fy (snap w) [] (cs.take 0) from by simpa using fy.nil) c0) c1) c2) hl, ⟨k0, k1, k2, trivial⟩, fun b bo => ?_⟩
 have w0 := b0 b bo
 have w1 := b1 b bo
 have w2 := b2 b bo
 show a_.wt a0 + a_.wt a1 + a_.wt a2 + 1 ≤ _
 simp only [List.map_cons, List.map_nil, List.sum_cons, List.sum_nil]
 omega
instance UH : Reads Try.prog 22 (Sl aS) := Reads.sl (e := 37) Try.underlying22 (by kernel_rfl) (by decide)
instance UK : Reads Try.prog 24 Trace := by
 refine Reads.st Try.underlying24 (by kernel_rfl) rfl ?_
 intro H enc w base spare held fuel cs l hl h
 simp only [List.mapM_cons, List.mapM_nil, Option.pure_def, Option.bind_eq_bind, Option.bind_eq_some_iff, Option.some.injEq] at h
 obtain ⟨x0, h0, ys0, rfl, rfl⟩ := h
 obtain ⟨a0, c0, k0, b0⟩ := Reads.rd (P := Try.prog) (t := 22) (α := (Sl aS)) (d := x0.1) (ps := x0.2) h0
 rw [show Try.prog.cellsOf 22 = 1 from by kernel_rfl] at c0
 refine ⟨⟨a0⟩, fy.fin (n := 1) (fy.seg (o := 0) (n := 1) (show fy (snap w) [] (cs.take 0) from by simpa using fy.nil) c0) hl, ⟨k0, trivial⟩, fun b bo => ?_⟩
 have w0 := b0 b bo
 show a_.wt a0 + 1 ≤ _
 simp only [List.map_cons, List.map_nil, List.sum_cons, List.sum_nil]
 omega
instance UN : Reads Try.prog 25 (Sl Int) := Reads.sl (e := 3) Try.underlying25 (by kernel_rfl) (by decide)
def Sr : List (Nat × Nat) := [(1, 6), (2, 35), (3, 26), (4, 27), (5, 7), (6, 48), (7, 94), (8, 95), (9, 72), (10, 74), (11, 96), (12, 73), (13, 76), (14, 97), (15, 75), (16, 49), (18, 50), (19, 78), (20, 80), (21, 98), (22, 79), (23, 51), (24, 91), (25, 68), (26, 44), (27, 81), (28, 52), (29, 28), (30, 8), (36, 82), (37, 85), (38, 58), (39, 53), (40, 54), (41, 55), (42, 104), (43, 99), (44, 83), (45, 56), (46, 29), (47, 9), (48, 30), (49, 31), (50, 105), (51, 100), (52, 101), (53, 84), (54, 57), (55, 32), (56, 10), (57, 86), (58, 60), (59, 61), (60, 59), (61, 33), (62, 11), (63, 12), (64, 3), (17, 77)]
def Gc : List (Nat × Nat) := [(6, 1), (35, 2), (26, 3), (27, 4), (7, 5), (48, 6), (94, 7), (95, 8), (72, 9), (74, 10), (96, 11), (73, 12), (76, 13), (97, 14), (75, 15), (49, 16), (50, 18), (78, 19), (80, 20), (98, 21), (79, 22), (51, 23), (91, 24), (68, 25), (44, 26), (81, 27), (52, 28), (28, 29), (8, 30), (82, 36), (85, 37), (58, 38), (53, 39), (54, 40), (55, 41), (104, 42), (99, 43), (83, 44), (56, 45), (29, 46), (9, 47), (30, 48), (31, 49), (105, 50), (100, 51), (101, 52), (84, 53), (57, 54), (32, 55), (10, 56), (86, 57), (60, 58), (61, 59), (59, 60), (33, 61), (11, 62), (12, 63), (3, 64), (77, 17)]
def G5 (n : Nat) : FuncId := (lk Sr n).getD 0
def cK (g : FuncId) : Option Nat := (lk Gc g).bind fun s => bif Nat.beq (G5 s) g then some s else none
noncomputable def Sy : Sys := ⟨E, G5, rB (trace_events_c1.z9 77), Dr 6⟩
def Dc : List (Nat × RF) := [(35, bC.text), (26, aQ.text), (27, dL.text), (7, d3.text), (48, e7.text), (94, dQ.text), (95, fe.text), (72, c7.text), (74, bJ.text), (96, bF.text), (73, bf.text), (76, bH.text), (97, bU.text), (75, bt.text), (49, bE.text), (50, cP.text), (78, c8.text), (80, b8.text), (98, bq.text), (79, aT.text), (51, bn.text), (91, dJ.text), (68, fc.text), (44, bu.text), (81, dM.text), (52, cw.text), (28, dn.text), (8, cB.text), (82, dN.text), (85, bG.text), (58, aV.text), (53, gE.text), (54, dY.text), (55, fY.text), (104, eU.text), (99, eK.text), (83, dz.text), (56, gi.text), (29, cN.text), (9, dK.text), (30, dH.text), (31, cF.text), (105, d8.text), (100, eH.text), (101, cR.text), (84, aP.text), (57, ei.text), (32, cQ.text), (10, bL.text), (86, bW.text), (60, br.text), (61, b9.text), (59, cT.text), (33, eG.text), (11, dj.text), (12, cD.text), (3, aK.text)]
def Tx : az := lk Dc
theorem K7 : ∃ fi, E.ft 35 = some fi ∧ bD E cK fi bC.text := bm (by kernel_rfl)
theorem M_ : ∃ fi, E.ft 26 = some fi ∧ bD E cK fi aQ.text := bm (by kernel_rfl)
theorem Mr : ∃ fi, E.ft 27 = some fi ∧ bD E cK fi dL.text := bm (by kernel_rfl)
theorem Tr : ∃ fi, E.ft 7 = some fi ∧ bD E cK fi d3.text := bm (by kernel_rfl)
theorem LY : ∃ fi, E.ft 48 = some fi ∧ bD E cK fi e7.text := bm (by kernel_rfl)
theorem Nm : ∃ fi, E.ft 94 = some fi ∧ bD E cK fi dQ.text := bm (by kernel_rfl)
theorem Lq : ∃ fi, E.ft 95 = some fi ∧ bD E cK fi fe.text := bm (by kernel_rfl)
theorem LC : ∃ fi, E.ft 72 = some fi ∧ bD E cK fi c7.text := bm (by kernel_rfl)
theorem K6 : ∃ fi, E.ft 74 = some fi ∧ bD E cK fi bJ.text := bm (by kernel_rfl)
theorem Li : ∃ fi, E.ft 96 = some fi ∧ bD E cK fi bF.text := bm (by kernel_rfl)
theorem L3 : ∃ fi, E.ft 73 = some fi ∧ bD E cK fi bf.text := bm (by kernel_rfl)
theorem Mj : ∃ fi, E.ft 76 = some fi ∧ bD E cK fi bH.text := bm (by kernel_rfl)
theorem Nk : ∃ fi, E.ft 97 = some fi ∧ bD E cK fi bU.text := bm (by kernel_rfl)
theorem NH : ∃ fi, E.ft 75 = some fi ∧ bD E cK fi bt.text := bm (by kernel_rfl)
theorem Nl : ∃ fi, E.ft 49 = some fi ∧ bD E cK fi bE.text := bm (by kernel_rfl)
theorem Lt : ∃ fi, E.ft 50 = some fi ∧ bD E cK fi cP.text := bm (by kernel_rfl)
theorem Ll : ∃ fi, E.ft 78 = some fi ∧ bD E cK fi c8.text := bm (by kernel_rfl)
theorem K4 : ∃ fi, E.ft 80 = some fi ∧ bD E cK fi b8.text := bm (by kernel_rfl)
theorem MZ : ∃ fi, E.ft 98 = some fi ∧ bD E cK fi bq.text := bm (by kernel_rfl)
theorem La : ∃ fi, E.ft 79 = some fi ∧ bD E cK fi aT.text := bm (by kernel_rfl)
theorem MC : ∃ fi, E.ft 51 = some fi ∧ bD E cK fi bn.text := bm (by kernel_rfl)
theorem Ms : ∃ fi, E.ft 91 = some fi ∧ bD E cK fi dJ.text := bm (by kernel_rfl)
theorem Ny : ∃ fi, E.ft 68 = some fi ∧ bD E cK fi fc.text := bm (by kernel_rfl)
theorem K_ : ∃ fi, E.ft 44 = some fi ∧ bD E cK fi bu.text := bm (by kernel_rfl)
theorem LH : ∃ fi, E.ft 81 = some fi ∧ bD E cK fi dM.text := bm (by kernel_rfl)
theorem ND : ∃ fi, E.ft 52 = some fi ∧ bD E cK fi cw.text := bm (by kernel_rfl)
theorem Lk : ∃ fi, E.ft 28 = some fi ∧ bD E cK fi dn.text := bm (by kernel_rfl)
theorem QV : ∃ fi, E.ft 8 = some fi ∧ bD E cK fi cB.text := bm (by kernel_rfl)
theorem K8 : ∃ fi, E.ft 82 = some fi ∧ bD E cK fi dN.text := bm (by kernel_rfl)
theorem LQ : ∃ fi, E.ft 85 = some fi ∧ bD E cK fi bG.text := bm (by kernel_rfl)
theorem NN : ∃ fi, E.ft 58 = some fi ∧ bD E cK fi aV.text := bm (by kernel_rfl)
theorem LB : ∃ fi, E.ft 53 = some fi ∧ bD E cK fi gE.text := bm (by kernel_rfl)
theorem Lf : ∃ fi, E.ft 54 = some fi ∧ bD E cK fi dY.text := bm (by kernel_rfl)
theorem ME : ∃ fi, E.ft 55 = some fi ∧ bD E cK fi fY.text := bm (by kernel_rfl)
theorem KP : ∃ fi, E.ft 104 = some fi ∧ bD E cK fi eU.text := bm (by kernel_rfl)
theorem Lz : ∃ fi, E.ft 99 = some fi ∧ bD E cK fi eK.text := bm (by kernel_rfl)
theorem Ni : ∃ fi, E.ft 83 = some fi ∧ bD E cK fi dz.text := bm (by kernel_rfl)
theorem MX : ∃ fi, E.ft 56 = some fi ∧ bD E cK fi gi.text := bm (by kernel_rfl)
theorem L_ : ∃ fi, E.ft 29 = some fi ∧ bD E cK fi cN.text := bm (by kernel_rfl)
theorem R0 : ∃ fi, E.ft 9 = some fi ∧ bD E cK fi dK.text := bm (by kernel_rfl)
theorem NF : ∃ fi, E.ft 30 = some fi ∧ bD E cK fi dH.text := bm (by kernel_rfl)
theorem M8 : ∃ fi, E.ft 31 = some fi ∧ bD E cK fi cF.text := bm (by kernel_rfl)
theorem JH : ∃ fi, E.ft 105 = some fi ∧ bD E cK fi d8.text := bm (by kernel_rfl)
theorem Kh : ∃ fi, E.ft 100 = some fi ∧ bD E cK fi eH.text := bm (by kernel_rfl)
theorem KB : ∃ fi, E.ft 101 = some fi ∧ bD E cK fi cR.text := bm (by kernel_rfl)
theorem Lc : ∃ fi, E.ft 84 = some fi ∧ bD E cK fi aP.text := bm (by kernel_rfl)
theorem Nr : ∃ fi, E.ft 57 = some fi ∧ bD E cK fi ei.text := bm (by kernel_rfl)
theorem M5 : ∃ fi, E.ft 32 = some fi ∧ bD E cK fi cQ.text := bm (by kernel_rfl)
theorem Mf : ∃ fi, E.ft 10 = some fi ∧ bD E cK fi bL.text := bm (by kernel_rfl)
theorem LI : ∃ fi, E.ft 86 = some fi ∧ bD E cK fi bW.text := bm (by kernel_rfl)
theorem L5 : ∃ fi, E.ft 60 = some fi ∧ bD E cK fi br.text := bm (by kernel_rfl)
theorem Mg : ∃ fi, E.ft 61 = some fi ∧ bD E cK fi b9.text := bm (by kernel_rfl)
theorem MA : ∃ fi, E.ft 59 = some fi ∧ bD E cK fi cT.text := bm (by kernel_rfl)
theorem NL : ∃ fi, E.ft 33 = some fi ∧ bD E cK fi eG.text := bm (by kernel_rfl)
theorem MV : ∃ fi, E.ft 11 = some fi ∧ bD E cK fi dj.text := bm (by kernel_rfl)
theorem Nc : ∃ fi, E.ft 12 = some fi ∧ bD E cK fi cD.text := bm (by kernel_rfl)
theorem RI : ∃ fi, E.ft 3 = some fi ∧ bD E cK fi aK.text := bm (by kernel_rfl)
theorem Nq : ∃ fi, E.ft 77 = some fi ∧ bD E cK fi trace_events_c1.text := bm (by kernel_rfl)
theorem Lh : uJ Sy Tx where
 fn f rf h := by
  have key : ∀ p ∈ Dc, ∃ fi, E.ft p.1 = some fi ∧ bD E cK fi p.2 := by
   unfold Dc
   simp only [List.forall_mem_cons]
   exact ⟨K7, M_, Mr, Tr, LY, Nm, Lq, LC, K6, Li, L3, Mj, Nk, NH, Nl, Lt, Ll, K4, MZ, La, MC, Ms, Ny, K_, LH, ND, Lk, QV, K8, LQ, NN, LB, Lf, ME, KP, Lz, Ni, MX, L_, R0, NF, M8, JH, Kh, KB, Lc, Nr, M5, Mf, LI, L5, Mg, MA, NL, MV, Nc, RI, by simp⟩
  obtain ⟨fi, h1, h2⟩ := key (f, rf) (xw (l := Dc) h)
  exact ⟨fi, cK, h1, G9 G5 (lk Gc), h2⟩
 vg f bs y h := GB CA h
theorem HE : ∀ f a b xs, Sy.items f a b = some xs → gM Sy f a b xs := by
 intro f a b xs h
 obtain ⟨t, its, rfl, rfl, rfl, h1, rfl⟩ := CB h
 obtain ⟨fi, h2, h3⟩ := Nq
 exact Gz Sy h2 (G9 G5 (lk Gc)) h3 (Nat.le_of_ble_eq_true rfl) rfl fun ws more hw y => trace_events_c1.all t its h1 ws more hw y
theorem si (t : Trace) (its : List (aa × Event)) (h : eN t = some its) : Sy.items (Sy.N 17) [] [.fptr (cells t)] = some (its.map fun x : aa × Event => [enc x.1, enc x.2]) :=
 Dl ⟨t, its, rfl, rfl, rfl, h, rfl⟩ fun ys hy => hy.uniq ⟨t, its, rfl, rfl, rfl, h, rfl⟩
instance Ud : iY Sy Tx where
 t := by kernel_rfl
 k := by kernel_rfl
 o := by kernel_rfl
instance UC : d9 Sy Tx where
 t := by kernel_rfl
 k := by kernel_rfl
instance OV : cr Sy Tx where
 t := by kernel_rfl
 k := by kernel_rfl
 c0 := UC
instance Us : gC Sy Tx where
 t := by kernel_rfl
 k := by kernel_rfl
instance Ur : gy Sy Tx where
 t := by kernel_rfl
 k := by kernel_rfl
 c0 := Us
 c1 := OV
instance G2 : ig Sy Tx where
 t := by kernel_rfl
 k := by kernel_rfl
instance Uz : g_ Sy Tx where
 t := by kernel_rfl
 k := by kernel_rfl
instance Ul : iE Sy Tx where
 t := by kernel_rfl
 k := by kernel_rfl
instance Ug : gb Sy Tx where
 t := by kernel_rfl
 k := by kernel_rfl
 c0 := Ul
 c1 := Uz
instance T9 : eF Sy Tx where
 t := by kernel_rfl
 k := by kernel_rfl
instance SK : eE Sy Tx where
 t := by kernel_rfl
 k := by kernel_rfl
instance S7 : cX Sy Tx where
 t := by kernel_rfl
 k := by kernel_rfl
 c0 := SK
instance SE : eC Sy Tx where
 t := by kernel_rfl
 k := by kernel_rfl
instance Rk : eO Sy Tx where
 t := by kernel_rfl
 k := by kernel_rfl
instance Sv : dc Sy Tx where
 t := by kernel_rfl
 k := by kernel_rfl
 c0 := Rk
instance Rf : cm Sy Tx where
 t := by kernel_rfl
 k := by kernel_rfl
 c0 := G2
 c1 := Ug
 c2 := T9
 c3 := SE
 c4 := S7
 c5 := Sv
instance Dw : fC Sy Tx where
 t := by kernel_rfl
 k := by kernel_rfl
instance TY : gH Sy Tx where
 t := by kernel_rfl
 k := by kernel_rfl
 c0 := G2
instance RN : eV Sy Tx where
 t := by kernel_rfl
 k := by kernel_rfl
instance S8 : dW Sy Tx where
 t := by kernel_rfl
 k := by kernel_rfl
instance Rb : cE Sy Tx where
 t := by kernel_rfl
 k := by kernel_rfl
 c0 := S8
instance RQ : dG Sy Tx where
 t := by kernel_rfl
 k := by kernel_rfl
 c0 := RN
 c1 := TY
 c2 := G2
 c3 := Rb
instance R1 : gA Sy Tx where
 t := by kernel_rfl
 k := by kernel_rfl
instance Rw : gz Sy Tx where
 t := by kernel_rfl
 k := by kernel_rfl
 c0 := R1
 c1 := OV
instance RX : dx Sy Tx where
 t := by kernel_rfl
 k := by kernel_rfl
 c0 := Dw
 c1 := Rw
 i0 := si
instance Ua : iD Sy Tx where
 t := by kernel_rfl
 k := by kernel_rfl
instance P5 : fG Sy Tx where
 t := by kernel_rfl
 k := by kernel_rfl
 c0 := Ua
 c1 := Dw
 i0 := si
instance P_ : d7 Sy Tx where
 t := by kernel_rfl
 k := by kernel_rfl
 c0 := P5
 c1 := RQ
 c2 := Dw
 c3 := G2
 c4 := RX
 c5 := Rf
 i0 := si
instance Ga : fX Sy Tx where
 t := by kernel_rfl
 k := by kernel_rfl
 c0 := P_
instance P3 : hG Sy Tx where
 t := by kernel_rfl
 k := by kernel_rfl
instance Tm : eD Sy Tx where
 t := by kernel_rfl
 k := by kernel_rfl
instance Iu : cy Sy Tx where
 t := by kernel_rfl
 k := by kernel_rfl
 c0 := Tm
instance SX : gP Sy Tx where
 t := by kernel_rfl
 k := by kernel_rfl
 c0 := P3
 c1 := Ga
 c2 := Iu
instance RL : iB Sy Tx where
 t := by kernel_rfl
 k := by kernel_rfl
instance QM : iH Sy Tx where
 t := by kernel_rfl
 k := by kernel_rfl
instance Sz : gu Sy Tx where
 t := by kernel_rfl
 k := by kernel_rfl
 c0 := Ga
 c1 := Dw
 i0 := si
instance RD : gK Sy Tx where
 t := by kernel_rfl
 k := by kernel_rfl
 c0 := Sz
instance R2 : gY Sy Tx where
 t := by kernel_rfl
 k := by kernel_rfl
 c0 := RD
instance RA : ir Sy Tx where
 t := by kernel_rfl
 k := by kernel_rfl
 c0 := R2
instance Ke : fV Sy Tx where
 t := by kernel_rfl
 k := by kernel_rfl
 c0 := RA
 c1 := RL
 c2 := QM
 c3 := SX
instance Tv : fS Sy Tx where
 t := by kernel_rfl
 k := by kernel_rfl
 c0 := Ke
instance RR : gL Sy Tx where
 t := by kernel_rfl
 k := by kernel_rfl
 c0 := Ke
instance Ri : hD Sy Tx where
 t := by kernel_rfl
 k := by kernel_rfl
instance QF : gS Sy Tx where
 t := by kernel_rfl
 k := by kernel_rfl
instance S4 : gN Sy Tx where
 t := by kernel_rfl
 k := by kernel_rfl
 c0 := QF
instance Te : fU Sy Tx where
 t := by kernel_rfl
 k := by kernel_rfl
instance SM : cG Sy Tx where
 t := by kernel_rfl
 k := by kernel_rfl
 c0 := S4
 c1 := Te
instance QS : gD Sy Tx where
 t := by kernel_rfl
 k := by kernel_rfl
 c0 := SM
instance SF : fj Sy Tx where
 t := by kernel_rfl
 k := by kernel_rfl
 c0 := QS
instance Kp : ec Sy Tx where
 t := by kernel_rfl
 k := by kernel_rfl
 c0 := SF
 c1 := Ri
 c2 := RR
instance TI : eM Sy Tx where
 t := by kernel_rfl
 k := by kernel_rfl
instance Qc : dh Sy Tx where
 t := by kernel_rfl
 k := by kernel_rfl
 c0 := TI
instance Tz : eW Sy Tx where
 t := by kernel_rfl
 k := by kernel_rfl
instance P9 : eL Sy Tx where
 t := by kernel_rfl
 k := by kernel_rfl
 c0 := Tz
 c1 := Qc
instance RY : fL Sy Tx where
 t := by kernel_rfl
 k := by kernel_rfl
 c0 := P9
 c1 := Iu
instance R7 : fM Sy Tx where
 t := by kernel_rfl
 k := by kernel_rfl
 c0 := Kp
 c1 := RY
instance SL : gB Sy Tx where
 t := by kernel_rfl
 k := by kernel_rfl
instance UP : cq Sy Tx where
 t := by kernel_rfl
 k := by kernel_rfl
 c0 := Ud
 c1 := Ur
 c2 := SL
 c3 := Kp
 c4 := R7
 c5 := Tv
 c6 := Ga
end Go.VE.Ytnfakljmdnbipaa
namespace Go.VE
abbrev lI {α : Type} (m : Option α) : Prop := Wp m fun _ => True
theorem lI.get {α : Type} {m : Option α} (h : lI m) : ∃ a, m = some a := let ⟨a, e, _⟩ := h; ⟨a, e⟩
theorem lI.ok {m : Option Bool} (h : lI m) : m = some (m.getD false) := by obtain ⟨a, e, _⟩ := h; rw [e]; rfl
def Small (t : Trace) : Prop := t.procs.l.length < 1073741824 ∧ ∀ p ∈ t.procs.l, p.events.l.length < 1073741824 ∧ p.vars.l.length < 1073741824 ∧ p.name.size < 1073741824 ∧ (∀ v ∈ p.vars.l, v.name.size < 1073741824) ∧ ∀ e ∈ p.events.l, e.assign.l.length < 1073741824
section
theorem DB {s : Sl Event} {p : Event → Option Bool} {f : Event → Bool} (hp : ∀ x ∈ s.l, p x = some (f x)) (hl : s.l.length < 1073741824) : bC s p = some (place f s.l) :=
 mB hp (by omega) (fun i => rfl)
theorem EM {s : Sl aS} {p : aS → Option Bool} {f : aS → Bool} (hp : ∀ x ∈ s.l, p x = some (f x)) (hl : s.l.length < 1073741824) : bF s p = some (place f s.l) :=
 mB hp (by omega) (fun i => rfl)
theorem FP {s : Sl Var} {p : Var → Option Bool} {f : Var → Bool} (hp : ∀ x ∈ s.l, p x = some (f x)) (hl : s.l.length < 1073741824) : bU s p = some (place f s.l) :=
 mB hp (by omega) (fun i => rfl)
theorem BK {s : Sl Assign} {p : Assign → Option Bool} {f : Assign → Bool} (hp : ∀ x ∈ s.l, p x = some (f x)) (hl : s.l.length < 1073741824) : bq s p = some (place f s.l) :=
 mB hp (by omega) (fun i => rfl)
theorem ta {s : Sl Event} {p : Event → Option Bool} {f : Event → Bool} (hp : ∀ x ∈ s.l, p x = some (f x)) (hl : s.l.length < 1073741824) : aQ s p = some (s.l.any f) := by
 unfold aQ; rw [DB hp hl, Option.bind_some, mD]
theorem A2 {s : Sl aS} {p : aS → Option Bool} {f : aS → Bool} (hp : ∀ x ∈ s.l, p x = some (f x)) (hl : s.l.length < 1073741824) : bf s p = some (s.l.any f) := by
 unfold bf; rw [EM hp hl, Option.bind_some, mD]
theorem BJ {s : Sl Var} {p : Var → Option Bool} {f : Var → Bool} (hp : ∀ x ∈ s.l, p x = some (f x)) (hl : s.l.length < 1073741824) : bt s p = some (s.l.any f) := by
 unfold bt; rw [FP hp hl, Option.bind_some, mD]
theorem yB {s : Sl Assign} {p : Assign → Option Bool} {f : Assign → Bool} (hp : ∀ x ∈ s.l, p x = some (f x)) (hl : s.l.length < 1073741824) : aT s p = some (s.l.any f) := by
 unfold aT; rw [BK hp hl, Option.bind_some, mD]
theorem lZ (x lo hi : Int) : e7 x lo hi = some (decide (lo ≤ x) && decide (x ≤ hi)) := by
 unfold e7; rw [lF]; rfl
theorem w6 (c : Int) : lI (dQ c) := by
 unfold dQ
 simp only [lF, xo, Option.bind_some, lI, ai]
theorem Ep (c : Int) : lI (fe c) := by
 unfold fe
 simp only [lF, xo, Option.bind_some, lI, ai]
theorem wN {s : ByteArray} {i : Nat} (h : i < s.size) : ∃ x, jL s (i : Int) = some x := by
 unfold jL
 rw [if_pos (by omega)]
 exact ⟨_, by rw [show (s[(i : Int).toNat]?) = some s[i] from by simp [h]]; rfl⟩
theorem wQ (s : ByteArray) (hs : s.size < 1073741824) : lI (c7 s) := by
 unfold c7
 simp only [xo, Option.bind_some]
 rw [lI, eP]
 have h1 : lI (aL (ByteArray.toList s == ByteArray.toList ByteArray.empty || decide (((ByteArray.size s : Nat) : Int) > 16)) (some true)
  ((jL s 0).bind fun x_2 => (dQ x_2).bind fun x_3 => some (!x_3))) := by
  rw [lI, aM]
  refine ⟨fun _ => (ai _).2 trivial, fun h => ?_⟩
  have h0 : 0 < s.size := by
   simp only [Bool.or_eq_false_iff, beq_eq_false_iff_ne, ne_eq] at h
   apply Classical.byContradiction
   intro hn
   apply h.1
   have : s = ByteArray.empty := by
    apply ByteArray.ext
    apply Array.eq_empty_of_size_eq_zero
    show s.size = 0
    omega
   rw [this]
  obtain ⟨x, hx⟩ := wN h0
  rw [show (0 : Int) = ((0 : Nat) : Int) from rfl, hx, Option.bind_some]
  obtain ⟨y, hy⟩ := (w6 x).get
  rw [hy, Option.bind_some, ai]; trivial
 refine h1.mono fun b _ => ?_
 rw [aM]
 refine ⟨fun _ => (ai _).2 trivial, fun _ => ?_⟩
 unfold c7.W1
 refine eX (fun i : Int => ∃ n : Nat, i = n ∧ n ≤ s.size) (fun i : Int => s.size - i.toNat) ⟨0, rfl, Nat.zero_le _⟩ ?_
 rintro i ⟨n, rfl, hn⟩
 unfold c7.aB
 rw [aM]
 refine ⟨fun h => ?_, fun _ => (ai _).2 ((ai _).2 trivial)⟩
 have hlt : n < s.size := by simpa using h
 obtain ⟨x, hx⟩ := wN hlt
 obtain ⟨y, hy⟩ := (w6 x).get
 obtain ⟨z, hz⟩ := (Ep x).get
 simp only [hx, hy, hz, Option.bind_some]
 rw [eP, aM]
 refine ⟨fun _ => (ai _).2 ?_, fun _ => (ai _).2 ?_⟩ <;>
 ·rw [eP, aM]
  refine ⟨fun _ => (ai _).2 ?_, fun _ => (ai _).2 ?_⟩ <;>
  ·rw [aM]
   refine ⟨fun _ => (ai _).2 ((ai _).2 trivial), fun _ => (ai _).2 ?_⟩
   exact ⟨⟨n + 1, fQ n (by omega), by omega⟩, by rw [fQ n (by omega)]; simp; omega⟩
theorem vG {t : Trace} (hS : Small t) {p : Nat} (hp : p < t.procs.l.length) : lI (bE t p) := by
 unfold bE
 rw [cH hp, Option.bind_some]
 obtain ⟨_, hps⟩ := hS
 obtain ⟨h1, h2, h3, h4, h5⟩ := hps _ (List.getElem_mem hp)
 generalize hx : t.procs.l[p] = x at *
 obtain ⟨b, hb⟩ := (wQ x.name h3).get
 obtain ⟨y, hy, hyl⟩ := qO t.procs p (by omega)
 rw [hb, Option.bind_some, hy, Option.bind_some, A2 (f := fun z => (bJ z x).getD false) (fun z _ => lI.ok ((ai _).2 trivial)) (by rw [hyl]; simp; omega), Option.bind_some, kI, Option.bind_some, lI, aM]
 refine ⟨fun _ => (ai _).2 trivial, fun _ => ?_⟩
 rw [aM]
 refine ⟨fun _ => (ai _).2 trivial, fun _ => ?_⟩
 unfold bE.W1
 refine eX (fun i : Int => ∃ n : Nat, i = n ∧ n ≤ x.vars.l.length) (fun i : Int => x.vars.l.length - i.toNat) ⟨0, rfl, Nat.zero_le _⟩ ?_
 rintro i ⟨n, rfl, hn⟩
 unfold bE.aB
 rw [aM]
 refine ⟨fun h => ?_, fun _ => (ai _).2 ?_⟩
 ·have hlt : n < x.vars.l.length := by simpa [len] using h
  rw [cH hlt, Option.bind_some]
  obtain ⟨b', hb'⟩ := (wQ x.vars.l[n].name (h4 _ (List.getElem_mem hlt))).get
  obtain ⟨y', hy', hyl'⟩ := qO x.vars n (by omega)
  rw [hb', Option.bind_some, hy', Option.bind_some, BJ (f := fun z => (bH z x.vars.l[n]).getD false) (fun z _ => lI.ok ((ai _).2 trivial)) (by rw [hyl']; simp; omega), Option.bind_some, kI, Option.bind_some, lZ, Option.bind_some, aM]
  refine ⟨fun _ => (ai _).2 ((ai _).2 trivial), fun _ => ?_⟩
  rw [aM]
  refine ⟨fun _ => (ai _).2 ?_, fun _ => (ai _).2 ((ai _).2 trivial)⟩
  exact ⟨⟨n + 1, fQ n (by omega), by omega⟩, by rw [fQ n (by omega)]; simp; omega⟩
 ·rw [kI]; exact (ai _).2 trivial
def j7 (n : Nat) (p : Int) (e : Event) : Prop := e.kind = 1 ∨ ((e.kind = 2 ∨ e.kind = 3) ∧ 0 ≤ e.peer ∧ e.peer < n ∧ e.peer ≠ p ∧ 0 ≤ e.message ∧ e.message ≤ 199)
theorem Eu {t : Trace} (hS : Small t) (p : Int) (e : Event) : Wp (c8 t p e) fun b => b = true → j7 t.procs.l.length p e := by
 have hw : IntKind.wrap .i64 ((len t.procs) - 1) = (t.procs.l.length : Int) - 1 := jF _ (by simp [len]; omega) (by have := hS.1; simp [len]; omega)
 have j : ∀ b : Bool, (b = true → e.kind = 2 ∨ e.kind = 3) → Wp (c8.J1 p b t e) fun b => b = true → j7 t.procs.l.length p e := by
  intro b hb
  unfold c8.J1
  simp only [lZ, Option.bind_some, lF, hw, aM, ai]
  intro k
  simp only [Bool.and_eq_true, decide_eq_true_eq, Bool.not_eq_true', beq_eq_false_iff_ne, ne_eq] at k
  exact .inr ⟨hb k.1, k.2.1.1.1, by omega, k.2.1.2, k.2.2.1, k.2.2.2⟩
 unfold c8
 simp only [lF, Option.bind_some, aM, ai]
 refine ⟨fun h _ => .inl (by simpa using h), fun _ => ⟨fun h => j true fun _ => .inl (by simpa using h), fun _ => j _ fun h => .inr (by simpa using h)⟩⟩
end
end Go.VE
namespace Go.VE
def qQ (t : Trace) (p k : Nat) (e : Event) : Prop := ∃ P, t.procs.l[p]? = some P ∧ P.events.l[k]? = some e
theorem u7 {p : Int} {x : aa × Event} : ∀ {es : List Event} {j : Int}, x ∈ iW p j es ↔ ∃ k : Nat, es[k]? = some x.2 ∧ x.1 = ⟨p, j + k + 1⟩
 | [], j => by simp [iW]
 | e :: es, j => by
  simp only [iW, List.mem_cons, u7 (es := es)]
  constructor
  ·rintro (rfl | ⟨k, h1, h2⟩)
   ·exact ⟨0, rfl, by simp⟩
   ·exact ⟨k + 1, by simpa using h1, by rw [h2]; congr 1; push_cast; omega⟩
  ·rintro ⟨k, h1, h2⟩
   cases k with
   | zero =>
    simp at h1
    exact .inl (by obtain ⟨a, b⟩ := x; simp only at h1 h2; rw [h1, h2]; simp)
   | succ k => exact .inr ⟨k, by simpa using h1, by rw [h2]; congr 1; push_cast; omega⟩
theorem sZ {x : aa × Event} : ∀ {ps : List aS} {i : Int}, x ∈ fT i ps ↔ ∃ (a k : Nat) (P : aS), ps[a]? = some P ∧ P.events.l[k]? = some x.2 ∧ x.1 = ⟨i + a, k + 1⟩
 | [], i => by simp [fT]
 | p :: ps, i => by
  simp only [fT, List.mem_append, u7, sZ (ps := ps)]
  constructor
  ·rintro (⟨k, h1, h2⟩ | ⟨a, k, P, h1, h2, h3⟩)
   ·exact ⟨0, k, p, rfl, h1, by rw [h2]; simp⟩
   ·exact ⟨a + 1, k, P, by simpa using h1, h2, by rw [h3]; congr 1; push_cast; omega⟩
  ·rintro ⟨a, k, P, h1, h2, h3⟩
   cases a with
   | zero =>
    simp at h1; subst h1
    exact .inl ⟨k, h2, by rw [h3]; simp⟩
   | succ a => exact .inr ⟨a, k, P, by simpa using h1, h2, by rw [h3]; congr 1; push_cast; omega⟩
abbrev dD (t : Trace) : List (aa × Event) := fT 0 t.procs.l
theorem iC {t : Trace} {x : aa × Event} : x ∈ dD t ↔ ∃ p k : Nat, qQ t p k x.2 ∧ x.1 = ⟨p, k + 1⟩ := by
 unfold dD
 rw [sZ]
 constructor
 ·rintro ⟨a, k, P, h1, h2, h3⟩; exact ⟨a, k, ⟨P, h1, h2⟩, by rw [h3]; simp⟩
 ·rintro ⟨a, k, ⟨P, h1, h2⟩, h3⟩; exact ⟨a, k, P, h1, h2, by rw [h3]; simp⟩
theorem o4 {t : Trace} (hS : Small t) : eN t = some (dD t) := by
 unfold eN
 rw [if_pos]
 simp only [z6, Bool.and_eq_true, List.all_eq_true, decide_eq_true_eq]
 exact ⟨by have := hS.1; omega, fun p hp => by have := (hS.2 p hp).1; omega⟩
theorem zQ {t : Trace} (hS : Small t) {p k : Nat} {e : Event} (h : qQ t p k e) : Wp (bn t ⟨p, k + 1⟩ e) fun r => r = 0 → j7 t.procs.l.length p e := by
 obtain ⟨P, hP, hk⟩ := h
 have hPm : P ∈ t.procs.l := List.mem_of_getElem? hP
 obtain ⟨h1, h2, h3, h4, h5⟩ := hS.2 P hPm
 have hkl : k < P.events.l.length := (List.getElem?_eq_some_iff.1 hk).1
 have hem : e ∈ P.events.l := List.mem_of_getElem? hk
 have j : ∀ last : Int, Wp (bn.J1 last t ⟨p, k + 1⟩ e P) fun r => r = 0 → j7 t.procs.l.length p e := by
  intro last
  unfold bn.J1
  rw [eP]
  refine (Eu hS p e).mono fun b hb => ?_
  rw [aM]
  refine ⟨fun hbt => ?_, fun _ => (ai _).2 fun h => by cases h⟩
  have hf := hb hbt
  simp only [lZ, Option.bind_some, kI]
  refine Wp.mono (P := fun _ => True) ?_ fun _ _ _ => hf
  rw [aM]
  refine ⟨fun _ => (ai _).2 trivial, fun _ => ?_⟩
  rw [aM]
  refine ⟨fun _ => (ai _).2 trivial, fun _ => ?_⟩
  unfold bn.W2
  refine eX (fun i : Int => ∃ n : Nat, i = n ∧ n ≤ e.assign.l.length) (fun i : Int => e.assign.l.length - i.toNat) ⟨0, rfl, Nat.zero_le _⟩ ?_
  rintro i ⟨n, rfl, hn⟩
  have hal := h5 e hem
  unfold bn.cC
  rw [aM]
  refine ⟨fun h => ?_, fun _ => (ai _).2 ((ai _).2 trivial)⟩
  have hlt : n < e.assign.l.length := by simpa [len] using h
  obtain ⟨y', hy', hyl'⟩ := qO e.assign n (by omega)
  rw [cH hlt, Option.bind_some]
  simp only [lZ, Option.bind_some, kI]
  rw [hy', Option.bind_some, yB (f := fun z => (b8 z e.assign.l[n]).getD false) (fun z _ => lI.ok ((ai _).2 trivial)) (by rw [hyl']; simp; omega), Option.bind_some, aM]
  refine ⟨fun _ => (ai _).2 ((ai _).2 trivial), fun _ => ?_⟩
  rw [ai]
  split
  ·exact (ai _).2 trivial
  ·exact ⟨⟨n + 1, fQ n (by omega), by omega⟩, by rw [fQ n (by omega)]; simp; omega⟩
 unfold bn
 rw [show idx t.procs ((⟨(p : Int), (k : Int) + 1⟩ : aa).proc) = some P from by rw [DD, hP], Option.bind_some, aM]
 refine ⟨fun h => ?_, fun _ => j 0⟩
 have hk1 : 1 ≤ k := by
  have : (k : Int) + 1 > 1 := by simpa using h
  omega
 have hw : IntKind.wrap .i64 ((⟨(p : Int), (k : Int) + 1⟩ : aa).index - 2) = ((k - 1 : Nat) : Int) := by
  show IntKind.wrap .i64 ((k : Int) + 1 - 2) = _
  rw [jF _ (by omega) (by omega)]; omega
 rw [hw, cH (by omega : k - 1 < P.events.l.length), Option.bind_some]
 exact j _
def tE (t : Trace) (p m to : Int) : Bool := match t.procs.l[p.toNat]? with
 | some P => P.events.l.any fun e => e.kind == 2 && e.message == m && e.peer == to
 | none => false
theorem Gm {t : Trace} (hS : Small t) {p : Int} (h0 : 0 ≤ p) (h1 : p < t.procs.l.length) (m to : Int) : fc t p m to = some (tE t p m to) := by
 unfold fc
 have hlt : p.toNat < t.procs.l.length := by omega
 have hP := List.getElem_mem hlt
 rw [Sg h0, List.getElem?_eq_getElem hlt, Option.bind_some, ta (f := fun e => e.kind == 2 && e.message == m && e.peer == to) (fun e _ => by
  unfold dJ; simp only [lF, Option.bind_some]) (hS.2 _ hP).1, Option.bind_some]
 unfold tE
 rw [List.getElem?_eq_getElem hlt]
theorem Df {t : Trace} {p : Nat} {m to : Int} : tE t p m to = true ↔ ∃ k e, qQ t p k e ∧ e.kind = 2 ∧ e.message = m ∧ e.peer = to := by
 unfold tE qQ
 rw [show ((p : Nat) : Int).toNat = p from rfl]
 cases hP : t.procs.l[p]? with
 | none => simp
 | some P =>
  simp only [List.any_eq_true, Bool.and_eq_true, beq_iff_eq, Option.some.injEq, exists_eq_left']
  constructor
  ·rintro ⟨e, he, h⟩
   obtain ⟨k, hk⟩ := List.getElem?_of_mem he
   exact ⟨k, e, hk, h.1.1, h.1.2, h.2⟩
  ·rintro ⟨k, e, hk, h1, h2, h3⟩
   exact ⟨e, List.mem_of_getElem? hk, ⟨h1, h2⟩, h3⟩
def ag (A : aZ 200 ay) (m : Int) : ay := (A.at m).getD default
theorem Dy (A : aZ 200 ay) {m : Int} (h0 : 0 ≤ m) (h1 : m ≤ 199) : A.at m = some (ag A m) := by
 have : m.toNat < A.l.length := by rw [A.len]; omega
 unfold ag aZ.at
 rw [if_pos h0, List.getElem?_eq_getElem this]; rfl
theorem lU (A : aZ 200 ay) {m m' : Int} (x : ay) (h0 : 0 ≤ m) (h1 : m ≤ 199) (h2 : 0 ≤ m') : ag (A.set m x) m' = if m' = m then x else ag A m' := by
 have : m.toNat < A.l.length := by rw [A.len]; omega
 unfold ag aZ.at aZ.set
 simp only [if_pos h2]
 rw [List.getElem?_set]
 by_cases e : m' = m
 ·subst e; simp [this]
 ·rw [if_neg (by omega), if_neg e]
theorem EI {m : Int} (h0 : 0 ≤ m) (h1 : m ≤ 199) : ag (aZ.zj 200 (⟨⟨0, 0⟩, ⟨0, 0⟩⟩ : ay)) m = ⟨⟨0, 0⟩, ⟨0, 0⟩⟩ := by
 unfold ag aZ.at aZ.zj
 simp only [if_pos h0]
 rw [List.getElem?_replicate, if_pos (by omega)]; rfl
structure kE (t : Trace) (its : List (aa × Event)) (A : aZ 200 ay) : Prop where
 snd : ∀ x ∈ its, x.2.kind = 2 → (ag A x.2.message).from_ = x.1
 rcv : ∀ x ∈ its, x.2.kind = 3 → (ag A x.2.message).to_ = x.1 ∧ tE t x.2.peer x.2.message x.1.proc = true
 fr : ∀ m, 0 ≤ m → m ≤ 199 → (ag A m).from_.index = 0 ∨ ∃ e, ((ag A m).from_, e) ∈ its ∧ e.kind = 2 ∧ e.message = m
 to : ∀ m, 0 ≤ m → m ≤ 199 → (ag A m).to_.index = 0 ∨ ∃ e, ((ag A m).to_, e) ∈ its ∧ e.kind = 3 ∧ e.message = m
theorem xD {t : Trace} (hS : Small t) (hF : ∀ x ∈ dD t, j7 t.procs.l.length x.1.proc x.2) : Wp (bu t) fun r => r.2.2 = 0 → ∃ A, r.1 = some A ∧ kE t (dD t) A := by
 unfold bu cP
 rw [Option.bind_some]
 unfold bu.E1
 rw [o4 hS, Option.bind_some]
 refine uO (fun k A => kE t ((dD t).take k) A) ⟨by simp, by simp, fun m h0 h1 => .inl (by rw [EI h0 h1]), fun m h0 h1 => .inl (by rw [EI h0 h1])⟩ ?_ ?_
 ·intro k x A hx hI
  have hxm : x ∈ dD t := List.mem_of_getElem? hx
  have hkl : k < (dD t).length := (List.getElem?_eq_some_iff.1 hx).1
  have htk : (dD t).take (k + 1) = (dD t).take k ++ [x] := by rw [List.take_add_one, hx]; rfl
  obtain ⟨p, j, hat, hid⟩ := iC.1 hxm
  have hxi : x.1.index > 0 := by rw [hid]; show (j : Int) + 1 > 0; omega
  have hf := hF x hxm
  unfold bu.iy
  rw [aM]
  constructor
  ·intro hk
   have hk2 : x.2.kind = 2 := by simpa using hk
   have hm : 0 ≤ x.2.message ∧ x.2.message ≤ 199 := by
    rcases hf with h | ⟨_, _, _, _, h⟩
    ·omega
    ·exact h
   rw [Dy A hm.1 hm.2, Option.bind_some, aM]
   refine ⟨fun _ => (ai _).2 ((ai _).2 fun h => by cases h), fun h0 => ?_⟩
   have h0 : ¬ (ag A x.2.message).from_.index > 0 := by simpa using h0
   rw [Option.bind_some, ai, htk]
   have old : ∀ y ∈ (dD t).take k, y.2.kind = 2 → y.2.message ≠ x.2.message := fun y hy hy2 he => by
    have := hI.snd y hy hy2
    rw [he] at this
    rw [this] at h0
    obtain ⟨p', j', _, hid'⟩ := iC.1 (List.mem_of_mem_take hy)
    rw [hid'] at h0
    exact h0 (by show (j' : Int) + 1 > 0; omega)
   have nn : ∀ y ∈ (dD t).take k, y.2.kind = 2 ∨ y.2.kind = 3 → 0 ≤ y.2.message := fun y hy hy2 => by
    rcases hF y (List.mem_of_mem_take hy) with h | ⟨_, _, _, _, h, _⟩
    ·omega
    ·exact h
   refine ⟨fun y hy hy2 => ?_, fun y hy hy3 => ?_, fun m m0 m1 => ?_, fun m m0 m1 => ?_⟩
   ·rcases List.mem_append.1 hy with hy | hy
    ·rw [lU A _ hm.1 hm.2 (nn y hy (.inl hy2)), if_neg (old y hy hy2)]
     exact hI.snd y hy hy2
    ·simp at hy; subst hy
     rw [lU A _ hm.1 hm.2 hm.1, if_pos rfl]
   ·rcases List.mem_append.1 hy with hy | hy
    ·rw [lU A _ hm.1 hm.2 (nn y hy (.inr hy3))]
     have := hI.rcv y hy hy3
     split
     ·rename_i e; rw [e] at this; exact ⟨this.1, by rw [e]; exact this.2⟩
     ·exact this
    ·simp at hy; subst hy; omega
   ·rw [lU A _ hm.1 hm.2 m0]
    split
    ·rename_i e; exact .inr ⟨x.2, by simp, hk2, e.symm⟩
    ·exact (hI.fr m m0 m1).imp (fun h => h) fun ⟨e, h1, h2⟩ => ⟨e, List.mem_append_left _ h1, h2⟩
   ·rw [lU A _ hm.1 hm.2 m0]
    have := (hI.to m m0 m1).imp (fun h => h) fun ⟨e, h1, h2⟩ => (⟨e, List.mem_append_left [x] h1, h2⟩ : ∃ e, ((ag A m).to_, e) ∈ (dD t).take k ++ [x] ∧ e.kind = 3 ∧ e.message = m)
    split
    ·rename_i e; subst e; exact this
    ·exact this
  ·intro hk
   have hk2 : ¬ x.2.kind = 2 := by simpa using hk
   rw [aM]
   constructor
   ·intro hk
    have hk3 : x.2.kind = 3 := by simpa using hk
    have hm : 0 ≤ x.2.message ∧ x.2.message ≤ 199 ∧ 0 ≤ x.2.peer ∧ x.2.peer < t.procs.l.length := by
     rcases hf with h | ⟨_, h1, h2, _, h3, h4⟩
     ·omega
     ·exact ⟨h3, h4, h1, h2⟩
    rw [Dy A hm.1 hm.2.1, Option.bind_some, aM]
    refine ⟨fun _ => (ai _).2 ((ai _).2 fun h => by cases h), fun h0 => ?_⟩
    have h0 : ¬ (ag A x.2.message).to_.index > 0 := by simpa using h0
    rw [Gm hS hm.2.2.1 hm.2.2.2, Option.bind_some, aM]
    refine ⟨fun hs => ?_, fun _ => (ai _).2 ((ai _).2 fun h => by cases h)⟩
    rw [Option.bind_some, ai, htk]
    have old : ∀ y ∈ (dD t).take k, y.2.kind = 3 → y.2.message ≠ x.2.message := fun y hy hy2 he => by
     have := (hI.rcv y hy hy2).1
     rw [he] at this
     rw [this] at h0
     obtain ⟨p', j', _, hid'⟩ := iC.1 (List.mem_of_mem_take hy)
     rw [hid'] at h0
     exact h0 (by show (j' : Int) + 1 > 0; omega)
    have nn : ∀ y ∈ (dD t).take k, y.2.kind = 2 ∨ y.2.kind = 3 → 0 ≤ y.2.message := fun y hy hy2 => by
     rcases hF y (List.mem_of_mem_take hy) with h | ⟨_, _, _, _, h, _⟩
     ·omega
     ·exact h
    refine ⟨fun y hy hy2 => ?_, fun y hy hy3 => ?_, fun m m0 m1 => ?_, fun m m0 m1 => ?_⟩
    ·rcases List.mem_append.1 hy with hy | hy
     ·rw [lU A _ hm.1 hm.2.1 (nn y hy (.inl hy2))]
      have := hI.snd y hy hy2
      split
      ·rename_i e; rw [e] at this; exact this
      ·exact this
     ·simp at hy; subst hy; omega
    ·rcases List.mem_append.1 hy with hy | hy
     ·rw [lU A _ hm.1 hm.2.1 (nn y hy (.inr hy3)), if_neg (old y hy hy3)]
      exact hI.rcv y hy hy3
     ·simp at hy; subst hy
      rw [lU A _ hm.1 hm.2.1 hm.1, if_pos rfl]
      exact ⟨rfl, hs⟩
    ·rw [lU A _ hm.1 hm.2.1 m0]
     have := (hI.fr m m0 m1).imp (fun h => h) fun ⟨e, h1, h2⟩ => (⟨e, List.mem_append_left [x] h1, h2⟩ : ∃ e, ((ag A m).from_, e) ∈ (dD t).take k ++ [x] ∧ e.kind = 2 ∧ e.message = m)
     split
     ·rename_i e; subst e; exact this
     ·exact this
    ·rw [lU A _ hm.1 hm.2.1 m0]
     split
     ·rename_i e; exact .inr ⟨x.2, by simp, hk3, e.symm⟩
     ·exact (hI.to m m0 m1).imp (fun h => h) fun ⟨e, h1, h2⟩ => ⟨e, List.mem_append_left _ h1, h2⟩
   ·intro hk
    have hk3 : ¬ x.2.kind = 3 := by simpa using hk
    rw [ai, htk]
    refine ⟨fun y hy hy2 => ?_, fun y hy hy3 => ?_, fun m m0 m1 => ?_, fun m m0 m1 => ?_⟩
    ·rcases List.mem_append.1 hy with hy | hy
     ·exact hI.snd y hy hy2
     ·simp at hy; subst hy; exact absurd hy2 hk2
    ·rcases List.mem_append.1 hy with hy | hy
     ·exact hI.rcv y hy hy3
     ·simp at hy; subst hy; exact absurd hy3 hk3
    ·exact (hI.fr m m0 m1).imp (fun h => h) fun ⟨e, h1, h2⟩ => ⟨e, List.mem_append_left _ h1, h2⟩
    ·exact (hI.to m m0 m1).imp (fun h => h) fun ⟨e, h1, h2⟩ => ⟨e, List.mem_append_left _ h1, h2⟩
 ·intro A hA
  rw [List.take_length] at hA
  exact (ai _).2 fun _ => ⟨A, rfl, hA⟩
end Go.VE
namespace Go.VE
theorem vW {α : Type} [DecidableEq α] : ∀ {l r : List α}, l.Nodup → (∀ x ∈ l, x ∈ r) → l.length ≤ r.length
 | [], _, _, _ => Nat.zero_le _
 | x :: l, r, hn, hs => by
  have hx : x ∈ r := hs x (List.mem_cons_self ..)
  have hn' := List.nodup_cons.1 hn
  have := vW (l := l) (r := r.erase x) hn'.2 fun y hy => (List.mem_erase_of_ne (by rintro rfl; exact hn'.1 hy)).2 (hs y (List.mem_cons_of_mem _ hy))
  rw [List.length_erase_of_mem hx] at this
  have hp : 0 < r.length := List.length_pos_of_mem hx
  simp only [List.length_cons]; omega
section
variable {κ : Type} [DecidableEq κ]
theorem Cy {ν : Type} {k : κ} : ∀ {m : Mo κ ν}, k ∉ m.map (·.1) → od k m = none
 | [], _ => rfl
 | (a, v) :: r, h => by
  simp only [List.map_cons, List.mem_cons, not_or] at h
  unfold od
  rw [if_neg h.1]; exact Cy h.2
theorem zi {ν : Type} {k : κ} : ∀ {m : Mo κ ν}, k ∈ m.map (·.1) → ∃ v, od k m = some v ∧ (k, v) ∈ m
 | [], h => by simp at h
 | (a, v) :: r, h => by
  unfold od
  by_cases e : k = a
  ·subst e; exact ⟨v, by rw [if_pos rfl], List.mem_cons_self ..⟩
  ·rw [if_neg e]
   obtain ⟨w, h1, h2⟩ := zi (m := r) (by simpa [e] using h)
   exact ⟨w, h1, List.mem_cons_of_mem _ h2⟩
theorem sO {ν : Type} {k : κ} {v : ν} : ∀ {m : Mo κ ν}, k ∉ m.map (·.1) → nG m k v = m ++ [(k, v)]
 | [], _ => rfl
 | (a, w) :: r, h => by
  simp only [List.map_cons, List.mem_cons, not_or] at h
  show (if k = a then _ else _) = _
  rw [if_neg h.1, sO h.2]; rfl
end
def Vd (t : Trace) (y : aa) : Prop := ∃ e, (y, e) ∈ dD t
theorem Vd.at_ {t : Trace} {y : aa} (h : Vd t y) : ∃ (p k : Nat) (e : Event), qQ t p k e ∧ y = ⟨p, k + 1⟩ ∧ (y, e) ∈ dD t := by
 obtain ⟨e, he⟩ := h
 obtain ⟨p, k, h1, h2⟩ := iC.1 he
 exact ⟨p, k, e, h1, h2, he⟩
theorem Gx {t : Trace} (hS : Small t) (hF : ∀ x ∈ dD t, j7 t.procs.l.length x.1.proc x.2) {A : aZ 200 ay} (hA : kE t (dD t) A) {y : aa} (hy : Vd t y) :
 Wp (dM t A y) fun s => s.l.length ≤ 2 ∧ ∀ z ∈ s.l, Vd t z := by
 obtain ⟨p, k, e, hat, hid, hmem⟩ := hy.at_
 have hat' := hat
 obtain ⟨P, hP, hk⟩ := hat
 have hPm : P ∈ t.procs.l := List.mem_of_getElem? hP
 have h1 := (hS.2 P hPm).1
 have hkl : k < P.events.l.length := (List.getElem?_eq_some_iff.1 hk).1
 have hyp : y.proc = p := by rw [hid]
 have hyi : y.index = k + 1 := by rw [hid]
 have j : ∀ s : Sl aa, s.l.length ≤ 1 → (∀ z ∈ s.l, Vd t z) → Wp (dM.J1 A s P.events y) fun s => s.l.length ≤ 2 ∧ ∀ z ∈ s.l, Vd t z := by
  intro s hs hz
  unfold dM.J1
  have hw : IntKind.wrap .i64 (y.index - 1) = ((k : Nat) : Int) := by rw [hyi, jF _ (by omega) (by omega)]; omega
  rw [hw, DD, hk, Option.bind_some, eP, aM]
  constructor
  ·intro hk2
   have hk2 : e.kind = 2 := by simpa using hk2
   have hm : 0 ≤ e.message ∧ e.message ≤ 199 := by
    rcases hF _ hmem with h | ⟨_, _, _, _, h⟩
    ·simp only at h; omega
    ·exact h
   rw [Dy A hm.1 hm.2, Option.bind_some, ai, aM]
   refine ⟨fun h => ?_, fun _ => (ai _).2 ⟨by omega, hz⟩⟩
   have h : (ag A e.message).to_.index > 0 := by simpa using h
   rw [Option.bind_some]
   unfold iM
   rw [if_pos (by omega), Option.bind_some, ai]
   refine ⟨by show (s.l ++ [(ag A e.message).to_]).length ≤ 2; rw [List.length_append, List.length_singleton]; omega, fun z hz' => ?_⟩
   simp only [Sl.l, List.mem_append, List.mem_singleton] at hz'
   rcases hz' with hz' | rfl
   ·exact hz z hz'
   ·rcases hA.to e.message hm.1 hm.2 with h0 | ⟨e', h1, _⟩
    ·omega
    ·exact ⟨e', h1⟩
  ·intro _
   rw [ai, aM]
   exact ⟨fun h => (by cases h), fun _ => (ai _).2 ⟨by omega, hz⟩⟩
 unfold dM
 rw [hyp, DD, hP, Option.bind_some, aM]
 constructor
 ·intro h
  have h : y.index < len P.events := by simpa using h
  have hk2 : k + 1 < P.events.l.length := by rw [hyi] at h; simp [len] at h; omega
  refine j _ (by simp [Sl.l]) fun z hz => ?_
  simp only [Sl.l, List.mem_singleton] at hz
  subst hz
  refine ⟨P.events.l[k + 1], iC.2 ⟨p, k + 1, ⟨P, hP, List.getElem?_eq_getElem hk2⟩, ?_⟩⟩
  show (⟨(p : Int), IntKind.wrap .i64 (y.index + 1)⟩ : aa) = _
  rw [hyi, jF _ (by omega) (by omega)]; simp
 ·intro _
  exact j _ (by simp [Sl.l]) fun z hz => by simp [Sl.l] at hz
structure Bc (t : Trace) (rest : Sl aa) (m : Mo aa Bool) : Prop where
 rst : ∀ y ∈ rest.l, Vd t y
 keys : (m.map (·.1)).Nodup
 seen : ∀ y ∈ m, Vd t y.1 ∧ y.2 = true
 le : rest.l.length ≤ m.length + 1
theorem Bc.count {t : Trace} {rest : Sl aa} {m : Mo aa Bool} (h : Bc t rest m) : m.length ≤ (dD t).length := by
 have := vW (r := (dD t).map (·.1)) h.keys fun x hx => by
  obtain ⟨y, hy, rfl⟩ := List.mem_map.1 hx
  obtain ⟨e, he⟩ := (h.seen y hy).1
  exact List.mem_map.2 ⟨_, he, rfl⟩
 simpa using this
theorem DS {t : Trace} (hS : Small t) (hN : (dD t).length < 1073741824) (hF : ∀ x ∈ dD t, j7 t.procs.l.length x.1.proc x.2) {A : aZ 200 ay} (hA : kE t (dD t) A) : lI (cw t A) := by
 unfold cw cP
 rw [Option.bind_some]
 unfold cw.E1
 rw [o4 hS, Option.bind_some]
 refine uO (fun _ _ => True) trivial ?_ fun _ _ => (ai _).2 trivial
 intro i x _ hx _
 have hxm : x ∈ dD t := List.mem_of_getElem? hx
 unfold cw.iy cw.W2
 refine Wp.mono (P := fun w => match w with | .x e => False | _ => True) ?_ fun w hw => by
  cases w with
  | n s => trivial
  | x e => exact hw.elim
  | r b => exact (ai _).2 trivial
 refine eX (fun q : Sl aa × Mo aa Bool => Bc t q.1 q.2) (fun q => 2 * ((dD t).length - q.2.length) + q.1.l.length) ⟨fun y hy => ?_, by simp, by simp, by simp [Sl.l]⟩ ?_
 ·simp only [Sl.l, List.mem_singleton] at hy; subst hy; exact ⟨x.2, hxm⟩
 rintro ⟨rest, m⟩ hI
 unfold cw.cC
 rw [aM]
 refine ⟨fun h => ?_, fun _ => (ai _).2 ((ai _).2 trivial)⟩
 have hlen : 0 < rest.l.length := by
  have : len rest > 0 := by simpa using h
  simp [len] at this; omega
 have hc := hI.count
 have hle := hI.le
 simp only at hc hle
 have hw : IntKind.wrap .i64 ((len rest) - 1) = ((rest.l.length - 1 : Nat) : Int) := by
  rw [jF _ (by simp [len]; omega) (by simp [len]; omega)]; simp [len]; omega
 have hlast : rest.l.length - 1 < rest.l.length := by omega
 rw [hw]
 have h1 : Sl.uj rest ((rest.l.length - 1 : Nat) : Int) = some (rest.l.length - 1) := by
  unfold Sl.uj; rw [if_pos ⟨by omega, by simpa using hlast⟩]; rfl
 have h2 : Sl.get rest (rest.l.length - 1) = some rest.l[rest.l.length - 1] := by unfold Sl.get; exact List.getElem?_eq_getElem hlast
 obtain ⟨cut, h3, h4⟩ : ∃ x, lQ rest none (some ((rest.l.length - 1 : Nat) : Int)) = some x ∧ x.l = rest.l.take (rest.l.length - 1) := by
  cases rest with
  | nil => simp [Sl.l] at hlen
  | emp => simp [Sl.l] at hlen
  | row l =>
   simp only [Sl.l] at hlen ⊢
   unfold lQ dR
   simp only [Option.getD_none, Option.getD_some]
   rw [if_pos (by omega)]
   exact ⟨_, rfl, by simp [Sl.l]⟩
  | part l =>
   simp only [Sl.l] at hlen ⊢
   unfold lQ dR
   simp only [Option.getD_none, Option.getD_some]
   rw [if_pos (by omega)]
   exact ⟨_, rfl, by simp [Sl.l]⟩
 rw [h1, Option.bind_some, h2, Option.bind_some, h3, Option.bind_some, eP]
 refine (Gx hS hF hA (hI.rst _ (List.getElem_mem hlast))).mono fun s hs => ?_
 unfold cw.W3
 refine eX (fun q : Sl aa × Int × Mo aa Bool => ∃ n : Nat, q.2.1 = n ∧ n ≤ s.l.length ∧ Bc t q.1 q.2.2 ∧ 2 * ((dD t).length - q.2.2.length) + q.1.l.length < 2 * ((dD t).length - m.length) + rest.l.length) (fun q => s.l.length - q.2.1.toNat)
  ⟨0, rfl, Nat.zero_le _, ⟨fun y hy => hI.rst y (by rw [h4] at hy; exact List.mem_of_mem_take hy), hI.keys, hI.seen, by rw [h4]; simp; omega⟩, by rw [h4]; simp; omega⟩ ?_
 rintro ⟨rest2, i2, m2⟩ ⟨n, rfl, hn, hI2, hμ⟩
 simp only at hI2 hμ
 unfold cw.iw
 rw [aM]
 constructor
 ·intro h
  have hlt : n < s.l.length := by simpa [len] using h
  rw [cH hlt, Option.bind_some, aM]
  refine ⟨fun _ => (ai _).2 ((ai _).2 ((ai _).2 trivial)), fun _ => ?_⟩
  have hw2 := fQ n (by omega)
  rw [aM]
  refine ⟨fun _ => (ai _).2 ⟨⟨n + 1, hw2, by omega, hI2, hμ⟩, by show _ - (IntKind.wrap .i64 ((n : Int) + 1)).toNat < _; rw [hw2]; simp; omega⟩, fun hno => ?_⟩
  have hc2 := hI2.count
  have hle2 := hI2.le
  unfold iM
  rw [if_pos (show rest2.l.length + 1 ≤ 2147483648 from by omega), Option.bind_some, ai]
  have hnew : s.l[n] ∉ m2.map (·.1) := fun hin => by
   obtain ⟨v, hv, hvm⟩ := zi hin
   have := (hI2.seen _ hvm).2
   simp only at this
   subst this
   unfold Av at hno
   rw [hv] at hno
   cases hno
  have hS2 : Bc t (.row (rest2.l ++ [s.l[n]])) (nG m2 s.l[n] true) := by
   rw [sO hnew]
   refine ⟨fun y hy => ?_, ?_, fun y hy => ?_, by show (rest2.l ++ [s.l[n]]).length ≤ _; rw [List.length_append, List.length_append, List.length_singleton, List.length_singleton]; omega⟩
   ·simp only [Sl.l, List.mem_append, List.mem_singleton] at hy
    rcases hy with hy | rfl
    ·exact hI2.rst y hy
    ·exact hs.2 _ (List.getElem_mem hlt)
   ·rw [List.map_append, List.nodup_append]
    refine ⟨hI2.keys, by simp, fun a ha b hb => ?_⟩
    simp only [List.map_cons, List.map_nil, List.mem_singleton] at hb
    subst hb
    exact fun e => hnew (e ▸ ha)
   ·rcases List.mem_append.1 hy with hy | hy
    ·exact hI2.seen y hy
    ·simp only [List.mem_singleton] at hy; subst hy; exact ⟨hs.2 _ (List.getElem_mem hlt), rfl⟩
  have hc3 := hS2.count
  refine ⟨⟨n + 1, hw2, by omega, hS2, ?_⟩, by show _ - (IntKind.wrap .i64 ((n : Int) + 1)).toNat < _; rw [hw2]; simp; omega⟩
  rw [sO hnew, List.length_append, List.length_singleton] at hc3
  show 2 * ((dD t).length - (nG m2 s.l[n] true).length) + (rest2.l ++ [s.l[n]]).length < _
  rw [sO hnew, List.length_append, List.length_append, List.length_singleton, List.length_singleton]
  omega
 ·intro _
  exact (ai _).2 ((ai _).2 ⟨hI2, hμ⟩)
structure VT (t : Trace) : Prop where
 formed : ∀ x ∈ dD t, j7 t.procs.l.length x.1.proc x.2
 msgs : ∃ A i, bu t = some (some A, i, 0) ∧ kE t (dD t) A
 few : t.procs.l.length ≤ 8
theorem FU {t : Trace} (hS : Small t) (hN : (dD t).length < 1073741824) : Wp (cB t) fun b => b = true → VT t := by
 unfold cB
 rw [eP]
 refine Wp.mono (P := fun r => r.2 = 0 → VT t) ?_ fun r hr => (ai _).2 fun h => hr (by simpa using h)
 unfold dn
 rw [lZ, Option.bind_some, aM]
 refine ⟨fun hin => ?_, fun _ => (ai _).2 fun h => by cases h⟩
 have h8 : t.procs.l.length ≤ 8 := by
  simp only [Bool.and_eq_true, decide_eq_true_eq, len] at hin; omega
 unfold dn.W1
 refine eX (fun i : Int => ∃ n : Nat, i = n ∧ n ≤ t.procs.l.length) (fun i : Int => t.procs.l.length - i.toNat) ⟨0, rfl, Nat.zero_le _⟩ ?_
 rintro i ⟨n, rfl, hn⟩
 unfold dn.aB
 rw [aM]
 constructor
 ·intro h
  have hlt : n < t.procs.l.length := by simpa [len] using h
  obtain ⟨r, hr⟩ := (vG hS hlt).get
  rw [hr, Option.bind_some, aM]
  refine ⟨fun _ => (ai _).2 ⟨⟨n + 1, fQ n (by omega), by omega⟩, by rw [fQ n (by omega)]; simp; omega⟩, fun h0 => (ai _).2 ((ai _).2 fun h => ?_)⟩
  simp only at h
  simp [h] at h0
 ·intro _
  rw [ai]
  unfold cP
  rw [Option.bind_some]
  unfold dn.E2
  rw [o4 hS, Option.bind_some]
  refine uO (fun k _ => ∀ x ∈ (dD t).take k, j7 t.procs.l.length x.1.proc x.2) (by simp) ?_ ?_
  ·intro k x _ hx hI
   have hxm : x ∈ dD t := List.mem_of_getElem? hx
   obtain ⟨p, j, hat, hid⟩ := iC.1 hxm
   unfold dn.uI
   rw [eP, hid]
   refine (zQ hS hat).mono fun r hr => ?_
   rw [aM]
   refine ⟨fun h0 => (ai _).2 fun y hy => ?_, fun h0 => (ai _).2 ((ai _).2 fun h => ?_)⟩
   ·rw [List.take_add_one, hx] at hy
    rcases List.mem_append.1 hy with hy | hy
    ·exact hI y hy
    ·simp at hy; subst hy; rw [hid]; exact hr (by simpa using h0)
   ·simp only at h; simp [h] at h0
  ·intro _ hI
   rw [List.take_length] at hI
   obtain ⟨r, hr, hq⟩ := xD hS hI
   rw [hr, Option.bind_some, aM]
   refine ⟨fun h0 => ?_, fun h0 => (ai _).2 fun h => ?_⟩
   ·have h0 : r.2.2 = 0 := by simpa using h0
    obtain ⟨A, hA, hM⟩ := hq h0
    rw [hA, Option.bind_some]
    obtain ⟨c, hc⟩ := (DS hS hN hI hM).get
    rw [hc, Option.bind_some, aM]
    have hv : VT t := ⟨hI, ⟨A, r.2.1, by rw [hr]; obtain ⟨r1, r2, r3⟩ := r; simp only at hA h0; rw [hA, h0], hM⟩, h8⟩
    exact ⟨fun _ => (ai _).2 fun _ => hv, fun _ => (ai _).2 fun _ => hv⟩
   ·simp only at h; simp [h] at h0
end Go.VE
namespace Go.VE
theorem Ip {a : Int} (h0 : 0 ≤ a) (h1 : a < 4294967296) : sK .u64 (IntKind.wrap .u64 (IntKind.wrap .i64 a)) 1 = some (a / 2) := by
 have e1 : IntKind.wrap .i64 a = a := jF a (by omega) (by omega)
 have e2 : IntKind.wrap .u64 a = a := by simp [IntKind.wrap, IntKind.bits, IntKind.signed]; omega
 rw [e1, e2]
 unfold sK
 rw [if_neg (by omega)]
 show some (a.fdiv (2 ^ (min 1 64))) = _
 rw [show (2 : Int) ^ (min 1 64) = 2 from rfl, Int.fdiv_eq_ediv_of_nonneg a (by omega)]
def Up (l : List Int) : Prop := ∀ (i j : Nat) (a b : Int), i < j → l[i]? = some a → l[j]? = some b → a < b
theorem HK (a b : Int) : eH a b = some (decide (a < b)) := by
 unfold eH d8
 simp [aL]
theorem xu {l : List Int} {x : Int} {r : Nat} (hr : r ≤ l.length) (h1 : ∀ k a, k < r → l[k]? = some a → a ≤ x) (h2 : ∀ k a, r ≤ k → l[k]? = some a → x < a) : l.countP (fun a => decide (a ≤ x)) = r := by
 have e : l = l.take r ++ l.drop r := (List.take_append_drop r l).symm
 rw [e, List.countP_append]
 have a1 : (l.take r).countP (fun a => decide (a ≤ x)) = (l.take r).length := by
  rw [List.countP_eq_length]
  intro a ha
  obtain ⟨k, hk⟩ := List.getElem?_of_mem ha
  have hkl : k < (l.take r).length := (List.getElem?_eq_some_iff.1 hk).1
  rw [List.getElem?_take] at hk
  have hkr : k < r := by rw [List.length_take] at hkl; omega
  rw [if_pos hkr] at hk
  simpa using h1 k a hkr hk
 have a2 : (l.drop r).countP (fun a => decide (a ≤ x)) = 0 := by
  rw [List.countP_eq_zero]
  intro a ha
  obtain ⟨k, hk⟩ := List.getElem?_of_mem ha
  rw [List.getElem?_drop] at hk
  have := h2 (r + k) a (by omega) hk
  simp; omega
 rw [a1, a2, List.length_take]; omega
theorem B_ {s : Sl Int} (hu : Up s.l) (hl : s.l.length < 1073741824) (x : Int) : ei s x = some (Int.ofNat (s.l.countP fun a => decide (a ≤ x))) := by
 have hbs : Wp (aP s x) fun r => ∃ i : Nat, r.1 = i ∧ i ≤ s.l.length ∧ (∀ k a, k < i → s.l[k]? = some a → a < x) ∧ (∀ k a, i ≤ k → s.l[k]? = some a → x ≤ a) ∧ (r.2 = true ↔ s.l[i]? = some x) := by
  unfold aP aP.W1
  refine eX (fun q : Int × Int => ∃ i j : Nat, q.1 = i ∧ q.2 = j ∧ i ≤ j ∧ j ≤ s.l.length ∧ (∀ k a, k < i → s.l[k]? = some a → a < x) ∧ (∀ k a, j ≤ k → s.l[k]? = some a → x ≤ a)) (fun q => q.2.toNat - q.1.toNat)
   ⟨0, s.l.length, rfl, rfl, Nat.zero_le _, Nat.le_refl _, fun k a h => absurd h (by omega), fun k a h hk => by have := (List.getElem?_eq_some_iff.1 hk).1; omega⟩ ?_
  rintro ⟨q1, q2⟩ ⟨i, j, h1, h2, hij, hj, hlo, hhi⟩
  simp only at h1 h2; subst h1 h2
  unfold aP.aB
  rw [aM]
  constructor
  ·intro h
   have hlt : i < j := by
    have : (i : Int) < j := by simpa using h
    omega
   rw [Ip (by simp; omega) (by simp; omega), Option.bind_some]
   have hm : ((i : Int) + j) / 2 = (((i + j) / 2 : Nat) : Int) := by omega
   show Wp ((idx s (IntKind.wrap .i64 (((i : Int) + j) / 2))).bind _) _
   have hw : IntKind.wrap .i64 (((i : Int) + j) / 2) = (((i + j) / 2 : Nat) : Int) := by rw [hm, jF _ (by omega) (by omega)]
   have hml : (i + j) / 2 < s.l.length := by omega
   rw [hw, cH hml, Option.bind_some, HK, Option.bind_some, aM]
   constructor
   ·intro hc
    have hc : s.l[(i + j) / 2] < x := by simpa using hc
    rw [ai]
    refine ⟨⟨(i + j) / 2 + 1, j, fQ _ (by omega), rfl, by omega, hj, fun k a hk ha => ?_, hhi⟩, ?_⟩
    ·by_cases e : k = (i + j) / 2
     ·subst e; rw [List.getElem?_eq_getElem hml] at ha; cases ha; exact hc
     ·have := hu k ((i + j) / 2) a _ (by omega) ha (List.getElem?_eq_getElem hml); omega
    ·show (j : Int).toNat - (IntKind.wrap .i64 ((((i + j) / 2 : Nat) : Int) + 1)).toNat < (j : Int).toNat - (i : Int).toNat
     rw [fQ _ (by omega)]; simp only [Int.toNat_natCast]; omega
   ·intro hc
    have hc : x ≤ s.l[(i + j) / 2] := by simpa using hc
    rw [ai]
    refine ⟨⟨i, (i + j) / 2, rfl, rfl, by omega, by omega, hlo, fun k a hk ha => ?_⟩, ?_⟩
    ·by_cases e : k = (i + j) / 2
     ·subst e; rw [List.getElem?_eq_getElem hml] at ha; cases ha; exact hc
     ·have := hu ((i + j) / 2) k _ a (by omega) (List.getElem?_eq_getElem hml) ha; omega
    ·show (((i + j) / 2 : Nat) : Int).toNat - (i : Int).toNat < (j : Int).toNat - (i : Int).toNat
     simp only [Int.toNat_natCast]; omega
  ·intro h
   have hge : j ≤ i := by
    have : ¬ (i : Int) < j := by simpa using h
    omega
   have hij' : i = j := by omega
   subst hij'
   refine (ai _).2 ?_
   show Wp (Option.bind (aL (decide ((i : Int) < len s)) _ _) _) _
   rw [eP, aM]
   constructor
   ·intro h2
    have hil : i < s.l.length := by simpa [len] using h2
    rw [cH hil, Option.bind_some, eP]
    unfold cR
    rw [aM]
    constructor
    ·intro h3
     have h3 : s.l[i] = x := by simpa using h3
     simp only [ai, eP]
     exact ⟨i, rfl, hj, hlo, hhi, by simp [List.getElem?_eq_getElem hil, h3]⟩
    ·intro h3
     have h3 : s.l[i] ≠ x := by simpa using h3
     simp only [ai, eP, Option.bind_some, beq_self_eq_true, Bool.not_true, pF]
     exact ⟨i, rfl, hj, hlo, hhi, by simp [List.getElem?_eq_getElem hil, h3]⟩
   ·intro h2
    have hil : s.l.length ≤ i := by simpa [len] using h2
    simp only [ai]
    exact ⟨i, rfl, hj, hlo, hhi, by simp [List.getElem?_eq_none hil]⟩
 obtain ⟨⟨i, b⟩, hi, n, h1, h2, h3, h4, h5⟩ := hbs
 simp only at h1 h5; subst h1
 unfold ei
 rw [hi, Option.bind_some]
 cases b with
 | true =>
  have hx := h5.1 rfl
  have hnl := (List.getElem?_eq_some_iff.1 hx).1
  have hc : s.l.countP (fun a => decide (a ≤ x)) = n + 1 := by
   refine xu (by omega) (fun k a hk ha => ?_) (fun k a hk ha => ?_)
   ·by_cases e : k = n
    ·subst e; rw [hx] at ha; cases ha; omega
    ·have := h3 k a (by omega) ha; omega
   ·have := hu n k x a (by omega) hx ha; omega
  rw [kq, hc, fQ n (by omega)]; rfl
 | false =>
  have hc : s.l.countP (fun a => decide (a ≤ x)) = n := by
   refine xu h2 (fun k a hk ha => by have := h3 k a hk ha; omega) (fun k a hk ha => ?_)
   have := h4 k a hk ha
   by_cases e : k = n
   ·subst e
    have : a ≠ x := fun e => by subst e; have := h5.2 ha; cases this
    omega
   ·have hn : n < s.l.length := by have := (List.getElem?_eq_some_iff.1 ha).1; omega
    have h6 := h4 n s.l[n] (Nat.le_refl _) (List.getElem?_eq_getElem hn)
    have := hu n k s.l[n] a (by omega) (List.getElem?_eq_getElem hn) ha
    omega
  rw [pF, hc]; rfl
end Go.VE
namespace Go.VE
def j_ (f : Event → Bool) : Int → List Event → List Int
 | _, [] => []
 | j, e :: r => if f e then (j + 1) :: j_ f (j + 1) r else j_ f (j + 1) r
theorem wh (f : Event → Bool) (e : Event) : ∀ (l : List Event) (j : Int), j_ f j (l ++ [e]) = j_ f j l ++ (if f e then [j + l.length + 1] else [])
 | [], j => by simp [j_]
 | x :: l, j => by
  simp only [List.cons_append, j_, wh f e l (j + 1), List.length_cons]
  split <;> simp <;> split <;> simp <;> omega
theorem rD (f : Event → Bool) : ∀ (l : List Event) (j : Int), (j_ f j l).length ≤ l.length
 | [], _ => Nat.le_refl _
 | x :: l, j => by
  have := rD f l (j + 1)
  simp only [j_]; split <;> simp only [List.length_cons] <;> omega
theorem wE (f : Event → Bool) : ∀ (l : List Event) (j : Int) (a : Int), a ∈ j_ f j l → j < a
 | x :: l, j, a, h => by
  simp only [j_] at h
  split at h
  ·rcases List.mem_cons.1 h with rfl | h
   ·omega
   ·have := wE f l (j + 1) a h; omega
  ·have := wE f l (j + 1) a h; omega
theorem x9 (f : Event → Bool) : ∀ (l : List Event) (j : Int), Up (j_ f j l)
 | [], _ => fun i k a b _ h => by simp [j_] at h
 | x :: l, j => by
  intro i k a b hik ha hb
  simp only [j_] at ha hb
  split at ha
  ·rename_i hf
   rw [if_pos hf] at hb
   cases k with
   | zero => omega
   | succ k =>
    simp only [List.getElem?_cons_succ] at hb
    cases i with
    | zero =>
     simp only [List.getElem?_cons_zero, Option.some.injEq] at ha
     subst ha
     exact wE f l (j + 1) b (List.mem_of_getElem? hb)
    | succ i =>
     simp only [List.getElem?_cons_succ] at ha
     exact x9 f l (j + 1) i k a b (by omega) ha hb
  ·rename_i hf
   rw [if_neg hf] at hb
   exact x9 f l (j + 1) i k a b hik ha hb
theorem tB (f : Event → Bool) : ∀ (l : List Event) (j : Int) (x : Nat), (j_ f j l).countP (fun a => decide (a ≤ j + x)) = (l.take x).countP f
 | [], j, x => by simp [j_]
 | e :: l, j, 0 => by
  rw [List.take_zero, List.countP_nil, List.countP_eq_zero]
  intro a ha
  have := wE f (e :: l) j a ha
  simp; omega
 | e :: l, j, x + 1 => by
  have ih := tB f l (j + 1) x
  rw [show j + 1 + (x : Int) = j + ((x + 1 : Nat) : Int) from by push_cast; omega] at ih
  simp only [j_, List.take_succ_cons, List.countP_cons]
  split
  ·rename_i hf
   rw [List.countP_cons, ih]
   simp; omega
  ·rename_i hf
   rw [ih]; simp
def eZ (q : Int) (e : Event) : Bool := e.kind == 2 && e.peer == q
def d5 (p : Int) (e : Event) : Bool := e.kind == 3 && e.peer == p
theorem HW {t : Trace} (hS : Small t) {p q : Nat} (hp : p < t.procs.l.length) (hq : q < t.procs.l.length) :
 Wp (cF t p q) fun w => w.p = p ∧ w.q = q ∧ w.sent.l = j_ (eZ q) 0 t.procs.l[p].events.l ∧ w.received.l = j_ (d5 p) 0 t.procs.l[q].events.l := by
 have hP := (hS.2 _ (List.getElem_mem hp)).1
 have hQ := (hS.2 _ (List.getElem_mem hq)).1
 unfold cF
 rw [cH hp, Option.bind_some]
 generalize hPe : t.procs.l[p] = P at *
 unfold cF.W1
 refine eX (fun s : Int × ak × ak => ∃ n : Nat, s.1 = n ∧ n ≤ P.events.l.length ∧ s.2.2.p = p ∧ s.2.2.q = q ∧ s.2.2.sent.l = j_ (eZ q) 0 (P.events.l.take n)) (fun s => P.events.l.length - s.1.toNat) ⟨0, rfl, Nat.zero_le _, rfl, rfl, rfl⟩ ?_
 rintro ⟨i, v, w⟩ ⟨n, hi, hn, h1, h2, h3⟩
 simp only at hi h1 h2 h3; subst hi
 unfold cF.aB
 rw [aM]
 constructor
 ·intro h
  have hlt : n < P.events.l.length := by simpa [len] using h
  have hw := fQ n (by omega)
  have htk : P.events.l.take (n + 1) = P.events.l.take n ++ [P.events.l[n]] := by rw [List.take_add_one, List.getElem?_eq_getElem hlt]; rfl
  have hmu : P.events.l.length - (IntKind.wrap .i64 ((n : Int) + 1)).toNat < P.events.l.length - ((n : Int)).toNat := by rw [hw]; simp; omega
  have hl0 := rD (eZ q) (P.events.l.take n) 0
  rw [List.length_take] at hl0
  have hsel := wh (eZ q) P.events.l[n] (P.events.l.take n) 0
  rw [← htk, List.length_take, Nat.min_eq_left (by omega)] at hsel
  rw [cH hlt, Option.bind_some, lF, Option.bind_some, aM]
  constructor
  ·intro hc
   unfold iM
   rw [h3, if_pos (by omega), Option.bind_some, ai]
   refine ⟨⟨n + 1, hw, by omega, h1, h2, ?_⟩, hmu⟩
   show j_ (eZ q) 0 (P.events.l.take n) ++ [IntKind.wrap .i64 ((n : Int) + 1)] = _
   rw [hsel, if_pos (show eZ q P.events.l[n] = true from hc), hw]; simp
  ·intro hc
   rw [ai]
   refine ⟨⟨n + 1, hw, by omega, h1, h2, ?_⟩, hmu⟩
   show w.sent.l = _
   rw [hsel, h3, if_neg (show ¬ eZ q P.events.l[n] = true from by rw [show eZ q P.events.l[n] = false from hc]; simp)]; simp
 ·intro h
  have hge : P.events.l.length ≤ n := by simpa [len] using h
  rw [List.take_of_length_le hge] at h3
  refine (ai _).2 ?_
  show Wp ((idx t.procs q).bind _) _
  rw [cH hq, Option.bind_some]
  generalize hQe : t.procs.l[q] = Q at *
  unfold cF.W2
  refine eX (fun s : Int × ak × ak => ∃ n : Nat, s.1 = n ∧ n ≤ Q.events.l.length ∧ s.2.2.p = p ∧ s.2.2.q = q ∧ s.2.2.sent.l = j_ (eZ q) 0 P.events.l ∧ s.2.2.received.l = j_ (d5 p) 0 (Q.events.l.take n)) (fun s => Q.events.l.length - s.1.toNat) ⟨0, rfl, Nat.zero_le _, h1, h2, h3, rfl⟩ ?_
  rintro ⟨i, v', w'⟩ ⟨m, hi, hm, g1, g2, g3, g4⟩
  simp only at hi g1 g2 g3 g4; subst hi
  unfold cF.cC
  rw [aM]
  constructor
  ·intro h
   have hlt : m < Q.events.l.length := by simpa [len] using h
   have hw := fQ m (by omega)
   have htk : Q.events.l.take (m + 1) = Q.events.l.take m ++ [Q.events.l[m]] := by rw [List.take_add_one, List.getElem?_eq_getElem hlt]; rfl
   have hmu : Q.events.l.length - (IntKind.wrap .i64 ((m : Int) + 1)).toNat < Q.events.l.length - ((m : Int)).toNat := by rw [hw]; simp; omega
   have hl0 := rD (d5 p) (Q.events.l.take m) 0
   rw [List.length_take] at hl0
   have hsel := wh (d5 p) Q.events.l[m] (Q.events.l.take m) 0
   rw [← htk, List.length_take, Nat.min_eq_left (by omega)] at hsel
   rw [cH hlt, Option.bind_some, lF, Option.bind_some, aM]
   constructor
   ·intro hc
    unfold iM
    rw [g4, if_pos (by omega), Option.bind_some, ai]
    refine ⟨⟨m + 1, hw, by omega, g1, g2, g3, ?_⟩, hmu⟩
    show j_ (d5 p) 0 (Q.events.l.take m) ++ [IntKind.wrap .i64 ((m : Int) + 1)] = _
    rw [hsel, if_pos (show d5 p Q.events.l[m] = true from hc), hw]; simp
   ·intro hc
    rw [ai]
    refine ⟨⟨m + 1, hw, by omega, g1, g2, g3, ?_⟩, hmu⟩
    show w'.received.l = _
    rw [hsel, g4, if_neg (show ¬ d5 p Q.events.l[m] = true from by rw [show d5 p Q.events.l[m] = false from hc]; simp)]; simp
  ·intro h
   have hge : Q.events.l.length ≤ m := by simpa [len] using h
   rw [List.take_of_length_le hge] at g4
   refine (ai _).2 ((ai _).2 ⟨g1, g2, g3, g4⟩)
end Go.VE
namespace Go.VE
def under (t : Trace) (c : List Int) (p q : Nat) : Int := match t.procs.l[p]?, t.procs.l[q]?, c[p]?, c[q]? with
 | some P, some Q, some a, some b => ((P.events.l.take a.toNat).countP (eZ q) : Int) - ((Q.events.l.take b.toNat).countP (d5 p) : Int)
 | _, _, _, _ => 0
theorem JS {t : Trace} (hS : Small t) {c : Sl Int} {p q : Nat} (hp : p < t.procs.l.length) (hq : q < t.procs.l.length) (hcl : c.l.length = t.procs.l.length) (hc : ∀ a ∈ c.l, 0 ≤ a) {w : ak}
 (h1 : w.p = p) (h2 : w.q = q) (h3 : w.sent.l = j_ (eZ q) 0 t.procs.l[p].events.l) (h4 : w.received.l = j_ (d5 p) 0 t.procs.l[q].events.l) : cQ w c = some (under t c.l p q) := by
 have hpc : p < c.l.length := by omega
 have hqc : q < c.l.length := by omega
 have hP := (hS.2 _ (List.getElem_mem hp)).1
 have hQ := (hS.2 _ (List.getElem_mem hq)).1
 have ha := hc _ (List.getElem_mem hpc)
 have hb := hc _ (List.getElem_mem hqc)
 have s1 := rD (eZ q) t.procs.l[p].events.l 0
 have s2 := rD (d5 p) t.procs.l[q].events.l 0
 unfold cQ
 rw [h1, cH hpc, Option.bind_some, B_ (by rw [h3]; exact x9 _ _ _) (by rw [h3]; omega), Option.bind_some, h2, cH hqc, Option.bind_some, B_ (by rw [h4]; exact x9 _ _ _) (by rw [h4]; omega), Option.bind_some]
 have e1 := tB (eZ q) t.procs.l[p].events.l 0 c.l[p].toNat
 have e2 := tB (d5 p) t.procs.l[q].events.l 0 c.l[q].toNat
 rw [show (0 : Int) + (c.l[p].toNat : Int) = c.l[p] from by omega] at e1
 rw [show (0 : Int) + (c.l[q].toNat : Int) = c.l[q] from by omega] at e2
 rw [h3, h4, e1, e2]
 have b1 := List.countP_le_length (p := eZ q) (l := t.procs.l[p].events.l.take c.l[p].toNat)
 have b2 := List.countP_le_length (p := d5 p) (l := t.procs.l[q].events.l.take c.l[q].toNat)
 rw [List.length_take] at b1 b2
 rw [jF _ (by simp only [Int.ofNat_eq_natCast]; omega) (by simp only [Int.ofNat_eq_natCast]; omega)]
 unfold under
 rw [List.getElem?_eq_getElem hp, List.getElem?_eq_getElem hq, List.getElem?_eq_getElem hpc, List.getElem?_eq_getElem hqc]
 rfl
def Table (t : Trace) (c : List Int) (rows : List (Sl Int)) : Prop := rows.length = t.procs.l.length ∧ ∀ (p : Nat) (r : Sl Int), rows[p]? = some r → r.l.length = t.procs.l.length ∧ ∀ (q : Nat) (x : Int), r.l[q]? = some x → x = if p = q then 0 else under t c p q
theorem ER {t : Trace} (hS : Small t) {c : Sl Int} (hcl : c.l.length = t.procs.l.length) (hc : ∀ a ∈ c.l, 0 ≤ a) (hN : t.procs.l.length ≤ 8) :
 Wp (bL.W1 c (len t.procs) (Sl.nil : Sl (Sl Int)) (len t.procs) 0 t) fun r => r.2 = 0 ∧ Table t c.l r.1.l := by
 unfold bL.W1
 refine eX (fun s : Sl (Sl Int) × Int => ∃ n : Nat, s.2 = n ∧ n ≤ t.procs.l.length ∧ s.1.l.length = n ∧ ∀ (p : Nat) (r : Sl Int), s.1.l[p]? = some r → r.l.length = t.procs.l.length ∧ ∀ (q : Nat) (x : Int), r.l[q]? = some x → x = if p = q then 0 else under t c.l p q) (fun s => t.procs.l.length - s.2.toNat)
  ⟨0, rfl, Nat.zero_le _, rfl, fun p r h => by simp [Sl.l] at h⟩ ?_
 rintro ⟨out, i⟩ ⟨n, hi, hn, hlen, hrows⟩
 simp only at hi hlen hrows; subst hi
 unfold bL.aB
 rw [aM]
 constructor
 ·intro h
  have hlt : n < t.procs.l.length := by simpa [len] using h
  have hw := fQ n (by omega)
  unfold pR
  rw [if_pos (by simp [len]; omega), Option.bind_some]
  unfold bL.W2
  refine eX (fun s : Int × Sl Int × Int × Int => ∃ m : Nat, s.1 = n ∧ s.2.2.1 = len t.procs ∧ s.2.2.2 = m ∧ m ≤ t.procs.l.length ∧ s.2.1.l.length = t.procs.l.length ∧ (∃ l, s.2.1 = .row l) ∧ ∀ (q : Nat) (x : Int), s.2.1.l[q]? = some x → x = if q < m then (if n = q then 0 else under t c.l n q) else 0) (fun s => t.procs.l.length - s.2.2.2.toNat)
   ⟨0, rfl, rfl, rfl, Nat.zero_le _, by simp [Sl.l, len], ⟨_, rfl⟩, fun q x hx => by
    simp only [Sl.l, List.getElem?_replicate] at hx
    split at hx <;> simp at hx; simp [hx]⟩ ?_
  rintro ⟨pp, row, cc, j⟩ ⟨m, hpp, hcc, hj, hm, hrl, ⟨rl, hrow⟩, hr⟩
  simp only at hpp hcc hj hrl hrow hr; subst hpp hcc hj hrow
  unfold bL.cC
  rw [aM]
  constructor
  ·intro h
   have hltm : m < t.procs.l.length := by simpa [len] using h
   have hwm := fQ m (by omega)
   have hmu : t.procs.l.length - (IntKind.wrap .i64 ((m : Int) + 1)).toNat < t.procs.l.length - ((m : Int)).toNat := by rw [hwm]; simp; omega
   rw [aM]
   constructor
   ·intro he
    have he : n = m := by
     have : (n : Int) = m := by simpa using he
     omega
    rw [ai]
    refine ⟨⟨m + 1, rfl, rfl, hwm, by omega, hrl, ⟨_, rfl⟩, fun q x hx => ?_⟩, hmu⟩
    have := hr q x hx
    by_cases e : q = m
    ·subst e
     rw [if_neg (show ¬ q < q from by omega)] at this
     rw [this, if_pos (show q < q + 1 from by omega), if_pos he]
    ·rw [this]
     by_cases e2 : q < m
     ·rw [if_pos e2, if_pos (show q < m + 1 from by omega)]
     ·rw [if_neg e2, if_neg (show ¬ q < m + 1 from by omega)]
   ·intro he
    have he : n ≠ m := by
     have : ¬ (n : Int) = m := by simpa using he
     omega
    rw [eP]
    refine (HW hS hlt hltm).mono fun w hw4 => ?_
    rw [JS hS hlt hltm hcl hc hw4.1 hw4.2.1 hw4.2.2.1 hw4.2.2.2, Option.bind_some]
    have hrl2 : rl.length = t.procs.l.length := hrl
    have hml : m < rl.length := by omega
    rw [show Sl.uj (Sl.row rl) (m : Int) = some m from by unfold Sl.uj; rw [if_pos ⟨by omega, by simpa [Sl.l] using hml⟩]; rfl, Option.bind_some]
    rw [show Sl.put (Sl.row rl) m (under t c.l n m) = some (.row (rl.set m (under t c.l n m))) from by unfold Sl.put; rw [if_pos (by simpa [Sl.l] using hml)], Option.bind_some, ai]
    refine ⟨⟨m + 1, rfl, rfl, hwm, by omega, by show (rl.set m _).length = _; rw [List.length_set]; exact hrl, ⟨_, rfl⟩, fun q x hx => ?_⟩, hmu⟩
    change (rl.set m (under t c.l n m))[q]? = some x at hx
    rw [List.getElem?_set] at hx
    by_cases e : m = q
    ·subst e
     rw [if_pos rfl, if_pos hml] at hx
     cases hx
     rw [if_pos (show m < m + 1 from by omega), if_neg he]
    ·rw [if_neg e] at hx
     rw [hr q x hx]
     by_cases e2 : q < m
     ·rw [if_pos e2, if_pos (show q < m + 1 from by omega)]
     ·rw [if_neg e2, if_neg (show ¬ q < m + 1 from by omega)]
  ·intro h
   have hge : t.procs.l.length ≤ m := by simpa [len] using h
   refine (ai _).2 ?_
   show Wp ((iM out (Sl.row rl)).bind _) _
   unfold iM
   rw [if_pos (show out.l.length + 1 ≤ 2147483648 from by omega), Option.bind_some, ai]
   refine ⟨⟨n + 1, hw, by omega, by show (out.l ++ [Sl.row rl]).length = n + 1; rw [List.length_append, hlen]; rfl, fun p r hr' => ?_⟩, by show _ - (IntKind.wrap .i64 ((n : Int) + 1)).toNat < _; rw [hw]; simp; omega⟩
   change (out.l ++ [Sl.row rl])[p]? = some r at hr'
   by_cases hpn : p < out.l.length
   ·rw [List.getElem?_append_left hpn] at hr'
    exact hrows p r hr'
   ·rw [List.getElem?_append_right (by omega)] at hr'
    have hpn2 : p = n := by
     have := (List.getElem?_eq_some_iff.1 hr').1
     simp only [List.length_singleton] at this
     omega
    subst hpn2
    rw [hlen, Nat.sub_self] at hr'
    simp only [List.getElem?_cons_zero, Option.some.injEq] at hr'; subst hr'
    exact ⟨hrl, fun q x hx => by
     have hql := (List.getElem?_eq_some_iff.1 hx).1
     have := hr q x hx
     rw [if_pos (show q < m from by omega)] at this
     exact this⟩
 ·intro h
  have hge : t.procs.l.length ≤ n := by simpa [len] using h
  exact (ai _).2 ((ai _).2 ⟨rfl, show out.l.length = t.procs.l.length from by omega, hrows⟩)
end Go.VE
namespace Go.VE
theorem D4 {t : Trace} (hS : Small t) (hv : cB t = some true) {A : aZ 200 ay} (hM : kE t (dD t) A) {x : aa × Event} (hx : x ∈ dD t) (hk : x.2.kind = 2) : eK t x.2.message = some (x.1, true) := by
 refine Wp.eq ?_
 unfold eK eU
 rw [hv, Option.bind_some, kq]
 unfold cP
 rw [Option.bind_some]
 unfold eU.E1
 rw [o4 hS, Option.bind_some, eP]
 refine uO (fun k _ => ∀ y ∈ (dD t).take k, ¬ (y.2.kind = 2 ∧ y.2.message = x.2.message)) (by simp) ?_ ?_
 ·intro k y _ hy hI
  have hym : y ∈ dD t := List.mem_of_getElem? hy
  unfold eU.iy
  rw [lF, Option.bind_some, aM]
  constructor
  ·intro hc
   have hc : y.2.kind = 2 ∧ y.2.message = x.2.message := by simpa using hc
   refine (ai _).2 ((ai _).2 ((ai _).2 ?_))
   have h1 := hM.snd y hym hc.1
   have h2 := hM.snd x hx hk
   rw [hc.2, h2] at h1
   rw [h1]
  ·intro hc
   have hc : ¬ (y.2.kind = 2 ∧ y.2.message = x.2.message) := by
    intro h; rw [h.1, h.2] at hc; simp at hc
   rw [ai]
   intro z hz
   rw [List.take_add_one, hy] at hz
   rcases List.mem_append.1 hz with hz | hz
   ·exact hI z hz
   ·simp at hz; subst hz; exact hc
 ·intro _ hI
  rw [List.take_length] at hI
  exact absurd ⟨hk, rfl⟩ (hI x hx)
def EP (t : Trace) (c : List Int) : Prop := c.length = t.procs.l.length ∧ ∀ (p : Nat) (a : Int) (P : aS), c[p]? = some a → t.procs.l[p]? = some P → 0 ≤ a ∧ a ≤ P.events.l.length
def uK (t : Trace) (A : aZ 200 ay) (c : List Int) : Prop := ∀ (p k : Nat) (e : Event) (a : Int), qQ t p k e → c[p]? = some a → (k : Int) < a → e.kind = 3 → ∃ b, c[(ag A e.message).from_.proc.toNat]? = some b ∧ (ag A e.message).from_.index ≤ b
theorem qv {t : Trace} (hV : VT t) {A : aZ 200 ay} (hM : kE t (dD t) A) {p k : Nat} {e : Event} (he : qQ t p k e) (hk : e.kind = 3) :
 ∃ (q j : Nat) (y : Event), qQ t q j y ∧ y.kind = 2 ∧ y.message = e.message ∧ y.peer = p ∧ e.peer = q ∧ (ag A e.message).from_ = ⟨q, j + 1⟩ := by
 have hmem : ((⟨p, k + 1⟩ : aa), e) ∈ dD t := iC.2 ⟨p, k, he, rfl⟩
 have hs := (hM.rcv _ hmem hk).2
 have hf := hV.formed _ hmem
 simp only at hs hf
 have hpeer : 0 ≤ e.peer := by
  rcases hf with h | ⟨_, h, _⟩
  ·omega
  ·exact h
 obtain ⟨q, hq⟩ : ∃ q : Nat, e.peer = q := ⟨e.peer.toNat, by omega⟩
 rw [hq] at hs
 obtain ⟨j, y, hat, h1, h2, h3⟩ := Df.1 hs
 have := hM.snd (⟨q, j + 1⟩, y) (iC.2 ⟨q, j, hat, rfl⟩) h1
 simp only at this
 rw [h2] at this
 exact ⟨q, j, y, hat, h1, h2, h3, hq, this⟩
theorem Dz {t : Trace} (hS : Small t) (hv : cB t = some true) (hV : VT t) {A : aZ 200 ay} (hM : kE t (dD t) A) {c : Sl Int} (hR : EP t c.l) : Wp (dz t c) fun r => (r.2.2 = false ↔ uK t A c.l) := by
 have hn8 := hV.few
 unfold dz dz.W1
 refine eX (fun s : Int => ∃ n : Nat, s = n ∧ n ≤ c.l.length ∧ ∀ (p k : Nat) (e : Event) (a : Int), p < n → qQ t p k e → c.l[p]? = some a → (k : Int) < a → e.kind = 3 → ∃ b, c.l[(ag A e.message).from_.proc.toNat]? = some b ∧ (ag A e.message).from_.index ≤ b) (fun s : Int => c.l.length - s.toNat) ⟨0, rfl, Nat.zero_le _, fun p k e a h => absurd h (by omega)⟩ ?_
 rintro s ⟨n, rfl, hn, hI⟩
 have hcl := hR.1
 unfold dz.aB
 rw [aM]
 constructor
 ·intro h
  have hlt : n < c.l.length := by simpa [len] using h
  have hlt2 : n < t.procs.l.length := by omega
  have hP := (hS.2 _ (List.getElem_mem hlt2)).1
  obtain ⟨r1, r2⟩ := hR.2 n _ _ (List.getElem?_eq_getElem hlt) (List.getElem?_eq_getElem hlt2)
  rw [cH hlt, Option.bind_some, cH hlt2, Option.bind_some]
  obtain ⟨y, hy, hyl⟩ := qO t.procs.l[n].events c.l[n].toNat (by omega)
  rw [show ((c.l[n].toNat : Nat) : Int) = c.l[n] from by omega] at hy
  rw [hy, Option.bind_some]
  unfold dz.W2
  refine eX (fun s : Int => ∃ m : Nat, s = m ∧ m ≤ y.l.length ∧ ∀ (k : Nat) (e : Event), k < m → qQ t n k e → e.kind = 3 → ∃ b, c.l[(ag A e.message).from_.proc.toNat]? = some b ∧ (ag A e.message).from_.index ≤ b) (fun s : Int => y.l.length - s.toNat) ⟨0, rfl, Nat.zero_le _, fun k e h => absurd h (by omega)⟩ ?_
  rintro s ⟨m, rfl, hm, hJ⟩
  have hyl2 : y.l.length = c.l[n].toNat := by rw [hyl, List.length_take]; omega
  unfold dz.cC
  rw [aM]
  constructor
  ·intro h
   have hltm : m < y.l.length := by simpa [len] using h
   have hwm := fQ m (by omega)
   have hmu : y.l.length - (IntKind.wrap .i64 ((m : Int) + 1)).toNat < y.l.length - ((m : Int)).toNat := by rw [hwm]; simp; omega
   have hg : y.l[m]? = t.procs.l[n].events.l[m]? := by rw [hyl, List.getElem?_take, if_pos (show m < c.l[n].toNat from by omega)]
   have hat : qQ t n m y.l[m] := ⟨_, List.getElem?_eq_getElem hlt2, by rw [← hg]; exact List.getElem?_eq_getElem hltm⟩
   rw [cH hltm, Option.bind_some]
   generalize y.l[m] = e at hat
   rw [aM]
   constructor
   ·intro hk
    have hk : e.kind = 3 := by simpa using hk
    obtain ⟨q, j, z, hz, z1, z2, z3, z4, z5⟩ := qv hV hM hat hk
    have hsd := D4 hS hv hM (x := (⟨q, j + 1⟩, z)) (iC.2 ⟨q, j, hz, rfl⟩) z1
    simp only at hsd
    rw [z2] at hsd
    obtain ⟨Q, hQ, _⟩ := hz
    have hql : q < c.l.length := by have := (List.getElem?_eq_some_iff.1 hQ).1; omega
    rw [hsd, Option.bind_some]
    simp only
    rw [cH hql, Option.bind_some, aM]
    constructor
    ·intro hgt
     have hgt : (j : Int) + 1 > c.l[q] := by simpa using hgt
     refine (ai _).2 ((ai _).2 ((ai _).2 ⟨fun h => (by cases h), fun hC => ?_⟩))
     obtain ⟨b, hb1, hb2⟩ := hC n m e c.l[n] hat (List.getElem?_eq_getElem hlt) (by omega) hk
     rw [z5] at hb1 hb2
     simp only [Int.toNat_natCast] at hb1 hb2
     rw [List.getElem?_eq_getElem hql] at hb1
     cases hb1
     omega
    ·intro hle
     have hle : ¬ ((j : Int) + 1 > c.l[q]) := by simpa using hle
     refine (ai _).2 ⟨⟨m + 1, hwm, by omega, fun k e' hk' hat' he' => ?_⟩, hmu⟩
     by_cases ek : k = m
     ·subst ek
      have : e' = e := by
       obtain ⟨P1, a1, a2⟩ := hat; obtain ⟨P2, b1, b2⟩ := hat'
       rw [a1] at b1; cases b1; rw [a2] at b2; cases b2; rfl
      subst this
      rw [z5]
      exact ⟨c.l[q], by simp only [Int.toNat_natCast]; exact List.getElem?_eq_getElem hql, by simp only; omega⟩
     ·exact hJ k e' (by omega) hat' he'
   ·intro hk
    have hk : ¬ e.kind = 3 := by simpa using hk
    refine (ai _).2 ⟨⟨m + 1, hwm, by omega, fun k e' hk' hat' he' => ?_⟩, hmu⟩
    by_cases ek : k = m
    ·subst ek
     have : e' = e := by
      obtain ⟨P1, a1, a2⟩ := hat; obtain ⟨P2, b1, b2⟩ := hat'
      rw [a1] at b1; cases b1; rw [a2] at b2; cases b2; rfl
     subst this
     exact absurd he' hk
    ·exact hJ k e' (by omega) hat' he'
  ·intro h
   have hge : y.l.length ≤ m := by simpa [len] using h
   have hwn := fQ n (by omega)
   refine (ai _).2 ((ai _).2 ⟨⟨n + 1, hwn, by omega, fun p k e a hp hat ha hka he => ?_⟩, by show _ - (IntKind.wrap .i64 ((n : Int) + 1)).toNat < _; rw [hwn]; simp; omega⟩)
   by_cases ep : p = n
   ·subst ep
    rw [List.getElem?_eq_getElem hlt] at ha
    cases ha
    exact hJ k e (by omega) hat he
   ·exact hI p k e a (by omega) hat ha hka he
 ·intro h
  have hge : c.l.length ≤ n := by simpa [len] using h
  refine (ai _).2 ((ai _).2 ⟨fun _ p k e a hat ha hka he => hI p k e a (by have := (List.getElem?_eq_some_iff.1 ha).1; omega) hat ha hka he, fun _ => rfl⟩)
end Go.VE
namespace Go.VE
theorem tX {s : Sl (Sl Int)} {p : Sl Int → Option Bool} {f : Sl Int → Bool} (hp : ∀ x ∈ s.l, p x = some (f x)) (hl : s.l.length < 1073741824) : aV s p = some (s.l.any f) := by
 have h : bG s p = some (place f s.l) := mB hp (by omega) (fun i => rfl)
 unfold aV; rw [h, Option.bind_some, mD]
theorem BO {s : Sl Int} {p : Int → Option Bool} {f : Int → Bool} (hp : ∀ x ∈ s.l, p x = some (f x)) (hl : s.l.length < 1073741824) : br s p = some (s.l.any f) := by
 have h : bW s p = some (place f s.l) := mB hp (by omega) (fun i => rfl)
 unfold br; rw [h, Option.bind_some, mD]
theorem DH {t : Trace} (hS : Small t) {c : Sl Int} (hcl : c.l.length = t.procs.l.length) : Wp (dY t c) fun b => (b = true ↔ EP t c.l) := by
 have h1 := hS.1
 unfold dY dY.W1
 refine eX (fun s : Int => ∃ n : Nat, s = n ∧ n ≤ c.l.length ∧ ∀ (p : Nat) (a : Int) (P : aS), p < n → c.l[p]? = some a → t.procs.l[p]? = some P → 0 ≤ a ∧ a ≤ P.events.l.length) (fun s : Int => c.l.length - s.toNat) ⟨0, rfl, Nat.zero_le _, fun p a P h => absurd h (by omega)⟩ ?_
 rintro s ⟨n, rfl, hn, hI⟩
 unfold dY.aB
 rw [aM]
 constructor
 ·intro h
  have hlt : n < c.l.length := by simpa [len] using h
  have hlt2 : n < t.procs.l.length := by omega
  have hw := fQ n (by omega)
  rw [cH hlt, Option.bind_some, cH hlt2, Option.bind_some, xo, Option.bind_some, aM]
  constructor
  ·intro hb
   have hb : c.l[n] < 0 ∨ c.l[n] > t.procs.l[n].events.l.length := by simpa [len] using hb
   refine (ai _).2 ((ai _).2 ⟨fun h => (by cases h), fun hR => ?_⟩)
   have := hR.2 n _ _ (List.getElem?_eq_getElem hlt) (List.getElem?_eq_getElem hlt2)
   omega
  ·intro hb
   have hb : 0 ≤ c.l[n] ∧ c.l[n] ≤ t.procs.l[n].events.l.length := by simpa [len] using hb
   refine (ai _).2 ⟨⟨n + 1, hw, by omega, fun p a P hp ha hP => ?_⟩, by rw [hw]; simp; omega⟩
   by_cases e : p = n
   ·subst e
    rw [List.getElem?_eq_getElem hlt] at ha; cases ha
    rw [List.getElem?_eq_getElem hlt2] at hP; cases hP
    exact hb
   ·exact hI p a P (by omega) ha hP
 ·intro h
  have hge : c.l.length ≤ n := by simpa [len] using h
  refine (ai _).2 ((ai _).2 ⟨fun _ => ⟨hcl, fun p a P ha hP => hI p a P (by have := (List.getElem?_eq_some_iff.1 ha).1; omega) ha hP⟩, fun _ => rfl⟩)
theorem Af {t : Trace} (hS : Small t) (hv : cB t = some true) (hV : VT t) {A : aZ 200 ay} (hM : kE t (dD t) A) (c : Sl Int) :
 Wp (cN t (Sl.row [c] : Sl (Sl Int)) (Sl.nil : Sl Int)) fun r => (r = 0 ↔ EP t c.l ∧ uK t A c.l) := by
 unfold cN gE
 rw [hv, Option.bind_some, kq, tX (f := fun z => (dN z t).getD false) (fun z _ => lI.ok ((ai _).2 trivial)) (by simp [Sl.l]), Option.bind_some, Option.bind_some, Option.bind_some]
 have hany : (!((Sl.row [c] : Sl (Sl Int)).l.any fun z => (dN z t).getD false)) = (len c == len t.procs) := by
  simp [Sl.l, dN]
 rw [hany, aM]
 constructor
 ·intro h
  have hcl : c.l.length = t.procs.l.length := by
   have : (c.l.length : Int) = t.procs.l.length := by simpa [len] using h
   omega
  unfold cN.W1
  refine eX (fun s : Int => s = 0 ∨ s = 1 ∧ EP t c.l) (fun s : Int => 1 - s.toNat) (.inl rfl) ?_
  intro s hs
  unfold cN.aB
  rcases hs with rfl | ⟨rfl, hR⟩
  ·rw [show decide ((0 : Int) < len (Sl.row [c] : Sl (Sl Int))) = true from rfl, kq, show idx (Sl.row [c] : Sl (Sl Int)) 0 = some c from rfl, Option.bind_some, eP]
   refine (DH hS hcl).mono fun b hb => ?_
   rw [aM]
   exact ⟨fun hbt => (ai _).2 ⟨.inr ⟨rfl, hb.1 hbt⟩, by decide⟩, fun hbf => (ai _).2 ((ai _).2 ⟨fun h => (by cases h), fun h => (by rw [hb.2 h.1] at hbf; cases hbf)⟩)⟩
  ·rw [show decide ((1 : Int) < len (Sl.row [c] : Sl (Sl Int))) = false from rfl, pF, ai]
   show Wp (cN.W2 (Sl.row [c]) Sl.nil 0 0 t) _
   unfold cN.W2
   refine eX (fun s : Int => s = 0) (fun _ => 0) rfl ?_
   rintro s rfl
   unfold cN.cC
   rw [show decide ((0 : Int) < 0) = false from rfl, pF, ai]
   show Wp (cN.W3 (Sl.row [c]) 1 0 t) _
   unfold cN.W3
   refine eX (fun s : Int => s = 0 ∨ s = 1 ∧ uK t A c.l) (fun s : Int => 1 - s.toNat) (.inl rfl) ?_
   intro s hs
   unfold cN.iw
   rcases hs with rfl | ⟨rfl, hC⟩
   ·rw [show decide ((0 : Int) < 1) = true from rfl, kq, show idx (Sl.row [c] : Sl (Sl Int)) 0 = some c from rfl, Option.bind_some]
    unfold gi
    rw [eP, eP]
    refine (Dz hS hv hV hM hR).mono fun r hr => ?_
    rw [ai, aM]
    exact ⟨fun hb => (ai _).2 ⟨.inr ⟨rfl, hr.1 (by simpa using hb)⟩, by decide⟩, fun hb => (ai _).2 ((ai _).2 ⟨fun h => (by cases h), fun h => (by have := hr.2 h.2; simp [this] at hb)⟩)⟩
   ·rw [show decide ((1 : Int) < 1) = false from rfl, pF, ai]
    exact (ai _).2 ⟨fun _ => ⟨hR, hC⟩, fun _ => rfl⟩
 ·intro h
  refine (ai _).2 ⟨fun h => (by cases h), fun hR => ?_⟩
  have := hR.1.1
  simp [len, this] at h
end Go.VE
namespace Go.VE
def Cons (t : Trace) (A : aZ 200 ay) (c : List Int) : Prop := EP t c ∧ uK t A c
theorem BI {t : Trace} (hS : Small t) (hv : cB t = some true) (hV : VT t) {A : aZ 200 ay} (hM : kE t (dD t) A) (c : Sl Int) : Wp (dH t c) fun r => (r.2 = 0 ↔ Cons t A c.l) := by
 have h8 := hV.few
 unfold dH
 rw [eP]
 refine (Af hS hv hV hM c).mono fun r hr => ?_
 rw [aM]
 constructor
 ·intro h0
  have h0 : r = 0 := by simpa using h0
  have hC := hr.1 h0
  have hcl := hC.1.1
  unfold dH.W1
  refine eX (fun s : Sl aa × Int => ∃ n : Nat, s.2 = n ∧ n ≤ c.l.length ∧ s.1.l.length ≤ n) (fun s => c.l.length - s.2.toNat) ⟨0, rfl, Nat.zero_le _, Nat.le_refl _⟩ ?_
  rintro ⟨o, i⟩ ⟨n, hi, hn, ho⟩
  simp only at hi ho; subst hi
  unfold dH.aB
  rw [aM]
  constructor
  ·intro h
   have hlt : n < c.l.length := by simpa [len] using h
   have hw := fQ n (by omega)
   have hmu : c.l.length - (IntKind.wrap .i64 ((n : Int) + 1)).toNat < c.l.length - ((n : Int)).toNat := by rw [hw]; simp; omega
   rw [cH hlt, Option.bind_some, aM]
   constructor
   ·intro _
    unfold iM
    rw [if_pos (show o.l.length + 1 ≤ 2147483648 from by omega), Option.bind_some, ai]
    exact ⟨⟨n + 1, hw, by omega, by show (o.l ++ [_]).length ≤ n + 1; rw [List.length_append, List.length_singleton]; omega⟩, hmu⟩
   ·intro _
    exact (ai _).2 ⟨⟨n + 1, hw, by omega, show o.l.length ≤ n + 1 from by omega⟩, hmu⟩
  ·intro _
   exact (ai _).2 ((ai _).2 ⟨fun _ => hC, fun _ => rfl⟩)
 ·intro h0
  have h0 : r ≠ 0 := by simpa using h0
  exact (ai _).2 ⟨fun h => absurd h h0, fun h => hr.2 h⟩
theorem wO {t : Trace} (hS : Small t) (hv : cB t = some true) (hV : VT t) {A : aZ 200 ay} (hM : kE t (dD t) A) {c : Sl Int} (hC : Cons t A c.l) : Wp (bL t c) fun r => r.2 = 0 ∧ Table t c.l r.1.l := by
 have hcl := hC.1.1
 unfold bL
 rw [eP]
 refine (BI hS hv hV hM c).mono fun r hr => ?_
 rw [show (r.2 == 0) = true from by simpa using hr.2 hC, kq]
 exact ER hS hcl (fun a ha => by
  obtain ⟨p, hp⟩ := List.getElem?_of_mem ha
  have hpl := (List.getElem?_eq_some_iff.1 hp).1
  exact (hC.1.2 p a _ hp (List.getElem?_eq_getElem (show p < t.procs.l.length from by omega))).1) hV.few
theorem vM {t : Trace} (hS : Small t) (hv : cB t = some true) (hV : VT t) {A : aZ 200 ay} (hM : kE t (dD t) A) {c : Sl Int} (hC : Cons t A c.l) :
 Wp (dj t c) fun r => r.2 = 0 ∧ (r.1 = true ↔ ∀ p q : Nat, p < t.procs.l.length → q < t.procs.l.length → p ≠ q → under t c.l p q = 0) := by
 have h8 := hV.few
 unfold dj
 rw [eP]
 refine (wO hS hv hV hM hC).mono fun r ⟨h0, hT⟩ => ?_
 rw [show (r.2 == 0) = true from by simpa using h0, kq]
 unfold eG
 rw [tX (f := fun row => row.l.any fun n => !(n == 0)) (fun row hrow => by
  unfold cT
  obtain ⟨p, hp⟩ := List.getElem?_of_mem hrow
  rw [BO (p := fun z => b9 z) (f := fun n => !(n == 0)) (fun n _ => rfl) (by rw [(hT.2 p row hp).1]; omega), Option.bind_some]) (by rw [hT.1]; omega)]
 simp only [Option.bind_some]
 refine (ai _).2 ⟨h0, ?_⟩
 simp only [Bool.not_eq_true', List.any_eq_false, Bool.not_eq_true, Bool.not_eq_false', beq_iff_eq]
 constructor
 ·intro h p q hp hq hne
  have hpr : p < r.1.l.length := by rw [hT.1]; exact hp
  have hrow := hT.2 p _ (List.getElem?_eq_getElem hpr)
  have hqr : q < r.1.l[p].l.length := by rw [hrow.1]; exact hq
  have hx := hrow.2 q _ (List.getElem?_eq_getElem hqr)
  rw [if_neg hne] at hx
  rw [← hx]
  have := h _ (List.getElem_mem hpr) _ (List.getElem_mem hqr)
  simpa using this
 ·intro h row hrow n hn
  obtain ⟨p, hp⟩ := List.getElem?_of_mem hrow
  obtain ⟨q, hq⟩ := List.getElem?_of_mem hn
  have h1 := hT.2 p row hp
  have h2 := h1.2 q n hq
  rw [h2]
  split
  ·simp
  ·rename_i hne
   have hpl := (List.getElem?_eq_some_iff.1 hp).1
   have hql := (List.getElem?_eq_some_iff.1 hq).1
   rw [hT.1] at hpl
   rw [h1.1] at hql
   rw [h p q hpl hql hne]; simp
end Go.VE
namespace Go.VE
def places {α : Type} (f : α → Bool) (l : List α) : List Nat := (List.range l.length).filter fun k => match l[k]? with | some x => f x | none => false
theorem o9 {α : Type} {f : α → Bool} {l : List α} {k : Nat} : k ∈ places f l ↔ ∃ x, l[k]? = some x ∧ f x = true := by
 unfold places
 rw [List.mem_filter, List.mem_range]
 constructor
 ·rintro ⟨h1, h2⟩
  rw [List.getElem?_eq_getElem h1] at h2
  exact ⟨_, List.getElem?_eq_getElem h1, h2⟩
 ·rintro ⟨x, h1, h2⟩
  exact ⟨(List.getElem?_eq_some_iff.1 h1).1, by rw [h1]; exact h2⟩
theorem Ax {α : Type} (f : α → Bool) (l : List α) : (places f l).Nodup := List.nodup_range.sublist (List.filter_sublist ..)
theorem xT {α : Type} (f : α → Bool) : ∀ l : List α, (places f l).length = l.countP f := by
 intro l
 unfold places
 rw [← List.countP_eq_length_filter]
 induction l with
 | nil => rfl
 | cons x l ih =>
  rw [List.length_cons, List.range_succ_eq_map, List.countP_cons, List.countP_map, List.countP_cons]
  simp only [List.getElem?_cons_zero]
  rw [← ih]
  congr 1
theorem EA {α β : Type} {f : α → Bool} {g : β → Bool} {l : List α} {m : List β} (φ : Nat → Nat) (h : ∀ k ∈ places f l, φ k ∈ places g m) (hi : ∀ k k', k ∈ places f l → k' ∈ places f l → φ k = φ k' → k = k') : l.countP f ≤ m.countP g := by
 rw [← xT, ← xT]
 have hn : ((places f l).map φ).Nodup := by
  unfold List.Nodup
  rw [List.pairwise_map]
  exact List.Pairwise.imp_of_mem (fun {a b} ha hb hne he => hne (hi a b ha hb he)) (Ax f l)
 have := vW (r := places g m) hn fun x hx => by
  obtain ⟨k, hk, rfl⟩ := List.mem_map.1 hx
  exact h k hk
 simpa using this
theorem qb {t : Trace} (hV : VT t) {A : aZ 200 ay} (hM : kE t (dD t) A) {c : List Int} (hC : Cons t A c) (p q : Nat) : 0 ≤ under t c p q := by
 unfold under
 split
 ·rename_i P Q a b hP hQ ha hb
  have hb0 := hC.1.2 q b Q hb hQ
  have ha0 := hC.1.2 p a P ha hP
  have key : (Q.events.l.take b.toNat).countP (d5 p) ≤ (P.events.l.take a.toNat).countP (eZ q) := by
   refine EA (fun k => match Q.events.l[k]? with | some e => ((ag A e.message).from_.index - 1).toNat | none => 0) (fun k hk => ?_) (fun k k' hk hk' he => ?_)
   ·obtain ⟨e, h1, h2⟩ := o9.1 hk
    have hkb : k < b.toNat := by
     have := (List.getElem?_eq_some_iff.1 h1).1
     rw [List.length_take] at this; omega
    rw [List.getElem?_take, if_pos hkb] at h1
    have h2 : e.kind = 3 ∧ e.peer = p := by simpa [d5] using h2
    have hat : qQ t q k e := ⟨Q, hQ, h1⟩
    obtain ⟨q', j, y, hy, y1, y2, y3, y4, y5⟩ := qv hV hM hat h2.1
    have hqp : q' = p := by omega
    subst hqp
    rw [h1]
    simp only [y5]
    obtain ⟨P', hP', hj⟩ := hy
    rw [hP] at hP'; cases hP'
    obtain ⟨x, hx1, hx2⟩ := hC.2 q k e b hat hb (by omega) h2.1
    rw [y5] at hx1 hx2
    simp only [Int.toNat_natCast] at hx1 hx2
    rw [ha] at hx1; cases hx1
    rw [show ((j : Int) + 1 - 1).toNat = j from by omega]
    refine o9.2 ⟨y, ?_, by simp [eZ, y1, y3]⟩
    rw [List.getElem?_take, if_pos (by omega)]; exact hj
   ·obtain ⟨e, h1, h2⟩ := o9.1 hk
    obtain ⟨e', h1', h2'⟩ := o9.1 hk'
    have hkb : k < b.toNat := by
     have := (List.getElem?_eq_some_iff.1 h1).1
     rw [List.length_take] at this; omega
    have hkb' : k' < b.toNat := by
     have := (List.getElem?_eq_some_iff.1 h1').1
     rw [List.length_take] at this; omega
    rw [List.getElem?_take, if_pos hkb] at h1
    rw [List.getElem?_take, if_pos hkb'] at h1'
    have h2 : e.kind = 3 ∧ e.peer = p := by simpa [d5] using h2
    have h2' : e'.kind = 3 ∧ e'.peer = p := by simpa [d5] using h2'
    obtain ⟨q1, j, y, hy, y1, y2, y3, y4, y5⟩ := qv hV hM (show qQ t q k e from ⟨Q, hQ, h1⟩) h2.1
    obtain ⟨q2, j', y', hy', y1', y2', y3', y4', y5'⟩ := qv hV hM (show qQ t q k' e' from ⟨Q, hQ, h1'⟩) h2'.1
    have e1 : q1 = p := by omega
    have e2 : q2 = p := by omega
    subst e1 e2
    simp only [h1, h1', y5, y5'] at he
    have hjj : j = j' := by omega
    subst hjj
    obtain ⟨P1, a1, a2⟩ := hy; obtain ⟨P2, b1, b2⟩ := hy'
    rw [a1] at b1; cases b1
    rw [a2] at b2; cases b2
    have r1 := (hM.rcv (⟨q, k + 1⟩, e) (iC.2 ⟨q, k, ⟨Q, hQ, h1⟩, rfl⟩) h2.1).1
    have r2 := (hM.rcv (⟨q, k' + 1⟩, e') (iC.2 ⟨q, k', ⟨Q, hQ, h1'⟩, rfl⟩) h2'.1).1
    simp only at r1 r2
    rw [← y2, y2', r2] at r1
    simp only [aa.mk.injEq] at r1
    omega
  omega
 ·exact Int.le_refl _
end Go.VE
namespace Go.VE
def cA (n : Nat) (f : Nat → Int) : Int := ((List.range n).map f).sum
theorem pB (f : Nat → Int) : cA 0 f = 0 := rfl
theorem dy (n : Nat) (f : Nat → Int) : cA (n + 1) f = cA n f + f n := by
 unfold cA
 rw [List.range_succ, List.map_append, List.sum_append]; simp
theorem e8 {n : Nat} {f g : Nat → Int} (h : ∀ k, k < n → f k = g k) : cA n f = cA n g := by
 induction n with
 | zero => rfl
 | succ n ih => rw [dy, dy, ih fun k hk => h k (by omega), h n (by omega)]
theorem tK (n : Nat) (f g : Nat → Int) : cA n (fun k => f k + g k) = cA n f + cA n g := by
 induction n with
 | zero => rfl
 | succ n ih => rw [dy, dy, dy, ih]; omega
theorem tn (n : Nat) (f g : Nat → Int) : cA n (fun k => f k - g k) = cA n f - cA n g := by
 induction n with
 | zero => rfl
 | succ n ih => rw [dy, dy, dy, ih]; omega
theorem nk (n : Nat) : cA n (fun _ => 0) = 0 := by
 induction n with
 | zero => rfl
 | succ n ih => rw [dy, ih]; rfl
theorem CU (n m : Nat) (f : Nat → Nat → Int) : cA n (fun i => cA m (f i)) = cA m (fun j => cA n fun i => f i j) := by
 induction n with
 | zero => rw [pB]; exact (nk m).symm
 | succ n ih =>
  rw [dy, ih, ← tK]
  exact e8 fun j _ => (dy n _).symm
theorem zK {n k : Nat} (h : k < n) (x : Int) : cA n (fun i => if i = k then x else 0) = x := by
 induction n with
 | zero => omega
 | succ n ih =>
  rw [dy]
  by_cases e : k = n
  ·subst e
   rw [if_pos rfl, e8 (g := fun _ => 0) fun i hi => if_neg (by omega), nk]; omega
  ·rw [ih (by omega), if_neg (by omega)]; omega
theorem mR {n : Nat} {f : Nat → Int} (h : ∀ k, k < n → 0 ≤ f k) : 0 ≤ cA n f := by
 induction n with
 | zero => exact Int.le_refl _
 | succ n ih =>
  have := ih fun k hk => h k (by omega)
  have := h n (by omega)
  rw [dy]; omega
theorem tF {n : Nat} {f : Nat → Int} (h : ∀ k, k < n → 0 ≤ f k) : cA n f = 0 ↔ ∀ k, k < n → f k = 0 := by
 induction n with
 | zero => exact ⟨fun _ k hk => absurd hk (by omega), fun _ => rfl⟩
 | succ n ih =>
  have h1 := mR (n := n) (f := f) fun k hk => h k (by omega)
  have h2 := h n (by omega)
  have ih := ih fun k hk => h k (by omega)
  rw [dy]
  constructor
  ·intro hs k hk
   by_cases e : k = n
   ·subst e; omega
   ·exact ih.1 (by omega) k (by omega)
  ·intro hs
   rw [ih.2 fun k hk => hs k (by omega), hs n (by omega)]; rfl
theorem Al {n p : Nat} : ∀ {l : List Event}, (∀ e ∈ l, j7 n p e) → ((l.countP fun e => e.kind == 2 : Nat) : Int) = cA n fun q => if p = q then 0 else (l.countP (eZ q) : Nat)
 | [], _ => by
  rw [e8 (g := fun _ => 0) fun q _ => by simp, nk]; rfl
 | e :: l, h => by
  have ih := Al (n := n) (p := p) (l := l) fun x hx => h x (List.mem_cons_of_mem _ hx)
  rw [List.countP_cons]
  by_cases hk : e.kind = 2
  ·rcases h e (List.mem_cons_self ..) with h1 | ⟨_, h2, h3, h4, _⟩
   ·omega
   ·obtain ⟨r, hr⟩ : ∃ r : Nat, e.peer = r := ⟨e.peer.toNat, by omega⟩
    have hrn : r < n := by omega
    have hrp : p ≠ r := by rintro rfl; exact h4 hr
    rw [e8 (g := fun q => (if p = q then 0 else ((l.countP (eZ q) : Nat) : Int)) + if q = r then 1 else 0) fun q _ => by
     by_cases e1 : p = q
     ·rw [if_pos e1, if_pos e1, if_neg (by omega)]; rfl
     ·rw [if_neg e1, if_neg e1, List.countP_cons]
      by_cases e2 : q = r
      ·subst e2; simp [eZ, hk, hr]
      ·have : eZ q e = false := by simp [eZ, hk, hr]; omega
       rw [this, if_neg e2]; simp, tK, ← ih, zK hrn]
    simp [hk]
  ·rw [e8 (g := fun q => (if p = q then 0 else ((l.countP (eZ q) : Nat) : Int))) fun q _ => by
    by_cases e1 : p = q
    ·rw [if_pos e1, if_pos e1]
    ·have : eZ q e = false := by simp [eZ, hk]
     rw [if_neg e1, if_neg e1, List.countP_cons, this]; simp, ← ih]
   simp [hk]
theorem B2 {n p : Nat} : ∀ {l : List Event}, (∀ e ∈ l, j7 n p e) → ((l.countP fun e => e.kind == 3 : Nat) : Int) = cA n fun q => if p = q then 0 else (l.countP (d5 q) : Nat)
 | [], _ => by
  rw [e8 (g := fun _ => 0) fun q _ => by simp, nk]; rfl
 | e :: l, h => by
  have ih := B2 (n := n) (p := p) (l := l) fun x hx => h x (List.mem_cons_of_mem _ hx)
  rw [List.countP_cons]
  by_cases hk : e.kind = 3
  ·rcases h e (List.mem_cons_self ..) with h1 | ⟨_, h2, h3, h4, _⟩
   ·omega
   ·obtain ⟨r, hr⟩ : ∃ r : Nat, e.peer = r := ⟨e.peer.toNat, by omega⟩
    have hrn : r < n := by omega
    have hrp : p ≠ r := by rintro rfl; exact h4 hr
    rw [e8 (g := fun q => (if p = q then 0 else ((l.countP (d5 q) : Nat) : Int)) + if q = r then 1 else 0) fun q _ => by
     by_cases e1 : p = q
     ·rw [if_pos e1, if_pos e1, if_neg (by omega)]; rfl
     ·rw [if_neg e1, if_neg e1, List.countP_cons]
      by_cases e2 : q = r
      ·subst e2; simp [d5, hk, hr]
      ·have : d5 q e = false := by simp [d5, hk, hr]; omega
       rw [this, if_neg e2]; simp, tK, ← ih, zK hrn]
    simp [hk]
  ·rw [e8 (g := fun q => (if p = q then 0 else ((l.countP (d5 q) : Nat) : Int))) fun q _ => by
    by_cases e1 : p = q
    ·rw [if_pos e1, if_pos e1]
    ·have : d5 q e = false := by simp [d5, hk]
     rw [if_neg e1, if_neg e1, List.countP_cons, this]; simp, ← ih]
   simp [hk]
end Go.VE
namespace Go.VE
def fD (t : Trace) (c : List Int) (p : Nat) : List Event := match t.procs.l[p]?, c[p]? with
 | some P, some a => P.events.l.take a.toNat
 | _, _ => []
theorem Gv {t : Trace} {c : List Int} (hcl : c.length = t.procs.l.length) {p q : Nat} (hp : p < t.procs.l.length) (hq : q < t.procs.l.length) : under t c p q = ((fD t c p).countP (eZ q) : Int) - ((fD t c q).countP (d5 p) : Int) := by
 unfold under fD
 rw [List.getElem?_eq_getElem hp, List.getElem?_eq_getElem hq, List.getElem?_eq_getElem (show p < c.length from by omega), List.getElem?_eq_getElem (show q < c.length from by omega)]
theorem tc {t : Trace} (hV : VT t) (c : List Int) (p : Nat) : ∀ e ∈ fD t c p, j7 t.procs.l.length p e := by
 intro e he
 unfold fD at he
 split at he
 ·rename_i P a hP ha
  obtain ⟨k, hk⟩ := List.getElem?_of_mem he
  have hkl := (List.getElem?_eq_some_iff.1 hk).1
  rw [List.length_take] at hkl
  rw [List.getElem?_take, if_pos (by omega)] at hk
  exact hV.formed (⟨p, k + 1⟩, e) (iC.2 ⟨p, k, ⟨P, hP, hk⟩, rfl⟩)
 ·simp at he
theorem EH {t : Trace} (hV : VT t) {c : List Int} (hcl : c.length = t.procs.l.length) :
 cA t.procs.l.length (fun p => cA t.procs.l.length fun q => if p = q then 0 else under t c p q) =
 cA t.procs.l.length (fun p => ((fD t c p).countP fun e => e.kind == 2 : Nat)) - cA t.procs.l.length (fun p => ((fD t c p).countP fun e => e.kind == 3 : Nat)) := by
 have h1 : cA t.procs.l.length (fun p => cA t.procs.l.length fun q => if p = q then 0 else under t c p q) =
  cA t.procs.l.length (fun p => (cA t.procs.l.length fun q => if p = q then 0 else (((fD t c p).countP (eZ q) : Nat) : Int)) - cA t.procs.l.length fun q => if p = q then 0 else (((fD t c q).countP (d5 p) : Nat) : Int)) := by
  refine e8 fun p hp => ?_
  rw [← tn]
  refine e8 fun q hq => ?_
  by_cases e : p = q
  ·simp [e]
  ·simp only [if_neg e]; exact Gv hcl hp hq
 rw [h1, tn]
 congr 1
 ·exact e8 fun p _ => (Al (tc hV c p)).symm
 ·rw [CU]
  refine e8 fun q _ => ?_
  rw [B2 (tc hV c q)]
  refine e8 fun p _ => ?_
  by_cases e : p = q
  ·rw [if_pos e, if_pos e.symm]
  ·rw [if_neg e, if_neg (fun h => e h.symm)]
end Go.VE
namespace Go.VE
theorem Dq {t : Trace} (hS : Small t) (h8 : t.procs.l.length ≤ 8) : Wp (cD t) fun s => s.l = t.procs.l.map fun P => (P.events.l.length : Int) := by
 unfold cD cD.W1
 refine eX (fun s : Sl Int × Int => ∃ n : Nat, s.2 = n ∧ n ≤ t.procs.l.length ∧ s.1.l = (t.procs.l.take n).map fun P => (P.events.l.length : Int)) (fun s => t.procs.l.length - s.2.toNat) ⟨0, rfl, Nat.zero_le _, rfl⟩ ?_
 rintro ⟨o, i⟩ ⟨n, hi, hn, ho⟩
 simp only at hi ho; subst hi
 unfold cD.aB
 rw [aM]
 constructor
 ·intro h
  have hlt : n < t.procs.l.length := by simpa [len] using h
  have hw := fQ n (by omega)
  rw [cH hlt, Option.bind_some]
  unfold iM
  have hol : o.l.length = n := by rw [ho, List.length_map, List.length_take]; omega
  rw [if_pos (show o.l.length + 1 ≤ 2147483648 from by omega), Option.bind_some, ai]
  refine ⟨⟨n + 1, hw, by omega, ?_⟩, by show _ - (IntKind.wrap .i64 ((n : Int) + 1)).toNat < _; rw [hw]; simp; omega⟩
  show o.l ++ [len t.procs.l[n].events] = _
  rw [List.take_add_one, List.getElem?_eq_getElem hlt, List.map_append, ho]; rfl
 ·intro h
  have hge : t.procs.l.length ≤ n := by simpa [len] using h
  rw [List.take_of_length_le hge] at ho
  exact (ai _).2 ((ai _).2 ho)
theorem Bs {t : Trace} (hV : VT t) {A : aZ 200 ay} (hM : kE t (dD t) A) : Cons t A (t.procs.l.map fun P => (P.events.l.length : Int)) := by
 refine ⟨⟨by simp, fun p a P ha hP => ?_⟩, fun p k e a hat ha hk he => ?_⟩
 ·rw [List.getElem?_map, hP] at ha
  cases ha
  constructor <;> simp
 ·obtain ⟨q, j, y, hy, _, _, _, _, h5⟩ := qv hV hM hat he
  obtain ⟨Q, hQ, hj⟩ := hy
  have hjl := (List.getElem?_eq_some_iff.1 hj).1
  rw [h5]
  refine ⟨(Q.events.l.length : Int), ?_, by simp only; omega⟩
  simp only [Int.toNat_natCast, List.getElem?_map, hQ, Option.map_some]
theorem Dv {t : Trace} (A : aZ 200 ay) : Cons t A (List.replicate t.procs.l.length (0 : Int)) := by
 refine ⟨⟨by simp, fun p a P ha hP => ?_⟩, fun p k e a hat ha hk he => ?_⟩
 ·rw [List.getElem?_replicate] at ha
  split at ha
  ·cases ha; constructor <;> omega
  ·cases ha
 ·rw [List.getElem?_replicate] at ha
  split at ha
  ·cases ha; omega
  ·cases ha
theorem BC (t : Trace) (p q : Nat) : under t (List.replicate t.procs.l.length (0 : Int)) p q = 0 := by
 unfold under
 split
 ·rename_i P Q a b hP hQ ha hb
  rw [List.getElem?_replicate] at ha hb
  split at ha
  ·split at hb
   ·cases ha; cases hb; simp
   ·cases hb
  ·cases ha
 ·rfl
theorem yI (t : Trace) (p : Nat) : fD t (t.procs.l.map fun P => (P.events.l.length : Int)) p = match t.procs.l[p]? with | some P => P.events.l | none => [] := by
 unfold fD
 rw [List.getElem?_map]
 cases h : t.procs.l[p]? with
 | none => rfl
 | some P => simp
end Go.VE
namespace Go.VE
theorem Bq {t : Trace} (hS : Small t) : lI (d3 t) := by
 unfold d3
 rw [lI, aM]
 refine ⟨fun _ => (ai _).2 trivial, fun _ => ?_⟩
 unfold d3.W1
 refine eX (fun q : Int × Int => ∃ n : Nat, q.2 = n ∧ n ≤ t.procs.l.length) (fun q : Int × Int => t.procs.l.length - q.2.toNat) ⟨0, rfl, Nat.zero_le _⟩ ?_
 rintro ⟨c, i⟩ ⟨n, hi, hn⟩
 simp only at hi; subst hi
 have h1 := hS.1
 unfold d3.aB
 rw [aM]
 refine ⟨fun h => ?_, fun _ => (ai _).2 ((ai _).2 trivial)⟩
 have hlt : n < t.procs.l.length := by simpa [len] using h
 rw [cH hlt, Option.bind_some, ta (f := fun z => (dL z).getD false) (fun z _ => lI.ok ((ai _).2 trivial)) (hS.2 _ (List.getElem_mem hlt)).1, Option.bind_some, kI, Option.bind_some, aM]
 refine ⟨fun _ => (ai _).2 ((ai _).2 trivial), fun _ => (ai _).2 ⟨⟨n + 1, fQ n (by omega), by omega⟩, ?_⟩⟩
 show _ - (IntKind.wrap .i64 ((n : Int) + 1)).toNat < _
 rw [fQ n (by omega)]; simp; omega
theorem Br {n : Nat} {f : Nat → Int} {B : Int} (h : ∀ k, k < n → f k ≤ B) : cA n f ≤ n * B := by
 induction n with
 | zero => simp [pB]
 | succ n ih =>
  have := ih fun k hk => h k (by omega)
  have := h n (by omega)
  rw [dy]
  have e : ((n + 1 : Nat) : Int) * B = n * B + B := by rw [Int.natCast_add, Int.add_mul]; simp
  omega
def kj (e : Event) : Bool := e.kind == 2
def jM (e : Event) : Bool := e.kind == 3
def ni (t : Trace) (c : List Int) (p : Nat) : Int := cA t.procs.l.length fun q => if p = q then 0 else under t c p q
def tG (t : Trace) (p : Nat) : List Event := match t.procs.l[p]? with | some P => P.events.l | none => []
theorem Bh {t : Trace} (hS : Small t) {c : List Int} (p q : Nat) : under t c p q ≤ 1073741824 := by
 unfold under
 split
 ·rename_i P Q a b hP hQ ha hb
  have h1 := (hS.2 P (List.mem_of_getElem? hP)).1
  have h2 := List.countP_le_length (p := eZ q) (l := P.events.l.take a.toNat)
  rw [List.length_take] at h2
  omega
 ·omega
theorem Cs {t : Trace} (hS : Small t) (hV : VT t) {A : aZ 200 ay} (hM : kE t (dD t) A) {c : List Int} (hC : Cons t A c) (p : Nat) : 0 ≤ ni t c p ∧ ni t c p ≤ 8589934592 := by
 have h8 := hV.few
 have h1 : 0 ≤ ni t c p := mR fun q _ => by
  split
  ·omega
  ·exact qb hV hM hC p q
 have h2 : ni t c p ≤ t.procs.l.length * 1073741824 := Br fun q _ => by
  split
  ·omega
  ·exact Bh hS p q
 omega
theorem KE {t : Trace} (hS : Small t) (hV : VT t) {A : aZ 200 ay} (hM : kE t (dD t) A) {c : Sl Int} (hC : Cons t A c.l) {p : Nat} (hp : p < t.procs.l.length) {row : Sl Int} (hr : row.l.length = t.procs.l.length ∧ ∀ (q : Nat) (x : Int), row.l[q]? = some x → x = if p = q then 0 else under t c.l p q)
 {U s r o : Int} (hU : 0 ≤ U ∧ U ≤ 1099511627776) (v59 : Sl (Sl Int)) (v60 : Int) :
 aK.W2 c U s r o p v59 v60 p row (len row) 0 t = aK.W3 c (U + ni t c.l p) s r o p v59 v60 p t.procs.l[p].events (len t.procs.l[p].events) 0 t := by
 have h8 := hV.few
 have key : Wp (cW (fun q : Int × Int => aK.cC c s r o p v59 v60 p row (len row) t q.1 q.2) (U, 0)) fun w => w = (.x (U + ni t c.l p) : Fw Empty Int Empty) := by
  refine (Bx (fun z : Int × Int => ∃ m : Nat, z.2 = m ∧ m ≤ row.l.length ∧ z.1 = U + cA m fun q => if p = q then 0 else under t c.l p q) (fun z => row.l.length - z.2.toNat) (fun e => e = U + ni t c.l p) (fun _ => False) ?_ (s := (U, 0)) ⟨0, rfl, Nat.zero_le _, by rw [pB]; simp⟩).mono ?_
  ·rintro ⟨u, i⟩ ⟨m, hi, hm, hu⟩
   simp only at hi hu; subst hi
   unfold aK.cC
   rw [aM]
   constructor
   ·intro h
    have hlt : m < row.l.length := by simpa [len] using h
    have hw := fQ m (by omega)
    have hx := hr.2 m _ (List.getElem?_eq_getElem hlt)
    have hn : ∀ k, k < m + 1 → 0 ≤ (if p = k then 0 else under t c.l p k) := fun k _ => by
     split
     ·omega
     ·exact qb hV hM hC p k
    have hb0 := mR hn
    have hb1 : cA (m + 1) (fun q => if p = q then 0 else under t c.l p q) ≤ ((m + 1 : Nat) : Int) * 1073741824 := Br fun k _ => by
     split
     ·omega
     ·exact Bh hS p k
    have hs := dy m (fun q => if p = q then 0 else under t c.l p q)
    rw [cH hlt, Option.bind_some, ai]
    refine ⟨⟨m + 1, hw, by omega, ?_⟩, by show _ - (IntKind.wrap .i64 ((m : Int) + 1)).toNat < _; rw [hw]; simp; omega⟩
    show IntKind.wrap .i64 (u + row.l[m]) = _
    have e : u + row.l[m] = U + cA (m + 1) (fun q => if p = q then 0 else under t c.l p q) := by rw [hu, hs, hx]; omega
    rw [e, jF _ (by omega) (by omega)]
   ·intro h
    have hge : row.l.length ≤ m := by simpa [len] using h
    rw [ai]
    show u = _
    rw [hu, show m = t.procs.l.length from by omega]; rfl
  ·intro w hw
   cases w with
   | n a => exact Empty.elim a
   | x e => rw [show e = _ from hw]
   | r b => exact Empty.elim b
 unfold aK.W2
 rw [key.eq, Option.bind_some]
 show (idx t.procs p).bind _ = _
 rw [cH hp, Option.bind_some]
theorem yd {α : Type} {l : List α} {m k : Nat} (h : m < l.length) : ((l.take (m + 1)).take k) = if m < k then (l.take m).take k ++ [l[m]] else (l.take m).take k := by
 rw [List.take_take, List.take_take]
 split
 ·rename_i hk
  rw [Nat.min_eq_right (show m + 1 ≤ k from by omega), Nat.min_eq_right (show m ≤ k from by omega), List.take_add_one, List.getElem?_eq_getElem h]; rfl
 ·rename_i hk
  rw [Nat.min_eq_left (show k ≤ m + 1 from by omega), Nat.min_eq_left (show k ≤ m from by omega)]
theorem Jv {t : Trace} (hS : Small t) {c : Sl Int} (hcl : c.l.length = t.procs.l.length) (hc0 : ∀ a ∈ c.l, 0 ≤ a) {p : Nat} (hp : p < t.procs.l.length) {U s r o : Int} (hs : 0 ≤ s ∧ s ≤ 1099511627776) (hr : 0 ≤ r ∧ r ≤ 1099511627776) (ho : -1099511627776 ≤ o ∧ o ≤ 1099511627776) (v59 : Sl (Sl Int)) (v60 : Int) :
 aK.W3 c U s r o p v59 v60 p t.procs.l[p].events (len t.procs.l[p].events) 0 t =
  some (.n (U, s + (fD t c.l p).countP kj, r + (fD t c.l p).countP jM, o + ((tG t p).countP kj - (tG t p).countP jM), IntKind.wrap .i64 ((p : Int) + 1))) := by
 have hP := (hS.2 _ (List.getElem_mem hp)).1
 have hpc : p < c.l.length := by omega
 have ha0 := hc0 _ (List.getElem_mem hpc)
 have hev : tG t p = t.procs.l[p].events.l := by unfold tG; rw [List.getElem?_eq_getElem hp]
 have hbf : fD t c.l p = t.procs.l[p].events.l.take c.l[p].toNat := by unfold fD; rw [List.getElem?_eq_getElem hp, List.getElem?_eq_getElem hpc]
 rw [hev, hbf]
 generalize hPe : t.procs.l[p] = P at *
 generalize hk : c.l[p].toNat = k at *
 unfold aK.W3
 refine Wp.eq (eX (fun z : Int × Int × Int × Int => ∃ m : Nat, z.2.2.2 = m ∧ m ≤ P.events.l.length ∧ z.1 = s + ((P.events.l.take m).take k).countP kj ∧ z.2.1 = r + ((P.events.l.take m).take k).countP jM ∧ z.2.2.1 = o + ((P.events.l.take m).countP kj - (P.events.l.take m).countP jM)) (fun z => P.events.l.length - z.2.2.2.toNat)
  ⟨0, rfl, Nat.zero_le _, by simp, by simp, by simp⟩ ?_)
 rintro ⟨s1, r1, o1, i⟩ ⟨m, hi, hm, h1, h2, h3⟩
 simp only at hi h1 h2 h3; subst hi
 unfold aK.iw
 rw [aM]
 constructor
 ·intro h
  have hlt : m < P.events.l.length := by simpa [len] using h
  have hw := fQ m (by omega)
  have hmu : P.events.l.length - (IntKind.wrap .i64 ((m : Int) + 1)).toNat < P.events.l.length - ((m : Int)).toNat := by rw [hw]; simp; omega
  have t1 : P.events.l.take (m + 1) = P.events.l.take m ++ [P.events.l[m]] := by rw [List.take_add_one, List.getElem?_eq_getElem hlt]; rfl
  have t2 := yd (k := k) hlt
  have b1 := List.countP_le_length (p := kj) (l := (P.events.l.take m).take k)
  have b2 := List.countP_le_length (p := jM) (l := (P.events.l.take m).take k)
  have b3 := List.countP_le_length (p := kj) (l := P.events.l.take m)
  have b4 := List.countP_le_length (p := jM) (l := P.events.l.take m)
  simp only [List.length_take] at b1 b2 b3 b4
  generalize P.events.l[m] = e at t1 t2
  have hcmp : decide ((m : Int) < c.l[p]) = decide (m < k) := by rw [← hk]; congr 1; apply propext; omega
  rw [cH hlt, Option.bind_some]
  generalize hge : P.events.l[m] = e'
  have hee : e' = e := by
   have : (P.events.l.take (m + 1))[m]? = some e := by rw [t1, List.getElem?_append_right (by rw [List.length_take]; omega)]; simp [List.length_take, Nat.min_eq_left (by omega : m ≤ P.events.l.length)]
   rw [List.getElem?_take, if_pos (by omega), List.getElem?_eq_getElem hlt, hge] at this
   exact Option.some.inj this
  subst hee
  have fin : ∀ (x y z : Int), x = s + (((P.events.l.take (m + 1)).take k).countP kj : Nat) → y = r + (((P.events.l.take (m + 1)).take k).countP jM : Nat) → z = o + (((P.events.l.take (m + 1)).countP kj : Nat) - ((P.events.l.take (m + 1)).countP jM : Nat)) →
   (∃ n : Nat, IntKind.wrap .i64 ((m : Int) + 1) = n ∧ n ≤ P.events.l.length ∧ x = s + ((P.events.l.take n).take k).countP kj ∧ y = r + ((P.events.l.take n).take k).countP jM ∧ z = o + ((P.events.l.take n).countP kj - (P.events.l.take n).countP jM)) ∧ P.events.l.length - (IntKind.wrap .i64 ((m : Int) + 1)).toNat < P.events.l.length - ((m : Int)).toNat := fun x y z hx hy hz =>
   ⟨⟨m + 1, hw, by omega, hx, hy, hz⟩, hmu⟩
  rw [t2] at fin
  rw [t1] at fin
  rw [aM]
  constructor
  ·intro hk2
   have hk2 : e'.kind = 2 := by simpa using hk2
   have q1 : kj e' = true := by simp [kj, hk2]
   have q2 : jM e' = false := by simp [jM, hk2]
   rw [cH hpc, Option.bind_some, hcmp, aM]
   constructor
   ·intro hl
    have hl : m < k := by simpa using hl
    rw [if_pos hl] at fin
    rw [ai]
    refine fin _ _ _ ?_ ?_ ?_
    ·show IntKind.wrap .i64 (s1 + 1) = _
     rw [h1, jF _ (by omega) (by omega), List.countP_append]; simp [q1]; omega
    ·show r1 = _
     rw [h2, List.countP_append]; simp [q2]
    ·show IntKind.wrap .i64 (o1 + 1) = _
     rw [h3, jF _ (by omega) (by omega), List.countP_append, List.countP_append]; simp [q1, q2]; omega
   ·intro hl
    have hl : ¬ m < k := by simpa using hl
    rw [if_neg hl] at fin
    rw [ai]
    refine fin _ _ _ h1 h2 ?_
    show IntKind.wrap .i64 (o1 + 1) = _
    rw [h3, jF _ (by omega) (by omega), List.countP_append, List.countP_append]; simp [q1, q2]; omega
  ·intro hk2
   have hk2 : ¬ e'.kind = 2 := by simpa using hk2
   have q1 : kj e' = false := by simp [kj, hk2]
   rw [aM]
   constructor
   ·intro hk3
    have hk3 : e'.kind = 3 := by simpa using hk3
    have q2 : jM e' = true := by simp [jM, hk3]
    rw [cH hpc, Option.bind_some, hcmp, aM]
    constructor
    ·intro hl
     have hl : m < k := by simpa using hl
     rw [if_pos hl] at fin
     rw [ai]
     refine fin _ _ _ ?_ ?_ ?_
     ·show s1 = _
      rw [h1, List.countP_append]; simp [q1]
     ·show IntKind.wrap .i64 (r1 + 1) = _
      rw [h2, jF _ (by omega) (by omega), List.countP_append]; simp [q2]; omega
     ·show IntKind.wrap .i64 (o1 - 1) = _
      rw [h3, jF _ (by omega) (by omega), List.countP_append, List.countP_append]; simp [q1, q2]; omega
    ·intro hl
     have hl : ¬ m < k := by simpa using hl
     rw [if_neg hl] at fin
     rw [ai]
     refine fin _ _ _ h1 h2 ?_
     show IntKind.wrap .i64 (o1 - 1) = _
     rw [h3, jF _ (by omega) (by omega), List.countP_append, List.countP_append]; simp [q1, q2]; omega
   ·intro hk3
    have hk3 : ¬ e'.kind = 3 := by simpa using hk3
    have q2 : jM e' = false := by simp [jM, hk3]
    rw [ai]
    refine fin _ _ _ ?_ ?_ ?_
    ·show s1 = _
     rw [h1]; split
     ·rw [List.countP_append]; simp [q1]
     ·rfl
    ·show r1 = _
     rw [h2]; split
     ·rw [List.countP_append]; simp [q2]
     ·rfl
    ·show o1 = _
     rw [h3, List.countP_append, List.countP_append]; simp [q1, q2]
 ·intro h
  have hge : P.events.l.length ≤ m := by simpa [len] using h
  rw [List.take_of_length_le hge] at h1 h2 h3
  refine (ai _).2 ((ai _).2 ?_)
  show Fw.n (U, s1, r1, o1, _) = _
  rw [h1, h2, h3]
end Go.VE
namespace Go.VE
theorem An {t : Trace} (hV : VT t) {A : aZ 200 ay} (hM : kE t (dD t) A) {c : List Int} (hC : Cons t A c) :
 cA t.procs.l.length (ni t c) = 0 ↔ ∀ p q : Nat, p < t.procs.l.length → q < t.procs.l.length → p ≠ q → under t c p q = 0 := by
 have h1 : ∀ p q : Nat, 0 ≤ (if p = q then 0 else under t c p q) := fun p q => by
  split
  ·omega
  ·exact qb hV hM hC p q
 rw [tF (f := ni t c) (fun p _ => mR fun q _ => h1 p q)]
 constructor
 ·intro h p q hp hq hne
  have := (tF (fun q _ => h1 p q)).1 (h p hp) q hq
  rwa [if_neg hne] at this
 ·intro h p hp
  refine (tF (fun q _ => h1 p q)).2 fun q hq => ?_
  split
  ·rfl
  ·rename_i hne; exact h p q hp hq hne
def yV (t : Trace) (c : List Int) (p : Nat) : Int := ((fD t c p).countP kj : Nat)
def yY (t : Trace) (c : List Int) (p : Nat) : Int := ((fD t c p).countP jM : Nat)
def yK (t : Trace) (p : Nat) : Int := ((tG t p).countP kj : Nat) - ((tG t p).countP jM : Nat)
theorem Hq {t : Trace} (hS : Small t) (p : Nat) : (tG t p).length ≤ 1073741824 := by
 unfold tG
 split
 ·rename_i P hP
  have := (hS.2 P (List.mem_of_getElem? hP)).1; omega
 ·simp
theorem wF {t : Trace} (hS : Small t) (c : List Int) (p : Nat) : (fD t c p).length ≤ 1073741824 := by
 unfold fD
 split
 ·rename_i P a hP ha
  have := (hS.2 P (List.mem_of_getElem? hP)).1
  rw [List.length_take]; omega
 ·simp
theorem E0 {t : Trace} (hV : VT t) {c : List Int} (hcl : c.length = t.procs.l.length) :
 cA t.procs.l.length (ni t c) = cA t.procs.l.length (yV t c) - cA t.procs.l.length (yY t c) := EH hV hcl
theorem o7 {n k : Nat} {f : Nat → Int} {a b : Int} (hk : k ≤ n) (hn : n ≤ 8) (ha : a ≤ 0) (hb : 0 ≤ b) (h : ∀ i, i < n → a ≤ f i ∧ f i ≤ b) : 8 * a ≤ cA k f ∧ cA k f ≤ 8 * b := by
 have key : ∀ k, k ≤ n → k * a ≤ cA k f ∧ cA k f ≤ k * b := by
  intro k
  induction k with
  | zero => intro _; simp [pB]
  | succ k ih =>
   intro hk
   have h1 := ih (by omega)
   have h2 := h k (by omega)
   rw [dy]
   have e1 : ((k + 1 : Nat) : Int) * a = k * a + a := by rw [Int.natCast_add, Int.add_mul]; simp
   have e2 : ((k + 1 : Nat) : Int) * b = k * b + b := by rw [Int.natCast_add, Int.add_mul]; simp
   omega
 have h1 := key k hk
 have h2 : (8 : Int) * a ≤ k * a := Int.mul_le_mul_of_nonpos_right (by omega) ha
 have h3 : (k : Int) * b ≤ 8 * b := Int.mul_le_mul_of_nonneg_right (by omega) hb
 omega
theorem uX {t : Trace} (hS : Small t) (hN : (dD t).length < 1073741824) (c : Sl Int) : aK t c = some true := by
 refine Wp.eq ?_
 unfold aK pV
 rw [Option.bind_some, kq]
 obtain ⟨n, hn⟩ := (Bq hS).get
 obtain ⟨v, hv, hV⟩ := FU hS hN
 rw [hn, Option.bind_some, hv, Option.bind_some, kI, Option.bind_some, kI, Option.bind_some]
 generalize hb1 : (if (if decide (n > 60) = true then true else !v) = true then true else decide (len c > 20)) = b1
 cases b1 with
 | true => rw [kq, Option.bind_some, kq, ai]
 | false =>
 have hvt : v = true := by
  cases v with
  | true => rfl
  | false => exfalso; split at hb1 <;> simp_all
 subst hvt
 have hV := hV rfl
 obtain ⟨A, i, hA, hM⟩ := hV.msgs
 have h8 := hV.few
 rw [pF]
 have hcons : Wp (dK t c) fun b => (b = true ↔ Cons t A c.l) := by
  unfold dK
  rw [eP]
  exact (Af hS hv hV hM c).mono fun r hr => (ai _).2 (by rw [beq_iff_eq]; exact hr)
 obtain ⟨b, hb, hbi⟩ := hcons
 rw [hb, Option.bind_some, Option.bind_some]
 cases b with
 | false => rw [show (!false) = true from rfl, kq, ai]
 | true =>
 have hC := hbi.1 rfl
 have hcl : c.l.length = t.procs.l.length := hC.1.1
 have hc0 : ∀ a ∈ c.l, 0 ≤ a := fun a ha => by
  obtain ⟨p, hp⟩ := List.getElem?_of_mem ha
  have hpl := (List.getElem?_eq_some_iff.1 hp).1
  exact (hC.1.2 p a _ hp (List.getElem?_eq_getElem (show p < t.procs.l.length from by omega))).1
 rw [show (!true) = false from rfl, pF, eP]
 refine (wO hS hv hV hM hC).mono fun r ⟨h0, hT⟩ => ?_
 rw [show (r.2 == 0) = true from by simpa using h0, kq]
 rw [show (len r.1 == len c) = true from by simp only [len, beq_iff_eq]; rw [hT.1, hcl], Option.bind_some, show (!true) = false from rfl, pF]
 unfold aK.W1
 have bR : ∀ p, p < t.procs.l.length → 0 ≤ ni t c.l p ∧ ni t c.l p ≤ 8589934592 := fun p _ => Cs hS hV hM hC p
 have bS : ∀ p, p < t.procs.l.length → 0 ≤ yV t c.l p ∧ yV t c.l p ≤ 1073741824 := fun p _ => by
  have h1 := wF hS c.l p
  have h2 := List.countP_le_length (p := kj) (l := fD t c.l p)
  unfold yV; omega
 have bV : ∀ p, p < t.procs.l.length → 0 ≤ yY t c.l p ∧ yY t c.l p ≤ 1073741824 := fun p _ => by
  have h1 := wF hS c.l p
  have h2 := List.countP_le_length (p := jM) (l := fD t c.l p)
  unfold yY; omega
 have bO : ∀ p, p < t.procs.l.length → -1073741824 ≤ yK t p ∧ yK t p ≤ 1073741824 := fun p _ => by
  have h1 := Hq hS p
  have h2 := List.countP_le_length (p := kj) (l := tG t p)
  have h3 := List.countP_le_length (p := jM) (l := tG t p)
  unfold yK; omega
 refine eX (fun z : Int × Int × Int × Int × Int => ∃ k : Nat, z.2.2.2.2 = k ∧ k ≤ t.procs.l.length ∧ z.1 = cA k (ni t c.l) ∧ z.2.1 = cA k (yV t c.l) ∧ z.2.2.1 = cA k (yY t c.l) ∧ z.2.2.2.1 = cA k (yK t)) (fun z => t.procs.l.length - z.2.2.2.2.toNat)
  ⟨0, rfl, Nat.zero_le _, rfl, rfl, rfl, rfl⟩ ?_
 rintro ⟨U, s, q, o, j⟩ ⟨k, hj, hk, hU, hs, hq, ho⟩
 simp only at hj hU hs hq ho; subst hj
 have cU := o7 hk h8 (Int.le_refl 0) (by omega) bR
 have cS := o7 hk h8 (Int.le_refl 0) (by omega) bS
 have cV := o7 hk h8 (Int.le_refl 0) (by omega) bV
 have cO := o7 hk h8 (by omega) (by omega) bO
 unfold aK.aB
 rw [aM]
 constructor
 ·intro h
  have hlt : k < r.1.l.length := by simpa [len] using h
  have hltt : k < t.procs.l.length := by rw [← hT.1]; exact hlt
  have hw := fQ k (by omega)
  have hr := hT.2 k _ (List.getElem?_eq_getElem hlt)
  have hkk : k < r.1.l[k].l.length := by rw [hr.1]; exact hltt
  have hx := hr.2 k _ (List.getElem?_eq_getElem hkk)
  rw [if_pos rfl] at hx
  rw [cH hlt, Option.bind_some]
  rw [show (len r.1.l[k] == len c) = true from by simp only [len, beq_iff_eq]; rw [hr.1, hcl], kq, cH hkk, Option.bind_some, hx, Option.bind_some, show (!((0 : Int) == 0)) = false from rfl, pF]
  rw [KE hS hV hM hC hltt hr (by omega), Jv hS hcl hc0 hltt (s := s) (r := q) (o := o) (by omega) (by omega) (by omega), ai]
  refine ⟨⟨k + 1, hw, by omega, ?_, ?_, ?_, ?_⟩, by show _ - (IntKind.wrap .i64 ((k : Int) + 1)).toNat < _; rw [hw]; simp; omega⟩
  ·show U + _ = _
   rw [dy, hU]
  ·show s + _ = _
   rw [dy, hs]; rfl
  ·show q + _ = _
   rw [dy, hq]; rfl
  ·show o + _ = _
   rw [dy, ho]; rfl
 ·intro h
  have hge : r.1.l.length ≤ k := by simpa [len] using h
  have hke : k = t.procs.l.length := by rw [← hT.1]; rw [← hT.1] at hk; omega
  subst hke
  refine (ai _).2 ?_
  show Wp ((pR (len c) (0 : Int)).bind _) _
  unfold pR
  rw [if_pos (by simp [len]; omega), Option.bind_some]
  have hz : (Sl.row (List.replicate (len c).toNat (0 : Int))).l = List.replicate t.procs.l.length (0 : Int) := by show List.replicate (len c).toNat (0 : Int) = _; rw [show (len c).toNat = t.procs.l.length from by simp only [len]; omega]
  have e1 := vM hS hv hV hM (c := Sl.row (List.replicate (len c).toNat (0 : Int))) (by rw [hz]; exact Dv A)
  obtain ⟨x1, hx1, h10, h11⟩ := e1
  rw [hx1, Option.bind_some]
  obtain ⟨x3, hx3, h3⟩ := Dq hS h8
  rw [hx3, Option.bind_some]
  have hCL : Cons t A x3.l := by rw [h3]; exact Bs hV hM
  obtain ⟨x4, hx4, h40, h41⟩ := vM hS hv hV hM hCL
  rw [hx4, Option.bind_some]
  obtain ⟨x5, hx5, h50, h51⟩ := vM hS hv hV hM hC
  rw [hx5, Option.bind_some]
  rw [← An hV hM hCL] at h41
  rw [← An hV hM hC] at h51
  have t1 : x1.1 = true := h11.2 fun p q hp hq _ => by rw [hz]; exact BC t p q
  have hsum := E0 hV hcl
  have hopen : cA t.procs.l.length (ni t x3.l) = cA t.procs.l.length (yK t) := by
   rw [E0 hV hCL.1.1, ← tn]
   refine e8 fun p hp => ?_
   unfold yV yY yK tG
   simp only [h3, yI] <;> rfl
  rw [hopen] at h41
  have t4 : x4.1 = (o == 0) := by rw [Bool.eq_iff_iff, h41, beq_iff_eq, ho]
  have t5 : x5.1 = (U == 0) := by rw [Bool.eq_iff_iff, h51, beq_iff_eq, hU]
  have t0 : (U == IntKind.wrap .i64 (s - q)) = true := by rw [beq_iff_eq, jF _ (by omega) (by omega)]; omega
  simp only [t0, t1, t4, t5, h10, h40, h50, kq, Option.bind_some, beq_self_eq_true, ai]
end Go.VE
namespace Go.VE
theorem wR {α : Type} [a_ α] {x : α} : ∀ {l : List α}, x ∈ l → a_.wt x ≤ (l.map a_.wt).sum
 | y :: l, h => by
  simp only [List.map_cons, List.sum_cons]
  rcases List.mem_cons.1 h with rfl | h
  ·omega
  ·have := wR h; omega
theorem rL {α : Type} [a_ α] (h : ∀ x : α, 1 ≤ a_.wt x) : ∀ (l : List α), l.length ≤ (l.map a_.wt).sum
 | [] => Nat.le_refl _
 | y :: l => by
  simp only [List.map_cons, List.sum_cons, List.length_cons]
  have := rL h l; have := h y; omega
theorem wU {α : Type} [a_ α] (s : Sl α) : a_.wt s = (s.l.map a_.wt).sum + 1 := rfl
theorem u5 (p : Int) : ∀ (es : List Event) (j : Int), (iW p j es).length = es.length
 | [], _ => rfl
 | _ :: es, j => by simp only [iW, List.length_cons, u5 p es]
theorem AY : ∀ (ps : List aS) (i : Int), (fT i ps).length ≤ (ps.map a_.wt).sum
 | [], _ => Nat.le_refl _
 | p :: ps, i => by
  simp only [fT, List.length_append, u5, List.map_cons, List.sum_cons]
  have h1 := AY ps (i + 1)
  have h2 := rL (α := Event) (fun x => Nat.le_add_left ..) p.events.l
  have h3 : a_.wt p = a_.wt p.name + a_.wt p.vars + a_.wt p.events + 1 := rfl
  have h4 := wU p.events
  omega
theorem FF {t : Trace} (h : a_.wt t ≤ 1048576) : Small t ∧ (dD t).length < 1073741824 := by
 have h0 : a_.wt t = a_.wt t.procs + 1 := rfl
 have h1 := wU t.procs
 have h2 := rL (α := aS) (fun x => Nat.le_add_left ..) t.procs.l
 have h3 := AY t.procs.l 0
 refine ⟨⟨by omega, fun p hp => ?_⟩, by show (fT 0 t.procs.l).length < _; omega⟩
 have h4 := wR hp
 have h5 : a_.wt p = a_.wt p.name + a_.wt p.vars + a_.wt p.events + 1 := rfl
 have h6 := wU p.events
 have h7 := wU p.vars
 have h8 := rL (α := Event) (fun x => Nat.le_add_left ..) p.events.l
 have h9 := rL (α := Var) (fun x => Nat.le_add_left ..) p.vars.l
 have h10 : a_.wt p.name = p.name.size + 1 := rfl
 refine ⟨by omega, by omega, by omega, fun v hv => ?_, fun e he => ?_⟩
 ·have k1 := wR hv
  have k2 : a_.wt v = a_.wt v.name + a_.wt v.init_ + 1 := rfl
  have k3 : a_.wt v.name = v.name.size + 1 := rfl
  omega
 ·have k1 := wR he
  have k2 : a_.wt e = a_.wt e.kind + a_.wt e.peer + a_.wt e.message + a_.wt e.time + a_.wt e.assign + 1 := rfl
  have k3 := wU e.assign
  have k4 := rL (α := Assign) (fun x => Nat.le_add_left ..) e.assign.l
  omega
end Go.VE
namespace Go.Proofs.Ytnfakljmdnbipaa
open Go.ChangeShapes Go.WideShapes Go.ChangeAt Go.RowKit Go.VE
theorem own : ownKnob Try.prog.godebug = none := by kernel_rfl
theorem kids : Kids Try.prog (· < Try.prog.types.size) := kids_rows (by kernel_rfl) (by kernel_rfl)
theorem full : ∀ t e, t < Try.prog.types.size → Try.prog.underlying t = some (.slice e) → 0 < Try.prog.cellsOf e := slices_full_of Try.prog (by kernel_rfl)
theorem rO {H : Type} : ∀ l : List (DataW H), Rows.uptoBulkAll l = (l.map Rows.uptoBulk).sum
 | [] => by simp [Rows.uptoBulkAll]
 | d :: r => by simp [Rows.uptoBulkAll, rO r]
theorem IF {H : Type} : qn (H := H) Rows.uptoBulk where
 lit l := by cases l <;> simp [Rows.uptoBulk]
 str s := by simp [Rows.uptoBulk]
 nil := by simp [Rows.uptoBulk]
 slice es sp := by rw [Rows.uptoBulk, rO, rO]; omega
 agg ps := by rw [Rows.uptoBulk, rO]; exact Nat.le_refl _
set_option maxRecDepth 100000 in
theorem BN (H : Type) (enc : TypeId × Value → H) (W : World) (base : Nat) (args : Array Value) (ds gs : List (DataW H)) (before : List MemPlace)
 (hval : ∀ (j : Nat) t v, Try.f3.params[j]? = some t → args[j]? = some v → Value.okWide Try.prog W .any base t v)
 (hW : DataW.Whole enc Try.prog Try.f3.params.toList Rows.channelBalanceSpec.vars false W args.toList ds gs before) (hk : Rows.uptoSmall H (ds ++ gs) = true) :
 Calls Try.prog 3 args W fun e W' => ∃ v, e = .returned v ∧ Rows.channelBalanceSpec.post enc Try.prog Try.f3 false true false false W args v W' := by
 have hW' := hW
 obtain ⟨p, q, hA0, hV, rfl, hfz, hnd⟩ := hW
 have hA : DataW.TrodAll enc Try.prog W 0 (fun _ => true) true Try.f3.params.toList args.toList ds p := hA0
 rw [Try.params3] at hA hval
 obtain ⟨v0, vs0, d0, ds0, p0, q0, hargs, rfl, rfl, h0, r0⟩ := trodAll_cons hA
 obtain ⟨v1, vs1, d1, ds1, p1, q1, rfl, rfl, rfl, h1, r1⟩ := trodAll_cons r0
 obtain ⟨rfl, rfl, rfl⟩ := trodAll_nil r1
 obtain rfl : args = #[v0, v1] := by cases args; simp_all
 obtain ⟨rfl, rfl⟩ := trodVars_none hV
 obtain ⟨t, hv, hok, hwt⟩ := Reads.G7 (t := 24) (α := VE.Trace) hval 0 rfl rfl h0
 obtain ⟨c, hv1, _, _⟩ := Reads.G7 (t := 25) (α := Sl Int) hval 1 rfl rfl h1
 have hb : a_.wt t ≤ 1048576 := by
  have h6 := hwt Rows.uptoBulk IF
  have h2 : Rows.uptoBulkAll ([d0, d1] ++ []) ≤ 1048576 := of_decide_eq_true hk
  rw [rO] at h2
  simp only [List.append_nil, List.map_cons, List.map_nil, List.sum_cons, List.sum_nil] at h2
  omega
 obtain ⟨hS, hN⟩ := FF hb
 have hl := pW (S := Ytnfakljmdnbipaa.Sy) (T := Ytnfakljmdnbipaa.Tx) t c
 rw [uX hS hN c] at hl
 have hc := hl _ rfl
 have := DI (P := Try.prog) Ytnfakljmdnbipaa.Lh Ytnfakljmdnbipaa.HE calls (f := 3) (xs := [VE.enc t, VE.enc c]) (by simp [V.bK, V.aN, jX]) hc (w := W) (args := #[v0, v1]) (bA.cons hv (bA.cons hv1 .nil))
 refine this.mono fun e W' ⟨he, hg⟩ => ?_
 subst he
 exact ⟨_, rfl, Ej kids full (by rw [Try.params3]; decide) rfl rfl rfl Try.underlying4 hW' hg⟩
set_option maxRecDepth 100000 in
theorem E6 (os : Os) (started : os.Started) (H : Type) (enc : TypeId × Value → H) (F : Stop.Interp) :
 ReturnsInHanded {} Try.checked os 3 .any ((Rows.OpenSpec.upto Rows.channelBalanceSpec).pre6 enc Try.prog Try.f3 Rows.channelBalanceUptoRow.domain false) (((Rows.OpenSpec.upto Rows.channelBalanceSpec).at F).post enc Try.prog Try.f3 false true false false) := by
 refine returnsInHanded_of_cond (C := Try.checked) (s := Rows.OpenSpec.upto Rows.channelBalanceSpec) (k := Rows.uptoSmall) rfl own started (by kernel_rfl) Try.func3
  (OpenSpec.witness (enc := enc) (C := Try.checked) (s := Rows.OpenSpec.upto Rows.channelBalanceSpec) (k := Rows.uptoSmall) rfl false ⟨#[], #[.agg #[.slice none 0 0], .slice none 0 0], []⟩ 8 (by kernel_rfl) (by kernel_rfl) (by kernel_rfl)
   (x := ([.agg [.nil], .nil], [], [])) (by kernel_rfl) rfl (by kernel_rfl)) ?_
 intro W base args ds gs before hval hW _ hk _
 exact BN H enc W base args ds gs before hval hW hk
theorem tR : Rows.channelBalanceUptoRow.holds Try.pinned (Rows.OpenSpec.upto Rows.channelBalanceSpec) :=
 OpenClaim.holds_of_cond 3 Try.f3 rfl rfl rfl rfl rfl rfl rfl ⟨rfl, rfl, rfl, rfl, rfl⟩ rfl rfl rfl rfl rfl (by kernel_rfl) Try.func3 (by kernel_rfl)
  (of_decide_eq_true (by kernel_rfl)) (by unfold Func.isWrapper; first | (rw [if_pos (by decide +kernel)]; kernel_rfl) | (rw [if_neg (by decide +kernel)]; exact ⟨rfl, rfl⟩))
  (fun os started H enc _ F => E6 os started H enc F)
theorem channelBalanceProved : Rows.ChannelBalanceUptoSaid :=
 tR
#print axioms channelBalanceProved
end Go.Proofs.Ytnfakljmdnbipaa
