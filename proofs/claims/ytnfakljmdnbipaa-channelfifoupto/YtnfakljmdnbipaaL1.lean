/-
  ChannelFifo says true for every trace of bulk at most 1048576, and the trace reads behind the call as it read before: for every such argument, without a condition.
-/
import Derived.Test.YtnfakljmdnbipaaRows
import Derived.Test.YtnfakljmdnbipaaS2
import Derived.Test.YtnfakljmdnbipaaT1
import Derived.Test.YtnfakljmdnbipaaG1
set_option linter.all false
namespace Go.VE
namespace trace_events_c1
def R2a : List RO := [o1 20 (.s 18) [], o2 21 (ix 5) [.s 16, .s 18] [], o2 22 (lD 5) [.s 21] [21], o2 6 (.a (.alloc 5 [.int .i64 0, .int .i64 0, .int .i64 0, .int .i64 0, .nsl])) [] [], o1 5 (.s 20) [20], oz (.l (.store 5)) [.s 6, .s 22] [22]]
def R2b : List RO := [o1 23 (.s 0) [], o1 24 (.s 3) [], o1 25 (.s 5) [5], o2 26 (bI .add) [.s 25, .k (.int .i64 1)] [25], o2 27 (.p (.build [.int .i64 0, .int .i64 0] [(0, 1), (1, 1)])) [.s 24, .s 26] [24, 26], o2 28 (lD 5) [.s 6] [6],
  o2 29 .c [.s 23, .s 27, .s 28] [23, 27, 28], o2 30 (.p .not) [.s 29] [29]]
def R2c : List RO := [o2 31 (bI .add) [.s 18, .k (.int .i64 1)] [], o1 18 (.s 31) [31]]
def R2t : RC := .hg (.seq (.ops [o2 19 (bI .lss) [.s 18, .s 17] []]) (.seq (.cond (.s 19) .skip (.exit 2)) (.seq (.block 3 (.seq (.ops R2a) (.seq (.ops R2b) (.cond (.s 30) .ret .skip)))) (.ops R2c)))) (.keep [0,3,8,9,10,16,17,18] [])
def R1a : List RO := [o1 12 (.s 10) [], o2 13 (ix 3) [.s 8, .s 10] [], o2 14 (lD 3) [.s 13] [13], o2 4 (.a (.alloc 3 [.str ByteArray.empty, .nsl, .nsl])) [] [], o1 3 (.s 12) [12], oz (.l (.store 3)) [.s 4, .s 14] [14]]
def R1b : List RO := [o2 15 (fa 2) [.s 4] [], o2 16 (ld 1) [.s 15] [15], o2 17 ln [.s 16] [], o1 18 (.k (.int .i64 0)) []]
def R1c : List RO := [o2 32 (bI .add) [.s 10, .k (.int .i64 1)] [], o1 10 (.s 32) [32]]
def U2 : RC := .block 2 (.gh (.keep [0,3,8,9,10,16,17,18] []) (.loop R2t))
def R1t : RC := .hg (.seq (.ops [o2 11 (bI .lss) [.s 10, .s 9] []]) (.seq (.cond (.s 11) .skip (.exit 0)) (.seq (.block 1 (.seq (.ops R1a) (.seq (.ops R1b) U2))) (.ops R1c)))) (.keep [0,8,9,10] [])
def Qa : List RO := [o2 7 (fa 0) [.s 1] [1], o2 8 (ld 1) [.s 7] [7], o2 9 ln [.s 8] [], o1 10 (.k (.int .i64 0)) []]
def U1 : RC := .block 0 (.gh (.keep [0,8,9,10] []) (.loop R1t))
def text : RF := ⟨33, [], .seq (.ops Qa) U1⟩
section
variable {S : Sys}
abbrev I1 (ps : Sl Proc) (i : Int) (ws : List (List V)) (more : Bool) (y : Nat) : St := ⟨[(0, .yl y), Cv 8 ps, Iv 9 (len ps), Iv 10 i], [], [], ws, more, y⟩
abbrev I2 (ps : Sl Proc) (i : Int) (es : Sl Event) (j : Int) (ws : List (List V)) (more : Bool) (y : Nat) : St := ⟨[(0, .yl y), Iv 3 i, Cv 8 ps, Iv 9 (len ps), Iv 10 i, Cv 16 es, Iv 17 (len es), Iv 18 j], [], [], ws, more, y⟩
abbrev S2 (ps : Sl Proc) (i : Int) (es : Sl Event) (j : Int) (b : Bool) (ws : List (List V)) (more : Bool) (y : Nat) : St := ⟨[(0, .yl y), Iv 3 i, Cv 8 ps, Iv 9 (len ps), Iv 10 i, Cv 16 es, Iv 17 (len es), Iv 18 j, Bv 19 b], [], [], ws, more, y⟩
theorem r2_out (ps : Sl Proc) (i : Int) (es : Sl Event) (j : Int) (ws : List (List V)) (more : Bool) (y : Nat) (hj : decide (j < len es) = false) :
    rn S.bare callO some (.rc R2t) [] (I2 ps i es j ws more y) = some (.exit 2, S2 ps i es j false ws more y) := by
  refine Le.get ?_
  refine Kf (n := 7) (fo' := .rc (.cond (.s 19) .skip (.exit 2))) (fs' := [.seq (.seq (.block 3 (.seq (.ops R2a) (.seq (.ops R2b) (.cond (.s 30) .ret .skip)))) (.ops R2c)), .gst (.keep [0,3,8,9,10,16,17,18] [])]) (fun b => S2 ps i es j b ws more y) hj (by kernel_rfl) ?_
  exact Le.of_eq (by kernel_rfl)
theorem r2_go (ps : Sl Proc) (i : Int) (es : Sl Event) (j : Int) (e : Event) (ws : List (List V)) (more : Bool) (y : Nat) (hj : decide (j < len es) = true) (hx : idx es j = some e) (hb : (!(more || !ws.isEmpty)) = false) :
    rn S.bare callO some (.rc R2t) [] (I2 ps i es j ([enc (⟨i, IntKind.wrap .i64 (j + 1)⟩ : EventId), enc e] :: ws) more y) = some (.norm, I2 ps i es (IntKind.wrap .i64 (j + 1)) ws more y) := by
  refine Le.get ?_
  refine Kt (n := 7) (fo' := .rc (.cond (.s 19) .skip (.exit 2))) (fs' := [.seq (.seq (.block 3 (.seq (.ops R2a) (.seq (.ops R2b) (.cond (.s 30) .ret .skip)))) (.ops R2c)), .gst (.keep [0,3,8,9,10,16,17,18] [])]) (fun b => S2 ps i es j b ([enc (⟨i, IntKind.wrap .i64 (j + 1)⟩ : EventId), enc e] :: ws) more y) hj (by kernel_rfl) ?_
  refine Kidx hx ?_
  refine Aidx 8 false [] (R2a.drop 1) [.seq (.seq (.ops R2b) (.cond (.s 30) .ret .skip)), .blk 3, .seq (.ops R2c), .gst (.keep [0,3,8,9,10,16,17,18] [])] ⟨[(0, .yl y), Iv 3 i, Cv 8 ps, Iv 9 (len ps), Iv 10 i, Cv 16 es, Iv 17 (len es), Iv 18 j, Bv 19 true, Iv 20 j], [], [], ([enc (⟨i, IntKind.wrap .i64 (j + 1)⟩ : EventId), enc e] :: ws), more, y⟩ .i64 rfl (by kernel_rfl) fun x h1 => ?_
  obtain rfl : x = e := by rw [hx] at h1; cases h1; rfl
  refine Aal 1 false [] (R2a.drop 3) [.seq (.seq (.ops R2b) (.cond (.s 30) .ret .skip)), .blk 3, .seq (.ops R2c), .gst (.keep [0,3,8,9,10,16,17,18] [])] ⟨[(0, .yl y), Iv 3 i, Cv 8 ps, Iv 9 (len ps), Iv 10 i, Cv 16 es, Iv 17 (len es), Iv 18 j, Bv 19 true, Iv 20 j, Cv 22 x], [], [], ([enc (⟨i, IntKind.wrap .i64 (j + 1)⟩ : EventId), enc x] :: ws), more, y⟩ [iv 0, iv 0, iv 0, iv 0, .v .nsl] rfl (by simp only [mkS, new_eq, saysG_cons, saysG_nil, saysM_cons, saysM_nil, saysO_bx, saysO_box, saysL_v, saysL_cons, saysL_nil, says_v, says_own, says_ptr, says_clo, says_tup, says_mp, says_el, tdel_cons, tdel_nil, SV.says]; rfl) (by kernel_rfl) ?_
  refine Ast 1 false [] (R2a.drop 5) [.seq (.seq (.ops R2b) (.cond (.s 30) .ret .skip)), .blk 3, .seq (.ops R2c), .gst (.keep [0,3,8,9,10,16,17,18] [])] ⟨[(0, .yl y), Iv 3 i, Cv 8 ps, Iv 9 (len ps), Iv 10 i, Cv 16 es, Iv 17 (len es), Iv 18 j, Bv 19 true, Cv 22 x, Pv 6, Iv 5 j], [Xb 6 (⟨0, 0, 0, 0, .nil⟩ : Event)], [], ([enc (⟨i, IntKind.wrap .i64 (j + 1)⟩ : EventId), enc x] :: ws), more, y⟩ 6 0 x [iv 0, iv 0, iv 0, iv 0, .v .nsl] ((cells x).map .v) rfl (by kernel_rfl) ?_
  refine Kyl (n := 10) (q := R2b.drop 6) (fs' := [.seq (.cond (.s 30) .ret .skip), .blk 3, .seq (.ops R2c), .gst (.keep [0,3,8,9,10,16,17,18] [])]) (st := ⟨[(0, .yl y), Iv 3 i, Cv 8 ps, Iv 9 (len ps), Iv 10 i, Cv 16 es, Iv 17 (len es), Iv 18 j, Bv 19 true, (23, .yl y), Cv 27 (⟨i, IntKind.wrap .i64 (j + 1)⟩ : EventId), Cv 28 x], [Xb 6 x], [], ([enc (⟨i, IntKind.wrap .i64 (j + 1)⟩ : EventId), enc x] :: ws), more, y⟩) (vs := [cv (⟨i, IntKind.wrap .i64 (j + 1)⟩ : EventId), cv x]) (by kernel_rfl) rfl (by kernel_rfl) (by kernel_rfl) rfl rfl ?_
  refine Kf (n := 3) (fo' := .rc (.cond (.s 30) .ret .skip)) (fs' := [.blk 3, .seq (.ops R2c), .gst (.keep [0,3,8,9,10,16,17,18] [])]) (fun b => ⟨[(0, .yl y), Iv 3 i, Cv 8 ps, Iv 9 (len ps), Iv 10 i, Cv 16 es, Iv 17 (len es), Iv 18 j, Bv 19 true, Bv 30 b], [Xb 6 x], [], ws, more, y⟩) hb (by kernel_rfl) ?_
  exact Le.of_eq (by kernel_rfl)
theorem r2_stop (ps : Sl Proc) (i : Int) (es : Sl Event) (j : Int) (e : Event) (ws : List (List V)) (more : Bool) (y : Nat) (hj : decide (j < len es) = true) (hx : idx es j = some e) (hb : (!(more || !ws.isEmpty)) = true) :
    rn S.bare callO some (.rc R2t) [] (I2 ps i es j ([enc (⟨i, IntKind.wrap .i64 (j + 1)⟩ : EventId), enc e] :: ws) more y) = some (.ret, ⟨[(0, .yl y), Iv 3 i, Cv 8 ps, Iv 9 (len ps), Iv 10 i, Cv 16 es, Iv 17 (len es), Iv 18 j, Bv 19 true, Bv 30 true], [Xb 6 e], [], ws, more, y⟩) := by
  refine Le.get ?_
  refine Kt (n := 7) (fo' := .rc (.cond (.s 19) .skip (.exit 2))) (fs' := [.seq (.seq (.block 3 (.seq (.ops R2a) (.seq (.ops R2b) (.cond (.s 30) .ret .skip)))) (.ops R2c)), .gst (.keep [0,3,8,9,10,16,17,18] [])]) (fun b => S2 ps i es j b ([enc (⟨i, IntKind.wrap .i64 (j + 1)⟩ : EventId), enc e] :: ws) more y) hj (by kernel_rfl) ?_
  refine Kidx hx ?_
  refine Aidx 8 false [] (R2a.drop 1) [.seq (.seq (.ops R2b) (.cond (.s 30) .ret .skip)), .blk 3, .seq (.ops R2c), .gst (.keep [0,3,8,9,10,16,17,18] [])] ⟨[(0, .yl y), Iv 3 i, Cv 8 ps, Iv 9 (len ps), Iv 10 i, Cv 16 es, Iv 17 (len es), Iv 18 j, Bv 19 true, Iv 20 j], [], [], ([enc (⟨i, IntKind.wrap .i64 (j + 1)⟩ : EventId), enc e] :: ws), more, y⟩ .i64 rfl (by kernel_rfl) fun x h1 => ?_
  obtain rfl : x = e := by rw [hx] at h1; cases h1; rfl
  refine Aal 1 false [] (R2a.drop 3) [.seq (.seq (.ops R2b) (.cond (.s 30) .ret .skip)), .blk 3, .seq (.ops R2c), .gst (.keep [0,3,8,9,10,16,17,18] [])] ⟨[(0, .yl y), Iv 3 i, Cv 8 ps, Iv 9 (len ps), Iv 10 i, Cv 16 es, Iv 17 (len es), Iv 18 j, Bv 19 true, Iv 20 j, Cv 22 x], [], [], ([enc (⟨i, IntKind.wrap .i64 (j + 1)⟩ : EventId), enc x] :: ws), more, y⟩ [iv 0, iv 0, iv 0, iv 0, .v .nsl] rfl (by simp only [mkS, new_eq, saysG_cons, saysG_nil, saysM_cons, saysM_nil, saysO_bx, saysO_box, saysL_v, saysL_cons, saysL_nil, says_v, says_own, says_ptr, says_clo, says_tup, says_mp, says_el, tdel_cons, tdel_nil, SV.says]; rfl) (by kernel_rfl) ?_
  refine Ast 1 false [] (R2a.drop 5) [.seq (.seq (.ops R2b) (.cond (.s 30) .ret .skip)), .blk 3, .seq (.ops R2c), .gst (.keep [0,3,8,9,10,16,17,18] [])] ⟨[(0, .yl y), Iv 3 i, Cv 8 ps, Iv 9 (len ps), Iv 10 i, Cv 16 es, Iv 17 (len es), Iv 18 j, Bv 19 true, Cv 22 x, Pv 6, Iv 5 j], [Xb 6 (⟨0, 0, 0, 0, .nil⟩ : Event)], [], ([enc (⟨i, IntKind.wrap .i64 (j + 1)⟩ : EventId), enc x] :: ws), more, y⟩ 6 0 x [iv 0, iv 0, iv 0, iv 0, .v .nsl] ((cells x).map .v) rfl (by kernel_rfl) ?_
  refine Kyl (n := 10) (q := R2b.drop 6) (fs' := [.seq (.cond (.s 30) .ret .skip), .blk 3, .seq (.ops R2c), .gst (.keep [0,3,8,9,10,16,17,18] [])]) (st := ⟨[(0, .yl y), Iv 3 i, Cv 8 ps, Iv 9 (len ps), Iv 10 i, Cv 16 es, Iv 17 (len es), Iv 18 j, Bv 19 true, (23, .yl y), Cv 27 (⟨i, IntKind.wrap .i64 (j + 1)⟩ : EventId), Cv 28 x], [Xb 6 x], [], ([enc (⟨i, IntKind.wrap .i64 (j + 1)⟩ : EventId), enc x] :: ws), more, y⟩) (vs := [cv (⟨i, IntKind.wrap .i64 (j + 1)⟩ : EventId), cv x]) (by kernel_rfl) rfl (by kernel_rfl) (by kernel_rfl) rfl rfl ?_
  refine Kt (n := 3) (fo' := .rc (.cond (.s 30) .ret .skip)) (fs' := [.blk 3, .seq (.ops R2c), .gst (.keep [0,3,8,9,10,16,17,18] [])]) (fun b => ⟨[(0, .yl y), Iv 3 i, Cv 8 ps, Iv 9 (len ps), Iv 10 i, Cv 16 es, Iv 17 (len es), Iv 18 j, Bv 19 true, Bv 30 b], [Xb 6 x], [], ws, more, y⟩) hb (by kernel_rfl) ?_
  exact Le.of_eq (by kernel_rfl)
abbrev S1 (ps : Sl Proc) (i : Int) (b : Bool) (ws : List (List V)) (more : Bool) (y : Nat) : St := ⟨[(0, .yl y), Cv 8 ps, Iv 9 (len ps), Iv 10 i, Bv 11 b], [], [], ws, more, y⟩
theorem r1_out (ps : Sl Proc) (i : Int) (ws : List (List V)) (more : Bool) (y : Nat) (hj : decide (i < len ps) = false) :
    rn S.bare callO some (.rc R1t) [] (I1 ps i ws more y) = some (.exit 0, S1 ps i false ws more y) := by
  refine Le.get ?_
  refine Kf (n := 7) (fo' := .rc (.cond (.s 11) .skip (.exit 0))) (fs' := [.seq (.seq (.block 1 (.seq (.ops R1a) (.seq (.ops R1b) U2))) (.ops R1c)), .gst (.keep [0,8,9,10] [])]) (fun b => S1 ps i b ws more y) hj (by kernel_rfl) ?_
  exact Le.of_eq (by kernel_rfl)
def FS1 : List Fm := [.blk 2, .blk 1, .seq (.ops R1c), .gst (.keep [0,8,9,10] [])]
theorem r1_in (ps : Sl Proc) (i : Int) (p : Proc) (ws : List (List V)) (more : Bool) (y : Nat) (r : Out × St) (hj : decide (i < len ps) = true) (hx : idx ps i = some p)
    (h : rn S.bare callO some (.rc (.loop R2t)) FS1 (I2 ps i p.events 0 ws more y) = some r) : rn S.bare callO some (.rc R1t) [] (I1 ps i ws more y) = some r := by
  refine Le.get ?_
  refine Kt (n := 7) (fo' := .rc (.cond (.s 11) .skip (.exit 0))) (fs' := [.seq (.seq (.block 1 (.seq (.ops R1a) (.seq (.ops R1b) U2))) (.ops R1c)), .gst (.keep [0,8,9,10] [])]) (fun b => S1 ps i b ws more y) hj (by kernel_rfl) ?_
  refine Kidx hx ?_
  refine Aidx 8 false [] (R1a.drop 1) [.seq (.seq (.ops R1b) U2), .blk 1, .seq (.ops R1c), .gst (.keep [0,8,9,10] [])] ⟨[(0, .yl y), Cv 8 ps, Iv 9 (len ps), Iv 10 i, Bv 11 true, Iv 12 i], [], [], ws, more, y⟩ .i64 rfl (by kernel_rfl) fun x h1 => ?_
  obtain rfl : x = p := by rw [hx] at h1; cases h1; rfl
  refine Aal 1 false [] (R1a.drop 3) [.seq (.seq (.ops R1b) U2), .blk 1, .seq (.ops R1c), .gst (.keep [0,8,9,10] [])] ⟨[(0, .yl y), Cv 8 ps, Iv 9 (len ps), Iv 10 i, Bv 11 true, Iv 12 i, Cv 14 x], [], [], ws, more, y⟩ [.v (.str ByteArray.empty), .v .nsl, .v .nsl] rfl (by simp only [mkS, new_eq, saysG_cons, saysG_nil, saysM_cons, saysM_nil, saysO_bx, saysO_box, saysL_v, saysL_cons, saysL_nil, says_v, says_own, says_ptr, says_clo, says_tup, says_mp, says_el, tdel_cons, tdel_nil, SV.says]; rfl) (by kernel_rfl) ?_
  refine Ast 1 false [] (R1a.drop 5) [.seq (.seq (.ops R1b) U2), .blk 1, .seq (.ops R1c), .gst (.keep [0,8,9,10] [])] ⟨[(0, .yl y), Cv 8 ps, Iv 9 (len ps), Iv 10 i, Bv 11 true, Cv 14 x, Pv 4, Iv 3 i], [Xb 4 (⟨ByteArray.empty, .nil, .nil⟩ : Proc)], [], ws, more, y⟩ 4 0 x [.v (.str ByteArray.empty), .v .nsl, .v .nsl] ((cells x).map .v) rfl (by kernel_rfl) ?_
  refine Alen 6 false [] (R1b.drop 2) [.seq U2, .blk 1, .seq (.ops R1c), .gst (.keep [0,8,9,10] [])] ⟨[(0, .yl y), Cv 8 ps, Iv 9 (len ps), Iv 10 i, Bv 11 true, Pv 4, Iv 3 i, Cv 16 x.events], [Xb 4 x], [], ws, more, y⟩ x.events rfl (by kernel_rfl) ?_
  refine Kadv (n := 5) (fo' := .rc (.loop R2t)) (fs' := FS1) (st' := I2 ps i x.events 0 ws more y) (by kernel_rfl) (Le.of_eq h)
theorem r1_next (ps : Sl Proc) (i : Int) (es : Sl Event) (j : Int) (ws : List (List V)) (more : Bool) (y : Nat) :
    rn S.bare callO some (.ex 2) FS1 (S2 ps i es j false ws more y) = some (.norm, I1 ps (IntKind.wrap .i64 (i + 1)) ws more y) := by kernel_rfl
theorem wrap_small (n : Nat) (h : n < 9223372036854775807) : IntKind.wrap .i64 ((n : Int) + 1) = ((n + 1 : Nat) : Int) := by
  simp [IntKind.wrap, IntKind.bits, IntKind.signed]; omega
abbrev eI (x : EventId × Event) : List V := [enc x.1, enc x.2]
theorem Due.step {x : List V} {ws rest : List (List V)} {more : Bool} (h : Due ws (x :: rest) more) : ∃ ws', ws = x :: ws' ∧ ((!(more || !ws'.isEmpty)) = false ∧ Due ws' rest more ∨ (!(more || !ws'.isEmpty)) = true ∧ ws' = []) := by
  rcases h with ⟨rfl, rfl⟩ | ⟨rfl, hn, r, hr⟩
  · exact ⟨rest, rfl, .inl ⟨rfl, .inl ⟨rfl, rfl⟩⟩⟩
  · cases ws with
    | nil => exact absurd rfl hn
    | cons w ws =>
      simp only [List.cons_append, List.cons.injEq] at hr
      obtain ⟨rfl, rfl⟩ := hr
      refine ⟨ws, rfl, ?_⟩
      cases ws with
      | nil => exact .inr ⟨rfl, rfl⟩
      | cons z zs => exact .inl ⟨rfl, .inr ⟨rfl, by simp, r, rfl⟩⟩
theorem idx_drop {α : Type} {s : Sl α} {j : Nat} {x : α} {r : List α} (h : s.l.drop j = x :: r) : idx s (j : Int) = some x ∧ decide ((j : Int) < len s) = true ∧ s.l.drop (j + 1) = r := by
  have h1 : j < s.l.length := by
    apply Classical.byContradiction; intro hn
    rw [List.drop_eq_nil_of_le (by omega)] at h; cases h
  have h2 := List.drop_eq_getElem_cons h1
  rw [h2] at h
  simp only [List.cons.injEq] at h
  refine ⟨?_, by simp [len, h1], h.2⟩
  unfold idx
  rw [if_pos (by omega)]
  simp [List.getElem?_eq_getElem h1, h.1]
variable {Q : Out × St → Option (Out × St)} {fs : List Fm}
theorem inner (ps : Sl Proc) (i : Int) (es : Sl Event) (hl : es.l.length < 9223372036854775807) (more : Bool) (y : Nat) (R : List (List V)) : ∀ (rem : List Event) (j : Nat), es.l.drop j = rem → ∀ ws, Due ws ((evsFrom i j rem).map eI ++ R) more →
    (∃ (ws' : List (List V)) (j' : Int), Due ws' R more ∧ rn S.bare callO Q (.rc (.loop R2t)) fs (I2 ps i es j ws more y) = rn S.bare callO Q (.ex 2) fs (S2 ps i es j' false ws' more y)) ∨
    (∃ st' : St, st'.want = [] ∧ rn S.bare callO Q (.rc (.loop R2t)) fs (I2 ps i es j ws more y) = Q (.ret, st'))
  | [], j, hd, ws, hw => by
    have h1 : decide ((j : Int) < len es) = false := by
      have : es.l.length ≤ j := by simpa using hd
      simp [len]; omega
    exact .inl ⟨ws, j, by simpa [evsFrom] using hw, rn_loop_x (r2_out ps i es j ws more y h1)⟩
  | e :: rem, j, hd, ws, hw => by
    obtain ⟨h1, h2, h3⟩ := idx_drop hd
    have hj : j < es.l.length := by simpa [len] using h2
    simp only [evsFrom, List.map_cons, List.cons_append] at hw
    obtain ⟨ws', rfl, hb⟩ := Due.step hw
    have hwr := wrap_small j (by omega)
    have hji : ((j : Int) + 1) = IntKind.wrap .i64 ((j : Int) + 1) := by rw [hwr]; simp
    rcases hb with ⟨hb, hd'⟩ | ⟨hb, rfl⟩
    · have k := r2_go (S := S) ps i es j e ws' more y h2 h1 hb
      rw [← hji] at k
      have k2 := rn_loop_n (Q := Q) (fs := fs) k
      have ih := inner ps i es hl more y R rem (j + 1) h3 ws' (by push_cast; exact hd')
      rw [show ((j + 1 : Nat) : Int) = (j : Int) + 1 from rfl] at ih
      rcases ih with ⟨ws2, j2, g1, g2⟩ | ⟨st', g1, g2⟩
      · exact .inl ⟨ws2, j2, g1, k2.trans g2⟩
      · exact .inr ⟨st', g1, k2.trans g2⟩
    · have k := r2_stop (S := S) ps i es j e [] more y h2 h1 hb
      rw [← hji] at k
      exact .inr ⟨_, by rfl, rn_loop_r k⟩
theorem outer (ps : Sl Proc) (hl : ps.l.length < 9223372036854775807) (hes : ∀ p ∈ ps.l, p.events.l.length < 9223372036854775807) (more : Bool) (y : Nat) : ∀ (rem : List Proc) (i : Nat), ps.l.drop i = rem → ∀ ws, Due ws ((procsFrom i rem).map eI) more →
    rn S.bare callO Qi (.rc (.loop R1t)) [.blk 0] (I1 ps i ws more y) = some ()
  | [], i, hd, ws, hw => by
    have h1 : decide ((i : Int) < len ps) = false := by
      have : ps.l.length ≤ i := by simpa using hd
      simp [len]; omega
    rw [rn_loop_x (r1_out ps i ws more y h1)]
    have : ws = [] := by
      rcases hw with ⟨_, rfl⟩ | ⟨_, hn, r, hr⟩
      · rfl
      · have : ws = [] := by cases ws with
          | nil => rfl
          | cons => simp [procsFrom] at hr
        exact absurd this hn
    subst this
    rfl
  | p :: rem, i, hd, ws, hw => by
    obtain ⟨h1, h2, h3⟩ := idx_drop hd
    have hi : i < ps.l.length := by simpa [len] using h2
    have hp : p ∈ ps.l := List.mem_of_mem_drop (i := i) (by rw [hd]; exact List.mem_cons_self ..)
    simp only [procsFrom, List.map_append] at hw
    have hwr := wrap_small i (by omega)
    rcases inner (S := S) (Q := some) (fs := FS1) ps i p.events (hes p hp) more y _ p.events.l 0 rfl ws hw with ⟨ws', j', g1, g2⟩ | ⟨st', g1, g2⟩
    · rw [r1_next, hwr] at g2
      rw [rn_loop_n (r1_in ps i p ws more y _ h2 h1 g2)]
      exact outer ps hl hes more y rem (i + 1) h3 ws' g1
    · rw [rn_loop_r (r1_in ps i p ws more y _ h2 h1 g2)]
      simp [Qi, g1]
theorem all (t : Trace) (its : List (EventId × Event)) (h : trace_items t = some its) (ws : List (List V)) (more : Bool) (hw : Due ws (its.map eI) more) (y : Nat) :
    rn S.bare callO Qi (.rc text.body) [] ⟨numS 0 (([] : List V).map .v ++ .yl y :: [V.fptr (cells t)].map .v), [], [], ws, more, y⟩ = some () := by
  unfold trace_items at h
  split at h
  · rename_i hk
    cases h
    simp only [Bool.and_eq_true, List.all_eq_true, okLen, decide_eq_true_eq] at hk
    refine Le.get ?_
    refine Alen 4 false [] (Qa.drop 2) [.seq U1] ⟨[(0, .yl y), Cv 8 t.procs], [], [], ws, more, y⟩ t.procs rfl (by kernel_rfl) ?_
    refine Kadv (n := 5) (fo' := .rc (.loop R1t)) (fs' := [.blk 0]) (st' := I1 t.procs 0 ws more y) (by kernel_rfl) (Le.of_eq ?_)
    exact outer t.procs hk.1 hk.2 more y t.procs.l 0 rfl ws hw
  · cases h
end
theorem rows_of {α : Type} [Enc α] {a b : Sl α} (h : slEnc a = slEnc b) : rows a.l = rows b.l := by
  cases a <;> cases b <;> first | rfl | (simp only [slEnc, Sl.k, slV, V.fsl.injEq, true_and, reduceCtorEq] at h; done) | (simp only [slEnc, Sl.k, slV, V.fsl.injEq, true_and, reduceCtorEq] at h; exact h)
theorem evs_same (p : Int) : ∀ (es es' : List Event) (j : Int), rows es = rows es' → (evsFrom p j es).map eI = (evsFrom p j es').map eI
  | [], [], _, _ => rfl
  | [], _ :: _, _, h => by simp [rows] at h
  | _ :: _, [], _, h => by simp [rows] at h
  | e :: es, e' :: es', j, h => by
    simp only [rows, List.map_cons, List.cons.injEq] at h
    have h1 : enc e = enc e' := by show V.agg (cells e) = V.agg (cells e'); rw [h.1]
    simp only [evsFrom, List.map_cons, eI, h1, evs_same p es es' (j + 1) h.2]
theorem procs_same : ∀ (ps ps' : List Proc) (i : Int), rows ps = rows ps' → (procsFrom i ps).map eI = (procsFrom i ps').map eI
  | [], [], _, _ => rfl
  | [], _ :: _, _, h => by simp [rows] at h
  | _ :: _, [], _, h => by simp [rows] at h
  | p :: ps, p' :: ps', i, h => by
    simp only [rows, List.map_cons, List.cons.injEq] at h
    have h1 : slEnc p.events = slEnc p'.events := by
      have := h.1
      change [V.str p.name, slEnc p.vars, slEnc p.events] = [V.str p'.name, slEnc p'.vars, slEnc p'.events] at this
      simp only [List.cons.injEq] at this
      exact this.2.2.1
    simp only [procsFrom, List.map_append, evs_same i _ _ 0 (rows_of h1), procs_same ps ps' (i + 1) h.2]
def Hands (f : FuncId) (g : FuncId) (a b : List V) (xs : List (List V)) : Prop := ∃ (t : Trace) (its : List (EventId × Event)), g = f ∧ a = [] ∧ b = [.fptr (cells t)] ∧ trace_items t = some its ∧ xs = its.map eI
theorem Hands.uniq {f g : FuncId} {a b : List V} {xs ys : List (List V)} (h : Hands f g a b xs) (k : Hands f g a b ys) : xs = ys := by
  obtain ⟨t, its, rfl, rfl, rfl, h1, rfl⟩ := h
  obtain ⟨t', its', _, _, h2, h3, rfl⟩ := k
  simp only [List.cons.injEq, V.fptr.injEq, and_true] at h2
  have h4 : slEnc t.procs = slEnc t'.procs := by
    change [slEnc t.procs] = [slEnc t'.procs] at h2
    simpa using h2
  unfold trace_items at h1 h3
  split at h1 <;> split at h3 <;> simp only [Option.some.injEq, reduceCtorEq] at h1 h3
  subst h1 h3
  exact procs_same _ _ 0 (rows_of h4)
end trace_events_c1
end Go.VE
namespace Go.VE
instance : Dat Assign where
  wt x := Dat.wt x.var + Dat.wt x.value + 1
  ok x := Dat.ok x.var ∧ Dat.ok x.value ∧ True
instance : Dat Event where
  wt x := Dat.wt x.kind + Dat.wt x.peer + Dat.wt x.message + Dat.wt x.time + Dat.wt x.assign + 1
  ok x := Dat.ok x.kind ∧ Dat.ok x.peer ∧ Dat.ok x.message ∧ Dat.ok x.time ∧ Dat.ok x.assign ∧ True
instance : Dat Var where
  wt x := Dat.wt x.name + Dat.wt x.init_ + 1
  ok x := Dat.ok x.name ∧ Dat.ok x.init_ ∧ True
instance : Dat Proc where
  wt x := Dat.wt x.name + Dat.wt x.vars + Dat.wt x.events + 1
  ok x := Dat.ok x.name ∧ Dat.ok x.vars ∧ Dat.ok x.events ∧ True
instance : Dat Trace where
  wt x := Dat.wt x.procs + 1
  ok x := Dat.ok x.procs ∧ True
instance : Dat Slice where
  wt x := Dat.wt x.empty + Dat.wt x.first + Dat.wt x.last + Dat.wt x.j + 1
  ok x := Dat.ok x.empty ∧ Dat.ok x.first ∧ Dat.ok x.last ∧ Dat.ok x.j ∧ True
end Go.VE
namespace Go.VE.Ytnfakljmdnbipaa
open Go.Proofs Go.Proofs.Ytnfakljmdnbipaa
instance rd9 : Reads Try.prog 9 ByteArray := Reads.str Try.underlying9 (by kernel_rfl)
instance rd3 : Reads Try.prog 3 Int := Reads.int Try.underlying3 (by kernel_rfl)
instance rd117 : Reads Try.prog 117 Var := by
  refine Reads.st Try.underlying117 (by kernel_rfl) rfl ?_
  intro H enc w base spare held fuel cs l hl h
  simp only [List.mapM_cons, List.mapM_nil, Option.pure_def, Option.bind_eq_bind, Option.bind_eq_some_iff, Option.some.injEq] at h
  obtain ⟨x0, h0, ys0, ⟨x1, h1, ys1, rfl, rfl⟩, rfl⟩ := h
  obtain ⟨a0, c0, k0, b0⟩ := Reads.rd (P := Try.prog) (t := 9) (α := ByteArray) (d := x0.1) (ps := x0.2) h0
  rw [show Try.prog.cellsOf 9 = 1 from by kernel_rfl] at c0
  obtain ⟨a1, c1, k1, b1⟩ := Reads.rd (P := Try.prog) (t := 3) (α := Int) (d := x1.1) (ps := x1.2) h1
  rw [show Try.prog.cellsOf 3 = 1 from by kernel_rfl] at c1
  refine ⟨⟨a0, a1⟩, CLR.fin (n := 2) (CLR.seg (o := 1) (n := 1) (CLR.seg (o := 0) (n := 1) (show CLR (snap w) [] (cs.take 0) from by simpa using CLR.nil) c0) c1) hl, ⟨k0, k1, trivial⟩, fun b bo => ?_⟩
  have w0 := b0 b bo
  have w1 := b1 b bo
  show Dat.wt a0 + Dat.wt a1 + 1 ≤ _
  simp only [List.map_cons, List.map_nil, List.sum_cons, List.sum_nil]
  omega
instance rd34 : Reads Try.prog 34 (Sl Var) := Reads.sl (e := 117) Try.underlying34 (by kernel_rfl) (by decide)
instance rd123 : Reads Try.prog 123 Assign := by
  refine Reads.st Try.underlying123 (by kernel_rfl) rfl ?_
  intro H enc w base spare held fuel cs l hl h
  simp only [List.mapM_cons, List.mapM_nil, Option.pure_def, Option.bind_eq_bind, Option.bind_eq_some_iff, Option.some.injEq] at h
  obtain ⟨x0, h0, ys0, ⟨x1, h1, ys1, rfl, rfl⟩, rfl⟩ := h
  obtain ⟨a0, c0, k0, b0⟩ := Reads.rd (P := Try.prog) (t := 3) (α := Int) (d := x0.1) (ps := x0.2) h0
  rw [show Try.prog.cellsOf 3 = 1 from by kernel_rfl] at c0
  obtain ⟨a1, c1, k1, b1⟩ := Reads.rd (P := Try.prog) (t := 3) (α := Int) (d := x1.1) (ps := x1.2) h1
  rw [show Try.prog.cellsOf 3 = 1 from by kernel_rfl] at c1
  refine ⟨⟨a0, a1⟩, CLR.fin (n := 2) (CLR.seg (o := 1) (n := 1) (CLR.seg (o := 0) (n := 1) (show CLR (snap w) [] (cs.take 0) from by simpa using CLR.nil) c0) c1) hl, ⟨k0, k1, trivial⟩, fun b bo => ?_⟩
  have w0 := b0 b bo
  have w1 := b1 b bo
  show Dat.wt a0 + Dat.wt a1 + 1 ≤ _
  simp only [List.map_cons, List.map_nil, List.sum_cons, List.sum_nil]
  omega
instance rd38 : Reads Try.prog 38 (Sl Assign) := Reads.sl (e := 123) Try.underlying38 (by kernel_rfl) (by decide)
instance rd40 : Reads Try.prog 40 Event := by
  refine Reads.st Try.underlying40 (by kernel_rfl) rfl ?_
  intro H enc w base spare held fuel cs l hl h
  simp only [List.mapM_cons, List.mapM_nil, Option.pure_def, Option.bind_eq_bind, Option.bind_eq_some_iff, Option.some.injEq] at h
  obtain ⟨x0, h0, ys0, ⟨x1, h1, ys1, ⟨x2, h2, ys2, ⟨x3, h3, ys3, ⟨x4, h4, ys4, rfl, rfl⟩, rfl⟩, rfl⟩, rfl⟩, rfl⟩ := h
  obtain ⟨a0, c0, k0, b0⟩ := Reads.rd (P := Try.prog) (t := 3) (α := Int) (d := x0.1) (ps := x0.2) h0
  rw [show Try.prog.cellsOf 3 = 1 from by kernel_rfl] at c0
  obtain ⟨a1, c1, k1, b1⟩ := Reads.rd (P := Try.prog) (t := 3) (α := Int) (d := x1.1) (ps := x1.2) h1
  rw [show Try.prog.cellsOf 3 = 1 from by kernel_rfl] at c1
  obtain ⟨a2, c2, k2, b2⟩ := Reads.rd (P := Try.prog) (t := 3) (α := Int) (d := x2.1) (ps := x2.2) h2
  rw [show Try.prog.cellsOf 3 = 1 from by kernel_rfl] at c2
  obtain ⟨a3, c3, k3, b3⟩ := Reads.rd (P := Try.prog) (t := 3) (α := Int) (d := x3.1) (ps := x3.2) h3
  rw [show Try.prog.cellsOf 3 = 1 from by kernel_rfl] at c3
  obtain ⟨a4, c4, k4, b4⟩ := Reads.rd (P := Try.prog) (t := 38) (α := (Sl Assign)) (d := x4.1) (ps := x4.2) h4
  rw [show Try.prog.cellsOf 38 = 1 from by kernel_rfl] at c4
  refine ⟨⟨a0, a1, a2, a3, a4⟩, CLR.fin (n := 5) (CLR.seg (o := 4) (n := 1) (CLR.seg (o := 3) (n := 1) (CLR.seg (o := 2) (n := 1) (CLR.seg (o := 1) (n := 1) (CLR.seg (o := 0) (n := 1) (show CLR (snap w) [] (cs.take 0) from by simpa using CLR.nil) c0) c1) c2) c3) c4) hl, ⟨k0, k1, k2, k3, k4, trivial⟩, fun b bo => ?_⟩
  have w0 := b0 b bo
  have w1 := b1 b bo
  have w2 := b2 b bo
  have w3 := b3 b bo
  have w4 := b4 b bo
  show Dat.wt a0 + Dat.wt a1 + Dat.wt a2 + Dat.wt a3 + Dat.wt a4 + 1 ≤ _
  simp only [List.map_cons, List.map_nil, List.sum_cons, List.sum_nil]
  omega
instance rd35 : Reads Try.prog 35 (Sl Event) := Reads.sl (e := 40) Try.underlying35 (by kernel_rfl) (by decide)
instance rd37 : Reads Try.prog 37 Proc := by
  refine Reads.st Try.underlying37 (by kernel_rfl) rfl ?_
  intro H enc w base spare held fuel cs l hl h
  simp only [List.mapM_cons, List.mapM_nil, Option.pure_def, Option.bind_eq_bind, Option.bind_eq_some_iff, Option.some.injEq] at h
  obtain ⟨x0, h0, ys0, ⟨x1, h1, ys1, ⟨x2, h2, ys2, rfl, rfl⟩, rfl⟩, rfl⟩ := h
  obtain ⟨a0, c0, k0, b0⟩ := Reads.rd (P := Try.prog) (t := 9) (α := ByteArray) (d := x0.1) (ps := x0.2) h0
  rw [show Try.prog.cellsOf 9 = 1 from by kernel_rfl] at c0
  obtain ⟨a1, c1, k1, b1⟩ := Reads.rd (P := Try.prog) (t := 34) (α := (Sl Var)) (d := x1.1) (ps := x1.2) h1
  rw [show Try.prog.cellsOf 34 = 1 from by kernel_rfl] at c1
  obtain ⟨a2, c2, k2, b2⟩ := Reads.rd (P := Try.prog) (t := 35) (α := (Sl Event)) (d := x2.1) (ps := x2.2) h2
  rw [show Try.prog.cellsOf 35 = 1 from by kernel_rfl] at c2
  refine ⟨⟨a0, a1, a2⟩, CLR.fin (n := 3) (CLR.seg (o := 2) (n := 1) (CLR.seg (o := 1) (n := 1) (CLR.seg (o := 0) (n := 1) (show CLR (snap w) [] (cs.take 0) from by simpa using CLR.nil) c0) c1) c2) hl, ⟨k0, k1, k2, trivial⟩, fun b bo => ?_⟩
  have w0 := b0 b bo
  have w1 := b1 b bo
  have w2 := b2 b bo
  show Dat.wt a0 + Dat.wt a1 + Dat.wt a2 + 1 ≤ _
  simp only [List.map_cons, List.map_nil, List.sum_cons, List.sum_nil]
  omega
instance rd22 : Reads Try.prog 22 (Sl Proc) := Reads.sl (e := 37) Try.underlying22 (by kernel_rfl) (by decide)
instance rd24 : Reads Try.prog 24 Trace := by
  refine Reads.st Try.underlying24 (by kernel_rfl) rfl ?_
  intro H enc w base spare held fuel cs l hl h
  simp only [List.mapM_cons, List.mapM_nil, Option.pure_def, Option.bind_eq_bind, Option.bind_eq_some_iff, Option.some.injEq] at h
  obtain ⟨x0, h0, ys0, rfl, rfl⟩ := h
  obtain ⟨a0, c0, k0, b0⟩ := Reads.rd (P := Try.prog) (t := 22) (α := (Sl Proc)) (d := x0.1) (ps := x0.2) h0
  rw [show Try.prog.cellsOf 22 = 1 from by kernel_rfl] at c0
  refine ⟨⟨a0⟩, CLR.fin (n := 1) (CLR.seg (o := 0) (n := 1) (show CLR (snap w) [] (cs.take 0) from by simpa using CLR.nil) c0) hl, ⟨k0, trivial⟩, fun b bo => ?_⟩
  have w0 := b0 b bo
  show Dat.wt a0 + 1 ≤ _
  simp only [List.map_cons, List.map_nil, List.sum_cons, List.sum_nil]
  omega
def nTab : List (Nat × Nat) := [(1, 6), (2, 35), (3, 26), (4, 27), (5, 7), (6, 48), (7, 94), (8, 95), (9, 72), (10, 74), (11, 96), (12, 73), (13, 76), (14, 97), (15, 75), (16, 49), (18, 50), (19, 78), (20, 80), (21, 98), (22, 79), (23, 51), (24, 91), (25, 68), (26, 44), (27, 81), (28, 52), (29, 28), (30, 8), (31, 34), (32, 36), (33, 13), (34, 22), (35, 5), (17, 77)]
def nInv : List (Nat × Nat) := [(6, 1), (35, 2), (26, 3), (27, 4), (7, 5), (48, 6), (94, 7), (95, 8), (72, 9), (74, 10), (96, 11), (73, 12), (76, 13), (97, 14), (75, 15), (49, 16), (50, 18), (78, 19), (80, 20), (98, 21), (79, 22), (51, 23), (91, 24), (68, 25), (44, 26), (81, 27), (52, 28), (28, 29), (8, 30), (34, 31), (36, 32), (13, 33), (22, 34), (5, 35), (77, 17)]
def nOf (n : Nat) : FuncId := (lk nTab n).getD 0
def nmOf (g : FuncId) : Option Nat := (lk nInv g).bind fun s => bif Nat.beq (nOf s) g then some s else none
noncomputable def Sy : Sys := ⟨E, nOf, itemsOf (trace_events_c1.Hands 77), orcOf 6⟩
def tTab : List (Nat × RF) := [(35, slices_IndexFunc_Event.text), (26, slices_ContainsFunc_Event.text), (27, alaw40_size_c1.text), (7, alaw40_size.text), (48, trace_in.text), (94, trace_letter.text), (95, trace_digit.text), (72, trace_isName.text), (74, trace_processFault_c1.text), (96, slices_IndexFunc_Proc.text), (73, slices_ContainsFunc_Proc.text), (76, trace_processFault_c2.text), (97, slices_IndexFunc_Var.text), (75, slices_ContainsFunc_Var.text), (49, trace_processFault.text), (50, trace_events.text), (78, trace_formed.text), (80, trace_eventFault_c1.text), (98, slices_IndexFunc_Assign.text), (79, slices_ContainsFunc_Assign.text), (51, trace_eventFault.text), (91, trace_sends_c1.text), (68, trace_sends.text), (44, trace_messageFault.text), (81, trace_after.text), (52, trace_cyclic.text), (28, trace_Fault.text), (8, trace_Valid.text), (34, channel_check.text), (36, channel_Fifo_c1.text), (13, channel_Fifo.text), (22, trace_Fifo.text), (5, alaw40_ChannelFifo.text)]
def Tx : Tab := lk tTab
theorem res35 : ∃ fi, E.ft 35 = some fi ∧ IsRes E nmOf fi slices_IndexFunc_Event.text := res_of (by kernel_rfl)
theorem res26 : ∃ fi, E.ft 26 = some fi ∧ IsRes E nmOf fi slices_ContainsFunc_Event.text := res_of (by kernel_rfl)
theorem res27 : ∃ fi, E.ft 27 = some fi ∧ IsRes E nmOf fi alaw40_size_c1.text := res_of (by kernel_rfl)
theorem res7 : ∃ fi, E.ft 7 = some fi ∧ IsRes E nmOf fi alaw40_size.text := res_of (by kernel_rfl)
theorem res48 : ∃ fi, E.ft 48 = some fi ∧ IsRes E nmOf fi trace_in.text := res_of (by kernel_rfl)
theorem res94 : ∃ fi, E.ft 94 = some fi ∧ IsRes E nmOf fi trace_letter.text := res_of (by kernel_rfl)
theorem res95 : ∃ fi, E.ft 95 = some fi ∧ IsRes E nmOf fi trace_digit.text := res_of (by kernel_rfl)
theorem res72 : ∃ fi, E.ft 72 = some fi ∧ IsRes E nmOf fi trace_isName.text := res_of (by kernel_rfl)
theorem res74 : ∃ fi, E.ft 74 = some fi ∧ IsRes E nmOf fi trace_processFault_c1.text := res_of (by kernel_rfl)
theorem res96 : ∃ fi, E.ft 96 = some fi ∧ IsRes E nmOf fi slices_IndexFunc_Proc.text := res_of (by kernel_rfl)
theorem res73 : ∃ fi, E.ft 73 = some fi ∧ IsRes E nmOf fi slices_ContainsFunc_Proc.text := res_of (by kernel_rfl)
theorem res76 : ∃ fi, E.ft 76 = some fi ∧ IsRes E nmOf fi trace_processFault_c2.text := res_of (by kernel_rfl)
theorem res97 : ∃ fi, E.ft 97 = some fi ∧ IsRes E nmOf fi slices_IndexFunc_Var.text := res_of (by kernel_rfl)
theorem res75 : ∃ fi, E.ft 75 = some fi ∧ IsRes E nmOf fi slices_ContainsFunc_Var.text := res_of (by kernel_rfl)
theorem res49 : ∃ fi, E.ft 49 = some fi ∧ IsRes E nmOf fi trace_processFault.text := res_of (by kernel_rfl)
theorem res50 : ∃ fi, E.ft 50 = some fi ∧ IsRes E nmOf fi trace_events.text := res_of (by kernel_rfl)
theorem res78 : ∃ fi, E.ft 78 = some fi ∧ IsRes E nmOf fi trace_formed.text := res_of (by kernel_rfl)
theorem res80 : ∃ fi, E.ft 80 = some fi ∧ IsRes E nmOf fi trace_eventFault_c1.text := res_of (by kernel_rfl)
theorem res98 : ∃ fi, E.ft 98 = some fi ∧ IsRes E nmOf fi slices_IndexFunc_Assign.text := res_of (by kernel_rfl)
theorem res79 : ∃ fi, E.ft 79 = some fi ∧ IsRes E nmOf fi slices_ContainsFunc_Assign.text := res_of (by kernel_rfl)
theorem res51 : ∃ fi, E.ft 51 = some fi ∧ IsRes E nmOf fi trace_eventFault.text := res_of (by kernel_rfl)
theorem res91 : ∃ fi, E.ft 91 = some fi ∧ IsRes E nmOf fi trace_sends_c1.text := res_of (by kernel_rfl)
theorem res68 : ∃ fi, E.ft 68 = some fi ∧ IsRes E nmOf fi trace_sends.text := res_of (by kernel_rfl)
theorem res44 : ∃ fi, E.ft 44 = some fi ∧ IsRes E nmOf fi trace_messageFault.text := res_of (by kernel_rfl)
theorem res81 : ∃ fi, E.ft 81 = some fi ∧ IsRes E nmOf fi trace_after.text := res_of (by kernel_rfl)
theorem res52 : ∃ fi, E.ft 52 = some fi ∧ IsRes E nmOf fi trace_cyclic.text := res_of (by kernel_rfl)
theorem res28 : ∃ fi, E.ft 28 = some fi ∧ IsRes E nmOf fi trace_Fault.text := res_of (by kernel_rfl)
theorem res8 : ∃ fi, E.ft 8 = some fi ∧ IsRes E nmOf fi trace_Valid.text := res_of (by kernel_rfl)
theorem res34 : ∃ fi, E.ft 34 = some fi ∧ IsRes E nmOf fi channel_check.text := res_of (by kernel_rfl)
theorem res36 : ∃ fi, E.ft 36 = some fi ∧ IsRes E nmOf fi channel_Fifo_c1.text := res_of (by kernel_rfl)
theorem res13 : ∃ fi, E.ft 13 = some fi ∧ IsRes E nmOf fi channel_Fifo.text := res_of (by kernel_rfl)
theorem res22 : ∃ fi, E.ft 22 = some fi ∧ IsRes E nmOf fi trace_Fifo.text := res_of (by kernel_rfl)
theorem res5 : ∃ fi, E.ft 5 = some fi ∧ IsRes E nmOf fi alaw40_ChannelFifo.text := res_of (by kernel_rfl)
theorem res77 : ∃ fi, E.ft 77 = some fi ∧ IsRes E nmOf fi trace_events_c1.text := res_of (by kernel_rfl)
theorem tabOk : TabOk Sy Tx where
  fn f rf h := by
    have key : ∀ p ∈ tTab, ∃ fi, E.ft p.1 = some fi ∧ IsRes E nmOf fi p.2 := by
      unfold tTab
      simp only [List.forall_mem_cons]
      exact ⟨res35, res26, res27, res7, res48, res94, res95, res72, res74, res96, res73, res76, res97, res75, res49, res50, res78, res80, res98, res79, res51, res91, res68, res44, res81, res52, res28, res8, res34, res36, res13, res22, res5, by simp⟩
    obtain ⟨fi, h1, h2⟩ := key (f, rf) (lk_mem (l := tTab) h)
    exact ⟨fi, nmOf, h1, nm_ok nOf (lk nInv), h2⟩
  orc f bs y h := orcOf_ok awake_runs h
theorem itemsOk : ∀ f a b xs, Sy.items f a b = some xs → IterSound Sy f a b xs := by
  intro f a b xs h
  obtain ⟨t, its, rfl, rfl, rfl, h1, rfl⟩ := itemsOf_ok h
  obtain ⟨fi, h2, h3⟩ := res77
  exact iter_run Sy h2 (nm_ok nOf (lk nInv)) h3 (Nat.le_of_ble_eq_true rfl) rfl fun ws more hw y => trace_events_c1.all t its h1 ws more hw y
theorem items_it (t : Trace) (its : List (EventId × Event)) (h : trace_items t = some its) : Sy.items (Sy.N 17) [] [.fptr (cells t)] = some (its.map fun x : EventId × Event => [enc x.1, enc x.2]) :=
  itemsOf_eq ⟨t, its, rfl, rfl, rfl, h, rfl⟩ fun ys hy => hy.uniq ⟨t, its, rfl, rfl, rfl, h, rfl⟩
instance iF1 : F_alaw40_awake Sy Tx where
  t := by kernel_rfl
  k := by kernel_rfl
  o := by kernel_rfl
instance iF2 : F_slices_IndexFunc_Event Sy Tx where
  t := by kernel_rfl
  k := by kernel_rfl
instance iF3 : F_slices_ContainsFunc_Event Sy Tx where
  t := by kernel_rfl
  k := by kernel_rfl
  c0 := iF2
instance iF4 : F_alaw40_size_c1 Sy Tx where
  t := by kernel_rfl
  k := by kernel_rfl
instance iF5 : F_alaw40_size Sy Tx where
  t := by kernel_rfl
  k := by kernel_rfl
  c0 := iF4
  c1 := iF3
instance iF6 : F_trace_in Sy Tx where
  t := by kernel_rfl
  k := by kernel_rfl
instance iF7 : F_trace_letter Sy Tx where
  t := by kernel_rfl
  k := by kernel_rfl
instance iF8 : F_trace_digit Sy Tx where
  t := by kernel_rfl
  k := by kernel_rfl
instance iF9 : F_trace_isName Sy Tx where
  t := by kernel_rfl
  k := by kernel_rfl
  c0 := iF8
  c1 := iF7
instance iF10 : F_trace_processFault_c1 Sy Tx where
  t := by kernel_rfl
  k := by kernel_rfl
instance iF11 : F_slices_IndexFunc_Proc Sy Tx where
  t := by kernel_rfl
  k := by kernel_rfl
instance iF12 : F_slices_ContainsFunc_Proc Sy Tx where
  t := by kernel_rfl
  k := by kernel_rfl
  c0 := iF11
instance iF13 : F_trace_processFault_c2 Sy Tx where
  t := by kernel_rfl
  k := by kernel_rfl
instance iF14 : F_slices_IndexFunc_Var Sy Tx where
  t := by kernel_rfl
  k := by kernel_rfl
instance iF15 : F_slices_ContainsFunc_Var Sy Tx where
  t := by kernel_rfl
  k := by kernel_rfl
  c0 := iF14
instance iF16 : F_trace_processFault Sy Tx where
  t := by kernel_rfl
  k := by kernel_rfl
  c0 := iF6
  c1 := iF9
  c2 := iF10
  c3 := iF13
  c4 := iF12
  c5 := iF15
instance iF18 : F_trace_events Sy Tx where
  t := by kernel_rfl
  k := by kernel_rfl
instance iF19 : F_trace_formed Sy Tx where
  t := by kernel_rfl
  k := by kernel_rfl
  c0 := iF6
instance iF20 : F_trace_eventFault_c1 Sy Tx where
  t := by kernel_rfl
  k := by kernel_rfl
instance iF21 : F_slices_IndexFunc_Assign Sy Tx where
  t := by kernel_rfl
  k := by kernel_rfl
instance iF22 : F_slices_ContainsFunc_Assign Sy Tx where
  t := by kernel_rfl
  k := by kernel_rfl
  c0 := iF21
instance iF23 : F_trace_eventFault Sy Tx where
  t := by kernel_rfl
  k := by kernel_rfl
  c0 := iF20
  c1 := iF19
  c2 := iF6
  c3 := iF22
instance iF24 : F_trace_sends_c1 Sy Tx where
  t := by kernel_rfl
  k := by kernel_rfl
instance iF25 : F_trace_sends Sy Tx where
  t := by kernel_rfl
  k := by kernel_rfl
  c0 := iF24
  c1 := iF3
instance iF26 : F_trace_messageFault Sy Tx where
  t := by kernel_rfl
  k := by kernel_rfl
  c0 := iF18
  c1 := iF25
  i0 := items_it
instance iF27 : F_trace_after Sy Tx where
  t := by kernel_rfl
  k := by kernel_rfl
instance iF28 : F_trace_cyclic Sy Tx where
  t := by kernel_rfl
  k := by kernel_rfl
  c0 := iF27
  c1 := iF18
  i0 := items_it
instance iF29 : F_trace_Fault Sy Tx where
  t := by kernel_rfl
  k := by kernel_rfl
  c0 := iF28
  c1 := iF23
  c2 := iF18
  c3 := iF6
  c4 := iF26
  c5 := iF16
  i0 := items_it
instance iF30 : F_trace_Valid Sy Tx where
  t := by kernel_rfl
  k := by kernel_rfl
  c0 := iF29
instance iF31 : F_channel_check Sy Tx where
  t := by kernel_rfl
  k := by kernel_rfl
  c0 := iF30
instance iF32 : F_channel_Fifo_c1 Sy Tx where
  t := by kernel_rfl
  k := by kernel_rfl
instance iF33 : F_channel_Fifo Sy Tx where
  t := by kernel_rfl
  k := by kernel_rfl
  c0 := iF32
  c1 := iF31
  c2 := iF2
instance iF34 : F_trace_Fifo Sy Tx where
  t := by kernel_rfl
  k := by kernel_rfl
  c0 := iF30
  c1 := iF26
instance iF35 : F_alaw40_ChannelFifo Sy Tx where
  t := by kernel_rfl
  k := by kernel_rfl
  c0 := iF1
  c1 := iF5
  c2 := iF33
  c3 := iF34
  c4 := iF30
end Go.VE.Ytnfakljmdnbipaa
namespace Go.VE
abbrev Tot {α : Type} (m : Option α) : Prop := Wp m fun _ => True
theorem Tot.get {α : Type} {m : Option α} (h : Tot m) : ∃ a, m = some a := let ⟨a, e, _⟩ := h; ⟨a, e⟩
theorem Tot.ok {m : Option Bool} (h : Tot m) : m = some (m.getD false) := by obtain ⟨a, e, _⟩ := h; rw [e]; rfl
def Small (t : Trace) : Prop := t.procs.l.length < 1073741824 ∧ ∀ p ∈ t.procs.l, p.events.l.length < 1073741824 ∧ p.vars.l.length < 1073741824 ∧ p.name.size < 1073741824 ∧ (∀ v ∈ p.vars.l, v.name.size < 1073741824) ∧ ∀ e ∈ p.events.l, e.assign.l.length < 1073741824
section
theorem indexEvent {s : Sl Event} {p : Event → Option Bool} {f : Event → Bool} (hp : ∀ x ∈ s.l, p x = some (f x)) (hl : s.l.length < 1073741824) : slices_IndexFunc_Event s p = some (place f s.l) :=
  search_eq hp (by omega) (fun i => rfl)
theorem indexProc {s : Sl Proc} {p : Proc → Option Bool} {f : Proc → Bool} (hp : ∀ x ∈ s.l, p x = some (f x)) (hl : s.l.length < 1073741824) : slices_IndexFunc_Proc s p = some (place f s.l) :=
  search_eq hp (by omega) (fun i => rfl)
theorem indexVar {s : Sl Var} {p : Var → Option Bool} {f : Var → Bool} (hp : ∀ x ∈ s.l, p x = some (f x)) (hl : s.l.length < 1073741824) : slices_IndexFunc_Var s p = some (place f s.l) :=
  search_eq hp (by omega) (fun i => rfl)
theorem indexAssign {s : Sl Assign} {p : Assign → Option Bool} {f : Assign → Bool} (hp : ∀ x ∈ s.l, p x = some (f x)) (hl : s.l.length < 1073741824) : slices_IndexFunc_Assign s p = some (place f s.l) :=
  search_eq hp (by omega) (fun i => rfl)
theorem containsEvent {s : Sl Event} {p : Event → Option Bool} {f : Event → Bool} (hp : ∀ x ∈ s.l, p x = some (f x)) (hl : s.l.length < 1073741824) : slices_ContainsFunc_Event s p = some (s.l.any f) := by
  unfold slices_ContainsFunc_Event; rw [indexEvent hp hl, Option.bind_some, place_any]
theorem containsProc {s : Sl Proc} {p : Proc → Option Bool} {f : Proc → Bool} (hp : ∀ x ∈ s.l, p x = some (f x)) (hl : s.l.length < 1073741824) : slices_ContainsFunc_Proc s p = some (s.l.any f) := by
  unfold slices_ContainsFunc_Proc; rw [indexProc hp hl, Option.bind_some, place_any]
theorem containsVar {s : Sl Var} {p : Var → Option Bool} {f : Var → Bool} (hp : ∀ x ∈ s.l, p x = some (f x)) (hl : s.l.length < 1073741824) : slices_ContainsFunc_Var s p = some (s.l.any f) := by
  unfold slices_ContainsFunc_Var; rw [indexVar hp hl, Option.bind_some, place_any]
theorem containsAssign {s : Sl Assign} {p : Assign → Option Bool} {f : Assign → Bool} (hp : ∀ x ∈ s.l, p x = some (f x)) (hl : s.l.length < 1073741824) : slices_ContainsFunc_Assign s p = some (s.l.any f) := by
  unfold slices_ContainsFunc_Assign; rw [indexAssign hp hl, Option.bind_some, place_any]
theorem trace_in_eq (x lo hi : Int) : trace_in x lo hi = some (decide (lo ≤ x) && decide (x ≤ hi)) := by
  unfold trace_in; rw [cif_and]; rfl
theorem letter_tot (c : Int) : Tot (trace_letter c) := by
  unfold trace_letter
  simp only [cif_and, cif_or, Option.bind_some, Tot, Wp_some]
theorem digit_tot (c : Int) : Tot (trace_digit c) := by
  unfold trace_digit
  simp only [cif_and, cif_or, Option.bind_some, Tot, Wp_some]
theorem strIdx_tot {s : ByteArray} {i : Nat} (h : i < s.size) : ∃ x, strIdx s (i : Int) = some x := by
  unfold strIdx
  rw [if_pos (by omega)]
  exact ⟨_, by rw [show (s[(i : Int).toNat]?) = some s[i] from by simp [h]]; rfl⟩
theorem isName_tot (s : ByteArray) (hs : s.size < 1073741824) : Tot (trace_isName s) := by
  unfold trace_isName
  simp only [cif_or, Option.bind_some]
  rw [Tot, Wp_bind]
  have h1 : Tot (cif (ByteArray.toList s == ByteArray.toList ByteArray.empty || decide (((ByteArray.size s : Nat) : Int) > 16)) (some true)
     ((strIdx s 0).bind fun x_2 => (trace_letter x_2).bind fun x_3 => some (!x_3))) := by
    rw [Tot, Wp_cif]
    refine ⟨fun _ => (Wp_some _).2 trivial, fun h => ?_⟩
    have h0 : 0 < s.size := by
      simp only [Bool.or_eq_false_iff, beq_eq_false_iff_ne, ne_eq] at h
      apply Classical.byContradiction
      intro hn
      apply h.1
      have : s = ByteArray.empty := by
        apply ByteArray.ext
        apply Array.eq_empty_of_size_eq_zero
        show s.size = 0
        omega
      rw [this]
    obtain ⟨x, hx⟩ := strIdx_tot h0
    rw [show (0 : Int) = ((0 : Nat) : Int) from rfl, hx, Option.bind_some]
    obtain ⟨y, hy⟩ := (letter_tot x).get
    rw [hy, Option.bind_some, Wp_some]; trivial
  refine h1.mono fun b _ => ?_
  rw [Wp_cif]
  refine ⟨fun _ => (Wp_some _).2 trivial, fun _ => ?_⟩
  unfold trace_isName.W1
  refine Wp_loop (fun i : Int => ∃ n : Nat, i = n ∧ n ≤ s.size) (fun i : Int => s.size - i.toNat) ⟨0, rfl, Nat.zero_le _⟩ ?_
  rintro i ⟨n, rfl, hn⟩
  unfold trace_isName.W1_step
  rw [Wp_cif]
  refine ⟨fun h => ?_, fun _ => (Wp_some _).2 ((Wp_some _).2 trivial)⟩
  have hlt : n < s.size := by simpa using h
  obtain ⟨x, hx⟩ := strIdx_tot hlt
  obtain ⟨y, hy⟩ := (letter_tot x).get
  obtain ⟨z, hz⟩ := (digit_tot x).get
  simp only [hx, hy, hz, Option.bind_some]
  rw [Wp_bind, Wp_cif]
  refine ⟨fun _ => (Wp_some _).2 ?_, fun _ => (Wp_some _).2 ?_⟩ <;>
  · rw [Wp_bind, Wp_cif]
    refine ⟨fun _ => (Wp_some _).2 ?_, fun _ => (Wp_some _).2 ?_⟩ <;>
    · rw [Wp_cif]
      refine ⟨fun _ => (Wp_some _).2 ((Wp_some _).2 trivial), fun _ => (Wp_some _).2 ?_⟩
      exact ⟨⟨n + 1, wrapN n (by omega), by omega⟩, by rw [wrapN n (by omega)]; simp; omega⟩
theorem processFault_tot {t : Trace} (hS : Small t) {p : Nat} (hp : p < t.procs.l.length) : Tot (trace_processFault t p) := by
  unfold trace_processFault
  rw [idx_some hp, Option.bind_some]
  obtain ⟨_, hps⟩ := hS
  obtain ⟨h1, h2, h3, h4, h5⟩ := hps _ (List.getElem_mem hp)
  generalize hx : t.procs.l[p] = x at *
  obtain ⟨b, hb⟩ := (isName_tot x.name h3).get
  obtain ⟨y, hy, hyl⟩ := slPart_to t.procs p (by omega)
  rw [hb, Option.bind_some, hy, Option.bind_some, containsProc (f := fun z => (trace_processFault_c1 z x).getD false) (fun z _ => Tot.ok ((Wp_some _).2 trivial)) (by rw [hyl]; simp; omega), Option.bind_some, cif_some, Option.bind_some, Tot, Wp_cif]
  refine ⟨fun _ => (Wp_some _).2 trivial, fun _ => ?_⟩
  rw [Wp_cif]
  refine ⟨fun _ => (Wp_some _).2 trivial, fun _ => ?_⟩
  unfold trace_processFault.W1
  refine Wp_loop (fun i : Int => ∃ n : Nat, i = n ∧ n ≤ x.vars.l.length) (fun i : Int => x.vars.l.length - i.toNat) ⟨0, rfl, Nat.zero_le _⟩ ?_
  rintro i ⟨n, rfl, hn⟩
  unfold trace_processFault.W1_step
  rw [Wp_cif]
  refine ⟨fun h => ?_, fun _ => (Wp_some _).2 ?_⟩
  · have hlt : n < x.vars.l.length := by simpa [len] using h
    rw [idx_some hlt, Option.bind_some]
    obtain ⟨b', hb'⟩ := (isName_tot x.vars.l[n].name (h4 _ (List.getElem_mem hlt))).get
    obtain ⟨y', hy', hyl'⟩ := slPart_to x.vars n (by omega)
    rw [hb', Option.bind_some, hy', Option.bind_some, containsVar (f := fun z => (trace_processFault_c2 z x.vars.l[n]).getD false) (fun z _ => Tot.ok ((Wp_some _).2 trivial)) (by rw [hyl']; simp; omega), Option.bind_some, cif_some, Option.bind_some, trace_in_eq, Option.bind_some, Wp_cif]
    refine ⟨fun _ => (Wp_some _).2 ((Wp_some _).2 trivial), fun _ => ?_⟩
    rw [Wp_cif]
    refine ⟨fun _ => (Wp_some _).2 ?_, fun _ => (Wp_some _).2 ((Wp_some _).2 trivial)⟩
    exact ⟨⟨n + 1, wrapN n (by omega), by omega⟩, by rw [wrapN n (by omega)]; simp; omega⟩
  · rw [cif_some]; exact (Wp_some _).2 trivial
def Formed (n : Nat) (p : Int) (e : Event) : Prop := e.kind = 1 ∨ ((e.kind = 2 ∨ e.kind = 3) ∧ 0 ≤ e.peer ∧ e.peer < n ∧ e.peer ≠ p ∧ 0 ≤ e.message ∧ e.message ≤ 199)
theorem formed_wp {t : Trace} (hS : Small t) (p : Int) (e : Event) : Wp (trace_formed t p e) fun b => b = true → Formed t.procs.l.length p e := by
  have hw : IntKind.wrap .i64 ((len t.procs) - 1) = (t.procs.l.length : Int) - 1 := wrapI _ (by simp [len]; omega) (by have := hS.1; simp [len]; omega)
  have j : ∀ b : Bool, (b = true → e.kind = 2 ∨ e.kind = 3) → Wp (trace_formed.J1 p b t e) fun b => b = true → Formed t.procs.l.length p e := by
    intro b hb
    unfold trace_formed.J1
    simp only [trace_in_eq, Option.bind_some, cif_and, hw, Wp_cif, Wp_some]
    intro k
    simp only [Bool.and_eq_true, decide_eq_true_eq, Bool.not_eq_true', beq_eq_false_iff_ne, ne_eq] at k
    exact .inr ⟨hb k.1, k.2.1.1.1, by omega, k.2.1.2, k.2.2.1, k.2.2.2⟩
  unfold trace_formed
  simp only [cif_and, Option.bind_some, Wp_cif, Wp_some]
  refine ⟨fun h _ => .inl (by simpa using h), fun _ => ⟨fun h => j true fun _ => .inl (by simpa using h), fun _ => j _ fun h => .inr (by simpa using h)⟩⟩
end
end Go.VE
namespace Go.VE
def AtE (t : Trace) (p k : Nat) (e : Event) : Prop := ∃ P, t.procs.l[p]? = some P ∧ P.events.l[k]? = some e
theorem mem_evsFrom {p : Int} {x : EventId × Event} : ∀ {es : List Event} {j : Int}, x ∈ evsFrom p j es ↔ ∃ k : Nat, es[k]? = some x.2 ∧ x.1 = ⟨p, j + k + 1⟩
  | [], j => by simp [evsFrom]
  | e :: es, j => by
    simp only [evsFrom, List.mem_cons, mem_evsFrom (es := es)]
    constructor
    · rintro (rfl | ⟨k, h1, h2⟩)
      · exact ⟨0, rfl, by simp⟩
      · exact ⟨k + 1, by simpa using h1, by rw [h2]; congr 1; push_cast; omega⟩
    · rintro ⟨k, h1, h2⟩
      cases k with
      | zero =>
        simp at h1
        exact .inl (by obtain ⟨a, b⟩ := x; simp only at h1 h2; rw [h1, h2]; simp)
      | succ k => exact .inr ⟨k, by simpa using h1, by rw [h2]; congr 1; push_cast; omega⟩
theorem mem_procsFrom {x : EventId × Event} : ∀ {ps : List Proc} {i : Int}, x ∈ procsFrom i ps ↔ ∃ (a k : Nat) (P : Proc), ps[a]? = some P ∧ P.events.l[k]? = some x.2 ∧ x.1 = ⟨i + a, k + 1⟩
  | [], i => by simp [procsFrom]
  | p :: ps, i => by
    simp only [procsFrom, List.mem_append, mem_evsFrom, mem_procsFrom (ps := ps)]
    constructor
    · rintro (⟨k, h1, h2⟩ | ⟨a, k, P, h1, h2, h3⟩)
      · exact ⟨0, k, p, rfl, h1, by rw [h2]; simp⟩
      · exact ⟨a + 1, k, P, by simpa using h1, h2, by rw [h3]; congr 1; push_cast; omega⟩
    · rintro ⟨a, k, P, h1, h2, h3⟩
      cases a with
      | zero =>
        simp at h1; subst h1
        exact .inl ⟨k, h2, by rw [h3]; simp⟩
      | succ a => exact .inr ⟨a, k, P, by simpa using h1, h2, by rw [h3]; congr 1; push_cast; omega⟩
abbrev evts (t : Trace) : List (EventId × Event) := procsFrom 0 t.procs.l
theorem mem_evts {t : Trace} {x : EventId × Event} : x ∈ evts t ↔ ∃ p k : Nat, AtE t p k x.2 ∧ x.1 = ⟨p, k + 1⟩ := by
  unfold evts
  rw [mem_procsFrom]
  constructor
  · rintro ⟨a, k, P, h1, h2, h3⟩; exact ⟨a, k, ⟨P, h1, h2⟩, by rw [h3]; simp⟩
  · rintro ⟨a, k, ⟨P, h1, h2⟩, h3⟩; exact ⟨a, k, P, h1, h2, by rw [h3]; simp⟩
theorem items_some {t : Trace} (hS : Small t) : trace_items t = some (evts t) := by
  unfold trace_items
  rw [if_pos]
  simp only [okLen, Bool.and_eq_true, List.all_eq_true, decide_eq_true_eq]
  exact ⟨by have := hS.1; omega, fun p hp => by have := (hS.2 p hp).1; omega⟩
theorem eventFault_wp {t : Trace} (hS : Small t) {p k : Nat} {e : Event} (h : AtE t p k e) : Wp (trace_eventFault t ⟨p, k + 1⟩ e) fun r => r = 0 → Formed t.procs.l.length p e := by
  obtain ⟨P, hP, hk⟩ := h
  have hPm : P ∈ t.procs.l := List.mem_of_getElem? hP
  obtain ⟨h1, h2, h3, h4, h5⟩ := hS.2 P hPm
  have hkl : k < P.events.l.length := (List.getElem?_eq_some_iff.1 hk).1
  have hem : e ∈ P.events.l := List.mem_of_getElem? hk
  have j : ∀ last : Int, Wp (trace_eventFault.J1 last t ⟨p, k + 1⟩ e P) fun r => r = 0 → Formed t.procs.l.length p e := by
    intro last
    unfold trace_eventFault.J1
    rw [Wp_bind]
    refine (formed_wp hS p e).mono fun b hb => ?_
    rw [Wp_cif]
    refine ⟨fun hbt => ?_, fun _ => (Wp_some _).2 fun h => by cases h⟩
    have hf := hb hbt
    simp only [trace_in_eq, Option.bind_some, cif_some]
    refine Wp.mono (P := fun _ => True) ?_ fun _ _ _ => hf
    rw [Wp_cif]
    refine ⟨fun _ => (Wp_some _).2 trivial, fun _ => ?_⟩
    rw [Wp_cif]
    refine ⟨fun _ => (Wp_some _).2 trivial, fun _ => ?_⟩
    unfold trace_eventFault.W2
    refine Wp_loop (fun i : Int => ∃ n : Nat, i = n ∧ n ≤ e.assign.l.length) (fun i : Int => e.assign.l.length - i.toNat) ⟨0, rfl, Nat.zero_le _⟩ ?_
    rintro i ⟨n, rfl, hn⟩
    have hal := h5 e hem
    unfold trace_eventFault.W2_step
    rw [Wp_cif]
    refine ⟨fun h => ?_, fun _ => (Wp_some _).2 ((Wp_some _).2 trivial)⟩
    have hlt : n < e.assign.l.length := by simpa [len] using h
    obtain ⟨y', hy', hyl'⟩ := slPart_to e.assign n (by omega)
    rw [idx_some hlt, Option.bind_some]
    simp only [trace_in_eq, Option.bind_some, cif_some]
    rw [hy', Option.bind_some, containsAssign (f := fun z => (trace_eventFault_c1 z e.assign.l[n]).getD false) (fun z _ => Tot.ok ((Wp_some _).2 trivial)) (by rw [hyl']; simp; omega), Option.bind_some, Wp_cif]
    refine ⟨fun _ => (Wp_some _).2 ((Wp_some _).2 trivial), fun _ => ?_⟩
    rw [Wp_some]
    split
    · exact (Wp_some _).2 trivial
    · exact ⟨⟨n + 1, wrapN n (by omega), by omega⟩, by rw [wrapN n (by omega)]; simp; omega⟩
  unfold trace_eventFault
  rw [show idx t.procs ((⟨(p : Int), (k : Int) + 1⟩ : EventId).proc) = some P from by rw [idxN, hP], Option.bind_some, Wp_cif]
  refine ⟨fun h => ?_, fun _ => j 0⟩
  have hk1 : 1 ≤ k := by have : (k : Int) + 1 > 1 := by simpa using h
                         omega
  have hw : IntKind.wrap .i64 ((⟨(p : Int), (k : Int) + 1⟩ : EventId).index - 2) = ((k - 1 : Nat) : Int) := by
    show IntKind.wrap .i64 ((k : Int) + 1 - 2) = _
    rw [wrapI _ (by omega) (by omega)]; omega
  rw [hw, idx_some (by omega : k - 1 < P.events.l.length), Option.bind_some]
  exact j _
def sendsB (t : Trace) (p m to : Int) : Bool := match t.procs.l[p.toNat]? with
  | some P => P.events.l.any fun e => e.kind == 2 && e.message == m && e.peer == to
  | none => false
theorem sends_eq {t : Trace} (hS : Small t) {p : Int} (h0 : 0 ≤ p) (h1 : p < t.procs.l.length) (m to : Int) : trace_sends t p m to = some (sendsB t p m to) := by
  unfold trace_sends
  have hlt : p.toNat < t.procs.l.length := by omega
  have hP := List.getElem_mem hlt
  rw [idxI h0, List.getElem?_eq_getElem hlt, Option.bind_some, containsEvent (f := fun e => e.kind == 2 && e.message == m && e.peer == to) (fun e _ => by
    unfold trace_sends_c1; simp only [cif_and, Option.bind_some]) (hS.2 _ hP).1, Option.bind_some]
  unfold sendsB
  rw [List.getElem?_eq_getElem hlt]
theorem sendsB_iff {t : Trace} {p : Nat} {m to : Int} : sendsB t p m to = true ↔ ∃ k e, AtE t p k e ∧ e.kind = 2 ∧ e.message = m ∧ e.peer = to := by
  unfold sendsB AtE
  rw [show ((p : Nat) : Int).toNat = p from rfl]
  cases hP : t.procs.l[p]? with
  | none => simp
  | some P =>
    simp only [List.any_eq_true, Bool.and_eq_true, beq_iff_eq, Option.some.injEq, exists_eq_left']
    constructor
    · rintro ⟨e, he, h⟩
      obtain ⟨k, hk⟩ := List.getElem?_of_mem he
      exact ⟨k, e, hk, h.1.1, h.1.2, h.2⟩
    · rintro ⟨k, e, hk, h1, h2, h3⟩
      exact ⟨e, List.mem_of_getElem? hk, ⟨h1, h2⟩, h3⟩
def ag (A : Arr 200 AnFromTo) (m : Int) : AnFromTo := (A.at m).getD default
theorem at_ok (A : Arr 200 AnFromTo) {m : Int} (h0 : 0 ≤ m) (h1 : m ≤ 199) : A.at m = some (ag A m) := by
  have : m.toNat < A.l.length := by rw [A.len]; omega
  unfold ag Arr.at
  rw [if_pos h0, List.getElem?_eq_getElem this]; rfl
theorem ag_set (A : Arr 200 AnFromTo) {m m' : Int} (x : AnFromTo) (h0 : 0 ≤ m) (h1 : m ≤ 199) (h2 : 0 ≤ m') : ag (A.set m x) m' = if m' = m then x else ag A m' := by
  have : m.toNat < A.l.length := by rw [A.len]; omega
  unfold ag Arr.at Arr.set
  simp only [if_pos h2]
  rw [List.getElem?_set]
  by_cases e : m' = m
  · subst e; simp [this]
  · rw [if_neg (by omega), if_neg e]
theorem ag_mk0 {m : Int} (h0 : 0 ≤ m) (h1 : m ≤ 199) : ag (Arr.mk0 200 (⟨⟨0, 0⟩, ⟨0, 0⟩⟩ : AnFromTo)) m = ⟨⟨0, 0⟩, ⟨0, 0⟩⟩ := by
  unfold ag Arr.at Arr.mk0
  simp only [if_pos h0]
  rw [List.getElem?_replicate, if_pos (by omega)]; rfl
structure Msgs (t : Trace) (its : List (EventId × Event)) (A : Arr 200 AnFromTo) : Prop where
  snd : ∀ x ∈ its, x.2.kind = 2 → (ag A x.2.message).from_ = x.1
  rcv : ∀ x ∈ its, x.2.kind = 3 → (ag A x.2.message).to_ = x.1 ∧ sendsB t x.2.peer x.2.message x.1.proc = true
  fr : ∀ m, 0 ≤ m → m ≤ 199 → (ag A m).from_.index = 0 ∨ ∃ e, ((ag A m).from_, e) ∈ its ∧ e.kind = 2 ∧ e.message = m
  to : ∀ m, 0 ≤ m → m ≤ 199 → (ag A m).to_.index = 0 ∨ ∃ e, ((ag A m).to_, e) ∈ its ∧ e.kind = 3 ∧ e.message = m
theorem messageFault_wp {t : Trace} (hS : Small t) (hF : ∀ x ∈ evts t, Formed t.procs.l.length x.1.proc x.2) : Wp (trace_messageFault t) fun r => r.2.2 = 0 → ∃ A, r.1 = some A ∧ Msgs t (evts t) A := by
  unfold trace_messageFault trace_events
  rw [Option.bind_some]
  unfold trace_messageFault.E1
  rw [items_some hS, Option.bind_some]
  refine Wp_each (fun k A => Msgs t ((evts t).take k) A) ⟨by simp, by simp, fun m h0 h1 => .inl (by rw [ag_mk0 h0 h1]), fun m h0 h1 => .inl (by rw [ag_mk0 h0 h1])⟩ ?_ ?_
  · intro k x A hx hI
    have hxm : x ∈ evts t := List.mem_of_getElem? hx
    have hkl : k < (evts t).length := (List.getElem?_eq_some_iff.1 hx).1
    have htk : (evts t).take (k + 1) = (evts t).take k ++ [x] := by rw [List.take_add_one, hx]; rfl
    obtain ⟨p, j, hat, hid⟩ := mem_evts.1 hxm
    have hxi : x.1.index > 0 := by rw [hid]; show (j : Int) + 1 > 0; omega
    have hf := hF x hxm
    unfold trace_messageFault.E1_step
    rw [Wp_cif]
    constructor
    · intro hk
      have hk2 : x.2.kind = 2 := by simpa using hk
      have hm : 0 ≤ x.2.message ∧ x.2.message ≤ 199 := by
        rcases hf with h | ⟨_, _, _, _, h⟩
        · omega
        · exact h
      rw [at_ok A hm.1 hm.2, Option.bind_some, Wp_cif]
      refine ⟨fun _ => (Wp_some _).2 ((Wp_some _).2 fun h => by cases h), fun h0 => ?_⟩
      have h0 : ¬ (ag A x.2.message).from_.index > 0 := by simpa using h0
      rw [Option.bind_some, Wp_some, htk]
      have old : ∀ y ∈ (evts t).take k, y.2.kind = 2 → y.2.message ≠ x.2.message := fun y hy hy2 he => by
        have := hI.snd y hy hy2
        rw [he] at this
        rw [this] at h0
        obtain ⟨p', j', _, hid'⟩ := mem_evts.1 (List.mem_of_mem_take hy)
        rw [hid'] at h0
        exact h0 (by show (j' : Int) + 1 > 0; omega)
      have nn : ∀ y ∈ (evts t).take k, y.2.kind = 2 ∨ y.2.kind = 3 → 0 ≤ y.2.message := fun y hy hy2 => by
        rcases hF y (List.mem_of_mem_take hy) with h | ⟨_, _, _, _, h, _⟩
        · omega
        · exact h
      refine ⟨fun y hy hy2 => ?_, fun y hy hy3 => ?_, fun m m0 m1 => ?_, fun m m0 m1 => ?_⟩
      · rcases List.mem_append.1 hy with hy | hy
        · rw [ag_set A _ hm.1 hm.2 (nn y hy (.inl hy2)), if_neg (old y hy hy2)]
          exact hI.snd y hy hy2
        · simp at hy; subst hy
          rw [ag_set A _ hm.1 hm.2 hm.1, if_pos rfl]
      · rcases List.mem_append.1 hy with hy | hy
        · rw [ag_set A _ hm.1 hm.2 (nn y hy (.inr hy3))]
          have := hI.rcv y hy hy3
          split
          · rename_i e; rw [e] at this; exact ⟨this.1, by rw [e]; exact this.2⟩
          · exact this
        · simp at hy; subst hy; omega
      · rw [ag_set A _ hm.1 hm.2 m0]
        split
        · rename_i e; exact .inr ⟨x.2, by simp, hk2, e.symm⟩
        · exact (hI.fr m m0 m1).imp (fun h => h) fun ⟨e, h1, h2⟩ => ⟨e, List.mem_append_left _ h1, h2⟩
      · rw [ag_set A _ hm.1 hm.2 m0]
        have := (hI.to m m0 m1).imp (fun h => h) fun ⟨e, h1, h2⟩ => (⟨e, List.mem_append_left [x] h1, h2⟩ : ∃ e, ((ag A m).to_, e) ∈ (evts t).take k ++ [x] ∧ e.kind = 3 ∧ e.message = m)
        split
        · rename_i e; subst e; exact this
        · exact this
    · intro hk
      have hk2 : ¬ x.2.kind = 2 := by simpa using hk
      rw [Wp_cif]
      constructor
      · intro hk
        have hk3 : x.2.kind = 3 := by simpa using hk
        have hm : 0 ≤ x.2.message ∧ x.2.message ≤ 199 ∧ 0 ≤ x.2.peer ∧ x.2.peer < t.procs.l.length := by
          rcases hf with h | ⟨_, h1, h2, _, h3, h4⟩
          · omega
          · exact ⟨h3, h4, h1, h2⟩
        rw [at_ok A hm.1 hm.2.1, Option.bind_some, Wp_cif]
        refine ⟨fun _ => (Wp_some _).2 ((Wp_some _).2 fun h => by cases h), fun h0 => ?_⟩
        have h0 : ¬ (ag A x.2.message).to_.index > 0 := by simpa using h0
        rw [sends_eq hS hm.2.2.1 hm.2.2.2, Option.bind_some, Wp_cif]
        refine ⟨fun hs => ?_, fun _ => (Wp_some _).2 ((Wp_some _).2 fun h => by cases h)⟩
        rw [Option.bind_some, Wp_some, htk]
        have old : ∀ y ∈ (evts t).take k, y.2.kind = 3 → y.2.message ≠ x.2.message := fun y hy hy2 he => by
          have := (hI.rcv y hy hy2).1
          rw [he] at this
          rw [this] at h0
          obtain ⟨p', j', _, hid'⟩ := mem_evts.1 (List.mem_of_mem_take hy)
          rw [hid'] at h0
          exact h0 (by show (j' : Int) + 1 > 0; omega)
        have nn : ∀ y ∈ (evts t).take k, y.2.kind = 2 ∨ y.2.kind = 3 → 0 ≤ y.2.message := fun y hy hy2 => by
          rcases hF y (List.mem_of_mem_take hy) with h | ⟨_, _, _, _, h, _⟩
          · omega
          · exact h
        refine ⟨fun y hy hy2 => ?_, fun y hy hy3 => ?_, fun m m0 m1 => ?_, fun m m0 m1 => ?_⟩
        · rcases List.mem_append.1 hy with hy | hy
          · rw [ag_set A _ hm.1 hm.2.1 (nn y hy (.inl hy2))]
            have := hI.snd y hy hy2
            split
            · rename_i e; rw [e] at this; exact this
            · exact this
          · simp at hy; subst hy; omega
        · rcases List.mem_append.1 hy with hy | hy
          · rw [ag_set A _ hm.1 hm.2.1 (nn y hy (.inr hy3)), if_neg (old y hy hy3)]
            exact hI.rcv y hy hy3
          · simp at hy; subst hy
            rw [ag_set A _ hm.1 hm.2.1 hm.1, if_pos rfl]
            exact ⟨rfl, hs⟩
        · rw [ag_set A _ hm.1 hm.2.1 m0]
          have := (hI.fr m m0 m1).imp (fun h => h) fun ⟨e, h1, h2⟩ => (⟨e, List.mem_append_left [x] h1, h2⟩ : ∃ e, ((ag A m).from_, e) ∈ (evts t).take k ++ [x] ∧ e.kind = 2 ∧ e.message = m)
          split
          · rename_i e; subst e; exact this
          · exact this
        · rw [ag_set A _ hm.1 hm.2.1 m0]
          split
          · rename_i e; exact .inr ⟨x.2, by simp, hk3, e.symm⟩
          · exact (hI.to m m0 m1).imp (fun h => h) fun ⟨e, h1, h2⟩ => ⟨e, List.mem_append_left _ h1, h2⟩
      · intro hk
        have hk3 : ¬ x.2.kind = 3 := by simpa using hk
        rw [Wp_some, htk]
        refine ⟨fun y hy hy2 => ?_, fun y hy hy3 => ?_, fun m m0 m1 => ?_, fun m m0 m1 => ?_⟩
        · rcases List.mem_append.1 hy with hy | hy
          · exact hI.snd y hy hy2
          · simp at hy; subst hy; exact absurd hy2 hk2
        · rcases List.mem_append.1 hy with hy | hy
          · exact hI.rcv y hy hy3
          · simp at hy; subst hy; exact absurd hy3 hk3
        · exact (hI.fr m m0 m1).imp (fun h => h) fun ⟨e, h1, h2⟩ => ⟨e, List.mem_append_left _ h1, h2⟩
        · exact (hI.to m m0 m1).imp (fun h => h) fun ⟨e, h1, h2⟩ => ⟨e, List.mem_append_left _ h1, h2⟩
  · intro A hA
    rw [List.take_length] at hA
    exact (Wp_some _).2 fun _ => ⟨A, rfl, hA⟩
end Go.VE
namespace Go.VE
theorem nodup_le {α : Type} [DecidableEq α] : ∀ {l r : List α}, l.Nodup → (∀ x ∈ l, x ∈ r) → l.length ≤ r.length
  | [], _, _, _ => Nat.zero_le _
  | x :: l, r, hn, hs => by
    have hx : x ∈ r := hs x (List.mem_cons_self ..)
    have hn' := List.nodup_cons.1 hn
    have := nodup_le (l := l) (r := r.erase x) hn'.2 fun y hy => (List.mem_erase_of_ne (by rintro rfl; exact hn'.1 hy)).2 (hs y (List.mem_cons_of_mem _ hy))
    rw [List.length_erase_of_mem hx] at this
    have hp : 0 < r.length := List.length_pos_of_mem hx
    simp only [List.length_cons]; omega
section
variable {κ : Type} [DecidableEq κ]
theorem mfind_none {ν : Type} {k : κ} : ∀ {m : Mo κ ν}, k ∉ m.map (·.1) → mfind k m = none
  | [], _ => rfl
  | (a, v) :: r, h => by
    simp only [List.map_cons, List.mem_cons, not_or] at h
    unfold mfind
    rw [if_neg h.1]; exact mfind_none h.2
theorem mfind_mem {ν : Type} {k : κ} : ∀ {m : Mo κ ν}, k ∈ m.map (·.1) → ∃ v, mfind k m = some v ∧ (k, v) ∈ m
  | [], h => by simp at h
  | (a, v) :: r, h => by
    unfold mfind
    by_cases e : k = a
    · subst e; exact ⟨v, by rw [if_pos rfl], List.mem_cons_self ..⟩
    · rw [if_neg e]
      obtain ⟨w, h1, h2⟩ := mfind_mem (m := r) (by simpa [e] using h)
      exact ⟨w, h1, List.mem_cons_of_mem _ h2⟩
theorem mput_new {ν : Type} {k : κ} {v : ν} : ∀ {m : Mo κ ν}, k ∉ m.map (·.1) → mput m k v = m ++ [(k, v)]
  | [], _ => rfl
  | (a, w) :: r, h => by
    simp only [List.map_cons, List.mem_cons, not_or] at h
    show (if k = a then _ else _) = _
    rw [if_neg h.1, mput_new h.2]; rfl
end
def Vd (t : Trace) (y : EventId) : Prop := ∃ e, (y, e) ∈ evts t
theorem Vd.at_ {t : Trace} {y : EventId} (h : Vd t y) : ∃ (p k : Nat) (e : Event), AtE t p k e ∧ y = ⟨p, k + 1⟩ ∧ (y, e) ∈ evts t := by
  obtain ⟨e, he⟩ := h
  obtain ⟨p, k, h1, h2⟩ := mem_evts.1 he
  exact ⟨p, k, e, h1, h2, he⟩
theorem after_wp {t : Trace} (hS : Small t) (hF : ∀ x ∈ evts t, Formed t.procs.l.length x.1.proc x.2) {A : Arr 200 AnFromTo} (hA : Msgs t (evts t) A) {y : EventId} (hy : Vd t y) :
    Wp (trace_after t A y) fun s => s.l.length ≤ 2 ∧ ∀ z ∈ s.l, Vd t z := by
  obtain ⟨p, k, e, hat, hid, hmem⟩ := hy.at_
  have hat' := hat
  obtain ⟨P, hP, hk⟩ := hat
  have hPm : P ∈ t.procs.l := List.mem_of_getElem? hP
  have h1 := (hS.2 P hPm).1
  have hkl : k < P.events.l.length := (List.getElem?_eq_some_iff.1 hk).1
  have hyp : y.proc = p := by rw [hid]
  have hyi : y.index = k + 1 := by rw [hid]
  have j : ∀ s : Sl EventId, s.l.length ≤ 1 → (∀ z ∈ s.l, Vd t z) → Wp (trace_after.J1 A s P.events y) fun s => s.l.length ≤ 2 ∧ ∀ z ∈ s.l, Vd t z := by
    intro s hs hz
    unfold trace_after.J1
    have hw : IntKind.wrap .i64 (y.index - 1) = ((k : Nat) : Int) := by rw [hyi, wrapI _ (by omega) (by omega)]; omega
    rw [hw, idxN, hk, Option.bind_some, Wp_bind, Wp_cif]
    constructor
    · intro hk2
      have hk2 : e.kind = 2 := by simpa using hk2
      have hm : 0 ≤ e.message ∧ e.message ≤ 199 := by
        rcases hF _ hmem with h | ⟨_, _, _, _, h⟩
        · simp only at h; omega
        · exact h
      rw [at_ok A hm.1 hm.2, Option.bind_some, Wp_some, Wp_cif]
      refine ⟨fun h => ?_, fun _ => (Wp_some _).2 ⟨by omega, hz⟩⟩
      have h : (ag A e.message).to_.index > 0 := by simpa using h
      rw [Option.bind_some]
      unfold app1
      rw [if_pos (by omega), Option.bind_some, Wp_some]
      refine ⟨by show (s.l ++ [(ag A e.message).to_]).length ≤ 2; rw [List.length_append, List.length_singleton]; omega, fun z hz' => ?_⟩
      simp only [Sl.l, List.mem_append, List.mem_singleton] at hz'
      rcases hz' with hz' | rfl
      · exact hz z hz'
      · rcases hA.to e.message hm.1 hm.2 with h0 | ⟨e', h1, _⟩
        · omega
        · exact ⟨e', h1⟩
    · intro _
      rw [Wp_some, Wp_cif]
      exact ⟨fun h => (by cases h), fun _ => (Wp_some _).2 ⟨by omega, hz⟩⟩
  unfold trace_after
  rw [hyp, idxN, hP, Option.bind_some, Wp_cif]
  constructor
  · intro h
    have h : y.index < len P.events := by simpa using h
    have hk2 : k + 1 < P.events.l.length := by rw [hyi] at h; simp [len] at h; omega
    refine j _ (by simp [Sl.l]) fun z hz => ?_
    simp only [Sl.l, List.mem_singleton] at hz
    subst hz
    refine ⟨P.events.l[k + 1], mem_evts.2 ⟨p, k + 1, ⟨P, hP, List.getElem?_eq_getElem hk2⟩, ?_⟩⟩
    show (⟨(p : Int), IntKind.wrap .i64 (y.index + 1)⟩ : EventId) = _
    rw [hyi, wrapI _ (by omega) (by omega)]; simp
  · intro _
    exact j _ (by simp [Sl.l]) fun z hz => by simp [Sl.l] at hz
structure Srch (t : Trace) (rest : Sl EventId) (m : Mo EventId Bool) : Prop where
  rst : ∀ y ∈ rest.l, Vd t y
  keys : (m.map (·.1)).Nodup
  seen : ∀ y ∈ m, Vd t y.1 ∧ y.2 = true
  le : rest.l.length ≤ m.length + 1
theorem Srch.count {t : Trace} {rest : Sl EventId} {m : Mo EventId Bool} (h : Srch t rest m) : m.length ≤ (evts t).length := by
  have := nodup_le (r := (evts t).map (·.1)) h.keys fun x hx => by
    obtain ⟨y, hy, rfl⟩ := List.mem_map.1 hx
    obtain ⟨e, he⟩ := (h.seen y hy).1
    exact List.mem_map.2 ⟨_, he, rfl⟩
  simpa using this
theorem cyclic_wp {t : Trace} (hS : Small t) (hN : (evts t).length < 1073741824) (hF : ∀ x ∈ evts t, Formed t.procs.l.length x.1.proc x.2) {A : Arr 200 AnFromTo} (hA : Msgs t (evts t) A) : Tot (trace_cyclic t A) := by
  unfold trace_cyclic trace_events
  rw [Option.bind_some]
  unfold trace_cyclic.E1
  rw [items_some hS, Option.bind_some]
  refine Wp_each (fun _ _ => True) trivial ?_ fun _ _ => (Wp_some _).2 trivial
  intro i x _ hx _
  have hxm : x ∈ evts t := List.mem_of_getElem? hx
  unfold trace_cyclic.E1_step trace_cyclic.W2
  refine Wp.mono (P := fun w => match w with | .x e => False | _ => True) ?_ fun w hw => by
    cases w with
    | n s => trivial
    | x e => exact hw.elim
    | r b => exact (Wp_some _).2 trivial
  refine Wp_loop (fun q : Sl EventId × Mo EventId Bool => Srch t q.1 q.2) (fun q => 2 * ((evts t).length - q.2.length) + q.1.l.length) ⟨fun y hy => ?_, by simp, by simp, by simp [Sl.l]⟩ ?_
  · simp only [Sl.l, List.mem_singleton] at hy; subst hy; exact ⟨x.2, hxm⟩
  rintro ⟨rest, m⟩ hI
  unfold trace_cyclic.W2_step
  rw [Wp_cif]
  refine ⟨fun h => ?_, fun _ => (Wp_some _).2 ((Wp_some _).2 trivial)⟩
  have hlen : 0 < rest.l.length := by
    have : len rest > 0 := by simpa using h
    simp [len] at this; omega
  have hc := hI.count
  have hle := hI.le
  simp only at hc hle
  have hw : IntKind.wrap .i64 ((len rest) - 1) = ((rest.l.length - 1 : Nat) : Int) := by
    rw [wrapI _ (by simp [len]; omega) (by simp [len]; omega)]; simp [len]; omega
  have hlast : rest.l.length - 1 < rest.l.length := by omega
  rw [hw]
  have h1 : Sl.chk rest ((rest.l.length - 1 : Nat) : Int) = some (rest.l.length - 1) := by
    unfold Sl.chk; rw [if_pos ⟨by omega, by simpa using hlast⟩]; rfl
  have h2 : Sl.get rest (rest.l.length - 1) = some rest.l[rest.l.length - 1] := by unfold Sl.get; exact List.getElem?_eq_getElem hlast
  obtain ⟨cut, h3, h4⟩ : ∃ x, slCutO rest none (some ((rest.l.length - 1 : Nat) : Int)) = some x ∧ x.l = rest.l.take (rest.l.length - 1) := by
    cases rest with
    | nil => simp [Sl.l] at hlen
    | emp => simp [Sl.l] at hlen
    | row l =>
      simp only [Sl.l] at hlen ⊢
      unfold slCutO boundsV
      simp only [Option.getD_none, Option.getD_some]
      rw [if_pos (by omega)]
      exact ⟨_, rfl, by simp [Sl.l]⟩
    | part l =>
      simp only [Sl.l] at hlen ⊢
      unfold slCutO boundsV
      simp only [Option.getD_none, Option.getD_some]
      rw [if_pos (by omega)]
      exact ⟨_, rfl, by simp [Sl.l]⟩
  rw [h1, Option.bind_some, h2, Option.bind_some, h3, Option.bind_some, Wp_bind]
  refine (after_wp hS hF hA (hI.rst _ (List.getElem_mem hlast))).mono fun s hs => ?_
  unfold trace_cyclic.W3
  refine Wp_loop (fun q : Sl EventId × Int × Mo EventId Bool => ∃ n : Nat, q.2.1 = n ∧ n ≤ s.l.length ∧ Srch t q.1 q.2.2 ∧ 2 * ((evts t).length - q.2.2.length) + q.1.l.length < 2 * ((evts t).length - m.length) + rest.l.length) (fun q => s.l.length - q.2.1.toNat)
    ⟨0, rfl, Nat.zero_le _, ⟨fun y hy => hI.rst y (by rw [h4] at hy; exact List.mem_of_mem_take hy), hI.keys, hI.seen, by rw [h4]; simp; omega⟩, by rw [h4]; simp; omega⟩ ?_
  rintro ⟨rest2, i2, m2⟩ ⟨n, rfl, hn, hI2, hμ⟩
  simp only at hI2 hμ
  unfold trace_cyclic.W3_step
  rw [Wp_cif]
  constructor
  · intro h
    have hlt : n < s.l.length := by simpa [len] using h
    rw [idx_some hlt, Option.bind_some, Wp_cif]
    refine ⟨fun _ => (Wp_some _).2 ((Wp_some _).2 ((Wp_some _).2 trivial)), fun _ => ?_⟩
    have hw2 := wrapN n (by omega)
    rw [Wp_cif]
    refine ⟨fun _ => (Wp_some _).2 ⟨⟨n + 1, hw2, by omega, hI2, hμ⟩, by show _ - (IntKind.wrap .i64 ((n : Int) + 1)).toNat < _; rw [hw2]; simp; omega⟩, fun hno => ?_⟩
    have hc2 := hI2.count
    have hle2 := hI2.le
    unfold app1
    rw [if_pos (show rest2.l.length + 1 ≤ 2147483648 from by omega), Option.bind_some, Wp_some]
    have hnew : s.l[n] ∉ m2.map (·.1) := fun hin => by
      obtain ⟨v, hv, hvm⟩ := mfind_mem hin
      have := (hI2.seen _ hvm).2
      simp only at this
      subst this
      unfold mget at hno
      rw [hv] at hno
      cases hno
    have hS2 : Srch t (.row (rest2.l ++ [s.l[n]])) (mput m2 s.l[n] true) := by
      rw [mput_new hnew]
      refine ⟨fun y hy => ?_, ?_, fun y hy => ?_, by show (rest2.l ++ [s.l[n]]).length ≤ _; rw [List.length_append, List.length_append, List.length_singleton, List.length_singleton]; omega⟩
      · simp only [Sl.l, List.mem_append, List.mem_singleton] at hy
        rcases hy with hy | rfl
        · exact hI2.rst y hy
        · exact hs.2 _ (List.getElem_mem hlt)
      · rw [List.map_append, List.nodup_append]
        refine ⟨hI2.keys, by simp, fun a ha b hb => ?_⟩
        simp only [List.map_cons, List.map_nil, List.mem_singleton] at hb
        subst hb
        exact fun e => hnew (e ▸ ha)
      · rcases List.mem_append.1 hy with hy | hy
        · exact hI2.seen y hy
        · simp only [List.mem_singleton] at hy; subst hy; exact ⟨hs.2 _ (List.getElem_mem hlt), rfl⟩
    have hc3 := hS2.count
    refine ⟨⟨n + 1, hw2, by omega, hS2, ?_⟩, by show _ - (IntKind.wrap .i64 ((n : Int) + 1)).toNat < _; rw [hw2]; simp; omega⟩
    rw [mput_new hnew, List.length_append, List.length_singleton] at hc3
    show 2 * ((evts t).length - (mput m2 s.l[n] true).length) + (rest2.l ++ [s.l[n]]).length < _
    rw [mput_new hnew, List.length_append, List.length_append, List.length_singleton, List.length_singleton]
    omega
  · intro _
    exact (Wp_some _).2 ((Wp_some _).2 ⟨hI2, hμ⟩)
structure VT (t : Trace) : Prop where
  formed : ∀ x ∈ evts t, Formed t.procs.l.length x.1.proc x.2
  msgs : ∃ A i, trace_messageFault t = some (some A, i, 0) ∧ Msgs t (evts t) A
  few : t.procs.l.length ≤ 8
theorem valid_wp {t : Trace} (hS : Small t) (hN : (evts t).length < 1073741824) : Wp (trace_Valid t) fun b => b = true → VT t := by
  unfold trace_Valid
  rw [Wp_bind]
  refine Wp.mono (P := fun r => r.2 = 0 → VT t) ?_ fun r hr => (Wp_some _).2 fun h => hr (by simpa using h)
  unfold trace_Fault
  rw [trace_in_eq, Option.bind_some, Wp_cif]
  refine ⟨fun hin => ?_, fun _ => (Wp_some _).2 fun h => by cases h⟩
  have h8 : t.procs.l.length ≤ 8 := by
    simp only [Bool.and_eq_true, decide_eq_true_eq, len] at hin; omega
  unfold trace_Fault.W1
  refine Wp_loop (fun i : Int => ∃ n : Nat, i = n ∧ n ≤ t.procs.l.length) (fun i : Int => t.procs.l.length - i.toNat) ⟨0, rfl, Nat.zero_le _⟩ ?_
  rintro i ⟨n, rfl, hn⟩
  unfold trace_Fault.W1_step
  rw [Wp_cif]
  constructor
  · intro h
    have hlt : n < t.procs.l.length := by simpa [len] using h
    obtain ⟨r, hr⟩ := (processFault_tot hS hlt).get
    rw [hr, Option.bind_some, Wp_cif]
    refine ⟨fun _ => (Wp_some _).2 ⟨⟨n + 1, wrapN n (by omega), by omega⟩, by rw [wrapN n (by omega)]; simp; omega⟩, fun h0 => (Wp_some _).2 ((Wp_some _).2 fun h => ?_)⟩
    simp only at h
    simp [h] at h0
  · intro _
    rw [Wp_some]
    unfold trace_events
    rw [Option.bind_some]
    unfold trace_Fault.E2
    rw [items_some hS, Option.bind_some]
    refine Wp_each (fun k _ => ∀ x ∈ (evts t).take k, Formed t.procs.l.length x.1.proc x.2) (by simp) ?_ ?_
    · intro k x _ hx hI
      have hxm : x ∈ evts t := List.mem_of_getElem? hx
      obtain ⟨p, j, hat, hid⟩ := mem_evts.1 hxm
      unfold trace_Fault.E2_step
      rw [Wp_bind, hid]
      refine (eventFault_wp hS hat).mono fun r hr => ?_
      rw [Wp_cif]
      refine ⟨fun h0 => (Wp_some _).2 fun y hy => ?_, fun h0 => (Wp_some _).2 ((Wp_some _).2 fun h => ?_)⟩
      · rw [List.take_add_one, hx] at hy
        rcases List.mem_append.1 hy with hy | hy
        · exact hI y hy
        · simp at hy; subst hy; rw [hid]; exact hr (by simpa using h0)
      · simp only at h; simp [h] at h0
    · intro _ hI
      rw [List.take_length] at hI
      obtain ⟨r, hr, hq⟩ := messageFault_wp hS hI
      rw [hr, Option.bind_some, Wp_cif]
      refine ⟨fun h0 => ?_, fun h0 => (Wp_some _).2 fun h => ?_⟩
      · have h0 : r.2.2 = 0 := by simpa using h0
        obtain ⟨A, hA, hM⟩ := hq h0
        rw [hA, Option.bind_some]
        obtain ⟨c, hc⟩ := (cyclic_wp hS hN hI hM).get
        rw [hc, Option.bind_some, Wp_cif]
        have hv : VT t := ⟨hI, ⟨A, r.2.1, by rw [hr]; obtain ⟨r1, r2, r3⟩ := r; simp only at hA h0; rw [hA, h0], hM⟩, h8⟩
        exact ⟨fun _ => (Wp_some _).2 fun _ => hv, fun _ => (Wp_some _).2 fun _ => hv⟩
      · simp only at h; simp [h] at h0
end Go.VE
namespace Go.VE
theorem size_tot {t : Trace} (hS : Small t) : Tot (alaw40_size t) := by
  unfold alaw40_size
  rw [Tot, Wp_cif]
  refine ⟨fun _ => (Wp_some _).2 trivial, fun _ => ?_⟩
  unfold alaw40_size.W1
  refine Wp_loop (fun q : Int × Int => ∃ n : Nat, q.2 = n ∧ n ≤ t.procs.l.length) (fun q : Int × Int => t.procs.l.length - q.2.toNat) ⟨0, rfl, Nat.zero_le _⟩ ?_
  rintro ⟨c, i⟩ ⟨n, hi, hn⟩
  simp only at hi; subst hi
  have h1 := hS.1
  unfold alaw40_size.W1_step
  rw [Wp_cif]
  refine ⟨fun h => ?_, fun _ => (Wp_some _).2 ((Wp_some _).2 trivial)⟩
  have hlt : n < t.procs.l.length := by simpa [len] using h
  rw [idx_some hlt, Option.bind_some, containsEvent (f := fun z => (alaw40_size_c1 z).getD false) (fun z _ => Tot.ok ((Wp_some _).2 trivial)) (hS.2 _ (List.getElem_mem hlt)).1, Option.bind_some, cif_some, Option.bind_some, Wp_cif]
  refine ⟨fun _ => (Wp_some _).2 ((Wp_some _).2 trivial), fun _ => (Wp_some _).2 ⟨⟨n + 1, wrapN n (by omega), by omega⟩, ?_⟩⟩
  show _ - (IntKind.wrap .i64 ((n : Int) + 1)).toNat < _
  rw [wrapN n (by omega)]; simp; omega
theorem check_eq {t : Trace} (hv : trace_Valid t = some true) {p q : Nat} (hp : p < t.procs.l.length) (hq : q < t.procs.l.length) (hne : p ≠ q) : channel_check t p q = some 0 := by
  unfold channel_check
  rw [hv, Option.bind_some]
  have h1 : decide ((p : Int) < 0) = false := by simp
  have h2 : decide ((p : Int) ≥ len t.procs) = false := by simp [len]; omega
  have h3 : decide ((q : Int) < 0) = false := by simp
  have h4 : decide ((q : Int) ≥ len t.procs) = false := by simp [len]; omega
  have h5 : ((p : Int) == (q : Int)) = false := by simp; omega
  simp only [h1, h2, h3, h4, h5, cif_t, cif_f, Option.bind_some]
def skipB (q : Int) (e : Event) : Bool := if e.kind == 2 then !(e.peer == q) else true
theorem skipB_f {q : Int} {e : Event} (h : skipB q e = false) : e.kind = 2 ∧ e.peer = q := by
  unfold skipB at h
  by_cases hk : e.kind = 2
  · simpa [hk] using h
  · simp [hk] at h
def fifoL (q : Int) (pos : Event → Int) : List Event → Int → Bool → Bool
  | [], _, _ => true
  | e :: r, last, missing => cif (skipB q e) (fifoL q pos r last missing)
    (cif (pos e == 0) (fifoL q pos r last true)
    (cif (if missing then true else decide (pos e < last)) false (fifoL q pos r (pos e) missing)))
theorem fifoL_congr {q : Int} {pos pos' : Event → Int} : ∀ {l : List Event} {last : Int} {missing : Bool}, (∀ e ∈ l, e.kind = 2 → e.peer = q → pos e = pos' e) → fifoL q pos l last missing = fifoL q pos' l last missing
  | [], _, _, _ => rfl
  | e :: r, last, missing, h => by
    have hr : ∀ {last : Int} {missing : Bool}, fifoL q pos r last missing = fifoL q pos' r last missing := fifoL_congr fun x hx => h x (List.mem_cons_of_mem _ hx)
    unfold fifoL
    cases hc : skipB q e with
    | true => exact hr
    | false =>
      have hk := skipB_f hc
      simp only [h e (List.mem_cons_self ..) hk.1 hk.2, hr]
def pos1 (t : Trace) (q : Nat) (e : Event) : Int := match t.procs.l[q]? with
  | some Q => place (fun y => y.kind == 3 && y.message == e.message) Q.events.l + 1
  | none => 0
theorem drop_cons {α : Type} {l : List α} {n : Nat} (h : n < l.length) : l.drop n = l[n] :: l.drop (n + 1) := List.drop_eq_getElem_cons h
theorem chFifo_eq {t : Trace} (hS : Small t) (hv : trace_Valid t = some true) {p q : Nat} (hp : p < t.procs.l.length) (hq : q < t.procs.l.length) (hne : p ≠ q) :
    channel_Fifo t p q = some (fifoL q (pos1 t q) t.procs.l[p].events.l 0 false, 0) := by
  unfold channel_Fifo
  rw [check_eq hv hp hq hne, Option.bind_some, show ((0 : Int) == 0) = true from rfl, cif_t, idx_some hp, Option.bind_some]
  have hP := hS.2 _ (List.getElem_mem hp)
  have hQ := hS.2 _ (List.getElem_mem hq)
  generalize hPe : t.procs.l[p] = P at *
  unfold channel_Fifo.W1
  have hpl := hP.1
  refine Wp.eq (Wp_loop (fun s : Int × Bool × Int => ∃ n : Nat, s.2.2 = n ∧ n ≤ P.events.l.length ∧ fifoL q (pos1 t q) P.events.l 0 false = fifoL q (pos1 t q) (P.events.l.drop n) s.1 s.2.1) (fun s : Int × Bool × Int => P.events.l.length - s.2.2.toNat) ⟨0, rfl, Nat.zero_le _, rfl⟩ ?_)
  rintro ⟨last, missing, i⟩ ⟨n, hi, hn, hf⟩
  simp only at hi hf; subst hi
  unfold channel_Fifo.W1_step
  rw [Wp_cif]
  constructor
  · intro h
    have hlt : n < P.events.l.length := by simpa [len] using h
    have hw := wrapN n (by omega)
    rw [drop_cons hlt] at hf
    generalize he : P.events.l[n] = e at hf
    have step : ∀ (l' : Int) (m' : Bool), fifoL q (pos1 t q) P.events.l 0 false = fifoL q (pos1 t q) (P.events.l.drop (n + 1)) l' m' →
        (∃ k : Nat, ((l', m', IntKind.wrap .i64 ((n : Int) + 1)) : Int × Bool × Int).2.2 = k ∧ k ≤ P.events.l.length ∧ fifoL q (pos1 t q) P.events.l 0 false = fifoL q (pos1 t q) (P.events.l.drop k) l' m') ∧ P.events.l.length - (IntKind.wrap .i64 ((n : Int) + 1)).toNat < P.events.l.length - (n : Int).toNat := fun l' m' h' =>
      ⟨⟨n + 1, hw, by omega, h'⟩, by rw [hw]; simp; omega⟩
    rw [idx_some hlt, Option.bind_some, he, cif_some, Option.bind_some]
    change Wp (cif (skipB q e) _ _) _
    rw [fifoL] at hf
    cases hc : skipB q e with
    | true =>
      rw [hc] at hf
      rw [cif_t, Wp_some]
      exact step _ _ hf
    | false =>
      rw [hc, cif_f] at hf
      rw [cif_f, idx_some hq, Option.bind_some, indexEvent (f := fun y => y.kind == 3 && y.message == e.message) (fun y _ => by unfold channel_Fifo_c1; simp only [cif_and, Option.bind_some]) hQ.1, Option.bind_some]
      have hpl := place_lt (fun y : Event => y.kind == 3 && y.message == e.message) t.procs.l[q].events.l
      have hps : IntKind.wrap .i64 (place (fun y : Event => y.kind == 3 && y.message == e.message) t.procs.l[q].events.l + 1) = pos1 t q e := by
        rw [wrapI _ (by omega) (by have := hQ.1; omega)]
        unfold pos1; rw [List.getElem?_eq_getElem hq]
      rw [hps]
      cases h0 : (pos1 t q e == 0) with
      | true =>
        rw [h0, cif_t] at hf
        rw [cif_t, Wp_some]
        exact step _ _ hf
      | false =>
        rw [h0, cif_f] at hf
        rw [cif_f, cif_some, Option.bind_some]
        cases hm : (if missing = true then true else decide (pos1 t q e < last)) with
        | true =>
          rw [hm, cif_t] at hf
          rw [cif_t]
          refine (Wp_some _).2 ((Wp_some _).2 ?_)
          rw [hf]
        | false =>
          rw [hm, cif_f] at hf
          rw [cif_f, Wp_some]
          exact step _ _ hf
  · intro h
    have hge : P.events.l.length ≤ n := by simpa [len] using h
    refine (Wp_some _).2 ((Wp_some _).2 ?_)
    rw [hf, List.drop_eq_nil_of_le hge]; rfl
def pos2 (A : Arr 200 AnFromTo) (e : Event) : Int := (ag A e.message).to_.index
theorem pos_eq {t : Trace} (hV : VT t) {A : Arr 200 AnFromTo} (hA : Msgs t (evts t) A) {p q : Nat} (hp : p < t.procs.l.length) (hq : q < t.procs.l.length) {e : Event} (he : e ∈ t.procs.l[p].events.l) (hk : e.kind = 2) (hpe : e.peer = q) : pos1 t q e = pos2 A e := by
  obtain ⟨k, hke⟩ := List.getElem?_of_mem he
  have hat : AtE t p k e := ⟨_, List.getElem?_eq_getElem hp, hke⟩
  have hmem : ((⟨p, k + 1⟩ : EventId), e) ∈ evts t := mem_evts.2 ⟨p, k, hat, rfl⟩
  have hm : 0 ≤ e.message ∧ e.message ≤ 199 := by
    rcases hV.formed _ hmem with h | ⟨_, _, _, _, h⟩
    · simp only at h; omega
    · exact h
  unfold pos1 pos2
  rw [List.getElem?_eq_getElem hq]
  simp only
  have rcv : ∀ (r j : Nat) (y : Event), AtE t r j y → y.kind = 3 → y.message = e.message → (ag A e.message).to_ = ⟨r, j + 1⟩ := fun r j y hy h3 hme => by
    have := (hA.rcv (⟨r, j + 1⟩, y) (mem_evts.2 ⟨r, j, hy, rfl⟩) h3).1
    rw [← hme]; exact this
  rcases hA.to e.message hm.1 hm.2 with h0 | ⟨y, hy, h3, hme⟩
  · rw [h0]
    have : t.procs.l[q].events.l.findIdx? (fun y => y.kind == 3 && y.message == e.message) = none := by
      rw [List.findIdx?_eq_none_iff]
      intro y hy
      cases hb : (y.kind == 3 && y.message == e.message) with
      | false => rfl
      | true =>
        exfalso
        simp only [Bool.and_eq_true, beq_iff_eq] at hb
        obtain ⟨j, hj⟩ := List.getElem?_of_mem hy
        have := rcv q j y ⟨_, List.getElem?_eq_getElem hq, hj⟩ hb.1 hb.2
        rw [this] at h0
        simp only at h0; omega
    unfold place
    rw [this]; rfl
  · obtain ⟨r, j, hyat, hid⟩ := mem_evts.1 hy
    simp only at hyat hid
    have hs := (hA.rcv _ hy h3).2
    simp only at hs
    have hfy := hV.formed _ hy
    have hpeer : 0 ≤ y.peer := by
      rcases hfy with h | ⟨_, h, _⟩
      · simp only at h; omega
      · exact h
    obtain ⟨pn, hpn⟩ : ∃ pn : Nat, y.peer = pn := ⟨y.peer.toNat, by omega⟩
    rw [hpn, hme] at hs
    obtain ⟨k2, e2, hat2, g1, g2, g3⟩ := sendsB_iff.1 hs
    have f1 := hA.snd _ hmem hk
    have f2 := hA.snd (⟨pn, k2 + 1⟩, e2) (mem_evts.2 ⟨pn, k2, hat2, rfl⟩) g1
    simp only at f1 f2
    rw [g2, f1] at f2
    have e1 : p = pn ∧ k = k2 := by
      simp only [EventId.mk.injEq] at f2
      omega
    obtain ⟨rfl, rfl⟩ := e1
    have e3 : e2 = e := by
      obtain ⟨P, h1, h2⟩ := hat; obtain ⟨P', h1', h2'⟩ := hat2
      rw [h1] at h1'; cases h1'; rw [h2] at h2'; cases h2'; rfl
    subst e3
    have hrq : r = q := by
      have : (ag A e2.message).to_.proc = (q : Int) := by rw [← g3, hpe]
      rw [hid] at this
      simp only at this
      omega
    subst hrq
    obtain ⟨Q, hQ, hj⟩ := hyat
    rw [List.getElem?_eq_getElem hq] at hQ
    cases hQ
    have : t.procs.l[r].events.l.findIdx? (fun y => y.kind == 3 && y.message == e2.message) = some j := by
      refine findIdx?_at (fun i hi z hz => ?_) hj (by simp [h3, hme])
      cases hb : (z.kind == 3 && z.message == e2.message) with
      | false => rfl
      | true =>
        exfalso
        simp only [Bool.and_eq_true, beq_iff_eq] at hb
        have := rcv r i z ⟨_, List.getElem?_eq_getElem hq, hz⟩ hb.1 hb.2
        rw [hid] at this
        simp only [EventId.mk.injEq] at this
        omega
    unfold place
    rw [this, hid]
end Go.VE
namespace Go.VE
def Fpq (t : Trace) (A : Arr 200 AnFromTo) (p q : Nat) : Bool := match t.procs.l[p]? with
  | some P => fifoL q (pos2 A) P.events.l 0 false
  | none => true
theorem fifoL_skip {q : Int} {pos : Event → Int} : ∀ {l : List Event} {last : Int} {missing : Bool}, (∀ e ∈ l, skipB q e = true) → fifoL q pos l last missing = true
  | [], _, _, _ => rfl
  | e :: r, last, missing, h => by
    unfold fifoL
    rw [h e (List.mem_cons_self ..), cif_t]
    exact fifoL_skip fun x hx => h x (List.mem_cons_of_mem _ hx)
theorem Fpp {t : Trace} (hV : VT t) (A : Arr 200 AnFromTo) (p : Nat) : Fpq t A p p = true := by
  unfold Fpq
  split
  · rename_i P hP
    refine fifoL_skip fun e he => ?_
    cases hs : skipB p e with
    | true => rfl
    | false =>
      obtain ⟨hk, hp⟩ := skipB_f hs
      obtain ⟨k, hke⟩ := List.getElem?_of_mem he
      rcases hV.formed (⟨p, k + 1⟩, e) (mem_evts.2 ⟨p, k, ⟨P, hP, hke⟩, rfl⟩) with h | ⟨_, _, _, h, _⟩
      · simp only at h; omega
      · exact absurd hp h
  · rfl
theorem tW3_eq {t : Trace} (hS : Small t) (hV : VT t) (A : Arr 200 AnFromTo) {p q : Nat} (hp : p < t.procs.l.length) (a b c d : Int) :
    trace_Fifo.W3 (some A) p q 0 false a b c d t.procs.l[p].events (len t.procs.l[p].events) 0 t = some (cif (Fpq t A p q) (.n (some A, IntKind.wrap .i64 (d + 1))) (.r ())) := by
  have hP := hS.2 _ (List.getElem_mem hp)
  have hFp : Fpq t A p q = fifoL q (pos2 A) t.procs.l[p].events.l 0 false := by unfold Fpq; rw [List.getElem?_eq_getElem hp]
  have hform : ∀ e ∈ t.procs.l[p].events.l, e.kind = 2 → 0 ≤ e.message ∧ e.message ≤ 199 := fun e he hk => by
    obtain ⟨k, hke⟩ := List.getElem?_of_mem he
    rcases hV.formed (⟨p, k + 1⟩, e) (mem_evts.2 ⟨p, k, ⟨_, List.getElem?_eq_getElem hp, hke⟩, rfl⟩) with h | ⟨_, _, _, _, h⟩
    · simp only at h; omega
    · exact h
  rw [hFp]
  generalize hPe : t.procs.l[p] = P at *
  have hpl := hP.1
  unfold trace_Fifo.W3
  refine Wp.eq (Wp_loop (fun s : Option (Arr 200 AnFromTo) × Int × Bool × Int => ∃ n : Nat, s.2.2.2 = n ∧ s.1 = some A ∧ n ≤ P.events.l.length ∧ fifoL q (pos2 A) P.events.l 0 false = fifoL q (pos2 A) (P.events.l.drop n) s.2.1 s.2.2.1) (fun s => P.events.l.length - s.2.2.2.toNat) ⟨0, rfl, rfl, Nat.zero_le _, rfl⟩ ?_)
  rintro ⟨l3, last, missing, i⟩ ⟨n, hi, hl3, hn, hf⟩
  simp only at hi hf hl3; subst hi hl3
  unfold trace_Fifo.W3_step
  rw [Wp_cif]
  constructor
  · intro h
    have hlt : n < P.events.l.length := by simpa [len] using h
    have hw := wrapN n (by omega)
    rw [drop_cons hlt] at hf
    have hem := List.getElem_mem hlt
    generalize he : P.events.l[n] = e at hf hem
    have step : ∀ (l' : Int) (m' : Bool), fifoL q (pos2 A) P.events.l 0 false = fifoL q (pos2 A) (P.events.l.drop (n + 1)) l' m' →
        (∃ k : Nat, IntKind.wrap .i64 ((n : Int) + 1) = k ∧ some A = some A ∧ k ≤ P.events.l.length ∧ fifoL q (pos2 A) P.events.l 0 false = fifoL q (pos2 A) (P.events.l.drop k) l' m') ∧ P.events.l.length - (IntKind.wrap .i64 ((n : Int) + 1)).toNat < P.events.l.length - (n : Int).toNat := fun l' m' h' =>
      ⟨⟨n + 1, hw, rfl, by omega, h'⟩, by rw [hw]; simp; omega⟩
    rw [idx_some hlt, Option.bind_some, he, cif_some, Option.bind_some]
    change Wp (cif (skipB q e) _ _) _
    rw [fifoL] at hf
    cases hc : skipB q e with
    | true =>
      rw [hc] at hf
      rw [cif_t, Wp_some]
      exact step _ _ hf
    | false =>
      rw [hc, cif_f] at hf
      have hm := hform e hem (skipB_f hc).1
      rw [cif_f, Option.bind_some, at_ok A hm.1 hm.2, Option.bind_some]
      change Wp (cif (pos2 A e == 0) _ _) _
      cases h0 : (pos2 A e == 0) with
      | true =>
        rw [h0, cif_t] at hf
        rw [cif_t, Wp_some]
        exact step _ _ hf
      | false =>
        rw [h0, cif_f] at hf
        rw [cif_f, cif_some, Option.bind_some]
        change Wp (cif (if missing = true then true else decide (pos2 A e < last)) _ _) _
        cases hmm : (if missing = true then true else decide (pos2 A e < last)) with
        | true =>
          rw [hmm, cif_t] at hf
          rw [cif_t]
          refine (Wp_some _).2 ((Wp_some _).2 ?_)
          rw [hf]; rfl
        | false =>
          rw [hmm, cif_f] at hf
          rw [cif_f, Wp_some]
          exact step _ _ hf
  · intro h
    have hge : P.events.l.length ≤ n := by simpa [len] using h
    refine (Wp_some _).2 ((Wp_some _).2 ?_)
    rw [hf, List.drop_eq_nil_of_le hge]; rfl
theorem tFifo_wp {t : Trace} (hS : Small t) (hV : VT t) {A : Arr 200 AnFromTo} {i : EventId} (hv : trace_Valid t = some true) (hA : trace_messageFault t = some (some A, i, 0)) :
    Wp (trace_Fifo t) fun b => b = true ↔ ∀ p q : Nat, p < t.procs.l.length → q < t.procs.l.length → Fpq t A p q = true := by
  have hn8 := hV.few
  unfold trace_Fifo
  rw [hv, Option.bind_some, cif_t, hA, Option.bind_some]
  unfold trace_Fifo.W1
  refine Wp_loop (fun s : Option (Arr 200 AnFromTo) × Int => ∃ k : Nat, s.2 = k ∧ s.1 = some A ∧ k ≤ t.procs.l.length ∧ ∀ p q : Nat, p < k → q < t.procs.l.length → Fpq t A p q = true) (fun s => t.procs.l.length - s.2.toNat) ⟨0, rfl, rfl, Nat.zero_le _, fun p q h => absurd h (by omega)⟩ ?_
  rintro ⟨l3, j⟩ ⟨k, hj, hl3, hk, hall⟩
  simp only at hj hl3; subst hj hl3
  unfold trace_Fifo.W1_step
  rw [Wp_cif]
  constructor
  · intro h
    have hlt : k < t.procs.l.length := by simpa [len] using h
    have hw := wrapN k (by omega)
    unfold trace_Fifo.W2
    refine Wp_loop (fun s : Option (Arr 200 AnFromTo) × Int => ∃ m : Nat, s.2 = m ∧ s.1 = some A ∧ m ≤ t.procs.l.length ∧ ∀ q : Nat, q < m → Fpq t A k q = true) (fun s => t.procs.l.length - s.2.toNat) ⟨0, rfl, rfl, Nat.zero_le _, fun q h => absurd h (by omega)⟩ ?_
    rintro ⟨l3, j⟩ ⟨m, hj, hl3, hm, hq⟩
    simp only at hj hl3; subst hj hl3
    unfold trace_Fifo.W2_step
    rw [Wp_cif]
    constructor
    · intro h
      have hltm : m < t.procs.l.length := by simpa [len] using h
      have hwm := wrapN m (by omega)
      rw [idx_some hlt, Option.bind_some, tW3_eq hS hV A hlt, Wp_some]
      cases hF : Fpq t A k m with
      | true =>
        refine ⟨⟨m + 1, hwm, rfl, by omega, fun q hq' => ?_⟩, by show _ - (IntKind.wrap .i64 ((m : Int) + 1)).toNat < _; rw [hwm]; simp; omega⟩
        by_cases e : q = m
        · subst e; exact hF
        · exact hq q (by omega)
      | false =>
        refine (Wp_some _).2 ((Wp_some _).2 ⟨fun h => by (cases h), fun h => ?_⟩)
        rw [h k m hlt hltm] at hF; cases hF
    · intro h
      have hge : t.procs.l.length ≤ m := by simpa [len] using h
      refine (Wp_some _).2 ((Wp_some _).2 ⟨⟨k + 1, hw, rfl, by omega, fun p q hp hq' => ?_⟩, by show _ - (IntKind.wrap .i64 ((k : Int) + 1)).toNat < _; rw [hw]; simp; omega⟩)
      by_cases e : p = k
      · subst e; exact hq q (by omega)
      · exact hall p q (by omega) hq'
  · intro h
    have hge : t.procs.l.length ≤ k := by simpa [len] using h
    exact (Wp_some _).2 ((Wp_some _).2 ⟨fun _ p q hp hq => hall p q (by omega) hq, fun _ => rfl⟩)
theorem channelFifo_eq {t : Trace} (hS : Small t) (hN : (evts t).length < 1073741824) : alaw40_ChannelFifo t = some true := by
  refine Wp.eq ?_
  unfold alaw40_ChannelFifo alaw40_awake
  rw [Option.bind_some, cif_t]
  obtain ⟨n, hn⟩ := (size_tot hS).get
  obtain ⟨v, hv, hV⟩ := valid_wp hS hN
  rw [hn, Option.bind_some, hv, Option.bind_some, cif_some, Option.bind_some, Wp_cif]
  refine ⟨fun _ => (Wp_some _).2 rfl, fun hc => ?_⟩
  have hvt : v = true := by
    split at hc
    · cases hc
    · simpa using hc
  subst hvt
  have hV := hV rfl
  obtain ⟨A, i, hA, hM⟩ := hV.msgs
  have hn8 := hV.few
  have hch : ∀ p q : Nat, p < t.procs.l.length → q < t.procs.l.length → p ≠ q → channel_Fifo t p q = some (Fpq t A p q, 0) := fun p q hp hq hne => by
    rw [chFifo_eq hS hv hp hq hne]
    unfold Fpq
    rw [List.getElem?_eq_getElem hp, fifoL_congr (pos' := pos2 A) fun e he hk hpe => pos_eq hV hM hp hq he hk hpe]
  obtain ⟨b, hb, hbi⟩ := tFifo_wp hS hV hv hA
  unfold alaw40_ChannelFifo.W1
  refine Wp_loop (fun s : Bool × Int => ∃ k : Nat, s.2 = k ∧ k ≤ t.procs.l.length ∧ (s.1 = true ↔ ∀ p q : Nat, p < k → q < t.procs.l.length → p ≠ q → Fpq t A p q = true)) (fun s => t.procs.l.length - s.2.toNat) ⟨0, rfl, Nat.zero_le _, ⟨fun _ p q h => absurd h (by omega), fun _ => rfl⟩⟩ ?_
  rintro ⟨all, j⟩ ⟨k, hj, hk, hall⟩
  simp only at hj hall; subst hj
  unfold alaw40_ChannelFifo.W1_step
  rw [Wp_cif]
  constructor
  · intro h
    have hlt : k < t.procs.l.length := by simpa [len] using h
    have hw := wrapN k (by omega)
    unfold alaw40_ChannelFifo.W2
    refine Wp_loop (fun s : Bool × Int => ∃ m : Nat, s.2 = m ∧ m ≤ t.procs.l.length ∧ (s.1 = true ↔ all = true ∧ ∀ q : Nat, q < m → k ≠ q → Fpq t A k q = true)) (fun s => t.procs.l.length - s.2.toNat) ⟨0, rfl, Nat.zero_le _, ⟨fun h => ⟨h, fun q h => absurd h (by omega)⟩, fun h => h.1⟩⟩ ?_
    rintro ⟨al, j⟩ ⟨m, hj, hm, hq⟩
    simp only at hj hq; subst hj
    unfold alaw40_ChannelFifo.W2_step
    rw [Wp_cif]
    constructor
    · intro h
      have hltm : m < t.procs.l.length := by simpa [len] using h
      have hwm := wrapN m (by omega)
      have step : ∀ al' : Bool, (al' = true ↔ al = true ∧ (k ≠ m → Fpq t A k m = true)) →
          (∃ m' : Nat, IntKind.wrap .i64 ((m : Int) + 1) = m' ∧ m' ≤ t.procs.l.length ∧ (al' = true ↔ all = true ∧ ∀ q : Nat, q < m' → k ≠ q → Fpq t A k q = true)) ∧ t.procs.l.length - (IntKind.wrap .i64 ((m : Int) + 1)).toNat < t.procs.l.length - (m : Int).toNat := fun al' hal =>
        ⟨⟨m + 1, hwm, by omega, by
          rw [hal, hq]
          constructor
          · rintro ⟨⟨h1, h2⟩, h3⟩
            refine ⟨h1, fun q hq' hne => ?_⟩
            by_cases e : q = m
            · subst e; exact h3 hne
            · exact h2 q (by omega) hne
          · rintro ⟨h1, h2⟩
            exact ⟨⟨h1, fun q hq' => h2 q (by omega)⟩, h2 m (by omega)⟩⟩, by rw [hwm]; simp; omega⟩
      rw [Wp_cif]
      constructor
      · intro he
        have he : k = m := by have : (k : Int) = m := by simpa using he
                              omega
        rw [Wp_some]
        exact step al ⟨fun h => ⟨h, fun h => absurd he h⟩, fun h => h.1⟩
      · intro he
        have he : k ≠ m := by have : ¬ (k : Int) = m := by simpa using he
                              omega
        rw [hch k m hlt hltm he, Option.bind_some, show (((Fpq t A k m, (0 : Int)) : Bool × Int).2 == 0) = true from rfl, cif_t, cif_and, Option.bind_some, Wp_some]
        exact step _ ⟨fun h => by simp at h; exact ⟨h.1, fun _ => h.2⟩, fun h => by simp [h.1, h.2 he]⟩
    · intro h
      have hge : t.procs.l.length ≤ m := by simpa [len] using h
      refine (Wp_some _).2 ((Wp_some _).2 ⟨⟨k + 1, hw, by omega, ?_⟩, by show _ - (IntKind.wrap .i64 ((k : Int) + 1)).toNat < _; rw [hw]; simp; omega⟩)
      rw [hq, hall]
      constructor
      · rintro ⟨h1, h2⟩ p q hp hq' hne
        by_cases e : p = k
        · subst e; exact h2 q (by omega) hne
        · exact h1 p q (by omega) hq' hne
      · intro h
        exact ⟨fun p q hp hq' hne => h p q (by omega) hq' hne, fun q hq' hne => h k q (by omega) (by omega) hne⟩
  · intro h
    have hge : t.procs.l.length ≤ k := by simpa [len] using h
    refine (Wp_some _).2 ?_
    show Wp ((trace_Fifo t).bind fun x_1 => some (all == x_1)) fun x => x = true
    rw [hb, Option.bind_some, Wp_some]
    have : all = b := by
      rw [Bool.eq_iff_iff, hall, hbi]
      constructor
      · intro h p q hp hq
        by_cases e : p = q
        · subst e; exact Fpp hV A p
        · exact h p q (by omega) hq e
      · intro h p q hp hq _; exact h p q (by omega) hq
    rw [this]; simp
end Go.VE
namespace Go.VE
theorem wt_mem {α : Type} [Dat α] {x : α} : ∀ {l : List α}, x ∈ l → Dat.wt x ≤ (l.map Dat.wt).sum
  | y :: l, h => by
    simp only [List.map_cons, List.sum_cons]
    rcases List.mem_cons.1 h with rfl | h
    · omega
    · have := wt_mem h; omega
theorem len_wt {α : Type} [Dat α] (h : ∀ x : α, 1 ≤ Dat.wt x) : ∀ (l : List α), l.length ≤ (l.map Dat.wt).sum
  | [] => Nat.le_refl _
  | y :: l => by
    simp only [List.map_cons, List.sum_cons, List.length_cons]
    have := len_wt h l; have := h y; omega
theorem wt_sl {α : Type} [Dat α] (s : Sl α) : Dat.wt s = (s.l.map Dat.wt).sum + 1 := rfl
theorem evsFrom_len (p : Int) : ∀ (es : List Event) (j : Int), (evsFrom p j es).length = es.length
  | [], _ => rfl
  | _ :: es, j => by simp only [evsFrom, List.length_cons, evsFrom_len p es]
theorem procs_wt : ∀ (ps : List Proc) (i : Int), (procsFrom i ps).length ≤ (ps.map Dat.wt).sum
  | [], _ => Nat.le_refl _
  | p :: ps, i => by
    simp only [procsFrom, List.length_append, evsFrom_len, List.map_cons, List.sum_cons]
    have h1 := procs_wt ps (i + 1)
    have h2 := len_wt (α := Event) (fun x => Nat.le_add_left ..) p.events.l
    have h3 : Dat.wt p = Dat.wt p.name + Dat.wt p.vars + Dat.wt p.events + 1 := rfl
    have h4 := wt_sl p.events
    omega
theorem small_of {t : Trace} (h : Dat.wt t ≤ 1048576) : Small t ∧ (evts t).length < 1073741824 := by
  have h0 : Dat.wt t = Dat.wt t.procs + 1 := rfl
  have h1 := wt_sl t.procs
  have h2 := len_wt (α := Proc) (fun x => Nat.le_add_left ..) t.procs.l
  have h3 := procs_wt t.procs.l 0
  refine ⟨⟨by omega, fun p hp => ?_⟩, by show (procsFrom 0 t.procs.l).length < _; omega⟩
  have h4 := wt_mem hp
  have h5 : Dat.wt p = Dat.wt p.name + Dat.wt p.vars + Dat.wt p.events + 1 := rfl
  have h6 := wt_sl p.events
  have h7 := wt_sl p.vars
  have h8 := len_wt (α := Event) (fun x => Nat.le_add_left ..) p.events.l
  have h9 := len_wt (α := Var) (fun x => Nat.le_add_left ..) p.vars.l
  have h10 : Dat.wt p.name = p.name.size + 1 := rfl
  refine ⟨by omega, by omega, by omega, fun v hv => ?_, fun e he => ?_⟩
  · have k1 := wt_mem hv
    have k2 : Dat.wt v = Dat.wt v.name + Dat.wt v.init_ + 1 := rfl
    have k3 : Dat.wt v.name = v.name.size + 1 := rfl
    omega
  · have k1 := wt_mem he
    have k2 : Dat.wt e = Dat.wt e.kind + Dat.wt e.peer + Dat.wt e.message + Dat.wt e.time + Dat.wt e.assign + 1 := rfl
    have k3 := wt_sl e.assign
    have k4 := len_wt (α := Assign) (fun x => Nat.le_add_left ..) e.assign.l
    omega
end Go.VE
namespace Go.Proofs.Ytnfakljmdnbipaa
open Go.ChangeShapes Go.WideShapes Go.ChangeAt Go.RowKit Go.VE
theorem own : ownKnob Try.prog.godebug = none := by kernel_rfl
theorem kids : Kids Try.prog (· < Try.prog.types.size) := kids_rows (by kernel_rfl) (by kernel_rfl)
theorem full : ∀ t e, t < Try.prog.types.size → Try.prog.underlying t = some (.slice e) → 0 < Try.prog.cellsOf e := slices_full_of Try.prog (by kernel_rfl)
theorem bulkAll {H : Type} : ∀ l : List (DataW H), Rows.uptoBulkAll l = (l.map Rows.uptoBulk).sum
  | [] => by simp [Rows.uptoBulkAll]
  | d :: r => by simp [Rows.uptoBulkAll, bulkAll r]
theorem bulkOk {H : Type} : BulkOk (H := H) Rows.uptoBulk where
  lit l := by cases l <;> simp [Rows.uptoBulk]
  str s := by simp [Rows.uptoBulk]
  nil := by simp [Rows.uptoBulk]
  slice es sp := by rw [Rows.uptoBulk, bulkAll, bulkAll]; omega
  agg ps := by rw [Rows.uptoBulk, bulkAll]; exact Nat.le_refl _
set_option maxRecDepth 100000 in
theorem fifoContract (H : Type) (enc : TypeId × Value → H) (W : World) (base : Nat) (args : Array Value) (ds gs : List (DataW H)) (before : List MemPlace)
    (hval : ∀ (j : Nat) t v, Try.f5.params[j]? = some t → args[j]? = some v → Value.okWide Try.prog W .any base t v)
    (hW : DataW.Whole enc Try.prog Try.f5.params.toList Rows.channelFifoSpec.vars false W args.toList ds gs before) (hk : Rows.uptoSmall H (ds ++ gs) = true) :
    Calls Try.prog 5 args W fun e W' => ∃ v, e = .returned v ∧ Rows.channelFifoSpec.post enc Try.prog Try.f5 false true false false W args v W' := by
  have hW' := hW
  obtain ⟨p, q, hA0, hV, rfl, hfz, hnd⟩ := hW
  have hA : DataW.TrodAll enc Try.prog W 0 (fun _ => true) true Try.f5.params.toList args.toList ds p := hA0
  rw [Try.params5] at hA hval
  obtain ⟨v0, vs0, d0, ds0, p0, q0, hargs, rfl, rfl, h0, r0⟩ := trodAll_cons hA
  obtain ⟨rfl, rfl, rfl⟩ := trodAll_nil r0
  obtain rfl : args = #[v0] := by cases args; simp_all
  obtain ⟨rfl, rfl⟩ := trodVars_none hV
  obtain ⟨t, hv, hok, hwt⟩ := Reads.argOf (t := 24) (α := VE.Trace) hval 0 rfl rfl h0
  have hb : Dat.wt t ≤ 1048576 := by
    have h1 := hwt Rows.uptoBulk bulkOk
    have h2 : Rows.uptoBulkAll ([d0] ++ []) ≤ 1048576 := of_decide_eq_true hk
    rw [bulkAll] at h2
    simp only [List.append_nil, List.map_cons, List.map_nil, List.sum_cons, List.sum_nil] at h2
    omega
  obtain ⟨hS, hN⟩ := small_of hb
  have hl := alaw40_ChannelFifo_ok (S := Ytnfakljmdnbipaa.Sy) (T := Ytnfakljmdnbipaa.Tx) t
  rw [channelFifo_eq hS hN] at hl
  have hc := hl _ rfl
  have := calls_true (P := Try.prog) Ytnfakljmdnbipaa.tabOk Ytnfakljmdnbipaa.itemsOk calls (f := 5) (xs := [VE.enc t]) (by simp [V.goodL, V.good, good_enc]) hc (w := W) (args := #[v0]) (LRel.cons hv .nil)
  refine this.mono fun e W' ⟨he, hg⟩ => ?_
  subst he
  exact ⟨_, rfl, post_true kids full (by rw [Try.params5]; decide) rfl rfl rfl Try.underlying4 hW' hg⟩
set_option maxRecDepth 100000 in
theorem fifoLifted (os : Os) (started : os.Started) (H : Type) (enc : TypeId × Value → H) (F : Stop.Interp) :
    ReturnsInHanded {} Try.checked os 5 .any ((Rows.OpenSpec.upto Rows.channelFifoSpec).pre6 enc Try.prog Try.f5 Rows.channelFifoUptoRow.domain false) (((Rows.OpenSpec.upto Rows.channelFifoSpec).at F).post enc Try.prog Try.f5 false true false false) := by
  refine returnsInHanded_of_cond (C := Try.checked) (s := Rows.OpenSpec.upto Rows.channelFifoSpec) (k := Rows.uptoSmall) rfl own started (by kernel_rfl) Try.func5
    (OpenSpec.witness (enc := enc) (C := Try.checked) (s := Rows.OpenSpec.upto Rows.channelFifoSpec) (k := Rows.uptoSmall) rfl false ⟨#[], #[.agg #[.slice none 0 0]], []⟩ 8 (by kernel_rfl) (by kernel_rfl) (by kernel_rfl)
      (x := ([.agg [.nil]], [], [])) (by kernel_rfl) rfl (by kernel_rfl)) ?_
  intro W base args ds gs before hval hW _ hk _
  exact fifoContract H enc W base args ds gs before hval hW hk
theorem channelFifoOver : Rows.channelFifoUptoRow.holds Try.pinned (Rows.OpenSpec.upto Rows.channelFifoSpec) :=
  OpenClaim.holds_of_cond 5 Try.f5 rfl rfl rfl rfl rfl rfl rfl ⟨rfl, rfl, rfl, rfl, rfl⟩ rfl rfl rfl rfl rfl (by kernel_rfl) Try.func5 (by kernel_rfl)
    (of_decide_eq_true (by kernel_rfl)) (by unfold Func.isWrapper; first | (rw [if_pos (by decide +kernel)]; kernel_rfl) | (rw [if_neg (by decide +kernel)]; exact ⟨rfl, rfl⟩))
    (fun os started H enc _ F => fifoLifted os started H enc F)
theorem channelFifoProved : Rows.ChannelFifoUptoSaid :=
  channelFifoOver
#print axioms channelFifoProved
end Go.Proofs.Ytnfakljmdnbipaa
