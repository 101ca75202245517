/-
  Each function of the program that the law reaches: its text, its plain form, and that it comes to that.
-/
import Derived.Test.YtnfakljmdnbipaaS2
set_option linter.all false
namespace Go.VE
structure Assign where
  var : Int
  value : Int
  deriving Inhabited
instance : Enc Assign where
  cells x := [.int .i64 x.var, .int .i64 x.value]
  agg := true
  size := 2
  len _ := rfl
  good x := by simp only [V.goodL, V.good, good_enc, Bool.and_self]
  one x := by simp only [List.all_cons, List.all_nil, one_int, one_bool, one_str, one_encp, Bool.and_self]
  plain h := by cases h
instance {n : Nat} : Lv (n + 0) Assign := ⟨fun x => by
  show V.lvlL (n + 0) [.int .i64 x.var, .int .i64 x.value] = true
  simp only [lvlL_cons, lvlL_nil, lvl_int, lvl_bool, lvl_str, lvl_encp, Bool.and_self]⟩
structure Event where
  kind : Int
  peer : Int
  message : Int
  time : Int
  assign : Sl Assign
  deriving Inhabited
instance : Enc Event where
  cells x := [.int .i64 x.kind, .int .i64 x.peer, .int .i64 x.message, .int .i64 x.time, enc x.assign]
  agg := true
  size := 5
  len _ := rfl
  good x := by simp only [V.goodL, V.good, good_enc, Bool.and_self]
  one x := by simp only [List.all_cons, List.all_nil, one_int, one_bool, one_str, one_encp, Bool.and_self]
  plain h := by cases h
instance {n : Nat} : Lv (n + 1) Event := ⟨fun x => by
  show V.lvlL (n + 1) [.int .i64 x.kind, .int .i64 x.peer, .int .i64 x.message, .int .i64 x.time, enc x.assign] = true
  simp only [lvlL_cons, lvlL_nil, lvl_int, lvl_bool, lvl_str, lvl_encp, Bool.and_self]⟩
structure Var where
  name : ByteArray
  init_ : Int
  deriving Inhabited
instance : Enc Var where
  cells x := [.str x.name, .int .i64 x.init_]
  agg := true
  size := 2
  len _ := rfl
  good x := by simp only [V.goodL, V.good, good_enc, Bool.and_self]
  one x := by simp only [List.all_cons, List.all_nil, one_int, one_bool, one_str, one_encp, Bool.and_self]
  plain h := by cases h
instance {n : Nat} : Lv (n + 0) Var := ⟨fun x => by
  show V.lvlL (n + 0) [.str x.name, .int .i64 x.init_] = true
  simp only [lvlL_cons, lvlL_nil, lvl_int, lvl_bool, lvl_str, lvl_encp, Bool.and_self]⟩
structure Proc where
  name : ByteArray
  vars : Sl Var
  events : Sl Event
  deriving Inhabited
instance : Enc Proc where
  cells x := [.str x.name, enc x.vars, enc x.events]
  agg := true
  size := 3
  len _ := rfl
  good x := by simp only [V.goodL, V.good, good_enc, Bool.and_self]
  one x := by simp only [List.all_cons, List.all_nil, one_int, one_bool, one_str, one_encp, Bool.and_self]
  plain h := by cases h
instance {n : Nat} : Lv (n + 2) Proc := ⟨fun x => by
  show V.lvlL (n + 2) [.str x.name, enc x.vars, enc x.events] = true
  simp only [lvlL_cons, lvlL_nil, lvl_int, lvl_bool, lvl_str, lvl_encp, Bool.and_self]⟩
structure Trace where
  procs : Sl Proc
  deriving Inhabited
instance : Enc Trace where
  cells x := [enc x.procs]
  agg := true
  size := 1
  len _ := rfl
  good x := by simp only [V.goodL, V.good, good_enc, Bool.and_self]
  one x := by simp only [List.all_cons, List.all_nil, one_int, one_bool, one_str, one_encp, Bool.and_self]
  plain h := by cases h
instance {n : Nat} : Lv (n + 3) Trace := ⟨fun x => by
  show V.lvlL (n + 3) [enc x.procs] = true
  simp only [lvlL_cons, lvlL_nil, lvl_int, lvl_bool, lvl_str, lvl_encp, Bool.and_self]⟩
structure Slice where
  empty : Bool
  first : Sl Int
  last : Sl Int
  j : Sl (Sl (Sl Int))
  deriving Inhabited
instance : Enc Slice where
  cells x := [.bool x.empty, enc x.first, enc x.last, enc x.j]
  agg := true
  size := 4
  len _ := rfl
  good x := by simp only [V.goodL, V.good, good_enc, Bool.and_self]
  one x := by simp only [List.all_cons, List.all_nil, one_int, one_bool, one_str, one_encp, Bool.and_self]
  plain h := by cases h
instance {n : Nat} : Lv (n + 3) Slice := ⟨fun x => by
  show V.lvlL (n + 3) [.bool x.empty, enc x.first, enc x.last, enc x.j] = true
  simp only [lvlL_cons, lvlL_nil, lvl_int, lvl_bool, lvl_str, lvl_encp, Bool.and_self]⟩
structure AnFromTo where
  from_ : EventId
  to_ : EventId
  deriving Inhabited
instance : Enc AnFromTo where
  cells x := [.int .i64 x.from_.proc, .int .i64 x.from_.index, .int .i64 x.to_.proc, .int .i64 x.to_.index]
  agg := true
  size := 4
  len _ := rfl
  good x := by simp only [V.goodL, V.good, good_enc, Bool.and_self]
  one x := by simp only [List.all_cons, List.all_nil, one_int, one_bool, one_str, one_encp, Bool.and_self]
  plain h := by cases h
instance {n : Nat} : Lv (n + 0) AnFromTo := ⟨fun x => by
  show V.lvlL (n + 0) [.int .i64 x.from_.proc, .int .i64 x.from_.index, .int .i64 x.to_.proc, .int .i64 x.to_.index] = true
  simp only [lvlL_cons, lvlL_nil, lvl_int, lvl_bool, lvl_str, lvl_encp, Bool.and_self]⟩
def evsFrom (p : Int) : Int → List Event → List (EventId × Event)
  | _, [] => []
  | j, e :: r => (⟨p, j + 1⟩, e) :: evsFrom p (j + 1) r
def procsFrom : Int → List Proc → List (EventId × Event)
  | _, [] => []
  | i, p :: r => evsFrom i 0 p.events.l ++ procsFrom (i + 1) r
def okLen (n : Nat) : Bool := decide (n < 9223372036854775807)
def trace_items (t : Trace) : Option (List (EventId × Event)) :=
  if okLen t.procs.l.length && t.procs.l.all fun p => okLen p.events.l.length then some (procsFrom 0 t.procs.l) else none
class F_alaw40_awake (S : Sys) (T : Tab) : Prop where
  t : T (S.N 1) = none
  k : S.E.keep (S.N 1) = false
  o : S.orc (S.N 1) [] = some (.bool true)
def alaw40_awake : Option Bool := some true
theorem alaw40_awake_fun {S : Sys} {T : Tab} [F_alaw40_awake S T] : Fun S (callL S T) (S.N 1) (fun _ : Unit => []) (fun r : Bool => [.bool r]) (fun _ => alaw40_awake) true := Fun.orc (F_alaw40_awake.t) (F_alaw40_awake.k (T := T)) (F_alaw40_awake.o (T := T))
namespace slices_IndexFunc_Event
def Q1 : List RO := o2 7 ln [6] [6] ::
 o1 8 (.k (.int .i64 0)) [] ::
 []
def C1 : RC := .cond (.s 9) (.skip) (.gh (.keep [] []) (.exit 0))
def Q2 : List RO := o2 16 .c [11, 15] [11,15] ::
 []
def Q3 : List RO := o2 14 (ix 5) [12, 13] [12,13] ::
 o2 15 (lD 5) [14] [14] ::
 Q2
def C2 : RC := .cond (.s 16) (.seq (.ops (o1 17 5 [5] ::
 o1 4 17 [17] ::
 [])) (.gh (.keep [4] []) (.ret))) (.skip)
def U1 : RC := .seq (.ops (o1 11 1 [] ::
 o1 12 0 [] ::
 o1 13 5 [] ::
 Q3)) (C2)
def U2 : RC := .ops (o2 18 (bI .add) [8, .k (.int .i64 1)] [8] ::
 o1 8 18 [18] ::
 [])
def U3 : RC := .seq (.block 1 (.seq (.ops (o1 10 8 [] ::
 o1 5 10 [10] ::
 [])) (U1))) (U2)
def tW1 : RC := .hg (.seq (.ops (o2 9 (bI .lss) [8, 7] [] ::
 [])) (.seq (C1) (U3))) (.keep [0,1,7,8] [])
def U4 : RC := .block 0 (.gh (.keep [0,1,7,8] []) (.loop tW1))
def U5 : RC := .seq (.ops (o1 4 (.k (.int .i64 (-1))) [] ::
 [])) (.gh (.keep [4] []) (.ret))
def U6 : RC := .seq (.seq (.ops (o1 6 0 [] ::
 Q1)) (U4)) (U5)
def text : RF := ⟨19, [.s 4], .seq (.ops (o1 4 (.k (.int .i64 0)) [4] ::
 [])) (U6)⟩
def F1 : List Fm := [.seq U4, .seq U5]
def F4 : List Fm := [.seq U3, .gst (.keep [0,1,7,8] [])]
def F5 : List Fm := [.blk 0, .seq U5]
def F2 : List Fm := [.blk 1, .seq U2, .gst (.keep [0,1,7,8] [])]
def F3 : List Fm := .seq C2 :: F2
end slices_IndexFunc_Event
class F_slices_IndexFunc_Event (S : Sys) (T : Tab) : Prop where
  t : T (S.N 2) = some slices_IndexFunc_Event.text
  k : S.E.keep (S.N 2) = false
namespace slices_IndexFunc_Event
section
variable {S : Sys} {T : Tab} [F_slices_IndexFunc_Event S T]
noncomputable def W1_step (s0 : Sl Event) (v7 : Int) (v8 : Int) (p1 : Event → Option Bool) : Option (Fw Int Unit Int) :=
 cif (decide (v8 < v7))
 ((idx s0 v8).bind fun x_1 =>
 (p1 x_1).bind fun x_2 =>
 cif x_2
 (some (.r v8))
 (some (.n (IntKind.wrap .i64 (v8 + 1)))))
 (some (.x ()))
noncomputable def W1 (s0 : Sl Event) (v7 : Int) (v8 : Int) (p1 : Event → Option Bool) : Option Int :=
 (wloop (fun q : Int => W1_step s0 v7 q p1) v8).bind (Fw.elim
 (fun e => some (-1))
 (fun e => some e))
def W1_s (S : Sys) (g1 : FuncId) (e1 : List V) (s0 : Sl Event) (v7 : Int) : Int → St := fun q => (mkS [Cv 0 s0, (1, .v (.clo g1 [] e1)), Iv 7 v7, Iv 8 q] [])
def W1_e (S : Sys) (g1 : FuncId) (e1 : List V) (s0 : Sl Event) (v7 : Int) : Unit → Nat × St := fun e => (0, (mkS [] []))
def W1_r (S : Sys) (g1 : FuncId) (e1 : List V) (s0 : Sl Event) (v7 : Int) : Int → St := fun e => (mkS [Iv 4 e] [])
theorem W1_step_ok (g1 : FuncId) (e1 : List V) (p1 : Event → Option Bool) (h1 : FnP S (callL S T) g1 e1 (fun z : Event => [enc z]) (fun r : Bool => [.bool r]) p1) (s0 : Sl Event) (v7 : Int) (v8 : Int) : Le ((W1_step s0 v7 v8 p1).bind (fun w => some (Fw.out (W1_s S g1 e1 s0 v7) (W1_e S g1 e1 s0 v7) (W1_r S g1 e1 s0 v7) w))) (rn S (callL S T) some (.rc tW1) [] (mkS [Cv 0 s0, (1, .v (.clo g1 [] e1)), Iv 7 v7, Iv 8 v8] [])) := by
  unfold W1_step
  refine KifA (n := 7) (fo' := .rc C1) (fs' := F4) (t := decide (v8 < v7)) (A := fun bb => (mkS [Cv 0 s0, (1, .v (.clo g1 [] e1)), Iv 7 v7, Iv 8 v8, Bv 9 bb] [])) (by kernel_rfl) ?_ ?_
  · refine Aidx 16 false [] Q3 F3 (mkS [Cv 0 s0, (1, .v (.clo g1 [] e1)), Iv 7 v7, Iv 8 v8, Bv 9 true, Iv 5 v8, (11, .v (.clo g1 [] e1)), Cv 12 s0, Iv 13 v8] []) .i64 rfl (by kernel_rfl) fun x_1 h_1 => ?_
    refine AcallW 1 false [] Q2 F3 (mkS [Cv 0 s0, (1, .v (.clo g1 [] e1)), Iv 7 v7, Iv 8 v8, Bv 9 true, Iv 5 v8, (11, .v (.clo g1 [] e1)), Cv 15 x_1] []) h1.f x_1 e1 [enc x_1] rfl rfl (by kernel_rfl) fun x_2 h_2 => ?_
    refine KifA (n := 2) (fo' := .rc C2) (fs' := F2) (t := x_2) (A := fun bb => (mkS [Cv 0 s0, (1, .v (.clo g1 [] e1)), Iv 7 v7, Iv 8 v8, Bv 9 true, Iv 5 v8, Bv 16 bb] [])) (by kernel_rfl) ?_ ?_
    · exact Kfin (by kernel_rfl)
    · exact Kfin (by kernel_rfl)
  · exact Kfin (by kernel_rfl)
theorem W1_ok (g1 : FuncId) (e1 : List V) (p1 : Event → Option Bool) (h1 : FnP S (callL S T) g1 e1 (fun z : Event => [enc z]) (fun r : Bool => [.bool r]) p1) (s0 : Sl Event) (v7 : Int) (v8 : Int) : Le ((W1 s0 v7 v8 p1).bind (fun r => some [.int .i64 r])) (rn S (callL S T) (finC [.s 4]) (.rc (.loop tW1)) F5 (mkS [Cv 0 s0, (1, .v (.clo g1 [] e1)), Iv 7 v7, Iv 8 v8] [])) := by
  unfold W1
  refine KloopA (n := 0) (fs := F5) (a := tW1) (eσ := W1_s S g1 e1 s0 v7) (eε := W1_e S g1 e1 s0 v7) (eρ := W1_r S g1 e1 s0 v7) (by kernel_rfl) (fun q => W1_step_ok g1 e1 p1 h1 s0 v7 q) ?_ ?_
  · intro e
    exact Kfin (by kernel_rfl)
  · intro e
    exact Kfin (by kernel_rfl)
end
end slices_IndexFunc_Event
noncomputable def slices_IndexFunc_Event (s0 : Sl Event) (p1 : Event → Option Bool) : Option Int :=
 slices_IndexFunc_Event.W1 s0 (len s0) 0 p1
open slices_IndexFunc_Event in
theorem slices_IndexFunc_Event_ok {S : Sys} {T : Tab} [F_slices_IndexFunc_Event S T] (g1 : FuncId) (e1 : List V) (p1 : Event → Option Bool) (h1 : FnP S (callL S T) g1 e1 (fun z : Event => [enc z]) (fun r : Bool => [.bool r]) p1) (s0 : Sl Event) : Le ((slices_IndexFunc_Event s0 p1).bind fun r => some [.int .i64 r]) (callC (callL S T) (S.N 2) [enc s0, .clo g1 [] e1]) := by
  refine Kfun (F_slices_IndexFunc_Event.t (S := S) (T := T)) (Nat.le_of_ble_eq_true rfl) ?_
  unfold slices_IndexFunc_Event
  refine Alen 9 false [] Q1 F1 (mkS [Cv 0 s0, (1, .v (.clo g1 [] e1)), Cv 6 s0] []) s0 rfl (by kernel_rfl) ?_
  exact Kadv (n := 5) (by kernel_rfl) (W1_ok g1 e1 p1 h1 s0 (len s0) 0)
theorem slices_IndexFunc_Event_fun {S : Sys} {T : Tab} [F_slices_IndexFunc_Event S T] (g1 : FuncId) (e1 : List V) (p1 : Event → Option Bool) (h1 : FnP S (callL S T) g1 e1 (fun z : Event => [enc z]) (fun r : Bool => [.bool r]) p1) : Fun S (callL S T) (S.N 2) (fun z : Sl Event => [enc z, .clo g1 [] e1]) (fun r : Int => [.int .i64 r]) (fun z => slices_IndexFunc_Event z p1) true where
  k := F_slices_IndexFunc_Event.k (S := S) (T := T)
  h z := slices_IndexFunc_Event_ok g1 e1 p1 h1 z
  l z := by simp [h1.d]
  r r := by simp
  s h r := by kernel_rfl
namespace slices_ContainsFunc_Event
def Q1 : List RO := o2 7 .c [.f 2, 5, 6] [5,6] ::
 o2 8 (bI .geq) [7, .k (.int .i64 0)] [7] ::
 o1 4 8 [8] ::
 []
def U1 : RC := .seq (.ops (o1 5 0 [0] ::
 o1 6 1 [1] ::
 Q1)) (.ret)
def text : RF := ⟨9, [.s 4], .seq (.ops (o1 4 (.k (.bool false)) [4] ::
 [])) (U1)⟩
def F1 : List Fm := [.seq .ret]
end slices_ContainsFunc_Event
class F_slices_ContainsFunc_Event (S : Sys) (T : Tab) : Prop where
  t : T (S.N 3) = some slices_ContainsFunc_Event.text
  k : S.E.keep (S.N 3) = false
  c0 : F_slices_IndexFunc_Event S T
attribute [instance] F_slices_ContainsFunc_Event.c0
namespace slices_ContainsFunc_Event
section
variable {S : Sys} {T : Tab} [F_slices_ContainsFunc_Event S T]
end
end slices_ContainsFunc_Event
noncomputable def slices_ContainsFunc_Event (s0 : Sl Event) (p1 : Event → Option Bool) : Option Bool :=
 (slices_IndexFunc_Event s0 p1).bind fun x_1 =>
 some (decide (x_1 ≥ 0))
open slices_ContainsFunc_Event in
theorem slices_ContainsFunc_Event_ok {S : Sys} {T : Tab} [F_slices_ContainsFunc_Event S T] (g1 : FuncId) (e1 : List V) (p1 : Event → Option Bool) (h1 : FnP S (callL S T) g1 e1 (fun z : Event => [enc z]) (fun r : Bool => [.bool r]) p1) (s0 : Sl Event) : Le ((slices_ContainsFunc_Event s0 p1).bind fun r => some [.bool r]) (callC (callL S T) (S.N 3) [enc s0, .clo g1 [] e1]) := by
  refine Kfun (F_slices_ContainsFunc_Event.t (S := S) (T := T)) (Nat.le_of_ble_eq_true rfl) ?_
  unfold slices_ContainsFunc_Event
  refine AcallV 9 [] Q1 F1 (mkS [Cv 5 s0, (6, .v (.clo g1 [] e1))] []) (slices_IndexFunc_Event_fun (S := S) (T := T) g1 e1 p1 h1) s0 rfl (by kernel_rfl) fun x_1 h_1 => ?_
  exact Kfin (by kernel_rfl)
theorem slices_ContainsFunc_Event_fun {S : Sys} {T : Tab} [F_slices_ContainsFunc_Event S T] (g1 : FuncId) (e1 : List V) (p1 : Event → Option Bool) (h1 : FnP S (callL S T) g1 e1 (fun z : Event => [enc z]) (fun r : Bool => [.bool r]) p1) : Fun S (callL S T) (S.N 3) (fun z : Sl Event => [enc z, .clo g1 [] e1]) (fun r : Bool => [.bool r]) (fun z => slices_ContainsFunc_Event z p1) true where
  k := F_slices_ContainsFunc_Event.k (S := S) (T := T)
  h z := slices_ContainsFunc_Event_ok g1 e1 p1 h1 z
  l z := by simp [h1.d]
  r r := by simp
  s h r := by kernel_rfl
namespace alaw40_size_c1
def Q2 : List RO := o2 1 (.a .box) [0] [0] ::
 o1 2 (.k (.bool false)) [2] ::
 []
def Q1 : List RO := o2 5 ln [4] [4] ::
 o2 6 (bI .gtr) [5, .k (.int .i64 12)] [5] ::
 o1 2 6 [6] ::
 []
def U1 : RC := .seq (.ops (o2 3 (fa 4) [1] [1] ::
 o2 4 (ld 1) [3] [3] ::
 Q1)) (.ret)
def text : RF := ⟨7, [.s 2], .seq (.ops Q2) (U1)⟩
def F1 : List Fm := [.seq .ret]
def F2 : List Fm := [.seq U1]
end alaw40_size_c1
class F_alaw40_size_c1 (S : Sys) (T : Tab) : Prop where
  t : T (S.N 4) = some alaw40_size_c1.text
  k : S.E.keep (S.N 4) = false
namespace alaw40_size_c1
section
variable {S : Sys} {T : Tab} [F_alaw40_size_c1 S T]
end
end alaw40_size_c1
noncomputable def alaw40_size_c1 (x0 : Event) : Option Bool :=
 some (decide ((len x0.assign) > 12))
open alaw40_size_c1 in
theorem alaw40_size_c1_ok {S : Sys} {T : Tab} [F_alaw40_size_c1 S T] (x0 : Event) : Le ((alaw40_size_c1 x0).bind fun r => some [.bool r]) (callC (callL S T) (S.N 4) [enc x0]) := by
  refine Kfun (F_alaw40_size_c1.t (S := S) (T := T)) (Nat.le_of_ble_eq_true rfl) ?_
  unfold alaw40_size_c1
  refine Abox 2 false [] Q2 F2 (mkS [Cv 0 x0] []) x0 rfl (by kernel_rfl) (by kernel_rfl) ?_
  refine Alen 7 false [] Q1 F1 (mkS [Cv 4 x0.assign] [Xb 1 x0]) x0.assign rfl (by kernel_rfl) ?_
  exact Kfin (by kernel_rfl)
theorem alaw40_size_c1_fun {S : Sys} {T : Tab} [F_alaw40_size_c1 S T] : Fun S (callL S T) (S.N 4) (fun z : Event => [enc z]) (fun r : Bool => [.bool r]) (fun z => alaw40_size_c1 z) true where
  k := F_alaw40_size_c1.k (S := S) (T := T)
  h z := alaw40_size_c1_ok z
  l z := by simp
  r r := by simp
  s h r := by kernel_rfl
namespace alaw40_size
def Q4 : List RO := o2 1 (.a .box) [0] [0] ::
 o1 2 (.k (.int .i64 0)) [2] ::
 []
def Q3 : List RO := o2 8 ln [7] [7] ::
 o2 9 (bI .gtr) [8, .k (.int .i64 10)] [8] ::
 []
def C1 : RC := .cond (.s 9) (.seq (.ops (o1 2 (.k (.int .i64 1000)) [] ::
 [])) (.gh (.keep [2] []) (.ret))) (.skip)
def Q2 : List RO := o2 12 ln [11] [] ::
 o1 13 (.k (.int .i64 0)) [] ::
 []
def C2 : RC := .cond (.s 14) (.skip) (.gh (.keep [3] []) (.exit 0))
def Q8 : List RO := oz (su 3) [5, 16] [16] ::
 []
def Q9 : List RO := o2 15 (ix 3) [11, 13] [] ::
 o2 16 (lD 3) [15] [15] ::
 o2 5 (.a (.alloc 3 [.str ByteArray.empty, .nsl, .nsl])) [] [] ::
 Q8
def Q7 : List RO := o2 20 ln [19] [19] ::
 o2 21 (bI .add) [17, 20] [17,20] ::
 o1 3 21 [21] ::
 []
def Q5 : List RO := o3 29 26 false .c [.f 3, 28, .f 4] [28] ::
 o2 30 (.p (.pick)) [26, .k (.bool true), 29] [26,29] ::
 []
def Q1 : List RO := o3 27 26 false (fa 2) [5] [5] ::
 o3 28 26 false (ld 1) [27] [27] ::
 Q5
def Q6 : List RO := o2 24 ln [23] [23] ::
 o2 25 (bI .gtr) [24, .k (.int .i64 12)] [24] ::
 o1 26 25 [25] ::
 Q1
def C3 : RC := .cond (.s 30) (.seq (.ops (o1 2 (.k (.int .i64 1000)) [] ::
 [])) (.gh (.keep [2] []) (.ret))) (.skip)
def U1 : RC := .seq (.ops (o2 22 (fa 1) [5] [] ::
 o2 23 (ld 1) [22] [22] ::
 Q6)) (C3)
def U2 : RC := .seq (.ops (o1 17 3 [3] ::
 o2 18 (fa 2) [5] [] ::
 o2 19 (ld 1) [18] [18] ::
 Q7)) (U1)
def U3 : RC := .ops (o2 31 (bI .add) [13, .k (.int .i64 1)] [13] ::
 o1 13 31 [31] ::
 [])
def U4 : RC := .seq (.block 1 (.seq (.ops Q9) (U2))) (U3)
def tW1 : RC := .hg (.seq (.ops (o2 14 (bI .lss) [13, 12] [] ::
 [])) (.seq (C2) (U4))) (.keep [3,11,12,13] [])
def U5 : RC := .block 0 (.gh (.keep [3,11,12,13] []) (.loop tW1))
def U6 : RC := .seq (.ops (o1 32 3 [3] ::
 o1 2 32 [32] ::
 [])) (.gh (.keep [2] []) (.ret))
def U7 : RC := .seq (.seq (.ops (o2 10 (fa 0) [1] [1] ::
 o2 11 (ld 1) [10] [10] ::
 Q2)) (U5)) (U6)
def U8 : RC := .seq (.ops (o1 3 (.k (.int .i64 0)) [] ::
 [])) (U7)
def U9 : RC := .seq (.seq (.ops (o2 6 (fa 0) [1] [] ::
 o2 7 (ld 1) [6] [6] ::
 Q3)) (C1)) (U8)
def text : RF := ⟨33, [.s 2], .seq (.ops Q4) (U9)⟩
def F3 : List Fm := [.seq U8]
def F5 : List Fm := [.seq U9]
def F2 : List Fm := [.seq U5, .seq U6]
def F4 : List Fm := .seq C1 :: F3
def F9 : List Fm := [.seq U4, .gst (.keep [3,11,12,13] [])]
def F10 : List Fm := [.blk 0, .seq U6]
def F6 : List Fm := [.blk 1, .seq U3, .gst (.keep [3,11,12,13] [])]
def F1 : List Fm := .seq C3 :: F6
def F7 : List Fm := .seq U1 :: F6
def F8 : List Fm := .seq U2 :: F6
end alaw40_size
class F_alaw40_size (S : Sys) (T : Tab) : Prop where
  t : T (S.N 5) = some alaw40_size.text
  k : S.E.keep (S.N 5) = false
  c0 : F_alaw40_size_c1 S T
  c1 : F_slices_ContainsFunc_Event S T
attribute [instance] F_alaw40_size.c0 F_alaw40_size.c1
namespace alaw40_size
section
variable {S : Sys} {T : Tab} [F_alaw40_size S T]
noncomputable def W1_step (v11 : Sl Proc) (v12 : Int) (n3 : Int) (v13 : Int) : Option (Fw (Int × Int) Int Unit) :=
 cif (decide (v13 < v12))
 ((idx v11 v13).bind fun x_1 =>
 (cif (decide ((len x_1.vars) > 12))
 (some true)
 ((slices_ContainsFunc_Event x_1.events (fun z => alaw40_size_c1 z)).bind fun x_2 =>
 some x_2) : Option Bool).bind fun x_3 =>
 cif x_3
 (some (.r ()))
 (some (.n (IntKind.wrap .i64 (n3 + (len x_1.events)), IntKind.wrap .i64 (v13 + 1)))))
 (some (.x n3))
noncomputable def W1 (n3 : Int) (v11 : Sl Proc) (v12 : Int) (v13 : Int) : Option Int :=
 (wloop (fun q : Int × Int => W1_step v11 v12 q.1 q.2) (n3, v13)).bind (Fw.elim
 (fun e => some e)
 (fun e => some 1000))
def W1_s (S : Sys) (v11 : Sl Proc) (v12 : Int) : Int × Int → St := fun q => (mkS [Iv 3 q.1, Cv 11 v11, Iv 12 v12, Iv 13 q.2] [])
def W1_e (S : Sys) (v11 : Sl Proc) (v12 : Int) : Int → Nat × St := fun e => (0, (mkS [Iv 3 e] []))
def W1_r (S : Sys) (v11 : Sl Proc) (v12 : Int) : Unit → St := fun e => (mkS [Iv 2 1000] [])
theorem W1_step_ok (v11 : Sl Proc) (v12 : Int) (n3 : Int) (v13 : Int) : Le ((W1_step v11 v12 n3 v13).bind (fun w => some (Fw.out (W1_s S v11 v12) (W1_e S v11 v12) (W1_r S v11 v12) w))) (rn S (callL S T) some (.rc tW1) [] (mkS [Iv 3 n3, Cv 11 v11, Iv 12 v12, Iv 13 v13] [])) := by
  unfold W1_step
  refine KifA (n := 7) (fo' := .rc C2) (fs' := F9) (t := decide (v13 < v12)) (A := fun bb => (mkS [Iv 3 n3, Cv 11 v11, Iv 12 v12, Iv 13 v13, Bv 14 bb] [])) (by kernel_rfl) ?_ ?_
  · refine Aidx 7 false [] Q9 F8 (mkS [Iv 3 n3, Cv 11 v11, Iv 12 v12, Iv 13 v13, Bv 14 true] []) .i64 rfl (by kernel_rfl) fun x_1 h_1 => ?_
    refine Ast 2 false [] Q8 F8 (mkS [Iv 3 n3, Cv 11 v11, Iv 12 v12, Iv 13 v13, Bv 14 true, Cv 16 x_1, Pv 5] [Xb 5 (⟨ByteArray.empty, Sl.nil, Sl.nil⟩ : Proc)]) 5 0 x_1 [.v (.str ByteArray.empty), .v .nsl, .v .nsl] [.v (.str x_1.name), cv x_1.vars, cv x_1.events] rfl (by kernel_rfl) ?_
    refine Alen 7 false [] Q7 F7 (mkS [Cv 11 v11, Iv 12 v12, Iv 13 v13, Bv 14 true, Pv 5, Iv 17 n3, Cv 19 x_1.events] [Xb 5 x_1]) x_1.events rfl (by kernel_rfl) ?_
    refine Alen 8 false [] Q6 F1 (mkS [Cv 11 v11, Iv 12 v12, Iv 13 v13, Bv 14 true, Pv 5, Iv 3 (IntKind.wrap .i64 (n3 + (len x_1.events))), Cv 23 x_1.vars] [Xb 5 x_1]) x_1.vars rfl (by kernel_rfl) ?_
    refine Kjoin (fun x_3 => rn S (callL S T) some (.ops false [] []) F1 (mkS [Cv 11 v11, Iv 12 v12, Iv 13 v13, Bv 14 true, Iv 3 (IntKind.wrap .i64 (n3 + (len x_1.events))), Bv 30 x_3] [Xb 5 x_1])) ?_ fun x_3 => ?_
    · refine KifA (n := 2) (fo' := .ops false [] Q1) (fs' := F1) (t := decide ((len x_1.vars) > 12)) (A := fun bb => (mkS [Cv 11 v11, Iv 12 v12, Iv 13 v13, Bv 14 true, Pv 5, Iv 3 (IntKind.wrap .i64 (n3 + (len x_1.events))), Bv 26 bb] [Xb 5 x_1])) (by kernel_rfl) ?_ ?_
      · exact Kend (n := 4) (by kernel_rfl) rfl
      · refine AcallV 2 [] Q5 F1 (mkS [Cv 11 v11, Iv 12 v12, Iv 13 v13, Bv 14 true, Iv 3 (IntKind.wrap .i64 (n3 + (len x_1.events))), Bv 26 false, Cv 28 x_1.events] [Xb 5 x_1]) (slices_ContainsFunc_Event_fun (S := S) (T := T) (S.N 4) [] (fun z => alaw40_size_c1 z) (FnP.of (alaw40_size_c1_fun (S := S) (T := T)) (fun z => z) (fun _ => rfl) (fun _ => rfl) (by simp))) x_1.events rfl (by kernel_rfl) fun x_2 h_2 => ?_
        exact Kend (n := 1) (by kernel_rfl) rfl
    · refine KifA (n := 2) (fo' := .rc C3) (fs' := F6) (t := x_3) (A := fun bb => (mkS [Cv 11 v11, Iv 12 v12, Iv 13 v13, Bv 14 true, Iv 3 (IntKind.wrap .i64 (n3 + (len x_1.events))), Bv 30 bb] [Xb 5 x_1])) (by kernel_rfl) ?_ ?_
      · exact Kfin (by kernel_rfl)
      · exact Kfin (by kernel_rfl)
  · exact Kfin (by kernel_rfl)
theorem W1_ok (n3 : Int) (v11 : Sl Proc) (v12 : Int) (v13 : Int) : Le ((W1 n3 v11 v12 v13).bind (fun r => some [.int .i64 r])) (rn S (callL S T) (finC [.s 2]) (.rc (.loop tW1)) F10 (mkS [Iv 3 n3, Cv 11 v11, Iv 12 v12, Iv 13 v13] [])) := by
  unfold W1
  refine KloopA (n := 0) (fs := F10) (a := tW1) (eσ := W1_s S v11 v12) (eε := W1_e S v11 v12) (eρ := W1_r S v11 v12) (by kernel_rfl) (fun q => W1_step_ok v11 v12 q.1 q.2) ?_ ?_
  · intro e
    exact Kfin (by kernel_rfl)
  · intro e
    exact Kfin (by kernel_rfl)
end
end alaw40_size
noncomputable def alaw40_size (t0 : Trace) : Option Int :=
 cif (decide ((len t0.procs) > 10))
 (some 1000)
 (alaw40_size.W1 0 t0.procs (len t0.procs) 0)
open alaw40_size in
theorem alaw40_size_ok {S : Sys} {T : Tab} [F_alaw40_size S T] (t0 : Trace) : Le ((alaw40_size t0).bind fun r => some [.int .i64 r]) (callC (callL S T) (S.N 5) [enc t0]) := by
  refine Kfun (F_alaw40_size.t (S := S) (T := T)) (Nat.le_of_ble_eq_true rfl) ?_
  unfold alaw40_size
  refine Abox 2 false [] Q4 F5 (mkS [Cv 0 t0] []) t0 rfl (by kernel_rfl) (by kernel_rfl) ?_
  refine Alen 8 false [] Q3 F4 (mkS [Pv 1, Cv 7 t0.procs] [Xb 1 t0]) t0.procs rfl (by kernel_rfl) ?_
  refine KifA (n := 3) (fo' := .rc C1) (fs' := F3) (t := decide ((len t0.procs) > 10)) (A := fun bb => (mkS [Pv 1, Bv 9 bb] [Xb 1 t0])) (by kernel_rfl) ?_ ?_
  · exact Kfin (by kernel_rfl)
  · refine Alen 13 false [] Q2 F2 (mkS [Bv 9 false, Iv 3 0, Cv 11 t0.procs] [Xb 1 t0]) t0.procs rfl (by kernel_rfl) ?_
    exact Kadv (n := 5) (by kernel_rfl) (W1_ok 0 t0.procs (len t0.procs) 0)
theorem alaw40_size_fun {S : Sys} {T : Tab} [F_alaw40_size S T] : Fun S (callL S T) (S.N 5) (fun z : Trace => [enc z]) (fun r : Int => [.int .i64 r]) (fun z => alaw40_size z) true where
  k := F_alaw40_size.k (S := S) (T := T)
  h z := alaw40_size_ok z
  l z := by simp
  r r := by simp
  s h r := by kernel_rfl
namespace trace_in
def Q2 : List RO := o1 6 14 [14] ::
 []
def Q1 : List RO := o3 11 10 true (.p (.id)) [0] [0] ::
 o3 12 10 true (.p (.id)) [2] [2] ::
 o3 13 10 true (bI .leq) [11, 12] [11,12] ::
 o2 14 (.p (.pick)) [10, 13, .k (.bool false)] [10,13] ::
 Q2
def U1 : RC := .seq (.ops (o1 7 0 [] ::
 o1 8 1 [1] ::
 o2 9 (bI .geq) [7, 8] [7,8] ::
 o1 10 9 [9] ::
 Q1)) (.ret)
def text : RF := ⟨15, [.s 6], .seq (.ops (o1 6 (.k (.bool false)) [6] ::
 [])) (U1)⟩
def F1 : List Fm := [.seq .ret]
end trace_in
class F_trace_in (S : Sys) (T : Tab) : Prop where
  t : T (S.N 6) = some trace_in.text
  k : S.E.keep (S.N 6) = false
namespace trace_in
section
variable {S : Sys} {T : Tab} [F_trace_in S T]
end
end trace_in
noncomputable def trace_in (x0 : Int) (low1 : Int) (high2 : Int) : Option Bool :=
 (cif (decide (x0 ≥ low1))
 (some (decide (x0 ≤ high2)))
 (some false) : Option Bool).bind fun x_1 =>
 some x_1
open trace_in in
theorem trace_in_ok {S : Sys} {T : Tab} [F_trace_in S T] (x0 : Int) (low1 : Int) (high2 : Int) : Le ((trace_in x0 low1 high2).bind fun r => some [.bool r]) (callC (callL S T) (S.N 6) [.int .i64 x0, .int .i64 low1, .int .i64 high2]) := by
  refine Kfun (F_trace_in.t (S := S) (T := T)) (Nat.le_of_ble_eq_true rfl) ?_
  unfold trace_in
  refine Kjoin (fun x_1 => rn S (callL S T) (finC [.s 6]) (.ops false [] Q2) F1 (mkS [Bv 14 x_1] [])) ?_ fun x_1 => ?_
  · refine KifA (n := 11) (fo' := .ops false [] Q1) (fs' := F1) (t := decide (x0 ≥ low1)) (A := fun bb => (mkS [Iv 0 x0, Iv 2 high2, Bv 10 bb] [])) (by kernel_rfl) ?_ ?_
    · exact Kend (n := 4) (by kernel_rfl) rfl
    · exact Kend (n := 4) (by kernel_rfl) rfl
  · exact Kfin (by kernel_rfl)
theorem trace_in_fun {S : Sys} {T : Tab} [F_trace_in S T] : Fun S (callL S T) (S.N 6) (fun z : Int × Int × Int => [.int .i64 z.1, .int .i64 z.2.1, .int .i64 z.2.2]) (fun r : Bool => [.bool r]) (fun z => trace_in z.1 z.2.1 z.2.2) true where
  k := F_trace_in.k (S := S) (T := T)
  h z := trace_in_ok z.1 z.2.1 z.2.2
  l z := by simp
  r r := by simp
  s h r := by kernel_rfl
namespace trace_letter
def Q5 : List RO := o1 2 16 [16] ::
 []
def Q4 : List RO := o2 16 (.p (.pick)) [9, .k (.bool true), 15] [9,15] ::
 Q5
def Q2 : List RO := o3 13 12 true (.p (.id)) [0] [0] ::
 o3 14 12 true (bI .leq) [13, .k (.int .u8 90)] [13] ::
 o3 15 9 false (.p (.pick)) [12, 14, .k (.bool false)] [12,14] ::
 Q4
def Q3 : List RO := o3 10 9 false (.p (.id)) [0] [] ::
 o3 11 9 false (bI .geq) [10, .k (.int .u8 65)] [10] ::
 o3 12 9 false (.p (.id)) [11] [11] ::
 Q2
def Q6 : List RO := o1 9 8 [8] ::
 Q3
def Q1 : List RO := o3 6 5 true (.p (.id)) [0] [] ::
 o3 7 5 true (bI .leq) [6, .k (.int .u8 122)] [6] ::
 o2 8 (.p (.pick)) [5, 7, .k (.bool false)] [5,7] ::
 Q6
def U1 : RC := .seq (.ops (o1 3 0 [] ::
 o2 4 (bI .geq) [3, .k (.int .u8 97)] [3] ::
 o1 5 4 [4] ::
 Q1)) (.ret)
def text : RF := ⟨17, [.s 2], .seq (.ops (o1 2 (.k (.bool false)) [2] ::
 [])) (U1)⟩
def F1 : List Fm := [.seq .ret]
end trace_letter
class F_trace_letter (S : Sys) (T : Tab) : Prop where
  t : T (S.N 7) = some trace_letter.text
  k : S.E.keep (S.N 7) = false
namespace trace_letter
section
variable {S : Sys} {T : Tab} [F_trace_letter S T]
end
end trace_letter
noncomputable def trace_letter (c0 : Int) : Option Bool :=
 (cif (decide (c0 ≥ 97))
 (some (decide (c0 ≤ 122)))
 (some false) : Option Bool).bind fun x_1 =>
 (cif x_1
 (some true)
 ((cif (decide (c0 ≥ 65))
 (some (decide (c0 ≤ 90)))
 (some false) : Option Bool).bind fun x_2 =>
 some x_2) : Option Bool).bind fun x_3 =>
 some x_3
open trace_letter in
theorem trace_letter_ok {S : Sys} {T : Tab} [F_trace_letter S T] (c0 : Int) : Le ((trace_letter c0).bind fun r => some [.bool r]) (callC (callL S T) (S.N 7) [.int .u8 c0]) := by
  refine Kfun (F_trace_letter.t (S := S) (T := T)) (Nat.le_of_ble_eq_true rfl) ?_
  unfold trace_letter
  refine Kjoin (fun x_1 => rn S (callL S T) (finC [.s 2]) (.ops false [] Q6) F1 (mkS [(0, .v (.int .u8 c0)), Bv 8 x_1] [])) ?_ fun x_1 => ?_
  · refine KifA (n := 10) (fo' := .ops false [] Q1) (fs' := F1) (t := decide (c0 ≥ 97)) (A := fun bb => (mkS [(0, .v (.int .u8 c0)), Bv 5 bb] [])) (by kernel_rfl) ?_ ?_
    · exact Kend (n := 3) (by kernel_rfl) rfl
    · exact Kend (n := 3) (by kernel_rfl) rfl
  · refine Kjoin (fun x_3 => rn S (callL S T) (finC [.s 2]) (.ops false [] Q5) F1 (mkS [Bv 16 x_3] [])) ?_ fun x_3 => ?_
    · refine KifA (n := 1) (fo' := .ops false [] Q3) (fs' := F1) (t := x_1) (A := fun bb => (mkS [(0, .v (.int .u8 c0)), Bv 9 bb] [])) (by kernel_rfl) ?_ ?_
      · exact Kend (n := 7) (by kernel_rfl) rfl
      · refine Kjoin (fun x_2 => rn S (callL S T) (finC [.s 2]) (.ops false [] Q4) F1 (mkS [Bv 9 false, Bv 15 x_2] [])) ?_ fun x_2 => ?_
        · refine KifA (n := 3) (fo' := .ops false [] Q2) (fs' := F1) (t := decide (c0 ≥ 65)) (A := fun bb => (mkS [(0, .v (.int .u8 c0)), Bv 9 false, Bv 12 bb] [])) (by kernel_rfl) ?_ ?_
          · exact Kend (n := 3) (by kernel_rfl) rfl
          · exact Kend (n := 3) (by kernel_rfl) rfl
        · exact Kend (n := 1) (by kernel_rfl) rfl
    · exact Kfin (by kernel_rfl)
theorem trace_letter_fun {S : Sys} {T : Tab} [F_trace_letter S T] : Fun S (callL S T) (S.N 7) (fun z : Int => [.int .u8 z]) (fun r : Bool => [.bool r]) (fun z => trace_letter z) true where
  k := F_trace_letter.k (S := S) (T := T)
  h z := trace_letter_ok z
  l z := by simp
  r r := by simp
  s h r := by kernel_rfl
namespace trace_digit
def Q2 : List RO := o1 2 8 [8] ::
 []
def Q1 : List RO := o3 6 5 true (.p (.id)) [0] [0] ::
 o3 7 5 true (bI .leq) [6, .k (.int .u8 57)] [6] ::
 o2 8 (.p (.pick)) [5, 7, .k (.bool false)] [5,7] ::
 Q2
def U1 : RC := .seq (.ops (o1 3 0 [] ::
 o2 4 (bI .geq) [3, .k (.int .u8 48)] [3] ::
 o1 5 4 [4] ::
 Q1)) (.ret)
def text : RF := ⟨9, [.s 2], .seq (.ops (o1 2 (.k (.bool false)) [2] ::
 [])) (U1)⟩
def F1 : List Fm := [.seq .ret]
end trace_digit
class F_trace_digit (S : Sys) (T : Tab) : Prop where
  t : T (S.N 8) = some trace_digit.text
  k : S.E.keep (S.N 8) = false
namespace trace_digit
section
variable {S : Sys} {T : Tab} [F_trace_digit S T]
end
end trace_digit
noncomputable def trace_digit (c0 : Int) : Option Bool :=
 (cif (decide (c0 ≥ 48))
 (some (decide (c0 ≤ 57)))
 (some false) : Option Bool).bind fun x_1 =>
 some x_1
open trace_digit in
theorem trace_digit_ok {S : Sys} {T : Tab} [F_trace_digit S T] (c0 : Int) : Le ((trace_digit c0).bind fun r => some [.bool r]) (callC (callL S T) (S.N 8) [.int .u8 c0]) := by
  refine Kfun (F_trace_digit.t (S := S) (T := T)) (Nat.le_of_ble_eq_true rfl) ?_
  unfold trace_digit
  refine Kjoin (fun x_1 => rn S (callL S T) (finC [.s 2]) (.ops false [] Q2) F1 (mkS [Bv 8 x_1] [])) ?_ fun x_1 => ?_
  · refine KifA (n := 10) (fo' := .ops false [] Q1) (fs' := F1) (t := decide (c0 ≥ 48)) (A := fun bb => (mkS [(0, .v (.int .u8 c0)), Bv 5 bb] [])) (by kernel_rfl) ?_ ?_
    · exact Kend (n := 3) (by kernel_rfl) rfl
    · exact Kend (n := 3) (by kernel_rfl) rfl
  · exact Kfin (by kernel_rfl)
theorem trace_digit_fun {S : Sys} {T : Tab} [F_trace_digit S T] : Fun S (callL S T) (S.N 8) (fun z : Int => [.int .u8 z]) (fun r : Bool => [.bool r]) (fun z => trace_digit z) true where
  k := F_trace_digit.k (S := S) (T := T)
  h z := trace_digit_ok z
  l z := by simp
  r r := by simp
  s h r := by kernel_rfl
namespace trace_isName
def Q5 : List RO := o3 14 11 false .c [.f 7, 13] [13] ::
 o3 15 11 false (.p (.not)) [14] [14] ::
 o2 16 (.p (.pick)) [11, .k (.bool true), 15] [11,15] ::
 []
def Q6 : List RO := o3 13 11 false (.p (.idxStr)) [12, .k (.int .i64 0)] [12] ::
 Q5
def Q2 : List RO := o3 12 11 false (.p (.id)) [0] [] ::
 Q6
def Q7 : List RO := o1 11 10 [10] ::
 Q2
def Q1 : List RO := o3 7 6 false (.p (.id)) [0] [] ::
 o3 8 6 false (.p (.lenStr)) [7] [7] ::
 o3 9 6 false (bI .gtr) [8, .k (.int .i64 16)] [8] ::
 o2 10 (.p (.pick)) [6, .k (.bool true), 9] [6,9] ::
 Q7
def C1 : RC := .cond (.s 16) (.seq (.ops (o1 2 (.k (.bool false)) [] ::
 [])) (.gh (.keep [2] []) (.ret))) (.skip)
def C2 : RC := .cond (.s 20) (.skip) (.gh (.keep [] []) (.exit 0))
def Q10 : List RO := o3 37 34 true (.p (.idxStr)) [35, 36] [35,36] ::
 o3 38 34 true (bI .neq) [37, .k (.int .u8 95)] [37] ::
 o2 39 (.p (.pick)) [34, 38, .k (.bool false)] [34,38] ::
 []
def Q4 : List RO := o3 35 34 true (.p (.id)) [0] [] ::
 o3 36 34 true (.p (.id)) [3] [3] ::
 Q10
def Q11 : List RO := o1 34 33 [33] ::
 Q4
def Q8 : List RO := o3 31 27 true .c [.f 8, 30] [30] ::
 o3 32 27 true (.p (.not)) [31] [31] ::
 o2 33 (.p (.pick)) [27, 32, .k (.bool false)] [27,32] ::
 Q11
def Q9 : List RO := o3 30 27 true (.p (.idxStr)) [28, 29] [28,29] ::
 Q8
def Q3 : List RO := o3 28 27 true (.p (.id)) [0] [] ::
 o3 29 27 true (.p (.id)) [3] [] ::
 Q9
def Q12 : List RO := o2 25 .c [.f 7, 24] [24] ::
 o2 26 (.p (.not)) [25] [25] ::
 o1 27 26 [26] ::
 Q3
def Q13 : List RO := o2 24 (.p (.idxStr)) [22, 23] [22,23] ::
 Q12
def C3 : RC := .cond (.s 39) (.seq (.ops (o1 2 (.k (.bool false)) [] ::
 [])) (.gh (.keep [2] []) (.ret))) (.skip)
def U1 : RC := .seq (.ops (o1 22 0 [] ::
 o1 23 3 [] ::
 Q13)) (C3)
def U2 : RC := .ops (o2 40 (bI .add) [19, .k (.int .i64 1)] [19] ::
 o1 19 40 [40] ::
 [])
def U3 : RC := .seq (.block 1 (.seq (.ops (o1 21 19 [] ::
 o1 3 21 [21] ::
 [])) (U1))) (U2)
def tW1 : RC := .hg (.seq (.ops (o2 20 (bI .lss) [19, 18] [] ::
 [])) (.seq (C2) (U3))) (.keep [0,18,19] [])
def U4 : RC := .block 0 (.gh (.keep [0,18,19] []) (.loop tW1))
def U5 : RC := .seq (.ops (o1 2 (.k (.bool true)) [] ::
 [])) (.gh (.keep [2] []) (.ret))
def U6 : RC := .seq (.seq (.ops (o1 17 0 [] ::
 o2 18 (.p (.lenStr)) [17] [17] ::
 o1 19 (.k (.int .i64 0)) [] ::
 [])) (U4)) (U5)
def U7 : RC := .seq (.seq (.ops (o1 4 0 [] ::
 o2 5 (.p (.bin (some .str) none .eql)) [4, .k (.str ByteArray.empty)] [4] ::
 o1 6 5 [5] ::
 Q1)) (C1)) (U6)
def text : RF := ⟨41, [.s 2], .seq (.ops (o1 2 (.k (.bool false)) [2] ::
 [])) (U7)⟩
def F3 : List Fm := [.seq U6]
def F1 : List Fm := .seq C1 :: F3
def F5 : List Fm := [.seq U3, .gst (.keep [0,18,19] [])]
def F6 : List Fm := [.blk 0, .seq U5]
def F4 : List Fm := [.blk 1, .seq U2, .gst (.keep [0,18,19] [])]
def F2 : List Fm := .seq C3 :: F4
end trace_isName
class F_trace_isName (S : Sys) (T : Tab) : Prop where
  t : T (S.N 9) = some trace_isName.text
  k : S.E.keep (S.N 9) = false
  c0 : F_trace_digit S T
  c1 : F_trace_letter S T
attribute [instance] F_trace_isName.c0 F_trace_isName.c1
namespace trace_isName
section
variable {S : Sys} {T : Tab} [F_trace_isName S T]
noncomputable def W1_step (s0 : ByteArray) (v18 : Int) (v19 : Int) : Option (Fw Int Unit Unit) :=
 cif (decide (v19 < v18))
 ((strIdx s0 v19).bind fun x_1 =>
 (trace_letter x_1).bind fun x_2 =>
 (cif x_2
 (some false)
 ((strIdx s0 v19).bind fun x_3 =>
 (trace_digit x_3).bind fun x_4 =>
 some (!x_4)) : Option Bool).bind fun x_5 =>
 (cif x_5
 ((strIdx s0 v19).bind fun x_6 =>
 some (!(x_6 == 95)))
 (some false) : Option Bool).bind fun x_7 =>
 cif x_7
 (some (.r ()))
 (some (.n (IntKind.wrap .i64 (v19 + 1)))))
 (some (.x ()))
noncomputable def W1 (s0 : ByteArray) (v18 : Int) (v19 : Int) : Option Bool :=
 (wloop (fun q : Int => W1_step s0 v18 q) v19).bind (Fw.elim
 (fun e => some true)
 (fun e => some false))
def W1_s (S : Sys) (s0 : ByteArray) (v18 : Int) : Int → St := fun q => (mkS [(0, .v (.str s0)), Iv 18 v18, Iv 19 q] [])
def W1_e (S : Sys) (s0 : ByteArray) (v18 : Int) : Unit → Nat × St := fun e => (0, (mkS [] []))
def W1_r (S : Sys) (s0 : ByteArray) (v18 : Int) : Unit → St := fun e => (mkS [Bv 2 false] [])
theorem W1_step_ok (s0 : ByteArray) (v18 : Int) (v19 : Int) : Le ((W1_step s0 v18 v19).bind (fun w => some (Fw.out (W1_s S s0 v18) (W1_e S s0 v18) (W1_r S s0 v18) w))) (rn S (callL S T) some (.rc tW1) [] (mkS [(0, .v (.str s0)), Iv 18 v18, Iv 19 v19] [])) := by
  unfold W1_step
  refine KifA (n := 7) (fo' := .rc C2) (fs' := F5) (t := decide (v19 < v18)) (A := fun bb => (mkS [(0, .v (.str s0)), Iv 18 v18, Iv 19 v19, Bv 20 bb] [])) (by kernel_rfl) ?_ ?_
  · refine Achr 15 false [] Q13 F2 (mkS [(0, .v (.str s0)), Iv 18 v18, Iv 19 v19, Bv 20 true, Iv 3 v19, (22, .v (.str s0)), Iv 23 v19] []) .i64 rfl (by kernel_rfl) fun x_1 h_1 => ?_
    refine AcallV 0 [] Q12 F2 (mkS [(0, .v (.str s0)), Iv 18 v18, Iv 19 v19, Bv 20 true, Iv 3 v19, (24, .v (.int .u8 x_1))] []) (trace_letter_fun (S := S) (T := T)) x_1 rfl (by kernel_rfl) fun x_2 h_2 => ?_
    refine Kjoin (fun x_5 => rn S (callL S T) some (.ops false [] Q11) F2 (mkS [(0, .v (.str s0)), Iv 18 v18, Iv 19 v19, Bv 20 true, Iv 3 v19, Bv 33 x_5] [])) ?_ fun x_5 => ?_
    · refine KifA (n := 2) (fo' := .ops false [] Q3) (fs' := F2) (t := x_2) (A := fun bb => (mkS [(0, .v (.str s0)), Iv 18 v18, Iv 19 v19, Bv 20 true, Iv 3 v19, Bv 27 (!bb)] [])) (by kernel_rfl) ?_ ?_
      · exact Kend (n := 6) (by kernel_rfl) rfl
      · refine Achr 2 false [] Q9 F2 (mkS [(0, .v (.str s0)), Iv 18 v18, Iv 19 v19, Bv 20 true, Iv 3 v19, Bv 27 true, (28, .v (.str s0)), Iv 29 v19] []) .i64 rfl (by kernel_rfl) fun x_3 h_3 => ?_
        refine AcallV 0 [] Q8 F2 (mkS [(0, .v (.str s0)), Iv 18 v18, Iv 19 v19, Bv 20 true, Iv 3 v19, Bv 27 true, (30, .v (.int .u8 x_3))] []) (trace_digit_fun (S := S) (T := T)) x_3 rfl (by kernel_rfl) fun x_4 h_4 => ?_
        exact Kend (n := 2) (by kernel_rfl) rfl
    · refine Kjoin (fun x_7 => rn S (callL S T) some (.ops false [] []) F2 (mkS [(0, .v (.str s0)), Iv 18 v18, Iv 19 v19, Bv 20 true, Bv 39 x_7] [])) ?_ fun x_7 => ?_
      · refine KifA (n := 1) (fo' := .ops false [] Q4) (fs' := F2) (t := x_5) (A := fun bb => (mkS [(0, .v (.str s0)), Iv 18 v18, Iv 19 v19, Bv 20 true, Iv 3 v19, Bv 34 bb] [])) (by kernel_rfl) ?_ ?_
        · refine Achr 2 false [] Q10 F2 (mkS [(0, .v (.str s0)), Iv 18 v18, Iv 19 v19, Bv 20 true, Bv 34 true, (35, .v (.str s0)), Iv 36 v19] []) .i64 rfl (by kernel_rfl) fun x_6 h_6 => ?_
          exact Kend (n := 2) (by kernel_rfl) rfl
        · exact Kend (n := 5) (by kernel_rfl) rfl
      · refine KifA (n := 2) (fo' := .rc C3) (fs' := F4) (t := x_7) (A := fun bb => (mkS [(0, .v (.str s0)), Iv 18 v18, Iv 19 v19, Bv 20 true, Bv 39 bb] [])) (by kernel_rfl) ?_ ?_
        · exact Kfin (by kernel_rfl)
        · exact Kfin (by kernel_rfl)
  · exact Kfin (by kernel_rfl)
theorem W1_ok (s0 : ByteArray) (v18 : Int) (v19 : Int) : Le ((W1 s0 v18 v19).bind (fun r => some [.bool r])) (rn S (callL S T) (finC [.s 2]) (.rc (.loop tW1)) F6 (mkS [(0, .v (.str s0)), Iv 18 v18, Iv 19 v19] [])) := by
  unfold W1
  refine KloopA (n := 0) (fs := F6) (a := tW1) (eσ := W1_s S s0 v18) (eε := W1_e S s0 v18) (eρ := W1_r S s0 v18) (by kernel_rfl) (fun q => W1_step_ok s0 v18 q) ?_ ?_
  · intro e
    exact Kfin (by kernel_rfl)
  · intro e
    exact Kfin (by kernel_rfl)
end
end trace_isName
noncomputable def trace_isName (s0 : ByteArray) : Option Bool :=
 (cif (ByteArray.toList s0 == ByteArray.toList ByteArray.empty)
 (some true)
 (some (decide (((ByteArray.size s0 : Nat) : Int) > 16))) : Option Bool).bind fun x_1 =>
 (cif x_1
 (some true)
 ((strIdx s0 0).bind fun x_2 =>
 (trace_letter x_2).bind fun x_3 =>
 some (!x_3)) : Option Bool).bind fun x_4 =>
 cif x_4
 (some false)
 (trace_isName.W1 s0 ((ByteArray.size s0 : Nat) : Int) 0)
open trace_isName in
theorem trace_isName_ok {S : Sys} {T : Tab} [F_trace_isName S T] (s0 : ByteArray) : Le ((trace_isName s0).bind fun r => some [.bool r]) (callC (callL S T) (S.N 9) [.str s0]) := by
  refine Kfun (F_trace_isName.t (S := S) (T := T)) (Nat.le_of_ble_eq_true rfl) ?_
  unfold trace_isName
  refine Kjoin (fun x_1 => rn S (callL S T) (finC [.s 2]) (.ops false [] Q7) F1 (mkS [(0, .v (.str s0)), Bv 10 x_1] [])) ?_ fun x_1 => ?_
  · refine KifA (n := 11) (fo' := .ops false [] Q1) (fs' := F1) (t := (ByteArray.toList s0 == ByteArray.toList ByteArray.empty)) (A := fun bb => (mkS [(0, .v (.str s0)), Bv 6 bb] [])) (by kernel_rfl) ?_ ?_
    · exact Kend (n := 4) (by kernel_rfl) rfl
    · exact Kend (n := 4) (by kernel_rfl) rfl
  · refine Kjoin (fun x_4 => rn S (callL S T) (finC [.s 2]) (.ops false [] []) F1 (mkS [(0, .v (.str s0)), Bv 16 x_4] [])) ?_ fun x_4 => ?_
    · refine KifA (n := 1) (fo' := .ops false [] Q2) (fs' := F1) (t := x_1) (A := fun bb => (mkS [(0, .v (.str s0)), Bv 11 bb] [])) (by kernel_rfl) ?_ ?_
      · exact Kend (n := 5) (by kernel_rfl) rfl
      · refine Achr 1 false [] Q6 F1 (mkS [(0, .v (.str s0)), Bv 11 false, (12, .v (.str s0))] []) .i64 rfl (by kernel_rfl) fun x_2 h_2 => ?_
        refine AcallV 0 [] Q5 F1 (mkS [(0, .v (.str s0)), Bv 11 false, (13, .v (.int .u8 x_2))] []) (trace_letter_fun (S := S) (T := T)) x_2 rfl (by kernel_rfl) fun x_3 h_3 => ?_
        exact Kend (n := 2) (by kernel_rfl) rfl
    · refine KifA (n := 2) (fo' := .rc C1) (fs' := F3) (t := x_4) (A := fun bb => (mkS [(0, .v (.str s0)), Bv 16 bb] [])) (by kernel_rfl) ?_ ?_
      · exact Kfin (by kernel_rfl)
      · exact Kadv (n := 13) (by kernel_rfl) (W1_ok s0 ((ByteArray.size s0 : Nat) : Int) 0)
theorem trace_isName_fun {S : Sys} {T : Tab} [F_trace_isName S T] : Fun S (callL S T) (S.N 9) (fun z : ByteArray => [.str z]) (fun r : Bool => [.bool r]) (fun z => trace_isName z) true where
  k := F_trace_isName.k (S := S) (T := T)
  h z := trace_isName_ok z
  l z := by simp
  r r := by simp
  s h r := by kernel_rfl
namespace trace_processFault_c1
def Q1 : List RO := o2 2 (.a .box) [0] [0] ::
 o1 3 (.k (.bool false)) [3] ::
 []
def U1 : RC := .seq (.ops (o2 4 (fa 0) [2] [2] ::
 o2 5 (ld 1) [4] [4] ::
 o2 6 (fa 0) [1] [1] ::
 o2 7 (ld 1) [6] [6] ::
 o2 8 (.p (.bin (some .str) none .eql)) [5, 7] [5,7] ::
 o1 3 8 [8] ::
 [])) (.ret)
def text : RF := ⟨9, [.s 3], .seq (.ops Q1) (U1)⟩
def F1 : List Fm := [.seq U1]
end trace_processFault_c1
class F_trace_processFault_c1 (S : Sys) (T : Tab) : Prop where
  t : T (S.N 10) = some trace_processFault_c1.text
  k : S.E.keep (S.N 10) = false
namespace trace_processFault_c1
section
variable {S : Sys} {T : Tab} [F_trace_processFault_c1 S T]
end
end trace_processFault_c1
noncomputable def trace_processFault_c1 (y0 : Proc) (v1 : Proc) : Option Bool :=
 some (ByteArray.toList y0.name == ByteArray.toList v1.name)
open trace_processFault_c1 in
theorem trace_processFault_c1_ok {S : Sys} {T : Tab} [F_trace_processFault_c1 S T] (y0 : Proc) (v1 : Proc) : Le ((trace_processFault_c1 y0 v1).bind fun r => some [.bool r]) (callC (callL S T) (S.N 10) [enc y0, .fptr (cells v1)]) := by
  refine Kfun (F_trace_processFault_c1.t (S := S) (T := T)) (Nat.le_of_ble_eq_true rfl) ?_
  unfold trace_processFault_c1
  refine Abox 2 false [] Q1 F1 (mkS [Cv 0 y0, Kv 1 v1] []) y0 rfl (by kernel_rfl) (by kernel_rfl) ?_
  exact Kfin (by kernel_rfl)
theorem trace_processFault_c1_fun {S : Sys} {T : Tab} [F_trace_processFault_c1 S T] : Fun S (callL S T) (S.N 10) (fun z : Proc × Proc => [enc z.1, .fptr (cells z.2)]) (fun r : Bool => [.bool r]) (fun z => trace_processFault_c1 z.1 z.2) true where
  k := F_trace_processFault_c1.k (S := S) (T := T)
  h z := trace_processFault_c1_ok z.1 z.2
  l z := by simp
  r r := by simp
  s h r := by kernel_rfl
namespace slices_IndexFunc_Proc
def Q1 : List RO := o2 7 ln [6] [6] ::
 o1 8 (.k (.int .i64 0)) [] ::
 []
def C1 : RC := .cond (.s 9) (.skip) (.gh (.keep [] []) (.exit 0))
def Q2 : List RO := o2 16 .c [11, 15] [11,15] ::
 []
def Q3 : List RO := o2 14 (ix 3) [12, 13] [12,13] ::
 o2 15 (lD 3) [14] [14] ::
 Q2
def C2 : RC := .cond (.s 16) (.seq (.ops (o1 17 5 [5] ::
 o1 4 17 [17] ::
 [])) (.gh (.keep [4] []) (.ret))) (.skip)
def U1 : RC := .seq (.ops (o1 11 1 [] ::
 o1 12 0 [] ::
 o1 13 5 [] ::
 Q3)) (C2)
def U2 : RC := .ops (o2 18 (bI .add) [8, .k (.int .i64 1)] [8] ::
 o1 8 18 [18] ::
 [])
def U3 : RC := .seq (.block 1 (.seq (.ops (o1 10 8 [] ::
 o1 5 10 [10] ::
 [])) (U1))) (U2)
def tW1 : RC := .hg (.seq (.ops (o2 9 (bI .lss) [8, 7] [] ::
 [])) (.seq (C1) (U3))) (.keep [0,1,7,8] [])
def U4 : RC := .block 0 (.gh (.keep [0,1,7,8] []) (.loop tW1))
def U5 : RC := .seq (.ops (o1 4 (.k (.int .i64 (-1))) [] ::
 [])) (.gh (.keep [4] []) (.ret))
def U6 : RC := .seq (.seq (.ops (o1 6 0 [] ::
 Q1)) (U4)) (U5)
def text : RF := ⟨19, [.s 4], .seq (.ops (o1 4 (.k (.int .i64 0)) [4] ::
 [])) (U6)⟩
def F1 : List Fm := [.seq U4, .seq U5]
def F4 : List Fm := [.seq U3, .gst (.keep [0,1,7,8] [])]
def F5 : List Fm := [.blk 0, .seq U5]
def F2 : List Fm := [.blk 1, .seq U2, .gst (.keep [0,1,7,8] [])]
def F3 : List Fm := .seq C2 :: F2
end slices_IndexFunc_Proc
class F_slices_IndexFunc_Proc (S : Sys) (T : Tab) : Prop where
  t : T (S.N 11) = some slices_IndexFunc_Proc.text
  k : S.E.keep (S.N 11) = false
namespace slices_IndexFunc_Proc
section
variable {S : Sys} {T : Tab} [F_slices_IndexFunc_Proc S T]
noncomputable def W1_step (s0 : Sl Proc) (v7 : Int) (v8 : Int) (p1 : Proc → Option Bool) : Option (Fw Int Unit Int) :=
 cif (decide (v8 < v7))
 ((idx s0 v8).bind fun x_1 =>
 (p1 x_1).bind fun x_2 =>
 cif x_2
 (some (.r v8))
 (some (.n (IntKind.wrap .i64 (v8 + 1)))))
 (some (.x ()))
noncomputable def W1 (s0 : Sl Proc) (v7 : Int) (v8 : Int) (p1 : Proc → Option Bool) : Option Int :=
 (wloop (fun q : Int => W1_step s0 v7 q p1) v8).bind (Fw.elim
 (fun e => some (-1))
 (fun e => some e))
def W1_s (S : Sys) (g1 : FuncId) (e1 : List V) (s0 : Sl Proc) (v7 : Int) : Int → St := fun q => (mkS [Cv 0 s0, (1, .v (.clo g1 [] e1)), Iv 7 v7, Iv 8 q] [])
def W1_e (S : Sys) (g1 : FuncId) (e1 : List V) (s0 : Sl Proc) (v7 : Int) : Unit → Nat × St := fun e => (0, (mkS [] []))
def W1_r (S : Sys) (g1 : FuncId) (e1 : List V) (s0 : Sl Proc) (v7 : Int) : Int → St := fun e => (mkS [Iv 4 e] [])
theorem W1_step_ok (g1 : FuncId) (e1 : List V) (p1 : Proc → Option Bool) (h1 : FnP S (callL S T) g1 e1 (fun z : Proc => [enc z]) (fun r : Bool => [.bool r]) p1) (s0 : Sl Proc) (v7 : Int) (v8 : Int) : Le ((W1_step s0 v7 v8 p1).bind (fun w => some (Fw.out (W1_s S g1 e1 s0 v7) (W1_e S g1 e1 s0 v7) (W1_r S g1 e1 s0 v7) w))) (rn S (callL S T) some (.rc tW1) [] (mkS [Cv 0 s0, (1, .v (.clo g1 [] e1)), Iv 7 v7, Iv 8 v8] [])) := by
  unfold W1_step
  refine KifA (n := 7) (fo' := .rc C1) (fs' := F4) (t := decide (v8 < v7)) (A := fun bb => (mkS [Cv 0 s0, (1, .v (.clo g1 [] e1)), Iv 7 v7, Iv 8 v8, Bv 9 bb] [])) (by kernel_rfl) ?_ ?_
  · refine Aidx 16 false [] Q3 F3 (mkS [Cv 0 s0, (1, .v (.clo g1 [] e1)), Iv 7 v7, Iv 8 v8, Bv 9 true, Iv 5 v8, (11, .v (.clo g1 [] e1)), Cv 12 s0, Iv 13 v8] []) .i64 rfl (by kernel_rfl) fun x_1 h_1 => ?_
    refine AcallW 1 false [] Q2 F3 (mkS [Cv 0 s0, (1, .v (.clo g1 [] e1)), Iv 7 v7, Iv 8 v8, Bv 9 true, Iv 5 v8, (11, .v (.clo g1 [] e1)), Cv 15 x_1] []) h1.f x_1 e1 [enc x_1] rfl rfl (by kernel_rfl) fun x_2 h_2 => ?_
    refine KifA (n := 2) (fo' := .rc C2) (fs' := F2) (t := x_2) (A := fun bb => (mkS [Cv 0 s0, (1, .v (.clo g1 [] e1)), Iv 7 v7, Iv 8 v8, Bv 9 true, Iv 5 v8, Bv 16 bb] [])) (by kernel_rfl) ?_ ?_
    · exact Kfin (by kernel_rfl)
    · exact Kfin (by kernel_rfl)
  · exact Kfin (by kernel_rfl)
theorem W1_ok (g1 : FuncId) (e1 : List V) (p1 : Proc → Option Bool) (h1 : FnP S (callL S T) g1 e1 (fun z : Proc => [enc z]) (fun r : Bool => [.bool r]) p1) (s0 : Sl Proc) (v7 : Int) (v8 : Int) : Le ((W1 s0 v7 v8 p1).bind (fun r => some [.int .i64 r])) (rn S (callL S T) (finC [.s 4]) (.rc (.loop tW1)) F5 (mkS [Cv 0 s0, (1, .v (.clo g1 [] e1)), Iv 7 v7, Iv 8 v8] [])) := by
  unfold W1
  refine KloopA (n := 0) (fs := F5) (a := tW1) (eσ := W1_s S g1 e1 s0 v7) (eε := W1_e S g1 e1 s0 v7) (eρ := W1_r S g1 e1 s0 v7) (by kernel_rfl) (fun q => W1_step_ok g1 e1 p1 h1 s0 v7 q) ?_ ?_
  · intro e
    exact Kfin (by kernel_rfl)
  · intro e
    exact Kfin (by kernel_rfl)
end
end slices_IndexFunc_Proc
noncomputable def slices_IndexFunc_Proc (s0 : Sl Proc) (p1 : Proc → Option Bool) : Option Int :=
 slices_IndexFunc_Proc.W1 s0 (len s0) 0 p1
open slices_IndexFunc_Proc in
theorem slices_IndexFunc_Proc_ok {S : Sys} {T : Tab} [F_slices_IndexFunc_Proc S T] (g1 : FuncId) (e1 : List V) (p1 : Proc → Option Bool) (h1 : FnP S (callL S T) g1 e1 (fun z : Proc => [enc z]) (fun r : Bool => [.bool r]) p1) (s0 : Sl Proc) : Le ((slices_IndexFunc_Proc s0 p1).bind fun r => some [.int .i64 r]) (callC (callL S T) (S.N 11) [enc s0, .clo g1 [] e1]) := by
  refine Kfun (F_slices_IndexFunc_Proc.t (S := S) (T := T)) (Nat.le_of_ble_eq_true rfl) ?_
  unfold slices_IndexFunc_Proc
  refine Alen 9 false [] Q1 F1 (mkS [Cv 0 s0, (1, .v (.clo g1 [] e1)), Cv 6 s0] []) s0 rfl (by kernel_rfl) ?_
  exact Kadv (n := 5) (by kernel_rfl) (W1_ok g1 e1 p1 h1 s0 (len s0) 0)
theorem slices_IndexFunc_Proc_fun {S : Sys} {T : Tab} [F_slices_IndexFunc_Proc S T] (g1 : FuncId) (e1 : List V) (p1 : Proc → Option Bool) (h1 : FnP S (callL S T) g1 e1 (fun z : Proc => [enc z]) (fun r : Bool => [.bool r]) p1) : Fun S (callL S T) (S.N 11) (fun z : Sl Proc => [enc z, .clo g1 [] e1]) (fun r : Int => [.int .i64 r]) (fun z => slices_IndexFunc_Proc z p1) true where
  k := F_slices_IndexFunc_Proc.k (S := S) (T := T)
  h z := slices_IndexFunc_Proc_ok g1 e1 p1 h1 z
  l z := by simp [h1.d]
  r r := by simp
  s h r := by kernel_rfl
namespace slices_ContainsFunc_Proc
def Q1 : List RO := o2 7 .c [.f 11, 5, 6] [5,6] ::
 o2 8 (bI .geq) [7, .k (.int .i64 0)] [7] ::
 o1 4 8 [8] ::
 []
def U1 : RC := .seq (.ops (o1 5 0 [0] ::
 o1 6 1 [1] ::
 Q1)) (.ret)
def text : RF := ⟨9, [.s 4], .seq (.ops (o1 4 (.k (.bool false)) [4] ::
 [])) (U1)⟩
def F1 : List Fm := [.seq .ret]
end slices_ContainsFunc_Proc
class F_slices_ContainsFunc_Proc (S : Sys) (T : Tab) : Prop where
  t : T (S.N 12) = some slices_ContainsFunc_Proc.text
  k : S.E.keep (S.N 12) = false
  c0 : F_slices_IndexFunc_Proc S T
attribute [instance] F_slices_ContainsFunc_Proc.c0
namespace slices_ContainsFunc_Proc
section
variable {S : Sys} {T : Tab} [F_slices_ContainsFunc_Proc S T]
end
end slices_ContainsFunc_Proc
noncomputable def slices_ContainsFunc_Proc (s0 : Sl Proc) (p1 : Proc → Option Bool) : Option Bool :=
 (slices_IndexFunc_Proc s0 p1).bind fun x_1 =>
 some (decide (x_1 ≥ 0))
open slices_ContainsFunc_Proc in
theorem slices_ContainsFunc_Proc_ok {S : Sys} {T : Tab} [F_slices_ContainsFunc_Proc S T] (g1 : FuncId) (e1 : List V) (p1 : Proc → Option Bool) (h1 : FnP S (callL S T) g1 e1 (fun z : Proc => [enc z]) (fun r : Bool => [.bool r]) p1) (s0 : Sl Proc) : Le ((slices_ContainsFunc_Proc s0 p1).bind fun r => some [.bool r]) (callC (callL S T) (S.N 12) [enc s0, .clo g1 [] e1]) := by
  refine Kfun (F_slices_ContainsFunc_Proc.t (S := S) (T := T)) (Nat.le_of_ble_eq_true rfl) ?_
  unfold slices_ContainsFunc_Proc
  refine AcallV 9 [] Q1 F1 (mkS [Cv 5 s0, (6, .v (.clo g1 [] e1))] []) (slices_IndexFunc_Proc_fun (S := S) (T := T) g1 e1 p1 h1) s0 rfl (by kernel_rfl) fun x_1 h_1 => ?_
  exact Kfin (by kernel_rfl)
theorem slices_ContainsFunc_Proc_fun {S : Sys} {T : Tab} [F_slices_ContainsFunc_Proc S T] (g1 : FuncId) (e1 : List V) (p1 : Proc → Option Bool) (h1 : FnP S (callL S T) g1 e1 (fun z : Proc => [enc z]) (fun r : Bool => [.bool r]) p1) : Fun S (callL S T) (S.N 12) (fun z : Sl Proc => [enc z, .clo g1 [] e1]) (fun r : Bool => [.bool r]) (fun z => slices_ContainsFunc_Proc z p1) true where
  k := F_slices_ContainsFunc_Proc.k (S := S) (T := T)
  h z := slices_ContainsFunc_Proc_ok g1 e1 p1 h1 z
  l z := by simp [h1.d]
  r r := by simp
  s h r := by kernel_rfl
namespace trace_processFault_c2
def U1 : RC := .seq (.ops (o2 4 (fa 0) [2] [2] ::
 o2 5 (ld 1) [4] [4] ::
 o2 6 (fa 0) [1] [1] ::
 o2 7 (ld 1) [6] [6] ::
 o2 8 (.p (.bin (some .str) none .eql)) [5, 7] [5,7] ::
 o1 3 8 [8] ::
 [])) (.ret)
def text : RF := ⟨9, [.s 3], .seq (.ops (o2 2 (.a .box) [0] [0] ::
 o1 3 (.k (.bool false)) [3] ::
 [])) (U1)⟩
end trace_processFault_c2
class F_trace_processFault_c2 (S : Sys) (T : Tab) : Prop where
  t : T (S.N 13) = some trace_processFault_c2.text
  k : S.E.keep (S.N 13) = false
namespace trace_processFault_c2
section
variable {S : Sys} {T : Tab} [F_trace_processFault_c2 S T]
end
end trace_processFault_c2
noncomputable def trace_processFault_c2 (w0 : Var) (v1 : Var) : Option Bool :=
 some (ByteArray.toList w0.name == ByteArray.toList v1.name)
open trace_processFault_c2 in
theorem trace_processFault_c2_ok {S : Sys} {T : Tab} [F_trace_processFault_c2 S T] (w0 : Var) (v1 : Var) : Le ((trace_processFault_c2 w0 v1).bind fun r => some [.bool r]) (callC (callL S T) (S.N 13) [enc w0, .fptr (cells v1)]) := by
  refine Kfun (F_trace_processFault_c2.t (S := S) (T := T)) (Nat.le_of_ble_eq_true rfl) ?_
  unfold trace_processFault_c2
  exact Kfin (by kernel_rfl)
theorem trace_processFault_c2_fun {S : Sys} {T : Tab} [F_trace_processFault_c2 S T] : Fun S (callL S T) (S.N 13) (fun z : Var × Var => [enc z.1, .fptr (cells z.2)]) (fun r : Bool => [.bool r]) (fun z => trace_processFault_c2 z.1 z.2) true where
  k := F_trace_processFault_c2.k (S := S) (T := T)
  h z := trace_processFault_c2_ok z.1 z.2
  l z := by simp
  r r := by simp
  s h r := by kernel_rfl
namespace slices_IndexFunc_Var
def Q1 : List RO := o2 7 ln [6] [6] ::
 o1 8 (.k (.int .i64 0)) [] ::
 []
def C1 : RC := .cond (.s 9) (.skip) (.gh (.keep [] []) (.exit 0))
def Q2 : List RO := o2 16 .c [11, 15] [11,15] ::
 []
def Q3 : List RO := o2 14 (ix 2) [12, 13] [12,13] ::
 o2 15 (lD 2) [14] [14] ::
 Q2
def C2 : RC := .cond (.s 16) (.seq (.ops (o1 17 5 [5] ::
 o1 4 17 [17] ::
 [])) (.gh (.keep [4] []) (.ret))) (.skip)
def U1 : RC := .seq (.ops (o1 11 1 [] ::
 o1 12 0 [] ::
 o1 13 5 [] ::
 Q3)) (C2)
def U2 : RC := .ops (o2 18 (bI .add) [8, .k (.int .i64 1)] [8] ::
 o1 8 18 [18] ::
 [])
def U3 : RC := .seq (.block 1 (.seq (.ops (o1 10 8 [] ::
 o1 5 10 [10] ::
 [])) (U1))) (U2)
def tW1 : RC := .hg (.seq (.ops (o2 9 (bI .lss) [8, 7] [] ::
 [])) (.seq (C1) (U3))) (.keep [0,1,7,8] [])
def U4 : RC := .block 0 (.gh (.keep [0,1,7,8] []) (.loop tW1))
def U5 : RC := .seq (.ops (o1 4 (.k (.int .i64 (-1))) [] ::
 [])) (.gh (.keep [4] []) (.ret))
def U6 : RC := .seq (.seq (.ops (o1 6 0 [] ::
 Q1)) (U4)) (U5)
def text : RF := ⟨19, [.s 4], .seq (.ops (o1 4 (.k (.int .i64 0)) [4] ::
 [])) (U6)⟩
def F1 : List Fm := [.seq U4, .seq U5]
def F4 : List Fm := [.seq U3, .gst (.keep [0,1,7,8] [])]
def F5 : List Fm := [.blk 0, .seq U5]
def F2 : List Fm := [.blk 1, .seq U2, .gst (.keep [0,1,7,8] [])]
def F3 : List Fm := .seq C2 :: F2
end slices_IndexFunc_Var
class F_slices_IndexFunc_Var (S : Sys) (T : Tab) : Prop where
  t : T (S.N 14) = some slices_IndexFunc_Var.text
  k : S.E.keep (S.N 14) = false
namespace slices_IndexFunc_Var
section
variable {S : Sys} {T : Tab} [F_slices_IndexFunc_Var S T]
noncomputable def W1_step (s0 : Sl Var) (v7 : Int) (v8 : Int) (p1 : Var → Option Bool) : Option (Fw Int Unit Int) :=
 cif (decide (v8 < v7))
 ((idx s0 v8).bind fun x_1 =>
 (p1 x_1).bind fun x_2 =>
 cif x_2
 (some (.r v8))
 (some (.n (IntKind.wrap .i64 (v8 + 1)))))
 (some (.x ()))
noncomputable def W1 (s0 : Sl Var) (v7 : Int) (v8 : Int) (p1 : Var → Option Bool) : Option Int :=
 (wloop (fun q : Int => W1_step s0 v7 q p1) v8).bind (Fw.elim
 (fun e => some (-1))
 (fun e => some e))
def W1_s (S : Sys) (g1 : FuncId) (e1 : List V) (s0 : Sl Var) (v7 : Int) : Int → St := fun q => (mkS [Cv 0 s0, (1, .v (.clo g1 [] e1)), Iv 7 v7, Iv 8 q] [])
def W1_e (S : Sys) (g1 : FuncId) (e1 : List V) (s0 : Sl Var) (v7 : Int) : Unit → Nat × St := fun e => (0, (mkS [] []))
def W1_r (S : Sys) (g1 : FuncId) (e1 : List V) (s0 : Sl Var) (v7 : Int) : Int → St := fun e => (mkS [Iv 4 e] [])
theorem W1_step_ok (g1 : FuncId) (e1 : List V) (p1 : Var → Option Bool) (h1 : FnP S (callL S T) g1 e1 (fun z : Var => [enc z]) (fun r : Bool => [.bool r]) p1) (s0 : Sl Var) (v7 : Int) (v8 : Int) : Le ((W1_step s0 v7 v8 p1).bind (fun w => some (Fw.out (W1_s S g1 e1 s0 v7) (W1_e S g1 e1 s0 v7) (W1_r S g1 e1 s0 v7) w))) (rn S (callL S T) some (.rc tW1) [] (mkS [Cv 0 s0, (1, .v (.clo g1 [] e1)), Iv 7 v7, Iv 8 v8] [])) := by
  unfold W1_step
  refine KifA (n := 7) (fo' := .rc C1) (fs' := F4) (t := decide (v8 < v7)) (A := fun bb => (mkS [Cv 0 s0, (1, .v (.clo g1 [] e1)), Iv 7 v7, Iv 8 v8, Bv 9 bb] [])) (by kernel_rfl) ?_ ?_
  · refine Aidx 16 false [] Q3 F3 (mkS [Cv 0 s0, (1, .v (.clo g1 [] e1)), Iv 7 v7, Iv 8 v8, Bv 9 true, Iv 5 v8, (11, .v (.clo g1 [] e1)), Cv 12 s0, Iv 13 v8] []) .i64 rfl (by kernel_rfl) fun x_1 h_1 => ?_
    refine AcallW 1 false [] Q2 F3 (mkS [Cv 0 s0, (1, .v (.clo g1 [] e1)), Iv 7 v7, Iv 8 v8, Bv 9 true, Iv 5 v8, (11, .v (.clo g1 [] e1)), Cv 15 x_1] []) h1.f x_1 e1 [enc x_1] rfl rfl (by kernel_rfl) fun x_2 h_2 => ?_
    refine KifA (n := 2) (fo' := .rc C2) (fs' := F2) (t := x_2) (A := fun bb => (mkS [Cv 0 s0, (1, .v (.clo g1 [] e1)), Iv 7 v7, Iv 8 v8, Bv 9 true, Iv 5 v8, Bv 16 bb] [])) (by kernel_rfl) ?_ ?_
    · exact Kfin (by kernel_rfl)
    · exact Kfin (by kernel_rfl)
  · exact Kfin (by kernel_rfl)
theorem W1_ok (g1 : FuncId) (e1 : List V) (p1 : Var → Option Bool) (h1 : FnP S (callL S T) g1 e1 (fun z : Var => [enc z]) (fun r : Bool => [.bool r]) p1) (s0 : Sl Var) (v7 : Int) (v8 : Int) : Le ((W1 s0 v7 v8 p1).bind (fun r => some [.int .i64 r])) (rn S (callL S T) (finC [.s 4]) (.rc (.loop tW1)) F5 (mkS [Cv 0 s0, (1, .v (.clo g1 [] e1)), Iv 7 v7, Iv 8 v8] [])) := by
  unfold W1
  refine KloopA (n := 0) (fs := F5) (a := tW1) (eσ := W1_s S g1 e1 s0 v7) (eε := W1_e S g1 e1 s0 v7) (eρ := W1_r S g1 e1 s0 v7) (by kernel_rfl) (fun q => W1_step_ok g1 e1 p1 h1 s0 v7 q) ?_ ?_
  · intro e
    exact Kfin (by kernel_rfl)
  · intro e
    exact Kfin (by kernel_rfl)
end
end slices_IndexFunc_Var
noncomputable def slices_IndexFunc_Var (s0 : Sl Var) (p1 : Var → Option Bool) : Option Int :=
 slices_IndexFunc_Var.W1 s0 (len s0) 0 p1
open slices_IndexFunc_Var in
theorem slices_IndexFunc_Var_ok {S : Sys} {T : Tab} [F_slices_IndexFunc_Var S T] (g1 : FuncId) (e1 : List V) (p1 : Var → Option Bool) (h1 : FnP S (callL S T) g1 e1 (fun z : Var => [enc z]) (fun r : Bool => [.bool r]) p1) (s0 : Sl Var) : Le ((slices_IndexFunc_Var s0 p1).bind fun r => some [.int .i64 r]) (callC (callL S T) (S.N 14) [enc s0, .clo g1 [] e1]) := by
  refine Kfun (F_slices_IndexFunc_Var.t (S := S) (T := T)) (Nat.le_of_ble_eq_true rfl) ?_
  unfold slices_IndexFunc_Var
  refine Alen 9 false [] Q1 F1 (mkS [Cv 0 s0, (1, .v (.clo g1 [] e1)), Cv 6 s0] []) s0 rfl (by kernel_rfl) ?_
  exact Kadv (n := 5) (by kernel_rfl) (W1_ok g1 e1 p1 h1 s0 (len s0) 0)
theorem slices_IndexFunc_Var_fun {S : Sys} {T : Tab} [F_slices_IndexFunc_Var S T] (g1 : FuncId) (e1 : List V) (p1 : Var → Option Bool) (h1 : FnP S (callL S T) g1 e1 (fun z : Var => [enc z]) (fun r : Bool => [.bool r]) p1) : Fun S (callL S T) (S.N 14) (fun z : Sl Var => [enc z, .clo g1 [] e1]) (fun r : Int => [.int .i64 r]) (fun z => slices_IndexFunc_Var z p1) true where
  k := F_slices_IndexFunc_Var.k (S := S) (T := T)
  h z := slices_IndexFunc_Var_ok g1 e1 p1 h1 z
  l z := by simp [h1.d]
  r r := by simp
  s h r := by kernel_rfl
namespace slices_ContainsFunc_Var
def Q1 : List RO := o2 7 .c [.f 14, 5, 6] [5,6] ::
 o2 8 (bI .geq) [7, .k (.int .i64 0)] [7] ::
 o1 4 8 [8] ::
 []
def U1 : RC := .seq (.ops (o1 5 0 [0] ::
 o1 6 1 [1] ::
 Q1)) (.ret)
def text : RF := ⟨9, [.s 4], .seq (.ops (o1 4 (.k (.bool false)) [4] ::
 [])) (U1)⟩
def F1 : List Fm := [.seq .ret]
end slices_ContainsFunc_Var
class F_slices_ContainsFunc_Var (S : Sys) (T : Tab) : Prop where
  t : T (S.N 15) = some slices_ContainsFunc_Var.text
  k : S.E.keep (S.N 15) = false
  c0 : F_slices_IndexFunc_Var S T
attribute [instance] F_slices_ContainsFunc_Var.c0
namespace slices_ContainsFunc_Var
section
variable {S : Sys} {T : Tab} [F_slices_ContainsFunc_Var S T]
end
end slices_ContainsFunc_Var
noncomputable def slices_ContainsFunc_Var (s0 : Sl Var) (p1 : Var → Option Bool) : Option Bool :=
 (slices_IndexFunc_Var s0 p1).bind fun x_1 =>
 some (decide (x_1 ≥ 0))
open slices_ContainsFunc_Var in
theorem slices_ContainsFunc_Var_ok {S : Sys} {T : Tab} [F_slices_ContainsFunc_Var S T] (g1 : FuncId) (e1 : List V) (p1 : Var → Option Bool) (h1 : FnP S (callL S T) g1 e1 (fun z : Var => [enc z]) (fun r : Bool => [.bool r]) p1) (s0 : Sl Var) : Le ((slices_ContainsFunc_Var s0 p1).bind fun r => some [.bool r]) (callC (callL S T) (S.N 15) [enc s0, .clo g1 [] e1]) := by
  refine Kfun (F_slices_ContainsFunc_Var.t (S := S) (T := T)) (Nat.le_of_ble_eq_true rfl) ?_
  unfold slices_ContainsFunc_Var
  refine AcallV 9 [] Q1 F1 (mkS [Cv 5 s0, (6, .v (.clo g1 [] e1))] []) (slices_IndexFunc_Var_fun (S := S) (T := T) g1 e1 p1 h1) s0 rfl (by kernel_rfl) fun x_1 h_1 => ?_
  exact Kfin (by kernel_rfl)
theorem slices_ContainsFunc_Var_fun {S : Sys} {T : Tab} [F_slices_ContainsFunc_Var S T] (g1 : FuncId) (e1 : List V) (p1 : Var → Option Bool) (h1 : FnP S (callL S T) g1 e1 (fun z : Var => [enc z]) (fun r : Bool => [.bool r]) p1) : Fun S (callL S T) (S.N 15) (fun z : Sl Var => [enc z, .clo g1 [] e1]) (fun r : Bool => [.bool r]) (fun z => slices_ContainsFunc_Var z p1) true where
  k := F_slices_ContainsFunc_Var.k (S := S) (T := T)
  h z := slices_ContainsFunc_Var_ok g1 e1 p1 h1 z
  l z := by simp [h1.d]
  r r := by simp
  s h r := by kernel_rfl
namespace trace_processFault
def Q11 : List RO := o2 2 (.a .box) [0] [0] ::
 o1 4 (.k (.int .i64 0)) [4] ::
 []
def Q9 : List RO := oz (su 3) [5, 12] [12] ::
 []
def Q10 : List RO := o2 11 (ix 3) [9, 10] [9,10] ::
 o2 12 (lD 3) [11] [11] ::
 o2 5 (.a (.alloc 3 [.str ByteArray.empty, .nsl, .nsl])) [] [] ::
 Q9
def Q7 : List RO := o1 13 25 [25] ::
 []
def Q3 : List RO := o3 24 18 false .c [.f 12, 22, 23] [22,23] ::
 o2 25 (.p (.pick)) [18, .k (.bool true), 24] [18,24] ::
 Q7
def Q4 : List RO := o3 22 18 false (.p (.slice 3 false true)) [20, 21] [20,21] ::
 o3 23 18 false (.p (.clo 10 0)) [5] [] ::
 Q3
def Q1 : List RO := o3 19 18 false (fa 0) [2] [2] ::
 o3 20 18 false (ld 1) [19] [19] ::
 o3 21 18 false (.p (.id)) [1] [1] ::
 Q4
def Q8 : List RO := o2 16 .c [.f 9, 15] [15] ::
 o2 17 (.p (.not)) [16] [16] ::
 o1 18 17 [17] ::
 Q1
def Q6 : List RO := o2 29 ln [28] [28] ::
 o2 30 (bI .gtr) [29, .k (.int .i64 8)] [29] ::
 o1 26 30 [30] ::
 []
def C2 : RC := .cond (.s 26) (.seq (.ops (o1 4 (.k (.int .i64 5)) [] ::
 [])) (.gh (.keep [4] []) (.ret))) (.skip)
def C1 : RC := .cond (.s 13) (.seq (.ops (o1 4 (.k (.int .i64 13)) [] ::
 [])) (.gh (.keep [4] []) (.ret))) (.seq (.ops (o2 27 (fa 1) [5] [] ::
 o2 28 (ld 1) [27] [27] ::
 Q6)) (C2))
def Q5 : List RO := o2 33 ln [32] [] ::
 o1 34 (.k (.int .i64 0)) [] ::
 []
def C3 : RC := .cond (.s 35) (.skip) (.gh (.keep [5] [5]) (.exit 1))
def Q17 : List RO := o2 37 (ix 2) [32, 34] [] ::
 o2 38 (lD 2) [37] [37] ::
 o2 7 (.a (.alloc 2 [.str ByteArray.empty, .int .i64 0])) [] [] ::
 o1 6 36 [36] ::
 oz (su 2) [7, 38] [38] ::
 []
def Q15 : List RO := o1 39 51 [51] ::
 []
def Q12 : List RO := o3 50 44 false .c [.f 15, 48, 49] [48,49] ::
 o2 51 (.p (.pick)) [44, .k (.bool true), 50] [44,50] ::
 Q15
def Q13 : List RO := o3 48 44 false (.p (.slice 2 false true)) [46, 47] [46,47] ::
 o3 49 44 false (.p (.clo 13 0)) [7] [] ::
 Q12
def Q2 : List RO := o3 45 44 false (fa 1) [5] [] ::
 o3 46 44 false (ld 1) [45] [45] ::
 o3 47 44 false (.p (.id)) [6] [6] ::
 Q13
def Q16 : List RO := o2 42 .c [.f 9, 41] [41] ::
 o2 43 (.p (.not)) [42] [42] ::
 o1 44 43 [43] ::
 Q2
def Q14 : List RO := o2 55 .c [.f 6, 54, .k (.int .i64 (-1073741824)), .k (.int .i64 1073741824)] [54] ::
 o2 56 (.p (.not)) [55] [55] ::
 o1 52 56 [56] ::
 []
def C5 : RC := .cond (.s 52) (.seq (.ops (o1 4 (.k (.int .i64 2)) [] ::
 [])) (.gh (.keep [4] []) (.ret))) (.skip)
def C4 : RC := .cond (.s 39) (.seq (.ops (o1 4 (.k (.int .i64 13)) [] ::
 [])) (.gh (.keep [4] []) (.ret))) (.seq (.ops (o2 53 (fa 1) [7] [7] ::
 o2 54 (ld 1) [53] [53] ::
 Q14)) (C5))
def U1 : RC := .block 3 (.seq (.ops (o2 40 (fa 0) [7] [] ::
 o2 41 (ld 1) [40] [40] ::
 Q16)) (C4))
def U2 : RC := .ops (o2 57 (bI .add) [34, .k (.int .i64 1)] [34] ::
 o1 34 57 [57] ::
 [])
def U3 : RC := .seq (.block 2 (.seq (.ops (o1 36 34 [] ::
 Q17)) (U1))) (U2)
def tW1 : RC := .hg (.seq (.ops (o2 35 (bI .lss) [34, 33] [] ::
 [])) (.seq (C3) (U3))) (.keep [5,32,33,34] [5])
def U4 : RC := .block 1 (.gh (.keep [5,32,33,34] [5]) (.loop tW1))
def Q18 : List RO := o2 60 ln [59] [59] ::
 o2 61 (bI .gtr) [60, .k (.int .i64 64)] [60] ::
 []
def C6 : RC := .cond (.s 61) (.seq (.ops (o1 4 (.k (.int .i64 5)) [] ::
 [])) (.gh (.keep [4] []) (.ret))) (.skip)
def U5 : RC := .seq (.ops (o1 4 (.k (.int .i64 0)) [] ::
 [])) (.gh (.keep [4] []) (.ret))
def U6 : RC := .seq (.seq (.ops (o2 58 (fa 2) [5] [5] ::
 o2 59 (ld 1) [58] [58] ::
 Q18)) (C6)) (U5)
def U7 : RC := .seq (.seq (.ops (o2 31 (fa 1) [5] [] ::
 o2 32 (ld 1) [31] [31] ::
 Q5)) (U4)) (U6)
def U8 : RC := .seq (.block 0 (.seq (.ops (o2 14 (fa 0) [5] [] ::
 o2 15 (ld 1) [14] [14] ::
 Q8)) (C1))) (U7)
def U9 : RC := .seq (.ops (o2 8 (fa 0) [2] [] ::
 o2 9 (ld 1) [8] [8] ::
 o1 10 1 [] ::
 Q10)) (U8)
def text : RF := ⟨62, [.s 4], .seq (.ops Q11) (U9)⟩
def F6 : List Fm := [.seq U8]
def F7 : List Fm := [.seq U9]
def F12 : List Fm := [.seq U5]
def F3 : List Fm := [.seq U4, .seq U6]
def F4 : List Fm := [.blk 0, .seq U7]
def F11 : List Fm := [.seq U3, .gst (.keep [5,32,33,34] [5])]
def F13 : List Fm := .seq C6 :: F12
def F14 : List Fm := [.blk 1, .seq U6]
def F1 : List Fm := .seq C1 :: F4
def F5 : List Fm := .seq C2 :: F4
def F8 : List Fm := [.blk 3, .blk 2, .seq U2, .gst (.keep [5,32,33,34] [5])]
def F10 : List Fm := [.seq U1, .blk 2, .seq U2, .gst (.keep [5,32,33,34] [5])]
def F2 : List Fm := .seq C4 :: F8
def F9 : List Fm := .seq C5 :: F8
end trace_processFault
class F_trace_processFault (S : Sys) (T : Tab) : Prop where
  t : T (S.N 16) = some trace_processFault.text
  k : S.E.keep (S.N 16) = false
  c0 : F_trace_in S T
  c1 : F_trace_isName S T
  c2 : F_trace_processFault_c1 S T
  c3 : F_trace_processFault_c2 S T
  c4 : F_slices_ContainsFunc_Proc S T
  c5 : F_slices_ContainsFunc_Var S T
attribute [instance] F_trace_processFault.c0 F_trace_processFault.c1 F_trace_processFault.c2 F_trace_processFault.c3 F_trace_processFault.c4 F_trace_processFault.c5
namespace trace_processFault
section
variable {S : Sys} {T : Tab} [F_trace_processFault S T]
noncomputable def W1_step (v32 : Sl Var) (v33 : Int) (xb5 : Proc) (v34 : Int) : Option (Fw Int Unit Int) :=
 cif (decide (v34 < v33))
 ((idx v32 v34).bind fun x_1 =>
 (trace_isName x_1.name).bind fun x_2 =>
 (cif x_2
 ((slPart xb5.vars none (some v34)).bind fun x_3 =>
 (slices_ContainsFunc_Var x_3 (fun z => trace_processFault_c2 z x_1)).bind fun x_4 =>
 some x_4)
 (some true) : Option Bool).bind fun x_5 =>
 cif x_5
 (some (.r 13))
 ((trace_in x_1.init_ (-1073741824) 1073741824).bind fun x_6 =>
 cif x_6
 (some (.n (IntKind.wrap .i64 (v34 + 1))))
 (some (.r 2))))
 (some (.x ()))
noncomputable def W1 (v32 : Sl Var) (v33 : Int) (v34 : Int) (xb5 : Proc) : Option Int :=
 (wloop (fun q : Int => W1_step v32 v33 xb5 q) v34).bind (Fw.elim
 (fun e => cif (decide ((len xb5.events) > 64))
 (some 5)
 (some 0))
 (fun e => some e))
def W1_s (S : Sys) (v32 : Sl Var) (v33 : Int) (xb5 : Proc) : Int → St := fun q => (mkS [Pv 5, Cv 32 v32, Iv 33 v33, Iv 34 q] [Xb 5 xb5])
def W1_e (S : Sys) (v32 : Sl Var) (v33 : Int) (xb5 : Proc) : Unit → Nat × St := fun e => (1, (mkS [Pv 5] [Xb 5 xb5]))
def W1_r (S : Sys) (v32 : Sl Var) (v33 : Int) (xb5 : Proc) : Int → St := fun e => (mkS [Iv 4 e] [])
theorem W1_step_ok (v32 : Sl Var) (v33 : Int) (xb5 : Proc) (v34 : Int) : Le ((W1_step v32 v33 xb5 v34).bind (fun w => some (Fw.out (W1_s S v32 v33 xb5) (W1_e S v32 v33 xb5) (W1_r S v32 v33 xb5) w))) (rn S (callL S T) some (.rc tW1) [] (mkS [Pv 5, Cv 32 v32, Iv 33 v33, Iv 34 v34] [Xb 5 xb5])) := by
  unfold W1_step
  refine KifA (n := 7) (fo' := .rc C3) (fs' := F11) (t := decide (v34 < v33)) (A := fun bb => (mkS [Pv 5, Cv 32 v32, Iv 33 v33, Iv 34 v34, Bv 35 bb] [Xb 5 xb5])) (by kernel_rfl) ?_ ?_
  · refine Aidx 8 false [] Q17 F10 (mkS [Pv 5, Cv 32 v32, Iv 33 v33, Iv 34 v34, Bv 35 true, Iv 36 v34] [Xb 5 xb5]) .i64 rfl (by kernel_rfl) fun x_1 h_1 => ?_
    refine AcallV 11 [] Q16 F2 (mkS [Pv 5, Cv 32 v32, Iv 33 v33, Iv 34 v34, Bv 35 true, Pv 7, Iv 6 v34, (41, .v (.str x_1.name))] [Xb 5 xb5, Xb 7 x_1]) (trace_isName_fun (S := S) (T := T)) x_1.name rfl (by kernel_rfl) fun x_2 h_2 => ?_
    refine Kjoin (fun x_5 => rn S (callL S T) some (.ops false [] Q15) F2 (mkS [Pv 5, Cv 32 v32, Iv 33 v33, Iv 34 v34, Bv 35 true, Pv 7, Bv 51 x_5] [Xb 5 xb5, Xb 7 x_1])) ?_ fun x_5 => ?_
    · refine KifA (n := 2) (fo' := .ops false [] Q2) (fs' := F2) (t := x_2) (A := fun bb => (mkS [Pv 5, Cv 32 v32, Iv 33 v33, Iv 34 v34, Bv 35 true, Pv 7, Iv 6 v34, Bv 44 (!bb)] [Xb 5 xb5, Xb 7 x_1])) (by kernel_rfl) ?_ ?_
      · refine Acut 3 false [] Q13 F2 (mkS [Pv 5, Cv 32 v32, Iv 33 v33, Iv 34 v34, Bv 35 true, Pv 7, Bv 44 false, Cv 46 xb5.vars, Iv 47 v34] [Xb 5 xb5, Xb 7 x_1]) false true [.int .i64 v34] rfl (by kernel_rfl) fun x_3 h_3 => ?_
        refine AcallS 1 false [] Q12 F2 (mkS [Pv 5, Cv 32 v32, Iv 33 v33, Iv 34 v34, Bv 35 true, Pv 7, Bv 44 false, Cv 48 x_3, (49, .clo (S.N 13) [] [.ptr 7 0])] [Xb 5 xb5, Xb 7 x_1]) (slices_ContainsFunc_Var_fun (S := S) (T := T) (S.N 13) [.fptr (cells x_1)] (fun z => trace_processFault_c2 z x_1) (FnP.of (trace_processFault_c2_fun (S := S) (T := T)) (fun z => (z, x_1)) (fun _ => rfl) (fun _ => rfl) (by simp))) x_3 [.v (.clo (S.N 15) [] []), cv x_3, .clo (S.N 13) [] [.ptr 7 0]] [cv x_3, .clo (S.N 13) [] [.ptr 7 0]] rfl (by kernel_rfl) fun x_4 h_4 => ?_
        exact Kend (n := 1) (by kernel_rfl) rfl
      · exact Kend (n := 7) (by kernel_rfl) rfl
    · refine KifA (n := 3) (fo' := .rc C4) (fs' := F8) (t := x_5) (A := fun bb => (mkS [Pv 5, Cv 32 v32, Iv 33 v33, Iv 34 v34, Bv 35 true, Pv 7, Bv 39 bb] [Xb 5 xb5, Xb 7 x_1])) (by kernel_rfl) ?_ ?_
      · exact Kfin (by kernel_rfl)
      · refine AcallV 5 [] Q14 F9 (mkS [Pv 5, Cv 32 v32, Iv 33 v33, Iv 34 v34, Bv 35 true, Bv 39 false, Iv 54 x_1.init_] [Xb 5 xb5, Xb 7 x_1]) (trace_in_fun (S := S) (T := T)) (x_1.init_, (-1073741824), 1073741824) rfl (by kernel_rfl) fun x_6 h_6 => ?_
        refine KifA (n := 4) (fo' := .rc C5) (fs' := F8) (t := x_6) (A := fun bb => (mkS [Pv 5, Cv 32 v32, Iv 33 v33, Iv 34 v34, Bv 35 true, Bv 39 false, Bv 52 (!bb)] [Xb 5 xb5, Xb 7 x_1])) (by kernel_rfl) ?_ ?_
        · exact Kfin (by kernel_rfl)
        · exact Kfin (by kernel_rfl)
  · exact Kfin (by kernel_rfl)
theorem W1_ok (v32 : Sl Var) (v33 : Int) (v34 : Int) (xb5 : Proc) : Le ((W1 v32 v33 v34 xb5).bind (fun r => some [.int .i64 r])) (rn S (callL S T) (finC [.s 4]) (.rc (.loop tW1)) F14 (mkS [Pv 5, Cv 32 v32, Iv 33 v33, Iv 34 v34] [Xb 5 xb5])) := by
  unfold W1
  refine KloopA (n := 0) (fs := F14) (a := tW1) (eσ := W1_s S v32 v33 xb5) (eε := W1_e S v32 v33 xb5) (eρ := W1_r S v32 v33 xb5) (by kernel_rfl) (fun q => W1_step_ok v32 v33 xb5 q) ?_ ?_
  · intro e
    refine Alen 7 false [] Q18 F13 (mkS [Cv 59 xb5.events] [Xb 5 xb5]) xb5.events rfl (by kernel_rfl) ?_
    refine KifA (n := 3) (fo' := .rc C6) (fs' := F12) (t := decide ((len xb5.events) > 64)) (A := fun bb => (mkS [Bv 61 bb] [Xb 5 xb5])) (by kernel_rfl) ?_ ?_
    · exact Kfin (by kernel_rfl)
    · exact Kfin (by kernel_rfl)
  · intro e
    exact Kfin (by kernel_rfl)
end
end trace_processFault
noncomputable def trace_processFault (t0 : Trace) (p1 : Int) : Option Int :=
 (idx t0.procs p1).bind fun x_1 =>
 (trace_isName x_1.name).bind fun x_2 =>
 (cif x_2
 ((slPart t0.procs none (some p1)).bind fun x_3 =>
 (slices_ContainsFunc_Proc x_3 (fun z => trace_processFault_c1 z x_1)).bind fun x_4 =>
 some x_4)
 (some true) : Option Bool).bind fun x_5 =>
 cif x_5
 (some 13)
 (cif (decide ((len x_1.vars) > 8))
 (some 5)
 (trace_processFault.W1 x_1.vars (len x_1.vars) 0 x_1))
open trace_processFault in
theorem trace_processFault_ok {S : Sys} {T : Tab} [F_trace_processFault S T] (t0 : Trace) (p1 : Int) : Le ((trace_processFault t0 p1).bind fun r => some [.int .i64 r]) (callC (callL S T) (S.N 16) [enc t0, .int .i64 p1]) := by
  refine Kfun (F_trace_processFault.t (S := S) (T := T)) (Nat.le_of_ble_eq_true rfl) ?_
  unfold trace_processFault
  refine Abox 2 false [] Q11 F7 (mkS [Cv 0 t0, Iv 1 p1] []) t0 rfl (by kernel_rfl) (by kernel_rfl) ?_
  refine Aidx 8 false [] Q10 F6 (mkS [Iv 1 p1, Pv 2, Cv 9 t0.procs, Iv 10 p1] [Xb 2 t0]) .i64 rfl (by kernel_rfl) fun x_1 h_1 => ?_
  refine Ast 2 false [] Q9 F6 (mkS [Iv 1 p1, Pv 2, Cv 12 x_1, Pv 5] [Xb 2 t0, Xb 5 (⟨ByteArray.empty, Sl.nil, Sl.nil⟩ : Proc)]) 5 0 x_1 [.v (.str ByteArray.empty), .v .nsl, .v .nsl] [.v (.str x_1.name), cv x_1.vars, cv x_1.events] rfl (by kernel_rfl) ?_
  refine AcallV 8 [] Q8 F1 (mkS [Iv 1 p1, Pv 2, Pv 5, (15, .v (.str x_1.name))] [Xb 2 t0, Xb 5 x_1]) (trace_isName_fun (S := S) (T := T)) x_1.name rfl (by kernel_rfl) fun x_2 h_2 => ?_
  refine Kjoin (fun x_5 => rn S (callL S T) (finC [.s 4]) (.ops false [] Q7) F1 (mkS [Pv 5, Bv 25 x_5] [Xb 2 t0, Xb 5 x_1])) ?_ fun x_5 => ?_
  · refine KifA (n := 2) (fo' := .ops false [] Q1) (fs' := F1) (t := x_2) (A := fun bb => (mkS [Iv 1 p1, Pv 2, Pv 5, Bv 18 (!bb)] [Xb 2 t0, Xb 5 x_1])) (by kernel_rfl) ?_ ?_
    · refine Acut 3 false [] Q4 F1 (mkS [Pv 5, Bv 18 false, Cv 20 t0.procs, Iv 21 p1] [Xb 2 t0, Xb 5 x_1]) false true [.int .i64 p1] rfl (by kernel_rfl) fun x_3 h_3 => ?_
      refine AcallS 1 false [] Q3 F1 (mkS [Pv 5, Bv 18 false, Cv 22 x_3, (23, .clo (S.N 10) [] [.ptr 5 0])] [Xb 2 t0, Xb 5 x_1]) (slices_ContainsFunc_Proc_fun (S := S) (T := T) (S.N 10) [.fptr (cells x_1)] (fun z => trace_processFault_c1 z x_1) (FnP.of (trace_processFault_c1_fun (S := S) (T := T)) (fun z => (z, x_1)) (fun _ => rfl) (fun _ => rfl) (by simp))) x_3 [.v (.clo (S.N 12) [] []), cv x_3, .clo (S.N 10) [] [.ptr 5 0]] [cv x_3, .clo (S.N 10) [] [.ptr 5 0]] rfl (by kernel_rfl) fun x_4 h_4 => ?_
      exact Kend (n := 1) (by kernel_rfl) rfl
    · exact Kend (n := 7) (by kernel_rfl) rfl
  · refine KifA (n := 3) (fo' := .rc C1) (fs' := F4) (t := x_5) (A := fun bb => (mkS [Pv 5, Bv 13 bb] [Xb 2 t0, Xb 5 x_1])) (by kernel_rfl) ?_ ?_
    · exact Kfin (by kernel_rfl)
    · refine Alen 5 false [] Q6 F5 (mkS [Pv 5, Bv 13 false, Cv 28 x_1.vars] [Xb 2 t0, Xb 5 x_1]) x_1.vars rfl (by kernel_rfl) ?_
      refine KifA (n := 4) (fo' := .rc C2) (fs' := F4) (t := decide ((len x_1.vars) > 8)) (A := fun bb => (mkS [Pv 5, Bv 13 false, Bv 26 bb] [Xb 2 t0, Xb 5 x_1])) (by kernel_rfl) ?_ ?_
      · exact Kfin (by kernel_rfl)
      · refine Alen 9 false [] Q5 F3 (mkS [Pv 5, Bv 13 false, Bv 26 false, Cv 32 x_1.vars] [Xb 2 t0, Xb 5 x_1]) x_1.vars rfl (by kernel_rfl) ?_
        exact Kadv (n := 5) (by kernel_rfl) (W1_ok x_1.vars (len x_1.vars) 0 x_1)
theorem trace_processFault_fun {S : Sys} {T : Tab} [F_trace_processFault S T] : Fun S (callL S T) (S.N 16) (fun z : Trace × Int => [enc z.1, .int .i64 z.2]) (fun r : Int => [.int .i64 r]) (fun z => trace_processFault z.1 z.2) true where
  k := F_trace_processFault.k (S := S) (T := T)
  h z := trace_processFault_ok z.1 z.2
  l z := by simp
  r r := by simp
  s h r := by kernel_rfl
namespace trace_events
def Q1 : List RO := o2 1 (.a .box) [0] [0] ::
 o1 2 (.k (.nfn)) [2] ::
 []
def U1 : RC := .seq (.ops (o2 3 (.p (.clo 17 0)) [1] [1] ::
 o1 2 3 [3] ::
 [])) (.ret)
def text : RF := ⟨4, [.s 2], .seq (.ops Q1) (U1)⟩
def F1 : List Fm := [.seq U1]
end trace_events
class F_trace_events (S : Sys) (T : Tab) : Prop where
  t : T (S.N 18) = some trace_events.text
  k : S.E.keep (S.N 18) = false
namespace trace_events
section
variable {S : Sys} {T : Tab} [F_trace_events S T]
end
end trace_events
noncomputable def trace_events (t0 : Trace) : Option Trace :=
 some t0
open trace_events in
theorem trace_events_ok {S : Sys} {T : Tab} [F_trace_events S T] (t0 : Trace) : Le ((trace_events t0).bind fun r => some [(.clo (S.N 17) [] [.fptr (cells r)])]) (callC (callL S T) (S.N 18) [enc t0]) := by
  refine Kfun (F_trace_events.t (S := S) (T := T)) (Nat.le_of_ble_eq_true rfl) ?_
  unfold trace_events
  refine Abox 2 false [] Q1 F1 (mkS [Cv 0 t0] []) t0 rfl (by kernel_rfl) (by kernel_rfl) ?_
  exact Kfin (by kernel_rfl)
theorem trace_events_fun {S : Sys} {T : Tab} [F_trace_events S T] : Fun S (callL S T) (S.N 18) (fun z : Trace => [enc z]) (fun r : Trace => [(.clo (S.N 17) [] [.fptr (cells r)])]) (fun z => trace_events z) false where
  k := F_trace_events.k (S := S) (T := T)
  h z := trace_events_ok z
  l z := by simp
  r r := by simp
  s h r := by cases h
namespace trace_formed
def Q5 : List RO := o2 5 (.a .box) [2] [2] ::
 o1 6 (.k (.bool false)) [6] ::
 []
def Q6 : List RO := o2 3 (.a .box) [0] [0] ::
 Q5
def Q4 : List RO := o1 6 18 [18] ::
 []
def Q1 : List RO := o3 15 14 true (fa 2) [5] [5] ::
 o3 16 14 true (ld 1) [15] [15] ::
 o3 17 14 true (bI .eql) [16, .k (.int .i64 0)] [16] ::
 o2 18 (.p (.pick)) [14, 17, .k (.bool false)] [14,17] ::
 Q4
def C2 : RC := .cond (.s 19) (.skip) (.ops (o2 21 (bI .eql) [8, .k (.int .i64 3)] [8] ::
 o1 19 21 [21] ::
 []))
def Q8 : List RO := o1 6 39 [39] ::
 []
def Q7 : List RO := o3 38 35 true .c [.f 6, 37, .k (.int .i64 0), .k (.int .i64 199)] [37] ::
 o2 39 (.p (.pick)) [35, 38, .k (.bool false)] [35,38] ::
 Q8
def Q3 : List RO := o3 36 35 true (fa 2) [5] [5] ::
 o3 37 35 true (ld 1) [36] [36] ::
 Q7
def Q9 : List RO := o1 35 34 [34] ::
 Q3
def Q2 : List RO := o3 30 29 true (fa 1) [5] [] ::
 o3 31 29 true (ld 1) [30] [30] ::
 o3 32 29 true (.p (.id)) [1] [1] ::
 o3 33 29 true (bI .neq) [31, 32] [31,32] ::
 o2 34 (.p (.pick)) [29, 33, .k (.bool false)] [29,33] ::
 Q9
def Q10 : List RO := o2 28 .c [.f 6, 23, .k (.int .i64 0), 27] [23,27] ::
 o1 29 28 [28] ::
 Q2
def Q11 : List RO := o2 26 ln [25] [25] ::
 o2 27 (bI .sub) [26, .k (.int .i64 1)] [26] ::
 Q10
def C3 : RC := .cond (.s 19) (.seq (.ops (o2 22 (fa 1) [5] [] ::
 o2 23 (ld 1) [22] [22] ::
 o2 24 (fa 0) [3] [3] ::
 o2 25 (ld 1) [24] [24] ::
 Q11)) (.ret)) (.skip)
def tJ1 : RC := C3
def C1 : RC := .cond (.s 9) (.seq (.ops (o2 11 (fa 1) [5] [] ::
 o2 12 (ld 1) [11] [11] ::
 o2 13 (bI .eql) [12, .k (.int .i64 0)] [12] ::
 o1 14 13 [13] ::
 Q1)) (.ret)) (.seq (.seq (.ops (o2 20 (bI .eql) [8, .k (.int .i64 2)] [] ::
 o1 19 20 [20] ::
 [])) (C2)) (.gh (.keep [1,3,5,19] [3,5]) (tJ1)))
def U1 : RC := .block 0 (.seq (.ops (o2 10 (bI .eql) [8, .k (.int .i64 1)] [] ::
 o1 9 10 [10] ::
 [])) (C1))
def U2 : RC := .seq (.ops (o1 6 (.k (.bool false)) [] ::
 [])) (.ret)
def U3 : RC := .seq (.seq (.ops (o2 7 (fa 0) [5] [] ::
 o2 8 (ld 1) [7] [7] ::
 [])) (U1)) (U2)
def text : RF := ⟨40, [.s 6], .seq (.ops Q6) (U3)⟩
def F5 : List Fm := [.seq U3]
def F4 : List Fm := [.blk 0, .seq U2]
def F1 : List Fm := .seq .ret :: F4
def F2 : List Fm := .seq .ret :: F4
def F3 : List Fm := .seq (.gh (.keep [1,3,5,19] [3,5]) (tJ1)) :: F4
end trace_formed
class F_trace_formed (S : Sys) (T : Tab) : Prop where
  t : T (S.N 19) = some trace_formed.text
  k : S.E.keep (S.N 19) = false
  c0 : F_trace_in S T
attribute [instance] F_trace_formed.c0
namespace trace_formed
section
variable {S : Sys} {T : Tab} [F_trace_formed S T]
noncomputable def J1 (p1 : Int) (v19 : Bool) (tb3 : Trace) (eb5 : Event) : Option Bool :=
 cif v19
 ((trace_in eb5.peer 0 (IntKind.wrap .i64 ((len tb3.procs) - 1))).bind fun x_1 =>
 (cif x_1
 (some (!(eb5.peer == p1)))
 (some false) : Option Bool).bind fun x_2 =>
 (cif x_2
 ((trace_in eb5.message 0 199).bind fun x_3 =>
 some x_3)
 (some false) : Option Bool).bind fun x_4 =>
 some x_4)
 (some false)
theorem J1_ok (p1 : Int) (v19 : Bool) (tb3 : Trace) (eb5 : Event) : Le ((J1 p1 v19 tb3 eb5).bind (fun r => some [.bool r])) (rn S (callL S T) (finC [.s 6]) (.rc tJ1) F4 (mkS [Iv 1 p1, Pv 3, Pv 5, Bv 19 v19] [Xb 3 tb3, Xb 5 eb5])) := by
  unfold J1
  refine KifA (n := 0) (fo' := .rc C3) (fs' := F4) (t := v19) (A := fun bb => (mkS [Iv 1 p1, Pv 3, Pv 5, Bv 19 bb] [Xb 3 tb3, Xb 5 eb5])) (by kernel_rfl) ?_ ?_
  · refine Alen 7 false [] Q11 F2 (mkS [Iv 1 p1, Pv 5, Bv 19 true, Iv 23 eb5.peer, Cv 25 tb3.procs] [Xb 3 tb3, Xb 5 eb5]) tb3.procs rfl (by kernel_rfl) ?_
    refine AcallV 1 [] Q10 F2 (mkS [Iv 1 p1, Pv 5, Bv 19 true, Iv 23 eb5.peer, Iv 27 (IntKind.wrap .i64 ((len tb3.procs) - 1))] [Xb 3 tb3, Xb 5 eb5]) (trace_in_fun (S := S) (T := T)) (eb5.peer, 0, IntKind.wrap .i64 ((len tb3.procs) - 1)) rfl (by kernel_rfl) fun x_1 h_1 => ?_
    refine Kjoin (fun x_2 => rn S (callL S T) (finC [.s 6]) (.ops false [] Q9) F2 (mkS [Pv 5, Bv 19 true, Bv 34 x_2] [Xb 3 tb3, Xb 5 eb5])) ?_ fun x_2 => ?_
    · refine KifA (n := 1) (fo' := .ops false [] Q2) (fs' := F2) (t := x_1) (A := fun bb => (mkS [Iv 1 p1, Pv 5, Bv 19 true, Bv 29 bb] [Xb 3 tb3, Xb 5 eb5])) (by kernel_rfl) ?_ ?_
      · exact Kend (n := 5) (by kernel_rfl) rfl
      · exact Kend (n := 5) (by kernel_rfl) rfl
    · refine Kjoin (fun x_4 => rn S (callL S T) (finC [.s 6]) (.ops false [] Q8) F2 (mkS [Bv 19 true, Bv 39 x_4] [Xb 3 tb3, Xb 5 eb5])) ?_ fun x_4 => ?_
      · refine KifA (n := 1) (fo' := .ops false [] Q3) (fs' := F2) (t := x_2) (A := fun bb => (mkS [Pv 5, Bv 19 true, Bv 35 bb] [Xb 3 tb3, Xb 5 eb5])) (by kernel_rfl) ?_ ?_
        · refine AcallV 2 [] Q7 F2 (mkS [Bv 19 true, Bv 35 true, Iv 37 eb5.message] [Xb 3 tb3, Xb 5 eb5]) (trace_in_fun (S := S) (T := T)) (eb5.message, 0, 199) rfl (by kernel_rfl) fun x_3 h_3 => ?_
          exact Kend (n := 1) (by kernel_rfl) rfl
        · exact Kend (n := 4) (by kernel_rfl) rfl
      · exact Kfin (by kernel_rfl)
  · exact Kfin (by kernel_rfl)
end
end trace_formed
noncomputable def trace_formed (t0 : Trace) (p1 : Int) (e2 : Event) : Option Bool :=
 cif (e2.kind == 1)
 ((cif (e2.peer == 0)
 (some (e2.message == 0))
 (some false) : Option Bool).bind fun x_1 =>
 some x_1)
 (cif (e2.kind == 2)
 (trace_formed.J1 p1 true t0 e2)
 (trace_formed.J1 p1 (e2.kind == 3) t0 e2))
open trace_formed in
theorem trace_formed_ok {S : Sys} {T : Tab} [F_trace_formed S T] (t0 : Trace) (p1 : Int) (e2 : Event) : Le ((trace_formed t0 p1 e2).bind fun r => some [.bool r]) (callC (callL S T) (S.N 19) [enc t0, .int .i64 p1, enc e2]) := by
  refine Kfun (F_trace_formed.t (S := S) (T := T)) (Nat.le_of_ble_eq_true rfl) ?_
  unfold trace_formed
  refine Abox 2 false [] Q6 F5 (mkS [Cv 0 t0, Iv 1 p1, Cv 2 e2] []) t0 rfl (by kernel_rfl) (by kernel_rfl) ?_
  refine Abox 0 false [] Q5 F5 (mkS [Iv 1 p1, Cv 2 e2, Pv 3] [Xb 3 t0]) e2 rfl (by kernel_rfl) (by kernel_rfl) ?_
  refine KifA (n := 17) (fo' := .rc C1) (fs' := F4) (t := (e2.kind == 1)) (A := fun bb => (mkS [Iv 1 p1, Pv 3, Pv 5, Iv 8 e2.kind, Bv 9 bb] [Xb 3 t0, Xb 5 e2])) (by kernel_rfl) ?_ ?_
  · refine Kjoin (fun x_1 => rn S (callL S T) (finC [.s 6]) (.ops false [] Q4) F1 (mkS [Iv 1 p1, Pv 3, Iv 8 e2.kind, Bv 9 true, Bv 18 x_1] [Xb 3 t0, Xb 5 e2])) ?_ fun x_1 => ?_
    · refine KifA (n := 7) (fo' := .ops false [] Q1) (fs' := F1) (t := (e2.peer == 0)) (A := fun bb => (mkS [Iv 1 p1, Pv 3, Pv 5, Iv 8 e2.kind, Bv 9 true, Bv 14 bb] [Xb 3 t0, Xb 5 e2])) (by kernel_rfl) ?_ ?_
      · exact Kend (n := 4) (by kernel_rfl) rfl
      · exact Kend (n := 4) (by kernel_rfl) rfl
    · exact Kfin (by kernel_rfl)
  · refine KifA (n := 8) (fo' := .rc C2) (fs' := F3) (t := (e2.kind == 2)) (A := fun bb => (mkS [Iv 1 p1, Pv 3, Pv 5, Iv 8 e2.kind, Bv 9 false, Bv 19 bb] [Xb 3 t0, Xb 5 e2])) (by kernel_rfl) ?_ ?_
    · exact Kadv (n := 4) (by kernel_rfl) (J1_ok p1 true t0 e2)
    · exact Kadv (n := 7) (by kernel_rfl) (J1_ok p1 (e2.kind == 3) t0 e2)
theorem trace_formed_fun {S : Sys} {T : Tab} [F_trace_formed S T] : Fun S (callL S T) (S.N 19) (fun z : Trace × Int × Event => [enc z.1, .int .i64 z.2.1, enc z.2.2]) (fun r : Bool => [.bool r]) (fun z => trace_formed z.1 z.2.1 z.2.2) true where
  k := F_trace_formed.k (S := S) (T := T)
  h z := trace_formed_ok z.1 z.2.1 z.2.2
  l z := by simp
  r r := by simp
  s h r := by kernel_rfl
namespace trace_eventFault_c1
def U1 : RC := .seq (.ops (o2 4 (fa 0) [2] [2] ::
 o2 5 (ld 1) [4] [4] ::
 o2 6 (fa 0) [1] [1] ::
 o2 7 (ld 1) [6] [6] ::
 o2 8 (bI .eql) [5, 7] [5,7] ::
 o1 3 8 [8] ::
 [])) (.ret)
def text : RF := ⟨9, [.s 3], .seq (.ops (o2 2 (.a .box) [0] [0] ::
 o1 3 (.k (.bool false)) [3] ::
 [])) (U1)⟩
end trace_eventFault_c1
class F_trace_eventFault_c1 (S : Sys) (T : Tab) : Prop where
  t : T (S.N 20) = some trace_eventFault_c1.text
  k : S.E.keep (S.N 20) = false
namespace trace_eventFault_c1
section
variable {S : Sys} {T : Tab} [F_trace_eventFault_c1 S T]
end
end trace_eventFault_c1
noncomputable def trace_eventFault_c1 (b0 : Assign) (v1 : Assign) : Option Bool :=
 some (b0.var == v1.var)
open trace_eventFault_c1 in
theorem trace_eventFault_c1_ok {S : Sys} {T : Tab} [F_trace_eventFault_c1 S T] (b0 : Assign) (v1 : Assign) : Le ((trace_eventFault_c1 b0 v1).bind fun r => some [.bool r]) (callC (callL S T) (S.N 20) [enc b0, .fptr (cells v1)]) := by
  refine Kfun (F_trace_eventFault_c1.t (S := S) (T := T)) (Nat.le_of_ble_eq_true rfl) ?_
  unfold trace_eventFault_c1
  exact Kfin (by kernel_rfl)
theorem trace_eventFault_c1_fun {S : Sys} {T : Tab} [F_trace_eventFault_c1 S T] : Fun S (callL S T) (S.N 20) (fun z : Assign × Assign => [enc z.1, .fptr (cells z.2)]) (fun r : Bool => [.bool r]) (fun z => trace_eventFault_c1 z.1 z.2) true where
  k := F_trace_eventFault_c1.k (S := S) (T := T)
  h z := trace_eventFault_c1_ok z.1 z.2
  l z := by simp
  r r := by simp
  s h r := by kernel_rfl
namespace slices_IndexFunc_Assign
def Q1 : List RO := o2 7 ln [6] [6] ::
 o1 8 (.k (.int .i64 0)) [] ::
 []
def C1 : RC := .cond (.s 9) (.skip) (.gh (.keep [] []) (.exit 0))
def Q2 : List RO := o2 16 .c [11, 15] [11,15] ::
 []
def Q3 : List RO := o2 14 (ix 2) [12, 13] [12,13] ::
 o2 15 (lD 2) [14] [14] ::
 Q2
def C2 : RC := .cond (.s 16) (.seq (.ops (o1 17 5 [5] ::
 o1 4 17 [17] ::
 [])) (.gh (.keep [4] []) (.ret))) (.skip)
def U1 : RC := .seq (.ops (o1 11 1 [] ::
 o1 12 0 [] ::
 o1 13 5 [] ::
 Q3)) (C2)
def U2 : RC := .ops (o2 18 (bI .add) [8, .k (.int .i64 1)] [8] ::
 o1 8 18 [18] ::
 [])
def U3 : RC := .seq (.block 1 (.seq (.ops (o1 10 8 [] ::
 o1 5 10 [10] ::
 [])) (U1))) (U2)
def tW1 : RC := .hg (.seq (.ops (o2 9 (bI .lss) [8, 7] [] ::
 [])) (.seq (C1) (U3))) (.keep [0,1,7,8] [])
def U4 : RC := .block 0 (.gh (.keep [0,1,7,8] []) (.loop tW1))
def U5 : RC := .seq (.ops (o1 4 (.k (.int .i64 (-1))) [] ::
 [])) (.gh (.keep [4] []) (.ret))
def U6 : RC := .seq (.seq (.ops (o1 6 0 [] ::
 Q1)) (U4)) (U5)
def text : RF := ⟨19, [.s 4], .seq (.ops (o1 4 (.k (.int .i64 0)) [4] ::
 [])) (U6)⟩
def F1 : List Fm := [.seq U4, .seq U5]
def F4 : List Fm := [.seq U3, .gst (.keep [0,1,7,8] [])]
def F5 : List Fm := [.blk 0, .seq U5]
def F2 : List Fm := [.blk 1, .seq U2, .gst (.keep [0,1,7,8] [])]
def F3 : List Fm := .seq C2 :: F2
end slices_IndexFunc_Assign
class F_slices_IndexFunc_Assign (S : Sys) (T : Tab) : Prop where
  t : T (S.N 21) = some slices_IndexFunc_Assign.text
  k : S.E.keep (S.N 21) = false
namespace slices_IndexFunc_Assign
section
variable {S : Sys} {T : Tab} [F_slices_IndexFunc_Assign S T]
noncomputable def W1_step (s0 : Sl Assign) (v7 : Int) (v8 : Int) (p1 : Assign → Option Bool) : Option (Fw Int Unit Int) :=
 cif (decide (v8 < v7))
 ((idx s0 v8).bind fun x_1 =>
 (p1 x_1).bind fun x_2 =>
 cif x_2
 (some (.r v8))
 (some (.n (IntKind.wrap .i64 (v8 + 1)))))
 (some (.x ()))
noncomputable def W1 (s0 : Sl Assign) (v7 : Int) (v8 : Int) (p1 : Assign → Option Bool) : Option Int :=
 (wloop (fun q : Int => W1_step s0 v7 q p1) v8).bind (Fw.elim
 (fun e => some (-1))
 (fun e => some e))
def W1_s (S : Sys) (g1 : FuncId) (e1 : List V) (s0 : Sl Assign) (v7 : Int) : Int → St := fun q => (mkS [Cv 0 s0, (1, .v (.clo g1 [] e1)), Iv 7 v7, Iv 8 q] [])
def W1_e (S : Sys) (g1 : FuncId) (e1 : List V) (s0 : Sl Assign) (v7 : Int) : Unit → Nat × St := fun e => (0, (mkS [] []))
def W1_r (S : Sys) (g1 : FuncId) (e1 : List V) (s0 : Sl Assign) (v7 : Int) : Int → St := fun e => (mkS [Iv 4 e] [])
theorem W1_step_ok (g1 : FuncId) (e1 : List V) (p1 : Assign → Option Bool) (h1 : FnP S (callL S T) g1 e1 (fun z : Assign => [enc z]) (fun r : Bool => [.bool r]) p1) (s0 : Sl Assign) (v7 : Int) (v8 : Int) : Le ((W1_step s0 v7 v8 p1).bind (fun w => some (Fw.out (W1_s S g1 e1 s0 v7) (W1_e S g1 e1 s0 v7) (W1_r S g1 e1 s0 v7) w))) (rn S (callL S T) some (.rc tW1) [] (mkS [Cv 0 s0, (1, .v (.clo g1 [] e1)), Iv 7 v7, Iv 8 v8] [])) := by
  unfold W1_step
  refine KifA (n := 7) (fo' := .rc C1) (fs' := F4) (t := decide (v8 < v7)) (A := fun bb => (mkS [Cv 0 s0, (1, .v (.clo g1 [] e1)), Iv 7 v7, Iv 8 v8, Bv 9 bb] [])) (by kernel_rfl) ?_ ?_
  · refine Aidx 16 false [] Q3 F3 (mkS [Cv 0 s0, (1, .v (.clo g1 [] e1)), Iv 7 v7, Iv 8 v8, Bv 9 true, Iv 5 v8, (11, .v (.clo g1 [] e1)), Cv 12 s0, Iv 13 v8] []) .i64 rfl (by kernel_rfl) fun x_1 h_1 => ?_
    refine AcallW 1 false [] Q2 F3 (mkS [Cv 0 s0, (1, .v (.clo g1 [] e1)), Iv 7 v7, Iv 8 v8, Bv 9 true, Iv 5 v8, (11, .v (.clo g1 [] e1)), Cv 15 x_1] []) h1.f x_1 e1 [enc x_1] rfl rfl (by kernel_rfl) fun x_2 h_2 => ?_
    refine KifA (n := 2) (fo' := .rc C2) (fs' := F2) (t := x_2) (A := fun bb => (mkS [Cv 0 s0, (1, .v (.clo g1 [] e1)), Iv 7 v7, Iv 8 v8, Bv 9 true, Iv 5 v8, Bv 16 bb] [])) (by kernel_rfl) ?_ ?_
    · exact Kfin (by kernel_rfl)
    · exact Kfin (by kernel_rfl)
  · exact Kfin (by kernel_rfl)
theorem W1_ok (g1 : FuncId) (e1 : List V) (p1 : Assign → Option Bool) (h1 : FnP S (callL S T) g1 e1 (fun z : Assign => [enc z]) (fun r : Bool => [.bool r]) p1) (s0 : Sl Assign) (v7 : Int) (v8 : Int) : Le ((W1 s0 v7 v8 p1).bind (fun r => some [.int .i64 r])) (rn S (callL S T) (finC [.s 4]) (.rc (.loop tW1)) F5 (mkS [Cv 0 s0, (1, .v (.clo g1 [] e1)), Iv 7 v7, Iv 8 v8] [])) := by
  unfold W1
  refine KloopA (n := 0) (fs := F5) (a := tW1) (eσ := W1_s S g1 e1 s0 v7) (eε := W1_e S g1 e1 s0 v7) (eρ := W1_r S g1 e1 s0 v7) (by kernel_rfl) (fun q => W1_step_ok g1 e1 p1 h1 s0 v7 q) ?_ ?_
  · intro e
    exact Kfin (by kernel_rfl)
  · intro e
    exact Kfin (by kernel_rfl)
end
end slices_IndexFunc_Assign
noncomputable def slices_IndexFunc_Assign (s0 : Sl Assign) (p1 : Assign → Option Bool) : Option Int :=
 slices_IndexFunc_Assign.W1 s0 (len s0) 0 p1
open slices_IndexFunc_Assign in
theorem slices_IndexFunc_Assign_ok {S : Sys} {T : Tab} [F_slices_IndexFunc_Assign S T] (g1 : FuncId) (e1 : List V) (p1 : Assign → Option Bool) (h1 : FnP S (callL S T) g1 e1 (fun z : Assign => [enc z]) (fun r : Bool => [.bool r]) p1) (s0 : Sl Assign) : Le ((slices_IndexFunc_Assign s0 p1).bind fun r => some [.int .i64 r]) (callC (callL S T) (S.N 21) [enc s0, .clo g1 [] e1]) := by
  refine Kfun (F_slices_IndexFunc_Assign.t (S := S) (T := T)) (Nat.le_of_ble_eq_true rfl) ?_
  unfold slices_IndexFunc_Assign
  refine Alen 9 false [] Q1 F1 (mkS [Cv 0 s0, (1, .v (.clo g1 [] e1)), Cv 6 s0] []) s0 rfl (by kernel_rfl) ?_
  exact Kadv (n := 5) (by kernel_rfl) (W1_ok g1 e1 p1 h1 s0 (len s0) 0)
theorem slices_IndexFunc_Assign_fun {S : Sys} {T : Tab} [F_slices_IndexFunc_Assign S T] (g1 : FuncId) (e1 : List V) (p1 : Assign → Option Bool) (h1 : FnP S (callL S T) g1 e1 (fun z : Assign => [enc z]) (fun r : Bool => [.bool r]) p1) : Fun S (callL S T) (S.N 21) (fun z : Sl Assign => [enc z, .clo g1 [] e1]) (fun r : Int => [.int .i64 r]) (fun z => slices_IndexFunc_Assign z p1) true where
  k := F_slices_IndexFunc_Assign.k (S := S) (T := T)
  h z := slices_IndexFunc_Assign_ok g1 e1 p1 h1 z
  l z := by simp [h1.d]
  r r := by simp
  s h r := by kernel_rfl
namespace slices_ContainsFunc_Assign
def Q1 : List RO := o2 7 .c [.f 21, 5, 6] [5,6] ::
 o2 8 (bI .geq) [7, .k (.int .i64 0)] [7] ::
 o1 4 8 [8] ::
 []
def U1 : RC := .seq (.ops (o1 5 0 [0] ::
 o1 6 1 [1] ::
 Q1)) (.ret)
def text : RF := ⟨9, [.s 4], .seq (.ops (o1 4 (.k (.bool false)) [4] ::
 [])) (U1)⟩
def F1 : List Fm := [.seq .ret]
end slices_ContainsFunc_Assign
class F_slices_ContainsFunc_Assign (S : Sys) (T : Tab) : Prop where
  t : T (S.N 22) = some slices_ContainsFunc_Assign.text
  k : S.E.keep (S.N 22) = false
  c0 : F_slices_IndexFunc_Assign S T
attribute [instance] F_slices_ContainsFunc_Assign.c0
namespace slices_ContainsFunc_Assign
section
variable {S : Sys} {T : Tab} [F_slices_ContainsFunc_Assign S T]
end
end slices_ContainsFunc_Assign
noncomputable def slices_ContainsFunc_Assign (s0 : Sl Assign) (p1 : Assign → Option Bool) : Option Bool :=
 (slices_IndexFunc_Assign s0 p1).bind fun x_1 =>
 some (decide (x_1 ≥ 0))
open slices_ContainsFunc_Assign in
theorem slices_ContainsFunc_Assign_ok {S : Sys} {T : Tab} [F_slices_ContainsFunc_Assign S T] (g1 : FuncId) (e1 : List V) (p1 : Assign → Option Bool) (h1 : FnP S (callL S T) g1 e1 (fun z : Assign => [enc z]) (fun r : Bool => [.bool r]) p1) (s0 : Sl Assign) : Le ((slices_ContainsFunc_Assign s0 p1).bind fun r => some [.bool r]) (callC (callL S T) (S.N 22) [enc s0, .clo g1 [] e1]) := by
  refine Kfun (F_slices_ContainsFunc_Assign.t (S := S) (T := T)) (Nat.le_of_ble_eq_true rfl) ?_
  unfold slices_ContainsFunc_Assign
  refine AcallV 9 [] Q1 F1 (mkS [Cv 5 s0, (6, .v (.clo g1 [] e1))] []) (slices_IndexFunc_Assign_fun (S := S) (T := T) g1 e1 p1 h1) s0 rfl (by kernel_rfl) fun x_1 h_1 => ?_
  exact Kfin (by kernel_rfl)
theorem slices_ContainsFunc_Assign_fun {S : Sys} {T : Tab} [F_slices_ContainsFunc_Assign S T] (g1 : FuncId) (e1 : List V) (p1 : Assign → Option Bool) (h1 : FnP S (callL S T) g1 e1 (fun z : Assign => [enc z]) (fun r : Bool => [.bool r]) p1) : Fun S (callL S T) (S.N 22) (fun z : Sl Assign => [enc z, .clo g1 [] e1]) (fun r : Bool => [.bool r]) (fun z => slices_ContainsFunc_Assign z p1) true where
  k := F_slices_ContainsFunc_Assign.k (S := S) (T := T)
  h z := slices_ContainsFunc_Assign_ok g1 e1 p1 h1 z
  l z := by simp [h1.d]
  r r := by simp
  s h r := by kernel_rfl
namespace trace_eventFault
def Q6 : List RO := o2 5 (.a .box) [2] [2] ::
 o1 6 (.k (.int .i64 0)) [6] ::
 []
def Q7 : List RO := o2 3 (.a .box) [0] [0] ::
 o2 4 (.a .box) [1] [1] ::
 Q6
def Q4 : List RO := oz (su 3) [7, 16] [16] ::
 []
def Q5 : List RO := o2 15 (ix 3) [12, 14] [12,14] ::
 o2 16 (lD 3) [15] [15] ::
 o2 7 (.a (.alloc 3 [.str ByteArray.empty, .nsl, .nsl])) [] [] ::
 Q4
def Q3 : List RO := o2 25 (ix 5) [21, 24] [21,24] ::
 o2 26 (fa 3) [25] [25] ::
 o2 27 (ld 1) [26] [26] ::
 o1 8 27 [27] ::
 []
def C1 : RC := .cond (.s 19) (.ops (o2 20 (fa 2) [7] [] ::
 o2 21 (ld 1) [20] [20] ::
 o2 22 (fa 1) [4] [] ::
 o2 23 (ld 1) [22] [22] ::
 o2 24 (bI .sub) [23, .k (.int .i64 2)] [23] ::
 Q3)) (.skip)
def Q12 : List RO := o2 33 .c [.f 19, 29, 31, 32] [29,31,32] ::
 o2 34 (.p (.not)) [33] [33] ::
 o1 28 34 [34] ::
 []
def Q10 : List RO := o1 35 45 [45] ::
 []
def Q1 : List RO := o3 41 40 false (fa 3) [5] [] ::
 o3 42 40 false (ld 1) [41] [41] ::
 o3 43 40 false (.p (.id)) [8] [8] ::
 o3 44 40 false (bI .lss) [42, 43] [42,43] ::
 o2 45 (.p (.pick)) [40, .k (.bool true), 44] [40,44] ::
 Q10
def Q11 : List RO := o2 38 .c [.f 6, 37, .k (.int .i64 0), .k (.int .i64 1099511627776)] [37] ::
 o2 39 (.p (.not)) [38] [38] ::
 o1 40 39 [39] ::
 Q1
def Q9 : List RO := o2 49 ln [48] [48] ::
 o2 50 (bI .gtr) [49, .k (.int .i64 8)] [49] ::
 o1 46 50 [50] ::
 []
def C4 : RC := .cond (.s 46) (.seq (.ops (o1 6 (.k (.int .i64 5)) [] ::
 [])) (.gh (.keep [6] []) (.ret))) (.skip)
def C3 : RC := .cond (.s 35) (.seq (.ops (o1 6 (.k (.int .i64 11)) [] ::
 [])) (.gh (.keep [6] []) (.ret))) (.seq (.ops (o2 47 (fa 4) [5] [] ::
 o2 48 (ld 1) [47] [47] ::
 Q9)) (C4))
def C2 : RC := .cond (.s 28) (.seq (.ops (o1 6 (.k (.int .i64 3)) [] ::
 [])) (.gh (.keep [6] []) (.ret))) (.seq (.ops (o2 36 (fa 3) [5] [] ::
 o2 37 (ld 1) [36] [36] ::
 Q11)) (C3))
def Q8 : List RO := o2 53 ln [52] [] ::
 o1 54 (.k (.int .i64 0)) [] ::
 []
def C5 : RC := .cond (.s 55) (.skip) (.gh (.keep [] []) (.exit 1))
def Q19 : List RO := o2 57 (ix 2) [52, 54] [] ::
 o2 58 (lD 2) [57] [57] ::
 o2 10 (.a (.alloc 2 [.int .i64 0, .int .i64 0])) [] [] ::
 o1 9 56 [56] ::
 oz (su 2) [10, 58] [58] ::
 []
def Q16 : List RO := o1 59 73 [73] ::
 []
def Q13 : List RO := o3 71 68 false .c [.f 6, 70, .k (.int .i64 (-1073741824)), .k (.int .i64 1073741824)] [70] ::
 o3 72 68 false (.p (.not)) [71] [71] ::
 o2 73 (.p (.pick)) [68, .k (.bool true), 72] [68,72] ::
 Q16
def Q2 : List RO := o3 69 68 false (fa 1) [10] [] ::
 o3 70 68 false (ld 1) [69] [69] ::
 Q13
def Q17 : List RO := o2 66 .c [.f 6, 61, .k (.int .i64 0), 65] [61,65] ::
 o2 67 (.p (.not)) [66] [66] ::
 o1 68 67 [67] ::
 Q2
def Q18 : List RO := o2 64 ln [63] [63] ::
 o2 65 (bI .sub) [64, .k (.int .i64 1)] [64] ::
 Q17
def Q14 : List RO := o2 80 .c [.f 22, 78, 79] [78,79] ::
 o1 74 80 [80] ::
 []
def Q15 : List RO := o2 78 (.p (.slice 2 false true)) [76, 77] [76,77] ::
 o2 79 (.p (.clo 20 0)) [10] [10] ::
 Q14
def C7 : RC := .cond (.s 74) (.seq (.ops (o1 6 (.k (.int .i64 8)) [] ::
 [])) (.gh (.keep [6] []) (.ret))) (.skip)
def C6 : RC := .cond (.s 59) (.seq (.ops (o1 6 (.k (.int .i64 2)) [] ::
 [])) (.gh (.keep [6] []) (.ret))) (.seq (.ops (o2 75 (fa 4) [5] [] ::
 o2 76 (ld 1) [75] [75] ::
 o1 77 9 [9] ::
 Q15)) (C7))
def U1 : RC := .block 3 (.seq (.ops (o2 60 (fa 0) [10] [] ::
 o2 61 (ld 1) [60] [60] ::
 o2 62 (fa 1) [7] [] ::
 o2 63 (ld 1) [62] [62] ::
 Q18)) (C6))
def U2 : RC := .ops (o2 81 (bI .add) [54, .k (.int .i64 1)] [54] ::
 o1 54 81 [81] ::
 [])
def U3 : RC := .seq (.block 2 (.seq (.ops (o1 56 54 [] ::
 Q19)) (U1))) (U2)
def tW2 : RC := .hg (.seq (.ops (o2 55 (bI .lss) [54, 53] [] ::
 [])) (.seq (C5) (U3))) (.keep [5,7,52,53,54] [5,7])
def U4 : RC := .block 1 (.gh (.keep [5,7,52,53,54] [5,7]) (.loop tW2))
def U5 : RC := .seq (.ops (o1 6 (.k (.int .i64 0)) [] ::
 [])) (.gh (.keep [6] []) (.ret))
def U6 : RC := .seq (.seq (.ops (o2 51 (fa 4) [5] [] ::
 o2 52 (ld 1) [51] [51] ::
 Q8)) (U4)) (U5)
def tJ1 : RC := .seq (.block 0 (.seq (.ops (o2 29 (lD 1) [3] [3] ::
 o2 30 (fa 0) [4] [4] ::
 o2 31 (ld 1) [30] [30] ::
 o2 32 (lD 5) [5] [] ::
 Q12)) (C2))) (U6)
def U7 : RC := .seq (.seq (.ops (o2 17 (fa 1) [4] [] ::
 o2 18 (ld 1) [17] [17] ::
 o2 19 (bI .gtr) [18, .k (.int .i64 1)] [18] ::
 [])) (C1)) (.gh (.keep [3,4,5,7,8] [3,4,5,7]) (tJ1))
def U8 : RC := .seq (.ops (o1 8 (.k (.int .i64 0)) [] ::
 [])) (U7)
def U9 : RC := .seq (.ops (o2 11 (fa 0) [3] [] ::
 o2 12 (ld 1) [11] [11] ::
 o2 13 (fa 0) [4] [] ::
 o2 14 (ld 1) [13] [13] ::
 Q5)) (U8)
def text : RF := ⟨82, [.s 6], .seq (.ops Q7) (U9)⟩
def F3 : List Fm := [.seq (.gh (.keep [3,4,5,7,8] [3,4,5,7]) (tJ1))]
def F4 : List Fm := [.seq U8]
def F5 : List Fm := [.seq U9]
def F6 : List Fm := [.seq U4, .seq U5]
def F7 : List Fm := [.blk 0, .seq U6]
def F13 : List Fm := [.seq U3, .gst (.keep [5,7,52,53,54] [5,7])]
def F14 : List Fm := [.blk 1, .seq U5]
def F1 : List Fm := .seq C3 :: F7
def F8 : List Fm := .seq C4 :: F7
def F9 : List Fm := .seq C2 :: F7
def F10 : List Fm := [.blk 3, .blk 2, .seq U2, .gst (.keep [5,7,52,53,54] [5,7])]
def F12 : List Fm := [.seq U1, .blk 2, .seq U2, .gst (.keep [5,7,52,53,54] [5,7])]
def F2 : List Fm := .seq C6 :: F10
def F11 : List Fm := .seq C7 :: F10
end trace_eventFault
class F_trace_eventFault (S : Sys) (T : Tab) : Prop where
  t : T (S.N 23) = some trace_eventFault.text
  k : S.E.keep (S.N 23) = false
  c0 : F_trace_eventFault_c1 S T
  c1 : F_trace_formed S T
  c2 : F_trace_in S T
  c3 : F_slices_ContainsFunc_Assign S T
attribute [instance] F_trace_eventFault.c0 F_trace_eventFault.c1 F_trace_eventFault.c2 F_trace_eventFault.c3
namespace trace_eventFault
section
variable {S : Sys} {T : Tab} [F_trace_eventFault S T]
noncomputable def W2_step (v52 : Sl Assign) (v53 : Int) (eb5 : Event) (xb7 : Proc) (v54 : Int) : Option (Fw Int Unit Int) :=
 cif (decide (v54 < v53))
 ((idx v52 v54).bind fun x_1 =>
 (trace_in x_1.var 0 (IntKind.wrap .i64 ((len xb7.vars) - 1))).bind fun x_2 =>
 (cif x_2
 ((trace_in x_1.value (-1073741824) 1073741824).bind fun x_3 =>
 some (!x_3))
 (some true) : Option Bool).bind fun x_4 =>
 cif x_4
 (some (.r 2))
 ((slPart eb5.assign none (some v54)).bind fun x_5 =>
 (slices_ContainsFunc_Assign x_5 (fun z => trace_eventFault_c1 z x_1)).bind fun x_6 =>
 cif x_6
 (some (.r 8))
 (some (.n (IntKind.wrap .i64 (v54 + 1))))))
 (some (.x ()))
noncomputable def W2 (v52 : Sl Assign) (v53 : Int) (v54 : Int) (eb5 : Event) (xb7 : Proc) : Option Int :=
 (wloop (fun q : Int => W2_step v52 v53 eb5 xb7 q) v54).bind (Fw.elim
 (fun e => some 0)
 (fun e => some e))
def W2_s (S : Sys) (v52 : Sl Assign) (v53 : Int) (eb5 : Event) (xb7 : Proc) : Int → St := fun q => (mkS [Pv 5, Pv 7, Cv 52 v52, Iv 53 v53, Iv 54 q] [Xb 5 eb5, Xb 7 xb7])
def W2_e (S : Sys) (v52 : Sl Assign) (v53 : Int) (eb5 : Event) (xb7 : Proc) : Unit → Nat × St := fun e => (1, (mkS [] []))
def W2_r (S : Sys) (v52 : Sl Assign) (v53 : Int) (eb5 : Event) (xb7 : Proc) : Int → St := fun e => (mkS [Iv 6 e] [])
noncomputable def J1 (last8 : Int) (tb3 : Trace) (idb4 : EventId) (eb5 : Event) (xb7 : Proc) : Option Int :=
 (trace_formed tb3 idb4.proc eb5).bind fun x_1 =>
 cif x_1
 ((trace_in eb5.time 0 1099511627776).bind fun x_2 =>
 (cif x_2
 (some (decide (eb5.time < last8)))
 (some true) : Option Bool).bind fun x_3 =>
 cif x_3
 (some 11)
 (cif (decide ((len eb5.assign) > 8))
 (some 5)
 (trace_eventFault.W2 eb5.assign (len eb5.assign) 0 eb5 xb7)))
 (some 3)
theorem W2_step_ok (v52 : Sl Assign) (v53 : Int) (eb5 : Event) (xb7 : Proc) (v54 : Int) : Le ((W2_step v52 v53 eb5 xb7 v54).bind (fun w => some (Fw.out (W2_s S v52 v53 eb5 xb7) (W2_e S v52 v53 eb5 xb7) (W2_r S v52 v53 eb5 xb7) w))) (rn S (callL S T) some (.rc tW2) [] (mkS [Pv 5, Pv 7, Cv 52 v52, Iv 53 v53, Iv 54 v54] [Xb 5 eb5, Xb 7 xb7])) := by
  unfold W2_step
  refine KifA (n := 7) (fo' := .rc C5) (fs' := F13) (t := decide (v54 < v53)) (A := fun bb => (mkS [Pv 5, Pv 7, Cv 52 v52, Iv 53 v53, Iv 54 v54, Bv 55 bb] [Xb 5 eb5, Xb 7 xb7])) (by kernel_rfl) ?_ ?_
  · refine Aidx 8 false [] Q19 F12 (mkS [Pv 5, Pv 7, Cv 52 v52, Iv 53 v53, Iv 54 v54, Bv 55 true, Iv 56 v54] [Xb 5 eb5, Xb 7 xb7]) .i64 rfl (by kernel_rfl) fun x_1 h_1 => ?_
    refine Alen 13 false [] Q18 F2 (mkS [Pv 5, Pv 7, Cv 52 v52, Iv 53 v53, Iv 54 v54, Bv 55 true, Pv 10, Iv 9 v54, Iv 61 x_1.var, Cv 63 xb7.vars] [Xb 5 eb5, Xb 7 xb7, Xb 10 x_1]) xb7.vars rfl (by kernel_rfl) ?_
    refine AcallV 1 [] Q17 F2 (mkS [Pv 5, Pv 7, Cv 52 v52, Iv 53 v53, Iv 54 v54, Bv 55 true, Pv 10, Iv 9 v54, Iv 61 x_1.var, Iv 65 (IntKind.wrap .i64 ((len xb7.vars) - 1))] [Xb 5 eb5, Xb 7 xb7, Xb 10 x_1]) (trace_in_fun (S := S) (T := T)) (x_1.var, 0, IntKind.wrap .i64 ((len xb7.vars) - 1)) rfl (by kernel_rfl) fun x_2 h_2 => ?_
    refine Kjoin (fun x_4 => rn S (callL S T) some (.ops false [] Q16) F2 (mkS [Pv 5, Pv 7, Cv 52 v52, Iv 53 v53, Iv 54 v54, Bv 55 true, Pv 10, Iv 9 v54, Bv 73 x_4] [Xb 5 eb5, Xb 7 xb7, Xb 10 x_1])) ?_ fun x_4 => ?_
    · refine KifA (n := 2) (fo' := .ops false [] Q2) (fs' := F2) (t := x_2) (A := fun bb => (mkS [Pv 5, Pv 7, Cv 52 v52, Iv 53 v53, Iv 54 v54, Bv 55 true, Pv 10, Iv 9 v54, Bv 68 (!bb)] [Xb 5 eb5, Xb 7 xb7, Xb 10 x_1])) (by kernel_rfl) ?_ ?_
      · refine AcallV 2 [] Q13 F2 (mkS [Pv 5, Pv 7, Cv 52 v52, Iv 53 v53, Iv 54 v54, Bv 55 true, Pv 10, Iv 9 v54, Bv 68 false, Iv 70 x_1.value] [Xb 5 eb5, Xb 7 xb7, Xb 10 x_1]) (trace_in_fun (S := S) (T := T)) (x_1.value, (-1073741824), 1073741824) rfl (by kernel_rfl) fun x_3 h_3 => ?_
        exact Kend (n := 2) (by kernel_rfl) rfl
      · exact Kend (n := 5) (by kernel_rfl) rfl
    · refine KifA (n := 3) (fo' := .rc C6) (fs' := F10) (t := x_4) (A := fun bb => (mkS [Pv 5, Pv 7, Cv 52 v52, Iv 53 v53, Iv 54 v54, Bv 55 true, Pv 10, Iv 9 v54, Bv 59 bb] [Xb 5 eb5, Xb 7 xb7, Xb 10 x_1])) (by kernel_rfl) ?_ ?_
      · exact Kfin (by kernel_rfl)
      · refine Acut 6 false [] Q15 F11 (mkS [Pv 5, Pv 7, Cv 52 v52, Iv 53 v53, Iv 54 v54, Bv 55 true, Pv 10, Bv 59 false, Cv 76 eb5.assign, Iv 77 v54] [Xb 5 eb5, Xb 7 xb7, Xb 10 x_1]) false true [.int .i64 v54] rfl (by kernel_rfl) fun x_5 h_5 => ?_
        refine AcallS 1 false [] Q14 F11 (mkS [Pv 5, Pv 7, Cv 52 v52, Iv 53 v53, Iv 54 v54, Bv 55 true, Bv 59 false, Cv 78 x_5, (79, .clo (S.N 20) [] [.ptr 10 0])] [Xb 5 eb5, Xb 7 xb7, Xb 10 x_1]) (slices_ContainsFunc_Assign_fun (S := S) (T := T) (S.N 20) [.fptr (cells x_1)] (fun z => trace_eventFault_c1 z x_1) (FnP.of (trace_eventFault_c1_fun (S := S) (T := T)) (fun z => (z, x_1)) (fun _ => rfl) (fun _ => rfl) (by simp))) x_5 [.v (.clo (S.N 22) [] []), cv x_5, .clo (S.N 20) [] [.ptr 10 0]] [cv x_5, .clo (S.N 20) [] [.ptr 10 0]] rfl (by kernel_rfl) fun x_6 h_6 => ?_
        refine KifA (n := 3) (fo' := .rc C7) (fs' := F10) (t := x_6) (A := fun bb => (mkS [Pv 5, Pv 7, Cv 52 v52, Iv 53 v53, Iv 54 v54, Bv 55 true, Bv 59 false, Bv 74 bb] [Xb 5 eb5, Xb 7 xb7, Xb 10 x_1])) (by kernel_rfl) ?_ ?_
        · exact Kfin (by kernel_rfl)
        · exact Kfin (by kernel_rfl)
  · exact Kfin (by kernel_rfl)
theorem W2_ok (v52 : Sl Assign) (v53 : Int) (v54 : Int) (eb5 : Event) (xb7 : Proc) : Le ((W2 v52 v53 v54 eb5 xb7).bind (fun r => some [.int .i64 r])) (rn S (callL S T) (finC [.s 6]) (.rc (.loop tW2)) F14 (mkS [Pv 5, Pv 7, Cv 52 v52, Iv 53 v53, Iv 54 v54] [Xb 5 eb5, Xb 7 xb7])) := by
  unfold W2
  refine KloopA (n := 0) (fs := F14) (a := tW2) (eσ := W2_s S v52 v53 eb5 xb7) (eε := W2_e S v52 v53 eb5 xb7) (eρ := W2_r S v52 v53 eb5 xb7) (by kernel_rfl) (fun q => W2_step_ok v52 v53 eb5 xb7 q) ?_ ?_
  · intro e
    exact Kfin (by kernel_rfl)
  · intro e
    exact Kfin (by kernel_rfl)
theorem J1_ok (last8 : Int) (tb3 : Trace) (idb4 : EventId) (eb5 : Event) (xb7 : Proc) : Le ((J1 last8 tb3 idb4 eb5 xb7).bind (fun r => some [.int .i64 r])) (rn S (callL S T) (finC [.s 6]) (.rc tJ1) [] (mkS [Pv 3, Pv 4, Pv 5, Pv 7, Iv 8 last8] [Xb 3 tb3, Xb 4 idb4, Xb 5 eb5, Xb 7 xb7])) := by
  unfold J1
  refine AcallV 8 [] Q12 F9 (mkS [Pv 5, Pv 7, Iv 8 last8, Cv 29 tb3, Iv 31 idb4.proc, Cv 32 eb5] [Xb 3 tb3, Xb 4 idb4, Xb 5 eb5, Xb 7 xb7]) (trace_formed_fun (S := S) (T := T)) (tb3, idb4.proc, eb5) rfl (by kernel_rfl) fun x_1 h_1 => ?_
  refine KifA (n := 4) (fo' := .rc C2) (fs' := F7) (t := x_1) (A := fun bb => (mkS [Pv 5, Pv 7, Iv 8 last8, Bv 28 (!bb)] [Xb 3 tb3, Xb 4 idb4, Xb 5 eb5, Xb 7 xb7])) (by kernel_rfl) ?_ ?_
  · refine AcallV 5 [] Q11 F1 (mkS [Pv 5, Pv 7, Iv 8 last8, Bv 28 false, Iv 37 eb5.time] [Xb 3 tb3, Xb 4 idb4, Xb 5 eb5, Xb 7 xb7]) (trace_in_fun (S := S) (T := T)) (eb5.time, 0, 1099511627776) rfl (by kernel_rfl) fun x_2 h_2 => ?_
    refine Kjoin (fun x_3 => rn S (callL S T) (finC [.s 6]) (.ops false [] Q10) F1 (mkS [Pv 5, Pv 7, Bv 28 false, Bv 45 x_3] [Xb 3 tb3, Xb 4 idb4, Xb 5 eb5, Xb 7 xb7])) ?_ fun x_3 => ?_
    · refine KifA (n := 2) (fo' := .ops false [] Q1) (fs' := F1) (t := x_2) (A := fun bb => (mkS [Pv 5, Pv 7, Iv 8 last8, Bv 28 false, Bv 40 (!bb)] [Xb 3 tb3, Xb 4 idb4, Xb 5 eb5, Xb 7 xb7])) (by kernel_rfl) ?_ ?_
      · exact Kend (n := 5) (by kernel_rfl) rfl
      · exact Kend (n := 5) (by kernel_rfl) rfl
    · refine KifA (n := 3) (fo' := .rc C3) (fs' := F7) (t := x_3) (A := fun bb => (mkS [Pv 5, Pv 7, Bv 28 false, Bv 35 bb] [Xb 3 tb3, Xb 4 idb4, Xb 5 eb5, Xb 7 xb7])) (by kernel_rfl) ?_ ?_
      · exact Kfin (by kernel_rfl)
      · refine Alen 5 false [] Q9 F8 (mkS [Pv 5, Pv 7, Bv 28 false, Bv 35 false, Cv 48 eb5.assign] [Xb 3 tb3, Xb 4 idb4, Xb 5 eb5, Xb 7 xb7]) eb5.assign rfl (by kernel_rfl) ?_
        refine KifA (n := 4) (fo' := .rc C4) (fs' := F7) (t := decide ((len eb5.assign) > 8)) (A := fun bb => (mkS [Pv 5, Pv 7, Bv 28 false, Bv 35 false, Bv 46 bb] [Xb 3 tb3, Xb 4 idb4, Xb 5 eb5, Xb 7 xb7])) (by kernel_rfl) ?_ ?_
        · exact Kfin (by kernel_rfl)
        · refine Alen 9 false [] Q8 F6 (mkS [Pv 5, Pv 7, Bv 28 false, Bv 35 false, Bv 46 false, Cv 52 eb5.assign] [Xb 3 tb3, Xb 4 idb4, Xb 5 eb5, Xb 7 xb7]) eb5.assign rfl (by kernel_rfl) ?_
          exact Kadv (n := 5) (by kernel_rfl) (W2_ok eb5.assign (len eb5.assign) 0 eb5 xb7)
  · exact Kfin (by kernel_rfl)
end
end trace_eventFault
noncomputable def trace_eventFault (t0 : Trace) (id1 : EventId) (e2 : Event) : Option Int :=
 (idx t0.procs id1.proc).bind fun x_1 =>
 cif (decide (id1.index > 1))
 ((idx x_1.events (IntKind.wrap .i64 (id1.index - 2))).bind fun x_2 =>
 trace_eventFault.J1 x_2.time t0 id1 e2 x_1)
 (trace_eventFault.J1 0 t0 id1 e2 x_1)
open trace_eventFault in
theorem trace_eventFault_ok {S : Sys} {T : Tab} [F_trace_eventFault S T] (t0 : Trace) (id1 : EventId) (e2 : Event) : Le ((trace_eventFault t0 id1 e2).bind fun r => some [.int .i64 r]) (callC (callL S T) (S.N 23) [enc t0, enc id1, enc e2]) := by
  refine Kfun (F_trace_eventFault.t (S := S) (T := T)) (Nat.le_of_ble_eq_true rfl) ?_
  unfold trace_eventFault
  refine Abox 2 false [] Q7 F5 (mkS [Cv 0 t0, Cv 1 id1, Cv 2 e2] []) t0 rfl (by kernel_rfl) (by kernel_rfl) ?_
  refine Abox 1 false [] Q6 F5 (mkS [Cv 2 e2, Pv 3, Pv 4] [Xb 3 t0, Xb 4 id1]) e2 rfl (by kernel_rfl) (by kernel_rfl) ?_
  refine Aidx 9 false [] Q5 F4 (mkS [Pv 3, Pv 4, Pv 5, Cv 12 t0.procs, Iv 14 id1.proc] [Xb 3 t0, Xb 4 id1, Xb 5 e2]) .i64 rfl (by kernel_rfl) fun x_1 h_1 => ?_
  refine Ast 2 false [] Q4 F4 (mkS [Pv 3, Pv 4, Pv 5, Cv 16 x_1, Pv 7] [Xb 3 t0, Xb 4 id1, Xb 5 e2, Xb 7 (⟨ByteArray.empty, Sl.nil, Sl.nil⟩ : Proc)]) 7 0 x_1 [.v (.str ByteArray.empty), .v .nsl, .v .nsl] [.v (.str x_1.name), cv x_1.vars, cv x_1.events] rfl (by kernel_rfl) ?_
  refine KifA (n := 15) (fo' := .rc C1) (fs' := F3) (t := decide (id1.index > 1)) (A := fun bb => (mkS [Pv 3, Pv 4, Pv 5, Pv 7, Iv 8 0, Bv 19 bb] [Xb 3 t0, Xb 4 id1, Xb 5 e2, Xb 7 x_1])) (by kernel_rfl) ?_ ?_
  · refine Aidx 7 false [] Q3 F3 (mkS [Pv 3, Pv 4, Pv 5, Pv 7, Iv 8 0, Bv 19 true, Cv 21 x_1.events, Iv 24 (IntKind.wrap .i64 (id1.index - 2))] [Xb 3 t0, Xb 4 id1, Xb 5 e2, Xb 7 x_1]) .i64 rfl (by kernel_rfl) fun x_2 h_2 => ?_
    exact Kadv (n := 6) (by kernel_rfl) (J1_ok x_2.time t0 id1 e2 x_1)
  · exact Kadv (n := 4) (by kernel_rfl) (J1_ok 0 t0 id1 e2 x_1)
theorem trace_eventFault_fun {S : Sys} {T : Tab} [F_trace_eventFault S T] : Fun S (callL S T) (S.N 23) (fun z : Trace × EventId × Event => [enc z.1, enc z.2.1, enc z.2.2]) (fun r : Int => [.int .i64 r]) (fun z => trace_eventFault z.1 z.2.1 z.2.2) true where
  k := F_trace_eventFault.k (S := S) (T := T)
  h z := trace_eventFault_ok z.1 z.2.1 z.2.2
  l z := by simp
  r r := by simp
  s h r := by kernel_rfl
namespace trace_sends_c1
def Q5 : List RO := o2 3 (.a .box) [0] [0] ::
 o1 4 (.k (.bool false)) [4] ::
 []
def Q3 : List RO := o1 4 19 [19] ::
 []
def Q2 : List RO := o3 15 14 true (fa 1) [3] [3] ::
 o3 16 14 true (ld 1) [15] [15] ::
 o3 17 14 true (ld 1) [2] [2] ::
 o3 18 14 true (bI .eql) [16, 17] [16,17] ::
 o2 19 (.p (.pick)) [14, 18, .k (.bool false)] [14,18] ::
 Q3
def Q4 : List RO := o1 14 13 [13] ::
 Q2
def Q1 : List RO := o3 9 8 true (fa 2) [3] [] ::
 o3 10 8 true (ld 1) [9] [9] ::
 o3 11 8 true (ld 1) [1] [1] ::
 o3 12 8 true (bI .eql) [10, 11] [10,11] ::
 o2 13 (.p (.pick)) [8, 12, .k (.bool false)] [8,12] ::
 Q4
def U1 : RC := .seq (.ops (o2 5 (fa 0) [3] [] ::
 o2 6 (ld 1) [5] [5] ::
 o2 7 (bI .eql) [6, .k (.int .i64 2)] [6] ::
 o1 8 7 [7] ::
 Q1)) (.ret)
def text : RF := ⟨20, [.s 4], .seq (.ops Q5) (U1)⟩
def F1 : List Fm := [.seq .ret]
def F2 : List Fm := [.seq U1]
end trace_sends_c1
class F_trace_sends_c1 (S : Sys) (T : Tab) : Prop where
  t : T (S.N 24) = some trace_sends_c1.text
  k : S.E.keep (S.N 24) = false
namespace trace_sends_c1
section
variable {S : Sys} {T : Tab} [F_trace_sends_c1 S T]
end
end trace_sends_c1
noncomputable def trace_sends_c1 (e0 : Event) (v1 : Int) (v2 : Int) : Option Bool :=
 (cif (e0.kind == 2)
 (some (e0.message == v1))
 (some false) : Option Bool).bind fun x_1 =>
 (cif x_1
 (some (e0.peer == v2))
 (some false) : Option Bool).bind fun x_2 =>
 some x_2
open trace_sends_c1 in
theorem trace_sends_c1_ok {S : Sys} {T : Tab} [F_trace_sends_c1 S T] (e0 : Event) (v1 : Int) (v2 : Int) : Le ((trace_sends_c1 e0 v1 v2).bind fun r => some [.bool r]) (callC (callL S T) (S.N 24) [enc e0, .fptr (cells v1), .fptr (cells v2)]) := by
  refine Kfun (F_trace_sends_c1.t (S := S) (T := T)) (Nat.le_of_ble_eq_true rfl) ?_
  unfold trace_sends_c1
  refine Abox 2 false [] Q5 F2 (mkS [Cv 0 e0, Kv 1 v1, Kv 2 v2] []) e0 rfl (by kernel_rfl) (by kernel_rfl) ?_
  refine Kjoin (fun x_1 => rn S (callL S T) (finC [.s 4]) (.ops false [] Q4) F1 (mkS [Kv 2 v2, Pv 3, Bv 13 x_1] [Xb 3 e0])) ?_ fun x_1 => ?_
  · refine KifA (n := 9) (fo' := .ops false [] Q1) (fs' := F1) (t := (e0.kind == 2)) (A := fun bb => (mkS [Kv 1 v1, Kv 2 v2, Pv 3, Bv 8 bb] [Xb 3 e0])) (by kernel_rfl) ?_ ?_
    · exact Kend (n := 5) (by kernel_rfl) rfl
    · exact Kend (n := 5) (by kernel_rfl) rfl
  · refine Kjoin (fun x_2 => rn S (callL S T) (finC [.s 4]) (.ops false [] Q3) F1 (mkS [Bv 19 x_2] [Xb 3 e0])) ?_ fun x_2 => ?_
    · refine KifA (n := 1) (fo' := .ops false [] Q2) (fs' := F1) (t := x_1) (A := fun bb => (mkS [Kv 2 v2, Pv 3, Bv 14 bb] [Xb 3 e0])) (by kernel_rfl) ?_ ?_
      · exact Kend (n := 5) (by kernel_rfl) rfl
      · exact Kend (n := 5) (by kernel_rfl) rfl
    · exact Kfin (by kernel_rfl)
theorem trace_sends_c1_fun {S : Sys} {T : Tab} [F_trace_sends_c1 S T] : Fun S (callL S T) (S.N 24) (fun z : Event × Int × Int => [enc z.1, .fptr (cells z.2.1), .fptr (cells z.2.2)]) (fun r : Bool => [.bool r]) (fun z => trace_sends_c1 z.1 z.2.1 z.2.2) true where
  k := F_trace_sends_c1.k (S := S) (T := T)
  h z := trace_sends_c1_ok z.1 z.2.1 z.2.2
  l z := by simp
  r r := by simp
  s h r := by kernel_rfl
namespace trace_sends
def Q3 : List RO := o2 4 (.a .box) [0] [0] ::
 o2 6 (.a .box) [2] [2] ::
 o2 7 (.a .box) [3] [3] ::
 o1 8 (.k (.bool false)) [8] ::
 []
def Q1 : List RO := o2 16 .c [.f 3, 14, 15] [14,15] ::
 o1 8 16 [16] ::
 []
def Q2 : List RO := o2 12 (ix 3) [10, 11] [10,11] ::
 o2 13 (fa 2) [12] [12] ::
 o2 14 (ld 1) [13] [13] ::
 o2 15 (.p (.clo 24 0)) [6, 7] [6,7] ::
 Q1
def U1 : RC := .seq (.ops (o2 9 (fa 0) [4] [4] ::
 o2 10 (ld 1) [9] [9] ::
 o1 11 1 [1] ::
 Q2)) (.ret)
def text : RF := ⟨17, [.s 8], .seq (.ops Q3) (U1)⟩
def F1 : List Fm := [.seq .ret]
def F2 : List Fm := [.seq U1]
end trace_sends
class F_trace_sends (S : Sys) (T : Tab) : Prop where
  t : T (S.N 25) = some trace_sends.text
  k : S.E.keep (S.N 25) = false
  c0 : F_trace_sends_c1 S T
  c1 : F_slices_ContainsFunc_Event S T
attribute [instance] F_trace_sends.c0 F_trace_sends.c1
namespace trace_sends
section
variable {S : Sys} {T : Tab} [F_trace_sends S T]
end
end trace_sends
noncomputable def trace_sends (t0 : Trace) (p1 : Int) (m2 : Int) (to_3 : Int) : Option Bool :=
 (idx t0.procs p1).bind fun x_1 =>
 (slices_ContainsFunc_Event x_1.events (fun z => trace_sends_c1 z m2 to_3)).bind fun x_2 =>
 some x_2
open trace_sends in
theorem trace_sends_ok {S : Sys} {T : Tab} [F_trace_sends S T] (t0 : Trace) (p1 : Int) (m2 : Int) (to_3 : Int) : Le ((trace_sends t0 p1 m2 to_3).bind fun r => some [.bool r]) (callC (callL S T) (S.N 25) [enc t0, .int .i64 p1, .int .i64 m2, .int .i64 to_3]) := by
  refine Kfun (F_trace_sends.t (S := S) (T := T)) (Nat.le_of_ble_eq_true rfl) ?_
  unfold trace_sends
  refine Abox 2 false [] Q3 F2 (mkS [Cv 0 t0, Iv 1 p1, Iv 2 m2, Iv 3 to_3] []) t0 rfl (by kernel_rfl) (by kernel_rfl) ?_
  refine Aidx 10 false [] Q2 F1 (mkS [Pv 6, Pv 7, Cv 10 t0.procs, Iv 11 p1] [Xb 4 t0, (6, .box [iv m2]), (7, .box [iv to_3])]) .i64 rfl (by kernel_rfl) fun x_1 h_1 => ?_
  refine AcallS 3 false [] Q1 F1 (mkS [Cv 14 x_1.events, (15, .clo (S.N 24) [] [.ptr 6 0, .ptr 7 0])] [Xb 4 t0, (6, .box [iv m2]), (7, .box [iv to_3])]) (slices_ContainsFunc_Event_fun (S := S) (T := T) (S.N 24) [.fptr (cells m2), .fptr (cells to_3)] (fun z => trace_sends_c1 z m2 to_3) (FnP.of (trace_sends_c1_fun (S := S) (T := T)) (fun z => (z, m2, to_3)) (fun _ => rfl) (fun _ => rfl) (by simp))) x_1.events [.v (.clo (S.N 3) [] []), cv x_1.events, .clo (S.N 24) [] [.ptr 6 0, .ptr 7 0]] [cv x_1.events, .clo (S.N 24) [] [.ptr 6 0, .ptr 7 0]] rfl (by kernel_rfl) fun x_2 h_2 => ?_
  exact Kfin (by kernel_rfl)
theorem trace_sends_fun {S : Sys} {T : Tab} [F_trace_sends S T] : Fun S (callL S T) (S.N 25) (fun z : Trace × Int × Int × Int => [enc z.1, .int .i64 z.2.1, .int .i64 z.2.2.1, .int .i64 z.2.2.2]) (fun r : Bool => [.bool r]) (fun z => trace_sends z.1 z.2.1 z.2.2.1 z.2.2.2) true where
  k := F_trace_sends.k (S := S) (T := T)
  h z := trace_sends_ok z.1 z.2.1 z.2.2.1 z.2.2.2
  l z := by simp
  r r := by simp
  s h r := by kernel_rfl
namespace trace_messageFault
def Q4 : List RO := o2 1 (.a .box) [0] [0] ::
 o2 2 (.a (.alloc 1 [.nptr])) [] [] ::
 o2 3 (.a (.alloc 2 [.int .i64 0, .int .i64 0])) [] [] ::
 o2 4 (.a (.alloc 1 [.int .i64 0])) [] [] ::
 []
def Q2 : List RO := o2 5 (.a (.alloc 1 [.nptr])) [] [] ::
 oz (su 1) [5, 10] [10] ::
 []
def Q3 : List RO := o2 10 (.a .box) [9] [9] ::
 Q2
def Q1 : List RO := o2 12 .c [.f 18, 11] [11] ::
 []
def Q16 : List RO := o2 6 (.a (.alloc 2 [.int .i64 0, .int .i64 0])) [] [] ::
 oz (su 2) [6, 13] [13] ::
 []
def Q14 : List RO := oz (su 5) [7, 14] [14] ::
 []
def Q15 : List RO := o2 7 (.a (.alloc 5 [.int .i64 0, .int .i64 0, .int .i64 0, .int .i64 0, .nsl])) [] [] ::
 Q14
def Q7 : List RO := o2 27 (ld 1) [26] [26] ::
 o2 28 (bI .gtr) [27, .k (.int .i64 0)] [27] ::
 []
def Q8 : List RO := o2 24 (.p (.idxA 200 4)) [23, 22] [22,23] ::
 o2 25 (fa 0) [24] [24] ::
 o2 26 (fa 1) [25] [25] ::
 Q7
def C2 : RC := .cond (.s 28) (.seq (.reg (o2 29 (lD 2) [6] [] ::
 oy (.l (.storeF 1)) [2, .k (.nptr), 6] [6] ::
 oy (su 2) [3, 29] [29] ::
 oy (su 1) [4, .k (.int .i64 8)] [] ::
 [])) (.gh (.keep [] [1,2,3,4,5,10]) (.ret))) (.skip)
def Q5 : List RO := oy (su 2) [35, 32] [32,35] ::
 []
def Q6 : List RO := on 34 (.p (.idxA 200 4)) [33, 31] [31,33] ::
 on 35 (fa 0) [34] [34] ::
 Q5
def U1 : RC := .reg (o2 30 (ld 1) [5] [] ::
 o1 31 8 [8] ::
 o2 32 (lD 2) [6] [6] ::
 o2 33 (.p (.nilc)) [30] [30] ::
 Q6)
def Q12 : List RO := o2 44 (ld 1) [43] [43] ::
 o2 45 (bI .gtr) [44, .k (.int .i64 0)] [44] ::
 []
def Q13 : List RO := o2 41 (.p (.idxA 200 4)) [40, 39] [39,40] ::
 o2 42 (fa 2) [41] [41] ::
 o2 43 (fa 1) [42] [42] ::
 Q12
def C4 : RC := .cond (.s 45) (.seq (.reg (o2 46 (lD 2) [6] [] ::
 oy (.l (.storeF 1)) [2, .k (.nptr), 6] [6] ::
 oy (su 2) [3, 46] [46] ::
 oy (su 1) [4, .k (.int .i64 8)] [] ::
 [])) (.gh (.keep [] [1,2,3,4,5,10]) (.ret))) (.skip)
def Q11 : List RO := o2 53 .c [.f 25, 47, 49, 50, 52] [47,49,50,52] ::
 o2 54 (.p (.not)) [53] [53] ::
 []
def C5 : RC := .cond (.s 54) (.seq (.reg (o2 55 (lD 2) [6] [] ::
 oy (.l (.storeF 1)) [2, .k (.nptr), 6] [6] ::
 oy (su 2) [3, 55] [55] ::
 oy (su 1) [4, .k (.int .i64 7)] [] ::
 [])) (.gh (.keep [] [1,2,3,4,5,10]) (.ret))) (.skip)
def Q9 : List RO := oy (su 2) [61, 58] [58,61] ::
 []
def Q10 : List RO := on 60 (.p (.idxA 200 4)) [59, 57] [57,59] ::
 on 61 (fa 2) [60] [60] ::
 Q9
def U2 : RC := .reg (o2 56 (ld 1) [5] [] ::
 o1 57 8 [8] ::
 o2 58 (lD 2) [6] [6] ::
 o2 59 (.p (.nilc)) [56] [56] ::
 Q10)
def U3 : RC := .seq (.seq (.ops (o2 47 (lD 1) [1] [] ::
 o2 48 (fa 1) [7] [7] ::
 o2 49 (ld 1) [48] [48] ::
 o1 50 8 [] ::
 o2 51 (fa 0) [6] [] ::
 o2 52 (ld 1) [51] [51] ::
 Q11)) (C5)) (U2)
def C3 : RC := .cond (.s 36) (.seq (.seq (.ops (o2 38 (ld 1) [5] [] ::
 o1 39 8 [] ::
 o2 40 (.p (.nilc)) [38] [38] ::
 Q13)) (C4)) (U3)) (.skip)
def C1 : RC := .cond (.s 19) (.seq (.seq (.ops (o2 21 (ld 1) [5] [] ::
 o1 22 8 [] ::
 o2 23 (.p (.nilc)) [21] [21] ::
 Q8)) (C2)) (U1)) (.seq (.ops (o2 37 (bI .eql) [18, .k (.int .i64 3)] [18] ::
 o1 36 37 [37] ::
 [])) (C3))
def U4 : RC := .block 2 (.seq (.ops (o2 20 (bI .eql) [18, .k (.int .i64 2)] [] ::
 o1 19 20 [20] ::
 [])) (C1))
def U5 : RC := .seq (.ops (o2 17 (fa 0) [7] [] ::
 o2 18 (ld 1) [17] [17] ::
 [])) (U4)
def aE1 : RC := .seq (.ops Q16) (.ops Q15)
def bE1 : RC := .hg (.block 1 (.seq (.ops (o2 15 (fa 2) [7] [] ::
 o2 16 (ld 1) [15] [15] ::
 o1 8 16 [16] ::
 [])) (U5))) (.keep [] [1,2,3,4,5,10])
def U6 : RC := .block 0 (.gh (.keep [1,2,3,4,5,12] [1,2,3,4,5,10]) (.each (.s 12) [13,14] aE1 bE1))
def U7 : RC := .seq (.ops (o2 62 (ld 1) [5] [5] ::
 o2 63 (.p (.build [.int .i64 0, .int .i64 0] [])) [] [] ::
 oz (su 1) [2, 62] [62] ::
 oz (su 2) [3, 63] [63] ::
 oz (su 1) [4, .k (.int .i64 0)] [] ::
 [])) (.gh (.keep [2,3,4] [2,3,4,10]) (.ret))
def U8 : RC := .seq (.seq (.ops (o2 11 (lD 1) [1] [] ::
 Q1)) (U6)) (U7)
def U9 : RC := .seq (.ops (o2 9 (.p (.build (List.replicate 800 (.int .i64 0)) [])) [] [] ::
 Q3)) (U8)
def text : RF := ⟨64, [.ld 2 1 false, .ld 3 2 true, .ld 4 1 false], .seq (.ops Q4) (U9)⟩
def F2 : List Fm := [.seq U8]
def F3 : List Fm := [.seq U9]
def F11 : List Fm := [.seq (.ops Q15)]
def F1 : List Fm := [.seq U6, .seq U7]
def F12 : List Fm := [.blk 0, .seq U7]
def F4 : List Fm := [.blk 2, .blk 1, .gst (.keep [] [1,2,3,4,5,10])]
def F5 : List Fm := .seq U1 :: F4
def F7 : List Fm := .seq U2 :: F4
def F9 : List Fm := .seq U3 :: F4
def F6 : List Fm := .seq C2 :: F5
def F8 : List Fm := .seq C5 :: F7
def F10 : List Fm := .seq C4 :: F9
end trace_messageFault
class F_trace_messageFault (S : Sys) (T : Tab) : Prop where
  t : T (S.N 26) = some trace_messageFault.text
  k : S.E.keep (S.N 26) = false
  c0 : F_trace_events S T
  c1 : F_trace_sends S T
  i0 : ∀ t : Trace, ∀ its, trace_items t = some its → S.items (S.N 17) [] [.fptr (cells t)] = some (its.map fun x : EventId × Event => [enc x.1, enc x.2])
attribute [instance] F_trace_messageFault.c0 F_trace_messageFault.c1
namespace trace_messageFault
section
variable {S : Sys} {T : Tab} [F_trace_messageFault S T]
noncomputable def E1_step (vk0_12 : Trace) (tb1 : Trace) (vb2 : Option (Arr 200 AnFromTo)) (vb3 : EventId) (vb4 : Int) (x : EventId × Event) (vb10 : Arr 200 AnFromTo) : Option (Fw (Arr 200 AnFromTo) Empty (EventId × Int × (Arr 200 AnFromTo))) :=
 cif (x.2.kind == 2)
 ((Arr.at vb10 x.2.message).bind fun x_1 =>
 cif (decide (x_1.from_.index > 0))
 (some (.r (x.1, 8, vb10)))
 ((Arr.at vb10 x.2.message).bind fun x_2 =>
 some (.n (Arr.set vb10 x.2.message (⟨x.1, x_2.to_⟩ : AnFromTo)))))
 (cif (x.2.kind == 3)
 ((Arr.at vb10 x.2.message).bind fun x_3 =>
 cif (decide (x_3.to_.index > 0))
 (some (.r (x.1, 8, vb10)))
 ((trace_sends tb1 x.2.peer x.2.message x.1.proc).bind fun x_4 =>
 cif x_4
 ((Arr.at vb10 x.2.message).bind fun x_5 =>
 some (.n (Arr.set vb10 x.2.message (⟨x_5.from_, x.1⟩ : AnFromTo))))
 (some (.r (x.1, 7, vb10)))))
 (some (.n vb10)))
noncomputable def E1 (vk0_12 : Trace) (tb1 : Trace) (vb2 : Option (Arr 200 AnFromTo)) (vb3 : EventId) (vb4 : Int) (vb10 : Arr 200 AnFromTo) : Option ((Option (Arr 200 AnFromTo)) × EventId × Int) :=
 (trace_items vk0_12).bind fun its => (weach (fun (x : EventId × Event) (q : Arr 200 AnFromTo) => E1_step vk0_12 tb1 vb2 vb3 vb4 x q) its vb10).bind (Fw.elimE
 (fun q => some (some q, ⟨0, 0⟩, 0))
 (fun e => Empty.elim e)
 (fun e => some ((none : Option (Arr 200 AnFromTo)), e.1, e.2.1)))
def E1_s (S : Sys) (vk0_12 : Trace) (tb1 : Trace) (vb2 : Option (Arr 200 AnFromTo)) (vb3 : EventId) (vb4 : Int) : Arr 200 AnFromTo → Tb SOb := fun q => [Xb 1 tb1, (2, .box [cv vb2]), Xb 3 vb3, (4, .box [iv vb4]), (5, .box [.ptr 10 0]), Xb 10 q]
def E1_e (S : Sys) (vk0_12 : Trace) (tb1 : Trace) (vb2 : Option (Arr 200 AnFromTo)) (vb3 : EventId) (vb4 : Int) : Empty → Nat × Tb SOb := fun e => Empty.elim e
def E1_r (S : Sys) (vk0_12 : Trace) (tb1 : Trace) (vb2 : Option (Arr 200 AnFromTo)) (vb3 : EventId) (vb4 : Int) : EventId × Int × (Arr 200 AnFromTo) → Tb SOb := fun e => [Xb 1 tb1, (2, .box [cv (none : Option (Arr 200 AnFromTo))]), Xb 3 e.1, (4, .box [iv e.2.1]), (5, .box [.ptr 10 0]), Xb 10 e.2.2]
theorem E1_step_ok (vk0_12 : Trace) (tb1 : Trace) (vb2 : Option (Arr 200 AnFromTo)) (vb3 : EventId) (vb4 : Int) (x : EventId × Event) (vb10 : Arr 200 AnFromTo) : Le ((E1_step vk0_12 tb1 vb2 vb3 vb4 x vb10).bind (fun w => some (Fw.outM (E1_s S vk0_12 tb1 vb2 vb3 vb4) (E1_e S vk0_12 tb1 vb2 vb3 vb4) (E1_r S vk0_12 tb1 vb2 vb3 vb4) w))) (rn S (callL S T) (eachQ S (callL S T) bE1) (.rc aE1) [] ⟨[Pv 1, Pv 2, Pv 3, Pv 4, Pv 5, (12, .v (.clo (S.N 17) [] [.fptr (cells vk0_12)])), Cv 13 x.1, Cv 14 x.2], [Xb 1 tb1, (2, .box [cv vb2]), Xb 3 vb3, (4, .box [iv vb4]), (5, .box [.ptr 10 0]), Xb 10 vb10], [1,2,3,4,5], [], true, 0⟩) := by
  unfold E1_step
  refine Aal 2 false [] Q16 F11 ⟨[Pv 1, Pv 2, Pv 3, Pv 4, Pv 5, (12, .v (.clo (S.N 17) [] [.fptr (cells vk0_12)])), Cv 13 x.1, Cv 14 x.2], [Xb 1 tb1, (2, .box [cv vb2]), Xb 3 vb3, (4, .box [iv vb4]), (5, .box [.ptr 10 0]), Xb 10 vb10], [1,2,3,4,5], [], true, 0⟩ [iv 0, iv 0] rfl (by simp only [mkS, new_eq, saysG_cons, saysG_nil, saysM_cons, saysM_nil, saysO_bx, saysO_box, saysL_v, saysL_cons, saysL_nil, says_v, says_own, says_ptr, says_clo, says_tup, says_mp, says_el, tdel_cons, tdel_nil]; rfl) (by kernel_rfl) ?_
  refine Aal 4 false [] Q15 [] ⟨[Pv 1, Pv 2, Pv 3, Pv 4, Pv 5, (12, .v (.clo (S.N 17) [] [.fptr (cells vk0_12)])), Cv 14 x.2, Pv 6], [Xb 1 tb1, (2, .box [cv vb2]), Xb 3 vb3, (4, .box [iv vb4]), (5, .box [.ptr 10 0]), Xb 10 vb10, Xb 6 x.1], [1,2,3,4,5], [], true, 0⟩ [iv 0, iv 0, iv 0, iv 0, .v .nsl] rfl (by simp only [mkS, new_eq, saysG_cons, saysG_nil, saysM_cons, saysM_nil, saysO_bx, saysO_box, saysL_v, saysL_cons, saysL_nil, says_v, says_own, says_ptr, says_clo, says_tup, says_mp, says_el, tdel_cons, tdel_nil]; rfl) (by kernel_rfl) ?_
  refine Ast 0 false [] Q14 [] ⟨[Pv 1, Pv 2, Pv 3, Pv 4, Pv 5, (12, .v (.clo (S.N 17) [] [.fptr (cells vk0_12)])), Cv 14 x.2, Pv 6, Pv 7], [Xb 1 tb1, (2, .box [cv vb2]), Xb 3 vb3, (4, .box [iv vb4]), (5, .box [.ptr 10 0]), Xb 10 vb10, Xb 6 x.1, Xb 7 (⟨0, 0, 0, 0, Sl.nil⟩ : Event)], [1,2,3,4,5], [], true, 0⟩ 7 0 x.2 [iv 0, iv 0, iv 0, iv 0, .v .nsl] [iv x.2.kind, iv x.2.peer, iv x.2.message, iv x.2.time, cv x.2.assign] rfl (by kernel_rfl) ?_
  refine KeachQ (n := 1) (st' := ⟨[Pv 1, Pv 2, Pv 3, Pv 4, Pv 5, (12, .v (.clo (S.N 17) [] [.fptr (cells vk0_12)])), Pv 6, Pv 7], [Xb 1 tb1, (2, .box [cv vb2]), Xb 3 vb3, (4, .box [iv vb4]), (5, .box [.ptr 10 0]), Xb 10 vb10, Xb 6 x.1, Xb 7 x.2], [1,2,3,4,5], [], true, 0⟩) (by kernel_rfl) ?_
  refine KifA (n := 22) (fo' := .rc C1) (fs' := F4) (t := (x.2.kind == 2)) (A := fun bb => ⟨[Pv 1, Pv 2, Pv 3, Pv 4, Pv 5, (12, .v (.clo (S.N 17) [] [.fptr (cells vk0_12)])), Pv 6, Pv 7, Iv 8 x.2.message, Iv 18 x.2.kind, Bv 19 bb], [Xb 1 tb1, (2, .box [cv vb2]), Xb 3 vb3, (4, .box [iv vb4]), (5, .box [.ptr 10 0]), Xb 10 vb10, Xb 6 x.1, Xb 7 x.2], [1,2,3,4,5], [], true, 0⟩) (by kernel_rfl) ?_ ?_
  · refine AidxB 7 false [] Q8 F6 ⟨[Pv 1, Pv 2, Pv 3, Pv 4, Pv 5, (12, .v (.clo (S.N 17) [] [.fptr (cells vk0_12)])), Pv 6, Pv 7, Iv 8 x.2.message, Iv 18 x.2.kind, Bv 19 true, Iv 22 x.2.message, (23, .ptr 10 0)], [Xb 1 tb1, (2, .box [cv vb2]), Xb 3 vb3, (4, .box [iv vb4]), (5, .box [.ptr 10 0]), Xb 10 vb10, Xb 6 x.1, Xb 7 x.2], [1,2,3,4,5], [], true, 0⟩ .i64 10 rfl (by kernel_rfl) fun x_1 h_1 => ?_
    refine AgetB 2 false [] Q7 F6 ⟨[Pv 1, Pv 2, Pv 3, Pv 4, Pv 5, (12, .v (.clo (S.N 17) [] [.fptr (cells vk0_12)])), Pv 6, Pv 7, Iv 8 x.2.message, Iv 18 x.2.kind, Bv 19 true, (26, .ptr 10 (x.2.message.toNat * 4 + 1))], [Xb 1 tb1, (2, .box [cv vb2]), Xb 3 vb3, (4, .box [iv vb4]), (5, .box [.ptr 10 0]), Xb 10 vb10, Xb 6 x.1, Xb 7 x.2], [1,2,3,4,5], [], true, 0⟩ 10 vb10 x.2.message 1 x_1 h_1 (by rfl) (.int .i64 x_1.from_.index) rfl (by kernel_rfl) ?_
    refine KifA (n := 3) (fo' := .rc C2) (fs' := F5) (t := decide (x_1.from_.index > 0)) (A := fun bb => ⟨[Pv 1, Pv 2, Pv 3, Pv 4, Pv 5, (12, .v (.clo (S.N 17) [] [.fptr (cells vk0_12)])), Pv 6, Pv 7, Iv 8 x.2.message, Iv 18 x.2.kind, Bv 19 true, Bv 28 bb], [Xb 1 tb1, (2, .box [cv vb2]), Xb 3 vb3, (4, .box [iv vb4]), (5, .box [.ptr 10 0]), Xb 10 vb10, Xb 6 x.1, Xb 7 x.2], [1,2,3,4,5], [], true, 0⟩) (by kernel_rfl) ?_ ?_
    · exact Kfin (by kernel_rfl)
    · refine AidxB 8 true [] Q6 F4 ⟨[Pv 1, Pv 2, Pv 3, Pv 4, Pv 5, (12, .v (.clo (S.N 17) [] [.fptr (cells vk0_12)])), Pv 7, Iv 18 x.2.kind, Bv 19 true, Bv 28 false, Iv 31 x.2.message, Cv 32 x.1, (33, .ptr 10 0)], [Xb 1 tb1, (2, .box [cv vb2]), Xb 3 vb3, (4, .box [iv vb4]), (5, .box [.ptr 10 0]), Xb 10 vb10, Xb 6 x.1, Xb 7 x.2], [1,2,3,4,5], [], true, 0⟩ .i64 10 rfl (by kernel_rfl) fun x_2 h_2 => ?_
      refine AputB 1 true [] Q5 F4 ⟨[Pv 1, Pv 2, Pv 3, Pv 4, Pv 5, (12, .v (.clo (S.N 17) [] [.fptr (cells vk0_12)])), Pv 7, Iv 18 x.2.kind, Bv 19 true, Bv 28 false, Cv 32 x.1, (35, .ptr 10 (x.2.message.toNat * 4 + 0))], [Xb 1 tb1, (2, .box [cv vb2]), Xb 3 vb3, (4, .box [iv vb4]), (5, .box [.ptr 10 0]), Xb 10 vb10, Xb 6 x.1, Xb 7 x.2], [1,2,3,4,5], [], true, 0⟩ 10 vb10 x.2.message 0 x_2 h_2 (⟨x.1, x_2.to_⟩ : AnFromTo) (enc x.1) (by rfl) rfl (by kernel_rfl) ?_
      exact Kfin (by kernel_rfl)
  · refine KifA (n := 7) (fo' := .rc C3) (fs' := F4) (t := (x.2.kind == 3)) (A := fun bb => ⟨[Pv 1, Pv 2, Pv 3, Pv 4, Pv 5, (12, .v (.clo (S.N 17) [] [.fptr (cells vk0_12)])), Pv 6, Pv 7, Iv 8 x.2.message, Bv 19 false, Bv 36 bb], [Xb 1 tb1, (2, .box [cv vb2]), Xb 3 vb3, (4, .box [iv vb4]), (5, .box [.ptr 10 0]), Xb 10 vb10, Xb 6 x.1, Xb 7 x.2], [1,2,3,4,5], [], true, 0⟩) (by kernel_rfl) ?_ ?_
    · refine AidxB 7 false [] Q13 F10 ⟨[Pv 1, Pv 2, Pv 3, Pv 4, Pv 5, (12, .v (.clo (S.N 17) [] [.fptr (cells vk0_12)])), Pv 6, Pv 7, Iv 8 x.2.message, Bv 19 false, Bv 36 true, Iv 39 x.2.message, (40, .ptr 10 0)], [Xb 1 tb1, (2, .box [cv vb2]), Xb 3 vb3, (4, .box [iv vb4]), (5, .box [.ptr 10 0]), Xb 10 vb10, Xb 6 x.1, Xb 7 x.2], [1,2,3,4,5], [], true, 0⟩ .i64 10 rfl (by kernel_rfl) fun x_3 h_3 => ?_
      refine AgetB 2 false [] Q12 F10 ⟨[Pv 1, Pv 2, Pv 3, Pv 4, Pv 5, (12, .v (.clo (S.N 17) [] [.fptr (cells vk0_12)])), Pv 6, Pv 7, Iv 8 x.2.message, Bv 19 false, Bv 36 true, (43, .ptr 10 (x.2.message.toNat * 4 + 3))], [Xb 1 tb1, (2, .box [cv vb2]), Xb 3 vb3, (4, .box [iv vb4]), (5, .box [.ptr 10 0]), Xb 10 vb10, Xb 6 x.1, Xb 7 x.2], [1,2,3,4,5], [], true, 0⟩ 10 vb10 x.2.message 3 x_3 h_3 (by rfl) (.int .i64 x_3.to_.index) rfl (by kernel_rfl) ?_
      refine KifA (n := 3) (fo' := .rc C4) (fs' := F9) (t := decide (x_3.to_.index > 0)) (A := fun bb => ⟨[Pv 1, Pv 2, Pv 3, Pv 4, Pv 5, (12, .v (.clo (S.N 17) [] [.fptr (cells vk0_12)])), Pv 6, Pv 7, Iv 8 x.2.message, Bv 19 false, Bv 36 true, Bv 45 bb], [Xb 1 tb1, (2, .box [cv vb2]), Xb 3 vb3, (4, .box [iv vb4]), (5, .box [.ptr 10 0]), Xb 10 vb10, Xb 6 x.1, Xb 7 x.2], [1,2,3,4,5], [], true, 0⟩) (by kernel_rfl) ?_ ?_
      · exact Kfin (by kernel_rfl)
      · refine AcallV 12 [] Q11 F8 ⟨[Pv 1, Pv 2, Pv 3, Pv 4, Pv 5, (12, .v (.clo (S.N 17) [] [.fptr (cells vk0_12)])), Pv 6, Iv 8 x.2.message, Bv 19 false, Bv 36 true, Bv 45 false, Cv 47 tb1, Iv 49 x.2.peer, Iv 50 x.2.message, Iv 52 x.1.proc], [Xb 1 tb1, (2, .box [cv vb2]), Xb 3 vb3, (4, .box [iv vb4]), (5, .box [.ptr 10 0]), Xb 10 vb10, Xb 6 x.1, Xb 7 x.2], [1,2,3,4,5], [], true, 0⟩ (trace_sends_fun (S := S) (T := T)) (tb1, x.2.peer, x.2.message, x.1.proc) rfl (by kernel_rfl) fun x_4 h_4 => ?_
        refine KifA (n := 3) (fo' := .rc C5) (fs' := F7) (t := x_4) (A := fun bb => ⟨[Pv 1, Pv 2, Pv 3, Pv 4, Pv 5, (12, .v (.clo (S.N 17) [] [.fptr (cells vk0_12)])), Pv 6, Iv 8 x.2.message, Bv 19 false, Bv 36 true, Bv 45 false, Bv 54 (!bb)], [Xb 1 tb1, (2, .box [cv vb2]), Xb 3 vb3, (4, .box [iv vb4]), (5, .box [.ptr 10 0]), Xb 10 vb10, Xb 6 x.1, Xb 7 x.2], [1,2,3,4,5], [], true, 0⟩) (by kernel_rfl) ?_ ?_
        · refine AidxB 8 true [] Q10 F4 ⟨[Pv 1, Pv 2, Pv 3, Pv 4, Pv 5, (12, .v (.clo (S.N 17) [] [.fptr (cells vk0_12)])), Bv 19 false, Bv 36 true, Bv 45 false, Bv 54 false, Iv 57 x.2.message, Cv 58 x.1, (59, .ptr 10 0)], [Xb 1 tb1, (2, .box [cv vb2]), Xb 3 vb3, (4, .box [iv vb4]), (5, .box [.ptr 10 0]), Xb 10 vb10, Xb 6 x.1, Xb 7 x.2], [1,2,3,4,5], [], true, 0⟩ .i64 10 rfl (by kernel_rfl) fun x_5 h_5 => ?_
          refine AputB 1 true [] Q9 F4 ⟨[Pv 1, Pv 2, Pv 3, Pv 4, Pv 5, (12, .v (.clo (S.N 17) [] [.fptr (cells vk0_12)])), Bv 19 false, Bv 36 true, Bv 45 false, Bv 54 false, Cv 58 x.1, (61, .ptr 10 (x.2.message.toNat * 4 + 2))], [Xb 1 tb1, (2, .box [cv vb2]), Xb 3 vb3, (4, .box [iv vb4]), (5, .box [.ptr 10 0]), Xb 10 vb10, Xb 6 x.1, Xb 7 x.2], [1,2,3,4,5], [], true, 0⟩ 10 vb10 x.2.message 2 x_5 h_5 (⟨x_5.from_, x.1⟩ : AnFromTo) (enc x.1) (by rfl) rfl (by kernel_rfl) ?_
          exact Kfin (by kernel_rfl)
        · exact Kfin (by kernel_rfl)
    · exact Kfin (by kernel_rfl)
theorem E1_ok (vk0_12 : Trace) (tb1 : Trace) (vb2 : Option (Arr 200 AnFromTo)) (vb3 : EventId) (vb4 : Int) (vb10 : Arr 200 AnFromTo) : Le ((E1 vk0_12 tb1 vb2 vb3 vb4 vb10).bind (fun r => some [enc r.1, enc r.2.1, .int .i64 r.2.2])) (rn S (callL S T) (finC [.ld 2 1 false, .ld 3 2 true, .ld 4 1 false]) (.rc (.each (.s 12) [13,14] aE1 bE1)) F12 (mkS [Pv 1, Pv 2, Pv 3, Pv 4, Pv 5, (12, .v (.clo (S.N 17) [] [.fptr (cells vk0_12)]))] [Xb 1 tb1, (2, .box [cv vb2]), Xb 3 vb3, (4, .box [iv vb4]), (5, .box [.ptr 10 0]), Xb 10 vb10])) := by
  unfold E1
  refine KitO fun its hits => ?_
  refine KeachA (n := 0) (g := .s 12) (fs := F12) (a := aE1) (b := bE1) (ps := [13,14]) (gt := [Pv 1, Pv 2, Pv 3, Pv 4, Pv 5, (12, .v (.clo (S.N 17) [] [.fptr (cells vk0_12)]))]) (eσ := E1_s S vk0_12 tb1 vb2 vb3 vb4) (eε := E1_e S vk0_12 tb1 vb2 vb3 vb4) (eρ := E1_r S vk0_12 tb1 vb2 vb3 vb4) (by kernel_rfl) (by kernel_rfl) (F_trace_messageFault.i0 (S := S) (T := T) vk0_12 its hits) (fun _ => rfl) (fun x q => Kto (by kernel_rfl) (E1_step_ok (S := S) (T := T) vk0_12 tb1 vb2 vb3 vb4 x q)) ?_ ?_ ?_
  · intro q
    exact KfinP 13 (fs' := []) (st := (mkS [Pv 2, Pv 3, Pv 4] [(2, .box [.ptr 10 0]), Xb 3 (⟨0, 0⟩ : EventId), (4, .box [iv 0]), Xb 10 q])) [.ptr 10 0, cv (⟨0, 0⟩ : EventId), iv 0] (trav_bx (d := 10) (x := q) (vs := [enc (⟨0, 0⟩ : EventId), .int .i64 0]) (by kernel_rfl)) (by kernel_rfl) (by kernel_rfl)
  · intro e; exact Empty.elim e
  · intro e
    exact Kfin (by kernel_rfl)
end
end trace_messageFault
noncomputable def trace_messageFault (t0 : Trace) : Option ((Option (Arr 200 AnFromTo)) × EventId × Int) :=
 (trace_events t0).bind fun x_1 =>
 trace_messageFault.E1 x_1 t0 (none : Option (Arr 200 AnFromTo)) (⟨0, 0⟩ : EventId) 0 (Arr.mk0 200 (⟨⟨0, 0⟩, ⟨0, 0⟩⟩ : AnFromTo))
open trace_messageFault in
theorem trace_messageFault_ok {S : Sys} {T : Tab} [F_trace_messageFault S T] (t0 : Trace) : Le ((trace_messageFault t0).bind fun r => some [enc r.1, enc r.2.1, .int .i64 r.2.2]) (callC (callL S T) (S.N 26) [enc t0]) := by
  refine Kfun (F_trace_messageFault.t (S := S) (T := T)) (Nat.le_of_ble_eq_true rfl) ?_
  unfold trace_messageFault
  refine Abox 2 false [] Q4 F3 (mkS [Cv 0 t0] []) t0 rfl (by kernel_rfl) (by kernel_rfl) ?_
  refine Abox 8 false [] Q3 F2 (mkS [Pv 1, Pv 2, Pv 3, Pv 4, Cv 9 (Arr.mk0 200 (⟨⟨0, 0⟩, ⟨0, 0⟩⟩ : AnFromTo))] [Xb 1 t0, (2, .box [cv (none : Option (Arr 200 AnFromTo))]), Xb 3 (⟨0, 0⟩ : EventId), (4, .box [iv 0])]) (Arr.mk0 200 (⟨⟨0, 0⟩, ⟨0, 0⟩⟩ : AnFromTo)) rfl (by kernel_rfl) (by kernel_rfl) ?_
  refine Aal 0 false [] Q2 F2 (mkS [Pv 1, Pv 2, Pv 3, Pv 4, Pv 10] [Xb 1 t0, (2, .box [cv (none : Option (Arr 200 AnFromTo))]), Xb 3 (⟨0, 0⟩ : EventId), (4, .box [iv 0]), Xb 10 (Arr.mk0 200 (⟨⟨0, 0⟩, ⟨0, 0⟩⟩ : AnFromTo))]) [cv (none : Option (Arr 200 AnFromTo))] rfl (by simp only [mkS, new_eq, saysG_cons, saysG_nil, saysM_cons, saysM_nil, saysO_bx, saysO_box, saysL_v, saysL_cons, saysL_nil, says_v, says_own, says_ptr, says_clo, says_tup, says_mp, says_el, tdel_cons, tdel_nil]; rfl) (by kernel_rfl) ?_
  refine AcallV 7 [] Q1 F1 (mkS [Pv 1, Pv 2, Pv 3, Pv 4, Pv 5, Cv 11 t0] [Xb 1 t0, (2, .box [cv (none : Option (Arr 200 AnFromTo))]), Xb 3 (⟨0, 0⟩ : EventId), (4, .box [iv 0]), Xb 10 (Arr.mk0 200 (⟨⟨0, 0⟩, ⟨0, 0⟩⟩ : AnFromTo)), (5, .box [.ptr 10 0])]) (trace_events_fun (S := S) (T := T)) t0 rfl (by kernel_rfl) fun x_1 h_1 => ?_
  exact Kadv (n := 4) (by kernel_rfl) (E1_ok x_1 t0 (none : Option (Arr 200 AnFromTo)) (⟨0, 0⟩ : EventId) 0 (Arr.mk0 200 (⟨⟨0, 0⟩, ⟨0, 0⟩⟩ : AnFromTo)))
theorem trace_messageFault_fun {S : Sys} {T : Tab} [F_trace_messageFault S T] : Fun S (callL S T) (S.N 26) (fun z : Trace => [enc z]) (fun r : (Option (Arr 200 AnFromTo)) × EventId × Int => [enc r.1, enc r.2.1, .int .i64 r.2.2]) (fun z => trace_messageFault z) false where
  k := F_trace_messageFault.k (S := S) (T := T)
  h z := trace_messageFault_ok z
  l z := by simp
  r r := by simp
  s h r := by cases h
namespace trace_after
def Q5 : List RO := o2 3 (.a .box) [0] [0] ::
 o2 5 (.a .box) [2] [2] ::
 o1 6 (.k (.nsl)) [6] ::
 []
def Q4 : List RO := o2 14 (ix 3) [11, 13] [11,13] ::
 o2 15 (fa 2) [14] [14] ::
 o2 16 (ld 1) [15] [15] ::
 o1 8 16 [16] ::
 []
def Q3 : List RO := o2 20 ln [19] [19] ::
 o2 21 (bI .lss) [18, 20] [18,20] ::
 []
def Q2 : List RO := o2 30 (.l (.append 2)) [22, 29] [22,29] ::
 o1 7 30 [30] ::
 []
def C1 : RC := .cond (.s 21) (.ops (o1 22 7 [7] ::
 o2 23 (fa 0) [5] [] ::
 o2 24 (ld 1) [23] [23] ::
 o2 25 (fa 1) [5] [] ::
 o2 26 (ld 1) [25] [25] ::
 o2 27 (bI .add) [26, .k (.int .i64 1)] [26] ::
 o2 28 (.p (.build [.int .i64 0, .int .i64 0] [(0, 1), (1, 1)])) [24, 27] [24,27] ::
 o2 29 (.a (.buildSl 2 1 [.int .i64 0, .int .i64 0] [0])) [28] [28] ::
 Q2)) (.skip)
def Q14 : List RO := oz (su 5) [9, 36] [36] ::
 []
def Q15 : List RO := o2 35 (ix 5) [31, 34] [31,34] ::
 o2 36 (lD 5) [35] [35] ::
 o2 9 (.a (.alloc 5 [.int .i64 0, .int .i64 0, .int .i64 0, .int .i64 0, .nsl])) [] [] ::
 Q14
def Q6 : List RO := ⟨some 48, some (40, true), true, ld 1, [47], [47], []⟩ ::
 ⟨some 49, some (40, true), true, bI .gtr, [48, .k (.int .i64 0)], [48], []⟩ ::
 on 50 (.p (.pick)) [40, 49, .k (.bool false)] [40,49] ::
 []
def Q7 : List RO := ⟨some 47, some (40, true), true, fa 1, [46], [46], []⟩ ::
 Q6
def Q8 : List RO := ⟨some 46, some (40, true), true, fa 2, [45], [45], []⟩ ::
 Q7
def Q9 : List RO := ⟨some 45, some (40, true), true, .p (.idxA 200 4), [44, 43], [43,44], []⟩ ::
 Q8
def Q1 : List RO := o3 41 40 true (.p (.id)) [1] [] ::
 ⟨some 42, some (40, true), true, fa 2, [9], [], []⟩ ::
 ⟨some 43, some (40, true), true, ld 1, [42], [42], []⟩ ::
 o3 44 40 true (.p (.nilc)) [41] [41] ::
 Q9
def Q10 : List RO := on 60 (.l (.append 2)) [51, 59] [51,59] ::
 on 7 (.p (.id)) [60] [60] ::
 []
def Q11 : List RO := on 58 (lD 2) [57] [57] ::
 on 59 (.a (.buildSl 2 1 [.int .i64 0, .int .i64 0] [0])) [58] [58] ::
 Q10
def Q12 : List RO := on 57 (fa 2) [56] [56] ::
 Q11
def Q13 : List RO := on 56 (.p (.idxA 200 4)) [55, 54] [54,55] ::
 Q12
def C2 : RC := .cond (.s 50) (.reg (o1 51 7 [7] ::
 o1 52 1 [1] ::
 on 53 (fa 2) [9] [9] ::
 on 54 (ld 1) [53] [53] ::
 o2 55 (.p (.nilc)) [52] [52] ::
 Q13)) (.skip)
def U1 : RC := .seq (.reg (on 37 (fa 0) [9] [] ::
 on 38 (ld 1) [37] [37] ::
 on 39 (bI .eql) [38, .k (.int .i64 2)] [38] ::
 on 40 (.p (.id)) [39] [39] ::
 Q1)) (C2)
def U2 : RC := .seq (.ops (o1 61 7 [7] ::
 o1 6 61 [61] ::
 [])) (.ret)
def tJ1 : RC := .seq (.seq (.ops (o1 31 8 [8] ::
 o2 32 (fa 1) [5] [5] ::
 o2 33 (ld 1) [32] [32] ::
 o2 34 (bI .sub) [33, .k (.int .i64 1)] [33] ::
 Q15)) (U1)) (U2)
def U3 : RC := .gh (.canon (.s 7) 2007 2) (.gh (.keep [1,5,7,8] [5,2007]) (tJ1))
def U4 : RC := .seq (.seq (.ops (o2 17 (fa 1) [5] [] ::
 o2 18 (ld 1) [17] [17] ::
 o1 19 8 [] ::
 Q3)) (C1)) (U3)
def U5 : RC := .seq (.ops (o2 10 (fa 0) [3] [3] ::
 o2 11 (ld 1) [10] [10] ::
 o2 12 (fa 0) [5] [] ::
 o2 13 (ld 1) [12] [12] ::
 Q4)) (U4)
def U6 : RC := .seq (.ops (o1 7 (.k (.nsl)) [] ::
 [])) (U5)
def text : RF := ⟨62, [.s 6], .seq (.ops Q5) (U6)⟩
def F2 : List Fm := [.seq U3]
def F4 : List Fm := [.seq U4]
def F5 : List Fm := [.seq U6]
def F6 : List Fm := [.seq U2]
def F1 : List Fm := .seq C2 :: F6
def F3 : List Fm := .seq C1 :: F2
def F7 : List Fm := .seq U1 :: F6
end trace_after
class F_trace_after (S : Sys) (T : Tab) : Prop where
  t : T (S.N 27) = some trace_after.text
  k : S.E.keep (S.N 27) = false
namespace trace_after
section
variable {S : Sys} {T : Tab} [F_trace_after S T]
noncomputable def J1 (lq1 : Arr 200 AnFromTo) (out7 : Sl EventId) (p8 : Sl Event) (xb5 : EventId) : Option (Sl EventId) :=
 (idx p8 (IntKind.wrap .i64 (xb5.index - 1))).bind fun x_1 =>
 (cif (x_1.kind == 2)
 ((Arr.at lq1 x_1.message).bind fun x_2 =>
 some (decide (x_2.to_.index > 0)))
 (some false) : Option Bool).bind fun x_3 =>
 cif x_3
 ((Arr.at lq1 x_1.message).bind fun x_4 =>
 (app1 out7 (x_4.to_ : EventId)).bind fun x_5 =>
 some x_5)
 (some out7)
theorem J1_ok (lq1 : Arr 200 AnFromTo) (out7 : Sl EventId) (p8 : Sl Event) (xb5 : EventId) : Le ((J1 lq1 out7 p8 xb5).bind (fun r => some [enc r])) (rn S (callL S T) (finC [.s 6]) (.rc tJ1) [] (mkS [Kv 1 lq1, Pv 5, Ov 7, Cv 8 p8] [Xb 5 xb5, Lb 2007 out7])) := by
  unfold J1
  refine Aidx 7 false [] Q15 F7 (mkS [Kv 1 lq1, Ov 7, Cv 31 p8, Iv 34 (IntKind.wrap .i64 (xb5.index - 1))] [Xb 5 xb5, Lb 2007 out7]) .i64 rfl (by kernel_rfl) fun x_1 h_1 => ?_
  refine Ast 2 false [] Q14 F7 (mkS [Kv 1 lq1, Ov 7, Cv 36 x_1, Pv 9] [Xb 5 xb5, Lb 2007 out7, Xb 9 (⟨0, 0, 0, 0, Sl.nil⟩ : Event)]) 9 0 x_1 [iv 0, iv 0, iv 0, iv 0, .v .nsl] [iv x_1.kind, iv x_1.peer, iv x_1.message, iv x_1.time, cv x_1.assign] rfl (by kernel_rfl) ?_
  refine Kjoin (fun x_3 => rn S (callL S T) (finC [.s 6]) (.ops true [] []) F1 (mkS [Kv 1 lq1, Ov 7, Pv 9, Bv 50 x_3] [Xb 5 xb5, Lb 2007 out7, Xb 9 x_1])) ?_ fun x_3 => ?_
  · refine KifA (n := 8) (fo' := .ops true [] Q1) (fs' := F1) (t := (x_1.kind == 2)) (A := fun bb => (mkS [Kv 1 lq1, Ov 7, Pv 9, Bv 40 bb] [Xb 5 xb5, Lb 2007 out7, Xb 9 x_1])) (by kernel_rfl) ?_ ?_
    · refine AidxA 4 true [] Q9 F1 (mkS [Kv 1 lq1, Ov 7, Pv 9, Bv 40 true, Iv 43 x_1.message, Kv 44 lq1] [Xb 5 xb5, Lb 2007 out7, Xb 9 x_1]) .i64 rfl (by kernel_rfl) fun x_2 h_2 => ?_
      refine AfaA 0 true [] Q8 F1 (mkS [Kv 1 lq1, Ov 7, Pv 9, Bv 40 true, (45, .v (.fptr (pa lq1 x_1.message)))] [Xb 5 xb5, Lb 2007 out7, Xb 9 x_1]) lq1 x_1.message 0 x_2 h_2 rfl (by kernel_rfl) ?_
      refine AfaA 0 true [] Q7 F1 (mkS [Kv 1 lq1, Ov 7, Pv 9, Bv 40 true, (46, .v (.fptr ((pa lq1 x_1.message).drop 2)))] [Xb 5 xb5, Lb 2007 out7, Xb 9 x_1]) lq1 x_1.message 2 x_2 h_2 rfl (by kernel_rfl) ?_
      refine AgetA 0 true [] Q6 F1 (mkS [Kv 1 lq1, Ov 7, Pv 9, Bv 40 true, (47, .v (.fptr ((pa lq1 x_1.message).drop 3)))] [Xb 5 xb5, Lb 2007 out7, Xb 9 x_1]) lq1 x_1.message 3 x_2 h_2 (by rfl) (.int .i64 x_2.to_.index) rfl (by kernel_rfl) ?_
      exact Kend (n := 2) (by kernel_rfl) rfl
    · exact Kend (n := 10) (by kernel_rfl) rfl
  · refine KifA (n := 2) (fo' := .rc C2) (fs' := F6) (t := x_3) (A := fun bb => (mkS [Kv 1 lq1, Ov 7, Pv 9, Bv 50 bb] [Xb 5 xb5, Lb 2007 out7, Xb 9 x_1])) (by kernel_rfl) ?_ ?_
    · refine AidxA 7 true [] Q13 F6 (mkS [Bv 50 true, (51, .own 2007), Iv 54 x_1.message, Kv 55 lq1] [Xb 5 xb5, Lb 2007 out7, Xb 9 x_1]) .i64 rfl (by kernel_rfl) fun x_4 h_4 => ?_
      refine AfaA 0 true [] Q12 F6 (mkS [Bv 50 true, (51, .own 2007), (56, .v (.fptr (pa lq1 x_1.message)))] [Xb 5 xb5, Lb 2007 out7, Xb 9 x_1]) lq1 x_1.message 0 x_4 h_4 rfl (by kernel_rfl) ?_
      refine AgetA 0 true [] Q11 F6 (mkS [Bv 50 true, (51, .own 2007), (57, .v (.fptr ((pa lq1 x_1.message).drop 2)))] [Xb 5 xb5, Lb 2007 out7, Xb 9 x_1]) lq1 x_1.message 2 x_4 h_4 (by rfl) (enc x_4.to_) rfl (by kernel_rfl) ?_
      refine Aapp 1 true [59] Q10 F6 (mkS [Bv 50 true, (51, .own 2007), (59, .own 59)] [Xb 5 xb5, Lb 2007 out7, Xb 9 x_1, Lb 59 (Sl.row [x_4.to_] : Sl EventId)]) 2007 59 rfl (by kernel_rfl) (by kernel_rfl) fun x_5 h_5 => ?_
      exact Kfin (by kernel_rfl)
    · exact Kfin (by kernel_rfl)
end
end trace_after
noncomputable def trace_after (t0 : Trace) (l1 : Arr 200 AnFromTo) (x2 : EventId) : Option (Sl EventId) :=
 (idx t0.procs x2.proc).bind fun x_1 =>
 cif (decide (x2.index < (len x_1.events)))
 (trace_after.J1 l1 (Sl.row [⟨x2.proc, IntKind.wrap .i64 (x2.index + 1)⟩] : Sl EventId) x_1.events x2)
 (trace_after.J1 l1 (Sl.nil : Sl EventId) x_1.events x2)
open trace_after in
theorem trace_after_ok {S : Sys} {T : Tab} [F_trace_after S T] (t0 : Trace) (l1 : Arr 200 AnFromTo) (x2 : EventId) : Le ((trace_after t0 l1 x2).bind fun r => some [enc r]) (callC (callL S T) (S.N 27) [enc t0, .fptr (cells l1), enc x2]) := by
  refine Kfun (F_trace_after.t (S := S) (T := T)) (Nat.le_of_ble_eq_true rfl) ?_
  unfold trace_after
  refine Abox 2 false [] Q5 F5 (mkS [Cv 0 t0, Kv 1 l1, Cv 2 x2] []) t0 rfl (by kernel_rfl) (by kernel_rfl) ?_
  refine Aidx 15 false [] Q4 F4 (mkS [Kv 1 l1, Pv 5, (7, .v .nsl), Cv 11 t0.procs, Iv 13 x2.proc] [Xb 3 t0, Xb 5 x2]) .i64 rfl (by kernel_rfl) fun x_1 h_1 => ?_
  refine Alen 11 false [] Q3 F3 (mkS [Kv 1 l1, Pv 5, (7, .v .nsl), Cv 8 x_1.events, Iv 18 x2.index, Cv 19 x_1.events] [Xb 3 t0, Xb 5 x2]) x_1.events rfl (by kernel_rfl) ?_
  refine KifA (n := 3) (fo' := .rc C1) (fs' := F2) (t := decide (x2.index < (len x_1.events))) (A := fun bb => (mkS [Kv 1 l1, Pv 5, (7, .v .nsl), Cv 8 x_1.events, Bv 21 bb] [Xb 3 t0, Xb 5 x2])) (by kernel_rfl) ?_ ?_
  · refine AappN 10 false [] Q2 F2 (mkS [Kv 1 l1, Pv 5, Cv 8 x_1.events, Bv 21 true, (22, .v .nsl), (29, .own 29)] [Xb 3 t0, Xb 5 x2, Lb 29 (Sl.row [⟨x2.proc, IntKind.wrap .i64 (x2.index + 1)⟩] : Sl EventId)]) 29 .nsl (⟨x2.proc, IntKind.wrap .i64 (x2.index + 1)⟩ : EventId) (.inl rfl) rfl (by kernel_rfl) (by kernel_rfl) ?_
    exact Kadv (n := 5) (by kernel_rfl) (J1_ok l1 (Sl.row [⟨x2.proc, IntKind.wrap .i64 (x2.index + 1)⟩] : Sl EventId) x_1.events x2)
  · exact Kadv (n := 5) (by kernel_rfl) (J1_ok l1 (Sl.nil : Sl EventId) x_1.events x2)
theorem trace_after_fun {S : Sys} {T : Tab} [F_trace_after S T] : Fun S (callL S T) (S.N 27) (fun z : Trace × (Arr 200 AnFromTo) × EventId => [enc z.1, .fptr (cells z.2.1), enc z.2.2]) (fun r : Sl EventId => [enc r]) (fun z => trace_after z.1 z.2.1 z.2.2) false where
  k := F_trace_after.k (S := S) (T := T)
  h z := trace_after_ok z.1 z.2.1 z.2.2
  l z := by simp
  r r := by simp
  s h r := by cases h
namespace trace_cyclic
def Q2 : List RO := o2 2 (.a .box) [0] [0] ::
 o2 3 (.a .box) [1] [1] ::
 o2 4 (.a (.alloc 2 [.int .i64 0, .int .i64 0])) [] [] ::
 o2 5 (.a (.alloc 1 [.bool false])) [] [] ::
 []
def Q1 : List RO := o2 13 .c [.f 18, 12] [12] ::
 []
def Q10 : List RO := o2 20 ln [19] [19] ::
 o2 21 (bI .gtr) [20, .k (.int .i64 0)] [20] ::
 []
def C1 : RC := .cond (.s 21) (.skip) (.gh (.keep [2,3,4,5,13] [2,3,4,5]) (.exit 2))
def Q7 : List RO := o2 27 (lD 2) [26] [26] ::
 o2 9 (.a (.alloc 2 [.int .i64 0, .int .i64 0])) [] [] ::
 oz (su 2) [9, 27] [27] ::
 []
def Q8 : List RO := o2 26 (ix 2) [22, 25] [22,25] ::
 Q7
def Q9 : List RO := o2 24 ln [23] [23] ::
 o2 25 (bI .sub) [24, .k (.int .i64 1)] [24] ::
 Q8
def Q5 : List RO := o2 32 (.p (.slice 2 false true)) [28, 31] [28,31] ::
 o1 8 32 [32] ::
 []
def Q6 : List RO := o2 30 ln [29] [29] ::
 o2 31 (bI .sub) [30, .k (.int .i64 1)] [30] ::
 Q5
def Q3 : List RO := o2 37 ln [36] [] ::
 o1 38 (.k (.int .i64 0)) [] ::
 []
def Q4 : List RO := o2 36 .c [.f 27, 33, 34, 35] [33,34,35] ::
 Q3
def C2 : RC := .cond (.s 39) (.skip) (.gh (.canon (.s 8) 2008 2) (.gh (.keep [2,3,4,5,6,7,8,13] [2,3,4,5,6,16,2008]) (.exit 4)))
def Q14 : List RO := o2 40 (ix 2) [36, 38] [] ::
 o2 41 (lD 2) [40] [40] ::
 o2 11 (.a (.alloc 2 [.int .i64 0, .int .i64 0])) [] [] ::
 oz (su 2) [11, 41] [41] ::
 []
def C3 : RC := .cond (.s 44) (.seq (.ops (o2 45 (lD 2) [6] [6] ::
 oz (su 2) [4, 45] [45] ::
 oz (su 1) [5, .k (.bool true)] [] ::
 [])) (.gh (.keep [] [2,3,4,5]) (.ret))) (.skip)
def Q13 : List RO := o2 48 (.r (.lookup (.ints 2) (.bool false) false)) [46, 47] [46,47] ::
 o2 49 (.p (.not)) [48] [48] ::
 []
def Q12 : List RO := oz (.l (.mapUp (.ints 2))) [50, 51, .k (.bool true)] [50,51] ::
 []
def Q11 : List RO := o2 55 (.l (.append 2)) [52, 54] [52,54] ::
 o1 8 55 [55] ::
 []
def U1 : RC := .ops (o1 52 8 [8] ::
 o2 53 (lD 2) [11] [11] ::
 o2 54 (.a (.buildSl 2 1 [.int .i64 0, .int .i64 0] [0])) [53] [53] ::
 Q11)
def C4 : RC := .cond (.s 49) (.seq (.ops (o1 50 7 [] ::
 o2 51 (lD 2) [11] [] ::
 Q12)) (U1)) (.skip)
def U2 : RC := .seq (.ops (o1 46 7 [] ::
 o2 47 (lD 2) [11] [] ::
 Q13)) (C4)
def U3 : RC := .seq (.seq (.ops (o2 42 (lD 2) [11] [] ::
 o2 43 (lD 2) [6] [] ::
 o2 44 (.p (.bin (some .other) (some 2) .eql)) [42, 43] [42,43] ::
 [])) (C3)) (U2)
def U4 : RC := .ops (o2 56 (bI .add) [38, .k (.int .i64 1)] [38] ::
 o1 38 56 [56] ::
 [])
def U5 : RC := .seq (.block 5 (.seq (.ops Q14) (U3))) (U4)
def tW3 : RC := .hg (.hg (.seq (.ops (o2 39 (bI .lss) [38, 37] [] ::
 [])) (.seq (C2) (U5))) (.canon (.s 8) 2008 2)) (.keep [2,3,4,5,6,7,8,13,36,37,38] [2,3,4,5,6,16,2008])
def U6 : RC := .block 4 (.gh (.canon (.s 8) 2008 2) (.gh (.keep [2,3,4,5,6,7,8,13,36,37,38] [2,3,4,5,6,16,2008]) (.loop tW3)))
def U7 : RC := .seq (.ops (o2 33 (lD 1) [2] [] ::
 o2 34 (ld 1) [3] [] ::
 o2 35 (lD 2) [9] [9] ::
 Q4)) (U6)
def U8 : RC := .seq (.ops (o1 28 8 [] ::
 o1 29 8 [8] ::
 Q6)) (U7)
def U9 : RC := .block 3 (.seq (.ops (o1 22 8 [] ::
 o1 23 8 [] ::
 Q9)) (U8))
def tW2 : RC := .hg (.hg (.seq (.seq (.ops (o1 19 8 [] ::
 Q10)) (C1)) (U9)) (.canon (.s 8) 2008 2)) (.keep [2,3,4,5,6,7,8,13] [2,3,4,5,6,16,2008])
def U10 : RC := .block 2 (.gh (.canon (.s 8) 2008 2) (.gh (.keep [2,3,4,5,6,7,8,13] [2,3,4,5,6,16,2008]) (.loop tW2)))
def U11 : RC := .seq (.ops (o2 17 (lD 2) [6] [] ::
 o2 18 (.a (.buildSl 2 1 [.int .i64 0, .int .i64 0] [0])) [17] [17] ::
 o1 8 18 [18] ::
 [])) (U10)
def aE1 : RC := .ops (o2 6 (.a (.alloc 2 [.int .i64 0, .int .i64 0])) [] [] ::
 oz (su 2) [6, 14] [14] ::
 [])
def bE1 : RC := .hg (.block 1 (.seq (.ops (o2 16 (.a .makeMap) [] [] ::
 o1 7 16 [16] ::
 [])) (U11))) (.keep [] [2,3,4,5])
def U12 : RC := .block 0 (.gh (.keep [2,3,4,5,13] [2,3,4,5]) (.each (.s 13) [14,15] aE1 bE1))
def U13 : RC := .seq (.ops (o2 57 (.p (.build [.int .i64 0, .int .i64 0] [])) [] [] ::
 oz (su 2) [4, 57] [57] ::
 oz (su 1) [5, .k (.bool false)] [] ::
 [])) (.gh (.keep [4,5] [4,5]) (.ret))
def U14 : RC := .seq (.seq (.ops (o2 12 (lD 1) [2] [] ::
 Q1)) (U12)) (U13)
def text : RF := ⟨58, [.ld 4 2 true, .ld 5 1 false], .seq (.ops Q2) (U14)⟩
def F2 : List Fm := [.seq U14]
def F1 : List Fm := [.seq U12, .seq U13]
def F16 : List Fm := [.blk 0, .seq U13]
def F6 : List Fm := [.seq U9, .gst (.canon (.s 8) 2008 2), .gst (.keep [2,3,4,5,6,7,8,13] [2,3,4,5,6,16,2008])]
def F13 : List Fm := [.seq U5, .gst (.canon (.s 8) 2008 2), .gst (.keep [2,3,4,5,6,7,8,13,36,37,38] [2,3,4,5,6,16,2008])]
def F15 : List Fm := [.blk 2, .blk 1, .gst (.keep [] [2,3,4,5])]
def F3 : List Fm := [.seq U6, .blk 3, .gst (.canon (.s 8) 2008 2), .gst (.keep [2,3,4,5,6,7,8,13] [2,3,4,5,6,16,2008])]
def F4 : List Fm := [.seq U7, .blk 3, .gst (.canon (.s 8) 2008 2), .gst (.keep [2,3,4,5,6,7,8,13] [2,3,4,5,6,16,2008])]
def F5 : List Fm := [.seq U8, .blk 3, .gst (.canon (.s 8) 2008 2), .gst (.keep [2,3,4,5,6,7,8,13] [2,3,4,5,6,16,2008])]
def F7 : List Fm := .seq C1 :: F6
def F8 : List Fm := [.blk 5, .seq U4, .gst (.canon (.s 8) 2008 2), .gst (.keep [2,3,4,5,6,7,8,13,36,37,38] [2,3,4,5,6,16,2008])]
def F14 : List Fm := [.blk 4, .blk 3, .gst (.canon (.s 8) 2008 2), .gst (.keep [2,3,4,5,6,7,8,13] [2,3,4,5,6,16,2008])]
def F9 : List Fm := .seq U1 :: F8
def F10 : List Fm := .seq C4 :: F8
def F11 : List Fm := .seq U2 :: F8
def F12 : List Fm := .seq U3 :: F8
end trace_cyclic
class F_trace_cyclic (S : Sys) (T : Tab) : Prop where
  t : T (S.N 28) = some trace_cyclic.text
  k : S.E.keep (S.N 28) = false
  c0 : F_trace_after S T
  c1 : F_trace_events S T
  i0 : ∀ t : Trace, ∀ its, trace_items t = some its → S.items (S.N 17) [] [.fptr (cells t)] = some (its.map fun x : EventId × Event => [enc x.1, enc x.2])
attribute [instance] F_trace_cyclic.c0 F_trace_cyclic.c1
namespace trace_cyclic
section
variable {S : Sys} {T : Tab} [F_trace_cyclic S T]
noncomputable def W3_step (vk0_13 : Trace) (v36 : Sl EventId) (v37 : Int) (tb2 : Trace) (lb3 : Arr 200 AnFromTo) (vb4 : EventId) (vb5 : Bool) (idb6 : EventId) (rest8 : Sl EventId) (v38 : Int) (vb16 : Mo EventId Bool) : Option (Fw ((Sl EventId) × Int × (Mo EventId Bool)) ((Sl EventId) × (Mo EventId Bool)) Unit) :=
 cif (decide (v38 < v37))
 ((idx v36 v38).bind fun x_1 =>
 cif (ev2 x_1 idb6)
 (some (.r ()))
 (cif (mget vb16 x_1 false)
 (some (.n (rest8, IntKind.wrap .i64 (v38 + 1), vb16)))
 ((app1 rest8 (x_1 : EventId)).bind fun x_2 =>
 some (.n (x_2, IntKind.wrap .i64 (v38 + 1), mput vb16 x_1 true)))))
 (some (.x (rest8, vb16)))
noncomputable def W3 (rest8 : Sl EventId) (vk0_13 : Trace) (v36 : Sl EventId) (v37 : Int) (v38 : Int) (tb2 : Trace) (lb3 : Arr 200 AnFromTo) (vb4 : EventId) (vb5 : Bool) (idb6 : EventId) (vb16 : Mo EventId Bool) : Option (Fw ((Sl EventId) × (Mo EventId Bool)) Unit Unit) :=
 (wloop (fun q : (Sl EventId) × Int × (Mo EventId Bool) => W3_step vk0_13 v36 v37 tb2 lb3 vb4 vb5 idb6 q.1 q.2.1 q.2.2) (rest8, v38, vb16)).bind (Fw.elim
 (fun e => some (.n (e.1, e.2)))
 (fun e => some (.r ())))
def W3_s (S : Sys) (vk0_13 : Trace) (v36 : Sl EventId) (v37 : Int) (tb2 : Trace) (lb3 : Arr 200 AnFromTo) (vb4 : EventId) (vb5 : Bool) (idb6 : EventId) : (Sl EventId) × Int × (Mo EventId Bool) → St := fun q => ⟨[Pv 2, Pv 3, Pv 4, Pv 5, Pv 6, (7, .mp 16), Ov 8, (13, .v (.clo (S.N 17) [] [.fptr (cells vk0_13)])), Cv 36 v36, Iv 37 v37, Iv 38 q.2.1], [Xb 2 tb2, (3, .box [cp lb3]), Xb 4 vb4, (5, .box [bv vb5]), Xb 6 idb6, (16, mpOb q.2.2), Lb 2008 q.1], [2,3,4,5], [], true, 0⟩
def W3_e (S : Sys) (vk0_13 : Trace) (v36 : Sl EventId) (v37 : Int) (tb2 : Trace) (lb3 : Arr 200 AnFromTo) (vb4 : EventId) (vb5 : Bool) (idb6 : EventId) : ((Sl EventId) × (Mo EventId Bool)) → Nat × St := fun e => (4, ⟨[Pv 2, Pv 3, Pv 4, Pv 5, Pv 6, (7, .mp 16), Ov 8, (13, .v (.clo (S.N 17) [] [.fptr (cells vk0_13)]))], [Xb 2 tb2, (3, .box [cp lb3]), Xb 4 vb4, (5, .box [bv vb5]), Xb 6 idb6, (16, mpOb e.2), Lb 2008 e.1], [2,3,4,5], [], true, 0⟩)
def W3_r (S : Sys) (vk0_13 : Trace) (v36 : Sl EventId) (v37 : Int) (tb2 : Trace) (lb3 : Arr 200 AnFromTo) (vb4 : EventId) (vb5 : Bool) (idb6 : EventId) : Unit → St := fun e => ⟨[], [Xb 2 tb2, (3, .box [cp lb3]), Xb 4 idb6, (5, .box [bv true])], [2,3,4,5], [], true, 0⟩
noncomputable def W2_step (vk0_13 : Trace) (tb2 : Trace) (lb3 : Arr 200 AnFromTo) (vb4 : EventId) (vb5 : Bool) (idb6 : EventId) (rest8 : Sl EventId) (vb16 : Mo EventId Bool) : Option (Fw ((Sl EventId) × (Mo EventId Bool)) Unit Unit) :=
 cif (decide ((len rest8) > 0))
 ((Sl.chk rest8 (IntKind.wrap .i64 ((len rest8) - 1))).bind fun x_1 =>
 (Sl.get rest8 x_1).bind fun x_2 =>
 (slCutO rest8 none (some (IntKind.wrap .i64 ((len rest8) - 1)))).bind fun x_3 =>
 (trace_after tb2 lb3 x_2).bind fun x_4 =>
 W3 x_3 vk0_13 x_4 (len x_4) 0 tb2 lb3 vb4 vb5 idb6 vb16)
 (some (.x ()))
noncomputable def W2 (rest8 : Sl EventId) (vk0_13 : Trace) (tb2 : Trace) (lb3 : Arr 200 AnFromTo) (vb4 : EventId) (vb5 : Bool) (idb6 : EventId) (vb16 : Mo EventId Bool) : Option (Fw Unit Empty EventId) :=
 (wloop (fun q : (Sl EventId) × (Mo EventId Bool) => W2_step vk0_13 tb2 lb3 vb4 vb5 idb6 q.1 q.2) (rest8, vb16)).bind (Fw.elim
 (fun e => some (.n ()))
 (fun e => some (.r idb6)))
def W2_s (S : Sys) (vk0_13 : Trace) (tb2 : Trace) (lb3 : Arr 200 AnFromTo) (vb4 : EventId) (vb5 : Bool) (idb6 : EventId) : (Sl EventId) × (Mo EventId Bool) → St := fun q => ⟨[Pv 2, Pv 3, Pv 4, Pv 5, Pv 6, (7, .mp 16), Ov 8, (13, .v (.clo (S.N 17) [] [.fptr (cells vk0_13)]))], [Xb 2 tb2, (3, .box [cp lb3]), Xb 4 vb4, (5, .box [bv vb5]), Xb 6 idb6, (16, mpOb q.2), Lb 2008 q.1], [2,3,4,5], [], true, 0⟩
def W2_e (S : Sys) (vk0_13 : Trace) (tb2 : Trace) (lb3 : Arr 200 AnFromTo) (vb4 : EventId) (vb5 : Bool) (idb6 : EventId) : Unit → Nat × St := fun e => (2, ⟨[Pv 2, Pv 3, Pv 4, Pv 5, (13, .v (.clo (S.N 17) [] [.fptr (cells vk0_13)]))], [Xb 2 tb2, (3, .box [cp lb3]), Xb 4 vb4, (5, .box [bv vb5])], [2,3,4,5], [], true, 0⟩)
def W2_r (S : Sys) (vk0_13 : Trace) (tb2 : Trace) (lb3 : Arr 200 AnFromTo) (vb4 : EventId) (vb5 : Bool) (idb6 : EventId) : Unit → St := fun e => ⟨[], [Xb 2 tb2, (3, .box [cp lb3]), Xb 4 idb6, (5, .box [bv true])], [2,3,4,5], [], true, 0⟩
noncomputable def E1_step (vk0_13 : Trace) (tb2 : Trace) (lb3 : Arr 200 AnFromTo) (vb4 : EventId) (vb5 : Bool) (x : EventId × Event) : Option (Fw Unit Empty EventId) :=
 W2 (Sl.row [x.1] : Sl EventId) vk0_13 tb2 lb3 vb4 vb5 x.1 []
noncomputable def E1 (vk0_13 : Trace) (tb2 : Trace) (lb3 : Arr 200 AnFromTo) (vb4 : EventId) (vb5 : Bool) : Option (EventId × Bool) :=
 (trace_items vk0_13).bind fun its => (weach (fun (x : EventId × Event) (q : Unit) => E1_step vk0_13 tb2 lb3 vb4 vb5 x) its ()).bind (Fw.elimE
 (fun q => some (⟨0, 0⟩, false))
 (fun e => Empty.elim e)
 (fun e => some (e, true)))
def E1_s (S : Sys) (vk0_13 : Trace) (tb2 : Trace) (lb3 : Arr 200 AnFromTo) (vb4 : EventId) (vb5 : Bool) : Unit → Tb SOb := fun q => [Xb 2 tb2, (3, .box [cp lb3]), Xb 4 vb4, (5, .box [bv vb5])]
def E1_e (S : Sys) (vk0_13 : Trace) (tb2 : Trace) (lb3 : Arr 200 AnFromTo) (vb4 : EventId) (vb5 : Bool) : Empty → Nat × Tb SOb := fun e => Empty.elim e
def E1_r (S : Sys) (vk0_13 : Trace) (tb2 : Trace) (lb3 : Arr 200 AnFromTo) (vb4 : EventId) (vb5 : Bool) : EventId → Tb SOb := fun e => [Xb 2 tb2, (3, .box [cp lb3]), Xb 4 e, (5, .box [bv true])]
theorem W3_step_ok (vk0_13 : Trace) (v36 : Sl EventId) (v37 : Int) (tb2 : Trace) (lb3 : Arr 200 AnFromTo) (vb4 : EventId) (vb5 : Bool) (idb6 : EventId) (rest8 : Sl EventId) (v38 : Int) (vb16 : Mo EventId Bool) : Le ((W3_step vk0_13 v36 v37 tb2 lb3 vb4 vb5 idb6 rest8 v38 vb16).bind (fun w => some (Fw.out (W3_s S vk0_13 v36 v37 tb2 lb3 vb4 vb5 idb6) (W3_e S vk0_13 v36 v37 tb2 lb3 vb4 vb5 idb6) (W3_r S vk0_13 v36 v37 tb2 lb3 vb4 vb5 idb6) w))) (rn S (callL S T) some (.rc tW3) [] ⟨[Pv 2, Pv 3, Pv 4, Pv 5, Pv 6, (7, .mp 16), Ov 8, (13, .v (.clo (S.N 17) [] [.fptr (cells vk0_13)])), Cv 36 v36, Iv 37 v37, Iv 38 v38], [Xb 2 tb2, (3, .box [cp lb3]), Xb 4 vb4, (5, .box [bv vb5]), Xb 6 idb6, (16, mpOb vb16), Lb 2008 rest8], [2,3,4,5], [], true, 0⟩) := by
  unfold W3_step
  refine KifA (n := 8) (fo' := .rc C2) (fs' := F13) (t := decide (v38 < v37)) (A := fun bb => ⟨[Pv 2, Pv 3, Pv 4, Pv 5, Pv 6, (7, .mp 16), Ov 8, (13, .v (.clo (S.N 17) [] [.fptr (cells vk0_13)])), Cv 36 v36, Iv 37 v37, Iv 38 v38, Bv 39 bb], [Xb 2 tb2, (3, .box [cp lb3]), Xb 4 vb4, (5, .box [bv vb5]), Xb 6 idb6, (16, mpOb vb16), Lb 2008 rest8], [2,3,4,5], [], true, 0⟩) (by kernel_rfl) ?_ ?_
  · refine Aidx 7 false [] Q14 F12 ⟨[Pv 2, Pv 3, Pv 4, Pv 5, Pv 6, (7, .mp 16), Ov 8, (13, .v (.clo (S.N 17) [] [.fptr (cells vk0_13)])), Cv 36 v36, Iv 37 v37, Iv 38 v38, Bv 39 true], [Xb 2 tb2, (3, .box [cp lb3]), Xb 4 vb4, (5, .box [bv vb5]), Xb 6 idb6, (16, mpOb vb16), Lb 2008 rest8], [2,3,4,5], [], true, 0⟩ .i64 rfl (by kernel_rfl) fun x_1 h_1 => ?_
    refine KifA (n := 13) (fo' := .rc C3) (fs' := F11) (t := ev2 x_1 idb6) (A := fun bb => ⟨[Pv 2, Pv 3, Pv 4, Pv 5, Pv 6, (7, .mp 16), Ov 8, (13, .v (.clo (S.N 17) [] [.fptr (cells vk0_13)])), Cv 36 v36, Iv 37 v37, Iv 38 v38, Bv 39 true, Pv 11, Bv 44 bb], [Xb 2 tb2, (3, .box [cp lb3]), Xb 4 vb4, (5, .box [bv vb5]), Xb 6 idb6, (16, mpOb vb16), Lb 2008 rest8, Xb 11 x_1], [2,3,4,5], [], true, 0⟩) (by kernel_rfl) ?_ ?_
    · exact Kfin (by kernel_rfl)
    · refine Alook 7 false [] Q13 F10 ⟨[Pv 2, Pv 3, Pv 4, Pv 5, Pv 6, (7, .mp 16), Ov 8, (13, .v (.clo (S.N 17) [] [.fptr (cells vk0_13)])), Cv 36 v36, Iv 37 v37, Iv 38 v38, Bv 39 true, Pv 11, Bv 44 false, (46, .mp 16), Cv 47 x_1], [Xb 2 tb2, (3, .box [cp lb3]), Xb 4 vb4, (5, .box [bv vb5]), Xb 6 idb6, (16, mpOb vb16), Lb 2008 rest8, Xb 11 x_1], [2,3,4,5], [], true, 0⟩ 16 vb16 x_1 false rfl (by kernel_rfl) ?_
      refine KifA (n := 3) (fo' := .rc C4) (fs' := F8) (t := mget vb16 x_1 false) (A := fun bb => ⟨[Pv 2, Pv 3, Pv 4, Pv 5, Pv 6, (7, .mp 16), Ov 8, (13, .v (.clo (S.N 17) [] [.fptr (cells vk0_13)])), Cv 36 v36, Iv 37 v37, Iv 38 v38, Bv 39 true, Pv 11, Bv 44 false, Bv 49 (!bb)], [Xb 2 tb2, (3, .box [cp lb3]), Xb 4 vb4, (5, .box [bv vb5]), Xb 6 idb6, (16, mpOb vb16), Lb 2008 rest8, Xb 11 x_1], [2,3,4,5], [], true, 0⟩) (by kernel_rfl) ?_ ?_
      · exact Kfin (by kernel_rfl)
      · refine Amup 5 false [] Q12 F9 ⟨[Pv 2, Pv 3, Pv 4, Pv 5, Pv 6, (7, .mp 16), Ov 8, (13, .v (.clo (S.N 17) [] [.fptr (cells vk0_13)])), Cv 36 v36, Iv 37 v37, Iv 38 v38, Bv 39 true, Pv 11, Bv 44 false, Bv 49 true, (50, .mp 16), Cv 51 x_1], [Xb 2 tb2, (3, .box [cp lb3]), Xb 4 vb4, (5, .box [bv vb5]), Xb 6 idb6, (16, mpOb vb16), Lb 2008 rest8, Xb 11 x_1], [2,3,4,5], [], true, 0⟩ 16 vb16 x_1 true rfl (by kernel_rfl) ?_
        refine Aapp 6 false [] Q11 F8 ⟨[Pv 2, Pv 3, Pv 4, Pv 5, Pv 6, (7, .mp 16), (13, .v (.clo (S.N 17) [] [.fptr (cells vk0_13)])), Cv 36 v36, Iv 37 v37, Iv 38 v38, Bv 39 true, Bv 44 false, Bv 49 true, (52, .own 2008), (54, .own 54)], [Xb 2 tb2, (3, .box [cp lb3]), Xb 4 vb4, (5, .box [bv vb5]), Xb 6 idb6, (16, mpOb (mput vb16 x_1 true)), Lb 2008 rest8, Xb 11 x_1, Lb 54 (Sl.row [x_1] : Sl EventId)], [2,3,4,5], [], true, 0⟩ 2008 54 rfl (by kernel_rfl) (by kernel_rfl) fun x_2 h_2 => ?_
        exact Kfin (by kernel_rfl)
  · exact Kfin (by kernel_rfl)
theorem W3_ok (rest8 : Sl EventId) (vk0_13 : Trace) (v36 : Sl EventId) (v37 : Int) (v38 : Int) (tb2 : Trace) (lb3 : Arr 200 AnFromTo) (vb4 : EventId) (vb5 : Bool) (idb6 : EventId) (vb16 : Mo EventId Bool) : Le ((W3 rest8 vk0_13 v36 v37 v38 tb2 lb3 vb4 vb5 idb6 vb16).bind (fun w => some (Fw.out (W2_s S vk0_13 tb2 lb3 vb4 vb5 idb6) (W2_e S vk0_13 tb2 lb3 vb4 vb5 idb6) (W2_r S vk0_13 tb2 lb3 vb4 vb5 idb6) w))) (rn S (callL S T) some (.rc (.loop tW3)) F14 ⟨[Pv 2, Pv 3, Pv 4, Pv 5, Pv 6, (7, .mp 16), Ov 8, (13, .v (.clo (S.N 17) [] [.fptr (cells vk0_13)])), Cv 36 v36, Iv 37 v37, Iv 38 v38], [Xb 2 tb2, (3, .box [cp lb3]), Xb 4 vb4, (5, .box [bv vb5]), Xb 6 idb6, (16, mpOb vb16), Lb 2008 rest8], [2,3,4,5], [], true, 0⟩) := by
  unfold W3
  refine KloopA (n := 0) (fs := F14) (a := tW3) (eσ := W3_s S vk0_13 v36 v37 tb2 lb3 vb4 vb5 idb6) (eε := W3_e S vk0_13 v36 v37 tb2 lb3 vb4 vb5 idb6) (eρ := W3_r S vk0_13 v36 v37 tb2 lb3 vb4 vb5 idb6) (by kernel_rfl) (fun q => W3_step_ok vk0_13 v36 v37 tb2 lb3 vb4 vb5 idb6 q.1 q.2.1 q.2.2) ?_ ?_
  · intro e
    exact Kfin (by kernel_rfl)
  · intro e
    exact Kfin (by kernel_rfl)
theorem W2_step_ok (vk0_13 : Trace) (tb2 : Trace) (lb3 : Arr 200 AnFromTo) (vb4 : EventId) (vb5 : Bool) (idb6 : EventId) (rest8 : Sl EventId) (vb16 : Mo EventId Bool) : Le ((W2_step vk0_13 tb2 lb3 vb4 vb5 idb6 rest8 vb16).bind (fun w => some (Fw.out (W2_s S vk0_13 tb2 lb3 vb4 vb5 idb6) (W2_e S vk0_13 tb2 lb3 vb4 vb5 idb6) (W2_r S vk0_13 tb2 lb3 vb4 vb5 idb6) w))) (rn S (callL S T) some (.rc tW2) [] ⟨[Pv 2, Pv 3, Pv 4, Pv 5, Pv 6, (7, .mp 16), Ov 8, (13, .v (.clo (S.N 17) [] [.fptr (cells vk0_13)]))], [Xb 2 tb2, (3, .box [cp lb3]), Xb 4 vb4, (5, .box [bv vb5]), Xb 6 idb6, (16, mpOb vb16), Lb 2008 rest8], [2,3,4,5], [], true, 0⟩) := by
  unfold W2_step
  refine AlenO 6 false [] Q10 F7 ⟨[Pv 2, Pv 3, Pv 4, Pv 5, Pv 6, (7, .mp 16), Ov 8, (13, .v (.clo (S.N 17) [] [.fptr (cells vk0_13)])), (19, .own 2008)], [Xb 2 tb2, (3, .box [cp lb3]), Xb 4 vb4, (5, .box [bv vb5]), Xb 6 idb6, (16, mpOb vb16), Lb 2008 rest8], [2,3,4,5], [], true, 0⟩ 2008 rest8 rfl (by kernel_rfl) ?_
  refine KifA (n := 3) (fo' := .rc C1) (fs' := F6) (t := decide ((len rest8) > 0)) (A := fun bb => ⟨[Pv 2, Pv 3, Pv 4, Pv 5, Pv 6, (7, .mp 16), Ov 8, (13, .v (.clo (S.N 17) [] [.fptr (cells vk0_13)])), Bv 21 bb], [Xb 2 tb2, (3, .box [cp lb3]), Xb 4 vb4, (5, .box [bv vb5]), Xb 6 idb6, (16, mpOb vb16), Lb 2008 rest8], [2,3,4,5], [], true, 0⟩) (by kernel_rfl) ?_ ?_
  · refine AlenO 8 false [] Q9 F5 ⟨[Pv 2, Pv 3, Pv 4, Pv 5, Pv 6, (7, .mp 16), Ov 8, (13, .v (.clo (S.N 17) [] [.fptr (cells vk0_13)])), Bv 21 true, (22, .own 2008), (23, .own 2008)], [Xb 2 tb2, (3, .box [cp lb3]), Xb 4 vb4, (5, .box [bv vb5]), Xb 6 idb6, (16, mpOb vb16), Lb 2008 rest8], [2,3,4,5], [], true, 0⟩ 2008 rest8 rfl (by kernel_rfl) ?_
    refine Achk 1 false [] Q8 F5 ⟨[Pv 2, Pv 3, Pv 4, Pv 5, Pv 6, (7, .mp 16), Ov 8, (13, .v (.clo (S.N 17) [] [.fptr (cells vk0_13)])), Bv 21 true, (22, .own 2008), Iv 25 (IntKind.wrap .i64 ((len rest8) - 1))], [Xb 2 tb2, (3, .box [cp lb3]), Xb 4 vb4, (5, .box [bv vb5]), Xb 6 idb6, (16, mpOb vb16), Lb 2008 rest8], [2,3,4,5], [], true, 0⟩ .i64 2008 rfl (by kernel_rfl) fun x_1 h_1 => ?_
    refine Aget 0 false [] Q7 F5 ⟨[Pv 2, Pv 3, Pv 4, Pv 5, Pv 6, (7, .mp 16), Ov 8, (13, .v (.clo (S.N 17) [] [.fptr (cells vk0_13)])), Bv 21 true, (26, .el 2008 x_1 0)], [Xb 2 tb2, (3, .box [cp lb3]), Xb 4 vb4, (5, .box [bv vb5]), Xb 6 idb6, (16, mpOb vb16), Lb 2008 rest8], [2,3,4,5], [], true, 0⟩ 2008 0 (fun x_2 => .agg [.int .i64 x_2.proc, .int .i64 x_2.index]) rfl (by kernel_rfl) (fun _ => rfl) fun x_2 h_2 => ?_
    refine AlenO 8 false [] Q6 F4 ⟨[Pv 2, Pv 3, Pv 4, Pv 5, Pv 6, (7, .mp 16), (13, .v (.clo (S.N 17) [] [.fptr (cells vk0_13)])), Bv 21 true, Pv 9, (28, .own 2008), (29, .own 2008)], [Xb 2 tb2, (3, .box [cp lb3]), Xb 4 vb4, (5, .box [bv vb5]), Xb 6 idb6, (16, mpOb vb16), Lb 2008 rest8, Xb 9 x_2], [2,3,4,5], [], true, 0⟩ 2008 rest8 rfl (by kernel_rfl) ?_
    refine AcutO 1 [] Q5 F4 ⟨[Pv 2, Pv 3, Pv 4, Pv 5, Pv 6, (7, .mp 16), (13, .v (.clo (S.N 17) [] [.fptr (cells vk0_13)])), Bv 21 true, Pv 9, (28, .own 2008), Iv 31 (IntKind.wrap .i64 ((len rest8) - 1))], [Xb 2 tb2, (3, .box [cp lb3]), Xb 4 vb4, (5, .box [bv vb5]), Xb 6 idb6, (16, mpOb vb16), Lb 2008 rest8, Xb 9 x_2], [2,3,4,5], [], true, 0⟩ false true 2008 [.int .i64 (IntKind.wrap .i64 ((len rest8) - 1))] rfl (by kernel_rfl) (by kernel_rfl) fun x_3 h_3 => ?_
    refine AcallV 8 [] Q4 F3 ⟨[Pv 2, Pv 3, Pv 4, Pv 5, Pv 6, (7, .mp 16), (13, .v (.clo (S.N 17) [] [.fptr (cells vk0_13)])), Bv 21 true, (8, .own 32), Cv 33 tb2, Kv 34 lb3, Cv 35 x_2], [Xb 2 tb2, (3, .box [cp lb3]), Xb 4 vb4, (5, .box [bv vb5]), Xb 6 idb6, (16, mpOb vb16), Xb 9 x_2, Lb 32 x_3], [2,3,4,5], [], true, 0⟩ (trace_after_fun (S := S) (T := T)) (tb2, lb3, x_2) rfl (by kernel_rfl) fun x_4 h_4 => ?_
    refine Alen 0 false [] Q3 F3 ⟨[Pv 2, Pv 3, Pv 4, Pv 5, Pv 6, (7, .mp 16), (13, .v (.clo (S.N 17) [] [.fptr (cells vk0_13)])), Bv 21 true, (8, .own 32), Cv 36 x_4], [Xb 2 tb2, (3, .box [cp lb3]), Xb 4 vb4, (5, .box [bv vb5]), Xb 6 idb6, (16, mpOb vb16), Xb 9 x_2, Lb 32 x_3], [2,3,4,5], [], true, 0⟩ x_4 rfl (by kernel_rfl) ?_
    exact Kadv (n := 6) (by kernel_rfl) (W3_ok x_3 vk0_13 x_4 (len x_4) 0 tb2 lb3 vb4 vb5 idb6 vb16)
  · exact Kfin (by kernel_rfl)
theorem W2_ok (rest8 : Sl EventId) (vk0_13 : Trace) (tb2 : Trace) (lb3 : Arr 200 AnFromTo) (vb4 : EventId) (vb5 : Bool) (idb6 : EventId) (vb16 : Mo EventId Bool) : Le ((W2 rest8 vk0_13 tb2 lb3 vb4 vb5 idb6 vb16).bind (fun w => some (Fw.outM (E1_s S vk0_13 tb2 lb3 vb4 vb5) (E1_e S vk0_13 tb2 lb3 vb4 vb5) (E1_r S vk0_13 tb2 lb3 vb4 vb5) w))) (rn S (callL S T) outM (.rc (.loop tW2)) F15 ⟨[Pv 2, Pv 3, Pv 4, Pv 5, Pv 6, (7, .mp 16), Ov 8, (13, .v (.clo (S.N 17) [] [.fptr (cells vk0_13)]))], [Xb 2 tb2, (3, .box [cp lb3]), Xb 4 vb4, (5, .box [bv vb5]), Xb 6 idb6, (16, mpOb vb16), Lb 2008 rest8], [2,3,4,5], [], true, 0⟩) := by
  unfold W2
  refine KloopA (n := 0) (fs := F15) (a := tW2) (eσ := W2_s S vk0_13 tb2 lb3 vb4 vb5 idb6) (eε := W2_e S vk0_13 tb2 lb3 vb4 vb5 idb6) (eρ := W2_r S vk0_13 tb2 lb3 vb4 vb5 idb6) (by kernel_rfl) (fun q => W2_step_ok vk0_13 tb2 lb3 vb4 vb5 idb6 q.1 q.2) ?_ ?_
  · intro e
    exact Kfin (by kernel_rfl)
  · intro e
    exact Kfin (by kernel_rfl)
theorem E1_step_ok (vk0_13 : Trace) (tb2 : Trace) (lb3 : Arr 200 AnFromTo) (vb4 : EventId) (vb5 : Bool) (x : EventId × Event) : Le ((E1_step vk0_13 tb2 lb3 vb4 vb5 x).bind (fun w => some (Fw.outM (E1_s S vk0_13 tb2 lb3 vb4 vb5) (E1_e S vk0_13 tb2 lb3 vb4 vb5) (E1_r S vk0_13 tb2 lb3 vb4 vb5) w))) (rn S (callL S T) (eachQ S (callL S T) bE1) (.rc aE1) [] ⟨[Pv 2, Pv 3, Pv 4, Pv 5, (13, .v (.clo (S.N 17) [] [.fptr (cells vk0_13)])), Cv 14 x.1, Cv 15 x.2], [Xb 2 tb2, (3, .box [cp lb3]), Xb 4 vb4, (5, .box [bv vb5])], [2,3,4,5], [], true, 0⟩) := by
  unfold E1_step
  refine KeachQ (n := 4) (st' := ⟨[Pv 2, Pv 3, Pv 4, Pv 5, (13, .v (.clo (S.N 17) [] [.fptr (cells vk0_13)])), Cv 15 x.2, Pv 6], [Xb 2 tb2, (3, .box [cp lb3]), Xb 4 vb4, (5, .box [bv vb5]), Xb 6 x.1], [2,3,4,5], [], true, 0⟩) (by kernel_rfl) ?_
  exact Kadv (n := 18) (by kernel_rfl) (W2_ok (Sl.row [x.1] : Sl EventId) vk0_13 tb2 lb3 vb4 vb5 x.1 [])
theorem E1_ok (vk0_13 : Trace) (tb2 : Trace) (lb3 : Arr 200 AnFromTo) (vb4 : EventId) (vb5 : Bool) : Le ((E1 vk0_13 tb2 lb3 vb4 vb5).bind (fun r => some [enc r.1, .bool r.2])) (rn S (callL S T) (finC [.ld 4 2 true, .ld 5 1 false]) (.rc (.each (.s 13) [14,15] aE1 bE1)) F16 (mkS [Pv 2, Pv 3, Pv 4, Pv 5, (13, .v (.clo (S.N 17) [] [.fptr (cells vk0_13)]))] [Xb 2 tb2, (3, .box [cp lb3]), Xb 4 vb4, (5, .box [bv vb5])])) := by
  unfold E1
  refine KitO fun its hits => ?_
  refine KeachA (n := 0) (g := .s 13) (fs := F16) (a := aE1) (b := bE1) (ps := [14,15]) (gt := [Pv 2, Pv 3, Pv 4, Pv 5, (13, .v (.clo (S.N 17) [] [.fptr (cells vk0_13)]))]) (eσ := E1_s S vk0_13 tb2 lb3 vb4 vb5) (eε := E1_e S vk0_13 tb2 lb3 vb4 vb5) (eρ := E1_r S vk0_13 tb2 lb3 vb4 vb5) (by kernel_rfl) (by kernel_rfl) (F_trace_cyclic.i0 (S := S) (T := T) vk0_13 its hits) (fun _ => rfl) (fun x q => Kto (by kernel_rfl) (E1_step_ok (S := S) (T := T) vk0_13 tb2 lb3 vb4 vb5 x)) ?_ ?_ ?_
  · intro q
    exact Kfin (by kernel_rfl)
  · intro e; exact Empty.elim e
  · intro e
    exact Kfin (by kernel_rfl)
end
end trace_cyclic
noncomputable def trace_cyclic (t0 : Trace) (l1 : Arr 200 AnFromTo) : Option (EventId × Bool) :=
 (trace_events t0).bind fun x_1 =>
 trace_cyclic.E1 x_1 t0 l1 (⟨0, 0⟩ : EventId) false
open trace_cyclic in
theorem trace_cyclic_ok {S : Sys} {T : Tab} [F_trace_cyclic S T] (t0 : Trace) (l1 : Arr 200 AnFromTo) : Le ((trace_cyclic t0 l1).bind fun r => some [enc r.1, .bool r.2]) (callC (callL S T) (S.N 28) [enc t0, .fptr (cells l1)]) := by
  refine Kfun (F_trace_cyclic.t (S := S) (T := T)) (Nat.le_of_ble_eq_true rfl) ?_
  unfold trace_cyclic
  refine Abox 2 false [] Q2 F2 (mkS [Cv 0 t0, Kv 1 l1] []) t0 rfl (by kernel_rfl) (by kernel_rfl) ?_
  refine AcallV 9 [] Q1 F1 (mkS [Pv 2, Pv 3, Pv 4, Pv 5, Cv 12 t0] [Xb 2 t0, (3, .box [cp l1]), Xb 4 (⟨0, 0⟩ : EventId), (5, .box [bv false])]) (trace_events_fun (S := S) (T := T)) t0 rfl (by kernel_rfl) fun x_1 h_1 => ?_
  exact Kadv (n := 4) (by kernel_rfl) (E1_ok x_1 t0 l1 (⟨0, 0⟩ : EventId) false)
theorem trace_cyclic_fun {S : Sys} {T : Tab} [F_trace_cyclic S T] : Fun S (callL S T) (S.N 28) (fun z : Trace × (Arr 200 AnFromTo) => [enc z.1, .fptr (cells z.2)]) (fun r : EventId × Bool => [enc r.1, .bool r.2]) (fun z => trace_cyclic z.1 z.2) true where
  k := F_trace_cyclic.k (S := S) (T := T)
  h z := trace_cyclic_ok z.1 z.2
  l z := by simp
  r r := by simp
  s h r := by kernel_rfl
namespace trace_Fault
def Q4 : List RO := o2 1 (.a .box) [0] [0] ::
 o2 2 (.a (.alloc 2 [.int .i64 0, .int .i64 0])) [] [] ::
 o2 3 (.a (.alloc 1 [.int .i64 0])) [] [] ::
 []
def Q2 : List RO := o2 17 .c [.f 6, 16, .k (.int .i64 1), .k (.int .i64 8)] [16] ::
 o2 18 (.p (.not)) [17] [17] ::
 []
def Q3 : List RO := o2 16 ln [15] [15] ::
 Q2
def C1 : RC := .cond (.s 18) (.seq (.ops (o2 19 (.p (.build [.int .i64 0, .int .i64 0] [])) [] [] ::
 oz (su 2) [2, 19] [19] ::
 oz (su 1) [3, .k (.int .i64 1)] [] ::
 [])) (.gh (.keep [2,3] [2,3]) (.ret))) (.skip)
def Q1 : List RO := o2 22 ln [21] [21] ::
 o1 23 (.k (.int .i64 0)) [] ::
 []
def C2 : RC := .cond (.s 24) (.skip) (.gh (.keep [1,2,3] [1,2,3]) (.exit 0))
def Q5 : List RO := o2 28 .c [.f 16, 26, 27] [26,27] ::
 o1 5 28 [28] ::
 []
def C3 : RC := .cond (.s 30) (.seq (.ops (o1 31 4 [4] ::
 o2 32 (.p (.build [.int .i64 0, .int .i64 0] [(0, 1)])) [31] [31] ::
 o1 33 5 [5] ::
 oz (su 2) [2, 32] [32] ::
 oz (su 1) [3, 33] [33] ::
 [])) (.gh (.keep [2,3] [2,3]) (.ret))) (.skip)
def U1 : RC := .seq (.ops (o1 29 5 [] ::
 o2 30 (bI .neq) [29, .k (.int .i64 0)] [29] ::
 [])) (C3)
def U2 : RC := .seq (.ops (o2 26 (lD 1) [1] [] ::
 o1 27 4 [] ::
 Q5)) (U1)
def U3 : RC := .ops (o2 34 (bI .add) [23, .k (.int .i64 1)] [23] ::
 o1 23 34 [34] ::
 [])
def U4 : RC := .seq (.block 1 (.seq (.ops (o1 25 23 [] ::
 o1 4 25 [25] ::
 [])) (U2))) (U3)
def tW1 : RC := .hg (.seq (.ops (o2 24 (bI .lss) [23, 22] [] ::
 [])) (.seq (C2) (U4))) (.keep [1,2,3,22,23] [1,2,3])
def U5 : RC := .block 0 (.gh (.keep [1,2,3,22,23] [1,2,3]) (.loop tW1))
def Q8 : List RO := o2 36 .c [.f 18, 35] [35] ::
 []
def Q7 : List RO := oz (su 5) [7, 38] [38] ::
 []
def U6 : RC := .ops (o2 7 (.a (.alloc 5 [.int .i64 0, .int .i64 0, .int .i64 0, .int .i64 0, .nsl])) [] [] ::
 Q7)
def Q6 : List RO := o2 42 .c [.f 23, 39, 40, 41] [39,40,41] ::
 o1 8 42 [42] ::
 []
def C4 : RC := .cond (.s 44) (.seq (.ops (o2 45 (lD 2) [6] [6] ::
 o1 46 8 [8] ::
 oz (su 2) [2, 45] [45] ::
 oz (su 1) [3, 46] [46] ::
 [])) (.gh (.keep [] [1,2,3]) (.ret))) (.skip)
def U7 : RC := .seq (.ops (o1 43 8 [] ::
 o2 44 (bI .neq) [43, .k (.int .i64 0)] [43] ::
 [])) (C4)
def aE2 : RC := .seq (.ops (o2 6 (.a (.alloc 2 [.int .i64 0, .int .i64 0])) [] [] ::
 oz (su 2) [6, 37] [37] ::
 [])) (U6)
def bE2 : RC := .hg (.block 3 (.seq (.ops (o2 39 (lD 1) [1] [] ::
 o2 40 (lD 2) [6] [] ::
 o2 41 (lD 5) [7] [7] ::
 Q6)) (U7))) (.keep [] [1,2,3])
def U8 : RC := .block 2 (.gh (.keep [1,2,3,36] [1,2,3]) (.each (.s 36) [37,38] aE2 bE2))
def Q10 : List RO := o2 49 .c [.f 26, 48] [48] ::
 o1 47 49 [49] ::
 o2 50 (.p (.ext 0)) [47] [] ::
 o2 51 (.p (.ext 1)) [47] [] ::
 o2 52 (.p (.ext 2)) [47] [47] ::
 o2 10 (.a (.alloc 2 [.int .i64 0, .int .i64 0])) [] [] ::
 o1 9 50 [50] ::
 oz (su 2) [10, 51] [51] ::
 o1 11 52 [52] ::
 []
def C5 : RC := .cond (.s 54) (.seq (.ops (o2 55 (lD 2) [10] [10] ::
 o1 56 11 [11] ::
 oz (su 2) [2, 55] [55] ::
 oz (su 1) [3, 56] [56] ::
 [])) (.gh (.keep [2,3] [2,3]) (.ret))) (.skip)
def Q9 : List RO := o2 60 .c [.f 28, 58, 59] [58,59] ::
 o1 57 60 [60] ::
 o2 61 (.p (.ext 0)) [57] [] ::
 o2 62 (.p (.ext 1)) [57] [57] ::
 o2 12 (.a (.alloc 2 [.int .i64 0, .int .i64 0])) [] [] ::
 oz (su 2) [12, 61] [61] ::
 o1 13 62 [62] ::
 []
def C6 : RC := .cond (.s 63) (.seq (.ops (o2 64 (lD 2) [12] [12] ::
 oz (su 2) [2, 64] [64] ::
 oz (su 1) [3, .k (.int .i64 10)] [] ::
 [])) (.gh (.keep [2,3] [2,3]) (.ret))) (.skip)
def U9 : RC := .seq (.ops (o2 65 (.p (.build [.int .i64 0, .int .i64 0] [])) [] [] ::
 oz (su 2) [2, 65] [65] ::
 oz (su 1) [3, .k (.int .i64 0)] [] ::
 [])) (.gh (.keep [2,3] [2,3]) (.ret))
def U10 : RC := .seq (.seq (.ops (o2 58 (lD 1) [1] [1] ::
 o1 59 9 [9] ::
 Q9)) (.seq (.ops (o1 63 13 [13] ::
 [])) (C6))) (U9)
def U11 : RC := .seq (.seq (.ops (o1 53 11 [] ::
 o2 54 (bI .neq) [53, .k (.int .i64 0)] [53] ::
 [])) (C5)) (U10)
def U12 : RC := .seq (.ops (o2 48 (lD 1) [1] [] ::
 Q10)) (U11)
def U13 : RC := .seq (.seq (.ops (o2 35 (lD 1) [1] [] ::
 Q8)) (U8)) (U12)
def U14 : RC := .seq (.seq (.ops (o2 20 (fa 0) [1] [] ::
 o2 21 (ld 1) [20] [20] ::
 Q1)) (U5)) (U13)
def U15 : RC := .seq (.seq (.ops (o2 14 (fa 0) [1] [] ::
 o2 15 (ld 1) [14] [14] ::
 Q3)) (C1)) (U14)
def text : RF := ⟨66, [.ld 2 2 true, .ld 3 1 false], .seq (.ops Q4) (U15)⟩
def F2 : List Fm := [.seq U14]
def F4 : List Fm := [.seq U15]
def F11 : List Fm := [.seq U9]
def F13 : List Fm := [.seq U10]
def F14 : List Fm := [.seq U11]
def F1 : List Fm := [.seq U5, .seq U13]
def F3 : List Fm := .seq C1 :: F2
def F7 : List Fm := [.seq U4, .gst (.keep [1,2,3,22,23] [1,2,3])]
def F8 : List Fm := [.blk 3, .gst (.keep [] [1,2,3])]
def F10 : List Fm := [.seq U8, .seq U12]
def F12 : List Fm := .seq (.seq (.ops (o1 63 13 [13] ::
 [])) (C6)) :: F11
def F15 : List Fm := [.blk 2, .seq U12]
def F16 : List Fm := [.blk 0, .seq U13]
def F5 : List Fm := [.blk 1, .seq U3, .gst (.keep [1,2,3,22,23] [1,2,3])]
def F9 : List Fm := .seq U7 :: F8
def F6 : List Fm := .seq U1 :: F5
end trace_Fault
class F_trace_Fault (S : Sys) (T : Tab) : Prop where
  t : T (S.N 29) = some trace_Fault.text
  k : S.E.keep (S.N 29) = false
  c0 : F_trace_cyclic S T
  c1 : F_trace_eventFault S T
  c2 : F_trace_events S T
  c3 : F_trace_in S T
  c4 : F_trace_messageFault S T
  c5 : F_trace_processFault S T
  i0 : ∀ t : Trace, ∀ its, trace_items t = some its → S.items (S.N 17) [] [.fptr (cells t)] = some (its.map fun x : EventId × Event => [enc x.1, enc x.2])
attribute [instance] F_trace_Fault.c0 F_trace_Fault.c1 F_trace_Fault.c2 F_trace_Fault.c3 F_trace_Fault.c4 F_trace_Fault.c5
namespace trace_Fault
section
variable {S : Sys} {T : Tab} [F_trace_Fault S T]
noncomputable def E2_step (vk0_36 : Trace) (tb1 : Trace) (vb2 : EventId) (vb3 : Int) (x : EventId × Event) : Option (Fw Unit Empty (EventId × Int)) :=
 (trace_eventFault tb1 x.1 x.2).bind fun x_1 =>
 cif (x_1 == 0)
 (some (.n ()))
 (some (.r (x.1, x_1)))
noncomputable def E2 (vk0_36 : Trace) (tb1 : Trace) (vb2 : EventId) (vb3 : Int) : Option (EventId × Int) :=
 (trace_items vk0_36).bind fun its => (weach (fun (x : EventId × Event) (q : Unit) => E2_step vk0_36 tb1 vb2 vb3 x) its ()).bind (Fw.elimE
 (fun q => (trace_messageFault tb1).bind fun x_1 =>
 cif (x_1.2.2 == 0)
 ((x_1.1).bind fun x_2 =>
 (trace_cyclic tb1 x_2).bind fun x_3 =>
 cif x_3.2
 (some (x_3.1, 10))
 (some (⟨0, 0⟩, 0)))
 (some (x_1.2.1, x_1.2.2)))
 (fun e => Empty.elim e)
 (fun e => some (e.1, e.2)))
def E2_s (S : Sys) (vk0_36 : Trace) (tb1 : Trace) (vb2 : EventId) (vb3 : Int) : Unit → Tb SOb := fun q => [Xb 1 tb1, Xb 2 vb2, (3, .box [iv vb3])]
def E2_e (S : Sys) (vk0_36 : Trace) (tb1 : Trace) (vb2 : EventId) (vb3 : Int) : Empty → Nat × Tb SOb := fun e => Empty.elim e
def E2_r (S : Sys) (vk0_36 : Trace) (tb1 : Trace) (vb2 : EventId) (vb3 : Int) : EventId × Int → Tb SOb := fun e => [Xb 1 tb1, Xb 2 e.1, (3, .box [iv e.2])]
noncomputable def W1_step (v22 : Int) (tb1 : Trace) (vb2 : EventId) (vb3 : Int) (v23 : Int) : Option (Fw Int Unit (EventId × Int)) :=
 cif (decide (v23 < v22))
 ((trace_processFault tb1 v23).bind fun x_1 =>
 cif (x_1 == 0)
 (some (.n (IntKind.wrap .i64 (v23 + 1))))
 (some (.r ((⟨v23, 0⟩ : EventId), x_1))))
 (some (.x ()))
noncomputable def W1 (v22 : Int) (v23 : Int) (tb1 : Trace) (vb2 : EventId) (vb3 : Int) : Option (EventId × Int) :=
 (wloop (fun q : Int => W1_step v22 tb1 vb2 vb3 q) v23).bind (Fw.elim
 (fun e => (trace_events tb1).bind fun x_1 =>
 trace_Fault.E2 x_1 tb1 vb2 vb3)
 (fun e => some (e.1, e.2)))
def W1_s (S : Sys) (v22 : Int) (tb1 : Trace) (vb2 : EventId) (vb3 : Int) : Int → St := fun q => (mkS [Pv 1, Pv 2, Pv 3, Iv 22 v22, Iv 23 q] [Xb 1 tb1, Xb 2 vb2, (3, .box [iv vb3])])
def W1_e (S : Sys) (v22 : Int) (tb1 : Trace) (vb2 : EventId) (vb3 : Int) : Unit → Nat × St := fun e => (0, (mkS [Pv 1, Pv 2, Pv 3] [Xb 1 tb1, Xb 2 vb2, (3, .box [iv vb3])]))
def W1_r (S : Sys) (v22 : Int) (tb1 : Trace) (vb2 : EventId) (vb3 : Int) : EventId × Int → St := fun e => (mkS [Pv 2, Pv 3] [Xb 2 e.1, (3, .box [iv e.2])])
theorem E2_step_ok (vk0_36 : Trace) (tb1 : Trace) (vb2 : EventId) (vb3 : Int) (x : EventId × Event) : Le ((E2_step vk0_36 tb1 vb2 vb3 x).bind (fun w => some (Fw.outM (E2_s S vk0_36 tb1 vb2 vb3) (E2_e S vk0_36 tb1 vb2 vb3) (E2_r S vk0_36 tb1 vb2 vb3) w))) (rn S (callL S T) (eachQ S (callL S T) bE2) (.rc aE2) [] ⟨[Pv 1, Pv 2, Pv 3, (36, .v (.clo (S.N 17) [] [.fptr (cells vk0_36)])), Cv 37 x.1, Cv 38 x.2], [Xb 1 tb1, Xb 2 vb2, (3, .box [iv vb3])], [1,2,3], [], true, 0⟩) := by
  unfold E2_step
  refine Ast 8 false [] Q7 [] ⟨[Pv 1, Pv 2, Pv 3, (36, .v (.clo (S.N 17) [] [.fptr (cells vk0_36)])), Cv 38 x.2, Pv 6, Pv 7], [Xb 1 tb1, Xb 2 vb2, (3, .box [iv vb3]), Xb 6 x.1, Xb 7 (⟨0, 0, 0, 0, Sl.nil⟩ : Event)], [1,2,3], [], true, 0⟩ 7 0 x.2 [iv 0, iv 0, iv 0, iv 0, .v .nsl] [iv x.2.kind, iv x.2.peer, iv x.2.message, iv x.2.time, cv x.2.assign] rfl (by kernel_rfl) ?_
  refine KeachQ (n := 1) (st' := ⟨[Pv 1, Pv 2, Pv 3, (36, .v (.clo (S.N 17) [] [.fptr (cells vk0_36)])), Pv 6, Pv 7], [Xb 1 tb1, Xb 2 vb2, (3, .box [iv vb3]), Xb 6 x.1, Xb 7 x.2], [1,2,3], [], true, 0⟩) (by kernel_rfl) ?_
  refine AcallV 7 [] Q6 F9 ⟨[Pv 1, Pv 2, Pv 3, (36, .v (.clo (S.N 17) [] [.fptr (cells vk0_36)])), Pv 6, Cv 39 tb1, Cv 40 x.1, Cv 41 x.2], [Xb 1 tb1, Xb 2 vb2, (3, .box [iv vb3]), Xb 6 x.1, Xb 7 x.2], [1,2,3], [], true, 0⟩ (trace_eventFault_fun (S := S) (T := T)) (tb1, x.1, x.2) rfl (by kernel_rfl) fun x_1 h_1 => ?_
  refine KifA (n := 9) (fo' := .rc C4) (fs' := F8) (t := (x_1 == 0)) (A := fun bb => ⟨[Pv 1, Pv 2, Pv 3, (36, .v (.clo (S.N 17) [] [.fptr (cells vk0_36)])), Pv 6, Iv 8 x_1, Bv 44 (!bb)], [Xb 1 tb1, Xb 2 vb2, (3, .box [iv vb3]), Xb 6 x.1, Xb 7 x.2], [1,2,3], [], true, 0⟩) (by kernel_rfl) ?_ ?_
  · exact Kfin (by kernel_rfl)
  · exact Kfin (by kernel_rfl)
theorem E2_ok (vk0_36 : Trace) (tb1 : Trace) (vb2 : EventId) (vb3 : Int) : Le ((E2 vk0_36 tb1 vb2 vb3).bind (fun r => some [enc r.1, .int .i64 r.2])) (rn S (callL S T) (finC [.ld 2 2 true, .ld 3 1 false]) (.rc (.each (.s 36) [37,38] aE2 bE2)) F15 (mkS [Pv 1, Pv 2, Pv 3, (36, .v (.clo (S.N 17) [] [.fptr (cells vk0_36)]))] [Xb 1 tb1, Xb 2 vb2, (3, .box [iv vb3])])) := by
  unfold E2
  refine KitO fun its hits => ?_
  refine KeachA (n := 0) (g := .s 36) (fs := F15) (a := aE2) (b := bE2) (ps := [37,38]) (gt := [Pv 1, Pv 2, Pv 3, (36, .v (.clo (S.N 17) [] [.fptr (cells vk0_36)]))]) (eσ := E2_s S vk0_36 tb1 vb2 vb3) (eε := E2_e S vk0_36 tb1 vb2 vb3) (eρ := E2_r S vk0_36 tb1 vb2 vb3) (by kernel_rfl) (by kernel_rfl) (F_trace_Fault.i0 (S := S) (T := T) vk0_36 its hits) (fun _ => rfl) (fun x q => Kto (by kernel_rfl) (E2_step_ok (S := S) (T := T) vk0_36 tb1 vb2 vb3 x)) ?_ ?_ ?_
  · intro q
    refine AcallV 5 [] Q10 F14 (mkS [Pv 1, Pv 2, Pv 3, (36, .v (.clo (S.N 17) [] [.fptr (cells vk0_36)])), Cv 48 tb1] [Xb 1 tb1, Xb 2 vb2, (3, .box [iv vb3])]) (trace_messageFault_fun (S := S) (T := T)) tb1 rfl (by kernel_rfl) fun x_1 h_1 => ?_
    refine KifA (n := 17) (fo' := .rc C5) (fs' := F13) (t := (x_1.2.2 == 0)) (A := fun bb => (mkS [Pv 1, Pv 2, Pv 3, (36, .v (.clo (S.N 17) [] [.fptr (cells vk0_36)])), Pv 10, Cv 9 x_1.1, Iv 11 x_1.2.2, Bv 54 (!bb)] [Xb 1 tb1, Xb 2 vb2, (3, .box [iv vb3]), Xb 10 x_1.2.1])) (by kernel_rfl) ?_ ?_
    · refine KoptA (n := 8) (fo' := .ops false [] Q9) (fs' := F12) (A := fun oo => (mkS [Pv 2, Pv 3, (36, .v (.clo (S.N 17) [] [.fptr (cells vk0_36)])), Pv 10, Iv 11 x_1.2.2, Bv 54 false, Cv 58 tb1, Cv 59 oo] [Xb 1 tb1, Xb 2 vb2, (3, .box [iv vb3]), Xb 10 x_1.2.1])) (by kernel_rfl) fun x_2 h_2 => ?_
      refine AcallV 0 [] Q9 F12 (mkS [Pv 2, Pv 3, (36, .v (.clo (S.N 17) [] [.fptr (cells vk0_36)])), Pv 10, Iv 11 x_1.2.2, Bv 54 false, Cv 58 tb1, Kv 59 x_2] [Xb 1 tb1, Xb 2 vb2, (3, .box [iv vb3]), Xb 10 x_1.2.1]) (trace_cyclic_fun (S := S) (T := T)) (tb1, x_2) rfl (by kernel_rfl) fun x_3 h_3 => ?_
      refine KifA (n := 13) (fo' := .rc C6) (fs' := F11) (t := x_3.2) (A := fun bb => (mkS [Pv 2, Pv 3, (36, .v (.clo (S.N 17) [] [.fptr (cells vk0_36)])), Pv 10, Iv 11 x_1.2.2, Bv 54 false, Pv 12, Bv 63 bb] [Xb 1 tb1, Xb 2 vb2, (3, .box [iv vb3]), Xb 10 x_1.2.1, Xb 12 x_3.1])) (by kernel_rfl) ?_ ?_
      · exact Kfin (by kernel_rfl)
      · exact Kfin (by kernel_rfl)
    · exact Kfin (by kernel_rfl)
  · intro e; exact Empty.elim e
  · intro e
    exact Kfin (by kernel_rfl)
theorem W1_step_ok (v22 : Int) (tb1 : Trace) (vb2 : EventId) (vb3 : Int) (v23 : Int) : Le ((W1_step v22 tb1 vb2 vb3 v23).bind (fun w => some (Fw.out (W1_s S v22 tb1 vb2 vb3) (W1_e S v22 tb1 vb2 vb3) (W1_r S v22 tb1 vb2 vb3) w))) (rn S (callL S T) some (.rc tW1) [] (mkS [Pv 1, Pv 2, Pv 3, Iv 22 v22, Iv 23 v23] [Xb 1 tb1, Xb 2 vb2, (3, .box [iv vb3])])) := by
  unfold W1_step
  refine KifA (n := 7) (fo' := .rc C2) (fs' := F7) (t := decide (v23 < v22)) (A := fun bb => (mkS [Pv 1, Pv 2, Pv 3, Iv 22 v22, Iv 23 v23, Bv 24 bb] [Xb 1 tb1, Xb 2 vb2, (3, .box [iv vb3])])) (by kernel_rfl) ?_ ?_
  · refine AcallV 15 [] Q5 F6 (mkS [Pv 1, Pv 2, Pv 3, Iv 22 v22, Iv 23 v23, Bv 24 true, Iv 4 v23, Cv 26 tb1, Iv 27 v23] [Xb 1 tb1, Xb 2 vb2, (3, .box [iv vb3])]) (trace_processFault_fun (S := S) (T := T)) (tb1, v23) rfl (by kernel_rfl) fun x_1 h_1 => ?_
    refine KifA (n := 9) (fo' := .rc C3) (fs' := F5) (t := (x_1 == 0)) (A := fun bb => (mkS [Pv 1, Pv 2, Pv 3, Iv 22 v22, Iv 23 v23, Bv 24 true, Iv 4 v23, Iv 5 x_1, Bv 30 (!bb)] [Xb 1 tb1, Xb 2 vb2, (3, .box [iv vb3])])) (by kernel_rfl) ?_ ?_
    · exact Kfin (by kernel_rfl)
    · exact Kfin (by kernel_rfl)
  · exact Kfin (by kernel_rfl)
theorem W1_ok (v22 : Int) (v23 : Int) (tb1 : Trace) (vb2 : EventId) (vb3 : Int) : Le ((W1 v22 v23 tb1 vb2 vb3).bind (fun r => some [enc r.1, .int .i64 r.2])) (rn S (callL S T) (finC [.ld 2 2 true, .ld 3 1 false]) (.rc (.loop tW1)) F16 (mkS [Pv 1, Pv 2, Pv 3, Iv 22 v22, Iv 23 v23] [Xb 1 tb1, Xb 2 vb2, (3, .box [iv vb3])])) := by
  unfold W1
  refine KloopA (n := 0) (fs := F16) (a := tW1) (eσ := W1_s S v22 tb1 vb2 vb3) (eε := W1_e S v22 tb1 vb2 vb3) (eρ := W1_r S v22 tb1 vb2 vb3) (by kernel_rfl) (fun q => W1_step_ok v22 tb1 vb2 vb3 q) ?_ ?_
  · intro e
    refine AcallV 6 [] Q8 F10 (mkS [Pv 1, Pv 2, Pv 3, Cv 35 tb1] [Xb 1 tb1, Xb 2 vb2, (3, .box [iv vb3])]) (trace_events_fun (S := S) (T := T)) tb1 rfl (by kernel_rfl) fun x_1 h_1 => ?_
    exact Kadv (n := 4) (by kernel_rfl) (E2_ok x_1 tb1 vb2 vb3)
  · intro e
    exact Kfin (by kernel_rfl)
end
end trace_Fault
noncomputable def trace_Fault (t0 : Trace) : Option (EventId × Int) :=
 (trace_in (len t0.procs) 1 8).bind fun x_1 =>
 cif x_1
 (trace_Fault.W1 (len t0.procs) 0 t0 (⟨0, 0⟩ : EventId) 0)
 (some (⟨0, 0⟩, 1))
open trace_Fault in
theorem trace_Fault_ok {S : Sys} {T : Tab} [F_trace_Fault S T] (t0 : Trace) : Le ((trace_Fault t0).bind fun r => some [enc r.1, .int .i64 r.2]) (callC (callL S T) (S.N 29) [enc t0]) := by
  refine Kfun (F_trace_Fault.t (S := S) (T := T)) (Nat.le_of_ble_eq_true rfl) ?_
  unfold trace_Fault
  refine Abox 2 false [] Q4 F4 (mkS [Cv 0 t0] []) t0 rfl (by kernel_rfl) (by kernel_rfl) ?_
  refine Alen 9 false [] Q3 F3 (mkS [Pv 1, Pv 2, Pv 3, Cv 15 t0.procs] [Xb 1 t0, Xb 2 (⟨0, 0⟩ : EventId), (3, .box [iv 0])]) t0.procs rfl (by kernel_rfl) ?_
  refine AcallV 0 [] Q2 F3 (mkS [Pv 1, Pv 2, Pv 3, Iv 16 (len t0.procs)] [Xb 1 t0, Xb 2 (⟨0, 0⟩ : EventId), (3, .box [iv 0])]) (trace_in_fun (S := S) (T := T)) (len t0.procs, 1, 8) rfl (by kernel_rfl) fun x_1 h_1 => ?_
  refine KifA (n := 3) (fo' := .rc C1) (fs' := F2) (t := x_1) (A := fun bb => (mkS [Pv 1, Pv 2, Pv 3, Bv 18 (!bb)] [Xb 1 t0, Xb 2 (⟨0, 0⟩ : EventId), (3, .box [iv 0])])) (by kernel_rfl) ?_ ?_
  · refine Alen 8 false [] Q1 F1 (mkS [Pv 1, Pv 2, Pv 3, Bv 18 false, Cv 21 t0.procs] [Xb 1 t0, Xb 2 (⟨0, 0⟩ : EventId), (3, .box [iv 0])]) t0.procs rfl (by kernel_rfl) ?_
    exact Kadv (n := 5) (by kernel_rfl) (W1_ok (len t0.procs) 0 t0 (⟨0, 0⟩ : EventId) 0)
  · exact Kfin (by kernel_rfl)
theorem trace_Fault_fun {S : Sys} {T : Tab} [F_trace_Fault S T] : Fun S (callL S T) (S.N 29) (fun z : Trace => [enc z]) (fun r : EventId × Int => [enc r.1, .int .i64 r.2]) (fun z => trace_Fault z) true where
  k := F_trace_Fault.k (S := S) (T := T)
  h z := trace_Fault_ok z
  l z := by simp
  r r := by simp
  s h r := by kernel_rfl
namespace trace_Valid
def Q2 : List RO := o2 1 (.a .box) [0] [0] ::
 o1 2 (.k (.bool false)) [2] ::
 []
def Q1 : List RO := o2 7 .c [.f 29, 6] [6] ::
 o1 5 7 [7] ::
 o2 8 (.p (.ext 0)) [5] [] ::
 o2 9 (.p (.ext 1)) [5] [5] ::
 o2 3 (.a (.alloc 2 [.int .i64 0, .int .i64 0])) [] [] ::
 oz (su 2) [3, 8] [3,8] ::
 o1 4 9 [9] ::
 []
def U1 : RC := .seq (.ops (o1 10 4 [4] ::
 o2 11 (bI .eql) [10, .k (.int .i64 0)] [10] ::
 o1 2 11 [11] ::
 [])) (.ret)
def U2 : RC := .seq (.ops (o2 6 (lD 1) [1] [1] ::
 Q1)) (U1)
def text : RF := ⟨12, [.s 2], .seq (.ops Q2) (U2)⟩
def F1 : List Fm := [.seq U1]
def F2 : List Fm := [.seq U2]
end trace_Valid
class F_trace_Valid (S : Sys) (T : Tab) : Prop where
  t : T (S.N 30) = some trace_Valid.text
  k : S.E.keep (S.N 30) = false
  c0 : F_trace_Fault S T
attribute [instance] F_trace_Valid.c0
namespace trace_Valid
section
variable {S : Sys} {T : Tab} [F_trace_Valid S T]
end
end trace_Valid
noncomputable def trace_Valid (t0 : Trace) : Option Bool :=
 (trace_Fault t0).bind fun x_1 =>
 some (x_1.2 == 0)
open trace_Valid in
theorem trace_Valid_ok {S : Sys} {T : Tab} [F_trace_Valid S T] (t0 : Trace) : Le ((trace_Valid t0).bind fun r => some [.bool r]) (callC (callL S T) (S.N 30) [enc t0]) := by
  refine Kfun (F_trace_Valid.t (S := S) (T := T)) (Nat.le_of_ble_eq_true rfl) ?_
  unfold trace_Valid
  refine Abox 2 false [] Q2 F2 (mkS [Cv 0 t0] []) t0 rfl (by kernel_rfl) (by kernel_rfl) ?_
  refine AcallV 6 [] Q1 F1 (mkS [Cv 6 t0] [Xb 1 t0]) (trace_Fault_fun (S := S) (T := T)) t0 rfl (by kernel_rfl) fun x_1 h_1 => ?_
  exact Kfin (by kernel_rfl)
theorem trace_Valid_fun {S : Sys} {T : Tab} [F_trace_Valid S T] : Fun S (callL S T) (S.N 30) (fun z : Trace => [enc z]) (fun r : Bool => [.bool r]) (fun z => trace_Valid z) true where
  k := F_trace_Valid.k (S := S) (T := T)
  h z := trace_Valid_ok z
  l z := by simp
  r r := by simp
  s h r := by kernel_rfl
namespace channel_check
def Q11 : List RO := o2 3 (.a .box) [0] [0] ::
 o1 6 (.k (.int .i64 0)) [6] ::
 []
def Q10 : List RO := o2 10 ln [9] [9] ::
 o1 7 10 [10] ::
 []
def Q9 : List RO := o2 13 .c [.f 30, 12] [12] ::
 o2 14 (.p (.not)) [13] [13] ::
 o1 11 14 [14] ::
 []
def Q5 : List RO := o1 15 36 [36] ::
 []
def Q4 : List RO := o3 33 32 false (.p (.id)) [1] [1] ::
 o3 34 32 false (.p (.id)) [2] [2] ::
 o3 35 32 false (bI .eql) [33, 34] [33,34] ::
 o2 36 (.p (.pick)) [32, .k (.bool true), 35] [32,35] ::
 Q5
def Q6 : List RO := o1 32 31 [31] ::
 Q4
def Q3 : List RO := o3 28 27 false (.p (.id)) [2] [] ::
 o3 29 27 false (.p (.id)) [7] [7] ::
 o3 30 27 false (bI .geq) [28, 29] [28,29] ::
 o2 31 (.p (.pick)) [27, .k (.bool true), 30] [27,30] ::
 Q6
def Q7 : List RO := o1 27 26 [26] ::
 Q3
def Q2 : List RO := o3 24 23 false (.p (.id)) [2] [] ::
 o3 25 23 false (bI .lss) [24, .k (.int .i64 0)] [24] ::
 o2 26 (.p (.pick)) [23, .k (.bool true), 25] [23,25] ::
 Q7
def Q8 : List RO := o1 23 22 [22] ::
 Q2
def Q1 : List RO := o3 19 18 false (.p (.id)) [1] [] ::
 o3 20 18 false (.p (.id)) [7] [] ::
 o3 21 18 false (bI .geq) [19, 20] [19,20] ::
 o2 22 (.p (.pick)) [18, .k (.bool true), 21] [18,21] ::
 Q8
def C2 : RC := .cond (.s 15) (.seq (.ops (o1 6 (.k (.int .i64 2)) [] ::
 [])) (.ret)) (.skip)
def C1 : RC := .cond (.s 11) (.seq (.ops (o1 6 (.k (.int .i64 1)) [] ::
 [])) (.ret)) (.seq (.ops (o1 16 1 [] ::
 o2 17 (bI .lss) [16, .k (.int .i64 0)] [16] ::
 o1 18 17 [17] ::
 Q1)) (C2))
def U1 : RC := .seq (.ops (o1 6 (.k (.int .i64 0)) [] ::
 [])) (.ret)
def U2 : RC := .seq (.block 0 (.seq (.ops (o2 12 (lD 1) [3] [3] ::
 Q9)) (C1))) (U1)
def U3 : RC := .seq (.ops (o2 8 (fa 0) [3] [] ::
 o2 9 (ld 1) [8] [8] ::
 Q10)) (U2)
def text : RF := ⟨37, [.s 6], .seq (.ops Q11) (U3)⟩
def F4 : List Fm := [.seq U2]
def F5 : List Fm := [.seq U3]
def F2 : List Fm := [.blk 0, .seq U1]
def F1 : List Fm := .seq C2 :: F2
def F3 : List Fm := .seq C1 :: F2
end channel_check
class F_channel_check (S : Sys) (T : Tab) : Prop where
  t : T (S.N 31) = some channel_check.text
  k : S.E.keep (S.N 31) = false
  c0 : F_trace_Valid S T
attribute [instance] F_channel_check.c0
namespace channel_check
section
variable {S : Sys} {T : Tab} [F_channel_check S T]
end
end channel_check
noncomputable def channel_check (t0 : Trace) (p1 : Int) (q2 : Int) : Option Int :=
 (trace_Valid t0).bind fun x_1 =>
 cif x_1
 ((cif (decide (p1 < 0))
 (some true)
 (some (decide (p1 ≥ (len t0.procs)))) : Option Bool).bind fun x_2 =>
 (cif x_2
 (some true)
 (some (decide (q2 < 0))) : Option Bool).bind fun x_3 =>
 (cif x_3
 (some true)
 (some (decide (q2 ≥ (len t0.procs)))) : Option Bool).bind fun x_4 =>
 (cif x_4
 (some true)
 (some (p1 == q2)) : Option Bool).bind fun x_5 =>
 cif x_5
 (some 2)
 (some 0))
 (some 1)
open channel_check in
theorem channel_check_ok {S : Sys} {T : Tab} [F_channel_check S T] (t0 : Trace) (p1 : Int) (q2 : Int) : Le ((channel_check t0 p1 q2).bind fun r => some [.int .i64 r]) (callC (callL S T) (S.N 31) [enc t0, .int .i64 p1, .int .i64 q2]) := by
  refine Kfun (F_channel_check.t (S := S) (T := T)) (Nat.le_of_ble_eq_true rfl) ?_
  unfold channel_check
  refine Abox 2 false [] Q11 F5 (mkS [Cv 0 t0, Iv 1 p1, Iv 2 q2] []) t0 rfl (by kernel_rfl) (by kernel_rfl) ?_
  refine Alen 7 false [] Q10 F4 (mkS [Iv 1 p1, Iv 2 q2, Pv 3, Cv 9 t0.procs] [Xb 3 t0]) t0.procs rfl (by kernel_rfl) ?_
  refine AcallV 8 [] Q9 F3 (mkS [Iv 1 p1, Iv 2 q2, Iv 7 (len t0.procs), Cv 12 t0] [Xb 3 t0]) (trace_Valid_fun (S := S) (T := T)) t0 rfl (by kernel_rfl) fun x_1 h_1 => ?_
  refine KifA (n := 4) (fo' := .rc C1) (fs' := F2) (t := x_1) (A := fun bb => (mkS [Iv 1 p1, Iv 2 q2, Iv 7 (len t0.procs), Bv 11 (!bb)] [Xb 3 t0])) (by kernel_rfl) ?_ ?_
  · refine Kjoin (fun x_2 => rn S (callL S T) (finC [.s 6]) (.ops false [] Q8) F1 (mkS [Iv 1 p1, Iv 2 q2, Iv 7 (len t0.procs), Bv 11 false, Bv 22 x_2] [Xb 3 t0])) ?_ fun x_2 => ?_
    · refine KifA (n := 6) (fo' := .ops false [] Q1) (fs' := F1) (t := decide (p1 < 0)) (A := fun bb => (mkS [Iv 1 p1, Iv 2 q2, Iv 7 (len t0.procs), Bv 11 false, Bv 18 bb] [Xb 3 t0])) (by kernel_rfl) ?_ ?_
      · exact Kend (n := 4) (by kernel_rfl) rfl
      · exact Kend (n := 4) (by kernel_rfl) rfl
    · refine Kjoin (fun x_3 => rn S (callL S T) (finC [.s 6]) (.ops false [] Q7) F1 (mkS [Iv 1 p1, Iv 2 q2, Iv 7 (len t0.procs), Bv 11 false, Bv 26 x_3] [Xb 3 t0])) ?_ fun x_3 => ?_
      · refine KifA (n := 1) (fo' := .ops false [] Q2) (fs' := F1) (t := x_2) (A := fun bb => (mkS [Iv 1 p1, Iv 2 q2, Iv 7 (len t0.procs), Bv 11 false, Bv 23 bb] [Xb 3 t0])) (by kernel_rfl) ?_ ?_
        · exact Kend (n := 3) (by kernel_rfl) rfl
        · exact Kend (n := 3) (by kernel_rfl) rfl
      · refine Kjoin (fun x_4 => rn S (callL S T) (finC [.s 6]) (.ops false [] Q6) F1 (mkS [Iv 1 p1, Iv 2 q2, Bv 11 false, Bv 31 x_4] [Xb 3 t0])) ?_ fun x_4 => ?_
        · refine KifA (n := 1) (fo' := .ops false [] Q3) (fs' := F1) (t := x_3) (A := fun bb => (mkS [Iv 1 p1, Iv 2 q2, Iv 7 (len t0.procs), Bv 11 false, Bv 27 bb] [Xb 3 t0])) (by kernel_rfl) ?_ ?_
          · exact Kend (n := 4) (by kernel_rfl) rfl
          · exact Kend (n := 4) (by kernel_rfl) rfl
        · refine Kjoin (fun x_5 => rn S (callL S T) (finC [.s 6]) (.ops false [] Q5) F1 (mkS [Bv 11 false, Bv 36 x_5] [Xb 3 t0])) ?_ fun x_5 => ?_
          · refine KifA (n := 1) (fo' := .ops false [] Q4) (fs' := F1) (t := x_4) (A := fun bb => (mkS [Iv 1 p1, Iv 2 q2, Bv 11 false, Bv 32 bb] [Xb 3 t0])) (by kernel_rfl) ?_ ?_
            · exact Kend (n := 4) (by kernel_rfl) rfl
            · exact Kend (n := 4) (by kernel_rfl) rfl
          · refine KifA (n := 3) (fo' := .rc C2) (fs' := F2) (t := x_5) (A := fun bb => (mkS [Bv 11 false, Bv 15 bb] [Xb 3 t0])) (by kernel_rfl) ?_ ?_
            · exact Kfin (by kernel_rfl)
            · exact Kfin (by kernel_rfl)
  · exact Kfin (by kernel_rfl)
theorem channel_check_fun {S : Sys} {T : Tab} [F_channel_check S T] : Fun S (callL S T) (S.N 31) (fun z : Trace × Int × Int => [enc z.1, .int .i64 z.2.1, .int .i64 z.2.2]) (fun r : Int => [.int .i64 r]) (fun z => channel_check z.1 z.2.1 z.2.2) true where
  k := F_channel_check.k (S := S) (T := T)
  h z := channel_check_ok z.1 z.2.1 z.2.2
  l z := by simp
  r r := by simp
  s h r := by kernel_rfl
namespace channel_Fifo_c1
def Q3 : List RO := o2 2 (.a .box) [0] [0] ::
 o1 3 (.k (.bool false)) [3] ::
 []
def Q2 : List RO := o1 3 13 [13] ::
 []
def Q1 : List RO := o3 8 7 true (fa 2) [2] [2] ::
 o3 9 7 true (ld 1) [8] [8] ::
 o3 10 7 true (fa 2) [1] [1] ::
 o3 11 7 true (ld 1) [10] [10] ::
 o3 12 7 true (bI .eql) [9, 11] [9,11] ::
 o2 13 (.p (.pick)) [7, 12, .k (.bool false)] [7,12] ::
 Q2
def U1 : RC := .seq (.ops (o2 4 (fa 0) [2] [] ::
 o2 5 (ld 1) [4] [4] ::
 o2 6 (bI .eql) [5, .k (.int .i64 3)] [5] ::
 o1 7 6 [6] ::
 Q1)) (.ret)
def text : RF := ⟨14, [.s 3], .seq (.ops Q3) (U1)⟩
def F1 : List Fm := [.seq .ret]
def F2 : List Fm := [.seq U1]
end channel_Fifo_c1
class F_channel_Fifo_c1 (S : Sys) (T : Tab) : Prop where
  t : T (S.N 32) = some channel_Fifo_c1.text
  k : S.E.keep (S.N 32) = false
namespace channel_Fifo_c1
section
variable {S : Sys} {T : Tab} [F_channel_Fifo_c1 S T]
end
end channel_Fifo_c1
noncomputable def channel_Fifo_c1 (y0 : Event) (v1 : Event) : Option Bool :=
 (cif (y0.kind == 3)
 (some (y0.message == v1.message))
 (some false) : Option Bool).bind fun x_1 =>
 some x_1
open channel_Fifo_c1 in
theorem channel_Fifo_c1_ok {S : Sys} {T : Tab} [F_channel_Fifo_c1 S T] (y0 : Event) (v1 : Event) : Le ((channel_Fifo_c1 y0 v1).bind fun r => some [.bool r]) (callC (callL S T) (S.N 32) [enc y0, .fptr (cells v1)]) := by
  refine Kfun (F_channel_Fifo_c1.t (S := S) (T := T)) (Nat.le_of_ble_eq_true rfl) ?_
  unfold channel_Fifo_c1
  refine Abox 2 false [] Q3 F2 (mkS [Cv 0 y0, Kv 1 v1] []) y0 rfl (by kernel_rfl) (by kernel_rfl) ?_
  refine Kjoin (fun x_1 => rn S (callL S T) (finC [.s 3]) (.ops false [] Q2) F1 (mkS [Bv 13 x_1] [Xb 2 y0])) ?_ fun x_1 => ?_
  · refine KifA (n := 9) (fo' := .ops false [] Q1) (fs' := F1) (t := (y0.kind == 3)) (A := fun bb => (mkS [Kv 1 v1, Pv 2, Bv 7 bb] [Xb 2 y0])) (by kernel_rfl) ?_ ?_
    · exact Kend (n := 6) (by kernel_rfl) rfl
    · exact Kend (n := 6) (by kernel_rfl) rfl
  · exact Kfin (by kernel_rfl)
theorem channel_Fifo_c1_fun {S : Sys} {T : Tab} [F_channel_Fifo_c1 S T] : Fun S (callL S T) (S.N 32) (fun z : Event × Event => [enc z.1, .fptr (cells z.2)]) (fun r : Bool => [.bool r]) (fun z => channel_Fifo_c1 z.1 z.2) true where
  k := F_channel_Fifo_c1.k (S := S) (T := T)
  h z := channel_Fifo_c1_ok z.1 z.2
  l z := by simp
  r r := by simp
  s h r := by kernel_rfl
namespace channel_Fifo
def Q6 : List RO := o2 3 (.a .box) [0] [0] ::
 o1 6 (.k (.bool false)) [6] ::
 o1 7 (.k (.int .i64 0)) [7] ::
 []
def Q5 : List RO := o2 17 .c [.f 31, 14, 15, 16] [14,15,16] ::
 o1 8 17 [17] ::
 []
def C1 : RC := .cond (.s 19) (.seq (.ops (o1 20 8 [8] ::
 o1 6 (.k (.bool false)) [] ::
 o1 7 20 [20] ::
 [])) (.gh (.keep [6,7] []) (.ret))) (.skip)
def U1 : RC := .seq (.ops (o1 18 8 [] ::
 o2 19 (bI .neq) [18, .k (.int .i64 0)] [18] ::
 [])) (C1)
def Q3 : List RO := o2 27 ln [26] [] ::
 o1 28 (.k (.int .i64 0)) [] ::
 []
def Q4 : List RO := o2 24 (ix 3) [22, 23] [22,23] ::
 o2 25 (fa 2) [24] [24] ::
 o2 26 (ld 1) [25] [25] ::
 Q3
def C2 : RC := .cond (.s 29) (.skip) (.gh (.keep [] []) (.exit 0))
def Q9 : List RO := oz (su 5) [12, 31] [31] ::
 []
def Q10 : List RO := o2 30 (ix 5) [26, 28] [] ::
 o2 31 (lD 5) [30] [30] ::
 o2 12 (.a (.alloc 5 [.int .i64 0, .int .i64 0, .int .i64 0, .int .i64 0, .nsl])) [] [] ::
 Q9
def Q1 : List RO := o3 36 35 false (fa 1) [12] [] ::
 o3 37 35 false (ld 1) [36] [36] ::
 o3 38 35 false (.p (.id)) [2] [] ::
 o3 39 35 false (bI .neq) [37, 38] [37,38] ::
 o2 40 (.p (.pick)) [35, .k (.bool true), 39] [35,39] ::
 []
def C3 : RC := .cond (.s 40) (.exit 1) (.skip)
def Q7 : List RO := o2 48 .c [.f 2, 46, 47] [46,47] ::
 o2 49 (bI .add) [48, .k (.int .i64 1)] [48] ::
 o1 13 49 [49] ::
 []
def Q8 : List RO := o2 44 (ix 3) [42, 43] [42,43] ::
 o2 45 (fa 2) [44] [44] ::
 o2 46 (ld 1) [45] [45] ::
 o2 47 (.p (.clo 32 0)) [12] [12] ::
 Q7
def C4 : RC := .cond (.s 51) (.seq (.ops (o1 10 (.k (.bool true)) [] ::
 [])) (.exit 1)) (.skip)
def Q2 : List RO := o3 54 53 false (.p (.id)) [13] [] ::
 o3 55 53 false (.p (.id)) [9] [9] ::
 o3 56 53 false (bI .lss) [54, 55] [54,55] ::
 o2 57 (.p (.pick)) [53, .k (.bool true), 56] [53,56] ::
 []
def C5 : RC := .cond (.s 57) (.seq (.ops (o1 6 (.k (.bool false)) [] ::
 o1 7 (.k (.int .i64 0)) [] ::
 [])) (.gh (.keep [6,7] []) (.ret))) (.skip)
def U2 : RC := .ops (o1 58 13 [13] ::
 o1 9 58 [58] ::
 [])
def U3 : RC := .seq (.seq (.ops (o1 52 10 [] ::
 o1 53 52 [52] ::
 Q2)) (C5)) (U2)
def U4 : RC := .seq (.seq (.ops (o1 50 13 [] ::
 o2 51 (bI .eql) [50, .k (.int .i64 0)] [50] ::
 [])) (C4)) (U3)
def U5 : RC := .seq (.ops (o2 41 (fa 0) [3] [] ::
 o2 42 (ld 1) [41] [41] ::
 o1 43 2 [] ::
 Q8)) (U4)
def U6 : RC := .seq (.seq (.ops (o2 32 (fa 0) [12] [] ::
 o2 33 (ld 1) [32] [32] ::
 o2 34 (bI .neq) [33, .k (.int .i64 2)] [33] ::
 o1 35 34 [34] ::
 Q1)) (C3)) (U5)
def U7 : RC := .ops (o2 59 (bI .add) [28, .k (.int .i64 1)] [28] ::
 o1 28 59 [59] ::
 [])
def U8 : RC := .seq (.block 1 (.seq (.ops Q10) (U6))) (U7)
def tW1 : RC := .hg (.seq (.ops (o2 29 (bI .lss) [28, 27] [] ::
 [])) (.seq (C2) (U8))) (.keep [2,3,9,10,26,27,28] [3])
def U9 : RC := .block 0 (.gh (.keep [2,3,9,10,26,27,28] [3]) (.loop tW1))
def U10 : RC := .seq (.ops (o1 6 (.k (.bool true)) [] ::
 o1 7 (.k (.int .i64 0)) [] ::
 [])) (.gh (.keep [6,7] []) (.ret))
def U11 : RC := .seq (.seq (.ops (o2 21 (fa 0) [3] [] ::
 o2 22 (ld 1) [21] [21] ::
 o1 23 1 [1] ::
 Q4)) (U9)) (U10)
def U12 : RC := .seq (.ops (o1 9 (.k (.int .i64 0)) [] ::
 o1 10 (.k (.bool false)) [] ::
 [])) (U11)
def U13 : RC := .seq (.seq (.ops (o2 14 (lD 1) [3] [] ::
 o1 15 1 [] ::
 o1 16 2 [] ::
 Q5)) (U1)) (U12)
def text : RF := ⟨60, [.s 6, .s 7], .seq (.ops Q6) (U13)⟩
def F4 : List Fm := [.seq U12]
def F6 : List Fm := [.seq U13]
def F3 : List Fm := [.seq U9, .seq U10]
def F5 : List Fm := .seq U1 :: F4
def F12 : List Fm := [.seq U8, .gst (.keep [2,3,9,10,26,27,28] [3])]
def F13 : List Fm := [.blk 0, .seq U10]
def F7 : List Fm := [.seq U2, .blk 1, .seq U7, .gst (.keep [2,3,9,10,26,27,28] [3])]
def F8 : List Fm := [.seq U3, .blk 1, .seq U7, .gst (.keep [2,3,9,10,26,27,28] [3])]
def F9 : List Fm := [.seq U4, .blk 1, .seq U7, .gst (.keep [2,3,9,10,26,27,28] [3])]
def F10 : List Fm := [.seq U5, .blk 1, .seq U7, .gst (.keep [2,3,9,10,26,27,28] [3])]
def F11 : List Fm := [.seq U6, .blk 1, .seq U7, .gst (.keep [2,3,9,10,26,27,28] [3])]
def F1 : List Fm := .seq C3 :: F10
def F2 : List Fm := .seq C5 :: F7
end channel_Fifo
class F_channel_Fifo (S : Sys) (T : Tab) : Prop where
  t : T (S.N 33) = some channel_Fifo.text
  k : S.E.keep (S.N 33) = false
  c0 : F_channel_Fifo_c1 S T
  c1 : F_channel_check S T
  c2 : F_slices_IndexFunc_Event S T
attribute [instance] F_channel_Fifo.c0 F_channel_Fifo.c1 F_channel_Fifo.c2
namespace channel_Fifo
section
variable {S : Sys} {T : Tab} [F_channel_Fifo S T]
noncomputable def W1_step (q2 : Int) (v26 : Sl Event) (v27 : Int) (tb3 : Trace) (last9 : Int) (missing10 : Bool) (v28 : Int) : Option (Fw (Int × Bool × Int) Unit Unit) :=
 cif (decide (v28 < v27))
 ((idx v26 v28).bind fun x_1 =>
 (cif (x_1.kind == 2)
 (some (!(x_1.peer == q2)))
 (some true) : Option Bool).bind fun x_2 =>
 cif x_2
 (some (.n (last9, missing10, IntKind.wrap .i64 (v28 + 1))))
 ((idx tb3.procs q2).bind fun x_3 =>
 (slices_IndexFunc_Event x_3.events (fun z => channel_Fifo_c1 z x_1)).bind fun x_4 =>
 cif ((IntKind.wrap .i64 (x_4 + 1)) == 0)
 (some (.n (last9, true, IntKind.wrap .i64 (v28 + 1))))
 ((cif missing10
 (some true)
 (some (decide ((IntKind.wrap .i64 (x_4 + 1)) < last9))) : Option Bool).bind fun x_5 =>
 cif x_5
 (some (.r ()))
 (some (.n (IntKind.wrap .i64 (x_4 + 1), missing10, IntKind.wrap .i64 (v28 + 1)))))))
 (some (.x ()))
noncomputable def W1 (q2 : Int) (last9 : Int) (missing10 : Bool) (v26 : Sl Event) (v27 : Int) (v28 : Int) (tb3 : Trace) : Option (Bool × Int) :=
 (wloop (fun q : Int × Bool × Int => W1_step q2 v26 v27 tb3 q.1 q.2.1 q.2.2) (last9, missing10, v28)).bind (Fw.elim
 (fun e => some (true, 0))
 (fun e => some (false, 0)))
def W1_s (S : Sys) (q2 : Int) (v26 : Sl Event) (v27 : Int) (tb3 : Trace) : Int × Bool × Int → St := fun q => (mkS [Iv 2 q2, Pv 3, Iv 9 q.1, Bv 10 q.2.1, Cv 26 v26, Iv 27 v27, Iv 28 q.2.2] [Xb 3 tb3])
def W1_e (S : Sys) (q2 : Int) (v26 : Sl Event) (v27 : Int) (tb3 : Trace) : Unit → Nat × St := fun e => (0, (mkS [] []))
def W1_r (S : Sys) (q2 : Int) (v26 : Sl Event) (v27 : Int) (tb3 : Trace) : Unit → St := fun e => (mkS [Bv 6 false, Iv 7 0] [])
theorem W1_step_ok (q2 : Int) (v26 : Sl Event) (v27 : Int) (tb3 : Trace) (last9 : Int) (missing10 : Bool) (v28 : Int) : Le ((W1_step q2 v26 v27 tb3 last9 missing10 v28).bind (fun w => some (Fw.out (W1_s S q2 v26 v27 tb3) (W1_e S q2 v26 v27 tb3) (W1_r S q2 v26 v27 tb3) w))) (rn S (callL S T) some (.rc tW1) [] (mkS [Iv 2 q2, Pv 3, Iv 9 last9, Bv 10 missing10, Cv 26 v26, Iv 27 v27, Iv 28 v28] [Xb 3 tb3])) := by
  unfold W1_step
  refine KifA (n := 7) (fo' := .rc C2) (fs' := F12) (t := decide (v28 < v27)) (A := fun bb => (mkS [Iv 2 q2, Pv 3, Iv 9 last9, Bv 10 missing10, Cv 26 v26, Iv 27 v27, Iv 28 v28, Bv 29 bb] [Xb 3 tb3])) (by kernel_rfl) ?_ ?_
  · refine Aidx 7 false [] Q10 F11 (mkS [Iv 2 q2, Pv 3, Iv 9 last9, Bv 10 missing10, Cv 26 v26, Iv 27 v27, Iv 28 v28, Bv 29 true] [Xb 3 tb3]) .i64 rfl (by kernel_rfl) fun x_1 h_1 => ?_
    refine Ast 2 false [] Q9 F11 (mkS [Iv 2 q2, Pv 3, Iv 9 last9, Bv 10 missing10, Cv 26 v26, Iv 27 v27, Iv 28 v28, Bv 29 true, Cv 31 x_1, Pv 12] [Xb 3 tb3, Xb 12 (⟨0, 0, 0, 0, Sl.nil⟩ : Event)]) 12 0 x_1 [iv 0, iv 0, iv 0, iv 0, .v .nsl] [iv x_1.kind, iv x_1.peer, iv x_1.message, iv x_1.time, cv x_1.assign] rfl (by kernel_rfl) ?_
    refine Kjoin (fun x_2 => rn S (callL S T) some (.ops false [] []) F1 (mkS [Iv 2 q2, Pv 3, Iv 9 last9, Bv 10 missing10, Cv 26 v26, Iv 27 v27, Iv 28 v28, Bv 29 true, Pv 12, Bv 40 x_2] [Xb 3 tb3, Xb 12 x_1])) ?_ fun x_2 => ?_
    · refine KifA (n := 9) (fo' := .ops false [] Q1) (fs' := F1) (t := (x_1.kind == 2)) (A := fun bb => (mkS [Iv 2 q2, Pv 3, Iv 9 last9, Bv 10 missing10, Cv 26 v26, Iv 27 v27, Iv 28 v28, Bv 29 true, Pv 12, Bv 35 (!bb)] [Xb 3 tb3, Xb 12 x_1])) (by kernel_rfl) ?_ ?_
      · exact Kend (n := 5) (by kernel_rfl) rfl
      · exact Kend (n := 5) (by kernel_rfl) rfl
    · refine KifA (n := 2) (fo' := .rc C3) (fs' := F10) (t := x_2) (A := fun bb => (mkS [Iv 2 q2, Pv 3, Iv 9 last9, Bv 10 missing10, Cv 26 v26, Iv 27 v27, Iv 28 v28, Bv 29 true, Pv 12, Bv 40 bb] [Xb 3 tb3, Xb 12 x_1])) (by kernel_rfl) ?_ ?_
      · exact Kfin (by kernel_rfl)
      · refine Aidx 8 false [] Q8 F9 (mkS [Iv 2 q2, Pv 3, Iv 9 last9, Bv 10 missing10, Cv 26 v26, Iv 27 v27, Iv 28 v28, Bv 29 true, Pv 12, Bv 40 false, Cv 42 tb3.procs, Iv 43 q2] [Xb 3 tb3, Xb 12 x_1]) .i64 rfl (by kernel_rfl) fun x_3 h_3 => ?_
        refine AcallS 3 false [] Q7 F9 (mkS [Iv 2 q2, Pv 3, Iv 9 last9, Bv 10 missing10, Cv 26 v26, Iv 27 v27, Iv 28 v28, Bv 29 true, Bv 40 false, Cv 46 x_3.events, (47, .clo (S.N 32) [] [.ptr 12 0])] [Xb 3 tb3, Xb 12 x_1]) (slices_IndexFunc_Event_fun (S := S) (T := T) (S.N 32) [.fptr (cells x_1)] (fun z => channel_Fifo_c1 z x_1) (FnP.of (channel_Fifo_c1_fun (S := S) (T := T)) (fun z => (z, x_1)) (fun _ => rfl) (fun _ => rfl) (by simp))) x_3.events [.v (.clo (S.N 2) [] []), cv x_3.events, .clo (S.N 32) [] [.ptr 12 0]] [cv x_3.events, .clo (S.N 32) [] [.ptr 12 0]] rfl (by kernel_rfl) fun x_4 h_4 => ?_
        refine KifA (n := 11) (fo' := .rc C4) (fs' := F8) (t := ((IntKind.wrap .i64 (x_4 + 1)) == 0)) (A := fun bb => (mkS [Iv 2 q2, Pv 3, Iv 9 last9, Bv 10 missing10, Cv 26 v26, Iv 27 v27, Iv 28 v28, Bv 29 true, Bv 40 false, Iv 13 (IntKind.wrap .i64 (x_4 + 1)), Bv 51 bb] [Xb 3 tb3, Xb 12 x_1])) (by kernel_rfl) ?_ ?_
        · exact Kfin (by kernel_rfl)
        · refine Kjoin (fun x_5 => rn S (callL S T) some (.ops false [] []) F2 (mkS [Iv 2 q2, Pv 3, Bv 10 missing10, Cv 26 v26, Iv 27 v27, Iv 28 v28, Bv 29 true, Bv 40 false, Iv 13 (IntKind.wrap .i64 (x_4 + 1)), Bv 51 false, Bv 57 x_5] [Xb 3 tb3, Xb 12 x_1])) ?_ fun x_5 => ?_
          · refine KifA (n := 8) (fo' := .ops false [] Q2) (fs' := F2) (t := missing10) (A := fun bb => (mkS [Iv 2 q2, Pv 3, Iv 9 last9, Bv 10 missing10, Cv 26 v26, Iv 27 v27, Iv 28 v28, Bv 29 true, Bv 40 false, Iv 13 (IntKind.wrap .i64 (x_4 + 1)), Bv 51 false, Bv 53 bb] [Xb 3 tb3, Xb 12 x_1])) (by kernel_rfl) ?_ ?_
            · exact Kend (n := 4) (by kernel_rfl) rfl
            · exact Kend (n := 4) (by kernel_rfl) rfl
          · refine KifA (n := 2) (fo' := .rc C5) (fs' := F7) (t := x_5) (A := fun bb => (mkS [Iv 2 q2, Pv 3, Bv 10 missing10, Cv 26 v26, Iv 27 v27, Iv 28 v28, Bv 29 true, Bv 40 false, Iv 13 (IntKind.wrap .i64 (x_4 + 1)), Bv 51 false, Bv 57 bb] [Xb 3 tb3, Xb 12 x_1])) (by kernel_rfl) ?_ ?_
            · exact Kfin (by kernel_rfl)
            · exact Kfin (by kernel_rfl)
  · exact Kfin (by kernel_rfl)
theorem W1_ok (q2 : Int) (last9 : Int) (missing10 : Bool) (v26 : Sl Event) (v27 : Int) (v28 : Int) (tb3 : Trace) : Le ((W1 q2 last9 missing10 v26 v27 v28 tb3).bind (fun r => some [.bool r.1, .int .i64 r.2])) (rn S (callL S T) (finC [.s 6, .s 7]) (.rc (.loop tW1)) F13 (mkS [Iv 2 q2, Pv 3, Iv 9 last9, Bv 10 missing10, Cv 26 v26, Iv 27 v27, Iv 28 v28] [Xb 3 tb3])) := by
  unfold W1
  refine KloopA (n := 0) (fs := F13) (a := tW1) (eσ := W1_s S q2 v26 v27 tb3) (eε := W1_e S q2 v26 v27 tb3) (eρ := W1_r S q2 v26 v27 tb3) (by kernel_rfl) (fun q => W1_step_ok q2 v26 v27 tb3 q.1 q.2.1 q.2.2) ?_ ?_
  · intro e
    exact Kfin (by kernel_rfl)
  · intro e
    exact Kfin (by kernel_rfl)
end
end channel_Fifo
noncomputable def channel_Fifo (t0 : Trace) (p1 : Int) (q2 : Int) : Option (Bool × Int) :=
 (channel_check t0 p1 q2).bind fun x_1 =>
 cif (x_1 == 0)
 ((idx t0.procs p1).bind fun x_2 =>
 channel_Fifo.W1 q2 0 false x_2.events (len x_2.events) 0 t0)
 (some (false, x_1))
open channel_Fifo in
theorem channel_Fifo_ok {S : Sys} {T : Tab} [F_channel_Fifo S T] (t0 : Trace) (p1 : Int) (q2 : Int) : Le ((channel_Fifo t0 p1 q2).bind fun r => some [.bool r.1, .int .i64 r.2]) (callC (callL S T) (S.N 33) [enc t0, .int .i64 p1, .int .i64 q2]) := by
  refine Kfun (F_channel_Fifo.t (S := S) (T := T)) (Nat.le_of_ble_eq_true rfl) ?_
  unfold channel_Fifo
  refine Abox 2 false [] Q6 F6 (mkS [Cv 0 t0, Iv 1 p1, Iv 2 q2] []) t0 rfl (by kernel_rfl) (by kernel_rfl) ?_
  refine AcallV 10 [] Q5 F5 (mkS [Iv 1 p1, Iv 2 q2, Pv 3, Cv 14 t0, Iv 15 p1, Iv 16 q2] [Xb 3 t0]) (channel_check_fun (S := S) (T := T)) (t0, p1, q2) rfl (by kernel_rfl) fun x_1 h_1 => ?_
  refine KifA (n := 9) (fo' := .rc C1) (fs' := F4) (t := (x_1 == 0)) (A := fun bb => (mkS [Iv 1 p1, Iv 2 q2, Pv 3, Iv 8 x_1, Bv 19 (!bb)] [Xb 3 t0])) (by kernel_rfl) ?_ ?_
  · refine Aidx 15 false [] Q4 F3 (mkS [Iv 2 q2, Pv 3, Iv 8 x_1, Bv 19 false, Iv 9 0, Bv 10 false, Cv 22 t0.procs, Iv 23 p1] [Xb 3 t0]) .i64 rfl (by kernel_rfl) fun x_2 h_2 => ?_
    refine Alen 2 false [] Q3 F3 (mkS [Iv 2 q2, Pv 3, Iv 8 x_1, Bv 19 false, Iv 9 0, Bv 10 false, Cv 26 x_2.events] [Xb 3 t0]) x_2.events rfl (by kernel_rfl) ?_
    exact Kadv (n := 5) (by kernel_rfl) (W1_ok q2 0 false x_2.events (len x_2.events) 0 t0)
  · exact Kfin (by kernel_rfl)
theorem channel_Fifo_fun {S : Sys} {T : Tab} [F_channel_Fifo S T] : Fun S (callL S T) (S.N 33) (fun z : Trace × Int × Int => [enc z.1, .int .i64 z.2.1, .int .i64 z.2.2]) (fun r : Bool × Int => [.bool r.1, .int .i64 r.2]) (fun z => channel_Fifo z.1 z.2.1 z.2.2) true where
  k := F_channel_Fifo.k (S := S) (T := T)
  h z := channel_Fifo_ok z.1 z.2.1 z.2.2
  l z := by simp
  r r := by simp
  s h r := by kernel_rfl
namespace trace_Fifo
def Q6 : List RO := o2 1 (.a .box) [0] [0] ::
 o1 2 (.k (.bool false)) [2] ::
 []
def Q5 : List RO := o2 14 .c [.f 30, 13] [13] ::
 o2 15 (.p (.not)) [14] [14] ::
 []
def C1 : RC := .cond (.s 15) (.seq (.ops (o1 2 (.k (.bool false)) [] ::
 [])) (.gh (.keep [2] []) (.ret))) (.skip)
def Q4 : List RO := o2 18 .c [.f 26, 17] [17] ::
 o1 16 18 [18] ::
 o2 19 (.p (.ext 0)) [16] [] ::
 o2 20 (.p (.ext 1)) [16] [] ::
 o2 21 (.p (.ext 2)) [16] [16] ::
 o2 4 (.a (.alloc 2 [.int .i64 0, .int .i64 0])) [] [] ::
 o1 3 19 [19] ::
 oz (su 2) [4, 20] [4,20] ::
 o1 5 21 [5,21] ::
 []
def Q3 : List RO := o2 24 ln [23] [23] ::
 o1 25 (.k (.int .i64 0)) [] ::
 []
def C2 : RC := .cond (.s 26) (.skip) (.gh (.keep [] []) (.exit 0))
def Q7 : List RO := o2 30 ln [29] [29] ::
 o1 31 (.k (.int .i64 0)) [] ::
 []
def C3 : RC := .cond (.s 32) (.skip) (.gh (.keep [1,3,24,25] [1]) (.exit 2))
def Q8 : List RO := o2 40 ln [39] [] ::
 o1 41 (.k (.int .i64 0)) [] ::
 []
def Q9 : List RO := o2 37 (ix 3) [35, 36] [35,36] ::
 o2 38 (fa 2) [37] [37] ::
 o2 39 (ld 1) [38] [38] ::
 Q8
def C4 : RC := .cond (.s 42) (.skip) (.gh (.keep [1,3,6,24,25,30,31] [1]) (.exit 4))
def Q15 : List RO := oz (su 5) [11, 44] [44] ::
 []
def Q16 : List RO := o2 43 (ix 5) [39, 41] [] ::
 o2 44 (lD 5) [43] [43] ::
 o2 11 (.a (.alloc 5 [.int .i64 0, .int .i64 0, .int .i64 0, .int .i64 0, .nsl])) [] [] ::
 Q15
def Q1 : List RO := o3 49 48 false (fa 1) [11] [] ::
 o3 50 48 false (ld 1) [49] [49] ::
 o3 51 48 false (.p (.id)) [7] [] ::
 o3 52 48 false (bI .neq) [50, 51] [50,51] ::
 o2 53 (.p (.pick)) [48, .k (.bool true), 52] [48,52] ::
 []
def C5 : RC := .cond (.s 53) (.exit 5) (.skip)
def Q10 : List RO := on 61 (ld 1) [60] [60] ::
 on 12 (.p (.id)) [61] [61] ::
 []
def Q11 : List RO := on 60 (fa 1) [59] [59] ::
 Q10
def Q12 : List RO := on 59 (fa 2) [58] [58] ::
 Q11
def Q13 : List RO := on 58 (.p (.idxA 200 4)) [57, 56] [56,57] ::
 Q12
def Q14 : List RO := o2 57 (.p (.nilc)) [54] [54] ::
 Q13
def C6 : RC := .cond (.s 63) (.seq (.ops (o1 9 (.k (.bool true)) [] ::
 [])) (.exit 5)) (.skip)
def Q2 : List RO := o3 66 65 false (.p (.id)) [12] [] ::
 o3 67 65 false (.p (.id)) [8] [8] ::
 o3 68 65 false (bI .lss) [66, 67] [66,67] ::
 o2 69 (.p (.pick)) [65, .k (.bool true), 68] [65,68] ::
 []
def C7 : RC := .cond (.s 69) (.seq (.ops (o1 2 (.k (.bool false)) [] ::
 [])) (.gh (.keep [2] []) (.ret))) (.skip)
def U1 : RC := .ops (o1 70 12 [12] ::
 o1 8 70 [70] ::
 [])
def U2 : RC := .seq (.seq (.ops (o1 64 9 [] ::
 o1 65 64 [64] ::
 Q2)) (C7)) (U1)
def U3 : RC := .seq (.seq (.ops (o1 62 12 [] ::
 o2 63 (bI .eql) [62, .k (.int .i64 0)] [62] ::
 [])) (C6)) (U2)
def U4 : RC := .seq (.reg (o1 54 3 [] ::
 on 55 (fa 2) [11] [11] ::
 on 56 (ld 1) [55] [55] ::
 Q14)) (U3)
def U5 : RC := .seq (.seq (.ops (o2 45 (fa 0) [11] [] ::
 o2 46 (ld 1) [45] [45] ::
 o2 47 (bI .neq) [46, .k (.int .i64 2)] [46] ::
 o1 48 47 [47] ::
 Q1)) (C5)) (U4)
def U6 : RC := .ops (o2 71 (bI .add) [41, .k (.int .i64 1)] [41] ::
 o1 41 71 [71] ::
 [])
def U7 : RC := .seq (.block 5 (.seq (.ops Q16) (U5))) (U6)
def tW3 : RC := .hg (.seq (.ops (o2 42 (bI .lss) [41, 40] [] ::
 [])) (.seq (C4) (U7))) (.keep [1,3,6,7,8,9,24,25,30,31,39,40,41] [1])
def U8 : RC := .block 4 (.gh (.keep [1,3,6,7,8,9,24,25,30,31,39,40,41] [1]) (.loop tW3))
def U9 : RC := .seq (.ops (o2 34 (fa 0) [1] [] ::
 o2 35 (ld 1) [34] [34] ::
 o1 36 6 [] ::
 Q9)) (U8)
def U10 : RC := .seq (.ops (o1 8 (.k (.int .i64 0)) [] ::
 o1 9 (.k (.bool false)) [] ::
 [])) (U9)
def U11 : RC := .ops (o2 72 (bI .add) [31, .k (.int .i64 1)] [31] ::
 o1 31 72 [72] ::
 [])
def U12 : RC := .seq (.block 3 (.seq (.ops (o1 33 31 [] ::
 o1 7 33 [33] ::
 [])) (U10))) (U11)
def tW2 : RC := .hg (.seq (.ops (o2 32 (bI .lss) [31, 30] [] ::
 [])) (.seq (C3) (U12))) (.keep [1,3,6,24,25,30,31] [1])
def U13 : RC := .block 2 (.gh (.keep [1,3,6,24,25,30,31] [1]) (.loop tW2))
def U14 : RC := .seq (.ops (o2 28 (fa 0) [1] [] ::
 o2 29 (ld 1) [28] [28] ::
 Q7)) (U13)
def U15 : RC := .ops (o2 73 (bI .add) [25, .k (.int .i64 1)] [25] ::
 o1 25 73 [73] ::
 [])
def U16 : RC := .seq (.block 1 (.seq (.ops (o1 27 25 [] ::
 o1 6 27 [27] ::
 [])) (U14))) (U15)
def tW1 : RC := .hg (.seq (.ops (o2 26 (bI .lss) [25, 24] [] ::
 [])) (.seq (C2) (U16))) (.keep [1,3,24,25] [1])
def U17 : RC := .block 0 (.gh (.keep [1,3,24,25] [1]) (.loop tW1))
def U18 : RC := .seq (.ops (o1 2 (.k (.bool true)) [] ::
 [])) (.gh (.keep [2] []) (.ret))
def U19 : RC := .seq (.seq (.ops (o2 22 (fa 0) [1] [] ::
 o2 23 (ld 1) [22] [22] ::
 Q3)) (U17)) (U18)
def U20 : RC := .seq (.ops (o2 17 (lD 1) [1] [] ::
 Q4)) (U19)
def U21 : RC := .seq (.seq (.ops (o2 13 (lD 1) [1] [] ::
 Q5)) (C1)) (U20)
def text : RF := ⟨74, [.s 2], .seq (.ops Q6) (U21)⟩
def F4 : List Fm := [.seq U19]
def F5 : List Fm := [.seq U20]
def F7 : List Fm := [.seq U21]
def F3 : List Fm := [.seq U17, .seq U18]
def F6 : List Fm := .seq C1 :: F5
def F9 : List Fm := [.seq U16, .gst (.keep [1,3,24,25] [1])]
def F11 : List Fm := [.seq U12, .gst (.keep [1,3,6,24,25,30,31] [1])]
def F17 : List Fm := [.seq U7, .gst (.keep [1,3,6,7,8,9,24,25,30,31,39,40,41] [1])]
def F20 : List Fm := [.blk 0, .seq U18]
def F8 : List Fm := [.seq U13, .blk 1, .seq U15, .gst (.keep [1,3,24,25] [1])]
def F10 : List Fm := [.seq U8, .blk 3, .seq U11, .gst (.keep [1,3,6,24,25,30,31] [1])]
def F12 : List Fm := [.seq U1, .blk 5, .seq U6, .gst (.keep [1,3,6,7,8,9,24,25,30,31,39,40,41] [1])]
def F13 : List Fm := [.seq U2, .blk 5, .seq U6, .gst (.keep [1,3,6,7,8,9,24,25,30,31,39,40,41] [1])]
def F14 : List Fm := [.seq U3, .blk 5, .seq U6, .gst (.keep [1,3,6,7,8,9,24,25,30,31,39,40,41] [1])]
def F15 : List Fm := [.seq U4, .blk 5, .seq U6, .gst (.keep [1,3,6,7,8,9,24,25,30,31,39,40,41] [1])]
def F16 : List Fm := [.seq U5, .blk 5, .seq U6, .gst (.keep [1,3,6,7,8,9,24,25,30,31,39,40,41] [1])]
def F18 : List Fm := [.blk 4, .blk 3, .seq U11, .gst (.keep [1,3,6,24,25,30,31] [1])]
def F19 : List Fm := [.blk 2, .blk 1, .seq U15, .gst (.keep [1,3,24,25] [1])]
def F1 : List Fm := .seq C5 :: F15
def F2 : List Fm := .seq C7 :: F12
end trace_Fifo
class F_trace_Fifo (S : Sys) (T : Tab) : Prop where
  t : T (S.N 34) = some trace_Fifo.text
  k : S.E.keep (S.N 34) = false
  c0 : F_trace_Valid S T
  c1 : F_trace_messageFault S T
attribute [instance] F_trace_Fifo.c0 F_trace_Fifo.c1
namespace trace_Fifo
section
variable {S : Sys} {T : Tab} [F_trace_Fifo S T]
noncomputable def W3_step (p6 : Int) (q7 : Int) (v24 : Int) (v25 : Int) (v30 : Int) (v31 : Int) (v39 : Sl Event) (v40 : Int) (tb1 : Trace) (l3 : Option (Arr 200 AnFromTo)) (last8 : Int) (missing9 : Bool) (v41 : Int) : Option (Fw ((Option (Arr 200 AnFromTo)) × Int × Bool × Int) (Option (Arr 200 AnFromTo)) Unit) :=
 cif (decide (v41 < v40))
 ((idx v39 v41).bind fun x_1 =>
 (cif (x_1.kind == 2)
 (some (!(x_1.peer == q7)))
 (some true) : Option Bool).bind fun x_2 =>
 cif x_2
 (some (.n (l3, last8, missing9, IntKind.wrap .i64 (v41 + 1))))
 ((l3).bind fun x_3 =>
 (Arr.at x_3 x_1.message).bind fun x_4 =>
 cif (x_4.to_.index == 0)
 (some (.n ((some x_3 : Option (Arr 200 AnFromTo)), last8, true, IntKind.wrap .i64 (v41 + 1))))
 ((cif missing9
 (some true)
 (some (decide (x_4.to_.index < last8))) : Option Bool).bind fun x_5 =>
 cif x_5
 (some (.r ()))
 (some (.n ((some x_3 : Option (Arr 200 AnFromTo)), x_4.to_.index, missing9, IntKind.wrap .i64 (v41 + 1)))))))
 (some (.x l3))
noncomputable def W3 (l3 : Option (Arr 200 AnFromTo)) (p6 : Int) (q7 : Int) (last8 : Int) (missing9 : Bool) (v24 : Int) (v25 : Int) (v30 : Int) (v31 : Int) (v39 : Sl Event) (v40 : Int) (v41 : Int) (tb1 : Trace) : Option (Fw ((Option (Arr 200 AnFromTo)) × Int) (Option (Arr 200 AnFromTo)) Unit) :=
 (wloop (fun q : (Option (Arr 200 AnFromTo)) × Int × Bool × Int => W3_step p6 q7 v24 v25 v30 v31 v39 v40 tb1 q.1 q.2.1 q.2.2.1 q.2.2.2) (l3, last8, missing9, v41)).bind (Fw.elim
 (fun e => some (.n (e, IntKind.wrap .i64 (v31 + 1))))
 (fun e => some (.r ())))
def W3_s (S : Sys) (p6 : Int) (q7 : Int) (v24 : Int) (v25 : Int) (v30 : Int) (v31 : Int) (v39 : Sl Event) (v40 : Int) (tb1 : Trace) : (Option (Arr 200 AnFromTo)) × Int × Bool × Int → St := fun q => (mkS [Pv 1, Cv 3 q.1, Iv 6 p6, Iv 7 q7, Iv 8 q.2.1, Bv 9 q.2.2.1, Iv 24 v24, Iv 25 v25, Iv 30 v30, Iv 31 v31, Cv 39 v39, Iv 40 v40, Iv 41 q.2.2.2] [Xb 1 tb1])
def W3_e (S : Sys) (p6 : Int) (q7 : Int) (v24 : Int) (v25 : Int) (v30 : Int) (v31 : Int) (v39 : Sl Event) (v40 : Int) (tb1 : Trace) : (Option (Arr 200 AnFromTo)) → Nat × St := fun e => (4, (mkS [Pv 1, Cv 3 e, Iv 6 p6, Iv 24 v24, Iv 25 v25, Iv 30 v30, Iv 31 v31] [Xb 1 tb1]))
def W3_r (S : Sys) (p6 : Int) (q7 : Int) (v24 : Int) (v25 : Int) (v30 : Int) (v31 : Int) (v39 : Sl Event) (v40 : Int) (tb1 : Trace) : Unit → St := fun e => (mkS [Bv 2 false] [])
noncomputable def W2_step (p6 : Int) (v24 : Int) (v25 : Int) (v30 : Int) (tb1 : Trace) (l3 : Option (Arr 200 AnFromTo)) (v31 : Int) : Option (Fw ((Option (Arr 200 AnFromTo)) × Int) (Option (Arr 200 AnFromTo)) Unit) :=
 cif (decide (v31 < v30))
 ((idx tb1.procs p6).bind fun x_1 =>
 W3 l3 p6 v31 0 false v24 v25 v30 v31 x_1.events (len x_1.events) 0 tb1)
 (some (.x l3))
noncomputable def W2 (l3 : Option (Arr 200 AnFromTo)) (p6 : Int) (v24 : Int) (v25 : Int) (v30 : Int) (v31 : Int) (tb1 : Trace) : Option (Fw ((Option (Arr 200 AnFromTo)) × Int) Unit Unit) :=
 (wloop (fun q : (Option (Arr 200 AnFromTo)) × Int => W2_step p6 v24 v25 v30 tb1 q.1 q.2) (l3, v31)).bind (Fw.elim
 (fun e => some (.n (e, IntKind.wrap .i64 (v25 + 1))))
 (fun e => some (.r ())))
def W2_s (S : Sys) (p6 : Int) (v24 : Int) (v25 : Int) (v30 : Int) (tb1 : Trace) : (Option (Arr 200 AnFromTo)) × Int → St := fun q => (mkS [Pv 1, Cv 3 q.1, Iv 6 p6, Iv 24 v24, Iv 25 v25, Iv 30 v30, Iv 31 q.2] [Xb 1 tb1])
def W2_e (S : Sys) (p6 : Int) (v24 : Int) (v25 : Int) (v30 : Int) (tb1 : Trace) : (Option (Arr 200 AnFromTo)) → Nat × St := fun e => (2, (mkS [Pv 1, Cv 3 e, Iv 24 v24, Iv 25 v25] [Xb 1 tb1]))
def W2_r (S : Sys) (p6 : Int) (v24 : Int) (v25 : Int) (v30 : Int) (tb1 : Trace) : Unit → St := fun e => (mkS [Bv 2 false] [])
noncomputable def W1_step (v24 : Int) (tb1 : Trace) (l3 : Option (Arr 200 AnFromTo)) (v25 : Int) : Option (Fw ((Option (Arr 200 AnFromTo)) × Int) Unit Unit) :=
 cif (decide (v25 < v24))
 (W2 l3 v25 v24 v25 (len tb1.procs) 0 tb1)
 (some (.x ()))
noncomputable def W1 (l3 : Option (Arr 200 AnFromTo)) (v24 : Int) (v25 : Int) (tb1 : Trace) : Option Bool :=
 (wloop (fun q : (Option (Arr 200 AnFromTo)) × Int => W1_step v24 tb1 q.1 q.2) (l3, v25)).bind (Fw.elim
 (fun e => some true)
 (fun e => some false))
def W1_s (S : Sys) (v24 : Int) (tb1 : Trace) : (Option (Arr 200 AnFromTo)) × Int → St := fun q => (mkS [Pv 1, Cv 3 q.1, Iv 24 v24, Iv 25 q.2] [Xb 1 tb1])
def W1_e (S : Sys) (v24 : Int) (tb1 : Trace) : Unit → Nat × St := fun e => (0, (mkS [] []))
def W1_r (S : Sys) (v24 : Int) (tb1 : Trace) : Unit → St := fun e => (mkS [Bv 2 false] [])
theorem W3_step_ok (p6 : Int) (q7 : Int) (v24 : Int) (v25 : Int) (v30 : Int) (v31 : Int) (v39 : Sl Event) (v40 : Int) (tb1 : Trace) (l3 : Option (Arr 200 AnFromTo)) (last8 : Int) (missing9 : Bool) (v41 : Int) : Le ((W3_step p6 q7 v24 v25 v30 v31 v39 v40 tb1 l3 last8 missing9 v41).bind (fun w => some (Fw.out (W3_s S p6 q7 v24 v25 v30 v31 v39 v40 tb1) (W3_e S p6 q7 v24 v25 v30 v31 v39 v40 tb1) (W3_r S p6 q7 v24 v25 v30 v31 v39 v40 tb1) w))) (rn S (callL S T) some (.rc tW3) [] (mkS [Pv 1, Cv 3 l3, Iv 6 p6, Iv 7 q7, Iv 8 last8, Bv 9 missing9, Iv 24 v24, Iv 25 v25, Iv 30 v30, Iv 31 v31, Cv 39 v39, Iv 40 v40, Iv 41 v41] [Xb 1 tb1])) := by
  unfold W3_step
  refine KifA (n := 7) (fo' := .rc C4) (fs' := F17) (t := decide (v41 < v40)) (A := fun bb => (mkS [Pv 1, Cv 3 l3, Iv 6 p6, Iv 7 q7, Iv 8 last8, Bv 9 missing9, Iv 24 v24, Iv 25 v25, Iv 30 v30, Iv 31 v31, Cv 39 v39, Iv 40 v40, Iv 41 v41, Bv 42 bb] [Xb 1 tb1])) (by kernel_rfl) ?_ ?_
  · refine Aidx 7 false [] Q16 F16 (mkS [Pv 1, Cv 3 l3, Iv 6 p6, Iv 7 q7, Iv 8 last8, Bv 9 missing9, Iv 24 v24, Iv 25 v25, Iv 30 v30, Iv 31 v31, Cv 39 v39, Iv 40 v40, Iv 41 v41, Bv 42 true] [Xb 1 tb1]) .i64 rfl (by kernel_rfl) fun x_1 h_1 => ?_
    refine Ast 2 false [] Q15 F16 (mkS [Pv 1, Cv 3 l3, Iv 6 p6, Iv 7 q7, Iv 8 last8, Bv 9 missing9, Iv 24 v24, Iv 25 v25, Iv 30 v30, Iv 31 v31, Cv 39 v39, Iv 40 v40, Iv 41 v41, Bv 42 true, Cv 44 x_1, Pv 11] [Xb 1 tb1, Xb 11 (⟨0, 0, 0, 0, Sl.nil⟩ : Event)]) 11 0 x_1 [iv 0, iv 0, iv 0, iv 0, .v .nsl] [iv x_1.kind, iv x_1.peer, iv x_1.message, iv x_1.time, cv x_1.assign] rfl (by kernel_rfl) ?_
    refine Kjoin (fun x_2 => rn S (callL S T) some (.ops false [] []) F1 (mkS [Pv 1, Cv 3 l3, Iv 6 p6, Iv 7 q7, Iv 8 last8, Bv 9 missing9, Iv 24 v24, Iv 25 v25, Iv 30 v30, Iv 31 v31, Cv 39 v39, Iv 40 v40, Iv 41 v41, Bv 42 true, Pv 11, Bv 53 x_2] [Xb 1 tb1, Xb 11 x_1])) ?_ fun x_2 => ?_
    · refine KifA (n := 9) (fo' := .ops false [] Q1) (fs' := F1) (t := (x_1.kind == 2)) (A := fun bb => (mkS [Pv 1, Cv 3 l3, Iv 6 p6, Iv 7 q7, Iv 8 last8, Bv 9 missing9, Iv 24 v24, Iv 25 v25, Iv 30 v30, Iv 31 v31, Cv 39 v39, Iv 40 v40, Iv 41 v41, Bv 42 true, Pv 11, Bv 48 (!bb)] [Xb 1 tb1, Xb 11 x_1])) (by kernel_rfl) ?_ ?_
      · exact Kend (n := 5) (by kernel_rfl) rfl
      · exact Kend (n := 5) (by kernel_rfl) rfl
    · refine KifA (n := 2) (fo' := .rc C5) (fs' := F15) (t := x_2) (A := fun bb => (mkS [Pv 1, Cv 3 l3, Iv 6 p6, Iv 7 q7, Iv 8 last8, Bv 9 missing9, Iv 24 v24, Iv 25 v25, Iv 30 v30, Iv 31 v31, Cv 39 v39, Iv 40 v40, Iv 41 v41, Bv 42 true, Pv 11, Bv 53 bb] [Xb 1 tb1, Xb 11 x_1])) (by kernel_rfl) ?_ ?_
      · exact Kfin (by kernel_rfl)
      · refine KoptA (n := 8) (fo' := .ops true [] Q14) (fs' := F14) (A := fun oo => (mkS [Pv 1, Cv 3 oo, Iv 6 p6, Iv 7 q7, Iv 8 last8, Bv 9 missing9, Iv 24 v24, Iv 25 v25, Iv 30 v30, Iv 31 v31, Cv 39 v39, Iv 40 v40, Iv 41 v41, Bv 42 true, Bv 53 false, Cv 54 oo, Iv 56 x_1.message] [Xb 1 tb1, Xb 11 x_1])) (by kernel_rfl) fun x_3 h_3 => ?_
        refine AidxA 1 true [] Q13 F14 (mkS [Pv 1, Kv 3 x_3, Iv 6 p6, Iv 7 q7, Iv 8 last8, Bv 9 missing9, Iv 24 v24, Iv 25 v25, Iv 30 v30, Iv 31 v31, Cv 39 v39, Iv 40 v40, Iv 41 v41, Bv 42 true, Bv 53 false, Iv 56 x_1.message, Kv 57 x_3] [Xb 1 tb1, Xb 11 x_1]) .i64 rfl (by kernel_rfl) fun x_4 h_4 => ?_
        refine AfaA 0 true [] Q12 F14 (mkS [Pv 1, Kv 3 x_3, Iv 6 p6, Iv 7 q7, Iv 8 last8, Bv 9 missing9, Iv 24 v24, Iv 25 v25, Iv 30 v30, Iv 31 v31, Cv 39 v39, Iv 40 v40, Iv 41 v41, Bv 42 true, Bv 53 false, (58, .v (.fptr (pa x_3 x_1.message)))] [Xb 1 tb1, Xb 11 x_1]) x_3 x_1.message 0 x_4 h_4 rfl (by kernel_rfl) ?_
        refine AfaA 0 true [] Q11 F14 (mkS [Pv 1, Kv 3 x_3, Iv 6 p6, Iv 7 q7, Iv 8 last8, Bv 9 missing9, Iv 24 v24, Iv 25 v25, Iv 30 v30, Iv 31 v31, Cv 39 v39, Iv 40 v40, Iv 41 v41, Bv 42 true, Bv 53 false, (59, .v (.fptr ((pa x_3 x_1.message).drop 2)))] [Xb 1 tb1, Xb 11 x_1]) x_3 x_1.message 2 x_4 h_4 rfl (by kernel_rfl) ?_
        refine AgetA 0 true [] Q10 F14 (mkS [Pv 1, Kv 3 x_3, Iv 6 p6, Iv 7 q7, Iv 8 last8, Bv 9 missing9, Iv 24 v24, Iv 25 v25, Iv 30 v30, Iv 31 v31, Cv 39 v39, Iv 40 v40, Iv 41 v41, Bv 42 true, Bv 53 false, (60, .v (.fptr ((pa x_3 x_1.message).drop 3)))] [Xb 1 tb1, Xb 11 x_1]) x_3 x_1.message 3 x_4 h_4 (by rfl) (.int .i64 x_4.to_.index) rfl (by kernel_rfl) ?_
        refine KifA (n := 10) (fo' := .rc C6) (fs' := F13) (t := (x_4.to_.index == 0)) (A := fun bb => (mkS [Pv 1, Kv 3 x_3, Iv 6 p6, Iv 7 q7, Iv 8 last8, Bv 9 missing9, Iv 24 v24, Iv 25 v25, Iv 30 v30, Iv 31 v31, Cv 39 v39, Iv 40 v40, Iv 41 v41, Bv 42 true, Bv 53 false, Iv 12 x_4.to_.index, Bv 63 bb] [Xb 1 tb1, Xb 11 x_1])) (by kernel_rfl) ?_ ?_
        · exact Kfin (by kernel_rfl)
        · refine Kjoin (fun x_5 => rn S (callL S T) some (.ops false [] []) F2 (mkS [Pv 1, Kv 3 x_3, Iv 6 p6, Iv 7 q7, Bv 9 missing9, Iv 24 v24, Iv 25 v25, Iv 30 v30, Iv 31 v31, Cv 39 v39, Iv 40 v40, Iv 41 v41, Bv 42 true, Bv 53 false, Iv 12 x_4.to_.index, Bv 63 false, Bv 69 x_5] [Xb 1 tb1, Xb 11 x_1])) ?_ fun x_5 => ?_
          · refine KifA (n := 8) (fo' := .ops false [] Q2) (fs' := F2) (t := missing9) (A := fun bb => (mkS [Pv 1, Kv 3 x_3, Iv 6 p6, Iv 7 q7, Iv 8 last8, Bv 9 missing9, Iv 24 v24, Iv 25 v25, Iv 30 v30, Iv 31 v31, Cv 39 v39, Iv 40 v40, Iv 41 v41, Bv 42 true, Bv 53 false, Iv 12 x_4.to_.index, Bv 63 false, Bv 65 bb] [Xb 1 tb1, Xb 11 x_1])) (by kernel_rfl) ?_ ?_
            · exact Kend (n := 4) (by kernel_rfl) rfl
            · exact Kend (n := 4) (by kernel_rfl) rfl
          · refine KifA (n := 2) (fo' := .rc C7) (fs' := F12) (t := x_5) (A := fun bb => (mkS [Pv 1, Kv 3 x_3, Iv 6 p6, Iv 7 q7, Bv 9 missing9, Iv 24 v24, Iv 25 v25, Iv 30 v30, Iv 31 v31, Cv 39 v39, Iv 40 v40, Iv 41 v41, Bv 42 true, Bv 53 false, Iv 12 x_4.to_.index, Bv 63 false, Bv 69 bb] [Xb 1 tb1, Xb 11 x_1])) (by kernel_rfl) ?_ ?_
            · exact Kfin (by kernel_rfl)
            · exact Kfin (by kernel_rfl)
  · exact Kfin (by kernel_rfl)
theorem W3_ok (l3 : Option (Arr 200 AnFromTo)) (p6 : Int) (q7 : Int) (last8 : Int) (missing9 : Bool) (v24 : Int) (v25 : Int) (v30 : Int) (v31 : Int) (v39 : Sl Event) (v40 : Int) (v41 : Int) (tb1 : Trace) : Le ((W3 l3 p6 q7 last8 missing9 v24 v25 v30 v31 v39 v40 v41 tb1).bind (fun w => some (Fw.out (W2_s S p6 v24 v25 v30 tb1) (W2_e S p6 v24 v25 v30 tb1) (W2_r S p6 v24 v25 v30 tb1) w))) (rn S (callL S T) some (.rc (.loop tW3)) F18 (mkS [Pv 1, Cv 3 l3, Iv 6 p6, Iv 7 q7, Iv 8 last8, Bv 9 missing9, Iv 24 v24, Iv 25 v25, Iv 30 v30, Iv 31 v31, Cv 39 v39, Iv 40 v40, Iv 41 v41] [Xb 1 tb1])) := by
  unfold W3
  refine KloopA (n := 0) (fs := F18) (a := tW3) (eσ := W3_s S p6 q7 v24 v25 v30 v31 v39 v40 tb1) (eε := W3_e S p6 q7 v24 v25 v30 v31 v39 v40 tb1) (eρ := W3_r S p6 q7 v24 v25 v30 v31 v39 v40 tb1) (by kernel_rfl) (fun q => W3_step_ok p6 q7 v24 v25 v30 v31 v39 v40 tb1 q.1 q.2.1 q.2.2.1 q.2.2.2) ?_ ?_
  · intro e
    exact Kfin (by kernel_rfl)
  · intro e
    exact Kfin (by kernel_rfl)
theorem W2_step_ok (p6 : Int) (v24 : Int) (v25 : Int) (v30 : Int) (tb1 : Trace) (l3 : Option (Arr 200 AnFromTo)) (v31 : Int) : Le ((W2_step p6 v24 v25 v30 tb1 l3 v31).bind (fun w => some (Fw.out (W2_s S p6 v24 v25 v30 tb1) (W2_e S p6 v24 v25 v30 tb1) (W2_r S p6 v24 v25 v30 tb1) w))) (rn S (callL S T) some (.rc tW2) [] (mkS [Pv 1, Cv 3 l3, Iv 6 p6, Iv 24 v24, Iv 25 v25, Iv 30 v30, Iv 31 v31] [Xb 1 tb1])) := by
  unfold W2_step
  refine KifA (n := 7) (fo' := .rc C3) (fs' := F11) (t := decide (v31 < v30)) (A := fun bb => (mkS [Pv 1, Cv 3 l3, Iv 6 p6, Iv 24 v24, Iv 25 v25, Iv 30 v30, Iv 31 v31, Bv 32 bb] [Xb 1 tb1])) (by kernel_rfl) ?_ ?_
  · refine Aidx 22 false [] Q9 F10 (mkS [Pv 1, Cv 3 l3, Iv 6 p6, Iv 24 v24, Iv 25 v25, Iv 30 v30, Iv 31 v31, Bv 32 true, Iv 7 v31, Iv 8 0, Bv 9 false, Cv 35 tb1.procs, Iv 36 p6] [Xb 1 tb1]) .i64 rfl (by kernel_rfl) fun x_1 h_1 => ?_
    refine Alen 2 false [] Q8 F10 (mkS [Pv 1, Cv 3 l3, Iv 6 p6, Iv 24 v24, Iv 25 v25, Iv 30 v30, Iv 31 v31, Bv 32 true, Iv 7 v31, Iv 8 0, Bv 9 false, Cv 39 x_1.events] [Xb 1 tb1]) x_1.events rfl (by kernel_rfl) ?_
    exact Kadv (n := 5) (by kernel_rfl) (W3_ok l3 p6 v31 0 false v24 v25 v30 v31 x_1.events (len x_1.events) 0 tb1)
  · exact Kfin (by kernel_rfl)
theorem W2_ok (l3 : Option (Arr 200 AnFromTo)) (p6 : Int) (v24 : Int) (v25 : Int) (v30 : Int) (v31 : Int) (tb1 : Trace) : Le ((W2 l3 p6 v24 v25 v30 v31 tb1).bind (fun w => some (Fw.out (W1_s S v24 tb1) (W1_e S v24 tb1) (W1_r S v24 tb1) w))) (rn S (callL S T) some (.rc (.loop tW2)) F19 (mkS [Pv 1, Cv 3 l3, Iv 6 p6, Iv 24 v24, Iv 25 v25, Iv 30 v30, Iv 31 v31] [Xb 1 tb1])) := by
  unfold W2
  refine KloopA (n := 0) (fs := F19) (a := tW2) (eσ := W2_s S p6 v24 v25 v30 tb1) (eε := W2_e S p6 v24 v25 v30 tb1) (eρ := W2_r S p6 v24 v25 v30 tb1) (by kernel_rfl) (fun q => W2_step_ok p6 v24 v25 v30 tb1 q.1 q.2) ?_ ?_
  · intro e
    exact Kfin (by kernel_rfl)
  · intro e
    exact Kfin (by kernel_rfl)
theorem W1_step_ok (v24 : Int) (tb1 : Trace) (l3 : Option (Arr 200 AnFromTo)) (v25 : Int) : Le ((W1_step v24 tb1 l3 v25).bind (fun w => some (Fw.out (W1_s S v24 tb1) (W1_e S v24 tb1) (W1_r S v24 tb1) w))) (rn S (callL S T) some (.rc tW1) [] (mkS [Pv 1, Cv 3 l3, Iv 24 v24, Iv 25 v25] [Xb 1 tb1])) := by
  unfold W1_step
  refine KifA (n := 7) (fo' := .rc C2) (fs' := F9) (t := decide (v25 < v24)) (A := fun bb => (mkS [Pv 1, Cv 3 l3, Iv 24 v24, Iv 25 v25, Bv 26 bb] [Xb 1 tb1])) (by kernel_rfl) ?_ ?_
  · refine Alen 15 false [] Q7 F8 (mkS [Pv 1, Cv 3 l3, Iv 24 v24, Iv 25 v25, Bv 26 true, Iv 6 v25, Cv 29 tb1.procs] [Xb 1 tb1]) tb1.procs rfl (by kernel_rfl) ?_
    exact Kadv (n := 5) (by kernel_rfl) (W2_ok l3 v25 v24 v25 (len tb1.procs) 0 tb1)
  · exact Kfin (by kernel_rfl)
theorem W1_ok (l3 : Option (Arr 200 AnFromTo)) (v24 : Int) (v25 : Int) (tb1 : Trace) : Le ((W1 l3 v24 v25 tb1).bind (fun r => some [.bool r])) (rn S (callL S T) (finC [.s 2]) (.rc (.loop tW1)) F20 (mkS [Pv 1, Cv 3 l3, Iv 24 v24, Iv 25 v25] [Xb 1 tb1])) := by
  unfold W1
  refine KloopA (n := 0) (fs := F20) (a := tW1) (eσ := W1_s S v24 tb1) (eε := W1_e S v24 tb1) (eρ := W1_r S v24 tb1) (by kernel_rfl) (fun q => W1_step_ok v24 tb1 q.1 q.2) ?_ ?_
  · intro e
    exact Kfin (by kernel_rfl)
  · intro e
    exact Kfin (by kernel_rfl)
end
end trace_Fifo
noncomputable def trace_Fifo (t0 : Trace) : Option Bool :=
 (trace_Valid t0).bind fun x_1 =>
 cif x_1
 ((trace_messageFault t0).bind fun x_2 =>
 trace_Fifo.W1 x_2.1 (len t0.procs) 0 t0)
 (some false)
open trace_Fifo in
theorem trace_Fifo_ok {S : Sys} {T : Tab} [F_trace_Fifo S T] (t0 : Trace) : Le ((trace_Fifo t0).bind fun r => some [.bool r]) (callC (callL S T) (S.N 34) [enc t0]) := by
  refine Kfun (F_trace_Fifo.t (S := S) (T := T)) (Nat.le_of_ble_eq_true rfl) ?_
  unfold trace_Fifo
  refine Abox 2 false [] Q6 F7 (mkS [Cv 0 t0] []) t0 rfl (by kernel_rfl) (by kernel_rfl) ?_
  refine AcallV 7 [] Q5 F6 (mkS [Pv 1, Cv 13 t0] [Xb 1 t0]) (trace_Valid_fun (S := S) (T := T)) t0 rfl (by kernel_rfl) fun x_1 h_1 => ?_
  refine KifA (n := 3) (fo' := .rc C1) (fs' := F5) (t := x_1) (A := fun bb => (mkS [Pv 1, Bv 15 (!bb)] [Xb 1 t0])) (by kernel_rfl) ?_ ?_
  · refine AcallV 6 [] Q4 F4 (mkS [Pv 1, Bv 15 false, Cv 17 t0] [Xb 1 t0]) (trace_messageFault_fun (S := S) (T := T)) t0 rfl (by kernel_rfl) fun x_2 h_2 => ?_
    refine Alen 15 false [] Q3 F3 (mkS [Pv 1, Bv 15 false, Cv 3 x_2.1, Cv 23 t0.procs] [Xb 1 t0, Xb 4 x_2.2.1]) t0.procs rfl (by kernel_rfl) ?_
    exact Kadv (n := 5) (by kernel_rfl) (W1_ok x_2.1 (len t0.procs) 0 t0)
  · exact Kfin (by kernel_rfl)
theorem trace_Fifo_fun {S : Sys} {T : Tab} [F_trace_Fifo S T] : Fun S (callL S T) (S.N 34) (fun z : Trace => [enc z]) (fun r : Bool => [.bool r]) (fun z => trace_Fifo z) true where
  k := F_trace_Fifo.k (S := S) (T := T)
  h z := trace_Fifo_ok z
  l z := by simp
  r r := by simp
  s h r := by kernel_rfl
namespace alaw40_ChannelFifo
def Q7 : List RO := o2 1 (.a .box) [0] [0] ::
 o1 2 (.k (.bool false)) [2] ::
 []
def Q6 : List RO := o2 8 .c [.f 1] [] ::
 o2 9 (.p (.not)) [8] [8] ::
 []
def C1 : RC := .cond (.s 9) (.seq (.ops (o1 2 (.k (.bool false)) [] ::
 [])) (.gh (.keep [2] []) (.ret))) (.skip)
def Q3 : List RO := o3 15 13 false .c [.f 30, 14] [14] ::
 o3 16 13 false (.p (.not)) [15] [15] ::
 o2 17 (.p (.pick)) [13, .k (.bool true), 16] [13,16] ::
 []
def Q1 : List RO := o3 14 13 false (lD 1) [1] [] ::
 Q3
def Q5 : List RO := o2 11 .c [.f 5, 10] [10] ::
 o2 12 (bI .gtr) [11, .k (.int .i64 60)] [11] ::
 o1 13 12 [12] ::
 Q1
def C2 : RC := .cond (.s 17) (.seq (.ops (o1 2 (.k (.bool true)) [] ::
 [])) (.gh (.keep [2] []) (.ret))) (.skip)
def Q4 : List RO := o2 20 ln [19] [19] ::
 o1 21 (.k (.int .i64 0)) [] ::
 []
def C3 : RC := .cond (.s 22) (.skip) (.gh (.keep [1,3] [1]) (.exit 0))
def Q8 : List RO := o2 26 ln [25] [25] ::
 o1 27 (.k (.int .i64 0)) [] ::
 []
def C4 : RC := .cond (.s 28) (.skip) (.gh (.keep [1,3,20,21] [1]) (.exit 2))
def C5 : RC := .cond (.s 32) (.exit 3) (.skip)
def Q10 : List RO := o2 37 .c [.f 33, 34, 35, 36] [34,35,36] ::
 o1 33 37 [37] ::
 o2 38 (.p (.ext 0)) [33] [] ::
 o2 39 (.p (.ext 1)) [33] [33] ::
 o1 6 38 [38] ::
 o1 7 39 [39] ::
 []
def C6 : RC := .cond (.s 41) (.seq (.ops (o1 2 (.k (.bool false)) [] ::
 [])) (.gh (.keep [2] []) (.ret))) (.skip)
def Q9 : List RO := o1 3 45 [45] ::
 []
def Q2 : List RO := o3 44 43 true (.p (.id)) [6] [6] ::
 o2 45 (.p (.pick)) [43, 44, .k (.bool false)] [43,44] ::
 Q9
def U1 : RC := .ops (o1 42 3 [3] ::
 o1 43 42 [42] ::
 Q2)
def U2 : RC := .seq (.seq (.ops (o1 40 7 [7] ::
 o2 41 (bI .neq) [40, .k (.int .i64 0)] [40] ::
 [])) (C6)) (U1)
def U3 : RC := .seq (.ops (o2 34 (lD 1) [1] [] ::
 o1 35 4 [] ::
 o1 36 5 [5] ::
 Q10)) (U2)
def U4 : RC := .seq (.seq (.ops (o1 30 4 [] ::
 o1 31 5 [] ::
 o2 32 (bI .eql) [30, 31] [30,31] ::
 [])) (C5)) (U3)
def U5 : RC := .ops (o2 46 (bI .add) [27, .k (.int .i64 1)] [27] ::
 o1 27 46 [46] ::
 [])
def U6 : RC := .seq (.block 3 (.seq (.ops (o1 29 27 [] ::
 o1 5 29 [29] ::
 [])) (U4))) (U5)
def tW2 : RC := .hg (.seq (.ops (o2 28 (bI .lss) [27, 26] [] ::
 [])) (.seq (C4) (U6))) (.keep [1,3,4,20,21,26,27] [1])
def U7 : RC := .block 2 (.gh (.keep [1,3,4,20,21,26,27] [1]) (.loop tW2))
def U8 : RC := .seq (.ops (o2 24 (fa 0) [1] [] ::
 o2 25 (ld 1) [24] [24] ::
 Q8)) (U7)
def U9 : RC := .ops (o2 47 (bI .add) [21, .k (.int .i64 1)] [21] ::
 o1 21 47 [47] ::
 [])
def U10 : RC := .seq (.block 1 (.seq (.ops (o1 23 21 [] ::
 o1 4 23 [23] ::
 [])) (U8))) (U9)
def tW1 : RC := .hg (.seq (.ops (o2 22 (bI .lss) [21, 20] [] ::
 [])) (.seq (C3) (U10))) (.keep [1,3,20,21] [1])
def U11 : RC := .block 0 (.gh (.keep [1,3,20,21] [1]) (.loop tW1))
def Q11 : List RO := o2 50 .c [.f 34, 49] [49] ::
 o2 51 (.p (.bin (some .bool) none .eql)) [48, 50] [48,50] ::
 o1 2 51 [51] ::
 []
def U12 : RC := .seq (.ops (o1 48 3 [3] ::
 o2 49 (lD 1) [1] [1] ::
 Q11)) (.gh (.keep [2] []) (.ret))
def U13 : RC := .seq (.seq (.ops (o2 18 (fa 0) [1] [] ::
 o2 19 (ld 1) [18] [18] ::
 Q4)) (U11)) (U12)
def U14 : RC := .seq (.ops (o1 3 (.k (.bool true)) [] ::
 [])) (U13)
def U15 : RC := .seq (.seq (.ops (o2 10 (lD 1) [1] [] ::
 Q5)) (C2)) (U14)
def text : RF := ⟨52, [.s 2], .seq (.ops Q7) (.seq (.seq (.ops Q6) (C1)) (U15))⟩
def F4 : List Fm := [.seq U14]
def F5 : List Fm := [.seq U15]
def F7 : List Fm := [.seq (.seq (.seq (.ops Q6) (C1)) (U15))]
def F14 : List Fm := [.seq (.gh (.keep [2] []) (.ret))]
def F1 : List Fm := .seq C2 :: F4
def F3 : List Fm := [.seq U11, .seq U12]
def F6 : List Fm := .seq C1 :: F5
def F9 : List Fm := [.seq U10, .gst (.keep [1,3,20,21] [1])]
def F13 : List Fm := [.seq U6, .gst (.keep [1,3,4,20,21,26,27] [1])]
def F16 : List Fm := [.blk 0, .seq U12]
def F2 : List Fm := [.blk 3, .seq U5, .gst (.keep [1,3,4,20,21,26,27] [1])]
def F8 : List Fm := [.seq U7, .blk 1, .seq U9, .gst (.keep [1,3,20,21] [1])]
def F10 : List Fm := .seq U1 :: F2
def F11 : List Fm := .seq U2 :: F2
def F12 : List Fm := .seq U3 :: F2
def F15 : List Fm := [.blk 2, .blk 1, .seq U9, .gst (.keep [1,3,20,21] [1])]
end alaw40_ChannelFifo
class F_alaw40_ChannelFifo (S : Sys) (T : Tab) : Prop where
  t : T (S.N 35) = some alaw40_ChannelFifo.text
  k : S.E.keep (S.N 35) = false
  c0 : F_alaw40_awake S T
  c1 : F_alaw40_size S T
  c2 : F_channel_Fifo S T
  c3 : F_trace_Fifo S T
  c4 : F_trace_Valid S T
attribute [instance] F_alaw40_ChannelFifo.c0 F_alaw40_ChannelFifo.c1 F_alaw40_ChannelFifo.c2 F_alaw40_ChannelFifo.c3 F_alaw40_ChannelFifo.c4
namespace alaw40_ChannelFifo
section
variable {S : Sys} {T : Tab} [F_alaw40_ChannelFifo S T]
noncomputable def W2_step (p4 : Int) (v20 : Int) (v21 : Int) (v26 : Int) (tb1 : Trace) (all3 : Bool) (v27 : Int) : Option (Fw (Bool × Int) Bool Unit) :=
 cif (decide (v27 < v26))
 (cif (p4 == v27)
 (some (.n (all3, IntKind.wrap .i64 (v27 + 1))))
 ((channel_Fifo tb1 p4 v27).bind fun x_1 =>
 cif (x_1.2 == 0)
 ((cif all3
 (some x_1.1)
 (some false) : Option Bool).bind fun x_2 =>
 some (.n (x_2, IntKind.wrap .i64 (v27 + 1))))
 (some (.r ()))))
 (some (.x all3))
noncomputable def W2 (all3 : Bool) (p4 : Int) (v20 : Int) (v21 : Int) (v26 : Int) (v27 : Int) (tb1 : Trace) : Option (Fw (Bool × Int) Bool Unit) :=
 (wloop (fun q : Bool × Int => W2_step p4 v20 v21 v26 tb1 q.1 q.2) (all3, v27)).bind (Fw.elim
 (fun e => some (.n (e, IntKind.wrap .i64 (v21 + 1))))
 (fun e => some (.r ())))
def W2_s (S : Sys) (p4 : Int) (v20 : Int) (v21 : Int) (v26 : Int) (tb1 : Trace) : Bool × Int → St := fun q => (mkS [Pv 1, Bv 3 q.1, Iv 4 p4, Iv 20 v20, Iv 21 v21, Iv 26 v26, Iv 27 q.2] [Xb 1 tb1])
def W2_e (S : Sys) (p4 : Int) (v20 : Int) (v21 : Int) (v26 : Int) (tb1 : Trace) : Bool → Nat × St := fun e => (2, (mkS [Pv 1, Bv 3 e, Iv 20 v20, Iv 21 v21] [Xb 1 tb1]))
def W2_r (S : Sys) (p4 : Int) (v20 : Int) (v21 : Int) (v26 : Int) (tb1 : Trace) : Unit → St := fun e => (mkS [Bv 2 false] [])
noncomputable def W1_step (v20 : Int) (tb1 : Trace) (all3 : Bool) (v21 : Int) : Option (Fw (Bool × Int) Bool Unit) :=
 cif (decide (v21 < v20))
 (W2 all3 v21 v20 v21 (len tb1.procs) 0 tb1)
 (some (.x all3))
noncomputable def W1 (all3 : Bool) (v20 : Int) (v21 : Int) (tb1 : Trace) : Option Bool :=
 (wloop (fun q : Bool × Int => W1_step v20 tb1 q.1 q.2) (all3, v21)).bind (Fw.elim
 (fun e => (trace_Fifo tb1).bind fun x_1 =>
 some (e == x_1))
 (fun e => some false))
def W1_s (S : Sys) (v20 : Int) (tb1 : Trace) : Bool × Int → St := fun q => (mkS [Pv 1, Bv 3 q.1, Iv 20 v20, Iv 21 q.2] [Xb 1 tb1])
def W1_e (S : Sys) (v20 : Int) (tb1 : Trace) : Bool → Nat × St := fun e => (0, (mkS [Pv 1, Bv 3 e] [Xb 1 tb1]))
def W1_r (S : Sys) (v20 : Int) (tb1 : Trace) : Unit → St := fun e => (mkS [Bv 2 false] [])
theorem W2_step_ok (p4 : Int) (v20 : Int) (v21 : Int) (v26 : Int) (tb1 : Trace) (all3 : Bool) (v27 : Int) : Le ((W2_step p4 v20 v21 v26 tb1 all3 v27).bind (fun w => some (Fw.out (W2_s S p4 v20 v21 v26 tb1) (W2_e S p4 v20 v21 v26 tb1) (W2_r S p4 v20 v21 v26 tb1) w))) (rn S (callL S T) some (.rc tW2) [] (mkS [Pv 1, Bv 3 all3, Iv 4 p4, Iv 20 v20, Iv 21 v21, Iv 26 v26, Iv 27 v27] [Xb 1 tb1])) := by
  unfold W2_step
  refine KifA (n := 7) (fo' := .rc C4) (fs' := F13) (t := decide (v27 < v26)) (A := fun bb => (mkS [Pv 1, Bv 3 all3, Iv 4 p4, Iv 20 v20, Iv 21 v21, Iv 26 v26, Iv 27 v27, Bv 28 bb] [Xb 1 tb1])) (by kernel_rfl) ?_ ?_
  · refine KifA (n := 19) (fo' := .rc C5) (fs' := F12) (t := (p4 == v27)) (A := fun bb => (mkS [Pv 1, Bv 3 all3, Iv 4 p4, Iv 20 v20, Iv 21 v21, Iv 26 v26, Iv 27 v27, Bv 28 true, Iv 5 v27, Bv 32 bb] [Xb 1 tb1])) (by kernel_rfl) ?_ ?_
    · exact Kfin (by kernel_rfl)
    · refine AcallV 8 [] Q10 F11 (mkS [Pv 1, Bv 3 all3, Iv 4 p4, Iv 20 v20, Iv 21 v21, Iv 26 v26, Iv 27 v27, Bv 28 true, Bv 32 false, Cv 34 tb1, Iv 35 p4, Iv 36 v27] [Xb 1 tb1]) (channel_Fifo_fun (S := S) (T := T)) (tb1, p4, v27) rfl (by kernel_rfl) fun x_1 h_1 => ?_
      refine KifA (n := 14) (fo' := .rc C6) (fs' := F10) (t := (x_1.2 == 0)) (A := fun bb => (mkS [Pv 1, Bv 3 all3, Iv 4 p4, Iv 20 v20, Iv 21 v21, Iv 26 v26, Iv 27 v27, Bv 28 true, Bv 32 false, Bv 6 x_1.1, Bv 41 (!bb)] [Xb 1 tb1])) (by kernel_rfl) ?_ ?_
      · refine Kjoin (fun x_2 => rn S (callL S T) some (.ops false [] Q9) F2 (mkS [Pv 1, Iv 4 p4, Iv 20 v20, Iv 21 v21, Iv 26 v26, Iv 27 v27, Bv 28 true, Bv 32 false, Bv 41 false, Bv 45 x_2] [Xb 1 tb1])) ?_ fun x_2 => ?_
        · refine KifA (n := 6) (fo' := .ops false [] Q2) (fs' := F2) (t := all3) (A := fun bb => (mkS [Pv 1, Iv 4 p4, Iv 20 v20, Iv 21 v21, Iv 26 v26, Iv 27 v27, Bv 28 true, Bv 32 false, Bv 6 x_1.1, Bv 41 false, Bv 43 bb] [Xb 1 tb1])) (by kernel_rfl) ?_ ?_
          · exact Kend (n := 2) (by kernel_rfl) rfl
          · exact Kend (n := 2) (by kernel_rfl) rfl
        · exact Kfin (by kernel_rfl)
      · exact Kfin (by kernel_rfl)
  · exact Kfin (by kernel_rfl)
theorem W2_ok (all3 : Bool) (p4 : Int) (v20 : Int) (v21 : Int) (v26 : Int) (v27 : Int) (tb1 : Trace) : Le ((W2 all3 p4 v20 v21 v26 v27 tb1).bind (fun w => some (Fw.out (W1_s S v20 tb1) (W1_e S v20 tb1) (W1_r S v20 tb1) w))) (rn S (callL S T) some (.rc (.loop tW2)) F15 (mkS [Pv 1, Bv 3 all3, Iv 4 p4, Iv 20 v20, Iv 21 v21, Iv 26 v26, Iv 27 v27] [Xb 1 tb1])) := by
  unfold W2
  refine KloopA (n := 0) (fs := F15) (a := tW2) (eσ := W2_s S p4 v20 v21 v26 tb1) (eε := W2_e S p4 v20 v21 v26 tb1) (eρ := W2_r S p4 v20 v21 v26 tb1) (by kernel_rfl) (fun q => W2_step_ok p4 v20 v21 v26 tb1 q.1 q.2) ?_ ?_
  · intro e
    exact Kfin (by kernel_rfl)
  · intro e
    exact Kfin (by kernel_rfl)
theorem W1_step_ok (v20 : Int) (tb1 : Trace) (all3 : Bool) (v21 : Int) : Le ((W1_step v20 tb1 all3 v21).bind (fun w => some (Fw.out (W1_s S v20 tb1) (W1_e S v20 tb1) (W1_r S v20 tb1) w))) (rn S (callL S T) some (.rc tW1) [] (mkS [Pv 1, Bv 3 all3, Iv 20 v20, Iv 21 v21] [Xb 1 tb1])) := by
  unfold W1_step
  refine KifA (n := 7) (fo' := .rc C3) (fs' := F9) (t := decide (v21 < v20)) (A := fun bb => (mkS [Pv 1, Bv 3 all3, Iv 20 v20, Iv 21 v21, Bv 22 bb] [Xb 1 tb1])) (by kernel_rfl) ?_ ?_
  · refine Alen 15 false [] Q8 F8 (mkS [Pv 1, Bv 3 all3, Iv 20 v20, Iv 21 v21, Bv 22 true, Iv 4 v21, Cv 25 tb1.procs] [Xb 1 tb1]) tb1.procs rfl (by kernel_rfl) ?_
    exact Kadv (n := 5) (by kernel_rfl) (W2_ok all3 v21 v20 v21 (len tb1.procs) 0 tb1)
  · exact Kfin (by kernel_rfl)
theorem W1_ok (all3 : Bool) (v20 : Int) (v21 : Int) (tb1 : Trace) : Le ((W1 all3 v20 v21 tb1).bind (fun r => some [.bool r])) (rn S (callL S T) (finC [.s 2]) (.rc (.loop tW1)) F16 (mkS [Pv 1, Bv 3 all3, Iv 20 v20, Iv 21 v21] [Xb 1 tb1])) := by
  unfold W1
  refine KloopA (n := 0) (fs := F16) (a := tW1) (eσ := W1_s S v20 tb1) (eε := W1_e S v20 tb1) (eρ := W1_r S v20 tb1) (by kernel_rfl) (fun q => W1_step_ok v20 tb1 q.1 q.2) ?_ ?_
  · intro e
    refine AcallV 6 [] Q11 F14 (mkS [Bv 48 e, Cv 49 tb1] [Xb 1 tb1]) (trace_Fifo_fun (S := S) (T := T)) tb1 rfl (by kernel_rfl) fun x_1 h_1 => ?_
    exact Kfin (by kernel_rfl)
  · intro e
    exact Kfin (by kernel_rfl)
end
end alaw40_ChannelFifo
noncomputable def alaw40_ChannelFifo (t0 : Trace) : Option Bool :=
 (alaw40_awake).bind fun x_1 =>
 cif x_1
 ((alaw40_size t0).bind fun x_2 =>
 (cif (decide (x_2 > 60))
 (some true)
 ((trace_Valid t0).bind fun x_3 =>
 some (!x_3)) : Option Bool).bind fun x_4 =>
 cif x_4
 (some true)
 (alaw40_ChannelFifo.W1 true (len t0.procs) 0 t0))
 (some false)
open alaw40_ChannelFifo in
theorem alaw40_ChannelFifo_ok {S : Sys} {T : Tab} [F_alaw40_ChannelFifo S T] (t0 : Trace) : Le ((alaw40_ChannelFifo t0).bind fun r => some [.bool r]) (callC (callL S T) (S.N 35) [enc t0]) := by
  refine Kfun (F_alaw40_ChannelFifo.t (S := S) (T := T)) (Nat.le_of_ble_eq_true rfl) ?_
  unfold alaw40_ChannelFifo
  refine Abox 2 false [] Q7 F7 (mkS [Cv 0 t0] []) t0 rfl (by kernel_rfl) (by kernel_rfl) ?_
  refine AcallV 6 [] Q6 F6 (mkS [Pv 1] [Xb 1 t0]) (alaw40_awake_fun (S := S) (T := T)) () rfl (by kernel_rfl) fun x_1 h_1 => ?_
  refine KifA (n := 3) (fo' := .rc C1) (fs' := F5) (t := x_1) (A := fun bb => (mkS [Pv 1, Bv 9 (!bb)] [Xb 1 t0])) (by kernel_rfl) ?_ ?_
  · refine AcallV 7 [] Q5 F1 (mkS [Pv 1, Bv 9 false, Cv 10 t0] [Xb 1 t0]) (alaw40_size_fun (S := S) (T := T)) t0 rfl (by kernel_rfl) fun x_2 h_2 => ?_
    refine Kjoin (fun x_4 => rn S (callL S T) (finC [.s 2]) (.ops false [] []) F1 (mkS [Pv 1, Bv 9 false, Bv 17 x_4] [Xb 1 t0])) ?_ fun x_4 => ?_
    · refine KifA (n := 2) (fo' := .ops false [] Q1) (fs' := F1) (t := decide (x_2 > 60)) (A := fun bb => (mkS [Pv 1, Bv 9 false, Bv 13 bb] [Xb 1 t0])) (by kernel_rfl) ?_ ?_
      · exact Kend (n := 4) (by kernel_rfl) rfl
      · refine AcallV 1 [] Q3 F1 (mkS [Pv 1, Bv 9 false, Bv 13 false, Cv 14 t0] [Xb 1 t0]) (trace_Valid_fun (S := S) (T := T)) t0 rfl (by kernel_rfl) fun x_3 h_3 => ?_
        exact Kend (n := 2) (by kernel_rfl) rfl
    · refine KifA (n := 2) (fo' := .rc C2) (fs' := F4) (t := x_4) (A := fun bb => (mkS [Pv 1, Bv 9 false, Bv 17 bb] [Xb 1 t0])) (by kernel_rfl) ?_ ?_
      · exact Kfin (by kernel_rfl)
      · refine Alen 13 false [] Q4 F3 (mkS [Pv 1, Bv 9 false, Bv 17 false, Bv 3 true, Cv 19 t0.procs] [Xb 1 t0]) t0.procs rfl (by kernel_rfl) ?_
        exact Kadv (n := 5) (by kernel_rfl) (W1_ok true (len t0.procs) 0 t0)
  · exact Kfin (by kernel_rfl)
theorem alaw40_ChannelFifo_fun {S : Sys} {T : Tab} [F_alaw40_ChannelFifo S T] : Fun S (callL S T) (S.N 35) (fun z : Trace => [enc z]) (fun r : Bool => [.bool r]) (fun z => alaw40_ChannelFifo z) true where
  k := F_alaw40_ChannelFifo.k (S := S) (T := T)
  h z := alaw40_ChannelFifo_ok z
  l z := by simp
  r r := by simp
  s h r := by kernel_rfl
end Go.VE
