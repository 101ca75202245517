/-
 Each function of the program that the law reaches: its text, its plain form, and that it comes to that.
-/
import Derived.Test.YtnfakljmdnbipaaS2
set_option linter.all false
namespace Go.VE
structure Assign where
 var : Int
 value : Int
 deriving Inhabited
instance : aF Assign where
 cells x := [.int .i64 x.var, .int .i64 x.value]
 agg := true
 size := 2
 len _ := rfl
 aN x := by simp only [V.bK, V.aN, jX, Bool.and_self]
 one x := by simp only [List.all_cons, List.all_nil, mA, kQ, mF, kN, Bool.and_self]
 plain h := by cases h
instance {n : Nat} : Lv (n + 0) Assign := ⟨fun x => by
 show V.dB (n + 0) [.int .i64 x.var, .int .i64 x.value] = true
 simp only [gF, iF, lA, jZ, lz, kJ, Bool.and_self]⟩
structure Event where
 kind : Int
 peer : Int
 message : Int
 time : Int
 assign : Sl Assign
 deriving Inhabited
instance : aF Event where
 cells x := [.int .i64 x.kind, .int .i64 x.peer, .int .i64 x.message, .int .i64 x.time, enc x.assign]
 agg := true
 size := 5
 len _ := rfl
 aN x := by simp only [V.bK, V.aN, jX, Bool.and_self]
 one x := by simp only [List.all_cons, List.all_nil, mA, kQ, mF, kN, Bool.and_self]
 plain h := by cases h
instance {n : Nat} : Lv (n + 1) Event := ⟨fun x => by
 show V.dB (n + 1) [.int .i64 x.kind, .int .i64 x.peer, .int .i64 x.message, .int .i64 x.time, enc x.assign] = true
 simp only [gF, iF, lA, jZ, lz, kJ, Bool.and_self]⟩
structure Var where
 name : ByteArray
 init_ : Int
 deriving Inhabited
instance : aF Var where
 cells x := [.str x.name, .int .i64 x.init_]
 agg := true
 size := 2
 len _ := rfl
 aN x := by simp only [V.bK, V.aN, jX, Bool.and_self]
 one x := by simp only [List.all_cons, List.all_nil, mA, kQ, mF, kN, Bool.and_self]
 plain h := by cases h
instance {n : Nat} : Lv (n + 0) Var := ⟨fun x => by
 show V.dB (n + 0) [.str x.name, .int .i64 x.init_] = true
 simp only [gF, iF, lA, jZ, lz, kJ, Bool.and_self]⟩
structure aS where
 name : ByteArray
 vars : Sl Var
 events : Sl Event
 deriving Inhabited
instance : aF aS where
 cells x := [.str x.name, enc x.vars, enc x.events]
 agg := true
 size := 3
 len _ := rfl
 aN x := by simp only [V.bK, V.aN, jX, Bool.and_self]
 one x := by simp only [List.all_cons, List.all_nil, mA, kQ, mF, kN, Bool.and_self]
 plain h := by cases h
instance {n : Nat} : Lv (n + 2) aS := ⟨fun x => by
 show V.dB (n + 2) [.str x.name, enc x.vars, enc x.events] = true
 simp only [gF, iF, lA, jZ, lz, kJ, Bool.and_self]⟩
structure Trace where
 procs : Sl aS
 deriving Inhabited
instance : aF Trace where
 cells x := [enc x.procs]
 agg := true
 size := 1
 len _ := rfl
 aN x := by simp only [V.bK, V.aN, jX, Bool.and_self]
 one x := by simp only [List.all_cons, List.all_nil, mA, kQ, mF, kN, Bool.and_self]
 plain h := by cases h
instance {n : Nat} : Lv (n + 3) Trace := ⟨fun x => by
 show V.dB (n + 3) [enc x.procs] = true
 simp only [gF, iF, lA, jZ, lz, kJ, Bool.and_self]⟩
structure Slice where
 empty : Bool
 first : Sl Int
 last : Sl Int
 j : Sl (Sl (Sl Int))
 deriving Inhabited
instance : aF Slice where
 cells x := [.bool x.empty, enc x.first, enc x.last, enc x.j]
 agg := true
 size := 4
 len _ := rfl
 aN x := by simp only [V.bK, V.aN, jX, Bool.and_self]
 one x := by simp only [List.all_cons, List.all_nil, mA, kQ, mF, kN, Bool.and_self]
 plain h := by cases h
instance {n : Nat} : Lv (n + 3) Slice := ⟨fun x => by
 show V.dB (n + 3) [.bool x.empty, enc x.first, enc x.last, enc x.j] = true
 simp only [gF, iF, lA, jZ, lz, kJ, Bool.and_self]⟩
structure ay where
 from_ : aa
 to_ : aa
 deriving Inhabited
instance : aF ay where
 cells x := [.int .i64 x.from_.proc, .int .i64 x.from_.index, .int .i64 x.to_.proc, .int .i64 x.to_.index]
 agg := true
 size := 4
 len _ := rfl
 aN x := by simp only [V.bK, V.aN, jX, Bool.and_self]
 one x := by simp only [List.all_cons, List.all_nil, mA, kQ, mF, kN, Bool.and_self]
 plain h := by cases h
instance {n : Nat} : Lv (n + 0) ay := ⟨fun x => by
 show V.dB (n + 0) [.int .i64 x.from_.proc, .int .i64 x.from_.index, .int .i64 x.to_.proc, .int .i64 x.to_.index] = true
 simp only [gF, iF, lA, jZ, lz, kJ, Bool.and_self]⟩
structure ak where
 p : Int
 q : Int
 sent : Sl Int
 received : Sl Int
 deriving Inhabited
instance : aF ak where
 cells x := [.int .i64 x.p, .int .i64 x.q, enc x.sent, enc x.received]
 agg := true
 size := 4
 len _ := rfl
 aN x := by simp only [V.bK, V.aN, jX, Bool.and_self]
 one x := by simp only [List.all_cons, List.all_nil, mA, kQ, mF, kN, Bool.and_self]
 plain h := by cases h
instance {n : Nat} : Lv (n + 1) ak := ⟨fun x => by
 show V.dB (n + 1) [.int .i64 x.p, .int .i64 x.q, enc x.sent, enc x.received] = true
 simp only [gF, iF, lA, jZ, lz, kJ, Bool.and_self]⟩
def iW (p : Int) : Int → List Event → List (aa × Event)
 | _, [] => []
 | j, e :: r => (⟨p, j + 1⟩, e) :: iW p (j + 1) r
def fT : Int → List aS → List (aa × Event)
 | _, [] => []
 | i, p :: r => iW i 0 p.events.l ++ fT (i + 1) r
def z6 (n : Nat) : Bool := decide (n < 9223372036854775807)
def eN (t : Trace) : Option (List (aa × Event)) :=
 if z6 t.procs.l.length && t.procs.l.all fun p => z6 p.events.l.length then some (fT 0 t.procs.l) else none
class iY (S : Sys) (T : az) : Prop where
 t : T (S.N 1) = none
 k : S.E.keep (S.N 1) = false
 o : S.vg (S.N 1) [] = some (.bool true)
def pV : Option Bool := some true
theorem wj {S : Sys} {T : az} [iY S T] : dS S (ah S T) (S.N 1) (fun _ : Unit => []) (fun r : Bool => [.bool r]) (fun _ => pV) true := dS.vg (iY.t) (iY.k (T := T)) (iY.o (T := T))
namespace bC
def Q1 : List RO := o2 7 ln [6] [6] ::
 o1 8 (.k (.int .i64 0)) [] ::
 []
def C1 : RC := .cond (.s 9) (.skip) (.gh (.keep [] []) (.exit 0))
def Q2 : List RO := o2 16 .c [11, 15] [11,15] ::
 []
def Q3 : List RO := o2 14 (ix 5) [12, 13] [12,13] ::
 o2 15 (lD 5) [14] [14] ::
 Q2
def C2 : RC := .cond (.s 16) (.seq (.ops (o1 17 5 [5] ::
 o1 4 17 [17] ::
 [])) (.gh (.keep [4] []) (.ret))) (.skip)
def U1 : RC := .seq (.ops (o1 11 1 [] ::
 o1 12 0 [] ::
 o1 13 5 [] ::
 Q3)) (C2)
def U2 : RC := .ops (o2 18 (bI .add) [8, .k (.int .i64 1)] [8] ::
 o1 8 18 [18] ::
 [])
def U3 : RC := .seq (.block 1 (.seq (.ops (o1 10 8 [] ::
 o1 5 10 [10] ::
 [])) (U1))) (U2)
def cg : RC := .hg (.seq (.ops (o2 9 (bI .lss) [8, 7] [] ::
 [])) (.seq (C1) (U3))) (.keep [0,1,7,8] [])
def U4 : RC := .block 0 (.gh (.keep [0,1,7,8] []) (.loop cg))
def U5 : RC := .seq (.ops (o1 4 (.k (.int .i64 (-1))) [] ::
 [])) (.gh (.keep [4] []) (.ret))
def U6 : RC := .seq (.seq (.ops (o1 6 0 [] ::
 Q1)) (U4)) (U5)
def text : RF := ⟨19, [.s 4], .seq (.ops (o1 4 (.k (.int .i64 0)) [4] ::
 [])) (U6)⟩
def F1 : List Fm := [.seq U4, .seq U5]
def F4 : List Fm := [.seq U3, .gst (.keep [0,1,7,8] [])]
def F5 : List Fm := [.blk 0, .seq U5]
def F2 : List Fm := [.blk 1, .seq U2, .gst (.keep [0,1,7,8] [])]
def F3 : List Fm := .seq C2 :: F2
end bC
class d9 (S : Sys) (T : az) : Prop where
 t : T (S.N 2) = some bC.text
 k : S.E.keep (S.N 2) = false
namespace bC
section
variable {S : Sys} {T : az} [d9 S T]
noncomputable def aB (s0 : Sl Event) (v7 : Int) (v8 : Int) (p1 : Event → Option Bool) : Option (Fw Int Unit Int) :=
 aL (decide (v8 < v7))
 ((idx s0 v8).bind fun x_1 =>
 (p1 x_1).bind fun x_2 =>
 aL x_2
 (some (.r v8))
 (some (.n (IntKind.wrap .i64 (v8 + 1)))))
 (some (.x ()))
noncomputable def W1 (s0 : Sl Event) (v7 : Int) (v8 : Int) (p1 : Event → Option Bool) : Option Int :=
 (cW (fun q : Int => aB s0 v7 q p1) v8).bind (Fw.elim
 (fun e => some (-1))
 (fun e => some e))
def cJ (S : Sys) (g1 : FuncId) (e1 : List V) (s0 : Sl Event) (v7 : Int) : Int → St := fun q => (af [Cv 0 s0, (1, .v (.clo g1 [] e1)), Iv 7 v7, Iv 8 q] [])
def cL (S : Sys) (g1 : FuncId) (e1 : List V) (s0 : Sl Event) (v7 : Int) : Unit → Nat × St := fun e => (0, (af [] []))
def cM (S : Sys) (g1 : FuncId) (e1 : List V) (s0 : Sl Event) (v7 : Int) : Int → St := fun e => (af [Iv 4 e] [])
theorem aY (g1 : FuncId) (e1 : List V) (p1 : Event → Option Bool) (h1 : fZ S (ah S T) g1 e1 (fun z : Event => [enc z]) (fun r : Bool => [.bool r]) p1) (s0 : Sl Event) (v7 : Int) (v8 : Int) : Le ((aB s0 v7 v8 p1).bind (fun w => some (Fw.out (cJ S g1 e1 s0 v7) (cL S g1 e1 s0 v7) (cM S g1 e1 s0 v7) w))) (rn S (ah S T) some (.rc cg) [] (af [Cv 0 s0, (1, .v (.clo g1 [] e1)), Iv 7 v7, Iv 8 v8] [])) := by
 unfold aB
 refine aJ (n := 7) (fo' := .rc C1) (fs' := F4) (t := decide (v8 < v7)) (A := fun bb => (af [Cv 0 s0, (1, .v (.clo g1 [] e1)), Iv 7 v7, Iv 8 v8, Bv 9 bb] [])) (by kernel_rfl) ?_ ?_
 ·refine ey 16 false [] Q3 F3 (af [Cv 0 s0, (1, .v (.clo g1 [] e1)), Iv 7 v7, Iv 8 v8, Bv 9 true, Iv 5 v8, (11, .v (.clo g1 [] e1)), Cv 12 s0, Iv 13 v8] []) .i64 rfl (by kernel_rfl) fun x_1 h_1 => ?_
  refine rQ 1 false [] Q2 F3 (af [Cv 0 s0, (1, .v (.clo g1 [] e1)), Iv 7 v7, Iv 8 v8, Bv 9 true, Iv 5 v8, (11, .v (.clo g1 [] e1)), Cv 15 x_1] []) h1.f x_1 e1 [enc x_1] rfl rfl (by kernel_rfl) fun x_2 h_2 => ?_
  refine aJ (n := 2) (fo' := .rc C2) (fs' := F2) (t := x_2) (A := fun bb => (af [Cv 0 s0, (1, .v (.clo g1 [] e1)), Iv 7 v7, Iv 8 v8, Bv 9 true, Iv 5 v8, Bv 16 bb] [])) (by kernel_rfl) ?_ ?_
  ·exact av (by kernel_rfl)
  ·exact av (by kernel_rfl)
 ·exact av (by kernel_rfl)
theorem eo (g1 : FuncId) (e1 : List V) (p1 : Event → Option Bool) (h1 : fZ S (ah S T) g1 e1 (fun z : Event => [enc z]) (fun r : Bool => [.bool r]) p1) (s0 : Sl Event) (v7 : Int) (v8 : Int) : Le ((W1 s0 v7 v8 p1).bind (fun r => some [.int .i64 r])) (rn S (ah S T) (cj [.s 4]) (.rc (.loop cg)) F5 (af [Cv 0 s0, (1, .v (.clo g1 [] e1)), Iv 7 v7, Iv 8 v8] [])) := by
 unfold W1
 refine eJ (n := 0) (fs := F5) (a := cg) (eσ := cJ S g1 e1 s0 v7) (eε := cL S g1 e1 s0 v7) (eρ := cM S g1 e1 s0 v7) (by kernel_rfl) (fun q => aY g1 e1 p1 h1 s0 v7 q) ?_ ?_
 ·intro e
  exact av (by kernel_rfl)
 ·intro e
  exact av (by kernel_rfl)
end
end bC
noncomputable def bC (s0 : Sl Event) (p1 : Event → Option Bool) : Option Int :=
 bC.W1 s0 (len s0) 0 p1
open bC in
theorem pA {S : Sys} {T : az} [d9 S T] (g1 : FuncId) (e1 : List V) (p1 : Event → Option Bool) (h1 : fZ S (ah S T) g1 e1 (fun z : Event => [enc z]) (fun r : Bool => [.bool r]) p1) (s0 : Sl Event) : Le ((bC s0 p1).bind fun r => some [.int .i64 r]) (bl (ah S T) (S.N 2) [enc s0, .clo g1 [] e1]) := by
 refine cZ (d9.t (S := S) (T := T)) (Nat.le_of_ble_eq_true rfl) ?_
 unfold bC
 refine dP 9 false [] Q1 F1 (af [Cv 0 s0, (1, .v (.clo g1 [] e1)), Cv 6 s0] []) s0 rfl (by kernel_rfl) ?_
 exact eY (n := 5) (by kernel_rfl) (eo g1 e1 p1 h1 s0 (len s0) 0)
theorem oR {S : Sys} {T : az} [d9 S T] (g1 : FuncId) (e1 : List V) (p1 : Event → Option Bool) (h1 : fZ S (ah S T) g1 e1 (fun z : Event => [enc z]) (fun r : Bool => [.bool r]) p1) : dS S (ah S T) (S.N 2) (fun z : Sl Event => [enc z, .clo g1 [] e1]) (fun r : Int => [.int .i64 r]) (fun z => bC z p1) true where
 k := d9.k (S := S) (T := T)
 h z := pA g1 e1 p1 h1 z
 l z := by simp [h1.d]
 r r := by simp
 s h r := by kernel_rfl
namespace aQ
def Q1 : List RO := o2 7 .c [.f 2, 5, 6] [5,6] ::
 o2 8 (bI .geq) [7, .k (.int .i64 0)] [7] ::
 o1 4 8 [8] ::
 []
def U1 : RC := .seq (.ops (o1 5 0 [0] ::
 o1 6 1 [1] ::
 Q1)) (.ret)
def text : RF := ⟨9, [.s 4], .seq (.ops (o1 4 (.k (.bool false)) [4] ::
 [])) (U1)⟩
def F1 : List Fm := [.seq .ret]
end aQ
class cr (S : Sys) (T : az) : Prop where
 t : T (S.N 3) = some aQ.text
 k : S.E.keep (S.N 3) = false
 c0 : d9 S T
attribute [instance] cr.c0
namespace aQ
section
variable {S : Sys} {T : az} [cr S T]
end
end aQ
noncomputable def aQ (s0 : Sl Event) (p1 : Event → Option Bool) : Option Bool :=
 (bC s0 p1).bind fun x_1 =>
 some (decide (x_1 ≥ 0))
open aQ in
theorem nU {S : Sys} {T : az} [cr S T] (g1 : FuncId) (e1 : List V) (p1 : Event → Option Bool) (h1 : fZ S (ah S T) g1 e1 (fun z : Event => [enc z]) (fun r : Bool => [.bool r]) p1) (s0 : Sl Event) : Le ((aQ s0 p1).bind fun r => some [.bool r]) (bl (ah S T) (S.N 3) [enc s0, .clo g1 [] e1]) := by
 refine cZ (cr.t (S := S) (T := T)) (Nat.le_of_ble_eq_true rfl) ?_
 unfold aQ
 refine bg 9 [] Q1 F1 (af [Cv 5 s0, (6, .v (.clo g1 [] e1))] []) (oR (S := S) (T := T) g1 e1 p1 h1) s0 rfl (by kernel_rfl) fun x_1 h_1 => ?_
 exact av (by kernel_rfl)
theorem jE {S : Sys} {T : az} [cr S T] (g1 : FuncId) (e1 : List V) (p1 : Event → Option Bool) (h1 : fZ S (ah S T) g1 e1 (fun z : Event => [enc z]) (fun r : Bool => [.bool r]) p1) : dS S (ah S T) (S.N 3) (fun z : Sl Event => [enc z, .clo g1 [] e1]) (fun r : Bool => [.bool r]) (fun z => aQ z p1) true where
 k := cr.k (S := S) (T := T)
 h z := nU g1 e1 p1 h1 z
 l z := by simp [h1.d]
 r r := by simp
 s h r := by kernel_rfl
namespace dL
def Q2 : List RO := o2 1 (.a .box) [0] [0] ::
 o1 2 (.k (.bool false)) [2] ::
 []
def Q1 : List RO := o2 5 ln [4] [4] ::
 o2 6 (bI .gtr) [5, .k (.int .i64 12)] [5] ::
 o1 2 6 [6] ::
 []
def U1 : RC := .seq (.ops (o2 3 (fa 4) [1] [1] ::
 o2 4 (ld 1) [3] [3] ::
 Q1)) (.ret)
def text : RF := ⟨7, [.s 2], .seq (.ops Q2) (U1)⟩
def F1 : List Fm := [.seq .ret]
def F2 : List Fm := [.seq U1]
end dL
class gC (S : Sys) (T : az) : Prop where
 t : T (S.N 4) = some dL.text
 k : S.E.keep (S.N 4) = false
namespace dL
section
variable {S : Sys} {T : az} [gC S T]
end
end dL
noncomputable def dL (x0 : Event) : Option Bool :=
 some (decide ((len x0.assign) > 12))
open dL in
theorem uZ {S : Sys} {T : az} [gC S T] (x0 : Event) : Le ((dL x0).bind fun r => some [.bool r]) (bl (ah S T) (S.N 4) [enc x0]) := by
 refine cZ (gC.t (S := S) (T := T)) (Nat.le_of_ble_eq_true rfl) ?_
 unfold dL
 refine gm 2 false [] Q2 F2 (af [Cv 0 x0] []) x0 rfl (by kernel_rfl) (by kernel_rfl) ?_
 refine dP 7 false [] Q1 F1 (af [Cv 4 x0.assign] [Xb 1 x0]) x0.assign rfl (by kernel_rfl) ?_
 exact av (by kernel_rfl)
theorem tw {S : Sys} {T : az} [gC S T] : dS S (ah S T) (S.N 4) (fun z : Event => [enc z]) (fun r : Bool => [.bool r]) (fun z => dL z) true where
 k := gC.k (S := S) (T := T)
 h z := uZ z
 l z := by simp
 r r := by simp
 s h r := by kernel_rfl
namespace d3
def Q4 : List RO := o2 1 (.a .box) [0] [0] ::
 o1 2 (.k (.int .i64 0)) [2] ::
 []
def Q3 : List RO := o2 8 ln [7] [7] ::
 o2 9 (bI .gtr) [8, .k (.int .i64 10)] [8] ::
 []
def C1 : RC := .cond (.s 9) (.seq (.ops (o1 2 (.k (.int .i64 1000)) [] ::
 [])) (.gh (.keep [2] []) (.ret))) (.skip)
def Q2 : List RO := o2 12 ln [11] [] ::
 o1 13 (.k (.int .i64 0)) [] ::
 []
def C2 : RC := .cond (.s 14) (.skip) (.gh (.keep [3] []) (.exit 0))
def Q8 : List RO := oz (su 3) [5, 16] [16] ::
 []
def Q9 : List RO := o2 15 (ix 3) [11, 13] [] ::
 o2 16 (lD 3) [15] [15] ::
 o2 5 (.a (.alloc 3 [.str ByteArray.empty, .au, .au])) [] [] ::
 Q8
def Q7 : List RO := o2 20 ln [19] [19] ::
 o2 21 (bI .add) [17, 20] [17,20] ::
 o1 3 21 [21] ::
 []
def Q5 : List RO := o3 29 26 false .c [.f 3, 28, .f 4] [28] ::
 o2 30 (.p (.pick)) [26, .k (.bool true), 29] [26,29] ::
 []
def Q1 : List RO := o3 27 26 false (fa 2) [5] [5] ::
 o3 28 26 false (ld 1) [27] [27] ::
 Q5
def Q6 : List RO := o2 24 ln [23] [23] ::
 o2 25 (bI .gtr) [24, .k (.int .i64 12)] [24] ::
 o1 26 25 [25] ::
 Q1
def C3 : RC := .cond (.s 30) (.seq (.ops (o1 2 (.k (.int .i64 1000)) [] ::
 [])) (.gh (.keep [2] []) (.ret))) (.skip)
def U1 : RC := .seq (.ops (o2 22 (fa 1) [5] [] ::
 o2 23 (ld 1) [22] [22] ::
 Q6)) (C3)
def U2 : RC := .seq (.ops (o1 17 3 [3] ::
 o2 18 (fa 2) [5] [] ::
 o2 19 (ld 1) [18] [18] ::
 Q7)) (U1)
def U3 : RC := .ops (o2 31 (bI .add) [13, .k (.int .i64 1)] [13] ::
 o1 13 31 [31] ::
 [])
def U4 : RC := .seq (.block 1 (.seq (.ops Q9) (U2))) (U3)
def cg : RC := .hg (.seq (.ops (o2 14 (bI .lss) [13, 12] [] ::
 [])) (.seq (C2) (U4))) (.keep [3,11,12,13] [])
def U5 : RC := .block 0 (.gh (.keep [3,11,12,13] []) (.loop cg))
def U6 : RC := .seq (.ops (o1 32 3 [3] ::
 o1 2 32 [32] ::
 [])) (.gh (.keep [2] []) (.ret))
def U7 : RC := .seq (.seq (.ops (o2 10 (fa 0) [1] [1] ::
 o2 11 (ld 1) [10] [10] ::
 Q2)) (U5)) (U6)
def U8 : RC := .seq (.ops (o1 3 (.k (.int .i64 0)) [] ::
 [])) (U7)
def U9 : RC := .seq (.seq (.ops (o2 6 (fa 0) [1] [] ::
 o2 7 (ld 1) [6] [6] ::
 Q3)) (C1)) (U8)
def text : RF := ⟨33, [.s 2], .seq (.ops Q4) (U9)⟩
def F3 : List Fm := [.seq U8]
def F5 : List Fm := [.seq U9]
def F2 : List Fm := [.seq U5, .seq U6]
def F4 : List Fm := .seq C1 :: F3
def F9 : List Fm := [.seq U4, .gst (.keep [3,11,12,13] [])]
def jo : List Fm := [.blk 0, .seq U6]
def F6 : List Fm := [.blk 1, .seq U3, .gst (.keep [3,11,12,13] [])]
def F1 : List Fm := .seq C3 :: F6
def F7 : List Fm := .seq U1 :: F6
def F8 : List Fm := .seq U2 :: F6
end d3
class gy (S : Sys) (T : az) : Prop where
 t : T (S.N 5) = some d3.text
 k : S.E.keep (S.N 5) = false
 c0 : gC S T
 c1 : cr S T
attribute [instance] gy.c0 gy.c1
namespace d3
section
variable {S : Sys} {T : az} [gy S T]
noncomputable def aB (v11 : Sl aS) (v12 : Int) (n3 : Int) (v13 : Int) : Option (Fw (Int × Int) Int Unit) :=
 aL (decide (v13 < v12))
 ((idx v11 v13).bind fun x_1 =>
 (aL (decide ((len x_1.vars) > 12))
 (some true)
 ((aQ x_1.events (fun z => dL z)).bind fun x_2 =>
 some x_2) : Option Bool).bind fun x_3 =>
 aL x_3
 (some (.r ()))
 (some (.n (IntKind.wrap .i64 (n3 + (len x_1.events)), IntKind.wrap .i64 (v13 + 1)))))
 (some (.x n3))
noncomputable def W1 (n3 : Int) (v11 : Sl aS) (v12 : Int) (v13 : Int) : Option Int :=
 (cW (fun q : Int × Int => aB v11 v12 q.1 q.2) (n3, v13)).bind (Fw.elim
 (fun e => some e)
 (fun e => some 1000))
def cJ (S : Sys) (v11 : Sl aS) (v12 : Int) : Int × Int → St := fun q => (af [Iv 3 q.1, Cv 11 v11, Iv 12 v12, Iv 13 q.2] [])
def cL (S : Sys) (v11 : Sl aS) (v12 : Int) : Int → Nat × St := fun e => (0, (af [Iv 3 e] []))
def cM (S : Sys) (v11 : Sl aS) (v12 : Int) : Unit → St := fun e => (af [Iv 2 1000] [])
theorem aY (v11 : Sl aS) (v12 : Int) (n3 : Int) (v13 : Int) : Le ((aB v11 v12 n3 v13).bind (fun w => some (Fw.out (cJ S v11 v12) (cL S v11 v12) (cM S v11 v12) w))) (rn S (ah S T) some (.rc cg) [] (af [Iv 3 n3, Cv 11 v11, Iv 12 v12, Iv 13 v13] [])) := by
 unfold aB
 refine aJ (n := 7) (fo' := .rc C2) (fs' := F9) (t := decide (v13 < v12)) (A := fun bb => (af [Iv 3 n3, Cv 11 v11, Iv 12 v12, Iv 13 v13, Bv 14 bb] [])) (by kernel_rfl) ?_ ?_
 ·refine ey 7 false [] Q9 F8 (af [Iv 3 n3, Cv 11 v11, Iv 12 v12, Iv 13 v13, Bv 14 true] []) .i64 rfl (by kernel_rfl) fun x_1 h_1 => ?_
  refine Ast 2 false [] Q8 F8 (af [Iv 3 n3, Cv 11 v11, Iv 12 v12, Iv 13 v13, Bv 14 true, Cv 16 x_1, Pv 5] [Xb 5 (⟨ByteArray.empty, Sl.nil, Sl.nil⟩ : aS)]) 5 0 x_1 [.v (.str ByteArray.empty), .v .au, .v .au] [.v (.str x_1.name), cv x_1.vars, cv x_1.events] rfl (by kernel_rfl) ?_
  refine dP 7 false [] Q7 F7 (af [Cv 11 v11, Iv 12 v12, Iv 13 v13, Bv 14 true, Pv 5, Iv 17 n3, Cv 19 x_1.events] [Xb 5 x_1]) x_1.events rfl (by kernel_rfl) ?_
  refine dP 8 false [] Q6 F1 (af [Cv 11 v11, Iv 12 v12, Iv 13 v13, Bv 14 true, Pv 5, Iv 3 (IntKind.wrap .i64 (n3 + (len x_1.events))), Cv 23 x_1.vars] [Xb 5 x_1]) x_1.vars rfl (by kernel_rfl) ?_
  refine dw (fun x_3 => rn S (ah S T) some (.ops false [] []) F1 (af [Cv 11 v11, Iv 12 v12, Iv 13 v13, Bv 14 true, Iv 3 (IntKind.wrap .i64 (n3 + (len x_1.events))), Bv 30 x_3] [Xb 5 x_1])) ?_ fun x_3 => ?_
  ·refine aJ (n := 2) (fo' := .ops false [] Q1) (fs' := F1) (t := decide ((len x_1.vars) > 12)) (A := fun bb => (af [Cv 11 v11, Iv 12 v12, Iv 13 v13, Bv 14 true, Pv 5, Iv 3 (IntKind.wrap .i64 (n3 + (len x_1.events))), Bv 26 bb] [Xb 5 x_1])) (by kernel_rfl) ?_ ?_
   ·exact bp (n := 4) (by kernel_rfl) rfl
   ·refine bg 2 [] Q5 F1 (af [Cv 11 v11, Iv 12 v12, Iv 13 v13, Bv 14 true, Iv 3 (IntKind.wrap .i64 (n3 + (len x_1.events))), Bv 26 false, Cv 28 x_1.events] [Xb 5 x_1]) (jE (S := S) (T := T) (S.N 4) [] (fun z => dL z) (fZ.of (tw (S := S) (T := T)) (fun z => z) (fun _ => rfl) (fun _ => rfl) (by simp))) x_1.events rfl (by kernel_rfl) fun x_2 h_2 => ?_
    exact bp (n := 1) (by kernel_rfl) rfl
  ·refine aJ (n := 2) (fo' := .rc C3) (fs' := F6) (t := x_3) (A := fun bb => (af [Cv 11 v11, Iv 12 v12, Iv 13 v13, Bv 14 true, Iv 3 (IntKind.wrap .i64 (n3 + (len x_1.events))), Bv 30 bb] [Xb 5 x_1])) (by kernel_rfl) ?_ ?_
   ·exact av (by kernel_rfl)
   ·exact av (by kernel_rfl)
 ·exact av (by kernel_rfl)
theorem eo (n3 : Int) (v11 : Sl aS) (v12 : Int) (v13 : Int) : Le ((W1 n3 v11 v12 v13).bind (fun r => some [.int .i64 r])) (rn S (ah S T) (cj [.s 2]) (.rc (.loop cg)) jo (af [Iv 3 n3, Cv 11 v11, Iv 12 v12, Iv 13 v13] [])) := by
 unfold W1
 refine eJ (n := 0) (fs := jo) (a := cg) (eσ := cJ S v11 v12) (eε := cL S v11 v12) (eρ := cM S v11 v12) (by kernel_rfl) (fun q => aY v11 v12 q.1 q.2) ?_ ?_
 ·intro e
  exact av (by kernel_rfl)
 ·intro e
  exact av (by kernel_rfl)
end
end d3
noncomputable def d3 (t0 : Trace) : Option Int :=
 aL (decide ((len t0.procs) > 10))
 (some 1000)
 (d3.W1 0 t0.procs (len t0.procs) 0)
open d3 in
theorem yG {S : Sys} {T : az} [gy S T] (t0 : Trace) : Le ((d3 t0).bind fun r => some [.int .i64 r]) (bl (ah S T) (S.N 5) [enc t0]) := by
 refine cZ (gy.t (S := S) (T := T)) (Nat.le_of_ble_eq_true rfl) ?_
 unfold d3
 refine gm 2 false [] Q4 F5 (af [Cv 0 t0] []) t0 rfl (by kernel_rfl) (by kernel_rfl) ?_
 refine dP 8 false [] Q3 F4 (af [Pv 1, Cv 7 t0.procs] [Xb 1 t0]) t0.procs rfl (by kernel_rfl) ?_
 refine aJ (n := 3) (fo' := .rc C1) (fs' := F3) (t := decide ((len t0.procs) > 10)) (A := fun bb => (af [Pv 1, Bv 9 bb] [Xb 1 t0])) (by kernel_rfl) ?_ ?_
 ·exact av (by kernel_rfl)
 ·refine dP 13 false [] Q2 F2 (af [Bv 9 false, Iv 3 0, Cv 11 t0.procs] [Xb 1 t0]) t0.procs rfl (by kernel_rfl) ?_
  exact eY (n := 5) (by kernel_rfl) (eo 0 t0.procs (len t0.procs) 0)
theorem xz {S : Sys} {T : az} [gy S T] : dS S (ah S T) (S.N 5) (fun z : Trace => [enc z]) (fun r : Int => [.int .i64 r]) (fun z => d3 z) true where
 k := gy.k (S := S) (T := T)
 h z := yG z
 l z := by simp
 r r := by simp
 s h r := by kernel_rfl
namespace e7
def Q2 : List RO := o1 6 14 [14] ::
 []
def Q1 : List RO := o3 11 10 true (.p (.id)) [0] [0] ::
 o3 12 10 true (.p (.id)) [2] [2] ::
 o3 13 10 true (bI .leq) [11, 12] [11,12] ::
 o2 14 (.p (.pick)) [10, 13, .k (.bool false)] [10,13] ::
 Q2
def U1 : RC := .seq (.ops (o1 7 0 [] ::
 o1 8 1 [1] ::
 o2 9 (bI .geq) [7, 8] [7,8] ::
 o1 10 9 [9] ::
 Q1)) (.ret)
def text : RF := ⟨15, [.s 6], .seq (.ops (o1 6 (.k (.bool false)) [6] ::
 [])) (U1)⟩
def F1 : List Fm := [.seq .ret]
end e7
class ig (S : Sys) (T : az) : Prop where
 t : T (S.N 6) = some e7.text
 k : S.E.keep (S.N 6) = false
namespace e7
section
variable {S : Sys} {T : az} [ig S T]
end
end e7
noncomputable def e7 (x0 : Int) (low1 : Int) (high2 : Int) : Option Bool :=
 (aL (decide (x0 ≥ low1))
 (some (decide (x0 ≤ high2)))
 (some false) : Option Bool).bind fun x_1 =>
 some x_1
open e7 in
theorem BL {S : Sys} {T : az} [ig S T] (x0 : Int) (low1 : Int) (high2 : Int) : Le ((e7 x0 low1 high2).bind fun r => some [.bool r]) (bl (ah S T) (S.N 6) [.int .i64 x0, .int .i64 low1, .int .i64 high2]) := by
 refine cZ (ig.t (S := S) (T := T)) (Nat.le_of_ble_eq_true rfl) ?_
 unfold e7
 refine dw (fun x_1 => rn S (ah S T) (cj [.s 6]) (.ops false [] Q2) F1 (af [Bv 14 x_1] [])) ?_ fun x_1 => ?_
 ·refine aJ (n := 11) (fo' := .ops false [] Q1) (fs' := F1) (t := decide (x0 ≥ low1)) (A := fun bb => (af [Iv 0 x0, Iv 2 high2, Bv 10 bb] [])) (by kernel_rfl) ?_ ?_
  ·exact bp (n := 4) (by kernel_rfl) rfl
  ·exact bp (n := 4) (by kernel_rfl) rfl
 ·exact av (by kernel_rfl)
theorem jd {S : Sys} {T : az} [ig S T] : dS S (ah S T) (S.N 6) (fun z : Int × Int × Int => [.int .i64 z.1, .int .i64 z.2.1, .int .i64 z.2.2]) (fun r : Bool => [.bool r]) (fun z => e7 z.1 z.2.1 z.2.2) true where
 k := ig.k (S := S) (T := T)
 h z := BL z.1 z.2.1 z.2.2
 l z := by simp
 r r := by simp
 s h r := by kernel_rfl
namespace dQ
def Q5 : List RO := o1 2 16 [16] ::
 []
def Q4 : List RO := o2 16 (.p (.pick)) [9, .k (.bool true), 15] [9,15] ::
 Q5
def Q2 : List RO := o3 13 12 true (.p (.id)) [0] [0] ::
 o3 14 12 true (bI .leq) [13, .k (.int .u8 90)] [13] ::
 o3 15 9 false (.p (.pick)) [12, 14, .k (.bool false)] [12,14] ::
 Q4
def Q3 : List RO := o3 10 9 false (.p (.id)) [0] [] ::
 o3 11 9 false (bI .geq) [10, .k (.int .u8 65)] [10] ::
 o3 12 9 false (.p (.id)) [11] [11] ::
 Q2
def Q6 : List RO := o1 9 8 [8] ::
 Q3
def Q1 : List RO := o3 6 5 true (.p (.id)) [0] [] ::
 o3 7 5 true (bI .leq) [6, .k (.int .u8 122)] [6] ::
 o2 8 (.p (.pick)) [5, 7, .k (.bool false)] [5,7] ::
 Q6
def U1 : RC := .seq (.ops (o1 3 0 [] ::
 o2 4 (bI .geq) [3, .k (.int .u8 97)] [3] ::
 o1 5 4 [4] ::
 Q1)) (.ret)
def text : RF := ⟨17, [.s 2], .seq (.ops (o1 2 (.k (.bool false)) [2] ::
 [])) (U1)⟩
def F1 : List Fm := [.seq .ret]
end dQ
class g_ (S : Sys) (T : az) : Prop where
 t : T (S.N 7) = some dQ.text
 k : S.E.keep (S.N 7) = false
namespace dQ
section
variable {S : Sys} {T : az} [g_ S T]
end
end dQ
noncomputable def dQ (c0 : Int) : Option Bool :=
 (aL (decide (c0 ≥ 97))
 (some (decide (c0 ≤ 122)))
 (some false) : Option Bool).bind fun x_1 =>
 (aL x_1
 (some true)
 ((aL (decide (c0 ≥ 65))
 (some (decide (c0 ≤ 90)))
 (some false) : Option Bool).bind fun x_2 =>
 some x_2) : Option Bool).bind fun x_3 =>
 some x_3
open dQ in
theorem x_ {S : Sys} {T : az} [g_ S T] (c0 : Int) : Le ((dQ c0).bind fun r => some [.bool r]) (bl (ah S T) (S.N 7) [.int .u8 c0]) := by
 refine cZ (g_.t (S := S) (T := T)) (Nat.le_of_ble_eq_true rfl) ?_
 unfold dQ
 refine dw (fun x_1 => rn S (ah S T) (cj [.s 2]) (.ops false [] Q6) F1 (af [(0, .v (.int .u8 c0)), Bv 8 x_1] [])) ?_ fun x_1 => ?_
 ·refine aJ (n := 10) (fo' := .ops false [] Q1) (fs' := F1) (t := decide (c0 ≥ 97)) (A := fun bb => (af [(0, .v (.int .u8 c0)), Bv 5 bb] [])) (by kernel_rfl) ?_ ?_
  ·exact bp (n := 3) (by kernel_rfl) rfl
  ·exact bp (n := 3) (by kernel_rfl) rfl
 ·refine dw (fun x_3 => rn S (ah S T) (cj [.s 2]) (.ops false [] Q5) F1 (af [Bv 16 x_3] [])) ?_ fun x_3 => ?_
  ·refine aJ (n := 1) (fo' := .ops false [] Q3) (fs' := F1) (t := x_1) (A := fun bb => (af [(0, .v (.int .u8 c0)), Bv 9 bb] [])) (by kernel_rfl) ?_ ?_
   ·exact bp (n := 7) (by kernel_rfl) rfl
   ·refine dw (fun x_2 => rn S (ah S T) (cj [.s 2]) (.ops false [] Q4) F1 (af [Bv 9 false, Bv 15 x_2] [])) ?_ fun x_2 => ?_
    ·refine aJ (n := 3) (fo' := .ops false [] Q2) (fs' := F1) (t := decide (c0 ≥ 65)) (A := fun bb => (af [(0, .v (.int .u8 c0)), Bv 9 false, Bv 12 bb] [])) (by kernel_rfl) ?_ ?_
     ·exact bp (n := 3) (by kernel_rfl) rfl
     ·exact bp (n := 3) (by kernel_rfl) rfl
    ·exact bp (n := 1) (by kernel_rfl) rfl
  ·exact av (by kernel_rfl)
theorem qh {S : Sys} {T : az} [g_ S T] : dS S (ah S T) (S.N 7) (fun z : Int => [.int .u8 z]) (fun r : Bool => [.bool r]) (fun z => dQ z) true where
 k := g_.k (S := S) (T := T)
 h z := x_ z
 l z := by simp
 r r := by simp
 s h r := by kernel_rfl
namespace fe
def Q2 : List RO := o1 2 8 [8] ::
 []
def Q1 : List RO := o3 6 5 true (.p (.id)) [0] [0] ::
 o3 7 5 true (bI .leq) [6, .k (.int .u8 57)] [6] ::
 o2 8 (.p (.pick)) [5, 7, .k (.bool false)] [5,7] ::
 Q2
def U1 : RC := .seq (.ops (o1 3 0 [] ::
 o2 4 (bI .geq) [3, .k (.int .u8 48)] [3] ::
 o1 5 4 [4] ::
 Q1)) (.ret)
def text : RF := ⟨9, [.s 2], .seq (.ops (o1 2 (.k (.bool false)) [2] ::
 [])) (U1)⟩
def F1 : List Fm := [.seq .ret]
end fe
class iE (S : Sys) (T : az) : Prop where
 t : T (S.N 8) = some fe.text
 k : S.E.keep (S.N 8) = false
namespace fe
section
variable {S : Sys} {T : az} [iE S T]
end
end fe
noncomputable def fe (c0 : Int) : Option Bool :=
 (aL (decide (c0 ≥ 48))
 (some (decide (c0 ≤ 57)))
 (some false) : Option Bool).bind fun x_1 =>
 some x_1
open fe in
theorem yw {S : Sys} {T : az} [iE S T] (c0 : Int) : Le ((fe c0).bind fun r => some [.bool r]) (bl (ah S T) (S.N 8) [.int .u8 c0]) := by
 refine cZ (iE.t (S := S) (T := T)) (Nat.le_of_ble_eq_true rfl) ?_
 unfold fe
 refine dw (fun x_1 => rn S (ah S T) (cj [.s 2]) (.ops false [] Q2) F1 (af [Bv 8 x_1] [])) ?_ fun x_1 => ?_
 ·refine aJ (n := 10) (fo' := .ops false [] Q1) (fs' := F1) (t := decide (c0 ≥ 48)) (A := fun bb => (af [(0, .v (.int .u8 c0)), Bv 5 bb] [])) (by kernel_rfl) ?_ ?_
  ·exact bp (n := 3) (by kernel_rfl) rfl
  ·exact bp (n := 3) (by kernel_rfl) rfl
 ·exact av (by kernel_rfl)
theorem xH {S : Sys} {T : az} [iE S T] : dS S (ah S T) (S.N 8) (fun z : Int => [.int .u8 z]) (fun r : Bool => [.bool r]) (fun z => fe z) true where
 k := iE.k (S := S) (T := T)
 h z := yw z
 l z := by simp
 r r := by simp
 s h r := by kernel_rfl
namespace c7
def Q5 : List RO := o3 14 11 false .c [.f 7, 13] [13] ::
 o3 15 11 false (.p (.not)) [14] [14] ::
 o2 16 (.p (.pick)) [11, .k (.bool true), 15] [11,15] ::
 []
def Q6 : List RO := o3 13 11 false (.p (.idxStr)) [12, .k (.int .i64 0)] [12] ::
 Q5
def Q2 : List RO := o3 12 11 false (.p (.id)) [0] [] ::
 Q6
def Q7 : List RO := o1 11 10 [10] ::
 Q2
def Q1 : List RO := o3 7 6 false (.p (.id)) [0] [] ::
 o3 8 6 false (.p (.lenStr)) [7] [7] ::
 o3 9 6 false (bI .gtr) [8, .k (.int .i64 16)] [8] ::
 o2 10 (.p (.pick)) [6, .k (.bool true), 9] [6,9] ::
 Q7
def C1 : RC := .cond (.s 16) (.seq (.ops (o1 2 (.k (.bool false)) [] ::
 [])) (.gh (.keep [2] []) (.ret))) (.skip)
def C2 : RC := .cond (.s 20) (.skip) (.gh (.keep [] []) (.exit 0))
def gO : List RO := o3 37 34 true (.p (.idxStr)) [35, 36] [35,36] ::
 o3 38 34 true (bI .neq) [37, .k (.int .u8 95)] [37] ::
 o2 39 (.p (.pick)) [34, 38, .k (.bool false)] [34,38] ::
 []
def Q4 : List RO := o3 35 34 true (.p (.id)) [0] [] ::
 o3 36 34 true (.p (.id)) [3] [3] ::
 gO
def iQ : List RO := o1 34 33 [33] ::
 Q4
def Q8 : List RO := o3 31 27 true .c [.f 8, 30] [30] ::
 o3 32 27 true (.p (.not)) [31] [31] ::
 o2 33 (.p (.pick)) [27, 32, .k (.bool false)] [27,32] ::
 iQ
def Q9 : List RO := o3 30 27 true (.p (.idxStr)) [28, 29] [28,29] ::
 Q8
def Q3 : List RO := o3 28 27 true (.p (.id)) [0] [] ::
 o3 29 27 true (.p (.id)) [3] [] ::
 Q9
def jR : List RO := o2 25 .c [.f 7, 24] [24] ::
 o2 26 (.p (.not)) [25] [25] ::
 o1 27 26 [26] ::
 Q3
def jO : List RO := o2 24 (.p (.idxStr)) [22, 23] [22,23] ::
 jR
def C3 : RC := .cond (.s 39) (.seq (.ops (o1 2 (.k (.bool false)) [] ::
 [])) (.gh (.keep [2] []) (.ret))) (.skip)
def U1 : RC := .seq (.ops (o1 22 0 [] ::
 o1 23 3 [] ::
 jO)) (C3)
def U2 : RC := .ops (o2 40 (bI .add) [19, .k (.int .i64 1)] [19] ::
 o1 19 40 [40] ::
 [])
def U3 : RC := .seq (.block 1 (.seq (.ops (o1 21 19 [] ::
 o1 3 21 [21] ::
 [])) (U1))) (U2)
def cg : RC := .hg (.seq (.ops (o2 20 (bI .lss) [19, 18] [] ::
 [])) (.seq (C2) (U3))) (.keep [0,18,19] [])
def U4 : RC := .block 0 (.gh (.keep [0,18,19] []) (.loop cg))
def U5 : RC := .seq (.ops (o1 2 (.k (.bool true)) [] ::
 [])) (.gh (.keep [2] []) (.ret))
def U6 : RC := .seq (.seq (.ops (o1 17 0 [] ::
 o2 18 (.p (.lenStr)) [17] [17] ::
 o1 19 (.k (.int .i64 0)) [] ::
 [])) (U4)) (U5)
def U7 : RC := .seq (.seq (.ops (o1 4 0 [] ::
 o2 5 (.p (.bin (some .str) none .eql)) [4, .k (.str ByteArray.empty)] [4] ::
 o1 6 5 [5] ::
 Q1)) (C1)) (U6)
def text : RF := ⟨41, [.s 2], .seq (.ops (o1 2 (.k (.bool false)) [2] ::
 [])) (U7)⟩
def F3 : List Fm := [.seq U6]
def F1 : List Fm := .seq C1 :: F3
def F5 : List Fm := [.seq U3, .gst (.keep [0,18,19] [])]
def F6 : List Fm := [.blk 0, .seq U5]
def F4 : List Fm := [.blk 1, .seq U2, .gst (.keep [0,18,19] [])]
def F2 : List Fm := .seq C3 :: F4
end c7
class gb (S : Sys) (T : az) : Prop where
 t : T (S.N 9) = some c7.text
 k : S.E.keep (S.N 9) = false
 c0 : iE S T
 c1 : g_ S T
attribute [instance] gb.c0 gb.c1
namespace c7
section
variable {S : Sys} {T : az} [gb S T]
noncomputable def aB (s0 : ByteArray) (v18 : Int) (v19 : Int) : Option (Fw Int Unit Unit) :=
 aL (decide (v19 < v18))
 ((jL s0 v19).bind fun x_1 =>
 (dQ x_1).bind fun x_2 =>
 (aL x_2
 (some false)
 ((jL s0 v19).bind fun x_3 =>
 (fe x_3).bind fun x_4 =>
 some (!x_4)) : Option Bool).bind fun x_5 =>
 (aL x_5
 ((jL s0 v19).bind fun x_6 =>
 some (!(x_6 == 95)))
 (some false) : Option Bool).bind fun x_7 =>
 aL x_7
 (some (.r ()))
 (some (.n (IntKind.wrap .i64 (v19 + 1)))))
 (some (.x ()))
noncomputable def W1 (s0 : ByteArray) (v18 : Int) (v19 : Int) : Option Bool :=
 (cW (fun q : Int => aB s0 v18 q) v19).bind (Fw.elim
 (fun e => some true)
 (fun e => some false))
def cJ (S : Sys) (s0 : ByteArray) (v18 : Int) : Int → St := fun q => (af [(0, .v (.str s0)), Iv 18 v18, Iv 19 q] [])
def cL (S : Sys) (s0 : ByteArray) (v18 : Int) : Unit → Nat × St := fun e => (0, (af [] []))
def cM (S : Sys) (s0 : ByteArray) (v18 : Int) : Unit → St := fun e => (af [Bv 2 false] [])
theorem aY (s0 : ByteArray) (v18 : Int) (v19 : Int) : Le ((aB s0 v18 v19).bind (fun w => some (Fw.out (cJ S s0 v18) (cL S s0 v18) (cM S s0 v18) w))) (rn S (ah S T) some (.rc cg) [] (af [(0, .v (.str s0)), Iv 18 v18, Iv 19 v19] [])) := by
 unfold aB
 refine aJ (n := 7) (fo' := .rc C2) (fs' := F5) (t := decide (v19 < v18)) (A := fun bb => (af [(0, .v (.str s0)), Iv 18 v18, Iv 19 v19, Bv 20 bb] [])) (by kernel_rfl) ?_ ?_
 ·refine Cq 15 false [] jO F2 (af [(0, .v (.str s0)), Iv 18 v18, Iv 19 v19, Bv 20 true, Iv 3 v19, (22, .v (.str s0)), Iv 23 v19] []) .i64 rfl (by kernel_rfl) fun x_1 h_1 => ?_
  refine bg 0 [] jR F2 (af [(0, .v (.str s0)), Iv 18 v18, Iv 19 v19, Bv 20 true, Iv 3 v19, (24, .v (.int .u8 x_1))] []) (qh (S := S) (T := T)) x_1 rfl (by kernel_rfl) fun x_2 h_2 => ?_
  refine dw (fun x_5 => rn S (ah S T) some (.ops false [] iQ) F2 (af [(0, .v (.str s0)), Iv 18 v18, Iv 19 v19, Bv 20 true, Iv 3 v19, Bv 33 x_5] [])) ?_ fun x_5 => ?_
  ·refine aJ (n := 2) (fo' := .ops false [] Q3) (fs' := F2) (t := x_2) (A := fun bb => (af [(0, .v (.str s0)), Iv 18 v18, Iv 19 v19, Bv 20 true, Iv 3 v19, Bv 27 (!bb)] [])) (by kernel_rfl) ?_ ?_
   ·exact bp (n := 6) (by kernel_rfl) rfl
   ·refine Cq 2 false [] Q9 F2 (af [(0, .v (.str s0)), Iv 18 v18, Iv 19 v19, Bv 20 true, Iv 3 v19, Bv 27 true, (28, .v (.str s0)), Iv 29 v19] []) .i64 rfl (by kernel_rfl) fun x_3 h_3 => ?_
    refine bg 0 [] Q8 F2 (af [(0, .v (.str s0)), Iv 18 v18, Iv 19 v19, Bv 20 true, Iv 3 v19, Bv 27 true, (30, .v (.int .u8 x_3))] []) (xH (S := S) (T := T)) x_3 rfl (by kernel_rfl) fun x_4 h_4 => ?_
    exact bp (n := 2) (by kernel_rfl) rfl
  ·refine dw (fun x_7 => rn S (ah S T) some (.ops false [] []) F2 (af [(0, .v (.str s0)), Iv 18 v18, Iv 19 v19, Bv 20 true, Bv 39 x_7] [])) ?_ fun x_7 => ?_
   ·refine aJ (n := 1) (fo' := .ops false [] Q4) (fs' := F2) (t := x_5) (A := fun bb => (af [(0, .v (.str s0)), Iv 18 v18, Iv 19 v19, Bv 20 true, Iv 3 v19, Bv 34 bb] [])) (by kernel_rfl) ?_ ?_
    ·refine Cq 2 false [] gO F2 (af [(0, .v (.str s0)), Iv 18 v18, Iv 19 v19, Bv 20 true, Bv 34 true, (35, .v (.str s0)), Iv 36 v19] []) .i64 rfl (by kernel_rfl) fun x_6 h_6 => ?_
     exact bp (n := 2) (by kernel_rfl) rfl
    ·exact bp (n := 5) (by kernel_rfl) rfl
   ·refine aJ (n := 2) (fo' := .rc C3) (fs' := F4) (t := x_7) (A := fun bb => (af [(0, .v (.str s0)), Iv 18 v18, Iv 19 v19, Bv 20 true, Bv 39 bb] [])) (by kernel_rfl) ?_ ?_
    ·exact av (by kernel_rfl)
    ·exact av (by kernel_rfl)
 ·exact av (by kernel_rfl)
theorem eo (s0 : ByteArray) (v18 : Int) (v19 : Int) : Le ((W1 s0 v18 v19).bind (fun r => some [.bool r])) (rn S (ah S T) (cj [.s 2]) (.rc (.loop cg)) F6 (af [(0, .v (.str s0)), Iv 18 v18, Iv 19 v19] [])) := by
 unfold W1
 refine eJ (n := 0) (fs := F6) (a := cg) (eσ := cJ S s0 v18) (eε := cL S s0 v18) (eρ := cM S s0 v18) (by kernel_rfl) (fun q => aY s0 v18 q) ?_ ?_
 ·intro e
  exact av (by kernel_rfl)
 ·intro e
  exact av (by kernel_rfl)
end
end c7
noncomputable def c7 (s0 : ByteArray) : Option Bool :=
 (aL (ByteArray.toList s0 == ByteArray.toList ByteArray.empty)
 (some true)
 (some (decide (((ByteArray.size s0 : Nat) : Int) > 16))) : Option Bool).bind fun x_1 =>
 (aL x_1
 (some true)
 ((jL s0 0).bind fun x_2 =>
 (dQ x_2).bind fun x_3 =>
 some (!x_3)) : Option Bool).bind fun x_4 =>
 aL x_4
 (some false)
 (c7.W1 s0 ((ByteArray.size s0 : Nat) : Int) 0)
open c7 in
theorem xA {S : Sys} {T : az} [gb S T] (s0 : ByteArray) : Le ((c7 s0).bind fun r => some [.bool r]) (bl (ah S T) (S.N 9) [.str s0]) := by
 refine cZ (gb.t (S := S) (T := T)) (Nat.le_of_ble_eq_true rfl) ?_
 unfold c7
 refine dw (fun x_1 => rn S (ah S T) (cj [.s 2]) (.ops false [] Q7) F1 (af [(0, .v (.str s0)), Bv 10 x_1] [])) ?_ fun x_1 => ?_
 ·refine aJ (n := 11) (fo' := .ops false [] Q1) (fs' := F1) (t := (ByteArray.toList s0 == ByteArray.toList ByteArray.empty)) (A := fun bb => (af [(0, .v (.str s0)), Bv 6 bb] [])) (by kernel_rfl) ?_ ?_
  ·exact bp (n := 4) (by kernel_rfl) rfl
  ·exact bp (n := 4) (by kernel_rfl) rfl
 ·refine dw (fun x_4 => rn S (ah S T) (cj [.s 2]) (.ops false [] []) F1 (af [(0, .v (.str s0)), Bv 16 x_4] [])) ?_ fun x_4 => ?_
  ·refine aJ (n := 1) (fo' := .ops false [] Q2) (fs' := F1) (t := x_1) (A := fun bb => (af [(0, .v (.str s0)), Bv 11 bb] [])) (by kernel_rfl) ?_ ?_
   ·exact bp (n := 5) (by kernel_rfl) rfl
   ·refine Cq 1 false [] Q6 F1 (af [(0, .v (.str s0)), Bv 11 false, (12, .v (.str s0))] []) .i64 rfl (by kernel_rfl) fun x_2 h_2 => ?_
    refine bg 0 [] Q5 F1 (af [(0, .v (.str s0)), Bv 11 false, (13, .v (.int .u8 x_2))] []) (qh (S := S) (T := T)) x_2 rfl (by kernel_rfl) fun x_3 h_3 => ?_
    exact bp (n := 2) (by kernel_rfl) rfl
  ·refine aJ (n := 2) (fo' := .rc C1) (fs' := F3) (t := x_4) (A := fun bb => (af [(0, .v (.str s0)), Bv 16 bb] [])) (by kernel_rfl) ?_ ?_
   ·exact av (by kernel_rfl)
   ·exact eY (n := 13) (by kernel_rfl) (eo s0 ((ByteArray.size s0 : Nat) : Int) 0)
theorem qf {S : Sys} {T : az} [gb S T] : dS S (ah S T) (S.N 9) (fun z : ByteArray => [.str z]) (fun r : Bool => [.bool r]) (fun z => c7 z) true where
 k := gb.k (S := S) (T := T)
 h z := xA z
 l z := by simp
 r r := by simp
 s h r := by kernel_rfl
namespace bJ
def Q1 : List RO := o2 2 (.a .box) [0] [0] ::
 o1 3 (.k (.bool false)) [3] ::
 []
def U1 : RC := .seq (.ops (o2 4 (fa 0) [2] [2] ::
 o2 5 (ld 1) [4] [4] ::
 o2 6 (fa 0) [1] [1] ::
 o2 7 (ld 1) [6] [6] ::
 o2 8 (.p (.bin (some .str) none .eql)) [5, 7] [5,7] ::
 o1 3 8 [8] ::
 [])) (.ret)
def text : RF := ⟨9, [.s 3], .seq (.ops Q1) (U1)⟩
def F1 : List Fm := [.seq U1]
end bJ
class eF (S : Sys) (T : az) : Prop where
 t : T (S.N 10) = some bJ.text
 k : S.E.keep (S.N 10) = false
namespace bJ
section
variable {S : Sys} {T : az} [eF S T]
end
end bJ
noncomputable def bJ (y0 : aS) (v1 : aS) : Option Bool :=
 some (ByteArray.toList y0.name == ByteArray.toList v1.name)
open bJ in
theorem qp {S : Sys} {T : az} [eF S T] (y0 : aS) (v1 : aS) : Le ((bJ y0 v1).bind fun r => some [.bool r]) (bl (ah S T) (S.N 10) [enc y0, .fptr (cells v1)]) := by
 refine cZ (eF.t (S := S) (T := T)) (Nat.le_of_ble_eq_true rfl) ?_
 unfold bJ
 refine gm 2 false [] Q1 F1 (af [Cv 0 y0, Kv 1 v1] []) y0 rfl (by kernel_rfl) (by kernel_rfl) ?_
 exact av (by kernel_rfl)
theorem pE {S : Sys} {T : az} [eF S T] : dS S (ah S T) (S.N 10) (fun z : aS × aS => [enc z.1, .fptr (cells z.2)]) (fun r : Bool => [.bool r]) (fun z => bJ z.1 z.2) true where
 k := eF.k (S := S) (T := T)
 h z := qp z.1 z.2
 l z := by simp
 r r := by simp
 s h r := by kernel_rfl
namespace bF
def Q1 : List RO := o2 7 ln [6] [6] ::
 o1 8 (.k (.int .i64 0)) [] ::
 []
def C1 : RC := .cond (.s 9) (.skip) (.gh (.keep [] []) (.exit 0))
def Q2 : List RO := o2 16 .c [11, 15] [11,15] ::
 []
def Q3 : List RO := o2 14 (ix 3) [12, 13] [12,13] ::
 o2 15 (lD 3) [14] [14] ::
 Q2
def C2 : RC := .cond (.s 16) (.seq (.ops (o1 17 5 [5] ::
 o1 4 17 [17] ::
 [])) (.gh (.keep [4] []) (.ret))) (.skip)
def U1 : RC := .seq (.ops (o1 11 1 [] ::
 o1 12 0 [] ::
 o1 13 5 [] ::
 Q3)) (C2)
def U2 : RC := .ops (o2 18 (bI .add) [8, .k (.int .i64 1)] [8] ::
 o1 8 18 [18] ::
 [])
def U3 : RC := .seq (.block 1 (.seq (.ops (o1 10 8 [] ::
 o1 5 10 [10] ::
 [])) (U1))) (U2)
def cg : RC := .hg (.seq (.ops (o2 9 (bI .lss) [8, 7] [] ::
 [])) (.seq (C1) (U3))) (.keep [0,1,7,8] [])
def U4 : RC := .block 0 (.gh (.keep [0,1,7,8] []) (.loop cg))
def U5 : RC := .seq (.ops (o1 4 (.k (.int .i64 (-1))) [] ::
 [])) (.gh (.keep [4] []) (.ret))
def U6 : RC := .seq (.seq (.ops (o1 6 0 [] ::
 Q1)) (U4)) (U5)
def text : RF := ⟨19, [.s 4], .seq (.ops (o1 4 (.k (.int .i64 0)) [4] ::
 [])) (U6)⟩
def F1 : List Fm := [.seq U4, .seq U5]
def F4 : List Fm := [.seq U3, .gst (.keep [0,1,7,8] [])]
def F5 : List Fm := [.blk 0, .seq U5]
def F2 : List Fm := [.blk 1, .seq U2, .gst (.keep [0,1,7,8] [])]
def F3 : List Fm := .seq C2 :: F2
end bF
class eE (S : Sys) (T : az) : Prop where
 t : T (S.N 11) = some bF.text
 k : S.E.keep (S.N 11) = false
namespace bF
section
variable {S : Sys} {T : az} [eE S T]
noncomputable def aB (s0 : Sl aS) (v7 : Int) (v8 : Int) (p1 : aS → Option Bool) : Option (Fw Int Unit Int) :=
 aL (decide (v8 < v7))
 ((idx s0 v8).bind fun x_1 =>
 (p1 x_1).bind fun x_2 =>
 aL x_2
 (some (.r v8))
 (some (.n (IntKind.wrap .i64 (v8 + 1)))))
 (some (.x ()))
noncomputable def W1 (s0 : Sl aS) (v7 : Int) (v8 : Int) (p1 : aS → Option Bool) : Option Int :=
 (cW (fun q : Int => aB s0 v7 q p1) v8).bind (Fw.elim
 (fun e => some (-1))
 (fun e => some e))
def cJ (S : Sys) (g1 : FuncId) (e1 : List V) (s0 : Sl aS) (v7 : Int) : Int → St := fun q => (af [Cv 0 s0, (1, .v (.clo g1 [] e1)), Iv 7 v7, Iv 8 q] [])
def cL (S : Sys) (g1 : FuncId) (e1 : List V) (s0 : Sl aS) (v7 : Int) : Unit → Nat × St := fun e => (0, (af [] []))
def cM (S : Sys) (g1 : FuncId) (e1 : List V) (s0 : Sl aS) (v7 : Int) : Int → St := fun e => (af [Iv 4 e] [])
theorem aY (g1 : FuncId) (e1 : List V) (p1 : aS → Option Bool) (h1 : fZ S (ah S T) g1 e1 (fun z : aS => [enc z]) (fun r : Bool => [.bool r]) p1) (s0 : Sl aS) (v7 : Int) (v8 : Int) : Le ((aB s0 v7 v8 p1).bind (fun w => some (Fw.out (cJ S g1 e1 s0 v7) (cL S g1 e1 s0 v7) (cM S g1 e1 s0 v7) w))) (rn S (ah S T) some (.rc cg) [] (af [Cv 0 s0, (1, .v (.clo g1 [] e1)), Iv 7 v7, Iv 8 v8] [])) := by
 unfold aB
 refine aJ (n := 7) (fo' := .rc C1) (fs' := F4) (t := decide (v8 < v7)) (A := fun bb => (af [Cv 0 s0, (1, .v (.clo g1 [] e1)), Iv 7 v7, Iv 8 v8, Bv 9 bb] [])) (by kernel_rfl) ?_ ?_
 ·refine ey 16 false [] Q3 F3 (af [Cv 0 s0, (1, .v (.clo g1 [] e1)), Iv 7 v7, Iv 8 v8, Bv 9 true, Iv 5 v8, (11, .v (.clo g1 [] e1)), Cv 12 s0, Iv 13 v8] []) .i64 rfl (by kernel_rfl) fun x_1 h_1 => ?_
  refine rQ 1 false [] Q2 F3 (af [Cv 0 s0, (1, .v (.clo g1 [] e1)), Iv 7 v7, Iv 8 v8, Bv 9 true, Iv 5 v8, (11, .v (.clo g1 [] e1)), Cv 15 x_1] []) h1.f x_1 e1 [enc x_1] rfl rfl (by kernel_rfl) fun x_2 h_2 => ?_
  refine aJ (n := 2) (fo' := .rc C2) (fs' := F2) (t := x_2) (A := fun bb => (af [Cv 0 s0, (1, .v (.clo g1 [] e1)), Iv 7 v7, Iv 8 v8, Bv 9 true, Iv 5 v8, Bv 16 bb] [])) (by kernel_rfl) ?_ ?_
  ·exact av (by kernel_rfl)
  ·exact av (by kernel_rfl)
 ·exact av (by kernel_rfl)
theorem eo (g1 : FuncId) (e1 : List V) (p1 : aS → Option Bool) (h1 : fZ S (ah S T) g1 e1 (fun z : aS => [enc z]) (fun r : Bool => [.bool r]) p1) (s0 : Sl aS) (v7 : Int) (v8 : Int) : Le ((W1 s0 v7 v8 p1).bind (fun r => some [.int .i64 r])) (rn S (ah S T) (cj [.s 4]) (.rc (.loop cg)) F5 (af [Cv 0 s0, (1, .v (.clo g1 [] e1)), Iv 7 v7, Iv 8 v8] [])) := by
 unfold W1
 refine eJ (n := 0) (fs := F5) (a := cg) (eσ := cJ S g1 e1 s0 v7) (eε := cL S g1 e1 s0 v7) (eρ := cM S g1 e1 s0 v7) (by kernel_rfl) (fun q => aY g1 e1 p1 h1 s0 v7 q) ?_ ?_
 ·intro e
  exact av (by kernel_rfl)
 ·intro e
  exact av (by kernel_rfl)
end
end bF
noncomputable def bF (s0 : Sl aS) (p1 : aS → Option Bool) : Option Int :=
 bF.W1 s0 (len s0) 0 p1
open bF in
theorem qa {S : Sys} {T : az} [eE S T] (g1 : FuncId) (e1 : List V) (p1 : aS → Option Bool) (h1 : fZ S (ah S T) g1 e1 (fun z : aS => [enc z]) (fun r : Bool => [.bool r]) p1) (s0 : Sl aS) : Le ((bF s0 p1).bind fun r => some [.int .i64 r]) (bl (ah S T) (S.N 11) [enc s0, .clo g1 [] e1]) := by
 refine cZ (eE.t (S := S) (T := T)) (Nat.le_of_ble_eq_true rfl) ?_
 unfold bF
 refine dP 9 false [] Q1 F1 (af [Cv 0 s0, (1, .v (.clo g1 [] e1)), Cv 6 s0] []) s0 rfl (by kernel_rfl) ?_
 exact eY (n := 5) (by kernel_rfl) (eo g1 e1 p1 h1 s0 (len s0) 0)
theorem pD {S : Sys} {T : az} [eE S T] (g1 : FuncId) (e1 : List V) (p1 : aS → Option Bool) (h1 : fZ S (ah S T) g1 e1 (fun z : aS => [enc z]) (fun r : Bool => [.bool r]) p1) : dS S (ah S T) (S.N 11) (fun z : Sl aS => [enc z, .clo g1 [] e1]) (fun r : Int => [.int .i64 r]) (fun z => bF z p1) true where
 k := eE.k (S := S) (T := T)
 h z := qa g1 e1 p1 h1 z
 l z := by simp [h1.d]
 r r := by simp
 s h r := by kernel_rfl
namespace bf
def Q1 : List RO := o2 7 .c [.f 11, 5, 6] [5,6] ::
 o2 8 (bI .geq) [7, .k (.int .i64 0)] [7] ::
 o1 4 8 [8] ::
 []
def U1 : RC := .seq (.ops (o1 5 0 [0] ::
 o1 6 1 [1] ::
 Q1)) (.ret)
def text : RF := ⟨9, [.s 4], .seq (.ops (o1 4 (.k (.bool false)) [4] ::
 [])) (U1)⟩
def F1 : List Fm := [.seq .ret]
end bf
class cX (S : Sys) (T : az) : Prop where
 t : T (S.N 12) = some bf.text
 k : S.E.keep (S.N 12) = false
 c0 : eE S T
attribute [instance] cX.c0
namespace bf
section
variable {S : Sys} {T : az} [cX S T]
end
end bf
noncomputable def bf (s0 : Sl aS) (p1 : aS → Option Bool) : Option Bool :=
 (bF s0 p1).bind fun x_1 =>
 some (decide (x_1 ≥ 0))
open bf in
theorem ou {S : Sys} {T : az} [cX S T] (g1 : FuncId) (e1 : List V) (p1 : aS → Option Bool) (h1 : fZ S (ah S T) g1 e1 (fun z : aS => [enc z]) (fun r : Bool => [.bool r]) p1) (s0 : Sl aS) : Le ((bf s0 p1).bind fun r => some [.bool r]) (bl (ah S T) (S.N 12) [enc s0, .clo g1 [] e1]) := by
 refine cZ (cX.t (S := S) (T := T)) (Nat.le_of_ble_eq_true rfl) ?_
 unfold bf
 refine bg 9 [] Q1 F1 (af [Cv 5 s0, (6, .v (.clo g1 [] e1))] []) (pD (S := S) (T := T) g1 e1 p1 h1) s0 rfl (by kernel_rfl) fun x_1 h_1 => ?_
 exact av (by kernel_rfl)
theorem nT {S : Sys} {T : az} [cX S T] (g1 : FuncId) (e1 : List V) (p1 : aS → Option Bool) (h1 : fZ S (ah S T) g1 e1 (fun z : aS => [enc z]) (fun r : Bool => [.bool r]) p1) : dS S (ah S T) (S.N 12) (fun z : Sl aS => [enc z, .clo g1 [] e1]) (fun r : Bool => [.bool r]) (fun z => bf z p1) true where
 k := cX.k (S := S) (T := T)
 h z := ou g1 e1 p1 h1 z
 l z := by simp [h1.d]
 r r := by simp
 s h r := by kernel_rfl
namespace bH
def U1 : RC := .seq (.ops (o2 4 (fa 0) [2] [2] ::
 o2 5 (ld 1) [4] [4] ::
 o2 6 (fa 0) [1] [1] ::
 o2 7 (ld 1) [6] [6] ::
 o2 8 (.p (.bin (some .str) none .eql)) [5, 7] [5,7] ::
 o1 3 8 [8] ::
 [])) (.ret)
def text : RF := ⟨9, [.s 3], .seq (.ops (o2 2 (.a .box) [0] [0] ::
 o1 3 (.k (.bool false)) [3] ::
 [])) (U1)⟩
end bH
class eC (S : Sys) (T : az) : Prop where
 t : T (S.N 13) = some bH.text
 k : S.E.keep (S.N 13) = false
namespace bH
section
variable {S : Sys} {T : az} [eC S T]
end
end bH
noncomputable def bH (w0 : Var) (v1 : Var) : Option Bool :=
 some (ByteArray.toList w0.name == ByteArray.toList v1.name)
open bH in
theorem qm {S : Sys} {T : az} [eC S T] (w0 : Var) (v1 : Var) : Le ((bH w0 v1).bind fun r => some [.bool r]) (bl (ah S T) (S.N 13) [enc w0, .fptr (cells v1)]) := by
 refine cZ (eC.t (S := S) (T := T)) (Nat.le_of_ble_eq_true rfl) ?_
 unfold bH
 exact av (by kernel_rfl)
theorem pG {S : Sys} {T : az} [eC S T] : dS S (ah S T) (S.N 13) (fun z : Var × Var => [enc z.1, .fptr (cells z.2)]) (fun r : Bool => [.bool r]) (fun z => bH z.1 z.2) true where
 k := eC.k (S := S) (T := T)
 h z := qm z.1 z.2
 l z := by simp
 r r := by simp
 s h r := by kernel_rfl
namespace bU
def Q1 : List RO := o2 7 ln [6] [6] ::
 o1 8 (.k (.int .i64 0)) [] ::
 []
def C1 : RC := .cond (.s 9) (.skip) (.gh (.keep [] []) (.exit 0))
def Q2 : List RO := o2 16 .c [11, 15] [11,15] ::
 []
def Q3 : List RO := o2 14 (ix 2) [12, 13] [12,13] ::
 o2 15 (lD 2) [14] [14] ::
 Q2
def C2 : RC := .cond (.s 16) (.seq (.ops (o1 17 5 [5] ::
 o1 4 17 [17] ::
 [])) (.gh (.keep [4] []) (.ret))) (.skip)
def U1 : RC := .seq (.ops (o1 11 1 [] ::
 o1 12 0 [] ::
 o1 13 5 [] ::
 Q3)) (C2)
def U2 : RC := .ops (o2 18 (bI .add) [8, .k (.int .i64 1)] [8] ::
 o1 8 18 [18] ::
 [])
def U3 : RC := .seq (.block 1 (.seq (.ops (o1 10 8 [] ::
 o1 5 10 [10] ::
 [])) (U1))) (U2)
def cg : RC := .hg (.seq (.ops (o2 9 (bI .lss) [8, 7] [] ::
 [])) (.seq (C1) (U3))) (.keep [0,1,7,8] [])
def U4 : RC := .block 0 (.gh (.keep [0,1,7,8] []) (.loop cg))
def U5 : RC := .seq (.ops (o1 4 (.k (.int .i64 (-1))) [] ::
 [])) (.gh (.keep [4] []) (.ret))
def U6 : RC := .seq (.seq (.ops (o1 6 0 [] ::
 Q1)) (U4)) (U5)
def text : RF := ⟨19, [.s 4], .seq (.ops (o1 4 (.k (.int .i64 0)) [4] ::
 [])) (U6)⟩
def F1 : List Fm := [.seq U4, .seq U5]
def F4 : List Fm := [.seq U3, .gst (.keep [0,1,7,8] [])]
def F5 : List Fm := [.blk 0, .seq U5]
def F2 : List Fm := [.blk 1, .seq U2, .gst (.keep [0,1,7,8] [])]
def F3 : List Fm := .seq C2 :: F2
end bU
class eO (S : Sys) (T : az) : Prop where
 t : T (S.N 14) = some bU.text
 k : S.E.keep (S.N 14) = false
namespace bU
section
variable {S : Sys} {T : az} [eO S T]
noncomputable def aB (s0 : Sl Var) (v7 : Int) (v8 : Int) (p1 : Var → Option Bool) : Option (Fw Int Unit Int) :=
 aL (decide (v8 < v7))
 ((idx s0 v8).bind fun x_1 =>
 (p1 x_1).bind fun x_2 =>
 aL x_2
 (some (.r v8))
 (some (.n (IntKind.wrap .i64 (v8 + 1)))))
 (some (.x ()))
noncomputable def W1 (s0 : Sl Var) (v7 : Int) (v8 : Int) (p1 : Var → Option Bool) : Option Int :=
 (cW (fun q : Int => aB s0 v7 q p1) v8).bind (Fw.elim
 (fun e => some (-1))
 (fun e => some e))
def cJ (S : Sys) (g1 : FuncId) (e1 : List V) (s0 : Sl Var) (v7 : Int) : Int → St := fun q => (af [Cv 0 s0, (1, .v (.clo g1 [] e1)), Iv 7 v7, Iv 8 q] [])
def cL (S : Sys) (g1 : FuncId) (e1 : List V) (s0 : Sl Var) (v7 : Int) : Unit → Nat × St := fun e => (0, (af [] []))
def cM (S : Sys) (g1 : FuncId) (e1 : List V) (s0 : Sl Var) (v7 : Int) : Int → St := fun e => (af [Iv 4 e] [])
theorem aY (g1 : FuncId) (e1 : List V) (p1 : Var → Option Bool) (h1 : fZ S (ah S T) g1 e1 (fun z : Var => [enc z]) (fun r : Bool => [.bool r]) p1) (s0 : Sl Var) (v7 : Int) (v8 : Int) : Le ((aB s0 v7 v8 p1).bind (fun w => some (Fw.out (cJ S g1 e1 s0 v7) (cL S g1 e1 s0 v7) (cM S g1 e1 s0 v7) w))) (rn S (ah S T) some (.rc cg) [] (af [Cv 0 s0, (1, .v (.clo g1 [] e1)), Iv 7 v7, Iv 8 v8] [])) := by
 unfold aB
 refine aJ (n := 7) (fo' := .rc C1) (fs' := F4) (t := decide (v8 < v7)) (A := fun bb => (af [Cv 0 s0, (1, .v (.clo g1 [] e1)), Iv 7 v7, Iv 8 v8, Bv 9 bb] [])) (by kernel_rfl) ?_ ?_
 ·refine ey 16 false [] Q3 F3 (af [Cv 0 s0, (1, .v (.clo g1 [] e1)), Iv 7 v7, Iv 8 v8, Bv 9 true, Iv 5 v8, (11, .v (.clo g1 [] e1)), Cv 12 s0, Iv 13 v8] []) .i64 rfl (by kernel_rfl) fun x_1 h_1 => ?_
  refine rQ 1 false [] Q2 F3 (af [Cv 0 s0, (1, .v (.clo g1 [] e1)), Iv 7 v7, Iv 8 v8, Bv 9 true, Iv 5 v8, (11, .v (.clo g1 [] e1)), Cv 15 x_1] []) h1.f x_1 e1 [enc x_1] rfl rfl (by kernel_rfl) fun x_2 h_2 => ?_
  refine aJ (n := 2) (fo' := .rc C2) (fs' := F2) (t := x_2) (A := fun bb => (af [Cv 0 s0, (1, .v (.clo g1 [] e1)), Iv 7 v7, Iv 8 v8, Bv 9 true, Iv 5 v8, Bv 16 bb] [])) (by kernel_rfl) ?_ ?_
  ·exact av (by kernel_rfl)
  ·exact av (by kernel_rfl)
 ·exact av (by kernel_rfl)
theorem eo (g1 : FuncId) (e1 : List V) (p1 : Var → Option Bool) (h1 : fZ S (ah S T) g1 e1 (fun z : Var => [enc z]) (fun r : Bool => [.bool r]) p1) (s0 : Sl Var) (v7 : Int) (v8 : Int) : Le ((W1 s0 v7 v8 p1).bind (fun r => some [.int .i64 r])) (rn S (ah S T) (cj [.s 4]) (.rc (.loop cg)) F5 (af [Cv 0 s0, (1, .v (.clo g1 [] e1)), Iv 7 v7, Iv 8 v8] [])) := by
 unfold W1
 refine eJ (n := 0) (fs := F5) (a := cg) (eσ := cJ S g1 e1 s0 v7) (eε := cL S g1 e1 s0 v7) (eρ := cM S g1 e1 s0 v7) (by kernel_rfl) (fun q => aY g1 e1 p1 h1 s0 v7 q) ?_ ?_
 ·intro e
  exact av (by kernel_rfl)
 ·intro e
  exact av (by kernel_rfl)
end
end bU
noncomputable def bU (s0 : Sl Var) (p1 : Var → Option Bool) : Option Int :=
 bU.W1 s0 (len s0) 0 p1
open bU in
theorem qz {S : Sys} {T : az} [eO S T] (g1 : FuncId) (e1 : List V) (p1 : Var → Option Bool) (h1 : fZ S (ah S T) g1 e1 (fun z : Var => [enc z]) (fun r : Bool => [.bool r]) p1) (s0 : Sl Var) : Le ((bU s0 p1).bind fun r => some [.int .i64 r]) (bl (ah S T) (S.N 14) [enc s0, .clo g1 [] e1]) := by
 refine cZ (eO.t (S := S) (T := T)) (Nat.le_of_ble_eq_true rfl) ?_
 unfold bU
 refine dP 9 false [] Q1 F1 (af [Cv 0 s0, (1, .v (.clo g1 [] e1)), Cv 6 s0] []) s0 rfl (by kernel_rfl) ?_
 exact eY (n := 5) (by kernel_rfl) (eo g1 e1 p1 h1 s0 (len s0) 0)
theorem p9 {S : Sys} {T : az} [eO S T] (g1 : FuncId) (e1 : List V) (p1 : Var → Option Bool) (h1 : fZ S (ah S T) g1 e1 (fun z : Var => [enc z]) (fun r : Bool => [.bool r]) p1) : dS S (ah S T) (S.N 14) (fun z : Sl Var => [enc z, .clo g1 [] e1]) (fun r : Int => [.int .i64 r]) (fun z => bU z p1) true where
 k := eO.k (S := S) (T := T)
 h z := qz g1 e1 p1 h1 z
 l z := by simp [h1.d]
 r r := by simp
 s h r := by kernel_rfl
namespace bt
def Q1 : List RO := o2 7 .c [.f 14, 5, 6] [5,6] ::
 o2 8 (bI .geq) [7, .k (.int .i64 0)] [7] ::
 o1 4 8 [8] ::
 []
def U1 : RC := .seq (.ops (o1 5 0 [0] ::
 o1 6 1 [1] ::
 Q1)) (.ret)
def text : RF := ⟨9, [.s 4], .seq (.ops (o1 4 (.k (.bool false)) [4] ::
 [])) (U1)⟩
def F1 : List Fm := [.seq .ret]
end bt
class dc (S : Sys) (T : az) : Prop where
 t : T (S.N 15) = some bt.text
 k : S.E.keep (S.N 15) = false
 c0 : eO S T
attribute [instance] dc.c0
namespace bt
section
variable {S : Sys} {T : az} [dc S T]
end
end bt
noncomputable def bt (s0 : Sl Var) (p1 : Var → Option Bool) : Option Bool :=
 (bU s0 p1).bind fun x_1 =>
 some (decide (x_1 ≥ 0))
open bt in
theorem oT {S : Sys} {T : az} [dc S T] (g1 : FuncId) (e1 : List V) (p1 : Var → Option Bool) (h1 : fZ S (ah S T) g1 e1 (fun z : Var => [enc z]) (fun r : Bool => [.bool r]) p1) (s0 : Sl Var) : Le ((bt s0 p1).bind fun r => some [.bool r]) (bl (ah S T) (S.N 15) [enc s0, .clo g1 [] e1]) := by
 refine cZ (dc.t (S := S) (T := T)) (Nat.le_of_ble_eq_true rfl) ?_
 unfold bt
 refine bg 9 [] Q1 F1 (af [Cv 5 s0, (6, .v (.clo g1 [] e1))] []) (p9 (S := S) (T := T) g1 e1 p1 h1) s0 rfl (by kernel_rfl) fun x_1 h_1 => ?_
 exact av (by kernel_rfl)
theorem oE {S : Sys} {T : az} [dc S T] (g1 : FuncId) (e1 : List V) (p1 : Var → Option Bool) (h1 : fZ S (ah S T) g1 e1 (fun z : Var => [enc z]) (fun r : Bool => [.bool r]) p1) : dS S (ah S T) (S.N 15) (fun z : Sl Var => [enc z, .clo g1 [] e1]) (fun r : Bool => [.bool r]) (fun z => bt z p1) true where
 k := dc.k (S := S) (T := T)
 h z := oT g1 e1 p1 h1 z
 l z := by simp [h1.d]
 r r := by simp
 s h r := by kernel_rfl
namespace bE
def iQ : List RO := o2 2 (.a .box) [0] [0] ::
 o1 4 (.k (.int .i64 0)) [4] ::
 []
def Q9 : List RO := oz (su 3) [5, 12] [12] ::
 []
def gO : List RO := o2 11 (ix 3) [9, 10] [9,10] ::
 o2 12 (lD 3) [11] [11] ::
 o2 5 (.a (.alloc 3 [.str ByteArray.empty, .au, .au])) [] [] ::
 Q9
def Q7 : List RO := o1 13 25 [25] ::
 []
def Q3 : List RO := o3 24 18 false .c [.f 12, 22, 23] [22,23] ::
 o2 25 (.p (.pick)) [18, .k (.bool true), 24] [18,24] ::
 Q7
def Q4 : List RO := o3 22 18 false (.p (.slice 3 false true)) [20, 21] [20,21] ::
 o3 23 18 false (.p (.clo 10 0)) [5] [] ::
 Q3
def Q1 : List RO := o3 19 18 false (fa 0) [2] [2] ::
 o3 20 18 false (ld 1) [19] [19] ::
 o3 21 18 false (.p (.id)) [1] [1] ::
 Q4
def Q8 : List RO := o2 16 .c [.f 9, 15] [15] ::
 o2 17 (.p (.not)) [16] [16] ::
 o1 18 17 [17] ::
 Q1
def Q6 : List RO := o2 29 ln [28] [28] ::
 o2 30 (bI .gtr) [29, .k (.int .i64 8)] [29] ::
 o1 26 30 [30] ::
 []
def C2 : RC := .cond (.s 26) (.seq (.ops (o1 4 (.k (.int .i64 5)) [] ::
 [])) (.gh (.keep [4] []) (.ret))) (.skip)
def C1 : RC := .cond (.s 13) (.seq (.ops (o1 4 (.k (.int .i64 13)) [] ::
 [])) (.gh (.keep [4] []) (.ret))) (.seq (.ops (o2 27 (fa 1) [5] [] ::
 o2 28 (ld 1) [27] [27] ::
 Q6)) (C2))
def Q5 : List RO := o2 33 ln [32] [] ::
 o1 34 (.k (.int .i64 0)) [] ::
 []
def C3 : RC := .cond (.s 35) (.skip) (.gh (.keep [5] [5]) (.exit 1))
def zA : List RO := o2 37 (ix 2) [32, 34] [] ::
 o2 38 (lD 2) [37] [37] ::
 o2 7 (.a (.alloc 2 [.str ByteArray.empty, .int .i64 0])) [] [] ::
 o1 6 36 [36] ::
 oz (su 2) [7, 38] [38] ::
 []
def nr : List RO := o1 39 51 [51] ::
 []
def jR : List RO := o3 50 44 false .c [.f 15, 48, 49] [48,49] ::
 o2 51 (.p (.pick)) [44, .k (.bool true), 50] [44,50] ::
 nr
def jO : List RO := o3 48 44 false (.p (.slice 2 false true)) [46, 47] [46,47] ::
 o3 49 44 false (.p (.clo 13 0)) [7] [] ::
 jR
def Q2 : List RO := o3 45 44 false (fa 1) [5] [] ::
 o3 46 44 false (ld 1) [45] [45] ::
 o3 47 44 false (.p (.id)) [6] [6] ::
 jO
def qT : List RO := o2 42 .c [.f 9, 41] [41] ::
 o2 43 (.p (.not)) [42] [42] ::
 o1 44 43 [43] ::
 Q2
def kG : List RO := o2 55 .c [.f 6, 54, .k (.int .i64 (-1073741824)), .k (.int .i64 1073741824)] [54] ::
 o2 56 (.p (.not)) [55] [55] ::
 o1 52 56 [56] ::
 []
def C5 : RC := .cond (.s 52) (.seq (.ops (o1 4 (.k (.int .i64 2)) [] ::
 [])) (.gh (.keep [4] []) (.ret))) (.skip)
def C4 : RC := .cond (.s 39) (.seq (.ops (o1 4 (.k (.int .i64 13)) [] ::
 [])) (.gh (.keep [4] []) (.ret))) (.seq (.ops (o2 53 (fa 1) [7] [7] ::
 o2 54 (ld 1) [53] [53] ::
 kG)) (C5))
def U1 : RC := .block 3 (.seq (.ops (o2 40 (fa 0) [7] [] ::
 o2 41 (ld 1) [40] [40] ::
 qT)) (C4))
def U2 : RC := .ops (o2 57 (bI .add) [34, .k (.int .i64 1)] [34] ::
 o1 34 57 [57] ::
 [])
def U3 : RC := .seq (.block 2 (.seq (.ops (o1 36 34 [] ::
 zA)) (U1))) (U2)
def cg : RC := .hg (.seq (.ops (o2 35 (bI .lss) [34, 33] [] ::
 [])) (.seq (C3) (U3))) (.keep [5,32,33,34] [5])
def U4 : RC := .block 1 (.gh (.keep [5,32,33,34] [5]) (.loop cg))
def zC : List RO := o2 60 ln [59] [59] ::
 o2 61 (bI .gtr) [60, .k (.int .i64 64)] [60] ::
 []
def C6 : RC := .cond (.s 61) (.seq (.ops (o1 4 (.k (.int .i64 5)) [] ::
 [])) (.gh (.keep [4] []) (.ret))) (.skip)
def U5 : RC := .seq (.ops (o1 4 (.k (.int .i64 0)) [] ::
 [])) (.gh (.keep [4] []) (.ret))
def U6 : RC := .seq (.seq (.ops (o2 58 (fa 2) [5] [5] ::
 o2 59 (ld 1) [58] [58] ::
 zC)) (C6)) (U5)
def U7 : RC := .seq (.seq (.ops (o2 31 (fa 1) [5] [] ::
 o2 32 (ld 1) [31] [31] ::
 Q5)) (U4)) (U6)
def U8 : RC := .seq (.block 0 (.seq (.ops (o2 14 (fa 0) [5] [] ::
 o2 15 (ld 1) [14] [14] ::
 Q8)) (C1))) (U7)
def U9 : RC := .seq (.ops (o2 8 (fa 0) [2] [] ::
 o2 9 (ld 1) [8] [8] ::
 o1 10 1 [] ::
 gO)) (U8)
def text : RF := ⟨62, [.s 4], .seq (.ops iQ) (U9)⟩
def F6 : List Fm := [.seq U8]
def F7 : List Fm := [.seq U9]
def ku : List Fm := [.seq U5]
def F3 : List Fm := [.seq U4, .seq U6]
def F4 : List Fm := [.blk 0, .seq U7]
def lH : List Fm := [.seq U3, .gst (.keep [5,32,33,34] [5])]
def mC : List Fm := .seq C6 :: ku
def o0 : List Fm := [.blk 1, .seq U6]
def F1 : List Fm := .seq C1 :: F4
def F5 : List Fm := .seq C2 :: F4
def F8 : List Fm := [.blk 3, .blk 2, .seq U2, .gst (.keep [5,32,33,34] [5])]
def jo : List Fm := [.seq U1, .blk 2, .seq U2, .gst (.keep [5,32,33,34] [5])]
def F2 : List Fm := .seq C4 :: F8
def F9 : List Fm := .seq C5 :: F8
end bE
class cm (S : Sys) (T : az) : Prop where
 t : T (S.N 16) = some bE.text
 k : S.E.keep (S.N 16) = false
 c0 : ig S T
 c1 : gb S T
 c2 : eF S T
 c3 : eC S T
 c4 : cX S T
 c5 : dc S T
attribute [instance] cm.c0 cm.c1 cm.c2 cm.c3 cm.c4 cm.c5
namespace bE
section
variable {S : Sys} {T : az} [cm S T]
noncomputable def aB (v32 : Sl Var) (v33 : Int) (xb5 : aS) (v34 : Int) : Option (Fw Int Unit Int) :=
 aL (decide (v34 < v33))
 ((idx v32 v34).bind fun x_1 =>
 (c7 x_1.name).bind fun x_2 =>
 (aL x_2
 ((iJ xb5.vars none (some v34)).bind fun x_3 =>
 (bt x_3 (fun z => bH z x_1)).bind fun x_4 =>
 some x_4)
 (some true) : Option Bool).bind fun x_5 =>
 aL x_5
 (some (.r 13))
 ((e7 x_1.init_ (-1073741824) 1073741824).bind fun x_6 =>
 aL x_6
 (some (.n (IntKind.wrap .i64 (v34 + 1))))
 (some (.r 2))))
 (some (.x ()))
noncomputable def W1 (v32 : Sl Var) (v33 : Int) (v34 : Int) (xb5 : aS) : Option Int :=
 (cW (fun q : Int => aB v32 v33 xb5 q) v34).bind (Fw.elim
 (fun e => aL (decide ((len xb5.events) > 64))
 (some 5)
 (some 0))
 (fun e => some e))
def cJ (S : Sys) (v32 : Sl Var) (v33 : Int) (xb5 : aS) : Int → St := fun q => (af [Pv 5, Cv 32 v32, Iv 33 v33, Iv 34 q] [Xb 5 xb5])
def cL (S : Sys) (v32 : Sl Var) (v33 : Int) (xb5 : aS) : Unit → Nat × St := fun e => (1, (af [Pv 5] [Xb 5 xb5]))
def cM (S : Sys) (v32 : Sl Var) (v33 : Int) (xb5 : aS) : Int → St := fun e => (af [Iv 4 e] [])
theorem aY (v32 : Sl Var) (v33 : Int) (xb5 : aS) (v34 : Int) : Le ((aB v32 v33 xb5 v34).bind (fun w => some (Fw.out (cJ S v32 v33 xb5) (cL S v32 v33 xb5) (cM S v32 v33 xb5) w))) (rn S (ah S T) some (.rc cg) [] (af [Pv 5, Cv 32 v32, Iv 33 v33, Iv 34 v34] [Xb 5 xb5])) := by
 unfold aB
 refine aJ (n := 7) (fo' := .rc C3) (fs' := lH) (t := decide (v34 < v33)) (A := fun bb => (af [Pv 5, Cv 32 v32, Iv 33 v33, Iv 34 v34, Bv 35 bb] [Xb 5 xb5])) (by kernel_rfl) ?_ ?_
 ·refine ey 8 false [] zA jo (af [Pv 5, Cv 32 v32, Iv 33 v33, Iv 34 v34, Bv 35 true, Iv 36 v34] [Xb 5 xb5]) .i64 rfl (by kernel_rfl) fun x_1 h_1 => ?_
  refine bg 11 [] qT F2 (af [Pv 5, Cv 32 v32, Iv 33 v33, Iv 34 v34, Bv 35 true, Pv 7, Iv 6 v34, (41, .v (.str x_1.name))] [Xb 5 xb5, Xb 7 x_1]) (qf (S := S) (T := T)) x_1.name rfl (by kernel_rfl) fun x_2 h_2 => ?_
  refine dw (fun x_5 => rn S (ah S T) some (.ops false [] nr) F2 (af [Pv 5, Cv 32 v32, Iv 33 v33, Iv 34 v34, Bv 35 true, Pv 7, Bv 51 x_5] [Xb 5 xb5, Xb 7 x_1])) ?_ fun x_5 => ?_
  ·refine aJ (n := 2) (fo' := .ops false [] Q2) (fs' := F2) (t := x_2) (A := fun bb => (af [Pv 5, Cv 32 v32, Iv 33 v33, Iv 34 v34, Bv 35 true, Pv 7, Iv 6 v34, Bv 44 (!bb)] [Xb 5 xb5, Xb 7 x_1])) (by kernel_rfl) ?_ ?_
   ·refine Dd 3 false [] jO F2 (af [Pv 5, Cv 32 v32, Iv 33 v33, Iv 34 v34, Bv 35 true, Pv 7, Bv 44 false, Cv 46 xb5.vars, Iv 47 v34] [Xb 5 xb5, Xb 7 x_1]) false true [.int .i64 v34] rfl (by kernel_rfl) fun x_3 h_3 => ?_
    refine kK 1 false [] jR F2 (af [Pv 5, Cv 32 v32, Iv 33 v33, Iv 34 v34, Bv 35 true, Pv 7, Bv 44 false, Cv 48 x_3, (49, .clo (S.N 13) [] [.ptr 7 0])] [Xb 5 xb5, Xb 7 x_1]) (oE (S := S) (T := T) (S.N 13) [.fptr (cells x_1)] (fun z => bH z x_1) (fZ.of (pG (S := S) (T := T)) (fun z => (z, x_1)) (fun _ => rfl) (fun _ => rfl) (by simp))) x_3 [.v (.clo (S.N 15) [] []), cv x_3, .clo (S.N 13) [] [.ptr 7 0]] [cv x_3, .clo (S.N 13) [] [.ptr 7 0]] rfl (by kernel_rfl) fun x_4 h_4 => ?_
    exact bp (n := 1) (by kernel_rfl) rfl
   ·exact bp (n := 7) (by kernel_rfl) rfl
  ·refine aJ (n := 3) (fo' := .rc C4) (fs' := F8) (t := x_5) (A := fun bb => (af [Pv 5, Cv 32 v32, Iv 33 v33, Iv 34 v34, Bv 35 true, Pv 7, Bv 39 bb] [Xb 5 xb5, Xb 7 x_1])) (by kernel_rfl) ?_ ?_
   ·exact av (by kernel_rfl)
   ·refine bg 5 [] kG F9 (af [Pv 5, Cv 32 v32, Iv 33 v33, Iv 34 v34, Bv 35 true, Bv 39 false, Iv 54 x_1.init_] [Xb 5 xb5, Xb 7 x_1]) (jd (S := S) (T := T)) (x_1.init_, (-1073741824), 1073741824) rfl (by kernel_rfl) fun x_6 h_6 => ?_
    refine aJ (n := 4) (fo' := .rc C5) (fs' := F8) (t := x_6) (A := fun bb => (af [Pv 5, Cv 32 v32, Iv 33 v33, Iv 34 v34, Bv 35 true, Bv 39 false, Bv 52 (!bb)] [Xb 5 xb5, Xb 7 x_1])) (by kernel_rfl) ?_ ?_
    ·exact av (by kernel_rfl)
    ·exact av (by kernel_rfl)
 ·exact av (by kernel_rfl)
theorem eo (v32 : Sl Var) (v33 : Int) (v34 : Int) (xb5 : aS) : Le ((W1 v32 v33 v34 xb5).bind (fun r => some [.int .i64 r])) (rn S (ah S T) (cj [.s 4]) (.rc (.loop cg)) o0 (af [Pv 5, Cv 32 v32, Iv 33 v33, Iv 34 v34] [Xb 5 xb5])) := by
 unfold W1
 refine eJ (n := 0) (fs := o0) (a := cg) (eσ := cJ S v32 v33 xb5) (eε := cL S v32 v33 xb5) (eρ := cM S v32 v33 xb5) (by kernel_rfl) (fun q => aY v32 v33 xb5 q) ?_ ?_
 ·intro e
  refine dP 7 false [] zC mC (af [Cv 59 xb5.events] [Xb 5 xb5]) xb5.events rfl (by kernel_rfl) ?_
  refine aJ (n := 3) (fo' := .rc C6) (fs' := ku) (t := decide ((len xb5.events) > 64)) (A := fun bb => (af [Bv 61 bb] [Xb 5 xb5])) (by kernel_rfl) ?_ ?_
  ·exact av (by kernel_rfl)
  ·exact av (by kernel_rfl)
 ·intro e
  exact av (by kernel_rfl)
end
end bE
noncomputable def bE (t0 : Trace) (p1 : Int) : Option Int :=
 (idx t0.procs p1).bind fun x_1 =>
 (c7 x_1.name).bind fun x_2 =>
 (aL x_2
 ((iJ t0.procs none (some p1)).bind fun x_3 =>
 (bf x_3 (fun z => bJ z x_1)).bind fun x_4 =>
 some x_4)
 (some true) : Option Bool).bind fun x_5 =>
 aL x_5
 (some 13)
 (aL (decide ((len x_1.vars) > 8))
 (some 5)
 (bE.W1 x_1.vars (len x_1.vars) 0 x_1))
open bE in
theorem rK {S : Sys} {T : az} [cm S T] (t0 : Trace) (p1 : Int) : Le ((bE t0 p1).bind fun r => some [.int .i64 r]) (bl (ah S T) (S.N 16) [enc t0, .int .i64 p1]) := by
 refine cZ (cm.t (S := S) (T := T)) (Nat.le_of_ble_eq_true rfl) ?_
 unfold bE
 refine gm 2 false [] iQ F7 (af [Cv 0 t0, Iv 1 p1] []) t0 rfl (by kernel_rfl) (by kernel_rfl) ?_
 refine ey 8 false [] gO F6 (af [Iv 1 p1, Pv 2, Cv 9 t0.procs, Iv 10 p1] [Xb 2 t0]) .i64 rfl (by kernel_rfl) fun x_1 h_1 => ?_
 refine Ast 2 false [] Q9 F6 (af [Iv 1 p1, Pv 2, Cv 12 x_1, Pv 5] [Xb 2 t0, Xb 5 (⟨ByteArray.empty, Sl.nil, Sl.nil⟩ : aS)]) 5 0 x_1 [.v (.str ByteArray.empty), .v .au, .v .au] [.v (.str x_1.name), cv x_1.vars, cv x_1.events] rfl (by kernel_rfl) ?_
 refine bg 8 [] Q8 F1 (af [Iv 1 p1, Pv 2, Pv 5, (15, .v (.str x_1.name))] [Xb 2 t0, Xb 5 x_1]) (qf (S := S) (T := T)) x_1.name rfl (by kernel_rfl) fun x_2 h_2 => ?_
 refine dw (fun x_5 => rn S (ah S T) (cj [.s 4]) (.ops false [] Q7) F1 (af [Pv 5, Bv 25 x_5] [Xb 2 t0, Xb 5 x_1])) ?_ fun x_5 => ?_
 ·refine aJ (n := 2) (fo' := .ops false [] Q1) (fs' := F1) (t := x_2) (A := fun bb => (af [Iv 1 p1, Pv 2, Pv 5, Bv 18 (!bb)] [Xb 2 t0, Xb 5 x_1])) (by kernel_rfl) ?_ ?_
  ·refine Dd 3 false [] Q4 F1 (af [Pv 5, Bv 18 false, Cv 20 t0.procs, Iv 21 p1] [Xb 2 t0, Xb 5 x_1]) false true [.int .i64 p1] rfl (by kernel_rfl) fun x_3 h_3 => ?_
   refine kK 1 false [] Q3 F1 (af [Pv 5, Bv 18 false, Cv 22 x_3, (23, .clo (S.N 10) [] [.ptr 5 0])] [Xb 2 t0, Xb 5 x_1]) (nT (S := S) (T := T) (S.N 10) [.fptr (cells x_1)] (fun z => bJ z x_1) (fZ.of (pE (S := S) (T := T)) (fun z => (z, x_1)) (fun _ => rfl) (fun _ => rfl) (by simp))) x_3 [.v (.clo (S.N 12) [] []), cv x_3, .clo (S.N 10) [] [.ptr 5 0]] [cv x_3, .clo (S.N 10) [] [.ptr 5 0]] rfl (by kernel_rfl) fun x_4 h_4 => ?_
   exact bp (n := 1) (by kernel_rfl) rfl
  ·exact bp (n := 7) (by kernel_rfl) rfl
 ·refine aJ (n := 3) (fo' := .rc C1) (fs' := F4) (t := x_5) (A := fun bb => (af [Pv 5, Bv 13 bb] [Xb 2 t0, Xb 5 x_1])) (by kernel_rfl) ?_ ?_
  ·exact av (by kernel_rfl)
  ·refine dP 5 false [] Q6 F5 (af [Pv 5, Bv 13 false, Cv 28 x_1.vars] [Xb 2 t0, Xb 5 x_1]) x_1.vars rfl (by kernel_rfl) ?_
   refine aJ (n := 4) (fo' := .rc C2) (fs' := F4) (t := decide ((len x_1.vars) > 8)) (A := fun bb => (af [Pv 5, Bv 13 false, Bv 26 bb] [Xb 2 t0, Xb 5 x_1])) (by kernel_rfl) ?_ ?_
   ·exact av (by kernel_rfl)
   ·refine dP 9 false [] Q5 F3 (af [Pv 5, Bv 13 false, Bv 26 false, Cv 32 x_1.vars] [Xb 2 t0, Xb 5 x_1]) x_1.vars rfl (by kernel_rfl) ?_
    exact eY (n := 5) (by kernel_rfl) (eo x_1.vars (len x_1.vars) 0 x_1)
theorem qZ {S : Sys} {T : az} [cm S T] : dS S (ah S T) (S.N 16) (fun z : Trace × Int => [enc z.1, .int .i64 z.2]) (fun r : Int => [.int .i64 r]) (fun z => bE z.1 z.2) true where
 k := cm.k (S := S) (T := T)
 h z := rK z.1 z.2
 l z := by simp
 r r := by simp
 s h r := by kernel_rfl
namespace cP
def Q1 : List RO := o2 1 (.a .box) [0] [0] ::
 o1 2 (.k (.aH)) [2] ::
 []
def U1 : RC := .seq (.ops (o2 3 (.p (.clo 17 0)) [1] [1] ::
 o1 2 3 [3] ::
 [])) (.ret)
def text : RF := ⟨4, [.s 2], .seq (.ops Q1) (U1)⟩
def F1 : List Fm := [.seq U1]
end cP
class fC (S : Sys) (T : az) : Prop where
 t : T (S.N 18) = some cP.text
 k : S.E.keep (S.N 18) = false
namespace cP
section
variable {S : Sys} {T : az} [fC S T]
end
end cP
noncomputable def cP (t0 : Trace) : Option Trace :=
 some t0
open cP in
theorem w9 {S : Sys} {T : az} [fC S T] (t0 : Trace) : Le ((cP t0).bind fun r => some [(.clo (S.N 17) [] [.fptr (cells r)])]) (bl (ah S T) (S.N 18) [enc t0]) := by
 refine cZ (fC.t (S := S) (T := T)) (Nat.le_of_ble_eq_true rfl) ?_
 unfold cP
 refine gm 2 false [] Q1 F1 (af [Cv 0 t0] []) t0 rfl (by kernel_rfl) (by kernel_rfl) ?_
 exact av (by kernel_rfl)
theorem jW {S : Sys} {T : az} [fC S T] : dS S (ah S T) (S.N 18) (fun z : Trace => [enc z]) (fun r : Trace => [(.clo (S.N 17) [] [.fptr (cells r)])]) (fun z => cP z) false where
 k := fC.k (S := S) (T := T)
 h z := w9 z
 l z := by simp
 r r := by simp
 s h r := by cases h
namespace c8
def Q5 : List RO := o2 5 (.a .box) [2] [2] ::
 o1 6 (.k (.bool false)) [6] ::
 []
def Q6 : List RO := o2 3 (.a .box) [0] [0] ::
 Q5
def Q4 : List RO := o1 6 18 [18] ::
 []
def Q1 : List RO := o3 15 14 true (fa 2) [5] [5] ::
 o3 16 14 true (ld 1) [15] [15] ::
 o3 17 14 true (bI .eql) [16, .k (.int .i64 0)] [16] ::
 o2 18 (.p (.pick)) [14, 17, .k (.bool false)] [14,17] ::
 Q4
def C2 : RC := .cond (.s 19) (.skip) (.ops (o2 21 (bI .eql) [8, .k (.int .i64 3)] [8] ::
 o1 19 21 [21] ::
 []))
def Q8 : List RO := o1 6 39 [39] ::
 []
def Q7 : List RO := o3 38 35 true .c [.f 6, 37, .k (.int .i64 0), .k (.int .i64 199)] [37] ::
 o2 39 (.p (.pick)) [35, 38, .k (.bool false)] [35,38] ::
 Q8
def Q3 : List RO := o3 36 35 true (fa 2) [5] [5] ::
 o3 37 35 true (ld 1) [36] [36] ::
 Q7
def Q9 : List RO := o1 35 34 [34] ::
 Q3
def Q2 : List RO := o3 30 29 true (fa 1) [5] [] ::
 o3 31 29 true (ld 1) [30] [30] ::
 o3 32 29 true (.p (.id)) [1] [1] ::
 o3 33 29 true (bI .neq) [31, 32] [31,32] ::
 o2 34 (.p (.pick)) [29, 33, .k (.bool false)] [29,33] ::
 Q9
def gO : List RO := o2 28 .c [.f 6, 23, .k (.int .i64 0), 27] [23,27] ::
 o1 29 28 [28] ::
 Q2
def iQ : List RO := o2 26 ln [25] [25] ::
 o2 27 (bI .sub) [26, .k (.int .i64 1)] [26] ::
 gO
def C3 : RC := .cond (.s 19) (.seq (.ops (o2 22 (fa 1) [5] [] ::
 o2 23 (ld 1) [22] [22] ::
 o2 24 (fa 0) [3] [3] ::
 o2 25 (ld 1) [24] [24] ::
 iQ)) (.ret)) (.skip)
def u6 : RC := C3
def C1 : RC := .cond (.s 9) (.seq (.ops (o2 11 (fa 1) [5] [] ::
 o2 12 (ld 1) [11] [11] ::
 o2 13 (bI .eql) [12, .k (.int .i64 0)] [12] ::
 o1 14 13 [13] ::
 Q1)) (.ret)) (.seq (.seq (.ops (o2 20 (bI .eql) [8, .k (.int .i64 2)] [] ::
 o1 19 20 [20] ::
 [])) (C2)) (.gh (.keep [1,3,5,19] [3,5]) (u6)))
def U1 : RC := .block 0 (.seq (.ops (o2 10 (bI .eql) [8, .k (.int .i64 1)] [] ::
 o1 9 10 [10] ::
 [])) (C1))
def U2 : RC := .seq (.ops (o1 6 (.k (.bool false)) [] ::
 [])) (.ret)
def U3 : RC := .seq (.seq (.ops (o2 7 (fa 0) [5] [] ::
 o2 8 (ld 1) [7] [7] ::
 [])) (U1)) (U2)
def text : RF := ⟨40, [.s 6], .seq (.ops Q6) (U3)⟩
def F5 : List Fm := [.seq U3]
def F4 : List Fm := [.blk 0, .seq U2]
def F1 : List Fm := .seq .ret :: F4
def F2 : List Fm := .seq .ret :: F4
def F3 : List Fm := .seq (.gh (.keep [1,3,5,19] [3,5]) (u6)) :: F4
end c8
class gH (S : Sys) (T : az) : Prop where
 t : T (S.N 19) = some c8.text
 k : S.E.keep (S.N 19) = false
 c0 : ig S T
attribute [instance] gH.c0
namespace c8
section
variable {S : Sys} {T : az} [gH S T]
noncomputable def J1 (p1 : Int) (v19 : Bool) (tb3 : Trace) (eb5 : Event) : Option Bool :=
 aL v19
 ((e7 eb5.peer 0 (IntKind.wrap .i64 ((len tb3.procs) - 1))).bind fun x_1 =>
 (aL x_1
 (some (!(eb5.peer == p1)))
 (some false) : Option Bool).bind fun x_2 =>
 (aL x_2
 ((e7 eb5.message 0 199).bind fun x_3 =>
 some x_3)
 (some false) : Option Bool).bind fun x_4 =>
 some x_4)
 (some false)
theorem qG (p1 : Int) (v19 : Bool) (tb3 : Trace) (eb5 : Event) : Le ((J1 p1 v19 tb3 eb5).bind (fun r => some [.bool r])) (rn S (ah S T) (cj [.s 6]) (.rc u6) F4 (af [Iv 1 p1, Pv 3, Pv 5, Bv 19 v19] [Xb 3 tb3, Xb 5 eb5])) := by
 unfold J1
 refine aJ (n := 0) (fo' := .rc C3) (fs' := F4) (t := v19) (A := fun bb => (af [Iv 1 p1, Pv 3, Pv 5, Bv 19 bb] [Xb 3 tb3, Xb 5 eb5])) (by kernel_rfl) ?_ ?_
 ·refine dP 7 false [] iQ F2 (af [Iv 1 p1, Pv 5, Bv 19 true, Iv 23 eb5.peer, Cv 25 tb3.procs] [Xb 3 tb3, Xb 5 eb5]) tb3.procs rfl (by kernel_rfl) ?_
  refine bg 1 [] gO F2 (af [Iv 1 p1, Pv 5, Bv 19 true, Iv 23 eb5.peer, Iv 27 (IntKind.wrap .i64 ((len tb3.procs) - 1))] [Xb 3 tb3, Xb 5 eb5]) (jd (S := S) (T := T)) (eb5.peer, 0, IntKind.wrap .i64 ((len tb3.procs) - 1)) rfl (by kernel_rfl) fun x_1 h_1 => ?_
  refine dw (fun x_2 => rn S (ah S T) (cj [.s 6]) (.ops false [] Q9) F2 (af [Pv 5, Bv 19 true, Bv 34 x_2] [Xb 3 tb3, Xb 5 eb5])) ?_ fun x_2 => ?_
  ·refine aJ (n := 1) (fo' := .ops false [] Q2) (fs' := F2) (t := x_1) (A := fun bb => (af [Iv 1 p1, Pv 5, Bv 19 true, Bv 29 bb] [Xb 3 tb3, Xb 5 eb5])) (by kernel_rfl) ?_ ?_
   ·exact bp (n := 5) (by kernel_rfl) rfl
   ·exact bp (n := 5) (by kernel_rfl) rfl
  ·refine dw (fun x_4 => rn S (ah S T) (cj [.s 6]) (.ops false [] Q8) F2 (af [Bv 19 true, Bv 39 x_4] [Xb 3 tb3, Xb 5 eb5])) ?_ fun x_4 => ?_
   ·refine aJ (n := 1) (fo' := .ops false [] Q3) (fs' := F2) (t := x_2) (A := fun bb => (af [Pv 5, Bv 19 true, Bv 35 bb] [Xb 3 tb3, Xb 5 eb5])) (by kernel_rfl) ?_ ?_
    ·refine bg 2 [] Q7 F2 (af [Bv 19 true, Bv 35 true, Iv 37 eb5.message] [Xb 3 tb3, Xb 5 eb5]) (jd (S := S) (T := T)) (eb5.message, 0, 199) rfl (by kernel_rfl) fun x_3 h_3 => ?_
     exact bp (n := 1) (by kernel_rfl) rfl
    ·exact bp (n := 4) (by kernel_rfl) rfl
   ·exact av (by kernel_rfl)
 ·exact av (by kernel_rfl)
end
end c8
noncomputable def c8 (t0 : Trace) (p1 : Int) (e2 : Event) : Option Bool :=
 aL (e2.kind == 1)
 ((aL (e2.peer == 0)
 (some (e2.message == 0))
 (some false) : Option Bool).bind fun x_1 =>
 some x_1)
 (aL (e2.kind == 2)
 (c8.J1 p1 true t0 e2)
 (c8.J1 p1 (e2.kind == 3) t0 e2))
open c8 in
theorem wB {S : Sys} {T : az} [gH S T] (t0 : Trace) (p1 : Int) (e2 : Event) : Le ((c8 t0 p1 e2).bind fun r => some [.bool r]) (bl (ah S T) (S.N 19) [enc t0, .int .i64 p1, enc e2]) := by
 refine cZ (gH.t (S := S) (T := T)) (Nat.le_of_ble_eq_true rfl) ?_
 unfold c8
 refine gm 2 false [] Q6 F5 (af [Cv 0 t0, Iv 1 p1, Cv 2 e2] []) t0 rfl (by kernel_rfl) (by kernel_rfl) ?_
 refine gm 0 false [] Q5 F5 (af [Iv 1 p1, Cv 2 e2, Pv 3] [Xb 3 t0]) e2 rfl (by kernel_rfl) (by kernel_rfl) ?_
 refine aJ (n := 17) (fo' := .rc C1) (fs' := F4) (t := (e2.kind == 1)) (A := fun bb => (af [Iv 1 p1, Pv 3, Pv 5, Iv 8 e2.kind, Bv 9 bb] [Xb 3 t0, Xb 5 e2])) (by kernel_rfl) ?_ ?_
 ·refine dw (fun x_1 => rn S (ah S T) (cj [.s 6]) (.ops false [] Q4) F1 (af [Iv 1 p1, Pv 3, Iv 8 e2.kind, Bv 9 true, Bv 18 x_1] [Xb 3 t0, Xb 5 e2])) ?_ fun x_1 => ?_
  ·refine aJ (n := 7) (fo' := .ops false [] Q1) (fs' := F1) (t := (e2.peer == 0)) (A := fun bb => (af [Iv 1 p1, Pv 3, Pv 5, Iv 8 e2.kind, Bv 9 true, Bv 14 bb] [Xb 3 t0, Xb 5 e2])) (by kernel_rfl) ?_ ?_
   ·exact bp (n := 4) (by kernel_rfl) rfl
   ·exact bp (n := 4) (by kernel_rfl) rfl
  ·exact av (by kernel_rfl)
 ·refine aJ (n := 8) (fo' := .rc C2) (fs' := F3) (t := (e2.kind == 2)) (A := fun bb => (af [Iv 1 p1, Pv 3, Pv 5, Iv 8 e2.kind, Bv 9 false, Bv 19 bb] [Xb 3 t0, Xb 5 e2])) (by kernel_rfl) ?_ ?_
  ·exact eY (n := 4) (by kernel_rfl) (qG p1 true t0 e2)
  ·exact eY (n := 7) (by kernel_rfl) (qG p1 (e2.kind == 3) t0 e2)
theorem vS {S : Sys} {T : az} [gH S T] : dS S (ah S T) (S.N 19) (fun z : Trace × Int × Event => [enc z.1, .int .i64 z.2.1, enc z.2.2]) (fun r : Bool => [.bool r]) (fun z => c8 z.1 z.2.1 z.2.2) true where
 k := gH.k (S := S) (T := T)
 h z := wB z.1 z.2.1 z.2.2
 l z := by simp
 r r := by simp
 s h r := by kernel_rfl
namespace b8
def U1 : RC := .seq (.ops (o2 4 (fa 0) [2] [2] ::
 o2 5 (ld 1) [4] [4] ::
 o2 6 (fa 0) [1] [1] ::
 o2 7 (ld 1) [6] [6] ::
 o2 8 (bI .eql) [5, 7] [5,7] ::
 o1 3 8 [8] ::
 [])) (.ret)
def text : RF := ⟨9, [.s 3], .seq (.ops (o2 2 (.a .box) [0] [0] ::
 o1 3 (.k (.bool false)) [3] ::
 [])) (U1)⟩
end b8
class eV (S : Sys) (T : az) : Prop where
 t : T (S.N 20) = some b8.text
 k : S.E.keep (S.N 20) = false
namespace b8
section
variable {S : Sys} {T : az} [eV S T]
end
end b8
noncomputable def b8 (b0 : Assign) (v1 : Assign) : Option Bool :=
 some (b0.var == v1.var)
open b8 in
theorem rz {S : Sys} {T : az} [eV S T] (b0 : Assign) (v1 : Assign) : Le ((b8 b0 v1).bind fun r => some [.bool r]) (bl (ah S T) (S.N 20) [enc b0, .fptr (cells v1)]) := by
 refine cZ (eV.t (S := S) (T := T)) (Nat.le_of_ble_eq_true rfl) ?_
 unfold b8
 exact av (by kernel_rfl)
theorem qy {S : Sys} {T : az} [eV S T] : dS S (ah S T) (S.N 20) (fun z : Assign × Assign => [enc z.1, .fptr (cells z.2)]) (fun r : Bool => [.bool r]) (fun z => b8 z.1 z.2) true where
 k := eV.k (S := S) (T := T)
 h z := rz z.1 z.2
 l z := by simp
 r r := by simp
 s h r := by kernel_rfl
namespace bq
def Q1 : List RO := o2 7 ln [6] [6] ::
 o1 8 (.k (.int .i64 0)) [] ::
 []
def C1 : RC := .cond (.s 9) (.skip) (.gh (.keep [] []) (.exit 0))
def Q2 : List RO := o2 16 .c [11, 15] [11,15] ::
 []
def Q3 : List RO := o2 14 (ix 2) [12, 13] [12,13] ::
 o2 15 (lD 2) [14] [14] ::
 Q2
def C2 : RC := .cond (.s 16) (.seq (.ops (o1 17 5 [5] ::
 o1 4 17 [17] ::
 [])) (.gh (.keep [4] []) (.ret))) (.skip)
def U1 : RC := .seq (.ops (o1 11 1 [] ::
 o1 12 0 [] ::
 o1 13 5 [] ::
 Q3)) (C2)
def U2 : RC := .ops (o2 18 (bI .add) [8, .k (.int .i64 1)] [8] ::
 o1 8 18 [18] ::
 [])
def U3 : RC := .seq (.block 1 (.seq (.ops (o1 10 8 [] ::
 o1 5 10 [10] ::
 [])) (U1))) (U2)
def cg : RC := .hg (.seq (.ops (o2 9 (bI .lss) [8, 7] [] ::
 [])) (.seq (C1) (U3))) (.keep [0,1,7,8] [])
def U4 : RC := .block 0 (.gh (.keep [0,1,7,8] []) (.loop cg))
def U5 : RC := .seq (.ops (o1 4 (.k (.int .i64 (-1))) [] ::
 [])) (.gh (.keep [4] []) (.ret))
def U6 : RC := .seq (.seq (.ops (o1 6 0 [] ::
 Q1)) (U4)) (U5)
def text : RF := ⟨19, [.s 4], .seq (.ops (o1 4 (.k (.int .i64 0)) [4] ::
 [])) (U6)⟩
def F1 : List Fm := [.seq U4, .seq U5]
def F4 : List Fm := [.seq U3, .gst (.keep [0,1,7,8] [])]
def F5 : List Fm := [.blk 0, .seq U5]
def F2 : List Fm := [.blk 1, .seq U2, .gst (.keep [0,1,7,8] [])]
def F3 : List Fm := .seq C2 :: F2
end bq
class dW (S : Sys) (T : az) : Prop where
 t : T (S.N 21) = some bq.text
 k : S.E.keep (S.N 21) = false
namespace bq
section
variable {S : Sys} {T : az} [dW S T]
noncomputable def aB (s0 : Sl Assign) (v7 : Int) (v8 : Int) (p1 : Assign → Option Bool) : Option (Fw Int Unit Int) :=
 aL (decide (v8 < v7))
 ((idx s0 v8).bind fun x_1 =>
 (p1 x_1).bind fun x_2 =>
 aL x_2
 (some (.r v8))
 (some (.n (IntKind.wrap .i64 (v8 + 1)))))
 (some (.x ()))
noncomputable def W1 (s0 : Sl Assign) (v7 : Int) (v8 : Int) (p1 : Assign → Option Bool) : Option Int :=
 (cW (fun q : Int => aB s0 v7 q p1) v8).bind (Fw.elim
 (fun e => some (-1))
 (fun e => some e))
def cJ (S : Sys) (g1 : FuncId) (e1 : List V) (s0 : Sl Assign) (v7 : Int) : Int → St := fun q => (af [Cv 0 s0, (1, .v (.clo g1 [] e1)), Iv 7 v7, Iv 8 q] [])
def cL (S : Sys) (g1 : FuncId) (e1 : List V) (s0 : Sl Assign) (v7 : Int) : Unit → Nat × St := fun e => (0, (af [] []))
def cM (S : Sys) (g1 : FuncId) (e1 : List V) (s0 : Sl Assign) (v7 : Int) : Int → St := fun e => (af [Iv 4 e] [])
theorem aY (g1 : FuncId) (e1 : List V) (p1 : Assign → Option Bool) (h1 : fZ S (ah S T) g1 e1 (fun z : Assign => [enc z]) (fun r : Bool => [.bool r]) p1) (s0 : Sl Assign) (v7 : Int) (v8 : Int) : Le ((aB s0 v7 v8 p1).bind (fun w => some (Fw.out (cJ S g1 e1 s0 v7) (cL S g1 e1 s0 v7) (cM S g1 e1 s0 v7) w))) (rn S (ah S T) some (.rc cg) [] (af [Cv 0 s0, (1, .v (.clo g1 [] e1)), Iv 7 v7, Iv 8 v8] [])) := by
 unfold aB
 refine aJ (n := 7) (fo' := .rc C1) (fs' := F4) (t := decide (v8 < v7)) (A := fun bb => (af [Cv 0 s0, (1, .v (.clo g1 [] e1)), Iv 7 v7, Iv 8 v8, Bv 9 bb] [])) (by kernel_rfl) ?_ ?_
 ·refine ey 16 false [] Q3 F3 (af [Cv 0 s0, (1, .v (.clo g1 [] e1)), Iv 7 v7, Iv 8 v8, Bv 9 true, Iv 5 v8, (11, .v (.clo g1 [] e1)), Cv 12 s0, Iv 13 v8] []) .i64 rfl (by kernel_rfl) fun x_1 h_1 => ?_
  refine rQ 1 false [] Q2 F3 (af [Cv 0 s0, (1, .v (.clo g1 [] e1)), Iv 7 v7, Iv 8 v8, Bv 9 true, Iv 5 v8, (11, .v (.clo g1 [] e1)), Cv 15 x_1] []) h1.f x_1 e1 [enc x_1] rfl rfl (by kernel_rfl) fun x_2 h_2 => ?_
  refine aJ (n := 2) (fo' := .rc C2) (fs' := F2) (t := x_2) (A := fun bb => (af [Cv 0 s0, (1, .v (.clo g1 [] e1)), Iv 7 v7, Iv 8 v8, Bv 9 true, Iv 5 v8, Bv 16 bb] [])) (by kernel_rfl) ?_ ?_
  ·exact av (by kernel_rfl)
  ·exact av (by kernel_rfl)
 ·exact av (by kernel_rfl)
theorem eo (g1 : FuncId) (e1 : List V) (p1 : Assign → Option Bool) (h1 : fZ S (ah S T) g1 e1 (fun z : Assign => [enc z]) (fun r : Bool => [.bool r]) p1) (s0 : Sl Assign) (v7 : Int) (v8 : Int) : Le ((W1 s0 v7 v8 p1).bind (fun r => some [.int .i64 r])) (rn S (ah S T) (cj [.s 4]) (.rc (.loop cg)) F5 (af [Cv 0 s0, (1, .v (.clo g1 [] e1)), Iv 7 v7, Iv 8 v8] [])) := by
 unfold W1
 refine eJ (n := 0) (fs := F5) (a := cg) (eσ := cJ S g1 e1 s0 v7) (eε := cL S g1 e1 s0 v7) (eρ := cM S g1 e1 s0 v7) (by kernel_rfl) (fun q => aY g1 e1 p1 h1 s0 v7 q) ?_ ?_
 ·intro e
  exact av (by kernel_rfl)
 ·intro e
  exact av (by kernel_rfl)
end
end bq
noncomputable def bq (s0 : Sl Assign) (p1 : Assign → Option Bool) : Option Int :=
 bq.W1 s0 (len s0) 0 p1
open bq in
theorem oX {S : Sys} {T : az} [dW S T] (g1 : FuncId) (e1 : List V) (p1 : Assign → Option Bool) (h1 : fZ S (ah S T) g1 e1 (fun z : Assign => [enc z]) (fun r : Bool => [.bool r]) p1) (s0 : Sl Assign) : Le ((bq s0 p1).bind fun r => some [.int .i64 r]) (bl (ah S T) (S.N 21) [enc s0, .clo g1 [] e1]) := by
 refine cZ (dW.t (S := S) (T := T)) (Nat.le_of_ble_eq_true rfl) ?_
 unfold bq
 refine dP 9 false [] Q1 F1 (af [Cv 0 s0, (1, .v (.clo g1 [] e1)), Cv 6 s0] []) s0 rfl (by kernel_rfl) ?_
 exact eY (n := 5) (by kernel_rfl) (eo g1 e1 p1 h1 s0 (len s0) 0)
theorem oJ {S : Sys} {T : az} [dW S T] (g1 : FuncId) (e1 : List V) (p1 : Assign → Option Bool) (h1 : fZ S (ah S T) g1 e1 (fun z : Assign => [enc z]) (fun r : Bool => [.bool r]) p1) : dS S (ah S T) (S.N 21) (fun z : Sl Assign => [enc z, .clo g1 [] e1]) (fun r : Int => [.int .i64 r]) (fun z => bq z p1) true where
 k := dW.k (S := S) (T := T)
 h z := oX g1 e1 p1 h1 z
 l z := by simp [h1.d]
 r r := by simp
 s h r := by kernel_rfl
namespace aT
def Q1 : List RO := o2 7 .c [.f 21, 5, 6] [5,6] ::
 o2 8 (bI .geq) [7, .k (.int .i64 0)] [7] ::
 o1 4 8 [8] ::
 []
def U1 : RC := .seq (.ops (o1 5 0 [0] ::
 o1 6 1 [1] ::
 Q1)) (.ret)
def text : RF := ⟨9, [.s 4], .seq (.ops (o1 4 (.k (.bool false)) [4] ::
 [])) (U1)⟩
def F1 : List Fm := [.seq .ret]
end aT
class cE (S : Sys) (T : az) : Prop where
 t : T (S.N 22) = some aT.text
 k : S.E.keep (S.N 22) = false
 c0 : dW S T
attribute [instance] cE.c0
namespace aT
section
variable {S : Sys} {T : az} [cE S T]
end
end aT
noncomputable def aT (s0 : Sl Assign) (p1 : Assign → Option Bool) : Option Bool :=
 (bq s0 p1).bind fun x_1 =>
 some (decide (x_1 ≥ 0))
open aT in
theorem nq {S : Sys} {T : az} [cE S T] (g1 : FuncId) (e1 : List V) (p1 : Assign → Option Bool) (h1 : fZ S (ah S T) g1 e1 (fun z : Assign => [enc z]) (fun r : Bool => [.bool r]) p1) (s0 : Sl Assign) : Le ((aT s0 p1).bind fun r => some [.bool r]) (bl (ah S T) (S.N 22) [enc s0, .clo g1 [] e1]) := by
 refine cZ (cE.t (S := S) (T := T)) (Nat.le_of_ble_eq_true rfl) ?_
 unfold aT
 refine bg 9 [] Q1 F1 (af [Cv 5 s0, (6, .v (.clo g1 [] e1))] []) (oJ (S := S) (T := T) g1 e1 p1 h1) s0 rfl (by kernel_rfl) fun x_1 h_1 => ?_
 exact av (by kernel_rfl)
theorem m8 {S : Sys} {T : az} [cE S T] (g1 : FuncId) (e1 : List V) (p1 : Assign → Option Bool) (h1 : fZ S (ah S T) g1 e1 (fun z : Assign => [enc z]) (fun r : Bool => [.bool r]) p1) : dS S (ah S T) (S.N 22) (fun z : Sl Assign => [enc z, .clo g1 [] e1]) (fun r : Bool => [.bool r]) (fun z => aT z p1) true where
 k := cE.k (S := S) (T := T)
 h z := nq g1 e1 p1 h1 z
 l z := by simp [h1.d]
 r r := by simp
 s h r := by kernel_rfl
namespace bn
def Q6 : List RO := o2 5 (.a .box) [2] [2] ::
 o1 6 (.k (.int .i64 0)) [6] ::
 []
def Q7 : List RO := o2 3 (.a .box) [0] [0] ::
 o2 4 (.a .box) [1] [1] ::
 Q6
def Q4 : List RO := oz (su 3) [7, 16] [16] ::
 []
def Q5 : List RO := o2 15 (ix 3) [12, 14] [12,14] ::
 o2 16 (lD 3) [15] [15] ::
 o2 7 (.a (.alloc 3 [.str ByteArray.empty, .au, .au])) [] [] ::
 Q4
def Q3 : List RO := o2 25 (ix 5) [21, 24] [21,24] ::
 o2 26 (fa 3) [25] [25] ::
 o2 27 (ld 1) [26] [26] ::
 o1 8 27 [27] ::
 []
def C1 : RC := .cond (.s 19) (.ops (o2 20 (fa 2) [7] [] ::
 o2 21 (ld 1) [20] [20] ::
 o2 22 (fa 1) [4] [] ::
 o2 23 (ld 1) [22] [22] ::
 o2 24 (bI .sub) [23, .k (.int .i64 2)] [23] ::
 Q3)) (.skip)
def jR : List RO := o2 33 .c [.f 19, 29, 31, 32] [29,31,32] ::
 o2 34 (.p (.not)) [33] [33] ::
 o1 28 34 [34] ::
 []
def gO : List RO := o1 35 45 [45] ::
 []
def Q1 : List RO := o3 41 40 false (fa 3) [5] [] ::
 o3 42 40 false (ld 1) [41] [41] ::
 o3 43 40 false (.p (.id)) [8] [8] ::
 o3 44 40 false (bI .lss) [42, 43] [42,43] ::
 o2 45 (.p (.pick)) [40, .k (.bool true), 44] [40,44] ::
 gO
def iQ : List RO := o2 38 .c [.f 6, 37, .k (.int .i64 0), .k (.int .i64 1099511627776)] [37] ::
 o2 39 (.p (.not)) [38] [38] ::
 o1 40 39 [39] ::
 Q1
def Q9 : List RO := o2 49 ln [48] [48] ::
 o2 50 (bI .gtr) [49, .k (.int .i64 8)] [49] ::
 o1 46 50 [50] ::
 []
def C4 : RC := .cond (.s 46) (.seq (.ops (o1 6 (.k (.int .i64 5)) [] ::
 [])) (.gh (.keep [6] []) (.ret))) (.skip)
def C3 : RC := .cond (.s 35) (.seq (.ops (o1 6 (.k (.int .i64 11)) [] ::
 [])) (.gh (.keep [6] []) (.ret))) (.seq (.ops (o2 47 (fa 4) [5] [] ::
 o2 48 (ld 1) [47] [47] ::
 Q9)) (C4))
def C2 : RC := .cond (.s 28) (.seq (.ops (o1 6 (.k (.int .i64 3)) [] ::
 [])) (.gh (.keep [6] []) (.ret))) (.seq (.ops (o2 36 (fa 3) [5] [] ::
 o2 37 (ld 1) [36] [36] ::
 iQ)) (C3))
def Q8 : List RO := o2 53 ln [52] [] ::
 o1 54 (.k (.int .i64 0)) [] ::
 []
def C5 : RC := .cond (.s 55) (.skip) (.gh (.keep [] []) (.exit 1))
def E9 : List RO := o2 57 (ix 2) [52, 54] [] ::
 o2 58 (lD 2) [57] [57] ::
 o2 10 (.a (.alloc 2 [.int .i64 0, .int .i64 0])) [] [] ::
 o1 9 56 [56] ::
 oz (su 2) [10, 58] [58] ::
 []
def qT : List RO := o1 59 73 [73] ::
 []
def jO : List RO := o3 71 68 false .c [.f 6, 70, .k (.int .i64 (-1073741824)), .k (.int .i64 1073741824)] [70] ::
 o3 72 68 false (.p (.not)) [71] [71] ::
 o2 73 (.p (.pick)) [68, .k (.bool true), 72] [68,72] ::
 qT
def Q2 : List RO := o3 69 68 false (fa 1) [10] [] ::
 o3 70 68 false (ld 1) [69] [69] ::
 jO
def zA : List RO := o2 66 .c [.f 6, 61, .k (.int .i64 0), 65] [61,65] ::
 o2 67 (.p (.not)) [66] [66] ::
 o1 68 67 [67] ::
 Q2
def zC : List RO := o2 64 ln [63] [63] ::
 o2 65 (bI .sub) [64, .k (.int .i64 1)] [64] ::
 zA
def kG : List RO := o2 80 .c [.f 22, 78, 79] [78,79] ::
 o1 74 80 [80] ::
 []
def nr : List RO := o2 78 (.p (.slice 2 false true)) [76, 77] [76,77] ::
 o2 79 (.p (.clo 20 0)) [10] [10] ::
 kG
def C7 : RC := .cond (.s 74) (.seq (.ops (o1 6 (.k (.int .i64 8)) [] ::
 [])) (.gh (.keep [6] []) (.ret))) (.skip)
def C6 : RC := .cond (.s 59) (.seq (.ops (o1 6 (.k (.int .i64 2)) [] ::
 [])) (.gh (.keep [6] []) (.ret))) (.seq (.ops (o2 75 (fa 4) [5] [] ::
 o2 76 (ld 1) [75] [75] ::
 o1 77 9 [9] ::
 nr)) (C7))
def U1 : RC := .block 3 (.seq (.ops (o2 60 (fa 0) [10] [] ::
 o2 61 (ld 1) [60] [60] ::
 o2 62 (fa 1) [7] [] ::
 o2 63 (ld 1) [62] [62] ::
 zC)) (C6))
def U2 : RC := .ops (o2 81 (bI .add) [54, .k (.int .i64 1)] [54] ::
 o1 54 81 [81] ::
 [])
def U3 : RC := .seq (.block 2 (.seq (.ops (o1 56 54 [] ::
 E9)) (U1))) (U2)
def iA : RC := .hg (.seq (.ops (o2 55 (bI .lss) [54, 53] [] ::
 [])) (.seq (C5) (U3))) (.keep [5,7,52,53,54] [5,7])
def U4 : RC := .block 1 (.gh (.keep [5,7,52,53,54] [5,7]) (.loop iA))
def U5 : RC := .seq (.ops (o1 6 (.k (.int .i64 0)) [] ::
 [])) (.gh (.keep [6] []) (.ret))
def U6 : RC := .seq (.seq (.ops (o2 51 (fa 4) [5] [] ::
 o2 52 (ld 1) [51] [51] ::
 Q8)) (U4)) (U5)
def u6 : RC := .seq (.block 0 (.seq (.ops (o2 29 (lD 1) [3] [3] ::
 o2 30 (fa 0) [4] [4] ::
 o2 31 (ld 1) [30] [30] ::
 o2 32 (lD 5) [5] [] ::
 jR)) (C2))) (U6)
def U7 : RC := .seq (.seq (.ops (o2 17 (fa 1) [4] [] ::
 o2 18 (ld 1) [17] [17] ::
 o2 19 (bI .gtr) [18, .k (.int .i64 1)] [18] ::
 [])) (C1)) (.gh (.keep [3,4,5,7,8] [3,4,5,7]) (u6))
def U8 : RC := .seq (.ops (o1 8 (.k (.int .i64 0)) [] ::
 [])) (U7)
def U9 : RC := .seq (.ops (o2 11 (fa 0) [3] [] ::
 o2 12 (ld 1) [11] [11] ::
 o2 13 (fa 0) [4] [] ::
 o2 14 (ld 1) [13] [13] ::
 Q5)) (U8)
def text : RF := ⟨82, [.s 6], .seq (.ops Q7) (U9)⟩
def F3 : List Fm := [.seq (.gh (.keep [3,4,5,7,8] [3,4,5,7]) (u6))]
def F4 : List Fm := [.seq U8]
def F5 : List Fm := [.seq U9]
def F6 : List Fm := [.seq U4, .seq U5]
def F7 : List Fm := [.blk 0, .seq U6]
def mC : List Fm := [.seq U3, .gst (.keep [5,7,52,53,54] [5,7])]
def o0 : List Fm := [.blk 1, .seq U5]
def F1 : List Fm := .seq C3 :: F7
def F8 : List Fm := .seq C4 :: F7
def F9 : List Fm := .seq C2 :: F7
def jo : List Fm := [.blk 3, .blk 2, .seq U2, .gst (.keep [5,7,52,53,54] [5,7])]
def ku : List Fm := [.seq U1, .blk 2, .seq U2, .gst (.keep [5,7,52,53,54] [5,7])]
def F2 : List Fm := .seq C6 :: jo
def lH : List Fm := .seq C7 :: jo
end bn
class dG (S : Sys) (T : az) : Prop where
 t : T (S.N 23) = some bn.text
 k : S.E.keep (S.N 23) = false
 c0 : eV S T
 c1 : gH S T
 c2 : ig S T
 c3 : cE S T
attribute [instance] dG.c0 dG.c1 dG.c2 dG.c3
namespace bn
section
variable {S : Sys} {T : az} [dG S T]
noncomputable def cC (v52 : Sl Assign) (v53 : Int) (eb5 : Event) (xb7 : aS) (v54 : Int) : Option (Fw Int Unit Int) :=
 aL (decide (v54 < v53))
 ((idx v52 v54).bind fun x_1 =>
 (e7 x_1.var 0 (IntKind.wrap .i64 ((len xb7.vars) - 1))).bind fun x_2 =>
 (aL x_2
 ((e7 x_1.value (-1073741824) 1073741824).bind fun x_3 =>
 some (!x_3))
 (some true) : Option Bool).bind fun x_4 =>
 aL x_4
 (some (.r 2))
 ((iJ eb5.assign none (some v54)).bind fun x_5 =>
 (aT x_5 (fun z => b8 z x_1)).bind fun x_6 =>
 aL x_6
 (some (.r 8))
 (some (.n (IntKind.wrap .i64 (v54 + 1))))))
 (some (.x ()))
noncomputable def W2 (v52 : Sl Assign) (v53 : Int) (v54 : Int) (eb5 : Event) (xb7 : aS) : Option Int :=
 (cW (fun q : Int => cC v52 v53 eb5 xb7 q) v54).bind (Fw.elim
 (fun e => some 0)
 (fun e => some e))
def jD (S : Sys) (v52 : Sl Assign) (v53 : Int) (eb5 : Event) (xb7 : aS) : Int → St := fun q => (af [Pv 5, Pv 7, Cv 52 v52, Iv 53 v53, Iv 54 q] [Xb 5 eb5, Xb 7 xb7])
def jB (S : Sys) (v52 : Sl Assign) (v53 : Int) (eb5 : Event) (xb7 : aS) : Unit → Nat × St := fun e => (1, (af [] []))
def jA (S : Sys) (v52 : Sl Assign) (v53 : Int) (eb5 : Event) (xb7 : aS) : Int → St := fun e => (af [Iv 6 e] [])
noncomputable def J1 (last8 : Int) (tb3 : Trace) (idb4 : aa) (eb5 : Event) (xb7 : aS) : Option Int :=
 (c8 tb3 idb4.proc eb5).bind fun x_1 =>
 aL x_1
 ((e7 eb5.time 0 1099511627776).bind fun x_2 =>
 (aL x_2
 (some (decide (eb5.time < last8)))
 (some true) : Option Bool).bind fun x_3 =>
 aL x_3
 (some 11)
 (aL (decide ((len eb5.assign) > 8))
 (some 5)
 (bn.W2 eb5.assign (len eb5.assign) 0 eb5 xb7)))
 (some 3)
theorem ga (v52 : Sl Assign) (v53 : Int) (eb5 : Event) (xb7 : aS) (v54 : Int) : Le ((cC v52 v53 eb5 xb7 v54).bind (fun w => some (Fw.out (jD S v52 v53 eb5 xb7) (jB S v52 v53 eb5 xb7) (jA S v52 v53 eb5 xb7) w))) (rn S (ah S T) some (.rc iA) [] (af [Pv 5, Pv 7, Cv 52 v52, Iv 53 v53, Iv 54 v54] [Xb 5 eb5, Xb 7 xb7])) := by
 unfold cC
 refine aJ (n := 7) (fo' := .rc C5) (fs' := mC) (t := decide (v54 < v53)) (A := fun bb => (af [Pv 5, Pv 7, Cv 52 v52, Iv 53 v53, Iv 54 v54, Bv 55 bb] [Xb 5 eb5, Xb 7 xb7])) (by kernel_rfl) ?_ ?_
 ·refine ey 8 false [] E9 ku (af [Pv 5, Pv 7, Cv 52 v52, Iv 53 v53, Iv 54 v54, Bv 55 true, Iv 56 v54] [Xb 5 eb5, Xb 7 xb7]) .i64 rfl (by kernel_rfl) fun x_1 h_1 => ?_
  refine dP 13 false [] zC F2 (af [Pv 5, Pv 7, Cv 52 v52, Iv 53 v53, Iv 54 v54, Bv 55 true, Pv 10, Iv 9 v54, Iv 61 x_1.var, Cv 63 xb7.vars] [Xb 5 eb5, Xb 7 xb7, Xb 10 x_1]) xb7.vars rfl (by kernel_rfl) ?_
  refine bg 1 [] zA F2 (af [Pv 5, Pv 7, Cv 52 v52, Iv 53 v53, Iv 54 v54, Bv 55 true, Pv 10, Iv 9 v54, Iv 61 x_1.var, Iv 65 (IntKind.wrap .i64 ((len xb7.vars) - 1))] [Xb 5 eb5, Xb 7 xb7, Xb 10 x_1]) (jd (S := S) (T := T)) (x_1.var, 0, IntKind.wrap .i64 ((len xb7.vars) - 1)) rfl (by kernel_rfl) fun x_2 h_2 => ?_
  refine dw (fun x_4 => rn S (ah S T) some (.ops false [] qT) F2 (af [Pv 5, Pv 7, Cv 52 v52, Iv 53 v53, Iv 54 v54, Bv 55 true, Pv 10, Iv 9 v54, Bv 73 x_4] [Xb 5 eb5, Xb 7 xb7, Xb 10 x_1])) ?_ fun x_4 => ?_
  ·refine aJ (n := 2) (fo' := .ops false [] Q2) (fs' := F2) (t := x_2) (A := fun bb => (af [Pv 5, Pv 7, Cv 52 v52, Iv 53 v53, Iv 54 v54, Bv 55 true, Pv 10, Iv 9 v54, Bv 68 (!bb)] [Xb 5 eb5, Xb 7 xb7, Xb 10 x_1])) (by kernel_rfl) ?_ ?_
   ·refine bg 2 [] jO F2 (af [Pv 5, Pv 7, Cv 52 v52, Iv 53 v53, Iv 54 v54, Bv 55 true, Pv 10, Iv 9 v54, Bv 68 false, Iv 70 x_1.value] [Xb 5 eb5, Xb 7 xb7, Xb 10 x_1]) (jd (S := S) (T := T)) (x_1.value, (-1073741824), 1073741824) rfl (by kernel_rfl) fun x_3 h_3 => ?_
    exact bp (n := 2) (by kernel_rfl) rfl
   ·exact bp (n := 5) (by kernel_rfl) rfl
  ·refine aJ (n := 3) (fo' := .rc C6) (fs' := jo) (t := x_4) (A := fun bb => (af [Pv 5, Pv 7, Cv 52 v52, Iv 53 v53, Iv 54 v54, Bv 55 true, Pv 10, Iv 9 v54, Bv 59 bb] [Xb 5 eb5, Xb 7 xb7, Xb 10 x_1])) (by kernel_rfl) ?_ ?_
   ·exact av (by kernel_rfl)
   ·refine Dd 6 false [] nr lH (af [Pv 5, Pv 7, Cv 52 v52, Iv 53 v53, Iv 54 v54, Bv 55 true, Pv 10, Bv 59 false, Cv 76 eb5.assign, Iv 77 v54] [Xb 5 eb5, Xb 7 xb7, Xb 10 x_1]) false true [.int .i64 v54] rfl (by kernel_rfl) fun x_5 h_5 => ?_
    refine kK 1 false [] kG lH (af [Pv 5, Pv 7, Cv 52 v52, Iv 53 v53, Iv 54 v54, Bv 55 true, Bv 59 false, Cv 78 x_5, (79, .clo (S.N 20) [] [.ptr 10 0])] [Xb 5 eb5, Xb 7 xb7, Xb 10 x_1]) (m8 (S := S) (T := T) (S.N 20) [.fptr (cells x_1)] (fun z => b8 z x_1) (fZ.of (qy (S := S) (T := T)) (fun z => (z, x_1)) (fun _ => rfl) (fun _ => rfl) (by simp))) x_5 [.v (.clo (S.N 22) [] []), cv x_5, .clo (S.N 20) [] [.ptr 10 0]] [cv x_5, .clo (S.N 20) [] [.ptr 10 0]] rfl (by kernel_rfl) fun x_6 h_6 => ?_
    refine aJ (n := 3) (fo' := .rc C7) (fs' := jo) (t := x_6) (A := fun bb => (af [Pv 5, Pv 7, Cv 52 v52, Iv 53 v53, Iv 54 v54, Bv 55 true, Bv 59 false, Bv 74 bb] [Xb 5 eb5, Xb 7 xb7, Xb 10 x_1])) (by kernel_rfl) ?_ ?_
    ·exact av (by kernel_rfl)
    ·exact av (by kernel_rfl)
 ·exact av (by kernel_rfl)
theorem lE (v52 : Sl Assign) (v53 : Int) (v54 : Int) (eb5 : Event) (xb7 : aS) : Le ((W2 v52 v53 v54 eb5 xb7).bind (fun r => some [.int .i64 r])) (rn S (ah S T) (cj [.s 6]) (.rc (.loop iA)) o0 (af [Pv 5, Pv 7, Cv 52 v52, Iv 53 v53, Iv 54 v54] [Xb 5 eb5, Xb 7 xb7])) := by
 unfold W2
 refine eJ (n := 0) (fs := o0) (a := iA) (eσ := jD S v52 v53 eb5 xb7) (eε := jB S v52 v53 eb5 xb7) (eρ := jA S v52 v53 eb5 xb7) (by kernel_rfl) (fun q => ga v52 v53 eb5 xb7 q) ?_ ?_
 ·intro e
  exact av (by kernel_rfl)
 ·intro e
  exact av (by kernel_rfl)
theorem qG (last8 : Int) (tb3 : Trace) (idb4 : aa) (eb5 : Event) (xb7 : aS) : Le ((J1 last8 tb3 idb4 eb5 xb7).bind (fun r => some [.int .i64 r])) (rn S (ah S T) (cj [.s 6]) (.rc u6) [] (af [Pv 3, Pv 4, Pv 5, Pv 7, Iv 8 last8] [Xb 3 tb3, Xb 4 idb4, Xb 5 eb5, Xb 7 xb7])) := by
 unfold J1
 refine bg 8 [] jR F9 (af [Pv 5, Pv 7, Iv 8 last8, Cv 29 tb3, Iv 31 idb4.proc, Cv 32 eb5] [Xb 3 tb3, Xb 4 idb4, Xb 5 eb5, Xb 7 xb7]) (vS (S := S) (T := T)) (tb3, idb4.proc, eb5) rfl (by kernel_rfl) fun x_1 h_1 => ?_
 refine aJ (n := 4) (fo' := .rc C2) (fs' := F7) (t := x_1) (A := fun bb => (af [Pv 5, Pv 7, Iv 8 last8, Bv 28 (!bb)] [Xb 3 tb3, Xb 4 idb4, Xb 5 eb5, Xb 7 xb7])) (by kernel_rfl) ?_ ?_
 ·refine bg 5 [] iQ F1 (af [Pv 5, Pv 7, Iv 8 last8, Bv 28 false, Iv 37 eb5.time] [Xb 3 tb3, Xb 4 idb4, Xb 5 eb5, Xb 7 xb7]) (jd (S := S) (T := T)) (eb5.time, 0, 1099511627776) rfl (by kernel_rfl) fun x_2 h_2 => ?_
  refine dw (fun x_3 => rn S (ah S T) (cj [.s 6]) (.ops false [] gO) F1 (af [Pv 5, Pv 7, Bv 28 false, Bv 45 x_3] [Xb 3 tb3, Xb 4 idb4, Xb 5 eb5, Xb 7 xb7])) ?_ fun x_3 => ?_
  ·refine aJ (n := 2) (fo' := .ops false [] Q1) (fs' := F1) (t := x_2) (A := fun bb => (af [Pv 5, Pv 7, Iv 8 last8, Bv 28 false, Bv 40 (!bb)] [Xb 3 tb3, Xb 4 idb4, Xb 5 eb5, Xb 7 xb7])) (by kernel_rfl) ?_ ?_
   ·exact bp (n := 5) (by kernel_rfl) rfl
   ·exact bp (n := 5) (by kernel_rfl) rfl
  ·refine aJ (n := 3) (fo' := .rc C3) (fs' := F7) (t := x_3) (A := fun bb => (af [Pv 5, Pv 7, Bv 28 false, Bv 35 bb] [Xb 3 tb3, Xb 4 idb4, Xb 5 eb5, Xb 7 xb7])) (by kernel_rfl) ?_ ?_
   ·exact av (by kernel_rfl)
   ·refine dP 5 false [] Q9 F8 (af [Pv 5, Pv 7, Bv 28 false, Bv 35 false, Cv 48 eb5.assign] [Xb 3 tb3, Xb 4 idb4, Xb 5 eb5, Xb 7 xb7]) eb5.assign rfl (by kernel_rfl) ?_
    refine aJ (n := 4) (fo' := .rc C4) (fs' := F7) (t := decide ((len eb5.assign) > 8)) (A := fun bb => (af [Pv 5, Pv 7, Bv 28 false, Bv 35 false, Bv 46 bb] [Xb 3 tb3, Xb 4 idb4, Xb 5 eb5, Xb 7 xb7])) (by kernel_rfl) ?_ ?_
    ·exact av (by kernel_rfl)
    ·refine dP 9 false [] Q8 F6 (af [Pv 5, Pv 7, Bv 28 false, Bv 35 false, Bv 46 false, Cv 52 eb5.assign] [Xb 3 tb3, Xb 4 idb4, Xb 5 eb5, Xb 7 xb7]) eb5.assign rfl (by kernel_rfl) ?_
     exact eY (n := 5) (by kernel_rfl) (lE eb5.assign (len eb5.assign) 0 eb5 xb7)
 ·exact av (by kernel_rfl)
end
end bn
noncomputable def bn (t0 : Trace) (id1 : aa) (e2 : Event) : Option Int :=
 (idx t0.procs id1.proc).bind fun x_1 =>
 aL (decide (id1.index > 1))
 ((idx x_1.events (IntKind.wrap .i64 (id1.index - 2))).bind fun x_2 =>
 bn.J1 x_2.time t0 id1 e2 x_1)
 (bn.J1 0 t0 id1 e2 x_1)
open bn in
theorem tj {S : Sys} {T : az} [dG S T] (t0 : Trace) (id1 : aa) (e2 : Event) : Le ((bn t0 id1 e2).bind fun r => some [.int .i64 r]) (bl (ah S T) (S.N 23) [enc t0, enc id1, enc e2]) := by
 refine cZ (dG.t (S := S) (T := T)) (Nat.le_of_ble_eq_true rfl) ?_
 unfold bn
 refine gm 2 false [] Q7 F5 (af [Cv 0 t0, Cv 1 id1, Cv 2 e2] []) t0 rfl (by kernel_rfl) (by kernel_rfl) ?_
 refine gm 1 false [] Q6 F5 (af [Cv 2 e2, Pv 3, Pv 4] [Xb 3 t0, Xb 4 id1]) e2 rfl (by kernel_rfl) (by kernel_rfl) ?_
 refine ey 9 false [] Q5 F4 (af [Pv 3, Pv 4, Pv 5, Cv 12 t0.procs, Iv 14 id1.proc] [Xb 3 t0, Xb 4 id1, Xb 5 e2]) .i64 rfl (by kernel_rfl) fun x_1 h_1 => ?_
 refine Ast 2 false [] Q4 F4 (af [Pv 3, Pv 4, Pv 5, Cv 16 x_1, Pv 7] [Xb 3 t0, Xb 4 id1, Xb 5 e2, Xb 7 (⟨ByteArray.empty, Sl.nil, Sl.nil⟩ : aS)]) 7 0 x_1 [.v (.str ByteArray.empty), .v .au, .v .au] [.v (.str x_1.name), cv x_1.vars, cv x_1.events] rfl (by kernel_rfl) ?_
 refine aJ (n := 15) (fo' := .rc C1) (fs' := F3) (t := decide (id1.index > 1)) (A := fun bb => (af [Pv 3, Pv 4, Pv 5, Pv 7, Iv 8 0, Bv 19 bb] [Xb 3 t0, Xb 4 id1, Xb 5 e2, Xb 7 x_1])) (by kernel_rfl) ?_ ?_
 ·refine ey 7 false [] Q3 F3 (af [Pv 3, Pv 4, Pv 5, Pv 7, Iv 8 0, Bv 19 true, Cv 21 x_1.events, Iv 24 (IntKind.wrap .i64 (id1.index - 2))] [Xb 3 t0, Xb 4 id1, Xb 5 e2, Xb 7 x_1]) .i64 rfl (by kernel_rfl) fun x_2 h_2 => ?_
  exact eY (n := 6) (by kernel_rfl) (qG x_2.time t0 id1 e2 x_1)
 ·exact eY (n := 4) (by kernel_rfl) (qG 0 t0 id1 e2 x_1)
theorem sA {S : Sys} {T : az} [dG S T] : dS S (ah S T) (S.N 23) (fun z : Trace × aa × Event => [enc z.1, enc z.2.1, enc z.2.2]) (fun r : Int => [.int .i64 r]) (fun z => bn z.1 z.2.1 z.2.2) true where
 k := dG.k (S := S) (T := T)
 h z := tj z.1 z.2.1 z.2.2
 l z := by simp
 r r := by simp
 s h r := by kernel_rfl
namespace dJ
def Q5 : List RO := o2 3 (.a .box) [0] [0] ::
 o1 4 (.k (.bool false)) [4] ::
 []
def Q3 : List RO := o1 4 19 [19] ::
 []
def Q2 : List RO := o3 15 14 true (fa 1) [3] [3] ::
 o3 16 14 true (ld 1) [15] [15] ::
 o3 17 14 true (ld 1) [2] [2] ::
 o3 18 14 true (bI .eql) [16, 17] [16,17] ::
 o2 19 (.p (.pick)) [14, 18, .k (.bool false)] [14,18] ::
 Q3
def Q4 : List RO := o1 14 13 [13] ::
 Q2
def Q1 : List RO := o3 9 8 true (fa 2) [3] [] ::
 o3 10 8 true (ld 1) [9] [9] ::
 o3 11 8 true (ld 1) [1] [1] ::
 o3 12 8 true (bI .eql) [10, 11] [10,11] ::
 o2 13 (.p (.pick)) [8, 12, .k (.bool false)] [8,12] ::
 Q4
def U1 : RC := .seq (.ops (o2 5 (fa 0) [3] [] ::
 o2 6 (ld 1) [5] [5] ::
 o2 7 (bI .eql) [6, .k (.int .i64 2)] [6] ::
 o1 8 7 [7] ::
 Q1)) (.ret)
def text : RF := ⟨20, [.s 4], .seq (.ops Q5) (U1)⟩
def F1 : List Fm := [.seq .ret]
def F2 : List Fm := [.seq U1]
end dJ
class gA (S : Sys) (T : az) : Prop where
 t : T (S.N 24) = some dJ.text
 k : S.E.keep (S.N 24) = false
namespace dJ
section
variable {S : Sys} {T : az} [gA S T]
end
end dJ
noncomputable def dJ (e0 : Event) (v1 : Int) (v2 : Int) : Option Bool :=
 (aL (e0.kind == 2)
 (some (e0.message == v1))
 (some false) : Option Bool).bind fun x_1 =>
 (aL x_1
 (some (e0.peer == v2))
 (some false) : Option Bool).bind fun x_2 =>
 some x_2
open dJ in
theorem uU {S : Sys} {T : az} [gA S T] (e0 : Event) (v1 : Int) (v2 : Int) : Le ((dJ e0 v1 v2).bind fun r => some [.bool r]) (bl (ah S T) (S.N 24) [enc e0, .fptr (cells v1), .fptr (cells v2)]) := by
 refine cZ (gA.t (S := S) (T := T)) (Nat.le_of_ble_eq_true rfl) ?_
 unfold dJ
 refine gm 2 false [] Q5 F2 (af [Cv 0 e0, Kv 1 v1, Kv 2 v2] []) e0 rfl (by kernel_rfl) (by kernel_rfl) ?_
 refine dw (fun x_1 => rn S (ah S T) (cj [.s 4]) (.ops false [] Q4) F1 (af [Kv 2 v2, Pv 3, Bv 13 x_1] [Xb 3 e0])) ?_ fun x_1 => ?_
 ·refine aJ (n := 9) (fo' := .ops false [] Q1) (fs' := F1) (t := (e0.kind == 2)) (A := fun bb => (af [Kv 1 v1, Kv 2 v2, Pv 3, Bv 8 bb] [Xb 3 e0])) (by kernel_rfl) ?_ ?_
  ·exact bp (n := 5) (by kernel_rfl) rfl
  ·exact bp (n := 5) (by kernel_rfl) rfl
 ·refine dw (fun x_2 => rn S (ah S T) (cj [.s 4]) (.ops false [] Q3) F1 (af [Bv 19 x_2] [Xb 3 e0])) ?_ fun x_2 => ?_
  ·refine aJ (n := 1) (fo' := .ops false [] Q2) (fs' := F1) (t := x_1) (A := fun bb => (af [Kv 2 v2, Pv 3, Bv 14 bb] [Xb 3 e0])) (by kernel_rfl) ?_ ?_
   ·exact bp (n := 5) (by kernel_rfl) rfl
   ·exact bp (n := 5) (by kernel_rfl) rfl
  ·exact av (by kernel_rfl)
theorem uc {S : Sys} {T : az} [gA S T] : dS S (ah S T) (S.N 24) (fun z : Event × Int × Int => [enc z.1, .fptr (cells z.2.1), .fptr (cells z.2.2)]) (fun r : Bool => [.bool r]) (fun z => dJ z.1 z.2.1 z.2.2) true where
 k := gA.k (S := S) (T := T)
 h z := uU z.1 z.2.1 z.2.2
 l z := by simp
 r r := by simp
 s h r := by kernel_rfl
namespace fc
def Q3 : List RO := o2 4 (.a .box) [0] [0] ::
 o2 6 (.a .box) [2] [2] ::
 o2 7 (.a .box) [3] [3] ::
 o1 8 (.k (.bool false)) [8] ::
 []
def Q1 : List RO := o2 16 .c [.f 3, 14, 15] [14,15] ::
 o1 8 16 [16] ::
 []
def Q2 : List RO := o2 12 (ix 3) [10, 11] [10,11] ::
 o2 13 (fa 2) [12] [12] ::
 o2 14 (ld 1) [13] [13] ::
 o2 15 (.p (.clo 24 0)) [6, 7] [6,7] ::
 Q1
def U1 : RC := .seq (.ops (o2 9 (fa 0) [4] [4] ::
 o2 10 (ld 1) [9] [9] ::
 o1 11 1 [1] ::
 Q2)) (.ret)
def text : RF := ⟨17, [.s 8], .seq (.ops Q3) (U1)⟩
def F1 : List Fm := [.seq .ret]
def F2 : List Fm := [.seq U1]
end fc
class gz (S : Sys) (T : az) : Prop where
 t : T (S.N 25) = some fc.text
 k : S.E.keep (S.N 25) = false
 c0 : gA S T
 c1 : cr S T
attribute [instance] gz.c0 gz.c1
namespace fc
section
variable {S : Sys} {T : az} [gz S T]
end
end fc
noncomputable def fc (t0 : Trace) (p1 : Int) (m2 : Int) (to_3 : Int) : Option Bool :=
 (idx t0.procs p1).bind fun x_1 =>
 (aQ x_1.events (fun z => dJ z m2 to_3)).bind fun x_2 =>
 some x_2
open fc in
theorem yx {S : Sys} {T : az} [gz S T] (t0 : Trace) (p1 : Int) (m2 : Int) (to_3 : Int) : Le ((fc t0 p1 m2 to_3).bind fun r => some [.bool r]) (bl (ah S T) (S.N 25) [enc t0, .int .i64 p1, .int .i64 m2, .int .i64 to_3]) := by
 refine cZ (gz.t (S := S) (T := T)) (Nat.le_of_ble_eq_true rfl) ?_
 unfold fc
 refine gm 2 false [] Q3 F2 (af [Cv 0 t0, Iv 1 p1, Iv 2 m2, Iv 3 to_3] []) t0 rfl (by kernel_rfl) (by kernel_rfl) ?_
 refine ey 10 false [] Q2 F1 (af [Pv 6, Pv 7, Cv 10 t0.procs, Iv 11 p1] [Xb 4 t0, (6, .box [iv m2]), (7, .box [iv to_3])]) .i64 rfl (by kernel_rfl) fun x_1 h_1 => ?_
 refine kK 3 false [] Q1 F1 (af [Cv 14 x_1.events, (15, .clo (S.N 24) [] [.ptr 6 0, .ptr 7 0])] [Xb 4 t0, (6, .box [iv m2]), (7, .box [iv to_3])]) (jE (S := S) (T := T) (S.N 24) [.fptr (cells m2), .fptr (cells to_3)] (fun z => dJ z m2 to_3) (fZ.of (uc (S := S) (T := T)) (fun z => (z, m2, to_3)) (fun _ => rfl) (fun _ => rfl) (by simp))) x_1.events [.v (.clo (S.N 3) [] []), cv x_1.events, .clo (S.N 24) [] [.ptr 6 0, .ptr 7 0]] [cv x_1.events, .clo (S.N 24) [] [.ptr 6 0, .ptr 7 0]] rfl (by kernel_rfl) fun x_2 h_2 => ?_
 exact av (by kernel_rfl)
theorem xQ {S : Sys} {T : az} [gz S T] : dS S (ah S T) (S.N 25) (fun z : Trace × Int × Int × Int => [enc z.1, .int .i64 z.2.1, .int .i64 z.2.2.1, .int .i64 z.2.2.2]) (fun r : Bool => [.bool r]) (fun z => fc z.1 z.2.1 z.2.2.1 z.2.2.2) true where
 k := gz.k (S := S) (T := T)
 h z := yx z.1 z.2.1 z.2.2.1 z.2.2.2
 l z := by simp
 r r := by simp
 s h r := by kernel_rfl
namespace bu
def Q4 : List RO := o2 1 (.a .box) [0] [0] ::
 o2 2 (.a (.alloc 1 [.bX])) [] [] ::
 o2 3 (.a (.alloc 2 [.int .i64 0, .int .i64 0])) [] [] ::
 o2 4 (.a (.alloc 1 [.int .i64 0])) [] [] ::
 []
def Q2 : List RO := o2 5 (.a (.alloc 1 [.bX])) [] [] ::
 oz (su 1) [5, 10] [10] ::
 []
def Q3 : List RO := o2 10 (.a .box) [9] [9] ::
 Q2
def Q1 : List RO := o2 12 .c [.f 18, 11] [11] ::
 []
def qT : List RO := o2 6 (.a (.alloc 2 [.int .i64 0, .int .i64 0])) [] [] ::
 oz (su 2) [6, 13] [13] ::
 []
def kG : List RO := oz (su 5) [7, 14] [14] ::
 []
def nr : List RO := o2 7 (.a (.alloc 5 [.int .i64 0, .int .i64 0, .int .i64 0, .int .i64 0, .au])) [] [] ::
 kG
def Q7 : List RO := o2 27 (ld 1) [26] [26] ::
 o2 28 (bI .gtr) [27, .k (.int .i64 0)] [27] ::
 []
def Q8 : List RO := o2 24 (.p (.idxA 200 4)) [23, 22] [22,23] ::
 o2 25 (fa 0) [24] [24] ::
 o2 26 (fa 1) [25] [25] ::
 Q7
def C2 : RC := .cond (.s 28) (.seq (.reg (o2 29 (lD 2) [6] [] ::
 oy (.l (.storeF 1)) [2, .k (.bX), 6] [6] ::
 oy (su 2) [3, 29] [29] ::
 oy (su 1) [4, .k (.int .i64 8)] [] ::
 [])) (.gh (.keep [] [1,2,3,4,5,10]) (.ret))) (.skip)
def Q5 : List RO := oy (su 2) [35, 32] [32,35] ::
 []
def Q6 : List RO := on 34 (.p (.idxA 200 4)) [33, 31] [31,33] ::
 on 35 (fa 0) [34] [34] ::
 Q5
def U1 : RC := .reg (o2 30 (ld 1) [5] [] ::
 o1 31 8 [8] ::
 o2 32 (lD 2) [6] [6] ::
 o2 33 (.p (.nilc)) [30] [30] ::
 Q6)
def jR : List RO := o2 44 (ld 1) [43] [43] ::
 o2 45 (bI .gtr) [44, .k (.int .i64 0)] [44] ::
 []
def jO : List RO := o2 41 (.p (.idxA 200 4)) [40, 39] [39,40] ::
 o2 42 (fa 2) [41] [41] ::
 o2 43 (fa 1) [42] [42] ::
 jR
def C4 : RC := .cond (.s 45) (.seq (.reg (o2 46 (lD 2) [6] [] ::
 oy (.l (.storeF 1)) [2, .k (.bX), 6] [6] ::
 oy (su 2) [3, 46] [46] ::
 oy (su 1) [4, .k (.int .i64 8)] [] ::
 [])) (.gh (.keep [] [1,2,3,4,5,10]) (.ret))) (.skip)
def iQ : List RO := o2 53 .c [.f 25, 47, 49, 50, 52] [47,49,50,52] ::
 o2 54 (.p (.not)) [53] [53] ::
 []
def C5 : RC := .cond (.s 54) (.seq (.reg (o2 55 (lD 2) [6] [] ::
 oy (.l (.storeF 1)) [2, .k (.bX), 6] [6] ::
 oy (su 2) [3, 55] [55] ::
 oy (su 1) [4, .k (.int .i64 7)] [] ::
 [])) (.gh (.keep [] [1,2,3,4,5,10]) (.ret))) (.skip)
def Q9 : List RO := oy (su 2) [61, 58] [58,61] ::
 []
def gO : List RO := on 60 (.p (.idxA 200 4)) [59, 57] [57,59] ::
 on 61 (fa 2) [60] [60] ::
 Q9
def U2 : RC := .reg (o2 56 (ld 1) [5] [] ::
 o1 57 8 [8] ::
 o2 58 (lD 2) [6] [6] ::
 o2 59 (.p (.nilc)) [56] [56] ::
 gO)
def U3 : RC := .seq (.seq (.ops (o2 47 (lD 1) [1] [] ::
 o2 48 (fa 1) [7] [7] ::
 o2 49 (ld 1) [48] [48] ::
 o1 50 8 [] ::
 o2 51 (fa 0) [6] [] ::
 o2 52 (ld 1) [51] [51] ::
 iQ)) (C5)) (U2)
def C3 : RC := .cond (.s 36) (.seq (.seq (.ops (o2 38 (ld 1) [5] [] ::
 o1 39 8 [] ::
 o2 40 (.p (.nilc)) [38] [38] ::
 jO)) (C4)) (U3)) (.skip)
def C1 : RC := .cond (.s 19) (.seq (.seq (.ops (o2 21 (ld 1) [5] [] ::
 o1 22 8 [] ::
 o2 23 (.p (.nilc)) [21] [21] ::
 Q8)) (C2)) (U1)) (.seq (.ops (o2 37 (bI .eql) [18, .k (.int .i64 3)] [18] ::
 o1 36 37 [37] ::
 [])) (C3))
def U4 : RC := .block 2 (.seq (.ops (o2 20 (bI .eql) [18, .k (.int .i64 2)] [] ::
 o1 19 20 [20] ::
 [])) (C1))
def U5 : RC := .seq (.ops (o2 17 (fa 0) [7] [] ::
 o2 18 (ld 1) [17] [17] ::
 [])) (U4)
def qP : RC := .seq (.ops qT) (.ops nr)
def qH : RC := .hg (.block 1 (.seq (.ops (o2 15 (fa 2) [7] [] ::
 o2 16 (ld 1) [15] [15] ::
 o1 8 16 [16] ::
 [])) (U5))) (.keep [] [1,2,3,4,5,10])
def U6 : RC := .block 0 (.gh (.keep [1,2,3,4,5,12] [1,2,3,4,5,10]) (.each (.s 12) [13,14] qP qH))
def U7 : RC := .seq (.ops (o2 62 (ld 1) [5] [5] ::
 o2 63 (.p (.build [.int .i64 0, .int .i64 0] [])) [] [] ::
 oz (su 1) [2, 62] [62] ::
 oz (su 2) [3, 63] [63] ::
 oz (su 1) [4, .k (.int .i64 0)] [] ::
 [])) (.gh (.keep [2,3,4] [2,3,4,10]) (.ret))
def U8 : RC := .seq (.seq (.ops (o2 11 (lD 1) [1] [] ::
 Q1)) (U6)) (U7)
def U9 : RC := .seq (.ops (o2 9 (.p (.build (List.replicate 800 (.int .i64 0)) [])) [] [] ::
 Q3)) (U8)
def text : RF := ⟨64, [.ld 2 1 false, .ld 3 2 true, .ld 4 1 false], .seq (.ops Q4) (U9)⟩
def F2 : List Fm := [.seq U8]
def F3 : List Fm := [.seq U9]
def lH : List Fm := [.seq (.ops nr)]
def F1 : List Fm := [.seq U6, .seq U7]
def ku : List Fm := [.blk 0, .seq U7]
def F4 : List Fm := [.blk 2, .blk 1, .gst (.keep [] [1,2,3,4,5,10])]
def F5 : List Fm := .seq U1 :: F4
def F7 : List Fm := .seq U2 :: F4
def F9 : List Fm := .seq U3 :: F4
def F6 : List Fm := .seq C2 :: F5
def F8 : List Fm := .seq C5 :: F7
def jo : List Fm := .seq C4 :: F9
end bu
class dx (S : Sys) (T : az) : Prop where
 t : T (S.N 26) = some bu.text
 k : S.E.keep (S.N 26) = false
 c0 : fC S T
 c1 : gz S T
 i0 : ∀ t : Trace, ∀ its, eN t = some its → S.items (S.N 17) [] [.fptr (cells t)] = some (its.map fun x : aa × Event => [enc x.1, enc x.2])
attribute [instance] dx.c0 dx.c1
namespace bu
section
variable {S : Sys} {T : az} [dx S T]
noncomputable def iy (vk0_12 : Trace) (tb1 : Trace) (vb2 : Option (aZ 200 ay)) (vb3 : aa) (vb4 : Int) (x : aa × Event) (vb10 : aZ 200 ay) : Option (Fw (aZ 200 ay) Empty (aa × Int × (aZ 200 ay))) :=
 aL (x.2.kind == 2)
 ((aZ.at vb10 x.2.message).bind fun x_1 =>
 aL (decide (x_1.from_.index > 0))
 (some (.r (x.1, 8, vb10)))
 ((aZ.at vb10 x.2.message).bind fun x_2 =>
 some (.n (aZ.set vb10 x.2.message (⟨x.1, x_2.to_⟩ : ay)))))
 (aL (x.2.kind == 3)
 ((aZ.at vb10 x.2.message).bind fun x_3 =>
 aL (decide (x_3.to_.index > 0))
 (some (.r (x.1, 8, vb10)))
 ((fc tb1 x.2.peer x.2.message x.1.proc).bind fun x_4 =>
 aL x_4
 ((aZ.at vb10 x.2.message).bind fun x_5 =>
 some (.n (aZ.set vb10 x.2.message (⟨x_5.from_, x.1⟩ : ay))))
 (some (.r (x.1, 7, vb10)))))
 (some (.n vb10)))
noncomputable def E1 (vk0_12 : Trace) (tb1 : Trace) (vb2 : Option (aZ 200 ay)) (vb3 : aa) (vb4 : Int) (vb10 : aZ 200 ay) : Option ((Option (aZ 200 ay)) × aa × Int) :=
 (eN vk0_12).bind fun its => (kr (fun (x : aa × Event) (q : aZ 200 ay) => iy vk0_12 tb1 vb2 vb3 vb4 x q) its vb10).bind (Fw.sE
 (fun q => some (some q, ⟨0, 0⟩, 0))
 (fun e => Empty.elim e)
 (fun e => some ((none : Option (aZ 200 ay)), e.1, e.2.1)))
def sU (S : Sys) (vk0_12 : Trace) (tb1 : Trace) (vb2 : Option (aZ 200 ay)) (vb3 : aa) (vb4 : Int) : aZ 200 ay → Tb aE := fun q => [Xb 1 tb1, (2, .box [cv vb2]), Xb 3 vb3, (4, .box [iv vb4]), (5, .box [.ptr 10 0]), Xb 10 q]
def sr (S : Sys) (vk0_12 : Trace) (tb1 : Trace) (vb2 : Option (aZ 200 ay)) (vb3 : aa) (vb4 : Int) : Empty → Nat × Tb aE := fun e => Empty.elim e
def r_ (S : Sys) (vk0_12 : Trace) (tb1 : Trace) (vb2 : Option (aZ 200 ay)) (vb3 : aa) (vb4 : Int) : aa × Int × (aZ 200 ay) → Tb aE := fun e => [Xb 1 tb1, (2, .box [cv (none : Option (aZ 200 ay))]), Xb 3 e.1, (4, .box [iv e.2.1]), (5, .box [.ptr 10 0]), Xb 10 e.2.2]
theorem mX (vk0_12 : Trace) (tb1 : Trace) (vb2 : Option (aZ 200 ay)) (vb3 : aa) (vb4 : Int) (x : aa × Event) (vb10 : aZ 200 ay) : Le ((iy vk0_12 tb1 vb2 vb3 vb4 x vb10).bind (fun w => some (Fw.lK (sU S vk0_12 tb1 vb2 vb3 vb4) (sr S vk0_12 tb1 vb2 vb3 vb4) (r_ S vk0_12 tb1 vb2 vb3 vb4) w))) (rn S (ah S T) (pI S (ah S T) qH) (.rc qP) [] ⟨[Pv 1, Pv 2, Pv 3, Pv 4, Pv 5, (12, .v (.clo (S.N 17) [] [.fptr (cells vk0_12)])), Cv 13 x.1, Cv 14 x.2], [Xb 1 tb1, (2, .box [cv vb2]), Xb 3 vb3, (4, .box [iv vb4]), (5, .box [.ptr 10 0]), Xb 10 vb10], [1,2,3,4,5], [], true, 0⟩) := by
 unfold iy
 refine B6 2 false [] qT lH ⟨[Pv 1, Pv 2, Pv 3, Pv 4, Pv 5, (12, .v (.clo (S.N 17) [] [.fptr (cells vk0_12)])), Cv 13 x.1, Cv 14 x.2], [Xb 1 tb1, (2, .box [cv vb2]), Xb 3 vb3, (4, .box [iv vb4]), (5, .box [.ptr 10 0]), Xb 10 vb10], [1,2,3,4,5], [], true, 0⟩ [iv 0, iv 0] rfl (by simp only [af, rE, lu, mE, lC, mI, nR, mJ, nK, kY, mw, rI, nI, nN, nE, nL, pN, pK, mK, nu]; rfl) (by kernel_rfl) ?_
 refine B6 4 false [] nr [] ⟨[Pv 1, Pv 2, Pv 3, Pv 4, Pv 5, (12, .v (.clo (S.N 17) [] [.fptr (cells vk0_12)])), Cv 14 x.2, Pv 6], [Xb 1 tb1, (2, .box [cv vb2]), Xb 3 vb3, (4, .box [iv vb4]), (5, .box [.ptr 10 0]), Xb 10 vb10, Xb 6 x.1], [1,2,3,4,5], [], true, 0⟩ [iv 0, iv 0, iv 0, iv 0, .v .au] rfl (by simp only [af, rE, lu, mE, lC, mI, nR, mJ, nK, kY, mw, rI, nI, nN, nE, nL, pN, pK, mK, nu]; rfl) (by kernel_rfl) ?_
 refine Ast 0 false [] kG [] ⟨[Pv 1, Pv 2, Pv 3, Pv 4, Pv 5, (12, .v (.clo (S.N 17) [] [.fptr (cells vk0_12)])), Cv 14 x.2, Pv 6, Pv 7], [Xb 1 tb1, (2, .box [cv vb2]), Xb 3 vb3, (4, .box [iv vb4]), (5, .box [.ptr 10 0]), Xb 10 vb10, Xb 6 x.1, Xb 7 (⟨0, 0, 0, 0, Sl.nil⟩ : Event)], [1,2,3,4,5], [], true, 0⟩ 7 0 x.2 [iv 0, iv 0, iv 0, iv 0, .v .au] [iv x.2.kind, iv x.2.peer, iv x.2.message, iv x.2.time, cv x.2.assign] rfl (by kernel_rfl) ?_
 refine wJ (n := 1) (st' := ⟨[Pv 1, Pv 2, Pv 3, Pv 4, Pv 5, (12, .v (.clo (S.N 17) [] [.fptr (cells vk0_12)])), Pv 6, Pv 7], [Xb 1 tb1, (2, .box [cv vb2]), Xb 3 vb3, (4, .box [iv vb4]), (5, .box [.ptr 10 0]), Xb 10 vb10, Xb 6 x.1, Xb 7 x.2], [1,2,3,4,5], [], true, 0⟩) (by kernel_rfl) ?_
 refine aJ (n := 22) (fo' := .rc C1) (fs' := F4) (t := (x.2.kind == 2)) (A := fun bb => ⟨[Pv 1, Pv 2, Pv 3, Pv 4, Pv 5, (12, .v (.clo (S.N 17) [] [.fptr (cells vk0_12)])), Pv 6, Pv 7, Iv 8 x.2.message, Iv 18 x.2.kind, Bv 19 bb], [Xb 1 tb1, (2, .box [cv vb2]), Xb 3 vb3, (4, .box [iv vb4]), (5, .box [.ptr 10 0]), Xb 10 vb10, Xb 6 x.1, Xb 7 x.2], [1,2,3,4,5], [], true, 0⟩) (by kernel_rfl) ?_ ?_
 ·refine Ac 7 false [] Q8 F6 ⟨[Pv 1, Pv 2, Pv 3, Pv 4, Pv 5, (12, .v (.clo (S.N 17) [] [.fptr (cells vk0_12)])), Pv 6, Pv 7, Iv 8 x.2.message, Iv 18 x.2.kind, Bv 19 true, Iv 22 x.2.message, (23, .ptr 10 0)], [Xb 1 tb1, (2, .box [cv vb2]), Xb 3 vb3, (4, .box [iv vb4]), (5, .box [.ptr 10 0]), Xb 10 vb10, Xb 6 x.1, Xb 7 x.2], [1,2,3,4,5], [], true, 0⟩ .i64 10 rfl (by kernel_rfl) fun x_1 h_1 => ?_
  refine Hj 2 false [] Q7 F6 ⟨[Pv 1, Pv 2, Pv 3, Pv 4, Pv 5, (12, .v (.clo (S.N 17) [] [.fptr (cells vk0_12)])), Pv 6, Pv 7, Iv 8 x.2.message, Iv 18 x.2.kind, Bv 19 true, (26, .ptr 10 (x.2.message.toNat * 4 + 1))], [Xb 1 tb1, (2, .box [cv vb2]), Xb 3 vb3, (4, .box [iv vb4]), (5, .box [.ptr 10 0]), Xb 10 vb10, Xb 6 x.1, Xb 7 x.2], [1,2,3,4,5], [], true, 0⟩ 10 vb10 x.2.message 1 x_1 h_1 (by rfl) (.int .i64 x_1.from_.index) rfl (by kernel_rfl) ?_
  refine aJ (n := 3) (fo' := .rc C2) (fs' := F5) (t := decide (x_1.from_.index > 0)) (A := fun bb => ⟨[Pv 1, Pv 2, Pv 3, Pv 4, Pv 5, (12, .v (.clo (S.N 17) [] [.fptr (cells vk0_12)])), Pv 6, Pv 7, Iv 8 x.2.message, Iv 18 x.2.kind, Bv 19 true, Bv 28 bb], [Xb 1 tb1, (2, .box [cv vb2]), Xb 3 vb3, (4, .box [iv vb4]), (5, .box [.ptr 10 0]), Xb 10 vb10, Xb 6 x.1, Xb 7 x.2], [1,2,3,4,5], [], true, 0⟩) (by kernel_rfl) ?_ ?_
  ·exact av (by kernel_rfl)
  ·refine Ac 8 true [] Q6 F4 ⟨[Pv 1, Pv 2, Pv 3, Pv 4, Pv 5, (12, .v (.clo (S.N 17) [] [.fptr (cells vk0_12)])), Pv 7, Iv 18 x.2.kind, Bv 19 true, Bv 28 false, Iv 31 x.2.message, Cv 32 x.1, (33, .ptr 10 0)], [Xb 1 tb1, (2, .box [cv vb2]), Xb 3 vb3, (4, .box [iv vb4]), (5, .box [.ptr 10 0]), Xb 10 vb10, Xb 6 x.1, Xb 7 x.2], [1,2,3,4,5], [], true, 0⟩ .i64 10 rfl (by kernel_rfl) fun x_2 h_2 => ?_
   refine G3 1 true [] Q5 F4 ⟨[Pv 1, Pv 2, Pv 3, Pv 4, Pv 5, (12, .v (.clo (S.N 17) [] [.fptr (cells vk0_12)])), Pv 7, Iv 18 x.2.kind, Bv 19 true, Bv 28 false, Cv 32 x.1, (35, .ptr 10 (x.2.message.toNat * 4 + 0))], [Xb 1 tb1, (2, .box [cv vb2]), Xb 3 vb3, (4, .box [iv vb4]), (5, .box [.ptr 10 0]), Xb 10 vb10, Xb 6 x.1, Xb 7 x.2], [1,2,3,4,5], [], true, 0⟩ 10 vb10 x.2.message 0 x_2 h_2 (⟨x.1, x_2.to_⟩ : ay) (enc x.1) (by rfl) rfl (by kernel_rfl) ?_
   exact av (by kernel_rfl)
 ·refine aJ (n := 7) (fo' := .rc C3) (fs' := F4) (t := (x.2.kind == 3)) (A := fun bb => ⟨[Pv 1, Pv 2, Pv 3, Pv 4, Pv 5, (12, .v (.clo (S.N 17) [] [.fptr (cells vk0_12)])), Pv 6, Pv 7, Iv 8 x.2.message, Bv 19 false, Bv 36 bb], [Xb 1 tb1, (2, .box [cv vb2]), Xb 3 vb3, (4, .box [iv vb4]), (5, .box [.ptr 10 0]), Xb 10 vb10, Xb 6 x.1, Xb 7 x.2], [1,2,3,4,5], [], true, 0⟩) (by kernel_rfl) ?_ ?_
  ·refine Ac 7 false [] jO jo ⟨[Pv 1, Pv 2, Pv 3, Pv 4, Pv 5, (12, .v (.clo (S.N 17) [] [.fptr (cells vk0_12)])), Pv 6, Pv 7, Iv 8 x.2.message, Bv 19 false, Bv 36 true, Iv 39 x.2.message, (40, .ptr 10 0)], [Xb 1 tb1, (2, .box [cv vb2]), Xb 3 vb3, (4, .box [iv vb4]), (5, .box [.ptr 10 0]), Xb 10 vb10, Xb 6 x.1, Xb 7 x.2], [1,2,3,4,5], [], true, 0⟩ .i64 10 rfl (by kernel_rfl) fun x_3 h_3 => ?_
   refine Hj 2 false [] jR jo ⟨[Pv 1, Pv 2, Pv 3, Pv 4, Pv 5, (12, .v (.clo (S.N 17) [] [.fptr (cells vk0_12)])), Pv 6, Pv 7, Iv 8 x.2.message, Bv 19 false, Bv 36 true, (43, .ptr 10 (x.2.message.toNat * 4 + 3))], [Xb 1 tb1, (2, .box [cv vb2]), Xb 3 vb3, (4, .box [iv vb4]), (5, .box [.ptr 10 0]), Xb 10 vb10, Xb 6 x.1, Xb 7 x.2], [1,2,3,4,5], [], true, 0⟩ 10 vb10 x.2.message 3 x_3 h_3 (by rfl) (.int .i64 x_3.to_.index) rfl (by kernel_rfl) ?_
   refine aJ (n := 3) (fo' := .rc C4) (fs' := F9) (t := decide (x_3.to_.index > 0)) (A := fun bb => ⟨[Pv 1, Pv 2, Pv 3, Pv 4, Pv 5, (12, .v (.clo (S.N 17) [] [.fptr (cells vk0_12)])), Pv 6, Pv 7, Iv 8 x.2.message, Bv 19 false, Bv 36 true, Bv 45 bb], [Xb 1 tb1, (2, .box [cv vb2]), Xb 3 vb3, (4, .box [iv vb4]), (5, .box [.ptr 10 0]), Xb 10 vb10, Xb 6 x.1, Xb 7 x.2], [1,2,3,4,5], [], true, 0⟩) (by kernel_rfl) ?_ ?_
   ·exact av (by kernel_rfl)
   ·refine bg 12 [] iQ F8 ⟨[Pv 1, Pv 2, Pv 3, Pv 4, Pv 5, (12, .v (.clo (S.N 17) [] [.fptr (cells vk0_12)])), Pv 6, Iv 8 x.2.message, Bv 19 false, Bv 36 true, Bv 45 false, Cv 47 tb1, Iv 49 x.2.peer, Iv 50 x.2.message, Iv 52 x.1.proc], [Xb 1 tb1, (2, .box [cv vb2]), Xb 3 vb3, (4, .box [iv vb4]), (5, .box [.ptr 10 0]), Xb 10 vb10, Xb 6 x.1, Xb 7 x.2], [1,2,3,4,5], [], true, 0⟩ (xQ (S := S) (T := T)) (tb1, x.2.peer, x.2.message, x.1.proc) rfl (by kernel_rfl) fun x_4 h_4 => ?_
    refine aJ (n := 3) (fo' := .rc C5) (fs' := F7) (t := x_4) (A := fun bb => ⟨[Pv 1, Pv 2, Pv 3, Pv 4, Pv 5, (12, .v (.clo (S.N 17) [] [.fptr (cells vk0_12)])), Pv 6, Iv 8 x.2.message, Bv 19 false, Bv 36 true, Bv 45 false, Bv 54 (!bb)], [Xb 1 tb1, (2, .box [cv vb2]), Xb 3 vb3, (4, .box [iv vb4]), (5, .box [.ptr 10 0]), Xb 10 vb10, Xb 6 x.1, Xb 7 x.2], [1,2,3,4,5], [], true, 0⟩) (by kernel_rfl) ?_ ?_
    ·refine Ac 8 true [] gO F4 ⟨[Pv 1, Pv 2, Pv 3, Pv 4, Pv 5, (12, .v (.clo (S.N 17) [] [.fptr (cells vk0_12)])), Bv 19 false, Bv 36 true, Bv 45 false, Bv 54 false, Iv 57 x.2.message, Cv 58 x.1, (59, .ptr 10 0)], [Xb 1 tb1, (2, .box [cv vb2]), Xb 3 vb3, (4, .box [iv vb4]), (5, .box [.ptr 10 0]), Xb 10 vb10, Xb 6 x.1, Xb 7 x.2], [1,2,3,4,5], [], true, 0⟩ .i64 10 rfl (by kernel_rfl) fun x_5 h_5 => ?_
     refine G3 1 true [] Q9 F4 ⟨[Pv 1, Pv 2, Pv 3, Pv 4, Pv 5, (12, .v (.clo (S.N 17) [] [.fptr (cells vk0_12)])), Bv 19 false, Bv 36 true, Bv 45 false, Bv 54 false, Cv 58 x.1, (61, .ptr 10 (x.2.message.toNat * 4 + 2))], [Xb 1 tb1, (2, .box [cv vb2]), Xb 3 vb3, (4, .box [iv vb4]), (5, .box [.ptr 10 0]), Xb 10 vb10, Xb 6 x.1, Xb 7 x.2], [1,2,3,4,5], [], true, 0⟩ 10 vb10 x.2.message 2 x_5 h_5 (⟨x_5.from_, x.1⟩ : ay) (enc x.1) (by rfl) rfl (by kernel_rfl) ?_
     exact av (by kernel_rfl)
    ·exact av (by kernel_rfl)
  ·exact av (by kernel_rfl)
theorem xW (vk0_12 : Trace) (tb1 : Trace) (vb2 : Option (aZ 200 ay)) (vb3 : aa) (vb4 : Int) (vb10 : aZ 200 ay) : Le ((E1 vk0_12 tb1 vb2 vb3 vb4 vb10).bind (fun r => some [enc r.1, enc r.2.1, .int .i64 r.2.2])) (rn S (ah S T) (cj [.ld 2 1 false, .ld 3 2 true, .ld 4 1 false]) (.rc (.each (.s 12) [13,14] qP qH)) ku (af [Pv 1, Pv 2, Pv 3, Pv 4, Pv 5, (12, .v (.clo (S.N 17) [] [.fptr (cells vk0_12)]))] [Xb 1 tb1, (2, .box [cv vb2]), Xb 3 vb3, (4, .box [iv vb4]), (5, .box [.ptr 10 0]), Xb 10 vb10])) := by
 unfold E1
 refine CV fun its hits => ?_
 refine xk (n := 0) (g := .s 12) (fs := ku) (a := qP) (b := qH) (ps := [13,14]) (gt := [Pv 1, Pv 2, Pv 3, Pv 4, Pv 5, (12, .v (.clo (S.N 17) [] [.fptr (cells vk0_12)]))]) (eσ := sU S vk0_12 tb1 vb2 vb3 vb4) (eε := sr S vk0_12 tb1 vb2 vb3 vb4) (eρ := r_ S vk0_12 tb1 vb2 vb3 vb4) (by kernel_rfl) (by kernel_rfl) (dx.i0 (S := S) (T := T) vk0_12 its hits) (fun _ => rfl) (fun x q => GX (by kernel_rfl) (mX (S := S) (T := T) vk0_12 tb1 vb2 vb3 vb4 x q)) ?_ ?_ ?_
 ·intro q
  exact Me 13 (fs' := []) (st := (af [Pv 2, Pv 3, Pv 4] [(2, .box [.ptr 10 0]), Xb 3 (⟨0, 0⟩ : aa), (4, .box [iv 0]), Xb 10 q])) [.ptr 10 0, cv (⟨0, 0⟩ : aa), iv 0] (HY (d := 10) (x := q) (vs := [enc (⟨0, 0⟩ : aa), .int .i64 0]) (by kernel_rfl)) (by kernel_rfl) (by kernel_rfl)
 ·intro e; exact Empty.elim e
 ·intro e
  exact av (by kernel_rfl)
end
end bu
noncomputable def bu (t0 : Trace) : Option ((Option (aZ 200 ay)) × aa × Int) :=
 (cP t0).bind fun x_1 =>
 bu.E1 x_1 t0 (none : Option (aZ 200 ay)) (⟨0, 0⟩ : aa) 0 (aZ.zj 200 (⟨⟨0, 0⟩, ⟨0, 0⟩⟩ : ay))
open bu in
theorem rJ {S : Sys} {T : az} [dx S T] (t0 : Trace) : Le ((bu t0).bind fun r => some [enc r.1, enc r.2.1, .int .i64 r.2.2]) (bl (ah S T) (S.N 26) [enc t0]) := by
 refine cZ (dx.t (S := S) (T := T)) (Nat.le_of_ble_eq_true rfl) ?_
 unfold bu
 refine gm 2 false [] Q4 F3 (af [Cv 0 t0] []) t0 rfl (by kernel_rfl) (by kernel_rfl) ?_
 refine gm 8 false [] Q3 F2 (af [Pv 1, Pv 2, Pv 3, Pv 4, Cv 9 (aZ.zj 200 (⟨⟨0, 0⟩, ⟨0, 0⟩⟩ : ay))] [Xb 1 t0, (2, .box [cv (none : Option (aZ 200 ay))]), Xb 3 (⟨0, 0⟩ : aa), (4, .box [iv 0])]) (aZ.zj 200 (⟨⟨0, 0⟩, ⟨0, 0⟩⟩ : ay)) rfl (by kernel_rfl) (by kernel_rfl) ?_
 refine B6 0 false [] Q2 F2 (af [Pv 1, Pv 2, Pv 3, Pv 4, Pv 10] [Xb 1 t0, (2, .box [cv (none : Option (aZ 200 ay))]), Xb 3 (⟨0, 0⟩ : aa), (4, .box [iv 0]), Xb 10 (aZ.zj 200 (⟨⟨0, 0⟩, ⟨0, 0⟩⟩ : ay))]) [cv (none : Option (aZ 200 ay))] rfl (by simp only [af, rE, lu, mE, lC, mI, nR, mJ, nK, kY, mw, rI, nI, nN, nE, nL, pN, pK, mK, nu]; rfl) (by kernel_rfl) ?_
 refine bg 7 [] Q1 F1 (af [Pv 1, Pv 2, Pv 3, Pv 4, Pv 5, Cv 11 t0] [Xb 1 t0, (2, .box [cv (none : Option (aZ 200 ay))]), Xb 3 (⟨0, 0⟩ : aa), (4, .box [iv 0]), Xb 10 (aZ.zj 200 (⟨⟨0, 0⟩, ⟨0, 0⟩⟩ : ay)), (5, .box [.ptr 10 0])]) (jW (S := S) (T := T)) t0 rfl (by kernel_rfl) fun x_1 h_1 => ?_
 exact eY (n := 4) (by kernel_rfl) (xW x_1 t0 (none : Option (aZ 200 ay)) (⟨0, 0⟩ : aa) 0 (aZ.zj 200 (⟨⟨0, 0⟩, ⟨0, 0⟩⟩ : ay)))
theorem qX {S : Sys} {T : az} [dx S T] : dS S (ah S T) (S.N 26) (fun z : Trace => [enc z]) (fun r : (Option (aZ 200 ay)) × aa × Int => [enc r.1, enc r.2.1, .int .i64 r.2.2]) (fun z => bu z) false where
 k := dx.k (S := S) (T := T)
 h z := rJ z
 l z := by simp
 r r := by simp
 s h r := by cases h
namespace dM
def Q5 : List RO := o2 3 (.a .box) [0] [0] ::
 o2 5 (.a .box) [2] [2] ::
 o1 6 (.k (.au)) [6] ::
 []
def Q4 : List RO := o2 14 (ix 3) [11, 13] [11,13] ::
 o2 15 (fa 2) [14] [14] ::
 o2 16 (ld 1) [15] [15] ::
 o1 8 16 [16] ::
 []
def Q3 : List RO := o2 20 ln [19] [19] ::
 o2 21 (bI .lss) [18, 20] [18,20] ::
 []
def Q2 : List RO := o2 30 (.l (.append 2)) [22, 29] [22,29] ::
 o1 7 30 [30] ::
 []
def C1 : RC := .cond (.s 21) (.ops (o1 22 7 [7] ::
 o2 23 (fa 0) [5] [] ::
 o2 24 (ld 1) [23] [23] ::
 o2 25 (fa 1) [5] [] ::
 o2 26 (ld 1) [25] [25] ::
 o2 27 (bI .add) [26, .k (.int .i64 1)] [26] ::
 o2 28 (.p (.build [.int .i64 0, .int .i64 0] [(0, 1), (1, 1)])) [24, 27] [24,27] ::
 o2 29 (.a (.buildSl 2 1 [.int .i64 0, .int .i64 0] [0])) [28] [28] ::
 Q2)) (.skip)
def kG : List RO := oz (su 5) [9, 36] [36] ::
 []
def nr : List RO := o2 35 (ix 5) [31, 34] [31,34] ::
 o2 36 (lD 5) [35] [35] ::
 o2 9 (.a (.alloc 5 [.int .i64 0, .int .i64 0, .int .i64 0, .int .i64 0, .au])) [] [] ::
 kG
def Q6 : List RO := ⟨some 48, some (40, true), true, ld 1, [47], [47], []⟩ ::
 ⟨some 49, some (40, true), true, bI .gtr, [48, .k (.int .i64 0)], [48], []⟩ ::
 on 50 (.p (.pick)) [40, 49, .k (.bool false)] [40,49] ::
 []
def Q7 : List RO := ⟨some 47, some (40, true), true, fa 1, [46], [46], []⟩ ::
 Q6
def Q8 : List RO := ⟨some 46, some (40, true), true, fa 2, [45], [45], []⟩ ::
 Q7
def Q9 : List RO := ⟨some 45, some (40, true), true, .p (.idxA 200 4), [44, 43], [43,44], []⟩ ::
 Q8
def Q1 : List RO := o3 41 40 true (.p (.id)) [1] [] ::
 ⟨some 42, some (40, true), true, fa 2, [9], [], []⟩ ::
 ⟨some 43, some (40, true), true, ld 1, [42], [42], []⟩ ::
 o3 44 40 true (.p (.nilc)) [41] [41] ::
 Q9
def gO : List RO := on 60 (.l (.append 2)) [51, 59] [51,59] ::
 on 7 (.p (.id)) [60] [60] ::
 []
def iQ : List RO := on 58 (lD 2) [57] [57] ::
 on 59 (.a (.buildSl 2 1 [.int .i64 0, .int .i64 0] [0])) [58] [58] ::
 gO
def jR : List RO := on 57 (fa 2) [56] [56] ::
 iQ
def jO : List RO := on 56 (.p (.idxA 200 4)) [55, 54] [54,55] ::
 jR
def C2 : RC := .cond (.s 50) (.reg (o1 51 7 [7] ::
 o1 52 1 [1] ::
 on 53 (fa 2) [9] [9] ::
 on 54 (ld 1) [53] [53] ::
 o2 55 (.p (.nilc)) [52] [52] ::
 jO)) (.skip)
def U1 : RC := .seq (.reg (on 37 (fa 0) [9] [] ::
 on 38 (ld 1) [37] [37] ::
 on 39 (bI .eql) [38, .k (.int .i64 2)] [38] ::
 on 40 (.p (.id)) [39] [39] ::
 Q1)) (C2)
def U2 : RC := .seq (.ops (o1 61 7 [7] ::
 o1 6 61 [61] ::
 [])) (.ret)
def u6 : RC := .seq (.seq (.ops (o1 31 8 [8] ::
 o2 32 (fa 1) [5] [5] ::
 o2 33 (ld 1) [32] [32] ::
 o2 34 (bI .sub) [33, .k (.int .i64 1)] [33] ::
 nr)) (U1)) (U2)
def U3 : RC := .gh (.canon (.s 7) 2007 2) (.gh (.keep [1,5,7,8] [5,2007]) (u6))
def U4 : RC := .seq (.seq (.ops (o2 17 (fa 1) [5] [] ::
 o2 18 (ld 1) [17] [17] ::
 o1 19 8 [] ::
 Q3)) (C1)) (U3)
def U5 : RC := .seq (.ops (o2 10 (fa 0) [3] [3] ::
 o2 11 (ld 1) [10] [10] ::
 o2 12 (fa 0) [5] [] ::
 o2 13 (ld 1) [12] [12] ::
 Q4)) (U4)
def U6 : RC := .seq (.ops (o1 7 (.k (.au)) [] ::
 [])) (U5)
def text : RF := ⟨62, [.s 6], .seq (.ops Q5) (U6)⟩
def F2 : List Fm := [.seq U3]
def F4 : List Fm := [.seq U4]
def F5 : List Fm := [.seq U6]
def F6 : List Fm := [.seq U2]
def F1 : List Fm := .seq C2 :: F6
def F3 : List Fm := .seq C1 :: F2
def F7 : List Fm := .seq U1 :: F6
end dM
class iD (S : Sys) (T : az) : Prop where
 t : T (S.N 27) = some dM.text
 k : S.E.keep (S.N 27) = false
namespace dM
section
variable {S : Sys} {T : az} [iD S T]
noncomputable def J1 (lq1 : aZ 200 ay) (out7 : Sl aa) (p8 : Sl Event) (xb5 : aa) : Option (Sl aa) :=
 (idx p8 (IntKind.wrap .i64 (xb5.index - 1))).bind fun x_1 =>
 (aL (x_1.kind == 2)
 ((aZ.at lq1 x_1.message).bind fun x_2 =>
 some (decide (x_2.to_.index > 0)))
 (some false) : Option Bool).bind fun x_3 =>
 aL x_3
 ((aZ.at lq1 x_1.message).bind fun x_4 =>
 (iM out7 (x_4.to_ : aa)).bind fun x_5 =>
 some x_5)
 (some out7)
theorem qG (lq1 : aZ 200 ay) (out7 : Sl aa) (p8 : Sl Event) (xb5 : aa) : Le ((J1 lq1 out7 p8 xb5).bind (fun r => some [enc r])) (rn S (ah S T) (cj [.s 6]) (.rc u6) [] (af [Kv 1 lq1, Pv 5, Ov 7, Cv 8 p8] [Xb 5 xb5, Lb 2007 out7])) := by
 unfold J1
 refine ey 7 false [] nr F7 (af [Kv 1 lq1, Ov 7, Cv 31 p8, Iv 34 (IntKind.wrap .i64 (xb5.index - 1))] [Xb 5 xb5, Lb 2007 out7]) .i64 rfl (by kernel_rfl) fun x_1 h_1 => ?_
 refine Ast 2 false [] kG F7 (af [Kv 1 lq1, Ov 7, Cv 36 x_1, Pv 9] [Xb 5 xb5, Lb 2007 out7, Xb 9 (⟨0, 0, 0, 0, Sl.nil⟩ : Event)]) 9 0 x_1 [iv 0, iv 0, iv 0, iv 0, .v .au] [iv x_1.kind, iv x_1.peer, iv x_1.message, iv x_1.time, cv x_1.assign] rfl (by kernel_rfl) ?_
 refine dw (fun x_3 => rn S (ah S T) (cj [.s 6]) (.ops true [] []) F1 (af [Kv 1 lq1, Ov 7, Pv 9, Bv 50 x_3] [Xb 5 xb5, Lb 2007 out7, Xb 9 x_1])) ?_ fun x_3 => ?_
 ·refine aJ (n := 8) (fo' := .ops true [] Q1) (fs' := F1) (t := (x_1.kind == 2)) (A := fun bb => (af [Kv 1 lq1, Ov 7, Pv 9, Bv 40 bb] [Xb 5 xb5, Lb 2007 out7, Xb 9 x_1])) (by kernel_rfl) ?_ ?_
  ·refine GZ 4 true [] Q9 F1 (af [Kv 1 lq1, Ov 7, Pv 9, Bv 40 true, Iv 43 x_1.message, Kv 44 lq1] [Xb 5 xb5, Lb 2007 out7, Xb 9 x_1]) .i64 rfl (by kernel_rfl) fun x_2 h_2 => ?_
   refine Ge 0 true [] Q8 F1 (af [Kv 1 lq1, Ov 7, Pv 9, Bv 40 true, (45, .v (.fptr (pa lq1 x_1.message)))] [Xb 5 xb5, Lb 2007 out7, Xb 9 x_1]) lq1 x_1.message 0 x_2 h_2 rfl (by kernel_rfl) ?_
   refine Ge 0 true [] Q7 F1 (af [Kv 1 lq1, Ov 7, Pv 9, Bv 40 true, (46, .v (.fptr ((pa lq1 x_1.message).drop 2)))] [Xb 5 xb5, Lb 2007 out7, Xb 9 x_1]) lq1 x_1.message 2 x_2 h_2 rfl (by kernel_rfl) ?_
   refine GL 0 true [] Q6 F1 (af [Kv 1 lq1, Ov 7, Pv 9, Bv 40 true, (47, .v (.fptr ((pa lq1 x_1.message).drop 3)))] [Xb 5 xb5, Lb 2007 out7, Xb 9 x_1]) lq1 x_1.message 3 x_2 h_2 (by rfl) (.int .i64 x_2.to_.index) rfl (by kernel_rfl) ?_
   exact bp (n := 2) (by kernel_rfl) rfl
  ·exact bp (n := 10) (by kernel_rfl) rfl
 ·refine aJ (n := 2) (fo' := .rc C2) (fs' := F6) (t := x_3) (A := fun bb => (af [Kv 1 lq1, Ov 7, Pv 9, Bv 50 bb] [Xb 5 xb5, Lb 2007 out7, Xb 9 x_1])) (by kernel_rfl) ?_ ?_
  ·refine GZ 7 true [] jO F6 (af [Bv 50 true, (51, .own 2007), Iv 54 x_1.message, Kv 55 lq1] [Xb 5 xb5, Lb 2007 out7, Xb 9 x_1]) .i64 rfl (by kernel_rfl) fun x_4 h_4 => ?_
   refine Ge 0 true [] jR F6 (af [Bv 50 true, (51, .own 2007), (56, .v (.fptr (pa lq1 x_1.message)))] [Xb 5 xb5, Lb 2007 out7, Xb 9 x_1]) lq1 x_1.message 0 x_4 h_4 rfl (by kernel_rfl) ?_
   refine GL 0 true [] iQ F6 (af [Bv 50 true, (51, .own 2007), (57, .v (.fptr ((pa lq1 x_1.message).drop 2)))] [Xb 5 xb5, Lb 2007 out7, Xb 9 x_1]) lq1 x_1.message 2 x_4 h_4 (by rfl) (enc x_4.to_) rfl (by kernel_rfl) ?_
   refine vV 1 true [59] gO F6 (af [Bv 50 true, (51, .own 2007), (59, .own 59)] [Xb 5 xb5, Lb 2007 out7, Xb 9 x_1, Lb 59 (Sl.row [x_4.to_] : Sl aa)]) 2007 59 rfl (by kernel_rfl) (by kernel_rfl) fun x_5 h_5 => ?_
   exact av (by kernel_rfl)
  ·exact av (by kernel_rfl)
end
end dM
noncomputable def dM (t0 : Trace) (l1 : aZ 200 ay) (x2 : aa) : Option (Sl aa) :=
 (idx t0.procs x2.proc).bind fun x_1 =>
 aL (decide (x2.index < (len x_1.events)))
 (dM.J1 l1 (Sl.row [⟨x2.proc, IntKind.wrap .i64 (x2.index + 1)⟩] : Sl aa) x_1.events x2)
 (dM.J1 l1 (Sl.nil : Sl aa) x_1.events x2)
open dM in
theorem yX {S : Sys} {T : az} [iD S T] (t0 : Trace) (l1 : aZ 200 ay) (x2 : aa) : Le ((dM t0 l1 x2).bind fun r => some [enc r]) (bl (ah S T) (S.N 27) [enc t0, .fptr (cells l1), enc x2]) := by
 refine cZ (iD.t (S := S) (T := T)) (Nat.le_of_ble_eq_true rfl) ?_
 unfold dM
 refine gm 2 false [] Q5 F5 (af [Cv 0 t0, Kv 1 l1, Cv 2 x2] []) t0 rfl (by kernel_rfl) (by kernel_rfl) ?_
 refine ey 15 false [] Q4 F4 (af [Kv 1 l1, Pv 5, (7, .v .au), Cv 11 t0.procs, Iv 13 x2.proc] [Xb 3 t0, Xb 5 x2]) .i64 rfl (by kernel_rfl) fun x_1 h_1 => ?_
 refine dP 11 false [] Q3 F3 (af [Kv 1 l1, Pv 5, (7, .v .au), Cv 8 x_1.events, Iv 18 x2.index, Cv 19 x_1.events] [Xb 3 t0, Xb 5 x2]) x_1.events rfl (by kernel_rfl) ?_
 refine aJ (n := 3) (fo' := .rc C1) (fs' := F2) (t := decide (x2.index < (len x_1.events))) (A := fun bb => (af [Kv 1 l1, Pv 5, (7, .v .au), Cv 8 x_1.events, Bv 21 bb] [Xb 3 t0, Xb 5 x2])) (by kernel_rfl) ?_ ?_
 ·refine MH 10 false [] Q2 F2 (af [Kv 1 l1, Pv 5, Cv 8 x_1.events, Bv 21 true, (22, .v .au), (29, .own 29)] [Xb 3 t0, Xb 5 x2, Lb 29 (Sl.row [⟨x2.proc, IntKind.wrap .i64 (x2.index + 1)⟩] : Sl aa)]) 29 .au (⟨x2.proc, IntKind.wrap .i64 (x2.index + 1)⟩ : aa) (.inl rfl) rfl (by kernel_rfl) (by kernel_rfl) ?_
  exact eY (n := 5) (by kernel_rfl) (qG l1 (Sl.row [⟨x2.proc, IntKind.wrap .i64 (x2.index + 1)⟩] : Sl aa) x_1.events x2)
 ·exact eY (n := 5) (by kernel_rfl) (qG l1 (Sl.nil : Sl aa) x_1.events x2)
theorem wH {S : Sys} {T : az} [iD S T] : dS S (ah S T) (S.N 27) (fun z : Trace × (aZ 200 ay) × aa => [enc z.1, .fptr (cells z.2.1), enc z.2.2]) (fun r : Sl aa => [enc r]) (fun z => dM z.1 z.2.1 z.2.2) false where
 k := iD.k (S := S) (T := T)
 h z := yX z.1 z.2.1 z.2.2
 l z := by simp
 r r := by simp
 s h r := by cases h
namespace cw
def Q2 : List RO := o2 2 (.a .box) [0] [0] ::
 o2 3 (.a .box) [1] [1] ::
 o2 4 (.a (.alloc 2 [.int .i64 0, .int .i64 0])) [] [] ::
 o2 5 (.a (.alloc 1 [.bool false])) [] [] ::
 []
def Q1 : List RO := o2 13 .c [.f 18, 12] [12] ::
 []
def gO : List RO := o2 20 ln [19] [19] ::
 o2 21 (bI .gtr) [20, .k (.int .i64 0)] [20] ::
 []
def C1 : RC := .cond (.s 21) (.skip) (.gh (.keep [2,3,4,5,13] [2,3,4,5]) (.exit 2))
def Q7 : List RO := o2 27 (lD 2) [26] [26] ::
 o2 9 (.a (.alloc 2 [.int .i64 0, .int .i64 0])) [] [] ::
 oz (su 2) [9, 27] [27] ::
 []
def Q8 : List RO := o2 26 (ix 2) [22, 25] [22,25] ::
 Q7
def Q9 : List RO := o2 24 ln [23] [23] ::
 o2 25 (bI .sub) [24, .k (.int .i64 1)] [24] ::
 Q8
def Q5 : List RO := o2 32 (.p (.slice 2 false true)) [28, 31] [28,31] ::
 o1 8 32 [32] ::
 []
def Q6 : List RO := o2 30 ln [29] [29] ::
 o2 31 (bI .sub) [30, .k (.int .i64 1)] [30] ::
 Q5
def Q3 : List RO := o2 37 ln [36] [] ::
 o1 38 (.k (.int .i64 0)) [] ::
 []
def Q4 : List RO := o2 36 .c [.f 27, 33, 34, 35] [33,34,35] ::
 Q3
def C2 : RC := .cond (.s 39) (.skip) (.gh (.canon (.s 8) 2008 2) (.gh (.keep [2,3,4,5,6,7,8,13] [2,3,4,5,6,16,2008]) (.exit 4)))
def kG : List RO := o2 40 (ix 2) [36, 38] [] ::
 o2 41 (lD 2) [40] [40] ::
 o2 11 (.a (.alloc 2 [.int .i64 0, .int .i64 0])) [] [] ::
 oz (su 2) [11, 41] [41] ::
 []
def C3 : RC := .cond (.s 44) (.seq (.ops (o2 45 (lD 2) [6] [6] ::
 oz (su 2) [4, 45] [45] ::
 oz (su 1) [5, .k (.bool true)] [] ::
 [])) (.gh (.keep [] [2,3,4,5]) (.ret))) (.skip)
def jO : List RO := o2 48 (.r (.lookup (.ints 2) (.bool false) false)) [46, 47] [46,47] ::
 o2 49 (.p (.not)) [48] [48] ::
 []
def jR : List RO := oz (.l (.mapUp (.ints 2))) [50, 51, .k (.bool true)] [50,51] ::
 []
def iQ : List RO := o2 55 (.l (.append 2)) [52, 54] [52,54] ::
 o1 8 55 [55] ::
 []
def U1 : RC := .ops (o1 52 8 [8] ::
 o2 53 (lD 2) [11] [11] ::
 o2 54 (.a (.buildSl 2 1 [.int .i64 0, .int .i64 0] [0])) [53] [53] ::
 iQ)
def C4 : RC := .cond (.s 49) (.seq (.ops (o1 50 7 [] ::
 o2 51 (lD 2) [11] [] ::
 jR)) (U1)) (.skip)
def U2 : RC := .seq (.ops (o1 46 7 [] ::
 o2 47 (lD 2) [11] [] ::
 jO)) (C4)
def U3 : RC := .seq (.seq (.ops (o2 42 (lD 2) [11] [] ::
 o2 43 (lD 2) [6] [] ::
 o2 44 (.p (.bin (some .other) (some 2) .eql)) [42, 43] [42,43] ::
 [])) (C3)) (U2)
def U4 : RC := .ops (o2 56 (bI .add) [38, .k (.int .i64 1)] [38] ::
 o1 38 56 [56] ::
 [])
def U5 : RC := .seq (.block 5 (.seq (.ops kG) (U3))) (U4)
def qE : RC := .hg (.hg (.seq (.ops (o2 39 (bI .lss) [38, 37] [] ::
 [])) (.seq (C2) (U5))) (.canon (.s 8) 2008 2)) (.keep [2,3,4,5,6,7,8,13,36,37,38] [2,3,4,5,6,16,2008])
def U6 : RC := .block 4 (.gh (.canon (.s 8) 2008 2) (.gh (.keep [2,3,4,5,6,7,8,13,36,37,38] [2,3,4,5,6,16,2008]) (.loop qE)))
def U7 : RC := .seq (.ops (o2 33 (lD 1) [2] [] ::
 o2 34 (ld 1) [3] [] ::
 o2 35 (lD 2) [9] [9] ::
 Q4)) (U6)
def U8 : RC := .seq (.ops (o1 28 8 [] ::
 o1 29 8 [8] ::
 Q6)) (U7)
def U9 : RC := .block 3 (.seq (.ops (o1 22 8 [] ::
 o1 23 8 [] ::
 Q9)) (U8))
def iA : RC := .hg (.hg (.seq (.seq (.ops (o1 19 8 [] ::
 gO)) (C1)) (U9)) (.canon (.s 8) 2008 2)) (.keep [2,3,4,5,6,7,8,13] [2,3,4,5,6,16,2008])
def m4 : RC := .block 2 (.gh (.canon (.s 8) 2008 2) (.gh (.keep [2,3,4,5,6,7,8,13] [2,3,4,5,6,16,2008]) (.loop iA)))
def mM : RC := .seq (.ops (o2 17 (lD 2) [6] [] ::
 o2 18 (.a (.buildSl 2 1 [.int .i64 0, .int .i64 0] [0])) [17] [17] ::
 o1 8 18 [18] ::
 [])) (m4)
def qP : RC := .ops (o2 6 (.a (.alloc 2 [.int .i64 0, .int .i64 0])) [] [] ::
 oz (su 2) [6, 14] [14] ::
 [])
def qH : RC := .hg (.block 1 (.seq (.ops (o2 16 (.a .makeMap) [] [] ::
 o1 7 16 [16] ::
 [])) (mM))) (.keep [] [2,3,4,5])
def lV : RC := .block 0 (.gh (.keep [2,3,4,5,13] [2,3,4,5]) (.each (.s 13) [14,15] qP qH))
def ov : RC := .seq (.ops (o2 57 (.p (.build [.int .i64 0, .int .i64 0] [])) [] [] ::
 oz (su 2) [4, 57] [57] ::
 oz (su 1) [5, .k (.bool false)] [] ::
 [])) (.gh (.keep [4,5] [4,5]) (.ret))
def pS : RC := .seq (.seq (.ops (o2 12 (lD 1) [2] [] ::
 Q1)) (lV)) (ov)
def text : RF := ⟨58, [.ld 4 2 true, .ld 5 1 false], .seq (.ops Q2) (pS)⟩
def F2 : List Fm := [.seq pS]
def F1 : List Fm := [.seq lV, .seq ov]
def t_ : List Fm := [.blk 0, .seq ov]
def F6 : List Fm := [.seq U9, .gst (.canon (.s 8) 2008 2), .gst (.keep [2,3,4,5,6,7,8,13] [2,3,4,5,6,16,2008])]
def mC : List Fm := [.seq U5, .gst (.canon (.s 8) 2008 2), .gst (.keep [2,3,4,5,6,7,8,13,36,37,38] [2,3,4,5,6,16,2008])]
def sV : List Fm := [.blk 2, .blk 1, .gst (.keep [] [2,3,4,5])]
def F3 : List Fm := [.seq U6, .blk 3, .gst (.canon (.s 8) 2008 2), .gst (.keep [2,3,4,5,6,7,8,13] [2,3,4,5,6,16,2008])]
def F4 : List Fm := [.seq U7, .blk 3, .gst (.canon (.s 8) 2008 2), .gst (.keep [2,3,4,5,6,7,8,13] [2,3,4,5,6,16,2008])]
def F5 : List Fm := [.seq U8, .blk 3, .gst (.canon (.s 8) 2008 2), .gst (.keep [2,3,4,5,6,7,8,13] [2,3,4,5,6,16,2008])]
def F7 : List Fm := .seq C1 :: F6
def F8 : List Fm := [.blk 5, .seq U4, .gst (.canon (.s 8) 2008 2), .gst (.keep [2,3,4,5,6,7,8,13,36,37,38] [2,3,4,5,6,16,2008])]
def o0 : List Fm := [.blk 4, .blk 3, .gst (.canon (.s 8) 2008 2), .gst (.keep [2,3,4,5,6,7,8,13] [2,3,4,5,6,16,2008])]
def F9 : List Fm := .seq U1 :: F8
def jo : List Fm := .seq C4 :: F8
def lH : List Fm := .seq U2 :: F8
def ku : List Fm := .seq U3 :: F8
end cw
class fG (S : Sys) (T : az) : Prop where
 t : T (S.N 28) = some cw.text
 k : S.E.keep (S.N 28) = false
 c0 : iD S T
 c1 : fC S T
 i0 : ∀ t : Trace, ∀ its, eN t = some its → S.items (S.N 17) [] [.fptr (cells t)] = some (its.map fun x : aa × Event => [enc x.1, enc x.2])
attribute [instance] fG.c0 fG.c1
namespace cw
section
variable {S : Sys} {T : az} [fG S T]
noncomputable def iw (vk0_13 : Trace) (v36 : Sl aa) (v37 : Int) (tb2 : Trace) (lb3 : aZ 200 ay) (vb4 : aa) (vb5 : Bool) (idb6 : aa) (rest8 : Sl aa) (v38 : Int) (vb16 : Mo aa Bool) : Option (Fw ((Sl aa) × Int × (Mo aa Bool)) ((Sl aa) × (Mo aa Bool)) Unit) :=
 aL (decide (v38 < v37))
 ((idx v36 v38).bind fun x_1 =>
 aL (NW x_1 idb6)
 (some (.r ()))
 (aL (Av vb16 x_1 false)
 (some (.n (rest8, IntKind.wrap .i64 (v38 + 1), vb16)))
 ((iM rest8 (x_1 : aa)).bind fun x_2 =>
 some (.n (x_2, IntKind.wrap .i64 (v38 + 1), nG vb16 x_1 true)))))
 (some (.x (rest8, vb16)))
noncomputable def W3 (rest8 : Sl aa) (vk0_13 : Trace) (v36 : Sl aa) (v37 : Int) (v38 : Int) (tb2 : Trace) (lb3 : aZ 200 ay) (vb4 : aa) (vb5 : Bool) (idb6 : aa) (vb16 : Mo aa Bool) : Option (Fw ((Sl aa) × (Mo aa Bool)) Unit Unit) :=
 (cW (fun q : (Sl aa) × Int × (Mo aa Bool) => iw vk0_13 v36 v37 tb2 lb3 vb4 vb5 idb6 q.1 q.2.1 q.2.2) (rest8, v38, vb16)).bind (Fw.elim
 (fun e => some (.n (e.1, e.2)))
 (fun e => some (.r ())))
def tP (S : Sys) (vk0_13 : Trace) (v36 : Sl aa) (v37 : Int) (tb2 : Trace) (lb3 : aZ 200 ay) (vb4 : aa) (vb5 : Bool) (idb6 : aa) : (Sl aa) × Int × (Mo aa Bool) → St := fun q => ⟨[Pv 2, Pv 3, Pv 4, Pv 5, Pv 6, (7, .mp 16), Ov 8, (13, .v (.clo (S.N 17) [] [.fptr (cells vk0_13)])), Cv 36 v36, Iv 37 v37, Iv 38 q.2.1], [Xb 2 tb2, (3, .box [cp lb3]), Xb 4 vb4, (5, .box [bv vb5]), Xb 6 idb6, (16, g7 q.2.2), Lb 2008 q.1], [2,3,4,5], [], true, 0⟩
def tY (S : Sys) (vk0_13 : Trace) (v36 : Sl aa) (v37 : Int) (tb2 : Trace) (lb3 : aZ 200 ay) (vb4 : aa) (vb5 : Bool) (idb6 : aa) : ((Sl aa) × (Mo aa Bool)) → Nat × St := fun e => (4, ⟨[Pv 2, Pv 3, Pv 4, Pv 5, Pv 6, (7, .mp 16), Ov 8, (13, .v (.clo (S.N 17) [] [.fptr (cells vk0_13)]))], [Xb 2 tb2, (3, .box [cp lb3]), Xb 4 vb4, (5, .box [bv vb5]), Xb 6 idb6, (16, g7 e.2), Lb 2008 e.1], [2,3,4,5], [], true, 0⟩)
def uh (S : Sys) (vk0_13 : Trace) (v36 : Sl aa) (v37 : Int) (tb2 : Trace) (lb3 : aZ 200 ay) (vb4 : aa) (vb5 : Bool) (idb6 : aa) : Unit → St := fun e => ⟨[], [Xb 2 tb2, (3, .box [cp lb3]), Xb 4 idb6, (5, .box [bv true])], [2,3,4,5], [], true, 0⟩
noncomputable def cC (vk0_13 : Trace) (tb2 : Trace) (lb3 : aZ 200 ay) (vb4 : aa) (vb5 : Bool) (idb6 : aa) (rest8 : Sl aa) (vb16 : Mo aa Bool) : Option (Fw ((Sl aa) × (Mo aa Bool)) Unit Unit) :=
 aL (decide ((len rest8) > 0))
 ((Sl.uj rest8 (IntKind.wrap .i64 ((len rest8) - 1))).bind fun x_1 =>
 (Sl.get rest8 x_1).bind fun x_2 =>
 (lQ rest8 none (some (IntKind.wrap .i64 ((len rest8) - 1)))).bind fun x_3 =>
 (dM tb2 lb3 x_2).bind fun x_4 =>
 W3 x_3 vk0_13 x_4 (len x_4) 0 tb2 lb3 vb4 vb5 idb6 vb16)
 (some (.x ()))
noncomputable def W2 (rest8 : Sl aa) (vk0_13 : Trace) (tb2 : Trace) (lb3 : aZ 200 ay) (vb4 : aa) (vb5 : Bool) (idb6 : aa) (vb16 : Mo aa Bool) : Option (Fw Unit Empty aa) :=
 (cW (fun q : (Sl aa) × (Mo aa Bool) => cC vk0_13 tb2 lb3 vb4 vb5 idb6 q.1 q.2) (rest8, vb16)).bind (Fw.elim
 (fun e => some (.n ()))
 (fun e => some (.r idb6)))
def jD (S : Sys) (vk0_13 : Trace) (tb2 : Trace) (lb3 : aZ 200 ay) (vb4 : aa) (vb5 : Bool) (idb6 : aa) : (Sl aa) × (Mo aa Bool) → St := fun q => ⟨[Pv 2, Pv 3, Pv 4, Pv 5, Pv 6, (7, .mp 16), Ov 8, (13, .v (.clo (S.N 17) [] [.fptr (cells vk0_13)]))], [Xb 2 tb2, (3, .box [cp lb3]), Xb 4 vb4, (5, .box [bv vb5]), Xb 6 idb6, (16, g7 q.2), Lb 2008 q.1], [2,3,4,5], [], true, 0⟩
def jB (S : Sys) (vk0_13 : Trace) (tb2 : Trace) (lb3 : aZ 200 ay) (vb4 : aa) (vb5 : Bool) (idb6 : aa) : Unit → Nat × St := fun e => (2, ⟨[Pv 2, Pv 3, Pv 4, Pv 5, (13, .v (.clo (S.N 17) [] [.fptr (cells vk0_13)]))], [Xb 2 tb2, (3, .box [cp lb3]), Xb 4 vb4, (5, .box [bv vb5])], [2,3,4,5], [], true, 0⟩)
def jA (S : Sys) (vk0_13 : Trace) (tb2 : Trace) (lb3 : aZ 200 ay) (vb4 : aa) (vb5 : Bool) (idb6 : aa) : Unit → St := fun e => ⟨[], [Xb 2 tb2, (3, .box [cp lb3]), Xb 4 idb6, (5, .box [bv true])], [2,3,4,5], [], true, 0⟩
noncomputable def iy (vk0_13 : Trace) (tb2 : Trace) (lb3 : aZ 200 ay) (vb4 : aa) (vb5 : Bool) (x : aa × Event) : Option (Fw Unit Empty aa) :=
 W2 (Sl.row [x.1] : Sl aa) vk0_13 tb2 lb3 vb4 vb5 x.1 []
noncomputable def E1 (vk0_13 : Trace) (tb2 : Trace) (lb3 : aZ 200 ay) (vb4 : aa) (vb5 : Bool) : Option (aa × Bool) :=
 (eN vk0_13).bind fun its => (kr (fun (x : aa × Event) (q : Unit) => iy vk0_13 tb2 lb3 vb4 vb5 x) its ()).bind (Fw.sE
 (fun q => some (⟨0, 0⟩, false))
 (fun e => Empty.elim e)
 (fun e => some (e, true)))
def sU (S : Sys) (vk0_13 : Trace) (tb2 : Trace) (lb3 : aZ 200 ay) (vb4 : aa) (vb5 : Bool) : Unit → Tb aE := fun q => [Xb 2 tb2, (3, .box [cp lb3]), Xb 4 vb4, (5, .box [bv vb5])]
def sr (S : Sys) (vk0_13 : Trace) (tb2 : Trace) (lb3 : aZ 200 ay) (vb4 : aa) (vb5 : Bool) : Empty → Nat × Tb aE := fun e => Empty.elim e
def r_ (S : Sys) (vk0_13 : Trace) (tb2 : Trace) (lb3 : aZ 200 ay) (vb4 : aa) (vb5 : Bool) : aa → Tb aE := fun e => [Xb 2 tb2, (3, .box [cp lb3]), Xb 4 e, (5, .box [bv true])]
theorem mV (vk0_13 : Trace) (v36 : Sl aa) (v37 : Int) (tb2 : Trace) (lb3 : aZ 200 ay) (vb4 : aa) (vb5 : Bool) (idb6 : aa) (rest8 : Sl aa) (v38 : Int) (vb16 : Mo aa Bool) : Le ((iw vk0_13 v36 v37 tb2 lb3 vb4 vb5 idb6 rest8 v38 vb16).bind (fun w => some (Fw.out (tP S vk0_13 v36 v37 tb2 lb3 vb4 vb5 idb6) (tY S vk0_13 v36 v37 tb2 lb3 vb4 vb5 idb6) (uh S vk0_13 v36 v37 tb2 lb3 vb4 vb5 idb6) w))) (rn S (ah S T) some (.rc qE) [] ⟨[Pv 2, Pv 3, Pv 4, Pv 5, Pv 6, (7, .mp 16), Ov 8, (13, .v (.clo (S.N 17) [] [.fptr (cells vk0_13)])), Cv 36 v36, Iv 37 v37, Iv 38 v38], [Xb 2 tb2, (3, .box [cp lb3]), Xb 4 vb4, (5, .box [bv vb5]), Xb 6 idb6, (16, g7 vb16), Lb 2008 rest8], [2,3,4,5], [], true, 0⟩) := by
 unfold iw
 refine aJ (n := 8) (fo' := .rc C2) (fs' := mC) (t := decide (v38 < v37)) (A := fun bb => ⟨[Pv 2, Pv 3, Pv 4, Pv 5, Pv 6, (7, .mp 16), Ov 8, (13, .v (.clo (S.N 17) [] [.fptr (cells vk0_13)])), Cv 36 v36, Iv 37 v37, Iv 38 v38, Bv 39 bb], [Xb 2 tb2, (3, .box [cp lb3]), Xb 4 vb4, (5, .box [bv vb5]), Xb 6 idb6, (16, g7 vb16), Lb 2008 rest8], [2,3,4,5], [], true, 0⟩) (by kernel_rfl) ?_ ?_
 ·refine ey 7 false [] kG ku ⟨[Pv 2, Pv 3, Pv 4, Pv 5, Pv 6, (7, .mp 16), Ov 8, (13, .v (.clo (S.N 17) [] [.fptr (cells vk0_13)])), Cv 36 v36, Iv 37 v37, Iv 38 v38, Bv 39 true], [Xb 2 tb2, (3, .box [cp lb3]), Xb 4 vb4, (5, .box [bv vb5]), Xb 6 idb6, (16, g7 vb16), Lb 2008 rest8], [2,3,4,5], [], true, 0⟩ .i64 rfl (by kernel_rfl) fun x_1 h_1 => ?_
  refine aJ (n := 13) (fo' := .rc C3) (fs' := lH) (t := NW x_1 idb6) (A := fun bb => ⟨[Pv 2, Pv 3, Pv 4, Pv 5, Pv 6, (7, .mp 16), Ov 8, (13, .v (.clo (S.N 17) [] [.fptr (cells vk0_13)])), Cv 36 v36, Iv 37 v37, Iv 38 v38, Bv 39 true, Pv 11, Bv 44 bb], [Xb 2 tb2, (3, .box [cp lb3]), Xb 4 vb4, (5, .box [bv vb5]), Xb 6 idb6, (16, g7 vb16), Lb 2008 rest8, Xb 11 x_1], [2,3,4,5], [], true, 0⟩) (by kernel_rfl) ?_ ?_
  ·exact av (by kernel_rfl)
  ·refine L6 7 false [] jO jo ⟨[Pv 2, Pv 3, Pv 4, Pv 5, Pv 6, (7, .mp 16), Ov 8, (13, .v (.clo (S.N 17) [] [.fptr (cells vk0_13)])), Cv 36 v36, Iv 37 v37, Iv 38 v38, Bv 39 true, Pv 11, Bv 44 false, (46, .mp 16), Cv 47 x_1], [Xb 2 tb2, (3, .box [cp lb3]), Xb 4 vb4, (5, .box [bv vb5]), Xb 6 idb6, (16, g7 vb16), Lb 2008 rest8, Xb 11 x_1], [2,3,4,5], [], true, 0⟩ 16 vb16 x_1 false rfl (by kernel_rfl) ?_
   refine aJ (n := 3) (fo' := .rc C4) (fs' := F8) (t := Av vb16 x_1 false) (A := fun bb => ⟨[Pv 2, Pv 3, Pv 4, Pv 5, Pv 6, (7, .mp 16), Ov 8, (13, .v (.clo (S.N 17) [] [.fptr (cells vk0_13)])), Cv 36 v36, Iv 37 v37, Iv 38 v38, Bv 39 true, Pv 11, Bv 44 false, Bv 49 (!bb)], [Xb 2 tb2, (3, .box [cp lb3]), Xb 4 vb4, (5, .box [bv vb5]), Xb 6 idb6, (16, g7 vb16), Lb 2008 rest8, Xb 11 x_1], [2,3,4,5], [], true, 0⟩) (by kernel_rfl) ?_ ?_
   ·exact av (by kernel_rfl)
   ·refine QU 5 false [] jR F9 ⟨[Pv 2, Pv 3, Pv 4, Pv 5, Pv 6, (7, .mp 16), Ov 8, (13, .v (.clo (S.N 17) [] [.fptr (cells vk0_13)])), Cv 36 v36, Iv 37 v37, Iv 38 v38, Bv 39 true, Pv 11, Bv 44 false, Bv 49 true, (50, .mp 16), Cv 51 x_1], [Xb 2 tb2, (3, .box [cp lb3]), Xb 4 vb4, (5, .box [bv vb5]), Xb 6 idb6, (16, g7 vb16), Lb 2008 rest8, Xb 11 x_1], [2,3,4,5], [], true, 0⟩ 16 vb16 x_1 true rfl (by kernel_rfl) ?_
    refine vV 6 false [] iQ F8 ⟨[Pv 2, Pv 3, Pv 4, Pv 5, Pv 6, (7, .mp 16), (13, .v (.clo (S.N 17) [] [.fptr (cells vk0_13)])), Cv 36 v36, Iv 37 v37, Iv 38 v38, Bv 39 true, Bv 44 false, Bv 49 true, (52, .own 2008), (54, .own 54)], [Xb 2 tb2, (3, .box [cp lb3]), Xb 4 vb4, (5, .box [bv vb5]), Xb 6 idb6, (16, g7 (nG vb16 x_1 true)), Lb 2008 rest8, Xb 11 x_1, Lb 54 (Sl.row [x_1] : Sl aa)], [2,3,4,5], [], true, 0⟩ 2008 54 rfl (by kernel_rfl) (by kernel_rfl) fun x_2 h_2 => ?_
    exact av (by kernel_rfl)
 ·exact av (by kernel_rfl)
theorem wv (rest8 : Sl aa) (vk0_13 : Trace) (v36 : Sl aa) (v37 : Int) (v38 : Int) (tb2 : Trace) (lb3 : aZ 200 ay) (vb4 : aa) (vb5 : Bool) (idb6 : aa) (vb16 : Mo aa Bool) : Le ((W3 rest8 vk0_13 v36 v37 v38 tb2 lb3 vb4 vb5 idb6 vb16).bind (fun w => some (Fw.out (jD S vk0_13 tb2 lb3 vb4 vb5 idb6) (jB S vk0_13 tb2 lb3 vb4 vb5 idb6) (jA S vk0_13 tb2 lb3 vb4 vb5 idb6) w))) (rn S (ah S T) some (.rc (.loop qE)) o0 ⟨[Pv 2, Pv 3, Pv 4, Pv 5, Pv 6, (7, .mp 16), Ov 8, (13, .v (.clo (S.N 17) [] [.fptr (cells vk0_13)])), Cv 36 v36, Iv 37 v37, Iv 38 v38], [Xb 2 tb2, (3, .box [cp lb3]), Xb 4 vb4, (5, .box [bv vb5]), Xb 6 idb6, (16, g7 vb16), Lb 2008 rest8], [2,3,4,5], [], true, 0⟩) := by
 unfold W3
 refine eJ (n := 0) (fs := o0) (a := qE) (eσ := tP S vk0_13 v36 v37 tb2 lb3 vb4 vb5 idb6) (eε := tY S vk0_13 v36 v37 tb2 lb3 vb4 vb5 idb6) (eρ := uh S vk0_13 v36 v37 tb2 lb3 vb4 vb5 idb6) (by kernel_rfl) (fun q => mV vk0_13 v36 v37 tb2 lb3 vb4 vb5 idb6 q.1 q.2.1 q.2.2) ?_ ?_
 ·intro e
  exact av (by kernel_rfl)
 ·intro e
  exact av (by kernel_rfl)
theorem ga (vk0_13 : Trace) (tb2 : Trace) (lb3 : aZ 200 ay) (vb4 : aa) (vb5 : Bool) (idb6 : aa) (rest8 : Sl aa) (vb16 : Mo aa Bool) : Le ((cC vk0_13 tb2 lb3 vb4 vb5 idb6 rest8 vb16).bind (fun w => some (Fw.out (jD S vk0_13 tb2 lb3 vb4 vb5 idb6) (jB S vk0_13 tb2 lb3 vb4 vb5 idb6) (jA S vk0_13 tb2 lb3 vb4 vb5 idb6) w))) (rn S (ah S T) some (.rc iA) [] ⟨[Pv 2, Pv 3, Pv 4, Pv 5, Pv 6, (7, .mp 16), Ov 8, (13, .v (.clo (S.N 17) [] [.fptr (cells vk0_13)]))], [Xb 2 tb2, (3, .box [cp lb3]), Xb 4 vb4, (5, .box [bv vb5]), Xb 6 idb6, (16, g7 vb16), Lb 2008 rest8], [2,3,4,5], [], true, 0⟩) := by
 unfold cC
 refine Co 6 false [] gO F7 ⟨[Pv 2, Pv 3, Pv 4, Pv 5, Pv 6, (7, .mp 16), Ov 8, (13, .v (.clo (S.N 17) [] [.fptr (cells vk0_13)])), (19, .own 2008)], [Xb 2 tb2, (3, .box [cp lb3]), Xb 4 vb4, (5, .box [bv vb5]), Xb 6 idb6, (16, g7 vb16), Lb 2008 rest8], [2,3,4,5], [], true, 0⟩ 2008 rest8 rfl (by kernel_rfl) ?_
 refine aJ (n := 3) (fo' := .rc C1) (fs' := F6) (t := decide ((len rest8) > 0)) (A := fun bb => ⟨[Pv 2, Pv 3, Pv 4, Pv 5, Pv 6, (7, .mp 16), Ov 8, (13, .v (.clo (S.N 17) [] [.fptr (cells vk0_13)])), Bv 21 bb], [Xb 2 tb2, (3, .box [cp lb3]), Xb 4 vb4, (5, .box [bv vb5]), Xb 6 idb6, (16, g7 vb16), Lb 2008 rest8], [2,3,4,5], [], true, 0⟩) (by kernel_rfl) ?_ ?_
 ·refine Co 8 false [] Q9 F5 ⟨[Pv 2, Pv 3, Pv 4, Pv 5, Pv 6, (7, .mp 16), Ov 8, (13, .v (.clo (S.N 17) [] [.fptr (cells vk0_13)])), Bv 21 true, (22, .own 2008), (23, .own 2008)], [Xb 2 tb2, (3, .box [cp lb3]), Xb 4 vb4, (5, .box [bv vb5]), Xb 6 idb6, (16, g7 vb16), Lb 2008 rest8], [2,3,4,5], [], true, 0⟩ 2008 rest8 rfl (by kernel_rfl) ?_
  refine ID 1 false [] Q8 F5 ⟨[Pv 2, Pv 3, Pv 4, Pv 5, Pv 6, (7, .mp 16), Ov 8, (13, .v (.clo (S.N 17) [] [.fptr (cells vk0_13)])), Bv 21 true, (22, .own 2008), Iv 25 (IntKind.wrap .i64 ((len rest8) - 1))], [Xb 2 tb2, (3, .box [cp lb3]), Xb 4 vb4, (5, .box [bv vb5]), Xb 6 idb6, (16, g7 vb16), Lb 2008 rest8], [2,3,4,5], [], true, 0⟩ .i64 2008 rfl (by kernel_rfl) fun x_1 h_1 => ?_
  refine Qv 0 false [] Q7 F5 ⟨[Pv 2, Pv 3, Pv 4, Pv 5, Pv 6, (7, .mp 16), Ov 8, (13, .v (.clo (S.N 17) [] [.fptr (cells vk0_13)])), Bv 21 true, (26, .el 2008 x_1 0)], [Xb 2 tb2, (3, .box [cp lb3]), Xb 4 vb4, (5, .box [bv vb5]), Xb 6 idb6, (16, g7 vb16), Lb 2008 rest8], [2,3,4,5], [], true, 0⟩ 2008 0 (fun x_2 => .agg [.int .i64 x_2.proc, .int .i64 x_2.index]) rfl (by kernel_rfl) (fun _ => rfl) fun x_2 h_2 => ?_
  refine Co 8 false [] Q6 F4 ⟨[Pv 2, Pv 3, Pv 4, Pv 5, Pv 6, (7, .mp 16), (13, .v (.clo (S.N 17) [] [.fptr (cells vk0_13)])), Bv 21 true, Pv 9, (28, .own 2008), (29, .own 2008)], [Xb 2 tb2, (3, .box [cp lb3]), Xb 4 vb4, (5, .box [bv vb5]), Xb 6 idb6, (16, g7 vb16), Lb 2008 rest8, Xb 9 x_2], [2,3,4,5], [], true, 0⟩ 2008 rest8 rfl (by kernel_rfl) ?_
  refine Mn 1 [] Q5 F4 ⟨[Pv 2, Pv 3, Pv 4, Pv 5, Pv 6, (7, .mp 16), (13, .v (.clo (S.N 17) [] [.fptr (cells vk0_13)])), Bv 21 true, Pv 9, (28, .own 2008), Iv 31 (IntKind.wrap .i64 ((len rest8) - 1))], [Xb 2 tb2, (3, .box [cp lb3]), Xb 4 vb4, (5, .box [bv vb5]), Xb 6 idb6, (16, g7 vb16), Lb 2008 rest8, Xb 9 x_2], [2,3,4,5], [], true, 0⟩ false true 2008 [.int .i64 (IntKind.wrap .i64 ((len rest8) - 1))] rfl (by kernel_rfl) (by kernel_rfl) fun x_3 h_3 => ?_
  refine bg 8 [] Q4 F3 ⟨[Pv 2, Pv 3, Pv 4, Pv 5, Pv 6, (7, .mp 16), (13, .v (.clo (S.N 17) [] [.fptr (cells vk0_13)])), Bv 21 true, (8, .own 32), Cv 33 tb2, Kv 34 lb3, Cv 35 x_2], [Xb 2 tb2, (3, .box [cp lb3]), Xb 4 vb4, (5, .box [bv vb5]), Xb 6 idb6, (16, g7 vb16), Xb 9 x_2, Lb 32 x_3], [2,3,4,5], [], true, 0⟩ (wH (S := S) (T := T)) (tb2, lb3, x_2) rfl (by kernel_rfl) fun x_4 h_4 => ?_
  refine dP 0 false [] Q3 F3 ⟨[Pv 2, Pv 3, Pv 4, Pv 5, Pv 6, (7, .mp 16), (13, .v (.clo (S.N 17) [] [.fptr (cells vk0_13)])), Bv 21 true, (8, .own 32), Cv 36 x_4], [Xb 2 tb2, (3, .box [cp lb3]), Xb 4 vb4, (5, .box [bv vb5]), Xb 6 idb6, (16, g7 vb16), Xb 9 x_2, Lb 32 x_3], [2,3,4,5], [], true, 0⟩ x_4 rfl (by kernel_rfl) ?_
  exact eY (n := 6) (by kernel_rfl) (wv x_3 vk0_13 x_4 (len x_4) 0 tb2 lb3 vb4 vb5 idb6 vb16)
 ·exact av (by kernel_rfl)
theorem lE (rest8 : Sl aa) (vk0_13 : Trace) (tb2 : Trace) (lb3 : aZ 200 ay) (vb4 : aa) (vb5 : Bool) (idb6 : aa) (vb16 : Mo aa Bool) : Le ((W2 rest8 vk0_13 tb2 lb3 vb4 vb5 idb6 vb16).bind (fun w => some (Fw.lK (sU S vk0_13 tb2 lb3 vb4 vb5) (sr S vk0_13 tb2 lb3 vb4 vb5) (r_ S vk0_13 tb2 lb3 vb4 vb5) w))) (rn S (ah S T) lK (.rc (.loop iA)) sV ⟨[Pv 2, Pv 3, Pv 4, Pv 5, Pv 6, (7, .mp 16), Ov 8, (13, .v (.clo (S.N 17) [] [.fptr (cells vk0_13)]))], [Xb 2 tb2, (3, .box [cp lb3]), Xb 4 vb4, (5, .box [bv vb5]), Xb 6 idb6, (16, g7 vb16), Lb 2008 rest8], [2,3,4,5], [], true, 0⟩) := by
 unfold W2
 refine eJ (n := 0) (fs := sV) (a := iA) (eσ := jD S vk0_13 tb2 lb3 vb4 vb5 idb6) (eε := jB S vk0_13 tb2 lb3 vb4 vb5 idb6) (eρ := jA S vk0_13 tb2 lb3 vb4 vb5 idb6) (by kernel_rfl) (fun q => ga vk0_13 tb2 lb3 vb4 vb5 idb6 q.1 q.2) ?_ ?_
 ·intro e
  exact av (by kernel_rfl)
 ·intro e
  exact av (by kernel_rfl)
theorem mX (vk0_13 : Trace) (tb2 : Trace) (lb3 : aZ 200 ay) (vb4 : aa) (vb5 : Bool) (x : aa × Event) : Le ((iy vk0_13 tb2 lb3 vb4 vb5 x).bind (fun w => some (Fw.lK (sU S vk0_13 tb2 lb3 vb4 vb5) (sr S vk0_13 tb2 lb3 vb4 vb5) (r_ S vk0_13 tb2 lb3 vb4 vb5) w))) (rn S (ah S T) (pI S (ah S T) qH) (.rc qP) [] ⟨[Pv 2, Pv 3, Pv 4, Pv 5, (13, .v (.clo (S.N 17) [] [.fptr (cells vk0_13)])), Cv 14 x.1, Cv 15 x.2], [Xb 2 tb2, (3, .box [cp lb3]), Xb 4 vb4, (5, .box [bv vb5])], [2,3,4,5], [], true, 0⟩) := by
 unfold iy
 refine wJ (n := 4) (st' := ⟨[Pv 2, Pv 3, Pv 4, Pv 5, (13, .v (.clo (S.N 17) [] [.fptr (cells vk0_13)])), Cv 15 x.2, Pv 6], [Xb 2 tb2, (3, .box [cp lb3]), Xb 4 vb4, (5, .box [bv vb5]), Xb 6 x.1], [2,3,4,5], [], true, 0⟩) (by kernel_rfl) ?_
 exact eY (n := 18) (by kernel_rfl) (lE (Sl.row [x.1] : Sl aa) vk0_13 tb2 lb3 vb4 vb5 x.1 [])
theorem xW (vk0_13 : Trace) (tb2 : Trace) (lb3 : aZ 200 ay) (vb4 : aa) (vb5 : Bool) : Le ((E1 vk0_13 tb2 lb3 vb4 vb5).bind (fun r => some [enc r.1, .bool r.2])) (rn S (ah S T) (cj [.ld 4 2 true, .ld 5 1 false]) (.rc (.each (.s 13) [14,15] qP qH)) t_ (af [Pv 2, Pv 3, Pv 4, Pv 5, (13, .v (.clo (S.N 17) [] [.fptr (cells vk0_13)]))] [Xb 2 tb2, (3, .box [cp lb3]), Xb 4 vb4, (5, .box [bv vb5])])) := by
 unfold E1
 refine CV fun its hits => ?_
 refine xk (n := 0) (g := .s 13) (fs := t_) (a := qP) (b := qH) (ps := [14,15]) (gt := [Pv 2, Pv 3, Pv 4, Pv 5, (13, .v (.clo (S.N 17) [] [.fptr (cells vk0_13)]))]) (eσ := sU S vk0_13 tb2 lb3 vb4 vb5) (eε := sr S vk0_13 tb2 lb3 vb4 vb5) (eρ := r_ S vk0_13 tb2 lb3 vb4 vb5) (by kernel_rfl) (by kernel_rfl) (fG.i0 (S := S) (T := T) vk0_13 its hits) (fun _ => rfl) (fun x q => GX (by kernel_rfl) (mX (S := S) (T := T) vk0_13 tb2 lb3 vb4 vb5 x)) ?_ ?_ ?_
 ·intro q
  exact av (by kernel_rfl)
 ·intro e; exact Empty.elim e
 ·intro e
  exact av (by kernel_rfl)
end
end cw
noncomputable def cw (t0 : Trace) (l1 : aZ 200 ay) : Option (aa × Bool) :=
 (cP t0).bind fun x_1 =>
 cw.E1 x_1 t0 l1 (⟨0, 0⟩ : aa) false
open cw in
theorem w8 {S : Sys} {T : az} [fG S T] (t0 : Trace) (l1 : aZ 200 ay) : Le ((cw t0 l1).bind fun r => some [enc r.1, .bool r.2]) (bl (ah S T) (S.N 28) [enc t0, .fptr (cells l1)]) := by
 refine cZ (fG.t (S := S) (T := T)) (Nat.le_of_ble_eq_true rfl) ?_
 unfold cw
 refine gm 2 false [] Q2 F2 (af [Cv 0 t0, Kv 1 l1] []) t0 rfl (by kernel_rfl) (by kernel_rfl) ?_
 refine bg 9 [] Q1 F1 (af [Pv 2, Pv 3, Pv 4, Pv 5, Cv 12 t0] [Xb 2 t0, (3, .box [cp l1]), Xb 4 (⟨0, 0⟩ : aa), (5, .box [bv false])]) (jW (S := S) (T := T)) t0 rfl (by kernel_rfl) fun x_1 h_1 => ?_
 exact eY (n := 4) (by kernel_rfl) (xW x_1 t0 l1 (⟨0, 0⟩ : aa) false)
theorem vH {S : Sys} {T : az} [fG S T] : dS S (ah S T) (S.N 28) (fun z : Trace × (aZ 200 ay) => [enc z.1, .fptr (cells z.2)]) (fun r : aa × Bool => [enc r.1, .bool r.2]) (fun z => cw z.1 z.2) true where
 k := fG.k (S := S) (T := T)
 h z := w8 z.1 z.2
 l z := by simp
 r r := by simp
 s h r := by kernel_rfl
namespace dn
def Q4 : List RO := o2 1 (.a .box) [0] [0] ::
 o2 2 (.a (.alloc 2 [.int .i64 0, .int .i64 0])) [] [] ::
 o2 3 (.a (.alloc 1 [.int .i64 0])) [] [] ::
 []
def Q2 : List RO := o2 17 .c [.f 6, 16, .k (.int .i64 1), .k (.int .i64 8)] [16] ::
 o2 18 (.p (.not)) [17] [17] ::
 []
def Q3 : List RO := o2 16 ln [15] [15] ::
 Q2
def C1 : RC := .cond (.s 18) (.seq (.ops (o2 19 (.p (.build [.int .i64 0, .int .i64 0] [])) [] [] ::
 oz (su 2) [2, 19] [19] ::
 oz (su 1) [3, .k (.int .i64 1)] [] ::
 [])) (.gh (.keep [2,3] [2,3]) (.ret))) (.skip)
def Q1 : List RO := o2 22 ln [21] [21] ::
 o1 23 (.k (.int .i64 0)) [] ::
 []
def C2 : RC := .cond (.s 24) (.skip) (.gh (.keep [1,2,3] [1,2,3]) (.exit 0))
def Q5 : List RO := o2 28 .c [.f 16, 26, 27] [26,27] ::
 o1 5 28 [28] ::
 []
def C3 : RC := .cond (.s 30) (.seq (.ops (o1 31 4 [4] ::
 o2 32 (.p (.build [.int .i64 0, .int .i64 0] [(0, 1)])) [31] [31] ::
 o1 33 5 [5] ::
 oz (su 2) [2, 32] [32] ::
 oz (su 1) [3, 33] [33] ::
 [])) (.gh (.keep [2,3] [2,3]) (.ret))) (.skip)
def U1 : RC := .seq (.ops (o1 29 5 [] ::
 o2 30 (bI .neq) [29, .k (.int .i64 0)] [29] ::
 [])) (C3)
def U2 : RC := .seq (.ops (o2 26 (lD 1) [1] [] ::
 o1 27 4 [] ::
 Q5)) (U1)
def U3 : RC := .ops (o2 34 (bI .add) [23, .k (.int .i64 1)] [23] ::
 o1 23 34 [34] ::
 [])
def U4 : RC := .seq (.block 1 (.seq (.ops (o1 25 23 [] ::
 o1 4 25 [25] ::
 [])) (U2))) (U3)
def cg : RC := .hg (.seq (.ops (o2 24 (bI .lss) [23, 22] [] ::
 [])) (.seq (C2) (U4))) (.keep [1,2,3,22,23] [1,2,3])
def U5 : RC := .block 0 (.gh (.keep [1,2,3,22,23] [1,2,3]) (.loop cg))
def Q8 : List RO := o2 36 .c [.f 18, 35] [35] ::
 []
def Q7 : List RO := oz (su 5) [7, 38] [38] ::
 []
def U6 : RC := .ops (o2 7 (.a (.alloc 5 [.int .i64 0, .int .i64 0, .int .i64 0, .int .i64 0, .au])) [] [] ::
 Q7)
def Q6 : List RO := o2 42 .c [.f 23, 39, 40, 41] [39,40,41] ::
 o1 8 42 [42] ::
 []
def C4 : RC := .cond (.s 44) (.seq (.ops (o2 45 (lD 2) [6] [6] ::
 o1 46 8 [8] ::
 oz (su 2) [2, 45] [45] ::
 oz (su 1) [3, 46] [46] ::
 [])) (.gh (.keep [] [1,2,3]) (.ret))) (.skip)
def U7 : RC := .seq (.ops (o1 43 8 [] ::
 o2 44 (bI .neq) [43, .k (.int .i64 0)] [43] ::
 [])) (C4)
def GN : RC := .seq (.ops (o2 6 (.a (.alloc 2 [.int .i64 0, .int .i64 0])) [] [] ::
 oz (su 2) [6, 37] [37] ::
 [])) (U6)
def Hg : RC := .hg (.block 3 (.seq (.ops (o2 39 (lD 1) [1] [] ::
 o2 40 (lD 2) [6] [] ::
 o2 41 (lD 5) [7] [7] ::
 Q6)) (U7))) (.keep [] [1,2,3])
def U8 : RC := .block 2 (.gh (.keep [1,2,3,36] [1,2,3]) (.each (.s 36) [37,38] GN Hg))
def gO : List RO := o2 49 .c [.f 26, 48] [48] ::
 o1 47 49 [49] ::
 o2 50 (.p (.ext 0)) [47] [] ::
 o2 51 (.p (.ext 1)) [47] [] ::
 o2 52 (.p (.ext 2)) [47] [47] ::
 o2 10 (.a (.alloc 2 [.int .i64 0, .int .i64 0])) [] [] ::
 o1 9 50 [50] ::
 oz (su 2) [10, 51] [51] ::
 o1 11 52 [52] ::
 []
def C5 : RC := .cond (.s 54) (.seq (.ops (o2 55 (lD 2) [10] [10] ::
 o1 56 11 [11] ::
 oz (su 2) [2, 55] [55] ::
 oz (su 1) [3, 56] [56] ::
 [])) (.gh (.keep [2,3] [2,3]) (.ret))) (.skip)
def Q9 : List RO := o2 60 .c [.f 28, 58, 59] [58,59] ::
 o1 57 60 [60] ::
 o2 61 (.p (.ext 0)) [57] [] ::
 o2 62 (.p (.ext 1)) [57] [57] ::
 o2 12 (.a (.alloc 2 [.int .i64 0, .int .i64 0])) [] [] ::
 oz (su 2) [12, 61] [61] ::
 o1 13 62 [62] ::
 []
def C6 : RC := .cond (.s 63) (.seq (.ops (o2 64 (lD 2) [12] [12] ::
 oz (su 2) [2, 64] [64] ::
 oz (su 1) [3, .k (.int .i64 10)] [] ::
 [])) (.gh (.keep [2,3] [2,3]) (.ret))) (.skip)
def U9 : RC := .seq (.ops (o2 65 (.p (.build [.int .i64 0, .int .i64 0] [])) [] [] ::
 oz (su 2) [2, 65] [65] ::
 oz (su 1) [3, .k (.int .i64 0)] [] ::
 [])) (.gh (.keep [2,3] [2,3]) (.ret))
def m4 : RC := .seq (.seq (.ops (o2 58 (lD 1) [1] [1] ::
 o1 59 9 [9] ::
 Q9)) (.seq (.ops (o1 63 13 [13] ::
 [])) (C6))) (U9)
def mM : RC := .seq (.seq (.ops (o1 53 11 [] ::
 o2 54 (bI .neq) [53, .k (.int .i64 0)] [53] ::
 [])) (C5)) (m4)
def lV : RC := .seq (.ops (o2 48 (lD 1) [1] [] ::
 gO)) (mM)
def ov : RC := .seq (.seq (.ops (o2 35 (lD 1) [1] [] ::
 Q8)) (U8)) (lV)
def pS : RC := .seq (.seq (.ops (o2 20 (fa 0) [1] [] ::
 o2 21 (ld 1) [20] [20] ::
 Q1)) (U5)) (ov)
def oD : RC := .seq (.seq (.ops (o2 14 (fa 0) [1] [] ::
 o2 15 (ld 1) [14] [14] ::
 Q3)) (C1)) (pS)
def text : RF := ⟨66, [.ld 2 2 true, .ld 3 1 false], .seq (.ops Q4) (oD)⟩
def F2 : List Fm := [.seq pS]
def F4 : List Fm := [.seq oD]
def lH : List Fm := [.seq U9]
def mC : List Fm := [.seq m4]
def o0 : List Fm := [.seq mM]
def F1 : List Fm := [.seq U5, .seq ov]
def F3 : List Fm := .seq C1 :: F2
def F7 : List Fm := [.seq U4, .gst (.keep [1,2,3,22,23] [1,2,3])]
def F8 : List Fm := [.blk 3, .gst (.keep [] [1,2,3])]
def jo : List Fm := [.seq U8, .seq lV]
def ku : List Fm := .seq (.seq (.ops (o1 63 13 [13] ::
 [])) (C6)) :: lH
def sV : List Fm := [.blk 2, .seq lV]
def t_ : List Fm := [.blk 0, .seq ov]
def F5 : List Fm := [.blk 1, .seq U3, .gst (.keep [1,2,3,22,23] [1,2,3])]
def F9 : List Fm := .seq U7 :: F8
def F6 : List Fm := .seq U1 :: F5
end dn
class d7 (S : Sys) (T : az) : Prop where
 t : T (S.N 29) = some dn.text
 k : S.E.keep (S.N 29) = false
 c0 : fG S T
 c1 : dG S T
 c2 : fC S T
 c3 : ig S T
 c4 : dx S T
 c5 : cm S T
 i0 : ∀ t : Trace, ∀ its, eN t = some its → S.items (S.N 17) [] [.fptr (cells t)] = some (its.map fun x : aa × Event => [enc x.1, enc x.2])
attribute [instance] d7.c0 d7.c1 d7.c2 d7.c3 d7.c4 d7.c5
namespace dn
section
variable {S : Sys} {T : az} [d7 S T]
noncomputable def uI (vk0_36 : Trace) (tb1 : Trace) (vb2 : aa) (vb3 : Int) (x : aa × Event) : Option (Fw Unit Empty (aa × Int)) :=
 (bn tb1 x.1 x.2).bind fun x_1 =>
 aL (x_1 == 0)
 (some (.n ()))
 (some (.r (x.1, x_1)))
noncomputable def E2 (vk0_36 : Trace) (tb1 : Trace) (vb2 : aa) (vb3 : Int) : Option (aa × Int) :=
 (eN vk0_36).bind fun its => (kr (fun (x : aa × Event) (q : Unit) => uI vk0_36 tb1 vb2 vb3 x) its ()).bind (Fw.sE
 (fun q => (bu tb1).bind fun x_1 =>
 aL (x_1.2.2 == 0)
 ((x_1.1).bind fun x_2 =>
 (cw tb1 x_2).bind fun x_3 =>
 aL x_3.2
 (some (x_3.1, 10))
 (some (⟨0, 0⟩, 0)))
 (some (x_1.2.1, x_1.2.2)))
 (fun e => Empty.elim e)
 (fun e => some (e.1, e.2)))
def JK (S : Sys) (vk0_36 : Trace) (tb1 : Trace) (vb2 : aa) (vb3 : Int) : Unit → Tb aE := fun q => [Xb 1 tb1, Xb 2 vb2, (3, .box [iv vb3])]
def Jd (S : Sys) (vk0_36 : Trace) (tb1 : Trace) (vb2 : aa) (vb3 : Int) : Empty → Nat × Tb aE := fun e => Empty.elim e
def KU (S : Sys) (vk0_36 : Trace) (tb1 : Trace) (vb2 : aa) (vb3 : Int) : aa × Int → Tb aE := fun e => [Xb 1 tb1, Xb 2 e.1, (3, .box [iv e.2])]
noncomputable def aB (v22 : Int) (tb1 : Trace) (vb2 : aa) (vb3 : Int) (v23 : Int) : Option (Fw Int Unit (aa × Int)) :=
 aL (decide (v23 < v22))
 ((bE tb1 v23).bind fun x_1 =>
 aL (x_1 == 0)
 (some (.n (IntKind.wrap .i64 (v23 + 1))))
 (some (.r ((⟨v23, 0⟩ : aa), x_1))))
 (some (.x ()))
noncomputable def W1 (v22 : Int) (v23 : Int) (tb1 : Trace) (vb2 : aa) (vb3 : Int) : Option (aa × Int) :=
 (cW (fun q : Int => aB v22 tb1 vb2 vb3 q) v23).bind (Fw.elim
 (fun e => (cP tb1).bind fun x_1 =>
 dn.E2 x_1 tb1 vb2 vb3)
 (fun e => some (e.1, e.2)))
def cJ (S : Sys) (v22 : Int) (tb1 : Trace) (vb2 : aa) (vb3 : Int) : Int → St := fun q => (af [Pv 1, Pv 2, Pv 3, Iv 22 v22, Iv 23 q] [Xb 1 tb1, Xb 2 vb2, (3, .box [iv vb3])])
def cL (S : Sys) (v22 : Int) (tb1 : Trace) (vb2 : aa) (vb3 : Int) : Unit → Nat × St := fun e => (0, (af [Pv 1, Pv 2, Pv 3] [Xb 1 tb1, Xb 2 vb2, (3, .box [iv vb3])]))
def cM (S : Sys) (v22 : Int) (tb1 : Trace) (vb2 : aa) (vb3 : Int) : aa × Int → St := fun e => (af [Pv 2, Pv 3] [Xb 2 e.1, (3, .box [iv e.2])])
theorem Dn (vk0_36 : Trace) (tb1 : Trace) (vb2 : aa) (vb3 : Int) (x : aa × Event) : Le ((uI vk0_36 tb1 vb2 vb3 x).bind (fun w => some (Fw.lK (JK S vk0_36 tb1 vb2 vb3) (Jd S vk0_36 tb1 vb2 vb3) (KU S vk0_36 tb1 vb2 vb3) w))) (rn S (ah S T) (pI S (ah S T) Hg) (.rc GN) [] ⟨[Pv 1, Pv 2, Pv 3, (36, .v (.clo (S.N 17) [] [.fptr (cells vk0_36)])), Cv 37 x.1, Cv 38 x.2], [Xb 1 tb1, Xb 2 vb2, (3, .box [iv vb3])], [1,2,3], [], true, 0⟩) := by
 unfold uI
 refine Ast 8 false [] Q7 [] ⟨[Pv 1, Pv 2, Pv 3, (36, .v (.clo (S.N 17) [] [.fptr (cells vk0_36)])), Cv 38 x.2, Pv 6, Pv 7], [Xb 1 tb1, Xb 2 vb2, (3, .box [iv vb3]), Xb 6 x.1, Xb 7 (⟨0, 0, 0, 0, Sl.nil⟩ : Event)], [1,2,3], [], true, 0⟩ 7 0 x.2 [iv 0, iv 0, iv 0, iv 0, .v .au] [iv x.2.kind, iv x.2.peer, iv x.2.message, iv x.2.time, cv x.2.assign] rfl (by kernel_rfl) ?_
 refine wJ (n := 1) (st' := ⟨[Pv 1, Pv 2, Pv 3, (36, .v (.clo (S.N 17) [] [.fptr (cells vk0_36)])), Pv 6, Pv 7], [Xb 1 tb1, Xb 2 vb2, (3, .box [iv vb3]), Xb 6 x.1, Xb 7 x.2], [1,2,3], [], true, 0⟩) (by kernel_rfl) ?_
 refine bg 7 [] Q6 F9 ⟨[Pv 1, Pv 2, Pv 3, (36, .v (.clo (S.N 17) [] [.fptr (cells vk0_36)])), Pv 6, Cv 39 tb1, Cv 40 x.1, Cv 41 x.2], [Xb 1 tb1, Xb 2 vb2, (3, .box [iv vb3]), Xb 6 x.1, Xb 7 x.2], [1,2,3], [], true, 0⟩ (sA (S := S) (T := T)) (tb1, x.1, x.2) rfl (by kernel_rfl) fun x_1 h_1 => ?_
 refine aJ (n := 9) (fo' := .rc C4) (fs' := F8) (t := (x_1 == 0)) (A := fun bb => ⟨[Pv 1, Pv 2, Pv 3, (36, .v (.clo (S.N 17) [] [.fptr (cells vk0_36)])), Pv 6, Iv 8 x_1, Bv 44 (!bb)], [Xb 1 tb1, Xb 2 vb2, (3, .box [iv vb3]), Xb 6 x.1, Xb 7 x.2], [1,2,3], [], true, 0⟩) (by kernel_rfl) ?_ ?_
 ·exact av (by kernel_rfl)
 ·exact av (by kernel_rfl)
theorem NJ (vk0_36 : Trace) (tb1 : Trace) (vb2 : aa) (vb3 : Int) : Le ((E2 vk0_36 tb1 vb2 vb3).bind (fun r => some [enc r.1, .int .i64 r.2])) (rn S (ah S T) (cj [.ld 2 2 true, .ld 3 1 false]) (.rc (.each (.s 36) [37,38] GN Hg)) sV (af [Pv 1, Pv 2, Pv 3, (36, .v (.clo (S.N 17) [] [.fptr (cells vk0_36)]))] [Xb 1 tb1, Xb 2 vb2, (3, .box [iv vb3])])) := by
 unfold E2
 refine CV fun its hits => ?_
 refine xk (n := 0) (g := .s 36) (fs := sV) (a := GN) (b := Hg) (ps := [37,38]) (gt := [Pv 1, Pv 2, Pv 3, (36, .v (.clo (S.N 17) [] [.fptr (cells vk0_36)]))]) (eσ := JK S vk0_36 tb1 vb2 vb3) (eε := Jd S vk0_36 tb1 vb2 vb3) (eρ := KU S vk0_36 tb1 vb2 vb3) (by kernel_rfl) (by kernel_rfl) (d7.i0 (S := S) (T := T) vk0_36 its hits) (fun _ => rfl) (fun x q => GX (by kernel_rfl) (Dn (S := S) (T := T) vk0_36 tb1 vb2 vb3 x)) ?_ ?_ ?_
 ·intro q
  refine bg 5 [] gO o0 (af [Pv 1, Pv 2, Pv 3, (36, .v (.clo (S.N 17) [] [.fptr (cells vk0_36)])), Cv 48 tb1] [Xb 1 tb1, Xb 2 vb2, (3, .box [iv vb3])]) (qX (S := S) (T := T)) tb1 rfl (by kernel_rfl) fun x_1 h_1 => ?_
  refine aJ (n := 17) (fo' := .rc C5) (fs' := mC) (t := (x_1.2.2 == 0)) (A := fun bb => (af [Pv 1, Pv 2, Pv 3, (36, .v (.clo (S.N 17) [] [.fptr (cells vk0_36)])), Pv 10, Cv 9 x_1.1, Iv 11 x_1.2.2, Bv 54 (!bb)] [Xb 1 tb1, Xb 2 vb2, (3, .box [iv vb3]), Xb 10 x_1.2.1])) (by kernel_rfl) ?_ ?_
  ·refine M6 (n := 8) (fo' := .ops false [] Q9) (fs' := ku) (A := fun oo => (af [Pv 2, Pv 3, (36, .v (.clo (S.N 17) [] [.fptr (cells vk0_36)])), Pv 10, Iv 11 x_1.2.2, Bv 54 false, Cv 58 tb1, Cv 59 oo] [Xb 1 tb1, Xb 2 vb2, (3, .box [iv vb3]), Xb 10 x_1.2.1])) (by kernel_rfl) fun x_2 h_2 => ?_
   refine bg 0 [] Q9 ku (af [Pv 2, Pv 3, (36, .v (.clo (S.N 17) [] [.fptr (cells vk0_36)])), Pv 10, Iv 11 x_1.2.2, Bv 54 false, Cv 58 tb1, Kv 59 x_2] [Xb 1 tb1, Xb 2 vb2, (3, .box [iv vb3]), Xb 10 x_1.2.1]) (vH (S := S) (T := T)) (tb1, x_2) rfl (by kernel_rfl) fun x_3 h_3 => ?_
   refine aJ (n := 13) (fo' := .rc C6) (fs' := lH) (t := x_3.2) (A := fun bb => (af [Pv 2, Pv 3, (36, .v (.clo (S.N 17) [] [.fptr (cells vk0_36)])), Pv 10, Iv 11 x_1.2.2, Bv 54 false, Pv 12, Bv 63 bb] [Xb 1 tb1, Xb 2 vb2, (3, .box [iv vb3]), Xb 10 x_1.2.1, Xb 12 x_3.1])) (by kernel_rfl) ?_ ?_
   ·exact av (by kernel_rfl)
   ·exact av (by kernel_rfl)
  ·exact av (by kernel_rfl)
 ·intro e; exact Empty.elim e
 ·intro e
  exact av (by kernel_rfl)
theorem aY (v22 : Int) (tb1 : Trace) (vb2 : aa) (vb3 : Int) (v23 : Int) : Le ((aB v22 tb1 vb2 vb3 v23).bind (fun w => some (Fw.out (cJ S v22 tb1 vb2 vb3) (cL S v22 tb1 vb2 vb3) (cM S v22 tb1 vb2 vb3) w))) (rn S (ah S T) some (.rc cg) [] (af [Pv 1, Pv 2, Pv 3, Iv 22 v22, Iv 23 v23] [Xb 1 tb1, Xb 2 vb2, (3, .box [iv vb3])])) := by
 unfold aB
 refine aJ (n := 7) (fo' := .rc C2) (fs' := F7) (t := decide (v23 < v22)) (A := fun bb => (af [Pv 1, Pv 2, Pv 3, Iv 22 v22, Iv 23 v23, Bv 24 bb] [Xb 1 tb1, Xb 2 vb2, (3, .box [iv vb3])])) (by kernel_rfl) ?_ ?_
 ·refine bg 15 [] Q5 F6 (af [Pv 1, Pv 2, Pv 3, Iv 22 v22, Iv 23 v23, Bv 24 true, Iv 4 v23, Cv 26 tb1, Iv 27 v23] [Xb 1 tb1, Xb 2 vb2, (3, .box [iv vb3])]) (qZ (S := S) (T := T)) (tb1, v23) rfl (by kernel_rfl) fun x_1 h_1 => ?_
  refine aJ (n := 9) (fo' := .rc C3) (fs' := F5) (t := (x_1 == 0)) (A := fun bb => (af [Pv 1, Pv 2, Pv 3, Iv 22 v22, Iv 23 v23, Bv 24 true, Iv 4 v23, Iv 5 x_1, Bv 30 (!bb)] [Xb 1 tb1, Xb 2 vb2, (3, .box [iv vb3])])) (by kernel_rfl) ?_ ?_
  ·exact av (by kernel_rfl)
  ·exact av (by kernel_rfl)
 ·exact av (by kernel_rfl)
theorem eo (v22 : Int) (v23 : Int) (tb1 : Trace) (vb2 : aa) (vb3 : Int) : Le ((W1 v22 v23 tb1 vb2 vb3).bind (fun r => some [enc r.1, .int .i64 r.2])) (rn S (ah S T) (cj [.ld 2 2 true, .ld 3 1 false]) (.rc (.loop cg)) t_ (af [Pv 1, Pv 2, Pv 3, Iv 22 v22, Iv 23 v23] [Xb 1 tb1, Xb 2 vb2, (3, .box [iv vb3])])) := by
 unfold W1
 refine eJ (n := 0) (fs := t_) (a := cg) (eσ := cJ S v22 tb1 vb2 vb3) (eε := cL S v22 tb1 vb2 vb3) (eρ := cM S v22 tb1 vb2 vb3) (by kernel_rfl) (fun q => aY v22 tb1 vb2 vb3 q) ?_ ?_
 ·intro e
  refine bg 6 [] Q8 jo (af [Pv 1, Pv 2, Pv 3, Cv 35 tb1] [Xb 1 tb1, Xb 2 vb2, (3, .box [iv vb3])]) (jW (S := S) (T := T)) tb1 rfl (by kernel_rfl) fun x_1 h_1 => ?_
  exact eY (n := 4) (by kernel_rfl) (NJ x_1 tb1 vb2 vb3)
 ·intro e
  exact av (by kernel_rfl)
end
end dn
noncomputable def dn (t0 : Trace) : Option (aa × Int) :=
 (e7 (len t0.procs) 1 8).bind fun x_1 =>
 aL x_1
 (dn.W1 (len t0.procs) 0 t0 (⟨0, 0⟩ : aa) 0)
 (some (⟨0, 0⟩, 1))
open dn in
theorem yp {S : Sys} {T : az} [d7 S T] (t0 : Trace) : Le ((dn t0).bind fun r => some [enc r.1, .int .i64 r.2]) (bl (ah S T) (S.N 29) [enc t0]) := by
 refine cZ (d7.t (S := S) (T := T)) (Nat.le_of_ble_eq_true rfl) ?_
 unfold dn
 refine gm 2 false [] Q4 F4 (af [Cv 0 t0] []) t0 rfl (by kernel_rfl) (by kernel_rfl) ?_
 refine dP 9 false [] Q3 F3 (af [Pv 1, Pv 2, Pv 3, Cv 15 t0.procs] [Xb 1 t0, Xb 2 (⟨0, 0⟩ : aa), (3, .box [iv 0])]) t0.procs rfl (by kernel_rfl) ?_
 refine bg 0 [] Q2 F3 (af [Pv 1, Pv 2, Pv 3, Iv 16 (len t0.procs)] [Xb 1 t0, Xb 2 (⟨0, 0⟩ : aa), (3, .box [iv 0])]) (jd (S := S) (T := T)) (len t0.procs, 1, 8) rfl (by kernel_rfl) fun x_1 h_1 => ?_
 refine aJ (n := 3) (fo' := .rc C1) (fs' := F2) (t := x_1) (A := fun bb => (af [Pv 1, Pv 2, Pv 3, Bv 18 (!bb)] [Xb 1 t0, Xb 2 (⟨0, 0⟩ : aa), (3, .box [iv 0])])) (by kernel_rfl) ?_ ?_
 ·refine dP 8 false [] Q1 F1 (af [Pv 1, Pv 2, Pv 3, Bv 18 false, Cv 21 t0.procs] [Xb 1 t0, Xb 2 (⟨0, 0⟩ : aa), (3, .box [iv 0])]) t0.procs rfl (by kernel_rfl) ?_
  exact eY (n := 5) (by kernel_rfl) (eo (len t0.procs) 0 t0 (⟨0, 0⟩ : aa) 0)
 ·exact av (by kernel_rfl)
theorem wT {S : Sys} {T : az} [d7 S T] : dS S (ah S T) (S.N 29) (fun z : Trace => [enc z]) (fun r : aa × Int => [enc r.1, .int .i64 r.2]) (fun z => dn z) true where
 k := d7.k (S := S) (T := T)
 h z := yp z
 l z := by simp
 r r := by simp
 s h r := by kernel_rfl
namespace cB
def Q2 : List RO := o2 1 (.a .box) [0] [0] ::
 o1 2 (.k (.bool false)) [2] ::
 []
def Q1 : List RO := o2 7 .c [.f 29, 6] [6] ::
 o1 5 7 [7] ::
 o2 8 (.p (.ext 0)) [5] [] ::
 o2 9 (.p (.ext 1)) [5] [5] ::
 o2 3 (.a (.alloc 2 [.int .i64 0, .int .i64 0])) [] [] ::
 oz (su 2) [3, 8] [3,8] ::
 o1 4 9 [9] ::
 []
def U1 : RC := .seq (.ops (o1 10 4 [4] ::
 o2 11 (bI .eql) [10, .k (.int .i64 0)] [10] ::
 o1 2 11 [11] ::
 [])) (.ret)
def U2 : RC := .seq (.ops (o2 6 (lD 1) [1] [1] ::
 Q1)) (U1)
def text : RF := ⟨12, [.s 2], .seq (.ops Q2) (U2)⟩
def F1 : List Fm := [.seq U1]
def F2 : List Fm := [.seq U2]
end cB
class fX (S : Sys) (T : az) : Prop where
 t : T (S.N 30) = some cB.text
 k : S.E.keep (S.N 30) = false
 c0 : d7 S T
attribute [instance] fX.c0
namespace cB
section
variable {S : Sys} {T : az} [fX S T]
end
end cB
noncomputable def cB (t0 : Trace) : Option Bool :=
 (dn t0).bind fun x_1 =>
 some (x_1.2 == 0)
open cB in
theorem yT {S : Sys} {T : az} [fX S T] (t0 : Trace) : Le ((cB t0).bind fun r => some [.bool r]) (bl (ah S T) (S.N 30) [enc t0]) := by
 refine cZ (fX.t (S := S) (T := T)) (Nat.le_of_ble_eq_true rfl) ?_
 unfold cB
 refine gm 2 false [] Q2 F2 (af [Cv 0 t0] []) t0 rfl (by kernel_rfl) (by kernel_rfl) ?_
 refine bg 6 [] Q1 F1 (af [Cv 6 t0] [Xb 1 t0]) (wT (S := S) (T := T)) t0 rfl (by kernel_rfl) fun x_1 h_1 => ?_
 exact av (by kernel_rfl)
theorem mN {S : Sys} {T : az} [fX S T] : dS S (ah S T) (S.N 30) (fun z : Trace => [enc z]) (fun r : Bool => [.bool r]) (fun z => cB z) true where
 k := fX.k (S := S) (T := T)
 h z := yT z
 l z := by simp
 r r := by simp
 s h r := by kernel_rfl
namespace dN
def Q1 : List RO := o2 8 ln [7] [7] ::
 o2 9 (bI .neq) [5, 8] [5,8] ::
 o1 3 9 [9] ::
 []
def Q2 : List RO := o2 5 ln [4] [4] ::
 o2 6 (fa 0) [1] [1] ::
 o2 7 (ld 1) [6] [6] ::
 Q1
def text : RF := ⟨10, [.s 3], .seq (.ops (o1 3 (.k (.bool false)) [3] ::
 [])) (.seq (.ops (o1 4 0 [0] ::
 Q2)) (.ret))⟩
def F1 : List Fm := [.seq .ret]
end dN
class hG (S : Sys) (T : az) : Prop where
 t : T (S.N 36) = some dN.text
 k : S.E.keep (S.N 36) = false
namespace dN
section
variable {S : Sys} {T : az} [hG S T]
end
end dN
noncomputable def dN (c0 : Sl Int) (v1 : Trace) : Option Bool :=
 some (!((len c0) == (len v1.procs)))
open dN in
theorem x7 {S : Sys} {T : az} [hG S T] (c0 : Sl Int) (v1 : Trace) : Le ((dN c0 v1).bind fun r => some [.bool r]) (bl (ah S T) (S.N 36) [enc c0, .fptr (cells v1)]) := by
 refine cZ (hG.t (S := S) (T := T)) (Nat.le_of_ble_eq_true rfl) ?_
 unfold dN
 refine dP 8 false [] Q2 F1 (af [Kv 1 v1, Cv 4 c0] []) c0 rfl (by kernel_rfl) ?_
 refine dP 2 false [] Q1 F1 (af [Iv 5 (len c0), Cv 7 v1.procs] []) v1.procs rfl (by kernel_rfl) ?_
 exact av (by kernel_rfl)
theorem vC {S : Sys} {T : az} [hG S T] : dS S (ah S T) (S.N 36) (fun z : (Sl Int) × Trace => [enc z.1, .fptr (cells z.2)]) (fun r : Bool => [.bool r]) (fun z => dN z.1 z.2) true where
 k := hG.k (S := S) (T := T)
 h z := x7 z.1 z.2
 l z := by simp
 r r := by simp
 s h r := by kernel_rfl
end Go.VE
