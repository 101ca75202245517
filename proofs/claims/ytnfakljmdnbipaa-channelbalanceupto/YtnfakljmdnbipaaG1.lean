/-
 Each function of the program that the law reaches: its text, its plain form, and that it comes to that.
-/
import Derived.Test.YtnfakljmdnbipaaGA
set_option linter.all false
namespace Go.VE
namespace bG
def Q1 : List RO := o2 7 ln [6] [6] ::
 o1 8 (.k (.int .i64 0)) [] ::
 []
def C1 : RC := .cond (.s 9) (.skip) (.gh (.keep [] []) (.exit 0))
def Q2 : List RO := o2 16 .c [11, 15] [11,15] ::
 []
def Q3 : List RO := o2 14 (ix 1) [12, 13] [12,13] ::
 o2 15 (ld 1) [14] [14] ::
 Q2
def C2 : RC := .cond (.s 16) (.seq (.ops (o1 17 5 [5] ::
 o1 4 17 [17] ::
 [])) (.gh (.keep [4] []) (.ret))) (.skip)
def U1 : RC := .seq (.ops (o1 11 1 [] ::
 o1 12 0 [] ::
 o1 13 5 [] ::
 Q3)) (C2)
def U2 : RC := .ops (o2 18 (bI .add) [8, .k (.int .i64 1)] [8] ::
 o1 8 18 [18] ::
 [])
def U3 : RC := .seq (.block 1 (.seq (.ops (o1 10 8 [] ::
 o1 5 10 [10] ::
 [])) (U1))) (U2)
def cg : RC := .hg (.seq (.ops (o2 9 (bI .lss) [8, 7] [] ::
 [])) (.seq (C1) (U3))) (.keep [0,1,7,8] [])
def U4 : RC := .block 0 (.gh (.keep [0,1,7,8] []) (.loop cg))
def U5 : RC := .seq (.ops (o1 4 (.k (.int .i64 (-1))) [] ::
 [])) (.gh (.keep [4] []) (.ret))
def U6 : RC := .seq (.seq (.ops (o1 6 0 [] ::
 Q1)) (U4)) (U5)
def text : RF := ⟨19, [.s 4], .seq (.ops (o1 4 (.k (.int .i64 0)) [4] ::
 [])) (U6)⟩
def F1 : List Fm := [.seq U4, .seq U5]
def F4 : List Fm := [.seq U3, .gst (.keep [0,1,7,8] [])]
def F5 : List Fm := [.blk 0, .seq U5]
def F2 : List Fm := [.blk 1, .seq U2, .gst (.keep [0,1,7,8] [])]
def F3 : List Fm := .seq C2 :: F2
end bG
class eD (S : Sys) (T : az) : Prop where
 t : T (S.N 37) = some bG.text
 k : S.E.keep (S.N 37) = false
namespace bG
section
variable {S : Sys} {T : az} [eD S T]
noncomputable def aB (s0 : Sl (Sl Int)) (v7 : Int) (v8 : Int) (p1 : (Sl Int) → Option Bool) : Option (Fw Int Unit Int) :=
 aL (decide (v8 < v7))
 ((idx s0 v8).bind fun x_1 =>
 (p1 x_1).bind fun x_2 =>
 aL x_2
 (some (.r v8))
 (some (.n (IntKind.wrap .i64 (v8 + 1)))))
 (some (.x ()))
noncomputable def W1 (s0 : Sl (Sl Int)) (v7 : Int) (v8 : Int) (p1 : (Sl Int) → Option Bool) : Option Int :=
 (cW (fun q : Int => aB s0 v7 q p1) v8).bind (Fw.elim
 (fun e => some (-1))
 (fun e => some e))
def cJ (S : Sys) (g1 : FuncId) (e1 : List V) (s0 : Sl (Sl Int)) (v7 : Int) : Int → St := fun q => (af [Cv 0 s0, (1, .v (.clo g1 [] e1)), Iv 7 v7, Iv 8 q] [])
def cL (S : Sys) (g1 : FuncId) (e1 : List V) (s0 : Sl (Sl Int)) (v7 : Int) : Unit → Nat × St := fun e => (0, (af [] []))
def cM (S : Sys) (g1 : FuncId) (e1 : List V) (s0 : Sl (Sl Int)) (v7 : Int) : Int → St := fun e => (af [Iv 4 e] [])
theorem aY (g1 : FuncId) (e1 : List V) (p1 : (Sl Int) → Option Bool) (h1 : fZ S (ah S T) g1 e1 (fun z : Sl Int => [enc z]) (fun r : Bool => [.bool r]) p1) (s0 : Sl (Sl Int)) (v7 : Int) (v8 : Int) : Le ((aB s0 v7 v8 p1).bind (fun w => some (Fw.out (cJ S g1 e1 s0 v7) (cL S g1 e1 s0 v7) (cM S g1 e1 s0 v7) w))) (rn S (ah S T) some (.rc cg) [] (af [Cv 0 s0, (1, .v (.clo g1 [] e1)), Iv 7 v7, Iv 8 v8] [])) := by
 unfold aB
 refine aJ (n := 7) (fo' := .rc C1) (fs' := F4) (t := decide (v8 < v7)) (A := fun bb => (af [Cv 0 s0, (1, .v (.clo g1 [] e1)), Iv 7 v7, Iv 8 v8, Bv 9 bb] [])) (by kernel_rfl) ?_ ?_
 ·refine ey 16 false [] Q3 F3 (af [Cv 0 s0, (1, .v (.clo g1 [] e1)), Iv 7 v7, Iv 8 v8, Bv 9 true, Iv 5 v8, (11, .v (.clo g1 [] e1)), Cv 12 s0, Iv 13 v8] []) .i64 rfl (by kernel_rfl) fun x_1 h_1 => ?_
  refine rQ 1 false [] Q2 F3 (af [Cv 0 s0, (1, .v (.clo g1 [] e1)), Iv 7 v7, Iv 8 v8, Bv 9 true, Iv 5 v8, (11, .v (.clo g1 [] e1)), Cv 15 x_1] []) h1.f x_1 e1 [enc x_1] rfl rfl (by kernel_rfl) fun x_2 h_2 => ?_
  refine aJ (n := 2) (fo' := .rc C2) (fs' := F2) (t := x_2) (A := fun bb => (af [Cv 0 s0, (1, .v (.clo g1 [] e1)), Iv 7 v7, Iv 8 v8, Bv 9 true, Iv 5 v8, Bv 16 bb] [])) (by kernel_rfl) ?_ ?_
  ·exact av (by kernel_rfl)
  ·exact av (by kernel_rfl)
 ·exact av (by kernel_rfl)
theorem eo (g1 : FuncId) (e1 : List V) (p1 : (Sl Int) → Option Bool) (h1 : fZ S (ah S T) g1 e1 (fun z : Sl Int => [enc z]) (fun r : Bool => [.bool r]) p1) (s0 : Sl (Sl Int)) (v7 : Int) (v8 : Int) : Le ((W1 s0 v7 v8 p1).bind (fun r => some [.int .i64 r])) (rn S (ah S T) (cj [.s 4]) (.rc (.loop cg)) F5 (af [Cv 0 s0, (1, .v (.clo g1 [] e1)), Iv 7 v7, Iv 8 v8] [])) := by
 unfold W1
 refine eJ (n := 0) (fs := F5) (a := cg) (eσ := cJ S g1 e1 s0 v7) (eε := cL S g1 e1 s0 v7) (eρ := cM S g1 e1 s0 v7) (by kernel_rfl) (fun q => aY g1 e1 p1 h1 s0 v7 q) ?_ ?_
 ·intro e
  exact av (by kernel_rfl)
 ·intro e
  exact av (by kernel_rfl)
end
end bG
noncomputable def bG (s0 : Sl (Sl Int)) (p1 : (Sl Int) → Option Bool) : Option Int :=
 bG.W1 s0 (len s0) 0 p1
open bG in
theorem qc {S : Sys} {T : az} [eD S T] (g1 : FuncId) (e1 : List V) (p1 : (Sl Int) → Option Bool) (h1 : fZ S (ah S T) g1 e1 (fun z : Sl Int => [enc z]) (fun r : Bool => [.bool r]) p1) (s0 : Sl (Sl Int)) : Le ((bG s0 p1).bind fun r => some [.int .i64 r]) (bl (ah S T) (S.N 37) [enc s0, .clo g1 [] e1]) := by
 refine cZ (eD.t (S := S) (T := T)) (Nat.le_of_ble_eq_true rfl) ?_
 unfold bG
 refine dP 9 false [] Q1 F1 (af [Cv 0 s0, (1, .v (.clo g1 [] e1)), Cv 6 s0] []) s0 rfl (by kernel_rfl) ?_
 exact eY (n := 5) (by kernel_rfl) (eo g1 e1 p1 h1 s0 (len s0) 0)
theorem pC {S : Sys} {T : az} [eD S T] (g1 : FuncId) (e1 : List V) (p1 : (Sl Int) → Option Bool) (h1 : fZ S (ah S T) g1 e1 (fun z : Sl Int => [enc z]) (fun r : Bool => [.bool r]) p1) : dS S (ah S T) (S.N 37) (fun z : Sl (Sl Int) => [enc z, .clo g1 [] e1]) (fun r : Int => [.int .i64 r]) (fun z => bG z p1) true where
 k := eD.k (S := S) (T := T)
 h z := qc g1 e1 p1 h1 z
 l z := by simp [h1.d]
 r r := by simp
 s h r := by kernel_rfl
namespace aV
def Q1 : List RO := o2 7 .c [.f 37, 5, 6] [5,6] ::
 o2 8 (bI .geq) [7, .k (.int .i64 0)] [7] ::
 o1 4 8 [8] ::
 []
def U1 : RC := .seq (.ops (o1 5 0 [0] ::
 o1 6 1 [1] ::
 Q1)) (.ret)
def text : RF := ⟨9, [.s 4], .seq (.ops (o1 4 (.k (.bool false)) [4] ::
 [])) (U1)⟩
def F1 : List Fm := [.seq .ret]
end aV
class cy (S : Sys) (T : az) : Prop where
 t : T (S.N 38) = some aV.text
 k : S.E.keep (S.N 38) = false
 c0 : eD S T
attribute [instance] cy.c0
namespace aV
section
variable {S : Sys} {T : az} [cy S T]
end
end aV
noncomputable def aV (s0 : Sl (Sl Int)) (p1 : (Sl Int) → Option Bool) : Option Bool :=
 (bG s0 p1).bind fun x_1 =>
 some (decide (x_1 ≥ 0))
open aV in
theorem oF {S : Sys} {T : az} [cy S T] (g1 : FuncId) (e1 : List V) (p1 : (Sl Int) → Option Bool) (h1 : fZ S (ah S T) g1 e1 (fun z : Sl Int => [enc z]) (fun r : Bool => [.bool r]) p1) (s0 : Sl (Sl Int)) : Le ((aV s0 p1).bind fun r => some [.bool r]) (bl (ah S T) (S.N 38) [enc s0, .clo g1 [] e1]) := by
 refine cZ (cy.t (S := S) (T := T)) (Nat.le_of_ble_eq_true rfl) ?_
 unfold aV
 refine bg 9 [] Q1 F1 (af [Cv 5 s0, (6, .v (.clo g1 [] e1))] []) (pC (S := S) (T := T) g1 e1 p1 h1) s0 rfl (by kernel_rfl) fun x_1 h_1 => ?_
 exact av (by kernel_rfl)
theorem jJ {S : Sys} {T : az} [cy S T] (g1 : FuncId) (e1 : List V) (p1 : (Sl Int) → Option Bool) (h1 : fZ S (ah S T) g1 e1 (fun z : Sl Int => [enc z]) (fun r : Bool => [.bool r]) p1) : dS S (ah S T) (S.N 38) (fun z : Sl (Sl Int) => [enc z, .clo g1 [] e1]) (fun r : Bool => [.bool r]) (fun z => aV z p1) true where
 k := cy.k (S := S) (T := T)
 h z := oF g1 e1 p1 h1 z
 l z := by simp [h1.d]
 r r := by simp
 s h r := by kernel_rfl
namespace gE
def Q5 : List RO := o2 2 (.a .box) [0] [0] ::
 o1 4 (.k (.bool false)) [4] ::
 []
def Q3 : List RO := o1 4 12 [12] ::
 []
def Q2 : List RO := o3 10 7 true .c [.f 38, 8, 9] [8,9] ::
 o3 11 7 true (.p (.not)) [10] [10] ::
 o2 12 (.p (.pick)) [7, 11, .k (.bool false)] [7,11] ::
 Q3
def Q1 : List RO := o3 8 7 true (.p (.id)) [1] [1] ::
 o3 9 7 true (.p (.clo 36 0)) [2] [2] ::
 Q2
def Q4 : List RO := o2 6 .c [.f 30, 5] [5] ::
 o1 7 6 [6] ::
 Q1
def U1 : RC := .seq (.ops (o2 5 (lD 1) [2] [] ::
 Q4)) (.ret)
def text : RF := ⟨13, [.s 4], .seq (.ops Q5) (U1)⟩
def F1 : List Fm := [.seq .ret]
def F2 : List Fm := [.seq U1]
end gE
class gP (S : Sys) (T : az) : Prop where
 t : T (S.N 39) = some gE.text
 k : S.E.keep (S.N 39) = false
 c0 : hG S T
 c1 : fX S T
 c2 : cy S T
attribute [instance] gP.c0 gP.c1 gP.c2
namespace gE
section
variable {S : Sys} {T : az} [gP S T]
end
end gE
noncomputable def gE (t0 : Trace) (l1 : Sl (Sl Int)) : Option Bool :=
 (cB t0).bind fun x_1 =>
 (aL x_1
 ((aV l1 (fun z => dN z t0)).bind fun x_2 =>
 some (!x_2))
 (some false) : Option Bool).bind fun x_3 =>
 some x_3
open gE in
theorem Bt {S : Sys} {T : az} [gP S T] (t0 : Trace) (l1 : Sl (Sl Int)) : Le ((gE t0 l1).bind fun r => some [.bool r]) (bl (ah S T) (S.N 39) [enc t0, enc l1]) := by
 refine cZ (gP.t (S := S) (T := T)) (Nat.le_of_ble_eq_true rfl) ?_
 unfold gE
 refine gm 2 false [] Q5 F2 (af [Cv 0 t0, Cv 1 l1] []) t0 rfl (by kernel_rfl) (by kernel_rfl) ?_
 refine bg 6 [] Q4 F1 (af [Cv 1 l1, Pv 2, Cv 5 t0] [Xb 2 t0]) (mN (S := S) (T := T)) t0 rfl (by kernel_rfl) fun x_1 h_1 => ?_
 refine dw (fun x_3 => rn S (ah S T) (cj [.s 4]) (.ops false [] Q3) F1 (af [Bv 12 x_3] [Xb 2 t0])) ?_ fun x_3 => ?_
 ·refine aJ (n := 1) (fo' := .ops false [] Q1) (fs' := F1) (t := x_1) (A := fun bb => (af [Cv 1 l1, Pv 2, Bv 7 bb] [Xb 2 t0])) (by kernel_rfl) ?_ ?_
  ·refine kK 2 false [] Q2 F1 (af [Bv 7 true, Cv 8 l1, (9, .clo (S.N 36) [] [.ptr 2 0])] [Xb 2 t0]) (jJ (S := S) (T := T) (S.N 36) [.fptr (cells t0)] (fun z => dN z t0) (fZ.of (vC (S := S) (T := T)) (fun z => (z, t0)) (fun _ => rfl) (fun _ => rfl) (by simp))) l1 [.v (.clo (S.N 38) [] []), cv l1, .clo (S.N 36) [] [.ptr 2 0]] [cv l1, .clo (S.N 36) [] [.ptr 2 0]] rfl (by kernel_rfl) fun x_2 h_2 => ?_
   exact bp (n := 2) (by kernel_rfl) rfl
  ·exact bp (n := 5) (by kernel_rfl) rfl
 ·exact av (by kernel_rfl)
theorem zW {S : Sys} {T : az} [gP S T] : dS S (ah S T) (S.N 39) (fun z : Trace × (Sl (Sl Int)) => [enc z.1, enc z.2]) (fun r : Bool => [.bool r]) (fun z => gE z.1 z.2) true where
 k := gP.k (S := S) (T := T)
 h z := Bt z.1 z.2
 l z := by simp
 r r := by simp
 s h r := by kernel_rfl
namespace dY
def Q3 : List RO := o2 2 (.a .box) [0] [0] ::
 o1 4 (.k (.bool false)) [4] ::
 []
def Q2 : List RO := o2 8 ln [7] [] ::
 o1 9 (.k (.int .i64 0)) [] ::
 []
def C1 : RC := .cond (.s 10) (.skip) (.gh (.keep [] []) (.exit 0))
def Q6 : List RO := o2 12 (ix 1) [7, 9] [] ::
 o2 13 (ld 1) [12] [12] ::
 o1 5 11 [11] ::
 o1 6 13 [13] ::
 []
def Q4 : List RO := o3 24 16 false ln [23] [23] ::
 o3 25 16 false (bI .gtr) [17, 24] [17,24] ::
 o2 26 (.p (.pick)) [16, .k (.bool true), 25] [16,25] ::
 []
def Q5 : List RO := o3 21 16 false (ix 3) [19, 20] [19,20] ::
 o3 22 16 false (fa 2) [21] [21] ::
 o3 23 16 false (ld 1) [22] [22] ::
 Q4
def Q1 : List RO := o3 17 16 false (.p (.id)) [6] [6] ::
 o3 18 16 false (fa 0) [2] [] ::
 o3 19 16 false (ld 1) [18] [18] ::
 o3 20 16 false (.p (.id)) [5] [5] ::
 Q5
def C2 : RC := .cond (.s 26) (.seq (.ops (o1 4 (.k (.bool false)) [] ::
 [])) (.gh (.keep [4] []) (.ret))) (.skip)
def U1 : RC := .seq (.ops (o1 14 6 [] ::
 o2 15 (bI .lss) [14, .k (.int .i64 0)] [14] ::
 o1 16 15 [15] ::
 Q1)) (C2)
def U2 : RC := .ops (o2 27 (bI .add) [9, .k (.int .i64 1)] [9] ::
 o1 9 27 [27] ::
 [])
def U3 : RC := .seq (.block 1 (.seq (.ops (o1 11 9 [] ::
 Q6)) (U1))) (U2)
def cg : RC := .hg (.seq (.ops (o2 10 (bI .lss) [9, 8] [] ::
 [])) (.seq (C1) (U3))) (.keep [2,7,8,9] [2])
def U4 : RC := .block 0 (.gh (.keep [2,7,8,9] [2]) (.loop cg))
def U5 : RC := .seq (.ops (o1 4 (.k (.bool true)) [] ::
 [])) (.gh (.keep [4] []) (.ret))
def U6 : RC := .seq (.seq (.ops (o1 7 1 [1] ::
 Q2)) (U4)) (U5)
def text : RF := ⟨28, [.s 4], .seq (.ops Q3) (U6)⟩
def F3 : List Fm := [.seq U6]
def F2 : List Fm := [.seq U4, .seq U5]
def F6 : List Fm := [.seq U3, .gst (.keep [2,7,8,9] [2])]
def F7 : List Fm := [.blk 0, .seq U5]
def F4 : List Fm := [.blk 1, .seq U2, .gst (.keep [2,7,8,9] [2])]
def F1 : List Fm := .seq C2 :: F4
def F5 : List Fm := .seq U1 :: F4
end dY
class iB (S : Sys) (T : az) : Prop where
 t : T (S.N 40) = some dY.text
 k : S.E.keep (S.N 40) = false
namespace dY
section
variable {S : Sys} {T : az} [iB S T]
noncomputable def aB (v7 : Sl Int) (v8 : Int) (tb2 : Trace) (v9 : Int) : Option (Fw Int Unit Unit) :=
 aL (decide (v9 < v8))
 ((idx v7 v9).bind fun x_1 =>
 (aL (decide (x_1 < 0))
 (some true)
 ((idx tb2.procs v9).bind fun x_2 =>
 some (decide (x_1 > (len x_2.events)))) : Option Bool).bind fun x_3 =>
 aL x_3
 (some (.r ()))
 (some (.n (IntKind.wrap .i64 (v9 + 1)))))
 (some (.x ()))
noncomputable def W1 (v7 : Sl Int) (v8 : Int) (v9 : Int) (tb2 : Trace) : Option Bool :=
 (cW (fun q : Int => aB v7 v8 tb2 q) v9).bind (Fw.elim
 (fun e => some true)
 (fun e => some false))
def cJ (S : Sys) (v7 : Sl Int) (v8 : Int) (tb2 : Trace) : Int → St := fun q => (af [Pv 2, Cv 7 v7, Iv 8 v8, Iv 9 q] [Xb 2 tb2])
def cL (S : Sys) (v7 : Sl Int) (v8 : Int) (tb2 : Trace) : Unit → Nat × St := fun e => (0, (af [] []))
def cM (S : Sys) (v7 : Sl Int) (v8 : Int) (tb2 : Trace) : Unit → St := fun e => (af [Bv 4 false] [])
theorem aY (v7 : Sl Int) (v8 : Int) (tb2 : Trace) (v9 : Int) : Le ((aB v7 v8 tb2 v9).bind (fun w => some (Fw.out (cJ S v7 v8 tb2) (cL S v7 v8 tb2) (cM S v7 v8 tb2) w))) (rn S (ah S T) some (.rc cg) [] (af [Pv 2, Cv 7 v7, Iv 8 v8, Iv 9 v9] [Xb 2 tb2])) := by
 unfold aB
 refine aJ (n := 7) (fo' := .rc C1) (fs' := F6) (t := decide (v9 < v8)) (A := fun bb => (af [Pv 2, Cv 7 v7, Iv 8 v8, Iv 9 v9, Bv 10 bb] [Xb 2 tb2])) (by kernel_rfl) ?_ ?_
 ·refine ey 8 false [] Q6 F5 (af [Pv 2, Cv 7 v7, Iv 8 v8, Iv 9 v9, Bv 10 true, Iv 11 v9] [Xb 2 tb2]) .i64 rfl (by kernel_rfl) fun x_1 h_1 => ?_
  refine dw (fun x_3 => rn S (ah S T) some (.ops false [] []) F1 (af [Pv 2, Cv 7 v7, Iv 8 v8, Iv 9 v9, Bv 10 true, Bv 26 x_3] [Xb 2 tb2])) ?_ fun x_3 => ?_
  ·refine aJ (n := 10) (fo' := .ops false [] Q1) (fs' := F1) (t := decide (x_1 < 0)) (A := fun bb => (af [Pv 2, Cv 7 v7, Iv 8 v8, Iv 9 v9, Bv 10 true, Iv 5 v9, Iv 6 x_1, Bv 16 bb] [Xb 2 tb2])) (by kernel_rfl) ?_ ?_
   ·exact bp (n := 10) (by kernel_rfl) rfl
   ·refine ey 4 false [] Q5 F1 (af [Pv 2, Cv 7 v7, Iv 8 v8, Iv 9 v9, Bv 10 true, Bv 16 false, Iv 17 x_1, Cv 19 tb2.procs, Iv 20 v9] [Xb 2 tb2]) .i64 rfl (by kernel_rfl) fun x_2 h_2 => ?_
    refine dP 2 false [] Q4 F1 (af [Pv 2, Cv 7 v7, Iv 8 v8, Iv 9 v9, Bv 10 true, Bv 16 false, Iv 17 x_1, Cv 23 x_2.events] [Xb 2 tb2]) x_2.events rfl (by kernel_rfl) ?_
    exact bp (n := 2) (by kernel_rfl) rfl
  ·refine aJ (n := 2) (fo' := .rc C2) (fs' := F4) (t := x_3) (A := fun bb => (af [Pv 2, Cv 7 v7, Iv 8 v8, Iv 9 v9, Bv 10 true, Bv 26 bb] [Xb 2 tb2])) (by kernel_rfl) ?_ ?_
   ·exact av (by kernel_rfl)
   ·exact av (by kernel_rfl)
 ·exact av (by kernel_rfl)
theorem eo (v7 : Sl Int) (v8 : Int) (v9 : Int) (tb2 : Trace) : Le ((W1 v7 v8 v9 tb2).bind (fun r => some [.bool r])) (rn S (ah S T) (cj [.s 4]) (.rc (.loop cg)) F7 (af [Pv 2, Cv 7 v7, Iv 8 v8, Iv 9 v9] [Xb 2 tb2])) := by
 unfold W1
 refine eJ (n := 0) (fs := F7) (a := cg) (eσ := cJ S v7 v8 tb2) (eε := cL S v7 v8 tb2) (eρ := cM S v7 v8 tb2) (by kernel_rfl) (fun q => aY v7 v8 tb2 q) ?_ ?_
 ·intro e
  exact av (by kernel_rfl)
 ·intro e
  exact av (by kernel_rfl)
end
end dY
noncomputable def dY (t0 : Trace) (c1 : Sl Int) : Option Bool :=
 dY.W1 c1 (len c1) 0 t0
open dY in
theorem yD {S : Sys} {T : az} [iB S T] (t0 : Trace) (c1 : Sl Int) : Le ((dY t0 c1).bind fun r => some [.bool r]) (bl (ah S T) (S.N 40) [enc t0, enc c1]) := by
 refine cZ (iB.t (S := S) (T := T)) (Nat.le_of_ble_eq_true rfl) ?_
 unfold dY
 refine gm 2 false [] Q3 F3 (af [Cv 0 t0, Cv 1 c1] []) t0 rfl (by kernel_rfl) (by kernel_rfl) ?_
 refine dP 7 false [] Q2 F2 (af [Pv 2, Cv 7 c1] [Xb 2 t0]) c1 rfl (by kernel_rfl) ?_
 exact eY (n := 5) (by kernel_rfl) (eo c1 (len c1) 0 t0)
theorem xx {S : Sys} {T : az} [iB S T] : dS S (ah S T) (S.N 40) (fun z : Trace × (Sl Int) => [enc z.1, enc z.2]) (fun r : Bool => [.bool r]) (fun z => dY z.1 z.2) true where
 k := iB.k (S := S) (T := T)
 h z := yD z.1 z.2
 l z := by simp
 r r := by simp
 s h r := by kernel_rfl
namespace fY
def Q4 : List RO := o2 2 (.a .box) [0] [0] ::
 o1 4 (.k (.bool false)) [4] ::
 []
def Q3 : List RO := o1 4 13 [13] ::
 []
def Q2 : List RO := o3 11 7 true ln [10] [10] ::
 o3 12 7 true (bI .lss) [8, 11] [8,11] ::
 o2 13 (.p (.pick)) [7, 12, .k (.bool false)] [7,12] ::
 Q3
def Q1 : List RO := o3 8 7 true (.p (.id)) [1] [1] ::
 o3 9 7 true (fa 0) [2] [2] ::
 o3 10 7 true (ld 1) [9] [9] ::
 Q2
def U1 : RC := .seq (.ops (o1 5 1 [] ::
 o2 6 (bI .geq) [5, .k (.int .i64 0)] [5] ::
 o1 7 6 [6] ::
 Q1)) (.ret)
def text : RF := ⟨14, [.s 4], .seq (.ops Q4) (U1)⟩
def F1 : List Fm := [.seq .ret]
def F2 : List Fm := [.seq U1]
end fY
class iH (S : Sys) (T : az) : Prop where
 t : T (S.N 41) = some fY.text
 k : S.E.keep (S.N 41) = false
namespace fY
section
variable {S : Sys} {T : az} [iH S T]
end
end fY
noncomputable def fY (t0 : Trace) (p1 : Int) : Option Bool :=
 (aL (decide (p1 ≥ 0))
 (some (decide (p1 < (len t0.procs))))
 (some false) : Option Bool).bind fun x_1 =>
 some x_1
open fY in
theorem yW {S : Sys} {T : az} [iH S T] (t0 : Trace) (p1 : Int) : Le ((fY t0 p1).bind fun r => some [.bool r]) (bl (ah S T) (S.N 41) [enc t0, .int .i64 p1]) := by
 refine cZ (iH.t (S := S) (T := T)) (Nat.le_of_ble_eq_true rfl) ?_
 unfold fY
 refine gm 2 false [] Q4 F2 (af [Cv 0 t0, Iv 1 p1] []) t0 rfl (by kernel_rfl) (by kernel_rfl) ?_
 refine dw (fun x_1 => rn S (ah S T) (cj [.s 4]) (.ops false [] Q3) F1 (af [Bv 13 x_1] [Xb 2 t0])) ?_ fun x_1 => ?_
 ·refine aJ (n := 8) (fo' := .ops false [] Q1) (fs' := F1) (t := decide (p1 ≥ 0)) (A := fun bb => (af [Iv 1 p1, Pv 2, Bv 7 bb] [Xb 2 t0])) (by kernel_rfl) ?_ ?_
  ·refine dP 3 false [] Q2 F1 (af [Bv 7 true, Iv 8 p1, Cv 10 t0.procs] [Xb 2 t0]) t0.procs rfl (by kernel_rfl) ?_
   exact bp (n := 2) (by kernel_rfl) rfl
  ·exact bp (n := 6) (by kernel_rfl) rfl
 ·exact av (by kernel_rfl)
theorem xh {S : Sys} {T : az} [iH S T] : dS S (ah S T) (S.N 41) (fun z : Trace × Int => [enc z.1, .int .i64 z.2]) (fun r : Bool => [.bool r]) (fun z => fY z.1 z.2) true where
 k := iH.k (S := S) (T := T)
 h z := yW z.1 z.2
 l z := by simp
 r r := by simp
 s h r := by kernel_rfl
namespace eU
def Q4 : List RO := o2 3 (.a .box) [0] [0] ::
 o2 4 (.a .box) [1] [1] ::
 o2 5 (.a .box) [2] [2] ::
 o2 6 (.a (.alloc 2 [.int .i64 0, .int .i64 0])) [] [] ::
 o2 7 (.a (.alloc 1 [.bool false])) [] [] ::
 []
def Q3 : List RO := o2 11 .c [.f 30, 10] [10] ::
 o2 12 (.p (.not)) [11] [11] ::
 []
def C1 : RC := .cond (.s 12) (.seq (.ops (o2 13 (.p (.build [.int .i64 0, .int .i64 0] [])) [] [] ::
 oz (su 2) [6, 13] [13] ::
 oz (su 1) [7, .k (.bool false)] [] ::
 [])) (.gh (.keep [6,7] [6,7]) (.ret))) (.skip)
def Q2 : List RO := o2 15 .c [.f 18, 14] [14] ::
 []
def Q5 : List RO := oz (su 5) [9, 17] [17] ::
 []
def U1 : RC := .ops (o2 9 (.a (.alloc 5 [.int .i64 0, .int .i64 0, .int .i64 0, .int .i64 0, .au])) [] [] ::
 Q5)
def Q1 : List RO := o3 23 22 true (fa 2) [9] [9] ::
 o3 24 22 true (ld 1) [23] [23] ::
 o3 25 22 true (ld 1) [5] [] ::
 o3 26 22 true (bI .eql) [24, 25] [24,25] ::
 o2 27 (.p (.pick)) [22, 26, .k (.bool false)] [22,26] ::
 []
def C2 : RC := .cond (.s 27) (.seq (.ops (o2 28 (lD 2) [8] [8] ::
 oz (su 2) [6, 28] [28] ::
 oz (su 1) [7, .k (.bool true)] [] ::
 [])) (.gh (.keep [] [4,5,6,7]) (.ret))) (.skip)
def qP : RC := .seq (.ops (o2 8 (.a (.alloc 2 [.int .i64 0, .int .i64 0])) [] [] ::
 oz (su 2) [8, 16] [16] ::
 [])) (U1)
def qH : RC := .hg (.block 1 (.seq (.ops (o2 18 (fa 0) [9] [] ::
 o2 19 (ld 1) [18] [18] ::
 o2 20 (ld 1) [4] [] ::
 o2 21 (bI .eql) [19, 20] [19,20] ::
 o1 22 21 [21] ::
 Q1)) (C2))) (.keep [] [4,5,6,7])
def U2 : RC := .block 0 (.gh (.keep [4,5,6,7,15] [4,5,6,7]) (.each (.s 15) [16,17] qP qH))
def U3 : RC := .seq (.ops (o2 29 (.p (.build [.int .i64 0, .int .i64 0] [])) [] [] ::
 oz (su 2) [6, 29] [29] ::
 oz (su 1) [7, .k (.bool false)] [] ::
 [])) (.gh (.keep [6,7] [6,7]) (.ret))
def U4 : RC := .seq (.seq (.ops (o2 14 (lD 1) [3] [3] ::
 Q2)) (U2)) (U3)
def U5 : RC := .seq (.seq (.ops (o2 10 (lD 1) [3] [] ::
 Q3)) (C1)) (U4)
def text : RF := ⟨30, [.ld 6 2 true, .ld 7 1 false], .seq (.ops Q4) (U5)⟩
def F4 : List Fm := [.seq U4]
def F6 : List Fm := [.seq U5]
def F1 : List Fm := [.seq C2, .blk 1]
def F3 : List Fm := [.seq U2, .seq U3]
def F5 : List Fm := .seq C1 :: F4
def F7 : List Fm := [.blk 1, .gst (.keep [] [4,5,6,7])]
def F8 : List Fm := [.blk 0, .seq U3]
def F2 : List Fm := .seq C2 :: F7
end eU
class gu (S : Sys) (T : az) : Prop where
 t : T (S.N 42) = some eU.text
 k : S.E.keep (S.N 42) = false
 c0 : fX S T
 c1 : fC S T
 i0 : ∀ t : Trace, ∀ its, eN t = some its → S.items (S.N 17) [] [.fptr (cells t)] = some (its.map fun x : aa × Event => [enc x.1, enc x.2])
attribute [instance] gu.c0 gu.c1
namespace eU
section
variable {S : Sys} {T : az} [gu S T]
noncomputable def iy (vk0_15 : Trace) (kindb4 : Int) (mb5 : Int) (vb6 : aa) (vb7 : Bool) (x : aa × Event) : Option (Fw Unit Empty aa) :=
 (aL (x.2.kind == kindb4)
 (some (x.2.message == mb5))
 (some false) : Option Bool).bind fun x_1 =>
 aL x_1
 (some (.r x.1))
 (some (.n ()))
noncomputable def E1 (vk0_15 : Trace) (kindb4 : Int) (mb5 : Int) (vb6 : aa) (vb7 : Bool) : Option (aa × Bool) :=
 (eN vk0_15).bind fun its => (kr (fun (x : aa × Event) (q : Unit) => iy vk0_15 kindb4 mb5 vb6 vb7 x) its ()).bind (Fw.sE
 (fun q => some (⟨0, 0⟩, false))
 (fun e => Empty.elim e)
 (fun e => some (e, true)))
def sU (S : Sys) (vk0_15 : Trace) (kindb4 : Int) (mb5 : Int) (vb6 : aa) (vb7 : Bool) : Unit → Tb aE := fun q => [(4, .box [iv kindb4]), (5, .box [iv mb5]), Xb 6 vb6, (7, .box [bv vb7])]
def sr (S : Sys) (vk0_15 : Trace) (kindb4 : Int) (mb5 : Int) (vb6 : aa) (vb7 : Bool) : Empty → Nat × Tb aE := fun e => Empty.elim e
def r_ (S : Sys) (vk0_15 : Trace) (kindb4 : Int) (mb5 : Int) (vb6 : aa) (vb7 : Bool) : aa → Tb aE := fun e => [(4, .box [iv kindb4]), (5, .box [iv mb5]), Xb 6 e, (7, .box [bv true])]
theorem mX (vk0_15 : Trace) (kindb4 : Int) (mb5 : Int) (vb6 : aa) (vb7 : Bool) (x : aa × Event) : Le ((iy vk0_15 kindb4 mb5 vb6 vb7 x).bind (fun w => some (Fw.lK (sU S vk0_15 kindb4 mb5 vb6 vb7) (sr S vk0_15 kindb4 mb5 vb6 vb7) (r_ S vk0_15 kindb4 mb5 vb6 vb7) w))) (rn S (ah S T) (pI S (ah S T) qH) (.rc qP) [] ⟨[Pv 4, Pv 5, Pv 6, Pv 7, (15, .v (.clo (S.N 17) [] [.fptr (cells vk0_15)])), Cv 16 x.1, Cv 17 x.2], [(4, .box [iv kindb4]), (5, .box [iv mb5]), Xb 6 vb6, (7, .box [bv vb7])], [4,5,6,7], [], true, 0⟩) := by
 unfold iy
 refine Ast 8 false [] Q5 [] ⟨[Pv 4, Pv 5, Pv 6, Pv 7, (15, .v (.clo (S.N 17) [] [.fptr (cells vk0_15)])), Cv 17 x.2, Pv 8, Pv 9], [(4, .box [iv kindb4]), (5, .box [iv mb5]), Xb 6 vb6, (7, .box [bv vb7]), Xb 8 x.1, Xb 9 (⟨0, 0, 0, 0, Sl.nil⟩ : Event)], [4,5,6,7], [], true, 0⟩ 9 0 x.2 [iv 0, iv 0, iv 0, iv 0, .v .au] [iv x.2.kind, iv x.2.peer, iv x.2.message, iv x.2.time, cv x.2.assign] rfl (by kernel_rfl) ?_
 refine wJ (n := 1) (st' := ⟨[Pv 4, Pv 5, Pv 6, Pv 7, (15, .v (.clo (S.N 17) [] [.fptr (cells vk0_15)])), Pv 8, Pv 9], [(4, .box [iv kindb4]), (5, .box [iv mb5]), Xb 6 vb6, (7, .box [bv vb7]), Xb 8 x.1, Xb 9 x.2], [4,5,6,7], [], true, 0⟩) (by kernel_rfl) ?_
 refine dw (fun x_1 => rn S (ah S T) lK (.ops false [] []) F2 ⟨[Pv 4, Pv 5, Pv 6, Pv 7, (15, .v (.clo (S.N 17) [] [.fptr (cells vk0_15)])), Pv 8, Bv 27 x_1], [(4, .box [iv kindb4]), (5, .box [iv mb5]), Xb 6 vb6, (7, .box [bv vb7]), Xb 8 x.1, Xb 9 x.2], [4,5,6,7], [], true, 0⟩) ?_ fun x_1 => ?_
 ·refine aJ (n := 9) (fo' := .ops false [] Q1) (fs' := F2) (t := (x.2.kind == kindb4)) (A := fun bb => ⟨[Pv 4, Pv 5, Pv 6, Pv 7, (15, .v (.clo (S.N 17) [] [.fptr (cells vk0_15)])), Pv 8, Pv 9, Bv 22 bb], [(4, .box [iv kindb4]), (5, .box [iv mb5]), Xb 6 vb6, (7, .box [bv vb7]), Xb 8 x.1, Xb 9 x.2], [4,5,6,7], [], true, 0⟩) (by kernel_rfl) ?_ ?_
  ·exact bp (n := 5) (by kernel_rfl) rfl
  ·exact bp (n := 5) (by kernel_rfl) rfl
 ·refine aJ (n := 2) (fo' := .rc C2) (fs' := F7) (t := x_1) (A := fun bb => ⟨[Pv 4, Pv 5, Pv 6, Pv 7, (15, .v (.clo (S.N 17) [] [.fptr (cells vk0_15)])), Pv 8, Bv 27 bb], [(4, .box [iv kindb4]), (5, .box [iv mb5]), Xb 6 vb6, (7, .box [bv vb7]), Xb 8 x.1, Xb 9 x.2], [4,5,6,7], [], true, 0⟩) (by kernel_rfl) ?_ ?_
  ·exact av (by kernel_rfl)
  ·exact av (by kernel_rfl)
theorem xW (vk0_15 : Trace) (kindb4 : Int) (mb5 : Int) (vb6 : aa) (vb7 : Bool) : Le ((E1 vk0_15 kindb4 mb5 vb6 vb7).bind (fun r => some [enc r.1, .bool r.2])) (rn S (ah S T) (cj [.ld 6 2 true, .ld 7 1 false]) (.rc (.each (.s 15) [16,17] qP qH)) F8 (af [Pv 4, Pv 5, Pv 6, Pv 7, (15, .v (.clo (S.N 17) [] [.fptr (cells vk0_15)]))] [(4, .box [iv kindb4]), (5, .box [iv mb5]), Xb 6 vb6, (7, .box [bv vb7])])) := by
 unfold E1
 refine CV fun its hits => ?_
 refine xk (n := 0) (g := .s 15) (fs := F8) (a := qP) (b := qH) (ps := [16,17]) (gt := [Pv 4, Pv 5, Pv 6, Pv 7, (15, .v (.clo (S.N 17) [] [.fptr (cells vk0_15)]))]) (eσ := sU S vk0_15 kindb4 mb5 vb6 vb7) (eε := sr S vk0_15 kindb4 mb5 vb6 vb7) (eρ := r_ S vk0_15 kindb4 mb5 vb6 vb7) (by kernel_rfl) (by kernel_rfl) (gu.i0 (S := S) (T := T) vk0_15 its hits) (fun _ => rfl) (fun x q => GX (by kernel_rfl) (mX (S := S) (T := T) vk0_15 kindb4 mb5 vb6 vb7 x)) ?_ ?_ ?_
 ·intro q
  exact av (by kernel_rfl)
 ·intro e; exact Empty.elim e
 ·intro e
  exact av (by kernel_rfl)
end
end eU
noncomputable def eU (t0 : Trace) (kind1 : Int) (m2 : Int) : Option (aa × Bool) :=
 (cB t0).bind fun x_1 =>
 aL x_1
 ((cP t0).bind fun x_2 =>
 eU.E1 x_2 kind1 m2 (⟨0, 0⟩ : aa) false)
 (some (⟨0, 0⟩, false))
open eU in
theorem zO {S : Sys} {T : az} [gu S T] (t0 : Trace) (kind1 : Int) (m2 : Int) : Le ((eU t0 kind1 m2).bind fun r => some [enc r.1, .bool r.2]) (bl (ah S T) (S.N 42) [enc t0, .int .i64 kind1, .int .i64 m2]) := by
 refine cZ (gu.t (S := S) (T := T)) (Nat.le_of_ble_eq_true rfl) ?_
 unfold eU
 refine gm 2 false [] Q4 F6 (af [Cv 0 t0, Iv 1 kind1, Iv 2 m2] []) t0 rfl (by kernel_rfl) (by kernel_rfl) ?_
 refine bg 10 [] Q3 F5 (af [Pv 3, Pv 4, Pv 5, Pv 6, Pv 7, Cv 10 t0] [Xb 3 t0, (4, .box [iv kind1]), (5, .box [iv m2]), Xb 6 (⟨0, 0⟩ : aa), (7, .box [bv false])]) (mN (S := S) (T := T)) t0 rfl (by kernel_rfl) fun x_1 h_1 => ?_
 refine aJ (n := 3) (fo' := .rc C1) (fs' := F4) (t := x_1) (A := fun bb => (af [Pv 3, Pv 4, Pv 5, Pv 6, Pv 7, Bv 12 (!bb)] [Xb 3 t0, (4, .box [iv kind1]), (5, .box [iv m2]), Xb 6 (⟨0, 0⟩ : aa), (7, .box [bv false])])) (by kernel_rfl) ?_ ?_
 ·refine bg 7 [] Q2 F3 (af [Pv 4, Pv 5, Pv 6, Pv 7, Bv 12 false, Cv 14 t0] [Xb 3 t0, (4, .box [iv kind1]), (5, .box [iv m2]), Xb 6 (⟨0, 0⟩ : aa), (7, .box [bv false])]) (jW (S := S) (T := T)) t0 rfl (by kernel_rfl) fun x_2 h_2 => ?_
  exact eY (n := 4) (by kernel_rfl) (xW x_2 kind1 m2 (⟨0, 0⟩ : aa) false)
 ·exact av (by kernel_rfl)
theorem yP {S : Sys} {T : az} [gu S T] : dS S (ah S T) (S.N 42) (fun z : Trace × Int × Int => [enc z.1, .int .i64 z.2.1, .int .i64 z.2.2]) (fun r : aa × Bool => [enc r.1, .bool r.2]) (fun z => eU z.1 z.2.1 z.2.2) true where
 k := gu.k (S := S) (T := T)
 h z := zO z.1 z.2.1 z.2.2
 l z := by simp
 r r := by simp
 s h r := by kernel_rfl
namespace eK
def Q2 : List RO := o2 2 (.a .box) [0] [0] ::
 o2 4 (.a (.alloc 2 [.int .i64 0, .int .i64 0])) [] [] ::
 o1 5 (.k (.bool false)) [5] ::
 []
def Q1 : List RO := o2 8 .c [.f 42, 6, .k (.int .i64 2), 7] [6,7] ::
 o2 9 (.p (.ext 0)) [8] [] ::
 o2 10 (.p (.ext 1)) [8] [8] ::
 oz (su 2) [4, 9] [9] ::
 o1 5 10 [10] ::
 []
def U1 : RC := .seq (.ops (o2 6 (lD 1) [2] [2] ::
 o1 7 1 [1] ::
 Q1)) (.ret)
def text : RF := ⟨11, [.ld 4 2 true, .s 5], .seq (.ops Q2) (U1)⟩
def F1 : List Fm := [.seq .ret]
def F2 : List Fm := [.seq U1]
end eK
class gK (S : Sys) (T : az) : Prop where
 t : T (S.N 43) = some eK.text
 k : S.E.keep (S.N 43) = false
 c0 : gu S T
attribute [instance] gK.c0
namespace eK
section
variable {S : Sys} {T : az} [gK S T]
end
end eK
noncomputable def eK (t0 : Trace) (m1 : Int) : Option (aa × Bool) :=
 (eU t0 2 m1).bind fun x_1 =>
 some (x_1.1, x_1.2)
open eK in
theorem xV {S : Sys} {T : az} [gK S T] (t0 : Trace) (m1 : Int) : Le ((eK t0 m1).bind fun r => some [enc r.1, .bool r.2]) (bl (ah S T) (S.N 43) [enc t0, .int .i64 m1]) := by
 refine cZ (gK.t (S := S) (T := T)) (Nat.le_of_ble_eq_true rfl) ?_
 unfold eK
 refine gm 2 false [] Q2 F2 (af [Cv 0 t0, Iv 1 m1] []) t0 rfl (by kernel_rfl) (by kernel_rfl) ?_
 refine bg 8 [] Q1 F1 (af [Pv 4, Cv 6 t0, Iv 7 m1] [Xb 2 t0, Xb 4 (⟨0, 0⟩ : aa)]) (yP (S := S) (T := T)) (t0, 2, m1) rfl (by kernel_rfl) fun x_1 h_1 => ?_
 exact av (by kernel_rfl)
theorem v5 {S : Sys} {T : az} [gK S T] : dS S (ah S T) (S.N 43) (fun z : Trace × Int => [enc z.1, .int .i64 z.2]) (fun r : aa × Bool => [enc r.1, .bool r.2]) (fun z => eK z.1 z.2) true where
 k := gK.k (S := S) (T := T)
 h z := xV z.1 z.2
 l z := by simp
 r r := by simp
 s h r := by kernel_rfl
namespace dz
def Q2 : List RO := o2 2 (.a .box) [0] [0] ::
 o2 4 (.a (.alloc 2 [.int .i64 0, .int .i64 0])) [] [] ::
 o2 5 (.a (.alloc 2 [.int .i64 0, .int .i64 0])) [] [] ::
 o1 6 (.k (.bool false)) [6] ::
 []
def Q1 : List RO := o2 14 ln [13] [] ::
 o1 15 (.k (.int .i64 0)) [] ::
 []
def C1 : RC := .cond (.s 16) (.skip) (.gh (.keep [4,5] [4,5]) (.exit 0))
def Q6 : List RO := o2 18 (ix 1) [13, 15] [] ::
 o2 19 (ld 1) [18] [18] ::
 o1 7 17 [17] ::
 o1 8 19 [19] ::
 []
def Q3 : List RO := o2 28 ln [27] [] ::
 o1 29 (.k (.int .i64 0)) [] ::
 []
def Q4 : List RO := o2 27 (.p (.slice 5 false true)) [25, 26] [25,26] ::
 Q3
def Q5 : List RO := o2 23 (ix 3) [21, 22] [21,22] ::
 o2 24 (fa 2) [23] [23] ::
 o2 25 (ld 1) [24] [24] ::
 o1 26 8 [8] ::
 Q4
def C2 : RC := .cond (.s 30) (.skip) (.gh (.keep [1,2,4,5,13,14,15] [2,4,5]) (.exit 2))
def Q9 : List RO := oz (su 5) [10, 33] [33] ::
 []
def gO : List RO := o2 32 (ix 5) [27, 29] [] ::
 o2 33 (lD 5) [32] [32] ::
 o2 10 (.a (.alloc 5 [.int .i64 0, .int .i64 0, .int .i64 0, .int .i64 0, .au])) [] [] ::
 o1 9 31 [31] ::
 Q9
def C3 : RC := .cond (.s 36) (.exit 3) (.skip)
def Q8 : List RO := o2 41 .c [.f 43, 38, 40] [38,40] ::
 o1 37 41 [41] ::
 o2 42 (.p (.ext 0)) [37] [] ::
 o2 43 (.p (.ext 1)) [37] [37] ::
 o2 11 (.a (.alloc 2 [.int .i64 0, .int .i64 0])) [] [] ::
 oz (su 2) [11, 42] [42] ::
 o1 12 43 [12,43] ::
 []
def Q7 : List RO := o2 49 (ix 1) [46, 48] [46,48] ::
 o2 50 (ld 1) [49] [49] ::
 on 51 (bI .gtr) [45, 50] [45,50] ::
 []
def C4 : RC := .cond (.s 51) (.seq (.ops (o2 52 (lD 2) [11] [11] ::
 o1 53 7 [7] ::
 o1 54 9 [9] ::
 o2 55 (bI .add) [54, .k (.int .i64 1)] [54] ::
 o2 56 (.p (.build [.int .i64 0, .int .i64 0] [(0, 1), (1, 1)])) [53, 55] [53,55] ::
 oz (su 2) [4, 52] [52] ::
 oz (su 2) [5, 56] [56] ::
 o1 6 (.k (.bool true)) [] ::
 [])) (.gh (.keep [4,5,6] [4,5]) (.ret))) (.skip)
def U1 : RC := .seq (.reg (o2 44 (fa 1) [11] [] ::
 o2 45 (ld 1) [44] [44] ::
 o1 46 1 [] ::
 o2 47 (fa 0) [11] [] ::
 o2 48 (ld 1) [47] [47] ::
 Q7)) (C4)
def U2 : RC := .seq (.ops (o2 38 (lD 1) [2] [] ::
 o2 39 (fa 2) [10] [10] ::
 o2 40 (ld 1) [39] [39] ::
 Q8)) (U1)
def U3 : RC := .seq (.seq (.ops (o2 34 (fa 0) [10] [] ::
 o2 35 (ld 1) [34] [34] ::
 o2 36 (bI .neq) [35, .k (.int .i64 3)] [35] ::
 [])) (C3)) (U2)
def U4 : RC := .ops (o2 57 (bI .add) [29, .k (.int .i64 1)] [29] ::
 o1 29 57 [57] ::
 [])
def U5 : RC := .seq (.block 3 (.seq (.ops (o1 31 29 [] ::
 gO)) (U3))) (U4)
def iA : RC := .hg (.seq (.ops (o2 30 (bI .lss) [29, 28] [] ::
 [])) (.seq (C2) (U5))) (.keep [1,2,4,5,7,13,14,15,27,28,29] [2,4,5])
def U6 : RC := .block 2 (.gh (.keep [1,2,4,5,7,13,14,15,27,28,29] [2,4,5]) (.loop iA))
def U7 : RC := .seq (.ops (o2 20 (fa 0) [2] [] ::
 o2 21 (ld 1) [20] [20] ::
 o1 22 7 [] ::
 Q5)) (U6)
def U8 : RC := .ops (o2 58 (bI .add) [15, .k (.int .i64 1)] [15] ::
 o1 15 58 [58] ::
 [])
def U9 : RC := .seq (.block 1 (.seq (.ops (o1 17 15 [] ::
 Q6)) (U7))) (U8)
def cg : RC := .hg (.seq (.ops (o2 16 (bI .lss) [15, 14] [] ::
 [])) (.seq (C1) (U9))) (.keep [1,2,4,5,13,14,15] [2,4,5])
def m4 : RC := .block 0 (.gh (.keep [1,2,4,5,13,14,15] [2,4,5]) (.loop cg))
def mM : RC := .seq (.ops (o2 59 (.p (.build [.int .i64 0, .int .i64 0] [])) [] [] ::
 o2 60 (.p (.build [.int .i64 0, .int .i64 0] [])) [] [] ::
 oz (su 2) [4, 59] [59] ::
 oz (su 2) [5, 60] [60] ::
 o1 6 (.k (.bool false)) [] ::
 [])) (.gh (.keep [4,5,6] [4,5]) (.ret))
def lV : RC := .seq (.seq (.ops (o1 13 1 [] ::
 Q1)) (m4)) (mM)
def text : RF := ⟨61, [.ld 4 2 true, .ld 5 2 true, .s 6], .seq (.ops Q2) (lV)⟩
def F2 : List Fm := [.seq lV]
def F1 : List Fm := [.seq m4, .seq mM]
def F5 : List Fm := [.seq U9, .gst (.keep [1,2,4,5,13,14,15] [2,4,5])]
def lH : List Fm := [.seq U5, .gst (.keep [1,2,4,5,7,13,14,15,27,28,29] [2,4,5])]
def mC : List Fm := [.blk 0, .seq mM]
def F6 : List Fm := [.blk 3, .seq U4, .gst (.keep [1,2,4,5,7,13,14,15,27,28,29] [2,4,5])]
def F3 : List Fm := [.seq U6, .blk 1, .seq U8, .gst (.keep [1,2,4,5,13,14,15] [2,4,5])]
def F4 : List Fm := [.seq U7, .blk 1, .seq U8, .gst (.keep [1,2,4,5,13,14,15] [2,4,5])]
def F7 : List Fm := .seq C4 :: F6
def F8 : List Fm := .seq U1 :: F6
def F9 : List Fm := .seq U2 :: F6
def jo : List Fm := .seq U3 :: F6
def ku : List Fm := [.blk 2, .blk 1, .seq U8, .gst (.keep [1,2,4,5,13,14,15] [2,4,5])]
end dz
class gY (S : Sys) (T : az) : Prop where
 t : T (S.N 44) = some dz.text
 k : S.E.keep (S.N 44) = false
 c0 : gK S T
attribute [instance] gY.c0
namespace dz
section
variable {S : Sys} {T : az} [gY S T]
noncomputable def cC (c1 : Sl Int) (p7 : Int) (v13 : Sl Int) (v14 : Int) (v15 : Int) (v27 : Sl Event) (v28 : Int) (tb2 : Trace) (sendb4 : aa) (receiveb5 : aa) (v29 : Int) : Option (Fw Int Unit (aa × aa)) :=
 aL (decide (v29 < v28))
 ((idx v27 v29).bind fun x_1 =>
 aL (x_1.kind == 3)
 ((eK tb2 x_1.message).bind fun x_2 =>
 (idx c1 x_2.1.proc).bind fun x_3 =>
 aL (decide (x_2.1.index > x_3))
 (some (.r (x_2.1, (⟨p7, IntKind.wrap .i64 (v29 + 1)⟩ : aa))))
 (some (.n (IntKind.wrap .i64 (v29 + 1)))))
 (some (.n (IntKind.wrap .i64 (v29 + 1)))))
 (some (.x ()))
noncomputable def W2 (c1 : Sl Int) (p7 : Int) (v13 : Sl Int) (v14 : Int) (v15 : Int) (v27 : Sl Event) (v28 : Int) (v29 : Int) (tb2 : Trace) (sendb4 : aa) (receiveb5 : aa) : Option (Fw Int Unit (aa × aa)) :=
 (cW (fun q : Int => cC c1 p7 v13 v14 v15 v27 v28 tb2 sendb4 receiveb5 q) v29).bind (Fw.elim
 (fun e => some (.n (IntKind.wrap .i64 (v15 + 1))))
 (fun e => some (.r (e.1, e.2))))
def jD (S : Sys) (c1 : Sl Int) (p7 : Int) (v13 : Sl Int) (v14 : Int) (v15 : Int) (v27 : Sl Event) (v28 : Int) (tb2 : Trace) (sendb4 : aa) (receiveb5 : aa) : Int → St := fun q => (af [Cv 1 c1, Pv 2, Pv 4, Pv 5, Iv 7 p7, Cv 13 v13, Iv 14 v14, Iv 15 v15, Cv 27 v27, Iv 28 v28, Iv 29 q] [Xb 2 tb2, Xb 4 sendb4, Xb 5 receiveb5])
def jB (S : Sys) (c1 : Sl Int) (p7 : Int) (v13 : Sl Int) (v14 : Int) (v15 : Int) (v27 : Sl Event) (v28 : Int) (tb2 : Trace) (sendb4 : aa) (receiveb5 : aa) : Unit → Nat × St := fun e => (2, (af [Cv 1 c1, Pv 2, Pv 4, Pv 5, Cv 13 v13, Iv 14 v14, Iv 15 v15] [Xb 2 tb2, Xb 4 sendb4, Xb 5 receiveb5]))
def jA (S : Sys) (c1 : Sl Int) (p7 : Int) (v13 : Sl Int) (v14 : Int) (v15 : Int) (v27 : Sl Event) (v28 : Int) (tb2 : Trace) (sendb4 : aa) (receiveb5 : aa) : aa × aa → St := fun e => (af [Pv 4, Pv 5, Bv 6 true] [Xb 4 e.1, Xb 5 e.2])
noncomputable def aB (c1 : Sl Int) (v13 : Sl Int) (v14 : Int) (tb2 : Trace) (sendb4 : aa) (receiveb5 : aa) (v15 : Int) : Option (Fw Int Unit (aa × aa)) :=
 aL (decide (v15 < v14))
 ((idx v13 v15).bind fun x_1 =>
 (idx tb2.procs v15).bind fun x_2 =>
 (iJ x_2.events none (some x_1)).bind fun x_3 =>
 W2 c1 v15 v13 v14 v15 x_3 (len x_3) 0 tb2 sendb4 receiveb5)
 (some (.x ()))
noncomputable def W1 (c1 : Sl Int) (v13 : Sl Int) (v14 : Int) (v15 : Int) (tb2 : Trace) (sendb4 : aa) (receiveb5 : aa) : Option (aa × aa × Bool) :=
 (cW (fun q : Int => aB c1 v13 v14 tb2 sendb4 receiveb5 q) v15).bind (Fw.elim
 (fun e => some (⟨0, 0⟩, ⟨0, 0⟩, false))
 (fun e => some (e.1, e.2, true)))
def cJ (S : Sys) (c1 : Sl Int) (v13 : Sl Int) (v14 : Int) (tb2 : Trace) (sendb4 : aa) (receiveb5 : aa) : Int → St := fun q => (af [Cv 1 c1, Pv 2, Pv 4, Pv 5, Cv 13 v13, Iv 14 v14, Iv 15 q] [Xb 2 tb2, Xb 4 sendb4, Xb 5 receiveb5])
def cL (S : Sys) (c1 : Sl Int) (v13 : Sl Int) (v14 : Int) (tb2 : Trace) (sendb4 : aa) (receiveb5 : aa) : Unit → Nat × St := fun e => (0, (af [Pv 4, Pv 5] [Xb 4 sendb4, Xb 5 receiveb5]))
def cM (S : Sys) (c1 : Sl Int) (v13 : Sl Int) (v14 : Int) (tb2 : Trace) (sendb4 : aa) (receiveb5 : aa) : aa × aa → St := fun e => (af [Pv 4, Pv 5, Bv 6 true] [Xb 4 e.1, Xb 5 e.2])
theorem ga (c1 : Sl Int) (p7 : Int) (v13 : Sl Int) (v14 : Int) (v15 : Int) (v27 : Sl Event) (v28 : Int) (tb2 : Trace) (sendb4 : aa) (receiveb5 : aa) (v29 : Int) : Le ((cC c1 p7 v13 v14 v15 v27 v28 tb2 sendb4 receiveb5 v29).bind (fun w => some (Fw.out (jD S c1 p7 v13 v14 v15 v27 v28 tb2 sendb4 receiveb5) (jB S c1 p7 v13 v14 v15 v27 v28 tb2 sendb4 receiveb5) (jA S c1 p7 v13 v14 v15 v27 v28 tb2 sendb4 receiveb5) w))) (rn S (ah S T) some (.rc iA) [] (af [Cv 1 c1, Pv 2, Pv 4, Pv 5, Iv 7 p7, Cv 13 v13, Iv 14 v14, Iv 15 v15, Cv 27 v27, Iv 28 v28, Iv 29 v29] [Xb 2 tb2, Xb 4 sendb4, Xb 5 receiveb5])) := by
 unfold cC
 refine aJ (n := 7) (fo' := .rc C2) (fs' := lH) (t := decide (v29 < v28)) (A := fun bb => (af [Cv 1 c1, Pv 2, Pv 4, Pv 5, Iv 7 p7, Cv 13 v13, Iv 14 v14, Iv 15 v15, Cv 27 v27, Iv 28 v28, Iv 29 v29, Bv 30 bb] [Xb 2 tb2, Xb 4 sendb4, Xb 5 receiveb5])) (by kernel_rfl) ?_ ?_
 ·refine ey 8 false [] gO jo (af [Cv 1 c1, Pv 2, Pv 4, Pv 5, Iv 7 p7, Cv 13 v13, Iv 14 v14, Iv 15 v15, Cv 27 v27, Iv 28 v28, Iv 29 v29, Bv 30 true, Iv 31 v29] [Xb 2 tb2, Xb 4 sendb4, Xb 5 receiveb5]) .i64 rfl (by kernel_rfl) fun x_1 h_1 => ?_
  refine Ast 3 false [] Q9 jo (af [Cv 1 c1, Pv 2, Pv 4, Pv 5, Iv 7 p7, Cv 13 v13, Iv 14 v14, Iv 15 v15, Cv 27 v27, Iv 28 v28, Iv 29 v29, Bv 30 true, Cv 33 x_1, Pv 10, Iv 9 v29] [Xb 2 tb2, Xb 4 sendb4, Xb 5 receiveb5, Xb 10 (⟨0, 0, 0, 0, Sl.nil⟩ : Event)]) 10 0 x_1 [iv 0, iv 0, iv 0, iv 0, .v .au] [iv x_1.kind, iv x_1.peer, iv x_1.message, iv x_1.time, cv x_1.assign] rfl (by kernel_rfl) ?_
  refine aJ (n := 10) (fo' := .rc C3) (fs' := F9) (t := (x_1.kind == 3)) (A := fun bb => (af [Cv 1 c1, Pv 2, Pv 4, Pv 5, Iv 7 p7, Cv 13 v13, Iv 14 v14, Iv 15 v15, Cv 27 v27, Iv 28 v28, Iv 29 v29, Bv 30 true, Pv 10, Iv 9 v29, Bv 36 (!bb)] [Xb 2 tb2, Xb 4 sendb4, Xb 5 receiveb5, Xb 10 x_1])) (by kernel_rfl) ?_ ?_
  ·refine bg 8 [] Q8 F8 (af [Cv 1 c1, Pv 2, Pv 4, Pv 5, Iv 7 p7, Cv 13 v13, Iv 14 v14, Iv 15 v15, Cv 27 v27, Iv 28 v28, Iv 29 v29, Bv 30 true, Iv 9 v29, Bv 36 false, Cv 38 tb2, Iv 40 x_1.message] [Xb 2 tb2, Xb 4 sendb4, Xb 5 receiveb5, Xb 10 x_1]) (v5 (S := S) (T := T)) (tb2, x_1.message) rfl (by kernel_rfl) fun x_2 h_2 => ?_
   refine ey 15 true [] Q7 F7 (af [Cv 1 c1, Pv 2, Pv 4, Pv 5, Iv 7 p7, Cv 13 v13, Iv 14 v14, Iv 15 v15, Cv 27 v27, Iv 28 v28, Iv 29 v29, Bv 30 true, Iv 9 v29, Bv 36 false, Pv 11, Iv 45 x_2.1.index, Cv 46 c1, Iv 48 x_2.1.proc] [Xb 2 tb2, Xb 4 sendb4, Xb 5 receiveb5, Xb 10 x_1, Xb 11 x_2.1]) .i64 rfl (by kernel_rfl) fun x_3 h_3 => ?_
   refine aJ (n := 4) (fo' := .rc C4) (fs' := F6) (t := decide (x_2.1.index > x_3)) (A := fun bb => (af [Cv 1 c1, Pv 2, Pv 4, Pv 5, Iv 7 p7, Cv 13 v13, Iv 14 v14, Iv 15 v15, Cv 27 v27, Iv 28 v28, Iv 29 v29, Bv 30 true, Iv 9 v29, Bv 36 false, Pv 11, Bv 51 bb] [Xb 2 tb2, Xb 4 sendb4, Xb 5 receiveb5, Xb 10 x_1, Xb 11 x_2.1])) (by kernel_rfl) ?_ ?_
   ·exact av (by kernel_rfl)
   ·exact av (by kernel_rfl)
  ·exact av (by kernel_rfl)
 ·exact av (by kernel_rfl)
theorem lE (c1 : Sl Int) (p7 : Int) (v13 : Sl Int) (v14 : Int) (v15 : Int) (v27 : Sl Event) (v28 : Int) (v29 : Int) (tb2 : Trace) (sendb4 : aa) (receiveb5 : aa) : Le ((W2 c1 p7 v13 v14 v15 v27 v28 v29 tb2 sendb4 receiveb5).bind (fun w => some (Fw.out (cJ S c1 v13 v14 tb2 sendb4 receiveb5) (cL S c1 v13 v14 tb2 sendb4 receiveb5) (cM S c1 v13 v14 tb2 sendb4 receiveb5) w))) (rn S (ah S T) some (.rc (.loop iA)) ku (af [Cv 1 c1, Pv 2, Pv 4, Pv 5, Iv 7 p7, Cv 13 v13, Iv 14 v14, Iv 15 v15, Cv 27 v27, Iv 28 v28, Iv 29 v29] [Xb 2 tb2, Xb 4 sendb4, Xb 5 receiveb5])) := by
 unfold W2
 refine eJ (n := 0) (fs := ku) (a := iA) (eσ := jD S c1 p7 v13 v14 v15 v27 v28 tb2 sendb4 receiveb5) (eε := jB S c1 p7 v13 v14 v15 v27 v28 tb2 sendb4 receiveb5) (eρ := jA S c1 p7 v13 v14 v15 v27 v28 tb2 sendb4 receiveb5) (by kernel_rfl) (fun q => ga c1 p7 v13 v14 v15 v27 v28 tb2 sendb4 receiveb5 q) ?_ ?_
 ·intro e
  exact av (by kernel_rfl)
 ·intro e
  exact av (by kernel_rfl)
theorem aY (c1 : Sl Int) (v13 : Sl Int) (v14 : Int) (tb2 : Trace) (sendb4 : aa) (receiveb5 : aa) (v15 : Int) : Le ((aB c1 v13 v14 tb2 sendb4 receiveb5 v15).bind (fun w => some (Fw.out (cJ S c1 v13 v14 tb2 sendb4 receiveb5) (cL S c1 v13 v14 tb2 sendb4 receiveb5) (cM S c1 v13 v14 tb2 sendb4 receiveb5) w))) (rn S (ah S T) some (.rc cg) [] (af [Cv 1 c1, Pv 2, Pv 4, Pv 5, Cv 13 v13, Iv 14 v14, Iv 15 v15] [Xb 2 tb2, Xb 4 sendb4, Xb 5 receiveb5])) := by
 unfold aB
 refine aJ (n := 7) (fo' := .rc C1) (fs' := F5) (t := decide (v15 < v14)) (A := fun bb => (af [Cv 1 c1, Pv 2, Pv 4, Pv 5, Cv 13 v13, Iv 14 v14, Iv 15 v15, Bv 16 bb] [Xb 2 tb2, Xb 4 sendb4, Xb 5 receiveb5])) (by kernel_rfl) ?_ ?_
 ·refine ey 8 false [] Q6 F4 (af [Cv 1 c1, Pv 2, Pv 4, Pv 5, Cv 13 v13, Iv 14 v14, Iv 15 v15, Bv 16 true, Iv 17 v15] [Xb 2 tb2, Xb 4 sendb4, Xb 5 receiveb5]) .i64 rfl (by kernel_rfl) fun x_1 h_1 => ?_
  refine ey 10 false [] Q5 F3 (af [Cv 1 c1, Pv 2, Pv 4, Pv 5, Cv 13 v13, Iv 14 v14, Iv 15 v15, Bv 16 true, Iv 7 v15, Iv 8 x_1, Cv 21 tb2.procs, Iv 22 v15] [Xb 2 tb2, Xb 4 sendb4, Xb 5 receiveb5]) .i64 rfl (by kernel_rfl) fun x_2 h_2 => ?_
  refine Dd 3 false [] Q4 F3 (af [Cv 1 c1, Pv 2, Pv 4, Pv 5, Cv 13 v13, Iv 14 v14, Iv 15 v15, Bv 16 true, Iv 7 v15, Cv 25 x_2.events, Iv 26 x_1] [Xb 2 tb2, Xb 4 sendb4, Xb 5 receiveb5]) false true [.int .i64 x_1] rfl (by kernel_rfl) fun x_3 h_3 => ?_
  refine dP 0 false [] Q3 F3 (af [Cv 1 c1, Pv 2, Pv 4, Pv 5, Cv 13 v13, Iv 14 v14, Iv 15 v15, Bv 16 true, Iv 7 v15, Cv 27 x_3] [Xb 2 tb2, Xb 4 sendb4, Xb 5 receiveb5]) x_3 rfl (by kernel_rfl) ?_
  exact eY (n := 5) (by kernel_rfl) (lE c1 v15 v13 v14 v15 x_3 (len x_3) 0 tb2 sendb4 receiveb5)
 ·exact av (by kernel_rfl)
theorem eo (c1 : Sl Int) (v13 : Sl Int) (v14 : Int) (v15 : Int) (tb2 : Trace) (sendb4 : aa) (receiveb5 : aa) : Le ((W1 c1 v13 v14 v15 tb2 sendb4 receiveb5).bind (fun r => some [enc r.1, enc r.2.1, .bool r.2.2])) (rn S (ah S T) (cj [.ld 4 2 true, .ld 5 2 true, .s 6]) (.rc (.loop cg)) mC (af [Cv 1 c1, Pv 2, Pv 4, Pv 5, Cv 13 v13, Iv 14 v14, Iv 15 v15] [Xb 2 tb2, Xb 4 sendb4, Xb 5 receiveb5])) := by
 unfold W1
 refine eJ (n := 0) (fs := mC) (a := cg) (eσ := cJ S c1 v13 v14 tb2 sendb4 receiveb5) (eε := cL S c1 v13 v14 tb2 sendb4 receiveb5) (eρ := cM S c1 v13 v14 tb2 sendb4 receiveb5) (by kernel_rfl) (fun q => aY c1 v13 v14 tb2 sendb4 receiveb5 q) ?_ ?_
 ·intro e
  exact av (by kernel_rfl)
 ·intro e
  exact av (by kernel_rfl)
end
end dz
noncomputable def dz (t0 : Trace) (c1 : Sl Int) : Option (aa × aa × Bool) :=
 dz.W1 c1 c1 (len c1) 0 t0 (⟨0, 0⟩ : aa) (⟨0, 0⟩ : aa)
open dz in
theorem yf {S : Sys} {T : az} [gY S T] (t0 : Trace) (c1 : Sl Int) : Le ((dz t0 c1).bind fun r => some [enc r.1, enc r.2.1, .bool r.2.2]) (bl (ah S T) (S.N 44) [enc t0, enc c1]) := by
 refine cZ (gY.t (S := S) (T := T)) (Nat.le_of_ble_eq_true rfl) ?_
 unfold dz
 refine gm 2 false [] Q2 F2 (af [Cv 0 t0, Cv 1 c1] []) t0 rfl (by kernel_rfl) (by kernel_rfl) ?_
 refine dP 9 false [] Q1 F1 (af [Cv 1 c1, Pv 2, Pv 4, Pv 5, Cv 13 c1] [Xb 2 t0, Xb 4 (⟨0, 0⟩ : aa), Xb 5 (⟨0, 0⟩ : aa)]) c1 rfl (by kernel_rfl) ?_
 exact eY (n := 5) (by kernel_rfl) (eo c1 c1 (len c1) 0 t0 (⟨0, 0⟩ : aa) (⟨0, 0⟩ : aa))
theorem wP {S : Sys} {T : az} [gY S T] : dS S (ah S T) (S.N 44) (fun z : Trace × (Sl Int) => [enc z.1, enc z.2]) (fun r : aa × aa × Bool => [enc r.1, enc r.2.1, .bool r.2.2]) (fun z => dz z.1 z.2) true where
 k := gY.k (S := S) (T := T)
 h z := yf z.1 z.2
 l z := by simp
 r r := by simp
 s h r := by kernel_rfl
namespace gi
def Q2 : List RO := o2 2 (.a .box) [0] [0] ::
 o1 4 (.k (.bool false)) [4] ::
 []
def Q1 : List RO := o2 11 .c [.f 44, 9, 10] [9,10] ::
 o1 8 11 [11] ::
 o2 12 (.p (.ext 0)) [8] [] ::
 o2 13 (.p (.ext 1)) [8] [] ::
 o2 14 (.p (.ext 2)) [8] [8] ::
 o2 5 (.a (.alloc 2 [.int .i64 0, .int .i64 0])) [] [] ::
 o2 6 (.a (.alloc 2 [.int .i64 0, .int .i64 0])) [] [] ::
 oz (su 2) [5, 12] [5,12] ::
 oz (su 2) [6, 13] [6,13] ::
 o1 7 14 [14] ::
 []
def U1 : RC := .seq (.ops (o1 15 7 [7] ::
 o2 16 (.p (.not)) [15] [15] ::
 o1 4 16 [16] ::
 [])) (.ret)
def U2 : RC := .seq (.ops (o2 9 (lD 1) [2] [2] ::
 o1 10 1 [1] ::
 Q1)) (U1)
def text : RF := ⟨17, [.s 4], .seq (.ops Q2) (U2)⟩
def F1 : List Fm := [.seq U1]
def F2 : List Fm := [.seq U2]
end gi
class ir (S : Sys) (T : az) : Prop where
 t : T (S.N 45) = some gi.text
 k : S.E.keep (S.N 45) = false
 c0 : gY S T
attribute [instance] ir.c0
namespace gi
section
variable {S : Sys} {T : az} [ir S T]
end
end gi
noncomputable def gi (t0 : Trace) (c1 : Sl Int) : Option Bool :=
 (dz t0 c1).bind fun x_1 =>
 some (!x_1.2.2)
open gi in
theorem zR {S : Sys} {T : az} [ir S T] (t0 : Trace) (c1 : Sl Int) : Le ((gi t0 c1).bind fun r => some [.bool r]) (bl (ah S T) (S.N 45) [enc t0, enc c1]) := by
 refine cZ (ir.t (S := S) (T := T)) (Nat.le_of_ble_eq_true rfl) ?_
 unfold gi
 refine gm 2 false [] Q2 F2 (af [Cv 0 t0, Cv 1 c1] []) t0 rfl (by kernel_rfl) (by kernel_rfl) ?_
 refine bg 7 [] Q1 F1 (af [Cv 9 t0, Cv 10 c1] [Xb 2 t0]) (wP (S := S) (T := T)) (t0, c1) rfl (by kernel_rfl) fun x_1 h_1 => ?_
 exact av (by kernel_rfl)
theorem yE {S : Sys} {T : az} [ir S T] : dS S (ah S T) (S.N 45) (fun z : Trace × (Sl Int) => [enc z.1, enc z.2]) (fun r : Bool => [.bool r]) (fun z => gi z.1 z.2) true where
 k := ir.k (S := S) (T := T)
 h z := zR z.1 z.2
 l z := by simp
 r r := by simp
 s h r := by kernel_rfl
namespace cN
def Q3 : List RO := o2 3 (.a .box) [0] [0] ::
 o1 6 (.k (.int .i64 0)) [6] ::
 []
def Q2 : List RO := o2 15 .c [.f 39, 13, 14] [13,14] ::
 o2 16 (.p (.not)) [15] [15] ::
 []
def C1 : RC := .cond (.s 16) (.seq (.ops (o1 6 (.k (.int .i64 1)) [] ::
 [])) (.gh (.keep [6] []) (.ret))) (.skip)
def Q1 : List RO := o2 18 ln [17] [] ::
 o1 19 (.k (.int .i64 0)) [] ::
 []
def C2 : RC := .cond (.s 20) (.skip) (.gh (.keep [1,2,3] [3]) (.exit 0))
def Q5 : List RO := o2 21 (ix 1) [17, 19] [] ::
 o2 22 (ld 1) [21] [21] ::
 o1 8 22 [22] ::
 []
def Q4 : List RO := o2 25 .c [.f 40, 23, 24] [23,24] ::
 o2 26 (.p (.not)) [25] [25] ::
 []
def C3 : RC := .cond (.s 26) (.seq (.ops (o1 6 (.k (.int .i64 2)) [] ::
 [])) (.gh (.keep [6] []) (.ret))) (.skip)
def U1 : RC := .seq (.ops (o2 23 (lD 1) [3] [] ::
 o1 24 8 [8] ::
 Q4)) (C3)
def U2 : RC := .ops (o2 27 (bI .add) [19, .k (.int .i64 1)] [19] ::
 o1 19 27 [27] ::
 [])
def U3 : RC := .seq (.block 1 (.seq (.ops Q5) (U1))) (U2)
def cg : RC := .hg (.seq (.ops (o2 20 (bI .lss) [19, 18] [] ::
 [])) (.seq (C2) (U3))) (.keep [1,2,3,17,18,19] [3])
def U4 : RC := .block 0 (.gh (.keep [1,2,3,17,18,19] [3]) (.loop cg))
def gO : List RO := o2 29 ln [28] [] ::
 o1 30 (.k (.int .i64 0)) [] ::
 []
def C4 : RC := .cond (.s 31) (.skip) (.gh (.keep [1,3] [3]) (.exit 2))
def Q7 : List RO := o2 32 (ix 1) [28, 30] [] ::
 o2 33 (ld 1) [32] [32] ::
 o1 10 33 [33] ::
 []
def Q6 : List RO := o2 36 .c [.f 41, 34, 35] [34,35] ::
 o2 37 (.p (.not)) [36] [36] ::
 []
def C5 : RC := .cond (.s 37) (.seq (.ops (o1 6 (.k (.int .i64 2)) [] ::
 [])) (.gh (.keep [6] []) (.ret))) (.skip)
def U5 : RC := .seq (.ops (o2 34 (lD 1) [3] [] ::
 o1 35 10 [10] ::
 Q6)) (C5)
def U6 : RC := .ops (o2 38 (bI .add) [30, .k (.int .i64 1)] [30] ::
 o1 30 38 [38] ::
 [])
def U7 : RC := .seq (.block 3 (.seq (.ops Q7) (U5))) (U6)
def iA : RC := .hg (.seq (.ops (o2 31 (bI .lss) [30, 29] [] ::
 [])) (.seq (C4) (U7))) (.keep [1,3,28,29,30] [3])
def U8 : RC := .block 2 (.gh (.keep [1,3,28,29,30] [3]) (.loop iA))
def iQ : List RO := o2 40 ln [39] [] ::
 o1 41 (.k (.int .i64 0)) [] ::
 []
def C6 : RC := .cond (.s 42) (.skip) (.gh (.keep [] []) (.exit 4))
def Q9 : List RO := o2 43 (ix 1) [39, 41] [] ::
 o2 44 (ld 1) [43] [43] ::
 o1 12 44 [44] ::
 []
def Q8 : List RO := o2 47 .c [.f 45, 45, 46] [45,46] ::
 o2 48 (.p (.not)) [47] [47] ::
 []
def C7 : RC := .cond (.s 48) (.seq (.ops (o1 6 (.k (.int .i64 18)) [] ::
 [])) (.gh (.keep [6] []) (.ret))) (.skip)
def U9 : RC := .seq (.ops (o2 45 (lD 1) [3] [] ::
 o1 46 12 [12] ::
 Q8)) (C7)
def m4 : RC := .ops (o2 49 (bI .add) [41, .k (.int .i64 1)] [41] ::
 o1 41 49 [49] ::
 [])
def mM : RC := .seq (.block 5 (.seq (.ops Q9) (U9))) (m4)
def qE : RC := .hg (.seq (.ops (o2 42 (bI .lss) [41, 40] [] ::
 [])) (.seq (C6) (mM))) (.keep [3,39,40,41] [3])
def lV : RC := .block 4 (.gh (.keep [3,39,40,41] [3]) (.loop qE))
def ov : RC := .seq (.ops (o1 6 (.k (.int .i64 0)) [] ::
 [])) (.gh (.keep [6] []) (.ret))
def pS : RC := .seq (.seq (.ops (o1 39 1 [1] ::
 iQ)) (lV)) (ov)
def oD : RC := .seq (.seq (.ops (o1 28 2 [2] ::
 gO)) (U8)) (pS)
def ES : RC := .seq (.seq (.ops (o1 17 1 [] ::
 Q1)) (U4)) (oD)
def D7 : RC := .seq (.seq (.ops (o2 13 (lD 1) [3] [] ::
 o1 14 1 [] ::
 Q2)) (C1)) (ES)
def text : RF := ⟨50, [.s 6], .seq (.ops Q3) (D7)⟩
def F2 : List Fm := [.seq ES]
def F4 : List Fm := [.seq D7]
def F1 : List Fm := [.seq U4, .seq oD]
def F3 : List Fm := .seq C1 :: F2
def F8 : List Fm := [.seq U3, .gst (.keep [1,2,3,17,18,19] [3])]
def ku : List Fm := [.seq U7, .gst (.keep [1,3,28,29,30] [3])]
def t_ : List Fm := [.seq mM, .gst (.keep [3,39,40,41] [3])]
def Cc : List Fm := [.seq U8, .seq pS]
def ue : List Fm := [.seq lV, .seq ov]
def GR : List Fm := [.blk 4, .seq ov]
def GG : List Fm := [.blk 2, .seq pS]
def D3 : List Fm := [.blk 0, .seq oD]
def F5 : List Fm := [.blk 1, .seq U2, .gst (.keep [1,2,3,17,18,19] [3])]
def F9 : List Fm := [.blk 3, .seq U6, .gst (.keep [1,3,28,29,30] [3])]
def mC : List Fm := [.blk 5, .seq m4, .gst (.keep [3,39,40,41] [3])]
def F6 : List Fm := .seq C3 :: F5
def F7 : List Fm := .seq U1 :: F5
def jo : List Fm := .seq C5 :: F9
def lH : List Fm := .seq U5 :: F9
def o0 : List Fm := .seq C7 :: mC
def sV : List Fm := .seq U9 :: mC
end cN
class fV (S : Sys) (T : az) : Prop where
 t : T (S.N 46) = some cN.text
 k : S.E.keep (S.N 46) = false
 c0 : ir S T
 c1 : iB S T
 c2 : iH S T
 c3 : gP S T
attribute [instance] fV.c0 fV.c1 fV.c2 fV.c3
namespace cN
section
variable {S : Sys} {T : az} [fV S T]
noncomputable def iw (v39 : Sl (Sl Int)) (v40 : Int) (tb3 : Trace) (v41 : Int) : Option (Fw Int Unit Unit) :=
 aL (decide (v41 < v40))
 ((idx v39 v41).bind fun x_1 =>
 (gi tb3 x_1).bind fun x_2 =>
 aL x_2
 (some (.n (IntKind.wrap .i64 (v41 + 1))))
 (some (.r ())))
 (some (.x ()))
noncomputable def W3 (v39 : Sl (Sl Int)) (v40 : Int) (v41 : Int) (tb3 : Trace) : Option Int :=
 (cW (fun q : Int => iw v39 v40 tb3 q) v41).bind (Fw.elim
 (fun e => some 0)
 (fun e => some 18))
def tP (S : Sys) (v39 : Sl (Sl Int)) (v40 : Int) (tb3 : Trace) : Int → St := fun q => (af [Pv 3, Cv 39 v39, Iv 40 v40, Iv 41 q] [Xb 3 tb3])
def tY (S : Sys) (v39 : Sl (Sl Int)) (v40 : Int) (tb3 : Trace) : Unit → Nat × St := fun e => (4, (af [] []))
def uh (S : Sys) (v39 : Sl (Sl Int)) (v40 : Int) (tb3 : Trace) : Unit → St := fun e => (af [Iv 6 18] [])
noncomputable def cC (l1 : Sl (Sl Int)) (v28 : Sl Int) (v29 : Int) (tb3 : Trace) (v30 : Int) : Option (Fw Int Unit Unit) :=
 aL (decide (v30 < v29))
 ((idx v28 v30).bind fun x_1 =>
 (fY tb3 x_1).bind fun x_2 =>
 aL x_2
 (some (.n (IntKind.wrap .i64 (v30 + 1))))
 (some (.r ())))
 (some (.x ()))
noncomputable def W2 (l1 : Sl (Sl Int)) (v28 : Sl Int) (v29 : Int) (v30 : Int) (tb3 : Trace) : Option Int :=
 (cW (fun q : Int => cC l1 v28 v29 tb3 q) v30).bind (Fw.elim
 (fun e => cN.W3 l1 (len l1) 0 tb3)
 (fun e => some 2))
def jD (S : Sys) (l1 : Sl (Sl Int)) (v28 : Sl Int) (v29 : Int) (tb3 : Trace) : Int → St := fun q => (af [Cv 1 l1, Pv 3, Cv 28 v28, Iv 29 v29, Iv 30 q] [Xb 3 tb3])
def jB (S : Sys) (l1 : Sl (Sl Int)) (v28 : Sl Int) (v29 : Int) (tb3 : Trace) : Unit → Nat × St := fun e => (2, (af [Cv 1 l1, Pv 3] [Xb 3 tb3]))
def jA (S : Sys) (l1 : Sl (Sl Int)) (v28 : Sl Int) (v29 : Int) (tb3 : Trace) : Unit → St := fun e => (af [Iv 6 2] [])
noncomputable def aB (l1 : Sl (Sl Int)) (procs2 : Sl Int) (v17 : Sl (Sl Int)) (v18 : Int) (tb3 : Trace) (v19 : Int) : Option (Fw Int Unit Unit) :=
 aL (decide (v19 < v18))
 ((idx v17 v19).bind fun x_1 =>
 (dY tb3 x_1).bind fun x_2 =>
 aL x_2
 (some (.n (IntKind.wrap .i64 (v19 + 1))))
 (some (.r ())))
 (some (.x ()))
noncomputable def W1 (l1 : Sl (Sl Int)) (procs2 : Sl Int) (v17 : Sl (Sl Int)) (v18 : Int) (v19 : Int) (tb3 : Trace) : Option Int :=
 (cW (fun q : Int => aB l1 procs2 v17 v18 tb3 q) v19).bind (Fw.elim
 (fun e => cN.W2 l1 procs2 (len procs2) 0 tb3)
 (fun e => some 2))
def cJ (S : Sys) (l1 : Sl (Sl Int)) (procs2 : Sl Int) (v17 : Sl (Sl Int)) (v18 : Int) (tb3 : Trace) : Int → St := fun q => (af [Cv 1 l1, Cv 2 procs2, Pv 3, Cv 17 v17, Iv 18 v18, Iv 19 q] [Xb 3 tb3])
def cL (S : Sys) (l1 : Sl (Sl Int)) (procs2 : Sl Int) (v17 : Sl (Sl Int)) (v18 : Int) (tb3 : Trace) : Unit → Nat × St := fun e => (0, (af [Cv 1 l1, Cv 2 procs2, Pv 3] [Xb 3 tb3]))
def cM (S : Sys) (l1 : Sl (Sl Int)) (procs2 : Sl Int) (v17 : Sl (Sl Int)) (v18 : Int) (tb3 : Trace) : Unit → St := fun e => (af [Iv 6 2] [])
theorem mV (v39 : Sl (Sl Int)) (v40 : Int) (tb3 : Trace) (v41 : Int) : Le ((iw v39 v40 tb3 v41).bind (fun w => some (Fw.out (tP S v39 v40 tb3) (tY S v39 v40 tb3) (uh S v39 v40 tb3) w))) (rn S (ah S T) some (.rc qE) [] (af [Pv 3, Cv 39 v39, Iv 40 v40, Iv 41 v41] [Xb 3 tb3])) := by
 unfold iw
 refine aJ (n := 7) (fo' := .rc C6) (fs' := t_) (t := decide (v41 < v40)) (A := fun bb => (af [Pv 3, Cv 39 v39, Iv 40 v40, Iv 41 v41, Bv 42 bb] [Xb 3 tb3])) (by kernel_rfl) ?_ ?_
 ·refine ey 7 false [] Q9 sV (af [Pv 3, Cv 39 v39, Iv 40 v40, Iv 41 v41, Bv 42 true] [Xb 3 tb3]) .i64 rfl (by kernel_rfl) fun x_1 h_1 => ?_
  refine bg 8 [] Q8 o0 (af [Pv 3, Cv 39 v39, Iv 40 v40, Iv 41 v41, Bv 42 true, Cv 45 tb3, Cv 46 x_1] [Xb 3 tb3]) (yE (S := S) (T := T)) (tb3, x_1) rfl (by kernel_rfl) fun x_2 h_2 => ?_
  refine aJ (n := 3) (fo' := .rc C7) (fs' := mC) (t := x_2) (A := fun bb => (af [Pv 3, Cv 39 v39, Iv 40 v40, Iv 41 v41, Bv 42 true, Bv 48 (!bb)] [Xb 3 tb3])) (by kernel_rfl) ?_ ?_
  ·exact av (by kernel_rfl)
  ·exact av (by kernel_rfl)
 ·exact av (by kernel_rfl)
theorem wv (v39 : Sl (Sl Int)) (v40 : Int) (v41 : Int) (tb3 : Trace) : Le ((W3 v39 v40 v41 tb3).bind (fun r => some [.int .i64 r])) (rn S (ah S T) (cj [.s 6]) (.rc (.loop qE)) GR (af [Pv 3, Cv 39 v39, Iv 40 v40, Iv 41 v41] [Xb 3 tb3])) := by
 unfold W3
 refine eJ (n := 0) (fs := GR) (a := qE) (eσ := tP S v39 v40 tb3) (eε := tY S v39 v40 tb3) (eρ := uh S v39 v40 tb3) (by kernel_rfl) (fun q => mV v39 v40 tb3 q) ?_ ?_
 ·intro e
  exact av (by kernel_rfl)
 ·intro e
  exact av (by kernel_rfl)
theorem ga (l1 : Sl (Sl Int)) (v28 : Sl Int) (v29 : Int) (tb3 : Trace) (v30 : Int) : Le ((cC l1 v28 v29 tb3 v30).bind (fun w => some (Fw.out (jD S l1 v28 v29 tb3) (jB S l1 v28 v29 tb3) (jA S l1 v28 v29 tb3) w))) (rn S (ah S T) some (.rc iA) [] (af [Cv 1 l1, Pv 3, Cv 28 v28, Iv 29 v29, Iv 30 v30] [Xb 3 tb3])) := by
 unfold cC
 refine aJ (n := 7) (fo' := .rc C4) (fs' := ku) (t := decide (v30 < v29)) (A := fun bb => (af [Cv 1 l1, Pv 3, Cv 28 v28, Iv 29 v29, Iv 30 v30, Bv 31 bb] [Xb 3 tb3])) (by kernel_rfl) ?_ ?_
 ·refine ey 7 false [] Q7 lH (af [Cv 1 l1, Pv 3, Cv 28 v28, Iv 29 v29, Iv 30 v30, Bv 31 true] [Xb 3 tb3]) .i64 rfl (by kernel_rfl) fun x_1 h_1 => ?_
  refine bg 8 [] Q6 jo (af [Cv 1 l1, Pv 3, Cv 28 v28, Iv 29 v29, Iv 30 v30, Bv 31 true, Cv 34 tb3, Iv 35 x_1] [Xb 3 tb3]) (xh (S := S) (T := T)) (tb3, x_1) rfl (by kernel_rfl) fun x_2 h_2 => ?_
  refine aJ (n := 3) (fo' := .rc C5) (fs' := F9) (t := x_2) (A := fun bb => (af [Cv 1 l1, Pv 3, Cv 28 v28, Iv 29 v29, Iv 30 v30, Bv 31 true, Bv 37 (!bb)] [Xb 3 tb3])) (by kernel_rfl) ?_ ?_
  ·exact av (by kernel_rfl)
  ·exact av (by kernel_rfl)
 ·exact av (by kernel_rfl)
theorem lE (l1 : Sl (Sl Int)) (v28 : Sl Int) (v29 : Int) (v30 : Int) (tb3 : Trace) : Le ((W2 l1 v28 v29 v30 tb3).bind (fun r => some [.int .i64 r])) (rn S (ah S T) (cj [.s 6]) (.rc (.loop iA)) GG (af [Cv 1 l1, Pv 3, Cv 28 v28, Iv 29 v29, Iv 30 v30] [Xb 3 tb3])) := by
 unfold W2
 refine eJ (n := 0) (fs := GG) (a := iA) (eσ := jD S l1 v28 v29 tb3) (eε := jB S l1 v28 v29 tb3) (eρ := jA S l1 v28 v29 tb3) (by kernel_rfl) (fun q => ga l1 v28 v29 tb3 q) ?_ ?_
 ·intro e
  refine dP 6 false [] iQ ue (af [Pv 3, Cv 39 l1] [Xb 3 tb3]) l1 rfl (by kernel_rfl) ?_
  exact eY (n := 5) (by kernel_rfl) (wv l1 (len l1) 0 tb3)
 ·intro e
  exact av (by kernel_rfl)
theorem aY (l1 : Sl (Sl Int)) (procs2 : Sl Int) (v17 : Sl (Sl Int)) (v18 : Int) (tb3 : Trace) (v19 : Int) : Le ((aB l1 procs2 v17 v18 tb3 v19).bind (fun w => some (Fw.out (cJ S l1 procs2 v17 v18 tb3) (cL S l1 procs2 v17 v18 tb3) (cM S l1 procs2 v17 v18 tb3) w))) (rn S (ah S T) some (.rc cg) [] (af [Cv 1 l1, Cv 2 procs2, Pv 3, Cv 17 v17, Iv 18 v18, Iv 19 v19] [Xb 3 tb3])) := by
 unfold aB
 refine aJ (n := 7) (fo' := .rc C2) (fs' := F8) (t := decide (v19 < v18)) (A := fun bb => (af [Cv 1 l1, Cv 2 procs2, Pv 3, Cv 17 v17, Iv 18 v18, Iv 19 v19, Bv 20 bb] [Xb 3 tb3])) (by kernel_rfl) ?_ ?_
 ·refine ey 7 false [] Q5 F7 (af [Cv 1 l1, Cv 2 procs2, Pv 3, Cv 17 v17, Iv 18 v18, Iv 19 v19, Bv 20 true] [Xb 3 tb3]) .i64 rfl (by kernel_rfl) fun x_1 h_1 => ?_
  refine bg 8 [] Q4 F6 (af [Cv 1 l1, Cv 2 procs2, Pv 3, Cv 17 v17, Iv 18 v18, Iv 19 v19, Bv 20 true, Cv 23 tb3, Cv 24 x_1] [Xb 3 tb3]) (xx (S := S) (T := T)) (tb3, x_1) rfl (by kernel_rfl) fun x_2 h_2 => ?_
  refine aJ (n := 3) (fo' := .rc C3) (fs' := F5) (t := x_2) (A := fun bb => (af [Cv 1 l1, Cv 2 procs2, Pv 3, Cv 17 v17, Iv 18 v18, Iv 19 v19, Bv 20 true, Bv 26 (!bb)] [Xb 3 tb3])) (by kernel_rfl) ?_ ?_
  ·exact av (by kernel_rfl)
  ·exact av (by kernel_rfl)
 ·exact av (by kernel_rfl)
theorem eo (l1 : Sl (Sl Int)) (procs2 : Sl Int) (v17 : Sl (Sl Int)) (v18 : Int) (v19 : Int) (tb3 : Trace) : Le ((W1 l1 procs2 v17 v18 v19 tb3).bind (fun r => some [.int .i64 r])) (rn S (ah S T) (cj [.s 6]) (.rc (.loop cg)) D3 (af [Cv 1 l1, Cv 2 procs2, Pv 3, Cv 17 v17, Iv 18 v18, Iv 19 v19] [Xb 3 tb3])) := by
 unfold W1
 refine eJ (n := 0) (fs := D3) (a := cg) (eσ := cJ S l1 procs2 v17 v18 tb3) (eε := cL S l1 procs2 v17 v18 tb3) (eρ := cM S l1 procs2 v17 v18 tb3) (by kernel_rfl) (fun q => aY l1 procs2 v17 v18 tb3 q) ?_ ?_
 ·intro e
  refine dP 6 false [] gO Cc (af [Cv 1 l1, Pv 3, Cv 28 procs2] [Xb 3 tb3]) procs2 rfl (by kernel_rfl) ?_
  exact eY (n := 5) (by kernel_rfl) (lE l1 procs2 (len procs2) 0 tb3)
 ·intro e
  exact av (by kernel_rfl)
end
end cN
noncomputable def cN (t0 : Trace) (l1 : Sl (Sl Int)) (procs2 : Sl Int) : Option Int :=
 (gE t0 l1).bind fun x_1 =>
 aL x_1
 (cN.W1 l1 procs2 l1 (len l1) 0 t0)
 (some 1)
open cN in
theorem Bl {S : Sys} {T : az} [fV S T] (t0 : Trace) (l1 : Sl (Sl Int)) (procs2 : Sl Int) : Le ((cN t0 l1 procs2).bind fun r => some [.int .i64 r]) (bl (ah S T) (S.N 46) [enc t0, enc l1, enc procs2]) := by
 refine cZ (fV.t (S := S) (T := T)) (Nat.le_of_ble_eq_true rfl) ?_
 unfold cN
 refine gm 2 false [] Q3 F4 (af [Cv 0 t0, Cv 1 l1, Cv 2 procs2] []) t0 rfl (by kernel_rfl) (by kernel_rfl) ?_
 refine bg 8 [] Q2 F3 (af [Cv 1 l1, Cv 2 procs2, Pv 3, Cv 13 t0, Cv 14 l1] [Xb 3 t0]) (zW (S := S) (T := T)) (t0, l1) rfl (by kernel_rfl) fun x_1 h_1 => ?_
 refine aJ (n := 3) (fo' := .rc C1) (fs' := F2) (t := x_1) (A := fun bb => (af [Cv 1 l1, Cv 2 procs2, Pv 3, Bv 16 (!bb)] [Xb 3 t0])) (by kernel_rfl) ?_ ?_
 ·refine dP 7 false [] Q1 F1 (af [Cv 1 l1, Cv 2 procs2, Pv 3, Bv 16 false, Cv 17 l1] [Xb 3 t0]) l1 rfl (by kernel_rfl) ?_
  exact eY (n := 5) (by kernel_rfl) (eo l1 procs2 l1 (len l1) 0 t0)
 ·exact av (by kernel_rfl)
theorem s8 {S : Sys} {T : az} [fV S T] : dS S (ah S T) (S.N 46) (fun z : Trace × (Sl (Sl Int)) × (Sl Int) => [enc z.1, enc z.2.1, enc z.2.2]) (fun r : Int => [.int .i64 r]) (fun z => cN z.1 z.2.1 z.2.2) true where
 k := fV.k (S := S) (T := T)
 h z := Bl z.1 z.2.1 z.2.2
 l z := by simp
 r r := by simp
 s h r := by kernel_rfl
namespace dK
def Q3 : List RO := o2 2 (.a .box) [0] [0] ::
 o1 4 (.k (.bool false)) [4] ::
 []
def Q1 : List RO := o2 8 .c [.f 46, 5, 7, .k (.au)] [5,7] ::
 o2 9 (bI .eql) [8, .k (.int .i64 0)] [8] ::
 o1 4 9 [9] ::
 []
def Q2 : List RO := o2 7 (.a (.buildSl 1 1 [.au] [0])) [6] [6] ::
 Q1
def U1 : RC := .seq (.ops (o2 5 (lD 1) [2] [2] ::
 o1 6 1 [1] ::
 Q2)) (.ret)
def text : RF := ⟨10, [.s 4], .seq (.ops Q3) (U1)⟩
def F1 : List Fm := [.seq .ret]
def F2 : List Fm := [.seq U1]
end dK
class fS (S : Sys) (T : az) : Prop where
 t : T (S.N 47) = some dK.text
 k : S.E.keep (S.N 47) = false
 c0 : fV S T
attribute [instance] fS.c0
namespace dK
section
variable {S : Sys} {T : az} [fS S T]
end
end dK
noncomputable def dK (t0 : Trace) (c1 : Sl Int) : Option Bool :=
 (cN t0 (Sl.row [c1] : Sl (Sl Int)) (Sl.nil : Sl Int)).bind fun x_1 =>
 some (x_1 == 0)
open dK in
theorem uT {S : Sys} {T : az} [fS S T] (t0 : Trace) (c1 : Sl Int) : Le ((dK t0 c1).bind fun r => some [.bool r]) (bl (ah S T) (S.N 47) [enc t0, enc c1]) := by
 refine cZ (fS.t (S := S) (T := T)) (Nat.le_of_ble_eq_true rfl) ?_
 unfold dK
 refine gm 2 false [] Q3 F2 (af [Cv 0 t0, Cv 1 c1] []) t0 rfl (by kernel_rfl) (by kernel_rfl) ?_
 refine Kd 7 false [] Q2 F1 (af [Cv 5 t0, Cv 6 c1] [Xb 2 t0]) ([c1] : List (Sl Int)) rfl (by kernel_rfl) (by kernel_rfl) ?_
 refine kK 0 false [] Q1 F1 (af [Cv 5 t0, (7, .own 7)] [Xb 2 t0, Lb 7 (Sl.row [c1] : Sl (Sl Int))]) (s8 (S := S) (T := T)) (t0, (Sl.row [c1] : Sl (Sl Int)), (Sl.nil : Sl Int)) [.v (.clo (S.N 46) [] []), cv t0, .own 7, .v .au] [cv t0, .own 7, .v .au] rfl (by kernel_rfl) fun x_1 h_1 => ?_
 exact av (by kernel_rfl)
theorem ug {S : Sys} {T : az} [fS S T] : dS S (ah S T) (S.N 47) (fun z : Trace × (Sl Int) => [enc z.1, enc z.2]) (fun r : Bool => [.bool r]) (fun z => dK z.1 z.2) true where
 k := fS.k (S := S) (T := T)
 h z := uT z.1 z.2
 l z := by simp
 r r := by simp
 s h r := by kernel_rfl
namespace dH
def Q4 : List RO := o2 2 (.a .box) [0] [0] ::
 o1 4 (.k (.au)) [4] ::
 o1 5 (.k (.int .i64 0)) [5] ::
 []
def Q2 : List RO := o2 13 .c [.f 46, 10, 12, .k (.au)] [10,12] ::
 o1 6 13 [13] ::
 []
def Q3 : List RO := o2 12 (.a (.buildSl 1 1 [.au] [0])) [11] [11] ::
 Q2
def C1 : RC := .cond (.s 15) (.seq (.ops (o1 16 6 [6] ::
 o1 4 (.k (.au)) [] ::
 o1 5 16 [16] ::
 [])) (.ret)) (.skip)
def U1 : RC := .seq (.ops (o1 14 6 [] ::
 o2 15 (bI .neq) [14, .k (.int .i64 0)] [14] ::
 [])) (C1)
def Q1 : List RO := o2 18 ln [17] [] ::
 o1 19 (.k (.int .i64 0)) [] ::
 []
def C2 : RC := .cond (.s 20) (.skip) (.gh (.canon (.s 7) 2007 2) (.gh (.keep [7] [2007]) (.exit 0)))
def Q6 : List RO := o2 22 (ix 1) [17, 19] [] ::
 o2 23 (ld 1) [22] [22] ::
 o1 8 21 [21] ::
 o1 9 23 [23] ::
 []
def Q5 : List RO := o2 31 (.l (.append 2)) [26, 30] [26,30] ::
 o1 7 31 [31] ::
 []
def C3 : RC := .cond (.s 25) (.ops (o1 26 7 [7] ::
 o1 27 8 [8] ::
 o1 28 9 [9] ::
 o2 29 (.p (.build [.int .i64 0, .int .i64 0] [(0, 1), (1, 1)])) [27, 28] [27,28] ::
 o2 30 (.a (.buildSl 2 1 [.int .i64 0, .int .i64 0] [0])) [29] [29] ::
 Q5)) (.skip)
def U2 : RC := .seq (.ops (o1 24 9 [] ::
 o2 25 (bI .gtr) [24, .k (.int .i64 0)] [24] ::
 [])) (C3)
def U3 : RC := .ops (o2 32 (bI .add) [19, .k (.int .i64 1)] [19] ::
 o1 19 32 [32] ::
 [])
def U4 : RC := .seq (.block 1 (.seq (.ops (o1 21 19 [] ::
 Q6)) (U2))) (U3)
def cg : RC := .hg (.hg (.seq (.ops (o2 20 (bI .lss) [19, 18] [] ::
 [])) (.seq (C2) (U4))) (.canon (.s 7) 2007 2)) (.keep [7,17,18,19] [2007])
def U5 : RC := .block 0 (.gh (.canon (.s 7) 2007 2) (.gh (.keep [7,17,18,19] [2007]) (.loop cg)))
def U6 : RC := .seq (.ops (o1 33 7 [7] ::
 o1 4 33 [33] ::
 o1 5 (.k (.int .i64 0)) [] ::
 [])) (.ret)
def U7 : RC := .seq (.seq (.ops (o1 17 1 [1] ::
 Q1)) (U5)) (U6)
def U8 : RC := .seq (.ops (o1 7 (.k (.au)) [] ::
 [])) (U7)
def U9 : RC := .seq (.seq (.ops (o2 10 (lD 1) [2] [2] ::
 o1 11 1 [] ::
 Q3)) (U1)) (U8)
def text : RF := ⟨34, [.s 4, .s 5], .seq (.ops Q4) (U9)⟩
def F2 : List Fm := [.seq U8]
def F4 : List Fm := [.seq U9]
def F1 : List Fm := [.seq U5, .seq U6]
def F3 : List Fm := .seq U1 :: F2
def F8 : List Fm := [.blk 0, .seq U6]
def F7 : List Fm := [.seq U4, .gst (.canon (.s 7) 2007 2), .gst (.keep [7,17,18,19] [2007])]
def F5 : List Fm := [.blk 1, .seq U3, .gst (.canon (.s 7) 2007 2), .gst (.keep [7,17,18,19] [2007])]
def F6 : List Fm := .seq U2 :: F5
end dH
class gL (S : Sys) (T : az) : Prop where
 t : T (S.N 48) = some dH.text
 k : S.E.keep (S.N 48) = false
 c0 : fV S T
attribute [instance] gL.c0
namespace dH
section
variable {S : Sys} {T : az} [gL S T]
noncomputable def aB (v17 : Sl Int) (v18 : Int) (out7 : Sl aa) (v19 : Int) : Option (Fw ((Sl aa) × Int) (Sl aa) Empty) :=
 aL (decide (v19 < v18))
 ((idx v17 v19).bind fun x_1 =>
 aL (decide (x_1 > 0))
 ((iM out7 (⟨v19, x_1⟩ : aa)).bind fun x_2 =>
 some (.n (x_2, IntKind.wrap .i64 (v19 + 1))))
 (some (.n (out7, IntKind.wrap .i64 (v19 + 1)))))
 (some (.x out7))
noncomputable def W1 (out7 : Sl aa) (v17 : Sl Int) (v18 : Int) (v19 : Int) : Option ((Sl aa) × Int) :=
 (cW (fun q : (Sl aa) × Int => aB v17 v18 q.1 q.2) (out7, v19)).bind (Fw.elim
 (fun e => some (e, 0))
 (fun e => Empty.elim e))
def cJ (S : Sys) (v17 : Sl Int) (v18 : Int) : (Sl aa) × Int → St := fun q => (af [Ov 7, Cv 17 v17, Iv 18 v18, Iv 19 q.2] [Lb 2007 q.1])
def cL (S : Sys) (v17 : Sl Int) (v18 : Int) : (Sl aa) → Nat × St := fun e => (0, (af [Ov 7] [Lb 2007 e]))
def cM (S : Sys) (v17 : Sl Int) (v18 : Int) : Empty → St := fun e => Empty.elim e
theorem aY (v17 : Sl Int) (v18 : Int) (out7 : Sl aa) (v19 : Int) : Le ((aB v17 v18 out7 v19).bind (fun w => some (Fw.out (cJ S v17 v18) (cL S v17 v18) (cM S v17 v18) w))) (rn S (ah S T) some (.rc cg) [] (af [Ov 7, Cv 17 v17, Iv 18 v18, Iv 19 v19] [Lb 2007 out7])) := by
 unfold aB
 refine aJ (n := 8) (fo' := .rc C2) (fs' := F7) (t := decide (v19 < v18)) (A := fun bb => (af [Ov 7, Cv 17 v17, Iv 18 v18, Iv 19 v19, Bv 20 bb] [Lb 2007 out7])) (by kernel_rfl) ?_ ?_
 ·refine ey 8 false [] Q6 F6 (af [Ov 7, Cv 17 v17, Iv 18 v18, Iv 19 v19, Bv 20 true, Iv 21 v19] [Lb 2007 out7]) .i64 rfl (by kernel_rfl) fun x_1 h_1 => ?_
  refine aJ (n := 11) (fo' := .rc C3) (fs' := F5) (t := decide (x_1 > 0)) (A := fun bb => (af [Ov 7, Cv 17 v17, Iv 18 v18, Iv 19 v19, Bv 20 true, Iv 8 v19, Iv 9 x_1, Bv 25 bb] [Lb 2007 out7])) (by kernel_rfl) ?_ ?_
  ·refine vV 7 false [] Q5 F5 (af [Cv 17 v17, Iv 18 v18, Iv 19 v19, Bv 20 true, Bv 25 true, (26, .own 2007), (30, .own 30)] [Lb 2007 out7, Lb 30 (Sl.row [⟨v19, x_1⟩] : Sl aa)]) 2007 30 rfl (by kernel_rfl) (by kernel_rfl) fun x_2 h_2 => ?_
   exact av (by kernel_rfl)
  ·exact av (by kernel_rfl)
 ·exact av (by kernel_rfl)
theorem eo (out7 : Sl aa) (v17 : Sl Int) (v18 : Int) (v19 : Int) : Le ((W1 out7 v17 v18 v19).bind (fun r => some [enc r.1, .int .i64 r.2])) (rn S (ah S T) (cj [.s 4, .s 5]) (.rc (.loop cg)) F8 (af [Ov 7, Cv 17 v17, Iv 18 v18, Iv 19 v19] [Lb 2007 out7])) := by
 unfold W1
 refine eJ (n := 0) (fs := F8) (a := cg) (eσ := cJ S v17 v18) (eε := cL S v17 v18) (eρ := cM S v17 v18) (by kernel_rfl) (fun q => aY v17 v18 q.1 q.2) ?_ ?_
 ·intro e
  exact av (by kernel_rfl)
 ·intro e; exact Empty.elim e
end
end dH
noncomputable def dH (t0 : Trace) (c1 : Sl Int) : Option ((Sl aa) × Int) :=
 (cN t0 (Sl.row [c1] : Sl (Sl Int)) (Sl.nil : Sl Int)).bind fun x_1 =>
 aL (x_1 == 0)
 (dH.W1 (Sl.nil : Sl aa) c1 (len c1) 0)
 (some (Sl.nil, x_1))
open dH in
theorem wA {S : Sys} {T : az} [gL S T] (t0 : Trace) (c1 : Sl Int) : Le ((dH t0 c1).bind fun r => some [enc r.1, .int .i64 r.2]) (bl (ah S T) (S.N 48) [enc t0, enc c1]) := by
 refine cZ (gL.t (S := S) (T := T)) (Nat.le_of_ble_eq_true rfl) ?_
 unfold dH
 refine gm 2 false [] Q4 F4 (af [Cv 0 t0, Cv 1 c1] []) t0 rfl (by kernel_rfl) (by kernel_rfl) ?_
 refine Kd 9 false [] Q3 F3 (af [Cv 1 c1, Cv 10 t0, Cv 11 c1] [Xb 2 t0]) ([c1] : List (Sl Int)) rfl (by kernel_rfl) (by kernel_rfl) ?_
 refine kK 0 false [] Q2 F3 (af [Cv 1 c1, Cv 10 t0, (12, .own 12)] [Xb 2 t0, Lb 12 (Sl.row [c1] : Sl (Sl Int))]) (s8 (S := S) (T := T)) (t0, (Sl.row [c1] : Sl (Sl Int)), (Sl.nil : Sl Int)) [.v (.clo (S.N 46) [] []), cv t0, .own 12, .v .au] [cv t0, .own 12, .v .au] rfl (by kernel_rfl) fun x_1 h_1 => ?_
 refine aJ (n := 9) (fo' := .rc C1) (fs' := F2) (t := (x_1 == 0)) (A := fun bb => (af [Cv 1 c1, Iv 6 x_1, Bv 15 (!bb)] [Xb 2 t0, Lb 12 (Sl.row [c1] : Sl (Sl Int))])) (by kernel_rfl) ?_ ?_
 ·refine dP 12 false [] Q1 F1 (af [Iv 6 x_1, Bv 15 false, (7, .v .au), Cv 17 c1] [Xb 2 t0, Lb 12 (Sl.row [c1] : Sl (Sl Int))]) c1 rfl (by kernel_rfl) ?_
  exact eY (n := 6) (by kernel_rfl) (eo (Sl.nil : Sl aa) c1 (len c1) 0)
 ·exact av (by kernel_rfl)
theorem wk {S : Sys} {T : az} [gL S T] : dS S (ah S T) (S.N 48) (fun z : Trace × (Sl Int) => [enc z.1, enc z.2]) (fun r : (Sl aa) × Int => [enc r.1, .int .i64 r.2]) (fun z => dH z.1 z.2) false where
 k := gL.k (S := S) (T := T)
 h z := wA z.1 z.2
 l z := by simp
 r r := by simp
 s h r := by cases h
namespace cF
def Q7 : List RO := o2 3 (.a .box) [0] [0] ::
 o2 6 (.a (.alloc 4 [.int .i64 0, .int .i64 0, .au, .au])) [] [] ::
 []
def Q5 : List RO := oz (su 4) [7, 14] [14] ::
 []
def Q6 : List RO := o2 14 (.p (.build [.int .i64 0, .int .i64 0, .au, .au] [(0, 1), (1, 1)])) [12, 13] [12,13] ::
 o2 7 (.a (.alloc 4 [.int .i64 0, .int .i64 0, .au, .au])) [] [] ::
 Q5
def Q3 : List RO := o2 21 ln [20] [] ::
 o1 22 (.k (.int .i64 0)) [] ::
 []
def Q4 : List RO := o2 18 (ix 3) [16, 17] [16,17] ::
 o2 19 (fa 2) [18] [18] ::
 o2 20 (ld 1) [19] [19] ::
 Q3
def C1 : RC := .cond (.s 23) (.skip) (.gh (.canon (.c 7 2) 4142 1) (.gh (.keep [1,2,3,6,7] [3,6,7,4142]) (.exit 0)))
def Q9 : List RO := oz (su 5) [9, 26] [26] ::
 []
def gO : List RO := o2 25 (ix 5) [20, 22] [] ::
 o2 26 (lD 5) [25] [25] ::
 o2 9 (.a (.alloc 5 [.int .i64 0, .int .i64 0, .int .i64 0, .int .i64 0, .au])) [] [] ::
 o1 8 24 [24] ::
 Q9
def Q1 : List RO := o3 31 30 true (fa 1) [9] [9] ::
 o3 32 30 true (ld 1) [31] [31] ::
 o3 33 30 true (.p (.id)) [2] [] ::
 o3 34 30 true (bI .eql) [32, 33] [32,33] ::
 o2 35 (.p (.pick)) [30, 34, .k (.bool false)] [30,34] ::
 []
def Q8 : List RO := o2 41 (.l (.append 1)) [37, 40] [37,40] ::
 o2 42 (fa 2) [7] [] ::
 oz (su 1) [42, 41] [41,42] ::
 []
def C2 : RC := .cond (.s 35) (.ops (o2 36 (fa 2) [7] [] ::
 o2 37 (ld 1) [36] [36] ::
 o1 38 8 [8] ::
 o2 39 (bI .add) [38, .k (.int .i64 1)] [38] ::
 o2 40 (.a (.buildSl 1 1 [.int .i64 0] [0])) [39] [39] ::
 Q8)) (.skip)
def U1 : RC := .seq (.ops (o2 27 (fa 0) [9] [] ::
 o2 28 (ld 1) [27] [27] ::
 o2 29 (bI .eql) [28, .k (.int .i64 2)] [28] ::
 o1 30 29 [29] ::
 Q1)) (C2)
def U2 : RC := .ops (o2 43 (bI .add) [22, .k (.int .i64 1)] [22] ::
 o1 22 43 [43] ::
 [])
def U3 : RC := .seq (.block 1 (.seq (.ops (o1 24 22 [] ::
 gO)) (U1))) (U2)
def cg : RC := .hg (.hg (.seq (.ops (o2 23 (bI .lss) [22, 21] [] ::
 [])) (.seq (C1) (U3))) (.canon (.c 7 2) 4142 1)) (.keep [1,2,3,6,7,20,21,22] [3,6,7,4142])
def U4 : RC := .block 0 (.gh (.canon (.c 7 2) 4142 1) (.gh (.keep [1,2,3,6,7,20,21,22] [3,6,7,4142]) (.loop cg)))
def kG : List RO := o2 50 ln [49] [] ::
 o1 51 (.k (.int .i64 0)) [] ::
 []
def nr : List RO := o2 47 (ix 3) [45, 46] [45,46] ::
 o2 48 (fa 2) [47] [47] ::
 o2 49 (ld 1) [48] [48] ::
 kG
def C3 : RC := .cond (.s 52) (.skip) (.gh (.canon (.c 7 2) 4142 1) (.gh (.canon (.c 7 3) 4143 1) (.gh (.keep [6,7] [6,7,4142,4143]) (.exit 2))))
def jR : List RO := oz (su 5) [11, 55] [55] ::
 []
def jO : List RO := o2 54 (ix 5) [49, 51] [] ::
 o2 55 (lD 5) [54] [54] ::
 o2 11 (.a (.alloc 5 [.int .i64 0, .int .i64 0, .int .i64 0, .int .i64 0, .au])) [] [] ::
 o1 10 53 [53] ::
 jR
def Q2 : List RO := o3 60 59 true (fa 1) [11] [11] ::
 o3 61 59 true (ld 1) [60] [60] ::
 o3 62 59 true (.p (.id)) [1] [] ::
 o3 63 59 true (bI .eql) [61, 62] [61,62] ::
 o2 64 (.p (.pick)) [59, 63, .k (.bool false)] [59,63] ::
 []
def iQ : List RO := o2 70 (.l (.append 1)) [66, 69] [66,69] ::
 o2 71 (fa 3) [7] [] ::
 oz (su 1) [71, 70] [70,71] ::
 []
def C4 : RC := .cond (.s 64) (.ops (o2 65 (fa 3) [7] [] ::
 o2 66 (ld 1) [65] [65] ::
 o1 67 10 [10] ::
 o2 68 (bI .add) [67, .k (.int .i64 1)] [67] ::
 o2 69 (.a (.buildSl 1 1 [.int .i64 0] [0])) [68] [68] ::
 iQ)) (.skip)
def U5 : RC := .seq (.ops (o2 56 (fa 0) [11] [] ::
 o2 57 (ld 1) [56] [56] ::
 o2 58 (bI .eql) [57, .k (.int .i64 3)] [57] ::
 o1 59 58 [58] ::
 Q2)) (C4)
def U6 : RC := .ops (o2 72 (bI .add) [51, .k (.int .i64 1)] [51] ::
 o1 51 72 [72] ::
 [])
def U7 : RC := .seq (.block 3 (.seq (.ops (o1 53 51 [] ::
 jO)) (U5))) (U6)
def iA : RC := .hg (.hg (.hg (.seq (.ops (o2 52 (bI .lss) [51, 50] [] ::
 [])) (.seq (C3) (U7))) (.canon (.c 7 2) 4142 1)) (.canon (.c 7 3) 4143 1)) (.keep [1,6,7,49,50,51] [6,7,4142,4143])
def U8 : RC := .block 2 (.gh (.canon (.c 7 2) 4142 1) (.gh (.canon (.c 7 3) 4143 1) (.gh (.keep [1,6,7,49,50,51] [6,7,4142,4143]) (.loop iA))))
def qT : List RO := oz (su 4) [6, 73] [73] ::
 []
def U9 : RC := .seq (.ops (⟨some 73, none, false, lD 4, [7], [7], [.closeS (.c 7 2), .closeS (.c 7 3)]⟩ ::
 qT)) (.ret)
def m4 : RC := .seq (.seq (.ops (o2 44 (fa 0) [3] [3] ::
 o2 45 (ld 1) [44] [44] ::
 o1 46 2 [2] ::
 nr)) (U8)) (U9)
def mM : RC := .seq (.seq (.ops (o2 15 (fa 0) [3] [] ::
 o2 16 (ld 1) [15] [15] ::
 o1 17 1 [] ::
 Q4)) (U4)) (m4)
def lV : RC := .seq (.ops (o1 12 1 [] ::
 o1 13 2 [] ::
 Q6)) (mM)
def text : RF := ⟨74, [.ld 6 4 true], .seq (.ops Q7) (lV)⟩
def F7 : List Fm := [.seq mM]
def F8 : List Fm := [.seq lV]
def t_ : List Fm := [.seq .ret]
def F6 : List Fm := [.seq U4, .seq m4]
def sV : List Fm := [.seq U8, .seq U9]
def Cc : List Fm := [.blk 2, .seq U9]
def ue : List Fm := [.blk 0, .seq m4]
def lH : List Fm := [.seq U3, .gst (.canon (.c 7 2) 4142 1), .gst (.keep [1,2,3,6,7,20,21,22] [3,6,7,4142])]
def F1 : List Fm := [.seq C2, .blk 1, .seq U2, .gst (.keep [1,2,3,6,7,20,21,22] [3,6,7])]
def F2 : List Fm := [.seq C4, .blk 3, .seq U6, .gst (.keep [1,6,7,49,50,51] [6,7])]
def F9 : List Fm := [.blk 1, .seq U2, .gst (.canon (.c 7 2) 4142 1), .gst (.keep [1,2,3,6,7,20,21,22] [3,6,7,4142])]
def o0 : List Fm := [.seq U7, .gst (.canon (.c 7 2) 4142 1), .gst (.canon (.c 7 3) 4143 1), .gst (.keep [1,6,7,49,50,51] [6,7,4142,4143])]
def F3 : List Fm := .seq C2 :: F9
def F4 : List Fm := [.seq C4, .blk 3, .seq U6, .gst (.canon (.c 7 3) 4143 1), .gst (.keep [1,6,7,49,50,51] [6,7,4143])]
def jo : List Fm := .seq U1 :: F9
def ku : List Fm := [.blk 3, .seq U6, .gst (.canon (.c 7 2) 4142 1), .gst (.canon (.c 7 3) 4143 1), .gst (.keep [1,6,7,49,50,51] [6,7,4142,4143])]
def F5 : List Fm := .seq C4 :: ku
def mC : List Fm := .seq U5 :: ku
end cF
class hD (S : Sys) (T : az) : Prop where
 t : T (S.N 49) = some cF.text
 k : S.E.keep (S.N 49) = false
namespace cF
section
variable {S : Sys} {T : az} [hD S T]
noncomputable def cC (p1 : Int) (v49 : Sl Event) (v50 : Int) (v51 : Int) (vb6 : ak) (wb7 : ak) : Option (Fw (Int × ak × ak) (ak × ak) Empty) :=
 aL (decide (v51 < v50))
 ((idx v49 v51).bind fun x_1 =>
 (aL (x_1.kind == 3)
 (some (x_1.peer == p1))
 (some false) : Option Bool).bind fun x_2 =>
 aL x_2
 ((iM wb7.received (IntKind.wrap .i64 (v51 + 1) : Int)).bind fun x_3 =>
 some (.n (IntKind.wrap .i64 (v51 + 1), (⟨vb6.p, vb6.q, Sl.nil, Sl.nil⟩ : ak), (⟨wb7.p, wb7.q, wb7.sent, x_3⟩ : ak))))
 (some (.n (IntKind.wrap .i64 (v51 + 1), (⟨vb6.p, vb6.q, Sl.nil, Sl.nil⟩ : ak), wb7))))
 (some (.x ((⟨vb6.p, vb6.q, Sl.nil, Sl.nil⟩ : ak), wb7)))
noncomputable def W2 (p1 : Int) (v49 : Sl Event) (v50 : Int) (v51 : Int) (vb6 : ak) (wb7 : ak) : Option ak :=
 (cW (fun q : Int × ak × ak => cC p1 v49 v50 q.1 q.2.1 q.2.2) (v51, vb6, wb7)).bind (Fw.elim
 (fun e => some e.2)
 (fun e => Empty.elim e))
def jD (S : Sys) (p1 : Int) (v49 : Sl Event) (v50 : Int) : Int × ak × ak → St := fun q => (af [Iv 1 p1, Pv 6, Pv 7, Cv 49 v49, Iv 50 v50, Iv 51 q.1] [Xb 6 (⟨q.2.1.p, q.2.1.q, Sl.nil, Sl.nil⟩ : ak), (7, .box [iv q.2.2.p, iv q.2.2.q, .own 4142, .own 4143]), Lb 4142 q.2.2.sent, Lb 4143 q.2.2.received])
def jB (S : Sys) (p1 : Int) (v49 : Sl Event) (v50 : Int) : (ak × ak) → Nat × St := fun e => (2, (af [Pv 6, Pv 7] [Xb 6 (⟨e.1.p, e.1.q, Sl.nil, Sl.nil⟩ : ak), (7, .box [iv e.2.p, iv e.2.q, .own 4142, .own 4143]), Lb 4142 e.2.sent, Lb 4143 e.2.received]))
def jA (S : Sys) (p1 : Int) (v49 : Sl Event) (v50 : Int) : Empty → St := fun e => Empty.elim e
noncomputable def aB (p1 : Int) (q2 : Int) (v20 : Sl Event) (v21 : Int) (tb3 : Trace) (v22 : Int) (vb6 : ak) (wb7 : ak) : Option (Fw (Int × ak × ak) (ak × ak) Empty) :=
 aL (decide (v22 < v21))
 ((idx v20 v22).bind fun x_1 =>
 (aL (x_1.kind == 2)
 (some (x_1.peer == q2))
 (some false) : Option Bool).bind fun x_2 =>
 aL x_2
 ((iM wb7.sent (IntKind.wrap .i64 (v22 + 1) : Int)).bind fun x_3 =>
 some (.n (IntKind.wrap .i64 (v22 + 1), (⟨vb6.p, vb6.q, Sl.nil, Sl.nil⟩ : ak), (⟨wb7.p, wb7.q, x_3, Sl.nil⟩ : ak))))
 (some (.n (IntKind.wrap .i64 (v22 + 1), (⟨vb6.p, vb6.q, Sl.nil, Sl.nil⟩ : ak), (⟨wb7.p, wb7.q, wb7.sent, Sl.nil⟩ : ak)))))
 (some (.x ((⟨vb6.p, vb6.q, Sl.nil, Sl.nil⟩ : ak), (⟨wb7.p, wb7.q, wb7.sent, Sl.nil⟩ : ak))))
noncomputable def W1 (p1 : Int) (q2 : Int) (v20 : Sl Event) (v21 : Int) (v22 : Int) (tb3 : Trace) (vb6 : ak) (wb7 : ak) : Option ak :=
 (cW (fun q : Int × ak × ak => aB p1 q2 v20 v21 tb3 q.1 q.2.1 q.2.2) (v22, vb6, wb7)).bind (Fw.elim
 (fun e => (idx tb3.procs q2).bind fun x_1 =>
 cF.W2 p1 x_1.events (len x_1.events) 0 (⟨e.1.p, e.1.q, Sl.nil, Sl.nil⟩ : ak) (⟨e.2.p, e.2.q, e.2.sent, Sl.nil⟩ : ak))
 (fun e => Empty.elim e))
def cJ (S : Sys) (p1 : Int) (q2 : Int) (v20 : Sl Event) (v21 : Int) (tb3 : Trace) : Int × ak × ak → St := fun q => (af [Iv 1 p1, Iv 2 q2, Pv 3, Pv 6, Pv 7, Cv 20 v20, Iv 21 v21, Iv 22 q.1] [Xb 3 tb3, Xb 6 (⟨q.2.1.p, q.2.1.q, Sl.nil, Sl.nil⟩ : ak), (7, .box [iv q.2.2.p, iv q.2.2.q, .own 4142, .v .au]), Lb 4142 q.2.2.sent])
def cL (S : Sys) (p1 : Int) (q2 : Int) (v20 : Sl Event) (v21 : Int) (tb3 : Trace) : (ak × ak) → Nat × St := fun e => (0, (af [Iv 1 p1, Iv 2 q2, Pv 3, Pv 6, Pv 7] [Xb 3 tb3, Xb 6 (⟨e.1.p, e.1.q, Sl.nil, Sl.nil⟩ : ak), (7, .box [iv e.2.p, iv e.2.q, .own 4142, .v .au]), Lb 4142 e.2.sent]))
def cM (S : Sys) (p1 : Int) (q2 : Int) (v20 : Sl Event) (v21 : Int) (tb3 : Trace) : Empty → St := fun e => Empty.elim e
theorem ga (p1 : Int) (v49 : Sl Event) (v50 : Int) (v51 : Int) (vb6 : ak) (wb7 : ak) : Le ((cC p1 v49 v50 v51 vb6 wb7).bind (fun w => some (Fw.out (jD S p1 v49 v50) (jB S p1 v49 v50) (jA S p1 v49 v50) w))) (rn S (ah S T) some (.rc iA) [] (af [Iv 1 p1, Pv 6, Pv 7, Cv 49 v49, Iv 50 v50, Iv 51 v51] [Xb 6 (⟨vb6.p, vb6.q, Sl.nil, Sl.nil⟩ : ak), (7, .box [iv wb7.p, iv wb7.q, .own 4142, .own 4143]), Lb 4142 wb7.sent, Lb 4143 wb7.received])) := by
 unfold cC
 refine aJ (n := 9) (fo' := .rc C3) (fs' := o0) (t := decide (v51 < v50)) (A := fun bb => (af [Iv 1 p1, Pv 6, Pv 7, Cv 49 v49, Iv 50 v50, Iv 51 v51, Bv 52 bb] [Xb 6 (⟨vb6.p, vb6.q, Sl.nil, Sl.nil⟩ : ak), (7, .box [iv wb7.p, iv wb7.q, .own 4142, .own 4143]), Lb 4142 wb7.sent, Lb 4143 wb7.received])) (by kernel_rfl) ?_ ?_
 ·refine ey 8 false [] jO mC (af [Iv 1 p1, Pv 6, Pv 7, Cv 49 v49, Iv 50 v50, Iv 51 v51, Bv 52 true, Iv 53 v51] [Xb 6 (⟨vb6.p, vb6.q, Sl.nil, Sl.nil⟩ : ak), (7, .box [iv wb7.p, iv wb7.q, .own 4142, .own 4143]), Lb 4142 wb7.sent, Lb 4143 wb7.received]) .i64 rfl (by kernel_rfl) fun x_1 h_1 => ?_
  refine Ast 3 false [] jR mC (af [Iv 1 p1, Pv 6, Pv 7, Cv 49 v49, Iv 50 v50, Iv 51 v51, Bv 52 true, Cv 55 x_1, Pv 11, Iv 10 v51] [Xb 6 (⟨vb6.p, vb6.q, Sl.nil, Sl.nil⟩ : ak), (7, .box [iv wb7.p, iv wb7.q, .own 4142, .own 4143]), Lb 4142 wb7.sent, Lb 4143 wb7.received, Xb 11 (⟨0, 0, 0, 0, Sl.nil⟩ : Event)]) 11 0 x_1 [iv 0, iv 0, iv 0, iv 0, .v .au] [iv x_1.kind, iv x_1.peer, iv x_1.message, iv x_1.time, cv x_1.assign] rfl (by kernel_rfl) ?_
  refine dw (fun x_2 => rn S (ah S T) some (.ops false [] []) F5 (af [Iv 1 p1, Pv 6, Pv 7, Cv 49 v49, Iv 50 v50, Iv 51 v51, Bv 52 true, Iv 10 v51, Bv 64 x_2] [Xb 6 (⟨vb6.p, vb6.q, Sl.nil, Sl.nil⟩ : ak), (7, .box [iv wb7.p, iv wb7.q, .own 4142, .own 4143]), Lb 4142 wb7.sent, Lb 4143 wb7.received, Xb 11 x_1])) ?_ fun x_2 => ?_
  ·refine aJ (n := 8) (fo' := .ops false [] Q2) (fs' := F5) (t := (x_1.kind == 3)) (A := fun bb => (af [Iv 1 p1, Pv 6, Pv 7, Cv 49 v49, Iv 50 v50, Iv 51 v51, Bv 52 true, Pv 11, Iv 10 v51, Bv 59 bb] [Xb 6 (⟨vb6.p, vb6.q, Sl.nil, Sl.nil⟩ : ak), (7, .box [iv wb7.p, iv wb7.q, .own 4142, .own 4143]), Lb 4142 wb7.sent, Lb 4143 wb7.received, Xb 11 x_1])) (by kernel_rfl) ?_ ?_
   ·exact bp (n := 5) (by kernel_rfl) rfl
   ·exact bp (n := 5) (by kernel_rfl) rfl
  ·refine aJ (n := 2) (fo' := .rc C4) (fs' := ku) (t := x_2) (A := fun bb => (af [Iv 1 p1, Pv 6, Pv 7, Cv 49 v49, Iv 50 v50, Iv 51 v51, Bv 52 true, Iv 10 v51, Bv 64 bb] [Xb 6 (⟨vb6.p, vb6.q, Sl.nil, Sl.nil⟩ : ak), (7, .box [iv wb7.p, iv wb7.q, .own 4142, .own 4143]), Lb 4142 wb7.sent, Lb 4143 wb7.received, Xb 11 x_1])) (by kernel_rfl) ?_ ?_
   ·refine vV 7 false [] iQ ku (af [Iv 1 p1, Pv 6, Pv 7, Cv 49 v49, Iv 50 v50, Iv 51 v51, Bv 52 true, Bv 64 true, (66, .own 4143), (69, .own 69)] [Xb 6 (⟨vb6.p, vb6.q, Sl.nil, Sl.nil⟩ : ak), (7, .box [iv wb7.p, iv wb7.q, .own 4142, .own 4143]), Lb 4142 wb7.sent, Lb 4143 wb7.received, Xb 11 x_1, Lb 69 (Sl.row [IntKind.wrap .i64 (v51 + 1)] : Sl Int)]) 4143 69 rfl (by kernel_rfl) (by kernel_rfl) fun x_3 h_3 => ?_
    exact av (by kernel_rfl)
   ·exact av (by kernel_rfl)
 ·exact av (by kernel_rfl)
theorem lE (p1 : Int) (v49 : Sl Event) (v50 : Int) (v51 : Int) (vb6 : ak) (wb7 : ak) : Le ((W2 p1 v49 v50 v51 vb6 wb7).bind (fun r => some [enc r])) (rn S (ah S T) (cj [.ld 6 4 true]) (.rc (.loop iA)) Cc (af [Iv 1 p1, Pv 6, Pv 7, Cv 49 v49, Iv 50 v50, Iv 51 v51] [Xb 6 (⟨vb6.p, vb6.q, Sl.nil, Sl.nil⟩ : ak), (7, .box [iv wb7.p, iv wb7.q, .own 4142, .own 4143]), Lb 4142 wb7.sent, Lb 4143 wb7.received])) := by
 unfold W2
 refine eJ (n := 0) (fs := Cc) (a := iA) (eσ := jD S p1 v49 v50) (eε := jB S p1 v49 v50) (eρ := jA S p1 v49 v50) (by kernel_rfl) (fun q => ga p1 v49 v50 q.1 q.2.1 q.2.2) ?_ ?_
 ·intro e
  refine Ast 7 false [] qT t_ (af [Pv 6, Cv 73 e.2] [Xb 6 (⟨e.1.p, e.1.q, Sl.nil, Sl.nil⟩ : ak), Xb 7 e.2]) 6 0 e.2 [iv e.1.p, iv e.1.q, .v .au, .v .au] [iv e.2.p, iv e.2.q, cv e.2.sent, cv e.2.received] rfl (by kernel_rfl) ?_
  exact av (by kernel_rfl)
 ·intro e; exact Empty.elim e
theorem aY (p1 : Int) (q2 : Int) (v20 : Sl Event) (v21 : Int) (tb3 : Trace) (v22 : Int) (vb6 : ak) (wb7 : ak) : Le ((aB p1 q2 v20 v21 tb3 v22 vb6 wb7).bind (fun w => some (Fw.out (cJ S p1 q2 v20 v21 tb3) (cL S p1 q2 v20 v21 tb3) (cM S p1 q2 v20 v21 tb3) w))) (rn S (ah S T) some (.rc cg) [] (af [Iv 1 p1, Iv 2 q2, Pv 3, Pv 6, Pv 7, Cv 20 v20, Iv 21 v21, Iv 22 v22] [Xb 3 tb3, Xb 6 (⟨vb6.p, vb6.q, Sl.nil, Sl.nil⟩ : ak), (7, .box [iv wb7.p, iv wb7.q, .own 4142, .v .au]), Lb 4142 wb7.sent])) := by
 unfold aB
 refine aJ (n := 8) (fo' := .rc C1) (fs' := lH) (t := decide (v22 < v21)) (A := fun bb => (af [Iv 1 p1, Iv 2 q2, Pv 3, Pv 6, Pv 7, Cv 20 v20, Iv 21 v21, Iv 22 v22, Bv 23 bb] [Xb 3 tb3, Xb 6 (⟨vb6.p, vb6.q, Sl.nil, Sl.nil⟩ : ak), (7, .box [iv wb7.p, iv wb7.q, .own 4142, .v .au]), Lb 4142 wb7.sent])) (by kernel_rfl) ?_ ?_
 ·refine ey 8 false [] gO jo (af [Iv 1 p1, Iv 2 q2, Pv 3, Pv 6, Pv 7, Cv 20 v20, Iv 21 v21, Iv 22 v22, Bv 23 true, Iv 24 v22] [Xb 3 tb3, Xb 6 (⟨vb6.p, vb6.q, Sl.nil, Sl.nil⟩ : ak), (7, .box [iv wb7.p, iv wb7.q, .own 4142, .v .au]), Lb 4142 wb7.sent]) .i64 rfl (by kernel_rfl) fun x_1 h_1 => ?_
  refine Ast 3 false [] Q9 jo (af [Iv 1 p1, Iv 2 q2, Pv 3, Pv 6, Pv 7, Cv 20 v20, Iv 21 v21, Iv 22 v22, Bv 23 true, Cv 26 x_1, Pv 9, Iv 8 v22] [Xb 3 tb3, Xb 6 (⟨vb6.p, vb6.q, Sl.nil, Sl.nil⟩ : ak), (7, .box [iv wb7.p, iv wb7.q, .own 4142, .v .au]), Lb 4142 wb7.sent, Xb 9 (⟨0, 0, 0, 0, Sl.nil⟩ : Event)]) 9 0 x_1 [iv 0, iv 0, iv 0, iv 0, .v .au] [iv x_1.kind, iv x_1.peer, iv x_1.message, iv x_1.time, cv x_1.assign] rfl (by kernel_rfl) ?_
  refine dw (fun x_2 => rn S (ah S T) some (.ops false [] []) F3 (af [Iv 1 p1, Iv 2 q2, Pv 3, Pv 6, Pv 7, Cv 20 v20, Iv 21 v21, Iv 22 v22, Bv 23 true, Iv 8 v22, Bv 35 x_2] [Xb 3 tb3, Xb 6 (⟨vb6.p, vb6.q, Sl.nil, Sl.nil⟩ : ak), (7, .box [iv wb7.p, iv wb7.q, .own 4142, .v .au]), Lb 4142 wb7.sent, Xb 9 x_1])) ?_ fun x_2 => ?_
  ·refine aJ (n := 8) (fo' := .ops false [] Q1) (fs' := F3) (t := (x_1.kind == 2)) (A := fun bb => (af [Iv 1 p1, Iv 2 q2, Pv 3, Pv 6, Pv 7, Cv 20 v20, Iv 21 v21, Iv 22 v22, Bv 23 true, Pv 9, Iv 8 v22, Bv 30 bb] [Xb 3 tb3, Xb 6 (⟨vb6.p, vb6.q, Sl.nil, Sl.nil⟩ : ak), (7, .box [iv wb7.p, iv wb7.q, .own 4142, .v .au]), Lb 4142 wb7.sent, Xb 9 x_1])) (by kernel_rfl) ?_ ?_
   ·exact bp (n := 5) (by kernel_rfl) rfl
   ·exact bp (n := 5) (by kernel_rfl) rfl
  ·refine aJ (n := 2) (fo' := .rc C2) (fs' := F9) (t := x_2) (A := fun bb => (af [Iv 1 p1, Iv 2 q2, Pv 3, Pv 6, Pv 7, Cv 20 v20, Iv 21 v21, Iv 22 v22, Bv 23 true, Iv 8 v22, Bv 35 bb] [Xb 3 tb3, Xb 6 (⟨vb6.p, vb6.q, Sl.nil, Sl.nil⟩ : ak), (7, .box [iv wb7.p, iv wb7.q, .own 4142, .v .au]), Lb 4142 wb7.sent, Xb 9 x_1])) (by kernel_rfl) ?_ ?_
   ·refine vV 7 false [] Q8 F9 (af [Iv 1 p1, Iv 2 q2, Pv 3, Pv 6, Pv 7, Cv 20 v20, Iv 21 v21, Iv 22 v22, Bv 23 true, Bv 35 true, (37, .own 4142), (40, .own 40)] [Xb 3 tb3, Xb 6 (⟨vb6.p, vb6.q, Sl.nil, Sl.nil⟩ : ak), (7, .box [iv wb7.p, iv wb7.q, .own 4142, .v .au]), Lb 4142 wb7.sent, Xb 9 x_1, Lb 40 (Sl.row [IntKind.wrap .i64 (v22 + 1)] : Sl Int)]) 4142 40 rfl (by kernel_rfl) (by kernel_rfl) fun x_3 h_3 => ?_
    exact av (by kernel_rfl)
   ·exact av (by kernel_rfl)
 ·exact av (by kernel_rfl)
theorem eo (p1 : Int) (q2 : Int) (v20 : Sl Event) (v21 : Int) (v22 : Int) (tb3 : Trace) (vb6 : ak) (wb7 : ak) : Le ((W1 p1 q2 v20 v21 v22 tb3 vb6 wb7).bind (fun r => some [enc r])) (rn S (ah S T) (cj [.ld 6 4 true]) (.rc (.loop cg)) ue (af [Iv 1 p1, Iv 2 q2, Pv 3, Pv 6, Pv 7, Cv 20 v20, Iv 21 v21, Iv 22 v22] [Xb 3 tb3, Xb 6 (⟨vb6.p, vb6.q, Sl.nil, Sl.nil⟩ : ak), (7, .box [iv wb7.p, iv wb7.q, .own 4142, .v .au]), Lb 4142 wb7.sent])) := by
 unfold W1
 refine eJ (n := 0) (fs := ue) (a := cg) (eσ := cJ S p1 q2 v20 v21 tb3) (eε := cL S p1 q2 v20 v21 tb3) (eρ := cM S p1 q2 v20 v21 tb3) (by kernel_rfl) (fun q => aY p1 q2 v20 v21 tb3 q.1 q.2.1 q.2.2) ?_ ?_
 ·intro e
  refine ey 8 false [] nr sV (af [Iv 1 p1, Pv 6, Pv 7, Cv 45 tb3.procs, Iv 46 q2] [Xb 3 tb3, Xb 6 (⟨e.1.p, e.1.q, Sl.nil, Sl.nil⟩ : ak), (7, .box [iv e.2.p, iv e.2.q, .own 4142, .v .au]), Lb 4142 e.2.sent]) .i64 rfl (by kernel_rfl) fun x_1 h_1 => ?_
  refine dP 2 false [] kG sV (af [Iv 1 p1, Pv 6, Pv 7, Cv 49 x_1.events] [Xb 3 tb3, Xb 6 (⟨e.1.p, e.1.q, Sl.nil, Sl.nil⟩ : ak), (7, .box [iv e.2.p, iv e.2.q, .own 4142, .v .au]), Lb 4142 e.2.sent]) x_1.events rfl (by kernel_rfl) ?_
  exact eY (n := 7) (by kernel_rfl) (lE p1 x_1.events (len x_1.events) 0 (⟨e.1.p, e.1.q, Sl.nil, Sl.nil⟩ : ak) (⟨e.2.p, e.2.q, e.2.sent, Sl.nil⟩ : ak))
 ·intro e; exact Empty.elim e
end
end cF
noncomputable def cF (t0 : Trace) (p1 : Int) (q2 : Int) : Option ak :=
 (idx t0.procs p1).bind fun x_1 =>
 cF.W1 p1 q2 x_1.events (len x_1.events) 0 t0 (⟨0, 0, Sl.nil, Sl.nil⟩ : ak) (⟨p1, q2, Sl.nil, Sl.nil⟩ : ak)
open cF in
theorem xe {S : Sys} {T : az} [hD S T] (t0 : Trace) (p1 : Int) (q2 : Int) : Le ((cF t0 p1 q2).bind fun r => some [enc r]) (bl (ah S T) (S.N 49) [enc t0, .int .i64 p1, .int .i64 q2]) := by
 refine cZ (hD.t (S := S) (T := T)) (Nat.le_of_ble_eq_true rfl) ?_
 unfold cF
 refine gm 2 false [] Q7 F8 (af [Cv 0 t0, Iv 1 p1, Iv 2 q2] []) t0 rfl (by kernel_rfl) (by kernel_rfl) ?_
 refine Sf 7 false [] Q6 F7 (af [Iv 1 p1, Iv 2 q2, Pv 3, Pv 6, Iv 12 p1, Iv 13 q2] [Xb 3 t0, Xb 6 (⟨0, 0, Sl.nil, Sl.nil⟩ : ak)]) (⟨p1, q2, Sl.nil, Sl.nil⟩ : ak) [.int .i64 p1, .int .i64 q2] rfl (by simp only [Da, D5, qS, Ku, Im, JD, Jr]; rfl) rfl (by kernel_rfl) ?_
 refine Ast 1 false [] Q5 F7 (af [Iv 1 p1, Iv 2 q2, Pv 3, Pv 6, Cv 14 (⟨p1, q2, Sl.nil, Sl.nil⟩ : ak), Pv 7] [Xb 3 t0, Xb 6 (⟨0, 0, Sl.nil, Sl.nil⟩ : ak), Xb 7 (⟨0, 0, Sl.nil, Sl.nil⟩ : ak)]) 7 0 (⟨p1, q2, Sl.nil, Sl.nil⟩ : ak) [iv 0, iv 0, .v .au, .v .au] [iv p1, iv q2, .v .au, .v .au] rfl (by kernel_rfl) ?_
 refine ey 8 false [] Q4 F6 (af [Iv 1 p1, Iv 2 q2, Pv 3, Pv 6, Pv 7, Cv 16 t0.procs, Iv 17 p1] [Xb 3 t0, Xb 6 (⟨0, 0, Sl.nil, Sl.nil⟩ : ak), Xb 7 (⟨p1, q2, Sl.nil, Sl.nil⟩ : ak)]) .i64 rfl (by kernel_rfl) fun x_1 h_1 => ?_
 refine dP 2 false [] Q3 F6 (af [Iv 1 p1, Iv 2 q2, Pv 3, Pv 6, Pv 7, Cv 20 x_1.events] [Xb 3 t0, Xb 6 (⟨0, 0, Sl.nil, Sl.nil⟩ : ak), Xb 7 (⟨p1, q2, Sl.nil, Sl.nil⟩ : ak)]) x_1.events rfl (by kernel_rfl) ?_
 exact eY (n := 6) (by kernel_rfl) (eo p1 q2 x_1.events (len x_1.events) 0 t0 (⟨0, 0, Sl.nil, Sl.nil⟩ : ak) (⟨p1, q2, Sl.nil, Sl.nil⟩ : ak))
theorem vK {S : Sys} {T : az} [hD S T] : dS S (ah S T) (S.N 49) (fun z : Trace × Int × Int => [enc z.1, .int .i64 z.2.1, .int .i64 z.2.2]) (fun r : ak => [enc r]) (fun z => cF z.1 z.2.1 z.2.2) false where
 k := hD.k (S := S) (T := T)
 h z := xe z.1 z.2.1 z.2.2
 l z := by simp
 r r := by simp
 s h r := by cases h
namespace d8
def U1 : RC := .seq (.ops (o1 3 0 [] ::
 o1 4 0 [0] ::
 o2 5 (bI .neq) [3, 4] [3,4] ::
 o1 2 5 [5] ::
 [])) (.ret)
def text : RF := ⟨6, [.s 2], .seq (.ops (o1 2 (.k (.bool false)) [2] ::
 [])) (U1)⟩
end d8
class gS (S : Sys) (T : az) : Prop where
 t : T (S.N 50) = some d8.text
 k : S.E.keep (S.N 50) = false
namespace d8
section
variable {S : Sys} {T : az} [gS S T]
end
end d8
noncomputable def d8 (x0 : Int) : Option Bool :=
 some (!(x0 == x0))
open d8 in
theorem vT {S : Sys} {T : az} [gS S T] (x0 : Int) : Le ((d8 x0).bind fun r => some [.bool r]) (bl (ah S T) (S.N 50) [.int .i64 x0]) := by
 refine cZ (gS.t (S := S) (T := T)) (Nat.le_of_ble_eq_true rfl) ?_
 unfold d8
 exact av (by kernel_rfl)
theorem oZ {S : Sys} {T : az} [gS S T] : dS S (ah S T) (S.N 50) (fun z : Int => [.int .i64 z]) (fun r : Bool => [.bool r]) (fun z => d8 z) true where
 k := gS.k (S := S) (T := T)
 h z := vT z
 l z := by simp
 r r := by simp
 s h r := by kernel_rfl
namespace eH
def Q4 : List RO := o1 4 16 [16] ::
 []
def Q2 : List RO := o3 13 12 false (.p (.id)) [0] [0] ::
 o3 14 12 false (.p (.id)) [1] [1] ::
 o3 15 12 false (bI .lss) [13, 14] [13,14] ::
 o2 16 (.p (.pick)) [12, .k (.bool true), 15] [12,15] ::
 Q4
def Q5 : List RO := o1 12 11 [11] ::
 Q2
def Q3 : List RO := o3 9 7 true .c [.f 50, 8] [8] ::
 o3 10 7 true (.p (.not)) [9] [9] ::
 o2 11 (.p (.pick)) [7, 10, .k (.bool false)] [7,10] ::
 Q5
def Q1 : List RO := o3 8 7 true (.p (.id)) [1] [] ::
 Q3
def Q6 : List RO := o2 6 .c [.f 50, 5] [5] ::
 o1 7 6 [6] ::
 Q1
def text : RF := ⟨17, [.s 4], .seq (.ops (o1 4 (.k (.bool false)) [4] ::
 [])) (.seq (.ops (o1 5 0 [] ::
 Q6)) (.ret))⟩
def F1 : List Fm := [.seq .ret]
end eH
class gN (S : Sys) (T : az) : Prop where
 t : T (S.N 51) = some eH.text
 k : S.E.keep (S.N 51) = false
 c0 : gS S T
attribute [instance] gN.c0
namespace eH
section
variable {S : Sys} {T : az} [gN S T]
end
end eH
noncomputable def eH (x0 : Int) (y1 : Int) : Option Bool :=
 (d8 x0).bind fun x_1 =>
 (aL x_1
 ((d8 y1).bind fun x_2 =>
 some (!x_2))
 (some false) : Option Bool).bind fun x_3 =>
 (aL x_3
 (some true)
 (some (decide (x0 < y1))) : Option Bool).bind fun x_4 =>
 some x_4
open eH in
theorem wK {S : Sys} {T : az} [gN S T] (x0 : Int) (y1 : Int) : Le ((eH x0 y1).bind fun r => some [.bool r]) (bl (ah S T) (S.N 51) [.int .i64 x0, .int .i64 y1]) := by
 refine cZ (gN.t (S := S) (T := T)) (Nat.le_of_ble_eq_true rfl) ?_
 unfold eH
 refine bg 8 [] Q6 F1 (af [Iv 0 x0, Iv 1 y1, Iv 5 x0] []) (oZ (S := S) (T := T)) x0 rfl (by kernel_rfl) fun x_1 h_1 => ?_
 refine dw (fun x_3 => rn S (ah S T) (cj [.s 4]) (.ops false [] Q5) F1 (af [Iv 0 x0, Iv 1 y1, Bv 11 x_3] [])) ?_ fun x_3 => ?_
 ·refine aJ (n := 1) (fo' := .ops false [] Q1) (fs' := F1) (t := x_1) (A := fun bb => (af [Iv 0 x0, Iv 1 y1, Bv 7 bb] [])) (by kernel_rfl) ?_ ?_
  ·refine bg 1 [] Q3 F1 (af [Iv 0 x0, Iv 1 y1, Bv 7 true, Iv 8 y1] []) (oZ (S := S) (T := T)) y1 rfl (by kernel_rfl) fun x_2 h_2 => ?_
   exact bp (n := 2) (by kernel_rfl) rfl
  ·exact bp (n := 4) (by kernel_rfl) rfl
 ·refine dw (fun x_4 => rn S (ah S T) (cj [.s 4]) (.ops false [] Q4) F1 (af [Bv 16 x_4] [])) ?_ fun x_4 => ?_
  ·refine aJ (n := 1) (fo' := .ops false [] Q2) (fs' := F1) (t := x_3) (A := fun bb => (af [Iv 0 x0, Iv 1 y1, Bv 12 bb] [])) (by kernel_rfl) ?_ ?_
   ·exact bp (n := 4) (by kernel_rfl) rfl
   ·exact bp (n := 4) (by kernel_rfl) rfl
  ·exact av (by kernel_rfl)
theorem vO {S : Sys} {T : az} [gN S T] : dS S (ah S T) (S.N 51) (fun z : Int × Int => [.int .i64 z.1, .int .i64 z.2]) (fun r : Bool => [.bool r]) (fun z => eH z.1 z.2) true where
 k := gN.k (S := S) (T := T)
 h z := wK z.1 z.2
 l z := by simp
 r r := by simp
 s h r := by kernel_rfl
namespace cR
def U1 : RC := .seq (.ops (o1 3 0 [] ::
 o1 4 0 [0] ::
 o2 5 (bI .neq) [3, 4] [3,4] ::
 o1 2 5 [5] ::
 [])) (.ret)
def text : RF := ⟨6, [.s 2], .seq (.ops (o1 2 (.k (.bool false)) [2] ::
 [])) (U1)⟩
end cR
class fU (S : Sys) (T : az) : Prop where
 t : T (S.N 52) = some cR.text
 k : S.E.keep (S.N 52) = false
namespace cR
section
variable {S : Sys} {T : az} [fU S T]
end
end cR
noncomputable def cR (x0 : Int) : Option Bool :=
 some (!(x0 == x0))
open cR in
theorem tg {S : Sys} {T : az} [fU S T] (x0 : Int) : Le ((cR x0).bind fun r => some [.bool r]) (bl (ah S T) (S.N 52) [.int .i64 x0]) := by
 refine cZ (fU.t (S := S) (T := T)) (Nat.le_of_ble_eq_true rfl) ?_
 unfold cR
 exact av (by kernel_rfl)
theorem mU {S : Sys} {T : az} [fU S T] : dS S (ah S T) (S.N 52) (fun z : Int => [.int .i64 z]) (fun r : Bool => [.bool r]) (fun z => cR z) true where
 k := fU.k (S := S) (T := T)
 h z := tg z
 l z := by simp
 r r := by simp
 s h r := by kernel_rfl
namespace aP
def Q4 : List RO := o2 11 ln [10] [10] ::
 o1 6 11 [11] ::
 []
def C1 : RC := .cond (.s 15) (.skip) (.gh (.keep [0,1,6,7] []) (.exit 0))
def Q7 : List RO := o2 20 (bI .shr) [19, .k (.int .u64 1)] [19] ::
 o2 21 (.p (.conv .i64)) [20] [20] ::
 o1 9 21 [21] ::
 []
def Q5 : List RO := o2 27 .c [.f 51, 25, 26] [25,26] ::
 []
def Q6 : List RO := o2 24 (ix 1) [22, 23] [22,23] ::
 o2 25 (ld 1) [24] [24] ::
 o1 26 1 [] ::
 Q5
def C2 : RC := .cond (.s 27) (.ops (o1 28 9 [9] ::
 o2 29 (bI .add) [28, .k (.int .i64 1)] [28] ::
 o1 7 29 [29] ::
 [])) (.ops (o1 30 9 [9] ::
 o1 8 30 [30] ::
 []))
def U1 : RC := .seq (.ops (o1 22 0 [] ::
 o1 23 9 [] ::
 Q6)) (C2)
def U2 : RC := .block 1 (.seq (.ops (o1 16 7 [] ::
 o1 17 8 [] ::
 o2 18 (bI .add) [16, 17] [16,17] ::
 o2 19 (.p (.conv .u64)) [18] [18] ::
 Q7)) (U1))
def cg : RC := .hg (.seq (.seq (.ops (o1 13 7 [] ::
 o1 14 8 [] ::
 o2 15 (bI .lss) [13, 14] [13,14] ::
 [])) (C1)) (U2)) (.keep [0,1,6,7,8] [])
def kG : List RO := o1 4 31 [31] ::
 o1 5 53 [53] ::
 []
def jR : List RO := o2 53 (.p (.pick)) [35, 52, .k (.bool false)] [35,52] ::
 kG
def Q9 : List RO := o3 52 35 true (.p (.pick)) [42, .k (.bool true), 51] [42,51] ::
 jR
def Q8 : List RO := o3 50 48 true .c [.f 52, 49] [49] ::
 o3 51 42 false (.p (.pick)) [48, 50, .k (.bool false)] [48,50] ::
 Q9
def Q1 : List RO := o3 49 48 true (.p (.id)) [1] [1] ::
 Q8
def gO : List RO := o3 47 42 false .c [.f 52, 46] [46] ::
 o3 48 42 false (.p (.id)) [47] [47] ::
 Q1
def iQ : List RO := o3 45 42 false (ix 1) [43, 44] [43,44] ::
 o3 46 42 false (ld 1) [45] [45] ::
 gO
def Q2 : List RO := o3 43 42 false (.p (.id)) [0] [0] ::
 o3 44 42 false (.p (.id)) [7] [7] ::
 iQ
def jO : List RO := o3 38 35 true (ix 1) [36, 37] [36,37] ::
 o3 39 35 true (ld 1) [38] [38] ::
 o3 40 35 true (.p (.id)) [1] [] ::
 o3 41 35 true (bI .eql) [39, 40] [39,40] ::
 o3 42 35 true (.p (.id)) [41] [41] ::
 Q2
def Q3 : List RO := o3 36 35 true (.p (.id)) [0] [] ::
 o3 37 35 true (.p (.id)) [7] [] ::
 jO
def U3 : RC := .seq (.ops (o1 31 7 [] ::
 o1 32 7 [] ::
 o1 33 6 [6] ::
 o2 34 (bI .lss) [32, 33] [32,33] ::
 o1 35 34 [34] ::
 Q3)) (.ret)
def U4 : RC := .seq (.block 0 (.gh (.keep [0,1,6,7,8] []) (.loop cg))) (U3)
def U5 : RC := .seq (.ops (o1 12 6 [] ::
 o1 7 (.k (.int .i64 0)) [] ::
 o1 8 12 [12] ::
 [])) (U4)
def text : RF := ⟨54, [.s 4, .s 5], .seq (.ops (o1 4 (.k (.int .i64 0)) [4] ::
 o1 5 (.k (.bool false)) [5] ::
 [])) (.seq (.ops (o1 10 0 [] ::
 Q4)) (U5))⟩
def F1 : List Fm := [.seq .ret]
def F2 : List Fm := [.seq U5]
def F3 : List Fm := [.blk 1, .gst (.keep [0,1,6,7,8] [])]
def F6 : List Fm := [.seq U2, .gst (.keep [0,1,6,7,8] [])]
def F7 : List Fm := [.blk 0, .seq U3]
def F4 : List Fm := .seq C2 :: F3
def F5 : List Fm := .seq U1 :: F3
end aP
class cG (S : Sys) (T : az) : Prop where
 t : T (S.N 53) = some aP.text
 k : S.E.keep (S.N 53) = false
 c0 : gN S T
 c1 : fU S T
attribute [instance] cG.c0 cG.c1
namespace aP
section
variable {S : Sys} {T : az} [cG S T]
noncomputable def aB (x0 : Sl Int) (target1 : Int) (n6 : Int) (i7 : Int) (j8 : Int) : Option (Fw (Int × Int) Int Empty) :=
 aL (decide (i7 < j8))
 ((sK .u64 (IntKind.wrap .u64 (IntKind.wrap .i64 (i7 + j8))) 1).bind fun x_1 =>
 (idx x0 (IntKind.wrap .i64 x_1)).bind fun x_2 =>
 (eH x_2 target1).bind fun x_3 =>
 aL x_3
 (some (.n (IntKind.wrap .i64 ((IntKind.wrap .i64 x_1) + 1), j8)))
 (some (.n (i7, IntKind.wrap .i64 x_1))))
 (some (.x i7))
noncomputable def W1 (x0 : Sl Int) (target1 : Int) (n6 : Int) (i7 : Int) (j8 : Int) : Option (Int × Bool) :=
 (cW (fun q : Int × Int => aB x0 target1 n6 q.1 q.2) (i7, j8)).bind (Fw.elim
 (fun e => (aL (decide (e < n6))
 ((idx x0 e).bind fun x_1 =>
 (aL (x_1 == target1)
 (some true)
 ((idx x0 e).bind fun x_2 =>
 (cR x_2).bind fun x_3 =>
 (aL x_3
 ((cR target1).bind fun x_4 =>
 some x_4)
 (some false) : Option Bool).bind fun x_5 =>
 some x_5) : Option Bool).bind fun x_6 =>
 some x_6)
 (some false) : Option Bool).bind fun x_7 =>
 some (e, x_7))
 (fun e => Empty.elim e))
def cJ (S : Sys) (x0 : Sl Int) (target1 : Int) (n6 : Int) : Int × Int → St := fun q => (af [Cv 0 x0, Iv 1 target1, Iv 6 n6, Iv 7 q.1, Iv 8 q.2] [])
def cL (S : Sys) (x0 : Sl Int) (target1 : Int) (n6 : Int) : Int → Nat × St := fun e => (0, (af [Cv 0 x0, Iv 1 target1, Iv 6 n6, Iv 7 e] []))
def cM (S : Sys) (x0 : Sl Int) (target1 : Int) (n6 : Int) : Empty → St := fun e => Empty.elim e
theorem aY (x0 : Sl Int) (target1 : Int) (n6 : Int) (i7 : Int) (j8 : Int) : Le ((aB x0 target1 n6 i7 j8).bind (fun w => some (Fw.out (cJ S x0 target1 n6) (cL S x0 target1 n6) (cM S x0 target1 n6) w))) (rn S (ah S T) some (.rc cg) [] (af [Cv 0 x0, Iv 1 target1, Iv 6 n6, Iv 7 i7, Iv 8 j8] [])) := by
 unfold aB
 refine aJ (n := 9) (fo' := .rc C1) (fs' := F6) (t := decide (i7 < j8)) (A := fun bb => (af [Cv 0 x0, Iv 1 target1, Iv 6 n6, Iv 7 i7, Iv 8 j8, Bv 15 bb] [])) (by kernel_rfl) ?_ ?_
 ·refine P0 10 false [] Q7 F5 (af [Cv 0 x0, Iv 1 target1, Iv 6 n6, Iv 7 i7, Iv 8 j8, Bv 15 true, (19, .v (.int .u64 (IntKind.wrap .u64 (IntKind.wrap .i64 (i7 + j8)))))] []) .u64 rfl (by kernel_rfl) fun x_1 h_1 => ?_
  refine ey 8 false [] Q6 F4 (af [Cv 0 x0, Iv 1 target1, Iv 6 n6, Iv 7 i7, Iv 8 j8, Bv 15 true, Iv 9 (IntKind.wrap .i64 x_1), Cv 22 x0, Iv 23 (IntKind.wrap .i64 x_1)] []) .i64 rfl (by kernel_rfl) fun x_2 h_2 => ?_
  refine bg 2 [] Q5 F4 (af [Cv 0 x0, Iv 1 target1, Iv 6 n6, Iv 7 i7, Iv 8 j8, Bv 15 true, Iv 9 (IntKind.wrap .i64 x_1), Iv 25 x_2, Iv 26 target1] []) (vO (S := S) (T := T)) (x_2, target1) rfl (by kernel_rfl) fun x_3 h_3 => ?_
  refine aJ (n := 2) (fo' := .rc C2) (fs' := F3) (t := x_3) (A := fun bb => (af [Cv 0 x0, Iv 1 target1, Iv 6 n6, Iv 7 i7, Iv 8 j8, Bv 15 true, Iv 9 (IntKind.wrap .i64 x_1), Bv 27 bb] [])) (by kernel_rfl) ?_ ?_
  ·exact av (by kernel_rfl)
  ·exact av (by kernel_rfl)
 ·exact av (by kernel_rfl)
theorem eo (x0 : Sl Int) (target1 : Int) (n6 : Int) (i7 : Int) (j8 : Int) : Le ((W1 x0 target1 n6 i7 j8).bind (fun r => some [.int .i64 r.1, .bool r.2])) (rn S (ah S T) (cj [.s 4, .s 5]) (.rc (.loop cg)) F7 (af [Cv 0 x0, Iv 1 target1, Iv 6 n6, Iv 7 i7, Iv 8 j8] [])) := by
 unfold W1
 refine eJ (n := 0) (fs := F7) (a := cg) (eσ := cJ S x0 target1 n6) (eε := cL S x0 target1 n6) (eρ := cM S x0 target1 n6) (by kernel_rfl) (fun q => aY x0 target1 n6 q.1 q.2) ?_ ?_
 ·intro e
  refine dw (fun x_7 => rn S (ah S T) (cj [.s 4, .s 5]) (.ops false [] kG) F1 (af [Iv 31 e, Bv 53 x_7] [])) ?_ fun x_7 => ?_
  ·refine aJ (n := 9) (fo' := .ops false [] Q3) (fs' := F1) (t := decide (e < n6)) (A := fun bb => (af [Cv 0 x0, Iv 1 target1, Iv 7 e, Iv 31 e, Bv 35 bb] [])) (by kernel_rfl) ?_ ?_
   ·refine ey 2 false [] jO F1 (af [Cv 0 x0, Iv 1 target1, Iv 7 e, Iv 31 e, Bv 35 true, Cv 36 x0, Iv 37 e] []) .i64 rfl (by kernel_rfl) fun x_1 h_1 => ?_
    refine dw (fun x_6 => rn S (ah S T) (cj [.s 4, .s 5]) (.ops false [] jR) F1 (af [Iv 31 e, Bv 35 true, Bv 52 x_6] [])) ?_ fun x_6 => ?_
    ·refine aJ (n := 4) (fo' := .ops false [] Q2) (fs' := F1) (t := (x_1 == target1)) (A := fun bb => (af [Cv 0 x0, Iv 1 target1, Iv 7 e, Iv 31 e, Bv 35 true, Bv 42 bb] [])) (by kernel_rfl) ?_ ?_
     ·exact bp (n := 10) (by kernel_rfl) rfl
     ·refine ey 2 false [] iQ F1 (af [Iv 1 target1, Iv 31 e, Bv 35 true, Bv 42 false, Cv 43 x0, Iv 44 e] []) .i64 rfl (by kernel_rfl) fun x_2 h_2 => ?_
      refine bg 1 [] gO F1 (af [Iv 1 target1, Iv 31 e, Bv 35 true, Bv 42 false, Iv 46 x_2] []) (mU (S := S) (T := T)) x_2 rfl (by kernel_rfl) fun x_3 h_3 => ?_
      refine dw (fun x_5 => rn S (ah S T) (cj [.s 4, .s 5]) (.ops false [] Q9) F1 (af [Iv 31 e, Bv 35 true, Bv 42 false, Bv 51 x_5] [])) ?_ fun x_5 => ?_
      ·refine aJ (n := 1) (fo' := .ops false [] Q1) (fs' := F1) (t := x_3) (A := fun bb => (af [Iv 1 target1, Iv 31 e, Bv 35 true, Bv 42 false, Bv 48 bb] [])) (by kernel_rfl) ?_ ?_
       ·refine bg 1 [] Q8 F1 (af [Iv 31 e, Bv 35 true, Bv 42 false, Bv 48 true, Iv 49 target1] []) (mU (S := S) (T := T)) target1 rfl (by kernel_rfl) fun x_4 h_4 => ?_
        exact bp (n := 1) (by kernel_rfl) rfl
       ·exact bp (n := 3) (by kernel_rfl) rfl
      ·exact bp (n := 1) (by kernel_rfl) rfl
    ·exact bp (n := 1) (by kernel_rfl) rfl
   ·exact bp (n := 18) (by kernel_rfl) rfl
  ·exact av (by kernel_rfl)
 ·intro e; exact Empty.elim e
end
end aP
noncomputable def aP (x0 : Sl Int) (target1 : Int) : Option (Int × Bool) :=
 aP.W1 x0 target1 (len x0) 0 (len x0)
open aP in
theorem oS {S : Sys} {T : az} [cG S T] (x0 : Sl Int) (target1 : Int) : Le ((aP x0 target1).bind fun r => some [.int .i64 r.1, .bool r.2]) (bl (ah S T) (S.N 53) [enc x0, .int .i64 target1]) := by
 refine cZ (cG.t (S := S) (T := T)) (Nat.le_of_ble_eq_true rfl) ?_
 unfold aP
 refine dP 9 false [] Q4 F2 (af [Cv 0 x0, Iv 1 target1, Cv 10 x0] []) x0 rfl (by kernel_rfl) ?_
 exact eY (n := 13) (by kernel_rfl) (eo x0 target1 (len x0) 0 (len x0))
theorem ot {S : Sys} {T : az} [cG S T] : dS S (ah S T) (S.N 53) (fun z : (Sl Int) × Int => [enc z.1, .int .i64 z.2]) (fun r : Int × Bool => [.int .i64 r.1, .bool r.2]) (fun z => aP z.1 z.2) true where
 k := cG.k (S := S) (T := T)
 h z := oS z.1 z.2
 l z := by simp
 r r := by simp
 s h r := by kernel_rfl
namespace ei
def Q1 : List RO := o2 10 .c [.f 53, 8, 9] [8,9] ::
 o1 7 10 [10] ::
 o2 11 (.p (.ext 0)) [7] [] ::
 o2 12 (.p (.ext 1)) [7] [7] ::
 o1 5 11 [11] ::
 o1 6 12 [12] ::
 []
def C1 : RC := .cond (.s 13) (.ops (o1 14 5 [5] ::
 o2 15 (bI .add) [14, .k (.int .i64 1)] [14] ::
 o1 5 15 [15] ::
 [])) (.skip)
def U1 : RC := .seq (.ops (o1 16 5 [5] ::
 o1 4 16 [16] ::
 [])) (.ret)
def U2 : RC := .seq (.seq (.ops (o1 13 6 [6] ::
 [])) (C1)) (U1)
def U3 : RC := .seq (.ops (o1 8 0 [0] ::
 o1 9 1 [1] ::
 Q1)) (U2)
def text : RF := ⟨17, [.s 4], .seq (.ops (o1 4 (.k (.int .i64 0)) [4] ::
 [])) (U3)⟩
def F1 : List Fm := [.seq U1]
def F2 : List Fm := [.seq U2]
end ei
class gD (S : Sys) (T : az) : Prop where
 t : T (S.N 54) = some ei.text
 k : S.E.keep (S.N 54) = false
 c0 : cG S T
attribute [instance] gD.c0
namespace ei
section
variable {S : Sys} {T : az} [gD S T]
end
end ei
noncomputable def ei (l0 : Sl Int) (count1 : Int) : Option Int :=
 (aP l0 count1).bind fun x_1 =>
 aL x_1.2
 (some (IntKind.wrap .i64 (x_1.1 + 1)))
 (some x_1.1)
open ei in
theorem xO {S : Sys} {T : az} [gD S T] (l0 : Sl Int) (count1 : Int) : Le ((ei l0 count1).bind fun r => some [.int .i64 r]) (bl (ah S T) (S.N 54) [enc l0, .int .i64 count1]) := by
 refine cZ (gD.t (S := S) (T := T)) (Nat.le_of_ble_eq_true rfl) ?_
 unfold ei
 refine bg 9 [] Q1 F2 (af [Cv 8 l0, Iv 9 count1] []) (ot (S := S) (T := T)) (l0, count1) rfl (by kernel_rfl) fun x_1 h_1 => ?_
 refine aJ (n := 13) (fo' := .rc C1) (fs' := F1) (t := x_1.2) (A := fun bb => (af [Iv 5 x_1.1, Bv 13 bb] [])) (by kernel_rfl) ?_ ?_
 ·exact av (by kernel_rfl)
 ·exact av (by kernel_rfl)
theorem qu {S : Sys} {T : az} [gD S T] : dS S (ah S T) (S.N 54) (fun z : (Sl Int) × Int => [enc z.1, .int .i64 z.2]) (fun r : Int => [.int .i64 r]) (fun z => ei z.1 z.2) true where
 k := gD.k (S := S) (T := T)
 h z := xO z.1 z.2
 l z := by simp
 r r := by simp
 s h r := by kernel_rfl
namespace cQ
def Q5 : List RO := o2 2 (.a .box) [0] [0] ::
 o1 4 (.k (.int .i64 0)) [4] ::
 []
def Q1 : List RO := on 20 .c [.f 54, 14, 19] [14,19] ::
 on 21 (bI .sub) [12, 20] [12,20] ::
 on 4 (.p (.id)) [21] [21] ::
 []
def Q2 : List RO := o2 18 (ix 1) [15, 17] [15,17] ::
 o2 19 (ld 1) [18] [18] ::
 Q1
def Q3 : List RO := o2 12 .c [.f 54, 6, 11] [6,11] ::
 o2 13 (fa 3) [2] [] ::
 o2 14 (ld 1) [13] [13] ::
 o1 15 1 [1] ::
 o2 16 (fa 1) [2] [2] ::
 o2 17 (ld 1) [16] [16] ::
 Q2
def Q4 : List RO := o2 10 (ix 1) [7, 9] [7,9] ::
 o2 11 (ld 1) [10] [10] ::
 Q3
def U1 : RC := .seq (.reg (o2 5 (fa 2) [2] [] ::
 o2 6 (ld 1) [5] [5] ::
 o1 7 1 [] ::
 o2 8 (fa 0) [2] [] ::
 o2 9 (ld 1) [8] [8] ::
 Q4)) (.ret)
def text : RF := ⟨22, [.s 4], .seq (.ops Q5) (U1)⟩
def F1 : List Fm := [.seq .ret]
def F2 : List Fm := [.seq U1]
end cQ
class fj (S : Sys) (T : az) : Prop where
 t : T (S.N 55) = some cQ.text
 k : S.E.keep (S.N 55) = false
 c0 : gD S T
attribute [instance] fj.c0
namespace cQ
section
variable {S : Sys} {T : az} [fj S T]
end
end cQ
noncomputable def cQ (w0 : ak) (c1 : Sl Int) : Option Int :=
 (idx c1 w0.p).bind fun x_1 =>
 (ei w0.sent x_1).bind fun x_2 =>
 (idx c1 w0.q).bind fun x_3 =>
 (ei w0.received x_3).bind fun x_4 =>
 some (IntKind.wrap .i64 (x_2 - x_4))
open cQ in
theorem th {S : Sys} {T : az} [fj S T] (w0 : ak) (c1 : Sl Int) : Le ((cQ w0 c1).bind fun r => some [.int .i64 r]) (bl (ah S T) (S.N 55) [enc w0, enc c1]) := by
 refine cZ (fj.t (S := S) (T := T)) (Nat.le_of_ble_eq_true rfl) ?_
 unfold cQ
 refine gm 2 false [] Q5 F2 (af [Cv 0 w0, Cv 1 c1] []) w0 rfl (by kernel_rfl) (by kernel_rfl) ?_
 refine ey 10 true [] Q4 F1 (af [Cv 1 c1, Pv 2, Cv 6 w0.sent, Cv 7 c1, Iv 9 w0.p] [Xb 2 w0]) .i64 rfl (by kernel_rfl) fun x_1 h_1 => ?_
 refine kK 1 true [] Q3 F1 (af [Cv 1 c1, Pv 2, Cv 6 w0.sent, Iv 11 x_1] [Xb 2 w0]) (qu (S := S) (T := T)) (w0.sent, x_1) [.v (.clo (S.N 54) [] []), cv w0.sent, iv x_1] [cv w0.sent, iv x_1] rfl (by kernel_rfl) fun x_2 h_2 => ?_
 refine ey 5 true [12] Q2 F1 (af [Iv 12 x_2, Cv 14 w0.received, Cv 15 c1, Iv 17 w0.q] [Xb 2 w0]) .i64 rfl (by kernel_rfl) fun x_3 h_3 => ?_
 refine kK 1 true [12] Q1 F1 (af [Iv 12 x_2, Cv 14 w0.received, Iv 19 x_3] [Xb 2 w0]) (qu (S := S) (T := T)) (w0.received, x_3) [.v (.clo (S.N 54) [] []), cv w0.received, iv x_3] [cv w0.received, iv x_3] rfl (by kernel_rfl) fun x_4 h_4 => ?_
 exact av (by kernel_rfl)
theorem sT {S : Sys} {T : az} [fj S T] : dS S (ah S T) (S.N 55) (fun z : ak × (Sl Int) => [enc z.1, enc z.2]) (fun r : Int => [.int .i64 r]) (fun z => cQ z.1 z.2) true where
 k := fj.k (S := S) (T := T)
 h z := th z.1 z.2
 l z := by simp
 r r := by simp
 s h r := by kernel_rfl
namespace bL
def Q3 : List RO := o2 2 (.a .box) [0] [0] ::
 o1 4 (.k (.au)) [4] ::
 o1 5 (.k (.int .i64 0)) [5] ::
 []
def Q2 : List RO := o2 16 .c [.f 48, 14, 15] [14,15] ::
 o1 13 16 [16] ::
 o2 17 (.p (.ext 0)) [13] [] ::
 o2 18 (.p (.ext 1)) [13] [13] ::
 o1 6 17 [6,17] ::
 o1 7 18 [18] ::
 []
def C1 : RC := .cond (.s 20) (.seq (.ops (o1 21 7 [7] ::
 o1 4 (.k (.au)) [] ::
 o1 5 21 [21] ::
 [])) (.ret)) (.skip)
def U1 : RC := .seq (.ops (o1 19 7 [] ::
 o2 20 (bI .neq) [19, .k (.int .i64 0)] [19] ::
 [])) (C1)
def Q1 : List RO := o2 24 ln [23] [23] ::
 o1 8 24 [24] ::
 []
def C2 : RC := .cond (.s 27) (.skip) (.gh (.canon (.s 9) 2009 1) (.gh (.keep [9] [2009]) (.exit 0)))
def Q4 : List RO := o2 30 (.a (.makeSl 1 [.int .i64 0])) [29, 29] [29] ::
 o1 11 30 [30] ::
 []
def C3 : RC := .cond (.s 33) (.skip) (.gh (.canon (.s 9) 2009 1) (.gh (.canon (.s 11) 2011 1) (.gh (.keep [1,2,8,9,11,25,26] [2,2009,2011]) (.exit 2))))
def Q5 : List RO := oz (su 1) [46, 45] [45,46] ::
 []
def Q6 : List RO := o2 46 (ix 1) [38, 39] [38,39] ::
 Q5
def Q7 : List RO := o2 45 .c [.f 55, 43, 44] [43,44] ::
 Q6
def Q8 : List RO := o2 43 .c [.f 49, 40, 41, 42] [40,41,42] ::
 o1 44 1 [] ::
 Q7
def C4 : RC := .cond (.s 37) (.ops (o1 38 11 [] ::
 o1 39 12 [] ::
 o2 40 (lD 1) [2] [] ::
 o1 41 10 [] ::
 o1 42 12 [12] ::
 Q8)) (.skip)
def U2 : RC := .seq (.ops (o1 35 10 [] ::
 o1 36 12 [] ::
 o2 37 (bI .neq) [35, 36] [35,36] ::
 [])) (C4)
def U3 : RC := .ops (o2 47 (bI .add) [32, .k (.int .i64 1)] [32] ::
 o1 32 47 [47] ::
 [])
def U4 : RC := .seq (.block 3 (.seq (.ops (o1 34 32 [] ::
 o1 12 34 [34] ::
 [])) (U2))) (U3)
def iA : RC := .hg (.hg (.hg (.seq (.ops (o2 33 (bI .lss) [32, 31] [] ::
 [])) (.seq (C3) (U4))) (.canon (.s 9) 2009 1)) (.canon (.s 11) 2011 1)) (.keep [1,2,8,9,10,11,25,26,31,32] [2,2009,2011])
def U5 : RC := .block 2 (.gh (.canon (.s 9) 2009 1) (.gh (.canon (.s 11) 2011 1) (.gh (.keep [1,2,8,9,10,11,25,26,31,32] [2,2009,2011]) (.loop iA))))
def Q9 : List RO := o2 51 (.l (.append 1)) [48, 50] [48,50] ::
 o1 9 51 [51] ::
 []
def gO : List RO := ⟨some 50, none, false, .a (.buildSl 1 1 [.au] [0]), [49], [49], [.closeS (.s 49)]⟩ ::
 Q9
def U6 : RC := .ops (o1 48 9 [9] ::
 o1 49 11 [11] ::
 gO)
def U7 : RC := .seq (.seq (.ops (o1 31 8 [] ::
 o1 32 (.k (.int .i64 0)) [] ::
 [])) (U5)) (U6)
def U8 : RC := .ops (o2 52 (bI .add) [26, .k (.int .i64 1)] [26] ::
 o1 26 52 [52] ::
 [])
def U9 : RC := .seq (.block 1 (.seq (.ops (o1 28 26 [] ::
 o1 10 28 [28] ::
 [])) (.seq (.ops (o1 29 8 [] ::
 Q4)) (U7)))) (U8)
def cg : RC := .hg (.hg (.seq (.ops (o2 27 (bI .lss) [26, 25] [] ::
 [])) (.seq (C2) (U9))) (.canon (.s 9) 2009 1)) (.keep [1,2,8,9,25,26] [2,2009])
def m4 : RC := .block 0 (.gh (.canon (.s 9) 2009 1) (.gh (.keep [1,2,8,9,25,26] [2,2009]) (.loop cg)))
def mM : RC := .seq (.ops (o1 53 9 [9] ::
 o1 4 53 [53] ::
 o1 5 (.k (.int .i64 0)) [] ::
 [])) (.ret)
def lV : RC := .seq (.seq (.ops (o1 25 8 [] ::
 o1 26 (.k (.int .i64 0)) [] ::
 [])) (m4)) (mM)
def ov : RC := .seq (.ops (o1 9 (.k (.au)) [] ::
 [])) (lV)
def pS : RC := .seq (.ops (o2 22 (fa 0) [2] [] ::
 o2 23 (ld 1) [22] [22] ::
 Q1)) (ov)
def oD : RC := .seq (.seq (.ops (o2 14 (lD 1) [2] [] ::
 o1 15 1 [] ::
 Q2)) (U1)) (pS)
def text : RF := ⟨54, [.s 4, .s 5], .seq (.ops Q3) (oD)⟩
def F1 : List Fm := [.seq ov]
def F2 : List Fm := [.seq pS]
def F4 : List Fm := [.seq oD]
def F3 : List Fm := .seq U1 :: F2
def lH : List Fm := [.blk 0, .seq mM]
def F6 : List Fm := [.seq U9, .gst (.canon (.s 9) 2009 1), .gst (.keep [1,2,8,9,25,26] [2,2009])]
def F8 : List Fm := [.seq U4, .gst (.canon (.s 9) 2009 1), .gst (.canon (.s 11) 2011 1), .gst (.keep [1,2,8,9,10,11,25,26,31,32] [2,2009,2011])]
def F9 : List Fm := [.blk 1, .seq U8, .gst (.canon (.s 9) 2009 1), .gst (.keep [1,2,8,9,25,26] [2,2009])]
def F5 : List Fm := .seq U7 :: F9
def F7 : List Fm := [.blk 3, .seq U3, .gst (.canon (.s 9) 2009 1), .gst (.canon (.s 11) 2011 1), .gst (.keep [1,2,8,9,10,11,25,26,31,32] [2,2009,2011])]
def jo : List Fm := .blk 2 :: .seq U6 :: F9
end bL
class ec (S : Sys) (T : az) : Prop where
 t : T (S.N 56) = some bL.text
 k : S.E.keep (S.N 56) = false
 c0 : fj S T
 c1 : hD S T
 c2 : gL S T
attribute [instance] ec.c0 ec.c1 ec.c2
namespace bL
section
variable {S : Sys} {T : az} [ec S T]
noncomputable def cC (c1 : Sl Int) (n8 : Int) (out9 : Sl (Sl Int)) (v25 : Int) (v26 : Int) (tb2 : Trace) (p10 : Int) (row11 : Sl Int) (v31 : Int) (v32 : Int) : Option (Fw (Int × (Sl Int) × Int × Int) ((Sl (Sl Int)) × (Sl Int)) Empty) :=
 aL (decide (v32 < v31))
 (aL (p10 == v32)
 (some (.n (p10, row11, v31, IntKind.wrap .i64 (v32 + 1))))
 ((cF tb2 p10 v32).bind fun x_1 =>
 (cQ x_1 c1).bind fun x_2 =>
 (Sl.uj row11 v32).bind fun x_3 =>
 (Sl.put row11 x_3 (x_2 : Int)).bind fun x_4 =>
 some (.n (p10, x_4, v31, IntKind.wrap .i64 (v32 + 1)))))
 (some (.x (out9, row11)))
noncomputable def W2 (c1 : Sl Int) (n8 : Int) (out9 : Sl (Sl Int)) (p10 : Int) (row11 : Sl Int) (v25 : Int) (v26 : Int) (v31 : Int) (v32 : Int) (tb2 : Trace) : Option (Fw ((Sl (Sl Int)) × Int) (Sl (Sl Int)) Empty) :=
 (cW (fun q : Int × (Sl Int) × Int × Int => cC c1 n8 out9 v25 v26 tb2 q.1 q.2.1 q.2.2.1 q.2.2.2) (p10, row11, v31, v32)).bind (Fw.elim
 (fun e => (iM e.1 (e.2 : Sl Int)).bind fun x_1 =>
 some (.n (x_1, IntKind.wrap .i64 (v26 + 1))))
 (fun e => Empty.elim e))
def jD (S : Sys) (c1 : Sl Int) (n8 : Int) (out9 : Sl (Sl Int)) (v25 : Int) (v26 : Int) (tb2 : Trace) : Int × (Sl Int) × Int × Int → St := fun q => (af [Cv 1 c1, Pv 2, Iv 8 n8, Ov 9, Iv 10 q.1, Ov 11, Iv 25 v25, Iv 26 v26, Iv 31 q.2.2.1, Iv 32 q.2.2.2] [Xb 2 tb2, Lb 2009 out9, Lb 2011 q.2.1])
def jB (S : Sys) (c1 : Sl Int) (n8 : Int) (out9 : Sl (Sl Int)) (v25 : Int) (v26 : Int) (tb2 : Trace) : ((Sl (Sl Int)) × (Sl Int)) → Nat × St := fun e => (2, (af [Cv 1 c1, Pv 2, Iv 8 n8, Ov 9, Ov 11, Iv 25 v25, Iv 26 v26] [Xb 2 tb2, Lb 2009 e.1, Lb 2011 e.2]))
def jA (S : Sys) (c1 : Sl Int) (n8 : Int) (out9 : Sl (Sl Int)) (v25 : Int) (v26 : Int) (tb2 : Trace) : Empty → St := fun e => Empty.elim e
noncomputable def aB (c1 : Sl Int) (n8 : Int) (v25 : Int) (tb2 : Trace) (out9 : Sl (Sl Int)) (v26 : Int) : Option (Fw ((Sl (Sl Int)) × Int) (Sl (Sl Int)) Empty) :=
 aL (decide (v26 < v25))
 ((pR n8 (0 : Int)).bind fun x_1 =>
 W2 c1 n8 out9 v26 x_1 v25 v26 n8 0 tb2)
 (some (.x out9))
noncomputable def W1 (c1 : Sl Int) (n8 : Int) (out9 : Sl (Sl Int)) (v25 : Int) (v26 : Int) (tb2 : Trace) : Option ((Sl (Sl Int)) × Int) :=
 (cW (fun q : (Sl (Sl Int)) × Int => aB c1 n8 v25 tb2 q.1 q.2) (out9, v26)).bind (Fw.elim
 (fun e => some (e, 0))
 (fun e => Empty.elim e))
def cJ (S : Sys) (c1 : Sl Int) (n8 : Int) (v25 : Int) (tb2 : Trace) : (Sl (Sl Int)) × Int → St := fun q => (af [Cv 1 c1, Pv 2, Iv 8 n8, Ov 9, Iv 25 v25, Iv 26 q.2] [Xb 2 tb2, Lb 2009 q.1])
def cL (S : Sys) (c1 : Sl Int) (n8 : Int) (v25 : Int) (tb2 : Trace) : (Sl (Sl Int)) → Nat × St := fun e => (0, (af [Ov 9] [Lb 2009 e]))
def cM (S : Sys) (c1 : Sl Int) (n8 : Int) (v25 : Int) (tb2 : Trace) : Empty → St := fun e => Empty.elim e
theorem ga (c1 : Sl Int) (n8 : Int) (out9 : Sl (Sl Int)) (v25 : Int) (v26 : Int) (tb2 : Trace) (p10 : Int) (row11 : Sl Int) (v31 : Int) (v32 : Int) : Le ((cC c1 n8 out9 v25 v26 tb2 p10 row11 v31 v32).bind (fun w => some (Fw.out (jD S c1 n8 out9 v25 v26 tb2) (jB S c1 n8 out9 v25 v26 tb2) (jA S c1 n8 out9 v25 v26 tb2) w))) (rn S (ah S T) some (.rc iA) [] (af [Cv 1 c1, Pv 2, Iv 8 n8, Ov 9, Iv 10 p10, Ov 11, Iv 25 v25, Iv 26 v26, Iv 31 v31, Iv 32 v32] [Xb 2 tb2, Lb 2009 out9, Lb 2011 row11])) := by
 unfold cC
 refine aJ (n := 9) (fo' := .rc C3) (fs' := F8) (t := decide (v32 < v31)) (A := fun bb => (af [Cv 1 c1, Pv 2, Iv 8 n8, Ov 9, Iv 10 p10, Ov 11, Iv 25 v25, Iv 26 v26, Iv 31 v31, Iv 32 v32, Bv 33 bb] [Xb 2 tb2, Lb 2009 out9, Lb 2011 row11])) (by kernel_rfl) ?_ ?_
 ·refine aJ (n := 18) (fo' := .rc C4) (fs' := F7) (t := (p10 == v32)) (A := fun bb => (af [Cv 1 c1, Pv 2, Iv 8 n8, Ov 9, Iv 10 p10, Ov 11, Iv 25 v25, Iv 26 v26, Iv 31 v31, Iv 32 v32, Bv 33 true, Iv 12 v32, Bv 37 (!bb)] [Xb 2 tb2, Lb 2009 out9, Lb 2011 row11])) (by kernel_rfl) ?_ ?_
  ·exact av (by kernel_rfl)
  ·refine bg 7 [] Q8 F7 (af [Cv 1 c1, Pv 2, Iv 8 n8, Ov 9, Iv 10 p10, Ov 11, Iv 25 v25, Iv 26 v26, Iv 31 v31, Iv 32 v32, Bv 33 true, Bv 37 true, (38, .own 2011), Iv 39 v32, Cv 40 tb2, Iv 41 p10, Iv 42 v32] [Xb 2 tb2, Lb 2009 out9, Lb 2011 row11]) (vK (S := S) (T := T)) (tb2, p10, v32) rfl (by kernel_rfl) fun x_1 h_1 => ?_
   refine bg 1 [] Q7 F7 (af [Cv 1 c1, Pv 2, Iv 8 n8, Ov 9, Iv 10 p10, Ov 11, Iv 25 v25, Iv 26 v26, Iv 31 v31, Iv 32 v32, Bv 33 true, Bv 37 true, (38, .own 2011), Iv 39 v32, Cv 43 x_1, Cv 44 c1] [Xb 2 tb2, Lb 2009 out9, Lb 2011 row11]) (sT (S := S) (T := T)) (x_1, c1) rfl (by kernel_rfl) fun x_2 h_2 => ?_
   refine ID 0 false [] Q6 F7 (af [Cv 1 c1, Pv 2, Iv 8 n8, Ov 9, Iv 10 p10, Ov 11, Iv 25 v25, Iv 26 v26, Iv 31 v31, Iv 32 v32, Bv 33 true, Bv 37 true, (38, .own 2011), Iv 39 v32, Iv 45 x_2] [Xb 2 tb2, Lb 2009 out9, Lb 2011 row11]) .i64 2011 rfl (by kernel_rfl) fun x_3 h_3 => ?_
   refine Qo 0 false [] Q5 F7 (af [Cv 1 c1, Pv 2, Iv 8 n8, Ov 9, Iv 10 p10, Ov 11, Iv 25 v25, Iv 26 v26, Iv 31 v31, Iv 32 v32, Bv 33 true, Bv 37 true, Iv 45 x_2, (46, .el 2011 x_3 0)] [Xb 2 tb2, Lb 2009 out9, Lb 2011 row11]) 2011 (.int .i64 x_2) rfl (by kernel_rfl) fun x_4 h_4 => ?_
   exact av (by kernel_rfl)
 ·exact av (by kernel_rfl)
theorem lE (c1 : Sl Int) (n8 : Int) (out9 : Sl (Sl Int)) (p10 : Int) (row11 : Sl Int) (v25 : Int) (v26 : Int) (v31 : Int) (v32 : Int) (tb2 : Trace) : Le ((W2 c1 n8 out9 p10 row11 v25 v26 v31 v32 tb2).bind (fun w => some (Fw.out (cJ S c1 n8 v25 tb2) (cL S c1 n8 v25 tb2) (cM S c1 n8 v25 tb2) w))) (rn S (ah S T) some (.rc (.loop iA)) jo (af [Cv 1 c1, Pv 2, Iv 8 n8, Ov 9, Iv 10 p10, Ov 11, Iv 25 v25, Iv 26 v26, Iv 31 v31, Iv 32 v32] [Xb 2 tb2, Lb 2009 out9, Lb 2011 row11])) := by
 unfold W2
 refine eJ (n := 0) (fs := jo) (a := iA) (eσ := jD S c1 n8 out9 v25 v26 tb2) (eε := jB S c1 n8 out9 v25 v26 tb2) (eρ := jA S c1 n8 out9 v25 v26 tb2) (by kernel_rfl) (fun q => ga c1 n8 out9 v25 v26 tb2 q.1 q.2.1 q.2.2.1 q.2.2.2) ?_ ?_
 ·intro e
  refine Kd 6 false [] (o2 50 (.a (.buildSl 1 1 [.au] [0])) [49] [49] :: Q9) F9 (af [Cv 1 c1, Pv 2, Iv 8 n8, Iv 25 v25, Iv 26 v26, (48, .own 2009), Cv 49 e.2] [Xb 2 tb2, Lb 2009 e.1]) ([e.2] : List (Sl Int)) rfl (by kernel_rfl) (by kernel_rfl) ?_
  refine vV 0 false [] Q9 F9 (af [Cv 1 c1, Pv 2, Iv 8 n8, Iv 25 v25, Iv 26 v26, (48, .own 2009), (50, .own 50)] [Xb 2 tb2, Lb 2009 e.1, Lb 50 (Sl.row [e.2] : Sl (Sl Int))]) 2009 50 rfl (by kernel_rfl) (by kernel_rfl) fun x_1 h_1 => ?_
  exact av (by kernel_rfl)
 ·intro e; exact Empty.elim e
theorem aY (c1 : Sl Int) (n8 : Int) (v25 : Int) (tb2 : Trace) (out9 : Sl (Sl Int)) (v26 : Int) : Le ((aB c1 n8 v25 tb2 out9 v26).bind (fun w => some (Fw.out (cJ S c1 n8 v25 tb2) (cL S c1 n8 v25 tb2) (cM S c1 n8 v25 tb2) w))) (rn S (ah S T) some (.rc cg) [] (af [Cv 1 c1, Pv 2, Iv 8 n8, Ov 9, Iv 25 v25, Iv 26 v26] [Xb 2 tb2, Lb 2009 out9])) := by
 unfold aB
 refine aJ (n := 8) (fo' := .rc C2) (fs' := F6) (t := decide (v26 < v25)) (A := fun bb => (af [Cv 1 c1, Pv 2, Iv 8 n8, Ov 9, Iv 25 v25, Iv 26 v26, Bv 27 bb] [Xb 2 tb2, Lb 2009 out9])) (by kernel_rfl) ?_ ?_
 ·refine O3 14 false [] Q4 F5 (af [Cv 1 c1, Pv 2, Iv 8 n8, Ov 9, Iv 25 v25, Iv 26 v26, Bv 27 true, Iv 10 v26, Iv 29 n8] [Xb 2 tb2, Lb 2009 out9]) rfl (by kernel_rfl) (by kernel_rfl) fun x_1 h_1 => ?_
  exact eY (n := 14) (by kernel_rfl) (lE c1 n8 out9 v26 x_1 v25 v26 n8 0 tb2)
 ·exact av (by kernel_rfl)
theorem eo (c1 : Sl Int) (n8 : Int) (out9 : Sl (Sl Int)) (v25 : Int) (v26 : Int) (tb2 : Trace) : Le ((W1 c1 n8 out9 v25 v26 tb2).bind (fun r => some [enc r.1, .int .i64 r.2])) (rn S (ah S T) (cj [.s 4, .s 5]) (.rc (.loop cg)) lH (af [Cv 1 c1, Pv 2, Iv 8 n8, Ov 9, Iv 25 v25, Iv 26 v26] [Xb 2 tb2, Lb 2009 out9])) := by
 unfold W1
 refine eJ (n := 0) (fs := lH) (a := cg) (eσ := cJ S c1 n8 v25 tb2) (eε := cL S c1 n8 v25 tb2) (eρ := cM S c1 n8 v25 tb2) (by kernel_rfl) (fun q => aY c1 n8 v25 tb2 q.1 q.2) ?_ ?_
 ·intro e
  exact av (by kernel_rfl)
 ·intro e; exact Empty.elim e
end
end bL
noncomputable def bL (t0 : Trace) (c1 : Sl Int) : Option ((Sl (Sl Int)) × Int) :=
 (dH t0 c1).bind fun x_1 =>
 aL (x_1.2 == 0)
 (bL.W1 c1 (len t0.procs) (Sl.nil : Sl (Sl Int)) (len t0.procs) 0 t0)
 (some (Sl.nil, x_1.2))
open bL in
theorem uY {S : Sys} {T : az} [ec S T] (t0 : Trace) (c1 : Sl Int) : Le ((bL t0 c1).bind fun r => some [enc r.1, .int .i64 r.2]) (bl (ah S T) (S.N 56) [enc t0, enc c1]) := by
 refine cZ (ec.t (S := S) (T := T)) (Nat.le_of_ble_eq_true rfl) ?_
 unfold bL
 refine gm 2 false [] Q3 F4 (af [Cv 0 t0, Cv 1 c1] []) t0 rfl (by kernel_rfl) (by kernel_rfl) ?_
 refine bg 9 [] Q2 F3 (af [Cv 1 c1, Pv 2, Cv 14 t0, Cv 15 c1] [Xb 2 t0]) (wk (S := S) (T := T)) (t0, c1) rfl (by kernel_rfl) fun x_1 h_1 => ?_
 refine aJ (n := 13) (fo' := .rc C1) (fs' := F2) (t := (x_1.2 == 0)) (A := fun bb => (af [Cv 1 c1, Pv 2, Iv 7 x_1.2, Bv 20 (!bb)] [Xb 2 t0])) (by kernel_rfl) ?_ ?_
 ·refine dP 7 false [] Q1 F1 (af [Cv 1 c1, Pv 2, Iv 7 x_1.2, Bv 20 false, Cv 23 t0.procs] [Xb 2 t0]) t0.procs rfl (by kernel_rfl) ?_
  exact eY (n := 18) (by kernel_rfl) (eo c1 (len t0.procs) (Sl.nil : Sl (Sl Int)) (len t0.procs) 0 t0)
 ·exact av (by kernel_rfl)
theorem ox {S : Sys} {T : az} [ec S T] : dS S (ah S T) (S.N 56) (fun z : Trace × (Sl Int) => [enc z.1, enc z.2]) (fun r : (Sl (Sl Int)) × Int => [enc r.1, .int .i64 r.2]) (fun z => bL z.1 z.2) false where
 k := ec.k (S := S) (T := T)
 h z := uY z.1 z.2
 l z := by simp
 r r := by simp
 s h r := by cases h
namespace bW
def Q1 : List RO := o2 7 ln [6] [6] ::
 o1 8 (.k (.int .i64 0)) [] ::
 []
def C1 : RC := .cond (.s 9) (.skip) (.gh (.keep [] []) (.exit 0))
def Q2 : List RO := o2 16 .c [11, 15] [11,15] ::
 []
def Q3 : List RO := o2 14 (ix 1) [12, 13] [12,13] ::
 o2 15 (ld 1) [14] [14] ::
 Q2
def C2 : RC := .cond (.s 16) (.seq (.ops (o1 17 5 [5] ::
 o1 4 17 [17] ::
 [])) (.gh (.keep [4] []) (.ret))) (.skip)
def U1 : RC := .seq (.ops (o1 11 1 [] ::
 o1 12 0 [] ::
 o1 13 5 [] ::
 Q3)) (C2)
def U2 : RC := .ops (o2 18 (bI .add) [8, .k (.int .i64 1)] [8] ::
 o1 8 18 [18] ::
 [])
def U3 : RC := .seq (.block 1 (.seq (.ops (o1 10 8 [] ::
 o1 5 10 [10] ::
 [])) (U1))) (U2)
def cg : RC := .hg (.seq (.ops (o2 9 (bI .lss) [8, 7] [] ::
 [])) (.seq (C1) (U3))) (.keep [0,1,7,8] [])
def U4 : RC := .block 0 (.gh (.keep [0,1,7,8] []) (.loop cg))
def U5 : RC := .seq (.ops (o1 4 (.k (.int .i64 (-1))) [] ::
 [])) (.gh (.keep [4] []) (.ret))
def U6 : RC := .seq (.seq (.ops (o1 6 0 [] ::
 Q1)) (U4)) (U5)
def text : RF := ⟨19, [.s 4], .seq (.ops (o1 4 (.k (.int .i64 0)) [4] ::
 [])) (U6)⟩
def F1 : List Fm := [.seq U4, .seq U5]
def F4 : List Fm := [.seq U3, .gst (.keep [0,1,7,8] [])]
def F5 : List Fm := [.blk 0, .seq U5]
def F2 : List Fm := [.blk 1, .seq U2, .gst (.keep [0,1,7,8] [])]
def F3 : List Fm := .seq C2 :: F2
end bW
class eM (S : Sys) (T : az) : Prop where
 t : T (S.N 57) = some bW.text
 k : S.E.keep (S.N 57) = false
namespace bW
section
variable {S : Sys} {T : az} [eM S T]
noncomputable def aB (s0 : Sl Int) (v7 : Int) (v8 : Int) (p1 : Int → Option Bool) : Option (Fw Int Unit Int) :=
 aL (decide (v8 < v7))
 ((idx s0 v8).bind fun x_1 =>
 (p1 x_1).bind fun x_2 =>
 aL x_2
 (some (.r v8))
 (some (.n (IntKind.wrap .i64 (v8 + 1)))))
 (some (.x ()))
noncomputable def W1 (s0 : Sl Int) (v7 : Int) (v8 : Int) (p1 : Int → Option Bool) : Option Int :=
 (cW (fun q : Int => aB s0 v7 q p1) v8).bind (Fw.elim
 (fun e => some (-1))
 (fun e => some e))
def cJ (S : Sys) (g1 : FuncId) (e1 : List V) (s0 : Sl Int) (v7 : Int) : Int → St := fun q => (af [Cv 0 s0, (1, .v (.clo g1 [] e1)), Iv 7 v7, Iv 8 q] [])
def cL (S : Sys) (g1 : FuncId) (e1 : List V) (s0 : Sl Int) (v7 : Int) : Unit → Nat × St := fun e => (0, (af [] []))
def cM (S : Sys) (g1 : FuncId) (e1 : List V) (s0 : Sl Int) (v7 : Int) : Int → St := fun e => (af [Iv 4 e] [])
theorem aY (g1 : FuncId) (e1 : List V) (p1 : Int → Option Bool) (h1 : fZ S (ah S T) g1 e1 (fun z : Int => [.int .i64 z]) (fun r : Bool => [.bool r]) p1) (s0 : Sl Int) (v7 : Int) (v8 : Int) : Le ((aB s0 v7 v8 p1).bind (fun w => some (Fw.out (cJ S g1 e1 s0 v7) (cL S g1 e1 s0 v7) (cM S g1 e1 s0 v7) w))) (rn S (ah S T) some (.rc cg) [] (af [Cv 0 s0, (1, .v (.clo g1 [] e1)), Iv 7 v7, Iv 8 v8] [])) := by
 unfold aB
 refine aJ (n := 7) (fo' := .rc C1) (fs' := F4) (t := decide (v8 < v7)) (A := fun bb => (af [Cv 0 s0, (1, .v (.clo g1 [] e1)), Iv 7 v7, Iv 8 v8, Bv 9 bb] [])) (by kernel_rfl) ?_ ?_
 ·refine ey 16 false [] Q3 F3 (af [Cv 0 s0, (1, .v (.clo g1 [] e1)), Iv 7 v7, Iv 8 v8, Bv 9 true, Iv 5 v8, (11, .v (.clo g1 [] e1)), Cv 12 s0, Iv 13 v8] []) .i64 rfl (by kernel_rfl) fun x_1 h_1 => ?_
  refine rQ 1 false [] Q2 F3 (af [Cv 0 s0, (1, .v (.clo g1 [] e1)), Iv 7 v7, Iv 8 v8, Bv 9 true, Iv 5 v8, (11, .v (.clo g1 [] e1)), Iv 15 x_1] []) h1.f x_1 e1 [.int .i64 x_1] rfl rfl (by kernel_rfl) fun x_2 h_2 => ?_
  refine aJ (n := 2) (fo' := .rc C2) (fs' := F2) (t := x_2) (A := fun bb => (af [Cv 0 s0, (1, .v (.clo g1 [] e1)), Iv 7 v7, Iv 8 v8, Bv 9 true, Iv 5 v8, Bv 16 bb] [])) (by kernel_rfl) ?_ ?_
  ·exact av (by kernel_rfl)
  ·exact av (by kernel_rfl)
 ·exact av (by kernel_rfl)
theorem eo (g1 : FuncId) (e1 : List V) (p1 : Int → Option Bool) (h1 : fZ S (ah S T) g1 e1 (fun z : Int => [.int .i64 z]) (fun r : Bool => [.bool r]) p1) (s0 : Sl Int) (v7 : Int) (v8 : Int) : Le ((W1 s0 v7 v8 p1).bind (fun r => some [.int .i64 r])) (rn S (ah S T) (cj [.s 4]) (.rc (.loop cg)) F5 (af [Cv 0 s0, (1, .v (.clo g1 [] e1)), Iv 7 v7, Iv 8 v8] [])) := by
 unfold W1
 refine eJ (n := 0) (fs := F5) (a := cg) (eσ := cJ S g1 e1 s0 v7) (eε := cL S g1 e1 s0 v7) (eρ := cM S g1 e1 s0 v7) (by kernel_rfl) (fun q => aY g1 e1 p1 h1 s0 v7 q) ?_ ?_
 ·intro e
  exact av (by kernel_rfl)
 ·intro e
  exact av (by kernel_rfl)
end
end bW
noncomputable def bW (s0 : Sl Int) (p1 : Int → Option Bool) : Option Int :=
 bW.W1 s0 (len s0) 0 p1
open bW in
theorem qA {S : Sys} {T : az} [eM S T] (g1 : FuncId) (e1 : List V) (p1 : Int → Option Bool) (h1 : fZ S (ah S T) g1 e1 (fun z : Int => [.int .i64 z]) (fun r : Bool => [.bool r]) p1) (s0 : Sl Int) : Le ((bW s0 p1).bind fun r => some [.int .i64 r]) (bl (ah S T) (S.N 57) [enc s0, .clo g1 [] e1]) := by
 refine cZ (eM.t (S := S) (T := T)) (Nat.le_of_ble_eq_true rfl) ?_
 unfold bW
 refine dP 9 false [] Q1 F1 (af [Cv 0 s0, (1, .v (.clo g1 [] e1)), Cv 6 s0] []) s0 rfl (by kernel_rfl) ?_
 exact eY (n := 5) (by kernel_rfl) (eo g1 e1 p1 h1 s0 (len s0) 0)
theorem qe {S : Sys} {T : az} [eM S T] (g1 : FuncId) (e1 : List V) (p1 : Int → Option Bool) (h1 : fZ S (ah S T) g1 e1 (fun z : Int => [.int .i64 z]) (fun r : Bool => [.bool r]) p1) : dS S (ah S T) (S.N 57) (fun z : Sl Int => [enc z, .clo g1 [] e1]) (fun r : Int => [.int .i64 r]) (fun z => bW z p1) true where
 k := eM.k (S := S) (T := T)
 h z := qA g1 e1 p1 h1 z
 l z := by simp [h1.d]
 r r := by simp
 s h r := by kernel_rfl
namespace br
def Q1 : List RO := o2 7 .c [.f 57, 5, 6] [5,6] ::
 o2 8 (bI .geq) [7, .k (.int .i64 0)] [7] ::
 o1 4 8 [8] ::
 []
def U1 : RC := .seq (.ops (o1 5 0 [0] ::
 o1 6 1 [1] ::
 Q1)) (.ret)
def text : RF := ⟨9, [.s 4], .seq (.ops (o1 4 (.k (.bool false)) [4] ::
 [])) (U1)⟩
def F1 : List Fm := [.seq .ret]
end br
class dh (S : Sys) (T : az) : Prop where
 t : T (S.N 58) = some br.text
 k : S.E.keep (S.N 58) = false
 c0 : eM S T
attribute [instance] dh.c0
namespace br
section
variable {S : Sys} {T : az} [dh S T]
end
end br
noncomputable def br (s0 : Sl Int) (p1 : Int → Option Bool) : Option Bool :=
 (bW s0 p1).bind fun x_1 =>
 some (decide (x_1 ≥ 0))
open br in
theorem oW {S : Sys} {T : az} [dh S T] (g1 : FuncId) (e1 : List V) (p1 : Int → Option Bool) (h1 : fZ S (ah S T) g1 e1 (fun z : Int => [.int .i64 z]) (fun r : Bool => [.bool r]) p1) (s0 : Sl Int) : Le ((br s0 p1).bind fun r => some [.bool r]) (bl (ah S T) (S.N 58) [enc s0, .clo g1 [] e1]) := by
 refine cZ (dh.t (S := S) (T := T)) (Nat.le_of_ble_eq_true rfl) ?_
 unfold br
 refine bg 9 [] Q1 F1 (af [Cv 5 s0, (6, .v (.clo g1 [] e1))] []) (qe (S := S) (T := T) g1 e1 p1 h1) s0 rfl (by kernel_rfl) fun x_1 h_1 => ?_
 exact av (by kernel_rfl)
theorem oC {S : Sys} {T : az} [dh S T] (g1 : FuncId) (e1 : List V) (p1 : Int → Option Bool) (h1 : fZ S (ah S T) g1 e1 (fun z : Int => [.int .i64 z]) (fun r : Bool => [.bool r]) p1) : dS S (ah S T) (S.N 58) (fun z : Sl Int => [enc z, .clo g1 [] e1]) (fun r : Bool => [.bool r]) (fun z => br z p1) true where
 k := dh.k (S := S) (T := T)
 h z := oW g1 e1 p1 h1 z
 l z := by simp [h1.d]
 r r := by simp
 s h r := by kernel_rfl
namespace b9
def U1 : RC := .seq (.ops (o1 3 0 [0] ::
 o2 4 (bI .neq) [3, .k (.int .i64 0)] [3] ::
 o1 2 4 [4] ::
 [])) (.ret)
def text : RF := ⟨5, [.s 2], .seq (.ops (o1 2 (.k (.bool false)) [2] ::
 [])) (U1)⟩
end b9
class eW (S : Sys) (T : az) : Prop where
 t : T (S.N 59) = some b9.text
 k : S.E.keep (S.N 59) = false
namespace b9
section
variable {S : Sys} {T : az} [eW S T]
end
end b9
noncomputable def b9 (n0 : Int) : Option Bool :=
 some (!(n0 == 0))
open b9 in
theorem q9 {S : Sys} {T : az} [eW S T] (n0 : Int) : Le ((b9 n0).bind fun r => some [.bool r]) (bl (ah S T) (S.N 59) [.int .i64 n0]) := by
 refine cZ (eW.t (S := S) (T := T)) (Nat.le_of_ble_eq_true rfl) ?_
 unfold b9
 exact av (by kernel_rfl)
theorem qx {S : Sys} {T : az} [eW S T] : dS S (ah S T) (S.N 59) (fun z : Int => [.int .i64 z]) (fun r : Bool => [.bool r]) (fun z => b9 z) true where
 k := eW.k (S := S) (T := T)
 h z := q9 z
 l z := by simp
 r r := by simp
 s h r := by kernel_rfl
namespace cT
def Q1 : List RO := o2 4 .c [.f 58, 3, .f 59] [3] ::
 o1 2 4 [4] ::
 []
def text : RF := ⟨5, [.s 2], .seq (.ops (o1 2 (.k (.bool false)) [2] ::
 [])) (.seq (.ops (o1 3 0 [0] ::
 Q1)) (.ret))⟩
def F1 : List Fm := [.seq .ret]
end cT
class eL (S : Sys) (T : az) : Prop where
 t : T (S.N 60) = some cT.text
 k : S.E.keep (S.N 60) = false
 c0 : eW S T
 c1 : dh S T
attribute [instance] eL.c0 eL.c1
namespace cT
section
variable {S : Sys} {T : az} [eL S T]
end
end cT
noncomputable def cT (row0 : Sl Int) : Option Bool :=
 (br row0 (fun z => b9 z)).bind fun x_1 =>
 some x_1
open cT in
theorem tf {S : Sys} {T : az} [eL S T] (row0 : Sl Int) : Le ((cT row0).bind fun r => some [.bool r]) (bl (ah S T) (S.N 60) [enc row0]) := by
 refine cZ (eL.t (S := S) (T := T)) (Nat.le_of_ble_eq_true rfl) ?_
 unfold cT
 refine bg 8 [] Q1 F1 (af [Cv 3 row0] []) (oC (S := S) (T := T) (S.N 59) [] (fun z => b9 z) (fZ.of (qx (S := S) (T := T)) (fun z => z) (fun _ => rfl) (fun _ => rfl) (by simp))) row0 rfl (by kernel_rfl) fun x_1 h_1 => ?_
 exact av (by kernel_rfl)
theorem so {S : Sys} {T : az} [eL S T] : dS S (ah S T) (S.N 60) (fun z : Sl Int => [enc z]) (fun r : Bool => [.bool r]) (fun z => cT z) true where
 k := eL.k (S := S) (T := T)
 h z := tf z
 l z := by simp
 r r := by simp
 s h r := by kernel_rfl
namespace eG
def Q1 : List RO := o2 4 .c [.f 38, 3, .f 60] [3] ::
 o2 5 (.p (.not)) [4] [4] ::
 o1 2 5 [5] ::
 []
def text : RF := ⟨6, [.s 2], .seq (.ops (o1 2 (.k (.bool false)) [2] ::
 [])) (.seq (.ops (o1 3 0 [0] ::
 Q1)) (.ret))⟩
def F1 : List Fm := [.seq .ret]
end eG
class fL (S : Sys) (T : az) : Prop where
 t : T (S.N 61) = some eG.text
 k : S.E.keep (S.N 61) = false
 c0 : eL S T
 c1 : cy S T
attribute [instance] fL.c0 fL.c1
namespace eG
section
variable {S : Sys} {T : az} [fL S T]
end
end eG
noncomputable def eG (l0 : Sl (Sl Int)) : Option Bool :=
 (aV l0 (fun z => cT z)).bind fun x_1 =>
 some (!x_1)
open eG in
theorem wc {S : Sys} {T : az} [fL S T] (l0 : Sl (Sl Int)) : Le ((eG l0).bind fun r => some [.bool r]) (bl (ah S T) (S.N 61) [enc l0]) := by
 refine cZ (fL.t (S := S) (T := T)) (Nat.le_of_ble_eq_true rfl) ?_
 unfold eG
 refine bg 8 [] Q1 F1 (af [Cv 3 l0] []) (jJ (S := S) (T := T) (S.N 60) [] (fun z => cT z) (fZ.of (so (S := S) (T := T)) (fun z => z) (fun _ => rfl) (fun _ => rfl) (by simp))) l0 rfl (by kernel_rfl) fun x_1 h_1 => ?_
 exact av (by kernel_rfl)
theorem uV {S : Sys} {T : az} [fL S T] : dS S (ah S T) (S.N 61) (fun z : Sl (Sl Int) => [enc z]) (fun r : Bool => [.bool r]) (fun z => eG z) true where
 k := fL.k (S := S) (T := T)
 h z := wc z
 l z := by simp
 r r := by simp
 s h r := by kernel_rfl
namespace dj
def Q5 : List RO := o2 2 (.a .box) [0] [0] ::
 o1 4 (.k (.bool false)) [4] ::
 o1 5 (.k (.int .i64 0)) [5] ::
 []
def Q4 : List RO := o2 11 .c [.f 56, 9, 10] [9,10] ::
 o1 8 11 [11] ::
 o2 12 (.p (.ext 0)) [8] [] ::
 o2 13 (.p (.ext 1)) [8] [8] ::
 o1 6 12 [12] ::
 o1 7 13 [13] ::
 []
def Q3 : List RO := o1 20 7 [7] ::
 o1 4 19 [19] ::
 o1 5 20 [20] ::
 []
def Q2 : List RO := o3 18 16 true .c [.f 61, 17] [17] ::
 o2 19 (.p (.pick)) [16, 18, .k (.bool false)] [16,18] ::
 Q3
def Q1 : List RO := o3 17 16 true (.p (.id)) [6] [6] ::
 Q2
def U1 : RC := .seq (.ops (o1 14 7 [] ::
 o2 15 (bI .eql) [14, .k (.int .i64 0)] [14] ::
 o1 16 15 [15] ::
 Q1)) (.ret)
def U2 : RC := .seq (.ops (o2 9 (lD 1) [2] [2] ::
 o1 10 1 [1] ::
 Q4)) (U1)
def text : RF := ⟨21, [.s 4, .s 5], .seq (.ops Q5) (U2)⟩
def F1 : List Fm := [.seq .ret]
def F2 : List Fm := [.seq U1]
def F3 : List Fm := [.seq U2]
end dj
class fM (S : Sys) (T : az) : Prop where
 t : T (S.N 62) = some dj.text
 k : S.E.keep (S.N 62) = false
 c0 : ec S T
 c1 : fL S T
attribute [instance] fM.c0 fM.c1
namespace dj
section
variable {S : Sys} {T : az} [fM S T]
end
end dj
noncomputable def dj (t0 : Trace) (c1 : Sl Int) : Option (Bool × Int) :=
 (bL t0 c1).bind fun x_1 =>
 (aL (x_1.2 == 0)
 ((eG x_1.1).bind fun x_2 =>
 some x_2)
 (some false) : Option Bool).bind fun x_3 =>
 some (x_3, x_1.2)
open dj in
theorem v3 {S : Sys} {T : az} [fM S T] (t0 : Trace) (c1 : Sl Int) : Le ((dj t0 c1).bind fun r => some [.bool r.1, .int .i64 r.2]) (bl (ah S T) (S.N 62) [enc t0, enc c1]) := by
 refine cZ (fM.t (S := S) (T := T)) (Nat.le_of_ble_eq_true rfl) ?_
 unfold dj
 refine gm 2 false [] Q5 F3 (af [Cv 0 t0, Cv 1 c1] []) t0 rfl (by kernel_rfl) (by kernel_rfl) ?_
 refine bg 8 [] Q4 F2 (af [Cv 9 t0, Cv 10 c1] [Xb 2 t0]) (ox (S := S) (T := T)) (t0, c1) rfl (by kernel_rfl) fun x_1 h_1 => ?_
 refine dw (fun x_3 => rn S (ah S T) (cj [.s 4, .s 5]) (.ops false [] Q3) F1 (af [Iv 7 x_1.2, Bv 19 x_3] [Xb 2 t0])) ?_ fun x_3 => ?_
 ·refine aJ (n := 12) (fo' := .ops false [] Q1) (fs' := F1) (t := (x_1.2 == 0)) (A := fun bb => (af [Cv 6 x_1.1, Iv 7 x_1.2, Bv 16 bb] [Xb 2 t0])) (by kernel_rfl) ?_ ?_
  ·refine bg 1 [] Q2 F1 (af [Iv 7 x_1.2, Bv 16 true, Cv 17 x_1.1] [Xb 2 t0]) (uV (S := S) (T := T)) x_1.1 rfl (by kernel_rfl) fun x_2 h_2 => ?_
   exact bp (n := 1) (by kernel_rfl) rfl
  ·exact bp (n := 3) (by kernel_rfl) rfl
 ·exact av (by kernel_rfl)
theorem lO {S : Sys} {T : az} [fM S T] : dS S (ah S T) (S.N 62) (fun z : Trace × (Sl Int) => [enc z.1, enc z.2]) (fun r : Bool × Int => [.bool r.1, .int .i64 r.2]) (fun z => dj z.1 z.2) true where
 k := fM.k (S := S) (T := T)
 h z := v3 z.1 z.2
 l z := by simp
 r r := by simp
 s h r := by kernel_rfl
namespace cD
def Q1 : List RO := o2 1 (.a .box) [0] [0] ::
 o1 2 (.k (.au)) [2] ::
 []
def Q5 : List RO := o2 8 ln [7] [7] ::
 o2 9 (bI .lss) [5, 8] [5,8] ::
 []
def C1 : RC := .cond (.s 9) (.skip) (.gh (.canon (.s 3) 2003 1) (.gh (.keep [3] [2003]) (.exit 0)))
def Q2 : List RO := o2 21 (.l (.append 1)) [12, 20] [12,20] ::
 o1 3 21 [21] ::
 []
def Q3 : List RO := o2 19 ln [18] [18] ::
 o2 20 (.a (.buildSl 1 1 [.int .i64 0] [0])) [19] [19] ::
 Q2
def Q4 : List RO := o2 16 (ix 3) [14, 15] [14,15] ::
 o2 17 (fa 2) [16] [16] ::
 o2 18 (ld 1) [17] [17] ::
 Q3
def U1 : RC := .ops (o1 10 4 [4] ::
 o2 11 (bI .add) [10, .k (.int .i64 1)] [10] ::
 o1 4 11 [11] ::
 [])
def U2 : RC := .seq (.block 1 (.ops (o1 12 3 [3] ::
 o2 13 (fa 0) [1] [] ::
 o2 14 (ld 1) [13] [13] ::
 o1 15 4 [] ::
 Q4))) (U1)
def cg : RC := .hg (.hg (.seq (.seq (.ops (o1 5 4 [] ::
 o2 6 (fa 0) [1] [] ::
 o2 7 (ld 1) [6] [6] ::
 Q5)) (C1)) (U2)) (.canon (.s 3) 2003 1)) (.keep [1,3,4] [1,2003])
def U3 : RC := .block 0 (.gh (.canon (.s 3) 2003 1) (.gh (.keep [1,3,4] [1,2003]) (.loop cg)))
def U4 : RC := .seq (.ops (o1 22 3 [3] ::
 o1 2 22 [22] ::
 [])) (.ret)
def U5 : RC := .seq (.seq (.ops (o1 4 (.k (.int .i64 0)) [] ::
 [])) (U3)) (U4)
def U6 : RC := .seq (.ops (o1 3 (.k (.au)) [] ::
 [])) (U5)
def text : RF := ⟨23, [.s 2], .seq (.ops Q1) (U6)⟩
def F1 : List Fm := [.seq U6]
def F5 : List Fm := [.blk 0, .seq U4]
def F3 : List Fm := [.seq U2, .gst (.canon (.s 3) 2003 1), .gst (.keep [1,3,4] [1,2003])]
def F2 : List Fm := [.blk 1, .seq U1, .gst (.canon (.s 3) 2003 1), .gst (.keep [1,3,4] [1,2003])]
def F4 : List Fm := .seq C1 :: F3
end cD
class gB (S : Sys) (T : az) : Prop where
 t : T (S.N 63) = some cD.text
 k : S.E.keep (S.N 63) = false
namespace cD
section
variable {S : Sys} {T : az} [gB S T]
noncomputable def aB (tb1 : Trace) (out3 : Sl Int) (p4 : Int) : Option (Fw ((Sl Int) × Int) (Sl Int) Empty) :=
 aL (decide (p4 < (len tb1.procs)))
 ((idx tb1.procs p4).bind fun x_1 =>
 (iM out3 (len x_1.events : Int)).bind fun x_2 =>
 some (.n (x_2, IntKind.wrap .i64 (p4 + 1))))
 (some (.x out3))
noncomputable def W1 (out3 : Sl Int) (p4 : Int) (tb1 : Trace) : Option (Sl Int) :=
 (cW (fun q : (Sl Int) × Int => aB tb1 q.1 q.2) (out3, p4)).bind (Fw.elim
 (fun e => some e)
 (fun e => Empty.elim e))
def cJ (S : Sys) (tb1 : Trace) : (Sl Int) × Int → St := fun q => (af [Pv 1, Ov 3, Iv 4 q.2] [Xb 1 tb1, Lb 2003 q.1])
def cL (S : Sys) (tb1 : Trace) : (Sl Int) → Nat × St := fun e => (0, (af [Ov 3] [Lb 2003 e]))
def cM (S : Sys) (tb1 : Trace) : Empty → St := fun e => Empty.elim e
theorem aY (tb1 : Trace) (out3 : Sl Int) (p4 : Int) : Le ((aB tb1 out3 p4).bind (fun w => some (Fw.out (cJ S tb1) (cL S tb1) (cM S tb1) w))) (rn S (ah S T) some (.rc cg) [] (af [Pv 1, Ov 3, Iv 4 p4] [Xb 1 tb1, Lb 2003 out3])) := by
 unfold aB
 refine dP 8 false [] Q5 F4 (af [Pv 1, Ov 3, Iv 4 p4, Iv 5 p4, Cv 7 tb1.procs] [Xb 1 tb1, Lb 2003 out3]) tb1.procs rfl (by kernel_rfl) ?_
 refine aJ (n := 3) (fo' := .rc C1) (fs' := F3) (t := decide (p4 < (len tb1.procs))) (A := fun bb => (af [Pv 1, Ov 3, Iv 4 p4, Bv 9 bb] [Xb 1 tb1, Lb 2003 out3])) (by kernel_rfl) ?_ ?_
 ·refine ey 10 false [] Q4 F2 (af [Pv 1, Iv 4 p4, Bv 9 true, (12, .own 2003), Cv 14 tb1.procs, Iv 15 p4] [Xb 1 tb1, Lb 2003 out3]) .i64 rfl (by kernel_rfl) fun x_1 h_1 => ?_
  refine dP 2 false [] Q3 F2 (af [Pv 1, Iv 4 p4, Bv 9 true, (12, .own 2003), Cv 18 x_1.events] [Xb 1 tb1, Lb 2003 out3]) x_1.events rfl (by kernel_rfl) ?_
  refine vV 1 false [] Q2 F2 (af [Pv 1, Iv 4 p4, Bv 9 true, (12, .own 2003), (20, .own 20)] [Xb 1 tb1, Lb 2003 out3, Lb 20 (Sl.row [len x_1.events] : Sl Int)]) 2003 20 rfl (by kernel_rfl) (by kernel_rfl) fun x_2 h_2 => ?_
  exact av (by kernel_rfl)
 ·exact av (by kernel_rfl)
theorem eo (out3 : Sl Int) (p4 : Int) (tb1 : Trace) : Le ((W1 out3 p4 tb1).bind (fun r => some [enc r])) (rn S (ah S T) (cj [.s 2]) (.rc (.loop cg)) F5 (af [Pv 1, Ov 3, Iv 4 p4] [Xb 1 tb1, Lb 2003 out3])) := by
 unfold W1
 refine eJ (n := 0) (fs := F5) (a := cg) (eσ := cJ S tb1) (eε := cL S tb1) (eρ := cM S tb1) (by kernel_rfl) (fun q => aY tb1 q.1 q.2) ?_ ?_
 ·intro e
  exact av (by kernel_rfl)
 ·intro e; exact Empty.elim e
end
end cD
noncomputable def cD (t0 : Trace) : Option (Sl Int) :=
 cD.W1 (Sl.nil : Sl Int) 0 t0
open cD in
theorem uW {S : Sys} {T : az} [gB S T] (t0 : Trace) : Le ((cD t0).bind fun r => some [enc r]) (bl (ah S T) (S.N 63) [enc t0]) := by
 refine cZ (gB.t (S := S) (T := T)) (Nat.le_of_ble_eq_true rfl) ?_
 unfold cD
 refine gm 2 false [] Q1 F1 (af [Cv 0 t0] []) t0 rfl (by kernel_rfl) (by kernel_rfl) ?_
 exact eY (n := 17) (by kernel_rfl) (eo (Sl.nil : Sl Int) 0 t0)
theorem tH {S : Sys} {T : az} [gB S T] : dS S (ah S T) (S.N 63) (fun z : Trace => [enc z]) (fun r : Sl Int => [enc r]) (fun z => cD z) false where
 k := gB.k (S := S) (T := T)
 h z := uW z
 l z := by simp
 r r := by simp
 s h r := by cases h
namespace aK
def Oe : List RO := o2 2 (.a .box) [0] [0] ::
 o1 4 (.k (.bool false)) [4] ::
 []
def Kg : List RO := o2 23 .c [.f 1] [] ::
 o2 24 (.p (.not)) [23] [23] ::
 []
def C1 : RC := .cond (.s 24) (.seq (.ops (o1 4 (.k (.bool false)) [] ::
 [])) (.gh (.keep [4] []) (.ret))) (.skip)
def kG : List RO := o3 41 38 false .c [.f 47, 39, 40] [39,40] ::
 o3 42 38 false (.p (.not)) [41] [41] ::
 o2 43 (.p (.pick)) [38, .k (.bool true), 42] [38,42] ::
 []
def Q3 : List RO := o3 39 38 false (lD 1) [2] [] ::
 o3 40 38 false (.p (.id)) [1] [] ::
 kG
def E9 : List RO := o1 38 37 [37] ::
 Q3
def jO : List RO := o3 35 33 false ln [34] [34] ::
 o3 36 33 false (bI .gtr) [35, .k (.int .i64 20)] [35] ::
 o2 37 (.p (.pick)) [33, .k (.bool true), 36] [33,36] ::
 E9
def Q2 : List RO := o3 34 33 false (.p (.id)) [1] [] ::
 jO
def PN : List RO := o1 33 32 [32] ::
 Q2
def jR : List RO := o3 30 28 false .c [.f 30, 29] [29] ::
 o3 31 28 false (.p (.not)) [30] [30] ::
 o2 32 (.p (.pick)) [28, .k (.bool true), 31] [28,31] ::
 PN
def Q1 : List RO := o3 29 28 false (lD 1) [2] [] ::
 jR
def OF : List RO := o2 26 .c [.f 5, 25] [25] ::
 o2 27 (bI .gtr) [26, .k (.int .i64 60)] [26] ::
 o1 28 27 [27] ::
 Q1
def C2 : RC := .cond (.s 43) (.seq (.ops (o1 4 (.k (.bool true)) [] ::
 [])) (.gh (.keep [4] []) (.ret))) (.skip)
def zC : List RO := o2 47 .c [.f 56, 45, 46] [45,46] ::
 o1 44 47 [47] ::
 o2 48 (.p (.ext 0)) [44] [] ::
 o2 49 (.p (.ext 1)) [44] [44] ::
 o1 5 48 [48] ::
 o1 6 49 [49] ::
 []
def nr : List RO := o3 56 52 false ln [55] [55] ::
 o3 57 52 false (bI .neq) [54, 56] [54,56] ::
 o2 58 (.p (.pick)) [52, .k (.bool true), 57] [52,57] ::
 []
def qT : List RO := o3 54 52 false ln [53] [53] ::
 o3 55 52 false (.p (.id)) [1] [] ::
 nr
def Q4 : List RO := o3 53 52 false (.p (.id)) [5] [] ::
 qT
def C3 : RC := .cond (.s 58) (.seq (.ops (o1 4 (.k (.bool false)) [] ::
 [])) (.gh (.keep [4] []) (.ret))) (.skip)
def zA : List RO := o2 60 ln [59] [] ::
 o1 61 (.k (.int .i64 0)) [] ::
 []
def C4 : RC := .cond (.s 62) (.skip) (.gh (.keep [1,2,7,8,9,10] [2]) (.exit 0))
def PB : List RO := o2 64 (ix 1) [59, 61] [] ::
 o2 65 (ld 1) [64] [64] ::
 o1 11 63 [63] ::
 o1 12 65 [65] ::
 []
def NP : List RO := o3 74 71 false (ix 1) [72, 73] [72,73] ::
 o3 75 71 false (ld 1) [74] [74] ::
 o3 76 71 false (bI .neq) [75, .k (.int .i64 0)] [75] ::
 o2 77 (.p (.pick)) [71, .k (.bool true), 76] [71,76] ::
 []
def Q5 : List RO := o3 72 71 false (.p (.id)) [12] [] ::
 o3 73 71 false (.p (.id)) [11] [] ::
 NP
def Pz : List RO := o2 69 ln [68] [68] ::
 o2 70 (bI .neq) [67, 69] [67,69] ::
 o1 71 70 [70] ::
 Q5
def Oi : List RO := o2 67 ln [66] [66] ::
 o1 68 1 [] ::
 Pz
def C5 : RC := .cond (.s 77) (.seq (.ops (o1 4 (.k (.bool false)) [] ::
 [])) (.gh (.keep [4] []) (.ret))) (.skip)
def Pd : List RO := o2 79 ln [78] [] ::
 o1 80 (.k (.int .i64 0)) [] ::
 []
def C6 : RC := .cond (.s 81) (.skip) (.gh (.keep [1,2,7,8,9,10,11,59,60,61] [2]) (.exit 2))
def PG : List RO := o2 82 (ix 1) [78, 80] [] ::
 o2 83 (ld 1) [82] [82] ::
 o1 14 83 [83] ::
 []
def U1 : RC := .ops (o1 84 7 [7] ::
 o1 85 14 [14] ::
 o2 86 (bI .add) [84, 85] [84,85] ::
 o1 7 86 [86] ::
 [])
def U2 : RC := .ops (o2 87 (bI .add) [80, .k (.int .i64 1)] [80] ::
 o1 80 87 [87] ::
 [])
def U3 : RC := .seq (.block 3 (.seq (.ops PG) (U1))) (U2)
def iA : RC := .hg (.seq (.ops (o2 81 (bI .lss) [80, 79] [] ::
 [])) (.seq (C6) (U3))) (.keep [1,2,7,8,9,10,11,59,60,61,78,79,80] [2])
def U4 : RC := .block 2 (.gh (.keep [1,2,7,8,9,10,11,59,60,61,78,79,80] [2]) (.loop iA))
def OL : List RO := o2 94 ln [93] [] ::
 o1 95 (.k (.int .i64 0)) [] ::
 []
def NV : List RO := o2 91 (ix 3) [89, 90] [89,90] ::
 o2 92 (fa 2) [91] [91] ::
 o2 93 (ld 1) [92] [92] ::
 OL
def C7 : RC := .cond (.s 96) (.skip) (.gh (.keep [1,2,7,8,9,10,59,60,61] [2]) (.exit 4))
def OB : List RO := oz (su 5) [16, 99] [99] ::
 []
def O8 : List RO := o2 98 (ix 5) [93, 95] [] ::
 o2 99 (lD 5) [98] [98] ::
 o2 16 (.a (.alloc 5 [.int .i64 0, .int .i64 0, .int .i64 0, .int .i64 0, .au])) [] [] ::
 o1 15 97 [97] ::
 OB
def OI : List RO := o2 109 (ix 1) [107, 108] [107,108] ::
 o2 110 (ld 1) [109] [109] ::
 o2 111 (bI .lss) [106, 110] [106,110] ::
 []
def C9 : RC := .cond (.s 111) (.ops (o1 112 8 [8] ::
 o2 113 (bI .add) [112, .k (.int .i64 1)] [112] ::
 o1 8 113 [113] ::
 [])) (.skip)
def U5 : RC := .seq (.ops (o1 106 15 [15] ::
 o1 107 1 [] ::
 o1 108 11 [] ::
 OI)) (C9)
def Pm : List RO := o2 121 (ix 1) [119, 120] [119,120] ::
 o2 122 (ld 1) [121] [121] ::
 o2 123 (bI .lss) [118, 122] [118,122] ::
 []
def Is : RC := .cond (.s 123) (.ops (o1 124 9 [9] ::
 o2 125 (bI .add) [124, .k (.int .i64 1)] [124] ::
 o1 9 125 [125] ::
 [])) (.skip)
def U6 : RC := .seq (.ops (o1 118 15 [15] ::
 o1 119 1 [] ::
 o1 120 11 [] ::
 Pm)) (Is)
def OW : RC := .cond (.s 114) (.seq (.ops (o1 116 10 [10] ::
 o2 117 (bI .sub) [116, .k (.int .i64 1)] [116] ::
 o1 10 117 [117] ::
 [])) (U6)) (.skip)
def C8 : RC := .cond (.s 102) (.seq (.ops (o1 104 10 [10] ::
 o2 105 (bI .add) [104, .k (.int .i64 1)] [104] ::
 o1 10 105 [105] ::
 [])) (U5)) (.seq (.ops (o2 115 (bI .eql) [101, .k (.int .i64 3)] [101] ::
 o1 114 115 [115] ::
 [])) (OW))
def U7 : RC := .block 6 (.seq (.ops (o2 103 (bI .eql) [101, .k (.int .i64 2)] [] ::
 o1 102 103 [103] ::
 [])) (C8))
def U8 : RC := .seq (.ops (o2 100 (fa 0) [16] [16] ::
 o2 101 (ld 1) [100] [100] ::
 [])) (U7)
def U9 : RC := .ops (o2 126 (bI .add) [95, .k (.int .i64 1)] [95] ::
 o1 95 126 [126] ::
 [])
def m4 : RC := .seq (.block 5 (.seq (.ops (o1 97 95 [] ::
 O8)) (U8))) (U9)
def qE : RC := .hg (.seq (.ops (o2 96 (bI .lss) [95, 94] [] ::
 [])) (.seq (C7) (m4))) (.keep [1,2,7,8,9,10,11,59,60,61,93,94,95] [2])
def mM : RC := .block 4 (.gh (.keep [1,2,7,8,9,10,11,59,60,61,93,94,95] [2]) (.loop qE))
def lV : RC := .seq (.ops (o2 88 (fa 0) [2] [] ::
 o2 89 (ld 1) [88] [88] ::
 o1 90 11 [] ::
 NV)) (mM)
def ov : RC := .seq (.seq (.ops (o1 78 12 [12] ::
 Pd)) (U4)) (lV)
def pS : RC := .seq (.seq (.ops (o1 66 12 [] ::
 Oi)) (C5)) (ov)
def oD : RC := .ops (o2 127 (bI .add) [61, .k (.int .i64 1)] [61] ::
 o1 61 127 [127] ::
 [])
def ES : RC := .seq (.block 1 (.seq (.ops (o1 63 61 [] ::
 PB)) (pS))) (oD)
def cg : RC := .hg (.seq (.ops (o2 62 (bI .lss) [61, 60] [] ::
 [])) (.seq (C4) (ES))) (.keep [1,2,7,8,9,10,59,60,61] [2])
def D7 : RC := .block 0 (.gh (.keep [1,2,7,8,9,10,59,60,61] [2]) (.loop cg))
def N2 : List RO := on 133 .c [.f 62, 129, 132] [129,132] ::
 on 128 (.p (.id)) [133] [133] ::
 on 134 (.p (.ext 0)) [128] [] ::
 on 135 (.p (.ext 1)) [128] [128] ::
 on 17 (.p (.id)) [134] [134] ::
 on 18 (.p (.id)) [135] [135] ::
 []
def N7 : List RO := o2 132 (.a (.makeSl 1 [.int .i64 0])) [131, 131] [131] ::
 N2
def N_ : List RO := o2 131 ln [130] [130] ::
 N7
def N5 : List RO := on 140 .c [.f 62, 137, 139] [137,139] ::
 on 136 (.p (.id)) [140] [140] ::
 on 141 (.p (.ext 0)) [136] [] ::
 on 142 (.p (.ext 1)) [136] [136] ::
 on 19 (.p (.id)) [141] [141] ::
 on 20 (.p (.id)) [142] [142] ::
 []
def O2 : List RO := o2 139 .c [.f 63, 138] [138] ::
 N5
def O5 : List RO := o2 146 .c [.f 62, 144, 145] [144,145] ::
 o1 143 146 [146] ::
 o2 147 (.p (.ext 0)) [143] [] ::
 o2 148 (.p (.ext 1)) [143] [143] ::
 o1 21 147 [147] ::
 o1 22 148 [148] ::
 []
def OD : List RO := o1 4 180 [180] ::
 []
def iQ : List RO := o3 176 175 true (.p (.id)) [21] [21] ::
 o3 177 175 true (.p (.id)) [7] [7] ::
 o3 178 175 true (bI .eql) [177, .k (.int .i64 0)] [177] ::
 o3 179 175 true (.p (.bin (some .bool) none .eql)) [176, 178] [176,178] ::
 o2 180 (.p (.pick)) [175, 179, .k (.bool false)] [175,179] ::
 OD
def OO : List RO := o1 175 174 [174] ::
 iQ
def gO : List RO := o3 172 171 true (.p (.id)) [22] [22] ::
 o3 173 171 true (bI .eql) [172, .k (.int .i64 0)] [172] ::
 o2 174 (.p (.pick)) [171, 173, .k (.bool false)] [171,173] ::
 OO
def Pw : List RO := o1 171 170 [170] ::
 gO
def Q9 : List RO := o3 166 165 true (.p (.id)) [19] [19] ::
 o3 167 165 true (.p (.id)) [10] [10] ::
 o3 168 165 true (bI .eql) [167, .k (.int .i64 0)] [167] ::
 o3 169 165 true (.p (.bin (some .bool) none .eql)) [166, 168] [166,168] ::
 o2 170 (.p (.pick)) [165, 169, .k (.bool false)] [165,169] ::
 Pw
def Og : List RO := o1 165 164 [164] ::
 Q9
def Q8 : List RO := o3 162 161 true (.p (.id)) [20] [20] ::
 o3 163 161 true (bI .eql) [162, .k (.int .i64 0)] [162] ::
 o2 164 (.p (.pick)) [161, 163, .k (.bool false)] [161,163] ::
 Og
def OT : List RO := o1 161 160 [160] ::
 Q8
def Q7 : List RO := o3 159 158 true (.p (.id)) [17] [17] ::
 o2 160 (.p (.pick)) [158, 159, .k (.bool false)] [158,159] ::
 OT
def Pj : List RO := o1 158 157 [157] ::
 Q7
def Q6 : List RO := o3 155 154 true (.p (.id)) [18] [18] ::
 o3 156 154 true (bI .eql) [155, .k (.int .i64 0)] [155] ::
 o2 157 (.p (.pick)) [154, 156, .k (.bool false)] [154,156] ::
 Pj
def Of : RC := .seq (.ops (o1 149 7 [] ::
 o1 150 8 [8] ::
 o1 151 9 [9] ::
 o2 152 (bI .sub) [150, 151] [150,151] ::
 o2 153 (bI .eql) [149, 152] [149,152] ::
 o1 154 153 [153] ::
 Q6)) (.gh (.keep [4] []) (.ret))
def NS : RC := .seq (.ops (o2 144 (lD 1) [2] [2] ::
 o1 145 1 [1] ::
 O5)) (Of)
def Pe : RC := .seq (.reg (o2 137 (lD 1) [2] [] ::
 o2 138 (lD 1) [2] [] ::
 O2)) (NS)
def KS : RC := .seq (.reg (o2 129 (lD 1) [2] [] ::
 o1 130 1 [] ::
 N_)) (Pe)
def Uf : RC := .seq (.seq (.ops (o1 59 5 [5] ::
 zA)) (D7)) (KS)
def OX : RC := .seq (.ops (o1 7 (.k (.int .i64 0)) [] ::
 o1 8 (.k (.int .i64 0)) [] ::
 o1 9 (.k (.int .i64 0)) [] ::
 o1 10 (.k (.int .i64 0)) [] ::
 [])) (Uf)
def Ok : RC := .seq (.seq (.ops (o1 50 6 [6] ::
 o2 51 (bI .neq) [50, .k (.int .i64 0)] [50] ::
 o1 52 51 [51] ::
 Q4)) (C3)) (OX)
def PE : RC := .seq (.ops (o2 45 (lD 1) [2] [] ::
 o1 46 1 [] ::
 zC)) (Ok)
def JA : RC := .seq (.seq (.ops (o2 25 (lD 1) [2] [] ::
 OF)) (C2)) (PE)
def text : RF := ⟨181, [.s 4], .seq (.ops Oe) (.seq (.seq (.ops Kg) (C1)) (JA))⟩
def F4 : List Fm := [.seq (.gh (.keep [4] []) (.ret))]
def F6 : List Fm := [.seq OX]
def F7 : List Fm := [.seq Ok]
def F8 : List Fm := [.seq PE]
def F9 : List Fm := [.seq JA]
def lH : List Fm := [.seq (.seq (.seq (.ops Kg) (C1)) (JA))]
def Uk : List Fm := [.seq Of]
def PA : List Fm := [.seq NS]
def Kq : List Fm := [.seq Pe]
def F1 : List Fm := .seq C2 :: F8
def F2 : List Fm := .seq C3 :: F6
def F5 : List Fm := [.seq D7, .seq KS]
def jo : List Fm := .seq C1 :: F9
def sV : List Fm := [.seq ES, .gst (.keep [1,2,7,8,9,10,59,60,61] [2])]
def Cc : List Fm := [.seq U3, .gst (.keep [1,2,7,8,9,10,11,59,60,61,78,79,80] [2])]
def Ut : List Fm := [.seq m4, .gst (.keep [1,2,7,8,9,10,11,59,60,61,93,94,95] [2])]
def PY : List Fm := [.blk 0, .seq KS]
def mC : List Fm := [.seq ov, .blk 1, .seq oD, .gst (.keep [1,2,7,8,9,10,59,60,61] [2])]
def o0 : List Fm := [.seq pS, .blk 1, .seq oD, .gst (.keep [1,2,7,8,9,10,59,60,61] [2])]
def t_ : List Fm := [.seq U1, .blk 3, .seq U2, .gst (.keep [1,2,7,8,9,10,11,59,60,61,78,79,80] [2])]
def ue : List Fm := [.blk 6, .blk 5, .seq U9, .gst (.keep [1,2,7,8,9,10,11,59,60,61,93,94,95] [2])]
def D3 : List Fm := [.seq U8, .blk 5, .seq U9, .gst (.keep [1,2,7,8,9,10,11,59,60,61,93,94,95] [2])]
def PM : List Fm := [.seq mM, .blk 1, .seq oD, .gst (.keep [1,2,7,8,9,10,59,60,61] [2])]
def OR : List Fm := [.blk 4, .blk 1, .seq oD, .gst (.keep [1,2,7,8,9,10,59,60,61] [2])]
def F3 : List Fm := .seq C5 :: mC
def ku : List Fm := [.seq U4, .seq lV, .blk 1, .seq oD, .gst (.keep [1,2,7,8,9,10,59,60,61] [2])]
def GR : List Fm := .seq C9 :: ue
def GG : List Fm := .seq Is :: ue
def PR : List Fm := [.blk 2, .seq lV, .blk 1, .seq oD, .gst (.keep [1,2,7,8,9,10,59,60,61] [2])]
end aK
class cq (S : Sys) (T : az) : Prop where
 t : T (S.N 64) = some aK.text
 k : S.E.keep (S.N 64) = false
 c0 : iY S T
 c1 : gy S T
 c2 : gB S T
 c3 : ec S T
 c4 : fM S T
 c5 : fS S T
 c6 : fX S T
attribute [instance] cq.c0 cq.c1 cq.c2 cq.c3 cq.c4 cq.c5 cq.c6
namespace aK
section
variable {S : Sys} {T : az} [cq S T]
noncomputable def iw (c1 : Sl Int) (under7 : Int) (p11 : Int) (v59 : Sl (Sl Int)) (v60 : Int) (v61 : Int) (v93 : Sl Event) (v94 : Int) (tb2 : Trace) (sent8 : Int) (received9 : Int) (open_10 : Int) (v95 : Int) : Option (Fw (Int × Int × Int × Int) (Int × Int × Int) Empty) :=
 aL (decide (v95 < v94))
 ((idx v93 v95).bind fun x_1 =>
 aL (x_1.kind == 2)
 ((idx c1 p11).bind fun x_2 =>
 aL (decide (v95 < x_2))
 (some (.n (IntKind.wrap .i64 (sent8 + 1), received9, IntKind.wrap .i64 (open_10 + 1), IntKind.wrap .i64 (v95 + 1))))
 (some (.n (sent8, received9, IntKind.wrap .i64 (open_10 + 1), IntKind.wrap .i64 (v95 + 1)))))
 (aL (x_1.kind == 3)
 ((idx c1 p11).bind fun x_3 =>
 aL (decide (v95 < x_3))
 (some (.n (sent8, IntKind.wrap .i64 (received9 + 1), IntKind.wrap .i64 (open_10 - 1), IntKind.wrap .i64 (v95 + 1))))
 (some (.n (sent8, received9, IntKind.wrap .i64 (open_10 - 1), IntKind.wrap .i64 (v95 + 1)))))
 (some (.n (sent8, received9, open_10, IntKind.wrap .i64 (v95 + 1))))))
 (some (.x (sent8, received9, open_10)))
noncomputable def W3 (c1 : Sl Int) (under7 : Int) (sent8 : Int) (received9 : Int) (open_10 : Int) (p11 : Int) (v59 : Sl (Sl Int)) (v60 : Int) (v61 : Int) (v93 : Sl Event) (v94 : Int) (v95 : Int) (tb2 : Trace) : Option (Fw (Int × Int × Int × Int × Int) (Int × Int × Int × Int) Unit) :=
 (cW (fun q : Int × Int × Int × Int => iw c1 under7 p11 v59 v60 v61 v93 v94 tb2 q.1 q.2.1 q.2.2.1 q.2.2.2) (sent8, received9, open_10, v95)).bind (Fw.elim
 (fun e => some (.n (under7, e.1, e.2.1, e.2.2, IntKind.wrap .i64 (v61 + 1))))
 (fun e => Empty.elim e))
def tP (S : Sys) (c1 : Sl Int) (under7 : Int) (p11 : Int) (v59 : Sl (Sl Int)) (v60 : Int) (v61 : Int) (v93 : Sl Event) (v94 : Int) (tb2 : Trace) : Int × Int × Int × Int → St := fun q => (af [Cv 1 c1, Pv 2, Iv 7 under7, Iv 8 q.1, Iv 9 q.2.1, Iv 10 q.2.2.1, Iv 11 p11, Cv 59 v59, Iv 60 v60, Iv 61 v61, Cv 93 v93, Iv 94 v94, Iv 95 q.2.2.2] [Xb 2 tb2])
def tY (S : Sys) (c1 : Sl Int) (under7 : Int) (p11 : Int) (v59 : Sl (Sl Int)) (v60 : Int) (v61 : Int) (v93 : Sl Event) (v94 : Int) (tb2 : Trace) : (Int × Int × Int) → Nat × St := fun e => (4, (af [Cv 1 c1, Pv 2, Iv 7 under7, Iv 8 e.1, Iv 9 e.2.1, Iv 10 e.2.2, Cv 59 v59, Iv 60 v60, Iv 61 v61] [Xb 2 tb2]))
def uh (S : Sys) (c1 : Sl Int) (under7 : Int) (p11 : Int) (v59 : Sl (Sl Int)) (v60 : Int) (v61 : Int) (v93 : Sl Event) (v94 : Int) (tb2 : Trace) : Empty → St := fun e => Empty.elim e
noncomputable def cC (c1 : Sl Int) (sent8 : Int) (received9 : Int) (open_10 : Int) (p11 : Int) (v59 : Sl (Sl Int)) (v60 : Int) (v61 : Int) (v78 : Sl Int) (v79 : Int) (tb2 : Trace) (under7 : Int) (v80 : Int) : Option (Fw (Int × Int) Int Empty) :=
 aL (decide (v80 < v79))
 ((idx v78 v80).bind fun x_1 =>
 some (.n (IntKind.wrap .i64 (under7 + x_1), IntKind.wrap .i64 (v80 + 1))))
 (some (.x under7))
noncomputable def W2 (c1 : Sl Int) (under7 : Int) (sent8 : Int) (received9 : Int) (open_10 : Int) (p11 : Int) (v59 : Sl (Sl Int)) (v60 : Int) (v61 : Int) (v78 : Sl Int) (v79 : Int) (v80 : Int) (tb2 : Trace) : Option (Fw (Int × Int × Int × Int × Int) (Int × Int × Int × Int) Unit) :=
 (cW (fun q : Int × Int => cC c1 sent8 received9 open_10 p11 v59 v60 v61 v78 v79 tb2 q.1 q.2) (under7, v80)).bind (Fw.elim
 (fun e => (idx tb2.procs p11).bind fun x_1 =>
 W3 c1 e sent8 received9 open_10 p11 v59 v60 v61 x_1.events (len x_1.events) 0 tb2)
 (fun e => Empty.elim e))
def jD (S : Sys) (c1 : Sl Int) (sent8 : Int) (received9 : Int) (open_10 : Int) (p11 : Int) (v59 : Sl (Sl Int)) (v60 : Int) (v61 : Int) (v78 : Sl Int) (v79 : Int) (tb2 : Trace) : Int × Int → St := fun q => (af [Cv 1 c1, Pv 2, Iv 7 q.1, Iv 8 sent8, Iv 9 received9, Iv 10 open_10, Iv 11 p11, Cv 59 v59, Iv 60 v60, Iv 61 v61, Cv 78 v78, Iv 79 v79, Iv 80 q.2] [Xb 2 tb2])
def jB (S : Sys) (c1 : Sl Int) (sent8 : Int) (received9 : Int) (open_10 : Int) (p11 : Int) (v59 : Sl (Sl Int)) (v60 : Int) (v61 : Int) (v78 : Sl Int) (v79 : Int) (tb2 : Trace) : Int → Nat × St := fun e => (2, (af [Cv 1 c1, Pv 2, Iv 7 e, Iv 8 sent8, Iv 9 received9, Iv 10 open_10, Iv 11 p11, Cv 59 v59, Iv 60 v60, Iv 61 v61] [Xb 2 tb2]))
def jA (S : Sys) (c1 : Sl Int) (sent8 : Int) (received9 : Int) (open_10 : Int) (p11 : Int) (v59 : Sl (Sl Int)) (v60 : Int) (v61 : Int) (v78 : Sl Int) (v79 : Int) (tb2 : Trace) : Empty → St := fun e => Empty.elim e
noncomputable def aB (c1 : Sl Int) (v59 : Sl (Sl Int)) (v60 : Int) (tb2 : Trace) (under7 : Int) (sent8 : Int) (received9 : Int) (open_10 : Int) (v61 : Int) : Option (Fw (Int × Int × Int × Int × Int) (Int × Int × Int × Int) Unit) :=
 aL (decide (v61 < v60))
 ((idx v59 v61).bind fun x_1 =>
 (aL ((len x_1) == (len c1))
 ((idx x_1 v61).bind fun x_2 =>
 some (!(x_2 == 0)))
 (some true) : Option Bool).bind fun x_3 =>
 aL x_3
 (some (.r ()))
 (W2 c1 under7 sent8 received9 open_10 v61 v59 v60 v61 x_1 (len x_1) 0 tb2))
 (some (.x (under7, sent8, received9, open_10)))
noncomputable def W1 (c1 : Sl Int) (under7 : Int) (sent8 : Int) (received9 : Int) (open_10 : Int) (v59 : Sl (Sl Int)) (v60 : Int) (v61 : Int) (tb2 : Trace) : Option Bool :=
 (cW (fun q : Int × Int × Int × Int × Int => aB c1 v59 v60 tb2 q.1 q.2.1 q.2.2.1 q.2.2.2.1 q.2.2.2.2) (under7, sent8, received9, open_10, v61)).bind (Fw.elim
 (fun e => (pR (len c1) (0 : Int)).bind fun x_1 =>
 (dj tb2 x_1).bind fun x_2 =>
 (cD tb2).bind fun x_3 =>
 (dj tb2 x_3).bind fun x_4 =>
 (dj tb2 c1).bind fun x_5 =>
 (aL (e.1 == (IntKind.wrap .i64 (e.2.1 - e.2.2.1)))
 (some (x_2.2 == 0))
 (some false) : Option Bool).bind fun x_6 =>
 (aL x_6
 (some x_2.1)
 (some false) : Option Bool).bind fun x_7 =>
 (aL x_7
 (some (x_4.2 == 0))
 (some false) : Option Bool).bind fun x_8 =>
 (aL x_8
 (some (x_4.1 == (e.2.2.2 == 0)))
 (some false) : Option Bool).bind fun x_9 =>
 (aL x_9
 (some (x_5.2 == 0))
 (some false) : Option Bool).bind fun x_10 =>
 (aL x_10
 (some (x_5.1 == (e.1 == 0)))
 (some false) : Option Bool).bind fun x_11 =>
 some x_11)
 (fun e => some false))
def cJ (S : Sys) (c1 : Sl Int) (v59 : Sl (Sl Int)) (v60 : Int) (tb2 : Trace) : Int × Int × Int × Int × Int → St := fun q => (af [Cv 1 c1, Pv 2, Iv 7 q.1, Iv 8 q.2.1, Iv 9 q.2.2.1, Iv 10 q.2.2.2.1, Cv 59 v59, Iv 60 v60, Iv 61 q.2.2.2.2] [Xb 2 tb2])
def cL (S : Sys) (c1 : Sl Int) (v59 : Sl (Sl Int)) (v60 : Int) (tb2 : Trace) : (Int × Int × Int × Int) → Nat × St := fun e => (0, (af [Cv 1 c1, Pv 2, Iv 7 e.1, Iv 8 e.2.1, Iv 9 e.2.2.1, Iv 10 e.2.2.2] [Xb 2 tb2]))
def cM (S : Sys) (c1 : Sl Int) (v59 : Sl (Sl Int)) (v60 : Int) (tb2 : Trace) : Unit → St := fun e => (af [Bv 4 false] [])
theorem mV (c1 : Sl Int) (under7 : Int) (p11 : Int) (v59 : Sl (Sl Int)) (v60 : Int) (v61 : Int) (v93 : Sl Event) (v94 : Int) (tb2 : Trace) (sent8 : Int) (received9 : Int) (open_10 : Int) (v95 : Int) : Le ((iw c1 under7 p11 v59 v60 v61 v93 v94 tb2 sent8 received9 open_10 v95).bind (fun w => some (Fw.out (tP S c1 under7 p11 v59 v60 v61 v93 v94 tb2) (tY S c1 under7 p11 v59 v60 v61 v93 v94 tb2) (uh S c1 under7 p11 v59 v60 v61 v93 v94 tb2) w))) (rn S (ah S T) some (.rc qE) [] (af [Cv 1 c1, Pv 2, Iv 7 under7, Iv 8 sent8, Iv 9 received9, Iv 10 open_10, Iv 11 p11, Cv 59 v59, Iv 60 v60, Iv 61 v61, Cv 93 v93, Iv 94 v94, Iv 95 v95] [Xb 2 tb2])) := by
 unfold iw
 refine aJ (n := 7) (fo' := .rc C7) (fs' := Ut) (t := decide (v95 < v94)) (A := fun bb => (af [Cv 1 c1, Pv 2, Iv 7 under7, Iv 8 sent8, Iv 9 received9, Iv 10 open_10, Iv 11 p11, Cv 59 v59, Iv 60 v60, Iv 61 v61, Cv 93 v93, Iv 94 v94, Iv 95 v95, Bv 96 bb] [Xb 2 tb2])) (by kernel_rfl) ?_ ?_
 ·refine ey 8 false [] O8 D3 (af [Cv 1 c1, Pv 2, Iv 7 under7, Iv 8 sent8, Iv 9 received9, Iv 10 open_10, Iv 11 p11, Cv 59 v59, Iv 60 v60, Iv 61 v61, Cv 93 v93, Iv 94 v94, Iv 95 v95, Bv 96 true, Iv 97 v95] [Xb 2 tb2]) .i64 rfl (by kernel_rfl) fun x_1 h_1 => ?_
  refine Ast 3 false [] OB D3 (af [Cv 1 c1, Pv 2, Iv 7 under7, Iv 8 sent8, Iv 9 received9, Iv 10 open_10, Iv 11 p11, Cv 59 v59, Iv 60 v60, Iv 61 v61, Cv 93 v93, Iv 94 v94, Iv 95 v95, Bv 96 true, Cv 99 x_1, Pv 16, Iv 15 v95] [Xb 2 tb2, Xb 16 (⟨0, 0, 0, 0, Sl.nil⟩ : Event)]) 16 0 x_1 [iv 0, iv 0, iv 0, iv 0, .v .au] [iv x_1.kind, iv x_1.peer, iv x_1.message, iv x_1.time, cv x_1.assign] rfl (by kernel_rfl) ?_
  refine aJ (n := 15) (fo' := .rc C8) (fs' := ue) (t := (x_1.kind == 2)) (A := fun bb => (af [Cv 1 c1, Pv 2, Iv 7 under7, Iv 8 sent8, Iv 9 received9, Iv 10 open_10, Iv 11 p11, Cv 59 v59, Iv 60 v60, Iv 61 v61, Cv 93 v93, Iv 94 v94, Iv 95 v95, Bv 96 true, Iv 15 v95, Iv 101 x_1.kind, Bv 102 bb] [Xb 2 tb2, Xb 16 x_1])) (by kernel_rfl) ?_ ?_
  ·refine ey 13 false [] OI GR (af [Cv 1 c1, Pv 2, Iv 7 under7, Iv 8 sent8, Iv 9 received9, Iv 11 p11, Cv 59 v59, Iv 60 v60, Iv 61 v61, Cv 93 v93, Iv 94 v94, Iv 95 v95, Bv 96 true, Iv 101 x_1.kind, Bv 102 true, Iv 10 (IntKind.wrap .i64 (open_10 + 1)), Iv 106 v95, Cv 107 c1, Iv 108 p11] [Xb 2 tb2, Xb 16 x_1]) .i64 rfl (by kernel_rfl) fun x_2 h_2 => ?_
   refine aJ (n := 4) (fo' := .rc C9) (fs' := ue) (t := decide (v95 < x_2)) (A := fun bb => (af [Cv 1 c1, Pv 2, Iv 7 under7, Iv 8 sent8, Iv 9 received9, Iv 11 p11, Cv 59 v59, Iv 60 v60, Iv 61 v61, Cv 93 v93, Iv 94 v94, Iv 95 v95, Bv 96 true, Iv 101 x_1.kind, Bv 102 true, Iv 10 (IntKind.wrap .i64 (open_10 + 1)), Bv 111 bb] [Xb 2 tb2, Xb 16 x_1])) (by kernel_rfl) ?_ ?_
   ·exact av (by kernel_rfl)
   ·exact av (by kernel_rfl)
  ·refine aJ (n := 7) (fo' := .rc OW) (fs' := ue) (t := (x_1.kind == 3)) (A := fun bb => (af [Cv 1 c1, Pv 2, Iv 7 under7, Iv 8 sent8, Iv 9 received9, Iv 10 open_10, Iv 11 p11, Cv 59 v59, Iv 60 v60, Iv 61 v61, Cv 93 v93, Iv 94 v94, Iv 95 v95, Bv 96 true, Iv 15 v95, Bv 102 false, Bv 114 bb] [Xb 2 tb2, Xb 16 x_1])) (by kernel_rfl) ?_ ?_
   ·refine ey 13 false [] Pm GG (af [Cv 1 c1, Pv 2, Iv 7 under7, Iv 8 sent8, Iv 9 received9, Iv 11 p11, Cv 59 v59, Iv 60 v60, Iv 61 v61, Cv 93 v93, Iv 94 v94, Iv 95 v95, Bv 96 true, Bv 102 false, Bv 114 true, Iv 10 (IntKind.wrap .i64 (open_10 - 1)), Iv 118 v95, Cv 119 c1, Iv 120 p11] [Xb 2 tb2, Xb 16 x_1]) .i64 rfl (by kernel_rfl) fun x_3 h_3 => ?_
    refine aJ (n := 4) (fo' := .rc Is) (fs' := ue) (t := decide (v95 < x_3)) (A := fun bb => (af [Cv 1 c1, Pv 2, Iv 7 under7, Iv 8 sent8, Iv 9 received9, Iv 11 p11, Cv 59 v59, Iv 60 v60, Iv 61 v61, Cv 93 v93, Iv 94 v94, Iv 95 v95, Bv 96 true, Bv 102 false, Bv 114 true, Iv 10 (IntKind.wrap .i64 (open_10 - 1)), Bv 123 bb] [Xb 2 tb2, Xb 16 x_1])) (by kernel_rfl) ?_ ?_
    ·exact av (by kernel_rfl)
    ·exact av (by kernel_rfl)
   ·exact av (by kernel_rfl)
 ·exact av (by kernel_rfl)
theorem wv (c1 : Sl Int) (under7 : Int) (sent8 : Int) (received9 : Int) (open_10 : Int) (p11 : Int) (v59 : Sl (Sl Int)) (v60 : Int) (v61 : Int) (v93 : Sl Event) (v94 : Int) (v95 : Int) (tb2 : Trace) : Le ((W3 c1 under7 sent8 received9 open_10 p11 v59 v60 v61 v93 v94 v95 tb2).bind (fun w => some (Fw.out (cJ S c1 v59 v60 tb2) (cL S c1 v59 v60 tb2) (cM S c1 v59 v60 tb2) w))) (rn S (ah S T) some (.rc (.loop qE)) OR (af [Cv 1 c1, Pv 2, Iv 7 under7, Iv 8 sent8, Iv 9 received9, Iv 10 open_10, Iv 11 p11, Cv 59 v59, Iv 60 v60, Iv 61 v61, Cv 93 v93, Iv 94 v94, Iv 95 v95] [Xb 2 tb2])) := by
 unfold W3
 refine eJ (n := 0) (fs := OR) (a := qE) (eσ := tP S c1 under7 p11 v59 v60 v61 v93 v94 tb2) (eε := tY S c1 under7 p11 v59 v60 v61 v93 v94 tb2) (eρ := uh S c1 under7 p11 v59 v60 v61 v93 v94 tb2) (by kernel_rfl) (fun q => mV c1 under7 p11 v59 v60 v61 v93 v94 tb2 q.1 q.2.1 q.2.2.1 q.2.2.2) ?_ ?_
 ·intro e
  exact av (by kernel_rfl)
 ·intro e; exact Empty.elim e
theorem ga (c1 : Sl Int) (sent8 : Int) (received9 : Int) (open_10 : Int) (p11 : Int) (v59 : Sl (Sl Int)) (v60 : Int) (v61 : Int) (v78 : Sl Int) (v79 : Int) (tb2 : Trace) (under7 : Int) (v80 : Int) : Le ((cC c1 sent8 received9 open_10 p11 v59 v60 v61 v78 v79 tb2 under7 v80).bind (fun w => some (Fw.out (jD S c1 sent8 received9 open_10 p11 v59 v60 v61 v78 v79 tb2) (jB S c1 sent8 received9 open_10 p11 v59 v60 v61 v78 v79 tb2) (jA S c1 sent8 received9 open_10 p11 v59 v60 v61 v78 v79 tb2) w))) (rn S (ah S T) some (.rc iA) [] (af [Cv 1 c1, Pv 2, Iv 7 under7, Iv 8 sent8, Iv 9 received9, Iv 10 open_10, Iv 11 p11, Cv 59 v59, Iv 60 v60, Iv 61 v61, Cv 78 v78, Iv 79 v79, Iv 80 v80] [Xb 2 tb2])) := by
 unfold cC
 refine aJ (n := 7) (fo' := .rc C6) (fs' := Cc) (t := decide (v80 < v79)) (A := fun bb => (af [Cv 1 c1, Pv 2, Iv 7 under7, Iv 8 sent8, Iv 9 received9, Iv 10 open_10, Iv 11 p11, Cv 59 v59, Iv 60 v60, Iv 61 v61, Cv 78 v78, Iv 79 v79, Iv 80 v80, Bv 81 bb] [Xb 2 tb2])) (by kernel_rfl) ?_ ?_
 ·refine ey 7 false [] PG t_ (af [Cv 1 c1, Pv 2, Iv 7 under7, Iv 8 sent8, Iv 9 received9, Iv 10 open_10, Iv 11 p11, Cv 59 v59, Iv 60 v60, Iv 61 v61, Cv 78 v78, Iv 79 v79, Iv 80 v80, Bv 81 true] [Xb 2 tb2]) .i64 rfl (by kernel_rfl) fun x_1 h_1 => ?_
  exact av (by kernel_rfl)
 ·exact av (by kernel_rfl)
theorem lE (c1 : Sl Int) (under7 : Int) (sent8 : Int) (received9 : Int) (open_10 : Int) (p11 : Int) (v59 : Sl (Sl Int)) (v60 : Int) (v61 : Int) (v78 : Sl Int) (v79 : Int) (v80 : Int) (tb2 : Trace) : Le ((W2 c1 under7 sent8 received9 open_10 p11 v59 v60 v61 v78 v79 v80 tb2).bind (fun w => some (Fw.out (cJ S c1 v59 v60 tb2) (cL S c1 v59 v60 tb2) (cM S c1 v59 v60 tb2) w))) (rn S (ah S T) some (.rc (.loop iA)) PR (af [Cv 1 c1, Pv 2, Iv 7 under7, Iv 8 sent8, Iv 9 received9, Iv 10 open_10, Iv 11 p11, Cv 59 v59, Iv 60 v60, Iv 61 v61, Cv 78 v78, Iv 79 v79, Iv 80 v80] [Xb 2 tb2])) := by
 unfold W2
 refine eJ (n := 0) (fs := PR) (a := iA) (eσ := jD S c1 sent8 received9 open_10 p11 v59 v60 v61 v78 v79 tb2) (eε := jB S c1 sent8 received9 open_10 p11 v59 v60 v61 v78 v79 tb2) (eρ := jA S c1 sent8 received9 open_10 p11 v59 v60 v61 v78 v79 tb2) (by kernel_rfl) (fun q => ga c1 sent8 received9 open_10 p11 v59 v60 v61 v78 v79 tb2 q.1 q.2) ?_ ?_
 ·intro e
  refine ey 7 false [] NV PM (af [Cv 1 c1, Pv 2, Iv 7 e, Iv 8 sent8, Iv 9 received9, Iv 10 open_10, Iv 11 p11, Cv 59 v59, Iv 60 v60, Iv 61 v61, Cv 89 tb2.procs, Iv 90 p11] [Xb 2 tb2]) .i64 rfl (by kernel_rfl) fun x_1 h_1 => ?_
  refine dP 2 false [] OL PM (af [Cv 1 c1, Pv 2, Iv 7 e, Iv 8 sent8, Iv 9 received9, Iv 10 open_10, Iv 11 p11, Cv 59 v59, Iv 60 v60, Iv 61 v61, Cv 93 x_1.events] [Xb 2 tb2]) x_1.events rfl (by kernel_rfl) ?_
  exact eY (n := 5) (by kernel_rfl) (wv c1 e sent8 received9 open_10 p11 v59 v60 v61 x_1.events (len x_1.events) 0 tb2)
 ·intro e; exact Empty.elim e
theorem aY (c1 : Sl Int) (v59 : Sl (Sl Int)) (v60 : Int) (tb2 : Trace) (under7 : Int) (sent8 : Int) (received9 : Int) (open_10 : Int) (v61 : Int) : Le ((aB c1 v59 v60 tb2 under7 sent8 received9 open_10 v61).bind (fun w => some (Fw.out (cJ S c1 v59 v60 tb2) (cL S c1 v59 v60 tb2) (cM S c1 v59 v60 tb2) w))) (rn S (ah S T) some (.rc cg) [] (af [Cv 1 c1, Pv 2, Iv 7 under7, Iv 8 sent8, Iv 9 received9, Iv 10 open_10, Cv 59 v59, Iv 60 v60, Iv 61 v61] [Xb 2 tb2])) := by
 unfold aB
 refine aJ (n := 7) (fo' := .rc C4) (fs' := sV) (t := decide (v61 < v60)) (A := fun bb => (af [Cv 1 c1, Pv 2, Iv 7 under7, Iv 8 sent8, Iv 9 received9, Iv 10 open_10, Cv 59 v59, Iv 60 v60, Iv 61 v61, Bv 62 bb] [Xb 2 tb2])) (by kernel_rfl) ?_ ?_
 ·refine ey 8 false [] PB o0 (af [Cv 1 c1, Pv 2, Iv 7 under7, Iv 8 sent8, Iv 9 received9, Iv 10 open_10, Cv 59 v59, Iv 60 v60, Iv 61 v61, Bv 62 true, Iv 63 v61] [Xb 2 tb2]) .i64 rfl (by kernel_rfl) fun x_1 h_1 => ?_
  refine dP 9 false [] Oi F3 (af [Cv 1 c1, Pv 2, Iv 7 under7, Iv 8 sent8, Iv 9 received9, Iv 10 open_10, Cv 59 v59, Iv 60 v60, Iv 61 v61, Bv 62 true, Iv 11 v61, Cv 12 x_1, Cv 66 x_1] [Xb 2 tb2]) x_1 rfl (by kernel_rfl) ?_
  refine dP 1 false [] Pz F3 (af [Cv 1 c1, Pv 2, Iv 7 under7, Iv 8 sent8, Iv 9 received9, Iv 10 open_10, Cv 59 v59, Iv 60 v60, Iv 61 v61, Bv 62 true, Iv 11 v61, Cv 12 x_1, Iv 67 (len x_1), Cv 68 c1] [Xb 2 tb2]) c1 rfl (by kernel_rfl) ?_
  refine dw (fun x_3 => rn S (ah S T) some (.ops false [] []) F3 (af [Cv 1 c1, Pv 2, Iv 7 under7, Iv 8 sent8, Iv 9 received9, Iv 10 open_10, Cv 59 v59, Iv 60 v60, Iv 61 v61, Bv 62 true, Iv 11 v61, Cv 12 x_1, Bv 77 x_3] [Xb 2 tb2])) ?_ fun x_3 => ?_
  ·refine aJ (n := 2) (fo' := .ops false [] Q5) (fs' := F3) (t := ((len x_1) == (len c1))) (A := fun bb => (af [Cv 1 c1, Pv 2, Iv 7 under7, Iv 8 sent8, Iv 9 received9, Iv 10 open_10, Cv 59 v59, Iv 60 v60, Iv 61 v61, Bv 62 true, Iv 11 v61, Cv 12 x_1, Bv 71 (!bb)] [Xb 2 tb2])) (by kernel_rfl) ?_ ?_
   ·refine ey 2 false [] NP F3 (af [Cv 1 c1, Pv 2, Iv 7 under7, Iv 8 sent8, Iv 9 received9, Iv 10 open_10, Cv 59 v59, Iv 60 v60, Iv 61 v61, Bv 62 true, Iv 11 v61, Cv 12 x_1, Bv 71 false, Cv 72 x_1, Iv 73 v61] [Xb 2 tb2]) .i64 rfl (by kernel_rfl) fun x_2 h_2 => ?_
    exact bp (n := 3) (by kernel_rfl) rfl
   ·exact bp (n := 6) (by kernel_rfl) rfl
  ·refine aJ (n := 2) (fo' := .rc C5) (fs' := mC) (t := x_3) (A := fun bb => (af [Cv 1 c1, Pv 2, Iv 7 under7, Iv 8 sent8, Iv 9 received9, Iv 10 open_10, Cv 59 v59, Iv 60 v60, Iv 61 v61, Bv 62 true, Iv 11 v61, Cv 12 x_1, Bv 77 bb] [Xb 2 tb2])) (by kernel_rfl) ?_ ?_
   ·exact av (by kernel_rfl)
   ·refine dP 7 false [] Pd ku (af [Cv 1 c1, Pv 2, Iv 7 under7, Iv 8 sent8, Iv 9 received9, Iv 10 open_10, Cv 59 v59, Iv 60 v60, Iv 61 v61, Bv 62 true, Iv 11 v61, Bv 77 false, Cv 78 x_1] [Xb 2 tb2]) x_1 rfl (by kernel_rfl) ?_
    exact eY (n := 5) (by kernel_rfl) (lE c1 under7 sent8 received9 open_10 v61 v59 v60 v61 x_1 (len x_1) 0 tb2)
 ·exact av (by kernel_rfl)
theorem eo (c1 : Sl Int) (under7 : Int) (sent8 : Int) (received9 : Int) (open_10 : Int) (v59 : Sl (Sl Int)) (v60 : Int) (v61 : Int) (tb2 : Trace) : Le ((W1 c1 under7 sent8 received9 open_10 v59 v60 v61 tb2).bind (fun r => some [.bool r])) (rn S (ah S T) (cj [.s 4]) (.rc (.loop cg)) PY (af [Cv 1 c1, Pv 2, Iv 7 under7, Iv 8 sent8, Iv 9 received9, Iv 10 open_10, Cv 59 v59, Iv 60 v60, Iv 61 v61] [Xb 2 tb2])) := by
 unfold W1
 refine eJ (n := 0) (fs := PY) (a := cg) (eσ := cJ S c1 v59 v60 tb2) (eε := cL S c1 v59 v60 tb2) (eρ := cM S c1 v59 v60 tb2) (by kernel_rfl) (fun q => aY c1 v59 v60 tb2 q.1 q.2.1 q.2.2.1 q.2.2.2.1 q.2.2.2.2) ?_ ?_
 ·intro e
  refine dP 6 true [] N_ Kq (af [Cv 1 c1, Pv 2, Iv 7 e.1, Iv 8 e.2.1, Iv 9 e.2.2.1, Iv 10 e.2.2.2, Cv 129 tb2, Cv 130 c1] [Xb 2 tb2]) c1 rfl (by kernel_rfl) ?_
  refine O3 0 true [] N7 Kq (af [Cv 1 c1, Pv 2, Iv 7 e.1, Iv 8 e.2.1, Iv 9 e.2.2.1, Iv 10 e.2.2.2, Cv 129 tb2, Iv 131 (len c1)] [Xb 2 tb2]) rfl (by kernel_rfl) (by kernel_rfl) fun x_1 h_1 => ?_
  refine kK 0 true [132] N2 Kq (af [Cv 1 c1, Pv 2, Iv 7 e.1, Iv 8 e.2.1, Iv 9 e.2.2.1, Iv 10 e.2.2.2, Cv 129 tb2, (132, .own 132)] [Xb 2 tb2, Lb 132 x_1]) (lO (S := S) (T := T)) (tb2, x_1) [.v (.clo (S.N 62) [] []), cv tb2, .own 132] [cv tb2, .own 132] rfl (by kernel_rfl) fun x_2 h_2 => ?_
  refine Kc 11 true [] O2 PA (af [Cv 1 c1, Pv 2, Iv 7 e.1, Iv 8 e.2.1, Iv 9 e.2.2.1, Iv 10 e.2.2.2, Bv 17 x_2.1, Iv 18 x_2.2, Cv 137 tb2, Cv 138 tb2] [Xb 2 tb2, Lb 132 x_1]) (tH (S := S) (T := T)) tb2 [.v (.clo (S.N 63) [] []), cv tb2] rfl (by kernel_rfl) fun x_3 h_3 => ?_
  refine kK 0 true [139] N5 PA (af [Cv 1 c1, Pv 2, Iv 7 e.1, Iv 8 e.2.1, Iv 9 e.2.2.1, Iv 10 e.2.2.2, Bv 17 x_2.1, Iv 18 x_2.2, Cv 137 tb2, Cv 139 x_3] [Xb 2 tb2, Lb 132 x_1]) (lO (S := S) (T := T)) (tb2, x_3) [.v (.clo (S.N 62) [] []), cv tb2, cv x_3] [cv tb2, cv x_3] rfl (by kernel_rfl) fun x_4 h_4 => ?_
  refine bg 11 [] O5 Uk (af [Iv 7 e.1, Iv 8 e.2.1, Iv 9 e.2.2.1, Iv 10 e.2.2.2, Bv 17 x_2.1, Iv 18 x_2.2, Bv 19 x_4.1, Iv 20 x_4.2, Cv 144 tb2, Cv 145 c1] [Xb 2 tb2, Lb 132 x_1]) (lO (S := S) (T := T)) (tb2, c1) rfl (by kernel_rfl) fun x_5 h_5 => ?_
  refine dw (fun x_6 => rn S (ah S T) (cj [.s 4]) (.ops false [] Pj) F4 (af [Iv 7 e.1, Iv 10 e.2.2.2, Bv 17 x_2.1, Bv 19 x_4.1, Iv 20 x_4.2, Bv 21 x_5.1, Iv 22 x_5.2, Bv 157 x_6] [Xb 2 tb2, Lb 132 x_1])) ?_ fun x_6 => ?_
  ·refine aJ (n := 15) (fo' := .ops false [] Q6) (fs' := F4) (t := (e.1 == (IntKind.wrap .i64 (e.2.1 - e.2.2.1)))) (A := fun bb => (af [Iv 7 e.1, Iv 10 e.2.2.2, Bv 17 x_2.1, Iv 18 x_2.2, Bv 19 x_4.1, Iv 20 x_4.2, Bv 21 x_5.1, Iv 22 x_5.2, Bv 154 bb] [Xb 2 tb2, Lb 132 x_1])) (by kernel_rfl) ?_ ?_
   ·exact bp (n := 3) (by kernel_rfl) rfl
   ·exact bp (n := 3) (by kernel_rfl) rfl
  ·refine dw (fun x_7 => rn S (ah S T) (cj [.s 4]) (.ops false [] OT) F4 (af [Iv 7 e.1, Iv 10 e.2.2.2, Bv 19 x_4.1, Iv 20 x_4.2, Bv 21 x_5.1, Iv 22 x_5.2, Bv 160 x_7] [Xb 2 tb2, Lb 132 x_1])) ?_ fun x_7 => ?_
   ·refine aJ (n := 1) (fo' := .ops false [] Q7) (fs' := F4) (t := x_6) (A := fun bb => (af [Iv 7 e.1, Iv 10 e.2.2.2, Bv 17 x_2.1, Bv 19 x_4.1, Iv 20 x_4.2, Bv 21 x_5.1, Iv 22 x_5.2, Bv 158 bb] [Xb 2 tb2, Lb 132 x_1])) (by kernel_rfl) ?_ ?_
    ·exact bp (n := 2) (by kernel_rfl) rfl
    ·exact bp (n := 2) (by kernel_rfl) rfl
   ·refine dw (fun x_8 => rn S (ah S T) (cj [.s 4]) (.ops false [] Og) F4 (af [Iv 7 e.1, Iv 10 e.2.2.2, Bv 19 x_4.1, Bv 21 x_5.1, Iv 22 x_5.2, Bv 164 x_8] [Xb 2 tb2, Lb 132 x_1])) ?_ fun x_8 => ?_
    ·refine aJ (n := 1) (fo' := .ops false [] Q8) (fs' := F4) (t := x_7) (A := fun bb => (af [Iv 7 e.1, Iv 10 e.2.2.2, Bv 19 x_4.1, Iv 20 x_4.2, Bv 21 x_5.1, Iv 22 x_5.2, Bv 161 bb] [Xb 2 tb2, Lb 132 x_1])) (by kernel_rfl) ?_ ?_
     ·exact bp (n := 3) (by kernel_rfl) rfl
     ·exact bp (n := 3) (by kernel_rfl) rfl
    ·refine dw (fun x_9 => rn S (ah S T) (cj [.s 4]) (.ops false [] Pw) F4 (af [Iv 7 e.1, Bv 21 x_5.1, Iv 22 x_5.2, Bv 170 x_9] [Xb 2 tb2, Lb 132 x_1])) ?_ fun x_9 => ?_
     ·refine aJ (n := 1) (fo' := .ops false [] Q9) (fs' := F4) (t := x_8) (A := fun bb => (af [Iv 7 e.1, Iv 10 e.2.2.2, Bv 19 x_4.1, Bv 21 x_5.1, Iv 22 x_5.2, Bv 165 bb] [Xb 2 tb2, Lb 132 x_1])) (by kernel_rfl) ?_ ?_
      ·exact bp (n := 5) (by kernel_rfl) rfl
      ·exact bp (n := 5) (by kernel_rfl) rfl
     ·refine dw (fun x_10 => rn S (ah S T) (cj [.s 4]) (.ops false [] OO) F4 (af [Iv 7 e.1, Bv 21 x_5.1, Bv 174 x_10] [Xb 2 tb2, Lb 132 x_1])) ?_ fun x_10 => ?_
      ·refine aJ (n := 1) (fo' := .ops false [] gO) (fs' := F4) (t := x_9) (A := fun bb => (af [Iv 7 e.1, Bv 21 x_5.1, Iv 22 x_5.2, Bv 171 bb] [Xb 2 tb2, Lb 132 x_1])) (by kernel_rfl) ?_ ?_
       ·exact bp (n := 3) (by kernel_rfl) rfl
       ·exact bp (n := 3) (by kernel_rfl) rfl
      ·refine dw (fun x_11 => rn S (ah S T) (cj [.s 4]) (.ops false [] OD) F4 (af [Bv 180 x_11] [Xb 2 tb2, Lb 132 x_1])) ?_ fun x_11 => ?_
       ·refine aJ (n := 1) (fo' := .ops false [] iQ) (fs' := F4) (t := x_10) (A := fun bb => (af [Iv 7 e.1, Bv 21 x_5.1, Bv 175 bb] [Xb 2 tb2, Lb 132 x_1])) (by kernel_rfl) ?_ ?_
        ·exact bp (n := 5) (by kernel_rfl) rfl
        ·exact bp (n := 5) (by kernel_rfl) rfl
       ·exact av (by kernel_rfl)
 ·intro e
  exact av (by kernel_rfl)
end
end aK
noncomputable def aK (t0 : Trace) (c1 : Sl Int) : Option Bool :=
 (pV).bind fun x_1 =>
 aL x_1
 ((d3 t0).bind fun x_2 =>
 (aL (decide (x_2 > 60))
 (some true)
 ((cB t0).bind fun x_3 =>
 some (!x_3)) : Option Bool).bind fun x_4 =>
 (aL x_4
 (some true)
 (some (decide ((len c1) > 20))) : Option Bool).bind fun x_5 =>
 (aL x_5
 (some true)
 ((dK t0 c1).bind fun x_6 =>
 some (!x_6)) : Option Bool).bind fun x_7 =>
 aL x_7
 (some true)
 ((bL t0 c1).bind fun x_8 =>
 (aL (x_8.2 == 0)
 (some (!((len x_8.1) == (len c1))))
 (some true) : Option Bool).bind fun x_9 =>
 aL x_9
 (some false)
 (aK.W1 c1 0 0 0 0 x_8.1 (len x_8.1) 0 t0)))
 (some false)
open aK in
theorem pW {S : Sys} {T : az} [cq S T] (t0 : Trace) (c1 : Sl Int) : Le ((aK t0 c1).bind fun r => some [.bool r]) (bl (ah S T) (S.N 64) [enc t0, enc c1]) := by
 refine cZ (cq.t (S := S) (T := T)) (Nat.le_of_ble_eq_true rfl) ?_
 unfold aK
 refine gm 2 false [] Oe lH (af [Cv 0 t0, Cv 1 c1] []) t0 rfl (by kernel_rfl) (by kernel_rfl) ?_
 refine bg 6 [] Kg jo (af [Cv 1 c1, Pv 2] [Xb 2 t0]) (wj (S := S) (T := T)) () rfl (by kernel_rfl) fun x_1 h_1 => ?_
 refine aJ (n := 3) (fo' := .rc C1) (fs' := F9) (t := x_1) (A := fun bb => (af [Cv 1 c1, Pv 2, Bv 24 (!bb)] [Xb 2 t0])) (by kernel_rfl) ?_ ?_
 ·refine bg 7 [] OF F1 (af [Cv 1 c1, Pv 2, Bv 24 false, Cv 25 t0] [Xb 2 t0]) (xz (S := S) (T := T)) t0 rfl (by kernel_rfl) fun x_2 h_2 => ?_
  refine dw (fun x_4 => rn S (ah S T) (cj [.s 4]) (.ops false [] PN) F1 (af [Cv 1 c1, Pv 2, Bv 24 false, Bv 32 x_4] [Xb 2 t0])) ?_ fun x_4 => ?_
  ·refine aJ (n := 2) (fo' := .ops false [] Q1) (fs' := F1) (t := decide (x_2 > 60)) (A := fun bb => (af [Cv 1 c1, Pv 2, Bv 24 false, Bv 28 bb] [Xb 2 t0])) (by kernel_rfl) ?_ ?_
   ·exact bp (n := 4) (by kernel_rfl) rfl
   ·refine bg 1 [] jR F1 (af [Cv 1 c1, Pv 2, Bv 24 false, Bv 28 false, Cv 29 t0] [Xb 2 t0]) (mN (S := S) (T := T)) t0 rfl (by kernel_rfl) fun x_3 h_3 => ?_
    exact bp (n := 2) (by kernel_rfl) rfl
  ·refine dw (fun x_5 => rn S (ah S T) (cj [.s 4]) (.ops false [] E9) F1 (af [Cv 1 c1, Pv 2, Bv 24 false, Bv 37 x_5] [Xb 2 t0])) ?_ fun x_5 => ?_
   ·refine aJ (n := 1) (fo' := .ops false [] Q2) (fs' := F1) (t := x_4) (A := fun bb => (af [Cv 1 c1, Pv 2, Bv 24 false, Bv 33 bb] [Xb 2 t0])) (by kernel_rfl) ?_ ?_
    ·exact bp (n := 4) (by kernel_rfl) rfl
    ·refine dP 1 false [] jO F1 (af [Cv 1 c1, Pv 2, Bv 24 false, Bv 33 false, Cv 34 c1] [Xb 2 t0]) c1 rfl (by kernel_rfl) ?_
     exact bp (n := 2) (by kernel_rfl) rfl
   ·refine dw (fun x_7 => rn S (ah S T) (cj [.s 4]) (.ops false [] []) F1 (af [Cv 1 c1, Pv 2, Bv 24 false, Bv 43 x_7] [Xb 2 t0])) ?_ fun x_7 => ?_
    ·refine aJ (n := 1) (fo' := .ops false [] Q3) (fs' := F1) (t := x_5) (A := fun bb => (af [Cv 1 c1, Pv 2, Bv 24 false, Bv 38 bb] [Xb 2 t0])) (by kernel_rfl) ?_ ?_
     ·exact bp (n := 5) (by kernel_rfl) rfl
     ·refine bg 2 [] kG F1 (af [Cv 1 c1, Pv 2, Bv 24 false, Bv 38 false, Cv 39 t0, Cv 40 c1] [Xb 2 t0]) (ug (S := S) (T := T)) (t0, c1) rfl (by kernel_rfl) fun x_6 h_6 => ?_
      exact bp (n := 2) (by kernel_rfl) rfl
    ·refine aJ (n := 2) (fo' := .rc C2) (fs' := F8) (t := x_7) (A := fun bb => (af [Cv 1 c1, Pv 2, Bv 24 false, Bv 43 bb] [Xb 2 t0])) (by kernel_rfl) ?_ ?_
     ·exact av (by kernel_rfl)
     ·refine bg 7 [] zC F7 (af [Cv 1 c1, Pv 2, Bv 24 false, Bv 43 false, Cv 45 t0, Cv 46 c1] [Xb 2 t0]) (ox (S := S) (T := T)) (t0, c1) rfl (by kernel_rfl) fun x_8 h_8 => ?_
      refine dw (fun x_9 => rn S (ah S T) (cj [.s 4]) (.ops false [] []) F2 (af [Cv 1 c1, Pv 2, Bv 24 false, Bv 43 false, Cv 5 x_8.1, Bv 58 x_9] [Xb 2 t0])) ?_ fun x_9 => ?_
      ·refine aJ (n := 13) (fo' := .ops false [] Q4) (fs' := F2) (t := (x_8.2 == 0)) (A := fun bb => (af [Cv 1 c1, Pv 2, Bv 24 false, Bv 43 false, Cv 5 x_8.1, Bv 52 (!bb)] [Xb 2 t0])) (by kernel_rfl) ?_ ?_
       ·refine dP 1 false [] qT F2 (af [Cv 1 c1, Pv 2, Bv 24 false, Bv 43 false, Cv 5 x_8.1, Bv 52 false, Cv 53 x_8.1] [Xb 2 t0]) x_8.1 rfl (by kernel_rfl) ?_
        refine dP 1 false [] nr F2 (af [Cv 1 c1, Pv 2, Bv 24 false, Bv 43 false, Cv 5 x_8.1, Bv 52 false, Iv 54 (len x_8.1), Cv 55 c1] [Xb 2 t0]) c1 rfl (by kernel_rfl) ?_
        exact bp (n := 2) (by kernel_rfl) rfl
       ·exact bp (n := 6) (by kernel_rfl) rfl
      ·refine aJ (n := 2) (fo' := .rc C3) (fs' := F6) (t := x_9) (A := fun bb => (af [Cv 1 c1, Pv 2, Bv 24 false, Bv 43 false, Cv 5 x_8.1, Bv 58 bb] [Xb 2 t0])) (by kernel_rfl) ?_ ?_
       ·exact av (by kernel_rfl)
       ·refine dP 15 false [] zA F5 (af [Cv 1 c1, Pv 2, Bv 24 false, Bv 43 false, Bv 58 false, Iv 7 0, Iv 8 0, Iv 9 0, Iv 10 0, Cv 59 x_8.1] [Xb 2 t0]) x_8.1 rfl (by kernel_rfl) ?_
        exact eY (n := 5) (by kernel_rfl) (eo c1 0 0 0 0 x_8.1 (len x_8.1) 0 t0)
 ·exact av (by kernel_rfl)
end Go.VE
