/-
 Each function of the program that the law reaches: its text, its plain form, and that it comes to that.
-/
import Derived.Test.YtnfakljmdnbipaaGA
set_option linter.all false
namespace Go.VE
def qj:Option Bool:=some true
theorem w8:aR Sy cL (bq 1) (fun _:Unit=>[]) (fun r:Bool=>[.bool r]) (fun _=>qj) true:=aR.tI (by kernel_rfl) (by kernel_rfl) EV
namespace bV
noncomputable def aj (s0:Sl Event) (v7:Int) (v8:Int) (p1:Event→Option Bool):Option (Fw Int Unit Int):=
 ao (decide (v8<v7))
 ((idx s0 v8).bind fun x_1=>
 (p1 x_1).bind fun x_2=>
 ao x_2
 (some (.r v8))
 (some (.n (IntKind.wrap .i64 (v8+1)))))
 (some (.x ()))
noncomputable def W1 (s0:Sl Event) (v7:Int) (v8:Int) (p1:Event→Option Bool):Option Int:=
 (bh (fun q:Int=>aj s0 v7 q p1) v8).bind (Fw.elim
 (fun e=>some (-1))
 (fun e=>some e))
def bm (g1:FuncId) (e1:List V) (s0:Sl Event) (v7:Int):Int→St:=fun q=>(ai [Cv 0 s0,(1,.v (.clo g1 [] e1)),Iv 7 v7,Iv 8 q] [])
def bp (g1:FuncId) (e1:List V) (s0:Sl Event) (v7:Int):Unit→Nat×St:=fun e=>(0,(ai [] []))
def bn (g1:FuncId) (e1:List V) (s0:Sl Event) (v7:Int):Int→St:=fun e=>(ai [Iv 4 e] [])
theorem aF (g1:FuncId) (e1:List V) (p1:Event→Option Bool) (h1:iy Sy cL g1 e1 (fun z:Event=>[enc z]) (fun r:Bool=>[.bool r]) p1) (s0:Sl Event) (v7:Int) (v8:Int):Le ((aj s0 v7 v8 p1).bind (fun w=>some (Fw.out (bm g1 e1 s0 v7) (bp g1 e1 s0 v7) (bn g1 e1 s0 v7) w))) (au Sy cL some (.rc (bL t.body [1,0,1,0,0]),[],(ai [Cv 0 s0,(1,.v (.clo g1 [] e1)),Iv 7 v7,Iv 8 v8] []))):=by
 unfold aj;refine aG 7 9 ?_ ?_
 ·refine bH 16 fun x_1 h_1 => ?_
  refine aV 1 h1.f x_1 fun x_2 h_2 => ?_
  refine aG 2 16 ?_ ?_
  ·exact ah
  ·exact ah
 ·exact ah
theorem bW (g1:FuncId) (e1:List V) (p1:Event→Option Bool) (h1:iy Sy cL g1 e1 (fun z:Event=>[enc z]) (fun r:Bool=>[.bool r]) p1) (s0:Sl Event) (v7:Int) (v8:Int):Le ((W1 s0 v7 v8 p1).bind (fun r=>some [.int .i64 r])) (au Sy cL (c6 t.rs) (bD t.body [1,0,1,0,0] [] (ai [Cv 0 s0,(1,.v (.clo g1 [] e1)),Iv 7 v7,Iv 8 v8] []))):=by
 unfold W1;refine cu (bm g1 e1 s0 v7) (bp g1 e1 s0 v7) (bn g1 e1 s0 v7) (fun q=>aF g1 e1 p1 h1 s0 v7 q) ?_ ?_
 ·intro e;exact ah
 ·intro e;exact ah
end bV
noncomputable def bV (s0:Sl Event) (p1:Event→Option Bool):Option Int:=
 bV.W1 s0 (len s0) 0 p1
open bV in
theorem kq (g1:FuncId) (e1:List V) (p1:Event→Option Bool) (h1:iy Sy cL g1 e1 (fun z:Event=>[enc z]) (fun r:Bool=>[.bool r]) p1):aR Sy cL (bq 2) (fun z:Sl Event=>[enc z,.clo g1 [] e1]) (fun r:Int=>[.int .i64 r]) (fun z=>bV z p1) true:=aR.dA bV.t (by
 intro s0;show Le ((bV s0 p1).bind _) (au _ _ _ _);unfold bV;refine bK 9 s0 ?_;exact bZ 5 (bW g1 e1 p1 h1 s0 (len s0) 0)) (l:=by intro z;simp[h1.d])
noncomputable def cr (s0:Sl Event) (p1:Event→Option Bool):Option Bool:=
 (bV s0 p1).bind fun x_1=>
 some (decide (x_1≥0))
theorem jN (g1:FuncId) (e1:List V) (p1:Event→Option Bool) (h1:iy Sy cL g1 e1 (fun z:Event=>[enc z]) (fun r:Bool=>[.bool r]) p1):aR Sy cL (bq 3) (fun z:Sl Event=>[enc z,.clo g1 [] e1]) (fun r:Bool=>[.bool r]) (fun z=>cr z p1) true:=aR.dA cr.t (by
 intro s0;show Le ((cr s0 p1).bind _) (au _ _ _ _);unfold cr;refine aV 9 (kq g1 e1 p1 h1) s0 fun x_1 h_1 => ?_
 exact ah) (l:=by intro z;simp[h1.d])
noncomputable def fD (x0:Event):Option Bool:=
 some (decide ((len x0.assign)>12))
theorem um:aR Sy cL (bq 4) (fun z:Event=>[enc z]) (fun r:Bool=>[.bool r]) (fun z=>fD z) true:=aR.dA fD.t (by
 intro x0;show Le ((fD x0).bind _) (au _ _ _ _);unfold fD;refine dJ 2 1 x0 ?_;refine bK 7 x0.assign ?_;exact ah)
namespace eC
noncomputable def aj (v11:Sl aS) (v12:Int) (n3:Int) (v13:Int):Option (Fw (Int×Int) Int Unit):=
 ao (decide (v13<v12))
 ((idx v11 v13).bind fun x_1=>
 (ao (decide ((len x_1.vars)>12))
 (some true)
 ((cr x_1.events (fun z=>fD z)).bind fun x_2=>
 some x_2):Option Bool).bind fun x_3=>
 ao x_3
 (some (.r ()))
 (some (.n (IntKind.wrap .i64 (n3+(len x_1.events)),IntKind.wrap .i64 (v13+1)))))
 (some (.x n3))
noncomputable def W1 (n3:Int) (v11:Sl aS) (v12:Int) (v13:Int):Option Int:=
 (bh (fun q:Int×Int=>aj v11 v12 q.1 q.2) (n3,v13)).bind (Fw.elim
 (fun e=>some e)
 (fun e=>some 1000))
def bm (v11:Sl aS) (v12:Int):Int×Int→St:=fun q=>(ai [Iv 3 q.1,Cv 11 v11,Iv 12 v12,Iv 13 q.2] [])
def bp (v11:Sl aS) (v12:Int):Int→Nat×St:=fun e=>(0,(ai [Iv 3 e] []))
def bn (v11:Sl aS) (v12:Int):Unit→St:=fun e=>(ai [Iv 2 1000] [])
theorem aF (v11:Sl aS) (v12:Int) (n3:Int) (v13:Int):Le ((aj v11 v12 n3 v13).bind (fun w=>some (Fw.out (bm v11 v12) (bp v11 v12) (bn v11 v12) w))) (au Sy cL some (.rc (bL t.body [1,1,1,0,1,0,0]),[],(ai [Iv 3 n3,Cv 11 v11,Iv 12 v12,Iv 13 v13] []))):=by
 unfold aj;refine aG 7 14 ?_ ?_
 ·refine bH 7 fun x_1 h_1 => ?_
  refine kZ 2 5 0 x_1 ?_;refine bK 7 x_1.events ?_;refine bK 8 x_1.vars ?_;refine aY 2 4 [] (fun x_3=>(ai [Cv 11 v11,Iv 12 v12,Iv 13 v13,Bv 14 true,Iv 3 (IntKind.wrap .i64 (n3+(len x_1.events))),Bv 30 x_3] [Xb 5 x_1])) ?_ fun x_3 => ?_
  ·refine aG 2 26 ?_ ?_
   ·exact aC 4
   ·refine aV 2 (jN (bq 4) [] (fun z=>fD z) (iy.of (um) (fun z=>z) (fun _=>rfl) (fun _=>rfl) (by simp))) x_1.events fun x_2 h_2 => ?_
    exact aC 1
  ·refine aG 2 30 ?_ ?_
   ·exact ah
   ·exact ah
 ·exact ah
theorem bW (n3:Int) (v11:Sl aS) (v12:Int) (v13:Int):Le ((W1 n3 v11 v12 v13).bind (fun r=>some [.int .i64 r])) (au Sy cL (c6 t.rs) (bD t.body [1,1,1,0,1,0,0] [] (ai [Iv 3 n3,Cv 11 v11,Iv 12 v12,Iv 13 v13] []))):=by
 unfold W1;refine cu (bm v11 v12) (bp v11 v12) (bn v11 v12) (fun q=>aF v11 v12 q.1 q.2) ?_ ?_
 ·intro e;exact ah
 ·intro e;exact ah
end eC
noncomputable def eC (t0:Trace):Option Int:=
 ao (decide ((len t0.procs)>10))
 (some 1000)
 (eC.W1 0 t0.procs (len t0.procs) 0)
open eC in
theorem xJ:aR Sy cL (bq 5) (fun z:Trace=>[enc z]) (fun r:Int=>[.int .i64 r]) (fun z=>eC z) true:=aR.dA eC.t (by
 intro t0;show Le ((eC t0).bind _) (au _ _ _ _);unfold eC;refine dJ 2 1 t0 ?_;refine bK 8 t0.procs ?_;refine aG 3 9 ?_ ?_
 ·exact ah
 ·refine bK 13 t0.procs ?_;exact bZ 5 (bW 0 t0.procs (len t0.procs) 0))
noncomputable def gj (x0:Int) (low1:Int) (high2:Int):Option Bool:=
 (ao (decide (x0≥low1))
 (some (decide (x0≤high2)))
 (some false):Option Bool).bind fun x_1=>
 some x_1
theorem je:aR Sy cL (bq 6) (fun z:Int×Int×Int=>[.int .i64 z.1,.int .i64 z.2.1,.int .i64 z.2.2]) (fun r:Bool=>[.bool r]) (fun z=>gj z.1 z.2.1 z.2.2) true:=aR.dA gj.t (by
 rintro⟨x0,low1,high2⟩;show Le ((gj x0 low1 high2).bind _) (au _ _ _ _);unfold gj;refine aY 11 4 [] (fun x_1=>(ai [Bv 14 x_1] [])) ?_ fun x_1 => ?_
 ·refine aG 11 10 ?_ ?_
  ·exact aC 4
  ·exact aC 4
 ·exact ah)
noncomputable def eK (c0:Int):Option Bool:=
 (ao (decide (c0≥97))
 (some (decide (c0≤122)))
 (some false):Option Bool).bind fun x_1=>
 (ao x_1
 (some true)
 ((ao (decide (c0≥65))
 (some (decide (c0≤90)))
 (some false):Option Bool).bind fun x_2=>
 some x_2):Option Bool).bind fun x_3=>
 some x_3
theorem qo:aR Sy cL (bq 7) (fun z:Int=>[.int .u8 z]) (fun r:Bool=>[.bool r]) (fun z=>eK z) true:=aR.dA eK.t (by
 intro c0;show Le ((eK c0).bind _) (au _ _ _ _);unfold eK;refine aY 10 3 [] (fun x_1=>(ai [(0,.v (.int .u8 c0)),Bv 8 x_1] [])) ?_ fun x_1 => ?_
 ·refine aG 10 5 ?_ ?_
  ·exact aC 3
  ·exact aC 3
 ·refine aY 1 7 [] (fun x_3=>(ai [Bv 16 x_3] [])) ?_ fun x_3 => ?_
  ·refine aG 1 9 ?_ ?_
   ·exact aC 7
   ·refine aY 3 3 [] (fun x_2=>(ai [Bv 9 false,Bv 15 x_2] [])) ?_ fun x_2 => ?_
    ·refine aG 3 12 ?_ ?_
     ·exact aC 3
     ·exact aC 3
    ·exact aC 1
  ·exact ah)
noncomputable def fV (c0:Int):Option Bool:=
 (ao (decide (c0≥48))
 (some (decide (c0≤57)))
 (some false):Option Bool).bind fun x_1=>
 some x_1
theorem yW:aR Sy cL (bq 8) (fun z:Int=>[.int .u8 z]) (fun r:Bool=>[.bool r]) (fun z=>fV z) true:=aR.dA fV.t (by
 intro c0;show Le ((fV c0).bind _) (au _ _ _ _);unfold fV;refine aY 10 3 [] (fun x_1=>(ai [Bv 8 x_1] [])) ?_ fun x_1 => ?_
 ·refine aG 10 5 ?_ ?_
  ·exact aC 3
  ·exact aC 3
 ·exact ah)
namespace cI
noncomputable def aj (s0:ByteArray) (v18:Int) (v19:Int):Option (Fw Int Unit Unit):=
 ao (decide (v19<v18))
 ((gP s0 v19).bind fun x_1=>
 (eK x_1).bind fun x_2=>
 (ao x_2
 (some false)
 ((gP s0 v19).bind fun x_3=>
 (fV x_3).bind fun x_4=>
 some (!x_4)):Option Bool).bind fun x_5=>
 (ao x_5
 ((gP s0 v19).bind fun x_6=>
 some (!(x_6==95)))
 (some false):Option Bool).bind fun x_7=>
 ao x_7
 (some (.r ()))
 (some (.n (IntKind.wrap .i64 (v19+1)))))
 (some (.x ()))
noncomputable def W1 (s0:ByteArray) (v18:Int) (v19:Int):Option Bool:=
 (bh (fun q:Int=>aj s0 v18 q) v19).bind (Fw.elim
 (fun e=>some true)
 (fun e=>some false))
def bm (s0:ByteArray) (v18:Int):Int→St:=fun q=>(ai [(0,.v (.str s0)),Iv 18 v18,Iv 19 q] [])
def bp (s0:ByteArray) (v18:Int):Unit→Nat×St:=fun e=>(0,(ai [] []))
def bn (s0:ByteArray) (v18:Int):Unit→St:=fun e=>(ai [Bv 2 false] [])
theorem aF (s0:ByteArray) (v18:Int) (v19:Int):Le ((aj s0 v18 v19).bind (fun w=>some (Fw.out (bm s0 v18) (bp s0 v18) (bn s0 v18) w))) (au Sy cL some (.rc (bL t.body [1,1,0,1,0,0]),[],(ai [(0,.v (.str s0)),Iv 18 v18,Iv 19 v19] []))):=by
 unfold aj;refine aG 7 20 ?_ ?_
 ·refine uv 15 .i64 fun x_1 h_1 => ?_
  refine aV 0 qo x_1 fun x_2 h_2 => ?_
  refine aY 2 6 [] (fun x_5=>(ai [(0,.v (.str s0)),Iv 18 v18,Iv 19 v19,Bv 20 true,Iv 3 v19,Bv 33 x_5] [])) ?_ fun x_5 => ?_
  ·refine dy 2 27 ?_ ?_
   ·exact aC 6
   ·refine uv 2 .i64 fun x_3 h_3 => ?_
    refine aV 0 yW x_3 fun x_4 h_4 => ?_
    exact aC 2
  ·refine aY 1 5 [] (fun x_7=>(ai [(0,.v (.str s0)),Iv 18 v18,Iv 19 v19,Bv 20 true,Bv 39 x_7] [])) ?_ fun x_7 => ?_
   ·refine aG 1 34 ?_ ?_
    ·refine uv 2 .i64 fun x_6 h_6 => ?_
     exact aC 2
    ·exact aC 5
   ·refine aG 2 39 ?_ ?_
    ·exact ah
    ·exact ah
 ·exact ah
theorem bW (s0:ByteArray) (v18:Int) (v19:Int):Le ((W1 s0 v18 v19).bind (fun r=>some [.bool r])) (au Sy cL (c6 t.rs) (bD t.body [1,1,0,1,0,0] [] (ai [(0,.v (.str s0)),Iv 18 v18,Iv 19 v19] []))):=by
 unfold W1;refine cu (bm s0 v18) (bp s0 v18) (bn s0 v18) (fun q=>aF s0 v18 q) ?_ ?_
 ·intro e;exact ah
 ·intro e;exact ah
end cI
noncomputable def cI (s0:ByteArray):Option Bool:=
 (ao (ByteArray.toList s0==ByteArray.toList ByteArray.empty)
 (some true)
 (some (decide (((ByteArray.size s0:Nat):Int)>16))):Option Bool).bind fun x_1=>
 (ao x_1
 (some true)
 ((gP s0 0).bind fun x_2=>
 (eK x_2).bind fun x_3=>
 some (!x_3)):Option Bool).bind fun x_4=>
 ao x_4
 (some false)
 (cI.W1 s0 ((ByteArray.size s0:Nat):Int) 0)
open cI in
theorem qy:aR Sy cL (bq 9) (fun z:ByteArray=>[.str z]) (fun r:Bool=>[.bool r]) (fun z=>cI z) true:=aR.dA cI.t (by
 intro s0;show Le ((cI s0).bind _) (au _ _ _ _);unfold cI;refine aY 11 4 [] (fun x_1=>(ai [(0,.v (.str s0)),Bv 10 x_1] [])) ?_ fun x_1 => ?_
 ·refine aG 11 6 ?_ ?_
  ·exact aC 4
  ·exact aC 4
 ·refine aY 1 5 [] (fun x_4=>(ai [(0,.v (.str s0)),Bv 16 x_4] [])) ?_ fun x_4 => ?_
  ·refine aG 1 11 ?_ ?_
   ·exact aC 5
   ·refine uv 1 .i64 fun x_2 h_2 => ?_
    refine aV 0 qo x_2 fun x_3 h_3 => ?_
    exact aC 2
  ·refine aG 2 16 ?_ ?_
   ·exact ah
   ·exact bZ 13 (bW s0 ((ByteArray.size s0:Nat):Int) 0))
noncomputable def cR (y0:aS) (v1:aS):Option Bool:=
 some (ByteArray.toList y0.name==ByteArray.toList v1.name)
theorem pI:aR Sy cL (bq 10) (fun z:aS×aS=>[enc z.1,.fptr (cells z.2)]) (fun r:Bool=>[.bool r]) (fun z=>cR z.1 z.2) true:=aR.dA cR.t (by
 rintro⟨y0,v1⟩;show Le ((cR y0 v1).bind _) (au _ _ _ _);unfold cR;refine dJ 2 2 y0 ?_;exact ah)
namespace cC
noncomputable def aj (s0:Sl aS) (v7:Int) (v8:Int) (p1:aS→Option Bool):Option (Fw Int Unit Int):=
 ao (decide (v8<v7))
 ((idx s0 v8).bind fun x_1=>
 (p1 x_1).bind fun x_2=>
 ao x_2
 (some (.r v8))
 (some (.n (IntKind.wrap .i64 (v8+1)))))
 (some (.x ()))
noncomputable def W1 (s0:Sl aS) (v7:Int) (v8:Int) (p1:aS→Option Bool):Option Int:=
 (bh (fun q:Int=>aj s0 v7 q p1) v8).bind (Fw.elim
 (fun e=>some (-1))
 (fun e=>some e))
def bm (g1:FuncId) (e1:List V) (s0:Sl aS) (v7:Int):Int→St:=fun q=>(ai [Cv 0 s0,(1,.v (.clo g1 [] e1)),Iv 7 v7,Iv 8 q] [])
def bp (g1:FuncId) (e1:List V) (s0:Sl aS) (v7:Int):Unit→Nat×St:=fun e=>(0,(ai [] []))
def bn (g1:FuncId) (e1:List V) (s0:Sl aS) (v7:Int):Int→St:=fun e=>(ai [Iv 4 e] [])
theorem aF (g1:FuncId) (e1:List V) (p1:aS→Option Bool) (h1:iy Sy cL g1 e1 (fun z:aS=>[enc z]) (fun r:Bool=>[.bool r]) p1) (s0:Sl aS) (v7:Int) (v8:Int):Le ((aj s0 v7 v8 p1).bind (fun w=>some (Fw.out (bm g1 e1 s0 v7) (bp g1 e1 s0 v7) (bn g1 e1 s0 v7) w))) (au Sy cL some (.rc (bL t.body [1,0,1,0,0]),[],(ai [Cv 0 s0,(1,.v (.clo g1 [] e1)),Iv 7 v7,Iv 8 v8] []))):=by
 unfold aj;refine aG 7 9 ?_ ?_
 ·refine bH 16 fun x_1 h_1 => ?_
  refine aV 1 h1.f x_1 fun x_2 h_2 => ?_
  refine aG 2 16 ?_ ?_
  ·exact ah
  ·exact ah
 ·exact ah
theorem bW (g1:FuncId) (e1:List V) (p1:aS→Option Bool) (h1:iy Sy cL g1 e1 (fun z:aS=>[enc z]) (fun r:Bool=>[.bool r]) p1) (s0:Sl aS) (v7:Int) (v8:Int):Le ((W1 s0 v7 v8 p1).bind (fun r=>some [.int .i64 r])) (au Sy cL (c6 t.rs) (bD t.body [1,0,1,0,0] [] (ai [Cv 0 s0,(1,.v (.clo g1 [] e1)),Iv 7 v7,Iv 8 v8] []))):=by
 unfold W1;refine cu (bm g1 e1 s0 v7) (bp g1 e1 s0 v7) (bn g1 e1 s0 v7) (fun q=>aF g1 e1 p1 h1 s0 v7 q) ?_ ?_
 ·intro e;exact ah
 ·intro e;exact ah
end cC
noncomputable def cC (s0:Sl aS) (p1:aS→Option Bool):Option Int:=
 cC.W1 s0 (len s0) 0 p1
open cC in
theorem pU (g1:FuncId) (e1:List V) (p1:aS→Option Bool) (h1:iy Sy cL g1 e1 (fun z:aS=>[enc z]) (fun r:Bool=>[.bool r]) p1):aR Sy cL (bq 11) (fun z:Sl aS=>[enc z,.clo g1 [] e1]) (fun r:Int=>[.int .i64 r]) (fun z=>cC z p1) true:=aR.dA cC.t (by
 intro s0;show Le ((cC s0 p1).bind _) (au _ _ _ _);unfold cC;refine bK 9 s0 ?_;exact bZ 5 (bW g1 e1 p1 h1 s0 (len s0) 0)) (l:=by intro z;simp[h1.d])
noncomputable def cF (s0:Sl aS) (p1:aS→Option Bool):Option Bool:=
 (cC s0 p1).bind fun x_1=>
 some (decide (x_1≥0))
theorem n_ (g1:FuncId) (e1:List V) (p1:aS→Option Bool) (h1:iy Sy cL g1 e1 (fun z:aS=>[enc z]) (fun r:Bool=>[.bool r]) p1):aR Sy cL (bq 12) (fun z:Sl aS=>[enc z,.clo g1 [] e1]) (fun r:Bool=>[.bool r]) (fun z=>cF z p1) true:=aR.dA cF.t (by
 intro s0;show Le ((cF s0 p1).bind _) (au _ _ _ _);unfold cF;refine aV 9 (pU g1 e1 p1 h1) s0 fun x_1 h_1 => ?_
 exact ah) (l:=by intro z;simp[h1.d])
noncomputable def cQ (w0:Var) (v1:Var):Option Bool:=
 some (ByteArray.toList w0.name==ByteArray.toList v1.name)
theorem pR:aR Sy cL (bq 13) (fun z:Var×Var=>[enc z.1,.fptr (cells z.2)]) (fun r:Bool=>[.bool r]) (fun z=>cQ z.1 z.2) true:=aR.dA cQ.t (by
 rintro⟨w0,v1⟩;show Le ((cQ w0 v1).bind _) (au _ _ _ _);unfold cQ;exact ah)
namespace cK
noncomputable def aj (s0:Sl Var) (v7:Int) (v8:Int) (p1:Var→Option Bool):Option (Fw Int Unit Int):=
 ao (decide (v8<v7))
 ((idx s0 v8).bind fun x_1=>
 (p1 x_1).bind fun x_2=>
 ao x_2
 (some (.r v8))
 (some (.n (IntKind.wrap .i64 (v8+1)))))
 (some (.x ()))
noncomputable def W1 (s0:Sl Var) (v7:Int) (v8:Int) (p1:Var→Option Bool):Option Int:=
 (bh (fun q:Int=>aj s0 v7 q p1) v8).bind (Fw.elim
 (fun e=>some (-1))
 (fun e=>some e))
def bm (g1:FuncId) (e1:List V) (s0:Sl Var) (v7:Int):Int→St:=fun q=>(ai [Cv 0 s0,(1,.v (.clo g1 [] e1)),Iv 7 v7,Iv 8 q] [])
def bp (g1:FuncId) (e1:List V) (s0:Sl Var) (v7:Int):Unit→Nat×St:=fun e=>(0,(ai [] []))
def bn (g1:FuncId) (e1:List V) (s0:Sl Var) (v7:Int):Int→St:=fun e=>(ai [Iv 4 e] [])
theorem aF (g1:FuncId) (e1:List V) (p1:Var→Option Bool) (h1:iy Sy cL g1 e1 (fun z:Var=>[enc z]) (fun r:Bool=>[.bool r]) p1) (s0:Sl Var) (v7:Int) (v8:Int):Le ((aj s0 v7 v8 p1).bind (fun w=>some (Fw.out (bm g1 e1 s0 v7) (bp g1 e1 s0 v7) (bn g1 e1 s0 v7) w))) (au Sy cL some (.rc (bL t.body [1,0,1,0,0]),[],(ai [Cv 0 s0,(1,.v (.clo g1 [] e1)),Iv 7 v7,Iv 8 v8] []))):=by
 unfold aj;refine aG 7 9 ?_ ?_
 ·refine bH 16 fun x_1 h_1 => ?_
  refine aV 1 h1.f x_1 fun x_2 h_2 => ?_
  refine aG 2 16 ?_ ?_
  ·exact ah
  ·exact ah
 ·exact ah
theorem bW (g1:FuncId) (e1:List V) (p1:Var→Option Bool) (h1:iy Sy cL g1 e1 (fun z:Var=>[enc z]) (fun r:Bool=>[.bool r]) p1) (s0:Sl Var) (v7:Int) (v8:Int):Le ((W1 s0 v7 v8 p1).bind (fun r=>some [.int .i64 r])) (au Sy cL (c6 t.rs) (bD t.body [1,0,1,0,0] [] (ai [Cv 0 s0,(1,.v (.clo g1 [] e1)),Iv 7 v7,Iv 8 v8] []))):=by
 unfold W1;refine cu (bm g1 e1 s0 v7) (bp g1 e1 s0 v7) (bn g1 e1 s0 v7) (fun q=>aF g1 e1 p1 h1 s0 v7 q) ?_ ?_
 ·intro e;exact ah
 ·intro e;exact ah
end cK
noncomputable def cK (s0:Sl Var) (p1:Var→Option Bool):Option Int:=
 cK.W1 s0 (len s0) 0 p1
open cK in
theorem qE (g1:FuncId) (e1:List V) (p1:Var→Option Bool) (h1:iy Sy cL g1 e1 (fun z:Var=>[enc z]) (fun r:Bool=>[.bool r]) p1):aR Sy cL (bq 14) (fun z:Sl Var=>[enc z,.clo g1 [] e1]) (fun r:Int=>[.int .i64 r]) (fun z=>cK z p1) true:=aR.dA cK.t (by
 intro s0;show Le ((cK s0 p1).bind _) (au _ _ _ _);unfold cK;refine bK 9 s0 ?_;exact bZ 5 (bW g1 e1 p1 h1 s0 (len s0) 0)) (l:=by intro z;simp[h1.d])
noncomputable def cN (s0:Sl Var) (p1:Var→Option Bool):Option Bool:=
 (cK s0 p1).bind fun x_1=>
 some (decide (x_1≥0))
theorem oW (g1:FuncId) (e1:List V) (p1:Var→Option Bool) (h1:iy Sy cL g1 e1 (fun z:Var=>[enc z]) (fun r:Bool=>[.bool r]) p1):aR Sy cL (bq 15) (fun z:Sl Var=>[enc z,.clo g1 [] e1]) (fun r:Bool=>[.bool r]) (fun z=>cN z p1) true:=aR.dA cN.t (by
 intro s0;show Le ((cN s0 p1).bind _) (au _ _ _ _);unfold cN;refine aV 9 (qE g1 e1 p1 h1) s0 fun x_1 h_1 => ?_
 exact ah) (l:=by intro z;simp[h1.d])
namespace bA
noncomputable def aj (v32:Sl Var) (v33:Int) (xb5:aS) (v34:Int):Option (Fw Int Unit Int):=
 ao (decide (v34<v33))
 ((idx v32 v34).bind fun x_1=>
 (cI x_1.name).bind fun x_2=>
 (ao x_2
 ((g_ xb5.vars none (some v34)).bind fun x_3=>
 (cN x_3 (fun z=>cQ z x_1)).bind fun x_4=>
 some x_4)
 (some true):Option Bool).bind fun x_5=>
 ao x_5
 (some (.r 13))
 ((gj x_1.init_ (-1073741824) 1073741824).bind fun x_6=>
 ao x_6
 (some (.n (IntKind.wrap .i64 (v34+1))))
 (some (.r 2))))
 (some (.x ()))
noncomputable def W1 (v32:Sl Var) (v33:Int) (v34:Int) (xb5:aS):Option Int:=
 (bh (fun q:Int=>aj v32 v33 xb5 q) v34).bind (Fw.elim
 (fun e=>ao (decide ((len xb5.events)>64))
 (some 5)
 (some 0))
 (fun e=>some e))
def bm (v32:Sl Var) (v33:Int) (xb5:aS):Int→St:=fun q=>(ai [Pv 5,Cv 32 v32,Iv 33 v33,Iv 34 q] [Xb 5 xb5])
def bp (v32:Sl Var) (v33:Int) (xb5:aS):Unit→Nat×St:=fun e=>(1,(ai [Pv 5] [Xb 5 xb5]))
def bn (v32:Sl Var) (v33:Int) (xb5:aS):Int→St:=fun e=>(ai [Iv 4 e] [])
theorem aF (v32:Sl Var) (v33:Int) (xb5:aS) (v34:Int):Le ((aj v32 v33 xb5 v34).bind (fun w=>some (Fw.out (bm v32 v33 xb5) (bp v32 v33 xb5) (bn v32 v33 xb5) w))) (au Sy cL some (.rc (bL t.body [1,1,1,0,1,0,0]),[],(ai [Pv 5,Cv 32 v32,Iv 33 v33,Iv 34 v34] [Xb 5 xb5]))):=by
 unfold aj;refine aG 7 35 ?_ ?_
 ·refine bH 8 fun x_1 h_1 => ?_
  refine aV 11 qy x_1.name fun x_2 h_2 => ?_
  refine aY 2 7 [] (fun x_5=>(ai [Pv 5,Cv 32 v32,Iv 33 v33,Iv 34 v34,Bv 35 true,Pv 7,Bv 51 x_5] [Xb 5 xb5,Xb 7 x_1])) ?_ fun x_5 => ?_
  ·refine dy 2 44 ?_ ?_
   ·refine EP 3 false true [.int .i64 v34] fun x_3 h_3 => ?_
    refine jE 1 (oW (bq 13) [.fptr (cells x_1)] (fun z=>cQ z x_1) (iy.of (pR) (fun z=>(z,x_1)) (fun _=>rfl) (fun _=>rfl) (by simp))) x_3 fun x_4 h_4 => ?_
    exact aC 1
   ·exact aC 7
  ·refine aG 3 39 ?_ ?_
   ·exact ah
   ·refine aV 5 je (x_1.init_,(-1073741824),1073741824) fun x_6 h_6 => ?_
    refine dy 4 52 ?_ ?_
    ·exact ah
    ·exact ah
 ·exact ah
theorem bW (v32:Sl Var) (v33:Int) (v34:Int) (xb5:aS):Le ((W1 v32 v33 v34 xb5).bind (fun r=>some [.int .i64 r])) (au Sy cL (c6 t.rs) (bD t.body [1,1,1,0,1,0,0] [] (ai [Pv 5,Cv 32 v32,Iv 33 v33,Iv 34 v34] [Xb 5 xb5]))):=by
 unfold W1;refine cu (bm v32 v33 xb5) (bp v32 v33 xb5) (bn v32 v33 xb5) (fun q=>aF v32 v33 xb5 q) ?_ ?_
 ·intro e;refine bK 7 xb5.events ?_;refine aG 3 61 ?_ ?_
  ·exact ah
  ·exact ah
 ·intro e;exact ah
end bA
noncomputable def bA (t0:Trace) (p1:Int):Option Int:=
 (idx t0.procs p1).bind fun x_1=>
 (cI x_1.name).bind fun x_2=>
 (ao x_2
 ((g_ t0.procs none (some p1)).bind fun x_3=>
 (cF x_3 (fun z=>cR z x_1)).bind fun x_4=>
 some x_4)
 (some true):Option Bool).bind fun x_5=>
 ao x_5
 (some 13)
 (ao (decide ((len x_1.vars)>8))
 (some 5)
 (bA.W1 x_1.vars (len x_1.vars) 0 x_1))
open bA in
theorem rC:aR Sy cL (bq 16) (fun z:Trace×Int=>[enc z.1,.int .i64 z.2]) (fun r:Int=>[.int .i64 r]) (fun z=>bA z.1 z.2) true:=aR.dA bA.t (by
 rintro⟨t0,p1⟩;show Le ((bA t0 p1).bind _) (au _ _ _ _);unfold bA;refine dJ 2 2 t0 ?_;refine bH 8 fun x_1 h_1 => ?_
 refine kZ 2 5 0 x_1 ?_;refine aV 8 qy x_1.name fun x_2 h_2 => ?_
 refine aY 2 7 [] (fun x_5=>(ai [Pv 5,Bv 25 x_5] [Xb 2 t0,Xb 5 x_1])) ?_ fun x_5 => ?_
 ·refine dy 2 18 ?_ ?_
  ·refine EP 3 false true [.int .i64 p1] fun x_3 h_3 => ?_
   refine jE 1 (n_ (bq 10) [.fptr (cells x_1)] (fun z=>cR z x_1) (iy.of (pI) (fun z=>(z,x_1)) (fun _=>rfl) (fun _=>rfl) (by simp))) x_3 fun x_4 h_4 => ?_
   exact aC 1
  ·exact aC 7
 ·refine aG 3 13 ?_ ?_
  ·exact ah
  ·refine bK 5 x_1.vars ?_;refine aG 4 26 ?_ ?_
   ·exact ah
   ·refine bK 9 x_1.vars ?_;exact bZ 5 (bW x_1.vars (len x_1.vars) 0 x_1))
noncomputable def ey (t0:Trace):Option Trace:=
 some t0
theorem kg:aR Sy cL (bq 18) (fun z:Trace=>[enc z]) (fun r:Trace=>[(.clo (bq 17) [] [.fptr (cells r)])]) (fun z=>ey z) false:=aR.yF ey.t (by
 intro t0;show Le ((ey t0).bind _) (au _ _ _ _);unfold ey;refine dJ 2 1 t0 ?_;exact ah)
namespace cX
noncomputable def J1 (p1:Int) (v19:Bool) (tb3:Trace) (eb5:Event):Option Bool:=
 ao v19
 ((gj eb5.peer 0 (IntKind.wrap .i64 ((len tb3.procs)-1))).bind fun x_1=>
 (ao x_1
 (some (!(eb5.peer==p1)))
 (some false):Option Bool).bind fun x_2=>
 (ao x_2
 ((gj eb5.message 0 199).bind fun x_3=>
 some x_3)
 (some false):Option Bool).bind fun x_4=>
 some x_4)
 (some false)
theorem jB (p1:Int) (v19:Bool) (tb3:Trace) (eb5:Event):Le ((J1 p1 v19 tb3 eb5).bind (fun r=>some [.bool r])) (au Sy cL (c6 t.rs) (bD t.body [1,0,1,0,1,1,1,0] [] (ai [Iv 1 p1,Pv 3,Pv 5,Bv 19 v19] [Xb 3 tb3,Xb 5 eb5]))):=by
 unfold J1;refine aG 0 19 ?_ ?_
 ·refine bK 7 tb3.procs ?_;refine aV 1 je (eb5.peer,0,IntKind.wrap .i64 ((len tb3.procs)-1)) fun x_1 h_1 => ?_
  refine aY 1 5 [] (fun x_2=>(ai [Pv 5,Bv 19 true,Bv 34 x_2] [Xb 3 tb3,Xb 5 eb5])) ?_ fun x_2 => ?_
  ·refine aG 1 29 ?_ ?_
   ·exact aC 5
   ·exact aC 5
  ·refine aY 1 4 [] (fun x_4=>(ai [Bv 19 true,Bv 39 x_4] [Xb 3 tb3,Xb 5 eb5])) ?_ fun x_4 => ?_
   ·refine aG 1 35 ?_ ?_
    ·refine aV 2 je (eb5.message,0,199) fun x_3 h_3 => ?_
     exact aC 1
    ·exact aC 4
   ·exact ah
 ·exact ah
end cX
noncomputable def cX (t0:Trace) (p1:Int) (e2:Event):Option Bool:=
 ao (e2.kind==1)
 ((ao (e2.peer==0)
 (some (e2.message==0))
 (some false):Option Bool).bind fun x_1=>
 some x_1)
 (ao (e2.kind==2)
 (cX.J1 p1 true t0 e2)
 (cX.J1 p1 (e2.kind==3) t0 e2))
open cX in
theorem wT:aR Sy cL (bq 19) (fun z:Trace×Int×Event=>[enc z.1,.int .i64 z.2.1,enc z.2.2]) (fun r:Bool=>[.bool r]) (fun z=>cX z.1 z.2.1 z.2.2) true:=aR.dA cX.t (by
 rintro⟨t0,p1,e2⟩;show Le ((cX t0 p1 e2).bind _) (au _ _ _ _);unfold cX;refine dJ 2 3 t0 ?_;refine dJ 0 5 e2 ?_;refine aG 17 9 ?_ ?_
 ·refine aY 7 4 [] (fun x_1=>(ai [Iv 1 p1,Pv 3,Iv 8 e2.kind,Bv 9 true,Bv 18 x_1] [Xb 3 t0,Xb 5 e2])) ?_ fun x_1 => ?_
  ·refine aG 7 14 ?_ ?_
   ·exact aC 4
   ·exact aC 4
  ·exact ah
 ·refine aG 8 19 ?_ ?_
  ·exact bZ 4 (jB p1 true t0 e2)
  ·exact bZ 7 (jB p1 (e2.kind==3) t0 e2))
noncomputable def di (b0:Assign) (v1:Assign):Option Bool:=
 some (b0.var==v1.var)
theorem qN:aR Sy cL (bq 20) (fun z:Assign×Assign=>[enc z.1,.fptr (cells z.2)]) (fun r:Bool=>[.bool r]) (fun z=>di z.1 z.2) true:=aR.dA di.t (by
 rintro⟨b0,v1⟩;show Le ((di b0 v1).bind _) (au _ _ _ _);unfold di;exact ah)
namespace b8
noncomputable def aj (s0:Sl Assign) (v7:Int) (v8:Int) (p1:Assign→Option Bool):Option (Fw Int Unit Int):=
 ao (decide (v8<v7))
 ((idx s0 v8).bind fun x_1=>
 (p1 x_1).bind fun x_2=>
 ao x_2
 (some (.r v8))
 (some (.n (IntKind.wrap .i64 (v8+1)))))
 (some (.x ()))
noncomputable def W1 (s0:Sl Assign) (v7:Int) (v8:Int) (p1:Assign→Option Bool):Option Int:=
 (bh (fun q:Int=>aj s0 v7 q p1) v8).bind (Fw.elim
 (fun e=>some (-1))
 (fun e=>some e))
def bm (g1:FuncId) (e1:List V) (s0:Sl Assign) (v7:Int):Int→St:=fun q=>(ai [Cv 0 s0,(1,.v (.clo g1 [] e1)),Iv 7 v7,Iv 8 q] [])
def bp (g1:FuncId) (e1:List V) (s0:Sl Assign) (v7:Int):Unit→Nat×St:=fun e=>(0,(ai [] []))
def bn (g1:FuncId) (e1:List V) (s0:Sl Assign) (v7:Int):Int→St:=fun e=>(ai [Iv 4 e] [])
theorem aF (g1:FuncId) (e1:List V) (p1:Assign→Option Bool) (h1:iy Sy cL g1 e1 (fun z:Assign=>[enc z]) (fun r:Bool=>[.bool r]) p1) (s0:Sl Assign) (v7:Int) (v8:Int):Le ((aj s0 v7 v8 p1).bind (fun w=>some (Fw.out (bm g1 e1 s0 v7) (bp g1 e1 s0 v7) (bn g1 e1 s0 v7) w))) (au Sy cL some (.rc (bL t.body [1,0,1,0,0]),[],(ai [Cv 0 s0,(1,.v (.clo g1 [] e1)),Iv 7 v7,Iv 8 v8] []))):=by
 unfold aj;refine aG 7 9 ?_ ?_
 ·refine bH 16 fun x_1 h_1 => ?_
  refine aV 1 h1.f x_1 fun x_2 h_2 => ?_
  refine aG 2 16 ?_ ?_
  ·exact ah
  ·exact ah
 ·exact ah
theorem bW (g1:FuncId) (e1:List V) (p1:Assign→Option Bool) (h1:iy Sy cL g1 e1 (fun z:Assign=>[enc z]) (fun r:Bool=>[.bool r]) p1) (s0:Sl Assign) (v7:Int) (v8:Int):Le ((W1 s0 v7 v8 p1).bind (fun r=>some [.int .i64 r])) (au Sy cL (c6 t.rs) (bD t.body [1,0,1,0,0] [] (ai [Cv 0 s0,(1,.v (.clo g1 [] e1)),Iv 7 v7,Iv 8 v8] []))):=by
 unfold W1;refine cu (bm g1 e1 s0 v7) (bp g1 e1 s0 v7) (bn g1 e1 s0 v7) (fun q=>aF g1 e1 p1 h1 s0 v7 q) ?_ ?_
 ·intro e;exact ah
 ·intro e;exact ah
end b8
noncomputable def b8 (s0:Sl Assign) (p1:Assign→Option Bool):Option Int:=
 b8.W1 s0 (len s0) 0 p1
open b8 in
theorem o7 (g1:FuncId) (e1:List V) (p1:Assign→Option Bool) (h1:iy Sy cL g1 e1 (fun z:Assign=>[enc z]) (fun r:Bool=>[.bool r]) p1):aR Sy cL (bq 21) (fun z:Sl Assign=>[enc z,.clo g1 [] e1]) (fun r:Int=>[.int .i64 r]) (fun z=>b8 z p1) true:=aR.dA b8.t (by
 intro s0;show Le ((b8 s0 p1).bind _) (au _ _ _ _);unfold b8;refine bK 9 s0 ?_;exact bZ 5 (bW g1 e1 p1 h1 s0 (len s0) 0)) (l:=by intro z;simp[h1.d])
noncomputable def b9 (s0:Sl Assign) (p1:Assign→Option Bool):Option Bool:=
 (b8 s0 p1).bind fun x_1=>
 some (decide (x_1≥0))
theorem nK (g1:FuncId) (e1:List V) (p1:Assign→Option Bool) (h1:iy Sy cL g1 e1 (fun z:Assign=>[enc z]) (fun r:Bool=>[.bool r]) p1):aR Sy cL (bq 22) (fun z:Sl Assign=>[enc z,.clo g1 [] e1]) (fun r:Bool=>[.bool r]) (fun z=>b9 z p1) true:=aR.dA b9.t (by
 intro s0;show Le ((b9 s0 p1).bind _) (au _ _ _ _);unfold b9;refine aV 9 (o7 g1 e1 p1 h1) s0 fun x_1 h_1 => ?_
 exact ah) (l:=by intro z;simp[h1.d])
namespace a_
noncomputable def aM (v52:Sl Assign) (v53:Int) (eb5:Event) (xb7:aS) (v54:Int):Option (Fw Int Unit Int):=
 ao (decide (v54<v53))
 ((idx v52 v54).bind fun x_1=>
 (gj x_1.var 0 (IntKind.wrap .i64 ((len xb7.vars)-1))).bind fun x_2=>
 (ao x_2
 ((gj x_1.value (-1073741824) 1073741824).bind fun x_3=>
 some (!x_3))
 (some true):Option Bool).bind fun x_4=>
 ao x_4
 (some (.r 2))
 ((g_ eb5.assign none (some v54)).bind fun x_5=>
 (b9 x_5 (fun z=>di z x_1)).bind fun x_6=>
 ao x_6
 (some (.r 8))
 (some (.n (IntKind.wrap .i64 (v54+1))))))
 (some (.x ()))
noncomputable def W2 (v52:Sl Assign) (v53:Int) (v54:Int) (eb5:Event) (xb7:aS):Option Int:=
 (bh (fun q:Int=>aM v52 v53 eb5 xb7 q) v54).bind (Fw.elim
 (fun e=>some 0)
 (fun e=>some e))
def d6 (v52:Sl Assign) (v53:Int) (eb5:Event) (xb7:aS):Int→St:=fun q=>(ai [Pv 5,Pv 7,Cv 52 v52,Iv 53 v53,Iv 54 q] [Xb 5 eb5,Xb 7 xb7])
def d4 (v52:Sl Assign) (v53:Int) (eb5:Event) (xb7:aS):Unit→Nat×St:=fun e=>(1,(ai [] []))
def dZ (v52:Sl Assign) (v53:Int) (eb5:Event) (xb7:aS):Int→St:=fun e=>(ai [Iv 6 e] [])
noncomputable def J1 (last8:Int) (tb3:Trace) (idb4:aa) (eb5:Event) (xb7:aS):Option Int:=
 (cX tb3 idb4.proc eb5).bind fun x_1=>
 ao x_1
 ((gj eb5.time 0 1099511627776).bind fun x_2=>
 (ao x_2
 (some (decide (eb5.time<last8)))
 (some true):Option Bool).bind fun x_3=>
 ao x_3
 (some 11)
 (ao (decide ((len eb5.assign)>8))
 (some 5)
 (a_.W2 eb5.assign (len eb5.assign) 0 eb5 xb7)))
 (some 3)
theorem ct (v52:Sl Assign) (v53:Int) (eb5:Event) (xb7:aS) (v54:Int):Le ((aM v52 v53 eb5 xb7 v54).bind (fun w=>some (Fw.out (d6 v52 v53 eb5 xb7) (d4 v52 v53 eb5 xb7) (dZ v52 v53 eb5 xb7) w))) (au Sy cL some (.rc (bL t.body [1,1,1,1,0,1,0,1,0,0]),[],(ai [Pv 5,Pv 7,Cv 52 v52,Iv 53 v53,Iv 54 v54] [Xb 5 eb5,Xb 7 xb7]))):=by
 unfold aM;refine aG 7 55 ?_ ?_
 ·refine bH 8 fun x_1 h_1 => ?_
  refine bK 13 xb7.vars ?_;refine aV 1 je (x_1.var,0,IntKind.wrap .i64 ((len xb7.vars)-1)) fun x_2 h_2 => ?_
  refine aY 2 5 [] (fun x_4=>(ai [Pv 5,Pv 7,Cv 52 v52,Iv 53 v53,Iv 54 v54,Bv 55 true,Pv 10,Iv 9 v54,Bv 73 x_4] [Xb 5 eb5,Xb 7 xb7,Xb 10 x_1])) ?_ fun x_4 => ?_
  ·refine dy 2 68 ?_ ?_
   ·refine aV 2 je (x_1.value,(-1073741824),1073741824) fun x_3 h_3 => ?_
    exact aC 2
   ·exact aC 5
  ·refine aG 3 59 ?_ ?_
   ·exact ah
   ·refine EP 6 false true [.int .i64 v54] fun x_5 h_5 => ?_
    refine jE 1 (nK (bq 20) [.fptr (cells x_1)] (fun z=>di z x_1) (iy.of (qN) (fun z=>(z,x_1)) (fun _=>rfl) (fun _=>rfl) (by simp))) x_5 fun x_6 h_6 => ?_
    refine aG 3 74 ?_ ?_
    ·exact ah
    ·exact ah
 ·exact ah
theorem fK (v52:Sl Assign) (v53:Int) (v54:Int) (eb5:Event) (xb7:aS):Le ((W2 v52 v53 v54 eb5 xb7).bind (fun r=>some [.int .i64 r])) (au Sy cL (c6 t.rs) (bD t.body [1,1,1,1,0,1,0,1,0,0] [] (ai [Pv 5,Pv 7,Cv 52 v52,Iv 53 v53,Iv 54 v54] [Xb 5 eb5,Xb 7 xb7]))):=by
 unfold W2;refine cu (d6 v52 v53 eb5 xb7) (d4 v52 v53 eb5 xb7) (dZ v52 v53 eb5 xb7) (fun q=>ct v52 v53 eb5 xb7 q) ?_ ?_
 ·intro e;exact ah
 ·intro e;exact ah
theorem jB (last8:Int) (tb3:Trace) (idb4:aa) (eb5:Event) (xb7:aS):Le ((J1 last8 tb3 idb4 eb5 xb7).bind (fun r=>some [.int .i64 r])) (au Sy cL (c6 t.rs) (bD t.body [1,1,1,1,0] [] (ai [Pv 3,Pv 4,Pv 5,Pv 7,Iv 8 last8] [Xb 3 tb3,Xb 4 idb4,Xb 5 eb5,Xb 7 xb7]))):=by
 unfold J1;refine aV 8 wT (tb3,idb4.proc,eb5) fun x_1 h_1 => ?_
 refine dy 4 28 ?_ ?_
 ·refine aV 5 je (eb5.time,0,1099511627776) fun x_2 h_2 => ?_
  refine aY 2 5 [] (fun x_3=>(ai [Pv 5,Pv 7,Bv 28 false,Bv 45 x_3] [Xb 3 tb3,Xb 4 idb4,Xb 5 eb5,Xb 7 xb7])) ?_ fun x_3 => ?_
  ·refine dy 2 40 ?_ ?_
   ·exact aC 5
   ·exact aC 5
  ·refine aG 3 35 ?_ ?_
   ·exact ah
   ·refine bK 5 eb5.assign ?_;refine aG 4 46 ?_ ?_
    ·exact ah
    ·refine bK 9 eb5.assign ?_;exact bZ 5 (fK eb5.assign (len eb5.assign) 0 eb5 xb7)
 ·exact ah
end a_
noncomputable def a_ (t0:Trace) (id1:aa) (e2:Event):Option Int:=
 (idx t0.procs id1.proc).bind fun x_1=>
 ao (decide (id1.index>1))
 ((idx x_1.events (IntKind.wrap .i64 (id1.index-2))).bind fun x_2=>
 a_.J1 x_2.time t0 id1 e2 x_1)
 (a_.J1 0 t0 id1 e2 x_1)
open a_ in
theorem sZ:aR Sy cL (bq 23) (fun z:Trace×aa×Event=>[enc z.1,enc z.2.1,enc z.2.2]) (fun r:Int=>[.int .i64 r]) (fun z=>a_ z.1 z.2.1 z.2.2) true:=aR.dA a_.t (by
 rintro⟨t0,id1,e2⟩;show Le ((a_ t0 id1 e2).bind _) (au _ _ _ _);unfold a_;refine dJ 2 3 t0 ?_;refine dJ 1 5 e2 ?_;refine bH 9 fun x_1 h_1 => ?_
 refine kZ 2 7 0 x_1 ?_;refine aG 15 19 ?_ ?_
 ·refine bH 7 fun x_2 h_2 => ?_
  exact bZ 6 (jB x_2.time t0 id1 e2 x_1)
 ·exact bZ 4 (jB 0 t0 id1 e2 x_1))
noncomputable def fB (e0:Event) (v1:Int) (v2:Int):Option Bool:=
 (ao (e0.kind==2)
 (some (e0.message==v1))
 (some false):Option Bool).bind fun x_1=>
 (ao x_1
 (some (e0.peer==v2))
 (some false):Option Bool).bind fun x_2=>
 some x_2
theorem uL:aR Sy cL (bq 24) (fun z:Event×Int×Int=>[enc z.1,.fptr (cells z.2.1),.fptr (cells z.2.2)]) (fun r:Bool=>[.bool r]) (fun z=>fB z.1 z.2.1 z.2.2) true:=aR.dA fB.t (by
 rintro⟨e0,v1,v2⟩;show Le ((fB e0 v1 v2).bind _) (au _ _ _ _);unfold fB;refine dJ 2 3 e0 ?_;refine aY 9 5 [] (fun x_1=>(ai [Kv 2 v2,Pv 3,Bv 13 x_1] [Xb 3 e0])) ?_ fun x_1 => ?_
 ·refine aG 9 8 ?_ ?_
  ·exact aC 5
  ·exact aC 5
 ·refine aY 1 5 [] (fun x_2=>(ai [Bv 19 x_2] [Xb 3 e0])) ?_ fun x_2 => ?_
  ·refine aG 1 14 ?_ ?_
   ·exact aC 5
   ·exact aC 5
  ·exact ah)
noncomputable def gK (t0:Trace) (p1:Int) (m2:Int) (to_3:Int):Option Bool:=
 (idx t0.procs p1).bind fun x_1=>
 (cr x_1.events (fun z=>fB z m2 to_3)).bind fun x_2=>
 some x_2
theorem yw:aR Sy cL (bq 25) (fun z:Trace×Int×Int×Int=>[enc z.1,.int .i64 z.2.1,.int .i64 z.2.2.1,.int .i64 z.2.2.2]) (fun r:Bool=>[.bool r]) (fun z=>gK z.1 z.2.1 z.2.2.1 z.2.2.2) true:=aR.dA gK.t (by
 rintro⟨t0,p1,m2,to_3⟩;show Le ((gK t0 p1 m2 to_3).bind _) (au _ _ _ _);unfold gK;refine dJ 2 4 t0 ?_;refine bH 10 fun x_1 h_1 => ?_
 refine jE 3 (jN (bq 24) [.fptr (cells m2),.fptr (cells to_3)] (fun z=>fB z m2 to_3) (iy.of (uL) (fun z=>(z,m2,to_3)) (fun _=>rfl) (fun _=>rfl) (by simp))) x_1.events fun x_2 h_2 => ?_
 exact ah)
namespace b7
noncomputable def iB (vk0_12:Trace) (tb1:Trace) (vb2:Option (bt 200 aA)) (vb3:aa) (vb4:Int) (x:aa×Event) (vb10:bt 200 aA):Option (Fw (bt 200 aA) Empty (aa×Int×(bt 200 aA))):=
 ao (x.2.kind==2)
 ((bt.at vb10 x.2.message).bind fun x_1=>
 ao (decide (x_1.from_.index>0))
 (some (.r (x.1,8,vb10)))
 ((bt.at vb10 x.2.message).bind fun x_2=>
 some (.n (bt.set vb10 x.2.message (⟨x.1,x_2.to_⟩:aA)))))
 (ao (x.2.kind==3)
 ((bt.at vb10 x.2.message).bind fun x_3=>
 ao (decide (x_3.to_.index>0))
 (some (.r (x.1,8,vb10)))
 ((gK tb1 x.2.peer x.2.message x.1.proc).bind fun x_4=>
 ao x_4
 ((bt.at vb10 x.2.message).bind fun x_5=>
 some (.n (bt.set vb10 x.2.message (⟨x_5.from_,x.1⟩:aA))))
 (some (.r (x.1,7,vb10)))))
 (some (.n vb10)))
noncomputable def E1 (vk0_12:Trace) (tb1:Trace) (vb2:Option (bt 200 aA)) (vb3:aa) (vb4:Int) (vb10:bt 200 aA):Option ((Option (bt 200 aA))×aa×Int):=
 (gr vk0_12).bind fun its=>(jZ (fun (x:aa×Event) (q:bt 200 aA)=>iB vk0_12 tb1 vb2 vb3 vb4 x q) its vb10).bind (Fw.qV
 (fun q=>some (some q,⟨0,0⟩,0))
 (fun e=>Empty.elim e)
 (fun e=>some ((none:Option (bt 200 aA)),e.1,e.2.1)))
def sH (vk0_12:Trace) (tb1:Trace) (vb2:Option (bt 200 aA)) (vb3:aa) (vb4:Int):bt 200 aA→Tb aL:=fun q=>[Xb 1 tb1,(2,.box [cv vb2]),Xb 3 vb3,(4,.box [iv vb4]),(5,.box [.ptr 10 0]),Xb 10 q]
def sD (vk0_12:Trace) (tb1:Trace) (vb2:Option (bt 200 aA)) (vb3:aa) (vb4:Int):Empty→Nat×Tb aL:=fun e=>Empty.elim e
def sF (vk0_12:Trace) (tb1:Trace) (vb2:Option (bt 200 aA)) (vb3:aa) (vb4:Int):aa×Int×(bt 200 aA)→Tb aL:=fun e=>[Xb 1 tb1,(2,.box [cv (none:Option (bt 200 aA))]),Xb 3 e.1,(4,.box [iv e.2.1]),(5,.box [.ptr 10 0]),Xb 10 e.2.2]
theorem nJ (vk0_12:Trace) (tb1:Trace) (vb2:Option (bt 200 aA)) (vb3:aa) (vb4:Int) (x:aa×Event) (vb10:bt 200 aA):Le ((iB vk0_12 tb1 vb2 vb3 vb4 x vb10).bind (fun w=>some (Fw.lx (sH vk0_12 tb1 vb2 vb3 vb4) (sD vk0_12 tb1 vb2 vb3 vb4) (sF vk0_12 tb1 vb2 vb3 vb4) w))) (au Sy cL (nN Sy cL (iA t.body [1,1,0,1,0,0]).2.2.2) (.rc (iA t.body [1,1,0,1,0,0]).2.2.1,[],⟨[Pv 1,Pv 2,Pv 3,Pv 4,Pv 5,(12,.v (.clo (bq 17) [] [.fptr (cells vk0_12)])),Cv 13 x.1,Cv 14 x.2],[Xb 1 tb1,(2,.box [cv vb2]),Xb 3 vb3,(4,.box [iv vb4]),(5,.box [.ptr 10 0]),Xb 10 vb10],[1,2,3,4,5],[],true,0⟩)):=by
 unfold iB;refine Ms 2 6 ⟨[Pv 1,Pv 2,Pv 3,Pv 4,Pv 5,(12,.v (.clo (bq 17) [] [.fptr (cells vk0_12)])),Cv 13 x.1,Cv 14 x.2],[Xb 1 tb1,(2,.box [cv vb2]),Xb 3 vb3,(4,.box [iv vb4]),(5,.box [.ptr 10 0]),Xb 10 vb10],[1,2,3,4,5],[],true,0⟩ [iv 0,iv 0] (by simp only[ai,rX,lK,mV,lI,mY,nS,mZ,nZ,lU,mT,sq,n9,om,n7,ot,pX,qc,m6,nR];rfl) ?_
 refine Ms 4 7 ⟨[Pv 1,Pv 2,Pv 3,Pv 4,Pv 5,(12,.v (.clo (bq 17) [] [.fptr (cells vk0_12)])),Cv 14 x.2,Pv 6],[Xb 1 tb1,(2,.box [cv vb2]),Xb 3 vb3,(4,.box [iv vb4]),(5,.box [.ptr 10 0]),Xb 10 vb10,Xb 6 x.1],[1,2,3,4,5],[],true,0⟩ [iv 0,iv 0,iv 0,iv 0,.v .ay] (by simp only[ai,rX,lK,mV,lI,mY,nS,mZ,nZ,lU,mT,sq,n9,om,n7,ot,pX,qc,m6,nR];rfl) ?_
 refine kZ 0 7 0 x.2 ?_;refine yZ 1 ?_;refine aG 22 19 ?_ ?_
 ·refine AW 7 .i64 10 fun x_1 h_1 => ?_
  refine IU 2 1 false 10 vb10 x.2.message 1 x_1 h_1 (.int .i64 x_1.from_.index) (by rfl) ?_
  refine aG 3 28 ?_ ?_
  ·exact ah
  ·refine AW 8 .i64 10 fun x_2 h_2 => ?_
   refine IV 1 2 10 vb10 x.2.message 0 x_2 h_2 (⟨x.1,x_2.to_⟩:aA) (enc x.1) (by rfl) ?_
   exact ah
 ·refine aG 7 36 ?_ ?_
  ·refine AW 7 .i64 10 fun x_3 h_3 => ?_
   refine IU 2 1 false 10 vb10 x.2.message 3 x_3 h_3 (.int .i64 x_3.to_.index) (by rfl) ?_
   refine aG 3 45 ?_ ?_
   ·exact ah
   ·refine aV 12 yw (tb1,x.2.peer,x.2.message,x.1.proc) fun x_4 h_4 => ?_
    refine dy 3 54 ?_ ?_
    ·refine AW 8 .i64 10 fun x_5 h_5 => ?_
     refine IV 1 2 10 vb10 x.2.message 2 x_5 h_5 (⟨x_5.from_,x.1⟩:aA) (enc x.1) (by rfl) ?_
     exact ah
    ·exact ah
  ·exact ah
theorem za (vk0_12:Trace) (tb1:Trace) (vb2:Option (bt 200 aA)) (vb3:aa) (vb4:Int) (vb10:bt 200 aA):Le ((E1 vk0_12 tb1 vb2 vb3 vb4 vb10).bind (fun r=>some [enc r.1,enc r.2.1,.int .i64 r.2.2])) (au Sy cL (c6 t.rs) (bD t.body [1,1,0,1,0,0] [] (ai [Pv 1,Pv 2,Pv 3,Pv 4,Pv 5,(12,.v (.clo (bq 17) [] [.fptr (cells vk0_12)]))] [Xb 1 tb1,(2,.box [cv vb2]),Xb 3 vb3,(4,.box [iv vb4]),(5,.box [.ptr 10 0]),Xb 10 vb10]))):=by
 unfold E1;refine Ez fun its hits => ?_
 refine AT [Pv 1,Pv 2,Pv 3,Pv 4,Pv 5,(12,.v (.clo (bq 17) [] [.fptr (cells vk0_12)]))] (sH vk0_12 tb1 vb2 vb3 vb4) (sD vk0_12 tb1 vb2 vb3 vb4) (sF vk0_12 tb1 vb2 vb3 vb4) (sS vk0_12 its hits) (fun x q=>IF (by kernel_rfl) (nJ vk0_12 tb1 vb2 vb3 vb4 x q)) ?_ ?_ ?_
 ·intro q;exact PK 13 (ai [Pv 2,Pv 3,Pv 4] [(2,.box [.ptr 10 0]),Xb 3 (⟨0,0⟩:aa),(4,.box [iv 0]),Xb 10 q]) [.ptr 10 0,cv (⟨0,0⟩:aa),iv 0] (JE (d:=10) (x:=q) (vs:=[enc (⟨0,0⟩:aa),.int .i64 0]) (by kernel_rfl)) (by kernel_rfl)
 ·intro e;exact Empty.elim e
 ·intro e;exact ah
end b7
noncomputable def b7 (t0:Trace):Option ((Option (bt 200 aA))×aa×Int):=
 (ey t0).bind fun x_1=>
 b7.E1 x_1 t0 (none:Option (bt 200 aA)) (⟨0,0⟩:aa) 0 (bt.Dm 200 (⟨⟨0,0⟩,⟨0,0⟩⟩:aA))
open b7 in
theorem rE:aR Sy cL (bq 26) (fun z:Trace=>[enc z]) (fun r:(Option (bt 200 aA))×aa×Int=>[enc r.1,enc r.2.1,.int .i64 r.2.2]) (fun z=>b7 z) false:=aR.yF b7.t (by
 intro t0;show Le ((b7 t0).bind _) (au _ _ _ _);unfold b7;refine dJ 2 1 t0 ?_;refine dJ 8 10 (bt.Dm 200 (⟨⟨0,0⟩,⟨0,0⟩⟩:aA)) ?_;refine Ms 0 5 (ai [Pv 1,Pv 2,Pv 3,Pv 4,Pv 10] [Xb 1 t0,(2,.box [cv (none:Option (bt 200 aA))]),Xb 3 (⟨0,0⟩:aa),(4,.box [iv 0]),Xb 10 (bt.Dm 200 (⟨⟨0,0⟩,⟨0,0⟩⟩:aA))]) [cv (none:Option (bt 200 aA))] (by simp only[ai,rX,lK,mV,lI,mY,nS,mZ,nZ,lU,mT,sq,n9,om,n7,ot,pX,qc,m6,nR];rfl) ?_
 refine aV 7 kg t0 fun x_1 h_1 => ?_
 exact bZ 4 (za x_1 t0 (none:Option (bt 200 aA)) (⟨0,0⟩:aa) 0 (bt.Dm 200 (⟨⟨0,0⟩,⟨0,0⟩⟩:aA))))
namespace d7
noncomputable def J1 (lq1:bt 200 aA) (out7:Sl aa) (p8:Sl Event) (xb5:aa):Option (Sl aa):=
 (idx p8 (IntKind.wrap .i64 (xb5.index-1))).bind fun x_1=>
 (ao (x_1.kind==2)
 ((bt.at lq1 x_1.message).bind fun x_2=>
 some (decide (x_2.to_.index>0)))
 (some false):Option Bool).bind fun x_3=>
 ao x_3
 ((bt.at lq1 x_1.message).bind fun x_4=>
 (gI out7 (x_4.to_:aa)).bind fun x_5=>
 some x_5)
 (some out7)
theorem jB (lq1:bt 200 aA) (out7:Sl aa) (p8:Sl Event) (xb5:aa):Le ((J1 lq1 out7 p8 xb5).bind (fun r=>some [enc r])) (au Sy cL (c6 t.rs) (bD t.body [1,1,1,1,0,0] [] (ai [Kv 1 lq1,Pv 5,Ov 7,Cv 8 p8] [Xb 5 xb5,Lb 2007 out7]))):=by
 unfold J1;refine bH 7 fun x_1 h_1 => ?_
 refine kZ 2 9 0 x_1 ?_;refine aY 8 10 [] (fun x_3=>(ai [Kv 1 lq1,Ov 7,Pv 9,Bv 50 x_3] [Xb 5 xb5,Lb 2007 out7,Xb 9 x_1])) ?_ fun x_3 => ?_
 ·refine aG 8 40 ?_ ?_
  ·refine Jd 4 .i64 fun x_2 h_2 => ?_
   refine G_ 0 2 lq1 x_1.message 0 x_2 h_2 ?_;refine G_ 0 1 lq1 x_1.message 2 x_2 h_2 ?_;refine IQ 0 1 false lq1 x_1.message 3 x_2 h_2 (.int .i64 x_2.to_.index) (by rfl) ?_
   exact aC 2
  ·exact aC 10
 ·refine aG 2 50 ?_ ?_
  ·refine Jd 7 .i64 fun x_4 h_4 => ?_
   refine G_ 0 2 lq1 x_1.message 0 x_4 h_4 ?_;refine IQ 0 2 true lq1 x_1.message 2 x_4 h_4 (enc x_4.to_) (by rfl) ?_
   refine tu 1 2007 59 60 fun x_5 h_5 => ?_
   exact ah
  ·exact ah
end d7
noncomputable def d7 (t0:Trace) (l1:bt 200 aA) (x2:aa):Option (Sl aa):=
 (idx t0.procs x2.proc).bind fun x_1=>
 ao (decide (x2.index<(len x_1.events)))
 (d7.J1 l1 (Sl.row [⟨x2.proc,IntKind.wrap .i64 (x2.index+1)⟩]:Sl aa) x_1.events x2)
 (d7.J1 l1 (Sl.nil:Sl aa) x_1.events x2)
open d7 in
theorem yN:aR Sy cL (bq 27) (fun z:Trace×(bt 200 aA)×aa=>[enc z.1,.fptr (cells z.2.1),enc z.2.2]) (fun r:Sl aa=>[enc r]) (fun z=>d7 z.1 z.2.1 z.2.2) false:=aR.yF d7.t (by
 rintro⟨t0,l1,x2⟩;show Le ((d7 t0 l1 x2).bind _) (au _ _ _ _);unfold d7;refine dJ 2 3 t0 ?_;refine bH 15 fun x_1 h_1 => ?_
 refine bK 11 x_1.events ?_;refine aG 3 21 ?_ ?_
 ·refine Jf 10 29 30 .ay (⟨x2.proc,IntKind.wrap .i64 (x2.index+1)⟩:aa) ?_;exact bZ 5 (jB l1 (Sl.row [⟨x2.proc,IntKind.wrap .i64 (x2.index+1)⟩]:Sl aa) x_1.events x2)
 ·exact bZ 5 (jB l1 (Sl.nil:Sl aa) x_1.events x2))
namespace c9
noncomputable def dB (vk0_13:Trace) (v36:Sl aa) (v37:Int) (tb2:Trace) (lb3:bt 200 aA) (vb4:aa) (vb5:Bool) (idb6:aa) (rest8:Sl aa) (v38:Int) (vb16:Mo aa Bool):Option (Fw ((Sl aa)×Int×(Mo aa Bool)) ((Sl aa)×(Mo aa Bool)) Unit):=
 ao (decide (v38<v37))
 ((idx v36 v38).bind fun x_1=>
 ao (Dh x_1 idb6)
 (some (.r ()))
 (ao (zj vb16 x_1 false)
 (some (.n (rest8,IntKind.wrap .i64 (v38+1),vb16)))
 ((gI rest8 (x_1:aa)).bind fun x_2=>
 some (.n (x_2,IntKind.wrap .i64 (v38+1),mO vb16 x_1 true)))))
 (some (.x (rest8,vb16)))
noncomputable def W3 (rest8:Sl aa) (vk0_13:Trace) (v36:Sl aa) (v37:Int) (v38:Int) (tb2:Trace) (lb3:bt 200 aA) (vb4:aa) (vb5:Bool) (idb6:aa) (vb16:Mo aa Bool):Option (Fw ((Sl aa)×(Mo aa Bool)) Unit Unit):=
 (bh (fun q:(Sl aa)×Int×(Mo aa Bool)=>dB vk0_13 v36 v37 tb2 lb3 vb4 vb5 idb6 q.1 q.2.1 q.2.2) (rest8,v38,vb16)).bind (Fw.elim
 (fun e=>some (.n (e.1,e.2)))
 (fun e=>some (.r ())))
def kH (vk0_13:Trace) (v36:Sl aa) (v37:Int) (tb2:Trace) (lb3:bt 200 aA) (vb4:aa) (vb5:Bool) (idb6:aa):(Sl aa)×Int×(Mo aa Bool)→St:=fun q=>⟨[Pv 2,Pv 3,Pv 4,Pv 5,Pv 6,(7,.mp 16),Ov 8,(13,.v (.clo (bq 17) [] [.fptr (cells vk0_13)])),Cv 36 v36,Iv 37 v37,Iv 38 q.2.1],[Xb 2 tb2,(3,.box [cp lb3]),Xb 4 vb4,(5,.box [bv vb5]),Xb 6 idb6,(16,mG q.2.2),Lb 2008 q.1],[2,3,4,5],[],true,0⟩
def kE (vk0_13:Trace) (v36:Sl aa) (v37:Int) (tb2:Trace) (lb3:bt 200 aA) (vb4:aa) (vb5:Bool) (idb6:aa):((Sl aa)×(Mo aa Bool))→Nat×St:=fun e=>(4,⟨[Pv 2,Pv 3,Pv 4,Pv 5,Pv 6,(7,.mp 16),Ov 8,(13,.v (.clo (bq 17) [] [.fptr (cells vk0_13)]))],[Xb 2 tb2,(3,.box [cp lb3]),Xb 4 vb4,(5,.box [bv vb5]),Xb 6 idb6,(16,mG e.2),Lb 2008 e.1],[2,3,4,5],[],true,0⟩)
def kF (vk0_13:Trace) (v36:Sl aa) (v37:Int) (tb2:Trace) (lb3:bt 200 aA) (vb4:aa) (vb5:Bool) (idb6:aa):Unit→St:=fun e=>⟨[],[Xb 2 tb2,(3,.box [cp lb3]),Xb 4 idb6,(5,.box [bv true])],[2,3,4,5],[],true,0⟩
noncomputable def aM (vk0_13:Trace) (tb2:Trace) (lb3:bt 200 aA) (vb4:aa) (vb5:Bool) (idb6:aa) (rest8:Sl aa) (vb16:Mo aa Bool):Option (Fw ((Sl aa)×(Mo aa Bool)) Unit Unit):=
 ao (decide ((len rest8)>0))
 ((Sl.lW rest8 (IntKind.wrap .i64 ((len rest8)-1))).bind fun x_1=>
 (Sl.get rest8 x_1).bind fun x_2=>
 (kn rest8 none (some (IntKind.wrap .i64 ((len rest8)-1)))).bind fun x_3=>
 (d7 tb2 lb3 x_2).bind fun x_4=>
 W3 x_3 vk0_13 x_4 (len x_4) 0 tb2 lb3 vb4 vb5 idb6 vb16)
 (some (.x ()))
noncomputable def W2 (rest8:Sl aa) (vk0_13:Trace) (tb2:Trace) (lb3:bt 200 aA) (vb4:aa) (vb5:Bool) (idb6:aa) (vb16:Mo aa Bool):Option (Fw Unit Empty aa):=
 (bh (fun q:(Sl aa)×(Mo aa Bool)=>aM vk0_13 tb2 lb3 vb4 vb5 idb6 q.1 q.2) (rest8,vb16)).bind (Fw.elim
 (fun e=>some (.n ()))
 (fun e=>some (.r idb6)))
def d6 (vk0_13:Trace) (tb2:Trace) (lb3:bt 200 aA) (vb4:aa) (vb5:Bool) (idb6:aa):(Sl aa)×(Mo aa Bool)→St:=fun q=>⟨[Pv 2,Pv 3,Pv 4,Pv 5,Pv 6,(7,.mp 16),Ov 8,(13,.v (.clo (bq 17) [] [.fptr (cells vk0_13)]))],[Xb 2 tb2,(3,.box [cp lb3]),Xb 4 vb4,(5,.box [bv vb5]),Xb 6 idb6,(16,mG q.2),Lb 2008 q.1],[2,3,4,5],[],true,0⟩
def d4 (vk0_13:Trace) (tb2:Trace) (lb3:bt 200 aA) (vb4:aa) (vb5:Bool) (idb6:aa):Unit→Nat×St:=fun e=>(2,⟨[Pv 2,Pv 3,Pv 4,Pv 5,(13,.v (.clo (bq 17) [] [.fptr (cells vk0_13)]))],[Xb 2 tb2,(3,.box [cp lb3]),Xb 4 vb4,(5,.box [bv vb5])],[2,3,4,5],[],true,0⟩)
def dZ (vk0_13:Trace) (tb2:Trace) (lb3:bt 200 aA) (vb4:aa) (vb5:Bool) (idb6:aa):Unit→St:=fun e=>⟨[],[Xb 2 tb2,(3,.box [cp lb3]),Xb 4 idb6,(5,.box [bv true])],[2,3,4,5],[],true,0⟩
noncomputable def iB (vk0_13:Trace) (tb2:Trace) (lb3:bt 200 aA) (vb4:aa) (vb5:Bool) (x:aa×Event):Option (Fw Unit Empty aa):=
 W2 (Sl.row [x.1]:Sl aa) vk0_13 tb2 lb3 vb4 vb5 x.1 []
noncomputable def E1 (vk0_13:Trace) (tb2:Trace) (lb3:bt 200 aA) (vb4:aa) (vb5:Bool):Option (aa×Bool):=
 (gr vk0_13).bind fun its=>(jZ (fun (x:aa×Event) (q:Unit)=>iB vk0_13 tb2 lb3 vb4 vb5 x) its ()).bind (Fw.qV
 (fun q=>some (⟨0,0⟩,false))
 (fun e=>Empty.elim e)
 (fun e=>some (e,true)))
def sH (vk0_13:Trace) (tb2:Trace) (lb3:bt 200 aA) (vb4:aa) (vb5:Bool):Unit→Tb aL:=fun q=>[Xb 2 tb2,(3,.box [cp lb3]),Xb 4 vb4,(5,.box [bv vb5])]
def sD (vk0_13:Trace) (tb2:Trace) (lb3:bt 200 aA) (vb4:aa) (vb5:Bool):Empty→Nat×Tb aL:=fun e=>Empty.elim e
def sF (vk0_13:Trace) (tb2:Trace) (lb3:bt 200 aA) (vb4:aa) (vb5:Bool):aa→Tb aL:=fun e=>[Xb 2 tb2,(3,.box [cp lb3]),Xb 4 e,(5,.box [bv true])]
theorem gO (vk0_13:Trace) (v36:Sl aa) (v37:Int) (tb2:Trace) (lb3:bt 200 aA) (vb4:aa) (vb5:Bool) (idb6:aa) (rest8:Sl aa) (v38:Int) (vb16:Mo aa Bool):Le ((dB vk0_13 v36 v37 tb2 lb3 vb4 vb5 idb6 rest8 v38 vb16).bind (fun w=>some (Fw.out (kH vk0_13 v36 v37 tb2 lb3 vb4 vb5 idb6) (kE vk0_13 v36 v37 tb2 lb3 vb4 vb5 idb6) (kF vk0_13 v36 v37 tb2 lb3 vb4 vb5 idb6) w))) (au Sy cL some (.rc (bL t.body [1,0,1,0,0,0,0,0,1,1,0,0,0,0,0,0,1,0,1,1,1,0,0,0]),[],⟨[Pv 2,Pv 3,Pv 4,Pv 5,Pv 6,(7,.mp 16),Ov 8,(13,.v (.clo (bq 17) [] [.fptr (cells vk0_13)])),Cv 36 v36,Iv 37 v37,Iv 38 v38],[Xb 2 tb2,(3,.box [cp lb3]),Xb 4 vb4,(5,.box [bv vb5]),Xb 6 idb6,(16,mG vb16),Lb 2008 rest8],[2,3,4,5],[],true,0⟩)):=by
 unfold dB;refine aG 8 39 ?_ ?_
 ·refine bH 7 fun x_1 h_1 => ?_
  refine aG 13 44 ?_ ?_
  ·exact ah
  ·refine Oj 7 16 vb16 x_1 false ?_;refine dy 3 49 ?_ ?_
   ·exact ah
   ·refine TY 5 16 vb16 x_1 true ?_;refine tu 6 2008 54 55 fun x_2 h_2 => ?_
    exact ah
 ·exact ah
theorem nG (rest8:Sl aa) (vk0_13:Trace) (v36:Sl aa) (v37:Int) (v38:Int) (tb2:Trace) (lb3:bt 200 aA) (vb4:aa) (vb5:Bool) (idb6:aa) (vb16:Mo aa Bool):Le ((W3 rest8 vk0_13 v36 v37 v38 tb2 lb3 vb4 vb5 idb6 vb16).bind (fun w=>some (Fw.out (d6 vk0_13 tb2 lb3 vb4 vb5 idb6) (d4 vk0_13 tb2 lb3 vb4 vb5 idb6) (dZ vk0_13 tb2 lb3 vb4 vb5 idb6) w))) (au Sy cL some (bD t.body [1,0,1,0,0,0,0,0,1,1,0,0,0,0,0,0,1,0,1,1,1,0,0,0] [] ⟨[Pv 2,Pv 3,Pv 4,Pv 5,Pv 6,(7,.mp 16),Ov 8,(13,.v (.clo (bq 17) [] [.fptr (cells vk0_13)])),Cv 36 v36,Iv 37 v37,Iv 38 v38],[Xb 2 tb2,(3,.box [cp lb3]),Xb 4 vb4,(5,.box [bv vb5]),Xb 6 idb6,(16,mG vb16),Lb 2008 rest8],[2,3,4,5],[],true,0⟩)):=by
 unfold W3;refine cu (kH vk0_13 v36 v37 tb2 lb3 vb4 vb5 idb6) (kE vk0_13 v36 v37 tb2 lb3 vb4 vb5 idb6) (kF vk0_13 v36 v37 tb2 lb3 vb4 vb5 idb6) (fun q=>gO vk0_13 v36 v37 tb2 lb3 vb4 vb5 idb6 q.1 q.2.1 q.2.2) ?_ ?_
 ·intro e;exact ah
 ·intro e;exact ah
theorem ct (vk0_13:Trace) (tb2:Trace) (lb3:bt 200 aA) (vb4:aa) (vb5:Bool) (idb6:aa) (rest8:Sl aa) (vb16:Mo aa Bool):Le ((aM vk0_13 tb2 lb3 vb4 vb5 idb6 rest8 vb16).bind (fun w=>some (Fw.out (d6 vk0_13 tb2 lb3 vb4 vb5 idb6) (d4 vk0_13 tb2 lb3 vb4 vb5 idb6) (dZ vk0_13 tb2 lb3 vb4 vb5 idb6) w))) (au Sy cL some (.rc (bL t.body [1,0,1,0,0,0,0,0,1,1,0,0,0]),[],⟨[Pv 2,Pv 3,Pv 4,Pv 5,Pv 6,(7,.mp 16),Ov 8,(13,.v (.clo (bq 17) [] [.fptr (cells vk0_13)]))],[Xb 2 tb2,(3,.box [cp lb3]),Xb 4 vb4,(5,.box [bv vb5]),Xb 6 idb6,(16,mG vb16),Lb 2008 rest8],[2,3,4,5],[],true,0⟩)):=by
 unfold aM;refine EL 6 2008 rest8 ?_;refine aG 3 21 ?_ ?_
 ·refine EL 8 2008 rest8 ?_;refine tn .i64 1 2008 fun x_1 h_1 => ?_
  refine zD 0 2008 0 2 true (fun x_2=>.agg [.int .i64 x_2.proc,.int .i64 x_2.index]) fun x_2 h_2 => ?_
  refine EL 8 2008 rest8 ?_;refine O4 1 false true 2008 32 [.int .i64 (IntKind.wrap .i64 ((len rest8)-1))] fun x_3 h_3 => ?_
  refine aV 8 yN (tb2,lb3,x_2) fun x_4 h_4 => ?_
  refine bK 0 x_4 ?_;exact bZ 6 (nG x_3 vk0_13 x_4 (len x_4) 0 tb2 lb3 vb4 vb5 idb6 vb16)
 ·exact ah
theorem fK (rest8:Sl aa) (vk0_13:Trace) (tb2:Trace) (lb3:bt 200 aA) (vb4:aa) (vb5:Bool) (idb6:aa) (vb16:Mo aa Bool):Le ((W2 rest8 vk0_13 tb2 lb3 vb4 vb5 idb6 vb16).bind (fun w=>some (Fw.lx (sH vk0_13 tb2 lb3 vb4 vb5) (sD vk0_13 tb2 lb3 vb4 vb5) (sF vk0_13 tb2 lb3 vb4 vb5) w))) (au Sy cL lx (bD t.body [1,0,1,0,0,0,0,0,1,1,0,0,0] [] ⟨[Pv 2,Pv 3,Pv 4,Pv 5,Pv 6,(7,.mp 16),Ov 8,(13,.v (.clo (bq 17) [] [.fptr (cells vk0_13)]))],[Xb 2 tb2,(3,.box [cp lb3]),Xb 4 vb4,(5,.box [bv vb5]),Xb 6 idb6,(16,mG vb16),Lb 2008 rest8],[2,3,4,5],[],true,0⟩)):=by
 unfold W2;refine cu (d6 vk0_13 tb2 lb3 vb4 vb5 idb6) (d4 vk0_13 tb2 lb3 vb4 vb5 idb6) (dZ vk0_13 tb2 lb3 vb4 vb5 idb6) (fun q=>ct vk0_13 tb2 lb3 vb4 vb5 idb6 q.1 q.2) ?_ ?_
 ·intro e;exact ah
 ·intro e;exact ah
theorem nJ (vk0_13:Trace) (tb2:Trace) (lb3:bt 200 aA) (vb4:aa) (vb5:Bool) (x:aa×Event):Le ((iB vk0_13 tb2 lb3 vb4 vb5 x).bind (fun w=>some (Fw.lx (sH vk0_13 tb2 lb3 vb4 vb5) (sD vk0_13 tb2 lb3 vb4 vb5) (sF vk0_13 tb2 lb3 vb4 vb5) w))) (au Sy cL (nN Sy cL (iA t.body [1,0,1,0,0]).2.2.2) (.rc (iA t.body [1,0,1,0,0]).2.2.1,[],⟨[Pv 2,Pv 3,Pv 4,Pv 5,(13,.v (.clo (bq 17) [] [.fptr (cells vk0_13)])),Cv 14 x.1,Cv 15 x.2],[Xb 2 tb2,(3,.box [cp lb3]),Xb 4 vb4,(5,.box [bv vb5])],[2,3,4,5],[],true,0⟩)):=by
 unfold iB;refine yZ 4 ?_;exact bZ 18 (fK (Sl.row [x.1]:Sl aa) vk0_13 tb2 lb3 vb4 vb5 x.1 [])
theorem za (vk0_13:Trace) (tb2:Trace) (lb3:bt 200 aA) (vb4:aa) (vb5:Bool):Le ((E1 vk0_13 tb2 lb3 vb4 vb5).bind (fun r=>some [enc r.1,.bool r.2])) (au Sy cL (c6 t.rs) (bD t.body [1,0,1,0,0] [] (ai [Pv 2,Pv 3,Pv 4,Pv 5,(13,.v (.clo (bq 17) [] [.fptr (cells vk0_13)]))] [Xb 2 tb2,(3,.box [cp lb3]),Xb 4 vb4,(5,.box [bv vb5])]))):=by
 unfold E1;refine Ez fun its hits => ?_
 refine AT [Pv 2,Pv 3,Pv 4,Pv 5,(13,.v (.clo (bq 17) [] [.fptr (cells vk0_13)]))] (sH vk0_13 tb2 lb3 vb4 vb5) (sD vk0_13 tb2 lb3 vb4 vb5) (sF vk0_13 tb2 lb3 vb4 vb5) (sS vk0_13 its hits) (fun x q=>IF (by kernel_rfl) (nJ vk0_13 tb2 lb3 vb4 vb5 x)) ?_ ?_ ?_
 ·intro q;exact ah
 ·intro e;exact Empty.elim e
 ·intro e;exact ah
end c9
noncomputable def c9 (t0:Trace) (l1:bt 200 aA):Option (aa×Bool):=
 (ey t0).bind fun x_1=>
 c9.E1 x_1 t0 l1 (⟨0,0⟩:aa) false
open c9 in
theorem wu:aR Sy cL (bq 28) (fun z:Trace×(bt 200 aA)=>[enc z.1,.fptr (cells z.2)]) (fun r:aa×Bool=>[enc r.1,.bool r.2]) (fun z=>c9 z.1 z.2) true:=aR.dA c9.t (by
 rintro⟨t0,l1⟩;show Le ((c9 t0 l1).bind _) (au _ _ _ _);unfold c9;refine dJ 2 2 t0 ?_;refine aV 9 kg t0 fun x_1 h_1 => ?_
 exact bZ 4 (za x_1 t0 l1 (⟨0,0⟩:aa) false))
namespace dH
noncomputable def uZ (vk0_36:Trace) (tb1:Trace) (vb2:aa) (vb3:Int) (x:aa×Event):Option (Fw Unit Empty (aa×Int)):=
 (a_ tb1 x.1 x.2).bind fun x_1=>
 ao (x_1==0)
 (some (.n ()))
 (some (.r (x.1,x_1)))
noncomputable def E2 (vk0_36:Trace) (tb1:Trace) (vb2:aa) (vb3:Int):Option (aa×Int):=
 (gr vk0_36).bind fun its=>(jZ (fun (x:aa×Event) (q:Unit)=>uZ vk0_36 tb1 vb2 vb3 x) its ()).bind (Fw.qV
 (fun q=>(b7 tb1).bind fun x_1=>
 ao (x_1.2.2==0)
 ((x_1.1).bind fun x_2=>
 (c9 tb1 x_2).bind fun x_3=>
 ao x_3.2
 (some (x_3.1,10))
 (some (⟨0,0⟩,0)))
 (some (x_1.2.1,x_1.2.2)))
 (fun e=>Empty.elim e)
 (fun e=>some (e.1,e.2)))
def KM (vk0_36:Trace) (tb1:Trace) (vb2:aa) (vb3:Int):Unit→Tb aL:=fun q=>[Xb 1 tb1,Xb 2 vb2,(3,.box [iv vb3])]
def Mq (vk0_36:Trace) (tb1:Trace) (vb2:aa) (vb3:Int):Empty→Nat×Tb aL:=fun e=>Empty.elim e
def L0 (vk0_36:Trace) (tb1:Trace) (vb2:aa) (vb3:Int):aa×Int→Tb aL:=fun e=>[Xb 1 tb1,Xb 2 e.1,(3,.box [iv e.2])]
noncomputable def aj (v22:Int) (tb1:Trace) (vb2:aa) (vb3:Int) (v23:Int):Option (Fw Int Unit (aa×Int)):=
 ao (decide (v23<v22))
 ((bA tb1 v23).bind fun x_1=>
 ao (x_1==0)
 (some (.n (IntKind.wrap .i64 (v23+1))))
 (some (.r ((⟨v23,0⟩:aa),x_1))))
 (some (.x ()))
noncomputable def W1 (v22:Int) (v23:Int) (tb1:Trace) (vb2:aa) (vb3:Int):Option (aa×Int):=
 (bh (fun q:Int=>aj v22 tb1 vb2 vb3 q) v23).bind (Fw.elim
 (fun e=>(ey tb1).bind fun x_1=>
 dH.E2 x_1 tb1 vb2 vb3)
 (fun e=>some (e.1,e.2)))
def bm (v22:Int) (tb1:Trace) (vb2:aa) (vb3:Int):Int→St:=fun q=>(ai [Pv 1,Pv 2,Pv 3,Iv 22 v22,Iv 23 q] [Xb 1 tb1,Xb 2 vb2,(3,.box [iv vb3])])
def bp (v22:Int) (tb1:Trace) (vb2:aa) (vb3:Int):Unit→Nat×St:=fun e=>(0,(ai [Pv 1,Pv 2,Pv 3] [Xb 1 tb1,Xb 2 vb2,(3,.box [iv vb3])]))
def bn (v22:Int) (tb1:Trace) (vb2:aa) (vb3:Int):aa×Int→St:=fun e=>(ai [Pv 2,Pv 3] [Xb 2 e.1,(3,.box [iv e.2])])
theorem Dw (vk0_36:Trace) (tb1:Trace) (vb2:aa) (vb3:Int) (x:aa×Event):Le ((uZ vk0_36 tb1 vb2 vb3 x).bind (fun w=>some (Fw.lx (KM vk0_36 tb1 vb2 vb3) (Mq vk0_36 tb1 vb2 vb3) (L0 vk0_36 tb1 vb2 vb3) w))) (au Sy cL (nN Sy cL (iA t.body [1,1,1,0,1,0,0]).2.2.2) (.rc (iA t.body [1,1,1,0,1,0,0]).2.2.1,[],⟨[Pv 1,Pv 2,Pv 3,(36,.v (.clo (bq 17) [] [.fptr (cells vk0_36)])),Cv 37 x.1,Cv 38 x.2],[Xb 1 tb1,Xb 2 vb2,(3,.box [iv vb3])],[1,2,3],[],true,0⟩)):=by
 unfold uZ;refine kZ 8 7 0 x.2 ?_;refine yZ 1 ?_;refine aV 7 sZ (tb1,x.1,x.2) fun x_1 h_1 => ?_
 refine dy 9 44 ?_ ?_
 ·exact ah
 ·exact ah
theorem OH (vk0_36:Trace) (tb1:Trace) (vb2:aa) (vb3:Int):Le ((E2 vk0_36 tb1 vb2 vb3).bind (fun r=>some [enc r.1,.int .i64 r.2])) (au Sy cL (c6 t.rs) (bD t.body [1,1,1,0,1,0,0] [] (ai [Pv 1,Pv 2,Pv 3,(36,.v (.clo (bq 17) [] [.fptr (cells vk0_36)]))] [Xb 1 tb1,Xb 2 vb2,(3,.box [iv vb3])]))):=by
 unfold E2;refine Ez fun its hits => ?_
 refine AT [Pv 1,Pv 2,Pv 3,(36,.v (.clo (bq 17) [] [.fptr (cells vk0_36)]))] (KM vk0_36 tb1 vb2 vb3) (Mq vk0_36 tb1 vb2 vb3) (L0 vk0_36 tb1 vb2 vb3) (sS vk0_36 its hits) (fun x q=>IF (by kernel_rfl) (Dw vk0_36 tb1 vb2 vb3 x)) ?_ ?_ ?_
 ·intro q;refine aV 5 rE tb1 fun x_1 h_1 => ?_
  refine dy 17 54 ?_ ?_
  ·refine Ud 8 (fun oo=>(ai [Pv 2,Pv 3,(36,.v (.clo (bq 17) [] [.fptr (cells vk0_36)])),Pv 10,Iv 11 x_1.2.2,Bv 54 false,Cv 58 tb1,Cv 59 oo] [Xb 1 tb1,Xb 2 vb2,(3,.box [iv vb3]),Xb 10 x_1.2.1])) fun x_2 h_2 => ?_
   refine aV 0 wu (tb1,x_2) fun x_3 h_3 => ?_
   refine aG 13 63 ?_ ?_
   ·exact ah
   ·exact ah
  ·exact ah
 ·intro e;exact Empty.elim e
 ·intro e;exact ah
theorem aF (v22:Int) (tb1:Trace) (vb2:aa) (vb3:Int) (v23:Int):Le ((aj v22 tb1 vb2 vb3 v23).bind (fun w=>some (Fw.out (bm v22 tb1 vb2 vb3) (bp v22 tb1 vb2 vb3) (bn v22 tb1 vb2 vb3) w))) (au Sy cL some (.rc (bL t.body [1,1,0,1,0,0]),[],(ai [Pv 1,Pv 2,Pv 3,Iv 22 v22,Iv 23 v23] [Xb 1 tb1,Xb 2 vb2,(3,.box [iv vb3])]))):=by
 unfold aj;refine aG 7 24 ?_ ?_
 ·refine aV 15 rC (tb1,v23) fun x_1 h_1 => ?_
  refine dy 9 30 ?_ ?_
  ·exact ah
  ·exact ah
 ·exact ah
theorem bW (v22:Int) (v23:Int) (tb1:Trace) (vb2:aa) (vb3:Int):Le ((W1 v22 v23 tb1 vb2 vb3).bind (fun r=>some [enc r.1,.int .i64 r.2])) (au Sy cL (c6 t.rs) (bD t.body [1,1,0,1,0,0] [] (ai [Pv 1,Pv 2,Pv 3,Iv 22 v22,Iv 23 v23] [Xb 1 tb1,Xb 2 vb2,(3,.box [iv vb3])]))):=by
 unfold W1;refine cu (bm v22 tb1 vb2 vb3) (bp v22 tb1 vb2 vb3) (bn v22 tb1 vb2 vb3) (fun q=>aF v22 tb1 vb2 vb3 q) ?_ ?_
 ·intro e;refine aV 6 kg tb1 fun x_1 h_1 => ?_
  exact bZ 4 (OH x_1 tb1 vb2 vb3)
 ·intro e;exact ah
end dH
noncomputable def dH (t0:Trace):Option (aa×Int):=
 (gj (len t0.procs) 1 8).bind fun x_1=>
 ao x_1
 (dH.W1 (len t0.procs) 0 t0 (⟨0,0⟩:aa) 0)
 (some (⟨0,0⟩,1))
open dH in
theorem yV:aR Sy cL (bq 29) (fun z:Trace=>[enc z]) (fun r:aa×Int=>[enc r.1,.int .i64 r.2]) (fun z=>dH z) true:=aR.dA dH.t (by
 intro t0;show Le ((dH t0).bind _) (au _ _ _ _);unfold dH;refine dJ 2 1 t0 ?_;refine bK 9 t0.procs ?_;refine aV 0 je (len t0.procs,1,8) fun x_1 h_1 => ?_
 refine dy 3 18 ?_ ?_
 ·refine bK 8 t0.procs ?_;exact bZ 5 (bW (len t0.procs) 0 t0 (⟨0,0⟩:aa) 0)
 ·exact ah)
noncomputable def bX (t0:Trace):Option Bool:=
 (dH t0).bind fun x_1=>
 some (x_1.2==0)
theorem nq:aR Sy cL (bq 30) (fun z:Trace=>[enc z]) (fun r:Bool=>[.bool r]) (fun z=>bX z) true:=aR.dA bX.t (by
 intro t0;show Le ((bX t0).bind _) (au _ _ _ _);unfold bX;refine dJ 2 1 t0 ?_;refine aV 6 yV t0 fun x_1 h_1 => ?_
 exact ah)
noncomputable def fh (c0:Sl Int) (v1:Trace):Option Bool:=
 some (!((len c0)==(len v1.procs)))
theorem xh:aR Sy cL (bq 36) (fun z:(Sl Int)×Trace=>[enc z.1,.fptr (cells z.2)]) (fun r:Bool=>[.bool r]) (fun z=>fh z.1 z.2) true:=aR.dA fh.t (by
 rintro⟨c0,v1⟩;show Le ((fh c0 v1).bind _) (au _ _ _ _);unfold fh;refine bK 8 c0 ?_;refine bK 2 v1.procs ?_;exact ah)
namespace cD
noncomputable def aj (s0:Sl (Sl Int)) (v7:Int) (v8:Int) (p1:(Sl Int)→Option Bool):Option (Fw Int Unit Int):=
 ao (decide (v8<v7))
 ((idx s0 v8).bind fun x_1=>
 (p1 x_1).bind fun x_2=>
 ao x_2
 (some (.r v8))
 (some (.n (IntKind.wrap .i64 (v8+1)))))
 (some (.x ()))
noncomputable def W1 (s0:Sl (Sl Int)) (v7:Int) (v8:Int) (p1:(Sl Int)→Option Bool):Option Int:=
 (bh (fun q:Int=>aj s0 v7 q p1) v8).bind (Fw.elim
 (fun e=>some (-1))
 (fun e=>some e))
def bm (g1:FuncId) (e1:List V) (s0:Sl (Sl Int)) (v7:Int):Int→St:=fun q=>(ai [Cv 0 s0,(1,.v (.clo g1 [] e1)),Iv 7 v7,Iv 8 q] [])
def bp (g1:FuncId) (e1:List V) (s0:Sl (Sl Int)) (v7:Int):Unit→Nat×St:=fun e=>(0,(ai [] []))
def bn (g1:FuncId) (e1:List V) (s0:Sl (Sl Int)) (v7:Int):Int→St:=fun e=>(ai [Iv 4 e] [])
theorem aF (g1:FuncId) (e1:List V) (p1:(Sl Int)→Option Bool) (h1:iy Sy cL g1 e1 (fun z:Sl Int=>[enc z]) (fun r:Bool=>[.bool r]) p1) (s0:Sl (Sl Int)) (v7:Int) (v8:Int):Le ((aj s0 v7 v8 p1).bind (fun w=>some (Fw.out (bm g1 e1 s0 v7) (bp g1 e1 s0 v7) (bn g1 e1 s0 v7) w))) (au Sy cL some (.rc (bL t.body [1,0,1,0,0]),[],(ai [Cv 0 s0,(1,.v (.clo g1 [] e1)),Iv 7 v7,Iv 8 v8] []))):=by
 unfold aj;refine aG 7 9 ?_ ?_
 ·refine bH 16 fun x_1 h_1 => ?_
  refine aV 1 h1.f x_1 fun x_2 h_2 => ?_
  refine aG 2 16 ?_ ?_
  ·exact ah
  ·exact ah
 ·exact ah
theorem bW (g1:FuncId) (e1:List V) (p1:(Sl Int)→Option Bool) (h1:iy Sy cL g1 e1 (fun z:Sl Int=>[enc z]) (fun r:Bool=>[.bool r]) p1) (s0:Sl (Sl Int)) (v7:Int) (v8:Int):Le ((W1 s0 v7 v8 p1).bind (fun r=>some [.int .i64 r])) (au Sy cL (c6 t.rs) (bD t.body [1,0,1,0,0] [] (ai [Cv 0 s0,(1,.v (.clo g1 [] e1)),Iv 7 v7,Iv 8 v8] []))):=by
 unfold W1;refine cu (bm g1 e1 s0 v7) (bp g1 e1 s0 v7) (bn g1 e1 s0 v7) (fun q=>aF g1 e1 p1 h1 s0 v7 q) ?_ ?_
 ·intro e;exact ah
 ·intro e;exact ah
end cD
noncomputable def cD (s0:Sl (Sl Int)) (p1:(Sl Int)→Option Bool):Option Int:=
 cD.W1 s0 (len s0) 0 p1
open cD in
theorem pN (g1:FuncId) (e1:List V) (p1:(Sl Int)→Option Bool) (h1:iy Sy cL g1 e1 (fun z:Sl Int=>[enc z]) (fun r:Bool=>[.bool r]) p1):aR Sy cL (bq 37) (fun z:Sl (Sl Int)=>[enc z,.clo g1 [] e1]) (fun r:Int=>[.int .i64 r]) (fun z=>cD z p1) true:=aR.dA cD.t (by
 intro s0;show Le ((cD s0 p1).bind _) (au _ _ _ _);unfold cD;refine bK 9 s0 ?_;exact bZ 5 (bW g1 e1 p1 h1 s0 (len s0) 0)) (l:=by intro z;simp[h1.d])
noncomputable def cG (s0:Sl (Sl Int)) (p1:(Sl Int)→Option Bool):Option Bool:=
 (cD s0 p1).bind fun x_1=>
 some (decide (x_1≥0))
theorem jT (g1:FuncId) (e1:List V) (p1:(Sl Int)→Option Bool) (h1:iy Sy cL g1 e1 (fun z:Sl Int=>[enc z]) (fun r:Bool=>[.bool r]) p1):aR Sy cL (bq 38) (fun z:Sl (Sl Int)=>[enc z,.clo g1 [] e1]) (fun r:Bool=>[.bool r]) (fun z=>cG z p1) true:=aR.dA cG.t (by
 intro s0;show Le ((cG s0 p1).bind _) (au _ _ _ _);unfold cG;refine aV 9 (pN g1 e1 p1 h1) s0 fun x_1 h_1 => ?_
 exact ah) (l:=by intro z;simp[h1.d])
noncomputable def iR (t0:Trace) (l1:Sl (Sl Int)):Option Bool:=
 (bX t0).bind fun x_1=>
 (ao x_1
 ((cG l1 (fun z=>fh z t0)).bind fun x_2=>
 some (!x_2))
 (some false):Option Bool).bind fun x_3=>
 some x_3
theorem AP:aR Sy cL (bq 39) (fun z:Trace×(Sl (Sl Int))=>[enc z.1,enc z.2]) (fun r:Bool=>[.bool r]) (fun z=>iR z.1 z.2) true:=aR.dA iR.t (by
 rintro⟨t0,l1⟩;show Le ((iR t0 l1).bind _) (au _ _ _ _);unfold iR;refine dJ 2 2 t0 ?_;refine aV 6 nq t0 fun x_1 h_1 => ?_
 refine aY 1 5 [] (fun x_3=>(ai [Bv 12 x_3] [Xb 2 t0])) ?_ fun x_3 => ?_
 ·refine aG 1 7 ?_ ?_
  ·refine jE 2 (jT (bq 36) [.fptr (cells t0)] (fun z=>fh z t0) (iy.of (xh) (fun z=>(z,t0)) (fun _=>rfl) (fun _=>rfl) (by simp))) l1 fun x_2 h_2 => ?_
   exact aC 2
  ·exact aC 5
 ·exact ah)
namespace eE
noncomputable def aj (v7:Sl Int) (v8:Int) (tb2:Trace) (v9:Int):Option (Fw Int Unit Unit):=
 ao (decide (v9<v8))
 ((idx v7 v9).bind fun x_1=>
 (ao (decide (x_1<0))
 (some true)
 ((idx tb2.procs v9).bind fun x_2=>
 some (decide (x_1>(len x_2.events)))):Option Bool).bind fun x_3=>
 ao x_3
 (some (.r ()))
 (some (.n (IntKind.wrap .i64 (v9+1)))))
 (some (.x ()))
noncomputable def W1 (v7:Sl Int) (v8:Int) (v9:Int) (tb2:Trace):Option Bool:=
 (bh (fun q:Int=>aj v7 v8 tb2 q) v9).bind (Fw.elim
 (fun e=>some true)
 (fun e=>some false))
def bm (v7:Sl Int) (v8:Int) (tb2:Trace):Int→St:=fun q=>(ai [Pv 2,Cv 7 v7,Iv 8 v8,Iv 9 q] [Xb 2 tb2])
def bp (v7:Sl Int) (v8:Int) (tb2:Trace):Unit→Nat×St:=fun e=>(0,(ai [] []))
def bn (v7:Sl Int) (v8:Int) (tb2:Trace):Unit→St:=fun e=>(ai [Bv 4 false] [])
theorem aF (v7:Sl Int) (v8:Int) (tb2:Trace) (v9:Int):Le ((aj v7 v8 tb2 v9).bind (fun w=>some (Fw.out (bm v7 v8 tb2) (bp v7 v8 tb2) (bn v7 v8 tb2) w))) (au Sy cL some (.rc (bL t.body [1,0,1,0,0]),[],(ai [Pv 2,Cv 7 v7,Iv 8 v8,Iv 9 v9] [Xb 2 tb2]))):=by
 unfold aj;refine aG 7 10 ?_ ?_
 ·refine bH 8 fun x_1 h_1 => ?_
  refine aY 10 10 [] (fun x_3=>(ai [Pv 2,Cv 7 v7,Iv 8 v8,Iv 9 v9,Bv 10 true,Bv 26 x_3] [Xb 2 tb2])) ?_ fun x_3 => ?_
  ·refine aG 10 16 ?_ ?_
   ·exact aC 10
   ·refine bH 4 fun x_2 h_2 => ?_
    refine bK 2 x_2.events ?_;exact aC 2
  ·refine aG 2 26 ?_ ?_
   ·exact ah
   ·exact ah
 ·exact ah
theorem bW (v7:Sl Int) (v8:Int) (v9:Int) (tb2:Trace):Le ((W1 v7 v8 v9 tb2).bind (fun r=>some [.bool r])) (au Sy cL (c6 t.rs) (bD t.body [1,0,1,0,0] [] (ai [Pv 2,Cv 7 v7,Iv 8 v8,Iv 9 v9] [Xb 2 tb2]))):=by
 unfold W1;refine cu (bm v7 v8 tb2) (bp v7 v8 tb2) (bn v7 v8 tb2) (fun q=>aF v7 v8 tb2 q) ?_ ?_
 ·intro e;exact ah
 ·intro e;exact ah
end eE
noncomputable def eE (t0:Trace) (c1:Sl Int):Option Bool:=
 eE.W1 c1 (len c1) 0 t0
open eE in
theorem xZ:aR Sy cL (bq 40) (fun z:Trace×(Sl Int)=>[enc z.1,enc z.2]) (fun r:Bool=>[.bool r]) (fun z=>eE z.1 z.2) true:=aR.dA eE.t (by
 rintro⟨t0,c1⟩;show Le ((eE t0 c1).bind _) (au _ _ _ _);unfold eE;refine dJ 2 2 t0 ?_;refine bK 7 c1 ?_;exact bZ 5 (bW c1 (len c1) 0 t0))
noncomputable def iS (t0:Trace) (p1:Int):Option Bool:=
 (ao (decide (p1≥0))
 (some (decide (p1<(len t0.procs))))
 (some false):Option Bool).bind fun x_1=>
 some x_1
theorem xN:aR Sy cL (bq 41) (fun z:Trace×Int=>[enc z.1,.int .i64 z.2]) (fun r:Bool=>[.bool r]) (fun z=>iS z.1 z.2) true:=aR.dA iS.t (by
 rintro⟨t0,p1⟩;show Le ((iS t0 p1).bind _) (au _ _ _ _);unfold iS;refine dJ 2 2 t0 ?_;refine aY 8 6 [] (fun x_1=>(ai [Bv 13 x_1] [Xb 2 t0])) ?_ fun x_1 => ?_
 ·refine aG 8 7 ?_ ?_
  ·refine bK 3 t0.procs ?_;exact aC 2
  ·exact aC 6
 ·exact ah)
namespace e9
noncomputable def iB (vk0_15:Trace) (kindb4:Int) (mb5:Int) (vb6:aa) (vb7:Bool) (x:aa×Event):Option (Fw Unit Empty aa):=
 (ao (x.2.kind==kindb4)
 (some (x.2.message==mb5))
 (some false):Option Bool).bind fun x_1=>
 ao x_1
 (some (.r x.1))
 (some (.n ()))
noncomputable def E1 (vk0_15:Trace) (kindb4:Int) (mb5:Int) (vb6:aa) (vb7:Bool):Option (aa×Bool):=
 (gr vk0_15).bind fun its=>(jZ (fun (x:aa×Event) (q:Unit)=>iB vk0_15 kindb4 mb5 vb6 vb7 x) its ()).bind (Fw.qV
 (fun q=>some (⟨0,0⟩,false))
 (fun e=>Empty.elim e)
 (fun e=>some (e,true)))
def sH (vk0_15:Trace) (kindb4:Int) (mb5:Int) (vb6:aa) (vb7:Bool):Unit→Tb aL:=fun q=>[(4,.box [iv kindb4]),(5,.box [iv mb5]),Xb 6 vb6,(7,.box [bv vb7])]
def sD (vk0_15:Trace) (kindb4:Int) (mb5:Int) (vb6:aa) (vb7:Bool):Empty→Nat×Tb aL:=fun e=>Empty.elim e
def sF (vk0_15:Trace) (kindb4:Int) (mb5:Int) (vb6:aa) (vb7:Bool):aa→Tb aL:=fun e=>[(4,.box [iv kindb4]),(5,.box [iv mb5]),Xb 6 e,(7,.box [bv true])]
theorem nJ (vk0_15:Trace) (kindb4:Int) (mb5:Int) (vb6:aa) (vb7:Bool) (x:aa×Event):Le ((iB vk0_15 kindb4 mb5 vb6 vb7 x).bind (fun w=>some (Fw.lx (sH vk0_15 kindb4 mb5 vb6 vb7) (sD vk0_15 kindb4 mb5 vb6 vb7) (sF vk0_15 kindb4 mb5 vb6 vb7) w))) (au Sy cL (nN Sy cL (iA t.body [1,1,0,1,0,0]).2.2.2) (.rc (iA t.body [1,1,0,1,0,0]).2.2.1,[],⟨[Pv 4,Pv 5,Pv 6,Pv 7,(15,.v (.clo (bq 17) [] [.fptr (cells vk0_15)])),Cv 16 x.1,Cv 17 x.2],[(4,.box [iv kindb4]),(5,.box [iv mb5]),Xb 6 vb6,(7,.box [bv vb7])],[4,5,6,7],[],true,0⟩)):=by
 unfold iB;refine kZ 8 9 0 x.2 ?_;refine yZ 1 ?_;refine aY 9 5 [] (fun x_1=>⟨[Pv 4,Pv 5,Pv 6,Pv 7,(15,.v (.clo (bq 17) [] [.fptr (cells vk0_15)])),Pv 8,Bv 27 x_1],[(4,.box [iv kindb4]),(5,.box [iv mb5]),Xb 6 vb6,(7,.box [bv vb7]),Xb 8 x.1,Xb 9 x.2],[4,5,6,7],[],true,0⟩) ?_ fun x_1 => ?_
 ·refine aG 9 22 ?_ ?_
  ·exact aC 5
  ·exact aC 5
 ·refine aG 2 27 ?_ ?_
  ·exact ah
  ·exact ah
theorem za (vk0_15:Trace) (kindb4:Int) (mb5:Int) (vb6:aa) (vb7:Bool):Le ((E1 vk0_15 kindb4 mb5 vb6 vb7).bind (fun r=>some [enc r.1,.bool r.2])) (au Sy cL (c6 t.rs) (bD t.body [1,1,0,1,0,0] [] (ai [Pv 4,Pv 5,Pv 6,Pv 7,(15,.v (.clo (bq 17) [] [.fptr (cells vk0_15)]))] [(4,.box [iv kindb4]),(5,.box [iv mb5]),Xb 6 vb6,(7,.box [bv vb7])]))):=by
 unfold E1;refine Ez fun its hits => ?_
 refine AT [Pv 4,Pv 5,Pv 6,Pv 7,(15,.v (.clo (bq 17) [] [.fptr (cells vk0_15)]))] (sH vk0_15 kindb4 mb5 vb6 vb7) (sD vk0_15 kindb4 mb5 vb6 vb7) (sF vk0_15 kindb4 mb5 vb6 vb7) (sS vk0_15 its hits) (fun x q=>IF (by kernel_rfl) (nJ vk0_15 kindb4 mb5 vb6 vb7 x)) ?_ ?_ ?_
 ·intro q;exact ah
 ·intro e;exact Empty.elim e
 ·intro e;exact ah
end e9
noncomputable def e9 (t0:Trace) (kind1:Int) (m2:Int):Option (aa×Bool):=
 (bX t0).bind fun x_1=>
 ao x_1
 ((ey t0).bind fun x_2=>
 e9.E1 x_2 kind1 m2 (⟨0,0⟩:aa) false)
 (some (⟨0,0⟩,false))
open e9 in
theorem zq:aR Sy cL (bq 42) (fun z:Trace×Int×Int=>[enc z.1,.int .i64 z.2.1,.int .i64 z.2.2]) (fun r:aa×Bool=>[enc r.1,.bool r.2]) (fun z=>e9 z.1 z.2.1 z.2.2) true:=aR.dA e9.t (by
 rintro⟨t0,kind1,m2⟩;show Le ((e9 t0 kind1 m2).bind _) (au _ _ _ _);unfold e9;refine dJ 2 3 t0 ?_;refine aV 10 nq t0 fun x_1 h_1 => ?_
 refine dy 3 12 ?_ ?_
 ·refine aV 7 kg t0 fun x_2 h_2 => ?_
  exact bZ 4 (za x_2 kind1 m2 (⟨0,0⟩:aa) false)
 ·exact ah)
noncomputable def gz (t0:Trace) (m1:Int):Option (aa×Bool):=
 (e9 t0 2 m1).bind fun x_1=>
 some (x_1.1,x_1.2)
theorem xk:aR Sy cL (bq 43) (fun z:Trace×Int=>[enc z.1,.int .i64 z.2]) (fun r:aa×Bool=>[enc r.1,.bool r.2]) (fun z=>gz z.1 z.2) true:=aR.dA gz.t (by
 rintro⟨t0,m1⟩;show Le ((gz t0 m1).bind _) (au _ _ _ _);unfold gz;refine dJ 2 2 t0 ?_;refine aV 8 zq (t0,2,m1) fun x_1 h_1 => ?_
 exact ah)
namespace dU
noncomputable def aM (c1:Sl Int) (p7:Int) (v13:Sl Int) (v14:Int) (v15:Int) (v27:Sl Event) (v28:Int) (tb2:Trace) (sendb4:aa) (receiveb5:aa) (v29:Int):Option (Fw Int Unit (aa×aa)):=
 ao (decide (v29<v28))
 ((idx v27 v29).bind fun x_1=>
 ao (x_1.kind==3)
 ((gz tb2 x_1.message).bind fun x_2=>
 (idx c1 x_2.1.proc).bind fun x_3=>
 ao (decide (x_2.1.index>x_3))
 (some (.r (x_2.1,(⟨p7,IntKind.wrap .i64 (v29+1)⟩:aa))))
 (some (.n (IntKind.wrap .i64 (v29+1)))))
 (some (.n (IntKind.wrap .i64 (v29+1)))))
 (some (.x ()))
noncomputable def W2 (c1:Sl Int) (p7:Int) (v13:Sl Int) (v14:Int) (v15:Int) (v27:Sl Event) (v28:Int) (v29:Int) (tb2:Trace) (sendb4:aa) (receiveb5:aa):Option (Fw Int Unit (aa×aa)):=
 (bh (fun q:Int=>aM c1 p7 v13 v14 v15 v27 v28 tb2 sendb4 receiveb5 q) v29).bind (Fw.elim
 (fun e=>some (.n (IntKind.wrap .i64 (v15+1))))
 (fun e=>some (.r (e.1,e.2))))
def d6 (c1:Sl Int) (p7:Int) (v13:Sl Int) (v14:Int) (v15:Int) (v27:Sl Event) (v28:Int) (tb2:Trace) (sendb4:aa) (receiveb5:aa):Int→St:=fun q=>(ai [Cv 1 c1,Pv 2,Pv 4,Pv 5,Iv 7 p7,Cv 13 v13,Iv 14 v14,Iv 15 v15,Cv 27 v27,Iv 28 v28,Iv 29 q] [Xb 2 tb2,Xb 4 sendb4,Xb 5 receiveb5])
def d4 (c1:Sl Int) (p7:Int) (v13:Sl Int) (v14:Int) (v15:Int) (v27:Sl Event) (v28:Int) (tb2:Trace) (sendb4:aa) (receiveb5:aa):Unit→Nat×St:=fun e=>(2,(ai [Cv 1 c1,Pv 2,Pv 4,Pv 5,Cv 13 v13,Iv 14 v14,Iv 15 v15] [Xb 2 tb2,Xb 4 sendb4,Xb 5 receiveb5]))
def dZ (c1:Sl Int) (p7:Int) (v13:Sl Int) (v14:Int) (v15:Int) (v27:Sl Event) (v28:Int) (tb2:Trace) (sendb4:aa) (receiveb5:aa):aa×aa→St:=fun e=>(ai [Pv 4,Pv 5,Bv 6 true] [Xb 4 e.1,Xb 5 e.2])
noncomputable def aj (c1:Sl Int) (v13:Sl Int) (v14:Int) (tb2:Trace) (sendb4:aa) (receiveb5:aa) (v15:Int):Option (Fw Int Unit (aa×aa)):=
 ao (decide (v15<v14))
 ((idx v13 v15).bind fun x_1=>
 (idx tb2.procs v15).bind fun x_2=>
 (g_ x_2.events none (some x_1)).bind fun x_3=>
 W2 c1 v15 v13 v14 v15 x_3 (len x_3) 0 tb2 sendb4 receiveb5)
 (some (.x ()))
noncomputable def W1 (c1:Sl Int) (v13:Sl Int) (v14:Int) (v15:Int) (tb2:Trace) (sendb4:aa) (receiveb5:aa):Option (aa×aa×Bool):=
 (bh (fun q:Int=>aj c1 v13 v14 tb2 sendb4 receiveb5 q) v15).bind (Fw.elim
 (fun e=>some (⟨0,0⟩,⟨0,0⟩,false))
 (fun e=>some (e.1,e.2,true)))
def bm (c1:Sl Int) (v13:Sl Int) (v14:Int) (tb2:Trace) (sendb4:aa) (receiveb5:aa):Int→St:=fun q=>(ai [Cv 1 c1,Pv 2,Pv 4,Pv 5,Cv 13 v13,Iv 14 v14,Iv 15 q] [Xb 2 tb2,Xb 4 sendb4,Xb 5 receiveb5])
def bp (c1:Sl Int) (v13:Sl Int) (v14:Int) (tb2:Trace) (sendb4:aa) (receiveb5:aa):Unit→Nat×St:=fun e=>(0,(ai [Pv 4,Pv 5] [Xb 4 sendb4,Xb 5 receiveb5]))
def bn (c1:Sl Int) (v13:Sl Int) (v14:Int) (tb2:Trace) (sendb4:aa) (receiveb5:aa):aa×aa→St:=fun e=>(ai [Pv 4,Pv 5,Bv 6 true] [Xb 4 e.1,Xb 5 e.2])
theorem ct (c1:Sl Int) (p7:Int) (v13:Sl Int) (v14:Int) (v15:Int) (v27:Sl Event) (v28:Int) (tb2:Trace) (sendb4:aa) (receiveb5:aa) (v29:Int):Le ((aM c1 p7 v13 v14 v15 v27 v28 tb2 sendb4 receiveb5 v29).bind (fun w=>some (Fw.out (d6 c1 p7 v13 v14 v15 v27 v28 tb2 sendb4 receiveb5) (d4 c1 p7 v13 v14 v15 v27 v28 tb2 sendb4 receiveb5) (dZ c1 p7 v13 v14 v15 v27 v28 tb2 sendb4 receiveb5) w))) (au Sy cL some (.rc (bL t.body [1,0,1,0,0,0,0,1,1,0,0,1,1,0,0]),[],(ai [Cv 1 c1,Pv 2,Pv 4,Pv 5,Iv 7 p7,Cv 13 v13,Iv 14 v14,Iv 15 v15,Cv 27 v27,Iv 28 v28,Iv 29 v29] [Xb 2 tb2,Xb 4 sendb4,Xb 5 receiveb5]))):=by
 unfold aM;refine aG 7 30 ?_ ?_
 ·refine bH 8 fun x_1 h_1 => ?_
  refine kZ 3 10 0 x_1 ?_;refine dy 10 36 ?_ ?_
  ·refine aV 8 xk (tb2,x_1.message) fun x_2 h_2 => ?_
   refine bH 15 fun x_3 h_3 => ?_
   refine aG 4 51 ?_ ?_
   ·exact ah
   ·exact ah
  ·exact ah
 ·exact ah
theorem fK (c1:Sl Int) (p7:Int) (v13:Sl Int) (v14:Int) (v15:Int) (v27:Sl Event) (v28:Int) (v29:Int) (tb2:Trace) (sendb4:aa) (receiveb5:aa):Le ((W2 c1 p7 v13 v14 v15 v27 v28 v29 tb2 sendb4 receiveb5).bind (fun w=>some (Fw.out (bm c1 v13 v14 tb2 sendb4 receiveb5) (bp c1 v13 v14 tb2 sendb4 receiveb5) (bn c1 v13 v14 tb2 sendb4 receiveb5) w))) (au Sy cL some (bD t.body [1,0,1,0,0,0,0,1,1,0,0,1,1,0,0] [] (ai [Cv 1 c1,Pv 2,Pv 4,Pv 5,Iv 7 p7,Cv 13 v13,Iv 14 v14,Iv 15 v15,Cv 27 v27,Iv 28 v28,Iv 29 v29] [Xb 2 tb2,Xb 4 sendb4,Xb 5 receiveb5]))):=by
 unfold W2;refine cu (d6 c1 p7 v13 v14 v15 v27 v28 tb2 sendb4 receiveb5) (d4 c1 p7 v13 v14 v15 v27 v28 tb2 sendb4 receiveb5) (dZ c1 p7 v13 v14 v15 v27 v28 tb2 sendb4 receiveb5) (fun q=>ct c1 p7 v13 v14 v15 v27 v28 tb2 sendb4 receiveb5 q) ?_ ?_
 ·intro e;exact ah
 ·intro e;exact ah
theorem aF (c1:Sl Int) (v13:Sl Int) (v14:Int) (tb2:Trace) (sendb4:aa) (receiveb5:aa) (v15:Int):Le ((aj c1 v13 v14 tb2 sendb4 receiveb5 v15).bind (fun w=>some (Fw.out (bm c1 v13 v14 tb2 sendb4 receiveb5) (bp c1 v13 v14 tb2 sendb4 receiveb5) (bn c1 v13 v14 tb2 sendb4 receiveb5) w))) (au Sy cL some (.rc (bL t.body [1,0,1,0,0]),[],(ai [Cv 1 c1,Pv 2,Pv 4,Pv 5,Cv 13 v13,Iv 14 v14,Iv 15 v15] [Xb 2 tb2,Xb 4 sendb4,Xb 5 receiveb5]))):=by
 unfold aj;refine aG 7 16 ?_ ?_
 ·refine bH 8 fun x_1 h_1 => ?_
  refine bH 10 fun x_2 h_2 => ?_
  refine EP 3 false true [.int .i64 x_1] fun x_3 h_3 => ?_
  refine bK 0 x_3 ?_;exact bZ 5 (fK c1 v15 v13 v14 v15 x_3 (len x_3) 0 tb2 sendb4 receiveb5)
 ·exact ah
theorem bW (c1:Sl Int) (v13:Sl Int) (v14:Int) (v15:Int) (tb2:Trace) (sendb4:aa) (receiveb5:aa):Le ((W1 c1 v13 v14 v15 tb2 sendb4 receiveb5).bind (fun r=>some [enc r.1,enc r.2.1,.bool r.2.2])) (au Sy cL (c6 t.rs) (bD t.body [1,0,1,0,0] [] (ai [Cv 1 c1,Pv 2,Pv 4,Pv 5,Cv 13 v13,Iv 14 v14,Iv 15 v15] [Xb 2 tb2,Xb 4 sendb4,Xb 5 receiveb5]))):=by
 unfold W1;refine cu (bm c1 v13 v14 tb2 sendb4 receiveb5) (bp c1 v13 v14 tb2 sendb4 receiveb5) (bn c1 v13 v14 tb2 sendb4 receiveb5) (fun q=>aF c1 v13 v14 tb2 sendb4 receiveb5 q) ?_ ?_
 ·intro e;exact ah
 ·intro e;exact ah
end dU
noncomputable def dU (t0:Trace) (c1:Sl Int):Option (aa×aa×Bool):=
 dU.W1 c1 c1 (len c1) 0 t0 (⟨0,0⟩:aa) (⟨0,0⟩:aa)
open dU in
theorem xp:aR Sy cL (bq 44) (fun z:Trace×(Sl Int)=>[enc z.1,enc z.2]) (fun r:aa×aa×Bool=>[enc r.1,enc r.2.1,.bool r.2.2]) (fun z=>dU z.1 z.2) true:=aR.dA dU.t (by
 rintro⟨t0,c1⟩;show Le ((dU t0 c1).bind _) (au _ _ _ _);unfold dU;refine dJ 2 2 t0 ?_;refine bK 9 c1 ?_;exact bZ 5 (bW c1 c1 (len c1) 0 t0 (⟨0,0⟩:aa) (⟨0,0⟩:aa)))
noncomputable def iL (t0:Trace) (c1:Sl Int):Option Bool:=
 (dU t0 c1).bind fun x_1=>
 some (!x_1.2.2)
theorem zO:aR Sy cL (bq 45) (fun z:Trace×(Sl Int)=>[enc z.1,enc z.2]) (fun r:Bool=>[.bool r]) (fun z=>iL z.1 z.2) true:=aR.dA iL.t (by
 rintro⟨t0,c1⟩;show Le ((iL t0 c1).bind _) (au _ _ _ _);unfold iL;refine dJ 2 2 t0 ?_;refine aV 7 xp (t0,c1) fun x_1 h_1 => ?_
 exact ah)
namespace dj
noncomputable def dB (v39:Sl (Sl Int)) (v40:Int) (tb3:Trace) (v41:Int):Option (Fw Int Unit Unit):=
 ao (decide (v41<v40))
 ((idx v39 v41).bind fun x_1=>
 (iL tb3 x_1).bind fun x_2=>
 ao x_2
 (some (.n (IntKind.wrap .i64 (v41+1))))
 (some (.r ())))
 (some (.x ()))
noncomputable def W3 (v39:Sl (Sl Int)) (v40:Int) (v41:Int) (tb3:Trace):Option Int:=
 (bh (fun q:Int=>dB v39 v40 tb3 q) v41).bind (Fw.elim
 (fun e=>some 0)
 (fun e=>some 18))
def kH (v39:Sl (Sl Int)) (v40:Int) (tb3:Trace):Int→St:=fun q=>(ai [Pv 3,Cv 39 v39,Iv 40 v40,Iv 41 q] [Xb 3 tb3])
def kE (v39:Sl (Sl Int)) (v40:Int) (tb3:Trace):Unit→Nat×St:=fun e=>(4,(ai [] []))
def kF (v39:Sl (Sl Int)) (v40:Int) (tb3:Trace):Unit→St:=fun e=>(ai [Iv 6 18] [])
noncomputable def aM (l1:Sl (Sl Int)) (v28:Sl Int) (v29:Int) (tb3:Trace) (v30:Int):Option (Fw Int Unit Unit):=
 ao (decide (v30<v29))
 ((idx v28 v30).bind fun x_1=>
 (iS tb3 x_1).bind fun x_2=>
 ao x_2
 (some (.n (IntKind.wrap .i64 (v30+1))))
 (some (.r ())))
 (some (.x ()))
noncomputable def W2 (l1:Sl (Sl Int)) (v28:Sl Int) (v29:Int) (v30:Int) (tb3:Trace):Option Int:=
 (bh (fun q:Int=>aM l1 v28 v29 tb3 q) v30).bind (Fw.elim
 (fun e=>dj.W3 l1 (len l1) 0 tb3)
 (fun e=>some 2))
def d6 (l1:Sl (Sl Int)) (v28:Sl Int) (v29:Int) (tb3:Trace):Int→St:=fun q=>(ai [Cv 1 l1,Pv 3,Cv 28 v28,Iv 29 v29,Iv 30 q] [Xb 3 tb3])
def d4 (l1:Sl (Sl Int)) (v28:Sl Int) (v29:Int) (tb3:Trace):Unit→Nat×St:=fun e=>(2,(ai [Cv 1 l1,Pv 3] [Xb 3 tb3]))
def dZ (l1:Sl (Sl Int)) (v28:Sl Int) (v29:Int) (tb3:Trace):Unit→St:=fun e=>(ai [Iv 6 2] [])
noncomputable def aj (l1:Sl (Sl Int)) (procs2:Sl Int) (v17:Sl (Sl Int)) (v18:Int) (tb3:Trace) (v19:Int):Option (Fw Int Unit Unit):=
 ao (decide (v19<v18))
 ((idx v17 v19).bind fun x_1=>
 (eE tb3 x_1).bind fun x_2=>
 ao x_2
 (some (.n (IntKind.wrap .i64 (v19+1))))
 (some (.r ())))
 (some (.x ()))
noncomputable def W1 (l1:Sl (Sl Int)) (procs2:Sl Int) (v17:Sl (Sl Int)) (v18:Int) (v19:Int) (tb3:Trace):Option Int:=
 (bh (fun q:Int=>aj l1 procs2 v17 v18 tb3 q) v19).bind (Fw.elim
 (fun e=>dj.W2 l1 procs2 (len procs2) 0 tb3)
 (fun e=>some 2))
def bm (l1:Sl (Sl Int)) (procs2:Sl Int) (v17:Sl (Sl Int)) (v18:Int) (tb3:Trace):Int→St:=fun q=>(ai [Cv 1 l1,Cv 2 procs2,Pv 3,Cv 17 v17,Iv 18 v18,Iv 19 q] [Xb 3 tb3])
def bp (l1:Sl (Sl Int)) (procs2:Sl Int) (v17:Sl (Sl Int)) (v18:Int) (tb3:Trace):Unit→Nat×St:=fun e=>(0,(ai [Cv 1 l1,Cv 2 procs2,Pv 3] [Xb 3 tb3]))
def bn (l1:Sl (Sl Int)) (procs2:Sl Int) (v17:Sl (Sl Int)) (v18:Int) (tb3:Trace):Unit→St:=fun e=>(ai [Iv 6 2] [])
theorem gO (v39:Sl (Sl Int)) (v40:Int) (tb3:Trace) (v41:Int):Le ((dB v39 v40 tb3 v41).bind (fun w=>some (Fw.out (kH v39 v40 tb3) (kE v39 v40 tb3) (kF v39 v40 tb3) w))) (au Sy cL some (.rc (bL t.body [1,1,1,1,0,1,0,0]),[],(ai [Pv 3,Cv 39 v39,Iv 40 v40,Iv 41 v41] [Xb 3 tb3]))):=by
 unfold dB;refine aG 7 42 ?_ ?_
 ·refine bH 7 fun x_1 h_1 => ?_
  refine aV 8 zO (tb3,x_1) fun x_2 h_2 => ?_
  refine dy 3 48 ?_ ?_
  ·exact ah
  ·exact ah
 ·exact ah
theorem nG (v39:Sl (Sl Int)) (v40:Int) (v41:Int) (tb3:Trace):Le ((W3 v39 v40 v41 tb3).bind (fun r=>some [.int .i64 r])) (au Sy cL (c6 t.rs) (bD t.body [1,1,1,1,0,1,0,0] [] (ai [Pv 3,Cv 39 v39,Iv 40 v40,Iv 41 v41] [Xb 3 tb3]))):=by
 unfold W3;refine cu (kH v39 v40 tb3) (kE v39 v40 tb3) (kF v39 v40 tb3) (fun q=>gO v39 v40 tb3 q) ?_ ?_
 ·intro e;exact ah
 ·intro e;exact ah
theorem ct (l1:Sl (Sl Int)) (v28:Sl Int) (v29:Int) (tb3:Trace) (v30:Int):Le ((aM l1 v28 v29 tb3 v30).bind (fun w=>some (Fw.out (d6 l1 v28 v29 tb3) (d4 l1 v28 v29 tb3) (dZ l1 v28 v29 tb3) w))) (au Sy cL some (.rc (bL t.body [1,1,1,0,1,0,0]),[],(ai [Cv 1 l1,Pv 3,Cv 28 v28,Iv 29 v29,Iv 30 v30] [Xb 3 tb3]))):=by
 unfold aM;refine aG 7 31 ?_ ?_
 ·refine bH 7 fun x_1 h_1 => ?_
  refine aV 8 xN (tb3,x_1) fun x_2 h_2 => ?_
  refine dy 3 37 ?_ ?_
  ·exact ah
  ·exact ah
 ·exact ah
theorem fK (l1:Sl (Sl Int)) (v28:Sl Int) (v29:Int) (v30:Int) (tb3:Trace):Le ((W2 l1 v28 v29 v30 tb3).bind (fun r=>some [.int .i64 r])) (au Sy cL (c6 t.rs) (bD t.body [1,1,1,0,1,0,0] [] (ai [Cv 1 l1,Pv 3,Cv 28 v28,Iv 29 v29,Iv 30 v30] [Xb 3 tb3]))):=by
 unfold W2;refine cu (d6 l1 v28 v29 tb3) (d4 l1 v28 v29 tb3) (dZ l1 v28 v29 tb3) (fun q=>ct l1 v28 v29 tb3 q) ?_ ?_
 ·intro e;refine bK 6 l1 ?_;exact bZ 5 (nG l1 (len l1) 0 tb3)
 ·intro e;exact ah
theorem aF (l1:Sl (Sl Int)) (procs2:Sl Int) (v17:Sl (Sl Int)) (v18:Int) (tb3:Trace) (v19:Int):Le ((aj l1 procs2 v17 v18 tb3 v19).bind (fun w=>some (Fw.out (bm l1 procs2 v17 v18 tb3) (bp l1 procs2 v17 v18 tb3) (bn l1 procs2 v17 v18 tb3) w))) (au Sy cL some (.rc (bL t.body [1,1,0,1,0,0]),[],(ai [Cv 1 l1,Cv 2 procs2,Pv 3,Cv 17 v17,Iv 18 v18,Iv 19 v19] [Xb 3 tb3]))):=by
 unfold aj;refine aG 7 20 ?_ ?_
 ·refine bH 7 fun x_1 h_1 => ?_
  refine aV 8 xZ (tb3,x_1) fun x_2 h_2 => ?_
  refine dy 3 26 ?_ ?_
  ·exact ah
  ·exact ah
 ·exact ah
theorem bW (l1:Sl (Sl Int)) (procs2:Sl Int) (v17:Sl (Sl Int)) (v18:Int) (v19:Int) (tb3:Trace):Le ((W1 l1 procs2 v17 v18 v19 tb3).bind (fun r=>some [.int .i64 r])) (au Sy cL (c6 t.rs) (bD t.body [1,1,0,1,0,0] [] (ai [Cv 1 l1,Cv 2 procs2,Pv 3,Cv 17 v17,Iv 18 v18,Iv 19 v19] [Xb 3 tb3]))):=by
 unfold W1;refine cu (bm l1 procs2 v17 v18 tb3) (bp l1 procs2 v17 v18 tb3) (bn l1 procs2 v17 v18 tb3) (fun q=>aF l1 procs2 v17 v18 tb3 q) ?_ ?_
 ·intro e;refine bK 6 procs2 ?_;exact bZ 5 (fK l1 procs2 (len procs2) 0 tb3)
 ·intro e;exact ah
end dj
noncomputable def dj (t0:Trace) (l1:Sl (Sl Int)) (procs2:Sl Int):Option Int:=
 (iR t0 l1).bind fun x_1=>
 ao x_1
 (dj.W1 l1 procs2 l1 (len l1) 0 t0)
 (some 1)
open dj in
theorem AK:aR Sy cL (bq 46) (fun z:Trace×(Sl (Sl Int))×(Sl Int)=>[enc z.1,enc z.2.1,enc z.2.2]) (fun r:Int=>[.int .i64 r]) (fun z=>dj z.1 z.2.1 z.2.2) true:=aR.dA dj.t (by
 rintro⟨t0,l1,procs2⟩;show Le ((dj t0 l1 procs2).bind _) (au _ _ _ _);unfold dj;refine dJ 2 3 t0 ?_;refine aV 8 AP (t0,l1) fun x_1 h_1 => ?_
 refine dy 3 16 ?_ ?_
 ·refine bK 7 l1 ?_;exact bZ 5 (bW l1 procs2 l1 (len l1) 0 t0)
 ·exact ah)
namespace dP
noncomputable def aj (v17:Sl Int) (v18:Int) (out7:Sl aa) (v19:Int):Option (Fw ((Sl aa)×Int) (Sl aa) Empty):=
 ao (decide (v19<v18))
 ((idx v17 v19).bind fun x_1=>
 ao (decide (x_1>0))
 ((gI out7 (⟨v19,x_1⟩:aa)).bind fun x_2=>
 some (.n (x_2,IntKind.wrap .i64 (v19+1))))
 (some (.n (out7,IntKind.wrap .i64 (v19+1)))))
 (some (.x out7))
noncomputable def W1 (out7:Sl aa) (v17:Sl Int) (v18:Int) (v19:Int):Option ((Sl aa)×Int):=
 (bh (fun q:(Sl aa)×Int=>aj v17 v18 q.1 q.2) (out7,v19)).bind (Fw.elim
 (fun e=>some (e,0))
 (fun e=>Empty.elim e))
def bm (v17:Sl Int) (v18:Int):(Sl aa)×Int→St:=fun q=>(ai [Ov 7,Cv 17 v17,Iv 18 v18,Iv 19 q.2] [Lb 2007 q.1])
def bp (v17:Sl Int) (v18:Int):(Sl aa)→Nat×St:=fun e=>(0,(ai [Ov 7] [Lb 2007 e]))
def bn (v17:Sl Int) (v18:Int):Empty→St:=fun e=>Empty.elim e
theorem aF (v17:Sl Int) (v18:Int) (out7:Sl aa) (v19:Int):Le ((aj v17 v18 out7 v19).bind (fun w=>some (Fw.out (bm v17 v18) (bp v17 v18) (bn v17 v18) w))) (au Sy cL some (.rc (bL t.body [1,1,1,0,1,0,0,0]),[],(ai [Ov 7,Cv 17 v17,Iv 18 v18,Iv 19 v19] [Lb 2007 out7]))):=by
 unfold aj;refine aG 8 20 ?_ ?_
 ·refine bH 8 fun x_1 h_1 => ?_
  refine aG 11 25 ?_ ?_
  ·refine tu 7 2007 30 31 fun x_2 h_2 => ?_
   exact ah
  ·exact ah
 ·exact ah
theorem bW (out7:Sl aa) (v17:Sl Int) (v18:Int) (v19:Int):Le ((W1 out7 v17 v18 v19).bind (fun r=>some [enc r.1,.int .i64 r.2])) (au Sy cL (c6 t.rs) (bD t.body [1,1,1,0,1,0,0,0] [] (ai [Ov 7,Cv 17 v17,Iv 18 v18,Iv 19 v19] [Lb 2007 out7]))):=by
 unfold W1;refine cu (bm v17 v18) (bp v17 v18) (bn v17 v18) (fun q=>aF v17 v18 q.1 q.2) ?_ ?_
 ·intro e;exact ah
 ·intro e;exact Empty.elim e
end dP
noncomputable def dP (t0:Trace) (c1:Sl Int):Option ((Sl aa)×Int):=
 (dj t0 (Sl.row [c1]:Sl (Sl Int)) (Sl.nil:Sl Int)).bind fun x_1=>
 ao (x_1==0)
 (dP.W1 (Sl.nil:Sl aa) c1 (len c1) 0)
 (some (Sl.nil,x_1))
open dP in
theorem xm:aR Sy cL (bq 48) (fun z:Trace×(Sl Int)=>[enc z.1,enc z.2]) (fun r:(Sl aa)×Int=>[enc r.1,.int .i64 r.2]) (fun z=>dP z.1 z.2) false:=aR.yF dP.t (by
 rintro⟨t0,c1⟩;show Le ((dP t0 c1).bind _) (au _ _ _ _);unfold dP;refine dJ 2 2 t0 ?_;refine KO 9 12 ([c1]:List (Sl Int)) ?_;refine jE 0 AK (t0,(Sl.row [c1]:Sl (Sl Int)),(Sl.nil:Sl Int)) fun x_1 h_1 => ?_
 refine dy 9 15 ?_ ?_
 ·refine bK 12 c1 ?_;exact bZ 6 (bW (Sl.nil:Sl aa) c1 (len c1) 0)
 ·exact ah)
namespace dm
noncomputable def aM (p1:Int) (v49:Sl Event) (v50:Int) (v51:Int) (vb6:az) (wb7:az):Option (Fw (Int×az×az) (az×az) Empty):=
 ao (decide (v51<v50))
 ((idx v49 v51).bind fun x_1=>
 (ao (x_1.kind==3)
 (some (x_1.peer==p1))
 (some false):Option Bool).bind fun x_2=>
 ao x_2
 ((gI wb7.received (IntKind.wrap .i64 (v51+1):Int)).bind fun x_3=>
 some (.n (IntKind.wrap .i64 (v51+1),(⟨vb6.p,vb6.q,Sl.nil,Sl.nil⟩:az),(⟨wb7.p,wb7.q,wb7.sent,x_3⟩:az))))
 (some (.n (IntKind.wrap .i64 (v51+1),(⟨vb6.p,vb6.q,Sl.nil,Sl.nil⟩:az),wb7))))
 (some (.x ((⟨vb6.p,vb6.q,Sl.nil,Sl.nil⟩:az),wb7)))
noncomputable def W2 (p1:Int) (v49:Sl Event) (v50:Int) (v51:Int) (vb6:az) (wb7:az):Option az:=
 (bh (fun q:Int×az×az=>aM p1 v49 v50 q.1 q.2.1 q.2.2) (v51,vb6,wb7)).bind (Fw.elim
 (fun e=>some e.2)
 (fun e=>Empty.elim e))
def d6 (p1:Int) (v49:Sl Event) (v50:Int):Int×az×az→St:=fun q=>(ai [Iv 1 p1,Pv 6,Pv 7,Cv 49 v49,Iv 50 v50,Iv 51 q.1] [Xb 6 (⟨q.2.1.p,q.2.1.q,Sl.nil,Sl.nil⟩:az),(7,.box [iv q.2.2.p,iv q.2.2.q,.own 4142,.own 4143]),Lb 4142 q.2.2.sent,Lb 4143 q.2.2.received])
def d4 (p1:Int) (v49:Sl Event) (v50:Int):(az×az)→Nat×St:=fun e=>(2,(ai [Pv 6,Pv 7] [Xb 6 (⟨e.1.p,e.1.q,Sl.nil,Sl.nil⟩:az),(7,.box [iv e.2.p,iv e.2.q,.own 4142,.own 4143]),Lb 4142 e.2.sent,Lb 4143 e.2.received]))
def dZ (p1:Int) (v49:Sl Event) (v50:Int):Empty→St:=fun e=>Empty.elim e
noncomputable def aj (p1:Int) (q2:Int) (v20:Sl Event) (v21:Int) (tb3:Trace) (v22:Int) (vb6:az) (wb7:az):Option (Fw (Int×az×az) (az×az) Empty):=
 ao (decide (v22<v21))
 ((idx v20 v22).bind fun x_1=>
 (ao (x_1.kind==2)
 (some (x_1.peer==q2))
 (some false):Option Bool).bind fun x_2=>
 ao x_2
 ((gI wb7.sent (IntKind.wrap .i64 (v22+1):Int)).bind fun x_3=>
 some (.n (IntKind.wrap .i64 (v22+1),(⟨vb6.p,vb6.q,Sl.nil,Sl.nil⟩:az),(⟨wb7.p,wb7.q,x_3,Sl.nil⟩:az))))
 (some (.n (IntKind.wrap .i64 (v22+1),(⟨vb6.p,vb6.q,Sl.nil,Sl.nil⟩:az),(⟨wb7.p,wb7.q,wb7.sent,Sl.nil⟩:az)))))
 (some (.x ((⟨vb6.p,vb6.q,Sl.nil,Sl.nil⟩:az),(⟨wb7.p,wb7.q,wb7.sent,Sl.nil⟩:az))))
noncomputable def W1 (p1:Int) (q2:Int) (v20:Sl Event) (v21:Int) (v22:Int) (tb3:Trace) (vb6:az) (wb7:az):Option az:=
 (bh (fun q:Int×az×az=>aj p1 q2 v20 v21 tb3 q.1 q.2.1 q.2.2) (v22,vb6,wb7)).bind (Fw.elim
 (fun e=>(idx tb3.procs q2).bind fun x_1=>
 dm.W2 p1 x_1.events (len x_1.events) 0 (⟨e.1.p,e.1.q,Sl.nil,Sl.nil⟩:az) (⟨e.2.p,e.2.q,e.2.sent,Sl.nil⟩:az))
 (fun e=>Empty.elim e))
def bm (p1:Int) (q2:Int) (v20:Sl Event) (v21:Int) (tb3:Trace):Int×az×az→St:=fun q=>(ai [Iv 1 p1,Iv 2 q2,Pv 3,Pv 6,Pv 7,Cv 20 v20,Iv 21 v21,Iv 22 q.1] [Xb 3 tb3,Xb 6 (⟨q.2.1.p,q.2.1.q,Sl.nil,Sl.nil⟩:az),(7,.box [iv q.2.2.p,iv q.2.2.q,.own 4142,.v .ay]),Lb 4142 q.2.2.sent])
def bp (p1:Int) (q2:Int) (v20:Sl Event) (v21:Int) (tb3:Trace):(az×az)→Nat×St:=fun e=>(0,(ai [Iv 1 p1,Iv 2 q2,Pv 3,Pv 6,Pv 7] [Xb 3 tb3,Xb 6 (⟨e.1.p,e.1.q,Sl.nil,Sl.nil⟩:az),(7,.box [iv e.2.p,iv e.2.q,.own 4142,.v .ay]),Lb 4142 e.2.sent]))
def bn (p1:Int) (q2:Int) (v20:Sl Event) (v21:Int) (tb3:Trace):Empty→St:=fun e=>Empty.elim e
theorem ct (p1:Int) (v49:Sl Event) (v50:Int) (v51:Int) (vb6:az) (wb7:az):Le ((aM p1 v49 v50 v51 vb6 wb7).bind (fun w=>some (Fw.out (d6 p1 v49 v50) (d4 p1 v49 v50) (dZ p1 v49 v50) w))) (au Sy cL some (.rc (bL t.body [1,1,1,0,1,0,0,0,0]),[],(ai [Iv 1 p1,Pv 6,Pv 7,Cv 49 v49,Iv 50 v50,Iv 51 v51] [Xb 6 (⟨vb6.p,vb6.q,Sl.nil,Sl.nil⟩:az),(7,.box [iv wb7.p,iv wb7.q,.own 4142,.own 4143]),Lb 4142 wb7.sent,Lb 4143 wb7.received]))):=by
 unfold aM;refine aG 9 52 ?_ ?_
 ·refine bH 8 fun x_1 h_1 => ?_
  refine kZ 3 11 0 x_1 ?_;refine aY 8 5 [] (fun x_2=>(ai [Iv 1 p1,Pv 6,Pv 7,Cv 49 v49,Iv 50 v50,Iv 51 v51,Bv 52 true,Iv 10 v51,Bv 64 x_2] [Xb 6 (⟨vb6.p,vb6.q,Sl.nil,Sl.nil⟩:az),(7,.box [iv wb7.p,iv wb7.q,.own 4142,.own 4143]),Lb 4142 wb7.sent,Lb 4143 wb7.received,Xb 11 x_1])) ?_ fun x_2 => ?_
  ·refine aG 8 59 ?_ ?_
   ·exact aC 5
   ·exact aC 5
  ·refine aG 2 64 ?_ ?_
   ·refine tu 7 4143 69 70 fun x_3 h_3 => ?_
    exact ah
   ·exact ah
 ·exact ah
theorem fK (p1:Int) (v49:Sl Event) (v50:Int) (v51:Int) (vb6:az) (wb7:az):Le ((W2 p1 v49 v50 v51 vb6 wb7).bind (fun r=>some [enc r])) (au Sy cL (c6 t.rs) (bD t.body [1,1,1,0,1,0,0,0,0] [] (ai [Iv 1 p1,Pv 6,Pv 7,Cv 49 v49,Iv 50 v50,Iv 51 v51] [Xb 6 (⟨vb6.p,vb6.q,Sl.nil,Sl.nil⟩:az),(7,.box [iv wb7.p,iv wb7.q,.own 4142,.own 4143]),Lb 4142 wb7.sent,Lb 4143 wb7.received]))):=by
 unfold W2;refine cu (d6 p1 v49 v50) (d4 p1 v49 v50) (dZ p1 v49 v50) (fun q=>ct p1 v49 v50 q.1 q.2.1 q.2.2) ?_ ?_
 ·intro e;refine kZ 7 6 0 e.2 ?_;exact ah
 ·intro e;exact Empty.elim e
theorem aF (p1:Int) (q2:Int) (v20:Sl Event) (v21:Int) (tb3:Trace) (v22:Int) (vb6:az) (wb7:az):Le ((aj p1 q2 v20 v21 tb3 v22 vb6 wb7).bind (fun w=>some (Fw.out (bm p1 q2 v20 v21 tb3) (bp p1 q2 v20 v21 tb3) (bn p1 q2 v20 v21 tb3) w))) (au Sy cL some (.rc (bL t.body [1,1,0,1,0,0,0]),[],(ai [Iv 1 p1,Iv 2 q2,Pv 3,Pv 6,Pv 7,Cv 20 v20,Iv 21 v21,Iv 22 v22] [Xb 3 tb3,Xb 6 (⟨vb6.p,vb6.q,Sl.nil,Sl.nil⟩:az),(7,.box [iv wb7.p,iv wb7.q,.own 4142,.v .ay]),Lb 4142 wb7.sent]))):=by
 unfold aj;refine aG 8 23 ?_ ?_
 ·refine bH 8 fun x_1 h_1 => ?_
  refine kZ 3 9 0 x_1 ?_;refine aY 8 5 [] (fun x_2=>(ai [Iv 1 p1,Iv 2 q2,Pv 3,Pv 6,Pv 7,Cv 20 v20,Iv 21 v21,Iv 22 v22,Bv 23 true,Iv 8 v22,Bv 35 x_2] [Xb 3 tb3,Xb 6 (⟨vb6.p,vb6.q,Sl.nil,Sl.nil⟩:az),(7,.box [iv wb7.p,iv wb7.q,.own 4142,.v .ay]),Lb 4142 wb7.sent,Xb 9 x_1])) ?_ fun x_2 => ?_
  ·refine aG 8 30 ?_ ?_
   ·exact aC 5
   ·exact aC 5
  ·refine aG 2 35 ?_ ?_
   ·refine tu 7 4142 40 41 fun x_3 h_3 => ?_
    exact ah
   ·exact ah
 ·exact ah
theorem bW (p1:Int) (q2:Int) (v20:Sl Event) (v21:Int) (v22:Int) (tb3:Trace) (vb6:az) (wb7:az):Le ((W1 p1 q2 v20 v21 v22 tb3 vb6 wb7).bind (fun r=>some [enc r])) (au Sy cL (c6 t.rs) (bD t.body [1,1,0,1,0,0,0] [] (ai [Iv 1 p1,Iv 2 q2,Pv 3,Pv 6,Pv 7,Cv 20 v20,Iv 21 v21,Iv 22 v22] [Xb 3 tb3,Xb 6 (⟨vb6.p,vb6.q,Sl.nil,Sl.nil⟩:az),(7,.box [iv wb7.p,iv wb7.q,.own 4142,.v .ay]),Lb 4142 wb7.sent]))):=by
 unfold W1;refine cu (bm p1 q2 v20 v21 tb3) (bp p1 q2 v20 v21 tb3) (bn p1 q2 v20 v21 tb3) (fun q=>aF p1 q2 v20 v21 tb3 q.1 q.2.1 q.2.2) ?_ ?_
 ·intro e;refine bH 8 fun x_1 h_1 => ?_
  refine bK 2 x_1.events ?_;exact bZ 7 (fK p1 x_1.events (len x_1.events) 0 (⟨e.1.p,e.1.q,Sl.nil,Sl.nil⟩:az) (⟨e.2.p,e.2.q,e.2.sent,Sl.nil⟩:az))
 ·intro e;exact Empty.elim e
end dm
noncomputable def dm (t0:Trace) (p1:Int) (q2:Int):Option az:=
 (idx t0.procs p1).bind fun x_1=>
 dm.W1 p1 q2 x_1.events (len x_1.events) 0 t0 (⟨0,0,Sl.nil,Sl.nil⟩:az) (⟨p1,q2,Sl.nil,Sl.nil⟩:az)
open dm in
theorem w6:aR Sy cL (bq 49) (fun z:Trace×Int×Int=>[enc z.1,.int .i64 z.2.1,.int .i64 z.2.2]) (fun r:az=>[enc r]) (fun z=>dm z.1 z.2.1 z.2.2) false:=aR.yF dm.t (by
 rintro⟨t0,p1,q2⟩;show Le ((dm t0 p1 q2).bind _) (au _ _ _ _);unfold dm;refine dJ 2 3 t0 ?_;refine Ve 7 (⟨p1,q2,Sl.nil,Sl.nil⟩:az) [.int .i64 p1,.int .i64 q2] [.int .i64 0,.int .i64 0,.ay,.ay] [(0,1),(1,1)] (by simp only[Dx,FQ,kR,L_,JQ,LI,L7];rfl) rfl ?_
 refine kZ 1 7 0 (⟨p1,q2,Sl.nil,Sl.nil⟩:az) ?_;refine bH 8 fun x_1 h_1 => ?_
 refine bK 2 x_1.events ?_;exact bZ 6 (bW p1 q2 x_1.events (len x_1.events) 0 t0 (⟨0,0,Sl.nil,Sl.nil⟩:az) (⟨p1,q2,Sl.nil,Sl.nil⟩:az)))
noncomputable def fW (x0:Int):Option Bool:=
 some (!(x0==x0))
theorem pD:aR Sy cL (bq 50) (fun z:Int=>[.int .i64 z]) (fun r:Bool=>[.bool r]) (fun z=>fW z) true:=aR.dA fW.t (by
 intro x0;show Le ((fW x0).bind _) (au _ _ _ _);unfold fW;exact ah)
noncomputable def gu (x0:Int) (y1:Int):Option Bool:=
 (fW x0).bind fun x_1=>
 (ao x_1
 ((fW y1).bind fun x_2=>
 some (!x_2))
 (some false):Option Bool).bind fun x_3=>
 (ao x_3
 (some true)
 (some (decide (x0<y1))):Option Bool).bind fun x_4=>
 some x_4
theorem wk:aR Sy cL (bq 51) (fun z:Int×Int=>[.int .i64 z.1,.int .i64 z.2]) (fun r:Bool=>[.bool r]) (fun z=>gu z.1 z.2) true:=aR.dA gu.t (by
 rintro⟨x0,y1⟩;show Le ((gu x0 y1).bind _) (au _ _ _ _);unfold gu;refine aV 8 pD x0 fun x_1 h_1 => ?_
 refine aY 1 4 [] (fun x_3=>(ai [Iv 0 x0,Iv 1 y1,Bv 11 x_3] [])) ?_ fun x_3 => ?_
 ·refine aG 1 7 ?_ ?_
  ·refine aV 1 pD y1 fun x_2 h_2 => ?_
   exact aC 2
  ·exact aC 4
 ·refine aY 1 4 [] (fun x_4=>(ai [Bv 16 x_4] [])) ?_ fun x_4 => ?_
  ·refine aG 1 12 ?_ ?_
   ·exact aC 4
   ·exact aC 4
  ·exact ah)
noncomputable def eM (x0:Int):Option Bool:=
 some (!(x0==x0))
theorem nH:aR Sy cL (bq 52) (fun z:Int=>[.int .i64 z]) (fun r:Bool=>[.bool r]) (fun z=>eM z) true:=aR.dA eM.t (by
 intro x0;show Le ((eM x0).bind _) (au _ _ _ _);unfold eM;exact ah)
namespace bE
noncomputable def aj (x0:Sl Int) (target1:Int) (n6:Int) (i7:Int) (j8:Int):Option (Fw (Int×Int) Int Empty):=
 ao (decide (i7<j8))
 ((tj .u64 (IntKind.wrap .u64 (IntKind.wrap .i64 (i7+j8))) 1).bind fun x_1=>
 (idx x0 (IntKind.wrap .i64 x_1)).bind fun x_2=>
 (gu x_2 target1).bind fun x_3=>
 ao x_3
 (some (.n (IntKind.wrap .i64 ((IntKind.wrap .i64 x_1)+1),j8)))
 (some (.n (i7,IntKind.wrap .i64 x_1))))
 (some (.x i7))
noncomputable def W1 (x0:Sl Int) (target1:Int) (n6:Int) (i7:Int) (j8:Int):Option (Int×Bool):=
 (bh (fun q:Int×Int=>aj x0 target1 n6 q.1 q.2) (i7,j8)).bind (Fw.elim
 (fun e=>(ao (decide (e<n6))
 ((idx x0 e).bind fun x_1=>
 (ao (x_1==target1)
 (some true)
 ((idx x0 e).bind fun x_2=>
 (eM x_2).bind fun x_3=>
 (ao x_3
 ((eM target1).bind fun x_4=>
 some x_4)
 (some false):Option Bool).bind fun x_5=>
 some x_5):Option Bool).bind fun x_6=>
 some x_6)
 (some false):Option Bool).bind fun x_7=>
 some (e,x_7))
 (fun e=>Empty.elim e))
def bm (x0:Sl Int) (target1:Int) (n6:Int):Int×Int→St:=fun q=>(ai [Cv 0 x0,Iv 1 target1,Iv 6 n6,Iv 7 q.1,Iv 8 q.2] [])
def bp (x0:Sl Int) (target1:Int) (n6:Int):Int→Nat×St:=fun e=>(0,(ai [Cv 0 x0,Iv 1 target1,Iv 6 n6,Iv 7 e] []))
def bn (x0:Sl Int) (target1:Int) (n6:Int):Empty→St:=fun e=>Empty.elim e
theorem aF (x0:Sl Int) (target1:Int) (n6:Int) (i7:Int) (j8:Int):Le ((aj x0 target1 n6 i7 j8).bind (fun w=>some (Fw.out (bm x0 target1 n6) (bp x0 target1 n6) (bn x0 target1 n6) w))) (au Sy cL some (.rc (bL t.body [1,1,1,0,0,0]),[],(ai [Cv 0 x0,Iv 1 target1,Iv 6 n6,Iv 7 i7,Iv 8 j8] []))):=by
 unfold aj;refine aG 9 15 ?_ ?_
 ·refine Vl 10 .u64 fun x_1 h_1 => ?_
  refine bH 8 fun x_2 h_2 => ?_
  refine aV 2 wk (x_2,target1) fun x_3 h_3 => ?_
  refine aG 2 27 ?_ ?_
  ·exact ah
  ·exact ah
 ·exact ah
theorem bW (x0:Sl Int) (target1:Int) (n6:Int) (i7:Int) (j8:Int):Le ((W1 x0 target1 n6 i7 j8).bind (fun r=>some [.int .i64 r.1,.bool r.2])) (au Sy cL (c6 t.rs) (bD t.body [1,1,1,0,0,0] [] (ai [Cv 0 x0,Iv 1 target1,Iv 6 n6,Iv 7 i7,Iv 8 j8] []))):=by
 unfold W1;refine cu (bm x0 target1 n6) (bp x0 target1 n6) (bn x0 target1 n6) (fun q=>aF x0 target1 n6 q.1 q.2) ?_ ?_
 ·intro e;refine aY 9 18 [] (fun x_7=>(ai [Iv 31 e,Bv 53 x_7] [])) ?_ fun x_7 => ?_
  ·refine aG 9 35 ?_ ?_
   ·refine bH 2 fun x_1 h_1 => ?_
    refine aY 4 10 [] (fun x_6=>(ai [Iv 31 e,Bv 35 true,Bv 52 x_6] [])) ?_ fun x_6 => ?_
    ·refine aG 4 42 ?_ ?_
     ·exact aC 10
     ·refine bH 2 fun x_2 h_2 => ?_
      refine aV 1 nH x_2 fun x_3 h_3 => ?_
      refine aY 1 3 [] (fun x_5=>(ai [Iv 31 e,Bv 35 true,Bv 42 false,Bv 51 x_5] [])) ?_ fun x_5 => ?_
      ·refine aG 1 48 ?_ ?_
       ·refine aV 1 nH target1 fun x_4 h_4 => ?_
        exact aC 1
       ·exact aC 3
      ·exact aC 1
    ·exact aC 1
   ·exact aC 18
  ·exact ah
 ·intro e;exact Empty.elim e
end bE
noncomputable def bE (x0:Sl Int) (target1:Int):Option (Int×Bool):=
 bE.W1 x0 target1 (len x0) 0 (len x0)
open bE in
theorem o4:aR Sy cL (bq 53) (fun z:(Sl Int)×Int=>[enc z.1,.int .i64 z.2]) (fun r:Int×Bool=>[.int .i64 r.1,.bool r.2]) (fun z=>bE z.1 z.2) true:=aR.dA bE.t (by
 rintro⟨x0,target1⟩;show Le ((bE x0 target1).bind _) (au _ _ _ _);unfold bE;refine bK 9 x0 ?_;exact bZ 13 (bW x0 target1 (len x0) 0 (len x0)))
noncomputable def fT (l0:Sl Int) (count1:Int):Option Int:=
 (bE l0 count1).bind fun x_1=>
 ao x_1.2
 (some (IntKind.wrap .i64 (x_1.1+1)))
 (some x_1.1)
theorem qJ:aR Sy cL (bq 54) (fun z:(Sl Int)×Int=>[enc z.1,.int .i64 z.2]) (fun r:Int=>[.int .i64 r]) (fun z=>fT z.1 z.2) true:=aR.dA fT.t (by
 rintro⟨l0,count1⟩;show Le ((fT l0 count1).bind _) (au _ _ _ _);unfold fT;refine aV 9 o4 (l0,count1) fun x_1 h_1 => ?_
 refine aG 13 13 ?_ ?_
 ·exact ah
 ·exact ah)
noncomputable def eL (w0:az) (c1:Sl Int):Option Int:=
 (idx c1 w0.p).bind fun x_1=>
 (fT w0.sent x_1).bind fun x_2=>
 (idx c1 w0.q).bind fun x_3=>
 (fT w0.received x_3).bind fun x_4=>
 some (IntKind.wrap .i64 (x_2-x_4))
theorem tc:aR Sy cL (bq 55) (fun z:az×(Sl Int)=>[enc z.1,enc z.2]) (fun r:Int=>[.int .i64 r]) (fun z=>eL z.1 z.2) true:=aR.dA eL.t (by
 rintro⟨w0,c1⟩;show Le ((eL w0 c1).bind _) (au _ _ _ _);unfold eL;refine dJ 2 2 w0 ?_;refine bH 10 fun x_1 h_1 => ?_
 refine jE 1 qJ (w0.sent,x_1) fun x_2 h_2 => ?_
 refine bH 5 fun x_3 h_3 => ?_
 refine jE 1 qJ (w0.received,x_3) fun x_4 h_4 => ?_
 exact ah)
namespace bQ
noncomputable def aM (c1:Sl Int) (n8:Int) (out9:Sl (Sl Int)) (v25:Int) (v26:Int) (tb2:Trace) (p10:Int) (row11:Sl Int) (v31:Int) (v32:Int):Option (Fw (Int×(Sl Int)×Int×Int) ((Sl (Sl Int))×(Sl Int)) Empty):=
 ao (decide (v32<v31))
 (ao (p10==v32)
 (some (.n (p10,row11,v31,IntKind.wrap .i64 (v32+1))))
 ((dm tb2 p10 v32).bind fun x_1=>
 (eL x_1 c1).bind fun x_2=>
 (Sl.lW row11 v32).bind fun x_3=>
 (Sl.put row11 x_3 (x_2:Int)).bind fun x_4=>
 some (.n (p10,x_4,v31,IntKind.wrap .i64 (v32+1)))))
 (some (.x (out9,row11)))
noncomputable def W2 (c1:Sl Int) (n8:Int) (out9:Sl (Sl Int)) (p10:Int) (row11:Sl Int) (v25:Int) (v26:Int) (v31:Int) (v32:Int) (tb2:Trace):Option (Fw ((Sl (Sl Int))×Int) (Sl (Sl Int)) Empty):=
 (bh (fun q:Int×(Sl Int)×Int×Int=>aM c1 n8 out9 v25 v26 tb2 q.1 q.2.1 q.2.2.1 q.2.2.2) (p10,row11,v31,v32)).bind (Fw.elim
 (fun e=>(gI e.1 (e.2:Sl Int)).bind fun x_1=>
 some (.n (x_1,IntKind.wrap .i64 (v26+1))))
 (fun e=>Empty.elim e))
def d6 (c1:Sl Int) (n8:Int) (out9:Sl (Sl Int)) (v25:Int) (v26:Int) (tb2:Trace):Int×(Sl Int)×Int×Int→St:=fun q=>(ai [Cv 1 c1,Pv 2,Iv 8 n8,Ov 9,Iv 10 q.1,Ov 11,Iv 25 v25,Iv 26 v26,Iv 31 q.2.2.1,Iv 32 q.2.2.2] [Xb 2 tb2,Lb 2009 out9,Lb 2011 q.2.1])
def d4 (c1:Sl Int) (n8:Int) (out9:Sl (Sl Int)) (v25:Int) (v26:Int) (tb2:Trace):((Sl (Sl Int))×(Sl Int))→Nat×St:=fun e=>(2,(ai [Cv 1 c1,Pv 2,Iv 8 n8,Ov 9,Ov 11,Iv 25 v25,Iv 26 v26] [Xb 2 tb2,Lb 2009 e.1,Lb 2011 e.2]))
def dZ (c1:Sl Int) (n8:Int) (out9:Sl (Sl Int)) (v25:Int) (v26:Int) (tb2:Trace):Empty→St:=fun e=>Empty.elim e
noncomputable def aj (c1:Sl Int) (n8:Int) (v25:Int) (tb2:Trace) (out9:Sl (Sl Int)) (v26:Int):Option (Fw ((Sl (Sl Int))×Int) (Sl (Sl Int)) Empty):=
 ao (decide (v26<v25))
 ((pz n8 (0:Int)).bind fun x_1=>
 W2 c1 n8 out9 v26 x_1 v25 v26 n8 0 tb2)
 (some (.x out9))
noncomputable def W1 (c1:Sl Int) (n8:Int) (out9:Sl (Sl Int)) (v25:Int) (v26:Int) (tb2:Trace):Option ((Sl (Sl Int))×Int):=
 (bh (fun q:(Sl (Sl Int))×Int=>aj c1 n8 v25 tb2 q.1 q.2) (out9,v26)).bind (Fw.elim
 (fun e=>some (e,0))
 (fun e=>Empty.elim e))
def bm (c1:Sl Int) (n8:Int) (v25:Int) (tb2:Trace):(Sl (Sl Int))×Int→St:=fun q=>(ai [Cv 1 c1,Pv 2,Iv 8 n8,Ov 9,Iv 25 v25,Iv 26 q.2] [Xb 2 tb2,Lb 2009 q.1])
def bp (c1:Sl Int) (n8:Int) (v25:Int) (tb2:Trace):(Sl (Sl Int))→Nat×St:=fun e=>(0,(ai [Ov 9] [Lb 2009 e]))
def bn (c1:Sl Int) (n8:Int) (v25:Int) (tb2:Trace):Empty→St:=fun e=>Empty.elim e
theorem ct (c1:Sl Int) (n8:Int) (out9:Sl (Sl Int)) (v25:Int) (v26:Int) (tb2:Trace) (p10:Int) (row11:Sl Int) (v31:Int) (v32:Int):Le ((aM c1 n8 out9 v25 v26 tb2 p10 row11 v31 v32).bind (fun w=>some (Fw.out (d6 c1 n8 out9 v25 v26 tb2) (d4 c1 n8 out9 v25 v26 tb2) (dZ c1 n8 out9 v25 v26 tb2) w))) (au Sy cL some (.rc (bL t.body [1,1,1,1,0,1,0,0,0,0,0,0,1,1,0,0,1,1,0,1,0,0,0,0]),[],(ai [Cv 1 c1,Pv 2,Iv 8 n8,Ov 9,Iv 10 p10,Ov 11,Iv 25 v25,Iv 26 v26,Iv 31 v31,Iv 32 v32] [Xb 2 tb2,Lb 2009 out9,Lb 2011 row11]))):=by
 unfold aM;refine aG 9 33 ?_ ?_
 ·refine dy 18 37 ?_ ?_
  ·exact ah
  ·refine aV 7 w6 (tb2,p10,v32) fun x_1 h_1 => ?_
   refine aV 1 tc (x_1,c1) fun x_2 h_2 => ?_
   refine tn .i64 0 2011 fun x_3 h_3 => ?_
   refine G7 0 2011 (.int .i64 x_2) fun x_4 h_4 => ?_
   exact ah
 ·exact ah
theorem fK (c1:Sl Int) (n8:Int) (out9:Sl (Sl Int)) (p10:Int) (row11:Sl Int) (v25:Int) (v26:Int) (v31:Int) (v32:Int) (tb2:Trace):Le ((W2 c1 n8 out9 p10 row11 v25 v26 v31 v32 tb2).bind (fun w=>some (Fw.out (bm c1 n8 v25 tb2) (bp c1 n8 v25 tb2) (bn c1 n8 v25 tb2) w))) (au Sy cL some (bD t.body [1,1,1,1,0,1,0,0,0,0,0,0,1,1,0,0,1,1,0,1,0,0,0,0] [] (ai [Cv 1 c1,Pv 2,Iv 8 n8,Ov 9,Iv 10 p10,Ov 11,Iv 25 v25,Iv 26 v26,Iv 31 v31,Iv 32 v32] [Xb 2 tb2,Lb 2009 out9,Lb 2011 row11]))):=by
 unfold W2;refine cu (d6 c1 n8 out9 v25 v26 tb2) (d4 c1 n8 out9 v25 v26 tb2) (dZ c1 n8 out9 v25 v26 tb2) (fun q=>ct c1 n8 out9 v25 v26 tb2 q.1 q.2.1 q.2.2.1 q.2.2.2) ?_ ?_
 ·intro e;refine KO 6 50 ([e.2]:List (Sl Int)) ?_;refine tu 0 2009 50 51 fun x_1 h_1 => ?_
  exact ah
 ·intro e;exact Empty.elim e
theorem aF (c1:Sl Int) (n8:Int) (v25:Int) (tb2:Trace) (out9:Sl (Sl Int)) (v26:Int):Le ((aj c1 n8 v25 tb2 out9 v26).bind (fun w=>some (Fw.out (bm c1 n8 v25 tb2) (bp c1 n8 v25 tb2) (bn c1 n8 v25 tb2) w))) (au Sy cL some (.rc (bL t.body [1,1,1,1,0,1,0,0,0]),[],(ai [Cv 1 c1,Pv 2,Iv 8 n8,Ov 9,Iv 25 v25,Iv 26 v26] [Xb 2 tb2,Lb 2009 out9]))):=by
 unfold aj;refine aG 8 27 ?_ ?_
 ·refine Ls 14 30 fun x_1 h_1 => ?_
  exact bZ 14 (fK c1 n8 out9 v26 x_1 v25 v26 n8 0 tb2)
 ·exact ah
theorem bW (c1:Sl Int) (n8:Int) (out9:Sl (Sl Int)) (v25:Int) (v26:Int) (tb2:Trace):Le ((W1 c1 n8 out9 v25 v26 tb2).bind (fun r=>some [enc r.1,.int .i64 r.2])) (au Sy cL (c6 t.rs) (bD t.body [1,1,1,1,0,1,0,0,0] [] (ai [Cv 1 c1,Pv 2,Iv 8 n8,Ov 9,Iv 25 v25,Iv 26 v26] [Xb 2 tb2,Lb 2009 out9]))):=by
 unfold W1;refine cu (bm c1 n8 v25 tb2) (bp c1 n8 v25 tb2) (bn c1 n8 v25 tb2) (fun q=>aF c1 n8 v25 tb2 q.1 q.2) ?_ ?_
 ·intro e;exact ah
 ·intro e;exact Empty.elim e
end bQ
noncomputable def bQ (t0:Trace) (c1:Sl Int):Option ((Sl (Sl Int))×Int):=
 (dP t0 c1).bind fun x_1=>
 ao (x_1.2==0)
 (bQ.W1 c1 (len t0.procs) (Sl.nil:Sl (Sl Int)) (len t0.procs) 0 t0)
 (some (Sl.nil,x_1.2))
open bQ in
theorem oZ:aR Sy cL (bq 56) (fun z:Trace×(Sl Int)=>[enc z.1,enc z.2]) (fun r:(Sl (Sl Int))×Int=>[enc r.1,.int .i64 r.2]) (fun z=>bQ z.1 z.2) false:=aR.yF bQ.t (by
 rintro⟨t0,c1⟩;show Le ((bQ t0 c1).bind _) (au _ _ _ _);unfold bQ;refine dJ 2 2 t0 ?_;refine aV 9 xm (t0,c1) fun x_1 h_1 => ?_
 refine dy 13 20 ?_ ?_
 ·refine bK 7 t0.procs ?_;exact bZ 18 (bW c1 (len t0.procs) (Sl.nil:Sl (Sl Int)) (len t0.procs) 0 t0)
 ·exact ah)
namespace cM
noncomputable def aj (s0:Sl Int) (v7:Int) (v8:Int) (p1:Int→Option Bool):Option (Fw Int Unit Int):=
 ao (decide (v8<v7))
 ((idx s0 v8).bind fun x_1=>
 (p1 x_1).bind fun x_2=>
 ao x_2
 (some (.r v8))
 (some (.n (IntKind.wrap .i64 (v8+1)))))
 (some (.x ()))
noncomputable def W1 (s0:Sl Int) (v7:Int) (v8:Int) (p1:Int→Option Bool):Option Int:=
 (bh (fun q:Int=>aj s0 v7 q p1) v8).bind (Fw.elim
 (fun e=>some (-1))
 (fun e=>some e))
def bm (g1:FuncId) (e1:List V) (s0:Sl Int) (v7:Int):Int→St:=fun q=>(ai [Cv 0 s0,(1,.v (.clo g1 [] e1)),Iv 7 v7,Iv 8 q] [])
def bp (g1:FuncId) (e1:List V) (s0:Sl Int) (v7:Int):Unit→Nat×St:=fun e=>(0,(ai [] []))
def bn (g1:FuncId) (e1:List V) (s0:Sl Int) (v7:Int):Int→St:=fun e=>(ai [Iv 4 e] [])
theorem aF (g1:FuncId) (e1:List V) (p1:Int→Option Bool) (h1:iy Sy cL g1 e1 (fun z:Int=>[.int .i64 z]) (fun r:Bool=>[.bool r]) p1) (s0:Sl Int) (v7:Int) (v8:Int):Le ((aj s0 v7 v8 p1).bind (fun w=>some (Fw.out (bm g1 e1 s0 v7) (bp g1 e1 s0 v7) (bn g1 e1 s0 v7) w))) (au Sy cL some (.rc (bL t.body [1,0,1,0,0]),[],(ai [Cv 0 s0,(1,.v (.clo g1 [] e1)),Iv 7 v7,Iv 8 v8] []))):=by
 unfold aj;refine aG 7 9 ?_ ?_
 ·refine bH 16 fun x_1 h_1 => ?_
  refine aV 1 h1.f x_1 fun x_2 h_2 => ?_
  refine aG 2 16 ?_ ?_
  ·exact ah
  ·exact ah
 ·exact ah
theorem bW (g1:FuncId) (e1:List V) (p1:Int→Option Bool) (h1:iy Sy cL g1 e1 (fun z:Int=>[.int .i64 z]) (fun r:Bool=>[.bool r]) p1) (s0:Sl Int) (v7:Int) (v8:Int):Le ((W1 s0 v7 v8 p1).bind (fun r=>some [.int .i64 r])) (au Sy cL (c6 t.rs) (bD t.body [1,0,1,0,0] [] (ai [Cv 0 s0,(1,.v (.clo g1 [] e1)),Iv 7 v7,Iv 8 v8] []))):=by
 unfold W1;refine cu (bm g1 e1 s0 v7) (bp g1 e1 s0 v7) (bn g1 e1 s0 v7) (fun q=>aF g1 e1 p1 h1 s0 v7 q) ?_ ?_
 ·intro e;exact ah
 ·intro e;exact ah
end cM
noncomputable def cM (s0:Sl Int) (p1:Int→Option Bool):Option Int:=
 cM.W1 s0 (len s0) 0 p1
open cM in
theorem qK (g1:FuncId) (e1:List V) (p1:Int→Option Bool) (h1:iy Sy cL g1 e1 (fun z:Int=>[.int .i64 z]) (fun r:Bool=>[.bool r]) p1):aR Sy cL (bq 57) (fun z:Sl Int=>[enc z,.clo g1 [] e1]) (fun r:Int=>[.int .i64 r]) (fun z=>cM z p1) true:=aR.dA cM.t (by
 intro s0;show Le ((cM s0 p1).bind _) (au _ _ _ _);unfold cM;refine bK 9 s0 ?_;exact bZ 5 (bW g1 e1 p1 h1 s0 (len s0) 0)) (l:=by intro z;simp[h1.d])
noncomputable def c8 (s0:Sl Int) (p1:Int→Option Bool):Option Bool:=
 (cM s0 p1).bind fun x_1=>
 some (decide (x_1≥0))
theorem oL (g1:FuncId) (e1:List V) (p1:Int→Option Bool) (h1:iy Sy cL g1 e1 (fun z:Int=>[.int .i64 z]) (fun r:Bool=>[.bool r]) p1):aR Sy cL (bq 58) (fun z:Sl Int=>[enc z,.clo g1 [] e1]) (fun r:Bool=>[.bool r]) (fun z=>c8 z p1) true:=aR.dA c8.t (by
 intro s0;show Le ((c8 s0 p1).bind _) (au _ _ _ _);unfold c8;refine aV 9 (qK g1 e1 p1 h1) s0 fun x_1 h_1 => ?_
 exact ah) (l:=by intro z;simp[h1.d])
noncomputable def dS (n0:Int):Option Bool:=
 some (!(n0==0))
theorem qO:aR Sy cL (bq 59) (fun z:Int=>[.int .i64 z]) (fun r:Bool=>[.bool r]) (fun z=>dS z) true:=aR.dA dS.t (by
 intro n0;show Le ((dS n0).bind _) (au _ _ _ _);unfold dS;exact ah)
noncomputable def eN (row0:Sl Int):Option Bool:=
 (c8 row0 (fun z=>dS z)).bind fun x_1=>
 some x_1
theorem sV:aR Sy cL (bq 60) (fun z:Sl Int=>[enc z]) (fun r:Bool=>[.bool r]) (fun z=>eN z) true:=aR.dA eN.t (by
 intro row0;show Le ((eN row0).bind _) (au _ _ _ _);unfold eN;refine aV 8 (oL (bq 59) [] (fun z=>dS z) (iy.of (qO) (fun z=>z) (fun _=>rfl) (fun _=>rfl) (by simp))) row0 fun x_1 h_1 => ?_
 exact ah)
noncomputable def gC (l0:Sl (Sl Int)):Option Bool:=
 (cG l0 (fun z=>eN z)).bind fun x_1=>
 some (!x_1)
theorem vt:aR Sy cL (bq 61) (fun z:Sl (Sl Int)=>[enc z]) (fun r:Bool=>[.bool r]) (fun z=>gC z) true:=aR.dA gC.t (by
 intro l0;show Le ((gC l0).bind _) (au _ _ _ _);unfold gC;refine aV 8 (jT (bq 60) [] (fun z=>eN z) (iy.of (sV) (fun z=>z) (fun _=>rfl) (fun _=>rfl) (by simp))) l0 fun x_1 h_1 => ?_
 exact ah)
noncomputable def eo (t0:Trace) (c1:Sl Int):Option (Bool×Int):=
 (bQ t0 c1).bind fun x_1=>
 (ao (x_1.2==0)
 ((gC x_1.1).bind fun x_2=>
 some x_2)
 (some false):Option Bool).bind fun x_3=>
 some (x_3,x_1.2)
theorem vw:aR Sy cL (bq 62) (fun z:Trace×(Sl Int)=>[enc z.1,enc z.2]) (fun r:Bool×Int=>[.bool r.1,.int .i64 r.2]) (fun z=>eo z.1 z.2) true:=aR.dA eo.t (by
 rintro⟨t0,c1⟩;show Le ((eo t0 c1).bind _) (au _ _ _ _);unfold eo;refine dJ 2 2 t0 ?_;refine aV 8 oZ (t0,c1) fun x_1 h_1 => ?_
 refine aY 12 3 [] (fun x_3=>(ai [Iv 7 x_1.2,Bv 19 x_3] [Xb 2 t0])) ?_ fun x_3 => ?_
 ·refine aG 12 16 ?_ ?_
  ·refine aV 1 vt x_1.1 fun x_2 h_2 => ?_
   exact aC 1
  ·exact aC 3
 ·exact ah)
noncomputable def eS (t0:Trace) (p1:Int) (q2:Int):Option Int:=
 (bX t0).bind fun x_1=>
 ao x_1
 ((ao (decide (p1<0))
 (some true)
 (some (decide (p1≥(len t0.procs)))):Option Bool).bind fun x_2=>
 (ao x_2
 (some true)
 (some (decide (q2<0))):Option Bool).bind fun x_3=>
 (ao x_3
 (some true)
 (some (decide (q2≥(len t0.procs)))):Option Bool).bind fun x_4=>
 (ao x_4
 (some true)
 (some (p1==q2)):Option Bool).bind fun x_5=>
 ao x_5
 (some 2)
 (some 0))
 (some 1)
theorem vu:aR Sy cL (bq 31) (fun z:Trace×Int×Int=>[enc z.1,.int .i64 z.2.1,.int .i64 z.2.2]) (fun r:Int=>[.int .i64 r]) (fun z=>eS z.1 z.2.1 z.2.2) true:=aR.dA eS.t (by
 rintro⟨t0,p1,q2⟩;show Le ((eS t0 p1 q2).bind _) (au _ _ _ _);unfold eS;refine dJ 2 3 t0 ?_;refine bK 7 t0.procs ?_;refine aV 8 nq t0 fun x_1 h_1 => ?_
 refine dy 4 11 ?_ ?_
 ·refine aY 6 4 [] (fun x_2=>(ai [Iv 1 p1,Iv 2 q2,Iv 7 (len t0.procs),Bv 11 false,Bv 22 x_2] [Xb 3 t0])) ?_ fun x_2 => ?_
  ·refine aG 6 18 ?_ ?_
   ·exact aC 4
   ·exact aC 4
  ·refine aY 1 3 [] (fun x_3=>(ai [Iv 1 p1,Iv 2 q2,Iv 7 (len t0.procs),Bv 11 false,Bv 26 x_3] [Xb 3 t0])) ?_ fun x_3 => ?_
   ·refine aG 1 23 ?_ ?_
    ·exact aC 3
    ·exact aC 3
   ·refine aY 1 4 [] (fun x_4=>(ai [Iv 1 p1,Iv 2 q2,Bv 11 false,Bv 31 x_4] [Xb 3 t0])) ?_ fun x_4 => ?_
    ·refine aG 1 27 ?_ ?_
     ·exact aC 4
     ·exact aC 4
    ·refine aY 1 4 [] (fun x_5=>(ai [Bv 11 false,Bv 36 x_5] [Xb 3 t0])) ?_ fun x_5 => ?_
     ·refine aG 1 32 ?_ ?_
      ·exact aC 4
      ·exact aC 4
     ·refine aG 3 15 ?_ ?_
      ·exact ah
      ·exact ah
 ·exact ah)
noncomputable def eV (y0:Event) (v1:Event):Option Bool:=
 (ao (y0.kind==3)
 (some (y0.message==v1.message))
 (some false):Option Bool).bind fun x_1=>
 some x_1
theorem tM:aR Sy cL (bq 32) (fun z:Event×Event=>[enc z.1,.fptr (cells z.2)]) (fun r:Bool=>[.bool r]) (fun z=>eV z.1 z.2) true:=aR.dA eV.t (by
 rintro⟨y0,v1⟩;show Le ((eV y0 v1).bind _) (au _ _ _ _);unfold eV;refine dJ 2 2 y0 ?_;refine aY 9 6 [] (fun x_1=>(ai [Bv 13 x_1] [Xb 2 y0])) ?_ fun x_1 => ?_
 ·refine aG 9 7 ?_ ?_
  ·exact aC 6
  ·exact aC 6
 ·exact ah)
namespace cV
noncomputable def aj (q2:Int) (v26:Sl Event) (v27:Int) (tb3:Trace) (last9:Int) (missing10:Bool) (v28:Int):Option (Fw (Int×Bool×Int) Unit Unit):=
 ao (decide (v28<v27))
 ((idx v26 v28).bind fun x_1=>
 (ao (x_1.kind==2)
 (some (!(x_1.peer==q2)))
 (some true):Option Bool).bind fun x_2=>
 ao x_2
 (some (.n (last9,missing10,IntKind.wrap .i64 (v28+1))))
 ((idx tb3.procs q2).bind fun x_3=>
 (bV x_3.events (fun z=>eV z x_1)).bind fun x_4=>
 ao ((IntKind.wrap .i64 (x_4+1))==0)
 (some (.n (last9,true,IntKind.wrap .i64 (v28+1))))
 ((ao missing10
 (some true)
 (some (decide ((IntKind.wrap .i64 (x_4+1))<last9))):Option Bool).bind fun x_5=>
 ao x_5
 (some (.r ()))
 (some (.n (IntKind.wrap .i64 (x_4+1),missing10,IntKind.wrap .i64 (v28+1)))))))
 (some (.x ()))
noncomputable def W1 (q2:Int) (last9:Int) (missing10:Bool) (v26:Sl Event) (v27:Int) (v28:Int) (tb3:Trace):Option (Bool×Int):=
 (bh (fun q:Int×Bool×Int=>aj q2 v26 v27 tb3 q.1 q.2.1 q.2.2) (last9,missing10,v28)).bind (Fw.elim
 (fun e=>some (true,0))
 (fun e=>some (false,0)))
def bm (q2:Int) (v26:Sl Event) (v27:Int) (tb3:Trace):Int×Bool×Int→St:=fun q=>(ai [Iv 2 q2,Pv 3,Iv 9 q.1,Bv 10 q.2.1,Cv 26 v26,Iv 27 v27,Iv 28 q.2.2] [Xb 3 tb3])
def bp (q2:Int) (v26:Sl Event) (v27:Int) (tb3:Trace):Unit→Nat×St:=fun e=>(0,(ai [] []))
def bn (q2:Int) (v26:Sl Event) (v27:Int) (tb3:Trace):Unit→St:=fun e=>(ai [Bv 6 false,Iv 7 0] [])
theorem aF (q2:Int) (v26:Sl Event) (v27:Int) (tb3:Trace) (last9:Int) (missing10:Bool) (v28:Int):Le ((aj q2 v26 v27 tb3 last9 missing10 v28).bind (fun w=>some (Fw.out (bm q2 v26 v27 tb3) (bp q2 v26 v27 tb3) (bn q2 v26 v27 tb3) w))) (au Sy cL some (.rc (bL t.body [1,1,1,0,1,0,0]),[],(ai [Iv 2 q2,Pv 3,Iv 9 last9,Bv 10 missing10,Cv 26 v26,Iv 27 v27,Iv 28 v28] [Xb 3 tb3]))):=by
 unfold aj;refine aG 7 29 ?_ ?_
 ·refine bH 7 fun x_1 h_1 => ?_
  refine kZ 2 12 0 x_1 ?_;refine aY 9 5 [] (fun x_2=>(ai [Iv 2 q2,Pv 3,Iv 9 last9,Bv 10 missing10,Cv 26 v26,Iv 27 v27,Iv 28 v28,Bv 29 true,Pv 12,Bv 40 x_2] [Xb 3 tb3,Xb 12 x_1])) ?_ fun x_2 => ?_
  ·refine dy 9 35 ?_ ?_
   ·exact aC 5
   ·exact aC 5
  ·refine aG 2 40 ?_ ?_
   ·exact ah
   ·refine bH 8 fun x_3 h_3 => ?_
    refine jE 3 (kq (bq 32) [.fptr (cells x_1)] (fun z=>eV z x_1) (iy.of (tM) (fun z=>(z,x_1)) (fun _=>rfl) (fun _=>rfl) (by simp))) x_3.events fun x_4 h_4 => ?_
    refine aG 11 51 ?_ ?_
    ·exact ah
    ·refine aY 8 4 [] (fun x_5=>(ai [Iv 2 q2,Pv 3,Bv 10 missing10,Cv 26 v26,Iv 27 v27,Iv 28 v28,Bv 29 true,Bv 40 false,Iv 13 (IntKind.wrap .i64 (x_4+1)),Bv 51 false,Bv 57 x_5] [Xb 3 tb3,Xb 12 x_1])) ?_ fun x_5 => ?_
     ·refine aG 8 53 ?_ ?_
      ·exact aC 4
      ·exact aC 4
     ·refine aG 2 57 ?_ ?_
      ·exact ah
      ·exact ah
 ·exact ah
theorem bW (q2:Int) (last9:Int) (missing10:Bool) (v26:Sl Event) (v27:Int) (v28:Int) (tb3:Trace):Le ((W1 q2 last9 missing10 v26 v27 v28 tb3).bind (fun r=>some [.bool r.1,.int .i64 r.2])) (au Sy cL (c6 t.rs) (bD t.body [1,1,1,0,1,0,0] [] (ai [Iv 2 q2,Pv 3,Iv 9 last9,Bv 10 missing10,Cv 26 v26,Iv 27 v27,Iv 28 v28] [Xb 3 tb3]))):=by
 unfold W1;refine cu (bm q2 v26 v27 tb3) (bp q2 v26 v27 tb3) (bn q2 v26 v27 tb3) (fun q=>aF q2 v26 v27 tb3 q.1 q.2.1 q.2.2) ?_ ?_
 ·intro e;exact ah
 ·intro e;exact ah
end cV
noncomputable def cV (t0:Trace) (p1:Int) (q2:Int):Option (Bool×Int):=
 (eS t0 p1 q2).bind fun x_1=>
 ao (x_1==0)
 ((idx t0.procs p1).bind fun x_2=>
 cV.W1 q2 0 false x_2.events (len x_2.events) 0 t0)
 (some (false,x_1))
open cV in
theorem wj:aR Sy cL (bq 33) (fun z:Trace×Int×Int=>[enc z.1,.int .i64 z.2.1,.int .i64 z.2.2]) (fun r:Bool×Int=>[.bool r.1,.int .i64 r.2]) (fun z=>cV z.1 z.2.1 z.2.2) true:=aR.dA cV.t (by
 rintro⟨t0,p1,q2⟩;show Le ((cV t0 p1 q2).bind _) (au _ _ _ _);unfold cV;refine dJ 2 3 t0 ?_;refine aV 10 vu (t0,p1,q2) fun x_1 h_1 => ?_
 refine dy 9 19 ?_ ?_
 ·refine bH 15 fun x_2 h_2 => ?_
  refine bK 2 x_2.events ?_;exact bZ 5 (bW q2 0 false x_2.events (len x_2.events) 0 t0)
 ·exact ah)
noncomputable def fq (c0:Int):Option Bool:=
 (ao (decide (c0≥65))
 (some (decide (c0≤90)))
 (some false):Option Bool).bind fun x_1=>
 (ao x_1
 (some true)
 ((ao (decide (c0≥97))
 (some (decide (c0≤122)))
 (some false):Option Bool).bind fun x_2=>
 some x_2):Option Bool).bind fun x_3=>
 some x_3
theorem pH:aR Sy cL (bq 65) (fun z:Int=>[.int .u8 z]) (fun r:Bool=>[.bool r]) (fun z=>fq z) true:=aR.dA fq.t (by
 intro c0;show Le ((fq c0).bind _) (au _ _ _ _);unfold fq;refine aY 10 3 [] (fun x_1=>(ai [(0,.v (.int .u8 c0)),Bv 8 x_1] [])) ?_ fun x_1 => ?_
 ·refine aG 10 5 ?_ ?_
  ·exact aC 3
  ·exact aC 3
 ·refine aY 1 7 [] (fun x_3=>(ai [Bv 16 x_3] [])) ?_ fun x_3 => ?_
  ·refine aG 1 9 ?_ ?_
   ·exact aC 7
   ·refine aY 3 3 [] (fun x_2=>(ai [Bv 9 false,Bv 15 x_2] [])) ?_ fun x_2 => ?_
    ·refine aG 3 12 ?_ ?_
     ·exact aC 3
     ·exact aC 3
    ·exact aC 1
  ·exact ah)
noncomputable def gp (c0:Int):Option Bool:=
 (ao (decide (c0≥48))
 (some (decide (c0≤57)))
 (some false):Option Bool).bind fun x_1=>
 some x_1
theorem wM:aR Sy cL (bq 66) (fun z:Int=>[.int .u8 z]) (fun r:Bool=>[.bool r]) (fun z=>gp z) true:=aR.dA gp.t (by
 intro c0;show Le ((gp c0).bind _) (au _ _ _ _);unfold gp;refine aY 10 3 [] (fun x_1=>(ai [Bv 8 x_1] [])) ?_ fun x_1 => ?_
 ·refine aG 10 5 ?_ ?_
  ·exact aC 3
  ·exact aC 3
 ·exact ah)
namespace dK
noncomputable def aj (s0:ByteArray) (i3:Int):Option (Fw Int Unit Unit):=
 ao (decide (i3<((ByteArray.size s0:Nat):Int)))
 ((gP s0 i3).bind fun x_1=>
 (fq x_1).bind fun x_2=>
 (ao x_2
 (some false)
 ((gP s0 i3).bind fun x_3=>
 (gp x_3).bind fun x_4=>
 some (!x_4)):Option Bool).bind fun x_5=>
 (ao x_5
 ((gP s0 i3).bind fun x_6=>
 some (!(x_6==95)))
 (some false):Option Bool).bind fun x_7=>
 ao x_7
 (some (.r ()))
 (some (.n (IntKind.wrap .i64 (i3+1)))))
 (some (.x ()))
noncomputable def W1 (s0:ByteArray) (i3:Int):Option Bool:=
 (bh (fun q:Int=>aj s0 q) i3).bind (Fw.elim
 (fun e=>some true)
 (fun e=>some false))
def bm (s0:ByteArray):Int→St:=fun q=>(ai [(0,.v (.str s0)),Iv 3 q] [])
def bp (s0:ByteArray):Unit→Nat×St:=fun e=>(0,(ai [] []))
def bn (s0:ByteArray):Unit→St:=fun e=>(ai [Bv 2 false] [])
theorem aF (s0:ByteArray) (i3:Int):Le ((aj s0 i3).bind (fun w=>some (Fw.out (bm s0) (bp s0) (bn s0) w))) (au Sy cL some (.rc (bL t.body [1,1,0,1,0,0]),[],(ai [(0,.v (.str s0)),Iv 3 i3] []))):=by
 unfold aj;refine aG 10 21 ?_ ?_
 ·refine uv 9 .i64 fun x_1 h_1 => ?_
  refine aV 0 pH x_1 fun x_2 h_2 => ?_
  refine aY 2 6 [] (fun x_5=>(ai [(0,.v (.str s0)),Iv 3 i3,Bv 21 true,Bv 35 x_5] [])) ?_ fun x_5 => ?_
  ·refine dy 2 29 ?_ ?_
   ·exact aC 6
   ·refine uv 2 .i64 fun x_3 h_3 => ?_
    refine aV 0 wM x_3 fun x_4 h_4 => ?_
    exact aC 2
  ·refine aY 1 5 [] (fun x_7=>(ai [(0,.v (.str s0)),Iv 3 i3,Bv 21 true,Bv 41 x_7] [])) ?_ fun x_7 => ?_
   ·refine aG 1 36 ?_ ?_
    ·refine uv 2 .i64 fun x_6 h_6 => ?_
     exact aC 2
    ·exact aC 5
   ·refine aG 2 41 ?_ ?_
    ·exact ah
    ·exact ah
 ·exact ah
theorem bW (s0:ByteArray) (i3:Int):Le ((W1 s0 i3).bind (fun r=>some [.bool r])) (au Sy cL (c6 t.rs) (bD t.body [1,1,0,1,0,0] [] (ai [(0,.v (.str s0)),Iv 3 i3] []))):=by
 unfold W1;refine cu (bm s0) (bp s0) (bn s0) (fun q=>aF s0 q) ?_ ?_
 ·intro e;exact ah
 ·intro e;exact ah
end dK
noncomputable def dK (s0:ByteArray):Option Bool:=
 (ao (decide (((ByteArray.size s0:Nat):Int)<1))
 (some true)
 (some (decide (((ByteArray.size s0:Nat):Int)>16))):Option Bool).bind fun x_1=>
 (ao x_1
 (some true)
 ((gP s0 0).bind fun x_2=>
 (fq x_2).bind fun x_3=>
 some (!x_3)):Option Bool).bind fun x_4=>
 ao x_4
 (some false)
 (dK.W1 s0 1)
open dK in
theorem qZ:aR Sy cL (bq 67) (fun z:ByteArray=>[.str z]) (fun r:Bool=>[.bool r]) (fun z=>dK z) true:=aR.dA dK.t (by
 intro s0;show Le ((dK s0).bind _) (au _ _ _ _);unfold dK;refine aY 12 4 [] (fun x_1=>(ai [(0,.v (.str s0)),Bv 11 x_1] [])) ?_ fun x_1 => ?_
 ·refine aG 12 7 ?_ ?_
  ·exact aC 4
  ·exact aC 4
 ·refine aY 1 5 [] (fun x_4=>(ai [(0,.v (.str s0)),Bv 17 x_4] [])) ?_ fun x_4 => ?_
  ·refine aG 1 12 ?_ ?_
   ·exact aC 5
   ·refine uv 1 .i64 fun x_2 h_2 => ?_
    refine aV 0 pH x_2 fun x_3 h_3 => ?_
    exact aC 2
  ·refine aG 2 17 ?_ ?_
   ·exact ah
   ·exact bZ 11 (bW s0 1))
noncomputable def fR (n0:Int):Option Bool:=
 (ao (decide (n0≥(-1073741824)))
 (some (decide (n0≤1073741824)))
 (some false):Option Bool).bind fun x_1=>
 some x_1
theorem qq:aR Sy cL (bq 68) (fun z:Int=>[.int .i64 z]) (fun r:Bool=>[.bool r]) (fun z=>fR z) true:=aR.dA fR.t (by
 intro n0;show Le ((fR n0).bind _) (au _ _ _ _);unfold fR;refine aY 10 3 [] (fun x_1=>(ai [Bv 8 x_1] [])) ?_ fun x_1 => ?_
 ·refine aG 10 5 ?_ ?_
  ·exact aC 3
  ·exact aC 3
 ·exact ah)
namespace cw
noncomputable def dB (i7:Int) (xb5:aS) (j8:Int):Option (Fw Int Unit Unit):=
 ao (decide (j8<i7))
 ((idx xb5.vars j8).bind fun x_1=>
 (idx xb5.vars i7).bind fun x_2=>
 ao (ByteArray.toList x_1.name==ByteArray.toList x_2.name)
 (some (.r ()))
 (some (.n (IntKind.wrap .i64 (j8+1)))))
 (some (.x ()))
noncomputable def W3 (i7:Int) (j8:Int) (xb5:aS):Option (Fw Int Unit Int):=
 (bh (fun q:Int=>dB i7 xb5 q) j8).bind (Fw.elim
 (fun e=>(idx xb5.vars i7).bind fun x_1=>
 (fR x_1.init_).bind fun x_2=>
 ao x_2
 (some (.n (IntKind.wrap .i64 (i7+1))))
 (some (.r 2)))
 (fun e=>some (.r 13)))
def kH (i7:Int) (xb5:aS):Int→St:=fun q=>(ai [Pv 5,Iv 7 i7,Iv 8 q] [Xb 5 xb5])
def kE (i7:Int) (xb5:aS):Unit→Nat×St:=fun e=>(4,(ai [Pv 5,Iv 7 i7] [Xb 5 xb5]))
def kF (i7:Int) (xb5:aS):Unit→St:=fun e=>(ai [Iv 4 13] [])
noncomputable def aM (xb5:aS) (i7:Int):Option (Fw Int Unit Int):=
 ao (decide (i7<(len xb5.vars)))
 ((idx xb5.vars i7).bind fun x_1=>
 (dK x_1.name).bind fun x_2=>
 ao x_2
 (W3 i7 0 xb5)
 (some (.r 13)))
 (some (.x ()))
noncomputable def W2 (i7:Int) (xb5:aS):Option Int:=
 (bh (fun q:Int=>aM xb5 q) i7).bind (Fw.elim
 (fun e=>ao (decide ((len xb5.events)>64))
 (some 5)
 (some 0))
 (fun e=>some e))
def d6 (xb5:aS):Int→St:=fun q=>(ai [Pv 5,Iv 7 q] [Xb 5 xb5])
def d4 (xb5:aS):Unit→Nat×St:=fun e=>(2,(ai [Pv 5] [Xb 5 xb5]))
def dZ (xb5:aS):Int→St:=fun e=>(ai [Iv 4 e] [])
noncomputable def aj (p1:Int) (tb2:Trace) (xb5:aS) (i6:Int):Option (Fw Int Unit Unit):=
 ao (decide (i6<p1))
 ((idx tb2.procs i6).bind fun x_1=>
 ao (ByteArray.toList x_1.name==ByteArray.toList xb5.name)
 (some (.r ()))
 (some (.n (IntKind.wrap .i64 (i6+1)))))
 (some (.x ()))
noncomputable def W1 (p1:Int) (i6:Int) (tb2:Trace) (xb5:aS):Option Int:=
 (bh (fun q:Int=>aj p1 tb2 xb5 q) i6).bind (Fw.elim
 (fun e=>ao (decide ((len xb5.vars)>8))
 (some 5)
 (cw.W2 0 xb5))
 (fun e=>some 13))
def bm (p1:Int) (tb2:Trace) (xb5:aS):Int→St:=fun q=>(ai [Iv 1 p1,Pv 2,Pv 5,Iv 6 q] [Xb 2 tb2,Xb 5 xb5])
def bp (p1:Int) (tb2:Trace) (xb5:aS):Unit→Nat×St:=fun e=>(0,(ai [Pv 5] [Xb 5 xb5]))
def bn (p1:Int) (tb2:Trace) (xb5:aS):Unit→St:=fun e=>(ai [Iv 4 13] [])
theorem gO (i7:Int) (xb5:aS) (j8:Int):Le ((dB i7 xb5 j8).bind (fun w=>some (Fw.out (kH i7 xb5) (kE i7 xb5) (kF i7 xb5) w))) (au Sy cL some (.rc (bL t.body [1,1,1,1,1,0,1,0,0,0,0,1,0,0,1,0,1,0,0]),[],(ai [Pv 5,Iv 7 i7,Iv 8 j8] [Xb 5 xb5]))):=by
 unfold dB;refine aG 9 53 ?_ ?_
 ·refine bH 10 fun x_1 h_1 => ?_
  refine bH 5 fun x_2 h_2 => ?_
  refine aG 5 68 ?_ ?_
  ·exact ah
  ·exact ah
 ·exact ah
theorem nG (i7:Int) (j8:Int) (xb5:aS):Le ((W3 i7 j8 xb5).bind (fun w=>some (Fw.out (d6 xb5) (d4 xb5) (dZ xb5) w))) (au Sy cL some (bD t.body [1,1,1,1,1,0,1,0,0,0,0,1,0,0,1,0,1,0,0] [] (ai [Pv 5,Iv 7 i7,Iv 8 j8] [Xb 5 xb5]))):=by
 unfold W3;refine cu (kH i7 xb5) (kE i7 xb5) (kF i7 xb5) (fun q=>gO i7 xb5 q) ?_ ?_
 ·intro e;refine bH 7 fun x_1 h_1 => ?_
  refine aV 2 qq x_1.init_ fun x_2 h_2 => ?_
  refine dy 3 76 ?_ ?_
  ·exact ah
  ·exact ah
 ·intro e;exact ah
theorem ct (xb5:aS) (i7:Int):Le ((aM xb5 i7).bind (fun w=>some (Fw.out (d6 xb5) (d4 xb5) (dZ xb5) w))) (au Sy cL some (.rc (bL t.body [1,1,1,1,1,0,1,0,0]),[],(ai [Pv 5,Iv 7 i7] [Xb 5 xb5]))):=by
 unfold aM;refine bK 7 xb5.vars ?_;refine aG 3 40 ?_ ?_
 ·refine bH 11 fun x_1 h_1 => ?_
  refine aV 2 qZ x_1.name fun x_2 h_2 => ?_
  refine dy 3 50 ?_ ?_
  ·exact bZ 11 (nG i7 0 xb5)
  ·exact ah
 ·exact ah
theorem fK (i7:Int) (xb5:aS):Le ((W2 i7 xb5).bind (fun r=>some [.int .i64 r])) (au Sy cL (c6 t.rs) (bD t.body [1,1,1,1,1,0,1,0,0] [] (ai [Pv 5,Iv 7 i7] [Xb 5 xb5]))):=by
 unfold W2;refine cu (d6 xb5) (d4 xb5) (dZ xb5) (fun q=>ct xb5 q) ?_ ?_
 ·intro e;refine bK 7 xb5.events ?_;refine aG 3 80 ?_ ?_
  ·exact ah
  ·exact ah
 ·intro e;exact ah
theorem aF (p1:Int) (tb2:Trace) (xb5:aS) (i6:Int):Le ((aj p1 tb2 xb5 i6).bind (fun w=>some (Fw.out (bm p1 tb2 xb5) (bp p1 tb2 xb5) (bn p1 tb2 xb5) w))) (au Sy cL some (.rc (bL t.body [1,1,1,0,1,0,0]),[],(ai [Iv 1 p1,Pv 2,Pv 5,Iv 6 i6] [Xb 2 tb2,Xb 5 xb5]))):=by
 unfold aj;refine aG 9 20 ?_ ?_
 ·refine bH 10 fun x_1 h_1 => ?_
  refine aG 7 31 ?_ ?_
  ·exact ah
  ·exact ah
 ·exact ah
theorem bW (p1:Int) (i6:Int) (tb2:Trace) (xb5:aS):Le ((W1 p1 i6 tb2 xb5).bind (fun r=>some [.int .i64 r])) (au Sy cL (c6 t.rs) (bD t.body [1,1,1,0,1,0,0] [] (ai [Iv 1 p1,Pv 2,Pv 5,Iv 6 i6] [Xb 2 tb2,Xb 5 xb5]))):=by
 unfold W1;refine cu (bm p1 tb2 xb5) (bp p1 tb2 xb5) (bn p1 tb2 xb5) (fun q=>aF p1 tb2 xb5 q) ?_ ?_
 ·intro e;refine bK 7 xb5.vars ?_;refine aG 3 35 ?_ ?_
  ·exact ah
  ·exact bZ 11 (fK 0 xb5)
 ·intro e;exact ah
end cw
noncomputable def cw (t0:Trace) (p1:Int):Option Int:=
 (idx t0.procs p1).bind fun x_1=>
 (dK x_1.name).bind fun x_2=>
 ao x_2
 (cw.W1 p1 0 t0 x_1)
 (some 13)
open cw in
theorem xK:aR Sy cL (bq 69) (fun z:Trace×Int=>[enc z.1,.int .i64 z.2]) (fun r:Int=>[.int .i64 r]) (fun z=>cw z.1 z.2) true:=aR.dA cw.t (by
 rintro⟨t0,p1⟩;show Le ((cw t0 p1).bind _) (au _ _ _ _);unfold cw;refine dJ 2 2 t0 ?_;refine bH 8 fun x_1 h_1 => ?_
 refine kZ 2 5 0 x_1 ?_;refine aV 7 qZ x_1.name fun x_2 h_2 => ?_
 refine dy 3 17 ?_ ?_
 ·exact bZ 11 (bW p1 0 t0 x_1)
 ·exact ah)
namespace cx
noncomputable def dB (p1:Int) (k8:Int) (tb3:Trace) (xb7:Event) (ab9:Assign) (j10:Int):Option (Fw Int Unit Unit):=
 ao (decide (j10<k8))
 ((idx xb7.assign j10).bind fun x_1=>
 ao (x_1.var==ab9.var)
 (some (.r ()))
 (some (.n (IntKind.wrap .i64 (j10+1)))))
 (some (.x ()))
noncomputable def W3 (p1:Int) (k8:Int) (j10:Int) (tb3:Trace) (xb7:Event) (ab9:Assign):Option (Fw Int Unit Int):=
 (bh (fun q:Int=>dB p1 k8 tb3 xb7 ab9 q) j10).bind (Fw.elim
 (fun e=>some (.n (IntKind.wrap .i64 (k8+1))))
 (fun e=>some (.r 8)))
def kH (p1:Int) (k8:Int) (tb3:Trace) (xb7:Event) (ab9:Assign):Int→St:=fun q=>(ai [Iv 1 p1,Pv 3,Pv 7,Iv 8 k8,Pv 9,Iv 10 q] [Xb 3 tb3,Xb 7 xb7,Xb 9 ab9])
def kE (p1:Int) (k8:Int) (tb3:Trace) (xb7:Event) (ab9:Assign):Unit→Nat×St:=fun e=>(2,(ai [Iv 1 p1,Pv 3,Pv 7,Iv 8 k8] [Xb 3 tb3,Xb 7 xb7]))
def kF (p1:Int) (k8:Int) (tb3:Trace) (xb7:Event) (ab9:Assign):Unit→St:=fun e=>(ai [Iv 6 8] [])
noncomputable def aM (p1:Int) (tb3:Trace) (xb7:Event) (k8:Int):Option (Fw Int Unit Int):=
 ao (decide (k8<(len xb7.assign)))
 ((idx xb7.assign k8).bind fun x_1=>
 (ao (decide (x_1.var<0))
 (some true)
 ((idx tb3.procs p1).bind fun x_2=>
 some (decide (x_1.var≥(len x_2.vars)))):Option Bool).bind fun x_3=>
 (ao x_3
 (some true)
 ((fR x_1.value).bind fun x_4=>
 some (!x_4)):Option Bool).bind fun x_5=>
 ao x_5
 (some (.r 2))
 (W3 p1 k8 0 tb3 xb7 x_1))
 (some (.x ()))
noncomputable def W2 (p1:Int) (k8:Int) (tb3:Trace) (xb7:Event):Option Int:=
 (bh (fun q:Int=>aM p1 tb3 xb7 q) k8).bind (Fw.elim
 (fun e=>some 0)
 (fun e=>some e))
def d6 (p1:Int) (tb3:Trace) (xb7:Event):Int→St:=fun q=>(ai [Iv 1 p1,Pv 3,Pv 7,Iv 8 q] [Xb 3 tb3,Xb 7 xb7])
def d4 (p1:Int) (tb3:Trace) (xb7:Event):Unit→Nat×St:=fun e=>(0,(ai [] []))
def dZ (p1:Int) (tb3:Trace) (xb7:Event):Int→St:=fun e=>(ai [Iv 6 e] [])
noncomputable def J1 (p1:Int) (i2:Int) (tb3:Trace) (xb7:Event):Option Int:=
 (ao (decide (xb7.time<0))
 (some true)
 (some (decide (xb7.time>1099511627776))):Option Bool).bind fun x_1=>
 (ao x_1
 (some true)
 ((ao (decide (i2>0))
 ((idx tb3.procs p1).bind fun x_2=>
 (idx x_2.events (IntKind.wrap .i64 (i2-1))).bind fun x_3=>
 some (decide (xb7.time<x_3.time)))
 (some false):Option Bool).bind fun x_4=>
 some x_4):Option Bool).bind fun x_5=>
 ao x_5
 (some 11)
 (ao (decide ((len xb7.assign)>8))
 (some 5)
 (cx.W2 p1 0 tb3 xb7))
theorem gO (p1:Int) (k8:Int) (tb3:Trace) (xb7:Event) (ab9:Assign) (j10:Int):Le ((dB p1 k8 tb3 xb7 ab9 j10).bind (fun w=>some (Fw.out (kH p1 k8 tb3 xb7 ab9) (kE p1 k8 tb3 xb7 ab9) (kF p1 k8 tb3 xb7 ab9) w))) (au Sy cL some (.rc (bL t.body [1,1,1,0,1,1,0,1,0,0,0,0,1,0,0,1,1,1,0,0]),[],(ai [Iv 1 p1,Pv 3,Pv 7,Iv 8 k8,Pv 9,Iv 10 j10] [Xb 3 tb3,Xb 7 xb7,Xb 9 ab9]))):=by
 unfold dB;refine aG 9 135 ?_ ?_
 ·refine bH 10 fun x_1 h_1 => ?_
  refine aG 7 146 ?_ ?_
  ·exact ah
  ·exact ah
 ·exact ah
theorem nG (p1:Int) (k8:Int) (j10:Int) (tb3:Trace) (xb7:Event) (ab9:Assign):Le ((W3 p1 k8 j10 tb3 xb7 ab9).bind (fun w=>some (Fw.out (d6 p1 tb3 xb7) (d4 p1 tb3 xb7) (dZ p1 tb3 xb7) w))) (au Sy cL some (bD t.body [1,1,1,0,1,1,0,1,0,0,0,0,1,0,0,1,1,1,0,0] [] (ai [Iv 1 p1,Pv 3,Pv 7,Iv 8 k8,Pv 9,Iv 10 j10] [Xb 3 tb3,Xb 7 xb7,Xb 9 ab9]))):=by
 unfold W3;refine cu (kH p1 k8 tb3 xb7 ab9) (kE p1 k8 tb3 xb7 ab9) (kF p1 k8 tb3 xb7 ab9) (fun q=>gO p1 k8 tb3 xb7 ab9 q) ?_ ?_
 ·intro e;exact ah
 ·intro e;exact ah
theorem ct (p1:Int) (tb3:Trace) (xb7:Event) (k8:Int):Le ((aM p1 tb3 xb7 k8).bind (fun w=>some (Fw.out (d6 p1 tb3 xb7) (d4 p1 tb3 xb7) (dZ p1 tb3 xb7) w))) (au Sy cL some (.rc (bL t.body [1,1,1,0,1,1,0,1,0,0]),[],(ai [Iv 1 p1,Pv 3,Pv 7,Iv 8 k8] [Xb 3 tb3,Xb 7 xb7]))):=by
 unfold aM;refine bK 7 xb7.assign ?_;refine aG 3 104 ?_ ?_
 ·refine bH 10 fun x_1 h_1 => ?_
  refine aY 12 11 [] (fun x_3=>(ai [Iv 1 p1,Pv 3,Pv 7,Iv 8 k8,Bv 104 true,Pv 9,Bv 126 x_3] [Xb 3 tb3,Xb 7 xb7,Xb 9 x_1])) ?_ fun x_3 => ?_
  ·refine aG 12 115 ?_ ?_
   ·exact aC 11
   ·refine bH 5 fun x_2 h_2 => ?_
    refine bK 2 x_2.vars ?_;exact aC 2
  ·refine aY 1 5 [130] (fun x_5=>(ai [Iv 1 p1,Pv 3,Pv 7,Iv 8 k8,Bv 104 true,Pv 9,Bv 132 x_5] [Xb 3 tb3,Xb 7 xb7,Xb 9 x_1])) ?_ fun x_5 => ?_
   ·refine aG 1 127 ?_ ?_
    ·exact aC 5
    ·refine jE 2 qq x_1.value fun x_4 h_4 => ?_
     exact aC 2
   ·refine aG 2 132 ?_ ?_
    ·exact ah
    ·exact bZ 10 (nG p1 k8 0 tb3 xb7 x_1)
 ·exact ah
theorem fK (p1:Int) (k8:Int) (tb3:Trace) (xb7:Event):Le ((W2 p1 k8 tb3 xb7).bind (fun r=>some [.int .i64 r])) (au Sy cL (c6 t.rs) (bD t.body [1,1,1,0,1,1,0,1,0,0] [] (ai [Iv 1 p1,Pv 3,Pv 7,Iv 8 k8] [Xb 3 tb3,Xb 7 xb7]))):=by
 unfold W2;refine cu (d6 p1 tb3 xb7) (d4 p1 tb3 xb7) (dZ p1 tb3 xb7) (fun q=>ct p1 tb3 xb7 q) ?_ ?_
 ·intro e;exact ah
 ·intro e;exact ah
theorem jB (p1:Int) (i2:Int) (tb3:Trace) (xb7:Event):Le ((J1 p1 i2 tb3 xb7).bind (fun r=>some [.int .i64 r])) (au Sy cL (c6 t.rs) (bD t.body [1,1,1,0] [] (ai [Iv 1 p1,Iv 2 i2,Pv 3,Pv 7] [Xb 3 tb3,Xb 7 xb7]))):=by
 unfold J1;refine aY 7 4 [] (fun x_1=>(ai [Iv 1 p1,Iv 2 i2,Pv 3,Pv 7,Bv 75 x_1] [Xb 3 tb3,Xb 7 xb7])) ?_ fun x_1 => ?_
 ·refine aG 7 71 ?_ ?_
  ·exact aC 4
  ·exact aC 4
 ·refine aY 1 19 [] (fun x_5=>(ai [Iv 1 p1,Pv 3,Pv 7,Bv 95 x_5] [Xb 3 tb3,Xb 7 xb7])) ?_ fun x_5 => ?_
  ·refine aG 1 76 ?_ ?_
   ·exact aC 19
   ·refine aY 3 15 [] (fun x_4=>(ai [Iv 1 p1,Pv 3,Pv 7,Bv 76 false,Bv 94 x_4] [Xb 3 tb3,Xb 7 xb7])) ?_ fun x_4 => ?_
    ·refine aG 3 79 ?_ ?_
     ·refine bH 5 fun x_2 h_2 => ?_
      refine bH 4 fun x_3 h_3 => ?_
      exact aC 4
     ·exact aC 15
    ·exact aC 1
  ·refine aG 2 95 ?_ ?_
   ·exact ah
   ·refine bK 8 xb7.assign ?_;refine aG 3 99 ?_ ?_
    ·exact ah
    ·exact bZ 11 (fK p1 0 tb3 xb7)
end cx
noncomputable def cx (t0:Trace) (p1:Int) (i2:Int):Option Int:=
 (idx t0.procs p1).bind fun x_1=>
 (idx x_1.events i2).bind fun x_2=>
 ao (x_2.kind==1)
 ((ao (x_2.peer==0)
 (some (!(x_2.message==0)))
 (some true):Option Bool).bind fun x_3=>
 ao x_3
 (some 3)
 (cx.J1 p1 i2 t0 x_2))
 ((ao (x_2.kind==2)
 (some false)
 (some (!(x_2.kind==3))):Option Bool).bind fun x_4=>
 (ao x_4
 (some true)
 (some (decide (x_2.peer<0))):Option Bool).bind fun x_5=>
 (ao x_5
 (some true)
 (some (decide (x_2.peer≥(len t0.procs)))):Option Bool).bind fun x_6=>
 (ao x_6
 (some true)
 (some (x_2.peer==p1)):Option Bool).bind fun x_7=>
 (ao x_7
 (some true)
 (some (decide (x_2.message<0))):Option Bool).bind fun x_8=>
 (ao x_8
 (some true)
 (some (decide (x_2.message>199))):Option Bool).bind fun x_9=>
 ao x_9
 (some 3)
 (cx.J1 p1 i2 t0 x_2))
open cx in
theorem zd:aR Sy cL (bq 70) (fun z:Trace×Int×Int=>[enc z.1,.int .i64 z.2.1,.int .i64 z.2.2]) (fun r:Int=>[.int .i64 r]) (fun z=>cx z.1 z.2.1 z.2.2) true:=aR.dA cx.t (by
 rintro⟨t0,p1,i2⟩;show Le ((cx t0 p1 i2).bind _) (au _ _ _ _);unfold cx;refine dJ 2 3 t0 ?_;refine bH 8 fun x_1 h_1 => ?_
 refine bH 3 fun x_2 h_2 => ?_
 refine kZ 2 7 0 x_2 ?_;refine aG 10 22 ?_ ?_
 ·refine aY 7 4 [] (fun x_3=>(ai [Iv 1 p1,Iv 2 i2,Pv 3,Pv 7,Bv 22 true,Bv 30 x_3] [Xb 3 t0,Xb 7 x_2])) ?_ fun x_3 => ?_
  ·refine dy 7 26 ?_ ?_
   ·exact aC 4
   ·exact aC 4
  ·refine aG 2 30 ?_ ?_
   ·exact ah
   ·exact bZ 4 (jB p1 i2 t0 x_2)
 ·refine aY 7 4 [] (fun x_4=>(ai [Iv 1 p1,Iv 2 i2,Pv 3,Pv 7,Bv 22 false,Bv 38 x_4] [Xb 3 t0,Xb 7 x_2])) ?_ fun x_4 => ?_
  ·refine dy 7 34 ?_ ?_
   ·exact aC 4
   ·exact aC 4
  ·refine aY 1 4 [] (fun x_5=>(ai [Iv 1 p1,Iv 2 i2,Pv 3,Pv 7,Bv 22 false,Bv 43 x_5] [Xb 3 t0,Xb 7 x_2])) ?_ fun x_5 => ?_
   ·refine aG 1 39 ?_ ?_
    ·exact aC 4
    ·exact aC 4
   ·refine aY 1 7 [] (fun x_6=>(ai [Iv 1 p1,Iv 2 i2,Pv 3,Pv 7,Bv 22 false,Bv 51 x_6] [Xb 3 t0,Xb 7 x_2])) ?_ fun x_6 => ?_
    ·refine aG 1 44 ?_ ?_
     ·exact aC 7
     ·refine bK 4 t0.procs ?_;exact aC 2
    ·refine aY 1 5 [] (fun x_7=>(ai [Iv 1 p1,Iv 2 i2,Pv 3,Pv 7,Bv 22 false,Bv 57 x_7] [Xb 3 t0,Xb 7 x_2])) ?_ fun x_7 => ?_
     ·refine aG 1 52 ?_ ?_
      ·exact aC 5
      ·exact aC 5
     ·refine aY 1 4 [] (fun x_8=>(ai [Iv 1 p1,Iv 2 i2,Pv 3,Pv 7,Bv 22 false,Bv 62 x_8] [Xb 3 t0,Xb 7 x_2])) ?_ fun x_8 => ?_
      ·refine aG 1 58 ?_ ?_
       ·exact aC 4
       ·exact aC 4
      ·refine aY 1 4 [] (fun x_9=>(ai [Iv 1 p1,Iv 2 i2,Pv 3,Pv 7,Bv 22 false,Bv 67 x_9] [Xb 3 t0,Xb 7 x_2])) ?_ fun x_9 => ?_
       ·refine aG 1 63 ?_ ?_
        ·exact aC 4
        ·exact aC 4
       ·refine aG 2 67 ?_ ?_
        ·exact ah
        ·exact bZ 4 (jB p1 i2 t0 x_2))
namespace dG
noncomputable def aj (tb2:Trace) (xb3:aa) (eb5:Event) (sent6:Bool) (i7:Int):Option (Fw (Bool×Int) Bool Empty):=
 (idx tb2.procs eb5.peer).bind fun x_1=>
 ao (decide (i7<(len x_1.events)))
 ((idx tb2.procs eb5.peer).bind fun x_2=>
 (idx x_2.events i7).bind fun x_3=>
 (ao sent6
 (some true)
 ((ao (x_3.kind==2)
 (some (x_3.message==eb5.message))
 (some false):Option Bool).bind fun x_4=>
 (ao x_4
 (some (x_3.peer==xb3.proc))
 (some false):Option Bool).bind fun x_5=>
 some x_5):Option Bool).bind fun x_6=>
 some (.n (x_6,IntKind.wrap .i64 (i7+1))))
 (some (.x sent6))
noncomputable def W1 (sent6:Bool) (i7:Int) (tb2:Trace) (xb3:aa) (eb5:Event):Option Int:=
 (bh (fun q:Bool×Int=>aj tb2 xb3 eb5 q.1 q.2) (sent6,i7)).bind (Fw.elim
 (fun e=>ao e
 (some 0)
 (some 7))
 (fun e=>Empty.elim e))
def bm (tb2:Trace) (xb3:aa) (eb5:Event):Bool×Int→St:=fun q=>(ai [Pv 2,Pv 3,Pv 5,Bv 6 q.1,Iv 7 q.2] [Xb 2 tb2,Xb 3 xb3,Xb 5 eb5])
def bp (tb2:Trace) (xb3:aa) (eb5:Event):Bool→Nat×St:=fun e=>(0,(ai [Bv 6 e] []))
def bn (tb2:Trace) (xb3:aa) (eb5:Event):Empty→St:=fun e=>Empty.elim e
theorem aF (tb2:Trace) (xb3:aa) (eb5:Event) (sent6:Bool) (i7:Int):Le ((aj tb2 xb3 eb5 sent6 i7).bind (fun w=>some (Fw.out (bm tb2 xb3 eb5) (bp tb2 xb3 eb5) (bn tb2 xb3 eb5) w))) (au Sy cL some (.rc (bL t.body [1,1,1,1,0,1,0,1,0,1,0,0]),[],(ai [Pv 2,Pv 3,Pv 5,Bv 6 sent6,Iv 7 i7] [Xb 2 tb2,Xb 3 xb3,Xb 5 eb5]))):=by
 unfold aj;refine bH 9 fun x_1 h_1 => ?_
 refine bK 2 x_1.events ?_;refine aG 3 35 ?_ ?_
 ·refine bH 11 fun x_2 h_2 => ?_
  refine bH 3 fun x_3 h_3 => ?_
  refine kZ 2 8 0 x_3 ?_;refine aY 5 18 [] (fun x_6=>(ai [Pv 2,Pv 3,Pv 5,Iv 7 i7,Bv 35 true,Bv 67 x_6] [Xb 2 tb2,Xb 3 xb3,Xb 5 eb5,Xb 8 x_3])) ?_ fun x_6 => ?_
  ·refine aG 5 49 ?_ ?_
   ·exact aC 18
   ·refine aY 4 6 [] (fun x_4=>(ai [Pv 2,Pv 3,Pv 5,Iv 7 i7,Bv 35 true,Pv 8,Bv 49 false,Bv 59 x_4] [Xb 2 tb2,Xb 3 xb3,Xb 5 eb5,Xb 8 x_3])) ?_ fun x_4 => ?_
    ·refine aG 4 53 ?_ ?_
     ·exact aC 6
     ·exact aC 6
    ·refine aY 1 6 [] (fun x_5=>(ai [Pv 2,Pv 3,Pv 5,Iv 7 i7,Bv 35 true,Bv 49 false,Bv 66 x_5] [Xb 2 tb2,Xb 3 xb3,Xb 5 eb5,Xb 8 x_3])) ?_ fun x_5 => ?_
     ·refine aG 1 60 ?_ ?_
      ·exact aC 6
      ·exact aC 6
     ·exact aC 1
  ·exact ah
 ·exact ah
theorem bW (sent6:Bool) (i7:Int) (tb2:Trace) (xb3:aa) (eb5:Event):Le ((W1 sent6 i7 tb2 xb3 eb5).bind (fun r=>some [.int .i64 r])) (au Sy cL (c6 t.rs) (bD t.body [1,1,1,1,0,1,0,1,0,1,0,0] [] (ai [Pv 2,Pv 3,Pv 5,Bv 6 sent6,Iv 7 i7] [Xb 2 tb2,Xb 3 xb3,Xb 5 eb5]))):=by
 unfold W1;refine cu (bm tb2 xb3 eb5) (bp tb2 xb3 eb5) (bn tb2 xb3 eb5) (fun q=>aF tb2 xb3 eb5 q.1 q.2) ?_ ?_
 ·intro e;refine dy 8 69 ?_ ?_
  ·exact ah
  ·exact ah
 ·intro e;exact Empty.elim e
end dG
noncomputable def dG (t0:Trace) (x1:aa):Option Int:=
 (iz t0 x1).bind fun x_1=>
 ao (x_1.kind==1)
 (some 0)
 ((bP t0 x_1.kind x_1.message).bind fun x_2=>
 ao (Dh x_2 x1)
 (ao (x_1.kind==3)
 (dG.W1 false 0 t0 x1 x_1)
 (some 0))
 (some 8))
open dG in
theorem vv:aR Sy cL (bq 73) (fun z:Trace×aa=>[enc z.1,enc z.2]) (fun r:Int=>[.int .i64 r]) (fun z=>dG z.1 z.2) true:=aR.dA dG.t (by
 rintro⟨t0,x1⟩;show Le ((dG t0 x1).bind _) (au _ _ _ _);unfold dG;refine dJ 2 2 t0 ?_;refine aV 8 tH (t0,x1) fun x_1 h_1 => ?_
 refine kZ 1 5 0 x_1 ?_;refine aG 10 14 ?_ ?_
 ·exact ah
 ·refine jE 11 gU (t0,x_1.kind,x_1.message) fun x_2 h_2 => ?_
  refine dy 4 22 ?_ ?_
  ·refine aG 11 25 ?_ ?_
   ·exact bZ 14 (bW false 0 t0 x1 x_1)
   ·exact ah
  ·exact ah)
namespace bC
noncomputable def J4 (done3:Sl Int) (p5:Int) (tb1:Trace):Option (Fw ((Sl Int)×Bool) ((Sl Int)×Bool) Empty):=
 (Sl.lW done3 p5).bind fun x_1=>
 (Sl.get done3 x_1).bind fun x_2=>
 (Sl.lW done3 p5).bind fun x_3=>
 (Sl.put done3 x_3 (IntKind.wrap .i64 (x_2+1):Int)).bind fun x_4=>
 some (.n (x_4,true))
noncomputable def dB (p5:Int) (tb1:Trace) (done3:Sl Int) (moved4:Bool):Option (Fw ((Sl Int)×Bool) ((Sl Int)×Bool) Empty):=
 (Sl.lW done3 p5).bind fun x_1=>
 (Sl.get done3 x_1).bind fun x_2=>
 (idx tb1.procs p5).bind fun x_3=>
 ao (decide (x_2<(len x_3.events)))
 ((idx tb1.procs p5).bind fun x_4=>
 (Sl.lW done3 p5).bind fun x_5=>
 (Sl.get done3 x_5).bind fun x_6=>
 (idx x_4.events x_6).bind fun x_7=>
 ao (x_7.kind==3)
 ((bP tb1 2 x_7.message).bind fun x_8=>
 (Sl.lW done3 x_8.proc).bind fun x_9=>
 (Sl.get done3 x_9).bind fun x_10=>
 ao (decide (x_10<x_8.index))
 (some (.x (done3,moved4)))
 (J4 done3 p5 tb1))
 (J4 done3 p5 tb1))
 (some (.x (done3,moved4)))
noncomputable def W3 (done3:Sl Int) (moved4:Bool) (p5:Int) (tb1:Trace):Option (Fw ((Sl Int)×Bool×Int) ((Sl Int)×Bool) Empty):=
 (bh (fun q:(Sl Int)×Bool=>dB p5 tb1 q.1 q.2) (done3,moved4)).bind (Fw.elim
 (fun e=>some (.n (e.1,e.2,IntKind.wrap .i64 (p5+1))))
 (fun e=>Empty.elim e))
def kH (p5:Int) (tb1:Trace):(Sl Int)×Bool→St:=fun q=>(ai [Pv 1,Ov 3,Bv 4 q.2,Iv 5 p5] [Xb 1 tb1,Lb 2003 q.1])
def kE (p5:Int) (tb1:Trace):((Sl Int)×Bool)→Nat×St:=fun e=>(4,(ai [Pv 1,Ov 3,Bv 4 e.2,Iv 5 p5] [Xb 1 tb1,Lb 2003 e.1]))
def kF (p5:Int) (tb1:Trace):Empty→St:=fun e=>Empty.elim e
noncomputable def aM (tb1:Trace) (done3:Sl Int) (moved4:Bool) (p5:Int):Option (Fw ((Sl Int)×Bool×Int) ((Sl Int)×Bool) Empty):=
 ao (decide (p5<(len tb1.procs)))
 (W3 done3 moved4 p5 tb1)
 (some (.x (done3,moved4)))
noncomputable def W2 (done3:Sl Int) (moved4:Bool) (p5:Int) (tb1:Trace):Option (Fw (Sl Int) (Sl Int) Empty):=
 (bh (fun q:(Sl Int)×Bool×Int=>aM tb1 q.1 q.2.1 q.2.2) (done3,moved4,p5)).bind (Fw.elim
 (fun e=>ao e.2
 (some (.n e.1))
 (some (.x e.1)))
 (fun e=>Empty.elim e))
def d6 (tb1:Trace):(Sl Int)×Bool×Int→St:=fun q=>(ai [Pv 1,Ov 3,Bv 4 q.2.1,Iv 5 q.2.2] [Xb 1 tb1,Lb 2003 q.1])
def d4 (tb1:Trace):((Sl Int)×Bool)→Nat×St:=fun e=>(2,(ai [Pv 1,Ov 3,Bv 4 e.2] [Xb 1 tb1,Lb 2003 e.1]))
def dZ (tb1:Trace):Empty→St:=fun e=>Empty.elim e
noncomputable def lJ (done3:Sl Int) (tb1:Trace) (p8:Int):Option (Fw Int Unit Unit):=
 ao (decide (p8<(len tb1.procs)))
 ((Sl.lW done3 p8).bind fun x_1=>
 (Sl.get done3 x_1).bind fun x_2=>
 (idx tb1.procs p8).bind fun x_3=>
 ao (decide (x_2<(len x_3.events)))
 (some (.r ()))
 (some (.n (IntKind.wrap .i64 (p8+1)))))
 (some (.x ()))
noncomputable def W5 (done3:Sl Int) (p8:Int) (tb1:Trace):Option Bool:=
 (bh (fun q:Int=>lJ done3 tb1 q) p8).bind (Fw.elim
 (fun e=>some true)
 (fun e=>some false))
def Bm (done3:Sl Int) (tb1:Trace):Int→St:=fun q=>(ai [Pv 1,Ov 3,Iv 8 q] [Xb 1 tb1,Lb 2003 done3])
def Bs (done3:Sl Int) (tb1:Trace):Unit→Nat×St:=fun e=>(6,(ai [] []))
def BR (done3:Sl Int) (tb1:Trace):Unit→St:=fun e=>(ai [Bv 2 false] [])
noncomputable def aj (tb1:Trace) (done3:Sl Int):Option (Fw (Sl Int) (Sl Int) Empty):=
 W2 done3 false 0 tb1
noncomputable def W1 (done3:Sl Int) (tb1:Trace):Option Bool:=
 (bh (fun q:Sl Int=>aj tb1 q) done3).bind (Fw.elim
 (fun e=>bC.W5 e 0 tb1)
 (fun e=>Empty.elim e))
def bm (tb1:Trace):Sl Int→St:=fun q=>(ai [Pv 1,Ov 3] [Xb 1 tb1,Lb 2003 q])
def bp (tb1:Trace):(Sl Int)→Nat×St:=fun e=>(0,(ai [Pv 1,Ov 3] [Xb 1 tb1,Lb 2003 e]))
def bn (tb1:Trace):Empty→St:=fun e=>Empty.elim e
theorem IX (done3:Sl Int) (p5:Int) (tb1:Trace):Le ((J4 done3 p5 tb1).bind (fun w=>some (Fw.out (kH p5 tb1) (kE p5 tb1) (kF p5 tb1) w))) (au Sy cL some (bD t.body [1,1,0,0,0,0,0,0,0,0,1,0,1,0,0,0,0,0,0,1,0,0,0,0,0,0,0,0,1,0,1,1,0,0] [] (ai [Pv 1,Ov 3,Iv 5 p5] [Xb 1 tb1,Lb 2003 done3]))):=by
 unfold J4;refine tn .i64 4 2003 fun x_1 h_1 => ?_
 refine zD 0 2003 0 1 false (fun x_2=>.int .i64 x_2) fun x_2 h_2 => ?_
 refine tn .i64 1 2003 fun x_3 h_3 => ?_
 refine G7 0 2003 (.int .i64 (IntKind.wrap .i64 (x_2+1))) fun x_4 h_4 => ?_
 exact ah
theorem gO (p5:Int) (tb1:Trace) (done3:Sl Int) (moved4:Bool):Le ((dB p5 tb1 done3 moved4).bind (fun w=>some (Fw.out (kH p5 tb1) (kE p5 tb1) (kF p5 tb1) w))) (au Sy cL some (.rc (bL t.body [1,1,0,0,0,0,0,0,0,0,1,0,1,0,0,0,0,0,0,1,0,0,0,0,0]),[],(ai [Pv 1,Ov 3,Bv 4 moved4,Iv 5 p5] [Xb 1 tb1,Lb 2003 done3]))):=by
 unfold dB;refine tn .i64 7 2003 fun x_1 h_1 => ?_
 refine zD 0 2003 0 1 false (fun x_2=>.int .i64 x_2) fun x_2 h_2 => ?_
 refine bH 3 fun x_3 h_3 => ?_
 refine bK 2 x_3.events ?_;refine aG 3 31 ?_ ?_
 ·refine bH 9 fun x_4 h_4 => ?_
  refine tn .i64 4 2003 fun x_5 h_5 => ?_
  refine zD 0 2003 0 1 false (fun x_6=>.int .i64 x_6) fun x_6 h_6 => ?_
  refine bH 0 fun x_7 h_7 => ?_
  refine kZ 2 6 0 x_7 ?_;refine aG 10 46 ?_ ?_
  ·refine aV 6 gU (tb1,2,x_7.message) fun x_8 h_8 => ?_
   refine tn .i64 9 2003 fun x_9 h_9 => ?_
   refine zD 0 2003 0 1 false (fun x_10=>.int .i64 x_10) fun x_10 h_10 => ?_
   refine aG 5 58 ?_ ?_
   ·exact ah
   ·exact bZ 5 (IX done3 p5 tb1)
  ·exact bZ 5 (IX done3 p5 tb1)
 ·exact ah
theorem nG (done3:Sl Int) (moved4:Bool) (p5:Int) (tb1:Trace):Le ((W3 done3 moved4 p5 tb1).bind (fun w=>some (Fw.out (d6 tb1) (d4 tb1) (dZ tb1) w))) (au Sy cL some (bD t.body [1,1,0,0,0,0,0,0,0,0,1,0,1,0,0,0,0,0,0,1,0,0,0,0,0] [] (ai [Pv 1,Ov 3,Bv 4 moved4,Iv 5 p5] [Xb 1 tb1,Lb 2003 done3]))):=by
 unfold W3;refine cu (kH p5 tb1) (kE p5 tb1) (kF p5 tb1) (fun q=>gO p5 tb1 q.1 q.2) ?_ ?_
 ·intro e;exact ah
 ·intro e;exact Empty.elim e
theorem ct (tb1:Trace) (done3:Sl Int) (moved4:Bool) (p5:Int):Le ((aM tb1 done3 moved4 p5).bind (fun w=>some (Fw.out (d6 tb1) (d4 tb1) (dZ tb1) w))) (au Sy cL some (.rc (bL t.body [1,1,0,0,0,0,0,0,0,0,1,0,1,0,0,0]),[],(ai [Pv 1,Ov 3,Bv 4 moved4,Iv 5 p5] [Xb 1 tb1,Lb 2003 done3]))):=by
 unfold aM;refine bK 8 tb1.procs ?_;refine aG 3 17 ?_ ?_
 ·exact bZ 8 (nG done3 moved4 p5 tb1)
 ·exact ah
theorem fK (done3:Sl Int) (moved4:Bool) (p5:Int) (tb1:Trace):Le ((W2 done3 moved4 p5 tb1).bind (fun w=>some (Fw.out (bm tb1) (bp tb1) (bn tb1) w))) (au Sy cL some (bD t.body [1,1,0,0,0,0,0,0,0,0,1,0,1,0,0,0] [] (ai [Pv 1,Ov 3,Bv 4 moved4,Iv 5 p5] [Xb 1 tb1,Lb 2003 done3]))):=by
 unfold W2;refine cu (d6 tb1) (d4 tb1) (dZ tb1) (fun q=>ct tb1 q.1 q.2.1 q.2.2) ?_ ?_
 ·intro e;refine dy 8 66 ?_ ?_
  ·exact ah
  ·exact ah
 ·intro e;exact Empty.elim e
theorem s7 (done3:Sl Int) (tb1:Trace) (p8:Int):Le ((lJ done3 tb1 p8).bind (fun w=>some (Fw.out (Bm done3 tb1) (Bs done3 tb1) (BR done3 tb1) w))) (au Sy cL some (.rc (bL t.body [1,1,1,0,1,0,0,0]),[],(ai [Pv 1,Ov 3,Iv 8 p8] [Xb 1 tb1,Lb 2003 done3]))):=by
 unfold lJ;refine bK 8 tb1.procs ?_;refine aG 3 71 ?_ ?_
 ·refine tn .i64 9 2003 fun x_1 h_1 => ?_
  refine zD 0 2003 0 1 false (fun x_2=>.int .i64 x_2) fun x_2 h_2 => ?_
  refine bH 3 fun x_3 h_3 => ?_
  refine bK 2 x_3.events ?_;refine aG 3 85 ?_ ?_
  ·exact ah
  ·exact ah
 ·exact ah
theorem DB (done3:Sl Int) (p8:Int) (tb1:Trace):Le ((W5 done3 p8 tb1).bind (fun r=>some [.bool r])) (au Sy cL (c6 t.rs) (bD t.body [1,1,1,0,1,0,0,0] [] (ai [Pv 1,Ov 3,Iv 8 p8] [Xb 1 tb1,Lb 2003 done3]))):=by
 unfold W5;refine cu (Bm done3 tb1) (Bs done3 tb1) (BR done3 tb1) (fun q=>s7 done3 tb1 q) ?_ ?_
 ·intro e;exact ah
 ·intro e;exact ah
theorem aF (tb1:Trace) (done3:Sl Int):Le ((aj tb1 done3).bind (fun w=>some (Fw.out (bm tb1) (bp tb1) (bn tb1) w))) (au Sy cL some (.rc (bL t.body [1,1,0,0,0,0]),[],(ai [Pv 1,Ov 3] [Xb 1 tb1,Lb 2003 done3]))):=by
 unfold aj;exact bZ 17 (fK done3 false 0 tb1)
theorem bW (done3:Sl Int) (tb1:Trace):Le ((W1 done3 tb1).bind (fun r=>some [.bool r])) (au Sy cL (c6 t.rs) (bD t.body [1,1,0,0,0,0] [] (ai [Pv 1,Ov 3] [Xb 1 tb1,Lb 2003 done3]))):=by
 unfold W1;refine cu (bm tb1) (bp tb1) (bn tb1) (fun q=>aF tb1 q) ?_ ?_
 ·intro e;exact bZ 11 (DB e 0 tb1)
 ·intro e;exact Empty.elim e
end bC
noncomputable def bC (t0:Trace):Option Bool:=
 (pz (len t0.procs) (0:Int)).bind fun x_1=>
 bC.W1 x_1 t0
open bC in
theorem tS:aR Sy cL (bq 74) (fun z:Trace=>[enc z]) (fun r:Bool=>[.bool r]) (fun z=>bC z) true:=aR.dA bC.t (by
 intro t0;show Le ((bC t0).bind _) (au _ _ _ _);unfold bC;refine dJ 2 1 t0 ?_;refine bK 7 t0.procs ?_;refine Ls 0 12 fun x_1 h_1 => ?_
 exact bZ 7 (bW x_1 t0))
theorem yz:aR Sy cL (bq 172) (fun z:Trace×aa=>[enc z.1,enc z.2]) (fun r:Sl (Sl Bool)=>[enc r]) (fun z=>kC z.1 z.2) false:=aR.SG (by kernel_rfl) (by kernel_rfl) (fun z r hr=>Iy z.1 z.2 r hr)
namespace bz
noncomputable def dB (p6:Int) (tb1:Trace) (vb2:aa) (i7:Int):Option (Fw Int Unit (Int×aa)):=
 (idx tb1.procs p6).bind fun x_1=>
 ao (decide (i7<(len x_1.events)))
 ((cx tb1 p6 i7).bind fun x_2=>
 ao (x_2==0)
 (some (.n (IntKind.wrap .i64 (i7+1))))
 (some (.r (x_2,(⟨p6,IntKind.wrap .i64 (i7+1)⟩:aa)))))
 (some (.x ()))
noncomputable def W3 (p6:Int) (i7:Int) (tb1:Trace) (vb2:aa):Option (Fw Int Unit (Int×aa)):=
 (bh (fun q:Int=>dB p6 tb1 vb2 q) i7).bind (Fw.elim
 (fun e=>some (.n (IntKind.wrap .i64 (p6+1))))
 (fun e=>some (.r (e.1,e.2))))
def kH (p6:Int) (tb1:Trace) (vb2:aa):Int→St:=fun q=>(ai [Pv 1,Pv 2,Iv 6 p6,Iv 7 q] [Xb 1 tb1,Xb 2 vb2])
def kE (p6:Int) (tb1:Trace) (vb2:aa):Unit→Nat×St:=fun e=>(4,(ai [Pv 1,Pv 2,Iv 6 p6] [Xb 1 tb1,Xb 2 vb2]))
def kF (p6:Int) (tb1:Trace) (vb2:aa):Int×aa→St:=fun e=>(ai [Pv 2,Iv 3 e.1] [Xb 2 e.2])
noncomputable def lJ (p9:Int) (tb1:Trace) (vb2:aa) (i10:Int):Option (Fw Int Unit (Int×aa)):=
 (idx tb1.procs p9).bind fun x_1=>
 ao (decide (i10<(len x_1.events)))
 ((dG tb1 (⟨p9,IntKind.wrap .i64 (i10+1)⟩:aa)).bind fun x_2=>
 ao (x_2==0)
 (some (.n (IntKind.wrap .i64 (i10+1))))
 (some (.r (x_2,(⟨p9,IntKind.wrap .i64 (i10+1)⟩:aa)))))
 (some (.x ()))
noncomputable def W5 (p9:Int) (i10:Int) (tb1:Trace) (vb2:aa):Option (Fw Int Unit (Int×aa)):=
 (bh (fun q:Int=>lJ p9 tb1 vb2 q) i10).bind (Fw.elim
 (fun e=>some (.n (IntKind.wrap .i64 (p9+1))))
 (fun e=>some (.r (e.1,e.2))))
def Bm (p9:Int) (tb1:Trace) (vb2:aa):Int→St:=fun q=>(ai [Pv 1,Pv 2,Iv 9 p9,Iv 10 q] [Xb 1 tb1,Xb 2 vb2])
def Bs (p9:Int) (tb1:Trace) (vb2:aa):Unit→Nat×St:=fun e=>(8,(ai [Pv 1,Pv 2,Iv 9 p9] [Xb 1 tb1,Xb 2 vb2]))
def BR (p9:Int) (tb1:Trace) (vb2:aa):Int×aa→St:=fun e=>(ai [Pv 2,Iv 3 e.1] [Xb 2 e.2])
noncomputable def vo (p13:Int) (tb1:Trace) (vb2:aa) (i14:Int):Option (Fw Int Unit aa):=
 (idx tb1.procs p13).bind fun x_1=>
 ao (decide (i14<(len x_1.events)))
 ((kC tb1 (⟨p13,IntKind.wrap .i64 (i14+1)⟩:aa)).bind fun x_2=>
 (idx x_2 p13).bind fun x_3=>
 (idx x_3 (IntKind.wrap .i64 (i14+1))).bind fun x_4=>
 ao x_4
 (some (.r (⟨p13,IntKind.wrap .i64 (i14+1)⟩:aa)))
 (some (.n (IntKind.wrap .i64 (i14+1)))))
 (some (.x ()))
noncomputable def W7 (p13:Int) (i14:Int) (tb1:Trace) (vb2:aa):Option (Fw Int Unit aa):=
 (bh (fun q:Int=>vo p13 tb1 vb2 q) i14).bind (Fw.elim
 (fun e=>some (.n (IntKind.wrap .i64 (p13+1))))
 (fun e=>some (.r e)))
def Lo (p13:Int) (tb1:Trace) (vb2:aa):Int→St:=fun q=>(ai [Pv 1,Pv 2,Iv 13 p13,Iv 14 q] [Xb 1 tb1,Xb 2 vb2])
def LU (p13:Int) (tb1:Trace) (vb2:aa):Unit→Nat×St:=fun e=>(12,(ai [Pv 1,Pv 2,Iv 13 p13] [Xb 1 tb1,Xb 2 vb2]))
def M_ (p13:Int) (tb1:Trace) (vb2:aa):aa→St:=fun e=>(ai [Pv 2,Iv 3 10] [Xb 2 e])
noncomputable def u6 (tb1:Trace) (vb2:aa) (p13:Int):Option (Fw Int Unit aa):=
 ao (decide (p13<(len tb1.procs)))
 (W7 p13 0 tb1 vb2)
 (some (.x ()))
noncomputable def W6 (p13:Int) (tb1:Trace) (vb2:aa):Option (aa×Int):=
 (bh (fun q:Int=>u6 tb1 vb2 q) p13).bind (Fw.elim
 (fun e=>some (⟨0,0⟩,0))
 (fun e=>some (e,10)))
def HB (tb1:Trace) (vb2:aa):Int→St:=fun q=>(ai [Pv 1,Pv 2,Iv 13 q] [Xb 1 tb1,Xb 2 vb2])
def HQ (tb1:Trace) (vb2:aa):Unit→Nat×St:=fun e=>(10,(ai [Pv 2] [Xb 2 vb2]))
def IA (tb1:Trace) (vb2:aa):aa→St:=fun e=>(ai [Pv 2,Iv 3 10] [Xb 2 e])
noncomputable def vh (tb1:Trace) (vb2:aa) (p9:Int):Option (Fw Int Unit (Int×aa)):=
 ao (decide (p9<(len tb1.procs)))
 (W5 p9 0 tb1 vb2)
 (some (.x ()))
noncomputable def W4 (p9:Int) (tb1:Trace) (vb2:aa):Option (aa×Int):=
 (bh (fun q:Int=>vh tb1 vb2 q) p9).bind (Fw.elim
 (fun e=>(bC tb1).bind fun x_1=>
 ao x_1
 (some (⟨0,0⟩,0))
 (bz.W6 0 tb1 vb2))
 (fun e=>some (e.2,e.1)))
def G6 (tb1:Trace) (vb2:aa):Int→St:=fun q=>(ai [Pv 1,Pv 2,Iv 9 q] [Xb 1 tb1,Xb 2 vb2])
def GQ (tb1:Trace) (vb2:aa):Unit→Nat×St:=fun e=>(6,(ai [Pv 1,Pv 2] [Xb 1 tb1,Xb 2 vb2]))
def Hq (tb1:Trace) (vb2:aa):Int×aa→St:=fun e=>(ai [Pv 2,Iv 3 e.1] [Xb 2 e.2])
noncomputable def aM (tb1:Trace) (vb2:aa) (p6:Int):Option (Fw Int Unit (Int×aa)):=
 ao (decide (p6<(len tb1.procs)))
 (W3 p6 0 tb1 vb2)
 (some (.x ()))
noncomputable def W2 (p6:Int) (tb1:Trace) (vb2:aa):Option (aa×Int):=
 (bh (fun q:Int=>aM tb1 vb2 q) p6).bind (Fw.elim
 (fun e=>bz.W4 0 tb1 vb2)
 (fun e=>some (e.2,e.1)))
def d6 (tb1:Trace) (vb2:aa):Int→St:=fun q=>(ai [Pv 1,Pv 2,Iv 6 q] [Xb 1 tb1,Xb 2 vb2])
def d4 (tb1:Trace) (vb2:aa):Unit→Nat×St:=fun e=>(2,(ai [Pv 1,Pv 2] [Xb 1 tb1,Xb 2 vb2]))
def dZ (tb1:Trace) (vb2:aa):Int×aa→St:=fun e=>(ai [Pv 2,Iv 3 e.1] [Xb 2 e.2])
noncomputable def aj (tb1:Trace) (vb2:aa) (p4:Int):Option (Fw Int Unit (Int×aa)):=
 ao (decide (p4<(len tb1.procs)))
 ((cw tb1 p4).bind fun x_1=>
 ao (x_1==0)
 (some (.n (IntKind.wrap .i64 (p4+1))))
 (some (.r (x_1,(⟨p4,0⟩:aa)))))
 (some (.x ()))
noncomputable def W1 (p4:Int) (tb1:Trace) (vb2:aa):Option (aa×Int):=
 (bh (fun q:Int=>aj tb1 vb2 q) p4).bind (Fw.elim
 (fun e=>bz.W2 0 tb1 vb2)
 (fun e=>some (e.2,e.1)))
def bm (tb1:Trace) (vb2:aa):Int→St:=fun q=>(ai [Pv 1,Pv 2,Iv 4 q] [Xb 1 tb1,Xb 2 vb2])
def bp (tb1:Trace) (vb2:aa):Unit→Nat×St:=fun e=>(0,(ai [Pv 1,Pv 2] [Xb 1 tb1,Xb 2 vb2]))
def bn (tb1:Trace) (vb2:aa):Int×aa→St:=fun e=>(ai [Pv 2,Iv 3 e.1] [Xb 2 e.2])
theorem gO (p6:Int) (tb1:Trace) (vb2:aa) (i7:Int):Le ((dB p6 tb1 vb2 i7).bind (fun w=>some (Fw.out (kH p6 tb1 vb2) (kE p6 tb1 vb2) (kF p6 tb1 vb2) w))) (au Sy cL some (.rc (bL t.body [1,1,1,0,1,0,0,0,0,1,0,0,1,0,0]),[],(ai [Pv 1,Pv 2,Iv 6 p6,Iv 7 i7] [Xb 1 tb1,Xb 2 vb2]))):=by
 unfold dB;refine bH 8 fun x_1 h_1 => ?_
 refine bK 2 x_1.events ?_;refine aG 3 57 ?_ ?_
 ·refine aV 10 zd (tb1,p6,i7) fun x_2 h_2 => ?_
  refine dy 9 65 ?_ ?_
  ·exact ah
  ·exact ah
 ·exact ah
theorem nG (p6:Int) (i7:Int) (tb1:Trace) (vb2:aa):Le ((W3 p6 i7 tb1 vb2).bind (fun w=>some (Fw.out (d6 tb1 vb2) (d4 tb1 vb2) (dZ tb1 vb2) w))) (au Sy cL some (bD t.body [1,1,1,0,1,0,0,0,0,1,0,0,1,0,0] [] (ai [Pv 1,Pv 2,Iv 6 p6,Iv 7 i7] [Xb 1 tb1,Xb 2 vb2]))):=by
 unfold W3;refine cu (kH p6 tb1 vb2) (kE p6 tb1 vb2) (kF p6 tb1 vb2) (fun q=>gO p6 tb1 vb2 q) ?_ ?_
 ·intro e;exact ah
 ·intro e;exact ah
theorem s7 (p9:Int) (tb1:Trace) (vb2:aa) (i10:Int):Le ((lJ p9 tb1 vb2 i10).bind (fun w=>some (Fw.out (Bm p9 tb1 vb2) (Bs p9 tb1 vb2) (BR p9 tb1 vb2) w))) (au Sy cL some (.rc (bL t.body [1,1,1,1,0,1,0,0,0,0,1,0,0,1,0,0]),[],(ai [Pv 1,Pv 2,Iv 9 p9,Iv 10 i10] [Xb 1 tb1,Xb 2 vb2]))):=by
 unfold lJ;refine bH 8 fun x_1 h_1 => ?_
 refine bK 2 x_1.events ?_;refine aG 3 86 ?_ ?_
 ·refine aV 19 vv (tb1,(⟨p9,IntKind.wrap .i64 (i10+1)⟩:aa)) fun x_2 h_2 => ?_
  refine dy 9 97 ?_ ?_
  ·exact ah
  ·exact ah
 ·exact ah
theorem DB (p9:Int) (i10:Int) (tb1:Trace) (vb2:aa):Le ((W5 p9 i10 tb1 vb2).bind (fun w=>some (Fw.out (G6 tb1 vb2) (GQ tb1 vb2) (Hq tb1 vb2) w))) (au Sy cL some (bD t.body [1,1,1,1,0,1,0,0,0,0,1,0,0,1,0,0] [] (ai [Pv 1,Pv 2,Iv 9 p9,Iv 10 i10] [Xb 1 tb1,Xb 2 vb2]))):=by
 unfold W5;refine cu (Bm p9 tb1 vb2) (Bs p9 tb1 vb2) (BR p9 tb1 vb2) (fun q=>s7 p9 tb1 vb2 q) ?_ ?_
 ·intro e;exact ah
 ·intro e;exact ah
theorem DE (p13:Int) (tb1:Trace) (vb2:aa) (i14:Int):Le ((vo p13 tb1 vb2 i14).bind (fun w=>some (Fw.out (Lo p13 tb1 vb2) (LU p13 tb1 vb2) (M_ p13 tb1 vb2) w))) (au Sy cL some (.rc (bL t.body [1,1,1,1,1,1,0,1,0,0,0,0,1,0,0,1,0,0]),[],(ai [Pv 1,Pv 2,Iv 13 p13,Iv 14 i14] [Xb 1 tb1,Xb 2 vb2]))):=by
 unfold vo;refine bH 8 fun x_1 h_1 => ?_
 refine bK 2 x_1.events ?_;refine aG 3 118 ?_ ?_
 ·refine aV 19 yz (tb1,(⟨p13,IntKind.wrap .i64 (i14+1)⟩:aa)) fun x_2 h_2 => ?_
  refine bH 1 fun x_3 h_3 => ?_
  refine bH 3 fun x_4 h_4 => ?_
  refine aG 3 134 ?_ ?_
  ·exact ah
  ·exact ah
 ·exact ah
theorem N_ (p13:Int) (i14:Int) (tb1:Trace) (vb2:aa):Le ((W7 p13 i14 tb1 vb2).bind (fun w=>some (Fw.out (HB tb1 vb2) (HQ tb1 vb2) (IA tb1 vb2) w))) (au Sy cL some (bD t.body [1,1,1,1,1,1,0,1,0,0,0,0,1,0,0,1,0,0] [] (ai [Pv 1,Pv 2,Iv 13 p13,Iv 14 i14] [Xb 1 tb1,Xb 2 vb2]))):=by
 unfold W7;refine cu (Lo p13 tb1 vb2) (LU p13 tb1 vb2) (M_ p13 tb1 vb2) (fun q=>DE p13 tb1 vb2 q) ?_ ?_
 ·intro e;exact ah
 ·intro e;exact ah
theorem EJ (tb1:Trace) (vb2:aa) (p13:Int):Le ((u6 tb1 vb2 p13).bind (fun w=>some (Fw.out (HB tb1 vb2) (HQ tb1 vb2) (IA tb1 vb2) w))) (au Sy cL some (.rc (bL t.body [1,1,1,1,1,1,0,1,0,0]),[],(ai [Pv 1,Pv 2,Iv 13 p13] [Xb 1 tb1,Xb 2 vb2]))):=by
 unfold u6;refine bK 7 tb1.procs ?_;refine aG 3 107 ?_ ?_
 ·exact bZ 12 (N_ p13 0 tb1 vb2)
 ·exact ah
theorem PR (p13:Int) (tb1:Trace) (vb2:aa):Le ((W6 p13 tb1 vb2).bind (fun r=>some [enc r.1,.int .i64 r.2])) (au Sy cL (c6 t.rs) (bD t.body [1,1,1,1,1,1,0,1,0,0] [] (ai [Pv 1,Pv 2,Iv 13 p13] [Xb 1 tb1,Xb 2 vb2]))):=by
 unfold W6;refine cu (HB tb1 vb2) (HQ tb1 vb2) (IA tb1 vb2) (fun q=>EJ tb1 vb2 q) ?_ ?_
 ·intro e;exact ah
 ·intro e;exact ah
theorem Ee (tb1:Trace) (vb2:aa) (p9:Int):Le ((vh tb1 vb2 p9).bind (fun w=>some (Fw.out (G6 tb1 vb2) (GQ tb1 vb2) (Hq tb1 vb2) w))) (au Sy cL some (.rc (bL t.body [1,1,1,1,0,1,0,0]),[],(ai [Pv 1,Pv 2,Iv 9 p9] [Xb 1 tb1,Xb 2 vb2]))):=by
 unfold vh;refine bK 7 tb1.procs ?_;refine aG 3 75 ?_ ?_
 ·exact bZ 12 (DB p9 0 tb1 vb2)
 ·exact ah
theorem QE (p9:Int) (tb1:Trace) (vb2:aa):Le ((W4 p9 tb1 vb2).bind (fun r=>some [enc r.1,.int .i64 r.2])) (au Sy cL (c6 t.rs) (bD t.body [1,1,1,1,0,1,0,0] [] (ai [Pv 1,Pv 2,Iv 9 p9] [Xb 1 tb1,Xb 2 vb2]))):=by
 unfold W4;refine cu (G6 tb1 vb2) (GQ tb1 vb2) (Hq tb1 vb2) (fun q=>Ee tb1 vb2 q) ?_ ?_
 ·intro e;refine aV 6 tS tb1 fun x_1 h_1 => ?_
  refine aG 2 101 ?_ ?_
  ·exact ah
  ·exact bZ 11 (PR 0 tb1 vb2)
 ·intro e;exact ah
theorem ct (tb1:Trace) (vb2:aa) (p6:Int):Le ((aM tb1 vb2 p6).bind (fun w=>some (Fw.out (d6 tb1 vb2) (d4 tb1 vb2) (dZ tb1 vb2) w))) (au Sy cL some (.rc (bL t.body [1,1,1,0,1,0,0]),[],(ai [Pv 1,Pv 2,Iv 6 p6] [Xb 1 tb1,Xb 2 vb2]))):=by
 unfold aM;refine bK 7 tb1.procs ?_;refine aG 3 46 ?_ ?_
 ·exact bZ 12 (nG p6 0 tb1 vb2)
 ·exact ah
theorem fK (p6:Int) (tb1:Trace) (vb2:aa):Le ((W2 p6 tb1 vb2).bind (fun r=>some [enc r.1,.int .i64 r.2])) (au Sy cL (c6 t.rs) (bD t.body [1,1,1,0,1,0,0] [] (ai [Pv 1,Pv 2,Iv 6 p6] [Xb 1 tb1,Xb 2 vb2]))):=by
 unfold W2;refine cu (d6 tb1 vb2) (d4 tb1 vb2) (dZ tb1 vb2) (fun q=>ct tb1 vb2 q) ?_ ?_
 ·intro e;exact bZ 10 (QE 0 tb1 vb2)
 ·intro e;exact ah
theorem aF (tb1:Trace) (vb2:aa) (p4:Int):Le ((aj tb1 vb2 p4).bind (fun w=>some (Fw.out (bm tb1 vb2) (bp tb1 vb2) (bn tb1 vb2) w))) (au Sy cL some (.rc (bL t.body [1,1,0,1,0,0]),[],(ai [Pv 1,Pv 2,Iv 4 p4] [Xb 1 tb1,Xb 2 vb2]))):=by
 unfold aj;refine bK 7 tb1.procs ?_;refine aG 3 31 ?_ ?_
 ·refine aV 9 xK (tb1,p4) fun x_1 h_1 => ?_
  refine dy 9 38 ?_ ?_
  ·exact ah
  ·exact ah
 ·exact ah
theorem bW (p4:Int) (tb1:Trace) (vb2:aa):Le ((W1 p4 tb1 vb2).bind (fun r=>some [enc r.1,.int .i64 r.2])) (au Sy cL (c6 t.rs) (bD t.body [1,1,0,1,0,0] [] (ai [Pv 1,Pv 2,Iv 4 p4] [Xb 1 tb1,Xb 2 vb2]))):=by
 unfold W1;refine cu (bm tb1 vb2) (bp tb1 vb2) (bn tb1 vb2) (fun q=>aF tb1 vb2 q) ?_ ?_
 ·intro e;exact bZ 10 (fK 0 tb1 vb2)
 ·intro e;exact ah
end bz
noncomputable def bz (t0:Trace):Option (aa×Int):=
 (ao (decide ((len t0.procs)<1))
 (some true)
 (some (decide ((len t0.procs)>8))):Option Bool).bind fun x_1=>
 ao x_1
 (some (⟨0,0⟩,1))
 (bz.W1 0 t0 (⟨0,0⟩:aa))
open bz in
theorem wP:aR Sy cL (bq 173) (fun z:Trace=>[enc z]) (fun r:aa×Int=>[enc r.1,.int .i64 r.2]) (fun z=>bz z) true:=aR.dA bz.t (by
 intro t0;show Le ((bz t0).bind _) (au _ _ _ _);unfold bz;refine dJ 2 1 t0 ?_;refine bK 9 t0.procs ?_;refine aY 2 5 [] (fun x_1=>(ai [Pv 1,Pv 2,Bv 25 x_1] [Xb 1 t0,Xb 2 (⟨0,0⟩:aa)])) ?_ fun x_1 => ?_
 ·refine aG 2 20 ?_ ?_
  ·exact aC 5
  ·refine bK 2 t0.procs ?_;exact aC 2
 ·refine aG 2 25 ?_ ?_
  ·exact ah
  ·exact bZ 11 (bW 0 t0 (⟨0,0⟩:aa)))
noncomputable def fm (t0:Trace):Option Bool:=
 (bz t0).bind fun x_1=>
 some (x_1.2==0)
theorem qB:aR Sy cL (bq 174) (fun z:Trace=>[enc z]) (fun r:Bool=>[.bool r]) (fun z=>fm z) true:=aR.dA fm.t (by
 intro t0;show Le ((fm t0).bind _) (au _ _ _ _);unfold fm;refine dJ 2 1 t0 ?_;refine aV 6 wP t0 fun x_1 h_1 => ?_
 exact ah)
noncomputable def hU (t0:Trace) (p1:Int) (q2:Int):Option Bool:=
 (ao (decide (p1≥0))
 (some (decide (p1<(len t0.procs))))
 (some false):Option Bool).bind fun x_1=>
 (ao x_1
 (some (decide (q2≥0)))
 (some false):Option Bool).bind fun x_2=>
 (ao x_2
 (some (decide (q2<(len t0.procs))))
 (some false):Option Bool).bind fun x_3=>
 (ao x_3
 (some (!(p1==q2)))
 (some false):Option Bool).bind fun x_4=>
 some x_4
theorem zf:aR Sy cL (bq 76) (fun z:Trace×Int×Int=>[enc z.1,.int .i64 z.2.1,.int .i64 z.2.2]) (fun r:Bool=>[.bool r]) (fun z=>hU z.1 z.2.1 z.2.2) true:=aR.dA hU.t (by
 rintro⟨t0,p1,q2⟩;show Le ((hU t0 p1 q2).bind _) (au _ _ _ _);unfold hU;refine dJ 2 3 t0 ?_;refine aY 8 6 [] (fun x_1=>(ai [Iv 1 p1,Iv 2 q2,Pv 3,Bv 15 x_1] [Xb 3 t0])) ?_ fun x_1 => ?_
 ·refine aG 8 9 ?_ ?_
  ·refine bK 3 t0.procs ?_;exact aC 2
  ·exact aC 6
 ·refine aY 1 3 [] (fun x_2=>(ai [Iv 1 p1,Iv 2 q2,Pv 3,Bv 19 x_2] [Xb 3 t0])) ?_ fun x_2 => ?_
  ·refine aG 1 16 ?_ ?_
   ·exact aC 3
   ·exact aC 3
  ·refine aY 1 6 [] (fun x_3=>(ai [Iv 1 p1,Iv 2 q2,Bv 26 x_3] [Xb 3 t0])) ?_ fun x_3 => ?_
   ·refine aG 1 20 ?_ ?_
    ·refine bK 3 t0.procs ?_;exact aC 2
    ·exact aC 6
   ·refine aY 1 4 [] (fun x_4=>(ai [Bv 31 x_4] [Xb 3 t0])) ?_ fun x_4 => ?_
    ·refine aG 1 27 ?_ ?_
     ·exact aC 4
     ·exact aC 4
    ·exact ah)
namespace dO
noncomputable def aM (q2:Int) (l7:Sl Event) (i8:Int) (tb3:Trace) (j9:Int):Option (Fw Int Unit Unit):=
 ao (decide (j9<i8))
 ((idx l7 i8).bind fun x_1=>
 (ao (x_1.kind==2)
 ((idx l7 j9).bind fun x_2=>
 some (!(x_2.kind==2)))
 (some true):Option Bool).bind fun x_3=>
 (ao x_3
 (some true)
 ((idx l7 i8).bind fun x_4=>
 some (!(x_4.peer==q2))):Option Bool).bind fun x_5=>
 (ao x_5
 (some true)
 ((idx l7 j9).bind fun x_6=>
 some (!(x_6.peer==q2))):Option Bool).bind fun x_7=>
 ao x_7
 (some (.n (IntKind.wrap .i64 (j9+1))))
 ((idx l7 i8).bind fun x_8=>
 (bP tb3 3 x_8.message).bind fun x_9=>
 (idx l7 j9).bind fun x_10=>
 (bP tb3 3 x_10.message).bind fun x_11=>
 (ao (x_9.index==0)
 (some false)
 ((ao (x_11.index==0)
 (some true)
 (some (decide (x_11.index>x_9.index))):Option Bool).bind fun x_12=>
 some x_12):Option Bool).bind fun x_13=>
 ao x_13
 (some (.r ()))
 (some (.n (IntKind.wrap .i64 (j9+1))))))
 (some (.x ()))
noncomputable def W2 (q2:Int) (l7:Sl Event) (i8:Int) (j9:Int) (tb3:Trace):Option (Fw Int Unit Unit):=
 (bh (fun q:Int=>aM q2 l7 i8 tb3 q) j9).bind (Fw.elim
 (fun e=>some (.n (IntKind.wrap .i64 (i8+1))))
 (fun e=>some (.r ())))
def d6 (q2:Int) (l7:Sl Event) (i8:Int) (tb3:Trace):Int→St:=fun q=>(ai [Iv 2 q2,Pv 3,Cv 7 l7,Iv 8 i8,Iv 9 q] [Xb 3 tb3])
def d4 (q2:Int) (l7:Sl Event) (i8:Int) (tb3:Trace):Unit→Nat×St:=fun e=>(2,(ai [Iv 2 q2,Pv 3,Cv 7 l7,Iv 8 i8] [Xb 3 tb3]))
def dZ (q2:Int) (l7:Sl Event) (i8:Int) (tb3:Trace):Unit→St:=fun e=>(ai [Bv 6 false] [])
noncomputable def aj (q2:Int) (l7:Sl Event) (tb3:Trace) (i8:Int):Option (Fw Int Unit Unit):=
 ao (decide (i8<(len l7)))
 (W2 q2 l7 i8 0 tb3)
 (some (.x ()))
noncomputable def W1 (q2:Int) (l7:Sl Event) (i8:Int) (tb3:Trace):Option Bool:=
 (bh (fun q:Int=>aj q2 l7 tb3 q) i8).bind (Fw.elim
 (fun e=>some true)
 (fun e=>some false))
def bm (q2:Int) (l7:Sl Event) (tb3:Trace):Int→St:=fun q=>(ai [Iv 2 q2,Pv 3,Cv 7 l7,Iv 8 q] [Xb 3 tb3])
def bp (q2:Int) (l7:Sl Event) (tb3:Trace):Unit→Nat×St:=fun e=>(0,(ai [] []))
def bn (q2:Int) (l7:Sl Event) (tb3:Trace):Unit→St:=fun e=>(ai [Bv 6 false] [])
theorem ct (q2:Int) (l7:Sl Event) (i8:Int) (tb3:Trace) (j9:Int):Le ((aM q2 l7 i8 tb3 j9).bind (fun w=>some (Fw.out (d6 q2 l7 i8 tb3) (d4 q2 l7 i8 tb3) (dZ q2 l7 i8 tb3) w))) (au Sy cL some (.rc (bL t.body [1,1,0,1,0,0,0,0,1,0,0,1,0,0]),[],(ai [Iv 2 q2,Pv 3,Cv 7 l7,Iv 8 i8,Iv 9 j9] [Xb 3 tb3]))):=by
 unfold aM;refine aG 9 26 ?_ ?_
 ·refine bH 10 fun x_1 h_1 => ?_
  refine aY 4 7 [] (fun x_3=>(ai [Iv 2 q2,Pv 3,Cv 7 l7,Iv 8 i8,Iv 9 j9,Bv 26 true,Bv 42 x_3] [Xb 3 tb3])) ?_ fun x_3 => ?_
  ·refine dy 4 35 ?_ ?_
   ·refine bH 2 fun x_2 h_2 => ?_
    exact aC 4
   ·exact aC 7
  ·refine aY 1 8 [] (fun x_5=>(ai [Iv 2 q2,Pv 3,Cv 7 l7,Iv 8 i8,Iv 9 j9,Bv 26 true,Bv 51 x_5] [Xb 3 tb3])) ?_ fun x_5 => ?_
   ·refine aG 1 43 ?_ ?_
    ·exact aC 8
    ·refine bH 2 fun x_4 h_4 => ?_
     exact aC 5
   ·refine aY 1 8 [] (fun x_7=>(ai [Iv 2 q2,Pv 3,Cv 7 l7,Iv 8 i8,Iv 9 j9,Bv 26 true,Bv 60 x_7] [Xb 3 tb3])) ?_ fun x_7 => ?_
    ·refine aG 1 52 ?_ ?_
     ·exact aC 8
     ·refine bH 2 fun x_6 h_6 => ?_
      exact aC 5
    ·refine aG 2 60 ?_ ?_
     ·exact ah
     ·refine bH 8 fun x_8 h_8 => ?_
      refine jE 2 gU (tb3,3,x_8.message) fun x_9 h_9 => ?_
      refine bH 3 fun x_10 h_10 => ?_
      refine jE 2 gU (tb3,3,x_10.message) fun x_11 h_11 => ?_
      refine aY 12 11 [] (fun x_13=>(ai [Iv 2 q2,Pv 3,Cv 7 l7,Iv 8 i8,Iv 9 j9,Bv 26 true,Bv 60 false,Bv 89 x_13] [Xb 3 tb3,Xb 10 x_9,Xb 11 x_11])) ?_ fun x_13 => ?_
      ·refine dy 12 78 ?_ ?_
       ·exact aC 11
       ·refine aY 4 6 [] (fun x_12=>(ai [Iv 2 q2,Pv 3,Cv 7 l7,Iv 8 i8,Iv 9 j9,Bv 26 true,Bv 60 false,Bv 78 true,Bv 88 x_12] [Xb 3 tb3,Xb 10 x_9,Xb 11 x_11])) ?_ fun x_12 => ?_
        ·refine aG 4 82 ?_ ?_
         ·exact aC 6
         ·exact aC 6
        ·exact aC 1
      ·refine aG 2 89 ?_ ?_
       ·exact ah
       ·exact ah
 ·exact ah
theorem fK (q2:Int) (l7:Sl Event) (i8:Int) (j9:Int) (tb3:Trace):Le ((W2 q2 l7 i8 j9 tb3).bind (fun w=>some (Fw.out (bm q2 l7 tb3) (bp q2 l7 tb3) (bn q2 l7 tb3) w))) (au Sy cL some (bD t.body [1,1,0,1,0,0,0,0,1,0,0,1,0,0] [] (ai [Iv 2 q2,Pv 3,Cv 7 l7,Iv 8 i8,Iv 9 j9] [Xb 3 tb3]))):=by
 unfold W2;refine cu (d6 q2 l7 i8 tb3) (d4 q2 l7 i8 tb3) (dZ q2 l7 i8 tb3) (fun q=>ct q2 l7 i8 tb3 q) ?_ ?_
 ·intro e;exact ah
 ·intro e;exact ah
theorem aF (q2:Int) (l7:Sl Event) (tb3:Trace) (i8:Int):Le ((aj q2 l7 tb3 i8).bind (fun w=>some (Fw.out (bm q2 l7 tb3) (bp q2 l7 tb3) (bn q2 l7 tb3) w))) (au Sy cL some (.rc (bL t.body [1,1,0,1,0,0]),[],(ai [Iv 2 q2,Pv 3,Cv 7 l7,Iv 8 i8] [Xb 3 tb3]))):=by
 unfold aj;refine bK 6 l7 ?_;refine aG 3 21 ?_ ?_
 ·exact bZ 12 (fK q2 l7 i8 0 tb3)
 ·exact ah
theorem bW (q2:Int) (l7:Sl Event) (i8:Int) (tb3:Trace):Le ((W1 q2 l7 i8 tb3).bind (fun r=>some [.bool r])) (au Sy cL (c6 t.rs) (bD t.body [1,1,0,1,0,0] [] (ai [Iv 2 q2,Pv 3,Cv 7 l7,Iv 8 i8] [Xb 3 tb3]))):=by
 unfold W1;refine cu (bm q2 l7 tb3) (bp q2 l7 tb3) (bn q2 l7 tb3) (fun q=>aF q2 l7 tb3 q) ?_ ?_
 ·intro e;exact ah
 ·intro e;exact ah
end dO
noncomputable def dO (t0:Trace) (p1:Int) (q2:Int):Option Bool:=
 (idx t0.procs p1).bind fun x_1=>
 dO.W1 q2 x_1.events 0 t0
open dO in
theorem yL:aR Sy cL (bq 77) (fun z:Trace×Int×Int=>[enc z.1,.int .i64 z.2.1,.int .i64 z.2.2]) (fun r:Bool=>[.bool r]) (fun z=>dO z.1 z.2.1 z.2.2) true:=aR.dA dO.t (by
 rintro⟨t0,p1,q2⟩;show Le ((dO t0 p1 q2).bind _) (au _ _ _ _);unfold dO;refine dJ 2 3 t0 ?_;refine bH 8 fun x_1 h_1 => ?_
 exact bZ 13 (bW q2 x_1.events 0 t0))
namespace fL
noncomputable def aj (counts1:Sl Int) (tb2:Trace) (p5:Int):Option (Fw Int Unit Unit):=
 ao (decide (p5<(len counts1)))
 ((idx counts1 p5).bind fun x_1=>
 (ao (decide (x_1<0))
 (some true)
 ((idx counts1 p5).bind fun x_2=>
 (idx tb2.procs p5).bind fun x_3=>
 some (decide (x_2>(len x_3.events)))):Option Bool).bind fun x_4=>
 ao x_4
 (some (.r ()))
 (some (.n (IntKind.wrap .i64 (p5+1)))))
 (some (.x ()))
noncomputable def W1 (counts1:Sl Int) (p5:Int) (tb2:Trace):Option Bool:=
 (bh (fun q:Int=>aj counts1 tb2 q) p5).bind (Fw.elim
 (fun e=>some true)
 (fun e=>some false))
def bm (counts1:Sl Int) (tb2:Trace):Int→St:=fun q=>(ai [Cv 1 counts1,Pv 2,Iv 5 q] [Xb 2 tb2])
def bp (counts1:Sl Int) (tb2:Trace):Unit→Nat×St:=fun e=>(0,(ai [] []))
def bn (counts1:Sl Int) (tb2:Trace):Unit→St:=fun e=>(ai [Bv 4 false] [])
theorem aF (counts1:Sl Int) (tb2:Trace) (p5:Int):Le ((aj counts1 tb2 p5).bind (fun w=>some (Fw.out (bm counts1 tb2) (bp counts1 tb2) (bn counts1 tb2) w))) (au Sy cL some (.rc (bL t.body [1,1,0,1,0,0]),[],(ai [Cv 1 counts1,Pv 2,Iv 5 p5] [Xb 2 tb2]))):=by
 unfold aj;refine bK 6 counts1 ?_;refine aG 3 15 ?_ ?_
 ·refine bH 9 fun x_1 h_1 => ?_
  refine aY 3 13 [] (fun x_4=>(ai [Cv 1 counts1,Pv 2,Iv 5 p5,Bv 15 true,Bv 36 x_4] [Xb 2 tb2])) ?_ fun x_4 => ?_
  ·refine aG 3 23 ?_ ?_
   ·exact aC 13
   ·refine bH 2 fun x_2 h_2 => ?_
    refine bH 4 fun x_3 h_3 => ?_
    refine bK 2 x_3.events ?_;exact aC 2
  ·refine aG 2 36 ?_ ?_
   ·exact ah
   ·exact ah
 ·exact ah
theorem bW (counts1:Sl Int) (p5:Int) (tb2:Trace):Le ((W1 counts1 p5 tb2).bind (fun r=>some [.bool r])) (au Sy cL (c6 t.rs) (bD t.body [1,1,0,1,0,0] [] (ai [Cv 1 counts1,Pv 2,Iv 5 p5] [Xb 2 tb2]))):=by
 unfold W1;refine cu (bm counts1 tb2) (bp counts1 tb2) (bn counts1 tb2) (fun q=>aF counts1 tb2 q) ?_ ?_
 ·intro e;exact ah
 ·intro e;exact ah
end fL
noncomputable def fL (t0:Trace) (counts1:Sl Int):Option Bool:=
 ao ((len counts1)==(len t0.procs))
 (fL.W1 counts1 0 t0)
 (some false)
open fL in
theorem zB:aR Sy cL (bq 78) (fun z:Trace×(Sl Int)=>[enc z.1,enc z.2]) (fun r:Bool=>[.bool r]) (fun z=>fL z.1 z.2) true:=aR.dA fL.t (by
 rintro⟨t0,counts1⟩;show Le ((fL t0 counts1).bind _) (au _ _ _ _);unfold fL;refine dJ 2 2 t0 ?_;refine bK 7 counts1 ?_;refine bK 2 t0.procs ?_;refine dy 3 11 ?_ ?_
 ·exact bZ 11 (bW counts1 0 t0)
 ·exact ah)
noncomputable def ig (t0:Trace) (c1:Sl Int):Option Bool:=
 some ((len c1)==(len t0.procs))
theorem xV:aR Sy cL (bq 79) (fun z:Trace×(Sl Int)=>[enc z.1,enc z.2]) (fun r:Bool=>[.bool r]) (fun z=>ig z.1 z.2) true:=aR.dA ig.t (by
 rintro⟨t0,c1⟩;show Le ((ig t0 c1).bind _) (au _ _ _ _);unfold ig;refine dJ 2 2 t0 ?_;refine bK 6 c1 ?_;refine bK 2 t0.procs ?_;exact ah)
namespace eU
noncomputable def aj (c1:Sl Int) (tb2:Trace) (p5:Int):Option (Fw Int Unit Unit):=
 ao (decide (p5<(len c1)))
 ((idx c1 p5).bind fun x_1=>
 (ao (decide (x_1<0))
 (some true)
 ((idx c1 p5).bind fun x_2=>
 (idx tb2.procs p5).bind fun x_3=>
 some (decide (x_2>(len x_3.events)))):Option Bool).bind fun x_4=>
 ao x_4
 (some (.r ()))
 (some (.n (IntKind.wrap .i64 (p5+1)))))
 (some (.x ()))
noncomputable def W1 (c1:Sl Int) (p5:Int) (tb2:Trace):Option Bool:=
 (bh (fun q:Int=>aj c1 tb2 q) p5).bind (Fw.elim
 (fun e=>some true)
 (fun e=>some false))
def bm (c1:Sl Int) (tb2:Trace):Int→St:=fun q=>(ai [Cv 1 c1,Pv 2,Iv 5 q] [Xb 2 tb2])
def bp (c1:Sl Int) (tb2:Trace):Unit→Nat×St:=fun e=>(0,(ai [] []))
def bn (c1:Sl Int) (tb2:Trace):Unit→St:=fun e=>(ai [Bv 4 false] [])
theorem aF (c1:Sl Int) (tb2:Trace) (p5:Int):Le ((aj c1 tb2 p5).bind (fun w=>some (Fw.out (bm c1 tb2) (bp c1 tb2) (bn c1 tb2) w))) (au Sy cL some (.rc (bL t.body [1,0,1,0,0]),[],(ai [Cv 1 c1,Pv 2,Iv 5 p5] [Xb 2 tb2]))):=by
 unfold aj;refine bK 6 c1 ?_;refine aG 3 9 ?_ ?_
 ·refine bH 9 fun x_1 h_1 => ?_
  refine aY 3 13 [] (fun x_4=>(ai [Cv 1 c1,Pv 2,Iv 5 p5,Bv 9 true,Bv 30 x_4] [Xb 2 tb2])) ?_ fun x_4 => ?_
  ·refine aG 3 17 ?_ ?_
   ·exact aC 13
   ·refine bH 2 fun x_2 h_2 => ?_
    refine bH 4 fun x_3 h_3 => ?_
    refine bK 2 x_3.events ?_;exact aC 2
  ·refine aG 2 30 ?_ ?_
   ·exact ah
   ·exact ah
 ·exact ah
theorem bW (c1:Sl Int) (p5:Int) (tb2:Trace):Le ((W1 c1 p5 tb2).bind (fun r=>some [.bool r])) (au Sy cL (c6 t.rs) (bD t.body [1,0,1,0,0] [] (ai [Cv 1 c1,Pv 2,Iv 5 p5] [Xb 2 tb2]))):=by
 unfold W1;refine cu (bm c1 tb2) (bp c1 tb2) (bn c1 tb2) (fun q=>aF c1 tb2 q) ?_ ?_
 ·intro e;exact ah
 ·intro e;exact ah
end eU
noncomputable def eU (t0:Trace) (c1:Sl Int):Option Bool:=
 eU.W1 c1 0 t0
open eU in
theorem wH:aR Sy cL (bq 80) (fun z:Trace×(Sl Int)=>[enc z.1,enc z.2]) (fun r:Bool=>[.bool r]) (fun z=>eU z.1 z.2) true:=aR.dA eU.t (by
 rintro⟨t0,c1⟩;show Le ((eU t0 c1).bind _) (au _ _ _ _);unfold eU;refine dJ 2 2 t0 ?_;exact bZ 11 (bW c1 0 t0))
noncomputable def ir (t0:Trace) (c1:Sl Int) (p2:Int) (i3:Int):Option Bool:=
 (idx t0.procs p2).bind fun x_1=>
 (idx x_1.events i3).bind fun x_2=>
 ao (x_2.kind==3)
 ((bP t0 2 x_2.message).bind fun x_3=>
 (idx c1 x_3.proc).bind fun x_4=>
 some (decide (x_3.index≤x_4)))
 (some true)
theorem y6:aR Sy cL (bq 81) (fun z:Trace×(Sl Int)×Int×Int=>[enc z.1,enc z.2.1,.int .i64 z.2.2.1,.int .i64 z.2.2.2]) (fun r:Bool=>[.bool r]) (fun z=>ir z.1 z.2.1 z.2.2.1 z.2.2.2) true:=aR.dA ir.t (by
 rintro⟨t0,c1,p2,i3⟩;show Le ((ir t0 c1 p2 i3).bind _) (au _ _ _ _);unfold ir;refine dJ 2 4 t0 ?_;refine bH 8 fun x_1 h_1 => ?_
 refine bH 3 fun x_2 h_2 => ?_
 refine kZ 2 9 0 x_2 ?_;refine dy 10 22 ?_ ?_
 ·refine aV 8 gU (t0,2,x_2.message) fun x_3 h_3 => ?_
  refine bH 11 fun x_4 h_4 => ?_
  exact ah
 ·exact ah)
namespace dh
noncomputable def aM (c1:Sl Int) (p5:Int) (tb2:Trace) (i6:Int):Option (Fw Int Unit Unit):=
 (idx c1 p5).bind fun x_1=>
 ao (decide (i6<x_1))
 ((ir tb2 c1 p5 i6).bind fun x_2=>
 ao x_2
 (some (.n (IntKind.wrap .i64 (i6+1))))
 (some (.r ())))
 (some (.x ()))
noncomputable def W2 (c1:Sl Int) (p5:Int) (i6:Int) (tb2:Trace):Option (Fw Int Unit Unit):=
 (bh (fun q:Int=>aM c1 p5 tb2 q) i6).bind (Fw.elim
 (fun e=>some (.n (IntKind.wrap .i64 (p5+1))))
 (fun e=>some (.r ())))
def d6 (c1:Sl Int) (p5:Int) (tb2:Trace):Int→St:=fun q=>(ai [Cv 1 c1,Pv 2,Iv 5 p5,Iv 6 q] [Xb 2 tb2])
def d4 (c1:Sl Int) (p5:Int) (tb2:Trace):Unit→Nat×St:=fun e=>(2,(ai [Cv 1 c1,Pv 2,Iv 5 p5] [Xb 2 tb2]))
def dZ (c1:Sl Int) (p5:Int) (tb2:Trace):Unit→St:=fun e=>(ai [Bv 4 false] [])
noncomputable def aj (c1:Sl Int) (tb2:Trace) (p5:Int):Option (Fw Int Unit Unit):=
 ao (decide (p5<(len c1)))
 (W2 c1 p5 0 tb2)
 (some (.x ()))
noncomputable def W1 (c1:Sl Int) (p5:Int) (tb2:Trace):Option Bool:=
 (bh (fun q:Int=>aj c1 tb2 q) p5).bind (Fw.elim
 (fun e=>some true)
 (fun e=>some false))
def bm (c1:Sl Int) (tb2:Trace):Int→St:=fun q=>(ai [Cv 1 c1,Pv 2,Iv 5 q] [Xb 2 tb2])
def bp (c1:Sl Int) (tb2:Trace):Unit→Nat×St:=fun e=>(0,(ai [] []))
def bn (c1:Sl Int) (tb2:Trace):Unit→St:=fun e=>(ai [Bv 4 false] [])
theorem ct (c1:Sl Int) (p5:Int) (tb2:Trace) (i6:Int):Le ((aM c1 p5 tb2 i6).bind (fun w=>some (Fw.out (d6 c1 p5 tb2) (d4 c1 p5 tb2) (dZ c1 p5 tb2) w))) (au Sy cL some (.rc (bL t.body [1,0,1,0,0,0,0,1,0,0,1,0,0]),[],(ai [Cv 1 c1,Pv 2,Iv 5 p5,Iv 6 i6] [Xb 2 tb2]))):=by
 unfold aM;refine bH 7 fun x_1 h_1 => ?_
 refine aG 4 18 ?_ ?_
 ·refine aV 11 y6 (tb2,c1,p5,i6) fun x_2 h_2 => ?_
  refine dy 3 26 ?_ ?_
  ·exact ah
  ·exact ah
 ·exact ah
theorem fK (c1:Sl Int) (p5:Int) (i6:Int) (tb2:Trace):Le ((W2 c1 p5 i6 tb2).bind (fun w=>some (Fw.out (bm c1 tb2) (bp c1 tb2) (bn c1 tb2) w))) (au Sy cL some (bD t.body [1,0,1,0,0,0,0,1,0,0,1,0,0] [] (ai [Cv 1 c1,Pv 2,Iv 5 p5,Iv 6 i6] [Xb 2 tb2]))):=by
 unfold W2;refine cu (d6 c1 p5 tb2) (d4 c1 p5 tb2) (dZ c1 p5 tb2) (fun q=>ct c1 p5 tb2 q) ?_ ?_
 ·intro e;exact ah
 ·intro e;exact ah
theorem aF (c1:Sl Int) (tb2:Trace) (p5:Int):Le ((aj c1 tb2 p5).bind (fun w=>some (Fw.out (bm c1 tb2) (bp c1 tb2) (bn c1 tb2) w))) (au Sy cL some (.rc (bL t.body [1,0,1,0,0]),[],(ai [Cv 1 c1,Pv 2,Iv 5 p5] [Xb 2 tb2]))):=by
 unfold aj;refine bK 6 c1 ?_;refine aG 3 10 ?_ ?_
 ·exact bZ 12 (fK c1 p5 0 tb2)
 ·exact ah
theorem bW (c1:Sl Int) (p5:Int) (tb2:Trace):Le ((W1 c1 p5 tb2).bind (fun r=>some [.bool r])) (au Sy cL (c6 t.rs) (bD t.body [1,0,1,0,0] [] (ai [Cv 1 c1,Pv 2,Iv 5 p5] [Xb 2 tb2]))):=by
 unfold W1;refine cu (bm c1 tb2) (bp c1 tb2) (bn c1 tb2) (fun q=>aF c1 tb2 q) ?_ ?_
 ·intro e;exact ah
 ·intro e;exact ah
end dh
noncomputable def dh (t0:Trace) (c1:Sl Int):Option Bool:=
 dh.W1 c1 0 t0
open dh in
theorem vr:aR Sy cL (bq 82) (fun z:Trace×(Sl Int)=>[enc z.1,enc z.2]) (fun r:Bool=>[.bool r]) (fun z=>dh z.1 z.2) true:=aR.dA dh.t (by
 rintro⟨t0,c1⟩;show Le ((dh t0 c1).bind _) (au _ _ _ _);unfold dh;refine dJ 2 2 t0 ?_;exact bZ 11 (bW c1 0 t0))
noncomputable def eA (t0:Trace) (c1:Sl Int):Option Bool:=
 (fm t0).bind fun x_1=>
 (ao x_1
 ((ig t0 c1).bind fun x_2=>
 some x_2)
 (some false):Option Bool).bind fun x_3=>
 (ao x_3
 ((eU t0 c1).bind fun x_4=>
 some x_4)
 (some false):Option Bool).bind fun x_5=>
 (ao x_5
 ((dh t0 c1).bind fun x_6=>
 some x_6)
 (some false):Option Bool).bind fun x_7=>
 some x_7
theorem sy:aR Sy cL (bq 175) (fun z:Trace×(Sl Int)=>[enc z.1,enc z.2]) (fun r:Bool=>[.bool r]) (fun z=>eA z.1 z.2) true:=aR.dA eA.t (by
 rintro⟨t0,c1⟩;show Le ((eA t0 c1).bind _) (au _ _ _ _);unfold eA;refine dJ 2 2 t0 ?_;refine aV 6 qB t0 fun x_1 h_1 => ?_
 refine aY 1 4 [] (fun x_3=>(ai [Cv 1 c1,Pv 2,Bv 11 x_3] [Xb 2 t0])) ?_ fun x_3 => ?_
 ·refine aG 1 7 ?_ ?_
  ·refine aV 2 xV (t0,c1) fun x_2 h_2 => ?_
   exact aC 1
  ·exact aC 4
 ·refine aY 1 4 [] (fun x_5=>(ai [Cv 1 c1,Pv 2,Bv 16 x_5] [Xb 2 t0])) ?_ fun x_5 => ?_
  ·refine aG 1 12 ?_ ?_
   ·refine aV 2 wH (t0,c1) fun x_4 h_4 => ?_
    exact aC 1
   ·exact aC 4
  ·refine aY 1 4 [] (fun x_7=>(ai [Bv 21 x_7] [Xb 2 t0])) ?_ fun x_7 => ?_
   ·refine aG 1 17 ?_ ?_
    ·refine aV 2 vr (t0,c1) fun x_6 h_6 => ?_
     exact aC 1
    ·exact aC 4
   ·exact ah)
namespace c7
noncomputable def aj (c1:Sl Int) (p2:Int) (q3:Int) (tb4:Trace) (out9:Sl Int) (i10:Int):Option (Fw ((Sl Int)×Int) (Sl Int) Empty):=
 (idx c1 p2).bind fun x_1=>
 ao (decide (i10<x_1))
 ((idx tb4.procs p2).bind fun x_2=>
 (idx x_2.events i10).bind fun x_3=>
 (ao (x_3.kind==2)
 (some (!(x_3.peer==q3)))
 (some true):Option Bool).bind fun x_4=>
 ao x_4
 (some (.n (out9,IntKind.wrap .i64 (i10+1))))
 ((bP tb4 3 x_3.message).bind fun x_5=>
 (ao (x_5.index==0)
 (some true)
 ((idx c1 x_5.proc).bind fun x_6=>
 some (decide (x_5.index>x_6))):Option Bool).bind fun x_7=>
 ao x_7
 ((gI out9 (x_3.message:Int)).bind fun x_8=>
 some (.n (x_8,IntKind.wrap .i64 (i10+1))))
 (some (.n (out9,IntKind.wrap .i64 (i10+1))))))
 (some (.x out9))
noncomputable def W1 (c1:Sl Int) (p2:Int) (q3:Int) (out9:Sl Int) (i10:Int) (tb4:Trace):Option (Sl Int):=
 (bh (fun q:(Sl Int)×Int=>aj c1 p2 q3 tb4 q.1 q.2) (out9,i10)).bind (Fw.elim
 (fun e=>some e)
 (fun e=>Empty.elim e))
def bm (c1:Sl Int) (p2:Int) (q3:Int) (tb4:Trace):(Sl Int)×Int→St:=fun q=>(ai [Cv 1 c1,Iv 2 p2,Iv 3 q3,Pv 4,Ov 9,Iv 10 q.2] [Xb 4 tb4,Lb 2009 q.1])
def bp (c1:Sl Int) (p2:Int) (q3:Int) (tb4:Trace):(Sl Int)→Nat×St:=fun e=>(0,(ai [Ov 9] [Lb 2009 e]))
def bn (c1:Sl Int) (p2:Int) (q3:Int) (tb4:Trace):Empty→St:=fun e=>Empty.elim e
theorem aF (c1:Sl Int) (p2:Int) (q3:Int) (tb4:Trace) (out9:Sl Int) (i10:Int):Le ((aj c1 p2 q3 tb4 out9 i10).bind (fun w=>some (Fw.out (bm c1 p2 q3 tb4) (bp c1 p2 q3 tb4) (bn c1 p2 q3 tb4) w))) (au Sy cL some (.rc (bL t.body [1,1,0,1,0,0,0]),[],(ai [Cv 1 c1,Iv 2 p2,Iv 3 q3,Pv 4,Ov 9,Iv 10 i10] [Xb 4 tb4,Lb 2009 out9]))):=by
 unfold aj;refine bH 8 fun x_1 h_1 => ?_
 refine aG 4 18 ?_ ?_
 ·refine bH 10 fun x_2 h_2 => ?_
  refine bH 3 fun x_3 h_3 => ?_
  refine kZ 2 11 0 x_3 ?_;refine aY 9 5 [] (fun x_4=>(ai [Cv 1 c1,Iv 2 p2,Iv 3 q3,Pv 4,Ov 9,Iv 10 i10,Bv 18 true,Pv 11,Bv 38 x_4] [Xb 4 tb4,Lb 2009 out9,Xb 11 x_3])) ?_ fun x_4 => ?_
  ·refine dy 9 33 ?_ ?_
   ·exact aC 5
   ·exact aC 5
  ·refine aG 2 38 ?_ ?_
   ·exact ah
   ·refine aV 8 gU (tb4,3,x_3.message) fun x_5 h_5 => ?_
    refine aY 10 9 [] (fun x_7=>(ai [Cv 1 c1,Iv 2 p2,Iv 3 q3,Pv 4,Ov 9,Iv 10 i10,Bv 18 true,Pv 11,Bv 38 false,Bv 55 x_7] [Xb 4 tb4,Lb 2009 out9,Xb 11 x_3,Xb 12 x_5])) ?_ fun x_7 => ?_
    ·refine aG 10 46 ?_ ?_
     ·exact aC 9
     ·refine bH 5 fun x_6 h_6 => ?_
      exact aC 3
    ·refine aG 2 55 ?_ ?_
     ·refine tu 6 2009 59 60 fun x_8 h_8 => ?_
      exact ah
     ·exact ah
 ·exact ah
theorem bW (c1:Sl Int) (p2:Int) (q3:Int) (out9:Sl Int) (i10:Int) (tb4:Trace):Le ((W1 c1 p2 q3 out9 i10 tb4).bind (fun r=>some [enc r])) (au Sy cL (c6 t.rs) (bD t.body [1,1,0,1,0,0,0] [] (ai [Cv 1 c1,Iv 2 p2,Iv 3 q3,Pv 4,Ov 9,Iv 10 i10] [Xb 4 tb4,Lb 2009 out9]))):=by
 unfold W1;refine cu (bm c1 p2 q3 tb4) (bp c1 p2 q3 tb4) (bn c1 p2 q3 tb4) (fun q=>aF c1 p2 q3 tb4 q.1 q.2) ?_ ?_
 ·intro e;exact ah
 ·intro e;exact Empty.elim e
end c7
noncomputable def c7 (t0:Trace) (c1:Sl Int) (p2:Int) (q3:Int):Option (Sl Int):=
 c7.W1 c1 p2 q3 (Sl.nil:Sl Int) 0 t0
open c7 in
theorem tL:aR Sy cL (bq 83) (fun z:Trace×(Sl Int)×Int×Int=>[enc z.1,enc z.2.1,.int .i64 z.2.2.1,.int .i64 z.2.2.2]) (fun r:Sl Int=>[enc r]) (fun z=>c7 z.1 z.2.1 z.2.2.1 z.2.2.2) false:=aR.yF c7.t (by
 rintro⟨t0,c1,p2,q3⟩;show Le ((c7 t0 c1 p2 q3).bind _) (au _ _ _ _);unfold c7;refine dJ 2 4 t0 ?_;exact bZ 17 (bW c1 p2 q3 (Sl.nil:Sl Int) 0 t0))
namespace cY
noncomputable def aM (c1:Sl Int) (out5:Sl (Sl Int)) (tb2:Trace) (p6:Int) (row7:Sl Int) (q8:Int):Option (Fw (Int×(Sl Int)×Int) (Int×(Sl Int)) Empty):=
 ao (decide (q8<(len c1)))
 (ao (q8==p6)
 (some (.n (p6,row7,IntKind.wrap .i64 (q8+1))))
 ((c7 tb2 c1 p6 q8).bind fun x_1=>
 (Sl.lW row7 q8).bind fun x_2=>
 (Sl.put row7 x_2 (len x_1:Int)).bind fun x_3=>
 some (.n (p6,x_3,IntKind.wrap .i64 (q8+1)))))
 (some (.x (p6,row7)))
noncomputable def W2 (c1:Sl Int) (out5:Sl (Sl Int)) (p6:Int) (row7:Sl Int) (q8:Int) (tb2:Trace):Option (Fw ((Sl (Sl Int))×Int) (Sl (Sl Int)) Empty):=
 (bh (fun q:Int×(Sl Int)×Int=>aM c1 out5 tb2 q.1 q.2.1 q.2.2) (p6,row7,q8)).bind (Fw.elim
 (fun e=>(gI out5 (e.2:Sl Int)).bind fun x_1=>
 some (.n (x_1,IntKind.wrap .i64 (e.1+1))))
 (fun e=>Empty.elim e))
def d6 (c1:Sl Int) (out5:Sl (Sl Int)) (tb2:Trace):Int×(Sl Int)×Int→St:=fun q=>(ai [Cv 1 c1,Pv 2,Ov 5,Iv 6 q.1,Ov 7,Iv 8 q.2.2] [Xb 2 tb2,Lb 2005 out5,Lb 2007 q.2.1])
def d4 (c1:Sl Int) (out5:Sl (Sl Int)) (tb2:Trace):(Int×(Sl Int))→Nat×St:=fun e=>(2,(ai [Cv 1 c1,Pv 2,Ov 5,Iv 6 e.1,Ov 7] [Xb 2 tb2,Lb 2005 out5,Lb 2007 e.2]))
def dZ (c1:Sl Int) (out5:Sl (Sl Int)) (tb2:Trace):Empty→St:=fun e=>Empty.elim e
noncomputable def aj (c1:Sl Int) (tb2:Trace) (out5:Sl (Sl Int)) (p6:Int):Option (Fw ((Sl (Sl Int))×Int) (Sl (Sl Int)) Empty):=
 ao (decide (p6<(len c1)))
 ((pz (len c1) (0:Int)).bind fun x_1=>
 W2 c1 out5 p6 x_1 0 tb2)
 (some (.x out5))
noncomputable def W1 (c1:Sl Int) (out5:Sl (Sl Int)) (p6:Int) (tb2:Trace):Option (Sl (Sl Int)):=
 (bh (fun q:(Sl (Sl Int))×Int=>aj c1 tb2 q.1 q.2) (out5,p6)).bind (Fw.elim
 (fun e=>some e)
 (fun e=>Empty.elim e))
def bm (c1:Sl Int) (tb2:Trace):(Sl (Sl Int))×Int→St:=fun q=>(ai [Cv 1 c1,Pv 2,Ov 5,Iv 6 q.2] [Xb 2 tb2,Lb 2005 q.1])
def bp (c1:Sl Int) (tb2:Trace):(Sl (Sl Int))→Nat×St:=fun e=>(0,(ai [Ov 5] [Lb 2005 e]))
def bn (c1:Sl Int) (tb2:Trace):Empty→St:=fun e=>Empty.elim e
theorem ct (c1:Sl Int) (out5:Sl (Sl Int)) (tb2:Trace) (p6:Int) (row7:Sl Int) (q8:Int):Le ((aM c1 out5 tb2 p6 row7 q8).bind (fun w=>some (Fw.out (d6 c1 out5 tb2) (d4 c1 out5 tb2) (dZ c1 out5 tb2) w))) (au Sy cL some (.rc (bL t.body [1,1,0,1,0,0,0,0,0,0,1,0,0,1,0,1,0,0,0,0]),[],(ai [Cv 1 c1,Pv 2,Ov 5,Iv 6 p6,Ov 7,Iv 8 q8] [Xb 2 tb2,Lb 2005 out5,Lb 2007 row7]))):=by
 unfold aM;refine bK 8 c1 ?_;refine aG 3 21 ?_ ?_
 ·refine dy 12 26 ?_ ?_
  ·exact ah
  ·refine aV 8 tL (tb2,c1,p6,q8) fun x_1 h_1 => ?_
   refine bK 0 x_1 ?_;refine tn .i64 0 2007 fun x_2 h_2 => ?_
   refine G7 0 2007 (.int .i64 (len x_1)) fun x_3 h_3 => ?_
   exact ah
 ·exact ah
theorem fK (c1:Sl Int) (out5:Sl (Sl Int)) (p6:Int) (row7:Sl Int) (q8:Int) (tb2:Trace):Le ((W2 c1 out5 p6 row7 q8 tb2).bind (fun w=>some (Fw.out (bm c1 tb2) (bp c1 tb2) (bn c1 tb2) w))) (au Sy cL some (bD t.body [1,1,0,1,0,0,0,0,0,0,1,0,0,1,0,1,0,0,0,0] [] (ai [Cv 1 c1,Pv 2,Ov 5,Iv 6 p6,Ov 7,Iv 8 q8] [Xb 2 tb2,Lb 2005 out5,Lb 2007 row7]))):=by
 unfold W2;refine cu (d6 c1 out5 tb2) (d4 c1 out5 tb2) (dZ c1 out5 tb2) (fun q=>ct c1 out5 tb2 q.1 q.2.1 q.2.2) ?_ ?_
 ·intro e;refine KO 6 38 ([e.2]:List (Sl Int)) ?_;refine tu 0 2005 38 39 fun x_1 h_1 => ?_
  exact ah
 ·intro e;exact Empty.elim e
theorem aF (c1:Sl Int) (tb2:Trace) (out5:Sl (Sl Int)) (p6:Int):Le ((aj c1 tb2 out5 p6).bind (fun w=>some (Fw.out (bm c1 tb2) (bp c1 tb2) (bn c1 tb2) w))) (au Sy cL some (.rc (bL t.body [1,1,0,1,0,0,0]),[],(ai [Cv 1 c1,Pv 2,Ov 5,Iv 6 p6] [Xb 2 tb2,Lb 2005 out5]))):=by
 unfold aj;refine bK 7 c1 ?_;refine aG 3 12 ?_ ?_
 ·refine bK 8 c1 ?_;refine Ls 0 17 fun x_1 h_1 => ?_
  exact bZ 13 (fK c1 out5 p6 x_1 0 tb2)
 ·exact ah
theorem bW (c1:Sl Int) (out5:Sl (Sl Int)) (p6:Int) (tb2:Trace):Le ((W1 c1 out5 p6 tb2).bind (fun r=>some [enc r])) (au Sy cL (c6 t.rs) (bD t.body [1,1,0,1,0,0,0] [] (ai [Cv 1 c1,Pv 2,Ov 5,Iv 6 p6] [Xb 2 tb2,Lb 2005 out5]))):=by
 unfold W1;refine cu (bm c1 tb2) (bp c1 tb2) (bn c1 tb2) (fun q=>aF c1 tb2 q.1 q.2) ?_ ?_
 ·intro e;exact ah
 ·intro e;exact Empty.elim e
end cY
noncomputable def cY (t0:Trace) (c1:Sl Int):Option (Sl (Sl Int)):=
 cY.W1 c1 (Sl.nil:Sl (Sl Int)) 0 t0
open cY in
theorem pG:aR Sy cL (bq 84) (fun z:Trace×(Sl Int)=>[enc z.1,enc z.2]) (fun r:Sl (Sl Int)=>[enc r]) (fun z=>cY z.1 z.2) false:=aR.yF cY.t (by
 rintro⟨t0,c1⟩;show Le ((cY t0 c1).bind _) (au _ _ _ _);unfold cY;refine dJ 2 2 t0 ?_;exact bZ 17 (bW c1 (Sl.nil:Sl (Sl Int)) 0 t0))
namespace eD
noncomputable def aj (a0:Sl Int) (b1:Sl Int) (i5:Int):Option (Fw Int Unit Unit):=
 ao (decide (i5<(len a0)))
 ((idx a0 i5).bind fun x_1=>
 (idx b1 i5).bind fun x_2=>
 ao (x_1==x_2)
 (some (.n (IntKind.wrap .i64 (i5+1))))
 (some (.r ())))
 (some (.x ()))
noncomputable def W1 (a0:Sl Int) (b1:Sl Int) (i5:Int):Option Bool:=
 (bh (fun q:Int=>aj a0 b1 q) i5).bind (Fw.elim
 (fun e=>some true)
 (fun e=>some false))
def bm (a0:Sl Int) (b1:Sl Int):Int→St:=fun q=>(ai [Cv 0 a0,Cv 1 b1,Iv 5 q] [])
def bp (a0:Sl Int) (b1:Sl Int):Unit→Nat×St:=fun e=>(0,(ai [] []))
def bn (a0:Sl Int) (b1:Sl Int):Unit→St:=fun e=>(ai [Bv 4 false] [])
theorem aF (a0:Sl Int) (b1:Sl Int) (i5:Int):Le ((aj a0 b1 i5).bind (fun w=>some (Fw.out (bm a0 b1) (bp a0 b1) (bn a0 b1) w))) (au Sy cL some (.rc (bL t.body [1,1,0,1,0,0]),[],(ai [Cv 0 a0,Cv 1 b1,Iv 5 i5] []))):=by
 unfold aj;refine bK 6 a0 ?_;refine aG 3 14 ?_ ?_
 ·refine bH 9 fun x_1 h_1 => ?_
  refine bH 3 fun x_2 h_2 => ?_
  refine dy 4 25 ?_ ?_
  ·exact ah
  ·exact ah
 ·exact ah
theorem bW (a0:Sl Int) (b1:Sl Int) (i5:Int):Le ((W1 a0 b1 i5).bind (fun r=>some [.bool r])) (au Sy cL (c6 t.rs) (bD t.body [1,1,0,1,0,0] [] (ai [Cv 0 a0,Cv 1 b1,Iv 5 i5] []))):=by
 unfold W1;refine cu (bm a0 b1) (bp a0 b1) (bn a0 b1) (fun q=>aF a0 b1 q) ?_ ?_
 ·intro e;exact ah
 ·intro e;exact ah
end eD
noncomputable def eD (a0:Sl Int) (b1:Sl Int):Option Bool:=
 ao ((len a0)==(len b1))
 (eD.W1 a0 b1 0)
 (some false)
open eD in
theorem yJ:aR Sy cL (bq 85) (fun z:(Sl Int)×(Sl Int)=>[enc z.1,enc z.2]) (fun r:Bool=>[.bool r]) (fun z=>eD z.1 z.2) true:=aR.dA eD.t (by
 rintro⟨a0,b1⟩;show Le ((eD a0 b1).bind _) (au _ _ _ _);unfold eD;refine bK 9 a0 ?_;refine bK 1 b1 ?_;refine dy 3 10 ?_ ?_
 ·exact bZ 11 (bW a0 b1 0)
 ·exact ah)
namespace eB
noncomputable def aj (a0:Sl (Sl Int)) (b1:Sl (Sl Int)) (i5:Int):Option (Fw Int Unit Unit):=
 ao (decide (i5<(len a0)))
 ((idx a0 i5).bind fun x_1=>
 (idx b1 i5).bind fun x_2=>
 (eD x_1 x_2).bind fun x_3=>
 ao x_3
 (some (.n (IntKind.wrap .i64 (i5+1))))
 (some (.r ())))
 (some (.x ()))
noncomputable def W1 (a0:Sl (Sl Int)) (b1:Sl (Sl Int)) (i5:Int):Option Bool:=
 (bh (fun q:Int=>aj a0 b1 q) i5).bind (Fw.elim
 (fun e=>some true)
 (fun e=>some false))
def bm (a0:Sl (Sl Int)) (b1:Sl (Sl Int)):Int→St:=fun q=>(ai [Cv 0 a0,Cv 1 b1,Iv 5 q] [])
def bp (a0:Sl (Sl Int)) (b1:Sl (Sl Int)):Unit→Nat×St:=fun e=>(0,(ai [] []))
def bn (a0:Sl (Sl Int)) (b1:Sl (Sl Int)):Unit→St:=fun e=>(ai [Bv 4 false] [])
theorem aF (a0:Sl (Sl Int)) (b1:Sl (Sl Int)) (i5:Int):Le ((aj a0 b1 i5).bind (fun w=>some (Fw.out (bm a0 b1) (bp a0 b1) (bn a0 b1) w))) (au Sy cL some (.rc (bL t.body [1,1,0,1,0,0]),[],(ai [Cv 0 a0,Cv 1 b1,Iv 5 i5] []))):=by
 unfold aj;refine bK 6 a0 ?_;refine aG 3 14 ?_ ?_
 ·refine bH 9 fun x_1 h_1 => ?_
  refine bH 3 fun x_2 h_2 => ?_
  refine jE 1 yJ (x_1,x_2) fun x_3 h_3 => ?_
  refine dy 3 26 ?_ ?_
  ·exact ah
  ·exact ah
 ·exact ah
theorem bW (a0:Sl (Sl Int)) (b1:Sl (Sl Int)) (i5:Int):Le ((W1 a0 b1 i5).bind (fun r=>some [.bool r])) (au Sy cL (c6 t.rs) (bD t.body [1,1,0,1,0,0] [] (ai [Cv 0 a0,Cv 1 b1,Iv 5 i5] []))):=by
 unfold W1;refine cu (bm a0 b1) (bp a0 b1) (bn a0 b1) (fun q=>aF a0 b1 q) ?_ ?_
 ·intro e;exact ah
 ·intro e;exact ah
end eB
noncomputable def eB (a0:Sl (Sl Int)) (b1:Sl (Sl Int)):Option Bool:=
 ao ((len a0)==(len b1))
 (eB.W1 a0 b1 0)
 (some false)
open eB in
theorem xO:aR Sy cL (bq 86) (fun z:(Sl (Sl Int))×(Sl (Sl Int))=>[enc z.1,enc z.2]) (fun r:Bool=>[.bool r]) (fun z=>eB z.1 z.2) true:=aR.dA eB.t (by
 rintro⟨a0,b1⟩;show Le ((eB a0 b1).bind _) (au _ _ _ _);unfold eB;refine bK 9 a0 ?_;refine bK 1 b1 ?_;refine dy 3 10 ?_ ?_
 ·exact bZ 11 (bW a0 b1 0)
 ·exact ah)
namespace dx
noncomputable def aM (l5:Sl (Sl Int)) (p6:Int) (q7:Int):Option (Fw Int Unit Unit):=
 ao (decide (q7<(len l5)))
 ((idx l5 p6).bind fun x_1=>
 (idx x_1 q7).bind fun x_2=>
 ao (decide (x_2>0))
 (some (.r ()))
 (some (.n (IntKind.wrap .i64 (q7+1)))))
 (some (.x ()))
noncomputable def W2 (l5:Sl (Sl Int)) (p6:Int) (q7:Int):Option (Fw Int Unit Unit):=
 (bh (fun q:Int=>aM l5 p6 q) q7).bind (Fw.elim
 (fun e=>some (.n (IntKind.wrap .i64 (p6+1))))
 (fun e=>some (.r ())))
def d6 (l5:Sl (Sl Int)) (p6:Int):Int→St:=fun q=>(ai [Cv 5 l5,Iv 6 p6,Iv 7 q] [])
def d4 (l5:Sl (Sl Int)) (p6:Int):Unit→Nat×St:=fun e=>(2,(ai [Cv 5 l5,Iv 6 p6] []))
def dZ (l5:Sl (Sl Int)) (p6:Int):Unit→St:=fun e=>(ai [Bv 4 false] [])
noncomputable def aj (l5:Sl (Sl Int)) (p6:Int):Option (Fw Int Unit Unit):=
 ao (decide (p6<(len l5)))
 (W2 l5 p6 0)
 (some (.x ()))
noncomputable def W1 (l5:Sl (Sl Int)) (p6:Int):Option Bool:=
 (bh (fun q:Int=>aj l5 q) p6).bind (Fw.elim
 (fun e=>some true)
 (fun e=>some false))
def bm (l5:Sl (Sl Int)):Int→St:=fun q=>(ai [Cv 5 l5,Iv 6 q] [])
def bp (l5:Sl (Sl Int)):Unit→Nat×St:=fun e=>(0,(ai [] []))
def bn (l5:Sl (Sl Int)):Unit→St:=fun e=>(ai [Bv 4 false] [])
theorem ct (l5:Sl (Sl Int)) (p6:Int) (q7:Int):Le ((aM l5 p6 q7).bind (fun w=>some (Fw.out (d6 l5 p6) (d4 l5 p6) (dZ l5 p6) w))) (au Sy cL some (.rc (bL t.body [1,1,0,1,0,0,0,0,1,0,0,1,0,0]),[],(ai [Cv 5 l5,Iv 6 p6,Iv 7 q7] []))):=by
 unfold aM;refine bK 6 l5 ?_;refine aG 3 20 ?_ ?_
 ·refine bH 9 fun x_1 h_1 => ?_
  refine bH 2 fun x_2 h_2 => ?_
  refine aG 4 30 ?_ ?_
  ·exact ah
  ·exact ah
 ·exact ah
theorem fK (l5:Sl (Sl Int)) (p6:Int) (q7:Int):Le ((W2 l5 p6 q7).bind (fun w=>some (Fw.out (bm l5) (bp l5) (bn l5) w))) (au Sy cL some (bD t.body [1,1,0,1,0,0,0,0,1,0,0,1,0,0] [] (ai [Cv 5 l5,Iv 6 p6,Iv 7 q7] []))):=by
 unfold W2;refine cu (d6 l5 p6) (d4 l5 p6) (dZ l5 p6) (fun q=>ct l5 p6 q) ?_ ?_
 ·intro e;exact ah
 ·intro e;exact ah
theorem aF (l5:Sl (Sl Int)) (p6:Int):Le ((aj l5 p6).bind (fun w=>some (Fw.out (bm l5) (bp l5) (bn l5) w))) (au Sy cL some (.rc (bL t.body [1,1,0,1,0,0]),[],(ai [Cv 5 l5,Iv 6 p6] []))):=by
 unfold aj;refine bK 6 l5 ?_;refine aG 3 14 ?_ ?_
 ·exact bZ 12 (fK l5 p6 0)
 ·exact ah
theorem bW (l5:Sl (Sl Int)) (p6:Int):Le ((W1 l5 p6).bind (fun r=>some [.bool r])) (au Sy cL (c6 t.rs) (bD t.body [1,1,0,1,0,0] [] (ai [Cv 5 l5,Iv 6 p6] []))):=by
 unfold W1;refine cu (bm l5) (bp l5) (bn l5) (fun q=>aF l5 q) ?_ ?_
 ·intro e;exact ah
 ·intro e;exact ah
end dx
noncomputable def dx (t0:Trace) (c1:Sl Int):Option Bool:=
 (cY t0 c1).bind fun x_1=>
 dx.W1 x_1 0
open dx in
theorem wV:aR Sy cL (bq 87) (fun z:Trace×(Sl Int)=>[enc z.1,enc z.2]) (fun r:Bool=>[.bool r]) (fun z=>dx z.1 z.2) true:=aR.dA dx.t (by
 rintro⟨t0,c1⟩;show Le ((dx t0 c1).bind _) (au _ _ _ _);unfold dx;refine dJ 2 2 t0 ?_;refine aV 7 pG (t0,c1) fun x_1 h_1 => ?_
 exact bZ 11 (bW x_1 0))
namespace aZ
noncomputable def J2 (c1:Sl Int) (l9:Sl (Sl Int)) (e10:Int) (b11:Bool) (f12:Int) (fault15:Int) (tb4:Trace):Option Bool:=
 ao (fault15==0)
 ((ao (e10==0)
 ((cY tb4 c1).bind fun x_1=>
 (eB l9 x_1).bind fun x_2=>
 some x_2)
 (some false):Option Bool).bind fun x_3=>
 (ao x_3
 (some (f12==0))
 (some false):Option Bool).bind fun x_4=>
 (ao x_4
 ((dx tb4 c1).bind fun x_5=>
 some (b11==x_5))
 (some false):Option Bool).bind fun x_6=>
 some x_6)
 ((ao ((len l9)==0)
 (some (e10==fault15))
 (some false):Option Bool).bind fun x_7=>
 (ao x_7
 (some (!b11))
 (some false):Option Bool).bind fun x_8=>
 (ao x_8
 (some (f12==fault15))
 (some false):Option Bool).bind fun x_9=>
 some x_9)
noncomputable def J1 (c1:Sl Int) (l9:Sl (Sl Int)) (e10:Int) (b11:Bool) (f12:Int) (tb4:Trace):Option Bool:=
 ao ((len c1)==(len tb4.procs))
 ((fL tb4 c1).bind fun x_1=>
 ao x_1
 ((eA tb4 c1).bind fun x_2=>
 ao x_2
 (aZ.J2 c1 l9 e10 b11 f12 0 tb4)
 (aZ.J2 c1 l9 e10 b11 f12 18 tb4))
 (aZ.J2 c1 l9 e10 b11 f12 2 tb4))
 (aZ.J2 c1 l9 e10 b11 f12 1 tb4)
theorem A5 (c1:Sl Int) (l9:Sl (Sl Int)) (e10:Int) (b11:Bool) (f12:Int) (fault15:Int) (tb4:Trace):Le ((J2 c1 l9 e10 b11 f12 fault15 tb4).bind (fun r=>some [.bool r])) (au Sy cL (c6 t.rs) (bD t.body [1,1,1,1,1,1,1,1,0,1,1,0] [] (ai [Cv 1 c1,Pv 4,Cv 9 l9,Iv 10 e10,Bv 11 b11,Iv 12 f12,Iv 15 fault15] [Xb 4 tb4]))):=by
 unfold J2;refine dy 7 109 ?_ ?_
 ·refine aY 8 6 [] (fun x_3=>(ai [Cv 1 c1,Pv 4,Bv 11 b11,Iv 12 f12,Iv 15 fault15,Bv 109 false,Bv 135 x_3] [Xb 4 tb4])) ?_ fun x_3 => ?_
  ·refine aG 8 129 ?_ ?_
   ·refine aV 3 pG (tb4,c1) fun x_1 h_1 => ?_
    refine aV 0 xO (l9,x_1) fun x_2 h_2 => ?_
    exact aC 1
   ·exact aC 6
  ·refine aY 1 3 [] (fun x_4=>(ai [Cv 1 c1,Pv 4,Bv 11 b11,Iv 15 fault15,Bv 109 false,Bv 139 x_4] [Xb 4 tb4])) ?_ fun x_4 => ?_
   ·refine aG 1 136 ?_ ?_
    ·exact aC 3
    ·exact aC 3
   ·refine aY 1 6 [] (fun x_6=>(ai [Iv 15 fault15,Bv 109 false,Bv 146 x_6] [Xb 4 tb4])) ?_ fun x_6 => ?_
    ·refine aG 1 140 ?_ ?_
     ·refine aV 3 wV (tb4,c1) fun x_5 h_5 => ?_
      exact aC 2
     ·exact aC 6
    ·exact ah
 ·refine bK 4 l9 ?_;refine aY 2 4 [] (fun x_7=>(ai [Cv 1 c1,Pv 4,Bv 11 b11,Iv 12 f12,Iv 15 fault15,Bv 109 true,Bv 117 x_7] [Xb 4 tb4])) ?_ fun x_7 => ?_
  ·refine aG 2 113 ?_ ?_
   ·exact aC 4
   ·exact aC 4
  ·refine aY 1 3 [] (fun x_8=>(ai [Cv 1 c1,Pv 4,Iv 12 f12,Iv 15 fault15,Bv 109 true,Bv 121 x_8] [Xb 4 tb4])) ?_ fun x_8 => ?_
   ·refine aG 1 118 ?_ ?_
    ·exact aC 3
    ·exact aC 3
   ·refine aY 1 4 [] (fun x_9=>(ai [Cv 1 c1,Pv 4,Bv 109 true,Bv 126 x_9] [Xb 4 tb4])) ?_ fun x_9 => ?_
    ·refine aG 1 122 ?_ ?_
     ·exact aC 4
     ·exact aC 4
    ·exact ah
theorem jB (c1:Sl Int) (l9:Sl (Sl Int)) (e10:Int) (b11:Bool) (f12:Int) (tb4:Trace):Le ((J1 c1 l9 e10 b11 f12 tb4).bind (fun r=>some [.bool r])) (au Sy cL (c6 t.rs) (bD t.body [1,1,1,1,1,1,1,1,0] [] (ai [Cv 1 c1,Pv 4,Cv 9 l9,Iv 10 e10,Bv 11 b11,Iv 12 f12] [Xb 4 tb4]))):=by
 unfold J1;refine bK 10 c1 ?_;refine bK 2 tb4.procs ?_;refine dy 4 91 ?_ ?_
 ·refine aV 5 zB (tb4,c1) fun x_1 h_1 => ?_
  refine dy 4 98 ?_ ?_
  ·refine aV 5 sy (tb4,c1) fun x_2 h_2 => ?_
   refine dy 4 103 ?_ ?_
   ·exact bZ 5 (A5 c1 l9 e10 b11 f12 0 tb4)
   ·exact bZ 7 (A5 c1 l9 e10 b11 f12 18 tb4)
  ·exact bZ 7 (A5 c1 l9 e10 b11 f12 2 tb4)
 ·exact bZ 7 (A5 c1 l9 e10 b11 f12 1 tb4)
end aZ
noncomputable def aZ (t0:Trace) (c1:Sl Int) (p2:Int) (q3:Int):Option Bool:=
 (qj).bind fun x_1=>
 ao x_1
 ((eC t0).bind fun x_2=>
 (ao (decide (x_2>60))
 (some true)
 (some (decide ((len c1)>20))):Option Bool).bind fun x_3=>
 ao x_3
 (some true)
 ((bQ t0 c1).bind fun x_4=>
 (eo t0 c1).bind fun x_5=>
 (cV t0 p2 q3).bind fun x_6=>
 (fm t0).bind fun x_7=>
 ao x_7
 ((hU t0 p2 q3).bind fun x_8=>
 ao x_8
 ((dO t0 p2 q3).bind fun x_9=>
 (ao (x_6.1==x_9)
 (some (!(x_6.2==0)))
 (some true):Option Bool).bind fun x_10=>
 ao x_10
 (some false)
 (aZ.J1 c1 x_4.1 x_4.2 x_5.1 x_5.2 t0))
 ((ao x_6.1
 (some true)
 (some (!(x_6.2==2))):Option Bool).bind fun x_11=>
 ao x_11
 (some false)
 (aZ.J1 c1 x_4.1 x_4.2 x_5.1 x_5.2 t0)))
 ((ao ((len x_4.1)==0)
 (some (x_4.2==1))
 (some false):Option Bool).bind fun x_12=>
 (ao x_12
 (some (!x_5.1))
 (some false):Option Bool).bind fun x_13=>
 (ao x_13
 (some (x_5.2==1))
 (some false):Option Bool).bind fun x_14=>
 (ao x_14
 (some (!x_6.1))
 (some false):Option Bool).bind fun x_15=>
 (ao x_15
 (some (x_6.2==1))
 (some false):Option Bool).bind fun x_16=>
 some x_16)))
 (some false)
open aZ in
theorem qw:aR Sy cL (bq 176) (fun z:Trace×(Sl Int)×Int×Int=>[enc z.1,enc z.2.1,.int .i64 z.2.2.1,.int .i64 z.2.2.2]) (fun r:Bool=>[.bool r]) (fun z=>aZ z.1 z.2.1 z.2.2.1 z.2.2.2) true:=aR.dA aZ.t (by
 rintro⟨t0,c1,p2,q3⟩;show Le ((aZ t0 c1 p2 q3).bind _) (au _ _ _ _);unfold aZ;refine dJ 2 4 t0 ?_;refine aV 6 w8 () fun x_1 h_1 => ?_
 refine dy 3 17 ?_ ?_
 ·refine aV 7 xJ t0 fun x_2 h_2 => ?_
  refine aY 2 4 [] (fun x_3=>(ai [Cv 1 c1,Iv 2 p2,Iv 3 q3,Pv 4,Bv 17 false,Bv 25 x_3] [Xb 4 t0])) ?_ fun x_3 => ?_
  ·refine aG 2 21 ?_ ?_
   ·exact aC 4
   ·refine bK 1 c1 ?_;exact aC 2
  ·refine aG 2 25 ?_ ?_
   ·exact ah
   ·refine aV 7 oZ (t0,c1) fun x_4 h_4 => ?_
    refine aV 11 vw (t0,c1) fun x_5 h_5 => ?_
    refine aV 12 wj (t0,p2,q3) fun x_6 h_6 => ?_
    refine aV 11 qB t0 fun x_7 h_7 => ?_
    refine dy 3 47 ?_ ?_
    ·refine aV 9 zf (t0,p2,q3) fun x_8 h_8 => ?_
     refine dy 3 75 ?_ ?_
     ·refine aV 7 yL (t0,p2,q3) fun x_9 h_9 => ?_
      refine aY 2 3 [] (fun x_10=>(ai [Cv 1 c1,Pv 4,Bv 17 false,Bv 25 false,Cv 9 x_4.1,Iv 10 x_4.2,Bv 11 x_5.1,Iv 12 x_5.2,Bv 47 false,Bv 75 false,Bv 90 x_10] [Xb 4 t0])) ?_ fun x_10 => ?_
      ·refine dy 2 87 ?_ ?_
       ·exact aC 3
       ·exact aC 3
      ·refine aG 2 90 ?_ ?_
       ·exact ah
       ·exact bZ 4 (jB c1 x_4.1 x_4.2 x_5.1 x_5.2 t0)
     ·refine aY 5 3 [] (fun x_11=>(ai [Cv 1 c1,Iv 2 p2,Iv 3 q3,Pv 4,Bv 17 false,Bv 25 false,Cv 9 x_4.1,Iv 10 x_4.2,Bv 11 x_5.1,Iv 12 x_5.2,Bv 47 false,Bv 75 true,Bv 80 x_11] [Xb 4 t0])) ?_ fun x_11 => ?_
      ·refine aG 5 77 ?_ ?_
       ·exact aC 3
       ·exact aC 3
      ·refine aG 2 80 ?_ ?_
       ·exact ah
       ·exact bZ 4 (jB c1 x_4.1 x_4.2 x_5.1 x_5.2 t0)
    ·refine bK 4 x_4.1 ?_;refine aY 2 3 [] (fun x_12=>(ai [Cv 1 c1,Iv 2 p2,Iv 3 q3,Pv 4,Bv 17 false,Bv 25 false,Bv 11 x_5.1,Iv 12 x_5.2,Bv 13 x_6.1,Iv 14 x_6.2,Bv 47 true,Bv 54 x_12] [Xb 4 t0])) ?_ fun x_12 => ?_
     ·refine aG 2 51 ?_ ?_
      ·exact aC 3
      ·exact aC 3
     ·refine aY 1 3 [] (fun x_13=>(ai [Cv 1 c1,Iv 2 p2,Iv 3 q3,Pv 4,Bv 17 false,Bv 25 false,Iv 12 x_5.2,Bv 13 x_6.1,Iv 14 x_6.2,Bv 47 true,Bv 58 x_13] [Xb 4 t0])) ?_ fun x_13 => ?_
      ·refine aG 1 55 ?_ ?_
       ·exact aC 3
       ·exact aC 3
      ·refine aY 1 3 [] (fun x_14=>(ai [Cv 1 c1,Iv 2 p2,Iv 3 q3,Pv 4,Bv 17 false,Bv 25 false,Bv 13 x_6.1,Iv 14 x_6.2,Bv 47 true,Bv 62 x_14] [Xb 4 t0])) ?_ fun x_14 => ?_
       ·refine aG 1 59 ?_ ?_
        ·exact aC 3
        ·exact aC 3
       ·refine aY 1 3 [] (fun x_15=>(ai [Cv 1 c1,Iv 2 p2,Iv 3 q3,Pv 4,Bv 17 false,Bv 25 false,Iv 14 x_6.2,Bv 47 true,Bv 66 x_15] [Xb 4 t0])) ?_ fun x_15 => ?_
        ·refine aG 1 63 ?_ ?_
         ·exact aC 3
         ·exact aC 3
        ·refine aY 1 3 [] (fun x_16=>(ai [Cv 1 c1,Iv 2 p2,Iv 3 q3,Pv 4,Bv 17 false,Bv 25 false,Bv 47 true,Bv 70 x_16] [Xb 4 t0])) ?_ fun x_16 => ?_
         ·refine aG 1 67 ?_ ?_
          ·exact aC 3
          ·exact aC 3
         ·exact ah
 ·exact ah)
end Go.VE
