/-
 By hand, part 4: antecederef12.Past, whose rows of truths lie in a row.
-/
import Derived.Test.YtnfakljmdnbipaaS2
import Derived.Test.YtnfakljmdnbipaaS3
import Derived.Test.YtnfakljmdnbipaaT1
set_option linter.all false
namespace Go.VE
structure Assign where
 var:Int
 value:Int
 deriving Inhabited
instance:aE Assign where
 cells x:=[.int .i64 x.var,.int .i64 x.value]
 agg:=true
 size:=2
 len _:=rfl
 bg x:=by simp only[V.bR,V.bg,jG,Bool.and_self]
 one x:=by simp only[List.all_cons,List.all_nil,mS,kQ,mQ,lg,Bool.and_self]
 plain h:=by cases h
instance {n:Nat}:Lv (n+0) Assign:=⟨fun x=>by
 show V.dc (n+0) [.int .i64 x.var,.int .i64 x.value]=true;simp only[gH,iF,lS,j_,lE,lB,Bool.and_self]⟩
structure Event where
 kind:Int
 peer:Int
 message:Int
 time:Int
 assign:Sl Assign
 deriving Inhabited
instance:aE Event where
 cells x:=[.int .i64 x.kind,.int .i64 x.peer,.int .i64 x.message,.int .i64 x.time,enc x.assign]
 agg:=true
 size:=5
 len _:=rfl
 bg x:=by simp only[V.bR,V.bg,jG,Bool.and_self]
 one x:=by simp only[List.all_cons,List.all_nil,mS,kQ,mQ,lg,Bool.and_self]
 plain h:=by cases h
instance {n:Nat}:Lv (n+1) Event:=⟨fun x=>by
 show V.dc (n+1) [.int .i64 x.kind,.int .i64 x.peer,.int .i64 x.message,.int .i64 x.time,enc x.assign]=true;simp only[gH,iF,lS,j_,lE,lB,Bool.and_self]⟩
structure Var where
 name:ByteArray
 init_:Int
 deriving Inhabited
instance:aE Var where
 cells x:=[.str x.name,.int .i64 x.init_]
 agg:=true
 size:=2
 len _:=rfl
 bg x:=by simp only[V.bR,V.bg,jG,Bool.and_self]
 one x:=by simp only[List.all_cons,List.all_nil,mS,kQ,mQ,lg,Bool.and_self]
 plain h:=by cases h
instance {n:Nat}:Lv (n+0) Var:=⟨fun x=>by
 show V.dc (n+0) [.str x.name,.int .i64 x.init_]=true;simp only[gH,iF,lS,j_,lE,lB,Bool.and_self]⟩
structure aS where
 name:ByteArray
 vars:Sl Var
 events:Sl Event
 deriving Inhabited
instance:aE aS where
 cells x:=[.str x.name,enc x.vars,enc x.events]
 agg:=true
 size:=3
 len _:=rfl
 bg x:=by simp only[V.bR,V.bg,jG,Bool.and_self]
 one x:=by simp only[List.all_cons,List.all_nil,mS,kQ,mQ,lg,Bool.and_self]
 plain h:=by cases h
instance {n:Nat}:Lv (n+2) aS:=⟨fun x=>by
 show V.dc (n+2) [.str x.name,enc x.vars,enc x.events]=true;simp only[gH,iF,lS,j_,lE,lB,Bool.and_self]⟩
structure Trace where
 procs:Sl aS
 deriving Inhabited
instance:aE Trace where
 cells x:=[enc x.procs]
 agg:=true
 size:=1
 len _:=rfl
 bg x:=by simp only[V.bR,V.bg,jG,Bool.and_self]
 one x:=by simp only[List.all_cons,List.all_nil,mS,kQ,mQ,lg,Bool.and_self]
 plain h:=by cases h
instance {n:Nat}:Lv (n+3) Trace:=⟨fun x=>by
 show V.dc (n+3) [enc x.procs]=true;simp only[gH,iF,lS,j_,lE,lB,Bool.and_self]⟩
structure Slice where
 empty:Bool
 first:Sl Int
 last:Sl Int
 j:Sl (Sl (Sl Int))
 deriving Inhabited
instance:aE Slice where
 cells x:=[.bool x.empty,enc x.first,enc x.last,enc x.j]
 agg:=true
 size:=4
 len _:=rfl
 bg x:=by simp only[V.bR,V.bg,jG,Bool.and_self]
 one x:=by simp only[List.all_cons,List.all_nil,mS,kQ,mQ,lg,Bool.and_self]
 plain h:=by cases h
instance {n:Nat}:Lv (n+3) Slice:=⟨fun x=>by
 show V.dc (n+3) [.bool x.empty,enc x.first,enc x.last,enc x.j]=true
 simp only[gH,iF,lS,j_,lE,lB,Bool.and_self]⟩
structure aA where
 from_:aa
 to_:aa
 deriving Inhabited
instance:aE aA where
 cells x:=[.int .i64 x.from_.proc,.int .i64 x.from_.index,.int .i64 x.to_.proc,.int .i64 x.to_.index]
 agg:=true
 size:=4
 len _:=rfl
 bg x:=by simp only[V.bR,V.bg,jG,Bool.and_self]
 one x:=by simp only[List.all_cons,List.all_nil,mS,kQ,mQ,lg,Bool.and_self]
 plain h:=by cases h
instance {n:Nat}:Lv (n+0) aA:=⟨fun x=>by
 show V.dc (n+0) [.int .i64 x.from_.proc,.int .i64 x.from_.index,.int .i64 x.to_.proc,.int .i64 x.to_.index]=true;simp only[gH,iF,lS,j_,lE,lB,Bool.and_self]⟩
structure az where
 p:Int
 q:Int
 sent:Sl Int
 received:Sl Int
 deriving Inhabited
instance:aE az where
 cells x:=[.int .i64 x.p,.int .i64 x.q,enc x.sent,enc x.received]
 agg:=true
 size:=4
 len _:=rfl
 bg x:=by simp only[V.bR,V.bg,jG,Bool.and_self]
 one x:=by simp only[List.all_cons,List.all_nil,mS,kQ,mQ,lg,Bool.and_self]
 plain h:=by cases h
instance {n:Nat}:Lv (n+1) az:=⟨fun x=>by
 show V.dc (n+1) [.int .i64 x.p,.int .i64 x.q,enc x.sent,enc x.received]=true;simp only[gH,iF,lS,j_,lE,lB,Bool.and_self]⟩
def ga (p:Int):Int→List Event→List (aa×Event)
 | _,[]=>[]
 | j,e::r=>(⟨p,j+1⟩,e)::ga p (j+1) r
def eH:Int→List aS→List (aa×Event)
 | _,[]=>[]
 | i,p::r=>ga i 0 p.events.l++eH (i+1) r
def A6 (n:Nat):Bool:=decide (n<9223372036854775807)
def gr (t:Trace):Option (List (aa×Event)):=
 if A6 t.procs.l.length&&t.procs.l.all fun p=>A6 p.events.l.length then some (eH 0 t.procs.l)else none
end Go.VE
namespace Go.VE
namespace trace_events_c1
def vR:List RO:=[o1 20 (.s 18) [],o2 21 (ix 5) [.s 16,.s 18] [],o2 22 (lD 5) [.s 21] [21],o2 6 (.a (.alloc 5 [.int .i64 0,.int .i64 0,.int .i64 0,.int .i64 0,.ay])) [] [],o1 5 (.s 20) [20],oz (.l (.store 5)) [.s 6,.s 22] [22]]
def tC:List RO:=[o1 23 (.s 0) [],o1 24 (.s 3) [],o1 25 (.s 5) [5],o2 26 (bI .add) [.s 25,.k (.int .i64 1)] [25],o2 27 (.p (.build [.int .i64 0,.int .i64 0] [(0,1),(1,1)])) [.s 24,.s 26] [24,26],o2 28 (lD 5) [.s 6] [6],
 o2 29 .c [.s 23,.s 27,.s 28] [23,27,28],o2 30 (.p .not) [.s 29] [29]]
def ru:List RO:=[o2 31 (bI .add) [.s 18,.k (.int .i64 1)] [],o1 18 (.s 31) [31]]
def Ai:RC:=.hg (.seq (.ops [o2 19 (bI .lss) [.s 18,.s 17] []]) (.seq (.cond (.s 19) .skip (.exit 2)) (.seq (.block 3 (.seq (.ops vR) (.seq (.ops tC) (.cond (.s 30) .ret .skip)))) (.ops ru)))) (.keep [0,3,8,9,10,16,17,18] [])
def Ds:List RO:=[o1 12 (.s 10) [],o2 13 (ix 3) [.s 8,.s 10] [],o2 14 (lD 3) [.s 13] [13],o2 4 (.a (.alloc 3 [.str ByteArray.empty,.ay,.ay])) [] [],o1 3 (.s 12) [12],oz (.l (.store 3)) [.s 4,.s 14] [14]]
def Cd:List RO:=[o2 15 (fa 2) [.s 4] [],o2 16 (ld 1) [.s 15] [15],o2 17 ln [.s 16] [],o1 18 (.k (.int .i64 0)) []]
def AA:List RO:=[o2 32 (bI .add) [.s 10,.k (.int .i64 1)] [],o1 10 (.s 32) [32]]
def U2:RC:=.block 2 (.gh (.keep [0,3,8,9,10,16,17,18] []) (.loop Ai))
def E_:RC:=.hg (.seq (.ops [o2 11 (bI .lss) [.s 10,.s 9] []]) (.seq (.cond (.s 11) .skip (.exit 0)) (.seq (.block 1 (.seq (.ops Ds) (.seq (.ops Cd) U2))) (.ops AA)))) (.keep [0,8,9,10] [])
def Qa:List RO:=[o2 7 (fa 0) [.s 1] [1],o2 8 (ld 1) [.s 7] [7],o2 9 ln [.s 8] [],o1 10 (.k (.int .i64 0)) []]
def U1:RC:=.block 0 (.gh (.keep [0,8,9,10] []) (.loop E_))
def text:RF:=⟨33,[],.seq (.ops Qa) U1⟩
section
variable {S:Sys}
abbrev I1 (ps:Sl aS) (i:Int) (ws:List (List V)) (more:Bool) (y:Nat):St:=⟨[(0,.yl y),Cv 8 ps,Iv 9 (len ps),Iv 10 i],[],[],ws,more,y⟩
abbrev I2 (ps:Sl aS) (i:Int) (es:Sl Event) (j:Int) (ws:List (List V)) (more:Bool) (y:Nat):St:=⟨[(0,.yl y),Iv 3 i,Cv 8 ps,Iv 9 (len ps),Iv 10 i,Cv 16 es,Iv 17 (len es),Iv 18 j],[],[],ws,more,y⟩
abbrev S2 (ps:Sl aS) (i:Int) (es:Sl Event) (j:Int) (b:Bool) (ws:List (List V)) (more:Bool) (y:Nat):St:=⟨[(0,.yl y),Iv 3 i,Cv 8 ps,Iv 9 (len ps),Iv 10 i,Cv 16 es,Iv 17 (len es),Iv 18 j,Bv 19 b],[],[],ws,more,y⟩
theorem KP (ps:Sl aS) (i:Int) (es:Sl Event) (j:Int) (ws:List (List V)) (more:Bool) (y:Nat) (hj:decide (j<len es)=false) :
 rn S.bare jR some (.rc Ai) [] (I2 ps i es j ws more y)=some (.exit 2,S2 ps i es j false ws more y):=by
 refine Le.get ?_;refine Kf (n:=7) (fo':=.rc (.cond (.s 19) .skip (.exit 2))) (fs':=[.seq (.seq (.block 3 (.seq (.ops vR) (.seq (.ops tC) (.cond (.s 30) .ret .skip)))) (.ops ru)),.gst (.keep [0,3,8,9,10,16,17,18] [])]) (fun b=>S2 ps i es j b ws more y) hj (by kernel_rfl) ?_
 exact Le.of_eq (by kernel_rfl)
theorem OD (ps:Sl aS) (i:Int) (es:Sl Event) (j:Int) (e:Event) (ws:List (List V)) (more:Bool) (y:Nat) (hj:decide (j<len es)=true) (hx:idx es j=some e) (hb:(!(more || !ws.isEmpty))=false) :
 rn S.bare jR some (.rc Ai) [] (I2 ps i es j ([enc (⟨i,IntKind.wrap .i64 (j+1)⟩:aa),enc e]::ws) more y)=some (.norm,I2 ps i es (IntKind.wrap .i64 (j+1)) ws more y):=by
 refine Le.get ?_;refine Kt (n:=7) (fo':=.rc (.cond (.s 19) .skip (.exit 2))) (fs':=[.seq (.seq (.block 3 (.seq (.ops vR) (.seq (.ops tC) (.cond (.s 30) .ret .skip)))) (.ops ru)),.gst (.keep [0,3,8,9,10,16,17,18] [])]) (fun b=>S2 ps i es j b ([enc (⟨i,IntKind.wrap .i64 (j+1)⟩:aa),enc e]::ws) more y) hj (by kernel_rfl) ?_
 refine Hi hx ?_;refine HW 8 false [] (vR.drop 1) [.seq (.seq (.ops tC) (.cond (.s 30) .ret .skip)),.blk 3,.seq (.ops ru),.gst (.keep [0,3,8,9,10,16,17,18] [])] ⟨[(0,.yl y),Iv 3 i,Cv 8 ps,Iv 9 (len ps),Iv 10 i,Cv 16 es,Iv 17 (len es),Iv 18 j,Bv 19 true,Iv 20 j],[],[],([enc (⟨i,IntKind.wrap .i64 (j+1)⟩:aa),enc e]::ws),more,y⟩ .i64 rfl (by kernel_rfl) fun x h1 => ?_
 obtain rfl:x=e:=by rw[hx]at h1;cases h1;rfl
 refine LO 1 false [] (vR.drop 3) [.seq (.seq (.ops tC) (.cond (.s 30) .ret .skip)),.blk 3,.seq (.ops ru),.gst (.keep [0,3,8,9,10,16,17,18] [])] ⟨[(0,.yl y),Iv 3 i,Cv 8 ps,Iv 9 (len ps),Iv 10 i,Cv 16 es,Iv 17 (len es),Iv 18 j,Bv 19 true,Iv 20 j,Cv 22 x],[],[],([enc (⟨i,IntKind.wrap .i64 (j+1)⟩:aa),enc x]::ws),more,y⟩ [iv 0,iv 0,iv 0,iv 0,.v .ay] rfl (by simp only[ai,rX,lK,mV,lI,mY,nS,mZ,nZ,lU,mT,sq,n9,om,n7,ot,pX,qc,m6,nR,SV.cz];rfl) (by kernel_rfl) ?_
 refine Ast 1 false [] (vR.drop 5) [.seq (.seq (.ops tC) (.cond (.s 30) .ret .skip)),.blk 3,.seq (.ops ru),.gst (.keep [0,3,8,9,10,16,17,18] [])] ⟨[(0,.yl y),Iv 3 i,Cv 8 ps,Iv 9 (len ps),Iv 10 i,Cv 16 es,Iv 17 (len es),Iv 18 j,Bv 19 true,Cv 22 x,Pv 6,Iv 5 j],[Xb 6 (⟨0,0,0,0,.nil⟩:Event)],[],([enc (⟨i,IntKind.wrap .i64 (j+1)⟩:aa),enc x]::ws),more,y⟩ 6 0 x [iv 0,iv 0,iv 0,iv 0,.v .ay] ((cells x).map .v) rfl (by kernel_rfl) ?_
 refine Q4 (n:=10) (q:=tC.drop 6) (fs':=[.seq (.cond (.s 30) .ret .skip),.blk 3,.seq (.ops ru),.gst (.keep [0,3,8,9,10,16,17,18] [])]) (st:=⟨[(0,.yl y),Iv 3 i,Cv 8 ps,Iv 9 (len ps),Iv 10 i,Cv 16 es,Iv 17 (len es),Iv 18 j,Bv 19 true,(23,.yl y),Cv 27 (⟨i,IntKind.wrap .i64 (j+1)⟩:aa),Cv 28 x],[Xb 6 x],[],([enc (⟨i,IntKind.wrap .i64 (j+1)⟩:aa),enc x]::ws),more,y⟩) (vs:=[cv (⟨i,IntKind.wrap .i64 (j+1)⟩:aa),cv x]) (by kernel_rfl) rfl (by kernel_rfl) (by kernel_rfl) rfl rfl ?_
 refine Kf (n:=3) (fo':=.rc (.cond (.s 30) .ret .skip)) (fs':=[.blk 3,.seq (.ops ru),.gst (.keep [0,3,8,9,10,16,17,18] [])]) (fun b=>⟨[(0,.yl y),Iv 3 i,Cv 8 ps,Iv 9 (len ps),Iv 10 i,Cv 16 es,Iv 17 (len es),Iv 18 j,Bv 19 true,Bv 30 b],[Xb 6 x],[],ws,more,y⟩) hb (by kernel_rfl) ?_
 exact Le.of_eq (by kernel_rfl)
theorem JF (ps:Sl aS) (i:Int) (es:Sl Event) (j:Int) (e:Event) (ws:List (List V)) (more:Bool) (y:Nat) (hj:decide (j<len es)=true) (hx:idx es j=some e) (hb:(!(more || !ws.isEmpty))=true) :
 rn S.bare jR some (.rc Ai) [] (I2 ps i es j ([enc (⟨i,IntKind.wrap .i64 (j+1)⟩:aa),enc e]::ws) more y)=some (.ret,⟨[(0,.yl y),Iv 3 i,Cv 8 ps,Iv 9 (len ps),Iv 10 i,Cv 16 es,Iv 17 (len es),Iv 18 j,Bv 19 true,Bv 30 true],[Xb 6 e],[],ws,more,y⟩):=by
 refine Le.get ?_;refine Kt (n:=7) (fo':=.rc (.cond (.s 19) .skip (.exit 2))) (fs':=[.seq (.seq (.block 3 (.seq (.ops vR) (.seq (.ops tC) (.cond (.s 30) .ret .skip)))) (.ops ru)),.gst (.keep [0,3,8,9,10,16,17,18] [])]) (fun b=>S2 ps i es j b ([enc (⟨i,IntKind.wrap .i64 (j+1)⟩:aa),enc e]::ws) more y) hj (by kernel_rfl) ?_
 refine Hi hx ?_;refine HW 8 false [] (vR.drop 1) [.seq (.seq (.ops tC) (.cond (.s 30) .ret .skip)),.blk 3,.seq (.ops ru),.gst (.keep [0,3,8,9,10,16,17,18] [])] ⟨[(0,.yl y),Iv 3 i,Cv 8 ps,Iv 9 (len ps),Iv 10 i,Cv 16 es,Iv 17 (len es),Iv 18 j,Bv 19 true,Iv 20 j],[],[],([enc (⟨i,IntKind.wrap .i64 (j+1)⟩:aa),enc e]::ws),more,y⟩ .i64 rfl (by kernel_rfl) fun x h1 => ?_
 obtain rfl:x=e:=by rw[hx]at h1;cases h1;rfl
 refine LO 1 false [] (vR.drop 3) [.seq (.seq (.ops tC) (.cond (.s 30) .ret .skip)),.blk 3,.seq (.ops ru),.gst (.keep [0,3,8,9,10,16,17,18] [])] ⟨[(0,.yl y),Iv 3 i,Cv 8 ps,Iv 9 (len ps),Iv 10 i,Cv 16 es,Iv 17 (len es),Iv 18 j,Bv 19 true,Iv 20 j,Cv 22 x],[],[],([enc (⟨i,IntKind.wrap .i64 (j+1)⟩:aa),enc x]::ws),more,y⟩ [iv 0,iv 0,iv 0,iv 0,.v .ay] rfl (by simp only[ai,rX,lK,mV,lI,mY,nS,mZ,nZ,lU,mT,sq,n9,om,n7,ot,pX,qc,m6,nR,SV.cz];rfl) (by kernel_rfl) ?_
 refine Ast 1 false [] (vR.drop 5) [.seq (.seq (.ops tC) (.cond (.s 30) .ret .skip)),.blk 3,.seq (.ops ru),.gst (.keep [0,3,8,9,10,16,17,18] [])] ⟨[(0,.yl y),Iv 3 i,Cv 8 ps,Iv 9 (len ps),Iv 10 i,Cv 16 es,Iv 17 (len es),Iv 18 j,Bv 19 true,Cv 22 x,Pv 6,Iv 5 j],[Xb 6 (⟨0,0,0,0,.nil⟩:Event)],[],([enc (⟨i,IntKind.wrap .i64 (j+1)⟩:aa),enc x]::ws),more,y⟩ 6 0 x [iv 0,iv 0,iv 0,iv 0,.v .ay] ((cells x).map .v) rfl (by kernel_rfl) ?_
 refine Q4 (n:=10) (q:=tC.drop 6) (fs':=[.seq (.cond (.s 30) .ret .skip),.blk 3,.seq (.ops ru),.gst (.keep [0,3,8,9,10,16,17,18] [])]) (st:=⟨[(0,.yl y),Iv 3 i,Cv 8 ps,Iv 9 (len ps),Iv 10 i,Cv 16 es,Iv 17 (len es),Iv 18 j,Bv 19 true,(23,.yl y),Cv 27 (⟨i,IntKind.wrap .i64 (j+1)⟩:aa),Cv 28 x],[Xb 6 x],[],([enc (⟨i,IntKind.wrap .i64 (j+1)⟩:aa),enc x]::ws),more,y⟩) (vs:=[cv (⟨i,IntKind.wrap .i64 (j+1)⟩:aa),cv x]) (by kernel_rfl) rfl (by kernel_rfl) (by kernel_rfl) rfl rfl ?_
 refine Kt (n:=3) (fo':=.rc (.cond (.s 30) .ret .skip)) (fs':=[.blk 3,.seq (.ops ru),.gst (.keep [0,3,8,9,10,16,17,18] [])]) (fun b=>⟨[(0,.yl y),Iv 3 i,Cv 8 ps,Iv 9 (len ps),Iv 10 i,Cv 16 es,Iv 17 (len es),Iv 18 j,Bv 19 true,Bv 30 b],[Xb 6 x],[],ws,more,y⟩) hb (by kernel_rfl) ?_
 exact Le.of_eq (by kernel_rfl)
abbrev S1 (ps:Sl aS) (i:Int) (b:Bool) (ws:List (List V)) (more:Bool) (y:Nat):St:=⟨[(0,.yl y),Cv 8 ps,Iv 9 (len ps),Iv 10 i,Bv 11 b],[],[],ws,more,y⟩
theorem LV (ps:Sl aS) (i:Int) (ws:List (List V)) (more:Bool) (y:Nat) (hj:decide (i<len ps)=false) :
 rn S.bare jR some (.rc E_) [] (I1 ps i ws more y)=some (.exit 0,S1 ps i false ws more y):=by
 refine Le.get ?_;refine Kf (n:=7) (fo':=.rc (.cond (.s 11) .skip (.exit 0))) (fs':=[.seq (.seq (.block 1 (.seq (.ops Ds) (.seq (.ops Cd) U2))) (.ops AA)),.gst (.keep [0,8,9,10] [])]) (fun b=>S1 ps i b ws more y) hj (by kernel_rfl) ?_
 exact Le.of_eq (by kernel_rfl)
def IM:List Fm:=[.blk 2,.blk 1,.seq (.ops AA),.gst (.keep [0,8,9,10] [])]
theorem IG (ps:Sl aS) (i:Int) (p:aS) (ws:List (List V)) (more:Bool) (y:Nat) (r:Out×St) (hj:decide (i<len ps)=true) (hx:idx ps i=some p)
 (h:rn S.bare jR some (.rc (.loop Ai)) IM (I2 ps i p.events 0 ws more y)=some r):rn S.bare jR some (.rc E_) [] (I1 ps i ws more y)=some r:=by
 refine Le.get ?_;refine Kt (n:=7) (fo':=.rc (.cond (.s 11) .skip (.exit 0))) (fs':=[.seq (.seq (.block 1 (.seq (.ops Ds) (.seq (.ops Cd) U2))) (.ops AA)),.gst (.keep [0,8,9,10] [])]) (fun b=>S1 ps i b ws more y) hj (by kernel_rfl) ?_
 refine Hi hx ?_;refine HW 8 false [] (Ds.drop 1) [.seq (.seq (.ops Cd) U2),.blk 1,.seq (.ops AA),.gst (.keep [0,8,9,10] [])] ⟨[(0,.yl y),Cv 8 ps,Iv 9 (len ps),Iv 10 i,Bv 11 true,Iv 12 i],[],[],ws,more,y⟩ .i64 rfl (by kernel_rfl) fun x h1 => ?_
 obtain rfl:x=p:=by rw[hx]at h1;cases h1;rfl
 refine LO 1 false [] (Ds.drop 3) [.seq (.seq (.ops Cd) U2),.blk 1,.seq (.ops AA),.gst (.keep [0,8,9,10] [])] ⟨[(0,.yl y),Cv 8 ps,Iv 9 (len ps),Iv 10 i,Bv 11 true,Iv 12 i,Cv 14 x],[],[],ws,more,y⟩ [.v (.str ByteArray.empty),.v .ay,.v .ay] rfl (by simp only[ai,rX,lK,mV,lI,mY,nS,mZ,nZ,lU,mT,sq,n9,om,n7,ot,pX,qc,m6,nR,SV.cz];rfl) (by kernel_rfl) ?_
 refine Ast 1 false [] (Ds.drop 5) [.seq (.seq (.ops Cd) U2),.blk 1,.seq (.ops AA),.gst (.keep [0,8,9,10] [])] ⟨[(0,.yl y),Cv 8 ps,Iv 9 (len ps),Iv 10 i,Bv 11 true,Cv 14 x,Pv 4,Iv 3 i],[Xb 4 (⟨ByteArray.empty,.nil,.nil⟩:aS)],[],ws,more,y⟩ 4 0 x [.v (.str ByteArray.empty),.v .ay,.v .ay] ((cells x).map .v) rfl (by kernel_rfl) ?_
 refine M9 6 false [] (Cd.drop 2) [.seq U2,.blk 1,.seq (.ops AA),.gst (.keep [0,8,9,10] [])] ⟨[(0,.yl y),Cv 8 ps,Iv 9 (len ps),Iv 10 i,Bv 11 true,Pv 4,Iv 3 i,Cv 16 x.events],[Xb 4 x],[],ws,more,y⟩ x.events rfl (by kernel_rfl) ?_
 refine Cz (n:=5) (fo':=.rc (.loop Ai)) (fs':=IM) (st':=I2 ps i x.events 0 ws more y) (by kernel_rfl) (Le.of_eq h)
theorem JJ (ps:Sl aS) (i:Int) (es:Sl Event) (j:Int) (ws:List (List V)) (more:Bool) (y:Nat) :
 rn S.bare jR some (.ex 2) IM (S2 ps i es j false ws more y)=some (.norm,I1 ps (IntKind.wrap .i64 (i+1)) ws more y):=by kernel_rfl
theorem yj (n:Nat) (h:n<9223372036854775807):IntKind.wrap .i64 ((n:Int)+1)=((n+1:Nat):Int):=by
 simp[IntKind.wrap,IntKind.bits,IntKind.signed];omega
abbrev eI (x:aa×Event):List V:=[enc x.1,enc x.2]
theorem x_.step {x:List V} {ws rest:List (List V)} {more:Bool} (h:x_ ws (x::rest) more):∃ws',ws=x::ws'∧((!(more || !ws'.isEmpty))=false∧x_ ws' rest more∨(!(more || !ws'.isEmpty))=true∧ws'=[]):=by
 rcases h with⟨rfl,rfl⟩|⟨rfl,hn,r,hr⟩
 ·exact⟨rest,rfl,.inl ⟨rfl,.inl ⟨rfl,rfl⟩⟩⟩
 ·cases ws with
  | nil=>exact absurd rfl hn
  | cons w ws=>
   simp only[List.cons_append,List.cons.injEq]at hr;obtain⟨rfl,rfl⟩:=hr;refine⟨ws,rfl,?_⟩
   cases ws with
   | nil=>exact .inr ⟨rfl,rfl⟩
   | cons z zs=>exact .inl ⟨rfl,.inr ⟨rfl,by simp,r,rfl⟩⟩
theorem B3 {α:Type} {s:Sl α} {j:Nat} {x:α} {r:List α} (h:s.l.drop j=x::r):idx s (j:Int)=some x∧decide ((j:Int)<len s)=true∧s.l.drop (j+1)=r:=by
 have h1:j<s.l.length:=by
  apply Classical.byContradiction;intro hn;rw[List.drop_eq_nil_of_le (by omega)]at h;cases h
 have h2:=List.drop_eq_getElem_cons h1;rw[h2]at h;simp only[List.cons.injEq]at h;refine⟨?_,by simp[len,h1],h.2⟩
 unfold idx;rw[if_pos (by omega)]
 simp[Ze h1,h.1]
variable {Q:Out×St→Option (Out×St)} {fs:List Fm}
theorem inner (ps:Sl aS) (i:Int) (es:Sl Event) (hl:es.l.length<9223372036854775807) (more:Bool) (y:Nat) (R:List (List V)):∀(rem:List Event) (j:Nat),es.l.drop j=rem→∀ws,x_ ws ((ga i j rem).map eI++R) more →
 (∃(ws':List (List V)) (j':Int),x_ ws' R more∧rn S.bare jR Q (.rc (.loop Ai)) fs (I2 ps i es j ws more y)=rn S.bare jR Q (.ex 2) fs (S2 ps i es j' false ws' more y)) ∨
 (∃st':St,st'.want=[]∧rn S.bare jR Q (.rc (.loop Ai)) fs (I2 ps i es j ws more y)=Q (.ret,st'))
 | [],j,hd,ws,hw=>by
  have h1:decide ((j:Int)<len es)=false:=by
   have:es.l.length≤j:=by simpa using hd
   simp[len];omega
  exact .inl ⟨ws,j,by simpa [ga]using hw,Aq (KP ps i es j ws more y h1)⟩
 | e::rem,j,hd,ws,hw=>by
  obtain⟨h1,h2,h3⟩:=B3 hd;have hj:j<es.l.length:=by simpa [len]using h2
  simp only[ga,List.map_cons,List.cons_append]at hw;obtain⟨ws',rfl,hb⟩:=x_.step hw;have hwr:=yj j (by omega)
  have hji:((j:Int)+1)=IntKind.wrap .i64 ((j:Int)+1):=by rw[hwr];simp
  rcases hb with⟨hb,hd'⟩|⟨hb,rfl⟩
  ·have k:=OD (S:=S) ps i es j e ws' more y h2 h1 hb;rw[←hji]at k;have k2:=Ac (Q:=Q) (fs:=fs) k;have ih:=inner ps i es hl more y R rem (j+1) h3 ws' (by push_cast;exact hd')
   rw[show ((j+1:Nat):Int)=(j:Int)+1 from rfl]at ih;rcases ih with⟨ws2,j2,g1,g2⟩|⟨st',g1,g2⟩
   ·exact .inl ⟨ws2,j2,g1,k2.trans g2⟩
   ·exact .inr ⟨st',g1,k2.trans g2⟩
  ·have k:=JF (S:=S) ps i es j e [] more y h2 h1 hb;rw[←hji]at k;exact .inr ⟨_,by rfl,Au k⟩
theorem outer (ps:Sl aS) (hl:ps.l.length<9223372036854775807) (hes:∀p∈ps.l,p.events.l.length<9223372036854775807) (more:Bool) (y:Nat):∀(rem:List aS) (i:Nat),ps.l.drop i=rem→∀ws,x_ ws ((eH i rem).map eI) more →
 rn S.bare jR Qi (.rc (.loop E_)) [.blk 0] (I1 ps i ws more y)=some ()
 | [],i,hd,ws,hw=>by
  have h1:decide ((i:Int)<len ps)=false:=by
   have:ps.l.length≤i:=by simpa using hd
   simp[len];omega
  rw[Aq (LV ps i ws more y h1)];have:ws=[]:=by
   rcases hw with⟨_,rfl⟩|⟨_,hn,r,hr⟩
   ·rfl
   ·have:ws=[]:=by cases ws with
     | nil=>rfl
     | cons=>simp[eH]at hr
    exact absurd this hn
  subst this;rfl
 | p::rem,i,hd,ws,hw=>by
  obtain⟨h1,h2,h3⟩:=B3 hd;have hi:i<ps.l.length:=by simpa [len]using h2
  have hp:p∈ps.l:=List.mem_of_mem_drop (i:=i) (by rw[hd];exact List.mem_cons_self ..)
  simp only[eH,List.map_append]at hw;have hwr:=yj i (by omega)
  rcases inner (S:=S) (Q:=some) (fs:=IM) ps i p.events (hes p hp) more y _ p.events.l 0 rfl ws hw with⟨ws',j',g1,g2⟩|⟨st',g1,g2⟩
  ·rw[JJ,hwr]at g2;rw[Ac (IG ps i p ws more y _ h2 h1 g2)];exact outer ps hl hes more y rem (i+1) h3 ws' g1
  ·rw[Au (IG ps i p ws more y _ h2 h1 g2)];simp[Qi,g1]
theorem all (t:Trace) (its:List (aa×Event)) (h:gr t=some its) (ws:List (List V)) (more:Bool) (hw:x_ ws (its.map eI) more) (y:Nat) :
 rn S.bare jR Qi (.rc text.body) [] ⟨rJ 0 (([]:List V).map .v++.yl y::[V.fptr (cells t)].map .v),[],[],ws,more,y⟩=some ():=by
 unfold gr at h;split at h
 ·rename_i hk;cases h;simp only[Zj,List.all_eq_true,A6,decide_eq_true_eq]at hk;refine Le.get ?_;refine M9 4 false [] (Qa.drop 2) [.seq U1] ⟨[(0,.yl y),Cv 8 t.procs],[],[],ws,more,y⟩ t.procs rfl (by kernel_rfl) ?_
  refine Cz (n:=5) (fo':=.rc (.loop E_)) (fs':=[.blk 0]) (st':=I1 t.procs 0 ws more y) (by kernel_rfl) (Le.of_eq ?_)
  exact outer t.procs hk.1 hk.2 more y t.procs.l 0 rfl ws hw
 ·cases h
end
theorem Dg {α:Type} [aE α] {a b:Sl α} (h:cU a=cU b):rows a.l=rows b.l:=by
 cases a <;> cases b <;> first|rfl|(simp only[cU,Sl.k,kM,V.fsl.injEq,true_and,reduceCtorEq]at h;done)|(simp only[cU,Sl.k,kM,V.fsl.injEq,true_and,reduceCtorEq]at h;exact h)
theorem B5 (p:Int):∀(es es':List Event) (j:Int),rows es=rows es'→(ga p j es).map eI=(ga p j es').map eI
 | [],[],_,_=>rfl
 | [],_::_,_,h=>by simp[rows]at h
 | _::_,[],_,h=>by simp[rows]at h
 | e::es,e'::es',j,h=>by
  simp only[rows,List.map_cons,List.cons.injEq]at h;have h1:enc e=enc e':=by show V.agg (cells e)=V.agg (cells e');rw[h.1]
  simp only[ga,List.map_cons,eI,h1,B5 p es es' (j+1) h.2]
theorem yh:∀(ps ps':List aS) (i:Int),rows ps=rows ps'→(eH i ps).map eI=(eH i ps').map eI
 | [],[],_,_=>rfl
 | [],_::_,_,h=>by simp[rows]at h
 | _::_,[],_,h=>by simp[rows]at h
 | p::ps,p'::ps',i,h=>by
  simp only[rows,List.map_cons,List.cons.injEq]at h;have h1:cU p.events=cU p'.events:=by
   have:=h.1;change [V.str p.name,cU p.vars,cU p.events]=[V.str p'.name,cU p'.vars,cU p'.events]at this;simp only[List.cons.injEq]at this;exact this.2.2.1
  simp only[eH,List.map_append,B5 i _ _ 0 (Dg h1),yh ps ps' (i+1) h.2]
def AZ (f:FuncId) (g:FuncId) (a b:List V) (xs:List (List V)):Prop:=∃(t:Trace) (its:List (aa×Event)),g=f∧a=[]∧b=[.fptr (cells t)]∧gr t=some its∧xs=its.map eI
theorem AZ.uniq {f g:FuncId} {a b:List V} {xs ys:List (List V)} (h:AZ f g a b xs) (k:AZ f g a b ys):xs=ys:=by
 obtain⟨t,its,rfl,rfl,rfl,h1,rfl⟩:=h;obtain⟨t',its',_,_,h2,h3,rfl⟩:=k;simp only[List.cons.injEq,V.fptr.injEq,and_true]at h2;have h4:cU t.procs=cU t'.procs:=by
  change [cU t.procs]=[cU t'.procs]at h2;simpa using h2
 unfold gr at h1 h3;split at h1 <;> split at h3 <;> simp only[Za,reduceCtorEq]at h1 h3;subst h1 h3;exact yh _ _ 0 (Dg h4)
end trace_events_c1
end Go.VE
namespace Go.VE
def bV.t:RF:=⟨19,[.s 4],.seq (.ops [o1 4 (.k (.int .i64 0)) [4]]) (.seq (.seq (.ops [o1 6 0 [],o2 7 ln [6] [6],o1 8 (.k (.int .i64 0)) []]) (.block 0 (.gh (.keep [0,1,7,8] []) (.loop (.hg (.seq (.ops [o2 9 (bI .lss) [8,7] []]) (.seq (.cond (.s 9) (.skip) (.gh (.keep [] []) (.exit 0))) (.seq (.block 1 (.seq (.ops [o1 10 8 [],o1 5 10 [10]]) (.seq (.ops [o1 11 1 [],o1 12 0 [],o1 13 5 [],o2 14 (ix 5) [12,13] [12,13],o2 15 (lD 5) [14] [14],o2 16 .c [11,15] [11,15]]) (.cond (.s 16) (.seq (.ops [o1 17 5 [5],o1 4 17 [17]]) (.gh (.keep [4] []) (.ret))) (.skip))))) (.ops [o2 18 (bI .add) [8,.k (.int .i64 1)] [8],o1 8 18 [18]])))) (.keep [0,1,7,8] [])))))) (.seq (.ops [o1 4 (.k (.int .i64 (-1))) []]) (.gh (.keep [4] []) (.ret))))⟩
def cr.t:RF:=⟨9,[.s 4],.seq (.ops [o1 4 (.k (.bool false)) [4]]) (.seq (.ops [o1 5 0 [0],o1 6 1 [1],o2 7 .c [.f 2,5,6] [5,6],o2 8 (bI .geq) [7,.k (.int .i64 0)] [7],o1 4 8 [8]]) (.ret))⟩
def fD.t:RF:=⟨7,[.s 2],.seq (.ops [o2 1 (.a .box) [0] [0],o1 2 (.k (.bool false)) [2]]) (.seq (.ops [o2 3 (fa 4) [1] [1],o2 4 (ld 1) [3] [3],o2 5 ln [4] [4],o2 6 (bI .gtr) [5,.k (.int .i64 12)] [5],o1 2 6 [6]]) (.ret))⟩
def eC.t:RF:=⟨33,[.s 2],.seq (.ops [o2 1 (.a .box) [0] [0],o1 2 (.k (.int .i64 0)) [2]]) (.seq (.seq (.ops [o2 6 (fa 0) [1] [],o2 7 (ld 1) [6] [6],o2 8 ln [7] [7],o2 9 (bI .gtr) [8,.k (.int .i64 10)] [8]]) (.cond (.s 9) (.seq (.ops [o1 2 (.k (.int .i64 1000)) []]) (.gh (.keep [2] []) (.ret))) (.skip))) (.seq (.ops [o1 3 (.k (.int .i64 0)) []]) (.seq (.seq (.ops [o2 10 (fa 0) [1] [1],o2 11 (ld 1) [10] [10],o2 12 ln [11] [],o1 13 (.k (.int .i64 0)) []]) (.block 0 (.gh (.keep [3,11,12,13] []) (.loop (.hg (.seq (.ops [o2 14 (bI .lss) [13,12] []]) (.seq (.cond (.s 14) (.skip) (.gh (.keep [3] []) (.exit 0))) (.seq (.block 1 (.seq (.ops [o2 15 (ix 3) [11,13] [],o2 16 (lD 3) [15] [15],o2 5 (.a (.alloc 3 [.str ByteArray.empty,.ay,.ay])) [] [],oz (su 3) [5,16] [16]]) (.seq (.ops [o1 17 3 [3],o2 18 (fa 2) [5] [],o2 19 (ld 1) [18] [18],o2 20 ln [19] [19],o2 21 (bI .add) [17,20] [17,20],o1 3 21 [21]]) (.seq (.ops [o2 22 (fa 1) [5] [],o2 23 (ld 1) [22] [22],o2 24 ln [23] [23],o2 25 (bI .gtr) [24,.k (.int .i64 12)] [24],o1 26 25 [25],o3 27 26 false (fa 2) [5] [5],o3 28 26 false (ld 1) [27] [27],o3 29 26 false .c [.f 3,28,.f 4] [28],o2 30 (.p (.pick)) [26,.k (.bool true),29] [26,29]]) (.cond (.s 30) (.seq (.ops [o1 2 (.k (.int .i64 1000)) []]) (.gh (.keep [2] []) (.ret))) (.skip)))))) (.ops [o2 31 (bI .add) [13,.k (.int .i64 1)] [13],o1 13 31 [31]])))) (.keep [3,11,12,13] [])))))) (.seq (.ops [o1 32 3 [3],o1 2 32 [32]]) (.gh (.keep [2] []) (.ret))))))⟩
def gj.t:RF:=⟨15,[.s 6],.seq (.ops [o1 6 (.k (.bool false)) [6]]) (.seq (.ops [o1 7 0 [],o1 8 1 [1],o2 9 (bI .geq) [7,8] [7,8],o1 10 9 [9],o3 11 10 true (.p (.id)) [0] [0],o3 12 10 true (.p (.id)) [2] [2],o3 13 10 true (bI .leq) [11,12] [11,12],o2 14 (.p (.pick)) [10,13,.k (.bool false)] [10,13],o1 6 14 [14]]) (.ret))⟩
def eK.t:RF:=⟨17,[.s 2],.seq (.ops [o1 2 (.k (.bool false)) [2]]) (.seq (.ops [o1 3 0 [],o2 4 (bI .geq) [3,.k (.int .u8 97)] [3],o1 5 4 [4],o3 6 5 true (.p (.id)) [0] [],o3 7 5 true (bI .leq) [6,.k (.int .u8 122)] [6],o2 8 (.p (.pick)) [5,7,.k (.bool false)] [5,7],o1 9 8 [8],o3 10 9 false (.p (.id)) [0] [],o3 11 9 false (bI .geq) [10,.k (.int .u8 65)] [10],o3 12 9 false (.p (.id)) [11] [11],o3 13 12 true (.p (.id)) [0] [0],o3 14 12 true (bI .leq) [13,.k (.int .u8 90)] [13],o3 15 9 false (.p (.pick)) [12,14,.k (.bool false)] [12,14],o2 16 (.p (.pick)) [9,.k (.bool true),15] [9,15],o1 2 16 [16]]) (.ret))⟩
def fV.t:RF:=⟨9,[.s 2],.seq (.ops [o1 2 (.k (.bool false)) [2]]) (.seq (.ops [o1 3 0 [],o2 4 (bI .geq) [3,.k (.int .u8 48)] [3],o1 5 4 [4],o3 6 5 true (.p (.id)) [0] [0],o3 7 5 true (bI .leq) [6,.k (.int .u8 57)] [6],o2 8 (.p (.pick)) [5,7,.k (.bool false)] [5,7],o1 2 8 [8]]) (.ret))⟩
def cI.t:RF:=⟨41,[.s 2],.seq (.ops [o1 2 (.k (.bool false)) [2]]) (.seq (.seq (.ops [o1 4 0 [],o2 5 (.p (.bin (some .str) none .eql)) [4,.k (.str ByteArray.empty)] [4],o1 6 5 [5],o3 7 6 false (.p (.id)) [0] [],o3 8 6 false (.p (.lenStr)) [7] [7],o3 9 6 false (bI .gtr) [8,.k (.int .i64 16)] [8],o2 10 (.p (.pick)) [6,.k (.bool true),9] [6,9],o1 11 10 [10],o3 12 11 false (.p (.id)) [0] [],o3 13 11 false (.p (.idxStr)) [12,.k (.int .i64 0)] [12],o3 14 11 false .c [.f 7,13] [13],o3 15 11 false (.p (.not)) [14] [14],o2 16 (.p (.pick)) [11,.k (.bool true),15] [11,15]]) (.cond (.s 16) (.seq (.ops [o1 2 (.k (.bool false)) []]) (.gh (.keep [2] []) (.ret))) (.skip))) (.seq (.seq (.ops [o1 17 0 [],o2 18 (.p (.lenStr)) [17] [17],o1 19 (.k (.int .i64 0)) []]) (.block 0 (.gh (.keep [0,18,19] []) (.loop (.hg (.seq (.ops [o2 20 (bI .lss) [19,18] []]) (.seq (.cond (.s 20) (.skip) (.gh (.keep [] []) (.exit 0))) (.seq (.block 1 (.seq (.ops [o1 21 19 [],o1 3 21 [21]]) (.seq (.ops [o1 22 0 [],o1 23 3 [],o2 24 (.p (.idxStr)) [22,23] [22,23],o2 25 .c [.f 7,24] [24],o2 26 (.p (.not)) [25] [25],o1 27 26 [26],o3 28 27 true (.p (.id)) [0] [],o3 29 27 true (.p (.id)) [3] [],o3 30 27 true (.p (.idxStr)) [28,29] [28,29],o3 31 27 true .c [.f 8,30] [30],o3 32 27 true (.p (.not)) [31] [31],o2 33 (.p (.pick)) [27,32,.k (.bool false)] [27,32],o1 34 33 [33],o3 35 34 true (.p (.id)) [0] [],o3 36 34 true (.p (.id)) [3] [3],o3 37 34 true (.p (.idxStr)) [35,36] [35,36],o3 38 34 true (bI .neq) [37,.k (.int .u8 95)] [37],o2 39 (.p (.pick)) [34,38,.k (.bool false)] [34,38]]) (.cond (.s 39) (.seq (.ops [o1 2 (.k (.bool false)) []]) (.gh (.keep [2] []) (.ret))) (.skip))))) (.ops [o2 40 (bI .add) [19,.k (.int .i64 1)] [19],o1 19 40 [40]])))) (.keep [0,18,19] [])))))) (.seq (.ops [o1 2 (.k (.bool true)) []]) (.gh (.keep [2] []) (.ret)))))⟩
def cR.t:RF:=⟨9,[.s 3],.seq (.ops [o2 2 (.a .box) [0] [0],o1 3 (.k (.bool false)) [3]]) (.seq (.ops [o2 4 (fa 0) [2] [2],o2 5 (ld 1) [4] [4],o2 6 (fa 0) [1] [1],o2 7 (ld 1) [6] [6],o2 8 (.p (.bin (some .str) none .eql)) [5,7] [5,7],o1 3 8 [8]]) (.ret))⟩
def cC.t:RF:=⟨19,[.s 4],.seq (.ops [o1 4 (.k (.int .i64 0)) [4]]) (.seq (.seq (.ops [o1 6 0 [],o2 7 ln [6] [6],o1 8 (.k (.int .i64 0)) []]) (.block 0 (.gh (.keep [0,1,7,8] []) (.loop (.hg (.seq (.ops [o2 9 (bI .lss) [8,7] []]) (.seq (.cond (.s 9) (.skip) (.gh (.keep [] []) (.exit 0))) (.seq (.block 1 (.seq (.ops [o1 10 8 [],o1 5 10 [10]]) (.seq (.ops [o1 11 1 [],o1 12 0 [],o1 13 5 [],o2 14 (ix 3) [12,13] [12,13],o2 15 (lD 3) [14] [14],o2 16 .c [11,15] [11,15]]) (.cond (.s 16) (.seq (.ops [o1 17 5 [5],o1 4 17 [17]]) (.gh (.keep [4] []) (.ret))) (.skip))))) (.ops [o2 18 (bI .add) [8,.k (.int .i64 1)] [8],o1 8 18 [18]])))) (.keep [0,1,7,8] [])))))) (.seq (.ops [o1 4 (.k (.int .i64 (-1))) []]) (.gh (.keep [4] []) (.ret))))⟩
def cF.t:RF:=⟨9,[.s 4],.seq (.ops [o1 4 (.k (.bool false)) [4]]) (.seq (.ops [o1 5 0 [0],o1 6 1 [1],o2 7 .c [.f 11,5,6] [5,6],o2 8 (bI .geq) [7,.k (.int .i64 0)] [7],o1 4 8 [8]]) (.ret))⟩
def cQ.t:RF:=⟨9,[.s 3],.seq (.ops [o2 2 (.a .box) [0] [0],o1 3 (.k (.bool false)) [3]]) (.seq (.ops [o2 4 (fa 0) [2] [2],o2 5 (ld 1) [4] [4],o2 6 (fa 0) [1] [1],o2 7 (ld 1) [6] [6],o2 8 (.p (.bin (some .str) none .eql)) [5,7] [5,7],o1 3 8 [8]]) (.ret))⟩
def cK.t:RF:=⟨19,[.s 4],.seq (.ops [o1 4 (.k (.int .i64 0)) [4]]) (.seq (.seq (.ops [o1 6 0 [],o2 7 ln [6] [6],o1 8 (.k (.int .i64 0)) []]) (.block 0 (.gh (.keep [0,1,7,8] []) (.loop (.hg (.seq (.ops [o2 9 (bI .lss) [8,7] []]) (.seq (.cond (.s 9) (.skip) (.gh (.keep [] []) (.exit 0))) (.seq (.block 1 (.seq (.ops [o1 10 8 [],o1 5 10 [10]]) (.seq (.ops [o1 11 1 [],o1 12 0 [],o1 13 5 [],o2 14 (ix 2) [12,13] [12,13],o2 15 (lD 2) [14] [14],o2 16 .c [11,15] [11,15]]) (.cond (.s 16) (.seq (.ops [o1 17 5 [5],o1 4 17 [17]]) (.gh (.keep [4] []) (.ret))) (.skip))))) (.ops [o2 18 (bI .add) [8,.k (.int .i64 1)] [8],o1 8 18 [18]])))) (.keep [0,1,7,8] [])))))) (.seq (.ops [o1 4 (.k (.int .i64 (-1))) []]) (.gh (.keep [4] []) (.ret))))⟩
def cN.t:RF:=⟨9,[.s 4],.seq (.ops [o1 4 (.k (.bool false)) [4]]) (.seq (.ops [o1 5 0 [0],o1 6 1 [1],o2 7 .c [.f 14,5,6] [5,6],o2 8 (bI .geq) [7,.k (.int .i64 0)] [7],o1 4 8 [8]]) (.ret))⟩
def bA.t:RF:=⟨62,[.s 4],.seq (.ops [o2 2 (.a .box) [0] [0],o1 4 (.k (.int .i64 0)) [4]]) (.seq (.ops [o2 8 (fa 0) [2] [],o2 9 (ld 1) [8] [8],o1 10 1 [],o2 11 (ix 3) [9,10] [9,10],o2 12 (lD 3) [11] [11],o2 5 (.a (.alloc 3 [.str ByteArray.empty,.ay,.ay])) [] [],oz (su 3) [5,12] [12]]) (.seq (.block 0 (.seq (.ops [o2 14 (fa 0) [5] [],o2 15 (ld 1) [14] [14],o2 16 .c [.f 9,15] [15],o2 17 (.p (.not)) [16] [16],o1 18 17 [17],o3 19 18 false (fa 0) [2] [2],o3 20 18 false (ld 1) [19] [19],o3 21 18 false (.p (.id)) [1] [1],o3 22 18 false (.p (.slice 3 false true)) [20,21] [20,21],o3 23 18 false (.p (.clo 10 0)) [5] [],o3 24 18 false .c [.f 12,22,23] [22,23],o2 25 (.p (.pick)) [18,.k (.bool true),24] [18,24],o1 13 25 [25]]) (.cond (.s 13) (.seq (.ops [o1 4 (.k (.int .i64 13)) []]) (.gh (.keep [4] []) (.ret))) (.seq (.ops [o2 27 (fa 1) [5] [],o2 28 (ld 1) [27] [27],o2 29 ln [28] [28],o2 30 (bI .gtr) [29,.k (.int .i64 8)] [29],o1 26 30 [30]]) (.cond (.s 26) (.seq (.ops [o1 4 (.k (.int .i64 5)) []]) (.gh (.keep [4] []) (.ret))) (.skip)))))) (.seq (.seq (.ops [o2 31 (fa 1) [5] [],o2 32 (ld 1) [31] [31],o2 33 ln [32] [],o1 34 (.k (.int .i64 0)) []]) (.block 1 (.gh (.keep [5,32,33,34] [5]) (.loop (.hg (.seq (.ops [o2 35 (bI .lss) [34,33] []]) (.seq (.cond (.s 35) (.skip) (.gh (.keep [5] [5]) (.exit 1))) (.seq (.block 2 (.seq (.ops [o1 36 34 [],o2 37 (ix 2) [32,34] [],o2 38 (lD 2) [37] [37],o2 7 (.a (.alloc 2 [.str ByteArray.empty,.int .i64 0])) [] [],o1 6 36 [36],oz (su 2) [7,38] [38]]) (.block 3 (.seq (.ops [o2 40 (fa 0) [7] [],o2 41 (ld 1) [40] [40],o2 42 .c [.f 9,41] [41],o2 43 (.p (.not)) [42] [42],o1 44 43 [43],o3 45 44 false (fa 1) [5] [],o3 46 44 false (ld 1) [45] [45],o3 47 44 false (.p (.id)) [6] [6],o3 48 44 false (.p (.slice 2 false true)) [46,47] [46,47],o3 49 44 false (.p (.clo 13 0)) [7] [],o3 50 44 false .c [.f 15,48,49] [48,49],o2 51 (.p (.pick)) [44,.k (.bool true),50] [44,50],o1 39 51 [51]]) (.cond (.s 39) (.seq (.ops [o1 4 (.k (.int .i64 13)) []]) (.gh (.keep [4] []) (.ret))) (.seq (.ops [o2 53 (fa 1) [7] [7],o2 54 (ld 1) [53] [53],o2 55 .c [.f 6,54,.k (.int .i64 (-1073741824)),.k (.int .i64 1073741824)] [54],o2 56 (.p (.not)) [55] [55],o1 52 56 [56]]) (.cond (.s 52) (.seq (.ops [o1 4 (.k (.int .i64 2)) []]) (.gh (.keep [4] []) (.ret))) (.skip)))))))) (.ops [o2 57 (bI .add) [34,.k (.int .i64 1)] [34],o1 34 57 [57]])))) (.keep [5,32,33,34] [5])))))) (.seq (.seq (.ops [o2 58 (fa 2) [5] [5],o2 59 (ld 1) [58] [58],o2 60 ln [59] [59],o2 61 (bI .gtr) [60,.k (.int .i64 64)] [60]]) (.cond (.s 61) (.seq (.ops [o1 4 (.k (.int .i64 5)) []]) (.gh (.keep [4] []) (.ret))) (.skip))) (.seq (.ops [o1 4 (.k (.int .i64 0)) []]) (.gh (.keep [4] []) (.ret)))))))⟩
def ey.t:RF:=⟨4,[.s 2],.seq (.ops [o2 1 (.a .box) [0] [0],o1 2 (.k (.aO)) [2]]) (.seq (.ops [o2 3 (.p (.clo 17 0)) [1] [1],o1 2 3 [3]]) (.ret))⟩
def cX.t:RF:=⟨40,[.s 6],.seq (.ops [o2 3 (.a .box) [0] [0],o2 5 (.a .box) [2] [2],o1 6 (.k (.bool false)) [6]]) (.seq (.seq (.ops [o2 7 (fa 0) [5] [],o2 8 (ld 1) [7] [7]]) (.block 0 (.seq (.ops [o2 10 (bI .eql) [8,.k (.int .i64 1)] [],o1 9 10 [10]]) (.cond (.s 9) (.seq (.ops [o2 11 (fa 1) [5] [],o2 12 (ld 1) [11] [11],o2 13 (bI .eql) [12,.k (.int .i64 0)] [12],o1 14 13 [13],o3 15 14 true (fa 2) [5] [5],o3 16 14 true (ld 1) [15] [15],o3 17 14 true (bI .eql) [16,.k (.int .i64 0)] [16],o2 18 (.p (.pick)) [14,17,.k (.bool false)] [14,17],o1 6 18 [18]]) (.ret)) (.seq (.seq (.ops [o2 20 (bI .eql) [8,.k (.int .i64 2)] [],o1 19 20 [20]]) (.cond (.s 19) (.skip) (.ops [o2 21 (bI .eql) [8,.k (.int .i64 3)] [8],o1 19 21 [21]]))) (.gh (.keep [1,3,5,19] [3,5]) (.cond (.s 19) (.seq (.ops [o2 22 (fa 1) [5] [],o2 23 (ld 1) [22] [22],o2 24 (fa 0) [3] [3],o2 25 (ld 1) [24] [24],o2 26 ln [25] [25],o2 27 (bI .sub) [26,.k (.int .i64 1)] [26],o2 28 .c [.f 6,23,.k (.int .i64 0),27] [23,27],o1 29 28 [28],o3 30 29 true (fa 1) [5] [],o3 31 29 true (ld 1) [30] [30],o3 32 29 true (.p (.id)) [1] [1],o3 33 29 true (bI .neq) [31,32] [31,32],o2 34 (.p (.pick)) [29,33,.k (.bool false)] [29,33],o1 35 34 [34],o3 36 35 true (fa 2) [5] [5],o3 37 35 true (ld 1) [36] [36],o3 38 35 true .c [.f 6,37,.k (.int .i64 0),.k (.int .i64 199)] [37],o2 39 (.p (.pick)) [35,38,.k (.bool false)] [35,38],o1 6 39 [39]]) (.ret)) (.skip)))))))) (.seq (.ops [o1 6 (.k (.bool false)) []]) (.ret)))⟩
def di.t:RF:=⟨9,[.s 3],.seq (.ops [o2 2 (.a .box) [0] [0],o1 3 (.k (.bool false)) [3]]) (.seq (.ops [o2 4 (fa 0) [2] [2],o2 5 (ld 1) [4] [4],o2 6 (fa 0) [1] [1],o2 7 (ld 1) [6] [6],o2 8 (bI .eql) [5,7] [5,7],o1 3 8 [8]]) (.ret))⟩
def b8.t:RF:=⟨19,[.s 4],.seq (.ops [o1 4 (.k (.int .i64 0)) [4]]) (.seq (.seq (.ops [o1 6 0 [],o2 7 ln [6] [6],o1 8 (.k (.int .i64 0)) []]) (.block 0 (.gh (.keep [0,1,7,8] []) (.loop (.hg (.seq (.ops [o2 9 (bI .lss) [8,7] []]) (.seq (.cond (.s 9) (.skip) (.gh (.keep [] []) (.exit 0))) (.seq (.block 1 (.seq (.ops [o1 10 8 [],o1 5 10 [10]]) (.seq (.ops [o1 11 1 [],o1 12 0 [],o1 13 5 [],o2 14 (ix 2) [12,13] [12,13],o2 15 (lD 2) [14] [14],o2 16 .c [11,15] [11,15]]) (.cond (.s 16) (.seq (.ops [o1 17 5 [5],o1 4 17 [17]]) (.gh (.keep [4] []) (.ret))) (.skip))))) (.ops [o2 18 (bI .add) [8,.k (.int .i64 1)] [8],o1 8 18 [18]])))) (.keep [0,1,7,8] [])))))) (.seq (.ops [o1 4 (.k (.int .i64 (-1))) []]) (.gh (.keep [4] []) (.ret))))⟩
def b9.t:RF:=⟨9,[.s 4],.seq (.ops [o1 4 (.k (.bool false)) [4]]) (.seq (.ops [o1 5 0 [0],o1 6 1 [1],o2 7 .c [.f 21,5,6] [5,6],o2 8 (bI .geq) [7,.k (.int .i64 0)] [7],o1 4 8 [8]]) (.ret))⟩
def a_.t:RF:=⟨82,[.s 6],.seq (.ops [o2 3 (.a .box) [0] [0],o2 4 (.a .box) [1] [1],o2 5 (.a .box) [2] [2],o1 6 (.k (.int .i64 0)) [6]]) (.seq (.ops [o2 11 (fa 0) [3] [],o2 12 (ld 1) [11] [11],o2 13 (fa 0) [4] [],o2 14 (ld 1) [13] [13],o2 15 (ix 3) [12,14] [12,14],o2 16 (lD 3) [15] [15],o2 7 (.a (.alloc 3 [.str ByteArray.empty,.ay,.ay])) [] [],oz (su 3) [7,16] [16]]) (.seq (.ops [o1 8 (.k (.int .i64 0)) []]) (.seq (.seq (.ops [o2 17 (fa 1) [4] [],o2 18 (ld 1) [17] [17],o2 19 (bI .gtr) [18,.k (.int .i64 1)] [18]]) (.cond (.s 19) (.ops [o2 20 (fa 2) [7] [],o2 21 (ld 1) [20] [20],o2 22 (fa 1) [4] [],o2 23 (ld 1) [22] [22],o2 24 (bI .sub) [23,.k (.int .i64 2)] [23],o2 25 (ix 5) [21,24] [21,24],o2 26 (fa 3) [25] [25],o2 27 (ld 1) [26] [26],o1 8 27 [27]]) (.skip))) (.gh (.keep [3,4,5,7,8] [3,4,5,7]) (.seq (.block 0 (.seq (.ops [o2 29 (lD 1) [3] [3],o2 30 (fa 0) [4] [4],o2 31 (ld 1) [30] [30],o2 32 (lD 5) [5] [],o2 33 .c [.f 19,29,31,32] [29,31,32],o2 34 (.p (.not)) [33] [33],o1 28 34 [34]]) (.cond (.s 28) (.seq (.ops [o1 6 (.k (.int .i64 3)) []]) (.gh (.keep [6] []) (.ret))) (.seq (.ops [o2 36 (fa 3) [5] [],o2 37 (ld 1) [36] [36],o2 38 .c [.f 6,37,.k (.int .i64 0),.k (.int .i64 1099511627776)] [37],o2 39 (.p (.not)) [38] [38],o1 40 39 [39],o3 41 40 false (fa 3) [5] [],o3 42 40 false (ld 1) [41] [41],o3 43 40 false (.p (.id)) [8] [8],o3 44 40 false (bI .lss) [42,43] [42,43],o2 45 (.p (.pick)) [40,.k (.bool true),44] [40,44],o1 35 45 [45]]) (.cond (.s 35) (.seq (.ops [o1 6 (.k (.int .i64 11)) []]) (.gh (.keep [6] []) (.ret))) (.seq (.ops [o2 47 (fa 4) [5] [],o2 48 (ld 1) [47] [47],o2 49 ln [48] [48],o2 50 (bI .gtr) [49,.k (.int .i64 8)] [49],o1 46 50 [50]]) (.cond (.s 46) (.seq (.ops [o1 6 (.k (.int .i64 5)) []]) (.gh (.keep [6] []) (.ret))) (.skip)))))))) (.seq (.seq (.ops [o2 51 (fa 4) [5] [],o2 52 (ld 1) [51] [51],o2 53 ln [52] [],o1 54 (.k (.int .i64 0)) []]) (.block 1 (.gh (.keep [5,7,52,53,54] [5,7]) (.loop (.hg (.seq (.ops [o2 55 (bI .lss) [54,53] []]) (.seq (.cond (.s 55) (.skip) (.gh (.keep [] []) (.exit 1))) (.seq (.block 2 (.seq (.ops [o1 56 54 [],o2 57 (ix 2) [52,54] [],o2 58 (lD 2) [57] [57],o2 10 (.a (.alloc 2 [.int .i64 0,.int .i64 0])) [] [],o1 9 56 [56],oz (su 2) [10,58] [58]]) (.block 3 (.seq (.ops [o2 60 (fa 0) [10] [],o2 61 (ld 1) [60] [60],o2 62 (fa 1) [7] [],o2 63 (ld 1) [62] [62],o2 64 ln [63] [63],o2 65 (bI .sub) [64,.k (.int .i64 1)] [64],o2 66 .c [.f 6,61,.k (.int .i64 0),65] [61,65],o2 67 (.p (.not)) [66] [66],o1 68 67 [67],o3 69 68 false (fa 1) [10] [],o3 70 68 false (ld 1) [69] [69],o3 71 68 false .c [.f 6,70,.k (.int .i64 (-1073741824)),.k (.int .i64 1073741824)] [70],o3 72 68 false (.p (.not)) [71] [71],o2 73 (.p (.pick)) [68,.k (.bool true),72] [68,72],o1 59 73 [73]]) (.cond (.s 59) (.seq (.ops [o1 6 (.k (.int .i64 2)) []]) (.gh (.keep [6] []) (.ret))) (.seq (.ops [o2 75 (fa 4) [5] [],o2 76 (ld 1) [75] [75],o1 77 9 [9],o2 78 (.p (.slice 2 false true)) [76,77] [76,77],o2 79 (.p (.clo 20 0)) [10] [10],o2 80 .c [.f 22,78,79] [78,79],o1 74 80 [80]]) (.cond (.s 74) (.seq (.ops [o1 6 (.k (.int .i64 8)) []]) (.gh (.keep [6] []) (.ret))) (.skip)))))))) (.ops [o2 81 (bI .add) [54,.k (.int .i64 1)] [54],o1 54 81 [81]])))) (.keep [5,7,52,53,54] [5,7])))))) (.seq (.ops [o1 6 (.k (.int .i64 0)) []]) (.gh (.keep [6] []) (.ret)))))))))⟩
def fB.t:RF:=⟨20,[.s 4],.seq (.ops [o2 3 (.a .box) [0] [0],o1 4 (.k (.bool false)) [4]]) (.seq (.ops [o2 5 (fa 0) [3] [],o2 6 (ld 1) [5] [5],o2 7 (bI .eql) [6,.k (.int .i64 2)] [6],o1 8 7 [7],o3 9 8 true (fa 2) [3] [],o3 10 8 true (ld 1) [9] [9],o3 11 8 true (ld 1) [1] [1],o3 12 8 true (bI .eql) [10,11] [10,11],o2 13 (.p (.pick)) [8,12,.k (.bool false)] [8,12],o1 14 13 [13],o3 15 14 true (fa 1) [3] [3],o3 16 14 true (ld 1) [15] [15],o3 17 14 true (ld 1) [2] [2],o3 18 14 true (bI .eql) [16,17] [16,17],o2 19 (.p (.pick)) [14,18,.k (.bool false)] [14,18],o1 4 19 [19]]) (.ret))⟩
def gK.t:RF:=⟨17,[.s 8],.seq (.ops [o2 4 (.a .box) [0] [0],o2 6 (.a .box) [2] [2],o2 7 (.a .box) [3] [3],o1 8 (.k (.bool false)) [8]]) (.seq (.ops [o2 9 (fa 0) [4] [4],o2 10 (ld 1) [9] [9],o1 11 1 [1],o2 12 (ix 3) [10,11] [10,11],o2 13 (fa 2) [12] [12],o2 14 (ld 1) [13] [13],o2 15 (.p (.clo 24 0)) [6,7] [6,7],o2 16 .c [.f 3,14,15] [14,15],o1 8 16 [16]]) (.ret))⟩
def b7.t:RF:=⟨64,[.ld 2 1 false,.ld 3 2 true,.ld 4 1 false],.seq (.ops [o2 1 (.a .box) [0] [0],o2 2 (.a (.alloc 1 [.cq])) [] [],o2 3 (.a (.alloc 2 [.int .i64 0,.int .i64 0])) [] [],o2 4 (.a (.alloc 1 [.int .i64 0])) [] []]) (.seq (.ops [o2 9 (.p (.build (List.replicate 800 (.int .i64 0)) [])) [] [],o2 10 (.a .box) [9] [9],o2 5 (.a (.alloc 1 [.cq])) [] [],oz (su 1) [5,10] [10]]) (.seq (.seq (.ops [o2 11 (lD 1) [1] [],o2 12 .c [.f 18,11] [11]]) (.block 0 (.gh (.keep [1,2,3,4,5,12] [1,2,3,4,5,10]) (.each (.s 12) [13,14] (.seq (.ops [o2 6 (.a (.alloc 2 [.int .i64 0,.int .i64 0])) [] [],oz (su 2) [6,13] [13]]) (.ops [o2 7 (.a (.alloc 5 [.int .i64 0,.int .i64 0,.int .i64 0,.int .i64 0,.ay])) [] [],oz (su 5) [7,14] [14]])) (.hg (.block 1 (.seq (.ops [o2 15 (fa 2) [7] [],o2 16 (ld 1) [15] [15],o1 8 16 [16]]) (.seq (.ops [o2 17 (fa 0) [7] [],o2 18 (ld 1) [17] [17]]) (.block 2 (.seq (.ops [o2 20 (bI .eql) [18,.k (.int .i64 2)] [],o1 19 20 [20]]) (.cond (.s 19) (.seq (.seq (.ops [o2 21 (ld 1) [5] [],o1 22 8 [],o2 23 (.p (.nilc)) [21] [21],o2 24 (.p (.idxA 200 4)) [23,22] [22,23],o2 25 (fa 0) [24] [24],o2 26 (fa 1) [25] [25],o2 27 (ld 1) [26] [26],o2 28 (bI .gtr) [27,.k (.int .i64 0)] [27]]) (.cond (.s 28) (.seq (.gb [o2 29 (lD 2) [6] [],oy (.l (.storeF 1)) [2,.k (.cq),6] [6],oy (su 2) [3,29] [29],oy (su 1) [4,.k (.int .i64 8)] []]) (.gh (.keep [] [1,2,3,4,5,10]) (.ret))) (.skip))) (.gb [o2 30 (ld 1) [5] [],o1 31 8 [8],o2 32 (lD 2) [6] [6],o2 33 (.p (.nilc)) [30] [30],on 34 (.p (.idxA 200 4)) [33,31] [31,33],on 35 (fa 0) [34] [34],oy (su 2) [35,32] [32,35]])) (.seq (.ops [o2 37 (bI .eql) [18,.k (.int .i64 3)] [18],o1 36 37 [37]]) (.cond (.s 36) (.seq (.seq (.ops [o2 38 (ld 1) [5] [],o1 39 8 [],o2 40 (.p (.nilc)) [38] [38],o2 41 (.p (.idxA 200 4)) [40,39] [39,40],o2 42 (fa 2) [41] [41],o2 43 (fa 1) [42] [42],o2 44 (ld 1) [43] [43],o2 45 (bI .gtr) [44,.k (.int .i64 0)] [44]]) (.cond (.s 45) (.seq (.gb [o2 46 (lD 2) [6] [],oy (.l (.storeF 1)) [2,.k (.cq),6] [6],oy (su 2) [3,46] [46],oy (su 1) [4,.k (.int .i64 8)] []]) (.gh (.keep [] [1,2,3,4,5,10]) (.ret))) (.skip))) (.seq (.seq (.ops [o2 47 (lD 1) [1] [],o2 48 (fa 1) [7] [7],o2 49 (ld 1) [48] [48],o1 50 8 [],o2 51 (fa 0) [6] [],o2 52 (ld 1) [51] [51],o2 53 .c [.f 25,47,49,50,52] [47,49,50,52],o2 54 (.p (.not)) [53] [53]]) (.cond (.s 54) (.seq (.gb [o2 55 (lD 2) [6] [],oy (.l (.storeF 1)) [2,.k (.cq),6] [6],oy (su 2) [3,55] [55],oy (su 1) [4,.k (.int .i64 7)] []]) (.gh (.keep [] [1,2,3,4,5,10]) (.ret))) (.skip))) (.gb [o2 56 (ld 1) [5] [],o1 57 8 [8],o2 58 (lD 2) [6] [6],o2 59 (.p (.nilc)) [56] [56],on 60 (.p (.idxA 200 4)) [59,57] [57,59],on 61 (fa 2) [60] [60],oy (su 2) [61,58] [58,61]]))) (.skip))))))))) (.keep [] [1,2,3,4,5,10])))))) (.seq (.ops [o2 62 (ld 1) [5] [5],o2 63 (.p (.build [.int .i64 0,.int .i64 0] [])) [] [],oz (su 1) [2,62] [62],oz (su 2) [3,63] [63],oz (su 1) [4,.k (.int .i64 0)] []]) (.gh (.keep [2,3,4] [2,3,4,10]) (.ret)))))⟩
def d7.t:RF:=⟨62,[.s 6],.seq (.ops [o2 3 (.a .box) [0] [0],o2 5 (.a .box) [2] [2],o1 6 (.k (.ay)) [6]]) (.seq (.ops [o1 7 (.k (.ay)) []]) (.seq (.ops [o2 10 (fa 0) [3] [3],o2 11 (ld 1) [10] [10],o2 12 (fa 0) [5] [],o2 13 (ld 1) [12] [12],o2 14 (ix 3) [11,13] [11,13],o2 15 (fa 2) [14] [14],o2 16 (ld 1) [15] [15],o1 8 16 [16]]) (.seq (.seq (.ops [o2 17 (fa 1) [5] [],o2 18 (ld 1) [17] [17],o1 19 8 [],o2 20 ln [19] [19],o2 21 (bI .lss) [18,20] [18,20]]) (.cond (.s 21) (.ops [o1 22 7 [7],o2 23 (fa 0) [5] [],o2 24 (ld 1) [23] [23],o2 25 (fa 1) [5] [],o2 26 (ld 1) [25] [25],o2 27 (bI .add) [26,.k (.int .i64 1)] [26],o2 28 (.p (.build [.int .i64 0,.int .i64 0] [(0,1),(1,1)])) [24,27] [24,27],o2 29 (.a (.buildSl 2 1 [.int .i64 0,.int .i64 0] [0])) [28] [28],o2 30 (.l (.append 2)) [22,29] [22,29],o1 7 30 [30]]) (.skip))) (.gh (.canon (.s 7) 2007 2) (.gh (.keep [1,5,7,8] [5,2007]) (.seq (.seq (.ops [o1 31 8 [8],o2 32 (fa 1) [5] [5],o2 33 (ld 1) [32] [32],o2 34 (bI .sub) [33,.k (.int .i64 1)] [33],o2 35 (ix 5) [31,34] [31,34],o2 36 (lD 5) [35] [35],o2 9 (.a (.alloc 5 [.int .i64 0,.int .i64 0,.int .i64 0,.int .i64 0,.ay])) [] [],oz (su 5) [9,36] [36]]) (.seq (.gb [on 37 (fa 0) [9] [],on 38 (ld 1) [37] [37],on 39 (bI .eql) [38,.k (.int .i64 2)] [38],on 40 (.p (.id)) [39] [39],o3 41 40 true (.p (.id)) [1] [],⟨some 42,some (40,true),true,fa 2,[9],[],[]⟩,⟨some 43,some (40,true),true,ld 1,[42],[42],[]⟩,o3 44 40 true (.p (.nilc)) [41] [41],⟨some 45,some (40,true),true,.p (.idxA 200 4),[44,43],[43,44],[]⟩,⟨some 46,some (40,true),true,fa 2,[45],[45],[]⟩,⟨some 47,some (40,true),true,fa 1,[46],[46],[]⟩,⟨some 48,some (40,true),true,ld 1,[47],[47],[]⟩,⟨some 49,some (40,true),true,bI .gtr,[48,.k (.int .i64 0)],[48],[]⟩,on 50 (.p (.pick)) [40,49,.k (.bool false)] [40,49]]) (.cond (.s 50) (.gb [o1 51 7 [7],o1 52 1 [1],on 53 (fa 2) [9] [9],on 54 (ld 1) [53] [53],o2 55 (.p (.nilc)) [52] [52],on 56 (.p (.idxA 200 4)) [55,54] [54,55],on 57 (fa 2) [56] [56],on 58 (lD 2) [57] [57],on 59 (.a (.buildSl 2 1 [.int .i64 0,.int .i64 0] [0])) [58] [58],on 60 (.l (.append 2)) [51,59] [51,59],on 7 (.p (.id)) [60] [60]]) (.skip)))) (.seq (.ops [o1 61 7 [7],o1 6 61 [61]]) (.ret))))))))⟩
def c9.t:RF:=⟨58,[.ld 4 2 true,.ld 5 1 false],.seq (.ops [o2 2 (.a .box) [0] [0],o2 3 (.a .box) [1] [1],o2 4 (.a (.alloc 2 [.int .i64 0,.int .i64 0])) [] [],o2 5 (.a (.alloc 1 [.bool false])) [] []]) (.seq (.seq (.ops [o2 12 (lD 1) [2] [],o2 13 .c [.f 18,12] [12]]) (.block 0 (.gh (.keep [2,3,4,5,13] [2,3,4,5]) (.each (.s 13) [14,15] (.ops [o2 6 (.a (.alloc 2 [.int .i64 0,.int .i64 0])) [] [],oz (su 2) [6,14] [14]]) (.hg (.block 1 (.seq (.ops [o2 16 (.a .makeMap) [] [],o1 7 16 [16]]) (.seq (.ops [o2 17 (lD 2) [6] [],o2 18 (.a (.buildSl 2 1 [.int .i64 0,.int .i64 0] [0])) [17] [17],o1 8 18 [18]]) (.block 2 (.gh (.canon (.s 8) 2008 2) (.gh (.keep [2,3,4,5,6,7,8,13] [2,3,4,5,6,16,2008]) (.loop (.hg (.hg (.seq (.seq (.ops [o1 19 8 [],o2 20 ln [19] [19],o2 21 (bI .gtr) [20,.k (.int .i64 0)] [20]]) (.cond (.s 21) (.skip) (.gh (.keep [2,3,4,5,13] [2,3,4,5]) (.exit 2)))) (.block 3 (.seq (.ops [o1 22 8 [],o1 23 8 [],o2 24 ln [23] [23],o2 25 (bI .sub) [24,.k (.int .i64 1)] [24],o2 26 (ix 2) [22,25] [22,25],o2 27 (lD 2) [26] [26],o2 9 (.a (.alloc 2 [.int .i64 0,.int .i64 0])) [] [],oz (su 2) [9,27] [27]]) (.seq (.ops [o1 28 8 [],o1 29 8 [8],o2 30 ln [29] [29],o2 31 (bI .sub) [30,.k (.int .i64 1)] [30],o2 32 (.p (.slice 2 false true)) [28,31] [28,31],o1 8 32 [32]]) (.seq (.ops [o2 33 (lD 1) [2] [],o2 34 (ld 1) [3] [],o2 35 (lD 2) [9] [9],o2 36 .c [.f 27,33,34,35] [33,34,35],o2 37 ln [36] [],o1 38 (.k (.int .i64 0)) []]) (.block 4 (.gh (.canon (.s 8) 2008 2) (.gh (.keep [2,3,4,5,6,7,8,13,36,37,38] [2,3,4,5,6,16,2008]) (.loop (.hg (.hg (.seq (.ops [o2 39 (bI .lss) [38,37] []]) (.seq (.cond (.s 39) (.skip) (.gh (.canon (.s 8) 2008 2) (.gh (.keep [2,3,4,5,6,7,8,13] [2,3,4,5,6,16,2008]) (.exit 4)))) (.seq (.block 5 (.seq (.ops [o2 40 (ix 2) [36,38] [],o2 41 (lD 2) [40] [40],o2 11 (.a (.alloc 2 [.int .i64 0,.int .i64 0])) [] [],oz (su 2) [11,41] [41]]) (.seq (.seq (.ops [o2 42 (lD 2) [11] [],o2 43 (lD 2) [6] [],o2 44 (.p (.bin (some .other) (some 2) .eql)) [42,43] [42,43]]) (.cond (.s 44) (.seq (.ops [o2 45 (lD 2) [6] [6],oz (su 2) [4,45] [45],oz (su 1) [5,.k (.bool true)] []]) (.gh (.keep [] [2,3,4,5]) (.ret))) (.skip))) (.seq (.ops [o1 46 7 [],o2 47 (lD 2) [11] [],o2 48 (.r (.lookup (.ints 2) (.bool false) false)) [46,47] [46,47],o2 49 (.p (.not)) [48] [48]]) (.cond (.s 49) (.seq (.ops [o1 50 7 [],o2 51 (lD 2) [11] [],oz (.l (.mapUp (.ints 2))) [50,51,.k (.bool true)] [50,51]]) (.ops [o1 52 8 [8],o2 53 (lD 2) [11] [11],o2 54 (.a (.buildSl 2 1 [.int .i64 0,.int .i64 0] [0])) [53] [53],o2 55 (.l (.append 2)) [52,54] [52,54],o1 8 55 [55]])) (.skip)))))) (.ops [o2 56 (bI .add) [38,.k (.int .i64 1)] [38],o1 38 56 [56]])))) (.canon (.s 8) 2008 2)) (.keep [2,3,4,5,6,7,8,13,36,37,38] [2,3,4,5,6,16,2008]))))))))))) (.canon (.s 8) 2008 2)) (.keep [2,3,4,5,6,7,8,13] [2,3,4,5,6,16,2008]))))))))) (.keep [] [2,3,4,5])))))) (.seq (.ops [o2 57 (.p (.build [.int .i64 0,.int .i64 0] [])) [] [],oz (su 2) [4,57] [57],oz (su 1) [5,.k (.bool false)] []]) (.gh (.keep [4,5] [4,5]) (.ret))))⟩
def dH.t:RF:=⟨66,[.ld 2 2 true,.ld 3 1 false],.seq (.ops [o2 1 (.a .box) [0] [0],o2 2 (.a (.alloc 2 [.int .i64 0,.int .i64 0])) [] [],o2 3 (.a (.alloc 1 [.int .i64 0])) [] []]) (.seq (.seq (.ops [o2 14 (fa 0) [1] [],o2 15 (ld 1) [14] [14],o2 16 ln [15] [15],o2 17 .c [.f 6,16,.k (.int .i64 1),.k (.int .i64 8)] [16],o2 18 (.p (.not)) [17] [17]]) (.cond (.s 18) (.seq (.ops [o2 19 (.p (.build [.int .i64 0,.int .i64 0] [])) [] [],oz (su 2) [2,19] [19],oz (su 1) [3,.k (.int .i64 1)] []]) (.gh (.keep [2,3] [2,3]) (.ret))) (.skip))) (.seq (.seq (.ops [o2 20 (fa 0) [1] [],o2 21 (ld 1) [20] [20],o2 22 ln [21] [21],o1 23 (.k (.int .i64 0)) []]) (.block 0 (.gh (.keep [1,2,3,22,23] [1,2,3]) (.loop (.hg (.seq (.ops [o2 24 (bI .lss) [23,22] []]) (.seq (.cond (.s 24) (.skip) (.gh (.keep [1,2,3] [1,2,3]) (.exit 0))) (.seq (.block 1 (.seq (.ops [o1 25 23 [],o1 4 25 [25]]) (.seq (.ops [o2 26 (lD 1) [1] [],o1 27 4 [],o2 28 .c [.f 16,26,27] [26,27],o1 5 28 [28]]) (.seq (.ops [o1 29 5 [],o2 30 (bI .neq) [29,.k (.int .i64 0)] [29]]) (.cond (.s 30) (.seq (.ops [o1 31 4 [4],o2 32 (.p (.build [.int .i64 0,.int .i64 0] [(0,1)])) [31] [31],o1 33 5 [5],oz (su 2) [2,32] [32],oz (su 1) [3,33] [33]]) (.gh (.keep [2,3] [2,3]) (.ret))) (.skip)))))) (.ops [o2 34 (bI .add) [23,.k (.int .i64 1)] [23],o1 23 34 [34]])))) (.keep [1,2,3,22,23] [1,2,3])))))) (.seq (.seq (.ops [o2 35 (lD 1) [1] [],o2 36 .c [.f 18,35] [35]]) (.block 2 (.gh (.keep [1,2,3,36] [1,2,3]) (.each (.s 36) [37,38] (.seq (.ops [o2 6 (.a (.alloc 2 [.int .i64 0,.int .i64 0])) [] [],oz (su 2) [6,37] [37]]) (.ops [o2 7 (.a (.alloc 5 [.int .i64 0,.int .i64 0,.int .i64 0,.int .i64 0,.ay])) [] [],oz (su 5) [7,38] [38]])) (.hg (.block 3 (.seq (.ops [o2 39 (lD 1) [1] [],o2 40 (lD 2) [6] [],o2 41 (lD 5) [7] [7],o2 42 .c [.f 23,39,40,41] [39,40,41],o1 8 42 [42]]) (.seq (.ops [o1 43 8 [],o2 44 (bI .neq) [43,.k (.int .i64 0)] [43]]) (.cond (.s 44) (.seq (.ops [o2 45 (lD 2) [6] [6],o1 46 8 [8],oz (su 2) [2,45] [45],oz (su 1) [3,46] [46]]) (.gh (.keep [] [1,2,3]) (.ret))) (.skip))))) (.keep [] [1,2,3])))))) (.seq (.ops [o2 48 (lD 1) [1] [],o2 49 .c [.f 26,48] [48],o1 47 49 [49],o2 50 (.p (.ext 0)) [47] [],o2 51 (.p (.ext 1)) [47] [],o2 52 (.p (.ext 2)) [47] [47],o2 10 (.a (.alloc 2 [.int .i64 0,.int .i64 0])) [] [],o1 9 50 [50],oz (su 2) [10,51] [51],o1 11 52 [52]]) (.seq (.seq (.ops [o1 53 11 [],o2 54 (bI .neq) [53,.k (.int .i64 0)] [53]]) (.cond (.s 54) (.seq (.ops [o2 55 (lD 2) [10] [10],o1 56 11 [11],oz (su 2) [2,55] [55],oz (su 1) [3,56] [56]]) (.gh (.keep [2,3] [2,3]) (.ret))) (.skip))) (.seq (.seq (.ops [o2 58 (lD 1) [1] [1],o1 59 9 [9],o2 60 .c [.f 28,58,59] [58,59],o1 57 60 [60],o2 61 (.p (.ext 0)) [57] [],o2 62 (.p (.ext 1)) [57] [57],o2 12 (.a (.alloc 2 [.int .i64 0,.int .i64 0])) [] [],oz (su 2) [12,61] [61],o1 13 62 [62]]) (.seq (.ops [o1 63 13 [13]]) (.cond (.s 63) (.seq (.ops [o2 64 (lD 2) [12] [12],oz (su 2) [2,64] [64],oz (su 1) [3,.k (.int .i64 10)] []]) (.gh (.keep [2,3] [2,3]) (.ret))) (.skip)))) (.seq (.ops [o2 65 (.p (.build [.int .i64 0,.int .i64 0] [])) [] [],oz (su 2) [2,65] [65],oz (su 1) [3,.k (.int .i64 0)] []]) (.gh (.keep [2,3] [2,3]) (.ret)))))))))⟩
def bX.t:RF:=⟨12,[.s 2],.seq (.ops [o2 1 (.a .box) [0] [0],o1 2 (.k (.bool false)) [2]]) (.seq (.ops [o2 6 (lD 1) [1] [1],o2 7 .c [.f 29,6] [6],o1 5 7 [7],o2 8 (.p (.ext 0)) [5] [],o2 9 (.p (.ext 1)) [5] [5],o2 3 (.a (.alloc 2 [.int .i64 0,.int .i64 0])) [] [],oz (su 2) [3,8] [3,8],o1 4 9 [9]]) (.seq (.ops [o1 10 4 [4],o2 11 (bI .eql) [10,.k (.int .i64 0)] [10],o1 2 11 [11]]) (.ret)))⟩
def fh.t:RF:=⟨10,[.s 3],.seq (.ops [o1 3 (.k (.bool false)) [3]]) (.seq (.ops [o1 4 0 [0],o2 5 ln [4] [4],o2 6 (fa 0) [1] [1],o2 7 (ld 1) [6] [6],o2 8 ln [7] [7],o2 9 (bI .neq) [5,8] [5,8],o1 3 9 [9]]) (.ret))⟩
def cD.t:RF:=⟨19,[.s 4],.seq (.ops [o1 4 (.k (.int .i64 0)) [4]]) (.seq (.seq (.ops [o1 6 0 [],o2 7 ln [6] [6],o1 8 (.k (.int .i64 0)) []]) (.block 0 (.gh (.keep [0,1,7,8] []) (.loop (.hg (.seq (.ops [o2 9 (bI .lss) [8,7] []]) (.seq (.cond (.s 9) (.skip) (.gh (.keep [] []) (.exit 0))) (.seq (.block 1 (.seq (.ops [o1 10 8 [],o1 5 10 [10]]) (.seq (.ops [o1 11 1 [],o1 12 0 [],o1 13 5 [],o2 14 (ix 1) [12,13] [12,13],o2 15 (ld 1) [14] [14],o2 16 .c [11,15] [11,15]]) (.cond (.s 16) (.seq (.ops [o1 17 5 [5],o1 4 17 [17]]) (.gh (.keep [4] []) (.ret))) (.skip))))) (.ops [o2 18 (bI .add) [8,.k (.int .i64 1)] [8],o1 8 18 [18]])))) (.keep [0,1,7,8] [])))))) (.seq (.ops [o1 4 (.k (.int .i64 (-1))) []]) (.gh (.keep [4] []) (.ret))))⟩
def cG.t:RF:=⟨9,[.s 4],.seq (.ops [o1 4 (.k (.bool false)) [4]]) (.seq (.ops [o1 5 0 [0],o1 6 1 [1],o2 7 .c [.f 37,5,6] [5,6],o2 8 (bI .geq) [7,.k (.int .i64 0)] [7],o1 4 8 [8]]) (.ret))⟩
def iR.t:RF:=⟨13,[.s 4],.seq (.ops [o2 2 (.a .box) [0] [0],o1 4 (.k (.bool false)) [4]]) (.seq (.ops [o2 5 (lD 1) [2] [],o2 6 .c [.f 30,5] [5],o1 7 6 [6],o3 8 7 true (.p (.id)) [1] [1],o3 9 7 true (.p (.clo 36 0)) [2] [2],o3 10 7 true .c [.f 38,8,9] [8,9],o3 11 7 true (.p (.not)) [10] [10],o2 12 (.p (.pick)) [7,11,.k (.bool false)] [7,11],o1 4 12 [12]]) (.ret))⟩
def eE.t:RF:=⟨28,[.s 4],.seq (.ops [o2 2 (.a .box) [0] [0],o1 4 (.k (.bool false)) [4]]) (.seq (.seq (.ops [o1 7 1 [1],o2 8 ln [7] [],o1 9 (.k (.int .i64 0)) []]) (.block 0 (.gh (.keep [2,7,8,9] [2]) (.loop (.hg (.seq (.ops [o2 10 (bI .lss) [9,8] []]) (.seq (.cond (.s 10) (.skip) (.gh (.keep [] []) (.exit 0))) (.seq (.block 1 (.seq (.ops [o1 11 9 [],o2 12 (ix 1) [7,9] [],o2 13 (ld 1) [12] [12],o1 5 11 [11],o1 6 13 [13]]) (.seq (.ops [o1 14 6 [],o2 15 (bI .lss) [14,.k (.int .i64 0)] [14],o1 16 15 [15],o3 17 16 false (.p (.id)) [6] [6],o3 18 16 false (fa 0) [2] [],o3 19 16 false (ld 1) [18] [18],o3 20 16 false (.p (.id)) [5] [5],o3 21 16 false (ix 3) [19,20] [19,20],o3 22 16 false (fa 2) [21] [21],o3 23 16 false (ld 1) [22] [22],o3 24 16 false ln [23] [23],o3 25 16 false (bI .gtr) [17,24] [17,24],o2 26 (.p (.pick)) [16,.k (.bool true),25] [16,25]]) (.cond (.s 26) (.seq (.ops [o1 4 (.k (.bool false)) []]) (.gh (.keep [4] []) (.ret))) (.skip))))) (.ops [o2 27 (bI .add) [9,.k (.int .i64 1)] [9],o1 9 27 [27]])))) (.keep [2,7,8,9] [2])))))) (.seq (.ops [o1 4 (.k (.bool true)) []]) (.gh (.keep [4] []) (.ret))))⟩
def iS.t:RF:=⟨14,[.s 4],.seq (.ops [o2 2 (.a .box) [0] [0],o1 4 (.k (.bool false)) [4]]) (.seq (.ops [o1 5 1 [],o2 6 (bI .geq) [5,.k (.int .i64 0)] [5],o1 7 6 [6],o3 8 7 true (.p (.id)) [1] [1],o3 9 7 true (fa 0) [2] [2],o3 10 7 true (ld 1) [9] [9],o3 11 7 true ln [10] [10],o3 12 7 true (bI .lss) [8,11] [8,11],o2 13 (.p (.pick)) [7,12,.k (.bool false)] [7,12],o1 4 13 [13]]) (.ret))⟩
def e9.t:RF:=⟨30,[.ld 6 2 true,.ld 7 1 false],.seq (.ops [o2 3 (.a .box) [0] [0],o2 4 (.a .box) [1] [1],o2 5 (.a .box) [2] [2],o2 6 (.a (.alloc 2 [.int .i64 0,.int .i64 0])) [] [],o2 7 (.a (.alloc 1 [.bool false])) [] []]) (.seq (.seq (.ops [o2 10 (lD 1) [3] [],o2 11 .c [.f 30,10] [10],o2 12 (.p (.not)) [11] [11]]) (.cond (.s 12) (.seq (.ops [o2 13 (.p (.build [.int .i64 0,.int .i64 0] [])) [] [],oz (su 2) [6,13] [13],oz (su 1) [7,.k (.bool false)] []]) (.gh (.keep [6,7] [6,7]) (.ret))) (.skip))) (.seq (.seq (.ops [o2 14 (lD 1) [3] [3],o2 15 .c [.f 18,14] [14]]) (.block 0 (.gh (.keep [4,5,6,7,15] [4,5,6,7]) (.each (.s 15) [16,17] (.seq (.ops [o2 8 (.a (.alloc 2 [.int .i64 0,.int .i64 0])) [] [],oz (su 2) [8,16] [16]]) (.ops [o2 9 (.a (.alloc 5 [.int .i64 0,.int .i64 0,.int .i64 0,.int .i64 0,.ay])) [] [],oz (su 5) [9,17] [17]])) (.hg (.block 1 (.seq (.ops [o2 18 (fa 0) [9] [],o2 19 (ld 1) [18] [18],o2 20 (ld 1) [4] [],o2 21 (bI .eql) [19,20] [19,20],o1 22 21 [21],o3 23 22 true (fa 2) [9] [9],o3 24 22 true (ld 1) [23] [23],o3 25 22 true (ld 1) [5] [],o3 26 22 true (bI .eql) [24,25] [24,25],o2 27 (.p (.pick)) [22,26,.k (.bool false)] [22,26]]) (.cond (.s 27) (.seq (.ops [o2 28 (lD 2) [8] [8],oz (su 2) [6,28] [28],oz (su 1) [7,.k (.bool true)] []]) (.gh (.keep [] [4,5,6,7]) (.ret))) (.skip)))) (.keep [] [4,5,6,7])))))) (.seq (.ops [o2 29 (.p (.build [.int .i64 0,.int .i64 0] [])) [] [],oz (su 2) [6,29] [29],oz (su 1) [7,.k (.bool false)] []]) (.gh (.keep [6,7] [6,7]) (.ret)))))⟩
def gz.t:RF:=⟨11,[.ld 4 2 true,.s 5],.seq (.ops [o2 2 (.a .box) [0] [0],o2 4 (.a (.alloc 2 [.int .i64 0,.int .i64 0])) [] [],o1 5 (.k (.bool false)) [5]]) (.seq (.ops [o2 6 (lD 1) [2] [2],o1 7 1 [1],o2 8 .c [.f 42,6,.k (.int .i64 2),7] [6,7],o2 9 (.p (.ext 0)) [8] [],o2 10 (.p (.ext 1)) [8] [8],oz (su 2) [4,9] [9],o1 5 10 [10]]) (.ret))⟩
def dU.t:RF:=⟨61,[.ld 4 2 true,.ld 5 2 true,.s 6],.seq (.ops [o2 2 (.a .box) [0] [0],o2 4 (.a (.alloc 2 [.int .i64 0,.int .i64 0])) [] [],o2 5 (.a (.alloc 2 [.int .i64 0,.int .i64 0])) [] [],o1 6 (.k (.bool false)) [6]]) (.seq (.seq (.ops [o1 13 1 [],o2 14 ln [13] [],o1 15 (.k (.int .i64 0)) []]) (.block 0 (.gh (.keep [1,2,4,5,13,14,15] [2,4,5]) (.loop (.hg (.seq (.ops [o2 16 (bI .lss) [15,14] []]) (.seq (.cond (.s 16) (.skip) (.gh (.keep [4,5] [4,5]) (.exit 0))) (.seq (.block 1 (.seq (.ops [o1 17 15 [],o2 18 (ix 1) [13,15] [],o2 19 (ld 1) [18] [18],o1 7 17 [17],o1 8 19 [19]]) (.seq (.ops [o2 20 (fa 0) [2] [],o2 21 (ld 1) [20] [20],o1 22 7 [],o2 23 (ix 3) [21,22] [21,22],o2 24 (fa 2) [23] [23],o2 25 (ld 1) [24] [24],o1 26 8 [8],o2 27 (.p (.slice 5 false true)) [25,26] [25,26],o2 28 ln [27] [],o1 29 (.k (.int .i64 0)) []]) (.block 2 (.gh (.keep [1,2,4,5,7,13,14,15,27,28,29] [2,4,5]) (.loop (.hg (.seq (.ops [o2 30 (bI .lss) [29,28] []]) (.seq (.cond (.s 30) (.skip) (.gh (.keep [1,2,4,5,13,14,15] [2,4,5]) (.exit 2))) (.seq (.block 3 (.seq (.ops [o1 31 29 [],o2 32 (ix 5) [27,29] [],o2 33 (lD 5) [32] [32],o2 10 (.a (.alloc 5 [.int .i64 0,.int .i64 0,.int .i64 0,.int .i64 0,.ay])) [] [],o1 9 31 [31],oz (su 5) [10,33] [33]]) (.seq (.seq (.ops [o2 34 (fa 0) [10] [],o2 35 (ld 1) [34] [34],o2 36 (bI .neq) [35,.k (.int .i64 3)] [35]]) (.cond (.s 36) (.exit 3) (.skip))) (.seq (.ops [o2 38 (lD 1) [2] [],o2 39 (fa 2) [10] [10],o2 40 (ld 1) [39] [39],o2 41 .c [.f 43,38,40] [38,40],o1 37 41 [41],o2 42 (.p (.ext 0)) [37] [],o2 43 (.p (.ext 1)) [37] [37],o2 11 (.a (.alloc 2 [.int .i64 0,.int .i64 0])) [] [],oz (su 2) [11,42] [42],o1 12 43 [12,43]]) (.seq (.gb [o2 44 (fa 1) [11] [],o2 45 (ld 1) [44] [44],o1 46 1 [],o2 47 (fa 0) [11] [],o2 48 (ld 1) [47] [47],o2 49 (ix 1) [46,48] [46,48],o2 50 (ld 1) [49] [49],on 51 (bI .gtr) [45,50] [45,50]]) (.cond (.s 51) (.seq (.ops [o2 52 (lD 2) [11] [11],o1 53 7 [7],o1 54 9 [9],o2 55 (bI .add) [54,.k (.int .i64 1)] [54],o2 56 (.p (.build [.int .i64 0,.int .i64 0] [(0,1),(1,1)])) [53,55] [53,55],oz (su 2) [4,52] [52],oz (su 2) [5,56] [56],o1 6 (.k (.bool true)) []]) (.gh (.keep [4,5,6] [4,5]) (.ret))) (.skip))))))) (.ops [o2 57 (bI .add) [29,.k (.int .i64 1)] [29],o1 29 57 [57]])))) (.keep [1,2,4,5,7,13,14,15,27,28,29] [2,4,5])))))))) (.ops [o2 58 (bI .add) [15,.k (.int .i64 1)] [15],o1 15 58 [58]])))) (.keep [1,2,4,5,13,14,15] [2,4,5])))))) (.seq (.ops [o2 59 (.p (.build [.int .i64 0,.int .i64 0] [])) [] [],o2 60 (.p (.build [.int .i64 0,.int .i64 0] [])) [] [],oz (su 2) [4,59] [59],oz (su 2) [5,60] [60],o1 6 (.k (.bool false)) []]) (.gh (.keep [4,5,6] [4,5]) (.ret))))⟩
def iL.t:RF:=⟨17,[.s 4],.seq (.ops [o2 2 (.a .box) [0] [0],o1 4 (.k (.bool false)) [4]]) (.seq (.ops [o2 9 (lD 1) [2] [2],o1 10 1 [1],o2 11 .c [.f 44,9,10] [9,10],o1 8 11 [11],o2 12 (.p (.ext 0)) [8] [],o2 13 (.p (.ext 1)) [8] [],o2 14 (.p (.ext 2)) [8] [8],o2 5 (.a (.alloc 2 [.int .i64 0,.int .i64 0])) [] [],o2 6 (.a (.alloc 2 [.int .i64 0,.int .i64 0])) [] [],oz (su 2) [5,12] [5,12],oz (su 2) [6,13] [6,13],o1 7 14 [14]]) (.seq (.ops [o1 15 7 [7],o2 16 (.p (.not)) [15] [15],o1 4 16 [16]]) (.ret)))⟩
def dj.t:RF:=⟨50,[.s 6],.seq (.ops [o2 3 (.a .box) [0] [0],o1 6 (.k (.int .i64 0)) [6]]) (.seq (.seq (.ops [o2 13 (lD 1) [3] [],o1 14 1 [],o2 15 .c [.f 39,13,14] [13,14],o2 16 (.p (.not)) [15] [15]]) (.cond (.s 16) (.seq (.ops [o1 6 (.k (.int .i64 1)) []]) (.gh (.keep [6] []) (.ret))) (.skip))) (.seq (.seq (.ops [o1 17 1 [],o2 18 ln [17] [],o1 19 (.k (.int .i64 0)) []]) (.block 0 (.gh (.keep [1,2,3,17,18,19] [3]) (.loop (.hg (.seq (.ops [o2 20 (bI .lss) [19,18] []]) (.seq (.cond (.s 20) (.skip) (.gh (.keep [1,2,3] [3]) (.exit 0))) (.seq (.block 1 (.seq (.ops [o2 21 (ix 1) [17,19] [],o2 22 (ld 1) [21] [21],o1 8 22 [22]]) (.seq (.ops [o2 23 (lD 1) [3] [],o1 24 8 [8],o2 25 .c [.f 40,23,24] [23,24],o2 26 (.p (.not)) [25] [25]]) (.cond (.s 26) (.seq (.ops [o1 6 (.k (.int .i64 2)) []]) (.gh (.keep [6] []) (.ret))) (.skip))))) (.ops [o2 27 (bI .add) [19,.k (.int .i64 1)] [19],o1 19 27 [27]])))) (.keep [1,2,3,17,18,19] [3])))))) (.seq (.seq (.ops [o1 28 2 [2],o2 29 ln [28] [],o1 30 (.k (.int .i64 0)) []]) (.block 2 (.gh (.keep [1,3,28,29,30] [3]) (.loop (.hg (.seq (.ops [o2 31 (bI .lss) [30,29] []]) (.seq (.cond (.s 31) (.skip) (.gh (.keep [1,3] [3]) (.exit 2))) (.seq (.block 3 (.seq (.ops [o2 32 (ix 1) [28,30] [],o2 33 (ld 1) [32] [32],o1 10 33 [33]]) (.seq (.ops [o2 34 (lD 1) [3] [],o1 35 10 [10],o2 36 .c [.f 41,34,35] [34,35],o2 37 (.p (.not)) [36] [36]]) (.cond (.s 37) (.seq (.ops [o1 6 (.k (.int .i64 2)) []]) (.gh (.keep [6] []) (.ret))) (.skip))))) (.ops [o2 38 (bI .add) [30,.k (.int .i64 1)] [30],o1 30 38 [38]])))) (.keep [1,3,28,29,30] [3])))))) (.seq (.seq (.ops [o1 39 1 [1],o2 40 ln [39] [],o1 41 (.k (.int .i64 0)) []]) (.block 4 (.gh (.keep [3,39,40,41] [3]) (.loop (.hg (.seq (.ops [o2 42 (bI .lss) [41,40] []]) (.seq (.cond (.s 42) (.skip) (.gh (.keep [] []) (.exit 4))) (.seq (.block 5 (.seq (.ops [o2 43 (ix 1) [39,41] [],o2 44 (ld 1) [43] [43],o1 12 44 [44]]) (.seq (.ops [o2 45 (lD 1) [3] [],o1 46 12 [12],o2 47 .c [.f 45,45,46] [45,46],o2 48 (.p (.not)) [47] [47]]) (.cond (.s 48) (.seq (.ops [o1 6 (.k (.int .i64 18)) []]) (.gh (.keep [6] []) (.ret))) (.skip))))) (.ops [o2 49 (bI .add) [41,.k (.int .i64 1)] [41],o1 41 49 [49]])))) (.keep [3,39,40,41] [3])))))) (.seq (.ops [o1 6 (.k (.int .i64 0)) []]) (.gh (.keep [6] []) (.ret)))))))⟩
def dP.t:RF:=⟨34,[.s 4,.s 5],.seq (.ops [o2 2 (.a .box) [0] [0],o1 4 (.k (.ay)) [4],o1 5 (.k (.int .i64 0)) [5]]) (.seq (.seq (.ops [o2 10 (lD 1) [2] [2],o1 11 1 [],o2 12 (.a (.buildSl 1 1 [.ay] [0])) [11] [11],o2 13 .c [.f 46,10,12,.k (.ay)] [10,12],o1 6 13 [13]]) (.seq (.ops [o1 14 6 [],o2 15 (bI .neq) [14,.k (.int .i64 0)] [14]]) (.cond (.s 15) (.seq (.ops [o1 16 6 [6],o1 4 (.k (.ay)) [],o1 5 16 [16]]) (.ret)) (.skip)))) (.seq (.ops [o1 7 (.k (.ay)) []]) (.seq (.seq (.ops [o1 17 1 [1],o2 18 ln [17] [],o1 19 (.k (.int .i64 0)) []]) (.block 0 (.gh (.canon (.s 7) 2007 2) (.gh (.keep [7,17,18,19] [2007]) (.loop (.hg (.hg (.seq (.ops [o2 20 (bI .lss) [19,18] []]) (.seq (.cond (.s 20) (.skip) (.gh (.canon (.s 7) 2007 2) (.gh (.keep [7] [2007]) (.exit 0)))) (.seq (.block 1 (.seq (.ops [o1 21 19 [],o2 22 (ix 1) [17,19] [],o2 23 (ld 1) [22] [22],o1 8 21 [21],o1 9 23 [23]]) (.seq (.ops [o1 24 9 [],o2 25 (bI .gtr) [24,.k (.int .i64 0)] [24]]) (.cond (.s 25) (.ops [o1 26 7 [7],o1 27 8 [8],o1 28 9 [9],o2 29 (.p (.build [.int .i64 0,.int .i64 0] [(0,1),(1,1)])) [27,28] [27,28],o2 30 (.a (.buildSl 2 1 [.int .i64 0,.int .i64 0] [0])) [29] [29],o2 31 (.l (.append 2)) [26,30] [26,30],o1 7 31 [31]]) (.skip))))) (.ops [o2 32 (bI .add) [19,.k (.int .i64 1)] [19],o1 19 32 [32]])))) (.canon (.s 7) 2007 2)) (.keep [7,17,18,19] [2007]))))))) (.seq (.ops [o1 33 7 [7],o1 4 33 [33],o1 5 (.k (.int .i64 0)) []]) (.ret)))))⟩
def dm.t:RF:=⟨74,[.ld 6 4 true],.seq (.ops [o2 3 (.a .box) [0] [0],o2 6 (.a (.alloc 4 [.int .i64 0,.int .i64 0,.ay,.ay])) [] []]) (.seq (.ops [o1 12 1 [],o1 13 2 [],o2 14 (.p (.build [.int .i64 0,.int .i64 0,.ay,.ay] [(0,1),(1,1)])) [12,13] [12,13],o2 7 (.a (.alloc 4 [.int .i64 0,.int .i64 0,.ay,.ay])) [] [],oz (su 4) [7,14] [14]]) (.seq (.seq (.ops [o2 15 (fa 0) [3] [],o2 16 (ld 1) [15] [15],o1 17 1 [],o2 18 (ix 3) [16,17] [16,17],o2 19 (fa 2) [18] [18],o2 20 (ld 1) [19] [19],o2 21 ln [20] [],o1 22 (.k (.int .i64 0)) []]) (.block 0 (.gh (.canon (.c 7 2) 4142 1) (.gh (.keep [1,2,3,6,7,20,21,22] [3,6,7,4142]) (.loop (.hg (.hg (.seq (.ops [o2 23 (bI .lss) [22,21] []]) (.seq (.cond (.s 23) (.skip) (.gh (.canon (.c 7 2) 4142 1) (.gh (.keep [1,2,3,6,7] [3,6,7,4142]) (.exit 0)))) (.seq (.block 1 (.seq (.ops [o1 24 22 [],o2 25 (ix 5) [20,22] [],o2 26 (lD 5) [25] [25],o2 9 (.a (.alloc 5 [.int .i64 0,.int .i64 0,.int .i64 0,.int .i64 0,.ay])) [] [],o1 8 24 [24],oz (su 5) [9,26] [26]]) (.seq (.ops [o2 27 (fa 0) [9] [],o2 28 (ld 1) [27] [27],o2 29 (bI .eql) [28,.k (.int .i64 2)] [28],o1 30 29 [29],o3 31 30 true (fa 1) [9] [9],o3 32 30 true (ld 1) [31] [31],o3 33 30 true (.p (.id)) [2] [],o3 34 30 true (bI .eql) [32,33] [32,33],o2 35 (.p (.pick)) [30,34,.k (.bool false)] [30,34]]) (.cond (.s 35) (.ops [o2 36 (fa 2) [7] [],o2 37 (ld 1) [36] [36],o1 38 8 [8],o2 39 (bI .add) [38,.k (.int .i64 1)] [38],o2 40 (.a (.buildSl 1 1 [.int .i64 0] [0])) [39] [39],o2 41 (.l (.append 1)) [37,40] [37,40],o2 42 (fa 2) [7] [],oz (su 1) [42,41] [41,42]]) (.skip))))) (.ops [o2 43 (bI .add) [22,.k (.int .i64 1)] [22],o1 22 43 [43]])))) (.canon (.c 7 2) 4142 1)) (.keep [1,2,3,6,7,20,21,22] [3,6,7,4142]))))))) (.seq (.seq (.ops [o2 44 (fa 0) [3] [3],o2 45 (ld 1) [44] [44],o1 46 2 [2],o2 47 (ix 3) [45,46] [45,46],o2 48 (fa 2) [47] [47],o2 49 (ld 1) [48] [48],o2 50 ln [49] [],o1 51 (.k (.int .i64 0)) []]) (.block 2 (.gh (.canon (.c 7 2) 4142 1) (.gh (.canon (.c 7 3) 4143 1) (.gh (.keep [1,6,7,49,50,51] [6,7,4142,4143]) (.loop (.hg (.hg (.hg (.seq (.ops [o2 52 (bI .lss) [51,50] []]) (.seq (.cond (.s 52) (.skip) (.gh (.canon (.c 7 2) 4142 1) (.gh (.canon (.c 7 3) 4143 1) (.gh (.keep [6,7] [6,7,4142,4143]) (.exit 2))))) (.seq (.block 3 (.seq (.ops [o1 53 51 [],o2 54 (ix 5) [49,51] [],o2 55 (lD 5) [54] [54],o2 11 (.a (.alloc 5 [.int .i64 0,.int .i64 0,.int .i64 0,.int .i64 0,.ay])) [] [],o1 10 53 [53],oz (su 5) [11,55] [55]]) (.seq (.ops [o2 56 (fa 0) [11] [],o2 57 (ld 1) [56] [56],o2 58 (bI .eql) [57,.k (.int .i64 3)] [57],o1 59 58 [58],o3 60 59 true (fa 1) [11] [11],o3 61 59 true (ld 1) [60] [60],o3 62 59 true (.p (.id)) [1] [],o3 63 59 true (bI .eql) [61,62] [61,62],o2 64 (.p (.pick)) [59,63,.k (.bool false)] [59,63]]) (.cond (.s 64) (.ops [o2 65 (fa 3) [7] [],o2 66 (ld 1) [65] [65],o1 67 10 [10],o2 68 (bI .add) [67,.k (.int .i64 1)] [67],o2 69 (.a (.buildSl 1 1 [.int .i64 0] [0])) [68] [68],o2 70 (.l (.append 1)) [66,69] [66,69],o2 71 (fa 3) [7] [],oz (su 1) [71,70] [70,71]]) (.skip))))) (.ops [o2 72 (bI .add) [51,.k (.int .i64 1)] [51],o1 51 72 [72]])))) (.canon (.c 7 2) 4142 1)) (.canon (.c 7 3) 4143 1)) (.keep [1,6,7,49,50,51] [6,7,4142,4143])))))))) (.seq (.ops [⟨some 73,none,false,lD 4,[7],[7],[.closeS (.c 7 2),.closeS (.c 7 3)]⟩,oz (su 4) [6,73] [73]]) (.ret)))))⟩
def fW.t:RF:=⟨6,[.s 2],.seq (.ops [o1 2 (.k (.bool false)) [2]]) (.seq (.ops [o1 3 0 [],o1 4 0 [0],o2 5 (bI .neq) [3,4] [3,4],o1 2 5 [5]]) (.ret))⟩
def gu.t:RF:=⟨17,[.s 4],.seq (.ops [o1 4 (.k (.bool false)) [4]]) (.seq (.ops [o1 5 0 [],o2 6 .c [.f 50,5] [5],o1 7 6 [6],o3 8 7 true (.p (.id)) [1] [],o3 9 7 true .c [.f 50,8] [8],o3 10 7 true (.p (.not)) [9] [9],o2 11 (.p (.pick)) [7,10,.k (.bool false)] [7,10],o1 12 11 [11],o3 13 12 false (.p (.id)) [0] [0],o3 14 12 false (.p (.id)) [1] [1],o3 15 12 false (bI .lss) [13,14] [13,14],o2 16 (.p (.pick)) [12,.k (.bool true),15] [12,15],o1 4 16 [16]]) (.ret))⟩
def eM.t:RF:=⟨6,[.s 2],.seq (.ops [o1 2 (.k (.bool false)) [2]]) (.seq (.ops [o1 3 0 [],o1 4 0 [0],o2 5 (bI .neq) [3,4] [3,4],o1 2 5 [5]]) (.ret))⟩
def bE.t:RF:=⟨54,[.s 4,.s 5],.seq (.ops [o1 4 (.k (.int .i64 0)) [4],o1 5 (.k (.bool false)) [5]]) (.seq (.ops [o1 10 0 [],o2 11 ln [10] [10],o1 6 11 [11]]) (.seq (.ops [o1 12 6 [],o1 7 (.k (.int .i64 0)) [],o1 8 12 [12]]) (.seq (.block 0 (.gh (.keep [0,1,6,7,8] []) (.loop (.hg (.seq (.seq (.ops [o1 13 7 [],o1 14 8 [],o2 15 (bI .lss) [13,14] [13,14]]) (.cond (.s 15) (.skip) (.gh (.keep [0,1,6,7] []) (.exit 0)))) (.block 1 (.seq (.ops [o1 16 7 [],o1 17 8 [],o2 18 (bI .add) [16,17] [16,17],o2 19 (.p (.conv .u64)) [18] [18],o2 20 (bI .shr) [19,.k (.int .u64 1)] [19],o2 21 (.p (.conv .i64)) [20] [20],o1 9 21 [21]]) (.seq (.ops [o1 22 0 [],o1 23 9 [],o2 24 (ix 1) [22,23] [22,23],o2 25 (ld 1) [24] [24],o1 26 1 [],o2 27 .c [.f 51,25,26] [25,26]]) (.cond (.s 27) (.ops [o1 28 9 [9],o2 29 (bI .add) [28,.k (.int .i64 1)] [28],o1 7 29 [29]]) (.ops [o1 30 9 [9],o1 8 30 [30]])))))) (.keep [0,1,6,7,8] []))))) (.seq (.ops [o1 31 7 [],o1 32 7 [],o1 33 6 [6],o2 34 (bI .lss) [32,33] [32,33],o1 35 34 [34],o3 36 35 true (.p (.id)) [0] [],o3 37 35 true (.p (.id)) [7] [],o3 38 35 true (ix 1) [36,37] [36,37],o3 39 35 true (ld 1) [38] [38],o3 40 35 true (.p (.id)) [1] [],o3 41 35 true (bI .eql) [39,40] [39,40],o3 42 35 true (.p (.id)) [41] [41],o3 43 42 false (.p (.id)) [0] [0],o3 44 42 false (.p (.id)) [7] [7],o3 45 42 false (ix 1) [43,44] [43,44],o3 46 42 false (ld 1) [45] [45],o3 47 42 false .c [.f 52,46] [46],o3 48 42 false (.p (.id)) [47] [47],o3 49 48 true (.p (.id)) [1] [1],o3 50 48 true .c [.f 52,49] [49],o3 51 42 false (.p (.pick)) [48,50,.k (.bool false)] [48,50],o3 52 35 true (.p (.pick)) [42,.k (.bool true),51] [42,51],o2 53 (.p (.pick)) [35,52,.k (.bool false)] [35,52],o1 4 31 [31],o1 5 53 [53]]) (.ret)))))⟩
def fT.t:RF:=⟨17,[.s 4],.seq (.ops [o1 4 (.k (.int .i64 0)) [4]]) (.seq (.ops [o1 8 0 [0],o1 9 1 [1],o2 10 .c [.f 53,8,9] [8,9],o1 7 10 [10],o2 11 (.p (.ext 0)) [7] [],o2 12 (.p (.ext 1)) [7] [7],o1 5 11 [11],o1 6 12 [12]]) (.seq (.seq (.ops [o1 13 6 [6]]) (.cond (.s 13) (.ops [o1 14 5 [5],o2 15 (bI .add) [14,.k (.int .i64 1)] [14],o1 5 15 [15]]) (.skip))) (.seq (.ops [o1 16 5 [5],o1 4 16 [16]]) (.ret))))⟩
def eL.t:RF:=⟨22,[.s 4],.seq (.ops [o2 2 (.a .box) [0] [0],o1 4 (.k (.int .i64 0)) [4]]) (.seq (.gb [o2 5 (fa 2) [2] [],o2 6 (ld 1) [5] [5],o1 7 1 [],o2 8 (fa 0) [2] [],o2 9 (ld 1) [8] [8],o2 10 (ix 1) [7,9] [7,9],o2 11 (ld 1) [10] [10],o2 12 .c [.f 54,6,11] [6,11],o2 13 (fa 3) [2] [],o2 14 (ld 1) [13] [13],o1 15 1 [1],o2 16 (fa 1) [2] [2],o2 17 (ld 1) [16] [16],o2 18 (ix 1) [15,17] [15,17],o2 19 (ld 1) [18] [18],on 20 .c [.f 54,14,19] [14,19],on 21 (bI .sub) [12,20] [12,20],on 4 (.p (.id)) [21] [21]]) (.ret))⟩
def bQ.t:RF:=⟨54,[.s 4,.s 5],.seq (.ops [o2 2 (.a .box) [0] [0],o1 4 (.k (.ay)) [4],o1 5 (.k (.int .i64 0)) [5]]) (.seq (.seq (.ops [o2 14 (lD 1) [2] [],o1 15 1 [],o2 16 .c [.f 48,14,15] [14,15],o1 13 16 [16],o2 17 (.p (.ext 0)) [13] [],o2 18 (.p (.ext 1)) [13] [13],o1 6 17 [6,17],o1 7 18 [18]]) (.seq (.ops [o1 19 7 [],o2 20 (bI .neq) [19,.k (.int .i64 0)] [19]]) (.cond (.s 20) (.seq (.ops [o1 21 7 [7],o1 4 (.k (.ay)) [],o1 5 21 [21]]) (.ret)) (.skip)))) (.seq (.ops [o2 22 (fa 0) [2] [],o2 23 (ld 1) [22] [22],o2 24 ln [23] [23],o1 8 24 [24]]) (.seq (.ops [o1 9 (.k (.ay)) []]) (.seq (.seq (.ops [o1 25 8 [],o1 26 (.k (.int .i64 0)) []]) (.block 0 (.gh (.canon (.s 9) 2009 1) (.gh (.keep [1,2,8,9,25,26] [2,2009]) (.loop (.hg (.hg (.seq (.ops [o2 27 (bI .lss) [26,25] []]) (.seq (.cond (.s 27) (.skip) (.gh (.canon (.s 9) 2009 1) (.gh (.keep [9] [2009]) (.exit 0)))) (.seq (.block 1 (.seq (.ops [o1 28 26 [],o1 10 28 [28]]) (.seq (.ops [o1 29 8 [],o2 30 (.a (.makeSl 1 [.int .i64 0])) [29,29] [29],o1 11 30 [30]]) (.seq (.seq (.ops [o1 31 8 [],o1 32 (.k (.int .i64 0)) []]) (.block 2 (.gh (.canon (.s 9) 2009 1) (.gh (.canon (.s 11) 2011 1) (.gh (.keep [1,2,8,9,10,11,25,26,31,32] [2,2009,2011]) (.loop (.hg (.hg (.hg (.seq (.ops [o2 33 (bI .lss) [32,31] []]) (.seq (.cond (.s 33) (.skip) (.gh (.canon (.s 9) 2009 1) (.gh (.canon (.s 11) 2011 1) (.gh (.keep [1,2,8,9,11,25,26] [2,2009,2011]) (.exit 2))))) (.seq (.block 3 (.seq (.ops [o1 34 32 [],o1 12 34 [34]]) (.seq (.ops [o1 35 10 [],o1 36 12 [],o2 37 (bI .neq) [35,36] [35,36]]) (.cond (.s 37) (.ops [o1 38 11 [],o1 39 12 [],o2 40 (lD 1) [2] [],o1 41 10 [],o1 42 12 [12],o2 43 .c [.f 49,40,41,42] [40,41,42],o1 44 1 [],o2 45 .c [.f 55,43,44] [43,44],o2 46 (ix 1) [38,39] [38,39],oz (su 1) [46,45] [45,46]]) (.skip))))) (.ops [o2 47 (bI .add) [32,.k (.int .i64 1)] [32],o1 32 47 [47]])))) (.canon (.s 9) 2009 1)) (.canon (.s 11) 2011 1)) (.keep [1,2,8,9,10,11,25,26,31,32] [2,2009,2011])))))))) (.ops [o1 48 9 [9],o1 49 11 [11],⟨some 50,none,false,.a (.buildSl 1 1 [.ay] [0]),[49],[49],[.closeS (.s 49)]⟩,o2 51 (.l (.append 1)) [48,50] [48,50],o1 9 51 [51]]))))) (.ops [o2 52 (bI .add) [26,.k (.int .i64 1)] [26],o1 26 52 [52]])))) (.canon (.s 9) 2009 1)) (.keep [1,2,8,9,25,26] [2,2009]))))))) (.seq (.ops [o1 53 9 [9],o1 4 53 [53],o1 5 (.k (.int .i64 0)) []]) (.ret))))))⟩
def cM.t:RF:=⟨19,[.s 4],.seq (.ops [o1 4 (.k (.int .i64 0)) [4]]) (.seq (.seq (.ops [o1 6 0 [],o2 7 ln [6] [6],o1 8 (.k (.int .i64 0)) []]) (.block 0 (.gh (.keep [0,1,7,8] []) (.loop (.hg (.seq (.ops [o2 9 (bI .lss) [8,7] []]) (.seq (.cond (.s 9) (.skip) (.gh (.keep [] []) (.exit 0))) (.seq (.block 1 (.seq (.ops [o1 10 8 [],o1 5 10 [10]]) (.seq (.ops [o1 11 1 [],o1 12 0 [],o1 13 5 [],o2 14 (ix 1) [12,13] [12,13],o2 15 (ld 1) [14] [14],o2 16 .c [11,15] [11,15]]) (.cond (.s 16) (.seq (.ops [o1 17 5 [5],o1 4 17 [17]]) (.gh (.keep [4] []) (.ret))) (.skip))))) (.ops [o2 18 (bI .add) [8,.k (.int .i64 1)] [8],o1 8 18 [18]])))) (.keep [0,1,7,8] [])))))) (.seq (.ops [o1 4 (.k (.int .i64 (-1))) []]) (.gh (.keep [4] []) (.ret))))⟩
def c8.t:RF:=⟨9,[.s 4],.seq (.ops [o1 4 (.k (.bool false)) [4]]) (.seq (.ops [o1 5 0 [0],o1 6 1 [1],o2 7 .c [.f 57,5,6] [5,6],o2 8 (bI .geq) [7,.k (.int .i64 0)] [7],o1 4 8 [8]]) (.ret))⟩
def dS.t:RF:=⟨5,[.s 2],.seq (.ops [o1 2 (.k (.bool false)) [2]]) (.seq (.ops [o1 3 0 [0],o2 4 (bI .neq) [3,.k (.int .i64 0)] [3],o1 2 4 [4]]) (.ret))⟩
def eN.t:RF:=⟨5,[.s 2],.seq (.ops [o1 2 (.k (.bool false)) [2]]) (.seq (.ops [o1 3 0 [0],o2 4 .c [.f 58,3,.f 59] [3],o1 2 4 [4]]) (.ret))⟩
def gC.t:RF:=⟨6,[.s 2],.seq (.ops [o1 2 (.k (.bool false)) [2]]) (.seq (.ops [o1 3 0 [0],o2 4 .c [.f 38,3,.f 60] [3],o2 5 (.p (.not)) [4] [4],o1 2 5 [5]]) (.ret))⟩
def eo.t:RF:=⟨21,[.s 4,.s 5],.seq (.ops [o2 2 (.a .box) [0] [0],o1 4 (.k (.bool false)) [4],o1 5 (.k (.int .i64 0)) [5]]) (.seq (.ops [o2 9 (lD 1) [2] [2],o1 10 1 [1],o2 11 .c [.f 56,9,10] [9,10],o1 8 11 [11],o2 12 (.p (.ext 0)) [8] [],o2 13 (.p (.ext 1)) [8] [8],o1 6 12 [12],o1 7 13 [13]]) (.seq (.ops [o1 14 7 [],o2 15 (bI .eql) [14,.k (.int .i64 0)] [14],o1 16 15 [15],o3 17 16 true (.p (.id)) [6] [6],o3 18 16 true .c [.f 61,17] [17],o2 19 (.p (.pick)) [16,18,.k (.bool false)] [16,18],o1 20 7 [7],o1 4 19 [19],o1 5 20 [20]]) (.ret)))⟩
def eS.t:RF:=⟨37,[.s 6],.seq (.ops [o2 3 (.a .box) [0] [0],o1 6 (.k (.int .i64 0)) [6]]) (.seq (.ops [o2 8 (fa 0) [3] [],o2 9 (ld 1) [8] [8],o2 10 ln [9] [9],o1 7 10 [10]]) (.seq (.block 0 (.seq (.ops [o2 12 (lD 1) [3] [3],o2 13 .c [.f 30,12] [12],o2 14 (.p (.not)) [13] [13],o1 11 14 [14]]) (.cond (.s 11) (.seq (.ops [o1 6 (.k (.int .i64 1)) []]) (.ret)) (.seq (.ops [o1 16 1 [],o2 17 (bI .lss) [16,.k (.int .i64 0)] [16],o1 18 17 [17],o3 19 18 false (.p (.id)) [1] [],o3 20 18 false (.p (.id)) [7] [],o3 21 18 false (bI .geq) [19,20] [19,20],o2 22 (.p (.pick)) [18,.k (.bool true),21] [18,21],o1 23 22 [22],o3 24 23 false (.p (.id)) [2] [],o3 25 23 false (bI .lss) [24,.k (.int .i64 0)] [24],o2 26 (.p (.pick)) [23,.k (.bool true),25] [23,25],o1 27 26 [26],o3 28 27 false (.p (.id)) [2] [],o3 29 27 false (.p (.id)) [7] [7],o3 30 27 false (bI .geq) [28,29] [28,29],o2 31 (.p (.pick)) [27,.k (.bool true),30] [27,30],o1 32 31 [31],o3 33 32 false (.p (.id)) [1] [1],o3 34 32 false (.p (.id)) [2] [2],o3 35 32 false (bI .eql) [33,34] [33,34],o2 36 (.p (.pick)) [32,.k (.bool true),35] [32,35],o1 15 36 [36]]) (.cond (.s 15) (.seq (.ops [o1 6 (.k (.int .i64 2)) []]) (.ret)) (.skip)))))) (.seq (.ops [o1 6 (.k (.int .i64 0)) []]) (.ret))))⟩
def eV.t:RF:=⟨14,[.s 3],.seq (.ops [o2 2 (.a .box) [0] [0],o1 3 (.k (.bool false)) [3]]) (.seq (.ops [o2 4 (fa 0) [2] [],o2 5 (ld 1) [4] [4],o2 6 (bI .eql) [5,.k (.int .i64 3)] [5],o1 7 6 [6],o3 8 7 true (fa 2) [2] [2],o3 9 7 true (ld 1) [8] [8],o3 10 7 true (fa 2) [1] [1],o3 11 7 true (ld 1) [10] [10],o3 12 7 true (bI .eql) [9,11] [9,11],o2 13 (.p (.pick)) [7,12,.k (.bool false)] [7,12],o1 3 13 [13]]) (.ret))⟩
def cV.t:RF:=⟨60,[.s 6,.s 7],.seq (.ops [o2 3 (.a .box) [0] [0],o1 6 (.k (.bool false)) [6],o1 7 (.k (.int .i64 0)) [7]]) (.seq (.seq (.ops [o2 14 (lD 1) [3] [],o1 15 1 [],o1 16 2 [],o2 17 .c [.f 31,14,15,16] [14,15,16],o1 8 17 [17]]) (.seq (.ops [o1 18 8 [],o2 19 (bI .neq) [18,.k (.int .i64 0)] [18]]) (.cond (.s 19) (.seq (.ops [o1 20 8 [8],o1 6 (.k (.bool false)) [],o1 7 20 [20]]) (.gh (.keep [6,7] []) (.ret))) (.skip)))) (.seq (.ops [o1 9 (.k (.int .i64 0)) [],o1 10 (.k (.bool false)) []]) (.seq (.seq (.ops [o2 21 (fa 0) [3] [],o2 22 (ld 1) [21] [21],o1 23 1 [1],o2 24 (ix 3) [22,23] [22,23],o2 25 (fa 2) [24] [24],o2 26 (ld 1) [25] [25],o2 27 ln [26] [],o1 28 (.k (.int .i64 0)) []]) (.block 0 (.gh (.keep [2,3,9,10,26,27,28] [3]) (.loop (.hg (.seq (.ops [o2 29 (bI .lss) [28,27] []]) (.seq (.cond (.s 29) (.skip) (.gh (.keep [] []) (.exit 0))) (.seq (.block 1 (.seq (.ops [o2 30 (ix 5) [26,28] [],o2 31 (lD 5) [30] [30],o2 12 (.a (.alloc 5 [.int .i64 0,.int .i64 0,.int .i64 0,.int .i64 0,.ay])) [] [],oz (su 5) [12,31] [31]]) (.seq (.seq (.ops [o2 32 (fa 0) [12] [],o2 33 (ld 1) [32] [32],o2 34 (bI .neq) [33,.k (.int .i64 2)] [33],o1 35 34 [34],o3 36 35 false (fa 1) [12] [],o3 37 35 false (ld 1) [36] [36],o3 38 35 false (.p (.id)) [2] [],o3 39 35 false (bI .neq) [37,38] [37,38],o2 40 (.p (.pick)) [35,.k (.bool true),39] [35,39]]) (.cond (.s 40) (.exit 1) (.skip))) (.seq (.ops [o2 41 (fa 0) [3] [],o2 42 (ld 1) [41] [41],o1 43 2 [],o2 44 (ix 3) [42,43] [42,43],o2 45 (fa 2) [44] [44],o2 46 (ld 1) [45] [45],o2 47 (.p (.clo 32 0)) [12] [12],o2 48 .c [.f 2,46,47] [46,47],o2 49 (bI .add) [48,.k (.int .i64 1)] [48],o1 13 49 [49]]) (.seq (.seq (.ops [o1 50 13 [],o2 51 (bI .eql) [50,.k (.int .i64 0)] [50]]) (.cond (.s 51) (.seq (.ops [o1 10 (.k (.bool true)) []]) (.exit 1)) (.skip))) (.seq (.seq (.ops [o1 52 10 [],o1 53 52 [52],o3 54 53 false (.p (.id)) [13] [],o3 55 53 false (.p (.id)) [9] [9],o3 56 53 false (bI .lss) [54,55] [54,55],o2 57 (.p (.pick)) [53,.k (.bool true),56] [53,56]]) (.cond (.s 57) (.seq (.ops [o1 6 (.k (.bool false)) [],o1 7 (.k (.int .i64 0)) []]) (.gh (.keep [6,7] []) (.ret))) (.skip))) (.ops [o1 58 13 [13],o1 9 58 [58]]))))))) (.ops [o2 59 (bI .add) [28,.k (.int .i64 1)] [28],o1 28 59 [59]])))) (.keep [2,3,9,10,26,27,28] [3])))))) (.seq (.ops [o1 6 (.k (.bool true)) [],o1 7 (.k (.int .i64 0)) []]) (.gh (.keep [6,7] []) (.ret))))))⟩
def fq.t:RF:=⟨17,[.s 2],.seq (.ops [o1 2 (.k (.bool false)) [2]]) (.seq (.ops [o1 3 0 [],o2 4 (bI .geq) [3,.k (.int .u8 65)] [3],o1 5 4 [4],o3 6 5 true (.p (.id)) [0] [],o3 7 5 true (bI .leq) [6,.k (.int .u8 90)] [6],o2 8 (.p (.pick)) [5,7,.k (.bool false)] [5,7],o1 9 8 [8],o3 10 9 false (.p (.id)) [0] [],o3 11 9 false (bI .geq) [10,.k (.int .u8 97)] [10],o3 12 9 false (.p (.id)) [11] [11],o3 13 12 true (.p (.id)) [0] [0],o3 14 12 true (bI .leq) [13,.k (.int .u8 122)] [13],o3 15 9 false (.p (.pick)) [12,14,.k (.bool false)] [12,14],o2 16 (.p (.pick)) [9,.k (.bool true),15] [9,15],o1 2 16 [16]]) (.ret))⟩
def gp.t:RF:=⟨9,[.s 2],.seq (.ops [o1 2 (.k (.bool false)) [2]]) (.seq (.ops [o1 3 0 [],o2 4 (bI .geq) [3,.k (.int .u8 48)] [3],o1 5 4 [4],o3 6 5 true (.p (.id)) [0] [0],o3 7 5 true (bI .leq) [6,.k (.int .u8 57)] [6],o2 8 (.p (.pick)) [5,7,.k (.bool false)] [5,7],o1 2 8 [8]]) (.ret))⟩
def dK.t:RF:=⟨42,[.s 2],.seq (.ops [o1 2 (.k (.bool false)) [2]]) (.seq (.seq (.ops [o1 4 0 [],o2 5 (.p (.lenStr)) [4] [4],o2 6 (bI .lss) [5,.k (.int .i64 1)] [5],o1 7 6 [6],o3 8 7 false (.p (.id)) [0] [],o3 9 7 false (.p (.lenStr)) [8] [8],o3 10 7 false (bI .gtr) [9,.k (.int .i64 16)] [9],o2 11 (.p (.pick)) [7,.k (.bool true),10] [7,10],o1 12 11 [11],o3 13 12 false (.p (.id)) [0] [],o3 14 12 false (.p (.idxStr)) [13,.k (.int .i64 0)] [13],o3 15 12 false .c [.f 65,14] [14],o3 16 12 false (.p (.not)) [15] [15],o2 17 (.p (.pick)) [12,.k (.bool true),16] [12,16]]) (.cond (.s 17) (.seq (.ops [o1 2 (.k (.bool false)) []]) (.gh (.keep [2] []) (.ret))) (.skip))) (.seq (.seq (.ops [o1 3 (.k (.int .i64 1)) []]) (.block 0 (.gh (.keep [0,3] []) (.loop (.hg (.seq (.seq (.ops [o1 18 3 [],o1 19 0 [],o2 20 (.p (.lenStr)) [19] [19],o2 21 (bI .lss) [18,20] [18,20]]) (.cond (.s 21) (.skip) (.gh (.keep [] []) (.exit 0)))) (.seq (.block 1 (.seq (.ops [o1 24 0 [],o1 25 3 [],o2 26 (.p (.idxStr)) [24,25] [24,25],o2 27 .c [.f 65,26] [26],o2 28 (.p (.not)) [27] [27],o1 29 28 [28],o3 30 29 true (.p (.id)) [0] [],o3 31 29 true (.p (.id)) [3] [],o3 32 29 true (.p (.idxStr)) [30,31] [30,31],o3 33 29 true .c [.f 66,32] [32],o3 34 29 true (.p (.not)) [33] [33],o2 35 (.p (.pick)) [29,34,.k (.bool false)] [29,34],o1 36 35 [35],o3 37 36 true (.p (.id)) [0] [],o3 38 36 true (.p (.id)) [3] [],o3 39 36 true (.p (.idxStr)) [37,38] [37,38],o3 40 36 true (bI .neq) [39,.k (.int .u8 95)] [39],o2 41 (.p (.pick)) [36,40,.k (.bool false)] [36,40]]) (.cond (.s 41) (.seq (.ops [o1 2 (.k (.bool false)) []]) (.gh (.keep [2] []) (.ret))) (.skip)))) (.ops [o1 22 3 [3],o2 23 (bI .add) [22,.k (.int .i64 1)] [22],o1 3 23 [23]]))) (.keep [0,3] [])))))) (.seq (.ops [o1 2 (.k (.bool true)) []]) (.gh (.keep [2] []) (.ret)))))⟩
def fR.t:RF:=⟨9,[.s 2],.seq (.ops [o1 2 (.k (.bool false)) [2]]) (.seq (.ops [o1 3 0 [],o2 4 (bI .geq) [3,.k (.int .i64 (-1073741824))] [3],o1 5 4 [4],o3 6 5 true (.p (.id)) [0] [0],o3 7 5 true (bI .leq) [6,.k (.int .i64 1073741824)] [6],o2 8 (.p (.pick)) [5,7,.k (.bool false)] [5,7],o1 2 8 [8]]) (.ret))⟩
def cw.t:RF:=⟨81,[.s 4],.seq (.ops [o2 2 (.a .box) [0] [0],o1 4 (.k (.int .i64 0)) [4]]) (.seq (.ops [o2 9 (fa 0) [2] [],o2 10 (ld 1) [9] [9],o1 11 1 [],o2 12 (ix 3) [10,11] [10,11],o2 13 (lD 3) [12] [12],o2 5 (.a (.alloc 3 [.str ByteArray.empty,.ay,.ay])) [] [],oz (su 3) [5,13] [13]]) (.seq (.seq (.ops [o2 14 (fa 0) [5] [],o2 15 (ld 1) [14] [14],o2 16 .c [.f 67,15] [15],o2 17 (.p (.not)) [16] [16]]) (.cond (.s 17) (.seq (.ops [o1 4 (.k (.int .i64 13)) []]) (.gh (.keep [4] []) (.ret))) (.skip))) (.seq (.seq (.ops [o1 6 (.k (.int .i64 0)) []]) (.block 0 (.gh (.keep [1,2,5,6] [2,5]) (.loop (.hg (.seq (.seq (.ops [o1 18 6 [],o1 19 1 [],o2 20 (bI .lss) [18,19] [18,19]]) (.cond (.s 20) (.skip) (.gh (.keep [5] [5]) (.exit 0)))) (.seq (.block 1 (.seq (.gb [o2 23 (fa 0) [2] [],o2 24 (ld 1) [23] [23],o1 25 6 [],o2 26 (ix 3) [24,25] [24,25],o2 27 (fa 0) [26] [26],o2 28 (ld 1) [27] [27],o2 29 (fa 0) [5] [],o2 30 (ld 1) [29] [29],on 31 (.p (.bin (some .str) none .eql)) [28,30] [28,30]]) (.cond (.s 31) (.seq (.ops [o1 4 (.k (.int .i64 13)) []]) (.gh (.keep [4] []) (.ret))) (.skip)))) (.ops [o1 21 6 [6],o2 22 (bI .add) [21,.k (.int .i64 1)] [21],o1 6 22 [22]]))) (.keep [1,2,5,6] [2,5])))))) (.seq (.seq (.ops [o2 32 (fa 1) [5] [],o2 33 (ld 1) [32] [32],o2 34 ln [33] [33],o2 35 (bI .gtr) [34,.k (.int .i64 8)] [34]]) (.cond (.s 35) (.seq (.ops [o1 4 (.k (.int .i64 5)) []]) (.gh (.keep [4] []) (.ret))) (.skip))) (.seq (.seq (.ops [o1 7 (.k (.int .i64 0)) []]) (.block 2 (.gh (.keep [5,7] [5]) (.loop (.hg (.seq (.seq (.ops [o1 36 7 [],o2 37 (fa 1) [5] [],o2 38 (ld 1) [37] [37],o2 39 ln [38] [38],o2 40 (bI .lss) [36,39] [36,39]]) (.cond (.s 40) (.skip) (.gh (.keep [5] [5]) (.exit 2)))) (.seq (.block 3 (.seq (.seq (.ops [o2 43 (fa 1) [5] [],o2 44 (ld 1) [43] [43],o1 45 7 [],o2 46 (ix 2) [44,45] [44,45],o2 47 (fa 0) [46] [46],o2 48 (ld 1) [47] [47],o2 49 .c [.f 67,48] [48],o2 50 (.p (.not)) [49] [49]]) (.cond (.s 50) (.seq (.ops [o1 4 (.k (.int .i64 13)) []]) (.gh (.keep [4] []) (.ret))) (.skip))) (.seq (.seq (.ops [o1 8 (.k (.int .i64 0)) []]) (.block 4 (.gh (.keep [5,7,8] [5]) (.loop (.hg (.seq (.seq (.ops [o1 51 8 [],o1 52 7 [],o2 53 (bI .lss) [51,52] [51,52]]) (.cond (.s 53) (.skip) (.gh (.keep [5,7] [5]) (.exit 4)))) (.seq (.block 5 (.seq (.gb [o2 56 (fa 1) [5] [],o2 57 (ld 1) [56] [56],o1 58 8 [],o2 59 (ix 2) [57,58] [57,58],o2 60 (fa 0) [59] [59],o2 61 (ld 1) [60] [60],o2 62 (fa 1) [5] [],o2 63 (ld 1) [62] [62],o1 64 7 [],o2 65 (ix 2) [63,64] [63,64],o2 66 (fa 0) [65] [65],o2 67 (ld 1) [66] [66],on 68 (.p (.bin (some .str) none .eql)) [61,67] [61,67]]) (.cond (.s 68) (.seq (.ops [o1 4 (.k (.int .i64 13)) []]) (.gh (.keep [4] []) (.ret))) (.skip)))) (.ops [o1 54 8 [8],o2 55 (bI .add) [54,.k (.int .i64 1)] [54],o1 8 55 [55]]))) (.keep [5,7,8] [5])))))) (.seq (.ops [o2 69 (fa 1) [5] [],o2 70 (ld 1) [69] [69],o1 71 7 [],o2 72 (ix 2) [70,71] [70,71],o2 73 (fa 1) [72] [72],o2 74 (ld 1) [73] [73],o2 75 .c [.f 68,74] [74],o2 76 (.p (.not)) [75] [75]]) (.cond (.s 76) (.seq (.ops [o1 4 (.k (.int .i64 2)) []]) (.gh (.keep [4] []) (.ret))) (.skip)))))) (.ops [o1 41 7 [7],o2 42 (bI .add) [41,.k (.int .i64 1)] [41],o1 7 42 [42]]))) (.keep [5,7] [5])))))) (.seq (.seq (.ops [o2 77 (fa 2) [5] [5],o2 78 (ld 1) [77] [77],o2 79 ln [78] [78],o2 80 (bI .gtr) [79,.k (.int .i64 64)] [79]]) (.cond (.s 80) (.seq (.ops [o1 4 (.k (.int .i64 5)) []]) (.gh (.keep [4] []) (.ret))) (.skip))) (.seq (.ops [o1 4 (.k (.int .i64 0)) []]) (.gh (.keep [4] []) (.ret)))))))))⟩
def cx.t:RF:=⟨147,[.s 6],.seq (.ops [o2 3 (.a .box) [0] [0],o1 6 (.k (.int .i64 0)) [6]]) (.seq (.ops [o2 11 (fa 0) [3] [],o2 12 (ld 1) [11] [11],o1 13 1 [],o2 14 (ix 3) [12,13] [12,13],o2 15 (fa 2) [14] [14],o2 16 (ld 1) [15] [15],o1 17 2 [],o2 18 (ix 5) [16,17] [16,17],o2 19 (lD 5) [18] [18],o2 7 (.a (.alloc 5 [.int .i64 0,.int .i64 0,.int .i64 0,.int .i64 0,.ay])) [] [],oz (su 5) [7,19] [19]]) (.seq (.seq (.ops [o2 20 (fa 0) [7] [],o2 21 (ld 1) [20] [20],o2 22 (bI .eql) [21,.k (.int .i64 1)] [21]]) (.cond (.s 22) (.seq (.ops [o2 23 (fa 1) [7] [],o2 24 (ld 1) [23] [23],o2 25 (bI .neq) [24,.k (.int .i64 0)] [24],o1 26 25 [25],o3 27 26 false (fa 2) [7] [],o3 28 26 false (ld 1) [27] [27],o3 29 26 false (bI .neq) [28,.k (.int .i64 0)] [28],o2 30 (.p (.pick)) [26,.k (.bool true),29] [26,29]]) (.cond (.s 30) (.seq (.ops [o1 6 (.k (.int .i64 3)) []]) (.gh (.keep [6] []) (.ret))) (.skip))) (.seq (.ops [o2 31 (fa 0) [7] [],o2 32 (ld 1) [31] [31],o2 33 (bI .neq) [32,.k (.int .i64 2)] [32],o1 34 33 [33],o3 35 34 true (fa 0) [7] [],o3 36 34 true (ld 1) [35] [35],o3 37 34 true (bI .neq) [36,.k (.int .i64 3)] [36],o2 38 (.p (.pick)) [34,37,.k (.bool false)] [34,37],o1 39 38 [38],o3 40 39 false (fa 1) [7] [],o3 41 39 false (ld 1) [40] [40],o3 42 39 false (bI .lss) [41,.k (.int .i64 0)] [41],o2 43 (.p (.pick)) [39,.k (.bool true),42] [39,42],o1 44 43 [43],o3 45 44 false (fa 1) [7] [],o3 46 44 false (ld 1) [45] [45],o3 47 44 false (fa 0) [3] [],o3 48 44 false (ld 1) [47] [47],o3 49 44 false ln [48] [48],o3 50 44 false (bI .geq) [46,49] [46,49],o2 51 (.p (.pick)) [44,.k (.bool true),50] [44,50],o1 52 51 [51],o3 53 52 false (fa 1) [7] [],o3 54 52 false (ld 1) [53] [53],o3 55 52 false (.p (.id)) [1] [],o3 56 52 false (bI .eql) [54,55] [54,55],o2 57 (.p (.pick)) [52,.k (.bool true),56] [52,56],o1 58 57 [57],o3 59 58 false (fa 2) [7] [],o3 60 58 false (ld 1) [59] [59],o3 61 58 false (bI .lss) [60,.k (.int .i64 0)] [60],o2 62 (.p (.pick)) [58,.k (.bool true),61] [58,61],o1 63 62 [62],o3 64 63 false (fa 2) [7] [],o3 65 63 false (ld 1) [64] [64],o3 66 63 false (bI .gtr) [65,.k (.int .i64 199)] [65],o2 67 (.p (.pick)) [63,.k (.bool true),66] [63,66]]) (.cond (.s 67) (.seq (.ops [o1 6 (.k (.int .i64 3)) []]) (.gh (.keep [6] []) (.ret))) (.skip))))) (.gh (.keep [1,2,3,7] [3,7]) (.seq (.seq (.gb [on 68 (fa 3) [7] [],on 69 (ld 1) [68] [68],on 70 (bI .lss) [69,.k (.int .i64 0)] [69],on 71 (.p (.id)) [70] [70],⟨some 72,some (71,false),true,fa 3,[7],[],[]⟩,⟨some 73,some (71,false),true,ld 1,[72],[72],[]⟩,⟨some 74,some (71,false),true,bI .gtr,[73,.k (.int .i64 1099511627776)],[73],[]⟩,on 75 (.p (.pick)) [71,.k (.bool true),74] [71,74],on 76 (.p (.id)) [75] [75],⟨some 77,some (76,false),true,.p (.id),[2],[],[]⟩,⟨some 78,some (76,false),true,bI .gtr,[77,.k (.int .i64 0)],[77],[]⟩,⟨some 79,some (76,false),true,.p (.id),[78],[78],[]⟩,o3 80 79 true (fa 3) [7] [],o3 81 79 true (ld 1) [80] [80],o3 82 79 true (fa 0) [3] [],o3 83 79 true (ld 1) [82] [82],o3 84 79 true (.p (.id)) [1] [],o3 85 79 true (ix 3) [83,84] [83,84],o3 86 79 true (fa 2) [85] [85],o3 87 79 true (ld 1) [86] [86],o3 88 79 true (.p (.id)) [2] [2],o3 89 79 true (bI .sub) [88,.k (.int .i64 1)] [88],o3 90 79 true (ix 5) [87,89] [87,89],o3 91 79 true (fa 3) [90] [90],o3 92 79 true (ld 1) [91] [91],⟨some 93,some (79,true),true,bI .lss,[81,92],[81,92],[]⟩,⟨some 94,some (76,false),true,.p (.pick),[79,93,.k (.bool false)],[79,93],[]⟩,on 95 (.p (.pick)) [76,.k (.bool true),94] [76,94]]) (.cond (.s 95) (.seq (.ops [o1 6 (.k (.int .i64 11)) []]) (.gh (.keep [6] []) (.ret))) (.skip))) (.seq (.seq (.ops [o2 96 (fa 4) [7] [],o2 97 (ld 1) [96] [96],o2 98 ln [97] [97],o2 99 (bI .gtr) [98,.k (.int .i64 8)] [98]]) (.cond (.s 99) (.seq (.ops [o1 6 (.k (.int .i64 5)) []]) (.gh (.keep [6] []) (.ret))) (.skip))) (.seq (.seq (.ops [o1 8 (.k (.int .i64 0)) []]) (.block 0 (.gh (.keep [1,3,7,8] [3,7]) (.loop (.hg (.seq (.seq (.ops [o1 100 8 [],o2 101 (fa 4) [7] [],o2 102 (ld 1) [101] [101],o2 103 ln [102] [102],o2 104 (bI .lss) [100,103] [100,103]]) (.cond (.s 104) (.skip) (.gh (.keep [] []) (.exit 0)))) (.seq (.block 1 (.seq (.ops [o2 107 (fa 4) [7] [],o2 108 (ld 1) [107] [107],o1 109 8 [],o2 110 (ix 2) [108,109] [108,109],o2 111 (lD 2) [110] [110],o2 9 (.a (.alloc 2 [.int .i64 0,.int .i64 0])) [] [],oz (su 2) [9,111] [111]]) (.seq (.seq (.gb [on 112 (fa 0) [9] [],on 113 (ld 1) [112] [112],on 114 (bI .lss) [113,.k (.int .i64 0)] [113],on 115 (.p (.id)) [114] [114],o3 116 115 false (fa 0) [9] [],o3 117 115 false (ld 1) [116] [116],o3 118 115 false (fa 0) [3] [],o3 119 115 false (ld 1) [118] [118],o3 120 115 false (.p (.id)) [1] [],o3 121 115 false (ix 3) [119,120] [119,120],o3 122 115 false (fa 1) [121] [121],o3 123 115 false (ld 1) [122] [122],o3 124 115 false ln [123] [123],⟨some 125,some (115,false),true,bI .geq,[117,124],[117,124],[]⟩,on 126 (.p (.pick)) [115,.k (.bool true),125] [115,125],on 127 (.p (.id)) [126] [126],⟨some 128,some (127,false),true,fa 1,[9],[],[]⟩,⟨some 129,some (127,false),true,ld 1,[128],[128],[]⟩,⟨some 130,some (127,false),true,.c,[.f 68,129],[129],[]⟩,⟨some 131,some (127,false),true,.p (.not),[130],[130],[]⟩,on 132 (.p (.pick)) [127,.k (.bool true),131] [127,131]]) (.cond (.s 132) (.seq (.ops [o1 6 (.k (.int .i64 2)) []]) (.gh (.keep [6] []) (.ret))) (.skip))) (.seq (.ops [o1 10 (.k (.int .i64 0)) []]) (.block 2 (.gh (.keep [1,3,7,8,9,10] [3,7,9]) (.loop (.hg (.seq (.seq (.ops [o1 133 10 [],o1 134 8 [],o2 135 (bI .lss) [133,134] [133,134]]) (.cond (.s 135) (.skip) (.gh (.keep [1,3,7,8] [3,7]) (.exit 2)))) (.seq (.block 3 (.seq (.gb [o2 138 (fa 4) [7] [],o2 139 (ld 1) [138] [138],o1 140 10 [],o2 141 (ix 2) [139,140] [139,140],o2 142 (fa 0) [141] [141],o2 143 (ld 1) [142] [142],o2 144 (fa 0) [9] [],o2 145 (ld 1) [144] [144],on 146 (bI .eql) [143,145] [143,145]]) (.cond (.s 146) (.seq (.ops [o1 6 (.k (.int .i64 8)) []]) (.gh (.keep [6] []) (.ret))) (.skip)))) (.ops [o1 136 10 [10],o2 137 (bI .add) [136,.k (.int .i64 1)] [136],o1 10 137 [137]]))) (.keep [1,3,7,8,9,10] [3,7,9]))))))))) (.ops [o1 105 8 [8],o2 106 (bI .add) [105,.k (.int .i64 1)] [105],o1 8 106 [106]]))) (.keep [1,3,7,8] [3,7])))))) (.seq (.ops [o1 6 (.k (.int .i64 0)) []]) (.gh (.keep [6] []) (.ret)))))))))⟩
def iz.t:RF:=⟨17,[.ld 4 5 true],.seq (.ops [o2 2 (.a .box) [0] [0],o2 3 (.a .box) [1] [1],o2 4 (.a (.alloc 5 [.int .i64 0,.int .i64 0,.int .i64 0,.int .i64 0,.ay])) [] []]) (.seq (.gb [o2 5 (fa 0) [2] [2],o2 6 (ld 1) [5] [5],o2 7 (fa 0) [3] [],o2 8 (ld 1) [7] [7],o2 9 (ix 3) [6,8] [6,8],o2 10 (fa 2) [9] [9],o2 11 (ld 1) [10] [10],o2 12 (fa 1) [3] [3],o2 13 (ld 1) [12] [12],o2 14 (bI .sub) [13,.k (.int .i64 1)] [13],on 15 (ix 5) [11,14] [11,14],on 16 (lD 5) [15] [15],oy (su 5) [4,16] [16]]) (.ret))⟩
def bP.t:RF:=⟨52,[.ld 6 2 true],.seq (.ops [o2 3 (.a .box) [0] [0],o2 6 (.a (.alloc 2 [.int .i64 0,.int .i64 0])) [] []]) (.seq (.seq (.ops [o1 7 (.k (.int .i64 0)) []]) (.block 0 (.gh (.keep [1,2,3,6,7] [3,6]) (.loop (.hg (.seq (.seq (.ops [o1 10 7 [],o2 11 (fa 0) [3] [],o2 12 (ld 1) [11] [11],o2 13 ln [12] [12],o2 14 (bI .lss) [10,13] [10,13]]) (.cond (.s 14) (.skip) (.gh (.keep [6] [6]) (.exit 0)))) (.seq (.block 1 (.seq (.ops [o1 8 (.k (.int .i64 0)) []]) (.block 2 (.gh (.keep [1,2,3,6,7,8] [3,6]) (.loop (.hg (.seq (.seq (.ops [o1 17 8 [],o2 18 (fa 0) [3] [],o2 19 (ld 1) [18] [18],o1 20 7 [],o2 21 (ix 3) [19,20] [19,20],o2 22 (fa 2) [21] [21],o2 23 (ld 1) [22] [22],o2 24 ln [23] [23],o2 25 (bI .lss) [17,24] [17,24]]) (.cond (.s 25) (.skip) (.gh (.keep [1,2,3,6,7] [3,6]) (.exit 2)))) (.seq (.block 3 (.seq (.ops [o2 28 (fa 0) [3] [],o2 29 (ld 1) [28] [28],o1 30 7 [],o2 31 (ix 3) [29,30] [29,30],o2 32 (fa 2) [31] [31],o2 33 (ld 1) [32] [32],o1 34 8 [],o2 35 (ix 5) [33,34] [33,34],o2 36 (lD 5) [35] [35],o2 9 (.a (.alloc 5 [.int .i64 0,.int .i64 0,.int .i64 0,.int .i64 0,.ay])) [] [],oz (su 5) [9,36] [36]]) (.seq (.ops [o2 37 (fa 0) [9] [],o2 38 (ld 1) [37] [37],o1 39 1 [],o2 40 (bI .eql) [38,39] [38,39],o1 41 40 [40],o3 42 41 true (fa 2) [9] [9],o3 43 41 true (ld 1) [42] [42],o3 44 41 true (.p (.id)) [2] [],o3 45 41 true (bI .eql) [43,44] [43,44],o2 46 (.p (.pick)) [41,45,.k (.bool false)] [41,45]]) (.cond (.s 46) (.seq (.ops [o1 47 7 [7],o1 48 8 [8],o2 49 (bI .add) [48,.k (.int .i64 1)] [48],o2 50 (.p (.build [.int .i64 0,.int .i64 0] [(0,1),(1,1)])) [47,49] [47,49],oz (su 2) [6,50] [50]]) (.gh (.keep [6] [6]) (.ret))) (.skip))))) (.ops [o1 26 8 [8],o2 27 (bI .add) [26,.k (.int .i64 1)] [26],o1 8 27 [27]]))) (.keep [1,2,3,6,7,8] [3,6]))))))) (.ops [o1 15 7 [7],o2 16 (bI .add) [15,.k (.int .i64 1)] [15],o1 7 16 [16]]))) (.keep [1,2,3,6,7] [3,6])))))) (.seq (.ops [o2 51 (.p (.build [.int .i64 0,.int .i64 0] [])) [] [],oz (su 2) [6,51] [51]]) (.gh (.keep [6] [6]) (.ret))))⟩
def dG.t:RF:=⟨70,[.s 4],.seq (.ops [o2 2 (.a .box) [0] [0],o2 3 (.a .box) [1] [1],o1 4 (.k (.int .i64 0)) [4]]) (.seq (.ops [o2 9 (lD 1) [2] [],o2 10 (lD 2) [3] [],o2 11 .c [.f 71,9,10] [9,10],o2 5 (.a (.alloc 5 [.int .i64 0,.int .i64 0,.int .i64 0,.int .i64 0,.ay])) [] [],oz (su 5) [5,11] [11]]) (.seq (.seq (.ops [o2 12 (fa 0) [5] [],o2 13 (ld 1) [12] [12],o2 14 (bI .eql) [13,.k (.int .i64 1)] [13]]) (.cond (.s 14) (.seq (.ops [o1 4 (.k (.int .i64 0)) []]) (.ret)) (.skip))) (.seq (.seq (.gb [o2 15 (lD 1) [2] [],o2 16 (fa 0) [5] [],o2 17 (ld 1) [16] [16],o2 18 (fa 2) [5] [],o2 19 (ld 1) [18] [18],o2 20 .c [.f 72,15,17,19] [15,17,19],o2 21 (lD 2) [3] [],on 22 (.p (.bin (some .other) (some 2) .neq)) [20,21] [20,21]]) (.cond (.s 22) (.seq (.ops [o1 4 (.k (.int .i64 8)) []]) (.ret)) (.skip))) (.seq (.seq (.ops [o2 23 (fa 0) [5] [],o2 24 (ld 1) [23] [23],o2 25 (bI .eql) [24,.k (.int .i64 3)] [24]]) (.cond (.s 25) (.seq (.ops [o1 6 (.k (.bool false)) []]) (.seq (.seq (.ops [o1 7 (.k (.int .i64 0)) []]) (.block 0 (.gh (.keep [2,3,5,6,7] [2,3,5]) (.loop (.hg (.seq (.seq (.ops [o1 26 7 [],o2 27 (fa 0) [2] [],o2 28 (ld 1) [27] [27],o2 29 (fa 1) [5] [],o2 30 (ld 1) [29] [29],o2 31 (ix 3) [28,30] [28,30],o2 32 (fa 2) [31] [31],o2 33 (ld 1) [32] [32],o2 34 ln [33] [33],o2 35 (bI .lss) [26,34] [26,34]]) (.cond (.s 35) (.skip) (.gh (.keep [6] []) (.exit 0)))) (.seq (.block 1 (.seq (.ops [o2 38 (fa 0) [2] [],o2 39 (ld 1) [38] [38],o2 40 (fa 1) [5] [],o2 41 (ld 1) [40] [40],o2 42 (ix 3) [39,41] [39,41],o2 43 (fa 2) [42] [42],o2 44 (ld 1) [43] [43],o1 45 7 [],o2 46 (ix 5) [44,45] [44,45],o2 47 (lD 5) [46] [46],o2 8 (.a (.alloc 5 [.int .i64 0,.int .i64 0,.int .i64 0,.int .i64 0,.ay])) [] [],oz (su 5) [8,47] [47]]) (.ops [o1 48 6 [6],o1 49 48 [48],o3 50 49 false (fa 0) [8] [],o3 51 49 false (ld 1) [50] [50],o3 52 49 false (bI .eql) [51,.k (.int .i64 2)] [51],o3 53 49 false (.p (.id)) [52] [52],o3 54 53 true (fa 2) [8] [],o3 55 53 true (ld 1) [54] [54],o3 56 53 true (fa 2) [5] [],o3 57 53 true (ld 1) [56] [56],o3 58 53 true (bI .eql) [55,57] [55,57],o3 59 49 false (.p (.pick)) [53,58,.k (.bool false)] [53,58],o3 60 49 false (.p (.id)) [59] [59],o3 61 60 true (fa 1) [8] [8],o3 62 60 true (ld 1) [61] [61],o3 63 60 true (fa 0) [3] [],o3 64 60 true (ld 1) [63] [63],o3 65 60 true (bI .eql) [62,64] [62,64],o3 66 49 false (.p (.pick)) [60,65,.k (.bool false)] [60,65],o2 67 (.p (.pick)) [49,.k (.bool true),66] [49,66],o1 6 67 [67]]))) (.ops [o1 36 7 [7],o2 37 (bI .add) [36,.k (.int .i64 1)] [36],o1 7 37 [37]]))) (.keep [2,3,5,6,7] [2,3,5])))))) (.seq (.ops [o1 68 6 [6],o2 69 (.p (.not)) [68] [68]]) (.cond (.s 69) (.seq (.ops [o1 4 (.k (.int .i64 7)) []]) (.ret)) (.skip))))) (.skip))) (.seq (.ops [o1 4 (.k (.int .i64 0)) []]) (.ret))))))⟩
def bC.t:RF:=⟨86,[.s 2],.seq (.ops [o2 1 (.a .box) [0] [0],o1 2 (.k (.bool false)) [2]]) (.seq (.ops [o2 9 (fa 0) [1] [],o2 10 (ld 1) [9] [9],o2 11 ln [10] [10],o2 12 (.a (.makeSl 1 [.int .i64 0])) [11,11] [11],o1 3 12 [12]]) (.seq (.block 0 (.gh (.canon (.s 3) 2003 1) (.gh (.keep [1,3] [1,2003]) (.loop (.hg (.hg (.block 1 (.seq (.ops [o1 4 (.k (.bool false)) []]) (.seq (.seq (.ops [o1 5 (.k (.int .i64 0)) []]) (.block 2 (.gh (.canon (.s 3) 2003 1) (.gh (.keep [1,3,4,5] [1,2003]) (.loop (.hg (.hg (.seq (.seq (.ops [o1 13 5 [],o2 14 (fa 0) [1] [],o2 15 (ld 1) [14] [14],o2 16 ln [15] [15],o2 17 (bI .lss) [13,16] [13,16]]) (.cond (.s 17) (.skip) (.gh (.canon (.s 3) 2003 1) (.gh (.keep [1,3,4] [1,2003]) (.exit 2))))) (.seq (.block 3 (.block 4 (.gh (.canon (.s 3) 2003 1) (.gh (.keep [1,3,4,5] [1,2003]) (.loop (.hg (.hg (.seq (.seq (.gb [o1 20 3 [],o1 21 5 [],o2 22 (ix 1) [20,21] [20,21],o2 23 (ld 1) [22] [22],o2 24 (fa 0) [1] [],o2 25 (ld 1) [24] [24],o1 26 5 [],o2 27 (ix 3) [25,26] [25,26],o2 28 (fa 2) [27] [27],o2 29 (ld 1) [28] [28],o2 30 ln [29] [29],on 31 (bI .lss) [23,30] [23,30]]) (.cond (.s 31) (.skip) (.gh (.canon (.s 3) 2003 1) (.gh (.keep [1,3,4,5] [1,2003]) (.exit 4))))) (.block 5 (.seq (.gb [o2 32 (fa 0) [1] [],o2 33 (ld 1) [32] [32],o1 34 5 [],o2 35 (ix 3) [33,34] [33,34],o2 36 (fa 2) [35] [35],o2 37 (ld 1) [36] [36],o1 38 3 [],o1 39 5 [],o2 40 (ix 1) [38,39] [38,39],o2 41 (ld 1) [40] [40],o2 42 (ix 5) [37,41] [37,41],o2 43 (lD 5) [42] [42],o2 6 (.a (.alloc 5 [.int .i64 0,.int .i64 0,.int .i64 0,.int .i64 0,.ay])) [] [],oy (su 5) [6,43] [43]]) (.seq (.seq (.ops [o2 44 (fa 0) [6] [],o2 45 (ld 1) [44] [44],o2 46 (bI .eql) [45,.k (.int .i64 3)] [45]]) (.cond (.s 46) (.seq (.ops [o2 47 (lD 1) [1] [],o2 48 (fa 2) [6] [6],o2 49 (ld 1) [48] [48],o2 50 .c [.f 72,47,.k (.int .i64 2),49] [47,49],o2 7 (.a (.alloc 2 [.int .i64 0,.int .i64 0])) [] [],oz (su 2) [7,50] [50]]) (.seq (.gb [o1 51 3 [],o2 52 (fa 0) [7] [],o2 53 (ld 1) [52] [52],o2 54 (ix 1) [51,53] [51,53],o2 55 (ld 1) [54] [54],o2 56 (fa 1) [7] [7],o2 57 (ld 1) [56] [56],on 58 (bI .lss) [55,57] [55,57]]) (.cond (.s 58) (.gh (.canon (.s 3) 2003 1) (.gh (.keep [1,3,4,5] [1,2003]) (.exit 4))) (.skip)))) (.skip))) (.gh (.canon (.s 3) 2003 1) (.gh (.keep [1,3,5] [1,2003]) (.seq (.ops [o1 59 3 [],o1 60 5 [],o2 61 (ix 1) [59,60] [],o2 62 (ld 1) [61] [61],o2 63 (bI .add) [62,.k (.int .i64 1)] [62],o2 64 (ix 1) [59,60] [59,60],oz (su 1) [64,63] [63,64]]) (.ops [o1 4 (.k (.bool true)) []])))))))) (.canon (.s 3) 2003 1)) (.keep [1,3,4,5] [1,2003]))))))) (.ops [o1 18 5 [5],o2 19 (bI .add) [18,.k (.int .i64 1)] [18],o1 5 19 [19]]))) (.canon (.s 3) 2003 1)) (.keep [1,3,4,5] [1,2003]))))))) (.seq (.ops [o1 65 4 [4],o2 66 (.p (.not)) [65] [65]]) (.cond (.s 66) (.gh (.canon (.s 3) 2003 1) (.gh (.keep [1,3] [1,2003]) (.exit 0))) (.skip)))))) (.canon (.s 3) 2003 1)) (.keep [1,3] [1,2003])))))) (.seq (.seq (.ops [o1 8 (.k (.int .i64 0)) []]) (.block 6 (.gh (.canon (.s 3) 2003 1) (.gh (.keep [1,3,8] [1,2003]) (.loop (.hg (.hg (.seq (.seq (.ops [o1 67 8 [],o2 68 (fa 0) [1] [],o2 69 (ld 1) [68] [68],o2 70 ln [69] [69],o2 71 (bI .lss) [67,70] [67,70]]) (.cond (.s 71) (.skip) (.gh (.keep [] []) (.exit 6)))) (.seq (.block 7 (.seq (.gb [o1 74 3 [],o1 75 8 [],o2 76 (ix 1) [74,75] [74,75],o2 77 (ld 1) [76] [76],o2 78 (fa 0) [1] [],o2 79 (ld 1) [78] [78],o1 80 8 [],o2 81 (ix 3) [79,80] [79,80],o2 82 (fa 2) [81] [81],o2 83 (ld 1) [82] [82],o2 84 ln [83] [83],on 85 (bI .lss) [77,84] [77,84]]) (.cond (.s 85) (.seq (.ops [o1 2 (.k (.bool false)) []]) (.gh (.keep [2] []) (.ret))) (.skip)))) (.ops [o1 72 8 [8],o2 73 (bI .add) [72,.k (.int .i64 1)] [72],o1 8 73 [73]]))) (.canon (.s 3) 2003 1)) (.keep [1,3,8] [1,2003]))))))) (.seq (.ops [o1 2 (.k (.bool true)) []]) (.gh (.keep [2] []) (.ret))))))⟩
def bO.t:RF:=⟨33,[.s 4],.seq (.ops [o2 2 (.a .box) [0] [0],o2 3 (.a .box) [1] [1],o1 4 (.k (.ay)) [4]]) (.seq (.ops [o1 5 (.k (.ay)) []]) (.seq (.seq (.ops [o2 7 (fa 1) [3] [],o2 8 (ld 1) [7] [7],o2 9 (bI .gtr) [8,.k (.int .i64 1)] [8]]) (.cond (.s 9) (.ops [o1 10 5 [5],o2 11 (fa 0) [3] [],o2 12 (ld 1) [11] [11],o2 13 (fa 1) [3] [],o2 14 (ld 1) [13] [13],o2 15 (bI .sub) [14,.k (.int .i64 1)] [14],o2 16 (.p (.build [.int .i64 0,.int .i64 0] [(0,1),(1,1)])) [12,15] [12,15],o2 17 (.a (.buildSl 2 1 [.int .i64 0,.int .i64 0] [0])) [16] [16],o2 18 (.l (.append 2)) [10,17] [10,17],o1 5 18 [18]]) (.skip))) (.gh (.canon (.s 5) 2005 2) (.gh (.keep [2,3,5] [2,3,2005]) (.seq (.ops [o2 19 (lD 1) [2] [],o2 20 (lD 2) [3] [3],o2 21 .c [.f 71,19,20] [19,20],o2 6 (.a (.alloc 5 [.int .i64 0,.int .i64 0,.int .i64 0,.int .i64 0,.ay])) [] [],oz (su 5) [6,21] [21]]) (.seq (.seq (.ops [o2 22 (fa 0) [6] [],o2 23 (ld 1) [22] [22],o2 24 (bI .eql) [23,.k (.int .i64 3)] [23]]) (.cond (.s 24) (.ops [o1 25 5 [5],o2 26 (lD 1) [2] [2],o2 27 (fa 2) [6] [6],o2 28 (ld 1) [27] [27],o2 29 .c [.f 72,26,.k (.int .i64 2),28] [26,28],o2 30 (.a (.buildSl 2 1 [.int .i64 0,.int .i64 0] [0])) [29] [29],o2 31 (.l (.append 2)) [25,30] [25,30],o1 5 31 [31]]) (.skip))) (.seq (.ops [o1 32 5 [5],o1 4 32 [32]]) (.ret))))))))⟩
def bz.t:RF:=⟨137,[.ld 2 2 true,.s 3],.seq (.ops [o2 1 (.a .box) [0] [0],o2 2 (.a (.alloc 2 [.int .i64 0,.int .i64 0])) [] [],o1 3 (.k (.int .i64 0)) [3]]) (.seq (.seq (.ops [o2 16 (fa 0) [1] [],o2 17 (ld 1) [16] [16],o2 18 ln [17] [17],o2 19 (bI .lss) [18,.k (.int .i64 1)] [18],o1 20 19 [19],o3 21 20 false (fa 0) [1] [],o3 22 20 false (ld 1) [21] [21],o3 23 20 false ln [22] [22],o3 24 20 false (bI .gtr) [23,.k (.int .i64 8)] [23],o2 25 (.p (.pick)) [20,.k (.bool true),24] [20,24]]) (.cond (.s 25) (.seq (.ops [o2 26 (.p (.build [.int .i64 0,.int .i64 0] [])) [] [],oz (su 2) [2,26] [26],o1 3 (.k (.int .i64 1)) []]) (.gh (.keep [2,3] [2]) (.ret))) (.skip))) (.seq (.seq (.ops [o1 4 (.k (.int .i64 0)) []]) (.block 0 (.gh (.keep [1,2,4] [1,2]) (.loop (.hg (.seq (.seq (.ops [o1 27 4 [],o2 28 (fa 0) [1] [],o2 29 (ld 1) [28] [28],o2 30 ln [29] [29],o2 31 (bI .lss) [27,30] [27,30]]) (.cond (.s 31) (.skip) (.gh (.keep [1,2] [1,2]) (.exit 0)))) (.seq (.block 1 (.seq (.ops [o2 34 (lD 1) [1] [],o1 35 4 [],o2 36 .c [.f 69,34,35] [34,35],o1 5 36 [36]]) (.seq (.ops [o1 37 5 [],o2 38 (bI .neq) [37,.k (.int .i64 0)] [37]]) (.cond (.s 38) (.seq (.ops [o1 39 4 [4],o2 40 (.p (.build [.int .i64 0,.int .i64 0] [(0,1)])) [39] [39],o1 41 5 [5],oz (su 2) [2,40] [40],o1 3 41 [41]]) (.gh (.keep [2,3] [2]) (.ret))) (.skip))))) (.ops [o1 32 4 [4],o2 33 (bI .add) [32,.k (.int .i64 1)] [32],o1 4 33 [33]]))) (.keep [1,2,4] [1,2])))))) (.seq (.seq (.ops [o1 6 (.k (.int .i64 0)) []]) (.block 2 (.gh (.keep [1,2,6] [1,2]) (.loop (.hg (.seq (.seq (.ops [o1 42 6 [],o2 43 (fa 0) [1] [],o2 44 (ld 1) [43] [43],o2 45 ln [44] [44],o2 46 (bI .lss) [42,45] [42,45]]) (.cond (.s 46) (.skip) (.gh (.keep [1,2] [1,2]) (.exit 2)))) (.seq (.block 3 (.seq (.ops [o1 7 (.k (.int .i64 0)) []]) (.block 4 (.gh (.keep [1,2,6,7] [1,2]) (.loop (.hg (.seq (.seq (.ops [o1 49 7 [],o2 50 (fa 0) [1] [],o2 51 (ld 1) [50] [50],o1 52 6 [],o2 53 (ix 3) [51,52] [51,52],o2 54 (fa 2) [53] [53],o2 55 (ld 1) [54] [54],o2 56 ln [55] [55],o2 57 (bI .lss) [49,56] [49,56]]) (.cond (.s 57) (.skip) (.gh (.keep [1,2,6] [1,2]) (.exit 4)))) (.seq (.block 5 (.seq (.ops [o2 60 (lD 1) [1] [],o1 61 6 [],o1 62 7 [],o2 63 .c [.f 70,60,61,62] [60,61,62],o1 8 63 [63]]) (.seq (.ops [o1 64 8 [],o2 65 (bI .neq) [64,.k (.int .i64 0)] [64]]) (.cond (.s 65) (.seq (.ops [o1 66 6 [6],o1 67 7 [7],o2 68 (bI .add) [67,.k (.int .i64 1)] [67],o2 69 (.p (.build [.int .i64 0,.int .i64 0] [(0,1),(1,1)])) [66,68] [66,68],o1 70 8 [8],oz (su 2) [2,69] [69],o1 3 70 [70]]) (.gh (.keep [2,3] [2]) (.ret))) (.skip))))) (.ops [o1 58 7 [7],o2 59 (bI .add) [58,.k (.int .i64 1)] [58],o1 7 59 [59]]))) (.keep [1,2,6,7] [1,2]))))))) (.ops [o1 47 6 [6],o2 48 (bI .add) [47,.k (.int .i64 1)] [47],o1 6 48 [48]]))) (.keep [1,2,6] [1,2])))))) (.seq (.seq (.ops [o1 9 (.k (.int .i64 0)) []]) (.block 6 (.gh (.keep [1,2,9] [1,2]) (.loop (.hg (.seq (.seq (.ops [o1 71 9 [],o2 72 (fa 0) [1] [],o2 73 (ld 1) [72] [72],o2 74 ln [73] [73],o2 75 (bI .lss) [71,74] [71,74]]) (.cond (.s 75) (.skip) (.gh (.keep [1,2] [1,2]) (.exit 6)))) (.seq (.block 7 (.seq (.ops [o1 10 (.k (.int .i64 0)) []]) (.block 8 (.gh (.keep [1,2,9,10] [1,2]) (.loop (.hg (.seq (.seq (.ops [o1 78 10 [],o2 79 (fa 0) [1] [],o2 80 (ld 1) [79] [79],o1 81 9 [],o2 82 (ix 3) [80,81] [80,81],o2 83 (fa 2) [82] [82],o2 84 (ld 1) [83] [83],o2 85 ln [84] [84],o2 86 (bI .lss) [78,85] [78,85]]) (.cond (.s 86) (.skip) (.gh (.keep [1,2,9] [1,2]) (.exit 8)))) (.seq (.block 9 (.seq (.ops [o1 89 9 [],o1 90 10 [],o2 91 (bI .add) [90,.k (.int .i64 1)] [90],o2 92 (.p (.build [.int .i64 0,.int .i64 0] [(0,1),(1,1)])) [89,91] [89,91],o2 11 (.a (.alloc 2 [.int .i64 0,.int .i64 0])) [] [],oz (su 2) [11,92] [92]]) (.seq (.ops [o2 93 (lD 1) [1] [],o2 94 (lD 2) [11] [],o2 95 .c [.f 73,93,94] [93,94],o1 12 95 [95]]) (.seq (.ops [o1 96 12 [],o2 97 (bI .neq) [96,.k (.int .i64 0)] [96]]) (.cond (.s 97) (.seq (.ops [o2 98 (lD 2) [11] [11],o1 99 12 [12],oz (su 2) [2,98] [98],o1 3 99 [99]]) (.gh (.keep [2,3] [2]) (.ret))) (.skip)))))) (.ops [o1 87 10 [10],o2 88 (bI .add) [87,.k (.int .i64 1)] [87],o1 10 88 [88]]))) (.keep [1,2,9,10] [1,2]))))))) (.ops [o1 76 9 [9],o2 77 (bI .add) [76,.k (.int .i64 1)] [76],o1 9 77 [77]]))) (.keep [1,2,9] [1,2])))))) (.seq (.seq (.ops [o2 100 (lD 1) [1] [],o2 101 .c [.f 74,100] [100]]) (.cond (.s 101) (.seq (.ops [o2 102 (.p (.build [.int .i64 0,.int .i64 0] [])) [] [],oz (su 2) [2,102] [102],o1 3 (.k (.int .i64 0)) []]) (.gh (.keep [2,3] [2]) (.ret))) (.skip))) (.seq (.seq (.ops [o1 13 (.k (.int .i64 0)) []]) (.block 10 (.gh (.keep [1,2,13] [1,2]) (.loop (.hg (.seq (.seq (.ops [o1 103 13 [],o2 104 (fa 0) [1] [],o2 105 (ld 1) [104] [104],o2 106 ln [105] [105],o2 107 (bI .lss) [103,106] [103,106]]) (.cond (.s 107) (.skip) (.gh (.keep [2] [2]) (.exit 10)))) (.seq (.block 11 (.seq (.ops [o1 14 (.k (.int .i64 0)) []]) (.block 12 (.gh (.keep [1,2,13,14] [1,2]) (.loop (.hg (.seq (.seq (.ops [o1 110 14 [],o2 111 (fa 0) [1] [],o2 112 (ld 1) [111] [111],o1 113 13 [],o2 114 (ix 3) [112,113] [112,113],o2 115 (fa 2) [114] [114],o2 116 (ld 1) [115] [115],o2 117 ln [116] [116],o2 118 (bI .lss) [110,117] [110,117]]) (.cond (.s 118) (.skip) (.gh (.keep [1,2,13] [1,2]) (.exit 12)))) (.seq (.block 13 (.seq (.ops [o1 121 13 [],o1 122 14 [],o2 123 (bI .add) [122,.k (.int .i64 1)] [122],o2 124 (.p (.build [.int .i64 0,.int .i64 0] [(0,1),(1,1)])) [121,123] [121,123],o2 15 (.a (.alloc 2 [.int .i64 0,.int .i64 0])) [] [],oz (su 2) [15,124] [124]]) (.seq (.ops [o2 125 (lD 1) [1] [],o2 126 (lD 2) [15] [],o2 127 .c [.f 172,125,126] [125,126],o1 128 13 [],o2 129 (ix 1) [127,128] [127,128],o2 130 (ld 1) [129] [129],o1 131 14 [],o2 132 (bI .add) [131,.k (.int .i64 1)] [131],o2 133 (ix 1) [130,132] [130,132],o2 134 (ld 1) [133] [133]]) (.cond (.s 134) (.seq (.ops [o2 135 (lD 2) [15] [15],oz (su 2) [2,135] [135],o1 3 (.k (.int .i64 10)) []]) (.gh (.keep [2,3] [2]) (.ret))) (.skip))))) (.ops [o1 119 14 [14],o2 120 (bI .add) [119,.k (.int .i64 1)] [119],o1 14 120 [120]]))) (.keep [1,2,13,14] [1,2]))))))) (.ops [o1 108 13 [13],o2 109 (bI .add) [108,.k (.int .i64 1)] [108],o1 13 109 [109]]))) (.keep [1,2,13] [1,2])))))) (.seq (.ops [o2 136 (.p (.build [.int .i64 0,.int .i64 0] [])) [] [],oz (su 2) [2,136] [136],o1 3 (.k (.int .i64 0)) []]) (.gh (.keep [2,3] [2]) (.ret)))))))))⟩
def fm.t:RF:=⟨12,[.s 2],.seq (.ops [o2 1 (.a .box) [0] [0],o1 2 (.k (.bool false)) [2]]) (.seq (.ops [o2 6 (lD 1) [1] [1],o2 7 .c [.f 173,6] [6],o1 5 7 [7],o2 8 (.p (.ext 0)) [5] [],o2 9 (.p (.ext 1)) [5] [5],o2 3 (.a (.alloc 2 [.int .i64 0,.int .i64 0])) [] [],oz (su 2) [3,8] [3,8],o1 4 9 [9]]) (.seq (.ops [o1 10 4 [4],o2 11 (bI .eql) [10,.k (.int .i64 0)] [10],o1 2 11 [11]]) (.ret)))⟩
def hU.t:RF:=⟨32,[.s 6],.seq (.ops [o2 3 (.a .box) [0] [0],o1 6 (.k (.bool false)) [6]]) (.seq (.ops [o1 7 1 [],o2 8 (bI .geq) [7,.k (.int .i64 0)] [7],o1 9 8 [8],o3 10 9 true (.p (.id)) [1] [],o3 11 9 true (fa 0) [3] [],o3 12 9 true (ld 1) [11] [11],o3 13 9 true ln [12] [12],o3 14 9 true (bI .lss) [10,13] [10,13],o2 15 (.p (.pick)) [9,14,.k (.bool false)] [9,14],o1 16 15 [15],o3 17 16 true (.p (.id)) [2] [],o3 18 16 true (bI .geq) [17,.k (.int .i64 0)] [17],o2 19 (.p (.pick)) [16,18,.k (.bool false)] [16,18],o1 20 19 [19],o3 21 20 true (.p (.id)) [2] [],o3 22 20 true (fa 0) [3] [3],o3 23 20 true (ld 1) [22] [22],o3 24 20 true ln [23] [23],o3 25 20 true (bI .lss) [21,24] [21,24],o2 26 (.p (.pick)) [20,25,.k (.bool false)] [20,25],o1 27 26 [26],o3 28 27 true (.p (.id)) [1] [1],o3 29 27 true (.p (.id)) [2] [2],o3 30 27 true (bI .neq) [28,29] [28,29],o2 31 (.p (.pick)) [27,30,.k (.bool false)] [27,30],o1 6 31 [31]]) (.ret))⟩
def dO.t:RF:=⟨90,[.s 6],.seq (.ops [o2 3 (.a .box) [0] [0],o1 6 (.k (.bool false)) [6]]) (.seq (.ops [o2 12 (fa 0) [3] [],o2 13 (ld 1) [12] [12],o1 14 1 [1],o2 15 (ix 3) [13,14] [13,14],o2 16 (fa 2) [15] [15],o2 17 (ld 1) [16] [16],o1 7 17 [17]]) (.seq (.seq (.ops [o1 8 (.k (.int .i64 0)) []]) (.block 0 (.gh (.keep [2,3,7,8] [3]) (.loop (.hg (.seq (.seq (.ops [o1 18 8 [],o1 19 7 [],o2 20 ln [19] [19],o2 21 (bI .lss) [18,20] [18,20]]) (.cond (.s 21) (.skip) (.gh (.keep [] []) (.exit 0)))) (.seq (.block 1 (.seq (.ops [o1 9 (.k (.int .i64 0)) []]) (.block 2 (.gh (.keep [2,3,7,8,9] [3]) (.loop (.hg (.seq (.seq (.ops [o1 24 9 [],o1 25 8 [],o2 26 (bI .lss) [24,25] [24,25]]) (.cond (.s 26) (.skip) (.gh (.keep [2,3,7,8] [3]) (.exit 2)))) (.seq (.block 3 (.seq (.seq (.ops [o1 29 7 [],o1 30 8 [],o2 31 (ix 5) [29,30] [29,30],o2 32 (fa 0) [31] [31],o2 33 (ld 1) [32] [32],o2 34 (bI .neq) [33,.k (.int .i64 2)] [33],o1 35 34 [34],o3 36 35 false (.p (.id)) [7] [],o3 37 35 false (.p (.id)) [9] [],o3 38 35 false (ix 5) [36,37] [36,37],o3 39 35 false (fa 0) [38] [38],o3 40 35 false (ld 1) [39] [39],o3 41 35 false (bI .neq) [40,.k (.int .i64 2)] [40],o2 42 (.p (.pick)) [35,.k (.bool true),41] [35,41],o1 43 42 [42],o3 44 43 false (.p (.id)) [7] [],o3 45 43 false (.p (.id)) [8] [],o3 46 43 false (ix 5) [44,45] [44,45],o3 47 43 false (fa 1) [46] [46],o3 48 43 false (ld 1) [47] [47],o3 49 43 false (.p (.id)) [2] [],o3 50 43 false (bI .neq) [48,49] [48,49],o2 51 (.p (.pick)) [43,.k (.bool true),50] [43,50],o1 52 51 [51],o3 53 52 false (.p (.id)) [7] [],o3 54 52 false (.p (.id)) [9] [],o3 55 52 false (ix 5) [53,54] [53,54],o3 56 52 false (fa 1) [55] [55],o3 57 52 false (ld 1) [56] [56],o3 58 52 false (.p (.id)) [2] [],o3 59 52 false (bI .neq) [57,58] [57,58],o2 60 (.p (.pick)) [52,.k (.bool true),59] [52,59]]) (.cond (.s 60) (.exit 3) (.skip))) (.seq (.gb [o2 61 (lD 1) [3] [],o1 62 7 [],o1 63 8 [],o2 64 (ix 5) [62,63] [62,63],o2 65 (fa 2) [64] [64],o2 66 (ld 1) [65] [65],o2 67 .c [.f 72,61,.k (.int .i64 3),66] [61,66],o2 68 (lD 1) [3] [],o1 69 7 [],o1 70 9 [],o2 71 (ix 5) [69,70] [69,70],o2 72 (fa 2) [71] [71],o2 73 (ld 1) [72] [72],o2 74 .c [.f 72,68,.k (.int .i64 3),73] [68,73],o2 10 (.a (.alloc 2 [.int .i64 0,.int .i64 0])) [] [],o2 11 (.a (.alloc 2 [.int .i64 0,.int .i64 0])) [] [],oy (su 2) [10,67] [67],oy (su 2) [11,74] [74]]) (.seq (.ops [o2 75 (fa 1) [10] [],o2 76 (ld 1) [75] [75],o2 77 (bI .neq) [76,.k (.int .i64 0)] [76],o1 78 77 [77],o3 79 78 true (fa 1) [11] [],o3 80 78 true (ld 1) [79] [79],o3 81 78 true (bI .eql) [80,.k (.int .i64 0)] [80],o3 82 78 true (.p (.id)) [81] [81],o3 83 82 false (fa 1) [11] [11],o3 84 82 false (ld 1) [83] [83],o3 85 82 false (fa 1) [10] [10],o3 86 82 false (ld 1) [85] [85],o3 87 82 false (bI .gtr) [84,86] [84,86],o3 88 78 true (.p (.pick)) [82,.k (.bool true),87] [82,87],o2 89 (.p (.pick)) [78,88,.k (.bool false)] [78,88]]) (.cond (.s 89) (.seq (.ops [o1 6 (.k (.bool false)) []]) (.gh (.keep [6] []) (.ret))) (.skip)))))) (.ops [o1 27 9 [9],o2 28 (bI .add) [27,.k (.int .i64 1)] [27],o1 9 28 [28]]))) (.keep [2,3,7,8,9] [3]))))))) (.ops [o1 22 8 [8],o2 23 (bI .add) [22,.k (.int .i64 1)] [22],o1 8 23 [23]]))) (.keep [2,3,7,8] [3])))))) (.seq (.ops [o1 6 (.k (.bool true)) []]) (.gh (.keep [6] []) (.ret)))))⟩
def fL.t:RF:=⟨37,[.s 4],.seq (.ops [o2 2 (.a .box) [0] [0],o1 4 (.k (.bool false)) [4]]) (.seq (.seq (.ops [o1 6 1 [],o2 7 ln [6] [6],o2 8 (fa 0) [2] [],o2 9 (ld 1) [8] [8],o2 10 ln [9] [9],o2 11 (bI .neq) [7,10] [7,10]]) (.cond (.s 11) (.seq (.ops [o1 4 (.k (.bool false)) []]) (.gh (.keep [4] []) (.ret))) (.skip))) (.seq (.seq (.ops [o1 5 (.k (.int .i64 0)) []]) (.block 0 (.gh (.keep [1,2,5] [2]) (.loop (.hg (.seq (.seq (.ops [o1 12 5 [],o1 13 1 [],o2 14 ln [13] [13],o2 15 (bI .lss) [12,14] [12,14]]) (.cond (.s 15) (.skip) (.gh (.keep [] []) (.exit 0)))) (.seq (.block 1 (.seq (.gb [on 18 (.p (.id)) [1] [],on 19 (.p (.id)) [5] [],on 20 (ix 1) [18,19] [18,19],on 21 (ld 1) [20] [20],on 22 (bI .lss) [21,.k (.int .i64 0)] [21],on 23 (.p (.id)) [22] [22],o3 24 23 false (.p (.id)) [1] [],o3 25 23 false (.p (.id)) [5] [],o3 26 23 false (ix 1) [24,25] [24,25],o3 27 23 false (ld 1) [26] [26],o3 28 23 false (fa 0) [2] [],o3 29 23 false (ld 1) [28] [28],o3 30 23 false (.p (.id)) [5] [],o3 31 23 false (ix 3) [29,30] [29,30],o3 32 23 false (fa 2) [31] [31],o3 33 23 false (ld 1) [32] [32],o3 34 23 false ln [33] [33],⟨some 35,some (23,false),true,bI .gtr,[27,34],[27,34],[]⟩,on 36 (.p (.pick)) [23,.k (.bool true),35] [23,35]]) (.cond (.s 36) (.seq (.ops [o1 4 (.k (.bool false)) []]) (.gh (.keep [4] []) (.ret))) (.skip)))) (.ops [o1 16 5 [5],o2 17 (bI .add) [16,.k (.int .i64 1)] [16],o1 5 17 [17]]))) (.keep [1,2,5] [2])))))) (.seq (.ops [o1 4 (.k (.bool true)) []]) (.gh (.keep [4] []) (.ret)))))⟩
def ig.t:RF:=⟨11,[.s 4],.seq (.ops [o2 2 (.a .box) [0] [0],o1 4 (.k (.bool false)) [4]]) (.seq (.ops [o1 5 1 [1],o2 6 ln [5] [5],o2 7 (fa 0) [2] [2],o2 8 (ld 1) [7] [7],o2 9 ln [8] [8],o2 10 (bI .eql) [6,9] [6,9],o1 4 10 [10]]) (.ret))⟩
def eU.t:RF:=⟨31,[.s 4],.seq (.ops [o2 2 (.a .box) [0] [0],o1 4 (.k (.bool false)) [4]]) (.seq (.seq (.ops [o1 5 (.k (.int .i64 0)) []]) (.block 0 (.gh (.keep [1,2,5] [2]) (.loop (.hg (.seq (.seq (.ops [o1 6 5 [],o1 7 1 [],o2 8 ln [7] [7],o2 9 (bI .lss) [6,8] [6,8]]) (.cond (.s 9) (.skip) (.gh (.keep [] []) (.exit 0)))) (.seq (.block 1 (.seq (.gb [on 12 (.p (.id)) [1] [],on 13 (.p (.id)) [5] [],on 14 (ix 1) [12,13] [12,13],on 15 (ld 1) [14] [14],on 16 (bI .lss) [15,.k (.int .i64 0)] [15],on 17 (.p (.id)) [16] [16],o3 18 17 false (.p (.id)) [1] [],o3 19 17 false (.p (.id)) [5] [],o3 20 17 false (ix 1) [18,19] [18,19],o3 21 17 false (ld 1) [20] [20],o3 22 17 false (fa 0) [2] [],o3 23 17 false (ld 1) [22] [22],o3 24 17 false (.p (.id)) [5] [],o3 25 17 false (ix 3) [23,24] [23,24],o3 26 17 false (fa 2) [25] [25],o3 27 17 false (ld 1) [26] [26],o3 28 17 false ln [27] [27],⟨some 29,some (17,false),true,bI .gtr,[21,28],[21,28],[]⟩,on 30 (.p (.pick)) [17,.k (.bool true),29] [17,29]]) (.cond (.s 30) (.seq (.ops [o1 4 (.k (.bool false)) []]) (.gh (.keep [4] []) (.ret))) (.skip)))) (.ops [o1 10 5 [5],o2 11 (bI .add) [10,.k (.int .i64 1)] [10],o1 5 11 [11]]))) (.keep [1,2,5] [2])))))) (.seq (.ops [o1 4 (.k (.bool true)) []]) (.gh (.keep [4] []) (.ret))))⟩
def ir.t:RF:=⟨35,[.s 8],.seq (.ops [o2 4 (.a .box) [0] [0],o1 8 (.k (.bool false)) [8]]) (.seq (.ops [o2 11 (fa 0) [4] [],o2 12 (ld 1) [11] [11],o1 13 2 [2],o2 14 (ix 3) [12,13] [12,13],o2 15 (fa 2) [14] [14],o2 16 (ld 1) [15] [15],o1 17 3 [3],o2 18 (ix 5) [16,17] [16,17],o2 19 (lD 5) [18] [18],o2 9 (.a (.alloc 5 [.int .i64 0,.int .i64 0,.int .i64 0,.int .i64 0,.ay])) [] [],oz (su 5) [9,19] [19]]) (.seq (.seq (.ops [o2 20 (fa 0) [9] [],o2 21 (ld 1) [20] [20],o2 22 (bI .neq) [21,.k (.int .i64 3)] [21]]) (.cond (.s 22) (.seq (.ops [o1 8 (.k (.bool true)) []]) (.ret)) (.skip))) (.seq (.ops [o2 23 (lD 1) [4] [4],o2 24 (fa 2) [9] [9],o2 25 (ld 1) [24] [24],o2 26 .c [.f 72,23,.k (.int .i64 2),25] [23,25],o2 10 (.a (.alloc 2 [.int .i64 0,.int .i64 0])) [] [],oz (su 2) [10,26] [26]]) (.seq (.gb [o2 27 (fa 1) [10] [],o2 28 (ld 1) [27] [27],o1 29 1 [1],o2 30 (fa 0) [10] [10],o2 31 (ld 1) [30] [30],o2 32 (ix 1) [29,31] [29,31],o2 33 (ld 1) [32] [32],on 34 (bI .leq) [28,33] [28,33],on 8 (.p (.id)) [34] [34]]) (.ret)))))⟩
def dh.t:RF:=⟨27,[.s 4],.seq (.ops [o2 2 (.a .box) [0] [0],o1 4 (.k (.bool false)) [4]]) (.seq (.seq (.ops [o1 5 (.k (.int .i64 0)) []]) (.block 0 (.gh (.keep [1,2,5] [2]) (.loop (.hg (.seq (.seq (.ops [o1 7 5 [],o1 8 1 [],o2 9 ln [8] [8],o2 10 (bI .lss) [7,9] [7,9]]) (.cond (.s 10) (.skip) (.gh (.keep [] []) (.exit 0)))) (.seq (.block 1 (.seq (.ops [o1 6 (.k (.int .i64 0)) []]) (.block 2 (.gh (.keep [1,2,5,6] [2]) (.loop (.hg (.seq (.seq (.ops [o1 13 6 [],o1 14 1 [],o1 15 5 [],o2 16 (ix 1) [14,15] [14,15],o2 17 (ld 1) [16] [16],o2 18 (bI .lss) [13,17] [13,17]]) (.cond (.s 18) (.skip) (.gh (.keep [1,2,5] [2]) (.exit 2)))) (.seq (.block 3 (.seq (.ops [o2 21 (lD 1) [2] [],o1 22 1 [],o1 23 5 [],o1 24 6 [],o2 25 .c [.f 81,21,22,23,24] [21,22,23,24],o2 26 (.p (.not)) [25] [25]]) (.cond (.s 26) (.seq (.ops [o1 4 (.k (.bool false)) []]) (.gh (.keep [4] []) (.ret))) (.skip)))) (.ops [o1 19 6 [6],o2 20 (bI .add) [19,.k (.int .i64 1)] [19],o1 6 20 [20]]))) (.keep [1,2,5,6] [2]))))))) (.ops [o1 11 5 [5],o2 12 (bI .add) [11,.k (.int .i64 1)] [11],o1 5 12 [12]]))) (.keep [1,2,5] [2])))))) (.seq (.ops [o1 4 (.k (.bool true)) []]) (.gh (.keep [4] []) (.ret))))⟩
def eA.t:RF:=⟨22,[.s 4],.seq (.ops [o2 2 (.a .box) [0] [0],o1 4 (.k (.bool false)) [4]]) (.seq (.ops [o2 5 (lD 1) [2] [],o2 6 .c [.f 174,5] [5],o1 7 6 [6],o3 8 7 true (lD 1) [2] [],o3 9 7 true (.p (.id)) [1] [],o3 10 7 true .c [.f 79,8,9] [8,9],o2 11 (.p (.pick)) [7,10,.k (.bool false)] [7,10],o1 12 11 [11],o3 13 12 true (lD 1) [2] [],o3 14 12 true (.p (.id)) [1] [],o3 15 12 true .c [.f 80,13,14] [13,14],o2 16 (.p (.pick)) [12,15,.k (.bool false)] [12,15],o1 17 16 [16],o3 18 17 true (lD 1) [2] [2],o3 19 17 true (.p (.id)) [1] [1],o3 20 17 true .c [.f 82,18,19] [18,19],o2 21 (.p (.pick)) [17,20,.k (.bool false)] [17,20],o1 4 21 [21]]) (.ret))⟩
def c7.t:RF:=⟨62,[.s 8],.seq (.ops [o2 4 (.a .box) [0] [0],o1 8 (.k (.ay)) [8]]) (.seq (.ops [o1 9 (.k (.ay)) []]) (.seq (.seq (.ops [o1 10 (.k (.int .i64 0)) []]) (.block 0 (.gh (.canon (.s 9) 2009 1) (.gh (.keep [1,2,3,4,9,10] [4,2009]) (.loop (.hg (.hg (.seq (.seq (.ops [o1 13 10 [],o1 14 1 [],o1 15 2 [],o2 16 (ix 1) [14,15] [14,15],o2 17 (ld 1) [16] [16],o2 18 (bI .lss) [13,17] [13,17]]) (.cond (.s 18) (.skip) (.gh (.canon (.s 9) 2009 1) (.gh (.keep [9] [2009]) (.exit 0))))) (.seq (.block 1 (.seq (.ops [o2 21 (fa 0) [4] [],o2 22 (ld 1) [21] [21],o1 23 2 [],o2 24 (ix 3) [22,23] [22,23],o2 25 (fa 2) [24] [24],o2 26 (ld 1) [25] [25],o1 27 10 [],o2 28 (ix 5) [26,27] [26,27],o2 29 (lD 5) [28] [28],o2 11 (.a (.alloc 5 [.int .i64 0,.int .i64 0,.int .i64 0,.int .i64 0,.ay])) [] [],oz (su 5) [11,29] [29]]) (.seq (.seq (.ops [o2 30 (fa 0) [11] [],o2 31 (ld 1) [30] [30],o2 32 (bI .neq) [31,.k (.int .i64 2)] [31],o1 33 32 [32],o3 34 33 false (fa 1) [11] [],o3 35 33 false (ld 1) [34] [34],o3 36 33 false (.p (.id)) [3] [],o3 37 33 false (bI .neq) [35,36] [35,36],o2 38 (.p (.pick)) [33,.k (.bool true),37] [33,37]]) (.cond (.s 38) (.exit 1) (.skip))) (.seq (.ops [o2 39 (lD 1) [4] [],o2 40 (fa 2) [11] [],o2 41 (ld 1) [40] [40],o2 42 .c [.f 72,39,.k (.int .i64 3),41] [39,41],o2 12 (.a (.alloc 2 [.int .i64 0,.int .i64 0])) [] [],oz (su 2) [12,42] [42]]) (.seq (.gb [on 43 (fa 1) [12] [],on 44 (ld 1) [43] [43],on 45 (bI .eql) [44,.k (.int .i64 0)] [44],on 46 (.p (.id)) [45] [45],o3 47 46 false (fa 1) [12] [],o3 48 46 false (ld 1) [47] [47],o3 49 46 false (.p (.id)) [1] [],o3 50 46 false (fa 0) [12] [12],o3 51 46 false (ld 1) [50] [50],o3 52 46 false (ix 1) [49,51] [49,51],o3 53 46 false (ld 1) [52] [52],⟨some 54,some (46,false),true,bI .gtr,[48,53],[48,53],[]⟩,on 55 (.p (.pick)) [46,.k (.bool true),54] [46,54]]) (.cond (.s 55) (.ops [o1 56 9 [9],o2 57 (fa 2) [11] [11],o2 58 (ld 1) [57] [57],o2 59 (.a (.buildSl 1 1 [.int .i64 0] [0])) [58] [58],o2 60 (.l (.append 1)) [56,59] [56,59],o1 9 60 [60]]) (.skip))))))) (.ops [o1 19 10 [10],o2 20 (bI .add) [19,.k (.int .i64 1)] [19],o1 10 20 [20]]))) (.canon (.s 9) 2009 1)) (.keep [1,2,3,4,9,10] [4,2009]))))))) (.seq (.ops [o1 61 9 [9],o1 8 61 [61]]) (.ret))))⟩
def cY.t:RF:=⟨41,[.s 4],.seq (.ops [o2 2 (.a .box) [0] [0],o1 4 (.k (.ay)) [4]]) (.seq (.ops [o1 5 (.k (.ay)) []]) (.seq (.seq (.ops [o1 6 (.k (.int .i64 0)) []]) (.block 0 (.gh (.canon (.s 5) 2005 1) (.gh (.keep [1,2,5,6] [2,2005]) (.loop (.hg (.hg (.seq (.seq (.ops [o1 9 6 [],o1 10 1 [],o2 11 ln [10] [10],o2 12 (bI .lss) [9,11] [9,11]]) (.cond (.s 12) (.skip) (.gh (.canon (.s 5) 2005 1) (.gh (.keep [5] [2005]) (.exit 0))))) (.seq (.block 1 (.seq (.ops [o1 15 1 [],o2 16 ln [15] [15],o2 17 (.a (.makeSl 1 [.int .i64 0])) [16,16] [16],o1 7 17 [17]]) (.seq (.seq (.ops [o1 8 (.k (.int .i64 0)) []]) (.block 2 (.gh (.canon (.s 5) 2005 1) (.gh (.canon (.s 7) 2007 1) (.gh (.keep [1,2,5,6,7,8] [2,2005,2007]) (.loop (.hg (.hg (.hg (.seq (.seq (.ops [o1 18 8 [],o1 19 1 [],o2 20 ln [19] [19],o2 21 (bI .lss) [18,20] [18,20]]) (.cond (.s 21) (.skip) (.gh (.canon (.s 5) 2005 1) (.gh (.canon (.s 7) 2007 1) (.gh (.keep [1,2,5,6,7] [2,2005,2007]) (.exit 2)))))) (.seq (.block 3 (.seq (.ops [o1 24 8 [],o1 25 6 [],o2 26 (bI .neq) [24,25] [24,25]]) (.cond (.s 26) (.ops [o1 27 7 [],o1 28 8 [],o2 29 (lD 1) [2] [],o1 30 1 [],o1 31 6 [],o1 32 8 [],o2 33 .c [.f 83,29,30,31,32] [29,30,31,32],o2 34 ln [33] [33],o2 35 (ix 1) [27,28] [27,28],oz (su 1) [35,34] [34,35]]) (.skip)))) (.ops [o1 22 8 [8],o2 23 (bI .add) [22,.k (.int .i64 1)] [22],o1 8 23 [23]]))) (.canon (.s 5) 2005 1)) (.canon (.s 7) 2007 1)) (.keep [1,2,5,6,7,8] [2,2005,2007])))))))) (.ops [o1 36 5 [5],o1 37 7 [7],⟨some 38,none,false,.a (.buildSl 1 1 [.ay] [0]),[37],[37],[.closeS (.s 37)]⟩,o2 39 (.l (.append 1)) [36,38] [36,38],o1 5 39 [39]])))) (.ops [o1 13 6 [6],o2 14 (bI .add) [13,.k (.int .i64 1)] [13],o1 6 14 [14]]))) (.canon (.s 5) 2005 1)) (.keep [1,2,5,6] [2,2005]))))))) (.seq (.ops [o1 40 5 [5],o1 4 40 [40]]) (.ret))))⟩
def eD.t:RF:=⟨26,[.s 4],.seq (.ops [o1 4 (.k (.bool false)) [4]]) (.seq (.seq (.ops [o1 6 0 [],o2 7 ln [6] [6],o1 8 1 [],o2 9 ln [8] [8],o2 10 (bI .neq) [7,9] [7,9]]) (.cond (.s 10) (.seq (.ops [o1 4 (.k (.bool false)) []]) (.gh (.keep [4] []) (.ret))) (.skip))) (.seq (.seq (.ops [o1 5 (.k (.int .i64 0)) []]) (.block 0 (.gh (.keep [0,1,5] []) (.loop (.hg (.seq (.seq (.ops [o1 11 5 [],o1 12 0 [],o2 13 ln [12] [12],o2 14 (bI .lss) [11,13] [11,13]]) (.cond (.s 14) (.skip) (.gh (.keep [] []) (.exit 0)))) (.seq (.block 1 (.seq (.gb [o1 17 0 [],o1 18 5 [],o2 19 (ix 1) [17,18] [17,18],o2 20 (ld 1) [19] [19],o1 21 1 [],o1 22 5 [],o2 23 (ix 1) [21,22] [21,22],o2 24 (ld 1) [23] [23],on 25 (bI .neq) [20,24] [20,24]]) (.cond (.s 25) (.seq (.ops [o1 4 (.k (.bool false)) []]) (.gh (.keep [4] []) (.ret))) (.skip)))) (.ops [o1 15 5 [5],o2 16 (bI .add) [15,.k (.int .i64 1)] [15],o1 5 16 [16]]))) (.keep [0,1,5] [])))))) (.seq (.ops [o1 4 (.k (.bool true)) []]) (.gh (.keep [4] []) (.ret)))))⟩
def eB.t:RF:=⟨27,[.s 4],.seq (.ops [o1 4 (.k (.bool false)) [4]]) (.seq (.seq (.ops [o1 6 0 [],o2 7 ln [6] [6],o1 8 1 [],o2 9 ln [8] [8],o2 10 (bI .neq) [7,9] [7,9]]) (.cond (.s 10) (.seq (.ops [o1 4 (.k (.bool false)) []]) (.gh (.keep [4] []) (.ret))) (.skip))) (.seq (.seq (.ops [o1 5 (.k (.int .i64 0)) []]) (.block 0 (.gh (.keep [0,1,5] []) (.loop (.hg (.seq (.seq (.ops [o1 11 5 [],o1 12 0 [],o2 13 ln [12] [12],o2 14 (bI .lss) [11,13] [11,13]]) (.cond (.s 14) (.skip) (.gh (.keep [] []) (.exit 0)))) (.seq (.block 1 (.seq (.gb [o1 17 0 [],o1 18 5 [],o2 19 (ix 1) [17,18] [17,18],o2 20 (ld 1) [19] [19],o1 21 1 [],o1 22 5 [],o2 23 (ix 1) [21,22] [21,22],o2 24 (ld 1) [23] [23],on 25 .c [.f 85,20,24] [20,24],on 26 (.p (.not)) [25] [25]]) (.cond (.s 26) (.seq (.ops [o1 4 (.k (.bool false)) []]) (.gh (.keep [4] []) (.ret))) (.skip)))) (.ops [o1 15 5 [5],o2 16 (bI .add) [15,.k (.int .i64 1)] [15],o1 5 16 [16]]))) (.keep [0,1,5] [])))))) (.seq (.ops [o1 4 (.k (.bool true)) []]) (.gh (.keep [4] []) (.ret)))))⟩
def dx.t:RF:=⟨31,[.s 4],.seq (.ops [o2 2 (.a .box) [0] [0],o1 4 (.k (.bool false)) [4]]) (.seq (.ops [o2 8 (lD 1) [2] [2],o1 9 1 [1],o2 10 .c [.f 84,8,9] [8,9],o1 5 10 [10]]) (.seq (.seq (.ops [o1 6 (.k (.int .i64 0)) []]) (.block 0 (.gh (.keep [5,6] []) (.loop (.hg (.seq (.seq (.ops [o1 11 6 [],o1 12 5 [],o2 13 ln [12] [12],o2 14 (bI .lss) [11,13] [11,13]]) (.cond (.s 14) (.skip) (.gh (.keep [] []) (.exit 0)))) (.seq (.block 1 (.seq (.ops [o1 7 (.k (.int .i64 0)) []]) (.block 2 (.gh (.keep [5,6,7] []) (.loop (.hg (.seq (.seq (.ops [o1 17 7 [],o1 18 5 [],o2 19 ln [18] [18],o2 20 (bI .lss) [17,19] [17,19]]) (.cond (.s 20) (.skip) (.gh (.keep [5,6] []) (.exit 2)))) (.seq (.block 3 (.seq (.ops [o1 23 5 [],o1 24 6 [],o2 25 (ix 1) [23,24] [23,24],o2 26 (ld 1) [25] [25],o1 27 7 [],o2 28 (ix 1) [26,27] [26,27],o2 29 (ld 1) [28] [28],o2 30 (bI .gtr) [29,.k (.int .i64 0)] [29]]) (.cond (.s 30) (.seq (.ops [o1 4 (.k (.bool false)) []]) (.gh (.keep [4] []) (.ret))) (.skip)))) (.ops [o1 21 7 [7],o2 22 (bI .add) [21,.k (.int .i64 1)] [21],o1 7 22 [22]]))) (.keep [5,6,7] []))))))) (.ops [o1 15 6 [6],o2 16 (bI .add) [15,.k (.int .i64 1)] [15],o1 6 16 [16]]))) (.keep [5,6] [])))))) (.seq (.ops [o1 4 (.k (.bool true)) []]) (.gh (.keep [4] []) (.ret)))))⟩
def aZ.t:RF:=⟨147,[.s 8],.seq (.ops [o2 4 (.a .box) [0] [0],o1 8 (.k (.bool false)) [8]]) (.seq (.seq (.ops [o2 16 .c [.f 1] [],o2 17 (.p (.not)) [16] [16]]) (.cond (.s 17) (.seq (.ops [o1 8 (.k (.bool false)) []]) (.ret)) (.skip))) (.seq (.seq (.ops [o2 18 (lD 1) [4] [],o2 19 .c [.f 5,18] [18],o2 20 (bI .gtr) [19,.k (.int .i64 60)] [19],o1 21 20 [20],o3 22 21 false (.p (.id)) [1] [],o3 23 21 false ln [22] [22],o3 24 21 false (bI .gtr) [23,.k (.int .i64 20)] [23],o2 25 (.p (.pick)) [21,.k (.bool true),24] [21,24]]) (.cond (.s 25) (.seq (.ops [o1 8 (.k (.bool true)) []]) (.ret)) (.skip))) (.seq (.ops [o2 27 (lD 1) [4] [],o1 28 1 [],o2 29 .c [.f 56,27,28] [27,28],o1 26 29 [29],o2 30 (.p (.ext 0)) [26] [],o2 31 (.p (.ext 1)) [26] [26],o1 9 30 [30],o1 10 31 [31]]) (.seq (.ops [o2 33 (lD 1) [4] [],o1 34 1 [],o2 35 .c [.f 62,33,34] [33,34],o1 32 35 [35],o2 36 (.p (.ext 0)) [32] [],o2 37 (.p (.ext 1)) [32] [32],o1 11 36 [36],o1 12 37 [37]]) (.seq (.ops [o2 39 (lD 1) [4] [],o1 40 2 [],o1 41 3 [],o2 42 .c [.f 33,39,40,41] [39,40,41],o1 38 42 [42],o2 43 (.p (.ext 0)) [38] [],o2 44 (.p (.ext 1)) [38] [38],o1 13 43 [43],o1 14 44 [44]]) (.seq (.seq (.ops [o2 45 (lD 1) [4] [],o2 46 .c [.f 174,45] [45],o2 47 (.p (.not)) [46] [46]]) (.cond (.s 47) (.seq (.ops [o1 48 9 [9],o2 49 ln [48] [48],o2 50 (bI .eql) [49,.k (.int .i64 0)] [49],o1 51 50 [50],o3 52 51 true (.p (.id)) [10] [10],o3 53 51 true (bI .eql) [52,.k (.int .i64 1)] [52],o2 54 (.p (.pick)) [51,53,.k (.bool false)] [51,53],o1 55 54 [54],o3 56 55 true (.p (.id)) [11] [11],o3 57 55 true (.p (.not)) [56] [56],o2 58 (.p (.pick)) [55,57,.k (.bool false)] [55,57],o1 59 58 [58],o3 60 59 true (.p (.id)) [12] [12],o3 61 59 true (bI .eql) [60,.k (.int .i64 1)] [60],o2 62 (.p (.pick)) [59,61,.k (.bool false)] [59,61],o1 63 62 [62],o3 64 63 true (.p (.id)) [13] [13],o3 65 63 true (.p (.not)) [64] [64],o2 66 (.p (.pick)) [63,65,.k (.bool false)] [63,65],o1 67 66 [66],o3 68 67 true (.p (.id)) [14] [14],o3 69 67 true (bI .eql) [68,.k (.int .i64 1)] [68],o2 70 (.p (.pick)) [67,69,.k (.bool false)] [67,69],o1 8 70 [70]]) (.ret)) (.skip))) (.seq (.seq (.ops [o2 71 (lD 1) [4] [],o1 72 2 [],o1 73 3 [],o2 74 .c [.f 76,71,72,73] [71,72,73],o2 75 (.p (.not)) [74] [74]]) (.cond (.s 75) (.seq (.ops [o1 76 13 [13],o1 77 76 [76],o3 78 77 false (.p (.id)) [14] [14],o3 79 77 false (bI .neq) [78,.k (.int .i64 2)] [78],o2 80 (.p (.pick)) [77,.k (.bool true),79] [77,79]]) (.cond (.s 80) (.seq (.ops [o1 8 (.k (.bool false)) []]) (.ret)) (.skip))) (.seq (.ops [o1 81 13 [13],o2 82 (lD 1) [4] [],o1 83 2 [2],o1 84 3 [3],o2 85 .c [.f 77,82,83,84] [82,83,84],o2 86 (.p (.bin (some .bool) none .neq)) [81,85] [81,85],o1 87 86 [86],o3 88 87 false (.p (.id)) [14] [14],o3 89 87 false (bI .neq) [88,.k (.int .i64 0)] [88],o2 90 (.p (.pick)) [87,.k (.bool true),89] [87,89]]) (.cond (.s 90) (.seq (.ops [o1 8 (.k (.bool false)) []]) (.ret)) (.skip))))) (.gh (.keep [1,4,9,10,11,12] [4]) (.seq (.ops [o1 15 (.k (.int .i64 0)) []]) (.seq (.block 0 (.seq (.ops [o1 92 1 [],o2 93 ln [92] [92],o2 94 (fa 0) [4] [],o2 95 (ld 1) [94] [94],o2 96 ln [95] [95],o2 97 (bI .neq) [93,96] [93,96],o1 91 97 [97]]) (.cond (.s 91) (.ops [o1 15 (.k (.int .i64 1)) []]) (.seq (.ops [o2 99 (lD 1) [4] [],o1 100 1 [],o2 101 .c [.f 78,99,100] [99,100],o2 102 (.p (.not)) [101] [101],o1 98 102 [102]]) (.cond (.s 98) (.ops [o1 15 (.k (.int .i64 2)) []]) (.seq (.ops [o2 104 (lD 1) [4] [],o1 105 1 [],o2 106 .c [.f 175,104,105] [104,105],o2 107 (.p (.not)) [106] [106],o1 103 107 [107]]) (.cond (.s 103) (.ops [o1 15 (.k (.int .i64 18)) []]) (.skip)))))))) (.gh (.keep [1,4,9,10,11,12,15] [4]) (.seq (.seq (.ops [o1 108 15 [],o2 109 (bI .neq) [108,.k (.int .i64 0)] [108]]) (.cond (.s 109) (.seq (.ops [o1 110 9 [9],o2 111 ln [110] [110],o2 112 (bI .eql) [111,.k (.int .i64 0)] [111],o1 113 112 [112],o3 114 113 true (.p (.id)) [10] [10],o3 115 113 true (.p (.id)) [15] [],o3 116 113 true (bI .eql) [114,115] [114,115],o2 117 (.p (.pick)) [113,116,.k (.bool false)] [113,116],o1 118 117 [117],o3 119 118 true (.p (.id)) [11] [11],o3 120 118 true (.p (.not)) [119] [119],o2 121 (.p (.pick)) [118,120,.k (.bool false)] [118,120],o1 122 121 [121],o3 123 122 true (.p (.id)) [12] [12],o3 124 122 true (.p (.id)) [15] [15],o3 125 122 true (bI .eql) [123,124] [123,124],o2 126 (.p (.pick)) [122,125,.k (.bool false)] [122,125],o1 8 126 [126]]) (.ret)) (.skip))) (.seq (.ops [o1 127 10 [10],o2 128 (bI .eql) [127,.k (.int .i64 0)] [127],o1 129 128 [128],o3 130 129 true (.p (.id)) [9] [9],o3 131 129 true (lD 1) [4] [],o3 132 129 true (.p (.id)) [1] [],o3 133 129 true .c [.f 84,131,132] [131,132],o3 134 129 true .c [.f 86,130,133] [130,133],o2 135 (.p (.pick)) [129,134,.k (.bool false)] [129,134],o1 136 135 [135],o3 137 136 true (.p (.id)) [12] [12],o3 138 136 true (bI .eql) [137,.k (.int .i64 0)] [137],o2 139 (.p (.pick)) [136,138,.k (.bool false)] [136,138],o1 140 139 [139],o3 141 140 true (.p (.id)) [11] [11],o3 142 140 true (lD 1) [4] [4],o3 143 140 true (.p (.id)) [1] [1],o3 144 140 true .c [.f 87,142,143] [142,143],o3 145 140 true (.p (.bin (some .bool) none .eql)) [141,144] [141,144],o2 146 (.p (.pick)) [140,145,.k (.bool false)] [140,145],o1 8 146 [146]]) (.ret))))))))))))))⟩
end Go.VE
namespace Go.VE
open Go.Proofs.Ytnfakljmdnbipaa
def Ul:List (Nat×Nat):=[(1,6),(2,35),(3,26),(4,27),(5,7),(6,48),(7,94),(8,95),(9,72),(10,74),(11,96),(12,73),(13,76),(14,97),(15,75),(16,49),(18,50),(19,78),(20,80),(21,98),(22,79),(23,51),(24,91),(25,68),(26,44),(27,81),(28,52),(29,28),(30,8),(36,82),(37,85),(38,58),(39,53),(40,54),(41,55),(42,104),(43,99),(44,83),(45,56),(46,29),(48,30),(49,31),(50,105),(51,100),(52,101),(53,84),(54,57),(55,32),(56,10),(57,86),(58,60),(59,61),(60,59),(61,33),(62,11),(31,34),(32,36),(33,13),(65,102),(66,103),(67,87),(68,88),(69,62),(70,63),(71,89),(72,38),(73,64),(74,65),(75,90),(172,66),(173,37),(174,14),(76,15),(77,16),(78,17),(79,39),(80,40),(81,67),(82,41),(175,18),(83,43),(84,20),(85,42),(86,19),(87,21),(176,4),(17,77)]
def D5:List (Nat×Nat):=[(6,1),(35,2),(26,3),(27,4),(7,5),(48,6),(94,7),(95,8),(72,9),(74,10),(96,11),(73,12),(76,13),(97,14),(75,15),(49,16),(50,18),(78,19),(80,20),(98,21),(79,22),(51,23),(91,24),(68,25),(44,26),(81,27),(52,28),(28,29),(8,30),(82,36),(85,37),(58,38),(53,39),(54,40),(55,41),(104,42),(99,43),(83,44),(56,45),(29,46),(30,48),(31,49),(105,50),(100,51),(101,52),(84,53),(57,54),(32,55),(10,56),(86,57),(60,58),(61,59),(59,60),(33,61),(11,62),(34,31),(36,32),(13,33),(102,65),(103,66),(87,67),(88,68),(62,69),(63,70),(89,71),(38,72),(64,73),(65,74),(90,75),(66,172),(37,173),(14,174),(15,76),(16,77),(17,78),(39,79),(40,80),(67,81),(41,82),(18,175),(43,83),(20,84),(42,85),(19,86),(21,87),(4,176),(77,17)]
def bq (n:Nat):FuncId:=(lk Ul n).getD 0
def bM (g:FuncId):Option Nat:=(lk D5 g).bind fun s=>bif Nat.beq (bq s) g then some s else none
noncomputable def Sy:Sys:=⟨E,bq,rU (trace_events_c1.AZ 77),tR E⟩
def EN:List (Nat×RF):=[(35,bV.t),(26,cr.t),(27,fD.t),(7,eC.t),(48,gj.t),(94,eK.t),(95,fV.t),(72,cI.t),(74,cR.t),(96,cC.t),(73,cF.t),(76,cQ.t),(97,cK.t),(75,cN.t),(49,bA.t),(50,ey.t),(78,cX.t),(80,di.t),(98,b8.t),(79,b9.t),(51,a_.t),(91,fB.t),(68,gK.t),(44,b7.t),(81,d7.t),(52,c9.t),(28,dH.t),(8,bX.t),(82,fh.t),(85,cD.t),(58,cG.t),(53,iR.t),(54,eE.t),(55,iS.t),(104,e9.t),(99,gz.t),(83,dU.t),(56,iL.t),(29,dj.t),(30,dP.t),(31,dm.t),(105,fW.t),(100,gu.t),(101,eM.t),(84,bE.t),(57,fT.t),(32,eL.t),(10,bQ.t),(86,cM.t),(60,c8.t),(61,dS.t),(59,eN.t),(33,gC.t),(11,eo.t),(34,eS.t),(36,eV.t),(13,cV.t),(102,fq.t),(103,gp.t),(87,dK.t),(88,fR.t),(62,cw.t),(63,cx.t),(89,iz.t),(38,bP.t),(64,dG.t),(65,bC.t),(90,bO.t),(37,bz.t),(14,fm.t),(15,hU.t),(16,dO.t),(17,fL.t),(39,ig.t),(40,eU.t),(67,ir.t),(41,dh.t),(18,eA.t),(43,c7.t),(20,cY.t),(42,eD.t),(19,eB.t),(21,dx.t),(4,aZ.t)]
def Tx:ql:=lk EN
noncomputable abbrev cL:ck:=fJ Sy Tx
theorem Qo:∃fi,E.ft 35=some fi∧bf E bM fi bV.t:=aT (by kernel_rfl)
theorem PG:∃fi,E.ft 26=some fi∧bf E bM fi cr.t:=aT (by kernel_rfl)
theorem Oa:∃fi,E.ft 27=some fi∧bf E bM fi fD.t:=aT (by kernel_rfl)
theorem T3:∃fi,E.ft 7=some fi∧bf E bM fi eC.t:=aT (by kernel_rfl)
theorem OX:∃fi,E.ft 48=some fi∧bf E bM fi gj.t:=aT (by kernel_rfl)
theorem P0:∃fi,E.ft 94=some fi∧bf E bM fi eK.t:=aT (by kernel_rfl)
theorem QS:∃fi,E.ft 95=some fi∧bf E bM fi fV.t:=aT (by kernel_rfl)
theorem PW:∃fi,E.ft 72=some fi∧bf E bM fi cI.t:=aT (by kernel_rfl)
theorem Oh:∃fi,E.ft 74=some fi∧bf E bM fi cR.t:=aT (by kernel_rfl)
theorem Pw:∃fi,E.ft 96=some fi∧bf E bM fi cC.t:=aT (by kernel_rfl)
theorem Od:∃fi,E.ft 73=some fi∧bf E bM fi cF.t:=aT (by kernel_rfl)
theorem Nm:∃fi,E.ft 76=some fi∧bf E bM fi cQ.t:=aT (by kernel_rfl)
theorem NC:∃fi,E.ft 97=some fi∧bf E bM fi cK.t:=aT (by kernel_rfl)
theorem N7:∃fi,E.ft 75=some fi∧bf E bM fi cN.t:=aT (by kernel_rfl)
theorem P4:∃fi,E.ft 49=some fi∧bf E bM fi bA.t:=aT (by kernel_rfl)
theorem O6:∃fi,E.ft 50=some fi∧bf E bM fi ey.t:=aT (by kernel_rfl)
theorem Og:∃fi,E.ft 78=some fi∧bf E bM fi cX.t:=aT (by kernel_rfl)
theorem OW:∃fi,E.ft 80=some fi∧bf E bM fi di.t:=aT (by kernel_rfl)
theorem QM:∃fi,E.ft 98=some fi∧bf E bM fi b8.t:=aT (by kernel_rfl)
theorem N8:∃fi,E.ft 79=some fi∧bf E bM fi b9.t:=aT (by kernel_rfl)
theorem Pq:∃fi,E.ft 51=some fi∧bf E bM fi a_.t:=aT (by kernel_rfl)
theorem PJ:∃fi,E.ft 91=some fi∧bf E bM fi fB.t:=aT (by kernel_rfl)
theorem OJ:∃fi,E.ft 68=some fi∧bf E bM fi gK.t:=aT (by kernel_rfl)
theorem O7:∃fi,E.ft 44=some fi∧bf E bM fi b7.t:=aT (by kernel_rfl)
theorem Qc:∃fi,E.ft 81=some fi∧bf E bM fi d7.t:=aT (by kernel_rfl)
theorem Om:∃fi,E.ft 52=some fi∧bf E bM fi c9.t:=aT (by kernel_rfl)
theorem Qk:∃fi,E.ft 28=some fi∧bf E bM fi dH.t:=aT (by kernel_rfl)
theorem Tp:∃fi,E.ft 8=some fi∧bf E bM fi bX.t:=aT (by kernel_rfl)
theorem Qz:∃fi,E.ft 82=some fi∧bf E bM fi fh.t:=aT (by kernel_rfl)
theorem NW:∃fi,E.ft 85=some fi∧bf E bM fi cD.t:=aT (by kernel_rfl)
theorem Ns:∃fi,E.ft 58=some fi∧bf E bM fi cG.t:=aT (by kernel_rfl)
theorem Qs:∃fi,E.ft 53=some fi∧bf E bM fi iR.t:=aT (by kernel_rfl)
theorem O8:∃fi,E.ft 54=some fi∧bf E bM fi eE.t:=aT (by kernel_rfl)
theorem QY:∃fi,E.ft 55=some fi∧bf E bM fi iS.t:=aT (by kernel_rfl)
theorem Mx:∃fi,E.ft 104=some fi∧bf E bM fi e9.t:=aT (by kernel_rfl)
theorem NF:∃fi,E.ft 99=some fi∧bf E bM fi gz.t:=aT (by kernel_rfl)
theorem OP:∃fi,E.ft 83=some fi∧bf E bM fi dU.t:=aT (by kernel_rfl)
theorem OG:∃fi,E.ft 56=some fi∧bf E bM fi iL.t:=aT (by kernel_rfl)
theorem QC:∃fi,E.ft 29=some fi∧bf E bM fi dj.t:=aT (by kernel_rfl)
theorem PO:∃fi,E.ft 30=some fi∧bf E bM fi dP.t:=aT (by kernel_rfl)
theorem NO:∃fi,E.ft 31=some fi∧bf E bM fi dm.t:=aT (by kernel_rfl)
theorem LM:∃fi,E.ft 105=some fi∧bf E bM fi fW.t:=aT (by kernel_rfl)
theorem Ll:∃fi,E.ft 100=some fi∧bf E bM fi gu.t:=aT (by kernel_rfl)
theorem Mp:∃fi,E.ft 101=some fi∧bf E bM fi eM.t:=aT (by kernel_rfl)
theorem NZ:∃fi,E.ft 84=some fi∧bf E bM fi bE.t:=aT (by kernel_rfl)
theorem Pc:∃fi,E.ft 57=some fi∧bf E bM fi fT.t:=aT (by kernel_rfl)
theorem O2:∃fi,E.ft 32=some fi∧bf E bM fi eL.t:=aT (by kernel_rfl)
theorem N4:∃fi,E.ft 10=some fi∧bf E bM fi bQ.t:=aT (by kernel_rfl)
theorem P7:∃fi,E.ft 86=some fi∧bf E bM fi cM.t:=aT (by kernel_rfl)
theorem Nv:∃fi,E.ft 60=some fi∧bf E bM fi c8.t:=aT (by kernel_rfl)
theorem Nx:∃fi,E.ft 61=some fi∧bf E bM fi dS.t:=aT (by kernel_rfl)
theorem Qw:∃fi,E.ft 59=some fi∧bf E bM fi eN.t:=aT (by kernel_rfl)
theorem NG:∃fi,E.ft 33=some fi∧bf E bM fi gC.t:=aT (by kernel_rfl)
theorem PC:∃fi,E.ft 11=some fi∧bf E bM fi eo.t:=aT (by kernel_rfl)
theorem Of:∃fi,E.ft 34=some fi∧bf E bM fi eS.t:=aT (by kernel_rfl)
theorem Qd:∃fi,E.ft 36=some fi∧bf E bM fi eV.t:=aT (by kernel_rfl)
theorem Pm:∃fi,E.ft 13=some fi∧bf E bM fi cV.t:=aT (by kernel_rfl)
theorem Ld:∃fi,E.ft 102=some fi∧bf E bM fi fq.t:=aT (by kernel_rfl)
theorem M1:∃fi,E.ft 103=some fi∧bf E bM fi gp.t:=aT (by kernel_rfl)
theorem PL:∃fi,E.ft 87=some fi∧bf E bM fi dK.t:=aT (by kernel_rfl)
theorem NA:∃fi,E.ft 88=some fi∧bf E bM fi fR.t:=aT (by kernel_rfl)
theorem Qg:∃fi,E.ft 62=some fi∧bf E bM fi cw.t:=aT (by kernel_rfl)
theorem NV:∃fi,E.ft 63=some fi∧bf E bM fi cx.t:=aT (by kernel_rfl)
theorem Nk:∃fi,E.ft 89=some fi∧bf E bM fi iz.t:=aT (by kernel_rfl)
theorem NK:∃fi,E.ft 38=some fi∧bf E bM fi bP.t:=aT (by kernel_rfl)
theorem Qh:∃fi,E.ft 64=some fi∧bf E bM fi dG.t:=aT (by kernel_rfl)
theorem OF:∃fi,E.ft 65=some fi∧bf E bM fi bC.t:=aT (by kernel_rfl)
theorem Nh:∃fi,E.ft 90=some fi∧bf E bM fi bO.t:=aT (by kernel_rfl)
theorem Qt:∃fi,E.ft 37=some fi∧bf E bM fi bz.t:=aT (by kernel_rfl)
theorem Nr:∃fi,E.ft 14=some fi∧bf E bM fi fm.t:=aT (by kernel_rfl)
theorem Qq:∃fi,E.ft 15=some fi∧bf E bM fi hU.t:=aT (by kernel_rfl)
theorem Pb:∃fi,E.ft 16=some fi∧bf E bM fi dO.t:=aT (by kernel_rfl)
theorem Pt:∃fi,E.ft 17=some fi∧bf E bM fi fL.t:=aT (by kernel_rfl)
theorem NS:∃fi,E.ft 39=some fi∧bf E bM fi ig.t:=aT (by kernel_rfl)
theorem QB:∃fi,E.ft 40=some fi∧bf E bM fi eU.t:=aT (by kernel_rfl)
theorem N2:∃fi,E.ft 67=some fi∧bf E bM fi ir.t:=aT (by kernel_rfl)
theorem NL:∃fi,E.ft 41=some fi∧bf E bM fi dh.t:=aT (by kernel_rfl)
theorem NY:∃fi,E.ft 18=some fi∧bf E bM fi eA.t:=aT (by kernel_rfl)
theorem QK:∃fi,E.ft 43=some fi∧bf E bM fi c7.t:=aT (by kernel_rfl)
theorem Oq:∃fi,E.ft 20=some fi∧bf E bM fi cY.t:=aT (by kernel_rfl)
theorem OY:∃fi,E.ft 42=some fi∧bf E bM fi eD.t:=aT (by kernel_rfl)
theorem OO:∃fi,E.ft 19=some fi∧bf E bM fi eB.t:=aT (by kernel_rfl)
theorem NU:∃fi,E.ft 21=some fi∧bf E bM fi dx.t:=aT (by kernel_rfl)
theorem UM:∃fi,E.ft 4=some fi∧bf E bM fi aZ.t:=aT (by kernel_rfl)
theorem Oc:∃fi,E.ft 77=some fi∧bf E bM fi trace_events_c1.text:=aT (by kernel_rfl)
theorem Jj:sE Sy Tx where
 fn f rf h:=by
  have key:∀p∈EN,∃fi,E.ft p.1=some fi∧bf E bM fi p.2:=by
   unfold EN;simp only[List.forall_mem_cons];exact⟨Qo,PG,Oa,T3,OX,P0,QS,PW,Oh,Pw,Od,Nm,NC,N7,P4,O6,Og,OW,QM,N8,Pq,PJ,OJ,O7,Qc,Om,Qk,Tp,Qz,NW,Ns,Qs,O8,QY,Mx,NF,OP,OG,QC,PO,NO,LM,Ll,Mp,NZ,Pc,O2,N4,P7,Nv,Nx,Qw,NG,PC,Of,Qd,Pm,Ld,M1,PL,NA,Qg,NV,Nk,NK,Qh,OF,Nh,Qt,Nr,Qq,Pb,Pt,NS,QB,N2,NL,NY,QK,Oq,OY,OO,NU,UM,by simp⟩
  obtain⟨fi,h1,h2⟩:=key (f,rf) (yK (l:=EN) h);exact⟨fi,bM,h1,DK bq (lk D5),h2⟩
 tI f bs y h:=FV h
theorem Db:∀f a b xs,Sy.items f a b=some xs→gk Sy f a b xs:=by
 intro f a b xs h;obtain⟨t,its,rfl,rfl,rfl,h1,rfl⟩:=DG h;obtain⟨fi,h2,h3⟩:=Oc;exact GX Sy h2 (DK bq (lk D5)) h3 (Nat.le_of_ble_eq_true rfl) rfl fun ws more hw y=>trace_events_c1.all t its h1 ws more hw y
theorem sS (t:Trace) (its:List (aa×Event)) (h:gr t=some its):Sy.items (Sy.N 17) [] [.fptr (cells t)]=some (its.map fun x:aa×Event=>[enc x.1,enc x.2]):=
 D6 ⟨t,its,rfl,rfl,rfl,h,rfl⟩ fun ys hy=>hy.uniq ⟨t,its,rfl,rfl,rfl,h,rfl⟩
theorem EV:Sy.tI 6 []=some (.bool true):=Az (C0 rfl D4)
end Go.VE
namespace Go.VE
section
variable {H H':an} {w:V} {o:Nat} {ids:List Nat} {rows:List (List V)}
theorem jd.cell (n:jd H w o ids rows) {p j:Nat} {r:List V} {u:V} (hr:rows[p]? = some r) (hu:r[j]? = some u) :
 ∃id,ids[p]? = some id∧kO 1 w (p:Int)=some (.hptr o p 0)∧fu H (.load 1 false) [.hptr o p 0]=some (.hsl id 1 0 r.length)∧kO 1 (.hsl id 1 0 r.length) (j:Int)=some (.hptr id j 0)∧fu H (.load 1 false) [.hptr id j 0]=some u:=by
 have hp:=(Zf.1 hr).1;have hj:=(Zf.1 hu).1;have hne:rows≠[]:=by intro e;subst e;simp at hr
 have hpi:p<ids.length:=by rw[n.len];exact hp
 have hid:=Ze hpi;refine⟨ids[p],hid,?_,?_,?_,?_⟩
 ·have:=n.v;rw[if_neg hne]at this;subst this;simp[kO,hp]
 ·have h1:=n.ob hne;have h2:=wL hid hr;simp[fu,dX,h1,Ob.rows,h2,cut];rfl
 ·simp[kO,hj]
 ·have h1:=n.r p _ r hid hr;simp[fu,dX,h1,Ob.rows,gn,hu,cut];rfl
theorem GD {ids:List Nat} (h:ids.Nodup) {i j:Nat} {a:Nat} (hi:ids[i]? = some a) (hj:ids[j]? = some a):i=j:=by
 have h1:=(Zf.1 hi);have h2:=(Zf.1 hj);obtain⟨h1,e1⟩:=h1;obtain⟨h2,e2⟩:=h2;exact(List.getElem_inj h).1 (e1.trans e2.symm)
theorem jd.set (n:jd H w o ids rows) {p j id:Nat} {r:List V} {u:V} (hr:rows[p]? = some r) (hj:j<r.length) (hid:ids[p]? = some id) (hu:V.one u=true) (hc:u.cells=[u]) :
 ∃H',gA H (.store 1) [.hptr id j 0,u]=some (.undef,H')∧jd H' w o ids (rows.set p (r.set j u))∧H'.length=H.length∧(∀i,i≠id→H'[i]? = H[i]?):=by
 have hp:=(Zf.1 hr).1;have hne:rows≠[]:=by intro e;subst e;simp at hr
 have h1:=n.r p id r hid hr;have hl:id<H.length:=(Zf.1 h1).1;have hset:(gn r).set j [u]=gn (r.set j u):=by simp[gn,List.map_set]
 have hoid:o≠id:=fun e=>n.ne hne (e▸List.mem_of_getElem? hid)
 refine⟨H.set id (.row 1 (gn (r.set j u))),?_,⟨?_,fun _ => ?_,by simp[n.len],fun i id' r' hi hr' => ?_,n.nd,fun _=>n.ne hne⟩,by simp,fun i hi=>List.getElem?_set_ne (Ne.symm hi)⟩
 ·have h2:(gn r)[j]? = some [r[j]]:=by simp[gn,hj]
  simp only[gA,h1,h2,hc,List.length_singleton,Nat.zero_add,Nat.le_refl,List.all_cons,hu,List.all_nil,Bool.and_self,and_self,if_true,List.take_zero,List.nil_append];rw[←hset];simp
 ·rw[n.v];have:rows.set p (r.set j u)≠[]:=by intro e;apply hne;simpa using e
  rw[if_neg hne,if_neg this,List.length_set]
 ·rw[List.getElem?_set_ne (Ne.symm hoid),Bf hr (by simp)];exact n.ob hne
 ·by_cases e:i=p
  ·subst e;rw[hid]at hi;cases hi;rw[List.getElem?_set_self hp]at hr';cases hr';rw[List.getElem?_set_self hl]
  ·rw[List.getElem?_set_ne (Ne.symm e)]at hr';have hne':id≠id':=fun e'=>e (GD n.nd (e'▸hi) hid)
   rw[List.getElem?_set_ne hne'];exact n.r i id' r' hi hr'
end
structure g7 (H:an) (w:V) (l:List (List V)) (id:Nat):Prop where
 c:∀c∈l,c.length=2∧c.all V.one=true
 v:(w=.ay∧l=[])∨∃off xs,w=.hsl id 2 off l.length∧H[id]? = some (.row 2 xs)∧off+l.length≤xs.length∧(xs.drop off).take l.length=l
section
variable {H H':an} {w:V} {l:List (List V)} {id:Nat}
theorem g7.heap (n:g7 H w l id) (h:∀off n,w=.hsl id 2 off n→H'[id]? = H[id]?):g7 H' w l id:=
 ⟨n.c,n.v.imp (fun h=>h) fun⟨off,xs,e1,e2,e3,e4⟩=>⟨off,xs,e1,by rw[h _ _ e1];exact e2,e3,e4⟩⟩
theorem g7.lt (n:g7 H w l id) {off m:Nat} (h:w=.hsl id 2 off m):id<H.length:=by
 rcases n.v with⟨e,_⟩|⟨_,xs,_,e2,_⟩
 ·rw[e]at h;cases h
 ·exact(Zf.1 e2).1
theorem g7.more (n:g7 H w l id) (X:an):g7 (H++X) w l id:=n.heap fun _ _ e=>List.getElem?_append_left (n.lt e)
theorem g7.len (n:g7 H w l id):uG w=some (.int .i64 l.length):=by
 rcases n.v with⟨rfl,rfl⟩|⟨off,xs,rfl,_⟩ <;> rfl
theorem g7.get (n:g7 H w l id) {i:Nat} {c:List V} (hc:l[i]? = some c):∃p,kO 2 w (i:Int)=some p∧fu H (.load 2 true) [p]=some (.agg c):=by
 have hi:=(Zf.1 hc).1;have hcl:=(n.c c (List.mem_of_getElem? hc)).1;rcases n.v with⟨_,rfl⟩|⟨off,xs,rfl,e2,e3,e4⟩
 ·simp at hc
 ·refine⟨.hptr id (off+i) 0,by simp[kO,hi],?_⟩
  have:xs[off+i]? = some c:=by
   rw[←e4,List.getElem?_take,if_pos hi,List.getElem?_drop]at hc;exact hc
  simp[fu,dX,e2,Ob.rows,this,cut,←hcl];rfl
theorem g7.tail {c:List V} (n:g7 H w (c::l) id):∃w',iI 2 w (some 1) none=some w'∧g7 H w' l id∧∃off m off',w=.hsl id 2 off m∧w'=.hsl id 2 off' l.length:=by
 rcases n.v with⟨_,e⟩|⟨off,xs,rfl,e2,e3,e4⟩
 ·cases e
 ·refine⟨.hsl id 2 (off+1) l.length,?_,⟨fun c hc=>n.c c (List.mem_cons_of_mem _ hc),.inr ⟨off+1,xs,rfl,e2,by simp at e3;omega,?_⟩⟩,⟨_,_,_,rfl,rfl⟩⟩
  ·simp[iI,dR];omega
  ·have hd:(xs.drop off).drop 1=xs.drop (off+1):=by rw[List.drop_drop]
   rw[←hd];have:=congrArg (List.drop 1) e4;rw[List.drop_take]at this;simpa using this
theorem g7.push (n:g7 H w l id) {c:List V} (hc:c.length=2∧c.all V.one=true) (hl:l.length+1≤2147483648) :
 ∃H',gA (H++[.row 2 [c]]) (.append 2) [w,.hsl H.length 2 0 1]=some (.hsl (H.length+1) 2 0 (l.length+1),H')∧g7 H' (.hsl (H.length+1) 2 0 (l.length+1)) (l++[c]) (H.length+1)∧H'.length=H.length+2∧(∀i,i<H.length→(∀off m,w=.hsl id 2 off m→i≠id)→H'[i]? = H[i]?):=by
 have e2:ec (H++[.row 2 [c]]) 2 (.hsl H.length 2 0 1)=some [c]:=by simp[ec,Ob.rows]
 have hcs:∀c'∈l++[c],c'.length=2∧c'.all V.one=true:=fun c' h=>by
  rcases List.mem_append.1 h with h|h
  ·exact n.c c' h
  ·simp at h;subst h;exact hc
 rcases n.v with⟨rfl,rfl⟩|⟨off,xs,rfl,g2,g3,g4⟩
 ·have e1:ec (H++[.row 2 [c]]) 2 .ay=some []:=rfl;refine⟨H++[.row 2 [c]]++[.row 2 [c]],?_,⟨hcs,.inr ⟨0,[c],rfl,by simp,by simp,rfl⟩⟩,by simp,fun i hi _=>by rw[List.append_assoc,List.getElem?_append_left hi]⟩
  simp only[gA,e1,e2,iE,List.length_nil,List.length_singleton,Option.map_some];simp
 ·have hid:=(Zf.1 g2).1;have e1:ec (H++[.row 2 [c]]) 2 (.hsl id 2 off l.length)=some l:=by
   simp only[ec,if_true,List.getElem?_append_left hid,g2,Zc,Ob.rows,g3,g4]
  have eg:iE (H++[.row 2 [c]]) (.hsl id 2 off l.length)=some (List.set (H++[Ob.row 2 [c]]) id Ob.dead):=by
   simp only[iE,List.getElem?_append_left hid,g2]
  refine⟨List.set (H++[Ob.row 2 [c]]) id Ob.dead++[Ob.row 2 (l++[c])],?_,⟨hcs,.inr ⟨0,l++[c],by simp,by simp,by simp,List.take_of_length_le (by simp)⟩⟩,by simp,fun i hi h => ?_⟩
  ·simp only[gA,e1,e2,eg,List.length_singleton,hl,if_true,Option.map_some,Zk]
  ·rw[List.getElem?_append_left (by simp;omega),List.getElem?_set_ne (Ne.symm (h _ _ rfl)),List.getElem?_append_left hi]
end
noncomputable def Bo (rs:List RV):Out×St→Option aL
 | (.exit _,_)=>none
 | (_,st)=>(lX st rs).bind fun l=>match l with
  | [.own d]=>ak st.m d
  | _=>none
theorem V6 {S:Sys} {c:ck} {rs:List RV} {rc:RC} {st:St} {ob:aL} (h:jL S c (Bo rs) rc [] st=some ob):∃o st' d,bG S c rc st=some (o,st')∧(∀id,o≠.exit id)∧lX st' rs=some [.own d]∧ak st'.m d=some ob:=by
 rw[qd]at h;obtain⟨⟨o,st'⟩,h1,h2⟩:=Zi.1 h;have ho:∀id,o≠.exit id:=by rintro id rfl;simp[Bo]at h2
 have h3:(lX st' rs).bind (fun l=>match l with|[.own d]=>ak st'.m d|_=>none)=some ob:=by
  cases o with
  | exit id=>exact absurd rfl (ho id)
  | norm=>exact h2
  | ret=>exact h2
 obtain⟨l,h4,h5⟩:=Zi.1 h3;split at h5
 ·exact⟨o,st',_,h1,ho,h4,h5⟩
 ·cases h5
theorem Lz {S:Sys} {T:ql} (hT:sE S T) (hI:∀f a b xs,S.items f a b=some xs→gk S f a b xs) {f:FuncId} {rf:RF} (hf:T f=some rf) {av:List V} (hg:V.bR av=true) (hn:av.length≤rf.na) {k:Fl} {es:Nat} {xs:List (List V)}
 (hx:∀x∈xs,x.all V.scalar=true) (hk:k=.row∨k=.nil∧xs=[]) (h:jL S (fJ S T) (Bo rf.rs) rf.body [] (start (av.map .v) [])=some (.sl k es xs)) :
 ∃n y H',run S.E n (.fn f) av []=some (y,H')∧((k=.nil∧y=.ay)∨(∃id,y=.hsl id es 0 xs.length∧H'[id]? = some (.row es xs))):=by
 obtain⟨o,st',d,h1,h2,h3,h4⟩:=V6 h;have hc:fJ S T f (av.map .v) []=some ([.own d],st'.m):=by
  rw[Bq hf];unfold mB;rw[if_pos (by simpa using hn),h1]
  cases o with
  | exit id=>exact absurd rfl (h2 id)
  | norm=>simp only[h3,Option.map_some]
  | ret=>simp only[h3,Option.map_some]
 obtain⟨r0,r1⟩:=qT hg;obtain⟨n,y,H2,ν',Z',st2,F',ys,g1,rfl,g3,g4,g5,_⟩:=wg hT hI f _ _ _ _ hc _ _ av [] (.inr rfl) r0 r1;obtain⟨z,zs,rfl,e1,e2⟩:=g4.inv;have:=e2.cS;subst this;refine⟨n,_,H2,g1,?_⟩
 cases e1 with
 | own d y hy=>
  obtain⟨k',es',xs',e,hyv⟩:=hy _ h4;cases e;have hob:=g5.obj d _ (by rw[g3];exact h4)
  rcases hk with rfl|⟨rfl,rfl⟩
  ·right;simp only[en,b_,if_true]at hob;obtain⟨ys,q1,q2,q3,q4,q5⟩:=hob;obtain⟨q5,q6⟩:=q5 trivial;rw[q5,List.drop_zero,←q6,List.take_of_length_le (Nat.le_refl _)]at q3;have:xs=ys:=by
    refine List.ext_getElem q3.1 fun i p q => ?_
    have hi:=q3.2 i _ _ (Ze p) (Ze q);refine List.ext_getElem hi.1 fun j p' q' => ?_
    have hj:=hi.2 j _ _ (Ze p') (Ze q');exact((hj.scalar).1 (List.all_eq_true.1 (hx _ (List.getElem_mem p)) _ (List.getElem_mem p'))).symm
   subst this;refine⟨(ν' d).1,?_,q1⟩;show result [_]=_;rw[hyv];simp[result,rW,q5]
  ·left;exact⟨rfl,by show result [_]=_;rw[hyv];rfl⟩
theorem BN {E:Env} {f:FuncId} {av:List V} {l:List (List V)} {y:V} {H1:an} (hk:E.own f=true) (hg:V.bR av=true) (hl:∀c∈l,c.length=2∧c.all V.one=true∧c.all V.scalar=true)
 (hr:∃n,∀k,n≤k→run E k (.fn f) av []=some (y,H1)) (hy:(l=[]∧y=.ay)∨(∃id,y=.hsl id 2 0 l.length∧H1[id]? = some (.row 2 l))) (H:an) :
 ∃w X id,(∃n,∀k,n≤k→e7 E (run E k) f av H=some (w,H++X))∧g7 (H++X) w l id∧(∀off m,w=.hsl id 2 off m→id=H.length):=by
 obtain⟨n,hr⟩:=hr;have hb:∀{l:List V},V.bR l=true→borrows 8 H l=some l:=by
  intro l;unfold borrows
  induction l with
  | nil=>intro _;rfl
  | cons a l ih=>
   intro h;have h1:V.bg a=true∧V.bR l=true:=by simpa [V.bR]using h
   simp only[jl,d9 8 H (V.jI h1.1),ih h1.2]
 rcases hy with⟨rfl,rfl⟩|⟨id,rfl,hid⟩
 ·refine⟨.ay,[],0,⟨n,fun k hk' => ?_⟩,⟨fun c h=>by simp at h,.inl ⟨rfl,rfl⟩⟩,fun off m h=>by cases h⟩
  simp only[e7,hk,if_true,jr,hb hg,hr k hk',V.scalar,List.append_nil]
 ·refine⟨.hsl H.length 2 0 l.length,[.row 2 l],H.length,⟨n,fun k hk' => ?_⟩,⟨fun c h=>⟨(hl c h).1,(hl c h).2.1⟩,.inr ⟨0,l,rfl,by simp,by simp,by simp⟩⟩,fun off m h=>rfl⟩
  have hs:(l.all fun x=>x.all V.scalar)=true:=List.all_eq_true.2 fun c h=>(hl c h).2.2
  simp only[e7,hk,if_true,jr,hb hg,hr k hk',V.scalar,Bool.false_eq_true,if_false,nr,hid,hs,and_self,Option.map_some]
end Go.VE
namespace Go.VE
noncomputable def iz (t0:Trace) (x1:aa):Option Event:=
 (idx t0.procs x1.proc).bind fun x_1=>
 (idx x_1.events (IntKind.wrap .i64 (x1.index-1))).bind fun x_2=>
 some x_2
theorem tH:aR Sy cL (bq 71) (fun z:Trace×aa=>[enc z.1,enc z.2]) (fun r:Event=>[enc r]) (fun z=>iz z.1 z.2) false:=aR.yF iz.t (by
 rintro⟨t0,x1⟩;show Le ((iz t0 x1).bind _) (au _ _ _ _);unfold iz;refine dJ 2 2 t0 ?_;refine bH 10 fun x_1 h_1 => ?_
 refine bH 5 fun x_2 h_2 => ?_
 refine kZ 1 4 0 x_2 ?_;exact ah)
namespace bP
noncomputable def aM (kind1:Int) (m2:Int) (p7:Int) (tb3:Trace) (vb6:aa) (i8:Int):Option (Fw Int Unit aa):=
 (idx tb3.procs p7).bind fun x_1=>
 ao (decide (i8<(len x_1.events)))
 ((idx tb3.procs p7).bind fun x_2=>
 (idx x_2.events i8).bind fun x_3=>
 (ao (x_3.kind==kind1)
 (some (x_3.message==m2))
 (some false):Option Bool).bind fun x_4=>
 ao x_4
 (some (.r (⟨p7,IntKind.wrap .i64 (i8+1)⟩:aa)))
 (some (.n (IntKind.wrap .i64 (i8+1)))))
 (some (.x ()))
noncomputable def W2 (kind1:Int) (m2:Int) (p7:Int) (i8:Int) (tb3:Trace) (vb6:aa):Option (Fw Int Unit aa):=
 (bh (fun q:Int=>aM kind1 m2 p7 tb3 vb6 q) i8).bind (Fw.elim
 (fun e=>some (.n (IntKind.wrap .i64 (p7+1))))
 (fun e=>some (.r e)))
def d6 (kind1:Int) (m2:Int) (p7:Int) (tb3:Trace) (vb6:aa):Int→St:=fun q=>(ai [Iv 1 kind1,Iv 2 m2,Pv 3,Pv 6,Iv 7 p7,Iv 8 q] [Xb 3 tb3,Xb 6 vb6])
def d4 (kind1:Int) (m2:Int) (p7:Int) (tb3:Trace) (vb6:aa):Unit→Nat×St:=fun e=>(2,(ai [Iv 1 kind1,Iv 2 m2,Pv 3,Pv 6,Iv 7 p7] [Xb 3 tb3,Xb 6 vb6]))
def dZ (kind1:Int) (m2:Int) (p7:Int) (tb3:Trace) (vb6:aa):aa→St:=fun e=>(ai [Pv 6] [Xb 6 e])
noncomputable def aj (kind1:Int) (m2:Int) (tb3:Trace) (vb6:aa) (p7:Int):Option (Fw Int Unit aa):=
 ao (decide (p7<(len tb3.procs)))
 (W2 kind1 m2 p7 0 tb3 vb6)
 (some (.x ()))
noncomputable def W1 (kind1:Int) (m2:Int) (p7:Int) (tb3:Trace) (vb6:aa):Option aa:=
 (bh (fun q:Int=>aj kind1 m2 tb3 vb6 q) p7).bind (Fw.elim
 (fun e=>some ⟨0,0⟩)
 (fun e=>some e))
def bm (kind1:Int) (m2:Int) (tb3:Trace) (vb6:aa):Int→St:=fun q=>(ai [Iv 1 kind1,Iv 2 m2,Pv 3,Pv 6,Iv 7 q] [Xb 3 tb3,Xb 6 vb6])
def bp (kind1:Int) (m2:Int) (tb3:Trace) (vb6:aa):Unit→Nat×St:=fun e=>(0,(ai [Pv 6] [Xb 6 vb6]))
def bn (kind1:Int) (m2:Int) (tb3:Trace) (vb6:aa):aa→St:=fun e=>(ai [Pv 6] [Xb 6 e])
theorem ct (kind1:Int) (m2:Int) (p7:Int) (tb3:Trace) (vb6:aa) (i8:Int):Le ((aM kind1 m2 p7 tb3 vb6 i8).bind (fun w=>some (Fw.out (d6 kind1 m2 p7 tb3 vb6) (d4 kind1 m2 p7 tb3 vb6) (dZ kind1 m2 p7 tb3 vb6) w))) (au Sy cL some (.rc (bL t.body [1,0,1,0,0,0,0,1,0,0,1,0,0]),[],(ai [Iv 1 kind1,Iv 2 m2,Pv 3,Pv 6,Iv 7 p7,Iv 8 i8] [Xb 3 tb3,Xb 6 vb6]))):=by
 unfold aM;refine bH 8 fun x_1 h_1 => ?_
 refine bK 2 x_1.events ?_;refine aG 3 25 ?_ ?_
 ·refine bH 10 fun x_2 h_2 => ?_
  refine bH 3 fun x_3 h_3 => ?_
  refine kZ 2 9 0 x_3 ?_;refine aY 9 5 [] (fun x_4=>(ai [Iv 1 kind1,Iv 2 m2,Pv 3,Pv 6,Iv 7 p7,Iv 8 i8,Bv 25 true,Bv 46 x_4] [Xb 3 tb3,Xb 6 vb6,Xb 9 x_3])) ?_ fun x_4 => ?_
  ·refine aG 9 41 ?_ ?_
   ·exact aC 5
   ·exact aC 5
  ·refine aG 2 46 ?_ ?_
   ·exact ah
   ·exact ah
 ·exact ah
theorem fK (kind1:Int) (m2:Int) (p7:Int) (i8:Int) (tb3:Trace) (vb6:aa):Le ((W2 kind1 m2 p7 i8 tb3 vb6).bind (fun w=>some (Fw.out (bm kind1 m2 tb3 vb6) (bp kind1 m2 tb3 vb6) (bn kind1 m2 tb3 vb6) w))) (au Sy cL some (bD t.body [1,0,1,0,0,0,0,1,0,0,1,0,0] [] (ai [Iv 1 kind1,Iv 2 m2,Pv 3,Pv 6,Iv 7 p7,Iv 8 i8] [Xb 3 tb3,Xb 6 vb6]))):=by
 unfold W2;refine cu (d6 kind1 m2 p7 tb3 vb6) (d4 kind1 m2 p7 tb3 vb6) (dZ kind1 m2 p7 tb3 vb6) (fun q=>ct kind1 m2 p7 tb3 vb6 q) ?_ ?_
 ·intro e;exact ah
 ·intro e;exact ah
theorem aF (kind1:Int) (m2:Int) (tb3:Trace) (vb6:aa) (p7:Int):Le ((aj kind1 m2 tb3 vb6 p7).bind (fun w=>some (Fw.out (bm kind1 m2 tb3 vb6) (bp kind1 m2 tb3 vb6) (bn kind1 m2 tb3 vb6) w))) (au Sy cL some (.rc (bL t.body [1,0,1,0,0]),[],(ai [Iv 1 kind1,Iv 2 m2,Pv 3,Pv 6,Iv 7 p7] [Xb 3 tb3,Xb 6 vb6]))):=by
 unfold aj;refine bK 7 tb3.procs ?_;refine aG 3 14 ?_ ?_
 ·exact bZ 12 (fK kind1 m2 p7 0 tb3 vb6)
 ·exact ah
theorem bW (kind1:Int) (m2:Int) (p7:Int) (tb3:Trace) (vb6:aa):Le ((W1 kind1 m2 p7 tb3 vb6).bind (fun r=>some [enc r])) (au Sy cL (c6 t.rs) (bD t.body [1,0,1,0,0] [] (ai [Iv 1 kind1,Iv 2 m2,Pv 3,Pv 6,Iv 7 p7] [Xb 3 tb3,Xb 6 vb6]))):=by
 unfold W1;refine cu (bm kind1 m2 tb3 vb6) (bp kind1 m2 tb3 vb6) (bn kind1 m2 tb3 vb6) (fun q=>aF kind1 m2 tb3 vb6 q) ?_ ?_
 ·intro e;exact ah
 ·intro e;exact ah
end bP
noncomputable def bP (t0:Trace) (kind1:Int) (m2:Int):Option aa:=
 bP.W1 kind1 m2 0 t0 (⟨0,0⟩:aa)
open bP in
theorem gU:aR Sy cL (bq 72) (fun z:Trace×Int×Int=>[enc z.1,.int .i64 z.2.1,.int .i64 z.2.2]) (fun r:aa=>[enc r]) (fun z=>bP z.1 z.2.1 z.2.2) true:=aR.dA bP.t (by
 rintro⟨t0,kind1,m2⟩;show Le ((bP t0 kind1 m2).bind _) (au _ _ _ _);unfold bP;refine dJ 2 3 t0 ?_;exact bZ 11 (bW kind1 m2 0 t0 (⟨0,0⟩:aa)))
namespace bO
noncomputable def J1 (out5:Sl aa) (tb2:Trace) (xb3:aa):Option (Sl aa):=
 (iz tb2 xb3).bind fun x_1=>
 ao (x_1.kind==3)
 ((bP tb2 2 x_1.message).bind fun x_2=>
 (gI out5 (x_2:aa)).bind fun x_3=>
 some x_3)
 (some out5)
theorem jB (out5:Sl aa) (tb2:Trace) (xb3:aa):Le ((J1 out5 tb2 xb3).bind (fun r=>some (dF r))) (au Sy cL (Bo t.rs) (bD t.body [1,1,1,0,0] [] (ai [Pv 2,Pv 3,Ov 5] [Xb 2 tb2,Xb 3 xb3,Lb 2005 out5]))):=by
 unfold J1;refine aV 4 tH (tb2,xb3) fun x_1 h_1 => ?_
 refine kZ 1 6 0 x_1 ?_;refine aG 10 24 ?_ ?_
 ·refine aV 6 gU (tb2,2,x_1.message) fun x_2 h_2 => ?_
  refine tu 1 2005 30 31 fun x_3 h_3 => ?_
  exact ah
 ·exact ah
end bO
noncomputable def bO (t0:Trace) (x1:aa):Option (Sl aa):=
 ao (decide (x1.index>1))
 (bO.J1 (Sl.row [⟨x1.proc,IntKind.wrap .i64 (x1.index-1)⟩]:Sl aa) t0 x1)
 (bO.J1 (Sl.nil:Sl aa) t0 x1)
open bO in
theorem tN (t0:Trace) (x1:aa):Le ((bO t0 x1).bind fun r=>some (dF r)) (au Sy cL (Bo bO.t.rs) (.rc bO.t.body,[],start ([enc t0,enc x1].map .v) [])):=by
 unfold bO;refine dJ 2 2 t0 ?_;refine aG 17 9 ?_ ?_
 ·refine Jf 10 17 18 .ay (⟨x1.proc,IntKind.wrap .i64 (x1.index-1)⟩:aa) ?_;exact bZ 5 (jB (Sl.row [⟨x1.proc,IntKind.wrap .i64 (x1.index-1)⟩]:Sl aa) t0 x1)
 ·exact bZ 5 (jB (Sl.nil:Sl aa) t0 x1)
noncomputable def kh (dir:aa→Option (Sl aa)):List (List Bool)×List aa→Option (Fw (List (List Bool)×List aa) (List (List Bool)) Empty)
 | (out,[])=>some (.x out)
 | (out,y::rest)=>if 0≤y.proc∧0≤y.index then(out[y.proc.toNat]?).bind fun row=>(row[y.index.toNat]?).bind fun b=>
  ao b (some (.n (out,rest))) ((dir y).bind fun more=>if rest.length+more.l.length≤2147483648 then some (.n (out.set y.proc.toNat (row.set y.index.toNat true),rest++more.l))else none)else none
def e8 (t:Trace):List (List Bool):=t.procs.l.map fun P=>List.replicate (P.events.l.length+1) false
def uC (t:Trace):Bool:=decide (t.procs.l.length≤2147483648)&&t.procs.l.all fun P=>decide (P.events.l.length+1≤2147483648)
def nested (out:List (List Bool)):Sl (Sl Bool):=if out=[]then .nil else .row (out.map .row)
noncomputable def kC (t:Trace) (x:aa):Option (Sl (Sl Bool)):=
 if uC t then(bO t x).bind fun s=>(bh (kh (bO t)) (e8 t,s.l)).bind (Fw.elim (fun out=>some (nested out)) (fun e=>Empty.elim e))else none
end Go.VE
namespace Go.VE
namespace pastX
def r1:List RO:=[o2 2 (.a .box) [0] [],o2 3 (.a .box) [1] [],o1 4 (.k (.ay)) []]
def r2:List RO:=[o1 5 (.k (.ay)) []]
def r3:List RO:=[o1 6 (.k (.int .i64 0)) []]
def r4:List RO:=[o1 11 6 [],o2 12 (fa 0) [2] [],o2 13 (ld 1) [12] [],o2 14 ln [13] [],o2 15 (bI .lss) [11,14] []]
def r5:List RO:=[o1 18 5 [],o2 19 (fa 0) [2] [],o2 20 (ld 1) [19] [],o1 21 6 [],o2 22 (ix 3) [20,21] [],o2 23 (fa 2) [22] [],o2 24 (ld 1) [23] [],o2 25 ln [24] [],o2 26 (bI .add) [25,.k (.int .i64 1)] [],o2 27 (.a (.makeSl 1 [.bool false])) [26,26] [],o2 28 (.a (.buildSl 1 1 [.ay] [0])) [27] [],o2 29 (.l (.append 1)) [18,28] [],o1 5 29 []]
def r6:List RO:=[o1 16 6 [],o2 17 (bI .add) [16,.k (.int .i64 1)] [],o1 6 17 []]
def L1:RC:=.seq (.seq (.ops r4) (.cond (.s 15) (.skip) (.exit 0))) (.seq (.block 1 (.ops r5)) (.ops r6))
def r7:List RO:=[o2 30 (lD 1) [2] [],o2 31 (lD 2) [3] [],o2 32 .c [.f 75,30,31] [],o1 7 32 []]
def r8:List RO:=[o1 33 7 [],o2 34 ln [33] [],o2 35 (bI .gtr) [34,.k (.int .i64 0)] []]
def r9:List RO:=[o1 36 7 [],o2 37 (ix 2) [36,.k (.int .i64 0)] [],o2 38 (lD 2) [37] [],o2 8 (.a (.alloc 2 [.int .i64 0,.int .i64 0])) [] [],oz (su 2) [8,38] []]
def Ss:List RO:=[o1 39 7 [],o2 40 (.p (.slice 2 true false)) [39,.k (.int .i64 1)] [],o1 7 40 []]
def R6:List RO:=[o1 41 5 [],o2 42 (fa 0) [8] [],o2 43 (ld 1) [42] [],o2 44 (ix 1) [41,43] [],o2 45 (ld 1) [44] [],o2 46 (fa 1) [8] [],o2 47 (ld 1) [46] [],on 48 (ix 1) [45,47] [],on 49 (ld 1) [48] []]
def Sb:List RO:=[o1 50 5 [],o2 51 (fa 0) [8] [],o2 52 (ld 1) [51] [],o2 53 (ix 1) [50,52] [],o2 54 (ld 1) [53] [],o2 55 (fa 1) [8] [],o2 56 (ld 1) [55] [],on 57 (ix 1) [54,56] [],oy (su 1) [57,.k (.bool true)] []]
def So:List RO:=[o2 58 (lD 1) [2] [],o2 59 (lD 2) [8] [],o2 60 .c [.f 75,58,59] [],o1 9 60 []]
def Ml:List RO:=[o1 10 (.k (.int .i64 0)) []]
def Sz:List RO:=[o1 61 10 [],o1 62 9 [],o2 63 ln [62] [],o2 64 (bI .lss) [61,63] []]
def Rq:List RO:=[o1 67 7 [],o1 68 9 [],o1 69 10 [],o2 70 (ix 2) [68,69] [],o2 71 (lD 2) [70] [],o2 72 (.a (.buildSl 2 1 [.int .i64 0,.int .i64 0] [0])) [71] [],o2 73 (.l (.append 2)) [67,72] [],o1 7 73 []]
def RN:List RO:=[o1 65 10 [],o2 66 (bI .add) [65,.k (.int .i64 1)] [],o1 10 66 []]
def L3:RC:=.seq (.seq (.ops Sz) (.cond (.s 64) (.skip) (.exit 4))) (.seq (.block 5 (.ops Rq)) (.ops RN))
def L2:RC:=.seq (.seq (.ops r8) (.cond (.s 35) (.skip) (.exit 2))) (.block 3 (.seq (.ops r9) (.seq (.ops Ss) (.seq (.seq (.gb R6) (.cond (.s 49) (.exit 3) (.skip))) (.seq (.gb Sb) (.seq (.ops So) (.seq (.ops Ml) (.block 4 (.loop L3)))))))))
def Q0:List RO:=[o1 74 5 [],o1 4 74 []]
def code:RC:=.seq (.ops r1) (.seq (.ops r2) (.seq (.seq (.ops r3) (.block 0 (.loop L1))) (.seq (.ops r7) (.seq (.block 2 (.loop L2)) (.seq (.ops Q0) (.ret))))))
noncomputable abbrev qm:=Go.Proofs.Ytnfakljmdnbipaa.E
def gW (out:List (List Bool)):List (List V):=out.map fun r=>r.map V.bool
theorem shape:∃fi,qm.ft (bq 172)=some fi∧aP ⟨qm,bM,fi.ntmps⟩ false fi.body=some code∧2≤fi.ntmps∧fi.results=[.tmp 4]:=by
 have h:((qm.ft (bq 172)).map fun fi=>(aP ⟨qm,bM,fi.ntmps⟩ false fi.body,Nat.ble 2 fi.ntmps,fi.results))=some (some code,true,[.tmp 4]):=by kernel_rfl
 obtain⟨fi,h1,h2⟩:=Zh.1 h;simp only[Zd]at h2;exact⟨fi,h1,h2.1,Nat.le_of_ble_eq_true h2.2.1,h2.2.2⟩
section
variable {E:Env} {N:Nat→FuncId} {t:Trace} {x:aa} {k:Nat} {F:Frame} {H H1:an} {call:dN} {b:Option Nat}
theorem lC {o:RO} {l:List RO} {v:V} {r:Frame×an} (hg:o.gd=none) (hv:cP E N call b o.now o.k (o.as.map (bJ N F)) H=some (v,H1)) (h:e_ E N call b l (br F o.dst v) H1=some r):e_ E N call b (o::l) F H=some r:=by
 simp only[e_,hg,hv];exact h
theorem vp {o:RO} {l:List RO} {v:V} {r:Frame×an} (hg:o.gd=none) (hv:cP E N call b o.now o.k (o.as.map (bJ N F)) H=some (v,H)) (h:e_ E N call b l (br F o.dst v) H=some r):e_ E N call b (o::l) F H=some r:=lC hg hv h
theorem mM:e_ E N call b [] F H=some (F,H):=rfl
theorem Rp (h:H[0]? = some (.row 1 [cells t])):fu H (.load 1 false) [.hptr 0 0 0]=some (cU t.procs):=by
 simp[fu,dX,h,Ob.rows];rfl
theorem TG {s:Sl aS} {p:aS} {i:Nat} (h:s.l[i]? = some p):kO 3 (cU s) (i:Int)=some (.fptr (cells p)):=by
 have:=De (N:=fun n=>n) s .i64 (i:Int) 3 rfl
 simp only[aI]at this;rw[this,show idx s (i:Int)=some p from by unfold idx;rw[if_pos (by omega)];exact h];rfl
theorem x4 (f2:get F 2=.hptr 0 0 0) (f6:get F 6=.int .i64 k) (h0:H[0]? = some (.row 1 [cells t])) :
 ∃F',e_ E N call none r4 F H=some (F',H)∧get F' 15=.bool (decide (k<t.procs.l.length))∧(∀s,s<11→get F' s=get F s):=by
 refine⟨_,vp (v:=.int .i64 k) rfl ?_ <| vp (v:=.hptr 0 0 0) rfl ?_ <| vp (v:=cU t.procs) rfl ?_ <| vp (v:=.int .i64 t.procs.l.length) rfl ?_ <| vp (v:=.bool (decide (k<t.procs.l.length))) rfl ?_ mM,?_,?_⟩
 ·simp[cP,bJ,aI,f6]
 ·simp[cP,bJ,aI,br,f2,h_]
 ·simp only[cP,List.map_cons,List.map_nil,bJ,br,aX,Nat.reduceEqDiff,if_true,if_false];rw[Rp h0];rfl
 ·simp only[cP,List.map_cons,List.map_nil,bJ,br,aX,Nat.reduceEqDiff,if_true,if_false];rw[wm];rfl
 ·simp[cP,bJ,aI,br,jK,qA]
 ·simp[br]
 ·intro s hs;simp only[br,aX]
  repeat (rw[if_neg (by omega)])
theorem Cc {n:Nat} (h:n≤2147483648):IntKind.wrap .i64 ((n:Int)+1)=((n+1:Nat):Int):=by
 simp[IntKind.wrap,IntKind.bits,IntKind.signed];omega
theorem x5 {P:aS} {o:Nat} {ids:List Nat} {rows:List (List V)} (f2:get F 2=.hptr 0 0 0) (f6:get F 6=.int .i64 k) (h0:H[0]? = some (.row 1 [cells t])) (hP:t.procs.l[k]? = some P) (hl:P.events.l.length+1≤2147483648)
 (hn:jd H (get F 5) o ids rows) (hr:rows.length+1≤2147483648) :
 ∃F' H',e_ E N call none r5 F H=some (F',H')∧jd H' (get F' 5) (H.length+2) (ids++[H.length]) (rows++[List.replicate (P.events.l.length+1) (.bool false)])∧H.length≤H'.length∧(∀id,id<H.length→id≠o∨rows=[]→H'[id]? = H[id]?)∧(∀s,s<11→s≠5→get F' s=get F s):=by
 obtain⟨H',p1,p2,p3,p4⟩:=hn.push (List.replicate (P.events.l.length+1) (.bool false)) hr;have hrep:gn (List.replicate (P.events.l.length+1) (V.bool false))=List.replicate (P.events.l.length+1) [.bool false]:=by simp[gn]
 rw[hrep,List.length_replicate]at p1;have hb:=Cc (n:=P.events.l.length) (by omega)
 refine⟨_,H',vp (v:=get F 5) rfl ?_ <| vp (v:=.hptr 0 0 0) rfl ?_ <| vp (v:=cU t.procs) rfl ?_ <| vp (v:=.int .i64 k) rfl ?_ <| vp (v:=.fptr (cells P)) rfl ?_ <| vp (v:=.fptr [cU P.events]) rfl ?_ <| vp (v:=cU P.events) rfl ?_ <|
  vp (v:=.int .i64 P.events.l.length) rfl ?_ <| vp (v:=.int .i64 ((P.events.l.length+1:Nat):Int)) rfl ?_ <| lC (v:=.hsl H.length 1 0 (P.events.l.length+1)) (H1:=H++[.row 1 (List.replicate (P.events.l.length+1) [.bool false])]) rfl ?_ <|
  lC (v:=.hsl (H.length+1) 1 0 1) (H1:=H++[.row 1 (List.replicate (P.events.l.length+1) [.bool false])]++[.row 1 [[.hsl H.length 1 0 (P.events.l.length+1)]]]) rfl ?_ <|
  lC (v:=.hsl (H.length+2) 1 0 (rows.length+1)) (H1:=H') rfl ?_ <| vp (v:=.hsl (H.length+2) 1 0 (rows.length+1)) rfl ?_ mM,?_,p3,p4,?_⟩
 ·simp[cP,bJ,aI]
 ·simp[cP,bJ,aI,br,f2,h_]
 ·simp only[cP,List.map_cons,List.map_nil,bJ,br,aX,Nat.reduceEqDiff,if_true,if_false];rw[Rp h0];rfl
 ·simp[cP,bJ,aI,br,f6]
 ·simp only[cP,List.map_cons,List.map_nil,bJ,br,aX,Nat.reduceEqDiff,if_true,if_false,aI];rw[TG hP];rfl
 ·simp only[cP,List.map_cons,List.map_nil,bJ,br,aX,Nat.reduceEqDiff,if_true,if_false,aI];rfl
 ·simp only[cP,List.map_cons,List.map_nil,bJ,br,aX,Nat.reduceEqDiff,if_true,if_false];rfl
 ·simp only[cP,List.map_cons,List.map_nil,bJ,br,aX,Nat.reduceEqDiff,if_true,if_false];rw[wm];rfl
 ·simp only[cP,List.map_cons,List.map_nil,bJ,br,aX,Nat.reduceEqDiff,if_true,if_false,aI,jK];rw[hb];rfl
 ·simp only[cP,List.map_cons,List.map_nil,bJ,br,aX,Nat.reduceEqDiff,if_true,if_false,iM];rw[if_pos ⟨trivial,trivial,by omega,by omega,by omega⟩]
  simp only[Option.map_some,Mk.val,Int.toNat_natCast]
 ·simp only[cP,List.map_cons,List.map_nil,bJ,br,aX,Nat.reduceEqDiff,if_true,if_false,iM];simp[fH,V.cells,V.one,Mk.val]
 ·simp only[cP,List.map_cons,List.map_nil,bJ,br,aX,Nat.reduceEqDiff,if_true,if_false];exact p1
 ·simp[cP,bJ,aI,br]
 ·simp only[br,aX,if_true];exact p2
 ·intro s hs h5;simp only[br,aX];rw[if_neg (Ne.symm h5)]
  repeat (rw[if_neg (by omega)])
theorem x6 (f6:get F 6=.int .i64 k) (hk:k≤2147483648):∃F',e_ E N call none r6 F H=some (F',H)∧get F' 6=.int .i64 ((k+1:Nat):Int)∧(∀s,s<11→s≠6→get F' s=get F s):=by
 have hb:=Cc hk;refine⟨_,vp (v:=.int .i64 k) rfl ?_ <| vp (v:=.int .i64 ((k+1:Nat):Int)) rfl ?_ <| vp (v:=.int .i64 ((k+1:Nat):Int)) rfl ?_ mM,?_,?_⟩
 ·simp[cP,bJ,aI,f6]
 ·simp only[cP,List.map_cons,List.map_nil,bJ,br,aX,Nat.reduceEqDiff,if_true,if_false,aI,jK];rw[hb];rfl
 ·simp[cP,bJ,aI,br]
 ·simp[br]
 ·intro s hs h6;simp only[br,aX];rw[if_neg (Ne.symm h6)]
  repeat (rw[if_neg (by omega)])
end
structure P1 (t:Trace) (x:aa) (k:Nat) (F:Frame) (H:an):Prop where
 f2:get F 2=.hptr 0 0 0
 f3:get F 3=.hptr 1 0 0
 f6:get F 6=.int .i64 k
 h0:H[0]? = some (.row 1 [cells t])
 h1:H[1]? = some (.row 2 [cells x])
 ns:∃o ids,jd H (get F 5) o ids (gW ((e8 t).take k))∧(k≠0→2≤o)∧∀id∈ids,2≤id
theorem qv (out:List (List Bool)):(gW out).length=out.length:=by simp[gW]
theorem Qv {E:Env} {N:Nat→FuncId} {t:Trace} {x:aa} (hok:uC t=true):∀(m k:Nat) (F:Frame) (H:an),k+m=t.procs.l.length→P1 t x k F H→∃F' H',pE E N L1 F H (.exit 0) F' H'∧P1 t x t.procs.l.length F' H':=by
 have hok':t.procs.l.length≤2147483648∧∀P∈t.procs.l,P.events.l.length+1≤2147483648:=by
  simpa [uC]using hok
 intro m
 induction m with
 | zero=>
  intro k F H hk p;have hk':k=t.procs.l.length:=by omega
  obtain⟨F1,e1,e2,e3⟩:=x4 (E:=E) (N:=N) (call:=fun _ _ _=>none) p.f2 p.f6 p.h0
  refine⟨F1,H,pE.stop (Ex.DD (Ex.seq (Ex.jU fun c => ?_) (Ex.AR ?_ Ex.exit)) (by simp)) (by simp),?_⟩
  ·obtain⟨F2,g1,_,_⟩:=x4 (E:=E) (N:=N) (call:=c) p.f2 p.f6 p.h0;have:e_ E N c none r4 F H=e_ E N (fun _ _ _=>none) none r4 F H:=rfl
   rw[this];exact e1
  ·show get F1 15=_;rw[e2];simp[hk']
  ·subst hk';exact⟨by rw[e3 2 (by omega)];exact p.f2,by rw[e3 3 (by omega)];exact p.f3,by rw[e3 6 (by omega)];exact p.f6,p.h0,p.h1,by rw[e3 5 (by omega)];exact p.ns⟩
 | succ m ih=>
  intro k F H hk p;have hkl:k<t.procs.l.length:=by omega
  obtain⟨o,ids,n1,n2,n3⟩:=p.ns;obtain⟨F1,e1,e2,e3⟩:=x4 (E:=E) (N:=N) (call:=fun _ _ _=>none) p.f2 p.f6 p.h0
  have hP:=Ze hkl;have hlen:((e8 t).take k).length=k:=by simp[e8];omega
  have n1':jd H (get F1 5) o ids (gW ((e8 t).take k)):=by rw[e3 5 (by omega)];exact n1
  obtain⟨F2,H2,g1,g2,g3,g4,g5⟩:=x5 (E:=E) (N:=N) (call:=fun _ _ _=>none) (by rw[e3 2 (by omega)];exact p.f2) (by rw[e3 6 (by omega)];exact p.f6) p.h0 hP (hok'.2 _ (List.getElem_mem hkl)) n1' (by rw[qv,hlen];omega)
  obtain⟨F3,q1,q2,q3⟩:=x6 (E:=E) (N:=N) (call:=fun _ _ _=>none) (H:=H2) (k:=k) (F:=F2) (by rw[g5 6 (by omega) (by omega),e3 6 (by omega)];exact p.f6) (by omega)
  have hl:=n1.lt;have h0l:=(Zf.1 p.h0).1;have h1l:=(Zf.1 p.h1).1;have hkeep:∀i,i<2→i<H.length→H2[i]? = H[i]? := fun i hi hl=>g4 i hl (by
   by_cases hk0:k=0
   ·subst hk0;right;simp[gW]
   ·left;have:=n2 hk0;omega)
  have hp3:P1 t x (k+1) F3 H2:=by
   refine⟨by rw[q3 2 (by omega) (by omega),g5 2 (by omega) (by omega),e3 2 (by omega)];exact p.f2,by rw[q3 3 (by omega) (by omega),g5 3 (by omega) (by omega),e3 3 (by omega)];exact p.f3,q2,
    by rw[hkeep 0 (by omega) h0l];exact p.h0,by rw[hkeep 1 (by omega) h1l];exact p.h1,H.length+2,ids++[H.length],?_,fun _=>by omega,fun id hid => ?_⟩
   ·rw[q3 5 (by omega) (by omega)]
    have hrows:gW ((e8 t).take (k+1))=gW ((e8 t).take k)++[List.replicate (t.procs.l[k].events.l.length+1) (.bool false)]:=by
     rw[List.take_add_one];have:(e8 t)[k]? = some (List.replicate (t.procs.l[k].events.l.length+1) false):=by simp[e8,hP]
     rw[this];simp[gW]
    rw[hrows];exact g2
   ·rcases List.mem_append.1 hid with h|h
    ·exact n3 id h
    ·simp at h;omega
  obtain⟨F',H',r1,r2⟩:=ih (k+1) F3 H2 (by omega) hp3
  refine⟨F',H',pE.step (Ex.seq (Ex.seq (Ex.jU fun c=>e1) (Ex.xq ?_ Ex.skip)) (Ex.seq (Ex.block (Ex.jU fun c=>g1)) (Ex.jU fun c=>q1))) r1,r2⟩
  show get F1 15=_;rw[e2];simp[hkl]
section
variable {E:Env} {N:Nat→FuncId} {t:Trace} {x y:aa} {F:Frame} {H:an} {call:dN}
theorem x8 {l:List (List V)} {id:Nat} (h:g7 H (get F 7) l id):∃F',e_ E N call none r8 F H=some (F',H)∧get F' 35=.bool (decide (0<l.length))∧(∀s,s<11→get F' s=get F s):=by
 refine⟨_,vp (v:=get F 7) rfl ?_ <| vp (v:=.int .i64 l.length) rfl ?_ <| vp (v:=.bool (decide (0<l.length))) rfl ?_ mM,?_,?_⟩
 ·simp[cP,bJ,aI]
 ·simp only[cP,List.map_cons,List.map_nil,bJ,br,aX,Nat.reduceEqDiff,if_true,if_false,aI,h.len,Option.map_some]
 ·simp[cP,bJ,aI,br,jK,qA]
 ·simp[br]
 ·intro s hs;simp only[br,aX]
  repeat (rw[if_neg (by omega)])
theorem x9 {l:List (List V)} {id:Nat} (h:g7 H (get F 7) (cells y::l) id):∃F',e_ E N call none r9 F H=some (F',H++[.row 2 [cells y]])∧get F' 8=.hptr H.length 0 0∧(∀s,s<11→s≠8→get F' s=get F s):=by
 obtain⟨p,p1,p2⟩:=h.get (i:=0) (c:=cells y) rfl;refine⟨_,vp (v:=get F 7) rfl ?_ <| vp (v:=p) rfl ?_ <| vp (v:=.agg (cells y)) rfl ?_ <| lC (v:=.hptr H.length 0 0) (H1:=H++[.row 2 [[.int .i64 0,.int .i64 0]]]) rfl ?_ <| lC (v:=.undef) (H1:=H++[.row 2 [cells y]]) rfl ?_ mM,?_,?_⟩
 ·simp[cP,bJ,aI]
 ·simp only[cP,List.map_cons,List.map_nil,bJ,br,aX,Nat.reduceEqDiff,if_true,if_false,aI];rw[show (0:Int)=((0:Nat):Int)from rfl,p1];rfl
 ·simp only[cP,List.map_cons,List.map_nil,bJ,br,aX,Nat.reduceEqDiff,if_true,if_false];rw[p2];rfl
 ·simp only[cP,List.map_cons,List.map_nil,bJ,br,aX,Nat.reduceEqDiff,if_true,if_false,iM,Option.map_some,Mk.val]
 ·simp only[cP,List.map_cons,List.map_nil,bJ,br,aX,Nat.reduceEqDiff,if_true,if_false];simp[gA,V.cells,V.one]
 ·simp[br]
 ·intro s hs h8;simp only[br,aX];rw[if_neg (Ne.symm h8)]
  repeat (rw[if_neg (by omega)])
theorem Wl {c:List V} {l:List (List V)} {id:Nat} (h:g7 H (get F 7) (c::l) id):∃F',e_ E N call none Ss F H=some (F',H)∧g7 H (get F' 7) l id∧(∃off m off',get F 7=.hsl id 2 off m∧get F' 7=.hsl id 2 off' l.length)∧(∀s,s<11→s≠7→get F' s=get F s):=by
 obtain⟨w',p1,p2,off,m,off',p3,p4⟩:=h.tail;refine⟨_,vp (v:=get F 7) rfl ?_ <| vp (v:=w') rfl ?_ <| vp (v:=w') rfl ?_ mM,?_,⟨off,m,off',p3,?_⟩,?_⟩
 ·simp[cP,bJ,aI]
 ·simp only[cP,List.map_cons,List.map_nil,bJ,br,aX,Nat.reduceEqDiff,if_true,if_false,aI,jS,Zc,p1,Option.map_some]
 ·simp[cP,bJ,aI,br]
 ·simp only[br,aX,if_true];exact p2
 ·simp only[br,aX,if_true];exact p4
 ·intro s hs h8;simp only[br,aX];rw[if_neg (Ne.symm h8)]
  repeat (rw[if_neg (by omega)])
theorem mN (H:an):H.take H.length=H:=List.take_length ..
theorem Lw {c:Nat} (hc:H[c]? = some (.row 2 [cells y])):fu H (.load 1 false) [.hptr c 0 0]=some (.int .i64 y.proc)∧fu H (.load 1 false) [.hptr c 0 1]=some (.int .i64 y.index)∧fu H (.load 2 true) [.hptr c 0 0]=some (enc y):=by
 refine⟨?_,?_,?_⟩ <;> simp[fu,dX,hc,Ob.rows,cut] <;> rfl
theorem Wh {c o:Nat} {ids:List Nat} {rows:List (List V)} {p j:Nat} {r:List V} {u:V} (f8:get F 8=.hptr c 0 0) (hc:H[c]? = some (.row 2 [cells y])) (hn:jd H (get F 5) o ids rows) (hp:y.proc=p) (hj:y.index=j) (hr:rows[p]? = some r) (hu:r[j]? = some u) :
 ∃F',e_ E N call (some H.length) R6 F H=some (F',H)∧get F' 49=u∧(∀s,s<11→get F' s=get F s):=by
 obtain⟨id,q0,q1,q2,q3,q4⟩:=hn.cell hr hu;obtain⟨c1,c2,_⟩:=Lw hc;rw[hp]at c1;rw[hj]at c2;refine⟨_,vp (v:=get F 5) rfl ?_ <| vp (v:=.hptr c 0 0) rfl ?_ <| vp (v:=.int .i64 p) rfl ?_ <| vp (v:=.hptr o p 0) rfl ?_ <| vp (v:=.hsl id 1 0 r.length) rfl ?_ <| vp (v:=.hptr c 0 1) rfl ?_ <| vp (v:=.int .i64 j) rfl ?_ <| vp (v:=.hptr id j 0) rfl ?_ <| vp (v:=u) rfl ?_ mM,?_,?_⟩
 ·simp[cP,bJ,aI]
 ·simp[cP,bJ,aI,br,f8,h_]
 ·simp only[cP,List.map_cons,List.map_nil,bJ,br,aX,Nat.reduceEqDiff,if_true,if_false,mN];rw[c1];rfl
 ·simp only[cP,List.map_cons,List.map_nil,bJ,br,aX,Nat.reduceEqDiff,if_true,if_false,aI];rw[q1];rfl
 ·simp only[cP,List.map_cons,List.map_nil,bJ,br,aX,Nat.reduceEqDiff,if_true,if_false,mN];rw[q2];rfl
 ·simp[cP,bJ,aI,br,f8,h_]
 ·simp only[cP,List.map_cons,List.map_nil,bJ,br,aX,Nat.reduceEqDiff,if_true,if_false,mN];rw[c2];rfl
 ·simp only[cP,List.map_cons,List.map_nil,bJ,br,aX,Nat.reduceEqDiff,if_true,if_false,aI];rw[q3];rfl
 ·simp only[cP,List.map_cons,List.map_nil,bJ,br,aX,Nat.reduceEqDiff,if_true,if_false,mN];rw[q4];rfl
 ·simp[br]
 ·intro s hs;simp only[br,aX]
  repeat (rw[if_neg (by omega)])
theorem V8 {c o:Nat} {ids:List Nat} {rows:List (List V)} {p j:Nat} {r:List V} {u:V} (f8:get F 8=.hptr c 0 0) (hc:H[c]? = some (.row 2 [cells y])) (hn:jd H (get F 5) o ids rows) (hp:y.proc=p) (hj:y.index=j) (hr:rows[p]? = some r) (hu:r[j]? = some u) :
 ∃F' H',e_ E N call (some H.length) Sb F H=some (F',H')∧jd H' (get F' 5) o ids (rows.set p (r.set j (.bool true)))∧H'.length=H.length∧(∀i,i∉ids→H'[i]? = H[i]?)∧(∀s,s<11→get F' s=get F s):=by
 obtain⟨id,q0,q1,q2,q3,q4⟩:=hn.cell hr hu;obtain⟨c1,c2,_⟩:=Lw hc;rw[hp]at c1;rw[hj]at c2;obtain⟨H',s1,s2,s3,s4⟩:=hn.set hr (Zf.1 hu).1 q0 (u:=.bool true) rfl rfl;refine⟨_,H',vp (v:=get F 5) rfl ?_ <| vp (v:=.hptr c 0 0) rfl ?_ <| vp (v:=.int .i64 p) rfl ?_ <| vp (v:=.hptr o p 0) rfl ?_ <| vp (v:=.hsl id 1 0 r.length) rfl ?_ <| vp (v:=.hptr c 0 1) rfl ?_ <| vp (v:=.int .i64 j) rfl ?_ <| vp (v:=.hptr id j 0) rfl ?_ <| lC (v:=.undef) (H1:=H') rfl ?_ mM,?_,s3,fun i hi=>s4 i fun e=>hi (e▸List.mem_of_getElem? q0),?_⟩
 ·simp[cP,bJ,aI]
 ·simp[cP,bJ,aI,br,f8,h_]
 ·simp only[cP,List.map_cons,List.map_nil,bJ,br,aX,Nat.reduceEqDiff,if_true,if_false,mN];rw[c1];rfl
 ·simp only[cP,List.map_cons,List.map_nil,bJ,br,aX,Nat.reduceEqDiff,if_true,if_false,aI];rw[q1];rfl
 ·simp only[cP,List.map_cons,List.map_nil,bJ,br,aX,Nat.reduceEqDiff,if_true,if_false,mN];rw[q2];rfl
 ·simp[cP,bJ,aI,br,f8,h_]
 ·simp only[cP,List.map_cons,List.map_nil,bJ,br,aX,Nat.reduceEqDiff,if_true,if_false,mN];rw[c2];rfl
 ·simp only[cP,List.map_cons,List.map_nil,bJ,br,aX,Nat.reduceEqDiff,if_true,if_false,aI];rw[q3];rfl
 ·simp only[cP,List.map_cons,List.map_nil,bJ,br,aX,Nat.reduceEqDiff,if_true,if_false,s1]
 ·simp only[br,aX,Nat.reduceEqDiff,if_false];exact s2
 ·intro s hs;simp only[br,aX]
  repeat (rw[if_neg (by omega)])
def AX (E:Env) (N:Nat→FuncId) (t:Trace) (dir:aa→Option (Sl aa)):Prop:=∀(y:aa) (s:Sl aa) (H:an),dir y=some s →
 ∃w X id,(∃n,∀k,n≤k→e7 E (run E k) (N 75) [enc t,enc y] H=some (w,H++X))∧g7 (H++X) w (s.l.map cells) id∧(∀off m,w=.hsl id 2 off m→id=H.length)
theorem RS {a d:Nat} (hd:E.keep (N 75)=true) {dir:aa→Option (Sl aa)} (hD:AX E N t dir) {s:Sl aa} (hs:dir y=some s) (f2:get F 2=.hptr 0 0 0) (h0:H[0]? = some (.row 1 [cells t])) {c:Nat} (hc:H[c]? = some (.row 2 [cells y])) :
 ∃w X id,g7 (H++X) w (s.l.map cells) id∧(∀off m,w=.hsl id 2 off m→id=H.length) ∧
  (get F 8=.hptr c 0 0→∃F',(∃n,∀k,n≤k→e_ E N (run E k) none So F H=some (F',H++X))∧get F' 9=w∧(∀s,s<11→s≠9→get F' s=get F s)) ∧
  (get F 3=.hptr c 0 0→∃F',(∃n,∀k,n≤k→e_ E N (run E k) none r7 F H=some (F',H++X))∧get F' 7=w∧(∀s,s<11→s≠7→get F' s=get F s)):=by
 obtain⟨w,X,id,⟨n,e1⟩,e2,e3⟩:=hD y s H hs;have ht:fu H (.load 1 true) [.hptr 0 0 0]=some (enc t):=by
  simp[fu,dX,h0,Ob.rows,cut];rfl
 obtain⟨_,_,hy⟩:=Lw hc;refine⟨w,X,id,e2,e3,fun f8=>⟨_,⟨n,fun k hk=>vp (v:=enc t) rfl ?_ <| vp (v:=enc y) rfl ?_ <| lC (v:=w) (H1:=H++X) rfl ?_ <| vp (v:=w) rfl ?_ mM⟩,?_,?_⟩,fun f3=>⟨_,⟨n,fun k hk=>vp (v:=enc t) rfl ?_ <| vp (v:=enc y) rfl ?_ <| lC (v:=w) (H1:=H++X) rfl ?_ <| vp (v:=w) rfl ?_ mM⟩,?_,?_⟩⟩
 ·simp only[cP,List.map_cons,List.map_nil,bJ,f2];rw[ht];rfl
 ·simp only[cP,List.map_cons,List.map_nil,bJ,br,aX,Nat.reduceEqDiff,if_true,if_false,f8];rw[hy];rfl
 ·simp only[cP,List.map_cons,List.map_nil,bJ,br,aX,Nat.reduceEqDiff,if_true,if_false,hd,List.nil_append,List.append_nil];exact e1 k hk
 ·simp[cP,bJ,aI,br]
 ·simp[br]
 ·intro s hs h9;simp only[br,aX];rw[if_neg (Ne.symm h9)]
  repeat (rw[if_neg (by omega)])
 ·simp only[cP,List.map_cons,List.map_nil,bJ,f2];rw[ht];rfl
 ·simp only[cP,List.map_cons,List.map_nil,bJ,br,aX,Nat.reduceEqDiff,if_true,if_false,f3];rw[hy];rfl
 ·simp only[cP,List.map_cons,List.map_nil,bJ,br,aX,Nat.reduceEqDiff,if_true,if_false,hd,List.nil_append,List.append_nil];exact e1 k hk
 ·simp[cP,bJ,aI,br]
 ·simp[br]
 ·intro s hs h9;simp only[br,aX];rw[if_neg (Ne.symm h9)]
  repeat (rw[if_neg (by omega)])
end
section
variable {E:Env} {N:Nat→FuncId} {F:Frame} {H:an} {call:dN} {i:Nat}
theorem Q9 {l:List (List V)} {id:Nat} (f10:get F 10=.int .i64 i) (h:g7 H (get F 9) l id):∃F',e_ E N call none Sz F H=some (F',H)∧get F' 64=.bool (decide (i<l.length))∧(∀s,s<11→get F' s=get F s):=by
 refine⟨_,vp (v:=.int .i64 i) rfl ?_ <| vp (v:=get F 9) rfl ?_ <| vp (v:=.int .i64 l.length) rfl ?_ <| vp (v:=.bool (decide (i<l.length))) rfl ?_ mM,?_,?_⟩
 ·simp[cP,bJ,aI,f10]
 ·simp[cP,bJ,aI,br]
 ·simp only[cP,List.map_cons,List.map_nil,bJ,br,aX,Nat.reduceEqDiff,if_true,if_false,aI,h.len,Option.map_some]
 ·simp[cP,bJ,aI,br,jK,qA]
 ·simp[br]
 ·intro s hs;simp only[br,aX]
  repeat (rw[if_neg (by omega)])
theorem V_ {l l9:List (List V)} {id id9:Nat} {c:List V} (f10:get F 10=.int .i64 i) (h:g7 H (get F 7) l id) (h9:g7 H (get F 9) l9 id9) (hc:l9[i]? = some c) (hl:l.length+1≤2147483648) :
 ∃F' H',e_ E N call none Rq F H=some (F',H')∧g7 H' (get F' 7) (l++[c]) (H.length+1)∧H'.length=H.length+2∧(∀i,i<H.length→(∀off m,get F 7=.hsl id 2 off m→i≠id)→H'[i]? = H[i]?)∧(∀s,s<11→s≠7→get F' s=get F s):=by
 have hcc:=h9.c c (List.mem_of_getElem? hc);obtain⟨p,p1,p2⟩:=h9.get hc;obtain⟨H',q1,q2,q3,q4⟩:=h.push hcc hl;refine⟨_,H',vp (v:=get F 7) rfl ?_ <| vp (v:=get F 9) rfl ?_ <| vp (v:=.int .i64 i) rfl ?_ <| vp (v:=p) rfl ?_ <| vp (v:=.agg c) rfl ?_ <| lC (v:=.hsl H.length 2 0 1) (H1:=H++[.row 2 [c]]) rfl ?_ <| lC (v:=.hsl (H.length+1) 2 0 (l.length+1)) (H1:=H') rfl ?_ <| vp (v:=.hsl (H.length+1) 2 0 (l.length+1)) rfl ?_ mM,?_,q3,q4,?_⟩
 ·simp[cP,bJ,aI]
 ·simp[cP,bJ,aI,br]
 ·simp[cP,bJ,aI,br,f10]
 ·simp only[cP,List.map_cons,List.map_nil,bJ,br,aX,Nat.reduceEqDiff,if_true,if_false,aI];rw[p1];rfl
 ·simp only[cP,List.map_cons,List.map_nil,bJ,br,aX,Nat.reduceEqDiff,if_true,if_false];rw[p2];rfl
 ·simp only[cP,List.map_cons,List.map_nil,bJ,br,aX,Nat.reduceEqDiff,if_true,if_false,iM];have h2:c.all V.one=true:=hcc.2;simp[fH,V.cells,hcc.1,Mk.val];exact fun a ha=>List.all_eq_true.1 h2 a ha
 ·simp only[cP,List.map_cons,List.map_nil,bJ,br,aX,Nat.reduceEqDiff,if_true,if_false];exact q1
 ·simp[cP,bJ,aI,br]
 ·simp only[br,aX,if_true];exact q2
 ·intro s hs h8;simp only[br,aX];rw[if_neg (Ne.symm h8)]
  repeat (rw[if_neg (by omega)])
theorem We (f10:get F 10=.int .i64 i) (hk:i≤2147483648):∃F',e_ E N call none RN F H=some (F',H)∧get F' 10=.int .i64 ((i+1:Nat):Int)∧(∀s,s<11→s≠10→get F' s=get F s):=by
 have hb:=Cc hk;refine⟨_,vp (v:=.int .i64 i) rfl ?_ <| vp (v:=.int .i64 ((i+1:Nat):Int)) rfl ?_ <| vp (v:=.int .i64 ((i+1:Nat):Int)) rfl ?_ mM,?_,?_⟩
 ·simp[cP,bJ,aI,f10]
 ·simp only[cP,List.map_cons,List.map_nil,bJ,br,aX,Nat.reduceEqDiff,if_true,if_false,aI,jK];rw[hb];rfl
 ·simp[cP,bJ,aI,br]
 ·simp[br]
 ·intro s hs h6;simp only[br,aX];rw[if_neg (Ne.symm h6)]
  repeat (rw[if_neg (by omega)])
structure P3 (l l9:List (List V)) (B i:Nat) (F:Frame) (H:an):Prop where
 f10:get F 10=.int .i64 i
 t9:∃id9,g7 H (get F 9) l9 id9∧∃id,g7 H (get F 7) l id∧(∀off m,get F 7=.hsl id 2 off m→B≤id∧∀off' m',get F 9=.hsl id9 2 off' m'→id≠id9)
 len:B≤H.length
theorem QH (l9:List (List V)) (B:Nat) (hl9:l9.length≤2147483648):∀(m i:Nat) (l:List (List V)) (F:Frame) (H:an),i+m=l9.length→l.length+m≤2147483648→P3 l l9 B i F H →
 ∃F' H',pE E N L3 F H (.exit 4) F' H'∧(∃id,g7 H' (get F' 7) (l++l9.drop i) id∧∀off m,get F' 7=.hsl id 2 off m→B≤id)∧(∀s,s<7→get F' s=get F s)∧(∀j,j<B→H'[j]? = H[j]?)∧H.length≤H'.length:=by
 intro m
 induction m with
 | zero=>
  intro i l F H hi hl p;obtain⟨id9,t9,id,t7,ap⟩:=p.t9;obtain⟨F1,e1,e2,e3⟩:=Q9 (E:=E) (N:=N) (call:=fun _ _ _=>none) p.f10 t9
  refine⟨F1,H,pE.stop (Ex.DD (Ex.seq (Ex.jU fun c=>e1) (Ex.AR ?_ Ex.exit)) (by simp)) (by simp),⟨id,?_,fun off m h => ?_⟩,fun s hs=>e3 s (by omega),fun _ _=>rfl,Nat.le_refl _⟩
  ·show get F1 64=_;rw[e2];simp;omega
  ·rw[e3 7 (by omega),List.drop_of_length_le (by omega),List.append_nil];exact t7
  ·rw[e3 7 (by omega)]at h;exact(ap off m h).1
 | succ m ih=>
  intro i l F H hi hl p;have hil:i<l9.length:=by omega
  obtain⟨id9,t9,id,t7,ap⟩:=p.t9;obtain⟨F1,e1,e2,e3⟩:=Q9 (E:=E) (N:=N) (call:=fun _ _ _=>none) p.f10 t9
  have hc:=Ze hil;have t7':g7 H (get F1 7) l id:=by rw[e3 7 (by omega)];exact t7
  have t9':g7 H (get F1 9) l9 id9:=by rw[e3 9 (by omega)];exact t9
  obtain⟨F2,H2,g1,g2,g3,g4,g5⟩:=V_ (E:=E) (N:=N) (call:=fun _ _ _=>none) (by rw[e3 10 (by omega)];exact p.f10) t7' t9' hc (by omega)
  obtain⟨F3,q1,q2,q3⟩:=We (E:=E) (N:=N) (call:=fun _ _ _=>none) (H:=H2) (i:=i) (F:=F2) (by rw[g5 10 (by omega) (by omega),e3 10 (by omega)];exact p.f10) (by omega)
  have keep:∀j,j<H.length→(∀off m,get F 7=.hsl id 2 off m→j≠id)→H2[j]? = H[j]? := fun j hj h=>g4 j hj (by rw[e3 7 (by omega)];exact h)
  have hp3:P3 (l++[l9[i]]) l9 B (i+1) F3 H2:=by
   refine⟨q2,⟨id9,?_,H.length+1,by rw[q3 7 (by omega) (by omega)];exact g2,fun off m h=>⟨by have:=p.len;omega,fun off' m' h' => ?_⟩⟩,by have:=p.len;omega⟩
   ·rw[q3 9 (by omega) (by omega),g5 9 (by omega) (by omega),e3 9 (by omega)]
    exact t9.heap fun off n hw=>keep id9 (t9.lt hw) fun off' m' hw'=>Ne.symm ((ap off' m' hw').2 off n hw)
   ·rw[q3 9 (by omega) (by omega),g5 9 (by omega) (by omega),e3 9 (by omega)]at h'
    have:=t9.lt h';omega
  obtain⟨F',H',r1,⟨id',r2,r3⟩,r4,r5,r6⟩:=ih (i+1) (l++[l9[i]]) F3 H2 (by omega) (by simp;omega) hp3
  refine⟨F',H',pE.step (Ex.seq (Ex.seq (Ex.jU fun c=>e1) (Ex.xq ?_ Ex.skip)) (Ex.seq (Ex.block (Ex.jU fun c=>g1)) (Ex.jU fun c=>q1))) r1,⟨id',?_,r3⟩,fun s hs => ?_,fun j hj => ?_,by omega⟩
  ·show get F1 64=_;rw[e2];simp[hil]
  ·rw[List.append_assoc]at r2;rw[List.drop_eq_getElem_cons hil];exact r2
  ·rw[r4 s hs,q3 s (by omega) (by omega),g5 s (by omega) (by omega),e3 s (by omega)]
  ·have:=p.len;rw[r5 j hj,keep j (by omega) fun off m h=>by have:=(ap off m h).1;omega]
end
structure P2 (t:Trace) (out:List (List Bool)) (l:List aa) (F:Frame) (H:an):Prop where
 f2:get F 2=.hptr 0 0 0
 h0:H[0]? = some (.row 1 [cells t])
 ns:∃B o ids id,jd H (get F 5) o ids (gW out)∧(out≠[]→1≤o∧o<B)∧(∀id∈ids,1≤id∧id<B)∧1≤B∧B≤H.length∧g7 H (get F 7) (l.map cells) id∧∀off m,get F 7=.hsl id 2 off m→B≤id
theorem HY (out:List (List Bool)) (p j:Nat) (row:List Bool):gW (out.set p (row.set j true))=(gW out).set p ((row.map V.bool).set j (.bool true)):=by
 simp[gW,List.map_set]
theorem BK {out:List (List Bool)}:gW out=[]↔out=[]:=by simp[gW]
theorem G2 {dir:aa→Option (Sl aa)} {out:List (List Bool)} {y:aa} {rest:List aa} {w:Fw (List (List Bool)×List aa) (List (List Bool)) Empty} (h:kh dir (out,y::rest)=some w) :
 ∃(p j:Nat) (row:List Bool) (b:Bool),y.proc=p∧y.index=j∧out[p]? = some row∧row[j]? = some b∧((b=true∧w=.n (out,rest))∨(b=false∧∃more,dir y=some more∧rest.length+more.l.length≤2147483648∧w=.n (out.set p (row.set j true),rest++more.l))):=by
 simp only[kh]at h;split at h
 ·rename_i hy;obtain⟨row,h1,h⟩:=Zi.1 h;obtain⟨b,h2,h⟩:=Zi.1 h;refine⟨y.proc.toNat,y.index.toNat,row,b,by omega,by omega,h1,h2,?_⟩
  cases b with
  | true=>left;simp only[ao]at h;exact⟨rfl,by simpa using h.symm⟩
  | false=>
   right;simp only[ao,Bool.false_eq_true,if_false]at h;obtain⟨more,h3,h⟩:=Zi.1 h;split at h
   ·rename_i hl;exact⟨rfl,more,h3,hl,by simpa using h.symm⟩
   ·cases h
 ·cases h
theorem OU {E:Env} {N:Nat→FuncId} {t:Trace} {dir:aa→Option (Sl aa)} (hd:E.keep (N 75)=true) (hD:AX E N t dir):∀(k:Nat) (out:List (List Bool)) (l:List aa) (out':List (List Bool)) (F:Frame) (H:an),
 gF (kh dir) k (out,l)=some (.x out')→P2 t out l F H→∃F' H',pE E N L2 F H (.exit 2) F' H'∧P2 t out' [] F' H':=by
 intro k
 induction k with
 | zero=>intro out l out' F H h;simp[gF]at h
 | succ k ih=>
  intro out l out' F H h p;obtain⟨B,o,ids,id,n1,n2,n3,n4,n5,t7,t8⟩:=p.ns;obtain⟨F1,e1,e2,e3⟩:=x8 (E:=E) (N:=N) (call:=fun _ _ _=>none) t7
  rw[List.length_map]at e2
  cases l with
  | nil=>
   simp only[gF,kh]at h;cases h;refine⟨F1,H,pE.stop (Ex.DD (Ex.seq (Ex.jU fun c=>e1) (Ex.AR ?_ Ex.exit)) (by simp)) (by simp),?_⟩
   ·show get F1 35=_;rw[e2];simp
   ·exact⟨by rw[e3 2 (by omega)];exact p.f2,p.h0,B,o,ids,id,by rw[e3 5 (by omega)];exact n1,n2,n3,n4,n5,by rw[e3 7 (by omega)];exact t7,by rw[e3 7 (by omega)];exact t8⟩
  | cons y rest=>
   simp only[gF]at h
   cases hst:kh dir (out,y::rest)with
   | none=>rw[hst]at h;cases h
   | some w=>
   rw[hst]at h;obtain⟨q,j,row,b,hq,hj,hrow,hb,hcase⟩:=G2 hst;have t7':g7 H (get F1 7) (cells y::rest.map cells) id:=by rw[e3 7 (by omega)];exact t7
   obtain⟨F2,g1,g2,g3⟩:=x9 (E:=E) (N:=N) (call:=fun _ _ _=>none) t7'
   have t7'':g7 (H++[.row 2 [cells y]]) (get F2 7) (cells y::rest.map cells) id:=by rw[g3 7 (by omega) (by omega)];exact t7'.more _
   obtain⟨F3,i1,i2,⟨off1,m1,off2,i3,i4⟩,i5⟩:=Wl (E:=E) (N:=N) (call:=fun _ _ _=>none) t7''
   have hcl:(H++[Ob.row 2 [cells y]])[H.length]? = some (.row 2 [cells y]):=by simp
   have f8:get F3 8=.hptr H.length 0 0:=by rw[i5 8 (by omega) (by omega)];exact g2
   have f5:get F3 5=get F 5:=by rw[i5 5 (by omega) (by omega),g3 5 (by omega) (by omega),e3 5 (by omega)]
   have f2:get F3 2=.hptr 0 0 0:=by rw[i5 2 (by omega) (by omega),g3 2 (by omega) (by omega),e3 2 (by omega)];exact p.f2
   have n5':jd (H++[.row 2 [cells y]]) (get F3 5) o ids (gW out):=by rw[f5];exact n1.more _
   have hr:(gW out)[q]? = some (row.map V.bool):=by simp[gW,hrow]
   have hu:(row.map V.bool)[j]? = some (.bool b):=by simp[hb]
   have hB8:B≤id:=by
    have:get F 7=.hsl id 2 off1 m1:=by rw[←i3,g3 7 (by omega) (by omega),e3 7 (by omega)]
    exact t8 _ _ this
   obtain⟨F4,j1,j2,j3⟩:=Wh (E:=E) (N:=N) (call:=fun _ _ _=>none) f8 hcl n5' hq hj hr hu
   have h35:bJ N F1 (.s 35)=.bool true:=by show get F1 35=_;rw[e2];simp
   rcases hcase with⟨rfl,rfl⟩|⟨rfl,more,hm,hlen,rfl⟩
   ·simp only at h;have hp2:P2 t out rest F4 (H++[.row 2 [cells y]]):=by
     refine⟨by rw[j3 2 (by omega)];exact f2,by rw[List.getElem?_append_left (Zf.1 p.h0).1];exact p.h0,B,o,ids,id,by rw[j3 5 (by omega)];exact n5',n2,n3,n4,by simp;omega,by rw[j3 7 (by omega)];exact i2,fun off m _=>hB8⟩
    obtain⟨F',H',r1,r2⟩:=ih out rest out' F4 _ h hp2;exact⟨F',H',pE.step (Ex.seq (Ex.seq (Ex.jU fun c=>e1) (Ex.xq h35 Ex.skip)) (Ex.yT (Ex.seq (Ex.jU fun c=>g1) (Ex.seq (Ex.jU fun c=>i1) (Ex.DD (Ex.seq (Ex.gb rfl fun c=>j1) (Ex.xq j2 Ex.exit)) (by simp)))))) r1,r2⟩
   ·simp only at h;have n6:jd (H++[.row 2 [cells y]]) (get F4 5) o ids (gW out):=by rw[j3 5 (by omega)];exact n5'
    obtain⟨F5,H5,k1,k2,k3,k4,k5⟩:=V8 (E:=E) (N:=N) (call:=fun _ _ _=>none) (by rw[j3 8 (by omega)];exact f8) hcl n6 hq hj hr hu
    have hnid:∀i,B≤i→i∉ids:=fun i hi hm=>by have:=(n3 i hm).2;omega
    have hc5:H5[H.length]? = some (.row 2 [cells y]):=by rw[k4 _ (hnid _ n5)];exact hcl
    have h05:H5[0]? = some (.row 1 [cells t]):=by
     rw[k4 0 (fun hm=>by have:=(n3 0 hm).1;omega),List.getElem?_append_left (Zf.1 p.h0).1];exact p.h0
    obtain⟨w9,X,id9,m1',m2,m3,_⟩:=RS (a:=0) (d:=0) (F:=F5) hd hD hm (by rw[k5 2 (by omega),j3 2 (by omega)];exact f2) h05 hc5
    obtain⟨F6,⟨nn,o1'⟩,o2',o3⟩:=m3 (by rw[k5 8 (by omega),j3 8 (by omega)];exact f8)
    have hl5:H5.length=H.length+1:=by rw[k3];simp
    have i7:get F6 7=.hsl id 2 off2 (rest.map cells).length:=by rw[o3 7 (by omega) (by omega),k5 7 (by omega),j3 7 (by omega)];exact i4
    have hidl:id<H.length:=by
     have:=t7'.lt (off:=off1) (m:=m1) (by rw[←i3,g3 7 (by omega) (by omega)])
     exact this
    have t6:g7 (H5++X) (get F6 7) (rest.map cells) id:=by
     have:get F6 7=get F3 7:=by rw[o3 7 (by omega) (by omega),k5 7 (by omega),j3 7 (by omega)]
     rw[this];refine(i2.heap (H':=H5) fun off n _=>k4 id (hnid id hB8)).more X
    have s10:∃F7,(∀c,e_ E N c none Ml F6 (H5++X)=some (F7,H5++X))∧get F7 10=.int .i64 ((0:Nat):Int)∧∀s,s<10→get F7 s=get F6 s:=
     ⟨set F6 10 (.int .i64 0),fun c=>by simp[Ml,e_,cP,bJ,aI,br],by simp,fun s hs=>by rw[aX,if_neg (by omega)]⟩
    obtain⟨F7,u1,u2,u3⟩:=s10;have hp3:P3 (rest.map cells) (more.l.map cells) B 0 F7 (H5++X):=by
     refine⟨u2,⟨id9,by rw[u3 9 (by omega),o2'];exact m1',id,by rw[u3 7 (by omega)];exact t6,fun off m hh=>⟨hB8,fun off' m' h' => ?_⟩⟩,by simp;omega⟩
     rw[u3 9 (by omega),o2']at h'
     have:=m2 off' m' h';omega
    obtain⟨F8,H8,v1,⟨id8,v2,v3⟩,v4,v5,v6⟩:=QH (E:=E) (N:=N) (more.l.map cells) B (by simp;omega) (more.l.map cells).length 0 (rest.map cells) F7 (H5++X) (by omega) (by simp;omega) hp3
    have hn8:jd H8 (get F8 5) o ids (gW (out.set q (row.set j true))):=by
     have h5:get F8 5=get F5 5:=by rw[v4 5 (by omega),u3 5 (by omega),o3 5 (by omega) (by omega)]
     rw[h5,HY];refine(k2.more X).heap (fun hne=>v5 o ?_) fun i hi=>v5 i (n3 i hi).2
     have:out≠[]:=by intro e;subst e;simp at hrow
     exact(n2 this).2
    have hp2:P2 t (out.set q (row.set j true)) (rest++more.l) F8 H8:=by
     refine⟨by rw[v4 2 (by omega),u3 2 (by omega),o3 2 (by omega) (by omega),k5 2 (by omega),j3 2 (by omega)];exact f2,?_,B,o,ids,id8,hn8,fun hne=>n2 (by intro e;subst e;simp at hrow),n3,n4,by simp at v6;omega,?_,v3⟩
     ·rw[v5 0 (by omega),List.getElem?_append_left (Zf.1 h05).1];exact h05
     ·rw[List.drop_zero]at v2;rw[List.map_append];exact v2
    obtain⟨F',H',w1,w2⟩:=ih _ _ out' F8 H8 h hp2;exact⟨F',H',pE.step (Ex.seq (Ex.seq (Ex.jU fun c=>e1) (Ex.xq h35 Ex.skip)) (Ex.block (Ex.seq (Ex.jU fun c=>g1) (Ex.seq (Ex.jU fun c=>i1) (Ex.seq (Ex.seq (Ex.gb rfl fun c=>j1) (Ex.AR j2 Ex.skip)) (Ex.seq (Ex.gb rfl fun c=>k1)
     (Ex.seq (Ex.ops ⟨nn,o1'⟩) (Ex.seq (Ex.jU u1) (Ex.yT (Ex.loop v1))))))))) ) w1,w2⟩
theorem Jm {H:an} {Z:Nat→Prop} {id:Nat} {r:List Bool} (hz:Z id) (h:H[id]? = some (.row 1 (gn (r.map V.bool)))):FR H Z (enc (Sl.row r)) (.hsl id 1 0 r.length):=by
 have hr:aq H id=some (1,gn (r.map V.bool)):=by simp[aq,h,Ob.rows]
 have he:enc (Sl.row r)=.fsl 1 (rows r):=rfl;have hl:(rows r).length=r.length:=by simp[rows]
 have hc:gn (r.map V.bool)=rows r:=by simp[gn,rows,List.map_map,Function.comp_def]
 rw[hc]at hr;rw[he,←hl];refine .fsl 1 (rows r) id 0 (rows r) hz hr (by omega) (fun i a b h1 h2 => ?_) (fun i j a b u v h1 h2 h3 h4 => ?_)
 ·rw[Nat.zero_add,h1]at h2;cases h2;rfl
 ·rw[Nat.zero_add,h1]at h2;cases h2;rw[h3]at h4;cases h4;refine .same u ?_;obtain⟨c,hc1,rfl⟩:∃c∈r,a=[V.bool c]:=by
   have:=List.mem_of_getElem? h1;simp only[rows,List.mem_map]at this;obtain⟨c,hc,rfl⟩:=this;exact⟨c,hc,rfl⟩
  have:=List.mem_of_getElem? h3;simp at this;subst this;rfl
theorem Hv {H:an} {w:V} {o:Nat} {ids:List Nat} {out:List (List Bool)} (n:jd H w o ids (gW out)):∃Z,FR H Z (enc (nested out)) w∧(∀id,Z id→(aq H id).isSome=true)∧pA H Z:=by
 have hv:=n.v
 by_cases ho:out=[]
 ·subst ho;rw[if_pos (show gW []=[]from rfl)]at hv;subst hv;exact⟨fun _=>False,.same _ rfl,fun _ h=>h.elim,⟨fun _ _ _ h=>h.elim⟩⟩
 ·have hne:gW out≠[]:=fun h=>ho (BK.1 h)
  rw[if_neg hne,qv]at hv;subst hv;have hob:=n.ob hne;have hlen:=n.len;rw[qv]at hlen;have hrow:∀(i id:Nat) (r:List Bool),ids[i]? = some id→out[i]? = some r→H[id]? = some (.row 1 (gn (r.map V.bool))):=fun i id r h1 h2=>n.r i id _ h1 (by simp[gW,h2])
  have href:∀(i:Nat) (c:List V),(refs ids (gW out))[i]? = some c→∃id r,ids[i]? = some id∧out[i]? = some r∧c=[.hsl id 1 0 r.length]:=fun i c h=>by
   have hi:=(Zf.1 h).1;rw[nY n.len,qv]at hi;have h1:=Ze (show i<ids.length from by omega)
   have h2:=Ze hi;have h3:=wL (rows:=gW out) (r:=out[i].map V.bool) h1 (by simp[gW,h2])
   rw[h]at h3;exact⟨_,_,h1,h2,by simpa using h3⟩
  have hzo:aq H o=some (1,refs ids (gW out)):=by simp[aq,hob,Ob.rows]
  have hzi:∀id∈ids,∃(r:List Bool),H[id]? = some (.row 1 (gn (r.map V.bool))):=fun id hid=>by
   obtain⟨i,hi⟩:=List.getElem?_of_mem hid;have hl:=(Zf.1 hi).1;exact⟨_,hrow i id _ hi (Ze (show i<out.length from by omega))⟩
  refine⟨fun id=>id=o∨id∈ids,?_,fun id h => ?_,⟨fun id es ys h hr c hc u hu => ?_⟩⟩
  ·have he:enc (nested out)=.fsl 1 (rows (out.map Sl.row)):=by rw[nested,if_neg ho];rfl
   have hl:(rows (out.map Sl.row)).length=out.length:=by simp[rows]
   rw[he,←hl];refine .fsl 1 _ o 0 (refs ids (gW out)) (.inl rfl) hzo (by rw[hl,nY n.len,qv];omega) (fun i a b h1 h2 => ?_) (fun i j a b u v h1 h2 h3 h4 => ?_)
   ·rw[Nat.zero_add]at h2;obtain⟨id,r,_,hr,rfl⟩:=href i b h2;simp[rows,hr]at h1;subst h1;rfl
   ·rw[Nat.zero_add]at h2;obtain⟨id,r,hid,hr,rfl⟩:=href i b h2;have ha:a=[enc (Sl.row r)]:=by simp[rows,hr]at h1;exact h1.symm
    subst ha
    cases j with
    | zero=>
     simp at h3 h4;subst h3 h4;exact Jm (.inr (List.mem_of_getElem? hid)) (hrow i id r hid hr)
    | succ j=>simp at h3
  ·rcases h with rfl|h
   ·simp[hzo]
   ·obtain⟨r,hr⟩:=hzi id h;simp[aq,hr,Ob.rows]
  ·rcases h with rfl|h
   ·rw[hzo]at hr;cases hr;obtain⟨i,hi⟩:=List.getElem?_of_mem hc;obtain⟨id,r,hid,hro,rfl⟩:=href i c hi;simp at hu;subst hu;exact⟨_,Jm (.inr (List.mem_of_getElem? hid)) (hrow i id r hid hro)⟩
   ·obtain⟨r,hr'⟩:=hzi id h;have:aq H id=some (1,gn (r.map V.bool)):=by simp[aq,hr',Ob.rows]
    rw[this]at hr;cases hr;simp only[gn,List.mem_map]at hc;obtain⟨_,⟨c',_,rfl⟩,rfl⟩:=hc;simp at hu;subst hu;exact⟨_,.same _ rfl⟩
theorem JS {t:Trace} {x:aa} {out:List (List Bool)} {s:Sl aa} {dir:aa→Option (Sl aa)} (hd:qm.keep (bq 75)=true) (hD:AX qm bq t dir) (hok:uC t=true) (hs:dir x=some s) (hw:bh (kh dir) (e8 t,s.l)=some (.x out)) :
 wz qm (bq 172) [enc t,enc x] (enc (nested out)):=by
 obtain⟨fi,g1,g2,g3,g4⟩:=shape;obtain⟨k,hk⟩:=jX.1 hw;have b1:∃F1,(∀c,e_ qm bq c none r1 [enc t,enc x] []=some (F1,[.row 1 [cells t],.row 2 [cells x]]))∧get F1 2=.hptr 0 0 0∧get F1 3=.hptr 1 0 0:=by
  refine⟨_,fun c=>lC (v:=.hptr 0 0 0) (H1:=[.row 1 [cells t]]) rfl ?_ <| lC (v:=.hptr 1 0 0) (H1:=[.row 1 [cells t],.row 2 [cells x]]) rfl ?_ <| vp (v:=.ay) rfl ?_ mM,?_,?_⟩
  ·show (iM .box [enc t]).map _=_;simp only[iM,kR,mR,if_true,Option.map_some,fE];rfl
  ·simp only[cP,List.map_cons,List.map_nil,bJ,br,aX,Nat.reduceEqDiff,if_false];show (iM .box [enc x]).map _=_;simp only[iM,kR,mR,if_true,Option.map_some,fE];rfl
  ·simp[cP,bJ,aI]
  ·simp[br]
  ·simp[br]
 obtain⟨F1,c1,c2,c3⟩:=b1;have b3:∃F3,(∀c,e_ qm bq c none r2 F1 [.row 1 [cells t],.row 2 [cells x]]=some (set F1 5 .ay,[.row 1 [cells t],.row 2 [cells x]]))∧(∀c,e_ qm bq c none r3 (set F1 5 .ay) [.row 1 [cells t],.row 2 [cells x]]=some (F3,[.row 1 [cells t],.row 2 [cells x]]))∧P1 t x 0 F3 [.row 1 [cells t],.row 2 [cells x]]:=by
  refine⟨set (set F1 5 .ay) 6 (.int .i64 0),fun c=>by simp[r2,e_,cP,bJ,aI,br],fun c=>by simp[r3,e_,cP,bJ,aI,br],by simp[c2],by simp[c3],by simp,rfl,rfl,0,[],?_,fun h=>absurd rfl h,fun id h=>by simp at h⟩
  have:get (set (set F1 5 .ay) 6 (.int .i64 0)) 5=.ay:=by simp
  rw[this,List.take_zero];exact jd.nil _ 0
 obtain⟨F3,d1,d2,d3⟩:=b3;obtain⟨F4,H4,e1,e2⟩:=Qv (E:=qm) (N:=bq) hok t.procs.l.length 0 F3 _ (by omega) d3
 obtain⟨o,ids,n1,n2,n3⟩:=e2.ns;have hlen:(e8 t).length=t.procs.l.length:=by simp[e8]
 rw[List.take_of_length_le (by omega)]at n1
 obtain⟨w,X,id,m1,m2,_,m4⟩:=RS (a:=0) (d:=0) (F:=F4) (E:=qm) (N:=bq) hd hD hs e2.f2 e2.h0 (c:=1) e2.h1;obtain⟨F5,o1,o2,o3⟩:=m4 e2.f3;have hp2:P2 t (e8 t) s.l F5 (H4++X):=by
  refine⟨by rw[o3 2 (by omega) (by omega)];exact e2.f2,by rw[List.getElem?_append_left (Zf.1 e2.h0).1];exact e2.h0,H4.length,o,ids,id,by rw[o3 5 (by omega) (by omega)];exact n1.more X,fun hne => ?_,fun i hi=>⟨by have:=n3 i hi;omega,n1.lt.2 i hi⟩,?_,by simp,by rw[o2];exact m1,fun off m h => ?_⟩
  ·have hne':gW (e8 t)≠[]:=fun h=>hne (BK.1 h)
   have:t.procs.l.length≠0:=by intro h;apply hne;exact List.eq_nil_of_length_eq_zero (by omega)
   have:=n2 this;exact⟨by omega,n1.lt.1 hne'⟩
  ·have:=(Zf.1 e2.h0).1;omega
  ·rw[o2]at h;have:=m2 off m h;omega
 obtain⟨F6,H6,p1,p2⟩:=OU hd hD k _ _ out F5 _ hk hp2;obtain⟨B,o',ids',id',q1,_⟩:=p2.ns;have l1:∃F7,(∀c,e_ qm bq c none Q0 F6 H6=some (F7,H6))∧get F7 4=get F6 5:=by
  refine⟨_,fun c=>vp (v:=get F6 5) rfl ?_ <| vp (v:=get F6 5) rfl ?_ mM,?_⟩
  ·simp[cP,bJ,aI]
  ·simp[cP,bJ,aI,br]
  ·simp[br]
 obtain⟨F7,y1,y2⟩:=l1;have hex:Ex qm bq code [enc t,enc x] [] .ret F7 H6:=
  Ex.seq (Ex.jU c1) (Ex.seq (Ex.jU d1) (Ex.seq (Ex.seq (Ex.jU d2) (Ex.yT (Ex.loop e1))) (Ex.seq (Ex.ops o1) (Ex.seq (Ex.yT (Ex.loop p1)) (Ex.seq (Ex.jU y1) Ex.ret)))))
 obtain⟨n,hrun⟩:=hex.run (nm:=bM) (DK bq (lk D5)) g1 g2 (show [enc t,enc x].length≤fi.ntmps from g3) (vs:=[get F7 4]) (by rw[g4];rfl)
 obtain⟨Z,z1,z2,z3⟩:=Hv q1;exact⟨n,get F6 5,H6,Z,by rw[hrun,y2];rfl,z1,z2,z3⟩
theorem LQ (l:List aa):∀c∈l.map (cells (α:=aa)),c.length=2∧c.all V.one=true∧c.all V.scalar=true:=fun c hc=>by
 obtain⟨e,_,rfl⟩:=List.mem_map.1 hc;exact⟨rfl,rfl,rfl⟩
theorem Pf (t:Trace):AX qm bq t (bO t):=by
 intro y s H hs;have h1:=tN t y;have h2:=h1 (dF s) (by rw[hs];rfl)
 have hg:V.bR [enc t,enc y]=true:=by simp only[V.bR,jG,Bool.and_self]
 have hkind:s.k=.row∨s.k=.nil∧rows s.l=[]:=by
  have hj:∀o z,(∃l,o=.row l)∨o=.nil→bO.J1 o t y=some z→(∃l,z=.row l)∨z=.nil:=fun o z ho hz=>by
   unfold bO.J1 at hz;obtain⟨e,_,hz⟩:=Zi.1 hz
   cases he:e.kind==3 with
   | true=>
    rw[he]at hz;obtain⟨f,_,hz⟩:=Zi.1 hz;obtain⟨q,hq,hz⟩:=Zi.1 hz;cases hz;unfold gI at hq;split at hq
    ·cases hq;exact .inl ⟨_,rfl⟩
    ·cases hq
   | false=>rw[he]at hz;cases hz;exact ho
  have:(∃l,s=.row l)∨s=.nil:=by
   unfold bO at hs
   cases hc:decide (y.index>1)with
   | true=>rw[hc]at hs;exact hj _ s (.inl ⟨_,rfl⟩) hs
   | false=>rw[hc]at hs;exact hj _ s (.inr rfl) hs
  rcases this with⟨l,rfl⟩|rfl
  ·exact .inl rfl
  ·exact .inr ⟨rfl,rfl⟩
 obtain⟨n,z,H',r1,r2⟩:=Lz Jj Db (T:=Tx) (f:=bq 75) (rf:=bO.t) (by kernel_rfl) hg (Nat.le_of_ble_eq_true rfl) (k:=s.k) (es:=2) (xs:=rows s.l) (fun c hc=>(LQ s.l c hc).2.2) hkind h2
 refine BN (l:=s.l.map cells) (y:=z) (H1:=H') (by kernel_rfl) hg (LQ s.l) ⟨n,fun k hk=>oM _ hk _ _ _ _ r1⟩ ?_ H
 rcases r2 with⟨h3,rfl⟩|⟨id,rfl,h4⟩
 ·left;cases s <;> simp[Sl.k]at h3;exact⟨rfl,rfl⟩
 ·right;exact⟨id,by simp[rows],h4⟩
end pastX
theorem Iy (t:Trace) (x:aa) (r:Sl (Sl Bool)) (h:kC t x=some r):Sy.tI (bq 172) [enc t,enc x]=some (enc r):=by
 unfold kC at h;split at h
 ·rename_i hok;obtain⟨s,hs,h⟩:=Zi.1 h;obtain⟨w,hw,h⟩:=Zi.1 h
  cases w with
  | n a=>exact Empty.elim a
  | r e=>exact Empty.elim e
  | x out=>
   cases h;exact Az (pastX.JS (by kernel_rfl) (pastX.Pf t) hok hs hw)
 ·cases h
end Go.VE
