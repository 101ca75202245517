/-
 EvaluateLocal says true for all arguments that together are of bulk at most 1048576, and they read behind the call as they read before: for every such argument, without a condition.
-/
import Derived.Test.YtlmckmkfopljoaaGreatDoorRows
import Derived.Test.YtlmckmkfopljoaaGreatDoorCards
import Derived.Test.YtlmckmkfopljoaaGreatDoorTie
import Derived.Deep.DeepHandedRow
import Derived.Test.YtlmckmkfopljoaaGreatDoorK1
import Derived.Test.YtlmckmkfopljoaaGreatDoorG1
set_option linter.all false
namespace Go.VE
instance:bY Var where
 wt x:=bY.wt x.name+bY.wt x.init_+1
 ok x:=bY.ok x.name/\bY.ok x.init_/\True
instance:bY Assign where
 wt x:=bY.wt x.var+bY.wt x.value+1
 ok x:=bY.ok x.var/\bY.ok x.value/\True
instance:bY Event where
 wt x:=bY.wt x.kind+bY.wt x.peer+bY.wt x.message+bY.wt x.time+bY.wt x.assign+1
 ok x:=bY.ok x.kind/\bY.ok x.peer/\bY.ok x.message/\bY.ok x.time/\bY.ok x.assign/\True
instance:bY bM where
 wt x:=bY.wt x.name+bY.wt x.vars+bY.wt x.events+1
 ok x:=bY.ok x.name/\bY.ok x.vars/\bY.ok x.events/\True
instance:bY Trace where
 wt x:=bY.wt x.procs+1
 ok x:=bY.ok x.procs/\True
instance:bY bL where
 wt x:=bY.wt x.low+bY.wt x.high+1
 ok x:=bY.ok x.low/\bY.ok x.high/\True
instance:bY br where
 wt x:=bY.wt x.t+bY.wt x.counts+bY.wt x.values+1
 ok x:=bY.ok x.t/\bY.ok x.counts/\bY.ok x.values/\True
mutual
def Pred.UX:Pred->Nat
 | ⟨f0,f1,B,D,G,f5⟩=>bY.wt f0+bY.wt f1+bY.wt B+bY.wt D+bY.wt G+Pred.Py f5+1
def Pred.Py:Sl Pred->Nat
 | .nil=>1
 | .emp=>1
 | .row l=>Pred.EN l+1
 | .part l=>Pred.EN l+1
def Pred.EN:List Pred->Nat
 | []=>0
 | x::r=>Pred.UX x+Pred.EN r
end
mutual
def Pred.UP:Pred->Prop
 | ⟨f0,f1,B,D,G,f5⟩=>bY.ok f0/\bY.ok f1/\bY.ok B/\bY.ok D/\bY.ok G/\Pred.UW f5/\True
def Pred.UW:Sl Pred->Prop
 | .nil=>True
 | .emp=>False
 | .row l=>Pred.PY l
 | .part l=>Pred.PY l
def Pred.PY:List Pred->Prop
 | []=>True
 | x::r=>Pred.UP x/\Pred.PY r
end
instance:bY Pred where
 wt:=Pred.UX
 ok:=Pred.UP
theorem Pred.CY:∀l:List Pred,Pred.EN l=(l.map bY.wt).sum
 | []=>rfl
 | x::r=>by simp only[Pred.EN,List.map_cons,List.sum_cons,Pred.CY r];rfl
theorem Pred.UZ (s:Sl Pred):Pred.Py s=bY.wt s:=by
 cases s with
 | nil=>rfl
 | emp=>rfl
 | row l=>show Pred.EN l+1=(l.map bY.wt).sum+1;rw[Pred.CY]
 | part l=>show Pred.EN l+1=(l.map bY.wt).sum+1;rw[Pred.CY]
theorem Pred.CP:∀l:List Pred,(∀x∈l,bY.ok x)->Pred.PY l
 | [],_=>trivial
 | x::r,h=>⟨h x (List.mem_cons_self ..),Pred.CP r λy B=>h y (List.mem_cons_of_mem _ B)⟩
theorem Pred.VB (s:Sl Pred) (h:bY.ok s):Pred.UW s:=by
 cases s with
 | nil=>trivial
 | emp=>exact h.2 rfl
 | row l=>exact Pred.CP l h.1
 | part l=>exact Pred.CP l h.1
end Go.VE
namespace Go.VE.YtlmckmkfopljoaaGreatDoor
open Go.Proofs Go.Proofs.YtlmckmkfopljoaaGreatDoor
instance V5:Reads Tryz.prog 9 ByteArray:=Reads.str Tryz.underlying9 (by kernel_rfl)
instance V8:Reads Tryz.prog 3 Int:=Reads.int Tryz.underlying3 (by kernel_rfl)
instance VQ:Reads Tryz.prog 116 Var:=by
 refine Reads.st Tryz.underlying116 (by kernel_rfl) rfl ?_
 intro H enc w base spare held u cs l I h;simp only[List.mapM_cons,List.mapM_nil,Option.pure_def,Option.bind_eq_bind,ζg,ζa]at h;obtain⟨z,J,L,⟨A,h1,O,rfl,rfl⟩,rfl⟩:=h;obtain⟨a0,B,k0,Q⟩:=Reads.rd (P:=Tryz.prog) (t:=9) (α:=ByteArray) (d:=z.1) (ps:=z.2) J;rw[show Tryz.prog.cellsOf 9=1 from by kernel_rfl]at B
 obtain⟨C,D,k1,S⟩:=Reads.rd (P:=Tryz.prog) (t:=3) (α:=Int) (d:=A.1) (ps:=A.2) h1;rw[show Tryz.prog.cellsOf 3=1 from by kernel_rfl]at D
 refine⟨⟨a0,C⟩,eG.fin (n:=2) (eG.seg (o:=1) (n:=1) (eG.seg (o:=0) (n:=1) (show eG (snap w) [] (cs.take 0)from by simpa using eG.nil) B) D) I,⟨k0,k1,trivial⟩,λb G=>?_⟩
 have T:=Q b G;have U:=S b G;show bY.wt a0+bY.wt C+1<=_;simp only[List.map_cons,List.map_nil,List.sum_cons,List.sum_nil];omega
instance VV:Reads Tryz.prog 46 (Sl Var):=Reads.sl (e:=116) Tryz.underlying46 (by kernel_rfl) (by decide)
instance VP:Reads Tryz.prog 114 Assign:=by
 refine Reads.st Tryz.underlying114 (by kernel_rfl) rfl ?_
 intro H enc w base spare held u cs l I h;simp only[List.mapM_cons,List.mapM_nil,Option.pure_def,Option.bind_eq_bind,ζg,ζa]at h;obtain⟨z,J,L,⟨A,h1,O,rfl,rfl⟩,rfl⟩:=h;obtain⟨a0,B,k0,Q⟩:=Reads.rd (P:=Tryz.prog) (t:=3) (α:=Int) (d:=z.1) (ps:=z.2) J;rw[show Tryz.prog.cellsOf 3=1 from by kernel_rfl]at B
 obtain⟨C,D,k1,S⟩:=Reads.rd (P:=Tryz.prog) (t:=3) (α:=Int) (d:=A.1) (ps:=A.2) h1;rw[show Tryz.prog.cellsOf 3=1 from by kernel_rfl]at D
 refine⟨⟨a0,C⟩,eG.fin (n:=2) (eG.seg (o:=1) (n:=1) (eG.seg (o:=0) (n:=1) (show eG (snap w) [] (cs.take 0)from by simpa using eG.nil) B) D) I,⟨k0,k1,trivial⟩,λb G=>?_⟩
 have T:=Q b G;have U:=S b G;show bY.wt a0+bY.wt C+1<=_;simp only[List.map_cons,List.map_nil,List.sum_cons,List.sum_nil];omega
instance VZ:Reads Tryz.prog 49 (Sl Assign):=Reads.sl (e:=114) Tryz.underlying49 (by kernel_rfl) (by decide)
instance V2:Reads Tryz.prog 51 Event:=by
 refine Reads.st Tryz.underlying51 (by kernel_rfl) rfl ?_
 intro H enc w base spare held z cs l W h;simp only[List.mapM_cons,List.mapM_nil,Option.pure_def,Option.bind_eq_bind,ζg,ζa]at h;obtain⟨A,X,Y,⟨B,h1,Z,⟨x2,h2,aa,⟨C,h3,ab,⟨D,h4,ad,rfl,rfl⟩,rfl⟩,rfl⟩,rfl⟩,rfl⟩:=h;obtain⟨a0,G,k0,b0⟩:=Reads.rd (P:=Tryz.prog) (t:=3) (α:=Int) (d:=A.1) (ps:=A.2) X;rw[show Tryz.prog.cellsOf 3=1 from by kernel_rfl]at G
 obtain⟨I,J,k1,b1⟩:=Reads.rd (P:=Tryz.prog) (t:=3) (α:=Int) (d:=B.1) (ps:=B.2) h1;rw[show Tryz.prog.cellsOf 3=1 from by kernel_rfl]at J
 obtain⟨L,O,k2,b2⟩:=Reads.rd (P:=Tryz.prog) (t:=3) (α:=Int) (d:=x2.1) (ps:=x2.2) h2;rw[show Tryz.prog.cellsOf 3=1 from by kernel_rfl]at O
 obtain⟨Q,S,k3,b3⟩:=Reads.rd (P:=Tryz.prog) (t:=3) (α:=Int) (d:=C.1) (ps:=C.2) h3;rw[show Tryz.prog.cellsOf 3=1 from by kernel_rfl]at S
 obtain⟨T,U,k4,b4⟩:=Reads.rd (P:=Tryz.prog) (t:=49) (α:=(Sl Assign)) (d:=D.1) (ps:=D.2) h4;rw[show Tryz.prog.cellsOf 49=1 from by kernel_rfl]at U
 refine⟨⟨a0,I,L,Q,T⟩,eG.fin (n:=5) (eG.seg (o:=4) (n:=1) (eG.seg (o:=3) (n:=1) (eG.seg (o:=2) (n:=1) (eG.seg (o:=1) (n:=1) (eG.seg (o:=0) (n:=1) (show eG (snap w) [] (cs.take 0)from by simpa using eG.nil) G) J) O) S) U) W,⟨k0,k1,k2,k3,k4,trivial⟩,λb u=>?_⟩
 have w0:=b0 b u;have w1:=b1 b u;have w2:=b2 b u;have w3:=b3 b u;have w4:=b4 b u;show bY.wt a0+bY.wt I+bY.wt L+bY.wt Q+bY.wt T+1<=_;simp only[List.map_cons,List.map_nil,List.sum_cons,List.sum_nil];omega
instance V0:Reads Tryz.prog 45 (Sl Event):=Reads.sl (e:=51) Tryz.underlying45 (by kernel_rfl) (by decide)
instance VR:Reads Tryz.prog 48 bM:=by
 refine Reads.st Tryz.underlying48 (by kernel_rfl) rfl ?_
 intro H enc w base spare held z cs l L h;simp only[List.mapM_cons,List.mapM_nil,Option.pure_def,Option.bind_eq_bind,ζg,ζa]at h;obtain⟨A,O,Q,⟨B,h1,S,⟨x2,T,U,rfl,rfl⟩,rfl⟩,rfl⟩:=h;obtain⟨a0,C,k0,W⟩:=Reads.rd (P:=Tryz.prog) (t:=9) (α:=ByteArray) (d:=A.1) (ps:=A.2) O;rw[show Tryz.prog.cellsOf 9=1 from by kernel_rfl]at C
 obtain⟨D,G,k1,X⟩:=Reads.rd (P:=Tryz.prog) (t:=46) (α:=(Sl Var)) (d:=B.1) (ps:=B.2) h1;rw[show Tryz.prog.cellsOf 46=1 from by kernel_rfl]at G
 obtain⟨I,J,Y,Z⟩:=Reads.rd (P:=Tryz.prog) (t:=45) (α:=(Sl Event)) (d:=x2.1) (ps:=x2.2) T;rw[show Tryz.prog.cellsOf 45=1 from by kernel_rfl]at J
 refine⟨⟨a0,D,I⟩,eG.fin (n:=3) (eG.seg (o:=2) (n:=1) (eG.seg (o:=1) (n:=1) (eG.seg (o:=0) (n:=1) (show eG (snap w) [] (cs.take 0)from by simpa using eG.nil) C) G) J) L,⟨k0,k1,Y,trivial⟩,λb u=>?_⟩
 have w0:=W b u;have w1:=X b u;have w2:=Z b u;show bY.wt a0+bY.wt D+bY.wt I+1<=_;simp only[List.map_cons,List.map_nil,List.sum_cons,List.sum_nil];omega
instance VY:Reads Tryz.prog 22 (Sl bM):=Reads.sl (e:=48) Tryz.underlying22 (by kernel_rfl) (by decide)
instance V1:Reads Tryz.prog 24 Trace:=by
 refine Reads.st Tryz.underlying24 (by kernel_rfl) rfl ?_
 intro H enc w base spare held u cs l B h;simp only[List.mapM_cons,List.mapM_nil,Option.pure_def,Option.bind_eq_bind,ζg,ζa]at h;obtain⟨z,C,D,rfl,rfl⟩:=h;obtain⟨a0,A,k0,G⟩:=Reads.rd (P:=Tryz.prog) (t:=22) (α:=(Sl bM)) (d:=z.1) (ps:=z.2) C;rw[show Tryz.prog.cellsOf 22=1 from by kernel_rfl]at A
 refine⟨⟨a0⟩,eG.fin (n:=1) (eG.seg (o:=0) (n:=1) (show eG (snap w) [] (cs.take 0)from by simpa using eG.nil) A) B,⟨k0,trivial⟩,λb I=>?_⟩
 have J:=G b I;show bY.wt a0+1<=_;simp only[List.map_cons,List.map_nil,List.sum_cons,List.sum_nil];omega
theorem R9:∀B,qz Tryz.prog 28 Pred B:=by
 intro B
 induction B using Nat.strongRecOn with
 | ind B Y=>
 cases B with
 | zero=>intro H enc w base spare held cs d ps h;simp[DataW.trod]at h
 | succ B=>
 refine qz.st Tryz.underlying28 (by kernel_rfl) ?_
 intro H enc w base spare held cs l Z h;simp only[List.mapM_cons,List.mapM_nil,Option.pure_def,Option.bind_eq_bind,ζg,ζa]at h;obtain⟨A,h0,aa,⟨C,h1,ab,⟨x2,h2,ad,⟨D,h3,ae,⟨G,h4,af,⟨x5,h5,ah,rfl,rfl⟩,rfl⟩,rfl⟩,rfl⟩,rfl⟩,rfl⟩:=h;obtain⟨a0,I,k0,b0⟩:=Reads.rd (P:=Tryz.prog) (t:=3) (α:=Int) (d:=A.1) (ps:=A.2) h0;rw[show Tryz.prog.cellsOf 3=1 from by kernel_rfl]at I
 obtain⟨J,L,k1,b1⟩:=Reads.rd (P:=Tryz.prog) (t:=3) (α:=Int) (d:=C.1) (ps:=C.2) h1;rw[show Tryz.prog.cellsOf 3=1 from by kernel_rfl]at L
 obtain⟨O,Q,k2,b2⟩:=Reads.rd (P:=Tryz.prog) (t:=3) (α:=Int) (d:=x2.1) (ps:=x2.2) h2;rw[show Tryz.prog.cellsOf 3=1 from by kernel_rfl]at Q
 obtain⟨S,T,k3,b3⟩:=Reads.rd (P:=Tryz.prog) (t:=3) (α:=Int) (d:=D.1) (ps:=D.2) h3;rw[show Tryz.prog.cellsOf 3=1 from by kernel_rfl]at T
 obtain⟨U,W,k4,b4⟩:=Reads.rd (P:=Tryz.prog) (t:=9) (α:=ByteArray) (d:=G.1) (ps:=G.2) h4;rw[show Tryz.prog.cellsOf 9=1 from by kernel_rfl]at W
 obtain⟨X,z,k5,b5⟩:=qz.UQ (t:=26) (e:=28) (α:=Pred) Tryz.underlying26 (by kernel_rfl) (by decide) (λg hg=>Y g (by omega)) (show _=some (x5.1,x5.2)from h5)
 rw[show Tryz.prog.cellsOf 26=1 from by kernel_rfl]at z
 rw[tc rfl,<-Pred.kD]at z;refine⟨⟨a0,J,O,S,U,X⟩,eG.fin (n:=6) (eG.seg (o:=5) (n:=1) (eG.seg (o:=4) (n:=1) (eG.seg (o:=3) (n:=1) (eG.seg (o:=2) (n:=1) (eG.seg (o:=1) (n:=1) (eG.seg (o:=0) (n:=1) (show eG (snap w) [] (cs.take 0)from by simpa using eG.nil) I) L) Q) T) W) z) Z,⟨k0,k1,k2,k3,k4,Pred.VB _ k5,trivial⟩,λb u=>?_⟩
 have w0:=b0 b u;have w1:=b1 b u;have w2:=b2 b u;have w3:=b3 b u;have w4:=b4 b u;have w5:=b5 b u;show bY.wt a0+bY.wt J+bY.wt O+bY.wt S+bY.wt U+Pred.Py X+1<=_;rw[Pred.UZ];simp only[List.map_cons,List.map_nil,List.sum_cons,List.sum_nil];omega
instance VU:Reads Tryz.prog 28 Pred:=Reads.of Tryz.underlying28 (by kernel_rfl) rfl R9
end Go.VE.YtlmckmkfopljoaaGreatDoor
namespace Go.VE
end Go.VE
namespace Go.VE
abbrev SO {α:Type} (m:Option α):Prop:=Wp m λ_=>True
theorem SO.ok {m:Option Bool} (h:SO m):m=some (m.getD false):=by obtain⟨a,e,_⟩:=h;rw[e];rfl
def Small (t:Trace):Prop:=t.procs.l.length<1073741824/\∀p∈t.procs.l,p.events.l.length<1073741824/\p.vars.l.length<1073741824/\p.name.size<1073741824/\(∀v∈p.vars.l,v.name.size<1073741824)/\∀e∈p.events.l,e.assign.l.length<1073741824
section
theorem Kq {s:Sl Event} {p:Event->Option Bool} {f:Event->Bool} (hp:∀x∈s.l,p x=some (f x)) (B:s.l.length<1073741824):e_ s p=some (place f s.l):=
 tA hp (by omega) (λi=>rfl)
theorem Lf {s:Sl bM} {p:bM->Option Bool} {f:bM->Bool} (hp:∀x∈s.l,p x=some (f x)) (B:s.l.length<1073741824):fJ s p=some (place f s.l):=
 tA hp (by omega) (λi=>rfl)
theorem AQ {s:Sl Var} {p:Var->Option Bool} {f:Var->Bool} (hp:∀x∈s.l,p x=some (f x)) (B:s.l.length<1073741824):eA s p=some (place f s.l):=
 tA hp (by omega) (λi=>rfl)
theorem Hy {s:Sl Assign} {p:Assign->Option Bool} {f:Assign->Bool} (hp:∀x∈s.l,p x=some (f x)) (B:s.l.length<1073741824):eS s p=some (place f s.l):=
 tA hp (by omega) (λi=>rfl)
theorem yf {s:Sl Event} {p:Event->Option Bool} {f:Event->Bool} (hp:∀x∈s.l,p x=some (f x)) (B:s.l.length<1073741824):gD s p=some (s.l.any f):=by
 unfold gD;rw[Kq hp B,ζb,tG]
theorem yJ {s:Sl bM} {p:bM->Option Bool} {f:bM->Bool} (hp:∀x∈s.l,p x=some (f x)) (B:s.l.length<1073741824):fC s p=some (s.l.any f):=by
 unfold fC;rw[Lf hp B,ζb,tG]
theorem Ap {s:Sl Var} {p:Var->Option Bool} {f:Var->Bool} (hp:∀x∈s.l,p x=some (f x)) (B:s.l.length<1073741824):fT s p=some (s.l.any f):=by
 unfold fT;rw[AQ hp B,ζb,tG]
theorem C7 {s:Sl Assign} {p:Assign->Option Bool} {f:Assign->Bool} (hp:∀x∈s.l,p x=some (f x)) (B:s.l.length<1073741824):gm s p=some (s.l.any f):=by
 unfold gm;rw[Hy hp B,ζb,tG]
theorem nW (x lo hi:Int):mg x lo hi=some (decide (lo<=x)&&decide (x<=hi)):=by
 unfold mg;rw[wG];rfl
theorem Ka {s:ByteArray} {i:Nat} (h:i<s.size):∃x,mU s (i:Int)=some x:=by
 unfold mU;rw[if_pos (by omega)]
 exact⟨_,by rw[show (s[(i:Int).toNat]?)=some s[i]from by simp[h]];rfl⟩
def vi (n:Nat) (p:Int) (e:Event):Prop:=e.kind=1\/((e.kind=2\/e.kind=3)/\0<=e.peer/\e.peer<n/\e.peer≠p/\0<=e.message/\e.message<=199)
end
end Go.VE
namespace Go.VE
def pT (t:Trace) (p k:Nat) (e:Event):Prop:=∃P,t.procs.l[p]? = some P/\P.events.l[k]? = some e
theorem sZ {p:Int} {x:aY×Event}:∀{es:List Event} {j:Int},x∈jJ p j es↔∃k:Nat,es[k]? = some x.2/\x.1=⟨p,j+k+1⟩
 | [],j=>by simp[jJ]
 | e::es,j=>by
  simp[jJ,sZ ];constructor
  .rintro (rfl|⟨k,h1,B⟩)
   .exact⟨0,rfl,by simp⟩
   .exact⟨k+1,by grind,by grind⟩
  grind
theorem tX {x:aY×Event}:∀{ps:List bM} {i:Int},x∈fS i ps↔∃(a k:Nat) (P:bM),ps[a]? = some P/\P.events.l[k]? = some x.2/\x.1=⟨i+a,k+1⟩
 | [],i=>by simp[fS]
 | p::ps,i=>by
  simp only[fS,List.mem_append,sZ,tX ];constructor
  .rintro (⟨k,h1,B⟩|⟨a,k,P,h1,B,D⟩)
   .exact⟨0,k,p,rfl,h1,by grind⟩
   .exact⟨a+1,k,P,by simp_all,B,by grind⟩
  grind
abbrev cF (t:Trace):List (aY×Event):=fS 0 t.procs.l
theorem gy {t:Trace} {x:aY×Event}:x∈cF t↔∃p k:Nat,pT t p k x.2/\x.1=⟨p,k+1⟩:=by
 rw[tX];constructor
 .rintro⟨a,k,P,h1,u,w⟩;exact⟨a,k,⟨P,h1,u⟩,by grind⟩
 .rintro⟨a,k,⟨P,h1,u⟩,w⟩;grind
theorem Gw {t:Trace} {x y:aY×Event} (B:x∈cF t) (D:y∈cF t) (h:x.1=y.1):x=y:=by
 obtain⟨p,k,⟨P,hP,hk⟩,e1⟩:=gy.1 B;obtain⟨q,j,⟨Q,u,w⟩,e2⟩:=gy.1 D
 grind
theorem ug {t:Trace} (hS:Small t):iC t=some (cF t):=by
 unfold iC;rw[if_pos];simp[ni];exact⟨by have:=hS.1;omega,λp u=>by have:=(hS.2 p u).1;omega⟩
def wC (t:Trace) (p m to:Int):Bool:=match t.procs.l[p.toNat]? with
 | some P=>P.events.l.any λe=>e.kind==2&&e.message==m&&e.peer==to
 | none=>false
theorem NZ {t:Trace} (hS:Small t) {p:Int} (B:0<=p) (h1:p<t.procs.l.length) (m to:Int):sQ t p m to=some (wC t p m to):=by
 unfold sQ;have u:p.toNat<t.procs.l.length:=by omega
 have hP:=List.getElem_mem u;rw[Si B,ζd u,ζb,yf (f:=λe=>e.kind==2&&e.message==m&&e.peer==to) (λe _=>by
  unfold o4;simp[wG]) (hS.2 _ hP).1,ζb]
 unfold wC
 grind
theorem IZ {t:Trace} {p:Nat} {m to:Int}:wC t p m to=true↔∃k e,pT t p k e/\e.kind=2/\e.message=m/\e.peer=to:=by
 unfold wC pT;rw[show (p:Int).toNat=p from rfl]
 cases hP:t.procs.l[p]? with
 | none=>simp
 | some P=>
  simp;constructor
  .rintro⟨e,u,h⟩;obtain⟨k,hk⟩:=List.getElem?_of_mem u
   grind
  grind
def ag (A:cq 200 bD) (m:Int):bD:=(A.at m).getD default
theorem Jj (A:cq 200 bD) {m:Int} (B:0<=m) (h1:m<=199):A.at m=some (ag A m):=by
 have:m.toNat<A.l.length:=by rw[A.len];omega
 unfold ag cq.at
 grind
theorem pR (A:cq 200 bD) {m m':Int} (x:bD) (B:0<=m) (h1:m<=199) (D:0<=m'):ag (A.set m x) m'=if m'=m then x else ag A m':=by
 have:m.toNat<A.l.length:=by rw[A.len];omega
 unfold ag cq.at cq.set
 grind
theorem Mw {m:Int} (B:0<=m) (h1:m<=199):ag (cq.K6 200 (⟨⟨0,0⟩,⟨0,0⟩⟩:bD)) m=⟨⟨0,0⟩,⟨0,0⟩⟩:=by
 unfold ag cq.at cq.K6
 grind
structure iX (t:Trace) (its:List (aY×Event)) (A:cq 200 bD):Prop where
 snd:∀x∈its,x.2.kind=2->(ag A x.2.message).from_=x.1
 rcv:∀x∈its,x.2.kind=3->(ag A x.2.message).to_=x.1/\wC t x.2.peer x.2.message x.1.proc=true
 fr:∀m,0<=m->m<=199->(ag A m).from_.index=0\/∃e,((ag A m).from_,e)∈its/\e.kind=2/\e.message=m
 to:∀m,0<=m->m<=199->(ag A m).to_.index=0\/∃e,((ag A m).to_,e)∈its/\e.kind=3/\e.message=m
def Jk (a b:aY×Event):Prop:=a.1.proc<b.1.proc\/a.1.proc=b.1.proc/\a.1.index<b.1.index
theorem Mc {p:Int}:∀{es:List Event} {j:Int},(jJ p j es).Pairwise Jk
 | [],_=>List.Pairwise.nil
 | e::es,j=>by
  simp only[jJ,List.pairwise_cons];refine⟨λb B=>?_,Mc⟩
  obtain⟨k,_,D⟩:=sZ.1 B;refine .inr ⟨by rw[D],?_⟩
  grind
theorem Gr:∀{ps:List bM} {i:Int},(fS i ps).Pairwise Jk
 | [],_=>List.Pairwise.nil
 | P::ps,i=>by
  simp only[fS,List.pairwise_append];refine⟨Mc,Gr,λa B b D=>.inl ?_⟩
  obtain⟨k,_,G⟩:=sZ.1 B;obtain⟨c,j,P,_,_,u⟩:=tX.1 D
  grind
theorem FB {t:Trace} {k:Nat} {x y:aY×Event} (B:(cF t)[k]? = some x) (D:y∈(cF t).take k):y.1≠x.1:=by
 obtain⟨h1,u⟩:=ζe.1 B;have w:((cF t).take k++(cF t).drop k).Pairwise Jk:=by rw[List.take_append_drop];exact Gr
 have:=(List.pairwise_append.1 w).2.2 y D x (by rw[List.drop_eq_getElem_cons h1,u];grind)
 unfold Jk at this
 grind
structure S4 (t:Trace):Prop where
 snd:∀x∈cF t,∀y∈cF t,x.2.kind=2->y.2.kind=2->x.2.message=y.2.message->x.1=y.1
 rcv:∀x∈cF t,∀y∈cF t,x.2.kind=3->y.2.kind=3->x.2.message=y.2.message->x.1=y.1
 has:∀x∈cF t,x.2.kind=3->wC t x.2.peer x.2.message x.1.proc=true
theorem iX.SE {t:Trace} {A:cq 200 bD} (h:iX t (cF t) A):S4 t:=
 ⟨λx w y z B u C=>by rw[<-h.snd x w B,<-h.snd y z u,C],λx w y z B u C=>by rw[<-(h.rcv x w B).1,<-(h.rcv y z u).1,C],λx w k=>(h.rcv x w k).2⟩
theorem BC {t:Trace} (hS:Small t) (hF:∀x∈cF t,vi t.procs.l.length x.1.proc x.2):Wp (d_ t) λr=>(r.2.2=0->∃A,r.1=some A/\iX t (cF t) A)/\(S4 t->r.2.2=0):=by
 unfold d_ jk;rw[ζb];unfold d_.E1;rw[ug hS,ζb];refine z6 (λk A=>iX t ((cF t).take k) A) ⟨by simp,by simp,λm L h1=>.inl (by rw[Mw L h1]),λm L h1=>.inl (by rw[Mw L h1])⟩ ?_ ?_
 .intro k x A hx B;have G  := List.mem_of_getElem? hx;have T:(cF t).take (k+1)=(cF t).take k++[x]:=by rw[List.take_add_one,hx];rfl
  obtain⟨p,j,aa,ab⟩:=gy.1 G;have hf:=hF x G;unfold d_.jt;rw[dH];constructor
  .intro hk;have O:x.2.kind=2:=by grind
   have u:0<=x.2.message/\x.2.message<=199:=by
    rcases hf with h|⟨_,_,_,_,h⟩
    .omega
    simp_all
   rw[Jj A u.1 u.2,ζb,dH];refine⟨λhg=>(bh _).2 ((bh _).2 ⟨λh=>(by cases h),λY=>?_⟩),λL=>?_⟩
   .rcases B.fr _ u.1 u.2 with Z|⟨e,Q,U,W⟩
    .grind
    .exact absurd (Y.snd _ (List.mem_of_mem_take Q) x G U O W) (FB hx Q)
   rw[ζb,bh,T];have X:∀y∈(cF t).take k,y.2.kind=2->y.2.message≠x.2.message:=λy hy w Q=>by
    have:=B.snd y hy w;rw[Q]at this;obtain⟨p',j',_,S⟩:=gy.1 (List.mem_of_mem_take hy)
    grind
   have nn:∀y∈(cF t).take k,y.2.kind=2\/y.2.kind=3->0<=y.2.message:=λy hy w=>by
    rcases hF y (List.mem_of_mem_take hy)with h|⟨_,_,_,_,h,_⟩
    .omega
    simp_all
   refine⟨λy hy w=>?_,λy hy z=>?_,λm C I=>?_,λm C I=>?_⟩
   .rcases List.mem_append.1 hy with hy|hy
    .rw[pR A _ u.1 u.2 (nn y hy (.inl w)),if_neg (X y hy w)];exact B.snd y hy w
    .simp at hy;subst hy;rw[pR A _ u.1 u.2 u.1,if_pos rfl]
   .rcases List.mem_append.1 hy with hy|hy
    .rw[pR A _ u.1 u.2 (nn y hy (.inr z))];have:=B.rcv y hy z
     grind
    grind
   .rw[pR A _ u.1 u.2 C];split
    .rename_i e;exact .inr ⟨x.2,by simp,O,e.symm⟩
    .exact(B.fr m C I).imp (λh=>h) λ⟨e,h1,D⟩=>⟨e,List.mem_append_left _ h1,D⟩
   .rw[pR A _ u.1 u.2 C];have:=(B.to m C I).imp (λh=>h) λ⟨e,h1,D⟩=>(⟨e,List.mem_append_left [x] h1,D⟩:∃e,((ag A m).to_,e)∈(cF t).take k++[x]/\e.kind=3/\e.message=m)
    split
    .rename_i e;subst e;omega
    omega
  .intro hk;have O  := by simpa using hk
   rw[dH];constructor
   .intro hk;have J  := by simpa using hk
    have u:0<=x.2.message/\x.2.message<=199/\0<=x.2.peer/\x.2.peer<t.procs.l.length:=by
     rcases hf with h|⟨_,h1,D,_,h3,h4⟩
     .omega
     .exact⟨h3,h4,h1,D⟩
    rw[Jj A u.1 u.2.1,ζb,dH];refine⟨λhg=>(bh _).2 ((bh _).2 ⟨λh=>(by cases h),λY=>?_⟩),λL=>?_⟩
    .rcases B.to _ u.1 u.2.1 with Z|⟨e,Q,U,W⟩
     .simp[Z]at hg
     .exact absurd (Y.rcv _ (List.mem_of_mem_take Q) x G U J W) (FB hx Q)
    have L:¬(ag A x.2.message).to_.index>0:=by simpa using L
    rw[NZ hS u.2.2.1 u.2.2.2,ζb,dH];refine⟨λhs=>?_,λhs=>(bh _).2 ((bh _).2 ⟨λh=>(by cases h),λY=>by rw[Y.has x G J]at hs;cases hs⟩)⟩
    rw[ζb,bh,T];have X:∀y∈(cF t).take k,y.2.kind=3->y.2.message≠x.2.message:=λy hy w Q=>by
     have:=(B.rcv y hy w).1;rw[Q]at this;rw[this]at L;obtain⟨p',j',_,S⟩:=gy.1 (List.mem_of_mem_take hy);rw[S]at L;exact L (by show (j':Int)+1>0;omega)
    have nn:∀y∈(cF t).take k,y.2.kind=2\/y.2.kind=3->0<=y.2.message:=λy hy w=>by
     rcases hF y (List.mem_of_mem_take hy)with h|⟨_,_,_,_,h,_⟩
     .omega
     .exact h
    refine⟨λy hy w=>?_,λy hy z=>?_,λm C I=>?_,λm C I=>?_⟩
    .rcases List.mem_append.1 hy with hy|hy
     .rw[pR A _ u.1 u.2.1 (nn y hy (.inl w))];have:=B.snd y hy w;split
      .rename_i e;rw[e]at this;exact this
      .exact this
     .simp at hy;subst hy;omega
    .rcases List.mem_append.1 hy with hy|hy
     .rw[pR A _ u.1 u.2.1 (nn y hy (.inr z)),if_neg (X y hy z)];exact B.rcv y hy z
     .simp at hy;subst hy;rw[pR A _ u.1 u.2.1 u.1,if_pos rfl];exact⟨rfl,hs⟩
    .rw[pR A _ u.1 u.2.1 C];have:=(B.fr m C I).imp (λh=>h) λ⟨e,h1,D⟩=>(⟨e,List.mem_append_left [x] h1,D⟩:∃e,((ag A m).from_,e)∈(cF t).take k++[x]/\e.kind=2/\e.message=m)
     split
     .rename_i e;subst e;exact this
     .exact this
    .rw[pR A _ u.1 u.2.1 C];split
     .rename_i e;exact .inr ⟨x.2,by simp,J,e.symm⟩
     .exact(B.to m C I).imp (λh=>h) λ⟨e,h1,D⟩=>⟨e,List.mem_append_left _ h1,D⟩
   .intro hk;have J  := by simpa using hk
    rw[bh,T];refine⟨λy hy w=>?_,λy hy z=>?_,λm C I=>?_,λm C I=>?_⟩
    .rcases List.mem_append.1 hy with hy|hy
     .exact B.snd y hy w
     .simp at hy;subst hy;exact absurd w O
    .rcases List.mem_append.1 hy with hy|hy
     .exact B.rcv y hy z
     .simp at hy;subst hy;exact absurd z J
    .exact(B.fr m C I).imp (λh=>h) λ⟨e,h1,D⟩=>⟨e,List.mem_append_left _ h1,D⟩
    .exact(B.to m C I).imp (λh=>h) λ⟨e,h1,D⟩=>⟨e,List.mem_append_left _ h1,D⟩
 .intro A hA;rw[List.take_length]at hA;exact(bh _).2 ⟨λ_=>⟨A,rfl,hA⟩,λ_=>rfl⟩
end Go.VE
namespace Go.VE
def lB (f:Nat->Bool) (k n:Nat):Bool:=(List.range' k (n-k)).any f
theorem Mq {f:Nat->Bool} {k n:Nat} (h:k<n):lB f k n=(f k||lB f (k+1) n):=by
 unfold lB;rw[show n-k=(n-(k+1))+1 from by omega,List.range'_succ];rfl
theorem NM {f:Nat->Bool} {k n:Nat} (h:n<=k):lB f k n=false:=by
 unfold lB;rw[show n-k=0 from by omega];rfl
theorem Og {f:Nat->Bool} {k n:Nat}:lB f k n=true↔∃i,k<=i/\i<n/\f i=true:=by
 unfold lB;rw[List.any_eq_true];constructor
 .rintro⟨i,hi,u⟩;rw[List.mem_range'_1]at hi;exact⟨i,hi.1,by omega,u⟩
 .rintro⟨i,h1,w,u⟩;exact⟨i,by rw[List.mem_range'_1];omega,u⟩
theorem RN {step:Int->Option (Fw Int Unit Unit)} {n:Nat} (f:Nat->Bool) (D:n<9223372036854775807) (h1:∀i:Nat,i<n->step i=some (if f i then .r ()else .n (IntKind.wrap .i64 ((i:Int)+1)))) (B:step (n:Int)=some (.x ())) :
 ∀m k:Nat,k+m=n->cE step (k:Int)=some (if lB f k n then .r ()else .x ()):=by
 intro m
 induction m with
 | zero=>
  intro k hk;have:k=n:=by omega
  subst this;rw[fq,B,NM (Nat.le_refl _)];rfl
 | succ m u=>
  intro k hk;rw[fq,h1 k (by omega),Mq (by omega)]
  cases w:f k with
  | true=>rfl
  | false=>
   simp only[Bool.false_eq_true,if_false,ζb,Bool.false_or];rw[f_ k (by omega)]
   exact u (k+1) (by omega)
def oM (g:Nat->Int) (k n:Nat):Int:=match (List.range' k (n-k)).find? λi => !(g i==0)with
 | some i=>g i
 | none=>0
theorem De {g:Nat->Int} {k n:Nat} (h:k<n):oM g k n=if g k=0 then oM g (k+1) n else g k:=by
 unfold oM;rw[show n-k=(n-(k+1))+1 from by omega,List.range'_succ,List.find?_cons]
 by_cases u:g k=0
 .simp[u]
 .rw[if_neg u,show (!(g k==0))=true from by simp[u]]
theorem Ft {g:Nat->Int} {k n:Nat} (h:n<=k):oM g k n=0:=by
 unfold oM;rw[show n-k=0 from by omega];rfl
theorem MK {g:Nat->Int} {n:Nat}:∀{m k:Nat},k+m=n->(oM g k n=0↔∀i,k<=i->i<n->g i=0):=by
 intro m
 induction m with
 | zero=>intro k hk;rw[Ft (by omega)];exact⟨λ_ i h1 u=>by omega,λ_=>rfl⟩
 | succ m z=>
  intro k hk;rw[De (by omega)]
  split
  .rename_i w;rw[z (show k+1+m=n by omega)]
   constructor
   .intro h i h1 u
    by_cases e:i=k
    .subst e;exact w
    .exact h i (by omega) u
   .intro h i h1 u;exact h i (by omega) u
  .rename_i w;exact⟨λh=>absurd h w,λh=>absurd (h k (Nat.le_refl _) (by omega)) w⟩
theorem RJ {step:Int->Option (Fw Int Unit Int)} {n:Nat} (g:Nat->Int) (D:n<9223372036854775807) (h1:∀i:Nat,i<n->step i=some (if g i=0 then .n (IntKind.wrap .i64 ((i:Int)+1))else .r (g i))) (B:step (n:Int)=some (.x ())) :
 ∀m k:Nat,k+m=n->cE step (k:Int)=some (if oM g k n=0 then .x ()else .r (oM g k n)):=by
 intro m
 induction m with
 | zero=>
  intro k hk;have:k=n:=by omega
  subst this;rw[fq,B,Ft (Nat.le_refl _)];rfl
 | succ m w=>
  intro k hk;rw[fq,h1 k (by omega),De (by omega)]
  by_cases u:g k=0
  .simp only[u,if_true,ζb];rw[f_ k (by omega)]
   exact w (k+1) (by omega)
  .simp only[u,if_false,ζb]
theorem FM {step:Int->Option (Fw Int Unit Int)} {n:Nat} (g:Nat->Int) (B:n<9223372036854775807) (h1:∀i:Nat,i<n->step i=some (if g i=0 then .n (IntKind.wrap .i64 ((i:Int)+1))else .r (g i))) (D:step (n:Int)=some (.x ())):cE step 0=some (if oM g 0 n=0 then .x ()else .r (oM g 0 n)):=RJ g B h1 D n 0 (by omega)
def CO (c:Int):Bool:=decide (c>=65)&&decide (c<=90)||decide (c>=97)&&decide (c<=122)
def Jg (c:Int):Bool:=decide (c>=48)&&decide (c<=57)
theorem Cu (c:Int):ov c=some (CO c):=by
 unfold ov CO;simp only[wG,FP,ζb];rw[Bool.or_comm]
theorem LR (c:Int):s9 c=some (Jg c):=by
 unfold s9 Jg;simp only[wG,ζb]
def Al (s:ByteArray) (i:Nat):Int:=(mU s (i:Int)).getD 0
theorem L4 {s:ByteArray} {i:Nat} (h:i<s.size):mU s (i:Int)=some (Al s i):=by
 obtain⟨x,u⟩:=Ka h;unfold Al;rw[u];rfl
def C0 (s:ByteArray) (i:Nat):Bool := !CO (Al s i) && !Jg (Al s i) && !(Al s i==95)
def qW (s:ByteArray):Bool:=decide (1<=s.size)&&decide (s.size<=16)&&CO (Al s 0) && !lB (C0 s) 0 s.size
theorem KB {s:ByteArray} {i:Nat} (h:i<s.size):fD.bK s (s.size:Int) i=some (if C0 s i then .r ()else .n (IntKind.wrap .i64 ((i:Int)+1))):=by
 unfold fD.bK C0;rw[show decide ((i:Int)<(s.size:Int))=true from by simpa using h,b8,L4 h]
 simp only[ζb,Cu,LR];cases CO (Al s i) <;> cases Jg (Al s i) <;> cases (Al s i==95) <;> rfl
theorem toList_empty {s:ByteArray}:(ByteArray.toList s==ByteArray.toList ByteArray.empty)=decide (s.size=0):=by
 rw[Bool.eq_iff_iff,beq_iff_eq,decide_eq_true_eq];constructor
 .intro h;have h1:(ByteArray.toList s).length=s.size:=by rw[Go.ByteArray.toList_eq];simp
  rw[<-h1,h];rw[Go.ByteArray.toList_eq];rfl
 .intro h;have:s=ByteArray.empty:=by
   apply ByteArray.ext;exact Array.eq_empty_of_size_eq_zero h
  rw[this]
theorem DA {s:ByteArray} (B:s.size<1073741824):fD s=some (qW s):=by
 unfold fD;rw[toList_empty];simp only[FP,ζb]
 by_cases w:s.size=0
 .simp[w,qW,bp]
 by_cases u:s.size<=16
 .have hc:(decide (s.size=0)||decide (((ByteArray.size s:Nat):Int)>16))=false:=by simp[w];omega
  rw[hc,bO,show (0:Int)=((0:Nat):Int)from rfl,L4 (show 0<s.size by omega)]
  simp only[ζb,Cu]
  cases z:CO (Al s 0)with
  | false=>simp[qW,z,bp]
  | true=>
   simp only[Bool.not_true,bO];unfold fD.W1;rw[RN (n:=s.size) (C0 s) (by omega) (λi hi=>KB hi) (by unfold fD.bK;simp[bp]) s.size 0 (by omega)]
   have:qW s = !lB (C0 s) 0 s.size:=by simp[qW,z,u];omega
   rw[this];cases lB (C0 s) 0 s.size <;> rfl
 .have hc:(decide (s.size=0)||decide (((ByteArray.size s:Nat):Int)>16))=true:=by simp;omega
  rw[hc,b8];simp[qW,u,bp]
end Go.VE
namespace Go.VE
def fO {α:Type} (l:List α) (f:α->Bool) (i:Nat):Bool:=match l[i]? with|some y=>f y|none=>false
theorem SK {α:Type} {l:List α} {f:α->Bool} {i:Nat} (h:i<l.length):fO l f i=f l[i]:=by unfold fO;rw[ζd h]
theorem A6 {α:Type} {l:List α} {f:α->Bool} {p:Nat}:(l.take p).any f=lB (fO l f) 0 p:=by
 rw[Bool.eq_iff_iff,List.any_eq_true,Og];constructor
 .rintro⟨x,w,u⟩;obtain⟨i,hi⟩:=List.getElem?_of_mem w;have z:=(ζe.1 hi).1;rw[List.length_take]at z;rw[List.getElem?_take,if_pos (by omega)]at hi
  exact⟨i,Nat.zero_le _,by omega,by unfold fO;rw[hi];exact u⟩
 .rintro⟨i,_,hi,u⟩;unfold fO at u;split at u
  .rename_i y A;exact⟨y,List.mem_of_getElem? (i:=i) (by rw[List.getElem?_take,if_pos hi];exact A),u⟩
  .cases u
def xz (a b:ByteArray):Bool:=ByteArray.toList a==ByteArray.toList b
def Tj:Bool->Bool->Bool->Int
 | true,false,true=>0
 | true,false,false=>2
 | _,_,_=>13
def w6 (P:bM) (i:Nat):Int:=match P.vars.l[i]? with
 | some v=>Tj (qW v.name) (lB (fO P.vars.l λw=>xz w.name v.name) 0 i) (decide (v.init_>=-1073741824)&&decide (v.init_<=1073741824))
 | none=>0
def wE (t:Trace) (p:Nat):Int:=match t.procs.l[p]? with
 | some P=>if qW P.name && !lB (fO t.procs.l λy=>xz y.name P.name) 0 p then
  (if P.vars.l.length>8 then 5 else if oM (w6 P) 0 P.vars.l.length=0 then(if P.events.l.length>64 then 5 else 0)else oM (w6 P) 0 P.vars.l.length)else 13
 | none=>0
theorem Lv {P:bM} {i:Nat} (h:i<P.vars.l.length):w6 P i=Tj (qW P.vars.l[i].name) (lB (fO P.vars.l λw=>xz w.name P.vars.l[i].name) 0 i) (decide (P.vars.l[i].init_>=-1073741824)&&decide (P.vars.l[i].init_<=1073741824)):=by
 unfold w6;rw[ζd h]
theorem N7 {t:Trace} (hS:Small t) {p:Nat} (hp:p<t.procs.l.length):dY t p=some (wE t p):=by
 have hP:=hS.2 _ (List.getElem_mem hp);have h1:=hS.1;unfold dY wE;rw[cn hp,ζb,ζd hp];generalize U:t.procs.l[p]=P at *;obtain⟨S,W,O,u,_⟩:=hP;rw[DA O,ζb];obtain⟨x,X,D⟩:=vE t.procs p (by omega)
 have G:fC x (λz=>iT z P)=some (lB (fO t.procs.l λy=>xz y.name P.name) 0 p):=by
  rw[yJ (p:=λz=>iT z P) (f:=λy=>xz y.name P.name) (λy _=>rfl) (by rw[D,List.length_take];omega),D,A6]
 rw[X,ζb,G,ζb];dsimp only
 cases Z:qW P.name with
 | false=>simp[bp]
 | true=>
  rw[b8,ζb,Bool.true_and]
  cases hd:lB (fO t.procs.l λy=>xz y.name P.name) 0 p with
  | true=>simp[bp]
  | false=>
   rw[bO];simp only[Bool.not_false,if_true]
   by_cases T:P.vars.l.length>8
   .rw[show decide (len P.vars>8)=true from by simp[len];omega,b8,if_pos T]
   .rw[show decide (len P.vars>8)=false from by simp[len];omega,bO,if_neg T]
    unfold dY.W1;rw[FM (n:=P.vars.l.length) (w6 P) (by omega) (λi hi=>?_) (by unfold dY.bK;simp[bp,len])]
    .by_cases L:oM (w6 P) 0 P.vars.l.length=0
     .rw[if_pos L,if_pos L];show bp (decide (len P.events>64)) (some 5) (some 0)=_;rw[NW];simp only[len,decide_eq_true_eq]
      by_cases I:P.events.l.length>64
      .rw[if_pos I,if_pos (by omega)]
      .rw[if_neg I,if_neg (by omega)]
     .rw[if_neg L,if_neg L];rfl
    .unfold dY.bK;rw[Lv hi,show decide ((i:Int)<len P.vars)=true from by simp[len];exact hi,b8,cn hi,ζb]
     have hv:=u _ (List.getElem_mem hi);obtain⟨y,Y,J⟩:=vE P.vars i (by omega)
     have Q:fT y (λz=>iP z P.vars.l[i])=some (lB (fO P.vars.l λw=>xz w.name P.vars.l[i].name) 0 i):=by
      rw[Ap (p:=λz=>iP z P.vars.l[i]) (f:=λw=>xz w.name P.vars.l[i].name) (λw _=>rfl) (by rw[J,List.length_take];omega),J,A6]
     rw[DA hv,ζb,Y,ζb,Q,ζb,nW];have hr:(decide (-1073741824<=P.vars.l[i].init_)&&decide (P.vars.l[i].init_<=1073741824))=(decide (P.vars.l[i].init_>=-1073741824)&&decide (P.vars.l[i].init_<=1073741824)):=rfl;rw[hr];generalize qW P.vars.l[i].name=A;generalize lB (fO P.vars.l λw=>xz w.name P.vars.l[i].name) 0 i=B
     generalize (decide (P.vars.l[i].init_>=-1073741824)&&decide (P.vars.l[i].init_<=1073741824))=C;cases A <;> cases B <;> cases C <;> rfl
end Go.VE
namespace Go.VE
def Iy (n:Nat) (p:Int) (e:Event):Bool:=if e.kind==1 then e.peer==0&&e.message==0 else(e.kind==2||e.kind==3)&&(decide (0<=e.peer)&&decide (e.peer<n)) && !(e.peer==p)&&(decide (0<=e.message)&&decide (e.message<=199))
theorem K2 {t:Trace} (hS:Small t) (p:Int) (e:Event):gK t p e=some (Iy t.procs.l.length p e):=by
 have h1:=hS.1;have w:IntKind.wrap .i64 (len t.procs-1)=len t.procs-1:=kF _ (by simp[len];omega) (by simp[len];omega)
 have u:∀b:Bool,gK.J1 p b t e=some (b&&(decide (0<=e.peer)&&decide (e.peer<t.procs.l.length)) && !(e.peer==p)&&(decide (0<=e.message)&&decide (e.message<=199))):=by
  intro b;unfold gK.J1;simp only[nW,w,ζb];have:decide (e.peer<=len t.procs-1)=decide (e.peer<t.procs.l.length):=by congr 1;apply propext;simp[len];omega
  rw[this];generalize (decide (0<=e.peer)&&decide (e.peer<(t.procs.l.length:Int)))=A;generalize (e.peer==p)=B;generalize (decide (0<=e.message)&&decide (e.message<=199))=C;cases b <;> cases A <;> cases B <;> cases C <;> rfl
 unfold gK Iy;rw[u,u]
 cases h1:e.kind==1 with
 | true=>
  rw[b8];cases e.peer==0 <;> cases e.message==0 <;> rfl
 | false=>
  rw[bO];simp only[Bool.false_eq_true,if_false];cases z:e.kind==2 <;> simp[bp]
def I7 (P:bM) (k:Nat) (e:Event):Bool:=match k with|0=>false|j+1=>fO P.events.l (λx=>decide (e.time<x.time)) j
def x6 (P:bM) (k:Nat) (e:Event):Bool:=decide (e.time<0)||decide (e.time>1099511627776)||I7 P k e
def Nv:Bool->Bool->Bool->Int
 | true,true,false=>0
 | true,true,true=>8
 | _,_,_=>2
def rz (P:bM) (e:Event) (i:Nat):Int:=match e.assign.l[i]? with
 | some a=>Nv (decide (0<=a.var)&&decide (a.var<P.vars.l.length)) (decide (a.value>=-1073741824)&&decide (a.value<=1073741824)) (lB (fO e.assign.l λb=>b.var==a.var) 0 i)
 | none=>0
theorem MH {P:bM} {e:Event} {i:Nat} (h:i<e.assign.l.length):rz P e i=Nv (decide (0<=e.assign.l[i].var)&&decide (e.assign.l[i].var<P.vars.l.length)) (decide (e.assign.l[i].value>=-1073741824)&&decide (e.assign.l[i].value<=1073741824)) (lB (fO e.assign.l λb=>b.var==e.assign.l[i].var) 0 i):=by
 unfold rz;rw[ζd h]
def sU (n:Nat) (P:bM) (p k:Nat) (e:Event):Int:=if Iy n p e then(if x6 P k e then 11 else if e.assign.l.length>8 then 5 else oM (rz P e) 0 e.assign.l.length)else 3
theorem Ky {P:bM} {e:Event} (hv:P.vars.l.length<1073741824) (T:e.assign.l.length<1073741824):dz.W2 e.assign (len e.assign) 0 e P=some (oM (rz P e) 0 e.assign.l.length):=by
 have I:IntKind.wrap .i64 (len P.vars-1)=len P.vars-1:=kF _ (by simp[len];omega) (by simp[len];omega)
 unfold dz.W2;rw[FM (n:=e.assign.l.length) (rz P e) (by omega) (λi hi=>?_) (by unfold dz.dn;simp[bp,len])]
 .by_cases D:oM (rz P e) 0 e.assign.l.length=0
  .rw[if_pos D,D];rfl
  .rw[if_neg D];rfl
 .unfold dz.dn;obtain⟨y,J,u⟩:=vE e.assign i (by omega)
  have G:gm y (λz=>jD z e.assign.l[i])=some (lB (fO e.assign.l λb=>b.var==e.assign.l[i].var) 0 i):=by
   rw[C7 (p:=λz=>jD z e.assign.l[i]) (f:=λb=>b.var==e.assign.l[i].var) (λw _=>rfl) (by rw[u,List.length_take];omega),u,A6]
  rw[MH hi,show decide ((i:Int)<len e.assign)=true from by simp[len];exact hi,b8,cn hi,ζb,nW,nW,I,J,ζb,ζb,ζb,G,ζb]
  have h1:(decide (0<=e.assign.l[i].var)&&decide (e.assign.l[i].var<=len P.vars-1))=(decide (0<=e.assign.l[i].var)&&decide (e.assign.l[i].var<P.vars.l.length)):=by
   congr 2;apply propext;simp[len];omega
  have L:(decide (-1073741824<=e.assign.l[i].value)&&decide (e.assign.l[i].value<=1073741824))=(decide (e.assign.l[i].value>=-1073741824)&&decide (e.assign.l[i].value<=1073741824)):=rfl;rw[h1,L];generalize (decide (0<=e.assign.l[i].var)&&decide (e.assign.l[i].var<(P.vars.l.length:Int)))=A;generalize (decide (e.assign.l[i].value>=-1073741824)&&decide (e.assign.l[i].value<=1073741824))=B;generalize lB (fO e.assign.l λb=>b.var==e.assign.l[i].var) 0 i=C
  cases A <;> cases B <;> cases C <;> rfl
theorem LB {t:Trace} (hS:Small t) {p k:Nat} {P:bM} {e:Event} (hP:t.procs.l[p]? = some P) (J:P.events.l[k]? = some e):dz t ⟨p,k+1⟩ e=some (sU t.procs.l.length P p k e):=by
 obtain⟨I,w⟩:=ζe.1 hP;obtain⟨hk,z⟩:=ζe.1 J;obtain⟨C,A,_,_,B⟩:=hS.2 P (w▸List.getElem_mem I);have L:=B e (z▸List.getElem_mem hk);have D:∀last:Int,((decide (0<=e.time)&&decide (e.time<=1099511627776)) && !decide (e.time<last))=(!x6 P k e) ->
  dz.J1 last t ⟨p,k+1⟩ e P=some (sU t.procs.l.length P p k e):=by
  intro last O;unfold dz.J1 sU;rw[K2 hS,ζb,nW,ζb,Ky A L];dsimp only
  cases Iy t.procs.l.length p e with
  | false=>rfl
  | true=>
   rw[b8,if_pos rfl];have:(bp (decide (0<=e.time)&&decide (e.time<=1099511627776)) (some (decide (e.time<last))) (some true):Option Bool)=some (x6 P k e):=by
    have Q:(!((decide (0<=e.time)&&decide (e.time<=1099511627776)) && !decide (e.time<last)))=x6 P k e:=by rw[O,Bool.not_not]
    rw[<-Q];cases (decide (0<=e.time)&&decide (e.time<=1099511627776)) <;> cases decide (e.time<last) <;> rfl
   rw[this,ζb]
   cases x6 P k e with
   | true=>rfl
   | false=>
    rw[bO];simp only[Bool.false_eq_true,if_false]
    by_cases G:e.assign.l.length>8
    .rw[show decide (len e.assign>8)=true from by simp[len];omega,b8,if_pos G]
    .rw[show decide (len e.assign>8)=false from by simp[len];omega,bO,if_neg G]
 unfold dz;dsimp only;rw[show idx t.procs (p:Int)=some P from by rw[mR];exact hP,ζb]
 cases k with
 | zero=>
  rw[show decide (((0:Nat):Int)+1>1)=false from by decide,bO]
  refine D 0 ?_;simp only[x6,I7,Bool.or_false];rw[Bool.eq_iff_iff];simp only[ζh,Bool.not_eq_true',decide_eq_true_eq,decide_eq_false_iff_not,Bool.or_eq_false_iff];omega
 | succ j=>
  rw[show decide ((((j+1:Nat)):Int)+1>1)=true from by simp;omega,b8]
  have u:j<P.events.l.length:=by omega
  have S:IntKind.wrap .i64 ((((j+1:Nat)):Int)+1-2)=((j:Nat):Int):=by rw[kF _ (by omega) (by omega)];omega
  rw[S,cn u,ζb];refine D _ ?_;simp only[x6,I7,SK u];rw[Bool.eq_iff_iff];simp only[ζh,Bool.not_eq_true',decide_eq_true_eq,decide_eq_false_iff_not,Bool.or_eq_false_iff];omega
end Go.VE
namespace Go.VE
theorem JM {n:Nat} {p:Int} {e:Event} (h:Iy n p e=true):vi n p e:=by
 unfold Iy at h;split at h
 .rename_i h1;left;simpa using h1
 .right;simp only[ζh,Bool.or_eq_true,beq_iff_eq,decide_eq_true_eq,Bool.not_eq_true',beq_eq_false_iff_ne,ne_eq]at h;obtain⟨⟨⟨h1,u⟩,z⟩,w⟩:=h;exact⟨h1,u.1,u.2,z,w.1,w.2⟩
theorem G6 {n:Nat} {P:bM} {p k:Nat} {e:Event} (h:sU n P p k e=0):vi n p e:=by
 unfold sU at h;split at h
 .rename_i h1;exact JM h1
 .cases h
end Go.VE
namespace Go.VE
theorem G5 {α:Type} [DecidableEq α]:∀{l r:List α},l.Nodup->(∀x∈l,x∈r)->l.length<=r.length
 | [],_,_,_=>Nat.zero_le _
 | x::l,r,D,G=>by
  have B:=List.nodup_cons.1 D;have:=G5  (r:=r.erase x) B.2 λy u=>(List.mem_erase_of_ne (by grind)).2 (G y (List.mem_cons_of_mem _ u))
  grind
section
variable {κ:Type} [DecidableEq κ]
theorem Ca {ν:Type} {k:κ}:∀{m:Mo κ ν},k∉m.map (·.1)->sM k m=none
 | [],_=>rfl
 | (a,v)::r,h=>by
  simp only[List.map_cons,List.mem_cons,not_or]at h;unfold sM;rw[if_neg h.1];exact Ca h.2
theorem Dn {ν:Type} {k:κ}:∀{m:Mo κ ν},k∈m.map (·.1)->∃v,sM k m=some v/\(k,v)∈m
 | [],h=>by simp_all
 | (a,v)::r,h=>by
  unfold sM
  by_cases e:k=a
  .grind
  .obtain⟨w,h1,B⟩:=Dn  (by simpa [e]using h)
   grind
theorem qv {ν:Type} {k:κ} {v:ν}:∀{m:Mo κ ν},k∉m.map (·.1)->qp m k v=m++[(k,v)]
 | [],_=>rfl
 | (a,w)::r,h=>by
  simp only[List.map_cons,List.mem_cons,not_or]at h;show (if k=a then _ else _)=_;rw[if_neg h.1,qv h.2];rfl
end
def Vd (t:Trace) (y:aY):Prop:=∃e,(y,e)∈cF t
theorem Vd.at_ {t:Trace} {y:aY} (h:Vd t y):∃(p k:Nat) (e:Event),pT t p k e/\y=⟨p,k+1⟩/\(y,e)∈cF t:=by
 obtain⟨e,u⟩:=h;obtain⟨p,k,h1,w⟩:=gy.1 u
 grind
def LI (t:Trace) (y z:aY):Prop:=∃e f,(y,e)∈cF t/\(z,f)∈cF t/\e.kind=2/\f.kind=3/\e.message=f.message
def Edge (t:Trace) (y z:aY):Prop:=Vd t y/\Vd t z/\(z=⟨y.proc,y.index+1⟩\/LI t y z)
abbrev Way (t:Trace):aY->aY->Prop:=Relation.TransGen (Edge t)
def SN (t:Trace):Prop:=∃x,Way t x x
theorem Way.l {t:Trace} {x y:aY} (h:Way t x y):Vd t x:=by
 induction h with
 | single h=>exact h.1
 | tail _ _ u=>omega
theorem Way.r {t:Trace} {x y:aY} (h:Way t x y):Vd t y:=by
 cases h with
 | single h=>exact h.2.1
 | tail _ h=>exact h.2.1
theorem OP {t:Trace} (hS:Small t) (hF:∀x∈cF t,vi t.procs.l.length x.1.proc x.2) {A:cq 200 bD} (hA:iX t (cF t) A) {y:aY} (T:Vd t y) :
 Wp (iD t A y) λs=>s.l.length<=2/\∀z,z∈s.l↔Edge t y z:=by
 obtain⟨p,k,e,S,D,u⟩:=T.at_;obtain⟨P,hP,hk⟩:=S;have U:P∈t.procs.l:=List.mem_of_getElem? hP;have h1:=(hS.2 P U).1;have aa:k<P.events.l.length:=(ζe.1 hk).1;have G:y.proc=p:=by rw[D]
 have C:y.index=k+1:=by rw[D]
 have j:∀s:Sl aY,s.l.length<=1->(∀z,z∈s.l↔Vd t z/\z=⟨y.proc,y.index+1⟩)->Wp (iD.J1 A s P.events y) λs=>s.l.length<=2/\∀z,z∈s.l↔Edge t y z:=by
  intro s hs w;have no:¬(∃z,LI t y z)->s.l.length<=2/\∀z,z∈s.l↔Edge t y z:=λhn=>⟨by omega,λz=>(w z).trans ⟨λh=>⟨T,h.1,.inl h.2⟩,λh=>⟨h.2.1,h.2.2.elim id λh=>(hn ⟨z,h⟩).elim⟩⟩⟩
  unfold iD.J1;have W:IntKind.wrap .i64 (y.index-1)=((k:Nat):Int):=by rw[C,kF _ (by omega) (by omega)];omega
  rw[W,mR,hk,ζb,js,dH];constructor
  .intro B;have B:e.kind=2:=by grind
   have O:0<=e.message/\e.message<=199:=by
    rcases hF _ u with h|⟨_,_,_,_,h⟩
    .grind
    simp_all
   have to_:∀z,LI t y z->(ag A e.message).to_=z:=λz ⟨X,f,Y,I,a3,a4,a5⟩=>by
    cases Gw Y u rfl;rw[a5];exact(hA.rcv _ I a4).1
   rw[Jj A O.1 O.2,ζb,bh,dH];refine⟨λh=>?_,λh=>(bh _).2 (no λ⟨z,w⟩=>?_)⟩
   .have h:(ag A e.message).to_.index>0:=by grind
    rw[ζb];unfold fZ;rw[if_pos (by omega),ζb,bh]
    refine⟨by show (s.l++[(ag A e.message).to_]).length<=2;grind,λz=>?_⟩
    have J:LI t y (ag A e.message).to_:=by
     rcases hA.to e.message O.1 O.2 with h0|⟨X,h1,h2,h3⟩
     .omega
     .exact⟨e,X,u,h1,B,h2,h3.symm⟩
    show z∈s.l++[(ag A e.message).to_]↔_;rw[List.mem_append,List.mem_singleton,w];constructor
    .rintro (h|rfl)
     .exact⟨T,h.1,.inl h.2⟩
     .exact⟨T,let ⟨_,f,_,I,_⟩:=J;⟨f,I⟩,.inr J⟩
    .rintro⟨_,h1,h2|h2⟩
     .grind
     grind
   .rw[to_ z w]at h;obtain⟨_,f,_,I,_⟩:=w;obtain⟨q,i,_,hi⟩:=gy.1 I;simp only at hi;rw[hi]at h;simp at h
  .intro B;rw[bh,dH];refine⟨λh=>(by cases h),λ_=>(bh _).2 (no λ⟨z,X,f,Y,_,a3,_⟩=>?_)⟩
   cases Gw Y u rfl
   grind
 unfold iD;rw[G,mR,hP,ζb,dH];rw[G]at j;constructor
 .intro h;have h:y.index<len P.events:=by simpa using h
  have B:k+1<P.events.l.length:=by rw[C]at h;simp[len]at h;omega
  refine j _ (by simp[Sl.l]) λz=>?_
  have W:IntKind.wrap .i64 (y.index+1)=y.index+1:=kF _ (by omega) (by omega)
  simp only[Sl.l,List.mem_singleton,W];refine⟨λw=>⟨⟨P.events.l[k+1],gy.2 ⟨p,k+1,⟨P,hP,ζd B⟩,?_⟩⟩,w⟩,λw=>w.2⟩
  rw[w,C];simp
 .intro h;have h:¬y.index<len P.events:=by simpa using h
  refine j _ (by simp[Sl.l]) λz=>⟨λw=>by simp[Sl.l]at w,λ⟨w,he⟩=>?_⟩
  obtain⟨q,i,f,⟨Q,Z,hi⟩,L,_⟩:=w.at_;rw[he,C]at L;simp[aY.mk.injEq]at L;have:q=p:=by omega
  subst this;rw[hP]at Z;cases Z;have:=(ζe.1 hi).1;simp[len]at h;omega
structure FT (t:Trace) (x:aY) (rest:Sl aY) (m:Mo aY Bool) (U:aY->Prop):Prop where
 rst:∀y∈rest.l,y=x\/Way t x y
 keys:(m.map (·.1)).Nodup
 seen:∀y∈m,Way t x y.1/\y.1≠x/\y.2=true
 le:rest.l.length<=m.length+1
 done:∀y,y=x\/y∈m.map (·.1)->y∈rest.l\/U y\/∀z,Edge t y z->z∈m.map (·.1)
theorem FT.count {t:Trace} {x:aY} {rest:Sl aY} {m:Mo aY Bool} {U:aY->Prop} (h:FT t x rest m U):m.length<=(cF t).length:=by
 have:=G5 (r:=(cF t).map (·.1)) h.keys λx u=>by
  obtain⟨y,w,rfl⟩:=List.mem_map.1 u;obtain⟨e,z⟩:=(h.seen y w).1.r
  grind
 grind
theorem ML {t:Trace} (hS:Small t) (hN:(cF t).length<1073741824) (hF:∀x∈cF t,vi t.procs.l.length x.1.proc x.2) {A:cq 200 bD} (hA:iX t (cF t) A):Wp (gI t A) λr=>(r.2=true↔SN t):=by
 unfold gI jk;rw[ζb];unfold gI.E1;rw[ug hS,ζb];refine z6 (λk _=>∀x∈(cF t).take k,¬Way t x.1 x.1) (by simp) ?_ λ_ h=>(bh _).2 ⟨λh=>(by cases h),λ⟨x,hx⟩=>?_⟩
 .intro i x _ hx ar;have ah:x∈cF t:=List.mem_of_getElem? hx;refine Wp.mono (P:=λw=>match w with|.n s=>¬Way t x.1 x.1|.x e=>False|.r e=>SN t) ?_ λw hw=>by
   cases w with
   | n s=>
    intro y hy;rw[List.take_add_one,hx]at hy
    grind
   | x e=>grind
   | r b=>exact(bh _).2 ⟨λ_=>hw,λ_=>rfl⟩
  refine lK (λq:Sl aY×Mo aY Bool=>FT t x.1 q.1 q.2 λ_=>False) (λq=>2*((cF t).length-q.2.length)+q.1.l.length) ⟨λy hy=>.inl (by simpa [Sl.l]using hy),by simp,by simp,by simp[Sl.l],λy hy=>.inl ?_⟩ ?_
  .simpa [Sl.l]using hy
  rintro⟨rest,m⟩ L;unfold gI.dn;rw[dH];refine⟨λh=>?_,λh=>(bh _).2 ((bh _).2 λhw=>?_)⟩
  .have G:0<rest.l.length:=by
    grind
   have hc:=L.count;have av:=L.le;have hw:IntKind.wrap .i64 ((len rest)-1)=(rest.l.length-1:Nat):=by
    rw[kF _ (by grind) (by grind)];grind
   have I:rest.l.length-1<rest.l.length:=by omega
   rw[hw];have h1:Sl.rM rest (rest.l.length-1:Nat)=some (rest.l.length-1):=by
    unfold Sl.rM;grind
   have h2:Sl.get rest (rest.l.length-1)=some rest.l[rest.l.length-1]:=by unfold Sl.get;grind
   obtain⟨cut,h3,h4⟩:∃x,nH rest none (some ((rest.l.length-1:Nat):Int))=some x/\x.l=rest.l.take (rest.l.length-1):=by
    cases rest with
    | nil=>simp[Sl.l]at G
    | emp=>simp[Sl.l]at G
    | row l=>
     simp only[Sl.l]at G ⊢;unfold nH dI;simp_all
    | part l=>
     simp[Sl.l]at G ⊢;unfold nH dI;simp_all
   rw[h1,ζb,h2,ζb,h3,ζb,js];generalize ai:rest.l[rest.l.length-1]=y;have aj:y∈rest.l:=ai▸List.getElem_mem I;have O:∀z,z∈rest.l->z∈cut.l\/z=y:=λz hz=>by
    have:rest.l.take (rest.l.length-1)++rest.l.drop (rest.l.length-1)=rest.l:=List.take_append_drop ..;rw[<-this]at hz;rcases List.mem_append.1 hz with hz|hz
    .grind
    .rw[List.drop_eq_getElem_cons I,List.drop_of_length_le (by omega)]at hz
     grind
   have aa  := L.rst _ aj;have ak  := aa.elim (λe=>⟨x.2,e▸ah⟩) Way.r
   refine(OP hS hF hA ak).mono λs hs=>?_
   refine lK (λq:Sl aY×Int×Mo aY Bool=>∃n:Nat,q.2.1=n/\n<=s.l.length/\FT t x.1 q.1 q.2.2 (λu=>u=y)/\(∀z∈s.l.take n,z∈q.2.2.map (·.1))/\2*((cF t).length-q.2.2.length)+q.1.l.length<2*((cF t).length-m.length)+rest.l.length) (λq=>s.l.length-q.2.1.toNat)
    ⟨0,rfl,Nat.zero_le _,⟨λz hz=>L.rst z (by grind),L.keys,L.seen,by grind,λu hu=>?_⟩,by simp,by grind⟩ ?_
   .rcases L.done u hu with h|h|h
    .exact(O u h).imp_right .inl
    .exact h.elim
    .exact .inr (.inr h)
   rintro⟨C,i2,W⟩ ⟨n,rfl,hn,B,J,hμ⟩;simp only at B hμ J;unfold gI.nU;rw[dH];constructor
   .intro h;have X:n<s.l.length:=by simpa [len]using h
    have ab:=(hs.2 s.l[n]).1 (List.getElem_mem X);have Q:Way t x.1 s.l[n]:=aa.elim (λe=>.single (e▸ab)) λh=>.tail h ab
    rw[cn X,ζb,dH];refine⟨λZ=>(bh _).2 ((bh _).2 ((bh _).2 ⟨x.1,?_⟩)),λS=>?_⟩
    .have:s.l[n]=x.1:=by
      unfold SD at Z
      revert Z;cases s.l[n];cases x.1;intro Z;simpa using Z
     rw[this]at Q;exact Q
    have S:s.l[n]≠x.1:=λe=>by rw[e]at S;simp[SD]at S
    have T:=f_ n (by omega)
    have ad:s.l.take (n+1)=s.l.take n++[s.l[n]]:=by rw[List.take_add_one,ζd X];rfl
    rw[dH];refine⟨λhg=>(bh _).2 ⟨⟨n+1,T,by omega,B,λz hz=>?_,hμ⟩,by show _-(IntKind.wrap .i64 ((n:Int)+1)).toNat<_;rw[T];simp;omega⟩,λY=>?_⟩
    .rw[ad]at hz;rcases List.mem_append.1 hz with hz|hz
     .exact J z hz
     .simp[List.mem_singleton]at hz;subst hz;apply Classical.byContradiction;intro hk;unfold CD at hg;rw[Ca hk]at hg;cases hg
    have aw:=B.count;have au:=B.le;unfold fZ;rw[if_pos (show C.l.length+1<=2147483648 from by omega),ζb,bh]
    have D:s.l[n]∉W.map (·.1):=λal=>by
     obtain⟨v,hv,am⟩:=Dn al;have:=(B.seen _ am).2.2;simp only at this;subst this;unfold CD at Y;rw[hv]at Y;cases Y
    have U:∀z,z∈(qp W s.l[n] true).map (·.1)↔z∈W.map (·.1)\/z=s.l[n]:=λz=>by
     rw[qv D,List.map_append,List.mem_append];simp
    have ae:FT t x.1 (.row (C.l++[s.l[n]])) (qp W s.l[n] true) (λu=>u=y):=by
     refine⟨λy hy=>?_,?_,λy hy=>?_,?_,λu hu=>?_⟩
     .simp[Sl.l,List.mem_singleton]at hy;rcases hy with hy|rfl
      .exact B.rst y hy
      .exact .inr Q
     .rw[qv D,List.map_append,List.nodup_append];refine⟨B.keys,by simp,λa ha b hb=>?_⟩
      simp[List.mem_singleton]at hb;subst hb;exact λe=>D (e▸ha)
     .rw[qv D]at hy;rcases List.mem_append.1 hy with hy|hy
      .exact B.seen y hy
      .simp[List.mem_singleton]at hy;subst hy;exact⟨Q,S,rfl⟩
     .rw[qv D];show (C.l++[s.l[n]]).length<=_;rw[ζi,ζi,List.length_singleton,List.length_singleton];omega
     .simp only[Sl.l,List.mem_append,List.mem_singleton];have af:u=x.1\/u∈W.map (·.1)->(u∈C.l\/u=s.l[n])\/u=y\/∀z,Edge t u z->z∈(qp W s.l[n] true).map (·.1):=λhu=>by
       rcases B.done u hu with h|h|h
       .exact .inl (.inl h)
       .exact .inr (.inl h)
       .exact .inr (.inr λz hz=>(U z).2 (.inl (h z hz)))
      rcases hu with hu|hu
      .exact af (.inl hu)
      .rcases (U u).1 hu with hu|hu
       .exact af (.inr hu)
       .exact .inl (.inr hu)
    have an:=ae.count;refine⟨⟨n+1,T,by omega,ae,λz hz=>?_,?_⟩,by show _-(IntKind.wrap .i64 ((n)+1)).toNat<_;rw[T];simp;omega⟩
    .rw[ad]at hz;rcases List.mem_append.1 hz with hz|hz
     .exact(U z).2 (.inl (J z hz))
     .exact(U z).2 (.inr (by simpa using hz))
    rw[qv D,ζi,List.length_singleton]at an;show 2*((cF t).length-(qp W s.l[n] true).length)+(C.l++[s.l[n]]).length<_;rw[qv D,ζi,ζi,List.length_singleton,List.length_singleton];omega
   .intro h;have ao:s.l.length<=n:=by simpa [len]using h
    rw[List.take_of_length_le ao]at J;refine(bh _).2 ((bh _).2 ⟨⟨B.rst,B.keys,B.seen,B.le,λu hu=>?_⟩,hμ⟩)
    rcases B.done u hu with h|h|h
    .exact .inl h
    .subst h;exact .inr (.inr λz hz=>J z ((hs.2 z).2 hz))
    .exact .inr (.inr h)
  .have ap:rest.l=[]:=by
    have:¬len rest>0:=by simpa using h
    simp[len]at this;exact this
   have hd:∀y,y=x.1\/y∈m.map (·.1)->∀z,Edge t y z->z∈m.map (·.1):=λy hy=>by
    rcases L.done y hy with h|h|h
    .simp only[ap]at h;cases h
    .exact h.elim
    .exact h
   have key:∀z,Way t x.1 z->z∈m.map (·.1):=λz hz=>by
    induction hz with
    | single h=>exact hd _ (.inl rfl) _ h
    | tail _ h ih=>exact hd _ (.inr ih) _ h
   obtain⟨y,hy,aq⟩:=List.mem_map.1 (key _ hw);exact(L.seen y hy).2.1 aq
 .obtain⟨e,Z⟩:=hx.l;rw[List.take_length]at h;exact absurd hx (h _ Z)
structure Ok (t:Trace):Prop where
 one:1<=t.procs.l.length
 few:t.procs.l.length<=8
 heads:∀p,p<t.procs.l.length->wE t p=0
 eP:∀(p k:Nat) P e,t.procs.l[p]? = some P->P.events.l[k]? = some e->sU t.procs.l.length P p k e=0
 SE:S4 t
 acyc:¬SN t
theorem Mi {t:Trace} (h:∀(p k:Nat) P e,t.procs.l[p]? = some P->P.events.l[k]? = some e->sU t.procs.l.length P p k e=0):∀x∈cF t,vi t.procs.l.length x.1.proc x.2:=λx w=>by
 obtain⟨p,k,⟨P,hP,z⟩,u⟩:=gy.1 w;rw[u];exact G6 (h p k P _ hP z)
structure VT (t:Trace):Prop where
 formed:∀x∈cF t,vi t.procs.l.length x.1.proc x.2
 msgs:∃A i,d_ t=some (some A,i,0)/\iX t (cF t) A
 few:t.procs.l.length<=8
 ok:Ok t
theorem OL {t:Trace} (hS:Small t) (W:(cF t).length<1073741824):Wp (gu t) λr=>(r.2=0->VT t)/\(Ok t->r.2=0):=by
 unfold gu;rw[nW,ζb,dH];refine⟨λI=>?_,λI=>(bh _).2 ⟨λh=>(by omega),λh=>?_⟩⟩
 rotate_left
 .have h1:=h.one;have D:=h.few
  grind
 have D:1<=t.procs.l.length/\t.procs.l.length<=8:=by
  grind
 unfold gu.W1;refine lK (λi:Int=>∃n:Nat,i=n/\n<=t.procs.l.length/\∀p,p<n->wE t p=0) (λi:Int=>t.procs.l.length-i.toNat) ⟨0,rfl,Nat.zero_le _,λp J=>absurd J (by omega)⟩ ?_
 rintro i ⟨n,rfl,hn,X⟩;unfold gu.bK;rw[dH];constructor
 .intro h;have w:n<t.procs.l.length:=by grind
  rw[N7 hS w,ζb,dH];refine⟨λu=>(bh _).2 ⟨⟨n+1,f_ n (by omega),by omega,λp J=>?_⟩,by rw[f_ n (by omega)];simp;omega⟩,λu=>(bh _).2 ((bh _).2 ⟨λh=>?_,λh=>?_⟩)⟩
  .grind
  .grind
  .simp[h.heads n w]at u
 .intro h;have Y:t.procs.l.length<=n:=by grind
  rw[bh];unfold jk;rw[ζb];unfold gu.E2;rw[ug hS,ζb];refine z6 (λi _=>∀(p k:Nat) P e,t.procs.l[p]? = some P->P.events.l[k]? = some e->(⟨p,k+1⟩,e)∈(cF t).take i->sU t.procs.l.length P p k e=0) (by simp) ?_ ?_
  .intro i x _ U z;have L  := List.mem_of_getElem? U;obtain⟨p,j,⟨P,hP,B⟩,O⟩:=gy.1 L;unfold gu.HU;rw[O,LB hS hP B,ζb,dH];refine⟨λu=>(bh _).2 λp' k' P' e' Z aa hm=>?_,λu=>(bh _).2 ((bh _).2 ⟨λh=>?_,λh=>?_⟩)⟩
   .rw[List.take_add_one,U]at hm
    grind
   .grind
   .simp[h.eP p j P _ hP B]at u
  .intro _ z;have z:∀(p k:Nat) P e,t.procs.l[p]? = some P->P.events.l[k]? = some e->sU t.procs.l.length P p k e=0:=λp k P e hP B=>z p k P e hP B (by rw[List.take_length];exact gy.2 ⟨p,k,⟨P,hP,B⟩,rfl⟩)
   have Q:=Mi z;obtain⟨r,hr,hq,S⟩:=BC hS Q;rw[hr,ζb,dH];refine⟨λu=>?_,λu=>(bh _).2 ⟨λh=>?_,λh=>S h.SE⟩⟩
   .have u  := by simpa using u
    obtain⟨A,T,hM⟩:=hq u;rw[T,ζb];obtain⟨c,hc,C⟩:=ML hS W Q hM;rw[hc,ζb,dH];refine⟨λG=>(bh _).2 ⟨λh=>(by cases h),λh=>absurd (C.1 G) h.acyc⟩,λG=>(bh _).2 ⟨λ_=>?_,λ_=>rfl⟩⟩
    exact⟨Q,⟨A,r.2.1,by rw[hr];obtain⟨r1,r2,r3⟩:=r;simp only at T u;rw[T,u],hM⟩,D.2,D.1,D.2,λp J=>X p (by omega),z,hM.SE,λhc=>by rw[C.2 hc]at G;cases G⟩
   simp_all
theorem Of {t:Trace} (hS:Small t) (B:(cF t).length<1073741824):Wp (cH t) λb=>(b=true->VT t)/\(Ok t->b=true):=by
 unfold cH;rw[js];exact(OL hS B).mono λr hr=>(bh _).2 ⟨λh=>hr.1 (by grind),λh=>by grind⟩
end Go.VE
namespace Go.VE
def pQ (q:Int) (e:Event):Bool:=e.kind==2&&e.peer==q
end Go.VE
namespace Go.VE
end Go.VE
namespace Go.VE
theorem DN {t:Trace} (hS:Small t) (hv:cH t=some true) {A:cq 200 bD} (hM:iX t (cF t) A) {x:aY×Event} (B:x∈cF t) (hk:x.2.kind=2):oh t x.2.message=some (x.1,true):=by
 refine Wp.eq ?_;unfold oh jQ;rw[hv,ζb,b8];unfold jk;rw[ζb];unfold jQ.E1;rw[ug hS,ζb,js];refine z6 (λk _=>∀y∈(cF t).take k,¬(y.2.kind=2/\y.2.message=x.2.message)) (by simp) ?_ ?_
 .intro k y _ C u;have w:y∈cF t:=List.mem_of_getElem? C;unfold jQ.jt;rw[wG,ζb,dH];constructor
  .intro hc;have hc:y.2.kind=2/\y.2.message=x.2.message:=by simpa using hc
   refine(bh _).2 ((bh _).2 ((bh _).2 ?_));have h1:=hM.snd y w hc.1;have D:=hM.snd x B hk;rw[hc.2,D]at h1;rw[h1]
  .intro hc;have hc:¬(y.2.kind=2/\y.2.message=x.2.message):=by
    intro h;rw[h.1,h.2]at hc;simp at hc
   rw[bh];intro z hz;rw[List.take_add_one,C]at hz;rcases List.mem_append.1 hz with hz|hz
   .exact u z hz
   .simp at hz;subst hz;exact hc
 .intro _ u;rw[List.take_length]at u;exact absurd ⟨hk,rfl⟩ (u x B)
def rR (t:Trace) (c:List Int):Prop:=c.length=t.procs.l.length/\∀(p:Nat) (a:Int) (P:bM),c[p]? = some a->t.procs.l[p]? = some P->0<=a/\a<=P.events.l.length
def nO (t:Trace) (A:cq 200 bD) (c:List Int):Prop:=∀(p k:Nat) (e:Event) (a:Int),pT t p k e->c[p]? = some a->(k:Int)<a->e.kind=3->∃b,c[(ag A e.message).from_.proc.toNat]? = some b/\(ag A e.message).from_.index<=b
theorem Bq {t:Trace} (hV:VT t) {A:cq 200 bD} (hM:iX t (cF t) A) {p k:Nat} {e:Event} (J:pT t p k e) (hk:e.kind=3) :
 ∃(q j:Nat) (y:Event),pT t q j y/\y.kind=2/\y.message=e.message/\y.peer=p/\e.peer=q/\(ag A e.message).from_=⟨q,j+1⟩:=by
 have u:((⟨p,k+1⟩:aY),e)∈cF t:=gy.2 ⟨p,k,J,rfl⟩;have z:=(hM.rcv _ u hk).2;have C:=hV.formed _ u;simp only at z C;have B:0<=e.peer:=by
  rcases C with h|⟨_,h,_⟩
  .omega
  .exact h
 obtain⟨q,D⟩:∃q:Nat,e.peer=q:=⟨e.peer.toNat,by omega⟩
 rw[D]at z;obtain⟨j,y,w,h1,G,I⟩:=IZ.1 z;have:=hM.snd (⟨q,j+1⟩,y) (gy.2 ⟨q,j,w,rfl⟩) h1;simp only at this;rw[G]at this;exact⟨q,j,y,w,h1,G,I,D,this⟩
def Vj (t:Trace) (A:cq 200 bD) (c:List Int) (s:aY):Prop:=∃(p k:Nat) (e:Event) (a:Int) (q j:Nat) (y:Event) (b:Int),pT t p k e/\c[p]? = some a/\(k:Int)<a/\e.kind=3/\(ag A e.message).from_=s/\s=⟨q,j+1⟩/\pT t q j y/\c[q]? = some b/\b<(j:Int)+1
theorem Q5 {t:Trace} (hS:Small t) (hv:cH t=some true) (hV:VT t) {A:cq 200 bD} (hM:iX t (cF t) A) {c:Sl Int} (hR:rR t c.l):Wp (gw t c) λr=>(r.2.2=false->nO t A c.l)/\(r.2.2=true->Vj t A c.l r.1):=by
 have ah:=hV.few;unfold gw gw.W1;refine lK (λs:Int=>∃n:Nat,s=n/\n<=c.l.length/\∀(p k:Nat) (e:Event) (a:Int),p<n->pT t p k e->c.l[p]? = some a->(k:Int)<a->e.kind=3->∃b,c.l[(ag A e.message).from_.proc.toNat]? = some b/\(ag A e.message).from_.index<=b) (λs:Int=>c.l.length-s.toNat) ⟨0,rfl,Nat.zero_le _,λp k e a h=>absurd h (by omega)⟩ ?_
 rintro s ⟨n,rfl,hn,hI⟩;have ai:=hR.1;unfold gw.bK;rw[dH];constructor
 .intro h;have C:n<c.l.length:=by simpa [len]using h
  have B:n<t.procs.l.length:=by omega
  have hP:=(hS.2 _ (List.getElem_mem B)).1;obtain⟨r1,r2⟩:=hR.2 n _ _ (ζd C) (ζd B);rw[cn C,ζb,cn B,ζb];obtain⟨y,hy,T⟩:=vE t.procs.l[n].events c.l[n].toNat (by omega)
  rw[show ((c.l[n].toNat:Nat):Int)=c.l[n]from by omega]at hy
  rw[hy,ζb];unfold gw.W2;refine lK (λs:Int=>∃m:Nat,s=m/\m<=y.l.length/\∀(k:Nat) (e:Event),k<m->pT t n k e->e.kind=3->∃b,c.l[(ag A e.message).from_.proc.toNat]? = some b/\(ag A e.message).from_.index<=b) (λs:Int=>y.l.length-s.toNat) ⟨0,rfl,Nat.zero_le _,λk e h=>absurd h (by omega)⟩ ?_
  rintro s ⟨m,rfl,hm,hJ⟩;have af:y.l.length=c.l[n].toNat:=by rw[T,List.length_take];omega
  unfold gw.dn;rw[dH];constructor
  .intro h;have G:m<y.l.length:=by simpa [len]using h
   have I:=f_ m (by omega)
   have U:y.l.length-(IntKind.wrap .i64 ((m:Int)+1)).toNat<y.l.length-((m:Int)).toNat:=by rw[I];simp;omega
   have hg:y.l[m]? = t.procs.l[n].events.l[m]? := by rw[T,List.getElem?_take,if_pos (show m<c.l[n].toNat from by omega)]
   have u:pT t n m y.l[m]:=⟨_,ζd B,by rw[<-hg];exact ζd G⟩
   rw[cn G,ζb];generalize y.l[m]=e at u;rw[dH];constructor
   .intro hk;have hk:e.kind=3:=by simpa using hk
    obtain⟨q,j,z,hz,z1,z2,z3,z4,z5⟩:=Bq hV hM u hk;have J:=DN hS hv hM (x:=(⟨q,j+1⟩,z)) (gy.2 ⟨q,j,hz,rfl⟩) z1;simp only at J;rw[z2]at J;have ab:=hz;obtain⟨Q,hQ,_⟩:=hz;have L:q<c.l.length:=by have:=(ζe.1 hQ).1;omega
    rw[J,ζb];simp only;rw[cn L,ζb,dH];constructor
    .intro W;have W:(j:Int)+1>c.l[q]:=by simpa using W
     exact(bh _).2 ((bh _).2 ((bh _).2 ⟨λh=>(by cases h),λ_=>⟨n,m,e,c.l[n],q,j,z,c.l[q],u,ζd C,by omega,hk,z5,rfl,ab,ζd L,by omega⟩⟩))
    .intro X;have X:¬((j:Int)+1>c.l[q]):=by simpa using X
     refine(bh _).2 ⟨⟨m+1,I,by omega,λk Y ad w D=>?_⟩,U⟩
     by_cases ek:k=m
     .subst ek;have:Y=e:=by
       obtain⟨P1,a1,a2⟩:=u;obtain⟨P2,Z,b2⟩:=w;rw[a1]at Z;cases Z;rw[a2]at b2;cases b2;rfl
      subst this;rw[z5];exact⟨c.l[q],by simp only[Int.toNat_natCast];exact ζd L,by simp only;omega⟩
     .exact hJ k Y (by omega) w D
   .intro hk;have hk:¬e.kind=3:=by simpa using hk
    refine(bh _).2 ⟨⟨m+1,I,by omega,λk Y ad w D=>?_⟩,U⟩
    by_cases ek:k=m
    .subst ek;have:Y=e:=by
      obtain⟨P1,a1,a2⟩:=u;obtain⟨P2,Z,b2⟩:=w;rw[a1]at Z;cases Z;rw[a2]at b2;cases b2;rfl
     subst this;exact absurd D hk
    .exact hJ k Y (by omega) w D
  .intro h;have ae:y.l.length<=m:=by simpa [len]using h
   have aa:=f_ n (by omega)
   refine(bh _).2 ((bh _).2 ⟨⟨n+1,aa,by omega,λp k e a hp u S O he=>?_⟩,by show _-(IntKind.wrap .i64 ((n:Int)+1)).toNat<_;rw[aa];simp;omega⟩)
   by_cases ep:p=n
   .subst ep;rw[ζd C]at S;cases S;exact hJ k e (by omega) u he
   .exact hI p k e a (by omega) u S O he
 .intro h;have ae:c.l.length<=n:=by simpa [len]using h
  refine(bh _).2 ((bh _).2 ⟨λ_ p k e a u S O he=>hI p k e a (by have:=(ζe.1 S).1;omega) u S O he,λh=>(by cases h)⟩)
theorem Kk {t:Trace} (hS:Small t) (hv:cH t=some true) (hV:VT t) {A:cq 200 bD} (hM:iX t (cF t) A) {c:Sl Int} (B:rR t c.l):Wp (gw t c) λr=>(r.2.2=false↔nO t A c.l):=by
 refine(Q5 hS hv hV hM B).mono λr hr=>⟨hr.1,λhC=>?_⟩
 cases h:r.2.2 with
 | false=>rfl
 | true=>
  obtain⟨p,k,e,a,q,j,y,b,h1,u,w,z,C,D,_,G,I⟩:=hr.2 h;obtain⟨J,g1,g2⟩:=hC p k e a h1 u w z;rw[C,D]at g1 g2;simp only[Int.toNat_natCast]at g1 g2;rw[G]at g1;cases g1;omega
end Go.VE
namespace Go.VE
theorem EU {s:Sl (Sl Int)} {p:Sl Int->Option Bool} {f:Sl Int->Bool} (hp:∀x∈s.l,p x=some (f x)) (B:s.l.length<1073741824):jc s p=some (s.l.any f):=by
 have h:fE s p=some (place f s.l):=tA hp (by omega) (λi=>rfl)
 unfold jc;rw[h,ζb,tG]
theorem JS {t:Trace} (hS:Small t) {c:Sl Int} (B:c.l.length=t.procs.l.length):Wp (iZ t c) λb=>(b=true↔rR t c.l):=by
 have h1:=hS.1;unfold iZ iZ.W1;refine lK (λs:Int=>∃n:Nat,s=n/\n<=c.l.length/\∀(p:Nat) (a:Int) (P:bM),p<n->c.l[p]? = some a->t.procs.l[p]? = some P->0<=a/\a<=P.events.l.length) (λs:Int=>c.l.length-s.toNat) ⟨0,rfl,Nat.zero_le _,λp a P h=>absurd h (by omega)⟩ ?_
 rintro s ⟨n,rfl,J,C⟩;unfold iZ.bK;rw[dH];constructor
 .intro h;have w:n<c.l.length:=by simpa [len]using h
  have u:n<t.procs.l.length:=by omega
  have D:=f_ n (by omega)
  rw[cn w,ζb,cn u,ζb,FP,ζb,dH];constructor
  .intro z;have z:c.l[n]<0\/c.l[n]>t.procs.l[n].events.l.length:=by simpa [len]using z
   refine(bh _).2 ((bh _).2 ⟨λh=>(by cases h),λG=>?_⟩)
   have:=G.2 n _ _ (ζd w) (ζd u);omega
  .intro z;have z:0<=c.l[n]/\c.l[n]<=t.procs.l[n].events.l.length:=by simpa [len]using z
   refine(bh _).2 ⟨⟨n+1,D,by omega,λp a P L A hP=>?_⟩,by rw[D];simp;omega⟩
   by_cases e:p=n
   .subst e;rw[ζd w]at A;cases A;rw[ζd u]at hP;cases hP;exact z
   .exact C p a P (by omega) A hP
 .intro h;have I:c.l.length<=n:=by simpa [len]using h
  refine(bh _).2 ((bh _).2 ⟨λ_=>⟨B,λp a P A hP=>C p a P (by have:=(ζe.1 A).1;omega) A hP⟩,λ_=>rfl⟩)
def Code (t:Trace) (A:cq 200 bD) (c:List Int) (r:Int):Prop:=c.length≠t.procs.l.length/\r=1\/c.length=t.procs.l.length/\¬rR t c/\r=2\/rR t c/\¬nO t A c/\r=18\/rR t c/\nO t A c/\r=0
theorem Se {t:Trace} (hS:Small t) (hv:cH t=some true) (hV:VT t) {A:cq 200 bD} (hM:iX t (cF t) A) (c:Sl Int) :
 Wp (e8 t (Sl.row [c]:Sl (Sl Int)) (Sl.nil:Sl Int)) λr=>Code t A c.l r:=by
 unfold e8 za;rw[hv,ζb,b8,EU (f:=λz=>(mJ z t).getD false) (λz _=>SO.ok ((bh _).2 trivial)) (by simp[Sl.l]),ζb,ζb,ζb]
 have w:(!((Sl.row [c]:Sl (Sl Int)).l.any λz=>(mJ z t).getD false))=(len c==len t.procs):=by
  simp[Sl.l,mJ]
 rw[w,dH];constructor
 .intro h;have B:c.l.length=t.procs.l.length:=by
   have:(c.l.length:Int)=t.procs.l.length:=by simpa [len]using h
   omega
  unfold e8.W1;refine lK (λs:Int=>s=0\/s=1/\rR t c.l) (λs:Int=>1-s.toNat) (.inl rfl) ?_
  intro s D;unfold e8.bK;rcases D with rfl|⟨rfl,G⟩
  .rw[show decide ((0:Int)<len (Sl.row [c]:Sl (Sl Int)))=true from rfl,b8,show idx (Sl.row [c]:Sl (Sl Int)) 0=some c from rfl,ζb,js];refine(JS hS B).mono λb u=>?_
   rw[dH];exact⟨λI=>(bh _).2 ⟨.inr ⟨rfl,u.1 I⟩,by decide⟩,λC=>(bh _).2 ((bh _).2 (.inr (.inl ⟨B,λh=>(by rw[u.2 h]at C;cases C),rfl⟩)))⟩
  .rw[show decide ((1:Int)<len (Sl.row [c]:Sl (Sl Int)))=false from rfl,bO,bh];show Wp (e8.W2 (Sl.row [c]) Sl.nil 0 0 t) _;unfold e8.W2;refine lK (λs:Int=>s=0) (λ_=>0) rfl ?_
   rintro s rfl;unfold e8.dn;rw[show decide ((0:Int)<0)=false from rfl,bO,bh];show Wp (e8.W3 (Sl.row [c]) 1 0 t) _;unfold e8.W3;refine lK (λs:Int=>s=0\/s=1/\nO t A c.l) (λs:Int=>1-s.toNat) (.inl rfl) ?_
   intro s D;unfold e8.nU;rcases D with rfl|⟨rfl,hC⟩
   .rw[show decide ((0:Int)<1)=true from rfl,b8,show idx (Sl.row [c]:Sl (Sl Int)) 0=some c from rfl,ζb];unfold x_;rw[js,js];refine(Kk hS hv hV hM G).mono λr hr=>?_
    rw[bh,dH];exact⟨λu=>(bh _).2 ⟨.inr ⟨rfl,hr.1 (by simpa using u)⟩,by decide⟩,λu=>(bh _).2 ((bh _).2 (.inr (.inr (.inl ⟨G,λh=>(by have:=hr.2 h;simp[this]at u),rfl⟩))))⟩
   .rw[show decide ((1:Int)<1)=false from rfl,bO,bh];exact(bh _).2 (.inr (.inr (.inr ⟨G,hC,rfl⟩)))
 .intro h;exact(bh _).2 (.inl ⟨λe=>(by simp[len,e]at h),rfl⟩)
theorem Code.zero {t:Trace} {A:cq 200 bD} {c:List Int} {r:Int} (h:Code t A c r):r=0↔rR t c/\nO t A c:=by
 rcases h with⟨h,rfl⟩|⟨_,h,rfl⟩|⟨_,h,rfl⟩|⟨h1,w,rfl⟩
 .exact⟨λh=>(by cases h),λu=>absurd u.1.1 h⟩
 .exact⟨λh=>(by cases h),λu=>absurd u.1 h⟩
 .exact⟨λh=>(by cases h),λu=>absurd u.2 h⟩
 .exact⟨λ_=>⟨h1,w⟩,λ_=>rfl⟩
def Cons (t:Trace) (A:cq 200 bD) (c:List Int):Prop:=rR t c/\nO t A c
end Go.VE
namespace Go.VE
end Go.VE
namespace Go.VE
end Go.VE
namespace Go.VE
end Go.VE
namespace Go.VE
structure Kh (t:Trace) (d:List Nat):Prop where
 len:d.length=t.procs.l.length
 le:∀(p k:Nat) P,d[p]? = some k->t.procs.l[p]? = some P->k<=P.events.l.length
 acc:∀(p k j:Nat),d[p]? = some k->j<k->Acc (Edge t) ⟨p,j+1⟩
def Fy (t:Trace):Nat:=(t.procs.l.map λP=>P.events.l.length).sum
end Go.VE
namespace Go.VE
def PE (out:List (List Bool)) (y:aY):Bool:=match out[y.proc.toNat]? with
 | some row=>row[y.index.toNat]?.getD false
 | none=>false
theorem DT {α:Type} {f g:α->Bool}:∀{l:List α},(∀z∈l,f z=true->g z=true)->(∃z∈l,f z=false/\g z=true)->l.countP f<l.countP g
 | [],_,⟨z,hz,_⟩=>by simp at hz
 | a::l,h,⟨z,hz,B,hg⟩=>by
  simp only[List.countP_cons];have D:=List.countP_mono_left (l:=l) (p:=f) (q:=g) λx u=>h x (List.mem_cons_of_mem _ u)
  rcases List.mem_cons.1 hz with rfl|hz
  .simp[B,hg];omega
  .have:=DT (l:=l) (λx u=>h x (List.mem_cons_of_mem _ u)) ⟨z,hz,B,hg⟩
   have h1:=h a (List.mem_cons_self ..)
   cases w:f a with
   | true=>simp[h1 w];omega
   | false=>simp;split <;> omega
def cnt (t:Trace) (out:List (List Bool)):Nat:=(cF t).countP λz=>PE out z.1
structure V4 (t:Trace) (x:aY) (out:List (List Bool)) (rest:List aY):Prop where
 shp:∀(p:Nat) P,t.procs.l[p]? = some P->∃row,out[p]? = some row/\row.length=P.events.l.length+1
 len:out.length=t.procs.l.length
 que:∀y∈rest,Way t y x
 snd:∀y,Vd t y->PE out y=true->Way t y x
 cls:∀z,z=x\/Vd t z/\PE out z=true->∀y,Edge t y z->PE out y=true\/y∈rest
 le:rest.length<=2*cnt t out+2
end Go.VE
namespace Go.VE
end Go.VE
namespace Go.VE
end Go.VE
namespace Go.VE
theorem ny {σ ε ρ γ:Type} {step:σ->Option (Fw σ ε ρ)} {B:ε->Option γ} {fr:ρ->Option γ} {P:γ->Prop} (n:Nat) (I:Nat->σ->Prop) {s:σ} (G:I 0 s)
 (h:∀i s,i<n->I i s->Wp (step s) λw=>match w with|.n D=>I (i+1) D|.x e=>Wp (B e) P|.r b=>Wp (fr b) P)
 (J:∀s,I n s->Wp (step s) λw=>match w with|.n _=>False|.x e=>Wp (B e) P|.r b=>Wp (fr b) P):Wp ((cE step s).bind (Fw.elim B fr)) P:=by
 have key:∀m i s,i+m=n->I i s->Wp ((cE step s).bind (Fw.elim B fr)) P:=by
  intro m
  induction m with
  | zero=>
   intro i s hi z;obtain⟨w,u,hr⟩:=J s (by grind)
   rw[fq,u]
   cases w with
   | n D=>grind
   | x e=>exact hr
   | r b=>exact hr
  | succ m A=>
   intro i s hi z;obtain⟨w,u,hr⟩:=h i s (by omega) z
   rw[fq,u]
   cases w with
   | n D=>grind
   | x e=>exact hr
   | r b=>exact hr
 exact key n 0 s (Nat.zero_add n) G
theorem xG:∀{c:List Int} {p:Nat} {a b:Int},c[p]? = some a->(c.set p b).sum=c.sum-a+b
 | [],_,_,_,h=>by simp_all
 | x::c,0,a,b,h=>by grind
 | x::c,p+1,a,b,h=>by
  have:=xG   (b:=b) (by simpa using h)
  grind
theorem qY:∀{c:List Int},(∀(p:Nat) a,c[p]? = some a->0<=a)->0<=c.sum
 | [],_=>by simp
 | x::c,h=>by
  have h1:=h 0 x rfl;have u:=qY (c:=c) λp a w=>h (p+1) a (by grind)
  grind
theorem GB:∀{c:List Int},(∀(p:Nat) a,c[p]? = some a->0<=a)->c.sum=0->∀(p:Nat) a,c[p]? = some a->a=0
 | [],_,_,p,a,B=>by simp_all
 | x::c,h,D,p,a,B=>by
  have h1:=h 0 x rfl;have hc:∀(p:Nat) a,c[p]? = some a->0<=a:=λp a B=>h (p+1) a (by grind)
  have u:=qY hc;simp  at D
  cases p with
  | zero=>grind
  | succ p=>exact GB hc (by omega) p a (by grind)
theorem Iz:∀{c:List Int} {l:List Nat},c.length=l.length->(∀(i:Nat) a b,c[i]? = some a->l[i]? = some b->a<=(b:Nat))->c.sum<=(l.sum:Nat)
 | [],[],_,_=>by simp
 | x::c,y::l,B,h=>by
  have h1:=h 0 x y rfl rfl;have u:=Iz (c:=c) (l:=l) (by grind) λi a b w z=>h (i+1) a b (by grind) (by grind)
  grind
section
variable {t:Trace} {A:cq 200 bD} {c:List Int}
theorem rR.pos (h:rR t c) (p:Nat) (a:Int) (B:c[p]? = some a):0<=a:=
 (h.2 p a _ B (ζd (by have:=(ζe.1 B).1;rw[<-h.1];simp_all))).1
theorem rR.at_ (h:rR t c) {p:Nat} (hp:p<t.procs.l.length):∃a,c[p]? = some a:=⟨_,ζd (by rw[h.1];omega)⟩
theorem rR.sum (h:rR t c):0<=c.sum/\c.sum<=(Fy t:Nat):=
 ⟨qY h.pos,Iz (by simp[h.1]) λi a b w u=>by
  cases hP:t.procs.l[i]? with
  | none=>grind
  | some P=>simp[hP]at u;rw[<-u];exact(h.2 i a P w hP).2⟩
theorem rR.set (h:rR t c) {p:Nat} {b:Int} {P:bM} (hP:t.procs.l[p]? = some P) (B:0<=b) (h1:b<=P.events.l.length):rR t (c.set p b):=by
 refine⟨by simp[h.1],λq a Q u w=>?_⟩
 rw[List.getElem?_set]at u;split at u
 .grind
 .exact h.2 q a Q u w
def O_ (t:Trace) (A:cq 200 bD) (c:List Int) (p:Nat):Prop:=∃P e a,t.procs.l[p]? = some P/\c[p]? = some a/\P.events.l[a.toNat]? = some e/\(e.kind=3->∃b,c[(ag A e.message).from_.proc.toNat]? = some b/\(ag A e.message).from_.index<=b)
theorem pT.one {p k:Nat} {e f:Event} (h:pT t p k e) (g:pT t p k f):e=f:=by
 obtain⟨P,u,w⟩:=h;obtain⟨Q,z,A⟩:=g
 grind
theorem nO.le (h:nO t A c) {p:Nat} {a b:Int} (G:c[p]? = some a) (J:a<=b) (T:∀(k:Nat) e,pT t p k e->a<=k->(k:Int)<b->e.kind=3->∃B,(c.set p b)[(ag A e.message).from_.proc.toNat]? = some B/\(ag A e.message).from_.index<=B):nO t A (c.set p b):=by
 have L:=(ζe.1 G).1;have up:∀(q:Nat) x,c[q]? = some x->∃y,(c.set p b)[q]? = some y/\x<=y:=λq x u=>by
  rw[List.getElem?_set]
  grind
 intro q k e x w u hk I;rw[List.getElem?_set]at u;have C:∀x,c[q]? = some x->k<x->∃B,(c.set p b)[(ag A e.message).from_.proc.toNat]? = some B/\(ag A e.message).from_.index<=B:=λx u hk=>by
  obtain⟨y,O,Q⟩:=h q k e x w u hk I;obtain⟨z,S,U⟩:=up _ y O;exact⟨z,S,by omega⟩
 split at u
 .rename_i W;subst W;simp[L]at u;subst u
  by_cases D:k<a
  .exact C a G D
  .exact T k e w (by omega) hk I
 grind
theorem Bi (hV:VT t) (hM:iX t (cF t) A) {p k:Nat} {e:Event} (B:pT t p k e) (D:e.kind=3):∃q j:Nat,(ag A e.message).from_=⟨q,j+1⟩/\q≠p/\LI t ⟨q,j+1⟩ ⟨p,k+1⟩/\∃y,pT t q j y:=by
 obtain⟨q,j,y,u,z,C,y3,y4,y5⟩:=Bq hV hM B D;have w:(⟨p,k+1⟩,e)∈cF t:=gy.2 ⟨p,k,B,rfl⟩;refine⟨q,j,y5,?_,⟨y,e,gy.2 ⟨q,j,u,rfl⟩,w,z,D,C⟩,y,u⟩;rcases hV.formed _ w with h|⟨_,_,_,h,_⟩
 .grind
 grind
theorem Cons.up (hV:VT t) (hM:iX t (cF t) A) (hC:Cons t A c) {p:Nat} {a:Int} {P:bM} (hP:t.procs.l[p]? = some P) (B:c[p]? = some a) (T:a<P.events.l.length):O_ t A c p↔Cons t A (c.set p (a+1)):=by
 have U:=hC.1.pos p a B;have W:=(ζe.1 B).1;constructor
 .rintro⟨Q,e,x,D,G,J,w⟩;rw[hP]at D;cases D;rw[B]at G;cases G;refine⟨hC.1.set hP (by omega) (by omega),hC.2.le B (by omega) λk f z L O X=>?_⟩
  have C:k=a.toNat:=by omega
  subst C;cases z.one ⟨P,hP,J⟩
  grind
 .intro h;have u:a.toNat<P.events.l.length:=by omega
  refine⟨P,P.events.l[a.toNat],a,hP,B,ζd u,λw=>?_⟩
  obtain⟨b,I,S⟩:=h.2 p a.toNat _ (a+1) ⟨P,hP,ζd u⟩ (by simp_all) (by omega) w
  rw[List.getElem?_set]at I;split at I
  .obtain⟨q,j,f1,Y,_⟩:=Bi hV hM ⟨P,hP,ζd u⟩ w
   grind
  grind
noncomputable def E6 (t:Trace) (x:aY):Nat:=by
 classical
 exact(cF t).countP λz=>decide (Way t z.1 x)
theorem IQ (hV:VT t) {x y:aY} (h:Way t x y):E6 t x<E6 t y:=by
 classical
 refine DT (λz _ u=>?_) ?_
 .have u:Way t z.1 x:=by grind
  simpa using u.trans h
 .obtain⟨e,w⟩:=h.l;exact⟨(x,e),w,by simpa using λk=>hV.ok.acyc ⟨x,k⟩,by grind⟩
theorem Qp (x:aY):E6 t x<=(cF t).length:=by
 classical
 unfold E6;grind
theorem Vd.of {p k:Nat} {e:Event} (h:pT t p k e):Vd t ⟨p,k+1⟩:=⟨e,gy.2 ⟨p,k,h,rfl⟩⟩
theorem G2 {p:Nat} {P:bM} (hP:t.procs.l[p]? = some P):∀(d k:Nat),k+d+1<P.events.l.length->Way t ⟨p,k+1⟩ ⟨p,((k+d+1:Nat):Int)+1⟩
 | 0,k,h=>.single ⟨Vd.of ⟨P,hP,ζd (by omega)⟩,Vd.of ⟨P,hP,ζd h⟩,.inl (by simp)⟩
 | d+1,k,h=>(G2 hP d k (by omega)).tail ⟨Vd.of ⟨P,hP,ζd (show k+d+1<_ by omega)⟩,Vd.of ⟨P,hP,ζd h⟩,.inl (by simp;omega)⟩
theorem Ti {q k:Nat} {b:Int} {Q:bM} {x:aY} (B:t.procs.l[q]? = some Q) (h:Way t x ⟨q,k+1⟩) (h1:(k:Int)<b) (D:b<=Q.events.l.length):Way t x ⟨q,b⟩:=by
 by_cases e:b=k+1
 .grind
 .have:=G2 B (b.toNat-k-2) k (by omega)
  rw[show ((k+(b.toNat-k-2)+1:Nat)+1)=b from by omega]at this
  exact h.trans this
theorem Cons.Ia (hV:VT t) (hM:iX t (cF t) A) (hC:Cons t A c) {p:Nat} {a:Int} (D:c[p]? = some a) (h0:0<a):Cons t A (c.set p (a-1))\/∃(q:Nat) (b:Int),c[q]? = some b/\0<b/\Way t ⟨p,a⟩ ⟨q,b⟩:=by
 have X:=(ζe.1 D).1;have hP:=ζd (show p<t.procs.l.length by rw[<-hC.1.1];omega)
 have hr:=hC.1.2 p a _ D hP;refine Classical.byContradiction λB=>B (.inl ⟨hC.1.set hP (by omega) (by omega),λq k e x u I hk L=>?_⟩)
 obtain⟨z,w,Y⟩:∃z,c[q]? = some z/\x<=z:=by
  rw[List.getElem?_set]at I;split at I
  .rename_i e2;subst e2;simp[X]at I;exact⟨a,D,by omega⟩
  grind
 obtain⟨y,G,C⟩:=hC.2 q k e z u w (by omega) L
 obtain⟨r,j,f1,f2,Z,_⟩:=Bi hV hM u L;rw[f1]at G C ⊢;simp only[Int.toNat_natCast]at G C ⊢
 by_cases e2:p=r
 .subst e2;rw[D]at G;cases G;refine⟨a-1,by simp_all,?_⟩
  refine Classical.byContradiction λhj=>B (.inr ⟨q,z,w,by omega,?_⟩)
  have:a=j+1:=by omega
  subst this;obtain⟨Q,O,_⟩:=u;have J:=hC.1.2 q z Q w O;obtain⟨S,T,U,W,m3⟩:=Z;exact Ti O (.single ⟨⟨S,U⟩,⟨T,W⟩,.inr ⟨S,T,U,W,m3⟩⟩) (by omega) J.2
 simp_all
theorem Cons.T9 (hV:VT t) (hM:iX t (cF t) A) (hC:Cons t A c):∀(n p:Nat) (a:Int),c[p]? = some a->0<a->(cF t).length-E6 t ⟨p,a⟩<=n->∃(q:Nat) (b:Int),c[q]? = some b/\0<b/\Cons t A (c.set q (b-1)):=by
 intro n
 induction n with
 | zero=>
  intro p a u w C;rcases hC.Ia hV hM u w with h|⟨q,b,_,_,z⟩
  .grind
  .have:=IQ hV z;have:=Qp (t:=t) ⟨q,b⟩;omega
 | succ n D=>
  intro p a u w C;rcases hC.Ia hV hM u w with h|⟨q,b,G,B,z⟩
  .grind
  .have:=IQ hV z;exact D q b G B (by omega)
theorem Cons.down (hV:VT t) (hM:iX t (cF t) A) (hC:Cons t A c) (B:0<c.sum):∃(q:Nat) (b:Int),c[q]? = some b/\0<b/\Cons t A (c.set q (b-1)):=by
 obtain⟨p,a,u,z⟩:∃(p:Nat) (a:Int),c[p]? = some a/\0<a:=by
  refine Classical.byContradiction λw=>?_
  have D:∀a∈c,a=0:=λa u=>by
   obtain⟨p,C⟩:=List.mem_iff_getElem?.1 u;have:=hC.1.pos p a C
   grind
  have:c.sum=0:=by
   clear hC B w
   induction c with
   | nil=>rfl
   | cons x c G=>simp_all
  omega
 exact hC.T9 hV hM _ p a u z (Nat.le_refl _)
theorem Cons.DF (hV:VT t) (hM:iX t (cF t) A):∀(d:Nat) {c:List Int} {k:Nat},Cons t A c->c.sum=((k+d:Nat):Int)->∃c',Cons t A c'/\c'.sum=(k:Int)
 | 0,c,k,hC,D=>⟨c,hC,by grind⟩
 | d+1,c,k,hC,D=>by
  obtain⟨q,b,G,J,B⟩:=hC.down hV hM (by omega)
  exact Cons.DF hV hM d B (by rw[xG G];omega)
end
end Go.VE
namespace Go.VE
theorem qw {α:Type} {s:Sl α} {n:Nat} (h:n<s.l.length):decide ((n:Int)<len s)=true:=by simp[len];omega
theorem sj {α:Type} {s:Sl α}:decide ((s.l.length:Int)<len s)=false:=by simp[len]
theorem wK {α:Type} {s:Sl α} {x:α} (h:s.l.length<2147483648):∃r,fZ s x=some r/\r.l=s.l++[x]:=by
 unfold fZ;rw[if_pos (by omega)];exact⟨_,rfl,rfl⟩
theorem Gb {α:Type} {s:Sl α} {p:Nat} (h:p<s.l.length):Sl.rM s (p:Int)=some p:=by
 unfold Sl.rM;rw[if_pos ⟨by omega,by simpa using h⟩];rfl
theorem put_eq {α:Type} {s:Sl α} {p:Nat} {x:α} (h:p<s.l.length):∃r,Sl.put s p x=some r/\r.l=s.l.set p x:=by
 unfold Sl.put;rw[if_pos h];exact⟨_,rfl,by cases s <;> first|rfl|(simp[Sl.l]at h)⟩
section
variable {t:Trace} {A:cq 200 bD}
end
end Go.VE
namespace Go.VE
def ins (s:Sl (Sl Int)):List (List Int):=s.l.map Sl.l
end Go.VE
namespace Go.VE
def KH (t:Trace) (A:cq 200 bD) (c d:List Int):Prop:=∃(p:Nat) (a:Int),c[p]? = some a/\d=c.set p (a+1)/\Cons t A d
section
variable {t:Trace} {A:cq 200 bD}
theorem wM {s:Sl (Sl Int)} {d:List Int}:d∈ins s↔∃x∈s.l,x.l=d:=by unfold ins;exact List.mem_map
theorem QL {r s:Sl (Sl Int)} {x:Sl Int} (h:r.l=s.l++[x]) {d:List Int}:d∈ins r↔d∈ins s\/d=x.l:=by
 unfold ins;rw[h];simp
def An (t:Trace) (A:cq 200 bD) (k:Nat) (s:Sl (Sl Int)):Prop:=∀d,d∈ins s↔Cons t A d/\d.sum=(k:Int)
theorem KH.iff (hV:VT t) (hM:iX t (cF t) A) {k:Nat} {d:List Int}:(∃c,(Cons t A c/\c.sum=(k:Int))/\KH t A c d)↔Cons t A d/\d.sum=((k+1:Nat):Int):=by
 constructor
 .rintro⟨c,⟨hC,B⟩,p,a,C,rfl,u⟩;exact⟨u,by rw[xG C];omega⟩
 .rintro⟨u,B⟩;obtain⟨q,b,w,D,hC⟩:=u.down hV hM (by omega)
  have z:=(ζe.1 w).1;refine⟨_,⟨hC,by rw[xG w];omega⟩,q,b-1,by simp[z],?_,u⟩
  rw[List.set_set,show b-1+1=b from by omega]
  refine List.ext_getElem? λi=>?_
  rw[List.getElem?_set];split
  .rename_i e;subst e;simp[z,w];exact(ζe.1 w).2.symm▸rfl
  .rfl
theorem Nf {s:Sl (Sl Int)} {n:Nat} (h:n<s.l.length) {d:List Int}:d∈(s.l.take (n+1)).map Sl.l↔d∈(s.l.take n).map Sl.l\/d=s.l[n].l:=by
 rw[show s.l.take (n+1)=s.l.take n++[s.l[n]]from by rw[List.take_add_one,ζd h];rfl]
 simp only[List.map_append,List.mem_append,List.map_cons,List.map_nil,List.mem_singleton]
theorem IS:∀n:Nat,(List.replicate n (0:Int)).sum=0
 | 0=>rfl
 | n+1=>by rw[List.replicate_succ,List.sum_cons,IS n];rfl
theorem IV:Cons t A (List.replicate t.procs.l.length 0):=by
 have w:∀(p:Nat) a,(List.replicate t.procs.l.length (0:Int))[p]? = some a->a=0:=λp a h=>by
  rw[List.getElem?_replicate]at h;split at h <;> cases h;rfl
 exact⟨⟨by simp,λp a P u _=>by rw[w p a u];omega⟩,λp k e a _ u hk=>by rw[w p a u]at hk;omega⟩
theorem Vm {z:Sl Int} (B:z.l=List.replicate t.procs.l.length 0):An t A 0 (Sl.row [z]):=by
 intro d;have:d∈ins (Sl.row [z])↔d=List.replicate t.procs.l.length 0:=by unfold ins;rw[<-B];exact List.mem_singleton
 rw[this];constructor
 .rintro rfl;exact⟨IV,by rw[IS];rfl⟩
 .rintro⟨hC,u⟩;refine List.ext_getElem? λi=>?_
  rw[List.getElem?_replicate,<-hC.1.1];split
  .rename_i hi;have h:=ζd hi;rw[h,GB hC.1.pos (by simpa using u) i _ h]
  .exact List.getElem?_eq_none (by omega)
theorem An.none (hV:VT t) (hM:iX t (cF t) A) {k:Nat} {s:Sl (Sl Int)} (h:An t A k s) (D:s.l.length=0) {d:List Int} (B:Cons t A d):d.sum<(k:Int):=by
 refine Classical.byContradiction λu=>?_
 have C:=qY B.1.pos;obtain⟨c,hC,w⟩:=Cons.DF hV hM (d.sum.toNat-k) (k:=k) B (by omega)
 have:=(h c).2 ⟨hC,w⟩;obtain⟨x,z,_⟩:=wM.1 this;have:=List.length_pos_of_mem z;omega
theorem An.last {s:Sl (Sl Int)} (h:An t A (Fy t+1) s):s.l.length=0:=by
 refine Classical.byContradiction λu=>?_
 have w:=List.getElem_mem (show 0<s.l.length by omega)
 have:=(h s.l[0].l).1 (wM.2 ⟨_,w,rfl⟩);have:=this.1.1.sum;omega
theorem MF {α:Type} (s:Sl α):decide ((len s)>0) = !decide (s.l.length=0):=by
 by_cases h:s.l.length=0
 .simp[len,h]
 .simp[h,len];omega
end
end Go.VE
namespace Go.VE
def gj:List Int->List Int->Int
 | [],[]=>0
 | [],_::_=>-1
 | _::_,[]=>1
 | x::a,y::b=>if x<y then -1 else if x>y then 1 else gj a b
theorem vD:∀a,gj a a=0
 | []=>rfl
 | x::a=>by simp[gj,vD a]
theorem CS:∀a b c,gj a b<0->gj b c<0->gj a c<0
 | [],[],_,h,_=>by simp[gj]at h
 | [],_::_,[],_,h=>by simp[gj]at h
 | [],_::_,_::_,_,_=>by simp[gj]
 | _::_,[],_,h,_=>by simp[gj]at h
 | _::_,_::_,[],_,h=>by simp[gj]at h
 | x::a,y::b,z::c,h1,B=>by
  have D:=CS a b c;simp only[gj]at h1 B ⊢;split at h1
  .split at B
   .rw[if_pos (by omega)];omega
   .split at B
    .omega
    .rw[if_pos (by omega)];omega
  .split at h1
   .omega
   .split at B
    .rw[if_pos (by omega)];omega
    .split at B
     .omega
     .rw[if_neg (by omega),if_neg (by omega)];exact D h1 B
theorem Ai:∀a b,¬gj a b<0->¬gj b a<0->a=b
 | [],[],_,_=>rfl
 | [],_::_,h,_=>by simp[gj]at h
 | _::_,[],_,h=>by simp[gj]at h
 | x::a,y::b,h1,B=>by
  have D:=Ai a b;simp only[gj]at h1 B;split at h1
  .omega
  .split at B
   .omega
   .rw[D (by first|assumption|(split at h1 <;> first|assumption|omega)) (by first|assumption|(split at B <;> first|assumption|omega)),show x=y from by omega]
theorem OF (a b c:List Int) (h1:¬gj a b<0) (B:¬gj b c<0):¬gj a c<0:=λh=>by
 by_cases u:gj b a<0
 .exact B (CS b a c u h)
 .rw[Ai a b h1 u]at h;exact B h
theorem NA {α:Type} {s:Sl α} {p:α->α->Option Int} {f:α->List Int} (hp:∀x y,x∈s.l->y∈s.l->p x y=some (gj (f x) (f y))) (T:s.l.length<2147483648):∃r,xR s p=some r/\r.l.Perm s.l/\r.l.Pairwise λx y=>¬gj (f y) (f x)<0:=by
 unfold xR;split
 .rename_i h;exact⟨s,rfl,List.Perm.refl _,by rw[h];exact List.Pairwise.nil⟩
 .rename_i x l h;rw[if_pos (by rw[h]at T;simp at T;omega)]
  simp only;have Q:∀i j:_root_.Fin (l.length+1),p (x::l)[i.1] (x::l)[j.1]=some (gj (f (x::l)[i.1]) (f (x::l)[j.1])):=λi j=>hp _ _ (by rw[h];exact List.getElem_mem _) (by rw[h];exact List.getElem_mem _)
  have B:(oa λi j:_root_.Fin (l.length+1)=>p (x::l)[i.1] (x::l)[j.1])=λi j=>decide (gj (f (x::l)[i.1]) (f (x::l)[j.1])<0):=by
   funext i j;unfold oa;show decide ((p _ _).getD 0<0)=_;rw[Q];rfl
  have C:Ad (λi j:_root_.Fin (l.length+1)=>p (x::l)[i.1] (x::l)[j.1])=true:=by
   have u:∀i j,oa (λi j:_root_.Fin (l.length+1)=>p (x::l)[i.1] (x::l)[j.1]) i j=decide (gj (f (x::l)[i.1]) (f (x::l)[j.1])<0):=λi j=>by rw[B]
   refine List.all_eq_true.2 λi _=>Bool.and_eq_true_iff.2 ⟨by rw[u,vD];rfl,List.all_eq_true.2 λj _=>Bool.and_eq_true_iff.2 ⟨by show (p _ _).isSome=true;rw[Q];rfl,List.all_eq_true.2 λk _=>Bool.and_eq_true_iff.2 ⟨?_,?_⟩⟩⟩
   .have:=CS (f (x::l)[i.1]) (f (x::l)[j.1]) (f (x::l)[k.1]);rw[u,u,u];simp only[Bool.or_eq_true,Bool.not_eq_true',Bool.and_eq_false_iff,decide_eq_true_eq,decide_eq_false_iff_not];omega
   .have:=OF (f (x::l)[i.1]) (f (x::l)[j.1]) (f (x::l)[k.1]);rw[u,u,u];simp only[Bool.or_eq_true,Bool.not_eq_true',decide_eq_true_eq,decide_eq_false_iff_not];omega
  rw[if_pos C];have D:=(pe C).2;have I:=Sort.pdq_sorts _ D (List.finRange (l.length+1)).toArray 0 (l.length+1) (Lib.bitLen (l.length+1)) true true (Nat.zero_le _) (by simp) (Or.inl rfl)
  rw[<-Bl]at I;generalize pz l.length _=d at I;obtain⟨⟨z,_,w⟩,A⟩:=I;have z:d.size=l.length+1:=by simpa using z
  have G:∀y:List α,(s.re y).l=y:=λy=>by cases s <;> first|rfl|(simp[Sl.l]at h)
  refine⟨_,rfl,?_,?_⟩
  .rw[G,h];have h1:d.extract 0 (l.length+1)=d:=Array.ext (by simp[z]) λi h1 J=>by simp
   rw[h1]at w;have J:((List.finRange (l.length+1)).toArray.extract 0 (l.length+1)).toList=List.finRange (l.length+1):=by simp[List.take_of_length_le]
   rw[J]at w;refine(w.map _).trans ?_;rw[show (List.finRange (l.length+1)).map (λi=>(x::l)[i.1])=x::l from ?_]
   exact List.ext_getElem (by simp) λi h1 J=>by simp
  .rw[G,List.pairwise_map,List.pairwise_iff_getElem];intro i j hi L O;have:=A i j (Nat.zero_le _) O (by simpa [z]using L)
   rw[B]at this;simp only[Array.length_toList]at hi L;simp only[getElem!_pos d i hi,getElem!_pos d j L,decide_eq_false_iff_not]at this;simpa using this
end Go.VE
namespace Go.VE
theorem Na {α:Type} {s:Sl α} {p:α->α->Option Bool} {f:α->List Int} (hp:∀x y,x∈s.l->y∈s.l->p x y=some (decide (f x=f y))) (hl:s.l.length<2147483648) (Y:s.l.Pairwise λx y=>¬gj (f y) (f x)<0) :
 ∃r,wk s p=some r/\(r.l.map f).Nodup/\(∀d,d∈r.l.map f↔d∈s.l.map f)/\r.l.length<=s.l.length:=by
 have O:∀i,i<s.l.length->0<i->∃(h1:i<s.l.length) (L:i-1<s.l.length),rN s.l p i=some (decide (f s.l[i]=f s.l[i-1])):=λi h h0=>by
  refine⟨h,by omega,?_⟩
  unfold rN;rw[ζd h,ζd (show i-1<s.l.length by omega)]
  exact hp _ _ (List.getElem_mem _) (List.getElem_mem _)
 unfold wk;rw[if_pos ⟨by omega,List.all_eq_true.2 λi hi=>by
  by_cases h:i=0
  .subst h;rfl
  .obtain⟨_,_,e⟩:=O i (List.mem_range.1 hi) (by omega)
   rw[e];simp⟩]
 have A:∀y:List α,(s.l=[]->y=[])->(s.qV y).l=y:=λy z=>by cases s <;> first|rfl|exact(z rfl).symm
 have Q:∀i,i∈kept (λi=>(rN s.l p i).getD false) s.l.length↔i<s.l.length/\(i=0\/(rN s.l p i).getD false=false):=λi=>by unfold kept;simp[List.mem_filter]
 have B:=Aa (λi=>(rN s.l p i).getD false) s.l.length
 have S:(kept (λi=>(rN s.l p i).getD false) s.l.length).Pairwise (·<·):=by unfold kept;exact List.pairwise_lt_range.filter _
 generalize kept (λi=>(rN s.l p i).getD false) s.l.length=K at *
 have w:(s.qV (K.filterMap (s.l[·]?))).l=K.filterMap (s.l[·]?):=A _ λh=>by rw[h];simp
 refine⟨_,rfl,?_,λd=>?_,?_⟩
 .rw[w,List.Nodup,List.pairwise_map,List.pairwise_filterMap];refine S.imp_of_mem ?_;intro i j hi Z aa x u y z C;obtain⟨T,D⟩:=(Q j).1 Z;obtain⟨h1,L,e⟩:=O j T (by omega)
  rw[e]at D;have U:¬f s.l[j]=f s.l[j-1]:=by
   rcases D with h|h
   .omega
   .simpa using h
  rw[ζd h1]at z;cases z;have G:i<s.l.length:=by omega
  rw[ζd G]at u;cases u;have I:=List.pairwise_iff_getElem.1 Y;have a1:=I (j-1) j L h1 (by omega)
  refine U (Ai _ _ a1 ?_)
  by_cases e2:i=j-1
  .subst e2;rw[<-C,vD];omega
  .have X:=I i (j-1) G L (by omega)
   rw[C]at X;exact X
 .rw[w];simp only[List.mem_map,List.mem_filterMap];constructor
  .rintro⟨x,⟨i,_,u⟩,rfl⟩;exact⟨x,List.mem_of_getElem? u,rfl⟩
  .rintro⟨x,u,rfl⟩;obtain⟨i,hi⟩:=List.mem_iff_getElem?.1 u;have key:∀(i:Nat) x,s.l[i]? = some x->∃y,(∃j,j∈K/\s.l[j]? = some y)/\f y=f x:=by
    intro i
    induction i with
    | zero=>intro x u;exact⟨x,⟨0,(Q 0).2 ⟨(ζe.1 u).1,.inl rfl⟩,u⟩,rfl⟩
    | succ i ih=>
     intro x u;have J:=(ζe.1 u).1;obtain⟨h1,L,e⟩:=O (i+1) J (by omega)
     have W:s.l[i+1]=x:=(ζe.1 u).2
     by_cases hg:f s.l[i+1]=f s.l[i+1-1]
     .obtain⟨y,z,hf⟩:=ih _ (ζd (show i<s.l.length by omega))
      exact⟨y,z,by rw[hf,<-W];exact hg.symm⟩
     .exact⟨x,⟨i+1,(Q _).2 ⟨J,.inr (by rw[e];simpa using hg)⟩,u⟩,rfl⟩
   exact key i x hi
 .rw[w];exact Nat.le_trans (List.length_filterMap_le ..) B
theorem JK {a b:Sl Int} (G:a.l.length<1073741824):iQ a b=some (gj a.l b.l):=by
 refine Wp.eq ?_;unfold iQ eC eC.W1;rw[js];refine ny a.l.length (λn s=>s=(n:Int)/\n<=b.l.length/\gj (a.l.drop n) (b.l.drop n)=gj a.l b.l) ⟨rfl,Nat.zero_le _,rfl⟩ ?_ ?_
 .rintro n _ w ⟨rfl,B,u⟩;unfold eC.bK;rw[qw w,b8,cn w,ζb];have hd:a.l.drop n=a.l[n]::a.l.drop (n+1):=List.drop_eq_getElem_cons w
  by_cases C:n<b.l.length
  .have D:b.l.drop n=b.l[n]::b.l.drop (n+1):=List.drop_eq_getElem_cons C;rw[show decide ((n:Int)>=len b)=false from by simp[len];omega,bO,cn C,ζb]
   rw[hd,D]at u;simp only[gj]at u;generalize a.l[n]=x at *;generalize b.l[n]=y at *;have z:n9 x y=some (if x<y then -1 else if x>y then 1 else 0):=by
    unfold n9 qj;simp only[bne_self_eq_false,ζb,bO,b8]
    by_cases h1:x<y
    .simp[h1,bp]
    .by_cases A:x>y
     .simp[h1,A,bp]
     .simp[h1,A,bp]
   rw[z,ζb]
   by_cases h1:x<y
   .rw[if_pos h1]at u ⊢;rw[show ((-1:Int)==0)=false from rfl,bO,bh];exact(bh _).2 ((bh _).2 u)
   .rw[if_neg h1]at u ⊢
    by_cases A:x>y
    .rw[if_pos A]at u ⊢;rw[show ((1:Int)==0)=false from rfl,bO,bh];exact(bh _).2 ((bh _).2 u)
    .rw[if_neg A]at u ⊢;rw[show ((0:Int)==0)=true from rfl,b8,bh];exact⟨f_ n (by omega),C,u⟩
  .rw[show decide ((n:Int)>=len b)=true from by simp[len];omega,b8,bh]
   rw[hd,List.drop_eq_nil_of_le (show b.l.length<=n by omega)]at u
   exact(bh _).2 ((bh _).2 u)
 .rintro _ ⟨rfl,B,u⟩;unfold eC.bK;rw[sj,bO,bh];rw[List.drop_eq_nil_of_le (Nat.le_refl _)]at u
  by_cases h:a.l.length<b.l.length
  .rw[show decide (len a<len b)=true from by simp[len];omega,b8]
   rw[List.drop_eq_getElem_cons h]at u;exact(bh _).2 ((bh _).2 u)
  .rw[show decide (len a<len b)=false from by simp[len];omega,bO]
   rw[List.drop_eq_nil_of_le (show b.l.length<=a.l.length by omega)]at u
   exact(bh _).2 ((bh _).2 u)
theorem N5 {a b:Sl Int} (B:a.l.length<1073741824):eH a b=some (decide (a.l=b.l)):=by
 refine Wp.eq ?_;unfold eH;rw[dH];refine⟨λh=>?_,λh=>(bh _).2 ?_⟩
 .have h:(a.l.length:Int)=b.l.length:=by simpa [len]using h
  have h:a.l.length=b.l.length:=by omega
  unfold eH.W1;refine ny a.l.length (λn s=>s=(n:Int)/\∀i,i<n->a.l[i]? = b.l[i]?) ⟨rfl,λi h=>absurd h (by omega)⟩ ?_ ?_
  .rintro n _ u ⟨rfl,z⟩;unfold eH.bK;have A:n<b.l.length:=by omega
   rw[show decide ((n:Int)<len a)=true from qw u,b8,cn u,ζb,cn A,ζb,dH];refine⟨λw=>(bh _).2 ⟨f_ n (by omega),λi hi=>?_⟩,λw=>(bh _).2 ((bh _).2 ?_)⟩
   .by_cases e:i=n
    .subst e;rw[ζd u,ζd A];simpa using w
    .exact z i (by omega)
   .refine(decide_eq_false λe=>?_).symm
    have h1:a.l[n]? = b.l[n]? := by rw[e]
    rw[ζd u,ζd A]at h1;simp at w h1;exact w h1
  .rintro _ ⟨rfl,z⟩;unfold eH.bK;rw[sj,bO,bh];refine(bh _).2 (decide_eq_true (List.ext_getElem? λi=>?_)).symm
   by_cases hi:i<a.l.length
   .exact z i hi
   .rw[List.getElem?_eq_none (by omega),List.getElem?_eq_none (by omega)]
 .refine(decide_eq_false λe=>?_).symm
  simp[len,e]at h
end Go.VE
namespace Go.VE
section
variable {t:Trace} {A:cq 200 bD}
def ta (A:cq 200 bD) (e:Event):aY:=if e.kind=3 then(ag A e.message).from_ else ⟨0,0⟩
structure P6 (t:Trace) (A:cq 200 bD) (n:Nat) (m:bZ):Prop where
 lens:m.lengths.l=(t.procs.l.take n).map λP=>(P.events.l.length:Int)
 need:m.need.l.map Sl.l=(t.procs.l.take n).map λP=>P.events.l.map (ta A)
theorem of_wp (hS:Small t) (hv:cH t=some true) (hV:VT t) (hM:iX t (cF t) A):Wp (jq t) (P6 t A t.procs.l.length):=by
 have Y:=hV.few;unfold jq jq.W1;refine ny t.procs.l.length (λn s=>s.1=(n:Int)/\s.2.1=t/\P6 t A n s.2.2.2) ⟨rfl,rfl,rfl,rfl⟩ ?_ ?_
 .rintro n ⟨_,_,Z,I⟩ z ⟨h1,B,u⟩;simp only at h1 B u;subst h1;have B:=B.symm;subst B;unfold jq.bK;rw[qw z,b8,cn z,ζb];have O:=ζd z;have aa:=(hS.2 _ (List.getElem_mem z)).1;generalize ab:t.procs.l[n]=P at *;unfold jq.W2;refine ny P.events.l.length (λk s=>s.2.1=(k:Int)/\s.2.2.1=t/\s.2.2.2.2=I/\s.1.l=(P.events.l.take k).map (ta A)) ⟨rfl,rfl,rfl,rfl⟩ ?_ ?_
  .rintro k ⟨nd,_,_,T,_⟩ hk ⟨Q,C,D,L⟩;simp only at Q C D L;subst Q;have C:=C.symm;have D:=D.symm;subst C D;unfold jq.dn;rw[qw hk,b8,cn hk,ζb];have U:pT t n k P.events.l[k]:=⟨P,O,ζd hk⟩;have G:P.events.l.take (k+1)=P.events.l.take k++[P.events.l[k]]:=by rw[List.take_add_one,ζd hk];rfl
   generalize P.events.l[k]=e at *;have fin:∀id,id=ta A e->Wp (jq.J3 nd t.procs (len t.procs) n P.events (len P.events) k t ⟨Sl.nil,Sl.nil⟩ I P id) λw=>match w with|.n S=>S.2.1=((k+1:Nat):Int)/\S.2.2.1=t/\S.2.2.2.2=I/\S.1.l=(P.events.l.take (k+1)).map (ta A)|.x e=>False|.r b=>False:=λid W=>by
    unfold jq.J3;obtain⟨r,h8,h9⟩:=wK (s:=nd) (x:=id) (by rw[L];simp;omega)
    rw[h8,ζb,bh];exact⟨f_ k (by omega),rfl,rfl,by rw[h9,L,G,List.map_append,W];rfl⟩
   rw[dH];constructor
   .intro u;have u:e.kind=3:=by simpa using u
    obtain⟨q,j,y,hy,y1,y2,y3,y4,y5⟩:=Bq hV hM U u;have X:=DN hS hv hM (gy.2 ⟨q,j,hy,rfl⟩:((⟨q,j+1⟩:aY),y)∈cF t) y1;simp only at X;rw[y2]at X;rw[X,ζb];refine(fin _ (by unfold ta;rw[if_pos u,y5])).mono λw J=>?_
    cases w with
    | n s=>exact J
    | x e=>exact J.elim
    | r b=>exact J.elim
   .intro u;have u:¬e.kind=3:=by simpa using u
    refine(fin _ (by unfold ta;rw[if_neg u])).mono λw J=>?_
    cases w with
    | n s=>exact J
    | x e=>exact J.elim
    | r b=>exact J.elim
  .rintro⟨nd,_,_,T,_⟩ ⟨Q,C,D,L⟩;simp only at Q C D L;subst Q;have C:=C.symm;have D:=D.symm;subst C D;unfold jq.dn;have ad:I.lengths.l.length=n:=by rw[u.lens];simp;omega
   have ae:I.need.l.length=n:=by have:=congrArg List.length u.need;simp at this;omega
   obtain⟨x1,a1,a2⟩:=wK (s:=I.lengths) (x:=len P.events) (by omega)
   obtain⟨x2,b1,b2⟩:=wK (s:=I.need) (x:=nd) (by omega)
   rw[sj,bO,bh];simp only;rw[a1,ζb,b1,ζb,bh];have G:t.procs.l.take (n+1)=t.procs.l.take n++[P]:=by rw[List.take_add_one,O];rfl
   refine⟨f_ n (by omega),rfl,?_,?_⟩
   .show x1.l=_;rw[a2,u.lens,G,List.map_append];rfl
   .show x2.l.map Sl.l=_;rw[b2,List.map_append,u.need,G,List.map_append,List.map_cons,L,List.take_length];rfl
 .rintro⟨_,_,Z,I⟩ ⟨h1,B,u⟩;simp only at h1 B u;subst h1;have B:=B.symm;subst B;unfold jq.bK;rw[sj,bO,bh];exact(bh _).2 u
theorem OT (hV:VT t) (hM:iX t (cF t) A) {m:bZ} (hm:P6 t A t.procs.l.length m) {c:Sl Int} (hC:Cons t A c.l) {p:Nat} (hp:p<t.procs.l.length) :
 Wp (nh m c p) λb=>(b=true↔∃a,c.l[p]? = some a/\Cons t A (c.l.set p (a+1))):=by
 have ab:=hC.1.1;have u:=ζd hp;obtain⟨a,w⟩:=hC.1.at_ hp;have hr:=hC.1.2 p a _ w u;generalize t.procs.l[p]=P at *;have D:m.lengths.l[p]? = some (P.events.l.length:Int):=by rw[hm.lens,List.take_length,List.getElem?_map,u];rfl
 have J:=(ζe.1 w).1;have L:idx c (p:Int)=some a:=by rw[mR];exact w
 unfold nh;rw[L,ζb,mR,D,ζb,dH];constructor
 .intro h;have h:a=P.events.l.length:=by simpa using h
  refine(bh _).2 ⟨λh=>(by cases h),λ⟨b,B,O⟩=>?_⟩
  rw[w]at B;cases B;have:=O.1.2 p (a+1) P (by simp[J]) u
  omega
 .intro h;have h:¬a=P.events.l.length:=by simpa using h
  have S:a<P.events.l.length:=by omega
  have hn:=congrArg (λl=>l[p]?) hm.need
  simp only[List.take_length,List.getElem?_map,u,Option.map_some]at hn;obtain⟨nd,T,U⟩:=ζf.1 hn;have z:a.toNat<P.events.l.length:=by omega
  have hx:idx nd a=some (ta A P.events.l[a.toNat]):=by
   rw[Si hr.1,U,List.getElem?_map,ζd z];rfl
  rw[mR,T,ζb,ζb,hx,ζb];have W:=hC.up hV hM u w S;have G:(∃b,c.l[p]? = some b/\Cons t A (c.l.set p (b+1)))↔O_ t A c.l p:=by
   rw[W];exact⟨λ⟨b,B,k⟩=>by rw[w]at B;cases B;exact k,λk=>⟨a,w,k⟩⟩
  rw[G];have X:pT t p a.toNat P.events.l[a.toNat]:=⟨P,u,ζd z⟩;have Y:O_ t A c.l p↔(P.events.l[a.toNat].kind=3->∃b,c.l[(ag A P.events.l[a.toNat].message).from_.proc.toNat]? = some b/\(ag A P.events.l[a.toNat].message).from_.index<=b):=
   ⟨λ⟨Q,e,x,h1,h2,C,h4⟩=>by rw[u]at h1;cases h1;rw[w]at h2;cases h2;rw[ζd z]at C;cases C;exact h4,λh=>⟨P,_,a,u,w,ζd z,h⟩⟩
  rw[Y];generalize P.events.l[a.toNat]=e at *;unfold ta
  by_cases C:e.kind=3
  .rw[if_pos C];obtain⟨q,j,f1,_,_,y,Q,hQ,_⟩:=Bi hV hM X C;have Z:q<c.l.length:=by have:=(ζe.1 hQ).1;omega
   rw[f1];simp only[Int.toNat_natCast];rw[cn Z,ζb,bh];simp only[decide_eq_true_eq];exact⟨λh _=>⟨_,ζd Z,h⟩,λh=>by obtain⟨b,B,aa⟩:=h C;rw[ζd Z]at B;cases B;exact aa⟩
  .rw[if_neg C];have h0:0<c.l.length:=by omega
   have I:=hC.1.pos 0 _ (ζd h0);have hi:idx c ((⟨0,0⟩:aY).proc)=some c.l[0]:=cn (s:=c) (i:=0) h0;rw[hi,ζb,bh];exact⟨λ_ h=>absurd h C,λ_=>by simpa using I⟩
end
end Go.VE
namespace Go.VE
theorem DZ {α:Type}:∀l:List α,(List.range l.length).filterMap (l[·]?)=l
 | []=>rfl
 | x::l=>by
  rw[List.length_cons,List.range_succ_eq_map,List.filterMap_cons,List.filterMap_map];show x::(List.range l.length).filterMap (λi=>(x::l)[i+1]?)=_
  simp only[List.getElem?_cons_succ];rw[DZ l]
theorem RP {α:Type} {s r:Sl α} {p:α->α->Option Bool} (h:wk s p=some r):r.l.Sublist s.l:=by
 unfold wk at h;split at h
 .cases h;have key:((kept (λi=>(rN s.l p i).getD false) s.l.length).filterMap (s.l[·]?)).Sublist s.l:=by
   have e:=DZ s.l
   conv=>rhs;rw[<-e]
   exact List.Sublist.filterMap _ (by unfold kept;exact List.filter_sublist)
  generalize (kept (λi=>(rN s.l p i).getD false) s.l.length).filterMap (s.l[·]?)=y at *
  cases s <;> first|exact key|(simp[Sl.qV,Sl.l])
 .cases h
theorem Ol {c:Sl Int} (D:c.l.length<=1073741824) (B:0<c.l.length):∃d,(eu c).bind Sl.whole=some d/\d.l=c.l:=by
 unfold eu;have key:((ve (Sl.row []:Sl Int) c).bind λx=>some x).bind Sl.whole=some (.row ([]++c.l)):=by
  unfold ve;rw[if_neg (λh=>by rw[h]at B;simp at B),if_pos (show (Sl.row ([]:List Int)).l.length+c.l.length<=2147483648 from show 0+c.l.length<=_ by omega)];rfl
 cases c with
 | nil=>simp[Sl.l]at B
 | emp=>simp[Sl.l]at B
 | part l=>exact⟨_,key,rfl⟩
 | row l=>exact⟨_,key,rfl⟩
section
variable {t:Trace} {A:cq 200 bD}
theorem NR (hS:Small t) (hV:VT t) (hM:iX t (cF t) A) {m:bZ} (hm:P6 t A t.procs.l.length m) {k:Nat} {B:Sl (Sl Int)} (Y:An t A k B) (hl:B.l.length<=5000) :
 Wp (dQ m B) λr=>An t A (k+1) r/\(ins r).Nodup/\r.l.length<=40000/\(ins r).Pairwise λx y=>¬gj y x<0:=by
 have ae:=hV.few;unfold dQ dQ.W1;refine ny B.l.length (λn s=>s.2.1=len B/\s.2.2=(n:Int)/\s.1.l.length<=8*n/\∀d,d∈ins s.1↔∃c∈(B.l.take n).map Sl.l,KH t A c d) ⟨rfl,rfl,Nat.zero_le _,λd=>by simp[ins,Sl.l]⟩ ?_ ?_
 .rintro n ⟨out,_,_⟩ w ⟨e1,e2,g1,g2⟩;simp only at e1 e2 g1 g2;subst e1 e2;have L:=(Y B.l[n].l).1 (wM.2 ⟨_,List.getElem_mem w,rfl⟩);unfold dQ.bK;rw[qw w,b8,cn w,ζb];have O:∀d,d∈(B.l.take (n+1)).map Sl.l↔d∈(B.l.take n).map Sl.l\/d=B.l[n].l:=λd=>Nf w
  generalize B.l[n]=c at *;have af:=L.1.1.1;have ab:=hV.ok.one;unfold dQ.W2;refine ny c.l.length (λj s=>s.2=(j:Int)/\s.1.l.length<=8*n+j/\∀d,d∈ins s.1↔d∈ins out\/∃(p:Nat) (a:Int),p<j/\c.l[p]? = some a/\d=c.l.set p (a+1)/\Cons t A d) ⟨rfl,g1,λd=>⟨.inl,λh=>h.elim id λ⟨p,a,h,_⟩=>absurd h (by omega)⟩⟩ ?_ ?_
  .rintro j ⟨o2,_⟩ U ⟨e,f1,Q⟩;simp only at e f1 Q;subst e;unfold dQ.dn;rw[show decide ((j:Int)<len c)=true from qw U,b8,js];refine(OT hV hM hm L.1 (p:=j) (by omega)).mono λb hb=>?_
   have u:=ζd U;have hr:=L.1.1.2 j _ _ u (ζd (show j<t.procs.l.length by omega))
   have ah:=(hS.2 _ (List.getElem_mem (show j<t.procs.l.length by omega))).1
   generalize c.l[j]=a at *;have more:∀o3:Sl (Sl Int),(∀d,d∈ins o3↔d∈ins o2\/d=c.l.set j (a+1)/\Cons t A d)->∀d,d∈ins o3↔d∈ins out\/∃(p:Nat) (a:Int),p<j+1/\c.l[p]? = some a/\d=c.l.set p (a+1)/\Cons t A d:=λo3 h d=>by
    rw[h,Q];constructor
    .rintro ((h|⟨p,b,h,k⟩)|⟨h,k⟩)
     .exact .inl h
     .exact .inr ⟨p,b,by omega,k⟩
     .exact .inr ⟨j,a,by omega,u,h,k⟩
    .rintro (h|⟨p,b,h,k1,k2,k3⟩)
     .exact .inl (.inl h)
     .by_cases e:p=j
      .subst e;rw[u]at k1;cases k1;exact .inr ⟨k2,k3⟩
      .exact .inl (.inr ⟨p,b,by omega,k1,k2,k3⟩)
   rw[dH];constructor
   .intro ht;obtain⟨x,C,X⟩:=hb.1 ht;rw[u]at C;cases C;obtain⟨d,hd,z⟩:=Ol (c:=c) (by omega) (by omega)
    obtain⟨d2,Z,S⟩:=put_eq (s:=d) (p:=j) (x:=a+1) (by rw[z];exact U)
    obtain⟨o3,aa,D⟩:=wK (s:=o2) (x:=d2) (by omega)
    have hg:Sl.get d j=some a:=by unfold Sl.get;rw[z];exact u
    rw[hd,ζb,Gb (by rw[z];exact U),ζb,hg,ζb,ζb,kF _ (by omega) (by omega),Z,ζb,aa,ζb,bh]
    refine⟨f_ j (by omega),by rw[D];simp;omega,more o3 λe=>?_⟩
    rw[QL D,S,z];exact⟨λh=>h.elim .inl λh=>.inr ⟨h,by rw[h];exact X⟩,λh=>h.elim .inl λh=>.inr h.1⟩
   .intro hf;refine(bh _).2 ⟨f_ j (by omega),Nat.le_succ_of_le f1,more o2 λd=>⟨.inl,λh=>h.elim id λ⟨h1,W⟩=>?_⟩⟩
    rw[hb.2 ⟨a,u,by rw[<-h1];exact W⟩]at hf;cases hf
  .rintro⟨o2,_⟩ ⟨e,f1,Q⟩;simp only at e f1 Q;subst e;unfold dQ.dn;rw[sj,bO,bh];refine(bh _).2 ⟨rfl,f_ n (by omega),show o2.l.length<=_ by omega,λd=>?_⟩
   rw[Q];constructor
   .rintro (h|⟨p,a,_,h⟩)
    .obtain⟨c',hc,G⟩:=(g2 d).1 h;exact⟨c',(O c').2 (.inl hc),G⟩
    .exact⟨_,(O _).2 (.inr rfl),p,a,h⟩
   .rintro⟨c',hc,G⟩;rcases (O c').1 hc with h|h
    .exact .inl ((g2 d).2 ⟨c',h,G⟩)
    .subst h;obtain⟨p,a,h⟩:=G;exact .inr ⟨p,a,(ζe.1 h.1).1,h⟩
 .rintro⟨out,_,_⟩ ⟨e1,e2,g1,g2⟩;simp only at e1 e2 g1 g2;subst e1 e2;unfold dQ.bK;rw[sj,bO,bh];simp only;have I:An t A (k+1) out:=λd=>by
   rw[g2,List.take_length,<-KH.iff hV hM (k:=k)];exact⟨λ⟨c,hc,G⟩=>⟨c,(Y c).1 hc,G⟩,λ⟨c,hc,G⟩=>⟨c,(Y c).2 hc,G⟩⟩
  have J:∀s:Sl (Sl Int),(∀d,d∈ins s↔d∈ins out)->∀x∈s.l,x.l.length<1073741824:=λs h x C=>by
   have:=((I x.l).1 ((h x.l).1 (wM.2 ⟨x,C,rfl⟩))).1.1.1;omega
  obtain⟨r1,h1,p1,s1⟩:=NA (s:=out) (p:=iQ) (f:=Sl.l) (λx y C _=>JK (J out (λ_=>Iff.rfl) x C)) (by omega)
  have T:∀d,d∈ins r1↔d∈ins out:=λd=>(p1.map Sl.l).mem_iff
  have ad:r1.l.length=out.l.length:=p1.length_eq;obtain⟨r2,W,nd,m2,l2⟩:=Na (s:=r1) (p:=jV) (f:=Sl.l) (λx y C _=>by unfold jV;rw[N5 (J r1 T x C)];rfl) (by omega) s1
  rw[h1,ζb,W,ζb,bh];exact⟨λd=>(m2 d).trans ((T d).trans (I d)),nd,by omega,by unfold ins;rw[List.pairwise_map];exact s1.sublist (RP W)⟩
structure VW (t:Trace) (A:cq 200 bD) (k:Nat) (o:Sl (Sl (Sl Int))):Prop where
 nd:(o.l.flatMap ins).Nodup
 mem:∀d,d∈o.l.flatMap ins↔Cons t A d/\d.sum<(k:Int)
end
end Go.VE
namespace Go.VE
section
variable {t:Trace} {A:cq 200 bD}
end
end Go.VE
namespace Go.VE
section
variable {t:Trace} {A:cq 200 bD}
end
end Go.VE
namespace Go.VE
section
variable {t:Trace} {A:cq 200 bD}
end
end Go.VE
namespace Go.VE
section
variable {α σ:Type}
def v_ (p:α->σ->Option (Bool×σ)):List α->σ->Option (Bool×σ)
 | [],x=>some (false,x)
 | a::r,x=>(p a x).bind λy=>if y.1 then some (true,y.2)else v_ p r y.2
theorem Io {s:Sl α} {p:α->σ->Option (Bool×σ)} {x:σ} (B:s.l.length<1073741824):xy s p x=v_ p s.l x:=by
 have key:∀(rem:List α) (j:Nat) (x:σ),s.l.drop j=rem->((cE (Cl s p) ((j:Int),x)).bind (Fw.elim (λe=>some ((-1:Int),e)) λe=>some e)).bind (λy:Int×σ=>some (decide (y.1>=0),y.2))=v_ p rem x:=by
  intro rem
  induction rem with
  | nil=>
   intro j x hd;have h1:decide ((j:Int)<len s)=false:=by
    have:s.l.length<=j:=by simpa using hd
    simp[len];omega
   rw[fq];simp only[Cl,h1,bp,Bool.false_eq_true,if_false,ζb,Fw.elim,v_];rfl
  | cons a rem u=>
   intro j x hd;have h1:j<s.l.length:=by
    apply Classical.byContradiction;intro A;rw[List.drop_eq_nil_of_le (by omega)]at hd;cases hd
   have w:=List.drop_eq_getElem_cons h1;rw[w]at hd;simp only[List.cons.injEq]at hd;rw[fq];simp only[Cl,qw h1,bp,if_true,cn h1,ζb,hd.1,v_]
   cases p a x with
   | none=>rfl
   | some y=>
    obtain⟨b,z⟩:=y;simp only[ζb]
    cases b with
    | true=>simp[Fw.elim]
    | false=>
     simp only[Bool.false_eq_true,if_false,ζb,f_ j (by omega)]
     exact u (j+1) z hd.2
 exact key s.l 0 x rfl
def CF (p:α->Option Bool):List α->Option Bool
 | []=>some false
 | a::r=>(p a).bind λb=>if b then some true else CF p r
theorem DK (p:α->Option Bool):∀l:List α,v_ (λx (u:Unit)=>(p x).map λb=>(b,u)) l ()=(CF p l).map λb=>(b,())
 | []=>rfl
 | a::r=>by
  simp only[v_,CF]
  cases p a with
  | none=>rfl
  | some b=>cases b <;> simp[DK p r]
theorem vN {s:Sl α} (p:α->Option Bool) (B:s.l.length<1073741824):xy s (λx (u:Unit)=>(p x).map λb=>(b,u)) ()=(CF p s.l).map λb=>(b,()):=by rw[Io B,DK]
theorem uV {p:α->Option Bool} {f:α->Bool}:∀{l:List α},(∀x∈l,p x=some (f x))->CF p l=some (l.any f)
 | [],_=>rfl
 | a::r,h=>by
  simp only[CF,h a (by simp),ζb,List.any_cons,uV (λx B=>h x (List.mem_cons_of_mem _ B))]
  cases f a <;> rfl
theorem l8 {δ:Type} {b:(α->Option δ)->α->Option δ} {n:Nat} (h:0<n) (z:α):fG b n z=b (fG b (n-1)) z:=by
 cases n with
 | zero=>omega
 | succ n=>rfl
end
def Kd (l:List Int) (az:List Assign):List Int:=az.foldl (λl a=>l.set a.var.toNat a.value) l
def iu (P:bM):Nat->List Int
 | 0=>P.vars.l.map Var.init_
 | k+1=>match P.events.l[k]? with
  | some e=>Kd (iu P k) e.assign.l
  | none=>iu P k
theorem EY:∀(az:List Assign) (l:List Int),(Kd l az).length=l.length
 | [],l=>rfl
 | a::r,l=>by
  show (Kd (l.set a.var.toNat a.value) r).length=_;rw[EY r];simp
theorem o7 (P:bM):∀k,(iu P k).length=P.vars.l.length
 | 0=>by simp[iu]
 | k+1=>by
  unfold iu;split
  .rw[EY,o7 P k]
  .exact o7 P k
def Nr {α:Type} (s:Sl α):Prop:=s=.nil\/∃l,s=.row l
theorem FU:∀(vs:List Var) (s:Sl Int),Nr s->s.l.length+vs.length<1073741824->∃B,uc vs s=some B/\Nr B/\B.l=s.l++vs.map Var.init_
 | [],s,h,_=>⟨s,rfl,h,by simp⟩
 | v::r,s,h,D=>by
  simp only[List.length_cons]at D;have h1:fZ s v.init_=some (.row (s.l++[v.init_])):=by unfold fZ;rw[if_pos (by omega)]
  obtain⟨B,g1,g2,g3⟩:=FU r (.row (s.l++[v.init_])) (.inr ⟨_,rfl⟩) (by show (s.l++[v.init_]).length+r.length<1073741824;simp;omega)
  refine⟨B,?_,g2,by rw[g3];show (s.l++[v.init_])++r.map Var.init_=_;simp⟩
  simp only[uc,h1,ζb,g1]
theorem EV:∀(az:List Assign) (s:Sl Int),Nr s->(∀a∈az,0<=a.var/\a.var<s.l.length)->∃B,uC az s=some B/\Nr B/\B.l=Kd s.l az
 | [],s,h,_=>⟨s,rfl,h,rfl⟩
 | a::r,s,h,D=>by
  obtain⟨G,h1⟩:=D a (by simp)
  have hc:Sl.rM s a.var=some a.var.toNat:=by unfold Sl.rM;rw[if_pos ⟨G,by omega⟩]
  rcases h with rfl|⟨l,rfl⟩
  .simp[Sl.l]at h1;omega
  have u:Sl.put (.row l) a.var.toNat a.value=some (.row (l.set a.var.toNat a.value)):=by
   unfold Sl.put;rw[if_pos (by simp[Sl.l]at h1 ⊢;omega)]
  obtain⟨B,g1,g2,g3⟩:=EV r (.row (l.set a.var.toNat a.value)) (.inr ⟨_,rfl⟩) (λb w=>by
   have:=D b (List.mem_cons_of_mem _ w);simpa [Sl.l]using this)
  refine⟨B,?_,g2,g3⟩;simp only[uC,hc,u,ζb,g1]
theorem IK {s:Sl Int} (h:Nr s) (B:s.l.length<1073741824):∃c,Jc s=some c/\c.l=s.l:=by
 rcases h with rfl|⟨l,rfl⟩
 .exact⟨.nil,rfl,rfl⟩
 .unfold Jc IB.eu ve;simp only[Sl.isNil,ζb,bp,Bool.false_eq_true,if_false]
  by_cases u:(Sl.row l).l=[]
  .rw[if_pos u];exact⟨.row [],rfl,u.symm⟩
  .rw[if_neg u,if_pos (by simp[Sl.l]at B ⊢;omega)]
   exact⟨_,rfl,by simp[Sl.l]⟩
def sW (P:bM):Prop:=∀e∈P.events.l,∀a∈e.assign.l,0<=a.var/\a.var<P.vars.l.length
theorem FE {P:bM} (B:sW P) (hv:P.vars.l.length<1073741824):∀(rem:List Event) (k:Nat) (s:Sl Int),P.events.l.drop k=rem->Nr s->s.l=iu P k ->
 ∃r,uf (k:Int) rem s=some r/\r.length=rem.length/\∀(i:Nat) x,r[i]? = some x->x.1=((k+i+1:Nat):Int)/\x.2.l=iu P (k+i+1)
 | [],k,s,_,_,_=>⟨[],rfl,rfl,by simp⟩
 | e::rem,k,s,hd,D,G=>by
  have h1:k<P.events.l.length:=by
   apply Classical.byContradiction;intro D;rw[List.drop_eq_nil_of_le (by omega)]at hd;cases hd
  have A:=List.drop_eq_getElem_cons h1;rw[A]at hd;simp only[List.cons.injEq]at hd;have C:e∈P.events.l:=hd.1▸List.getElem_mem h1;have w:s.l.length=P.vars.l.length:=by rw[G,o7]
  obtain⟨n,g1,g2,g3⟩:=EV e.assign.l s D (λa I=>by rw[w];exact B e C a I)
  have u:iu P (k+1)=n.l:=by
   rw[g3,G];unfold iu;rw[ζd h1,hd.1];cases k <;> rfl
  obtain⟨c,g4,g5⟩:=IK g2 (by rw[<-u,o7];exact hv)
  obtain⟨r,J,L,O⟩:=FE B hv rem (k+1) n hd.2 g2 u.symm;refine⟨((k:Int)+1,c)::r,?_,by simp[L],λi x z=>?_⟩
  .simp only[uf,g1,g4,ζb];rw[show (k:Int)+1=((k+1:Nat):Int)from rfl,J];rfl
  .cases i with
   | zero=>
    simp only[List.getElem?_cons_zero,ζa]at z;subst z;exact⟨rfl,by rw[g5,<-u]⟩
   | succ i=>
    rw[List.getElem?_cons_succ]at z;obtain⟨Q,S⟩:=O i x z;exact⟨by rw[Q];congr 1;omega,by rw[S];congr 1;omega⟩
theorem Eb {P:bM} (B:sW P) (hv:P.vars.l.length<1073741824) (J:P.events.l.length<1073741824) (D:∀e∈P.events.l,e.assign.l.length<1073741824) :
 ∃r,iw P=some r/\r.length=P.events.l.length+1/\∀(i:Nat) x,r[i]? = some x->x.1=(i:Int)/\x.2.l=iu P i:=by
 obtain⟨s,g1,g2,g3⟩:=FU P.vars.l .nil (.inl rfl) (by simpa [Sl.l]using hv)
 have w:s.l=iu P 0:=by rw[g3];simp[Sl.l,iu]
 obtain⟨c,g4,g5⟩:=IK g2 (by rw[w,o7];exact hv)
 obtain⟨r,z,A,C⟩:=FE B hv P.events.l 0 s rfl g2 w;refine⟨(0,c)::r,?_,by simp[A],λi x u=>?_⟩
 .unfold iw;have hc:(ni P.vars.l.length&&(ni P.events.l.length&&P.events.l.all λe=>ni e.assign.l.length))=true:=by
   simp only[ζh,List.all_eq_true,ni,decide_eq_true_eq];exact⟨by omega,by omega,λe h=>by have:=D e h;omega⟩
  rw[if_pos hc,g1,ζb,g4,ζb];rw[show ((0:Nat):Int)=0 from rfl]at z;rw[z];rfl
 .cases i with
  | zero=>
   simp only[List.getElem?_cons_zero,ζa]at u;subst u;exact⟨rfl,by rw[g5,w]⟩
  | succ i=>
   rw[List.getElem?_cons_succ]at u;obtain⟨G,I⟩:=C i x u;exact⟨by rw[G];congr 1;omega,by rw[I];congr 1;omega⟩
theorem EO {P:bM} (B:sW P) (hv:P.vars.l.length<1073741824) (D:P.events.l.length<1073741824) (G:∀e∈P.events.l,e.assign.l.length<1073741824) {k:Nat} (hk:k<=P.events.l.length) :
 ∃x,eD P (k:Int)=some x/\x.l=iu P k:=by
 obtain⟨r,h1,L,C⟩:=Eb B hv D G;have key:∀(rem:List (Int×Sl Int)) (i:Nat) (q:Sl Int),r.drop i=rem->i<=k->∃x,(jC (λ(x:Int×(Sl Int)) (q:Sl Int)=>eD.jt P k x q) rem q).bind (Fw.o5 (λq=>some Sl.nil) (λe=>Empty.elim e) (λe=>some e))=some x/\x.l=iu P k:=by
  intro rem
  induction rem with
  | nil=>
   intro i q hd hi;have:r.length<=i:=by simpa using hd
   omega
  | cons y rem I=>
   intro i q hd hi;have u:i<r.length:=by omega
   have e2:=List.drop_eq_getElem_cons u;rw[e2]at hd;simp only[List.cons.injEq]at hd;obtain⟨A,J⟩:=C i y (by rw[ζd u,hd.1])
   by_cases w:i=k
   .subst w;refine⟨y.2,?_,J⟩;simp only[jC,eD.jt,A,beq_self_eq_true,bp,if_true,ζb,Fw.o5]
   .have z:(y.1==(k:Int))=false:=by rw[A];simp;omega
    obtain⟨x,g1,g2⟩:=I (i+1) .nil hd.2 (by omega)
    refine⟨x,?_,g2⟩;simp only[jC,eD.jt,z,bp,Bool.false_eq_true,if_false,ζb];exact g1
 obtain⟨x,g1,g2⟩:=key r 0 .nil rfl (Nat.zero_le _);refine⟨x,?_,g2⟩;unfold eD lV eD.E1;simp only[ζb,h1];exact g1
end Go.VE
namespace Go.VE
mutual
def Pred.sz:Pred->Nat
 | ⟨_,_,_,_,_,l⟩=>1+Pred.Sc l
def Pred.Sc:Sl Pred->Nat
 | .nil=>0
 | .emp=>0
 | .row l=>Pred.wH l
 | .part l=>Pred.wH l
def Pred.wH:List Pred->Nat
 | []=>0
 | x::r=>Pred.sz x+Pred.wH r
end
mutual
def Pred.dp:Pred->Nat
 | ⟨_,_,_,_,_,l⟩=>1+Pred.S7 l
def Pred.S7:Sl Pred->Nat
 | .nil=>0
 | .emp=>0
 | .row l=>Pred.ze l
 | .part l=>Pred.ze l
def Pred.ze:List Pred->Nat
 | []=>0
 | x::r=>max (Pred.dp x) (Pred.ze r)
end
mutual
def Pred.gz (f:Pred->Bool):Pred->Bool
 | ⟨a,b,c,d,e,l⟩=>f ⟨a,b,c,d,e,l⟩&&Pred.Kc f l
def Pred.Kc (f:Pred->Bool):Sl Pred->Bool
 | .nil=>true
 | .emp=>true
 | .row l=>Pred.CL f l
 | .part l=>Pred.CL f l
def Pred.CL (f:Pred->Bool):List Pred->Bool
 | []=>true
 | x::r=>Pred.gz f x&&Pred.CL f r
end
theorem Pred.Um (s:Sl Pred):Pred.Sc s=Pred.wH s.l:=by cases s <;> simp[Pred.Sc,Pred.wH,Sl.l]
theorem Pred.TR (s:Sl Pred):Pred.S7 s=Pred.ze s.l:=by cases s <;> simp[Pred.S7,Pred.ze,Sl.l]
theorem Pred.GS (f:Pred->Bool):∀l:List Pred,Pred.CL f l=l.all (Pred.gz f)
 | []=>by simp[Pred.CL]
 | x::r=>by simp only[Pred.CL,List.all_cons,Pred.GS f r]
theorem Pred.Sr (f:Pred->Bool) (s:Sl Pred):Pred.Kc f s=s.l.all (Pred.gz f):=by cases s <;> simp[Pred.Kc,Pred.GS,Sl.l]
theorem Pred.TU (p:Pred):p.sz=1+Pred.wH p.l.l:=by cases p;simp only[Pred.sz,Pred.Um]
theorem Pred.Eu (p:Pred):p.dp=1+Pred.ze p.l.l:=by cases p;simp only[Pred.dp,Pred.TR]
theorem Pred.jG (f:Pred->Bool) (p:Pred):p.gz f=(f p&&p.l.l.all (Pred.gz f)):=by cases p;simp only[Pred.gz,Pred.Sr]
theorem Pred.H9:∀{l:List Pred} {q:Pred},q∈l->q.dp<=Pred.ze l
 | x::r,q,h=>by
  simp only[Pred.ze];rcases List.mem_cons.1 h with rfl|h
  .omega
  .have:=Pred.H9 h;omega
theorem Pred.rC {p q:Pred} (h:q∈p.l.l):q.dp<p.dp:=by rw[p.Eu];have:=Pred.H9 h;omega
theorem Pred.uS (p:Pred):0<p.dp:=by rw[p.Eu];omega
theorem Pred.ind {M:Pred->Prop} (h:∀p,(∀q∈p.l.l,M q)->M p) (p:Pred):M p:=by
 have key:∀n p,p.dp<=n->M p:=by
  intro n
  induction n with
  | zero=>intro p u;have:=p.uS;omega
  | succ n w=>intro p u;exact h p λq z=>w q (by have:=Pred.rC z;omega)
 exact key _ p (Nat.le_refl _)
abbrev Pred.Sm (p:Pred):Prop:=p.gz (λq=>decide (q.l.l.length<1073741824))=true
theorem Pred.Sm.len {p:Pred} (h:p.Sm):p.l.l.length<1073741824:=by
 unfold Pred.Sm at h;rw[p.jG]at h;simp only[ζh,decide_eq_true_eq]at h;exact h.1
theorem Pred.Sm.wR {p q:Pred} (h:p.Sm) (B:q∈p.l.l):q.Sm:=by
 unfold Pred.Sm at h;rw[p.jG]at h;simp only[ζh,List.all_eq_true]at h;exact h.2 q B
theorem Ii {f:Pred->Option Bool} {g:Pred->Bool} (p:Pred) (B:p.Sm):p.gz (λq=>f q==some (g q))=true->∀n,p.dp<=n->fG (λr (z:Pred)=>h_ z f r) n p=some (p.gz g):=by
 induction p using Pred.ind with
 | h p A=>
  intro u n C;rw[p.jG]at u;simp only[ζh,List.all_eq_true,beq_iff_eq]at u;have hd:=p.Eu;rw[l8 (by omega)]
  show h_ p f _=_;unfold h_;rw[u.1,ζb,p.jG]
  cases g p with
  | false=>rfl
  | true=>
   rw[b8,vN _ B.len,uV (f:=λq => !q.gz g) (λq w=>by
    have:=A q w (B.wR w) (u.2 q w) (n-1) (by have:=Pred.rC w;omega)
    show (fG (λr (z:Pred)=>h_ z f r) (n-1) q).bind _=_
    rw[this];rfl)]
   simp only[Option.map_some,ζb,Bool.true_and]
   congr 1
   rw[Bool.eq_iff_iff];simp
end Go.VE
namespace Go.VE
abbrev Ls (p:Pred):Bool:=ByteArray.toList p.name==ByteArray.toList ByteArray.empty
abbrev Kr (p:Pred) (c:Int):Bool:=(len p.l==c)&&(!decide (p.n<0)&&(!decide (p.n>1125899906842624)&&((p.n==0||p.kind==1)&&(p.kind==2||(p.kind==3||(p.kind==4||(p.proc==0&&(p.peer==0&&Ls p))))))))
theorem QK:∀k:_root_.Fin 22,1<=k.1->(cq.at xT ((k.1:Nat):Int)).isSome=true:=by decide
theorem DP {k:Int} (h1:1<=k) (B:k<22):∃c,cq.at xT k=some c:=by
 have g:=QK ⟨k.toNat,by omega⟩ (by show 1<=k.toNat;omega)
 simp only at g;rw[show ((k.toNat:Nat):Int)=k from by omega]at g
 exact Option.isSome_iff_exists.1 g
theorem Ie {p:Pred} {c:Int} (h1:1<=p.kind) (B:p.kind<22) (hc:cq.at xT p.kind=some c):jx p=some (Kr p c):=by
 unfold jx sw Kr Ls;rw[decide_eq_false (show ¬p.kind<1 by omega),bO,ζb,decide_eq_false (show ¬p.kind>=22 by omega),bO,hc,ζb,ζb]
 generalize (len p.l==c)=e;generalize decide (p.n<0)=a;generalize decide (p.n>1125899906842624)=b;generalize (p.n==0)=z;generalize (p.kind==1)=k1;generalize (p.kind==2)=u;generalize (p.kind==3)=w;generalize (p.kind==4)=A;generalize (p.proc==0)=d1;generalize (p.peer==0)=d2;generalize (ByteArray.toList p.name==ByteArray.toList ByteArray.empty)=d3
 cases e with
 | false=>rfl
 | true=>cases a with
  | true=>rfl
  | false=>cases b with
   | true=>rfl
   | false=>cases z <;> cases k1 <;> first|rfl|(cases u <;> cases w <;> cases A <;> cases d1 <;> cases d2 <;> cases d3 <;> rfl)
theorem Gt {p:Pred} (h:p.kind<1\/22<=p.kind):jx p=some false:=by
 unfold jx;have:(bp (decide (p.kind<1)) (some true) (some (decide (p.kind>=22))):Option Bool)=some true:=by
  by_cases h1:p.kind<1
  .rw[decide_eq_true h1];rfl
  .rw[decide_eq_false h1,bO,decide_eq_true (by omega)]
 rw[this];rfl
def fB (p:Pred):Bool:=(jx p).getD false
theorem Qx (p:Pred):jx p=some (fB p):=by
 unfold fB
 by_cases h:p.kind<1\/22<=p.kind
 .rw[Gt h];rfl
 .obtain⟨c,hc⟩:=DP (k:=p.kind) (by omega) (by omega)
  rw[Ie (by omega) (by omega) hc];rfl
theorem uH {p:Pred} (h:fB p=true):1<=p.kind/\p.kind<22/\cq.at xT p.kind=some (len p.l):=by
 by_cases g:p.kind<1\/22<=p.kind
 .unfold fB at h;rw[Gt g]at h;cases h
 .obtain⟨c,hc⟩:=DP (k:=p.kind) (by omega) (by omega)
  unfold fB at h;rw[Ie (by omega) (by omega) hc]at h
  simp only[Kr,Option.getD_some,ζh,beq_iff_eq]at h;exact⟨by omega,by omega,by rw[hc,h.1]⟩
def nE (p:Pred):Bool:=decide (p.sz<=200)&&(decide (p.dp<=20)&&p.gz fB)
abbrev mz (p:Pred) (d l:Nat):Bool:=decide (p.sz<=l)&&(decide (p.dp+d<=21)&&p.gz fB)
abbrev tC (k:List Pred) (d l:Nat):Bool:=decide (Pred.wH k<=l)&&(decide (Pred.ze k+d<=21)&&k.all (Pred.gz fB))
theorem Rw (p:Pred) (T:p.Sm):∀(n d l:Nat),1<=n->22<=n+d->d<=21->1<=d->l<=200 ->
 ∃D:Int,fG (λr (z:Pred×Int×Int)=>dV z.1 z.2.1 z.2.2 r) n (p,(d:Int),(l:Int))=some (mz p d l,D)/\(mz p d l=true->D=((l-p.sz:Nat):Int)):=by
 induction p using Pred.ind with
 | h p I=>
  intro n d l hn Z hd iA hl;have G:=p.TU;have L:=p.Eu;rw[l8 (by omega)]
  have I:=λq J=>I q J (T.wR J) (n-1)
  show ∃D,dV p (d:Int) (l:Int) (fG (λr (z:Pred×Int×Int)=>dV z.1 z.2.1 z.2.2 r) (n-1))=_/\_
  generalize fG (λr (z:Pred×Int×Int)=>dV z.1 z.2.1 z.2.2 r) (n-1)=R at I ⊢
  unfold dV;rw[kF _ (by omega) (by omega),Qx]
  by_cases h0:l=0
  .subst h0;have w:mz p d 0=false:=by
    have:¬(p.sz<=0):=by omega
    simp only[mz,decide_eq_false this,Bool.false_and]
   rw[w];exact⟨_,rfl,λh=>by cases h⟩
  rw[decide_eq_false (show ¬((l:Int)-1<0)by omega),bO,ζb]
  by_cases h1:20<d
  .have w:mz p d l=false:=by
    have:¬(p.dp+d<=21):=by have:=p.uS;omega
    simp only[mz,decide_eq_false this,Bool.false_and,Bool.and_false]
   rw[w,decide_eq_true (show (d:Int)>20 by omega)]
   exact⟨_,rfl,λh=>by cases h⟩
  rw[decide_eq_false (show ¬((d:Int)>20)by omega),bO,ζb]
  have U:=p.jG fB
  cases W:fB p with
  | false=>
   have w:mz p d l=false:=by simp[mz,U,W]
   rw[w];exact⟨_,rfl,λh=>by cases h⟩
  | true=>
   rw[ζb,show (!true)=false from rfl,bO,Io T.len];have key:∀(k:List Pred),(∀q∈k,q∈p.l.l)->∀m:Nat,m<=200->∃m':Int,v_ (λx s=>gG x (d:Int) s R) k (m:Int)=some (!tC k (d+1) m,m')/\(tC k (d+1) m=true->m'=((m-Pred.wH k:Nat):Int)):=by
    intro k
    induction k with
    | nil=>intro _ m _;exact⟨m,by simp[v_,tC,Pred.wH,Pred.ze];omega,λ_=>by simp[Pred.wH]⟩
    | cons q k O=>
     intro hk m hm;obtain⟨D,g1,g2⟩:=I q (hk q (by simp)) (d+1) m (by omega) (by omega) (by omega) (by omega) hm
     have e1:gG q (d:Int) (m:Int) R=some (!mz q (d+1) m,D):=by
      unfold gG;rw[f_ d (by omega),g1];rfl
     simp only[v_,e1,ζb];have u:tC (q::k) (d+1) m=(mz q (d+1) m&&tC k (d+1) (m-q.sz)):=by
      rw[Bool.eq_iff_iff];simp only[tC,mz,Pred.wH,Pred.ze,ζh,List.all_cons];constructor
      .rintro⟨A,B,C,a4⟩;have A:=of_decide_eq_true A;have B:=of_decide_eq_true B;exact⟨⟨decide_eq_true (by omega),decide_eq_true (by omega),C⟩,decide_eq_true (by omega),decide_eq_true (by omega),a4⟩
      .rintro⟨⟨A,B,C⟩,X,Y,b3⟩;have A:=of_decide_eq_true A;have B:=of_decide_eq_true B;have X:=of_decide_eq_true X;have Y:=of_decide_eq_true Y;exact⟨decide_eq_true (by omega),decide_eq_true (by omega),C,b3⟩
     cases w:mz q (d+1) m with
     | false=>
      rw[u,w];exact⟨D,rfl,λh=>by cases h⟩
     | true=>
      obtain⟨m',Q,S⟩:=O (λx hx=>hk x (List.mem_cons_of_mem _ hx)) (m-q.sz) (by omega)
      rw[u,w,Bool.true_and,g2 w];refine⟨m',by simpa using Q,λh=>?_⟩
      rw[S h];have:q.sz<=m:=by
       have:=w;simp only[mz,ζh]at this;exact of_decide_eq_true this.1
      congr 1
      show m-q.sz-Pred.wH k=m-(q.sz+Pred.wH k);omega
   obtain⟨m',Q,S⟩:=key p.l.l (λq J=>J) (l-1) (by omega)
   rw[show ((l:Int)-1)=((l-1:Nat):Int)from by omega,Q,ζb]
   have w:mz p d l=tC p.l.l (d+1) (l-1):=by
    rw[Bool.eq_iff_iff];simp only[mz,tC,ζh,U,W,true_and,G,L];constructor
    .rintro⟨A,B,C⟩;have A:=of_decide_eq_true A;have B:=of_decide_eq_true B;exact⟨decide_eq_true (by omega),decide_eq_true (by omega),C⟩
    .rintro⟨A,B,C⟩;have A:=of_decide_eq_true A;have B:=of_decide_eq_true B;exact⟨decide_eq_true (by omega),decide_eq_true (by omega),C⟩
   refine⟨m',by rw[w];simp,λh=>?_⟩
   rw[S (by rw[<-w];exact h),G]
   congr 1
   omega
theorem xJ {p:Pred} (B:p.Sm):kg p=some (nE p):=by
 obtain⟨C,h,-⟩:=Rw p B 100000 1 200 (by omega) (by omega) (by omega) (by omega) (by omega)
 unfold kg oJ;rw[show fG (λr (z:Pred×Int×Int)=>dV z.1 z.2.1 z.2.2 r) 100000 (p,(1:Int),(200:Int))=_ from h]
 simp only[ζb]
 congr 1
 rw[Bool.eq_iff_iff];simp only[nE,mz,ζh];constructor
 .rintro⟨w,u,A⟩;have u:=of_decide_eq_true u;exact⟨w,decide_eq_true (by omega),A⟩
 .rintro⟨w,u,A⟩;have u:=of_decide_eq_true u;exact⟨w,decide_eq_true (by omega),A⟩
end Go.VE
namespace Go.VE
section
variable {t:Trace}
abbrev wo (t:Trace) (p:Int):Bool:=decide (p>=0)&&decide (p<len t.procs)
def Jm (t:Trace) (p:Int) (name:ByteArray):Bool:=match idx t.procs p with
 | some P=>P.vars.l.any λv=>ByteArray.toList v.name==ByteArray.toList name
 | none=>false
def tV (t:Trace) (q:Pred):Bool:=
 if q.kind==2 then wo t q.proc&&(q.peer==0&&Jm t q.proc q.name)
 else if q.kind==3 then wo t q.proc&&(q.peer==0&&Ls q)
 else if q.kind==4 then wo t q.proc&&(wo t q.peer&&(!(q.proc==q.peer)&&Ls q))else true
theorem Im (p:Int):jb t p=some (wo t p):=by
 unfold jb wo;cases decide (p>=0) <;> rfl
theorem zn {p:Int} (h:wo t p=true):∃n:Nat,p=n/\n<t.procs.l.length:=by
 simp only[wo,ζh]at h;have h1:=of_decide_eq_true h.1;have u:=of_decide_eq_true h.2;exact⟨p.toNat,by omega,by simp only[len]at u;omega⟩
theorem Nn (hS:Small t) {p:Int} (h:wo t p=true) (name:ByteArray):oW t p name=some (Jm t p name):=by
 obtain⟨n,rfl,u⟩:=zn h;unfold oW Jm;rw[cn u,ζb,Ap (p:=λz=>mq z name) (f:=λv=>ByteArray.toList v.name==ByteArray.toList name) (λv _=>rfl) (hS.2 _ (List.getElem_mem u)).2.1]
 rfl
theorem Ri (hS:Small t) (q:Pred):jo q t=some (tV t q):=by
 unfold jo tV Ls;rw[Im,Im]
 cases q.kind==2 with
 | true=>
  rw[b8,if_pos rfl,ζb]
  cases h:wo t q.proc with
  | false=>rfl
  | true=>
   rw[Nn hS h];cases q.peer==0 <;> rfl
 | false=>
  rw[bO,if_neg (by simp)]
  cases q.kind==3 with
  | true=>
   rw[b8,if_pos rfl];cases wo t q.proc <;> cases q.peer==0 <;> cases (ByteArray.toList q.name==ByteArray.toList ByteArray.empty) <;> rfl
  | false=>
   rw[bO,if_neg (by simp)]
   cases q.kind==4 with
   | true=>
    rw[b8,if_pos rfl];cases wo t q.proc <;> cases wo t q.peer <;> cases (q.proc==q.peer) <;> cases (ByteArray.toList q.name==ByteArray.toList ByteArray.empty) <;> rfl
   | false=>rfl
theorem FN {f:Pred->Option Bool} {g:Pred->Bool} (h:∀q,f q=some (g q)) {p:Pred} (B:p.Sm) (hd:p.dp<=100000):lM p f=some (p.gz g):=by
 refine Ii p B ?_ _ hd
 induction p using Pred.ind with
 | h p w=>
  rw[p.jG,ζh,List.all_eq_true];exact⟨by rw[h];simp,λq u=>w q u (B.wR u) (by have:=Pred.rC u;omega)⟩
theorem FL (hS:Small t) {p:Pred} (B:p.Sm) (hd:p.dp<=100000):mB t p=some (p.gz (tV t)):=by
 unfold mB;rw[FN (g:=tV t) (λq=>Ri hS q) B hd];rfl
abbrev oy (k:Int):Int:=if k<=8 then 1 else 2
abbrev Ag (k:Int):Int:=if k<=12 then 1 else 2
def vZ (q:Pred):Bool:=q.l.l.all λk=>oy k.kind==Ag q.kind
theorem y8 (k:Int):kj k=some (oy k):=by
 unfold kj oy
 by_cases h:k<=8
 .rw[decide_eq_true h,if_pos h];rfl
 .rw[decide_eq_false h,if_neg h];rfl
theorem Qu (k:Int):qi k=some (Ag k):=by
 unfold qi Ag
 by_cases h:k<=12
 .rw[decide_eq_true h,if_pos h];rfl
 .rw[decide_eq_false h,if_neg h];rfl
theorem Rl {q:Pred} (B:q.l.l.length<1073741824):g_ q=some (vZ q):=by
 unfold g_ vZ;rw[vN _ B,uV (f:=λk => !(oy k.kind==Ag q.kind)) (λk _=>by
  unfold kM;rw[y8,Qu];rfl)]
 simp only[Option.map_some,ζb]
 congr 1
 rw[Bool.eq_iff_iff];simp
theorem DV {p:Pred} (B:p.Sm) (hd:p.dp<=100000):mQ p=some (p.gz vZ):=by
 unfold mQ;have:p.gz (λq=>(λz=>g_ z) q==some (vZ q))=true:=by
  clear hd
  induction p using Pred.ind with
  | h p w=>
   rw[p.jG,ζh,List.all_eq_true];exact⟨by show (g_ p==some (vZ p))=true;rw[Rl B.len];simp,λq u=>w q u (B.wR u)⟩
 unfold lM;rw[Ii p B this _ hd];rfl
def ET (q:Pred):Bool:=decide (q.kind>=18)&&decide (q.kind<=21)
theorem zB {p:Pred} (B:p.Sm):kA p=some (nE p && !p.gz λq => !ET q):=by
 unfold kA;rw[xJ B,ζb]
 cases u:nE p with
 | false=>rfl
 | true=>
  have hd:p.dp<=20:=by
   simp only[nE,ζh]at u;exact of_decide_eq_true u.2.1
  rw[b8,FN (g:=λq => !ET q) (λq=>by
   unfold kI pH ET;cases decide (q.kind>=18) <;> rfl) B (by omega)]
  rfl
end
end Go.VE
namespace Go.VE
theorem HH {t:Trace} (hS:Small t) (hv:cH t=some true) (hV:VT t) {A:cq 200 bD} (hM:iX t (cF t) A) (c:Sl Int):Wp (iz t c) λr=>Code t A c.l r.2:=by
 have G:=hV.few;unfold iz;rw[js];refine(Se hS hv hV hM c).mono λr hr=>?_
 rw[dH];constructor
 .intro u;have u:r=0:=by simpa using u
  have hC:=hr.zero.1 u;have C:=hC.1.1;unfold iz.W1;refine lK (λs:Sl aY×Int=>∃n:Nat,s.2=n/\n<=c.l.length/\s.1.l.length<=n) (λs=>c.l.length-s.2.toNat) ⟨0,rfl,Nat.zero_le _,Nat.le_refl _⟩ ?_
  rintro⟨o,i⟩ ⟨n,hi,I,D⟩;simp only at hi D;subst hi;unfold iz.bK;rw[dH];constructor
  .intro h;have z:n<c.l.length:=by simpa [len]using h
   have B:=f_ n (by omega)
   have w:c.l.length-(IntKind.wrap .i64 ((n:Int)+1)).toNat<c.l.length-((n:Int)).toNat:=by rw[B];simp;omega
   rw[cn z,ζb,dH];constructor
   .intro _;unfold fZ;rw[if_pos (show o.l.length+1<=2147483648 from by omega),ζb,bh]
    exact⟨⟨n+1,B,by omega,by show (o.l++[_]).length<=n+1;rw[ζi,List.length_singleton];omega⟩,w⟩
   .intro _;exact(bh _).2 ⟨⟨n+1,B,by omega,show o.l.length<=n+1 from by omega⟩,w⟩
  .intro _;exact(bh _).2 ((bh _).2 (u▸hr))
 .intro u;exact(bh _).2 hr
end Go.VE
namespace Go.VE
theorem sW.of {t:Trace} (B:Ok t) {p:Nat} {P:bM} (hP:t.procs.l[p]? = some P):sW P:=by
 intro e A a C;obtain⟨k,hk⟩:=List.mem_iff_getElem?.1 A;obtain⟨i,hi⟩:=List.mem_iff_getElem?.1 C;have h:=B.eP p k P e hP hk;unfold sU at h;have w:i<e.assign.l.length:=by
  apply Classical.byContradiction;intro G;rw[List.getElem?_eq_none (by omega)]at hi;cases hi
 have D:oM (rz P e) 0 e.assign.l.length=0:=by
  split at h
  .split at h
   .cases h
   .split at h
    .cases h
    .exact h
  .cases h
 have u:=(MK (g:=rz P e) (n:=e.assign.l.length) (m:=e.assign.l.length) (k:=0) (by omega)).1 D i (Nat.zero_le _) w
 unfold rz at u;rw[hi]at u;dsimp only at u
 by_cases z:(decide (0<=a.var)&&decide (a.var<P.vars.l.length))=true
 .simpa using z
 .rw[Bool.not_eq_true]at z;rw[z]at u;simp only[Nv]at u;cases u
theorem Uo {t:Trace} {A:cq 200 bD} (hS:Small t) (hv:cH t=some true) (hV:VT t) (hM:iX t (cF t) A) {c:Sl Int} (hC:Cons t A c.l) :
 Wp (fQ t c) λr=>r.2=0/\r.1.l.length=t.procs.l.length/\∀(p:Nat) (P:bM) (a:Int),t.procs.l[p]? = some P->c.l[p]? = some a->∃x,r.1.l[p]? = some x/\x.l=iu P a.toNat:=by
 have G:=hC.1.1;unfold fQ;rw[js];refine(HH hS hv hV hM c).mono λr hr=>?_
 rw[hr.zero.2 hC,show ((0:Int)==0)=true from rfl,b8];unfold fQ.W1;refine ny c.l.length (λn s=>s.2=(n:Int)/\s.1.l.length=n/\∀(p:Nat) (P:bM) (a:Int),p<n->t.procs.l[p]? = some P->c.l[p]? = some a->∃x,s.1.l[p]? = some x/\x.l=iu P a.toNat) ⟨rfl,rfl,λp P a h=>absurd h (by omega)⟩ ?_ ?_
 .rintro n ⟨o,_⟩ u ⟨e1,e2,e3⟩;simp only at e1 e2 e3;subst e1;have I:n<t.procs.l.length:=by omega
  have w:=hS.2 _ (List.getElem_mem I);have hP:=ζd I;have C:=ζd u;obtain⟨a0,U⟩:=hC.1.2 n _ _ C hP;have S:=sW.of hV.ok hP;obtain⟨x,Q,J⟩:=EO S w.2.1 w.1 w.2.2.2.2 (k:=c.l[n].toNat) (by omega)
  rw[show ((c.l[n].toNat:Nat):Int)=c.l[n]from by omega]at Q
  have h1:=hS.1;unfold fQ.bK;rw[qw u,b8,cn u,ζb,cn I,ζb,Q,ζb];have D:fZ o (x:Sl Int)=some (.row (o.l++[x])):=by unfold fZ;rw[if_pos (by omega)]
  rw[D,ζb,bh,f_ n (by omega)]
  refine⟨rfl,by simp[Sl.l];exact e2,λp P a h z B=>?_⟩
  show ∃y,(o.l++[x])[p]? = some y/\_
  by_cases L:p=n
  .subst L;rw[hP]at z;rw[C]at B;cases z;cases B;exact⟨x,by rw[List.getElem?_append_right (by omega)];simp[e2],J⟩
  .obtain⟨y,T,O⟩:=e3 p P a (by omega) z B
   exact⟨y,by rw[List.getElem?_append_left (by omega)];exact T,O⟩
 .rintro⟨o,_⟩ ⟨e1,e2,e3⟩;simp only at e1 e2 e3;subst e1;unfold fQ.bK;rw[show decide ((c.l.length:Int)<len c)=false from sj,bO,bh];refine(bh _).2 ⟨rfl,by rw[e2,G],λp P a hP C=>e3 p P a ?_ hP C⟩
  apply Classical.byContradiction;intro W;rw[List.getElem?_eq_none (by omega)]at C;cases C
section
variable {P:Pred} {t:Trace}
end
end Go.VE
namespace Go.VE
def sR (l:List Int) (m:Int):Prop:=m∈l/\∀x∈l,m<=x
def isMax (l:List Int) (m:Int):Prop:=m∈l/\∀x∈l,x<=m
theorem sR.one {l:List Int} {a b:Int} (h:sR l a) (g:sR l b):a=b:=by have:=h.2 b g.1;have:=g.2 a h.1;omega
theorem isMax.one {l:List Int} {a b:Int} (h:isMax l a) (g:isMax l b):a=b:=by have:=h.2 b g.1;have:=g.2 a h.1;omega
theorem sR.snoc {l:List Int} {a x:Int} (h:sR l a):sR (l++[x]) (if x<a then x else a):=by
 obtain⟨h1,u⟩:=h;split
 .refine⟨by simp,λy hy=>?_⟩
  rcases List.mem_append.1 hy with hy|hy
  .have:=u y hy;omega
  .simp at hy;omega
 .refine⟨List.mem_append_left _ h1,λy hy=>?_⟩
  rcases List.mem_append.1 hy with hy|hy
  .exact u y hy
  .simp at hy;omega
theorem isMax.snoc {l:List Int} {a x:Int} (h:isMax l a):isMax (l++[x]) (if x>a then x else a):=by
 obtain⟨h1,u⟩:=h;split
 .refine⟨by simp,λy hy=>?_⟩
  rcases List.mem_append.1 hy with hy|hy
  .have:=u y hy;omega
  .simp at hy;omega
 .refine⟨List.mem_append_left _ h1,λy hy=>?_⟩
  rcases List.mem_append.1 hy with hy|hy
  .exact u y hy
  .simp at hy;omega
theorem KV {s:Sl Int} (h:0<s.l.length) (B:s.l.length<1073741824):Wp (en s) λm=>sR s.l m:=by
 unfold en en.J1 en.W2;rw[decide_eq_false (show ¬len s<1 by simp only[len];omega),bO,show idx s 0=some s.l[0]from cn (i:=0) h,ζb]
 refine ny (s.l.length-1) (λn q=>q.2=((n+1:Nat):Int)/\sR (s.l.take (n+1)) q.1) ⟨rfl,?_⟩ ?_ ?_
 .rw[List.take_add_one,ζd h];exact⟨by simp,λx z=>by simp at z;omega⟩
 .rintro n ⟨m,_⟩ A ⟨rfl,w⟩;have u:n+1<s.l.length:=by omega
  unfold en.dn;rw[qw u,b8,cn u,ζb,bh,f_ _ (by omega)]
  refine⟨rfl,?_⟩;rw[List.take_add_one,ζd u];exact w.snoc
 .rintro⟨m,_⟩ ⟨rfl,w⟩;unfold en.dn;rw[show s.l.length-1+1=s.l.length from by omega,sj,bO,bh]
  rw[show s.l.length-1+1=s.l.length from by omega,List.take_length]at w
  exact(bh _).2 w
theorem LC {s:Sl Int} (h:0<s.l.length) (B:s.l.length<1073741824):Wp (eo s) λm=>isMax s.l m:=by
 unfold eo eo.J1 eo.W2;rw[decide_eq_false (show ¬len s<1 by simp only[len];omega),bO,show idx s 0=some s.l[0]from cn (i:=0) h,ζb]
 refine ny (s.l.length-1) (λn q=>q.2=((n+1:Nat):Int)/\isMax (s.l.take (n+1)) q.1) ⟨rfl,?_⟩ ?_ ?_
 .rw[List.take_add_one,ζd h];exact⟨by simp,λx z=>by simp at z;omega⟩
 .rintro n ⟨m,_⟩ A ⟨rfl,w⟩;have u:n+1<s.l.length:=by omega
  unfold eo.dn;rw[qw u,b8,cn u,ζb,bh,f_ _ (by omega)]
  refine⟨rfl,?_⟩;rw[List.take_add_one,ζd u];exact w.snoc
 .rintro⟨m,_⟩ ⟨rfl,w⟩;unfold eo.dn;rw[show s.l.length-1+1=s.l.length from by omega,sj,bO,bh]
  rw[show s.l.length-1+1=s.l.length from by omega,List.take_length]at w
  exact(bh _).2 w
theorem IJ {s:Sl Int} {a b:Int} (h:0<s.l.length) (B:s.l.length<1073741824) (D:sR s.l a) (G:isMax s.l b):kq s=some ⟨a,b⟩:=by
 obtain⟨m,h1,u⟩:=KV h B;obtain⟨n,g1,g2⟩:=LC h B;unfold kq;rw[h1,ζb,g1,ζb,u.one D,g2.one G]
theorem Uw (n:Int):kq (Sl.row [n]:Sl Int)=some ⟨n,n⟩:=
 IJ (by simp[Sl.l]) (by simp[Sl.l]) ⟨by simp[Sl.l],λx u=>by simp[Sl.l]at u;omega⟩ ⟨by simp[Sl.l],λx u=>by simp[Sl.l]at u;omega⟩
theorem Uz (a b c d:Int):kq (Sl.row [a,b,c,d]:Sl Int)=some ⟨if(if d<c then d else c)<(if b<a then b else a)then(if d<c then d else c)else(if b<a then b else a),if(if d>c then d else c)>(if b>a then b else a)then(if d>c then d else c)else(if b>a then b else a)⟩:=by
 refine IJ (by simp[Sl.l]) (by simp[Sl.l]) ⟨?_,λx u=>?_⟩ ⟨?_,λx u=>?_⟩
 .show _∈[a,b,c,d];simp only[List.mem_cons,List.not_mem_nil,or_false];split <;> split <;> (try split) <;> omega
 .have u:x∈[a,b,c,d]:=u;simp only[List.mem_cons,List.not_mem_nil,or_false]at u;split <;> split <;> (try split) <;> omega
 .show _∈[a,b,c,d];simp only[List.mem_cons,List.not_mem_nil,or_false];split <;> split <;> (try split) <;> omega
 .have u:x∈[a,b,c,d]:=u;simp only[List.mem_cons,List.not_mem_nil,or_false]at u;split <;> split <;> (try split) <;> omega
def VH (az:List Assign):Prop:=∀(i j:Nat) a b,i<j->az[i]? = some a->az[j]? = some b->a.var≠b.var
def tQ (P:bM) (v k:Nat):Int:=((iu P k)[v]?).getD 0
structure V6 (P:bM):Prop where
 ok:sW P
 dst:∀e∈P.events.l,VH e.assign.l
theorem Dc {P:bM} {v:Nat} (k:Nat) (hv:v<P.vars.l.length):(iu P k)[v]? = some (tQ P v k):=by
 unfold tQ;rw[ζd (by rw[o7];exact hv)];rfl
end Go.VE
namespace Go.VE
abbrev Ew (P:bM) (v n:Nat):List Int:=(List.range (n+1)).map (tQ P v)
section
variable {P:bM} {v:Nat}
theorem MC (D:sW P) (hv:P.vars.l.length<1073741824) (T:P.events.l.length<1073741823) (G:∀e∈P.events.l,e.assign.l.length<1073741824) (B:v<P.vars.l.length) :
 Wp (eY P v) λs=>s.l=Ew P v P.events.l.length:=by
 obtain⟨r,h1,A,C⟩:=Eb D hv (by omega) G
 have key:∀(rem:List (Int×Sl Int)) (i:Nat) (q:Sl Int),r.drop i=rem->i<=r.length->q.l=(List.range i).map (tQ P v)->∃s,(jC (λ(x:Int×(Sl Int)) (q:Sl Int)=>eY.jt P v x q) rem q).bind (Fw.o5 (λq=>some q) (λe=>Empty.elim e) (λe=>Empty.elim e))=some s/\s.l=(List.range r.length).map (tQ P v):=by
  intro rem
  induction rem with
  | nil=>
   intro i q hd hi z;have:r.length<=i:=by simpa using hd
   exact⟨q,rfl,by rw[z,show i=r.length from by omega]⟩
  | cons y rem I=>
   intro i q hd _ z;have u:i<r.length:=by
    apply Classical.byContradiction;intro Q;rw[List.drop_eq_nil_of_le (by omega)]at hd;cases hd
   have e2:=List.drop_eq_getElem_cons u;rw[e2]at hd;simp only[List.cons.injEq]at hd;obtain⟨S,J⟩:=C i y (by rw[ζd u,hd.1])
   have L:idx y.2 (v:Int)=some (tQ P v i):=by rw[mR,J];exact Dc i B
   have O:q.l.length=i:=by rw[z];simp
   have w:fZ q (tQ P v i)=some (.row (q.l++[tQ P v i])):=by unfold fZ;rw[if_pos (by omega)]
   obtain⟨s,g1,g2⟩:=I (i+1) (.row (q.l++[tQ P v i])) hd.2 (by omega) (by show q.l++[tQ P v i]=_;rw[z,List.range_succ,List.map_append];rfl)
   refine⟨s,?_,g2⟩;simp only[jC,eY.jt,L,w,ζb];exact g1
 obtain⟨s,g1,g2⟩:=key r 0 .nil rfl (Nat.zero_le _) rfl;refine⟨s,?_,by show s.l=_;rw[g2,A]⟩
 unfold eY lV eY.E1;simp only[ζb,h1];exact g1
theorem FK {α:Type} {f:α->Bool} {l:List α} {k:Nat} {x:α} (h1:l[k]? = some x) (B:f x=true) (D:∀(j:Nat) (y:α),j<k->l[j]? = some y->f y=false):place f l=k:=by
 unfold place;have hk:=(ζe.1 h1);obtain⟨hk,u⟩:=hk;rw[show l.findIdx? f=some k from by
  rw[List.findIdx?_eq_some_iff_getElem];exact⟨hk,by rw[u];exact B,λj w=>by rw[D j _ w (ζd (by omega))];simp⟩]
theorem K0 {t:Trace} (hS:Small t) (hv:cH t=some true) (D:Ok t) {n:Nat} (hP:t.procs.l[n]? = some P) {name:ByteArray} {x:Var} (h1:P.vars.l[v]? = some x) (T:(ByteArray.toList x.name==ByteArray.toList name)=true)
 (U:∀(j:Nat) (w:Var),j<v->P.vars.l[j]? = some w->(ByteArray.toList w.name==ByteArray.toList name)=false) :
 Wp (o_ t n name) λr=>r.2.2=0/\sR (Ew P v P.events.l.length) r.1/\isMax (Ew P v P.events.l.length) r.2.1:=by
 have L:n<t.procs.l.length:=(ζe.1 hP).1;have O:=List.mem_of_getElem? hP;have u:=hS.2 P O;have B:v<P.vars.l.length:=(ζe.1 h1).1;have G:P.events.l.length<=64:=by
  have:=D.heads n L;unfold wE at this;rw[hP]at this;dsimp only at this;split at this
  .split at this
   .cases this
   .split at this
    .split at this
     .cases this
     .omega
    .rename_i C;exact absurd this C
  .cases this
 obtain⟨s,g1,g2⟩:=MC (sW.of D hP) u.2.1 (by omega) u.2.2.2.2 B
 have hsl:s.l.length=P.events.l.length+1:=by rw[g2];simp[Ew]
 obtain⟨a,Q,I⟩:=KV (s:=s) (by omega) (by omega)
 obtain⟨b,S,J⟩:=LC (s:=s) (by omega) (by omega)
 have A:pX t n name=some ((v:Int),0):=by
  unfold pX;rw[hv,ζb,b8,decide_eq_false (show ¬(n:Int)<0 by omega),bO,ζb,decide_eq_false (show ¬(n:Int)>=len t.procs by simp only[len];omega),bO,mR,hP,ζb]
  unfold sD;rw[AQ (p:=λz=>mo z name) (f:=λw=>ByteArray.toList w.name==ByteArray.toList name) (λ_ _=>rfl) u.2.1,FK h1 T U,ζb,ζb,decide_eq_false (show ¬((v:Nat):Int)<0 by omega)]
  rfl
 unfold o_;rw[A,ζb];simp only;rw[show ((0:Int)==0)=true from rfl,b8,mR,hP,ζb,g1,ζb,Q,ζb,S,ζb,bh];rw[g2]at I J;exact⟨rfl,I,J⟩
def gb (o:Option Int) (low high:Int):Int×Int:=match o with
 | none=>(low,high)
 | some x=>(if x<low then x else low,if x>high then x else high)
end
end Go.VE
namespace Go.VE
theorem Rb {t:Trace} (hS:Small t):∃b,uB t=some b:=by
 have h1:∀e:Event,nr e=some (decide (len e.assign>20)):=λe=>rfl
 have u:∀P∈t.procs.l,∃b,kz P=some b:=λP hP=>by
  unfold kz;rw[yf (f:=λe=>decide (len e.assign>20)) (λe _=>h1 e) (hS.2 P hP).1]
  cases decide (len P.events>70) <;> cases decide (len P.vars>20) <;> exact⟨_,rfl⟩
 unfold uB;rw[yJ (p:=λz=>kz z) (f:=λP=>(kz P).getD false) (λP hP=>by obtain⟨b,w⟩:=u P hP;rw[w];rfl) hS.1]
 cases decide (len t.procs>10) <;> exact⟨_,rfl⟩
section
variable {t:Trace} {A:cq 200 bD}
theorem HS (hS:Small t) {p:Nat} {P:bM} (hP:t.procs.l[p]? = some P) (q:Nat):ez t p q=some ((P.events.l.countP (pQ q):Nat):Int):=by
 have C:P∈t.procs.l:=List.mem_of_getElem? hP;have D:=(hS.2 P C).1;refine Wp.eq ?_;unfold ez;rw[mR,hP,ζb];unfold ez.W1;refine ny P.events.l.length (λn s=>s.2=(n:Int)/\s.1=(((P.events.l.take n).countP (pQ q):Nat):Int)) ⟨rfl,rfl⟩ ?_ ?_
 .rintro n ⟨o,_⟩ w ⟨e1,e2⟩;simp only at e1 e2;subst e1 e2;have z:=List.countP_le_length (p:=pQ q) (l:=P.events.l.take n);rw[List.length_take]at z;have u:(P.events.l.take (n+1)).countP (pQ q)=(P.events.l.take n).countP (pQ q)+if pQ q P.events.l[n]then 1 else 0:=by
   rw[List.take_add_one,ζd w,List.countP_append];show _+List.countP _ [P.events.l[n]]=_;rw[List.countP_cons,List.countP_nil];simp
  unfold ez.bK;rw[qw w,b8,cn w,ζb];generalize P.events.l[n]=e at u;have A:(bp (e.kind==2) (some (e.peer==(q:Int))) (some false):Option Bool)=some (pQ q e):=by
   unfold pQ;cases e.kind==2 <;> cases e.peer==(q:Int) <;> rfl
  rw[A,ζb,f_ n (by omega)]
  cases B:pQ q e with
  | true=>
   rw[B]at u;rw[b8,bh,f_ _ (by omega)]
   exact⟨rfl,by simp only[u];rfl⟩
  | false=>
   rw[B]at u;rw[bO,bh];exact⟨rfl,by simp only[u];rfl⟩
 .rintro⟨o,_⟩ ⟨e1,e2⟩;simp only at e1 e2;subst e1 e2;unfold ez.bK;rw[sj,bO,bh];exact(bh _).2 (by rw[List.take_length])
end
end Go.VE
namespace Go.VE
section
variable {t:Trace}
def F_ (low high:Int):Bool:=decide (low>=-1125899906842624)&&decide (high<=1125899906842624)
structure DS (low high:Int):Prop where
 le:low<=high
 lo:-1125899906842624<=low
 hi:high<=1125899906842624
theorem Gf (low high:Int):gW ⟨low,high⟩=some (!F_ low high):=by
 unfold gW F_;have h1:decide (low < -1125899906842624) = !decide (low>=-1125899906842624):=by rw[Bool.eq_iff_iff];simp
 have u:decide (high>1125899906842624) = !decide (high<=1125899906842624):=by rw[Bool.eq_iff_iff];simp
 simp only;rw[h1,u];cases decide (low>=-1125899906842624) <;> cases decide (high<=1125899906842624) <;> rfl
theorem DS.of {low high:Int} (h:low<=high) (g:F_ low high=true):DS low high:=by
 simp only[F_,ζh]at g;have:=of_decide_eq_true g.1;have:=of_decide_eq_true g.2;exact⟨h,by omega,by omega⟩
end
end Go.VE
namespace Go.VE
section
variable {t:Trace}
theorem P9 (v:bL) (l h:Int) (r:Trace×Pred->Option (bL×Bool)):c_.J2 v ⟨l,h⟩ r=some (⟨l,h⟩,F_ l h):=by
 unfold c_.J2;rw[Gf,ζb,Bool.not_not]
theorem LU {ok B:Bool} (h:(ok&&B)=false) (p:Pred) (v a b:bL) (r:Trace×Pred->Option (bL×Bool)):c_.J1 ok B p v a b r=some (⟨0,0⟩,false):=by
 unfold c_.J1;cases ok <;> cases B <;> first|rfl|cases h
theorem Pf {k:Int} (h:(oy k==1)=true):k<=8:=by
 unfold oy at h
 by_cases g:k<=8
 .exact g
 .rw[if_neg g]at h;cases h
theorem Pred.parts {p:Pred} (B:fB p=true) {c:Int} (hc:cq.at xT p.kind=some c):(p.l.l.length:Int)=c:=by
 obtain⟨-,-,h⟩:=uH B;rw[hc]at h;exact(Option.some.inj h).symm
structure qB (t:Trace) (p:Pred):Prop where
 sm:p.Sm
 f:p.gz fB=true
 r:p.gz (tV t)=true
 y:p.gz vZ=true
theorem qB.wR {p q:Pred} (h:qB t p) (B:q∈p.l.l):qB t q:=by
 obtain⟨h1,u,w,z⟩:=h;rw[p.jG,ζh,List.all_eq_true]at u w z;exact⟨h1.wR B,u.2 q B,w.2 q B,z.2 q B⟩
theorem qB.here {p:Pred} (h:qB t p):fB p=true/\tV t p=true/\vZ p=true:=by
 obtain⟨h1,u,w,z⟩:=h;rw[p.jG,ζh]at u w z;exact⟨u.1,w.1,z.1⟩
theorem qB.int {p q:Pred} (h:qB t p) (hk:p.kind<=12) (B:q∈p.l.l):q.kind<=8:=by
 have:=h.here.2.2;unfold vZ at this;rw[List.all_eq_true]at this;have:=this q B;unfold Ag at this;rw[if_pos hk]at this;exact Pf this
end
end Go.VE
namespace Go.VE
end Go.VE
namespace Go.VE
end Go.VE
namespace Go.VE
end Go.VE
namespace Go.VE
section
variable {t:Trace} {A:cq 200 bD} {P:bM} {v:Nat}
structure P5 (t:Trace) (A:cq 200 bD) (c:Sl Int) (l:Sl (Sl Int)):Prop where
 hS:Small t
 hv:cH t=some true
 hV:VT t
 hM:iX t (cF t) A
 hC:Cons t A c.l
 vals:∀(p:Nat) (P:bM) (a:Int),t.procs.l[p]? = some P->c.l[p]? = some a->∃x,l.l[p]? = some x/\x.l=iu P a.toNat
end
end Go.VE
namespace Go.VE
section
variable {t:Trace}
theorem OK (p:Pred) (D:p.Sm):∀(n d:Nat) (v:Int),1<=n->42<=n+d->d<=41->0<=v->v<=300 ->
 ∃r:Int,fG (λr (z:Pred×Int×Int)=>fV z.1 z.2.1 z.2.2 r) n (p,(d:Int),v)=some r/\0<=r/\r<=1000:=by
 induction p using Pred.ind with
 | h p J=>
  intro n d v U L hd O hv;have W:=D.len;rw[l8 (by omega)]
  show ∃r:Int,fV p (d:Int) v (fG (λr (z:Pred×Int×Int)=>fV z.1 z.2.1 z.2.2 r) (n-1))=some r/\0<=r/\r<=1000
  have G:∀v:Int,0<=v->v<=1000->(v<=300->d<=40)->∃r:Int,ec.J1 (d:Int) p v (fG (λr (z:Pred×Int×Int)=>fV z.1 z.2.1 z.2.2 r) (n-1))=some r/\0<=r/\r<=1000:=by
   intro v Q h1 S;show Wp (ec.J1 (d:Int) p v _) λr=>0<=r/\r<=1000
   unfold ec.J1 ec.W2;refine lK (λs:Int×Int=>∃i:Nat,s.1=i/\i<=p.l.l.length/\0<=s.2/\s.2<=1000/\(s.2<=300->d<=40)) (λs=>p.l.l.length-s.1.toNat) ⟨0,rfl,Nat.zero_le _,Q,h1,S⟩ ?_
   rintro⟨_,u⟩ ⟨i,rfl,hi,B,C,I⟩;simp only at B C I ⊢;unfold ec.dn
   by_cases A:i<p.l.l.length
   .rw[qw A,b8,ζb]
    by_cases hu:u<=300
    .have w:=I hu;rw[decide_eq_true hu,b8,cn A,ζb,f_ d (by omega)]
     obtain⟨r,hr,T,r1⟩:=J _ (List.getElem_mem A) (D.wR (List.getElem_mem A)) (n-1) (d+1) u (by omega) (by omega) (by omega) B hu
     rw[hr,ζb,bh,f_ i (by omega)]
     exact⟨⟨i+1,rfl,by omega,T,r1,λ_=>w⟩,by simp only;omega⟩
    .rw[decide_eq_false hu,bO,bh];exact(bh _).2 ⟨B,C⟩
   .rw[decide_eq_false (by simp only[len];omega),bO,ζb,bO,bh]
    exact(bh _).2 ⟨B,C⟩
  unfold fV
  by_cases w:d<=40
  .rw[decide_eq_false (by omega),bO,kF _ (by omega) (by omega)]
   exact G _ (by omega) (by omega) (λ_=>w)
  .rw[decide_eq_true (by omega),b8]
   exact G _ (by omega) (by omega) (λh=>by omega)
theorem O4 {p:Pred} (B:p.Sm):∃b,sX p=some b:=by
 obtain⟨r,hr,-⟩:=OK p B 100000 0 0 (by omega) (by omega) (by omega) (by omega) (by omega)
 unfold sX ec;rw[show ((0:Nat):Int)=0 from rfl]at hr;rw[hr];exact⟨_,rfl⟩
theorem E4 {p:Pred} (B:nE p=true) (hc:qB t p):qc p=some (oy p.kind,0):=by
 have u:=hc.sm;have hd:=B;simp only[nE,ζh,decide_eq_true_eq]at hd;unfold qc;rw[xJ u,B,ζb,b8,DV u (by omega),hc.y,ζb,b8,y8];rfl
end
end Go.VE
namespace Go.VE
def mV (P:Int) (q:Pred):Bool:=if q.kind=4\/18<=q.kind then false else if q.kind=2\/q.kind=3 then q.proc==P else true
theorem Bo {P:Int} {q:Pred} (h:mV P q=true):q.kind≠4/\q.kind<=17/\(q.kind=2\/q.kind=3->q.proc=P):=by
 unfold mV at h
 by_cases u:q.kind=4\/18<=q.kind
 .rw[if_pos u]at h;cases h
 .rw[if_neg u]at h;refine⟨by omega,by omega,λw=>?_⟩
  rw[if_pos w]at h;simpa using h
theorem Q_ (P:Int) (p:Pred) (G:p.Sm):p.gz fB=true->∀n,p.dp<=n->fG (λr (z:Int×Pred)=>fW z.1 z.2 r) n (P,p)=some (p.gz (mV P)):=by
 induction p using Pred.ind with
 | h p w=>
  intro A n I;have hd:=p.uS;rw[p.jG,ζh,List.all_eq_true]at A;obtain⟨k1,J,-⟩:=uH A.1;rw[l8 (by omega),p.jG]
  have w:=λq u=>w q u (G.wR u) (A.2 q u) (n-1) (by have:=Pred.rC u;omega)
  show fW P p (fG (λr (z:Int×Pred)=>fW z.1 z.2 r) (n-1))=_
  generalize fG (λr (z:Int×Pred)=>fW z.1 z.2 r) (n-1)=R at w ⊢
  unfold fW
  by_cases C:p.kind=4\/18<=p.kind
  .rw[show mV P p=false from by unfold mV;rw[if_pos C],Bool.false_and]
   rcases (show p.kind=4\/p.kind=18\/p.kind=19\/p.kind=20\/p.kind=21 by omega)with h|h|h|h|h <;> rw[h] <;> rfl
  .rw[show (p.kind==4)=false from by simp;omega,show (p.kind==18)=false from by simp;omega,show (p.kind==19)=false from by simp;omega,show (p.kind==20)=false from by simp;omega,show (p.kind==21)=false from by simp;omega,bO,bO,bO,bO]
   unfold dS.J1 dS.J2;rw[bO]
   by_cases B:p.kind=2\/p.kind=3
   .have D:p.l.l=[]:=List.eq_nil_of_length_eq_zero (by
     have:=Pred.parts A.1 (c:=0) (by rcases B with h|h <;> (rw[h];rfl))
     omega)
    rw[D,List.all_nil,Bool.and_true,show mV P p=(p.proc==P)from by unfold mV;rw[if_neg C,if_pos B]]
    rcases B with h|h <;> rw[h] <;> rfl
   .rw[show (p.kind==2)=false from by simp;omega,show (p.kind==3)=false from by simp;omega,bO,bO,vN _ G.len,uV (f:=λq => !(q.gz (mV P))) (λq u=>by
     unfold mC;rw[w q u];rfl)]
    simp only[Option.map_some,ζb]
    congr 1
    rw[show mV P p=true from by unfold mV;rw[if_neg C,if_neg B],Bool.true_and,Bool.eq_iff_iff]
    simp
section
variable {t:Trace}
structure II (t:Trace) (p k:Nat) (P:bM) (c:Sl Int) (l:Sl (Sl Int)):Prop where
 hS:Small t
 hv:cH t=some true
 hV:VT t
 hP:t.procs.l[p]? = some P
 hk:k<=P.events.l.length
 hc:c.l[p]? = some (k:Int)
 vals:∃x,l.l[p]? = some x/\x.l=iu P k
end
end Go.VE
namespace Go.VE
section
variable {t:Trace}
end
end Go.VE
namespace Go.VE
def IW (c:List Int):List Int:=c.sum::c
def mZ (x y:List Int):Prop:=gj (IW x) (IW y)<0
instance (x y:List Int):Decidable (mZ x y):=by unfold mZ;exact inferInstance
theorem mZ.VJ (x:List Int):¬mZ x x:=by unfold mZ;rw[vD];omega
theorem mZ.sum {x y:List Int} (h:x.sum<y.sum):mZ x y:=by unfold mZ IW;simp[gj,h]
theorem mZ.S9 {x y:List Int} (h:x.sum=y.sum):mZ x y↔gj x y<0:=by
 unfold mZ IW;simp only[gj,if_neg (show ¬x.sum<y.sum by omega),if_neg (show ¬x.sum>y.sum by omega)]
theorem mZ.nodup {L:List (List Int)} (h:L.Pairwise mZ):L.Nodup:=h.imp λ{x y} (h:mZ x y) (e:x=y)=>mZ.VJ y (by rw[e]at h;exact h)
end Go.VE
namespace Go.VE
theorem zZ (s:Sl (Sl Int)):(ins s).length=s.l.length:=by unfold ins;simp
section
variable {t:Trace} {A:cq 200 bD}
structure Ib (t:Trace) (A:cq 200 bD) (L:List (List Int)):Prop where
 srt:L.Pairwise mZ
 mem:∀d,d∈L↔Cons t A d
def IP (t:Trace) (A:cq 200 bD):Prop:=∃L:List (List Int),L.Nodup/\(∀d∈L,Cons t A d)/\5000<L.length
theorem L8 {k:Nat} {o l:List (List Int)} (h1:∀d,d∈l↔Cons t A d/\d.sum=(k:Int)) (D:l.Pairwise mZ) (G:o.Pairwise mZ) (B:∀d,d∈o↔Cons t A d/\d.sum<(k:Int)) :
 (o++l).Pairwise mZ/\∀d,d∈o++l↔Cons t A d/\d.sum<((k+1:Nat):Int):=by
 refine⟨List.pairwise_append.2 ⟨G,D,λa w b z=>mZ.sum (by have:=((B a).1 w).2;have:=((h1 b).1 z).2;omega)⟩,λd=>?_⟩
 rw[List.mem_append,B,h1];constructor
 .rintro (⟨h,k1⟩|⟨h,k1⟩)
  .exact⟨h,by omega⟩
  .exact⟨h,by omega⟩
 .rintro⟨h,k1⟩
  by_cases u:d.sum<(k:Int)
  .exact .inl ⟨h,u⟩
  .exact .inr ⟨h,by omega⟩
theorem NU (hV:VT t) (hS:Small t):Fy t<8589934600:=by
 have key:∀(l:List bM),(∀p∈l,p.events.l.length<1073741824)->(l.map λP=>P.events.l.length).sum<=1073741824*l.length:=by
  intro l
  induction l with
  | nil=>intro _;simp
  | cons x l u=>
   intro h;have h1:=h x (by simp)
   have w:=u λy z=>h y (List.mem_cons_of_mem _ z)
   simp only[List.map_cons,List.sum_cons,List.length_cons];omega
 have h1:=key t.procs.l λp A=>(hS.2 p A).1
 have w:=hV.few;unfold Fy;omega
theorem QJ {k:Int} {L:List (List Int)} (nd:L.Nodup) (B:L.Pairwise λx y=>¬gj y x<0) (hk:∀d∈L,d.sum=k):L.Pairwise mZ:=by
 refine(B.and nd).imp_of_mem λ{x y} u w h=>?_
 have e:x.sum=y.sum:=by rw[hk x u,hk y w]
 rw[mZ.S9 e]
 by_cases q:gj x y<0
 .exact q
 .exact absurd (Ai _ _ q h.1) h.2
theorem Lz (hS:Small t) (hv:cH t=some true) (hV:VT t) (hM:iX t (cF t) A) :
 Wp (vr t) λr=>(r.2=0/\Ib t A (ins r.1)/\r.1.l.length<=5000)\/(r.2=16/\r.1=.nil/\IP t A):=by
 have T:=hV.few;have hT:=NU hV hS;unfold vr iY;rw[hv,ζb,b8,js,js];refine(of_wp hS hv hV hM).mono λm U=>?_
 unfold uU;rw[if_pos ⟨by simp[len],by simp[len];omega⟩,ζb]
 have fin:∀(k:Nat) (u:Sl (Sl Int)) (out:Sl (Sl (Sl Int))),An t A k u->u.l.length=0->(out.l.flatMap ins).Pairwise mZ->(∀d,d∈out.l.flatMap ins↔Cons t A d/\d.sum<(k:Int))->out.l.length<=5000->(out.l.flatMap ins).length<=5000 ->
  Wp ((eW out).bind λD=>some (D,(0:Int))) λr=>(r.2=0/\Ib t A (ins r.1)/\r.1.l.length<=5000)\/(r.2=16/\r.1=.nil/\IP t A):=λk u out h1 G C W ho X=>by
  have w:(out.l.flatMap Sl.l).map Sl.l=out.l.flatMap ins:=by rw[List.map_flatMap];rfl
  have hc:(zl out).l=out.l.flatMap Sl.l:=by
   unfold zl;split
   .rename_i h;exact(List.length_eq_zero_iff.1 h).symm
   .rfl
  unfold eW;rw[if_pos ⟨by omega,by rw[<-List.length_map (f:=Sl.l),w];omega⟩,ζb,bh]
  have e:ins (zl out)=out.l.flatMap ins:=by unfold ins at w ⊢;rw[hc];exact w
  refine .inl ⟨rfl,⟨by rw[e];exact C,λd=>by rw[e];exact(W d).trans ⟨λh=>h.1,λh=>⟨h,h1.none hV hM G h⟩⟩⟩,?_⟩
  show (zl out).l.length<=5000;rw[hc,<-List.length_map (f:=Sl.l),w];exact X
 unfold iY.W1;refine ny (Fy t+1) (λk s=>An t A k s.1/\(ins s.1).Pairwise mZ/\(s.2.1.l.flatMap ins).Pairwise mZ/\(∀d,d∈s.2.1.l.flatMap ins↔Cons t A d/\d.sum<(k:Int))/\s.2.2=((s.2.1.l.flatMap ins).length:Int)/\s.2.1.l.length<=(s.2.1.l.flatMap ins).length/\(s.2.1.l.flatMap ins).length<=5000/\s.1.l.length<=40000)
  ⟨Vm (by simp[Sl.l,len]),by simp[ins,Sl.l],by simp[Sl.l],λd=>⟨λh=>by simp[Sl.l]at h,λh=>absurd (qY h.1.1.pos) (by have:=h.2;simp at this;omega)⟩,by simp[Sl.l],by simp[Sl.l],by simp[Sl.l],by simp[Sl.l]⟩ ?_ ?_
 .rintro k ⟨u,out,O⟩ hk ⟨h1,B,z,C,L,Q,I,S⟩;simp only at h1 B z C L Q I S;obtain⟨o1,o2⟩:=L8 h1 B z C;unfold iY.bK;rw[MF]
  by_cases G:u.l.length=0
  .rw[show (!decide (u.l.length=0))=false from by simp[G],bO,bh]
   exact(bh _).2 (fin k u out h1 G z C (by omega) I)
  .rw[show (!decide (u.l.length=0))=true from by simp[G],b8,L]
   have Y:IntKind.wrap .i64 (((out.l.flatMap ins).length:Int)+len u)=(((out.l.flatMap ins).length+u.l.length:Nat):Int):=by
    have e:len u=(u.l.length:Int):=rfl;rw[e,kF _ (by omega) (by omega)];omega
   rw[Y,dH];refine⟨λJ=>(bh _).2 ((bh _).2 ?_),λJ=>?_⟩
   .show Wp (((eW (Sl.nil:Sl (Sl (Sl Int)))).bind λD=>some (D,(16:Int)))) _
    have Z:eW (Sl.nil:Sl (Sl (Sl Int)))=some .nil:=by
     unfold eW;rfl
    rw[Z,ζb,bh];refine .inr ⟨rfl,rfl,out.l.flatMap ins++ins u,mZ.nodup o1,λd hd=>((o2 d).1 hd).1,?_⟩
    have J:=of_decide_eq_true J;rw[ζi,zZ];omega
   .have J:=of_decide_eq_false J;obtain⟨o3,g1,g2⟩:=wK (s:=out) (x:=u) (by omega)
    rw[g1,ζb,js];refine(NR hS hV hM U h1 (by omega)).mono λr ⟨r1,r2,r3,r4⟩=>?_
    have w:o3.l.flatMap ins=out.l.flatMap ins++ins u:=by rw[g2];simp
    refine(bh _).2 ⟨r1,QJ r2 r4 λd hd=>((r1 d).1 hd).2,by rw[w];exact o1,λd=>by rw[w];exact o2 d,by rw[w,ζi,zZ],?_,?_,r3⟩
    .show o3.l.length<=_;rw[w,ζi,zZ,g2,ζi,List.length_singleton];omega
    .rw[w,ζi,zZ];omega
 .rintro⟨u,out,O⟩ ⟨h1,B,z,C,L,Q,I,S⟩;simp only at h1 B z C L Q I S;unfold iY.bK;rw[MF,show (!decide (u.l.length=0))=false from by simp[h1.last],bO,bh]
  exact(bh _).2 (fin _ u out h1 h1.last z C (by omega) I)
end
end Go.VE
namespace Go.VE
theorem FY {α:Type} {f:α->Bool}:∀{l:List α},l.any f=true->∃(k:Nat) (x:α),l[k]? = some x/\f x=true/\∀(j:Nat) (y:α),j<k->l[j]? = some y->f y=false
 | [],h=>by simp at h
 | a::r,h=>by
  by_cases B:f a=true
  .exact⟨0,a,rfl,B,λj y D=>absurd D (by omega)⟩
  .rw[List.any_cons,Bool.or_eq_true]at h;obtain⟨k,x,h1,G,J⟩:=FY (h.resolve_left B);refine⟨k+1,x,by simpa using h1,G,λj y D u=>?_⟩
   cases j with
   | zero=>simp at u;subst u;simpa using B
   | succ j=>exact J j y (by omega) (by simpa using u)
theorem Ee (P:Int) (p:Pred):p.gz (mV P)=true->p.gz (λq => !ET q)=true:=by
 induction p using Pred.ind with
 | h p w=>
  intro h;rw[p.jG,ζh,List.all_eq_true]at h ⊢;refine⟨?_,λq u=>w q u (h.2 q u)⟩
  have:=(Bo h.1).2.1;unfold ET;rw[decide_eq_false (by omega)];rfl
section
variable {t:Trace}
theorem Mg (hS:Small t) {q:Pred} (hk:q.kind=2) (hr:tV t q=true):∃(n k:Nat) (P:bM) (v:Var),q.proc=n/\t.procs.l[n]? = some P/\P.vars.l[k]? = some v/\(ByteArray.toList v.name==ByteArray.toList q.name)=true/\∀(j:Nat) (w:Var),j<k->P.vars.l[j]? = some w->(ByteArray.toList w.name==ByteArray.toList q.name)=false:=by
 unfold tV at hr;rw[if_pos (by simpa using hk)]at hr
 simp only[ζh]at hr;obtain⟨B,-,u⟩:=hr;obtain⟨n,z,A⟩:=zn (t:=t) (p:=q.proc) (by simp only[ζh];exact B)
 unfold Jm at u;rw[z,cn A]at u;obtain⟨k,v,h1,C,D⟩:=FY u;exact⟨n,k,_,v,z,ζd A,h1,C,D⟩
theorem Mr (hS:Small t) (hv:cH t=some true) (B:Ok t) {q:Pred} (D:fB q=true) (hr:tV t q=true) (hk:q.kind<=4):∃low high,ku t q=some ⟨low,high⟩/\low<=high:=by
 obtain⟨k1,-,-⟩:=uH D;rcases (show q.kind=1\/q.kind=2\/q.kind=3\/q.kind=4 by omega)with h|h|h|h
 .refine⟨q.n,q.n,?_,Int.le_refl _⟩;unfold ku;rw[show (q.kind==1)=true from by simpa using h,b8,Uw];rfl
 .obtain⟨n,k,P,v,u,hP,w,h1,A⟩:=Mg hS h hr;obtain⟨⟨low,high,e⟩,g1,g2,g3,g4⟩:=K0 hS hv B hP (name:=q.name) w h1 A;simp only at g2 g3 g4;subst g2;refine⟨low,high,?_,g4.2 _ g3.1⟩;unfold ku;rw[h,show ((2:Int)==1)=false from rfl,bO,show ((2:Int)==3)=false from rfl,bO,show ((2:Int)==4)=false from rfl,bO,u,g1];rfl
 .unfold tV at hr;rw[if_neg (by simp[h]),if_pos (by simpa using h)]at hr
  simp only[ζh]at hr;obtain⟨n,u,z⟩:=zn (t:=t) (p:=q.proc) (by simp only[ζh];exact hr.1)
  refine⟨0,len t.procs.l[n].events,?_,by simp only[len];omega⟩
  unfold ku;rw[h,show ((3:Int)==1)=false from rfl,bO,show ((3:Int)==3)=true from rfl,b8,u,cn z];rfl
 .unfold tV at hr;rw[if_neg (by simp[h]),if_neg (by simp[h]),if_pos (by simpa using h)]at hr
  simp only[ζh]at hr;obtain⟨n,u,z⟩:=zn (t:=t) (p:=q.proc) (by simp only[ζh];exact hr.1)
  obtain⟨m,C,G⟩:=zn (t:=t) (p:=q.peer) (by simp only[ζh];exact hr.2.1)
  have hP:=ζd z;refine⟨0,((t.procs.l[n].events.l.countP (pQ m):Nat):Int),?_,by omega⟩
  unfold ku;rw[h,show ((4:Int)==1)=false from rfl,bO,show ((4:Int)==3)=false from rfl,bO,show ((4:Int)==4)=true from rfl,b8,u,C,HS hS hP];rfl
theorem tZ {a b:Int} (B:-1125899906842624<=a/\a<=1125899906842624) (D:-1125899906842624<=b/\b<=1125899906842624):∃x,iN a b=some x:=by
 unfold iN rq
 by_cases u:a=0
 .subst u;exact⟨_,rfl⟩
 .rw[show (a==0)=false from by simpa using u,bO,ζb]
  by_cases h1:b=0
  .subst h1;exact⟨_,rfl⟩
  .rw[show (b==0)=false from by simpa using h1,bO,ζb,ζb,kF (0-b) (by omega) (by omega)]
   have:∀k m:Int,m≠0->∃x,zd .i64 k m=some x:=λk m w=>by unfold zd;rw[if_neg w];exact⟨_,rfl⟩
   obtain⟨x,z⟩:=this 1125899906842624 (if 0-b>b then 0-b else b) (by split <;> omega)
   rw[z,ζb];cases decide ((if IntKind.wrap .i64 (0-a)>a then IntKind.wrap .i64 (0-a)else a)>x) <;> cases (decide (a<0)==decide (b<0)) <;> exact⟨_,rfl⟩
theorem DW {p:Pred} (hk:5<=p.kind/\p.kind<=8) {a b c d:Int} (h1:DS a b) (B:DS c d) (v:bL) (r:Trace×Pred->Option (bL×Bool)) :
 ∃low high,c_.J1 true true p v ⟨a,b⟩ ⟨c,d⟩ r=some (⟨low,high⟩,F_ low high)/\low<=high:=by
 obtain⟨J,L,O⟩:=h1;obtain⟨Q,S,T⟩:=B;unfold c_.J1;rw[b8,ζb,show (!true)=false from rfl,bO];rcases (show p.kind=5\/p.kind=6\/p.kind=7\/p.kind=8 by omega)with h|h|h|h <;> rw[h]
 .refine⟨-b,-a,?_,by omega⟩
  rw[show ((5:Int)==5)=true from rfl,b8,P9];simp only;rw[kF (0-b) (by omega) (by omega),kF (0-a) (by omega) (by omega),show (0:Int)-b=-b from by omega,show (0:Int)-a=-a from by omega]
 .refine⟨a+c,b+d,?_,by omega⟩
  rw[show ((6:Int)==5)=false from rfl,bO,show ((6:Int)==6)=true from rfl,b8,P9];simp only;rw[kF (a+c) (by omega) (by omega),kF (b+d) (by omega) (by omega)]
 .refine⟨a-d,b-c,?_,by omega⟩
  rw[show ((7:Int)==5)=false from rfl,bO,show ((7:Int)==6)=false from rfl,bO,show ((7:Int)==7)=true from rfl,b8,P9];simp only;rw[kF (a-d) (by omega) (by omega),kF (b-c) (by omega) (by omega)]
 .obtain⟨w,A⟩:=tZ (a:=a) (b:=c) ⟨by omega,by omega⟩ ⟨by omega,by omega⟩
  obtain⟨x,C⟩:=tZ (a:=a) (b:=d) ⟨by omega,by omega⟩ ⟨by omega,by omega⟩
  obtain⟨y,D⟩:=tZ (a:=b) (b:=c) ⟨by omega,by omega⟩ ⟨by omega,by omega⟩
  obtain⟨z,G⟩:=tZ (a:=b) (b:=d) ⟨by omega,by omega⟩ ⟨by omega,by omega⟩
  refine⟨if(if z<y then z else y)<(if x<w then x else w)then(if z<y then z else y)else(if x<w then x else w),if(if z>y then z else y)>(if x>w then x else w)then(if z>y then z else y)else(if x>w then x else w),?_,?_⟩
  .rw[show ((8:Int)==5)=false from rfl,bO,show ((8:Int)==6)=false from rfl,bO,show ((8:Int)==7)=false from rfl,bO];simp only;rw[A,C,D,G];simp only[ζb];rw[Uz,ζb,P9]
  .have I:(if z<y then z else y)<=(if z>y then z else y):=by split <;> split <;> omega
   have u:(if x<w then x else w)<=(if x>w then x else w):=by split <;> split <;> omega
   split <;> split <;> omega
theorem Qy (hS:Small t) (hv:cH t=some true) (T:Ok t) (p:Pred):qB t p->p.kind<=8->∀n,p.dp<=n ->
 ∃i ok,fG (λr (z:Trace×Pred)=>fu z.1 z.2 r) n (t,p)=some (i,ok)/\(ok=true->DS i.low i.high):=by
 induction p using Pred.ind with
 | h p u=>
  intro hc hk n Z;have hd:=p.uS;obtain⟨w,hr,hy⟩:=hc.here;obtain⟨k1,-,-⟩:=uH w;rw[l8 (by omega)]
  have u:=λq G=>u q G (hc.wR G) (hc.int (by omega) G) (n-1) (by have:=Pred.rC G;omega)
  show ∃i ok,fu t p (fG (λr (z:Trace×Pred)=>fu z.1 z.2 r) (n-1))=some (i,ok)/\_
  generalize fG (λr (z:Trace×Pred)=>fu z.1 z.2 r) (n-1)=R at u ⊢
  unfold fu
  by_cases U:p.kind<=4
  .have I:p.l.l.length=0:=by
    have:=Pred.parts w (c:=0) (by rcases (show p.kind=1\/p.kind=2\/p.kind=3\/p.kind=4 by omega)with h|h|h|h <;> (rw[h];rfl))
    omega
   obtain⟨low,high,g1,g2⟩:=Mr hS hv T w hr U;refine⟨⟨low,high⟩,F_ low high,?_,λh=>DS.of g2 h⟩
   rw[show (len p.l==0)=true from by simp[len,I],b8,g1,ζb,Gf,ζb,Bool.not_not]
  .by_cases W:p.kind=5
   .have A:p.l.l.length=1:=by
     have:=Pred.parts w (c:=1) (by rw[W];rfl)
     omega
    have B:0<p.l.l.length:=by omega
    obtain⟨i,ok,g1,g3⟩:=u _ (List.getElem_mem B);have J:idx p.l 0=some p.l.l[0]:=cn (i:=0) B;rw[show (len p.l==0)=false from by simp[len,A],bO,J,ζb,g1,ζb,show (len p.l==2)=false from by simp[len,A],bO]
    simp only
    cases ok with
    | false=>
     rw[LU rfl];exact⟨_,false,rfl,λh=>by cases h⟩
    | true=>
     obtain⟨low,high,L,O⟩:=DW (p:=p) ⟨by omega,by omega⟩ (g3 rfl) (g3 rfl) ⟨0,0⟩ R
     exact⟨_,_,L,λh=>DS.of O h⟩
   .have C:p.l.l.length=2:=by
     have:=Pred.parts w (c:=2) (by rcases (show p.kind=6\/p.kind=7\/p.kind=8 by omega)with h|h|h <;> (rw[h];rfl))
     omega
    have B:0<p.l.l.length:=by omega
    have h1:1<p.l.l.length:=by omega
    obtain⟨i,ok,g1,g3⟩:=u _ (List.getElem_mem B);obtain⟨j,D,X,Y⟩:=u _ (List.getElem_mem h1);have J:idx p.l 0=some p.l.l[0]:=cn (i:=0) B;have Q:idx p.l 1=some p.l.l[1]:=cn (i:=1) h1;rw[show (len p.l==0)=false from by simp[len,C],bO,J,ζb,g1,ζb,show (len p.l==2)=true from by simp[len,C],b8,Q,ζb,X,ζb]
    simp only
    cases S:ok&&D with
    | false=>
     rw[LU S];exact⟨_,false,rfl,λh=>by cases h⟩
    | true=>
     simp only[ζh]at S;obtain⟨rfl,rfl⟩:=S;obtain⟨low,high,L,O⟩:=DW (p:=p) ⟨by omega,by omega⟩ (g3 rfl) (Y rfl) ⟨0,0⟩ R
     exact⟨_,_,L,λh=>DS.of O h⟩
theorem S3 (hS:Small t) (hv:cH t=some true) (B:Ok t) (p:Pred):qB t p->p.dp<=20->∀n,p.dp<=n->∃b,fG (λr (z:Trace×Pred)=>fU z.1 z.2 r) n (t,p)=some b:=by
 induction p using Pred.ind with
 | h p w=>
  intro hc hd n C;have A:=p.uS;rw[l8 (by omega)]
  have w:=λq u=>w q u (hc.wR u) (by have:=Pred.rC u;omega) (n-1) (by have:=Pred.rC u;omega)
  show ∃b,fU t p (fG (λr (z:Trace×Pred)=>fU z.1 z.2 r) (n-1))=some b
  generalize fG (λr (z:Trace×Pred)=>fU z.1 z.2 r) (n-1)=R at w ⊢
  unfold fU;rw[y8,ζb]
  by_cases hk:p.kind<=8
  .rw[show (oy p.kind==1)=true from by simp[oy,hk],b8]
   obtain⟨i,ok,g1,-⟩:=Qy hS hv B p hc hk 100000 (by omega)
   exact⟨ok,by rw[show c_ t p=_ from g1];rfl⟩
  .rw[show (oy p.kind==1)=false from by simp[oy,hk],bO]
   let g:Pred->Bool:=λq=>(R (t,q)).getD false
   have hg:∀q∈p.l.l,R (t,q)=some (g q):=λq u=>by
    obtain⟨b,h1⟩:=w q u;show _=some ((R (t,q)).getD false);rw[h1];rfl
   rw[vN _ hc.sm.len,uV (f:=λq => !g q) (λq u=>by
    unfold mm;rw[hg q u];rfl)]
   exact⟨_,rfl⟩
theorem SQ (hS:Small t) (D:(cF t).length<1073741824) {p:Pred} (B:p.Sm) :
 ∃e,iR t p=some e/\(e=0->cH t=some true/\VT t/\nE p=true/\qB t p):=by
 obtain⟨z,hv,w,-⟩:=Of hS D;unfold iR;rw[hv,ζb]
 cases z with
 | false=>exact⟨1,rfl,λh=>by cases h⟩
 | true=>
  have hV:=w rfl;rw[b8,xJ B,ζb]
  cases A:nE p with
  | false=>exact⟨1,rfl,λh=>by cases h⟩
  | true=>
   have u:=A;simp only[nE,ζh]at u;have hd:=of_decide_eq_true u.2.1;unfold sF;rw[show (!true)=false from rfl,ζb,bO,FL hS B (by omega),ζb]
   cases hr:p.gz (tV t)with
   | false=>exact⟨13,rfl,λh=>by cases h⟩
   | true=>
    rw[b8,DV B (by omega),ζb]
    cases C:p.gz vZ with
    | false=>exact⟨14,rfl,λh=>by cases h⟩
    | true=>
     have hc:qB t p:=⟨B,u.2.2,hr,C⟩;obtain⟨b,g1⟩:=S3 hS hv hV.ok p hc hd 100000 (by omega)
     rw[b8,g1,ζb]
     cases b with
     | false=>exact⟨9,rfl,λh=>by cases h⟩
     | true=>exact⟨0,rfl,λ_=>⟨rfl,hV,rfl,hc⟩⟩
theorem Qg {p k:Nat} {P:bM} {c:Sl Int} {l:Sl (Sl Int)} {c':Sl Int} {W:Sl (Sl Int)} (h:II t p k P c l) (h':II t p k P c' W) (q:Pred):qB t q->q.kind<=8->q.gz (mV (p:Int))=true->∀n,q.dp<=n ->
 ∃x,fG (λr (z:br×Pred)=>c9 z.1 z.2 r) n (⟨t,c,l⟩,q)=some x/\fG (λr (z:br×Pred)=>c9 z.1 z.2 r) n (⟨t,c',W⟩,q)=some x:=by
 induction q using Pred.ind with
 | h q G=>
  intro hc hk B n hn;have hd:=q.uS;obtain⟨hS,hv,hV,hP,ad,X,x,Y,C⟩:=h;obtain⟨-,-,-,-,-,I,x',Z,J⟩:=h';obtain⟨D,hr,hy⟩:=hc.here;obtain⟨k1,-,-⟩:=uH D;rw[q.jG,ζh,List.all_eq_true]at B;obtain⟨l4,-,lp⟩:=Bo B.1;have G:=λq L=>G q L (hc.wR L) (hc.int (by omega) L) (B.2 q L) (n-1) (by have:=Pred.rC L;omega)
  rw[l8 (by omega),l8 (by omega)]
  show ∃x,c9 ⟨t,c,l⟩ q (fG (λr (z:br×Pred)=>c9 z.1 z.2 r) (n-1))=some x/\c9 ⟨t,c',W⟩ q (fG (λr (z:br×Pred)=>c9 z.1 z.2 r) (n-1))=some x
  generalize fG (λr (z:br×Pred)=>c9 z.1 z.2 r) (n-1)=R at G ⊢
  unfold c9;rcases (show q.kind=1\/q.kind=2\/q.kind=3\/5<=q.kind by omega)with hk|hk|hk|hk
  .rw[hk];exact⟨q.n,rfl,rfl⟩
  .have O:=lp (.inl hk);obtain⟨m,j,P',y,hm,Q,S,h1,h2⟩:=Mg hS hk hr;obtain rfl:m=p:=by omega
   rw[hP]at Q;cases Q;have aa:=(ζe.1 S).1;have A:∀(c:Sl Int) (l:Sl (Sl Int)) (x:Sl Int),l.l[m]? = some x->x.l=iu P k->jP ⟨t,c,l⟩ q=some (tQ P j k):=λc l x Y C=>by
    unfold jP;simp only;rw[hm,mR,hP,ζb,AQ (p:=λz=>iV z q) (f:=λw=>ByteArray.toList w.name==ByteArray.toList q.name) (λ_ _=>rfl) (hS.2 P (List.mem_of_getElem? hP)).2.1,FK S h1 h2,ζb,mR,Y,ζb,mR,C,Dc _ aa]
    rfl
   refine⟨tQ P j k,?_,?_⟩ <;> rw[hk,show ((2:Int)==1)=false from rfl,bO,show ((2:Int)==2)=true from rfl,b8]
   .rw[A _ _ _ Y C];rfl
   .rw[A _ _ _ Z J];rfl
  .have O:=lp (.inr hk);refine⟨(k:Int),?_,?_⟩ <;> rw[hk,show ((3:Int)==1)=false from rfl,bO,show ((3:Int)==2)=false from rfl,bO,show ((3:Int)==3)=true from rfl,b8] <;> simp only <;> rw[O,mR]
   .rw[X];rfl
   .rw[I];rfl
  .have u:∀j:Int,j<5->(q.kind==j)=false:=λj hj=>by simp;omega
   rw[u 1 (by omega),u 2 (by omega),u 3 (by omega),u 4 (by omega)]
   simp only[bO];have hl:0<q.l.l.length:=by
    rcases (show q.kind=5\/q.kind=6\/q.kind=7\/q.kind=8 by omega)with g|g|g|g
    .have:=Pred.parts D (c:=1) (by rw[g];rfl);omega
    .have:=Pred.parts D (c:=2) (by rw[g];rfl);omega
    .have:=Pred.parts D (c:=2) (by rw[g];rfl);omega
    .have:=Pred.parts D (c:=2) (by rw[g];rfl);omega
   obtain⟨x,x1,x2⟩:=G _ (List.getElem_mem hl);have T:idx q.l 0=some q.l.l[0]:=cn (i:=0) hl
   by_cases g:q.kind=5
   .rw[g,show ((5:Int)==5)=true from rfl,b8,b8,T,ζb,x1,ζb,ζb,x2,ζb];exact⟨_,rfl,rfl⟩
   .have U:1<q.l.l.length:=by
     have:=Pred.parts D (c:=2) (by rcases (show q.kind=6\/q.kind=7\/q.kind=8 by omega)with g|g|g <;> (rw[g];rfl))
     omega
    obtain⟨y,y1,y2⟩:=G _ (List.getElem_mem U);have ab:idx q.l 1=some q.l.l[1]:=cn (i:=1) U;rw[T,ab];simp only[ζb,x1,x2,y1,y2];rw[show (q.kind==5)=false from by simpa using g,bO]
    cases q.kind==6 <;> cases q.kind==7 <;> exact⟨_,rfl,rfl⟩
theorem DH {p k:Nat} {P:bM} {c:Sl Int} {l:Sl (Sl Int)} {c':Sl Int} {T:Sl (Sl Int)} (h:II t p k P c l) (Y:II t p k P c' T) (q:Pred):qB t q->9<=q.kind->q.dp<=20->q.gz (mV (p:Int))=true->∀n,q.dp<=n ->
 ∃x,fG (λr (z:br×Pred)=>dw z.1 z.2 r) n (⟨t,c,l⟩,q)=some x/\fG (λr (z:br×Pred)=>dw z.1 z.2 r) n (⟨t,c',T⟩,q)=some x:=by
 induction q using Pred.ind with
 | h q I=>
  intro hc hk U A n hn;have hd:=q.uS;obtain⟨D,hr,hy⟩:=hc.here;obtain⟨k1,k2,-⟩:=uH D;rw[q.jG,ζh,List.all_eq_true]at A;have W:q.kind<=17:=(Bo A.1).2.1;have B:∀k∈q.l.l,k.kind<=8->∃x,dL ⟨t,c,l⟩ k=some x/\dL ⟨t,c',T⟩ k=some x:=λk hk O=>Qg h Y k (hc.wR hk) O (A.2 k hk) 100000 (by have:=Pred.rC hk;omega)
  have C:13<=q.kind->∀k∈q.l.l,9<=k.kind:=λg k hk=>by
   have:=hc.here.2.2;unfold vZ at this;rw[List.all_eq_true]at this;have:=this k hk;unfold Ag oy at this;rw[if_neg (show ¬q.kind<=12 by omega)]at this
   by_cases X:k.kind<=8
   .rw[if_pos X]at this;cases this
   .omega
  have I:=λg q G=>I q G (hc.wR G) (C g q G) (by have:=Pred.rC G;omega) (A.2 q G) (n-1) (by have:=Pred.rC G;omega)
  rw[l8 (by omega),l8 (by omega)]
  show ∃x,dw ⟨t,c,l⟩ q (fG (λr (z:br×Pred)=>dw z.1 z.2 r) (n-1))=some x/\dw ⟨t,c',T⟩ q (fG (λr (z:br×Pred)=>dw z.1 z.2 r) (n-1))=some x
  generalize fG (λr (z:br×Pred)=>dw z.1 z.2 r) (n-1)=R at I ⊢
  unfold dw dc.J1
  by_cases J:q.kind<=12
  .have Z:=Pred.parts D (c:=2) (by rcases (show q.kind=9\/q.kind=10\/q.kind=11\/q.kind=12 by omega)with g|g|g|g <;> (rw[g];rfl))
   have u:0<q.l.l.length:=by omega
   have w:1<q.l.l.length:=by omega
   obtain⟨x,L,x2⟩:=B _ (List.getElem_mem u) (hc.int J (List.getElem_mem u));obtain⟨y,Q,S⟩:=B _ (List.getElem_mem w) (hc.int J (List.getElem_mem w));rw[show idx q.l 0=some q.l.l[0]from cn (i:=0) u,show idx q.l 1=some q.l.l[1]from cn (i:=1) w];simp only[ζb,L,x2,Q,S];rcases (show q.kind=9\/q.kind=10\/q.kind=11\/q.kind=12 by omega)with g|g|g|g <;> rw[g] <;> exact⟨_,rfl,rfl⟩
  .by_cases aa:q.kind<=14
   .rcases (show q.kind=13\/q.kind=14 by omega)with g|g <;> rw[g] <;> exact⟨_,rfl,rfl⟩
   .have u:0<q.l.l.length:=by
     rcases (show q.kind=15\/q.kind=16\/q.kind=17 by omega)with g|g|g
     .have:=Pred.parts D (c:=1) (by rw[g];rfl);omega
     .have:=Pred.parts D (c:=2) (by rw[g];rfl);omega
     .have:=Pred.parts D (c:=2) (by rw[g];rfl);omega
    obtain⟨x,L,x2⟩:=I (by omega) _ (List.getElem_mem u)
    rw[show idx q.l 0=some q.l.l[0]from cn (i:=0) u]
    by_cases g:q.kind=15
    .rw[g];simp only[ζb,L,x2];exact⟨_,rfl,rfl⟩
    .have w:1<q.l.l.length:=by
      have:=Pred.parts D (c:=2) (by rcases (show q.kind=16\/q.kind=17 by omega)with g|g <;> (rw[g];rfl))
      omega
     obtain⟨y,Q,S⟩:=I (by omega) _ (List.getElem_mem w)
     rw[show idx q.l 1=some q.l.l[1]from cn (i:=1) w];simp only[ζb,L,x2,Q,S];rcases (show q.kind=16\/q.kind=17 by omega)with g|g <;> rw[g] <;> cases x <;> exact⟨_,rfl,rfl⟩
end
end Go.VE
namespace Go.VE
section
variable {t:Trace} {A:cq 200 bD}
theorem Od (hS:Small t):∃b,gQ t=some b:=by
 have:Wp (gQ t) λ_=>True:=by
  have h1:=hS.1;unfold gQ gQ.W1;refine ny t.procs.l.length (λn s=>s.2=(n:Int)) rfl ?_ ?_
  .rintro n ⟨o,_⟩ u e1;simp only at e1;subst e1;unfold gQ.bK;rw[qw u,b8,cn u,ζb,bh,f_ n (by omega)]
  .rintro⟨o,_⟩ e1;simp only at e1;subst e1;unfold gQ.bK;rw[sj,bO,bh];exact(bh _).2 trivial
 obtain⟨b,w,-⟩:=this;exact⟨b,w⟩
theorem Sz {α:Type} {n:Nat} (z:α) (h:n<=2147483648):uU (n:Int) z=some (.row (List.replicate n z)):=by
 unfold uU;rw[if_pos (by omega)];simp
theorem HV (hS:Small t) (hv:cH t=some true) (hV:VT t) {m k:Nat} {P:bM} (hP:t.procs.l[m]? = some P) (hk:k<=P.events.l.length) :
 ∃c l,II t m k P c l/\∀q,dy t m k q=dc ⟨t,c,l⟩ q:=by
 have w:=(ζe.1 hP).1;have u:=hS.2 P (List.mem_of_getElem? hP);have h1:=hS.1;obtain⟨x,I,z⟩:=EO (sW.of hV.ok hP) u.2.1 u.1 u.2.2.2.2 hk;obtain⟨c,A,B⟩:=put_eq (s:=(.row (List.replicate t.procs.l.length (0:Int)):Sl Int)) (p:=m) (x:=(k:Int)) (by simpa [Sl.l]using w)
 obtain⟨l,C,D⟩:=put_eq (s:=(.row (List.replicate t.procs.l.length (Sl.nil:Sl Int)):Sl (Sl Int))) (p:=m) (x:=x) (by simpa [Sl.l]using w)
 have G:pn t m k=some (x,0):=by
  unfold pn;rw[hv,ζb,b8,decide_eq_false (show ¬(m:Int)<0 by omega),bO,decide_eq_false (show ¬(m:Int)>=len t.procs by simp only[len];omega),ζb,bO,decide_eq_false (show ¬(k:Int)<0 by omega),ζb,bO,mR,hP,ζb,decide_eq_false (show ¬(k:Int)>len P.events by simp only[len];omega),ζb,bO,ζb,I]
  rfl
 refine⟨c,l,⟨hS,hv,hV,hP,hk,by rw[B];exact List.getElem?_set_self (by simpa [Sl.l]using w),x,by rw[D];exact List.getElem?_set_self (by simpa [Sl.l]using w),z⟩,λq=>?_⟩
 unfold dy;rw[show len t.procs=((t.procs.l.length:Nat):Int)from rfl,Sz (0:Int) (by omega),Sz (Sl.nil:Sl Int) (by omega),ζb,ζb,Gb (by simpa [Sl.l]using w),ζb,A,ζb,G,ζb,Gb (by simpa [Sl.l]using w),ζb]
 simp only;rw[C,ζb];cases dc ⟨t,c,l⟩ q <;> rfl
theorem P5.loc {c:Sl Int} {l:Sl (Sl Int)} (h:P5 t A c l) {m:Nat} {P:bM} {a:Int} (hP:t.procs.l[m]? = some P) (B:c.l[m]? = some a):II t m a.toNat P c l:=by
 obtain⟨a0,u⟩:=h.hC.1.2 m a P B hP;exact⟨h.hS,h.hv,h.hV,hP,by omega,by rw[B];congr 1;omega,h.vals m P a hP B⟩
theorem Lh {p:Pred} (B:nE p=true) (hc:qB t p) (hk:oy p.kind=2):jK p 2=some 0:=by
 unfold jK;rw[E4 B hc,hk];rfl
theorem Dz (hS:Small t) (hv:cH t=some true) (hV:VT t) (hM:iX t (cF t) A) {m:Nat} {P:bM} (hP:t.procs.l[m]? = some P) {q:Pred} (hc:qB t q) (G:9<=q.kind) (hd:q.dp<=20) (J:q.gz (mV (m:Int))=true) {c:Sl Int} (hC:Cons t A c.l) {a:Int} (T:c.l[m]? = some a) :
 ∃l x,fQ t c=some (l,0)/\P5 t A c l/\dc ⟨t,c,l⟩ q=some x/\dy t m a.toNat q=some x:=by
 obtain⟨⟨l,z⟩,h1,w,I,B⟩:=Uo hS hv hV hM hC;simp only at w I B;subst w;have C:P5 t A c l:=⟨hS,hv,hV,hM,hC,B⟩;have D:=C.loc hP T;obtain⟨c',Q,u,L⟩:=HV hS hv hV hP D.hk;obtain⟨x,O,x2⟩:=DH D u q hc G hd J 100000 (by omega)
 exact⟨l,x,h1,C,O,by rw[L];exact x2⟩
theorem OZ (hS:Small t) (D:(cF t).length<1073741824) {p:Pred} (B:p.Sm) (pr k:Int) :
 ∃e,pq t pr k p=some e/\(e=0->iR t p=some 0/\cH t=some true/\VT t/\nE p=true/\qB t p/\oy p.kind=2/\p.gz (mV pr)=true/\∃(m j:Nat) (P:bM),pr=m/\k=j/\t.procs.l[m]? = some P/\j<=P.events.l.length):=by
 obtain⟨e,h1,A⟩:=SQ hS D B;unfold pq;rw[h1,ζb]
 by_cases u:e=0
 .subst u;obtain⟨hv,hV,w,hc⟩:=A rfl;have hd:=w;simp only[nE,ζh,decide_eq_true_eq]at hd;rw[show ((0:Int)==0)=true from rfl,b8]
  by_cases r1:pr<0
  .rw[decide_eq_true r1];exact⟨2,rfl,λh=>by cases h⟩
  rw[decide_eq_false r1]
  by_cases r2:pr>=len t.procs
  .rw[decide_eq_true r2];exact⟨2,rfl,λh=>by cases h⟩
  rw[decide_eq_false r2]
  by_cases r3:k<0
  .rw[decide_eq_true r3];exact⟨2,rfl,λh=>by cases h⟩
  rw[decide_eq_false r3];obtain⟨m,rfl⟩:∃m:Nat,pr=m:=⟨pr.toNat,by omega⟩
  have z:m<t.procs.l.length:=by simp only[len]at r2;omega
  rw[cn z,ζb]
  by_cases r4:k>len t.procs.l[m].events
  .rw[decide_eq_true r4];exact⟨2,rfl,λh=>by cases h⟩
  rw[decide_eq_false r4];simp only[bO,ζb];unfold jK;rw[E4 w hc,ζb];simp only;rw[show ((0:Int)==0)=true from rfl,b8]
  cases hk:oy p.kind==2 with
  | false=>exact⟨14,rfl,λh=>by cases h⟩
  | true=>
   rw[show (!true)=false from rfl,ζb,bO,ζb,show ((0:Int)==0)=true from rfl,b8,
    show dS (m:Int) p=some (p.gz (mV (m:Int)))from Q_ m p B hc.f 100000 (by omega),ζb]
   cases C:p.gz (mV (m:Int))with
   | false=>exact⟨15,rfl,λh=>by cases h⟩
   | true=>exact⟨0,rfl,λ_=>⟨trivial,hv,hV,w,hc,by simpa using hk,rfl,m,k.toNat,t.procs.l[m],rfl,by omega,ζd z,by simp only[len]at r4;omega⟩⟩
 .rw[show (e==0)=false from by simpa using u,bO]
  exact⟨e,rfl,λh=>absurd h u⟩
theorem Qe (hS:Small t) (hv:cH t=some true) (hV:VT t) {m:Nat} {P:bM} (hP:t.procs.l[m]? = some P) {q:Pred} (hc:qB t q) (G:9<=q.kind) (hd:q.dp<=20) (J:q.gz (mV (m:Int))=true) :
 ∃o,eF.W1 m (Sl.nil:Sl Bool) (IntKind.wrap .i64 ((len P.events)+1)) 0 t q=some (o,0)/\o.l.length=P.events.l.length+1/\∀k:Nat,k<=P.events.l.length->∃x,o.l[k]? = some x/\dy t m k q=some x:=by
 have w:=hS.2 P (List.mem_of_getElem? hP)
 let g:Nat->Bool:=λk=>(dy t m k q).getD false
 have hg:∀k:Nat,k<=P.events.l.length->dy t m k q=some (g k):=λk hk=>by
  obtain⟨c,l,B,I⟩:=HV hS hv hV hP hk;obtain⟨x,L,-⟩:=DH B B q hc G hd J 100000 (by omega)
  have h1:dy t m k q=some x:=by rw[I];exact L
  show dy t m k q=some ((dy t m k q).getD false);rw[h1];rfl
 have C:=w.1;have p1:Wp (eF.W1 m (Sl.nil:Sl Bool) (IntKind.wrap .i64 ((len P.events)+1)) 0 t q) λr=>r.1.l=(List.range (P.events.l.length+1)).map g/\r.2=0:=by
  unfold eF.W1;rw[show len P.events+1=((P.events.l.length+1:Nat):Int)from rfl,kF _ (by omega) (by omega)]
  refine ny (P.events.l.length+1) (λn s=>s.2=(n:Int)/\s.1.l=(List.range n).map g) ⟨rfl,rfl⟩ ?_ ?_
  .rintro n ⟨o,_⟩ O ⟨e1,e2⟩;simp only at e1 e2;subst e1;have Q:o.l.length=n:=by rw[e2];simp
   unfold eF.bK;rw[decide_eq_true (by omega),b8,hg n (by omega),ζb]
   have u:fZ o (g n)=some (.row (o.l++[g n])):=by unfold fZ;rw[if_pos (by omega)]
   rw[u,ζb,bh,f_ n (by omega)]
   refine⟨rfl,?_⟩;show o.l++[g n]=_;rw[e2,List.range_succ,List.map_append];rfl
  .rintro⟨o,_⟩ ⟨e1,e2⟩;simp only at e1 e2;subst e1;unfold eF.bK;rw[decide_eq_false (by omega),bO,bh]
   exact(bh _).2 ⟨e2,rfl⟩
 obtain⟨⟨o,z⟩,h1,A,D⟩:=p1;simp only at A D;subst D;refine⟨o,h1,by rw[A];simp,λk hk=>⟨g k,?_,hg k hk⟩⟩
 rw[A,List.getElem?_map,List.getElem?_range (by omega)];rfl
theorem OU (hS:Small t) (hv:cH t=some true) (hV:VT t) (hM:iX t (cF t) A) {m:Nat} {P:bM} (hP:t.procs.l[m]? = some P) {q:Pred} (hc:qB t q) (T:9<=q.kind) (hd:q.dp<=20) (U:q.gz (mV (m:Int))=true) {r:Sl (Sl Int)} (hr:∀x∈r.l,Cons t A x.l) (Y:r.l.length<=5000) :
 ∃o,eX.W1 r (Sl.nil:Sl Bool) r (len r) 0 t q=some (r,o,0)/\o.l.length=r.l.length/\∀(i:Nat) (c:Sl Int) (a:Int),r.l[i]? = some c->c.l[m]? = some a->∃x,o.l[i]? = some x/\dy t m a.toNat q=some x:=by
 have S:=(ζe.1 hP).1
 let g:Sl Int->Bool:=λc=>(dy t m ((c.l[m]?.getD 0).toNat:Nat) q).getD false
 have hg:∀c∈r.l,∃l,fQ t c=some (l,0)/\dc ⟨t,c,l⟩ q=some (g c)/\dy t m ((c.l[m]?.getD 0).toNat:Nat) q=some (g c):=λc I=>by
  have hC:=hr c I;obtain⟨a,B⟩:=hC.1.at_ S;obtain⟨l,x,J,-,x2,C⟩:=Dz hS hv hV hM hP hc T hd U hC B;have D:g c=x:=by
   show (dy t m ((c.l[m]?.getD 0).toNat:Nat) q).getD false=x;rw[B,Option.getD_some,C];rfl
  exact⟨l,J,by rw[D];exact x2,by rw[B,Option.getD_some,D];exact C⟩
 have p1:Wp (eX.W1 r (Sl.nil:Sl Bool) r (len r) 0 t q) λw=>w.1=r/\w.2.1.l=r.l.map g/\w.2.2=0:=by
  unfold eX.W1;refine ny r.l.length (λn s=>s.2=(n:Int)/\s.1.l=(r.l.take n).map g) ⟨rfl,rfl⟩ ?_ ?_
  .rintro n ⟨o,_⟩ u ⟨e1,e2⟩;simp only at e1 e2;subst e1;have W:o.l.length=n:=by rw[e2];simp;omega
   obtain⟨l,J,x2,-⟩:=hg _ (List.getElem_mem u);unfold eX.bK;rw[qw u,b8,cn u,ζb,J,ζb];simp only;rw[show ((0:Int)==0)=true from rfl,b8,x2,ζb];have G:fZ o (g r.l[n])=some (.row (o.l++[g r.l[n]])):=by unfold fZ;rw[if_pos (by omega)]
   rw[G,ζb,bh,f_ n (by omega)]
   refine⟨rfl,?_⟩;show o.l++[g r.l[n]]=_;rw[e2,List.take_add_one,ζd u,List.map_append];rfl
  .rintro⟨o,_⟩ ⟨e1,e2⟩;simp only at e1 e2;subst e1;unfold eX.bK;rw[sj,bO,bh];rw[List.take_length]at e2;exact(bh _).2 ⟨rfl,e2,rfl⟩
 obtain⟨⟨X,o,z⟩,h1,O,L,Q⟩:=p1;simp only at O L Q;subst O Q;refine⟨o,h1,by rw[L];simp,λi c a hi B=>?_⟩
 obtain⟨l,-,-,C⟩:=hg c (List.mem_of_getElem? hi);rw[B,Option.getD_some]at C;exact⟨g c,by rw[L,List.getElem?_map,hi];rfl,C⟩
theorem Tk (hS:Small t) (hv:cH t=some true) (hV:VT t) (hM:iX t (cF t) A) {m:Nat} {P:bM} (hP:t.procs.l[m]? = some P) {q:Pred} (G:iR t q=some 0) (B:nE q=true) (hc:qB t q) (hk:oy q.kind=2) (J:9<=q.kind) (hd:q.dp<=20) (D:q.gz (mV (m:Int))=true) {c:Sl Int} (hC:Cons t A c.l) {a:Int} (T:c.l[m]? = some a) :
 ∃x,qh t c q=some (x,0)/\dy t m a.toNat q=some x:=by
 obtain⟨l,x,w,C,x2,z⟩:=Dz hS hv hV hM hP hc J hd D hC T;refine⟨x,?_,z⟩;have u:gO t c q 2=some (⟨t,c,l⟩,0):=by
  unfold gO;rw[G,ζb,show ((0:Int)==1)=false from rfl,bO,show (len c==len t.procs)=true from by simp[len,hC.1.1],show (!true)=false from rfl,ζb,bO]
  unfold gO.J1;rw[show ((0:Int)==0)=true from rfl,b8,w,ζb];simp only;rw[show ((0:Int)==0)=true from rfl,b8,Lh B hc hk,ζb,show ((0:Int)==0)=true from rfl,b8,zB hc.sm,B,Ee _ q D];rfl
 unfold qh;rw[u,ζb];simp only;rw[show ((0:Int)==0)=true from rfl,b8,x2];rfl
theorem KZ (hS:Small t) (hN:(cF t).length<1073741824) {p:Pred} (T:p.Sm) {pr:Int}:dM t pr p=some true:=by
 obtain⟨bg,O⟩:=Rb hS;obtain⟨hg,Q⟩:=O4 T;obtain⟨wd,S⟩:=Od hS;unfold dM;rw[show u5=some true from rfl,ζb,b8,O,ζb,Q,ζb,S,ζb]
 cases bg with
 | true=>rfl
 | false=>
 cases hg with
 | true=>rfl
 | false=>
 cases wd with
 | true=>rfl
 | false=>
 rw[bO,ζb,bO,ζb,bO];obtain⟨e,c1,z1⟩:=OZ hS hN T pr 0;unfold eF;rw[c1,ζb]
 by_cases Z:e=0
 .subst Z;obtain⟨h0,hv,hV,G,hc,hk,I,m,j,P,rfl,-,hP,-⟩:=z1 rfl;have hd:=G;simp only[nE,ζh,decide_eq_true_eq]at hd;have U:9<=p.kind:=by
   unfold oy at hk
   by_cases h:p.kind<=8
   .rw[if_pos h]at hk;cases hk
   .omega
  obtain⟨A,-,-,hM⟩:=hV.msgs;obtain⟨o,g1,g2,g3⟩:=Qe hS hv hV hP hc U (by omega) I
  rw[show ((0:Int)==0)=true from rfl,b8,mR,hP,ζb,g1,ζb];simp only;rw[show ((0:Int)==0)=true from rfl,b8];have hm:=(ζe.1 hP).1;have aa:=(hS.2 P (List.mem_of_getElem? hP)).1;have C:eX t p=(qC t).bind λu=>bp (u.2==0) (eX.W1 u.1 (Sl.nil:Sl Bool) u.1 (len u.1) 0 t p) (some (Sl.nil,(Sl.nil:Sl Bool),u.2)):=by
   unfold eX;rw[h0,ζb,show ((0:Int)==0)=true from rfl,b8,Lh G hc hk,ζb,show ((0:Int)==0)=true from rfl,b8,zB T,G,Ee _ p I,ζb];rfl
  unfold su;rw[C];obtain⟨⟨r,f⟩,hr,D⟩:=Lz hS hv hV hM;have hL:qC t=some (r,f):=by unfold qC;rw[hr];rfl
  simp only at D;rw[hL,ζb,ζb];simp only;rcases D with⟨rfl,B,h5⟩|⟨rfl,rfl,-⟩
  .have w:∀x∈r.l,Cons t A x.l:=λx hx=>(B.mem _).1 (wM.2 ⟨x,hx,rfl⟩)
   obtain⟨tb,t1,t2,t3⟩:=OU hS hv hV hM hP hc U (by omega) I w h5
   rw[show ((0:Int)==0)=true from rfl,b8,t1,ζb,ζb,ζb];simp only;rw[show ((0:Int)==16)=false from rfl,bO,show ((0:Int)==0)=true from rfl,b8,show (!true)=false from rfl,ζb,bO,show (len tb==len r)=true from by simp[len,t2],show (!true)=false from rfl,ζb,bO,decide_eq_false (show ¬(m:Int)<0 by omega),ζb,bO,decide_eq_false (show ¬(m:Int)>=len t.procs by simp only[len];omega),ζb,bO,show len P.events+1=((P.events.l.length+1:Nat):Int)from rfl,kF _ (by omega) (by omega),ζb,show (len o==((P.events.l.length+1:Nat):Int))=true from by simp only[len,g2,beq_self_eq_true],show (!true)=false from rfl,bO]
   refine Wp.eq ?_;unfold dM.W1;refine ny r.l.length (λn s=>s=(n:Int)) rfl ?_ ?_
   .rintro n _ J rfl;have z:=w _ (List.getElem_mem J);obtain⟨a,L⟩:=z.1.at_ hm;obtain⟨a0,a1⟩:=z.1.2 m a P L hP;obtain⟨x,x1,x2⟩:=t3 n _ a (ζd J) L;obtain⟨y,y1,y2⟩:=g3 a.toNat (by omega)
    obtain⟨b,b1,b2⟩:=Tk hS hv hV hM hP h0 G hc hk U (by omega) I z L
    rw[x2]at y2 b2;cases y2;cases b2;have W:idx r.l[n] (m:Int)=some a:=by rw[mR];exact L
    have X:idx o a=some x:=by rw[show a=((a.toNat:Nat):Int)from by omega,mR];exact y1
    have Y:idx tb (n:Int)=some x:=by rw[mR];exact x1
    unfold dM.bK;rw[qw J,b8,cn J,ζb,show (len r.l[n]==len t.procs)=true from by simp[len,z.1.1],b8,W,ζb,decide_eq_false (show ¬a<0 by omega),ζb,bO,ζb,decide_eq_false (show ¬a>=len o by simp only[len];omega),ζb,bO,Y,ζb,ζb,X,ζb,show (!(x==x))=false from by simp,ζb,bO,b1,ζb]
    simp only;rw[show ((0:Int)==0)=true from rfl,b8,ζb,show (!(x==x))=false from by simp,ζb,bO,bh,f_ n (by omega)]
   .rintro _ rfl;unfold dM.bK;rw[sj,bO,bh];exact(bh _).2 rfl
  .rfl
 .have h':(e==0)=false:=by simpa using Z
  rw[h',bO,ζb];simp only;rw[h',bO];rfl
end
end Go.VE
namespace Go.VE
theorem yK {α:Type} [bY α] {x:α}:∀{l:List α},x∈l->bY.wt x<=(l.map bY.wt).sum
 | y::l,h=>by
  simp only[List.map_cons,List.sum_cons];rcases List.mem_cons.1 h with rfl|h
  .omega
  .have:=yK h;omega
theorem uP {α:Type} [bY α] (h:∀x:α,1<=bY.wt x):∀(l:List α),l.length<=(l.map bY.wt).sum
 | []=>Nat.le_refl _
 | y::l=>by
  simp only[List.map_cons,List.sum_cons,List.length_cons];have:=uP h l;have:=h y;omega
theorem Ac {α:Type} [bY α] (s:Sl α):bY.wt s=(s.l.map bY.wt).sum+1:=rfl
theorem Au (p:Int):∀(es:List Event) (j:Int),(jJ p j es).length=es.length
 | [],_=>rfl
 | _::es,j=>by simp only[jJ,List.length_cons,Au p es]
theorem Gg:∀(ps:List bM) (i:Int),(fS i ps).length<=(ps.map bY.wt).sum
 | [],_=>Nat.le_refl _
 | p::ps,i=>by
  simp only[fS,ζi,Au,List.map_cons,List.sum_cons];have h1:=Gg ps (i+1);have u:=uP (α:=Event) (λx=>Nat.le_add_left ..) p.events.l
  have w:bY.wt p=bY.wt p.name+bY.wt p.vars+bY.wt p.events+1:=rfl;have z:=Ac p.events;omega
theorem OS {t:Trace} (h:bY.wt t<=1048576):Small t/\(cF t).length<1073741824:=by
 have C:bY.wt t=bY.wt t.procs+1:=rfl;have h1:=Ac t.procs;have D:=uP (α:=bM) (λx=>Nat.le_add_left ..) t.procs.l
 have G:=Gg t.procs.l 0;refine⟨⟨by omega,λp u=>?_⟩,by show (fS 0 t.procs.l).length<_;omega⟩
 have I:=yK u;have J:bY.wt p=bY.wt p.name+bY.wt p.vars+bY.wt p.events+1:=rfl;have L:=Ac p.events;have O:=Ac p.vars;have Q:=uP (α:=Event) (λx=>Nat.le_add_left ..) p.events.l
 have S:=uP (α:=Var) (λx=>Nat.le_add_left ..) p.vars.l
 have w:bY.wt p.name=p.name.size+1:=rfl;refine⟨by omega,by omega,by omega,λv hv=>?_,λe z=>?_⟩
 .have k1:=yK hv;have A:bY.wt v=bY.wt v.name+bY.wt v.init_+1:=rfl;have B:bY.wt v.name=v.name.size+1:=rfl;omega
 .have k1:=yK z;have A:bY.wt e=bY.wt e.kind+bY.wt e.peer+bY.wt e.message+bY.wt e.time+bY.wt e.assign+1:=rfl;have B:=Ac e.assign;have T:=uP (α:=Assign) (λx=>Nat.le_add_left ..) e.assign.l
  omega
theorem TO (p:Pred):bY.wt p<=1048576->p.Sm:=by
 induction p using Pred.ind with
 | h p z=>
  intro h;have u:∃m,bY.wt p=m+Pred.Py p.l+1:=by cases p;exact⟨_,rfl⟩
  obtain⟨m,u⟩:=u;have h1:=Pred.UZ p.l;have A:=Ac p.l;have B:=uP (α:=Pred) (λx=>by cases x;exact Nat.le_add_left ..) p.l.l
  unfold Pred.Sm;rw[p.jG,ζh,List.all_eq_true];refine⟨decide_eq_true (by omega),λq w=>z q w ?_⟩
  have:=yK w;omega
end Go.VE
namespace Go.Proofs.YtlmckmkfopljoaaGreatDoor
open Go.ChangeShapes Go.WideShapes Go.ChangeAt Go.RowKit Go.VE
theorem own:ownKnob Tryz.prog.godebug=none:=by kernel_rfl
theorem kids:Kids Tryz.prog (·<Tryz.prog.types.size):=kids_rows (by kernel_rfl) (by kernel_rfl)
theorem full:∀t e,t<Tryz.prog.types.size->Tryz.prog.underlying t=some (.slice e)->0<Tryz.prog.cellsOf e:=slices_full_of Tryz.prog (by kernel_rfl)
theorem wF {H:Type}:∀l:List (DataW H),Rows.uptoBulkAll l=(l.map Rows.uptoBulk).sum
 | []=>by simp[Rows.uptoBulkAll]
 | d::r=>by simp[Rows.uptoBulkAll,wF r]
theorem GF {H:Type}:rF (H:=H) Rows.uptoBulk where
 lit l:=by cases l <;> simp[Rows.uptoBulk]
 str s:=by simp[Rows.uptoBulk]
 nil:=by simp[Rows.uptoBulk]
 slice es u:=by rw[Rows.uptoBulk,wF,wF];omega
 agg w:=by rw[Rows.uptoBulk,wF];exact Nat.le_refl _
theorem JR:Tryz.prog.globalNamed "antecede/predtype.parts" = some 0:=by kernel_rfl
theorem Nl:(Tryz.prog.globals[0]?).map (·.type)=some 183:=by kernel_rfl
theorem table {W:World} (h:laidMetH Tryz.prog Rows.evaluateLocalUptoRow.laid W):Lib.TabIs Tryz.prog W "antecede/predtype.parts" .i64 BD:=
 Lib.tabIs_of_head (rest:=[]) JR Nl Tryz.underlying183 Tryz.underlying3 (by kernel_rfl) (by kernel_rfl) h
theorem Us {W:World} (h:laidMetH Tryz.prog Rows.evaluateLocalUptoRow.laid W):sS (snap W):=λg cs hg=>by
 change (if Nat.beq g 0 then some (BD.map (V.int .i64))else none)=some cs at hg;split at hg
 .rename_i u;cases hg;have:g=0:=Nat.eq_of_beq_eq_true u;subst this;exact Nc (λi hi=>(table h).cell JR i hi) (by decide)
 .cases hg
set_option maxRecDepth 100000 in
theorem HC (H:Type) (enc:TypeId×Value->H) (W:World) (base:Nat) (args:Array Value) (ds gs:List (DataW H)) (before:List MemPlace)
 (B:∀(j:Nat) t v,Tryz.f8.params[j]? = some t->args[j]? = some v->Value.okWide Tryz.prog W .any base t v)
 (G:DataW.Whole enc Tryz.prog Tryz.f8.params.toList Rows.evaluateLocalSpec.vars false W args.toList ds gs before) (hk:Rows.uptoSmall H (ds++gs)=true) (T:laidMetH Tryz.prog Rows.evaluateLocalUptoRow.laid W) :
 Calls Tryz.prog 8 args W λe J=>∃v,e=.returned v/\Rows.evaluateLocalSpec.post enc Tryz.prog Tryz.f8 false true false false W args v J:=by
 have A:=G;obtain⟨p,q,C,hV,rfl,U,X⟩:=G;have I:DataW.TrodAll enc Tryz.prog W 0 (λ_=>true) true Tryz.f8.params.toList args.toList ds p:=C
 rw[Tryz.params8]at I B;obtain⟨L,Y,Z,aa,p0,q0,D,rfl,rfl,h0,r0⟩:=trodAll_cons I;obtain⟨O,ab,d1,ad,p1,q1,rfl,rfl,rfl,h1,r1⟩:=trodAll_cons r0;obtain⟨Q,ae,d2,af,p2,q2,rfl,rfl,rfl,h2,r2⟩:=trodAll_cons r1;obtain⟨rfl,rfl,rfl⟩:=trodAll_nil r2;obtain rfl:args=#[L,O,Q]:=by cases args;simp_all
 obtain⟨rfl,rfl⟩:=trodVars_none hV;obtain⟨a0,w0,k0,b0⟩:=Reads.Kb (t:=24) (α:=VE.Trace) B 0 rfl rfl h0;obtain⟨u,w1,k1,b1⟩:=Reads.Kb (t:=3) (α:=Int) B 1 rfl rfl h1;obtain⟨z,w2,k2,b2⟩:=Reads.Kb (t:=28) (α:=VE.Pred) B 2 rfl rfl h2;have hb:bY.wt a0+bY.wt u+bY.wt z<=1048576:=by
  have c0:=b0 Rows.uptoBulk GF;have c1:=b1 Rows.uptoBulk GF;have c2:=b2 Rows.uptoBulk GF;have S:Rows.uptoBulkAll ([Z,d1,d2]++[])<=1048576:=of_decide_eq_true hk;rw[wF]at S;simp only[List.append_nil,List.map_cons,List.map_nil,List.sum_cons,List.sum_nil]at S;omega
 obtain⟨hS,hN⟩:=OS (t:=a0) (by omega)
 have hc:iG cL 8 [VE.enc a0,VE.enc u,VE.enc z]=some [.bool true]:=by
  have hl:(dM a0 u z).bind (λr:Bool=>some [V.bool r])=some [.bool true]:=by rw[KZ (t:=a0) (pr:=u) hS hN (TO z (by omega))];rfl
  exact(vX a0 u z).F.h () _ hl
 have:=Kj (P:=Tryz.prog) JQ CC calls (f:=8) (xs:=[VE.enc a0,VE.enc u,VE.enc z]) (by simp[V.cD,V.good,jI]) hc (w:=W) (args:=#[L,O,Q]) (Us T) (cw.cons w0 (cw.cons w1 (cw.cons w2 .nil)))
 refine this.mono λe J ⟨he,hg⟩=>?_
 subst he;exact⟨_,rfl,MR kids full (by rw[Tryz.params8];decide) rfl rfl rfl Tryz.underlying4 A hg⟩
noncomputable def zw (os:Os):World:=
 { World.holding Tryz.prog os ⟨#[],#[],[]⟩with heap:=(World.holding Tryz.prog os ⟨#[],#[],[]⟩).heap.modify 0 fun
  | .cells _ t frozen=>.cells (BD.map (Value.int .i64)).toArray t frozen
  | o=>o }
theorem NP (os:Os):laidMet Tryz.prog Rows.evaluateLocalUptoRow.laid ((zw os).forCall (λ_ _=>0) ⟨#[],#[.agg #[.slice none 0 0],.int .i64 0,.agg #[.int .i64 0,.int .i64 0,.int .i64 0,.int .i64 0,.string ByteArray.empty,.slice none 0 0]],[]⟩).memory:=
 laidMet_of_run' 8 (by kernel_rfl) (by kernel_rfl)
theorem Ng (os:Os) {H:Type} (enc:TypeId×Value->H):∃places,DataW.whole enc Tryz.prog ((zw os).forCall (λ_ _=>0) ⟨#[],#[.agg #[.slice none 0 0],.int .i64 0,.agg #[.int .i64 0,.int .i64 0,.int .i64 0,.int .i64 0,.string ByteArray.empty,.slice none 0 0]],[]⟩).memory Tryz.f8.params.toList Rows.evaluateLocalSpec.vars false (#[.agg #[.slice none 0 0],.int .i64 0,.agg #[.int .i64 0,.int .i64 0,.int .i64 0,.int .i64 0,.string ByteArray.empty,.slice none 0 0]]:Array Value).toList 8=some ([.agg [.nil],.lit (.int .i64 0),.agg [.lit (.int .i64 0),.lit (.int .i64 0),.lit (.int .i64 0),.lit (.int .i64 0),.lit (.string []),.nil]],[],places):=
 ⟨[],by kernel_rfl⟩
set_option maxRecDepth 100000 in
theorem Ml (os:Os) (B:os.Started) (H:Type) (enc:TypeId×Value->H) (F:Stop.Interp) :
 ReturnsInHanded {} Tryz.checked os 8 .any ((Rows.OpenSpec.upto Rows.evaluateLocalSpec).preRow enc Tryz.prog Tryz.f8 Rows.evaluateLocalUptoRow.domain false Rows.evaluateLocalUptoRow.laid) (((Rows.OpenSpec.upto Rows.evaluateLocalSpec).at F).post enc Tryz.prog Tryz.f8 false true false false):=by
 obtain⟨places,z⟩:=Ng os enc;refine returnsInHanded_of_row (C:=Tryz.checked) (s:=Rows.OpenSpec.upto Rows.evaluateLocalSpec) own B (by kernel_rfl) Tryz.func8
  (witness_row_at (enc:=enc) (C:=Tryz.checked) false (zw os) #[.agg #[.slice none 0 0],.int .i64 0,.agg #[.int .i64 0,.int .i64 0,.int .i64 0,.int .i64 0,.string ByteArray.empty,.slice none 0 0]] rfl (by kernel_rfl) (by kernel_rfl) (by kernel_rfl)
   (OpenSpec.preRow_of_cond 8 z (by kernel_rfl) (λk hk=>by cases hk;kernel_rfl) (by kernel_rfl) (NP os))) ?_
 intro W base args ds gs before w A _ u _ D _ _;exact HC H enc W base args ds gs before w A (u _ rfl) D
theorem Ry:Rows.EvaluateLocalUptoSaid:=
 OpenClaim.holds_of_cond 8 Tryz.f8 rfl rfl rfl rfl rfl rfl rfl ⟨rfl,rfl,rfl,rfl,rfl⟩ rfl rfl rfl rfl rfl (by kernel_rfl) Tryz.func8 (by kernel_rfl)
  (of_decide_eq_true (by kernel_rfl)) (by unfold Func.isWrapper;first|(rw[if_pos (by decide +kernel)];kernel_rfl)|(rw[if_neg (by decide +kernel)];exact⟨rfl,rfl⟩))
  (λos u H enc _ F=>by rw[OpenClaim.pre_eq_preRow];exact Ml os u H enc F)
theorem Ph (f:FuncId) (fn:Func) (D:Tryz.pinned.checked.prog.funcNamed "antecede/antecedelaw29.EvaluateLocal" = some f) (B:Tryz.pinned.checked.prog.funcs[f]? = some fn) :
 false=Tryz.pinned.checked.prog.looks []/\∀(j:Nat) t,fn.params[j]? = some t->Tryz.pinned.checked.prog.wantsStandIn t=false:=by
 obtain rfl:f=8:=Option.some.inj ((show Tryz.prog.funcNamed "antecede/antecedelaw29.EvaluateLocal" = some 8 by kernel_rfl).symm.trans D) |>.symm
 obtain rfl:fn=Tryz.f8:=(Option.some.inj (Tryz.func8.symm.trans B)).symm;refine⟨by kernel_rfl,λj t z=>?_⟩
 rw[Tryz.params8]at z;have A:t∈[24,3,28]:=by simpa using Array.mem_of_getElem? z
 have w:([24,3,28].all λu => !Tryz.prog.wantsStandIn u)=true:=by kernel_rfl
 exact(show Tryz.prog.wantsStandIn t=false by simpa using List.all_eq_true.1 w t A)
theorem evaluateLocalProved:Rows.EvaluateLocalUptoCardSaid:=
 Claim7.holds_tied_plain_at .later [] _ _ _ _ Ry (λ_ h=>by cases h) (by kernel_rfl) (λ_ h=>by cases h) evaluateLocalUpto_row_tie rfl ⟨rfl,rfl⟩ (by kernel_rfl) rfl Ph (by kernel_rfl)
#print axioms evaluateLocalProved
end Go.Proofs.YtlmckmkfopljoaaGreatDoor
