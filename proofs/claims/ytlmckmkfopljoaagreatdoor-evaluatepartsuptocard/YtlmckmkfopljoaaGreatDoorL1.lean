/-
 EvaluateParts says true for all arguments that together are of bulk at most 1048576, and they read behind the call as they read before: for every such argument, without a condition.
-/
import Derived.Test.YtlmckmkfopljoaaGreatDoorRows
import Derived.Test.YtlmckmkfopljoaaGreatDoorCards
import Derived.Test.YtlmckmkfopljoaaGreatDoorTie
import Derived.Deep.DeepHandedRow
import Derived.Test.YtlmckmkfopljoaaGreatDoorK1
import Derived.Test.YtlmckmkfopljoaaGreatDoorG1
set_option linter.all false
namespace Go.VE
theorem Zf{p:Prop}(h:p:=by kernel_rfl):p:=h
instance:bU Var where
 wt x:=bU.wt x.name+bU.wt x.init_+1
 ok x:=bU.ok x.name/\bU.ok x.init_/\True
instance:bU Assign where
 wt x:=bU.wt x.var+bU.wt x.value+1
 ok x:=bU.ok x.var/\bU.ok x.value/\True
instance:bU Event where
 wt x:=bU.wt x.kind+bU.wt x.peer+bU.wt x.message+bU.wt x.time+bU.wt x.assign+1
 ok x:=bU.ok x.kind/\bU.ok x.peer/\bU.ok x.message/\bU.ok x.time/\bU.ok x.assign/\True
instance:bU bS where
 wt x:=bU.wt x.name+bU.wt x.vars+bU.wt x.events+1
 ok x:=bU.ok x.name/\bU.ok x.vars/\bU.ok x.events/\True
instance:bU Trace where
 wt x:=bU.wt x.procs+1
 ok x:=bU.ok x.procs/\True
instance:bU bC where
 wt x:=bU.wt x.low+bU.wt x.high+1
 ok x:=bU.ok x.low/\bU.ok x.high/\True
instance:bU br where
 wt x:=bU.wt x.t+bU.wt x.counts+bU.wt x.values+1
 ok x:=bU.ok x.t/\bU.ok x.counts/\bU.ok x.values/\True
mutual
def Pred.Sp:Pred->Nat
 | ⟨f0,f1,u,z,B,f5⟩=>bU.wt f0+bU.wt f1+bU.wt u+bU.wt z+bU.wt B+Pred.NX f5+1
def Pred.NX:Sl Pred->Nat
 | .nil=>1
 | .emp=>1
 | .row l=>Pred.Ez l+1
 | .part l=>Pred.Ez l+1
def Pred.Ez:List Pred->Nat
 | []=>0
 | x::r=>Pred.Sp x+Pred.Ez r
end
mutual
def Pred.Sk:Pred->Prop
 | ⟨f0,f1,u,z,B,f5⟩=>bU.ok f0/\bU.ok f1/\bU.ok u/\bU.ok z/\bU.ok B/\Pred.Sr f5/\True
def Pred.Sr:Sl Pred->Prop
 | .nil=>True
 | .emp=>False
 | .row l=>Pred.NY l
 | .part l=>Pred.NY l
def Pred.NY:List Pred->Prop
 | []=>True
 | x::r=>Pred.Sk x/\Pred.NY r
end
instance:bU Pred where
 wt:=Pred.Sp
 ok:=Pred.Sk
theorem Pred.B4:∀l:List Pred,Pred.Ez l=(l.map bU.wt).sum
 | []=>rfl
 | x::r=>by simp only[Pred.Ez,List.map_cons,List.sum_cons,Pred.B4 r];rfl
theorem Pred.Sx (s:Sl Pred):Pred.NX s=bU.wt s:=by
 cases s with
 | nil=>rfl
 | emp=>rfl
 | row l=>show Pred.Ez l+1=(l.map bU.wt).sum+1;rw[Pred.B4]
 | part l=>show Pred.Ez l+1=(l.map bU.wt).sum+1;rw[Pred.B4]
theorem Pred.B1:∀l:List Pred,(∀x∈l,bU.ok x)->Pred.NY l
 | [],_=>trivial
 | x::r,h=>⟨h x (List.mem_cons_self ..),Pred.B1 r λy u=>h y (List.mem_cons_of_mem _ u)⟩
theorem Pred.Th (s:Sl Pred) (h:bU.ok s):Pred.Sr s:=by
 cases s with
 | nil=>trivial
 | emp=>exact h.2 rfl
 | row l=>exact Pred.B1 l h.1
 | part l=>exact Pred.B1 l h.1
end Go.VE
namespace Go.VE.YtlmckmkfopljoaaGreatDoor
open Go.Proofs Go.Proofs.YtlmckmkfopljoaaGreatDoor
instance TM:Reads Tryz.prog 9 ByteArray:=Reads.str Tryz.underlying9 Zf
instance TO:Reads Tryz.prog 3 Int:=Reads.int Tryz.underlying3 Zf
instance Tt:Reads Tryz.prog 116 Var:=by
 refine Reads.st Tryz.underlying116 Zf rfl ?_
 intro H enc w base spare held u cs l J h;simp only[List.mapM_cons,List.mapM_nil,Option.pure_def,Option.bind_eq_bind,ζg,ζa]at h;obtain⟨z,L,O,⟨B,h1,Q,rfl,rfl⟩,rfl⟩:=h;obtain⟨a0,C,k0,S⟩:=Reads.rd (P:=Tryz.prog) (t:=9) (α:=ByteArray) (d:=z.1) (ps:=z.2) L;rw[show Tryz.prog.cellsOf 9=1 from by kernel_rfl]at C
 obtain⟨D,G,k1,T⟩:=Reads.rd (P:=Tryz.prog) (t:=3) (α:=Int) (d:=B.1) (ps:=B.2) h1;rw[show Tryz.prog.cellsOf 3=1 from by kernel_rfl]at G
 refine⟨⟨a0,D⟩,eA.fin (n:=2) (eA.seg (o:=1) (n:=1) (eA.seg (o:=0) (n:=1) (show eA (snap w) [] (cs.take 0)from by simpa using eA.nil) C) G) J,⟨k0,k1,trivial⟩,λb I=>?_⟩
 have U:=S b I;have W:=T b I;show bU.wt a0+bU.wt D+1<=_;simp only[List.map_cons,List.map_nil,List.sum_cons,List.sum_nil];omega
instance TF:Reads Tryz.prog 46 (Sl Var):=Reads.sl (e:=116) Tryz.underlying46 Zf (by decide)
instance Tr:Reads Tryz.prog 114 Assign:=by
 refine Reads.st Tryz.underlying114 Zf rfl ?_
 intro H enc w base spare held u cs l J h;simp only[List.mapM_cons,List.mapM_nil,Option.pure_def,Option.bind_eq_bind,ζg,ζa]at h;obtain⟨z,L,O,⟨B,h1,Q,rfl,rfl⟩,rfl⟩:=h;obtain⟨a0,C,k0,S⟩:=Reads.rd (P:=Tryz.prog) (t:=3) (α:=Int) (d:=z.1) (ps:=z.2) L;rw[show Tryz.prog.cellsOf 3=1 from by kernel_rfl]at C
 obtain⟨D,G,k1,T⟩:=Reads.rd (P:=Tryz.prog) (t:=3) (α:=Int) (d:=B.1) (ps:=B.2) h1;rw[show Tryz.prog.cellsOf 3=1 from by kernel_rfl]at G
 refine⟨⟨a0,D⟩,eA.fin (n:=2) (eA.seg (o:=1) (n:=1) (eA.seg (o:=0) (n:=1) (show eA (snap w) [] (cs.take 0)from by simpa using eA.nil) C) G) J,⟨k0,k1,trivial⟩,λb I=>?_⟩
 have U:=S b I;have W:=T b I;show bU.wt a0+bU.wt D+1<=_;simp only[List.map_cons,List.map_nil,List.sum_cons,List.sum_nil];omega
instance Tz:Reads Tryz.prog 49 (Sl Assign):=Reads.sl (e:=114) Tryz.underlying49 Zf (by decide)
instance TG:Reads Tryz.prog 51 Event:=by
 refine Reads.st Tryz.underlying51 Zf rfl ?_
 intro H enc w base spare held z cs l X h;simp only[List.mapM_cons,List.mapM_nil,Option.pure_def,Option.bind_eq_bind,ζg,ζa]at h;obtain⟨B,Y,Z,⟨C,h1,aa,⟨x2,h2,ab,⟨D,h3,ad,⟨G,h4,ae,rfl,rfl⟩,rfl⟩,rfl⟩,rfl⟩,rfl⟩:=h;obtain⟨a0,I,k0,b0⟩:=Reads.rd (P:=Tryz.prog) (t:=3) (α:=Int) (d:=B.1) (ps:=B.2) Y;rw[show Tryz.prog.cellsOf 3=1 from by kernel_rfl]at I
 obtain⟨J,L,k1,b1⟩:=Reads.rd (P:=Tryz.prog) (t:=3) (α:=Int) (d:=C.1) (ps:=C.2) h1;rw[show Tryz.prog.cellsOf 3=1 from by kernel_rfl]at L
 obtain⟨O,Q,k2,b2⟩:=Reads.rd (P:=Tryz.prog) (t:=3) (α:=Int) (d:=x2.1) (ps:=x2.2) h2;rw[show Tryz.prog.cellsOf 3=1 from by kernel_rfl]at Q
 obtain⟨S,T,k3,b3⟩:=Reads.rd (P:=Tryz.prog) (t:=3) (α:=Int) (d:=D.1) (ps:=D.2) h3;rw[show Tryz.prog.cellsOf 3=1 from by kernel_rfl]at T
 obtain⟨U,W,k4,b4⟩:=Reads.rd (P:=Tryz.prog) (t:=49) (α:=(Sl Assign)) (d:=G.1) (ps:=G.2) h4;rw[show Tryz.prog.cellsOf 49=1 from by kernel_rfl]at W
 refine⟨⟨a0,J,O,S,U⟩,eA.fin (n:=5) (eA.seg (o:=4) (n:=1) (eA.seg (o:=3) (n:=1) (eA.seg (o:=2) (n:=1) (eA.seg (o:=1) (n:=1) (eA.seg (o:=0) (n:=1) (show eA (snap w) [] (cs.take 0)from by simpa using eA.nil) I) L) Q) T) W) X,⟨k0,k1,k2,k3,k4,trivial⟩,λb u=>?_⟩
 have w0:=b0 b u;have w1:=b1 b u;have w2:=b2 b u;have w3:=b3 b u;have w4:=b4 b u;show bU.wt a0+bU.wt J+bU.wt O+bU.wt S+bU.wt U+1<=_;simp only[List.map_cons,List.map_nil,List.sum_cons,List.sum_nil];omega
instance Ty:Reads Tryz.prog 45 (Sl Event):=Reads.sl (e:=51) Tryz.underlying45 Zf (by decide)
instance Tw:Reads Tryz.prog 48 bS:=by
 refine Reads.st Tryz.underlying48 Zf rfl ?_
 intro H enc w base spare held z cs l O h;simp only[List.mapM_cons,List.mapM_nil,Option.pure_def,Option.bind_eq_bind,ζg,ζa]at h;obtain⟨B,Q,S,⟨C,h1,T,⟨x2,U,W,rfl,rfl⟩,rfl⟩,rfl⟩:=h;obtain⟨a0,D,k0,X⟩:=Reads.rd (P:=Tryz.prog) (t:=9) (α:=ByteArray) (d:=B.1) (ps:=B.2) Q;rw[show Tryz.prog.cellsOf 9=1 from by kernel_rfl]at D
 obtain⟨G,I,k1,Y⟩:=Reads.rd (P:=Tryz.prog) (t:=46) (α:=(Sl Var)) (d:=C.1) (ps:=C.2) h1;rw[show Tryz.prog.cellsOf 46=1 from by kernel_rfl]at I
 obtain⟨J,L,Z,b2⟩:=Reads.rd (P:=Tryz.prog) (t:=45) (α:=(Sl Event)) (d:=x2.1) (ps:=x2.2) U;rw[show Tryz.prog.cellsOf 45=1 from by kernel_rfl]at L
 refine⟨⟨a0,G,J⟩,eA.fin (n:=3) (eA.seg (o:=2) (n:=1) (eA.seg (o:=1) (n:=1) (eA.seg (o:=0) (n:=1) (show eA (snap w) [] (cs.take 0)from by simpa using eA.nil) D) I) L) O,⟨k0,k1,Z,trivial⟩,λb u=>?_⟩
 have w0:=X b u;have w1:=Y b u;have w2:=b2 b u;show bU.wt a0+bU.wt G+bU.wt J+1<=_;simp only[List.map_cons,List.map_nil,List.sum_cons,List.sum_nil];omega
instance TE:Reads Tryz.prog 22 (Sl bS):=Reads.sl (e:=48) Tryz.underlying22 Zf (by decide)
instance TJ:Reads Tryz.prog 24 Trace:=by
 refine Reads.st Tryz.underlying24 Zf rfl ?_
 intro H enc w base spare held u cs l C h;simp only[List.mapM_cons,List.mapM_nil,Option.pure_def,Option.bind_eq_bind,ζg,ζa]at h;obtain⟨z,D,G,rfl,rfl⟩:=h;obtain⟨a0,B,k0,I⟩:=Reads.rd (P:=Tryz.prog) (t:=22) (α:=(Sl bS)) (d:=z.1) (ps:=z.2) D;rw[show Tryz.prog.cellsOf 22=1 from by kernel_rfl]at B
 refine⟨⟨a0⟩,eA.fin (n:=1) (eA.seg (o:=0) (n:=1) (show eA (snap w) [] (cs.take 0)from by simpa using eA.nil) B) C,⟨k0,trivial⟩,λb J=>?_⟩
 have L:=I b J;show bU.wt a0+1<=_;simp only[List.map_cons,List.map_nil,List.sum_cons,List.sum_nil];omega
instance TI:Reads Tryz.prog 25 (Sl Int):=Reads.sl (e:=3) Tryz.underlying25 Zf (by decide)
theorem QS:∀u,pK Tryz.prog 28 Pred u:=by
 intro u
 induction u using Nat.strongRecOn with
 | ind u Z=>
 cases u with
 | zero=>intro H enc w base spare held cs d ps h;simp[DataW.trod]at h
 | succ u=>
 refine pK.st Tryz.underlying28 Zf ?_
 intro H enc w base spare held cs l hl h;simp only[List.mapM_cons,List.mapM_nil,Option.pure_def,Option.bind_eq_bind,ζg,ζa]at h;obtain⟨C,h0,aa,⟨D,h1,ab,⟨x2,h2,ad,⟨G,h3,ae,⟨I,h4,af,⟨x5,h5,ah,rfl,rfl⟩,rfl⟩,rfl⟩,rfl⟩,rfl⟩,rfl⟩:=h;obtain⟨a0,J,k0,b0⟩:=Reads.rd (P:=Tryz.prog) (t:=3) (α:=Int) (d:=C.1) (ps:=C.2) h0;rw[show Tryz.prog.cellsOf 3=1 from by kernel_rfl]at J
 obtain⟨L,O,k1,b1⟩:=Reads.rd (P:=Tryz.prog) (t:=3) (α:=Int) (d:=D.1) (ps:=D.2) h1;rw[show Tryz.prog.cellsOf 3=1 from by kernel_rfl]at O
 obtain⟨Q,S,k2,b2⟩:=Reads.rd (P:=Tryz.prog) (t:=3) (α:=Int) (d:=x2.1) (ps:=x2.2) h2;rw[show Tryz.prog.cellsOf 3=1 from by kernel_rfl]at S
 obtain⟨T,U,k3,b3⟩:=Reads.rd (P:=Tryz.prog) (t:=3) (α:=Int) (d:=G.1) (ps:=G.2) h3;rw[show Tryz.prog.cellsOf 3=1 from by kernel_rfl]at U
 obtain⟨W,X,k4,b4⟩:=Reads.rd (P:=Tryz.prog) (t:=9) (α:=ByteArray) (d:=I.1) (ps:=I.2) h4;rw[show Tryz.prog.cellsOf 9=1 from by kernel_rfl]at X
 obtain⟨Y,B,k5,b5⟩:=pK.Sh (t:=26) (e:=28) (α:=Pred) Tryz.underlying26 Zf (by decide) (λg hg=>Z g Za) (show _=some (x5.1,x5.2)from h5)
 rw[show Tryz.prog.cellsOf 26=1 from by kernel_rfl]at B
 rw[sI rfl,<-Pred.jX]at B;refine⟨⟨a0,L,Q,T,W,Y⟩,eA.fin (n:=6) (eA.seg (o:=5) (n:=1) (eA.seg (o:=4) (n:=1) (eA.seg (o:=3) (n:=1) (eA.seg (o:=2) (n:=1) (eA.seg (o:=1) (n:=1) (eA.seg (o:=0) (n:=1) (show eA (snap w) [] (cs.take 0)from by simpa using eA.nil) J) O) S) U) X) B) hl,⟨k0,k1,k2,k3,k4,Pred.Th _ k5,trivial⟩,λb z=>?_⟩
 have w0:=b0 b z;have w1:=b1 b z;have w2:=b2 b z;have w3:=b3 b z;have w4:=b4 b z;have w5:=b5 b z;show bU.wt a0+bU.wt L+bU.wt Q+bU.wt T+bU.wt W+Pred.NX Y+1<=_;rw[Pred.Sx];simp only[List.map_cons,List.map_nil,List.sum_cons,List.sum_nil];omega
instance TB:Reads Tryz.prog 28 Pred:=Reads.of Tryz.underlying28 Zf rfl QS
end Go.VE.YtlmckmkfopljoaaGreatDoor
namespace Go.VE
end Go.VE
namespace Go.VE
abbrev N2 {α:Type} (m:Option α):Prop:=Wp m λ_=>True
theorem N2.ok {m:Option Bool} (h:N2 m):m=some (m.getD false):=by obtain⟨a,e,_⟩:=h;rw[e];rfl
def Small (t:Trace):Prop:=t.procs.l.length<1073741824/\∀p∈t.procs.l,p.events.l.length<1073741824/\p.vars.l.length<1073741824/\p.name.size<1073741824/\(∀v∈p.vars.l,v.name.size<1073741824)/\∀e∈p.events.l,e.assign.l.length<1073741824
section
theorem Ii {s:Sl Event} {p:Event->Option Bool} {f:Event->Bool} (hp:∀x∈s.l,p x=some (f x)) (u:s.l.length<1073741824):eW s p=some (place f s.l):=
 sn hp Za (λi=>rfl)
theorem JQ {s:Sl bS} {p:bS->Option Bool} {f:bS->Bool} (hp:∀x∈s.l,p x=some (f x)) (u:s.l.length<1073741824):fA s p=some (place f s.l):=
 sn hp Za (λi=>rfl)
theorem Ar {s:Sl Var} {p:Var->Option Bool} {f:Var->Bool} (hp:∀x∈s.l,p x=some (f x)) (u:s.l.length<1073741824):ey s p=some (place f s.l):=
 sn hp Za (λi=>rfl)
theorem GN {s:Sl Assign} {p:Assign->Option Bool} {f:Assign->Bool} (hp:∀x∈s.l,p x=some (f x)) (u:s.l.length<1073741824):eH s p=some (place f s.l):=
 sn hp Za (λi=>rfl)
theorem xx {s:Sl Event} {p:Event->Option Bool} {f:Event->Bool} (hp:∀x∈s.l,p x=some (f x)) (u:s.l.length<1073741824):gm s p=some (s.l.any f):=by
 unfold gm;rw[Ii hp u,ζb,sA]
theorem x8 {s:Sl bS} {p:bS->Option Bool} {f:bS->Bool} (hp:∀x∈s.l,p x=some (f x)) (u:s.l.length<1073741824):fC s p=some (s.l.any f):=by
 unfold fC;rw[JQ hp u,ζb,sA]
theorem zI {s:Sl Var} {p:Var->Option Bool} {f:Var->Bool} (hp:∀x∈s.l,p x=some (f x)) (u:s.l.length<1073741824):fP s p=some (s.l.any f):=by
 unfold fP;rw[Ar hp u,ζb,sA]
theorem Cm {s:Sl Assign} {p:Assign->Option Bool} {f:Assign->Bool} (hp:∀x∈s.l,p x=some (f x)) (u:s.l.length<1073741824):fW s p=some (s.l.any f):=by
 unfold fW;rw[GN hp u,ζb,sA]
theorem nk (x lo hi:Int):lJ x lo hi=some (decide (lo<=x)&&decide (x<=hi)):=by
 unfold lJ;rw[tJ];rfl
theorem HU {s:ByteArray} {i:Nat} (h:i<s.size):∃x,mq s (i:Int)=some x:=by
 unfold mq;rw[if_pos Za]
 exact⟨_,by rw[show (s[(i:Int).toNat]?)=some s[i]from by simp[h]];rfl⟩
def sG (n:Nat) (p:Int) (e:Event):Prop:=e.kind=1\/((e.kind=2\/e.kind=3)/\0<=e.peer/\e.peer<n/\e.peer≠p/\0<=e.message/\e.message<=199)
end
def vR (t:Trace) (p k:Nat) (e:Event):Prop:=∃P,t.procs.l[p]? = some P/\P.events.l[k]? = some e
theorem rP {p:Int} {x:aZ×Event}:∀{es:List Event} {j:Int},x∈js p j es↔∃k:Nat,es[k]? = some x.2/\x.1=⟨p,j+k+1⟩
 | [],j=>by simp[js]
 | e::es,j=>by
  simp[js,rP ];constructor
  .rintro (rfl|⟨k,h1,u⟩)
   .exact⟨0,rfl,by simp⟩
   exact⟨k+1,by grind,by grind⟩
  grind
theorem sP {x:aZ×Event}:∀{ps:List bS} {i:Int},x∈fN i ps↔∃(a k:Nat) (P:bS),ps[a]? = some P/\P.events.l[k]? = some x.2/\x.1=⟨i+a,k+1⟩
 | [],i=>by simp[fN]
 | p::ps,i=>by
  simp only[fN,List.mem_append,rP,sP ];constructor
  .rintro (⟨k,h1,u⟩|⟨a,k,P,h1,u,z⟩)
   .exact⟨0,k,p,rfl,h1,by grind⟩
   exact⟨a+1,k,P,by simp_all,u,by grind⟩
  grind
abbrev bZ (t:Trace):List (aZ×Event):=fN 0 t.procs.l
theorem eX {t:Trace} {x:aZ×Event}:x∈bZ t↔∃p k:Nat,vR t p k x.2/\x.1=⟨p,k+1⟩:=by
 rw[sP];constructor
 .rintro⟨a,k,P,h1,u,w⟩;exact⟨a,k,⟨P,h1,u⟩,by grind⟩
 rintro⟨a,k,⟨P,h1,u⟩,w⟩;grind
theorem AI {t:Trace} {x y:aZ×Event} (u:x∈bZ t) (z:y∈bZ t) (h:x.1=y.1):x=y:=by
 obtain⟨p,k,⟨P,w,hk⟩,e1⟩:=eX.1 u;obtain⟨q,j,⟨Q,B,C⟩,e2⟩:=eX.1 z
 grind
theorem qq {t:Trace} (hS:Small t):gZ t=some (bZ t):=by
 unfold gZ;rw[if_pos];simp[mJ];exact⟨by have:=hS.1;omega,λp u=>by have:=(hS.2 p u).1;omega⟩
def vB (t:Trace) (p m to:Int):Bool:=match t.procs.l[p.toNat]? with
 | some P=>P.events.l.any λe=>e.kind==2&&e.message==m&&e.peer==to
 | none=>false
theorem LO {t:Trace} (hS:Small t) {p:Int} (z:0<=p) (h1:p<t.procs.l.length) (m to:Int):rV t p m to=some (vB t p m to):=by
 unfold rV;have u:p.toNat<t.procs.l.length:=by omega
 have w:=List.getElem_mem u;rw[S5 z,ζd u,ζb,xx (f:=λe=>e.kind==2&&e.message==m&&e.peer==to) (λe _=>by
  unfold om;simp[tJ]) (hS.2 _ w).1,ζb]
 unfold vB
 grind
theorem wF {t:Trace} {p:Nat} {m to:Int}:vB t p m to=true↔∃k e,vR t p k e/\e.kind=2/\e.message=m/\e.peer=to:=by
 unfold vB vR;rw[show (p:Int).toNat=p from rfl]
 cases w:t.procs.l[p]? with
 | none=>simp
 | some P=>
  simp;constructor
  .rintro⟨e,u,h⟩;obtain⟨k,hk⟩:=List.getElem?_of_mem u
   grind
  grind
def ag (A:cw 200 bE) (m:Int):bE:=(A.at m).getD default
theorem Im (A:cw 200 bE) {m:Int} (u:0<=m) (h1:m<=199):A.at m=some (ag A m):=by
 have:m.toNat<A.l.length:=by rw[A.len];omega
 unfold ag cw.at
 grind
theorem oT (A:cw 200 bE) {m m':Int} (x:bE) (u:0<=m) (h1:m<=199) (z:0<=m'):ag (A.set m x) m'=if m'=m then x else ag A m':=by
 have:m.toNat<A.l.length:=by rw[A.len];omega
 unfold ag cw.at cw.set
 grind
theorem Jw {m:Int} (u:0<=m) (h1:m<=199):ag (cw.JG 200 (⟨⟨0,0⟩,⟨0,0⟩⟩:bE)) m=⟨⟨0,0⟩,⟨0,0⟩⟩:=by
 unfold ag cw.at cw.JG
 grind
structure mB (t:Trace) (its:List (aZ×Event)) (A:cw 200 bE):Prop where
 snd:∀x∈its,x.2.kind=2->(ag A x.2.message).from_=x.1
 rcv:∀x∈its,x.2.kind=3->(ag A x.2.message).to_=x.1/\vB t x.2.peer x.2.message x.1.proc=true
 fr:∀m,0<=m->m<=199->(ag A m).from_.index=0\/∃e,((ag A m).from_,e)∈its/\e.kind=2/\e.message=m
 to:∀m,0<=m->m<=199->(ag A m).to_.index=0\/∃e,((ag A m).to_,e)∈its/\e.kind=3/\e.message=m
def H_ (a b:aZ×Event):Prop:=a.1.proc<b.1.proc\/a.1.proc=b.1.proc/\a.1.index<b.1.index
theorem J8 {p:Int}:∀{es:List Event} {j:Int},(js p j es).Pairwise H_
 | [],_=>List.Pairwise.nil
 | e::es,j=>by
  simp only[js,List.pairwise_cons];refine⟨λb u=>?_,J8⟩
  obtain⟨k,_,z⟩:=rP.1 u;refine .inr ⟨by rw[z],?_⟩
  grind
theorem FH:∀{ps:List bS} {i:Int},(fN i ps).Pairwise H_
 | [],_=>List.Pairwise.nil
 | P::ps,i=>by
  simp only[fN,List.pairwise_append];refine⟨J8,FH,λa u b z=>.inl ?_⟩
  obtain⟨k,_,B⟩:=rP.1 u;obtain⟨c,j,P,_,_,w⟩:=sP.1 z
  grind
theorem D9 {t:Trace} {k:Nat} {x y:aZ×Event} (u:(bZ t)[k]? = some x) (z:y∈(bZ t).take k):y.1≠x.1:=by
 obtain⟨h1,w⟩:=ζe.1 u;have B:((bZ t).take k++(bZ t).drop k).Pairwise H_:=by rw[List.take_append_drop];exact FH
 have:=(List.pairwise_append.1 B).2.2 y z x (by rw[List.drop_eq_getElem_cons h1,w];grind)
 unfold H_ at this
 grind
structure Nt (t:Trace):Prop where
 snd:∀x∈bZ t,∀y∈bZ t,x.2.kind=2->y.2.kind=2->x.2.message=y.2.message->x.1=y.1
 rcv:∀x∈bZ t,∀y∈bZ t,x.2.kind=3->y.2.kind=3->x.2.message=y.2.message->x.1=y.1
 has:∀x∈bZ t,x.2.kind=3->vB t x.2.peer x.2.message x.1.proc=true
theorem mB.zH {t:Trace} {A:cw 200 bE} (h:mB t (bZ t) A):Nt t:=
 ⟨λx w y z B u C=>by rw[<-h.snd x w B,<-h.snd y z u,C],λx w y z B u C=>by rw[<-(h.rcv x w B).1,<-(h.rcv y z u).1,C],λx w k=>(h.rcv x w k).2⟩
theorem Bq {t:Trace} (hS:Small t) (hF:∀x∈bZ t,sG t.procs.l.length x.1.proc x.2):Wp (dW t) λr=>(r.2.2=0->∃A,r.1=some A/\mB t (bZ t) A)/\(Nt t->r.2.2=0):=by
 unfold dW hD;rw[ζb];unfold dW.E1;rw[qq hS,ζb];refine vY (λk A=>mB t ((bZ t).take k) A) ⟨by simp,by simp,λm L h1=>.inl (by rw[Jw L h1]),λm L h1=>.inl (by rw[Jw L h1])⟩ ?_ ?_
 .intro k x A hx B;have G  := List.mem_of_getElem? hx;have T:(bZ t).take (k+1)=(bZ t).take k++[x]:=by rw[List.take_add_one,hx];rfl
  obtain⟨p,j,aa,ab⟩:=eX.1 G;have hf:=hF x G;unfold dW.iD;rw[dN];constructor
  .intro hk;have O:x.2.kind=2:=by grind
   have u:0<=x.2.message/\x.2.message<=199:=by
    rcases hf with h|⟨_,_,_,_,h⟩
    .omega
    simp_all
   rw[Im A u.1 u.2,ζb,dN];refine⟨λhg=>(bp _).2 ((bp _).2 ⟨λh=>(by cases h),λY=>?_⟩),λL=>?_⟩
   .rcases B.fr _ u.1 u.2 with Z|⟨e,Q,U,W⟩
    .grind
    exact absurd (Y.snd _ (List.mem_of_mem_take Q) x G U O W) (D9 hx Q)
   rw[ζb,bp,T];have X:∀y∈(bZ t).take k,y.2.kind=2->y.2.message≠x.2.message:=λy hy w Q=>by
    have:=B.snd y hy w;rw[Q]at this;obtain⟨p',j',_,S⟩:=eX.1 (List.mem_of_mem_take hy)
    grind
   have nn:∀y∈(bZ t).take k,y.2.kind=2\/y.2.kind=3->0<=y.2.message:=λy hy w=>by
    rcases hF y (List.mem_of_mem_take hy)with h|⟨_,_,_,_,h,_⟩
    .omega
    simp_all
   refine⟨λy hy w=>?_,λy hy z=>?_,λm C I=>?_,λm C I=>?_⟩
   .rcases List.mem_append.1 hy with hy|hy
    .rw[oT A _ u.1 u.2 (nn y hy (.inl w)),if_neg (X y hy w)];exact B.snd y hy w
    simp at hy;subst hy;rw[oT A _ u.1 u.2 u.1,if_pos rfl]
   .rcases List.mem_append.1 hy with hy|hy
    .rw[oT A _ u.1 u.2 (nn y hy (.inr z))];have:=B.rcv y hy z
     grind
    grind
   .rw[oT A _ u.1 u.2 C];split
    next e=>exact .inr ⟨x.2,by simp,O,e.symm⟩
    exact(B.fr m C I).imp (λh=>h) λ⟨e,h1,D⟩=>⟨e,List.mem_append_left _ h1,D⟩
   rw[oT A _ u.1 u.2 C];have:=(B.to m C I).imp (λh=>h) λ⟨e,h1,D⟩=>(⟨e,List.mem_append_left [x] h1,D⟩:∃e,((ag A m).to_,e)∈(bZ t).take k++[x]/\e.kind=3/\e.message=m)
   split
   next e=>subst e;omega
   omega
  intro hk;have O  := by simpa using hk
  rw[dN];constructor
  .intro hk;have J  := by simpa using hk
   have u:0<=x.2.message/\x.2.message<=199/\0<=x.2.peer/\x.2.peer<t.procs.l.length:=by
    rcases hf with h|⟨_,h1,D,_,h3,h4⟩
    .omega
    exact⟨h3,h4,h1,D⟩
   rw[Im A u.1 u.2.1,ζb,dN];refine⟨λhg=>(bp _).2 ((bp _).2 ⟨λh=>(by cases h),λY=>?_⟩),λL=>?_⟩
   .rcases B.to _ u.1 u.2.1 with Z|⟨e,Q,U,W⟩
    .simp[Z]at hg
    exact absurd (Y.rcv _ (List.mem_of_mem_take Q) x G U J W) (D9 hx Q)
   have L:¬(ag A x.2.message).to_.index>0:=by simpa using L
   rw[LO hS u.2.2.1 u.2.2.2,ζb,dN];refine⟨λhs=>?_,λhs=>(bp _).2 ((bp _).2 ⟨λh=>(by cases h),λY=>by rw[Y.has x G J]at hs;cases hs⟩)⟩
   rw[ζb,bp,T];have X:∀y∈(bZ t).take k,y.2.kind=3->y.2.message≠x.2.message:=λy hy w Q=>by
    have:=(B.rcv y hy w).1;rw[Q]at this;rw[this]at L;obtain⟨p',j',_,S⟩:=eX.1 (List.mem_of_mem_take hy);rw[S]at L;exact L (by show (j':Int)+1>0;omega)
   have nn:∀y∈(bZ t).take k,y.2.kind=2\/y.2.kind=3->0<=y.2.message:=λy hy w=>by
    rcases hF y (List.mem_of_mem_take hy)with h|⟨_,_,_,_,h,_⟩
    .omega
    exact h
   refine⟨λy hy w=>?_,λy hy z=>?_,λm C I=>?_,λm C I=>?_⟩
   .rcases List.mem_append.1 hy with hy|hy
    .rw[oT A _ u.1 u.2.1 (nn y hy (.inl w))];have:=B.snd y hy w;split
     next e=>rw[e]at this;exact this
     exact this
    simp at hy;subst hy;omega
   .rcases List.mem_append.1 hy with hy|hy
    .rw[oT A _ u.1 u.2.1 (nn y hy (.inr z)),if_neg (X y hy z)];exact B.rcv y hy z
    simp at hy;subst hy;rw[oT A _ u.1 u.2.1 u.1,if_pos rfl];exact⟨rfl,hs⟩
   .rw[oT A _ u.1 u.2.1 C];have:=(B.fr m C I).imp (λh=>h) λ⟨e,h1,D⟩=>(⟨e,List.mem_append_left [x] h1,D⟩:∃e,((ag A m).from_,e)∈(bZ t).take k++[x]/\e.kind=2/\e.message=m)
    split
    next e=>subst e;exact this
    exact this
   rw[oT A _ u.1 u.2.1 C];split
   next e=>exact .inr ⟨x.2,by simp,J,e.symm⟩
   exact(B.to m C I).imp (λh=>h) λ⟨e,h1,D⟩=>⟨e,List.mem_append_left _ h1,D⟩
  intro hk;have J  := by simpa using hk
  rw[bp,T];refine⟨λy hy w=>?_,λy hy z=>?_,λm C I=>?_,λm C I=>?_⟩
  .rcases List.mem_append.1 hy with hy|hy
   .exact B.snd y hy w
   simp at hy;subst hy;exact absurd w O
  .rcases List.mem_append.1 hy with hy|hy
   .exact B.rcv y hy z
   simp at hy;subst hy;exact absurd z J
  .exact(B.fr m C I).imp (λh=>h) λ⟨e,h1,D⟩=>⟨e,List.mem_append_left _ h1,D⟩
  exact(B.to m C I).imp (λh=>h) λ⟨e,h1,D⟩=>⟨e,List.mem_append_left _ h1,D⟩
 intro A hA;rw[List.take_length]at hA;exact(bp _).2 ⟨λ_=>⟨A,rfl,hA⟩,λ_=>rfl⟩
def kF (f:Nat->Bool) (k n:Nat):Bool:=(List.range' k (n-k)).any f
theorem K9 {f:Nat->Bool} {k n:Nat} (h:k<n):kF f k n=(f k||kF f (k+1) n):=by
 unfold kF;rw[show n-k=(n-(k+1))+1 from by omega,List.range'_succ];rfl
theorem MT {f:Nat->Bool} {k n:Nat} (h:n<=k):kF f k n=false:=by
 unfold kF;rw[show n-k=0 from by omega];rfl
theorem MY {f:Nat->Bool} {k n:Nat}:kF f k n=true↔∃i,k<=i/\i<n/\f i=true:=by
 unfold kF;rw[List.any_eq_true];constructor
 .rintro⟨i,hi,u⟩;rw[List.mem_range'_1]at hi;exact⟨i,hi.1,by omega,u⟩
 rintro⟨i,h1,w,u⟩;exact⟨i,by rw[List.mem_range'_1];omega,u⟩
theorem OA {step:Int->Option (Fw Int Unit Unit)} {n:Nat} (f:Nat->Bool) (z:n<9223372036854775807) (h1:∀i:Nat,i<n->step i=some (if f i then .r ()else .n (IntKind.wrap .i64 ((i:Int)+1)))) (u:step (n:Int)=some (.x ())) :
 ∀m k:Nat,k+m=n->c_ step (k:Int)=some (if kF f k n then .r ()else .x ()):=by
 intro m
 induction m with
 | zero=>
  intro k hk;have:k=n:=by omega
  subst this;rw[e_,u,MT (Nat.le_refl _)];rfl
 | succ m w=>
  intro k hk;rw[e_,h1 k Za,K9 Za]
  cases B:f k with
  | true=>rfl
  | false=>
   simp only[Bool.false_eq_true,if_false,ζb,Bool.false_or];rw[ji k Za]
   exact w (k+1) Za
def nZ (g:Nat->Int) (k n:Nat):Int:=match (List.range' k (n-k)).find? λi => !(g i==0)with
 | some i=>g i
 | none=>0
theorem CD {g:Nat->Int} {k n:Nat} (h:k<n):nZ g k n=if g k=0 then nZ g (k+1) n else g k:=by
 unfold nZ;rw[show n-k=(n-(k+1))+1 from by omega,List.range'_succ,List.find?_cons]
 by_cases u:g k=0
 .simp[u]
 rw[if_neg u,show (!(g k==0))=true from by simp[u]]
theorem D1 {g:Nat->Int} {k n:Nat} (h:n<=k):nZ g k n=0:=by
 unfold nZ;rw[show n-k=0 from by omega];rfl
theorem Kx {g:Nat->Int} {n:Nat}:∀{m k:Nat},k+m=n->(nZ g k n=0↔∀i,k<=i->i<n->g i=0):=by
 intro m
 induction m with
 | zero=>intro k hk;rw[D1 Za];exact⟨λ_ i h1 u=>by omega,λ_=>rfl⟩
 | succ m z=>
  intro k hk;rw[CD Za]
  split
  .rename_i w;rw[z (show k+1+m=n by omega)]
   constructor
   .intro h i h1 u
    by_cases e:i=k
    .subst e;exact w
    exact h i Za u
   intro h i h1 u;exact h i Za u
  rename_i w;exact⟨λh=>absurd h w,λh=>absurd (h k (Nat.le_refl _) Za) w⟩
theorem Pa {step:Int->Option (Fw Int Unit Int)} {n:Nat} (g:Nat->Int) (B:n<9223372036854775807) (h1:∀i:Nat,i<n->step i=some (if g i=0 then .n (IntKind.wrap .i64 ((i:Int)+1))else .r (g i))) (z:step (n:Int)=some (.x ())) :
 ∀m k:Nat,k+m=n->c_ step (k:Int)=some (if nZ g k n=0 then .x ()else .r (nZ g k n)):=by
 intro m
 induction m with
 | zero=>
  intro k hk;have:k=n:=by omega
  subst this;rw[e_,z,D1 (Nat.le_refl _)];rfl
 | succ m w=>
  intro k hk;rw[e_,h1 k Za,CD Za]
  by_cases u:g k=0
  .simp only[u,if_true,ζb];rw[ji k Za]
   exact w (k+1) Za
  simp only[u,if_false,ζb]
theorem En {step:Int->Option (Fw Int Unit Int)} {n:Nat} (g:Nat->Int) (u:n<9223372036854775807) (h1:∀i:Nat,i<n->step i=some (if g i=0 then .n (IntKind.wrap .i64 ((i:Int)+1))else .r (g i))) (z:step (n:Int)=some (.x ())):c_ step 0=some (if nZ g 0 n=0 then .x ()else .r (nZ g 0 n)):=Pa g u h1 z n 0 Za
def BX (c:Int):Bool:=decide (c>=65)&&decide (c<=90)||decide (c>=97)&&decide (c<=122)
def IE (c:Int):Bool:=decide (c>=48)&&decide (c<=57)
theorem A6 (c:Int):nK c=some (BX c):=by
 unfold nK BX;simp only[tJ,EK,ζb];rw[Bool.or_comm]
theorem JH (c:Int):rN c=some (IE c):=by
 unfold rN IE;simp only[tJ,ζb]
def zV (s:ByteArray) (i:Nat):Int:=(mq s (i:Int)).getD 0
theorem Jx {s:ByteArray} {i:Nat} (h:i<s.size):mq s (i:Int)=some (zV s i):=by
 obtain⟨x,u⟩:=HU h;unfold zV;rw[u];rfl
def Cc (s:ByteArray) (i:Nat):Bool := !BX (zV s i) && !IE (zV s i) && !(zV s i==95)
def ql (s:ByteArray):Bool:=decide (1<=s.size)&&decide (s.size<=16)&&BX (zV s 0) && !kF (Cc s) 0 s.size
theorem IS {s:ByteArray} {i:Nat} (h:i<s.size):fD.cr s (s.size:Int) i=some (if Cc s i then .r ()else .n (IntKind.wrap .i64 ((i:Int)+1))):=by
 unfold fD.cr Cc;rw[show decide ((i:Int)<(s.size:Int))=true from by simpa using h,bT,Jx h]
 simp only[ζb,A6,JH];cases BX (zV s i) <;> cases IE (zV s i) <;> cases (zV s i==95) <;> rfl
theorem toList_empty {s:ByteArray}:(ByteArray.toList s==ByteArray.toList ByteArray.empty)=decide (s.size=0):=by
 rw[Bool.eq_iff_iff,beq_iff_eq,decide_eq_true_eq];constructor
 .intro h;have h1:(ByteArray.toList s).length=s.size:=by rw[Go.ByteArray.toList_eq];simp
  rw[<-h1,h];rw[Go.ByteArray.toList_eq];rfl
 intro h;have:s=ByteArray.empty:=by
  apply ByteArray.ext;exact Array.eq_empty_of_size_eq_zero h
 rw[this]
theorem Da {s:ByteArray} (B:s.size<1073741824):fD s=some (ql s):=by
 unfold fD;rw[toList_empty];simp only[EK,ζb]
 by_cases w:s.size=0
 .simp[w,ql,bn]
 by_cases u:s.size<=16
 .have hc:(decide (s.size=0)||decide (((ByteArray.size s:Nat):Int)>16))=false:=by simp[w];omega
  rw[hc,bJ,show (0:Int)=((0:Nat):Int)from rfl,Jx (show 0<s.size by omega)]
  simp only[ζb,A6]
  cases z:BX (zV s 0)with
  | false=>simp[ql,z,bn]
  | true=>
   simp only[Bool.not_true,bJ];unfold fD.W1;rw[OA (n:=s.size) (Cc s) Za (λi hi=>IS hi) (by unfold fD.cr;simp[bn]) s.size 0 Za]
   have:ql s = !kF (Cc s) 0 s.size:=by simp[ql,z,u];omega
   rw[this];cases kF (Cc s) 0 s.size <;> rfl
 have hc:(decide (s.size=0)||decide (((ByteArray.size s:Nat):Int)>16))=true:=by simp;omega
 rw[hc,bT];simp[ql,u,bn]
def fO {α:Type} (l:List α) (f:α->Bool) (i:Nat):Bool:=match l[i]? with|some y=>f y|none=>false
theorem Qq {α:Type} {l:List α} {f:α->Bool} {i:Nat} (h:i<l.length):fO l f i=f l[i]:=by unfold fO;rw[ζd h]
theorem Ag {α:Type} {l:List α} {f:α->Bool} {p:Nat}:(l.take p).any f=kF (fO l f) 0 p:=by
 rw[Bool.eq_iff_iff,List.any_eq_true,MY];constructor
 .rintro⟨x,w,u⟩;obtain⟨i,hi⟩:=List.getElem?_of_mem w;have z:=(ζe.1 hi).1;rw[List.length_take]at z;rw[List.getElem?_take,if_pos Za]at hi
  exact⟨i,Nat.zero_le _,by omega,by unfold fO;rw[hi];exact u⟩
 rintro⟨i,_,hi,u⟩;unfold fO at u;split at u
 next y B=>exact⟨y,List.mem_of_getElem? (i:=i) (by rw[List.getElem?_take,if_pos hi];exact B),u⟩
 cases u
def wK (a b:ByteArray):Bool:=ByteArray.toList a==ByteArray.toList b
def Qz:Bool->Bool->Bool->Int
 | true,false,true=>0
 | true,false,false=>2
 | _,_,_=>13
def vV (P:bS) (i:Nat):Int:=match P.vars.l[i]? with
 | some v=>Qz (ql v.name) (kF (fO P.vars.l λw=>wK w.name v.name) 0 i) (decide (v.init_>=-1073741824)&&decide (v.init_<=1073741824))
 | none=>0
def vS (t:Trace) (p:Nat):Int:=match t.procs.l[p]? with
 | some P=>if ql P.name && !kF (fO t.procs.l λy=>wK y.name P.name) 0 p then
  (if P.vars.l.length>8 then 5 else if nZ (vV P) 0 P.vars.l.length=0 then(if P.events.l.length>64 then 5 else 0)else nZ (vV P) 0 P.vars.l.length)else 13
 | none=>0
theorem Jt {P:bS} {i:Nat} (h:i<P.vars.l.length):vV P i=Qz (ql P.vars.l[i].name) (kF (fO P.vars.l λw=>wK w.name P.vars.l[i].name) 0 i) (decide (P.vars.l[i].init_>=-1073741824)&&decide (P.vars.l[i].init_<=1073741824)):=by
 unfold vV;rw[ζd h]
theorem ML {t:Trace} (hS:Small t) {p:Nat} (hp:p<t.procs.l.length):dX t p=some (vS t p):=by
 have U:=hS.2 _ (List.getElem_mem hp);have h1:=hS.1;unfold dX vS;rw[cS hp,ζb,ζd hp];generalize W:t.procs.l[p]=P at *;obtain⟨S,X,O,u,_⟩:=U;rw[Da O,ζb];obtain⟨x,Y,D⟩:=sy t.procs p Za
 have G:fC x (λz=>iB z P)=some (kF (fO t.procs.l λy=>wK y.name P.name) 0 p):=by
  rw[x8 (p:=λz=>iB z P) (f:=λy=>wK y.name P.name) (λy _=>rfl) (by rw[D,List.length_take];omega),D,Ag]
 rw[Y,ζb,G,ζb];dsimp only
 cases hn:ql P.name with
 | false=>simp[bn]
 | true=>
  rw[bT,ζb,Bool.true_and]
  cases hd:kF (fO t.procs.l λy=>wK y.name P.name) 0 p with
  | true=>simp[bn]
  | false=>
   rw[bJ];simp only[Bool.not_false,if_true]
   by_cases T:P.vars.l.length>8
   .rw[show decide (len P.vars>8)=true from by simp[len];omega,bT,if_pos T]
   rw[show decide (len P.vars>8)=false from by simp[len];omega,bJ,if_neg T]
   unfold dX.W1;rw[En (n:=P.vars.l.length) (vV P) Za (λi hi=>?_) (by unfold dX.cr;simp[bn,len])]
   .by_cases L:nZ (vV P) 0 P.vars.l.length=0
    .rw[if_pos L,if_pos L];show bn (decide (len P.events>64)) (some 5) (some 0)=_;rw[MG];simp only[len,decide_eq_true_eq]
     by_cases I:P.events.l.length>64
     .rw[if_pos I,if_pos Za]
     rw[if_neg I,if_neg Za]
    rw[if_neg L,if_neg L];rfl
   unfold dX.cr;rw[Jt hi,show decide ((i:Int)<len P.vars)=true from by simp[len];exact hi,bT,cS hi,ζb]
   have hv:=u _ (List.getElem_mem hi);obtain⟨y,Z,J⟩:=sy P.vars i Za
   have Q:fP y (λz=>iz z P.vars.l[i])=some (kF (fO P.vars.l λw=>wK w.name P.vars.l[i].name) 0 i):=by
    rw[zI (p:=λz=>iz z P.vars.l[i]) (f:=λw=>wK w.name P.vars.l[i].name) (λw _=>rfl) (by rw[J,List.length_take];omega),J,Ag]
   rw[Da hv,ζb,Z,ζb,Q,ζb,nk];have hr:(decide (-1073741824<=P.vars.l[i].init_)&&decide (P.vars.l[i].init_<=1073741824))=(decide (P.vars.l[i].init_>=-1073741824)&&decide (P.vars.l[i].init_<=1073741824)):=rfl;rw[hr];generalize ql P.vars.l[i].name=A;generalize kF (fO P.vars.l λw=>wK w.name P.vars.l[i].name) 0 i=B
   generalize (decide (P.vars.l[i].init_>=-1073741824)&&decide (P.vars.l[i].init_<=1073741824))=C;cases A <;> cases B <;> cases C <;> rfl
def GU (n:Nat) (p:Int) (e:Event):Bool:=if e.kind==1 then e.peer==0&&e.message==0 else(e.kind==2||e.kind==3)&&(decide (0<=e.peer)&&decide (e.peer<n)) && !(e.peer==p)&&(decide (0<=e.message)&&decide (e.message<=199))
theorem JZ {t:Trace} (hS:Small t) (p:Int) (e:Event):gy t p e=some (GU t.procs.l.length p e):=by
 have h1:=hS.1;have w:IntKind.wrap .i64 (len t.procs-1)=len t.procs-1:=fh _ (by simp[len];omega) (by simp[len];omega)
 have u:∀b:Bool,gy.J1 p b t e=some (b&&(decide (0<=e.peer)&&decide (e.peer<t.procs.l.length)) && !(e.peer==p)&&(decide (0<=e.message)&&decide (e.message<=199))):=by
  intro b;unfold gy.J1;simp only[nk,w,ζb];have:decide (e.peer<=len t.procs-1)=decide (e.peer<t.procs.l.length):=by congr 1;apply propext;simp[len];omega
  rw[this];generalize (decide (0<=e.peer)&&decide (e.peer<(t.procs.l.length:Int)))=A;generalize (e.peer==p)=B;generalize (decide (0<=e.message)&&decide (e.message<=199))=C;cases b <;> cases A <;> cases B <;> cases C <;> rfl
 unfold gy GU;rw[u,u]
 cases h1:e.kind==1 with
 | true=>
  rw[bT];cases e.peer==0 <;> cases e.message==0 <;> rfl
 | false=>
  rw[bJ];simp only[Bool.false_eq_true,if_false];cases z:e.kind==2 <;> simp[bn]
def Jf (P:bS) (k:Nat) (e:Event):Bool:=match k with|0=>false|j+1=>fO P.events.l (λx=>decide (e.time<x.time)) j
def wj (P:bS) (k:Nat) (e:Event):Bool:=decide (e.time<0)||decide (e.time>1099511627776)||Jf P k e
def LU:Bool->Bool->Bool->Int
 | true,true,false=>0
 | true,true,true=>8
 | _,_,_=>2
def qg (P:bS) (e:Event) (i:Nat):Int:=match e.assign.l[i]? with
 | some a=>LU (decide (0<=a.var)&&decide (a.var<P.vars.l.length)) (decide (a.value>=-1073741824)&&decide (a.value<=1073741824)) (kF (fO e.assign.l λb=>b.var==a.var) 0 i)
 | none=>0
theorem K_ {P:bS} {e:Event} {i:Nat} (h:i<e.assign.l.length):qg P e i=LU (decide (0<=e.assign.l[i].var)&&decide (e.assign.l[i].var<P.vars.l.length)) (decide (e.assign.l[i].value>=-1073741824)&&decide (e.assign.l[i].value<=1073741824)) (kF (fO e.assign.l λb=>b.var==e.assign.l[i].var) 0 i):=by
 unfold qg;rw[ζd h]
def rT (n:Nat) (P:bS) (p k:Nat) (e:Event):Int:=if GU n p e then(if wj P k e then 11 else if e.assign.l.length>8 then 5 else nZ (qg P e) 0 e.assign.l.length)else 3
theorem Jc {P:bS} {e:Event} (hv:P.vars.l.length<1073741824) (T:e.assign.l.length<1073741824):dm.W2 e.assign (len e.assign) 0 e P=some (nZ (qg P e) 0 e.assign.l.length):=by
 have I:IntKind.wrap .i64 (len P.vars-1)=len P.vars-1:=fh _ (by simp[len];omega) (by simp[len];omega)
 unfold dm.W2;rw[En (n:=e.assign.l.length) (qg P e) Za (λi hi=>?_) (by unfold dm.dL;simp[bn,len])]
 .by_cases D:nZ (qg P e) 0 e.assign.l.length=0
  .rw[if_pos D,D];rfl
  rw[if_neg D];rfl
 unfold dm.dL;obtain⟨y,J,u⟩:=sy e.assign i Za
 have G:fW y (λz=>jk z e.assign.l[i])=some (kF (fO e.assign.l λb=>b.var==e.assign.l[i].var) 0 i):=by
  rw[Cm (p:=λz=>jk z e.assign.l[i]) (f:=λb=>b.var==e.assign.l[i].var) (λw _=>rfl) (by rw[u,List.length_take];omega),u,Ag]
 rw[K_ hi,show decide ((i:Int)<len e.assign)=true from by simp[len];exact hi,bT,cS hi,ζb,nk,nk,I,J,ζb,ζb,ζb,G,ζb]
 have h1:(decide (0<=e.assign.l[i].var)&&decide (e.assign.l[i].var<=len P.vars-1))=(decide (0<=e.assign.l[i].var)&&decide (e.assign.l[i].var<P.vars.l.length)):=by
  congr 2;apply propext;simp[len];omega
 have L:(decide (-1073741824<=e.assign.l[i].value)&&decide (e.assign.l[i].value<=1073741824))=(decide (e.assign.l[i].value>=-1073741824)&&decide (e.assign.l[i].value<=1073741824)):=rfl;rw[h1,L];generalize (decide (0<=e.assign.l[i].var)&&decide (e.assign.l[i].var<(P.vars.l.length:Int)))=A;generalize (decide (e.assign.l[i].value>=-1073741824)&&decide (e.assign.l[i].value<=1073741824))=B;generalize kF (fO e.assign.l λb=>b.var==e.assign.l[i].var) 0 i=C
 cases A <;> cases B <;> cases C <;> rfl
theorem JL {t:Trace} (hS:Small t) {p k:Nat} {P:bS} {e:Event} (D:t.procs.l[p]? = some P) (T:P.events.l[k]? = some e):dm t ⟨p,k+1⟩ e=some (rT t.procs.l.length P p k e):=by
 obtain⟨L,w⟩:=ζe.1 D;obtain⟨hk,z⟩:=ζe.1 T;obtain⟨G,B,_,_,C⟩:=hS.2 P (w▸List.getElem_mem L);have O:=C e (z▸List.getElem_mem hk);have I:∀last:Int,((decide (0<=e.time)&&decide (e.time<=1099511627776)) && !decide (e.time<last))=(!wj P k e) ->
  dm.J1 last t ⟨p,k+1⟩ e P=some (rT t.procs.l.length P p k e):=by
  intro last Q;unfold dm.J1 rT;rw[JZ hS,ζb,nk,ζb,Jc B O];dsimp only
  cases GU t.procs.l.length p e with
  | false=>rfl
  | true=>
   rw[bT,if_pos rfl];have:(bn (decide (0<=e.time)&&decide (e.time<=1099511627776)) (some (decide (e.time<last))) (some true):Option Bool)=some (wj P k e):=by
    have S:(!((decide (0<=e.time)&&decide (e.time<=1099511627776)) && !decide (e.time<last)))=wj P k e:=by rw[Q,Bool.not_not]
    rw[<-S];cases (decide (0<=e.time)&&decide (e.time<=1099511627776)) <;> cases decide (e.time<last) <;> rfl
   rw[this,ζb]
   cases wj P k e with
   | true=>rfl
   | false=>
    rw[bJ];simp only[Bool.false_eq_true,if_false]
    by_cases J:e.assign.l.length>8
    .rw[show decide (len e.assign>8)=true from by simp[len];omega,bT,if_pos J]
    rw[show decide (len e.assign>8)=false from by simp[len];omega,bJ,if_neg J]
 unfold dm;dsimp only;rw[show idx t.procs (p:Int)=some P from by rw[qn];exact D,ζb]
 cases k with
 | zero=>
  rw[show decide (((0:Nat):Int)+1>1)=false from by decide,bJ]
  refine I 0 ?_;simp only[wj,Jf,Bool.or_false];rw[Bool.eq_iff_iff];simp only[ζh,Bool.not_eq_true',decide_eq_true_eq,decide_eq_false_iff_not,Bool.or_eq_false_iff];omega
 | succ j=>
  rw[show decide ((((j+1:Nat)):Int)+1>1)=true from by simp;omega,bT]
  have u:j<P.events.l.length:=by omega
  have U:IntKind.wrap .i64 ((((j+1:Nat)):Int)+1-2)=((j:Nat):Int):=by rw[fh _ Za Za];omega
  rw[U,cS u,ζb];refine I _ ?_;simp only[wj,Jf,Qq u];rw[Bool.eq_iff_iff];simp only[ζh,Bool.not_eq_true',decide_eq_true_eq,decide_eq_false_iff_not,Bool.or_eq_false_iff];omega
theorem IJ {n:Nat} {p:Int} {e:Event} (h:GU n p e=true):sG n p e:=by
 unfold GU at h;split at h
 next h1=>left;simpa using h1
 right;simp only[ζh,Bool.or_eq_true,beq_iff_eq,decide_eq_true_eq,Bool.not_eq_true',beq_eq_false_iff_ne,ne_eq]at h;obtain⟨⟨⟨h1,u⟩,z⟩,w⟩:=h;exact⟨h1,u.1,u.2,z,w.1,w.2⟩
theorem FK {n:Nat} {P:bS} {p k:Nat} {e:Event} (h:rT n P p k e=0):sG n p e:=by
 unfold rT at h;split at h
 next h1=>exact IJ h1
 cases h
theorem AD {α:Type} [DecidableEq α]:∀{l r:List α},l.Nodup->(∀x∈l,x∈r)->l.length<=r.length
 | [],_,_,_=>Nat.zero_le _
 | x::l,r,z,B=>by
  have u:=List.nodup_cons.1 z;have:=AD  (r:=r.erase x) u.2 λy w=>(List.mem_erase_of_ne Zd).2 (B y (List.mem_cons_of_mem _ w))
  grind
section
variable {κ:Type} [DecidableEq κ]
theorem A4 {ν:Type} {k:κ}:∀{m:Mo κ ν},k∉m.map (·.1)->rJ k m=none
 | [],_=>rfl
 | (a,v)::r,h=>by
  simp only[List.map_cons,List.mem_cons,not_or]at h;unfold rJ;rw[if_neg h.1];exact A4 h.2
theorem CB {ν:Type} {k:κ}:∀{m:Mo κ ν},k∈m.map (·.1)->∃v,rJ k m=some v/\(k,v)∈m
 | [],h=>by simp_all
 | (a,v)::r,h=>by
  unfold rJ
  by_cases e:k=a
  .grind
  obtain⟨w,h1,u⟩:=CB  (by simpa [e]using h)
  grind
theorem pH {ν:Type} {k:κ} {v:ν}:∀{m:Mo κ ν},k∉m.map (·.1)->pO m k v=m++[(k,v)]
 | [],_=>rfl
 | (a,w)::r,h=>by
  simp only[List.map_cons,List.mem_cons,not_or]at h;show (if k=a then _ else _)=_;rw[if_neg h.1,pH h.2];rfl
end
def Vd (t:Trace) (y:aZ):Prop:=∃e,(y,e)∈bZ t
theorem Vd.at_ {t:Trace} {y:aZ} (h:Vd t y):∃(p k:Nat) (e:Event),vR t p k e/\y=⟨p,k+1⟩/\(y,e)∈bZ t:=by
 obtain⟨e,u⟩:=h;obtain⟨p,k,h1,w⟩:=eX.1 u
 grind
def Nj (t:Trace) (y z:aZ):Prop:=∃e f,(y,e)∈bZ t/\(z,f)∈bZ t/\e.kind=2/\f.kind=3/\e.message=f.message
def Edge (t:Trace) (y z:aZ):Prop:=Vd t y/\Vd t z/\(z=⟨y.proc,y.index+1⟩\/Nj t y z)
abbrev Way (t:Trace):aZ->aZ->Prop:=Relation.TransGen (Edge t)
def QJ (t:Trace):Prop:=∃x,Way t x x
theorem Way.l {t:Trace} {x y:aZ} (h:Way t x y):Vd t x:=by
 induction h with
 | single h=>exact h.1
 | tail _ _ u=>omega
theorem Way.r {t:Trace} {x y:aZ} (h:Way t x y):Vd t y:=by
 cases h with
 | single h=>exact h.2.1
 | tail _ h=>exact h.2.1
theorem MJ {t:Trace} (hS:Small t) (hF:∀x∈bZ t,sG t.procs.l.length x.1.proc x.2) {A:cw 200 bE} (hA:mB t (bZ t) A) {y:aZ} (T:Vd t y) :
 Wp (g_ t A y) λs=>s.l.length<=2/\∀z,z∈s.l↔Edge t y z:=by
 obtain⟨p,k,e,U,D,u⟩:=T.at_;obtain⟨P,O,hk⟩:=U;have W:P∈t.procs.l:=List.mem_of_getElem? O;have h1:=(hS.2 P W).1;have aa:k<P.events.l.length:=(ζe.1 hk).1;have G:y.proc=p:=by rw[D]
 have C:y.index=k+1:=by rw[D]
 have j:∀s:Sl aZ,s.l.length<=1->(∀z,z∈s.l↔Vd t z/\z=⟨y.proc,y.index+1⟩)->Wp (g_.J1 A s P.events y) λs=>s.l.length<=2/\∀z,z∈s.l↔Edge t y z:=by
  intro s hs w;have no:¬(∃z,Nj t y z)->s.l.length<=2/\∀z,z∈s.l↔Edge t y z:=λhn=>⟨by omega,λz=>(w z).trans ⟨λh=>⟨T,h.1,.inl h.2⟩,λh=>⟨h.2.1,h.2.2.elim id λh=>(hn ⟨z,h⟩).elim⟩⟩⟩
  unfold g_.J1;have X:IntKind.wrap .i64 (y.index-1)=((k:Nat):Int):=by rw[C,fh _ Za Za];omega
  rw[X,qn,hk,ζb,jK,dN];constructor
  .intro B;have B:e.kind=2:=by grind
   have S:0<=e.message/\e.message<=199:=by
    rcases hF _ u with h|⟨_,_,_,_,h⟩
    .grind
    simp_all
   have to_:∀z,Nj t y z->(ag A e.message).to_=z:=λz ⟨Y,f,Z,I,a3,a4,a5⟩=>by
    cases AI Z u rfl;rw[a5];exact(hA.rcv _ I a4).1
   rw[Im A S.1 S.2,ζb,bp,dN];refine⟨λh=>?_,λh=>(bp _).2 (no λ⟨z,w⟩=>?_)⟩
   .have h:(ag A e.message).to_.index>0:=by grind
    rw[ζb];unfold je;rw[if_pos Za,ζb,bp]
    refine⟨by show (s.l++[(ag A e.message).to_]).length<=2;grind,λz=>?_⟩
    have J:Nj t y (ag A e.message).to_:=by
     rcases hA.to e.message S.1 S.2 with h0|⟨Y,h1,h2,h3⟩
     .omega
     exact⟨e,Y,u,h1,B,h2,h3.symm⟩
    show z∈s.l++[(ag A e.message).to_]↔_;rw[List.mem_append,List.mem_singleton,w];constructor
    .rintro (h|rfl)
     .exact⟨T,h.1,.inl h.2⟩
     exact⟨T,let ⟨_,f,_,I,_⟩:=J;⟨f,I⟩,.inr J⟩
    rintro⟨_,h1,h2|h2⟩
    .grind
    grind
   rw[to_ z w]at h;obtain⟨_,f,_,I,_⟩:=w;obtain⟨q,i,_,hi⟩:=eX.1 I;simp only at hi;rw[hi]at h;simp at h
  intro B;rw[bp,dN];refine⟨λh=>(by cases h),λ_=>(bp _).2 (no λ⟨z,Y,f,Z,_,a3,_⟩=>?_)⟩
  cases AI Z u rfl
  grind
 unfold g_;rw[G,qn,O,ζb,dN];rw[G]at j;constructor
 .intro h;have h:y.index<len P.events:=by simpa using h
  have B:k+1<P.events.l.length:=by rw[C]at h;simp[len]at h;omega
  refine j _ (by simp[Sl.l]) λz=>?_
  have X:IntKind.wrap .i64 (y.index+1)=y.index+1:=fh _ Za Za
  simp only[Sl.l,List.mem_singleton,X];refine⟨λw=>⟨⟨P.events.l[k+1],eX.2 ⟨p,k+1,⟨P,O,ζd B⟩,?_⟩⟩,w⟩,λw=>w.2⟩
  rw[w,C];simp
 intro h;have h:¬y.index<len P.events:=by simpa using h
 refine j _ (by simp[Sl.l]) λz=>⟨λw=>by simp[Sl.l]at w,λ⟨w,he⟩=>?_⟩
 obtain⟨q,i,f,⟨Q,hQ,hi⟩,L,_⟩:=w.at_;rw[he,C]at L;simp[aZ.mk.injEq]at L;have:q=p:=by omega
 subst this;rw[O]at hQ;cases hQ;have:=(ζe.1 hi).1;simp[len]at h;omega
structure D_ (t:Trace) (x:aZ) (rest:Sl aZ) (m:Mo aZ Bool) (U:aZ->Prop):Prop where
 rst:∀y∈rest.l,y=x\/Way t x y
 keys:(m.map (·.1)).Nodup
 seen:∀y∈m,Way t x y.1/\y.1≠x/\y.2=true
 le:rest.l.length<=m.length+1
 done:∀y,y=x\/y∈m.map (·.1)->y∈rest.l\/U y\/∀z,Edge t y z->z∈m.map (·.1)
theorem D_.count {t:Trace} {x:aZ} {rest:Sl aZ} {m:Mo aZ Bool} {U:aZ->Prop} (h:D_ t x rest m U):m.length<=(bZ t).length:=by
 have:=AD (r:=(bZ t).map (·.1)) h.keys λx u=>by
  obtain⟨y,w,rfl⟩:=List.mem_map.1 u;obtain⟨e,z⟩:=(h.seen y w).1.r
  grind
 grind
theorem KQ {t:Trace} (hS:Small t) (hN:(bZ t).length<1073741824) (hF:∀x∈bZ t,sG t.procs.l.length x.1.proc x.2) {A:cw 200 bE} (hA:mB t (bZ t) A):Wp (gz t A) λr=>(r.2=true↔QJ t):=by
 unfold gz hD;rw[ζb];unfold gz.E1;rw[qq hS,ζb];refine vY (λk _=>∀x∈(bZ t).take k,¬Way t x.1 x.1) Zc ?_ λ_ h=>(bp _).2 ⟨λh=>(by cases h),λ⟨x,hx⟩=>?_⟩
 .intro i x _ hx ar;have ah:x∈bZ t:=List.mem_of_getElem? hx;refine Wp.mono (P:=λw=>match w with|.n s=>¬Way t x.1 x.1|.x e=>False|.r e=>QJ t) ?_ λw hw=>by
   cases w with
   | n s=>
    intro y hy;rw[List.take_add_one,hx]at hy
    grind
   | x e=>grind
   | r b=>exact(bp _).2 ⟨λ_=>hw,λ_=>rfl⟩
  refine kP (λq:Sl aZ×Mo aZ Bool=>D_ t x.1 q.1 q.2 λ_=>False) (λq=>2*((bZ t).length-q.2.length)+q.1.l.length) ⟨λy hy=>.inl (by simpa [Sl.l]using hy),by simp,by simp,by simp[Sl.l],λy hy=>.inl ?_⟩ ?_
  .simpa [Sl.l]using hy
  rintro⟨rest,m⟩ L;unfold gz.dL;rw[dN];refine⟨λh=>?_,λh=>(bp _).2 ((bp _).2 λhw=>?_)⟩
  .have G:0<rest.l.length:=by
    grind
   have hc:=L.count;have av:=L.le;have hw:IntKind.wrap .i64 ((len rest)-1)=(rest.l.length-1:Nat):=by
    rw[fh _ Zd Zd];grind
   have I:rest.l.length-1<rest.l.length:=by omega
   rw[hw];have h1:Sl.xh rest (rest.l.length-1:Nat)=some (rest.l.length-1):=by
    unfold Sl.xh;grind
   have h2:Sl.get rest (rest.l.length-1)=some rest.l[rest.l.length-1]:=by unfold Sl.get;grind
   obtain⟨cut,h3,h4⟩:∃x,mR rest none (some ((rest.l.length-1:Nat):Int))=some x/\x.l=rest.l.take (rest.l.length-1):=by
    cases rest with
    | nil=>simp[Sl.l]at G
    | emp=>simp[Sl.l]at G
    | row l=>
     simp only[Sl.l]at G ⊢;unfold mR dM;simp_all
    | part l=>
     simp[Sl.l]at G ⊢;unfold mR dM;simp_all
   rw[h1,ζb,h2,ζb,h3,ζb,jK];generalize ai:rest.l[rest.l.length-1]=y;have aj:y∈rest.l:=ai▸List.getElem_mem I;have O:∀z,z∈rest.l->z∈cut.l\/z=y:=λz hz=>by
    have:rest.l.take (rest.l.length-1)++rest.l.drop (rest.l.length-1)=rest.l:=List.take_append_drop ..;rw[<-this]at hz;rcases List.mem_append.1 hz with hz|hz
    .grind
    rw[List.drop_eq_getElem_cons I,List.drop_of_length_le Za]at hz
    grind
   have aa  := L.rst _ aj;have ak  := aa.elim (λe=>⟨x.2,e▸ah⟩) Way.r
   refine(MJ hS hF hA ak).mono λs hs=>?_
   refine kP (λq:Sl aZ×Int×Mo aZ Bool=>∃n:Nat,q.2.1=n/\n<=s.l.length/\D_ t x.1 q.1 q.2.2 (λu=>u=y)/\(∀z∈s.l.take n,z∈q.2.2.map (·.1))/\2*((bZ t).length-q.2.2.length)+q.1.l.length<2*((bZ t).length-m.length)+rest.l.length) (λq=>s.l.length-q.2.1.toNat)
    ⟨0,rfl,Nat.zero_le _,⟨λz hz=>L.rst z Zd,L.keys,L.seen,by grind,λu hu=>?_⟩,by simp,by grind⟩ ?_
   .rcases L.done u hu with h|h|h
    .exact(O u h).imp_right .inl
    .exact h.elim
    exact .inr (.inr h)
   rintro⟨C,i2,W⟩ ⟨n,rfl,hn,B,J,hμ⟩;simp only at B hμ J;unfold gz.kN;rw[dN];constructor
   .intro h;have X:n<s.l.length:=by simpa [len]using h
    have ab:=(hs.2 s.l[n]).1 (List.getElem_mem X);have Q:Way t x.1 s.l[n]:=aa.elim (λe=>.single (e▸ab)) λh=>.tail h ab
    rw[cS X,ζb,dN];refine⟨λZ=>(bp _).2 ((bp _).2 ((bp _).2 ⟨x.1,?_⟩)),λS=>?_⟩
    .have:s.l[n]=x.1:=by
      unfold Qf at Z
      revert Z;cases s.l[n];cases x.1;intro Z;simpa using Z
     rw[this]at Q;exact Q
    have S:s.l[n]≠x.1:=λe=>by rw[e]at S;simp[Qf]at S
    have T:=ji n Za
    have ad:s.l.take (n+1)=s.l.take n++[s.l[n]]:=by rw[List.take_add_one,ζd X];rfl
    rw[dN];refine⟨λhg=>(bp _).2 ⟨⟨n+1,T,by omega,B,λz hz=>?_,hμ⟩,by show _-(IntKind.wrap .i64 ((n:Int)+1)).toNat<_;rw[T];simp;omega⟩,λY=>?_⟩
    .rw[ad]at hz;rcases List.mem_append.1 hz with hz|hz
     .exact J z hz
     simp[List.mem_singleton]at hz;subst hz;apply Classical.byContradiction;intro hk;unfold Ct at hg;rw[A4 hk]at hg;cases hg
    have aw:=B.count;have au:=B.le;unfold je;rw[if_pos (show C.l.length+1<=2147483648 from by omega),ζb,bp]
    have D:s.l[n]∉W.map (·.1):=λal=>by
     obtain⟨v,hv,am⟩:=CB al;have:=(B.seen _ am).2.2;simp only at this;subst this;unfold Ct at Y;rw[hv]at Y;cases Y
    have U:∀z,z∈(pO W s.l[n] true).map (·.1)↔z∈W.map (·.1)\/z=s.l[n]:=λz=>by
     rw[pH D,List.map_append,List.mem_append];simp
    have ae:D_ t x.1 (.row (C.l++[s.l[n]])) (pO W s.l[n] true) (λu=>u=y):=by
     refine⟨λy hy=>?_,?_,λy hy=>?_,?_,λu hu=>?_⟩
     .simp[Sl.l,List.mem_singleton]at hy;rcases hy with hy|rfl
      .exact B.rst y hy
      exact .inr Q
     .rw[pH D,List.map_append,List.nodup_append];refine⟨B.keys,by simp,λa ha b hb=>?_⟩
      simp[List.mem_singleton]at hb;subst hb;exact λe=>D (e▸ha)
     .rw[pH D]at hy;rcases List.mem_append.1 hy with hy|hy
      .exact B.seen y hy
      simp[List.mem_singleton]at hy;subst hy;exact⟨Q,S,rfl⟩
     .rw[pH D];show (C.l++[s.l[n]]).length<=_;rw[ζi,ζi,List.length_singleton,List.length_singleton];omega
     simp only[Sl.l,List.mem_append,List.mem_singleton];have af:u=x.1\/u∈W.map (·.1)->(u∈C.l\/u=s.l[n])\/u=y\/∀z,Edge t u z->z∈(pO W s.l[n] true).map (·.1):=λhu=>by
      rcases B.done u hu with h|h|h
      .exact .inl (.inl h)
      .exact .inr (.inl h)
      exact .inr (.inr λz hz=>(U z).2 (.inl (h z hz)))
     rcases hu with hu|hu
     .exact af (.inl hu)
     rcases (U u).1 hu with hu|hu
     .exact af (.inr hu)
     exact .inl (.inr hu)
    have an:=ae.count;refine⟨⟨n+1,T,by omega,ae,λz hz=>?_,?_⟩,by show _-(IntKind.wrap .i64 ((n)+1)).toNat<_;rw[T];simp;omega⟩
    .rw[ad]at hz;rcases List.mem_append.1 hz with hz|hz
     .exact(U z).2 (.inl (J z hz))
     exact(U z).2 (.inr (by simpa using hz))
    rw[pH D,ζi,List.length_singleton]at an;show 2*((bZ t).length-(pO W s.l[n] true).length)+(C.l++[s.l[n]]).length<_;rw[pH D,ζi,ζi,List.length_singleton,List.length_singleton];omega
   intro h;have ao:s.l.length<=n:=by simpa [len]using h
   rw[List.take_of_length_le ao]at J;refine(bp _).2 ((bp _).2 ⟨⟨B.rst,B.keys,B.seen,B.le,λu hu=>?_⟩,hμ⟩)
   rcases B.done u hu with h|h|h
   .exact .inl h
   .subst h;exact .inr (.inr λz hz=>J z ((hs.2 z).2 hz))
   exact .inr (.inr h)
  have ap:rest.l=[]:=by
   have:¬len rest>0:=by simpa using h
   simp[len]at this;exact this
  have hd:∀y,y=x.1\/y∈m.map (·.1)->∀z,Edge t y z->z∈m.map (·.1):=λy hy=>by
   rcases L.done y hy with h|h|h
   .simp only[ap]at h;cases h
   .exact h.elim
   exact h
  have key:∀z,Way t x.1 z->z∈m.map (·.1):=λz hz=>by
   induction hz with
   | single h=>exact hd _ (.inl rfl) _ h
   | tail _ h ih=>exact hd _ (.inr ih) _ h
  obtain⟨y,hy,aq⟩:=List.mem_map.1 (key _ hw);exact(L.seen y hy).2.1 aq
 obtain⟨e,Z⟩:=hx.l;rw[List.take_length]at h;exact absurd hx (h _ Z)
structure Ok (t:Trace):Prop where
 one:1<=t.procs.l.length
 few:t.procs.l.length<=8
 heads:∀p,p<t.procs.l.length->vS t p=0
 eF:∀(p k:Nat) P e,t.procs.l[p]? = some P->P.events.l[k]? = some e->rT t.procs.l.length P p k e=0
 zH:Nt t
 acyc:¬QJ t
theorem Kg {t:Trace} (h:∀(p k:Nat) P e,t.procs.l[p]? = some P->P.events.l[k]? = some e->rT t.procs.l.length P p k e=0):∀x∈bZ t,sG t.procs.l.length x.1.proc x.2:=λx w=>by
 obtain⟨p,k,⟨P,z,B⟩,u⟩:=eX.1 w;rw[u];exact FK (h p k P _ z B)
structure VT (t:Trace):Prop where
 formed:∀x∈bZ t,sG t.procs.l.length x.1.proc x.2
 msgs:∃A i,dW t=some (some A,i,0)/\mB t (bZ t) A
 few:t.procs.l.length<=8
 ok:Ok t
theorem Lt {t:Trace} (hS:Small t) (Y:(bZ t).length<1073741824):Wp (fZ t) λr=>(r.2=0->VT t)/\(Ok t->r.2=0):=by
 unfold fZ;rw[nk,ζb,dN];refine⟨λJ=>?_,λJ=>(bp _).2 ⟨λh=>Za,λh=>?_⟩⟩
 rotate_left
 .have h1:=h.one;have G:=h.few
  grind
 have G:1<=t.procs.l.length/\t.procs.l.length<=8:=by
  grind
 unfold fZ.W1;refine kP (λi:Int=>∃n:Nat,i=n/\n<=t.procs.l.length/\∀p,p<n->vS t p=0) (λi:Int=>t.procs.l.length-i.toNat) ⟨0,rfl,Nat.zero_le _,λp L=>absurd L Za⟩ ?_
 rintro i ⟨n,rfl,hn,X⟩;unfold fZ.cr;rw[dN];constructor
 .intro h;have w:n<t.procs.l.length:=by grind
  rw[ML hS w,ζb,dN];refine⟨λu=>(bp _).2 ⟨⟨n+1,ji n Za,by omega,λp L=>?_⟩,by rw[ji n Za];simp;omega⟩,λu=>(bp _).2 ((bp _).2 ⟨λh=>?_,λh=>?_⟩)⟩
  .grind
  .grind
  simp[h.heads n w]at u
 intro h;have Z:t.procs.l.length<=n:=by grind
 rw[bp];unfold hD;rw[ζb];unfold fZ.E2;rw[qq hS,ζb];refine vY (λi _=>∀(p k:Nat) P e,t.procs.l[p]? = some P->P.events.l[k]? = some e->(⟨p,k+1⟩,e)∈(bZ t).take i->rT t.procs.l.length P p k e=0) Zc ?_ ?_
 .intro i x _ W z;have O  := List.mem_of_getElem? W;obtain⟨p,j,⟨P,B,C⟩,Q⟩:=eX.1 O;unfold fZ.Hp;rw[Q,JL hS B C,ζb,dN];refine⟨λu=>(bp _).2 λp' k' P' e' aa ab hm=>?_,λu=>(bp _).2 ((bp _).2 ⟨λh=>?_,λh=>?_⟩)⟩
  .rw[List.take_add_one,W]at hm
   grind
  .grind
  simp[h.eF p j P _ B C]at u
 intro _ z;have z:∀(p k:Nat) P e,t.procs.l[p]? = some P->P.events.l[k]? = some e->rT t.procs.l.length P p k e=0:=λp k P e B C=>z p k P e B C (by rw[List.take_length];exact eX.2 ⟨p,k,⟨P,B,C⟩,rfl⟩)
 have S:=Kg z;obtain⟨r,hr,hq,T⟩:=Bq hS S;rw[hr,ζb,dN];refine⟨λu=>?_,λu=>(bp _).2 ⟨λh=>?_,λh=>T h.zH⟩⟩
 .have u  := by simpa using u
  obtain⟨A,U,hM⟩:=hq u;rw[U,ζb];obtain⟨c,hc,D⟩:=KQ hS Y S hM;rw[hc,ζb,dN];refine⟨λI=>(bp _).2 ⟨λh=>(by cases h),λh=>absurd (D.1 I) h.acyc⟩,λI=>(bp _).2 ⟨λ_=>?_,λ_=>rfl⟩⟩
  exact⟨S,⟨A,r.2.1,by rw[hr];obtain⟨r1,r2,r3⟩:=r;simp only at U u;rw[U,u],hM⟩,G.2,G.1,G.2,λp L=>X p Za,z,hM.zH,λhc=>by rw[D.2 hc]at I;cases I⟩
 simp_all
theorem Mz {t:Trace} (hS:Small t) (u:(bZ t).length<1073741824):Wp (dA t) λb=>(b=true->VT t)/\(Ok t->b=true):=by
 unfold dA;rw[jK];exact(Lt hS u).mono λr hr=>(bp _).2 ⟨λh=>hr.1 Zd,λh=>by grind⟩
def eZ (q:Int) (e:Event):Bool:=e.kind==2&&e.peer==q
def vw (p:Int) (e:Event):Bool:=e.kind==3&&e.peer==p
def under (t:Trace) (c:List Int) (p q:Nat):Int:=match t.procs.l[p]?,t.procs.l[q]?,c[p]?,c[q]? with
 | some P,some Q,some a,some b=>((P.events.l.take a.toNat).countP (eZ q):Int)-((Q.events.l.take b.toNat).countP (vw p):Int)
 | _,_,_,_=>0
theorem KF {t:Trace} (hS:Small t) (hv:dA t=some true) {A:cw 200 bE} (hM:mB t (bZ t) A) {x:aZ×Event} (B:x∈bZ t) (hk:x.2.kind=2):qp t x.2.message=some (x.1,true):=by
 refine Wp.eq ?_;unfold qp gn;rw[hv,ζb,bT];unfold hD;rw[ζb];unfold gn.E1;rw[qq hS,ζb,jK];refine vY (λk _=>∀y∈(bZ t).take k,¬(y.2.kind=2/\y.2.message=x.2.message)) Zc ?_ ?_
 .intro k y _ C u;have w:y∈bZ t:=List.mem_of_getElem? C;unfold gn.iD;rw[tJ,ζb,dN];constructor
  .intro hc;have hc:y.2.kind=2/\y.2.message=x.2.message:=by simpa using hc
   refine(bp _).2 ((bp _).2 ((bp _).2 ?_));have h1:=hM.snd y w hc.1;have D:=hM.snd x B hk;rw[hc.2,D]at h1;rw[h1]
  intro hc;have hc:¬(y.2.kind=2/\y.2.message=x.2.message):=by
   intro h;rw[h.1,h.2]at hc;simp at hc
  rw[bp];intro z hz;rw[List.take_add_one,C]at hz;rcases List.mem_append.1 hz with hz|hz
  .exact u z hz
  simp at hz;subst hz;exact hc
 intro _ u;rw[List.take_length]at u;exact absurd ⟨hk,rfl⟩ (u x B)
def yI (t:Trace) (c:List Int):Prop:=c.length=t.procs.l.length/\∀(p:Nat) (a:Int) (P:bS),c[p]? = some a->t.procs.l[p]? = some P->0<=a/\a<=P.events.l.length
def qP (t:Trace) (A:cw 200 bE) (c:List Int):Prop:=∀(p k:Nat) (e:Event) (a:Int),vR t p k e->c[p]? = some a->(k:Int)<a->e.kind=3->∃b,c[(ag A e.message).from_.proc.toNat]? = some b/\(ag A e.message).from_.index<=b
theorem M4 {t:Trace} (hV:VT t) {A:cw 200 bE} (hM:mB t (bZ t) A) {p k:Nat} {e:Event} (J:vR t p k e) (hk:e.kind=3) :
 ∃(q j:Nat) (y:Event),vR t q j y/\y.kind=2/\y.message=e.message/\y.peer=p/\e.peer=q/\(ag A e.message).from_=⟨q,j+1⟩:=by
 have u:((⟨p,k+1⟩:aZ),e)∈bZ t:=eX.2 ⟨p,k,J,rfl⟩;have z:=(hM.rcv _ u hk).2;have C:=hV.formed _ u;simp only at z C;have B:0<=e.peer:=by
  rcases C with h|⟨_,h,_⟩
  .omega
  exact h
 obtain⟨q,D⟩:∃q:Nat,e.peer=q:=⟨e.peer.toNat,by omega⟩
 rw[D]at z;obtain⟨j,y,w,h1,G,I⟩:=wF.1 z;have:=hM.snd (⟨q,j+1⟩,y) (eX.2 ⟨q,j,w,rfl⟩) h1;simp only at this;rw[G]at this;exact⟨q,j,y,w,h1,G,I,D,this⟩
def SY (t:Trace) (A:cw 200 bE) (c:List Int) (s:aZ):Prop:=∃(p k:Nat) (e:Event) (a:Int) (q j:Nat) (y:Event) (b:Int),vR t p k e/\c[p]? = some a/\(k:Int)<a/\e.kind=3/\(ag A e.message).from_=s/\s=⟨q,j+1⟩/\vR t q j y/\c[q]? = some b/\b<(j:Int)+1
theorem Ow {t:Trace} (hS:Small t) (hv:dA t=some true) (hV:VT t) {A:cw 200 bE} (hM:mB t (bZ t) A) {c:Sl Int} (hR:yI t c.l):Wp (f_ t c) λr=>(r.2.2=false->qP t A c.l)/\(r.2.2=true->SY t A c.l r.1):=by
 have ah:=hV.few;unfold f_ f_.W1;refine kP (λs:Int=>∃n:Nat,s=n/\n<=c.l.length/\∀(p k:Nat) (e:Event) (a:Int),p<n->vR t p k e->c.l[p]? = some a->(k:Int)<a->e.kind=3->∃b,c.l[(ag A e.message).from_.proc.toNat]? = some b/\(ag A e.message).from_.index<=b) (λs:Int=>c.l.length-s.toNat) ⟨0,rfl,Nat.zero_le _,λp k e a h=>absurd h Za⟩ ?_
 rintro s ⟨n,rfl,hn,hI⟩;have ai:=hR.1;unfold f_.cr;rw[dN];constructor
 .intro h;have C:n<c.l.length:=by simpa [len]using h
  have B:n<t.procs.l.length:=by omega
  have hP:=(hS.2 _ (List.getElem_mem B)).1;obtain⟨r1,r2⟩:=hR.2 n _ _ (ζd C) (ζd B);rw[cS C,ζb,cS B,ζb];obtain⟨y,hy,T⟩:=sy t.procs.l[n].events c.l[n].toNat Za
  rw[show ((c.l[n].toNat:Nat):Int)=c.l[n]from by omega]at hy
  rw[hy,ζb];unfold f_.W2;refine kP (λs:Int=>∃m:Nat,s=m/\m<=y.l.length/\∀(k:Nat) (e:Event),k<m->vR t n k e->e.kind=3->∃b,c.l[(ag A e.message).from_.proc.toNat]? = some b/\(ag A e.message).from_.index<=b) (λs:Int=>y.l.length-s.toNat) ⟨0,rfl,Nat.zero_le _,λk e h=>absurd h Za⟩ ?_
  rintro s ⟨m,rfl,hm,hJ⟩;have af:y.l.length=c.l[n].toNat:=by rw[T,List.length_take];omega
  unfold f_.dL;rw[dN];constructor
  .intro h;have G:m<y.l.length:=by simpa [len]using h
   have I:=ji m Za
   have U:y.l.length-(IntKind.wrap .i64 ((m:Int)+1)).toNat<y.l.length-((m:Int)).toNat:=by rw[I];simp;omega
   have hg:y.l[m]? = t.procs.l[n].events.l[m]? := by rw[T,List.getElem?_take,if_pos (show m<c.l[n].toNat from by omega)]
   have u:vR t n m y.l[m]:=⟨_,ζd B,by rw[<-hg];exact ζd G⟩
   rw[cS G,ζb];generalize y.l[m]=e at u;rw[dN];constructor
   .intro hk;have hk:e.kind=3:=by simpa using hk
    obtain⟨q,j,z,hz,z1,z2,z3,z4,z5⟩:=M4 hV hM u hk;have J:=KF hS hv hM (x:=(⟨q,j+1⟩,z)) (eX.2 ⟨q,j,hz,rfl⟩) z1;simp only at J;rw[z2]at J;have ab:=hz;obtain⟨Q,hQ,_⟩:=hz;have L:q<c.l.length:=by have:=(ζe.1 hQ).1;omega
    rw[J,ζb];simp only;rw[cS L,ζb,dN];constructor
    .intro W;have W:(j:Int)+1>c.l[q]:=by simpa using W
     exact(bp _).2 ((bp _).2 ((bp _).2 ⟨λh=>(by cases h),λ_=>⟨n,m,e,c.l[n],q,j,z,c.l[q],u,ζd C,by omega,hk,z5,rfl,ab,ζd L,by omega⟩⟩))
    intro X;have X:¬((j:Int)+1>c.l[q]):=by simpa using X
    refine(bp _).2 ⟨⟨m+1,I,by omega,λk Y ad w D=>?_⟩,U⟩
    by_cases ek:k=m
    .subst ek;have:Y=e:=by
      obtain⟨P1,a1,a2⟩:=u;obtain⟨P2,Z,b2⟩:=w;rw[a1]at Z;cases Z;rw[a2]at b2;cases b2;rfl
     subst this;rw[z5];exact⟨c.l[q],by simp only[Int.toNat_natCast];exact ζd L,by simp only;omega⟩
    exact hJ k Y Za w D
   intro hk;have hk:¬e.kind=3:=by simpa using hk
   refine(bp _).2 ⟨⟨m+1,I,by omega,λk Y ad w D=>?_⟩,U⟩
   by_cases ek:k=m
   .subst ek;have:Y=e:=by
     obtain⟨P1,a1,a2⟩:=u;obtain⟨P2,Z,b2⟩:=w;rw[a1]at Z;cases Z;rw[a2]at b2;cases b2;rfl
    subst this;exact absurd D hk
   exact hJ k Y Za w D
  intro h;have ae:y.l.length<=m:=by simpa [len]using h
  have aa:=ji n Za
  refine(bp _).2 ((bp _).2 ⟨⟨n+1,aa,by omega,λp k e a hp u S O he=>?_⟩,by show _-(IntKind.wrap .i64 ((n:Int)+1)).toNat<_;rw[aa];simp;omega⟩)
  by_cases ep:p=n
  .subst ep;rw[ζd C]at S;cases S;exact hJ k e Za u he
  exact hI p k e a Za u S O he
 intro h;have ae:c.l.length<=n:=by simpa [len]using h
 refine(bp _).2 ((bp _).2 ⟨λ_ p k e a u S O he=>hI p k e a (by have:=(ζe.1 S).1;omega) u S O he,λh=>(by cases h)⟩)
theorem A_ {t:Trace} (hS:Small t) (hv:dA t=some true) (hV:VT t) {A:cw 200 bE} (hM:mB t (bZ t) A) {c:Sl Int} (u:yI t c.l):Wp (f_ t c) λr=>(r.2.2=false↔qP t A c.l):=by
 refine(Ow hS hv hV hM u).mono λr hr=>⟨hr.1,λhC=>?_⟩
 cases h:r.2.2 with
 | false=>rfl
 | true=>
  obtain⟨p,k,e,a,q,j,y,b,h1,w,z,B,C,D,_,G,I⟩:=hr.2 h;obtain⟨J,g1,g2⟩:=hC p k e a h1 w z B;rw[C,D]at g1 g2;simp only[Int.toNat_natCast]at g1 g2;rw[G]at g1;cases g1;omega
theorem xN {s:Sl (Sl Int)} {p:Sl Int->Option Bool} {f:Sl Int->Bool} (hp:∀x∈s.l,p x=some (f x)) (u:s.l.length<1073741824):iN s p=some (s.l.any f):=by
 have h:fI s p=some (place f s.l):=sn hp Za (λi=>rfl)
 unfold iN;rw[h,ζb,sA]
theorem BG {t:Trace} (hS:Small t) {c:Sl Int} (D:c.l.length=t.procs.l.length):Wp (iH t c) λb=>(b=true↔yI t c.l):=by
 have h1:=hS.1;unfold iH iH.W1;refine kP (λs:Int=>∃n:Nat,s=n/\n<=c.l.length/\∀(p:Nat) (a:Int) (P:bS),p<n->c.l[p]? = some a->t.procs.l[p]? = some P->0<=a/\a<=P.events.l.length) (λs:Int=>c.l.length-s.toNat) ⟨0,rfl,Nat.zero_le _,λp a P h=>absurd h Za⟩ ?_
 rintro s ⟨n,rfl,O,G⟩;unfold iH.cr;rw[dN];constructor
 .intro h;have w:n<c.l.length:=by simpa [len]using h
  have u:n<t.procs.l.length:=by omega
  have I:=ji n Za
  rw[cS w,ζb,cS u,ζb,EK,ζb,dN];constructor
  .intro z;have z:c.l[n]<0\/c.l[n]>t.procs.l[n].events.l.length:=by simpa [len]using z
   refine(bp _).2 ((bp _).2 ⟨λh=>(by cases h),λJ=>?_⟩)
   have:=J.2 n _ _ (ζd w) (ζd u);omega
  intro z;have z:0<=c.l[n]/\c.l[n]<=t.procs.l[n].events.l.length:=by simpa [len]using z
  refine(bp _).2 ⟨⟨n+1,I,by omega,λp a P Q B C=>?_⟩,by rw[I];simp;omega⟩
  by_cases e:p=n
  .subst e;rw[ζd w]at B;cases B;rw[ζd u]at C;cases C;exact z
  exact G p a P Za B C
 intro h;have L:c.l.length<=n:=by simpa [len]using h
 refine(bp _).2 ((bp _).2 ⟨λ_=>⟨D,λp a P B C=>G p a P (by have:=(ζe.1 B).1;omega) B C⟩,λ_=>rfl⟩)
def Code (t:Trace) (A:cw 200 bE) (c:List Int) (r:Int):Prop:=c.length≠t.procs.l.length/\r=1\/c.length=t.procs.l.length/\¬yI t c/\r=2\/yI t c/\¬qP t A c/\r=18\/yI t c/\qP t A c/\r=0
theorem Qj {t:Trace} (hS:Small t) (hv:dA t=some true) (hV:VT t) {A:cw 200 bE} (hM:mB t (bZ t) A) (c:Sl Int) :
 Wp (cW t (Sl.row [c]:Sl (Sl Int)) (Sl.nil:Sl Int)) λr=>Code t A c.l r:=by
 unfold cW uH;rw[hv,ζb,bT,xN (f:=λz=>(iJ z t).getD false) (λz _=>N2.ok ((bp _).2 trivial)) (by simp[Sl.l]),ζb,ζb,ζb]
 have w:(!((Sl.row [c]:Sl (Sl Int)).l.any λz=>(iJ z t).getD false))=(len c==len t.procs):=by
  simp[Sl.l,iJ]
 rw[w,dN];constructor
 .intro h;have B:c.l.length=t.procs.l.length:=by
   have:(c.l.length:Int)=t.procs.l.length:=by simpa [len]using h
   omega
  unfold cW.W1;refine kP (λs:Int=>s=0\/s=1/\yI t c.l) (λs:Int=>1-s.toNat) (.inl rfl) ?_
  intro s D;unfold cW.cr;rcases D with rfl|⟨rfl,G⟩
  .rw[show decide ((0:Int)<len (Sl.row [c]:Sl (Sl Int)))=true from rfl,bT,show idx (Sl.row [c]:Sl (Sl Int)) 0=some c from rfl,ζb,jK];refine(BG hS B).mono λb u=>?_
   rw[dN];exact⟨λI=>(bp _).2 ⟨.inr ⟨rfl,u.1 I⟩,by decide⟩,λC=>(bp _).2 ((bp _).2 (.inr (.inl ⟨B,λh=>(by rw[u.2 h]at C;cases C),rfl⟩)))⟩
  rw[show decide ((1:Int)<len (Sl.row [c]:Sl (Sl Int)))=false from rfl,bJ,bp];show Wp (cW.W2 (Sl.row [c]) Sl.nil 0 0 t) _;unfold cW.W2;refine kP (λs:Int=>s=0) (λ_=>0) rfl ?_
  rintro s rfl;unfold cW.dL;rw[show decide ((0:Int)<0)=false from rfl,bJ,bp];show Wp (cW.W3 (Sl.row [c]) 1 0 t) _;unfold cW.W3;refine kP (λs:Int=>s=0\/s=1/\qP t A c.l) (λs:Int=>1-s.toNat) (.inl rfl) ?_
  intro s D;unfold cW.kN;rcases D with rfl|⟨rfl,hC⟩
  .rw[show decide ((0:Int)<1)=true from rfl,bT,show idx (Sl.row [c]:Sl (Sl Int)) 0=some c from rfl,ζb];unfold s_;rw[jK,jK];refine(A_ hS hv hV hM G).mono λr hr=>?_
   rw[bp,dN];exact⟨λu=>(bp _).2 ⟨.inr ⟨rfl,hr.1 (by simpa using u)⟩,by decide⟩,λu=>(bp _).2 ((bp _).2 (.inr (.inr (.inl ⟨G,λh=>(by have:=hr.2 h;simp[this]at u),rfl⟩))))⟩
  rw[show decide ((1:Int)<1)=false from rfl,bJ,bp];exact(bp _).2 (.inr (.inr (.inr ⟨G,hC,rfl⟩)))
 intro h;exact(bp _).2 (.inl ⟨λe=>(by simp[len,e]at h),rfl⟩)
theorem Code.zero {t:Trace} {A:cw 200 bE} {c:List Int} {r:Int} (h:Code t A c r):r=0↔yI t c/\qP t A c:=by
 rcases h with⟨h,rfl⟩|⟨_,h,rfl⟩|⟨_,h,rfl⟩|⟨h1,w,rfl⟩
 .exact⟨λh=>(by cases h),λu=>absurd u.1.1 h⟩
 .exact⟨λh=>(by cases h),λu=>absurd u.1 h⟩
 .exact⟨λh=>(by cases h),λu=>absurd u.2 h⟩
 exact⟨λ_=>⟨h1,w⟩,λ_=>rfl⟩
def Cons (t:Trace) (A:cw 200 bE) (c:List Int):Prop:=yI t c/\qP t A c
def places {α:Type} (f:α->Bool) (l:List α):List Nat:=(List.range l.length).filter λk=>match l[k]? with|some x=>f x|none=>false
theorem ID {α:Type} {f:α->Bool} {l:List α} {k:Nat}:k∈places f l↔∃x,l[k]? = some x/\f x=true:=by
 unfold places;rw[List.mem_filter,List.mem_range];constructor
 .rintro⟨h1,u⟩;rw[ζd h1]at u;exact⟨_,ζd h1,u⟩
 rintro⟨x,h1,u⟩;exact⟨(ζe.1 h1).1,by rw[h1];exact u⟩
theorem Fa {α:Type} (f:α->Bool) (l:List α):(places f l).Nodup:=List.nodup_range.sublist (List.filter_sublist ..)
theorem BN {α:Type} (f:α->Bool):∀l:List α,(places f l).length=l.countP f:=by
 intro l;unfold places;rw[<-List.countP_eq_length_filter]
 induction l with
 | nil=>rfl
 | cons x l u=>
  rw[List.length_cons,List.range_succ_eq_map,List.countP_cons,List.countP_map,List.countP_cons];simp only[List.getElem?_cons_zero];rw[<-u]
  congr 1
theorem CH {α β:Type} {f:α->Bool} {g:β->Bool} {l:List α} {m:List β} (φ:Nat->Nat) (h:∀k∈places f l,φ k∈places g m) (hi:∀k u,k∈places f l->u∈places f l->φ k=φ u->k=u):l.countP f<=m.countP g:=by
 rw[<-BN,<-BN];have z:((places f l).map φ).Nodup:=by
  unfold List.Nodup;rw[List.pairwise_map];exact List.Pairwise.imp_of_mem (λ{a b} B C w D=>w (hi a b B C D)) (Fa f l)
 have:=AD (r:=places g m) z λx G=>by
  obtain⟨k,hk,rfl⟩:=List.mem_map.1 G;exact h k hk
 simpa using this
end Go.VE
namespace Go.VE
def nr (kind m:Int) (x:aZ×Event):Bool:=x.2.kind==kind&&x.2.message==m
def lp (t:Trace) (kind m:Int):aZ:=match (bZ t).find? (nr kind m)with
 | some x=>x.1
 | none=>⟨0,0⟩
theorem wS {t:Trace} {kind m:Int} {x:aZ×Event} (h:(bZ t).find? (nr kind m)=some x):x∈bZ t/\x.2.kind=kind/\x.2.message=m/\lp t kind m=x.1:=by
 have h1:=List.find?_some h;simp only[nr,ζh,beq_iff_eq]at h1;exact⟨List.mem_of_find?_eq_some h,h1.1,h1.2,by unfold lp;rw[h]⟩
theorem L0 {t:Trace} {kind m:Int} {x:aZ×Event} (z:x∈bZ t) (hk:x.2.kind=kind) (B:x.2.message=m):∃y,(bZ t).find? (nr kind m)=some y:=by
 cases u:(bZ t).find? (nr kind m)with
 | some y=>exact⟨y,rfl⟩
 | none=>
  rw[List.find?_eq_none]at u;exact absurd (u x z) (by simp[nr,hk,B])
theorem HE {t:Trace} {kind m:Int} (h:∀x∈bZ t,¬(x.2.kind=kind/\x.2.message=m)):lp t kind m=⟨0,0⟩:=by
 unfold lp;have:(bZ t).find? (nr kind m)=none:=by
  rw[List.find?_eq_none];intro x u;simp only[nr,ζh,beq_iff_eq];exact h x u
 rw[this]
theorem GX {t:Trace} (B:∀x∈bZ t,sG t.procs.l.length x.1.proc x.2) (D:Nt t) {z:aZ} {f:Event} (u:(z,f)∈bZ t) (hk:f.kind=3):∃e,(lp t 2 f.message,e)∈bZ t/\e.kind=2/\e.message=f.message:=by
 have h:=D.has _ u hk;have I:0<=f.peer:=by
  rcases B _ u with h|⟨_,h,_⟩
  .grind
  simp_all
 rw[show f.peer=(f.peer.toNat:Nat)from by omega,wF]at h
 obtain⟨k,e,w,h1,C,_⟩:=h;obtain⟨y,G⟩:=L0 (eX.2 ⟨_,k,w,rfl⟩:(⟨(f.peer.toNat:Nat),k+1⟩,e)∈bZ t) h1 C;obtain⟨J,L,y3,y4⟩:=wS G
 grind
def Tg (out:List (List Bool)) (y:aZ):Bool:=match out[y.proc.toNat]? with
 | some row=>row[y.index.toNat]?.getD false
 | none=>false
def cnt (t:Trace) (out:List (List Bool)):Nat:=(bZ t).countP λz=>Tg out z.1
end Go.VE
namespace Go.VE
theorem K4 {t:Trace} (hV:VT t) {A:cw 200 bE} (hM:mB t (bZ t) A) {p k:Nat} {e:Event} (u:vR t p k e) (hk:e.kind=3):lp t 2 e.message=(ag A e.message).from_:=by
 obtain⟨y,h1,w,z⟩:=GX hV.formed hV.ok.zH (eX.2 ⟨p,k,u,rfl⟩:((⟨p,k+1⟩:aZ),e)∈bZ t) hk;have:=hM.snd _ h1 w;simp only[z]at this;exact this.symm
theorem Ht (t:Trace) (kind m:Int):lp t kind m=⟨0,0⟩/\(∀x∈bZ t,¬(x.2.kind=kind/\x.2.message=m))\/∃z,(lp t kind m,z)∈bZ t/\z.kind=kind/\z.message=m:=by
 cases h:(bZ t).find? (nr kind m)with
 | some x=>
  obtain⟨w,B,C,D⟩:=wS h;exact .inr ⟨x.2,by rw[D];exact w,B,C⟩
 | none=>
  rw[List.find?_eq_none]at h;have u:∀x∈bZ t,¬(x.2.kind=kind/\x.2.message=m):=λx G=>by have:=h x G;simpa [nr]using this
  exact .inl ⟨HE u,u⟩
theorem G5 {t:Trace} (hV:VT t) {r s:aZ} {z e:Event} (hr:(r,z)∈bZ t) (B:z.kind=3) (u:(s,e)∈bZ t) (D:e.kind=2) (G:e.message=z.message):e.peer=r.proc/\z.peer=s.proc:=by
 have h:=hV.ok.zH.has _ hr B;have L:0<=z.peer:=by
  rcases hV.formed _ hr with h|⟨_,h,_⟩
  .simp only at h;omega
  exact h
 rw[show z.peer=((z.peer.toNat:Nat):Int)from by omega,wF]at h
 obtain⟨k,y,C,h1,I,J⟩:=h;have w:((⟨(z.peer.toNat:Nat),k+1⟩:aZ),y)∈bZ t:=eX.2 ⟨_,k,C,rfl⟩;have:=hV.ok.zH.snd _ w _ u h1 D (by rw[G];exact I)
 simp only at this;subst this;cases AI w u rfl;exact⟨J,by simp only;omega⟩
def oI (t:Trace) (c:List Int) (e:Event):Bool:=(lp t 3 e.message).index==0||decide ((lp t 3 e.message).index>(c[(lp t 3 e.message).proc.toNat]?).getD 0)
theorem yH {α:Type} (f g:α->Bool):∀l:List α,l.countP f=l.countP (λx=>f x&&g x)+l.countP (λx=>f x && !g x)
 | []=>rfl
 | x::l=>by
  simp only[List.countP_cons,yH f g l];cases f x <;> cases g x <;> simp <;> omega
theorem rO {α:Type} {f:α->Bool} {l:List α} {n k:Nat}:k∈places f (l.take n)↔k<n/\∃x,l[k]? = some x/\f x=true:=by
 rw[ID];simp only[List.getElem?_take];constructor
 .rintro⟨x,h1,u⟩;split at h1
  .exact⟨‹_›,x,h1,u⟩
  cases h1
 rintro⟨h,x,h1,u⟩;exact⟨x,by rw[if_pos h];exact h1,u⟩
theorem OD {t:Trace} (hV:VT t) {A:cw 200 bE} (hM:mB t (bZ t) A) {c:List Int} (hC:Cons t A c) {p q:Nat} {P Q:bS} {a b:Int} (J:t.procs.l[p]? = some P) (D:t.procs.l[q]? = some Q) (ha:c[p]? = some a) (hb:c[q]? = some b) :
 (Q.events.l.take b.toNat).countP (vw p)=(P.events.l.take a.toNat).countP λe=>eZ q e && !oI t c e:=by
 have w:∀{p:Nat} {P:bS} {k:Nat} {e:Event},t.procs.l[p]? = some P->P.events.l[k]? = some e->((⟨p,k+1⟩:aZ),e)∈bZ t:=λJ hk=>eX.2 ⟨_,_,⟨_,J,hk⟩,rfl⟩
 have a0:=(hC.1.2 p a P ha J).1;have b0:=(hC.1.2 q b Q hb D).1;have r1:∀k,k∈places (vw p) (Q.events.l.take b.toNat)->∃(z:Event) (j:Nat) (e:Event),Q.events.l[k]? = some z/\z.kind=3/\P.events.l[j]? = some e/\e.kind=2/\e.peer=q/\e.message=z.message/\lp t 2 z.message=⟨p,j+1⟩/\(j:Int)+1<=a/\(k:Int)+1<=b:=λk hk=>by
  obtain⟨aj,z,h1,u⟩:=rO.1 hk;have u:z.kind=3/\z.peer=p:=by simpa [vw]using u
  have hm:=w D h1;obtain⟨e,e1,e2,e3⟩:=GX hV.formed hV.ok.zH hm u.1;obtain⟨f1,f2⟩:=G5 hV hm u.1 e1 e2 e3;obtain⟨p',j,⟨P',aa,hj⟩,I⟩:=eX.1 e1;simp only at f1 I hj;rw[I]at f2;have ad:p'=p:=by simp only at f2;omega
  subst ad;rw[J]at aa;cases aa;obtain⟨x,G,L⟩:=hC.2 q k z b ⟨Q,D,h1⟩ hb Za u.1
  rw[<-K4 hV hM ⟨Q,D,h1⟩ u.1,I]at G L;simp only[Int.toNat_natCast]at G L;rw[ha]at G;cases G;exact⟨z,j,e,h1,u.1,hj,e2,f1,e3,I,L,by omega⟩
 have s1:∀k,k∈places (λe=>eZ q e && !oI t c e) (P.events.l.take a.toNat)->∃(e:Event) (j:Nat) (z:Event),P.events.l[k]? = some e/\e.kind=2/\Q.events.l[j]? = some z/\z.kind=3/\z.peer=p/\z.message=e.message/\lp t 3 e.message=⟨q,j+1⟩/\(j:Int)+1<=b:=λk hk=>by
  obtain⟨ak,e,h1,u⟩:=rO.1 hk;simp only[ζh,Bool.not_eq_true',oI,Bool.or_eq_false_iff,eZ,beq_iff_eq,beq_eq_false_iff_ne,decide_eq_false_iff_not]at u;obtain⟨⟨g1,g2⟩,g3,g4⟩:=u;rcases Ht t 3 e.message with⟨h,_⟩|⟨z,z1,z2,z3⟩
  .rw[h]at g3;exact absurd rfl g3
  obtain⟨f1,f2⟩:=G5 hV z1 z2 (w J h1) g1 z3.symm;obtain⟨q',j,⟨Q',ab,hj⟩,I⟩:=eX.1 z1;simp only at I hj f1 f2;rw[I]at f1 g4;have ae:q'=q:=by simp only at f1;omega
  subst ae;rw[D]at ab;cases ab;simp only[Int.toNat_natCast,hb,Option.getD_some]at g4;exact⟨e,j,z,h1,g1,hj,z2,f2,z3,I,by omega⟩
 apply Nat.le_antisymm
 .refine CH (λk=>match Q.events.l[k]? with|some z=>((lp t 2 z.message).index-1).toNat|none=>0) (λk hk=>?_) λk k' hk O he=>?_
  .obtain⟨z,j,e,h1,u,S,h4,h5,T,U,h8,h9⟩:=r1 k hk;rw[h1];simp only[U];rw[show ((j:Int)+1-1).toNat=j from by omega]
   refine rO.2 ⟨by omega,e,S,?_⟩
   have af:lp t 3 e.message=⟨q,k+1⟩:=by
    rcases Ht t 3 e.message with⟨_,h⟩|⟨z',z1,z2,z3⟩
    .exact absurd ⟨u,T.symm⟩ (h _ (w D h1))
    exact hV.ok.zH.rcv _ z1 _ (w D h1) z2 u (by rw[z3,T])
   simp only[oI,af,eZ,h4,h5,Int.toNat_natCast,hb,Option.getD_some];simp;omega
  obtain⟨z,j,e,h1,u,S,h4,h5,T,U,_⟩:=r1 k hk;obtain⟨z',j',e',B,W,C,ah,ai,X,Y,_⟩:=r1 k' O;simp only[h1,B,U,Y]at he;have Z:j=j':=by omega
  subst Z;rw[S]at C;cases C;have:=hV.ok.zH.rcv _ (w D h1) _ (w D B) u W (by rw[<-T,X])
  simp only[aZ.mk.injEq]at this;omega
 refine CH (λk=>match P.events.l[k]? with|some e=>((lp t 3 e.message).index-1).toNat|none=>0) (λk hk=>?_) λk k' hk O he=>?_
 .obtain⟨e,j,z,h1,u,S,h4,h5,T,U,h8⟩:=s1 k hk;rw[h1];simp only[U];rw[show ((j:Int)+1-1).toNat=j from by omega]
  exact rO.2 ⟨by omega,z,S,by simp[vw,h4,h5]⟩
 obtain⟨e,j,z,h1,u,S,h4,h5,T,U,_⟩:=s1 k hk;obtain⟨e',j',z',B,W,C,ah,ai,X,Y,_⟩:=s1 k' O;simp only[h1,B,U,Y]at he;have Z:j=j':=by omega
 subst Z;rw[S]at C;cases C;have:=hV.ok.zH.snd _ (w J h1) _ (w J B) u W (by rw[<-T,X])
 simp only[aZ.mk.injEq]at this;omega
theorem CG {t:Trace} (hV:VT t) {A:cw 200 bE} (hM:mB t (bZ t) A) {c:List Int} (hC:Cons t A c) {p q:Nat} {P Q:bS} {a b:Int} (u:t.procs.l[p]? = some P) (z:t.procs.l[q]? = some Q) (B:c[p]? = some a) (D:c[q]? = some b) :
 under t c p q=((P.events.l.take a.toNat).countP λe=>eZ q e&&oI t c e:Nat):=by
 unfold under;rw[u,z,B,D];dsimp only;rw[OD hV hM hC u z B D,yH (eZ q) (oI t c)];omega
theorem u6 {σ ε ρ γ:Type} {step:σ->Option (Fw σ ε ρ)} {u:ε->Option γ} {fr:ρ->Option γ} {P:γ->Prop} (n:Nat) (I:Nat->σ->Prop) {s:σ} (D:I 0 s)
 (h:∀i s,i<n->I i s->Wp (step s) λw=>match w with|.n z=>I (i+1) z|.x e=>Wp (u e) P|.r b=>Wp (fr b) P)
 (G:∀s,I n s->Wp (step s) λw=>match w with|.n _=>False|.x e=>Wp (u e) P|.r b=>Wp (fr b) P):Wp ((c_ step s).bind (Fw.elim u fr)) P:=by
 have key:∀m i s,i+m=n->I i s->Wp ((c_ step s).bind (Fw.elim u fr)) P:=by
  intro m
  induction m with
  | zero=>
   intro i s hi C;obtain⟨w,B,hr⟩:=G s Zd
   rw[e_,B]
   cases w with
   | n z=>grind
   | x e=>exact hr
   | r b=>exact hr
  | succ m J=>
   intro i s hi C;obtain⟨w,B,hr⟩:=h i s Za C
   rw[e_,B]
   cases w with
   | n z=>grind
   | x e=>exact hr
   | r b=>exact hr
 exact key n 0 s (Nat.zero_add n) D
section
variable {t:Trace} {A:cw 200 bE} {c:List Int}
theorem yI.at_ (h:yI t c) {p:Nat} (hp:p<t.procs.l.length):∃a,c[p]? = some a:=⟨_,ζd (by rw[h.1];omega)⟩
end
theorem yz {α:Type} {s:Sl α} {n:Nat} (h:n<s.l.length):decide ((n:Int)<len s)=true:=by simp[len];omega
theorem EZ {α:Type} {s:Sl α}:decide ((s.l.length:Int)<len s)=false:=by simp[len]
theorem Pc {α:Type} {s:Sl α} {x:α} (h:s.l.length<2147483648):∃r,je s x=some r/\r.l=s.l++[x]:=by
 unfold je;rw[if_pos Za];exact⟨_,rfl,rfl⟩
section
variable {t:Trace} {A:cw 200 bE}
end
def ins (s:Sl (Sl Int)):List (List Int):=s.l.map Sl.l
section
variable {t:Trace} {A:cw 200 bE}
end
end Go.VE
namespace Go.VE
section
variable {t:Trace} {A:cw 200 bE}
end
section
variable {t:Trace} {A:cw 200 bE}
end
section
variable {t:Trace} {A:cw 200 bE}
end
section
variable {t:Trace} {A:cw 200 bE}
end
section
variable {t:Trace} {A:cw 200 bE}
theorem J7 (hS:Small t) (hv:dA t=some true) (hV:VT t) (hM:mB t (bZ t) A) {c:Sl Int} (hC:Cons t A c.l) {p q:Nat} (hp:p<t.procs.l.length) (D:q<t.procs.l.length) :
 cW t (Sl.row [c]:Sl (Sl Int)) (Sl.row [(p:Int),(q:Int)]:Sl Int)=some 0:=by
 refine Wp.eq ?_;have u:=hC.1.1;unfold cW uH;rw[hv,ζb,bT,xN (f:=λz=>(iJ z t).getD false) (λz _=>N2.ok ((bp _).2 trivial)) (by simp[Sl.l]),ζb,ζb,ζb]
 have w:(!((Sl.row [c]:Sl (Sl Int)).l.any λz=>(iJ z t).getD false))=true:=by
  simp[Sl.l,iJ,len,u] <;> exact congrArg Int.ofNat u
 rw[w,bT];unfold cW.W1;refine u6 1 (λn s=>s=(n:Int)) rfl ?_ ?_
 .rintro n _ B rfl;obtain rfl:n=0:=by omega
  unfold cW.cr;rw[show decide (((0:Nat):Int)<len (Sl.row [c]:Sl (Sl Int)))=true from rfl,bT,show idx (Sl.row [c]:Sl (Sl Int)) ((0:Nat):Int)=some c from rfl,ζb,jK];refine(BG hS u).mono λb C=>?_
  rw[C.2 hC.1,bT];exact(bp _).2 rfl
 rintro _ rfl;unfold cW.cr;rw[show decide (((1:Nat):Int)<len (Sl.row [c]:Sl (Sl Int)))=false from rfl,bJ,bp];have proc:∀r:Nat,r<t.procs.l.length->rI t r=some true:=λr hr=>by
  unfold rI;rw[show decide ((r:Int)>=0)=true from by simp,bT,yz hr];rfl
 show Wp (cW.W2 (Sl.row [c]) (Sl.row [(p:Int),(q:Int)]) 2 0 t) _;unfold cW.W2;refine u6 2 (λn s=>s=(n:Int)) rfl ?_ ?_
 .rintro n _ B rfl;unfold cW.dL;rw[show decide ((n:Int)<2)=true from by simp;omega,bT]
  have G:∃r:Nat,idx (Sl.row [(p:Int),(q:Int)]) (n:Int)=some (r:Int)/\r<t.procs.l.length:=by
   rcases (show n=0\/n=1 by omega)with rfl|rfl
   .exact⟨p,rfl,hp⟩
   exact⟨q,rfl,D⟩
  obtain⟨r,h1,I⟩:=G;rw[h1,ζb,proc r I,ζb,bT];exact(bp _).2 (ji n Za)
 rintro _ rfl;unfold cW.dL;rw[show decide (((2:Nat):Int)<2)=false from rfl,bJ,bp];show Wp (cW.W3 (Sl.row [c]) 1 0 t) _;unfold cW.W3;refine u6 1 (λn s=>s=(n:Int)) rfl ?_ ?_
 .rintro n _ B rfl;obtain rfl:n=0:=by omega
  unfold cW.kN;rw[show decide (((0:Nat):Int)<1)=true from rfl,bT,show idx (Sl.row [c]:Sl (Sl Int)) ((0:Nat):Int)=some c from rfl,ζb];unfold s_;rw[jK,jK];refine(A_ hS hv hV hM hC.1).mono λr hr=>?_
  rw[bp,hr.2 hC.2];exact(bp _).2 rfl
 rintro _ rfl;unfold cW.kN;rw[show decide (((1:Nat):Int)<1)=false from rfl,bJ,bp];exact(bp _).2 rfl
theorem Mt (hS:Small t) (hv:dA t=some true) (kind m:Int):gn t kind m=some (match (bZ t).find? (nr kind m)with|some x=>(x.1,true)|none=>(⟨0,0⟩,false)):=by
 refine Wp.eq ?_;unfold gn;rw[hv,ζb,bT];unfold hD;rw[ζb];unfold gn.E1;rw[qq hS,ζb];refine vY (λk _=>((bZ t).take k).find? (nr kind m)=none) Zc ?_ ?_
 .intro k y _ z u;have w:(bZ t).take (k+1)=(bZ t).take k++[y]:=by rw[List.take_add_one,z];rfl
  have B:(y.2.kind==kind&&y.2.message==m)=nr kind m y:=rfl;unfold gn.iD;rw[tJ,ζb,B,dN];constructor
  .intro hc;refine(bp _).2 ((bp _).2 ?_);have:(bZ t).find? (nr kind m)=some y:=by
    rw[<-List.take_append_drop (k+1) (bZ t),w,List.find?_append,List.find?_append,u];simp[hc]
   rw[this]
  intro hc;rw[bp,w,List.find?_append,u];simp[hc]
 intro _ u;rw[List.take_length]at u;exact(bp _).2 (by rw[u])
theorem M1 (hS:Small t) (hv:dA t=some true) (hV:VT t) (hM:mB t (bZ t) A) {c:Sl Int} (hC:Cons t A c.l) {p q:Nat} (hp:p<t.procs.l.length) (J:q<t.procs.l.length) :
 Wp (gD t c p q) λr=>r.2=0/\(r.1.l.length:Int)=under t c.l p q:=by
 have I:=ζd hp;obtain⟨a,L⟩:=hC.1.at_ hp;obtain⟨b,C⟩:=hC.1.at_ J;rw[CG hV hM hC I (ζd J) L C];have Y:=(hS.2 _ (List.getElem_mem hp)).1;obtain⟨a0,a1⟩:=hC.1.2 p a _ L I;generalize Z:t.procs.l[p]=P at *;unfold gD;rw[J7 hS hv hV hM hC hp J,ζb,show ((0:Int)==0)=true from rfl,bT,qn,I,ζb,show idx c (p:Int)=some a from by rw[qn];exact L,ζb]
 obtain⟨y,X,D⟩:=sy P.events a.toNat Za
 rw[show ((a.toNat:Nat):Int)=a from by omega]at X
 rw[X,ζb,<-D];have aa:y.l.length<=P.events.l.length:=by rw[D,List.length_take];omega
 unfold gD.W1;refine u6 y.l.length (λn s=>s.2.1=len y/\s.2.2=(n:Int)/\s.1.l.length=(y.l.take n).countP λe=>eZ q e&&oI t c.l e) ⟨rfl,rfl,rfl⟩ ?_ ?_
 .rintro n ⟨o,_,_⟩ w ⟨e1,e2,z⟩;simp only at e1 e2 z;subst e1 e2;have O:=List.countP_le_length (p:=λe=>eZ q e&&oI t c.l e) (l:=y.l.take n)
  rw[List.length_take]at O;have u:(y.l.take (n+1)).countP (λe=>eZ q e&&oI t c.l e)=o.l.length+if eZ q y.l[n]&&oI t c.l y.l[n]then 1 else 0:=by
   rw[List.take_add_one,ζd w,List.countP_append,z];show _+List.countP _ [y.l[n]]=_;rw[List.countP_cons,List.countP_nil];simp
  have Q:=ji n Za
  unfold gD.cr;rw[yz w,bT,cS w,ζb];generalize y.l[n]=e at u;have S:(bn (e.kind==2) (some (!(e.peer==(q:Int)))) (some true):Option Bool)=some (!eZ q e):=by
   unfold eZ;cases e.kind==2 <;> cases e.peer==(q:Int) <;> rfl
  rw[S,ζb,dN];refine⟨λB=>(bp _).2 ⟨rfl,Q,by rw[u,show eZ q e=false from by simpa using B];rfl⟩,λB=>?_⟩
  have B:eZ q e=true:=by simpa using B
  unfold rj;rw[Mt hS hv,ζb,ζb];have hc:(bn (match (bZ t).find? (nr 3 e.message)with|some x=>(x.1,true)|none=>((⟨0,0⟩:aZ),false)).2 ((idx c (match (bZ t).find? (nr 3 e.message)with|some x=>(x.1,true)|none=>((⟨0,0⟩:aZ),false)).1.proc).bind λT=>some (decide ((match (bZ t).find? (nr 3 e.message)with|some x=>(x.1,true)|none=>((⟨0,0⟩:aZ),false)).1.index>T))) (some true):Option Bool)=some (oI t c.l e):=by
   unfold oI lp
   cases hf:(bZ t).find? (nr 3 e.message)with
   | none=>rfl
   | some x=>
    obtain⟨U,j,⟨Q',W,_⟩,hx⟩:=eX.1 (wS hf).1;have G:U<c.l.length:=by rw[hC.1.1];exact(ζe.1 W).1
    simp only[hx,bT];rw[cS G,ζb,show ((U:Nat):Int).toNat=U from rfl,ζd G,show (((j:Int)+1)==0)=false from by simp;omega,Bool.false_or];rfl
  rw[hc,ζb,dN];refine⟨λC=>?_,λC=>(bp _).2 ⟨rfl,Q,by rw[u,B,C];rfl⟩⟩
  obtain⟨r,h1,h2⟩:=Pc (s:=o) (x:=e.message) Za
  rw[h1,ζb,bp];exact⟨rfl,Q,by rw[h2,u,B,C,ζi];rfl⟩
 rintro⟨o,_,_⟩ ⟨e1,e2,z⟩;simp only at e1 e2 z;subst e1 e2;unfold gD.cr;rw[EZ,bJ,bp];refine(bp _).2 ⟨rfl,?_⟩;rw[List.take_length]at z;simp only[z]
end
section
variable {α σ:Type}
def vh (p:α->σ->Option (Bool×σ)):List α->σ->Option (Bool×σ)
 | [],x=>some (false,x)
 | a::r,x=>(p a x).bind λy=>if y.1 then some (true,y.2)else vh p r y.2
theorem Hs {s:Sl α} {p:α->σ->Option (Bool×σ)} {x:σ} (B:s.l.length<1073741824):xB s p x=vh p s.l x:=by
 have key:∀(rem:List α) (j:Nat) (x:σ),s.l.drop j=rem->((c_ (Bi s p) ((j:Int),x)).bind (Fw.elim (λe=>some ((-1:Int),e)) λe=>some e)).bind (λy:Int×σ=>some (decide (y.1>=0),y.2))=vh p rem x:=by
  intro rem
  induction rem with
  | nil=>
   intro j x hd;have h1:decide ((j:Int)<len s)=false:=by
    have:s.l.length<=j:=by simpa using hd
    simp[len];omega
   rw[e_];simp only[Bi,h1,bn,Bool.false_eq_true,if_false,ζb,Fw.elim,vh];rfl
  | cons a rem u=>
   intro j x hd;have h1:j<s.l.length:=by
    apply Classical.byContradiction;intro C;rw[List.drop_eq_nil_of_le Za]at hd;cases hd
   have w:=List.drop_eq_getElem_cons h1;rw[w]at hd;simp only[List.cons.injEq]at hd;rw[e_];simp only[Bi,yz h1,bn,if_true,cS h1,ζb,hd.1,vh]
   cases p a x with
   | none=>rfl
   | some y=>
    obtain⟨b,z⟩:=y;simp only[ζb]
    cases b with
    | true=>simp[Fw.elim]
    | false=>
     simp only[Bool.false_eq_true,if_false,ζb,ji j Za]
     exact u (j+1) z hd.2
 exact key s.l 0 x rfl
def Cp (p:α->Option Bool):List α->Option Bool
 | []=>some false
 | a::r=>(p a).bind λb=>if b then some true else Cp p r
theorem De (p:α->Option Bool):∀l:List α,vh (λx (u:Unit)=>(p x).map λb=>(b,u)) l ()=(Cp p l).map λb=>(b,())
 | []=>rfl
 | a::r=>by
  simp only[vh,Cp]
  cases p a with
  | none=>rfl
  | some b=>cases b <;> simp[De p r]
theorem yX {s:Sl α} (p:α->Option Bool) (z:s.l.length<1073741824):xB s (λx (u:Unit)=>(p x).map λb=>(b,u)) ()=(Cp p s.l).map λb=>(b,()):=by rw[Hs z,De]
theorem wL {p:α->Option Bool} {f:α->Bool}:∀{l:List α},(∀x∈l,p x=some (f x))->Cp p l=some (l.any f)
 | [],_=>rfl
 | a::r,h=>by
  simp only[Cp,h a Zc,ζb,List.any_cons,wL (λx u=>h x (List.mem_cons_of_mem _ u))]
  cases f a <;> rfl
theorem fT {δ:Type} {b:(α->Option δ)->α->Option δ} {n:Nat} (h:0<n) (z:α):fH b n z=b (fH b (n-1)) z:=by
 cases n with
 | zero=>omega
 | succ n=>rfl
end
def It (l:List Int) (az:List Assign):List Int:=az.foldl (λl a=>l.set a.var.toNat a.value) l
def iP (P:bS):Nat->List Int
 | 0=>P.vars.l.map Var.init_
 | k+1=>match P.events.l[k]? with
  | some e=>It (iP P k) e.assign.l
  | none=>iP P k
theorem Fe:∀(az:List Assign) (l:List Int),(It l az).length=l.length
 | [],l=>rfl
 | a::r,l=>by
  show (It (l.set a.var.toNat a.value) r).length=_;rw[Fe r];simp
theorem oA (P:bS):∀k,(iP P k).length=P.vars.l.length
 | 0=>by simp[iP]
 | k+1=>by
  unfold iP;split
  .rw[Fe,oA P k]
  exact oA P k
def Nr {α:Type} (s:Sl α):Prop:=s=.nil\/∃l,s=.row l
theorem E5:∀(vs:List Var) (s:Sl Int),Nr s->s.l.length+vs.length<1073741824->∃u,tD vs s=some u/\Nr u/\u.l=s.l++vs.map Var.init_
 | [],s,h,_=>⟨s,rfl,h,by simp⟩
 | v::r,s,h,z=>by
  simp only[List.length_cons]at z;have h1:je s v.init_=some (.row (s.l++[v.init_])):=by unfold je;rw[if_pos Za]
  obtain⟨u,g1,g2,g3⟩:=E5 r (.row (s.l++[v.init_])) (.inr ⟨_,rfl⟩) (by show (s.l++[v.init_]).length+r.length<1073741824;simp;omega)
  refine⟨u,?_,g2,by rw[g3];show (s.l++[v.init_])++r.map Var.init_=_;simp⟩
  simp only[tD,h1,ζb,g1]
theorem Eo:∀(az:List Assign) (s:Sl Int),Nr s->(∀a∈az,0<=a.var/\a.var<s.l.length)->∃u,tc az s=some u/\Nr u/\u.l=It s.l az
 | [],s,h,_=>⟨s,rfl,h,rfl⟩
 | a::r,s,h,z=>by
  obtain⟨B,h1⟩:=z a Zc
  have hc:Sl.xh s a.var=some a.var.toNat:=by unfold Sl.xh;rw[if_pos ⟨B,by omega⟩]
  rcases h with rfl|⟨l,rfl⟩
  .simp[Sl.l]at h1;omega
  have w:Sl.put (.row l) a.var.toNat a.value=some (.row (l.set a.var.toNat a.value)):=by
   unfold Sl.put;rw[if_pos (by simp[Sl.l]at h1 ⊢;omega)]
  obtain⟨u,g1,g2,g3⟩:=Eo r (.row (l.set a.var.toNat a.value)) (.inr ⟨_,rfl⟩) (λb C=>by
   have:=z b (List.mem_cons_of_mem _ C);simpa [Sl.l]using this)
  refine⟨u,?_,g2,g3⟩;simp only[tc,hc,w,ζb,g1]
theorem Hg {s:Sl Int} (h:Nr s) (z:s.l.length<1073741824):∃c,HY s=some c/\c.l=s.l:=by
 rcases h with rfl|⟨l,rfl⟩
 .exact⟨.nil,rfl,rfl⟩
 unfold HY IB.fU wO;simp only[Sl.isNil,ζb,bn,Bool.false_eq_true,if_false]
 by_cases u:(Sl.row l).l=[]
 .rw[if_pos u];exact⟨.row [],rfl,u.symm⟩
 rw[if_neg u,if_pos (by simp[Sl.l]at z ⊢;omega)]
 exact⟨_,rfl,by simp[Sl.l]⟩
def uL (P:bS):Prop:=∀e∈P.events.l,∀a∈e.assign.l,0<=a.var/\a.var<P.vars.l.length
theorem E3 {P:bS} (B:uL P) (hv:P.vars.l.length<1073741824):∀(rem:List Event) (k:Nat) (s:Sl Int),P.events.l.drop k=rem->Nr s->s.l=iP P k ->
 ∃r,ta (k:Int) rem s=some r/\r.length=rem.length/\∀(i:Nat) x,r[i]? = some x->x.1=((k+i+1:Nat):Int)/\x.2.l=iP P (k+i+1)
 | [],k,s,_,_,_=>⟨[],rfl,rfl,by simp⟩
 | e::rem,k,s,hd,D,G=>by
  have h1:k<P.events.l.length:=by
   apply Classical.byContradiction;intro D;rw[List.drop_eq_nil_of_le Za]at hd;cases hd
  have C:=List.drop_eq_getElem_cons h1;rw[C]at hd;simp only[List.cons.injEq]at hd;have I:e∈P.events.l:=hd.1▸List.getElem_mem h1;have w:s.l.length=P.vars.l.length:=by rw[G,oA]
  obtain⟨n,g1,g2,g3⟩:=Eo e.assign.l s D (λa J=>by rw[w];exact B e I a J)
  have u:iP P (k+1)=n.l:=by
   rw[g3,G];unfold iP;rw[ζd h1,hd.1];cases k <;> rfl
  obtain⟨c,g4,g5⟩:=Hg g2 (by rw[<-u,oA];exact hv)
  obtain⟨r,L,O,Q⟩:=E3 B hv rem (k+1) n hd.2 g2 u.symm;refine⟨((k:Int)+1,c)::r,?_,by simp[O],λi x z=>?_⟩
  .simp only[ta,g1,g4,ζb];rw[show (k:Int)+1=((k+1:Nat):Int)from rfl,L];rfl
  cases i with
  | zero=>
   simp only[List.getElem?_cons_zero,ζa]at z;subst z;exact⟨rfl,by rw[g5,<-u]⟩
  | succ i=>
   rw[List.getElem?_cons_succ]at z;obtain⟨S,T⟩:=Q i x z;exact⟨by rw[S];congr 1;omega,by rw[T];congr 1;omega⟩
theorem CZ {P:bS} (B:uL P) (hv:P.vars.l.length<1073741824) (T:P.events.l.length<1073741824) (D:∀e∈P.events.l,e.assign.l.length<1073741824) :
 ∃r,gX P=some r/\r.length=P.events.l.length+1/\∀(i:Nat) x,r[i]? = some x->x.1=(i:Int)/\x.2.l=iP P i:=by
 obtain⟨s,g1,g2,g3⟩:=E5 P.vars.l .nil (.inl rfl) (by simpa [Sl.l]using hv)
 have w:s.l=iP P 0:=by rw[g3];simp[Sl.l,iP]
 obtain⟨c,g4,g5⟩:=Hg g2 (by rw[w,oA];exact hv)
 obtain⟨r,z,C,G⟩:=E3 B hv P.events.l 0 s rfl g2 w;refine⟨(0,c)::r,?_,by simp[C],λi x u=>?_⟩
 .unfold gX;have hc:(mJ P.vars.l.length&&(mJ P.events.l.length&&P.events.l.all λe=>mJ e.assign.l.length))=true:=by
   simp only[ζh,List.all_eq_true,mJ,decide_eq_true_eq];exact⟨by omega,by omega,λe h=>by have:=D e h;omega⟩
  rw[if_pos hc,g1,ζb,g4,ζb];rw[show ((0:Nat):Int)=0 from rfl]at z;rw[z];rfl
 cases i with
 | zero=>
  simp only[List.getElem?_cons_zero,ζa]at u;subst u;exact⟨rfl,by rw[g5,w]⟩
 | succ i=>
  rw[List.getElem?_cons_succ]at u;obtain⟨I,J⟩:=G i x u;exact⟨by rw[I];congr 1;omega,by rw[J];congr 1;omega⟩
theorem MK {P:bS} (D:uL P) (hv:P.vars.l.length<1073741824) (G:P.events.l.length<1073741824) (J:∀e∈P.events.l,e.assign.l.length<1073741824) {k:Nat} (hk:k<=P.events.l.length) :
 ∃x,eN P (k:Int)=some x/\x.l=iP P k:=by
 obtain⟨r,h1,O,C⟩:=CZ D hv G J;have key:∀(rem:List (Int×Sl Int)) (i:Nat) (q:Sl Int),r.drop i=rem->i<=k->∃x,(jh (λ(x:Int×(Sl Int)) (q:Sl Int)=>eN.iD P k x q) rem q).bind (Fw.oB (λq=>some Sl.nil) (λe=>Empty.elim e) (λe=>some e))=some x/\x.l=iP P k:=by
  intro rem
  induction rem with
  | nil=>
   intro i q hd hi;have:r.length<=i:=by simpa using hd
   omega
  | cons y rem I=>
   intro i q hd hi;have u:i<r.length:=by omega
   have e2:=List.drop_eq_getElem_cons u;rw[e2]at hd;simp only[List.cons.injEq]at hd;obtain⟨B,L⟩:=C i y (by rw[ζd u,hd.1])
   by_cases w:i=k
   .subst w;refine⟨y.2,?_,L⟩;simp only[jh,eN.iD,B,beq_self_eq_true,bn,if_true,ζb,Fw.oB]
   have z:(y.1==(k:Int))=false:=by rw[B];simp;omega
   obtain⟨x,g1,g2⟩:=I (i+1) .nil hd.2 Za
   refine⟨x,?_,g2⟩;simp only[jh,eN.iD,z,bn,Bool.false_eq_true,if_false,ζb];exact g1
 obtain⟨x,g1,g2⟩:=key r 0 .nil rfl (Nat.zero_le _);refine⟨x,?_,g2⟩;unfold eN k_ eN.E1;simp only[ζb,h1];exact g1
mutual
def Pred.sz:Pred->Nat
 | ⟨_,_,_,_,_,l⟩=>1+Pred.QT l
def Pred.QT:Sl Pred->Nat
 | .nil=>0
 | .emp=>0
 | .row l=>Pred.vU l
 | .part l=>Pred.vU l
def Pred.vU:List Pred->Nat
 | []=>0
 | x::r=>Pred.sz x+Pred.vU r
end
mutual
def Pred.dp:Pred->Nat
 | ⟨_,_,_,_,_,l⟩=>1+Pred.QI l
def Pred.QI:Sl Pred->Nat
 | .nil=>0
 | .emp=>0
 | .row l=>Pred.yJ l
 | .part l=>Pred.yJ l
def Pred.yJ:List Pred->Nat
 | []=>0
 | x::r=>max (Pred.dp x) (Pred.yJ r)
end
mutual
def Pred.jc (f:Pred->Bool):Pred->Bool
 | ⟨a,b,c,d,e,l⟩=>f ⟨a,b,c,d,e,l⟩&&Pred.IY f l
def Pred.IY (f:Pred->Bool):Sl Pred->Bool
 | .nil=>true
 | .emp=>true
 | .row l=>Pred.B7 f l
 | .part l=>Pred.B7 f l
def Pred.B7 (f:Pred->Bool):List Pred->Bool
 | []=>true
 | x::r=>Pred.jc f x&&Pred.B7 f r
end
theorem Pred.R6 (s:Sl Pred):Pred.QT s=Pred.vU s.l:=by cases s <;> simp[Pred.QT,Pred.vU,Sl.l]
theorem Pred.Rw (s:Sl Pred):Pred.QI s=Pred.yJ s.l:=by cases s <;> simp[Pred.QI,Pred.yJ,Sl.l]
theorem Pred.Fs (f:Pred->Bool):∀l:List Pred,Pred.B7 f l=l.all (Pred.jc f)
 | []=>by simp[Pred.B7]
 | x::r=>by simp only[Pred.B7,List.all_cons,Pred.Fs f r]
theorem Pred.Qh (f:Pred->Bool) (s:Sl Pred):Pred.IY f s=s.l.all (Pred.jc f):=by cases s <;> simp[Pred.IY,Pred.Fs,Sl.l]
theorem Pred.RX (p:Pred):p.sz=1+Pred.vU p.l.l:=by cases p;simp only[Pred.sz,Pred.R6]
theorem Pred.DM (p:Pred):p.dp=1+Pred.yJ p.l.l:=by cases p;simp only[Pred.dp,Pred.Rw]
theorem Pred.kR (f:Pred->Bool) (p:Pred):p.jc f=(f p&&p.l.l.all (Pred.jc f)):=by cases p;simp only[Pred.jc,Pred.Qh]
theorem Pred.GS:∀{l:List Pred} {q:Pred},q∈l->q.dp<=Pred.yJ l
 | x::r,q,h=>by
  simp only[Pred.yJ];rcases List.mem_cons.1 h with rfl|h
  .omega
  have:=Pred.GS h;omega
theorem Pred.oq {p q:Pred} (h:q∈p.l.l):q.dp<p.dp:=by rw[p.DM];have:=Pred.GS h;omega
theorem Pred.vQ (p:Pred):0<p.dp:=by rw[p.DM];omega
theorem Pred.ind {M:Pred->Prop} (h:∀p,(∀q∈p.l.l,M q)->M p) (p:Pred):M p:=by
 have key:∀n p,p.dp<=n->M p:=by
  intro n
  induction n with
  | zero=>intro p u;have:=p.vQ;omega
  | succ n w=>intro p u;exact h p λq z=>w q (by have:=Pred.oq z;omega)
 exact key _ p (Nat.le_refl _)
abbrev Pred.Sm (p:Pred):Prop:=p.jc (λq=>decide (q.l.l.length<1073741824))=true
theorem Pred.Sm.len {p:Pred} (h:p.Sm):p.l.l.length<1073741824:=by
 unfold Pred.Sm at h;rw[p.kR]at h;simp only[ζh,decide_eq_true_eq]at h;exact h.1
theorem Pred.Sm.xo {p q:Pred} (h:p.Sm) (u:q∈p.l.l):q.Sm:=by
 unfold Pred.Sm at h;rw[p.kR]at h;simp only[ζh,List.all_eq_true]at h;exact h.2 q u
theorem HA {f:Pred->Option Bool} {g:Pred->Bool} (p:Pred) (B:p.Sm):p.jc (λq=>f q==some (g q))=true->∀n,p.dp<=n->fH (λr (z:Pred)=>gW z f r) n p=some (p.jc g):=by
 induction p using Pred.ind with
 | h p C=>
  intro u n D;rw[p.kR]at u;simp only[ζh,List.all_eq_true,beq_iff_eq]at u;have hd:=p.DM;rw[fT Za]
  show gW p f _=_;unfold gW;rw[u.1,ζb,p.kR]
  cases g p with
  | false=>rfl
  | true=>
   rw[bT,yX _ B.len,wL (f:=λq => !q.jc g) (λq w=>by
    have:=C q w (B.xo w) (u.2 q w) (n-1) (by have:=Pred.oq w;omega)
    show (fH (λr (z:Pred)=>gW z f r) (n-1) q).bind _=_
    rw[this];rfl)]
   simp only[Option.map_some,ζb,Bool.true_and]
   congr 1
   rw[Bool.eq_iff_iff];simp
abbrev J_ (p:Pred):Bool:=ByteArray.toList p.name==ByteArray.toList ByteArray.empty
abbrev Ik (p:Pred) (c:Int):Bool:=(len p.l==c)&&(!decide (p.n<0)&&(!decide (p.n>1125899906842624)&&((p.n==0||p.kind==1)&&(p.kind==2||(p.kind==3||(p.kind==4||(p.proc==0&&(p.peer==0&&J_ p))))))))
theorem OS:∀k:_root_.Fin 22,1<=k.1->(cw.at wq ((k.1:Nat):Int)).isSome=true:=by decide
theorem Db {k:Int} (h1:1<=k) (u:k<22):∃c,cw.at wq k=some c:=by
 have g:=OS ⟨k.toNat,by omega⟩ (by show 1<=k.toNat;omega)
 simp only at g;rw[show ((k.toNat:Nat):Int)=k from by omega]at g
 exact Option.isSome_iff_exists.1 g
theorem Hf {p:Pred} {c:Int} (h1:1<=p.kind) (D:p.kind<22) (hc:cw.at wq p.kind=some c):jb p=some (Ik p c):=by
 unfold jb rF Ik J_;rw[decide_eq_false (show ¬p.kind<1 by omega),bJ,ζb,decide_eq_false (show ¬p.kind>=22 by omega),bJ,hc,ζb,ζb]
 generalize (len p.l==c)=e;generalize decide (p.n<0)=a;generalize decide (p.n>1125899906842624)=b;generalize (p.n==0)=z;generalize (p.kind==1)=k1;generalize (p.kind==2)=u;generalize (p.kind==3)=w;generalize (p.kind==4)=B;generalize (p.proc==0)=d1;generalize (p.peer==0)=d2;generalize (ByteArray.toList p.name==ByteArray.toList ByteArray.empty)=d3
 cases e with
 | false=>rfl
 | true=>cases a with
  | true=>rfl
  | false=>cases b with
   | true=>rfl
   | false=>cases z <;> cases k1 <;> first|rfl|(cases u <;> cases w <;> cases B <;> cases d1 <;> cases d2 <;> cases d3 <;> rfl)
theorem E9 {p:Pred} (h:p.kind<1\/22<=p.kind):jb p=some false:=by
 unfold jb;have:(bn (decide (p.kind<1)) (some true) (some (decide (p.kind>=22))):Option Bool)=some true:=by
  by_cases h1:p.kind<1
  .rw[decide_eq_true h1];rfl
  rw[decide_eq_false h1,bJ,decide_eq_true Za]
 rw[this];rfl
def fB (p:Pred):Bool:=(jb p).getD false
theorem Oi (p:Pred):jb p=some (fB p):=by
 unfold fB
 by_cases h:p.kind<1\/22<=p.kind
 .rw[E9 h];rfl
 obtain⟨c,hc⟩:=Db (k:=p.kind) Za Za
 rw[Hf Za Za hc];rfl
theorem tM {p:Pred} (h:fB p=true):1<=p.kind/\p.kind<22/\cw.at wq p.kind=some (len p.l):=by
 by_cases g:p.kind<1\/22<=p.kind
 .unfold fB at h;rw[E9 g]at h;cases h
 obtain⟨c,hc⟩:=Db (k:=p.kind) Za Za
 unfold fB at h;rw[Hf Za Za hc]at h
 simp only[Ik,Option.getD_some,ζh,beq_iff_eq]at h;exact⟨by omega,by omega,by rw[hc,h.1]⟩
def oh (p:Pred):Bool:=decide (p.sz<=200)&&(decide (p.dp<=20)&&p.jc fB)
abbrev lT (p:Pred) (d l:Nat):Bool:=decide (p.sz<=l)&&(decide (p.dp+d<=21)&&p.jc fB)
abbrev sw (k:List Pred) (d l:Nat):Bool:=decide (Pred.vU k<=l)&&(decide (Pred.yJ k+d<=21)&&k.all (Pred.jc fB))
theorem O2 (p:Pred) (U:p.Sm):∀(n d l:Nat),1<=n->22<=n+d->d<=21->1<=d->l<=200 ->
 ∃G:Int,fH (λr (z:Pred×Int×Int)=>dS z.1 z.2.1 z.2.2 r) n (p,(d:Int),(l:Int))=some (lT p d l,G)/\(lT p d l=true->G=((l-p.sz:Nat):Int)):=by
 induction p using Pred.ind with
 | h p J=>
  intro n d l hn aa hd s7 hl;have I:=p.RX;have O:=p.DM;rw[fT Za]
  have J:=λq L=>J q L (U.xo L) (n-1)
  show ∃G,dS p (d:Int) (l:Int) (fH (λr (z:Pred×Int×Int)=>dS z.1 z.2.1 z.2.2 r) (n-1))=_/\_
  generalize fH (λr (z:Pred×Int×Int)=>dS z.1 z.2.1 z.2.2 r) (n-1)=R at J ⊢
  unfold dS;rw[fh _ Za Za,Oi]
  by_cases h0:l=0
  .subst h0;have w:lT p d 0=false:=by
    have:¬(p.sz<=0):=by omega
    simp only[lT,decide_eq_false this,Bool.false_and]
   rw[w];exact⟨_,rfl,λh=>by cases h⟩
  rw[decide_eq_false (show ¬((l:Int)-1<0)by omega),bJ,ζb]
  by_cases h1:20<d
  .have w:lT p d l=false:=by
    have:¬(p.dp+d<=21):=by have:=p.vQ;omega
    simp only[lT,decide_eq_false this,Bool.false_and,Bool.and_false]
   rw[w,decide_eq_true (show (d:Int)>20 by omega)]
   exact⟨_,rfl,λh=>by cases h⟩
  rw[decide_eq_false (show ¬((d:Int)>20)by omega),bJ,ζb]
  have W:=p.kR fB
  cases X:fB p with
  | false=>
   have w:lT p d l=false:=by simp[lT,W,X]
   rw[w];exact⟨_,rfl,λh=>by cases h⟩
  | true=>
   rw[ζb,show (!true)=false from rfl,bJ,Hs U.len];have key:∀(k:List Pred),(∀q∈k,q∈p.l.l)->∀m:Nat,m<=200->∃m':Int,vh (λx s=>gu x (d:Int) s R) k (m:Int)=some (!sw k (d+1) m,m')/\(sw k (d+1) m=true->m'=((m-Pred.vU k:Nat):Int)):=by
    intro k
    induction k with
    | nil=>intro _ m _;exact⟨m,by simp[vh,sw,Pred.vU,Pred.yJ];omega,λ_=>by simp[Pred.vU]⟩
    | cons q k Q=>
     intro hk m hm;obtain⟨G,g1,g2⟩:=J q (hk q Zc) (d+1) m Za Za Za Za hm
     have e1:gu q (d:Int) (m:Int) R=some (!lT q (d+1) m,G):=by
      unfold gu;rw[ji d Za,g1];rfl
     simp only[vh,e1,ζb];have u:sw (q::k) (d+1) m=(lT q (d+1) m&&sw k (d+1) (m-q.sz)):=by
      rw[Bool.eq_iff_iff];simp only[sw,lT,Pred.vU,Pred.yJ,ζh,List.all_cons];constructor
      .rintro⟨B,C,D,a4⟩;have B:=of_decide_eq_true B;have C:=of_decide_eq_true C;exact⟨⟨decide_eq_true Za,decide_eq_true Za,D⟩,decide_eq_true Za,decide_eq_true Za,a4⟩
      rintro⟨⟨B,C,D⟩,Y,Z,b3⟩;have B:=of_decide_eq_true B;have C:=of_decide_eq_true C;have Y:=of_decide_eq_true Y;have Z:=of_decide_eq_true Z;exact⟨decide_eq_true Za,decide_eq_true Za,D,b3⟩
     cases w:lT q (d+1) m with
     | false=>
      rw[u,w];exact⟨G,rfl,λh=>by cases h⟩
     | true=>
      obtain⟨m',S,T⟩:=Q (λx hx=>hk x (List.mem_cons_of_mem _ hx)) (m-q.sz) Za
      rw[u,w,Bool.true_and,g2 w];refine⟨m',by simpa using S,λh=>?_⟩
      rw[T h];have:q.sz<=m:=by
       have:=w;simp only[lT,ζh]at this;exact of_decide_eq_true this.1
      congr 1
      show m-q.sz-Pred.vU k=m-(q.sz+Pred.vU k);omega
   obtain⟨m',S,T⟩:=key p.l.l (λq L=>L) (l-1) Za
   rw[show ((l:Int)-1)=((l-1:Nat):Int)from by omega,S,ζb]
   have w:lT p d l=sw p.l.l (d+1) (l-1):=by
    rw[Bool.eq_iff_iff];simp only[lT,sw,ζh,W,X,true_and,I,O];constructor
    .rintro⟨B,C,D⟩;have B:=of_decide_eq_true B;have C:=of_decide_eq_true C;exact⟨decide_eq_true Za,decide_eq_true Za,D⟩
    rintro⟨B,C,D⟩;have B:=of_decide_eq_true B;have C:=of_decide_eq_true C;exact⟨decide_eq_true Za,decide_eq_true Za,D⟩
   refine⟨m',by rw[w];simp,λh=>?_⟩
   rw[T (by rw[<-w];exact h),I]
   congr 1
   omega
theorem tB {p:Pred} (D:p.Sm):jM p=some (oh p):=by
 obtain⟨C,h,-⟩:=O2 p D 100000 1 200 Za Za Za Za Za
 unfold jM nI;rw[show fH (λr (z:Pred×Int×Int)=>dS z.1 z.2.1 z.2.2 r) 100000 (p,(1:Int),(200:Int))=_ from h]
 simp only[ζb]
 congr 1
 rw[Bool.eq_iff_iff];simp only[oh,lT,ζh];constructor
 .rintro⟨w,u,B⟩;have u:=of_decide_eq_true u;exact⟨w,decide_eq_true Za,B⟩
 rintro⟨w,u,B⟩;have u:=of_decide_eq_true u;exact⟨w,decide_eq_true Za,B⟩
section
variable {t:Trace}
abbrev vv (t:Trace) (p:Int):Bool:=decide (p>=0)&&decide (p<len t.procs)
def IZ (t:Trace) (p:Int) (name:ByteArray):Bool:=match idx t.procs p with
 | some P=>P.vars.l.any λv=>ByteArray.toList v.name==ByteArray.toList name
 | none=>false
def pG (t:Trace) (q:Pred):Bool:=
 if q.kind==2 then vv t q.proc&&(q.peer==0&&IZ t q.proc q.name)
 else if q.kind==3 then vv t q.proc&&(q.peer==0&&J_ q)
 else if q.kind==4 then vv t q.proc&&(vv t q.peer&&(!(q.proc==q.peer)&&J_ q))else true
theorem Hy (p:Int):iL t p=some (vv t p):=by
 unfold iL vv;cases decide (p>=0) <;> rfl
theorem sB {p:Int} (h:vv t p=true):∃n:Nat,p=n/\n<t.procs.l.length:=by
 simp only[vv,ζh]at h;have h1:=of_decide_eq_true h.1;have u:=of_decide_eq_true h.2;exact⟨p.toNat,by omega,by simp only[len]at u;omega⟩
theorem L3 (hS:Small t) {p:Int} (h:vv t p=true) (name:ByteArray):ot t p name=some (IZ t p name):=by
 obtain⟨n,rfl,u⟩:=sB h;unfold ot IZ;rw[cS u,ζb,zI (p:=λz=>l8 z name) (f:=λv=>ByteArray.toList v.name==ByteArray.toList name) (λv _=>rfl) (hS.2 _ (List.getElem_mem u)).2.1]
 rfl
theorem PG (hS:Small t) (q:Pred):iS q t=some (pG t q):=by
 unfold iS pG J_;rw[Hy,Hy]
 cases q.kind==2 with
 | true=>
  rw[bT,if_pos rfl,ζb]
  cases h:vv t q.proc with
  | false=>rfl
  | true=>
   rw[L3 hS h];cases q.peer==0 <;> rfl
 | false=>
  rw[bJ,if_neg Zc]
  cases q.kind==3 with
  | true=>
   rw[bT,if_pos rfl];cases vv t q.proc <;> cases q.peer==0 <;> cases (ByteArray.toList q.name==ByteArray.toList ByteArray.empty) <;> rfl
  | false=>
   rw[bJ,if_neg Zc]
   cases q.kind==4 with
   | true=>
    rw[bT,if_pos rfl];cases vv t q.proc <;> cases vv t q.peer <;> cases (q.proc==q.peer) <;> cases (ByteArray.toList q.name==ByteArray.toList ByteArray.empty) <;> rfl
   | false=>rfl
theorem FP {f:Pred->Option Bool} {g:Pred->Bool} (h:∀q,f q=some (g q)) {p:Pred} (z:p.Sm) (hd:p.dp<=100000):kO p f=some (p.jc g):=by
 refine HA p z ?_ _ hd
 induction p using Pred.ind with
 | h p w=>
  rw[p.kR,ζh,List.all_eq_true];exact⟨by rw[h];simp,λq u=>w q u (z.xo u) (by have:=Pred.oq u;omega)⟩
theorem xL (hS:Small t) {p:Pred} (u:p.Sm) (hd:p.dp<=100000):lX t p=some (p.jc (pG t)):=by
 unfold lX;rw[FP (g:=pG t) (λq=>PG hS q) u hd];rfl
abbrev oN (k:Int):Int:=if k<=8 then 1 else 2
abbrev y9 (k:Int):Int:=if k<=12 then 1 else 2
def vi (q:Pred):Bool:=q.l.l.all λk=>oN k.kind==y9 q.kind
theorem uN (k:Int):jO k=some (oN k):=by
 unfold jO oN
 by_cases h:k<=8
 .rw[decide_eq_true h,if_pos h];rfl
 rw[decide_eq_false h,if_neg h];rfl
theorem OH (k:Int):o6 k=some (y9 k):=by
 unfold o6 y9
 by_cases h:k<=12
 .rw[decide_eq_true h,if_pos h];rfl
 rw[decide_eq_false h,if_neg h];rfl
theorem Px {q:Pred} (u:q.l.l.length<1073741824):gQ q=some (vi q):=by
 unfold gQ vi;rw[yX _ u,wL (f:=λk => !(oN k.kind==y9 q.kind)) (λk _=>by
  unfold ki;rw[uN,OH];rfl)]
 simp only[Option.map_some,ζb]
 congr 1
 rw[Bool.eq_iff_iff];simp
theorem yY {p:Pred} (u:p.Sm) (hd:p.dp<=100000):mA p=some (p.jc vi):=by
 unfold mA;have:p.jc (λq=>(λz=>gQ z) q==some (vi q))=true:=by
  clear hd
  induction p using Pred.ind with
  | h p B=>
   rw[p.kR,ζh,List.all_eq_true];exact⟨by show (gQ p==some (vi p))=true;rw[Px u.len];simp,λq w=>B q w (u.xo w)⟩
 unfold kO;rw[HA p u this _ hd];rfl
def wW (q:Pred):Bool:=decide (q.kind>=18)&&decide (q.kind<=21)
theorem FX {p:Pred} (u:p.Sm):lU p=some (oh p && !p.jc λq => !wW q):=by
 unfold lU;rw[tB u,ζb]
 cases w:oh p with
 | false=>rfl
 | true=>
  have hd:p.dp<=20:=by
   simp only[oh,ζh]at w;exact of_decide_eq_true w.2.1
  rw[bT,FP (g:=λq => !wW q) (λq=>by
   unfold j7 oL wW;cases decide (q.kind>=18) <;> rfl) u Za]
  rfl
end
theorem zC {t:Trace} (hS:Small t) (hv:dA t=some true) (hV:VT t) {A:cw 200 bE} (hM:mB t (bZ t) A) (c:Sl Int):Wp (hU t c) λr=>Code t A c.l r.2:=by
 have G:=hV.few;unfold hU;rw[jK];refine(Qj hS hv hV hM c).mono λr hr=>?_
 rw[dN];constructor
 .intro u;have u:r=0:=by simpa using u
  have hC:=hr.zero.1 u;have C:=hC.1.1;unfold hU.W1;refine kP (λs:Sl aZ×Int=>∃n:Nat,s.2=n/\n<=c.l.length/\s.1.l.length<=n) (λs=>c.l.length-s.2.toNat) ⟨0,rfl,Nat.zero_le _,Nat.le_refl _⟩ ?_
  rintro⟨o,i⟩ ⟨n,hi,I,D⟩;simp only at hi D;subst hi;unfold hU.cr;rw[dN];constructor
  .intro h;have z:n<c.l.length:=by simpa [len]using h
   have B:=ji n Za
   have w:c.l.length-(IntKind.wrap .i64 ((n:Int)+1)).toNat<c.l.length-((n:Int)).toNat:=by rw[B];simp;omega
   rw[cS z,ζb,dN];constructor
   .intro _;unfold je;rw[if_pos (show o.l.length+1<=2147483648 from by omega),ζb,bp]
    exact⟨⟨n+1,B,by omega,by show (o.l++[_]).length<=n+1;rw[ζi,List.length_singleton];omega⟩,w⟩
   intro _;exact(bp _).2 ⟨⟨n+1,B,by omega,show o.l.length<=n+1 from by omega⟩,w⟩
  intro _;exact(bp _).2 ((bp _).2 (u▸hr))
 intro u;exact(bp _).2 hr
theorem uL.of {t:Trace} (B:Ok t) {p:Nat} {P:bS} (D:t.procs.l[p]? = some P):uL P:=by
 intro e C a G;obtain⟨k,hk⟩:=List.mem_iff_getElem?.1 C;obtain⟨i,hi⟩:=List.mem_iff_getElem?.1 G;have h:=B.eF p k P e D hk;unfold rT at h;have w:i<e.assign.l.length:=by
  apply Classical.byContradiction;intro J;rw[List.getElem?_eq_none Za]at hi;cases hi
 have I:nZ (qg P e) 0 e.assign.l.length=0:=by
  split at h
  .split at h
   .cases h
   split at h
   .cases h
   exact h
  cases h
 have u:=(Kx (g:=qg P e) (n:=e.assign.l.length) (m:=e.assign.l.length) (k:=0) Za).1 I i (Nat.zero_le _) w
 unfold qg at u;rw[hi]at u;dsimp only at u
 by_cases z:(decide (0<=a.var)&&decide (a.var<P.vars.l.length))=true
 .simpa using z
 rw[Bool.not_eq_true]at z;rw[z]at u;simp only[LU]at u;cases u
theorem RI {t:Trace} {A:cw 200 bE} (hS:Small t) (hv:dA t=some true) (hV:VT t) (hM:mB t (bZ t) A) {c:Sl Int} (hC:Cons t A c.l) :
 Wp (eV t c) λr=>r.2=0/\r.1.l.length=t.procs.l.length/\∀(p:Nat) (P:bS) (a:Int),t.procs.l[p]? = some P->c.l[p]? = some a->∃x,r.1.l[p]? = some x/\x.l=iP P a.toNat:=by
 have I:=hC.1.1;unfold eV;rw[jK];refine(zC hS hv hV hM c).mono λr hr=>?_
 rw[hr.zero.2 hC,show ((0:Int)==0)=true from rfl,bT];unfold eV.W1;refine u6 c.l.length (λn s=>s.2=(n:Int)/\s.1.l.length=n/\∀(p:Nat) (P:bS) (a:Int),p<n->t.procs.l[p]? = some P->c.l[p]? = some a->∃x,s.1.l[p]? = some x/\x.l=iP P a.toNat) ⟨rfl,rfl,λp P a h=>absurd h Za⟩ ?_ ?_
 .rintro n ⟨o,_⟩ u ⟨e1,e2,e3⟩;simp only at e1 e2 e3;subst e1;have J:n<t.procs.l.length:=by omega
  have w:=hS.2 _ (List.getElem_mem J);have D:=ζd J;have C:=ζd u;obtain⟨a0,W⟩:=hC.1.2 n _ _ C D;have T:=uL.of hV.ok D;obtain⟨x,S,L⟩:=MK T w.2.1 w.1 w.2.2.2.2 (k:=c.l[n].toNat) Za
  rw[show ((c.l[n].toNat:Nat):Int)=c.l[n]from by omega]at S
  have h1:=hS.1;unfold eV.cr;rw[yz u,bT,cS u,ζb,cS J,ζb,S,ζb];have G:je o (x:Sl Int)=some (.row (o.l++[x])):=by unfold je;rw[if_pos Za]
  rw[G,ζb,bp,ji n Za]
  refine⟨rfl,by simp[Sl.l];exact e2,λp P a h z B=>?_⟩
  show ∃y,(o.l++[x])[p]? = some y/\_
  by_cases O:p=n
  .subst O;rw[D]at z;rw[C]at B;cases z;cases B;exact⟨x,by rw[List.getElem?_append_right Za];simp[e2],L⟩
  obtain⟨y,U,Q⟩:=e3 p P a Za z B
  exact⟨y,by rw[List.getElem?_append_left Za];exact U,Q⟩
 rintro⟨o,_⟩ ⟨e1,e2,e3⟩;simp only at e1 e2 e3;subst e1;unfold eV.cr;rw[show decide ((c.l.length:Int)<len c)=false from EZ,bJ,bp];refine(bp _).2 ⟨rfl,by rw[e2,I],λp P a D C=>e3 p P a ?_ D C⟩
 apply Classical.byContradiction;intro X;rw[List.getElem?_eq_none Za]at C;cases C
section
variable {P:Pred} {t:Trace}
end
def rL (l:List Int) (m:Int):Prop:=m∈l/\∀x∈l,m<=x
def isMax (l:List Int) (m:Int):Prop:=m∈l/\∀x∈l,x<=m
theorem rL.one {l:List Int} {a b:Int} (h:rL l a) (g:rL l b):a=b:=by have:=h.2 b g.1;have:=g.2 a h.1;omega
theorem isMax.one {l:List Int} {a b:Int} (h:isMax l a) (g:isMax l b):a=b:=by have:=h.2 b g.1;have:=g.2 a h.1;omega
theorem rL.snoc {l:List Int} {a x:Int} (h:rL l a):rL (l++[x]) (if x<a then x else a):=by
 obtain⟨h1,u⟩:=h;split
 .refine⟨by simp,λy hy=>?_⟩
  rcases List.mem_append.1 hy with hy|hy
  .have:=u y hy;omega
  simp at hy;omega
 refine⟨List.mem_append_left _ h1,λy hy=>?_⟩
 rcases List.mem_append.1 hy with hy|hy
 .exact u y hy
 simp at hy;omega
theorem isMax.snoc {l:List Int} {a x:Int} (h:isMax l a):isMax (l++[x]) (if x>a then x else a):=by
 obtain⟨h1,u⟩:=h;split
 .refine⟨by simp,λy hy=>?_⟩
  rcases List.mem_append.1 hy with hy|hy
  .have:=u y hy;omega
  simp at hy;omega
 refine⟨List.mem_append_left _ h1,λy hy=>?_⟩
 rcases List.mem_append.1 hy with hy|hy
 .exact u y hy
 simp at hy;omega
theorem Ky {s:Sl Int} (h:0<s.l.length) (B:s.l.length<1073741824):Wp (ec s) λm=>rL s.l m:=by
 unfold ec ec.J1 ec.W2;rw[decide_eq_false (show ¬len s<1 by simp only[len];omega),bJ,show idx s 0=some s.l[0]from cS (i:=0) h,ζb]
 refine u6 (s.l.length-1) (λn q=>q.2=((n+1:Nat):Int)/\rL (s.l.take (n+1)) q.1) ⟨rfl,?_⟩ ?_ ?_
 .rw[List.take_add_one,ζd h];exact⟨by simp,λx z=>by simp at z;omega⟩
 .rintro n ⟨m,_⟩ C ⟨rfl,w⟩;have u:n+1<s.l.length:=by omega
  unfold ec.dL;rw[yz u,bT,cS u,ζb,bp,ji _ Za]
  refine⟨rfl,?_⟩;rw[List.take_add_one,ζd u];exact w.snoc
 rintro⟨m,_⟩ ⟨rfl,w⟩;unfold ec.dL;rw[show s.l.length-1+1=s.l.length from by omega,EZ,bJ,bp]
 rw[show s.l.length-1+1=s.l.length from by omega,List.take_length]at w
 exact(bp _).2 w
theorem Kk {s:Sl Int} (h:0<s.l.length) (B:s.l.length<1073741824):Wp (dZ s) λm=>isMax s.l m:=by
 unfold dZ dZ.J1 dZ.W2;rw[decide_eq_false (show ¬len s<1 by simp only[len];omega),bJ,show idx s 0=some s.l[0]from cS (i:=0) h,ζb]
 refine u6 (s.l.length-1) (λn q=>q.2=((n+1:Nat):Int)/\isMax (s.l.take (n+1)) q.1) ⟨rfl,?_⟩ ?_ ?_
 .rw[List.take_add_one,ζd h];exact⟨by simp,λx z=>by simp at z;omega⟩
 .rintro n ⟨m,_⟩ C ⟨rfl,w⟩;have u:n+1<s.l.length:=by omega
  unfold dZ.dL;rw[yz u,bT,cS u,ζb,bp,ji _ Za]
  refine⟨rfl,?_⟩;rw[List.take_add_one,ζd u];exact w.snoc
 rintro⟨m,_⟩ ⟨rfl,w⟩;unfold dZ.dL;rw[show s.l.length-1+1=s.l.length from by omega,EZ,bJ,bp]
 rw[show s.l.length-1+1=s.l.length from by omega,List.take_length]at w
 exact(bp _).2 w
theorem G9 {s:Sl Int} {a b:Int} (h:0<s.l.length) (u:s.l.length<1073741824) (z:rL s.l a) (B:isMax s.l b):jR s=some ⟨a,b⟩:=by
 obtain⟨m,h1,w⟩:=Ky h u;obtain⟨n,g1,g2⟩:=Kk h u;unfold jR;rw[h1,ζb,g1,ζb,w.one z,g2.one B]
theorem Nl (n:Int):jR (Sl.row [n]:Sl Int)=some ⟨n,n⟩:=
 G9 (by simp[Sl.l]) (by simp[Sl.l]) ⟨by simp[Sl.l],λx u=>by simp[Sl.l]at u;omega⟩ ⟨by simp[Sl.l],λx u=>by simp[Sl.l]at u;omega⟩
theorem Nn (a b c d:Int):jR (Sl.row [a,b,c,d]:Sl Int)=some ⟨if(if d<c then d else c)<(if b<a then b else a)then(if d<c then d else c)else(if b<a then b else a),if(if d>c then d else c)>(if b>a then b else a)then(if d>c then d else c)else(if b>a then b else a)⟩:=by
 refine G9 (by simp[Sl.l]) (by simp[Sl.l]) ⟨?_,λx u=>?_⟩ ⟨?_,λx u=>?_⟩
 .show _∈[a,b,c,d];simp only[List.mem_cons,List.not_mem_nil,or_false];split <;> split <;> (try split) <;> omega
 .have u:x∈[a,b,c,d]:=u;simp only[List.mem_cons,List.not_mem_nil,or_false]at u;split <;> split <;> (try split) <;> omega
 .show _∈[a,b,c,d];simp only[List.mem_cons,List.not_mem_nil,or_false];split <;> split <;> (try split) <;> omega
 have u:x∈[a,b,c,d]:=u;simp only[List.mem_cons,List.not_mem_nil,or_false]at u;split <;> split <;> (try split) <;> omega
def TN (az:List Assign):Prop:=∀(i j:Nat) a b,i<j->az[i]? = some a->az[j]? = some b->a.var≠b.var
def qR (P:bS) (v k:Nat):Int:=((iP P k)[v]?).getD 0
theorem CY {P:bS} {v:Nat} (k:Nat) (hv:v<P.vars.l.length):(iP P k)[v]? = some (qR P v k):=by
 unfold qR;rw[ζd (by rw[oA];exact hv)];rfl
abbrev zz (P:bS) (v n:Nat):List Int:=(List.range (n+1)).map (qR P v)
theorem JU {P:bS} {v n k:Nat} (h:k<=n):qR P v k∈zz P v n:=List.mem_map.2 ⟨k,List.mem_range.2 Za,rfl⟩
section
variable {P:bS} {v:Nat}
theorem JF (D:uL P) (hv:P.vars.l.length<1073741824) (T:P.events.l.length<1073741823) (G:∀e∈P.events.l,e.assign.l.length<1073741824) (B:v<P.vars.l.length) :
 Wp (eS P v) λs=>s.l=zz P v P.events.l.length:=by
 obtain⟨r,h1,C,I⟩:=CZ D hv Za G
 have key:∀(rem:List (Int×Sl Int)) (i:Nat) (q:Sl Int),r.drop i=rem->i<=r.length->q.l=(List.range i).map (qR P v)->∃s,(jh (λ(x:Int×(Sl Int)) (q:Sl Int)=>eS.iD P v x q) rem q).bind (Fw.oB (λq=>some q) (λe=>Empty.elim e) (λe=>Empty.elim e))=some s/\s.l=(List.range r.length).map (qR P v):=by
  intro rem
  induction rem with
  | nil=>
   intro i q hd hi z;have:r.length<=i:=by simpa using hd
   exact⟨q,rfl,by rw[z,show i=r.length from by omega]⟩
  | cons y rem J=>
   intro i q hd _ z;have u:i<r.length:=by
    apply Classical.byContradiction;intro S;rw[List.drop_eq_nil_of_le Za]at hd;cases hd
   have e2:=List.drop_eq_getElem_cons u;rw[e2]at hd;simp only[List.cons.injEq]at hd;obtain⟨U,L⟩:=I i y (by rw[ζd u,hd.1])
   have O:idx y.2 (v:Int)=some (qR P v i):=by rw[qn,L];exact CY i B
   have Q:q.l.length=i:=by rw[z];simp
   have w:je q (qR P v i)=some (.row (q.l++[qR P v i])):=by unfold je;rw[if_pos Za]
   obtain⟨s,g1,g2⟩:=J (i+1) (.row (q.l++[qR P v i])) hd.2 Za (by show q.l++[qR P v i]=_;rw[z,List.range_succ,List.map_append];rfl)
   refine⟨s,?_,g2⟩;simp only[jh,eS.iD,O,w,ζb];exact g1
 obtain⟨s,g1,g2⟩:=key r 0 .nil rfl (Nat.zero_le _) rfl;refine⟨s,?_,by show s.l=_;rw[g2,C]⟩
 unfold eS k_ eS.E1;simp only[ζb,h1];exact g1
theorem EF {α:Type} {f:α->Bool} {l:List α} {k:Nat} {x:α} (h1:l[k]? = some x) (u:f x=true) (z:∀(j:Nat) (y:α),j<k->l[j]? = some y->f y=false):place f l=k:=by
 unfold place;have hk:=(ζe.1 h1);obtain⟨hk,w⟩:=hk;rw[show l.findIdx? f=some k from by
  rw[List.findIdx?_eq_some_iff_getElem];exact⟨hk,by rw[w];exact u,λj B=>by rw[z j _ B (ζd Za)];simp⟩]
theorem C1 {t:Trace} (hS:Small t) (hv:dA t=some true) (J:Ok t) {n:Nat} (D:t.procs.l[n]? = some P) {name:ByteArray} {x:Var} (h1:P.vars.l[v]? = some x) (T:(ByteArray.toList x.name==ByteArray.toList name)=true)
 (U:∀(j:Nat) (w:Var),j<v->P.vars.l[j]? = some w->(ByteArray.toList w.name==ByteArray.toList name)=false) :
 Wp (ox t n name) λr=>r.2.2=0/\rL (zz P v P.events.l.length) r.1/\isMax (zz P v P.events.l.length) r.2.1:=by
 have Q:n<t.procs.l.length:=(ζe.1 D).1;have S:=List.mem_of_getElem? D;have u:=hS.2 P S;have C:v<P.vars.l.length:=(ζe.1 h1).1;have I:P.events.l.length<=64:=by
  have:=J.heads n Q;unfold vS at this;rw[D]at this;dsimp only at this;split at this
  .split at this
   .cases this
   split at this
   .split at this
    .cases this
    omega
   rename_i G;exact absurd this G
  cases this
 obtain⟨s,g1,g2⟩:=JF (uL.of J D) u.2.1 Za u.2.2.2.2 C
 have hsl:s.l.length=P.events.l.length+1:=by rw[g2];simp[zz]
 obtain⟨a,W,L⟩:=Ky (s:=s) Za Za
 obtain⟨b,X,O⟩:=Kk (s:=s) Za Za
 have B:pg t n name=some ((v:Int),0):=by
  unfold pg;rw[hv,ζb,bT,decide_eq_false (show ¬(n:Int)<0 by omega),bJ,ζb,decide_eq_false (show ¬(n:Int)>=len t.procs by simp only[len];omega),bJ,qn,D,ζb]
  unfold qN;rw[Ar (p:=λz=>lW z name) (f:=λw=>ByteArray.toList w.name==ByteArray.toList name) (λ_ _=>rfl) u.2.1,EF h1 T U,ζb,ζb,decide_eq_false (show ¬((v:Nat):Int)<0 by omega)]
  rfl
 unfold ox;rw[B,ζb];simp only;rw[show ((0:Int)==0)=true from rfl,bT,qn,D,ζb,g1,ζb,W,ζb,X,ζb,bp];rw[g2]at L O;exact⟨rfl,L,O⟩
def fV (o:Option Int) (low high:Int):Int×Int:=match o with
 | none=>(low,high)
 | some x=>(if x<low then x else low,if x>high then x else high)
end
theorem PI {t:Trace} (hS:Small t):∃b,tf t=some b:=by
 have h1:∀e:Event,mQ e=some (decide (len e.assign>20)):=λe=>rfl
 have w:∀P∈t.procs.l,∃b,jT P=some b:=λP u=>by
  unfold jT;rw[xx (f:=λe=>decide (len e.assign>20)) (λe _=>h1 e) (hS.2 P u).1]
  cases decide (len P.events>70) <;> cases decide (len P.vars>20) <;> exact⟨_,rfl⟩
 unfold tf;rw[x8 (p:=λz=>jT z) (f:=λP=>(jT P).getD false) (λP u=>by obtain⟨b,B⟩:=w P u;rw[B];rfl) hS.1]
 cases decide (len t.procs>10) <;> exact⟨_,rfl⟩
section
variable {t:Trace} {A:cw 200 bE}
theorem zP (hS:Small t) {p:Nat} {P:bS} (D:t.procs.l[p]? = some P) (q:Nat):eu t p q=some ((P.events.l.countP (eZ q):Nat):Int):=by
 have G:P∈t.procs.l:=List.mem_of_getElem? D;have I:=(hS.2 P G).1;refine Wp.eq ?_;unfold eu;rw[qn,D,ζb];unfold eu.W1;refine u6 P.events.l.length (λn s=>s.2=(n:Int)/\s.1=(((P.events.l.take n).countP (eZ q):Nat):Int)) ⟨rfl,rfl⟩ ?_ ?_
 .rintro n ⟨o,_⟩ w ⟨e1,e2⟩;simp only at e1 e2;subst e1 e2;have z:=List.countP_le_length (p:=eZ q) (l:=P.events.l.take n);rw[List.length_take]at z;have u:(P.events.l.take (n+1)).countP (eZ q)=(P.events.l.take n).countP (eZ q)+if eZ q P.events.l[n]then 1 else 0:=by
   rw[List.take_add_one,ζd w,List.countP_append];show _+List.countP _ [P.events.l[n]]=_;rw[List.countP_cons,List.countP_nil];simp
  unfold eu.cr;rw[yz w,bT,cS w,ζb];generalize P.events.l[n]=e at u;have B:(bn (e.kind==2) (some (e.peer==(q:Int))) (some false):Option Bool)=some (eZ q e):=by
   unfold eZ;cases e.kind==2 <;> cases e.peer==(q:Int) <;> rfl
  rw[B,ζb,ji n Za]
  cases C:eZ q e with
  | true=>
   rw[C]at u;rw[bT,bp,ji _ Za]
   exact⟨rfl,by simp only[u];rfl⟩
  | false=>
   rw[C]at u;rw[bJ,bp];exact⟨rfl,by simp only[u];rfl⟩
 rintro⟨o,_⟩ ⟨e1,e2⟩;simp only at e1 e2;subst e1 e2;unfold eu.cr;rw[EZ,bJ,bp];exact(bp _).2 (by rw[List.take_length])
end
section
variable {t:Trace}
def uk (low high:Int):Bool:=decide (low>=-1125899906842624)&&decide (high<=1125899906842624)
structure qj (low high:Int):Prop where
 le:low<=high
 lo:-1125899906842624<=low
 hi:high<=1125899906842624
theorem Ao (low high:Int):gJ ⟨low,high⟩=some (!uk low high):=by
 unfold gJ uk;have h1:decide (low < -1125899906842624) = !decide (low>=-1125899906842624):=by rw[Bool.eq_iff_iff];simp
 have u:decide (high>1125899906842624) = !decide (high<=1125899906842624):=by rw[Bool.eq_iff_iff];simp
 simp only;rw[h1,u];cases decide (low>=-1125899906842624) <;> cases decide (high<=1125899906842624) <;> rfl
theorem qj.of {low high:Int} (h:low<=high) (g:uk low high=true):qj low high:=by
 simp only[uk,ζh]at g;have:=of_decide_eq_true g.1;have:=of_decide_eq_true g.2;exact⟨h,by omega,by omega⟩
end
section
variable {t:Trace}
theorem Dg (v:bC) (l h:Int) (r:Trace×Pred->Option (bC×Bool)):cC.J2 v ⟨l,h⟩ r=some (⟨l,h⟩,uk l h):=by
 unfold cC.J2;rw[Ao,ζb,Bool.not_not]
theorem BA {ok u:Bool} (h:(ok&&u)=false) (p:Pred) (v a b:bC) (r:Trace×Pred->Option (bC×Bool)):cC.J1 ok u p v a b r=some (⟨0,0⟩,false):=by
 unfold cC.J1;cases ok <;> cases u <;> first|rfl|cases h
theorem LF {k:Int} (h:(oN k==1)=true):k<=8:=by
 unfold oN at h
 by_cases g:k<=8
 .exact g
 rw[if_neg g]at h;cases h
theorem Pred.parts {p:Pred} (u:fB p=true) {c:Int} (hc:cw.at wq p.kind=some c):(p.l.l.length:Int)=c:=by
 obtain⟨-,-,h⟩:=tM u;rw[hc]at h;exact(Option.some.inj h).symm
structure qK (t:Trace) (p:Pred):Prop where
 sm:p.Sm
 f:p.jc fB=true
 r:p.jc (pG t)=true
 y:p.jc vi=true
theorem qK.xo {p q:Pred} (h:qK t p) (u:q∈p.l.l):qK t q:=by
 obtain⟨h1,w,z,B⟩:=h;rw[p.kR,ζh,List.all_eq_true]at w z B;exact⟨h1.xo u,w.2 q u,z.2 q u,B.2 q u⟩
theorem qK.here {p:Pred} (h:qK t p):fB p=true/\pG t p=true/\vi p=true:=by
 obtain⟨h1,u,w,z⟩:=h;rw[p.kR,ζh]at u w z;exact⟨u.1,w.1,z.1⟩
theorem qK.int {p q:Pred} (h:qK t p) (hk:p.kind<=12) (u:q∈p.l.l):q.kind<=8:=by
 have:=h.here.2.2;unfold vi at this;rw[List.all_eq_true]at this;have:=this q u;unfold y9 at this;rw[if_pos hk]at this;exact LF this
end
end Go.VE
namespace Go.VE
end Go.VE
namespace Go.VE
end Go.VE
namespace Go.VE
section
variable {t:Trace} {A:cw 200 bE} {P:bS} {v:Nat}
structure KA (t:Trace) (A:cw 200 bE) (c:Sl Int) (l:Sl (Sl Int)):Prop where
 hS:Small t
 hv:dA t=some true
 hV:VT t
 hM:mB t (bZ t) A
 hC:Cons t A c.l
 vals:∀(p:Nat) (P:bS) (a:Int),t.procs.l[p]? = some P->c.l[p]? = some a->∃x,l.l[p]? = some x/\x.l=iP P a.toNat
end
end Go.VE
namespace Go.VE
section
variable {t:Trace}
theorem LQ (p:Pred) (G:p.Sm):∀(n d:Nat) (v:Int),1<=n->42<=n+d->d<=41->0<=v->v<=300 ->
 ∃r:Int,fH (λr (z:Pred×Int×Int)=>fR z.1 z.2.1 z.2.2 r) n (p,(d:Int),v)=some r/\0<=r/\r<=1000:=by
 induction p using Pred.ind with
 | h p L=>
  intro n d v W O hd Q hv;have X:=G.len;rw[fT Za]
  show ∃r:Int,fR p (d:Int) v (fH (λr (z:Pred×Int×Int)=>fR z.1 z.2.1 z.2.2 r) (n-1))=some r/\0<=r/\r<=1000
  have I:∀v:Int,0<=v->v<=1000->(v<=300->d<=40)->∃r:Int,d_.J1 (d:Int) p v (fH (λr (z:Pred×Int×Int)=>fR z.1 z.2.1 z.2.2 r) (n-1))=some r/\0<=r/\r<=1000:=by
   intro v S h1 T;show Wp (d_.J1 (d:Int) p v _) λr=>0<=r/\r<=1000
   unfold d_.J1 d_.W2;refine kP (λs:Int×Int=>∃i:Nat,s.1=i/\i<=p.l.l.length/\0<=s.2/\s.2<=1000/\(s.2<=300->d<=40)) (λs=>p.l.l.length-s.1.toNat) ⟨0,rfl,Nat.zero_le _,S,h1,T⟩ ?_
   rintro⟨_,u⟩ ⟨i,rfl,hi,C,D,J⟩;simp only at C D J ⊢;unfold d_.dL
   by_cases B:i<p.l.l.length
   .rw[yz B,bT,ζb]
    by_cases hu:u<=300
    .have w:=J hu;rw[decide_eq_true hu,bT,cS B,ζb,ji d Za]
     obtain⟨r,hr,U,r1⟩:=L _ (List.getElem_mem B) (G.xo (List.getElem_mem B)) (n-1) (d+1) u Za Za Za C hu
     rw[hr,ζb,bp,ji i Za]
     exact⟨⟨i+1,rfl,by omega,U,r1,λ_=>w⟩,by simp only;omega⟩
    rw[decide_eq_false hu,bJ,bp];exact(bp _).2 ⟨C,D⟩
   rw[decide_eq_false (by simp only[len];omega),bJ,ζb,bJ,bp]
   exact(bp _).2 ⟨C,D⟩
  unfold fR
  by_cases w:d<=40
  .rw[decide_eq_false Za,bJ,fh _ Za Za]
   exact I _ Za Za (λ_=>w)
  rw[decide_eq_true Za,bT]
  exact I _ Za Za (λh=>by omega)
theorem Ec {p:Pred} (u:p.Sm):∃b,oW p=some b:=by
 obtain⟨r,hr,-⟩:=LQ p u 100000 0 0 Za Za Za Za Za
 unfold oW d_;rw[show ((0:Nat):Int)=0 from rfl]at hr;rw[hr];exact⟨_,rfl⟩
theorem LV {p:Pred} (u:oh p=true) (hc:qK t p):o9 p=some (oN p.kind,0):=by
 have w:=hc.sm;have hd:=u;simp only[oh,ζh,decide_eq_true_eq]at hd;unfold o9;rw[tB w,u,ζb,bT,yY w Za,hc.y,ζb,bT,uN];rfl
end
theorem B_ {a b x:Int} (h1:a<=x) (u:x<=b) (y:Int) {lo hi:Int} (z:lo<=a*y/\a*y<=hi) (B:lo<=b*y/\b*y<=hi):lo<=x*y/\x*y<=hi:=by
 by_cases h:0<=y
 .have p1:=Int.mul_le_mul_of_nonneg_right h1 h;have p2:=Int.mul_le_mul_of_nonneg_right u h;omega
 have p1:=Int.mul_le_mul_of_nonpos_right h1 (show y<=0 by omega)
 have p2:=Int.mul_le_mul_of_nonpos_right u (show y<=0 by omega)
 omega
theorem O6 {a b c d x y lo hi:Int} (h1:a<=x) (J:x<=b) (u:c<=y) (z:y<=d) (ac:lo<=a*c/\a*c<=hi) (B:lo<=a*d/\a*d<=hi) (D:lo<=b*c/\b*c<=hi) (G:lo<=b*d/\b*d<=hi):lo<=x*y/\x*y<=hi:=by
 refine B_ h1 J y ?_ ?_
 .rw[Int.mul_comm a y];rw[Int.mul_comm a c]at ac;rw[Int.mul_comm a d]at B;exact B_ u z a ac B
 rw[Int.mul_comm b y];rw[Int.mul_comm b c]at D;rw[Int.mul_comm b d]at G;exact B_ u z b D G
theorem Qb {a b m:Int} (h:(if 0-a>a then 0-a else a)*(if 0-b>b then 0-b else b)<=m):-m<=a*b/\a*b<=m:=by
 have z:∀u w:Int,0<=u->0<=w->0<=u*w:=λu w=>Int.mul_nonneg
 have e1:(0-a)*b=-(a*b):=by rw[Int.zero_sub,Int.neg_mul]
 have e2:a*(0-b)=-(a*b):=by rw[Int.zero_sub,Int.mul_neg]
 have e3:(0-a)*(0-b)=a*b:=by rw[Int.zero_sub,Int.zero_sub,Int.neg_mul_neg]
 by_cases B:0-a>a <;> by_cases C:0-b>b
 .rw[if_pos B,if_pos C]at h;have:=z (0-a) (0-b) Za Za;omega
 .rw[if_pos B,if_neg C]at h;have:=z (0-a) b Za Za;omega
 .rw[if_neg B,if_pos C]at h;have:=z a (0-b) Za Za;omega
 rw[if_neg B,if_neg C]at h;have:=z a b Za Za;omega
def AY (k x y:Int):Int:=if k=5 then IntKind.wrap .i64 (0-x)else if k=6 then IntKind.wrap .i64 (x+y)else if k=7 then IntKind.wrap .i64 (x-y)else IntKind.wrap .i64 (x*y)
section
variable {t:Trace} {A:cw 200 bE}
end
section
variable {t:Trace}
end
section
variable {t:Trace}
end
end Go.VE
namespace Go.VE
end Go.VE
namespace Go.VE
section
variable {t:Trace} {A:cw 200 bE}
end
end Go.VE
namespace Go.VE
theorem E4 {α:Type} {f:α->Bool}:∀{l:List α},l.any f=true->∃(k:Nat) (x:α),l[k]? = some x/\f x=true/\∀(j:Nat) (y:α),j<k->l[j]? = some y->f y=false
 | [],h=>by simp at h
 | a::r,h=>by
  by_cases u:f a=true
  .exact⟨0,a,rfl,u,λj y z=>absurd z Za⟩
  rw[List.any_cons,Bool.or_eq_true]at h;obtain⟨k,x,h1,B,D⟩:=E4 (h.resolve_left u);refine⟨k+1,x,by simpa using h1,B,λj y z w=>?_⟩
  cases j with
  | zero=>simp at w;subst w;simpa using u
  | succ j=>exact D j y Za (by simpa using w)
section
variable {t:Trace}
theorem KE (hS:Small t) {q:Pred} (hk:q.kind=2) (hr:pG t q=true):∃(n k:Nat) (P:bS) (v:Var),q.proc=n/\t.procs.l[n]? = some P/\P.vars.l[k]? = some v/\(ByteArray.toList v.name==ByteArray.toList q.name)=true/\∀(j:Nat) (w:Var),j<k->P.vars.l[j]? = some w->(ByteArray.toList w.name==ByteArray.toList q.name)=false:=by
 unfold pG at hr;rw[if_pos (by simpa using hk)]at hr
 simp only[ζh]at hr;obtain⟨C,-,u⟩:=hr;obtain⟨n,z,B⟩:=sB (t:=t) (p:=q.proc) (by simp only[ζh];exact C)
 unfold IZ at u;rw[z,cS B]at u;obtain⟨k,v,h1,D,G⟩:=E4 u;exact⟨n,k,_,v,z,ζd B,h1,D,G⟩
theorem K7 (hS:Small t) (hv:dA t=some true) (D:Ok t) {q:Pred} (G:fB q=true) (hr:pG t q=true) (hk:q.kind<=4):∃low high,fm t q=some ⟨low,high⟩/\low<=high:=by
 obtain⟨k1,-,-⟩:=tM G;rcases (show q.kind=1\/q.kind=2\/q.kind=3\/q.kind=4 by omega)with h|h|h|h
 .refine⟨q.n,q.n,?_,Int.le_refl _⟩;unfold fm;rw[show (q.kind==1)=true from by simpa using h,bT,Nl];rfl
 .obtain⟨n,k,P,v,u,w,z,h1,C⟩:=KE hS h hr;obtain⟨⟨low,high,e⟩,g1,g2,g3,g4⟩:=C1 hS hv D w (name:=q.name) z h1 C;simp only at g2 g3 g4;subst g2;refine⟨low,high,?_,g4.2 _ g3.1⟩;unfold fm;rw[h,show ((2:Int)==1)=false from rfl,bJ,show ((2:Int)==3)=false from rfl,bJ,show ((2:Int)==4)=false from rfl,bJ,u,g1];rfl
 .unfold pG at hr;rw[if_neg (by simp[h]),if_pos (by simpa using h)]at hr
  simp only[ζh]at hr;obtain⟨n,u,B⟩:=sB (t:=t) (p:=q.proc) (by simp only[ζh];exact hr.1)
  refine⟨0,len t.procs.l[n].events,?_,by simp only[len];omega⟩
  unfold fm;rw[h,show ((3:Int)==1)=false from rfl,bJ,show ((3:Int)==3)=true from rfl,bT,u,cS B];rfl
 unfold pG at hr;rw[if_neg (by simp[h]),if_neg (by simp[h]),if_pos (by simpa using h)]at hr
 simp only[ζh]at hr;obtain⟨n,u,B⟩:=sB (t:=t) (p:=q.proc) (by simp only[ζh];exact hr.1)
 obtain⟨m,I,J⟩:=sB (t:=t) (p:=q.peer) (by simp only[ζh];exact hr.2.1)
 have w:=ζd B;refine⟨0,((t.procs.l[n].events.l.countP (eZ m):Nat):Int),?_,by omega⟩
 unfold fm;rw[h,show ((4:Int)==1)=false from rfl,bJ,show ((4:Int)==3)=false from rfl,bJ,show ((4:Int)==4)=true from rfl,bT,u,I,zP hS w];rfl
theorem lC {a b:Int} (B:-1125899906842624<=a/\a<=1125899906842624) (D:-1125899906842624<=b/\b<=1125899906842624):∃x,fQ a b=some x:=by
 unfold fQ nU
 by_cases u:a=0
 .subst u;exact⟨_,rfl⟩
 rw[show (a==0)=false from by simpa using u,bJ,ζb]
 by_cases h1:b=0
 .subst h1;exact⟨_,rfl⟩
 rw[show (b==0)=false from by simpa using h1,bJ,ζb,ζb,fh (0-b) Za Za]
 have:∀k m:Int,m≠0->∃x,sX .i64 k m=some x:=λk m w=>by unfold sX;rw[if_neg w];exact⟨_,rfl⟩
 obtain⟨x,z⟩:=this 1125899906842624 (if 0-b>b then 0-b else b) (by split <;> omega)
 rw[z,ζb];cases decide ((if IntKind.wrap .i64 (0-a)>a then IntKind.wrap .i64 (0-a)else a)>x) <;> cases (decide (a<0)==decide (b<0)) <;> exact⟨_,rfl⟩
theorem Dp {p:Pred} (hk:5<=p.kind/\p.kind<=8) {a b c d:Int} (h1:qj a b) (B:qj c d) (v:bC) (r:Trace×Pred->Option (bC×Bool)) :
 ∃low high,cC.J1 true true p v ⟨a,b⟩ ⟨c,d⟩ r=some (⟨low,high⟩,uk low high)/\low<=high:=by
 obtain⟨L,O,Q⟩:=h1;obtain⟨S,T,U⟩:=B;unfold cC.J1;rw[bT,ζb,show (!true)=false from rfl,bJ];rcases (show p.kind=5\/p.kind=6\/p.kind=7\/p.kind=8 by omega)with h|h|h|h <;> rw[h]
 .refine⟨-b,-a,?_,by omega⟩
  rw[show ((5:Int)==5)=true from rfl,bT,Dg];simp only;rw[fh (0-b) Za Za,fh (0-a) Za Za,show (0:Int)-b=-b from by omega,show (0:Int)-a=-a from by omega]
 .refine⟨a+c,b+d,?_,by omega⟩
  rw[show ((6:Int)==5)=false from rfl,bJ,show ((6:Int)==6)=true from rfl,bT,Dg];simp only;rw[fh (a+c) Za Za,fh (b+d) Za Za]
 .refine⟨a-d,b-c,?_,by omega⟩
  rw[show ((7:Int)==5)=false from rfl,bJ,show ((7:Int)==6)=false from rfl,bJ,show ((7:Int)==7)=true from rfl,bT,Dg];simp only;rw[fh (a-d) Za Za,fh (b-c) Za Za]
 obtain⟨w,C⟩:=lC (a:=a) (b:=c) ⟨by omega,by omega⟩ ⟨by omega,by omega⟩
 obtain⟨x,D⟩:=lC (a:=a) (b:=d) ⟨by omega,by omega⟩ ⟨by omega,by omega⟩
 obtain⟨y,G⟩:=lC (a:=b) (b:=c) ⟨by omega,by omega⟩ ⟨by omega,by omega⟩
 obtain⟨z,I⟩:=lC (a:=b) (b:=d) ⟨by omega,by omega⟩ ⟨by omega,by omega⟩
 refine⟨if(if z<y then z else y)<(if x<w then x else w)then(if z<y then z else y)else(if x<w then x else w),if(if z>y then z else y)>(if x>w then x else w)then(if z>y then z else y)else(if x>w then x else w),?_,?_⟩
 .rw[show ((8:Int)==5)=false from rfl,bJ,show ((8:Int)==6)=false from rfl,bJ,show ((8:Int)==7)=false from rfl,bJ];simp only;rw[C,D,G,I];simp only[ζb];rw[Nn,ζb,Dg]
 have J:(if z<y then z else y)<=(if z>y then z else y):=by split <;> split <;> omega
 have u:(if x<w then x else w)<=(if x>w then x else w):=by split <;> split <;> omega
 split <;> split <;> omega
theorem O5 (hS:Small t) (hv:dA t=some true) (U:Ok t) (p:Pred):qK t p->p.kind<=8->∀n,p.dp<=n ->
 ∃i ok,fH (λr (z:Trace×Pred)=>cn z.1 z.2 r) n (t,p)=some (i,ok)/\(ok=true->qj i.low i.high):=by
 induction p using Pred.ind with
 | h p u=>
  intro hc hk n hn;have hd:=p.vQ;obtain⟨w,hr,hy⟩:=hc.here;obtain⟨k1,-,-⟩:=tM w;rw[fT Za]
  have u:=λq I=>u q I (hc.xo I) (hc.int Za I) (n-1) (by have:=Pred.oq I;omega)
  show ∃i ok,cn t p (fH (λr (z:Trace×Pred)=>cn z.1 z.2 r) (n-1))=some (i,ok)/\_
  generalize fH (λr (z:Trace×Pred)=>cn z.1 z.2 r) (n-1)=R at u ⊢
  unfold cn
  by_cases W:p.kind<=4
  .have J:p.l.l.length=0:=by
    have:=Pred.parts w (c:=0) (by rcases (show p.kind=1\/p.kind=2\/p.kind=3\/p.kind=4 by omega)with h|h|h|h <;> (rw[h];rfl))
    omega
   obtain⟨low,high,g1,g2⟩:=K7 hS hv U w hr W;refine⟨⟨low,high⟩,uk low high,?_,λh=>qj.of g2 h⟩
   rw[show (len p.l==0)=true from by simp[len,J],bT,g1,ζb,Ao,ζb,Bool.not_not]
  by_cases X:p.kind=5
  .have B:p.l.l.length=1:=by
    have:=Pred.parts w (c:=1) (by rw[X];rfl)
    omega
   have C:0<p.l.l.length:=by omega
   obtain⟨i,ok,g1,g3⟩:=u _ (List.getElem_mem C);have L:idx p.l 0=some p.l.l[0]:=cS (i:=0) C;rw[show (len p.l==0)=false from by simp[len,B],bJ,L,ζb,g1,ζb,show (len p.l==2)=false from by simp[len,B],bJ]
   simp only
   cases ok with
   | false=>
    rw[BA rfl];exact⟨_,false,rfl,λh=>by cases h⟩
   | true=>
    obtain⟨low,high,O,Q⟩:=Dp (p:=p) ⟨by omega,by omega⟩ (g3 rfl) (g3 rfl) ⟨0,0⟩ R
    exact⟨_,_,O,λh=>qj.of Q h⟩
  have D:p.l.l.length=2:=by
   have:=Pred.parts w (c:=2) (by rcases (show p.kind=6\/p.kind=7\/p.kind=8 by omega)with h|h|h <;> (rw[h];rfl))
   omega
  have C:0<p.l.l.length:=by omega
  have h1:1<p.l.l.length:=by omega
  obtain⟨i,ok,g1,g3⟩:=u _ (List.getElem_mem C);obtain⟨j,G,Y,Z⟩:=u _ (List.getElem_mem h1);have L:idx p.l 0=some p.l.l[0]:=cS (i:=0) C;have S:idx p.l 1=some p.l.l[1]:=cS (i:=1) h1;rw[show (len p.l==0)=false from by simp[len,D],bJ,L,ζb,g1,ζb,show (len p.l==2)=true from by simp[len,D],bT,S,ζb,Y,ζb]
  simp only
  cases T:ok&&G with
  | false=>
   rw[BA T];exact⟨_,false,rfl,λh=>by cases h⟩
  | true=>
   simp only[ζh]at T;obtain⟨rfl,rfl⟩:=T;obtain⟨low,high,O,Q⟩:=Dp (p:=p) ⟨by omega,by omega⟩ (g3 rfl) (Z rfl) ⟨0,0⟩ R
   exact⟨_,_,O,λh=>qj.of Q h⟩
theorem Qr (hS:Small t) (hv:dA t=some true) (B:Ok t) (p:Pred):qK t p->p.dp<=20->∀n,p.dp<=n->∃b,fH (λr (z:Trace×Pred)=>en z.1 z.2 r) n (t,p)=some b:=by
 induction p using Pred.ind with
 | h p w=>
  intro hc hd n D;have C:=p.vQ;rw[fT Za]
  have w:=λq u=>w q u (hc.xo u) (by have:=Pred.oq u;omega) (n-1) (by have:=Pred.oq u;omega)
  show ∃b,en t p (fH (λr (z:Trace×Pred)=>en z.1 z.2 r) (n-1))=some b
  generalize fH (λr (z:Trace×Pred)=>en z.1 z.2 r) (n-1)=R at w ⊢
  unfold en;rw[uN,ζb]
  by_cases hk:p.kind<=8
  .rw[show (oN p.kind==1)=true from by simp[oN,hk],bT]
   obtain⟨i,ok,g1,-⟩:=O5 hS hv B p hc hk 100000 Za
   exact⟨ok,by rw[show cC t p=_ from g1];rfl⟩
  rw[show (oN p.kind==1)=false from by simp[oN,hk],bJ]
  let g:Pred->Bool:=λq=>(R (t,q)).getD false
  have hg:∀q∈p.l.l,R (t,q)=some (g q):=λq u=>by
   obtain⟨b,h1⟩:=w q u;show _=some ((R (t,q)).getD false);rw[h1];rfl
  rw[yX _ hc.sm.len,wL (f:=λq => !g q) (λq u=>by
   unfold lV;rw[hg q u];rfl)]
  exact⟨_,rfl⟩
theorem Rg (hS:Small t) (B:(bZ t).length<1073741824) {p:Pred} (z:p.Sm) :
 ∃e,kA t p=some e/\(e=0->dA t=some true/\VT t/\oh p=true/\qK t p):=by
 obtain⟨C,hv,w,-⟩:=Mz hS B;unfold kA;rw[hv,ζb]
 cases C with
 | false=>exact⟨1,rfl,λh=>by cases h⟩
 | true=>
  have hV:=w rfl;rw[bT,tB z,ζb]
  cases D:oh p with
  | false=>exact⟨1,rfl,λh=>by cases h⟩
  | true=>
   have u:=D;simp only[oh,ζh]at u;have hd:=of_decide_eq_true u.2.1;unfold og;rw[show (!true)=false from rfl,ζb,bJ,xL hS z Za,ζb]
   cases hr:p.jc (pG t)with
   | false=>exact⟨13,rfl,λh=>by cases h⟩
   | true=>
    rw[bT,yY z Za,ζb]
    cases G:p.jc vi with
    | false=>exact⟨14,rfl,λh=>by cases h⟩
    | true=>
     have hc:qK t p:=⟨z,u.2.2,hr,G⟩;obtain⟨b,g1⟩:=Qr hS hv hV.ok p hc hd 100000 Za
     rw[bT,g1,ζb]
     cases b with
     | false=>exact⟨9,rfl,λh=>by cases h⟩
     | true=>exact⟨0,rfl,λ_=>⟨rfl,hV,rfl,hc⟩⟩
end
theorem uR {a b x:Int} (B:-1125899906842624<=a/\a<=1125899906842624) (D:-1125899906842624<=b/\b<=1125899906842624) (h:fQ a b=some x) (G:-1125899906842624<=x/\x<=1125899906842624):a*b=x:=by
 unfold fQ nU at h
 by_cases u:a=0
 .subst u;rw[show (0:Int)*b=0 from by omega]
  exact Option.some.inj h
 rw[show (a==0)=false from by simpa using u,bJ,ζb]at h
 by_cases h1:b=0
 .subst h1;rw[show a*(0:Int)=0 from by omega]
  exact Option.some.inj h
 rw[show (b==0)=false from by simpa using h1,bJ,ζb,ζb,fh (0-b) Za Za,fh (0-a) Za Za]at h
 have w:0<(if 0-b>b then 0-b else b):=by split <;> omega
 unfold sX at h;rw[if_neg Za,ζb,Int.tdiv_eq_ediv_of_nonneg Za]at h
 have hd:(1125899906842624:Int) / (if 0-b>b then 0-b else b)<=1125899906842624:=Int.ediv_le_self _ Za
 have z:0<=(1125899906842624:Int) / (if 0-b>b then 0-b else b):=Int.ediv_nonneg Za Za
 rw[fh ((1125899906842624:Int) / (if 0-b>b then 0-b else b)) Za Za]at h
 by_cases hg:(if 0-a>a then 0-a else a)>(1125899906842624:Int) / (if 0-b>b then 0-b else b)
 .rw[decide_eq_true hg,bT,fh (0-1125899906842625) Za Za]at h
  exfalso
  revert h
  cases (decide (a<0)==decide (b<0)) <;> intro h
  .have:=Option.some.inj h;omega
  have:=Option.some.inj h;omega
 rw[decide_eq_false hg,bJ]at h;have C:=Qb (Int.mul_le_of_le_ediv w (show (if 0-a>a then 0-a else a)<=(1125899906842624:Int) / (if 0-b>b then 0-b else b)from by omega))
 rw[fh (a*b) Za Za]at h
 exact Option.some.inj h
def GW (k x y:Int):Int:=if k=5 then 0-x else if k=6 then x+y else if k=7 then x-y else x*y
theorem Aj {p:Pred} (hk:5<=p.kind/\p.kind<=8) {a b c d x y:Int} (h1:qj a b) (T:qj c d) (D:a<=x/\x<=b) (G:c<=y/\y<=d) (v:bC) (r:Trace×Pred->Option (bC×Bool)) :
 ∃low high,cC.J1 true true p v ⟨a,b⟩ ⟨c,d⟩ r=some (⟨low,high⟩,uk low high)/\low<=high/\(uk low high=true->low<=GW p.kind x y/\GW p.kind x y<=high):=by
 obtain⟨Z,a2,a3⟩:=h1;obtain⟨c1,c2,c3⟩:=T;unfold cC.J1;rw[bT,ζb,show (!true)=false from rfl,bJ];rcases (show p.kind=5\/p.kind=6\/p.kind=7\/p.kind=8 by omega)with h|h|h|h <;> rw[h]
 .refine⟨-b,-a,?_,by omega,λ_=>?_⟩
  .rw[show ((5:Int)==5)=true from rfl,bT,Dg];simp only;rw[fh (0-b) Za Za,fh (0-a) Za Za,show (0:Int)-b=-b from by omega,show (0:Int)-a=-a from by omega]
  show -b<=(0-x)/\(0-x)<=-a;omega
 .refine⟨a+c,b+d,?_,by omega,λ_=>?_⟩
  .rw[show ((6:Int)==5)=false from rfl,bJ,show ((6:Int)==6)=true from rfl,bT,Dg];simp only;rw[fh (a+c) Za Za,fh (b+d) Za Za]
  show a+c<=(x+y)/\(x+y)<=b+d;omega
 .refine⟨a-d,b-c,?_,by omega,λ_=>?_⟩
  .rw[show ((7:Int)==5)=false from rfl,bJ,show ((7:Int)==6)=false from rfl,bJ,show ((7:Int)==7)=true from rfl,bT,Dg];simp only;rw[fh (a-d) Za Za,fh (b-c) Za Za]
  show a-d<=(x-y)/\(x-y)<=b-c;omega
 obtain⟨w,I⟩:=lC (a:=a) (b:=c) ⟨by omega,by omega⟩ ⟨by omega,by omega⟩
 obtain⟨z,J⟩:=lC (a:=a) (b:=d) ⟨by omega,by omega⟩ ⟨by omega,by omega⟩
 obtain⟨m,O⟩:=lC (a:=b) (b:=c) ⟨by omega,by omega⟩ ⟨by omega,by omega⟩
 obtain⟨n,Q⟩:=lC (a:=b) (b:=d) ⟨by omega,by omega⟩ ⟨by omega,by omega⟩
 refine⟨if(if n<m then n else m)<(if z<w then z else w)then(if n<m then n else m)else(if z<w then z else w),if(if n>m then n else m)>(if z>w then z else w)then(if n>m then n else m)else(if z>w then z else w),?_,?_,λB=>?_⟩
 .rw[show ((8:Int)==5)=false from rfl,bJ,show ((8:Int)==6)=false from rfl,bJ,show ((8:Int)==7)=false from rfl,bJ];simp only;rw[I,J,O,Q];simp only[ζb];rw[Nn,ζb,Dg]
 .have U:(if n<m then n else m)<=(if n>m then n else m):=by split <;> split <;> omega
  have S:(if z<w then z else w)<=(if z>w then z else w):=by split <;> split <;> omega
  split <;> split <;> omega
 generalize W:(if(if n<m then n else m)<(if z<w then z else w)then(if n<m then n else m)else(if z<w then z else w))=L at B ⊢;generalize X:(if(if n>m then n else m)>(if z>w then z else w)then(if n>m then n else m)else(if z>w then z else w))=H at B ⊢;simp only[uk,ζh]at B;have o1:=of_decide_eq_true B.1;have o2:=of_decide_eq_true B.2;have l1:L<=n/\L<=m/\L<=z/\L<=w:=by
  rw[<-W];have g1:(if n<m then n else m)<=n/\(if n<m then n else m)<=m:=by split <;> omega
  have g2:(if z<w then z else w)<=z/\(if z<w then z else w)<=w:=by split <;> omega
  generalize (if n<m then n else m)=u at g1;generalize (if z<w then z else w)=Y at g2;split <;> omega
 have l2:n<=H/\m<=H/\z<=H/\w<=H:=by
  rw[<-X];have g1:n<=(if n>m then n else m)/\m<=(if n>m then n else m):=by split <;> omega
  have g2:z<=(if z>w then z else w)/\w<=(if z>w then z else w):=by split <;> omega
  generalize (if n>m then n else m)=u at g1;generalize (if z>w then z else w)=Y at g2;split <;> omega
 have t1:=uR ⟨by omega,by omega⟩ ⟨by omega,by omega⟩ I Za
 have t2:=uR ⟨by omega,by omega⟩ ⟨by omega,by omega⟩ J Za
 have t3:=uR ⟨by omega,by omega⟩ ⟨by omega,by omega⟩ O Za
 have t4:=uR ⟨by omega,by omega⟩ ⟨by omega,by omega⟩ Q Za
 have C:=O6 (lo:=L) (hi:=H) D.1 D.2 G.1 G.2 Za Za Za Za
 exact C
section
variable {t:Trace} {A:cw 200 bE}
theorem Pt {c:Sl Int} {l:Sl (Sl Int)} (h:KA t A c l) {q:Pred} (hf:fB q=true) (hr:pG t q=true) (hk:q.kind<=4) :
 ∃low high x,fm t q=some ⟨low,high⟩/\(∀R,bP ⟨t,c,l⟩ q R=some x)/\low<=x/\x<=high:=by
 obtain⟨hS,hv,hV,hM,hC,I⟩:=h;obtain⟨k1,-,-⟩:=tM hf;rcases (show q.kind=1\/q.kind=2\/q.kind=3\/q.kind=4 by omega)with h|h|h|h
 .refine⟨q.n,q.n,q.n,?_,λR=>?_,Int.le_refl _,Int.le_refl _⟩
  .unfold fm;rw[show (q.kind==1)=true from by simpa using h,bT,Nl];rfl
  unfold bP;rw[h];rfl
 .obtain⟨n,k,P,v,D,C,J,h1,W⟩:=KE hS h hr;obtain⟨⟨low,high,e⟩,g1,g2,g3,g4⟩:=C1 hS hv hV.ok C (name:=q.name) J h1 W;simp only at g2 g3 g4;subst g2;have S:=(ζe.1 J).1;have B:=(ζe.1 C).1;obtain⟨a,L⟩:=hC.1.at_ B;obtain⟨a0,Z⟩:=hC.1.2 n a P L C;obtain⟨x,hx,T⟩:=I n P a C L;have G:qR P k a.toNat∈zz P k P.events.l.length:=JU Za
  refine⟨low,high,qR P k a.toNat,?_,λR=>?_,g3.2 _ G,g4.2 _ G⟩
  .unfold fm;rw[h,show ((2:Int)==1)=false from rfl,bJ,show ((2:Int)==3)=false from rfl,bJ,show ((2:Int)==4)=false from rfl,bJ,D,g1];rfl
  unfold bP;rw[h,show ((2:Int)==1)=false from rfl,bJ,show ((2:Int)==2)=true from rfl,bT];unfold lF;simp only;rw[D,qn,C,ζb,Ar (p:=λz=>iG z q) (f:=λw=>ByteArray.toList w.name==ByteArray.toList q.name) (λ_ _=>rfl) (hS.2 P (List.mem_of_getElem? C)).2.1,EF J h1 W,ζb,qn,hx,ζb,qn,T,CY _ S]
  rfl
 .unfold pG at hr;rw[if_neg (by simp[h]),if_pos (by simpa using h)]at hr
  simp only[ζh]at hr;obtain⟨n,D,O⟩:=sB (t:=t) (p:=q.proc) (by simp only[ζh];exact hr.1)
  obtain⟨a,L⟩:=hC.1.at_ O;obtain⟨a0,Z⟩:=hC.1.2 n a _ L (ζd O);refine⟨0,len t.procs.l[n].events,a,?_,λR=>?_,by omega,by simp only[len];omega⟩
  .unfold fm;rw[h,show ((3:Int)==1)=false from rfl,bJ,show ((3:Int)==3)=true from rfl,bT,D,cS O];rfl
  unfold bP;rw[h,show ((3:Int)==1)=false from rfl,bJ,show ((3:Int)==2)=false from rfl,bJ,show ((3:Int)==3)=true from rfl,bT];simp only;rw[D,qn,L];rfl
 unfold pG at hr;rw[if_neg (by simp[h]),if_neg (by simp[h]),if_pos (by simpa using h)]at hr
 simp only[ζh]at hr;obtain⟨n,D,O⟩:=sB (t:=t) (p:=q.proc) (by simp only[ζh];exact hr.1)
 obtain⟨m,X,B⟩:=sB (t:=t) (p:=q.peer) (by simp only[ζh];exact hr.2.1)
 have C:=ζd O;have hQ:=ζd B;obtain⟨a,L⟩:=hC.1.at_ O;obtain⟨b,hb⟩:=hC.1.at_ B;obtain⟨⟨u,e2⟩,hu,U,Q⟩:=M1 hS hv hV hM hC O B;simp only at U Q;rw[CG hV hM hC C hQ L hb]at Q;have aa:((t.procs.l[n].events.l.take a.toNat).countP λe=>eZ m e&&oI t c.l e)<=t.procs.l[n].events.l.countP (eZ m):=by
  refine Nat.le_trans (List.countP_mono_left λe _ Y=>?_) (List.Sublist.countP_le (List.take_sublist a.toNat _))
  simp only[ζh]at Y;exact Y.1
 refine⟨0,((t.procs.l[n].events.l.countP (eZ m):Nat):Int),len u,?_,λR=>?_,by simp only[len];omega,by simp only[len];omega⟩
 .unfold fm;rw[h,show ((4:Int)==1)=false from rfl,bJ,show ((4:Int)==3)=false from rfl,bJ,show ((4:Int)==4)=true from rfl,bT,D,X,zP hS C];rfl
 unfold bP;rw[h,show ((4:Int)==1)=false from rfl,bJ,show ((4:Int)==2)=false from rfl,bJ,show ((4:Int)==3)=false from rfl,bJ,show ((4:Int)==4)=true from rfl,bT];unfold mj;simp only;rw[D,X,hu];rfl
noncomputable abbrev yp (n:Nat) (v:br) (q:Pred):Option Int:=fH (λr (z:br×Pred)=>bP z.1 z.2 r) n (v,q)
noncomputable abbrev z_ (n:Nat) (t:Trace) (q:Pred):Option (bC×Bool):=fH (λr (z:Trace×Pred)=>cn z.1 z.2 r) n (t,q)
def ND (t:Trace) (c:Sl Int) (l:Sl (Sl Int)) (q:Pred) (i:bC) (ok:Bool) (x:Int):Prop:=
 (∀n,q.dp<=n->z_ n t q=some (i,ok)/\yp n ⟨t,c,l⟩ q=some x)/\(ok=true->∃low high,i=⟨low,high⟩/\qj low high/\low<=x/\x<=high)
theorem qj.AY {a b c d x y k low high:Int} (h1:qj a b) (z:qj c d) (B:a<=x/\x<=b) (D:c<=y/\y<=d) (u:uk low high=true) (hr:low<=GW k x y/\GW k x y<=high):AY k x y=GW k x y:=by
 simp only[uk,ζh]at u;have o1:=of_decide_eq_true u.1;have o2:=of_decide_eq_true u.2;obtain⟨w,C,G⟩:=h1;obtain⟨I,J,L⟩:=z;unfold VE.AY GW at *;split
 .exact fh _ Za Za
 split
 .exact fh _ Za Za
 split
 .exact fh _ Za Za
 rw[if_neg (by assumption),if_neg (by assumption),if_neg (by assumption)]at hr
 exact fh _ Za Za
theorem KR {c:Sl Int} {l:Sl (Sl Int)} (h:KA t A c l) (q:Pred):qK t q->q.kind<=8->∃i ok x,ND t c l q i ok x:=by
 induction q using Pred.ind with
 | h q Q=>
  intro hc hk;have hd:=q.vQ;obtain⟨S,hr,hy⟩:=hc.here;obtain⟨k1,-,-⟩:=tM S;have Q:=λq hq=>Q q hq (hc.xo hq) (hc.int Za hq)
  by_cases h4:q.kind<=4
  .have aa:q.l.l.length=0:=by
    have:=Pred.parts S (c:=0) (by rcases (show q.kind=1\/q.kind=2\/q.kind=3\/q.kind=4 by omega)with h|h|h|h <;> (rw[h];rfl))
    omega
   obtain⟨low,high,x,g1,g2,g3,g5⟩:=Pt h S hr h4;refine⟨⟨low,high⟩,uk low high,x,λn w=>⟨?_,?_⟩,λab=>⟨low,high,rfl,qj.of Za ab,g3,g5⟩⟩
   .unfold z_;rw[fT Za]
    show cn t q _=_;unfold cn;rw[show (len q.l==0)=true from by simp[len,aa],bT,g1,ζb,Ao,ζb,Bool.not_not]
   unfold yp;rw[fT Za]
   exact g2 _
  have u:∀j:Int,j<5->(q.kind==j)=false:=λj hj=>by simp;omega
  by_cases h5:q.kind=5
  .have T:q.l.l.length=1:=by
    have:=Pred.parts S (c:=1) (by rw[h5];rfl)
    omega
   have D:0<q.l.l.length:=by omega
   obtain⟨i,ok,x,g,g3⟩:=Q _ (List.getElem_mem D);have ad:=Pred.oq (List.getElem_mem D);have U:idx q.l 0=some q.l.l[0]:=cS (i:=0) D;have G:∀n,q.dp<=n->z_ n t q=cC.J1 ok true q ⟨0,0⟩ i i (λ_=>none):=λn w=>by
    have e:=(g (n-1) Za).1
    unfold z_ at e ⊢;rw[fT Za]
    show cn t q _=_;generalize fH (λr (z:Trace×Pred)=>cn z.1 z.2 r) (n-1)=R at e ⊢
    unfold cn;rw[show (len q.l==0)=false from by simp[len,T],bJ,U,ζb,e,ζb,show (len q.l==2)=false from by simp[len,T],bJ];rfl
   have B:∀n,q.dp<=n->yp n ⟨t,c,l⟩ q=some (AY q.kind x x):=λn w=>by
    have e:=(g (n-1) Za).2
    unfold yp at e ⊢;rw[fT Za]
    show bP ⟨t,c,l⟩ q _=_;generalize fH (λr (z:br×Pred)=>bP z.1 z.2 r) (n-1)=R at e ⊢
    unfold bP;rw[u 1 Za,u 2 Za,u 3 Za,u 4 Za,bJ,bJ,bJ,bJ,h5,show ((5:Int)==5)=true from rfl,bT,U,ζb,e];rfl
   cases ok with
   | false=>
    rw[BA rfl]at G;exact⟨_,false,_,λn w=>⟨G n w,B n w⟩,λh=>by cases h⟩
   | true=>
    obtain⟨a,b,rfl,I,J,x2⟩:=g3 rfl;obtain⟨low,high,w1,w3,W⟩:=Aj (p:=q) ⟨by omega,by omega⟩ I I ⟨J,x2⟩ ⟨J,x2⟩ ⟨0,0⟩ (λ_=>none)
    refine⟨_,_,_,λn w=>⟨(G n w).trans w1,B n w⟩,λh=>⟨low,high,rfl,qj.of w3 h,?_⟩⟩
    rw[qj.AY I I ⟨J,x2⟩ ⟨J,x2⟩ h (W h)];exact W h
  have X:q.l.l.length=2:=by
   have:=Pred.parts S (c:=2) (by rcases (show q.kind=6\/q.kind=7\/q.kind=8 by omega)with h|h|h <;> (rw[h];rfl))
   omega
  have D:0<q.l.l.length:=by omega
  have h1:1<q.l.l.length:=by omega
  obtain⟨i,ok,x,g,g3⟩:=Q _ (List.getElem_mem D);obtain⟨j,C,y,g',q3⟩:=Q _ (List.getElem_mem h1);have ad:=Pred.oq (List.getElem_mem D);have ae:=Pred.oq (List.getElem_mem h1);have U:idx q.l 0=some q.l.l[0]:=cS (i:=0) D;have Y:idx q.l 1=some q.l.l[1]:=cS (i:=1) h1;have G:∀n,q.dp<=n->z_ n t q=cC.J1 ok C q ⟨0,0⟩ i j (λ_=>none):=λn w=>by
   have e:=(g (n-1) Za).1
   have L:=(g' (n-1) Za).1
   unfold z_ at e L ⊢;rw[fT Za]
   show cn t q _=_;generalize fH (λr (z:Trace×Pred)=>cn z.1 z.2 r) (n-1)=R at e L ⊢
   unfold cn;rw[show (len q.l==0)=false from by simp[len,X],bJ,U,Y]
   simp only[ζb];simp only[e,L,ζb];rw[show (len q.l==2)=true from by simp[len,X]];rfl
  have B:∀n,q.dp<=n->yp n ⟨t,c,l⟩ q=some (AY q.kind x y):=λn w=>by
   have e:=(g (n-1) Za).2
   have L:=(g' (n-1) Za).2
   unfold yp at e L ⊢;rw[fT Za]
   show bP ⟨t,c,l⟩ q _=_;generalize fH (λr (z:br×Pred)=>bP z.1 z.2 r) (n-1)=R at e L ⊢
   unfold bP;rw[u 1 Za,u 2 Za,u 3 Za,u 4 Za,bJ,bJ,bJ,bJ,U,Y]
   simp only[ζb];simp only[e,L,ζb];unfold VE.AY;rcases (show q.kind=6\/q.kind=7\/q.kind=8 by omega)with h|h|h <;> rw[h] <;> rfl
  cases O:ok&&C with
  | false=>
   simp only[BA O]at G;exact⟨_,false,_,λn w=>⟨G n w,B n w⟩,λh=>by cases h⟩
  | true=>
   simp only[ζh]at O;obtain⟨rfl,rfl⟩:=O;obtain⟨a,b,rfl,I,J,x2⟩:=g3 rfl;obtain⟨c',d,rfl,Z,y1,y2⟩:=q3 rfl;obtain⟨low,high,w1,w3,W⟩:=Aj (p:=q) ⟨by omega,by omega⟩ I Z ⟨J,x2⟩ ⟨y1,y2⟩ ⟨0,0⟩ (λ_=>none)
   refine⟨_,_,_,λn w=>⟨(G n w).trans w1,B n w⟩,λh=>⟨low,high,rfl,qj.of w3 h,?_⟩⟩
   rw[qj.AY I Z ⟨J,x2⟩ ⟨y1,y2⟩ h (W h)];exact W h
noncomputable abbrev xV (n:Nat) (v:br) (q:Pred):Option Bool:=fH (λr (z:br×Pred)=>bW z.1 z.2 r) n (v,q)
theorem qK.bool {q:Pred} (hc:qK t q) (g:13<=q.kind) {k:Pred} (hk:k∈q.l.l):9<=k.kind:=by
 have:=hc.here.2.2;unfold vi at this;rw[List.all_eq_true]at this;have:=this k hk;unfold y9 oN at this;rw[if_neg (show ¬q.kind<=12 by omega)]at this
 by_cases u:k.kind<=8
 .rw[if_pos u]at this;cases this
 omega
theorem QZ {q:Pred} (u:q.kind<=21) (h:q.jc (λk => !wW k)=true):q.kind<=17/\∀k∈q.l.l,k.jc (λk => !wW k)=true:=by
 rw[q.kR,ζh,List.all_eq_true]at h;refine⟨?_,h.2⟩;have:=h.1;unfold wW at this
 by_cases g:q.kind>=18
 .rw[decide_eq_true g,decide_eq_true u]at this;cases this
 omega
theorem L1 {c:Sl Int} {l:Sl (Sl Int)} (h:KA t A c l) (q:Pred):qK t q->9<=q.kind->q.dp<=20->q.jc (λk => !wW k)=true->∃x,∀n,q.dp<=n->xV n ⟨t,c,l⟩ q=some x:=by
 induction q using Pred.ind with
 | h q O=>
  intro hc hk W G;have hd:=q.vQ;obtain⟨I,hr,hy⟩:=hc.here;obtain⟨k1,k2,-⟩:=tM I;obtain⟨X,G⟩:=QZ Za G
  have O:=λg q J=>O q J (hc.xo J) (hc.bool g J) (by have:=Pred.oq J;omega) (G q J)
  have B:∀n,q.dp<=n->xV n ⟨t,c,l⟩ q=bW ⟨t,c,l⟩ q (λz=>xV (n-1) z.1 z.2):=λn C=>by
   unfold xV;rw[fT Za]
  by_cases S:q.kind<=12
  .have Z:=Pred.parts I (c:=2) (by rcases (show q.kind=9\/q.kind=10\/q.kind=11\/q.kind=12 by omega)with g|g|g|g <;> (rw[g];rfl))
   have u:0<q.l.l.length:=by omega
   have w:1<q.l.l.length:=by omega
   have D:∀k∈q.l.l,∃x,cV ⟨t,c,l⟩ k=some x:=λk hk=>by
    obtain⟨i,ok,x,g,-⟩:=KR h k (hc.xo hk) (hc.int S hk);exact⟨x,(g 100000 (by have:=Pred.oq hk;omega)).2⟩
   obtain⟨x,Q⟩:=D _ (List.getElem_mem u);obtain⟨y,T⟩:=D _ (List.getElem_mem w);have key:∀R,∃b,bW ⟨t,c,l⟩ q R=some b/\∀R',bW ⟨t,c,l⟩ q R'=some b:=λR=>by
    unfold bW;rw[show idx q.l 0=some q.l.l[0]from cS (i:=0) u,show idx q.l 1=some q.l.l[1]from cS (i:=1) w];simp only[ζb,Q,T];rcases (show q.kind=9\/q.kind=10\/q.kind=11\/q.kind=12 by omega)with g|g|g|g <;> rw[g] <;> exact⟨_,rfl,λ_=>rfl⟩
   obtain⟨b,-,hb⟩:=key (λ_=>none)
   exact⟨b,λn C=>by rw[B n C,hb]⟩
  by_cases aa:q.kind<=14
  .refine⟨q.kind==13,λn C=>?_⟩
   rw[B n C];unfold bW dG.J1;rcases (show q.kind=13\/q.kind=14 by omega)with g|g <;> rw[g] <;> rfl
  have u:0<q.l.l.length:=by
   rcases (show q.kind=15\/q.kind=16\/q.kind=17 by omega)with g|g|g
   .have:=Pred.parts I (c:=1) (by rw[g];rfl);omega
   .have:=Pred.parts I (c:=2) (by rw[g];rfl);omega
   have:=Pred.parts I (c:=2) (by rw[g];rfl);omega
  obtain⟨x,Q⟩:=O Za _ (List.getElem_mem u)
  have ab:=Pred.oq (List.getElem_mem u);have L:idx q.l 0=some q.l.l[0]:=cS (i:=0) u
  by_cases g:q.kind=15
  .refine⟨!x,λn C=>?_⟩
   rw[B n C];unfold bW dG.J1;rw[L,g];simp only[ζb,Q (n-1) Za]
   rfl
  have w:1<q.l.l.length:=by
   have:=Pred.parts I (c:=2) (by rcases (show q.kind=16\/q.kind=17 by omega)with g|g <;> (rw[g];rfl))
   omega
  obtain⟨y,T⟩:=O Za _ (List.getElem_mem w)
  have Y:=Pred.oq (List.getElem_mem w);have U:idx q.l 1=some q.l.l[1]:=cS (i:=1) w;refine⟨if q.kind=16 then x&&y else x||y,λn C=>?_⟩
  rw[B n C];unfold bW dG.J1;rw[L,U];simp only[ζb,Q (n-1) Za,T (n-1) Za]
  rcases (show q.kind=16\/q.kind=17 by omega)with g|g <;> rw[g] <;> cases x <;> rfl
theorem Ho (hS:Small t) (W:(bZ t).length<1073741824) {p:Pred} (T:p.Sm) (c:Sl Int) (k:Int) :
 ∃w e,eE t c p k=some (w,e)/\(e=0->∃A l,w=⟨t,c,l⟩/\KA t A c l/\eV t c=some (l,0)/\kA t p=some 0/\oh p=true/\qK t p/\oN p.kind=k/\p.jc (λq => !wW q)=true):=by
 obtain⟨e,h1,X⟩:=Rg hS W T;unfold eE;rw[h1,ζb];have Y:∃w,eE.J1 c k 1 t p (⟨⟨Sl.nil⟩,Sl.nil,Sl.nil⟩:br)=some (w,1):=⟨_,rfl⟩
 by_cases J:e=0
 .subst J;obtain⟨B,hV,S,hc⟩:=X rfl;obtain⟨A,-,-,hM⟩:=hV.msgs;rw[show ((0:Int)==1)=false from rfl,bJ,ζb]
  by_cases L:c.l.length=t.procs.l.length
  .rw[show (len c==len t.procs)=true from by simp[len,L],show (!true)=false from rfl,bJ]
   unfold eE.J1;rw[show ((0:Int)==0)=true from rfl,bT];obtain⟨x,Z,C⟩:=zC hS B hV hM c
   by_cases u:x.2=0
   .obtain⟨U,D⟩:=C.zero.1 u;obtain⟨⟨l,z⟩,hl,G,O,I⟩:=RI hS B hV hM (c:=c) ⟨U,D⟩;simp only at G O I;subst G;rw[hl,ζb];simp only;rw[show ((0:Int)==0)=true from rfl,bT];unfold qS;rw[LV S hc,ζb];simp only;rw[show ((0:Int)==0)=true from rfl,bT]
    cases hk:oN p.kind==k with
    | false=>exact⟨_,14,rfl,λh=>by cases h⟩
    | true=>
     rw[show (!true)=false from rfl,ζb,bJ,ζb];rw[show ((0:Int)==0)=true from rfl,bT,FX T,S,ζb,ζb]
     cases ht:p.jc λq => !wW q with
     | false=>exact⟨_,15,rfl,λh=>by cases h⟩
     | true=>exact⟨_,0,rfl,λ_=>⟨A,l,rfl,⟨hS,B,hV,hM,⟨U,D⟩,I⟩,rfl,trivial,rfl,hc,by simpa using hk,rfl⟩⟩
   unfold eV;rw[Z,ζb,show (x.2==0)=false from by simpa using u,bJ,ζb]
   simp only;rw[show (x.2==0)=false from by simpa using u,bJ]
   exact⟨_,_,rfl,λh=>absurd h u⟩
  rw[show (len c==len t.procs)=false from by rw[beq_eq_false_iff_ne];simp only[len];omega,show (!false)=true from rfl,bT]
  exact⟨_,1,rfl,λh=>by cases h⟩
 have Q:(e==0)=false:=by simpa using J
 have hJ:eE.J1 c k e t p (⟨⟨Sl.nil⟩,Sl.nil,Sl.nil⟩:br)=some (⟨⟨Sl.nil⟩,Sl.nil,Sl.nil⟩,e):=by
  unfold eE.J1;rw[Q,bJ]
 cases e==1 <;> cases len c==len t.procs <;> simp only[bT,bJ,ζb,Bool.not_true,Bool.not_false,hJ] <;> first|exact⟨_,1,rfl,λh=>by cases h⟩|exact⟨_,_,rfl,λh=>absurd h J⟩
end
section
variable {t:Trace} {c:Sl Int} {p q:Pred}
def mL (t:Trace) (c:Sl Int) (p:Pred) (x:Int):Prop:=
 ∃A l i,KA t A c l/\eV t c=some (l,0)/\p.dp<=20/\qK t p/\p.kind<=8/\ND t c l p i true x
theorem E0 (u:oh p=true):p.dp<=20:=by
 simp only[oh,ζh,decide_eq_true_eq]at u;omega
theorem F_ (hS:Small t) (T:(bZ t).length<1073741824) (B:p.Sm) (c:Sl Int) :
 ∃x e,mz t c p=some (x,e)/\(e≠0->x=0)/\(e=0->mL t c p x):=by
 obtain⟨w,e,g,z⟩:=Ho hS T B c 1;unfold mz;rw[g,ζb];simp only
 by_cases h:e=0
 .subst h;obtain⟨A,l,rfl,C,O,D,L,hc,hk,S⟩:=z rfl;have hd:=E0 L;have u:p.kind<=8:=by
   unfold oN at hk
   by_cases h:p.kind<=8
   .exact h
   rw[if_neg h]at hk;cases hk
  obtain⟨i,ok,x,G⟩:=KR C p hc u;have I:og t p=some ok:=by
   show fH (λr (z:Trace×Pred)=>en z.1 z.2 r) 100000 (t,p)=_
   rw[fT Za]
   show en t p _=_;unfold en;rw[uN,ζb,hk,show ((1:Int)==1)=true from rfl,bT,show cC t p=some (i,ok)from(G.1 100000 Za).1];rfl
  have J:ok=true:=by
   cases ok with
   | true=>rfl
   | false=>
    exfalso;unfold kA at D;rw[C.hv,ζb,bT,tB B,L,ζb,ζb,show (!true)=false from rfl,bJ,xL hS B Za,hc.r,ζb,bT,yY B Za,hc.y,ζb,bT,I,ζb,bJ]at D
    cases D
  subst J;rw[show ((0:Int)==0)=true from rfl,bT,show cV ⟨t,c,l⟩ p=some x from(G.1 100000 Za).2]
  exact⟨x,0,rfl,λh=>absurd rfl h,λ_=>⟨A,l,i,C,O,hd,hc,u,G⟩⟩
 rw[show (e==0)=false from by simpa using h,bJ]
 exact⟨0,e,rfl,λ_=>rfl,λQ=>absurd Q h⟩
def sH (t:Trace) (c:Sl Int) (p:Pred) (x:Bool):Prop:=
 ∃l,eV t c=some (l,0)/\p.dp<=20/\∀n,p.dp<=n->xV n ⟨t,c,l⟩ p=some x
theorem B0 (hS:Small t) (D:(bZ t).length<1073741824) (G:p.Sm) (c:Sl Int) :
 ∃x e,kS t c p=some (x,e)/\(e≠0->x=false)/\(e=0->sH t c p x):=by
 obtain⟨w,e,g,z⟩:=Ho hS D G c 2;unfold kS;rw[g,ζb];simp only
 by_cases h:e=0
 .subst h;obtain⟨A,l,rfl,C,I,Q,J,hc,hk,L⟩:=z rfl;have hd:=E0 J;have u:9<=p.kind:=by
   unfold oN at hk
   by_cases h:p.kind<=8
   .rw[if_pos h]at hk;cases hk
   omega
  obtain⟨x,B⟩:=L1 C p hc u hd L;rw[show ((0:Int)==0)=true from rfl,bT,show dG ⟨t,c,l⟩ p=some x from B 100000 Za]
  exact⟨x,0,rfl,λh=>absurd rfl h,λ_=>⟨l,I,hd,B⟩⟩
 rw[show (e==0)=false from by simpa using h,bJ]
 exact⟨false,e,rfl,λ_=>rfl,λO=>absurd O h⟩
abbrev nd (k:Int) (L:List Pred):Pred:=⟨k,0,0,0,ByteArray.empty,.row L⟩
theorem Ni {k:Int} {L:List Pred} (h:∀q∈L,q.Sm) (u:L.length<1073741824):(nd k L).Sm:=by
 unfold Pred.Sm;rw[Pred.kR,ζh,List.all_eq_true];exact⟨decide_eq_true u,h⟩
theorem DQ (hS:Small t) (B:(bZ t).length<1073741824) {k want:Int} {L:List Pred} (D:(nd k L).Sm) (h:∀x,mL t c (nd k L) x->x=want) :
 eG k want (Sl.row L) t c (λz=>bz z.1 z.2)=some true:=by
 unfold eG;obtain⟨x,e,g,w,z⟩:=F_ hS B D c;show (bz k (Sl.row L)).bind _=_;rw[show bz k (Sl.row L)=some (nd k L)from rfl,ζb,g,ζb];simp only
 by_cases u:e=0
 .subst u;rw[h x (z rfl),show (want==want)=true from by simp]
  rfl
 rw[show (e==0)=false from by simpa using u,w u];rfl
theorem wI (hS:Small t) (B:(bZ t).length<1073741824) {k:Int} {want:Bool} {L:List Pred} (D:(nd k L).Sm) (h:∀x,sH t c (nd k L) x->x=want) :
 dB k want (Sl.row L) t c (λz=>bz z.1 z.2)=some true:=by
 unfold dB;obtain⟨x,e,g,w,z⟩:=B0 hS B D c;show (bz k (Sl.row L)).bind _=_;rw[show bz k (Sl.row L)=some (nd k L)from rfl,ζb,g,ζb];simp only
 by_cases u:e=0
 .subst u;rw[h x (z rfl),show (want==want)=true from by simp]
  rfl
 rw[show (e==0)=false from by simpa using u,w u];rfl
theorem PL {a x:Int} (hp:mL t c p a) (h:mL t c (nd 5 [p]) x):x=IntKind.wrap .i64 (0-a):=by
 obtain⟨A,l,i,O,C,hd,hc,hk,D⟩:=hp;obtain⟨Q,S,T,G,u,I,J,L,w⟩:=h;rw[C]at u;cases u;have e:=(D.1 (100000-1) Za).2
 have h:=(w.1 100000 Za).2
 unfold yp at e h;rw[fT Za]at h
 replace h:bP ⟨t,c,l⟩ (nd 5 [p]) _=some x:=h
 generalize fH (λr (z:br×Pred)=>bP z.1 z.2 r) (100000-1)=R at e h
 have B:((R (⟨t,c,l⟩,p)).bind λx=>some (IntKind.wrap .i64 (0-x)))=some x:=h
 rw[e]at B;exact(Option.some.inj B).symm
theorem BY {a b x k:Int} (hk:k=6\/k=7\/k=8) (hp:mL t c p a) (D:mL t c q b) (h:mL t c (nd k [p,q]) x):x=AY k a b:=by
 obtain⟨A,l,i,Q,C,hd,hc,-,G⟩:=hp;obtain⟨-,S,j,-,u,s7,-,-,I⟩:=D;obtain⟨T,U,W,J,w,L,O,-,B⟩:=h;rw[C]at w u;cases w;cases u;have e:=(G.1 (100000-1) Za).2
 have e1:=(I.1 (100000-1) Za).2
 have h:=(B.1 100000 Za).2
 unfold yp at e e1 h;rw[fT Za]at h
 replace h:bP ⟨t,c,l⟩ (nd k [p,q]) _=some x:=h
 generalize fH (λr (z:br×Pred)=>bP z.1 z.2 r) (100000-1)=R at e e1 h
 unfold bP at h;rw[show idx (nd k [p,q]).l 0=some p from rfl,show idx (nd k [p,q]).l 1=some q from rfl]at h;simp only[ζb,e,e1]at h;rcases hk with rfl|rfl|rfl <;> exact(Option.some.inj h).symm
theorem mL.No {a:Int} (hp:mL t c p a):-1125899906842624<=a/\a<=1125899906842624:=by
 obtain⟨A,l,i,w,z,hd,hc,-,u⟩:=hp;obtain⟨low,high,-,⟨-,h1,B⟩,C,D⟩:=u.2 rfl;omega
theorem PA {a b x:Int} (hp:mL t c p a) (T:mL t c q b) (h:mL t c (nd 8 [p,q]) x):-1125899906842624<=a*b/\a*b<=1125899906842624:=by
 obtain⟨A,l,i,hA,hl,hd,hc,-,I⟩:=hp;obtain⟨-,l1,j,-,S,s7,-,-,J⟩:=T;obtain⟨A',l',U,W,X,Y,Z,-,C⟩:=h;have e:=(I.1 (100000-1) Za).1
 have e1:=(J.1 (100000-1) Za).1
 have h:=(C.1 100000 Za).1
 obtain⟨low,high,rfl,hR,x1,x2⟩:=I.2 rfl;obtain⟨L,D,rfl,G,y1,y2⟩:=J.2 rfl;unfold z_ at e e1 h;rw[fT Za]at h
 replace h:cn t (nd 8 [p,q]) _=some (U,true):=h
 generalize fH (λr (z:Trace×Pred)=>cn z.1 z.2 r) (100000-1)=R at e e1 h
 obtain⟨w,u,w1,w3,w4⟩:=Aj (p:=nd 8 [p,q]) ⟨(by decide:(5:Int)<=8),(by decide:(8:Int)<=8)⟩ hR G ⟨x1,x2⟩ ⟨y1,y2⟩ ⟨0,0⟩ R
 unfold cn at h;rw[show idx (nd 8 [p,q]).l 0=some p from rfl,show idx (nd 8 [p,q]).l 1=some q from rfl,show (len (nd 8 [p,q]).l==0)=false from rfl,show (len (nd 8 [p,q]).l==2)=true from rfl]at h;simp only[bJ,bT,ζb,e,e1,w1]at h;have B:uk w u=true:=by
  have:=Option.some.inj h;exact congrArg Prod.snd this
 obtain⟨O,Q⟩:=w4 B;simp only[uk,ζh]at B;have o1:=of_decide_eq_true B.1;have o2:=of_decide_eq_true B.2;have O:w<=a*b:=O;have Q:a*b<=u:=Q;omega
theorem PF {a b m:Int} (h:-m<=a*b/\a*b<=m):(if 0-b>b then 0-b else b)*(if 0-a>a then 0-a else a)<=m:=by
 have e1:(0-b)*a=-(a*b):=by rw[Int.zero_sub,Int.neg_mul,Int.mul_comm]
 have e2:b*(0-a)=-(a*b):=by rw[Int.zero_sub,Int.mul_neg,Int.mul_comm]
 have e3:(0-b)*(0-a)=a*b:=by rw[Int.zero_sub,Int.zero_sub,Int.neg_mul_neg,Int.mul_comm]
 have e4:b*a=a*b:=Int.mul_comm _ _;split <;> split <;> omega
theorem Mm {a b:Int} (D:-1125899906842624<=a/\a<=1125899906842624) (G:-1125899906842624<=b/\b<=1125899906842624) :
 ∃y,(bn (a==0) (some true) ((sX .i64 1125899906842624 (if(IntKind.wrap .i64 (0-a))>a then(IntKind.wrap .i64 (0-a))else a)).bind λu=>
  some (decide ((if(IntKind.wrap .i64 (0-b))>b then(IntKind.wrap .i64 (0-b))else b)<=u))):Option Bool)=some y/\(-1125899906842624<=a*b/\a*b<=1125899906842624->y=true):=by
 by_cases w:a=0
 .subst w;exact⟨true,rfl,λ_=>rfl⟩
 rw[show (a==0)=false from by simpa using w,bJ,fh (0-b) Za Za,fh (0-a) Za Za]
 have z:0<(if 0-a>a then 0-a else a):=by split <;> omega
 unfold sX;rw[if_neg Za,ζb,Int.tdiv_eq_ediv_of_nonneg Za]
 have hd:(1125899906842624:Int) / (if 0-a>a then 0-a else a)<=1125899906842624:=Int.ediv_le_self _ Za
 have B:0<=(1125899906842624:Int) / (if 0-a>a then 0-a else a):=Int.ediv_nonneg Za Za
 rw[fh ((1125899906842624:Int) / (if 0-a>a then 0-a else a)) Za Za]
 exact⟨_,rfl,λh=>decide_eq_true ((Int.le_ediv_iff_mul_le z).2 (PF h))⟩
theorem zx {a b:Int} {x:Bool} {k:Int} (hp:mL t c p a) (D:mL t c q b) (h:sH t c (nd k [p,q]) x) :
 (k=9->x=(a==b))/\(k=10->x = !(a==b))/\(k=11->x=decide (a<b))/\(k=12->x=decide (a<=b)):=by
 obtain⟨A,l,i,L,C,hd,hc,-,G⟩:=hp;obtain⟨-,O,j,-,u,s7,-,-,I⟩:=D;obtain⟨Q,w,J,B⟩:=h;rw[C]at w u;cases w;cases u;have e:cV ⟨t,c,l⟩ p=some a:=(G.1 100000 Za).2
 have e1:cV ⟨t,c,l⟩ q=some b:=(I.1 100000 Za).2
 have h:=B 100000 Za
 unfold xV at h;rw[fT Za]at h
 replace h:bW ⟨t,c,l⟩ (nd k [p,q]) _=some x:=h
 generalize fH (λr (z:br×Pred)=>bW z.1 z.2 r) (100000-1)=R at h
 unfold bW at h;rw[show idx (nd k [p,q]).l 0=some p from rfl,show idx (nd k [p,q]).l 1=some q from rfl]at h;simp only[ζb,e,e1]at h;refine⟨?_,?_,?_,?_⟩ <;> rintro rfl <;> exact(Option.some.inj h).symm
theorem Pe {a x:Bool} (hp:sH t c p a) (h:sH t c (nd 15 [p]) x):x = !a:=by
 obtain⟨l,C,hd,D⟩:=hp;obtain⟨I,u,G,w⟩:=h;rw[C]at u;cases u;have e:=D (100000-1) Za
 have h:=w 100000 Za
 unfold xV at e h;rw[fT Za]at h
 replace h:bW ⟨t,c,l⟩ (nd 15 [p]) _=some x:=h
 generalize fH (λr (z:br×Pred)=>bW z.1 z.2 r) (100000-1)=R at e h
 have B:((R (⟨t,c,l⟩,p)).bind λx=>some (!x))=some x:=h
 rw[e]at B;exact(Option.some.inj B).symm
theorem Hj {a b x:Bool} {k:Int} (hp:sH t c p a) (D:sH t c q b) (h:sH t c (nd k [p,q]) x) :
 (k=16->x=(a&&b))/\(k=17->x=(a||b)):=by
 obtain⟨l,C,hd,G⟩:=hp;obtain⟨L,u,s7,I⟩:=D;obtain⟨O,w,J,B⟩:=h;rw[C]at w u;cases w;cases u;have e:=G (100000-1) Za
 have e1:=I (100000-1) Za
 have h:=B 100000 Za
 unfold xV at e e1 h;rw[fT Za]at h
 replace h:bW ⟨t,c,l⟩ (nd k [p,q]) _=some x:=h
 generalize fH (λr (z:br×Pred)=>bW z.1 z.2 r) (100000-1)=R at e e1 h
 unfold bW dG.J1 at h;rw[show idx (nd k [p,q]).l 0=some p from rfl,show idx (nd k [p,q]).l 1=some q from rfl]at h;simp only[ζb,e,e1]at h;refine⟨?_,?_⟩ <;> rintro rfl <;> cases a <;> exact(Option.some.inj h).symm
theorem KS (hS:Small t) (u:(bZ t).length<1073741824) (hp:p.Sm) (J:q.Sm):dJ t c p q=some true:=by
 obtain⟨bg,O⟩:=PI hS;obtain⟨hg,Q⟩:=Ec hp;obtain⟨S,G⟩:=Ec J;unfold dJ;rw[show ug=some true from rfl,ζb,bT,O,ζb,Q,ζb,G,ζb]
 cases bg with
 | true=>rfl
 | false=>
 cases hg with
 | true=>rfl
 | false=>
 cases S with
 | true=>rfl
 | false=>
 rw[bJ,ζb,bJ,ζb,bJ,ζb]
 cases decide (len c>20)with
 | true=>rfl
 | false=>
 rw[bJ];have X:∀k,(nd k [p]).Sm:=λk=>Ni (λr h=>by simp only[List.mem_singleton]at h;subst h;exact hp) Zc
 have B:∀k,(nd k [p,q]).Sm:=λk=>Ni (λr h=>(List.mem_cons.1 h).elim (λh=>h▸hp) λh=>by simp only[List.mem_singleton]at h;subst h;exact J) Zc
 obtain⟨a,e,g1,-,z1⟩:=F_ hS u hp c;obtain⟨b,f,g2,-,z2⟩:=F_ hS u J c;rw[g1,ζb,g2,ζb];simp only
 by_cases h:e=0/\f=0
 .obtain⟨rfl,rfl⟩:=h;have z:=z1 rfl;have C:=z2 rfl;rw[show ((0:Int)==0)=true from rfl,bT,ζb,bT];obtain⟨y,L,T⟩:=Mm z.No C.No;rw[L,ζb];have Y:∀w,(∀x,mL t c (nd 8 [p,q]) x->x=w)->dJ.J1 a b (IntKind.wrap .i64 (a+b)) w t c p q=some true:=by
   intro w hw;unfold dJ.J1;rw[DQ hS u (X 5) λx h=>PL z h,DQ hS u (B 6) λx h=>show x=IntKind.wrap .i64 (a+b)from BY (.inl rfl) z C h,DQ hS u (B 7) λx h=>show x=IntKind.wrap .i64 (a-b)from BY (.inr (.inl rfl)) z C h,DQ hS u (B 8) hw,
    wI hS u (B 9) λx h=>(zx z C h).1 rfl,wI hS u (B 10) λx h=>(zx z C h).2.1 rfl,wI hS u (B 11) λx h=>(zx z C h).2.2.1 rfl,wI hS u (B 12) λx h=>(zx z C h).2.2.2 rfl]
   rfl
  cases y with
  | true=>
   rw[bT];exact Y _ λx h=>BY (.inr (.inr rfl)) z C h
  | false=>
   rw[bJ];exact Y _ λx h=>by cases T (PA z C h)
 have hc:(bn (e==0) (some (f==0)) (some false):Option Bool)=some false:=by
  cases D:e==0 with
  | false=>rfl
  | true=>
   rw[bT,show (f==0)=false from by
    rw[beq_eq_false_iff_ne];intro I;exact h ⟨by simpa using D,I⟩]
 rw[hc,ζb,bJ];obtain⟨x,U,g3,-,z3⟩:=B0 hS u hp c;obtain⟨y,Z,g4,-,z4⟩:=B0 hS u J c;rw[g3,ζb,g4,ζb];simp only
 by_cases D:U=0
 .by_cases I:Z=0
  .have W:=z3 D;have L:=z4 I;subst D I;rw[show ((0:Int)==0)=true from rfl,bT,show (!true)=false from rfl,ζb,bJ,wI hS u (X 15) λ_ h=>Pe W h,ζb,bT]
   have k1:(bn x (some y) (some false):Option Bool)=some (x&&y):=by cases x <;> rfl
   have k2:(bn x (some true) (some y):Option Bool)=some (x||y):=by cases x <;> rfl
   rw[k1,k2,ζb,wI hS u (B 16) λ_ h=>(Hj W L h).1 rfl,ζb,ζb,bT,ζb,wI hS u (B 17) λ_ h=>(Hj W L h).2 rfl]
   rfl
  rw[show (U==0)=true from by simpa using D,show (Z==0)=false from by simpa using I];rfl
 rw[show (U==0)=false from by simpa using D];rfl
end
end Go.VE
namespace Go.VE
theorem yU {α:Type} [bU α] {x:α}:∀{l:List α},x∈l->bU.wt x<=(l.map bU.wt).sum
 | y::l,h=>by
  simp only[List.map_cons,List.sum_cons];rcases List.mem_cons.1 h with rfl|h
  .omega
  have:=yU h;omega
theorem uq {α:Type} [bU α] (h:∀x:α,1<=bU.wt x):∀(l:List α),l.length<=(l.map bU.wt).sum
 | []=>Nat.le_refl _
 | y::l=>by
  simp only[List.map_cons,List.sum_cons,List.length_cons];have:=uq h l;have:=h y;omega
theorem zu {α:Type} [bU α] (s:Sl α):bU.wt s=(s.l.map bU.wt).sum+1:=rfl
theorem zS (p:Int):∀(es:List Event) (j:Int),(js p j es).length=es.length
 | [],_=>rfl
 | _::es,j=>by simp only[js,List.length_cons,zS p es]
theorem FF:∀(ps:List bS) (i:Int),(fN i ps).length<=(ps.map bU.wt).sum
 | [],_=>Nat.le_refl _
 | p::ps,i=>by
  simp only[fN,ζi,zS,List.map_cons,List.sum_cons];have h1:=FF ps (i+1);have u:=uq (α:=Event) (λx=>Nat.le_add_left ..) p.events.l
  have w:bU.wt p=bU.wt p.name+bU.wt p.vars+bU.wt p.events+1:=rfl;have z:=zu p.events;omega
theorem Lq {t:Trace} (h:bU.wt t<=1048576):Small t/\(bZ t).length<1073741824:=by
 have D:bU.wt t=bU.wt t.procs+1:=rfl;have h1:=zu t.procs;have G:=uq (α:=bS) (λx=>Nat.le_add_left ..) t.procs.l
 have I:=FF t.procs.l 0;refine⟨⟨by omega,λp u=>?_⟩,by show (fN 0 t.procs.l).length<_;omega⟩
 have J:=yU u;have L:bU.wt p=bU.wt p.name+bU.wt p.vars+bU.wt p.events+1:=rfl;have O:=zu p.events;have Q:=zu p.vars;have S:=uq (α:=Event) (λx=>Nat.le_add_left ..) p.events.l
 have T:=uq (α:=Var) (λx=>Nat.le_add_left ..) p.vars.l
 have w:bU.wt p.name=p.name.size+1:=rfl;refine⟨by omega,by omega,by omega,λv hv=>?_,λe z=>?_⟩
 .have k1:=yU hv;have B:bU.wt v=bU.wt v.name+bU.wt v.init_+1:=rfl;have C:bU.wt v.name=v.name.size+1:=rfl;omega
 have k1:=yU z;have B:bU.wt e=bU.wt e.kind+bU.wt e.peer+bU.wt e.message+bU.wt e.time+bU.wt e.assign+1:=rfl;have C:=zu e.assign;have U:=uq (α:=Assign) (λx=>Nat.le_add_left ..) e.assign.l
 omega
theorem NB (p:Pred):bU.wt p<=1048576->p.Sm:=by
 induction p using Pred.ind with
 | h p z=>
  intro h;have u:∃m,bU.wt p=m+Pred.NX p.l+1:=by cases p;exact⟨_,rfl⟩
  obtain⟨m,u⟩:=u;have h1:=Pred.Sx p.l;have B:=zu p.l;have C:=uq (α:=Pred) (λx=>by cases x;exact Nat.le_add_left ..) p.l.l
  unfold Pred.Sm;rw[p.kR,ζh,List.all_eq_true];refine⟨decide_eq_true Za,λq w=>z q w ?_⟩
  have:=yU w;omega
end Go.VE
namespace Go.Proofs.YtlmckmkfopljoaaGreatDoor
open Go.ChangeShapes Go.WideShapes Go.ChangeAt Go.RowKit Go.VE
theorem own:ownKnob Tryz.prog.godebug=none:=by kernel_rfl
theorem kids:Kids Tryz.prog (·<Tryz.prog.types.size):=kids_rows Zf Zf
theorem full:∀t e,t<Tryz.prog.types.size->Tryz.prog.underlying t=some (.slice e)->0<Tryz.prog.cellsOf e:=slices_full_of Tryz.prog Zf
theorem vH {H:Type}:∀l:List (DataW H),Rows.uptoBulkAll l=(l.map Rows.uptoBulk).sum
 | []=>by simp[Rows.uptoBulkAll]
 | d::r=>by simp[Rows.uptoBulkAll,vH r]
theorem BI {H:Type}:qz (H:=H) Rows.uptoBulk where
 lit l:=by cases l <;> simp[Rows.uptoBulk]
 str s:=by simp[Rows.uptoBulk]
 nil:=by simp[Rows.uptoBulk]
 slice es u:=by rw[Rows.uptoBulk,vH,vH];omega
 agg w:=by rw[Rows.uptoBulk,vH];exact Nat.le_refl _
theorem I6:Tryz.prog.globalNamed "antecede/predtype.parts" = some 0:=by kernel_rfl
theorem M3:(Tryz.prog.globals[0]?).map (·.type)=some 183:=by kernel_rfl
theorem table {W:World} (h:laidMetH Tryz.prog Rows.evaluatePartsUptoRow.laid W):Lib.TabIs Tryz.prog W "antecede/predtype.parts" .i64 Bx:=
 Lib.tabIs_of_head (rest:=[]) I6 M3 Tryz.underlying183 Tryz.underlying3 Zf Zf h
theorem RT {W:World} (h:laidMetH Tryz.prog Rows.evaluatePartsUptoRow.laid W):rW (snap W):=λg cs hg=>by
 change (if Nat.beq g 0 then some (Bx.map (V.int .i64))else none)=some cs at hg;split at hg
 next u=>cases hg;have:g=0:=Nat.eq_of_beq_eq_true u;subst this;exact M6 (λi hi=>(table h).cell I6 i hi) (by decide)
 cases hg
set_option maxRecDepth 100000 in
theorem Gt (H:Type) (enc:TypeId×Value->H) (W:World) (base:Nat) (args:Array Value) (ds gs:List (DataW H)) (before:List MemPlace)
 (u:∀(j:Nat) t v,Tryz.f4.params[j]? = some t->args[j]? = some v->Value.okWide Tryz.prog W .any base t v)
 (J:DataW.Whole enc Tryz.prog Tryz.f4.params.toList Rows.evaluatePartsSpec.vars false W args.toList ds gs before) (hk:Rows.uptoSmall H (ds++gs)=true) (Y:laidMetH Tryz.prog Rows.evaluatePartsUptoRow.laid W) :
 Calls Tryz.prog 4 args W λe T=>∃v,e=.returned v/\Rows.evaluatePartsSpec.post enc Tryz.prog Tryz.f4 false true false false W args v T:=by
 have D:=J;obtain⟨p,q,G,hV,rfl,Z,aa⟩:=J;have L:DataW.TrodAll enc Tryz.prog W 0 (λ_=>true) true Tryz.f4.params.toList args.toList ds p:=G
 rw[Tryz.params4]at L u;obtain⟨O,ab,d0,ad,p0,q0,I,rfl,rfl,h0,r0⟩:=trodAll_cons L;obtain⟨Q,ae,d1,af,p1,q1,rfl,rfl,rfl,h1,r1⟩:=trodAll_cons r0;obtain⟨S,ah,d2,ai,p2,q2,rfl,rfl,rfl,h2,r2⟩:=trodAll_cons r1;obtain⟨U,aj,d3,ak,p3,q3,rfl,rfl,rfl,h3,r3⟩:=trodAll_cons r2;obtain⟨rfl,rfl,rfl⟩:=trodAll_nil r3;obtain rfl:args=#[O,Q,S,U]:=by cases args;simp_all
 obtain⟨rfl,rfl⟩:=trodVars_none hV;obtain⟨a0,w0,k0,b0⟩:=Reads.DT (t:=24) (α:=VE.Trace) u 0 rfl rfl h0;obtain⟨z,w1,k1,b1⟩:=Reads.DT (t:=25) (α:=Sl Int) u 1 rfl rfl h1;obtain⟨B,w2,k2,b2⟩:=Reads.DT (t:=28) (α:=VE.Pred) u 2 rfl rfl h2;obtain⟨C,w3,k3,b3⟩:=Reads.DT (t:=28) (α:=VE.Pred) u 3 rfl rfl h3;have hb:bU.wt a0+bU.wt z+bU.wt B+bU.wt C<=1048576:=by
  have c0:=b0 Rows.uptoBulk BI;have c1:=b1 Rows.uptoBulk BI;have c2:=b2 Rows.uptoBulk BI;have c3:=b3 Rows.uptoBulk BI;have X:Rows.uptoBulkAll ([d0,d1,d2,d3]++[])<=1048576:=of_decide_eq_true hk;rw[vH]at X;simp only[List.append_nil,List.map_cons,List.map_nil,List.sum_cons,List.sum_nil]at X;omega
 obtain⟨hS,hN⟩:=Lq (t:=a0) Za
 have hc:iQ cL 4 [VE.enc a0,VE.enc z,VE.enc B,VE.enc C]=some [.bool true]:=by
  have hl:(dJ a0 z B C).bind (λr:Bool=>some [V.bool r])=some [.bool true]:=by rw[KS (t:=a0) (c:=z) hS hN (NB B Za) (NB C Za)];rfl
  exact(u7 a0 z B C).F.h () _ hl
 have:=HZ (P:=Tryz.prog) R_ Pp calls (f:=4) (xs:=[VE.enc a0,VE.enc z,VE.enc B,VE.enc C]) (by simp[V.cH,V.good,lK]) hc (w:=W) (args:=#[O,Q,S,U]) (RT Y) (cz.cons w0 (cz.cons w1 (cz.cons w2 (cz.cons w3 .nil))))
 refine this.mono λe T ⟨he,hg⟩=>?_
 subst he;exact⟨_,rfl,JC kids full (by rw[Tryz.params4];decide) rfl rfl rfl Tryz.underlying4 D hg⟩
noncomputable def yh (os:Os):World:=
 { World.holding Tryz.prog os ⟨#[],#[],[]⟩with heap:=(World.holding Tryz.prog os ⟨#[],#[],[]⟩).heap.modify 0 fun
  | .cells _ t frozen=>.cells (Bx.map (Value.int .i64)).toArray t frozen
  | o=>o }
theorem MV (os:Os):laidMet Tryz.prog Rows.evaluatePartsUptoRow.laid ((yh os).forCall (λ_ _=>0) ⟨#[],#[.agg #[.slice none 0 0],.slice none 0 0,.agg #[.int .i64 0,.int .i64 0,.int .i64 0,.int .i64 0,.string ByteArray.empty,.slice none 0 0],.agg #[.int .i64 0,.int .i64 0,.int .i64 0,.int .i64 0,.string ByteArray.empty,.slice none 0 0]],[]⟩).memory:=
 laidMet_of_run' 8 Zf Zf
theorem Mw (os:Os) {H:Type} (enc:TypeId×Value->H):∃places,DataW.whole enc Tryz.prog ((yh os).forCall (λ_ _=>0) ⟨#[],#[.agg #[.slice none 0 0],.slice none 0 0,.agg #[.int .i64 0,.int .i64 0,.int .i64 0,.int .i64 0,.string ByteArray.empty,.slice none 0 0],.agg #[.int .i64 0,.int .i64 0,.int .i64 0,.int .i64 0,.string ByteArray.empty,.slice none 0 0]],[]⟩).memory Tryz.f4.params.toList Rows.evaluatePartsSpec.vars false (#[.agg #[.slice none 0 0],.slice none 0 0,.agg #[.int .i64 0,.int .i64 0,.int .i64 0,.int .i64 0,.string ByteArray.empty,.slice none 0 0],.agg #[.int .i64 0,.int .i64 0,.int .i64 0,.int .i64 0,.string ByteArray.empty,.slice none 0 0]]:Array Value).toList 8=some ([.agg [.nil],.nil,.agg [.lit (.int .i64 0),.lit (.int .i64 0),.lit (.int .i64 0),.lit (.int .i64 0),.lit (.string []),.nil],.agg [.lit (.int .i64 0),.lit (.int .i64 0),.lit (.int .i64 0),.lit (.int .i64 0),.lit (.string []),.nil]],[],places):=
 ⟨[],by kernel_rfl⟩
set_option maxRecDepth 100000 in
theorem KV (os:Os) (u:os.Started) (H:Type) (enc:TypeId×Value->H) (F:Stop.Interp) :
 ReturnsInHanded {} Tryz.checked os 4 .any ((Rows.OpenSpec.upto Rows.evaluatePartsSpec).preRow enc Tryz.prog Tryz.f4 Rows.evaluatePartsUptoRow.domain false Rows.evaluatePartsUptoRow.laid) (((Rows.OpenSpec.upto Rows.evaluatePartsSpec).at F).post enc Tryz.prog Tryz.f4 false true false false):=by
 obtain⟨places,B⟩:=Mw os enc;refine returnsInHanded_of_row (C:=Tryz.checked) (s:=Rows.OpenSpec.upto Rows.evaluatePartsSpec) own u Zf Tryz.func4
  (witness_row_at (enc:=enc) (C:=Tryz.checked) false (yh os) #[.agg #[.slice none 0 0],.slice none 0 0,.agg #[.int .i64 0,.int .i64 0,.int .i64 0,.int .i64 0,.string ByteArray.empty,.slice none 0 0],.agg #[.int .i64 0,.int .i64 0,.int .i64 0,.int .i64 0,.string ByteArray.empty,.slice none 0 0]] rfl Zf Zf Zf
   (OpenSpec.preRow_of_cond 8 B Zf (λk hk=>by cases hk;kernel_rfl) Zf (MV os))) ?_
 intro W base args ds gs before z D _ w _ G _ _;exact Gt H enc W base args ds gs before z D (w _ rfl) G
theorem Od:Rows.EvaluatePartsUptoSaid:=
 OpenClaim.holds_of_cond 4 Tryz.f4 rfl rfl rfl rfl rfl rfl rfl ⟨rfl,rfl,rfl,rfl,rfl⟩ rfl rfl rfl rfl rfl Zf Tryz.func4 Zf
  (of_decide_eq_true Zf) (by unfold Func.isWrapper;first|(rw[if_pos (by decide +kernel)];kernel_rfl)|(rw[if_neg (by decide +kernel)];exact⟨rfl,rfl⟩))
  (λos u H enc _ F=>by rw[OpenClaim.pre_eq_preRow];exact KV os u H enc F)
theorem Mp (f:FuncId) (fn:Func) (D:Tryz.pinned.checked.prog.funcNamed "antecede/antecedelaw29.EvaluateParts" = some f) (z:Tryz.pinned.checked.prog.funcs[f]? = some fn) :
 false=Tryz.pinned.checked.prog.looks []/\∀(j:Nat) t,fn.params[j]? = some t->Tryz.pinned.checked.prog.wantsStandIn t=false:=by
 obtain rfl:f=4:=Option.some.inj ((show Tryz.prog.funcNamed "antecede/antecedelaw29.EvaluateParts" = some 4 by kernel_rfl).symm.trans D) |>.symm
 obtain rfl:fn=Tryz.f4:=(Option.some.inj (Tryz.func4.symm.trans z)).symm;refine⟨by kernel_rfl,λj t B=>?_⟩
 rw[Tryz.params4]at B;have C:t∈[24,25,28,28]:=by simpa using Array.mem_of_getElem? B
 have w:([24,25,28,28].all λu => !Tryz.prog.wantsStandIn u)=true:=by kernel_rfl
 exact(show Tryz.prog.wantsStandIn t=false by simpa using List.all_eq_true.1 w t C)
theorem evaluatePartsProved:Rows.EvaluatePartsUptoCardSaid:=
 Claim7.holds_tied_plain_at .later [] _ _ _ _ Od (λ_ h=>by cases h) Zf (λ_ h=>by cases h) evaluatePartsUpto_row_tie rfl ⟨rfl,rfl⟩ Zf rfl Mp Zf
#print axioms evaluatePartsProved
end Go.Proofs.YtlmckmkfopljoaaGreatDoor
