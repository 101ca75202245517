/-
 The law in plain Lean, and the join.
-/
import Derived.Test.YtlmckmkfopljoaaGreatDoorK1
import Derived.Test.YtlmckmkfopljoaaGreatDoorG1
set_option linter.all false
namespace Go.VE
instance:cm Var where
 wt x:=cm.wt x.name+cm.wt x.init_+1
 ok x:=cm.ok x.name/\cm.ok x.init_/\True
instance:cm Assign where
 wt x:=cm.wt x.var+cm.wt x.value+1
 ok x:=cm.ok x.var/\cm.ok x.value/\True
instance:cm Event where
 wt x:=cm.wt x.kind+cm.wt x.peer+cm.wt x.message+cm.wt x.time+cm.wt x.assign+1
 ok x:=cm.ok x.kind/\cm.ok x.peer/\cm.ok x.message/\cm.ok x.time/\cm.ok x.assign/\True
instance:cm bT where
 wt x:=cm.wt x.name+cm.wt x.vars+cm.wt x.events+1
 ok x:=cm.ok x.name/\cm.ok x.vars/\cm.ok x.events/\True
instance:cm Trace where
 wt x:=cm.wt x.procs+1
 ok x:=cm.ok x.procs/\True
instance:cm bS where
 wt x:=cm.wt x.low+cm.wt x.high+1
 ok x:=cm.ok x.low/\cm.ok x.high/\True
instance:cm bC where
 wt x:=cm.wt x.t+cm.wt x.counts+cm.wt x.values+1
 ok x:=cm.ok x.t/\cm.ok x.counts/\cm.ok x.values/\True
mutual
def Pred.V7:Pred->Nat
 | ⟨f0,f1,f2,f3,B,f5⟩=>cm.wt f0+cm.wt f1+cm.wt f2+cm.wt f3+cm.wt B+Pred.QG f5+1
def Pred.QG:Sl Pred->Nat
 | .nil=>1
 | .emp=>1
 | .row l=>Pred.GY l+1
 | .part l=>Pred.GY l+1
def Pred.GY:List Pred->Nat
 | []=>0
 | x::r=>Pred.V7 x+Pred.GY r
end
mutual
def Pred.Wn:Pred->Prop
 | ⟨f0,f1,f2,f3,B,f5⟩=>cm.ok f0/\cm.ok f1/\cm.ok f2/\cm.ok f3/\cm.ok B/\Pred.Wd f5/\True
def Pred.Wd:Sl Pred->Prop
 | .nil=>True
 | .emp=>False
 | .row l=>Pred.QE l
 | .part l=>Pred.QE l
def Pred.QE:List Pred->Prop
 | []=>True
 | x::r=>Pred.Wn x/\Pred.QE r
end
instance:cm Pred where
 wt:=Pred.V7
 ok:=Pred.Wn
theorem Pred.DY:∀l:List Pred,Pred.GY l=(l.map cm.wt).sum
 | []=>rfl
 | x::r=>by simp only[Pred.GY,List.map_cons,List.sum_cons,Pred.DY r];rfl
theorem Pred.Wa (s:Sl Pred):Pred.QG s=cm.wt s:=by
 cases s with
 | nil=>rfl
 | emp=>rfl
 | row l=>show Pred.GY l+1=(l.map cm.wt).sum+1;rw[Pred.DY]
 | part l=>show Pred.GY l+1=(l.map cm.wt).sum+1;rw[Pred.DY]
theorem Pred.Ee:∀l:List Pred,(∀x∈l,cm.ok x)->Pred.QE l
 | [],_=>trivial
 | x::r,h=>⟨h x (List.mem_cons_self ..),Pred.Ee r λy B=>h y (List.mem_cons_of_mem _ B)⟩
theorem Pred.WT (s:Sl Pred) (h:cm.ok s):Pred.Wd s:=by
 cases s with
 | nil=>trivial
 | emp=>exact h.2 rfl
 | row l=>exact Pred.Ee l h.1
 | part l=>exact Pred.Ee l h.1
end Go.VE
namespace Go.VE.YtlmckmkfopljoaaGreatDoor
open Go.Proofs Go.Proofs.YtlmckmkfopljoaaGreatDoor
instance Xz:Reads Tryz.prog 9 ByteArray:=Reads.str Tryz.underlying9 (by kernel_rfl)
instance Xy:Reads Tryz.prog 3 Int:=Reads.int Tryz.underlying3 (by kernel_rfl)
instance Xl:Reads Tryz.prog 116 Var:=by
 refine Reads.st Tryz.underlying116 (by kernel_rfl) rfl ?_
 intro H enc w base spare held u cs l I h;simp only[List.mapM_cons,List.mapM_nil,Option.pure_def,Option.bind_eq_bind,ζg,ζa]at h;obtain⟨z,h0,J,⟨A,h1,L,rfl,rfl⟩,rfl⟩:=h;obtain⟨a0,B,k0,O⟩:=Reads.rd (P:=Tryz.prog) (t:=9) (α:=ByteArray) (d:=z.1) (ps:=z.2) h0;rw[show Tryz.prog.cellsOf 9=1 from by kernel_rfl]at B
 obtain⟨C,D,k1,Q⟩:=Reads.rd (P:=Tryz.prog) (t:=3) (α:=Int) (d:=A.1) (ps:=A.2) h1;rw[show Tryz.prog.cellsOf 3=1 from by kernel_rfl]at D
 refine⟨⟨a0,C⟩,eW.fin (n:=2) (eW.seg (o:=1) (n:=1) (eW.seg (o:=0) (n:=1) (show eW (snap w) [] (cs.take 0)from by simpa using eW.nil) B) D) I,⟨k0,k1,trivial⟩,λb G=>?_⟩
 have S:=O b G;have T:=Q b G;show cm.wt a0+cm.wt C+1<=_;simp only[List.map_cons,List.map_nil,List.sum_cons,List.sum_nil];omega
instance Xm:Reads Tryz.prog 46 (Sl Var):=Reads.sl (e:=116) Tryz.underlying46 (by kernel_rfl) (by decide)
instance Xj:Reads Tryz.prog 114 Assign:=by
 refine Reads.st Tryz.underlying114 (by kernel_rfl) rfl ?_
 intro H enc w base spare held u cs l I h;simp only[List.mapM_cons,List.mapM_nil,Option.pure_def,Option.bind_eq_bind,ζg,ζa]at h;obtain⟨z,h0,J,⟨A,h1,L,rfl,rfl⟩,rfl⟩:=h;obtain⟨a0,B,k0,O⟩:=Reads.rd (P:=Tryz.prog) (t:=3) (α:=Int) (d:=z.1) (ps:=z.2) h0;rw[show Tryz.prog.cellsOf 3=1 from by kernel_rfl]at B
 obtain⟨C,D,k1,Q⟩:=Reads.rd (P:=Tryz.prog) (t:=3) (α:=Int) (d:=A.1) (ps:=A.2) h1;rw[show Tryz.prog.cellsOf 3=1 from by kernel_rfl]at D
 refine⟨⟨a0,C⟩,eW.fin (n:=2) (eW.seg (o:=1) (n:=1) (eW.seg (o:=0) (n:=1) (show eW (snap w) [] (cs.take 0)from by simpa using eW.nil) B) D) I,⟨k0,k1,trivial⟩,λb G=>?_⟩
 have S:=O b G;have T:=Q b G;show cm.wt a0+cm.wt C+1<=_;simp only[List.map_cons,List.map_nil,List.sum_cons,List.sum_nil];omega
instance Xt:Reads Tryz.prog 49 (Sl Assign):=Reads.sl (e:=114) Tryz.underlying49 (by kernel_rfl) (by decide)
instance Xn:Reads Tryz.prog 51 Event:=by
 refine Reads.st Tryz.underlying51 (by kernel_rfl) rfl ?_
 intro H enc w base spare held z cs l U h;simp only[List.mapM_cons,List.mapM_nil,Option.pure_def,Option.bind_eq_bind,ζg,ζa]at h;obtain⟨A,h0,W,⟨B,h1,X,⟨x2,Y,Z,⟨C,h3,aa,⟨x4,h4,ab,rfl,rfl⟩,rfl⟩,rfl⟩,rfl⟩,rfl⟩:=h;obtain⟨a0,D,k0,b0⟩:=Reads.rd (P:=Tryz.prog) (t:=3) (α:=Int) (d:=A.1) (ps:=A.2) h0;rw[show Tryz.prog.cellsOf 3=1 from by kernel_rfl]at D
 obtain⟨G,I,k1,b1⟩:=Reads.rd (P:=Tryz.prog) (t:=3) (α:=Int) (d:=B.1) (ps:=B.2) h1;rw[show Tryz.prog.cellsOf 3=1 from by kernel_rfl]at I
 obtain⟨J,L,k2,b2⟩:=Reads.rd (P:=Tryz.prog) (t:=3) (α:=Int) (d:=x2.1) (ps:=x2.2) Y;rw[show Tryz.prog.cellsOf 3=1 from by kernel_rfl]at L
 obtain⟨O,Q,k3,b3⟩:=Reads.rd (P:=Tryz.prog) (t:=3) (α:=Int) (d:=C.1) (ps:=C.2) h3;rw[show Tryz.prog.cellsOf 3=1 from by kernel_rfl]at Q
 obtain⟨S,T,k4,b4⟩:=Reads.rd (P:=Tryz.prog) (t:=49) (α:=(Sl Assign)) (d:=x4.1) (ps:=x4.2) h4;rw[show Tryz.prog.cellsOf 49=1 from by kernel_rfl]at T
 refine⟨⟨a0,G,J,O,S⟩,eW.fin (n:=5) (eW.seg (o:=4) (n:=1) (eW.seg (o:=3) (n:=1) (eW.seg (o:=2) (n:=1) (eW.seg (o:=1) (n:=1) (eW.seg (o:=0) (n:=1) (show eW (snap w) [] (cs.take 0)from by simpa using eW.nil) D) I) L) Q) T) U,⟨k0,k1,k2,k3,k4,trivial⟩,λb u=>?_⟩
 have w0:=b0 b u;have w1:=b1 b u;have w2:=b2 b u;have w3:=b3 b u;have w4:=b4 b u;show cm.wt a0+cm.wt G+cm.wt J+cm.wt O+cm.wt S+1<=_;simp only[List.map_cons,List.map_nil,List.sum_cons,List.sum_nil];omega
instance Xv:Reads Tryz.prog 45 (Sl Event):=Reads.sl (e:=51) Tryz.underlying45 (by kernel_rfl) (by decide)
instance Xw:Reads Tryz.prog 48 bT:=by
 refine Reads.st Tryz.underlying48 (by kernel_rfl) rfl ?_
 intro H enc w base spare held z cs l L h;simp only[List.mapM_cons,List.mapM_nil,Option.pure_def,Option.bind_eq_bind,ζg,ζa]at h;obtain⟨A,h0,O,⟨B,h1,Q,⟨x2,S,T,rfl,rfl⟩,rfl⟩,rfl⟩:=h;obtain⟨a0,C,k0,U⟩:=Reads.rd (P:=Tryz.prog) (t:=9) (α:=ByteArray) (d:=A.1) (ps:=A.2) h0;rw[show Tryz.prog.cellsOf 9=1 from by kernel_rfl]at C
 obtain⟨D,G,k1,W⟩:=Reads.rd (P:=Tryz.prog) (t:=46) (α:=(Sl Var)) (d:=B.1) (ps:=B.2) h1;rw[show Tryz.prog.cellsOf 46=1 from by kernel_rfl]at G
 obtain⟨I,J,X,Y⟩:=Reads.rd (P:=Tryz.prog) (t:=45) (α:=(Sl Event)) (d:=x2.1) (ps:=x2.2) S;rw[show Tryz.prog.cellsOf 45=1 from by kernel_rfl]at J
 refine⟨⟨a0,D,I⟩,eW.fin (n:=3) (eW.seg (o:=2) (n:=1) (eW.seg (o:=1) (n:=1) (eW.seg (o:=0) (n:=1) (show eW (snap w) [] (cs.take 0)from by simpa using eW.nil) C) G) J) L,⟨k0,k1,X,trivial⟩,λb u=>?_⟩
 have Z:=U b u;have w1:=W b u;have w2:=Y b u;show cm.wt a0+cm.wt D+cm.wt I+1<=_;simp only[List.map_cons,List.map_nil,List.sum_cons,List.sum_nil];omega
instance Xp:Reads Tryz.prog 22 (Sl bT):=Reads.sl (e:=48) Tryz.underlying22 (by kernel_rfl) (by decide)
instance Xx:Reads Tryz.prog 24 Trace:=by
 refine Reads.st Tryz.underlying24 (by kernel_rfl) rfl ?_
 intro H enc w base spare held u cs l B h;simp only[List.mapM_cons,List.mapM_nil,Option.pure_def,Option.bind_eq_bind,ζg,ζa]at h;obtain⟨z,h0,C,rfl,rfl⟩:=h;obtain⟨a0,A,k0,D⟩:=Reads.rd (P:=Tryz.prog) (t:=22) (α:=(Sl bT)) (d:=z.1) (ps:=z.2) h0;rw[show Tryz.prog.cellsOf 22=1 from by kernel_rfl]at A
 refine⟨⟨a0⟩,eW.fin (n:=1) (eW.seg (o:=0) (n:=1) (show eW (snap w) [] (cs.take 0)from by simpa using eW.nil) A) B,⟨k0,trivial⟩,λb G=>?_⟩
 have I:=D b G;show cm.wt a0+1<=_;simp only[List.map_cons,List.map_nil,List.sum_cons,List.sum_nil];omega
instance Xs:Reads Tryz.prog 25 (Sl Int):=Reads.sl (e:=3) Tryz.underlying25 (by kernel_rfl) (by decide)
theorem Ub:∀B,rI Tryz.prog 28 Pred B:=by
 intro B
 induction B using Nat.strongRecOn with
 | ind B X=>
 cases B with
 | zero=>intro H enc w base spare held cs d ps h;simp[DataW.trod]at h
 | succ B=>
 refine rI.st Tryz.underlying28 (by kernel_rfl) ?_
 intro H enc w base spare held cs l Y h;simp only[List.mapM_cons,List.mapM_nil,Option.pure_def,Option.bind_eq_bind,ζg,ζa]at h;obtain⟨A,h0,Z,⟨C,h1,aa,⟨x2,h2,ab,⟨D,h3,ad,⟨x4,h4,ae,⟨x5,h5,af,rfl,rfl⟩,rfl⟩,rfl⟩,rfl⟩,rfl⟩,rfl⟩:=h;obtain⟨a0,G,k0,b0⟩:=Reads.rd (P:=Tryz.prog) (t:=3) (α:=Int) (d:=A.1) (ps:=A.2) h0;rw[show Tryz.prog.cellsOf 3=1 from by kernel_rfl]at G
 obtain⟨I,J,k1,b1⟩:=Reads.rd (P:=Tryz.prog) (t:=3) (α:=Int) (d:=C.1) (ps:=C.2) h1;rw[show Tryz.prog.cellsOf 3=1 from by kernel_rfl]at J
 obtain⟨L,O,k2,b2⟩:=Reads.rd (P:=Tryz.prog) (t:=3) (α:=Int) (d:=x2.1) (ps:=x2.2) h2;rw[show Tryz.prog.cellsOf 3=1 from by kernel_rfl]at O
 obtain⟨Q,S,k3,b3⟩:=Reads.rd (P:=Tryz.prog) (t:=3) (α:=Int) (d:=D.1) (ps:=D.2) h3;rw[show Tryz.prog.cellsOf 3=1 from by kernel_rfl]at S
 obtain⟨T,U,k4,b4⟩:=Reads.rd (P:=Tryz.prog) (t:=9) (α:=ByteArray) (d:=x4.1) (ps:=x4.2) h4;rw[show Tryz.prog.cellsOf 9=1 from by kernel_rfl]at U
 obtain⟨W,z,k5,b5⟩:=rI.Wb (t:=26) (e:=28) (α:=Pred) Tryz.underlying26 (by kernel_rfl) (by decide) (λg hg=>X g (by omega)) (show _=some (x5.1,x5.2)from h5)
 rw[show Tryz.prog.cellsOf 26=1 from by kernel_rfl]at z
 rw[uF rfl,<-Pred.ec]at z;refine⟨⟨a0,I,L,Q,T,W⟩,eW.fin (n:=6) (eW.seg (o:=5) (n:=1) (eW.seg (o:=4) (n:=1) (eW.seg (o:=3) (n:=1) (eW.seg (o:=2) (n:=1) (eW.seg (o:=1) (n:=1) (eW.seg (o:=0) (n:=1) (show eW (snap w) [] (cs.take 0)from by simpa using eW.nil) G) J) O) S) U) z) Y,⟨k0,k1,k2,k3,k4,Pred.WT _ k5,trivial⟩,λb u=>?_⟩
 have w0:=b0 b u;have w1:=b1 b u;have w2:=b2 b u;have w3:=b3 b u;have w4:=b4 b u;have w5:=b5 b u;show cm.wt a0+cm.wt I+cm.wt L+cm.wt Q+cm.wt T+Pred.QG W+1<=_;rw[Pred.Wa];simp only[List.map_cons,List.map_nil,List.sum_cons,List.sum_nil];omega
instance Xq:Reads Tryz.prog 28 Pred:=Reads.of Tryz.underlying28 (by kernel_rfl) rfl Ub
end Go.VE.YtlmckmkfopljoaaGreatDoor
namespace Go.VE
end Go.VE
namespace Go.VE
abbrev J6 {α:Type} (m:Option α):Prop:=Wp m λ_=>True
theorem J6.get {α:Type} {m:Option α} (h:J6 m):∃a,m=some a:=let ⟨a,e,_⟩:=h;⟨a,e⟩
theorem J6.ok {m:Option Bool} (h:J6 m):m=some (m.getD false):=by obtain⟨a,e,_⟩:=h;rw[e];rfl
def Small (t:Trace):Prop:=t.procs.l.length<1073741824/\∀p∈t.procs.l,p.events.l.length<1073741824/\p.vars.l.length<1073741824/\p.name.size<1073741824/\(∀v∈p.vars.l,v.name.size<1073741824)/\∀e∈p.events.l,e.assign.l.length<1073741824
section
theorem Ln {s:Sl Event} {p:Event->Option Bool} {f:Event->Bool} (hp:∀x∈s.l,p x=some (f x)) (B:s.l.length<1073741824):fP s p=some (place f s.l):=
 uD hp (by omega) (λi=>rfl)
theorem NS {s:Sl bT} {p:bT->Option Bool} {f:bT->Bool} (hp:∀x∈s.l,p x=some (f x)) (B:s.l.length<1073741824):gp s p=some (place f s.l):=
 uD hp (by omega) (λi=>rfl)
theorem Cs {s:Sl Var} {p:Var->Option Bool} {f:Var->Bool} (hp:∀x∈s.l,p x=some (f x)) (B:s.l.length<1073741824):eU s p=some (place f s.l):=
 uD hp (by omega) (λi=>rfl)
theorem Jh {s:Sl Assign} {p:Assign->Option Bool} {f:Assign->Bool} (hp:∀x∈s.l,p x=some (f x)) (B:s.l.length<1073741824):fq s p=some (place f s.l):=
 uD hp (by omega) (λi=>rfl)
theorem zm {s:Sl Event} {p:Event->Option Bool} {f:Event->Bool} (hp:∀x∈s.l,p x=some (f x)) (B:s.l.length<1073741824):gX s p=some (s.l.any f):=by
 unfold gX;rw[Ln hp B,ζb,ue]
theorem Ae {s:Sl bT} {p:bT->Option Bool} {f:bT->Bool} (hp:∀x∈s.l,p x=some (f x)) (B:s.l.length<1073741824):gm s p=some (s.l.any f):=by
 unfold gm;rw[NS hp B,ζb,ue]
theorem BD {s:Sl Var} {p:Var->Option Bool} {f:Var->Bool} (hp:∀x∈s.l,p x=some (f x)) (B:s.l.length<1073741824):gF s p=some (s.l.any f):=by
 unfold gF;rw[Cs hp B,ζb,ue]
theorem DS {s:Sl Assign} {p:Assign->Option Bool} {f:Assign->Bool} (hp:∀x∈s.l,p x=some (f x)) (B:s.l.length<1073741824):gN s p=some (s.l.any f):=by
 unfold gN;rw[Jh hp B,ζb,ue]
theorem o6 (x lo hi:Int):nC x lo hi=some (decide (lo<=x)&&decide (x<=hi)):=by
 unfold nC;rw[mL];rfl
theorem Lf {s:ByteArray} {i:Nat} (h:i<s.size):∃x,kO s (i:Int)=some x:=by
 unfold kO;rw[if_pos (by omega)]
 exact⟨_,by rw[show (s[(i:Int).toNat]?)=some s[i]from by simp[h]];rfl⟩
def kW (n:Nat) (p:Int) (e:Event):Prop:=e.kind=1\/((e.kind=2\/e.kind=3)/\0<=e.peer/\e.peer<n/\e.peer≠p/\0<=e.message/\e.message<=199)
end
end Go.VE
namespace Go.VE
def mC (t:Trace) (p k:Nat) (e:Event):Prop:=∃P,t.procs.l[p]? = some P/\P.events.l[k]? = some e
theorem tO {p:Int} {x:aY×Event}:∀{es:List Event} {j:Int},x∈iH p j es↔∃k:Nat,es[k]? = some x.2/\x.1=⟨p,j+k+1⟩
 | [],j=>by simp[iH]
 | e::es,j=>by
  simp[iH,tO ];constructor
  .rintro (rfl|⟨k,h1,B⟩)
   .exact⟨0,rfl,by simp⟩
   .exact⟨k+1,by grind,by grind⟩
  grind
theorem uR {x:aY×Event}:∀{ps:List bT} {i:Int},x∈fI i ps↔∃(a k:Nat) (P:bT),ps[a]? = some P/\P.events.l[k]? = some x.2/\x.1=⟨i+a,k+1⟩
 | [],i=>by simp[fI]
 | p::ps,i=>by
  simp only[fI,List.mem_append,tO,uR ];constructor
  .rintro (⟨k,h1,B⟩|⟨a,k,P,h1,B,D⟩)
   .exact⟨0,k,p,rfl,h1,by grind⟩
   .exact⟨a+1,k,P,by simp_all,B,by grind⟩
  grind
abbrev bU (t:Trace):List (aY×Event):=fI 0 t.procs.l
theorem dK {t:Trace} {x:aY×Event}:x∈bU t↔∃p k:Nat,mC t p k x.2/\x.1=⟨p,k+1⟩:=by
 rw[uR];constructor
 .rintro⟨a,k,P,h1,u,w⟩;exact⟨a,k,⟨P,h1,u⟩,by grind⟩
 .rintro⟨a,k,⟨P,h1,u⟩,w⟩;grind
theorem yj {t:Trace} {x y:aY×Event} (B:x∈bU t) (D:y∈bU t) (h:x.1=y.1):x=y:=by
 obtain⟨p,k,⟨P,u,hk⟩,e1⟩:=dK.1 B;obtain⟨q,j,⟨Q,w,z⟩,e2⟩:=dK.1 D
 grind
theorem sx {t:Trace} (hS:Small t):jh t=some (bU t):=by
 unfold jh;rw[if_pos];simp[oE];exact⟨by have:=hS.1;omega,λp u=>by have:=(hS.2 p u).1;omega⟩
def sA (t:Trace) (p m to:Int):Bool:=match t.procs.l[p.toNat]? with
 | some P=>P.events.l.any λe=>e.kind==2&&e.message==m&&e.peer==to
 | none=>false
theorem Pu {t:Trace} (hS:Small t) {p:Int} (h0:0<=p) (h1:p<t.procs.l.length) (m to:Int):tM t p m to=some (sA t p m to):=by
 unfold tM;have u:p.toNat<t.procs.l.length:=by omega
 have w:=List.getElem_mem u;rw[Ut h0,ζd u,ζb,zm (f:=λe=>e.kind==2&&e.message==m&&e.peer==to) (λe _=>by
  unfold qv;simp[mL]) (hS.2 _ w).1,ζb]
 unfold sA
 grind
theorem y_ {t:Trace} {p:Nat} {m to:Int}:sA t p m to=true↔∃k e,mC t p k e/\e.kind=2/\e.message=m/\e.peer=to:=by
 unfold sA mC;rw[show (p:Int).toNat=p from rfl]
 cases w:t.procs.l[p]? with
 | none=>simp
 | some P=>
  simp;constructor
  .rintro⟨e,u,h⟩;obtain⟨k,hk⟩:=List.getElem?_of_mem u
   grind
  grind
def ag (A:cC 200 bL) (m:Int):bL:=(A.at m).getD default
theorem KJ (A:cC 200 bL) {m:Int} (h0:0<=m) (h1:m<=199):A.at m=some (ag A m):=by
 have:m.toNat<A.l.length:=by rw[A.len];omega
 unfold ag cC.at
 grind
theorem qN (A:cC 200 bL) {m m':Int} (x:bL) (h0:0<=m) (h1:m<=199) (B:0<=m'):ag (A.set m x) m'=if m'=m then x else ag A m':=by
 have:m.toNat<A.l.length:=by rw[A.len];omega
 unfold ag cC.at cC.set
 grind
theorem M0 {m:Int} (h0:0<=m) (h1:m<=199):ag (cC.Ny 200 (⟨⟨0,0⟩,⟨0,0⟩⟩:bL)) m=⟨⟨0,0⟩,⟨0,0⟩⟩:=by
 unfold ag cC.at cC.Ny
 grind
structure jQ (t:Trace) (its:List (aY×Event)) (A:cC 200 bL):Prop where
 snd:∀x∈its,x.2.kind=2->(ag A x.2.message).from_=x.1
 rcv:∀x∈its,x.2.kind=3->(ag A x.2.message).to_=x.1/\sA t x.2.peer x.2.message x.1.proc=true
 fr:∀m,0<=m->m<=199->(ag A m).from_.index=0\/∃e,((ag A m).from_,e)∈its/\e.kind=2/\e.message=m
 to:∀m,0<=m->m<=199->(ag A m).to_.index=0\/∃e,((ag A m).to_,e)∈its/\e.kind=3/\e.message=m
def Kp (a b:aY×Event):Prop:=a.1.proc<b.1.proc\/a.1.proc=b.1.proc/\a.1.index<b.1.index
theorem No {p:Int}:∀{es:List Event} {j:Int},(iH p j es).Pairwise Kp
 | [],_=>List.Pairwise.nil
 | e::es,j=>by
  simp only[iH,List.pairwise_cons];refine⟨λb B=>?_,No⟩
  obtain⟨k,_,D⟩:=tO.1 B;refine .inr ⟨by rw[D],?_⟩
  grind
theorem Iw:∀{ps:List bT} {i:Int},(fI i ps).Pairwise Kp
 | [],_=>List.Pairwise.nil
 | P::ps,i=>by
  simp only[fI,List.pairwise_append];refine⟨No,Iw,λa B b D=>.inl ?_⟩
  obtain⟨k,_,G⟩:=tO.1 B;obtain⟨c,j,P,_,_,u⟩:=uR.1 D
  grind
theorem Hq {t:Trace} {k:Nat} {x y:aY×Event} (B:(bU t)[k]? = some x) (D:y∈(bU t).take k):y.1≠x.1:=by
 obtain⟨h1,u⟩:=ζe.1 B;have w:((bU t).take k++(bU t).drop k).Pairwise Kp:=by rw[List.take_append_drop];exact Iw
 have:=(List.pairwise_append.1 w).2.2 y D x (by rw[List.drop_eq_getElem_cons h1,u];grind)
 unfold Kp at this
 grind
structure xU (t:Trace):Prop where
 snd:∀x∈bU t,∀y∈bU t,x.2.kind=2->y.2.kind=2->x.2.message=y.2.message->x.1=y.1
 rcv:∀x∈bU t,∀y∈bU t,x.2.kind=3->y.2.kind=3->x.2.message=y.2.message->x.1=y.1
 has:∀x∈bU t,x.2.kind=3->sA t x.2.peer x.2.message x.1.proc=true
theorem jQ.zA {t:Trace} {A:cC 200 bL} (h:jQ t (bU t) A):xU t:=
 ⟨λx w y z B u C=>by rw[<-h.snd x w B,<-h.snd y z u,C],λx w y z B u C=>by rw[<-(h.rcv x w B).1,<-(h.rcv y z u).1,C],λx w k=>(h.rcv x w k).2⟩
theorem DG {t:Trace} (hS:Small t) (hF:∀x∈bU t,kW t.procs.l.length x.1.proc x.2):Wp (eE t) λr=>(r.2.2=0->∃A,r.1=some A/\jQ t (bU t) A)/\(xU t->r.2.2=0):=by
 unfold eE jm;rw[ζb];unfold eE.E1;rw[sx hS,ζb];refine xQ (λk A=>jQ t ((bU t).take k) A) ⟨by simp,by simp,λm h0 h1=>.inl (by rw[M0 h0 h1]),λm h0 h1=>.inl (by rw[M0 h0 h1])⟩ ?_ ?_
 .intro k x A Z B;have G  := List.mem_of_getElem? Z;have S:(bU t).take (k+1)=(bU t).take k++[x]:=by rw[List.take_add_one,Z];rfl
  obtain⟨p,j,aa,ab⟩:=dK.1 G;have hf:=hF x G;unfold eE.jB;rw[cu];constructor
  .intro hk;have L:x.2.kind=2:=by grind
   have u:0<=x.2.message/\x.2.message<=199:=by
    rcases hf with h|⟨_,_,_,_,h⟩
    .omega
    simp_all
   rw[KJ A u.1 u.2,ζb,cu];refine⟨λhg=>(a_ _).2 ((a_ _).2 ⟨λh=>(by cases h),λW=>?_⟩),λh0=>?_⟩
   .rcases B.fr _ u.1 u.2 with X|⟨e,O,T,U⟩
    .grind
    .exact absurd (W.snd _ (List.mem_of_mem_take O) x G T L U) (Hq Z O)
   rw[ζb,a_,S];have old:∀y∈(bU t).take k,y.2.kind=2->y.2.message≠x.2.message:=λy hy w O=>by
    have:=B.snd y hy w;rw[O]at this;obtain⟨p',j',_,Q⟩:=dK.1 (List.mem_of_mem_take hy)
    grind
   have Y:∀y∈(bU t).take k,y.2.kind=2\/y.2.kind=3->0<=y.2.message:=λy hy w=>by
    rcases hF y (List.mem_of_mem_take hy)with h|⟨_,_,_,_,h,_⟩
    .omega
    simp_all
   refine⟨λy hy w=>?_,λy hy z=>?_,λm C I=>?_,λm C I=>?_⟩
   .rcases List.mem_append.1 hy with hy|hy
    .rw[qN A _ u.1 u.2 (Y y hy (.inl w)),if_neg (old y hy w)];exact B.snd y hy w
    .simp at hy;subst hy;rw[qN A _ u.1 u.2 u.1,if_pos rfl]
   .rcases List.mem_append.1 hy with hy|hy
    .rw[qN A _ u.1 u.2 (Y y hy (.inr z))];have:=B.rcv y hy z
     grind
    grind
   .rw[qN A _ u.1 u.2 C];split
    .rename_i e;exact .inr ⟨x.2,by simp,L,e.symm⟩
    .exact(B.fr m C I).imp (λh=>h) λ⟨e,h1,D⟩=>⟨e,List.mem_append_left _ h1,D⟩
   .rw[qN A _ u.1 u.2 C];have:=(B.to m C I).imp (λh=>h) λ⟨e,h1,D⟩=>(⟨e,List.mem_append_left [x] h1,D⟩:∃e,((ag A m).to_,e)∈(bU t).take k++[x]/\e.kind=3/\e.message=m)
    split
    .rename_i e;subst e;omega
    omega
  .intro hk;have L  := by simpa using hk
   rw[cu];constructor
   .intro hk;have J  := by simpa using hk
    have u:0<=x.2.message/\x.2.message<=199/\0<=x.2.peer/\x.2.peer<t.procs.l.length:=by
     rcases hf with h|⟨_,h1,D,_,h3,h4⟩
     .omega
     .exact⟨h3,h4,h1,D⟩
    rw[KJ A u.1 u.2.1,ζb,cu];refine⟨λhg=>(a_ _).2 ((a_ _).2 ⟨λh=>(by cases h),λW=>?_⟩),λh0=>?_⟩
    .rcases B.to _ u.1 u.2.1 with X|⟨e,O,T,U⟩
     .simp[X]at hg
     .exact absurd (W.rcv _ (List.mem_of_mem_take O) x G T J U) (Hq Z O)
    have h0:¬(ag A x.2.message).to_.index>0:=by simpa using h0
    rw[Pu hS u.2.2.1 u.2.2.2,ζb,cu];refine⟨λhs=>?_,λhs=>(a_ _).2 ((a_ _).2 ⟨λh=>(by cases h),λW=>by rw[W.has x G J]at hs;cases hs⟩)⟩
    rw[ζb,a_,S];have old:∀y∈(bU t).take k,y.2.kind=3->y.2.message≠x.2.message:=λy hy w O=>by
     have:=(B.rcv y hy w).1;rw[O]at this;rw[this]at h0;obtain⟨p',j',_,Q⟩:=dK.1 (List.mem_of_mem_take hy);rw[Q]at h0;exact h0 (by show (j':Int)+1>0;omega)
    have Y:∀y∈(bU t).take k,y.2.kind=2\/y.2.kind=3->0<=y.2.message:=λy hy w=>by
     rcases hF y (List.mem_of_mem_take hy)with h|⟨_,_,_,_,h,_⟩
     .omega
     .exact h
    refine⟨λy hy w=>?_,λy hy z=>?_,λm C I=>?_,λm C I=>?_⟩
    .rcases List.mem_append.1 hy with hy|hy
     .rw[qN A _ u.1 u.2.1 (Y y hy (.inl w))];have:=B.snd y hy w;split
      .rename_i e;rw[e]at this;exact this
      .exact this
     .simp at hy;subst hy;omega
    .rcases List.mem_append.1 hy with hy|hy
     .rw[qN A _ u.1 u.2.1 (Y y hy (.inr z)),if_neg (old y hy z)];exact B.rcv y hy z
     .simp at hy;subst hy;rw[qN A _ u.1 u.2.1 u.1,if_pos rfl];exact⟨rfl,hs⟩
    .rw[qN A _ u.1 u.2.1 C];have:=(B.fr m C I).imp (λh=>h) λ⟨e,h1,D⟩=>(⟨e,List.mem_append_left [x] h1,D⟩:∃e,((ag A m).from_,e)∈(bU t).take k++[x]/\e.kind=2/\e.message=m)
     split
     .rename_i e;subst e;exact this
     .exact this
    .rw[qN A _ u.1 u.2.1 C];split
     .rename_i e;exact .inr ⟨x.2,by simp,J,e.symm⟩
     .exact(B.to m C I).imp (λh=>h) λ⟨e,h1,D⟩=>⟨e,List.mem_append_left _ h1,D⟩
   .intro hk;have J  := by simpa using hk
    rw[a_,S];refine⟨λy hy w=>?_,λy hy z=>?_,λm C I=>?_,λm C I=>?_⟩
    .rcases List.mem_append.1 hy with hy|hy
     .exact B.snd y hy w
     .simp at hy;subst hy;exact absurd w L
    .rcases List.mem_append.1 hy with hy|hy
     .exact B.rcv y hy z
     .simp at hy;subst hy;exact absurd z J
    .exact(B.fr m C I).imp (λh=>h) λ⟨e,h1,D⟩=>⟨e,List.mem_append_left _ h1,D⟩
    .exact(B.to m C I).imp (λh=>h) λ⟨e,h1,D⟩=>⟨e,List.mem_append_left _ h1,D⟩
 .intro A hA;rw[List.take_length]at hA;exact(a_ _).2 ⟨λ_=>⟨A,rfl,hA⟩,λ_=>rfl⟩
end Go.VE
namespace Go.VE
def iF (f:Nat->Bool) (k n:Nat):Bool:=(List.range' k (n-k)).any f
theorem Fa {f:Nat->Bool} {k n:Nat} (h:k<n):iF f k n=(f k||iF f (k+1) n):=by
 unfold iF;rw[show n-k=(n-(k+1))+1 from by omega,List.range'_succ];rfl
theorem Qk {f:Nat->Bool} {k n:Nat} (h:n<=k):iF f k n=false:=by
 unfold iF;rw[show n-k=0 from by omega];rfl
theorem HI {f:Nat->Bool} {k n:Nat}:iF f k n=true↔∃i,k<=i/\i<n/\f i=true:=by
 unfold iF;rw[List.any_eq_true];constructor
 .rintro⟨i,hi,u⟩;rw[List.mem_range'_1]at hi;exact⟨i,hi.1,by omega,u⟩
 .rintro⟨i,h1,w,u⟩;exact⟨i,by rw[List.mem_range'_1];omega,u⟩
theorem Eh {step:Int->Option (Fw Int Unit Unit)} {n:Nat} (f:Nat->Bool) (D:n<9223372036854775807) (h1:∀i:Nat,i<n->step i=some (if f i then .r ()else .n (IntKind.wrap .i64 ((i:Int)+1)))) (B:step (n:Int)=some (.x ())) :
 ∀m k:Nat,k+m=n->bW step (k:Int)=some (if iF f k n then .r ()else .x ()):=by
 intro m
 induction m with
 | zero=>
  intro k hk;have:k=n:=by omega
  subst this;rw[eO,B,Qk (Nat.le_refl _)];rfl
 | succ m u=>
  intro k hk;rw[eO,h1 k (by omega),Fa (by omega)]
  cases w:f k with
  | true=>rfl
  | false=>
   simp only[Bool.false_eq_true,if_false,ζb,Bool.false_or];rw[c7 k (by omega)]
   exact u (k+1) (by omega)
def mH (g:Nat->Int) (k n:Nat):Int:=match (List.range' k (n-k)).find? λi => !(g i==0)with
 | some i=>g i
 | none=>0
theorem E7 {g:Nat->Int} {k n:Nat} (h:k<n):mH g k n=if g k=0 then mH g (k+1) n else g k:=by
 unfold mH;rw[show n-k=(n-(k+1))+1 from by omega,List.range'_succ,List.find?_cons]
 by_cases h0:g k=0
 .simp[h0]
 .rw[if_neg h0,show (!(g k==0))=true from by simp[h0]]
theorem Ij {g:Nat->Int} {k n:Nat} (h:n<=k):mH g k n=0:=by
 unfold mH;rw[show n-k=0 from by omega];rfl
theorem Fe {g:Nat->Int} {n:Nat}:∀{m k:Nat},k+m=n->(mH g k n=0↔∀i,k<=i->i<n->g i=0):=by
 intro m
 induction m with
 | zero=>intro k hk;rw[Ij (by omega)];exact⟨λ_ i h1 u=>by omega,λ_=>rfl⟩
 | succ m w=>
  intro k hk;rw[E7 (by omega)]
  split
  .rename_i h0;rw[w (show k+1+m=n by omega)]
   constructor
   .intro h i h1 u
    by_cases e:i=k
    .subst e;exact h0
    .exact h i (by omega) u
   .intro h i h1 u;exact h i (by omega) u
  .rename_i h0;exact⟨λh=>absurd h h0,λh=>absurd (h k (Nat.le_refl _) (by omega)) h0⟩
theorem R1 {step:Int->Option (Fw Int Unit Int)} {n:Nat} (g:Nat->Int) (D:n<9223372036854775807) (h1:∀i:Nat,i<n->step i=some (if g i=0 then .n (IntKind.wrap .i64 ((i:Int)+1))else .r (g i))) (B:step (n:Int)=some (.x ())) :
 ∀m k:Nat,k+m=n->bW step (k:Int)=some (if mH g k n=0 then .x ()else .r (mH g k n)):=by
 intro m
 induction m with
 | zero=>
  intro k hk;have:k=n:=by omega
  subst this;rw[eO,B,Ij (Nat.le_refl _)];rfl
 | succ m u=>
  intro k hk;rw[eO,h1 k (by omega),E7 (by omega)]
  by_cases h0:g k=0
  .simp only[h0,if_true,ζb];rw[c7 k (by omega)]
   exact u (k+1) (by omega)
  .simp only[h0,if_false,ζb]
theorem yu {step:Int->Option (Fw Int Unit Int)} {n:Nat} (g:Nat->Int) (B:n<9223372036854775807) (h1:∀i:Nat,i<n->step i=some (if g i=0 then .n (IntKind.wrap .i64 ((i:Int)+1))else .r (g i))) (D:step (n:Int)=some (.x ())):bW step 0=some (if mH g 0 n=0 then .x ()else .r (mH g 0 n)):=R1 g B h1 D n 0 (by omega)
theorem Co {step:Int->Option (Fw Int Unit Unit)} {n:Nat} (f:Nat->Bool) (B:n<9223372036854775807) (h1:∀i:Nat,i<n->step i=some (if f i then .r ()else .n (IntKind.wrap .i64 ((i:Int)+1)))) (D:step (n:Int)=some (.x ())):bW step 0=some (if iF f 0 n then .r ()else .x ()):=Eh f B h1 D n 0 (by omega)
def w_ (c:Int):Bool:=decide (c>=65)&&decide (c<=90)||decide (c>=97)&&decide (c<=122)
def Ch (c:Int):Bool:=decide (c>=48)&&decide (c<=57)
theorem CW (c:Int):pY c=some (w_ c):=by
 unfold pY w_;simp only[mL,kP,ζb];rw[Bool.or_comm]
theorem Dl (c:Int):oO c=some (w_ c):=by
 unfold oO w_;simp only[mL,kP,ζb]
theorem NU (c:Int):tZ c=some (Ch c):=by
 unfold tZ Ch;simp only[mL,ζb]
theorem NY (c:Int):sS c=some (Ch c):=by
 unfold sS Ch;simp only[mL,ζb]
def wM (s:ByteArray) (i:Nat):Int:=(kO s (i:Int)).getD 0
theorem C1 {s:ByteArray} {i:Nat} (h:i<s.size):kO s (i:Int)=some (wM s i):=by
 obtain⟨x,u⟩:=Lf h;unfold wM;rw[u];rfl
def sC (s:ByteArray) (i:Nat):Bool := !w_ (wM s i) && !Ch (wM s i) && !(wM s i==95)
def lK (s:ByteArray):Bool:=decide (1<=s.size)&&decide (s.size<=16)&&w_ (wM s 0) && !iF (sC s) 0 s.size
theorem KR {s:ByteArray} {i:Nat} (h:i<s.size):gu.br s (s.size:Int) i=some (if sC s i then .r ()else .n (IntKind.wrap .i64 ((i:Int)+1))):=by
 unfold gu.br sC;rw[show decide ((i:Int)<(s.size:Int))=true from by simpa using h,bD,C1 h]
 simp only[ζb,CW,NU];cases w_ (wM s i) <;> cases Ch (wM s i) <;> cases (wM s i==95) <;> rfl
theorem KN {s:ByteArray} {i:Nat} (h:i<s.size):gU.br s i=some (if sC s i then .r ()else .n (IntKind.wrap .i64 ((i:Int)+1))):=by
 unfold gU.br sC;rw[show decide ((i:Int)<((ByteArray.size s:Nat):Int))=true from by simpa using h,bD,C1 h]
 simp only[ζb,Dl,NY];cases w_ (wM s i) <;> cases Ch (wM s i) <;> cases (wM s i==95) <;> rfl
theorem toList_empty {s:ByteArray}:(ByteArray.toList s==ByteArray.toList ByteArray.empty)=decide (s.size=0):=by
 rw[Bool.eq_iff_iff,beq_iff_eq,decide_eq_true_eq];constructor
 .intro h;have h1:(ByteArray.toList s).length=s.size:=by rw[Go.ByteArray.toList_eq];simp
  rw[<-h1,h];rw[Go.ByteArray.toList_eq];rfl
 .intro h;have:s=ByteArray.empty:=by
   apply ByteArray.ext;exact Array.eq_empty_of_size_eq_zero h
  rw[this]
theorem Fu {s:ByteArray} (B:s.size<1073741824):gu s=some (lK s):=by
 unfold gu;rw[toList_empty];simp only[kP,ζb]
 by_cases h0:s.size=0
 .simp[h0,lK,bf]
 by_cases u:s.size<=16
 .have hc:(decide (s.size=0)||decide (((ByteArray.size s:Nat):Int)>16))=false:=by simp[h0];omega
  rw[hc,bG,show (0:Int)=((0:Nat):Int)from rfl,C1 (show 0<s.size by omega)]
  simp only[ζb,CW]
  cases w:w_ (wM s 0)with
  | false=>simp[lK,w,bf]
  | true=>
   simp only[Bool.not_true,bG];unfold gu.W1;rw[Eh (n:=s.size) (sC s) (by omega) (λi hi=>KR hi) (by unfold gu.br;simp[bf]) s.size 0 (by omega)]
   have:lK s = !iF (sC s) 0 s.size:=by simp[lK,w,u];omega
   rw[this];cases iF (sC s) 0 s.size <;> rfl
 .have hc:(decide (s.size=0)||decide (((ByteArray.size s:Nat):Int)>16))=true:=by simp;omega
  rw[hc,bD];simp[lK,u,bf]
theorem GU {s:ByteArray} (B:s.size<1073741824):gU s=some (lK s):=by
 unfold gU;simp only[kP,ζb]
 by_cases h0:s.size=0
 .simp[h0,lK,bf]
 by_cases u:s.size<=16
 .have hc:(decide (((ByteArray.size s:Nat):Int)<1)||decide (((ByteArray.size s:Nat):Int)>16))=false:=by simp;omega
  rw[hc,bG,show (0:Int)=((0:Nat):Int)from rfl,C1 (show 0<s.size by omega)]
  simp only[ζb,Dl]
  cases w:w_ (wM s 0)with
  | false=>simp[lK,w,bf]
  | true=>
   simp only[Bool.not_true,bG];unfold gU.W1;rw[show (1:Int)=((1:Nat):Int)from rfl,Eh (n:=s.size) (sC s) (by omega) (λi hi=>KN hi) (by unfold gU.br;simp[bf]) (s.size-1) 1 (by omega)]
   have z:sC s 0=false:=by simp[sC,w]
   have:lK s = !iF (sC s) 1 s.size:=by
    have h1:=Fa (f:=sC s) (show 0<s.size by omega)
    rw[z]at h1;simp[lK,w,u,h1];omega
   rw[this];cases iF (sC s) 1 s.size <;> rfl
 .have hc:(decide (((ByteArray.size s:Nat):Int)<1)||decide (((ByteArray.size s:Nat):Int)>16))=true:=by simp;omega
  rw[hc,bD];simp[lK,u,bf]
end Go.VE
namespace Go.VE
def fO {α:Type} (l:List α) (f:α->Bool) (i:Nat):Bool:=match l[i]? with|some y=>f y|none=>false
theorem Az {α:Type} {l:List α} {f:α->Bool} {i:Nat} (h:i<l.length):fO l f i=f l[i]:=by unfold fO;rw[ζd h]
theorem Ci {α:Type} {l:List α} {f:α->Bool} {p:Nat}:(l.take p).any f=iF (fO l f) 0 p:=by
 rw[Bool.eq_iff_iff,List.any_eq_true,HI];constructor
 .rintro⟨x,w,u⟩;obtain⟨i,hi⟩:=List.getElem?_of_mem w;have z:=(ζe.1 hi).1;rw[List.length_take]at z;rw[List.getElem?_take,if_pos (by omega)]at hi
  exact⟨i,Nat.zero_le _,by omega,by unfold fO;rw[hi];exact u⟩
 .rintro⟨i,_,hi,u⟩;unfold fO at u;split at u
  .rename_i y A;exact⟨y,List.mem_of_getElem? (i:=i) (by rw[List.getElem?_take,if_pos hi];exact A),u⟩
  .cases u
def rH (a b:ByteArray):Bool:=ByteArray.toList a==ByteArray.toList b
def Uc:Bool->Bool->Bool->Int
 | true,false,true=>0
 | true,false,false=>2
 | _,_,_=>13
def uG (P:bT) (i:Nat):Int:=match P.vars.l[i]? with
 | some v=>Uc (lK v.name) (iF (fO P.vars.l λw=>rH w.name v.name) 0 i) (decide (v.init_>=-1073741824)&&decide (v.init_<=1073741824))
 | none=>0
def rZ (t:Trace) (p:Nat):Int:=match t.procs.l[p]? with
 | some P=>if lK P.name && !iF (fO t.procs.l λy=>rH y.name P.name) 0 p then
  (if P.vars.l.length>8 then 5 else if mH (uG P) 0 P.vars.l.length=0 then(if P.events.l.length>64 then 5 else 0)else mH (uG P) 0 P.vars.l.length)else 13
 | none=>0
theorem Fy {P:bT} {i:Nat} (h:i<P.vars.l.length):uG P i=Uc (lK P.vars.l[i].name) (iF (fO P.vars.l λw=>rH w.name P.vars.l[i].name) 0 i) (decide (P.vars.l[i].init_>=-1073741824)&&decide (P.vars.l[i].init_<=1073741824)):=by
 unfold uG;rw[ζd h]
theorem ER (n:Int):pM n=some (decide (n>=-1073741824)&&decide (n<=1073741824)):=by
 unfold pM;rw[mL];rfl
theorem PK {t:Trace} (hS:Small t) {p:Nat} (hp:p<t.procs.l.length):eF t p=some (rZ t p):=by
 have U:=hS.2 _ (List.getElem_mem hp);have h1:=hS.1;unfold eF rZ;rw[bK hp,ζb,ζd hp];generalize W:t.procs.l[p]=P at *;obtain⟨S,X,O,u,_⟩:=U;rw[Fu O,ζb];obtain⟨x,Y,D⟩:=uu t.procs p (by omega)
 have G:gm x (λz=>jG z P)=some (iF (fO t.procs.l λy=>rH y.name P.name) 0 p):=by
  rw[Ae (p:=λz=>jG z P) (f:=λy=>rH y.name P.name) (λy _=>rfl) (by rw[D,List.length_take];omega),D,Ci]
 rw[Y,ζb,G,ζb];dsimp only
 cases hn:lK P.name with
 | false=>simp[bf]
 | true=>
  rw[bD,ζb,Bool.true_and]
  cases hd:iF (fO t.procs.l λy=>rH y.name P.name) 0 p with
  | true=>simp[bf]
  | false=>
   rw[bG];simp only[Bool.not_false,if_true]
   by_cases T:P.vars.l.length>8
   .rw[show decide (len P.vars>8)=true from by simp[len];omega,bD,if_pos T]
   .rw[show decide (len P.vars>8)=false from by simp[len];omega,bG,if_neg T]
    unfold eF.W1;rw[yu (n:=P.vars.l.length) (uG P) (by omega) (λi hi=>?_) (by unfold eF.br;simp[bf,len])]
    .by_cases L:mH (uG P) 0 P.vars.l.length=0
     .rw[if_pos L,if_pos L];show bf (decide (len P.events>64)) (some 5) (some 0)=_;rw[tA];simp only[len,decide_eq_true_eq]
      by_cases I:P.events.l.length>64
      .rw[if_pos I,if_pos (by omega)]
      .rw[if_neg I,if_neg (by omega)]
     .rw[if_neg L,if_neg L];rfl
    .unfold eF.br;rw[Fy hi,show decide ((i:Int)<len P.vars)=true from by simp[len];exact hi,bD,bK hi,ζb]
     have hv:=u _ (List.getElem_mem hi);obtain⟨y,Z,J⟩:=uu P.vars i (by omega)
     have Q:gF y (λz=>jC z P.vars.l[i])=some (iF (fO P.vars.l λw=>rH w.name P.vars.l[i].name) 0 i):=by
      rw[BD (p:=λz=>jC z P.vars.l[i]) (f:=λw=>rH w.name P.vars.l[i].name) (λw _=>rfl) (by rw[J,List.length_take];omega),J,Ci]
     rw[Fu hv,ζb,Z,ζb,Q,ζb,o6];have hr:(decide (-1073741824<=P.vars.l[i].init_)&&decide (P.vars.l[i].init_<=1073741824))=(decide (P.vars.l[i].init_>=-1073741824)&&decide (P.vars.l[i].init_<=1073741824)):=rfl;rw[hr];generalize lK P.vars.l[i].name=A;generalize iF (fO P.vars.l λw=>rH w.name P.vars.l[i].name) 0 i=B
     generalize (decide (P.vars.l[i].init_>=-1073741824)&&decide (P.vars.l[i].init_<=1073741824))=C;cases A <;> cases B <;> cases C <;> rfl
theorem Ol {t:Trace} (hS:Small t) {p:Nat} (hp:p<t.procs.l.length):dZ t p=some (rZ t p):=by
 have Q:=hS.2 _ (List.getElem_mem hp);have h1:=hS.1;unfold dZ rZ;rw[bK hp,ζb,ζd hp];generalize S:t.procs.l[p]=P at *;obtain⟨L,T,J,u,_⟩:=Q;rw[GU J,ζb];dsimp only
 cases X:lK P.name with
 | false=>simp[bf]
 | true=>
  rw[bD,Bool.true_and];unfold dZ.W1;rw[Co (n:=p) (fO t.procs.l λy=>rH y.name P.name) (by omega) (λi hi=>?_) (by unfold dZ.br;simp[bf])]
  .cases hd:iF (fO t.procs.l λy=>rH y.name P.name) 0 p with
   | true=>rfl
   | false=>
    simp only[Bool.not_false,if_true];show bf (decide (len P.vars>8)) (some 5) (dZ.W2 0 P)=_
    by_cases O:P.vars.l.length>8
    .rw[show decide (len P.vars>8)=true from by simp[len];omega,bD,if_pos O]
    .rw[show decide (len P.vars>8)=false from by simp[len];omega,bG,if_neg O]
     unfold dZ.W2;rw[yu (n:=P.vars.l.length) (uG P) (by omega) (λi hi=>?_) (by unfold dZ.bZ;simp[bf,len])]
     .by_cases I:mH (uG P) 0 P.vars.l.length=0
      .rw[if_pos I,if_pos I];show bf (decide (len P.events>64)) (some 5) (some 0)=_;rw[tA];simp only[len,decide_eq_true_eq]
       by_cases z:P.events.l.length>64
       .rw[if_pos z,if_pos (by omega)]
       .rw[if_neg z,if_neg (by omega)]
      .rw[if_neg I,if_neg I];rfl
     .unfold dZ.bZ;rw[Fy hi,show decide ((i:Int)<len P.vars)=true from by simp[len];exact hi,bD,bK hi,ζb]
      rw[GU (u _ (List.getElem_mem hi)),ζb];have U:dZ.W3 i 0 P=if iF (fO P.vars.l λw=>rH w.name P.vars.l[i].name) 0 i then some (.r 13)else(if decide (P.vars.l[i].init_>=-1073741824)&&decide (P.vars.l[i].init_<=1073741824)then some (.n (IntKind.wrap .i64 ((i:Int)+1)))else some (.r 2)):=by
       unfold dZ.W3;rw[Co (n:=i) (fO P.vars.l λw=>rH w.name P.vars.l[i].name) (by omega) (λj W=>?_) (by unfold dZ.fe;simp[bf])]
       .cases iF (fO P.vars.l λw=>rH w.name P.vars.l[i].name) 0 i with
        | true=>rfl
        | false=>
         show (idx P.vars (i:Int)).bind _=_;rw[bK hi,ζb,ER,ζb];cases (decide (P.vars.l[i].init_>=-1073741824)&&decide (P.vars.l[i].init_<=1073741824)) <;> rfl
       .unfold dZ.fe;have D:j<P.vars.l.length:=by omega
        rw[show decide ((j:Int)<(i:Int))=true from by simpa using W,bD,bK D,ζb,bK hi,ζb,Az D,tA];rfl
      rw[U];generalize lK P.vars.l[i].name=A;generalize iF (fO P.vars.l λw=>rH w.name P.vars.l[i].name) 0 i=B
      generalize (decide (P.vars.l[i].init_>=-1073741824)&&decide (P.vars.l[i].init_<=1073741824))=C;cases A <;> cases B <;> cases C <;> rfl
  .unfold dZ.br;have G:i<t.procs.l.length:=by omega
   rw[show decide ((i:Int)<(p:Int))=true from by simpa using hi,bD,bK G,ζb,Az G,tA];rfl
end Go.VE
namespace Go.VE
def Io (n:Nat) (p:Int) (e:Event):Bool:=if e.kind==1 then e.peer==0&&e.message==0 else(e.kind==2||e.kind==3)&&(decide (0<=e.peer)&&decide (e.peer<n)) && !(e.peer==p)&&(decide (0<=e.message)&&decide (e.message<=199))
theorem NW {t:Trace} (hS:Small t) (p:Int) (e:Event):iu t p e=some (Io t.procs.l.length p e):=by
 have h1:=hS.1;have w:IntKind.wrap .i64 (len t.procs-1)=len t.procs-1:=gV _ (by simp[len];omega) (by simp[len];omega)
 have u:∀b:Bool,iu.J1 p b t e=some (b&&(decide (0<=e.peer)&&decide (e.peer<t.procs.l.length)) && !(e.peer==p)&&(decide (0<=e.message)&&decide (e.message<=199))):=by
  intro b;unfold iu.J1;simp only[o6,w,ζb];have:decide (e.peer<=len t.procs-1)=decide (e.peer<t.procs.l.length):=by congr 1;apply propext;simp[len];omega
  rw[this];generalize (decide (0<=e.peer)&&decide (e.peer<(t.procs.l.length:Int)))=A;generalize (e.peer==p)=B;generalize (decide (0<=e.message)&&decide (e.message<=199))=C;cases b <;> cases A <;> cases B <;> cases C <;> rfl
 unfold iu Io;rw[u,u]
 cases h1:e.kind==1 with
 | true=>
  rw[bD];cases e.peer==0 <;> cases e.message==0 <;> rfl
 | false=>
  rw[bG];simp only[Bool.false_eq_true,if_false];cases z:e.kind==2 <;> simp[bf]
def CJ (P:bT) (k:Nat) (e:Event):Bool:=match k with|0=>false|j+1=>fO P.events.l (λx=>decide (e.time<x.time)) j
def tV (P:bT) (k:Nat) (e:Event):Bool:=decide (e.time<0)||decide (e.time>1099511627776)||CJ P k e
def LH:Bool->Bool->Bool->Int
 | true,true,false=>0
 | true,true,true=>8
 | _,_,_=>2
def lG (P:bT) (e:Event) (i:Nat):Int:=match e.assign.l[i]? with
 | some a=>LH (decide (0<=a.var)&&decide (a.var<P.vars.l.length)) (decide (a.value>=-1073741824)&&decide (a.value<=1073741824)) (iF (fO e.assign.l λb=>b.var==a.var) 0 i)
 | none=>0
theorem Eo {P:bT} {e:Event} {i:Nat} (h:i<e.assign.l.length):lG P e i=LH (decide (0<=e.assign.l[i].var)&&decide (e.assign.l[i].var<P.vars.l.length)) (decide (e.assign.l[i].value>=-1073741824)&&decide (e.assign.l[i].value<=1073741824)) (iF (fO e.assign.l λb=>b.var==e.assign.l[i].var) 0 i):=by
 unfold lG;rw[ζd h]
def nK (n:Nat) (P:bT) (p k:Nat) (e:Event):Int:=if Io n p e then(if tV P k e then 11 else if e.assign.l.length>8 then 5 else mH (lG P e) 0 e.assign.l.length)else 3
theorem LQ {P:bT} {e:Event} (hv:P.vars.l.length<1073741824) (U:e.assign.l.length<1073741824):dF.W2 e.assign (len e.assign) 0 e P=some (mH (lG P e) 0 e.assign.l.length):=by
 have I:IntKind.wrap .i64 (len P.vars-1)=len P.vars-1:=gV _ (by simp[len];omega) (by simp[len];omega)
 unfold dF.W2;rw[yu (n:=e.assign.l.length) (lG P e) (by omega) (λi hi=>?_) (by unfold dF.bZ;simp[bf,len])]
 .by_cases D:mH (lG P e) 0 e.assign.l.length=0
  .rw[if_pos D,D];rfl
  .rw[if_neg D];rfl
 .unfold dF.bZ;obtain⟨y,J,u⟩:=uu e.assign i (by omega)
  have G:gN y (λz=>kE z e.assign.l[i])=some (iF (fO e.assign.l λb=>b.var==e.assign.l[i].var) 0 i):=by
   rw[DS (p:=λz=>kE z e.assign.l[i]) (f:=λb=>b.var==e.assign.l[i].var) (λw _=>rfl) (by rw[u,List.length_take];omega),u,Ci]
  rw[Eo hi,show decide ((i:Int)<len e.assign)=true from by simp[len];exact hi,bD,bK hi,ζb,o6,o6,I,J,ζb,ζb,ζb,G,ζb]
  have h1:(decide (0<=e.assign.l[i].var)&&decide (e.assign.l[i].var<=len P.vars-1))=(decide (0<=e.assign.l[i].var)&&decide (e.assign.l[i].var<P.vars.l.length)):=by
   congr 2;apply propext;simp[len];omega
  have L:(decide (-1073741824<=e.assign.l[i].value)&&decide (e.assign.l[i].value<=1073741824))=(decide (e.assign.l[i].value>=-1073741824)&&decide (e.assign.l[i].value<=1073741824)):=rfl;rw[h1,L];generalize (decide (0<=e.assign.l[i].var)&&decide (e.assign.l[i].var<(P.vars.l.length:Int)))=A;generalize (decide (e.assign.l[i].value>=-1073741824)&&decide (e.assign.l[i].value<=1073741824))=B;generalize iF (fO e.assign.l λb=>b.var==e.assign.l[i].var) 0 i=C
  cases A <;> cases B <;> cases C <;> rfl
theorem Nc {t:Trace} (hS:Small t) {p k:Nat} {P:bT} {e:Event} (D:t.procs.l[p]? = some P) (J:P.events.l[k]? = some e):dF t ⟨p,k+1⟩ e=some (nK t.procs.l.length P p k e):=by
 obtain⟨L,w⟩:=ζe.1 D;obtain⟨hk,z⟩:=ζe.1 J;obtain⟨C,A,_,_,B⟩:=hS.2 P (w▸List.getElem_mem L);have O:=B e (z▸List.getElem_mem hk);have G:∀last:Int,((decide (0<=e.time)&&decide (e.time<=1099511627776)) && !decide (e.time<last))=(!tV P k e) ->
  dF.J1 last t ⟨p,k+1⟩ e P=some (nK t.procs.l.length P p k e):=by
  intro last Q;unfold dF.J1 nK;rw[NW hS,ζb,o6,ζb,LQ A O];dsimp only
  cases Io t.procs.l.length p e with
  | false=>rfl
  | true=>
   rw[bD,if_pos rfl];have:(bf (decide (0<=e.time)&&decide (e.time<=1099511627776)) (some (decide (e.time<last))) (some true):Option Bool)=some (tV P k e):=by
    have S:(!((decide (0<=e.time)&&decide (e.time<=1099511627776)) && !decide (e.time<last)))=tV P k e:=by rw[Q,Bool.not_not]
    rw[<-S];cases (decide (0<=e.time)&&decide (e.time<=1099511627776)) <;> cases decide (e.time<last) <;> rfl
   rw[this,ζb]
   cases tV P k e with
   | true=>rfl
   | false=>
    rw[bG];simp only[Bool.false_eq_true,if_false]
    by_cases I:e.assign.l.length>8
    .rw[show decide (len e.assign>8)=true from by simp[len];omega,bD,if_pos I]
    .rw[show decide (len e.assign>8)=false from by simp[len];omega,bG,if_neg I]
 unfold dF;dsimp only;rw[show idx t.procs (p:Int)=some P from by rw[jy];exact D,ζb]
 cases k with
 | zero=>
  rw[show decide (((0:Nat):Int)+1>1)=false from by decide,bG]
  refine G 0 ?_;simp only[tV,CJ,Bool.or_false];rw[Bool.eq_iff_iff];simp only[ζh,Bool.not_eq_true',decide_eq_true_eq,decide_eq_false_iff_not,Bool.or_eq_false_iff];omega
 | succ j=>
  rw[show decide ((((j+1:Nat)):Int)+1>1)=true from by simp;omega,bD]
  have u:j<P.events.l.length:=by omega
  have T:IntKind.wrap .i64 ((((j+1:Nat)):Int)+1-2)=((j:Nat):Int):=by rw[gV _ (by omega) (by omega)];omega
  rw[T,bK u,ζb];refine G _ ?_;simp only[tV,CJ,Az u];rw[Bool.eq_iff_iff];simp only[ζh,Bool.not_eq_true',decide_eq_true_eq,decide_eq_false_iff_not,Bool.or_eq_false_iff];omega
end Go.VE
namespace Go.VE
theorem K6 {t:Trace} {p:Nat} {P:bT} {e:Event} (D:t.procs.l[p]? = some P) (J:e.assign.l.length<1073741824):dY.W2 p 0 t e=some (mH (lG P e) 0 e.assign.l.length):=by
 unfold dY.W2;rw[yu (n:=e.assign.l.length) (lG P e) (by omega) (λi hi=>?_) (by unfold dY.bZ;simp[bf,len])]
 .by_cases w:mH (lG P e) 0 e.assign.l.length=0
  .rw[if_pos w,w];rfl
  .rw[if_neg w];rfl
 .unfold dY.bZ;have z:dY.W3 p i 0 t e e.assign.l[i]=if iF (fO e.assign.l λb=>b.var==e.assign.l[i].var) 0 i then some (.r 8)else some (.n (IntKind.wrap .i64 ((i:Int)+1))):=by
   unfold dY.W3;rw[Co (n:=i) (fO e.assign.l λb=>b.var==e.assign.l[i].var) (by omega) (λj G=>?_) (by unfold dY.fe;simp[bf])]
   .cases iF (fO e.assign.l λb=>b.var==e.assign.l[i].var) 0 i <;> rfl
   .unfold dY.fe;have u:j<e.assign.l.length:=by omega
    rw[show decide ((j:Int)<(i:Int))=true from by simpa using G,bD,bK u,ζb,Az u,tA]
  rw[Eo hi,show decide ((i:Int)<len e.assign)=true from by simp[len];exact hi,bD,bK hi,ζb,z,ER,ζb,show idx t.procs (p:Int)=some P from by rw[jy];exact D,ζb]
  have h1:(bf (decide (e.assign.l[i].var<0)) (some true) (some (decide (e.assign.l[i].var>=len P.vars))):Option Bool)=some (!(decide (0<=e.assign.l[i].var)&&decide (e.assign.l[i].var<P.vars.l.length))):=by
   rw[kP];congr 1;rw[Bool.eq_iff_iff];simp only[Bool.or_eq_true,Bool.not_eq_true',decide_eq_true_eq,Bool.and_eq_false_iff,decide_eq_false_iff_not,len];omega
  rw[h1,ζb];generalize (decide (0<=e.assign.l[i].var)&&decide (e.assign.l[i].var<(P.vars.l.length:Int)))=A;generalize (decide (e.assign.l[i].value>=-1073741824)&&decide (e.assign.l[i].value<=1073741824))=B;generalize iF (fO e.assign.l λb=>b.var==e.assign.l[i].var) 0 i=C
  cases A <;> cases B <;> cases C <;> rfl
theorem Oi {t:Trace} (hS:Small t) {p k:Nat} {P:bT} {e:Event} (J:t.procs.l[p]? = some P) (U:P.events.l[k]? = some e):dY t p k=some (nK t.procs.l.length P p k e):=by
 obtain⟨S,w⟩:=ζe.1 J;obtain⟨hk,z⟩:=ζe.1 U;obtain⟨O,T,_,_,I⟩:=hS.2 P (w▸List.getElem_mem S);have W:=I e (z▸List.getElem_mem hk);have X:dY.J1 p k t e=some (if tV P k e then 11 else if e.assign.l.length>8 then 5 else mH (lG P e) 0 e.assign.l.length):=by
  unfold dY.J1;rw[kP,ζb,K6 J W,show idx t.procs (p:Int)=some P from by rw[jy];exact J,ζb]
  have h1:(bf (decide ((k:Int)>0)) ((idx P.events (IntKind.wrap .i64 ((k:Int)-1))).bind λL=>some (decide (e.time<L.time))) (some false):Option Bool)=some (CJ P k e):=by
   cases k with
   | zero=>rfl
   | succ j=>
    have u:j<P.events.l.length:=by omega
    rw[show decide ((((j+1:Nat)):Int)>0)=true from by simp only[decide_eq_true_eq];omega,bD,show IntKind.wrap .i64 ((((j+1:Nat)):Int)-1)=((j:Nat):Int)from by rw[gV _ (by omega) (by omega)];omega,bK u,ζb]
    simp only[CJ,Az u]
  rw[h1,ζb,kP,ζb];show bf (tV P k e) _ _=_
  cases tV P k e with
  | true=>rfl
  | false=>
   rw[bG];simp only[Bool.false_eq_true,if_false]
   by_cases Q:e.assign.l.length>8
   .rw[show decide (len e.assign>8)=true from by simp[len];omega,bD,if_pos Q]
   .rw[show decide (len e.assign>8)=false from by simp[len];omega,bG,if_neg Q]
 unfold dY nK;rw[show idx t.procs (p:Int)=some P from by rw[jy];exact J,ζb,show idx P.events (k:Int)=some e from by rw[jy];exact U,ζb,X]
 unfold Io
 cases h1:e.kind==1 with
 | true=>
  rw[bD];simp only[if_true];cases e.peer==0 <;> cases e.message==0 <;> rfl
 | false=>
  rw[bG];simp only[Bool.false_eq_true,if_false];have Y:(bf (e.kind==2) (some false) (some (!(e.kind==3))):Option Bool)=some (!(e.kind==2||e.kind==3)):=by cases e.kind==2 <;> rfl
  rw[Y,ζb,kP,ζb,kP,ζb,kP,ζb,kP,ζb,kP,ζb];have h3:(((((!(e.kind==2||e.kind==3))||decide (e.peer<0))||decide (e.peer>=len t.procs))||(e.peer==p))||decide (e.message<0)||decide (e.message>199)) = !((e.kind==2||e.kind==3)&&(decide (0<=e.peer)&&decide (e.peer<t.procs.l.length)) && !(e.peer==p)&&(decide (0<=e.message)&&decide (e.message<=199))):=by
   generalize (e.kind==2||e.kind==3)=A;have a1:decide (e.peer<0) = !decide (0<=e.peer):=by rw[Bool.eq_iff_iff];simp
   have a2:decide (e.peer>=len t.procs) = !decide (e.peer<t.procs.l.length):=by rw[Bool.eq_iff_iff];simp[len]
   have a3:decide (e.message<0) = !decide (0<=e.message):=by rw[Bool.eq_iff_iff];simp
   have a4:decide (e.message>199) = !decide (e.message<=199):=by rw[Bool.eq_iff_iff];simp
   rw[a1,a2,a3,a4];generalize decide (0<=e.peer)=B;generalize decide (e.peer<(t.procs.l.length:Int))=C;generalize (e.peer==(p:Int))=D;generalize decide (0<=e.message)=F;generalize decide (e.message<=199)=G;cases A <;> cases B <;> cases C <;> cases D <;> cases F <;> cases G <;> rfl
  rw[h3];generalize ((e.kind==2||e.kind==3)&&(decide (0<=e.peer)&&decide (e.peer<(t.procs.l.length:Int))) && !(e.peer==(p:Int))&&(decide (0<=e.message)&&decide (e.message<=199)))=Z;cases Z <;> rfl
theorem Lt {n:Nat} {p:Int} {e:Event} (h:Io n p e=true):kW n p e:=by
 unfold Io at h;split at h
 .rename_i h1;left;simpa using h1
 .right;simp only[ζh,Bool.or_eq_true,beq_iff_eq,decide_eq_true_eq,Bool.not_eq_true',beq_eq_false_iff_ne,ne_eq]at h;obtain⟨⟨⟨h1,u⟩,z⟩,w⟩:=h;exact⟨h1,u.1,u.2,z,w.1,w.2⟩
theorem HZ {n:Nat} {P:bT} {p k:Nat} {e:Event} (h:nK n P p k e=0):kW n p e:=by
 unfold nK at h;split at h
 .rename_i h1;exact Lt h1
 .cases h
end Go.VE
namespace Go.VE
theorem B1 {α:Type} [DecidableEq α]:∀{l r:List α},l.Nodup->(∀x∈l,x∈r)->l.length<=r.length
 | [],_,_,_=>Nat.zero_le _
 | x::l,r,D,G=>by
  have B:=List.nodup_cons.1 D;have:=B1  (r:=r.erase x) B.2 λy u=>(List.mem_erase_of_ne (by grind)).2 (G y (List.mem_cons_of_mem _ u))
  grind
section
variable {κ:Type} [DecidableEq κ]
theorem Cu {ν:Type} {k:κ}:∀{m:Mo κ ν},k∉m.map (·.1)->uc k m=none
 | [],_=>rfl
 | (a,v)::r,h=>by
  simp only[List.map_cons,List.mem_cons,not_or]at h;unfold uc;rw[if_neg h.1];exact Cu h.2
theorem Ft {ν:Type} {k:κ}:∀{m:Mo κ ν},k∈m.map (·.1)->∃v,uc k m=some v/\(k,v)∈m
 | [],h=>by simp_all
 | (a,v)::r,h=>by
  unfold uc
  by_cases e:k=a
  .grind
  .obtain⟨w,h1,B⟩:=Ft  (by simpa [e]using h)
   grind
theorem rC {ν:Type} {k:κ} {v:ν}:∀{m:Mo κ ν},k∉m.map (·.1)->rA m k v=m++[(k,v)]
 | [],_=>rfl
 | (a,w)::r,h=>by
  simp only[List.map_cons,List.mem_cons,not_or]at h;show (if k=a then _ else _)=_;rw[if_neg h.1,rC h.2];rfl
end
def Vd (t:Trace) (y:aY):Prop:=∃e,(y,e)∈bU t
theorem Vd.at_ {t:Trace} {y:aY} (h:Vd t y):∃(p k:Nat) (e:Event),mC t p k e/\y=⟨p,k+1⟩/\(y,e)∈bU t:=by
 obtain⟨e,u⟩:=h;obtain⟨p,k,h1,w⟩:=dK.1 u
 grind
def Ih (t:Trace) (y z:aY):Prop:=∃e f,(y,e)∈bU t/\(z,f)∈bU t/\e.kind=2/\f.kind=3/\e.message=f.message
def Edge (t:Trace) (y z:aY):Prop:=Vd t y/\Vd t z/\(z=⟨y.proc,y.index+1⟩\/Ih t y z)
abbrev Way (t:Trace):aY->aY->Prop:=Relation.TransGen (Edge t)
def Ke (t:Trace):Prop:=∃x,Way t x x
theorem Way.l {t:Trace} {x y:aY} (h:Way t x y):Vd t x:=by
 induction h with
 | single h=>exact h.1
 | tail _ _ u=>omega
theorem Way.r {t:Trace} {x y:aY} (h:Way t x y):Vd t y:=by
 cases h with
 | single h=>exact h.2.1
 | tail _ h=>exact h.2.1
theorem OH {t:Trace} (hS:Small t) (hF:∀x∈bU t,kW t.procs.l.length x.1.proc x.2) {A:cC 200 bL} (hA:jQ t (bU t) A) {y:aY} (U:Vd t y) :
 Wp (jg t A y) λs=>s.l.length<=2/\∀z,z∈s.l↔Edge t y z:=by
 obtain⟨p,k,e,T,D,u⟩:=U.at_;obtain⟨P,O,hk⟩:=T;have W:P∈t.procs.l:=List.mem_of_getElem? O;have h1:=(hS.2 P W).1;have aa:k<P.events.l.length:=(ζe.1 hk).1;have G:y.proc=p:=by rw[D]
 have C:y.index=k+1:=by rw[D]
 have j:∀s:Sl aY,s.l.length<=1->(∀z,z∈s.l↔Vd t z/\z=⟨y.proc,y.index+1⟩)->Wp (jg.J1 A s P.events y) λs=>s.l.length<=2/\∀z,z∈s.l↔Edge t y z:=by
  intro s hs w;have no:¬(∃z,Ih t y z)->s.l.length<=2/\∀z,z∈s.l↔Edge t y z:=λhn=>⟨by omega,λz=>(w z).trans ⟨λh=>⟨U,h.1,.inl h.2⟩,λh=>⟨h.2.1,h.2.2.elim id λh=>(hn ⟨z,h⟩).elim⟩⟩⟩
  unfold jg.J1;have X:IntKind.wrap .i64 (y.index-1)=((k:Nat):Int):=by rw[C,gV _ (by omega) (by omega)];omega
  rw[X,jy,hk,ζb,jc,cu];constructor
  .intro B;have B:e.kind=2:=by grind
   have S:0<=e.message/\e.message<=199:=by
    rcases hF _ u with h|⟨_,_,_,_,h⟩
    .grind
    simp_all
   have to_:∀z,Ih t y z->(ag A e.message).to_=z:=λz ⟨Y,f,Z,I,a3,a4,a5⟩=>by
    cases yj Z u rfl;rw[a5];exact(hA.rcv _ I a4).1
   rw[KJ A S.1 S.2,ζb,a_,cu];refine⟨λh=>?_,λh=>(a_ _).2 (no λ⟨z,w⟩=>?_)⟩
   .have h:(ag A e.message).to_.index>0:=by grind
    rw[ζb];unfold iP;rw[if_pos (by omega),ζb,a_]
    refine⟨by show (s.l++[(ag A e.message).to_]).length<=2;grind,λz=>?_⟩
    have J:Ih t y (ag A e.message).to_:=by
     rcases hA.to e.message S.1 S.2 with h0|⟨Y,h1,h2,h3⟩
     .omega
     .exact⟨e,Y,u,h1,B,h2,h3.symm⟩
    show z∈s.l++[(ag A e.message).to_]↔_;rw[List.mem_append,List.mem_singleton,w];constructor
    .rintro (h|rfl)
     .exact⟨U,h.1,.inl h.2⟩
     .exact⟨U,let ⟨_,f,_,I,_⟩:=J;⟨f,I⟩,.inr J⟩
    .rintro⟨_,h1,h2|h2⟩
     .grind
     grind
   .rw[to_ z w]at h;obtain⟨_,f,_,I,_⟩:=w;obtain⟨q,i,_,hi⟩:=dK.1 I;simp only at hi;rw[hi]at h;simp at h
  .intro B;rw[a_,cu];refine⟨λh=>(by cases h),λ_=>(a_ _).2 (no λ⟨z,Y,f,Z,_,a3,_⟩=>?_)⟩
   cases yj Z u rfl
   grind
 unfold jg;rw[G,jy,O,ζb,cu];rw[G]at j;constructor
 .intro h;have h:y.index<len P.events:=by simpa using h
  have B:k+1<P.events.l.length:=by rw[C]at h;simp[len]at h;omega
  refine j _ (by simp[Sl.l]) λz=>?_
  have X:IntKind.wrap .i64 (y.index+1)=y.index+1:=gV _ (by omega) (by omega)
  simp only[Sl.l,List.mem_singleton,X];refine⟨λw=>⟨⟨P.events.l[k+1],dK.2 ⟨p,k+1,⟨P,O,ζd B⟩,?_⟩⟩,w⟩,λw=>w.2⟩
  rw[w,C];simp
 .intro h;have h:¬y.index<len P.events:=by simpa using h
  refine j _ (by simp[Sl.l]) λz=>⟨λw=>by simp[Sl.l]at w,λ⟨w,he⟩=>?_⟩
  obtain⟨q,i,f,⟨Q,hQ,hi⟩,L,_⟩:=w.at_;rw[he,C]at L;simp[aY.mk.injEq]at L;have:q=p:=by omega
  subst this;rw[O]at hQ;cases hQ;have:=(ζe.1 hi).1;simp[len]at h;omega
structure Gu (t:Trace) (x:aY) (rest:Sl aY) (m:Mo aY Bool) (U:aY->Prop):Prop where
 rst:∀y∈rest.l,y=x\/Way t x y
 keys:(m.map (·.1)).Nodup
 seen:∀y∈m,Way t x y.1/\y.1≠x/\y.2=true
 le:rest.l.length<=m.length+1
 done:∀y,y=x\/y∈m.map (·.1)->y∈rest.l\/U y\/∀z,Edge t y z->z∈m.map (·.1)
theorem Gu.count {t:Trace} {x:aY} {rest:Sl aY} {m:Mo aY Bool} {U:aY->Prop} (h:Gu t x rest m U):m.length<=(bU t).length:=by
 have:=B1 (r:=(bU t).map (·.1)) h.keys λx u=>by
  obtain⟨y,w,rfl⟩:=List.mem_map.1 u;obtain⟨e,z⟩:=(h.seen y w).1.r
  grind
 grind
theorem Mp {t:Trace} (hS:Small t) (hN:(bU t).length<1073741824) (hF:∀x∈bU t,kW t.procs.l.length x.1.proc x.2) {A:cC 200 bL} (hA:jQ t (bU t) A):Wp (iq t A) λr=>(r.2=true↔Ke t):=by
 unfold iq jm;rw[ζb];unfold iq.E1;rw[sx hS,ζb];refine xQ (λk _=>∀x∈(bU t).take k,¬Way t x.1 x.1) (by simp) ?_ λ_ h=>(a_ _).2 ⟨λh=>(by cases h),λ⟨x,hx⟩=>?_⟩
 .intro i x _ hx aq;have af:x∈bU t:=List.mem_of_getElem? hx;refine Wp.mono (P:=λw=>match w with|.n s=>¬Way t x.1 x.1|.x e=>False|.r e=>Ke t) ?_ λw hw=>by
   cases w with
   | n s=>
    intro y hy;rw[List.take_add_one,hx]at hy
    grind
   | x e=>grind
   | r b=>exact(a_ _).2 ⟨λ_=>hw,λ_=>rfl⟩
  refine eD (λq:Sl aY×Mo aY Bool=>Gu t x.1 q.1 q.2 λ_=>False) (λq=>2*((bU t).length-q.2.length)+q.1.l.length) ⟨λy hy=>.inl (by simpa [Sl.l]using hy),by simp,by simp,by simp[Sl.l],λy hy=>.inl ?_⟩ ?_
  .simpa [Sl.l]using hy
  rintro⟨rest,m⟩ L;unfold iq.bZ;rw[cu];refine⟨λh=>?_,λh=>(a_ _).2 ((a_ _).2 λhw=>?_)⟩
  .have G:0<rest.l.length:=by
    grind
   have hc:=L.count;have au:=L.le;have hw:IntKind.wrap .i64 ((len rest)-1)=(rest.l.length-1:Nat):=by
    rw[gV _ (by grind) (by grind)];grind
   have I:rest.l.length-1<rest.l.length:=by omega
   rw[hw];have h1:Sl.rQ rest (rest.l.length-1:Nat)=some (rest.l.length-1):=by
    unfold Sl.rQ;grind
   have h2:Sl.get rest (rest.l.length-1)=some rest.l[rest.l.length-1]:=by unfold Sl.get;grind
   obtain⟨cut,h3,h4⟩:∃x,oM rest none (some ((rest.l.length-1:Nat):Int))=some x/\x.l=rest.l.take (rest.l.length-1):=by
    cases rest with
    | nil=>simp[Sl.l]at G
    | emp=>simp[Sl.l]at G
    | row l=>
     simp only[Sl.l]at G ⊢;unfold oM dX;simp_all
    | part l=>
     simp[Sl.l]at G ⊢;unfold oM dX;simp_all
   rw[h1,ζb,h2,ζb,h3,ζb,jc];generalize ah:rest.l[rest.l.length-1]=y;have ai:y∈rest.l:=ah▸List.getElem_mem I;have O:∀z,z∈rest.l->z∈cut.l\/z=y:=λz hz=>by
    have:rest.l.take (rest.l.length-1)++rest.l.drop (rest.l.length-1)=rest.l:=List.take_append_drop ..;rw[<-this]at hz;rcases List.mem_append.1 hz with hz|hz
    .grind
    .rw[List.drop_eq_getElem_cons I,List.drop_of_length_le (by omega)]at hz
     grind
   have aa  := L.rst _ ai;have aj  := aa.elim (λe=>⟨x.2,e▸af⟩) Way.r
   refine(OH hS hF hA aj).mono λs hs=>?_
   refine eD (λq:Sl aY×Int×Mo aY Bool=>∃n:Nat,q.2.1=n/\n<=s.l.length/\Gu t x.1 q.1 q.2.2 (λu=>u=y)/\(∀z∈s.l.take n,z∈q.2.2.map (·.1))/\2*((bU t).length-q.2.2.length)+q.1.l.length<2*((bU t).length-m.length)+rest.l.length) (λq=>s.l.length-q.2.1.toNat)
    ⟨0,rfl,Nat.zero_le _,⟨λz hz=>L.rst z (by grind),L.keys,L.seen,by grind,λu hu=>?_⟩,by simp,by grind⟩ ?_
   .rcases L.done u hu with h|h|h
    .exact(O u h).imp_right .inl
    .exact h.elim
    .exact .inr (.inr h)
   rintro⟨C,i2,W⟩ ⟨n,rfl,hn,B,J,hμ⟩;simp only at B hμ J;unfold iq.fe;rw[cu];constructor
   .intro h;have X:n<s.l.length:=by simpa [len]using h
    have ab:=(hs.2 s.l[n]).1 (List.getElem_mem X);have Q:Way t x.1 s.l[n]:=aa.elim (λe=>.single (e▸ab)) λh=>.tail h ab
    rw[bK X,ζb,cu];refine⟨λZ=>(a_ _).2 ((a_ _).2 ((a_ _).2 ⟨x.1,?_⟩)),λS=>?_⟩
    .have:s.l[n]=x.1:=by
      unfold JW at Z
      revert Z;cases s.l[n];cases x.1;intro Z;simpa using Z
     rw[this]at Q;exact Q
    have S:s.l[n]≠x.1:=λe=>by rw[e]at S;simp[JW]at S
    have T:=c7 n (by omega)
    have ad:s.l.take (n+1)=s.l.take n++[s.l[n]]:=by rw[List.take_add_one,ζd X];rfl
    rw[cu];refine⟨λhg=>(a_ _).2 ⟨⟨n+1,T,by omega,B,λz hz=>?_,hμ⟩,by show _-(IntKind.wrap .i64 ((n:Int)+1)).toNat<_;rw[T];simp;omega⟩,λY=>?_⟩
    .rw[ad]at hz;rcases List.mem_append.1 hz with hz|hz
     .exact J z hz
     .simp[List.mem_singleton]at hz;subst hz;apply Classical.byContradiction;intro hk;unfold DX at hg;rw[Cu hk]at hg;cases hg
    have av:=B.count;have ar:=B.le;unfold iP;rw[if_pos (show C.l.length+1<=2147483648 from by omega),ζb,a_]
    have D:s.l[n]∉W.map (·.1):=λak=>by
     obtain⟨v,hv,al⟩:=Ft ak;have:=(B.seen _ al).2.2;simp only at this;subst this;unfold DX at Y;rw[hv]at Y;cases Y
    have U:∀z,z∈(rA W s.l[n] true).map (·.1)↔z∈W.map (·.1)\/z=s.l[n]:=λz=>by
     rw[rC D,List.map_append,List.mem_append];simp
    have ae:Gu t x.1 (.row (C.l++[s.l[n]])) (rA W s.l[n] true) (λu=>u=y):=by
     refine⟨λy hy=>?_,?_,λy hy=>?_,?_,λu hu=>?_⟩
     .simp[Sl.l,List.mem_singleton]at hy;rcases hy with hy|rfl
      .exact B.rst y hy
      .exact .inr Q
     .rw[rC D,List.map_append,List.nodup_append];refine⟨B.keys,by simp,λa ha b hb=>?_⟩
      simp[List.mem_singleton]at hb;subst hb;exact λe=>D (e▸ha)
     .rw[rC D]at hy;rcases List.mem_append.1 hy with hy|hy
      .exact B.seen y hy
      .simp[List.mem_singleton]at hy;subst hy;exact⟨Q,S,rfl⟩
     .rw[rC D];show (C.l++[s.l[n]]).length<=_;rw[ζi,ζi,List.length_singleton,List.length_singleton];omega
     .simp only[Sl.l,List.mem_append,List.mem_singleton];have old:u=x.1\/u∈W.map (·.1)->(u∈C.l\/u=s.l[n])\/u=y\/∀z,Edge t u z->z∈(rA W s.l[n] true).map (·.1):=λhu=>by
       rcases B.done u hu with h|h|h
       .exact .inl (.inl h)
       .exact .inr (.inl h)
       .exact .inr (.inr λz hz=>(U z).2 (.inl (h z hz)))
      rcases hu with hu|hu
      .exact old (.inl hu)
      .rcases (U u).1 hu with hu|hu
       .exact old (.inr hu)
       .exact .inl (.inr hu)
    have am:=ae.count;refine⟨⟨n+1,T,by omega,ae,λz hz=>?_,?_⟩,by show _-(IntKind.wrap .i64 ((n)+1)).toNat<_;rw[T];simp;omega⟩
    .rw[ad]at hz;rcases List.mem_append.1 hz with hz|hz
     .exact(U z).2 (.inl (J z hz))
     .exact(U z).2 (.inr (by simpa using hz))
    rw[rC D,ζi,List.length_singleton]at am;show 2*((bU t).length-(rA W s.l[n] true).length)+(C.l++[s.l[n]]).length<_;rw[rC D,ζi,ζi,List.length_singleton,List.length_singleton];omega
   .intro h;have an:s.l.length<=n:=by simpa [len]using h
    rw[List.take_of_length_le an]at J;refine(a_ _).2 ((a_ _).2 ⟨⟨B.rst,B.keys,B.seen,B.le,λu hu=>?_⟩,hμ⟩)
    rcases B.done u hu with h|h|h
    .exact .inl h
    .subst h;exact .inr (.inr λz hz=>J z ((hs.2 z).2 hz))
    .exact .inr (.inr h)
  .have ao:rest.l=[]:=by
    have:¬len rest>0:=by simpa using h
    simp[len]at this;exact this
   have hd:∀y,y=x.1\/y∈m.map (·.1)->∀z,Edge t y z->z∈m.map (·.1):=λy hy=>by
    rcases L.done y hy with h|h|h
    .simp only[ao]at h;cases h
    .exact h.elim
    .exact h
   have key:∀z,Way t x.1 z->z∈m.map (·.1):=λz hz=>by
    induction hz with
    | single h=>exact hd _ (.inl rfl) _ h
    | tail _ h ih=>exact hd _ (.inr ih) _ h
   obtain⟨y,hy,ap⟩:=List.mem_map.1 (key _ hw);exact(L.seen y hy).2.1 ap
 .obtain⟨e,Z⟩:=hx.l;rw[List.take_length]at h;exact absurd hx (h _ Z)
structure Ok (t:Trace):Prop where
 one:1<=t.procs.l.length
 few:t.procs.l.length<=8
 heads:∀p,p<t.procs.l.length->rZ t p=0
 eY:∀(p k:Nat) P e,t.procs.l[p]? = some P->P.events.l[k]? = some e->nK t.procs.l.length P p k e=0
 zA:xU t
 acyc:¬Ke t
theorem Et {t:Trace} (h:∀(p k:Nat) P e,t.procs.l[p]? = some P->P.events.l[k]? = some e->nK t.procs.l.length P p k e=0):∀x∈bU t,kW t.procs.l.length x.1.proc x.2:=λx w=>by
 obtain⟨p,k,⟨P,z,A⟩,u⟩:=dK.1 w;rw[u];exact HZ (h p k P _ z A)
structure VT (t:Trace):Prop where
 formed:∀x∈bU t,kW t.procs.l.length x.1.proc x.2
 msgs:∃A i,eE t=some (some A,i,0)/\jQ t (bU t) A
 few:t.procs.l.length<=8
 ok:Ok t
theorem Qn {t:Trace} (hS:Small t) (W:(bU t).length<1073741824):Wp (gP t) λr=>(r.2=0->VT t)/\(Ok t->r.2=0):=by
 unfold gP;rw[o6,ζb,cu];refine⟨λI=>?_,λI=>(a_ _).2 ⟨λh=>(by omega),λh=>?_⟩⟩
 rotate_left
 .have h1:=h.one;have D:=h.few
  grind
 have D:1<=t.procs.l.length/\t.procs.l.length<=8:=by
  grind
 unfold gP.W1;refine eD (λi:Int=>∃n:Nat,i=n/\n<=t.procs.l.length/\∀p,p<n->rZ t p=0) (λi:Int=>t.procs.l.length-i.toNat) ⟨0,rfl,Nat.zero_le _,λp J=>absurd J (by omega)⟩ ?_
 rintro i ⟨n,rfl,hn,X⟩;unfold gP.br;rw[cu];constructor
 .intro h;have u:n<t.procs.l.length:=by grind
  rw[PK hS u,ζb,cu];refine⟨λh0=>(a_ _).2 ⟨⟨n+1,c7 n (by omega),by omega,λp J=>?_⟩,by rw[c7 n (by omega)];simp;omega⟩,λh0=>(a_ _).2 ((a_ _).2 ⟨λh=>?_,λh=>?_⟩)⟩
  .grind
  .grind
  .simp[h.heads n u]at h0
 .intro h;have Y:t.procs.l.length<=n:=by grind
  rw[a_];unfold jm;rw[ζb];unfold gP.E2;rw[sx hS,ζb];refine xQ (λi _=>∀(p k:Nat) P e,t.procs.l[p]? = some P->P.events.l[k]? = some e->(⟨p,k+1⟩,e)∈(bU t).take i->nK t.procs.l.length P p k e=0) (by simp) ?_ ?_
  .intro i x _ U w;have L  := List.mem_of_getElem? U;obtain⟨p,j,⟨P,z,B⟩,O⟩:=dK.1 L;unfold gP.J5;rw[O,Nc hS z B,ζb,cu];refine⟨λh0=>(a_ _).2 λp' k' P' e' Z aa hm=>?_,λh0=>(a_ _).2 ((a_ _).2 ⟨λh=>?_,λh=>?_⟩)⟩
   .rw[List.take_add_one,U]at hm
    grind
   .grind
   .simp[h.eY p j P _ z B]at h0
  .intro _ w;have w:∀(p k:Nat) P e,t.procs.l[p]? = some P->P.events.l[k]? = some e->nK t.procs.l.length P p k e=0:=λp k P e z B=>w p k P e z B (by rw[List.take_length];exact dK.2 ⟨p,k,⟨P,z,B⟩,rfl⟩)
   have Q:=Et w;obtain⟨r,hr,hq,S⟩:=DG hS Q;rw[hr,ζb,cu];refine⟨λh0=>?_,λh0=>(a_ _).2 ⟨λh=>?_,λh=>S h.zA⟩⟩
   .have h0  := by simpa using h0
    obtain⟨A,T,hM⟩:=hq h0;rw[T,ζb];obtain⟨c,hc,C⟩:=Mp hS W Q hM;rw[hc,ζb,cu];refine⟨λG=>(a_ _).2 ⟨λh=>(by cases h),λh=>absurd (C.1 G) h.acyc⟩,λG=>(a_ _).2 ⟨λ_=>?_,λ_=>rfl⟩⟩
    exact⟨Q,⟨A,r.2.1,by rw[hr];obtain⟨r1,r2,r3⟩:=r;simp only at T h0;rw[T,h0],hM⟩,D.2,D.1,D.2,λp J=>X p (by omega),w,hM.zA,λhc=>by rw[C.2 hc]at G;cases G⟩
   simp_all
theorem OD {t:Trace} (hS:Small t) (B:(bU t).length<1073741824):Wp (dJ t) λb=>(b=true->VT t)/\(Ok t->b=true):=by
 unfold dJ;rw[jc];exact(Qn hS B).mono λr hr=>(a_ _).2 ⟨λh=>hr.1 (by grind),λh=>by grind⟩
end Go.VE
namespace Go.VE
def dO (q:Int) (e:Event):Bool:=e.kind==2&&e.peer==q
def ya (p:Int) (e:Event):Bool:=e.kind==3&&e.peer==p
end Go.VE
namespace Go.VE
def under (t:Trace) (c:List Int) (p q:Nat):Int:=match t.procs.l[p]?,t.procs.l[q]?,c[p]?,c[q]? with
 | some P,some Q,some a,some b=>((P.events.l.take a.toNat).countP (dO q):Int)-((Q.events.l.take b.toNat).countP (ya p):Int)
 | _,_,_,_=>0
end Go.VE
namespace Go.VE
theorem Nq {t:Trace} (hS:Small t) (hv:dJ t=some true) {A:cC 200 bL} (hM:jQ t (bU t) A) {x:aY×Event} (B:x∈bU t) (hk:x.2.kind=2):sH t x.2.message=some (x.1,true):=by
 refine Wp.eq ?_;unfold sH gW;rw[hv,ζb,bD];unfold jm;rw[ζb];unfold gW.E1;rw[sx hS,ζb,jc];refine xQ (λk _=>∀y∈(bU t).take k,¬(y.2.kind=2/\y.2.message=x.2.message)) (by simp) ?_ ?_
 .intro k y _ C u;have w:y∈bU t:=List.mem_of_getElem? C;unfold gW.jB;rw[mL,ζb,cu];constructor
  .intro hc;have hc:y.2.kind=2/\y.2.message=x.2.message:=by simpa using hc
   refine(a_ _).2 ((a_ _).2 ((a_ _).2 ?_));have h1:=hM.snd y w hc.1;have D:=hM.snd x B hk;rw[hc.2,D]at h1;rw[h1]
  .intro hc;have hc:¬(y.2.kind=2/\y.2.message=x.2.message):=by
    intro h;rw[h.1,h.2]at hc;simp at hc
   rw[a_];intro z hz;rw[List.take_add_one,C]at hz;rcases List.mem_append.1 hz with hz|hz
   .exact u z hz
   .simp at hz;subst hz;exact hc
 .intro _ u;rw[List.take_length]at u;exact absurd ⟨hk,rfl⟩ (u x B)
def qh (t:Trace) (c:List Int):Prop:=c.length=t.procs.l.length/\∀(p:Nat) (a:Int) (P:bT),c[p]? = some a->t.procs.l[p]? = some P->0<=a/\a<=P.events.l.length
def n_ (t:Trace) (A:cC 200 bL) (c:List Int):Prop:=∀(p k:Nat) (e:Event) (a:Int),mC t p k e->c[p]? = some a->(k:Int)<a->e.kind=3->∃b,c[(ag A e.message).from_.proc.toNat]? = some b/\(ag A e.message).from_.index<=b
theorem G9 {t:Trace} (hV:VT t) {A:cC 200 bL} (hM:jQ t (bU t) A) {p k:Nat} {e:Event} (J:mC t p k e) (hk:e.kind=3) :
 ∃(q j:Nat) (y:Event),mC t q j y/\y.kind=2/\y.message=e.message/\y.peer=p/\e.peer=q/\(ag A e.message).from_=⟨q,j+1⟩:=by
 have u:((⟨p,k+1⟩:aY),e)∈bU t:=dK.2 ⟨p,k,J,rfl⟩;have z:=(hM.rcv _ u hk).2;have C:=hV.formed _ u;simp only at z C;have B:0<=e.peer:=by
  rcases C with h|⟨_,h,_⟩
  .omega
  .exact h
 obtain⟨q,D⟩:∃q:Nat,e.peer=q:=⟨e.peer.toNat,by omega⟩
 rw[D]at z;obtain⟨j,y,w,h1,G,I⟩:=y_.1 z;have:=hM.snd (⟨q,j+1⟩,y) (dK.2 ⟨q,j,w,rfl⟩) h1;simp only at this;rw[G]at this;exact⟨q,j,y,w,h1,G,I,D,this⟩
def WG (t:Trace) (A:cC 200 bL) (c:List Int) (s:aY):Prop:=∃(p k:Nat) (e:Event) (a:Int) (q j:Nat) (y:Event) (b:Int),mC t p k e/\c[p]? = some a/\(k:Int)<a/\e.kind=3/\(ag A e.message).from_=s/\s=⟨q,j+1⟩/\mC t q j y/\c[q]? = some b/\b<(j:Int)+1
theorem RI {t:Trace} (hS:Small t) (hv:dJ t=some true) (hV:VT t) {A:cC 200 bL} (hM:jQ t (bU t) A) {c:Sl Int} (hR:qh t c.l):Wp (gT t c) λr=>(r.2.2=false->n_ t A c.l)/\(r.2.2=true->WG t A c.l r.1):=by
 have ah:=hV.few;unfold gT gT.W1;refine eD (λs:Int=>∃n:Nat,s=n/\n<=c.l.length/\∀(p k:Nat) (e:Event) (a:Int),p<n->mC t p k e->c.l[p]? = some a->(k:Int)<a->e.kind=3->∃b,c.l[(ag A e.message).from_.proc.toNat]? = some b/\(ag A e.message).from_.index<=b) (λs:Int=>c.l.length-s.toNat) ⟨0,rfl,Nat.zero_le _,λp k e a h=>absurd h (by omega)⟩ ?_
 rintro s ⟨n,rfl,hn,hI⟩;have ai:=hR.1;unfold gT.br;rw[cu];constructor
 .intro h;have C:n<c.l.length:=by simpa [len]using h
  have B:n<t.procs.l.length:=by omega
  have hP:=(hS.2 _ (List.getElem_mem B)).1;obtain⟨r1,r2⟩:=hR.2 n _ _ (ζd C) (ζd B);rw[bK C,ζb,bK B,ζb];obtain⟨y,hy,T⟩:=uu t.procs.l[n].events c.l[n].toNat (by omega)
  rw[show ((c.l[n].toNat:Nat):Int)=c.l[n]from by omega]at hy
  rw[hy,ζb];unfold gT.W2;refine eD (λs:Int=>∃m:Nat,s=m/\m<=y.l.length/\∀(k:Nat) (e:Event),k<m->mC t n k e->e.kind=3->∃b,c.l[(ag A e.message).from_.proc.toNat]? = some b/\(ag A e.message).from_.index<=b) (λs:Int=>y.l.length-s.toNat) ⟨0,rfl,Nat.zero_le _,λk e h=>absurd h (by omega)⟩ ?_
  rintro s ⟨m,rfl,hm,hJ⟩;have af:y.l.length=c.l[n].toNat:=by rw[T,List.length_take];omega
  unfold gT.bZ;rw[cu];constructor
  .intro h;have G:m<y.l.length:=by simpa [len]using h
   have I:=c7 m (by omega)
   have U:y.l.length-(IntKind.wrap .i64 ((m:Int)+1)).toNat<y.l.length-((m:Int)).toNat:=by rw[I];simp;omega
   have hg:y.l[m]? = t.procs.l[n].events.l[m]? := by rw[T,List.getElem?_take,if_pos (show m<c.l[n].toNat from by omega)]
   have u:mC t n m y.l[m]:=⟨_,ζd B,by rw[<-hg];exact ζd G⟩
   rw[bK G,ζb];generalize y.l[m]=e at u;rw[cu];constructor
   .intro hk;have hk:e.kind=3:=by simpa using hk
    obtain⟨q,j,z,hz,z1,z2,z3,z4,z5⟩:=G9 hV hM u hk;have J:=Nq hS hv hM (x:=(⟨q,j+1⟩,z)) (dK.2 ⟨q,j,hz,rfl⟩) z1;simp only at J;rw[z2]at J;have ab:=hz;obtain⟨Q,hQ,_⟩:=hz;have L:q<c.l.length:=by have:=(ζe.1 hQ).1;omega
    rw[J,ζb];simp only;rw[bK L,ζb,cu];constructor
    .intro W;have W:(j:Int)+1>c.l[q]:=by simpa using W
     exact(a_ _).2 ((a_ _).2 ((a_ _).2 ⟨λh=>(by cases h),λ_=>⟨n,m,e,c.l[n],q,j,z,c.l[q],u,ζd C,by omega,hk,z5,rfl,ab,ζd L,by omega⟩⟩))
    .intro X;have X:¬((j:Int)+1>c.l[q]):=by simpa using X
     refine(a_ _).2 ⟨⟨m+1,I,by omega,λk Y ad w D=>?_⟩,U⟩
     by_cases ek:k=m
     .subst ek;have:Y=e:=by
       obtain⟨P1,a1,a2⟩:=u;obtain⟨P2,Z,b2⟩:=w;rw[a1]at Z;cases Z;rw[a2]at b2;cases b2;rfl
      subst this;rw[z5];exact⟨c.l[q],by simp only[Int.toNat_natCast];exact ζd L,by simp only;omega⟩
     .exact hJ k Y (by omega) w D
   .intro hk;have hk:¬e.kind=3:=by simpa using hk
    refine(a_ _).2 ⟨⟨m+1,I,by omega,λk Y ad w D=>?_⟩,U⟩
    by_cases ek:k=m
    .subst ek;have:Y=e:=by
      obtain⟨P1,a1,a2⟩:=u;obtain⟨P2,Z,b2⟩:=w;rw[a1]at Z;cases Z;rw[a2]at b2;cases b2;rfl
     subst this;exact absurd D hk
    .exact hJ k Y (by omega) w D
  .intro h;have ae:y.l.length<=m:=by simpa [len]using h
   have aa:=c7 n (by omega)
   refine(a_ _).2 ((a_ _).2 ⟨⟨n+1,aa,by omega,λp k e a hp u S O he=>?_⟩,by show _-(IntKind.wrap .i64 ((n:Int)+1)).toNat<_;rw[aa];simp;omega⟩)
   by_cases ep:p=n
   .subst ep;rw[ζd C]at S;cases S;exact hJ k e (by omega) u he
   .exact hI p k e a (by omega) u S O he
 .intro h;have ae:c.l.length<=n:=by simpa [len]using h
  refine(a_ _).2 ((a_ _).2 ⟨λ_ p k e a u S O he=>hI p k e a (by have:=(ζe.1 S).1;omega) u S O he,λh=>(by cases h)⟩)
theorem C9 {t:Trace} (hS:Small t) (hv:dJ t=some true) (hV:VT t) {A:cC 200 bL} (hM:jQ t (bU t) A) {c:Sl Int} (B:qh t c.l):Wp (gT t c) λr=>(r.2.2=false↔n_ t A c.l):=by
 refine(RI hS hv hV hM B).mono λr hr=>⟨hr.1,λhC=>?_⟩
 cases h:r.2.2 with
 | false=>rfl
 | true=>
  obtain⟨p,k,e,a,q,j,y,b,h1,u,w,z,C,D,_,G,I⟩:=hr.2 h;obtain⟨J,g1,g2⟩:=hC p k e a h1 u w z;rw[C,D]at g1 g2;simp only[Int.toNat_natCast]at g1 g2;rw[G]at g1;cases g1;omega
end Go.VE
namespace Go.VE
theorem AK {s:Sl (Sl Int)} {p:Sl Int->Option Bool} {f:Sl Int->Bool} (hp:∀x∈s.l,p x=some (f x)) (B:s.l.length<1073741824):j7 s p=some (s.l.any f):=by
 have h:gw s p=some (place f s.l):=uD hp (by omega) (λi=>rfl)
 unfold j7;rw[h,ζb,ue]
theorem CG {t:Trace} (hS:Small t) {c:Sl Int} (D:c.l.length=t.procs.l.length):Wp (jJ t c) λb=>(b=true↔qh t c.l):=by
 have h1:=hS.1;unfold jJ jJ.W1;refine eD (λs:Int=>∃n:Nat,s=n/\n<=c.l.length/\∀(p:Nat) (a:Int) (P:bT),p<n->c.l[p]? = some a->t.procs.l[p]? = some P->0<=a/\a<=P.events.l.length) (λs:Int=>c.l.length-s.toNat) ⟨0,rfl,Nat.zero_le _,λp a P h=>absurd h (by omega)⟩ ?_
 rintro s ⟨n,rfl,L,C⟩;unfold jJ.br;rw[cu];constructor
 .intro h;have w:n<c.l.length:=by simpa [len]using h
  have u:n<t.procs.l.length:=by omega
  have G:=c7 n (by omega)
  rw[bK w,ζb,bK u,ζb,kP,ζb,cu];constructor
  .intro z;have z:c.l[n]<0\/c.l[n]>t.procs.l[n].events.l.length:=by simpa [len]using z
   refine(a_ _).2 ((a_ _).2 ⟨λh=>(by cases h),λI=>?_⟩)
   have:=I.2 n _ _ (ζd w) (ζd u);omega
  .intro z;have z:0<=c.l[n]/\c.l[n]<=t.procs.l[n].events.l.length:=by simpa [len]using z
   refine(a_ _).2 ⟨⟨n+1,G,by omega,λp a P O A B=>?_⟩,by rw[G];simp;omega⟩
   by_cases e:p=n
   .subst e;rw[ζd w]at A;cases A;rw[ζd u]at B;cases B;exact z
   .exact C p a P (by omega) A B
 .intro h;have J:c.l.length<=n:=by simpa [len]using h
  refine(a_ _).2 ((a_ _).2 ⟨λ_=>⟨D,λp a P A B=>C p a P (by have:=(ζe.1 A).1;omega) A B⟩,λ_=>rfl⟩)
def Code (t:Trace) (A:cC 200 bL) (c:List Int) (r:Int):Prop:=c.length≠t.procs.l.length/\r=1\/c.length=t.procs.l.length/\¬qh t c/\r=2\/qh t c/\¬n_ t A c/\r=18\/qh t c/\n_ t A c/\r=0
theorem TU {t:Trace} (hS:Small t) (hv:dJ t=some true) (hV:VT t) {A:cC 200 bL} (hM:jQ t (bU t) A) (c:Sl Int) :
 Wp (dg t (Sl.row [c]:Sl (Sl Int)) (Sl.nil:Sl Int)) λr=>Code t A c.l r:=by
 unfold dg wN;rw[hv,ζb,bD,AK (f:=λz=>(jR z t).getD false) (λz _=>J6.ok ((a_ _).2 trivial)) (by simp[Sl.l]),ζb,ζb,ζb]
 have w:(!((Sl.row [c]:Sl (Sl Int)).l.any λz=>(jR z t).getD false))=(len c==len t.procs):=by
  simp[Sl.l,jR]
 rw[w,cu];constructor
 .intro h;have B:c.l.length=t.procs.l.length:=by
   have:(c.l.length:Int)=t.procs.l.length:=by simpa [len]using h
   omega
  unfold dg.W1;refine eD (λs:Int=>s=0\/s=1/\qh t c.l) (λs:Int=>1-s.toNat) (.inl rfl) ?_
  intro s D;unfold dg.br;rcases D with rfl|⟨rfl,G⟩
  .rw[show decide ((0:Int)<len (Sl.row [c]:Sl (Sl Int)))=true from rfl,bD,show idx (Sl.row [c]:Sl (Sl Int)) 0=some c from rfl,ζb,jc];refine(CG hS B).mono λb u=>?_
   rw[cu];exact⟨λI=>(a_ _).2 ⟨.inr ⟨rfl,u.1 I⟩,by decide⟩,λC=>(a_ _).2 ((a_ _).2 (.inr (.inl ⟨B,λh=>(by rw[u.2 h]at C;cases C),rfl⟩)))⟩
  .rw[show decide ((1:Int)<len (Sl.row [c]:Sl (Sl Int)))=false from rfl,bG,a_];show Wp (dg.W2 (Sl.row [c]) Sl.nil 0 0 t) _;unfold dg.W2;refine eD (λs:Int=>s=0) (λ_=>0) rfl ?_
   rintro s rfl;unfold dg.bZ;rw[show decide ((0:Int)<0)=false from rfl,bG,a_];show Wp (dg.W3 (Sl.row [c]) 1 0 t) _;unfold dg.W3;refine eD (λs:Int=>s=0\/s=1/\n_ t A c.l) (λs:Int=>1-s.toNat) (.inl rfl) ?_
   intro s D;unfold dg.fe;rcases D with rfl|⟨rfl,hC⟩
   .rw[show decide ((0:Int)<1)=true from rfl,bD,show idx (Sl.row [c]:Sl (Sl Int)) 0=some c from rfl,ζb];unfold vt;rw[jc,jc];refine(C9 hS hv hV hM G).mono λr hr=>?_
    rw[a_,cu];exact⟨λu=>(a_ _).2 ⟨.inr ⟨rfl,hr.1 (by simpa using u)⟩,by decide⟩,λu=>(a_ _).2 ((a_ _).2 (.inr (.inr (.inl ⟨G,λh=>(by have:=hr.2 h;simp[this]at u),rfl⟩))))⟩
   .rw[show decide ((1:Int)<1)=false from rfl,bG,a_];exact(a_ _).2 (.inr (.inr (.inr ⟨G,hC,rfl⟩)))
 .intro h;exact(a_ _).2 (.inl ⟨λe=>(by simp[len,e]at h),rfl⟩)
theorem Code.zero {t:Trace} {A:cC 200 bL} {c:List Int} {r:Int} (h:Code t A c r):r=0↔qh t c/\n_ t A c:=by
 rcases h with⟨h,rfl⟩|⟨_,h,rfl⟩|⟨_,h,rfl⟩|⟨h1,w,rfl⟩
 .exact⟨λh=>(by cases h),λu=>absurd u.1.1 h⟩
 .exact⟨λh=>(by cases h),λu=>absurd u.1 h⟩
 .exact⟨λh=>(by cases h),λu=>absurd u.2 h⟩
 .exact⟨λ_=>⟨h1,w⟩,λ_=>rfl⟩
def Cons (t:Trace) (A:cC 200 bL) (c:List Int):Prop:=qh t c/\n_ t A c
end Go.VE
namespace Go.VE
def places {α:Type} (f:α->Bool) (l:List α):List Nat:=(List.range l.length).filter λk=>match l[k]? with|some x=>f x|none=>false
theorem LR {α:Type} {f:α->Bool} {l:List α} {k:Nat}:k∈places f l↔∃x,l[k]? = some x/\f x=true:=by
 unfold places;rw[List.mem_filter,List.mem_range];constructor
 .rintro⟨h1,u⟩;rw[ζd h1]at u;exact⟨_,ζd h1,u⟩
 .rintro⟨x,h1,u⟩;exact⟨(ζe.1 h1).1,by rw[h1];exact u⟩
theorem GO {α:Type} (f:α->Bool) (l:List α):(places f l).Nodup:=List.nodup_range.sublist (List.filter_sublist ..)
theorem Dv {α:Type} (f:α->Bool):∀l:List α,(places f l).length=l.countP f:=by
 intro l;unfold places;rw[<-List.countP_eq_length_filter]
 induction l with
 | nil=>rfl
 | cons x l u=>
  rw[List.length_cons,List.range_succ_eq_map,List.countP_cons,List.countP_map,List.countP_cons];simp only[List.getElem?_cons_zero];rw[<-u]
  congr 1
theorem En {α β:Type} {f:α->Bool} {g:β->Bool} {l:List α} {m:List β} (φ:Nat->Nat) (h:∀k∈places f l,φ k∈places g m) (hi:∀k B,k∈places f l->B∈places f l->φ k=φ B->k=B):l.countP f<=m.countP g:=by
 rw[<-Dv,<-Dv];have w:((places f l).map φ).Nodup:=by
  unfold List.Nodup;rw[List.pairwise_map];exact List.Pairwise.imp_of_mem (λ{a b} z A u C=>u (hi a b z A C)) (GO f l)
 have:=B1 (r:=places g m) w λx D=>by
  obtain⟨k,hk,rfl⟩:=List.mem_map.1 D;exact h k hk
 simpa using this
end Go.VE
namespace Go.VE
end Go.VE
namespace Go.VE
def kS (kind m:Int) (x:aY×Event):Bool:=x.2.kind==kind&&x.2.message==m
def fT (t:Trace) (kind m:Int):aY:=match (bU t).find? (kS kind m)with
 | some x=>x.1
 | none=>⟨0,0⟩
theorem K5 {t:Trace} {kind m:Int} {p:Nat} {P:bT} (B:p<9223372036854775806) (D:t.procs.l[p]? = some P) (G:P.events.l.length<1073741824):∀(q i:Nat),i+q=P.events.l.length ->
 bW (λq:Int=>dI.bZ kind m p t ⟨0,0⟩ q) (i:Int)=some (match (iH p i (P.events.l.drop i)).find? (kS kind m)with|some x=>.r x.1|none=>.x ()):=by
 have u:idx t.procs (p:Int)=some P:=by rw[jy];exact D
 intro q
 induction q with
 | zero=>
  intro i hi;rw[eO];unfold dI.bZ;rw[u,ζb,show decide ((i:Int)<len P.events)=false from by simp[len];omega,bG,List.drop_of_length_le (by omega)]
  rfl
 | succ q z=>
  intro i hi;have w:i<P.events.l.length:=by omega
  rw[eO];have A:dI.bZ kind m p t ⟨0,0⟩ i=some (if kS kind m (⟨p,(i:Int)+1⟩,P.events.l[i])then .r ⟨p,(i:Int)+1⟩else .n ((i+1:Nat):Int)):=by
   unfold dI.bZ;rw[u,ζb,show decide ((i:Int)<len P.events)=true from by simp[len];omega,bD,ζb,bK w,ζb,mL,ζb,c7 i (by omega),tA]
   rfl
  rw[A,ζb,List.drop_eq_getElem_cons w];simp only[iH,List.find?_cons]
  cases C:kS kind m (⟨p,(i:Int)+1⟩,P.events.l[i])with
  | true=>rfl
  | false=>
   simp only[Bool.false_eq_true,if_false];exact z (i+1) (by omega)
theorem Kq {t:Trace} (hS:Small t) {kind m:Int}:∀(q p:Nat),p+q=t.procs.l.length ->
 bW (λq:Int=>dI.br kind m t ⟨0,0⟩ q) (p:Int)=some (match (fI p (t.procs.l.drop p)).find? (kS kind m)with|some x=>.r x.1|none=>.x ()):=by
 have h1:=hS.1;intro q
 induction q with
 | zero=>
  intro p w;rw[eO];unfold dI.br;rw[show decide ((p:Int)<len t.procs)=false from by simp[len];omega,bG,List.drop_of_length_le (by omega)]
  rfl
 | succ q z=>
  intro p w;have u:p<t.procs.l.length:=by omega
  have A:bW (λq:Int=>dI.bZ kind m p t ⟨0,0⟩ q) 0=some (match (iH p 0 t.procs.l[p].events.l).find? (kS kind m)with|some x=>.r x.1|none=>.x ()):=K5 (t:=t) (kind:=kind) (m:=m) (by omega) (ζd u) (hS.2 _ (List.getElem_mem u)).1 (t.procs.l[p].events.l.length) 0 (by omega)
  rw[eO];unfold dI.br;rw[show decide ((p:Int)<len t.procs)=true from by simp[len];omega,bD]
  unfold dI.W2;rw[A,List.drop_eq_getElem_cons u];simp only[fI,List.find?_append]
  cases B:(iH p 0 t.procs.l[p].events.l).find? (kS kind m)with
  | some x=>rfl
  | none=>
   simp only[ζb,Fw.elim,Option.none_or];rw[c7 p (by omega)]
   exact z (p+1) (by omega)
theorem find_eq {t:Trace} (hS:Small t) (kind m:Int):dI t kind m=some (fT t kind m):=by
 unfold dI dI.W1;have u:bW (λq:Int=>dI.br kind m t ⟨0,0⟩ q) 0=some (match (bU t).find? (kS kind m)with|some x=>.r x.1|none=>.x ()):=Kq hS (kind:=kind) (m:=m) t.procs.l.length 0 (by omega)
 rw[u];unfold fT;cases (bU t).find? (kS kind m) <;> rfl
theorem uV {t:Trace} {kind m:Int} {x:aY×Event} (h:(bU t).find? (kS kind m)=some x):x∈bU t/\x.2.kind=kind/\x.2.message=m/\fT t kind m=x.1:=by
 have h1:=List.find?_some h;simp only[kS,ζh,beq_iff_eq]at h1;exact⟨List.mem_of_find?_eq_some h,h1.1,h1.2,by unfold fT;rw[h]⟩
theorem HL {t:Trace} {kind m:Int} {x:aY×Event} (B:x∈bU t) (hk:x.2.kind=kind) (D:x.2.message=m):∃y,(bU t).find? (kS kind m)=some y:=by
 cases u:(bU t).find? (kS kind m)with
 | some y=>exact⟨y,rfl⟩
 | none=>
  rw[List.find?_eq_none]at u;exact absurd (u x B) (by simp[kS,hk,D])
theorem K2 {t:Trace} {kind m:Int} (h:∀x∈bU t,¬(x.2.kind=kind/\x.2.message=m)):fT t kind m=⟨0,0⟩:=by
 unfold fT;have:(bU t).find? (kS kind m)=none:=by
  rw[List.find?_eq_none];intro x u;simp only[kS,ζh,beq_iff_eq];exact h x u
 rw[this]
theorem QI {t:Trace} {p k:Nat} {e:Event} (h:mC t p k e) (hk:k<9223372036854775807):ug t ⟨p,k+1⟩=some e:=by
 obtain⟨P,u,w⟩:=h;unfold ug;dsimp only;rw[show idx t.procs (p:Int)=some P from by rw[jy];exact u,ζb,show IntKind.wrap .i64 ((k:Int)+1-1)=(k:Int)from by rw[gV _ (by omega) (by omega)];omega,show idx P.events (k:Int)=some e from by rw[jy];exact w]
 rfl
def uX (t:Trace) (x:aY×Event):Int:=if x.2.kind=1 then 0 else if fT t x.2.kind x.2.message=x.1 then(if x.2.kind=3 then(if sA t x.2.peer x.2.message x.1.proc then 0 else 7)else 0)else 8
theorem M_ {t:Trace} (hS:Small t) {p k:Nat} {e:Event} (h:mC t p k e) (U:kW t.procs.l.length p e):iC t ⟨p,k+1⟩=some (uX t (⟨p,k+1⟩,e)):=by
 have hk:k<1073741824:=by
  obtain⟨P,T,W⟩:=h;have:=(hS.2 P (List.mem_of_getElem? T)).1;have:=(ζe.1 W).1;omega
 unfold iC uX;rw[QI h (by omega),ζb]
 dsimp only
 by_cases h1:e.kind=1
 .rw[show (e.kind==1)=true from by simp[h1],bD,if_pos h1]
 .rw[show (e.kind==1)=false from by simp[h1],bG,if_neg h1,find_eq hS,ζb]
  have C:JW (fT t e.kind e.message) ⟨p,(k:Int)+1⟩=decide (fT t e.kind e.message=⟨p,(k:Int)+1⟩):=by
   unfold JW;rw[Bool.eq_iff_iff];cases fT t e.kind e.message;simp
  rw[C]
  by_cases w:fT t e.kind e.message=⟨p,(k:Int)+1⟩
  .rw[if_pos w,show decide (fT t e.kind e.message=⟨p,(k:Int)+1⟩)=true from by simpa using w,bD]
   by_cases A:e.kind=3
   .rw[if_pos A,show (e.kind==3)=true from by simp[A],bD]
    have D:0<=e.peer/\e.peer<t.procs.l.length:=by
     rcases U with h|⟨_,h1,w,_⟩
     .exact absurd h h1
     .exact⟨h1,w⟩
    have L:e.peer.toNat<t.procs.l.length:=by omega
    have O:=ζd L;have X:=(hS.2 _ (List.getElem_mem L)).1;generalize Y:t.procs.l[e.peer.toNat]=Q at *;have G:idx t.procs e.peer=some Q:=by rw[Ut D.1];exact O
    have I:sA t e.peer e.message p=Q.events.l.any λs=>s.kind==2&&s.message==e.message&&s.peer==p:=by
     unfold sA;rw[O]
    unfold iC.W1;refine Wp.eq (eD (λz:Bool×Int=>∃m:Nat,z.2=m/\m<=Q.events.l.length/\z.1=(Q.events.l.take m).any λs=>s.kind==2&&s.message==e.message&&s.peer==p) (λz=>Q.events.l.length-z.2.toNat) ⟨0,rfl,Nat.zero_le _,rfl⟩ ?_)
    rintro⟨s,i⟩ ⟨m,hi,Z,B⟩;simp only at hi B;subst hi;unfold iC.br;dsimp only;rw[G,ζb,cu];constructor
    .intro J;have u:m<Q.events.l.length:=by simpa [len]using J
     have S:=c7 m (by omega)
     rw[ζb,bK u,ζb,mL,ζb,mL,ζb,kP,ζb,a_];refine⟨⟨m+1,S,by omega,?_⟩,by show _-(IntKind.wrap .i64 ((m:Int)+1)).toNat<_;rw[S];simp;omega⟩
     show (s||_)=_;rw[List.take_add_one,ζd u,List.any_append,B];simp
    .intro J;have u:Q.events.l.length<=m:=by simpa [len]using J
     rw[List.take_of_length_le u]at B;refine(a_ _).2 ?_;rw[I,<-B];cases s
     .exact(a_ _).2 rfl
     .exact(a_ _).2 rfl
   .rw[if_neg A,show (e.kind==3)=false from by simp[A],bG]
  .rw[if_neg w,show decide (fT t e.kind e.message=⟨p,(k:Int)+1⟩)=false from by simpa using w,bG]
theorem L5 {t:Trace} (J:∀x∈bU t,kW t.procs.l.length x.1.proc x.2):(∀x∈bU t,uX t x=0)↔xU t:=by
 constructor
 .intro h;have key:∀x∈bU t,x.2.kind≠1->fT t x.2.kind x.2.message=x.1:=λx u hk=>by
   have:=h x u;unfold uX at this;rw[if_neg hk]at this;split at this
   .assumption
   .cases this
  refine⟨λx u y w z A B=>?_,λx u y w z A B=>?_,λx u z=>?_⟩
  .rw[<-key x u (by omega),<-key y w (by omega),z,A,B]
  .rw[<-key x u (by omega),<-key y w (by omega),z,A,B]
  .have:=h x u;unfold uX at this;rw[if_neg (by omega),if_pos (key x u (by omega)),if_pos z]at this
   split at this
   .assumption
   .cases this
 .intro h x u;unfold uX
  by_cases k1:x.2.kind=1
  .rw[if_pos k1]
  .rw[if_neg k1];obtain⟨y,w⟩:=HL u rfl rfl;obtain⟨D,G,y3,y4⟩:=uV w;have hk:x.2.kind=2\/x.2.kind=3:=by
    rcases J x u with h|⟨h,_⟩
    .exact absurd h k1
    .exact h
   have I:fT t x.2.kind x.2.message=x.1:=by
    rw[y4];rcases hk with hk|hk
    .exact h.snd y D x u (by rw[G,hk]) hk y3
    .exact h.rcv y D x u (by rw[G,hk]) hk y3
   rw[if_pos I]
   by_cases C:x.2.kind=3
   .rw[if_pos C,if_pos (h.has x u C)]
   .rw[if_neg C]
end Go.VE
namespace Go.VE
theorem yf {t:Trace} (D:∀x∈bU t,kW t.procs.l.length x.1.proc x.2) (G:xU t) {z:aY} {f:Event} (B:(z,f)∈bU t) (hk:f.kind=3):∃e,(fT t 2 f.message,e)∈bU t/\e.kind=2/\e.message=f.message:=by
 have h:=G.has _ B hk;have C:0<=f.peer:=by
  rcases D _ B with h|⟨_,h,_⟩
  .grind
  simp_all
 rw[show f.peer=(f.peer.toNat:Nat)from by omega,y_]at h
 obtain⟨k,e,u,h1,w,_⟩:=h;obtain⟨y,A⟩:=HL (dK.2 ⟨_,k,u,rfl⟩:(⟨(f.peer.toNat:Nat),k+1⟩,e)∈bU t) h1 w;obtain⟨I,J,y3,y4⟩:=uV A
 grind
theorem Ih.find {t:Trace} (G:∀x∈bU t,kW t.procs.l.length x.1.proc x.2) (B:xU t) {y z:aY} {f:Event} (h:Ih t y z) (D:(z,f)∈bU t):f.kind=3/\fT t 2 f.message=y:=by
 obtain⟨e,J,h1,w,A,u,L⟩:=h;cases yj w D rfl;obtain⟨O,C,I,Q⟩:=yf G B D u;exact⟨u,B.snd _ C _ h1 I A (by simp_all)⟩
theorem Bt {t:Trace} (hS:Small t) (G:∀x∈bU t,kW t.procs.l.length x.1.proc x.2) (B:xU t) {z:aY} (D:Vd t z) :
 Wp (dN t z) λs=>s.l.length<=2/\∀y,y∈s.l↔Edge t y z:=by
 obtain⟨p,k,f,w,rfl,u⟩:=D.at_;have hk:k<1073741824:=by
  obtain⟨P,B,I⟩:=w;have:=(hS.2 P (List.mem_of_getElem? B)).1
  grind
 have j:∀s:Sl aY,s.l.length<=1->(∀y,y∈s.l↔Vd t y/\(⟨p,k+1⟩:aY)=⟨y.proc,y.index+1⟩)->Wp (dN.J1 s t ⟨p,k+1⟩) λs=>s.l.length<=2/\∀y,y∈s.l↔Edge t y ⟨p,k+1⟩:=by
  intro s T A;unfold dN.J1;rw[QI w (by omega),ζb,cu]
  constructor
  .intro C;have C:f.kind=3:=by grind
   rw[find_eq hS,ζb];unfold iP;rw[if_pos (by omega),ζb,a_]
   refine⟨by show (s.l++[_]).length<=2;grind,λy=>?_⟩
   show y∈s.l++[fT t 2 f.message]↔_;rw[List.mem_append,List.mem_singleton,A];obtain⟨e,L,O,Q⟩:=yf G B u C;constructor
   .rintro (h|rfl)
    .exact⟨h.1,D,.inl h.2⟩
    .exact⟨⟨e,L⟩,D,.inr ⟨e,f,L,u,O,C,Q⟩⟩
   .rintro⟨h1,_,h2|h2⟩
    .grind
    .exact .inr (h2.find G B u).2.symm
  .intro C;refine(a_ _).2 ⟨by omega,λy=>(A y).trans ⟨λh=>⟨h.1,D,.inl h.2⟩,λ⟨h1,_,h2⟩=>⟨h1,h2.elim id λh2=>?_⟩⟩⟩
   have:=(h2.find G B u).1
   grind
 unfold dN;rw[cu];constructor
 .intro h;have h:k+1>1:=by grind
  refine j _ (by simp[Sl.l]) λy=>?_
  have S:IntKind.wrap .i64 (k+1-1)=k:=by rw[gV _ (by omega) (by omega)];omega
  simp only[Sl.l,List.mem_singleton,S,aY.mk.injEq];constructor
  .rintro rfl;obtain⟨P,B,I⟩:=w;have:=(ζe.1 I).1;exact⟨⟨P.events.l[k-1],dK.2 ⟨p,k-1,⟨P,B,ζd (by omega)⟩,by simp;omega⟩⟩,rfl,rfl⟩
  simp_all
 .intro h;refine j _ (by simp[Sl.l]) λy=>⟨λJ=>by simp[Sl.l]at J,λ⟨J,I⟩=>?_⟩
  obtain⟨q,i,f,_,rfl,_⟩:=J.at_
  grind
theorem Ur {α:Type} {r:α->α->Prop} {x:α} (h:Acc r x):¬Relation.TransGen r x x:=by
 induction h with
 | intro x _ u=>
  intro h
  cases h with
  | single h=>exact u x h (.single h)
  | tail h1 w=>exact u _ w (Relation.TransGen.trans (.single w) h1)
theorem JK:∀{d:List Nat} {i k:Nat},d[i]? = some k->(d.set i (k+1)).sum=d.sum+1
 | [],_,_,h=>by simp_all
 | x::d,0,k,h=>by grind
 | x::d,i+1,k,h=>by
  have:=JK (d:=d) (i:=i) (k:=k) (by grind)
  grind
theorem N3:∀{d l:List Nat},d.length=l.length->(∀(i a b:Nat),d[i]? = some a->l[i]? = some b->a<=b)->d.sum<=l.sum
 | [],_,_,_=>by simp
 | x::d,[],h,_=>by simp_all
 | x::d,y::l,h,B=>by
  have h1:=B 0 x y rfl rfl;have u:=N3 (d:=d) (l:=l) (by grind) λi a b w z=>B (i+1) a b (by grind) (by grind)
  simp;omega
def nI (d:List Nat):List Int:=d.map Int.ofNat
def sI (s:Sl Int):Nat:=(s.l.map Int.toNat).sum
theorem Ga (d:List Nat):sI (.row (nI d))=d.sum:=by
 unfold sI nI;rw[show (Sl.row (d.map Int.ofNat)).l=d.map Int.ofNat from rfl,List.map_map,show (Int.toNat ∘ Int.ofNat)=id from rfl,List.map_id]
theorem Nl (d:List Nat):(nI d).length=d.length:=by simp[nI]
structure Kh (t:Trace) (d:List Nat):Prop where
 len:d.length=t.procs.l.length
 le:∀(p k:Nat) P,d[p]? = some k->t.procs.l[p]? = some P->k<=P.events.l.length
 acc:∀(p k j:Nat),d[p]? = some k->j<k->Acc (Edge t) ⟨p,j+1⟩
def wh (t:Trace):Nat:=(t.procs.l.map λP=>P.events.l.length).sum
theorem Kh.sum {t:Trace} {d:List Nat} (h:Kh t d):d.sum<=wh t:=N3 (by simp[h.len]) λi a b z u=>by
 cases w:t.procs.l[i]? with
 | none=>grind
 | some P=>simp[w]at u;rw[<-u];exact h.le i a P z w
theorem CA {d:List Nat} {p:Nat} (h:p<d.length):Sl.rQ (.row (nI d)) (p:Int)=some p:=by
 unfold Sl.rQ;rw[if_pos ⟨by omega,by simpa [Sl.l,Nl]using h⟩];rfl
theorem zJ {d:List Nat} {p k:Nat} (h:d[p]? = some k):Sl.get (.row (nI d)) p=some (k:Int):=by
 unfold Sl.get nI;rw[show (Sl.row (d.map Int.ofNat)).l=d.map Int.ofNat from rfl,List.getElem?_map,h];rfl
def Mv (t:Trace) (B:List Nat) (s:Sl Int) (b:Bool) (d:List Nat):Prop:=s=.row (nI d)/\Kh t d/\B.sum<=d.sum/\(b=true->B.sum<d.sum)
def KQ (t:Trace) (B:List Nat) (p:Nat) (w:Fw (Sl Int×Bool×Int) (Sl Int×Bool) Empty):Prop:=∃u z A,w=.n (u,z,((p+1:Nat):Int))/\Mv t B u z A
theorem Rw {t:Trace} (hS:Small t) (hF:∀x∈bU t,kW t.procs.l.length x.1.proc x.2) (hP:xU t) {B d1:List Nat} {s:Sl Int} {b:Bool} {p:Nat} (hp:p<t.procs.l.length) (hM:Mv t B s b d1) :
 Wp (en.W3 s b p t) (KQ t B p):=by
 have X:=bK hp;have hn:=hS.1;have af:=(hS.2 _ (List.getElem_mem hp)).1;have C:=ζd hp;generalize t.procs.l[p]=P at *;refine eD (λq:Sl Int×Bool=>∃d,Mv t B q.1 q.2 d) (λq=>wh t-sI q.1) ⟨d1,hM⟩ ?_
 rintro⟨s,b⟩ ⟨d,rfl,u,hd,hb⟩;have w:p<d.length:=by rw[u.len];omega
 have hg:=ζd w;generalize d[p]=k at hg;have ah:=u.le p k P hg C;have stop:∀{U:Empty->Prop},Wp (some (Fw.x (Sl.row (nI d),b))) (Q5 (λq:Sl Int×Bool=>∃d,Mv t B q.1 q.2 d) (λq=>wh t-sI q.1) (λe=>Wp (some (Fw.n (e.1,e.2,IntKind.wrap .i64 (p+1)))) (KQ t B p)) U (Sl.row (nI d),b)):=by
  refine(a_ _).2 ((a_ _).2 ⟨_,_,d,?_,rfl,u,hd,hb⟩);rw[c7 p (by omega)]
 unfold en.fe;rw[CA w,ζb,zJ hg,ζb,X,ζb,cu];refine⟨λh=>?_,λ_=>stop⟩
 have D:k<P.events.l.length:=by grind
 have Y:mC t p k P.events.l[k]:=⟨P,C,ζd D⟩;have z:(⟨p,k+1⟩,P.events.l[k])∈bU t:=dK.2 ⟨p,k,Y,rfl⟩;have go:(P.events.l[k].kind=3->∀q j:Nat,fT t 2 P.events.l[k].message=⟨q,j+1⟩->∃W,d[q]? = some W/\j<W)->∀{px:Sl Int×Bool->Prop} {U:Empty->Prop},Wp (en.J4 (.row (nI d)) p t) (Q5 (λq:Sl Int×Bool=>∃d,Mv t B q.1 q.2 d) (λq=>wh t-sI q.1) px U (Sl.row (nI d),b)):=by
  intro hq px U;unfold en.J4;rw[CA w,ζb,zJ hg,ζb,ζb];unfold Sl.put;rw[if_pos (by simpa [Sl.l,Nl]using w),ζb,a_]
  have G:(nI d).set p (IntKind.wrap .i64 ((k:Int)+1))=nI (d.set p (k+1)):=by
   rw[c7 k (by omega)];unfold nI;simp_all
  have I:=JK hg;have J:Kh t (d.set p (k+1)):=by
   refine⟨by simp[u.len],λq i Q hi Z=>?_,λq i j hi hj=>?_⟩
   .rw[List.getElem?_set]at hi;split at hi
    .grind
    .exact u.le q i Q hi Z
   .rw[List.getElem?_set]at hi;split at hi
    .rename_i e;subst e;cases hi
     by_cases aa:j<k
     .exact u.acc p k j hg aa
     .have:j=k:=by omega
      subst this;refine Acc.intro _ λy hy=>?_
      obtain⟨L,_,he|he⟩:=hy
      .obtain⟨q,i,f,_,rfl,_⟩:=L.at_;simp[aY.mk.injEq]at he;have e1:q=p:=by omega
       subst e1;exact u.acc q j i hg (by omega)
      .obtain⟨A,hf⟩:=he.find hF hP z;obtain⟨q,i,f,_,rfl,_⟩:=L.at_;obtain⟨W,ab,ad⟩:=hq A q i hf;exact u.acc q W i ab ad
    .exact u.acc q i j hi hj
  have ai:=J.sum;refine⟨⟨_,by grind,J,by grind,λ_=>by grind⟩,?_⟩
  show wh t-sI (.row ((nI d).set p (IntKind.wrap .i64 ((k:Int)+1))))<wh t-sI (.row (nI d));rw[G,Ga,Ga,I]
  grind
 dsimp only;rw[ζb,ζb,zJ hg,ζb,bK D,ζb,cu];refine⟨λA=>?_,λA=>go λh=>by simp[h]at A⟩
 have A:P.events.l[k].kind=3:=by simpa using A
 obtain⟨e,a1,a2,a3⟩:=yf hF hP z A;obtain⟨q,j,O,S⟩:=dK.1 a1;simp only at S;have T:q<d.length:=by
  obtain⟨Q,Z,_⟩:=O;rw[u.len];exact(ζe.1 Z).1
 have ae:=ζd T;rw[find_eq hS,ζb,S,CA T,ζb,zJ ae,ζb,cu];refine⟨λ_=>stop,λh=>go λ_ q' j' hh=>?_⟩
 grind
theorem KY {t:Trace} (hS:Small t) (U:∀x∈bU t,kW t.procs.l.length x.1.proc x.2) (B:xU t):Wp (en t) λb=>b=true->¬Ke t:=by
 have hn:=hS.1;unfold en Cd;rw[if_pos (by grind),ζb]
 have h0:(Sl.row (List.replicate (len t.procs).toNat 0))=.row (nI (List.replicate t.procs.l.length 0)):=by simp[nI]
 rw[h0];refine eD (λs:Sl Int=>∃d,s=.row (nI d)/\Kh t d) (λs=>wh t-sI s) ⟨_,rfl,by simp,λp k P h _=>by grind,λp k j h hj=>by grind⟩ ?_
 rintro s ⟨C,rfl,L⟩;refine eD (λq:Sl Int×Bool×Int=>∃(n:Nat) (d:List Nat),q.2.2=n/\n<=t.procs.l.length/\Mv t C q.1 q.2.1 d) (λq=>t.procs.l.length-q.2.2.toNat) ⟨0,C,rfl,Nat.zero_le _,rfl,L,Nat.le_refl _,by simp⟩ ?_
 rintro⟨s,b,i⟩ ⟨n,d,hi,O,hM⟩;subst hi;unfold en.bZ;rw[cu];constructor
 .intro h;have u:n<t.procs.l.length:=by grind
  refine(Rw hS U B u hM).mono ?_;rintro w ⟨s',b',Q,rfl,D⟩;exact⟨⟨n+1,Q,rfl,by omega,D⟩,by simp;omega⟩
 .intro _;obtain⟨rfl,z,S,G⟩:=hM;rw[a_];show Wp (bf b _ _) _;rw[cu];refine⟨λT=>(a_ _).2 ⟨⟨d,rfl,z⟩,?_⟩,λ_=>(a_ _).2 ?_⟩
  .show wh t-sI (.row (nI d))<wh t-sI (.row (nI C));rw[Ga,Ga];have:=G T;have:=z.sum;omega
  .refine eD (λi:Int=>∃n:Nat,i=n/\n<=t.procs.l.length/\∀p,p<n->∀P,t.procs.l[p]? = some P->d[p]? = some P.events.l.length) (λi:Int=>t.procs.l.length-i.toNat) ⟨0,rfl,Nat.zero_le _,λp I=>absurd I (by omega)⟩ ?_
   rintro i ⟨n,rfl,W,X⟩;unfold en.xZ;rw[cu];constructor
   .intro h;have u:n<t.procs.l.length:=by grind
    have A:n<d.length:=by rw[z.len];omega
    have hg:=ζd A;rw[CA A,ζb,zJ hg,ζb,bK u,ζb,cu];refine⟨λ_=>(a_ _).2 ((a_ _).2 λh=>by cases h),λh=>(a_ _).2 ⟨⟨n+1,c7 n (by omega),by omega,λp I P B=>?_⟩,by rw[c7 n (by omega)];simp;omega⟩⟩
    by_cases e:p=n
    .subst e;rw[ζd u]at B;have:=z.le p _ _ hg (ζd u)
     grind
    grind
   .intro h;have Y:t.procs.l.length<=n:=by grind
    refine(a_ _).2 ((a_ _).2 λ_ ⟨x,J⟩=>?_)
    obtain⟨p,k,e,⟨P,B,Z⟩,rfl,_⟩:=J.l.at_;have aa:=(ζe.1 B).1;exact Ur (z.acc p _ k (X p (by omega) P B) (ζe.1 Z).1) J
end Go.VE
namespace Go.VE
def qF (out:List (List Bool)) (y:aY):Bool:=match out[y.proc.toNat]? with
 | some row=>row[y.index.toNat]?.getD false
 | none=>false
theorem zU {t:Trace} {out:List (List Bool)} {p k:Nat} {row:List Bool} (hr:out[p]? = some row) (hk:k+1<row.length) {z:aY} (B:Vd t z) :
 qF (out.set p (row.set (k+1) true)) z=(decide (z=⟨p,k+1⟩)||qF out z):=by
 obtain⟨q,j,e,_,rfl,_⟩:=B.at_;have A:=(ζe.1 hr).1;unfold qF;have e1:(⟨(q:Int),(j:Int)+1⟩:aY).proc.toNat=q:=rfl;have e2:(⟨(q:Int),(j:Int)+1⟩:aY).index.toNat=j+1:=by show ((j:Int)+1).toNat=j+1;omega
 rw[e1,e2,List.getElem?_set]
 by_cases u:p=q
 .subst u;rw[if_pos rfl,if_pos A,hr];dsimp only;rw[List.getElem?_set]
  by_cases w:k=j
  .subst w;simp[hk]
  .rw[if_neg (by omega),show decide ((⟨(p:Int),(j:Int)+1⟩:aY)=⟨p,k+1⟩)=false from by simp;omega,Bool.false_or]
 .rw[if_neg u,show decide ((⟨(q:Int),(j:Int)+1⟩:aY)=⟨p,k+1⟩)=false from by simp;omega,Bool.false_or]
theorem AB {α:Type} {f g:α->Bool}:∀{l:List α},(∀z∈l,f z=true->g z=true)->(∃z∈l,f z=false/\g z=true)->l.countP f<l.countP g
 | [],_,⟨z,hz,_⟩=>by simp at hz
 | a::l,h,⟨z,hz,B,hg⟩=>by
  simp only[List.countP_cons];have D:=List.countP_mono_left (l:=l) (p:=f) (q:=g) λx u=>h x (List.mem_cons_of_mem _ u)
  rcases List.mem_cons.1 hz with rfl|hz
  .simp[B,hg];omega
  .have:=AB (l:=l) (λx u=>h x (List.mem_cons_of_mem _ u)) ⟨z,hz,B,hg⟩
   have h1:=h a (List.mem_cons_self ..)
   cases w:f a with
   | true=>simp[h1 w];omega
   | false=>simp;split <;> omega
def cnt (t:Trace) (out:List (List Bool)):Nat:=(bU t).countP λz=>qF out z.1
structure Wm (t:Trace) (x:aY) (out:List (List Bool)) (rest:List aY):Prop where
 shp:∀(p:Nat) P,t.procs.l[p]? = some P->∃row,out[p]? = some row/\row.length=P.events.l.length+1
 len:out.length=t.procs.l.length
 que:∀y∈rest,Way t y x
 snd:∀y,Vd t y->qF out y=true->Way t y x
 cls:∀z,z=x\/Vd t z/\qF out z=true->∀y,Edge t y z->qF out y=true\/y∈rest
 le:rest.length<=2*cnt t out+2
theorem Bz {t:Trace} {y:aY}:qF (gK t) y=false:=by
 unfold qF gK;split
 .rename_i row h;rw[List.getElem?_map]at h
  cases u:t.procs.l[y.proc.toNat]? with
  | none=>simp[u]at h
  | some P=>
   simp[u]at h;subst h;rw[List.getElem?_replicate];split <;> rfl
 .rfl
theorem Tn {t:Trace} (hS:Small t) (hN:(bU t).length<1073741824) (hF:∀x∈bU t,kW t.procs.l.length x.1.proc x.2) (J:xU t) {x:aY} (hx:Vd t x) :
 Wp (nv t x) λs=>∃out,s=nested out/\Wm t x out []/\∀y,Vd t y->(qF out y=true↔Way t y x):=by
 unfold nv;rw[if_pos (by
  unfold zF;simp only[ζh,List.all_eq_true,decide_eq_true_eq];exact⟨by have:=hS.1;omega,λP J=>by have:=(hS.2 P J).1;omega⟩),jc]
 refine(Bt hS hF J hx).mono λs U=>?_
 refine eD (λq:List (List Bool)×List aY=>Wm t x q.1 q.2) (λq=>2*((bU t).length-cnt t q.1)+q.2.length) ⟨λp P J=>⟨List.replicate (P.events.l.length+1) false,by simp[gK,J],by simp⟩,by simp[gK],λy B=>.single ((U.2 y).1 B),λy _ h=>(by rw[Bz]at h;cases h),λz hz y B=>?_,by have:=U.1;show s.l.length<=2*cnt t (gK t)+2;omega⟩ ?_
 .rcases hz with rfl|⟨_,h⟩
  .exact .inr ((U.2 y).2 B)
  .rw[Bz]at h;cases h
 rintro⟨out,rest⟩ u
 cases rest with
 | nil=>
  show Wp (some _) _;refine(a_ _).2 ((a_ _).2 ⟨out,rfl,u,λy B=>⟨u.snd y B,λC=>?_⟩⟩)
  have key:∀w,Way t y w->w=x\/Vd t w/\qF out w=true->qF out y=true:=λw C=>by
   induction C with
   | single h=>exact λC=>(u.cls _ C _ h).elim id λh=>by cases h
   | tail ad I ih=>exact λC=>ih (.inr ⟨I.1,(u.cls _ C _ I).elim id λh=>by cases h⟩)
  exact key x C (.inl rfl)
 | cons y rest=>
  have D:=u.que y (List.mem_cons_self ..);have G:=D.l;obtain⟨p,k,e,W,rfl,L⟩:=G.at_;obtain⟨P,O,hk⟩:=W;have ae:=(ζe.1 hk).1;obtain⟨row,hr,X⟩:=u.shp p P O;have A:k+1<row.length:=by omega
  show Wp (oA _ (out,⟨p,k+1⟩::rest)) _;unfold oA;have e2:((k:Int)+1).toNat=k+1:=by omega
  dsimp only;rw[if_pos ⟨by omega,by omega⟩,show ((p:Nat):Int).toNat=p from rfl,e2,hr,ζb,ζd A,ζb,cu]
  have S:qF out ⟨p,k+1⟩=row[k+1]:=by
   unfold qF;rw[show ((⟨(p:Int),(k:Int)+1⟩:aY).proc).toNat=p from rfl,hr];dsimp only;rw[e2,ζd A];rfl
  constructor
  .intro Y;rw[a_];refine⟨⟨u.shp,u.len,λy B=>u.que y (List.mem_cons_of_mem _ B),u.snd,λz hz y B=>?_,by have:=u.le;simp only[List.length_cons]at this;show rest.length<=2*cnt t out+2;omega⟩,Nat.add_lt_add_left (Nat.lt_succ_self _) _⟩
   rcases u.cls z hz y B with h|h
   .exact .inl h
   .rcases List.mem_cons.1 h with rfl|h
    .exact .inl (by rw[S];exact Y)
    .exact .inr h
  .intro Y;rw[jc];refine(Bt hS hF J G).mono λmore Z=>?_
   have aa:=u.le;simp only[List.length_cons]at aa;have af:cnt t out<=(bU t).length:=List.countP_le_length;have ah:=Z.1;have ai:cnt t out<cnt t (out.set p (row.set (k+1) true)):=AB (λz hz h=>by rw[zU hr A ⟨_,hz⟩,h,Bool.or_true]) ⟨_,L,by rw[S,Y],by rw[zU hr A G];simp⟩
   have ab:cnt t (out.set p (row.set (k+1) true))<=(bU t).length:=List.countP_le_length;rw[if_pos (by omega),a_]
   refine⟨⟨λq Q hQ=>?_,by show (out.set _ _).length=_;rw[List.length_set];exact u.len,λz hz=>?_,λz hz h=>?_,λz hz y B=>?_,by show (rest++more.l).length<=_;rw[ζi];show _<=2*cnt t (out.set p (row.set (k+1) true))+2;omega⟩,?_⟩
   .show ∃r,(out.set p (row.set (k+1) true))[q]? = some r/\_;rw[List.getElem?_set];split
    .rename_i e;subst e;rw[if_pos (ζe.1 hr).1];rw[O]at hQ;cases hQ;exact⟨_,rfl,by simp[X]⟩
    .exact u.shp q Q hQ
   .rcases List.mem_append.1 hz with hz|hz
    .exact u.que z (List.mem_cons_of_mem _ hz)
    .exact .trans (.single ((Z.2 z).1 hz)) D
   .show Way t z x;have h:qF (out.set p (row.set (k+1) true)) z=true:=h;rw[zU hr A hz]at h;simp only[Bool.or_eq_true,decide_eq_true_eq]at h;rcases h with rfl|h
    .exact D
    .exact u.snd z hz h
   .show qF (out.set p (row.set (k+1) true)) y=true\/y∈rest++more.l;rw[zU hr A B.1];have old:z=x\/Vd t z/\qF out z=true->(decide (y=⟨p,k+1⟩)||qF out y)=true\/y∈rest++more.l:=λhz=>by
     rcases u.cls z hz y B with h|h
     .exact .inl (by rw[show qF out y=true from h,Bool.or_true])
     .rcases List.mem_cons.1 h with rfl|h
      .exact .inl (by simp)
      .exact .inr (List.mem_append_left _ h)
    rcases hz with hz|⟨T,hz⟩
    .exact old (.inl hz)
    .have hz:qF (out.set p (row.set (k+1) true)) z=true:=hz;rw[zU hr A T]at hz;simp only[Bool.or_eq_true,decide_eq_true_eq]at hz;rcases hz with rfl|hz
     .exact .inr (List.mem_append_right _ ((Z.2 y).2 B))
     .exact old (.inr ⟨T,hz⟩)
   .show 2*((bU t).length-cnt t (out.set p (row.set (k+1) true)))+(rest++more.l).length<2*((bU t).length-cnt t out)+(_::rest).length;rw[ζi,List.length_cons];omega
theorem Vo {t:Trace} (hS:Small t) (Y:(bU t).length<1073741824) (hF:∀x∈bU t,kW t.procs.l.length x.1.proc x.2) (D:xU t):Wp (cS.W6 0 t ⟨0,0⟩) λr=>(r.2=0↔¬Ke t):=by
 have hn:=hS.1;unfold cS.W6;refine eD (λi:Int=>∃n:Nat,i=n/\n<=t.procs.l.length/\∀(p k:Nat) e,p<n->mC t p k e->¬Way t ⟨p,k+1⟩ ⟨p,k+1⟩) (λi:Int=>t.procs.l.length-i.toNat) ⟨0,rfl,Nat.zero_le _,λp k e S=>absurd S (by omega)⟩ ?_
 rintro i ⟨n,rfl,X,T⟩;unfold cS.Kj;rw[cu];constructor
 .intro h;have w:n<t.procs.l.length:=by simpa [len]using h
  have G:=bK w;have z:=ζd w;have Z:=(hS.2 _ (List.getElem_mem w)).1;generalize t.procs.l[n]=P at *;unfold cS.W7;refine eD (λi:Int=>∃m:Nat,i=m/\m<=P.events.l.length/\∀k,k<m->¬Way t ⟨n,k+1⟩ ⟨n,k+1⟩) (λi:Int=>P.events.l.length-i.toNat) ⟨0,rfl,Nat.zero_le _,λk hk=>absurd hk (by omega)⟩ ?_
  rintro i ⟨m,rfl,hm,hk⟩;unfold cS.JF;rw[G,ζb,cu];constructor
  .intro h;have I:m<P.events.l.length:=by simpa [len]using h
   have J:=c7 m (by omega)
   have hv:Vd t ⟨n,m+1⟩:=⟨P.events.l[m],dK.2 ⟨n,m,⟨P,z,ζd I⟩,rfl⟩⟩;rw[J,show (((m+1:Nat)):Int)=(m:Int)+1 from by simp,jc]
   refine(Tn hS Y hF D hv).mono ?_;rintro s ⟨out,rfl,hI,A⟩;obtain⟨row,hr,aa⟩:=hI.shp n P z;have L:out≠[]:=by rintro rfl;cases hr
   have B:m+1<row.length:=by omega
   have h1:idx (nested out) (n:Int)=some (.row row):=by
    unfold nested;rw[if_neg L,jy];show (out.map Sl.row)[n]? = _;rw[List.getElem?_map,hr];rfl
   have h2:idx (Sl.row row) ((m:Int)+1)=some row[m+1]:=by
    rw[show (m:Int)+1=((m+1:Nat):Int)from by simp]
    exact bK (s:=Sl.row row) B
   rw[h1,ζb,h2,ζb,cu];have hb:row[m+1]=qF out ⟨n,m+1⟩:=by
    unfold qF;rw[show ((⟨(n:Int),(m:Int)+1⟩:aY).proc).toNat=n from rfl,hr];dsimp only;rw[show ((m:Int)+1).toNat=m+1 from by omega,ζd B];rfl
   rw[hb];refine⟨λC=>(a_ _).2 ((a_ _).2 ((a_ _).2 ⟨λh=>(by cases h),λh=>absurd ⟨_,(A _ hv).1 C⟩ h⟩)),λC=>(a_ _).2 ⟨⟨m+1,by simp,by omega,λk ab=>?_⟩,by simp;omega⟩⟩
   by_cases e:k=m
   .subst e;exact λJ=>by rw[(A _ hv).2 J]at C;cases C
   .exact hk k (by omega)
  .intro h;have O:P.events.l.length<=m:=by simpa [len]using h
   refine(a_ _).2 ((a_ _).2 ⟨⟨n+1,c7 n (by omega),by omega,λp k e S u=>?_⟩,by rw[c7 n (by omega)];simp;omega⟩)
   by_cases e:p=n
   .subst e;obtain⟨Q,U,he⟩:=u;rw[z]at U;cases U;have:=(ζe.1 he).1;exact hk k (by omega)
   .exact T p k _ (by omega) u
 .intro h;have O:t.procs.l.length<=n:=by simpa [len]using h
  refine(a_ _).2 ((a_ _).2 ⟨λ_ ⟨x,W⟩=>?_,λ_=>rfl⟩)
  obtain⟨p,k,e,u,rfl,_⟩:=W.l.at_;obtain⟨P,D,_⟩:=id u;exact T p k e (by have:=(ζe.1 D).1;omega) u W
end Go.VE
namespace Go.VE
theorem HP {t:Trace} (B:∀x∈bU t,kW t.procs.l.length x.1.proc x.2):(∀(p k:Nat) e,mC t p k e->uX t (⟨p,k+1⟩,e)=0)↔xU t:=
 Iff.trans ⟨λh x w=>by obtain⟨p,k,h1,u⟩:=dK.1 w;obtain⟨a,e⟩:=x;simp only at h1 u;rw[u];exact h p k e h1,λh p k e z=>h _ (dK.2 ⟨p,k,z,rfl⟩)⟩ (L5 B)
theorem MR {t:Trace} (hS:Small t) (hN:(bU t).length<1073741824):Wp (cS t) λr=>(r.2=0↔Ok t):=by
 have hn:=hS.1;unfold cS;rw[kP,ζb,cu];refine⟨λL=>(a_ _).2 ⟨λh=>(by cases h),λh=>?_⟩,λL=>?_⟩
 .have h1:=h.one;have h8:=h.few;simp only[Bool.or_eq_true,decide_eq_true_eq,len]at L;omega
 have h8:1<=t.procs.l.length/\t.procs.l.length<=8:=by
  simp only[Bool.or_eq_false_iff,decide_eq_false_iff_not,len]at L;omega
 unfold cS.W1;refine eD (λi:Int=>∃n:Nat,i=n/\n<=t.procs.l.length/\∀p,p<n->rZ t p=0) (λi:Int=>t.procs.l.length-i.toNat) ⟨0,rfl,Nat.zero_le _,λp D=>absurd D (by omega)⟩ ?_
 rintro i ⟨n,rfl,ad,hh⟩;unfold cS.br;rw[cu];constructor
 .intro h;have w:n<t.procs.l.length:=by simpa [len]using h
  rw[Ol hS w,ζb,cu];refine⟨λh0=>(a_ _).2 ⟨⟨n+1,c7 n (by omega),by omega,λp D=>?_⟩,by rw[c7 n (by omega)];simp;omega⟩,λh0=>(a_ _).2 ((a_ _).2 ⟨λh=>?_,λh=>?_⟩)⟩
  .by_cases e:p=n
   .subst e;simpa using h0
   .exact hh p (by omega)
  .simp only at h;simp[h]at h0
  .simp[h.heads n w]at h0
 intro h;have ae:t.procs.l.length<=n:=by simpa [len]using h
 rw[a_];unfold cS.W2;refine eD (λi:Int=>∃n:Nat,i=n/\n<=t.procs.l.length/\∀(p k:Nat) P e,p<n->t.procs.l[p]? = some P->P.events.l[k]? = some e->nK t.procs.l.length P p k e=0) (λi:Int=>t.procs.l.length-i.toNat) ⟨0,rfl,Nat.zero_le _,λp k P e D=>absurd D (by omega)⟩ ?_
 rintro i ⟨G,rfl,ab,U⟩;unfold cS.bZ;rw[cu];constructor
 .intro h;have w:G<t.procs.l.length:=by simpa [len]using h
  have C:=bK w;have A:=ζd w;have O:=(hS.2 _ (List.getElem_mem w)).1;generalize t.procs.l[G]=P at C A O;unfold cS.W3;refine eD (λi:Int=>∃m:Nat,i=m/\m<=P.events.l.length/\∀(k:Nat) e,k<m->P.events.l[k]? = some e->nK t.procs.l.length P G k e=0) (λi:Int=>P.events.l.length-i.toNat) ⟨0,rfl,Nat.zero_le _,λk e hk=>absurd hk (by omega)⟩ ?_
  rintro i ⟨m,rfl,hm,hk⟩;unfold cS.fe;rw[C,ζb,cu];constructor
  .intro h;have S:m<P.events.l.length:=by simpa [len]using h
   have B:=ζd S;have Z:=c7 m (by omega)
   rw[Oi hS A B,ζb,cu];refine⟨λh0=>(a_ _).2 ⟨⟨m+1,Z,by omega,λk e aa u=>?_⟩,by rw[Z];simp;omega⟩,λh0=>(a_ _).2 ((a_ _).2 ((a_ _).2 ⟨λh=>?_,λh=>?_⟩))⟩
   .by_cases ek:k=m
    .subst ek;rw[B]at u;cases u;simpa using h0
    .exact hk k e (by omega) u
   .simp only at h;simp[h]at h0
   .simp[h.eY G m P _ A B]at h0
  .intro h;have I:P.events.l.length<=m:=by simpa [len]using h
   refine(a_ _).2 ((a_ _).2 ⟨⟨G+1,c7 G (by omega),by omega,λp k Q e D T u=>?_⟩,by rw[c7 G (by omega)];simp;omega⟩)
   by_cases ep:p=G
   .subst ep;rw[A]at T;cases T;exact hk k e (by have:=(ζe.1 u).1;omega) u
   .exact U p k Q e (by omega) T u
 intro h;have I:t.procs.l.length<=G:=by simpa [len]using h
 have U:∀(p k:Nat) P e,t.procs.l[p]? = some P->P.events.l[k]? = some e->nK t.procs.l.length P p k e=0:=λp k P e J hk=>U p k P e (by have:=(ζe.1 J).1;omega) J hk
 have W:=Et U;rw[a_];unfold cS.W4;refine eD (λi:Int=>∃n:Nat,i=n/\n<=t.procs.l.length/\∀(p k:Nat) e,p<n->mC t p k e->uX t (⟨p,k+1⟩,e)=0) (λi:Int=>t.procs.l.length-i.toNat) ⟨0,rfl,Nat.zero_le _,λp k e D=>absurd D (by omega)⟩ ?_
 rintro i ⟨q,rfl,hq,X⟩;unfold cS.Jz;rw[cu];constructor
 .intro h;have w:q<t.procs.l.length:=by simpa [len]using h
  have C:=bK w;have A:=ζd w;have O:=(hS.2 _ (List.getElem_mem w)).1;generalize t.procs.l[q]=P at C A O;unfold cS.W5;refine eD (λi:Int=>∃m:Nat,i=m/\m<=P.events.l.length/\∀(k:Nat) e,k<m->P.events.l[k]? = some e->uX t (⟨q,k+1⟩,e)=0) (λi:Int=>P.events.l.length-i.toNat) ⟨0,rfl,Nat.zero_le _,λk e hk=>absurd hk (by omega)⟩ ?_
  rintro i ⟨m,rfl,hm,hk⟩;unfold cS.xZ;rw[C,ζb,cu];constructor
  .intro h;have S:m<P.events.l.length:=by simpa [len]using h
   have B:=ζd S;have Z:=c7 m (by omega)
   have z:mC t q m P.events.l[m]:=⟨P,A,B⟩;rw[Z,show (((m+1:Nat)):Int)=(m:Int)+1 from by simp,M_ hS z (W (⟨q,m+1⟩,P.events.l[m]) (dK.2 ⟨q,m,z,rfl⟩)),ζb,cu]
   refine⟨λh0=>(a_ _).2 ⟨⟨m+1,by simp,by omega,λk e aa u=>?_⟩,by simp;omega⟩,λh0=>(a_ _).2 ((a_ _).2 ((a_ _).2 ⟨λh=>?_,λh=>?_⟩))⟩
   .by_cases ek:k=m
    .subst ek;rw[B]at u;cases u;simpa using h0
    .exact hk k e (by omega) u
   .simp only at h;simp[h]at h0
   .simp[(HP W).2 h.zA q m _ z]at h0
  .intro h;have I:P.events.l.length<=m:=by simpa [len]using h
   refine(a_ _).2 ((a_ _).2 ⟨⟨q+1,c7 q (by omega),by omega,λp k e D z=>?_⟩,by rw[c7 q (by omega)];simp;omega⟩)
   by_cases ep:p=q
   .subst ep;obtain⟨Q,T,u⟩:=z;rw[A]at T;cases T;exact hk k e (by have:=(ζe.1 u).1;omega) u
   .exact X p k e (by omega) z
 intro h;have af:t.procs.l.length<=q:=by simpa [len]using h
 have J:xU t:=(HP W).1 λp k e z=>X p k e (by obtain⟨P,J,_⟩:=z;have:=(ζe.1 J).1;omega) z
 have Y:¬Ke t↔Ok t:=⟨λh=>⟨h8.1,h8.2,λp D=>hh p (by omega),U,J,h⟩,λh=>h.acyc⟩
 rw[a_,jc];refine(KY hS W J).mono λb hb=>?_
 rw[cu];exact⟨λh=>(a_ _).2 ⟨λ_=>Y.1 (hb h),λ_=>rfl⟩,λ_=>(Vo hS hN W J).mono λr hr=>hr.trans Y⟩
theorem EV {t:Trace} (hS:Small t) (B:(bU t).length<1073741824):∃b,dJ t=some b/\pL t=some b/\(b=true->VT t):=by
 obtain⟨b,u,h1,w⟩:=OD hS B;refine⟨b,u,?_,h1⟩;unfold pL;obtain⟨r,hr,z⟩:=MR hS B;rw[hr,ζb]
 congr 1
 rw[Bool.eq_iff_iff,beq_iff_eq,z];exact⟨w,λh=>(h1 h).ok⟩
end Go.VE
namespace Go.VE
theorem OT {t:Trace} (hS:Small t) {c:Sl Int} (D:c.l.length=t.procs.l.length) {step:Int->Option (Fw Int Unit Unit)}
 (Y:∀i,step i=bf (decide (i<(len c))) ((idx c i).bind λG=>(bf (decide (G<0)) (some true) ((idx c i).bind λJ=>(idx t.procs i).bind λU=>some (decide (J>(len U.events)))):Option Bool).bind λW=>bf W (some (.r ())) (some (.n (IntKind.wrap .i64 (i+1))))) (some (.x ()))) :
 Wp ((bW step 0).bind (Fw.elim (λ_=>some true) (λ_=>some false))) λb=>(b=true↔qh t c.l):=by
 have h1:=hS.1;refine eD (λs:Int=>∃n:Nat,s=n/\n<=c.l.length/\∀(p:Nat) (a:Int) (P:bT),p<n->c.l[p]? = some a->t.procs.l[p]? = some P->0<=a/\a<=P.events.l.length) (λs:Int=>c.l.length-s.toNat) ⟨0,rfl,Nat.zero_le _,λp a P h=>absurd h (by omega)⟩ ?_
 rintro s ⟨n,rfl,Q,C⟩;rw[Y,cu];constructor
 .intro h;have w:n<c.l.length:=by simpa [len]using h
  have u:n<t.procs.l.length:=by omega
  have I:=c7 n (by omega)
  rw[bK w,ζb,ζb,bK u,ζb,kP,ζb,cu];constructor
  .intro z;have z:c.l[n]<0\/c.l[n]>t.procs.l[n].events.l.length:=by simpa [len]using z
   refine(a_ _).2 ((a_ _).2 ⟨λh=>(by cases h),λL=>?_⟩)
   have:=L.2 n _ _ (ζd w) (ζd u);omega
  .intro z;have z:0<=c.l[n]/\c.l[n]<=t.procs.l[n].events.l.length:=by simpa [len]using z
   refine(a_ _).2 ⟨⟨n+1,I,by omega,λp a P S A B=>?_⟩,by rw[I];simp;omega⟩
   by_cases e:p=n
   .subst e;rw[ζd w]at A;cases A;rw[ζd u]at B;cases B;exact z
   .exact C p a P (by omega) A B
 .intro h;have O:c.l.length<=n:=by simpa [len]using h
  refine(a_ _).2 ((a_ _).2 ⟨λ_=>⟨D,λp a P A B=>C p a P (by have:=(ζe.1 A).1;omega) A B⟩,λ_=>rfl⟩)
theorem S9 {t:Trace} (hS:Small t) {c:Sl Int} (B:c.l.length=t.procs.l.length):Wp (lT t c) λb=>(b=true↔qh t c.l):=by
 unfold lT;rw[show (len c==len t.procs)=true from by simp[len,B],bD]
 exact OT hS B λi=>rfl
theorem EK {t:Trace} (hV:VT t) {A:cC 200 bL} (hM:jQ t (bU t) A) {p k:Nat} {e:Event} (B:mC t p k e) (hk:e.kind=3):fT t 2 e.message=(ag A e.message).from_:=by
 obtain⟨y,h1,u,w⟩:=yf hV.formed hV.ok.zA (dK.2 ⟨p,k,B,rfl⟩:((⟨p,k+1⟩:aY),e)∈bU t) hk;have:=hM.snd _ h1 u;simp only[w]at this;exact this.symm
theorem D7 (t:Trace) (kind m:Int):fT t kind m=⟨0,0⟩/\(∀x∈bU t,¬(x.2.kind=kind/\x.2.message=m))\/∃z,(fT t kind m,z)∈bU t/\z.kind=kind/\z.message=m:=by
 cases h:(bU t).find? (kS kind m)with
 | some x=>
  obtain⟨w,A,B,C⟩:=uV h;exact .inr ⟨x.2,by rw[C];exact w,A,B⟩
 | none=>
  rw[List.find?_eq_none]at h;have u:∀x∈bU t,¬(x.2.kind=kind/\x.2.message=m):=λx D=>by have:=h x D;simpa [kS]using this
  exact .inl ⟨K2 u,u⟩
theorem Jy {t:Trace} (hV:VT t) {r s:aY} {z e:Event} (hr:(r,z)∈bU t) (D:z.kind=3) (B:(s,e)∈bU t) (G:e.kind=2) (J:e.message=z.message):e.peer=r.proc/\z.peer=s.proc:=by
 have h:=hV.ok.zA.has _ hr D;have I:0<=z.peer:=by
  rcases hV.formed _ hr with h|⟨_,h,_⟩
  .simp only at h;omega
  .exact h
 rw[show z.peer=((z.peer.toNat:Nat):Int)from by omega,y_]at h
 obtain⟨k,y,w,h1,A,C⟩:=h;have u:((⟨(z.peer.toNat:Nat),k+1⟩:aY),y)∈bU t:=dK.2 ⟨_,k,w,rfl⟩;have:=hV.ok.zA.snd _ u _ B h1 G (by rw[J];exact A)
 simp only at this;subst this;cases yj u B rfl;exact⟨C,by simp only;omega⟩
def lN (t:Trace) (c:List Int) (e:Event):Bool:=(fT t 3 e.message).index==0||decide ((fT t 3 e.message).index>(c[(fT t 3 e.message).proc.toNat]?).getD 0)
theorem zW {α:Type} (f g:α->Bool):∀l:List α,l.countP f=l.countP (λx=>f x&&g x)+l.countP (λx=>f x && !g x)
 | []=>rfl
 | x::l=>by
  simp only[List.countP_cons,zW f g l];cases f x <;> cases g x <;> simp <;> omega
theorem tX {α:Type} {f:α->Bool} {l:List α} {n k:Nat}:k∈places f (l.take n)↔k<n/\∃x,l[k]? = some x/\f x=true:=by
 rw[LR];simp only[List.getElem?_take];constructor
 .rintro⟨x,h1,u⟩;split at h1
  .exact⟨‹_›,x,h1,u⟩
  .cases h1
 .rintro⟨h,x,h1,u⟩;exact⟨x,by rw[if_pos h];exact h1,u⟩
theorem SH {t:Trace} (hV:VT t) {A:cC 200 bL} (hM:jQ t (bU t) A) {c:List Int} (hC:Cons t A c) {p q:Nat} {P Q:bT} {a b:Int} (J:t.procs.l[p]? = some P) (D:t.procs.l[q]? = some Q) (ha:c[p]? = some a) (hb:c[q]? = some b) :
 (Q.events.l.take b.toNat).countP (ya p)=(P.events.l.take a.toNat).countP λe=>dO q e && !lN t c e:=by
 have mem:∀{p:Nat} {P:bT} {k:Nat} {e:Event},t.procs.l[p]? = some P->P.events.l[k]? = some e->((⟨p,k+1⟩:aY),e)∈bU t:=λJ hk=>dK.2 ⟨_,_,⟨_,J,hk⟩,rfl⟩
 have a0:=(hC.1.2 p a P ha J).1;have b0:=(hC.1.2 q b Q hb D).1;have r1:∀k,k∈places (ya p) (Q.events.l.take b.toNat)->∃(z:Event) (j:Nat) (e:Event),Q.events.l[k]? = some z/\z.kind=3/\P.events.l[j]? = some e/\e.kind=2/\e.peer=q/\e.message=z.message/\fT t 2 z.message=⟨p,j+1⟩/\(j:Int)+1<=a/\(k:Int)+1<=b:=λk hk=>by
  obtain⟨ai,z,h1,u⟩:=tX.1 hk;have u:z.kind=3/\z.peer=p:=by simpa [ya]using u
  have hm:=mem D h1;obtain⟨e,e1,e2,e3⟩:=yf hV.formed hV.ok.zA hm u.1;obtain⟨f1,f2⟩:=Jy hV hm u.1 e1 e2 e3;obtain⟨p',j,⟨P',Z,hj⟩,G⟩:=dK.1 e1;simp only at f1 G hj;rw[G]at f2;have ab:p'=p:=by simp only at f2;omega
  subst ab;rw[J]at Z;cases Z;obtain⟨x,C,I⟩:=hC.2 q k z b ⟨Q,D,h1⟩ hb (by omega) u.1
  rw[<-EK hV hM ⟨Q,D,h1⟩ u.1,G]at C I;simp only[Int.toNat_natCast]at C I;rw[ha]at C;cases C;exact⟨z,j,e,h1,u.1,hj,e2,f1,e3,G,I,by omega⟩
 have s1:∀k,k∈places (λe=>dO q e && !lN t c e) (P.events.l.take a.toNat)->∃(e:Event) (j:Nat) (z:Event),P.events.l[k]? = some e/\e.kind=2/\Q.events.l[j]? = some z/\z.kind=3/\z.peer=p/\z.message=e.message/\fT t 3 e.message=⟨q,j+1⟩/\(j:Int)+1<=b:=λk hk=>by
  obtain⟨aj,e,h1,u⟩:=tX.1 hk;simp only[ζh,Bool.not_eq_true',lN,Bool.or_eq_false_iff,dO,beq_iff_eq,beq_eq_false_iff_ne,decide_eq_false_iff_not]at u;obtain⟨⟨g1,g2⟩,g3,g4⟩:=u;rcases D7 t 3 e.message with⟨h,_⟩|⟨z,z1,z2,z3⟩
  .rw[h]at g3;exact absurd rfl g3
  .obtain⟨f1,f2⟩:=Jy hV z1 z2 (mem J h1) g1 z3.symm;obtain⟨q',j,⟨Q',aa,hj⟩,G⟩:=dK.1 z1;simp only at G hj f1 f2;rw[G]at f1 g4;have ad:q'=q:=by simp only at f1;omega
   subst ad;rw[D]at aa;cases aa;simp only[Int.toNat_natCast,hb,Option.getD_some]at g4;exact⟨e,j,z,h1,g1,hj,z2,f2,z3,G,by omega⟩
 apply Nat.le_antisymm
 .refine En (λk=>match Q.events.l[k]? with|some z=>((fT t 2 z.message).index-1).toNat|none=>0) (λk hk=>?_) λk k' hk L he=>?_
  .obtain⟨z,j,e,h1,u,O,h4,h5,S,T,h8,h9⟩:=r1 k hk;rw[h1];simp only[T];rw[show ((j:Int)+1-1).toNat=j from by omega]
   refine tX.2 ⟨by omega,e,O,?_⟩
   have ae:fT t 3 e.message=⟨q,k+1⟩:=by
    rcases D7 t 3 e.message with⟨_,h⟩|⟨z',z1,z2,z3⟩
    .exact absurd ⟨u,S.symm⟩ (h _ (mem D h1))
    .exact hV.ok.zA.rcv _ z1 _ (mem D h1) z2 u (by rw[z3,S])
   simp only[lN,ae,dO,h4,h5,Int.toNat_natCast,hb,Option.getD_some];simp;omega
  .obtain⟨z,j,e,h1,u,O,h4,h5,S,T,_⟩:=r1 k hk;obtain⟨z',j',e',w,U,B,af,ah,W,X,_⟩:=r1 k' L;simp only[h1,w,T,X]at he;have Y:j=j':=by omega
   subst Y;rw[O]at B;cases B;have:=hV.ok.zA.rcv _ (mem D h1) _ (mem D w) u U (by rw[<-S,W])
   simp only[aY.mk.injEq]at this;omega
 .refine En (λk=>match P.events.l[k]? with|some e=>((fT t 3 e.message).index-1).toNat|none=>0) (λk hk=>?_) λk k' hk L he=>?_
  .obtain⟨e,j,z,h1,u,O,h4,h5,S,T,h8⟩:=s1 k hk;rw[h1];simp only[T];rw[show ((j:Int)+1-1).toNat=j from by omega]
   exact tX.2 ⟨by omega,z,O,by simp[ya,h4,h5]⟩
  .obtain⟨e,j,z,h1,u,O,h4,h5,S,T,_⟩:=s1 k hk;obtain⟨e',j',z',w,U,B,af,ah,W,X,_⟩:=s1 k' L;simp only[h1,w,T,X]at he;have Y:j=j':=by omega
   subst Y;rw[O]at B;cases B;have:=hV.ok.zA.snd _ (mem J h1) _ (mem J w) u U (by rw[<-S,W])
   simp only[aY.mk.injEq]at this;omega
theorem Ew {t:Trace} (hV:VT t) {A:cC 200 bL} (hM:jQ t (bU t) A) {c:List Int} (hC:Cons t A c) {p q:Nat} {P Q:bT} {a b:Int} (B:t.procs.l[p]? = some P) (D:t.procs.l[q]? = some Q) (G:c[p]? = some a) (J:c[q]? = some b) :
 under t c p q=((P.events.l.take a.toNat).countP λe=>dO q e&&lN t c e:Nat):=by
 unfold under;rw[B,D,G,J];dsimp only;rw[SH hV hM hC B D G J,zW (dO q) (lN t c)];omega
end Go.VE
namespace Go.VE
theorem mZ {σ ε ρ γ:Type} {step:σ->Option (Fw σ ε ρ)} {B:ε->Option γ} {fr:ρ->Option γ} {P:γ->Prop} (n:Nat) (I:Nat->σ->Prop) {s:σ} (h0:I 0 s)
 (h:∀i s,i<n->I i s->Wp (step s) λw=>match w with|.n D=>I (i+1) D|.x e=>Wp (B e) P|.r b=>Wp (fr b) P)
 (G:∀s,I n s->Wp (step s) λw=>match w with|.n _=>False|.x e=>Wp (B e) P|.r b=>Wp (fr b) P):Wp ((bW step s).bind (Fw.elim B fr)) P:=by
 have key:∀m i s,i+m=n->I i s->Wp ((bW step s).bind (Fw.elim B fr)) P:=by
  intro m
  induction m with
  | zero=>
   intro i s hi z;obtain⟨w,u,hr⟩:=G s (by grind)
   rw[eO,u]
   cases w with
   | n D=>grind
   | x e=>exact hr
   | r b=>exact hr
  | succ m A=>
   intro i s hi z;obtain⟨w,u,hr⟩:=h i s (by omega) z
   rw[eO,u]
   cases w with
   | n D=>grind
   | x e=>exact hr
   | r b=>exact hr
 exact key n 0 s (Nat.zero_add n) h0
theorem GB:∀{c:List Int} {p:Nat} {a b:Int},c[p]? = some a->(c.set p b).sum=c.sum-a+b
 | [],_,_,_,h=>by simp_all
 | x::c,0,a,b,h=>by grind
 | x::c,p+1,a,b,h=>by
  have:=GB   (b:=b) (by simpa using h)
  grind
theorem y6:∀{c:List Int},(∀(p:Nat) a,c[p]? = some a->0<=a)->0<=c.sum
 | [],_=>by simp
 | x::c,h=>by
  have h1:=h 0 x rfl;have u:=y6 (c:=c) λp a w=>h (p+1) a (by grind)
  grind
theorem JS:∀{c:List Int} {l:List Nat},c.length=l.length->(∀(i:Nat) a b,c[i]? = some a->l[i]? = some b->a<=(b:Nat))->c.sum<=(l.sum:Nat)
 | [],[],_,_=>by simp
 | x::c,y::l,B,h=>by
  have h1:=h 0 x y rfl rfl;have u:=JS (c:=c) (l:=l) (by grind) λi a b w z=>h (i+1) a b (by grind) (by grind)
  grind
section
variable {t:Trace} {A:cC 200 bL} {c:List Int}
theorem qh.pos (h:qh t c) (p:Nat) (a:Int) (B:c[p]? = some a):0<=a:=
 (h.2 p a _ B (ζd (by have:=(ζe.1 B).1;rw[<-h.1];simp_all))).1
theorem qh.at_ (h:qh t c) {p:Nat} (hp:p<t.procs.l.length):∃a,c[p]? = some a:=⟨_,ζd (by rw[h.1];omega)⟩
theorem qh.sum (h:qh t c):0<=c.sum/\c.sum<=(wh t:Nat):=
 ⟨y6 h.pos,JS (by simp[h.1]) λi a b z u=>by
  cases w:t.procs.l[i]? with
  | none=>grind
  | some P=>simp[w]at u;rw[<-u];exact(h.2 i a P z w).2⟩
theorem qh.set (h:qh t c) {p:Nat} {b:Int} {P:bT} (B:t.procs.l[p]? = some P) (h0:0<=b) (h1:b<=P.events.l.length):qh t (c.set p b):=by
 refine⟨by simp[h.1],λq a Q u w=>?_⟩
 rw[List.getElem?_set]at u;split at u
 .grind
 .exact h.2 q a Q u w
def Wt (t:Trace) (A:cC 200 bL) (c:List Int) (p:Nat):Prop:=∃P e a,t.procs.l[p]? = some P/\c[p]? = some a/\P.events.l[a.toNat]? = some e/\(e.kind=3->∃b,c[(ag A e.message).from_.proc.toNat]? = some b/\(ag A e.message).from_.index<=b)
theorem mC.one {p k:Nat} {e f:Event} (h:mC t p k e) (g:mC t p k f):e=f:=by
 obtain⟨P,u,w⟩:=h;obtain⟨Q,z,A⟩:=g
 grind
theorem n_.le (h:n_ t A c) {p:Nat} {a b:Int} (D:c[p]? = some a) (J:a<=b) (U:∀(k:Nat) e,mC t p k e->a<=k->(k:Int)<b->e.kind=3->∃B,(c.set p b)[(ag A e.message).from_.proc.toNat]? = some B/\(ag A e.message).from_.index<=B):n_ t A (c.set p b):=by
 have I:=(ζe.1 D).1;have up:∀(q:Nat) x,c[q]? = some x->∃y,(c.set p b)[q]? = some y/\x<=y:=λq x u=>by
  rw[List.getElem?_set]
  grind
 intro q k e x w u hk G;rw[List.getElem?_set]at u;have old:∀x,c[q]? = some x->k<x->∃B,(c.set p b)[(ag A e.message).from_.proc.toNat]? = some B/\(ag A e.message).from_.index<=B:=λx u hk=>by
  obtain⟨y,L,O⟩:=h q k e x w u hk G;obtain⟨z,Q,S⟩:=up _ y L;exact⟨z,Q,by omega⟩
 split at u
 .rename_i T;subst T;simp[I]at u;subst u
  by_cases C:k<a
  .exact old a D C
  .exact U k e w (by omega) hk G
 grind
theorem B6 (hV:VT t) (hM:jQ t (bU t) A) {p k:Nat} {e:Event} (B:mC t p k e) (D:e.kind=3):∃q j:Nat,(ag A e.message).from_=⟨q,j+1⟩/\q≠p/\Ih t ⟨q,j+1⟩ ⟨p,k+1⟩/\∃y,mC t q j y:=by
 obtain⟨q,j,y,u,z,C,y3,y4,y5⟩:=G9 hV hM B D;have w:(⟨p,k+1⟩,e)∈bU t:=dK.2 ⟨p,k,B,rfl⟩;refine⟨q,j,y5,?_,⟨y,e,dK.2 ⟨q,j,u,rfl⟩,w,z,D,C⟩,y,u⟩;rcases hV.formed _ w with h|⟨_,_,_,h,_⟩
 .grind
 grind
theorem Cons.up (hV:VT t) (hM:jQ t (bU t) A) (hC:Cons t A c) {p:Nat} {a:Int} {P:bT} (B:t.procs.l[p]? = some P) (D:c[p]? = some a) (U:a<P.events.l.length):Wt t A c p↔Cons t A (c.set p (a+1)):=by
 have h0:=hC.1.pos p a D;have W:=(ζe.1 D).1;constructor
 .rintro⟨Q,e,x,G,I,L,w⟩;rw[B]at G;cases G;rw[D]at I;cases I;refine⟨hC.1.set B (by omega) (by omega),hC.2.le D (by omega) λk f z O S X=>?_⟩
  have C:k=a.toNat:=by omega
  subst C;cases z.one ⟨P,B,L⟩
  grind
 .intro h;have u:a.toNat<P.events.l.length:=by omega
  refine⟨P,P.events.l[a.toNat],a,B,D,ζd u,λw=>?_⟩
  obtain⟨b,J,T⟩:=h.2 p a.toNat _ (a+1) ⟨P,B,ζd u⟩ (by simp_all) (by omega) w
  rw[List.getElem?_set]at J;split at J
  .obtain⟨q,j,f1,f2,_⟩:=B6 hV hM ⟨P,B,ζd u⟩ w
   grind
  grind
noncomputable def HC (t:Trace) (x:aY):Nat:=by
 classical
 exact(bU t).countP λz=>decide (Way t z.1 x)
theorem JN (hV:VT t) {x y:aY} (h:Way t x y):HC t x<HC t y:=by
 classical
 refine AB (λz _ u=>?_) ?_
 .have u:Way t z.1 x:=by grind
  simpa using u.trans h
 .obtain⟨e,w⟩:=h.l;exact⟨(x,e),w,by simpa using λk=>hV.ok.acyc ⟨x,k⟩,by grind⟩
theorem Sz (x:aY):HC t x<=(bU t).length:=by
 classical
 unfold HC;grind
theorem Vd.of {p k:Nat} {e:Event} (h:mC t p k e):Vd t ⟨p,k+1⟩:=⟨e,dK.2 ⟨p,k,h,rfl⟩⟩
theorem H6 {p:Nat} {P:bT} (B:t.procs.l[p]? = some P):∀(d k:Nat),k+d+1<P.events.l.length->Way t ⟨p,k+1⟩ ⟨p,((k+d+1:Nat):Int)+1⟩
 | 0,k,h=>.single ⟨Vd.of ⟨P,B,ζd (by omega)⟩,Vd.of ⟨P,B,ζd h⟩,.inl (by simp)⟩
 | d+1,k,h=>(H6 B d k (by omega)).tail ⟨Vd.of ⟨P,B,ζd (show k+d+1<_ by omega)⟩,Vd.of ⟨P,B,ζd h⟩,.inl (by simp;omega)⟩
theorem U9 {q k:Nat} {b:Int} {Q:bT} {x:aY} (B:t.procs.l[q]? = some Q) (h:Way t x ⟨q,k+1⟩) (h1:(k:Int)<b) (D:b<=Q.events.l.length):Way t x ⟨q,b⟩:=by
 by_cases e:b=k+1
 .grind
 .have:=H6 B (b.toNat-k-2) k (by omega)
  rw[show ((k+(b.toNat-k-2)+1:Nat)+1)=b from by omega]at this
  exact h.trans this
theorem Cons.JQ (hV:VT t) (hM:jQ t (bU t) A) (hC:Cons t A c) {p:Nat} {a:Int} (D:c[p]? = some a) (h0:0<a):Cons t A (c.set p (a-1))\/∃(q:Nat) (b:Int),c[q]? = some b/\0<b/\Way t ⟨p,a⟩ ⟨q,b⟩:=by
 have Y:=(ζe.1 D).1;have L:=ζd (show p<t.procs.l.length by rw[<-hC.1.1];omega)
 have hr:=hC.1.2 p a _ D L;refine Classical.byContradiction λB=>B (.inl ⟨hC.1.set L (by omega) (by omega),λq k e x u I hk O=>?_⟩)
 obtain⟨z,w,Z⟩:∃z,c[q]? = some z/\x<=z:=by
  rw[List.getElem?_set]at I;split at I
  .rename_i e2;subst e2;simp[Y]at I;exact⟨a,D,by omega⟩
  grind
 obtain⟨y,G,C⟩:=hC.2 q k e z u w (by omega) O
 obtain⟨r,j,f1,f2,f3,_⟩:=B6 hV hM u O;rw[f1]at G C ⊢;simp only[Int.toNat_natCast]at G C ⊢
 by_cases e2:p=r
 .subst e2;rw[D]at G;cases G;refine⟨a-1,by simp_all,?_⟩
  refine Classical.byContradiction λhj=>B (.inr ⟨q,z,w,by omega,?_⟩)
  have:a=j+1:=by omega
  subst this;obtain⟨Q,S,_⟩:=u;have J:=hC.1.2 q z Q w S;obtain⟨T,U,W,X,m3⟩:=f3;exact U9 S (.single ⟨⟨T,W⟩,⟨U,X⟩,.inr ⟨T,U,W,X,m3⟩⟩) (by omega) J.2
 simp_all
theorem Cons.VU (hV:VT t) (hM:jQ t (bU t) A) (hC:Cons t A c):∀(n p:Nat) (a:Int),c[p]? = some a->0<a->(bU t).length-HC t ⟨p,a⟩<=n->∃(q:Nat) (b:Int),c[q]? = some b/\0<b/\Cons t A (c.set q (b-1)):=by
 intro n
 induction n with
 | zero=>
  intro p a u h0 B;rcases hC.JQ hV hM u h0 with h|⟨q,b,_,_,w⟩
  .grind
  .have:=JN hV w;have:=Sz (t:=t) ⟨q,b⟩;omega
 | succ n C=>
  intro p a u h0 B;rcases hC.JQ hV hM u h0 with h|⟨q,b,D,z,w⟩
  .grind
  .have:=JN hV w;exact C q b D z (by omega)
theorem Cons.down (hV:VT t) (hM:jQ t (bU t) A) (hC:Cons t A c) (B:0<c.sum):∃(q:Nat) (b:Int),c[q]? = some b/\0<b/\Cons t A (c.set q (b-1)):=by
 obtain⟨p,a,u,h0⟩:∃(p:Nat) (a:Int),c[p]? = some a/\0<a:=by
  refine Classical.byContradiction λw=>?_
  have C:∀a∈c,a=0:=λa u=>by
   obtain⟨p,z⟩:=List.mem_iff_getElem?.1 u;have:=hC.1.pos p a z
   grind
  have:c.sum=0:=by
   clear hC B w
   induction c with
   | nil=>rfl
   | cons x c D=>simp_all
  omega
 exact hC.VU hV hM _ p a u h0 (Nat.le_refl _)
theorem Cons.FB (hV:VT t) (hM:jQ t (bU t) A):∀(d:Nat) {c:List Int} {k:Nat},Cons t A c->c.sum=((k+d:Nat):Int)->∃c',Cons t A c'/\c'.sum=(k:Int)
 | 0,c,k,hC,D=>⟨c,hC,by grind⟩
 | d+1,c,k,hC,D=>by
  obtain⟨q,b,G,J,B⟩:=hC.down hV hM (by omega)
  exact Cons.FB hV hM d B (by rw[GB G];omega)
end
end Go.VE
namespace Go.VE
theorem mJ {α:Type} {s:Sl α} {n:Nat} (h:n<s.l.length):decide ((n:Int)<len s)=true:=by simp[len];omega
theorem o8 {α:Type} {s:Sl α}:decide ((s.l.length:Int)<len s)=false:=by simp[len]
theorem R_ {α:Type} {s:Sl α} {x:α} (h:s.l.length<2147483648):∃r,iP s x=some r/\r.l=s.l++[x]:=by
 unfold iP;rw[if_pos (by omega)];exact⟨_,rfl,rfl⟩
section
variable {t:Trace} {A:cC 200 bL}
def W_ (t:Trace) (A:cC 200 bL) (c:List Int) (n:Nat):Prop:=∀(p k:Nat) (e:Event) (a:Int),p<n->mC t p k e->c[p]? = some a->(k:Int)<a->e.kind=3->∃b,c[(ag A e.message).from_.proc.toNat]? = some b/\(ag A e.message).from_.index<=b
theorem Nj (hS:Small t) (hV:VT t) (hM:jQ t (bU t) A) {c:Sl Int} (Y:qh t c.l):Wp (dB t c) λb=>(b=true↔n_ t A c.l):=by
 have aa:=Y.1;have ab:=hV.few;unfold dB dB.W1;refine mZ c.l.length (λn s=>s=(n:Int)/\W_ t A c.l n) ⟨rfl,λp k e a h=>absurd h (by omega)⟩ ?_ ?_
 .rintro n _ B ⟨rfl,T⟩;unfold dB.br;rw[mJ B,bD];have z:n<t.procs.l.length:=by omega
  have ad:=(hS.2 _ (List.getElem_mem z)).1;have C:=ζd z;have D:=ζd B;obtain⟨r1,r2⟩:=Y.2 n _ _ D C;have J:=bK B;generalize c.l[n]=a at *;generalize t.procs.l[n]=P at *;unfold dB.W2;refine mZ a.toNat (λm s=>s=(m:Int)/\∀(k:Nat) (e:Event),k<m->mC t n k e->e.kind=3->∃b,c.l[(ag A e.message).from_.proc.toNat]? = some b/\(ag A e.message).from_.index<=b) ⟨rfl,λk e h=>absurd h (by omega)⟩ ?_ ?_
  .rintro m _ hm ⟨rfl,U⟩;unfold dB.bZ;have L:m<P.events.l.length:=by omega
   have u:mC t n m P.events.l[m]:=⟨P,C,ζd L⟩;rw[J,ζb,show decide ((m:Int)<a)=true from by simp;omega,bD,jy,C,ζb,bK L,ζb,c7 m (by omega)]
   generalize P.events.l[m]=e at *;have more:(e.kind=3->∃b,c.l[(ag A e.message).from_.proc.toNat]? = some b/\(ag A e.message).from_.index<=b)->∀(k:Nat) (e:Event),k<m+1->mC t n k e->e.kind=3->∃b,c.l[(ag A e.message).from_.proc.toNat]? = some b/\(ag A e.message).from_.index<=b:=λh k f hk Z w=>by
    by_cases ek:k=m
    .subst ek;cases u.one Z;exact h w
    .exact U k f (by omega) Z w
   rw[cu];refine⟨λw=>?_,λw=>(a_ _).2 ⟨rfl,more λk=>by simp[k]at w⟩⟩
   have w:e.kind=3:=by simpa using w
   obtain⟨q,j,f1,_,_,y,Q,hQ,_⟩:=B6 hV hM u w;have G:q<c.l.length:=by have:=(ζe.1 hQ).1;omega
   rw[find_eq hS,EK hV hM u w,ζb,f1];simp only;rw[bK G,ζb,cu];refine⟨λW=>(a_ _).2 ((a_ _).2 ((a_ _).2 ⟨λh=>(by cases h),λhC=>?_⟩)),λX=>(a_ _).2 ⟨rfl,more λ_=>?_⟩⟩
   .obtain⟨b,O,S⟩:=hC n m e a u D (by omega) w
    rw[f1]at O S;simp only[Int.toNat_natCast,ζd G,ζa]at O S;simp only[decide_eq_true_eq]at W;omega
   .rw[f1];exact⟨c.l[q],by simp only[Int.toNat_natCast];exact ζd G,by simp at X ⊢;omega⟩
  .rintro _ ⟨rfl,U⟩;unfold dB.bZ;rw[J,ζb,show decide ((a.toNat:Int)<a)=false from by simp;omega,bG]
   refine(a_ _).2 ((a_ _).2 ⟨c7 n (by omega),λp k e x hp u I hk w=>?_⟩)
   by_cases e2:p=n
   .subst e2;rw[D]at I;cases I;exact U k e (by omega) u w
   .exact T p k e x (by omega) u I hk w
 .rintro _ ⟨rfl,T⟩;unfold dB.br;rw[o8,bG];exact(a_ _).2 ((a_ _).2 ⟨λ_ p k e a u I=>T p k e a (ζe.1 I).1 u I,λ_=>rfl⟩)
end
end Go.VE
namespace Go.VE
def ins (s:Sl (Sl Int)):List (List Int):=s.l.map Sl.l
end Go.VE
namespace Go.VE
section
variable {t:Trace} {A:cC 200 bL}
theorem JU {s:Sl (Sl Int)} {d:List Int}:d∈ins s↔∃x∈s.l,x.l=d:=by unfold ins;exact List.mem_map
def Q6 (t:Trace) (A:cC 200 bL) (k:Nat) (s:Sl (Sl Int)):Prop:=∀d,d∈ins s↔Cons t A d/\d.sum=(k:Int)
theorem Q6.none (hV:VT t) (hM:jQ t (bU t) A) {k:Nat} {s:Sl (Sl Int)} (h:Q6 t A k s) (D:s.l.length=0) {d:List Int} (B:Cons t A d):d.sum<(k:Int):=by
 refine Classical.byContradiction λu=>?_
 have h0:=y6 B.1.pos;obtain⟨c,hC,w⟩:=Cons.FB hV hM (d.sum.toNat-k) (k:=k) B (by omega)
 have:=(h c).2 ⟨hC,w⟩;obtain⟨x,z,_⟩:=JU.1 this;have:=List.length_pos_of_mem z;omega
theorem Q6.last {s:Sl (Sl Int)} (h:Q6 t A (wh t+1) s):s.l.length=0:=by
 refine Classical.byContradiction λu=>?_
 have w:=List.getElem_mem (show 0<s.l.length by omega)
 have:=(h s.l[0].l).1 (JU.2 ⟨_,w,rfl⟩);have:=this.1.1.sum;omega
end
end Go.VE
namespace Go.VE
end Go.VE
namespace Go.VE
end Go.VE
namespace Go.VE
section
variable {t:Trace} {A:cC 200 bL}
end
end Go.VE
namespace Go.VE
section
variable {t:Trace} {A:cC 200 bL}
structure Xr (t:Trace) (A:cC 200 bL) (k:Nat) (o:Sl (Sl (Sl Int))):Prop where
 nd:(o.l.flatMap ins).Nodup
 mem:∀d,d∈o.l.flatMap ins↔Cons t A d/\d.sum<(k:Int)
end
end Go.VE
namespace Go.VE
section
variable {t:Trace} {A:cC 200 bL}
end
end Go.VE
namespace Go.VE
section
variable {t:Trace} {A:cC 200 bL}
end
end Go.VE
namespace Go.VE
section
variable {t:Trace} {A:cC 200 bL}
theorem N4 (hS:Small t) (hv:dJ t=some true) (hV:VT t) (hM:jQ t (bU t) A) {c:Sl Int} (hC:Cons t A c.l) {p q:Nat} (hp:p<t.procs.l.length) (D:q<t.procs.l.length) :
 dg t (Sl.row [c]:Sl (Sl Int)) (Sl.row [(p:Int),(q:Int)]:Sl Int)=some 0:=by
 refine Wp.eq ?_;have u:=hC.1.1;unfold dg wN;rw[hv,ζb,bD,AK (f:=λz=>(jR z t).getD false) (λz _=>J6.ok ((a_ _).2 trivial)) (by simp[Sl.l]),ζb,ζb,ζb]
 have w:(!((Sl.row [c]:Sl (Sl Int)).l.any λz=>(jR z t).getD false))=true:=by
  simp[Sl.l,jR,len,u] <;> exact congrArg Int.ofNat u
 rw[w,bD];unfold dg.W1;refine mZ 1 (λn s=>s=(n:Int)) rfl ?_ ?_
 .rintro n _ B rfl;obtain rfl:n=0:=by omega
  unfold dg.br;rw[show decide (((0:Nat):Int)<len (Sl.row [c]:Sl (Sl Int)))=true from rfl,bD,show idx (Sl.row [c]:Sl (Sl Int)) ((0:Nat):Int)=some c from rfl,ζb,jc];refine(CG hS u).mono λb C=>?_
  rw[C.2 hC.1,bD];exact(a_ _).2 rfl
 .rintro _ rfl;unfold dg.br;rw[show decide (((1:Nat):Int)<len (Sl.row [c]:Sl (Sl Int)))=false from rfl,bG,a_];have proc:∀r:Nat,r<t.procs.l.length->tY t r=some true:=λr hr=>by
   unfold tY;rw[show decide ((r:Int)>=0)=true from by simp,bD,mJ hr];rfl
  show Wp (dg.W2 (Sl.row [c]) (Sl.row [(p:Int),(q:Int)]) 2 0 t) _;unfold dg.W2;refine mZ 2 (λn s=>s=(n:Int)) rfl ?_ ?_
  .rintro n _ B rfl;unfold dg.bZ;rw[show decide ((n:Int)<2)=true from by simp;omega,bD]
   have G:∃r:Nat,idx (Sl.row [(p:Int),(q:Int)]) (n:Int)=some (r:Int)/\r<t.procs.l.length:=by
    rcases (show n=0\/n=1 by omega)with rfl|rfl
    .exact⟨p,rfl,hp⟩
    .exact⟨q,rfl,D⟩
   obtain⟨r,h1,I⟩:=G;rw[h1,ζb,proc r I,ζb,bD];exact(a_ _).2 (c7 n (by omega))
  .rintro _ rfl;unfold dg.bZ;rw[show decide (((2:Nat):Int)<2)=false from rfl,bG,a_];show Wp (dg.W3 (Sl.row [c]) 1 0 t) _;unfold dg.W3;refine mZ 1 (λn s=>s=(n:Int)) rfl ?_ ?_
   .rintro n _ B rfl;obtain rfl:n=0:=by omega
    unfold dg.fe;rw[show decide (((0:Nat):Int)<1)=true from rfl,bD,show idx (Sl.row [c]:Sl (Sl Int)) ((0:Nat):Int)=some c from rfl,ζb];unfold vt;rw[jc,jc];refine(C9 hS hv hV hM hC.1).mono λr hr=>?_
    rw[a_,hr.2 hC.2];exact(a_ _).2 rfl
   .rintro _ rfl;unfold dg.fe;rw[show decide (((1:Nat):Int)<1)=false from rfl,bG,a_];exact(a_ _).2 rfl
theorem PV (hS:Small t) (hv:dJ t=some true) (kind m:Int):gW t kind m=some (match (bU t).find? (kS kind m)with|some x=>(x.1,true)|none=>(⟨0,0⟩,false)):=by
 refine Wp.eq ?_;unfold gW;rw[hv,ζb,bD];unfold jm;rw[ζb];unfold gW.E1;rw[sx hS,ζb];refine xQ (λk _=>((bU t).take k).find? (kS kind m)=none) (by simp) ?_ ?_
 .intro k y _ z u;have w:(bU t).take (k+1)=(bU t).take k++[y]:=by rw[List.take_add_one,z];rfl
  have A:(y.2.kind==kind&&y.2.message==m)=kS kind m y:=rfl;unfold gW.jB;rw[mL,ζb,A,cu];constructor
  .intro hc;refine(a_ _).2 ((a_ _).2 ?_);have:(bU t).find? (kS kind m)=some y:=by
    rw[<-List.take_append_drop (k+1) (bU t),w,List.find?_append,List.find?_append,u];simp[hc]
   rw[this]
  .intro hc;rw[a_,w,List.find?_append,u];simp[hc]
 .intro _ u;rw[List.take_length]at u;exact(a_ _).2 (by rw[u])
theorem OE (hS:Small t) (hv:dJ t=some true) (hV:VT t) (hM:jQ t (bU t) A) {c:Sl Int} (hC:Cons t A c.l) {p q:Nat} (hp:p<t.procs.l.length) (J:q<t.procs.l.length) :
 Wp (iw t c p q) λr=>r.2=0/\(r.1.l.length:Int)=under t c.l p q:=by
 have I:=ζd hp;obtain⟨a,L⟩:=hC.1.at_ hp;obtain⟨b,C⟩:=hC.1.at_ J;rw[Ew hV hM hC I (ζd J) L C];have Y:=(hS.2 _ (List.getElem_mem hp)).1;obtain⟨a0,a1⟩:=hC.1.2 p a _ L I;generalize Z:t.procs.l[p]=P at *;unfold iw;rw[N4 hS hv hV hM hC hp J,ζb,show ((0:Int)==0)=true from rfl,bD,jy,I,ζb,show idx c (p:Int)=some a from by rw[jy];exact L,ζb]
 obtain⟨y,X,D⟩:=uu P.events a.toNat (by omega)
 rw[show ((a.toNat:Nat):Int)=a from by omega]at X
 rw[X,ζb,<-D];have aa:y.l.length<=P.events.l.length:=by rw[D,List.length_take];omega
 unfold iw.W1;refine mZ y.l.length (λn s=>s.2.1=len y/\s.2.2=(n:Int)/\s.1.l.length=(y.l.take n).countP λe=>dO q e&&lN t c.l e) ⟨rfl,rfl,rfl⟩ ?_ ?_
 .rintro n ⟨o,_,_⟩ w ⟨e1,e2,z⟩;simp only at e1 e2 z;subst e1 e2;have O:=List.countP_le_length (p:=λe=>dO q e&&lN t c.l e) (l:=y.l.take n)
  rw[List.length_take]at O;have u:(y.l.take (n+1)).countP (λe=>dO q e&&lN t c.l e)=o.l.length+if dO q y.l[n]&&lN t c.l y.l[n]then 1 else 0:=by
   rw[List.take_add_one,ζd w,List.countP_append,z];show _+List.countP _ [y.l[n]]=_;rw[List.countP_cons,List.countP_nil];simp
  have Q:=c7 n (by omega)
  unfold iw.br;rw[mJ w,bD,bK w,ζb];generalize y.l[n]=e at u;have S:(bf (e.kind==2) (some (!(e.peer==(q:Int)))) (some true):Option Bool)=some (!dO q e):=by
   unfold dO;cases e.kind==2 <;> cases e.peer==(q:Int) <;> rfl
  rw[S,ζb,cu];refine⟨λB=>(a_ _).2 ⟨rfl,Q,by rw[u,show dO q e=false from by simpa using B];rfl⟩,λB=>?_⟩
  have B:dO q e=true:=by simpa using B
  unfold tw;rw[PV hS hv,ζb,ζb];have hc:(bf (match (bU t).find? (kS 3 e.message)with|some x=>(x.1,true)|none=>((⟨0,0⟩:aY),false)).2 ((idx c (match (bU t).find? (kS 3 e.message)with|some x=>(x.1,true)|none=>((⟨0,0⟩:aY),false)).1.proc).bind λT=>some (decide ((match (bU t).find? (kS 3 e.message)with|some x=>(x.1,true)|none=>((⟨0,0⟩:aY),false)).1.index>T))) (some true):Option Bool)=some (lN t c.l e):=by
   unfold lN fT
   cases hf:(bU t).find? (kS 3 e.message)with
   | none=>rfl
   | some x=>
    obtain⟨U,j,⟨Q',W,_⟩,hx⟩:=dK.1 (uV hf).1;have G:U<c.l.length:=by rw[hC.1.1];exact(ζe.1 W).1
    simp only[hx,bD];rw[bK G,ζb,show ((U:Nat):Int).toNat=U from rfl,ζd G,show (((j:Int)+1)==0)=false from by simp;omega,Bool.false_or];rfl
  rw[hc,ζb,cu];refine⟨λC=>?_,λC=>(a_ _).2 ⟨rfl,Q,by rw[u,B,C];rfl⟩⟩
  obtain⟨r,h1,h2⟩:=R_ (s:=o) (x:=e.message) (by omega)
  rw[h1,ζb,a_];exact⟨rfl,Q,by rw[h2,u,B,C,ζi];rfl⟩
 .rintro⟨o,_,_⟩ ⟨e1,e2,z⟩;simp only at e1 e2 z;subst e1 e2;unfold iw.br;rw[o8,bG,a_];refine(a_ _).2 ⟨rfl,?_⟩;rw[List.take_length]at z;simp only[z]
end
end Go.VE
namespace Go.VE
section
variable {α σ:Type}
def xy (p:α->σ->Option (Bool×σ)):List α->σ->Option (Bool×σ)
 | [],x=>some (false,x)
 | a::r,x=>(p a x).bind λy=>if y.1 then some (true,y.2)else xy p r y.2
theorem Jx {s:Sl α} {p:α->σ->Option (Bool×σ)} {x:σ} (B:s.l.length<1073741824):AD s p x=xy p s.l x:=by
 have key:∀(rem:List α) (j:Nat) (x:σ),s.l.drop j=rem->((bW (Dq s p) ((j:Int),x)).bind (Fw.elim (λe=>some ((-1:Int),e)) λe=>some e)).bind (λy:Int×σ=>some (decide (y.1>=0),y.2))=xy p rem x:=by
  intro rem
  induction rem with
  | nil=>
   intro j x hd;have h1:decide ((j:Int)<len s)=false:=by
    have:s.l.length<=j:=by simpa using hd
    simp[len];omega
   rw[eO];simp only[Dq,h1,bf,Bool.false_eq_true,if_false,ζb,Fw.elim,xy];rfl
  | cons a rem u=>
   intro j x hd;have h1:j<s.l.length:=by
    apply Classical.byContradiction;intro A;rw[List.drop_eq_nil_of_le (by omega)]at hd;cases hd
   have w:=List.drop_eq_getElem_cons h1;rw[w]at hd;simp only[List.cons.injEq]at hd;rw[eO];simp only[Dq,mJ h1,bf,if_true,bK h1,ζb,hd.1,xy]
   cases p a x with
   | none=>rfl
   | some y=>
    obtain⟨b,z⟩:=y;simp only[ζb]
    cases b with
    | true=>simp[Fw.elim]
    | false=>
     simp only[Bool.false_eq_true,if_false,ζb,c7 j (by omega)]
     exact u (j+1) z hd.2
 exact key s.l 0 x rfl
def D3 (p:α->Option Bool):List α->Option Bool
 | []=>some false
 | a::r=>(p a).bind λb=>if b then some true else D3 p r
theorem EE (p:α->Option Bool):∀l:List α,xy (λx (u:Unit)=>(p x).map λb=>(b,u)) l ()=(D3 p l).map λb=>(b,())
 | []=>rfl
 | a::r=>by
  simp only[xy,D3]
  cases p a with
  | none=>rfl
  | some b=>cases b <;> simp[EE p r]
theorem Al {s:Sl α} (p:α->Option Bool) (B:s.l.length<1073741824):AD s (λx (u:Unit)=>(p x).map λb=>(b,u)) ()=(D3 p s.l).map λb=>(b,()):=by rw[Jx B,EE]
theorem yC {p:α->Option Bool} {f:α->Bool}:∀{l:List α},(∀x∈l,p x=some (f x))->D3 p l=some (l.any f)
 | [],_=>rfl
 | a::r,h=>by
  simp only[D3,h a (by simp),ζb,List.any_cons,yC (λx B=>h x (List.mem_cons_of_mem _ B))]
  cases f a <;> rfl
theorem iy {δ:Type} {b:(α->Option δ)->α->Option δ} {n:Nat} (h:0<n) (z:α):c_ b n z=b (c_ b (n-1)) z:=by
 cases n with
 | zero=>omega
 | succ n=>rfl
end
def zk (l:List Int) (az:List Assign):List Int:=az.foldl (λl a=>l.set a.var.toNat a.value) l
def gM (P:bT):Nat->List Int
 | 0=>P.vars.l.map Var.init_
 | k+1=>match P.events.l[k]? with
  | some e=>zk (gM P k) e.assign.l
  | none=>gM P k
theorem H7:∀(az:List Assign) (l:List Int),(zk l az).length=l.length
 | [],l=>rfl
 | a::r,l=>by
  show (zk (l.set a.var.toNat a.value) r).length=_;rw[H7 r];simp
theorem ox (P:bT):∀k,(gM P k).length=P.vars.l.length
 | 0=>by simp[gM]
 | k+1=>by
  unfold gM;split
  .rw[H7,ox P k]
  .exact ox P k
def Nr {α:Type} (s:Sl α):Prop:=s=.nil\/∃l,s=.row l
theorem HE:∀(vs:List Var) (s:Sl Int),Nr s->s.l.length+vs.length<1073741824->∃B,ve vs s=some B/\Nr B/\B.l=s.l++vs.map Var.init_
 | [],s,h,_=>⟨s,rfl,h,by simp⟩
 | v::r,s,h,D=>by
  simp only[List.length_cons]at D;have h1:iP s v.init_=some (.row (s.l++[v.init_])):=by unfold iP;rw[if_pos (by omega)]
  obtain⟨B,g1,g2,g3⟩:=HE r (.row (s.l++[v.init_])) (.inr ⟨_,rfl⟩) (by show (s.l++[v.init_]).length+r.length<1073741824;simp;omega)
  refine⟨B,?_,g2,by rw[g3];show (s.l++[v.init_])++r.map Var.init_=_;simp⟩
  simp only[ve,h1,ζb,g1]
theorem Gy:∀(az:List Assign) (s:Sl Int),Nr s->(∀a∈az,0<=a.var/\a.var<s.l.length)->∃B,vo az s=some B/\Nr B/\B.l=zk s.l az
 | [],s,h,_=>⟨s,rfl,h,rfl⟩
 | a::r,s,h,D=>by
  obtain⟨h0,h1⟩:=D a (by simp)
  have hc:Sl.rQ s a.var=some a.var.toNat:=by unfold Sl.rQ;rw[if_pos ⟨h0,by omega⟩]
  rcases h with rfl|⟨l,rfl⟩
  .simp[Sl.l]at h1;omega
  have u:Sl.put (.row l) a.var.toNat a.value=some (.row (l.set a.var.toNat a.value)):=by
   unfold Sl.put;rw[if_pos (by simp[Sl.l]at h1 ⊢;omega)]
  obtain⟨B,g1,g2,g3⟩:=Gy r (.row (l.set a.var.toNat a.value)) (.inr ⟨_,rfl⟩) (λb w=>by
   have:=D b (List.mem_cons_of_mem _ w);simpa [Sl.l]using this)
  refine⟨B,?_,g2,g3⟩;simp only[vo,hc,u,ζb,g1]
theorem JE {s:Sl Int} (h:Nr s) (B:s.l.length<1073741824):∃c,LB s=some c/\c.l=s.l:=by
 rcases h with rfl|⟨l,rfl⟩
 .exact⟨.nil,rfl,rfl⟩
 .unfold LB IB.gH yq;simp only[Sl.isNil,ζb,bf,Bool.false_eq_true,if_false]
  by_cases h0:(Sl.row l).l=[]
  .rw[if_pos h0];exact⟨.row [],rfl,h0.symm⟩
  .rw[if_neg h0,if_pos (by simp[Sl.l]at B ⊢;omega)]
   exact⟨_,rfl,by simp[Sl.l]⟩
def tR (P:bT):Prop:=∀e∈P.events.l,∀a∈e.assign.l,0<=a.var/\a.var<P.vars.l.length
theorem Gj {P:bT} (B:tR P) (hv:P.vars.l.length<1073741824):∀(rem:List Event) (k:Nat) (s:Sl Int),P.events.l.drop k=rem->Nr s->s.l=gM P k ->
 ∃r,vg (k:Int) rem s=some r/\r.length=rem.length/\∀(i:Nat) x,r[i]? = some x->x.1=((k+i+1:Nat):Int)/\x.2.l=gM P (k+i+1)
 | [],k,s,_,_,_=>⟨[],rfl,rfl,by simp⟩
 | e::rem,k,s,hd,D,G=>by
  have h1:k<P.events.l.length:=by
   apply Classical.byContradiction;intro D;rw[List.drop_eq_nil_of_le (by omega)]at hd;cases hd
  have A:=List.drop_eq_getElem_cons h1;rw[A]at hd;simp only[List.cons.injEq]at hd;have C:e∈P.events.l:=hd.1▸List.getElem_mem h1;have w:s.l.length=P.vars.l.length:=by rw[G,ox]
  obtain⟨n,g1,g2,g3⟩:=Gy e.assign.l s D (λa I=>by rw[w];exact B e C a I)
  have u:gM P (k+1)=n.l:=by
   rw[g3,G];unfold gM;rw[ζd h1,hd.1];cases k <;> rfl
  obtain⟨c,g4,g5⟩:=JE g2 (by rw[<-u,ox];exact hv)
  obtain⟨r,J,L,O⟩:=Gj B hv rem (k+1) n hd.2 g2 u.symm;refine⟨((k:Int)+1,c)::r,?_,by simp[L],λi x z=>?_⟩
  .simp only[vg,g1,g4,ζb];rw[show (k:Int)+1=((k+1:Nat):Int)from rfl,J];rfl
  .cases i with
   | zero=>
    simp only[List.getElem?_cons_zero,ζa]at z;subst z;exact⟨rfl,by rw[g5,<-u]⟩
   | succ i=>
    rw[List.getElem?_cons_succ]at z;obtain⟨Q,S⟩:=O i x z;exact⟨by rw[Q];congr 1;omega,by rw[S];congr 1;omega⟩
theorem Fg {P:bT} (B:tR P) (hv:P.vars.l.length<1073741824) (J:P.events.l.length<1073741824) (D:∀e∈P.events.l,e.assign.l.length<1073741824) :
 ∃r,jk P=some r/\r.length=P.events.l.length+1/\∀(i:Nat) x,r[i]? = some x->x.1=(i:Int)/\x.2.l=gM P i:=by
 obtain⟨s,g1,g2,g3⟩:=HE P.vars.l .nil (.inl rfl) (by simpa [Sl.l]using hv)
 have w:s.l=gM P 0:=by rw[g3];simp[Sl.l,gM]
 obtain⟨c,g4,g5⟩:=JE g2 (by rw[w,ox];exact hv)
 obtain⟨r,z,A,C⟩:=Gj B hv P.events.l 0 s rfl g2 w;refine⟨(0,c)::r,?_,by simp[A],λi x u=>?_⟩
 .unfold jk;have hc:(oE P.vars.l.length&&(oE P.events.l.length&&P.events.l.all λe=>oE e.assign.l.length))=true:=by
   simp only[ζh,List.all_eq_true,oE,decide_eq_true_eq];exact⟨by omega,by omega,λe h=>by have:=D e h;omega⟩
  rw[if_pos hc,g1,ζb,g4,ζb];rw[show ((0:Nat):Int)=0 from rfl]at z;rw[z];rfl
 .cases i with
  | zero=>
   simp only[List.getElem?_cons_zero,ζa]at u;subst u;exact⟨rfl,by rw[g5,w]⟩
  | succ i=>
   rw[List.getElem?_cons_succ]at u;obtain⟨G,I⟩:=C i x u;exact⟨by rw[G];congr 1;omega,by rw[I];congr 1;omega⟩
theorem Pz {P:bT} (B:tR P) (hv:P.vars.l.length<1073741824) (D:P.events.l.length<1073741824) (G:∀e∈P.events.l,e.assign.l.length<1073741824) {k:Nat} (hk:k<=P.events.l.length) :
 ∃x,fF P (k:Int)=some x/\x.l=gM P k:=by
 obtain⟨r,h1,L,C⟩:=Fg B hv D G;have key:∀(rem:List (Int×Sl Int)) (i:Nat) (q:Sl Int),r.drop i=rem->i<=k->∃x,(kA (λ(x:Int×(Sl Int)) (q:Sl Int)=>fF.jB P k x q) rem q).bind (Fw.qw (λq=>some Sl.nil) (λe=>Empty.elim e) (λe=>some e))=some x/\x.l=gM P k:=by
  intro rem
  induction rem with
  | nil=>
   intro i q hd hi;have:r.length<=i:=by simpa using hd
   omega
  | cons y rem I=>
   intro i q hd hi;have u:i<r.length:=by omega
   have e2:=List.drop_eq_getElem_cons u;rw[e2]at hd;simp only[List.cons.injEq]at hd;obtain⟨A,J⟩:=C i y (by rw[ζd u,hd.1])
   by_cases w:i=k
   .subst w;refine⟨y.2,?_,J⟩;simp only[kA,fF.jB,A,beq_self_eq_true,bf,if_true,ζb,Fw.qw]
   .have z:(y.1==(k:Int))=false:=by rw[A];simp;omega
    obtain⟨x,g1,g2⟩:=I (i+1) .nil hd.2 (by omega)
    refine⟨x,?_,g2⟩;simp only[kA,fF.jB,z,bf,Bool.false_eq_true,if_false,ζb];exact g1
 obtain⟨x,g1,g2⟩:=key r 0 .nil rfl (Nat.zero_le _);refine⟨x,?_,g2⟩;unfold fF nk fF.E1;simp only[ζb,h1];exact g1
end Go.VE
namespace Go.VE
mutual
def Pred.sz:Pred->Nat
 | ⟨_,_,_,_,_,l⟩=>1+Pred.T3 l
def Pred.T3:Sl Pred->Nat
 | .nil=>0
 | .emp=>0
 | .row l=>Pred.lW l
 | .part l=>Pred.lW l
def Pred.lW:List Pred->Nat
 | []=>0
 | x::r=>Pred.sz x+Pred.lW r
end
mutual
def Pred.dp:Pred->Nat
 | ⟨_,_,_,_,_,l⟩=>1+Pred.UT l
def Pred.UT:Sl Pred->Nat
 | .nil=>0
 | .emp=>0
 | .row l=>Pred.sG l
 | .part l=>Pred.sG l
def Pred.sG:List Pred->Nat
 | []=>0
 | x::r=>max (Pred.dp x) (Pred.sG r)
end
mutual
def Pred.fL (f:Pred->Bool):Pred->Bool
 | ⟨a,b,c,d,e,l⟩=>f ⟨a,b,c,d,e,l⟩&&Pred.KK f l
def Pred.KK (f:Pred->Bool):Sl Pred->Bool
 | .nil=>true
 | .emp=>true
 | .row l=>Pred.DL f l
 | .part l=>Pred.DL f l
def Pred.DL (f:Pred->Bool):List Pred->Bool
 | []=>true
 | x::r=>Pred.fL f x&&Pred.DL f r
end
theorem Pred.Vs (s:Sl Pred):Pred.T3 s=Pred.lW s.l:=by cases s <;> simp[Pred.T3,Pred.lW,Sl.l]
theorem Pred.VL (s:Sl Pred):Pred.UT s=Pred.sG s.l:=by cases s <;> simp[Pred.UT,Pred.sG,Sl.l]
theorem Pred.GC (f:Pred->Bool):∀l:List Pred,Pred.DL f l=l.all (Pred.fL f)
 | []=>by simp[Pred.DL]
 | x::r=>by simp only[Pred.DL,List.all_cons,Pred.GC f r]
theorem Pred.Uq (f:Pred->Bool) (s:Sl Pred):Pred.KK f s=s.l.all (Pred.fL f):=by cases s <;> simp[Pred.KK,Pred.GC,Sl.l]
theorem Pred.QJ (p:Pred):p.sz=1+Pred.lW p.l.l:=by cases p;simp only[Pred.sz,Pred.Vs]
theorem Pred.Cz (p:Pred):p.dp=1+Pred.sG p.l.l:=by cases p;simp only[Pred.dp,Pred.VL]
theorem Pred.j_ (f:Pred->Bool) (p:Pred):p.fL f=(f p&&p.l.l.all (Pred.fL f)):=by cases p;simp only[Pred.fL,Pred.Uq]
theorem Pred.JM:∀{l:List Pred} {q:Pred},q∈l->q.dp<=Pred.sG l
 | x::r,q,h=>by
  simp only[Pred.sG];rcases List.mem_cons.1 h with rfl|h
  .omega
  .have:=Pred.JM h;omega
theorem Pred.pn {p q:Pred} (h:q∈p.l.l):q.dp<p.dp:=by rw[p.Cz];have:=Pred.JM h;omega
theorem Pred.qJ (p:Pred):0<p.dp:=by rw[p.Cz];omega
theorem Pred.ind {M:Pred->Prop} (h:∀p,(∀q∈p.l.l,M q)->M p) (p:Pred):M p:=by
 have key:∀n p,p.dp<=n->M p:=by
  intro n
  induction n with
  | zero=>intro p u;have:=p.qJ;omega
  | succ n w=>intro p u;exact h p λq z=>w q (by have:=Pred.pn z;omega)
 exact key _ p (Nat.le_refl _)
abbrev Pred.Sm (p:Pred):Prop:=p.fL (λq=>decide (q.l.l.length<1073741824))=true
theorem Pred.Sm.len {p:Pred} (h:p.Sm):p.l.l.length<1073741824:=by
 unfold Pred.Sm at h;rw[p.j_]at h;simp only[ζh,decide_eq_true_eq]at h;exact h.1
theorem Pred.Sm.sX {p q:Pred} (h:p.Sm) (B:q∈p.l.l):q.Sm:=by
 unfold Pred.Sm at h;rw[p.j_]at h;simp only[ζh,List.all_eq_true]at h;exact h.2 q B
theorem Ki {f:Pred->Option Bool} {g:Pred->Bool} (p:Pred) (B:p.Sm):p.fL (λq=>f q==some (g q))=true->∀n,p.dp<=n->c_ (λr (z:Pred)=>i_ z f r) n p=some (p.fL g):=by
 induction p using Pred.ind with
 | h p A=>
  intro u n C;rw[p.j_]at u;simp only[ζh,List.all_eq_true,beq_iff_eq]at u;have hd:=p.Cz;rw[iy (by omega)]
  show i_ p f _=_;unfold i_;rw[u.1,ζb,p.j_]
  cases g p with
  | false=>rfl
  | true=>
   rw[bD,Al _ B.len,yC (f:=λq => !q.fL g) (λq w=>by
    have:=A q w (B.sX w) (u.2 q w) (n-1) (by have:=Pred.pn w;omega)
    show (c_ (λr (z:Pred)=>i_ z f r) (n-1) q).bind _=_
    rw[this];rfl)]
   simp only[Option.map_some,ζb,Bool.true_and]
   congr 1
   rw[Bool.eq_iff_iff];simp
theorem uf {step:Int->Option (Fw Int Unit Unit)} {p:Pred} {g:Pred->Bool} (D:p.l.l.length<1073741824) (h:∀(i:Nat) (hi:i<p.l.l.length),step i=some (if g p.l.l[i]then .n ((i+1:Nat):Int)else .r ())) (B:step p.l.l.length=some (.x ())) :
 (bW (λq:Int=>step q) 0).bind (Fw.elim (λ_=>some true) (λ_=>some false))=some (p.l.l.all g):=by
 refine Wp.eq ?_;refine mZ p.l.l.length (λn s=>s=(n:Int)/\(p.l.l.take n).all g=true) ⟨rfl,rfl⟩ ?_ ?_
 .rintro i _ hi ⟨rfl,u⟩;rw[h i hi,a_]
  cases hg:g p.l.l[i]with
  | true=>
   refine⟨rfl,?_⟩;rw[List.take_add_one,ζd hi,List.all_append,u];simp[hg]
  | false=>
   refine(a_ _).2 ?_
   symm
   rw[List.all_eq_false];exact⟨_,List.getElem_mem hi,by rw[hg];simp⟩
 .rintro _ ⟨rfl,u⟩;rw[B,a_];rw[List.take_length]at u;exact(a_ _).2 u.symm
end Go.VE
namespace Go.VE
abbrev G1 (p:Pred):Bool:=ByteArray.toList p.name==ByteArray.toList ByteArray.empty
abbrev Dm (p:Pred) (c:Int):Bool:=(len p.l==c)&&(!decide (p.n<0)&&(!decide (p.n>1125899906842624)&&((p.n==0||p.kind==1)&&(p.kind==2||(p.kind==3||(p.kind==4||(p.proc==0&&(p.peer==0&&G1 p))))))))
theorem Qj:∀k:_root_.Fin 22,1<=k.1->cC.at wP ((k.1:Nat):Int)=kU ((k.1:Nat):Int)/\(kU ((k.1:Nat):Int)).isSome=true:=by decide
theorem yR {k:Int} (h1:1<=k) (B:k<22):∃c,cC.at wP k=some c/\kU k=some c:=by
 obtain⟨g1,g2⟩:=Qj ⟨k.toNat,by omega⟩ (by show 1<=k.toNat;omega)
 simp only at g1 g2;rw[show ((k.toNat:Nat):Int)=k from by omega]at g1 g2
 obtain⟨c,hc⟩:=Option.isSome_iff_exists.1 g2;exact⟨c,by rw[g1,hc],hc⟩
theorem Mr {k:Int} (h:k<1\/22<=k):kU k=some (-1):=by
 have d1:(bf (decide (k>=1)) (some (decide (k<=4))) (some false):Option Bool)=some false:=by
  by_cases h1:k>=1
  .rw[decide_eq_true h1,bD,decide_eq_false (by omega)]
  .rw[decide_eq_false h1];rfl
 have d2:(bf (decide (k>=18)) (some (decide (k<=21))) (some false):Option Bool)=some false:=by
  by_cases h1:k>=18
  .rw[decide_eq_true h1,bD,decide_eq_false (by omega)]
  .rw[decide_eq_false h1];rfl
 have d3:(bf (decide (k>=6)) (some (decide (k<=12))) (some false):Option Bool)=some false:=by
  by_cases h1:k>=6
  .rw[decide_eq_true h1,bD,decide_eq_false (by omega)]
  .rw[decide_eq_false h1];rfl
 have ne:∀m:Int,1<=m->m<22->(k==m)=false:=λm h1 u=>by simp;omega
 unfold kU;rw[d1,d2,d3,ne 13 (by omega) (by omega),ne 14 (by omega) (by omega),ne 5 (by omega) (by omega),ne 15 (by omega) (by omega),ne 16 (by omega) (by omega),ne 17 (by omega) (by omega)]
 rfl
theorem DT {p:Pred} {c:Int} (h1:1<=p.kind) (B:p.kind<22) (hc:cC.at wP p.kind=some c):kj p=some (Dm p c):=by
 unfold kj s6 Dm G1;rw[decide_eq_false (show ¬p.kind<1 by omega),bG,ζb,decide_eq_false (show ¬p.kind>=22 by omega),bG,hc,ζb,ζb]
 generalize (len p.l==c)=e;generalize decide (p.n<0)=a;generalize decide (p.n>1125899906842624)=b;generalize (p.n==0)=z;generalize (p.kind==1)=k1;generalize (p.kind==2)=u;generalize (p.kind==3)=w;generalize (p.kind==4)=A;generalize (p.proc==0)=d1;generalize (p.peer==0)=d2;generalize (ByteArray.toList p.name==ByteArray.toList ByteArray.empty)=d3
 cases e with
 | false=>rfl
 | true=>cases a with
  | true=>rfl
  | false=>cases b with
   | true=>rfl
   | false=>cases z <;> cases k1 <;> first|rfl|(cases u <;> cases w <;> cases A <;> cases d1 <;> cases d2 <;> cases d3 <;> rfl)
theorem Ce {p:Pred} (h:p.kind<1\/22<=p.kind):kj p=some false:=by
 unfold kj;have:(bf (decide (p.kind<1)) (some true) (some (decide (p.kind>=22))):Option Bool)=some true:=by
  by_cases h1:p.kind<1
  .rw[decide_eq_true h1];rfl
  .rw[decide_eq_false h1,bG,decide_eq_true (by omega)]
 rw[this];rfl
theorem Pp {p:Pred} {c:Int} (h1:1<=p.kind) (D:p.kind<22) (hc:kU p.kind=some c) (r:Pred->Option Bool):fE p r=bf (Dm p c) (eZ.W2 0 p r) (some false):=by
 unfold fE eZ.J1 Dm G1;rw[hc,ζb,show (c==len p.l)=(len p.l==c)from by rw[Bool.eq_iff_iff];simp;exact⟨Eq.symm,Eq.symm⟩]
 have hk:(bf (decide (p.kind<2)) (some true) (some (decide (p.kind>4))):Option Bool)=some (!(p.kind==2||(p.kind==3||p.kind==4))):=by
  by_cases g:p.kind<2
  .rw[decide_eq_true g,bD,show (p.kind==2)=false from by simp;omega,show (p.kind==3)=false from by simp;omega,show (p.kind==4)=false from by simp;omega];rfl
  .rw[decide_eq_false g,bG];congr 1;rw[Bool.eq_iff_iff];simp;omega
 have B:(p.n==0)=true->decide (p.n<0)=false/\decide (p.n>1125899906842624)=false:=λh=>by
  have h:p.n=0:=by simpa using h
  rw[h];exact⟨rfl,rfl⟩
 rw[hk];generalize (len p.l==c)=e;generalize decide (p.n<0)=a at *;generalize decide (p.n>1125899906842624)=b at *;generalize (p.n==0)=z at *;generalize (p.kind==1)=k1;generalize (p.kind==2)=u;generalize (p.kind==3)=w;generalize (p.kind==4)=A;generalize (p.proc==0)=d1;generalize (p.peer==0)=d2;generalize (ByteArray.toList p.name==ByteArray.toList ByteArray.empty)=d3
 cases e with
 | false=>rfl
 | true=>cases k1 with
  | true=>cases a with
   | true=>rfl
   | false=>cases b with
    | true=>rfl
    | false=>cases z <;> cases u <;> cases w <;> cases A <;> cases d1 <;> cases d2 <;> cases d3 <;> rfl
  | false=>cases z with
   | false=>cases a <;> cases b <;> rfl
   | true=>
    obtain⟨rfl,rfl⟩:=B rfl;cases u <;> cases w <;> cases A <;> cases d1 <;> cases d2 <;> cases d3 <;> rfl
def fB (p:Pred):Bool:=(kj p).getD false
theorem R8 (p:Pred):kj p=some (fB p):=by
 unfold fB
 by_cases h:p.kind<1\/22<=p.kind
 .rw[Ce h];rfl
 .obtain⟨c,hc,-⟩:=yR (k:=p.kind) (by omega) (by omega)
  rw[DT (by omega) (by omega) hc];rfl
theorem vv {p:Pred} (h:fB p=true):1<=p.kind/\p.kind<22/\cC.at wP p.kind=some (len p.l):=by
 by_cases g:p.kind<1\/22<=p.kind
 .unfold fB at h;rw[Ce g]at h;cases h
 .obtain⟨c,hc,-⟩:=yR (k:=p.kind) (by omega) (by omega)
  unfold fB at h;rw[DT (by omega) (by omega) hc]at h
  simp only[Dm,Option.getD_some,ζh,beq_iff_eq]at h;exact⟨by omega,by omega,by rw[hc,h.1]⟩
theorem PD (p:Pred) (r:Pred->Option Bool):fE p r=bf (fB p) (eZ.W2 0 p r) (some false):=by
 unfold fB
 by_cases h:p.kind<1\/22<=p.kind
 .rw[Ce h];unfold fE;rw[Mr h,ζb,show ((-1:Int)==len p.l)=false from by simp[len]];rfl
 .obtain⟨c,hc,u⟩:=yR (k:=p.kind) (by omega) (by omega)
  rw[DT (by omega) (by omega) hc,Pp (by omega) (by omega) u];rfl
theorem NH (p:Pred) (B:p.Sm):∀n,p.dp<=n->c_ (λr (z:Pred)=>fE z r) n p=some (p.fL fB):=by
 induction p using Pred.ind with
 | h p u=>
  intro n A;have hd:=p.qJ;rw[iy (by omega)]
  have u:=λq w=>u q w (B.sX w) (n-1)
  show fE p (c_ (λr (z:Pred)=>fE z r) (n-1))=_
  generalize c_ (λr (z:Pred)=>fE z r) (n-1)=R at u ⊢
  rw[PD,p.j_]
  cases fB p with
  | false=>rfl
  | true=>
   rw[bD,Bool.true_and];unfold eZ.W2;refine uf (g:=Pred.fL fB) B.len (λi hi=>?_) ?_
   .unfold eZ.bZ;rw[mJ hi,bD,bK hi,ζb,u _ (List.getElem_mem hi) (by have:=Pred.pn (List.getElem_mem hi);omega),ζb,c7 i (by have:=B.len;omega)]
    cases Pred.fL fB p.l.l[i] <;> rfl
   .unfold eZ.bZ;rw[o8];rfl
def kX (p:Pred):Bool:=decide (p.sz<=200)&&(decide (p.dp<=20)&&p.fL fB)
abbrev nO (p:Pred) (d l:Nat):Bool:=decide (p.sz<=l)&&(decide (p.dp+d<=21)&&p.fL fB)
abbrev um (k:List Pred) (d l:Nat):Bool:=decide (Pred.lW k<=l)&&(decide (Pred.sG k+d<=21)&&k.all (Pred.fL fB))
theorem SP (p:Pred) (U:p.Sm):∀(n d l:Nat),1<=n->22<=n+d->d<=21->1<=d->l<=200 ->
 ∃D:Int,c_ (λr (z:Pred×Int×Int)=>eB z.1 z.2.1 z.2.2 r) n (p,(d:Int),(l:Int))=some (nO p d l,D)/\(nO p d l=true->D=((l-p.sz:Nat):Int)):=by
 induction p using Pred.ind with
 | h p I=>
  intro n d l hn Z hd zq hl;have G:=p.QJ;have L:=p.Cz;rw[iy (by omega)]
  have I:=λq J=>I q J (U.sX J) (n-1)
  show ∃D,eB p (d:Int) (l:Int) (c_ (λr (z:Pred×Int×Int)=>eB z.1 z.2.1 z.2.2 r) (n-1))=_/\_
  generalize c_ (λr (z:Pred×Int×Int)=>eB z.1 z.2.1 z.2.2 r) (n-1)=R at I ⊢
  unfold eB;rw[gV _ (by omega) (by omega),R8]
  by_cases h0:l=0
  .subst h0;have w:nO p d 0=false:=by
    have:¬(p.sz<=0):=by omega
    simp only[nO,decide_eq_false this,Bool.false_and]
   rw[w];exact⟨_,rfl,λh=>by cases h⟩
  rw[decide_eq_false (show ¬((l:Int)-1<0)by omega),bG,ζb]
  by_cases h1:20<d
  .have w:nO p d l=false:=by
    have:¬(p.dp+d<=21):=by have:=p.qJ;omega
    simp only[nO,decide_eq_false this,Bool.false_and,Bool.and_false]
   rw[w,decide_eq_true (show (d:Int)>20 by omega)]
   exact⟨_,rfl,λh=>by cases h⟩
  rw[decide_eq_false (show ¬((d:Int)>20)by omega),bG,ζb]
  have T:=p.j_ fB
  cases W:fB p with
  | false=>
   have w:nO p d l=false:=by simp[nO,T,W]
   rw[w];exact⟨_,rfl,λh=>by cases h⟩
  | true=>
   rw[ζb,show (!true)=false from rfl,bG,Jx U.len];have key:∀(k:List Pred),(∀q∈k,q∈p.l.l)->∀m:Nat,m<=200->∃m':Int,xy (λx s=>hU x (d:Int) s R) k (m:Int)=some (!um k (d+1) m,m')/\(um k (d+1) m=true->m'=((m-Pred.lW k:Nat):Int)):=by
    intro k
    induction k with
    | nil=>intro _ m _;exact⟨m,by simp[xy,um,Pred.lW,Pred.sG];omega,λ_=>by simp[Pred.lW]⟩
    | cons q k O=>
     intro hk m hm;obtain⟨D,g1,g2⟩:=I q (hk q (by simp)) (d+1) m (by omega) (by omega) (by omega) (by omega) hm
     have e1:hU q (d:Int) (m:Int) R=some (!nO q (d+1) m,D):=by
      unfold hU;rw[c7 d (by omega),g1];rfl
     simp only[xy,e1,ζb];have u:um (q::k) (d+1) m=(nO q (d+1) m&&um k (d+1) (m-q.sz)):=by
      rw[Bool.eq_iff_iff];simp only[um,nO,Pred.lW,Pred.sG,ζh,List.all_cons];constructor
      .rintro⟨A,B,C,a4⟩;have A:=of_decide_eq_true A;have B:=of_decide_eq_true B;exact⟨⟨decide_eq_true (by omega),decide_eq_true (by omega),C⟩,decide_eq_true (by omega),decide_eq_true (by omega),a4⟩
      .rintro⟨⟨A,B,C⟩,X,Y,b3⟩;have A:=of_decide_eq_true A;have B:=of_decide_eq_true B;have X:=of_decide_eq_true X;have Y:=of_decide_eq_true Y;exact⟨decide_eq_true (by omega),decide_eq_true (by omega),C,b3⟩
     cases w:nO q (d+1) m with
     | false=>
      rw[u,w];exact⟨D,rfl,λh=>by cases h⟩
     | true=>
      obtain⟨m',Q,S⟩:=O (λx hx=>hk x (List.mem_cons_of_mem _ hx)) (m-q.sz) (by omega)
      rw[u,w,Bool.true_and,g2 w];refine⟨m',by simpa using Q,λh=>?_⟩
      rw[S h];have:q.sz<=m:=by
       have:=w;simp only[nO,ζh]at this;exact of_decide_eq_true this.1
      congr 1
      show m-q.sz-Pred.lW k=m-(q.sz+Pred.lW k);omega
   obtain⟨m',Q,S⟩:=key p.l.l (λq J=>J) (l-1) (by omega)
   rw[show ((l:Int)-1)=((l-1:Nat):Int)from by omega,Q,ζb]
   have w:nO p d l=um p.l.l (d+1) (l-1):=by
    rw[Bool.eq_iff_iff];simp only[nO,um,ζh,T,W,true_and,G,L];constructor
    .rintro⟨A,B,C⟩;have A:=of_decide_eq_true A;have B:=of_decide_eq_true B;exact⟨decide_eq_true (by omega),decide_eq_true (by omega),C⟩
    .rintro⟨A,B,C⟩;have A:=of_decide_eq_true A;have B:=of_decide_eq_true B;exact⟨decide_eq_true (by omega),decide_eq_true (by omega),C⟩
   refine⟨m',by rw[w];simp,λh=>?_⟩
   rw[S (by rw[<-w];exact h),G]
   congr 1
   omega
theorem yZ {p:Pred} (B:p.Sm):k8 p=some (kX p):=by
 obtain⟨C,h,-⟩:=SP p B 100000 1 200 (by omega) (by omega) (by omega) (by omega) (by omega)
 unfold k8 qb;rw[show c_ (λr (z:Pred×Int×Int)=>eB z.1 z.2.1 z.2.2 r) 100000 (p,(1:Int),(200:Int))=_ from h]
 simp only[ζb]
 congr 1
 rw[Bool.eq_iff_iff];simp only[kX,nO,ζh];constructor
 .rintro⟨w,u,A⟩;have u:=of_decide_eq_true u;exact⟨w,decide_eq_true (by omega),A⟩
 .rintro⟨w,u,A⟩;have u:=of_decide_eq_true u;exact⟨w,decide_eq_true (by omega),A⟩
theorem PY {l:List Pred} {i:Nat} (h:i<l.length):Pred.lW (l.take (i+1))=Pred.lW (l.take i)+l[i].sz:=by
 have key:∀(l:List Pred) (i:Nat) (h:i<l.length),Pred.lW (l.take (i+1))=Pred.lW (l.take i)+l[i].sz:=by
  intro l
  induction l with
  | nil=>intro i h;simp at h
  | cons x r u=>
   intro i h
   cases i with
   | zero=>simp[Pred.lW]
   | succ i=>
    have:=u i (by simpa using h)
    simp only[List.take_succ_cons,Pred.lW,List.getElem_cons_succ]at this ⊢;omega
 exact key l i h
theorem P9 {l:List Pred} {i:Nat} (h:i<l.length):Pred.sG (l.take (i+1))=max (Pred.sG (l.take i)) l[i].dp:=by
 have key:∀(l:List Pred) (i:Nat) (h:i<l.length),Pred.sG (l.take (i+1))=max (Pred.sG (l.take i)) l[i].dp:=by
  intro l
  induction l with
  | nil=>intro i h;simp at h
  | cons x r u=>
   intro i h
   cases i with
   | zero=>simp[Pred.sG]
   | succ i=>
    have:=u i (by simpa using h)
    simp only[List.take_succ_cons,Pred.sG,List.getElem_cons_succ]at this ⊢;omega
 exact key l i h
theorem Ji (l:List Pred) (i:Nat):Pred.lW (l.take i)<=Pred.lW l:=by
 induction l generalizing i with
 | nil=>simp
 | cons x r u=>cases i with
  | zero=>simp[Pred.lW]
  | succ i=>simp only[List.take_succ_cons,Pred.lW];have:=u i;omega
theorem count_eq (p:Pred) (D:p.Sm):∀(n l:Nat),l+1<=n->l<=200->c_ (λr (z:Pred×Int)=>gR z.1 z.2 r) n (p,(l:Int))=some ((min p.sz (l+1):Nat):Int):=by
 induction p using Pred.ind with
 | h p B=>
  intro n l L O;have I:=p.QJ;rw[iy (by omega)]
  have B:=λq G=>B q G (D.sX G) (n-1)
  show gR p (l:Int) (c_ (λr (z:Pred×Int)=>gR z.1 z.2 r) (n-1))=_
  generalize c_ (λr (z:Pred×Int)=>gR z.1 z.2 r) (n-1)=R at B ⊢
  unfold gR jY.W1;refine Wp.eq ?_;refine eD (λs:Int×Int=>∃i:Nat,s.2=i/\i<=p.l.l.length/\s.1=((min (1+Pred.lW (p.l.l.take i)) (l+1):Nat):Int)) (λs=>p.l.l.length-s.2.toNat) ⟨0,rfl,Nat.zero_le _,by simp[Pred.lW]⟩ ?_
  rintro⟨c,_⟩ ⟨i,rfl,hi,hc⟩;simp only at hc;subst hc;unfold jY.br
  by_cases u:i<p.l.l.length
  .rw[mJ u,bD,ζb]
   by_cases J:min (1+Pred.lW (p.l.l.take i)) (l+1)<=l
   .have w:min (1+Pred.lW (p.l.l.take i)) (l+1)=1+Pred.lW (p.l.l.take i):=by omega
    have A:=List.getElem_mem u;rw[decide_eq_true (show (((min (1+Pred.lW (p.l.l.take i)) (l+1):Nat)):Int)<=(l:Int)by omega),bD,bK u,ζb,w,gV _ (by omega) (by omega),
     show (l:Int)-((1+Pred.lW (p.l.l.take i):Nat):Int)=((l-(1+Pred.lW (p.l.l.take i)):Nat):Int)from by omega,
     B _ A _ (by omega) (by omega),ζb,a_,gV _ (by omega) (by omega),c7 i (by have:=D.len;omega)]
    refine⟨⟨i+1,rfl,by omega,?_⟩,by simp only;omega⟩
    simp only;rw[PY u];omega
   .rw[decide_eq_false (show ¬(((min (1+Pred.lW (p.l.l.take i)) (l+1):Nat)):Int)<=(l:Int)by omega),bG,a_]
    refine(a_ _).2 ?_;have:=Ji p.l.l i
    congr 1
    omega
  .have C:i=p.l.l.length:=by omega
   subst C;rw[show decide (((p.l.l.length:Nat):Int)<len p.l)=false from o8,bG,ζb,bG,a_];refine(a_ _).2 ?_;rw[List.take_length]
   congr 1
   omega
theorem Qg (p:Pred) (B:p.Sm):∀(n m:Nat),m+1<=n->m<=200->c_ (λr (z:Pred×Int)=>gQ z.1 z.2 r) n (p,(m:Int))=some ((min p.dp (m+1):Nat):Int):=by
 induction p using Pred.ind with
 | h p A=>
  intro n m G I;have D:=p.Cz;rw[iy (by omega)]
  have A:=λq C=>A q C (B.sX C) (n-1)
  show gQ p (m:Int) (c_ (λr (z:Pred×Int)=>gQ z.1 z.2 r) (n-1))=_
  generalize c_ (λr (z:Pred×Int)=>gQ z.1 z.2 r) (n-1)=R at A ⊢
  unfold gQ
  by_cases h0:m=0
  .subst h0;rw[show (((0:Nat):Int)==0)=true from rfl,bD]
   congr 1;omega
  rw[show ((m:Int)==0)=false from by simp;omega,bG]
  unfold jl.W1;refine Wp.eq ?_;refine mZ p.l.l.length (λi s=>s.2=(i:Int)/\s.1=((min (Pred.sG (p.l.l.take i)) m:Nat):Int)) ⟨rfl,by simp[Pred.sG]⟩ ?_ ?_
  .rintro i ⟨c,_⟩ u ⟨e1,e2⟩;simp only at e1 e2;subst e1 e2;have w:=List.getElem_mem u;unfold jl.br;rw[mJ u,bD,bK u,ζb,gV _ (by omega) (by omega),show ((m:Int)-1)=((m-1:Nat):Int)from by omega,A _ w _ (by omega) (by omega),ζb,a_,c7 i (by have:=B.len;omega)]
   refine⟨rfl,?_⟩;simp only;rw[P9 u];split <;> omega
  .rintro⟨c,_⟩ ⟨e1,e2⟩;simp only at e1 e2;subst e1 e2;unfold jl.br;rw[o8,bG,a_];refine(a_ _).2 ?_;rw[List.take_length,c7 _ (by omega)]
   omega
theorem zj {p:Pred} (B:p.Sm):mO p=some (kX p):=by
 unfold mO xz jY jl eZ;rw[show c_ (λr (z:Pred×Int)=>gR z.1 z.2 r) 100000 (p,(200:Int))=_ from count_eq p B 100000 200 (by omega) (by omega),ζb,ζb]
 unfold kX
 by_cases h1:p.sz<=200
 .rw[decide_eq_true h1,if_neg (by omega),decide_eq_true (by omega),bD,show c_ (λr (z:Pred×Int)=>gQ z.1 z.2 r) 100000 (p,(21:Int))=_ from Qg p B 100000 21 (by omega) (by omega),ζb,ζb]
  by_cases u:p.dp<=20
  .rw[decide_eq_true u,decide_eq_true (by omega),bD,NH p B 100000 (by omega)];rfl
  .rw[decide_eq_false u,decide_eq_false (by omega)];rfl
 .rw[decide_eq_false h1,decide_eq_false (by split <;> omega)];rfl
end Go.VE
namespace Go.VE
section
variable {t:Trace}
abbrev rV (t:Trace) (p:Int):Bool:=decide (p>=0)&&decide (p<len t.procs)
def BP (t:Trace) (p:Int) (name:ByteArray):Bool:=match idx t.procs p with
 | some P=>P.vars.l.any λv=>ByteArray.toList v.name==ByteArray.toList name
 | none=>false
def oc (t:Trace) (q:Pred):Bool:=
 if q.kind==2 then rV t q.proc&&(q.peer==0&&BP t q.proc q.name)
 else if q.kind==3 then rV t q.proc&&(q.peer==0&&G1 q)
 else if q.kind==4 then rV t q.proc&&(rV t q.peer&&(!(q.proc==q.peer)&&G1 q))else true
theorem Kg (p:Int):jO t p=some (rV t p):=by
 unfold jO rV;cases decide (p>=0) <;> rfl
theorem Rc (p:Int):nu t p=some (rV t p):=by
 unfold nu rV;cases decide (p>=0) <;> rfl
theorem uA {p:Int} (h:rV t p=true):∃n:Nat,p=n/\n<t.procs.l.length:=by
 simp only[rV,ζh]at h;have h1:=of_decide_eq_true h.1;have u:=of_decide_eq_true h.2;exact⟨p.toNat,by omega,by simp only[len]at u;omega⟩
theorem Ow (hS:Small t) {p:Int} (h:rV t p=true) (name:ByteArray):qB t p name=some (BP t p name):=by
 obtain⟨n,rfl,u⟩:=uA h;unfold qB BP;rw[bK u,ζb,BD (p:=λz=>nQ z name) (f:=λv=>ByteArray.toList v.name==ByteArray.toList name) (λv _=>rfl) (hS.2 _ (List.getElem_mem u)).2.1]
 rfl
theorem DP (hS:Small t) {p:Int} (h:rV t p=true) (name:ByteArray):Wp (iE t p name) λi=>(∃(n k:Nat) (P:bT) (v:Var),p=n/\t.procs.l[n]? = some P/\i=k/\P.vars.l[k]? = some v/\(ByteArray.toList v.name==ByteArray.toList name)=true/\(∀(j:Nat) (w:Var),j<k->P.vars.l[j]? = some w->(ByteArray.toList w.name==ByteArray.toList name)=false)/\BP t p name=true)\/i=-1/\BP t p name=false:=by
 obtain⟨n,rfl,u⟩:=uA h;have J:=ζd u;have L:=(hS.2 _ (List.getElem_mem u)).2.1;unfold iE iE.W1;have z:BP t (n:Int) name=t.procs.l[n].vars.l.any λv=>ByteArray.toList v.name==ByteArray.toList name:=by unfold BP;rw[bK u]
 refine mZ t.procs.l[n].vars.l.length (λi s=>s=(i:Int)/\∀(j:Nat) (w:Var),j<i->t.procs.l[n].vars.l[j]? = some w->(ByteArray.toList w.name==ByteArray.toList name)=false) ⟨rfl,λj w A=>absurd A (by omega)⟩ ?_ ?_
 .rintro i _ hi ⟨rfl,B⟩;unfold iE.br;rw[bK u,ζb,mJ hi,bD,ζb,bK hi,ζb]
  cases C:ByteArray.toList t.procs.l[n].vars.l[i].name==ByteArray.toList name with
  | true=>
   rw[bD,a_];refine(a_ _).2 (.inl ⟨n,i,_,_,rfl,J,rfl,ζd hi,C,B,?_⟩);rw[z,List.any_eq_true];exact⟨_,List.getElem_mem hi,C⟩
  | false=>
   rw[bG,a_,c7 i (by omega)]
   refine⟨rfl,λj w A D=>?_⟩
   by_cases G:j=i
   .subst G;rw[ζd hi]at D;cases D;exact C
   .exact B j w (by omega) D
 .rintro _ ⟨rfl,B⟩;unfold iE.br;rw[bK u,ζb,o8,bG,a_];refine(a_ _).2 (.inr ⟨rfl,?_⟩);rw[z,List.any_eq_false];intro v hv;obtain⟨j,A⟩:=List.mem_iff_getElem?.1 hv;have I:=(ζe.1 A).1;rw[B j v I A];simp
theorem SO (hS:Small t) (q:Pred):jV q t=some (oc t q):=by
 unfold jV oc G1;rw[Kg,Kg]
 cases q.kind==2 with
 | true=>
  rw[bD,if_pos rfl,ζb]
  cases h:rV t q.proc with
  | false=>rfl
  | true=>
   rw[Ow hS h];cases q.peer==0 <;> rfl
 | false=>
  rw[bG,if_neg (by simp)]
  cases q.kind==3 with
  | true=>
   rw[bD,if_pos rfl];cases rV t q.proc <;> cases q.peer==0 <;> cases (ByteArray.toList q.name==ByteArray.toList ByteArray.empty) <;> rfl
  | false=>
   rw[bG,if_neg (by simp)]
   cases q.kind==4 with
   | true=>
    rw[bD,if_pos rfl];cases rV t q.proc <;> cases rV t q.peer <;> cases (q.proc==q.peer) <;> cases (ByteArray.toList q.name==ByteArray.toList ByteArray.empty) <;> rfl
   | false=>rfl
theorem S8 (hS:Small t) (q:Pred) (r:Trace×Pred->Option Bool):fm t q r=bf (oc t q) (fH.W1 0 t q r) (some false):=by
 unfold fm oc G1;rw[Rc,Rc];have hex:(q.kind==2)=true->(q.kind==3)=false/\(q.kind==4)=false:=λh=>by
  have:q.kind=2:=by simpa using h
  rw[this];exact⟨rfl,rfl⟩
 have u:(q.kind==3)=true->(q.kind==4)=false:=λh=>by
  have:q.kind=3:=by simpa using h
  rw[this];rfl
 cases z:q.kind==2 with
 | true=>
  obtain⟨w,A⟩:=hex z;rw[bD,if_pos rfl,ζb,w,A]
  cases h:rV t q.proc with
  | false=>rfl
  | true=>
   rw[bD,ζb]
   cases q.peer==0 with
   | false=>rfl
   | true=>
    obtain⟨i,hi,hc⟩:=DP hS h q.name;rw[show (!true)=false from rfl,bG,hi,ζb];rcases hc with⟨n,k,P,v,-,-,rfl,-,-,-,hv⟩|⟨rfl,hv⟩
    .rw[hv,decide_eq_false (show ¬((k:Nat):Int)<0 by omega)];rfl
    .rw[hv];rfl
 | false=>
  rw[bG,if_neg (by simp),ζb,bG]
  cases w:q.kind==3 with
  | true=>
   rw[bD,if_pos rfl,u w];cases rV t q.proc <;> cases q.peer==0 <;> cases (ByteArray.toList q.name==ByteArray.toList ByteArray.empty) <;> rfl
  | false=>
   rw[bG,if_neg (by simp),ζb,bG]
   cases q.kind==4 with
   | true=>
    rw[bD,if_pos rfl];cases rV t q.proc <;> cases rV t q.peer <;> cases (q.proc==q.peer) <;> cases (ByteArray.toList q.name==ByteArray.toList ByteArray.empty) <;> rfl
   | false=>rfl
theorem G2 {f:Pred->Option Bool} {g:Pred->Bool} (h:∀q,f q=some (g q)) {p:Pred} (B:p.Sm) (hd:p.dp<=100000):mM p f=some (p.fL g):=by
 refine Ki p B ?_ _ hd
 induction p using Pred.ind with
 | h p w=>
  rw[p.j_,ζh,List.all_eq_true];exact⟨by rw[h];simp,λq u=>w q u (B.sX u) (by have:=Pred.pn u;omega)⟩
theorem GQ (hS:Small t) {p:Pred} (B:p.Sm) (hd:p.dp<=100000):nJ t p=some (p.fL (oc t)):=by
 unfold nJ;rw[G2 (g:=oc t) (λq=>SO hS q) B hd];rfl
theorem HK (hS:Small t) (p:Pred) (B:p.Sm):∀n,p.dp<=n->c_ (λr (z:Trace×Pred)=>fm z.1 z.2 r) n (t,p)=some (p.fL (oc t)):=by
 induction p using Pred.ind with
 | h p u=>
  intro n A;have hd:=p.qJ;rw[iy (by omega)]
  have u:=λq w=>u q w (B.sX w) (n-1)
  show fm t p (c_ (λr (z:Trace×Pred)=>fm z.1 z.2 r) (n-1))=_
  generalize c_ (λr (z:Trace×Pred)=>fm z.1 z.2 r) (n-1)=R at u ⊢
  rw[S8 hS,p.j_]
  cases oc t p with
  | false=>rfl
  | true=>
   rw[bD,Bool.true_and];unfold fH.W1;refine uf (g:=Pred.fL (oc t)) B.len (λi hi=>?_) ?_
   .unfold fH.br;rw[mJ hi,bD,bK hi,ζb,u _ (List.getElem_mem hi) (by have:=Pred.pn (List.getElem_mem hi);omega),ζb,c7 i (by have:=B.len;omega)]
    cases Pred.fL (oc t) p.l.l[i] <;> rfl
   .unfold fH.br;rw[o8];rfl
abbrev mz (k:Int):Int:=if k<=8 then 1 else 2
abbrev t_ (k:Int):Int:=if k<=12 then 1 else 2
def pW (q:Pred):Bool:=q.l.l.all λk=>mz k.kind==t_ q.kind
theorem Am (k:Int):k7 k=some (mz k):=by
 unfold k7 mz
 by_cases h:k<=8
 .rw[decide_eq_true h,if_pos h];rfl
 .rw[decide_eq_false h,if_neg h];rfl
theorem BX (q:Pred):oW q=some (mz q.kind):=by
 unfold oW mz
 by_cases h:q.kind<=8
 .rw[decide_eq_true h,if_pos h];rfl
 .rw[decide_eq_false h,if_neg h];rfl
theorem Su (k:Int):qZ k=some (t_ k):=by
 unfold qZ t_
 by_cases h:k<=12
 .rw[decide_eq_true h,if_pos h];rfl
 .rw[decide_eq_false h,if_neg h];rfl
theorem RH {q:Pred} (B:q.l.l.length<1073741824):iU q=some (pW q):=by
 unfold iU pW;rw[Al _ B,yC (f:=λk => !(mz k.kind==t_ q.kind)) (λk _=>by
  unfold lJ;rw[Am,Su];rfl)]
 simp only[Option.map_some,ζb]
 congr 1
 rw[Bool.eq_iff_iff];simp
theorem Er {p:Pred} (B:p.Sm) (hd:p.dp<=100000):od p=some (p.fL pW):=by
 unfold od;have:p.fL (λq=>(λz=>iU z) q==some (pW q))=true:=by
  clear hd
  induction p using Pred.ind with
  | h p w=>
   rw[p.j_,ζh,List.all_eq_true];exact⟨by show (iU p==some (pW p))=true;rw[RH B.len];simp,λq u=>w q u (B.sX u)⟩
 unfold mM;rw[Ki p B this _ hd];rfl
theorem ES (p:Pred) (D:p.Sm):p.fL fB=true->∀n,p.dp<=n->c_ (λr (z:Pred)=>iK z r) n p=some (p.fL pW):=by
 induction p using Pred.ind with
 | h p C=>
  intro G n O;have hd:=p.qJ;rw[p.j_,ζh,List.all_eq_true]at G;rw[iy (by omega)]
  have C:=λq I=>C q I (D.sX I) (G.2 q I) (n-1)
  show iK p (c_ (λr (z:Pred)=>iK z r) (n-1))=_
  generalize c_ (λr (z:Pred)=>iK z r) (n-1)=R at C ⊢
  unfold iK fK.W1;have u:p.l.l≠[]->t_ p.kind=if p.kind>=15 then 2 else 1:=λA=>by
   obtain⟨k1,Q,J⟩:=vv G.1
   by_cases h:p.kind=13\/p.kind=14
   .have h0:cC.at wP p.kind=some 0:=by rcases h with h|h <;> (rw[h];rfl)
    rw[h0]at J;have:p.l.l.length=0:=by simpa [len]using (Option.some.inj J).symm
    exact absurd (List.length_eq_zero_iff.1 this) A
   .unfold t_;split <;> split <;> omega
  have B:p.fL pW=p.l.l.all λk=>(mz k.kind==t_ p.kind)&&Pred.fL pW k:=by
   rw[p.j_];unfold pW;rw[Bool.eq_iff_iff];simp only[ζh,List.all_eq_true];exact⟨λh k hk=>⟨h.1 k hk,h.2 k hk⟩,λh=>⟨λk hk=>(h k hk).1,λk hk=>(h k hk).2⟩⟩
  rw[B];refine uf (g:=λk=>(mz k.kind==t_ p.kind)&&Pred.fL pW k) D.len (λi hi=>?_) ?_
  .have A:p.l.l≠[]:=λh=>by rw[h]at hi;simp at hi
   have L:∀w:Int,fK.J2 (i:Int) w p R=some (if(mz p.l.l[i].kind==w)&&Pred.fL pW p.l.l[i]then .n ((i+1:Nat):Int)else .r ()):=λw=>by
    unfold fK.J2;rw[bK hi,ζb,BX,ζb,ζb,C _ (List.getElem_mem hi) (by have:=Pred.pn (List.getElem_mem hi);omega),c7 i (by have:=D.len;omega)]
    cases (mz p.l.l[i].kind==w) <;> cases Pred.fL pW p.l.l[i] <;> rfl
   unfold fK.br;rw[mJ hi,bD,L,L,u A]
   by_cases h:p.kind>=15
   .rw[decide_eq_true h,if_pos h];rfl
   .rw[decide_eq_false h,if_neg h];rfl
  .unfold fK.br;rw[o8];rfl
def rD (q:Pred):Bool:=decide (q.kind>=18)&&decide (q.kind<=21)
theorem Hz {p:Pred} (B:p.Sm):nR p=some (kX p && !p.fL λq => !rD q):=by
 unfold nR;rw[yZ B,ζb]
 cases u:kX p with
 | false=>rfl
 | true=>
  have hd:p.dp<=20:=by
   simp only[kX,ζh]at u;exact of_decide_eq_true u.2.1
  rw[bD,G2 (g:=λq => !rD q) (λq=>by
   unfold lU qH rD;cases decide (q.kind>=18) <;> rfl) B (by omega)]
  rfl
theorem HU (p:Pred) (B:p.Sm):∀n,p.dp<=n->c_ (λr (z:Pred)=>gi z r) n p=some (!p.fL λq => !rD q):=by
 induction p using Pred.ind with
 | h p u=>
  intro n D;have hd:=p.qJ;rw[iy (by omega)]
  have u:=λq A=>u q A (B.sX A) (n-1)
  show gi p (c_ (λr (z:Pred)=>gi z r) (n-1))=_
  generalize c_ (λr (z:Pred)=>gi z r) (n-1)=R at u ⊢
  unfold gi;rw[show (bf (decide (p.kind>=18)) (some (decide (p.kind<=21))) (some false):Option Bool)=some (rD p)from by unfold rD;cases decide (p.kind>=18) <;> rfl,ζb,p.j_]
  cases rD p with
  | true=>rfl
  | false=>
   rw[bG];unfold eX.W1;have key:(bW (λq:Int=>eX.br p q R) 0).bind (Fw.elim (λ_=>some true) (λ_=>some false))=some (p.l.l.all (Pred.fL λq => !rD q)):=by
    refine uf (g:=Pred.fL λq => !rD q) B.len (λi hi=>?_) ?_
    .unfold eX.br;rw[mJ hi,bD,bK hi,ζb,u _ (List.getElem_mem hi) (by have:=Pred.pn (List.getElem_mem hi);omega),ζb,c7 i (by have:=B.len;omega)]
     cases Pred.fL (λq => !rD q) p.l.l[i] <;> rfl
    .unfold eX.br;rw[o8];rfl
   cases C:bW (λq:Int=>eX.br p q R) 0 with
   | none=>rw[C]at key;cases key
   | some w=>
    rw[C]at key
    cases w with
    | n s=>exact Empty.elim s
    | x e=>simp only[ζb,Fw.elim,ζa]at key ⊢;rw[<-key];rfl
    | r e=>simp only[ζb,Fw.elim,ζa]at key ⊢;rw[<-key];rfl
theorem Gq {p:Pred} (B:p.Sm):pF p=some (kX p && !p.fL λq => !rD q):=by
 unfold pF eX;rw[zj B,ζb]
 cases u:kX p with
 | false=>rfl
 | true=>
  have hd:p.dp<=20:=by
   simp only[kX,ζh]at u;exact of_decide_eq_true u.2.1
  rw[bD,HU p B 100000 (by omega)];rfl
end
end Go.VE
namespace Go.VE
theorem By {t:Trace} (hS:Small t) (hv:dJ t=some true) (hV:VT t) {A:cC 200 bL} (hM:jQ t (bU t) A) (c:Sl Int):Wp (jf t c) λr=>Code t A c.l r.2:=by
 have D:=hV.few;unfold jf;rw[jc];refine(TU hS hv hV hM c).mono λr hr=>?_
 rw[cu];constructor
 .intro h0;have h0:r=0:=by simpa using h0
  have hC:=hr.zero.1 h0;have B:=hC.1.1;unfold jf.W1;refine eD (λs:Sl aY×Int=>∃n:Nat,s.2=n/\n<=c.l.length/\s.1.l.length<=n) (λs=>c.l.length-s.2.toNat) ⟨0,rfl,Nat.zero_le _,Nat.le_refl _⟩ ?_
  rintro⟨o,i⟩ ⟨n,hi,G,C⟩;simp only at hi C;subst hi;unfold jf.br;rw[cu];constructor
  .intro h;have w:n<c.l.length:=by simpa [len]using h
   have z:=c7 n (by omega)
   have u:c.l.length-(IntKind.wrap .i64 ((n:Int)+1)).toNat<c.l.length-((n:Int)).toNat:=by rw[z];simp;omega
   rw[bK w,ζb,cu];constructor
   .intro _;unfold iP;rw[if_pos (show o.l.length+1<=2147483648 from by omega),ζb,a_]
    exact⟨⟨n+1,z,by omega,by show (o.l++[_]).length<=n+1;rw[ζi,List.length_singleton];omega⟩,u⟩
   .intro _;exact(a_ _).2 ⟨⟨n+1,z,by omega,show o.l.length<=n+1 from by omega⟩,u⟩
  .intro _;exact(a_ _).2 ((a_ _).2 (h0▸hr))
 .intro h0;exact(a_ _).2 hr
end Go.VE
namespace Go.VE
theorem tR.of {t:Trace} (B:Ok t) {p:Nat} {P:bT} (D:t.procs.l[p]? = some P):tR P:=by
 intro e A a C;obtain⟨k,hk⟩:=List.mem_iff_getElem?.1 A;obtain⟨i,hi⟩:=List.mem_iff_getElem?.1 C;have h:=B.eY p k P e D hk;unfold nK at h;have w:i<e.assign.l.length:=by
  apply Classical.byContradiction;intro I;rw[List.getElem?_eq_none (by omega)]at hi;cases hi
 have G:mH (lG P e) 0 e.assign.l.length=0:=by
  split at h
  .split at h
   .cases h
   .split at h
    .cases h
    .exact h
  .cases h
 have u:=(Fe (g:=lG P e) (n:=e.assign.l.length) (m:=e.assign.l.length) (k:=0) (by omega)).1 G i (Nat.zero_le _) w
 unfold lG at u;rw[hi]at u;dsimp only at u
 by_cases z:(decide (0<=a.var)&&decide (a.var<P.vars.l.length))=true
 .simpa using z
 .rw[Bool.not_eq_true]at z;rw[z]at u;simp only[LH]at u;cases u
theorem V1 {t:Trace} {A:cC 200 bL} (hS:Small t) (hv:dJ t=some true) (hV:VT t) (hM:jQ t (bU t) A) {c:Sl Int} (hC:Cons t A c.l) :
 Wp (iz t c) λr=>r.2=0/\r.1.l.length=t.procs.l.length/\∀(p:Nat) (P:bT) (a:Int),t.procs.l[p]? = some P->c.l[p]? = some a->∃x,r.1.l[p]? = some x/\x.l=gM P a.toNat:=by
 have I:=hC.1.1;unfold iz;rw[jc];refine(By hS hv hV hM c).mono λr hr=>?_
 rw[hr.zero.2 hC,show ((0:Int)==0)=true from rfl,bD];unfold iz.W1;refine mZ c.l.length (λn s=>s.2=(n:Int)/\s.1.l.length=n/\∀(p:Nat) (P:bT) (a:Int),p<n->t.procs.l[p]? = some P->c.l[p]? = some a->∃x,s.1.l[p]? = some x/\x.l=gM P a.toNat) ⟨rfl,rfl,λp P a h=>absurd h (by omega)⟩ ?_ ?_
 .rintro n ⟨o,_⟩ u ⟨e1,e2,e3⟩;simp only at e1 e2 e3;subst e1;have J:n<t.procs.l.length:=by omega
  have w:=hS.2 _ (List.getElem_mem J);have D:=ζd J;have C:=ζd u;obtain⟨a0,W⟩:=hC.1.2 n _ _ C D;have T:=tR.of hV.ok D;obtain⟨x,S,L⟩:=Pz T w.2.1 w.1 w.2.2.2.2 (k:=c.l[n].toNat) (by omega)
  rw[show ((c.l[n].toNat:Nat):Int)=c.l[n]from by omega]at S
  have h1:=hS.1;unfold iz.br;rw[mJ u,bD,bK u,ζb,bK J,ζb,S,ζb];have G:iP o (x:Sl Int)=some (.row (o.l++[x])):=by unfold iP;rw[if_pos (by omega)]
  rw[G,ζb,a_,c7 n (by omega)]
  refine⟨rfl,by simp[Sl.l];exact e2,λp P a h z B=>?_⟩
  show ∃y,(o.l++[x])[p]? = some y/\_
  by_cases O:p=n
  .subst O;rw[D]at z;rw[C]at B;cases z;cases B;exact⟨x,by rw[List.getElem?_append_right (by omega)];simp[e2],L⟩
  .obtain⟨y,U,Q⟩:=e3 p P a (by omega) z B
   exact⟨y,by rw[List.getElem?_append_left (by omega)];exact U,Q⟩
 .rintro⟨o,_⟩ ⟨e1,e2,e3⟩;simp only at e1 e2 e3;subst e1;unfold iz.br;rw[show decide ((c.l.length:Int)<len c)=false from o8,bG,a_];refine(a_ _).2 ⟨rfl,by rw[e2,I],λp P a D C=>e3 p P a ?_ D C⟩
  apply Classical.byContradiction;intro X;rw[List.getElem?_eq_none (by omega)]at C;cases C
section
variable {P:Pred} {t:Trace}
end
end Go.VE
namespace Go.VE
def oD (l:List Int) (m:Int):Prop:=m∈l/\∀x∈l,m<=x
def isMax (l:List Int) (m:Int):Prop:=m∈l/\∀x∈l,x<=m
theorem oD.one {l:List Int} {a b:Int} (h:oD l a) (g:oD l b):a=b:=by have:=h.2 b g.1;have:=g.2 a h.1;omega
theorem isMax.one {l:List Int} {a b:Int} (h:isMax l a) (g:isMax l b):a=b:=by have:=h.2 b g.1;have:=g.2 a h.1;omega
theorem oD.snoc {l:List Int} {a x:Int} (h:oD l a):oD (l++[x]) (if x<a then x else a):=by
 obtain⟨h1,u⟩:=h;split
 .refine⟨by simp,λy hy=>?_⟩
  rcases List.mem_append.1 hy with hy|hy
  .have:=u y hy;omega
  .simp at hy;omega
 .refine⟨List.mem_append_left _ h1,λy hy=>?_⟩
  rcases List.mem_append.1 hy with hy|hy
  .exact u y hy
  .simp at hy;omega
theorem isMax.snoc {l:List Int} {a x:Int} (h:isMax l a):isMax (l++[x]) (if x>a then x else a):=by
 obtain⟨h1,u⟩:=h;split
 .refine⟨by simp,λy hy=>?_⟩
  rcases List.mem_append.1 hy with hy|hy
  .have:=u y hy;omega
  .simp at hy;omega
 .refine⟨List.mem_append_left _ h1,λy hy=>?_⟩
  rcases List.mem_append.1 hy with hy|hy
  .exact u y hy
  .simp at hy;omega
theorem Mh {s:Sl Int} (h:0<s.l.length) (B:s.l.length<1073741824):Wp (eG s) λm=>oD s.l m:=by
 unfold eG eG.J1 eG.W2;rw[decide_eq_false (show ¬len s<1 by simp only[len];omega),bG,show idx s 0=some s.l[0]from bK (i:=0) h,ζb]
 refine mZ (s.l.length-1) (λn q=>q.2=((n+1:Nat):Int)/\oD (s.l.take (n+1)) q.1) ⟨rfl,?_⟩ ?_ ?_
 .rw[List.take_add_one,ζd h];exact⟨by simp,λx z=>by simp at z;omega⟩
 .rintro n ⟨m,_⟩ A ⟨rfl,w⟩;have u:n+1<s.l.length:=by omega
  unfold eG.bZ;rw[mJ u,bD,bK u,ζb,a_,c7 _ (by omega)]
  refine⟨rfl,?_⟩;rw[List.take_add_one,ζd u];exact w.snoc
 .rintro⟨m,_⟩ ⟨rfl,w⟩;unfold eG.bZ;rw[show s.l.length-1+1=s.l.length from by omega,o8,bG,a_]
  rw[show s.l.length-1+1=s.l.length from by omega,List.take_length]at w
  exact(a_ _).2 w
theorem MX {s:Sl Int} (h:0<s.l.length) (B:s.l.length<1073741824):Wp (eM s) λm=>isMax s.l m:=by
 unfold eM eM.J1 eM.W2;rw[decide_eq_false (show ¬len s<1 by simp only[len];omega),bG,show idx s 0=some s.l[0]from bK (i:=0) h,ζb]
 refine mZ (s.l.length-1) (λn q=>q.2=((n+1:Nat):Int)/\isMax (s.l.take (n+1)) q.1) ⟨rfl,?_⟩ ?_ ?_
 .rw[List.take_add_one,ζd h];exact⟨by simp,λx z=>by simp at z;omega⟩
 .rintro n ⟨m,_⟩ A ⟨rfl,w⟩;have u:n+1<s.l.length:=by omega
  unfold eM.bZ;rw[mJ u,bD,bK u,ζb,a_,c7 _ (by omega)]
  refine⟨rfl,?_⟩;rw[List.take_add_one,ζd u];exact w.snoc
 .rintro⟨m,_⟩ ⟨rfl,w⟩;unfold eM.bZ;rw[show s.l.length-1+1=s.l.length from by omega,o8,bG,a_]
  rw[show s.l.length-1+1=s.l.length from by omega,List.take_length]at w
  exact(a_ _).2 w
theorem Kb {s:Sl Int} {a b:Int} (h:0<s.l.length) (B:s.l.length<1073741824) (D:oD s.l a) (G:isMax s.l b):lz s=some ⟨a,b⟩:=by
 obtain⟨m,h1,u⟩:=Mh h B;obtain⟨n,g1,g2⟩:=MX h B;unfold lz;rw[h1,ζb,g1,ζb,u.one D,g2.one G]
theorem Vq (n:Int):lz (Sl.row [n]:Sl Int)=some ⟨n,n⟩:=
 Kb (by simp[Sl.l]) (by simp[Sl.l]) ⟨by simp[Sl.l],λx u=>by simp[Sl.l]at u;omega⟩ ⟨by simp[Sl.l],λx u=>by simp[Sl.l]at u;omega⟩
theorem VP (a b c d:Int):lz (Sl.row [a,b,c,d]:Sl Int)=some ⟨if(if d<c then d else c)<(if b<a then b else a)then(if d<c then d else c)else(if b<a then b else a),if(if d>c then d else c)>(if b>a then b else a)then(if d>c then d else c)else(if b>a then b else a)⟩:=by
 refine Kb (by simp[Sl.l]) (by simp[Sl.l]) ⟨?_,λx u=>?_⟩ ⟨?_,λx u=>?_⟩
 .show _∈[a,b,c,d];simp only[List.mem_cons,List.not_mem_nil,or_false];split <;> split <;> (try split) <;> omega
 .have u:x∈[a,b,c,d]:=u;simp only[List.mem_cons,List.not_mem_nil,or_false]at u;split <;> split <;> (try split) <;> omega
 .show _∈[a,b,c,d];simp only[List.mem_cons,List.not_mem_nil,or_false];split <;> split <;> (try split) <;> omega
 .have u:x∈[a,b,c,d]:=u;simp only[List.mem_cons,List.not_mem_nil,or_false]at u;split <;> split <;> (try split) <;> omega
theorem KH (a b:Int):jx a b=cK a b:=by
 unfold jx cK cK.J1 sL
 by_cases z:a=0
 .subst z;rw[show (0:Int)*b=0 from by omega]
  rfl
 .have u:(a==0)=false:=by simpa using z
  by_cases A:b=0
  .subst A;rw[u,show a*(0:Int)=0 from by omega]
   rfl
  .have w:(b==0)=false:=by simpa using A
   rw[u,w];rfl
def lu (az:List Assign) (v:Int):Option Int:=(az.find? λa=>a.var==v).map Assign.value
def C7 (az:List Assign):Prop:=∀(i j:Nat) a b,i<j->az[i]? = some a->az[j]? = some b->a.var≠b.var
theorem C7.tail {a:Assign} {r:List Assign} (h:C7 (a::r)):C7 r:=λi j x y u w z=>h (i+1) (j+1) x y (by omega) (by simpa using w) (by simpa using z)
theorem C7.head {a:Assign} {r:List Assign} (h:C7 (a::r)):∀b∈r,a.var≠b.var:=λb u=>by
 obtain⟨j,w⟩:=List.mem_iff_getElem?.1 u;exact h 0 (j+1) a b (by omega) (by simp) (by simpa using w)
theorem He:∀(az:List Assign) (l:List Int) (k:Nat),C7 az->(∀a∈az,0<=a.var)->k<l.length->(zk l az)[k]? = some ((lu az k).getD (l[k]?.getD 0))
 | [],l,k,_,_,hk=>by simp[zk,lu,ζd hk]
 | a::r,l,k,hd,h0,hk=>by
  show (zk (l.set a.var.toNat a.value) r)[k]? = _;have B:=h0 a (by simp)
  rw[He r _ k hd.tail (λb w=>h0 b (List.mem_cons_of_mem _ w)) (by simpa using hk)]
  congr 1
  by_cases u:a.var=(k:Int)
  .have hr:lu r k=none:=by
    unfold lu;rw[Option.map_eq_none_iff,List.find?_eq_none];intro b w;have:=hd.head b w;simp;omega
   rw[hr];unfold lu;rw[List.find?_cons_of_pos (by simpa using u)]
   simp only[Option.getD_none,Option.map_some,Option.getD_some];rw[List.getElem?_set,if_pos (by omega),if_pos (by omega)]
   rfl
  .have hr:lu (a::r) k=lu r k:=by
    unfold lu;rw[List.find?_cons_of_neg (by simpa using u)]
   rw[hr,List.getElem?_set,if_neg (by omega)]
def lH (P:bT) (v k:Nat):Int:=((gM P k)[v]?).getD 0
structure M3 (P:bT):Prop where
 ok:tR P
 dst:∀e∈P.events.l,C7 e.assign.l
theorem EP {P:bT} {v:Nat} (k:Nat) (hv:v<P.vars.l.length):(gM P k)[v]? = some (lH P v k):=by
 unfold lH;rw[ζd (by rw[ox];exact hv)];rfl
theorem ED {P:bT} (B:M3 P) {v k:Nat} (hv:v<P.vars.l.length) {e:Event} (D:P.events.l[k]? = some e):lH P v (k+1)=(lu e.assign.l v).getD (lH P v k):=by
 have u:=List.mem_of_getElem? D;have h1:gM P (k+1)=zk (gM P k) e.assign.l:=by
  show (match P.events.l[k]? with|some e=>zk (gM P k) e.assign.l|none=>gM P k)=_
  rw[D]
 unfold lH;rw[h1,He _ _ _ (B.dst e u) (λa w=>(B.ok e u a w).1) (by rw[ox];exact hv)]
 rfl
theorem M3.of {t:Trace} (B:Ok t) {p:Nat} {P:bT} (D:t.procs.l[p]? = some P):M3 P:=by
 refine⟨tR.of B D,λe G i j a b w I C z=>?_⟩
 obtain⟨k,hk⟩:=List.mem_iff_getElem?.1 G;have h:=B.eY p k P e D hk;unfold nK at h;have A:j<e.assign.l.length:=(ζe.1 C).1;have J:mH (lG P e) 0 e.assign.l.length=0:=by
  split at h
  .split at h
   .cases h
   .split at h
    .cases h
    .exact h
  .cases h
 have u:=(Fe (g:=lG P e) (n:=e.assign.l.length) (m:=e.assign.l.length) (k:=0) (by omega)).1 J j (Nat.zero_le _) A
 unfold lG at u;rw[C]at u;dsimp only at u;have L:iF (fO e.assign.l λx=>x.var==b.var) 0 j=true:=by
  rw[HI];exact⟨i,Nat.zero_le _,w,by simp[fO,I,z]⟩
 rw[L]at u
 revert u
 cases (decide (0<=b.var)&&decide (b.var<P.vars.l.length)) <;> cases (decide (b.value>=-1073741824)&&decide (b.value<=1073741824)) <;> simp[LH]
end Go.VE
namespace Go.VE
abbrev pe (P:bT) (v n:Nat):List Int:=(List.range (n+1)).map (lH P v)
theorem KM (P:bT) (v n:Nat):pe P v (n+1)=pe P v n++[lH P v (n+1)]:=by
 unfold pe;rw[List.range_succ,List.map_append];rfl
theorem EW {P:bT} {v n k:Nat} (h:k<=n):lH P v k∈pe P v n:=List.mem_map.2 ⟨k,List.mem_range.2 (by omega),rfl⟩
theorem oD.old {l:List Int} {a x:Int} (h:oD l a) (B:x∈l):oD (l++[x]) a:=
 ⟨List.mem_append_left _ h.1,λy hy=>by
  rcases List.mem_append.1 hy with hy|hy
  .exact h.2 y hy
  .simp at hy;subst hy;exact h.2 _ B⟩
theorem isMax.old {l:List Int} {a x:Int} (h:isMax l a) (B:x∈l):isMax (l++[x]) a:=
 ⟨List.mem_append_left _ h.1,λy hy=>by
  rcases List.mem_append.1 hy with hy|hy
  .exact h.2 y hy
  .simp at hy;subst hy;exact h.2 _ B⟩
section
variable {P:bT} {v:Nat}
theorem Ni (D:tR P) (hv:P.vars.l.length<1073741824) (U:P.events.l.length<1073741823) (G:∀e∈P.events.l,e.assign.l.length<1073741824) (B:v<P.vars.l.length) :
 Wp (fM P v) λs=>s.l=pe P v P.events.l.length:=by
 obtain⟨r,h1,A,C⟩:=Fg D hv (by omega) G
 have key:∀(rem:List (Int×Sl Int)) (i:Nat) (q:Sl Int),r.drop i=rem->i<=r.length->q.l=(List.range i).map (lH P v)->∃s,(kA (λ(x:Int×(Sl Int)) (q:Sl Int)=>fM.jB P v x q) rem q).bind (Fw.qw (λq=>some q) (λe=>Empty.elim e) (λe=>Empty.elim e))=some s/\s.l=(List.range r.length).map (lH P v):=by
  intro rem
  induction rem with
  | nil=>
   intro i q hd hi z;have:r.length<=i:=by simpa using hd
   exact⟨q,rfl,by rw[z,show i=r.length from by omega]⟩
  | cons y rem I=>
   intro i q hd _ z;have u:i<r.length:=by
    apply Classical.byContradiction;intro Q;rw[List.drop_eq_nil_of_le (by omega)]at hd;cases hd
   have e2:=List.drop_eq_getElem_cons u;rw[e2]at hd;simp only[List.cons.injEq]at hd;obtain⟨S,J⟩:=C i y (by rw[ζd u,hd.1])
   have L:idx y.2 (v:Int)=some (lH P v i):=by rw[jy,J];exact EP i B
   have O:q.l.length=i:=by rw[z];simp
   have w:iP q (lH P v i)=some (.row (q.l++[lH P v i])):=by unfold iP;rw[if_pos (by omega)]
   obtain⟨s,g1,g2⟩:=I (i+1) (.row (q.l++[lH P v i])) hd.2 (by omega) (by show q.l++[lH P v i]=_;rw[z,List.range_succ,List.map_append];rfl)
   refine⟨s,?_,g2⟩;simp only[kA,fM.jB,L,w,ζb];exact g1
 obtain⟨s,g1,g2⟩:=key r 0 .nil rfl (Nat.zero_le _) rfl;refine⟨s,?_,by show s.l=_;rw[g2,A]⟩
 unfold fM nk fM.E1;simp only[ζb,h1];exact g1
theorem G_ {α:Type} {f:α->Bool} {l:List α} {k:Nat} {x:α} (h1:l[k]? = some x) (B:f x=true) (D:∀(j:Nat) (y:α),j<k->l[j]? = some y->f y=false):place f l=k:=by
 unfold place;have hk:=(ζe.1 h1);obtain⟨hk,u⟩:=hk;rw[show l.findIdx? f=some k from by
  rw[List.findIdx?_eq_some_iff_getElem];exact⟨hk,by rw[u];exact B,λj w=>by rw[D j _ w (ζd (by omega))];simp⟩]
theorem MT {t:Trace} (hS:Small t) (hv:dJ t=some true) (G:Ok t) {n:Nat} (B:t.procs.l[n]? = some P) {name:ByteArray} {x:Var} (h1:P.vars.l[v]? = some x) (U:(ByteArray.toList x.name==ByteArray.toList name)=true)
 (W:∀(j:Nat) (w:Var),j<v->P.vars.l[j]? = some w->(ByteArray.toList w.name==ByteArray.toList name)=false) :
 Wp (qD t n name) λr=>r.2.2=0/\oD (pe P v P.events.l.length) r.1/\isMax (pe P v P.events.l.length) r.2.1:=by
 have O:n<t.procs.l.length:=(ζe.1 B).1;have Q:=List.mem_of_getElem? B;have u:=hS.2 P Q;have C:v<P.vars.l.length:=(ζe.1 h1).1;have I:P.events.l.length<=64:=by
  have:=G.heads n O;unfold rZ at this;rw[B]at this;dsimp only at this;split at this
  .split at this
   .cases this
   .split at this
    .split at this
     .cases this
     .omega
    .rename_i D;exact absurd this D
  .cases this
 obtain⟨s,g1,g2⟩:=Ni (tR.of G B) u.2.1 (by omega) u.2.2.2.2 C
 have hsl:s.l.length=P.events.l.length+1:=by rw[g2];simp[pe]
 obtain⟨a,S,J⟩:=Mh (s:=s) (by omega) (by omega)
 obtain⟨b,T,L⟩:=MX (s:=s) (by omega) (by omega)
 have A:rq t n name=some ((v:Int),0):=by
  unfold rq;rw[hv,ζb,bD,decide_eq_false (show ¬(n:Int)<0 by omega),bG,ζb,decide_eq_false (show ¬(n:Int)>=len t.procs by simp only[len];omega),bG,jy,B,ζb]
  unfold tq;rw[Cs (p:=λz=>nP z name) (f:=λw=>ByteArray.toList w.name==ByteArray.toList name) (λ_ _=>rfl) u.2.1,G_ h1 U W,ζb,ζb,decide_eq_false (show ¬((v:Nat):Int)<0 by omega)]
  rfl
 unfold qD;rw[A,ζb];simp only;rw[show ((0:Int)==0)=true from rfl,bD,jy,B,ζb,g1,ζb,S,ζb,T,ζb,a_];rw[g2]at J L;exact⟨rfl,J,L⟩
def fU (o:Option Int) (low high:Int):Int×Int:=match o with
 | none=>(low,high)
 | some x=>(if x<low then x else low,if x>high then x else high)
theorem EI {az:List Assign} (hd:C7 az) {j:Nat} (B:j<az.length):lu (az.take (j+1)) v=if az[j].var=(v:Int)then some az[j].value else lu (az.take j) v:=by
 unfold lu;rw[List.take_add_one,ζd B];show ((az.take j++[az[j]]).find? _).map _=_;rw[List.find?_append]
 by_cases h:az[j].var=(v:Int)
 .rw[if_pos h];have:(az.take j).find? (λa=>a.var==(v:Int))=none:=by
   rw[List.find?_eq_none];intro b w;obtain⟨i,hi⟩:=List.mem_iff_getElem?.1 w;have u:i<j:=by
    have:=(ζe.1 hi).1;rw[List.length_take]at this;omega
   rw[List.getElem?_take_of_lt u]at hi;have:=hd i j b az[j] u hi (ζd B);simp;omega
  rw[this,List.find?_cons_of_pos (by simpa using h)];rfl
 .rw[if_neg h,List.find?_cons_of_neg (by simpa using h)]
  simp
theorem Mn {az:List Assign} (hd:C7 az) {j:Nat} (B:j<az.length) (h:az[j].var=(v:Int)):lu (az.take j) v=none:=by
 unfold lu;rw[Option.map_eq_none_iff,List.find?_eq_none];intro b w;obtain⟨i,hi⟩:=List.mem_iff_getElem?.1 w;have u:i<j:=by
  have:=(ζe.1 hi).1;rw[List.length_take]at this;omega
 rw[List.getElem?_take_of_lt u]at hi;have:=hd i j b az[j] u hi (ζd B);simp;omega
theorem ML {t:Trace} (hS:Small t) (U:Ok t) {n:Nat} (J:t.procs.l[n]? = some P) (B:v<P.vars.l.length) :
 Wp (e8 t n v) λr=>oD (pe P v P.events.l.length) r.1/\isMax (pe P v P.events.l.length) r.2:=by
 have S:=List.mem_of_getElem? J;have I:=hS.2 P S;have O:=M3.of U J;have A:idx t.procs (n:Int)=some P:=by rw[jy];exact J
 unfold e8;rw[A,ζb,bK B,ζb];unfold e8.W1;have h0:pe P v 0=[P.vars.l[v].init_]:=by
  simp[pe,lH,gM,ζd B]
 refine mZ P.events.l.length (λi s=>s.2.2=(i:Int)/\oD (pe P v i) s.1/\isMax (pe P v i) s.2.1) ⟨rfl,by rw[h0];exact⟨by simp,λx A=>by simp at A;show P.vars.l[v].init_<=x;omega⟩,by rw[h0];exact⟨by simp,λx A=>by simp at A;show x<=P.vars.l[v].init_;omega⟩⟩ ?_ ?_
 .rintro i ⟨low,high,_⟩ hi ⟨rfl,w,z⟩;simp only at w z;have C:=List.getElem_mem hi;have hd:=O.dst _ C;have T:=I.2.2.2.2 _ C;have u:=ED O B (ζd hi);unfold e8.br;rw[A,ζb,mJ hi,bD,ζb,bK hi,ζb];generalize P.events.l[i]=e at *;unfold e8.W2;refine mZ e.assign.l.length (λj s=>s.2.2=(j:Int)/\(s.1,s.2.1)=fU (lu (e.assign.l.take j) v) low high) ⟨rfl,by simp[lu,fU]⟩ ?_ ?_
  .rintro j ⟨lo,L,_⟩ D ⟨rfl,hu⟩;unfold e8.bZ;rw[mJ D,bD,bK D,ζb]
   by_cases G:e.assign.l[j].var=(v:Int)
   .rw[show (e.assign.l[j].var==(v:Int))=true from by simpa using G,bD,ζb,ζb,a_,c7 j (by omega)]
    rw[Mn hd D G]at hu;simp only[fU,ζc]at hu;obtain⟨rfl,rfl⟩:=hu;refine⟨rfl,?_⟩;rw[EI hd D,if_pos G];rfl
   .rw[show (e.assign.l[j].var==(v:Int))=false from by simpa using G,bG,a_,c7 j (by omega)]
    refine⟨rfl,?_⟩;rw[EI hd D,if_neg G];exact hu
  .rintro⟨lo,L,_⟩ ⟨rfl,hu⟩;unfold e8.bZ;rw[o8,bG,a_];simp only;rw[a_,c7 i (by omega)]
   rw[List.take_length]at hu;refine⟨rfl,?_⟩;simp only;rw[KM]
   cases Q:lu e.assign.l v with
   | none=>
    rw[Q]at hu u;simp only[fU,ζc]at hu;obtain⟨rfl,rfl⟩:=hu;rw[show lH P v (i+1)=lH P v i from u];exact⟨w.old (EW (Nat.le_refl _)),z.old (EW (Nat.le_refl _))⟩
   | some x=>
    rw[Q]at hu u;simp only[fU,ζc]at hu;obtain⟨rfl,rfl⟩:=hu;rw[show lH P v (i+1)=x from u];exact⟨w.snoc,z.snoc⟩
 .rintro⟨low,high,_⟩ ⟨rfl,w,z⟩;unfold e8.br;rw[A,ζb,o8,bG,a_];exact(a_ _).2 ⟨w,z⟩
end
end Go.VE
namespace Go.VE
theorem S6 {t:Trace} (hS:Small t):∃b,vu t=some b:=by
 have h1:∀e:Event,oC e=some (decide (len e.assign>20)):=λe=>rfl
 have w:∀P∈t.procs.l,∃b,lq P=some b:=λP u=>by
  unfold lq;rw[zm (f:=λe=>decide (len e.assign>20)) (λe _=>h1 e) (hS.2 P u).1]
  cases decide (len P.events>70) <;> cases decide (len P.vars>20) <;> exact⟨_,rfl⟩
 unfold vu;rw[Ae (p:=λz=>lq z) (f:=λP=>(lq P).getD false) (λP u=>by obtain⟨b,A⟩:=w P u;rw[A];rfl) hS.1]
 cases decide (len t.procs>10) <;> exact⟨_,rfl⟩
section
variable {t:Trace} {A:cC 200 bL}
theorem IU (hS:Small t) {p:Nat} {P:bT} (B:t.procs.l[p]? = some P) (q:Nat):eT t p q=some ((P.events.l.countP (dO q):Nat):Int):=by
 have D:P∈t.procs.l:=List.mem_of_getElem? B;have G:=(hS.2 P D).1;refine Wp.eq ?_;unfold eT;rw[jy,B,ζb];unfold eT.W1;refine mZ P.events.l.length (λn s=>s.2=(n:Int)/\s.1=(((P.events.l.take n).countP (dO q):Nat):Int)) ⟨rfl,rfl⟩ ?_ ?_
 .rintro n ⟨o,_⟩ w ⟨e1,e2⟩;simp only at e1 e2;subst e1 e2;have z:=List.countP_le_length (p:=dO q) (l:=P.events.l.take n);rw[List.length_take]at z;have u:(P.events.l.take (n+1)).countP (dO q)=(P.events.l.take n).countP (dO q)+if dO q P.events.l[n]then 1 else 0:=by
   rw[List.take_add_one,ζd w,List.countP_append];show _+List.countP _ [P.events.l[n]]=_;rw[List.countP_cons,List.countP_nil];simp
  unfold eT.br;rw[mJ w,bD,bK w,ζb];generalize P.events.l[n]=e at u;have A:(bf (e.kind==2) (some (e.peer==(q:Int))) (some false):Option Bool)=some (dO q e):=by
   unfold dO;cases e.kind==2 <;> cases e.peer==(q:Int) <;> rfl
  rw[A,ζb,c7 n (by omega)]
  cases C:dO q e with
  | true=>
   rw[C]at u;rw[bD,a_,c7 _ (by omega)]
   exact⟨rfl,by simp only[u];rfl⟩
  | false=>
   rw[C]at u;rw[bG,a_];exact⟨rfl,by simp only[u];rfl⟩
 .rintro⟨o,_⟩ ⟨e1,e2⟩;simp only at e1 e2;subst e1 e2;unfold eT.br;rw[o8,bG,a_];exact(a_ _).2 (by rw[List.take_length])
theorem L6 {α:Type} {f:α->Bool} {l:List α} {n:Nat} (h:n<l.length):(l.take (n+1)).countP f=(l.take n).countP f+if f l[n]then 1 else 0:=by
 rw[List.take_add_one,ζd h,List.countP_append];show _+List.countP _ [l[n]]=_;rw[List.countP_cons,List.countP_nil];simp
end
end Go.VE
namespace Go.VE
section
variable {t:Trace}
theorem Tk (hS:Small t) {p:Nat} {P:bT} (B:t.procs.l[p]? = some P) (q:Int):iA t p q=some ((P.events.l.countP (dO q):Nat):Int):=by
 have G:P∈t.procs.l:=List.mem_of_getElem? B;have I:=(hS.2 P G).1;have C:idx t.procs (p:Int)=some P:=by rw[jy];exact B
 refine Wp.eq ?_;unfold iA iA.W1;refine mZ P.events.l.length (λn s=>s.2=(n:Int)/\s.1=(((P.events.l.take n).countP (dO q):Nat):Int)) ⟨rfl,rfl⟩ ?_ ?_
 .rintro n ⟨o,_⟩ w ⟨e1,e2⟩;simp only at e1 e2;subst e1 e2;have z:=List.countP_le_length (p:=dO q) (l:=P.events.l.take n);rw[List.length_take]at z;have u:=L6 (f:=dO q) w;unfold iA.br;rw[C,ζb,mJ w,bD,ζb,bK w,ζb];generalize P.events.l[n]=e at u;have A:(bf (e.kind==2) (some (e.peer==q)) (some false):Option Bool)=some (dO q e):=by
   unfold dO;cases e.kind==2 <;> cases e.peer==q <;> rfl
  rw[A,ζb,c7 n (by omega)]
  cases D:dO q e with
  | true=>
   rw[D]at u;rw[bD,a_,c7 _ (by omega)]
   exact⟨rfl,by simp only[u];rfl⟩
  | false=>
   rw[D]at u;rw[bG,a_];exact⟨rfl,by simp only[u];rfl⟩
 .rintro⟨o,_⟩ ⟨e1,e2⟩;simp only at e1 e2;subst e1 e2;unfold iA.br;rw[C,ζb,o8,bG,a_];exact(a_ _).2 (by rw[List.take_length])
def zu (low high:Int):Bool:=decide (low>=-1125899906842624)&&decide (high<=1125899906842624)
structure Fj (low high:Int):Prop where
 le:low<=high
 lo:-1125899906842624<=low
 hi:high<=1125899906842624
theorem DE (low high:Int) (r:Trace×Pred->Option (Int×Int×Bool)):bN.J3 low high r=some (low,high,zu low high):=by
 unfold bN.J3 zu;cases decide (low>=-1125899906842624) <;> rfl
theorem HG (low high:Int):iN ⟨low,high⟩=some (!zu low high):=by
 unfold iN zu;have h1:decide (low < -1125899906842624) = !decide (low>=-1125899906842624):=by rw[Bool.eq_iff_iff];simp
 have u:decide (high>1125899906842624) = !decide (high<=1125899906842624):=by rw[Bool.eq_iff_iff];simp
 simp only;rw[h1,u];cases decide (low>=-1125899906842624) <;> cases decide (high<=1125899906842624) <;> rfl
theorem Fj.of {low high:Int} (h:low<=high) (g:zu low high=true):Fj low high:=by
 simp only[zu,ζh]at g;have:=of_decide_eq_true g.1;have:=of_decide_eq_true g.2;exact⟨h,by omega,by omega⟩
theorem yK (a b c d:Int) (p:Pred) (r:Trace×Pred->Option (Int×Int×Bool)):bN.J2 a b c d true true t p r=(bf (p.kind==1)
 (bN.J3 p.n p.n r)
 (bf (p.kind==2)
 ((iE t p.proc p.name).bind λad=>
 (e8 t p.proc ad).bind λab=>
 bN.J3 ab.1 ab.2 r)
 (bf (p.kind==3)
 ((idx t.procs p.proc).bind λae=>
 bN.J3 0 (len ae.events) r)
 (bf (p.kind==4)
 ((iA t p.proc p.peer).bind λaf=>
 bN.J3 0 af r)
 (bf (p.kind==5)
 (bN.J3 (IntKind.wrap .i64 (0-b)) (IntKind.wrap .i64 (0-a)) r)
 (bf (p.kind==6)
 (bN.J3 (IntKind.wrap .i64 (a+c)) (IntKind.wrap .i64 (b+d)) r)
 (bf (p.kind==7)
 (bN.J3 (IntKind.wrap .i64 (a-d)) (IntKind.wrap .i64 (b-c)) r)
 ((cK a c).bind λB=>
 (cK a d).bind λD=>
 (cK b c).bind λG=>
 (cK b d).bind λJ=>
 (cK a c).bind λU=>
 (cK a d).bind λW=>
 (cK b c).bind λY=>
 (cK b d).bind λaa=>
 bN.J3 (if(if J<G then J else G)<(if D<B then D else B)then(if J<G then J else G)else(if D<B then D else B)) (if(if aa>Y then aa else Y)>(if W>U then W else U)then(if aa>Y then aa else Y)else(if W>U then W else U)) r))))))):Option (Int×Int×Bool)):=rfl
theorem Rh {a b c d:Int} {ok B:Bool} (h:(ok&&B)=false) (p:Pred) (r:Trace×Pred->Option (Int×Int×Bool)):bN.J2 a b c d ok B t p r=some (0,0,false):=by
 unfold bN.J2;cases ok <;> cases B <;> first|rfl|cases h
theorem wU {a b:Int} (B:-1125899906842624<=a/\a<=1125899906842624) (D:-1125899906842624<=b/\b<=1125899906842624):∃x,cK a b=some x:=by
 unfold cK cK.J1
 by_cases h0:a=0
 .subst h0;exact⟨_,rfl⟩
 .rw[show (a==0)=false from by simpa using h0,bG,ζb]
  by_cases h1:b=0
  .subst h1;exact⟨_,rfl⟩
  .rw[show (b==0)=false from by simpa using h1,show (!false)=true from rfl,bD,gV (0-b) (by omega) (by omega)]
   have:∀k m:Int,m≠0->∃x,yY .i64 k m=some x:=λk m u=>by unfold yY;rw[if_neg u];exact⟨_,rfl⟩
   obtain⟨x,w⟩:=this 1125899906842624 (if 0-b>b then 0-b else b) (by split <;> omega)
   rw[w,ζb];cases decide ((if IntKind.wrap .i64 (0-a)>a then IntKind.wrap .i64 (0-a)else a)>x) <;> cases (decide (a<0)==decide (b<0)) <;> exact⟨_,rfl⟩
theorem NK (hS:Small t) (hv:dJ t=some true) (D:Ok t) {q:Pred} (U:fB q=true) (hr:oc t q=true) (hk:q.kind<=4) :
 ∃low high,lE t q=some ⟨low,high⟩/\low<=high/\∀r,bN.J2 0 0 0 0 true true t q r=bN.J3 low high r:=by
 obtain⟨k1,-,-⟩:=vv U;rcases (show q.kind=1\/q.kind=2\/q.kind=3\/q.kind=4 by omega)with h|h|h|h
 .refine⟨q.n,q.n,?_,Int.le_refl _,λr=>?_⟩
  .unfold lE;rw[show (q.kind==1)=true from by simpa using h,bD,Vq];rfl
  .rw[yK,show (q.kind==1)=true from by simpa using h,bD]
 .unfold oc at hr;rw[if_pos (by simpa using h)]at hr
  simp only[ζh]at hr;obtain⟨L,-,w⟩:=hr;obtain⟨i,hi,hc⟩:=DP hS (p:=q.proc) (by simp only[ζh];exact L) q.name
  rcases hc with⟨n,k,P,v,u,z,rfl,A,h1,O,-⟩|⟨-,B⟩
  .obtain⟨⟨low,high,e⟩,g1,g2,g3,g4⟩:=MT hS hv D z (name:=q.name) A h1 O;simp only at g2 g3 g4;subst g2;obtain⟨⟨a,b⟩,Q,G,I⟩:=ML hS D z (v:=k) (ζe.1 A).1;simp only at G I;obtain rfl:=g3.one G;obtain rfl:=g4.one I;refine⟨low,high,?_,g4.2 _ g3.1,λr=>?_⟩
   .unfold lE;rw[h,show ((2:Int)==1)=false from rfl,bG,show ((2:Int)==3)=false from rfl,bG,show ((2:Int)==4)=false from rfl,bG,u,g1];rfl
   .rw[yK,h,show ((2:Int)==1)=false from rfl,bG,show ((2:Int)==2)=true from rfl,bD,hi,ζb,u,Q,ζb]
  .rw[B]at w;cases w
 .unfold oc at hr;rw[if_neg (by simp[h]),if_pos (by simpa using h)]at hr
  simp only[ζh]at hr;obtain⟨n,u,C⟩:=uA (t:=t) (p:=q.proc) (by simp only[ζh];exact hr.1)
  refine⟨0,len t.procs.l[n].events,?_,by simp only[len];omega,λr=>?_⟩
  .unfold lE;rw[h,show ((3:Int)==1)=false from rfl,bG,show ((3:Int)==3)=true from rfl,bD,u,bK C];rfl
  .rw[yK,h,show ((3:Int)==1)=false from rfl,bG,show ((3:Int)==2)=false from rfl,bG,show ((3:Int)==3)=true from rfl,bD,u,bK C];rfl
 .unfold oc at hr;rw[if_neg (by simp[h]),if_neg (by simp[h]),if_pos (by simpa using h)]at hr
  simp only[ζh]at hr;obtain⟨n,u,C⟩:=uA (t:=t) (p:=q.proc) (by simp only[ζh];exact hr.1)
  obtain⟨m,J,S⟩:=uA (t:=t) (p:=q.peer) (by simp only[ζh];exact hr.2.1)
  have z:=ζd C;refine⟨0,((t.procs.l[n].events.l.countP (dO m):Nat):Int),?_,by omega,λr=>?_⟩
  .unfold lE;rw[h,show ((4:Int)==1)=false from rfl,bG,show ((4:Int)==3)=false from rfl,bG,show ((4:Int)==4)=true from rfl,bD,u,J,IU hS z];rfl
  .rw[yK,h,show ((4:Int)==1)=false from rfl,bG,show ((4:Int)==2)=false from rfl,bG,show ((4:Int)==3)=false from rfl,bG,show ((4:Int)==4)=true from rfl,bD,u,J,Tk hS z];rfl
end
end Go.VE
namespace Go.VE
section
variable {t:Trace}
theorem QF (v:bS) (l h:Int) (r:Trace×Pred->Option (bS×Bool)):dc.J2 v ⟨l,h⟩ r=some (⟨l,h⟩,zu l h):=by
 unfold dc.J2;rw[HG,ζb,Bool.not_not]
theorem MH {ok B:Bool} (h:(ok&&B)=false) (p:Pred) (v a b:bS) (r:Trace×Pred->Option (bS×Bool)):dc.J1 ok B p v a b r=some (⟨0,0⟩,false):=by
 unfold dc.J1;cases ok <;> cases B <;> first|rfl|cases h
theorem EN {p:Pred} (hk:5<=p.kind/\p.kind<=8) {a b c d:Int} (h1:Fj a b) (J:Fj c d) (v:bS) (r:Trace×Pred->Option (bS×Bool)) (B:Trace×Pred->Option (Int×Int×Bool)) :
 ∃low high,dc.J1 true true p v ⟨a,b⟩ ⟨c,d⟩ r=some (⟨low,high⟩,zu low high)/\bN.J2 a b c d true true t p B=some (low,high,zu low high)/\low<=high:=by
 obtain⟨L,O,Q⟩:=h1;obtain⟨S,T,U⟩:=J;rw[yK];unfold dc.J1;rw[bD,ζb,show (!true)=false from rfl,bG];rcases (show p.kind=5\/p.kind=6\/p.kind=7\/p.kind=8 by omega)with h|h|h|h <;> rw[h]
 .refine⟨-b,-a,?_,?_,by omega⟩
  .rw[show ((5:Int)==5)=true from rfl,bD,QF];simp only;rw[gV (0-b) (by omega) (by omega),gV (0-a) (by omega) (by omega),show (0:Int)-b=-b from by omega,show (0:Int)-a=-a from by omega]
  .show bN.J3 _ _ B=_;rw[DE,gV (0-b) (by omega) (by omega),gV (0-a) (by omega) (by omega),show (0:Int)-b=-b from by omega,show (0:Int)-a=-a from by omega]
 .refine⟨a+c,b+d,?_,?_,by omega⟩
  .rw[show ((6:Int)==5)=false from rfl,bG,show ((6:Int)==6)=true from rfl,bD,QF];simp only;rw[gV (a+c) (by omega) (by omega),gV (b+d) (by omega) (by omega)]
  .show bN.J3 _ _ B=_;rw[DE,gV (a+c) (by omega) (by omega),gV (b+d) (by omega) (by omega)]
 .refine⟨a-d,b-c,?_,?_,by omega⟩
  .rw[show ((7:Int)==5)=false from rfl,bG,show ((7:Int)==6)=false from rfl,bG,show ((7:Int)==7)=true from rfl,bD,QF];simp only;rw[gV (a-d) (by omega) (by omega),gV (b-c) (by omega) (by omega)]
  .show bN.J3 _ _ B=_;rw[DE,gV (a-d) (by omega) (by omega),gV (b-c) (by omega) (by omega)]
 .obtain⟨w,u⟩:=wU (a:=a) (b:=c) ⟨by omega,by omega⟩ ⟨by omega,by omega⟩
  obtain⟨x,A⟩:=wU (a:=a) (b:=d) ⟨by omega,by omega⟩ ⟨by omega,by omega⟩
  obtain⟨y,C⟩:=wU (a:=b) (b:=c) ⟨by omega,by omega⟩ ⟨by omega,by omega⟩
  obtain⟨z,D⟩:=wU (a:=b) (b:=d) ⟨by omega,by omega⟩ ⟨by omega,by omega⟩
  refine⟨if(if z<y then z else y)<(if x<w then x else w)then(if z<y then z else y)else(if x<w then x else w),if(if z>y then z else y)>(if x>w then x else w)then(if z>y then z else y)else(if x>w then x else w),?_,?_,?_⟩
  .rw[show ((8:Int)==5)=false from rfl,bG,show ((8:Int)==6)=false from rfl,bG,show ((8:Int)==7)=false from rfl,bG];simp only[KH];rw[u,A,C,D];simp only[ζb];rw[VP,ζb,QF]
  .show (cK a c).bind _=_;rw[u,A,C,D];simp only[ζb];rw[DE]
  .have I:(if z<y then z else y)<=(if z>y then z else y):=by split <;> split <;> omega
   have G:(if x<w then x else w)<=(if x>w then x else w):=by split <;> split <;> omega
   split <;> split <;> omega
theorem Oy {k:Int} (h:(mz k==1)=true):k<=8:=by
 unfold mz at h
 by_cases g:k<=8
 .exact g
 .rw[if_neg g]at h;cases h
theorem Pred.parts {p:Pred} (B:fB p=true) {c:Int} (hc:cC.at wP p.kind=some c):(p.l.l.length:Int)=c:=by
 obtain⟨-,-,h⟩:=vv B;rw[hc]at h;exact(Option.some.inj h).symm
structure uU (t:Trace) (p:Pred):Prop where
 sm:p.Sm
 f:p.fL fB=true
 r:p.fL (oc t)=true
 y:p.fL pW=true
theorem uU.sX {p q:Pred} (h:uU t p) (B:q∈p.l.l):uU t q:=by
 obtain⟨h1,u,w,z⟩:=h;rw[p.j_,ζh,List.all_eq_true]at u w z;exact⟨h1.sX B,u.2 q B,w.2 q B,z.2 q B⟩
theorem uU.here {p:Pred} (h:uU t p):fB p=true/\oc t p=true/\pW p=true:=by
 obtain⟨h1,u,w,z⟩:=h;rw[p.j_,ζh]at u w z;exact⟨u.1,w.1,z.1⟩
theorem uU.int {p q:Pred} (h:uU t p) (hk:p.kind<=12) (B:q∈p.l.l):q.kind<=8:=by
 have:=h.here.2.2;unfold pW at this;rw[List.all_eq_true]at this;have:=this q B;unfold t_ at this;rw[if_pos hk]at this;exact Oy this
theorem Jo (hS:Small t) (hv:dJ t=some true) (Y:Ok t) (p:Pred):uU t p->p.kind<=8->∀n,p.dp<=n ->
 ∃low high ok i,c_ (λr (z:Trace×Pred)=>f_ z.1 z.2 r) n (t,p)=some (i,ok)/\c_ (λr (z:Trace×Pred)=>gb z.1 z.2 r) n (t,p)=some (low,high,ok)/\(ok=true->i=⟨low,high⟩/\Fj low high):=by
 induction p using Pred.ind with
 | h p A=>
  intro hc hk n hn;have hd:=p.qJ;obtain⟨C,hr,hy⟩:=hc.here;obtain⟨k1,-,-⟩:=vv C;rw[iy (by omega),iy (by omega)]
  have A:=λq G=>A q G (hc.sX G) (hc.int (by omega) G) (n-1) (by have:=Pred.pn G;omega)
  show ∃low high ok i,f_ t p (c_ (λr (z:Trace×Pred)=>f_ z.1 z.2 r) (n-1))=some (i,ok)/\gb t p (c_ (λr (z:Trace×Pred)=>gb z.1 z.2 r) (n-1))=some (low,high,ok)/\_
  generalize c_ (λr (z:Trace×Pred)=>f_ z.1 z.2 r) (n-1)=R at A ⊢
  generalize c_ (λr (z:Trace×Pred)=>gb z.1 z.2 r) (n-1)=W at A ⊢
  unfold f_ gb bN.J1
  by_cases Z:p.kind<=4
  .have B:p.l.l.length=0:=by
    have:=Pred.parts C (c:=0) (by rcases (show p.kind=1\/p.kind=2\/p.kind=3\/p.kind=4 by omega)with h|h|h|h <;> (rw[h];rfl))
    omega
   obtain⟨low,high,g1,g2,g3⟩:=NK hS hv Y C hr Z;refine⟨low,high,zu low high,⟨low,high⟩,?_,?_,λh=>⟨rfl,Fj.of g2 h⟩⟩
   .rw[show (len p.l==0)=true from by simp[len,B],bD,g1,ζb,HG,ζb,Bool.not_not]
   .rw[decide_eq_false (show ¬len p.l>0 by simp[len,B]),bG,decide_eq_false (show ¬len p.l>1 by simp[len,B]),bG,g3,DE]
  .by_cases X:p.kind=5
   .have u:p.l.l.length=1:=by
     have:=Pred.parts C (c:=1) (by rw[X];rfl)
     omega
    have h0:0<p.l.l.length:=by omega
    obtain⟨a,b,ok,i,g1,g2,g3⟩:=A _ (List.getElem_mem h0);have L:idx p.l 0=some p.l.l[0]:=bK (i:=0) h0;rw[show (len p.l==0)=false from by simp[len,u],bG,L,ζb,g1,ζb,show (len p.l==2)=false from by simp[len,u],bG,
     decide_eq_true (show len p.l>0 by simp[len,u]),bD,ζb,g2,ζb,decide_eq_false (show ¬len p.l>1 by simp[len,u]),bG]
    simp only
    cases ok with
    | false=>
     rw[MH rfl,Rh rfl];exact⟨0,0,false,_,rfl,rfl,λh=>by cases h⟩
    | true=>
     obtain⟨rfl,I⟩:=g3 rfl;obtain⟨low,high,O,Q,S⟩:=EN (t:=t) (p:=p) ⟨by omega,by omega⟩ I I ⟨0,0⟩ R W
     refine⟨low,high,zu low high,⟨low,high⟩,O,?_,λh=>⟨rfl,Fj.of S h⟩⟩
     rw[<-Q,yK,yK,X];rfl
   .have w:p.l.l.length=2:=by
     have:=Pred.parts C (c:=2) (by rcases (show p.kind=6\/p.kind=7\/p.kind=8 by omega)with h|h|h <;> (rw[h];rfl))
     omega
    have h0:0<p.l.l.length:=by omega
    have h1:1<p.l.l.length:=by omega
    obtain⟨a,b,ok,i,g1,g2,g3⟩:=A _ (List.getElem_mem h0);obtain⟨c,d,D,j,q1,q2,q3⟩:=A _ (List.getElem_mem h1);have L:idx p.l 0=some p.l.l[0]:=bK (i:=0) h0;have T:idx p.l 1=some p.l.l[1]:=bK (i:=1) h1;rw[show (len p.l==0)=false from by simp[len,w],bG,L,ζb,g1,ζb,show (len p.l==2)=true from by simp[len,w],bD,T,ζb,q1,ζb,
     decide_eq_true (show len p.l>0 by simp[len,w]),bD,ζb,g2,ζb,decide_eq_true (show len p.l>1 by simp[len,w]),bD,ζb,q2,ζb]
    simp only
    cases J:ok&&D with
    | false=>
     rw[MH J,Rh J];exact⟨0,0,false,_,rfl,rfl,λh=>by cases h⟩
    | true=>
     simp only[ζh]at J;obtain⟨rfl,rfl⟩:=J;obtain⟨rfl,I⟩:=g3 rfl;obtain⟨rfl,U⟩:=q3 rfl;obtain⟨low,high,O,Q,S⟩:=EN (t:=t) (p:=p) ⟨by omega,by omega⟩ I U ⟨0,0⟩ R W
     exact⟨low,high,zu low high,⟨low,high⟩,O,Q,λh=>⟨rfl,Fj.of S h⟩⟩
theorem LN (hS:Small t) (hv:dJ t=some true) (B:Ok t) (p:Pred):uU t p->p.dp<=20->∀n,p.dp<=n ->
 ∃b,c_ (λr (z:Trace×Pred)=>gG z.1 z.2 r) n (t,p)=some b/\c_ (λr (z:Trace×Pred)=>jq z.1 z.2 r) n (t,p)=some b:=by
 induction p using Pred.ind with
 | h p w=>
  intro hc hd n G;have A:=p.qJ;rw[iy (by omega),iy (by omega)]
  have w:=λq u=>w q u (hc.sX u) (by have:=Pred.pn u;omega) (n-1) (by have:=Pred.pn u;omega)
  show ∃b,gG t p (c_ (λr (z:Trace×Pred)=>gG z.1 z.2 r) (n-1))=some b/\jq t p (c_ (λr (z:Trace×Pred)=>jq z.1 z.2 r) (n-1))=some b
  generalize c_ (λr (z:Trace×Pred)=>gG z.1 z.2 r) (n-1)=R at w ⊢
  generalize c_ (λr (z:Trace×Pred)=>jq z.1 z.2 r) (n-1)=C at w ⊢
  unfold gG jq;rw[Am,BX,ζb,ζb]
  by_cases hk:p.kind<=8
  .rw[show (mz p.kind==1)=true from by simp[mz,hk],bD,bD]
   obtain⟨low,high,ok,i,g1,g2,-⟩:=Jo hS hv B p hc hk 100000 (by omega)
   refine⟨ok,?_,?_⟩
   .show (dc t p).bind _=_;rw[show dc t p=_ from g1];rfl
   .show (bN t p).bind _=_;rw[show bN t p=_ from g2];rfl
  .rw[show (mz p.kind==1)=false from by simp[mz,hk],bG,bG]
   let g:Pred->Bool:=λq=>(R (t,q)).getD false
   have hg:∀q∈p.l.l,R (t,q)=some (g q)/\C (t,q)=some (g q):=λq u=>by
    obtain⟨b,h1,D⟩:=w q u;exact⟨by show _=some ((R (t,q)).getD false);rw[h1];rfl,by show _=some ((R (t,q)).getD false);rw[h1,D];rfl⟩
   refine⟨p.l.l.all g,?_,?_⟩
   .rw[Al _ hc.sm.len,yC (f:=λq => !g q) (λq u=>by
     unfold nL;rw[(hg q u).1];rfl)]
    simp only[Option.map_some,ζb]
    congr 1
    rw[Bool.eq_iff_iff];simp
   .unfold jK.W1;refine uf (g:=g) hc.sm.len (λi hi=>?_) ?_
    .unfold jK.br;rw[mJ hi,bD,bK hi,ζb,(hg _ (List.getElem_mem hi)).2,ζb,c7 i (by have:=hc.sm.len;omega)]
     cases g p.l.l[i] <;> rfl
    .unfold jK.br;rw[o8];rfl
theorem L9 (hS:Small t) (D:(bU t).length<1073741824) {p:Pred} (B:p.Sm) :
 ∃e,nW t p=some e/\pK t p=some e/\(e=0->dJ t=some true/\VT t/\kX p=true/\uU t p):=by
 obtain⟨A,hv,w,z⟩:=EV hS D;unfold nW pK;rw[hv,w,ζb,ζb]
 cases A with
 | false=>exact⟨1,rfl,rfl,λh=>by cases h⟩
 | true=>
  have hV:=z rfl;rw[bD,bD,yZ B,zj B,ζb,ζb]
  cases C:kX p with
  | false=>exact⟨1,rfl,rfl,λh=>by cases h⟩
  | true=>
   have u:=C;simp only[kX,ζh]at u;have hd:=of_decide_eq_true u.2.1;unfold fH fK jK s8;rw[show (!true)=false from rfl,bG,ζb,bG,GQ hS B (by omega),HK hS p B 100000 (by omega),ζb,ζb]
   cases hr:p.fL (oc t)with
   | false=>exact⟨13,rfl,rfl,λh=>by cases h⟩
   | true=>
    rw[bD,bD,Er B (by omega),ES p B u.2.2 100000 (by omega),ζb,ζb]
    cases G:p.fL pW with
    | false=>exact⟨14,rfl,rfl,λh=>by cases h⟩
    | true=>
     have hc:uU t p:=⟨B,u.2.2,hr,G⟩;obtain⟨b,g1,g2⟩:=LN hS hv hV.ok p hc hd 100000 (by omega)
     rw[bD,bD,g1,g2,ζb]
     cases b with
     | false=>exact⟨9,rfl,rfl,λh=>by cases h⟩
     | true=>exact⟨0,rfl,rfl,λ_=>⟨rfl,hV,rfl,hc⟩⟩
end
end Go.VE
namespace Go.VE
end Go.VE
namespace Go.VE
theorem Code.one {t:Trace} {A:cC 200 bL} {c:List Int} {r s:Int} (h:Code t A c r) (g:Code t A c s):r=s:=by
 rcases h with⟨h,rfl⟩|⟨h1,u,rfl⟩|⟨h1,u,rfl⟩|⟨h1,u,rfl⟩ <;> rcases g with⟨g,rfl⟩|⟨g1,g2,rfl⟩|⟨g1,g2,rfl⟩|⟨g1,g2,rfl⟩ <;> first|rfl|contradiction|exact absurd ‹qh t c›.1 ‹_›
end Go.VE
namespace Go.VE
theorem Je {t:Trace} (hS:Small t) {c:Sl Int} (U:qh t c.l) {p:Nat} {P:bT} {a:Int} (G:t.procs.l[p]? = some P) (W:c.l[p]? = some a) (q:Nat) :
 Wp (gB t c p q) λs=>s.l.length=(P.events.l.take a.toNat).countP λe=>dO q e&&lN t c.l e:=by
 have Y:=(hS.2 P (List.mem_of_getElem? G)).1;obtain⟨a0,a1⟩:=U.2 p a P W G;unfold gB gB.W1;refine eD (λs:Sl Int×Int=>∃n:Nat,s.2=n/\(n:Int)<=a/\s.1.l.length=(P.events.l.take n).countP λe=>dO q e&&lN t c.l e) (λs=>a.toNat-s.2.toNat) ⟨0,rfl,by simpa using a0,rfl⟩ ?_
 rintro⟨o,i⟩ ⟨n,hi,hn,I⟩;simp only at hi I;subst hi;unfold gB.br;rw[show idx c (p:Int)=some a from by rw[jy];exact W,ζb,cu]
 constructor
 .intro h;have Z:(n:Int)<a:=by simpa using h
  have B:n<P.events.l.length:=by omega
  have D:=c7 n (by omega)
  have A:a.toNat-(IntKind.wrap .i64 ((n:Int)+1)).toNat<a.toNat-((n:Int)).toNat:=by rw[D];simp;omega
  have J:=List.countP_le_length (p:=λe=>dO q e&&lN t c.l e) (l:=P.events.l.take n)
  rw[List.length_take]at J;have u:(P.events.l.take (n+1)).countP (λe=>dO q e&&lN t c.l e)=o.l.length+if dO q P.events.l[n]&&lN t c.l P.events.l[n]then 1 else 0:=by
   rw[List.take_add_one,ζd B,List.countP_append,I];show _+List.countP _ [P.events.l[n]]=_;rw[List.countP_cons,List.countP_nil];simp
  rw[show idx t.procs (p:Int)=some P from by rw[jy];exact G,ζb,bK B,ζb]
  generalize P.events.l[n]=e at u;have L:(bf (e.kind==2) (some (!(e.peer==(q:Int)))) (some true):Option Bool)=some (!dO q e):=by
   unfold dO;cases e.kind==2 <;> cases e.peer==(q:Int) <;> rfl
  rw[L,ζb,cu];constructor
  .intro w;have w:dO q e=false:=by simpa using w
   rw[a_];exact⟨⟨n+1,D,by omega,by rw[u,w];rfl⟩,A⟩
  .intro w;have w:dO q e=true:=by simpa using w
   rw[find_eq hS,ζb];have hc:(bf ((fT t 3 e.message).index==0) (some true) ((idx c (fT t 3 e.message).proc).bind λO=>some (decide ((fT t 3 e.message).index>O))):Option Bool)=some (lN t c.l e):=by
    unfold lN;rcases D7 t 3 e.message with⟨h,_⟩|⟨z,z1,_⟩
    .rw[h];rfl
    .obtain⟨Q,j,⟨Q',S,_⟩,X⟩:=dK.1 z1;simp only at X;have C:Q<c.l.length:=by rw[U.1];exact(ζe.1 S).1
     rw[X];dsimp only;rw[bK C,ζb,show ((Q:Nat):Int).toNat=Q from rfl,ζd C,kP];rfl
   rw[hc,ζb,cu];constructor
   .intro T;unfold iP;rw[if_pos (show o.l.length+1<=2147483648 from by omega),ζb,a_]
    exact⟨⟨n+1,D,by omega,by show (o.l++[_]).length=_;rw[u,w,T,ζi];rfl⟩,A⟩
   .intro T;rw[a_];exact⟨⟨n+1,D,by omega,by rw[u,w,T];rfl⟩,A⟩
 .intro h;have aa:¬(n:Int)<a:=by simpa using h
  refine(a_ _).2 ((a_ _).2 ?_);rw[show a.toNat=n from by omega];exact I
end Go.VE
namespace Go.VE
section
variable {t:Trace} {A:cC 200 bL} {P:bT} {v:Nat}
theorem NV (hS:Small t) {n:Nat} (B:t.procs.l[n]? = some P) {name:ByteArray} {x:Var} (h1:P.vars.l[v]? = some x) (D:(ByteArray.toList x.name==ByteArray.toList name)=true)
 (G:∀(j:Nat) (w:Var),j<v->P.vars.l[j]? = some w->(ByteArray.toList w.name==ByteArray.toList name)=false):je t n name=some (v:Int):=by
 have z:=(ζe.1 h1);obtain⟨z,C⟩:=z;have I:=(hS.2 P (List.mem_of_getElem? B)).2.1;refine Wp.eq ?_;unfold je;rw[jy,B,ζb];unfold je.W1;refine eD (λi:Int=>∃n:Nat,i=n/\n<=v) (λi=>v-i.toNat) ⟨0,rfl,Nat.zero_le _⟩ ?_
 rintro _ ⟨i,rfl,hi⟩;have u:i<P.vars.l.length:=by omega
 unfold je.br;rw[mJ u,bD,bK u,ζb]
 by_cases A:i=v
 .subst A;rw[C,D,bD,a_];exact(a_ _).2 rfl
 .rw[G i _ (by omega) (ζd u),bG,a_,c7 i (by omega)]
  exact⟨⟨i+1,rfl,by omega⟩,by simp only;omega⟩
theorem Si {e:Event} (D:e.assign.l.length<1073741824) (n:Nat) (i:Int):fJ.W2 (n:Int) (v:Int) i e.assign 0 t=some (match lu e.assign.l v with|some x=>.r x|none=>.n (IntKind.wrap .i64 (i-1))):=by
 refine Wp.eq ?_;unfold fJ.W2;refine mZ e.assign.l.length (λj s=>s=(j:Int)/\lu (e.assign.l.take j) v=none) ⟨rfl,by simp[lu]⟩ ?_ ?_
 .rintro j _ A ⟨rfl,w⟩;unfold fJ.bZ;rw[mJ A,bD,bK A,ζb];have u:e.assign.l=e.assign.l.take j++e.assign.l[j]::e.assign.l.drop (j+1):=by rw[List.getElem_cons_drop,List.take_append_drop]
  unfold lu at w;rw[Option.map_eq_none_iff]at w
  by_cases z:e.assign.l[j].var=(v:Int)
  .rw[show (e.assign.l[j].var==(v:Int))=true from by simpa using z,bD,ζb,a_]
   refine(a_ _).2 ?_;have:lu e.assign.l v=some e.assign.l[j].value:=by
    unfold lu;have B:=congrArg (List.find? λa:Assign=>a.var==(v:Int)) u
    rw[List.find?_append,w,List.find?_cons_of_pos (by simpa using z)]at B
    rw[B];rfl
   rw[this]
  .rw[show (e.assign.l[j].var==(v:Int))=false from by simpa using z,bG,a_,c7 j (by omega)]
   refine⟨rfl,?_⟩;unfold lu;rw[Option.map_eq_none_iff,List.take_add_one,ζd A,List.find?_append,w];rw[Option.none_or,Option.toList_some,List.find?_cons_of_neg (by simpa using z)];rfl
 .rintro _ ⟨rfl,w⟩;unfold fJ.bZ;rw[o8,bG,a_];rw[List.take_length]at w;refine(a_ _).2 ?_;rw[w]
theorem Nh (hS:Small t) (J:Ok t) {n:Nat} (D:t.procs.l[n]? = some P) (B:v<P.vars.l.length) {a:Nat} (U:a<=P.events.l.length):fJ t n v (a:Int)=some (lH P v a):=by
 have A:=hS.2 P (List.mem_of_getElem? D);have L:=M3.of J D;have G:idx t.procs (n:Int)=some P:=by rw[jy];exact D
 refine Wp.eq ?_;unfold fJ fJ.W1;rw[gV _ (by omega) (by omega)]
 refine eD (λi:Int=>∃k:Nat,i=(k:Int)-1/\k<=a/\lH P v k=lH P v a) (λi=>(i+1).toNat) ⟨a,rfl,Nat.le_refl _,rfl⟩ ?_
 rintro _ ⟨k,rfl,hk,w⟩;unfold fJ.br
 by_cases h0:k=0
 .subst h0;rw[decide_eq_false (by omega),bG,a_]
  rw[G,ζb,bK B,ζb];refine(a_ _).2 ?_;rw[<-w];simp[lH,gM,ζd B]
 .have z:k-1<P.events.l.length:=by omega
  have C:=List.getElem_mem z;have u:=ED L B (ζd z);rw[show k-1+1=k from by omega]at u
  rw[decide_eq_true (by omega),bD,G,ζb,show (k:Int)-1=((k-1:Nat):Int)from by omega,bK z,ζb,Si (A.2.2.2.2 _ C)]
  cases I:lu P.events.l[k-1].assign.l v with
  | some x=>
   rw[I]at u;rw[a_];refine(a_ _).2 ?_;rw[<-w,u];rfl
  | none=>
   rw[I]at u;rw[a_,gV _ (by omega) (by omega)]
   exact⟨⟨k-1,rfl,by omega,by rw[<-w,u];rfl⟩,by simp only;omega⟩
structure U4 (t:Trace) (A:cC 200 bL) (c:Sl Int) (l:Sl (Sl Int)):Prop where
 hS:Small t
 hv:dJ t=some true
 hV:VT t
 hM:jQ t (bU t) A
 hC:Cons t A c.l
 vals:∀(p:Nat) (P:bT) (a:Int),t.procs.l[p]? = some P->c.l[p]? = some a->∃x,l.l[p]? = some x/\x.l=gM P a.toNat
theorem Hr {c:Sl Int} {l:Sl (Sl Int)} (h:U4 t A c l) (q:Pred):uU t q->q.kind<=8->∀n,q.dp<=n ->
 ∃x,c_ (λr (z:bC×Pred)=>ey z.1 z.2 r) n (⟨t,c,l⟩,q)=some x/\c_ (λr (z:Trace×(Sl Int)×Pred)=>iI z.1 z.2.1 z.2.2 r) n (t,c,q)=some x:=by
 induction q using Pred.ind with
 | h q Q=>
  intro hc hk n hn;have hd:=q.qJ;obtain⟨hS,hv,hV,hM,hC,J⟩:=h;obtain⟨S,hr,hy⟩:=hc.here;obtain⟨k1,-,-⟩:=vv S;have Q:=λq hq=>Q q hq (hc.sX hq) (hc.int (by omega) hq) (n-1) (by have:=Pred.pn hq;omega)
  rw[iy (by omega),iy (by omega)]
  show ∃x,ey ⟨t,c,l⟩ q (c_ (λr (z:bC×Pred)=>ey z.1 z.2 r) (n-1))=some x/\iI t c q (c_ (λr (z:Trace×(Sl Int)×Pred)=>iI z.1 z.2.1 z.2.2 r) (n-1))=some x
  generalize c_ (λr (z:bC×Pred)=>ey z.1 z.2 r) (n-1)=R at Q ⊢
  generalize c_ (λr (z:Trace×(Sl Int)×Pred)=>iI z.1 z.2.1 z.2.2 r) (n-1)=R' at Q ⊢
  unfold ey iI;rcases (show q.kind=1\/q.kind=2\/q.kind=3\/q.kind=4\/5<=q.kind by omega)with hk|hk|hk|hk|hk
  .rw[hk];exact⟨q.n,rfl,rfl⟩
  .unfold oc at hr;rw[if_pos (by simpa using hk)]at hr
   simp only[ζh]at hr;obtain⟨hp,-,T⟩:=hr;obtain⟨i,hi,aa⟩:=DP hS (p:=q.proc) (by simp only[ζh];exact hp) q.name
   rcases aa with⟨m,k,P,y,I,C,rfl,L,h1,h2,-⟩|⟨-,U⟩
   .have W:=(ζe.1 L).1;have B:=(ζe.1 C).1;obtain⟨a,D⟩:=hC.1.at_ B;obtain⟨a0,a1⟩:=hC.1.2 m a P D C;obtain⟨x,hx,ab⟩:=J m P a C D;refine⟨lH P k a.toNat,?_,?_⟩
    .rw[hk,show ((2:Int)==1)=false from rfl,bG,show ((2:Int)==2)=true from rfl,bD];unfold nq;simp only;rw[I,jy,C,ζb,Cs (p:=λz=>jI z q) (f:=λw=>ByteArray.toList w.name==ByteArray.toList q.name) (λ_ _=>rfl) (hS.2 P (List.mem_of_getElem? C)).2.1,G_ L h1 h2,ζb,jy,hx,ζb,jy,ab,EP _ W]
     rfl
    .rw[hk,show ((2:Int)==1)=false from rfl,bG,show ((2:Int)==2)=true from rfl,bD,I,NV hS C L h1 h2,ζb,jy,D,ζb];have:=Nh hS hV.ok C W (a:=a.toNat) (by omega)
     rw[show ((a.toNat:Nat):Int)=a from by omega]at this
     rw[this];rfl
   .rw[U]at T;cases T
  .unfold oc at hr;rw[if_neg (by simp[hk]),if_pos (by simpa using hk)]at hr
   simp only[ζh]at hr;obtain⟨m,I,B⟩:=uA (t:=t) (p:=q.proc) (by simp only[ζh];exact hr.1)
   obtain⟨a,D⟩:=hC.1.at_ B;refine⟨a,?_,?_⟩
   .rw[hk,show ((3:Int)==1)=false from rfl,bG,show ((3:Int)==2)=false from rfl,bG,show ((3:Int)==3)=true from rfl,bD];simp only;rw[I,jy,D];rfl
   .rw[hk,show ((3:Int)==1)=false from rfl,bG,show ((3:Int)==2)=false from rfl,bG,show ((3:Int)==3)=true from rfl,bD,I,jy,D];rfl
  .unfold oc at hr;rw[if_neg (by simp[hk]),if_neg (by simp[hk]),if_pos (by simpa using hk)]at hr
   simp only[ζh]at hr;obtain⟨m,I,B⟩:=uA (t:=t) (p:=q.proc) (by simp only[ζh];exact hr.1)
   obtain⟨o,ho,O⟩:=uA (t:=t) (p:=q.peer) (by simp only[ζh];exact hr.2.1)
   obtain⟨a,D⟩:=hC.1.at_ B;obtain⟨b,hb⟩:=hC.1.at_ O;have C:=ζd B;have hQ:=ζd O;obtain⟨⟨u,e2⟩,hu,ad,X⟩:=OE hS hv hV hM hC B O;simp only at ad X;obtain⟨s,hs,hsl⟩:=Je hS hC.1 C D o;refine⟨len u,?_,?_⟩
   .rw[hk,show ((4:Int)==1)=false from rfl,bG,show ((4:Int)==2)=false from rfl,bG,show ((4:Int)==3)=false from rfl,bG,show ((4:Int)==4)=true from rfl,bD];unfold nS;simp only;rw[I,ho,hu];rfl
   .rw[hk,show ((4:Int)==1)=false from rfl,bG,show ((4:Int)==2)=false from rfl,bG,show ((4:Int)==3)=false from rfl,bG,show ((4:Int)==4)=true from rfl,bD,I,ho,hs,ζb];show some ((s.l.length:Nat):Int)=some ((u.l.length:Nat):Int);rw[hsl,X,Ew hV hM hC C hQ D hb]
  .have G:∀j:Int,j<5->(q.kind==j)=false:=λj hj=>by simp;omega
   rw[G 1 (by omega),G 2 (by omega),G 3 (by omega),G 4 (by omega)]
   simp only[bG];have hl:0<q.l.l.length:=by
    rcases (show q.kind=5\/q.kind=6\/q.kind=7\/q.kind=8 by omega)with g|g|g|g
    .have:=Pred.parts S (c:=1) (by rw[g];rfl);omega
    .have:=Pred.parts S (c:=2) (by rw[g];rfl);omega
    .have:=Pred.parts S (c:=2) (by rw[g];rfl);omega
    .have:=Pred.parts S (c:=2) (by rw[g];rfl);omega
   obtain⟨x,x1,x2⟩:=Q _ (List.getElem_mem hl);have Y:idx q.l 0=some q.l.l[0]:=bK (i:=0) hl
   by_cases g:q.kind=5
   .rw[g,show ((5:Int)==5)=true from rfl,bD,bD,Y,ζb,x1,ζb,ζb,x2,ζb];exact⟨_,rfl,rfl⟩
   .have Z:1<q.l.l.length:=by
     have:=Pred.parts S (c:=2) (by rcases (show q.kind=6\/q.kind=7\/q.kind=8 by omega)with g|g|g <;> (rw[g];rfl))
     omega
    obtain⟨y,y1,y2⟩:=Q _ (List.getElem_mem Z);have ae:idx q.l 1=some q.l.l[1]:=bK (i:=1) Z;rw[Y,ae];simp only[ζb,x1,x2,y1,y2];rw[show (q.kind==5)=false from by simpa using g,bG]
    cases q.kind==6 <;> cases q.kind==7 <;> exact⟨_,rfl,rfl⟩
theorem LK {c:Sl Int} {l:Sl (Sl Int)} (h:U4 t A c l) (q:Pred):uU t q->9<=q.kind->q.dp<=20->q.fL (λk => !rD k)=true->∀n,q.dp<=n ->
 ∃x,c_ (λr (z:bC×Pred)=>eN z.1 z.2 r) n (⟨t,c,l⟩,q)=some x/\c_ (λr (z:Trace×(Sl Int)×Pred)=>iG z.1 z.2.1 z.2.2 r) n (t,c,q)=some x:=by
 induction q using Pred.ind with
 | h q G=>
  intro hc hk U C n hn;have hd:=q.qJ;obtain⟨I,hr,hy⟩:=hc.here;obtain⟨k1,k2,-⟩:=vv I;rw[q.j_,ζh,List.all_eq_true]at C;have W:q.kind<=17:=by
   have:=C.1;unfold rD at this
   by_cases g:q.kind>=18
   .rw[decide_eq_true g,decide_eq_true (show q.kind<=21 by omega)]at this;cases this
   .omega
  have B:∀k∈q.l.l,k.kind<=8->∃x,dL ⟨t,c,l⟩ k=some x/\gL t c k=some x:=λk hk Q=>Hr h k (hc.sX hk) Q 100000 (by have:=Pred.pn hk;omega)
  have D:13<=q.kind->∀k∈q.l.l,9<=k.kind:=λg k hk=>by
   have:=hc.here.2.2;unfold pW at this;rw[List.all_eq_true]at this;have:=this k hk;unfold t_ mz at this;rw[if_neg (show ¬q.kind<=12 by omega)]at this
   by_cases X:k.kind<=8
   .rw[if_pos X]at this;cases this
   .omega
  have G:=λg q J=>G q J (hc.sX J) (D g q J) (by have:=Pred.pn J;omega) (C.2 q J) (n-1) (by have:=Pred.pn J;omega)
  rw[iy (by omega),iy (by omega)]
  show ∃x,eN ⟨t,c,l⟩ q (c_ (λr (z:bC×Pred)=>eN z.1 z.2 r) (n-1))=some x/\iG t c q (c_ (λr (z:Trace×(Sl Int)×Pred)=>iG z.1 z.2.1 z.2.2 r) (n-1))=some x
  generalize c_ (λr (z:bC×Pred)=>eN z.1 z.2 r) (n-1)=R at G ⊢
  generalize c_ (λr (z:Trace×(Sl Int)×Pred)=>iG z.1 z.2.1 z.2.2 r) (n-1)=R' at G ⊢
  unfold eN iG e9.J1
  by_cases L:q.kind<=12
  .have Y:=Pred.parts I (c:=2) (by rcases (show q.kind=9\/q.kind=10\/q.kind=11\/q.kind=12 by omega)with g|g|g|g <;> (rw[g];rfl))
   have u:0<q.l.l.length:=by omega
   have w:1<q.l.l.length:=by omega
   obtain⟨x,O,x2⟩:=B _ (List.getElem_mem u) (hc.int L (List.getElem_mem u));obtain⟨y,S,T⟩:=B _ (List.getElem_mem w) (hc.int L (List.getElem_mem w));rw[show idx q.l 0=some q.l.l[0]from bK (i:=0) u,show idx q.l 1=some q.l.l[1]from bK (i:=1) w];simp only[ζb,O,x2,S,T];rcases (show q.kind=9\/q.kind=10\/q.kind=11\/q.kind=12 by omega)with g|g|g|g <;> rw[g] <;> exact⟨_,rfl,rfl⟩
  .by_cases Z:q.kind<=14
   .rcases (show q.kind=13\/q.kind=14 by omega)with g|g <;> rw[g] <;> exact⟨_,rfl,rfl⟩
   .have u:0<q.l.l.length:=by
     rcases (show q.kind=15\/q.kind=16\/q.kind=17 by omega)with g|g|g
     .have:=Pred.parts I (c:=1) (by rw[g];rfl);omega
     .have:=Pred.parts I (c:=2) (by rw[g];rfl);omega
     .have:=Pred.parts I (c:=2) (by rw[g];rfl);omega
    obtain⟨x,O,x2⟩:=G (by omega) _ (List.getElem_mem u)
    rw[show idx q.l 0=some q.l.l[0]from bK (i:=0) u]
    by_cases g:q.kind=15
    .rw[g];simp only[ζb,O,x2];exact⟨_,rfl,rfl⟩
    .have w:1<q.l.l.length:=by
      have:=Pred.parts I (c:=2) (by rcases (show q.kind=16\/q.kind=17 by omega)with g|g <;> (rw[g];rfl))
      omega
     obtain⟨y,S,T⟩:=G (by omega) _ (List.getElem_mem w)
     rw[show idx q.l 1=some q.l.l[1]from bK (i:=1) w];simp only[ζb,O,x2,S,T];rcases (show q.kind=16\/q.kind=17 by omega)with g|g <;> rw[g] <;> cases x <;> exact⟨_,rfl,rfl⟩
end
end Go.VE
namespace Go.VE
section
variable {t:Trace}
theorem OZ (p:Pred) (D:p.Sm):∀(n d:Nat) (v:Int),1<=n->42<=n+d->d<=41->0<=v->v<=300 ->
 ∃r:Int,c_ (λr (z:Pred×Int×Int)=>gI z.1 z.2.1 z.2.2 r) n (p,(d:Int),v)=some r/\0<=r/\r<=1000:=by
 induction p using Pred.ind with
 | h p J=>
  intro n d v T L hd O hv;have U:=D.len;rw[iy (by omega)]
  show ∃r:Int,gI p (d:Int) v (c_ (λr (z:Pred×Int×Int)=>gI z.1 z.2.1 z.2.2 r) (n-1))=some r/\0<=r/\r<=1000
  have G:∀v:Int,0<=v->v<=1000->(v<=300->d<=40)->∃r:Int,eH.J1 (d:Int) p v (c_ (λr (z:Pred×Int×Int)=>gI z.1 z.2.1 z.2.2 r) (n-1))=some r/\0<=r/\r<=1000:=by
   intro v h0 h1 Q;show Wp (eH.J1 (d:Int) p v _) λr=>0<=r/\r<=1000
   unfold eH.J1 eH.W2;refine eD (λs:Int×Int=>∃i:Nat,s.1=i/\i<=p.l.l.length/\0<=s.2/\s.2<=1000/\(s.2<=300->d<=40)) (λs=>p.l.l.length-s.1.toNat) ⟨0,rfl,Nat.zero_le _,h0,h1,Q⟩ ?_
   rintro⟨_,u⟩ ⟨i,rfl,hi,B,C,I⟩;simp only at B C I ⊢;unfold eH.bZ
   by_cases A:i<p.l.l.length
   .rw[mJ A,bD,ζb]
    by_cases hu:u<=300
    .have w:=I hu;rw[decide_eq_true hu,bD,bK A,ζb,c7 d (by omega)]
     obtain⟨r,hr,S,r1⟩:=J _ (List.getElem_mem A) (D.sX (List.getElem_mem A)) (n-1) (d+1) u (by omega) (by omega) (by omega) B hu
     rw[hr,ζb,a_,c7 i (by omega)]
     exact⟨⟨i+1,rfl,by omega,S,r1,λ_=>w⟩,by simp only;omega⟩
    .rw[decide_eq_false hu,bG,a_];exact(a_ _).2 ⟨B,C⟩
   .rw[decide_eq_false (by simp only[len];omega),bG,ζb,bG,a_]
    exact(a_ _).2 ⟨B,C⟩
  unfold gI
  by_cases w:d<=40
  .rw[decide_eq_false (by omega),bG,gV _ (by omega) (by omega)]
   exact G _ (by omega) (by omega) (λ_=>w)
  .rw[decide_eq_true (by omega),bD]
   exact G _ (by omega) (by omega) (λh=>by omega)
theorem OR {p:Pred} (B:p.Sm):∃b,tJ p=some b:=by
 obtain⟨r,hr,-⟩:=OZ p B 100000 0 0 (by omega) (by omega) (by omega) (by omega) (by omega)
 unfold tJ eH;rw[show ((0:Nat):Int)=0 from rfl]at hr;rw[hr];exact⟨_,rfl⟩
theorem On {A:cC 200 bL} (hS:Small t) (hV:VT t) (hM:jQ t (bU t) A) {c:Sl Int} (B:c.l.length=t.procs.l.length) {r:Int} (h:Code t A c.l r) (K:Option Int) :
 ((lT t c).bind λx=>bf x ((dB t c).bind λy=>bf y K (some 18)) (some 2))=if r=0 then K else some r:=by
 obtain⟨b,C,u⟩:=S9 (t:=t) hS B;rw[C,ζb];rcases h with⟨h,rfl⟩|⟨-,h,rfl⟩|⟨h,z,rfl⟩|⟨h,z,rfl⟩
 .exact absurd B h
 .rw[show b=false from by cases b with|false=>rfl|true=>exact absurd (u.1 rfl) h];rfl
 .obtain⟨d,hd,w⟩:=Nj hS hV hM h;rw[u.2 h,bD,hd,ζb,show d=false from by cases d with|false=>rfl|true=>exact absurd (w.1 rfl) z];rfl
 .obtain⟨d,hd,w⟩:=Nj hS hV hM h;rw[u.2 h,bD,hd,ζb,w.2 z];rfl
theorem O4 {p:Pred} (B:kX p=true) (hc:uU t p):qV p=some (mz p.kind,0):=by
 have u:=hc.sm;have hd:=B;simp only[kX,ζh,decide_eq_true_eq]at hd;unfold qV;rw[yZ u,B,ζb,bD,Er u (by omega),hc.y,ζb,bD,Am];rfl
theorem OS {p:Pred} (B:kX p=true) (hc:uU t p):tK p=some (mz p.kind,0):=by
 have u:=hc.sm;have hd:=B;simp only[kX,ζh,decide_eq_true_eq]at hd;unfold tK fK;rw[zj u,B,ζb,bD,ES p u hc.f 100000 (by omega),hc.y,ζb,bD,BX];rfl
theorem JJ (hS:Small t) (hN:(bU t).length<1073741824) {p:Pred} (U:p.Sm) (c:Sl Int) (k:Int) :
 ∃w e,eC t c p k=some (w,e)/\p9 t c p k=some e/\(e=0->∃A l,w=⟨t,c,l⟩/\U4 t A c l/\kX p=true/\uU t p/\mz p.kind=k/\p.fL (λq => !rD q)=true):=by
 obtain⟨e,h1,S,h3⟩:=L9 hS hN U;obtain⟨vl,hv,T,aa⟩:=EV hS hN;unfold eC p9;rw[h1,T,ζb,ζb]
 by_cases I:c.l.length=t.procs.l.length
 .have W:(len c==len t.procs)=true:=by simp[len,I]
  rw[W];have e1:((bf (e==1) (some false) (some (!true)):Option Bool).bind λD=>bf D (eC.J1 c k 1 t p (⟨⟨Sl.nil⟩,Sl.nil,Sl.nil⟩:bC)) (eC.J1 c k e t p (⟨⟨Sl.nil⟩,Sl.nil,Sl.nil⟩:bC)))=eC.J1 c k e t p (⟨⟨Sl.nil⟩,Sl.nil,Sl.nil⟩:bC):=by cases e==1 <;> rfl
  rw[e1]
  by_cases X:e=0
  .subst X;obtain⟨C,hV,Y,hc⟩:=h3 rfl;rw[C]at hv;cases hv;obtain⟨A,-,-,hM⟩:=hV.msgs;rw[bD,show (!true)=false from rfl,ζb,bG,S,ζb,show ((0:Int)==0)=true from rfl,bD];unfold eC.J1;rw[show ((0:Int)==0)=true from rfl,bD];obtain⟨x,hx,B⟩:=By hS C hV hM c;rw[On hS hV hM I B]
   by_cases u:x.2=0
   .obtain⟨hR,J⟩:=B.zero.1 u;obtain⟨⟨l,z⟩,hl,L,Z,O⟩:=V1 hS C hV hM (c:=c) ⟨hR,J⟩;simp only at L Z O;subst L;rw[if_pos u,hl,ζb];simp only;rw[show ((0:Int)==0)=true from rfl,bD];unfold ta xC;rw[O4 Y hc,OS Y hc,S,ζb,ζb,ζb];simp only;rw[show ((0:Int)==0)=true from rfl,bD,bD]
    cases hk:mz p.kind==k with
    | false=>exact⟨_,14,rfl,rfl,λh=>by cases h⟩
    | true=>
     rw[show (!true)=false from rfl,ζb,bG,bD,ζb,ζb];rw[show ((0:Int)==0)=true from rfl,bD,bD,Hz U,Gq U,Y,ζb,ζb,ζb]
     cases ht:p.fL λq => !rD q with
     | false=>exact⟨_,15,rfl,rfl,λh=>by cases h⟩
     | true=>exact⟨_,0,rfl,rfl,λ_=>⟨A,l,rfl,⟨hS,C,hV,hM,⟨hR,J⟩,O⟩,rfl,hc,by simpa using hk,rfl⟩⟩
   .rw[if_neg u];unfold iz;rw[hx,ζb,show (x.2==0)=false from by simpa using u,bG,ζb]
    simp only;rw[show (x.2==0)=false from by simpa using u,bG]
    exact⟨_,_,rfl,rfl,λh=>absurd h u⟩
  .have Q:(e==0)=false:=by simpa using X
   unfold eC.J1;rw[Q,bG];refine⟨_,e,rfl,?_,λh=>absurd h X⟩
   cases vl with
   | false=>
    rw[bG,ζb,bD];have G:=h1;unfold nW at G;rw[hv,ζb]at G;exact G
   | true=>rw[bD,show (!true)=false from rfl,ζb,bG,S,ζb,Q,bG]
 .have W:(len c==len t.procs)=false:=by rw[beq_eq_false_iff_ne];simp only[len];omega
  rw[W];have e1:((bf (e==1) (some false) (some (!false)):Option Bool).bind λD=>bf D (eC.J1 c k 1 t p (⟨⟨Sl.nil⟩,Sl.nil,Sl.nil⟩:bC)) (eC.J1 c k e t p (⟨⟨Sl.nil⟩,Sl.nil,Sl.nil⟩:bC)))=some ((⟨⟨Sl.nil⟩,Sl.nil,Sl.nil⟩:bC),1):=by
   cases h:e==1 with
   | false=>rfl
   | true=>rw[show e=1 from by simpa using h];rfl
  rw[e1];refine⟨_,1,rfl,?_,λh=>by cases h⟩
  cases vl <;> rfl
theorem SR (hS:Small t) (U:(bU t).length<1073741824) {p:Pred} (B:p.Sm) {c:Sl Int}:dR t c p=some true:=by
 obtain⟨Q,z⟩:=S6 hS;obtain⟨hg,C⟩:=OR B;unfold dR;rw[show vV=some true from rfl,ζb,bD,z,ζb,C,ζb]
 cases Q with
 | true=>rfl
 | false=>
 cases hg with
 | true=>rfl
 | false=>
 rw[bG,ζb,bG,ζb]
 cases decide (len c>20)with
 | true=>rfl
 | false=>
 rw[bG];obtain⟨X,e1,g1,f1,S⟩:=JJ hS U B c 1;obtain⟨Y,e2,g2,f2,T⟩:=JJ hS U B c 2;have w:∃y f,rm t c p=some (y,f)/\dR.J1 c y f t p=some true:=by
  unfold rm;rw[g2,ζb];simp only
  by_cases h:e2=0
  .subst h;obtain⟨A,l,rfl,D,G,hc,hk,O⟩:=T rfl;have hd:=G;simp only[kX,ζh,decide_eq_true_eq]at hd;have I:9<=p.kind:=by
    unfold mz at hk
    by_cases h:p.kind<=8
    .rw[if_pos h]at hk;cases hk
    .omega
   obtain⟨x,J,x2⟩:=LK D p hc I (by omega) O 100000 (by omega)
   rw[show e9 ⟨t,c,l⟩ p=some x from J];refine⟨x,0,rfl,?_⟩;unfold dR.J1;rw[f2,ζb,show ((0:Int)==0)=true from rfl,bD,bD,show vK t c p=some x from x2];simp
  .have u:(e2==0)=false:=by simpa using h
   rw[u,bG];refine⟨false,e2,rfl,?_⟩;unfold dR.J1;rw[f2,ζb,u,bG,show (e2==e2)=true from by simp]
   rfl
 obtain⟨y,f,W,w⟩:=w;rw[W,f1];unfold vS;rw[g1,ζb];simp only
 by_cases h:e1=0
 .subst h;obtain⟨A,l,rfl,D,G,hc,hk,O⟩:=S rfl;have hd:=G;simp only[kX,ζh,decide_eq_true_eq]at hd;have L:p.kind<=8:=by
   unfold mz at hk
   by_cases h:p.kind<=8
   .exact h
   .rw[if_neg h]at hk;cases hk
  obtain⟨x,J,x2⟩:=Hr D p hc L 100000 (by omega)
  rw[show dL ⟨t,c,l⟩ p=some x from J];rw[show ((0:Int)==0)=true from rfl,bD,ζb,ζb,ζb,ζb];simp only;rw[show ((0:Int)==0)=true from rfl,bD,bD,show gL t c p=some x from x2,ζb,ζb,show (!(x==x))=false from by simp,bG,w]
 .have u:(e1==0)=false:=by simpa using h
  rw[u,bG,ζb,ζb,ζb];simp only;rw[u,bG,show (e1==e1)=true from by simp,bD,show (!((0:Int)==0))=false from rfl,ζb,bG,w]
end
end Go.VE
