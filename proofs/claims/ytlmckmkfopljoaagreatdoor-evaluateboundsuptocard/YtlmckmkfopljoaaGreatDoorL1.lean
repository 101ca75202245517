/-
 The law in plain Lean, and the join.
-/
import Derived.Test.YtlmckmkfopljoaaGreatDoorK1
import Derived.Test.YtlmckmkfopljoaaGreatDoorG1
set_option linter.all false
namespace Go.VE
instance:cm Var where
 wt x:=cm.wt x.name+cm.wt x.init_+1
 ok x:=cm.ok x.name/\cm.ok x.init_/\True
instance:cm Assign where
 wt x:=cm.wt x.var+cm.wt x.value+1
 ok x:=cm.ok x.var/\cm.ok x.value/\True
instance:cm Event where
 wt x:=cm.wt x.kind+cm.wt x.peer+cm.wt x.message+cm.wt x.time+cm.wt x.assign+1
 ok x:=cm.ok x.kind/\cm.ok x.peer/\cm.ok x.message/\cm.ok x.time/\cm.ok x.assign/\True
instance:cm bT where
 wt x:=cm.wt x.name+cm.wt x.vars+cm.wt x.events+1
 ok x:=cm.ok x.name/\cm.ok x.vars/\cm.ok x.events/\True
instance:cm Trace where
 wt x:=cm.wt x.procs+1
 ok x:=cm.ok x.procs/\True
instance:cm bN where
 wt x:=cm.wt x.low+cm.wt x.high+1
 ok x:=cm.ok x.low/\cm.ok x.high/\True
instance:cm bD where
 wt x:=cm.wt x.t+cm.wt x.counts+cm.wt x.values+1
 ok x:=cm.ok x.t/\cm.ok x.counts/\cm.ok x.values/\True
mutual
def Pred.Wu:Pred->Nat
 | ⟨f0,f1,f2,f3,B,f5⟩=>cm.wt f0+cm.wt f1+cm.wt f2+cm.wt f3+cm.wt B+Pred.Qz f5+1
def Pred.Qz:Sl Pred->Nat
 | .nil=>1
 | .emp=>1
 | .row l=>Pred.Iu l+1
 | .part l=>Pred.Iu l+1
def Pred.Iu:List Pred->Nat
 | []=>0
 | x::r=>Pred.Wu x+Pred.Iu r
end
mutual
def Pred.We:Pred->Prop
 | ⟨f0,f1,f2,f3,B,f5⟩=>cm.ok f0/\cm.ok f1/\cm.ok f2/\cm.ok f3/\cm.ok B/\Pred.Wa f5/\True
def Pred.Wa:Sl Pred->Prop
 | .nil=>True
 | .emp=>False
 | .row l=>Pred.Q6 l
 | .part l=>Pred.Q6 l
def Pred.Q6:List Pred->Prop
 | []=>True
 | x::r=>Pred.We x/\Pred.Q6 r
end
instance:cm Pred where
 wt:=Pred.Wu
 ok:=Pred.We
theorem Pred.Ep:∀l:List Pred,Pred.Iu l=(l.map cm.wt).sum
 | []=>rfl
 | x::r=>by simp only[Pred.Iu,List.map_cons,List.sum_cons,Pred.Ep r];rfl
theorem Pred.Wk (s:Sl Pred):Pred.Qz s=cm.wt s:=by
 cases s with
 | nil=>rfl
 | emp=>rfl
 | row l=>show Pred.Iu l+1=(l.map cm.wt).sum+1;rw[Pred.Ep]
 | part l=>show Pred.Iu l+1=(l.map cm.wt).sum+1;rw[Pred.Ep]
theorem Pred.D3:∀l:List Pred,(∀x∈l,cm.ok x)->Pred.Q6 l
 | [],_=>trivial
 | x::r,h=>⟨h x (List.mem_cons_self ..),Pred.D3 r λy B=>h y (List.mem_cons_of_mem _ B)⟩
theorem Pred.WZ (s:Sl Pred) (h:cm.ok s):Pred.Wa s:=by
 cases s with
 | nil=>trivial
 | emp=>exact h.2 rfl
 | row l=>exact Pred.D3 l h.1
 | part l=>exact Pred.D3 l h.1
end Go.VE
namespace Go.VE.YtlmckmkfopljoaaGreatDoor
open Go.Proofs Go.Proofs.YtlmckmkfopljoaaGreatDoor
instance XE:Reads Tryz.prog 9 ByteArray:=Reads.str Tryz.underlying9 (by kernel_rfl)
instance XF:Reads Tryz.prog 3 Int:=Reads.int Tryz.underlying3 (by kernel_rfl)
instance Xn:Reads Tryz.prog 116 Var:=by
 refine Reads.st Tryz.underlying116 (by kernel_rfl) rfl ?_
 intro H enc w base spare held u cs l I h;simp only[List.mapM_cons,List.mapM_nil,Option.pure_def,Option.bind_eq_bind,ζg,ζa]at h;obtain⟨z,h0,J,⟨A,h1,L,rfl,rfl⟩,rfl⟩:=h;obtain⟨a0,B,k0,O⟩:=Reads.rd (P:=Tryz.prog) (t:=9) (α:=ByteArray) (d:=z.1) (ps:=z.2) h0;rw[show Tryz.prog.cellsOf 9=1 from by kernel_rfl]at B
 obtain⟨C,D,k1,Q⟩:=Reads.rd (P:=Tryz.prog) (t:=3) (α:=Int) (d:=A.1) (ps:=A.2) h1;rw[show Tryz.prog.cellsOf 3=1 from by kernel_rfl]at D
 refine⟨⟨a0,C⟩,eY.fin (n:=2) (eY.seg (o:=1) (n:=1) (eY.seg (o:=0) (n:=1) (show eY (snap w) [] (cs.take 0)from by simpa using eY.nil) B) D) I,⟨k0,k1,trivial⟩,λb G=>?_⟩
 have S:=O b G;have T:=Q b G;show cm.wt a0+cm.wt C+1<=_;simp only[List.map_cons,List.map_nil,List.sum_cons,List.sum_nil];omega
instance XB:Reads Tryz.prog 46 (Sl Var):=Reads.sl (e:=116) Tryz.underlying46 (by kernel_rfl) (by decide)
instance Xp:Reads Tryz.prog 114 Assign:=by
 refine Reads.st Tryz.underlying114 (by kernel_rfl) rfl ?_
 intro H enc w base spare held u cs l I h;simp only[List.mapM_cons,List.mapM_nil,Option.pure_def,Option.bind_eq_bind,ζg,ζa]at h;obtain⟨z,h0,J,⟨A,h1,L,rfl,rfl⟩,rfl⟩:=h;obtain⟨a0,B,k0,O⟩:=Reads.rd (P:=Tryz.prog) (t:=3) (α:=Int) (d:=z.1) (ps:=z.2) h0;rw[show Tryz.prog.cellsOf 3=1 from by kernel_rfl]at B
 obtain⟨C,D,k1,Q⟩:=Reads.rd (P:=Tryz.prog) (t:=3) (α:=Int) (d:=A.1) (ps:=A.2) h1;rw[show Tryz.prog.cellsOf 3=1 from by kernel_rfl]at D
 refine⟨⟨a0,C⟩,eY.fin (n:=2) (eY.seg (o:=1) (n:=1) (eY.seg (o:=0) (n:=1) (show eY (snap w) [] (cs.take 0)from by simpa using eY.nil) B) D) I,⟨k0,k1,trivial⟩,λb G=>?_⟩
 have S:=O b G;have T:=Q b G;show cm.wt a0+cm.wt C+1<=_;simp only[List.map_cons,List.map_nil,List.sum_cons,List.sum_nil];omega
instance Xw:Reads Tryz.prog 49 (Sl Assign):=Reads.sl (e:=114) Tryz.underlying49 (by kernel_rfl) (by decide)
instance XC:Reads Tryz.prog 51 Event:=by
 refine Reads.st Tryz.underlying51 (by kernel_rfl) rfl ?_
 intro H enc w base spare held z cs l U h;simp only[List.mapM_cons,List.mapM_nil,Option.pure_def,Option.bind_eq_bind,ζg,ζa]at h;obtain⟨A,h0,W,⟨B,h1,X,⟨x2,Y,Z,⟨C,h3,aa,⟨x4,h4,ab,rfl,rfl⟩,rfl⟩,rfl⟩,rfl⟩,rfl⟩:=h;obtain⟨a0,D,k0,b0⟩:=Reads.rd (P:=Tryz.prog) (t:=3) (α:=Int) (d:=A.1) (ps:=A.2) h0;rw[show Tryz.prog.cellsOf 3=1 from by kernel_rfl]at D
 obtain⟨G,I,k1,b1⟩:=Reads.rd (P:=Tryz.prog) (t:=3) (α:=Int) (d:=B.1) (ps:=B.2) h1;rw[show Tryz.prog.cellsOf 3=1 from by kernel_rfl]at I
 obtain⟨J,L,k2,b2⟩:=Reads.rd (P:=Tryz.prog) (t:=3) (α:=Int) (d:=x2.1) (ps:=x2.2) Y;rw[show Tryz.prog.cellsOf 3=1 from by kernel_rfl]at L
 obtain⟨O,Q,k3,b3⟩:=Reads.rd (P:=Tryz.prog) (t:=3) (α:=Int) (d:=C.1) (ps:=C.2) h3;rw[show Tryz.prog.cellsOf 3=1 from by kernel_rfl]at Q
 obtain⟨S,T,k4,b4⟩:=Reads.rd (P:=Tryz.prog) (t:=49) (α:=(Sl Assign)) (d:=x4.1) (ps:=x4.2) h4;rw[show Tryz.prog.cellsOf 49=1 from by kernel_rfl]at T
 refine⟨⟨a0,G,J,O,S⟩,eY.fin (n:=5) (eY.seg (o:=4) (n:=1) (eY.seg (o:=3) (n:=1) (eY.seg (o:=2) (n:=1) (eY.seg (o:=1) (n:=1) (eY.seg (o:=0) (n:=1) (show eY (snap w) [] (cs.take 0)from by simpa using eY.nil) D) I) L) Q) T) U,⟨k0,k1,k2,k3,k4,trivial⟩,λb u=>?_⟩
 have w0:=b0 b u;have w1:=b1 b u;have w2:=b2 b u;have w3:=b3 b u;have w4:=b4 b u;show cm.wt a0+cm.wt G+cm.wt J+cm.wt O+cm.wt S+1<=_;simp only[List.map_cons,List.map_nil,List.sum_cons,List.sum_nil];omega
instance Xt:Reads Tryz.prog 45 (Sl Event):=Reads.sl (e:=51) Tryz.underlying45 (by kernel_rfl) (by decide)
instance Xz:Reads Tryz.prog 48 bT:=by
 refine Reads.st Tryz.underlying48 (by kernel_rfl) rfl ?_
 intro H enc w base spare held z cs l L h;simp only[List.mapM_cons,List.mapM_nil,Option.pure_def,Option.bind_eq_bind,ζg,ζa]at h;obtain⟨A,h0,O,⟨B,h1,Q,⟨x2,S,T,rfl,rfl⟩,rfl⟩,rfl⟩:=h;obtain⟨a0,C,k0,U⟩:=Reads.rd (P:=Tryz.prog) (t:=9) (α:=ByteArray) (d:=A.1) (ps:=A.2) h0;rw[show Tryz.prog.cellsOf 9=1 from by kernel_rfl]at C
 obtain⟨D,G,k1,W⟩:=Reads.rd (P:=Tryz.prog) (t:=46) (α:=(Sl Var)) (d:=B.1) (ps:=B.2) h1;rw[show Tryz.prog.cellsOf 46=1 from by kernel_rfl]at G
 obtain⟨I,J,X,Y⟩:=Reads.rd (P:=Tryz.prog) (t:=45) (α:=(Sl Event)) (d:=x2.1) (ps:=x2.2) S;rw[show Tryz.prog.cellsOf 45=1 from by kernel_rfl]at J
 refine⟨⟨a0,D,I⟩,eY.fin (n:=3) (eY.seg (o:=2) (n:=1) (eY.seg (o:=1) (n:=1) (eY.seg (o:=0) (n:=1) (show eY (snap w) [] (cs.take 0)from by simpa using eY.nil) C) G) J) L,⟨k0,k1,X,trivial⟩,λb u=>?_⟩
 have Z:=U b u;have w1:=W b u;have w2:=Y b u;show cm.wt a0+cm.wt D+cm.wt I+1<=_;simp only[List.map_cons,List.map_nil,List.sum_cons,List.sum_nil];omega
instance XD:Reads Tryz.prog 22 (Sl bT):=Reads.sl (e:=48) Tryz.underlying22 (by kernel_rfl) (by decide)
instance Xy:Reads Tryz.prog 24 Trace:=by
 refine Reads.st Tryz.underlying24 (by kernel_rfl) rfl ?_
 intro H enc w base spare held u cs l B h;simp only[List.mapM_cons,List.mapM_nil,Option.pure_def,Option.bind_eq_bind,ζg,ζa]at h;obtain⟨z,h0,C,rfl,rfl⟩:=h;obtain⟨a0,A,k0,D⟩:=Reads.rd (P:=Tryz.prog) (t:=22) (α:=(Sl bT)) (d:=z.1) (ps:=z.2) h0;rw[show Tryz.prog.cellsOf 22=1 from by kernel_rfl]at A
 refine⟨⟨a0⟩,eY.fin (n:=1) (eY.seg (o:=0) (n:=1) (show eY (snap w) [] (cs.take 0)from by simpa using eY.nil) A) B,⟨k0,trivial⟩,λb G=>?_⟩
 have I:=D b G;show cm.wt a0+1<=_;simp only[List.map_cons,List.map_nil,List.sum_cons,List.sum_nil];omega
instance Xs:Reads Tryz.prog 25 (Sl Int):=Reads.sl (e:=3) Tryz.underlying25 (by kernel_rfl) (by decide)
theorem Uq:∀B,rK Tryz.prog 28 Pred B:=by
 intro B
 induction B using Nat.strongRecOn with
 | ind B X=>
 cases B with
 | zero=>intro H enc w base spare held cs d ps h;simp[DataW.trod]at h
 | succ B=>
 refine rK.st Tryz.underlying28 (by kernel_rfl) ?_
 intro H enc w base spare held cs l Y h;simp only[List.mapM_cons,List.mapM_nil,Option.pure_def,Option.bind_eq_bind,ζg,ζa]at h;obtain⟨A,h0,Z,⟨C,h1,aa,⟨x2,h2,ab,⟨D,h3,ad,⟨x4,h4,ae,⟨x5,h5,af,rfl,rfl⟩,rfl⟩,rfl⟩,rfl⟩,rfl⟩,rfl⟩:=h;obtain⟨a0,G,k0,b0⟩:=Reads.rd (P:=Tryz.prog) (t:=3) (α:=Int) (d:=A.1) (ps:=A.2) h0;rw[show Tryz.prog.cellsOf 3=1 from by kernel_rfl]at G
 obtain⟨I,J,k1,b1⟩:=Reads.rd (P:=Tryz.prog) (t:=3) (α:=Int) (d:=C.1) (ps:=C.2) h1;rw[show Tryz.prog.cellsOf 3=1 from by kernel_rfl]at J
 obtain⟨L,O,k2,b2⟩:=Reads.rd (P:=Tryz.prog) (t:=3) (α:=Int) (d:=x2.1) (ps:=x2.2) h2;rw[show Tryz.prog.cellsOf 3=1 from by kernel_rfl]at O
 obtain⟨Q,S,k3,b3⟩:=Reads.rd (P:=Tryz.prog) (t:=3) (α:=Int) (d:=D.1) (ps:=D.2) h3;rw[show Tryz.prog.cellsOf 3=1 from by kernel_rfl]at S
 obtain⟨T,U,k4,b4⟩:=Reads.rd (P:=Tryz.prog) (t:=9) (α:=ByteArray) (d:=x4.1) (ps:=x4.2) h4;rw[show Tryz.prog.cellsOf 9=1 from by kernel_rfl]at U
 obtain⟨W,z,k5,b5⟩:=rK.Wg (t:=26) (e:=28) (α:=Pred) Tryz.underlying26 (by kernel_rfl) (by decide) (λg hg=>X g (by omega)) (show _=some (x5.1,x5.2)from h5)
 rw[show Tryz.prog.cellsOf 26=1 from by kernel_rfl]at z
 rw[uI rfl,<-Pred.ei]at z;refine⟨⟨a0,I,L,Q,T,W⟩,eY.fin (n:=6) (eY.seg (o:=5) (n:=1) (eY.seg (o:=4) (n:=1) (eY.seg (o:=3) (n:=1) (eY.seg (o:=2) (n:=1) (eY.seg (o:=1) (n:=1) (eY.seg (o:=0) (n:=1) (show eY (snap w) [] (cs.take 0)from by simpa using eY.nil) G) J) O) S) U) z) Y,⟨k0,k1,k2,k3,k4,Pred.WZ _ k5,trivial⟩,λb u=>?_⟩
 have w0:=b0 b u;have w1:=b1 b u;have w2:=b2 b u;have w3:=b3 b u;have w4:=b4 b u;have w5:=b5 b u;show cm.wt a0+cm.wt I+cm.wt L+cm.wt Q+cm.wt T+Pred.Qz W+1<=_;rw[Pred.Wk];simp only[List.map_cons,List.map_nil,List.sum_cons,List.sum_nil];omega
instance Xx:Reads Tryz.prog 28 Pred:=Reads.of Tryz.underlying28 (by kernel_rfl) rfl Uq
end Go.VE.YtlmckmkfopljoaaGreatDoor
namespace Go.VE
end Go.VE
namespace Go.VE
abbrev JP {α:Type} (m:Option α):Prop:=Wp m λ_=>True
theorem JP.get {α:Type} {m:Option α} (h:JP m):∃a,m=some a:=let ⟨a,e,_⟩:=h;⟨a,e⟩
theorem JP.ok {m:Option Bool} (h:JP m):m=some (m.getD false):=by obtain⟨a,e,_⟩:=h;rw[e];rfl
def Small (t:Trace):Prop:=t.procs.l.length<1073741824/\∀p∈t.procs.l,p.events.l.length<1073741824/\p.vars.l.length<1073741824/\p.name.size<1073741824/\(∀v∈p.vars.l,v.name.size<1073741824)/\∀e∈p.events.l,e.assign.l.length<1073741824
section
theorem K0 {s:Sl Event} {p:Event->Option Bool} {f:Event->Bool} (hp:∀x∈s.l,p x=some (f x)) (B:s.l.length<1073741824):fN s p=some (place f s.l):=
 uz hp (by omega) (λi=>rfl)
theorem MB {s:Sl bT} {p:bT->Option Bool} {f:bT->Bool} (hp:∀x∈s.l,p x=some (f x)) (B:s.l.length<1073741824):gi s p=some (place f s.l):=
 uz hp (by omega) (λi=>rfl)
theorem CG {s:Sl Var} {p:Var->Option Bool} {f:Var->Bool} (hp:∀x∈s.l,p x=some (f x)) (B:s.l.length<1073741824):eU s p=some (place f s.l):=
 uz hp (by omega) (λi=>rfl)
theorem Jp {s:Sl Assign} {p:Assign->Option Bool} {f:Assign->Bool} (hp:∀x∈s.l,p x=some (f x)) (B:s.l.length<1073741824):fq s p=some (place f s.l):=
 uz hp (by omega) (λi=>rfl)
theorem zw {s:Sl Event} {p:Event->Option Bool} {f:Event->Bool} (hp:∀x∈s.l,p x=some (f x)) (B:s.l.length<1073741824):gU s p=some (s.l.any f):=by
 unfold gU;rw[K0 hp B,ζb,uC]
theorem Ah {s:Sl bT} {p:bT->Option Bool} {f:bT->Bool} (hp:∀x∈s.l,p x=some (f x)) (B:s.l.length<1073741824):gq s p=some (s.l.any f):=by
 unfold gq;rw[MB hp B,ζb,uC]
theorem By {s:Sl Var} {p:Var->Option Bool} {f:Var->Bool} (hp:∀x∈s.l,p x=some (f x)) (B:s.l.length<1073741824):gC s p=some (s.l.any f):=by
 unfold gC;rw[CG hp B,ζb,uC]
theorem Ef {s:Sl Assign} {p:Assign->Option Bool} {f:Assign->Bool} (hp:∀x∈s.l,p x=some (f x)) (B:s.l.length<1073741824):gI s p=some (s.l.any f):=by
 unfold gI;rw[Jp hp B,ζb,uC]
theorem o4 (x lo hi:Int):nu x lo hi=some (decide (lo<=x)&&decide (x<=hi)):=by
 unfold nu;rw[mK];rfl
theorem KG {s:ByteArray} {i:Nat} (h:i<s.size):∃x,kR s (i:Int)=some x:=by
 unfold kR;rw[if_pos (by omega)]
 exact⟨_,by rw[show (s[(i:Int).toNat]?)=some s[i]from by simp[h]];rfl⟩
def kL (n:Nat) (p:Int) (e:Event):Prop:=e.kind=1\/((e.kind=2\/e.kind=3)/\0<=e.peer/\e.peer<n/\e.peer≠p/\0<=e.message/\e.message<=199)
end
end Go.VE
namespace Go.VE
def mh (t:Trace) (p k:Nat) (e:Event):Prop:=∃P,t.procs.l[p]? = some P/\P.events.l[k]? = some e
theorem tZ {p:Int} {x:aY×Event}:∀{es:List Event} {j:Int},x∈iC p j es↔∃k:Nat,es[k]? = some x.2/\x.1=⟨p,j+k+1⟩
 | [],j=>by simp[iC]
 | e::es,j=>by
  simp[iC,tZ ];constructor
  .rintro (rfl|⟨k,h1,B⟩)
   .exact⟨0,rfl,by simp⟩
   .exact⟨k+1,by grind,by grind⟩
  grind
theorem uM {x:aY×Event}:∀{ps:List bT} {i:Int},x∈fJ i ps↔∃(a k:Nat) (P:bT),ps[a]? = some P/\P.events.l[k]? = some x.2/\x.1=⟨i+a,k+1⟩
 | [],i=>by simp[fJ]
 | p::ps,i=>by
  simp only[fJ,List.mem_append,tZ,uM ];constructor
  .rintro (⟨k,h1,B⟩|⟨a,k,P,h1,B,D⟩)
   .exact⟨0,k,p,rfl,h1,by grind⟩
   .exact⟨a+1,k,P,by simp_all,B,by grind⟩
  grind
abbrev bU (t:Trace):List (aY×Event):=fJ 0 t.procs.l
theorem dM {t:Trace} {x:aY×Event}:x∈bU t↔∃p k:Nat,mh t p k x.2/\x.1=⟨p,k+1⟩:=by
 rw[uM];constructor
 .rintro⟨a,k,P,h1,u,w⟩;exact⟨a,k,⟨P,h1,u⟩,by grind⟩
 .rintro⟨a,k,⟨P,h1,u⟩,w⟩;grind
theorem y7 {t:Trace} {x y:aY×Event} (B:x∈bU t) (D:y∈bU t) (h:x.1=y.1):x=y:=by
 obtain⟨p,k,⟨P,u,hk⟩,e1⟩:=dM.1 B;obtain⟨q,j,⟨Q,w,z⟩,e2⟩:=dM.1 D
 grind
theorem sY {t:Trace} (hS:Small t):ja t=some (bU t):=by
 unfold ja;rw[if_pos];simp[oD];exact⟨by have:=hS.1;omega,λp u=>by have:=(hS.2 p u).1;omega⟩
def sH (t:Trace) (p m to:Int):Bool:=match t.procs.l[p.toNat]? with
 | some P=>P.events.l.any λe=>e.kind==2&&e.message==m&&e.peer==to
 | none=>false
theorem Pz {t:Trace} (hS:Small t) {p:Int} (h0:0<=p) (h1:p<t.procs.l.length) (m to:Int):uf t p m to=some (sH t p m to):=by
 unfold uf;have u:p.toNat<t.procs.l.length:=by omega
 have w:=List.getElem_mem u;rw[UY h0,ζd u,ζb,zw (f:=λe=>e.kind==2&&e.message==m&&e.peer==to) (λe _=>by
  unfold qn;simp[mK]) (hS.2 _ w).1,ζb]
 unfold sH
 grind
theorem yV {t:Trace} {p:Nat} {m to:Int}:sH t p m to=true↔∃k e,mh t p k e/\e.kind=2/\e.message=m/\e.peer=to:=by
 unfold sH mh;rw[show (p:Int).toNat=p from rfl]
 cases w:t.procs.l[p]? with
 | none=>simp
 | some P=>
  simp;constructor
  .rintro⟨e,u,h⟩;obtain⟨k,hk⟩:=List.getElem?_of_mem u
   grind
  grind
def ag (A:cE 200 bK) (m:Int):bK:=(A.at m).getD default
theorem Md (A:cE 200 bK) {m:Int} (h0:0<=m) (h1:m<=199):A.at m=some (ag A m):=by
 have:m.toNat<A.l.length:=by rw[A.len];omega
 unfold ag cE.at
 grind
theorem qU (A:cE 200 bK) {m m':Int} (x:bK) (h0:0<=m) (h1:m<=199) (B:0<=m'):ag (A.set m x) m'=if m'=m then x else ag A m':=by
 have:m.toNat<A.l.length:=by rw[A.len];omega
 unfold ag cE.at cE.set
 grind
theorem Nd {m:Int} (h0:0<=m) (h1:m<=199):ag (cE.Na 200 (⟨⟨0,0⟩,⟨0,0⟩⟩:bK)) m=⟨⟨0,0⟩,⟨0,0⟩⟩:=by
 unfold ag cE.at cE.Na
 grind
structure jN (t:Trace) (its:List (aY×Event)) (A:cE 200 bK):Prop where
 snd:∀x∈its,x.2.kind=2->(ag A x.2.message).from_=x.1
 rcv:∀x∈its,x.2.kind=3->(ag A x.2.message).to_=x.1/\sH t x.2.peer x.2.message x.1.proc=true
 fr:∀m,0<=m->m<=199->(ag A m).from_.index=0\/∃e,((ag A m).from_,e)∈its/\e.kind=2/\e.message=m
 to:∀m,0<=m->m<=199->(ag A m).to_.index=0\/∃e,((ag A m).to_,e)∈its/\e.kind=3/\e.message=m
def Lo (a b:aY×Event):Prop:=a.1.proc<b.1.proc\/a.1.proc=b.1.proc/\a.1.index<b.1.index
theorem NH {p:Int}:∀{es:List Event} {j:Int},(iC p j es).Pairwise Lo
 | [],_=>List.Pairwise.nil
 | e::es,j=>by
  simp only[iC,List.pairwise_cons];refine⟨λb B=>?_,NH⟩
  obtain⟨k,_,D⟩:=tZ.1 B;refine .inr ⟨by rw[D],?_⟩
  grind
theorem Ht:∀{ps:List bT} {i:Int},(fJ i ps).Pairwise Lo
 | [],_=>List.Pairwise.nil
 | P::ps,i=>by
  simp only[fJ,List.pairwise_append];refine⟨NH,Ht,λa B b D=>.inl ?_⟩
  obtain⟨k,_,G⟩:=tZ.1 B;obtain⟨c,j,P,_,_,u⟩:=uM.1 D
  grind
theorem IS {t:Trace} {k:Nat} {x y:aY×Event} (B:(bU t)[k]? = some x) (D:y∈(bU t).take k):y.1≠x.1:=by
 obtain⟨h1,u⟩:=ζe.1 B;have w:((bU t).take k++(bU t).drop k).Pairwise Lo:=by rw[List.take_append_drop];exact Ht
 have:=(List.pairwise_append.1 w).2.2 y D x (by rw[List.drop_eq_getElem_cons h1,u];grind)
 unfold Lo at this
 grind
structure yj (t:Trace):Prop where
 snd:∀x∈bU t,∀y∈bU t,x.2.kind=2->y.2.kind=2->x.2.message=y.2.message->x.1=y.1
 rcv:∀x∈bU t,∀y∈bU t,x.2.kind=3->y.2.kind=3->x.2.message=y.2.message->x.1=y.1
 has:∀x∈bU t,x.2.kind=3->sH t x.2.peer x.2.message x.1.proc=true
theorem jN.z7 {t:Trace} {A:cE 200 bK} (h:jN t (bU t) A):yj t:=
 ⟨λx w y z B u C=>by rw[<-h.snd x w B,<-h.snd y z u,C],λx w y z B u C=>by rw[<-(h.rcv x w B).1,<-(h.rcv y z u).1,C],λx w k=>(h.rcv x w k).2⟩
theorem Dj {t:Trace} (hS:Small t) (hF:∀x∈bU t,kL t.procs.l.length x.1.proc x.2):Wp (eD t) λr=>(r.2.2=0->∃A,r.1=some A/\jN t (bU t) A)/\(yj t->r.2.2=0):=by
 unfold eD je;rw[ζb];unfold eD.E1;rw[sY hS,ζb];refine xP (λk A=>jN t ((bU t).take k) A) ⟨by simp,by simp,λm h0 h1=>.inl (by rw[Nd h0 h1]),λm h0 h1=>.inl (by rw[Nd h0 h1])⟩ ?_ ?_
 .intro k x A Z B;have G  := List.mem_of_getElem? Z;have S:(bU t).take (k+1)=(bU t).take k++[x]:=by rw[List.take_add_one,Z];rfl
  obtain⟨p,j,aa,ab⟩:=dM.1 G;have hf:=hF x G;unfold eD.jt;rw[cw];constructor
  .intro hk;have L:x.2.kind=2:=by grind
   have u:0<=x.2.message/\x.2.message<=199:=by
    rcases hf with h|⟨_,_,_,_,h⟩
    .omega
    simp_all
   rw[Md A u.1 u.2,ζb,cw];refine⟨λhg=>(bf _).2 ((bf _).2 ⟨λh=>(by cases h),λW=>?_⟩),λh0=>?_⟩
   .rcases B.fr _ u.1 u.2 with X|⟨e,O,T,U⟩
    .grind
    .exact absurd (W.snd _ (List.mem_of_mem_take O) x G T L U) (IS Z O)
   rw[ζb,bf,S];have old:∀y∈(bU t).take k,y.2.kind=2->y.2.message≠x.2.message:=λy hy w O=>by
    have:=B.snd y hy w;rw[O]at this;obtain⟨p',j',_,Q⟩:=dM.1 (List.mem_of_mem_take hy)
    grind
   have Y:∀y∈(bU t).take k,y.2.kind=2\/y.2.kind=3->0<=y.2.message:=λy hy w=>by
    rcases hF y (List.mem_of_mem_take hy)with h|⟨_,_,_,_,h,_⟩
    .omega
    simp_all
   refine⟨λy hy w=>?_,λy hy z=>?_,λm C I=>?_,λm C I=>?_⟩
   .rcases List.mem_append.1 hy with hy|hy
    .rw[qU A _ u.1 u.2 (Y y hy (.inl w)),if_neg (old y hy w)];exact B.snd y hy w
    .simp at hy;subst hy;rw[qU A _ u.1 u.2 u.1,if_pos rfl]
   .rcases List.mem_append.1 hy with hy|hy
    .rw[qU A _ u.1 u.2 (Y y hy (.inr z))];have:=B.rcv y hy z
     grind
    grind
   .rw[qU A _ u.1 u.2 C];split
    .rename_i e;exact .inr ⟨x.2,by simp,L,e.symm⟩
    .exact(B.fr m C I).imp (λh=>h) λ⟨e,h1,D⟩=>⟨e,List.mem_append_left _ h1,D⟩
   .rw[qU A _ u.1 u.2 C];have:=(B.to m C I).imp (λh=>h) λ⟨e,h1,D⟩=>(⟨e,List.mem_append_left [x] h1,D⟩:∃e,((ag A m).to_,e)∈(bU t).take k++[x]/\e.kind=3/\e.message=m)
    split
    .rename_i e;subst e;omega
    omega
  .intro hk;have L  := by simpa using hk
   rw[cw];constructor
   .intro hk;have J  := by simpa using hk
    have u:0<=x.2.message/\x.2.message<=199/\0<=x.2.peer/\x.2.peer<t.procs.l.length:=by
     rcases hf with h|⟨_,h1,D,_,h3,h4⟩
     .omega
     .exact⟨h3,h4,h1,D⟩
    rw[Md A u.1 u.2.1,ζb,cw];refine⟨λhg=>(bf _).2 ((bf _).2 ⟨λh=>(by cases h),λW=>?_⟩),λh0=>?_⟩
    .rcases B.to _ u.1 u.2.1 with X|⟨e,O,T,U⟩
     .simp[X]at hg
     .exact absurd (W.rcv _ (List.mem_of_mem_take O) x G T J U) (IS Z O)
    have h0:¬(ag A x.2.message).to_.index>0:=by simpa using h0
    rw[Pz hS u.2.2.1 u.2.2.2,ζb,cw];refine⟨λhs=>?_,λhs=>(bf _).2 ((bf _).2 ⟨λh=>(by cases h),λW=>by rw[W.has x G J]at hs;cases hs⟩)⟩
    rw[ζb,bf,S];have old:∀y∈(bU t).take k,y.2.kind=3->y.2.message≠x.2.message:=λy hy w O=>by
     have:=(B.rcv y hy w).1;rw[O]at this;rw[this]at h0;obtain⟨p',j',_,Q⟩:=dM.1 (List.mem_of_mem_take hy);rw[Q]at h0;exact h0 (by show (j':Int)+1>0;omega)
    have Y:∀y∈(bU t).take k,y.2.kind=2\/y.2.kind=3->0<=y.2.message:=λy hy w=>by
     rcases hF y (List.mem_of_mem_take hy)with h|⟨_,_,_,_,h,_⟩
     .omega
     .exact h
    refine⟨λy hy w=>?_,λy hy z=>?_,λm C I=>?_,λm C I=>?_⟩
    .rcases List.mem_append.1 hy with hy|hy
     .rw[qU A _ u.1 u.2.1 (Y y hy (.inl w))];have:=B.snd y hy w;split
      .rename_i e;rw[e]at this;exact this
      .exact this
     .simp at hy;subst hy;omega
    .rcases List.mem_append.1 hy with hy|hy
     .rw[qU A _ u.1 u.2.1 (Y y hy (.inr z)),if_neg (old y hy z)];exact B.rcv y hy z
     .simp at hy;subst hy;rw[qU A _ u.1 u.2.1 u.1,if_pos rfl];exact⟨rfl,hs⟩
    .rw[qU A _ u.1 u.2.1 C];have:=(B.fr m C I).imp (λh=>h) λ⟨e,h1,D⟩=>(⟨e,List.mem_append_left [x] h1,D⟩:∃e,((ag A m).from_,e)∈(bU t).take k++[x]/\e.kind=2/\e.message=m)
     split
     .rename_i e;subst e;exact this
     .exact this
    .rw[qU A _ u.1 u.2.1 C];split
     .rename_i e;exact .inr ⟨x.2,by simp,J,e.symm⟩
     .exact(B.to m C I).imp (λh=>h) λ⟨e,h1,D⟩=>⟨e,List.mem_append_left _ h1,D⟩
   .intro hk;have J  := by simpa using hk
    rw[bf,S];refine⟨λy hy w=>?_,λy hy z=>?_,λm C I=>?_,λm C I=>?_⟩
    .rcases List.mem_append.1 hy with hy|hy
     .exact B.snd y hy w
     .simp at hy;subst hy;exact absurd w L
    .rcases List.mem_append.1 hy with hy|hy
     .exact B.rcv y hy z
     .simp at hy;subst hy;exact absurd z J
    .exact(B.fr m C I).imp (λh=>h) λ⟨e,h1,D⟩=>⟨e,List.mem_append_left _ h1,D⟩
    .exact(B.to m C I).imp (λh=>h) λ⟨e,h1,D⟩=>⟨e,List.mem_append_left _ h1,D⟩
 .intro A hA;rw[List.take_length]at hA;exact(bf _).2 ⟨λ_=>⟨A,rfl,hA⟩,λ_=>rfl⟩
end Go.VE
namespace Go.VE
def iy (f:Nat->Bool) (k n:Nat):Bool:=(List.range' k (n-k)).any f
theorem Fh {f:Nat->Bool} {k n:Nat} (h:k<n):iy f k n=(f k||iy f (k+1) n):=by
 unfold iy;rw[show n-k=(n-(k+1))+1 from by omega,List.range'_succ];rfl
theorem Oq {f:Nat->Bool} {k n:Nat} (h:n<=k):iy f k n=false:=by
 unfold iy;rw[show n-k=0 from by omega];rfl
theorem GF {f:Nat->Bool} {k n:Nat}:iy f k n=true↔∃i,k<=i/\i<n/\f i=true:=by
 unfold iy;rw[List.any_eq_true];constructor
 .rintro⟨i,hi,u⟩;rw[List.mem_range'_1]at hi;exact⟨i,hi.1,by omega,u⟩
 .rintro⟨i,h1,w,u⟩;exact⟨i,by rw[List.mem_range'_1];omega,u⟩
theorem Ew {step:Int->Option (Fw Int Unit Unit)} {n:Nat} (f:Nat->Bool) (D:n<9223372036854775807) (h1:∀i:Nat,i<n->step i=some (if f i then .r ()else .n (IntKind.wrap .i64 ((i:Int)+1)))) (B:step (n:Int)=some (.x ())) :
 ∀m k:Nat,k+m=n->bV step (k:Int)=some (if iy f k n then .r ()else .x ()):=by
 intro m
 induction m with
 | zero=>
  intro k hk;have:k=n:=by omega
  subst this;rw[eH,B,Oq (Nat.le_refl _)];rfl
 | succ m u=>
  intro k hk;rw[eH,h1 k (by omega),Fh (by omega)]
  cases w:f k with
  | true=>rfl
  | false=>
   simp only[Bool.false_eq_true,if_false,ζb,Bool.false_or];rw[dn k (by omega)]
   exact u (k+1) (by omega)
def mD (g:Nat->Int) (k n:Nat):Int:=match (List.range' k (n-k)).find? λi => !(g i==0)with
 | some i=>g i
 | none=>0
theorem E6 {g:Nat->Int} {k n:Nat} (h:k<n):mD g k n=if g k=0 then mD g (k+1) n else g k:=by
 unfold mD;rw[show n-k=(n-(k+1))+1 from by omega,List.range'_succ,List.find?_cons]
 by_cases h0:g k=0
 .simp[h0]
 .rw[if_neg h0,show (!(g k==0))=true from by simp[h0]]
theorem Gv {g:Nat->Int} {k n:Nat} (h:n<=k):mD g k n=0:=by
 unfold mD;rw[show n-k=0 from by omega];rfl
theorem EG {g:Nat->Int} {n:Nat}:∀{m k:Nat},k+m=n->(mD g k n=0↔∀i,k<=i->i<n->g i=0):=by
 intro m
 induction m with
 | zero=>intro k hk;rw[Gv (by omega)];exact⟨λ_ i h1 u=>by omega,λ_=>rfl⟩
 | succ m w=>
  intro k hk;rw[E6 (by omega)]
  split
  .rename_i h0;rw[w (show k+1+m=n by omega)]
   constructor
   .intro h i h1 u
    by_cases e:i=k
    .subst e;exact h0
    .exact h i (by omega) u
   .intro h i h1 u;exact h i (by omega) u
  .rename_i h0;exact⟨λh=>absurd h h0,λh=>absurd (h k (Nat.le_refl _) (by omega)) h0⟩
theorem SC {step:Int->Option (Fw Int Unit Int)} {n:Nat} (g:Nat->Int) (D:n<9223372036854775807) (h1:∀i:Nat,i<n->step i=some (if g i=0 then .n (IntKind.wrap .i64 ((i:Int)+1))else .r (g i))) (B:step (n:Int)=some (.x ())) :
 ∀m k:Nat,k+m=n->bV step (k:Int)=some (if mD g k n=0 then .x ()else .r (mD g k n)):=by
 intro m
 induction m with
 | zero=>
  intro k hk;have:k=n:=by omega
  subst this;rw[eH,B,Gv (Nat.le_refl _)];rfl
 | succ m u=>
  intro k hk;rw[eH,h1 k (by omega),E6 (by omega)]
  by_cases h0:g k=0
  .simp only[h0,if_true,ζb];rw[dn k (by omega)]
   exact u (k+1) (by omega)
  .simp only[h0,if_false,ζb]
theorem yA {step:Int->Option (Fw Int Unit Int)} {n:Nat} (g:Nat->Int) (B:n<9223372036854775807) (h1:∀i:Nat,i<n->step i=some (if g i=0 then .n (IntKind.wrap .i64 ((i:Int)+1))else .r (g i))) (D:step (n:Int)=some (.x ())):bV step 0=some (if mD g 0 n=0 then .x ()else .r (mD g 0 n)):=SC g B h1 D n 0 (by omega)
theorem Cp {step:Int->Option (Fw Int Unit Unit)} {n:Nat} (f:Nat->Bool) (B:n<9223372036854775807) (h1:∀i:Nat,i<n->step i=some (if f i then .r ()else .n (IntKind.wrap .i64 ((i:Int)+1)))) (D:step (n:Int)=some (.x ())):bV step 0=some (if iy f 0 n then .r ()else .x ()):=Ew f B h1 D n 0 (by omega)
def xx (c:Int):Bool:=decide (c>=65)&&decide (c<=90)||decide (c>=97)&&decide (c<=122)
def CC (c:Int):Bool:=decide (c>=48)&&decide (c<=57)
theorem Du (c:Int):p9 c=some (xx c):=by
 unfold p9 xx;simp only[mK,lC,ζb];rw[Bool.or_comm]
theorem DM (c:Int):oN c=some (xx c):=by
 unfold oN xx;simp only[mK,lC,ζb]
theorem Mt (c:Int):tS c=some (CC c):=by
 unfold tS CC;simp only[mK,ζb]
theorem Mq (c:Int):sF c=some (CC c):=by
 unfold sF CC;simp only[mK,ζb]
def wN (s:ByteArray) (i:Nat):Int:=(kR s (i:Int)).getD 0
theorem C9 {s:ByteArray} {i:Nat} (h:i<s.size):kR s (i:Int)=some (wN s i):=by
 obtain⟨x,u⟩:=KG h;unfold wN;rw[u];rfl
def sA (s:ByteArray) (i:Nat):Bool := !xx (wN s i) && !CC (wN s i) && !(wN s i==95)
def lH (s:ByteArray):Bool:=decide (1<=s.size)&&decide (s.size<=16)&&xx (wN s 0) && !iy (sA s) 0 s.size
theorem KJ {s:ByteArray} {i:Nat} (h:i<s.size):gm.bu s (s.size:Int) i=some (if sA s i then .r ()else .n (IntKind.wrap .i64 ((i:Int)+1))):=by
 unfold gm.bu sA;rw[show decide ((i:Int)<(s.size:Int))=true from by simpa using h,bA,C9 h]
 simp only[ζb,Du,Mt];cases xx (wN s i) <;> cases CC (wN s i) <;> cases (wN s i==95) <;> rfl
theorem LI {s:ByteArray} {i:Nat} (h:i<s.size):gK.bu s i=some (if sA s i then .r ()else .n (IntKind.wrap .i64 ((i:Int)+1))):=by
 unfold gK.bu sA;rw[show decide ((i:Int)<((ByteArray.size s:Nat):Int))=true from by simpa using h,bA,C9 h]
 simp only[ζb,DM,Mq];cases xx (wN s i) <;> cases CC (wN s i) <;> cases (wN s i==95) <;> rfl
theorem toList_empty {s:ByteArray}:(ByteArray.toList s==ByteArray.toList ByteArray.empty)=decide (s.size=0):=by
 rw[Bool.eq_iff_iff,beq_iff_eq,decide_eq_true_eq];constructor
 .intro h;have h1:(ByteArray.toList s).length=s.size:=by rw[Go.ByteArray.toList_eq];simp
  rw[<-h1,h];rw[Go.ByteArray.toList_eq];rfl
 .intro h;have:s=ByteArray.empty:=by
   apply ByteArray.ext;exact Array.eq_empty_of_size_eq_zero h
  rw[this]
theorem FA {s:ByteArray} (B:s.size<1073741824):gm s=some (lH s):=by
 unfold gm;rw[toList_empty];simp only[lC,ζb]
 by_cases h0:s.size=0
 .simp[h0,lH,a_]
 by_cases u:s.size<=16
 .have hc:(decide (s.size=0)||decide (((ByteArray.size s:Nat):Int)>16))=false:=by simp[h0];omega
  rw[hc,bE,show (0:Int)=((0:Nat):Int)from rfl,C9 (show 0<s.size by omega)]
  simp only[ζb,Du]
  cases w:xx (wN s 0)with
  | false=>simp[lH,w,a_]
  | true=>
   simp only[Bool.not_true,bE];unfold gm.W1;rw[Ew (n:=s.size) (sA s) (by omega) (λi hi=>KJ hi) (by unfold gm.bu;simp[a_]) s.size 0 (by omega)]
   have:lH s = !iy (sA s) 0 s.size:=by simp[lH,w,u];omega
   rw[this];cases iy (sA s) 0 s.size <;> rfl
 .have hc:(decide (s.size=0)||decide (((ByteArray.size s:Nat):Int)>16))=true:=by simp;omega
  rw[hc,bA];simp[lH,u,a_]
theorem Hv {s:ByteArray} (B:s.size<1073741824):gK s=some (lH s):=by
 unfold gK;simp only[lC,ζb]
 by_cases h0:s.size=0
 .simp[h0,lH,a_]
 by_cases u:s.size<=16
 .have hc:(decide (((ByteArray.size s:Nat):Int)<1)||decide (((ByteArray.size s:Nat):Int)>16))=false:=by simp;omega
  rw[hc,bE,show (0:Int)=((0:Nat):Int)from rfl,C9 (show 0<s.size by omega)]
  simp only[ζb,DM]
  cases w:xx (wN s 0)with
  | false=>simp[lH,w,a_]
  | true=>
   simp only[Bool.not_true,bE];unfold gK.W1;rw[show (1:Int)=((1:Nat):Int)from rfl,Ew (n:=s.size) (sA s) (by omega) (λi hi=>LI hi) (by unfold gK.bu;simp[a_]) (s.size-1) 1 (by omega)]
   have z:sA s 0=false:=by simp[sA,w]
   have:lH s = !iy (sA s) 1 s.size:=by
    have h1:=Fh (f:=sA s) (show 0<s.size by omega)
    rw[z]at h1;simp[lH,w,u,h1];omega
   rw[this];cases iy (sA s) 1 s.size <;> rfl
 .have hc:(decide (((ByteArray.size s:Nat):Int)<1)||decide (((ByteArray.size s:Nat):Int)>16))=true:=by simp;omega
  rw[hc,bA];simp[lH,u,a_]
end Go.VE
namespace Go.VE
def fO {α:Type} (l:List α) (f:α->Bool) (i:Nat):Bool:=match l[i]? with|some y=>f y|none=>false
theorem AO {α:Type} {l:List α} {f:α->Bool} {i:Nat} (h:i<l.length):fO l f i=f l[i]:=by unfold fO;rw[ζd h]
theorem Cx {α:Type} {l:List α} {f:α->Bool} {p:Nat}:(l.take p).any f=iy (fO l f) 0 p:=by
 rw[Bool.eq_iff_iff,List.any_eq_true,GF];constructor
 .rintro⟨x,w,u⟩;obtain⟨i,hi⟩:=List.getElem?_of_mem w;have z:=(ζe.1 hi).1;rw[List.length_take]at z;rw[List.getElem?_take,if_pos (by omega)]at hi
  exact⟨i,Nat.zero_le _,by omega,by unfold fO;rw[hi];exact u⟩
 .rintro⟨i,_,hi,u⟩;unfold fO at u;split at u
  .rename_i y A;exact⟨y,List.mem_of_getElem? (i:=i) (by rw[List.getElem?_take,if_pos hi];exact A),u⟩
  .cases u
def rA (a b:ByteArray):Bool:=ByteArray.toList a==ByteArray.toList b
def UJ:Bool->Bool->Bool->Int
 | true,false,true=>0
 | true,false,false=>2
 | _,_,_=>13
def uq (P:bT) (i:Nat):Int:=match P.vars.l[i]? with
 | some v=>UJ (lH v.name) (iy (fO P.vars.l λw=>rA w.name v.name) 0 i) (decide (v.init_>=-1073741824)&&decide (v.init_<=1073741824))
 | none=>0
def si (t:Trace) (p:Nat):Int:=match t.procs.l[p]? with
 | some P=>if lH P.name && !iy (fO t.procs.l λy=>rA y.name P.name) 0 p then
  (if P.vars.l.length>8 then 5 else if mD (uq P) 0 P.vars.l.length=0 then(if P.events.l.length>64 then 5 else 0)else mD (uq P) 0 P.vars.l.length)else 13
 | none=>0
theorem Fj {P:bT} {i:Nat} (h:i<P.vars.l.length):uq P i=UJ (lH P.vars.l[i].name) (iy (fO P.vars.l λw=>rA w.name P.vars.l[i].name) 0 i) (decide (P.vars.l[i].init_>=-1073741824)&&decide (P.vars.l[i].init_<=1073741824)):=by
 unfold uq;rw[ζd h]
theorem EY (n:Int):qa n=some (decide (n>=-1073741824)&&decide (n<=1073741824)):=by
 unfold qa;rw[mK];rfl
theorem Qh {t:Trace} (hS:Small t) {p:Nat} (hp:p<t.procs.l.length):eE t p=some (si t p):=by
 have U:=hS.2 _ (List.getElem_mem hp);have h1:=hS.1;unfold eE si;rw[bQ hp,ζb,ζd hp];generalize W:t.procs.l[p]=P at *;obtain⟨S,X,O,u,_⟩:=U;rw[FA O,ζb];obtain⟨x,Y,D⟩:=uF t.procs p (by omega)
 have G:gq x (λz=>jy z P)=some (iy (fO t.procs.l λy=>rA y.name P.name) 0 p):=by
  rw[Ah (p:=λz=>jy z P) (f:=λy=>rA y.name P.name) (λy _=>rfl) (by rw[D,List.length_take];omega),D,Cx]
 rw[Y,ζb,G,ζb];dsimp only
 cases hn:lH P.name with
 | false=>simp[a_]
 | true=>
  rw[bA,ζb,Bool.true_and]
  cases hd:iy (fO t.procs.l λy=>rA y.name P.name) 0 p with
  | true=>simp[a_]
  | false=>
   rw[bE];simp only[Bool.not_false,if_true]
   by_cases T:P.vars.l.length>8
   .rw[show decide (len P.vars>8)=true from by simp[len];omega,bA,if_pos T]
   .rw[show decide (len P.vars>8)=false from by simp[len];omega,bE,if_neg T]
    unfold eE.W1;rw[yA (n:=P.vars.l.length) (uq P) (by omega) (λi hi=>?_) (by unfold eE.bu;simp[a_,len])]
    .by_cases L:mD (uq P) 0 P.vars.l.length=0
     .rw[if_pos L,if_pos L];show a_ (decide (len P.events>64)) (some 5) (some 0)=_;rw[tC];simp only[len,decide_eq_true_eq]
      by_cases I:P.events.l.length>64
      .rw[if_pos I,if_pos (by omega)]
      .rw[if_neg I,if_neg (by omega)]
     .rw[if_neg L,if_neg L];rfl
    .unfold eE.bu;rw[Fj hi,show decide ((i:Int)<len P.vars)=true from by simp[len];exact hi,bA,bQ hi,ζb]
     have hv:=u _ (List.getElem_mem hi);obtain⟨y,Z,J⟩:=uF P.vars i (by omega)
     have Q:gC y (λz=>jA z P.vars.l[i])=some (iy (fO P.vars.l λw=>rA w.name P.vars.l[i].name) 0 i):=by
      rw[By (p:=λz=>jA z P.vars.l[i]) (f:=λw=>rA w.name P.vars.l[i].name) (λw _=>rfl) (by rw[J,List.length_take];omega),J,Cx]
     rw[FA hv,ζb,Z,ζb,Q,ζb,o4];have hr:(decide (-1073741824<=P.vars.l[i].init_)&&decide (P.vars.l[i].init_<=1073741824))=(decide (P.vars.l[i].init_>=-1073741824)&&decide (P.vars.l[i].init_<=1073741824)):=rfl;rw[hr];generalize lH P.vars.l[i].name=A;generalize iy (fO P.vars.l λw=>rA w.name P.vars.l[i].name) 0 i=B
     generalize (decide (P.vars.l[i].init_>=-1073741824)&&decide (P.vars.l[i].init_<=1073741824))=C;cases A <;> cases B <;> cases C <;> rfl
theorem OT {t:Trace} (hS:Small t) {p:Nat} (hp:p<t.procs.l.length):dY t p=some (si t p):=by
 have Q:=hS.2 _ (List.getElem_mem hp);have h1:=hS.1;unfold dY si;rw[bQ hp,ζb,ζd hp];generalize S:t.procs.l[p]=P at *;obtain⟨L,T,J,u,_⟩:=Q;rw[Hv J,ζb];dsimp only
 cases X:lH P.name with
 | false=>simp[a_]
 | true=>
  rw[bA,Bool.true_and];unfold dY.W1;rw[Cp (n:=p) (fO t.procs.l λy=>rA y.name P.name) (by omega) (λi hi=>?_) (by unfold dY.bu;simp[a_])]
  .cases hd:iy (fO t.procs.l λy=>rA y.name P.name) 0 p with
   | true=>rfl
   | false=>
    simp only[Bool.not_false,if_true];show a_ (decide (len P.vars>8)) (some 5) (dY.W2 0 P)=_
    by_cases O:P.vars.l.length>8
    .rw[show decide (len P.vars>8)=true from by simp[len];omega,bA,if_pos O]
    .rw[show decide (len P.vars>8)=false from by simp[len];omega,bE,if_neg O]
     unfold dY.W2;rw[yA (n:=P.vars.l.length) (uq P) (by omega) (λi hi=>?_) (by unfold dY.b9;simp[a_,len])]
     .by_cases I:mD (uq P) 0 P.vars.l.length=0
      .rw[if_pos I,if_pos I];show a_ (decide (len P.events>64)) (some 5) (some 0)=_;rw[tC];simp only[len,decide_eq_true_eq]
       by_cases z:P.events.l.length>64
       .rw[if_pos z,if_pos (by omega)]
       .rw[if_neg z,if_neg (by omega)]
      .rw[if_neg I,if_neg I];rfl
     .unfold dY.b9;rw[Fj hi,show decide ((i:Int)<len P.vars)=true from by simp[len];exact hi,bA,bQ hi,ζb]
      rw[Hv (u _ (List.getElem_mem hi)),ζb];have U:dY.W3 i 0 P=if iy (fO P.vars.l λw=>rA w.name P.vars.l[i].name) 0 i then some (.r 13)else(if decide (P.vars.l[i].init_>=-1073741824)&&decide (P.vars.l[i].init_<=1073741824)then some (.n (IntKind.wrap .i64 ((i:Int)+1)))else some (.r 2)):=by
       unfold dY.W3;rw[Cp (n:=i) (fO P.vars.l λw=>rA w.name P.vars.l[i].name) (by omega) (λj W=>?_) (by unfold dY.fe;simp[a_])]
       .cases iy (fO P.vars.l λw=>rA w.name P.vars.l[i].name) 0 i with
        | true=>rfl
        | false=>
         show (idx P.vars (i:Int)).bind _=_;rw[bQ hi,ζb,EY,ζb];cases (decide (P.vars.l[i].init_>=-1073741824)&&decide (P.vars.l[i].init_<=1073741824)) <;> rfl
       .unfold dY.fe;have D:j<P.vars.l.length:=by omega
        rw[show decide ((j:Int)<(i:Int))=true from by simpa using W,bA,bQ D,ζb,bQ hi,ζb,AO D,tC];rfl
      rw[U];generalize lH P.vars.l[i].name=A;generalize iy (fO P.vars.l λw=>rA w.name P.vars.l[i].name) 0 i=B
      generalize (decide (P.vars.l[i].init_>=-1073741824)&&decide (P.vars.l[i].init_<=1073741824))=C;cases A <;> cases B <;> cases C <;> rfl
  .unfold dY.bu;have G:i<t.procs.l.length:=by omega
   rw[show decide ((i:Int)<(p:Int))=true from by simpa using hi,bA,bQ G,ζb,AO G,tC];rfl
end Go.VE
namespace Go.VE
def HL (n:Nat) (p:Int) (e:Event):Bool:=if e.kind==1 then e.peer==0&&e.message==0 else(e.kind==2||e.kind==3)&&(decide (0<=e.peer)&&decide (e.peer<n)) && !(e.peer==p)&&(decide (0<=e.message)&&decide (e.message<=199))
theorem My {t:Trace} (hS:Small t) (p:Int) (e:Event):ij t p e=some (HL t.procs.l.length p e):=by
 have h1:=hS.1;have w:IntKind.wrap .i64 (len t.procs-1)=len t.procs-1:=eN _ (by simp[len];omega) (by simp[len];omega)
 have u:∀b:Bool,ij.J1 p b t e=some (b&&(decide (0<=e.peer)&&decide (e.peer<t.procs.l.length)) && !(e.peer==p)&&(decide (0<=e.message)&&decide (e.message<=199))):=by
  intro b;unfold ij.J1;simp only[o4,w,ζb];have:decide (e.peer<=len t.procs-1)=decide (e.peer<t.procs.l.length):=by congr 1;apply propext;simp[len];omega
  rw[this];generalize (decide (0<=e.peer)&&decide (e.peer<(t.procs.l.length:Int)))=A;generalize (e.peer==p)=B;generalize (decide (0<=e.message)&&decide (e.message<=199))=C;cases b <;> cases A <;> cases B <;> cases C <;> rfl
 unfold ij HL;rw[u,u]
 cases h1:e.kind==1 with
 | true=>
  rw[bA];cases e.peer==0 <;> cases e.message==0 <;> rfl
 | false=>
  rw[bE];simp only[Bool.false_eq_true,if_false];cases z:e.kind==2 <;> simp[a_]
def C8 (P:bT) (k:Nat) (e:Event):Bool:=match k with|0=>false|j+1=>fO P.events.l (λx=>decide (e.time<x.time)) j
def t_ (P:bT) (k:Nat) (e:Event):Bool:=decide (e.time<0)||decide (e.time>1099511627776)||C8 P k e
def L_:Bool->Bool->Bool->Int
 | true,true,false=>0
 | true,true,true=>8
 | _,_,_=>2
def lB (P:bT) (e:Event) (i:Nat):Int:=match e.assign.l[i]? with
 | some a=>L_ (decide (0<=a.var)&&decide (a.var<P.vars.l.length)) (decide (a.value>=-1073741824)&&decide (a.value<=1073741824)) (iy (fO e.assign.l λb=>b.var==a.var) 0 i)
 | none=>0
theorem EH {P:bT} {e:Event} {i:Nat} (h:i<e.assign.l.length):lB P e i=L_ (decide (0<=e.assign.l[i].var)&&decide (e.assign.l[i].var<P.vars.l.length)) (decide (e.assign.l[i].value>=-1073741824)&&decide (e.assign.l[i].value<=1073741824)) (iy (fO e.assign.l λb=>b.var==e.assign.l[i].var) 0 i):=by
 unfold lB;rw[ζd h]
def nN (n:Nat) (P:bT) (p k:Nat) (e:Event):Int:=if HL n p e then(if t_ P k e then 11 else if e.assign.l.length>8 then 5 else mD (lB P e) 0 e.assign.l.length)else 3
theorem Kz {P:bT} {e:Event} (hv:P.vars.l.length<1073741824) (U:e.assign.l.length<1073741824):dH.W2 e.assign (len e.assign) 0 e P=some (mD (lB P e) 0 e.assign.l.length):=by
 have I:IntKind.wrap .i64 (len P.vars-1)=len P.vars-1:=eN _ (by simp[len];omega) (by simp[len];omega)
 unfold dH.W2;rw[yA (n:=e.assign.l.length) (lB P e) (by omega) (λi hi=>?_) (by unfold dH.b9;simp[a_,len])]
 .by_cases D:mD (lB P e) 0 e.assign.l.length=0
  .rw[if_pos D,D];rfl
  .rw[if_neg D];rfl
 .unfold dH.b9;obtain⟨y,J,u⟩:=uF e.assign i (by omega)
  have G:gI y (λz=>kq z e.assign.l[i])=some (iy (fO e.assign.l λb=>b.var==e.assign.l[i].var) 0 i):=by
   rw[Ef (p:=λz=>kq z e.assign.l[i]) (f:=λb=>b.var==e.assign.l[i].var) (λw _=>rfl) (by rw[u,List.length_take];omega),u,Cx]
  rw[EH hi,show decide ((i:Int)<len e.assign)=true from by simp[len];exact hi,bA,bQ hi,ζb,o4,o4,I,J,ζb,ζb,ζb,G,ζb]
  have h1:(decide (0<=e.assign.l[i].var)&&decide (e.assign.l[i].var<=len P.vars-1))=(decide (0<=e.assign.l[i].var)&&decide (e.assign.l[i].var<P.vars.l.length)):=by
   congr 2;apply propext;simp[len];omega
  have L:(decide (-1073741824<=e.assign.l[i].value)&&decide (e.assign.l[i].value<=1073741824))=(decide (e.assign.l[i].value>=-1073741824)&&decide (e.assign.l[i].value<=1073741824)):=rfl;rw[h1,L];generalize (decide (0<=e.assign.l[i].var)&&decide (e.assign.l[i].var<(P.vars.l.length:Int)))=A;generalize (decide (e.assign.l[i].value>=-1073741824)&&decide (e.assign.l[i].value<=1073741824))=B;generalize iy (fO e.assign.l λb=>b.var==e.assign.l[i].var) 0 i=C
  cases A <;> cases B <;> cases C <;> rfl
theorem Mz {t:Trace} (hS:Small t) {p k:Nat} {P:bT} {e:Event} (D:t.procs.l[p]? = some P) (J:P.events.l[k]? = some e):dH t ⟨p,k+1⟩ e=some (nN t.procs.l.length P p k e):=by
 obtain⟨L,w⟩:=ζe.1 D;obtain⟨hk,z⟩:=ζe.1 J;obtain⟨C,A,_,_,B⟩:=hS.2 P (w▸List.getElem_mem L);have O:=B e (z▸List.getElem_mem hk);have G:∀last:Int,((decide (0<=e.time)&&decide (e.time<=1099511627776)) && !decide (e.time<last))=(!t_ P k e) ->
  dH.J1 last t ⟨p,k+1⟩ e P=some (nN t.procs.l.length P p k e):=by
  intro last Q;unfold dH.J1 nN;rw[My hS,ζb,o4,ζb,Kz A O];dsimp only
  cases HL t.procs.l.length p e with
  | false=>rfl
  | true=>
   rw[bA,if_pos rfl];have:(a_ (decide (0<=e.time)&&decide (e.time<=1099511627776)) (some (decide (e.time<last))) (some true):Option Bool)=some (t_ P k e):=by
    have S:(!((decide (0<=e.time)&&decide (e.time<=1099511627776)) && !decide (e.time<last)))=t_ P k e:=by rw[Q,Bool.not_not]
    rw[<-S];cases (decide (0<=e.time)&&decide (e.time<=1099511627776)) <;> cases decide (e.time<last) <;> rfl
   rw[this,ζb]
   cases t_ P k e with
   | true=>rfl
   | false=>
    rw[bE];simp only[Bool.false_eq_true,if_false]
    by_cases I:e.assign.l.length>8
    .rw[show decide (len e.assign>8)=true from by simp[len];omega,bA,if_pos I]
    .rw[show decide (len e.assign>8)=false from by simp[len];omega,bE,if_neg I]
 unfold dH;dsimp only;rw[show idx t.procs (p:Int)=some P from by rw[lu];exact D,ζb]
 cases k with
 | zero=>
  rw[show decide (((0:Nat):Int)+1>1)=false from by decide,bE]
  refine G 0 ?_;simp only[t_,C8,Bool.or_false];rw[Bool.eq_iff_iff];simp only[ζh,Bool.not_eq_true',decide_eq_true_eq,decide_eq_false_iff_not,Bool.or_eq_false_iff];omega
 | succ j=>
  rw[show decide ((((j+1:Nat)):Int)+1>1)=true from by simp;omega,bA]
  have u:j<P.events.l.length:=by omega
  have T:IntKind.wrap .i64 ((((j+1:Nat)):Int)+1-2)=((j:Nat):Int):=by rw[eN _ (by omega) (by omega)];omega
  rw[T,bQ u,ζb];refine G _ ?_;simp only[t_,C8,AO u];rw[Bool.eq_iff_iff];simp only[ζh,Bool.not_eq_true',decide_eq_true_eq,decide_eq_false_iff_not,Bool.or_eq_false_iff];omega
end Go.VE
namespace Go.VE
theorem K5 {t:Trace} {p:Nat} {P:bT} {e:Event} (D:t.procs.l[p]? = some P) (J:e.assign.l.length<1073741824):dZ.W2 p 0 t e=some (mD (lB P e) 0 e.assign.l.length):=by
 unfold dZ.W2;rw[yA (n:=e.assign.l.length) (lB P e) (by omega) (λi hi=>?_) (by unfold dZ.b9;simp[a_,len])]
 .by_cases w:mD (lB P e) 0 e.assign.l.length=0
  .rw[if_pos w,w];rfl
  .rw[if_neg w];rfl
 .unfold dZ.b9;have z:dZ.W3 p i 0 t e e.assign.l[i]=if iy (fO e.assign.l λb=>b.var==e.assign.l[i].var) 0 i then some (.r 8)else some (.n (IntKind.wrap .i64 ((i:Int)+1))):=by
   unfold dZ.W3;rw[Cp (n:=i) (fO e.assign.l λb=>b.var==e.assign.l[i].var) (by omega) (λj G=>?_) (by unfold dZ.fe;simp[a_])]
   .cases iy (fO e.assign.l λb=>b.var==e.assign.l[i].var) 0 i <;> rfl
   .unfold dZ.fe;have u:j<e.assign.l.length:=by omega
    rw[show decide ((j:Int)<(i:Int))=true from by simpa using G,bA,bQ u,ζb,AO u,tC]
  rw[EH hi,show decide ((i:Int)<len e.assign)=true from by simp[len];exact hi,bA,bQ hi,ζb,z,EY,ζb,show idx t.procs (p:Int)=some P from by rw[lu];exact D,ζb]
  have h1:(a_ (decide (e.assign.l[i].var<0)) (some true) (some (decide (e.assign.l[i].var>=len P.vars))):Option Bool)=some (!(decide (0<=e.assign.l[i].var)&&decide (e.assign.l[i].var<P.vars.l.length))):=by
   rw[lC];congr 1;rw[Bool.eq_iff_iff];simp only[Bool.or_eq_true,Bool.not_eq_true',decide_eq_true_eq,Bool.and_eq_false_iff,decide_eq_false_iff_not,len];omega
  rw[h1,ζb];generalize (decide (0<=e.assign.l[i].var)&&decide (e.assign.l[i].var<(P.vars.l.length:Int)))=A;generalize (decide (e.assign.l[i].value>=-1073741824)&&decide (e.assign.l[i].value<=1073741824))=B;generalize iy (fO e.assign.l λb=>b.var==e.assign.l[i].var) 0 i=C
  cases A <;> cases B <;> cases C <;> rfl
theorem O6 {t:Trace} (hS:Small t) {p k:Nat} {P:bT} {e:Event} (J:t.procs.l[p]? = some P) (U:P.events.l[k]? = some e):dZ t p k=some (nN t.procs.l.length P p k e):=by
 obtain⟨S,w⟩:=ζe.1 J;obtain⟨hk,z⟩:=ζe.1 U;obtain⟨O,T,_,_,I⟩:=hS.2 P (w▸List.getElem_mem S);have W:=I e (z▸List.getElem_mem hk);have X:dZ.J1 p k t e=some (if t_ P k e then 11 else if e.assign.l.length>8 then 5 else mD (lB P e) 0 e.assign.l.length):=by
  unfold dZ.J1;rw[lC,ζb,K5 J W,show idx t.procs (p:Int)=some P from by rw[lu];exact J,ζb]
  have h1:(a_ (decide ((k:Int)>0)) ((idx P.events (IntKind.wrap .i64 ((k:Int)-1))).bind λL=>some (decide (e.time<L.time))) (some false):Option Bool)=some (C8 P k e):=by
   cases k with
   | zero=>rfl
   | succ j=>
    have u:j<P.events.l.length:=by omega
    rw[show decide ((((j+1:Nat)):Int)>0)=true from by simp only[decide_eq_true_eq];omega,bA,show IntKind.wrap .i64 ((((j+1:Nat)):Int)-1)=((j:Nat):Int)from by rw[eN _ (by omega) (by omega)];omega,bQ u,ζb]
    simp only[C8,AO u]
  rw[h1,ζb,lC,ζb];show a_ (t_ P k e) _ _=_
  cases t_ P k e with
  | true=>rfl
  | false=>
   rw[bE];simp only[Bool.false_eq_true,if_false]
   by_cases Q:e.assign.l.length>8
   .rw[show decide (len e.assign>8)=true from by simp[len];omega,bA,if_pos Q]
   .rw[show decide (len e.assign>8)=false from by simp[len];omega,bE,if_neg Q]
 unfold dZ nN;rw[show idx t.procs (p:Int)=some P from by rw[lu];exact J,ζb,show idx P.events (k:Int)=some e from by rw[lu];exact U,ζb,X]
 unfold HL
 cases h1:e.kind==1 with
 | true=>
  rw[bA];simp only[if_true];cases e.peer==0 <;> cases e.message==0 <;> rfl
 | false=>
  rw[bE];simp only[Bool.false_eq_true,if_false];have Y:(a_ (e.kind==2) (some false) (some (!(e.kind==3))):Option Bool)=some (!(e.kind==2||e.kind==3)):=by cases e.kind==2 <;> rfl
  rw[Y,ζb,lC,ζb,lC,ζb,lC,ζb,lC,ζb,lC,ζb];have h3:(((((!(e.kind==2||e.kind==3))||decide (e.peer<0))||decide (e.peer>=len t.procs))||(e.peer==p))||decide (e.message<0)||decide (e.message>199)) = !((e.kind==2||e.kind==3)&&(decide (0<=e.peer)&&decide (e.peer<t.procs.l.length)) && !(e.peer==p)&&(decide (0<=e.message)&&decide (e.message<=199))):=by
   generalize (e.kind==2||e.kind==3)=A;have a1:decide (e.peer<0) = !decide (0<=e.peer):=by rw[Bool.eq_iff_iff];simp
   have a2:decide (e.peer>=len t.procs) = !decide (e.peer<t.procs.l.length):=by rw[Bool.eq_iff_iff];simp[len]
   have a3:decide (e.message<0) = !decide (0<=e.message):=by rw[Bool.eq_iff_iff];simp
   have a4:decide (e.message>199) = !decide (e.message<=199):=by rw[Bool.eq_iff_iff];simp
   rw[a1,a2,a3,a4];generalize decide (0<=e.peer)=B;generalize decide (e.peer<(t.procs.l.length:Int))=C;generalize (e.peer==(p:Int))=D;generalize decide (0<=e.message)=F;generalize decide (e.message<=199)=G;cases A <;> cases B <;> cases C <;> cases D <;> cases F <;> cases G <;> rfl
  rw[h3];generalize ((e.kind==2||e.kind==3)&&(decide (0<=e.peer)&&decide (e.peer<(t.procs.l.length:Int))) && !(e.peer==(p:Int))&&(decide (0<=e.message)&&decide (e.message<=199)))=Z;cases Z <;> rfl
theorem Lx {n:Nat} {p:Int} {e:Event} (h:HL n p e=true):kL n p e:=by
 unfold HL at h;split at h
 .rename_i h1;left;simpa using h1
 .right;simp only[ζh,Bool.or_eq_true,beq_iff_eq,decide_eq_true_eq,Bool.not_eq_true',beq_eq_false_iff_ne,ne_eq]at h;obtain⟨⟨⟨h1,u⟩,z⟩,w⟩:=h;exact⟨h1,u.1,u.2,z,w.1,w.2⟩
theorem G8 {n:Nat} {P:bT} {p k:Nat} {e:Event} (h:nN n P p k e=0):kL n p e:=by
 unfold nN at h;split at h
 .rename_i h1;exact Lx h1
 .cases h
end Go.VE
namespace Go.VE
theorem Cb {α:Type} [DecidableEq α]:∀{l r:List α},l.Nodup->(∀x∈l,x∈r)->l.length<=r.length
 | [],_,_,_=>Nat.zero_le _
 | x::l,r,D,G=>by
  have B:=List.nodup_cons.1 D;have:=Cb  (r:=r.erase x) B.2 λy u=>(List.mem_erase_of_ne (by grind)).2 (G y (List.mem_cons_of_mem _ u))
  grind
section
variable {κ:Type} [DecidableEq κ]
theorem Ds {ν:Type} {k:κ}:∀{m:Mo κ ν},k∉m.map (·.1)->ue k m=none
 | [],_=>rfl
 | (a,v)::r,h=>by
  simp only[List.map_cons,List.mem_cons,not_or]at h;unfold ue;rw[if_neg h.1];exact Ds h.2
theorem E3 {ν:Type} {k:κ}:∀{m:Mo κ ν},k∈m.map (·.1)->∃v,ue k m=some v/\(k,v)∈m
 | [],h=>by simp_all
 | (a,v)::r,h=>by
  unfold ue
  by_cases e:k=a
  .grind
  .obtain⟨w,h1,B⟩:=E3  (by simpa [e]using h)
   grind
theorem rC {ν:Type} {k:κ} {v:ν}:∀{m:Mo κ ν},k∉m.map (·.1)->rF m k v=m++[(k,v)]
 | [],_=>rfl
 | (a,w)::r,h=>by
  simp only[List.map_cons,List.mem_cons,not_or]at h;show (if k=a then _ else _)=_;rw[if_neg h.1,rC h.2];rfl
end
def Vd (t:Trace) (y:aY):Prop:=∃e,(y,e)∈bU t
theorem Vd.at_ {t:Trace} {y:aY} (h:Vd t y):∃(p k:Nat) (e:Event),mh t p k e/\y=⟨p,k+1⟩/\(y,e)∈bU t:=by
 obtain⟨e,u⟩:=h;obtain⟨p,k,h1,w⟩:=dM.1 u
 grind
def G2 (t:Trace) (y z:aY):Prop:=∃e f,(y,e)∈bU t/\(z,f)∈bU t/\e.kind=2/\f.kind=3/\e.message=f.message
def Edge (t:Trace) (y z:aY):Prop:=Vd t y/\Vd t z/\(z=⟨y.proc,y.index+1⟩\/G2 t y z)
abbrev Way (t:Trace):aY->aY->Prop:=Relation.TransGen (Edge t)
def JX (t:Trace):Prop:=∃x,Way t x x
theorem Way.l {t:Trace} {x y:aY} (h:Way t x y):Vd t x:=by
 induction h with
 | single h=>exact h.1
 | tail _ _ u=>omega
theorem Way.r {t:Trace} {x y:aY} (h:Way t x y):Vd t y:=by
 cases h with
 | single h=>exact h.2.1
 | tail _ h=>exact h.2.1
theorem Pp {t:Trace} (hS:Small t) (hF:∀x∈bU t,kL t.procs.l.length x.1.proc x.2) {A:cE 200 bK} (hA:jN t (bU t) A) {y:aY} (U:Vd t y) :
 Wp (jd t A y) λs=>s.l.length<=2/\∀z,z∈s.l↔Edge t y z:=by
 obtain⟨p,k,e,T,D,u⟩:=U.at_;obtain⟨P,O,hk⟩:=T;have W:P∈t.procs.l:=List.mem_of_getElem? O;have h1:=(hS.2 P W).1;have aa:k<P.events.l.length:=(ζe.1 hk).1;have G:y.proc=p:=by rw[D]
 have C:y.index=k+1:=by rw[D]
 have j:∀s:Sl aY,s.l.length<=1->(∀z,z∈s.l↔Vd t z/\z=⟨y.proc,y.index+1⟩)->Wp (jd.J1 A s P.events y) λs=>s.l.length<=2/\∀z,z∈s.l↔Edge t y z:=by
  intro s hs w;have no:¬(∃z,G2 t y z)->s.l.length<=2/\∀z,z∈s.l↔Edge t y z:=λhn=>⟨by omega,λz=>(w z).trans ⟨λh=>⟨U,h.1,.inl h.2⟩,λh=>⟨h.2.1,h.2.2.elim id λh=>(hn ⟨z,h⟩).elim⟩⟩⟩
  unfold jd.J1;have X:IntKind.wrap .i64 (y.index-1)=((k:Nat):Int):=by rw[C,eN _ (by omega) (by omega)];omega
  rw[X,lu,hk,ζb,iW,cw];constructor
  .intro B;have B:e.kind=2:=by grind
   have S:0<=e.message/\e.message<=199:=by
    rcases hF _ u with h|⟨_,_,_,_,h⟩
    .grind
    simp_all
   have to_:∀z,G2 t y z->(ag A e.message).to_=z:=λz ⟨Y,f,Z,I,a3,a4,a5⟩=>by
    cases y7 Z u rfl;rw[a5];exact(hA.rcv _ I a4).1
   rw[Md A S.1 S.2,ζb,bf,cw];refine⟨λh=>?_,λh=>(bf _).2 (no λ⟨z,w⟩=>?_)⟩
   .have h:(ag A e.message).to_.index>0:=by grind
    rw[ζb];unfold jf;rw[if_pos (by omega),ζb,bf]
    refine⟨by show (s.l++[(ag A e.message).to_]).length<=2;grind,λz=>?_⟩
    have J:G2 t y (ag A e.message).to_:=by
     rcases hA.to e.message S.1 S.2 with h0|⟨Y,h1,h2,h3⟩
     .omega
     .exact⟨e,Y,u,h1,B,h2,h3.symm⟩
    show z∈s.l++[(ag A e.message).to_]↔_;rw[List.mem_append,List.mem_singleton,w];constructor
    .rintro (h|rfl)
     .exact⟨U,h.1,.inl h.2⟩
     .exact⟨U,let ⟨_,f,_,I,_⟩:=J;⟨f,I⟩,.inr J⟩
    .rintro⟨_,h1,h2|h2⟩
     .grind
     grind
   .rw[to_ z w]at h;obtain⟨_,f,_,I,_⟩:=w;obtain⟨q,i,_,hi⟩:=dM.1 I;simp only at hi;rw[hi]at h;simp at h
  .intro B;rw[bf,cw];refine⟨λh=>(by cases h),λ_=>(bf _).2 (no λ⟨z,Y,f,Z,_,a3,_⟩=>?_)⟩
   cases y7 Z u rfl
   grind
 unfold jd;rw[G,lu,O,ζb,cw];rw[G]at j;constructor
 .intro h;have h:y.index<len P.events:=by simpa using h
  have B:k+1<P.events.l.length:=by rw[C]at h;simp[len]at h;omega
  refine j _ (by simp[Sl.l]) λz=>?_
  have X:IntKind.wrap .i64 (y.index+1)=y.index+1:=eN _ (by omega) (by omega)
  simp only[Sl.l,List.mem_singleton,X];refine⟨λw=>⟨⟨P.events.l[k+1],dM.2 ⟨p,k+1,⟨P,O,ζd B⟩,?_⟩⟩,w⟩,λw=>w.2⟩
  rw[w,C];simp
 .intro h;have h:¬y.index<len P.events:=by simpa using h
  refine j _ (by simp[Sl.l]) λz=>⟨λw=>by simp[Sl.l]at w,λ⟨w,he⟩=>?_⟩
  obtain⟨q,i,f,⟨Q,hQ,hi⟩,L,_⟩:=w.at_;rw[he,C]at L;simp[aY.mk.injEq]at L;have:q=p:=by omega
  subst this;rw[O]at hQ;cases hQ;have:=(ζe.1 hi).1;simp[len]at h;omega
structure HK (t:Trace) (x:aY) (rest:Sl aY) (m:Mo aY Bool) (U:aY->Prop):Prop where
 rst:∀y∈rest.l,y=x\/Way t x y
 keys:(m.map (·.1)).Nodup
 seen:∀y∈m,Way t x y.1/\y.1≠x/\y.2=true
 le:rest.l.length<=m.length+1
 done:∀y,y=x\/y∈m.map (·.1)->y∈rest.l\/U y\/∀z,Edge t y z->z∈m.map (·.1)
theorem HK.count {t:Trace} {x:aY} {rest:Sl aY} {m:Mo aY Bool} {U:aY->Prop} (h:HK t x rest m U):m.length<=(bU t).length:=by
 have:=Cb (r:=(bU t).map (·.1)) h.keys λx u=>by
  obtain⟨y,w,rfl⟩:=List.mem_map.1 u;obtain⟨e,z⟩:=(h.seen y w).1.r
  grind
 grind
theorem MW {t:Trace} (hS:Small t) (hN:(bU t).length<1073741824) (hF:∀x∈bU t,kL t.procs.l.length x.1.proc x.2) {A:cE 200 bK} (hA:jN t (bU t) A):Wp (h_ t A) λr=>(r.2=true↔JX t):=by
 unfold h_ je;rw[ζb];unfold h_.E1;rw[sY hS,ζb];refine xP (λk _=>∀x∈(bU t).take k,¬Way t x.1 x.1) (by simp) ?_ λ_ h=>(bf _).2 ⟨λh=>(by cases h),λ⟨x,hx⟩=>?_⟩
 .intro i x _ hx aq;have af:x∈bU t:=List.mem_of_getElem? hx;refine Wp.mono (P:=λw=>match w with|.n s=>¬Way t x.1 x.1|.x e=>False|.r e=>JX t) ?_ λw hw=>by
   cases w with
   | n s=>
    intro y hy;rw[List.take_add_one,hx]at hy
    grind
   | x e=>grind
   | r b=>exact(bf _).2 ⟨λ_=>hw,λ_=>rfl⟩
  refine eW (λq:Sl aY×Mo aY Bool=>HK t x.1 q.1 q.2 λ_=>False) (λq=>2*((bU t).length-q.2.length)+q.1.l.length) ⟨λy hy=>.inl (by simpa [Sl.l]using hy),by simp,by simp,by simp[Sl.l],λy hy=>.inl ?_⟩ ?_
  .simpa [Sl.l]using hy
  rintro⟨rest,m⟩ L;unfold h_.b9;rw[cw];refine⟨λh=>?_,λh=>(bf _).2 ((bf _).2 λhw=>?_)⟩
  .have G:0<rest.l.length:=by
    grind
   have hc:=L.count;have au:=L.le;have hw:IntKind.wrap .i64 ((len rest)-1)=(rest.l.length-1:Nat):=by
    rw[eN _ (by grind) (by grind)];grind
   have I:rest.l.length-1<rest.l.length:=by omega
   rw[hw];have h1:Sl.rT rest (rest.l.length-1:Nat)=some (rest.l.length-1):=by
    unfold Sl.rT;grind
   have h2:Sl.get rest (rest.l.length-1)=some rest.l[rest.l.length-1]:=by unfold Sl.get;grind
   obtain⟨cut,h3,h4⟩:∃x,oP rest none (some ((rest.l.length-1:Nat):Int))=some x/\x.l=rest.l.take (rest.l.length-1):=by
    cases rest with
    | nil=>simp[Sl.l]at G
    | emp=>simp[Sl.l]at G
    | row l=>
     simp only[Sl.l]at G ⊢;unfold oP dW;simp_all
    | part l=>
     simp[Sl.l]at G ⊢;unfold oP dW;simp_all
   rw[h1,ζb,h2,ζb,h3,ζb,iW];generalize ah:rest.l[rest.l.length-1]=y;have ai:y∈rest.l:=ah▸List.getElem_mem I;have O:∀z,z∈rest.l->z∈cut.l\/z=y:=λz hz=>by
    have:rest.l.take (rest.l.length-1)++rest.l.drop (rest.l.length-1)=rest.l:=List.take_append_drop ..;rw[<-this]at hz;rcases List.mem_append.1 hz with hz|hz
    .grind
    .rw[List.drop_eq_getElem_cons I,List.drop_of_length_le (by omega)]at hz
     grind
   have aa  := L.rst _ ai;have aj  := aa.elim (λe=>⟨x.2,e▸af⟩) Way.r
   refine(Pp hS hF hA aj).mono λs hs=>?_
   refine eW (λq:Sl aY×Int×Mo aY Bool=>∃n:Nat,q.2.1=n/\n<=s.l.length/\HK t x.1 q.1 q.2.2 (λu=>u=y)/\(∀z∈s.l.take n,z∈q.2.2.map (·.1))/\2*((bU t).length-q.2.2.length)+q.1.l.length<2*((bU t).length-m.length)+rest.l.length) (λq=>s.l.length-q.2.1.toNat)
    ⟨0,rfl,Nat.zero_le _,⟨λz hz=>L.rst z (by grind),L.keys,L.seen,by grind,λu hu=>?_⟩,by simp,by grind⟩ ?_
   .rcases L.done u hu with h|h|h
    .exact(O u h).imp_right .inl
    .exact h.elim
    .exact .inr (.inr h)
   rintro⟨C,i2,W⟩ ⟨n,rfl,hn,B,J,hμ⟩;simp only at B hμ J;unfold h_.fe;rw[cw];constructor
   .intro h;have X:n<s.l.length:=by simpa [len]using h
    have ab:=(hs.2 s.l[n]).1 (List.getElem_mem X);have Q:Way t x.1 s.l[n]:=aa.elim (λe=>.single (e▸ab)) λh=>.tail h ab
    rw[bQ X,ζb,cw];refine⟨λZ=>(bf _).2 ((bf _).2 ((bf _).2 ⟨x.1,?_⟩)),λS=>?_⟩
    .have:s.l[n]=x.1:=by
      unfold J6 at Z
      revert Z;cases s.l[n];cases x.1;intro Z;simpa using Z
     rw[this]at Q;exact Q
    have S:s.l[n]≠x.1:=λe=>by rw[e]at S;simp[J6]at S
    have T:=dn n (by omega)
    have ad:s.l.take (n+1)=s.l.take n++[s.l[n]]:=by rw[List.take_add_one,ζd X];rfl
    rw[cw];refine⟨λhg=>(bf _).2 ⟨⟨n+1,T,by omega,B,λz hz=>?_,hμ⟩,by show _-(IntKind.wrap .i64 ((n:Int)+1)).toNat<_;rw[T];simp;omega⟩,λY=>?_⟩
    .rw[ad]at hz;rcases List.mem_append.1 hz with hz|hz
     .exact J z hz
     .simp[List.mem_singleton]at hz;subst hz;apply Classical.byContradiction;intro hk;unfold Eu at hg;rw[Ds hk]at hg;cases hg
    have av:=B.count;have ar:=B.le;unfold jf;rw[if_pos (show C.l.length+1<=2147483648 from by omega),ζb,bf]
    have D:s.l[n]∉W.map (·.1):=λak=>by
     obtain⟨v,hv,al⟩:=E3 ak;have:=(B.seen _ al).2.2;simp only at this;subst this;unfold Eu at Y;rw[hv]at Y;cases Y
    have U:∀z,z∈(rF W s.l[n] true).map (·.1)↔z∈W.map (·.1)\/z=s.l[n]:=λz=>by
     rw[rC D,List.map_append,List.mem_append];simp
    have ae:HK t x.1 (.row (C.l++[s.l[n]])) (rF W s.l[n] true) (λu=>u=y):=by
     refine⟨λy hy=>?_,?_,λy hy=>?_,?_,λu hu=>?_⟩
     .simp[Sl.l,List.mem_singleton]at hy;rcases hy with hy|rfl
      .exact B.rst y hy
      .exact .inr Q
     .rw[rC D,List.map_append,List.nodup_append];refine⟨B.keys,by simp,λa ha b hb=>?_⟩
      simp[List.mem_singleton]at hb;subst hb;exact λe=>D (e▸ha)
     .rw[rC D]at hy;rcases List.mem_append.1 hy with hy|hy
      .exact B.seen y hy
      .simp[List.mem_singleton]at hy;subst hy;exact⟨Q,S,rfl⟩
     .rw[rC D];show (C.l++[s.l[n]]).length<=_;rw[ζi,ζi,List.length_singleton,List.length_singleton];omega
     .simp only[Sl.l,List.mem_append,List.mem_singleton];have old:u=x.1\/u∈W.map (·.1)->(u∈C.l\/u=s.l[n])\/u=y\/∀z,Edge t u z->z∈(rF W s.l[n] true).map (·.1):=λhu=>by
       rcases B.done u hu with h|h|h
       .exact .inl (.inl h)
       .exact .inr (.inl h)
       .exact .inr (.inr λz hz=>(U z).2 (.inl (h z hz)))
      rcases hu with hu|hu
      .exact old (.inl hu)
      .rcases (U u).1 hu with hu|hu
       .exact old (.inr hu)
       .exact .inl (.inr hu)
    have am:=ae.count;refine⟨⟨n+1,T,by omega,ae,λz hz=>?_,?_⟩,by show _-(IntKind.wrap .i64 ((n)+1)).toNat<_;rw[T];simp;omega⟩
    .rw[ad]at hz;rcases List.mem_append.1 hz with hz|hz
     .exact(U z).2 (.inl (J z hz))
     .exact(U z).2 (.inr (by simpa using hz))
    rw[rC D,ζi,List.length_singleton]at am;show 2*((bU t).length-(rF W s.l[n] true).length)+(C.l++[s.l[n]]).length<_;rw[rC D,ζi,ζi,List.length_singleton,List.length_singleton];omega
   .intro h;have an:s.l.length<=n:=by simpa [len]using h
    rw[List.take_of_length_le an]at J;refine(bf _).2 ((bf _).2 ⟨⟨B.rst,B.keys,B.seen,B.le,λu hu=>?_⟩,hμ⟩)
    rcases B.done u hu with h|h|h
    .exact .inl h
    .subst h;exact .inr (.inr λz hz=>J z ((hs.2 z).2 hz))
    .exact .inr (.inr h)
  .have ao:rest.l=[]:=by
    have:¬len rest>0:=by simpa using h
    simp[len]at this;exact this
   have hd:∀y,y=x.1\/y∈m.map (·.1)->∀z,Edge t y z->z∈m.map (·.1):=λy hy=>by
    rcases L.done y hy with h|h|h
    .simp only[ao]at h;cases h
    .exact h.elim
    .exact h
   have key:∀z,Way t x.1 z->z∈m.map (·.1):=λz hz=>by
    induction hz with
    | single h=>exact hd _ (.inl rfl) _ h
    | tail _ h ih=>exact hd _ (.inr ih) _ h
   obtain⟨y,hy,ap⟩:=List.mem_map.1 (key _ hw);exact(L.seen y hy).2.1 ap
 .obtain⟨e,Z⟩:=hx.l;rw[List.take_length]at h;exact absurd hx (h _ Z)
structure Ok (t:Trace):Prop where
 one:1<=t.procs.l.length
 few:t.procs.l.length<=8
 heads:∀p,p<t.procs.l.length->si t p=0
 e8:∀(p k:Nat) P e,t.procs.l[p]? = some P->P.events.l[k]? = some e->nN t.procs.l.length P p k e=0
 z7:yj t
 acyc:¬JX t
theorem E_ {t:Trace} (h:∀(p k:Nat) P e,t.procs.l[p]? = some P->P.events.l[k]? = some e->nN t.procs.l.length P p k e=0):∀x∈bU t,kL t.procs.l.length x.1.proc x.2:=λx w=>by
 obtain⟨p,k,⟨P,z,A⟩,u⟩:=dM.1 w;rw[u];exact G8 (h p k P _ z A)
structure VT (t:Trace):Prop where
 formed:∀x∈bU t,kL t.procs.l.length x.1.proc x.2
 msgs:∃A i,eD t=some (some A,i,0)/\jN t (bU t) A
 few:t.procs.l.length<=8
 ok:Ok t
theorem OC {t:Trace} (hS:Small t) (W:(bU t).length<1073741824):Wp (gL t) λr=>(r.2=0->VT t)/\(Ok t->r.2=0):=by
 unfold gL;rw[o4,ζb,cw];refine⟨λI=>?_,λI=>(bf _).2 ⟨λh=>(by omega),λh=>?_⟩⟩
 rotate_left
 .have h1:=h.one;have D:=h.few
  grind
 have D:1<=t.procs.l.length/\t.procs.l.length<=8:=by
  grind
 unfold gL.W1;refine eW (λi:Int=>∃n:Nat,i=n/\n<=t.procs.l.length/\∀p,p<n->si t p=0) (λi:Int=>t.procs.l.length-i.toNat) ⟨0,rfl,Nat.zero_le _,λp J=>absurd J (by omega)⟩ ?_
 rintro i ⟨n,rfl,hn,X⟩;unfold gL.bu;rw[cw];constructor
 .intro h;have u:n<t.procs.l.length:=by grind
  rw[Qh hS u,ζb,cw];refine⟨λh0=>(bf _).2 ⟨⟨n+1,dn n (by omega),by omega,λp J=>?_⟩,by rw[dn n (by omega)];simp;omega⟩,λh0=>(bf _).2 ((bf _).2 ⟨λh=>?_,λh=>?_⟩)⟩
  .grind
  .grind
  .simp[h.heads n u]at h0
 .intro h;have Y:t.procs.l.length<=n:=by grind
  rw[bf];unfold je;rw[ζb];unfold gL.E2;rw[sY hS,ζb];refine xP (λi _=>∀(p k:Nat) P e,t.procs.l[p]? = some P->P.events.l[k]? = some e->(⟨p,k+1⟩,e)∈(bU t).take i->nN t.procs.l.length P p k e=0) (by simp) ?_ ?_
  .intro i x _ U w;have L  := List.mem_of_getElem? U;obtain⟨p,j,⟨P,z,B⟩,O⟩:=dM.1 L;unfold gL.J5;rw[O,Mz hS z B,ζb,cw];refine⟨λh0=>(bf _).2 λp' k' P' e' Z aa hm=>?_,λh0=>(bf _).2 ((bf _).2 ⟨λh=>?_,λh=>?_⟩)⟩
   .rw[List.take_add_one,U]at hm
    grind
   .grind
   .simp[h.e8 p j P _ z B]at h0
  .intro _ w;have w:∀(p k:Nat) P e,t.procs.l[p]? = some P->P.events.l[k]? = some e->nN t.procs.l.length P p k e=0:=λp k P e z B=>w p k P e z B (by rw[List.take_length];exact dM.2 ⟨p,k,⟨P,z,B⟩,rfl⟩)
   have Q:=E_ w;obtain⟨r,hr,hq,S⟩:=Dj hS Q;rw[hr,ζb,cw];refine⟨λh0=>?_,λh0=>(bf _).2 ⟨λh=>?_,λh=>S h.z7⟩⟩
   .have h0  := by simpa using h0
    obtain⟨A,T,hM⟩:=hq h0;rw[T,ζb];obtain⟨c,hc,C⟩:=MW hS W Q hM;rw[hc,ζb,cw];refine⟨λG=>(bf _).2 ⟨λh=>(by cases h),λh=>absurd (C.1 G) h.acyc⟩,λG=>(bf _).2 ⟨λ_=>?_,λ_=>rfl⟩⟩
    exact⟨Q,⟨A,r.2.1,by rw[hr];obtain⟨r1,r2,r3⟩:=r;simp only at T h0;rw[T,h0],hM⟩,D.2,D.1,D.2,λp J=>X p (by omega),w,hM.z7,λhc=>by rw[C.2 hc]at G;cases G⟩
   simp_all
theorem Ox {t:Trace} (hS:Small t) (B:(bU t).length<1073741824):Wp (dK t) λb=>(b=true->VT t)/\(Ok t->b=true):=by
 unfold dK;rw[iW];exact(OC hS B).mono λr hr=>(bf _).2 ⟨λh=>hr.1 (by grind),λh=>by grind⟩
end Go.VE
namespace Go.VE
def eC (q:Int) (e:Event):Bool:=e.kind==2&&e.peer==q
def xZ (p:Int) (e:Event):Bool:=e.kind==3&&e.peer==p
end Go.VE
namespace Go.VE
def under (t:Trace) (c:List Int) (p q:Nat):Int:=match t.procs.l[p]?,t.procs.l[q]?,c[p]?,c[q]? with
 | some P,some Q,some a,some b=>((P.events.l.take a.toNat).countP (eC q):Int)-((Q.events.l.take b.toNat).countP (xZ p):Int)
 | _,_,_,_=>0
end Go.VE
namespace Go.VE
theorem NM {t:Trace} (hS:Small t) (hv:dK t=some true) {A:cE 200 bK} (hM:jN t (bU t) A) {x:aY×Event} (B:x∈bU t) (hk:x.2.kind=2):sB t x.2.message=some (x.1,true):=by
 refine Wp.eq ?_;unfold sB gW;rw[hv,ζb,bA];unfold je;rw[ζb];unfold gW.E1;rw[sY hS,ζb,iW];refine xP (λk _=>∀y∈(bU t).take k,¬(y.2.kind=2/\y.2.message=x.2.message)) (by simp) ?_ ?_
 .intro k y _ C u;have w:y∈bU t:=List.mem_of_getElem? C;unfold gW.jt;rw[mK,ζb,cw];constructor
  .intro hc;have hc:y.2.kind=2/\y.2.message=x.2.message:=by simpa using hc
   refine(bf _).2 ((bf _).2 ((bf _).2 ?_));have h1:=hM.snd y w hc.1;have D:=hM.snd x B hk;rw[hc.2,D]at h1;rw[h1]
  .intro hc;have hc:¬(y.2.kind=2/\y.2.message=x.2.message):=by
    intro h;rw[h.1,h.2]at hc;simp at hc
   rw[bf];intro z hz;rw[List.take_add_one,C]at hz;rcases List.mem_append.1 hz with hz|hz
   .exact u z hz
   .simp at hz;subst hz;exact hc
 .intro _ u;rw[List.take_length]at u;exact absurd ⟨hk,rfl⟩ (u x B)
def qF (t:Trace) (c:List Int):Prop:=c.length=t.procs.l.length/\∀(p:Nat) (a:Int) (P:bT),c[p]? = some a->t.procs.l[p]? = some P->0<=a/\a<=P.events.l.length
def og (t:Trace) (A:cE 200 bK) (c:List Int):Prop:=∀(p k:Nat) (e:Event) (a:Int),mh t p k e->c[p]? = some a->(k:Int)<a->e.kind=3->∃b,c[(ag A e.message).from_.proc.toNat]? = some b/\(ag A e.message).from_.index<=b
theorem GQ {t:Trace} (hV:VT t) {A:cE 200 bK} (hM:jN t (bU t) A) {p k:Nat} {e:Event} (J:mh t p k e) (hk:e.kind=3) :
 ∃(q j:Nat) (y:Event),mh t q j y/\y.kind=2/\y.message=e.message/\y.peer=p/\e.peer=q/\(ag A e.message).from_=⟨q,j+1⟩:=by
 have u:((⟨p,k+1⟩:aY),e)∈bU t:=dM.2 ⟨p,k,J,rfl⟩;have z:=(hM.rcv _ u hk).2;have C:=hV.formed _ u;simp only at z C;have B:0<=e.peer:=by
  rcases C with h|⟨_,h,_⟩
  .omega
  .exact h
 obtain⟨q,D⟩:∃q:Nat,e.peer=q:=⟨e.peer.toNat,by omega⟩
 rw[D]at z;obtain⟨j,y,w,h1,G,I⟩:=yV.1 z;have:=hM.snd (⟨q,j+1⟩,y) (dM.2 ⟨q,j,w,rfl⟩) h1;simp only at this;rw[G]at this;exact⟨q,j,y,w,h1,G,I,D,this⟩
def WC (t:Trace) (A:cE 200 bK) (c:List Int) (s:aY):Prop:=∃(p k:Nat) (e:Event) (a:Int) (q j:Nat) (y:Event) (b:Int),mh t p k e/\c[p]? = some a/\(k:Int)<a/\e.kind=3/\(ag A e.message).from_=s/\s=⟨q,j+1⟩/\mh t q j y/\c[q]? = some b/\b<(j:Int)+1
theorem SF {t:Trace} (hS:Small t) (hv:dK t=some true) (hV:VT t) {A:cE 200 bK} (hM:jN t (bU t) A) {c:Sl Int} (hR:qF t c.l):Wp (gM t c) λr=>(r.2.2=false->og t A c.l)/\(r.2.2=true->WC t A c.l r.1):=by
 have ah:=hV.few;unfold gM gM.W1;refine eW (λs:Int=>∃n:Nat,s=n/\n<=c.l.length/\∀(p k:Nat) (e:Event) (a:Int),p<n->mh t p k e->c.l[p]? = some a->(k:Int)<a->e.kind=3->∃b,c.l[(ag A e.message).from_.proc.toNat]? = some b/\(ag A e.message).from_.index<=b) (λs:Int=>c.l.length-s.toNat) ⟨0,rfl,Nat.zero_le _,λp k e a h=>absurd h (by omega)⟩ ?_
 rintro s ⟨n,rfl,hn,hI⟩;have ai:=hR.1;unfold gM.bu;rw[cw];constructor
 .intro h;have C:n<c.l.length:=by simpa [len]using h
  have B:n<t.procs.l.length:=by omega
  have hP:=(hS.2 _ (List.getElem_mem B)).1;obtain⟨r1,r2⟩:=hR.2 n _ _ (ζd C) (ζd B);rw[bQ C,ζb,bQ B,ζb];obtain⟨y,hy,T⟩:=uF t.procs.l[n].events c.l[n].toNat (by omega)
  rw[show ((c.l[n].toNat:Nat):Int)=c.l[n]from by omega]at hy
  rw[hy,ζb];unfold gM.W2;refine eW (λs:Int=>∃m:Nat,s=m/\m<=y.l.length/\∀(k:Nat) (e:Event),k<m->mh t n k e->e.kind=3->∃b,c.l[(ag A e.message).from_.proc.toNat]? = some b/\(ag A e.message).from_.index<=b) (λs:Int=>y.l.length-s.toNat) ⟨0,rfl,Nat.zero_le _,λk e h=>absurd h (by omega)⟩ ?_
  rintro s ⟨m,rfl,hm,hJ⟩;have af:y.l.length=c.l[n].toNat:=by rw[T,List.length_take];omega
  unfold gM.b9;rw[cw];constructor
  .intro h;have G:m<y.l.length:=by simpa [len]using h
   have I:=dn m (by omega)
   have U:y.l.length-(IntKind.wrap .i64 ((m:Int)+1)).toNat<y.l.length-((m:Int)).toNat:=by rw[I];simp;omega
   have hg:y.l[m]? = t.procs.l[n].events.l[m]? := by rw[T,List.getElem?_take,if_pos (show m<c.l[n].toNat from by omega)]
   have u:mh t n m y.l[m]:=⟨_,ζd B,by rw[<-hg];exact ζd G⟩
   rw[bQ G,ζb];generalize y.l[m]=e at u;rw[cw];constructor
   .intro hk;have hk:e.kind=3:=by simpa using hk
    obtain⟨q,j,z,hz,z1,z2,z3,z4,z5⟩:=GQ hV hM u hk;have J:=NM hS hv hM (x:=(⟨q,j+1⟩,z)) (dM.2 ⟨q,j,hz,rfl⟩) z1;simp only at J;rw[z2]at J;have ab:=hz;obtain⟨Q,hQ,_⟩:=hz;have L:q<c.l.length:=by have:=(ζe.1 hQ).1;omega
    rw[J,ζb];simp only;rw[bQ L,ζb,cw];constructor
    .intro W;have W:(j:Int)+1>c.l[q]:=by simpa using W
     exact(bf _).2 ((bf _).2 ((bf _).2 ⟨λh=>(by cases h),λ_=>⟨n,m,e,c.l[n],q,j,z,c.l[q],u,ζd C,by omega,hk,z5,rfl,ab,ζd L,by omega⟩⟩))
    .intro X;have X:¬((j:Int)+1>c.l[q]):=by simpa using X
     refine(bf _).2 ⟨⟨m+1,I,by omega,λk Y ad w D=>?_⟩,U⟩
     by_cases ek:k=m
     .subst ek;have:Y=e:=by
       obtain⟨P1,a1,a2⟩:=u;obtain⟨P2,Z,b2⟩:=w;rw[a1]at Z;cases Z;rw[a2]at b2;cases b2;rfl
      subst this;rw[z5];exact⟨c.l[q],by simp only[Int.toNat_natCast];exact ζd L,by simp only;omega⟩
     .exact hJ k Y (by omega) w D
   .intro hk;have hk:¬e.kind=3:=by simpa using hk
    refine(bf _).2 ⟨⟨m+1,I,by omega,λk Y ad w D=>?_⟩,U⟩
    by_cases ek:k=m
    .subst ek;have:Y=e:=by
      obtain⟨P1,a1,a2⟩:=u;obtain⟨P2,Z,b2⟩:=w;rw[a1]at Z;cases Z;rw[a2]at b2;cases b2;rfl
     subst this;exact absurd D hk
    .exact hJ k Y (by omega) w D
  .intro h;have ae:y.l.length<=m:=by simpa [len]using h
   have aa:=dn n (by omega)
   refine(bf _).2 ((bf _).2 ⟨⟨n+1,aa,by omega,λp k e a hp u S O he=>?_⟩,by show _-(IntKind.wrap .i64 ((n:Int)+1)).toNat<_;rw[aa];simp;omega⟩)
   by_cases ep:p=n
   .subst ep;rw[ζd C]at S;cases S;exact hJ k e (by omega) u he
   .exact hI p k e a (by omega) u S O he
 .intro h;have ae:c.l.length<=n:=by simpa [len]using h
  refine(bf _).2 ((bf _).2 ⟨λ_ p k e a u S O he=>hI p k e a (by have:=(ζe.1 S).1;omega) u S O he,λh=>(by cases h)⟩)
theorem DY {t:Trace} (hS:Small t) (hv:dK t=some true) (hV:VT t) {A:cE 200 bK} (hM:jN t (bU t) A) {c:Sl Int} (B:qF t c.l):Wp (gM t c) λr=>(r.2.2=false↔og t A c.l):=by
 refine(SF hS hv hV hM B).mono λr hr=>⟨hr.1,λhC=>?_⟩
 cases h:r.2.2 with
 | false=>rfl
 | true=>
  obtain⟨p,k,e,a,q,j,y,b,h1,u,w,z,C,D,_,G,I⟩:=hr.2 h;obtain⟨J,g1,g2⟩:=hC p k e a h1 u w z;rw[C,D]at g1 g2;simp only[Int.toNat_natCast]at g1 g2;rw[G]at g1;cases g1;omega
end Go.VE
namespace Go.VE
theorem AA {s:Sl (Sl Int)} {p:Sl Int->Option Bool} {f:Sl Int->Bool} (hp:∀x∈s.l,p x=some (f x)) (B:s.l.length<1073741824):jV s p=some (s.l.any f):=by
 have h:gp s p=some (place f s.l):=uz hp (by omega) (λi=>rfl)
 unfold jV;rw[h,ζb,uC]
theorem Dl {t:Trace} (hS:Small t) {c:Sl Int} (D:c.l.length=t.procs.l.length):Wp (jD t c) λb=>(b=true↔qF t c.l):=by
 have h1:=hS.1;unfold jD jD.W1;refine eW (λs:Int=>∃n:Nat,s=n/\n<=c.l.length/\∀(p:Nat) (a:Int) (P:bT),p<n->c.l[p]? = some a->t.procs.l[p]? = some P->0<=a/\a<=P.events.l.length) (λs:Int=>c.l.length-s.toNat) ⟨0,rfl,Nat.zero_le _,λp a P h=>absurd h (by omega)⟩ ?_
 rintro s ⟨n,rfl,L,C⟩;unfold jD.bu;rw[cw];constructor
 .intro h;have w:n<c.l.length:=by simpa [len]using h
  have u:n<t.procs.l.length:=by omega
  have G:=dn n (by omega)
  rw[bQ w,ζb,bQ u,ζb,lC,ζb,cw];constructor
  .intro z;have z:c.l[n]<0\/c.l[n]>t.procs.l[n].events.l.length:=by simpa [len]using z
   refine(bf _).2 ((bf _).2 ⟨λh=>(by cases h),λI=>?_⟩)
   have:=I.2 n _ _ (ζd w) (ζd u);omega
  .intro z;have z:0<=c.l[n]/\c.l[n]<=t.procs.l[n].events.l.length:=by simpa [len]using z
   refine(bf _).2 ⟨⟨n+1,G,by omega,λp a P O A B=>?_⟩,by rw[G];simp;omega⟩
   by_cases e:p=n
   .subst e;rw[ζd w]at A;cases A;rw[ζd u]at B;cases B;exact z
   .exact C p a P (by omega) A B
 .intro h;have J:c.l.length<=n:=by simpa [len]using h
  refine(bf _).2 ((bf _).2 ⟨λ_=>⟨D,λp a P A B=>C p a P (by have:=(ζe.1 A).1;omega) A B⟩,λ_=>rfl⟩)
def Code (t:Trace) (A:cE 200 bK) (c:List Int) (r:Int):Prop:=c.length≠t.procs.l.length/\r=1\/c.length=t.procs.l.length/\¬qF t c/\r=2\/qF t c/\¬og t A c/\r=18\/qF t c/\og t A c/\r=0
theorem Uz {t:Trace} (hS:Small t) (hv:dK t=some true) (hV:VT t) {A:cE 200 bK} (hM:jN t (bU t) A) (c:Sl Int) :
 Wp (dc t (Sl.row [c]:Sl (Sl Int)) (Sl.nil:Sl Int)) λr=>Code t A c.l r:=by
 unfold dc wI;rw[hv,ζb,bA,AA (f:=λz=>(jU z t).getD false) (λz _=>JP.ok ((bf _).2 trivial)) (by simp[Sl.l]),ζb,ζb,ζb]
 have w:(!((Sl.row [c]:Sl (Sl Int)).l.any λz=>(jU z t).getD false))=(len c==len t.procs):=by
  simp[Sl.l,jU]
 rw[w,cw];constructor
 .intro h;have B:c.l.length=t.procs.l.length:=by
   have:(c.l.length:Int)=t.procs.l.length:=by simpa [len]using h
   omega
  unfold dc.W1;refine eW (λs:Int=>s=0\/s=1/\qF t c.l) (λs:Int=>1-s.toNat) (.inl rfl) ?_
  intro s D;unfold dc.bu;rcases D with rfl|⟨rfl,G⟩
  .rw[show decide ((0:Int)<len (Sl.row [c]:Sl (Sl Int)))=true from rfl,bA,show idx (Sl.row [c]:Sl (Sl Int)) 0=some c from rfl,ζb,iW];refine(Dl hS B).mono λb u=>?_
   rw[cw];exact⟨λI=>(bf _).2 ⟨.inr ⟨rfl,u.1 I⟩,by decide⟩,λC=>(bf _).2 ((bf _).2 (.inr (.inl ⟨B,λh=>(by rw[u.2 h]at C;cases C),rfl⟩)))⟩
  .rw[show decide ((1:Int)<len (Sl.row [c]:Sl (Sl Int)))=false from rfl,bE,bf];show Wp (dc.W2 (Sl.row [c]) Sl.nil 0 0 t) _;unfold dc.W2;refine eW (λs:Int=>s=0) (λ_=>0) rfl ?_
   rintro s rfl;unfold dc.b9;rw[show decide ((0:Int)<0)=false from rfl,bE,bf];show Wp (dc.W3 (Sl.row [c]) 1 0 t) _;unfold dc.W3;refine eW (λs:Int=>s=0\/s=1/\og t A c.l) (λs:Int=>1-s.toNat) (.inl rfl) ?_
   intro s D;unfold dc.fe;rcases D with rfl|⟨rfl,hC⟩
   .rw[show decide ((0:Int)<1)=true from rfl,bA,show idx (Sl.row [c]:Sl (Sl Int)) 0=some c from rfl,ζb];unfold vw;rw[iW,iW];refine(DY hS hv hV hM G).mono λr hr=>?_
    rw[bf,cw];exact⟨λu=>(bf _).2 ⟨.inr ⟨rfl,hr.1 (by simpa using u)⟩,by decide⟩,λu=>(bf _).2 ((bf _).2 (.inr (.inr (.inl ⟨G,λh=>(by have:=hr.2 h;simp[this]at u),rfl⟩))))⟩
   .rw[show decide ((1:Int)<1)=false from rfl,bE,bf];exact(bf _).2 (.inr (.inr (.inr ⟨G,hC,rfl⟩)))
 .intro h;exact(bf _).2 (.inl ⟨λe=>(by simp[len,e]at h),rfl⟩)
theorem Code.zero {t:Trace} {A:cE 200 bK} {c:List Int} {r:Int} (h:Code t A c r):r=0↔qF t c/\og t A c:=by
 rcases h with⟨h,rfl⟩|⟨_,h,rfl⟩|⟨_,h,rfl⟩|⟨h1,w,rfl⟩
 .exact⟨λh=>(by cases h),λu=>absurd u.1.1 h⟩
 .exact⟨λh=>(by cases h),λu=>absurd u.1 h⟩
 .exact⟨λh=>(by cases h),λu=>absurd u.2 h⟩
 .exact⟨λ_=>⟨h1,w⟩,λ_=>rfl⟩
def Cons (t:Trace) (A:cE 200 bK) (c:List Int):Prop:=qF t c/\og t A c
end Go.VE
namespace Go.VE
def places {α:Type} (f:α->Bool) (l:List α):List Nat:=(List.range l.length).filter λk=>match l[k]? with|some x=>f x|none=>false
theorem K4 {α:Type} {f:α->Bool} {l:List α} {k:Nat}:k∈places f l↔∃x,l[k]? = some x/\f x=true:=by
 unfold places;rw[List.mem_filter,List.mem_range];constructor
 .rintro⟨h1,u⟩;rw[ζd h1]at u;exact⟨_,ζd h1,u⟩
 .rintro⟨x,h1,u⟩;exact⟨(ζe.1 h1).1,by rw[h1];exact u⟩
theorem HS {α:Type} (f:α->Bool) (l:List α):(places f l).Nodup:=List.nodup_range.sublist (List.filter_sublist ..)
theorem DV {α:Type} (f:α->Bool):∀l:List α,(places f l).length=l.countP f:=by
 intro l;unfold places;rw[<-List.countP_eq_length_filter]
 induction l with
 | nil=>rfl
 | cons x l u=>
  rw[List.length_cons,List.range_succ_eq_map,List.countP_cons,List.countP_map,List.countP_cons];simp only[List.getElem?_cons_zero];rw[<-u]
  congr 1
theorem FN {α β:Type} {f:α->Bool} {g:β->Bool} {l:List α} {m:List β} (φ:Nat->Nat) (h:∀k∈places f l,φ k∈places g m) (hi:∀k B,k∈places f l->B∈places f l->φ k=φ B->k=B):l.countP f<=m.countP g:=by
 rw[<-DV,<-DV];have w:((places f l).map φ).Nodup:=by
  unfold List.Nodup;rw[List.pairwise_map];exact List.Pairwise.imp_of_mem (λ{a b} z A u C=>u (hi a b z A C)) (HS f l)
 have:=Cb (r:=places g m) w λx D=>by
  obtain⟨k,hk,rfl⟩:=List.mem_map.1 D;exact h k hk
 simpa using this
end Go.VE
namespace Go.VE
end Go.VE
namespace Go.VE
def kO (kind m:Int) (x:aY×Event):Bool:=x.2.kind==kind&&x.2.message==m
def gD (t:Trace) (kind m:Int):aY:=match (bU t).find? (kO kind m)with
 | some x=>x.1
 | none=>⟨0,0⟩
theorem Lm {t:Trace} {kind m:Int} {p:Nat} {P:bT} (B:p<9223372036854775806) (D:t.procs.l[p]? = some P) (G:P.events.l.length<1073741824):∀(q i:Nat),i+q=P.events.l.length ->
 bV (λq:Int=>dL.b9 kind m p t ⟨0,0⟩ q) (i:Int)=some (match (iC p i (P.events.l.drop i)).find? (kO kind m)with|some x=>.r x.1|none=>.x ()):=by
 have u:idx t.procs (p:Int)=some P:=by rw[lu];exact D
 intro q
 induction q with
 | zero=>
  intro i hi;rw[eH];unfold dL.b9;rw[u,ζb,show decide ((i:Int)<len P.events)=false from by simp[len];omega,bE,List.drop_of_length_le (by omega)]
  rfl
 | succ q z=>
  intro i hi;have w:i<P.events.l.length:=by omega
  rw[eH];have A:dL.b9 kind m p t ⟨0,0⟩ i=some (if kO kind m (⟨p,(i:Int)+1⟩,P.events.l[i])then .r ⟨p,(i:Int)+1⟩else .n ((i+1:Nat):Int)):=by
   unfold dL.b9;rw[u,ζb,show decide ((i:Int)<len P.events)=true from by simp[len];omega,bA,ζb,bQ w,ζb,mK,ζb,dn i (by omega),tC]
   rfl
  rw[A,ζb,List.drop_eq_getElem_cons w];simp only[iC,List.find?_cons]
  cases C:kO kind m (⟨p,(i:Int)+1⟩,P.events.l[i])with
  | true=>rfl
  | false=>
   simp only[Bool.false_eq_true,if_false];exact z (i+1) (by omega)
theorem K9 {t:Trace} (hS:Small t) {kind m:Int}:∀(q p:Nat),p+q=t.procs.l.length ->
 bV (λq:Int=>dL.bu kind m t ⟨0,0⟩ q) (p:Int)=some (match (fJ p (t.procs.l.drop p)).find? (kO kind m)with|some x=>.r x.1|none=>.x ()):=by
 have h1:=hS.1;intro q
 induction q with
 | zero=>
  intro p w;rw[eH];unfold dL.bu;rw[show decide ((p:Int)<len t.procs)=false from by simp[len];omega,bE,List.drop_of_length_le (by omega)]
  rfl
 | succ q z=>
  intro p w;have u:p<t.procs.l.length:=by omega
  have A:bV (λq:Int=>dL.b9 kind m p t ⟨0,0⟩ q) 0=some (match (iC p 0 t.procs.l[p].events.l).find? (kO kind m)with|some x=>.r x.1|none=>.x ()):=Lm (t:=t) (kind:=kind) (m:=m) (by omega) (ζd u) (hS.2 _ (List.getElem_mem u)).1 (t.procs.l[p].events.l.length) 0 (by omega)
  rw[eH];unfold dL.bu;rw[show decide ((p:Int)<len t.procs)=true from by simp[len];omega,bA]
  unfold dL.W2;rw[A,List.drop_eq_getElem_cons u];simp only[fJ,List.find?_append]
  cases B:(iC p 0 t.procs.l[p].events.l).find? (kO kind m)with
  | some x=>rfl
  | none=>
   simp only[ζb,Fw.elim,Option.none_or];rw[dn p (by omega)]
   exact z (p+1) (by omega)
theorem find_eq {t:Trace} (hS:Small t) (kind m:Int):dL t kind m=some (gD t kind m):=by
 unfold dL dL.W1;have u:bV (λq:Int=>dL.bu kind m t ⟨0,0⟩ q) 0=some (match (bU t).find? (kO kind m)with|some x=>.r x.1|none=>.x ()):=K9 hS (kind:=kind) (m:=m) t.procs.l.length 0 (by omega)
 rw[u];unfold gD;cases (bU t).find? (kO kind m) <;> rfl
theorem vv {t:Trace} {kind m:Int} {x:aY×Event} (h:(bU t).find? (kO kind m)=some x):x∈bU t/\x.2.kind=kind/\x.2.message=m/\gD t kind m=x.1:=by
 have h1:=List.find?_some h;simp only[kO,ζh,beq_iff_eq]at h1;exact⟨List.mem_of_find?_eq_some h,h1.1,h1.2,by unfold gD;rw[h]⟩
theorem IV {t:Trace} {kind m:Int} {x:aY×Event} (B:x∈bU t) (hk:x.2.kind=kind) (D:x.2.message=m):∃y,(bU t).find? (kO kind m)=some y:=by
 cases u:(bU t).find? (kO kind m)with
 | some y=>exact⟨y,rfl⟩
 | none=>
  rw[List.find?_eq_none]at u;exact absurd (u x B) (by simp[kO,hk,D])
theorem LN {t:Trace} {kind m:Int} (h:∀x∈bU t,¬(x.2.kind=kind/\x.2.message=m)):gD t kind m=⟨0,0⟩:=by
 unfold gD;have:(bU t).find? (kO kind m)=none:=by
  rw[List.find?_eq_none];intro x u;simp only[kO,ζh,beq_iff_eq];exact h x u
 rw[this]
theorem Q0 {t:Trace} {p k:Nat} {e:Event} (h:mh t p k e) (hk:k<9223372036854775807):uJ t ⟨p,k+1⟩=some e:=by
 obtain⟨P,u,w⟩:=h;unfold uJ;dsimp only;rw[show idx t.procs (p:Int)=some P from by rw[lu];exact u,ζb,show IntKind.wrap .i64 ((k:Int)+1-1)=(k:Int)from by rw[eN _ (by omega) (by omega)];omega,show idx P.events (k:Int)=some e from by rw[lu];exact w]
 rfl
def vr (t:Trace) (x:aY×Event):Int:=if x.2.kind=1 then 0 else if gD t x.2.kind x.2.message=x.1 then(if x.2.kind=3 then(if sH t x.2.peer x.2.message x.1.proc then 0 else 7)else 0)else 8
theorem ML {t:Trace} (hS:Small t) {p k:Nat} {e:Event} (h:mh t p k e) (U:kL t.procs.l.length p e):iq t ⟨p,k+1⟩=some (vr t (⟨p,k+1⟩,e)):=by
 have hk:k<1073741824:=by
  obtain⟨P,T,W⟩:=h;have:=(hS.2 P (List.mem_of_getElem? T)).1;have:=(ζe.1 W).1;omega
 unfold iq vr;rw[Q0 h (by omega),ζb]
 dsimp only
 by_cases h1:e.kind=1
 .rw[show (e.kind==1)=true from by simp[h1],bA,if_pos h1]
 .rw[show (e.kind==1)=false from by simp[h1],bE,if_neg h1,find_eq hS,ζb]
  have C:J6 (gD t e.kind e.message) ⟨p,(k:Int)+1⟩=decide (gD t e.kind e.message=⟨p,(k:Int)+1⟩):=by
   unfold J6;rw[Bool.eq_iff_iff];cases gD t e.kind e.message;simp
  rw[C]
  by_cases w:gD t e.kind e.message=⟨p,(k:Int)+1⟩
  .rw[if_pos w,show decide (gD t e.kind e.message=⟨p,(k:Int)+1⟩)=true from by simpa using w,bA]
   by_cases A:e.kind=3
   .rw[if_pos A,show (e.kind==3)=true from by simp[A],bA]
    have D:0<=e.peer/\e.peer<t.procs.l.length:=by
     rcases U with h|⟨_,h1,w,_⟩
     .exact absurd h h1
     .exact⟨h1,w⟩
    have L:e.peer.toNat<t.procs.l.length:=by omega
    have O:=ζd L;have X:=(hS.2 _ (List.getElem_mem L)).1;generalize Y:t.procs.l[e.peer.toNat]=Q at *;have G:idx t.procs e.peer=some Q:=by rw[UY D.1];exact O
    have I:sH t e.peer e.message p=Q.events.l.any λs=>s.kind==2&&s.message==e.message&&s.peer==p:=by
     unfold sH;rw[O]
    unfold iq.W1;refine Wp.eq (eW (λz:Bool×Int=>∃m:Nat,z.2=m/\m<=Q.events.l.length/\z.1=(Q.events.l.take m).any λs=>s.kind==2&&s.message==e.message&&s.peer==p) (λz=>Q.events.l.length-z.2.toNat) ⟨0,rfl,Nat.zero_le _,rfl⟩ ?_)
    rintro⟨s,i⟩ ⟨m,hi,Z,B⟩;simp only at hi B;subst hi;unfold iq.bu;dsimp only;rw[G,ζb,cw];constructor
    .intro J;have u:m<Q.events.l.length:=by simpa [len]using J
     have S:=dn m (by omega)
     rw[ζb,bQ u,ζb,mK,ζb,mK,ζb,lC,ζb,bf];refine⟨⟨m+1,S,by omega,?_⟩,by show _-(IntKind.wrap .i64 ((m:Int)+1)).toNat<_;rw[S];simp;omega⟩
     show (s||_)=_;rw[List.take_add_one,ζd u,List.any_append,B];simp
    .intro J;have u:Q.events.l.length<=m:=by simpa [len]using J
     rw[List.take_of_length_le u]at B;refine(bf _).2 ?_;rw[I,<-B];cases s
     .exact(bf _).2 rfl
     .exact(bf _).2 rfl
   .rw[if_neg A,show (e.kind==3)=false from by simp[A],bE]
  .rw[if_neg w,show decide (gD t e.kind e.message=⟨p,(k:Int)+1⟩)=false from by simpa using w,bE]
theorem LB {t:Trace} (J:∀x∈bU t,kL t.procs.l.length x.1.proc x.2):(∀x∈bU t,vr t x=0)↔yj t:=by
 constructor
 .intro h;have key:∀x∈bU t,x.2.kind≠1->gD t x.2.kind x.2.message=x.1:=λx u hk=>by
   have:=h x u;unfold vr at this;rw[if_neg hk]at this;split at this
   .assumption
   .cases this
  refine⟨λx u y w z A B=>?_,λx u y w z A B=>?_,λx u z=>?_⟩
  .rw[<-key x u (by omega),<-key y w (by omega),z,A,B]
  .rw[<-key x u (by omega),<-key y w (by omega),z,A,B]
  .have:=h x u;unfold vr at this;rw[if_neg (by omega),if_pos (key x u (by omega)),if_pos z]at this
   split at this
   .assumption
   .cases this
 .intro h x u;unfold vr
  by_cases k1:x.2.kind=1
  .rw[if_pos k1]
  .rw[if_neg k1];obtain⟨y,w⟩:=IV u rfl rfl;obtain⟨D,G,y3,y4⟩:=vv w;have hk:x.2.kind=2\/x.2.kind=3:=by
    rcases J x u with h|⟨h,_⟩
    .exact absurd h k1
    .exact h
   have I:gD t x.2.kind x.2.message=x.1:=by
    rw[y4];rcases hk with hk|hk
    .exact h.snd y D x u (by rw[G,hk]) hk y3
    .exact h.rcv y D x u (by rw[G,hk]) hk y3
   rw[if_pos I]
   by_cases C:x.2.kind=3
   .rw[if_pos C,if_pos (h.has x u C)]
   .rw[if_neg C]
end Go.VE
namespace Go.VE
theorem xK {t:Trace} (D:∀x∈bU t,kL t.procs.l.length x.1.proc x.2) (G:yj t) {z:aY} {f:Event} (B:(z,f)∈bU t) (hk:f.kind=3):∃e,(gD t 2 f.message,e)∈bU t/\e.kind=2/\e.message=f.message:=by
 have h:=G.has _ B hk;have C:0<=f.peer:=by
  rcases D _ B with h|⟨_,h,_⟩
  .grind
  simp_all
 rw[show f.peer=(f.peer.toNat:Nat)from by omega,yV]at h
 obtain⟨k,e,u,h1,w,_⟩:=h;obtain⟨y,A⟩:=IV (dM.2 ⟨_,k,u,rfl⟩:(⟨(f.peer.toNat:Nat),k+1⟩,e)∈bU t) h1 w;obtain⟨I,J,y3,y4⟩:=vv A
 grind
theorem G2.find {t:Trace} (G:∀x∈bU t,kL t.procs.l.length x.1.proc x.2) (B:yj t) {y z:aY} {f:Event} (h:G2 t y z) (D:(z,f)∈bU t):f.kind=3/\gD t 2 f.message=y:=by
 obtain⟨e,J,h1,w,A,u,L⟩:=h;cases y7 w D rfl;obtain⟨O,C,I,Q⟩:=xK G B D u;exact⟨u,B.snd _ C _ h1 I A (by simp_all)⟩
theorem Bu {t:Trace} (hS:Small t) (G:∀x∈bU t,kL t.procs.l.length x.1.proc x.2) (B:yj t) {z:aY} (D:Vd t z) :
 Wp (dN t z) λs=>s.l.length<=2/\∀y,y∈s.l↔Edge t y z:=by
 obtain⟨p,k,f,w,rfl,u⟩:=D.at_;have hk:k<1073741824:=by
  obtain⟨P,B,I⟩:=w;have:=(hS.2 P (List.mem_of_getElem? B)).1
  grind
 have j:∀s:Sl aY,s.l.length<=1->(∀y,y∈s.l↔Vd t y/\(⟨p,k+1⟩:aY)=⟨y.proc,y.index+1⟩)->Wp (dN.J1 s t ⟨p,k+1⟩) λs=>s.l.length<=2/\∀y,y∈s.l↔Edge t y ⟨p,k+1⟩:=by
  intro s T A;unfold dN.J1;rw[Q0 w (by omega),ζb,cw]
  constructor
  .intro C;have C:f.kind=3:=by grind
   rw[find_eq hS,ζb];unfold jf;rw[if_pos (by omega),ζb,bf]
   refine⟨by show (s.l++[_]).length<=2;grind,λy=>?_⟩
   show y∈s.l++[gD t 2 f.message]↔_;rw[List.mem_append,List.mem_singleton,A];obtain⟨e,L,O,Q⟩:=xK G B u C;constructor
   .rintro (h|rfl)
    .exact⟨h.1,D,.inl h.2⟩
    .exact⟨⟨e,L⟩,D,.inr ⟨e,f,L,u,O,C,Q⟩⟩
   .rintro⟨h1,_,h2|h2⟩
    .grind
    .exact .inr (h2.find G B u).2.symm
  .intro C;refine(bf _).2 ⟨by omega,λy=>(A y).trans ⟨λh=>⟨h.1,D,.inl h.2⟩,λ⟨h1,_,h2⟩=>⟨h1,h2.elim id λh2=>?_⟩⟩⟩
   have:=(h2.find G B u).1
   grind
 unfold dN;rw[cw];constructor
 .intro h;have h:k+1>1:=by grind
  refine j _ (by simp[Sl.l]) λy=>?_
  have S:IntKind.wrap .i64 (k+1-1)=k:=by rw[eN _ (by omega) (by omega)];omega
  simp only[Sl.l,List.mem_singleton,S,aY.mk.injEq];constructor
  .rintro rfl;obtain⟨P,B,I⟩:=w;have:=(ζe.1 I).1;exact⟨⟨P.events.l[k-1],dM.2 ⟨p,k-1,⟨P,B,ζd (by omega)⟩,by simp;omega⟩⟩,rfl,rfl⟩
  simp_all
 .intro h;refine j _ (by simp[Sl.l]) λy=>⟨λJ=>by simp[Sl.l]at J,λ⟨J,I⟩=>?_⟩
  obtain⟨q,i,f,_,rfl,_⟩:=J.at_
  grind
theorem T0 {α:Type} {r:α->α->Prop} {x:α} (h:Acc r x):¬Relation.TransGen r x x:=by
 induction h with
 | intro x _ u=>
  intro h
  cases h with
  | single h=>exact u x h (.single h)
  | tail h1 w=>exact u _ w (Relation.TransGen.trans (.single w) h1)
theorem Kl:∀{d:List Nat} {i k:Nat},d[i]? = some k->(d.set i (k+1)).sum=d.sum+1
 | [],_,_,h=>by simp_all
 | x::d,0,k,h=>by grind
 | x::d,i+1,k,h=>by
  have:=Kl (d:=d) (i:=i) (k:=k) (by grind)
  grind
theorem Nn:∀{d l:List Nat},d.length=l.length->(∀(i a b:Nat),d[i]? = some a->l[i]? = some b->a<=b)->d.sum<=l.sum
 | [],_,_,_=>by simp
 | x::d,[],h,_=>by simp_all
 | x::d,y::l,h,B=>by
  have h1:=B 0 x y rfl rfl;have u:=Nn (d:=d) (l:=l) (by grind) λi a b w z=>B (i+1) a b (by grind) (by grind)
  simp;omega
def nI (d:List Nat):List Int:=d.map Int.ofNat
def sI (s:Sl Int):Nat:=(s.l.map Int.toNat).sum
theorem Gg (d:List Nat):sI (.row (nI d))=d.sum:=by
 unfold sI nI;rw[show (Sl.row (d.map Int.ofNat)).l=d.map Int.ofNat from rfl,List.map_map,show (Int.toNat ∘ Int.ofNat)=id from rfl,List.map_id]
theorem N5 (d:List Nat):(nI d).length=d.length:=by simp[nI]
structure Kh (t:Trace) (d:List Nat):Prop where
 len:d.length=t.procs.l.length
 le:∀(p k:Nat) P,d[p]? = some k->t.procs.l[p]? = some P->k<=P.events.l.length
 acc:∀(p k j:Nat),d[p]? = some k->j<k->Acc (Edge t) ⟨p,j+1⟩
def vS (t:Trace):Nat:=(t.procs.l.map λP=>P.events.l.length).sum
theorem Kh.sum {t:Trace} {d:List Nat} (h:Kh t d):d.sum<=vS t:=Nn (by simp[h.len]) λi a b z u=>by
 cases w:t.procs.l[i]? with
 | none=>grind
 | some P=>simp[w]at u;rw[<-u];exact h.le i a P z w
theorem Di {d:List Nat} {p:Nat} (h:p<d.length):Sl.rT (.row (nI d)) (p:Int)=some p:=by
 unfold Sl.rT;rw[if_pos ⟨by omega,by simpa [Sl.l,N5]using h⟩];rfl
theorem zG {d:List Nat} {p k:Nat} (h:d[p]? = some k):Sl.get (.row (nI d)) p=some (k:Int):=by
 unfold Sl.get nI;rw[show (Sl.row (d.map Int.ofNat)).l=d.map Int.ofNat from rfl,List.getElem?_map,h];rfl
def Mv (t:Trace) (B:List Nat) (s:Sl Int) (b:Bool) (d:List Nat):Prop:=s=.row (nI d)/\Kh t d/\B.sum<=d.sum/\(b=true->B.sum<d.sum)
def KQ (t:Trace) (B:List Nat) (p:Nat) (w:Fw (Sl Int×Bool×Int) (Sl Int×Bool) Empty):Prop:=∃u z A,w=.n (u,z,((p+1:Nat):Int))/\Mv t B u z A
theorem R8 {t:Trace} (hS:Small t) (hF:∀x∈bU t,kL t.procs.l.length x.1.proc x.2) (hP:yj t) {B d1:List Nat} {s:Sl Int} {b:Bool} {p:Nat} (hp:p<t.procs.l.length) (hM:Mv t B s b d1) :
 Wp (eo.W3 s b p t) (KQ t B p):=by
 have X:=bQ hp;have hn:=hS.1;have af:=(hS.2 _ (List.getElem_mem hp)).1;have C:=ζd hp;generalize t.procs.l[p]=P at *;refine eW (λq:Sl Int×Bool=>∃d,Mv t B q.1 q.2 d) (λq=>vS t-sI q.1) ⟨d1,hM⟩ ?_
 rintro⟨s,b⟩ ⟨d,rfl,u,hd,hb⟩;have w:p<d.length:=by rw[u.len];omega
 have hg:=ζd w;generalize d[p]=k at hg;have ah:=u.le p k P hg C;have stop:∀{U:Empty->Prop},Wp (some (Fw.x (Sl.row (nI d),b))) (Rp (λq:Sl Int×Bool=>∃d,Mv t B q.1 q.2 d) (λq=>vS t-sI q.1) (λe=>Wp (some (Fw.n (e.1,e.2,IntKind.wrap .i64 (p+1)))) (KQ t B p)) U (Sl.row (nI d),b)):=by
  refine(bf _).2 ((bf _).2 ⟨_,_,d,?_,rfl,u,hd,hb⟩);rw[dn p (by omega)]
 unfold eo.fe;rw[Di w,ζb,zG hg,ζb,X,ζb,cw];refine⟨λh=>?_,λ_=>stop⟩
 have D:k<P.events.l.length:=by grind
 have Y:mh t p k P.events.l[k]:=⟨P,C,ζd D⟩;have z:(⟨p,k+1⟩,P.events.l[k])∈bU t:=dM.2 ⟨p,k,Y,rfl⟩;have go:(P.events.l[k].kind=3->∀q j:Nat,gD t 2 P.events.l[k].message=⟨q,j+1⟩->∃W,d[q]? = some W/\j<W)->∀{px:Sl Int×Bool->Prop} {U:Empty->Prop},Wp (eo.J4 (.row (nI d)) p t) (Rp (λq:Sl Int×Bool=>∃d,Mv t B q.1 q.2 d) (λq=>vS t-sI q.1) px U (Sl.row (nI d),b)):=by
  intro hq px U;unfold eo.J4;rw[Di w,ζb,zG hg,ζb,ζb];unfold Sl.put;rw[if_pos (by simpa [Sl.l,N5]using w),ζb,bf]
  have G:(nI d).set p (IntKind.wrap .i64 ((k:Int)+1))=nI (d.set p (k+1)):=by
   rw[dn k (by omega)];unfold nI;simp_all
  have I:=Kl hg;have J:Kh t (d.set p (k+1)):=by
   refine⟨by simp[u.len],λq i Q hi Z=>?_,λq i j hi hj=>?_⟩
   .rw[List.getElem?_set]at hi;split at hi
    .grind
    .exact u.le q i Q hi Z
   .rw[List.getElem?_set]at hi;split at hi
    .rename_i e;subst e;cases hi
     by_cases aa:j<k
     .exact u.acc p k j hg aa
     .have:j=k:=by omega
      subst this;refine Acc.intro _ λy hy=>?_
      obtain⟨L,_,he|he⟩:=hy
      .obtain⟨q,i,f,_,rfl,_⟩:=L.at_;simp[aY.mk.injEq]at he;have e1:q=p:=by omega
       subst e1;exact u.acc q j i hg (by omega)
      .obtain⟨A,hf⟩:=he.find hF hP z;obtain⟨q,i,f,_,rfl,_⟩:=L.at_;obtain⟨W,ab,ad⟩:=hq A q i hf;exact u.acc q W i ab ad
    .exact u.acc q i j hi hj
  have ai:=J.sum;refine⟨⟨_,by grind,J,by grind,λ_=>by grind⟩,?_⟩
  show vS t-sI (.row ((nI d).set p (IntKind.wrap .i64 ((k:Int)+1))))<vS t-sI (.row (nI d));rw[G,Gg,Gg,I]
  grind
 dsimp only;rw[ζb,ζb,zG hg,ζb,bQ D,ζb,cw];refine⟨λA=>?_,λA=>go λh=>by simp[h]at A⟩
 have A:P.events.l[k].kind=3:=by simpa using A
 obtain⟨e,a1,a2,a3⟩:=xK hF hP z A;obtain⟨q,j,O,S⟩:=dM.1 a1;simp only at S;have T:q<d.length:=by
  obtain⟨Q,Z,_⟩:=O;rw[u.len];exact(ζe.1 Z).1
 have ae:=ζd T;rw[find_eq hS,ζb,S,Di T,ζb,zG ae,ζb,cw];refine⟨λ_=>stop,λh=>go λ_ q' j' hh=>?_⟩
 grind
theorem KM {t:Trace} (hS:Small t) (U:∀x∈bU t,kL t.procs.l.length x.1.proc x.2) (B:yj t):Wp (eo t) λb=>b=true->¬JX t:=by
 have hn:=hS.1;unfold eo B3;rw[if_pos (by grind),ζb]
 have h0:(Sl.row (List.replicate (len t.procs).toNat 0))=.row (nI (List.replicate t.procs.l.length 0)):=by simp[nI]
 rw[h0];refine eW (λs:Sl Int=>∃d,s=.row (nI d)/\Kh t d) (λs=>vS t-sI s) ⟨_,rfl,by simp,λp k P h _=>by grind,λp k j h hj=>by grind⟩ ?_
 rintro s ⟨C,rfl,L⟩;refine eW (λq:Sl Int×Bool×Int=>∃(n:Nat) (d:List Nat),q.2.2=n/\n<=t.procs.l.length/\Mv t C q.1 q.2.1 d) (λq=>t.procs.l.length-q.2.2.toNat) ⟨0,C,rfl,Nat.zero_le _,rfl,L,Nat.le_refl _,by simp⟩ ?_
 rintro⟨s,b,i⟩ ⟨n,d,hi,O,hM⟩;subst hi;unfold eo.b9;rw[cw];constructor
 .intro h;have u:n<t.procs.l.length:=by grind
  refine(R8 hS U B u hM).mono ?_;rintro w ⟨s',b',Q,rfl,D⟩;exact⟨⟨n+1,Q,rfl,by omega,D⟩,by simp;omega⟩
 .intro _;obtain⟨rfl,z,S,G⟩:=hM;rw[bf];show Wp (a_ b _ _) _;rw[cw];refine⟨λT=>(bf _).2 ⟨⟨d,rfl,z⟩,?_⟩,λ_=>(bf _).2 ?_⟩
  .show vS t-sI (.row (nI d))<vS t-sI (.row (nI C));rw[Gg,Gg];have:=G T;have:=z.sum;omega
  .refine eW (λi:Int=>∃n:Nat,i=n/\n<=t.procs.l.length/\∀p,p<n->∀P,t.procs.l[p]? = some P->d[p]? = some P.events.l.length) (λi:Int=>t.procs.l.length-i.toNat) ⟨0,rfl,Nat.zero_le _,λp I=>absurd I (by omega)⟩ ?_
   rintro i ⟨n,rfl,W,X⟩;unfold eo.xO;rw[cw];constructor
   .intro h;have u:n<t.procs.l.length:=by grind
    have A:n<d.length:=by rw[z.len];omega
    have hg:=ζd A;rw[Di A,ζb,zG hg,ζb,bQ u,ζb,cw];refine⟨λ_=>(bf _).2 ((bf _).2 λh=>by cases h),λh=>(bf _).2 ⟨⟨n+1,dn n (by omega),by omega,λp I P B=>?_⟩,by rw[dn n (by omega)];simp;omega⟩⟩
    by_cases e:p=n
    .subst e;rw[ζd u]at B;have:=z.le p _ _ hg (ζd u)
     grind
    grind
   .intro h;have Y:t.procs.l.length<=n:=by grind
    refine(bf _).2 ((bf _).2 λ_ ⟨x,J⟩=>?_)
    obtain⟨p,k,e,⟨P,B,Z⟩,rfl,_⟩:=J.l.at_;have aa:=(ζe.1 B).1;exact T0 (z.acc p _ k (X p (by omega) P B) (ζe.1 Z).1) J
end Go.VE
namespace Go.VE
def qH (out:List (List Bool)) (y:aY):Bool:=match out[y.proc.toNat]? with
 | some row=>row[y.index.toNat]?.getD false
 | none=>false
theorem zJ {t:Trace} {out:List (List Bool)} {p k:Nat} {row:List Bool} (hr:out[p]? = some row) (hk:k+1<row.length) {z:aY} (B:Vd t z) :
 qH (out.set p (row.set (k+1) true)) z=(decide (z=⟨p,k+1⟩)||qH out z):=by
 obtain⟨q,j,e,_,rfl,_⟩:=B.at_;have A:=(ζe.1 hr).1;unfold qH;have e1:(⟨(q:Int),(j:Int)+1⟩:aY).proc.toNat=q:=rfl;have e2:(⟨(q:Int),(j:Int)+1⟩:aY).index.toNat=j+1:=by show ((j:Int)+1).toNat=j+1;omega
 rw[e1,e2,List.getElem?_set]
 by_cases u:p=q
 .subst u;rw[if_pos rfl,if_pos A,hr];dsimp only;rw[List.getElem?_set]
  by_cases w:k=j
  .subst w;simp[hk]
  .rw[if_neg (by omega),show decide ((⟨(p:Int),(j:Int)+1⟩:aY)=⟨p,k+1⟩)=false from by simp;omega,Bool.false_or]
 .rw[if_neg u,show decide ((⟨(q:Int),(j:Int)+1⟩:aY)=⟨p,k+1⟩)=false from by simp;omega,Bool.false_or]
theorem AD {α:Type} {f g:α->Bool}:∀{l:List α},(∀z∈l,f z=true->g z=true)->(∃z∈l,f z=false/\g z=true)->l.countP f<l.countP g
 | [],_,⟨z,hz,_⟩=>by simp at hz
 | a::l,h,⟨z,hz,B,hg⟩=>by
  simp only[List.countP_cons];have D:=List.countP_mono_left (l:=l) (p:=f) (q:=g) λx u=>h x (List.mem_cons_of_mem _ u)
  rcases List.mem_cons.1 hz with rfl|hz
  .simp[B,hg];omega
  .have:=AD (l:=l) (λx u=>h x (List.mem_cons_of_mem _ u)) ⟨z,hz,B,hg⟩
   have h1:=h a (List.mem_cons_self ..)
   cases w:f a with
   | true=>simp[h1 w];omega
   | false=>simp;split <;> omega
def cnt (t:Trace) (out:List (List Bool)):Nat:=(bU t).countP λz=>qH out z.1
structure Wd (t:Trace) (x:aY) (out:List (List Bool)) (rest:List aY):Prop where
 shp:∀(p:Nat) P,t.procs.l[p]? = some P->∃row,out[p]? = some row/\row.length=P.events.l.length+1
 len:out.length=t.procs.l.length
 que:∀y∈rest,Way t y x
 snd:∀y,Vd t y->qH out y=true->Way t y x
 cls:∀z,z=x\/Vd t z/\qH out z=true->∀y,Edge t y z->qH out y=true\/y∈rest
 le:rest.length<=2*cnt t out+2
theorem BI {t:Trace} {y:aY}:qH (gF t) y=false:=by
 unfold qH gF;split
 .rename_i row h;rw[List.getElem?_map]at h
  cases u:t.procs.l[y.proc.toNat]? with
  | none=>simp[u]at h
  | some P=>
   simp[u]at h;subst h;rw[List.getElem?_replicate];split <;> rfl
 .rfl
theorem Th {t:Trace} (hS:Small t) (hN:(bU t).length<1073741824) (hF:∀x∈bU t,kL t.procs.l.length x.1.proc x.2) (J:yj t) {x:aY} (hx:Vd t x) :
 Wp (nk t x) λs=>∃out,s=nested out/\Wd t x out []/\∀y,Vd t y->(qH out y=true↔Way t y x):=by
 unfold nk;rw[if_pos (by
  unfold AQ;simp only[ζh,List.all_eq_true,decide_eq_true_eq];exact⟨by have:=hS.1;omega,λP J=>by have:=(hS.2 P J).1;omega⟩),iW]
 refine(Bu hS hF J hx).mono λs U=>?_
 refine eW (λq:List (List Bool)×List aY=>Wd t x q.1 q.2) (λq=>2*((bU t).length-cnt t q.1)+q.2.length) ⟨λp P J=>⟨List.replicate (P.events.l.length+1) false,by simp[gF,J],by simp⟩,by simp[gF],λy B=>.single ((U.2 y).1 B),λy _ h=>(by rw[BI]at h;cases h),λz hz y B=>?_,by have:=U.1;show s.l.length<=2*cnt t (gF t)+2;omega⟩ ?_
 .rcases hz with rfl|⟨_,h⟩
  .exact .inr ((U.2 y).2 B)
  .rw[BI]at h;cases h
 rintro⟨out,rest⟩ u
 cases rest with
 | nil=>
  show Wp (some _) _;refine(bf _).2 ((bf _).2 ⟨out,rfl,u,λy B=>⟨u.snd y B,λC=>?_⟩⟩)
  have key:∀w,Way t y w->w=x\/Vd t w/\qH out w=true->qH out y=true:=λw C=>by
   induction C with
   | single h=>exact λC=>(u.cls _ C _ h).elim id λh=>by cases h
   | tail ad I ih=>exact λC=>ih (.inr ⟨I.1,(u.cls _ C _ I).elim id λh=>by cases h⟩)
  exact key x C (.inl rfl)
 | cons y rest=>
  have D:=u.que y (List.mem_cons_self ..);have G:=D.l;obtain⟨p,k,e,W,rfl,L⟩:=G.at_;obtain⟨P,O,hk⟩:=W;have ae:=(ζe.1 hk).1;obtain⟨row,hr,X⟩:=u.shp p P O;have A:k+1<row.length:=by omega
  show Wp (oG _ (out,⟨p,k+1⟩::rest)) _;unfold oG;have e2:((k:Int)+1).toNat=k+1:=by omega
  dsimp only;rw[if_pos ⟨by omega,by omega⟩,show ((p:Nat):Int).toNat=p from rfl,e2,hr,ζb,ζd A,ζb,cw]
  have S:qH out ⟨p,k+1⟩=row[k+1]:=by
   unfold qH;rw[show ((⟨(p:Int),(k:Int)+1⟩:aY).proc).toNat=p from rfl,hr];dsimp only;rw[e2,ζd A];rfl
  constructor
  .intro Y;rw[bf];refine⟨⟨u.shp,u.len,λy B=>u.que y (List.mem_cons_of_mem _ B),u.snd,λz hz y B=>?_,by have:=u.le;simp only[List.length_cons]at this;show rest.length<=2*cnt t out+2;omega⟩,Nat.add_lt_add_left (Nat.lt_succ_self _) _⟩
   rcases u.cls z hz y B with h|h
   .exact .inl h
   .rcases List.mem_cons.1 h with rfl|h
    .exact .inl (by rw[S];exact Y)
    .exact .inr h
  .intro Y;rw[iW];refine(Bu hS hF J G).mono λmore Z=>?_
   have aa:=u.le;simp only[List.length_cons]at aa;have af:cnt t out<=(bU t).length:=List.countP_le_length;have ah:=Z.1;have ai:cnt t out<cnt t (out.set p (row.set (k+1) true)):=AD (λz hz h=>by rw[zJ hr A ⟨_,hz⟩,h,Bool.or_true]) ⟨_,L,by rw[S,Y],by rw[zJ hr A G];simp⟩
   have ab:cnt t (out.set p (row.set (k+1) true))<=(bU t).length:=List.countP_le_length;rw[if_pos (by omega),bf]
   refine⟨⟨λq Q hQ=>?_,by show (out.set _ _).length=_;rw[List.length_set];exact u.len,λz hz=>?_,λz hz h=>?_,λz hz y B=>?_,by show (rest++more.l).length<=_;rw[ζi];show _<=2*cnt t (out.set p (row.set (k+1) true))+2;omega⟩,?_⟩
   .show ∃r,(out.set p (row.set (k+1) true))[q]? = some r/\_;rw[List.getElem?_set];split
    .rename_i e;subst e;rw[if_pos (ζe.1 hr).1];rw[O]at hQ;cases hQ;exact⟨_,rfl,by simp[X]⟩
    .exact u.shp q Q hQ
   .rcases List.mem_append.1 hz with hz|hz
    .exact u.que z (List.mem_cons_of_mem _ hz)
    .exact .trans (.single ((Z.2 z).1 hz)) D
   .show Way t z x;have h:qH (out.set p (row.set (k+1) true)) z=true:=h;rw[zJ hr A hz]at h;simp only[Bool.or_eq_true,decide_eq_true_eq]at h;rcases h with rfl|h
    .exact D
    .exact u.snd z hz h
   .show qH (out.set p (row.set (k+1) true)) y=true\/y∈rest++more.l;rw[zJ hr A B.1];have old:z=x\/Vd t z/\qH out z=true->(decide (y=⟨p,k+1⟩)||qH out y)=true\/y∈rest++more.l:=λhz=>by
     rcases u.cls z hz y B with h|h
     .exact .inl (by rw[show qH out y=true from h,Bool.or_true])
     .rcases List.mem_cons.1 h with rfl|h
      .exact .inl (by simp)
      .exact .inr (List.mem_append_left _ h)
    rcases hz with hz|⟨T,hz⟩
    .exact old (.inl hz)
    .have hz:qH (out.set p (row.set (k+1) true)) z=true:=hz;rw[zJ hr A T]at hz;simp only[Bool.or_eq_true,decide_eq_true_eq]at hz;rcases hz with rfl|hz
     .exact .inr (List.mem_append_right _ ((Z.2 y).2 B))
     .exact old (.inr ⟨T,hz⟩)
   .show 2*((bU t).length-cnt t (out.set p (row.set (k+1) true)))+(rest++more.l).length<2*((bU t).length-cnt t out)+(_::rest).length;rw[ζi,List.length_cons];omega
theorem Vw {t:Trace} (hS:Small t) (Y:(bU t).length<1073741824) (hF:∀x∈bU t,kL t.procs.l.length x.1.proc x.2) (D:yj t):Wp (cU.W6 0 t ⟨0,0⟩) λr=>(r.2=0↔¬JX t):=by
 have hn:=hS.1;unfold cU.W6;refine eW (λi:Int=>∃n:Nat,i=n/\n<=t.procs.l.length/\∀(p k:Nat) e,p<n->mh t p k e->¬Way t ⟨p,k+1⟩ ⟨p,k+1⟩) (λi:Int=>t.procs.l.length-i.toNat) ⟨0,rfl,Nat.zero_le _,λp k e S=>absurd S (by omega)⟩ ?_
 rintro i ⟨n,rfl,X,T⟩;unfold cU.JE;rw[cw];constructor
 .intro h;have w:n<t.procs.l.length:=by simpa [len]using h
  have G:=bQ w;have z:=ζd w;have Z:=(hS.2 _ (List.getElem_mem w)).1;generalize t.procs.l[n]=P at *;unfold cU.W7;refine eW (λi:Int=>∃m:Nat,i=m/\m<=P.events.l.length/\∀k,k<m->¬Way t ⟨n,k+1⟩ ⟨n,k+1⟩) (λi:Int=>P.events.l.length-i.toNat) ⟨0,rfl,Nat.zero_le _,λk hk=>absurd hk (by omega)⟩ ?_
  rintro i ⟨m,rfl,hm,hk⟩;unfold cU.Kj;rw[G,ζb,cw];constructor
  .intro h;have I:m<P.events.l.length:=by simpa [len]using h
   have J:=dn m (by omega)
   have hv:Vd t ⟨n,m+1⟩:=⟨P.events.l[m],dM.2 ⟨n,m,⟨P,z,ζd I⟩,rfl⟩⟩;rw[J,show (((m+1:Nat)):Int)=(m:Int)+1 from by simp,iW]
   refine(Th hS Y hF D hv).mono ?_;rintro s ⟨out,rfl,hI,A⟩;obtain⟨row,hr,aa⟩:=hI.shp n P z;have L:out≠[]:=by rintro rfl;cases hr
   have B:m+1<row.length:=by omega
   have h1:idx (nested out) (n:Int)=some (.row row):=by
    unfold nested;rw[if_neg L,lu];show (out.map Sl.row)[n]? = _;rw[List.getElem?_map,hr];rfl
   have h2:idx (Sl.row row) ((m:Int)+1)=some row[m+1]:=by
    rw[show (m:Int)+1=((m+1:Nat):Int)from by simp]
    exact bQ (s:=Sl.row row) B
   rw[h1,ζb,h2,ζb,cw];have hb:row[m+1]=qH out ⟨n,m+1⟩:=by
    unfold qH;rw[show ((⟨(n:Int),(m:Int)+1⟩:aY).proc).toNat=n from rfl,hr];dsimp only;rw[show ((m:Int)+1).toNat=m+1 from by omega,ζd B];rfl
   rw[hb];refine⟨λC=>(bf _).2 ((bf _).2 ((bf _).2 ⟨λh=>(by cases h),λh=>absurd ⟨_,(A _ hv).1 C⟩ h⟩)),λC=>(bf _).2 ⟨⟨m+1,by simp,by omega,λk ab=>?_⟩,by simp;omega⟩⟩
   by_cases e:k=m
   .subst e;exact λJ=>by rw[(A _ hv).2 J]at C;cases C
   .exact hk k (by omega)
  .intro h;have O:P.events.l.length<=m:=by simpa [len]using h
   refine(bf _).2 ((bf _).2 ⟨⟨n+1,dn n (by omega),by omega,λp k e S u=>?_⟩,by rw[dn n (by omega)];simp;omega⟩)
   by_cases e:p=n
   .subst e;obtain⟨Q,U,he⟩:=u;rw[z]at U;cases U;have:=(ζe.1 he).1;exact hk k (by omega)
   .exact T p k _ (by omega) u
 .intro h;have O:t.procs.l.length<=n:=by simpa [len]using h
  refine(bf _).2 ((bf _).2 ⟨λ_ ⟨x,W⟩=>?_,λ_=>rfl⟩)
  obtain⟨p,k,e,u,rfl,_⟩:=W.l.at_;obtain⟨P,D,_⟩:=id u;exact T p k e (by have:=(ζe.1 D).1;omega) u W
end Go.VE
namespace Go.VE
theorem HD {t:Trace} (B:∀x∈bU t,kL t.procs.l.length x.1.proc x.2):(∀(p k:Nat) e,mh t p k e->vr t (⟨p,k+1⟩,e)=0)↔yj t:=
 Iff.trans ⟨λh x w=>by obtain⟨p,k,h1,u⟩:=dM.1 w;obtain⟨a,e⟩:=x;simp only at h1 u;rw[u];exact h p k e h1,λh p k e z=>h _ (dM.2 ⟨p,k,z,rfl⟩)⟩ (LB B)
theorem MN {t:Trace} (hS:Small t) (hN:(bU t).length<1073741824):Wp (cU t) λr=>(r.2=0↔Ok t):=by
 have hn:=hS.1;unfold cU;rw[lC,ζb,cw];refine⟨λL=>(bf _).2 ⟨λh=>(by cases h),λh=>?_⟩,λL=>?_⟩
 .have h1:=h.one;have h8:=h.few;simp only[Bool.or_eq_true,decide_eq_true_eq,len]at L;omega
 have h8:1<=t.procs.l.length/\t.procs.l.length<=8:=by
  simp only[Bool.or_eq_false_iff,decide_eq_false_iff_not,len]at L;omega
 unfold cU.W1;refine eW (λi:Int=>∃n:Nat,i=n/\n<=t.procs.l.length/\∀p,p<n->si t p=0) (λi:Int=>t.procs.l.length-i.toNat) ⟨0,rfl,Nat.zero_le _,λp D=>absurd D (by omega)⟩ ?_
 rintro i ⟨n,rfl,ad,hh⟩;unfold cU.bu;rw[cw];constructor
 .intro h;have w:n<t.procs.l.length:=by simpa [len]using h
  rw[OT hS w,ζb,cw];refine⟨λh0=>(bf _).2 ⟨⟨n+1,dn n (by omega),by omega,λp D=>?_⟩,by rw[dn n (by omega)];simp;omega⟩,λh0=>(bf _).2 ((bf _).2 ⟨λh=>?_,λh=>?_⟩)⟩
  .by_cases e:p=n
   .subst e;simpa using h0
   .exact hh p (by omega)
  .simp only at h;simp[h]at h0
  .simp[h.heads n w]at h0
 intro h;have ae:t.procs.l.length<=n:=by simpa [len]using h
 rw[bf];unfold cU.W2;refine eW (λi:Int=>∃n:Nat,i=n/\n<=t.procs.l.length/\∀(p k:Nat) P e,p<n->t.procs.l[p]? = some P->P.events.l[k]? = some e->nN t.procs.l.length P p k e=0) (λi:Int=>t.procs.l.length-i.toNat) ⟨0,rfl,Nat.zero_le _,λp k P e D=>absurd D (by omega)⟩ ?_
 rintro i ⟨G,rfl,ab,U⟩;unfold cU.b9;rw[cw];constructor
 .intro h;have w:G<t.procs.l.length:=by simpa [len]using h
  have C:=bQ w;have A:=ζd w;have O:=(hS.2 _ (List.getElem_mem w)).1;generalize t.procs.l[G]=P at C A O;unfold cU.W3;refine eW (λi:Int=>∃m:Nat,i=m/\m<=P.events.l.length/\∀(k:Nat) e,k<m->P.events.l[k]? = some e->nN t.procs.l.length P G k e=0) (λi:Int=>P.events.l.length-i.toNat) ⟨0,rfl,Nat.zero_le _,λk e hk=>absurd hk (by omega)⟩ ?_
  rintro i ⟨m,rfl,hm,hk⟩;unfold cU.fe;rw[C,ζb,cw];constructor
  .intro h;have S:m<P.events.l.length:=by simpa [len]using h
   have B:=ζd S;have Z:=dn m (by omega)
   rw[O6 hS A B,ζb,cw];refine⟨λh0=>(bf _).2 ⟨⟨m+1,Z,by omega,λk e aa u=>?_⟩,by rw[Z];simp;omega⟩,λh0=>(bf _).2 ((bf _).2 ((bf _).2 ⟨λh=>?_,λh=>?_⟩))⟩
   .by_cases ek:k=m
    .subst ek;rw[B]at u;cases u;simpa using h0
    .exact hk k e (by omega) u
   .simp only at h;simp[h]at h0
   .simp[h.e8 G m P _ A B]at h0
  .intro h;have I:P.events.l.length<=m:=by simpa [len]using h
   refine(bf _).2 ((bf _).2 ⟨⟨G+1,dn G (by omega),by omega,λp k Q e D T u=>?_⟩,by rw[dn G (by omega)];simp;omega⟩)
   by_cases ep:p=G
   .subst ep;rw[A]at T;cases T;exact hk k e (by have:=(ζe.1 u).1;omega) u
   .exact U p k Q e (by omega) T u
 intro h;have I:t.procs.l.length<=G:=by simpa [len]using h
 have U:∀(p k:Nat) P e,t.procs.l[p]? = some P->P.events.l[k]? = some e->nN t.procs.l.length P p k e=0:=λp k P e J hk=>U p k P e (by have:=(ζe.1 J).1;omega) J hk
 have W:=E_ U;rw[bf];unfold cU.W4;refine eW (λi:Int=>∃n:Nat,i=n/\n<=t.procs.l.length/\∀(p k:Nat) e,p<n->mh t p k e->vr t (⟨p,k+1⟩,e)=0) (λi:Int=>t.procs.l.length-i.toNat) ⟨0,rfl,Nat.zero_le _,λp k e D=>absurd D (by omega)⟩ ?_
 rintro i ⟨q,rfl,hq,X⟩;unfold cU.JF;rw[cw];constructor
 .intro h;have w:q<t.procs.l.length:=by simpa [len]using h
  have C:=bQ w;have A:=ζd w;have O:=(hS.2 _ (List.getElem_mem w)).1;generalize t.procs.l[q]=P at C A O;unfold cU.W5;refine eW (λi:Int=>∃m:Nat,i=m/\m<=P.events.l.length/\∀(k:Nat) e,k<m->P.events.l[k]? = some e->vr t (⟨q,k+1⟩,e)=0) (λi:Int=>P.events.l.length-i.toNat) ⟨0,rfl,Nat.zero_le _,λk e hk=>absurd hk (by omega)⟩ ?_
  rintro i ⟨m,rfl,hm,hk⟩;unfold cU.xO;rw[C,ζb,cw];constructor
  .intro h;have S:m<P.events.l.length:=by simpa [len]using h
   have B:=ζd S;have Z:=dn m (by omega)
   have z:mh t q m P.events.l[m]:=⟨P,A,B⟩;rw[Z,show (((m+1:Nat)):Int)=(m:Int)+1 from by simp,ML hS z (W (⟨q,m+1⟩,P.events.l[m]) (dM.2 ⟨q,m,z,rfl⟩)),ζb,cw]
   refine⟨λh0=>(bf _).2 ⟨⟨m+1,by simp,by omega,λk e aa u=>?_⟩,by simp;omega⟩,λh0=>(bf _).2 ((bf _).2 ((bf _).2 ⟨λh=>?_,λh=>?_⟩))⟩
   .by_cases ek:k=m
    .subst ek;rw[B]at u;cases u;simpa using h0
    .exact hk k e (by omega) u
   .simp only at h;simp[h]at h0
   .simp[(HD W).2 h.z7 q m _ z]at h0
  .intro h;have I:P.events.l.length<=m:=by simpa [len]using h
   refine(bf _).2 ((bf _).2 ⟨⟨q+1,dn q (by omega),by omega,λp k e D z=>?_⟩,by rw[dn q (by omega)];simp;omega⟩)
   by_cases ep:p=q
   .subst ep;obtain⟨Q,T,u⟩:=z;rw[A]at T;cases T;exact hk k e (by have:=(ζe.1 u).1;omega) u
   .exact X p k e (by omega) z
 intro h;have af:t.procs.l.length<=q:=by simpa [len]using h
 have J:yj t:=(HD W).1 λp k e z=>X p k e (by obtain⟨P,J,_⟩:=z;have:=(ζe.1 J).1;omega) z
 have Y:¬JX t↔Ok t:=⟨λh=>⟨h8.1,h8.2,λp D=>hh p (by omega),U,J,h⟩,λh=>h.acyc⟩
 rw[bf,iW];refine(KM hS W J).mono λb hb=>?_
 rw[cw];exact⟨λh=>(bf _).2 ⟨λ_=>Y.1 (hb h),λ_=>rfl⟩,λ_=>(Vw hS hN W J).mono λr hr=>hr.trans Y⟩
theorem zW {t:Trace} (hS:Small t) (B:(bU t).length<1073741824):∃b,dK t=some b/\pN t=some b/\(b=true->VT t):=by
 obtain⟨b,u,h1,w⟩:=Ox hS B;refine⟨b,u,?_,h1⟩;unfold pN;obtain⟨r,hr,z⟩:=MN hS B;rw[hr,ζb]
 congr 1
 rw[Bool.eq_iff_iff,beq_iff_eq,z];exact⟨w,λh=>(h1 h).ok⟩
end Go.VE
namespace Go.VE
theorem PY {t:Trace} (hS:Small t) {c:Sl Int} (D:c.l.length=t.procs.l.length) {step:Int->Option (Fw Int Unit Unit)}
 (Y:∀i,step i=a_ (decide (i<(len c))) ((idx c i).bind λG=>(a_ (decide (G<0)) (some true) ((idx c i).bind λJ=>(idx t.procs i).bind λU=>some (decide (J>(len U.events)))):Option Bool).bind λW=>a_ W (some (.r ())) (some (.n (IntKind.wrap .i64 (i+1))))) (some (.x ()))) :
 Wp ((bV step 0).bind (Fw.elim (λ_=>some true) (λ_=>some false))) λb=>(b=true↔qF t c.l):=by
 have h1:=hS.1;refine eW (λs:Int=>∃n:Nat,s=n/\n<=c.l.length/\∀(p:Nat) (a:Int) (P:bT),p<n->c.l[p]? = some a->t.procs.l[p]? = some P->0<=a/\a<=P.events.l.length) (λs:Int=>c.l.length-s.toNat) ⟨0,rfl,Nat.zero_le _,λp a P h=>absurd h (by omega)⟩ ?_
 rintro s ⟨n,rfl,Q,C⟩;rw[Y,cw];constructor
 .intro h;have w:n<c.l.length:=by simpa [len]using h
  have u:n<t.procs.l.length:=by omega
  have I:=dn n (by omega)
  rw[bQ w,ζb,ζb,bQ u,ζb,lC,ζb,cw];constructor
  .intro z;have z:c.l[n]<0\/c.l[n]>t.procs.l[n].events.l.length:=by simpa [len]using z
   refine(bf _).2 ((bf _).2 ⟨λh=>(by cases h),λL=>?_⟩)
   have:=L.2 n _ _ (ζd w) (ζd u);omega
  .intro z;have z:0<=c.l[n]/\c.l[n]<=t.procs.l[n].events.l.length:=by simpa [len]using z
   refine(bf _).2 ⟨⟨n+1,I,by omega,λp a P S A B=>?_⟩,by rw[I];simp;omega⟩
   by_cases e:p=n
   .subst e;rw[ζd w]at A;cases A;rw[ζd u]at B;cases B;exact z
   .exact C p a P (by omega) A B
 .intro h;have O:c.l.length<=n:=by simpa [len]using h
  refine(bf _).2 ((bf _).2 ⟨λ_=>⟨D,λp a P A B=>C p a P (by have:=(ζe.1 A).1;omega) A B⟩,λ_=>rfl⟩)
theorem SP {t:Trace} (hS:Small t) {c:Sl Int} (B:c.l.length=t.procs.l.length):Wp (lJ t c) λb=>(b=true↔qF t c.l):=by
 unfold lJ;rw[show (len c==len t.procs)=true from by simp[len,B],bA]
 exact PY hS B λi=>rfl
theorem Fu {t:Trace} (hV:VT t) {A:cE 200 bK} (hM:jN t (bU t) A) {p k:Nat} {e:Event} (B:mh t p k e) (hk:e.kind=3):gD t 2 e.message=(ag A e.message).from_:=by
 obtain⟨y,h1,u,w⟩:=xK hV.formed hV.ok.z7 (dM.2 ⟨p,k,B,rfl⟩:((⟨p,k+1⟩:aY),e)∈bU t) hk;have:=hM.snd _ h1 u;simp only[w]at this;exact this.symm
theorem JR (t:Trace) (kind m:Int):gD t kind m=⟨0,0⟩/\(∀x∈bU t,¬(x.2.kind=kind/\x.2.message=m))\/∃z,(gD t kind m,z)∈bU t/\z.kind=kind/\z.message=m:=by
 cases h:(bU t).find? (kO kind m)with
 | some x=>
  obtain⟨w,A,B,C⟩:=vv h;exact .inr ⟨x.2,by rw[C];exact w,A,B⟩
 | none=>
  rw[List.find?_eq_none]at h;have u:∀x∈bU t,¬(x.2.kind=kind/\x.2.message=m):=λx D=>by have:=h x D;simpa [kO]using this
  exact .inl ⟨LN u,u⟩
theorem Kk {t:Trace} (hV:VT t) {r s:aY} {z e:Event} (hr:(r,z)∈bU t) (D:z.kind=3) (B:(s,e)∈bU t) (G:e.kind=2) (J:e.message=z.message):e.peer=r.proc/\z.peer=s.proc:=by
 have h:=hV.ok.z7.has _ hr D;have I:0<=z.peer:=by
  rcases hV.formed _ hr with h|⟨_,h,_⟩
  .simp only at h;omega
  .exact h
 rw[show z.peer=((z.peer.toNat:Nat):Int)from by omega,yV]at h
 obtain⟨k,y,w,h1,A,C⟩:=h;have u:((⟨(z.peer.toNat:Nat),k+1⟩:aY),y)∈bU t:=dM.2 ⟨_,k,w,rfl⟩;have:=hV.ok.z7.snd _ u _ B h1 G (by rw[J];exact A)
 simp only at this;subst this;cases y7 u B rfl;exact⟨C,by simp only;omega⟩
def qC (t:Trace) (c:List Int) (e:Event):Bool:=(gD t 3 e.message).index==0||decide ((gD t 3 e.message).index>(c[(gD t 3 e.message).proc.toNat]?).getD 0)
theorem Aa {α:Type} (f g:α->Bool):∀l:List α,l.countP f=l.countP (λx=>f x&&g x)+l.countP (λx=>f x && !g x)
 | []=>rfl
 | x::l=>by
  simp only[List.countP_cons,Aa f g l];cases f x <;> cases g x <;> simp <;> omega
theorem ug {α:Type} {f:α->Bool} {l:List α} {n k:Nat}:k∈places f (l.take n)↔k<n/\∃x,l[k]? = some x/\f x=true:=by
 rw[K4];simp only[List.getElem?_take];constructor
 .rintro⟨x,h1,u⟩;split at h1
  .exact⟨‹_›,x,h1,u⟩
  .cases h1
 .rintro⟨h,x,h1,u⟩;exact⟨x,by rw[if_pos h];exact h1,u⟩
theorem SN {t:Trace} (hV:VT t) {A:cE 200 bK} (hM:jN t (bU t) A) {c:List Int} (hC:Cons t A c) {p q:Nat} {P Q:bT} {a b:Int} (J:t.procs.l[p]? = some P) (D:t.procs.l[q]? = some Q) (ha:c[p]? = some a) (hb:c[q]? = some b) :
 (Q.events.l.take b.toNat).countP (xZ p)=(P.events.l.take a.toNat).countP λe=>eC q e && !qC t c e:=by
 have mem:∀{p:Nat} {P:bT} {k:Nat} {e:Event},t.procs.l[p]? = some P->P.events.l[k]? = some e->((⟨p,k+1⟩:aY),e)∈bU t:=λJ hk=>dM.2 ⟨_,_,⟨_,J,hk⟩,rfl⟩
 have a0:=(hC.1.2 p a P ha J).1;have b0:=(hC.1.2 q b Q hb D).1;have r1:∀k,k∈places (xZ p) (Q.events.l.take b.toNat)->∃(z:Event) (j:Nat) (e:Event),Q.events.l[k]? = some z/\z.kind=3/\P.events.l[j]? = some e/\e.kind=2/\e.peer=q/\e.message=z.message/\gD t 2 z.message=⟨p,j+1⟩/\(j:Int)+1<=a/\(k:Int)+1<=b:=λk hk=>by
  obtain⟨ai,z,h1,u⟩:=ug.1 hk;have u:z.kind=3/\z.peer=p:=by simpa [xZ]using u
  have hm:=mem D h1;obtain⟨e,e1,e2,e3⟩:=xK hV.formed hV.ok.z7 hm u.1;obtain⟨f1,f2⟩:=Kk hV hm u.1 e1 e2 e3;obtain⟨p',j,⟨P',Z,hj⟩,G⟩:=dM.1 e1;simp only at f1 G hj;rw[G]at f2;have ab:p'=p:=by simp only at f2;omega
  subst ab;rw[J]at Z;cases Z;obtain⟨x,C,I⟩:=hC.2 q k z b ⟨Q,D,h1⟩ hb (by omega) u.1
  rw[<-Fu hV hM ⟨Q,D,h1⟩ u.1,G]at C I;simp only[Int.toNat_natCast]at C I;rw[ha]at C;cases C;exact⟨z,j,e,h1,u.1,hj,e2,f1,e3,G,I,by omega⟩
 have s1:∀k,k∈places (λe=>eC q e && !qC t c e) (P.events.l.take a.toNat)->∃(e:Event) (j:Nat) (z:Event),P.events.l[k]? = some e/\e.kind=2/\Q.events.l[j]? = some z/\z.kind=3/\z.peer=p/\z.message=e.message/\gD t 3 e.message=⟨q,j+1⟩/\(j:Int)+1<=b:=λk hk=>by
  obtain⟨aj,e,h1,u⟩:=ug.1 hk;simp only[ζh,Bool.not_eq_true',qC,Bool.or_eq_false_iff,eC,beq_iff_eq,beq_eq_false_iff_ne,decide_eq_false_iff_not]at u;obtain⟨⟨g1,g2⟩,g3,g4⟩:=u;rcases JR t 3 e.message with⟨h,_⟩|⟨z,z1,z2,z3⟩
  .rw[h]at g3;exact absurd rfl g3
  .obtain⟨f1,f2⟩:=Kk hV z1 z2 (mem J h1) g1 z3.symm;obtain⟨q',j,⟨Q',aa,hj⟩,G⟩:=dM.1 z1;simp only at G hj f1 f2;rw[G]at f1 g4;have ad:q'=q:=by simp only at f1;omega
   subst ad;rw[D]at aa;cases aa;simp only[Int.toNat_natCast,hb,Option.getD_some]at g4;exact⟨e,j,z,h1,g1,hj,z2,f2,z3,G,by omega⟩
 apply Nat.le_antisymm
 .refine FN (λk=>match Q.events.l[k]? with|some z=>((gD t 2 z.message).index-1).toNat|none=>0) (λk hk=>?_) λk k' hk L he=>?_
  .obtain⟨z,j,e,h1,u,O,h4,h5,S,T,h8,h9⟩:=r1 k hk;rw[h1];simp only[T];rw[show ((j:Int)+1-1).toNat=j from by omega]
   refine ug.2 ⟨by omega,e,O,?_⟩
   have ae:gD t 3 e.message=⟨q,k+1⟩:=by
    rcases JR t 3 e.message with⟨_,h⟩|⟨z',z1,z2,z3⟩
    .exact absurd ⟨u,S.symm⟩ (h _ (mem D h1))
    .exact hV.ok.z7.rcv _ z1 _ (mem D h1) z2 u (by rw[z3,S])
   simp only[qC,ae,eC,h4,h5,Int.toNat_natCast,hb,Option.getD_some];simp;omega
  .obtain⟨z,j,e,h1,u,O,h4,h5,S,T,_⟩:=r1 k hk;obtain⟨z',j',e',w,U,B,af,ah,W,X,_⟩:=r1 k' L;simp only[h1,w,T,X]at he;have Y:j=j':=by omega
   subst Y;rw[O]at B;cases B;have:=hV.ok.z7.rcv _ (mem D h1) _ (mem D w) u U (by rw[<-S,W])
   simp only[aY.mk.injEq]at this;omega
 .refine FN (λk=>match P.events.l[k]? with|some e=>((gD t 3 e.message).index-1).toNat|none=>0) (λk hk=>?_) λk k' hk L he=>?_
  .obtain⟨e,j,z,h1,u,O,h4,h5,S,T,h8⟩:=s1 k hk;rw[h1];simp only[T];rw[show ((j:Int)+1-1).toNat=j from by omega]
   exact ug.2 ⟨by omega,z,O,by simp[xZ,h4,h5]⟩
  .obtain⟨e,j,z,h1,u,O,h4,h5,S,T,_⟩:=s1 k hk;obtain⟨e',j',z',w,U,B,af,ah,W,X,_⟩:=s1 k' L;simp only[h1,w,T,X]at he;have Y:j=j':=by omega
   subst Y;rw[O]at B;cases B;have:=hV.ok.z7.snd _ (mem J h1) _ (mem J w) u U (by rw[<-S,W])
   simp only[aY.mk.injEq]at this;omega
theorem FC {t:Trace} (hV:VT t) {A:cE 200 bK} (hM:jN t (bU t) A) {c:List Int} (hC:Cons t A c) {p q:Nat} {P Q:bT} {a b:Int} (B:t.procs.l[p]? = some P) (D:t.procs.l[q]? = some Q) (G:c[p]? = some a) (J:c[q]? = some b) :
 under t c p q=((P.events.l.take a.toNat).countP λe=>eC q e&&qC t c e:Nat):=by
 unfold under;rw[B,D,G,J];dsimp only;rw[SN hV hM hC B D G J,Aa (eC q) (qC t c)];omega
end Go.VE
namespace Go.VE
theorem nJ {σ ε ρ γ:Type} {step:σ->Option (Fw σ ε ρ)} {B:ε->Option γ} {fr:ρ->Option γ} {P:γ->Prop} (n:Nat) (I:Nat->σ->Prop) {s:σ} (h0:I 0 s)
 (h:∀i s,i<n->I i s->Wp (step s) λw=>match w with|.n D=>I (i+1) D|.x e=>Wp (B e) P|.r b=>Wp (fr b) P)
 (G:∀s,I n s->Wp (step s) λw=>match w with|.n _=>False|.x e=>Wp (B e) P|.r b=>Wp (fr b) P):Wp ((bV step s).bind (Fw.elim B fr)) P:=by
 have key:∀m i s,i+m=n->I i s->Wp ((bV step s).bind (Fw.elim B fr)) P:=by
  intro m
  induction m with
  | zero=>
   intro i s hi z;obtain⟨w,u,hr⟩:=G s (by grind)
   rw[eH,u]
   cases w with
   | n D=>grind
   | x e=>exact hr
   | r b=>exact hr
  | succ m A=>
   intro i s hi z;obtain⟨w,u,hr⟩:=h i s (by omega) z
   rw[eH,u]
   cases w with
   | n D=>grind
   | x e=>exact hr
   | r b=>exact hr
 exact key n 0 s (Nat.zero_add n) h0
theorem G5:∀{c:List Int} {p:Nat} {a b:Int},c[p]? = some a->(c.set p b).sum=c.sum-a+b
 | [],_,_,_,h=>by simp_all
 | x::c,0,a,b,h=>by grind
 | x::c,p+1,a,b,h=>by
  have:=G5   (b:=b) (by simpa using h)
  grind
theorem zh:∀{c:List Int},(∀(p:Nat) a,c[p]? = some a->0<=a)->0<=c.sum
 | [],_=>by simp
 | x::c,h=>by
  have h1:=h 0 x rfl;have u:=zh (c:=c) λp a w=>h (p+1) a (by grind)
  grind
theorem JN:∀{c:List Int} {l:List Nat},c.length=l.length->(∀(i:Nat) a b,c[i]? = some a->l[i]? = some b->a<=(b:Nat))->c.sum<=(l.sum:Nat)
 | [],[],_,_=>by simp
 | x::c,y::l,B,h=>by
  have h1:=h 0 x y rfl rfl;have u:=JN (c:=c) (l:=l) (by grind) λi a b w z=>h (i+1) a b (by grind) (by grind)
  grind
section
variable {t:Trace} {A:cE 200 bK} {c:List Int}
theorem qF.pos (h:qF t c) (p:Nat) (a:Int) (B:c[p]? = some a):0<=a:=
 (h.2 p a _ B (ζd (by have:=(ζe.1 B).1;rw[<-h.1];simp_all))).1
theorem qF.at_ (h:qF t c) {p:Nat} (hp:p<t.procs.l.length):∃a,c[p]? = some a:=⟨_,ζd (by rw[h.1];omega)⟩
theorem qF.sum (h:qF t c):0<=c.sum/\c.sum<=(vS t:Nat):=
 ⟨zh h.pos,JN (by simp[h.1]) λi a b z u=>by
  cases w:t.procs.l[i]? with
  | none=>grind
  | some P=>simp[w]at u;rw[<-u];exact(h.2 i a P z w).2⟩
theorem qF.set (h:qF t c) {p:Nat} {b:Int} {P:bT} (B:t.procs.l[p]? = some P) (h0:0<=b) (h1:b<=P.events.l.length):qF t (c.set p b):=by
 refine⟨by simp[h.1],λq a Q u w=>?_⟩
 rw[List.getElem?_set]at u;split at u
 .grind
 .exact h.2 q a Q u w
def WN (t:Trace) (A:cE 200 bK) (c:List Int) (p:Nat):Prop:=∃P e a,t.procs.l[p]? = some P/\c[p]? = some a/\P.events.l[a.toNat]? = some e/\(e.kind=3->∃b,c[(ag A e.message).from_.proc.toNat]? = some b/\(ag A e.message).from_.index<=b)
theorem mh.one {p k:Nat} {e f:Event} (h:mh t p k e) (g:mh t p k f):e=f:=by
 obtain⟨P,u,w⟩:=h;obtain⟨Q,z,A⟩:=g
 grind
theorem og.le (h:og t A c) {p:Nat} {a b:Int} (D:c[p]? = some a) (J:a<=b) (U:∀(k:Nat) e,mh t p k e->a<=k->(k:Int)<b->e.kind=3->∃B,(c.set p b)[(ag A e.message).from_.proc.toNat]? = some B/\(ag A e.message).from_.index<=B):og t A (c.set p b):=by
 have I:=(ζe.1 D).1;have up:∀(q:Nat) x,c[q]? = some x->∃y,(c.set p b)[q]? = some y/\x<=y:=λq x u=>by
  rw[List.getElem?_set]
  grind
 intro q k e x w u hk G;rw[List.getElem?_set]at u;have old:∀x,c[q]? = some x->k<x->∃B,(c.set p b)[(ag A e.message).from_.proc.toNat]? = some B/\(ag A e.message).from_.index<=B:=λx u hk=>by
  obtain⟨y,L,O⟩:=h q k e x w u hk G;obtain⟨z,Q,S⟩:=up _ y L;exact⟨z,Q,by omega⟩
 split at u
 .rename_i T;subst T;simp[I]at u;subst u
  by_cases C:k<a
  .exact old a D C
  .exact U k e w (by omega) hk G
 grind
theorem CE (hV:VT t) (hM:jN t (bU t) A) {p k:Nat} {e:Event} (B:mh t p k e) (D:e.kind=3):∃q j:Nat,(ag A e.message).from_=⟨q,j+1⟩/\q≠p/\G2 t ⟨q,j+1⟩ ⟨p,k+1⟩/\∃y,mh t q j y:=by
 obtain⟨q,j,y,u,z,C,y3,y4,y5⟩:=GQ hV hM B D;have w:(⟨p,k+1⟩,e)∈bU t:=dM.2 ⟨p,k,B,rfl⟩;refine⟨q,j,y5,?_,⟨y,e,dM.2 ⟨q,j,u,rfl⟩,w,z,D,C⟩,y,u⟩;rcases hV.formed _ w with h|⟨_,_,_,h,_⟩
 .grind
 grind
theorem Cons.up (hV:VT t) (hM:jN t (bU t) A) (hC:Cons t A c) {p:Nat} {a:Int} {P:bT} (B:t.procs.l[p]? = some P) (D:c[p]? = some a) (U:a<P.events.l.length):WN t A c p↔Cons t A (c.set p (a+1)):=by
 have h0:=hC.1.pos p a D;have W:=(ζe.1 D).1;constructor
 .rintro⟨Q,e,x,G,I,L,w⟩;rw[B]at G;cases G;rw[D]at I;cases I;refine⟨hC.1.set B (by omega) (by omega),hC.2.le D (by omega) λk f z O S X=>?_⟩
  have C:k=a.toNat:=by omega
  subst C;cases z.one ⟨P,B,L⟩
  grind
 .intro h;have u:a.toNat<P.events.l.length:=by omega
  refine⟨P,P.events.l[a.toNat],a,B,D,ζd u,λw=>?_⟩
  obtain⟨b,J,T⟩:=h.2 p a.toNat _ (a+1) ⟨P,B,ζd u⟩ (by simp_all) (by omega) w
  rw[List.getElem?_set]at J;split at J
  .obtain⟨q,j,f1,f2,_⟩:=CE hV hM ⟨P,B,ζd u⟩ w
   grind
  grind
noncomputable def IK (t:Trace) (x:aY):Nat:=by
 classical
 exact(bU t).countP λz=>decide (Way t z.1 x)
theorem Kb (hV:VT t) {x y:aY} (h:Way t x y):IK t x<IK t y:=by
 classical
 refine AD (λz _ u=>?_) ?_
 .have u:Way t z.1 x:=by grind
  simpa using u.trans h
 .obtain⟨e,w⟩:=h.l;exact⟨(x,e),w,by simpa using λk=>hV.ok.acyc ⟨x,k⟩,by grind⟩
theorem RT (x:aY):IK t x<=(bU t).length:=by
 classical
 unfold IK;grind
theorem Vd.of {p k:Nat} {e:Event} (h:mh t p k e):Vd t ⟨p,k+1⟩:=⟨e,dM.2 ⟨p,k,h,rfl⟩⟩
theorem G7 {p:Nat} {P:bT} (B:t.procs.l[p]? = some P):∀(d k:Nat),k+d+1<P.events.l.length->Way t ⟨p,k+1⟩ ⟨p,((k+d+1:Nat):Int)+1⟩
 | 0,k,h=>.single ⟨Vd.of ⟨P,B,ζd (by omega)⟩,Vd.of ⟨P,B,ζd h⟩,.inl (by simp)⟩
 | d+1,k,h=>(G7 B d k (by omega)).tail ⟨Vd.of ⟨P,B,ζd (show k+d+1<_ by omega)⟩,Vd.of ⟨P,B,ζd h⟩,.inl (by simp;omega)⟩
theorem Uk {q k:Nat} {b:Int} {Q:bT} {x:aY} (B:t.procs.l[q]? = some Q) (h:Way t x ⟨q,k+1⟩) (h1:(k:Int)<b) (D:b<=Q.events.l.length):Way t x ⟨q,b⟩:=by
 by_cases e:b=k+1
 .grind
 .have:=G7 B (b.toNat-k-2) k (by omega)
  rw[show ((k+(b.toNat-k-2)+1:Nat)+1)=b from by omega]at this
  exact h.trans this
theorem Cons.J9 (hV:VT t) (hM:jN t (bU t) A) (hC:Cons t A c) {p:Nat} {a:Int} (D:c[p]? = some a) (h0:0<a):Cons t A (c.set p (a-1))\/∃(q:Nat) (b:Int),c[q]? = some b/\0<b/\Way t ⟨p,a⟩ ⟨q,b⟩:=by
 have Y:=(ζe.1 D).1;have L:=ζd (show p<t.procs.l.length by rw[<-hC.1.1];omega)
 have hr:=hC.1.2 p a _ D L;refine Classical.byContradiction λB=>B (.inl ⟨hC.1.set L (by omega) (by omega),λq k e x u I hk O=>?_⟩)
 obtain⟨z,w,Z⟩:∃z,c[q]? = some z/\x<=z:=by
  rw[List.getElem?_set]at I;split at I
  .rename_i e2;subst e2;simp[Y]at I;exact⟨a,D,by omega⟩
  grind
 obtain⟨y,G,C⟩:=hC.2 q k e z u w (by omega) O
 obtain⟨r,j,f1,f2,f3,_⟩:=CE hV hM u O;rw[f1]at G C ⊢;simp only[Int.toNat_natCast]at G C ⊢
 by_cases e2:p=r
 .subst e2;rw[D]at G;cases G;refine⟨a-1,by simp_all,?_⟩
  refine Classical.byContradiction λhj=>B (.inr ⟨q,z,w,by omega,?_⟩)
  have:a=j+1:=by omega
  subst this;obtain⟨Q,S,_⟩:=u;have J:=hC.1.2 q z Q w S;obtain⟨T,U,W,X,m3⟩:=f3;exact Uk S (.single ⟨⟨T,W⟩,⟨U,X⟩,.inr ⟨T,U,W,X,m3⟩⟩) (by omega) J.2
 simp_all
theorem Cons.Vp (hV:VT t) (hM:jN t (bU t) A) (hC:Cons t A c):∀(n p:Nat) (a:Int),c[p]? = some a->0<a->(bU t).length-IK t ⟨p,a⟩<=n->∃(q:Nat) (b:Int),c[q]? = some b/\0<b/\Cons t A (c.set q (b-1)):=by
 intro n
 induction n with
 | zero=>
  intro p a u h0 B;rcases hC.J9 hV hM u h0 with h|⟨q,b,_,_,w⟩
  .grind
  .have:=Kb hV w;have:=RT (t:=t) ⟨q,b⟩;omega
 | succ n C=>
  intro p a u h0 B;rcases hC.J9 hV hM u h0 with h|⟨q,b,D,z,w⟩
  .grind
  .have:=Kb hV w;exact C q b D z (by omega)
theorem Cons.down (hV:VT t) (hM:jN t (bU t) A) (hC:Cons t A c) (B:0<c.sum):∃(q:Nat) (b:Int),c[q]? = some b/\0<b/\Cons t A (c.set q (b-1)):=by
 obtain⟨p,a,u,h0⟩:∃(p:Nat) (a:Int),c[p]? = some a/\0<a:=by
  refine Classical.byContradiction λw=>?_
  have C:∀a∈c,a=0:=λa u=>by
   obtain⟨p,z⟩:=List.mem_iff_getElem?.1 u;have:=hC.1.pos p a z
   grind
  have:c.sum=0:=by
   clear hC B w
   induction c with
   | nil=>rfl
   | cons x c D=>simp_all
  omega
 exact hC.Vp hV hM _ p a u h0 (Nat.le_refl _)
theorem Cons.Fq (hV:VT t) (hM:jN t (bU t) A):∀(d:Nat) {c:List Int} {k:Nat},Cons t A c->c.sum=((k+d:Nat):Int)->∃c',Cons t A c'/\c'.sum=(k:Int)
 | 0,c,k,hC,D=>⟨c,hC,by grind⟩
 | d+1,c,k,hC,D=>by
  obtain⟨q,b,G,J,B⟩:=hC.down hV hM (by omega)
  exact Cons.Fq hV hM d B (by rw[G5 G];omega)
end
end Go.VE
namespace Go.VE
theorem nV {α:Type} {s:Sl α} {n:Nat} (h:n<s.l.length):decide ((n:Int)<len s)=true:=by simp[len];omega
theorem pQ {α:Type} {s:Sl α}:decide ((s.l.length:Int)<len s)=false:=by simp[len]
theorem Td {α:Type} {s:Sl α} {x:α} (h:s.l.length<2147483648):∃r,jf s x=some r/\r.l=s.l++[x]:=by
 unfold jf;rw[if_pos (by omega)];exact⟨_,rfl,rfl⟩
section
variable {t:Trace} {A:cE 200 bK}
def Xh (t:Trace) (A:cE 200 bK) (c:List Int) (n:Nat):Prop:=∀(p k:Nat) (e:Event) (a:Int),p<n->mh t p k e->c[p]? = some a->(k:Int)<a->e.kind=3->∃b,c[(ag A e.message).from_.proc.toNat]? = some b/\(ag A e.message).from_.index<=b
theorem N3 (hS:Small t) (hV:VT t) (hM:jN t (bU t) A) {c:Sl Int} (Y:qF t c.l):Wp (dD t c) λb=>(b=true↔og t A c.l):=by
 have aa:=Y.1;have ab:=hV.few;unfold dD dD.W1;refine nJ c.l.length (λn s=>s=(n:Int)/\Xh t A c.l n) ⟨rfl,λp k e a h=>absurd h (by omega)⟩ ?_ ?_
 .rintro n _ B ⟨rfl,T⟩;unfold dD.bu;rw[nV B,bA];have z:n<t.procs.l.length:=by omega
  have ad:=(hS.2 _ (List.getElem_mem z)).1;have C:=ζd z;have D:=ζd B;obtain⟨r1,r2⟩:=Y.2 n _ _ D C;have J:=bQ B;generalize c.l[n]=a at *;generalize t.procs.l[n]=P at *;unfold dD.W2;refine nJ a.toNat (λm s=>s=(m:Int)/\∀(k:Nat) (e:Event),k<m->mh t n k e->e.kind=3->∃b,c.l[(ag A e.message).from_.proc.toNat]? = some b/\(ag A e.message).from_.index<=b) ⟨rfl,λk e h=>absurd h (by omega)⟩ ?_ ?_
  .rintro m _ hm ⟨rfl,U⟩;unfold dD.b9;have L:m<P.events.l.length:=by omega
   have u:mh t n m P.events.l[m]:=⟨P,C,ζd L⟩;rw[J,ζb,show decide ((m:Int)<a)=true from by simp;omega,bA,lu,C,ζb,bQ L,ζb,dn m (by omega)]
   generalize P.events.l[m]=e at *;have more:(e.kind=3->∃b,c.l[(ag A e.message).from_.proc.toNat]? = some b/\(ag A e.message).from_.index<=b)->∀(k:Nat) (e:Event),k<m+1->mh t n k e->e.kind=3->∃b,c.l[(ag A e.message).from_.proc.toNat]? = some b/\(ag A e.message).from_.index<=b:=λh k f hk Z w=>by
    by_cases ek:k=m
    .subst ek;cases u.one Z;exact h w
    .exact U k f (by omega) Z w
   rw[cw];refine⟨λw=>?_,λw=>(bf _).2 ⟨rfl,more λk=>by simp[k]at w⟩⟩
   have w:e.kind=3:=by simpa using w
   obtain⟨q,j,f1,_,_,y,Q,hQ,_⟩:=CE hV hM u w;have G:q<c.l.length:=by have:=(ζe.1 hQ).1;omega
   rw[find_eq hS,Fu hV hM u w,ζb,f1];simp only;rw[bQ G,ζb,cw];refine⟨λW=>(bf _).2 ((bf _).2 ((bf _).2 ⟨λh=>(by cases h),λhC=>?_⟩)),λX=>(bf _).2 ⟨rfl,more λ_=>?_⟩⟩
   .obtain⟨b,O,S⟩:=hC n m e a u D (by omega) w
    rw[f1]at O S;simp only[Int.toNat_natCast,ζd G,ζa]at O S;simp only[decide_eq_true_eq]at W;omega
   .rw[f1];exact⟨c.l[q],by simp only[Int.toNat_natCast];exact ζd G,by simp at X ⊢;omega⟩
  .rintro _ ⟨rfl,U⟩;unfold dD.b9;rw[J,ζb,show decide ((a.toNat:Int)<a)=false from by simp;omega,bE]
   refine(bf _).2 ((bf _).2 ⟨dn n (by omega),λp k e x hp u I hk w=>?_⟩)
   by_cases e2:p=n
   .subst e2;rw[D]at I;cases I;exact U k e (by omega) u w
   .exact T p k e x (by omega) u I hk w
 .rintro _ ⟨rfl,T⟩;unfold dD.bu;rw[pQ,bE];exact(bf _).2 ((bf _).2 ⟨λ_ p k e a u I=>T p k e a (ζe.1 I).1 u I,λ_=>rfl⟩)
end
end Go.VE
namespace Go.VE
def ins (s:Sl (Sl Int)):List (List Int):=s.l.map Sl.l
end Go.VE
namespace Go.VE
section
variable {t:Trace} {A:cE 200 bK}
theorem JU {s:Sl (Sl Int)} {d:List Int}:d∈ins s↔∃x∈s.l,x.l=d:=by unfold ins;exact List.mem_map
def QJ (t:Trace) (A:cE 200 bK) (k:Nat) (s:Sl (Sl Int)):Prop:=∀d,d∈ins s↔Cons t A d/\d.sum=(k:Int)
theorem QJ.none (hV:VT t) (hM:jN t (bU t) A) {k:Nat} {s:Sl (Sl Int)} (h:QJ t A k s) (D:s.l.length=0) {d:List Int} (B:Cons t A d):d.sum<(k:Int):=by
 refine Classical.byContradiction λu=>?_
 have h0:=zh B.1.pos;obtain⟨c,hC,w⟩:=Cons.Fq hV hM (d.sum.toNat-k) (k:=k) B (by omega)
 have:=(h c).2 ⟨hC,w⟩;obtain⟨x,z,_⟩:=JU.1 this;have:=List.length_pos_of_mem z;omega
theorem QJ.last {s:Sl (Sl Int)} (h:QJ t A (vS t+1) s):s.l.length=0:=by
 refine Classical.byContradiction λu=>?_
 have w:=List.getElem_mem (show 0<s.l.length by omega)
 have:=(h s.l[0].l).1 (JU.2 ⟨_,w,rfl⟩);have:=this.1.1.sum;omega
end
end Go.VE
namespace Go.VE
end Go.VE
namespace Go.VE
end Go.VE
namespace Go.VE
section
variable {t:Trace} {A:cE 200 bK}
end
end Go.VE
namespace Go.VE
section
variable {t:Trace} {A:cE 200 bK}
structure XA (t:Trace) (A:cE 200 bK) (k:Nat) (o:Sl (Sl (Sl Int))):Prop where
 nd:(o.l.flatMap ins).Nodup
 mem:∀d,d∈o.l.flatMap ins↔Cons t A d/\d.sum<(k:Int)
end
end Go.VE
namespace Go.VE
section
variable {t:Trace} {A:cE 200 bK}
end
end Go.VE
namespace Go.VE
section
variable {t:Trace} {A:cE 200 bK}
end
end Go.VE
namespace Go.VE
section
variable {t:Trace} {A:cE 200 bK}
theorem Ng (hS:Small t) (hv:dK t=some true) (hV:VT t) (hM:jN t (bU t) A) {c:Sl Int} (hC:Cons t A c.l) {p q:Nat} (hp:p<t.procs.l.length) (D:q<t.procs.l.length) :
 dc t (Sl.row [c]:Sl (Sl Int)) (Sl.row [(p:Int),(q:Int)]:Sl Int)=some 0:=by
 refine Wp.eq ?_;have u:=hC.1.1;unfold dc wI;rw[hv,ζb,bA,AA (f:=λz=>(jU z t).getD false) (λz _=>JP.ok ((bf _).2 trivial)) (by simp[Sl.l]),ζb,ζb,ζb]
 have w:(!((Sl.row [c]:Sl (Sl Int)).l.any λz=>(jU z t).getD false))=true:=by
  simp[Sl.l,jU,len,u] <;> exact congrArg Int.ofNat u
 rw[w,bA];unfold dc.W1;refine nJ 1 (λn s=>s=(n:Int)) rfl ?_ ?_
 .rintro n _ B rfl;obtain rfl:n=0:=by omega
  unfold dc.bu;rw[show decide (((0:Nat):Int)<len (Sl.row [c]:Sl (Sl Int)))=true from rfl,bA,show idx (Sl.row [c]:Sl (Sl Int)) ((0:Nat):Int)=some c from rfl,ζb,iW];refine(Dl hS u).mono λb C=>?_
  rw[C.2 hC.1,bA];exact(bf _).2 rfl
 .rintro _ rfl;unfold dc.bu;rw[show decide (((1:Nat):Int)<len (Sl.row [c]:Sl (Sl Int)))=false from rfl,bE,bf];have proc:∀r:Nat,r<t.procs.l.length->uc t r=some true:=λr hr=>by
   unfold uc;rw[show decide ((r:Int)>=0)=true from by simp,bA,nV hr];rfl
  show Wp (dc.W2 (Sl.row [c]) (Sl.row [(p:Int),(q:Int)]) 2 0 t) _;unfold dc.W2;refine nJ 2 (λn s=>s=(n:Int)) rfl ?_ ?_
  .rintro n _ B rfl;unfold dc.b9;rw[show decide ((n:Int)<2)=true from by simp;omega,bA]
   have G:∃r:Nat,idx (Sl.row [(p:Int),(q:Int)]) (n:Int)=some (r:Int)/\r<t.procs.l.length:=by
    rcases (show n=0\/n=1 by omega)with rfl|rfl
    .exact⟨p,rfl,hp⟩
    .exact⟨q,rfl,D⟩
   obtain⟨r,h1,I⟩:=G;rw[h1,ζb,proc r I,ζb,bA];exact(bf _).2 (dn n (by omega))
  .rintro _ rfl;unfold dc.b9;rw[show decide (((2:Nat):Int)<2)=false from rfl,bE,bf];show Wp (dc.W3 (Sl.row [c]) 1 0 t) _;unfold dc.W3;refine nJ 1 (λn s=>s=(n:Int)) rfl ?_ ?_
   .rintro n _ B rfl;obtain rfl:n=0:=by omega
    unfold dc.fe;rw[show decide (((0:Nat):Int)<1)=true from rfl,bA,show idx (Sl.row [c]:Sl (Sl Int)) ((0:Nat):Int)=some c from rfl,ζb];unfold vw;rw[iW,iW];refine(DY hS hv hV hM hC.1).mono λr hr=>?_
    rw[bf,hr.2 hC.2];exact(bf _).2 rfl
   .rintro _ rfl;unfold dc.fe;rw[show decide (((1:Nat):Int)<1)=false from rfl,bE,bf];exact(bf _).2 rfl
theorem Qg (hS:Small t) (hv:dK t=some true) (kind m:Int):gW t kind m=some (match (bU t).find? (kO kind m)with|some x=>(x.1,true)|none=>(⟨0,0⟩,false)):=by
 refine Wp.eq ?_;unfold gW;rw[hv,ζb,bA];unfold je;rw[ζb];unfold gW.E1;rw[sY hS,ζb];refine xP (λk _=>((bU t).take k).find? (kO kind m)=none) (by simp) ?_ ?_
 .intro k y _ z u;have w:(bU t).take (k+1)=(bU t).take k++[y]:=by rw[List.take_add_one,z];rfl
  have A:(y.2.kind==kind&&y.2.message==m)=kO kind m y:=rfl;unfold gW.jt;rw[mK,ζb,A,cw];constructor
  .intro hc;refine(bf _).2 ((bf _).2 ?_);have:(bU t).find? (kO kind m)=some y:=by
    rw[<-List.take_append_drop (k+1) (bU t),w,List.find?_append,List.find?_append,u];simp[hc]
   rw[this]
  .intro hc;rw[bf,w,List.find?_append,u];simp[hc]
 .intro _ u;rw[List.take_length]at u;exact(bf _).2 (by rw[u])
theorem Qx (hS:Small t) (hv:dK t=some true) (hV:VT t) (hM:jN t (bU t) A) {c:Sl Int} (hC:Cons t A c.l) {p q:Nat} (hp:p<t.procs.l.length) (J:q<t.procs.l.length) :
 Wp (ig t c p q) λr=>r.2=0/\(r.1.l.length:Int)=under t c.l p q:=by
 have I:=ζd hp;obtain⟨a,L⟩:=hC.1.at_ hp;obtain⟨b,C⟩:=hC.1.at_ J;rw[FC hV hM hC I (ζd J) L C];have Y:=(hS.2 _ (List.getElem_mem hp)).1;obtain⟨a0,a1⟩:=hC.1.2 p a _ L I;generalize Z:t.procs.l[p]=P at *;unfold ig;rw[Ng hS hv hV hM hC hp J,ζb,show ((0:Int)==0)=true from rfl,bA,lu,I,ζb,show idx c (p:Int)=some a from by rw[lu];exact L,ζb]
 obtain⟨y,X,D⟩:=uF P.events a.toNat (by omega)
 rw[show ((a.toNat:Nat):Int)=a from by omega]at X
 rw[X,ζb,<-D];have aa:y.l.length<=P.events.l.length:=by rw[D,List.length_take];omega
 unfold ig.W1;refine nJ y.l.length (λn s=>s.2.1=len y/\s.2.2=(n:Int)/\s.1.l.length=(y.l.take n).countP λe=>eC q e&&qC t c.l e) ⟨rfl,rfl,rfl⟩ ?_ ?_
 .rintro n ⟨o,_,_⟩ w ⟨e1,e2,z⟩;simp only at e1 e2 z;subst e1 e2;have O:=List.countP_le_length (p:=λe=>eC q e&&qC t c.l e) (l:=y.l.take n)
  rw[List.length_take]at O;have u:(y.l.take (n+1)).countP (λe=>eC q e&&qC t c.l e)=o.l.length+if eC q y.l[n]&&qC t c.l y.l[n]then 1 else 0:=by
   rw[List.take_add_one,ζd w,List.countP_append,z];show _+List.countP _ [y.l[n]]=_;rw[List.countP_cons,List.countP_nil];simp
  have Q:=dn n (by omega)
  unfold ig.bu;rw[nV w,bA,bQ w,ζb];generalize y.l[n]=e at u;have S:(a_ (e.kind==2) (some (!(e.peer==(q:Int)))) (some true):Option Bool)=some (!eC q e):=by
   unfold eC;cases e.kind==2 <;> cases e.peer==(q:Int) <;> rfl
  rw[S,ζb,cw];refine⟨λB=>(bf _).2 ⟨rfl,Q,by rw[u,show eC q e=false from by simpa using B];rfl⟩,λB=>?_⟩
  have B:eC q e=true:=by simpa using B
  unfold tG;rw[Qg hS hv,ζb,ζb];have hc:(a_ (match (bU t).find? (kO 3 e.message)with|some x=>(x.1,true)|none=>((⟨0,0⟩:aY),false)).2 ((idx c (match (bU t).find? (kO 3 e.message)with|some x=>(x.1,true)|none=>((⟨0,0⟩:aY),false)).1.proc).bind λT=>some (decide ((match (bU t).find? (kO 3 e.message)with|some x=>(x.1,true)|none=>((⟨0,0⟩:aY),false)).1.index>T))) (some true):Option Bool)=some (qC t c.l e):=by
   unfold qC gD
   cases hf:(bU t).find? (kO 3 e.message)with
   | none=>rfl
   | some x=>
    obtain⟨U,j,⟨Q',W,_⟩,hx⟩:=dM.1 (vv hf).1;have G:U<c.l.length:=by rw[hC.1.1];exact(ζe.1 W).1
    simp only[hx,bA];rw[bQ G,ζb,show ((U:Nat):Int).toNat=U from rfl,ζd G,show (((j:Int)+1)==0)=false from by simp;omega,Bool.false_or];rfl
  rw[hc,ζb,cw];refine⟨λC=>?_,λC=>(bf _).2 ⟨rfl,Q,by rw[u,B,C];rfl⟩⟩
  obtain⟨r,h1,h2⟩:=Td (s:=o) (x:=e.message) (by omega)
  rw[h1,ζb,bf];exact⟨rfl,Q,by rw[h2,u,B,C,ζi];rfl⟩
 .rintro⟨o,_,_⟩ ⟨e1,e2,z⟩;simp only at e1 e2 z;subst e1 e2;unfold ig.bu;rw[pQ,bE,bf];refine(bf _).2 ⟨rfl,?_⟩;rw[List.take_length]at z;simp only[z]
end
end Go.VE
namespace Go.VE
section
variable {α σ:Type}
def xA (p:α->σ->Option (Bool×σ)):List α->σ->Option (Bool×σ)
 | [],x=>some (false,x)
 | a::r,x=>(p a x).bind λy=>if y.1 then some (true,y.2)else xA p r y.2
theorem Ke {s:Sl α} {p:α->σ->Option (Bool×σ)} {x:σ} (B:s.l.length<1073741824):Ar s p x=xA p s.l x:=by
 have key:∀(rem:List α) (j:Nat) (x:σ),s.l.drop j=rem->((bV (Dr s p) ((j:Int),x)).bind (Fw.elim (λe=>some ((-1:Int),e)) λe=>some e)).bind (λy:Int×σ=>some (decide (y.1>=0),y.2))=xA p rem x:=by
  intro rem
  induction rem with
  | nil=>
   intro j x hd;have h1:decide ((j:Int)<len s)=false:=by
    have:s.l.length<=j:=by simpa using hd
    simp[len];omega
   rw[eH];simp only[Dr,h1,a_,Bool.false_eq_true,if_false,ζb,Fw.elim,xA];rfl
  | cons a rem u=>
   intro j x hd;have h1:j<s.l.length:=by
    apply Classical.byContradiction;intro A;rw[List.drop_eq_nil_of_le (by omega)]at hd;cases hd
   have w:=List.drop_eq_getElem_cons h1;rw[w]at hd;simp only[List.cons.injEq]at hd;rw[eH];simp only[Dr,nV h1,a_,if_true,bQ h1,ζb,hd.1,xA]
   cases p a x with
   | none=>rfl
   | some y=>
    obtain⟨b,z⟩:=y;simp only[ζb]
    cases b with
    | true=>simp[Fw.elim]
    | false=>
     simp only[Bool.false_eq_true,if_false,ζb,dn j (by omega)]
     exact u (j+1) z hd.2
 exact key s.l 0 x rfl
def En (p:α->Option Bool):List α->Option Bool
 | []=>some false
 | a::r=>(p a).bind λb=>if b then some true else En p r
theorem EP (p:α->Option Bool):∀l:List α,xA (λx (u:Unit)=>(p x).map λb=>(b,u)) l ()=(En p l).map λb=>(b,())
 | []=>rfl
 | a::r=>by
  simp only[xA,En]
  cases p a with
  | none=>rfl
  | some b=>cases b <;> simp[EP p r]
theorem Aj {s:Sl α} (p:α->Option Bool) (B:s.l.length<1073741824):Ar s (λx (u:Unit)=>(p x).map λb=>(b,u)) ()=(En p s.l).map λb=>(b,()):=by rw[Ke B,EP]
theorem yW {p:α->Option Bool} {f:α->Bool}:∀{l:List α},(∀x∈l,p x=some (f x))->En p l=some (l.any f)
 | [],_=>rfl
 | a::r,h=>by
  simp only[En,h a (by simp),ζb,List.any_cons,yW (λx B=>h x (List.mem_cons_of_mem _ B))]
  cases f a <;> rfl
theorem iK {δ:Type} {b:(α->Option δ)->α->Option δ} {n:Nat} (h:0<n) (z:α):dz b n z=b (dz b (n-1)) z:=by
 cases n with
 | zero=>omega
 | succ n=>rfl
end
def yY (l:List Int) (az:List Assign):List Int:=az.foldl (λl a=>l.set a.var.toNat a.value) l
def gV (P:bT):Nat->List Int
 | 0=>P.vars.l.map Var.init_
 | k+1=>match P.events.l[k]? with
  | some e=>yY (gV P k) e.assign.l
  | none=>gV P k
theorem GP:∀(az:List Assign) (l:List Int),(yY l az).length=l.length
 | [],l=>rfl
 | a::r,l=>by
  show (yY (l.set a.var.toNat a.value) r).length=_;rw[GP r];simp
theorem oC (P:bT):∀k,(gV P k).length=P.vars.l.length
 | 0=>by simp[gV]
 | k+1=>by
  unfold gV;split
  .rw[GP,oC P k]
  .exact oC P k
def Nr {α:Type} (s:Sl α):Prop:=s=.nil\/∃l,s=.row l
theorem Io:∀(vs:List Var) (s:Sl Int),Nr s->s.l.length+vs.length<1073741824->∃B,vk vs s=some B/\Nr B/\B.l=s.l++vs.map Var.init_
 | [],s,h,_=>⟨s,rfl,h,by simp⟩
 | v::r,s,h,D=>by
  simp only[List.length_cons]at D;have h1:jf s v.init_=some (.row (s.l++[v.init_])):=by unfold jf;rw[if_pos (by omega)]
  obtain⟨B,g1,g2,g3⟩:=Io r (.row (s.l++[v.init_])) (.inr ⟨_,rfl⟩) (by show (s.l++[v.init_]).length+r.length<1073741824;simp;omega)
  refine⟨B,?_,g2,by rw[g3];show (s.l++[v.init_])++r.map Var.init_=_;simp⟩
  simp only[vk,h1,ζb,g1]
theorem Gx:∀(az:List Assign) (s:Sl Int),Nr s->(∀a∈az,0<=a.var/\a.var<s.l.length)->∃B,vz az s=some B/\Nr B/\B.l=yY s.l az
 | [],s,h,_=>⟨s,rfl,h,rfl⟩
 | a::r,s,h,D=>by
  obtain⟨h0,h1⟩:=D a (by simp)
  have hc:Sl.rT s a.var=some a.var.toNat:=by unfold Sl.rT;rw[if_pos ⟨h0,by omega⟩]
  rcases h with rfl|⟨l,rfl⟩
  .simp[Sl.l]at h1;omega
  have u:Sl.put (.row l) a.var.toNat a.value=some (.row (l.set a.var.toNat a.value)):=by
   unfold Sl.put;rw[if_pos (by simp[Sl.l]at h1 ⊢;omega)]
  obtain⟨B,g1,g2,g3⟩:=Gx r (.row (l.set a.var.toNat a.value)) (.inr ⟨_,rfl⟩) (λb w=>by
   have:=D b (List.mem_cons_of_mem _ w);simpa [Sl.l]using this)
  refine⟨B,?_,g2,g3⟩;simp only[vz,hc,u,ζb,g1]
theorem JV {s:Sl Int} (h:Nr s) (B:s.l.length<1073741824):∃c,Li s=some c/\c.l=s.l:=by
 rcases h with rfl|⟨l,rfl⟩
 .exact⟨.nil,rfl,rfl⟩
 .unfold Li IB.gE zg;simp only[Sl.isNil,ζb,a_,Bool.false_eq_true,if_false]
  by_cases h0:(Sl.row l).l=[]
  .rw[if_pos h0];exact⟨.row [],rfl,h0.symm⟩
  .rw[if_neg h0,if_pos (by simp[Sl.l]at B ⊢;omega)]
   exact⟨_,rfl,by simp[Sl.l]⟩
def tW (P:bT):Prop:=∀e∈P.events.l,∀a∈e.assign.l,0<=a.var/\a.var<P.vars.l.length
theorem HA {P:bT} (B:tW P) (hv:P.vars.l.length<1073741824):∀(rem:List Event) (k:Nat) (s:Sl Int),P.events.l.drop k=rem->Nr s->s.l=gV P k ->
 ∃r,vf (k:Int) rem s=some r/\r.length=rem.length/\∀(i:Nat) x,r[i]? = some x->x.1=((k+i+1:Nat):Int)/\x.2.l=gV P (k+i+1)
 | [],k,s,_,_,_=>⟨[],rfl,rfl,by simp⟩
 | e::rem,k,s,hd,D,G=>by
  have h1:k<P.events.l.length:=by
   apply Classical.byContradiction;intro D;rw[List.drop_eq_nil_of_le (by omega)]at hd;cases hd
  have A:=List.drop_eq_getElem_cons h1;rw[A]at hd;simp only[List.cons.injEq]at hd;have C:e∈P.events.l:=hd.1▸List.getElem_mem h1;have w:s.l.length=P.vars.l.length:=by rw[G,oC]
  obtain⟨n,g1,g2,g3⟩:=Gx e.assign.l s D (λa I=>by rw[w];exact B e C a I)
  have u:gV P (k+1)=n.l:=by
   rw[g3,G];unfold gV;rw[ζd h1,hd.1];cases k <;> rfl
  obtain⟨c,g4,g5⟩:=JV g2 (by rw[<-u,oC];exact hv)
  obtain⟨r,J,L,O⟩:=HA B hv rem (k+1) n hd.2 g2 u.symm;refine⟨((k:Int)+1,c)::r,?_,by simp[L],λi x z=>?_⟩
  .simp only[vf,g1,g4,ζb];rw[show (k:Int)+1=((k+1:Nat):Int)from rfl,J];rfl
  .cases i with
   | zero=>
    simp only[List.getElem?_cons_zero,ζa]at z;subst z;exact⟨rfl,by rw[g5,<-u]⟩
   | succ i=>
    rw[List.getElem?_cons_succ]at z;obtain⟨Q,S⟩:=O i x z;exact⟨by rw[Q];congr 1;omega,by rw[S];congr 1;omega⟩
theorem Fv {P:bT} (B:tW P) (hv:P.vars.l.length<1073741824) (J:P.events.l.length<1073741824) (D:∀e∈P.events.l,e.assign.l.length<1073741824) :
 ∃r,iY P=some r/\r.length=P.events.l.length+1/\∀(i:Nat) x,r[i]? = some x->x.1=(i:Int)/\x.2.l=gV P i:=by
 obtain⟨s,g1,g2,g3⟩:=Io P.vars.l .nil (.inl rfl) (by simpa [Sl.l]using hv)
 have w:s.l=gV P 0:=by rw[g3];simp[Sl.l,gV]
 obtain⟨c,g4,g5⟩:=JV g2 (by rw[w,oC];exact hv)
 obtain⟨r,z,A,C⟩:=HA B hv P.events.l 0 s rfl g2 w;refine⟨(0,c)::r,?_,by simp[A],λi x u=>?_⟩
 .unfold iY;have hc:(oD P.vars.l.length&&(oD P.events.l.length&&P.events.l.all λe=>oD e.assign.l.length))=true:=by
   simp only[ζh,List.all_eq_true,oD,decide_eq_true_eq];exact⟨by omega,by omega,λe h=>by have:=D e h;omega⟩
  rw[if_pos hc,g1,ζb,g4,ζb];rw[show ((0:Nat):Int)=0 from rfl]at z;rw[z];rfl
 .cases i with
  | zero=>
   simp only[List.getElem?_cons_zero,ζa]at u;subst u;exact⟨rfl,by rw[g5,w]⟩
  | succ i=>
   rw[List.getElem?_cons_succ]at u;obtain⟨G,I⟩:=C i x u;exact⟨by rw[G];congr 1;omega,by rw[I];congr 1;omega⟩
theorem OD {P:bT} (B:tW P) (hv:P.vars.l.length<1073741824) (D:P.events.l.length<1073741824) (G:∀e∈P.events.l,e.assign.l.length<1073741824) {k:Nat} (hk:k<=P.events.l.length) :
 ∃x,fA P (k:Int)=some x/\x.l=gV P k:=by
 obtain⟨r,h1,L,C⟩:=Fv B hv D G;have key:∀(rem:List (Int×Sl Int)) (i:Nat) (q:Sl Int),r.drop i=rem->i<=k->∃x,(kj (λ(x:Int×(Sl Int)) (q:Sl Int)=>fA.jt P k x q) rem q).bind (Fw.qt (λq=>some Sl.nil) (λe=>Empty.elim e) (λe=>some e))=some x/\x.l=gV P k:=by
  intro rem
  induction rem with
  | nil=>
   intro i q hd hi;have:r.length<=i:=by simpa using hd
   omega
  | cons y rem I=>
   intro i q hd hi;have u:i<r.length:=by omega
   have e2:=List.drop_eq_getElem_cons u;rw[e2]at hd;simp only[List.cons.injEq]at hd;obtain⟨A,J⟩:=C i y (by rw[ζd u,hd.1])
   by_cases w:i=k
   .subst w;refine⟨y.2,?_,J⟩;simp only[kj,fA.jt,A,beq_self_eq_true,a_,if_true,ζb,Fw.qt]
   .have z:(y.1==(k:Int))=false:=by rw[A];simp;omega
    obtain⟨x,g1,g2⟩:=I (i+1) .nil hd.2 (by omega)
    refine⟨x,?_,g2⟩;simp only[kj,fA.jt,z,a_,Bool.false_eq_true,if_false,ζb];exact g1
 obtain⟨x,g1,g2⟩:=key r 0 .nil rfl (Nat.zero_le _);refine⟨x,?_,g2⟩;unfold fA mW fA.E1;simp only[ζb,h1];exact g1
end Go.VE
namespace Go.VE
mutual
def Pred.sz:Pred->Nat
 | ⟨_,_,_,_,_,l⟩=>1+Pred.UQ l
def Pred.UQ:Sl Pred->Nat
 | .nil=>0
 | .emp=>0
 | .row l=>Pred.lV l
 | .part l=>Pred.lV l
def Pred.lV:List Pred->Nat
 | []=>0
 | x::r=>Pred.sz x+Pred.lV r
end
mutual
def Pred.dp:Pred->Nat
 | ⟨_,_,_,_,_,l⟩=>1+Pred.Vh l
def Pred.Vh:Sl Pred->Nat
 | .nil=>0
 | .emp=>0
 | .row l=>Pred.sE l
 | .part l=>Pred.sE l
def Pred.sE:List Pred->Nat
 | []=>0
 | x::r=>max (Pred.dp x) (Pred.sE r)
end
mutual
def Pred.fL (f:Pred->Bool):Pred->Bool
 | ⟨a,b,c,d,e,l⟩=>f ⟨a,b,c,d,e,l⟩&&Pred.La f l
def Pred.La (f:Pred->Bool):Sl Pred->Bool
 | .nil=>true
 | .emp=>true
 | .row l=>Pred.D2 f l
 | .part l=>Pred.D2 f l
def Pred.D2 (f:Pred->Bool):List Pred->Bool
 | []=>true
 | x::r=>Pred.fL f x&&Pred.D2 f r
end
theorem Pred.VM (s:Sl Pred):Pred.UQ s=Pred.lV s.l:=by cases s <;> simp[Pred.UQ,Pred.lV,Sl.l]
theorem Pred.VV (s:Sl Pred):Pred.Vh s=Pred.sE s.l:=by cases s <;> simp[Pred.Vh,Pred.sE,Sl.l]
theorem Pred.HE (f:Pred->Bool):∀l:List Pred,Pred.D2 f l=l.all (Pred.fL f)
 | []=>by simp[Pred.D2]
 | x::r=>by simp only[Pred.D2,List.all_cons,Pred.HE f r]
theorem Pred.US (f:Pred->Bool) (s:Sl Pred):Pred.La f s=s.l.all (Pred.fL f):=by cases s <;> simp[Pred.La,Pred.HE,Sl.l]
theorem Pred.Rq (p:Pred):p.sz=1+Pred.lV p.l.l:=by cases p;simp only[Pred.sz,Pred.VM]
theorem Pred.CM (p:Pred):p.dp=1+Pred.sE p.l.l:=by cases p;simp only[Pred.dp,Pred.VV]
theorem Pred.kB (f:Pred->Bool) (p:Pred):p.fL f=(f p&&p.l.l.all (Pred.fL f)):=by cases p;simp only[Pred.fL,Pred.US]
theorem Pred.Ka:∀{l:List Pred} {q:Pred},q∈l->q.dp<=Pred.sE l
 | x::r,q,h=>by
  simp only[Pred.sE];rcases List.mem_cons.1 h with rfl|h
  .omega
  .have:=Pred.Ka h;omega
theorem Pred.sC {p q:Pred} (h:q∈p.l.l):q.dp<p.dp:=by rw[p.CM];have:=Pred.Ka h;omega
theorem Pred.sS (p:Pred):0<p.dp:=by rw[p.CM];omega
theorem Pred.ind {M:Pred->Prop} (h:∀p,(∀q∈p.l.l,M q)->M p) (p:Pred):M p:=by
 have key:∀n p,p.dp<=n->M p:=by
  intro n
  induction n with
  | zero=>intro p u;have:=p.sS;omega
  | succ n w=>intro p u;exact h p λq z=>w q (by have:=Pred.sC z;omega)
 exact key _ p (Nat.le_refl _)
abbrev Pred.Sm (p:Pred):Prop:=p.fL (λq=>decide (q.l.l.length<1073741824))=true
theorem Pred.Sm.len {p:Pred} (h:p.Sm):p.l.l.length<1073741824:=by
 unfold Pred.Sm at h;rw[p.kB]at h;simp only[ζh,decide_eq_true_eq]at h;exact h.1
theorem Pred.Sm.uY {p q:Pred} (h:p.Sm) (B:q∈p.l.l):q.Sm:=by
 unfold Pred.Sm at h;rw[p.kB]at h;simp only[ζh,List.all_eq_true]at h;exact h.2 q B
theorem JS {f:Pred->Option Bool} {g:Pred->Bool} (p:Pred) (B:p.Sm):p.fL (λq=>f q==some (g q))=true->∀n,p.dp<=n->dz (λr (z:Pred)=>iR z f r) n p=some (p.fL g):=by
 induction p using Pred.ind with
 | h p A=>
  intro u n C;rw[p.kB]at u;simp only[ζh,List.all_eq_true,beq_iff_eq]at u;have hd:=p.CM;rw[iK (by omega)]
  show iR p f _=_;unfold iR;rw[u.1,ζb,p.kB]
  cases g p with
  | false=>rfl
  | true=>
   rw[bA,Aj _ B.len,yW (f:=λq => !q.fL g) (λq w=>by
    have:=A q w (B.uY w) (u.2 q w) (n-1) (by have:=Pred.sC w;omega)
    show (dz (λr (z:Pred)=>iR z f r) (n-1) q).bind _=_
    rw[this];rfl)]
   simp only[Option.map_some,ζb,Bool.true_and]
   congr 1
   rw[Bool.eq_iff_iff];simp
theorem uw {step:Int->Option (Fw Int Unit Unit)} {p:Pred} {g:Pred->Bool} (D:p.l.l.length<1073741824) (h:∀(i:Nat) (hi:i<p.l.l.length),step i=some (if g p.l.l[i]then .n ((i+1:Nat):Int)else .r ())) (B:step p.l.l.length=some (.x ())) :
 (bV (λq:Int=>step q) 0).bind (Fw.elim (λ_=>some true) (λ_=>some false))=some (p.l.l.all g):=by
 refine Wp.eq ?_;refine nJ p.l.l.length (λn s=>s=(n:Int)/\(p.l.l.take n).all g=true) ⟨rfl,rfl⟩ ?_ ?_
 .rintro i _ hi ⟨rfl,u⟩;rw[h i hi,bf]
  cases hg:g p.l.l[i]with
  | true=>
   refine⟨rfl,?_⟩;rw[List.take_add_one,ζd hi,List.all_append,u];simp[hg]
  | false=>
   refine(bf _).2 ?_
   symm
   rw[List.all_eq_false];exact⟨_,List.getElem_mem hi,by rw[hg];simp⟩
 .rintro _ ⟨rfl,u⟩;rw[B,bf];rw[List.take_length]at u;exact(bf _).2 u.symm
end Go.VE
namespace Go.VE
abbrev GJ (p:Pred):Bool:=ByteArray.toList p.name==ByteArray.toList ByteArray.empty
abbrev DT (p:Pred) (c:Int):Bool:=(len p.l==c)&&(!decide (p.n<0)&&(!decide (p.n>1125899906842624)&&((p.n==0||p.kind==1)&&(p.kind==2||(p.kind==3||(p.kind==4||(p.proc==0&&(p.peer==0&&GJ p))))))))
theorem P4:∀k:_root_.Fin 22,1<=k.1->cE.at wK ((k.1:Nat):Int)=kP ((k.1:Nat):Int)/\(kP ((k.1:Nat):Int)).isSome=true:=by decide
theorem yP {k:Int} (h1:1<=k) (B:k<22):∃c,cE.at wK k=some c/\kP k=some c:=by
 obtain⟨g1,g2⟩:=P4 ⟨k.toNat,by omega⟩ (by show 1<=k.toNat;omega)
 simp only at g1 g2;rw[show ((k.toNat:Nat):Int)=k from by omega]at g1 g2
 obtain⟨c,hc⟩:=Option.isSome_iff_exists.1 g2;exact⟨c,by rw[g1,hc],hc⟩
theorem MV {k:Int} (h:k<1\/22<=k):kP k=some (-1):=by
 have d1:(a_ (decide (k>=1)) (some (decide (k<=4))) (some false):Option Bool)=some false:=by
  by_cases h1:k>=1
  .rw[decide_eq_true h1,bA,decide_eq_false (by omega)]
  .rw[decide_eq_false h1];rfl
 have d2:(a_ (decide (k>=18)) (some (decide (k<=21))) (some false):Option Bool)=some false:=by
  by_cases h1:k>=18
  .rw[decide_eq_true h1,bA,decide_eq_false (by omega)]
  .rw[decide_eq_false h1];rfl
 have d3:(a_ (decide (k>=6)) (some (decide (k<=12))) (some false):Option Bool)=some false:=by
  by_cases h1:k>=6
  .rw[decide_eq_true h1,bA,decide_eq_false (by omega)]
  .rw[decide_eq_false h1];rfl
 have ne:∀m:Int,1<=m->m<22->(k==m)=false:=λm h1 u=>by simp;omega
 unfold kP;rw[d1,d2,d3,ne 13 (by omega) (by omega),ne 14 (by omega) (by omega),ne 5 (by omega) (by omega),ne 15 (by omega) (by omega),ne 16 (by omega) (by omega),ne 17 (by omega) (by omega)]
 rfl
theorem D_ {p:Pred} {c:Int} (h1:1<=p.kind) (B:p.kind<22) (hc:cE.at wK p.kind=some c):j9 p=some (DT p c):=by
 unfold j9 tF DT GJ;rw[decide_eq_false (show ¬p.kind<1 by omega),bE,ζb,decide_eq_false (show ¬p.kind>=22 by omega),bE,hc,ζb,ζb]
 generalize (len p.l==c)=e;generalize decide (p.n<0)=a;generalize decide (p.n>1125899906842624)=b;generalize (p.n==0)=z;generalize (p.kind==1)=k1;generalize (p.kind==2)=u;generalize (p.kind==3)=w;generalize (p.kind==4)=A;generalize (p.proc==0)=d1;generalize (p.peer==0)=d2;generalize (ByteArray.toList p.name==ByteArray.toList ByteArray.empty)=d3
 cases e with
 | false=>rfl
 | true=>cases a with
  | true=>rfl
  | false=>cases b with
   | true=>rfl
   | false=>cases z <;> cases k1 <;> first|rfl|(cases u <;> cases w <;> cases A <;> cases d1 <;> cases d2 <;> cases d3 <;> rfl)
theorem Ct {p:Pred} (h:p.kind<1\/22<=p.kind):j9 p=some false:=by
 unfold j9;have:(a_ (decide (p.kind<1)) (some true) (some (decide (p.kind>=22))):Option Bool)=some true:=by
  by_cases h1:p.kind<1
  .rw[decide_eq_true h1];rfl
  .rw[decide_eq_false h1,bE,decide_eq_true (by omega)]
 rw[this];rfl
theorem Pd {p:Pred} {c:Int} (h1:1<=p.kind) (D:p.kind<22) (hc:kP p.kind=some c) (r:Pred->Option Bool):fE p r=a_ (DT p c) (e9.W2 0 p r) (some false):=by
 unfold fE e9.J1 DT GJ;rw[hc,ζb,show (c==len p.l)=(len p.l==c)from by rw[Bool.eq_iff_iff];simp;exact⟨Eq.symm,Eq.symm⟩]
 have hk:(a_ (decide (p.kind<2)) (some true) (some (decide (p.kind>4))):Option Bool)=some (!(p.kind==2||(p.kind==3||p.kind==4))):=by
  by_cases g:p.kind<2
  .rw[decide_eq_true g,bA,show (p.kind==2)=false from by simp;omega,show (p.kind==3)=false from by simp;omega,show (p.kind==4)=false from by simp;omega];rfl
  .rw[decide_eq_false g,bE];congr 1;rw[Bool.eq_iff_iff];simp;omega
 have B:(p.n==0)=true->decide (p.n<0)=false/\decide (p.n>1125899906842624)=false:=λh=>by
  have h:p.n=0:=by simpa using h
  rw[h];exact⟨rfl,rfl⟩
 rw[hk];generalize (len p.l==c)=e;generalize decide (p.n<0)=a at *;generalize decide (p.n>1125899906842624)=b at *;generalize (p.n==0)=z at *;generalize (p.kind==1)=k1;generalize (p.kind==2)=u;generalize (p.kind==3)=w;generalize (p.kind==4)=A;generalize (p.proc==0)=d1;generalize (p.peer==0)=d2;generalize (ByteArray.toList p.name==ByteArray.toList ByteArray.empty)=d3
 cases e with
 | false=>rfl
 | true=>cases k1 with
  | true=>cases a with
   | true=>rfl
   | false=>cases b with
    | true=>rfl
    | false=>cases z <;> cases u <;> cases w <;> cases A <;> cases d1 <;> cases d2 <;> cases d3 <;> rfl
  | false=>cases z with
   | false=>cases a <;> cases b <;> rfl
   | true=>
    obtain⟨rfl,rfl⟩:=B rfl;cases u <;> cases w <;> cases A <;> cases d1 <;> cases d2 <;> cases d3 <;> rfl
def fB (p:Pred):Bool:=(j9 p).getD false
theorem RN (p:Pred):j9 p=some (fB p):=by
 unfold fB
 by_cases h:p.kind<1\/22<=p.kind
 .rw[Ct h];rfl
 .obtain⟨c,hc,-⟩:=yP (k:=p.kind) (by omega) (by omega)
  rw[D_ (by omega) (by omega) hc];rfl
theorem vH {p:Pred} (h:fB p=true):1<=p.kind/\p.kind<22/\cE.at wK p.kind=some (len p.l):=by
 by_cases g:p.kind<1\/22<=p.kind
 .unfold fB at h;rw[Ct g]at h;cases h
 .obtain⟨c,hc,-⟩:=yP (k:=p.kind) (by omega) (by omega)
  unfold fB at h;rw[D_ (by omega) (by omega) hc]at h
  simp only[DT,Option.getD_some,ζh,beq_iff_eq]at h;exact⟨by omega,by omega,by rw[hc,h.1]⟩
theorem Ow (p:Pred) (r:Pred->Option Bool):fE p r=a_ (fB p) (e9.W2 0 p r) (some false):=by
 unfold fB
 by_cases h:p.kind<1\/22<=p.kind
 .rw[Ct h];unfold fE;rw[MV h,ζb,show ((-1:Int)==len p.l)=false from by simp[len]];rfl
 .obtain⟨c,hc,u⟩:=yP (k:=p.kind) (by omega) (by omega)
  rw[D_ (by omega) (by omega) hc,Pd (by omega) (by omega) u];rfl
theorem ME (p:Pred) (B:p.Sm):∀n,p.dp<=n->dz (λr (z:Pred)=>fE z r) n p=some (p.fL fB):=by
 induction p using Pred.ind with
 | h p u=>
  intro n A;have hd:=p.sS;rw[iK (by omega)]
  have u:=λq w=>u q w (B.uY w) (n-1)
  show fE p (dz (λr (z:Pred)=>fE z r) (n-1))=_
  generalize dz (λr (z:Pred)=>fE z r) (n-1)=R at u ⊢
  rw[Ow,p.kB]
  cases fB p with
  | false=>rfl
  | true=>
   rw[bA,Bool.true_and];unfold e9.W2;refine uw (g:=Pred.fL fB) B.len (λi hi=>?_) ?_
   .unfold e9.b9;rw[nV hi,bA,bQ hi,ζb,u _ (List.getElem_mem hi) (by have:=Pred.sC (List.getElem_mem hi);omega),ζb,dn i (by have:=B.len;omega)]
    cases Pred.fL fB p.l.l[i] <;> rfl
   .unfold e9.b9;rw[pQ];rfl
def kK (p:Pred):Bool:=decide (p.sz<=200)&&(decide (p.dp<=20)&&p.fL fB)
abbrev nH (p:Pred) (d l:Nat):Bool:=decide (p.sz<=l)&&(decide (p.dp+d<=21)&&p.fL fB)
abbrev uA (k:List Pred) (d l:Nat):Bool:=decide (Pred.lV k<=l)&&(decide (Pred.sE k+d<=21)&&k.all (Pred.fL fB))
theorem Ti (p:Pred) (U:p.Sm):∀(n d l:Nat),1<=n->22<=n+d->d<=21->1<=d->l<=200 ->
 ∃D:Int,dz (λr (z:Pred×Int×Int)=>eB z.1 z.2.1 z.2.2 r) n (p,(d:Int),(l:Int))=some (nH p d l,D)/\(nH p d l=true->D=((l-p.sz:Nat):Int)):=by
 induction p using Pred.ind with
 | h p I=>
  intro n d l hn Z hd zz hl;have G:=p.Rq;have L:=p.CM;rw[iK (by omega)]
  have I:=λq J=>I q J (U.uY J) (n-1)
  show ∃D,eB p (d:Int) (l:Int) (dz (λr (z:Pred×Int×Int)=>eB z.1 z.2.1 z.2.2 r) (n-1))=_/\_
  generalize dz (λr (z:Pred×Int×Int)=>eB z.1 z.2.1 z.2.2 r) (n-1)=R at I ⊢
  unfold eB;rw[eN _ (by omega) (by omega),RN]
  by_cases h0:l=0
  .subst h0;have w:nH p d 0=false:=by
    have:¬(p.sz<=0):=by omega
    simp only[nH,decide_eq_false this,Bool.false_and]
   rw[w];exact⟨_,rfl,λh=>by cases h⟩
  rw[decide_eq_false (show ¬((l:Int)-1<0)by omega),bE,ζb]
  by_cases h1:20<d
  .have w:nH p d l=false:=by
    have:¬(p.dp+d<=21):=by have:=p.sS;omega
    simp only[nH,decide_eq_false this,Bool.false_and,Bool.and_false]
   rw[w,decide_eq_true (show (d:Int)>20 by omega)]
   exact⟨_,rfl,λh=>by cases h⟩
  rw[decide_eq_false (show ¬((d:Int)>20)by omega),bE,ζb]
  have T:=p.kB fB
  cases W:fB p with
  | false=>
   have w:nH p d l=false:=by simp[nH,T,W]
   rw[w];exact⟨_,rfl,λh=>by cases h⟩
  | true=>
   rw[ζb,show (!true)=false from rfl,bE,Ke U.len];have key:∀(k:List Pred),(∀q∈k,q∈p.l.l)->∀m:Nat,m<=200->∃m':Int,xA (λx s=>gY x (d:Int) s R) k (m:Int)=some (!uA k (d+1) m,m')/\(uA k (d+1) m=true->m'=((m-Pred.lV k:Nat):Int)):=by
    intro k
    induction k with
    | nil=>intro _ m _;exact⟨m,by simp[xA,uA,Pred.lV,Pred.sE];omega,λ_=>by simp[Pred.lV]⟩
    | cons q k O=>
     intro hk m hm;obtain⟨D,g1,g2⟩:=I q (hk q (by simp)) (d+1) m (by omega) (by omega) (by omega) (by omega) hm
     have e1:gY q (d:Int) (m:Int) R=some (!nH q (d+1) m,D):=by
      unfold gY;rw[dn d (by omega),g1];rfl
     simp only[xA,e1,ζb];have u:uA (q::k) (d+1) m=(nH q (d+1) m&&uA k (d+1) (m-q.sz)):=by
      rw[Bool.eq_iff_iff];simp only[uA,nH,Pred.lV,Pred.sE,ζh,List.all_cons];constructor
      .rintro⟨A,B,C,a4⟩;have A:=of_decide_eq_true A;have B:=of_decide_eq_true B;exact⟨⟨decide_eq_true (by omega),decide_eq_true (by omega),C⟩,decide_eq_true (by omega),decide_eq_true (by omega),a4⟩
      .rintro⟨⟨A,B,C⟩,X,Y,b3⟩;have A:=of_decide_eq_true A;have B:=of_decide_eq_true B;have X:=of_decide_eq_true X;have Y:=of_decide_eq_true Y;exact⟨decide_eq_true (by omega),decide_eq_true (by omega),C,b3⟩
     cases w:nH q (d+1) m with
     | false=>
      rw[u,w];exact⟨D,rfl,λh=>by cases h⟩
     | true=>
      obtain⟨m',Q,S⟩:=O (λx hx=>hk x (List.mem_cons_of_mem _ hx)) (m-q.sz) (by omega)
      rw[u,w,Bool.true_and,g2 w];refine⟨m',by simpa using Q,λh=>?_⟩
      rw[S h];have:q.sz<=m:=by
       have:=w;simp only[nH,ζh]at this;exact of_decide_eq_true this.1
      congr 1
      show m-q.sz-Pred.lV k=m-(q.sz+Pred.lV k);omega
   obtain⟨m',Q,S⟩:=key p.l.l (λq J=>J) (l-1) (by omega)
   rw[show ((l:Int)-1)=((l-1:Nat):Int)from by omega,Q,ζb]
   have w:nH p d l=uA p.l.l (d+1) (l-1):=by
    rw[Bool.eq_iff_iff];simp only[nH,uA,ζh,T,W,true_and,G,L];constructor
    .rintro⟨A,B,C⟩;have A:=of_decide_eq_true A;have B:=of_decide_eq_true B;exact⟨decide_eq_true (by omega),decide_eq_true (by omega),C⟩
    .rintro⟨A,B,C⟩;have A:=of_decide_eq_true A;have B:=of_decide_eq_true B;exact⟨decide_eq_true (by omega),decide_eq_true (by omega),C⟩
   refine⟨m',by rw[w];simp,λh=>?_⟩
   rw[S (by rw[<-w];exact h),G]
   congr 1
   omega
theorem vm {p:Pred} (B:p.Sm):kU p=some (kK p):=by
 obtain⟨C,h,-⟩:=Ti p B 100000 1 200 (by omega) (by omega) (by omega) (by omega) (by omega)
 unfold kU pO;rw[show dz (λr (z:Pred×Int×Int)=>eB z.1 z.2.1 z.2.2 r) 100000 (p,(1:Int),(200:Int))=_ from h]
 simp only[ζb]
 congr 1
 rw[Bool.eq_iff_iff];simp only[kK,nH,ζh];constructor
 .rintro⟨w,u,A⟩;have u:=of_decide_eq_true u;exact⟨w,decide_eq_true (by omega),A⟩
 .rintro⟨w,u,A⟩;have u:=of_decide_eq_true u;exact⟨w,decide_eq_true (by omega),A⟩
theorem O9 {l:List Pred} {i:Nat} (h:i<l.length):Pred.lV (l.take (i+1))=Pred.lV (l.take i)+l[i].sz:=by
 have key:∀(l:List Pred) (i:Nat) (h:i<l.length),Pred.lV (l.take (i+1))=Pred.lV (l.take i)+l[i].sz:=by
  intro l
  induction l with
  | nil=>intro i h;simp at h
  | cons x r u=>
   intro i h
   cases i with
   | zero=>simp[Pred.lV]
   | succ i=>
    have:=u i (by simpa using h)
    simp only[List.take_succ_cons,Pred.lV,List.getElem_cons_succ]at this ⊢;omega
 exact key l i h
theorem Pq {l:List Pred} {i:Nat} (h:i<l.length):Pred.sE (l.take (i+1))=max (Pred.sE (l.take i)) l[i].dp:=by
 have key:∀(l:List Pred) (i:Nat) (h:i<l.length),Pred.sE (l.take (i+1))=max (Pred.sE (l.take i)) l[i].dp:=by
  intro l
  induction l with
  | nil=>intro i h;simp at h
  | cons x r u=>
   intro i h
   cases i with
   | zero=>simp[Pred.sE]
   | succ i=>
    have:=u i (by simpa using h)
    simp only[List.take_succ_cons,Pred.sE,List.getElem_cons_succ]at this ⊢;omega
 exact key l i h
theorem I8 (l:List Pred) (i:Nat):Pred.lV (l.take i)<=Pred.lV l:=by
 induction l generalizing i with
 | nil=>simp
 | cons x r u=>cases i with
  | zero=>simp[Pred.lV]
  | succ i=>simp only[List.take_succ_cons,Pred.lV];have:=u i;omega
theorem count_eq (p:Pred) (D:p.Sm):∀(n l:Nat),l+1<=n->l<=200->dz (λr (z:Pred×Int)=>gJ z.1 z.2 r) n (p,(l:Int))=some ((min p.sz (l+1):Nat):Int):=by
 induction p using Pred.ind with
 | h p B=>
  intro n l L O;have I:=p.Rq;rw[iK (by omega)]
  have B:=λq G=>B q G (D.uY G) (n-1)
  show gJ p (l:Int) (dz (λr (z:Pred×Int)=>gJ z.1 z.2 r) (n-1))=_
  generalize dz (λr (z:Pred×Int)=>gJ z.1 z.2 r) (n-1)=R at B ⊢
  unfold gJ jO.W1;refine Wp.eq ?_;refine eW (λs:Int×Int=>∃i:Nat,s.2=i/\i<=p.l.l.length/\s.1=((min (1+Pred.lV (p.l.l.take i)) (l+1):Nat):Int)) (λs=>p.l.l.length-s.2.toNat) ⟨0,rfl,Nat.zero_le _,by simp[Pred.lV]⟩ ?_
  rintro⟨c,_⟩ ⟨i,rfl,hi,hc⟩;simp only at hc;subst hc;unfold jO.bu
  by_cases u:i<p.l.l.length
  .rw[nV u,bA,ζb]
   by_cases J:min (1+Pred.lV (p.l.l.take i)) (l+1)<=l
   .have w:min (1+Pred.lV (p.l.l.take i)) (l+1)=1+Pred.lV (p.l.l.take i):=by omega
    have A:=List.getElem_mem u;rw[decide_eq_true (show (((min (1+Pred.lV (p.l.l.take i)) (l+1):Nat)):Int)<=(l:Int)by omega),bA,bQ u,ζb,w,eN _ (by omega) (by omega),
     show (l:Int)-((1+Pred.lV (p.l.l.take i):Nat):Int)=((l-(1+Pred.lV (p.l.l.take i)):Nat):Int)from by omega,
     B _ A _ (by omega) (by omega),ζb,bf,eN _ (by omega) (by omega),dn i (by have:=D.len;omega)]
    refine⟨⟨i+1,rfl,by omega,?_⟩,by simp only;omega⟩
    simp only;rw[O9 u];omega
   .rw[decide_eq_false (show ¬(((min (1+Pred.lV (p.l.l.take i)) (l+1):Nat)):Int)<=(l:Int)by omega),bE,bf]
    refine(bf _).2 ?_;have:=I8 p.l.l i
    congr 1
    omega
  .have C:i=p.l.l.length:=by omega
   subst C;rw[show decide (((p.l.l.length:Nat):Int)<len p.l)=false from pQ,bE,ζb,bE,bf];refine(bf _).2 ?_;rw[List.take_length]
   congr 1
   omega
theorem ON (p:Pred) (B:p.Sm):∀(n m:Nat),m+1<=n->m<=200->dz (λr (z:Pred×Int)=>gO z.1 z.2 r) n (p,(m:Int))=some ((min p.dp (m+1):Nat):Int):=by
 induction p using Pred.ind with
 | h p A=>
  intro n m G I;have D:=p.CM;rw[iK (by omega)]
  have A:=λq C=>A q C (B.uY C) (n-1)
  show gO p (m:Int) (dz (λr (z:Pred×Int)=>gO z.1 z.2 r) (n-1))=_
  generalize dz (λr (z:Pred×Int)=>gO z.1 z.2 r) (n-1)=R at A ⊢
  unfold gO
  by_cases h0:m=0
  .subst h0;rw[show (((0:Nat):Int)==0)=true from rfl,bA]
   congr 1;omega
  rw[show ((m:Int)==0)=false from by simp;omega,bE]
  unfold jg.W1;refine Wp.eq ?_;refine nJ p.l.l.length (λi s=>s.2=(i:Int)/\s.1=((min (Pred.sE (p.l.l.take i)) m:Nat):Int)) ⟨rfl,by simp[Pred.sE]⟩ ?_ ?_
  .rintro i ⟨c,_⟩ u ⟨e1,e2⟩;simp only at e1 e2;subst e1 e2;have w:=List.getElem_mem u;unfold jg.bu;rw[nV u,bA,bQ u,ζb,eN _ (by omega) (by omega),show ((m:Int)-1)=((m-1:Nat):Int)from by omega,A _ w _ (by omega) (by omega),ζb,bf,dn i (by have:=B.len;omega)]
   refine⟨rfl,?_⟩;simp only;rw[Pq u];split <;> omega
  .rintro⟨c,_⟩ ⟨e1,e2⟩;simp only at e1 e2;subst e1 e2;unfold jg.bu;rw[pQ,bE,bf];refine(bf _).2 ?_;rw[List.take_length,dn _ (by omega)]
   omega
theorem yT {p:Pred} (B:p.Sm):mJ p=some (kK p):=by
 unfold mJ xk jO jg e9;rw[show dz (λr (z:Pred×Int)=>gJ z.1 z.2 r) 100000 (p,(200:Int))=_ from count_eq p B 100000 200 (by omega) (by omega),ζb,ζb]
 unfold kK
 by_cases h1:p.sz<=200
 .rw[decide_eq_true h1,if_neg (by omega),decide_eq_true (by omega),bA,show dz (λr (z:Pred×Int)=>gO z.1 z.2 r) 100000 (p,(21:Int))=_ from ON p B 100000 21 (by omega) (by omega),ζb,ζb]
  by_cases u:p.dp<=20
  .rw[decide_eq_true u,decide_eq_true (by omega),bA,ME p B 100000 (by omega)];rfl
  .rw[decide_eq_false u,decide_eq_false (by omega)];rfl
 .rw[decide_eq_false h1,decide_eq_false (by split <;> omega)];rfl
end Go.VE
namespace Go.VE
section
variable {t:Trace}
abbrev rR (t:Trace) (p:Int):Bool:=decide (p>=0)&&decide (p<len t.procs)
def Cq (t:Trace) (p:Int) (name:ByteArray):Bool:=match idx t.procs p with
 | some P=>P.vars.l.any λv=>ByteArray.toList v.name==ByteArray.toList name
 | none=>false
def nD (t:Trace) (q:Pred):Bool:=
 if q.kind==2 then rR t q.proc&&(q.peer==0&&Cq t q.proc q.name)
 else if q.kind==3 then rR t q.proc&&(q.peer==0&&GJ q)
 else if q.kind==4 then rR t q.proc&&(rR t q.peer&&(!(q.proc==q.peer)&&GJ q))else true
theorem J7 (p:Int):jL t p=some (rR t p):=by
 unfold jL rR;cases decide (p>=0) <;> rfl
theorem Rh (p:Int):nq t p=some (rR t p):=by
 unfold nq rR;cases decide (p>=0) <;> rfl
theorem uk {p:Int} (h:rR t p=true):∃n:Nat,p=n/\n<t.procs.l.length:=by
 simp only[rR,ζh]at h;have h1:=of_decide_eq_true h.1;have u:=of_decide_eq_true h.2;exact⟨p.toNat,by omega,by simp only[len]at u;omega⟩
theorem Pt (hS:Small t) {p:Int} (h:rR t p=true) (name:ByteArray):qD t p name=some (Cq t p name):=by
 obtain⟨n,rfl,u⟩:=uk h;unfold qD Cq;rw[bQ u,ζb,By (p:=λz=>nG z name) (f:=λv=>ByteArray.toList v.name==ByteArray.toList name) (λv _=>rfl) (hS.2 _ (List.getElem_mem u)).2.1]
 rfl
theorem D6 (hS:Small t) {p:Int} (h:rR t p=true) (name:ByteArray):Wp (iB t p name) λi=>(∃(n k:Nat) (P:bT) (v:Var),p=n/\t.procs.l[n]? = some P/\i=k/\P.vars.l[k]? = some v/\(ByteArray.toList v.name==ByteArray.toList name)=true/\(∀(j:Nat) (w:Var),j<k->P.vars.l[j]? = some w->(ByteArray.toList w.name==ByteArray.toList name)=false)/\Cq t p name=true)\/i=-1/\Cq t p name=false:=by
 obtain⟨n,rfl,u⟩:=uk h;have J:=ζd u;have L:=(hS.2 _ (List.getElem_mem u)).2.1;unfold iB iB.W1;have z:Cq t (n:Int) name=t.procs.l[n].vars.l.any λv=>ByteArray.toList v.name==ByteArray.toList name:=by unfold Cq;rw[bQ u]
 refine nJ t.procs.l[n].vars.l.length (λi s=>s=(i:Int)/\∀(j:Nat) (w:Var),j<i->t.procs.l[n].vars.l[j]? = some w->(ByteArray.toList w.name==ByteArray.toList name)=false) ⟨rfl,λj w A=>absurd A (by omega)⟩ ?_ ?_
 .rintro i _ hi ⟨rfl,B⟩;unfold iB.bu;rw[bQ u,ζb,nV hi,bA,ζb,bQ hi,ζb]
  cases C:ByteArray.toList t.procs.l[n].vars.l[i].name==ByteArray.toList name with
  | true=>
   rw[bA,bf];refine(bf _).2 (.inl ⟨n,i,_,_,rfl,J,rfl,ζd hi,C,B,?_⟩);rw[z,List.any_eq_true];exact⟨_,List.getElem_mem hi,C⟩
  | false=>
   rw[bE,bf,dn i (by omega)]
   refine⟨rfl,λj w A D=>?_⟩
   by_cases G:j=i
   .subst G;rw[ζd hi]at D;cases D;exact C
   .exact B j w (by omega) D
 .rintro _ ⟨rfl,B⟩;unfold iB.bu;rw[bQ u,ζb,pQ,bE,bf];refine(bf _).2 (.inr ⟨rfl,?_⟩);rw[z,List.any_eq_false];intro v hv;obtain⟨j,A⟩:=List.mem_iff_getElem?.1 hv;have I:=(ζe.1 A).1;rw[B j v I A];simp
theorem Tf (hS:Small t) (q:Pred):jQ q t=some (nD t q):=by
 unfold jQ nD GJ;rw[J7,J7]
 cases q.kind==2 with
 | true=>
  rw[bA,if_pos rfl,ζb]
  cases h:rR t q.proc with
  | false=>rfl
  | true=>
   rw[Pt hS h];cases q.peer==0 <;> rfl
 | false=>
  rw[bE,if_neg (by simp)]
  cases q.kind==3 with
  | true=>
   rw[bA,if_pos rfl];cases rR t q.proc <;> cases q.peer==0 <;> cases (ByteArray.toList q.name==ByteArray.toList ByteArray.empty) <;> rfl
  | false=>
   rw[bE,if_neg (by simp)]
   cases q.kind==4 with
   | true=>
    rw[bA,if_pos rfl];cases rR t q.proc <;> cases rR t q.peer <;> cases (q.proc==q.peer) <;> cases (ByteArray.toList q.name==ByteArray.toList ByteArray.empty) <;> rfl
   | false=>rfl
theorem Su (hS:Small t) (q:Pred) (r:Trace×Pred->Option Bool):fm t q r=a_ (nD t q) (fG.W1 0 t q r) (some false):=by
 unfold fm nD GJ;rw[Rh,Rh];have hex:(q.kind==2)=true->(q.kind==3)=false/\(q.kind==4)=false:=λh=>by
  have:q.kind=2:=by simpa using h
  rw[this];exact⟨rfl,rfl⟩
 have u:(q.kind==3)=true->(q.kind==4)=false:=λh=>by
  have:q.kind=3:=by simpa using h
  rw[this];rfl
 cases z:q.kind==2 with
 | true=>
  obtain⟨w,A⟩:=hex z;rw[bA,if_pos rfl,ζb,w,A]
  cases h:rR t q.proc with
  | false=>rfl
  | true=>
   rw[bA,ζb]
   cases q.peer==0 with
   | false=>rfl
   | true=>
    obtain⟨i,hi,hc⟩:=D6 hS h q.name;rw[show (!true)=false from rfl,bE,hi,ζb];rcases hc with⟨n,k,P,v,-,-,rfl,-,-,-,hv⟩|⟨rfl,hv⟩
    .rw[hv,decide_eq_false (show ¬((k:Nat):Int)<0 by omega)];rfl
    .rw[hv];rfl
 | false=>
  rw[bE,if_neg (by simp),ζb,bE]
  cases w:q.kind==3 with
  | true=>
   rw[bA,if_pos rfl,u w];cases rR t q.proc <;> cases q.peer==0 <;> cases (ByteArray.toList q.name==ByteArray.toList ByteArray.empty) <;> rfl
  | false=>
   rw[bE,if_neg (by simp),ζb,bE]
   cases q.kind==4 with
   | true=>
    rw[bA,if_pos rfl];cases rR t q.proc <;> cases rR t q.peer <;> cases (q.proc==q.peer) <;> cases (ByteArray.toList q.name==ByteArray.toList ByteArray.empty) <;> rfl
   | false=>rfl
theorem IA {f:Pred->Option Bool} {g:Pred->Bool} (h:∀q,f q=some (g q)) {p:Pred} (B:p.Sm) (hd:p.dp<=100000):mG p f=some (p.fL g):=by
 refine JS p B ?_ _ hd
 induction p using Pred.ind with
 | h p w=>
  rw[p.kB,ζh,List.all_eq_true];exact⟨by rw[h];simp,λq u=>w q u (B.uY u) (by have:=Pred.sC u;omega)⟩
theorem zT (hS:Small t) {p:Pred} (B:p.Sm) (hd:p.dp<=100000):nM t p=some (p.fL (nD t)):=by
 unfold nM;rw[IA (g:=nD t) (λq=>Tf hS q) B hd];rfl
theorem HH (hS:Small t) (p:Pred) (B:p.Sm):∀n,p.dp<=n->dz (λr (z:Trace×Pred)=>fm z.1 z.2 r) n (t,p)=some (p.fL (nD t)):=by
 induction p using Pred.ind with
 | h p u=>
  intro n A;have hd:=p.sS;rw[iK (by omega)]
  have u:=λq w=>u q w (B.uY w) (n-1)
  show fm t p (dz (λr (z:Trace×Pred)=>fm z.1 z.2 r) (n-1))=_
  generalize dz (λr (z:Trace×Pred)=>fm z.1 z.2 r) (n-1)=R at u ⊢
  rw[Su hS,p.kB]
  cases nD t p with
  | false=>rfl
  | true=>
   rw[bA,Bool.true_and];unfold fG.W1;refine uw (g:=Pred.fL (nD t)) B.len (λi hi=>?_) ?_
   .unfold fG.bu;rw[nV hi,bA,bQ hi,ζb,u _ (List.getElem_mem hi) (by have:=Pred.sC (List.getElem_mem hi);omega),ζb,dn i (by have:=B.len;omega)]
    cases Pred.fL (nD t) p.l.l[i] <;> rfl
   .unfold fG.bu;rw[pQ];rfl
abbrev lG (k:Int):Int:=if k<=8 then 1 else 2
abbrev vB (k:Int):Int:=if k<=12 then 1 else 2
def qJ (q:Pred):Bool:=q.l.l.all λk=>lG k.kind==vB q.kind
theorem rS (k:Int):jH k=some (lG k):=by
 unfold jH lG
 by_cases h:k<=8
 .rw[decide_eq_true h,if_pos h];rfl
 .rw[decide_eq_false h,if_neg h];rfl
theorem CF (q:Pred):o6 q=some (lG q.kind):=by
 unfold o6 lG
 by_cases h:q.kind<=8
 .rw[decide_eq_true h,if_pos h];rfl
 .rw[decide_eq_false h,if_neg h];rfl
theorem SY (k:Int):rj k=some (vB k):=by
 unfold rj vB
 by_cases h:k<=12
 .rw[decide_eq_true h,if_pos h];rfl
 .rw[decide_eq_false h,if_neg h];rfl
theorem S8 {q:Pred} (B:q.l.l.length<1073741824):iJ q=some (qJ q):=by
 unfold iJ qJ;rw[Aj _ B,yW (f:=λk => !(lG k.kind==vB q.kind)) (λk _=>by
  unfold lI;rw[rS,SY];rfl)]
 simp only[Option.map_some,ζb]
 congr 1
 rw[Bool.eq_iff_iff];simp
theorem AF {p:Pred} (B:p.Sm) (hd:p.dp<=100000):nY p=some (p.fL qJ):=by
 unfold nY;have:p.fL (λq=>(λz=>iJ z) q==some (qJ q))=true:=by
  clear hd
  induction p using Pred.ind with
  | h p w=>
   rw[p.kB,ζh,List.all_eq_true];exact⟨by show (iJ p==some (qJ p))=true;rw[S8 B.len];simp,λq u=>w q u (B.uY u)⟩
 unfold mG;rw[JS p B this _ hd];rfl
theorem EW (p:Pred) (D:p.Sm):p.fL fB=true->∀n,p.dp<=n->dz (λr (z:Pred)=>iA z r) n p=some (p.fL qJ):=by
 induction p using Pred.ind with
 | h p C=>
  intro G n O;have hd:=p.sS;rw[p.kB,ζh,List.all_eq_true]at G;rw[iK (by omega)]
  have C:=λq I=>C q I (D.uY I) (G.2 q I) (n-1)
  show iA p (dz (λr (z:Pred)=>iA z r) (n-1))=_
  generalize dz (λr (z:Pred)=>iA z r) (n-1)=R at C ⊢
  unfold iA fH.W1;have u:p.l.l≠[]->vB p.kind=if p.kind>=15 then 2 else 1:=λA=>by
   obtain⟨k1,Q,J⟩:=vH G.1
   by_cases h:p.kind=13\/p.kind=14
   .have h0:cE.at wK p.kind=some 0:=by rcases h with h|h <;> (rw[h];rfl)
    rw[h0]at J;have:p.l.l.length=0:=by simpa [len]using (Option.some.inj J).symm
    exact absurd (List.length_eq_zero_iff.1 this) A
   .unfold vB;split <;> split <;> omega
  have B:p.fL qJ=p.l.l.all λk=>(lG k.kind==vB p.kind)&&Pred.fL qJ k:=by
   rw[p.kB];unfold qJ;rw[Bool.eq_iff_iff];simp only[ζh,List.all_eq_true];exact⟨λh k hk=>⟨h.1 k hk,h.2 k hk⟩,λh=>⟨λk hk=>(h k hk).1,λk hk=>(h k hk).2⟩⟩
  rw[B];refine uw (g:=λk=>(lG k.kind==vB p.kind)&&Pred.fL qJ k) D.len (λi hi=>?_) ?_
  .have A:p.l.l≠[]:=λh=>by rw[h]at hi;simp at hi
   have L:∀w:Int,fH.J2 (i:Int) w p R=some (if(lG p.l.l[i].kind==w)&&Pred.fL qJ p.l.l[i]then .n ((i+1:Nat):Int)else .r ()):=λw=>by
    unfold fH.J2;rw[bQ hi,ζb,CF,ζb,ζb,C _ (List.getElem_mem hi) (by have:=Pred.sC (List.getElem_mem hi);omega),dn i (by have:=D.len;omega)]
    cases (lG p.l.l[i].kind==w) <;> cases Pred.fL qJ p.l.l[i] <;> rfl
   unfold fH.bu;rw[nV hi,bA,L,L,u A]
   by_cases h:p.kind>=15
   .rw[decide_eq_true h,if_pos h];rfl
   .rw[decide_eq_false h,if_neg h];rfl
  .unfold fH.bu;rw[pQ];rfl
def tJ (q:Pred):Bool:=decide (q.kind>=18)&&decide (q.kind<=21)
theorem Ik {p:Pred} (B:p.Sm):nK p=some (kK p && !p.fL λq => !tJ q):=by
 unfold nK;rw[vm B,ζb]
 cases u:kK p with
 | false=>rfl
 | true=>
  have hd:p.dp<=20:=by
   simp only[kK,ζh]at u;exact of_decide_eq_true u.2.1
  rw[bA,IA (g:=λq => !tJ q) (λq=>by
   unfold lQ qI tJ;cases decide (q.kind>=18) <;> rfl) B (by omega)]
  rfl
theorem GK (p:Pred) (B:p.Sm):∀n,p.dp<=n->dz (λr (z:Pred)=>fZ z r) n p=some (!p.fL λq => !tJ q):=by
 induction p using Pred.ind with
 | h p u=>
  intro n D;have hd:=p.sS;rw[iK (by omega)]
  have u:=λq A=>u q A (B.uY A) (n-1)
  show fZ p (dz (λr (z:Pred)=>fZ z r) (n-1))=_
  generalize dz (λr (z:Pred)=>fZ z r) (n-1)=R at u ⊢
  unfold fZ;rw[show (a_ (decide (p.kind>=18)) (some (decide (p.kind<=21))) (some false):Option Bool)=some (tJ p)from by unfold tJ;cases decide (p.kind>=18) <;> rfl,ζb,p.kB]
  cases tJ p with
  | true=>rfl
  | false=>
   rw[bE];unfold eX.W1;have key:(bV (λq:Int=>eX.bu p q R) 0).bind (Fw.elim (λ_=>some true) (λ_=>some false))=some (p.l.l.all (Pred.fL λq => !tJ q)):=by
    refine uw (g:=Pred.fL λq => !tJ q) B.len (λi hi=>?_) ?_
    .unfold eX.bu;rw[nV hi,bA,bQ hi,ζb,u _ (List.getElem_mem hi) (by have:=Pred.sC (List.getElem_mem hi);omega),ζb,dn i (by have:=B.len;omega)]
     cases Pred.fL (λq => !tJ q) p.l.l[i] <;> rfl
    .unfold eX.bu;rw[pQ];rfl
   cases C:bV (λq:Int=>eX.bu p q R) 0 with
   | none=>rw[C]at key;cases key
   | some w=>
    rw[C]at key
    cases w with
    | n s=>exact Empty.elim s
    | x e=>simp only[ζb,Fw.elim,ζa]at key ⊢;rw[<-key];rfl
    | r e=>simp only[ζb,Fw.elim,ζa]at key ⊢;rw[<-key];rfl
theorem Ao {p:Pred} (B:p.Sm):mX p=some (kK p && !p.fL λq => !tJ q):=by
 unfold mX eX;rw[yT B,ζb]
 cases u:kK p with
 | false=>rfl
 | true=>
  have hd:p.dp<=20:=by
   simp only[kK,ζh]at u;exact of_decide_eq_true u.2.1
  rw[bA,GK p B 100000 (by omega)];rfl
end
end Go.VE
namespace Go.VE
theorem BJ {t:Trace} (hS:Small t) (hv:dK t=some true) (hV:VT t) {A:cE 200 bK} (hM:jN t (bU t) A) (c:Sl Int):Wp (i_ t c) λr=>Code t A c.l r.2:=by
 have D:=hV.few;unfold i_;rw[iW];refine(Uz hS hv hV hM c).mono λr hr=>?_
 rw[cw];constructor
 .intro h0;have h0:r=0:=by simpa using h0
  have hC:=hr.zero.1 h0;have B:=hC.1.1;unfold i_.W1;refine eW (λs:Sl aY×Int=>∃n:Nat,s.2=n/\n<=c.l.length/\s.1.l.length<=n) (λs=>c.l.length-s.2.toNat) ⟨0,rfl,Nat.zero_le _,Nat.le_refl _⟩ ?_
  rintro⟨o,i⟩ ⟨n,hi,G,C⟩;simp only at hi C;subst hi;unfold i_.bu;rw[cw];constructor
  .intro h;have w:n<c.l.length:=by simpa [len]using h
   have z:=dn n (by omega)
   have u:c.l.length-(IntKind.wrap .i64 ((n:Int)+1)).toNat<c.l.length-((n:Int)).toNat:=by rw[z];simp;omega
   rw[bQ w,ζb,cw];constructor
   .intro _;unfold jf;rw[if_pos (show o.l.length+1<=2147483648 from by omega),ζb,bf]
    exact⟨⟨n+1,z,by omega,by show (o.l++[_]).length<=n+1;rw[ζi,List.length_singleton];omega⟩,u⟩
   .intro _;exact(bf _).2 ⟨⟨n+1,z,by omega,show o.l.length<=n+1 from by omega⟩,u⟩
  .intro _;exact(bf _).2 ((bf _).2 (h0▸hr))
 .intro h0;exact(bf _).2 hr
end Go.VE
namespace Go.VE
theorem tW.of {t:Trace} (B:Ok t) {p:Nat} {P:bT} (D:t.procs.l[p]? = some P):tW P:=by
 intro e A a C;obtain⟨k,hk⟩:=List.mem_iff_getElem?.1 A;obtain⟨i,hi⟩:=List.mem_iff_getElem?.1 C;have h:=B.e8 p k P e D hk;unfold nN at h;have w:i<e.assign.l.length:=by
  apply Classical.byContradiction;intro I;rw[List.getElem?_eq_none (by omega)]at hi;cases hi
 have G:mD (lB P e) 0 e.assign.l.length=0:=by
  split at h
  .split at h
   .cases h
   .split at h
    .cases h
    .exact h
  .cases h
 have u:=(EG (g:=lB P e) (n:=e.assign.l.length) (m:=e.assign.l.length) (k:=0) (by omega)).1 G i (Nat.zero_le _) w
 unfold lB at u;rw[hi]at u;dsimp only at u
 by_cases z:(decide (0<=a.var)&&decide (a.var<P.vars.l.length))=true
 .simpa using z
 .rw[Bool.not_eq_true]at z;rw[z]at u;simp only[L_]at u;cases u
theorem VO {t:Trace} {A:cE 200 bK} (hS:Small t) (hv:dK t=some true) (hV:VT t) (hM:jN t (bU t) A) {c:Sl Int} (hC:Cons t A c.l) :
 Wp (iu t c) λr=>r.2=0/\r.1.l.length=t.procs.l.length/\∀(p:Nat) (P:bT) (a:Int),t.procs.l[p]? = some P->c.l[p]? = some a->∃x,r.1.l[p]? = some x/\x.l=gV P a.toNat:=by
 have I:=hC.1.1;unfold iu;rw[iW];refine(BJ hS hv hV hM c).mono λr hr=>?_
 rw[hr.zero.2 hC,show ((0:Int)==0)=true from rfl,bA];unfold iu.W1;refine nJ c.l.length (λn s=>s.2=(n:Int)/\s.1.l.length=n/\∀(p:Nat) (P:bT) (a:Int),p<n->t.procs.l[p]? = some P->c.l[p]? = some a->∃x,s.1.l[p]? = some x/\x.l=gV P a.toNat) ⟨rfl,rfl,λp P a h=>absurd h (by omega)⟩ ?_ ?_
 .rintro n ⟨o,_⟩ u ⟨e1,e2,e3⟩;simp only at e1 e2 e3;subst e1;have J:n<t.procs.l.length:=by omega
  have w:=hS.2 _ (List.getElem_mem J);have D:=ζd J;have C:=ζd u;obtain⟨a0,W⟩:=hC.1.2 n _ _ C D;have T:=tW.of hV.ok D;obtain⟨x,S,L⟩:=OD T w.2.1 w.1 w.2.2.2.2 (k:=c.l[n].toNat) (by omega)
  rw[show ((c.l[n].toNat:Nat):Int)=c.l[n]from by omega]at S
  have h1:=hS.1;unfold iu.bu;rw[nV u,bA,bQ u,ζb,bQ J,ζb,S,ζb];have G:jf o (x:Sl Int)=some (.row (o.l++[x])):=by unfold jf;rw[if_pos (by omega)]
  rw[G,ζb,bf,dn n (by omega)]
  refine⟨rfl,by simp[Sl.l];exact e2,λp P a h z B=>?_⟩
  show ∃y,(o.l++[x])[p]? = some y/\_
  by_cases O:p=n
  .subst O;rw[D]at z;rw[C]at B;cases z;cases B;exact⟨x,by rw[List.getElem?_append_right (by omega)];simp[e2],L⟩
  .obtain⟨y,U,Q⟩:=e3 p P a (by omega) z B
   exact⟨y,by rw[List.getElem?_append_left (by omega)];exact U,Q⟩
 .rintro⟨o,_⟩ ⟨e1,e2,e3⟩;simp only at e1 e2 e3;subst e1;unfold iu.bu;rw[show decide ((c.l.length:Int)<len c)=false from pQ,bE,bf];refine(bf _).2 ⟨rfl,by rw[e2,I],λp P a D C=>e3 p P a ?_ D C⟩
  apply Classical.byContradiction;intro X;rw[List.getElem?_eq_none (by omega)]at C;cases C
section
variable {P:Pred} {t:Trace}
end
end Go.VE
namespace Go.VE
def oE (l:List Int) (m:Int):Prop:=m∈l/\∀x∈l,m<=x
def isMax (l:List Int) (m:Int):Prop:=m∈l/\∀x∈l,x<=m
theorem oE.one {l:List Int} {a b:Int} (h:oE l a) (g:oE l b):a=b:=by have:=h.2 b g.1;have:=g.2 a h.1;omega
theorem isMax.one {l:List Int} {a b:Int} (h:isMax l a) (g:isMax l b):a=b:=by have:=h.2 b g.1;have:=g.2 a h.1;omega
theorem oE.snoc {l:List Int} {a x:Int} (h:oE l a):oE (l++[x]) (if x<a then x else a):=by
 obtain⟨h1,u⟩:=h;split
 .refine⟨by simp,λy hy=>?_⟩
  rcases List.mem_append.1 hy with hy|hy
  .have:=u y hy;omega
  .simp at hy;omega
 .refine⟨List.mem_append_left _ h1,λy hy=>?_⟩
  rcases List.mem_append.1 hy with hy|hy
  .exact u y hy
  .simp at hy;omega
theorem isMax.snoc {l:List Int} {a x:Int} (h:isMax l a):isMax (l++[x]) (if x>a then x else a):=by
 obtain⟨h1,u⟩:=h;split
 .refine⟨by simp,λy hy=>?_⟩
  rcases List.mem_append.1 hy with hy|hy
  .have:=u y hy;omega
  .simp at hy;omega
 .refine⟨List.mem_append_left _ h1,λy hy=>?_⟩
  rcases List.mem_append.1 hy with hy|hy
  .exact u y hy
  .simp at hy;omega
theorem Nl {s:Sl Int} (h:0<s.l.length) (B:s.l.length<1073741824):Wp (eF s) λm=>oE s.l m:=by
 unfold eF eF.J1 eF.W2;rw[decide_eq_false (show ¬len s<1 by simp only[len];omega),bE,show idx s 0=some s.l[0]from bQ (i:=0) h,ζb]
 refine nJ (s.l.length-1) (λn q=>q.2=((n+1:Nat):Int)/\oE (s.l.take (n+1)) q.1) ⟨rfl,?_⟩ ?_ ?_
 .rw[List.take_add_one,ζd h];exact⟨by simp,λx z=>by simp at z;omega⟩
 .rintro n ⟨m,_⟩ A ⟨rfl,w⟩;have u:n+1<s.l.length:=by omega
  unfold eF.b9;rw[nV u,bA,bQ u,ζb,bf,dn _ (by omega)]
  refine⟨rfl,?_⟩;rw[List.take_add_one,ζd u];exact w.snoc
 .rintro⟨m,_⟩ ⟨rfl,w⟩;unfold eF.b9;rw[show s.l.length-1+1=s.l.length from by omega,pQ,bE,bf]
  rw[show s.l.length-1+1=s.l.length from by omega,List.take_length]at w
  exact(bf _).2 w
theorem Ms {s:Sl Int} (h:0<s.l.length) (B:s.l.length<1073741824):Wp (eM s) λm=>isMax s.l m:=by
 unfold eM eM.J1 eM.W2;rw[decide_eq_false (show ¬len s<1 by simp only[len];omega),bE,show idx s 0=some s.l[0]from bQ (i:=0) h,ζb]
 refine nJ (s.l.length-1) (λn q=>q.2=((n+1:Nat):Int)/\isMax (s.l.take (n+1)) q.1) ⟨rfl,?_⟩ ?_ ?_
 .rw[List.take_add_one,ζd h];exact⟨by simp,λx z=>by simp at z;omega⟩
 .rintro n ⟨m,_⟩ A ⟨rfl,w⟩;have u:n+1<s.l.length:=by omega
  unfold eM.b9;rw[nV u,bA,bQ u,ζb,bf,dn _ (by omega)]
  refine⟨rfl,?_⟩;rw[List.take_add_one,ζd u];exact w.snoc
 .rintro⟨m,_⟩ ⟨rfl,w⟩;unfold eM.b9;rw[show s.l.length-1+1=s.l.length from by omega,pQ,bE,bf]
  rw[show s.l.length-1+1=s.l.length from by omega,List.take_length]at w
  exact(bf _).2 w
theorem JY {s:Sl Int} {a b:Int} (h:0<s.l.length) (B:s.l.length<1073741824) (D:oE s.l a) (G:isMax s.l b):lz s=some ⟨a,b⟩:=by
 obtain⟨m,h1,u⟩:=Nl h B;obtain⟨n,g1,g2⟩:=Ms h B;unfold lz;rw[h1,ζb,g1,ζb,u.one D,g2.one G]
theorem Q3 (n:Int):lz (Sl.row [n]:Sl Int)=some ⟨n,n⟩:=
 JY (by simp[Sl.l]) (by simp[Sl.l]) ⟨by simp[Sl.l],λx u=>by simp[Sl.l]at u;omega⟩ ⟨by simp[Sl.l],λx u=>by simp[Sl.l]at u;omega⟩
theorem Q4 (a b c d:Int):lz (Sl.row [a,b,c,d]:Sl Int)=some ⟨if(if d<c then d else c)<(if b<a then b else a)then(if d<c then d else c)else(if b<a then b else a),if(if d>c then d else c)>(if b>a then b else a)then(if d>c then d else c)else(if b>a then b else a)⟩:=by
 refine JY (by simp[Sl.l]) (by simp[Sl.l]) ⟨?_,λx u=>?_⟩ ⟨?_,λx u=>?_⟩
 .show _∈[a,b,c,d];simp only[List.mem_cons,List.not_mem_nil,or_false];split <;> split <;> (try split) <;> omega
 .have u:x∈[a,b,c,d]:=u;simp only[List.mem_cons,List.not_mem_nil,or_false]at u;split <;> split <;> (try split) <;> omega
 .show _∈[a,b,c,d];simp only[List.mem_cons,List.not_mem_nil,or_false];split <;> split <;> (try split) <;> omega
 .have u:x∈[a,b,c,d]:=u;simp only[List.mem_cons,List.not_mem_nil,or_false]at u;split <;> split <;> (try split) <;> omega
theorem Dx (a b:Int):js a b=cA a b:=by
 unfold js cA cA.J1 sW
 by_cases z:a=0
 .subst z;rw[show (0:Int)*b=0 from by omega]
  rfl
 .have u:(a==0)=false:=by simpa using z
  by_cases A:b=0
  .subst A;rw[u,show a*(0:Int)=0 from by omega]
   rfl
  .have w:(b==0)=false:=by simpa using A
   rw[u,w];rfl
def pR (az:List Assign) (v:Int):Option Int:=(az.find? λa=>a.var==v).map Assign.value
def C_ (az:List Assign):Prop:=∀(i j:Nat) a b,i<j->az[i]? = some a->az[j]? = some b->a.var≠b.var
theorem C_.tail {a:Assign} {r:List Assign} (h:C_ (a::r)):C_ r:=λi j x y u w z=>h (i+1) (j+1) x y (by omega) (by simpa using w) (by simpa using z)
theorem C_.head {a:Assign} {r:List Assign} (h:C_ (a::r)):∀b∈r,a.var≠b.var:=λb u=>by
 obtain⟨j,w⟩:=List.mem_iff_getElem?.1 u;exact h 0 (j+1) a b (by omega) (by simp) (by simpa using w)
theorem Ih:∀(az:List Assign) (l:List Int) (k:Nat),C_ az->(∀a∈az,0<=a.var)->k<l.length->(yY l az)[k]? = some ((pR az k).getD (l[k]?.getD 0))
 | [],l,k,_,_,hk=>by simp[yY,pR,ζd hk]
 | a::r,l,k,hd,h0,hk=>by
  show (yY (l.set a.var.toNat a.value) r)[k]? = _;have B:=h0 a (by simp)
  rw[Ih r _ k hd.tail (λb w=>h0 b (List.mem_cons_of_mem _ w)) (by simpa using hk)]
  congr 1
  by_cases u:a.var=(k:Int)
  .have hr:pR r k=none:=by
    unfold pR;rw[Option.map_eq_none_iff,List.find?_eq_none];intro b w;have:=hd.head b w;simp;omega
   rw[hr];unfold pR;rw[List.find?_cons_of_pos (by simpa using u)]
   simp only[Option.getD_none,Option.map_some,Option.getD_some];rw[List.getElem?_set,if_pos (by omega),if_pos (by omega)]
   rfl
  .have hr:pR (a::r) k=pR r k:=by
    unfold pR;rw[List.find?_cons_of_neg (by simpa using u)]
   rw[hr,List.getElem?_set,if_neg (by omega)]
def nj (P:bT) (v k:Nat):Int:=((gV P k)[v]?).getD 0
structure Rm (P:bT):Prop where
 ok:tW P
 dst:∀e∈P.events.l,C_ e.assign.l
theorem Fp {P:bT} {v:Nat} (k:Nat) (hv:v<P.vars.l.length):(gV P k)[v]? = some (nj P v k):=by
 unfold nj;rw[ζd (by rw[oC];exact hv)];rfl
theorem Ny {P:bT} (B:Rm P) {v k:Nat} (hv:v<P.vars.l.length) {e:Event} (D:P.events.l[k]? = some e):nj P v (k+1)=(pR e.assign.l v).getD (nj P v k):=by
 have u:=List.mem_of_getElem? D;have h1:gV P (k+1)=yY (gV P k) e.assign.l:=by
  show (match P.events.l[k]? with|some e=>yY (gV P k) e.assign.l|none=>gV P k)=_
  rw[D]
 unfold nj;rw[h1,Ih _ _ _ (B.dst e u) (λa w=>(B.ok e u a w).1) (by rw[oC];exact hv)]
 rfl
theorem Rm.of {t:Trace} (B:Ok t) {p:Nat} {P:bT} (D:t.procs.l[p]? = some P):Rm P:=by
 refine⟨tW.of B D,λe G i j a b w I C z=>?_⟩
 obtain⟨k,hk⟩:=List.mem_iff_getElem?.1 G;have h:=B.e8 p k P e D hk;unfold nN at h;have A:j<e.assign.l.length:=(ζe.1 C).1;have J:mD (lB P e) 0 e.assign.l.length=0:=by
  split at h
  .split at h
   .cases h
   .split at h
    .cases h
    .exact h
  .cases h
 have u:=(EG (g:=lB P e) (n:=e.assign.l.length) (m:=e.assign.l.length) (k:=0) (by omega)).1 J j (Nat.zero_le _) A
 unfold lB at u;rw[C]at u;dsimp only at u;have L:iy (fO e.assign.l λx=>x.var==b.var) 0 j=true:=by
  rw[GF];exact⟨i,Nat.zero_le _,w,by simp[fO,I,z]⟩
 rw[L]at u
 revert u
 cases (decide (0<=b.var)&&decide (b.var<P.vars.l.length)) <;> cases (decide (b.value>=-1073741824)&&decide (b.value<=1073741824)) <;> simp[L_]
end Go.VE
namespace Go.VE
abbrev oA (P:bT) (v n:Nat):List Int:=(List.range (n+1)).map (nj P v)
theorem L9 (P:bT) (v n:Nat):oA P v (n+1)=oA P v n++[nj P v (n+1)]:=by
 unfold oA;rw[List.range_succ,List.map_append];rfl
theorem zX {P:bT} {v n k:Nat} (h:k<=n):nj P v k∈oA P v n:=List.mem_map.2 ⟨k,List.mem_range.2 (by omega),rfl⟩
theorem oE.old {l:List Int} {a x:Int} (h:oE l a) (B:x∈l):oE (l++[x]) a:=
 ⟨List.mem_append_left _ h.1,λy hy=>by
  rcases List.mem_append.1 hy with hy|hy
  .exact h.2 y hy
  .simp at hy;subst hy;exact h.2 _ B⟩
theorem isMax.old {l:List Int} {a x:Int} (h:isMax l a) (B:x∈l):isMax (l++[x]) a:=
 ⟨List.mem_append_left _ h.1,λy hy=>by
  rcases List.mem_append.1 hy with hy|hy
  .exact h.2 y hy
  .simp at hy;subst hy;exact h.2 _ B⟩
section
variable {P:bT} {v:Nat}
theorem MF (D:tW P) (hv:P.vars.l.length<1073741824) (U:P.events.l.length<1073741823) (G:∀e∈P.events.l,e.assign.l.length<1073741824) (B:v<P.vars.l.length) :
 Wp (fI P v) λs=>s.l=oA P v P.events.l.length:=by
 obtain⟨r,h1,A,C⟩:=Fv D hv (by omega) G
 have key:∀(rem:List (Int×Sl Int)) (i:Nat) (q:Sl Int),r.drop i=rem->i<=r.length->q.l=(List.range i).map (nj P v)->∃s,(kj (λ(x:Int×(Sl Int)) (q:Sl Int)=>fI.jt P v x q) rem q).bind (Fw.qt (λq=>some q) (λe=>Empty.elim e) (λe=>Empty.elim e))=some s/\s.l=(List.range r.length).map (nj P v):=by
  intro rem
  induction rem with
  | nil=>
   intro i q hd hi z;have:r.length<=i:=by simpa using hd
   exact⟨q,rfl,by rw[z,show i=r.length from by omega]⟩
  | cons y rem I=>
   intro i q hd _ z;have u:i<r.length:=by
    apply Classical.byContradiction;intro Q;rw[List.drop_eq_nil_of_le (by omega)]at hd;cases hd
   have e2:=List.drop_eq_getElem_cons u;rw[e2]at hd;simp only[List.cons.injEq]at hd;obtain⟨S,J⟩:=C i y (by rw[ζd u,hd.1])
   have L:idx y.2 (v:Int)=some (nj P v i):=by rw[lu,J];exact Fp i B
   have O:q.l.length=i:=by rw[z];simp
   have w:jf q (nj P v i)=some (.row (q.l++[nj P v i])):=by unfold jf;rw[if_pos (by omega)]
   obtain⟨s,g1,g2⟩:=I (i+1) (.row (q.l++[nj P v i])) hd.2 (by omega) (by show q.l++[nj P v i]=_;rw[z,List.range_succ,List.map_append];rfl)
   refine⟨s,?_,g2⟩;simp only[kj,fI.jt,L,w,ζb];exact g1
 obtain⟨s,g1,g2⟩:=key r 0 .nil rfl (Nat.zero_le _) rfl;refine⟨s,?_,by show s.l=_;rw[g2,A]⟩
 unfold fI mW fI.E1;simp only[ζb,h1];exact g1
theorem GN {α:Type} {f:α->Bool} {l:List α} {k:Nat} {x:α} (h1:l[k]? = some x) (B:f x=true) (D:∀(j:Nat) (y:α),j<k->l[j]? = some y->f y=false):place f l=k:=by
 unfold place;have hk:=(ζe.1 h1);obtain⟨hk,u⟩:=hk;rw[show l.findIdx? f=some k from by
  rw[List.findIdx?_eq_some_iff_getElem];exact⟨hk,by rw[u];exact B,λj w=>by rw[D j _ w (ζd (by omega))];simp⟩]
theorem Fe {t:Trace} (hS:Small t) (hv:dK t=some true) (G:Ok t) {n:Nat} (B:t.procs.l[n]? = some P) {name:ByteArray} {x:Var} (h1:P.vars.l[v]? = some x) (U:(ByteArray.toList x.name==ByteArray.toList name)=true)
 (W:∀(j:Nat) (w:Var),j<v->P.vars.l[j]? = some w->(ByteArray.toList w.name==ByteArray.toList name)=false) :
 Wp (qj t n name) λr=>r.2.2=0/\oE (oA P v P.events.l.length) r.1/\isMax (oA P v P.events.l.length) r.2.1:=by
 have O:n<t.procs.l.length:=(ζe.1 B).1;have Q:=List.mem_of_getElem? B;have u:=hS.2 P Q;have C:v<P.vars.l.length:=(ζe.1 h1).1;have I:P.events.l.length<=64:=by
  have:=G.heads n O;unfold si at this;rw[B]at this;dsimp only at this;split at this
  .split at this
   .cases this
   .split at this
    .split at this
     .cases this
     .omega
    .rename_i D;exact absurd this D
  .cases this
 obtain⟨s,g1,g2⟩:=MF (tW.of G B) u.2.1 (by omega) u.2.2.2.2 C
 have hsl:s.l.length=P.events.l.length+1:=by rw[g2];simp[oA]
 obtain⟨a,S,J⟩:=Nl (s:=s) (by omega) (by omega)
 obtain⟨b,T,L⟩:=Ms (s:=s) (by omega) (by omega)
 have A:qZ t n name=some ((v:Int),0):=by
  unfold qZ;rw[hv,ζb,bA,decide_eq_false (show ¬(n:Int)<0 by omega),bE,ζb,decide_eq_false (show ¬(n:Int)>=len t.procs by simp only[len];omega),bE,lu,B,ζb]
  unfold tD;rw[CG (p:=λz=>nL z name) (f:=λw=>ByteArray.toList w.name==ByteArray.toList name) (λ_ _=>rfl) u.2.1,GN h1 U W,ζb,ζb,decide_eq_false (show ¬((v:Nat):Int)<0 by omega)]
  rfl
 unfold qj;rw[A,ζb];simp only;rw[show ((0:Int)==0)=true from rfl,bA,lu,B,ζb,g1,ζb,S,ζb,T,ζb,bf];rw[g2]at J L;exact⟨rfl,J,L⟩
def fS (o:Option Int) (low high:Int):Int×Int:=match o with
 | none=>(low,high)
 | some x=>(if x<low then x else low,if x>high then x else high)
theorem ER {az:List Assign} (hd:C_ az) {j:Nat} (B:j<az.length):pR (az.take (j+1)) v=if az[j].var=(v:Int)then some az[j].value else pR (az.take j) v:=by
 unfold pR;rw[List.take_add_one,ζd B];show ((az.take j++[az[j]]).find? _).map _=_;rw[List.find?_append]
 by_cases h:az[j].var=(v:Int)
 .rw[if_pos h];have:(az.take j).find? (λa=>a.var==(v:Int))=none:=by
   rw[List.find?_eq_none];intro b w;obtain⟨i,hi⟩:=List.mem_iff_getElem?.1 w;have u:i<j:=by
    have:=(ζe.1 hi).1;rw[List.length_take]at this;omega
   rw[List.getElem?_take_of_lt u]at hi;have:=hd i j b az[j] u hi (ζd B);simp;omega
  rw[this,List.find?_cons_of_pos (by simpa using h)];rfl
 .rw[if_neg h,List.find?_cons_of_neg (by simpa using h)]
  simp
theorem ND {az:List Assign} (hd:C_ az) {j:Nat} (B:j<az.length) (h:az[j].var=(v:Int)):pR (az.take j) v=none:=by
 unfold pR;rw[Option.map_eq_none_iff,List.find?_eq_none];intro b w;obtain⟨i,hi⟩:=List.mem_iff_getElem?.1 w;have u:i<j:=by
  have:=(ζe.1 hi).1;rw[List.length_take]at this;omega
 rw[List.getElem?_take_of_lt u]at hi;have:=hd i j b az[j] u hi (ζd B);simp;omega
theorem MR {t:Trace} (hS:Small t) (U:Ok t) {n:Nat} (J:t.procs.l[n]? = some P) (B:v<P.vars.l.length) :
 Wp (eZ t n v) λr=>oE (oA P v P.events.l.length) r.1/\isMax (oA P v P.events.l.length) r.2:=by
 have S:=List.mem_of_getElem? J;have I:=hS.2 P S;have O:=Rm.of U J;have A:idx t.procs (n:Int)=some P:=by rw[lu];exact J
 unfold eZ;rw[A,ζb,bQ B,ζb];unfold eZ.W1;have h0:oA P v 0=[P.vars.l[v].init_]:=by
  simp[oA,nj,gV,ζd B]
 refine nJ P.events.l.length (λi s=>s.2.2=(i:Int)/\oE (oA P v i) s.1/\isMax (oA P v i) s.2.1) ⟨rfl,by rw[h0];exact⟨by simp,λx A=>by simp at A;show P.vars.l[v].init_<=x;omega⟩,by rw[h0];exact⟨by simp,λx A=>by simp at A;show x<=P.vars.l[v].init_;omega⟩⟩ ?_ ?_
 .rintro i ⟨low,high,_⟩ hi ⟨rfl,w,z⟩;simp only at w z;have C:=List.getElem_mem hi;have hd:=O.dst _ C;have T:=I.2.2.2.2 _ C;have u:=Ny O B (ζd hi);unfold eZ.bu;rw[A,ζb,nV hi,bA,ζb,bQ hi,ζb];generalize P.events.l[i]=e at *;unfold eZ.W2;refine nJ e.assign.l.length (λj s=>s.2.2=(j:Int)/\(s.1,s.2.1)=fS (pR (e.assign.l.take j) v) low high) ⟨rfl,by simp[pR,fS]⟩ ?_ ?_
  .rintro j ⟨lo,L,_⟩ D ⟨rfl,hu⟩;unfold eZ.b9;rw[nV D,bA,bQ D,ζb]
   by_cases G:e.assign.l[j].var=(v:Int)
   .rw[show (e.assign.l[j].var==(v:Int))=true from by simpa using G,bA,ζb,ζb,bf,dn j (by omega)]
    rw[ND hd D G]at hu;simp only[fS,ζc]at hu;obtain⟨rfl,rfl⟩:=hu;refine⟨rfl,?_⟩;rw[ER hd D,if_pos G];rfl
   .rw[show (e.assign.l[j].var==(v:Int))=false from by simpa using G,bE,bf,dn j (by omega)]
    refine⟨rfl,?_⟩;rw[ER hd D,if_neg G];exact hu
  .rintro⟨lo,L,_⟩ ⟨rfl,hu⟩;unfold eZ.b9;rw[pQ,bE,bf];simp only;rw[bf,dn i (by omega)]
   rw[List.take_length]at hu;refine⟨rfl,?_⟩;simp only;rw[L9]
   cases Q:pR e.assign.l v with
   | none=>
    rw[Q]at hu u;simp only[fS,ζc]at hu;obtain⟨rfl,rfl⟩:=hu;rw[show nj P v (i+1)=nj P v i from u];exact⟨w.old (zX (Nat.le_refl _)),z.old (zX (Nat.le_refl _))⟩
   | some x=>
    rw[Q]at hu u;simp only[fS,ζc]at hu;obtain⟨rfl,rfl⟩:=hu;rw[show nj P v (i+1)=x from u];exact⟨w.snoc,z.snoc⟩
 .rintro⟨low,high,_⟩ ⟨rfl,w,z⟩;unfold eZ.bu;rw[A,ζb,pQ,bE,bf];exact(bf _).2 ⟨w,z⟩
end
end Go.VE
namespace Go.VE
theorem RA {t:Trace} (hS:Small t):∃b,sR t=some b:=by
 have h1:∀e:Event,oB e=some (decide (len e.assign>20)):=λe=>rfl
 have w:∀P∈t.procs.l,∃b,lp P=some b:=λP u=>by
  unfold lp;rw[zw (f:=λe=>decide (len e.assign>20)) (λe _=>h1 e) (hS.2 P u).1]
  cases decide (len P.events>70) <;> cases decide (len P.vars>20) <;> exact⟨_,rfl⟩
 unfold sR;rw[Ah (p:=λz=>lp z) (f:=λP=>(lp P).getD false) (λP u=>by obtain⟨b,A⟩:=w P u;rw[A];rfl) hS.1]
 cases decide (len t.procs>10) <;> exact⟨_,rfl⟩
section
variable {t:Trace} {A:cE 200 bK}
theorem BB (hS:Small t) {p:Nat} {P:bT} (B:t.procs.l[p]? = some P) (q:Nat):eT t p q=some ((P.events.l.countP (eC q):Nat):Int):=by
 have D:P∈t.procs.l:=List.mem_of_getElem? B;have G:=(hS.2 P D).1;refine Wp.eq ?_;unfold eT;rw[lu,B,ζb];unfold eT.W1;refine nJ P.events.l.length (λn s=>s.2=(n:Int)/\s.1=(((P.events.l.take n).countP (eC q):Nat):Int)) ⟨rfl,rfl⟩ ?_ ?_
 .rintro n ⟨o,_⟩ w ⟨e1,e2⟩;simp only at e1 e2;subst e1 e2;have z:=List.countP_le_length (p:=eC q) (l:=P.events.l.take n);rw[List.length_take]at z;have u:(P.events.l.take (n+1)).countP (eC q)=(P.events.l.take n).countP (eC q)+if eC q P.events.l[n]then 1 else 0:=by
   rw[List.take_add_one,ζd w,List.countP_append];show _+List.countP _ [P.events.l[n]]=_;rw[List.countP_cons,List.countP_nil];simp
  unfold eT.bu;rw[nV w,bA,bQ w,ζb];generalize P.events.l[n]=e at u;have A:(a_ (e.kind==2) (some (e.peer==(q:Int))) (some false):Option Bool)=some (eC q e):=by
   unfold eC;cases e.kind==2 <;> cases e.peer==(q:Int) <;> rfl
  rw[A,ζb,dn n (by omega)]
  cases C:eC q e with
  | true=>
   rw[C]at u;rw[bA,bf,dn _ (by omega)]
   exact⟨rfl,by simp only[u];rfl⟩
  | false=>
   rw[C]at u;rw[bE,bf];exact⟨rfl,by simp only[u];rfl⟩
 .rintro⟨o,_⟩ ⟨e1,e2⟩;simp only at e1 e2;subst e1 e2;unfold eT.bu;rw[pQ,bE,bf];exact(bf _).2 (by rw[List.take_length])
theorem Mc {α:Type} {f:α->Bool} {l:List α} {n:Nat} (h:n<l.length):(l.take (n+1)).countP f=(l.take n).countP f+if f l[n]then 1 else 0:=by
 rw[List.take_add_one,ζd h,List.countP_append];show _+List.countP _ [l[n]]=_;rw[List.countP_cons,List.countP_nil];simp
end
end Go.VE
namespace Go.VE
section
variable {t:Trace}
theorem RR (hS:Small t) {p:Nat} {P:bT} (B:t.procs.l[p]? = some P) (q:Int):iw t p q=some ((P.events.l.countP (eC q):Nat):Int):=by
 have G:P∈t.procs.l:=List.mem_of_getElem? B;have I:=(hS.2 P G).1;have C:idx t.procs (p:Int)=some P:=by rw[lu];exact B
 refine Wp.eq ?_;unfold iw iw.W1;refine nJ P.events.l.length (λn s=>s.2=(n:Int)/\s.1=(((P.events.l.take n).countP (eC q):Nat):Int)) ⟨rfl,rfl⟩ ?_ ?_
 .rintro n ⟨o,_⟩ w ⟨e1,e2⟩;simp only at e1 e2;subst e1 e2;have z:=List.countP_le_length (p:=eC q) (l:=P.events.l.take n);rw[List.length_take]at z;have u:=Mc (f:=eC q) w;unfold iw.bu;rw[C,ζb,nV w,bA,ζb,bQ w,ζb];generalize P.events.l[n]=e at u;have A:(a_ (e.kind==2) (some (e.peer==q)) (some false):Option Bool)=some (eC q e):=by
   unfold eC;cases e.kind==2 <;> cases e.peer==q <;> rfl
  rw[A,ζb,dn n (by omega)]
  cases D:eC q e with
  | true=>
   rw[D]at u;rw[bA,bf,dn _ (by omega)]
   exact⟨rfl,by simp only[u];rfl⟩
  | false=>
   rw[D]at u;rw[bE,bf];exact⟨rfl,by simp only[u];rfl⟩
 .rintro⟨o,_⟩ ⟨e1,e2⟩;simp only at e1 e2;subst e1 e2;unfold iw.bu;rw[C,ζb,pQ,bE,bf];exact(bf _).2 (by rw[List.take_length])
def uZ (low high:Int):Bool:=decide (low>=-1125899906842624)&&decide (high<=1125899906842624)
structure wP (low high:Int):Prop where
 le:low<=high
 lo:-1125899906842624<=low
 hi:high<=1125899906842624
theorem Dz (low high:Int) (r:Trace×Pred->Option (Int×Int×Bool)):bM.J3 low high r=some (low,high,uZ low high):=by
 unfold bM.J3 uZ;cases decide (low>=-1125899906842624) <;> rfl
theorem Ck (low high:Int):iG ⟨low,high⟩=some (!uZ low high):=by
 unfold iG uZ;have h1:decide (low < -1125899906842624) = !decide (low>=-1125899906842624):=by rw[Bool.eq_iff_iff];simp
 have u:decide (high>1125899906842624) = !decide (high<=1125899906842624):=by rw[Bool.eq_iff_iff];simp
 simp only;rw[h1,u];cases decide (low>=-1125899906842624) <;> cases decide (high<=1125899906842624) <;> rfl
theorem wP.of {low high:Int} (h:low<=high) (g:uZ low high=true):wP low high:=by
 simp only[uZ,ζh]at g;have:=of_decide_eq_true g.1;have:=of_decide_eq_true g.2;exact⟨h,by omega,by omega⟩
theorem yz (a b c d:Int) (p:Pred) (r:Trace×Pred->Option (Int×Int×Bool)):bM.J2 a b c d true true t p r=(a_ (p.kind==1)
 (bM.J3 p.n p.n r)
 (a_ (p.kind==2)
 ((iB t p.proc p.name).bind λad=>
 (eZ t p.proc ad).bind λab=>
 bM.J3 ab.1 ab.2 r)
 (a_ (p.kind==3)
 ((idx t.procs p.proc).bind λae=>
 bM.J3 0 (len ae.events) r)
 (a_ (p.kind==4)
 ((iw t p.proc p.peer).bind λaf=>
 bM.J3 0 af r)
 (a_ (p.kind==5)
 (bM.J3 (IntKind.wrap .i64 (0-b)) (IntKind.wrap .i64 (0-a)) r)
 (a_ (p.kind==6)
 (bM.J3 (IntKind.wrap .i64 (a+c)) (IntKind.wrap .i64 (b+d)) r)
 (a_ (p.kind==7)
 (bM.J3 (IntKind.wrap .i64 (a-d)) (IntKind.wrap .i64 (b-c)) r)
 ((cA a c).bind λB=>
 (cA a d).bind λD=>
 (cA b c).bind λG=>
 (cA b d).bind λJ=>
 (cA a c).bind λU=>
 (cA a d).bind λW=>
 (cA b c).bind λY=>
 (cA b d).bind λaa=>
 bM.J3 (if(if J<G then J else G)<(if D<B then D else B)then(if J<G then J else G)else(if D<B then D else B)) (if(if aa>Y then aa else Y)>(if W>U then W else U)then(if aa>Y then aa else Y)else(if W>U then W else U)) r))))))):Option (Int×Int×Bool)):=rfl
theorem QL {a b c d:Int} {ok B:Bool} (h:(ok&&B)=false) (p:Pred) (r:Trace×Pred->Option (Int×Int×Bool)):bM.J2 a b c d ok B t p r=some (0,0,false):=by
 unfold bM.J2;cases ok <;> cases B <;> first|rfl|cases h
theorem om {a b:Int} (B:-1125899906842624<=a/\a<=1125899906842624) (D:-1125899906842624<=b/\b<=1125899906842624):∃x,cA a b=some x:=by
 unfold cA cA.J1
 by_cases h0:a=0
 .subst h0;exact⟨_,rfl⟩
 .rw[show (a==0)=false from by simpa using h0,bE,ζb]
  by_cases h1:b=0
  .subst h1;exact⟨_,rfl⟩
  .rw[show (b==0)=false from by simpa using h1,show (!false)=true from rfl,bA,eN (0-b) (by omega) (by omega)]
   have:∀k m:Int,m≠0->∃x,xD .i64 k m=some x:=λk m u=>by unfold xD;rw[if_neg u];exact⟨_,rfl⟩
   obtain⟨x,w⟩:=this 1125899906842624 (if 0-b>b then 0-b else b) (by split <;> omega)
   rw[w,ζb];cases decide ((if IntKind.wrap .i64 (0-a)>a then IntKind.wrap .i64 (0-a)else a)>x) <;> cases (decide (a<0)==decide (b<0)) <;> exact⟨_,rfl⟩
theorem MU (hS:Small t) (hv:dK t=some true) (D:Ok t) {q:Pred} (U:fB q=true) (hr:nD t q=true) (hk:q.kind<=4) :
 ∃low high,ga t q=some ⟨low,high⟩/\low<=high/\∀r,bM.J2 0 0 0 0 true true t q r=bM.J3 low high r:=by
 obtain⟨k1,-,-⟩:=vH U;rcases (show q.kind=1\/q.kind=2\/q.kind=3\/q.kind=4 by omega)with h|h|h|h
 .refine⟨q.n,q.n,?_,Int.le_refl _,λr=>?_⟩
  .unfold ga;rw[show (q.kind==1)=true from by simpa using h,bA,Q3];rfl
  .rw[yz,show (q.kind==1)=true from by simpa using h,bA]
 .unfold nD at hr;rw[if_pos (by simpa using h)]at hr
  simp only[ζh]at hr;obtain⟨L,-,w⟩:=hr;obtain⟨i,hi,hc⟩:=D6 hS (p:=q.proc) (by simp only[ζh];exact L) q.name
  rcases hc with⟨n,k,P,v,u,z,rfl,A,h1,O,-⟩|⟨-,B⟩
  .obtain⟨⟨low,high,e⟩,g1,g2,g3,g4⟩:=Fe hS hv D z (name:=q.name) A h1 O;simp only at g2 g3 g4;subst g2;obtain⟨⟨a,b⟩,Q,G,I⟩:=MR hS D z (v:=k) (ζe.1 A).1;simp only at G I;obtain rfl:=g3.one G;obtain rfl:=g4.one I;refine⟨low,high,?_,g4.2 _ g3.1,λr=>?_⟩
   .unfold ga;rw[h,show ((2:Int)==1)=false from rfl,bE,show ((2:Int)==3)=false from rfl,bE,show ((2:Int)==4)=false from rfl,bE,u,g1];rfl
   .rw[yz,h,show ((2:Int)==1)=false from rfl,bE,show ((2:Int)==2)=true from rfl,bA,hi,ζb,u,Q,ζb]
  .rw[B]at w;cases w
 .unfold nD at hr;rw[if_neg (by simp[h]),if_pos (by simpa using h)]at hr
  simp only[ζh]at hr;obtain⟨n,u,C⟩:=uk (t:=t) (p:=q.proc) (by simp only[ζh];exact hr.1)
  refine⟨0,len t.procs.l[n].events,?_,by simp only[len];omega,λr=>?_⟩
  .unfold ga;rw[h,show ((3:Int)==1)=false from rfl,bE,show ((3:Int)==3)=true from rfl,bA,u,bQ C];rfl
  .rw[yz,h,show ((3:Int)==1)=false from rfl,bE,show ((3:Int)==2)=false from rfl,bE,show ((3:Int)==3)=true from rfl,bA,u,bQ C];rfl
 .unfold nD at hr;rw[if_neg (by simp[h]),if_neg (by simp[h]),if_pos (by simpa using h)]at hr
  simp only[ζh]at hr;obtain⟨n,u,C⟩:=uk (t:=t) (p:=q.proc) (by simp only[ζh];exact hr.1)
  obtain⟨m,J,S⟩:=uk (t:=t) (p:=q.peer) (by simp only[ζh];exact hr.2.1)
  have z:=ζd C;refine⟨0,((t.procs.l[n].events.l.countP (eC m):Nat):Int),?_,by omega,λr=>?_⟩
  .unfold ga;rw[h,show ((4:Int)==1)=false from rfl,bE,show ((4:Int)==3)=false from rfl,bE,show ((4:Int)==4)=true from rfl,bA,u,J,BB hS z];rfl
  .rw[yz,h,show ((4:Int)==1)=false from rfl,bE,show ((4:Int)==2)=false from rfl,bE,show ((4:Int)==3)=false from rfl,bE,show ((4:Int)==4)=true from rfl,bA,u,J,RR hS z];rfl
end
end Go.VE
namespace Go.VE
section
variable {t:Trace}
theorem FT (v:bN) (l h:Int) (r:Trace×Pred->Option (bN×Bool)):cD.J2 v ⟨l,h⟩ r=some (⟨l,h⟩,uZ l h):=by
 unfold cD.J2;rw[Ck,ζb,Bool.not_not]
theorem DE {ok B:Bool} (h:(ok&&B)=false) (p:Pred) (v a b:bN) (r:Trace×Pred->Option (bN×Bool)):cD.J1 ok B p v a b r=some (⟨0,0⟩,false):=by
 unfold cD.J1;cases ok <;> cases B <;> first|rfl|cases h
theorem FK {p:Pred} (hk:5<=p.kind/\p.kind<=8) {a b c d:Int} (h1:wP a b) (J:wP c d) (v:bN) (r:Trace×Pred->Option (bN×Bool)) (B:Trace×Pred->Option (Int×Int×Bool)) :
 ∃low high,cD.J1 true true p v ⟨a,b⟩ ⟨c,d⟩ r=some (⟨low,high⟩,uZ low high)/\bM.J2 a b c d true true t p B=some (low,high,uZ low high)/\low<=high:=by
 obtain⟨L,O,Q⟩:=h1;obtain⟨S,T,U⟩:=J;rw[yz];unfold cD.J1;rw[bA,ζb,show (!true)=false from rfl,bE];rcases (show p.kind=5\/p.kind=6\/p.kind=7\/p.kind=8 by omega)with h|h|h|h <;> rw[h]
 .refine⟨-b,-a,?_,?_,by omega⟩
  .rw[show ((5:Int)==5)=true from rfl,bA,FT];simp only;rw[eN (0-b) (by omega) (by omega),eN (0-a) (by omega) (by omega),show (0:Int)-b=-b from by omega,show (0:Int)-a=-a from by omega]
  .show bM.J3 _ _ B=_;rw[Dz,eN (0-b) (by omega) (by omega),eN (0-a) (by omega) (by omega),show (0:Int)-b=-b from by omega,show (0:Int)-a=-a from by omega]
 .refine⟨a+c,b+d,?_,?_,by omega⟩
  .rw[show ((6:Int)==5)=false from rfl,bE,show ((6:Int)==6)=true from rfl,bA,FT];simp only;rw[eN (a+c) (by omega) (by omega),eN (b+d) (by omega) (by omega)]
  .show bM.J3 _ _ B=_;rw[Dz,eN (a+c) (by omega) (by omega),eN (b+d) (by omega) (by omega)]
 .refine⟨a-d,b-c,?_,?_,by omega⟩
  .rw[show ((7:Int)==5)=false from rfl,bE,show ((7:Int)==6)=false from rfl,bE,show ((7:Int)==7)=true from rfl,bA,FT];simp only;rw[eN (a-d) (by omega) (by omega),eN (b-c) (by omega) (by omega)]
  .show bM.J3 _ _ B=_;rw[Dz,eN (a-d) (by omega) (by omega),eN (b-c) (by omega) (by omega)]
 .obtain⟨w,u⟩:=om (a:=a) (b:=c) ⟨by omega,by omega⟩ ⟨by omega,by omega⟩
  obtain⟨x,A⟩:=om (a:=a) (b:=d) ⟨by omega,by omega⟩ ⟨by omega,by omega⟩
  obtain⟨y,C⟩:=om (a:=b) (b:=c) ⟨by omega,by omega⟩ ⟨by omega,by omega⟩
  obtain⟨z,D⟩:=om (a:=b) (b:=d) ⟨by omega,by omega⟩ ⟨by omega,by omega⟩
  refine⟨if(if z<y then z else y)<(if x<w then x else w)then(if z<y then z else y)else(if x<w then x else w),if(if z>y then z else y)>(if x>w then x else w)then(if z>y then z else y)else(if x>w then x else w),?_,?_,?_⟩
  .rw[show ((8:Int)==5)=false from rfl,bE,show ((8:Int)==6)=false from rfl,bE,show ((8:Int)==7)=false from rfl,bE];simp only[Dx];rw[u,A,C,D];simp only[ζb];rw[Q4,ζb,FT]
  .show (cA a c).bind _=_;rw[u,A,C,D];simp only[ζb];rw[Dz]
  .have I:(if z<y then z else y)<=(if z>y then z else y):=by split <;> split <;> omega
   have G:(if x<w then x else w)<=(if x>w then x else w):=by split <;> split <;> omega
   split <;> split <;> omega
theorem Pj {k:Int} (h:(lG k==1)=true):k<=8:=by
 unfold lG at h
 by_cases g:k<=8
 .exact g
 .rw[if_neg g]at h;cases h
theorem Pred.parts {p:Pred} (B:fB p=true) {c:Int} (hc:cE.at wK p.kind=some c):(p.l.l.length:Int)=c:=by
 obtain⟨-,-,h⟩:=vH B;rw[hc]at h;exact(Option.some.inj h).symm
structure vW (t:Trace) (p:Pred):Prop where
 sm:p.Sm
 f:p.fL fB=true
 r:p.fL (nD t)=true
 y:p.fL qJ=true
theorem vW.uY {p q:Pred} (h:vW t p) (B:q∈p.l.l):vW t q:=by
 obtain⟨h1,u,w,z⟩:=h;rw[p.kB,ζh,List.all_eq_true]at u w z;exact⟨h1.uY B,u.2 q B,w.2 q B,z.2 q B⟩
theorem vW.here {p:Pred} (h:vW t p):fB p=true/\nD t p=true/\qJ p=true:=by
 obtain⟨h1,u,w,z⟩:=h;rw[p.kB,ζh]at u w z;exact⟨u.1,w.1,z.1⟩
theorem vW.int {p q:Pred} (h:vW t p) (hk:p.kind<=12) (B:q∈p.l.l):q.kind<=8:=by
 have:=h.here.2.2;unfold qJ at this;rw[List.all_eq_true]at this;have:=this q B;unfold vB at this;rw[if_pos hk]at this;exact Pj this
theorem BQ (hS:Small t) (hv:dK t=some true) (Y:Ok t) (p:Pred):vW t p->p.kind<=8->∀n,p.dp<=n ->
 ∃low high ok i,dz (λr (z:Trace×Pred)=>dF z.1 z.2 r) n (t,p)=some (i,ok)/\dz (λr (z:Trace×Pred)=>fW z.1 z.2 r) n (t,p)=some (low,high,ok)/\(ok=true->i=⟨low,high⟩/\wP low high):=by
 induction p using Pred.ind with
 | h p A=>
  intro hc hk n hn;have hd:=p.sS;obtain⟨C,hr,hy⟩:=hc.here;obtain⟨k1,-,-⟩:=vH C;rw[iK (by omega),iK (by omega)]
  have A:=λq G=>A q G (hc.uY G) (hc.int (by omega) G) (n-1) (by have:=Pred.sC G;omega)
  show ∃low high ok i,dF t p (dz (λr (z:Trace×Pred)=>dF z.1 z.2 r) (n-1))=some (i,ok)/\fW t p (dz (λr (z:Trace×Pred)=>fW z.1 z.2 r) (n-1))=some (low,high,ok)/\_
  generalize dz (λr (z:Trace×Pred)=>dF z.1 z.2 r) (n-1)=R at A ⊢
  generalize dz (λr (z:Trace×Pred)=>fW z.1 z.2 r) (n-1)=W at A ⊢
  unfold dF fW bM.J1
  by_cases Z:p.kind<=4
  .have B:p.l.l.length=0:=by
    have:=Pred.parts C (c:=0) (by rcases (show p.kind=1\/p.kind=2\/p.kind=3\/p.kind=4 by omega)with h|h|h|h <;> (rw[h];rfl))
    omega
   obtain⟨low,high,g1,g2,g3⟩:=MU hS hv Y C hr Z;refine⟨low,high,uZ low high,⟨low,high⟩,?_,?_,λh=>⟨rfl,wP.of g2 h⟩⟩
   .rw[show (len p.l==0)=true from by simp[len,B],bA,g1,ζb,Ck,ζb,Bool.not_not]
   .rw[decide_eq_false (show ¬len p.l>0 by simp[len,B]),bE,decide_eq_false (show ¬len p.l>1 by simp[len,B]),bE,g3,Dz]
  .by_cases X:p.kind=5
   .have u:p.l.l.length=1:=by
     have:=Pred.parts C (c:=1) (by rw[X];rfl)
     omega
    have h0:0<p.l.l.length:=by omega
    obtain⟨a,b,ok,i,g1,g2,g3⟩:=A _ (List.getElem_mem h0);have L:idx p.l 0=some p.l.l[0]:=bQ (i:=0) h0;rw[show (len p.l==0)=false from by simp[len,u],bE,L,ζb,g1,ζb,show (len p.l==2)=false from by simp[len,u],bE,
     decide_eq_true (show len p.l>0 by simp[len,u]),bA,ζb,g2,ζb,decide_eq_false (show ¬len p.l>1 by simp[len,u]),bE]
    simp only
    cases ok with
    | false=>
     rw[DE rfl,QL rfl];exact⟨0,0,false,_,rfl,rfl,λh=>by cases h⟩
    | true=>
     obtain⟨rfl,I⟩:=g3 rfl;obtain⟨low,high,O,Q,S⟩:=FK (t:=t) (p:=p) ⟨by omega,by omega⟩ I I ⟨0,0⟩ R W
     refine⟨low,high,uZ low high,⟨low,high⟩,O,?_,λh=>⟨rfl,wP.of S h⟩⟩
     rw[<-Q,yz,yz,X];rfl
   .have w:p.l.l.length=2:=by
     have:=Pred.parts C (c:=2) (by rcases (show p.kind=6\/p.kind=7\/p.kind=8 by omega)with h|h|h <;> (rw[h];rfl))
     omega
    have h0:0<p.l.l.length:=by omega
    have h1:1<p.l.l.length:=by omega
    obtain⟨a,b,ok,i,g1,g2,g3⟩:=A _ (List.getElem_mem h0);obtain⟨c,d,D,j,q1,q2,q3⟩:=A _ (List.getElem_mem h1);have L:idx p.l 0=some p.l.l[0]:=bQ (i:=0) h0;have T:idx p.l 1=some p.l.l[1]:=bQ (i:=1) h1;rw[show (len p.l==0)=false from by simp[len,w],bE,L,ζb,g1,ζb,show (len p.l==2)=true from by simp[len,w],bA,T,ζb,q1,ζb,
     decide_eq_true (show len p.l>0 by simp[len,w]),bA,ζb,g2,ζb,decide_eq_true (show len p.l>1 by simp[len,w]),bA,ζb,q2,ζb]
    simp only
    cases J:ok&&D with
    | false=>
     rw[DE J,QL J];exact⟨0,0,false,_,rfl,rfl,λh=>by cases h⟩
    | true=>
     simp only[ζh]at J;obtain⟨rfl,rfl⟩:=J;obtain⟨rfl,I⟩:=g3 rfl;obtain⟨rfl,U⟩:=q3 rfl;obtain⟨low,high,O,Q,S⟩:=FK (t:=t) (p:=p) ⟨by omega,by omega⟩ I U ⟨0,0⟩ R W
     exact⟨low,high,uZ low high,⟨low,high⟩,O,Q,λh=>⟨rfl,wP.of S h⟩⟩
theorem LK (hS:Small t) (hv:dK t=some true) (B:Ok t) (p:Pred):vW t p->p.dp<=20->∀n,p.dp<=n ->
 ∃b,dz (λr (z:Trace×Pred)=>eO z.1 z.2 r) n (t,p)=some b/\dz (λr (z:Trace×Pred)=>ji z.1 z.2 r) n (t,p)=some b:=by
 induction p using Pred.ind with
 | h p w=>
  intro hc hd n G;have A:=p.sS;rw[iK (by omega),iK (by omega)]
  have w:=λq u=>w q u (hc.uY u) (by have:=Pred.sC u;omega) (n-1) (by have:=Pred.sC u;omega)
  show ∃b,eO t p (dz (λr (z:Trace×Pred)=>eO z.1 z.2 r) (n-1))=some b/\ji t p (dz (λr (z:Trace×Pred)=>ji z.1 z.2 r) (n-1))=some b
  generalize dz (λr (z:Trace×Pred)=>eO z.1 z.2 r) (n-1)=R at w ⊢
  generalize dz (λr (z:Trace×Pred)=>ji z.1 z.2 r) (n-1)=C at w ⊢
  unfold eO ji;rw[rS,CF,ζb,ζb]
  by_cases hk:p.kind<=8
  .rw[show (lG p.kind==1)=true from by simp[lG,hk],bA,bA]
   obtain⟨low,high,ok,i,g1,g2,-⟩:=BQ hS hv B p hc hk 100000 (by omega)
   refine⟨ok,?_,?_⟩
   .show (cD t p).bind _=_;rw[show cD t p=_ from g1];rfl
   .show (bM t p).bind _=_;rw[show bM t p=_ from g2];rfl
  .rw[show (lG p.kind==1)=false from by simp[lG,hk],bE,bE]
   let g:Pred->Bool:=λq=>(R (t,q)).getD false
   have hg:∀q∈p.l.l,R (t,q)=some (g q)/\C (t,q)=some (g q):=λq u=>by
    obtain⟨b,h1,D⟩:=w q u;exact⟨by show _=some ((R (t,q)).getD false);rw[h1];rfl,by show _=some ((R (t,q)).getD false);rw[h1,D];rfl⟩
   refine⟨p.l.l.all g,?_,?_⟩
   .rw[Aj _ hc.sm.len,yW (f:=λq => !g q) (λq u=>by
     unfold nP;rw[(hg q u).1];rfl)]
    simp only[Option.map_some,ζb]
    congr 1
    rw[Bool.eq_iff_iff];simp
   .unfold jE.W1;refine uw (g:=g) hc.sm.len (λi hi=>?_) ?_
    .unfold jE.bu;rw[nV hi,bA,bQ hi,ζb,(hg _ (List.getElem_mem hi)).2,ζb,dn i (by have:=hc.sm.len;omega)]
     cases g p.l.l[i] <;> rfl
    .unfold jE.bu;rw[pQ];rfl
theorem DO (hS:Small t) (D:(bU t).length<1073741824) {p:Pred} (B:p.Sm) :
 ∃e,kA t p=some e/\pX t p=some e/\(e=0->dK t=some true/\VT t/\kK p=true/\vW t p):=by
 obtain⟨A,hv,w,z⟩:=zW hS D;unfold kA pX;rw[hv,w,ζb,ζb]
 cases A with
 | false=>exact⟨1,rfl,rfl,λh=>by cases h⟩
 | true=>
  have hV:=z rfl;rw[bA,bA,vm B,yT B,ζb,ζb]
  cases C:kK p with
  | false=>exact⟨1,rfl,rfl,λh=>by cases h⟩
  | true=>
   have u:=C;simp only[kK,ζh]at u;have hd:=of_decide_eq_true u.2.1;unfold fG fH jE qu;rw[show (!true)=false from rfl,bE,ζb,bE,zT hS B (by omega),HH hS p B 100000 (by omega),ζb,ζb]
   cases hr:p.fL (nD t)with
   | false=>exact⟨13,rfl,rfl,λh=>by cases h⟩
   | true=>
    rw[bA,bA,AF B (by omega),EW p B u.2.2 100000 (by omega),ζb,ζb]
    cases G:p.fL qJ with
    | false=>exact⟨14,rfl,rfl,λh=>by cases h⟩
    | true=>
     have hc:vW t p:=⟨B,u.2.2,hr,G⟩;obtain⟨b,g1,g2⟩:=LK hS hv hV.ok p hc hd 100000 (by omega)
     rw[bA,bA,g1,g2,ζb]
     cases b with
     | false=>exact⟨9,rfl,rfl,λh=>by cases h⟩
     | true=>exact⟨0,rfl,rfl,λ_=>⟨rfl,hV,rfl,hc⟩⟩
end
end Go.VE
namespace Go.VE
end Go.VE
namespace Go.VE
theorem Code.one {t:Trace} {A:cE 200 bK} {c:List Int} {r s:Int} (h:Code t A c r) (g:Code t A c s):r=s:=by
 rcases h with⟨h,rfl⟩|⟨h1,u,rfl⟩|⟨h1,u,rfl⟩|⟨h1,u,rfl⟩ <;> rcases g with⟨g,rfl⟩|⟨g1,g2,rfl⟩|⟨g1,g2,rfl⟩|⟨g1,g2,rfl⟩ <;> first|rfl|contradiction|exact absurd ‹qF t c›.1 ‹_›
end Go.VE
namespace Go.VE
end Go.VE
namespace Go.VE
section
variable {t:Trace} {A:cE 200 bK} {P:bT} {v:Nat}
structure Uh (t:Trace) (A:cE 200 bK) (c:Sl Int) (l:Sl (Sl Int)):Prop where
 hS:Small t
 hv:dK t=some true
 hV:VT t
 hM:jN t (bU t) A
 hC:Cons t A c.l
 vals:∀(p:Nat) (P:bT) (a:Int),t.procs.l[p]? = some P->c.l[p]? = some a->∃x,l.l[p]? = some x/\x.l=gV P a.toNat
end
end Go.VE
namespace Go.VE
section
variable {t:Trace}
theorem Qy (p:Pred) (D:p.Sm):∀(n d:Nat) (v:Int),1<=n->42<=n+d->d<=41->0<=v->v<=300 ->
 ∃r:Int,dz (λr (z:Pred×Int×Int)=>gH z.1 z.2.1 z.2.2 r) n (p,(d:Int),v)=some r/\0<=r/\r<=1000:=by
 induction p using Pred.ind with
 | h p J=>
  intro n d v T L hd O hv;have U:=D.len;rw[iK (by omega)]
  show ∃r:Int,gH p (d:Int) v (dz (λr (z:Pred×Int×Int)=>gH z.1 z.2.1 z.2.2 r) (n-1))=some r/\0<=r/\r<=1000
  have G:∀v:Int,0<=v->v<=1000->(v<=300->d<=40)->∃r:Int,eG.J1 (d:Int) p v (dz (λr (z:Pred×Int×Int)=>gH z.1 z.2.1 z.2.2 r) (n-1))=some r/\0<=r/\r<=1000:=by
   intro v h0 h1 Q;show Wp (eG.J1 (d:Int) p v _) λr=>0<=r/\r<=1000
   unfold eG.J1 eG.W2;refine eW (λs:Int×Int=>∃i:Nat,s.1=i/\i<=p.l.l.length/\0<=s.2/\s.2<=1000/\(s.2<=300->d<=40)) (λs=>p.l.l.length-s.1.toNat) ⟨0,rfl,Nat.zero_le _,h0,h1,Q⟩ ?_
   rintro⟨_,u⟩ ⟨i,rfl,hi,B,C,I⟩;simp only at B C I ⊢;unfold eG.b9
   by_cases A:i<p.l.l.length
   .rw[nV A,bA,ζb]
    by_cases hu:u<=300
    .have w:=I hu;rw[decide_eq_true hu,bA,bQ A,ζb,dn d (by omega)]
     obtain⟨r,hr,S,r1⟩:=J _ (List.getElem_mem A) (D.uY (List.getElem_mem A)) (n-1) (d+1) u (by omega) (by omega) (by omega) B hu
     rw[hr,ζb,bf,dn i (by omega)]
     exact⟨⟨i+1,rfl,by omega,S,r1,λ_=>w⟩,by simp only;omega⟩
    .rw[decide_eq_false hu,bE,bf];exact(bf _).2 ⟨B,C⟩
   .rw[decide_eq_false (by simp only[len];omega),bE,ζb,bE,bf]
    exact(bf _).2 ⟨B,C⟩
  unfold gH
  by_cases w:d<=40
  .rw[decide_eq_false (by omega),bE,eN _ (by omega) (by omega)]
   exact G _ (by omega) (by omega) (λ_=>w)
  .rw[decide_eq_true (by omega),bA]
   exact G _ (by omega) (by omega) (λh=>by omega)
theorem PF {p:Pred} (B:p.Sm):∃b,qQ p=some b:=by
 obtain⟨r,hr,-⟩:=Qy p B 100000 0 0 (by omega) (by omega) (by omega) (by omega) (by omega)
 unfold qQ eG;rw[show ((0:Nat):Int)=0 from rfl]at hr;rw[hr];exact⟨_,rfl⟩
theorem Qu {A:cE 200 bK} (hS:Small t) (hV:VT t) (hM:jN t (bU t) A) {c:Sl Int} (B:c.l.length=t.procs.l.length) {r:Int} (h:Code t A c.l r) (K:Option Int) :
 ((lJ t c).bind λx=>a_ x ((dD t c).bind λy=>a_ y K (some 18)) (some 2))=if r=0 then K else some r:=by
 obtain⟨b,C,u⟩:=SP (t:=t) hS B;rw[C,ζb];rcases h with⟨h,rfl⟩|⟨-,h,rfl⟩|⟨h,z,rfl⟩|⟨h,z,rfl⟩
 .exact absurd B h
 .rw[show b=false from by cases b with|false=>rfl|true=>exact absurd (u.1 rfl) h];rfl
 .obtain⟨d,hd,w⟩:=N3 hS hV hM h;rw[u.2 h,bA,hd,ζb,show d=false from by cases d with|false=>rfl|true=>exact absurd (w.1 rfl) z];rfl
 .obtain⟨d,hd,w⟩:=N3 hS hV hM h;rw[u.2 h,bA,hd,ζb,w.2 z];rfl
theorem PW {p:Pred} (B:kK p=true) (hc:vW t p):qW p=some (lG p.kind,0):=by
 have u:=hc.sm;have hd:=B;simp only[kK,ζh,decide_eq_true_eq]at hd;unfold qW;rw[vm u,B,ζb,bA,AF u (by omega),hc.y,ζb,bA,rS];rfl
theorem O1 {p:Pred} (B:kK p=true) (hc:vW t p):tU p=some (lG p.kind,0):=by
 have u:=hc.sm;have hd:=B;simp only[kK,ζh,decide_eq_true_eq]at hd;unfold tU fH;rw[yT u,B,ζb,bA,EW p u hc.f 100000 (by omega),hc.y,ζb,bA,CF];rfl
theorem R9 (hS:Small t) (hN:(bU t).length<1073741824) {p:Pred} (U:p.Sm) (c:Sl Int) (k:Int) :
 ∃w e,ey t c p k=some (w,e)/\oh t c p k=some e/\(e=0->∃A l,w=⟨t,c,l⟩/\Uh t A c l/\kK p=true/\vW t p/\lG p.kind=k/\p.fL (λq => !tJ q)=true):=by
 obtain⟨e,h1,S,h3⟩:=DO hS hN U;obtain⟨vl,hv,T,aa⟩:=zW hS hN;unfold ey oh;rw[h1,T,ζb,ζb]
 by_cases I:c.l.length=t.procs.l.length
 .have W:(len c==len t.procs)=true:=by simp[len,I]
  rw[W];have e1:((a_ (e==1) (some false) (some (!true)):Option Bool).bind λD=>a_ D (ey.J1 c k 1 t p (⟨⟨Sl.nil⟩,Sl.nil,Sl.nil⟩:bD)) (ey.J1 c k e t p (⟨⟨Sl.nil⟩,Sl.nil,Sl.nil⟩:bD)))=ey.J1 c k e t p (⟨⟨Sl.nil⟩,Sl.nil,Sl.nil⟩:bD):=by cases e==1 <;> rfl
  rw[e1]
  by_cases X:e=0
  .subst X;obtain⟨C,hV,Y,hc⟩:=h3 rfl;rw[C]at hv;cases hv;obtain⟨A,-,-,hM⟩:=hV.msgs;rw[bA,show (!true)=false from rfl,ζb,bE,S,ζb,show ((0:Int)==0)=true from rfl,bA];unfold ey.J1;rw[show ((0:Int)==0)=true from rfl,bA];obtain⟨x,hx,B⟩:=BJ hS C hV hM c;rw[Qu hS hV hM I B]
   by_cases u:x.2=0
   .obtain⟨hR,J⟩:=B.zero.1 u;obtain⟨⟨l,z⟩,hl,L,Z,O⟩:=VO hS C hV hM (c:=c) ⟨hR,J⟩;simp only at L Z O;subst L;rw[if_pos u,hl,ζb];simp only;rw[show ((0:Int)==0)=true from rfl,bA];unfold tn xC;rw[PW Y hc,O1 Y hc,S,ζb,ζb,ζb];simp only;rw[show ((0:Int)==0)=true from rfl,bA,bA]
    cases hk:lG p.kind==k with
    | false=>exact⟨_,14,rfl,rfl,λh=>by cases h⟩
    | true=>
     rw[show (!true)=false from rfl,ζb,bE,bA,ζb,ζb];rw[show ((0:Int)==0)=true from rfl,bA,bA,Ik U,Ao U,Y,ζb,ζb,ζb]
     cases ht:p.fL λq => !tJ q with
     | false=>exact⟨_,15,rfl,rfl,λh=>by cases h⟩
     | true=>exact⟨_,0,rfl,rfl,λ_=>⟨A,l,rfl,⟨hS,C,hV,hM,⟨hR,J⟩,O⟩,rfl,hc,by simpa using hk,rfl⟩⟩
   .rw[if_neg u];unfold iu;rw[hx,ζb,show (x.2==0)=false from by simpa using u,bE,ζb]
    simp only;rw[show (x.2==0)=false from by simpa using u,bE]
    exact⟨_,_,rfl,rfl,λh=>absurd h u⟩
  .have Q:(e==0)=false:=by simpa using X
   unfold ey.J1;rw[Q,bE];refine⟨_,e,rfl,?_,λh=>absurd h X⟩
   cases vl with
   | false=>
    rw[bE,ζb,bA];have G:=h1;unfold kA at G;rw[hv,ζb]at G;exact G
   | true=>rw[bA,show (!true)=false from rfl,ζb,bE,S,ζb,Q,bE]
 .have W:(len c==len t.procs)=false:=by rw[beq_eq_false_iff_ne];simp only[len];omega
  rw[W];have e1:((a_ (e==1) (some false) (some (!false)):Option Bool).bind λD=>a_ D (ey.J1 c k 1 t p (⟨⟨Sl.nil⟩,Sl.nil,Sl.nil⟩:bD)) (ey.J1 c k e t p (⟨⟨Sl.nil⟩,Sl.nil,Sl.nil⟩:bD)))=some ((⟨⟨Sl.nil⟩,Sl.nil,Sl.nil⟩:bD),1):=by
   cases h:e==1 with
   | false=>rfl
   | true=>rw[show e=1 from by simpa using h];rfl
  rw[e1];refine⟨_,1,rfl,?_,λh=>by cases h⟩
  cases vl <;> rfl
end
end Go.VE
