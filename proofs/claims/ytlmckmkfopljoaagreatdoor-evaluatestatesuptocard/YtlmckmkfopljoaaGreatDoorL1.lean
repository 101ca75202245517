/-
 The law in plain Lean, and the join.
-/
import Derived.Test.YtlmckmkfopljoaaGreatDoorK1
import Derived.Test.YtlmckmkfopljoaaGreatDoorG1
set_option linter.all false
namespace Go.VE
instance:ck Var where
 wt x:=ck.wt x.name+ck.wt x.init_+1
 ok x:=ck.ok x.name/\ck.ok x.init_/\True
instance:ck Assign where
 wt x:=ck.wt x.var+ck.wt x.value+1
 ok x:=ck.ok x.var/\ck.ok x.value/\True
instance:ck Event where
 wt x:=ck.wt x.kind+ck.wt x.peer+ck.wt x.message+ck.wt x.time+ck.wt x.assign+1
 ok x:=ck.ok x.kind/\ck.ok x.peer/\ck.ok x.message/\ck.ok x.time/\ck.ok x.assign/\True
instance:ck bQ where
 wt x:=ck.wt x.name+ck.wt x.vars+ck.wt x.events+1
 ok x:=ck.ok x.name/\ck.ok x.vars/\ck.ok x.events/\True
instance:ck Trace where
 wt x:=ck.wt x.procs+1
 ok x:=ck.ok x.procs/\True
instance:ck bP where
 wt x:=ck.wt x.low+ck.wt x.high+1
 ok x:=ck.ok x.low/\ck.ok x.high/\True
instance:ck b9 where
 wt x:=ck.wt x.t+ck.wt x.counts+ck.wt x.values+1
 ok x:=ck.ok x.t/\ck.ok x.counts/\ck.ok x.values/\True
mutual
def Pred.V8:Pred->Nat
 | ⟨f0,f1,f2,f3,B,f5⟩=>ck.wt f0+ck.wt f1+ck.wt f2+ck.wt f3+ck.wt B+Pred.Q5 f5+1
def Pred.Q5:Sl Pred->Nat
 | .nil=>1
 | .emp=>1
 | .row l=>Pred.GB l+1
 | .part l=>Pred.GB l+1
def Pred.GB:List Pred->Nat
 | []=>0
 | x::r=>Pred.V8 x+Pred.GB r
end
mutual
def Pred.Wf:Pred->Prop
 | ⟨f0,f1,f2,f3,B,f5⟩=>ck.ok f0/\ck.ok f1/\ck.ok f2/\ck.ok f3/\ck.ok B/\Pred.Wg f5/\True
def Pred.Wg:Sl Pred->Prop
 | .nil=>True
 | .emp=>False
 | .row l=>Pred.Qo l
 | .part l=>Pred.Qo l
def Pred.Qo:List Pred->Prop
 | []=>True
 | x::r=>Pred.Wf x/\Pred.Qo r
end
instance:ck Pred where
 wt:=Pred.V8
 ok:=Pred.Wf
theorem Pred.DK:∀l:List Pred,Pred.GB l=(l.map ck.wt).sum
 | []=>rfl
 | x::r=>by simp only[Pred.GB,List.map_cons,List.sum_cons,Pred.DK r];rfl
theorem Pred.Wb (s:Sl Pred):Pred.Q5 s=ck.wt s:=by
 cases s with
 | nil=>rfl
 | emp=>rfl
 | row l=>show Pred.GB l+1=(l.map ck.wt).sum+1;rw[Pred.DK]
 | part l=>show Pred.GB l+1=(l.map ck.wt).sum+1;rw[Pred.DK]
theorem Pred.DH:∀l:List Pred,(∀x∈l,ck.ok x)->Pred.Qo l
 | [],_=>trivial
 | x::r,h=>⟨h x (List.mem_cons_self ..),Pred.DH r λy B=>h y (List.mem_cons_of_mem _ B)⟩
theorem Pred.WR (s:Sl Pred) (h:ck.ok s):Pred.Wg s:=by
 cases s with
 | nil=>trivial
 | emp=>exact h.2 rfl
 | row l=>exact Pred.DH l h.1
 | part l=>exact Pred.DH l h.1
end Go.VE
namespace Go.VE.YtlmckmkfopljoaaGreatDoor
open Go.Proofs Go.Proofs.YtlmckmkfopljoaaGreatDoor
instance Xl:Reads Tryz.prog 9 ByteArray:=Reads.str Tryz.underlying9 (by kernel_rfl)
instance Xo:Reads Tryz.prog 3 Int:=Reads.int Tryz.underlying3 (by kernel_rfl)
instance W0:Reads Tryz.prog 116 Var:=by
 refine Reads.st Tryz.underlying116 (by kernel_rfl) rfl ?_
 intro H enc w base spare held u cs l I h;simp only[List.mapM_cons,List.mapM_nil,Option.pure_def,Option.bind_eq_bind,ζg,ζa]at h;obtain⟨z,h0,J,⟨A,h1,L,rfl,rfl⟩,rfl⟩:=h;obtain⟨a0,B,k0,O⟩:=Reads.rd (P:=Tryz.prog) (t:=9) (α:=ByteArray) (d:=z.1) (ps:=z.2) h0;rw[show Tryz.prog.cellsOf 9=1 from by kernel_rfl]at B
 obtain⟨C,D,k1,Q⟩:=Reads.rd (P:=Tryz.prog) (t:=3) (α:=Int) (d:=A.1) (ps:=A.2) h1;rw[show Tryz.prog.cellsOf 3=1 from by kernel_rfl]at D
 refine⟨⟨a0,C⟩,eX.fin (n:=2) (eX.seg (o:=1) (n:=1) (eX.seg (o:=0) (n:=1) (show eX (snap w) [] (cs.take 0)from by simpa using eX.nil) B) D) I,⟨k0,k1,trivial⟩,λb G=>?_⟩
 have S:=O b G;have T:=Q b G;show ck.wt a0+ck.wt C+1<=_;simp only[List.map_cons,List.map_nil,List.sum_cons,List.sum_nil];omega
instance Xg:Reads Tryz.prog 46 (Sl Var):=Reads.sl (e:=116) Tryz.underlying46 (by kernel_rfl) (by decide)
instance WZ:Reads Tryz.prog 114 Assign:=by
 refine Reads.st Tryz.underlying114 (by kernel_rfl) rfl ?_
 intro H enc w base spare held u cs l I h;simp only[List.mapM_cons,List.mapM_nil,Option.pure_def,Option.bind_eq_bind,ζg,ζa]at h;obtain⟨z,h0,J,⟨A,h1,L,rfl,rfl⟩,rfl⟩:=h;obtain⟨a0,B,k0,O⟩:=Reads.rd (P:=Tryz.prog) (t:=3) (α:=Int) (d:=z.1) (ps:=z.2) h0;rw[show Tryz.prog.cellsOf 3=1 from by kernel_rfl]at B
 obtain⟨C,D,k1,Q⟩:=Reads.rd (P:=Tryz.prog) (t:=3) (α:=Int) (d:=A.1) (ps:=A.2) h1;rw[show Tryz.prog.cellsOf 3=1 from by kernel_rfl]at D
 refine⟨⟨a0,C⟩,eX.fin (n:=2) (eX.seg (o:=1) (n:=1) (eX.seg (o:=0) (n:=1) (show eX (snap w) [] (cs.take 0)from by simpa using eX.nil) B) D) I,⟨k0,k1,trivial⟩,λb G=>?_⟩
 have S:=O b G;have T:=Q b G;show ck.wt a0+ck.wt C+1<=_;simp only[List.map_cons,List.map_nil,List.sum_cons,List.sum_nil];omega
instance Xh:Reads Tryz.prog 49 (Sl Assign):=Reads.sl (e:=114) Tryz.underlying49 (by kernel_rfl) (by decide)
instance Xc:Reads Tryz.prog 51 Event:=by
 refine Reads.st Tryz.underlying51 (by kernel_rfl) rfl ?_
 intro H enc w base spare held z cs l U h;simp only[List.mapM_cons,List.mapM_nil,Option.pure_def,Option.bind_eq_bind,ζg,ζa]at h;obtain⟨A,h0,W,⟨B,h1,X,⟨x2,Y,Z,⟨C,h3,aa,⟨x4,h4,ab,rfl,rfl⟩,rfl⟩,rfl⟩,rfl⟩,rfl⟩:=h;obtain⟨a0,D,k0,b0⟩:=Reads.rd (P:=Tryz.prog) (t:=3) (α:=Int) (d:=A.1) (ps:=A.2) h0;rw[show Tryz.prog.cellsOf 3=1 from by kernel_rfl]at D
 obtain⟨G,I,k1,b1⟩:=Reads.rd (P:=Tryz.prog) (t:=3) (α:=Int) (d:=B.1) (ps:=B.2) h1;rw[show Tryz.prog.cellsOf 3=1 from by kernel_rfl]at I
 obtain⟨J,L,k2,b2⟩:=Reads.rd (P:=Tryz.prog) (t:=3) (α:=Int) (d:=x2.1) (ps:=x2.2) Y;rw[show Tryz.prog.cellsOf 3=1 from by kernel_rfl]at L
 obtain⟨O,Q,k3,b3⟩:=Reads.rd (P:=Tryz.prog) (t:=3) (α:=Int) (d:=C.1) (ps:=C.2) h3;rw[show Tryz.prog.cellsOf 3=1 from by kernel_rfl]at Q
 obtain⟨S,T,k4,b4⟩:=Reads.rd (P:=Tryz.prog) (t:=49) (α:=(Sl Assign)) (d:=x4.1) (ps:=x4.2) h4;rw[show Tryz.prog.cellsOf 49=1 from by kernel_rfl]at T
 refine⟨⟨a0,G,J,O,S⟩,eX.fin (n:=5) (eX.seg (o:=4) (n:=1) (eX.seg (o:=3) (n:=1) (eX.seg (o:=2) (n:=1) (eX.seg (o:=1) (n:=1) (eX.seg (o:=0) (n:=1) (show eX (snap w) [] (cs.take 0)from by simpa using eX.nil) D) I) L) Q) T) U,⟨k0,k1,k2,k3,k4,trivial⟩,λb u=>?_⟩
 have w0:=b0 b u;have w1:=b1 b u;have w2:=b2 b u;have w3:=b3 b u;have w4:=b4 b u;show ck.wt a0+ck.wt G+ck.wt J+ck.wt O+ck.wt S+1<=_;simp only[List.map_cons,List.map_nil,List.sum_cons,List.sum_nil];omega
instance Xk:Reads Tryz.prog 45 (Sl Event):=Reads.sl (e:=51) Tryz.underlying45 (by kernel_rfl) (by decide)
instance Xd:Reads Tryz.prog 48 bQ:=by
 refine Reads.st Tryz.underlying48 (by kernel_rfl) rfl ?_
 intro H enc w base spare held z cs l L h;simp only[List.mapM_cons,List.mapM_nil,Option.pure_def,Option.bind_eq_bind,ζg,ζa]at h;obtain⟨A,h0,O,⟨B,h1,Q,⟨x2,S,T,rfl,rfl⟩,rfl⟩,rfl⟩:=h;obtain⟨a0,C,k0,U⟩:=Reads.rd (P:=Tryz.prog) (t:=9) (α:=ByteArray) (d:=A.1) (ps:=A.2) h0;rw[show Tryz.prog.cellsOf 9=1 from by kernel_rfl]at C
 obtain⟨D,G,k1,W⟩:=Reads.rd (P:=Tryz.prog) (t:=46) (α:=(Sl Var)) (d:=B.1) (ps:=B.2) h1;rw[show Tryz.prog.cellsOf 46=1 from by kernel_rfl]at G
 obtain⟨I,J,X,Y⟩:=Reads.rd (P:=Tryz.prog) (t:=45) (α:=(Sl Event)) (d:=x2.1) (ps:=x2.2) S;rw[show Tryz.prog.cellsOf 45=1 from by kernel_rfl]at J
 refine⟨⟨a0,D,I⟩,eX.fin (n:=3) (eX.seg (o:=2) (n:=1) (eX.seg (o:=1) (n:=1) (eX.seg (o:=0) (n:=1) (show eX (snap w) [] (cs.take 0)from by simpa using eX.nil) C) G) J) L,⟨k0,k1,X,trivial⟩,λb u=>?_⟩
 have Z:=U b u;have w1:=W b u;have w2:=Y b u;show ck.wt a0+ck.wt D+ck.wt I+1<=_;simp only[List.map_cons,List.map_nil,List.sum_cons,List.sum_nil];omega
instance Xf:Reads Tryz.prog 22 (Sl bQ):=Reads.sl (e:=48) Tryz.underlying22 (by kernel_rfl) (by decide)
instance Xi:Reads Tryz.prog 24 Trace:=by
 refine Reads.st Tryz.underlying24 (by kernel_rfl) rfl ?_
 intro H enc w base spare held u cs l B h;simp only[List.mapM_cons,List.mapM_nil,Option.pure_def,Option.bind_eq_bind,ζg,ζa]at h;obtain⟨z,h0,C,rfl,rfl⟩:=h;obtain⟨a0,A,k0,D⟩:=Reads.rd (P:=Tryz.prog) (t:=22) (α:=(Sl bQ)) (d:=z.1) (ps:=z.2) h0;rw[show Tryz.prog.cellsOf 22=1 from by kernel_rfl]at A
 refine⟨⟨a0⟩,eX.fin (n:=1) (eX.seg (o:=0) (n:=1) (show eX (snap w) [] (cs.take 0)from by simpa using eX.nil) A) B,⟨k0,trivial⟩,λb G=>?_⟩
 have I:=D b G;show ck.wt a0+1<=_;simp only[List.map_cons,List.map_nil,List.sum_cons,List.sum_nil];omega
theorem TO:∀B,ru Tryz.prog 28 Pred B:=by
 intro B
 induction B using Nat.strongRecOn with
 | ind B X=>
 cases B with
 | zero=>intro H enc w base spare held cs d ps h;simp[DataW.trod]at h
 | succ B=>
 refine ru.st Tryz.underlying28 (by kernel_rfl) ?_
 intro H enc w base spare held cs l Y h;simp only[List.mapM_cons,List.mapM_nil,Option.pure_def,Option.bind_eq_bind,ζg,ζa]at h;obtain⟨A,h0,Z,⟨C,h1,aa,⟨x2,h2,ab,⟨D,h3,ad,⟨x4,h4,ae,⟨x5,h5,af,rfl,rfl⟩,rfl⟩,rfl⟩,rfl⟩,rfl⟩,rfl⟩:=h;obtain⟨a0,G,k0,b0⟩:=Reads.rd (P:=Tryz.prog) (t:=3) (α:=Int) (d:=A.1) (ps:=A.2) h0;rw[show Tryz.prog.cellsOf 3=1 from by kernel_rfl]at G
 obtain⟨I,J,k1,b1⟩:=Reads.rd (P:=Tryz.prog) (t:=3) (α:=Int) (d:=C.1) (ps:=C.2) h1;rw[show Tryz.prog.cellsOf 3=1 from by kernel_rfl]at J
 obtain⟨L,O,k2,b2⟩:=Reads.rd (P:=Tryz.prog) (t:=3) (α:=Int) (d:=x2.1) (ps:=x2.2) h2;rw[show Tryz.prog.cellsOf 3=1 from by kernel_rfl]at O
 obtain⟨Q,S,k3,b3⟩:=Reads.rd (P:=Tryz.prog) (t:=3) (α:=Int) (d:=D.1) (ps:=D.2) h3;rw[show Tryz.prog.cellsOf 3=1 from by kernel_rfl]at S
 obtain⟨T,U,k4,b4⟩:=Reads.rd (P:=Tryz.prog) (t:=9) (α:=ByteArray) (d:=x4.1) (ps:=x4.2) h4;rw[show Tryz.prog.cellsOf 9=1 from by kernel_rfl]at U
 obtain⟨W,z,k5,b5⟩:=ru.We (t:=26) (e:=28) (α:=Pred) Tryz.underlying26 (by kernel_rfl) (by decide) (λg hg=>X g (by omega)) (show _=some (x5.1,x5.2)from h5)
 rw[show Tryz.prog.cellsOf 26=1 from by kernel_rfl]at z
 rw[uo rfl,<-Pred.dX]at z;refine⟨⟨a0,I,L,Q,T,W⟩,eX.fin (n:=6) (eX.seg (o:=5) (n:=1) (eX.seg (o:=4) (n:=1) (eX.seg (o:=3) (n:=1) (eX.seg (o:=2) (n:=1) (eX.seg (o:=1) (n:=1) (eX.seg (o:=0) (n:=1) (show eX (snap w) [] (cs.take 0)from by simpa using eX.nil) G) J) O) S) U) z) Y,⟨k0,k1,k2,k3,k4,Pred.WR _ k5,trivial⟩,λb u=>?_⟩
 have w0:=b0 b u;have w1:=b1 b u;have w2:=b2 b u;have w3:=b3 b u;have w4:=b4 b u;have w5:=b5 b u;show ck.wt a0+ck.wt I+ck.wt L+ck.wt Q+ck.wt T+Pred.Q5 W+1<=_;rw[Pred.Wb];simp only[List.map_cons,List.map_nil,List.sum_cons,List.sum_nil];omega
instance W_:Reads Tryz.prog 28 Pred:=Reads.of Tryz.underlying28 (by kernel_rfl) rfl TO
end Go.VE.YtlmckmkfopljoaaGreatDoor
namespace Go.VE
end Go.VE
namespace Go.VE
abbrev QM {α:Type} (m:Option α):Prop:=Wp m λ_=>True
theorem QM.get {α:Type} {m:Option α} (h:QM m):∃a,m=some a:=let ⟨a,e,_⟩:=h;⟨a,e⟩
theorem QM.ok {m:Option Bool} (h:QM m):m=some (m.getD false):=by obtain⟨a,e,_⟩:=h;rw[e];rfl
def Small (t:Trace):Prop:=t.procs.l.length<1073741824/\∀p∈t.procs.l,p.events.l.length<1073741824/\p.vars.l.length<1073741824/\p.name.size<1073741824/\(∀v∈p.vars.l,v.name.size<1073741824)/\∀e∈p.events.l,e.assign.l.length<1073741824
section
theorem KY {s:Sl Event} {p:Event->Option Bool} {f:Event->Bool} (hp:∀x∈s.l,p x=some (f x)) (B:s.l.length<1073741824):fP s p=some (place f s.l):=
 wS hp (by omega) (λi=>rfl)
theorem Ny {s:Sl bQ} {p:bQ->Option Bool} {f:bQ->Bool} (hp:∀x∈s.l,p x=some (f x)) (B:s.l.length<1073741824):gm s p=some (place f s.l):=
 wS hp (by omega) (λi=>rfl)
theorem BL {s:Sl Var} {p:Var->Option Bool} {f:Var->Bool} (hp:∀x∈s.l,p x=some (f x)) (B:s.l.length<1073741824):eV s p=some (place f s.l):=
 wS hp (by omega) (λi=>rfl)
theorem IT {s:Sl Assign} {p:Assign->Option Bool} {f:Assign->Bool} (hp:∀x∈s.l,p x=some (f x)) (B:s.l.length<1073741824):fh s p=some (place f s.l):=
 wS hp (by omega) (λi=>rfl)
theorem y9 {s:Sl Event} {p:Event->Option Bool} {f:Event->Bool} (hp:∀x∈s.l,p x=some (f x)) (B:s.l.length<1073741824):gX s p=some (s.l.any f):=by
 unfold gX;rw[KY hp B,ζb,wo]
theorem zG {s:Sl bQ} {p:bQ->Option Bool} {f:bQ->Bool} (hp:∀x∈s.l,p x=some (f x)) (B:s.l.length<1073741824):gi s p=some (s.l.any f):=by
 unfold gi;rw[Ny hp B,ζb,wo]
theorem Bl {s:Sl Var} {p:Var->Option Bool} {f:Var->Bool} (hp:∀x∈s.l,p x=some (f x)) (B:s.l.length<1073741824):gC s p=some (s.l.any f):=by
 unfold gC;rw[BL hp B,ζb,wo]
theorem DD {s:Sl Assign} {p:Assign->Option Bool} {f:Assign->Bool} (hp:∀x∈s.l,p x=some (f x)) (B:s.l.length<1073741824):gK s p=some (s.l.any f):=by
 unfold gK;rw[IT hp B,ζb,wo]
theorem oQ (x lo hi:Int):mS x lo hi=some (decide (lo<=x)&&decide (x<=hi)):=by
 unfold mS;rw[oT];rfl
theorem Lf {s:ByteArray} {i:Nat} (h:i<s.size):∃x,kE s (i:Int)=some x:=by
 unfold kE;rw[if_pos (by omega)]
 exact⟨_,by rw[show (s[(i:Int).toNat]?)=some s[i]from by simp[h]];rfl⟩
def kL (n:Nat) (p:Int) (e:Event):Prop:=e.kind=1\/((e.kind=2\/e.kind=3)/\0<=e.peer/\e.peer<n/\e.peer≠p/\0<=e.message/\e.message<=199)
end
end Go.VE
namespace Go.VE
def qI (t:Trace) (p k:Nat) (e:Event):Prop:=∃P,t.procs.l[p]? = some P/\P.events.l[k]? = some e
theorem tL {p:Int} {x:aY×Event}:∀{es:List Event} {j:Int},x∈iI p j es↔∃k:Nat,es[k]? = some x.2/\x.1=⟨p,j+k+1⟩
 | [],j=>by simp[iI]
 | e::es,j=>by
  simp[iI,tL ];constructor
  .rintro (rfl|⟨k,h1,B⟩)
   .exact⟨0,rfl,by simp⟩
   .exact⟨k+1,by grind,by grind⟩
  grind
theorem uN {x:aY×Event}:∀{ps:List bQ} {i:Int},x∈fM i ps↔∃(a k:Nat) (P:bQ),ps[a]? = some P/\P.events.l[k]? = some x.2/\x.1=⟨i+a,k+1⟩
 | [],i=>by simp[fM]
 | p::ps,i=>by
  simp only[fM,List.mem_append,tL,uN ];constructor
  .rintro (⟨k,h1,B⟩|⟨a,k,P,h1,B,D⟩)
   .exact⟨0,k,p,rfl,h1,by grind⟩
   .exact⟨a+1,k,P,by simp_all,B,by grind⟩
  grind
abbrev cu (t:Trace):List (aY×Event):=fM 0 t.procs.l
theorem eU {t:Trace} {x:aY×Event}:x∈cu t↔∃p k:Nat,qI t p k x.2/\x.1=⟨p,k+1⟩:=by
 rw[uN];constructor
 .rintro⟨a,k,P,h1,u,w⟩;exact⟨a,k,⟨P,h1,u⟩,by grind⟩
 .rintro⟨a,k,⟨P,h1,u⟩,w⟩;grind
theorem BT {t:Trace} {x y:aY×Event} (B:x∈cu t) (D:y∈cu t) (h:x.1=y.1):x=y:=by
 obtain⟨p,k,⟨P,hP,hk⟩,e1⟩:=eU.1 B;obtain⟨q,j,⟨Q,u,w⟩,e2⟩:=eU.1 D
 grind
theorem yq {t:Trace} (hS:Small t):iZ t=some (cu t):=by
 unfold iZ;rw[if_pos];simp[ov];exact⟨by have:=hS.1;omega,λp u=>by have:=(hS.2 p u).1;omega⟩
def sy (t:Trace) (p m to:Int):Bool:=match t.procs.l[p.toNat]? with
 | some P=>P.events.l.any λe=>e.kind==2&&e.message==m&&e.peer==to
 | none=>false
theorem Oz {t:Trace} (hS:Small t) {p:Int} (h0:0<=p) (h1:p<t.procs.l.length) (m to:Int):tO t p m to=some (sy t p m to):=by
 unfold tO;have u:p.toNat<t.procs.l.length:=by omega
 have hP:=List.getElem_mem u;rw[TV h0,ζd u,ζb,y9 (f:=λe=>e.kind==2&&e.message==m&&e.peer==to) (λe _=>by
  unfold qz;simp[oT]) (hS.2 _ hP).1,ζb]
 unfold sy
 grind
theorem CO {t:Trace} {p:Nat} {m to:Int}:sy t p m to=true↔∃k e,qI t p k e/\e.kind=2/\e.message=m/\e.peer=to:=by
 unfold sy qI;rw[show (p:Int).toNat=p from rfl]
 cases hP:t.procs.l[p]? with
 | none=>simp
 | some P=>
  simp;constructor
  .rintro⟨e,u,h⟩;obtain⟨k,hk⟩:=List.getElem?_of_mem u
   grind
  grind
def ag (A:cI 200 bR) (m:Int):bR:=(A.at m).getD default
theorem LD (A:cI 200 bR) {m:Int} (h0:0<=m) (h1:m<=199):A.at m=some (ag A m):=by
 have:m.toNat<A.l.length:=by rw[A.len];omega
 unfold ag cI.at
 grind
theorem qP (A:cI 200 bR) {m m':Int} (x:bR) (h0:0<=m) (h1:m<=199) (B:0<=m'):ag (A.set m x) m'=if m'=m then x else ag A m':=by
 have:m.toNat<A.l.length:=by rw[A.len];omega
 unfold ag cI.at cI.set
 grind
theorem L6 {m:Int} (h0:0<=m) (h1:m<=199):ag (cI.Nc 200 (⟨⟨0,0⟩,⟨0,0⟩⟩:bR)) m=⟨⟨0,0⟩,⟨0,0⟩⟩:=by
 unfold ag cI.at cI.Nc
 grind
structure qF (t:Trace) (its:List (aY×Event)) (A:cI 200 bR):Prop where
 snd:∀x∈its,x.2.kind=2->(ag A x.2.message).from_=x.1
 rcv:∀x∈its,x.2.kind=3->(ag A x.2.message).to_=x.1/\sy t x.2.peer x.2.message x.1.proc=true
 fr:∀m,0<=m->m<=199->(ag A m).from_.index=0\/∃e,((ag A m).from_,e)∈its/\e.kind=2/\e.message=m
 to:∀m,0<=m->m<=199->(ag A m).to_.index=0\/∃e,((ag A m).to_,e)∈its/\e.kind=3/\e.message=m
def J5 (a b:aY×Event):Prop:=a.1.proc<b.1.proc\/a.1.proc=b.1.proc/\a.1.index<b.1.index
theorem NP {p:Int}:∀{es:List Event} {j:Int},(iI p j es).Pairwise J5
 | [],_=>List.Pairwise.nil
 | e::es,j=>by
  simp only[iI,List.pairwise_cons];refine⟨λb B=>?_,NP⟩
  obtain⟨k,_,D⟩:=tL.1 B;refine .inr ⟨by rw[D],?_⟩
  grind
theorem HF:∀{ps:List bQ} {i:Int},(fM i ps).Pairwise J5
 | [],_=>List.Pairwise.nil
 | P::ps,i=>by
  simp only[fM,List.pairwise_append];refine⟨NP,HF,λa B b D=>.inl ?_⟩
  obtain⟨k,_,G⟩:=tL.1 B;obtain⟨c,j,P,_,_,u⟩:=uN.1 D
  grind
theorem HI {t:Trace} {k:Nat} {x y:aY×Event} (B:(cu t)[k]? = some x) (D:y∈(cu t).take k):y.1≠x.1:=by
 obtain⟨h1,u⟩:=ζe.1 B;have w:((cu t).take k++(cu t).drop k).Pairwise J5:=by rw[List.take_append_drop];exact HF
 have:=(List.pairwise_append.1 w).2.2 y D x (by rw[List.drop_eq_getElem_cons h1,u];grind)
 unfold J5 at this
 grind
structure xU (t:Trace):Prop where
 snd:∀x∈cu t,∀y∈cu t,x.2.kind=2->y.2.kind=2->x.2.message=y.2.message->x.1=y.1
 rcv:∀x∈cu t,∀y∈cu t,x.2.kind=3->y.2.kind=3->x.2.message=y.2.message->x.1=y.1
 has:∀x∈cu t,x.2.kind=3->sy t x.2.peer x.2.message x.1.proc=true
theorem qF.QD {t:Trace} {A:cI 200 bR} (h:qF t (cu t) A):xU t:=
 ⟨λx w y z B u C=>by rw[<-h.snd x w B,<-h.snd y z u,C],λx w y z B u C=>by rw[<-(h.rcv x w B).1,<-(h.rcv y z u).1,C],λx w k=>(h.rcv x w k).2⟩
theorem Dt {t:Trace} (hS:Small t) (hF:∀x∈cu t,kL t.procs.l.length x.1.proc x.2):Wp (eC t) λr=>(r.2.2=0->∃A,r.1=some A/\qF t (cu t) A)/\(xU t->r.2.2=0):=by
 unfold eC kH;rw[ζb];unfold eC.E1;rw[yq hS,ζb];refine DG (λk A=>qF t ((cu t).take k) A) ⟨by simp,by simp,λm h0 h1=>.inl (by rw[L6 h0 h1]),λm h0 h1=>.inl (by rw[L6 h0 h1])⟩ ?_ ?_
 .intro k x A Z B;have G  := List.mem_of_getElem? Z;have S:(cu t).take (k+1)=(cu t).take k++[x]:=by rw[List.take_add_one,Z];rfl
  obtain⟨p,j,aa,ab⟩:=eU.1 G;have hf:=hF x G;unfold eC.kr;rw[dy];constructor
  .intro hk;have L:x.2.kind=2:=by grind
   have u:0<=x.2.message/\x.2.message<=199:=by
    rcases hf with h|⟨_,_,_,_,h⟩
    .omega
    simp_all
   rw[LD A u.1 u.2,ζb,dy];refine⟨λhg=>(bl _).2 ((bl _).2 ⟨λh=>(by cases h),λW=>?_⟩),λh0=>?_⟩
   .rcases B.fr _ u.1 u.2 with X|⟨e,O,T,U⟩
    .grind
    .exact absurd (W.snd _ (List.mem_of_mem_take O) x G T L U) (HI Z O)
   rw[ζb,bl,S];have old:∀y∈(cu t).take k,y.2.kind=2->y.2.message≠x.2.message:=λy hy w O=>by
    have:=B.snd y hy w;rw[O]at this;obtain⟨p',j',_,Q⟩:=eU.1 (List.mem_of_mem_take hy)
    grind
   have Y:∀y∈(cu t).take k,y.2.kind=2\/y.2.kind=3->0<=y.2.message:=λy hy w=>by
    rcases hF y (List.mem_of_mem_take hy)with h|⟨_,_,_,_,h,_⟩
    .omega
    simp_all
   refine⟨λy hy w=>?_,λy hy z=>?_,λm C I=>?_,λm C I=>?_⟩
   .rcases List.mem_append.1 hy with hy|hy
    .rw[qP A _ u.1 u.2 (Y y hy (.inl w)),if_neg (old y hy w)];exact B.snd y hy w
    .simp at hy;subst hy;rw[qP A _ u.1 u.2 u.1,if_pos rfl]
   .rcases List.mem_append.1 hy with hy|hy
    .rw[qP A _ u.1 u.2 (Y y hy (.inr z))];have:=B.rcv y hy z
     grind
    grind
   .rw[qP A _ u.1 u.2 C];split
    .rename_i e;exact .inr ⟨x.2,by simp,L,e.symm⟩
    .exact(B.fr m C I).imp (λh=>h) λ⟨e,h1,D⟩=>⟨e,List.mem_append_left _ h1,D⟩
   .rw[qP A _ u.1 u.2 C];have:=(B.to m C I).imp (λh=>h) λ⟨e,h1,D⟩=>(⟨e,List.mem_append_left [x] h1,D⟩:∃e,((ag A m).to_,e)∈(cu t).take k++[x]/\e.kind=3/\e.message=m)
    split
    .rename_i e;subst e;omega
    omega
  .intro hk;have L  := by simpa using hk
   rw[dy];constructor
   .intro hk;have J  := by simpa using hk
    have u:0<=x.2.message/\x.2.message<=199/\0<=x.2.peer/\x.2.peer<t.procs.l.length:=by
     rcases hf with h|⟨_,h1,D,_,h3,h4⟩
     .omega
     .exact⟨h3,h4,h1,D⟩
    rw[LD A u.1 u.2.1,ζb,dy];refine⟨λhg=>(bl _).2 ((bl _).2 ⟨λh=>(by cases h),λW=>?_⟩),λh0=>?_⟩
    .rcases B.to _ u.1 u.2.1 with X|⟨e,O,T,U⟩
     .simp[X]at hg
     .exact absurd (W.rcv _ (List.mem_of_mem_take O) x G T J U) (HI Z O)
    have h0:¬(ag A x.2.message).to_.index>0:=by simpa using h0
    rw[Oz hS u.2.2.1 u.2.2.2,ζb,dy];refine⟨λhs=>?_,λhs=>(bl _).2 ((bl _).2 ⟨λh=>(by cases h),λW=>by rw[W.has x G J]at hs;cases hs⟩)⟩
    rw[ζb,bl,S];have old:∀y∈(cu t).take k,y.2.kind=3->y.2.message≠x.2.message:=λy hy w O=>by
     have:=(B.rcv y hy w).1;rw[O]at this;rw[this]at h0;obtain⟨p',j',_,Q⟩:=eU.1 (List.mem_of_mem_take hy);rw[Q]at h0;exact h0 (by show (j':Int)+1>0;omega)
    have Y:∀y∈(cu t).take k,y.2.kind=2\/y.2.kind=3->0<=y.2.message:=λy hy w=>by
     rcases hF y (List.mem_of_mem_take hy)with h|⟨_,_,_,_,h,_⟩
     .omega
     .exact h
    refine⟨λy hy w=>?_,λy hy z=>?_,λm C I=>?_,λm C I=>?_⟩
    .rcases List.mem_append.1 hy with hy|hy
     .rw[qP A _ u.1 u.2.1 (Y y hy (.inl w))];have:=B.snd y hy w;split
      .rename_i e;rw[e]at this;exact this
      .exact this
     .simp at hy;subst hy;omega
    .rcases List.mem_append.1 hy with hy|hy
     .rw[qP A _ u.1 u.2.1 (Y y hy (.inr z)),if_neg (old y hy z)];exact B.rcv y hy z
     .simp at hy;subst hy;rw[qP A _ u.1 u.2.1 u.1,if_pos rfl];exact⟨rfl,hs⟩
    .rw[qP A _ u.1 u.2.1 C];have:=(B.fr m C I).imp (λh=>h) λ⟨e,h1,D⟩=>(⟨e,List.mem_append_left [x] h1,D⟩:∃e,((ag A m).from_,e)∈(cu t).take k++[x]/\e.kind=2/\e.message=m)
     split
     .rename_i e;subst e;exact this
     .exact this
    .rw[qP A _ u.1 u.2.1 C];split
     .rename_i e;exact .inr ⟨x.2,by simp,J,e.symm⟩
     .exact(B.to m C I).imp (λh=>h) λ⟨e,h1,D⟩=>⟨e,List.mem_append_left _ h1,D⟩
   .intro hk;have J  := by simpa using hk
    rw[bl,S];refine⟨λy hy w=>?_,λy hy z=>?_,λm C I=>?_,λm C I=>?_⟩
    .rcases List.mem_append.1 hy with hy|hy
     .exact B.snd y hy w
     .simp at hy;subst hy;exact absurd w L
    .rcases List.mem_append.1 hy with hy|hy
     .exact B.rcv y hy z
     .simp at hy;subst hy;exact absurd z J
    .exact(B.fr m C I).imp (λh=>h) λ⟨e,h1,D⟩=>⟨e,List.mem_append_left _ h1,D⟩
    .exact(B.to m C I).imp (λh=>h) λ⟨e,h1,D⟩=>⟨e,List.mem_append_left _ h1,D⟩
 .intro A hA;rw[List.take_length]at hA;exact(bl _).2 ⟨λ_=>⟨A,rfl,hA⟩,λ_=>rfl⟩
end Go.VE
namespace Go.VE
def iF (f:Nat->Bool) (k n:Nat):Bool:=(List.range' k (n-k)).any f
theorem Eb {f:Nat->Bool} {k n:Nat} (h:k<n):iF f k n=(f k||iF f (k+1) n):=by
 unfold iF;rw[show n-k=(n-(k+1))+1 from by omega,List.range'_succ];rfl
theorem Qg {f:Nat->Bool} {k n:Nat} (h:n<=k):iF f k n=false:=by
 unfold iF;rw[show n-k=0 from by omega];rfl
theorem HN {f:Nat->Bool} {k n:Nat}:iF f k n=true↔∃i,k<=i/\i<n/\f i=true:=by
 unfold iF;rw[List.any_eq_true];constructor
 .rintro⟨i,hi,u⟩;rw[List.mem_range'_1]at hi;exact⟨i,hi.1,by omega,u⟩
 .rintro⟨i,h1,w,u⟩;exact⟨i,by rw[List.mem_range'_1];omega,u⟩
theorem DQ {step:Int->Option (Fw Int Unit Unit)} {n:Nat} (f:Nat->Bool) (D:n<9223372036854775807) (h1:∀i:Nat,i<n->step i=some (if f i then .r ()else .n (IntKind.wrap .i64 ((i:Int)+1)))) (B:step (n:Int)=some (.x ())) :
 ∀m k:Nat,k+m=n->bV step (k:Int)=some (if iF f k n then .r ()else .x ()):=by
 intro m
 induction m with
 | zero=>
  intro k hk;have:k=n:=by omega
  subst this;rw[eD,B,Qg (Nat.le_refl _)];rfl
 | succ m u=>
  intro k hk;rw[eD,h1 k (by omega),Eb (by omega)]
  cases w:f k with
  | true=>rfl
  | false=>
   simp only[Bool.false_eq_true,if_false,ζb,Bool.false_or];rw[dG k (by omega)]
   exact u (k+1) (by omega)
def mw (g:Nat->Int) (k n:Nat):Int:=match (List.range' k (n-k)).find? λi => !(g i==0)with
 | some i=>g i
 | none=>0
theorem E0 {g:Nat->Int} {k n:Nat} (h:k<n):mw g k n=if g k=0 then mw g (k+1) n else g k:=by
 unfold mw;rw[show n-k=(n-(k+1))+1 from by omega,List.range'_succ,List.find?_cons]
 by_cases h0:g k=0
 .simp[h0]
 .rw[if_neg h0,show (!(g k==0))=true from by simp[h0]]
theorem GL {g:Nat->Int} {k n:Nat} (h:n<=k):mw g k n=0:=by
 unfold mw;rw[show n-k=0 from by omega];rfl
theorem EU {g:Nat->Int} {n:Nat}:∀{m k:Nat},k+m=n->(mw g k n=0↔∀i,k<=i->i<n->g i=0):=by
 intro m
 induction m with
 | zero=>intro k hk;rw[GL (by omega)];exact⟨λ_ i h1 u=>by omega,λ_=>rfl⟩
 | succ m w=>
  intro k hk;rw[E0 (by omega)]
  split
  .rename_i h0;rw[w (show k+1+m=n by omega)]
   constructor
   .intro h i h1 u
    by_cases e:i=k
    .subst e;exact h0
    .exact h i (by omega) u
   .intro h i h1 u;exact h i (by omega) u
  .rename_i h0;exact⟨λh=>absurd h h0,λh=>absurd (h k (Nat.le_refl _) (by omega)) h0⟩
theorem RT {step:Int->Option (Fw Int Unit Int)} {n:Nat} (g:Nat->Int) (D:n<9223372036854775807) (h1:∀i:Nat,i<n->step i=some (if g i=0 then .n (IntKind.wrap .i64 ((i:Int)+1))else .r (g i))) (B:step (n:Int)=some (.x ())) :
 ∀m k:Nat,k+m=n->bV step (k:Int)=some (if mw g k n=0 then .x ()else .r (mw g k n)):=by
 intro m
 induction m with
 | zero=>
  intro k hk;have:k=n:=by omega
  subst this;rw[eD,B,GL (Nat.le_refl _)];rfl
 | succ m u=>
  intro k hk;rw[eD,h1 k (by omega),E0 (by omega)]
  by_cases h0:g k=0
  .simp only[h0,if_true,ζb];rw[dG k (by omega)]
   exact u (k+1) (by omega)
  .simp only[h0,if_false,ζb]
theorem yo {step:Int->Option (Fw Int Unit Int)} {n:Nat} (g:Nat->Int) (B:n<9223372036854775807) (h1:∀i:Nat,i<n->step i=some (if g i=0 then .n (IntKind.wrap .i64 ((i:Int)+1))else .r (g i))) (D:step (n:Int)=some (.x ())):bV step 0=some (if mw g 0 n=0 then .x ()else .r (mw g 0 n)):=RT g B h1 D n 0 (by omega)
theorem B3 {step:Int->Option (Fw Int Unit Unit)} {n:Nat} (f:Nat->Bool) (B:n<9223372036854775807) (h1:∀i:Nat,i<n->step i=some (if f i then .r ()else .n (IntKind.wrap .i64 ((i:Int)+1)))) (D:step (n:Int)=some (.x ())):bV step 0=some (if iF f 0 n then .r ()else .x ()):=DQ f B h1 D n 0 (by omega)
def xq (c:Int):Bool:=decide (c>=65)&&decide (c<=90)||decide (c>=97)&&decide (c<=122)
def BC (c:Int):Bool:=decide (c>=48)&&decide (c<=57)
theorem Ct (c:Int):p_ c=some (xq c):=by
 unfold p_ xq;simp only[oT,mO,ζb];rw[Bool.or_comm]
theorem C4 (c:Int):oF c=some (xq c):=by
 unfold oF xq;simp only[oT,mO,ζb]
theorem Mr (c:Int):tR c=some (BC c):=by
 unfold tR BC;simp only[oT,ζb]
theorem LW (c:Int):sF c=some (BC c):=by
 unfold sF BC;simp only[oT,ζb]
def wC (s:ByteArray) (i:Nat):Int:=(kE s (i:Int)).getD 0
theorem CD {s:ByteArray} {i:Nat} (h:i<s.size):kE s (i:Int)=some (wC s i):=by
 obtain⟨x,u⟩:=Lf h;unfold wC;rw[u];rfl
def sH (s:ByteArray) (i:Nat):Bool := !xq (wC s i) && !BC (wC s i) && !(wC s i==95)
def lC (s:ByteArray):Bool:=decide (1<=s.size)&&decide (s.size<=16)&&xq (wC s 0) && !iF (sH s) 0 s.size
theorem J9 {s:ByteArray} {i:Nat} (h:i<s.size):gq.bz s (s.size:Int) i=some (if sH s i then .r ()else .n (IntKind.wrap .i64 ((i:Int)+1))):=by
 unfold gq.bz sH;rw[show decide ((i:Int)<(s.size:Int))=true from by simpa using h,bH,CD h]
 simp only[ζb,Ct,Mr];cases xq (wC s i) <;> cases BC (wC s i) <;> cases (wC s i==95) <;> rfl
theorem Lj {s:ByteArray} {i:Nat} (h:i<s.size):gP.bz s i=some (if sH s i then .r ()else .n (IntKind.wrap .i64 ((i:Int)+1))):=by
 unfold gP.bz sH;rw[show decide ((i:Int)<((ByteArray.size s:Nat):Int))=true from by simpa using h,bH,CD h]
 simp only[ζb,C4,LW];cases xq (wC s i) <;> cases BC (wC s i) <;> cases (wC s i==95) <;> rfl
theorem toList_empty {s:ByteArray}:(ByteArray.toList s==ByteArray.toList ByteArray.empty)=decide (s.size=0):=by
 rw[Bool.eq_iff_iff,beq_iff_eq,decide_eq_true_eq];constructor
 .intro h;have h1:(ByteArray.toList s).length=s.size:=by rw[Go.ByteArray.toList_eq];simp
  rw[<-h1,h];rw[Go.ByteArray.toList_eq];rfl
 .intro h;have:s=ByteArray.empty:=by
   apply ByteArray.ext;exact Array.eq_empty_of_size_eq_zero h
  rw[this]
theorem EE {s:ByteArray} (B:s.size<1073741824):gq s=some (lC s):=by
 unfold gq;rw[toList_empty];simp only[mO,ζb]
 by_cases h0:s.size=0
 .simp[h0,lC,a_]
 by_cases u:s.size<=16
 .have hc:(decide (s.size=0)||decide (((ByteArray.size s:Nat):Int)>16))=false:=by simp[h0];omega
  rw[hc,bG,show (0:Int)=((0:Nat):Int)from rfl,CD (show 0<s.size by omega)]
  simp only[ζb,Ct]
  cases w:xq (wC s 0)with
  | false=>simp[lC,w,a_]
  | true=>
   simp only[Bool.not_true,bG];unfold gq.W1;rw[DQ (n:=s.size) (sH s) (by omega) (λi hi=>J9 hi) (by unfold gq.bz;simp[a_]) s.size 0 (by omega)]
   have:lC s = !iF (sH s) 0 s.size:=by simp[lC,w,u];omega
   rw[this];cases iF (sH s) 0 s.size <;> rfl
 .have hc:(decide (s.size=0)||decide (((ByteArray.size s:Nat):Int)>16))=true:=by simp;omega
  rw[hc,bH];simp[lC,u,a_]
theorem Ho {s:ByteArray} (B:s.size<1073741824):gP s=some (lC s):=by
 unfold gP;simp only[mO,ζb]
 by_cases h0:s.size=0
 .simp[h0,lC,a_]
 by_cases u:s.size<=16
 .have hc:(decide (((ByteArray.size s:Nat):Int)<1)||decide (((ByteArray.size s:Nat):Int)>16))=false:=by simp;omega
  rw[hc,bG,show (0:Int)=((0:Nat):Int)from rfl,CD (show 0<s.size by omega)]
  simp only[ζb,C4]
  cases w:xq (wC s 0)with
  | false=>simp[lC,w,a_]
  | true=>
   simp only[Bool.not_true,bG];unfold gP.W1;rw[show (1:Int)=((1:Nat):Int)from rfl,DQ (n:=s.size) (sH s) (by omega) (λi hi=>Lj hi) (by unfold gP.bz;simp[a_]) (s.size-1) 1 (by omega)]
   have z:sH s 0=false:=by simp[sH,w]
   have:lC s = !iF (sH s) 1 s.size:=by
    have h1:=Eb (f:=sH s) (show 0<s.size by omega)
    rw[z]at h1;simp[lC,w,u,h1];omega
   rw[this];cases iF (sH s) 1 s.size <;> rfl
 .have hc:(decide (((ByteArray.size s:Nat):Int)<1)||decide (((ByteArray.size s:Nat):Int)>16))=true:=by simp;omega
  rw[hc,bH];simp[lC,u,a_]
end Go.VE
namespace Go.VE
def fO {α:Type} (l:List α) (f:α->Bool) (i:Nat):Bool:=match l[i]? with|some y=>f y|none=>false
theorem zm {α:Type} {l:List α} {f:α->Bool} {i:Nat} (h:i<l.length):fO l f i=f l[i]:=by unfold fO;rw[ζd h]
theorem Bw {α:Type} {l:List α} {f:α->Bool} {p:Nat}:(l.take p).any f=iF (fO l f) 0 p:=by
 rw[Bool.eq_iff_iff,List.any_eq_true,HN];constructor
 .rintro⟨x,w,u⟩;obtain⟨i,hi⟩:=List.getElem?_of_mem w;have z:=(ζe.1 hi).1;rw[List.length_take]at z;rw[List.getElem?_take,if_pos (by omega)]at hi
  exact⟨i,Nat.zero_le _,by omega,by unfold fO;rw[hi];exact u⟩
 .rintro⟨i,_,hi,u⟩;unfold fO at u;split at u
  .rename_i y A;exact⟨y,List.mem_of_getElem? (i:=i) (by rw[List.getElem?_take,if_pos hi];exact A),u⟩
  .cases u
def rA (a b:ByteArray):Bool:=ByteArray.toList a==ByteArray.toList b
def TP:Bool->Bool->Bool->Int
 | true,false,true=>0
 | true,false,false=>2
 | _,_,_=>13
def uh (P:bQ) (i:Nat):Int:=match P.vars.l[i]? with
 | some v=>TP (lC v.name) (iF (fO P.vars.l λw=>rA w.name v.name) 0 i) (decide (v.init_>=-1073741824)&&decide (v.init_<=1073741824))
 | none=>0
def rV (t:Trace) (p:Nat):Int:=match t.procs.l[p]? with
 | some P=>if lC P.name && !iF (fO t.procs.l λy=>rA y.name P.name) 0 p then
  (if P.vars.l.length>8 then 5 else if mw (uh P) 0 P.vars.l.length=0 then(if P.events.l.length>64 then 5 else 0)else mw (uh P) 0 P.vars.l.length)else 13
 | none=>0
theorem Ea {P:bQ} {i:Nat} (h:i<P.vars.l.length):uh P i=TP (lC P.vars.l[i].name) (iF (fO P.vars.l λw=>rA w.name P.vars.l[i].name) 0 i) (decide (P.vars.l[i].init_>=-1073741824)&&decide (P.vars.l[i].init_<=1073741824)):=by
 unfold uh;rw[ζd h]
theorem E_ (n:Int):pX n=some (decide (n>=-1073741824)&&decide (n<=1073741824)):=by
 unfold pX;rw[oT];rfl
theorem Oq {t:Trace} (hS:Small t) {p:Nat} (hp:p<t.procs.l.length):eB t p=some (rV t p):=by
 have hP:=hS.2 _ (List.getElem_mem hp);have h1:=hS.1;unfold eB rV;rw[bT hp,ζb,ζd hp];generalize U:t.procs.l[p]=P at *;obtain⟨S,W,O,u,_⟩:=hP;rw[EE O,ζb];obtain⟨x,X,D⟩:=AB t.procs p (by omega)
 have G:gi x (λz=>jy z P)=some (iF (fO t.procs.l λy=>rA y.name P.name) 0 p):=by
  rw[zG (p:=λz=>jy z P) (f:=λy=>rA y.name P.name) (λy _=>rfl) (by rw[D,List.length_take];omega),D,Bw]
 rw[X,ζb,G,ζb];dsimp only
 cases Z:lC P.name with
 | false=>simp[a_]
 | true=>
  rw[bH,ζb,Bool.true_and]
  cases hd:iF (fO t.procs.l λy=>rA y.name P.name) 0 p with
  | true=>simp[a_]
  | false=>
   rw[bG];simp only[Bool.not_false,if_true]
   by_cases T:P.vars.l.length>8
   .rw[show decide (len P.vars>8)=true from by simp[len];omega,bH,if_pos T]
   .rw[show decide (len P.vars>8)=false from by simp[len];omega,bG,if_neg T]
    unfold eB.W1;rw[yo (n:=P.vars.l.length) (uh P) (by omega) (λi hi=>?_) (by unfold eB.bz;simp[a_,len])]
    .by_cases L:mw (uh P) 0 P.vars.l.length=0
     .rw[if_pos L,if_pos L];show a_ (decide (len P.events>64)) (some 5) (some 0)=_;rw[th];simp only[len,decide_eq_true_eq]
      by_cases I:P.events.l.length>64
      .rw[if_pos I,if_pos (by omega)]
      .rw[if_neg I,if_neg (by omega)]
     .rw[if_neg L,if_neg L];rfl
    .unfold eB.bz;rw[Ea hi,show decide ((i:Int)<len P.vars)=true from by simp[len];exact hi,bH,bT hi,ζb]
     have hv:=u _ (List.getElem_mem hi);obtain⟨y,Y,J⟩:=AB P.vars i (by omega)
     have Q:gC y (λz=>jA z P.vars.l[i])=some (iF (fO P.vars.l λw=>rA w.name P.vars.l[i].name) 0 i):=by
      rw[Bl (p:=λz=>jA z P.vars.l[i]) (f:=λw=>rA w.name P.vars.l[i].name) (λw _=>rfl) (by rw[J,List.length_take];omega),J,Bw]
     rw[EE hv,ζb,Y,ζb,Q,ζb,oQ];have hr:(decide (-1073741824<=P.vars.l[i].init_)&&decide (P.vars.l[i].init_<=1073741824))=(decide (P.vars.l[i].init_>=-1073741824)&&decide (P.vars.l[i].init_<=1073741824)):=rfl;rw[hr];generalize lC P.vars.l[i].name=A;generalize iF (fO P.vars.l λw=>rA w.name P.vars.l[i].name) 0 i=B
     generalize (decide (P.vars.l[i].init_>=-1073741824)&&decide (P.vars.l[i].init_<=1073741824))=C;cases A <;> cases B <;> cases C <;> rfl
theorem PB {t:Trace} (hS:Small t) {p:Nat} (hp:p<t.procs.l.length):dR t p=some (rV t p):=by
 have hP:=hS.2 _ (List.getElem_mem hp);have h1:=hS.1;unfold dR rV;rw[bT hp,ζb,ζd hp];generalize Q:t.procs.l[p]=P at *;obtain⟨L,S,J,u,_⟩:=hP;rw[Ho J,ζb];dsimp only
 cases W:lC P.name with
 | false=>simp[a_]
 | true=>
  rw[bH,Bool.true_and];unfold dR.W1;rw[B3 (n:=p) (fO t.procs.l λy=>rA y.name P.name) (by omega) (λi hi=>?_) (by unfold dR.bz;simp[a_])]
  .cases hd:iF (fO t.procs.l λy=>rA y.name P.name) 0 p with
   | true=>rfl
   | false=>
    simp only[Bool.not_false,if_true];show a_ (decide (len P.vars>8)) (some 5) (dR.W2 0 P)=_
    by_cases O:P.vars.l.length>8
    .rw[show decide (len P.vars>8)=true from by simp[len];omega,bH,if_pos O]
    .rw[show decide (len P.vars>8)=false from by simp[len];omega,bG,if_neg O]
     unfold dR.W2;rw[yo (n:=P.vars.l.length) (uh P) (by omega) (λi hi=>?_) (by unfold dR.cq;simp[a_,len])]
     .by_cases I:mw (uh P) 0 P.vars.l.length=0
      .rw[if_pos I,if_pos I];show a_ (decide (len P.events>64)) (some 5) (some 0)=_;rw[th];simp only[len,decide_eq_true_eq]
       by_cases z:P.events.l.length>64
       .rw[if_pos z,if_pos (by omega)]
       .rw[if_neg z,if_neg (by omega)]
      .rw[if_neg I,if_neg I];rfl
     .unfold dR.cq;rw[Ea hi,show decide ((i:Int)<len P.vars)=true from by simp[len];exact hi,bH,bT hi,ζb]
      rw[Ho (u _ (List.getElem_mem hi)),ζb];have T:dR.W3 i 0 P=if iF (fO P.vars.l λw=>rA w.name P.vars.l[i].name) 0 i then some (.r 13)else(if decide (P.vars.l[i].init_>=-1073741824)&&decide (P.vars.l[i].init_<=1073741824)then some (.n (IntKind.wrap .i64 ((i:Int)+1)))else some (.r 2)):=by
       unfold dR.W3;rw[B3 (n:=i) (fO P.vars.l λw=>rA w.name P.vars.l[i].name) (by omega) (λj U=>?_) (by unfold dR.eW;simp[a_])]
       .cases iF (fO P.vars.l λw=>rA w.name P.vars.l[i].name) 0 i with
        | true=>rfl
        | false=>
         show (idx P.vars (i:Int)).bind _=_;rw[bT hi,ζb,E_,ζb];cases (decide (P.vars.l[i].init_>=-1073741824)&&decide (P.vars.l[i].init_<=1073741824)) <;> rfl
       .unfold dR.eW;have D:j<P.vars.l.length:=by omega
        rw[show decide ((j:Int)<(i:Int))=true from by simpa using U,bH,bT D,ζb,bT hi,ζb,zm D,th];rfl
      rw[T];generalize lC P.vars.l[i].name=A;generalize iF (fO P.vars.l λw=>rA w.name P.vars.l[i].name) 0 i=B
      generalize (decide (P.vars.l[i].init_>=-1073741824)&&decide (P.vars.l[i].init_<=1073741824))=C;cases A <;> cases B <;> cases C <;> rfl
  .unfold dR.bz;have G:i<t.procs.l.length:=by omega
   rw[show decide ((i:Int)<(p:Int))=true from by simpa using hi,bH,bT G,ζb,zm G,th];rfl
end Go.VE
namespace Go.VE
def F_ (n:Nat) (p:Int) (e:Event):Bool:=if e.kind==1 then e.peer==0&&e.message==0 else(e.kind==2||e.kind==3)&&(decide (0<=e.peer)&&decide (e.peer<n)) && !(e.peer==p)&&(decide (0<=e.message)&&decide (e.message<=199))
theorem NK {t:Trace} (hS:Small t) (p:Int) (e:Event):iu t p e=some (F_ t.procs.l.length p e):=by
 have h1:=hS.1;have w:IntKind.wrap .i64 (len t.procs-1)=len t.procs-1:=gL _ (by simp[len];omega) (by simp[len];omega)
 have u:∀b:Bool,iu.J1 p b t e=some (b&&(decide (0<=e.peer)&&decide (e.peer<t.procs.l.length)) && !(e.peer==p)&&(decide (0<=e.message)&&decide (e.message<=199))):=by
  intro b;unfold iu.J1;simp only[oQ,w,ζb];have:decide (e.peer<=len t.procs-1)=decide (e.peer<t.procs.l.length):=by congr 1;apply propext;simp[len];omega
  rw[this];generalize (decide (0<=e.peer)&&decide (e.peer<(t.procs.l.length:Int)))=A;generalize (e.peer==p)=B;generalize (decide (0<=e.message)&&decide (e.message<=199))=C;cases b <;> cases A <;> cases B <;> cases C <;> rfl
 unfold iu F_;rw[u,u]
 cases h1:e.kind==1 with
 | true=>
  rw[bH];cases e.peer==0 <;> cases e.message==0 <;> rfl
 | false=>
  rw[bG];simp only[Bool.false_eq_true,if_false];cases z:e.kind==2 <;> simp[a_]
def CY (P:bQ) (k:Nat) (e:Event):Bool:=match k with|0=>false|j+1=>fO P.events.l (λx=>decide (e.time<x.time)) j
def tT (P:bQ) (k:Nat) (e:Event):Bool:=decide (e.time<0)||decide (e.time>1099511627776)||CY P k e
def Lo:Bool->Bool->Bool->Int
 | true,true,false=>0
 | true,true,true=>8
 | _,_,_=>2
def k9 (P:bQ) (e:Event) (i:Nat):Int:=match e.assign.l[i]? with
 | some a=>Lo (decide (0<=a.var)&&decide (a.var<P.vars.l.length)) (decide (a.value>=-1073741824)&&decide (a.value<=1073741824)) (iF (fO e.assign.l λb=>b.var==a.var) 0 i)
 | none=>0
theorem Ec {P:bQ} {e:Event} {i:Nat} (h:i<e.assign.l.length):k9 P e i=Lo (decide (0<=e.assign.l[i].var)&&decide (e.assign.l[i].var<P.vars.l.length)) (decide (e.assign.l[i].value>=-1073741824)&&decide (e.assign.l[i].value<=1073741824)) (iF (fO e.assign.l λb=>b.var==e.assign.l[i].var) 0 i):=by
 unfold k9;rw[ζd h]
def ni (n:Nat) (P:bQ) (p k:Nat) (e:Event):Int:=if F_ n p e then(if tT P k e then 11 else if e.assign.l.length>8 then 5 else mw (k9 P e) 0 e.assign.l.length)else 3
theorem KM {P:bQ} {e:Event} (hv:P.vars.l.length<1073741824) (U:e.assign.l.length<1073741824):dB.W2 e.assign (len e.assign) 0 e P=some (mw (k9 P e) 0 e.assign.l.length):=by
 have I:IntKind.wrap .i64 (len P.vars-1)=len P.vars-1:=gL _ (by simp[len];omega) (by simp[len];omega)
 unfold dB.W2;rw[yo (n:=e.assign.l.length) (k9 P e) (by omega) (λi hi=>?_) (by unfold dB.cq;simp[a_,len])]
 .by_cases D:mw (k9 P e) 0 e.assign.l.length=0
  .rw[if_pos D,D];rfl
  .rw[if_neg D];rfl
 .unfold dB.cq;obtain⟨y,J,u⟩:=AB e.assign i (by omega)
  have G:gK y (λz=>j_ z e.assign.l[i])=some (iF (fO e.assign.l λb=>b.var==e.assign.l[i].var) 0 i):=by
   rw[DD (p:=λz=>j_ z e.assign.l[i]) (f:=λb=>b.var==e.assign.l[i].var) (λw _=>rfl) (by rw[u,List.length_take];omega),u,Bw]
  rw[Ec hi,show decide ((i:Int)<len e.assign)=true from by simp[len];exact hi,bH,bT hi,ζb,oQ,oQ,I,J,ζb,ζb,ζb,G,ζb]
  have h1:(decide (0<=e.assign.l[i].var)&&decide (e.assign.l[i].var<=len P.vars-1))=(decide (0<=e.assign.l[i].var)&&decide (e.assign.l[i].var<P.vars.l.length)):=by
   congr 2;apply propext;simp[len];omega
  have L:(decide (-1073741824<=e.assign.l[i].value)&&decide (e.assign.l[i].value<=1073741824))=(decide (e.assign.l[i].value>=-1073741824)&&decide (e.assign.l[i].value<=1073741824)):=rfl;rw[h1,L];generalize (decide (0<=e.assign.l[i].var)&&decide (e.assign.l[i].var<(P.vars.l.length:Int)))=A;generalize (decide (e.assign.l[i].value>=-1073741824)&&decide (e.assign.l[i].value<=1073741824))=B;generalize iF (fO e.assign.l λb=>b.var==e.assign.l[i].var) 0 i=C
  cases A <;> cases B <;> cases C <;> rfl
theorem ML {t:Trace} (hS:Small t) {p k:Nat} {P:bQ} {e:Event} (hP:t.procs.l[p]? = some P) (J:P.events.l[k]? = some e):dB t ⟨p,k+1⟩ e=some (ni t.procs.l.length P p k e):=by
 obtain⟨I,w⟩:=ζe.1 hP;obtain⟨hk,z⟩:=ζe.1 J;obtain⟨C,A,_,_,B⟩:=hS.2 P (w▸List.getElem_mem I);have L:=B e (z▸List.getElem_mem hk);have D:∀last:Int,((decide (0<=e.time)&&decide (e.time<=1099511627776)) && !decide (e.time<last))=(!tT P k e) ->
  dB.J1 last t ⟨p,k+1⟩ e P=some (ni t.procs.l.length P p k e):=by
  intro last O;unfold dB.J1 ni;rw[NK hS,ζb,oQ,ζb,KM A L];dsimp only
  cases F_ t.procs.l.length p e with
  | false=>rfl
  | true=>
   rw[bH,if_pos rfl];have:(a_ (decide (0<=e.time)&&decide (e.time<=1099511627776)) (some (decide (e.time<last))) (some true):Option Bool)=some (tT P k e):=by
    have Q:(!((decide (0<=e.time)&&decide (e.time<=1099511627776)) && !decide (e.time<last)))=tT P k e:=by rw[O,Bool.not_not]
    rw[<-Q];cases (decide (0<=e.time)&&decide (e.time<=1099511627776)) <;> cases decide (e.time<last) <;> rfl
   rw[this,ζb]
   cases tT P k e with
   | true=>rfl
   | false=>
    rw[bG];simp only[Bool.false_eq_true,if_false]
    by_cases G:e.assign.l.length>8
    .rw[show decide (len e.assign>8)=true from by simp[len];omega,bH,if_pos G]
    .rw[show decide (len e.assign>8)=false from by simp[len];omega,bG,if_neg G]
 unfold dB;dsimp only;rw[show idx t.procs (p:Int)=some P from by rw[jo];exact hP,ζb]
 cases k with
 | zero=>
  rw[show decide (((0:Nat):Int)+1>1)=false from by decide,bG]
  refine D 0 ?_;simp only[tT,CY,Bool.or_false];rw[Bool.eq_iff_iff];simp only[ζh,Bool.not_eq_true',decide_eq_true_eq,decide_eq_false_iff_not,Bool.or_eq_false_iff];omega
 | succ j=>
  rw[show decide ((((j+1:Nat)):Int)+1>1)=true from by simp;omega,bH]
  have u:j<P.events.l.length:=by omega
  have S:IntKind.wrap .i64 ((((j+1:Nat)):Int)+1-2)=((j:Nat):Int):=by rw[gL _ (by omega) (by omega)];omega
  rw[S,bT u,ζb];refine D _ ?_;simp only[tT,CY,zm u];rw[Bool.eq_iff_iff];simp only[ζh,Bool.not_eq_true',decide_eq_true_eq,decide_eq_false_iff_not,Bool.or_eq_false_iff];omega
end Go.VE
namespace Go.VE
theorem KS {t:Trace} {p:Nat} {P:bQ} {e:Event} (hP:t.procs.l[p]? = some P) (G:e.assign.l.length<1073741824):dU.W2 p 0 t e=some (mw (k9 P e) 0 e.assign.l.length):=by
 unfold dU.W2;rw[yo (n:=e.assign.l.length) (k9 P e) (by omega) (λi hi=>?_) (by unfold dU.cq;simp[a_,len])]
 .by_cases w:mw (k9 P e) 0 e.assign.l.length=0
  .rw[if_pos w,w];rfl
  .rw[if_neg w];rfl
 .unfold dU.cq;have z:dU.W3 p i 0 t e e.assign.l[i]=if iF (fO e.assign.l λb=>b.var==e.assign.l[i].var) 0 i then some (.r 8)else some (.n (IntKind.wrap .i64 ((i:Int)+1))):=by
   unfold dU.W3;rw[B3 (n:=i) (fO e.assign.l λb=>b.var==e.assign.l[i].var) (by omega) (λj D=>?_) (by unfold dU.eW;simp[a_])]
   .cases iF (fO e.assign.l λb=>b.var==e.assign.l[i].var) 0 i <;> rfl
   .unfold dU.eW;have u:j<e.assign.l.length:=by omega
    rw[show decide ((j:Int)<(i:Int))=true from by simpa using D,bH,bT u,ζb,zm u,th]
  rw[Ec hi,show decide ((i:Int)<len e.assign)=true from by simp[len];exact hi,bH,bT hi,ζb,z,E_,ζb,show idx t.procs (p:Int)=some P from by rw[jo];exact hP,ζb]
  have h1:(a_ (decide (e.assign.l[i].var<0)) (some true) (some (decide (e.assign.l[i].var>=len P.vars))):Option Bool)=some (!(decide (0<=e.assign.l[i].var)&&decide (e.assign.l[i].var<P.vars.l.length))):=by
   rw[mO];congr 1;rw[Bool.eq_iff_iff];simp only[Bool.or_eq_true,Bool.not_eq_true',decide_eq_true_eq,Bool.and_eq_false_iff,decide_eq_false_iff_not,len];omega
  rw[h1,ζb];generalize (decide (0<=e.assign.l[i].var)&&decide (e.assign.l[i].var<(P.vars.l.length:Int)))=A;generalize (decide (e.assign.l[i].value>=-1073741824)&&decide (e.assign.l[i].value<=1073741824))=B;generalize iF (fO e.assign.l λb=>b.var==e.assign.l[i].var) 0 i=C
  cases A <;> cases B <;> cases C <;> rfl
theorem P0 {t:Trace} (hS:Small t) {p k:Nat} {P:bQ} {e:Event} (hP:t.procs.l[p]? = some P) (U:P.events.l[k]? = some e):dU t p k=some (ni t.procs.l.length P p k e):=by
 obtain⟨Q,w⟩:=ζe.1 hP;obtain⟨hk,z⟩:=ζe.1 U;obtain⟨L,S,_,_,I⟩:=hS.2 P (w▸List.getElem_mem Q);have T:=I e (z▸List.getElem_mem hk);have W:dU.J1 p k t e=some (if tT P k e then 11 else if e.assign.l.length>8 then 5 else mw (k9 P e) 0 e.assign.l.length):=by
  unfold dU.J1;rw[mO,ζb,KS hP T,show idx t.procs (p:Int)=some P from by rw[jo];exact hP,ζb]
  have h1:(a_ (decide ((k:Int)>0)) ((idx P.events (IntKind.wrap .i64 ((k:Int)-1))).bind λJ=>some (decide (e.time<J.time))) (some false):Option Bool)=some (CY P k e):=by
   cases k with
   | zero=>rfl
   | succ j=>
    have u:j<P.events.l.length:=by omega
    rw[show decide ((((j+1:Nat)):Int)>0)=true from by simp only[decide_eq_true_eq];omega,bH,show IntKind.wrap .i64 ((((j+1:Nat)):Int)-1)=((j:Nat):Int)from by rw[gL _ (by omega) (by omega)];omega,bT u,ζb]
    simp only[CY,zm u]
  rw[h1,ζb,mO,ζb];show a_ (tT P k e) _ _=_
  cases tT P k e with
  | true=>rfl
  | false=>
   rw[bG];simp only[Bool.false_eq_true,if_false]
   by_cases O:e.assign.l.length>8
   .rw[show decide (len e.assign>8)=true from by simp[len];omega,bH,if_pos O]
   .rw[show decide (len e.assign>8)=false from by simp[len];omega,bG,if_neg O]
 unfold dU ni;rw[show idx t.procs (p:Int)=some P from by rw[jo];exact hP,ζb,show idx P.events (k:Int)=some e from by rw[jo];exact U,ζb,W]
 unfold F_
 cases h1:e.kind==1 with
 | true=>
  rw[bH];simp only[if_true];cases e.peer==0 <;> cases e.message==0 <;> rfl
 | false=>
  rw[bG];simp only[Bool.false_eq_true,if_false];have X:(a_ (e.kind==2) (some false) (some (!(e.kind==3))):Option Bool)=some (!(e.kind==2||e.kind==3)):=by cases e.kind==2 <;> rfl
  rw[X,ζb,mO,ζb,mO,ζb,mO,ζb,mO,ζb,mO,ζb];have Y:(((((!(e.kind==2||e.kind==3))||decide (e.peer<0))||decide (e.peer>=len t.procs))||(e.peer==p))||decide (e.message<0)||decide (e.message>199)) = !((e.kind==2||e.kind==3)&&(decide (0<=e.peer)&&decide (e.peer<t.procs.l.length)) && !(e.peer==p)&&(decide (0<=e.message)&&decide (e.message<=199))):=by
   generalize (e.kind==2||e.kind==3)=A;have a1:decide (e.peer<0) = !decide (0<=e.peer):=by rw[Bool.eq_iff_iff];simp
   have a2:decide (e.peer>=len t.procs) = !decide (e.peer<t.procs.l.length):=by rw[Bool.eq_iff_iff];simp[len]
   have a3:decide (e.message<0) = !decide (0<=e.message):=by rw[Bool.eq_iff_iff];simp
   have a4:decide (e.message>199) = !decide (e.message<=199):=by rw[Bool.eq_iff_iff];simp
   rw[a1,a2,a3,a4];generalize decide (0<=e.peer)=B;generalize decide (e.peer<(t.procs.l.length:Int))=C;generalize (e.peer==(p:Int))=D;generalize decide (0<=e.message)=F;generalize decide (e.message<=199)=G;cases A <;> cases B <;> cases C <;> cases D <;> cases F <;> cases G <;> rfl
  rw[Y];generalize ((e.kind==2||e.kind==3)&&(decide (0<=e.peer)&&decide (e.peer<(t.procs.l.length:Int))) && !(e.peer==(p:Int))&&(decide (0<=e.message)&&decide (e.message<=199)))=Z;cases Z <;> rfl
theorem KG {n:Nat} {p:Int} {e:Event} (h:F_ n p e=true):kL n p e:=by
 unfold F_ at h;split at h
 .rename_i h1;left;simpa using h1
 .right;simp only[ζh,Bool.or_eq_true,beq_iff_eq,decide_eq_true_eq,Bool.not_eq_true',beq_eq_false_iff_ne,ne_eq]at h;obtain⟨⟨⟨h1,u⟩,z⟩,w⟩:=h;exact⟨h1,u.1,u.2,z,w.1,w.2⟩
theorem He {n:Nat} {P:bQ} {p k:Nat} {e:Event} (h:ni n P p k e=0):kL n p e:=by
 unfold ni at h;split at h
 .rename_i h1;exact KG h1
 .cases h
end Go.VE
namespace Go.VE
theorem GZ {α:Type} [DecidableEq α]:∀{l r:List α},l.Nodup->(∀x∈l,x∈r)->l.length<=r.length
 | [],_,_,_=>Nat.zero_le _
 | x::l,r,D,G=>by
  have B:=List.nodup_cons.1 D;have:=GZ  (r:=r.erase x) B.2 λy u=>(List.mem_erase_of_ne (by grind)).2 (G y (List.mem_cons_of_mem _ u))
  grind
section
variable {κ:Type} [DecidableEq κ]
theorem Cn {ν:Type} {k:κ}:∀{m:Mo κ ν},k∉m.map (·.1)->tP k m=none
 | [],_=>rfl
 | (a,v)::r,h=>by
  simp only[List.map_cons,List.mem_cons,not_or]at h;unfold tP;rw[if_neg h.1];exact Cn h.2
theorem Ee {ν:Type} {k:κ}:∀{m:Mo κ ν},k∈m.map (·.1)->∃v,tP k m=some v/\(k,v)∈m
 | [],h=>by simp_all
 | (a,v)::r,h=>by
  unfold tP
  by_cases e:k=a
  .grind
  .obtain⟨w,h1,B⟩:=Ee  (by simpa [e]using h)
   grind
theorem rj {ν:Type} {k:κ} {v:ν}:∀{m:Mo κ ν},k∉m.map (·.1)->rD m k v=m++[(k,v)]
 | [],_=>rfl
 | (a,w)::r,h=>by
  simp only[List.map_cons,List.mem_cons,not_or]at h;show (if k=a then _ else _)=_;rw[if_neg h.1,rj h.2];rfl
end
def Vd (t:Trace) (y:aY):Prop:=∃e,(y,e)∈cu t
theorem Vd.at_ {t:Trace} {y:aY} (h:Vd t y):∃(p k:Nat) (e:Event),qI t p k e/\y=⟨p,k+1⟩/\(y,e)∈cu t:=by
 obtain⟨e,u⟩:=h;obtain⟨p,k,h1,w⟩:=eU.1 u
 grind
def GW (t:Trace) (y z:aY):Prop:=∃e f,(y,e)∈cu t/\(z,f)∈cu t/\e.kind=2/\f.kind=3/\e.message=f.message
def Edge (t:Trace) (y z:aY):Prop:=Vd t y/\Vd t z/\(z=⟨y.proc,y.index+1⟩\/GW t y z)
abbrev Way (t:Trace):aY->aY->Prop:=Relation.TransGen (Edge t)
def Ju (t:Trace):Prop:=∃x,Way t x x
theorem Way.l {t:Trace} {x y:aY} (h:Way t x y):Vd t x:=by
 induction h with
 | single h=>exact h.1
 | tail _ _ u=>omega
theorem Way.r {t:Trace} {x y:aY} (h:Way t x y):Vd t y:=by
 cases h with
 | single h=>exact h.2.1
 | tail _ h=>exact h.2.1
theorem N5 {t:Trace} (hS:Small t) (hF:∀x∈cu t,kL t.procs.l.length x.1.proc x.2) {A:cI 200 bR} (hA:qF t (cu t) A) {y:aY} (U:Vd t y) :
 Wp (jf t A y) λs=>s.l.length<=2/\∀z,z∈s.l↔Edge t y z:=by
 obtain⟨p,k,e,S,D,u⟩:=U.at_;obtain⟨P,hP,hk⟩:=S;have T:P∈t.procs.l:=List.mem_of_getElem? hP;have h1:=(hS.2 P T).1;have aa:k<P.events.l.length:=(ζe.1 hk).1;have G:y.proc=p:=by rw[D]
 have C:y.index=k+1:=by rw[D]
 have j:∀s:Sl aY,s.l.length<=1->(∀z,z∈s.l↔Vd t z/\z=⟨y.proc,y.index+1⟩)->Wp (jf.J1 A s P.events y) λs=>s.l.length<=2/\∀z,z∈s.l↔Edge t y z:=by
  intro s hs w;have no:¬(∃z,GW t y z)->s.l.length<=2/\∀z,z∈s.l↔Edge t y z:=λhn=>⟨by omega,λz=>(w z).trans ⟨λh=>⟨U,h.1,.inl h.2⟩,λh=>⟨h.2.1,h.2.2.elim id λh=>(hn ⟨z,h⟩).elim⟩⟩⟩
  unfold jf.J1;have W:IntKind.wrap .i64 (y.index-1)=((k:Nat):Int):=by rw[C,gL _ (by omega) (by omega)];omega
  rw[W,jo,hk,ζb,qp,dy];constructor
  .intro B;have B:e.kind=2:=by grind
   have O:0<=e.message/\e.message<=199:=by
    rcases hF _ u with h|⟨_,_,_,_,h⟩
    .grind
    simp_all
   have to_:∀z,GW t y z->(ag A e.message).to_=z:=λz ⟨X,f,Y,I,a3,a4,a5⟩=>by
    cases BT Y u rfl;rw[a5];exact(hA.rcv _ I a4).1
   rw[LD A O.1 O.2,ζb,bl,dy];refine⟨λh=>?_,λh=>(bl _).2 (no λ⟨z,w⟩=>?_)⟩
   .have h:(ag A e.message).to_.index>0:=by grind
    rw[ζb];unfold jr;rw[if_pos (by omega),ζb,bl]
    refine⟨by show (s.l++[(ag A e.message).to_]).length<=2;grind,λz=>?_⟩
    have J:GW t y (ag A e.message).to_:=by
     rcases hA.to e.message O.1 O.2 with h0|⟨X,h1,h2,h3⟩
     .omega
     .exact⟨e,X,u,h1,B,h2,h3.symm⟩
    show z∈s.l++[(ag A e.message).to_]↔_;rw[List.mem_append,List.mem_singleton,w];constructor
    .rintro (h|rfl)
     .exact⟨U,h.1,.inl h.2⟩
     .exact⟨U,let ⟨_,f,_,I,_⟩:=J;⟨f,I⟩,.inr J⟩
    .rintro⟨_,h1,h2|h2⟩
     .grind
     grind
   .rw[to_ z w]at h;obtain⟨_,f,_,I,_⟩:=w;obtain⟨q,i,_,hi⟩:=eU.1 I;simp only at hi;rw[hi]at h;simp at h
  .intro B;rw[bl,dy];refine⟨λh=>(by cases h),λ_=>(bl _).2 (no λ⟨z,X,f,Y,_,a3,_⟩=>?_)⟩
   cases BT Y u rfl
   grind
 unfold jf;rw[G,jo,hP,ζb,dy];rw[G]at j;constructor
 .intro h;have h:y.index<len P.events:=by simpa using h
  have B:k+1<P.events.l.length:=by rw[C]at h;simp[len]at h;omega
  refine j _ (by simp[Sl.l]) λz=>?_
  have W:IntKind.wrap .i64 (y.index+1)=y.index+1:=gL _ (by omega) (by omega)
  simp only[Sl.l,List.mem_singleton,W];refine⟨λw=>⟨⟨P.events.l[k+1],eU.2 ⟨p,k+1,⟨P,hP,ζd B⟩,?_⟩⟩,w⟩,λw=>w.2⟩
  rw[w,C];simp
 .intro h;have h:¬y.index<len P.events:=by simpa using h
  refine j _ (by simp[Sl.l]) λz=>⟨λw=>by simp[Sl.l]at w,λ⟨w,he⟩=>?_⟩
  obtain⟨q,i,f,⟨Q,Z,hi⟩,L,_⟩:=w.at_;rw[he,C]at L;simp[aY.mk.injEq]at L;have:q=p:=by omega
  subst this;rw[hP]at Z;cases Z;have:=(ζe.1 hi).1;simp[len]at h;omega
structure GX (t:Trace) (x:aY) (rest:Sl aY) (m:Mo aY Bool) (U:aY->Prop):Prop where
 rst:∀y∈rest.l,y=x\/Way t x y
 keys:(m.map (·.1)).Nodup
 seen:∀y∈m,Way t x y.1/\y.1≠x/\y.2=true
 le:rest.l.length<=m.length+1
 done:∀y,y=x\/y∈m.map (·.1)->y∈rest.l\/U y\/∀z,Edge t y z->z∈m.map (·.1)
theorem GX.count {t:Trace} {x:aY} {rest:Sl aY} {m:Mo aY Bool} {U:aY->Prop} (h:GX t x rest m U):m.length<=(cu t).length:=by
 have:=GZ (r:=(cu t).map (·.1)) h.keys λx u=>by
  obtain⟨y,w,rfl⟩:=List.mem_map.1 u;obtain⟨e,z⟩:=(h.seen y w).1.r
  grind
 grind
theorem Mb {t:Trace} (hS:Small t) (hN:(cu t).length<1073741824) (hF:∀x∈cu t,kL t.procs.l.length x.1.proc x.2) {A:cI 200 bR} (hA:qF t (cu t) A):Wp (iw t A) λr=>(r.2=true↔Ju t):=by
 unfold iw kH;rw[ζb];unfold iw.E1;rw[yq hS,ζb];refine DG (λk _=>∀x∈(cu t).take k,¬Way t x.1 x.1) (by simp) ?_ λ_ h=>(bl _).2 ⟨λh=>(by cases h),λ⟨x,hx⟩=>?_⟩
 .intro i x _ hx aq;have af:x∈cu t:=List.mem_of_getElem? hx;refine Wp.mono (P:=λw=>match w with|.n s=>¬Way t x.1 x.1|.x e=>False|.r e=>Ju t) ?_ λw hw=>by
   cases w with
   | n s=>
    intro y hy;rw[List.take_add_one,hx]at hy
    grind
   | x e=>grind
   | r b=>exact(bl _).2 ⟨λ_=>hw,λ_=>rfl⟩
  refine gO (λq:Sl aY×Mo aY Bool=>GX t x.1 q.1 q.2 λ_=>False) (λq=>2*((cu t).length-q.2.length)+q.1.l.length) ⟨λy hy=>.inl (by simpa [Sl.l]using hy),by simp,by simp,by simp[Sl.l],λy hy=>.inl ?_⟩ ?_
  .simpa [Sl.l]using hy
  rintro⟨rest,m⟩ L;unfold iw.cq;rw[dy];refine⟨λh=>?_,λh=>(bl _).2 ((bl _).2 λhw=>?_)⟩
  .have G:0<rest.l.length:=by
    grind
   have hc:=L.count;have au:=L.le;have hw:IntKind.wrap .i64 ((len rest)-1)=(rest.l.length-1:Nat):=by
    rw[gL _ (by grind) (by grind)];grind
   have I:rest.l.length-1<rest.l.length:=by omega
   rw[hw];have h1:Sl.oC rest (rest.l.length-1:Nat)=some (rest.l.length-1):=by
    unfold Sl.oC;grind
   have h2:Sl.get rest (rest.l.length-1)=some rest.l[rest.l.length-1]:=by unfold Sl.get;grind
   obtain⟨cut,h3,h4⟩:∃x,oE rest none (some ((rest.l.length-1:Nat):Int))=some x/\x.l=rest.l.take (rest.l.length-1):=by
    cases rest with
    | nil=>simp[Sl.l]at G
    | emp=>simp[Sl.l]at G
    | row l=>
     simp only[Sl.l]at G ⊢;unfold oE dQ;simp_all
    | part l=>
     simp[Sl.l]at G ⊢;unfold oE dQ;simp_all
   rw[h1,ζb,h2,ζb,h3,ζb,qp];generalize ah:rest.l[rest.l.length-1]=y;have ai:y∈rest.l:=ah▸List.getElem_mem I;have O:∀z,z∈rest.l->z∈cut.l\/z=y:=λz hz=>by
    have:rest.l.take (rest.l.length-1)++rest.l.drop (rest.l.length-1)=rest.l:=List.take_append_drop ..;rw[<-this]at hz;rcases List.mem_append.1 hz with hz|hz
    .grind
    .rw[List.drop_eq_getElem_cons I,List.drop_of_length_le (by omega)]at hz
     grind
   have aa  := L.rst _ ai;have aj  := aa.elim (λe=>⟨x.2,e▸af⟩) Way.r
   refine(N5 hS hF hA aj).mono λs hs=>?_
   refine gO (λq:Sl aY×Int×Mo aY Bool=>∃n:Nat,q.2.1=n/\n<=s.l.length/\GX t x.1 q.1 q.2.2 (λu=>u=y)/\(∀z∈s.l.take n,z∈q.2.2.map (·.1))/\2*((cu t).length-q.2.2.length)+q.1.l.length<2*((cu t).length-m.length)+rest.l.length) (λq=>s.l.length-q.2.1.toNat)
    ⟨0,rfl,Nat.zero_le _,⟨λz hz=>L.rst z (by grind),L.keys,L.seen,by grind,λu hu=>?_⟩,by simp,by grind⟩ ?_
   .rcases L.done u hu with h|h|h
    .exact(O u h).imp_right .inl
    .exact h.elim
    .exact .inr (.inr h)
   rintro⟨C,i2,W⟩ ⟨n,rfl,hn,B,J,hμ⟩;simp only at B hμ J;unfold iw.eW;rw[dy];constructor
   .intro h;have X:n<s.l.length:=by simpa [len]using h
    have ab:=(hs.2 s.l[n]).1 (List.getElem_mem X);have Q:Way t x.1 s.l[n]:=aa.elim (λe=>.single (e▸ab)) λh=>.tail h ab
    rw[bT X,ζb,dy];refine⟨λZ=>(bl _).2 ((bl _).2 ((bl _).2 ⟨x.1,?_⟩)),λS=>?_⟩
    .have:s.l[n]=x.1:=by
      unfold Jy at Z
      revert Z;cases s.l[n];cases x.1;intro Z;simpa using Z
     rw[this]at Q;exact Q
    have S:s.l[n]≠x.1:=λe=>by rw[e]at S;simp[Jy]at S
    have T:=dG n (by omega)
    have ad:s.l.take (n+1)=s.l.take n++[s.l[n]]:=by rw[List.take_add_one,ζd X];rfl
    rw[dy];refine⟨λhg=>(bl _).2 ⟨⟨n+1,T,by omega,B,λz hz=>?_,hμ⟩,by show _-(IntKind.wrap .i64 ((n:Int)+1)).toNat<_;rw[T];simp;omega⟩,λY=>?_⟩
    .rw[ad]at hz;rcases List.mem_append.1 hz with hz|hz
     .exact J z hz
     .simp[List.mem_singleton]at hz;subst hz;apply Classical.byContradiction;intro hk;unfold DE at hg;rw[Cn hk]at hg;cases hg
    have av:=B.count;have ar:=B.le;unfold jr;rw[if_pos (show C.l.length+1<=2147483648 from by omega),ζb,bl]
    have D:s.l[n]∉W.map (·.1):=λak=>by
     obtain⟨v,hv,al⟩:=Ee ak;have:=(B.seen _ al).2.2;simp only at this;subst this;unfold DE at Y;rw[hv]at Y;cases Y
    have U:∀z,z∈(rD W s.l[n] true).map (·.1)↔z∈W.map (·.1)\/z=s.l[n]:=λz=>by
     rw[rj D,List.map_append,List.mem_append];simp
    have ae:GX t x.1 (.row (C.l++[s.l[n]])) (rD W s.l[n] true) (λu=>u=y):=by
     refine⟨λy hy=>?_,?_,λy hy=>?_,?_,λu hu=>?_⟩
     .simp[Sl.l,List.mem_singleton]at hy;rcases hy with hy|rfl
      .exact B.rst y hy
      .exact .inr Q
     .rw[rj D,List.map_append,List.nodup_append];refine⟨B.keys,by simp,λa ha b hb=>?_⟩
      simp[List.mem_singleton]at hb;subst hb;exact λe=>D (e▸ha)
     .rw[rj D]at hy;rcases List.mem_append.1 hy with hy|hy
      .exact B.seen y hy
      .simp[List.mem_singleton]at hy;subst hy;exact⟨Q,S,rfl⟩
     .rw[rj D];show (C.l++[s.l[n]]).length<=_;rw[ζi,ζi,List.length_singleton,List.length_singleton];omega
     .simp only[Sl.l,List.mem_append,List.mem_singleton];have old:u=x.1\/u∈W.map (·.1)->(u∈C.l\/u=s.l[n])\/u=y\/∀z,Edge t u z->z∈(rD W s.l[n] true).map (·.1):=λhu=>by
       rcases B.done u hu with h|h|h
       .exact .inl (.inl h)
       .exact .inr (.inl h)
       .exact .inr (.inr λz hz=>(U z).2 (.inl (h z hz)))
      rcases hu with hu|hu
      .exact old (.inl hu)
      .rcases (U u).1 hu with hu|hu
       .exact old (.inr hu)
       .exact .inl (.inr hu)
    have am:=ae.count;refine⟨⟨n+1,T,by omega,ae,λz hz=>?_,?_⟩,by show _-(IntKind.wrap .i64 ((n)+1)).toNat<_;rw[T];simp;omega⟩
    .rw[ad]at hz;rcases List.mem_append.1 hz with hz|hz
     .exact(U z).2 (.inl (J z hz))
     .exact(U z).2 (.inr (by simpa using hz))
    rw[rj D,ζi,List.length_singleton]at am;show 2*((cu t).length-(rD W s.l[n] true).length)+(C.l++[s.l[n]]).length<_;rw[rj D,ζi,ζi,List.length_singleton,List.length_singleton];omega
   .intro h;have an:s.l.length<=n:=by simpa [len]using h
    rw[List.take_of_length_le an]at J;refine(bl _).2 ((bl _).2 ⟨⟨B.rst,B.keys,B.seen,B.le,λu hu=>?_⟩,hμ⟩)
    rcases B.done u hu with h|h|h
    .exact .inl h
    .subst h;exact .inr (.inr λz hz=>J z ((hs.2 z).2 hz))
    .exact .inr (.inr h)
  .have ao:rest.l=[]:=by
    have:¬len rest>0:=by simpa using h
    simp[len]at this;exact this
   have hd:∀y,y=x.1\/y∈m.map (·.1)->∀z,Edge t y z->z∈m.map (·.1):=λy hy=>by
    rcases L.done y hy with h|h|h
    .simp only[ao]at h;cases h
    .exact h.elim
    .exact h
   have key:∀z,Way t x.1 z->z∈m.map (·.1):=λz hz=>by
    induction hz with
    | single h=>exact hd _ (.inl rfl) _ h
    | tail _ h ih=>exact hd _ (.inr ih) _ h
   obtain⟨y,hy,ap⟩:=List.mem_map.1 (key _ hw);exact(L.seen y hy).2.1 ap
 .obtain⟨e,Z⟩:=hx.l;rw[List.take_length]at h;exact absurd hx (h _ Z)
structure Ok (t:Trace):Prop where
 one:1<=t.procs.l.length
 few:t.procs.l.length<=8
 heads:∀p,p<t.procs.l.length->rV t p=0
 eZ:∀(p k:Nat) P e,t.procs.l[p]? = some P->P.events.l[k]? = some e->ni t.procs.l.length P p k e=0
 QD:xU t
 acyc:¬Ju t
theorem D_ {t:Trace} (h:∀(p k:Nat) P e,t.procs.l[p]? = some P->P.events.l[k]? = some e->ni t.procs.l.length P p k e=0):∀x∈cu t,kL t.procs.l.length x.1.proc x.2:=λx w=>by
 obtain⟨p,k,⟨P,hP,z⟩,u⟩:=eU.1 w;rw[u];exact He (h p k P _ hP z)
structure VT (t:Trace):Prop where
 formed:∀x∈cu t,kL t.procs.l.length x.1.proc x.2
 msgs:∃A i,eC t=some (some A,i,0)/\qF t (cu t) A
 few:t.procs.l.length<=8
 ok:Ok t
theorem Ol {t:Trace} (hS:Small t) (U:(cu t).length<1073741824):Wp (gR t) λr=>(r.2=0->VT t)/\(Ok t->r.2=0):=by
 unfold gR;rw[oQ,ζb,dy];refine⟨λG=>?_,λG=>(bl _).2 ⟨λh=>(by omega),λh=>?_⟩⟩
 rotate_left
 .have h1:=h.one;have C:=h.few
  grind
 have C:1<=t.procs.l.length/\t.procs.l.length<=8:=by
  grind
 unfold gR.W1;refine gO (λi:Int=>∃n:Nat,i=n/\n<=t.procs.l.length/\∀p,p<n->rV t p=0) (λi:Int=>t.procs.l.length-i.toNat) ⟨0,rfl,Nat.zero_le _,λp I=>absurd I (by omega)⟩ ?_
 rintro i ⟨n,rfl,hn,W⟩;unfold gR.bz;rw[dy];constructor
 .intro h;have u:n<t.procs.l.length:=by grind
  rw[Oq hS u,ζb,dy];refine⟨λh0=>(bl _).2 ⟨⟨n+1,dG n (by omega),by omega,λp I=>?_⟩,by rw[dG n (by omega)];simp;omega⟩,λh0=>(bl _).2 ((bl _).2 ⟨λh=>?_,λh=>?_⟩)⟩
  .grind
  .grind
  .simp[h.heads n u]at h0
 .intro h;have X:t.procs.l.length<=n:=by grind
  rw[bl];unfold kH;rw[ζb];unfold gR.E2;rw[yq hS,ζb];refine DG (λi _=>∀(p k:Nat) P e,t.procs.l[p]? = some P->P.events.l[k]? = some e->(⟨p,k+1⟩,e)∈(cu t).take i->ni t.procs.l.length P p k e=0) (by simp) ?_ ?_
  .intro i x _ T w;have J  := List.mem_of_getElem? T;obtain⟨p,j,⟨P,hP,z⟩,L⟩:=eU.1 J;unfold gR.Jm;rw[L,ML hS hP z,ζb,dy];refine⟨λh0=>(bl _).2 λp' k' P' e' Y Z hm=>?_,λh0=>(bl _).2 ((bl _).2 ⟨λh=>?_,λh=>?_⟩)⟩
   .rw[List.take_add_one,T]at hm
    grind
   .grind
   .simp[h.eZ p j P _ hP z]at h0
  .intro _ w;have w:∀(p k:Nat) P e,t.procs.l[p]? = some P->P.events.l[k]? = some e->ni t.procs.l.length P p k e=0:=λp k P e hP z=>w p k P e hP z (by rw[List.take_length];exact eU.2 ⟨p,k,⟨P,hP,z⟩,rfl⟩)
   have O:=D_ w;obtain⟨r,hr,hq,Q⟩:=Dt hS O;rw[hr,ζb,dy];refine⟨λh0=>?_,λh0=>(bl _).2 ⟨λh=>?_,λh=>Q h.QD⟩⟩
   .have h0  := by simpa using h0
    obtain⟨A,S,hM⟩:=hq h0;rw[S,ζb];obtain⟨c,hc,B⟩:=Mb hS U O hM;rw[hc,ζb,dy];refine⟨λD=>(bl _).2 ⟨λh=>(by cases h),λh=>absurd (B.1 D) h.acyc⟩,λD=>(bl _).2 ⟨λ_=>?_,λ_=>rfl⟩⟩
    exact⟨O,⟨A,r.2.1,by rw[hr];obtain⟨r1,r2,r3⟩:=r;simp only at S h0;rw[S,h0],hM⟩,C.2,C.1,C.2,λp I=>W p (by omega),w,hM.QD,λhc=>by rw[B.2 hc]at D;cases D⟩
   simp_all
theorem OT {t:Trace} (hS:Small t) (B:(cu t).length<1073741824):Wp (eA t) λb=>(b=true->VT t)/\(Ok t->b=true):=by
 unfold eA;rw[qp];exact(Ol hS B).mono λr hr=>(bl _).2 ⟨λh=>hr.1 (by grind),λh=>by grind⟩
end Go.VE
namespace Go.VE
def kJ (q:Int) (e:Event):Bool:=e.kind==2&&e.peer==q
end Go.VE
namespace Go.VE
end Go.VE
namespace Go.VE
def vG (t:Trace) (c:List Int):Prop:=c.length=t.procs.l.length/\∀(p:Nat) (a:Int) (P:bQ),c[p]? = some a->t.procs.l[p]? = some P->0<=a/\a<=P.events.l.length
def tc (t:Trace) (A:cI 200 bR) (c:List Int):Prop:=∀(p k:Nat) (e:Event) (a:Int),qI t p k e->c[p]? = some a->(k:Int)<a->e.kind=3->∃b,c[(ag A e.message).from_.proc.toNat]? = some b/\(ag A e.message).from_.index<=b
theorem Ox {t:Trace} (hV:VT t) {A:cI 200 bR} (hM:qF t (cu t) A) {p k:Nat} {e:Event} (J:qI t p k e) (hk:e.kind=3) :
 ∃(q j:Nat) (y:Event),qI t q j y/\y.kind=2/\y.message=e.message/\y.peer=p/\e.peer=q/\(ag A e.message).from_=⟨q,j+1⟩:=by
 have u:((⟨p,k+1⟩:aY),e)∈cu t:=eU.2 ⟨p,k,J,rfl⟩;have z:=(hM.rcv _ u hk).2;have C:=hV.formed _ u;simp only at z C;have B:0<=e.peer:=by
  rcases C with h|⟨_,h,_⟩
  .omega
  .exact h
 obtain⟨q,D⟩:∃q:Nat,e.peer=q:=⟨e.peer.toNat,by omega⟩
 rw[D]at z;obtain⟨j,y,w,h1,G,I⟩:=CO.1 z;have:=hM.snd (⟨q,j+1⟩,y) (eU.2 ⟨q,j,w,rfl⟩) h1;simp only at this;rw[G]at this;exact⟨q,j,y,w,h1,G,I,D,this⟩
end Go.VE
namespace Go.VE
def Code (t:Trace) (A:cI 200 bR) (c:List Int) (r:Int):Prop:=c.length≠t.procs.l.length/\r=1\/c.length=t.procs.l.length/\¬vG t c/\r=2\/vG t c/\¬tc t A c/\r=18\/vG t c/\tc t A c/\r=0
theorem Code.zero {t:Trace} {A:cI 200 bR} {c:List Int} {r:Int} (h:Code t A c r):r=0↔vG t c/\tc t A c:=by
 rcases h with⟨h,rfl⟩|⟨_,h,rfl⟩|⟨_,h,rfl⟩|⟨h1,w,rfl⟩
 .exact⟨λh=>(by cases h),λu=>absurd u.1.1 h⟩
 .exact⟨λh=>(by cases h),λu=>absurd u.1 h⟩
 .exact⟨λh=>(by cases h),λu=>absurd u.2 h⟩
 .exact⟨λ_=>⟨h1,w⟩,λ_=>rfl⟩
def Cons (t:Trace) (A:cI 200 bR) (c:List Int):Prop:=vG t c/\tc t A c
end Go.VE
namespace Go.VE
def places {α:Type} (f:α->Bool) (l:List α):List Nat:=(List.range l.length).filter λk=>match l[k]? with|some x=>f x|none=>false
end Go.VE
namespace Go.VE
end Go.VE
namespace Go.VE
def sR (kind m:Int) (x:aY×Event):Bool:=x.2.kind==kind&&x.2.message==m
def mJ (t:Trace) (kind m:Int):aY:=match (cu t).find? (sR kind m)with
 | some x=>x.1
 | none=>⟨0,0⟩
theorem Ki {t:Trace} {kind m:Int} {p:Nat} {P:bQ} (B:p<9223372036854775806) (hP:t.procs.l[p]? = some P) (D:P.events.l.length<1073741824):∀(q i:Nat),i+q=P.events.l.length ->
 bV (λq:Int=>dJ.cq kind m p t ⟨0,0⟩ q) (i:Int)=some (match (iI p i (P.events.l.drop i)).find? (sR kind m)with|some x=>.r x.1|none=>.x ()):=by
 have u:idx t.procs (p:Int)=some P:=by rw[jo];exact hP
 intro q
 induction q with
 | zero=>
  intro i hi;rw[eD];unfold dJ.cq;rw[u,ζb,show decide ((i:Int)<len P.events)=false from by simp[len];omega,bG,List.drop_of_length_le (by omega)]
  rfl
 | succ q z=>
  intro i hi;have w:i<P.events.l.length:=by omega
  rw[eD];have A:dJ.cq kind m p t ⟨0,0⟩ i=some (if sR kind m (⟨p,(i:Int)+1⟩,P.events.l[i])then .r ⟨p,(i:Int)+1⟩else .n ((i+1:Nat):Int)):=by
   unfold dJ.cq;rw[u,ζb,show decide ((i:Int)<len P.events)=true from by simp[len];omega,bH,ζb,bT w,ζb,oT,ζb,dG i (by omega),th]
   rfl
  rw[A,ζb,List.drop_eq_getElem_cons w];simp only[iI,List.find?_cons]
  cases C:sR kind m (⟨p,(i:Int)+1⟩,P.events.l[i])with
  | true=>rfl
  | false=>
   simp only[Bool.false_eq_true,if_false];exact z (i+1) (by omega)
theorem Lg {t:Trace} (hS:Small t) {kind m:Int}:∀(q p:Nat),p+q=t.procs.l.length ->
 bV (λq:Int=>dJ.bz kind m t ⟨0,0⟩ q) (p:Int)=some (match (fM p (t.procs.l.drop p)).find? (sR kind m)with|some x=>.r x.1|none=>.x ()):=by
 have h1:=hS.1;intro q
 induction q with
 | zero=>
  intro p w;rw[eD];unfold dJ.bz;rw[show decide ((p:Int)<len t.procs)=false from by simp[len];omega,bG,List.drop_of_length_le (by omega)]
  rfl
 | succ q z=>
  intro p w;have u:p<t.procs.l.length:=by omega
  have A:bV (λq:Int=>dJ.cq kind m p t ⟨0,0⟩ q) 0=some (match (iI p 0 t.procs.l[p].events.l).find? (sR kind m)with|some x=>.r x.1|none=>.x ()):=Ki (t:=t) (kind:=kind) (m:=m) (by omega) (ζd u) (hS.2 _ (List.getElem_mem u)).1 (t.procs.l[p].events.l.length) 0 (by omega)
  rw[eD];unfold dJ.bz;rw[show decide ((p:Int)<len t.procs)=true from by simp[len];omega,bH]
  unfold dJ.W2;rw[A,List.drop_eq_getElem_cons u];simp only[fM,List.find?_append]
  cases B:(iI p 0 t.procs.l[p].events.l).find? (sR kind m)with
  | some x=>rfl
  | none=>
   simp only[ζb,Fw.elim,Option.none_or];rw[dG p (by omega)]
   exact z (p+1) (by omega)
theorem find_eq {t:Trace} (hS:Small t) (kind m:Int):dJ t kind m=some (mJ t kind m):=by
 unfold dJ dJ.W1;have u:bV (λq:Int=>dJ.bz kind m t ⟨0,0⟩ q) 0=some (match (cu t).find? (sR kind m)with|some x=>.r x.1|none=>.x ()):=Lg hS (kind:=kind) (m:=m) t.procs.l.length 0 (by omega)
 rw[u];unfold mJ;cases (cu t).find? (sR kind m) <;> rfl
theorem Cg {t:Trace} {kind m:Int} {x:aY×Event} (h:(cu t).find? (sR kind m)=some x):x∈cu t/\x.2.kind=kind/\x.2.message=m/\mJ t kind m=x.1:=by
 have h1:=List.find?_some h;simp only[sR,ζh,beq_iff_eq]at h1;exact⟨List.mem_of_find?_eq_some h,h1.1,h1.2,by unfold mJ;rw[h]⟩
theorem Gj {t:Trace} {kind m:Int} {x:aY×Event} (B:x∈cu t) (hk:x.2.kind=kind) (D:x.2.message=m):∃y,(cu t).find? (sR kind m)=some y:=by
 cases u:(cu t).find? (sR kind m)with
 | some y=>exact⟨y,rfl⟩
 | none=>
  rw[List.find?_eq_none]at u;exact absurd (u x B) (by simp[sR,hk,D])
theorem QK {t:Trace} {p k:Nat} {e:Event} (h:qI t p k e) (hk:k<9223372036854775807):uc t ⟨p,k+1⟩=some e:=by
 obtain⟨P,hP,u⟩:=h;unfold uc;dsimp only;rw[show idx t.procs (p:Int)=some P from by rw[jo];exact hP,ζb,show IntKind.wrap .i64 ((k:Int)+1-1)=(k:Int)from by rw[gL _ (by omega) (by omega)];omega,show idx P.events (k:Int)=some e from by rw[jo];exact u]
 rfl
def vk (t:Trace) (x:aY×Event):Int:=if x.2.kind=1 then 0 else if mJ t x.2.kind x.2.message=x.1 then(if x.2.kind=3 then(if sy t x.2.peer x.2.message x.1.proc then 0 else 7)else 0)else 8
theorem MA {t:Trace} (hS:Small t) {p k:Nat} {e:Event} (h:qI t p k e) (U:kL t.procs.l.length p e):iy t ⟨p,k+1⟩=some (vk t (⟨p,k+1⟩,e)):=by
 have hk:k<1073741824:=by
  obtain⟨P,hP,T⟩:=h;have:=(hS.2 P (List.mem_of_getElem? hP)).1;have:=(ζe.1 T).1;omega
 unfold iy vk;rw[QK h (by omega),ζb]
 dsimp only
 by_cases h1:e.kind=1
 .rw[show (e.kind==1)=true from by simp[h1],bH,if_pos h1]
 .rw[show (e.kind==1)=false from by simp[h1],bG,if_neg h1,find_eq hS,ζb]
  have C:Jy (mJ t e.kind e.message) ⟨p,(k:Int)+1⟩=decide (mJ t e.kind e.message=⟨p,(k:Int)+1⟩):=by
   unfold Jy;rw[Bool.eq_iff_iff];cases mJ t e.kind e.message;simp
  rw[C]
  by_cases w:mJ t e.kind e.message=⟨p,(k:Int)+1⟩
  .rw[if_pos w,show decide (mJ t e.kind e.message=⟨p,(k:Int)+1⟩)=true from by simpa using w,bH]
   by_cases A:e.kind=3
   .rw[if_pos A,show (e.kind==3)=true from by simp[A],bH]
    have D:0<=e.peer/\e.peer<t.procs.l.length:=by
     rcases U with h|⟨_,h1,w,_⟩
     .exact absurd h h1
     .exact⟨h1,w⟩
    have L:e.peer.toNat<t.procs.l.length:=by omega
    have O:=ζd L;have W:=(hS.2 _ (List.getElem_mem L)).1;generalize X:t.procs.l[e.peer.toNat]=Q at *;have G:idx t.procs e.peer=some Q:=by rw[TV D.1];exact O
    have I:sy t e.peer e.message p=Q.events.l.any λs=>s.kind==2&&s.message==e.message&&s.peer==p:=by
     unfold sy;rw[O]
    unfold iy.W1;refine Wp.eq (gO (λz:Bool×Int=>∃m:Nat,z.2=m/\m<=Q.events.l.length/\z.1=(Q.events.l.take m).any λs=>s.kind==2&&s.message==e.message&&s.peer==p) (λz=>Q.events.l.length-z.2.toNat) ⟨0,rfl,Nat.zero_le _,rfl⟩ ?_)
    rintro⟨s,i⟩ ⟨m,hi,Y,B⟩;simp only at hi B;subst hi;unfold iy.bz;dsimp only;rw[G,ζb,dy];constructor
    .intro J;have u:m<Q.events.l.length:=by simpa [len]using J
     have S:=dG m (by omega)
     rw[ζb,bT u,ζb,oT,ζb,oT,ζb,mO,ζb,bl];refine⟨⟨m+1,S,by omega,?_⟩,by show _-(IntKind.wrap .i64 ((m:Int)+1)).toNat<_;rw[S];simp;omega⟩
     show (s||_)=_;rw[List.take_add_one,ζd u,List.any_append,B];simp
    .intro J;have u:Q.events.l.length<=m:=by simpa [len]using J
     rw[List.take_of_length_le u]at B;refine(bl _).2 ?_;rw[I,<-B];cases s
     .exact(bl _).2 rfl
     .exact(bl _).2 rfl
   .rw[if_neg A,show (e.kind==3)=false from by simp[A],bG]
  .rw[if_neg w,show decide (mJ t e.kind e.message=⟨p,(k:Int)+1⟩)=false from by simpa using w,bG]
theorem LG {t:Trace} (J:∀x∈cu t,kL t.procs.l.length x.1.proc x.2):(∀x∈cu t,vk t x=0)↔xU t:=by
 constructor
 .intro h;have key:∀x∈cu t,x.2.kind≠1->mJ t x.2.kind x.2.message=x.1:=λx u hk=>by
   have:=h x u;unfold vk at this;rw[if_neg hk]at this;split at this
   .assumption
   .cases this
  refine⟨λx u y w z A B=>?_,λx u y w z A B=>?_,λx u z=>?_⟩
  .rw[<-key x u (by omega),<-key y w (by omega),z,A,B]
  .rw[<-key x u (by omega),<-key y w (by omega),z,A,B]
  .have:=h x u;unfold vk at this;rw[if_neg (by omega),if_pos (key x u (by omega)),if_pos z]at this
   split at this
   .assumption
   .cases this
 .intro h x u;unfold vk
  by_cases k1:x.2.kind=1
  .rw[if_pos k1]
  .rw[if_neg k1];obtain⟨y,w⟩:=Gj u rfl rfl;obtain⟨D,G,y3,y4⟩:=Cg w;have hk:x.2.kind=2\/x.2.kind=3:=by
    rcases J x u with h|⟨h,_⟩
    .exact absurd h k1
    .exact h
   have I:mJ t x.2.kind x.2.message=x.1:=by
    rw[y4];rcases hk with hk|hk
    .exact h.snd y D x u (by rw[G,hk]) hk y3
    .exact h.rcv y D x u (by rw[G,hk]) hk y3
   rw[if_pos I]
   by_cases C:x.2.kind=3
   .rw[if_pos C,if_pos (h.has x u C)]
   .rw[if_neg C]
end Go.VE
namespace Go.VE
theorem DV {t:Trace} (D:∀x∈cu t,kL t.procs.l.length x.1.proc x.2) (hP:xU t) {z:aY} {f:Event} (B:(z,f)∈cu t) (hk:f.kind=3):∃e,(mJ t 2 f.message,e)∈cu t/\e.kind=2/\e.message=f.message:=by
 have h:=hP.has _ B hk;have C:0<=f.peer:=by
  rcases D _ B with h|⟨_,h,_⟩
  .grind
  simp_all
 rw[show f.peer=(f.peer.toNat:Nat)from by omega,CO]at h
 obtain⟨k,e,u,h1,w,_⟩:=h;obtain⟨y,A⟩:=Gj (eU.2 ⟨_,k,u,rfl⟩:(⟨(f.peer.toNat:Nat),k+1⟩,e)∈cu t) h1 w;obtain⟨G,I,y3,y4⟩:=Cg A
 grind
theorem GW.find {t:Trace} (D:∀x∈cu t,kL t.procs.l.length x.1.proc x.2) (hP:xU t) {y z:aY} {f:Event} (h:GW t y z) (B:(z,f)∈cu t):f.kind=3/\mJ t 2 f.message=y:=by
 obtain⟨e,I,h1,w,A,u,J⟩:=h;cases BT w B rfl;obtain⟨L,C,G,O⟩:=DV D hP B u;exact⟨u,hP.snd _ C _ h1 G A (by simp_all)⟩
theorem A8 {t:Trace} (hS:Small t) (D:∀x∈cu t,kL t.procs.l.length x.1.proc x.2) (hP:xU t) {z:aY} (B:Vd t z) :
 Wp (dH t z) λs=>s.l.length<=2/\∀y,y∈s.l↔Edge t y z:=by
 obtain⟨p,k,f,w,rfl,u⟩:=B.at_;have hk:k<1073741824:=by
  obtain⟨P,hP,G⟩:=w;have:=(hS.2 P (List.mem_of_getElem? hP)).1
  grind
 have j:∀s:Sl aY,s.l.length<=1->(∀y,y∈s.l↔Vd t y/\(⟨p,k+1⟩:aY)=⟨y.proc,y.index+1⟩)->Wp (dH.J1 s t ⟨p,k+1⟩) λs=>s.l.length<=2/\∀y,y∈s.l↔Edge t y ⟨p,k+1⟩:=by
  intro s S A;unfold dH.J1;rw[QK w (by omega),ζb,dy]
  constructor
  .intro C;have C:f.kind=3:=by grind
   rw[find_eq hS,ζb];unfold jr;rw[if_pos (by omega),ζb,bl]
   refine⟨by show (s.l++[_]).length<=2;grind,λy=>?_⟩
   show y∈s.l++[mJ t 2 f.message]↔_;rw[List.mem_append,List.mem_singleton,A];obtain⟨e,J,L,O⟩:=DV D hP u C;constructor
   .rintro (h|rfl)
    .exact⟨h.1,B,.inl h.2⟩
    .exact⟨⟨e,J⟩,B,.inr ⟨e,f,J,u,L,C,O⟩⟩
   .rintro⟨h1,_,h2|h2⟩
    .grind
    .exact .inr (h2.find D hP u).2.symm
  .intro C;refine(bl _).2 ⟨by omega,λy=>(A y).trans ⟨λh=>⟨h.1,B,.inl h.2⟩,λ⟨h1,_,h2⟩=>⟨h1,h2.elim id λh2=>?_⟩⟩⟩
   have:=(h2.find D hP u).1
   grind
 unfold dH;rw[dy];constructor
 .intro h;have h:k+1>1:=by grind
  refine j _ (by simp[Sl.l]) λy=>?_
  have Q:IntKind.wrap .i64 (k+1-1)=k:=by rw[gL _ (by omega) (by omega)];omega
  simp only[Sl.l,List.mem_singleton,Q,aY.mk.injEq];constructor
  .rintro rfl;obtain⟨P,hP,G⟩:=w;have:=(ζe.1 G).1;exact⟨⟨P.events.l[k-1],eU.2 ⟨p,k-1,⟨P,hP,ζd (by omega)⟩,by simp;omega⟩⟩,rfl,rfl⟩
  simp_all
 .intro h;refine j _ (by simp[Sl.l]) λy=>⟨λI=>by simp[Sl.l]at I,λ⟨I,G⟩=>?_⟩
  obtain⟨q,i,f,_,rfl,_⟩:=I.at_
  grind
theorem Ur {α:Type} {r:α->α->Prop} {x:α} (h:Acc r x):¬Relation.TransGen r x x:=by
 induction h with
 | intro x _ u=>
  intro h
  cases h with
  | single h=>exact u x h (.single h)
  | tail h1 w=>exact u _ w (Relation.TransGen.trans (.single w) h1)
theorem Jz:∀{d:List Nat} {i k:Nat},d[i]? = some k->(d.set i (k+1)).sum=d.sum+1
 | [],_,_,h=>by simp_all
 | x::d,0,k,h=>by grind
 | x::d,i+1,k,h=>by
  have:=Jz (d:=d) (i:=i) (k:=k) (by grind)
  grind
theorem Nf:∀{d l:List Nat},d.length=l.length->(∀(i a b:Nat),d[i]? = some a->l[i]? = some b->a<=b)->d.sum<=l.sum
 | [],_,_,_=>by simp
 | x::d,[],h,_=>by simp_all
 | x::d,y::l,h,B=>by
  have h1:=B 0 x y rfl rfl;have u:=Nf (d:=d) (l:=l) (by grind) λi a b w z=>B (i+1) a b (by grind) (by grind)
  simp;omega
def nI (d:List Nat):List Int:=d.map Int.ofNat
def sI (s:Sl Int):Nat:=(s.l.map Int.toNat).sum
theorem FL (d:List Nat):sI (.row (nI d))=d.sum:=by
 unfold sI nI;rw[show (Sl.row (d.map Int.ofNat)).l=d.map Int.ofNat from rfl,List.map_map,show (Int.toNat ∘ Int.ofNat)=id from rfl,List.map_id]
theorem Nd (d:List Nat):(nI d).length=d.length:=by simp[nI]
structure Kh (t:Trace) (d:List Nat):Prop where
 len:d.length=t.procs.l.length
 le:∀(p k:Nat) P,d[p]? = some k->t.procs.l[p]? = some P->k<=P.events.l.length
 acc:∀(p k j:Nat),d[p]? = some k->j<k->Acc (Edge t) ⟨p,j+1⟩
def vP (t:Trace):Nat:=(t.procs.l.map λP=>P.events.l.length).sum
theorem Kh.sum {t:Trace} {d:List Nat} (h:Kh t d):d.sum<=vP t:=Nf (by simp[h.len]) λi a b w u=>by
 cases hP:t.procs.l[i]? with
 | none=>grind
 | some P=>simp[hP]at u;rw[<-u];exact h.le i a P w hP
theorem Dj {d:List Nat} {p:Nat} (h:p<d.length):Sl.oC (.row (nI d)) (p:Int)=some p:=by
 unfold Sl.oC;rw[if_pos ⟨by omega,by simpa [Sl.l,Nd]using h⟩];rfl
theorem zH {d:List Nat} {p k:Nat} (h:d[p]? = some k):Sl.get (.row (nI d)) p=some (k:Int):=by
 unfold Sl.get nI;rw[show (Sl.row (d.map Int.ofNat)).l=d.map Int.ofNat from rfl,List.getElem?_map,h];rfl
def Mv (t:Trace) (B:List Nat) (s:Sl Int) (b:Bool) (d:List Nat):Prop:=s=.row (nI d)/\Kh t d/\B.sum<=d.sum/\(b=true->B.sum<d.sum)
def KQ (t:Trace) (B:List Nat) (p:Nat) (w:Fw (Sl Int×Bool×Int) (Sl Int×Bool) Empty):Prop:=∃u z A,w=.n (u,z,((p+1:Nat):Int))/\Mv t B u z A
theorem R4 {t:Trace} (hS:Small t) (hF:∀x∈cu t,kL t.procs.l.length x.1.proc x.2) (hP:xU t) {B d1:List Nat} {s:Sl Int} {b:Bool} {p:Nat} (hp:p<t.procs.l.length) (hM:Mv t B s b d1) :
 Wp (ec.W3 s b p t) (KQ t B p):=by
 have X:=bT hp;have hn:=hS.1;have af:=(hS.2 _ (List.getElem_mem hp)).1;have C:=ζd hp;generalize t.procs.l[p]=P at *;refine gO (λq:Sl Int×Bool=>∃d,Mv t B q.1 q.2 d) (λq=>vP t-sI q.1) ⟨d1,hM⟩ ?_
 rintro⟨s,b⟩ ⟨d,rfl,u,hd,hb⟩;have w:p<d.length:=by rw[u.len];omega
 have hg:=ζd w;generalize d[p]=k at hg;have ah:=u.le p k P hg C;have stop:∀{U:Empty->Prop},Wp (some (Fw.x (Sl.row (nI d),b))) (QU (λq:Sl Int×Bool=>∃d,Mv t B q.1 q.2 d) (λq=>vP t-sI q.1) (λe=>Wp (some (Fw.n (e.1,e.2,IntKind.wrap .i64 (p+1)))) (KQ t B p)) U (Sl.row (nI d),b)):=by
  refine(bl _).2 ((bl _).2 ⟨_,_,d,?_,rfl,u,hd,hb⟩);rw[dG p (by omega)]
 unfold ec.eW;rw[Dj w,ζb,zH hg,ζb,X,ζb,dy];refine⟨λh=>?_,λ_=>stop⟩
 have D:k<P.events.l.length:=by grind
 have Y:qI t p k P.events.l[k]:=⟨P,C,ζd D⟩;have z:(⟨p,k+1⟩,P.events.l[k])∈cu t:=eU.2 ⟨p,k,Y,rfl⟩;have go:(P.events.l[k].kind=3->∀q j:Nat,mJ t 2 P.events.l[k].message=⟨q,j+1⟩->∃W,d[q]? = some W/\j<W)->∀{px:Sl Int×Bool->Prop} {U:Empty->Prop},Wp (ec.J4 (.row (nI d)) p t) (QU (λq:Sl Int×Bool=>∃d,Mv t B q.1 q.2 d) (λq=>vP t-sI q.1) px U (Sl.row (nI d),b)):=by
  intro hq px U;unfold ec.J4;rw[Dj w,ζb,zH hg,ζb,ζb];unfold Sl.put;rw[if_pos (by simpa [Sl.l,Nd]using w),ζb,bl]
  have G:(nI d).set p (IntKind.wrap .i64 ((k:Int)+1))=nI (d.set p (k+1)):=by
   rw[dG k (by omega)];unfold nI;simp_all
  have I:=Jz hg;have J:Kh t (d.set p (k+1)):=by
   refine⟨by simp[u.len],λq i Q hi Z=>?_,λq i j hi hj=>?_⟩
   .rw[List.getElem?_set]at hi;split at hi
    .grind
    .exact u.le q i Q hi Z
   .rw[List.getElem?_set]at hi;split at hi
    .rename_i e;subst e;cases hi
     by_cases aa:j<k
     .exact u.acc p k j hg aa
     .have:j=k:=by omega
      subst this;refine Acc.intro _ λy hy=>?_
      obtain⟨L,_,he|he⟩:=hy
      .obtain⟨q,i,f,_,rfl,_⟩:=L.at_;simp[aY.mk.injEq]at he;have e1:q=p:=by omega
       subst e1;exact u.acc q j i hg (by omega)
      .obtain⟨A,hf⟩:=he.find hF hP z;obtain⟨q,i,f,_,rfl,_⟩:=L.at_;obtain⟨W,ab,ad⟩:=hq A q i hf;exact u.acc q W i ab ad
    .exact u.acc q i j hi hj
  have ai:=J.sum;refine⟨⟨_,by grind,J,by grind,λ_=>by grind⟩,?_⟩
  show vP t-sI (.row ((nI d).set p (IntKind.wrap .i64 ((k:Int)+1))))<vP t-sI (.row (nI d));rw[G,FL,FL,I]
  grind
 dsimp only;rw[ζb,ζb,zH hg,ζb,bT D,ζb,dy];refine⟨λA=>?_,λA=>go λh=>by simp[h]at A⟩
 have A:P.events.l[k].kind=3:=by simpa using A
 obtain⟨e,a1,a2,a3⟩:=DV hF hP z A;obtain⟨q,j,O,S⟩:=eU.1 a1;simp only at S;have T:q<d.length:=by
  obtain⟨Q,Z,_⟩:=O;rw[u.len];exact(ζe.1 Z).1
 have ae:=ζd T;rw[find_eq hS,ζb,S,Dj T,ζb,zH ae,ζb,dy];refine⟨λ_=>stop,λh=>go λ_ q' j' hh=>?_⟩
 grind
theorem Kc {t:Trace} (hS:Small t) (J:∀x∈cu t,kL t.procs.l.length x.1.proc x.2) (hP:xU t):Wp (ec t) λb=>b=true->¬Ju t:=by
 have hn:=hS.1;unfold ec uJ;rw[if_pos (by grind),ζb]
 have h0:(Sl.row (List.replicate (len t.procs).toNat 0))=.row (nI (List.replicate t.procs.l.length 0)):=by simp[nI]
 rw[h0];refine gO (λs:Sl Int=>∃d,s=.row (nI d)/\Kh t d) (λs=>vP t-sI s) ⟨_,rfl,by simp,λp k P h _=>by grind,λp k j h hj=>by grind⟩ ?_
 rintro s ⟨B,rfl,L⟩;refine gO (λq:Sl Int×Bool×Int=>∃(n:Nat) (d:List Nat),q.2.2=n/\n<=t.procs.l.length/\Mv t B q.1 q.2.1 d) (λq=>t.procs.l.length-q.2.2.toNat) ⟨0,B,rfl,Nat.zero_le _,rfl,L,Nat.le_refl _,by simp⟩ ?_
 rintro⟨s,b,i⟩ ⟨n,d,hi,O,hM⟩;subst hi;unfold ec.cq;rw[dy];constructor
 .intro h;have u:n<t.procs.l.length:=by grind
  refine(R4 hS J hP u hM).mono ?_;rintro w ⟨s',b',Q,rfl,C⟩;exact⟨⟨n+1,Q,rfl,by omega,C⟩,by simp;omega⟩
 .intro _;obtain⟨rfl,z,S,D⟩:=hM;rw[bl];show Wp (a_ b _ _) _;rw[dy];refine⟨λT=>(bl _).2 ⟨⟨d,rfl,z⟩,?_⟩,λ_=>(bl _).2 ?_⟩
  .show vP t-sI (.row (nI d))<vP t-sI (.row (nI B));rw[FL,FL];have:=D T;have:=z.sum;omega
  .refine gO (λi:Int=>∃n:Nat,i=n/\n<=t.procs.l.length/\∀p,p<n->∀P,t.procs.l[p]? = some P->d[p]? = some P.events.l.length) (λi:Int=>t.procs.l.length-i.toNat) ⟨0,rfl,Nat.zero_le _,λp G=>absurd G (by omega)⟩ ?_
   rintro i ⟨n,rfl,U,W⟩;unfold ec.xY;rw[dy];constructor
   .intro h;have u:n<t.procs.l.length:=by grind
    have A:n<d.length:=by rw[z.len];omega
    have hg:=ζd A;rw[Dj A,ζb,zH hg,ζb,bT u,ζb,dy];refine⟨λ_=>(bl _).2 ((bl _).2 λh=>by cases h),λh=>(bl _).2 ⟨⟨n+1,dG n (by omega),by omega,λp G P hP=>?_⟩,by rw[dG n (by omega)];simp;omega⟩⟩
    by_cases e:p=n
    .subst e;rw[ζd u]at hP;have:=z.le p _ _ hg (ζd u)
     grind
    grind
   .intro h;have X:t.procs.l.length<=n:=by grind
    refine(bl _).2 ((bl _).2 λ_ ⟨x,I⟩=>?_)
    obtain⟨p,k,e,⟨P,hP,Y⟩,rfl,_⟩:=I.l.at_;have Z:=(ζe.1 hP).1;exact Ur (z.acc p _ k (W p (by omega) P hP) (ζe.1 Y).1) I
end Go.VE
namespace Go.VE
def qA (out:List (List Bool)) (y:aY):Bool:=match out[y.proc.toNat]? with
 | some row=>row[y.index.toNat]?.getD false
 | none=>false
theorem Ag {t:Trace} {out:List (List Bool)} {p k:Nat} {row:List Bool} (hr:out[p]? = some row) (hk:k+1<row.length) {z:aY} (B:Vd t z) :
 qA (out.set p (row.set (k+1) true)) z=(decide (z=⟨p,k+1⟩)||qA out z):=by
 obtain⟨q,j,e,_,rfl,_⟩:=B.at_;have A:=(ζe.1 hr).1;unfold qA;have e1:(⟨(q:Int),(j:Int)+1⟩:aY).proc.toNat=q:=rfl;have e2:(⟨(q:Int),(j:Int)+1⟩:aY).index.toNat=j+1:=by show ((j:Int)+1).toNat=j+1;omega
 rw[e1,e2,List.getElem?_set]
 by_cases u:p=q
 .subst u;rw[if_pos rfl,if_pos A,hr];dsimp only;rw[List.getElem?_set]
  by_cases w:k=j
  .subst w;simp[hk]
  .rw[if_neg (by omega),show decide ((⟨(p:Int),(j:Int)+1⟩:aY)=⟨p,k+1⟩)=false from by simp;omega,Bool.false_or]
 .rw[if_neg u,show decide ((⟨(q:Int),(j:Int)+1⟩:aY)=⟨p,k+1⟩)=false from by simp;omega,Bool.false_or]
theorem zW {α:Type} {f g:α->Bool}:∀{l:List α},(∀z∈l,f z=true->g z=true)->(∃z∈l,f z=false/\g z=true)->l.countP f<l.countP g
 | [],_,⟨z,hz,_⟩=>by simp at hz
 | a::l,h,⟨z,hz,B,hg⟩=>by
  simp only[List.countP_cons];have D:=List.countP_mono_left (l:=l) (p:=f) (q:=g) λx u=>h x (List.mem_cons_of_mem _ u)
  rcases List.mem_cons.1 hz with rfl|hz
  .simp[B,hg];omega
  .have:=zW (l:=l) (λx u=>h x (List.mem_cons_of_mem _ u)) ⟨z,hz,B,hg⟩
   have h1:=h a (List.mem_cons_self ..)
   cases w:f a with
   | true=>simp[h1 w];omega
   | false=>simp;split <;> omega
def cnt (t:Trace) (out:List (List Bool)):Nat:=(cu t).countP λz=>qA out z.1
structure V1 (t:Trace) (x:aY) (out:List (List Bool)) (rest:List aY):Prop where
 shp:∀(p:Nat) P,t.procs.l[p]? = some P->∃row,out[p]? = some row/\row.length=P.events.l.length+1
 len:out.length=t.procs.l.length
 que:∀y∈rest,Way t y x
 snd:∀y,Vd t y->qA out y=true->Way t y x
 cls:∀z,z=x\/Vd t z/\qA out z=true->∀y,Edge t y z->qA out y=true\/y∈rest
 le:rest.length<=2*cnt t out+2
theorem Bk {t:Trace} {y:aY}:qA (gE t) y=false:=by
 unfold qA gE;split
 .rename_i row h;rw[List.getElem?_map]at h
  cases hP:t.procs.l[y.proc.toNat]? with
  | none=>simp[hP]at h
  | some P=>
   simp[hP]at h;subst h;rw[List.getElem?_replicate];split <;> rfl
 .rfl
theorem Rs {t:Trace} (hS:Small t) (hN:(cu t).length<1073741824) (hF:∀x∈cu t,kL t.procs.l.length x.1.proc x.2) (hP:xU t) {x:aY} (hx:Vd t x) :
 Wp (mY t x) λs=>∃out,s=nested out/\V1 t x out []/\∀y,Vd t y->(qA out y=true↔Way t y x):=by
 unfold mY;rw[if_pos (by
  unfold Ak;simp only[ζh,List.all_eq_true,decide_eq_true_eq];exact⟨by have:=hS.1;omega,λP hP=>by have:=(hS.2 P hP).1;omega⟩),qp]
 refine(A8 hS hF hP hx).mono λs T=>?_
 refine gO (λq:List (List Bool)×List aY=>V1 t x q.1 q.2) (λq=>2*((cu t).length-cnt t q.1)+q.2.length) ⟨λp P hP=>⟨List.replicate (P.events.l.length+1) false,by simp[gE,hP],by simp⟩,by simp[gE],λy B=>.single ((T.2 y).1 B),λy _ h=>(by rw[Bk]at h;cases h),λz hz y B=>?_,by have:=T.1;show s.l.length<=2*cnt t (gE t)+2;omega⟩ ?_
 .rcases hz with rfl|⟨_,h⟩
  .exact .inr ((T.2 y).2 B)
  .rw[Bk]at h;cases h
 rintro⟨out,rest⟩ u
 cases rest with
 | nil=>
  show Wp (some _) _;refine(bl _).2 ((bl _).2 ⟨out,rfl,u,λy B=>⟨u.snd y B,λC=>?_⟩⟩)
  have key:∀w,Way t y w->w=x\/Vd t w/\qA out w=true->qA out y=true:=λw C=>by
   induction C with
   | single h=>exact λC=>(u.cls _ C _ h).elim id λh=>by cases h
   | tail ab I ih=>exact λC=>ih (.inr ⟨I.1,(u.cls _ C _ I).elim id λh=>by cases h⟩)
  exact key x C (.inl rfl)
 | cons y rest=>
  have D:=u.que y (List.mem_cons_self ..);have G:=D.l;obtain⟨p,k,e,U,rfl,J⟩:=G.at_;obtain⟨P,L,hk⟩:=U;have ad:=(ζe.1 hk).1;obtain⟨row,hr,W⟩:=u.shp p P L;have A:k+1<row.length:=by omega
  show Wp (og _ (out,⟨p,k+1⟩::rest)) _;unfold og;have e2:((k:Int)+1).toNat=k+1:=by omega
  dsimp only;rw[if_pos ⟨by omega,by omega⟩,show ((p:Nat):Int).toNat=p from rfl,e2,hr,ζb,ζd A,ζb,dy]
  have O:qA out ⟨p,k+1⟩=row[k+1]:=by
   unfold qA;rw[show ((⟨(p:Int),(k:Int)+1⟩:aY).proc).toNat=p from rfl,hr];dsimp only;rw[e2,ζd A];rfl
  constructor
  .intro X;rw[bl];refine⟨⟨u.shp,u.len,λy B=>u.que y (List.mem_cons_of_mem _ B),u.snd,λz hz y B=>?_,by have:=u.le;simp only[List.length_cons]at this;show rest.length<=2*cnt t out+2;omega⟩,Nat.add_lt_add_left (Nat.lt_succ_self _) _⟩
   rcases u.cls z hz y B with h|h
   .exact .inl h
   .rcases List.mem_cons.1 h with rfl|h
    .exact .inl (by rw[O];exact X)
    .exact .inr h
  .intro X;rw[qp];refine(A8 hS hF hP G).mono λmore Y=>?_
   have Z:=u.le;simp only[List.length_cons]at Z;have ae:cnt t out<=(cu t).length:=List.countP_le_length;have af:=Y.1;have ah:cnt t out<cnt t (out.set p (row.set (k+1) true)):=zW (λz hz h=>by rw[Ag hr A ⟨_,hz⟩,h,Bool.or_true]) ⟨_,J,by rw[O,X],by rw[Ag hr A G];simp⟩
   have aa:cnt t (out.set p (row.set (k+1) true))<=(cu t).length:=List.countP_le_length;rw[if_pos (by omega),bl]
   refine⟨⟨λq Q hQ=>?_,by show (out.set _ _).length=_;rw[List.length_set];exact u.len,λz hz=>?_,λz hz h=>?_,λz hz y B=>?_,by show (rest++more.l).length<=_;rw[ζi];show _<=2*cnt t (out.set p (row.set (k+1) true))+2;omega⟩,?_⟩
   .show ∃r,(out.set p (row.set (k+1) true))[q]? = some r/\_;rw[List.getElem?_set];split
    .rename_i e;subst e;rw[if_pos (ζe.1 hr).1];rw[L]at hQ;cases hQ;exact⟨_,rfl,by simp[W]⟩
    .exact u.shp q Q hQ
   .rcases List.mem_append.1 hz with hz|hz
    .exact u.que z (List.mem_cons_of_mem _ hz)
    .exact .trans (.single ((Y.2 z).1 hz)) D
   .show Way t z x;have h:qA (out.set p (row.set (k+1) true)) z=true:=h;rw[Ag hr A hz]at h;simp only[Bool.or_eq_true,decide_eq_true_eq]at h;rcases h with rfl|h
    .exact D
    .exact u.snd z hz h
   .show qA (out.set p (row.set (k+1) true)) y=true\/y∈rest++more.l;rw[Ag hr A B.1];have old:z=x\/Vd t z/\qA out z=true->(decide (y=⟨p,k+1⟩)||qA out y)=true\/y∈rest++more.l:=λhz=>by
     rcases u.cls z hz y B with h|h
     .exact .inl (by rw[show qA out y=true from h,Bool.or_true])
     .rcases List.mem_cons.1 h with rfl|h
      .exact .inl (by simp)
      .exact .inr (List.mem_append_left _ h)
    rcases hz with hz|⟨S,hz⟩
    .exact old (.inl hz)
    .have hz:qA (out.set p (row.set (k+1) true)) z=true:=hz;rw[Ag hr A S]at hz;simp only[Bool.or_eq_true,decide_eq_true_eq]at hz;rcases hz with rfl|hz
     .exact .inr (List.mem_append_right _ ((Y.2 y).2 B))
     .exact old (.inr ⟨S,hz⟩)
   .show 2*((cu t).length-cnt t (out.set p (row.set (k+1) true)))+(rest++more.l).length<2*((cu t).length-cnt t out)+(_::rest).length;rw[ζi,List.length_cons];omega
theorem Vu {t:Trace} (hS:Small t) (W:(cu t).length<1073741824) (Y:∀x∈cu t,kL t.procs.l.length x.1.proc x.2) (hP:xU t):Wp (cR.W6 0 t ⟨0,0⟩) λr=>(r.2=0↔¬Ju t):=by
 have hn:=hS.1;unfold cR.W6;refine gO (λi:Int=>∃n:Nat,i=n/\n<=t.procs.l.length/\∀(p k:Nat) e,p<n->qI t p k e->¬Way t ⟨p,k+1⟩ ⟨p,k+1⟩) (λi:Int=>t.procs.l.length-i.toNat) ⟨0,rfl,Nat.zero_le _,λp k e O=>absurd O (by omega)⟩ ?_
 rintro i ⟨n,rfl,X,S⟩;unfold cR.Jx;rw[dy];constructor
 .intro h;have w:n<t.procs.l.length:=by simpa [len]using h
  have D:=bT w;have z:=ζd w;have Z:=(hS.2 _ (List.getElem_mem w)).1;generalize t.procs.l[n]=P at *;unfold cR.W7;refine gO (λi:Int=>∃m:Nat,i=m/\m<=P.events.l.length/\∀k,k<m->¬Way t ⟨n,k+1⟩ ⟨n,k+1⟩) (λi:Int=>P.events.l.length-i.toNat) ⟨0,rfl,Nat.zero_le _,λk hk=>absurd hk (by omega)⟩ ?_
  rintro i ⟨m,rfl,hm,hk⟩;unfold cR.Jf;rw[D,ζb,dy];constructor
  .intro h;have G:m<P.events.l.length:=by simpa [len]using h
   have I:=dG m (by omega)
   have hv:Vd t ⟨n,m+1⟩:=⟨P.events.l[m],eU.2 ⟨n,m,⟨P,z,ζd G⟩,rfl⟩⟩;rw[I,show (((m+1:Nat)):Int)=(m:Int)+1 from by simp,qp]
   refine(Rs hS W Y hP hv).mono ?_;rintro s ⟨out,rfl,hI,A⟩;obtain⟨row,hr,aa⟩:=hI.shp n P z;have J:out≠[]:=by rintro rfl;cases hr
   have B:m+1<row.length:=by omega
   have h1:idx (nested out) (n:Int)=some (.row row):=by
    unfold nested;rw[if_neg J,jo];show (out.map Sl.row)[n]? = _;rw[List.getElem?_map,hr];rfl
   have h2:idx (Sl.row row) ((m:Int)+1)=some row[m+1]:=by
    rw[show (m:Int)+1=((m+1:Nat):Int)from by simp]
    exact bT (s:=Sl.row row) B
   rw[h1,ζb,h2,ζb,dy];have hb:row[m+1]=qA out ⟨n,m+1⟩:=by
    unfold qA;rw[show ((⟨(n:Int),(m:Int)+1⟩:aY).proc).toNat=n from rfl,hr];dsimp only;rw[show ((m:Int)+1).toNat=m+1 from by omega,ζd B];rfl
   rw[hb];refine⟨λC=>(bl _).2 ((bl _).2 ((bl _).2 ⟨λh=>(by cases h),λh=>absurd ⟨_,(A _ hv).1 C⟩ h⟩)),λC=>(bl _).2 ⟨⟨m+1,by simp,by omega,λk ab=>?_⟩,by simp;omega⟩⟩
   by_cases e:k=m
   .subst e;exact λI=>by rw[(A _ hv).2 I]at C;cases C
   .exact hk k (by omega)
  .intro h;have L:P.events.l.length<=m:=by simpa [len]using h
   refine(bl _).2 ((bl _).2 ⟨⟨n+1,dG n (by omega),by omega,λp k e O u=>?_⟩,by rw[dG n (by omega)];simp;omega⟩)
   by_cases e:p=n
   .subst e;obtain⟨Q,T,he⟩:=u;rw[z]at T;cases T;have:=(ζe.1 he).1;exact hk k (by omega)
   .exact S p k _ (by omega) u
 .intro h;have L:t.procs.l.length<=n:=by simpa [len]using h
  refine(bl _).2 ((bl _).2 ⟨λ_ ⟨x,U⟩=>?_,λ_=>rfl⟩)
  obtain⟨p,k,e,u,rfl,_⟩:=U.l.at_;obtain⟨P,hP,_⟩:=id u;exact S p k e (by have:=(ζe.1 hP).1;omega) u U
end Go.VE
namespace Go.VE
theorem HX {t:Trace} (B:∀x∈cu t,kL t.procs.l.length x.1.proc x.2):(∀(p k:Nat) e,qI t p k e->vk t (⟨p,k+1⟩,e)=0)↔xU t:=
 Iff.trans ⟨λh x w=>by obtain⟨p,k,h1,u⟩:=eU.1 w;obtain⟨a,e⟩:=x;simp only at h1 u;rw[u];exact h p k e h1,λh p k e z=>h _ (eU.2 ⟨p,k,z,rfl⟩)⟩ (LG B)
theorem M3 {t:Trace} (hS:Small t) (hN:(cu t).length<1073741824):Wp (cR t) λr=>(r.2=0↔Ok t):=by
 have hn:=hS.1;unfold cR;rw[mO,ζb,dy];refine⟨λJ=>(bl _).2 ⟨λh=>(by cases h),λh=>?_⟩,λJ=>?_⟩
 .have h1:=h.one;have Z:=h.few;simp only[Bool.or_eq_true,decide_eq_true_eq,len]at J;omega
 have Z:1<=t.procs.l.length/\t.procs.l.length<=8:=by
  simp only[Bool.or_eq_false_iff,decide_eq_false_iff_not,len]at J;omega
 unfold cR.W1;refine gO (λi:Int=>∃n:Nat,i=n/\n<=t.procs.l.length/\∀p,p<n->rV t p=0) (λi:Int=>t.procs.l.length-i.toNat) ⟨0,rfl,Nat.zero_le _,λp D=>absurd D (by omega)⟩ ?_
 rintro i ⟨n,rfl,ad,hh⟩;unfold cR.bz;rw[dy];constructor
 .intro h;have w:n<t.procs.l.length:=by simpa [len]using h
  rw[PB hS w,ζb,dy];refine⟨λh0=>(bl _).2 ⟨⟨n+1,dG n (by omega),by omega,λp D=>?_⟩,by rw[dG n (by omega)];simp;omega⟩,λh0=>(bl _).2 ((bl _).2 ⟨λh=>?_,λh=>?_⟩)⟩
  .by_cases e:p=n
   .subst e;simpa using h0
   .exact hh p (by omega)
  .simp only at h;simp[h]at h0
  .simp[h.heads n w]at h0
 intro h;have ae:t.procs.l.length<=n:=by simpa [len]using h
 rw[bl];unfold cR.W2;refine gO (λi:Int=>∃n:Nat,i=n/\n<=t.procs.l.length/\∀(p k:Nat) P e,p<n->t.procs.l[p]? = some P->P.events.l[k]? = some e->ni t.procs.l.length P p k e=0) (λi:Int=>t.procs.l.length-i.toNat) ⟨0,rfl,Nat.zero_le _,λp k P e D=>absurd D (by omega)⟩ ?_
 rintro i ⟨G,rfl,ab,T⟩;unfold cR.cq;rw[dy];constructor
 .intro h;have w:G<t.procs.l.length:=by simpa [len]using h
  have C:=bT w;have A:=ζd w;have L:=(hS.2 _ (List.getElem_mem w)).1;generalize t.procs.l[G]=P at C A L;unfold cR.W3;refine gO (λi:Int=>∃m:Nat,i=m/\m<=P.events.l.length/\∀(k:Nat) e,k<m->P.events.l[k]? = some e->ni t.procs.l.length P G k e=0) (λi:Int=>P.events.l.length-i.toNat) ⟨0,rfl,Nat.zero_le _,λk e hk=>absurd hk (by omega)⟩ ?_
  rintro i ⟨m,rfl,hm,hk⟩;unfold cR.eW;rw[C,ζb,dy];constructor
  .intro h;have O:m<P.events.l.length:=by simpa [len]using h
   have B:=ζd O;have Y:=dG m (by omega)
   rw[P0 hS A B,ζb,dy];refine⟨λh0=>(bl _).2 ⟨⟨m+1,Y,by omega,λk e aa u=>?_⟩,by rw[Y];simp;omega⟩,λh0=>(bl _).2 ((bl _).2 ((bl _).2 ⟨λh=>?_,λh=>?_⟩))⟩
   .by_cases ek:k=m
    .subst ek;rw[B]at u;cases u;simpa using h0
    .exact hk k e (by omega) u
   .simp only at h;simp[h]at h0
   .simp[h.eZ G m P _ A B]at h0
  .intro h;have I:P.events.l.length<=m:=by simpa [len]using h
   refine(bl _).2 ((bl _).2 ⟨⟨G+1,dG G (by omega),by omega,λp k Q e D S u=>?_⟩,by rw[dG G (by omega)];simp;omega⟩)
   by_cases ep:p=G
   .subst ep;rw[A]at S;cases S;exact hk k e (by have:=(ζe.1 u).1;omega) u
   .exact T p k Q e (by omega) S u
 intro h;have I:t.procs.l.length<=G:=by simpa [len]using h
 have T:∀(p k:Nat) P e,t.procs.l[p]? = some P->P.events.l[k]? = some e->ni t.procs.l.length P p k e=0:=λp k P e hP hk=>T p k P e (by have:=(ζe.1 hP).1;omega) hP hk
 have U:=D_ T;rw[bl];unfold cR.W4;refine gO (λi:Int=>∃n:Nat,i=n/\n<=t.procs.l.length/\∀(p k:Nat) e,p<n->qI t p k e->vk t (⟨p,k+1⟩,e)=0) (λi:Int=>t.procs.l.length-i.toNat) ⟨0,rfl,Nat.zero_le _,λp k e D=>absurd D (by omega)⟩ ?_
 rintro i ⟨q,rfl,hq,W⟩;unfold cR.JC;rw[dy];constructor
 .intro h;have w:q<t.procs.l.length:=by simpa [len]using h
  have C:=bT w;have A:=ζd w;have L:=(hS.2 _ (List.getElem_mem w)).1;generalize t.procs.l[q]=P at C A L;unfold cR.W5;refine gO (λi:Int=>∃m:Nat,i=m/\m<=P.events.l.length/\∀(k:Nat) e,k<m->P.events.l[k]? = some e->vk t (⟨q,k+1⟩,e)=0) (λi:Int=>P.events.l.length-i.toNat) ⟨0,rfl,Nat.zero_le _,λk e hk=>absurd hk (by omega)⟩ ?_
  rintro i ⟨m,rfl,hm,hk⟩;unfold cR.xY;rw[C,ζb,dy];constructor
  .intro h;have O:m<P.events.l.length:=by simpa [len]using h
   have B:=ζd O;have Y:=dG m (by omega)
   have z:qI t q m P.events.l[m]:=⟨P,A,B⟩;rw[Y,show (((m+1:Nat)):Int)=(m:Int)+1 from by simp,MA hS z (U (⟨q,m+1⟩,P.events.l[m]) (eU.2 ⟨q,m,z,rfl⟩)),ζb,dy]
   refine⟨λh0=>(bl _).2 ⟨⟨m+1,by simp,by omega,λk e aa u=>?_⟩,by simp;omega⟩,λh0=>(bl _).2 ((bl _).2 ((bl _).2 ⟨λh=>?_,λh=>?_⟩))⟩
   .by_cases ek:k=m
    .subst ek;rw[B]at u;cases u;simpa using h0
    .exact hk k e (by omega) u
   .simp only at h;simp[h]at h0
   .simp[(HX U).2 h.QD q m _ z]at h0
  .intro h;have I:P.events.l.length<=m:=by simpa [len]using h
   refine(bl _).2 ((bl _).2 ⟨⟨q+1,dG q (by omega),by omega,λp k e D z=>?_⟩,by rw[dG q (by omega)];simp;omega⟩)
   by_cases ep:p=q
   .subst ep;obtain⟨Q,S,u⟩:=z;rw[A]at S;cases S;exact hk k e (by have:=(ζe.1 u).1;omega) u
   .exact W p k e (by omega) z
 intro h;have af:t.procs.l.length<=q:=by simpa [len]using h
 have hP:xU t:=(HX U).1 λp k e z=>W p k e (by obtain⟨P,hP,_⟩:=z;have:=(ζe.1 hP).1;omega) z
 have X:¬Ju t↔Ok t:=⟨λh=>⟨Z.1,Z.2,λp D=>hh p (by omega),T,hP,h⟩,λh=>h.acyc⟩
 rw[bl,qp];refine(Kc hS U hP).mono λb hb=>?_
 rw[dy];exact⟨λh=>(bl _).2 ⟨λ_=>X.1 (hb h),λ_=>rfl⟩,λ_=>(Vu hS hN U hP).mono λr hr=>hr.trans X⟩
theorem L0 {t:Trace} (hS:Small t) (B:(cu t).length<1073741824):∃b,eA t=some b/\sj t=some b/\(b=true->VT t):=by
 obtain⟨b,u,h1,w⟩:=OT hS B;refine⟨b,u,?_,h1⟩;unfold sj;obtain⟨r,hr,z⟩:=M3 hS B;rw[hr,ζb]
 congr 1
 rw[Bool.eq_iff_iff,beq_iff_eq,z];exact⟨w,λh=>(h1 h).ok⟩
end Go.VE
namespace Go.VE
end Go.VE
namespace Go.VE
theorem qw {σ ε ρ γ:Type} {step:σ->Option (Fw σ ε ρ)} {B:ε->Option γ} {fr:ρ->Option γ} {P:γ->Prop} (n:Nat) (I:Nat->σ->Prop) {s:σ} (h0:I 0 s)
 (h:∀i s,i<n->I i s->Wp (step s) λw=>match w with|.n D=>I (i+1) D|.x e=>Wp (B e) P|.r b=>Wp (fr b) P)
 (G:∀s,I n s->Wp (step s) λw=>match w with|.n _=>False|.x e=>Wp (B e) P|.r b=>Wp (fr b) P):Wp ((bV step s).bind (Fw.elim B fr)) P:=by
 have key:∀m i s,i+m=n->I i s->Wp ((bV step s).bind (Fw.elim B fr)) P:=by
  intro m
  induction m with
  | zero=>
   intro i s hi z;obtain⟨w,u,hr⟩:=G s (by grind)
   rw[eD,u]
   cases w with
   | n D=>grind
   | x e=>exact hr
   | r b=>exact hr
  | succ m A=>
   intro i s hi z;obtain⟨w,u,hr⟩:=h i s (by omega) z
   rw[eD,u]
   cases w with
   | n D=>grind
   | x e=>exact hr
   | r b=>exact hr
 exact key n 0 s (Nat.zero_add n) h0
theorem GR:∀{c:List Int} {p:Nat} {a b:Int},c[p]? = some a->(c.set p b).sum=c.sum-a+b
 | [],_,_,_,h=>by simp_all
 | x::c,0,a,b,h=>by grind
 | x::c,p+1,a,b,h=>by
  have:=GR   (b:=b) (by simpa using h)
  grind
theorem yV:∀{c:List Int},(∀(p:Nat) a,c[p]? = some a->0<=a)->0<=c.sum
 | [],_=>by simp
 | x::c,h=>by
  have h1:=h 0 x rfl;have u:=yV (c:=c) λp a w=>h (p+1) a (by grind)
  grind
theorem JA:∀{c:List Int} {l:List Nat},c.length=l.length->(∀(i:Nat) a b,c[i]? = some a->l[i]? = some b->a<=(b:Nat))->c.sum<=(l.sum:Nat)
 | [],[],_,_=>by simp
 | x::c,y::l,B,h=>by
  have h1:=h 0 x y rfl rfl;have u:=JA (c:=c) (l:=l) (by grind) λi a b w z=>h (i+1) a b (by grind) (by grind)
  grind
section
variable {t:Trace} {A:cI 200 bR} {c:List Int}
theorem vG.pos (h:vG t c) (p:Nat) (a:Int) (B:c[p]? = some a):0<=a:=
 (h.2 p a _ B (ζd (by have:=(ζe.1 B).1;rw[<-h.1];simp_all))).1
theorem vG.at_ (h:vG t c) {p:Nat} (hp:p<t.procs.l.length):∃a,c[p]? = some a:=⟨_,ζd (by rw[h.1];omega)⟩
theorem vG.sum (h:vG t c):0<=c.sum/\c.sum<=(vP t:Nat):=
 ⟨yV h.pos,JA (by simp[h.1]) λi a b w u=>by
  cases hP:t.procs.l[i]? with
  | none=>grind
  | some P=>simp[hP]at u;rw[<-u];exact(h.2 i a P w hP).2⟩
theorem vG.set (h:vG t c) {p:Nat} {b:Int} {P:bQ} (hP:t.procs.l[p]? = some P) (h0:0<=b) (h1:b<=P.events.l.length):vG t (c.set p b):=by
 refine⟨by simp[h.1],λq a Q u w=>?_⟩
 rw[List.getElem?_set]at u;split at u
 .grind
 .exact h.2 q a Q u w
def Wh (t:Trace) (A:cI 200 bR) (c:List Int) (p:Nat):Prop:=∃P e a,t.procs.l[p]? = some P/\c[p]? = some a/\P.events.l[a.toNat]? = some e/\(e.kind=3->∃b,c[(ag A e.message).from_.proc.toNat]? = some b/\(ag A e.message).from_.index<=b)
theorem qI.one {p k:Nat} {e f:Event} (h:qI t p k e) (g:qI t p k f):e=f:=by
 obtain⟨P,u,w⟩:=h;obtain⟨Q,z,A⟩:=g
 grind
theorem tc.le (h:tc t A c) {p:Nat} {a b:Int} (D:c[p]? = some a) (J:a<=b) (U:∀(k:Nat) e,qI t p k e->a<=k->(k:Int)<b->e.kind=3->∃B,(c.set p b)[(ag A e.message).from_.proc.toNat]? = some B/\(ag A e.message).from_.index<=B):tc t A (c.set p b):=by
 have I:=(ζe.1 D).1;have up:∀(q:Nat) x,c[q]? = some x->∃y,(c.set p b)[q]? = some y/\x<=y:=λq x u=>by
  rw[List.getElem?_set]
  grind
 intro q k e x w u hk G;rw[List.getElem?_set]at u;have old:∀x,c[q]? = some x->k<x->∃B,(c.set p b)[(ag A e.message).from_.proc.toNat]? = some B/\(ag A e.message).from_.index<=B:=λx u hk=>by
  obtain⟨y,L,O⟩:=h q k e x w u hk G;obtain⟨z,Q,S⟩:=up _ y L;exact⟨z,Q,by omega⟩
 split at u
 .rename_i T;subst T;simp[I]at u;subst u
  by_cases C:k<a
  .exact old a D C
  .exact U k e w (by omega) hk G
 grind
theorem GK (hV:VT t) (hM:qF t (cu t) A) {p k:Nat} {e:Event} (B:qI t p k e) (D:e.kind=3):∃q j:Nat,(ag A e.message).from_=⟨q,j+1⟩/\q≠p/\GW t ⟨q,j+1⟩ ⟨p,k+1⟩/\∃y,qI t q j y:=by
 obtain⟨q,j,y,u,z,C,y3,y4,y5⟩:=Ox hV hM B D;have w:(⟨p,k+1⟩,e)∈cu t:=eU.2 ⟨p,k,B,rfl⟩;refine⟨q,j,y5,?_,⟨y,e,eU.2 ⟨q,j,u,rfl⟩,w,z,D,C⟩,y,u⟩;rcases hV.formed _ w with h|⟨_,_,_,h,_⟩
 .grind
 grind
theorem Cons.up (hV:VT t) (hM:qF t (cu t) A) (hC:Cons t A c) {p:Nat} {a:Int} {P:bQ} (hP:t.procs.l[p]? = some P) (B:c[p]? = some a) (U:a<P.events.l.length):Wh t A c p↔Cons t A (c.set p (a+1)):=by
 have h0:=hC.1.pos p a B;have T:=(ζe.1 B).1;constructor
 .rintro⟨Q,e,x,D,G,J,w⟩;rw[hP]at D;cases D;rw[B]at G;cases G;refine⟨hC.1.set hP (by omega) (by omega),hC.2.le B (by omega) λk f z L O W=>?_⟩
  have C:k=a.toNat:=by omega
  subst C;cases z.one ⟨P,hP,J⟩
  grind
 .intro h;have u:a.toNat<P.events.l.length:=by omega
  refine⟨P,P.events.l[a.toNat],a,hP,B,ζd u,λw=>?_⟩
  obtain⟨b,I,S⟩:=h.2 p a.toNat _ (a+1) ⟨P,hP,ζd u⟩ (by simp_all) (by omega) w
  rw[List.getElem?_set]at I;split at I
  .obtain⟨q,j,f1,f2,_⟩:=GK hV hM ⟨P,hP,ζd u⟩ w
   grind
  grind
noncomputable def Hf (t:Trace) (x:aY):Nat:=by
 classical
 exact(cu t).countP λz=>decide (Way t z.1 x)
theorem JP (hV:VT t) {x y:aY} (h:Way t x y):Hf t x<Hf t y:=by
 classical
 refine zW (λz _ u=>?_) ?_
 .have u:Way t z.1 x:=by grind
  simpa using u.trans h
 .obtain⟨e,w⟩:=h.l;exact⟨(x,e),w,by simpa using λk=>hV.ok.acyc ⟨x,k⟩,by grind⟩
theorem Ri (x:aY):Hf t x<=(cu t).length:=by
 classical
 unfold Hf;grind
theorem Vd.of {p k:Nat} {e:Event} (h:qI t p k e):Vd t ⟨p,k+1⟩:=⟨e,eU.2 ⟨p,k,h,rfl⟩⟩
theorem Gx {p:Nat} {P:bQ} (hP:t.procs.l[p]? = some P):∀(d k:Nat),k+d+1<P.events.l.length->Way t ⟨p,k+1⟩ ⟨p,((k+d+1:Nat):Int)+1⟩
 | 0,k,h=>.single ⟨Vd.of ⟨P,hP,ζd (by omega)⟩,Vd.of ⟨P,hP,ζd h⟩,.inl (by simp)⟩
 | d+1,k,h=>(Gx hP d k (by omega)).tail ⟨Vd.of ⟨P,hP,ζd (show k+d+1<_ by omega)⟩,Vd.of ⟨P,hP,ζd h⟩,.inl (by simp;omega)⟩
theorem TY {q k:Nat} {b:Int} {Q:bQ} {x:aY} (B:t.procs.l[q]? = some Q) (h:Way t x ⟨q,k+1⟩) (h1:(k:Int)<b) (D:b<=Q.events.l.length):Way t x ⟨q,b⟩:=by
 by_cases e:b=k+1
 .grind
 .have:=Gx B (b.toNat-k-2) k (by omega)
  rw[show ((k+(b.toNat-k-2)+1:Nat)+1)=b from by omega]at this
  exact h.trans this
theorem Cons.Je (hV:VT t) (hM:qF t (cu t) A) (hC:Cons t A c) {p:Nat} {a:Int} (D:c[p]? = some a) (h0:0<a):Cons t A (c.set p (a-1))\/∃(q:Nat) (b:Int),c[q]? = some b/\0<b/\Way t ⟨p,a⟩ ⟨q,b⟩:=by
 have X:=(ζe.1 D).1;have hP:=ζd (show p<t.procs.l.length by rw[<-hC.1.1];omega)
 have hr:=hC.1.2 p a _ D hP;refine Classical.byContradiction λB=>B (.inl ⟨hC.1.set hP (by omega) (by omega),λq k e x u I hk L=>?_⟩)
 obtain⟨z,w,Y⟩:∃z,c[q]? = some z/\x<=z:=by
  rw[List.getElem?_set]at I;split at I
  .rename_i e2;subst e2;simp[X]at I;exact⟨a,D,by omega⟩
  grind
 obtain⟨y,G,C⟩:=hC.2 q k e z u w (by omega) L
 obtain⟨r,j,f1,f2,f3,_⟩:=GK hV hM u L;rw[f1]at G C ⊢;simp only[Int.toNat_natCast]at G C ⊢
 by_cases e2:p=r
 .subst e2;rw[D]at G;cases G;refine⟨a-1,by simp_all,?_⟩
  refine Classical.byContradiction λhj=>B (.inr ⟨q,z,w,by omega,?_⟩)
  have:a=j+1:=by omega
  subst this;obtain⟨Q,O,_⟩:=u;have J:=hC.1.2 q z Q w O;obtain⟨S,T,U,W,Z⟩:=f3;exact TY O (.single ⟨⟨S,U⟩,⟨T,W⟩,.inr ⟨S,T,U,W,Z⟩⟩) (by omega) J.2
 simp_all
theorem Cons.Va (hV:VT t) (hM:qF t (cu t) A) (hC:Cons t A c):∀(n p:Nat) (a:Int),c[p]? = some a->0<a->(cu t).length-Hf t ⟨p,a⟩<=n->∃(q:Nat) (b:Int),c[q]? = some b/\0<b/\Cons t A (c.set q (b-1)):=by
 intro n
 induction n with
 | zero=>
  intro p a u h0 B;rcases hC.Je hV hM u h0 with h|⟨q,b,_,_,w⟩
  .grind
  .have:=JP hV w;have:=Ri (t:=t) ⟨q,b⟩;omega
 | succ n C=>
  intro p a u h0 B;rcases hC.Je hV hM u h0 with h|⟨q,b,D,z,w⟩
  .grind
  .have:=JP hV w;exact C q b D z (by omega)
theorem Cons.down (hV:VT t) (hM:qF t (cu t) A) (hC:Cons t A c) (B:0<c.sum):∃(q:Nat) (b:Int),c[q]? = some b/\0<b/\Cons t A (c.set q (b-1)):=by
 obtain⟨p,a,u,h0⟩:∃(p:Nat) (a:Int),c[p]? = some a/\0<a:=by
  refine Classical.byContradiction λw=>?_
  have C:∀a∈c,a=0:=λa u=>by
   obtain⟨p,z⟩:=List.mem_iff_getElem?.1 u;have:=hC.1.pos p a z
   grind
  have:c.sum=0:=by
   clear hC B w
   induction c with
   | nil=>rfl
   | cons x c D=>simp_all
  omega
 exact hC.Va hV hM _ p a u h0 (Nat.le_refl _)
theorem Cons.Fk (hV:VT t) (hM:qF t (cu t) A):∀(d:Nat) {c:List Int} {k:Nat},Cons t A c->c.sum=((k+d:Nat):Int)->∃c',Cons t A c'/\c'.sum=(k:Int)
 | 0,c,k,hC,D=>⟨c,hC,by grind⟩
 | d+1,c,k,hC,D=>by
  obtain⟨q,b,G,J,B⟩:=hC.down hV hM (by omega)
  exact Cons.Fk hV hM d B (by rw[GR G];omega)
end
end Go.VE
namespace Go.VE
theorem ot {α:Type} {s:Sl α} {n:Nat} (h:n<s.l.length):decide ((n:Int)<len s)=true:=by simp[len];omega
theorem qE {α:Type} {s:Sl α}:decide ((s.l.length:Int)<len s)=false:=by simp[len]
theorem Gq {α:Type} {s:Sl α} {p:Nat} (h:p<s.l.length):Sl.oC s (p:Int)=some p:=by
 unfold Sl.oC;rw[if_pos ⟨by omega,by simpa using h⟩];rfl
theorem put_eq {α:Type} {s:Sl α} {p:Nat} {x:α} (h:p<s.l.length):∃r,Sl.put s p x=some r/\r.l=s.l.set p x:=by
 unfold Sl.put;rw[if_pos h];exact⟨_,rfl,by cases s <;> first|rfl|(simp[Sl.l]at h)⟩
section
variable {t:Trace} {A:cI 200 bR}
end
end Go.VE
namespace Go.VE
def ins (s:Sl (Sl Int)):List (List Int):=s.l.map Sl.l
end Go.VE
namespace Go.VE
section
variable {t:Trace} {A:cI 200 bR}
theorem JW {s:Sl (Sl Int)} {d:List Int}:d∈ins s↔∃x∈s.l,x.l=d:=by unfold ins;exact List.mem_map
def Ra (t:Trace) (A:cI 200 bR) (k:Nat) (s:Sl (Sl Int)):Prop:=∀d,d∈ins s↔Cons t A d/\d.sum=(k:Int)
theorem Ra.none (hV:VT t) (hM:qF t (cu t) A) {k:Nat} {s:Sl (Sl Int)} (h:Ra t A k s) (D:s.l.length=0) {d:List Int} (B:Cons t A d):d.sum<(k:Int):=by
 refine Classical.byContradiction λu=>?_
 have h0:=yV B.1.pos;obtain⟨c,hC,w⟩:=Cons.Fk hV hM (d.sum.toNat-k) (k:=k) B (by omega)
 have:=(h c).2 ⟨hC,w⟩;obtain⟨x,z,_⟩:=JW.1 this;have:=List.length_pos_of_mem z;omega
theorem Ra.last {s:Sl (Sl Int)} (h:Ra t A (vP t+1) s):s.l.length=0:=by
 refine Classical.byContradiction λu=>?_
 have w:=List.getElem_mem (show 0<s.l.length by omega)
 have:=(h s.l[0].l).1 (JW.2 ⟨_,w,rfl⟩);have:=this.1.1.sum;omega
end
end Go.VE
namespace Go.VE
end Go.VE
namespace Go.VE
end Go.VE
namespace Go.VE
section
variable {t:Trace} {A:cI 200 bR}
end
end Go.VE
namespace Go.VE
section
variable {t:Trace} {A:cI 200 bR}
structure Xe (t:Trace) (A:cI 200 bR) (k:Nat) (o:Sl (Sl (Sl Int))):Prop where
 nd:(o.l.flatMap ins).Nodup
 mem:∀d,d∈o.l.flatMap ins↔Cons t A d/\d.sum<(k:Int)
end
end Go.VE
namespace Go.VE
section
variable {t:Trace} {A:cI 200 bR}
end
end Go.VE
namespace Go.VE
section
variable {t:Trace} {A:cI 200 bR}
end
end Go.VE
namespace Go.VE
section
variable {t:Trace} {A:cI 200 bR}
end
end Go.VE
namespace Go.VE
section
variable {α σ:Type}
def wX (p:α->σ->Option (Bool×σ)):List α->σ->Option (Bool×σ)
 | [],x=>some (false,x)
 | a::r,x=>(p a x).bind λy=>if y.1 then some (true,y.2)else wX p r y.2
theorem JB {s:Sl α} {p:α->σ->Option (Bool×σ)} {x:σ} (B:s.l.length<1073741824):yz s p x=wX p s.l x:=by
 have key:∀(rem:List α) (j:Nat) (x:σ),s.l.drop j=rem->((bV (C2 s p) ((j:Int),x)).bind (Fw.elim (λe=>some ((-1:Int),e)) λe=>some e)).bind (λy:Int×σ=>some (decide (y.1>=0),y.2))=wX p rem x:=by
  intro rem
  induction rem with
  | nil=>
   intro j x hd;have h1:decide ((j:Int)<len s)=false:=by
    have:s.l.length<=j:=by simpa using hd
    simp[len];omega
   rw[eD];simp only[C2,h1,a_,Bool.false_eq_true,if_false,ζb,Fw.elim,wX];rfl
  | cons a rem u=>
   intro j x hd;have h1:j<s.l.length:=by
    apply Classical.byContradiction;intro A;rw[List.drop_eq_nil_of_le (by omega)]at hd;cases hd
   have w:=List.drop_eq_getElem_cons h1;rw[w]at hd;simp only[List.cons.injEq]at hd;rw[eD];simp only[C2,ot h1,a_,if_true,bT h1,ζb,hd.1,wX]
   cases p a x with
   | none=>rfl
   | some y=>
    obtain⟨b,z⟩:=y;simp only[ζb]
    cases b with
    | true=>simp[Fw.elim]
    | false=>
     simp only[Bool.false_eq_true,if_false,ζb,dG j (by omega)]
     exact u (j+1) z hd.2
 exact key s.l 0 x rfl
def DW (p:α->Option Bool):List α->Option Bool
 | []=>some false
 | a::r=>(p a).bind λb=>if b then some true else DW p r
theorem Ew (p:α->Option Bool):∀l:List α,wX (λx (u:Unit)=>(p x).map λb=>(b,u)) l ()=(DW p l).map λb=>(b,())
 | []=>rfl
 | a::r=>by
  simp only[wX,DW]
  cases p a with
  | none=>rfl
  | some b=>cases b <;> simp[Ew p r]
theorem wM {s:Sl α} (p:α->Option Bool) (B:s.l.length<1073741824):yz s (λx (u:Unit)=>(p x).map λb=>(b,u)) ()=(DW p s.l).map λb=>(b,()):=by rw[JB B,Ew]
theorem vO {p:α->Option Bool} {f:α->Bool}:∀{l:List α},(∀x∈l,p x=some (f x))->DW p l=some (l.any f)
 | [],_=>rfl
 | a::r,h=>by
  simp only[DW,h a (by simp),ζb,List.any_cons,vO (λx B=>h x (List.mem_cons_of_mem _ B))]
  cases f a <;> rfl
theorem gU {δ:Type} {b:(α->Option δ)->α->Option δ} {n:Nat} (h:0<n) (z:α):cV b n z=b (cV b (n-1)) z:=by
 cases n with
 | zero=>omega
 | succ n=>rfl
end
def yw (l:List Int) (az:List Assign):List Int:=az.foldl (λl a=>l.set a.var.toNat a.value) l
def gV (P:bQ):Nat->List Int
 | 0=>P.vars.l.map Var.init_
 | k+1=>match P.events.l[k]? with
  | some e=>yw (gV P k) e.assign.l
  | none=>gV P k
theorem Gz:∀(az:List Assign) (l:List Int),(yw l az).length=l.length
 | [],l=>rfl
 | a::r,l=>by
  show (yw (l.set a.var.toNat a.value) r).length=_;rw[Gz r];simp
theorem n9 (P:bQ):∀k,(gV P k).length=P.vars.l.length
 | 0=>by simp[gV]
 | k+1=>by
  unfold gV;split
  .rw[Gz,n9 P k]
  .exact n9 P k
def Nr {α:Type} (s:Sl α):Prop:=s=.nil\/∃l,s=.row l
theorem Gy:∀(vs:List Var) (s:Sl Int),Nr s->s.l.length+vs.length<1073741824->∃B,uV vs s=some B/\Nr B/\B.l=s.l++vs.map Var.init_
 | [],s,h,_=>⟨s,rfl,h,by simp⟩
 | v::r,s,h,D=>by
  simp only[List.length_cons]at D;have h1:jr s v.init_=some (.row (s.l++[v.init_])):=by unfold jr;rw[if_pos (by omega)]
  obtain⟨B,g1,g2,g3⟩:=Gy r (.row (s.l++[v.init_])) (.inr ⟨_,rfl⟩) (by show (s.l++[v.init_]).length+r.length<1073741824;simp;omega)
  refine⟨B,?_,g2,by rw[g3];show (s.l++[v.init_])++r.map Var.init_=_;simp⟩
  simp only[uV,h1,ζb,g1]
theorem H9:∀(az:List Assign) (s:Sl Int),Nr s->(∀a∈az,0<=a.var/\a.var<s.l.length)->∃B,vj az s=some B/\Nr B/\B.l=yw s.l az
 | [],s,h,_=>⟨s,rfl,h,rfl⟩
 | a::r,s,h,D=>by
  obtain⟨h0,h1⟩:=D a (by simp)
  have hc:Sl.oC s a.var=some a.var.toNat:=by unfold Sl.oC;rw[if_pos ⟨h0,by omega⟩]
  rcases h with rfl|⟨l,rfl⟩
  .simp[Sl.l]at h1;omega
  have u:Sl.put (.row l) a.var.toNat a.value=some (.row (l.set a.var.toNat a.value)):=by
   unfold Sl.put;rw[if_pos (by simp[Sl.l]at h1 ⊢;omega)]
  obtain⟨B,g1,g2,g3⟩:=H9 r (.row (l.set a.var.toNat a.value)) (.inr ⟨_,rfl⟩) (λb w=>by
   have:=D b (List.mem_cons_of_mem _ w);simpa [Sl.l]using this)
  refine⟨B,?_,g2,g3⟩;simp only[vj,hc,u,ζb,g1]
theorem Jn {s:Sl Int} (h:Nr s) (B:s.l.length<1073741824):∃c,K8 s=some c/\c.l=s.l:=by
 rcases h with rfl|⟨l,rfl⟩
 .exact⟨.nil,rfl,rfl⟩
 .unfold K8 IB.gG yR;simp only[Sl.isNil,ζb,a_,Bool.false_eq_true,if_false]
  by_cases h0:(Sl.row l).l=[]
  .rw[if_pos h0];exact⟨.row [],rfl,h0.symm⟩
  .rw[if_neg h0,if_pos (by simp[Sl.l]at B ⊢;omega)]
   exact⟨_,rfl,by simp[Sl.l]⟩
def tQ (P:bQ):Prop:=∀e∈P.events.l,∀a∈e.assign.l,0<=a.var/\a.var<P.vars.l.length
theorem Ip {P:bQ} (B:tQ P) (hv:P.vars.l.length<1073741824):∀(rem:List Event) (k:Nat) (s:Sl Int),P.events.l.drop k=rem->Nr s->s.l=gV P k ->
 ∃r,vl (k:Int) rem s=some r/\r.length=rem.length/\∀(i:Nat) x,r[i]? = some x->x.1=((k+i+1:Nat):Int)/\x.2.l=gV P (k+i+1)
 | [],k,s,_,_,_=>⟨[],rfl,rfl,by simp⟩
 | e::rem,k,s,hd,D,G=>by
  have h1:k<P.events.l.length:=by
   apply Classical.byContradiction;intro D;rw[List.drop_eq_nil_of_le (by omega)]at hd;cases hd
  have A:=List.drop_eq_getElem_cons h1;rw[A]at hd;simp only[List.cons.injEq]at hd;have C:e∈P.events.l:=hd.1▸List.getElem_mem h1;have w:s.l.length=P.vars.l.length:=by rw[G,n9]
  obtain⟨n,g1,g2,g3⟩:=H9 e.assign.l s D (λa I=>by rw[w];exact B e C a I)
  have u:gV P (k+1)=n.l:=by
   rw[g3,G];unfold gV;rw[ζd h1,hd.1];cases k <;> rfl
  obtain⟨c,g4,g5⟩:=Jn g2 (by rw[<-u,n9];exact hv)
  obtain⟨r,J,L,O⟩:=Ip B hv rem (k+1) n hd.2 g2 u.symm;refine⟨((k:Int)+1,c)::r,?_,by simp[L],λi x z=>?_⟩
  .simp only[vl,g1,g4,ζb];rw[show (k:Int)+1=((k+1:Nat):Int)from rfl,J];rfl
  .cases i with
   | zero=>
    simp only[List.getElem?_cons_zero,ζa]at z;subst z;exact⟨rfl,by rw[g5,<-u]⟩
   | succ i=>
    rw[List.getElem?_cons_succ]at z;obtain⟨Q,S⟩:=O i x z;exact⟨by rw[Q];congr 1;omega,by rw[S];congr 1;omega⟩
theorem EV {P:bQ} (B:tQ P) (hv:P.vars.l.length<1073741824) (J:P.events.l.length<1073741824) (D:∀e∈P.events.l,e.assign.l.length<1073741824) :
 ∃r,jd P=some r/\r.length=P.events.l.length+1/\∀(i:Nat) x,r[i]? = some x->x.1=(i:Int)/\x.2.l=gV P i:=by
 obtain⟨s,g1,g2,g3⟩:=Gy P.vars.l .nil (.inl rfl) (by simpa [Sl.l]using hv)
 have w:s.l=gV P 0:=by rw[g3];simp[Sl.l,gV]
 obtain⟨c,g4,g5⟩:=Jn g2 (by rw[w,n9];exact hv)
 obtain⟨r,z,A,C⟩:=Ip B hv P.events.l 0 s rfl g2 w;refine⟨(0,c)::r,?_,by simp[A],λi x u=>?_⟩
 .unfold jd;have hc:(ov P.vars.l.length&&(ov P.events.l.length&&P.events.l.all λe=>ov e.assign.l.length))=true:=by
   simp only[ζh,List.all_eq_true,ov,decide_eq_true_eq];exact⟨by omega,by omega,λe h=>by have:=D e h;omega⟩
  rw[if_pos hc,g1,ζb,g4,ζb];rw[show ((0:Nat):Int)=0 from rfl]at z;rw[z];rfl
 .cases i with
  | zero=>
   simp only[List.getElem?_cons_zero,ζa]at u;subst u;exact⟨rfl,by rw[g5,w]⟩
  | succ i=>
   rw[List.getElem?_cons_succ]at u;obtain⟨G,I⟩:=C i x u;exact⟨by rw[G];congr 1;omega,by rw[I];congr 1;omega⟩
theorem OE {P:bQ} (B:tQ P) (hv:P.vars.l.length<1073741824) (D:P.events.l.length<1073741824) (G:∀e∈P.events.l,e.assign.l.length<1073741824) {k:Nat} (hk:k<=P.events.l.length) :
 ∃x,fq P (k:Int)=some x/\x.l=gV P k:=by
 obtain⟨r,h1,L,C⟩:=EV B hv D G;have key:∀(rem:List (Int×Sl Int)) (i:Nat) (q:Sl Int),r.drop i=rem->i<=k->∃x,(j8 (λ(x:Int×(Sl Int)) (q:Sl Int)=>fq.kr P k x q) rem q).bind (Fw.qg (λq=>some Sl.nil) (λe=>Empty.elim e) (λe=>some e))=some x/\x.l=gV P k:=by
  intro rem
  induction rem with
  | nil=>
   intro i q hd hi;have:r.length<=i:=by simpa using hd
   omega
  | cons y rem I=>
   intro i q hd hi;have u:i<r.length:=by omega
   have e2:=List.drop_eq_getElem_cons u;rw[e2]at hd;simp only[List.cons.injEq]at hd;obtain⟨A,J⟩:=C i y (by rw[ζd u,hd.1])
   by_cases w:i=k
   .subst w;refine⟨y.2,?_,J⟩;simp only[j8,fq.kr,A,beq_self_eq_true,a_,if_true,ζb,Fw.qg]
   .have z:(y.1==(k:Int))=false:=by rw[A];simp;omega
    obtain⟨x,g1,g2⟩:=I (i+1) .nil hd.2 (by omega)
    refine⟨x,?_,g2⟩;simp only[j8,fq.kr,z,a_,Bool.false_eq_true,if_false,ζb];exact g1
 obtain⟨x,g1,g2⟩:=key r 0 .nil rfl (Nat.zero_le _);refine⟨x,?_,g2⟩;unfold fq mK fq.E1;simp only[ζb,h1];exact g1
end Go.VE
namespace Go.VE
mutual
def Pred.sz:Pred->Nat
 | ⟨_,_,_,_,_,l⟩=>1+Pred.Uw l
def Pred.Uw:Sl Pred->Nat
 | .nil=>0
 | .emp=>0
 | .row l=>Pred.lI l
 | .part l=>Pred.lI l
def Pred.lI:List Pred->Nat
 | []=>0
 | x::r=>Pred.sz x+Pred.lI r
end
mutual
def Pred.dp:Pred->Nat
 | ⟨_,_,_,_,_,l⟩=>1+Pred.T4 l
def Pred.T4:Sl Pred->Nat
 | .nil=>0
 | .emp=>0
 | .row l=>Pred.sQ l
 | .part l=>Pred.sQ l
def Pred.sQ:List Pred->Nat
 | []=>0
 | x::r=>max (Pred.dp x) (Pred.sQ r)
end
mutual
def Pred.eS (f:Pred->Bool):Pred->Bool
 | ⟨a,b,c,d,e,l⟩=>f ⟨a,b,c,d,e,l⟩&&Pred.LC f l
def Pred.LC (f:Pred->Bool):Sl Pred->Bool
 | .nil=>true
 | .emp=>true
 | .row l=>Pred.DZ f l
 | .part l=>Pred.DZ f l
def Pred.DZ (f:Pred->Bool):List Pred->Bool
 | []=>true
 | x::r=>Pred.eS f x&&Pred.DZ f r
end
theorem Pred.Vz (s:Sl Pred):Pred.Uw s=Pred.lI s.l:=by cases s <;> simp[Pred.Uw,Pred.lI,Sl.l]
theorem Pred.U9 (s:Sl Pred):Pred.T4 s=Pred.sQ s.l:=by cases s <;> simp[Pred.T4,Pred.sQ,Sl.l]
theorem Pred.GV (f:Pred->Bool):∀l:List Pred,Pred.DZ f l=l.all (Pred.eS f)
 | []=>by simp[Pred.DZ]
 | x::r=>by simp only[Pred.DZ,List.all_cons,Pred.GV f r]
theorem Pred.UE (f:Pred->Bool) (s:Sl Pred):Pred.LC f s=s.l.all (Pred.eS f):=by cases s <;> simp[Pred.LC,Pred.GV,Sl.l]
theorem Pred.QB (p:Pred):p.sz=1+Pred.lI p.l.l:=by cases p;simp only[Pred.sz,Pred.Vz]
theorem Pred.Dl (p:Pred):p.dp=1+Pred.sQ p.l.l:=by cases p;simp only[Pred.dp,Pred.U9]
theorem Pred.hG (f:Pred->Bool) (p:Pred):p.eS f=(f p&&p.l.l.all (Pred.eS f)):=by cases p;simp only[Pred.eS,Pred.UE]
theorem Pred.Ji:∀{l:List Pred} {q:Pred},q∈l->q.dp<=Pred.sQ l
 | x::r,q,h=>by
  simp only[Pred.sQ];rcases List.mem_cons.1 h with rfl|h
  .omega
  .have:=Pred.Ji h;omega
theorem Pred.oh {p q:Pred} (h:q∈p.l.l):q.dp<p.dp:=by rw[p.Dl];have:=Pred.Ji h;omega
theorem Pred.pO (p:Pred):0<p.dp:=by rw[p.Dl];omega
theorem Pred.ind {M:Pred->Prop} (h:∀p,(∀q∈p.l.l,M q)->M p) (p:Pred):M p:=by
 have key:∀n p,p.dp<=n->M p:=by
  intro n
  induction n with
  | zero=>intro p u;have:=p.pO;omega
  | succ n w=>intro p u;exact h p λq z=>w q (by have:=Pred.oh z;omega)
 exact key _ p (Nat.le_refl _)
abbrev Pred.Sm (p:Pred):Prop:=p.eS (λq=>decide (q.l.l.length<1073741824))=true
theorem Pred.Sm.len {p:Pred} (h:p.Sm):p.l.l.length<1073741824:=by
 unfold Pred.Sm at h;rw[p.hG]at h;simp only[ζh,decide_eq_true_eq]at h;exact h.1
theorem Pred.Sm.sE {p q:Pred} (h:p.Sm) (B:q∈p.l.l):q.Sm:=by
 unfold Pred.Sm at h;rw[p.hG]at h;simp only[ζh,List.all_eq_true]at h;exact h.2 q B
theorem JJ {f:Pred->Option Bool} {g:Pred->Bool} (p:Pred) (B:p.Sm):p.eS (λq=>f q==some (g q))=true->∀n,p.dp<=n->cV (λr (z:Pred)=>iT z f r) n p=some (p.eS g):=by
 induction p using Pred.ind with
 | h p A=>
  intro u n C;rw[p.hG]at u;simp only[ζh,List.all_eq_true,beq_iff_eq]at u;have hd:=p.Dl;rw[gU (by omega)]
  show iT p f _=_;unfold iT;rw[u.1,ζb,p.hG]
  cases g p with
  | false=>rfl
  | true=>
   rw[bH,wM _ B.len,vO (f:=λq => !q.eS g) (λq w=>by
    have:=A q w (B.sE w) (u.2 q w) (n-1) (by have:=Pred.oh w;omega)
    show (cV (λr (z:Pred)=>iT z f r) (n-1) q).bind _=_
    rw[this];rfl)]
   simp only[Option.map_some,ζb,Bool.true_and]
   congr 1
   rw[Bool.eq_iff_iff];simp
theorem uz {step:Int->Option (Fw Int Unit Unit)} {p:Pred} {g:Pred->Bool} (D:p.l.l.length<1073741824) (h:∀(i:Nat) (hi:i<p.l.l.length),step i=some (if g p.l.l[i]then .n ((i+1:Nat):Int)else .r ())) (B:step p.l.l.length=some (.x ())) :
 (bV (λq:Int=>step q) 0).bind (Fw.elim (λ_=>some true) (λ_=>some false))=some (p.l.l.all g):=by
 refine Wp.eq ?_;refine qw p.l.l.length (λn s=>s=(n:Int)/\(p.l.l.take n).all g=true) ⟨rfl,rfl⟩ ?_ ?_
 .rintro i _ hi ⟨rfl,u⟩;rw[h i hi,bl]
  cases hg:g p.l.l[i]with
  | true=>
   refine⟨rfl,?_⟩;rw[List.take_add_one,ζd hi,List.all_append,u];simp[hg]
  | false=>
   refine(bl _).2 ?_
   symm
   rw[List.all_eq_false];exact⟨_,List.getElem_mem hi,by rw[hg];simp⟩
 .rintro _ ⟨rfl,u⟩;rw[B,bl];rw[List.take_length]at u;exact(bl _).2 u.symm
end Go.VE
namespace Go.VE
abbrev Gb (p:Pred):Bool:=ByteArray.toList p.name==ByteArray.toList ByteArray.empty
abbrev De (p:Pred) (c:Int):Bool:=(len p.l==c)&&(!decide (p.n<0)&&(!decide (p.n>1125899906842624)&&((p.n==0||p.kind==1)&&(p.kind==2||(p.kind==3||(p.kind==4||(p.proc==0&&(p.peer==0&&Gb p))))))))
theorem PN:∀k:_root_.Fin 22,1<=k.1->cI.at wU ((k.1:Nat):Int)=kK ((k.1:Nat):Int)/\(kK ((k.1:Nat):Int)).isSome=true:=by decide
theorem yI {k:Int} (h1:1<=k) (B:k<22):∃c,cI.at wU k=some c/\kK k=some c:=by
 obtain⟨g1,g2⟩:=PN ⟨k.toNat,by omega⟩ (by show 1<=k.toNat;omega)
 simp only at g1 g2;rw[show ((k.toNat:Nat):Int)=k from by omega]at g1 g2
 obtain⟨c,hc⟩:=Option.isSome_iff_exists.1 g2;exact⟨c,by rw[g1,hc],hc⟩
theorem LY {k:Int} (h:k<1\/22<=k):kK k=some (-1):=by
 have d1:(a_ (decide (k>=1)) (some (decide (k<=4))) (some false):Option Bool)=some false:=by
  by_cases h1:k>=1
  .rw[decide_eq_true h1,bH,decide_eq_false (by omega)]
  .rw[decide_eq_false h1];rfl
 have d2:(a_ (decide (k>=18)) (some (decide (k<=21))) (some false):Option Bool)=some false:=by
  by_cases h1:k>=18
  .rw[decide_eq_true h1,bH,decide_eq_false (by omega)]
  .rw[decide_eq_false h1];rfl
 have d3:(a_ (decide (k>=6)) (some (decide (k<=12))) (some false):Option Bool)=some false:=by
  by_cases h1:k>=6
  .rw[decide_eq_true h1,bH,decide_eq_false (by omega)]
  .rw[decide_eq_false h1];rfl
 have ne:∀m:Int,1<=m->m<22->(k==m)=false:=λm h1 u=>by simp;omega
 unfold kK;rw[d1,d2,d3,ne 13 (by omega) (by omega),ne 14 (by omega) (by omega),ne 5 (by omega) (by omega),ne 15 (by omega) (by omega),ne 16 (by omega) (by omega),ne 17 (by omega) (by omega)]
 rfl
theorem DT {p:Pred} {c:Int} (h1:1<=p.kind) (B:p.kind<22) (hc:cI.at wU p.kind=some c):jX p=some (De p c):=by
 unfold jX tD De Gb;rw[decide_eq_false (show ¬p.kind<1 by omega),bG,ζb,decide_eq_false (show ¬p.kind>=22 by omega),bG,hc,ζb,ζb]
 generalize (len p.l==c)=e;generalize decide (p.n<0)=a;generalize decide (p.n>1125899906842624)=b;generalize (p.n==0)=z;generalize (p.kind==1)=k1;generalize (p.kind==2)=u;generalize (p.kind==3)=w;generalize (p.kind==4)=A;generalize (p.proc==0)=d1;generalize (p.peer==0)=d2;generalize (ByteArray.toList p.name==ByteArray.toList ByteArray.empty)=d3
 cases e with
 | false=>rfl
 | true=>cases a with
  | true=>rfl
  | false=>cases b with
   | true=>rfl
   | false=>cases z <;> cases k1 <;> first|rfl|(cases u <;> cases w <;> cases A <;> cases d1 <;> cases d2 <;> cases d3 <;> rfl)
theorem BR {p:Pred} (h:p.kind<1\/22<=p.kind):jX p=some false:=by
 unfold jX;have:(a_ (decide (p.kind<1)) (some true) (some (decide (p.kind>=22))):Option Bool)=some true:=by
  by_cases h1:p.kind<1
  .rw[decide_eq_true h1];rfl
  .rw[decide_eq_false h1,bG,decide_eq_true (by omega)]
 rw[this];rfl
theorem OK {p:Pred} {c:Int} (h1:1<=p.kind) (D:p.kind<22) (hc:kK p.kind=some c) (r:Pred->Option Bool):fC p r=a_ (De p c) (e8.W2 0 p r) (some false):=by
 unfold fC e8.J1 De Gb;rw[hc,ζb,show (c==len p.l)=(len p.l==c)from by rw[Bool.eq_iff_iff];simp;exact⟨Eq.symm,Eq.symm⟩]
 have hk:(a_ (decide (p.kind<2)) (some true) (some (decide (p.kind>4))):Option Bool)=some (!(p.kind==2||(p.kind==3||p.kind==4))):=by
  by_cases g:p.kind<2
  .rw[decide_eq_true g,bH,show (p.kind==2)=false from by simp;omega,show (p.kind==3)=false from by simp;omega,show (p.kind==4)=false from by simp;omega];rfl
  .rw[decide_eq_false g,bG];congr 1;rw[Bool.eq_iff_iff];simp;omega
 have B:(p.n==0)=true->decide (p.n<0)=false/\decide (p.n>1125899906842624)=false:=λh=>by
  have h:p.n=0:=by simpa using h
  rw[h];exact⟨rfl,rfl⟩
 rw[hk];generalize (len p.l==c)=e;generalize decide (p.n<0)=a at *;generalize decide (p.n>1125899906842624)=b at *;generalize (p.n==0)=z at *;generalize (p.kind==1)=k1;generalize (p.kind==2)=u;generalize (p.kind==3)=w;generalize (p.kind==4)=A;generalize (p.proc==0)=d1;generalize (p.peer==0)=d2;generalize (ByteArray.toList p.name==ByteArray.toList ByteArray.empty)=d3
 cases e with
 | false=>rfl
 | true=>cases k1 with
  | true=>cases a with
   | true=>rfl
   | false=>cases b with
    | true=>rfl
    | false=>cases z <;> cases u <;> cases w <;> cases A <;> cases d1 <;> cases d2 <;> cases d3 <;> rfl
  | false=>cases z with
   | false=>cases a <;> cases b <;> rfl
   | true=>
    obtain⟨rfl,rfl⟩:=B rfl;cases u <;> cases w <;> cases A <;> cases d1 <;> cases d2 <;> cases d3 <;> rfl
def fB (p:Pred):Bool:=(jX p).getD false
theorem Ru (p:Pred):jX p=some (fB p):=by
 unfold fB
 by_cases h:p.kind<1\/22<=p.kind
 .rw[BR h];rfl
 .obtain⟨c,hc,-⟩:=yI (k:=p.kind) (by omega) (by omega)
  rw[DT (by omega) (by omega) hc];rfl
theorem rT {p:Pred} (h:fB p=true):1<=p.kind/\p.kind<22/\cI.at wU p.kind=some (len p.l):=by
 by_cases g:p.kind<1\/22<=p.kind
 .unfold fB at h;rw[BR g]at h;cases h
 .obtain⟨c,hc,-⟩:=yI (k:=p.kind) (by omega) (by omega)
  unfold fB at h;rw[DT (by omega) (by omega) hc]at h
  simp only[De,Option.getD_some,ζh,beq_iff_eq]at h;exact⟨by omega,by omega,by rw[hc,h.1]⟩
theorem Qe (p:Pred) (r:Pred->Option Bool):fC p r=a_ (fB p) (e8.W2 0 p r) (some false):=by
 unfold fB
 by_cases h:p.kind<1\/22<=p.kind
 .rw[BR h];unfold fC;rw[LY h,ζb,show ((-1:Int)==len p.l)=false from by simp[len]];rfl
 .obtain⟨c,hc,u⟩:=yI (k:=p.kind) (by omega) (by omega)
  rw[DT (by omega) (by omega) hc,OK (by omega) (by omega) u];rfl
theorem Mi (p:Pred) (B:p.Sm):∀n,p.dp<=n->cV (λr (z:Pred)=>fC z r) n p=some (p.eS fB):=by
 induction p using Pred.ind with
 | h p u=>
  intro n A;have hd:=p.pO;rw[gU (by omega)]
  have u:=λq w=>u q w (B.sE w) (n-1)
  show fC p (cV (λr (z:Pred)=>fC z r) (n-1))=_
  generalize cV (λr (z:Pred)=>fC z r) (n-1)=R at u ⊢
  rw[Qe,p.hG]
  cases fB p with
  | false=>rfl
  | true=>
   rw[bH,Bool.true_and];unfold e8.W2;refine uz (g:=Pred.eS fB) B.len (λi hi=>?_) ?_
   .unfold e8.cq;rw[ot hi,bH,bT hi,ζb,u _ (List.getElem_mem hi) (by have:=Pred.oh (List.getElem_mem hi);omega),ζb,dG i (by have:=B.len;omega)]
    cases Pred.eS fB p.l.l[i] <;> rfl
   .unfold e8.cq;rw[qE];rfl
def oq (p:Pred):Bool:=decide (p.sz<=200)&&(decide (p.dp<=20)&&p.eS fB)
abbrev nu (p:Pred) (d l:Nat):Bool:=decide (p.sz<=l)&&(decide (p.dp+d<=21)&&p.eS fB)
abbrev uk (k:List Pred) (d l:Nat):Bool:=decide (Pred.lI k<=l)&&(decide (Pred.sQ k+d<=21)&&k.all (Pred.eS fB))
theorem SZ (p:Pred) (U:p.Sm):∀(n d l:Nat),1<=n->22<=n+d->d<=21->1<=d->l<=200 ->
 ∃D:Int,cV (λr (z:Pred×Int×Int)=>eo z.1 z.2.1 z.2.2 r) n (p,(d:Int),(l:Int))=some (nu p d l,D)/\(nu p d l=true->D=((l-p.sz:Nat):Int)):=by
 induction p using Pred.ind with
 | h p I=>
  intro n d l hn Z hd zc hl;have G:=p.QB;have L:=p.Dl;rw[gU (by omega)]
  have I:=λq J=>I q J (U.sE J) (n-1)
  show ∃D,eo p (d:Int) (l:Int) (cV (λr (z:Pred×Int×Int)=>eo z.1 z.2.1 z.2.2 r) (n-1))=_/\_
  generalize cV (λr (z:Pred×Int×Int)=>eo z.1 z.2.1 z.2.2 r) (n-1)=R at I ⊢
  unfold eo;rw[gL _ (by omega) (by omega),Ru]
  by_cases h0:l=0
  .subst h0;have w:nu p d 0=false:=by
    have:¬(p.sz<=0):=by omega
    simp only[nu,decide_eq_false this,Bool.false_and]
   rw[w];exact⟨_,rfl,λh=>by cases h⟩
  rw[decide_eq_false (show ¬((l:Int)-1<0)by omega),bG,ζb]
  by_cases h1:20<d
  .have w:nu p d l=false:=by
    have:¬(p.dp+d<=21):=by have:=p.pO;omega
    simp only[nu,decide_eq_false this,Bool.false_and,Bool.and_false]
   rw[w,decide_eq_true (show (d:Int)>20 by omega)]
   exact⟨_,rfl,λh=>by cases h⟩
  rw[decide_eq_false (show ¬((d:Int)>20)by omega),bG,ζb]
  have T:=p.hG fB
  cases W:fB p with
  | false=>
   have w:nu p d l=false:=by simp[nu,T,W]
   rw[w];exact⟨_,rfl,λh=>by cases h⟩
  | true=>
   rw[ζb,show (!true)=false from rfl,bG,JB U.len];have key:∀(k:List Pred),(∀q∈k,q∈p.l.l)->∀m:Nat,m<=200->∃m':Int,wX (λx s=>g_ x (d:Int) s R) k (m:Int)=some (!uk k (d+1) m,m')/\(uk k (d+1) m=true->m'=((m-Pred.lI k:Nat):Int)):=by
    intro k
    induction k with
    | nil=>intro _ m _;exact⟨m,by simp[wX,uk,Pred.lI,Pred.sQ];omega,λ_=>by simp[Pred.lI]⟩
    | cons q k O=>
     intro hk m hm;obtain⟨D,g1,g2⟩:=I q (hk q (by simp)) (d+1) m (by omega) (by omega) (by omega) (by omega) hm
     have e1:g_ q (d:Int) (m:Int) R=some (!nu q (d+1) m,D):=by
      unfold g_;rw[dG d (by omega),g1];rfl
     simp only[wX,e1,ζb];have u:uk (q::k) (d+1) m=(nu q (d+1) m&&uk k (d+1) (m-q.sz)):=by
      rw[Bool.eq_iff_iff];simp only[uk,nu,Pred.lI,Pred.sQ,ζh,List.all_cons];constructor
      .rintro⟨A,B,C,a4⟩;have A:=of_decide_eq_true A;have B:=of_decide_eq_true B;exact⟨⟨decide_eq_true (by omega),decide_eq_true (by omega),C⟩,decide_eq_true (by omega),decide_eq_true (by omega),a4⟩
      .rintro⟨⟨A,B,C⟩,X,Y,b3⟩;have A:=of_decide_eq_true A;have B:=of_decide_eq_true B;have X:=of_decide_eq_true X;have Y:=of_decide_eq_true Y;exact⟨decide_eq_true (by omega),decide_eq_true (by omega),C,b3⟩
     cases w:nu q (d+1) m with
     | false=>
      rw[u,w];exact⟨D,rfl,λh=>by cases h⟩
     | true=>
      obtain⟨m',Q,S⟩:=O (λx hx=>hk x (List.mem_cons_of_mem _ hx)) (m-q.sz) (by omega)
      rw[u,w,Bool.true_and,g2 w];refine⟨m',by simpa using Q,λh=>?_⟩
      rw[S h];have:q.sz<=m:=by
       have:=w;simp only[nu,ζh]at this;exact of_decide_eq_true this.1
      congr 1
      show m-q.sz-Pred.lI k=m-(q.sz+Pred.lI k);omega
   obtain⟨m',Q,S⟩:=key p.l.l (λq J=>J) (l-1) (by omega)
   rw[show ((l:Int)-1)=((l-1:Nat):Int)from by omega,Q,ζb]
   have w:nu p d l=uk p.l.l (d+1) (l-1):=by
    rw[Bool.eq_iff_iff];simp only[nu,uk,ζh,T,W,true_and,G,L];constructor
    .rintro⟨A,B,C⟩;have A:=of_decide_eq_true A;have B:=of_decide_eq_true B;exact⟨decide_eq_true (by omega),decide_eq_true (by omega),C⟩
    .rintro⟨A,B,C⟩;have A:=of_decide_eq_true A;have B:=of_decide_eq_true B;exact⟨decide_eq_true (by omega),decide_eq_true (by omega),C⟩
   refine⟨m',by rw[w];simp,λh=>?_⟩
   rw[S (by rw[<-w];exact h),G]
   congr 1
   omega
theorem Du {p:Pred} (B:p.Sm):mG p=some (oq p):=by
 obtain⟨C,h,-⟩:=SZ p B 100000 1 200 (by omega) (by omega) (by omega) (by omega) (by omega)
 unfold mG pT;rw[show cV (λr (z:Pred×Int×Int)=>eo z.1 z.2.1 z.2.2 r) 100000 (p,(1:Int),(200:Int))=_ from h]
 simp only[ζb]
 congr 1
 rw[Bool.eq_iff_iff];simp only[oq,nu,ζh];constructor
 .rintro⟨w,u,A⟩;have u:=of_decide_eq_true u;exact⟨w,decide_eq_true (by omega),A⟩
 .rintro⟨w,u,A⟩;have u:=of_decide_eq_true u;exact⟨w,decide_eq_true (by omega),A⟩
theorem PT {l:List Pred} {i:Nat} (h:i<l.length):Pred.lI (l.take (i+1))=Pred.lI (l.take i)+l[i].sz:=by
 have key:∀(l:List Pred) (i:Nat) (h:i<l.length),Pred.lI (l.take (i+1))=Pred.lI (l.take i)+l[i].sz:=by
  intro l
  induction l with
  | nil=>intro i h;simp at h
  | cons x r u=>
   intro i h
   cases i with
   | zero=>simp[Pred.lI]
   | succ i=>
    have:=u i (by simpa using h)
    simp only[List.take_succ_cons,Pred.lI,List.getElem_cons_succ]at this ⊢;omega
 exact key l i h
theorem O3 {l:List Pred} {i:Nat} (h:i<l.length):Pred.sQ (l.take (i+1))=max (Pred.sQ (l.take i)) l[i].dp:=by
 have key:∀(l:List Pred) (i:Nat) (h:i<l.length),Pred.sQ (l.take (i+1))=max (Pred.sQ (l.take i)) l[i].dp:=by
  intro l
  induction l with
  | nil=>intro i h;simp at h
  | cons x r u=>
   intro i h
   cases i with
   | zero=>simp[Pred.sQ]
   | succ i=>
    have:=u i (by simpa using h)
    simp only[List.take_succ_cons,Pred.sQ,List.getElem_cons_succ]at this ⊢;omega
 exact key l i h
theorem IM (l:List Pred) (i:Nat):Pred.lI (l.take i)<=Pred.lI l:=by
 induction l generalizing i with
 | nil=>simp
 | cons x r u=>cases i with
  | zero=>simp[Pred.lI]
  | succ i=>simp only[List.take_succ_cons,Pred.lI];have:=u i;omega
theorem count_eq (p:Pred) (D:p.Sm):∀(n l:Nat),l+1<=n->l<=200->cV (λr (z:Pred×Int)=>gN z.1 z.2 r) n (p,(l:Int))=some ((min p.sz (l+1):Nat):Int):=by
 induction p using Pred.ind with
 | h p B=>
  intro n l L O;have I:=p.QB;rw[gU (by omega)]
  have B:=λq G=>B q G (D.sE G) (n-1)
  show gN p (l:Int) (cV (λr (z:Pred×Int)=>gN z.1 z.2 r) (n-1))=_
  generalize cV (λr (z:Pred×Int)=>gN z.1 z.2 r) (n-1)=R at B ⊢
  unfold gN jJ.W1;refine Wp.eq ?_;refine gO (λs:Int×Int=>∃i:Nat,s.2=i/\i<=p.l.l.length/\s.1=((min (1+Pred.lI (p.l.l.take i)) (l+1):Nat):Int)) (λs=>p.l.l.length-s.2.toNat) ⟨0,rfl,Nat.zero_le _,by simp[Pred.lI]⟩ ?_
  rintro⟨c,_⟩ ⟨i,rfl,hi,hc⟩;simp only at hc;subst hc;unfold jJ.bz
  by_cases u:i<p.l.l.length
  .rw[ot u,bH,ζb]
   by_cases J:min (1+Pred.lI (p.l.l.take i)) (l+1)<=l
   .have w:min (1+Pred.lI (p.l.l.take i)) (l+1)=1+Pred.lI (p.l.l.take i):=by omega
    have A:=List.getElem_mem u;rw[decide_eq_true (show (((min (1+Pred.lI (p.l.l.take i)) (l+1):Nat)):Int)<=(l:Int)by omega),bH,bT u,ζb,w,gL _ (by omega) (by omega),
     show (l:Int)-((1+Pred.lI (p.l.l.take i):Nat):Int)=((l-(1+Pred.lI (p.l.l.take i)):Nat):Int)from by omega,
     B _ A _ (by omega) (by omega),ζb,bl,gL _ (by omega) (by omega),dG i (by have:=D.len;omega)]
    refine⟨⟨i+1,rfl,by omega,?_⟩,by simp only;omega⟩
    simp only;rw[PT u];omega
   .rw[decide_eq_false (show ¬(((min (1+Pred.lI (p.l.l.take i)) (l+1):Nat)):Int)<=(l:Int)by omega),bG,bl]
    refine(bl _).2 ?_;have:=IM p.l.l i
    congr 1
    omega
  .have C:i=p.l.l.length:=by omega
   subst C;rw[show decide (((p.l.l.length:Nat):Int)<len p.l)=false from qE,bG,ζb,bG,bl];refine(bl _).2 ?_;rw[List.take_length]
   congr 1
   omega
theorem OW (p:Pred) (B:p.Sm):∀(n m:Nat),m+1<=n->m<=200->cV (λr (z:Pred×Int)=>gM z.1 z.2 r) n (p,(m:Int))=some ((min p.dp (m+1):Nat):Int):=by
 induction p using Pred.ind with
 | h p A=>
  intro n m G I;have D:=p.Dl;rw[gU (by omega)]
  have A:=λq C=>A q C (B.sE C) (n-1)
  show gM p (m:Int) (cV (λr (z:Pred×Int)=>gM z.1 z.2 r) (n-1))=_
  generalize cV (λr (z:Pred×Int)=>gM z.1 z.2 r) (n-1)=R at A ⊢
  unfold gM
  by_cases h0:m=0
  .subst h0;rw[show (((0:Nat):Int)==0)=true from rfl,bH]
   congr 1;omega
  rw[show ((m:Int)==0)=false from by simp;omega,bG]
  unfold jb.W1;refine Wp.eq ?_;refine qw p.l.l.length (λi s=>s.2=(i:Int)/\s.1=((min (Pred.sQ (p.l.l.take i)) m:Nat):Int)) ⟨rfl,by simp[Pred.sQ]⟩ ?_ ?_
  .rintro i ⟨c,_⟩ u ⟨e1,e2⟩;simp only at e1 e2;subst e1 e2;have w:=List.getElem_mem u;unfold jb.bz;rw[ot u,bH,bT u,ζb,gL _ (by omega) (by omega),show ((m:Int)-1)=((m-1:Nat):Int)from by omega,A _ w _ (by omega) (by omega),ζb,bl,dG i (by have:=B.len;omega)]
   refine⟨rfl,?_⟩;simp only;rw[O3 u];split <;> omega
  .rintro⟨c,_⟩ ⟨e1,e2⟩;simp only at e1 e2;subst e1 e2;unfold jb.bz;rw[qE,bG,bl];refine(bl _).2 ?_;rw[List.take_length,dG _ (by omega)]
   omega
theorem CM {p:Pred} (B:p.Sm):oA p=some (oq p):=by
 unfold oA xh jJ jb e8;rw[show cV (λr (z:Pred×Int)=>gN z.1 z.2 r) 100000 (p,(200:Int))=_ from count_eq p B 100000 200 (by omega) (by omega),ζb,ζb]
 unfold oq
 by_cases h1:p.sz<=200
 .rw[decide_eq_true h1,if_neg (by omega),decide_eq_true (by omega),bH,show cV (λr (z:Pred×Int)=>gM z.1 z.2 r) 100000 (p,(21:Int))=_ from OW p B 100000 21 (by omega) (by omega),ζb,ζb]
  by_cases u:p.dp<=20
  .rw[decide_eq_true u,decide_eq_true (by omega),bH,Mi p B 100000 (by omega)];rfl
  .rw[decide_eq_false u,decide_eq_false (by omega)];rfl
 .rw[decide_eq_false h1,decide_eq_false (by split <;> omega)];rfl
end Go.VE
namespace Go.VE
section
variable {t:Trace}
abbrev rR (t:Trace) (p:Int):Bool:=decide (p>=0)&&decide (p<len t.procs)
def BN (t:Trace) (p:Int) (name:ByteArray):Bool:=match idx t.procs p with
 | some P=>P.vars.l.any λv=>ByteArray.toList v.name==ByteArray.toList name
 | none=>false
def o4 (t:Trace) (q:Pred):Bool:=
 if q.kind==2 then rR t q.proc&&(q.peer==0&&BN t q.proc q.name)
 else if q.kind==3 then rR t q.proc&&(q.peer==0&&Gb q)
 else if q.kind==4 then rR t q.proc&&(rR t q.peer&&(!(q.proc==q.peer)&&Gb q))else true
theorem JR (p:Int):jS t p=some (rR t p):=by
 unfold jS rR;cases decide (p>=0) <;> rfl
theorem QT (p:Int):mU t p=some (rR t p):=by
 unfold mU rR;cases decide (p>=0) <;> rfl
theorem zR {p:Int} (h:rR t p=true):∃n:Nat,p=n/\n<t.procs.l.length:=by
 simp only[rR,ζh]at h;have h1:=of_decide_eq_true h.1;have u:=of_decide_eq_true h.2;exact⟨p.toNat,by omega,by simp only[len]at u;omega⟩
theorem Oe (hS:Small t) {p:Int} (h:rR t p=true) (name:ByteArray):qd t p name=some (BN t p name):=by
 obtain⟨n,rfl,u⟩:=zR h;unfold qd BN;rw[bT u,ζb,Bl (p:=λz=>nr z name) (f:=λv=>ByteArray.toList v.name==ByteArray.toList name) (λv _=>rfl) (hS.2 _ (List.getElem_mem u)).2.1]
 rfl
theorem Dy (hS:Small t) {p:Int} (h:rR t p=true) (name:ByteArray):Wp (iE t p name) λi=>(∃(n k:Nat) (P:bQ) (v:Var),p=n/\t.procs.l[n]? = some P/\i=k/\P.vars.l[k]? = some v/\(ByteArray.toList v.name==ByteArray.toList name)=true/\(∀(j:Nat) (w:Var),j<k->P.vars.l[j]? = some w->(ByteArray.toList w.name==ByteArray.toList name)=false)/\BN t p name=true)\/i=-1/\BN t p name=false:=by
 obtain⟨n,rfl,u⟩:=zR h;have hP:=ζd u;have J:=(hS.2 _ (List.getElem_mem u)).2.1;unfold iE iE.W1;have z:BN t (n:Int) name=t.procs.l[n].vars.l.any λv=>ByteArray.toList v.name==ByteArray.toList name:=by unfold BN;rw[bT u]
 refine qw t.procs.l[n].vars.l.length (λi s=>s=(i:Int)/\∀(j:Nat) (w:Var),j<i->t.procs.l[n].vars.l[j]? = some w->(ByteArray.toList w.name==ByteArray.toList name)=false) ⟨rfl,λj w A=>absurd A (by omega)⟩ ?_ ?_
 .rintro i _ hi ⟨rfl,B⟩;unfold iE.bz;rw[bT u,ζb,ot hi,bH,ζb,bT hi,ζb]
  cases C:ByteArray.toList t.procs.l[n].vars.l[i].name==ByteArray.toList name with
  | true=>
   rw[bH,bl];refine(bl _).2 (.inl ⟨n,i,_,_,rfl,hP,rfl,ζd hi,C,B,?_⟩);rw[z,List.any_eq_true];exact⟨_,List.getElem_mem hi,C⟩
  | false=>
   rw[bG,bl,dG i (by omega)]
   refine⟨rfl,λj w A D=>?_⟩
   by_cases G:j=i
   .subst G;rw[ζd hi]at D;cases D;exact C
   .exact B j w (by omega) D
 .rintro _ ⟨rfl,B⟩;unfold iE.bz;rw[bT u,ζb,qE,bG,bl];refine(bl _).2 (.inr ⟨rfl,?_⟩);rw[z,List.any_eq_false];intro v hv;obtain⟨j,A⟩:=List.mem_iff_getElem?.1 hv;have I:=(ζe.1 A).1;rw[B j v I A];simp
theorem S8 (hS:Small t) (q:Pred):jM q t=some (o4 t q):=by
 unfold jM o4 Gb;rw[JR,JR]
 cases q.kind==2 with
 | true=>
  rw[bH,if_pos rfl,ζb]
  cases h:rR t q.proc with
  | false=>rfl
  | true=>
   rw[Oe hS h];cases q.peer==0 <;> rfl
 | false=>
  rw[bG,if_neg (by simp)]
  cases q.kind==3 with
  | true=>
   rw[bH,if_pos rfl];cases rR t q.proc <;> cases q.peer==0 <;> cases (ByteArray.toList q.name==ByteArray.toList ByteArray.empty) <;> rfl
  | false=>
   rw[bG,if_neg (by simp)]
   cases q.kind==4 with
   | true=>
    rw[bH,if_pos rfl];cases rR t q.proc <;> cases rR t q.peer <;> cases (q.proc==q.peer) <;> cases (ByteArray.toList q.name==ByteArray.toList ByteArray.empty) <;> rfl
   | false=>rfl
theorem S_ (hS:Small t) (q:Pred) (r:Trace×Pred->Option Bool):fe t q r=a_ (o4 t q) (fK.W1 0 t q r) (some false):=by
 unfold fe o4 Gb;rw[QT,QT];have hex:(q.kind==2)=true->(q.kind==3)=false/\(q.kind==4)=false:=λh=>by
  have:q.kind=2:=by simpa using h
  rw[this];exact⟨rfl,rfl⟩
 have u:(q.kind==3)=true->(q.kind==4)=false:=λh=>by
  have:q.kind=3:=by simpa using h
  rw[this];rfl
 cases z:q.kind==2 with
 | true=>
  obtain⟨w,A⟩:=hex z;rw[bH,if_pos rfl,ζb,w,A]
  cases h:rR t q.proc with
  | false=>rfl
  | true=>
   rw[bH,ζb]
   cases q.peer==0 with
   | false=>rfl
   | true=>
    obtain⟨i,hi,hc⟩:=Dy hS h q.name;rw[show (!true)=false from rfl,bG,hi,ζb];rcases hc with⟨n,k,P,v,-,-,rfl,-,-,-,hv⟩|⟨rfl,hv⟩
    .rw[hv,decide_eq_false (show ¬((k:Nat):Int)<0 by omega)];rfl
    .rw[hv];rfl
 | false=>
  rw[bG,if_neg (by simp),ζb,bG]
  cases w:q.kind==3 with
  | true=>
   rw[bH,if_pos rfl,u w];cases rR t q.proc <;> cases q.peer==0 <;> cases (ByteArray.toList q.name==ByteArray.toList ByteArray.empty) <;> rfl
  | false=>
   rw[bG,if_neg (by simp),ζb,bG]
   cases q.kind==4 with
   | true=>
    rw[bH,if_pos rfl];cases rR t q.proc <;> cases rR t q.peer <;> cases (q.proc==q.peer) <;> cases (ByteArray.toList q.name==ByteArray.toList ByteArray.empty) <;> rfl
   | false=>rfl
theorem OX {f:Pred->Option Bool} {g:Pred->Bool} (h:∀q,f q=some (g q)) {p:Pred} (B:p.Sm) (hd:p.dp<=100000):oG p f=some (p.eS g):=by
 refine JJ p B ?_ _ hd
 induction p using Pred.ind with
 | h p w=>
  rw[p.hG,ζh,List.all_eq_true];exact⟨by rw[h];simp,λq u=>w q u (B.sE u) (by have:=Pred.oh u;omega)⟩
theorem HM (hS:Small t) {p:Pred} (B:p.Sm) (hd:p.dp<=100000):nq t p=some (p.eS (o4 t)):=by
 unfold nq;rw[OX (g:=o4 t) (λq=>S8 hS q) B hd];rfl
theorem Ij (hS:Small t) (p:Pred) (B:p.Sm):∀n,p.dp<=n->cV (λr (z:Trace×Pred)=>fe z.1 z.2 r) n (t,p)=some (p.eS (o4 t)):=by
 induction p using Pred.ind with
 | h p u=>
  intro n A;have hd:=p.pO;rw[gU (by omega)]
  have u:=λq w=>u q w (B.sE w) (n-1)
  show fe t p (cV (λr (z:Trace×Pred)=>fe z.1 z.2 r) (n-1))=_
  generalize cV (λr (z:Trace×Pred)=>fe z.1 z.2 r) (n-1)=R at u ⊢
  rw[S_ hS,p.hG]
  cases o4 t p with
  | false=>rfl
  | true=>
   rw[bH,Bool.true_and];unfold fK.W1;refine uz (g:=Pred.eS (o4 t)) B.len (λi hi=>?_) ?_
   .unfold fK.bz;rw[ot hi,bH,bT hi,ζb,u _ (List.getElem_mem hi) (by have:=Pred.oh (List.getElem_mem hi);omega),ζb,dG i (by have:=B.len;omega)]
    cases Pred.eS (o4 t) p.l.l[i] <;> rfl
   .unfold fK.bz;rw[qE];rfl
abbrev l_ (k:Int):Int:=if k<=8 then 1 else 2
abbrev tJ (k:Int):Int:=if k<=12 then 1 else 2
def pP (q:Pred):Bool:=q.l.l.all λk=>l_ k.kind==tJ q.kind
theorem zJ (k:Int):kQ k=some (l_ k):=by
 unfold kQ l_
 by_cases h:k<=8
 .rw[decide_eq_true h,if_pos h];rfl
 .rw[decide_eq_false h,if_neg h];rfl
theorem Cb (q:Pred):oU q=some (l_ q.kind):=by
 unfold oU l_
 by_cases h:q.kind<=8
 .rw[decide_eq_true h,if_pos h];rfl
 .rw[decide_eq_false h,if_neg h];rfl
theorem Ry (k:Int):qX k=some (tJ k):=by
 unfold qX tJ
 by_cases h:k<=12
 .rw[decide_eq_true h,if_pos h];rfl
 .rw[decide_eq_false h,if_neg h];rfl
theorem Rr {q:Pred} (B:q.l.l.length<1073741824):iS q=some (pP q):=by
 unfold iS pP;rw[wM _ B,vO (f:=λk => !(l_ k.kind==tJ q.kind)) (λk _=>by
  unfold lu;rw[zJ,Ry];rfl)]
 simp only[Option.map_some,ζb]
 congr 1
 rw[Bool.eq_iff_iff];simp
theorem Er {p:Pred} (B:p.Sm) (hd:p.dp<=100000):nM p=some (p.eS pP):=by
 unfold nM;have:p.eS (λq=>(λz=>iS z) q==some (pP q))=true:=by
  clear hd
  induction p using Pred.ind with
  | h p w=>
   rw[p.hG,ζh,List.all_eq_true];exact⟨by show (iS p==some (pP p))=true;rw[Rr B.len];simp,λq u=>w q u (B.sE u)⟩
 unfold oG;rw[JJ p B this _ hd];rfl
theorem EJ (p:Pred) (D:p.Sm):p.eS fB=true->∀n,p.dp<=n->cV (λr (z:Pred)=>iJ z r) n p=some (p.eS pP):=by
 induction p using Pred.ind with
 | h p C=>
  intro G n O;have hd:=p.pO;rw[p.hG,ζh,List.all_eq_true]at G;rw[gU (by omega)]
  have C:=λq I=>C q I (D.sE I) (G.2 q I) (n-1)
  show iJ p (cV (λr (z:Pred)=>iJ z r) (n-1))=_
  generalize cV (λr (z:Pred)=>iJ z r) (n-1)=R at C ⊢
  unfold iJ fF.W1;have u:p.l.l≠[]->tJ p.kind=if p.kind>=15 then 2 else 1:=λA=>by
   obtain⟨k1,Q,J⟩:=rT G.1
   by_cases h:p.kind=13\/p.kind=14
   .have h0:cI.at wU p.kind=some 0:=by rcases h with h|h <;> (rw[h];rfl)
    rw[h0]at J;have:p.l.l.length=0:=by simpa [len]using (Option.some.inj J).symm
    exact absurd (List.length_eq_zero_iff.1 this) A
   .unfold tJ;split <;> split <;> omega
  have B:p.eS pP=p.l.l.all λk=>(l_ k.kind==tJ p.kind)&&Pred.eS pP k:=by
   rw[p.hG];unfold pP;rw[Bool.eq_iff_iff];simp only[ζh,List.all_eq_true];exact⟨λh k hk=>⟨h.1 k hk,h.2 k hk⟩,λh=>⟨λk hk=>(h k hk).1,λk hk=>(h k hk).2⟩⟩
  rw[B];refine uz (g:=λk=>(l_ k.kind==tJ p.kind)&&Pred.eS pP k) D.len (λi hi=>?_) ?_
  .have A:p.l.l≠[]:=λh=>by rw[h]at hi;simp at hi
   have L:∀w:Int,fF.J2 (i:Int) w p R=some (if(l_ p.l.l[i].kind==w)&&Pred.eS pP p.l.l[i]then .n ((i+1:Nat):Int)else .r ()):=λw=>by
    unfold fF.J2;rw[bT hi,ζb,Cb,ζb,ζb,C _ (List.getElem_mem hi) (by have:=Pred.oh (List.getElem_mem hi);omega),dG i (by have:=D.len;omega)]
    cases (l_ p.l.l[i].kind==w) <;> cases Pred.eS pP p.l.l[i] <;> rfl
   unfold fF.bz;rw[ot hi,bH,L,L,u A]
   by_cases h:p.kind>=15
   .rw[decide_eq_true h,if_pos h];rfl
   .rw[decide_eq_false h,if_neg h];rfl
  .unfold fF.bz;rw[qE];rfl
end
end Go.VE
namespace Go.VE
end Go.VE
namespace Go.VE
theorem tQ.of {t:Trace} (B:Ok t) {p:Nat} {P:bQ} (hP:t.procs.l[p]? = some P):tQ P:=by
 intro e A a C;obtain⟨k,hk⟩:=List.mem_iff_getElem?.1 A;obtain⟨i,hi⟩:=List.mem_iff_getElem?.1 C;have h:=B.eZ p k P e hP hk;unfold ni at h;have w:i<e.assign.l.length:=by
  apply Classical.byContradiction;intro G;rw[List.getElem?_eq_none (by omega)]at hi;cases hi
 have D:mw (k9 P e) 0 e.assign.l.length=0:=by
  split at h
  .split at h
   .cases h
   .split at h
    .cases h
    .exact h
  .cases h
 have u:=(EU (g:=k9 P e) (n:=e.assign.l.length) (m:=e.assign.l.length) (k:=0) (by omega)).1 D i (Nat.zero_le _) w
 unfold k9 at u;rw[hi]at u;dsimp only at u
 by_cases z:(decide (0<=a.var)&&decide (a.var<P.vars.l.length))=true
 .simpa using z
 .rw[Bool.not_eq_true]at z;rw[z]at u;simp only[Lo]at u;cases u
section
variable {P:Pred} {t:Trace}
end
end Go.VE
namespace Go.VE
def oc (l:List Int) (m:Int):Prop:=m∈l/\∀x∈l,m<=x
def isMax (l:List Int) (m:Int):Prop:=m∈l/\∀x∈l,x<=m
theorem oc.one {l:List Int} {a b:Int} (h:oc l a) (g:oc l b):a=b:=by have:=h.2 b g.1;have:=g.2 a h.1;omega
theorem isMax.one {l:List Int} {a b:Int} (h:isMax l a) (g:isMax l b):a=b:=by have:=h.2 b g.1;have:=g.2 a h.1;omega
theorem oc.snoc {l:List Int} {a x:Int} (h:oc l a):oc (l++[x]) (if x<a then x else a):=by
 obtain⟨h1,u⟩:=h;split
 .refine⟨by simp,λy hy=>?_⟩
  rcases List.mem_append.1 hy with hy|hy
  .have:=u y hy;omega
  .simp at hy;omega
 .refine⟨List.mem_append_left _ h1,λy hy=>?_⟩
  rcases List.mem_append.1 hy with hy|hy
  .exact u y hy
  .simp at hy;omega
theorem isMax.snoc {l:List Int} {a x:Int} (h:isMax l a):isMax (l++[x]) (if x>a then x else a):=by
 obtain⟨h1,u⟩:=h;split
 .refine⟨by simp,λy hy=>?_⟩
  rcases List.mem_append.1 hy with hy|hy
  .have:=u y hy;omega
  .simp at hy;omega
 .refine⟨List.mem_append_left _ h1,λy hy=>?_⟩
  rcases List.mem_append.1 hy with hy|hy
  .exact u y hy
  .simp at hy;omega
theorem Nh {s:Sl Int} (h:0<s.l.length) (B:s.l.length<1073741824):Wp (eM s) λm=>oc s.l m:=by
 unfold eM eM.J1 eM.W2;rw[decide_eq_false (show ¬len s<1 by simp only[len];omega),bG,show idx s 0=some s.l[0]from bT (i:=0) h,ζb]
 refine qw (s.l.length-1) (λn q=>q.2=((n+1:Nat):Int)/\oc (s.l.take (n+1)) q.1) ⟨rfl,?_⟩ ?_ ?_
 .rw[List.take_add_one,ζd h];exact⟨by simp,λx z=>by simp at z;omega⟩
 .rintro n ⟨m,_⟩ A ⟨rfl,w⟩;have u:n+1<s.l.length:=by omega
  unfold eM.cq;rw[ot u,bH,bT u,ζb,bl,dG _ (by omega)]
  refine⟨rfl,?_⟩;rw[List.take_add_one,ζd u];exact w.snoc
 .rintro⟨m,_⟩ ⟨rfl,w⟩;unfold eM.cq;rw[show s.l.length-1+1=s.l.length from by omega,qE,bG,bl]
  rw[show s.l.length-1+1=s.l.length from by omega,List.take_length]at w
  exact(bl _).2 w
theorem MT {s:Sl Int} (h:0<s.l.length) (B:s.l.length<1073741824):Wp (eF s) λm=>isMax s.l m:=by
 unfold eF eF.J1 eF.W2;rw[decide_eq_false (show ¬len s<1 by simp only[len];omega),bG,show idx s 0=some s.l[0]from bT (i:=0) h,ζb]
 refine qw (s.l.length-1) (λn q=>q.2=((n+1:Nat):Int)/\isMax (s.l.take (n+1)) q.1) ⟨rfl,?_⟩ ?_ ?_
 .rw[List.take_add_one,ζd h];exact⟨by simp,λx z=>by simp at z;omega⟩
 .rintro n ⟨m,_⟩ A ⟨rfl,w⟩;have u:n+1<s.l.length:=by omega
  unfold eF.cq;rw[ot u,bH,bT u,ζb,bl,dG _ (by omega)]
  refine⟨rfl,?_⟩;rw[List.take_add_one,ζd u];exact w.snoc
 .rintro⟨m,_⟩ ⟨rfl,w⟩;unfold eF.cq;rw[show s.l.length-1+1=s.l.length from by omega,qE,bG,bl]
  rw[show s.l.length-1+1=s.l.length from by omega,List.take_length]at w
  exact(bl _).2 w
theorem JU {s:Sl Int} {a b:Int} (h:0<s.l.length) (B:s.l.length<1073741824) (D:oc s.l a) (G:isMax s.l b):kV s=some ⟨a,b⟩:=by
 obtain⟨m,h1,u⟩:=Nh h B;obtain⟨n,g1,g2⟩:=MT h B;unfold kV;rw[h1,ζb,g1,ζb,u.one D,g2.one G]
theorem VR (n:Int):kV (Sl.row [n]:Sl Int)=some ⟨n,n⟩:=
 JU (by simp[Sl.l]) (by simp[Sl.l]) ⟨by simp[Sl.l],λx u=>by simp[Sl.l]at u;omega⟩ ⟨by simp[Sl.l],λx u=>by simp[Sl.l]at u;omega⟩
theorem VI (a b c d:Int):kV (Sl.row [a,b,c,d]:Sl Int)=some ⟨if(if d<c then d else c)<(if b<a then b else a)then(if d<c then d else c)else(if b<a then b else a),if(if d>c then d else c)>(if b>a then b else a)then(if d>c then d else c)else(if b>a then b else a)⟩:=by
 refine JU (by simp[Sl.l]) (by simp[Sl.l]) ⟨?_,λx u=>?_⟩ ⟨?_,λx u=>?_⟩
 .show _∈[a,b,c,d];simp only[List.mem_cons,List.not_mem_nil,or_false];split <;> split <;> (try split) <;> omega
 .have u:x∈[a,b,c,d]:=u;simp only[List.mem_cons,List.not_mem_nil,or_false]at u;split <;> split <;> (try split) <;> omega
 .show _∈[a,b,c,d];simp only[List.mem_cons,List.not_mem_nil,or_false];split <;> split <;> (try split) <;> omega
 .have u:x∈[a,b,c,d]:=u;simp only[List.mem_cons,List.not_mem_nil,or_false]at u;split <;> split <;> (try split) <;> omega
theorem Lt (a b:Int):jq a b=cH a b:=by
 unfold jq cH cH.J1 sL
 by_cases z:a=0
 .subst z;rw[show (0:Int)*b=0 from by omega]
  rfl
 .have u:(a==0)=false:=by simpa using z
  by_cases A:b=0
  .subst A;rw[u,show a*(0:Int)=0 from by omega]
   rfl
  .have w:(b==0)=false:=by simpa using A
   rw[u,w];rfl
def kY (az:List Assign) (v:Int):Option Int:=(az.find? λa=>a.var==v).map Assign.value
def Ds (az:List Assign):Prop:=∀(i j:Nat) a b,i<j->az[i]? = some a->az[j]? = some b->a.var≠b.var
theorem Ds.tail {a:Assign} {r:List Assign} (h:Ds (a::r)):Ds r:=λi j x y u w z=>h (i+1) (j+1) x y (by omega) (by simpa using w) (by simpa using z)
theorem Ds.head {a:Assign} {r:List Assign} (h:Ds (a::r)):∀b∈r,a.var≠b.var:=λb u=>by
 obtain⟨j,w⟩:=List.mem_iff_getElem?.1 u;exact h 0 (j+1) a b (by omega) (by simp) (by simpa using w)
theorem Gt:∀(az:List Assign) (l:List Int) (k:Nat),Ds az->(∀a∈az,0<=a.var)->k<l.length->(yw l az)[k]? = some ((kY az k).getD (l[k]?.getD 0))
 | [],l,k,_,_,hk=>by simp[yw,kY,ζd hk]
 | a::r,l,k,hd,h0,hk=>by
  show (yw (l.set a.var.toNat a.value) r)[k]? = _;have B:=h0 a (by simp)
  rw[Gt r _ k hd.tail (λb w=>h0 b (List.mem_cons_of_mem _ w)) (by simpa using hk)]
  congr 1
  by_cases u:a.var=(k:Int)
  .have hr:kY r k=none:=by
    unfold kY;rw[Option.map_eq_none_iff,List.find?_eq_none];intro b w;have:=hd.head b w;simp;omega
   rw[hr];unfold kY;rw[List.find?_cons_of_pos (by simpa using u)]
   simp only[Option.getD_none,Option.map_some,Option.getD_some];rw[List.getElem?_set,if_pos (by omega),if_pos (by omega)]
   rfl
  .have hr:kY (a::r) k=kY r k:=by
    unfold kY;rw[List.find?_cons_of_neg (by simpa using u)]
   rw[hr,List.getElem?_set,if_neg (by omega)]
def lF (P:bQ) (v k:Nat):Int:=((gV P k)[v]?).getD 0
structure NO (P:bQ):Prop where
 ok:tQ P
 dst:∀e∈P.events.l,Ds e.assign.l
theorem ET {P:bQ} {v:Nat} (k:Nat) (hv:v<P.vars.l.length):(gV P k)[v]? = some (lF P v k):=by
 unfold lF;rw[ζd (by rw[n9];exact hv)];rfl
theorem Eg {P:bQ} (B:NO P) {v k:Nat} (hv:v<P.vars.l.length) {e:Event} (D:P.events.l[k]? = some e):lF P v (k+1)=(kY e.assign.l v).getD (lF P v k):=by
 have u:=List.mem_of_getElem? D;have h1:gV P (k+1)=yw (gV P k) e.assign.l:=by
  show (match P.events.l[k]? with|some e=>yw (gV P k) e.assign.l|none=>gV P k)=_
  rw[D]
 unfold lF;rw[h1,Gt _ _ _ (B.dst e u) (λa w=>(B.ok e u a w).1) (by rw[n9];exact hv)]
 rfl
theorem NO.of {t:Trace} (B:Ok t) {p:Nat} {P:bQ} (hP:t.procs.l[p]? = some P):NO P:=by
 refine⟨tQ.of B hP,λe D i j a b w G C z=>?_⟩
 obtain⟨k,hk⟩:=List.mem_iff_getElem?.1 D;have h:=B.eZ p k P e hP hk;unfold ni at h;have A:j<e.assign.l.length:=(ζe.1 C).1;have I:mw (k9 P e) 0 e.assign.l.length=0:=by
  split at h
  .split at h
   .cases h
   .split at h
    .cases h
    .exact h
  .cases h
 have u:=(EU (g:=k9 P e) (n:=e.assign.l.length) (m:=e.assign.l.length) (k:=0) (by omega)).1 I j (Nat.zero_le _) A
 unfold k9 at u;rw[C]at u;dsimp only at u;have J:iF (fO e.assign.l λx=>x.var==b.var) 0 j=true:=by
  rw[HN];exact⟨i,Nat.zero_le _,w,by simp[fO,G,z]⟩
 rw[J]at u
 revert u
 cases (decide (0<=b.var)&&decide (b.var<P.vars.l.length)) <;> cases (decide (b.value>=-1073741824)&&decide (b.value<=1073741824)) <;> simp[Lo]
end Go.VE
namespace Go.VE
abbrev o_ (P:bQ) (v n:Nat):List Int:=(List.range (n+1)).map (lF P v)
theorem Kp (P:bQ) (v n:Nat):o_ P v (n+1)=o_ P v n++[lF P v (n+1)]:=by
 unfold o_;rw[List.range_succ,List.map_append];rfl
theorem EO {P:bQ} {v n k:Nat} (h:k<=n):lF P v k∈o_ P v n:=List.mem_map.2 ⟨k,List.mem_range.2 (by omega),rfl⟩
theorem oc.old {l:List Int} {a x:Int} (h:oc l a) (B:x∈l):oc (l++[x]) a:=
 ⟨List.mem_append_left _ h.1,λy hy=>by
  rcases List.mem_append.1 hy with hy|hy
  .exact h.2 y hy
  .simp at hy;subst hy;exact h.2 _ B⟩
theorem isMax.old {l:List Int} {a x:Int} (h:isMax l a) (B:x∈l):isMax (l++[x]) a:=
 ⟨List.mem_append_left _ h.1,λy hy=>by
  rcases List.mem_append.1 hy with hy|hy
  .exact h.2 y hy
  .simp at hy;subst hy;exact h.2 _ B⟩
section
variable {P:bQ} {v:Nat}
theorem MN (D:tQ P) (hv:P.vars.l.length<1073741824) (U:P.events.l.length<1073741823) (G:∀e∈P.events.l,e.assign.l.length<1073741824) (B:v<P.vars.l.length) :
 Wp (fG P v) λs=>s.l=o_ P v P.events.l.length:=by
 obtain⟨r,h1,A,C⟩:=EV D hv (by omega) G
 have key:∀(rem:List (Int×Sl Int)) (i:Nat) (q:Sl Int),r.drop i=rem->i<=r.length->q.l=(List.range i).map (lF P v)->∃s,(j8 (λ(x:Int×(Sl Int)) (q:Sl Int)=>fG.kr P v x q) rem q).bind (Fw.qg (λq=>some q) (λe=>Empty.elim e) (λe=>Empty.elim e))=some s/\s.l=(List.range r.length).map (lF P v):=by
  intro rem
  induction rem with
  | nil=>
   intro i q hd hi z;have:r.length<=i:=by simpa using hd
   exact⟨q,rfl,by rw[z,show i=r.length from by omega]⟩
  | cons y rem I=>
   intro i q hd _ z;have u:i<r.length:=by
    apply Classical.byContradiction;intro Q;rw[List.drop_eq_nil_of_le (by omega)]at hd;cases hd
   have e2:=List.drop_eq_getElem_cons u;rw[e2]at hd;simp only[List.cons.injEq]at hd;obtain⟨S,J⟩:=C i y (by rw[ζd u,hd.1])
   have L:idx y.2 (v:Int)=some (lF P v i):=by rw[jo,J];exact ET i B
   have O:q.l.length=i:=by rw[z];simp
   have w:jr q (lF P v i)=some (.row (q.l++[lF P v i])):=by unfold jr;rw[if_pos (by omega)]
   obtain⟨s,g1,g2⟩:=I (i+1) (.row (q.l++[lF P v i])) hd.2 (by omega) (by show q.l++[lF P v i]=_;rw[z,List.range_succ,List.map_append];rfl)
   refine⟨s,?_,g2⟩;simp only[j8,fG.kr,L,w,ζb];exact g1
 obtain⟨s,g1,g2⟩:=key r 0 .nil rfl (Nat.zero_le _) rfl;refine⟨s,?_,by show s.l=_;rw[g2,A]⟩
 unfold fG mK fG.E1;simp only[ζb,h1];exact g1
theorem GY {α:Type} {f:α->Bool} {l:List α} {k:Nat} {x:α} (h1:l[k]? = some x) (B:f x=true) (D:∀(j:Nat) (y:α),j<k->l[j]? = some y->f y=false):place f l=k:=by
 unfold place;have hk:=(ζe.1 h1);obtain⟨hk,u⟩:=hk;rw[show l.findIdx? f=some k from by
  rw[List.findIdx?_eq_some_iff_getElem];exact⟨hk,by rw[u];exact B,λj w=>by rw[D j _ w (ζd (by omega))];simp⟩]
theorem L_ {t:Trace} (hS:Small t) (hv:eA t=some true) (D:Ok t) {n:Nat} (hP:t.procs.l[n]? = some P) {name:ByteArray} {x:Var} (h1:P.vars.l[v]? = some x) (U:(ByteArray.toList x.name==ByteArray.toList name)=true)
 (W:∀(j:Nat) (w:Var),j<v->P.vars.l[j]? = some w->(ByteArray.toList w.name==ByteArray.toList name)=false) :
 Wp (qh t n name) λr=>r.2.2=0/\oc (o_ P v P.events.l.length) r.1/\isMax (o_ P v P.events.l.length) r.2.1:=by
 have L:n<t.procs.l.length:=(ζe.1 hP).1;have O:=List.mem_of_getElem? hP;have u:=hS.2 P O;have B:v<P.vars.l.length:=(ζe.1 h1).1;have G:P.events.l.length<=64:=by
  have:=D.heads n L;unfold rV at this;rw[hP]at this;dsimp only at this;split at this
  .split at this
   .cases this
   .split at this
    .split at this
     .cases this
     .omega
    .rename_i C;exact absurd this C
  .cases this
 obtain⟨s,g1,g2⟩:=MN (tQ.of D hP) u.2.1 (by omega) u.2.2.2.2 B
 have hsl:s.l.length=P.events.l.length+1:=by rw[g2];simp[o_]
 obtain⟨a,Q,I⟩:=Nh (s:=s) (by omega) (by omega)
 obtain⟨b,S,J⟩:=MT (s:=s) (by omega) (by omega)
 have A:qV t n name=some ((v:Int),0):=by
  unfold qV;rw[hv,ζb,bH,decide_eq_false (show ¬(n:Int)<0 by omega),bG,ζb,decide_eq_false (show ¬(n:Int)>=len t.procs by simp only[len];omega),bG,jo,hP,ζb]
  unfold tC;rw[BL (p:=λz=>nh z name) (f:=λw=>ByteArray.toList w.name==ByteArray.toList name) (λ_ _=>rfl) u.2.1,GY h1 U W,ζb,ζb,decide_eq_false (show ¬((v:Nat):Int)<0 by omega)]
  rfl
 unfold qh;rw[A,ζb];simp only;rw[show ((0:Int)==0)=true from rfl,bH,jo,hP,ζb,g1,ζb,Q,ζb,S,ζb,bl];rw[g2]at I J;exact⟨rfl,I,J⟩
def fS (o:Option Int) (low high:Int):Int×Int:=match o with
 | none=>(low,high)
 | some x=>(if x<low then x else low,if x>high then x else high)
theorem ES {az:List Assign} (hd:Ds az) {j:Nat} (B:j<az.length):kY (az.take (j+1)) v=if az[j].var=(v:Int)then some az[j].value else kY (az.take j) v:=by
 unfold kY;rw[List.take_add_one,ζd B];show ((az.take j++[az[j]]).find? _).map _=_;rw[List.find?_append]
 by_cases h:az[j].var=(v:Int)
 .rw[if_pos h];have:(az.take j).find? (λa=>a.var==(v:Int))=none:=by
   rw[List.find?_eq_none];intro b w;obtain⟨i,hi⟩:=List.mem_iff_getElem?.1 w;have u:i<j:=by
    have:=(ζe.1 hi).1;rw[List.length_take]at this;omega
   rw[List.getElem?_take_of_lt u]at hi;have:=hd i j b az[j] u hi (ζd B);simp;omega
  rw[this,List.find?_cons_of_pos (by simpa using h)];rfl
 .rw[if_neg h,List.find?_cons_of_neg (by simpa using h)]
  simp
theorem M7 {az:List Assign} (hd:Ds az) {j:Nat} (B:j<az.length) (h:az[j].var=(v:Int)):kY (az.take j) v=none:=by
 unfold kY;rw[Option.map_eq_none_iff,List.find?_eq_none];intro b w;obtain⟨i,hi⟩:=List.mem_iff_getElem?.1 w;have u:i<j:=by
  have:=(ζe.1 hi).1;rw[List.length_take]at this;omega
 rw[List.getElem?_take_of_lt u]at hi;have:=hd i j b az[j] u hi (ζd B);simp;omega
theorem M4 {t:Trace} (hS:Small t) (U:Ok t) {n:Nat} (hP:t.procs.l[n]? = some P) (B:v<P.vars.l.length) :
 Wp (eY t n v) λr=>oc (o_ P v P.events.l.length) r.1/\isMax (o_ P v P.events.l.length) r.2:=by
 have Q:=List.mem_of_getElem? hP;have I:=hS.2 P Q;have L:=NO.of U hP;have A:idx t.procs (n:Int)=some P:=by rw[jo];exact hP
 unfold eY;rw[A,ζb,bT B,ζb];unfold eY.W1;have h0:o_ P v 0=[P.vars.l[v].init_]:=by
  simp[o_,lF,gV,ζd B]
 refine qw P.events.l.length (λi s=>s.2.2=(i:Int)/\oc (o_ P v i) s.1/\isMax (o_ P v i) s.2.1) ⟨rfl,by rw[h0];exact⟨by simp,λx A=>by simp at A;show P.vars.l[v].init_<=x;omega⟩,by rw[h0];exact⟨by simp,λx A=>by simp at A;show x<=P.vars.l[v].init_;omega⟩⟩ ?_ ?_
 .rintro i ⟨low,high,_⟩ hi ⟨rfl,w,z⟩;simp only at w z;have C:=List.getElem_mem hi;have hd:=L.dst _ C;have S:=I.2.2.2.2 _ C;have u:=Eg L B (ζd hi);unfold eY.bz;rw[A,ζb,ot hi,bH,ζb,bT hi,ζb];generalize P.events.l[i]=e at *;unfold eY.W2;refine qw e.assign.l.length (λj s=>s.2.2=(j:Int)/\(s.1,s.2.1)=fS (kY (e.assign.l.take j) v) low high) ⟨rfl,by simp[kY,fS]⟩ ?_ ?_
  .rintro j ⟨lo,J,_⟩ D ⟨rfl,hu⟩;unfold eY.cq;rw[ot D,bH,bT D,ζb]
   by_cases G:e.assign.l[j].var=(v:Int)
   .rw[show (e.assign.l[j].var==(v:Int))=true from by simpa using G,bH,ζb,ζb,bl,dG j (by omega)]
    rw[M7 hd D G]at hu;simp only[fS,ζc]at hu;obtain⟨rfl,rfl⟩:=hu;refine⟨rfl,?_⟩;rw[ES hd D,if_pos G];rfl
   .rw[show (e.assign.l[j].var==(v:Int))=false from by simpa using G,bG,bl,dG j (by omega)]
    refine⟨rfl,?_⟩;rw[ES hd D,if_neg G];exact hu
  .rintro⟨lo,J,_⟩ ⟨rfl,hu⟩;unfold eY.cq;rw[qE,bG,bl];simp only;rw[bl,dG i (by omega)]
   rw[List.take_length]at hu;refine⟨rfl,?_⟩;simp only;rw[Kp]
   cases O:kY e.assign.l v with
   | none=>
    rw[O]at hu u;simp only[fS,ζc]at hu;obtain⟨rfl,rfl⟩:=hu;rw[show lF P v (i+1)=lF P v i from u];exact⟨w.old (EO (Nat.le_refl _)),z.old (EO (Nat.le_refl _))⟩
   | some x=>
    rw[O]at hu u;simp only[fS,ζc]at hu;obtain⟨rfl,rfl⟩:=hu;rw[show lF P v (i+1)=x from u];exact⟨w.snoc,z.snoc⟩
 .rintro⟨low,high,_⟩ ⟨rfl,w,z⟩;unfold eY.bz;rw[A,ζb,qE,bG,bl];exact(bl _).2 ⟨w,z⟩
end
end Go.VE
namespace Go.VE
theorem SR {t:Trace} (hS:Small t):∃b,vc t=some b:=by
 have h1:∀e:Event,nY e=some (decide (len e.assign>20)):=λe=>rfl
 have u:∀P∈t.procs.l,∃b,kZ P=some b:=λP hP=>by
  unfold kZ;rw[y9 (f:=λe=>decide (len e.assign>20)) (λe _=>h1 e) (hS.2 P hP).1]
  cases decide (len P.events>70) <;> cases decide (len P.vars>20) <;> exact⟨_,rfl⟩
 unfold vc;rw[zG (p:=λz=>kZ z) (f:=λP=>(kZ P).getD false) (λP hP=>by obtain⟨b,w⟩:=u P hP;rw[w];rfl) hS.1]
 cases decide (len t.procs>10) <;> exact⟨_,rfl⟩
section
variable {t:Trace} {A:cI 200 bR}
theorem Iu (hS:Small t) {p:Nat} {P:bQ} (hP:t.procs.l[p]? = some P) (q:Nat):eR t p q=some ((P.events.l.countP (kJ q):Nat):Int):=by
 have C:P∈t.procs.l:=List.mem_of_getElem? hP;have D:=(hS.2 P C).1;refine Wp.eq ?_;unfold eR;rw[jo,hP,ζb];unfold eR.W1;refine qw P.events.l.length (λn s=>s.2=(n:Int)/\s.1=(((P.events.l.take n).countP (kJ q):Nat):Int)) ⟨rfl,rfl⟩ ?_ ?_
 .rintro n ⟨o,_⟩ w ⟨e1,e2⟩;simp only at e1 e2;subst e1 e2;have z:=List.countP_le_length (p:=kJ q) (l:=P.events.l.take n);rw[List.length_take]at z;have u:(P.events.l.take (n+1)).countP (kJ q)=(P.events.l.take n).countP (kJ q)+if kJ q P.events.l[n]then 1 else 0:=by
   rw[List.take_add_one,ζd w,List.countP_append];show _+List.countP _ [P.events.l[n]]=_;rw[List.countP_cons,List.countP_nil];simp
  unfold eR.bz;rw[ot w,bH,bT w,ζb];generalize P.events.l[n]=e at u;have A:(a_ (e.kind==2) (some (e.peer==(q:Int))) (some false):Option Bool)=some (kJ q e):=by
   unfold kJ;cases e.kind==2 <;> cases e.peer==(q:Int) <;> rfl
  rw[A,ζb,dG n (by omega)]
  cases B:kJ q e with
  | true=>
   rw[B]at u;rw[bH,bl,dG _ (by omega)]
   exact⟨rfl,by simp only[u];rfl⟩
  | false=>
   rw[B]at u;rw[bG,bl];exact⟨rfl,by simp only[u];rfl⟩
 .rintro⟨o,_⟩ ⟨e1,e2⟩;simp only at e1 e2;subst e1 e2;unfold eR.bz;rw[qE,bG,bl];exact(bl _).2 (by rw[List.take_length])
theorem Li {α:Type} {f:α->Bool} {l:List α} {n:Nat} (h:n<l.length):(l.take (n+1)).countP f=(l.take n).countP f+if f l[n]then 1 else 0:=by
 rw[List.take_add_one,ζd h,List.countP_append];show _+List.countP _ [l[n]]=_;rw[List.countP_cons,List.countP_nil];simp
end
end Go.VE
namespace Go.VE
section
variable {t:Trace}
theorem RN (hS:Small t) {p:Nat} {P:bQ} (hP:t.procs.l[p]? = some P) (q:Int):iA t p q=some ((P.events.l.countP (kJ q):Nat):Int):=by
 have D:P∈t.procs.l:=List.mem_of_getElem? hP;have G:=(hS.2 P D).1;have B:idx t.procs (p:Int)=some P:=by rw[jo];exact hP
 refine Wp.eq ?_;unfold iA iA.W1;refine qw P.events.l.length (λn s=>s.2=(n:Int)/\s.1=(((P.events.l.take n).countP (kJ q):Nat):Int)) ⟨rfl,rfl⟩ ?_ ?_
 .rintro n ⟨o,_⟩ w ⟨e1,e2⟩;simp only at e1 e2;subst e1 e2;have z:=List.countP_le_length (p:=kJ q) (l:=P.events.l.take n);rw[List.length_take]at z;have u:=Li (f:=kJ q) w;unfold iA.bz;rw[B,ζb,ot w,bH,ζb,bT w,ζb];generalize P.events.l[n]=e at u;have A:(a_ (e.kind==2) (some (e.peer==q)) (some false):Option Bool)=some (kJ q e):=by
   unfold kJ;cases e.kind==2 <;> cases e.peer==q <;> rfl
  rw[A,ζb,dG n (by omega)]
  cases C:kJ q e with
  | true=>
   rw[C]at u;rw[bH,bl,dG _ (by omega)]
   exact⟨rfl,by simp only[u];rfl⟩
  | false=>
   rw[C]at u;rw[bG,bl];exact⟨rfl,by simp only[u];rfl⟩
 .rintro⟨o,_⟩ ⟨e1,e2⟩;simp only at e1 e2;subst e1 e2;unfold iA.bz;rw[B,ζb,qE,bG,bl];exact(bl _).2 (by rw[List.take_length])
def zd (low high:Int):Bool:=decide (low>=-1125899906842624)&&decide (high<=1125899906842624)
structure Ey (low high:Int):Prop where
 le:low<=high
 lo:-1125899906842624<=low
 hi:high<=1125899906842624
theorem CJ (low high:Int) (r:Trace×Pred->Option (Int×Int×Bool)):bK.J3 low high r=some (low,high,zd low high):=by
 unfold bK.J3 zd;cases decide (low>=-1125899906842624) <;> rfl
theorem G7 (low high:Int):iL ⟨low,high⟩=some (!zd low high):=by
 unfold iL zd;have h1:decide (low < -1125899906842624) = !decide (low>=-1125899906842624):=by rw[Bool.eq_iff_iff];simp
 have u:decide (high>1125899906842624) = !decide (high<=1125899906842624):=by rw[Bool.eq_iff_iff];simp
 simp only;rw[h1,u];cases decide (low>=-1125899906842624) <;> cases decide (high<=1125899906842624) <;> rfl
theorem Ey.of {low high:Int} (h:low<=high) (g:zd low high=true):Ey low high:=by
 simp only[zd,ζh]at g;have:=of_decide_eq_true g.1;have:=of_decide_eq_true g.2;exact⟨h,by omega,by omega⟩
theorem yO (a b c d:Int) (p:Pred) (r:Trace×Pred->Option (Int×Int×Bool)):bK.J2 a b c d true true t p r=(a_ (p.kind==1)
 (bK.J3 p.n p.n r)
 (a_ (p.kind==2)
 ((iE t p.proc p.name).bind λad=>
 (eY t p.proc ad).bind λab=>
 bK.J3 ab.1 ab.2 r)
 (a_ (p.kind==3)
 ((idx t.procs p.proc).bind λae=>
 bK.J3 0 (len ae.events) r)
 (a_ (p.kind==4)
 ((iA t p.proc p.peer).bind λaf=>
 bK.J3 0 af r)
 (a_ (p.kind==5)
 (bK.J3 (IntKind.wrap .i64 (0-b)) (IntKind.wrap .i64 (0-a)) r)
 (a_ (p.kind==6)
 (bK.J3 (IntKind.wrap .i64 (a+c)) (IntKind.wrap .i64 (b+d)) r)
 (a_ (p.kind==7)
 (bK.J3 (IntKind.wrap .i64 (a-d)) (IntKind.wrap .i64 (b-c)) r)
 ((cH a c).bind λB=>
 (cH a d).bind λD=>
 (cH b c).bind λG=>
 (cH b d).bind λJ=>
 (cH a c).bind λU=>
 (cH a d).bind λW=>
 (cH b c).bind λY=>
 (cH b d).bind λaa=>
 bK.J3 (if(if J<G then J else G)<(if D<B then D else B)then(if J<G then J else G)else(if D<B then D else B)) (if(if aa>Y then aa else Y)>(if W>U then W else U)then(if aa>Y then aa else Y)else(if W>U then W else U)) r))))))):Option (Int×Int×Bool)):=rfl
theorem QZ {a b c d:Int} {ok B:Bool} (h:(ok&&B)=false) (p:Pred) (r:Trace×Pred->Option (Int×Int×Bool)):bK.J2 a b c d ok B t p r=some (0,0,false):=by
 unfold bK.J2;cases ok <;> cases B <;> first|rfl|cases h
theorem wW {a b:Int} (B:-1125899906842624<=a/\a<=1125899906842624) (D:-1125899906842624<=b/\b<=1125899906842624):∃x,cH a b=some x:=by
 unfold cH cH.J1
 by_cases h0:a=0
 .subst h0;exact⟨_,rfl⟩
 .rw[show (a==0)=false from by simpa using h0,bG,ζb]
  by_cases h1:b=0
  .subst h1;exact⟨_,rfl⟩
  .rw[show (b==0)=false from by simpa using h1,show (!false)=true from rfl,bH,gL (0-b) (by omega) (by omega)]
   have:∀k m:Int,m≠0->∃x,yS .i64 k m=some x:=λk m u=>by unfold yS;rw[if_neg u];exact⟨_,rfl⟩
   obtain⟨x,w⟩:=this 1125899906842624 (if 0-b>b then 0-b else b) (by split <;> omega)
   rw[w,ζb];cases decide ((if IntKind.wrap .i64 (0-a)>a then IntKind.wrap .i64 (0-a)else a)>x) <;> cases (decide (a<0)==decide (b<0)) <;> exact⟨_,rfl⟩
theorem Ns (hS:Small t) (hv:eA t=some true) (D:Ok t) {q:Pred} (J:fB q=true) (hr:o4 t q=true) (hk:q.kind<=4) :
 ∃low high,kX t q=some ⟨low,high⟩/\low<=high/\∀r,bK.J2 0 0 0 0 true true t q r=bK.J3 low high r:=by
 obtain⟨k1,-,-⟩:=rT J;rcases (show q.kind=1\/q.kind=2\/q.kind=3\/q.kind=4 by omega)with h|h|h|h
 .refine⟨q.n,q.n,?_,Int.le_refl _,λr=>?_⟩
  .unfold kX;rw[show (q.kind==1)=true from by simpa using h,bH,VR];rfl
  .rw[yO,show (q.kind==1)=true from by simpa using h,bH]
 .unfold o4 at hr;rw[if_pos (by simpa using h)]at hr
  simp only[ζh]at hr;obtain⟨L,-,w⟩:=hr;obtain⟨i,hi,hc⟩:=Dy hS (p:=q.proc) (by simp only[ζh];exact L) q.name
  rcases hc with⟨n,k,P,v,u,hP,rfl,z,h1,O,-⟩|⟨-,A⟩
  .obtain⟨⟨low,high,e⟩,g1,g2,g3,g4⟩:=L_ hS hv D hP (name:=q.name) z h1 O;simp only at g2 g3 g4;subst g2;obtain⟨⟨a,b⟩,Q,C,G⟩:=M4 hS D hP (v:=k) (ζe.1 z).1;simp only at C G;obtain rfl:=g3.one C;obtain rfl:=g4.one G;refine⟨low,high,?_,g4.2 _ g3.1,λr=>?_⟩
   .unfold kX;rw[h,show ((2:Int)==1)=false from rfl,bG,show ((2:Int)==3)=false from rfl,bG,show ((2:Int)==4)=false from rfl,bG,u,g1];rfl
   .rw[yO,h,show ((2:Int)==1)=false from rfl,bG,show ((2:Int)==2)=true from rfl,bH,hi,ζb,u,Q,ζb]
  .rw[A]at w;cases w
 .unfold o4 at hr;rw[if_neg (by simp[h]),if_pos (by simpa using h)]at hr
  simp only[ζh]at hr;obtain⟨n,u,B⟩:=zR (t:=t) (p:=q.proc) (by simp only[ζh];exact hr.1)
  refine⟨0,len t.procs.l[n].events,?_,by simp only[len];omega,λr=>?_⟩
  .unfold kX;rw[h,show ((3:Int)==1)=false from rfl,bG,show ((3:Int)==3)=true from rfl,bH,u,bT B];rfl
  .rw[yO,h,show ((3:Int)==1)=false from rfl,bG,show ((3:Int)==2)=false from rfl,bG,show ((3:Int)==3)=true from rfl,bH,u,bT B];rfl
 .unfold o4 at hr;rw[if_neg (by simp[h]),if_neg (by simp[h]),if_pos (by simpa using h)]at hr
  simp only[ζh]at hr;obtain⟨n,u,B⟩:=zR (t:=t) (p:=q.proc) (by simp only[ζh];exact hr.1)
  obtain⟨m,I,S⟩:=zR (t:=t) (p:=q.peer) (by simp only[ζh];exact hr.2.1)
  have hP:=ζd B;refine⟨0,((t.procs.l[n].events.l.countP (kJ m):Nat):Int),?_,by omega,λr=>?_⟩
  .unfold kX;rw[h,show ((4:Int)==1)=false from rfl,bG,show ((4:Int)==3)=false from rfl,bG,show ((4:Int)==4)=true from rfl,bH,u,I,Iu hS hP];rfl
  .rw[yO,h,show ((4:Int)==1)=false from rfl,bG,show ((4:Int)==2)=false from rfl,bG,show ((4:Int)==3)=false from rfl,bG,show ((4:Int)==4)=true from rfl,bH,u,I,RN hS hP];rfl
end
end Go.VE
namespace Go.VE
section
variable {t:Trace}
theorem QN (v:bP) (l h:Int) (r:Trace×Pred->Option (bP×Bool)):c_.J2 v ⟨l,h⟩ r=some (⟨l,h⟩,zd l h):=by
 unfold c_.J2;rw[G7,ζb,Bool.not_not]
theorem ND {ok B:Bool} (h:(ok&&B)=false) (p:Pred) (v a b:bP) (r:Trace×Pred->Option (bP×Bool)):c_.J1 ok B p v a b r=some (⟨0,0⟩,false):=by
 unfold c_.J1;cases ok <;> cases B <;> first|rfl|cases h
theorem Ff {p:Pred} (hk:5<=p.kind/\p.kind<=8) {a b c d:Int} (h1:Ey a b) (J:Ey c d) (v:bP) (r:Trace×Pred->Option (bP×Bool)) (B:Trace×Pred->Option (Int×Int×Bool)) :
 ∃low high,c_.J1 true true p v ⟨a,b⟩ ⟨c,d⟩ r=some (⟨low,high⟩,zd low high)/\bK.J2 a b c d true true t p B=some (low,high,zd low high)/\low<=high:=by
 obtain⟨L,O,Q⟩:=h1;obtain⟨S,T,U⟩:=J;rw[yO];unfold c_.J1;rw[bH,ζb,show (!true)=false from rfl,bG];rcases (show p.kind=5\/p.kind=6\/p.kind=7\/p.kind=8 by omega)with h|h|h|h <;> rw[h]
 .refine⟨-b,-a,?_,?_,by omega⟩
  .rw[show ((5:Int)==5)=true from rfl,bH,QN];simp only;rw[gL (0-b) (by omega) (by omega),gL (0-a) (by omega) (by omega),show (0:Int)-b=-b from by omega,show (0:Int)-a=-a from by omega]
  .show bK.J3 _ _ B=_;rw[CJ,gL (0-b) (by omega) (by omega),gL (0-a) (by omega) (by omega),show (0:Int)-b=-b from by omega,show (0:Int)-a=-a from by omega]
 .refine⟨a+c,b+d,?_,?_,by omega⟩
  .rw[show ((6:Int)==5)=false from rfl,bG,show ((6:Int)==6)=true from rfl,bH,QN];simp only;rw[gL (a+c) (by omega) (by omega),gL (b+d) (by omega) (by omega)]
  .show bK.J3 _ _ B=_;rw[CJ,gL (a+c) (by omega) (by omega),gL (b+d) (by omega) (by omega)]
 .refine⟨a-d,b-c,?_,?_,by omega⟩
  .rw[show ((7:Int)==5)=false from rfl,bG,show ((7:Int)==6)=false from rfl,bG,show ((7:Int)==7)=true from rfl,bH,QN];simp only;rw[gL (a-d) (by omega) (by omega),gL (b-c) (by omega) (by omega)]
  .show bK.J3 _ _ B=_;rw[CJ,gL (a-d) (by omega) (by omega),gL (b-c) (by omega) (by omega)]
 .obtain⟨w,u⟩:=wW (a:=a) (b:=c) ⟨by omega,by omega⟩ ⟨by omega,by omega⟩
  obtain⟨x,A⟩:=wW (a:=a) (b:=d) ⟨by omega,by omega⟩ ⟨by omega,by omega⟩
  obtain⟨y,C⟩:=wW (a:=b) (b:=c) ⟨by omega,by omega⟩ ⟨by omega,by omega⟩
  obtain⟨z,D⟩:=wW (a:=b) (b:=d) ⟨by omega,by omega⟩ ⟨by omega,by omega⟩
  refine⟨if(if z<y then z else y)<(if x<w then x else w)then(if z<y then z else y)else(if x<w then x else w),if(if z>y then z else y)>(if x>w then x else w)then(if z>y then z else y)else(if x>w then x else w),?_,?_,?_⟩
  .rw[show ((8:Int)==5)=false from rfl,bG,show ((8:Int)==6)=false from rfl,bG,show ((8:Int)==7)=false from rfl,bG];simp only[Lt];rw[u,A,C,D];simp only[ζb];rw[VI,ζb,QN]
  .show (cH a c).bind _=_;rw[u,A,C,D];simp only[ζb];rw[CJ]
  .have I:(if z<y then z else y)<=(if z>y then z else y):=by split <;> split <;> omega
   have G:(if x<w then x else w)<=(if x>w then x else w):=by split <;> split <;> omega
   split <;> split <;> omega
theorem OL {k:Int} (h:(l_ k==1)=true):k<=8:=by
 unfold l_ at h
 by_cases g:k<=8
 .exact g
 .rw[if_neg g]at h;cases h
theorem Pred.parts {p:Pred} (B:fB p=true) {c:Int} (hc:cI.at wU p.kind=some c):(p.l.l.length:Int)=c:=by
 obtain⟨-,-,h⟩:=rT B;rw[hc]at h;exact(Option.some.inj h).symm
structure sU (t:Trace) (p:Pred):Prop where
 sm:p.Sm
 f:p.eS fB=true
 r:p.eS (o4 t)=true
 y:p.eS pP=true
theorem sU.sE {p q:Pred} (h:sU t p) (B:q∈p.l.l):sU t q:=by
 obtain⟨h1,u,w,z⟩:=h;rw[p.hG,ζh,List.all_eq_true]at u w z;exact⟨h1.sE B,u.2 q B,w.2 q B,z.2 q B⟩
theorem sU.here {p:Pred} (h:sU t p):fB p=true/\o4 t p=true/\pP p=true:=by
 obtain⟨h1,u,w,z⟩:=h;rw[p.hG,ζh]at u w z;exact⟨u.1,w.1,z.1⟩
theorem sU.int {p q:Pred} (h:sU t p) (hk:p.kind<=12) (B:q∈p.l.l):q.kind<=8:=by
 have:=h.here.2.2;unfold pP at this;rw[List.all_eq_true]at this;have:=this q B;unfold tJ at this;rw[if_pos hk]at this;exact OL this
theorem I4 (hS:Small t) (hv:eA t=some true) (Y:Ok t) (p:Pred):sU t p->p.kind<=8->∀n,p.dp<=n ->
 ∃low high ok i,cV (λr (z:Trace×Pred)=>fW z.1 z.2 r) n (t,p)=some (i,ok)/\cV (λr (z:Trace×Pred)=>fZ z.1 z.2 r) n (t,p)=some (low,high,ok)/\(ok=true->i=⟨low,high⟩/\Ey low high):=by
 induction p using Pred.ind with
 | h p A=>
  intro hc hk n hn;have hd:=p.pO;obtain⟨C,hr,hy⟩:=hc.here;obtain⟨k1,-,-⟩:=rT C;rw[gU (by omega),gU (by omega)]
  have A:=λq G=>A q G (hc.sE G) (hc.int (by omega) G) (n-1) (by have:=Pred.oh G;omega)
  show ∃low high ok i,fW t p (cV (λr (z:Trace×Pred)=>fW z.1 z.2 r) (n-1))=some (i,ok)/\fZ t p (cV (λr (z:Trace×Pred)=>fZ z.1 z.2 r) (n-1))=some (low,high,ok)/\_
  generalize cV (λr (z:Trace×Pred)=>fW z.1 z.2 r) (n-1)=R at A ⊢
  generalize cV (λr (z:Trace×Pred)=>fZ z.1 z.2 r) (n-1)=W at A ⊢
  unfold fW fZ bK.J1
  by_cases Z:p.kind<=4
  .have B:p.l.l.length=0:=by
    have:=Pred.parts C (c:=0) (by rcases (show p.kind=1\/p.kind=2\/p.kind=3\/p.kind=4 by omega)with h|h|h|h <;> (rw[h];rfl))
    omega
   obtain⟨low,high,g1,g2,g3⟩:=Ns hS hv Y C hr Z;refine⟨low,high,zd low high,⟨low,high⟩,?_,?_,λh=>⟨rfl,Ey.of g2 h⟩⟩
   .rw[show (len p.l==0)=true from by simp[len,B],bH,g1,ζb,G7,ζb,Bool.not_not]
   .rw[decide_eq_false (show ¬len p.l>0 by simp[len,B]),bG,decide_eq_false (show ¬len p.l>1 by simp[len,B]),bG,g3,CJ]
  .by_cases X:p.kind=5
   .have u:p.l.l.length=1:=by
     have:=Pred.parts C (c:=1) (by rw[X];rfl)
     omega
    have h0:0<p.l.l.length:=by omega
    obtain⟨a,b,ok,i,g1,g2,g3⟩:=A _ (List.getElem_mem h0);have L:idx p.l 0=some p.l.l[0]:=bT (i:=0) h0;rw[show (len p.l==0)=false from by simp[len,u],bG,L,ζb,g1,ζb,show (len p.l==2)=false from by simp[len,u],bG,
     decide_eq_true (show len p.l>0 by simp[len,u]),bH,ζb,g2,ζb,decide_eq_false (show ¬len p.l>1 by simp[len,u]),bG]
    simp only
    cases ok with
    | false=>
     rw[ND rfl,QZ rfl];exact⟨0,0,false,_,rfl,rfl,λh=>by cases h⟩
    | true=>
     obtain⟨rfl,I⟩:=g3 rfl;obtain⟨low,high,O,Q,S⟩:=Ff (t:=t) (p:=p) ⟨by omega,by omega⟩ I I ⟨0,0⟩ R W
     refine⟨low,high,zd low high,⟨low,high⟩,O,?_,λh=>⟨rfl,Ey.of S h⟩⟩
     rw[<-Q,yO,yO,X];rfl
   .have w:p.l.l.length=2:=by
     have:=Pred.parts C (c:=2) (by rcases (show p.kind=6\/p.kind=7\/p.kind=8 by omega)with h|h|h <;> (rw[h];rfl))
     omega
    have h0:0<p.l.l.length:=by omega
    have h1:1<p.l.l.length:=by omega
    obtain⟨a,b,ok,i,g1,g2,g3⟩:=A _ (List.getElem_mem h0);obtain⟨c,d,D,j,q1,q2,q3⟩:=A _ (List.getElem_mem h1);have L:idx p.l 0=some p.l.l[0]:=bT (i:=0) h0;have T:idx p.l 1=some p.l.l[1]:=bT (i:=1) h1;rw[show (len p.l==0)=false from by simp[len,w],bG,L,ζb,g1,ζb,show (len p.l==2)=true from by simp[len,w],bH,T,ζb,q1,ζb,
     decide_eq_true (show len p.l>0 by simp[len,w]),bH,ζb,g2,ζb,decide_eq_true (show len p.l>1 by simp[len,w]),bH,ζb,q2,ζb]
    simp only
    cases J:ok&&D with
    | false=>
     rw[ND J,QZ J];exact⟨0,0,false,_,rfl,rfl,λh=>by cases h⟩
    | true=>
     simp only[ζh]at J;obtain⟨rfl,rfl⟩:=J;obtain⟨rfl,I⟩:=g3 rfl;obtain⟨rfl,U⟩:=q3 rfl;obtain⟨low,high,O,Q,S⟩:=Ff (t:=t) (p:=p) ⟨by omega,by omega⟩ I U ⟨0,0⟩ R W
     exact⟨low,high,zd low high,⟨low,high⟩,O,Q,λh=>⟨rfl,Ey.of S h⟩⟩
theorem KO (hS:Small t) (hv:eA t=some true) (B:Ok t) (p:Pred):sU t p->p.dp<=20->∀n,p.dp<=n ->
 ∃b,cV (λr (z:Trace×Pred)=>gF z.1 z.2 r) n (t,p)=some b/\cV (λr (z:Trace×Pred)=>jg z.1 z.2 r) n (t,p)=some b:=by
 induction p using Pred.ind with
 | h p w=>
  intro hc hd n G;have A:=p.pO;rw[gU (by omega),gU (by omega)]
  have w:=λq u=>w q u (hc.sE u) (by have:=Pred.oh u;omega) (n-1) (by have:=Pred.oh u;omega)
  show ∃b,gF t p (cV (λr (z:Trace×Pred)=>gF z.1 z.2 r) (n-1))=some b/\jg t p (cV (λr (z:Trace×Pred)=>jg z.1 z.2 r) (n-1))=some b
  generalize cV (λr (z:Trace×Pred)=>gF z.1 z.2 r) (n-1)=R at w ⊢
  generalize cV (λr (z:Trace×Pred)=>jg z.1 z.2 r) (n-1)=C at w ⊢
  unfold gF jg;rw[zJ,Cb,ζb,ζb]
  by_cases hk:p.kind<=8
  .rw[show (l_ p.kind==1)=true from by simp[l_,hk],bH,bH]
   obtain⟨low,high,ok,i,g1,g2,-⟩:=I4 hS hv B p hc hk 100000 (by omega)
   refine⟨ok,?_,?_⟩
   .show (c_ t p).bind _=_;rw[show c_ t p=_ from g1];rfl
   .show (bK t p).bind _=_;rw[show bK t p=_ from g2];rfl
  .rw[show (l_ p.kind==1)=false from by simp[l_,hk],bG,bG]
   let g:Pred->Bool:=λq=>(R (t,q)).getD false
   have hg:∀q∈p.l.l,R (t,q)=some (g q)/\C (t,q)=some (g q):=λq u=>by
    obtain⟨b,h1,D⟩:=w q u;exact⟨by show _=some ((R (t,q)).getD false);rw[h1];rfl,by show _=some ((R (t,q)).getD false);rw[h1,D];rfl⟩
   refine⟨p.l.l.all g,?_,?_⟩
   .rw[wM _ hc.sm.len,vO (f:=λq => !g q) (λq u=>by
     unfold nv;rw[(hg q u).1];rfl)]
    simp only[Option.map_some,ζb]
    congr 1
    rw[Bool.eq_iff_iff];simp
   .unfold jE.W1;refine uz (g:=g) hc.sm.len (λi hi=>?_) ?_
    .unfold jE.bz;rw[ot hi,bH,bT hi,ζb,(hg _ (List.getElem_mem hi)).2,ζb,dG i (by have:=hc.sm.len;omega)]
     cases g p.l.l[i] <;> rfl
    .unfold jE.bz;rw[qE];rfl
theorem LM (hS:Small t) (D:(cu t).length<1073741824) {p:Pred} (B:p.Sm) :
 ∃e,qi t p=some e/\pV t p=some e/\(e=0->eA t=some true/\VT t/\oq p=true/\sU t p):=by
 obtain⟨A,hv,w,z⟩:=L0 hS D;unfold qi pV;rw[hv,w,ζb,ζb]
 cases A with
 | false=>exact⟨1,rfl,rfl,λh=>by cases h⟩
 | true=>
  have hV:=z rfl;rw[bH,bH,Du B,CM B,ζb,ζb]
  cases C:oq p with
  | false=>exact⟨1,rfl,rfl,λh=>by cases h⟩
  | true=>
   have u:=C;simp only[oq,ζh]at u;have hd:=of_decide_eq_true u.2.1;unfold fK fF jE tn;rw[show (!true)=false from rfl,bG,ζb,bG,HM hS B (by omega),Ij hS p B 100000 (by omega),ζb,ζb]
   cases hr:p.eS (o4 t)with
   | false=>exact⟨13,rfl,rfl,λh=>by cases h⟩
   | true=>
    rw[bH,bH,Er B (by omega),EJ p B u.2.2 100000 (by omega),ζb,ζb]
    cases G:p.eS pP with
    | false=>exact⟨14,rfl,rfl,λh=>by cases h⟩
    | true=>
     have hc:sU t p:=⟨B,u.2.2,hr,G⟩;obtain⟨b,g1,g2⟩:=KO hS hv hV.ok p hc hd 100000 (by omega)
     rw[bH,bH,g1,g2,ζb]
     cases b with
     | false=>exact⟨9,rfl,rfl,λh=>by cases h⟩
     | true=>exact⟨0,rfl,rfl,λ_=>⟨rfl,hV,rfl,hc⟩⟩
end
end Go.VE
namespace Go.VE
end Go.VE
namespace Go.VE
theorem Code.one {t:Trace} {A:cI 200 bR} {c:List Int} {r s:Int} (h:Code t A c r) (g:Code t A c s):r=s:=by
 rcases h with⟨h,rfl⟩|⟨h1,u,rfl⟩|⟨h1,u,rfl⟩|⟨h1,u,rfl⟩ <;> rcases g with⟨g,rfl⟩|⟨g1,g2,rfl⟩|⟨g1,g2,rfl⟩|⟨g1,g2,rfl⟩ <;> first|rfl|contradiction|exact absurd ‹vG t c›.1 ‹_›
end Go.VE
namespace Go.VE
end Go.VE
namespace Go.VE
section
variable {t:Trace} {A:cI 200 bR} {P:bQ} {v:Nat}
theorem Mt (hS:Small t) {n:Nat} (hP:t.procs.l[n]? = some P) {name:ByteArray} {x:Var} (h1:P.vars.l[v]? = some x) (B:(ByteArray.toList x.name==ByteArray.toList name)=true)
 (D:∀(j:Nat) (w:Var),j<v->P.vars.l[j]? = some w->(ByteArray.toList w.name==ByteArray.toList name)=false):i_ t n name=some (v:Int):=by
 have z:=(ζe.1 h1);obtain⟨z,C⟩:=z;have G:=(hS.2 P (List.mem_of_getElem? hP)).2.1;refine Wp.eq ?_;unfold i_;rw[jo,hP,ζb];unfold i_.W1;refine gO (λi:Int=>∃n:Nat,i=n/\n<=v) (λi=>v-i.toNat) ⟨0,rfl,Nat.zero_le _⟩ ?_
 rintro _ ⟨i,rfl,hi⟩;have u:i<P.vars.l.length:=by omega
 unfold i_.bz;rw[ot u,bH,bT u,ζb]
 by_cases A:i=v
 .subst A;rw[C,B,bH,bl];exact(bl _).2 rfl
 .rw[D i _ (by omega) (ζd u),bG,bl,dG i (by omega)]
  exact⟨⟨i+1,rfl,by omega⟩,by simp only;omega⟩
theorem R1 {e:Event} (D:e.assign.l.length<1073741824) (n:Nat) (i:Int):fJ.W2 (n:Int) (v:Int) i e.assign 0 t=some (match kY e.assign.l v with|some x=>.r x|none=>.n (IntKind.wrap .i64 (i-1))):=by
 refine Wp.eq ?_;unfold fJ.W2;refine qw e.assign.l.length (λj s=>s=(j:Int)/\kY (e.assign.l.take j) v=none) ⟨rfl,by simp[kY]⟩ ?_ ?_
 .rintro j _ A ⟨rfl,w⟩;unfold fJ.cq;rw[ot A,bH,bT A,ζb];have u:e.assign.l=e.assign.l.take j++e.assign.l[j]::e.assign.l.drop (j+1):=by rw[List.getElem_cons_drop,List.take_append_drop]
  unfold kY at w;rw[Option.map_eq_none_iff]at w
  by_cases z:e.assign.l[j].var=(v:Int)
  .rw[show (e.assign.l[j].var==(v:Int))=true from by simpa using z,bH,ζb,bl]
   refine(bl _).2 ?_;have:kY e.assign.l v=some e.assign.l[j].value:=by
    unfold kY;have B:=congrArg (List.find? λa:Assign=>a.var==(v:Int)) u
    rw[List.find?_append,w,List.find?_cons_of_pos (by simpa using z)]at B
    rw[B];rfl
   rw[this]
  .rw[show (e.assign.l[j].var==(v:Int))=false from by simpa using z,bG,bl,dG j (by omega)]
   refine⟨rfl,?_⟩;unfold kY;rw[Option.map_eq_none_iff,List.take_add_one,ζd A,List.find?_append,w];rw[Option.none_or,Option.toList_some,List.find?_cons_of_neg (by simpa using z)];rfl
 .rintro _ ⟨rfl,w⟩;unfold fJ.cq;rw[qE,bG,bl];rw[List.take_length]at w;refine(bl _).2 ?_;rw[w]
theorem No (hS:Small t) (J:Ok t) {n:Nat} (hP:t.procs.l[n]? = some P) (B:v<P.vars.l.length) {a:Nat} (U:a<=P.events.l.length):fJ t n v (a:Int)=some (lF P v a):=by
 have A:=hS.2 P (List.mem_of_getElem? hP);have I:=NO.of J hP;have D:idx t.procs (n:Int)=some P:=by rw[jo];exact hP
 refine Wp.eq ?_;unfold fJ fJ.W1;rw[gL _ (by omega) (by omega)]
 refine gO (λi:Int=>∃k:Nat,i=(k:Int)-1/\k<=a/\lF P v k=lF P v a) (λi=>(i+1).toNat) ⟨a,rfl,Nat.le_refl _,rfl⟩ ?_
 rintro _ ⟨k,rfl,hk,w⟩;unfold fJ.bz
 by_cases h0:k=0
 .subst h0;rw[decide_eq_false (by omega),bG,bl]
  rw[D,ζb,bT B,ζb];refine(bl _).2 ?_;rw[<-w];simp[lF,gV,ζd B]
 .have z:k-1<P.events.l.length:=by omega
  have C:=List.getElem_mem z;have u:=Eg I B (ζd z);rw[show k-1+1=k from by omega]at u
  rw[decide_eq_true (by omega),bH,D,ζb,show (k:Int)-1=((k-1:Nat):Int)from by omega,bT z,ζb,R1 (A.2.2.2.2 _ C)]
  cases G:kY P.events.l[k-1].assign.l v with
  | some x=>
   rw[G]at u;rw[bl];refine(bl _).2 ?_;rw[<-w,u];rfl
  | none=>
   rw[G]at u;rw[bl,gL _ (by omega) (by omega)]
   exact⟨⟨k-1,rfl,by omega,by rw[<-w,u];rfl⟩,by simp only;omega⟩
structure Xn (t:Trace) (A:cI 200 bR) (c:Sl Int) (l:Sl (Sl Int)):Prop where
 hS:Small t
 hv:eA t=some true
 hV:VT t
 hM:qF t (cu t) A
 hC:Cons t A c.l
 vals:∀(p:Nat) (P:bQ) (a:Int),t.procs.l[p]? = some P->c.l[p]? = some a->∃x,l.l[p]? = some x/\x.l=gV P a.toNat
end
end Go.VE
namespace Go.VE
section
variable {t:Trace}
theorem Oh (p:Pred) (D:p.Sm):∀(n d:Nat) (v:Int),1<=n->42<=n+d->d<=41->0<=v->v<=300 ->
 ∃r:Int,cV (λr (z:Pred×Int×Int)=>gH z.1 z.2.1 z.2.2 r) n (p,(d:Int),v)=some r/\0<=r/\r<=1000:=by
 induction p using Pred.ind with
 | h p J=>
  intro n d v T L hd O hv;have U:=D.len;rw[gU (by omega)]
  show ∃r:Int,gH p (d:Int) v (cV (λr (z:Pred×Int×Int)=>gH z.1 z.2.1 z.2.2 r) (n-1))=some r/\0<=r/\r<=1000
  have G:∀v:Int,0<=v->v<=1000->(v<=300->d<=40)->∃r:Int,eG.J1 (d:Int) p v (cV (λr (z:Pred×Int×Int)=>gH z.1 z.2.1 z.2.2 r) (n-1))=some r/\0<=r/\r<=1000:=by
   intro v h0 h1 Q;show Wp (eG.J1 (d:Int) p v _) λr=>0<=r/\r<=1000
   unfold eG.J1 eG.W2;refine gO (λs:Int×Int=>∃i:Nat,s.1=i/\i<=p.l.l.length/\0<=s.2/\s.2<=1000/\(s.2<=300->d<=40)) (λs=>p.l.l.length-s.1.toNat) ⟨0,rfl,Nat.zero_le _,h0,h1,Q⟩ ?_
   rintro⟨_,u⟩ ⟨i,rfl,hi,B,C,I⟩;simp only at B C I ⊢;unfold eG.cq
   by_cases A:i<p.l.l.length
   .rw[ot A,bH,ζb]
    by_cases hu:u<=300
    .have w:=I hu;rw[decide_eq_true hu,bH,bT A,ζb,dG d (by omega)]
     obtain⟨r,hr,S,r1⟩:=J _ (List.getElem_mem A) (D.sE (List.getElem_mem A)) (n-1) (d+1) u (by omega) (by omega) (by omega) B hu
     rw[hr,ζb,bl,dG i (by omega)]
     exact⟨⟨i+1,rfl,by omega,S,r1,λ_=>w⟩,by simp only;omega⟩
    .rw[decide_eq_false hu,bG,bl];exact(bl _).2 ⟨B,C⟩
   .rw[decide_eq_false (by simp only[len];omega),bG,ζb,bG,bl]
    exact(bl _).2 ⟨B,C⟩
  unfold gH
  by_cases w:d<=40
  .rw[decide_eq_false (by omega),bG,gL _ (by omega) (by omega)]
   exact G _ (by omega) (by omega) (λ_=>w)
  .rw[decide_eq_true (by omega),bH]
   exact G _ (by omega) (by omega) (λh=>by omega)
theorem OP {p:Pred} (B:p.Sm):∃b,tM p=some b:=by
 obtain⟨r,hr,-⟩:=Oh p B 100000 0 0 (by omega) (by omega) (by omega) (by omega) (by omega)
 unfold tM eG;rw[show ((0:Nat):Int)=0 from rfl]at hr;rw[hr];exact⟨_,rfl⟩
theorem Pa {p:Pred} (B:oq p=true) (hc:sU t p):qW p=some (l_ p.kind,0):=by
 have u:=hc.sm;have hd:=B;simp only[oq,ζh,decide_eq_true_eq]at hd;unfold qW;rw[Du u,B,ζb,bH,Er u (by omega),hc.y,ζb,bH,zJ];rfl
theorem OM {p:Pred} (B:oq p=true) (hc:sU t p):tN p=some (l_ p.kind,0):=by
 have u:=hc.sm;have hd:=B;simp only[oq,ζh,decide_eq_true_eq]at hd;unfold tN fF;rw[CM u,B,ζb,bH,EJ p u hc.f 100000 (by omega),hc.y,ζb,bH,Cb];rfl
end
end Go.VE
namespace Go.VE
def kn (P:Int) (q:Pred):Bool:=if q.kind=4\/18<=q.kind then false else if q.kind=2\/q.kind=3 then q.proc==P else true
theorem Hx {P:Int} {q:Pred} (h:kn P q=true):q.kind≠4/\q.kind<=17/\(q.kind=2\/q.kind=3->q.proc=P):=by
 unfold kn at h
 by_cases u:q.kind=4\/18<=q.kind
 .rw[if_pos u]at h;cases h
 .rw[if_neg u]at h;refine⟨by omega,by omega,λw=>?_⟩
  rw[if_pos w]at h;simpa using h
theorem Sh (P:Int) (p:Pred) (G:p.Sm):p.eS fB=true->∀n,p.dp<=n->cV (λr (z:Int×Pred)=>gI z.1 z.2 r) n (P,p)=some (p.eS (kn P)):=by
 induction p using Pred.ind with
 | h p w=>
  intro A n I;have hd:=p.pO;rw[p.hG,ζh,List.all_eq_true]at A;obtain⟨k1,J,-⟩:=rT A.1;rw[gU (by omega),p.hG]
  have w:=λq u=>w q u (G.sE u) (A.2 q u) (n-1) (by have:=Pred.oh u;omega)
  show gI P p (cV (λr (z:Int×Pred)=>gI z.1 z.2 r) (n-1))=_
  generalize cV (λr (z:Int×Pred)=>gI z.1 z.2 r) (n-1)=R at w ⊢
  unfold gI
  by_cases C:p.kind=4\/18<=p.kind
  .rw[show kn P p=false from by unfold kn;rw[if_pos C],Bool.false_and]
   rcases (show p.kind=4\/p.kind=18\/p.kind=19\/p.kind=20\/p.kind=21 by omega)with h|h|h|h|h <;> rw[h] <;> rfl
  .rw[show (p.kind==4)=false from by simp;omega,show (p.kind==18)=false from by simp;omega,show (p.kind==19)=false from by simp;omega,show (p.kind==20)=false from by simp;omega,show (p.kind==21)=false from by simp;omega,bG,bG,bG,bG]
   unfold dZ.J1 dZ.J2;rw[bG]
   by_cases B:p.kind=2\/p.kind=3
   .have D:p.l.l=[]:=List.eq_nil_of_length_eq_zero (by
     have:=Pred.parts A.1 (c:=0) (by rcases B with h|h <;> (rw[h];rfl))
     omega)
    rw[D,List.all_nil,Bool.and_true,show kn P p=(p.proc==P)from by unfold kn;rw[if_neg C,if_pos B]]
    rcases B with h|h <;> rw[h] <;> rfl
   .rw[show (p.kind==2)=false from by simp;omega,show (p.kind==3)=false from by simp;omega,bG,bG,wM _ G.len,vO (f:=λq => !(q.eS (kn P))) (λq u=>by
     unfold nj;rw[w q u];rfl)]
    simp only[Option.map_some,ζb]
    congr 1
    rw[show kn P p=true from by unfold kn;rw[if_neg C,if_neg B],Bool.true_and,Bool.eq_iff_iff]
    simp
theorem SH (P:Int) (p:Pred) (D:p.Sm):p.eS fB=true->∀n,p.dp<=n->cV (λr (z:Pred×Int)=>gD z.1 z.2 r) n (p,P)=some (p.eS (kn P)):=by
 induction p using Pred.ind with
 | h p u=>
  intro w n I;have hd:=p.pO;rw[p.hG,ζh,List.all_eq_true]at w;obtain⟨k1,J,-⟩:=rT w.1;rw[gU (by omega),p.hG]
  have u:=λq A=>u q A (D.sE A) (w.2 q A) (n-1) (by have:=Pred.oh A;omega)
  show gD p P (cV (λr (z:Pred×Int)=>gD z.1 z.2 r) (n-1))=_
  generalize cV (λr (z:Pred×Int)=>gD z.1 z.2 r) (n-1)=R at u ⊢
  unfold gD
  by_cases C:p.kind=4\/18<=p.kind
  .rw[show kn P p=false from by unfold kn;rw[if_pos C],Bool.false_and]
   rcases (show p.kind=4\/p.kind=18\/p.kind=19\/p.kind=20\/p.kind=21 by omega)with h|h|h|h|h <;> rw[h] <;> rfl
  .by_cases B:p.kind=2\/p.kind=3
   .have G:p.l.l=[]:=List.eq_nil_of_length_eq_zero (by
     have:=Pred.parts w.1 (c:=0) (by rcases B with h|h <;> (rw[h];rfl))
     omega)
    rw[G,List.all_nil,Bool.and_true,show kn P p=(p.proc==P)from by unfold kn;rw[if_neg C,if_pos B]]
    rcases B with h|h <;> rw[h] <;> rfl
   .rw[show (p.kind==2)=false from by simp;omega,show (p.kind==3)=false from by simp;omega,bG]
    unfold dx.J1;rw[bG,show (p.kind==4)=false from by simp;omega,show (p.kind==18)=false from by simp;omega,show (p.kind==19)=false from by simp;omega,show (p.kind==20)=false from by simp;omega,show (p.kind==21)=false from by simp;omega,bG,bG,bG,bG]
    unfold dx.J2;rw[bG,show kn P p=true from by unfold kn;rw[if_neg C,if_neg B],Bool.true_and]
    unfold dx.W3;refine uz (g:=Pred.eS (kn P)) D.len (λi hi=>?_) ?_
    .unfold dx.eW;rw[ot hi,bH,bT hi,ζb,u _ (List.getElem_mem hi),ζb,dG i (by have:=D.len;omega)]
     cases Pred.eS (kn P) p.l.l[i] <;> rfl
    .unfold dx.eW;rw[qE];rfl
section
variable {t:Trace}
structure TS (t:Trace) (p k:Nat) (P:bQ) (c:Sl Int) (l:Sl (Sl Int)):Prop where
 hS:Small t
 hv:eA t=some true
 hV:VT t
 hP:t.procs.l[p]? = some P
 hk:k<=P.events.l.length
 hc:c.l[p]? = some (k:Int)
 vals:∃x,l.l[p]? = some x/\x.l=gV P k
theorem RA {p k:Nat} {P:bQ} {c:Sl Int} {l:Sl (Sl Int)} (h:TS t p k P c l) (q:Pred):sU t q->q.kind<=8->q.eS (kn (p:Int))=true->∀n,q.dp<=n ->
 ∃x,cV (λr (z:b9×Pred)=>ei z.1 z.2 r) n (⟨t,c,l⟩,q)=some x/\cV (λr (z:Trace×(Sl Int)×Pred)=>iG z.1 z.2.1 z.2.2 r) n (t,c,q)=some x:=by
 induction q using Pred.ind with
 | h q G=>
  intro hc hk A n hn;have hd:=q.pO;obtain⟨hS,hv,hV,hP,J,B,x,hx,X⟩:=h;obtain⟨I,hr,hy⟩:=hc.here;obtain⟨k1,-,-⟩:=rT I;rw[q.hG,ζh,List.all_eq_true]at A;obtain⟨l4,-,lp⟩:=Hx A.1;have G:=λq L=>G q L (hc.sE L) (hc.int (by omega) L) (A.2 q L) (n-1) (by have:=Pred.oh L;omega)
  rw[gU (by omega),gU (by omega)]
  show ∃x,ei ⟨t,c,l⟩ q (cV (λr (z:b9×Pred)=>ei z.1 z.2 r) (n-1))=some x/\iG t c q (cV (λr (z:Trace×(Sl Int)×Pred)=>iG z.1 z.2.1 z.2.2 r) (n-1))=some x
  generalize cV (λr (z:b9×Pred)=>ei z.1 z.2 r) (n-1)=R at G ⊢
  generalize cV (λr (z:Trace×(Sl Int)×Pred)=>iG z.1 z.2.1 z.2.2 r) (n-1)=R' at G ⊢
  unfold ei iG;rcases (show q.kind=1\/q.kind=2\/q.kind=3\/5<=q.kind by omega)with hk|hk|hk|hk
  .rw[hk];exact⟨q.n,rfl,rfl⟩
  .have C:=lp (.inl hk);unfold o4 at hr;rw[if_pos (by simpa using hk)]at hr
   simp only[ζh]at hr;obtain⟨hp,-,O⟩:=hr;obtain⟨i,hi,Y⟩:=Dy hS (p:=q.proc) (by simp only[ζh];exact hp) q.name
   rcases Y with⟨m,j,P',y,hm,Q,rfl,D,h1,h2,-⟩|⟨-,S⟩
   .obtain rfl:m=p:=by omega
    rw[hP]at Q;cases Q;have T:=(ζe.1 D).1;refine⟨lF P j k,?_,?_⟩
    .rw[hk,show ((2:Int)==1)=false from rfl,bG,show ((2:Int)==2)=true from rfl,bH];unfold mX;simp only;rw[hm,jo,hP,ζb,BL (p:=λz=>jC z q) (f:=λw=>ByteArray.toList w.name==ByteArray.toList q.name) (λ_ _=>rfl) (hS.2 P (List.mem_of_getElem? hP)).2.1,GY D h1 h2,ζb,jo,hx,ζb,jo,X,ET _ T]
     rfl
    .rw[hk,show ((2:Int)==1)=false from rfl,bG,show ((2:Int)==2)=true from rfl,bH,hm,Mt hS hP D h1 h2,ζb,jo,B,ζb,No hS hV.ok hP T J];rfl
   .rw[S]at O;cases O
  .have C:=lp (.inr hk);refine⟨(k:Int),?_,?_⟩
   .rw[hk,show ((3:Int)==1)=false from rfl,bG,show ((3:Int)==2)=false from rfl,bG,show ((3:Int)==3)=true from rfl,bH];simp only;rw[C,jo,B];rfl
   .rw[hk,show ((3:Int)==1)=false from rfl,bG,show ((3:Int)==2)=false from rfl,bG,show ((3:Int)==3)=true from rfl,bH,C,jo,B];rfl
  .have u:∀j:Int,j<5->(q.kind==j)=false:=λj hj=>by simp;omega
   rw[u 1 (by omega),u 2 (by omega),u 3 (by omega),u 4 (by omega)]
   simp only[bG];have hl:0<q.l.l.length:=by
    rcases (show q.kind=5\/q.kind=6\/q.kind=7\/q.kind=8 by omega)with g|g|g|g
    .have:=Pred.parts I (c:=1) (by rw[g];rfl);omega
    .have:=Pred.parts I (c:=2) (by rw[g];rfl);omega
    .have:=Pred.parts I (c:=2) (by rw[g];rfl);omega
    .have:=Pred.parts I (c:=2) (by rw[g];rfl);omega
   obtain⟨x,x1,x2⟩:=G _ (List.getElem_mem hl);have U:idx q.l 0=some q.l.l[0]:=bT (i:=0) hl
   by_cases g:q.kind=5
   .rw[g,show ((5:Int)==5)=true from rfl,bH,bH,U,ζb,x1,ζb,ζb,x2,ζb];exact⟨_,rfl,rfl⟩
   .have W:1<q.l.l.length:=by
     have:=Pred.parts I (c:=2) (by rcases (show q.kind=6\/q.kind=7\/q.kind=8 by omega)with g|g|g <;> (rw[g];rfl))
     omega
    obtain⟨y,y1,y2⟩:=G _ (List.getElem_mem W);have Z:idx q.l 1=some q.l.l[1]:=bT (i:=1) W;rw[U,Z];simp only[ζb,x1,x2,y1,y2];rw[show (q.kind==5)=false from by simpa using g,bG]
    cases q.kind==6 <;> cases q.kind==7 <;> exact⟨_,rfl,rfl⟩
theorem Np {p k:Nat} {P:bQ} {c:Sl Int} {l:Sl (Sl Int)} (h:TS t p k P c l) (q:Pred):sU t q->9<=q.kind->q.dp<=20->q.eS (kn (p:Int))=true->∀n,q.dp<=n ->
 ∃x,cV (λr (z:b9×Pred)=>eH z.1 z.2 r) n (⟨t,c,l⟩,q)=some x/\cV (λr (z:Trace×(Sl Int)×Pred)=>iH z.1 z.2.1 z.2.2 r) n (t,c,q)=some x:=by
 induction q using Pred.ind with
 | h q D=>
  intro hc hk T A n Z;have hd:=q.pO;obtain⟨G,hr,hy⟩:=hc.here;obtain⟨k1,k2,-⟩:=rT G;rw[q.hG,ζh,List.all_eq_true]at A;have U:q.kind<=17:=(Hx A.1).2.1;have B:∀k∈q.l.l,k.kind<=8->∃x,ez ⟨t,c,l⟩ k=some x/\ja t c k=some x:=λk hk O=>RA h k (hc.sE hk) O (A.2 k hk) 100000 (by have:=Pred.oh hk;omega)
  have C:13<=q.kind->∀k∈q.l.l,9<=k.kind:=λg k hk=>by
   have:=hc.here.2.2;unfold pP at this;rw[List.all_eq_true]at this;have:=this k hk;unfold tJ l_ at this;rw[if_neg (show ¬q.kind<=12 by omega)]at this
   by_cases W:k.kind<=8
   .rw[if_pos W]at this;cases this
   .omega
  have D:=λg q I=>D q I (hc.sE I) (C g q I) (by have:=Pred.oh I;omega) (A.2 q I) (n-1) (by have:=Pred.oh I;omega)
  rw[gU (by omega),gU (by omega)]
  show ∃x,eH ⟨t,c,l⟩ q (cV (λr (z:b9×Pred)=>eH z.1 z.2 r) (n-1))=some x/\iH t c q (cV (λr (z:Trace×(Sl Int)×Pred)=>iH z.1 z.2.1 z.2.2 r) (n-1))=some x
  generalize cV (λr (z:b9×Pred)=>eH z.1 z.2 r) (n-1)=R at D ⊢
  generalize cV (λr (z:Trace×(Sl Int)×Pred)=>iH z.1 z.2.1 z.2.2 r) (n-1)=R' at D ⊢
  unfold eH iH e9.J1
  by_cases J:q.kind<=12
  .have X:=Pred.parts G (c:=2) (by rcases (show q.kind=9\/q.kind=10\/q.kind=11\/q.kind=12 by omega)with g|g|g|g <;> (rw[g];rfl))
   have u:0<q.l.l.length:=by omega
   have w:1<q.l.l.length:=by omega
   obtain⟨x,L,x2⟩:=B _ (List.getElem_mem u) (hc.int J (List.getElem_mem u));obtain⟨y,Q,S⟩:=B _ (List.getElem_mem w) (hc.int J (List.getElem_mem w));rw[show idx q.l 0=some q.l.l[0]from bT (i:=0) u,show idx q.l 1=some q.l.l[1]from bT (i:=1) w];simp only[ζb,L,x2,Q,S];rcases (show q.kind=9\/q.kind=10\/q.kind=11\/q.kind=12 by omega)with g|g|g|g <;> rw[g] <;> exact⟨_,rfl,rfl⟩
  .by_cases Y:q.kind<=14
   .rcases (show q.kind=13\/q.kind=14 by omega)with g|g <;> rw[g] <;> exact⟨_,rfl,rfl⟩
   .have u:0<q.l.l.length:=by
     rcases (show q.kind=15\/q.kind=16\/q.kind=17 by omega)with g|g|g
     .have:=Pred.parts G (c:=1) (by rw[g];rfl);omega
     .have:=Pred.parts G (c:=2) (by rw[g];rfl);omega
     .have:=Pred.parts G (c:=2) (by rw[g];rfl);omega
    obtain⟨x,L,x2⟩:=D (by omega) _ (List.getElem_mem u)
    rw[show idx q.l 0=some q.l.l[0]from bT (i:=0) u]
    by_cases g:q.kind=15
    .rw[g];simp only[ζb,L,x2];exact⟨_,rfl,rfl⟩
    .have w:1<q.l.l.length:=by
      have:=Pred.parts G (c:=2) (by rcases (show q.kind=16\/q.kind=17 by omega)with g|g <;> (rw[g];rfl))
      omega
     obtain⟨y,Q,S⟩:=D (by omega) _ (List.getElem_mem w)
     rw[show idx q.l 1=some q.l.l[1]from bT (i:=1) w];simp only[ζb,L,x2,Q,S];rcases (show q.kind=16\/q.kind=17 by omega)with g|g <;> rw[g] <;> cases x <;> exact⟨_,rfl,rfl⟩
end
end Go.VE
namespace Go.VE
theorem TN {a b:Sl Bool} (B:a.l.length<=1073741824) (h:a.l=b.l):eP a b=some true:=by
 unfold eP;rw[show (len a==len b)=true from by simp[len,h],bH]
 refine Wp.eq ?_;unfold eP.W1;refine qw a.l.length (λn s=>s=(n:Int)) rfl ?_ ?_
 .rintro i _ hi rfl;unfold eP.bz;rw[ot hi,bH,bT hi,ζb,show idx b (i:Int)=some a.l[i]from by rw[jo,<-h];exact ζd hi,ζb,show (a.l[i]==a.l[i])=true from by simp,bH,bl,dG i (by omega)]
 .rintro _ rfl;unfold eP.bz;rw[qE,bG,bl];exact(bl _).2 rfl
theorem TZ {α:Type} {n:Nat} (z:α) (h:n<=2147483648):uJ (n:Int) z=some (.row (List.replicate n z)):=by
 unfold uJ;rw[if_pos (by omega)];simp
section
variable {t:Trace}
theorem JK (hS:Small t) (D:(cu t).length<1073741824) {p:Pred} (B:p.Sm) (pr k:Int) :
 ∃e,nF t pr k p=some e/\k8 t pr k p=some e/\(e=0->eA t=some true/\VT t/\oq p=true/\sU t p/\l_ p.kind=2/\p.eS (kn pr)=true/\∃(m j:Nat) (P:bQ),pr=m/\k=j/\t.procs.l[m]? = some P/\j<=P.events.l.length):=by
 obtain⟨e,h1,z,C⟩:=LM hS D B;unfold nF k8;rw[h1,z,ζb,ζb]
 by_cases w:e=0
 .subst w;obtain⟨hv,hV,u,hc⟩:=C rfl;have hd:=u;simp only[oq,ζh,decide_eq_true_eq]at hd;rw[show ((0:Int)==0)=true from rfl,bH,bH]
  by_cases r1:pr<0
  .rw[decide_eq_true r1];exact⟨2,rfl,rfl,λh=>by cases h⟩
  rw[decide_eq_false r1]
  by_cases r2:pr>=len t.procs
  .rw[decide_eq_true r2];exact⟨2,rfl,rfl,λh=>by cases h⟩
  rw[decide_eq_false r2]
  by_cases r3:k<0
  .rw[decide_eq_true r3];exact⟨2,rfl,rfl,λh=>by cases h⟩
  rw[decide_eq_false r3];obtain⟨m,rfl⟩:∃m:Nat,pr=m:=⟨pr.toNat,by omega⟩
  have A:m<t.procs.l.length:=by simp only[len]at r2;omega
  rw[bT A,ζb]
  by_cases r4:k>len t.procs.l[m].events
  .rw[decide_eq_true r4];exact⟨2,rfl,rfl,λh=>by cases h⟩
  rw[decide_eq_false r4];simp only[bG,ζb];unfold tA xu;rw[Pa u hc,OM u hc,z,ζb,ζb,ζb];simp only;rw[show ((0:Int)==0)=true from rfl,bH,bH]
  cases hk:l_ p.kind==2 with
  | false=>exact⟨14,rfl,rfl,λh=>by cases h⟩
  | true=>
   rw[show (!true)=false from rfl,ζb,bG,bH,ζb,ζb,show ((0:Int)==0)=true from rfl,bH,bH,
    show dZ (m:Int) p=some (p.eS (kn (m:Int)))from Sh m p B hc.f 100000 (by omega),show dx p (m:Int)=some (p.eS (kn (m:Int)))from SH m p B hc.f 100000 (by omega),ζb]
   cases G:p.eS (kn (m:Int))with
   | false=>exact⟨15,rfl,rfl,λh=>by cases h⟩
   | true=>exact⟨0,rfl,rfl,λ_=>⟨hv,hV,u,hc,by simpa using hk,rfl,m,k.toNat,t.procs.l[m],rfl,by omega,ζd A,by simp only[len]at r4;omega⟩⟩
 .rw[show (e==0)=false from by simpa using w,bG,bG]
  exact⟨e,rfl,rfl,λh=>absurd h w⟩
theorem Jj (hS:Small t) (hv:eA t=some true) (hV:VT t) {m k:Nat} {P:bQ} (hP:t.procs.l[m]? = some P) (hk:k<=P.events.l.length) {q:Pred} (hc:sU t q) (J:9<=q.kind) (hd:q.dp<=20) (U:q.eS (kn (m:Int))=true) :
 ∃x,iq t m k q=some x/\nG t m k q=some x:=by
 have u:=(ζe.1 hP).1;have w:=hS.2 P (List.mem_of_getElem? hP);have h1:=hS.1;obtain⟨x,I,A⟩:=OE (tQ.of hV.ok hP) w.2.1 w.1 w.2.2.2.2 hk;obtain⟨c,z,B⟩:=put_eq (s:=(.row (List.replicate t.procs.l.length (0:Int)):Sl Int)) (p:=m) (x:=(k:Int)) (by simpa [Sl.l]using u)
 obtain⟨l,C,D⟩:=put_eq (s:=(.row (List.replicate t.procs.l.length (Sl.nil:Sl Int)):Sl (Sl Int))) (p:=m) (x:=x) (by simpa [Sl.l]using u)
 have G:qx t m k=some (x,0):=by
  unfold qx;rw[hv,ζb,bH,decide_eq_false (show ¬(m:Int)<0 by omega),bG,decide_eq_false (show ¬(m:Int)>=len t.procs by simp only[len];omega),ζb,bG,decide_eq_false (show ¬(k:Int)<0 by omega),ζb,bG,jo,hP,ζb,decide_eq_false (show ¬(k:Int)>len P.events by simp only[len];omega),ζb,bG,ζb,I]
  rfl
 have L:TS t m k P c l:=⟨hS,hv,hV,hP,hk,by rw[B];exact List.getElem?_set_self (by simpa [Sl.l]using u),x,by rw[D];exact List.getElem?_set_self (by simpa [Sl.l]using u),A⟩
 obtain⟨b,O,Q⟩:=Np L q hc J hd U 100000 (by omega)
 refine⟨b,?_,?_⟩
 .unfold iq;rw[show len t.procs=((t.procs.l.length:Nat):Int)from rfl,TZ (0:Int) (by omega),TZ (Sl.nil:Sl Int) (by omega),ζb,ζb,Gq (by simpa [Sl.l]using u),ζb,z,ζb,G,ζb,Gq (by simpa [Sl.l]using u),ζb]
  simp only;rw[C,ζb,show e9 ⟨t,c,l⟩ q=some b from O];rfl
 .unfold nG;rw[show len t.procs=((t.procs.l.length:Nat):Int)from rfl,TZ (0:Int) (by omega),ζb,Gq (by simpa [Sl.l]using u),ζb,z,ζb,show vD t c q=some b from Q];rfl
theorem I5 (hS:Small t) (hv:eA t=some true) (hV:VT t) {m:Nat} {P:bQ} (hP:t.procs.l[m]? = some P) {q:Pred} (hc:sU t q) (J:9<=q.kind) (hd:q.dp<=20) (U:q.eS (kn (m:Int))=true) :
 ∃o B,eE.W1 m (Sl.nil:Sl Bool) (IntKind.wrap .i64 ((len P.events)+1)) 0 t q=some (o,0)/\f_ t m q=some B/\o.l=B.l/\o.l.length<=1073741824:=by
 have A:=hS.2 P (List.mem_of_getElem? hP)
 let g:Nat->Bool:=λk=>(iq t m k q).getD false
 have hg:∀k:Nat,k<=P.events.l.length->iq t m k q=some (g k)/\nG t m k q=some (g k):=λk hk=>by
  obtain⟨x,h1,w⟩:=Jj hS hv hV hP hk hc J hd U;have:g k=x:=by show (iq t m k q).getD false=x;rw[h1];rfl
  rw[this];exact⟨h1,w⟩
 have G:=A.1;have p1:Wp (eE.W1 m (Sl.nil:Sl Bool) (IntKind.wrap .i64 ((len P.events)+1)) 0 t q) λr=>r.1.l=(List.range (P.events.l.length+1)).map g/\r.2=0:=by
  unfold eE.W1;rw[show len P.events+1=((P.events.l.length+1:Nat):Int)from rfl,gL _ (by omega) (by omega)]
  refine qw (P.events.l.length+1) (λn s=>s.2=(n:Int)/\s.1.l=(List.range n).map g) ⟨rfl,rfl⟩ ?_ ?_
  .rintro n ⟨o,_⟩ C ⟨e1,e2⟩;simp only at e1 e2;subst e1;have D:o.l.length=n:=by rw[e2];simp
   unfold eE.bz;rw[decide_eq_true (by omega),bH,(hg n (by omega)).1,ζb]
   have u:jr o (g n)=some (.row (o.l++[g n])):=by unfold jr;rw[if_pos (by omega)]
   rw[u,ζb,bl,dG n (by omega)]
   refine⟨rfl,?_⟩;show o.l++[g n]=_;rw[e2,List.range_succ,List.map_append];rfl
  .rintro⟨o,_⟩ ⟨e1,e2⟩;simp only at e1 e2;subst e1;unfold eE.bz;rw[decide_eq_false (by omega),bG,bl]
   exact(bl _).2 ⟨e2,rfl⟩
 have p2:Wp (f_ t m q) λo=>o.l=(List.range (P.events.l.length+1)).map g:=by
  unfold f_ f_.W1;refine qw (P.events.l.length+1) (λn s=>s.2=(n:Int)/\s.1.l=(List.range n).map g) ⟨rfl,rfl⟩ ?_ ?_
  .rintro n ⟨o,_⟩ C ⟨e1,e2⟩;simp only at e1 e2;subst e1;have D:o.l.length=n:=by rw[e2];simp
   unfold f_.bz;rw[jo,hP,ζb,decide_eq_true (show (n:Int)<=len P.events by simp only[len];omega),bH,(hg n (by omega)).2,ζb]
   have u:jr o (g n)=some (.row (o.l++[g n])):=by unfold jr;rw[if_pos (by omega)]
   rw[u,ζb,bl,dG n (by omega)]
   refine⟨rfl,?_⟩;show o.l++[g n]=_;rw[e2,List.range_succ,List.map_append];rfl
  .rintro⟨o,_⟩ ⟨e1,e2⟩;simp only at e1 e2;subst e1;unfold f_.bz;rw[jo,hP,ζb,decide_eq_false (show ¬((P.events.l.length+1:Nat):Int)<=len P.events by simp only[len];omega),bG,bl]
   exact(bl _).2 e2
 obtain⟨⟨o,z⟩,h1,w,I⟩:=p1;obtain⟨B,L,O⟩:=p2;simp only at w I;subst I;have Q:=(hS.2 P (List.mem_of_getElem? hP)).1;exact⟨o,B,h1,L,by rw[w,O],by rw[w,List.length_map,List.length_range];omega⟩
theorem J_ (hS:Small t) (J:(cu t).length<1073741824) {p:Pred} (B:p.Sm) {pr k:Int}:dK t pr k p=some true:=by
 obtain⟨O,z⟩:=SR hS;obtain⟨hg,A⟩:=OP B;unfold dK;rw[show v7=some true from rfl,ζb,bH,z,ζb,A,ζb]
 cases O with
 | true=>rfl
 | false=>
 cases hg with
 | true=>rfl
 | false=>
 rw[bG,ζb,bG];obtain⟨e,Q,f1,S⟩:=JK hS J B pr k;obtain⟨u,T,f0,U⟩:=JK hS J B pr 0;have I:l_ p.kind=2->9<=p.kind:=λhk=>by
  unfold l_ at hk
  by_cases h:p.kind<=8
  .rw[if_pos h]at hk;cases hk
  .omega
 have C:∃o f,eE t pr p=some (o,f)/\dK.J1 pr o f t p=some true:=by
  unfold eE dK.J1;rw[T,f0,ζb]
  by_cases h:u=0
  .subst h;obtain⟨hv,hV,D,hc,hk,G,m,j,P,rfl,-,hP,-⟩:=U rfl;have hd:=D;simp only[oq,ζh,decide_eq_true_eq]at hd;obtain⟨o,Y,g1,g2,g3,g4⟩:=I5 hS hv hV hP hc (I hk) (by omega) G
   rw[show ((0:Int)==0)=true from rfl,bH,jo,hP,ζb,g1];refine⟨o,0,rfl,?_⟩;rw[ζb,show ((0:Int)==0)=true from rfl,bH,bH,g2,ζb,TN g4 g3];rfl
  .have w:(u==0)=false:=by simpa using h
   rw[w,bG];refine⟨Sl.nil,u,rfl,?_⟩;rw[ζb,w,bG,show (u==u)=true from by simp]
   rfl
 obtain⟨o,f,C,L⟩:=C;rw[C,f1];unfold tF;rw[Q,ζb]
 by_cases h:e=0
 .subst h;obtain⟨hv,hV,D,hc,hk,G,m,j,P,rfl,rfl,hP,W⟩:=S rfl;have hd:=D;simp only[oq,ζh,decide_eq_true_eq]at hd;obtain⟨x,X,x2⟩:=Jj hS hv hV hP W hc (I hk) (by omega) G
  rw[show ((0:Int)==0)=true from rfl,bH,X,ζb,ζb,ζb,ζb];simp only;rw[show ((0:Int)==0)=true from rfl,bH,bH,x2,ζb,ζb,show (!(x==x))=false from by simp,bG,L]
 .have w:(e==0)=false:=by simpa using h
  rw[w,bG,ζb,ζb,ζb];simp only;rw[w,bG,show (e==e)=true from by simp,bH,ζb,bG,L]
end
end Go.VE
