/-
 The law in plain Lean, and the join.
-/
import Derived.Test.YtlhegnhabpldfaaGreatDoorK1
import Derived.Test.YtlhegnhabpldfaaGreatDoorG1
set_option linter.all false
namespace Go.VE
theorem Zf{p:Prop}(h:p:=by kernel_rfl):p:=h
instance:cr Assign where
 wt x:=cr.wt x.var+cr.wt x.value+1
 ok x:=cr.ok x.var/\cr.ok x.value/\True
instance:cr Event where
 wt x:=cr.wt x.kind+cr.wt x.peer+cr.wt x.message+cr.wt x.time+cr.wt x.assign+1
 ok x:=cr.ok x.kind/\cr.ok x.peer/\cr.ok x.message/\cr.ok x.time/\cr.ok x.assign/\True
instance:cr Var where
 wt x:=cr.wt x.name+cr.wt x.init_+1
 ok x:=cr.ok x.name/\cr.ok x.init_/\True
instance:cr cu where
 wt x:=cr.wt x.name+cr.wt x.vars+cr.wt x.events+1
 ok x:=cr.ok x.name/\cr.ok x.vars/\cr.ok x.events/\True
instance:cr Trace where
 wt x:=cr.wt x.procs+1
 ok x:=cr.ok x.procs/\True
instance:cr Span where
 wt x:=cr.wt x.proc+cr.wt x.from_+cr.wt x.to_+1
 ok x:=cr.ok x.proc/\cr.ok x.from_/\cr.ok x.to_/\True
instance:cr Answer where
 wt x:=cr.wt x.mode+cr.wt x.holds+cr.wt x.kind+cr.wt x.cut+cr.wt x.cuts+cr.wt x.run+cr.wt x.spans+cr.wt x.value+1
 ok x:=cr.ok x.mode/\cr.ok x.holds/\cr.ok x.kind/\cr.ok x.cut/\cr.ok x.cuts/\cr.ok x.run/\cr.ok x.spans/\cr.ok x.value/\True
mutual
def Pred.VR:Pred->Nat
 | ⟨f0,f1,f2,f3,B,f5⟩=>cr.wt f0+cr.wt f1+cr.wt f2+cr.wt f3+cr.wt B+Pred.WL f5+1
def Pred.WL:Sl Pred->Nat
 | .nil=>1
 | .emp=>1
 | .row l=>Pred.Ue l+1
 | .part l=>Pred.Ue l+1
def Pred.Ue:List Pred->Nat
 | []=>0
 | x::r=>Pred.VR x+Pred.Ue r
end
mutual
def Pred.V3:Pred->Prop
 | ⟨f0,f1,f2,f3,B,f5⟩=>cr.ok f0/\cr.ok f1/\cr.ok f2/\cr.ok f3/\cr.ok B/\Pred.WD f5/\True
def Pred.WD:Sl Pred->Prop
 | .nil=>True
 | .emp=>False
 | .row l=>Pred.Tg l
 | .part l=>Pred.Tg l
def Pred.Tg:List Pred->Prop
 | []=>True
 | x::r=>Pred.V3 x/\Pred.Tg r
end
instance:cr Pred where
 wt:=Pred.VR
 ok:=Pred.V3
end Go.VE
namespace Go.VE.YtlhegnhabpldfaaGreatDoor
open Go.Proofs Go.Proofs.YtlhegnhabpldfaaGreatDoor
instance Xj:Reads Tryz.prog 9 ByteArray:=Reads.str Tryz.underlying9 Zf
instance Xi:Reads Tryz.prog 3 Int:=Reads.int Tryz.underlying3 Zf
instance W9:Reads Tryz.prog 69 Var:=by
 refine Reads.st Tryz.underlying69 Zf rfl ?_
 intro H enc w base spare held u I l J h;simp only[List.mapM_cons,List.mapM_nil,Option.pure_def,Option.bind_eq_bind,ζg,ζa]at h;obtain⟨z,h0,L,⟨B,h1,O,rfl,rfl⟩,rfl⟩:=h;obtain⟨a0,C,k0,Q⟩:=Reads.rd (P:=Tryz.prog) (t:=9) (α:=ByteArray) (d:=z.1) (ps:=z.2) h0;rw[show Tryz.prog.cellsOf 9=1 from by kernel_rfl]at C
 obtain⟨a1,D,k1,S⟩:=Reads.rd (P:=Tryz.prog) (t:=3) (α:=Int) (d:=B.1) (ps:=B.2) h1;rw[show Tryz.prog.cellsOf 3=1 from by kernel_rfl]at D
 refine⟨⟨a0,a1⟩,gb.fin (n:=2) (gb.seg (o:=1) (n:=1) (gb.seg (o:=0) (n:=1) (show gb (snap w) [] (I.take 0)from by simpa using gb.nil) C) D) J,⟨k0,k1,trivial⟩,λb G=>?_⟩
 have T:=Q b G;have U:=S b G;show cr.wt a0+cr.wt a1+1<=_;simp only[List.map_cons,List.map_nil,List.sum_cons,List.sum_nil];omega
instance W8:Reads Tryz.prog 54 (Sl Var):=Reads.sl (e:=69) Tryz.underlying54 Zf (by decide)
instance WZ:Reads Tryz.prog 131 Assign:=by
 refine Reads.st Tryz.underlying131 Zf rfl ?_
 intro H enc w base spare held u I l J h;simp only[List.mapM_cons,List.mapM_nil,Option.pure_def,Option.bind_eq_bind,ζg,ζa]at h;obtain⟨z,h0,L,⟨B,h1,O,rfl,rfl⟩,rfl⟩:=h;obtain⟨a0,C,k0,Q⟩:=Reads.rd (P:=Tryz.prog) (t:=3) (α:=Int) (d:=z.1) (ps:=z.2) h0;rw[show Tryz.prog.cellsOf 3=1 from by kernel_rfl]at C
 obtain⟨a1,D,k1,S⟩:=Reads.rd (P:=Tryz.prog) (t:=3) (α:=Int) (d:=B.1) (ps:=B.2) h1;rw[show Tryz.prog.cellsOf 3=1 from by kernel_rfl]at D
 refine⟨⟨a0,a1⟩,gb.fin (n:=2) (gb.seg (o:=1) (n:=1) (gb.seg (o:=0) (n:=1) (show gb (snap w) [] (I.take 0)from by simpa using gb.nil) C) D) J,⟨k0,k1,trivial⟩,λb G=>?_⟩
 have T:=Q b G;have U:=S b G;show cr.wt a0+cr.wt a1+1<=_;simp only[List.map_cons,List.map_nil,List.sum_cons,List.sum_nil];omega
instance Xg:Reads Tryz.prog 50 (Sl Assign):=Reads.sl (e:=131) Tryz.underlying50 Zf (by decide)
instance Xd:Reads Tryz.prog 52 Event:=by
 refine Reads.st Tryz.underlying52 Zf rfl ?_
 intro H enc w base spare held z U l W h;simp only[List.mapM_cons,List.mapM_nil,Option.pure_def,Option.bind_eq_bind,ζg,ζa]at h;obtain⟨B,h0,X,⟨C,h1,Y,⟨x2,Z,aa,⟨D,h3,ab,⟨x4,h4,ad,rfl,rfl⟩,rfl⟩,rfl⟩,rfl⟩,rfl⟩:=h;obtain⟨a0,G,k0,b0⟩:=Reads.rd (P:=Tryz.prog) (t:=3) (α:=Int) (d:=B.1) (ps:=B.2) h0;rw[show Tryz.prog.cellsOf 3=1 from by kernel_rfl]at G
 obtain⟨a1,I,k1,b1⟩:=Reads.rd (P:=Tryz.prog) (t:=3) (α:=Int) (d:=C.1) (ps:=C.2) h1;rw[show Tryz.prog.cellsOf 3=1 from by kernel_rfl]at I
 obtain⟨J,L,k2,b2⟩:=Reads.rd (P:=Tryz.prog) (t:=3) (α:=Int) (d:=x2.1) (ps:=x2.2) Z;rw[show Tryz.prog.cellsOf 3=1 from by kernel_rfl]at L
 obtain⟨O,Q,k3,b3⟩:=Reads.rd (P:=Tryz.prog) (t:=3) (α:=Int) (d:=D.1) (ps:=D.2) h3;rw[show Tryz.prog.cellsOf 3=1 from by kernel_rfl]at Q
 obtain⟨S,T,k4,b4⟩:=Reads.rd (P:=Tryz.prog) (t:=50) (α:=(Sl Assign)) (d:=x4.1) (ps:=x4.2) h4;rw[show Tryz.prog.cellsOf 50=1 from by kernel_rfl]at T
 refine⟨⟨a0,a1,J,O,S⟩,gb.fin (n:=5) (gb.seg (o:=4) (n:=1) (gb.seg (o:=3) (n:=1) (gb.seg (o:=2) (n:=1) (gb.seg (o:=1) (n:=1) (gb.seg (o:=0) (n:=1) (show gb (snap w) [] (U.take 0)from by simpa using gb.nil) G) I) L) Q) T) W,⟨k0,k1,k2,k3,k4,trivial⟩,λb u=>?_⟩
 have w0:=b0 b u;have w1:=b1 b u;have w2:=b2 b u;have w3:=b3 b u;have w4:=b4 b u;show cr.wt a0+cr.wt a1+cr.wt J+cr.wt O+cr.wt S+1<=_;simp only[List.map_cons,List.map_nil,List.sum_cons,List.sum_nil];omega
instance Xe:Reads Tryz.prog 53 (Sl Event):=Reads.sl (e:=52) Tryz.underlying53 Zf (by decide)
instance W0:Reads Tryz.prog 56 cu:=by
 refine Reads.st Tryz.underlying56 Zf rfl ?_
 intro H enc w base spare held z L l O h;simp only[List.mapM_cons,List.mapM_nil,Option.pure_def,Option.bind_eq_bind,ζg,ζa]at h;obtain⟨B,h0,Q,⟨C,h1,S,⟨x2,T,U,rfl,rfl⟩,rfl⟩,rfl⟩:=h;obtain⟨a0,D,k0,W⟩:=Reads.rd (P:=Tryz.prog) (t:=9) (α:=ByteArray) (d:=B.1) (ps:=B.2) h0;rw[show Tryz.prog.cellsOf 9=1 from by kernel_rfl]at D
 obtain⟨a1,G,k1,X⟩:=Reads.rd (P:=Tryz.prog) (t:=54) (α:=(Sl Var)) (d:=C.1) (ps:=C.2) h1;rw[show Tryz.prog.cellsOf 54=1 from by kernel_rfl]at G
 obtain⟨I,J,k2,Y⟩:=Reads.rd (P:=Tryz.prog) (t:=53) (α:=(Sl Event)) (d:=x2.1) (ps:=x2.2) T;rw[show Tryz.prog.cellsOf 53=1 from by kernel_rfl]at J
 refine⟨⟨a0,a1,I⟩,gb.fin (n:=3) (gb.seg (o:=2) (n:=1) (gb.seg (o:=1) (n:=1) (gb.seg (o:=0) (n:=1) (show gb (snap w) [] (L.take 0)from by simpa using gb.nil) D) G) J) O,⟨k0,k1,k2,trivial⟩,λb u=>?_⟩
 have Z:=W b u;have w1:=X b u;have w2:=Y b u;show cr.wt a0+cr.wt a1+cr.wt I+1<=_;simp only[List.map_cons,List.map_nil,List.sum_cons,List.sum_nil];omega
instance W_:Reads Tryz.prog 22 (Sl cu):=Reads.sl (e:=56) Tryz.underlying22 Zf (by decide)
instance Xa:Reads Tryz.prog 24 Trace:=by
 refine Reads.st Tryz.underlying24 Zf rfl ?_
 intro H enc w base spare held u C l D h;simp only[List.mapM_cons,List.mapM_nil,Option.pure_def,Option.bind_eq_bind,ζg,ζa]at h;obtain⟨z,h0,G,rfl,rfl⟩:=h;obtain⟨a0,B,k0,I⟩:=Reads.rd (P:=Tryz.prog) (t:=22) (α:=(Sl cu)) (d:=z.1) (ps:=z.2) h0;rw[show Tryz.prog.cellsOf 22=1 from by kernel_rfl]at B
 refine⟨⟨a0⟩,gb.fin (n:=1) (gb.seg (o:=0) (n:=1) (show gb (snap w) [] (C.take 0)from by simpa using gb.nil) B) D,⟨k0,trivial⟩,λb J=>?_⟩
 have L:=I b J;show cr.wt a0+1<=_;simp only[List.map_cons,List.map_nil,List.sum_cons,List.sum_nil];omega
instance Xk:Reads Tryz.prog 4 Bool:=Reads.bool Tryz.underlying4 Zf
instance Xh:Reads Tryz.prog 42 (Sl Bool):=Reads.sl (e:=4) Tryz.underlying42 Zf (by decide)
instance Xc:Reads Tryz.prog 36 (Sl Int):=Reads.sl (e:=3) Tryz.underlying36 Zf (by decide)
instance Xf:Reads Tryz.prog 25 (Sl (Sl Int)):=Reads.sl (e:=36) Tryz.underlying25 Zf (by decide)
end Go.VE.YtlhegnhabpldfaaGreatDoor
namespace Go.VE
end Go.VE
namespace Go.VE
abbrev DU {α:Type} (m:Option α):Prop:=Wp m λ_=>True
theorem DU.get {α:Type} {m:Option α} (h:DU m):∃a,m=some a:=let ⟨a,e,_⟩:=h;⟨a,e⟩
theorem DU.ok {m:Option Bool} (h:DU m):m=some (m.getD false):=by obtain⟨a,e,_⟩:=h;rw[e];rfl
def Small (t:Trace):Prop:=t.procs.l.length<1073741824/\∀p∈t.procs.l,p.events.l.length<1073741824/\p.vars.l.length<1073741824/\p.name.size<1073741824/\(∀v∈p.vars.l,v.name.size<1073741824)/\∀e∈p.events.l,e.assign.l.length<1073741824
section
theorem BX {s:Sl Event} {p:Event->Option Bool} {f:Event->Bool} (B:∀x∈s.l,p x=some (f x)) (D:s.l.length<1073741824):eW s p=some (place f s.l):=
 pg B Za (λi=>rfl)
theorem M9 {s:Sl cu} {p:cu->Option Bool} {f:cu->Bool} (B:∀x∈s.l,p x=some (f x)) (D:s.l.length<1073741824):gj s p=some (place f s.l):=
 pg B Za (λi=>rfl)
theorem OW {s:Sl Var} {p:Var->Option Bool} {f:Var->Bool} (B:∀x∈s.l,p x=some (f x)) (D:s.l.length<1073741824):gB s p=some (place f s.l):=
 pg B Za (λi=>rfl)
theorem It {s:Sl Assign} {p:Assign->Option Bool} {f:Assign->Bool} (B:∀x∈s.l,p x=some (f x)) (D:s.l.length<1073741824):fm s p=some (place f s.l):=
 pg B Za (λi=>rfl)
theorem yH {s:Sl Event} {p:Event->Option Bool} {f:Event->Bool} (B:∀x∈s.l,p x=some (f x)) (D:s.l.length<1073741824):gP s p=some (s.l.any f):=by
 unfold gP;rw[BX B D,ζb,rm]
theorem FF {s:Sl cu} {p:cu->Option Bool} {f:cu->Bool} (B:∀x∈s.l,p x=some (f x)) (D:s.l.length<1073741824):hU s p=some (s.l.any f):=by
 unfold hU;rw[M9 B D,ζb,rm]
theorem A0 {s:Sl Var} {p:Var->Option Bool} {f:Var->Bool} (B:∀x∈s.l,p x=some (f x)) (D:s.l.length<1073741824):gx s p=some (s.l.any f):=by
 unfold gx;rw[OW B D,ζb,rm]
theorem Dq {s:Sl Assign} {p:Assign->Option Bool} {f:Assign->Bool} (B:∀x∈s.l,p x=some (f x)) (D:s.l.length<1073741824):gF s p=some (s.l.any f):=by
 unfold gF;rw[It B D,ζb,rm]
theorem oG (x B D:Int):mU x B D=some (decide (B<=x)&&decide (x<=D)):=by
 unfold mU;rw[j7];rfl
theorem Ju {s:ByteArray} {i:Nat} (h:i<s.size):∃x,kK s (i:Int)=some x:=by
 unfold kK;rw[if_pos Za]
 exact⟨_,by rw[show (s[(i:Int).toNat]?)=some s[i]from by simp[h]];rfl⟩
def kF (n:Nat) (p:Int) (e:Event):Prop:=e.kind=1\/((e.kind=2\/e.kind=3)/\0<=e.peer/\e.peer<n/\e.peer≠p/\0<=e.message/\e.message<=199)
end
def kn (t:Trace) (p k:Nat) (e:Event):Prop:=∃P,t.procs.l[p]? = some P/\P.events.l[k]? = some e
theorem tg {p:Int} {x:aZ×Event}:∀{es:List Event} {j:Int},x∈iD p j es↔∃k:Nat,es[k]? = some x.2/\x.1=⟨p,j+k+1⟩
 | [],j=>by simp[iD]
 | e::es,j=>by
  simp[iD,tg ];constructor
  .rintro (rfl|⟨k,h1,B⟩)
   .exact⟨0,rfl,by simp⟩
   exact⟨k+1,by grind,by grind⟩
  grind
theorem uw {x:aZ×Event}:∀{ps:List cu} {i:Int},x∈fI i ps↔∃(a k:Nat) (P:cu),ps[a]? = some P/\P.events.l[k]? = some x.2/\x.1=⟨i+a,k+1⟩
 | [],i=>by simp[fI]
 | p::ps,i=>by
  simp only[fI,List.mem_append,tg,uw ];constructor
  .rintro (⟨k,h1,B⟩|⟨a,k,P,h1,B,D⟩)
   .exact⟨0,k,p,rfl,h1,by grind⟩
   exact⟨a+1,k,P,by simp_all,B,by grind⟩
  grind
abbrev bT (t:Trace):List (aZ×Event):=fI 0 t.procs.l
theorem eu {t:Trace} {x:aZ×Event}:x∈bT t↔∃p k:Nat,kn t p k x.2/\x.1=⟨p,k+1⟩:=by
 rw[uw];constructor
 .rintro⟨a,k,P,h1,u,w⟩;exact⟨a,k,⟨P,h1,u⟩,by grind⟩
 rintro⟨a,k,⟨P,h1,u⟩,w⟩;grind
theorem Bw {t:Trace} {x y:aZ×Event} (B:x∈bT t) (D:y∈bT t) (h:x.1=y.1):x=y:=by
 obtain⟨p,k,⟨P,u,hk⟩,e1⟩:=eu.1 B;obtain⟨q,j,⟨Q,w,z⟩,e2⟩:=eu.1 D
 grind
theorem uN {t:Trace} (B:Small t):iY t=some (bT t):=by
 unfold iY;rw[if_pos];simp[Fe];exact⟨by have:=B.1;omega,λp u=>by have:=(B.2 p u).1;omega⟩
def sy (t:Trace) (p m to:Int):Bool:=match t.procs.l[p.toNat]? with
 | some P=>P.events.l.any λe=>e.kind==2&&e.message==m&&e.peer==to
 | none=>false
theorem O3 {t:Trace} (B:Small t) {p:Int} (h0:0<=p) (h1:p<t.procs.l.length) (m to:Int):tE t p m to=some (sy t p m to):=by
 unfold tE;have u:p.toNat<t.procs.l.length:=by omega
 have w:=List.getElem_mem u;rw[KX h0,ζd u,ζb,yH (f:=λe=>e.kind==2&&e.message==m&&e.peer==to) (λe _=>by
  unfold qd;simp[j7]) (B.2 _ w).1,ζb]
 unfold sy
 grind
theorem C3 {t:Trace} {p:Nat} {m to:Int}:sy t p m to=true↔∃k e,kn t p k e/\e.kind=2/\e.message=m/\e.peer=to:=by
 unfold sy kn;rw[show (p:Int).toNat=p from rfl]
 cases w:t.procs.l[p]? with
 | none=>simp
 | some P=>
  simp;constructor
  .rintro⟨e,u,h⟩;obtain⟨k,hk⟩:=List.getElem?_of_mem u
   grind
  grind
def ag (A:bW 200 bC) (m:Int):bC:=(A.at m).getD default
theorem KO (A:bW 200 bC) {m:Int} (h0:0<=m) (h1:m<=199):A.at m=some (ag A m):=by
 have:m.toNat<A.l.length:=by rw[A.len];omega
 unfold ag bW.at
 grind
theorem qm (A:bW 200 bC) {m m':Int} (x:bC) (h0:0<=m) (h1:m<=199) (B:0<=m'):ag (A.set m x) m'=if m'=m then x else ag A m':=by
 have:m.toNat<A.l.length:=by rw[A.len];omega
 unfold ag bW.at bW.set
 grind
theorem Mp {m:Int} (h0:0<=m) (h1:m<=199):ag (bW.EN 200 (⟨⟨0,0⟩,⟨0,0⟩⟩:bC)) m=⟨⟨0,0⟩,⟨0,0⟩⟩:=by
 unfold ag bW.at bW.EN
 grind
structure fq (t:Trace) (its:List (aZ×Event)) (A:bW 200 bC):Prop where
 snd:∀x∈its,x.2.kind=2->(ag A x.2.message).from_=x.1
 rcv:∀x∈its,x.2.kind=3->(ag A x.2.message).to_=x.1/\sy t x.2.peer x.2.message x.1.proc=true
 fr:∀m,0<=m->m<=199->(ag A m).from_.index=0\/∃e,((ag A m).from_,e)∈its/\e.kind=2/\e.message=m
 to:∀m,0<=m->m<=199->(ag A m).to_.index=0\/∃e,((ag A m).to_,e)∈its/\e.kind=3/\e.message=m
def Lj (a b:aZ×Event):Prop:=a.1.proc<b.1.proc\/a.1.proc=b.1.proc/\a.1.index<b.1.index
theorem Mi {p:Int}:∀{es:List Event} {j:Int},(iD p j es).Pairwise Lj
 | [],_=>List.Pairwise.nil
 | e::es,j=>by
  simp only[iD,List.pairwise_cons];refine⟨λb B=>?_,Mi⟩
  obtain⟨k,_,D⟩:=tg.1 B;refine .inr ⟨by rw[D],?_⟩
  grind
theorem HL:∀{ps:List cu} {i:Int},(fI i ps).Pairwise Lj
 | [],_=>List.Pairwise.nil
 | P::ps,i=>by
  simp only[fI,List.pairwise_append];refine⟨Mi,HL,λa B b D=>.inl ?_⟩
  obtain⟨k,_,G⟩:=tg.1 B;obtain⟨c,j,P,_,_,u⟩:=uw.1 D
  grind
theorem GH {t:Trace} {k:Nat} {x y:aZ×Event} (B:(bT t)[k]? = some x) (D:y∈(bT t).take k):y.1≠x.1:=by
 obtain⟨h1,u⟩:=ζe.1 B;have w:((bT t).take k++(bT t).drop k).Pairwise Lj:=by rw[List.take_append_drop];exact HL
 have:=(List.pairwise_append.1 w).2.2 y D x (by rw[List.drop_eq_getElem_cons h1,u];grind)
 unfold Lj at this
 grind
structure wX (t:Trace):Prop where
 snd:∀x∈bT t,∀y∈bT t,x.2.kind=2->y.2.kind=2->x.2.message=y.2.message->x.1=y.1
 rcv:∀x∈bT t,∀y∈bT t,x.2.kind=3->y.2.kind=3->x.2.message=y.2.message->x.1=y.1
 has:∀x∈bT t,x.2.kind=3->sy t x.2.peer x.2.message x.1.proc=true
theorem fq.MS {t:Trace} {A:bW 200 bC} (h:fq t (bT t) A):wX t:=
 ⟨λx w y z k2 u B=>by rw[<-h.snd x w k2,<-h.snd y z u,B],λx w y z k2 u B=>by rw[<-(h.rcv x w k2).1,<-(h.rcv y z u).1,B],λx w k=>(h.rcv x w k).2⟩
theorem B_ {t:Trace} (hS:Small t) (hF:∀x∈bT t,kF t.procs.l.length x.1.proc x.2):Wp (eN t) λr=>(r.2.2=0->∃A,r.1=some A/\fq t (bT t) A)/\(wX t->r.2.2=0):=by
 unfold eN jE;rw[ζb];unfold eN.E1;rw[uN hS,ζb];refine Af (λk A=>fq t ((bT t).take k) A) ⟨by simp,by simp,λm h0 h1=>.inl (by rw[Mp h0 h1]),λm h0 h1=>.inl (by rw[Mp h0 h1])⟩ ?_ ?_
 .intro k x A hx B;have G  := List.mem_of_getElem? hx;have S:(bT t).take (k+1)=(bT t).take k++[x]:=by rw[List.take_add_one,hx];rfl
  obtain⟨p,j,aa,ab⟩:=eu.1 G;have hf:=hF x G;unfold eN.s8;rw[cn];constructor
  .intro hk;have L:x.2.kind=2:=by grind
   have u:0<=x.2.message/\x.2.message<=199:=by
    rcases hf with h|⟨_,_,_,_,h⟩
    .omega
    simp_all
   rw[KO A u.1 u.2,ζb,cn];refine⟨λhg=>(a_ _).2 ((a_ _).2 ⟨λh=>(by cases h),λX=>?_⟩),λh0=>?_⟩
   .rcases B.fr _ u.1 u.2 with Y|⟨e,O,T,U⟩
    .grind
    exact absurd (X.snd _ (List.mem_of_mem_take O) x G T L U) (GH hx O)
   rw[ζb,a_,S];have W:∀y∈(bT t).take k,y.2.kind=2->y.2.message≠x.2.message:=λy hy w O=>by
    have:=B.snd y hy w;rw[O]at this;obtain⟨p',j',_,Q⟩:=eu.1 (List.mem_of_mem_take hy)
    grind
   have Z:∀y∈(bT t).take k,y.2.kind=2\/y.2.kind=3->0<=y.2.message:=λy hy w=>by
    rcases hF y (List.mem_of_mem_take hy)with h|⟨_,_,_,_,h,_⟩
    .omega
    simp_all
   refine⟨λy hy w=>?_,λy hy z=>?_,λm C I=>?_,λm C I=>?_⟩
   .rcases List.mem_append.1 hy with hy|hy
    .rw[qm A _ u.1 u.2 (Z y hy (.inl w)),if_neg (W y hy w)];exact B.snd y hy w
    simp at hy;subst hy;rw[qm A _ u.1 u.2 u.1,if_pos rfl]
   .rcases List.mem_append.1 hy with hy|hy
    .rw[qm A _ u.1 u.2 (Z y hy (.inr z))];have:=B.rcv y hy z
     grind
    grind
   .rw[qm A _ u.1 u.2 C];split
    next e=>exact .inr ⟨x.2,by simp,L,e.symm⟩
    exact(B.fr m C I).imp (λh=>h) λ⟨e,h1,D⟩=>⟨e,List.mem_append_left _ h1,D⟩
   rw[qm A _ u.1 u.2 C];have:=(B.to m C I).imp (λh=>h) λ⟨e,h1,D⟩=>(⟨e,List.mem_append_left [x] h1,D⟩:∃e,((ag A m).to_,e)∈(bT t).take k++[x]/\e.kind=3/\e.message=m)
   split
   next e=>subst e;omega
   omega
  intro hk;have L  := by simpa using hk
  rw[cn];constructor
  .intro hk;have J  := by simpa using hk
   have u:0<=x.2.message/\x.2.message<=199/\0<=x.2.peer/\x.2.peer<t.procs.l.length:=by
    rcases hf with h|⟨_,h1,D,_,h3,h4⟩
    .omega
    exact⟨h3,h4,h1,D⟩
   rw[KO A u.1 u.2.1,ζb,cn];refine⟨λhg=>(a_ _).2 ((a_ _).2 ⟨λh=>(by cases h),λX=>?_⟩),λh0=>?_⟩
   .rcases B.to _ u.1 u.2.1 with Y|⟨e,O,T,U⟩
    .simp[Y]at hg
    exact absurd (X.rcv _ (List.mem_of_mem_take O) x G T J U) (GH hx O)
   have h0:¬(ag A x.2.message).to_.index>0:=by simpa using h0
   rw[O3 hS u.2.2.1 u.2.2.2,ζb,cn];refine⟨λhs=>?_,λhs=>(a_ _).2 ((a_ _).2 ⟨λh=>(by cases h),λX=>by rw[X.has x G J]at hs;cases hs⟩)⟩
   rw[ζb,a_,S];have W:∀y∈(bT t).take k,y.2.kind=3->y.2.message≠x.2.message:=λy hy w O=>by
    have:=(B.rcv y hy w).1;rw[O]at this;rw[this]at h0;obtain⟨p',j',_,Q⟩:=eu.1 (List.mem_of_mem_take hy);rw[Q]at h0;exact h0 (by show (j':Int)+1>0;omega)
   have Z:∀y∈(bT t).take k,y.2.kind=2\/y.2.kind=3->0<=y.2.message:=λy hy w=>by
    rcases hF y (List.mem_of_mem_take hy)with h|⟨_,_,_,_,h,_⟩
    .omega
    exact h
   refine⟨λy hy w=>?_,λy hy z=>?_,λm C I=>?_,λm C I=>?_⟩
   .rcases List.mem_append.1 hy with hy|hy
    .rw[qm A _ u.1 u.2.1 (Z y hy (.inl w))];have:=B.snd y hy w;split
     next e=>rw[e]at this;exact this
     exact this
    simp at hy;subst hy;omega
   .rcases List.mem_append.1 hy with hy|hy
    .rw[qm A _ u.1 u.2.1 (Z y hy (.inr z)),if_neg (W y hy z)];exact B.rcv y hy z
    simp at hy;subst hy;rw[qm A _ u.1 u.2.1 u.1,if_pos rfl];exact⟨rfl,hs⟩
   .rw[qm A _ u.1 u.2.1 C];have:=(B.fr m C I).imp (λh=>h) λ⟨e,h1,D⟩=>(⟨e,List.mem_append_left [x] h1,D⟩:∃e,((ag A m).from_,e)∈(bT t).take k++[x]/\e.kind=2/\e.message=m)
    split
    next e=>subst e;exact this
    exact this
   rw[qm A _ u.1 u.2.1 C];split
   next e=>exact .inr ⟨x.2,by simp,J,e.symm⟩
   exact(B.to m C I).imp (λh=>h) λ⟨e,h1,D⟩=>⟨e,List.mem_append_left _ h1,D⟩
  intro hk;have J  := by simpa using hk
  rw[a_,S];refine⟨λy hy w=>?_,λy hy z=>?_,λm C I=>?_,λm C I=>?_⟩
  .rcases List.mem_append.1 hy with hy|hy
   .exact B.snd y hy w
   simp at hy;subst hy;exact absurd w L
  .rcases List.mem_append.1 hy with hy|hy
   .exact B.rcv y hy z
   simp at hy;subst hy;exact absurd z J
  .exact(B.fr m C I).imp (λh=>h) λ⟨e,h1,D⟩=>⟨e,List.mem_append_left _ h1,D⟩
  exact(B.to m C I).imp (λh=>h) λ⟨e,h1,D⟩=>⟨e,List.mem_append_left _ h1,D⟩
 intro A hA;rw[List.take_length]at hA;exact(a_ _).2 ⟨λ_=>⟨A,rfl,hA⟩,λ_=>rfl⟩
def iL (f:Nat->Bool) (k n:Nat):Bool:=(List.range' k (n-k)).any f
theorem Eg {f:Nat->Bool} {k n:Nat} (h:k<n):iL f k n=(f k||iL f (k+1) n):=by
 unfold iL;rw[show n-k=(n-(k+1))+1 from by omega,List.range'_succ];rfl
theorem NJ {f:Nat->Bool} {k n:Nat} (h:n<=k):iL f k n=false:=by
 unfold iL;rw[show n-k=0 from by omega];rfl
theorem NB {f:Nat->Bool} {k n:Nat}:iL f k n=true↔∃i,k<=i/\i<n/\f i=true:=by
 unfold iL;rw[List.any_eq_true];constructor
 .rintro⟨i,w,u⟩;rw[List.mem_range'_1]at w;exact⟨i,w.1,by omega,u⟩
 rintro⟨i,h1,z,u⟩;exact⟨i,by rw[List.mem_range'_1];omega,u⟩
theorem DF {step:Int->Option (Fw Int Unit Unit)} {n:Nat} (f:Nat->Bool) (D:n<9223372036854775807) (h1:∀i:Nat,i<n->step i=some (if f i then .r ()else .n (IntKind.wrap .i64 ((i:Int)+1)))) (B:step (n:Int)=some (.x ())) :
 ∀m k:Nat,k+m=n->bR step (k:Int)=some (if iL f k n then .r ()else .x ()):=by
 intro m
 induction m with
 | zero=>
  intro k hk;have:k=n:=by omega
  subst this;rw[gX,B,NJ (Nat.le_refl _)];rfl
 | succ m u=>
  intro k hk;rw[gX,h1 k Za,Eg Za]
  cases w:f k with
  | true=>rfl
  | false=>
   simp only[Bool.false_eq_true,if_false,ζb,Bool.false_or];rw[cK k Za]
   exact u (k+1) Za
def oc (g:Nat->Int) (k n:Nat):Int:=match (List.range' k (n-k)).find? λi => !(g i==0)with
 | some i=>g i
 | none=>0
theorem LN {g:Nat->Int} {k n:Nat} (h:k<n):oc g k n=if g k=0 then oc g (k+1) n else g k:=by
 unfold oc;rw[show n-k=(n-(k+1))+1 from by omega,List.range'_succ,List.find?_cons]
 by_cases h0:g k=0
 .simp[h0]
 rw[if_neg h0,show (!(g k==0))=true from by simp[h0]]
theorem Oy {g:Nat->Int} {k n:Nat} (h:n<=k):oc g k n=0:=by
 unfold oc;rw[show n-k=0 from by omega];rfl
theorem SF {step:Int->Option (Fw Int Unit Int)} {n:Nat} (g:Nat->Int) (D:n<9223372036854775807) (h1:∀i:Nat,i<n->step i=some (if g i=0 then .n (IntKind.wrap .i64 ((i:Int)+1))else .r (g i))) (B:step (n:Int)=some (.x ())) :
 ∀m k:Nat,k+m=n->bR step (k:Int)=some (if oc g k n=0 then .x ()else .r (oc g k n)):=by
 intro m
 induction m with
 | zero=>
  intro k hk;have:k=n:=by omega
  subst this;rw[gX,B,Oy (Nat.le_refl _)];rfl
 | succ m u=>
  intro k hk;rw[gX,h1 k Za,LN Za]
  by_cases h0:g k=0
  .simp only[h0,if_true,ζb];rw[cK k Za]
   exact u (k+1) Za
  simp only[h0,if_false,ζb]
theorem xY {step:Int->Option (Fw Int Unit Int)} {n:Nat} (g:Nat->Int) (B:n<9223372036854775807) (h1:∀i:Nat,i<n->step i=some (if g i=0 then .n (IntKind.wrap .i64 ((i:Int)+1))else .r (g i))) (D:step (n:Int)=some (.x ())):bR step 0=some (if oc g 0 n=0 then .x ()else .r (oc g 0 n)):=SF g B h1 D n 0 Za
theorem Bi {step:Int->Option (Fw Int Unit Unit)} {n:Nat} (f:Nat->Bool) (B:n<9223372036854775807) (h1:∀i:Nat,i<n->step i=some (if f i then .r ()else .n (IntKind.wrap .i64 ((i:Int)+1)))) (D:step (n:Int)=some (.x ())):bR step 0=some (if iL f 0 n then .r ()else .x ()):=DF f B h1 D n 0 Za
def wF (c:Int):Bool:=decide (c>=65)&&decide (c<=90)||decide (c>=97)&&decide (c<=122)
def Bt (c:Int):Bool:=decide (c>=48)&&decide (c<=57)
theorem CC (c:Int):o_ c=some (wF c):=by
 unfold o_ wF;simp only[j7,ir,ζb];rw[Bool.or_comm]
theorem C4 (c:Int):oq c=some (wF c):=by
 unfold oq wF;simp only[j7,ir,ζb]
theorem Lq (c:Int):tH c=some (Bt c):=by
 unfold tH Bt;simp only[j7,ζb]
theorem L0 (c:Int):sw c=some (Bt c):=by
 unfold sw Bt;simp only[j7,ζb]
def vY (s:ByteArray) (i:Nat):Int:=(kK s (i:Int)).getD 0
theorem CV {s:ByteArray} {i:Nat} (h:i<s.size):kK s (i:Int)=some (vY s i):=by
 obtain⟨x,u⟩:=Ju h;unfold vY;rw[u];rfl
def rW (s:ByteArray) (i:Nat):Bool := !wF (vY s i) && !Bt (vY s i) && !(vY s i==95)
def kX (s:ByteArray):Bool:=decide (1<=s.size)&&decide (s.size<=16)&&wF (vY s 0) && !iL (rW s) 0 s.size
theorem Ku {s:ByteArray} {i:Nat} (h:i<s.size):fV.bt s (s.size:Int) i=some (if rW s i then .r ()else .n (IntKind.wrap .i64 ((i:Int)+1))):=by
 unfold fV.bt rW;rw[show decide ((i:Int)<(s.size:Int))=true from by simpa using h,bS,CV h]
 simp only[ζb,CC,Lq];cases wF (vY s i) <;> cases Bt (vY s i) <;> cases (vY s i==95) <;> rfl
theorem KS {s:ByteArray} {i:Nat} (h:i<s.size):gL.bt s i=some (if rW s i then .r ()else .n (IntKind.wrap .i64 ((i:Int)+1))):=by
 unfold gL.bt rW;rw[show decide ((i:Int)<((ByteArray.size s:Nat):Int))=true from by simpa using h,bS,CV h]
 simp only[ζb,C4,L0];cases wF (vY s i) <;> cases Bt (vY s i) <;> cases (vY s i==95) <;> rfl
theorem toList_empty {s:ByteArray}:(ByteArray.toList s==ByteArray.toList ByteArray.empty)=decide (s.size=0):=by
 rw[Bool.eq_iff_iff,beq_iff_eq,decide_eq_true_eq];constructor
 .intro h;have h1:(ByteArray.toList s).length=s.size:=by rw[Go.ByteArray.toList_eq];simp
  rw[<-h1,h];rw[Go.ByteArray.toList_eq];rfl
 intro h;have:s=ByteArray.empty:=by
  apply ByteArray.ext;exact Array.eq_empty_of_size_eq_zero h
 rw[this]
theorem EX {s:ByteArray} (B:s.size<1073741824):fV s=some (kX s):=by
 unfold fV;rw[toList_empty];simp only[ir,ζb]
 by_cases h0:s.size=0
 .simp[h0,kX,br]
 by_cases u:s.size<=16
 .have hc:(decide (s.size=0)||decide (((ByteArray.size s:Nat):Int)>16))=false:=by simp[h0];omega
  rw[hc,bZ,show (0:Int)=((0:Nat):Int)from rfl,CV (show 0<s.size by omega)]
  simp only[ζb,CC]
  cases w:wF (vY s 0)with
  | false=>simp[kX,w,br]
  | true=>
   simp only[Bool.not_true,bZ];unfold fV.W1;rw[DF (n:=s.size) (rW s) Za (λi z=>Ku z) (by unfold fV.bt;simp[br]) s.size 0 Za]
   have:kX s = !iL (rW s) 0 s.size:=by simp[kX,w,u];omega
   rw[this];cases iL (rW s) 0 s.size <;> rfl
 have hc:(decide (s.size=0)||decide (((ByteArray.size s:Nat):Int)>16))=true:=by simp;omega
 rw[hc,bS];simp[kX,u,br]
theorem GF {s:ByteArray} (D:s.size<1073741824):gL s=some (kX s):=by
 unfold gL;simp only[ir,ζb]
 by_cases h0:s.size=0
 .simp[h0,kX,br]
 by_cases u:s.size<=16
 .have hc:(decide (((ByteArray.size s:Nat):Int)<1)||decide (((ByteArray.size s:Nat):Int)>16))=false:=by simp;omega
  rw[hc,bZ,show (0:Int)=((0:Nat):Int)from rfl,CV (show 0<s.size by omega)]
  simp only[ζb,C4]
  cases w:wF (vY s 0)with
  | false=>simp[kX,w,br]
  | true=>
   simp only[Bool.not_true,bZ];unfold gL.W1;rw[show (1:Int)=((1:Nat):Int)from rfl,DF (n:=s.size) (rW s) Za (λi B=>KS B) (by unfold gL.bt;simp[br]) (s.size-1) 1 Za]
   have z:rW s 0=false:=by simp[rW,w]
   have:kX s = !iL (rW s) 1 s.size:=by
    have h1:=Eg (f:=rW s) (show 0<s.size by omega)
    rw[z]at h1;simp[kX,w,u,h1];omega
   rw[this];cases iL (rW s) 1 s.size <;> rfl
 have hc:(decide (((ByteArray.size s:Nat):Int)<1)||decide (((ByteArray.size s:Nat):Int)>16))=true:=by simp;omega
 rw[hc,bS];simp[kX,u,br]
def fO {α:Type} (l:List α) (f:α->Bool) (i:Nat):Bool:=match l[i]? with|some y=>f y|none=>false
theorem zu {α:Type} {l:List α} {f:α->Bool} {i:Nat} (h:i<l.length):fO l f i=f l[i]:=by unfold fO;rw[ζd h]
theorem Bn {α:Type} {l:List α} {f:α->Bool} {p:Nat}:(l.take p).any f=iL (fO l f) 0 p:=by
 rw[Bool.eq_iff_iff,List.any_eq_true,NB];constructor
 .rintro⟨x,z,u⟩;obtain⟨i,w⟩:=List.getElem?_of_mem z;have B:=(ζe.1 w).1;rw[List.length_take]at B;rw[List.getElem?_take,if_pos Za]at w
  exact⟨i,Nat.zero_le _,by omega,by unfold fO;rw[w];exact u⟩
 rintro⟨i,_,w,u⟩;unfold fO at u;split at u
 next y C=>exact⟨y,List.mem_of_getElem? (i:=i) (by rw[List.getElem?_take,if_pos w];exact C),u⟩
 cases u
def qS (a b:ByteArray):Bool:=ByteArray.toList a==ByteArray.toList b
def Uv:Bool->Bool->Bool->Int
 | true,false,true=>0
 | true,false,false=>2
 | _,_,_=>13
def tV (P:cu) (i:Nat):Int:=match P.vars.l[i]? with
 | some v=>Uv (kX v.name) (iL (fO P.vars.l λw=>qS w.name v.name) 0 i) (decide (v.init_>=-1073741824)&&decide (v.init_<=1073741824))
 | none=>0
def rK (t:Trace) (p:Nat):Int:=match t.procs.l[p]? with
 | some P=>if kX P.name && !iL (fO t.procs.l λy=>qS y.name P.name) 0 p then
  (if P.vars.l.length>8 then 5 else if oc (tV P) 0 P.vars.l.length=0 then(if P.events.l.length>64 then 5 else 0)else oc (tV P) 0 P.vars.l.length)else 13
 | none=>0
theorem DV {P:cu} {i:Nat} (h:i<P.vars.l.length):tV P i=Uv (kX P.vars.l[i].name) (iL (fO P.vars.l λw=>qS w.name P.vars.l[i].name) 0 i) (decide (P.vars.l[i].init_>=-1073741824)&&decide (P.vars.l[i].init_<=1073741824)):=by
 unfold tV;rw[ζd h]
theorem El (n:Int):o7 n=some (decide (n>=-1073741824)&&decide (n<=1073741824)):=by
 unfold o7;rw[j7];rfl
theorem OM {t:Trace} (W:Small t) {p:Nat} (U:p<t.procs.l.length):eO t p=some (rK t p):=by
 have Y:=W.2 _ (List.getElem_mem U);have h1:=W.1;unfold eO rK;rw[bL U,ζb,ζd U];generalize Z:t.procs.l[p]=P at *;obtain⟨T,aa,Q,u,_⟩:=Y;rw[EX Q,ζb];obtain⟨x,hx,D⟩:=tO t.procs p Za
 have G:hU x (λz=>jr z P)=some (iL (fO t.procs.l λy=>qS y.name P.name) 0 p):=by
  rw[FF (p:=λz=>jr z P) (f:=λy=>qS y.name P.name) (λy _=>rfl) (by rw[D,List.length_take];omega),D,Bn]
 rw[hx,ζb,G,ζb];dsimp only
 cases hn:kX P.name with
 | false=>simp[br]
 | true=>
  rw[bS,ζb,Bool.true_and]
  cases hd:iL (fO t.procs.l λy=>qS y.name P.name) 0 p with
  | true=>simp[br]
  | false=>
   rw[bZ];simp only[Bool.not_false,if_true]
   by_cases X:P.vars.l.length>8
   .rw[show decide (len P.vars>8)=true from by simp[len];omega,bS,if_pos X]
   rw[show decide (len P.vars>8)=false from by simp[len];omega,bZ,if_neg X]
   unfold eO.W1;rw[xY (n:=P.vars.l.length) (tV P) Za (λi L=>?_) (by unfold eO.bt;simp[br,len])]
   .by_cases O:oc (tV P) 0 P.vars.l.length=0
    .rw[if_pos O,if_pos O];show br (decide (len P.events>64)) (some 5) (some 0)=_;rw[s7];simp only[len,decide_eq_true_eq]
     by_cases I:P.events.l.length>64
     .rw[if_pos I,if_pos Za]
     rw[if_neg I,if_neg Za]
    rw[if_neg O,if_neg O];rfl
   unfold eO.bt;rw[DV L,show decide ((i:Int)<len P.vars)=true from by simp[len];exact L,bS,bL L,ζb]
   have hv:=u _ (List.getElem_mem L);obtain⟨y,hy,J⟩:=tO P.vars i Za
   have S:gx y (λz=>ji z P.vars.l[i])=some (iL (fO P.vars.l λw=>qS w.name P.vars.l[i].name) 0 i):=by
    rw[A0 (p:=λz=>ji z P.vars.l[i]) (f:=λw=>qS w.name P.vars.l[i].name) (λw _=>rfl) (by rw[J,List.length_take];omega),J,Bn]
   rw[EX hv,ζb,hy,ζb,S,ζb,oG];have hr:(decide (-1073741824<=P.vars.l[i].init_)&&decide (P.vars.l[i].init_<=1073741824))=(decide (P.vars.l[i].init_>=-1073741824)&&decide (P.vars.l[i].init_<=1073741824)):=rfl;rw[hr];generalize kX P.vars.l[i].name=A;generalize iL (fO P.vars.l λw=>qS w.name P.vars.l[i].name) 0 i=B
   generalize (decide (P.vars.l[i].init_>=-1073741824)&&decide (P.vars.l[i].init_<=1073741824))=C;cases A <;> cases B <;> cases C <;> rfl
theorem OC {t:Trace} (U:Small t) {p:Nat} (O:p<t.procs.l.length):ez t p=some (rK t p):=by
 have T:=U.2 _ (List.getElem_mem O);have h1:=U.1;unfold ez rK;rw[bL O,ζb,ζd O];generalize W:t.procs.l[p]=P at *;obtain⟨Q,X,L,z,_⟩:=T;rw[GF L,ζb];dsimp only
 cases hn:kX P.name with
 | false=>simp[br]
 | true=>
  rw[bS,Bool.true_and];unfold ez.W1;rw[Bi (n:=p) (fO t.procs.l λy=>qS y.name P.name) Za (λi u=>?_) (by unfold ez.bt;simp[br])]
  .cases hd:iL (fO t.procs.l λy=>qS y.name P.name) 0 p with
   | true=>rfl
   | false=>
    simp only[Bool.not_false,if_true];show br (decide (len P.vars>8)) (some 5) (ez.W2 0 P)=_
    by_cases S:P.vars.l.length>8
    .rw[show decide (len P.vars>8)=true from by simp[len];omega,bS,if_pos S]
    rw[show decide (len P.vars>8)=false from by simp[len];omega,bZ,if_neg S]
    unfold ez.W2;rw[xY (n:=P.vars.l.length) (tV P) Za (λi u=>?_) (by unfold ez.bX;simp[br,len])]
    .by_cases J:oc (tV P) 0 P.vars.l.length=0
     .rw[if_pos J,if_pos J];show br (decide (len P.events>64)) (some 5) (some 0)=_;rw[s7];simp only[len,decide_eq_true_eq]
      by_cases D:P.events.l.length>64
      .rw[if_pos D,if_pos Za]
      rw[if_neg D,if_neg Za]
     rw[if_neg J,if_neg J];rfl
    unfold ez.bX;rw[DV u,show decide ((i:Int)<len P.vars)=true from by simp[len];exact u,bS,bL u,ζb]
    rw[GF (z _ (List.getElem_mem u)),ζb];have Y:ez.W3 i 0 P=if iL (fO P.vars.l λw=>qS w.name P.vars.l[i].name) 0 i then some (.r 13)else(if decide (P.vars.l[i].init_>=-1073741824)&&decide (P.vars.l[i].init_<=1073741824)then some (.n (IntKind.wrap .i64 ((i:Int)+1)))else some (.r 2)):=by
     unfold ez.W3;rw[Bi (n:=i) (fO P.vars.l λw=>qS w.name P.vars.l[i].name) Za (λj Z=>?_) (by unfold ez.dH;simp[br])]
     .cases iL (fO P.vars.l λw=>qS w.name P.vars.l[i].name) 0 i with
      | true=>rfl
      | false=>
       show (idx P.vars (i:Int)).bind _=_;rw[bL u,ζb,El,ζb];cases (decide (P.vars.l[i].init_>=-1073741824)&&decide (P.vars.l[i].init_<=1073741824)) <;> rfl
     unfold ez.dH;have G:j<P.vars.l.length:=by omega
     rw[show decide ((j:Int)<(i:Int))=true from by simpa using Z,bS,bL G,ζb,bL u,ζb,zu G,s7];rfl
    rw[Y];generalize kX P.vars.l[i].name=A;generalize iL (fO P.vars.l λw=>qS w.name P.vars.l[i].name) 0 i=B
    generalize (decide (P.vars.l[i].init_>=-1073741824)&&decide (P.vars.l[i].init_<=1073741824))=C;cases A <;> cases B <;> cases C <;> rfl
  unfold ez.bt;have I:i<t.procs.l.length:=by omega
  rw[show decide ((i:Int)<(p:Int))=true from by simpa using u,bS,bL I,ζb,zu I,s7];rfl
def Gj (n:Nat) (p:Int) (e:Event):Bool:=if e.kind==1 then e.peer==0&&e.message==0 else(e.kind==2||e.kind==3)&&(decide (0<=e.peer)&&decide (e.peer<n)) && !(e.peer==p)&&(decide (0<=e.message)&&decide (e.message<=199))
theorem LV {t:Trace} (D:Small t) (p:Int) (e:Event):iy t p e=some (Gj t.procs.l.length p e):=by
 have h1:=D.1;have w:IntKind.wrap .i64 (len t.procs-1)=len t.procs-1:=jX _ (by simp[len];omega) (by simp[len];omega)
 have u:∀b:Bool,iy.J1 p b t e=some (b&&(decide (0<=e.peer)&&decide (e.peer<t.procs.l.length)) && !(e.peer==p)&&(decide (0<=e.message)&&decide (e.message<=199))):=by
  intro b;unfold iy.J1;simp only[oG,w,ζb];have:decide (e.peer<=len t.procs-1)=decide (e.peer<t.procs.l.length):=by congr 1;apply propext;simp[len];omega
  rw[this];generalize (decide (0<=e.peer)&&decide (e.peer<(t.procs.l.length:Int)))=A;generalize (e.peer==p)=B;generalize (decide (0<=e.message)&&decide (e.message<=199))=C;cases b <;> cases A <;> cases B <;> cases C <;> rfl
 unfold iy Gj;rw[u,u]
 cases h1:e.kind==1 with
 | true=>
  rw[bS];cases e.peer==0 <;> cases e.message==0 <;> rfl
 | false=>
  rw[bZ];simp only[Bool.false_eq_true,if_false];cases z:e.kind==2 <;> simp[br]
def Ch (P:cu) (k:Nat) (e:Event):Bool:=match k with|0=>false|j+1=>fO P.events.l (λx=>decide (e.time<x.time)) j
def tq (P:cu) (k:Nat) (e:Event):Bool:=decide (e.time<0)||decide (e.time>1099511627776)||Ch P k e
def Ti:Bool->Bool->Bool->Int
 | true,true,false=>0
 | true,true,true=>8
 | _,_,_=>2
def qo (P:cu) (e:Event) (i:Nat):Int:=match e.assign.l[i]? with
 | some a=>Ti (decide (0<=a.var)&&decide (a.var<P.vars.l.length)) (decide (a.value>=-1073741824)&&decide (a.value<=1073741824)) (iL (fO e.assign.l λb=>b.var==a.var) 0 i)
 | none=>0
theorem Eh {P:cu} {e:Event} {i:Nat} (h:i<e.assign.l.length):qo P e i=Ti (decide (0<=e.assign.l[i].var)&&decide (e.assign.l[i].var<P.vars.l.length)) (decide (e.assign.l[i].value>=-1073741824)&&decide (e.assign.l[i].value<=1073741824)) (iL (fO e.assign.l λb=>b.var==e.assign.l[i].var) 0 i):=by
 unfold qo;rw[ζd h]
def oO (n:Nat) (P:cu) (p k:Nat) (e:Event):Int:=if Gj n p e then(if tq P k e then 11 else if e.assign.l.length>8 then 5 else oc (qo P e) 0 e.assign.l.length)else 3
theorem JE {P:cu} {e:Event} (hv:P.vars.l.length<1073741824) (U:e.assign.l.length<1073741824):dI.W2 e.assign (len e.assign) 0 e P=some (oc (qo P e) 0 e.assign.l.length):=by
 have J:IntKind.wrap .i64 (len P.vars-1)=len P.vars-1:=jX _ (by simp[len];omega) (by simp[len];omega)
 unfold dI.W2;rw[xY (n:=e.assign.l.length) (qo P e) Za (λi D=>?_) (by unfold dI.bX;simp[br,len])]
 .by_cases G:oc (qo P e) 0 e.assign.l.length=0
  .rw[if_pos G,G];rfl
  rw[if_neg G];rfl
 unfold dI.bX;obtain⟨y,L,u⟩:=tO e.assign i Za
 have I:gF y (λz=>jZ z e.assign.l[i])=some (iL (fO e.assign.l λb=>b.var==e.assign.l[i].var) 0 i):=by
  rw[Dq (p:=λz=>jZ z e.assign.l[i]) (f:=λb=>b.var==e.assign.l[i].var) (λw _=>rfl) (by rw[u,List.length_take];omega),u,Bn]
 rw[Eh D,show decide ((i:Int)<len e.assign)=true from by simp[len];exact D,bS,bL D,ζb,oG,oG,J,L,ζb,ζb,ζb,I,ζb]
 have h1:(decide (0<=e.assign.l[i].var)&&decide (e.assign.l[i].var<=len P.vars-1))=(decide (0<=e.assign.l[i].var)&&decide (e.assign.l[i].var<P.vars.l.length)):=by
  congr 2;apply propext;simp[len];omega
 have O:(decide (-1073741824<=e.assign.l[i].value)&&decide (e.assign.l[i].value<=1073741824))=(decide (e.assign.l[i].value>=-1073741824)&&decide (e.assign.l[i].value<=1073741824)):=rfl;rw[h1,O];generalize (decide (0<=e.assign.l[i].var)&&decide (e.assign.l[i].var<(P.vars.l.length:Int)))=A;generalize (decide (e.assign.l[i].value>=-1073741824)&&decide (e.assign.l[i].value<=1073741824))=B;generalize iL (fO e.assign.l λb=>b.var==e.assign.l[i].var) 0 i=C
 cases A <;> cases B <;> cases C <;> rfl
theorem Mb {t:Trace} (D:Small t) {p k:Nat} {P:cu} {e:Event} (G:t.procs.l[p]? = some P) (O:P.events.l[k]? = some e):dI t ⟨p,k+1⟩ e=some (oO t.procs.l.length P p k e):=by
 obtain⟨Q,w⟩:=ζe.1 G;obtain⟨hk,z⟩:=ζe.1 O;obtain⟨I,B,_,_,C⟩:=D.2 P (w▸List.getElem_mem Q);have S:=C e (z▸List.getElem_mem hk);have J:∀last:Int,((decide (0<=e.time)&&decide (e.time<=1099511627776)) && !decide (e.time<last))=(!tq P k e) ->
  dI.J1 last t ⟨p,k+1⟩ e P=some (oO t.procs.l.length P p k e):=by
  intro last T;unfold dI.J1 oO;rw[LV D,ζb,oG,ζb,JE B S];dsimp only
  cases Gj t.procs.l.length p e with
  | false=>rfl
  | true=>
   rw[bS,if_pos rfl];have:(br (decide (0<=e.time)&&decide (e.time<=1099511627776)) (some (decide (e.time<last))) (some true):Option Bool)=some (tq P k e):=by
    have U:(!((decide (0<=e.time)&&decide (e.time<=1099511627776)) && !decide (e.time<last)))=tq P k e:=by rw[T,Bool.not_not]
    rw[<-U];cases (decide (0<=e.time)&&decide (e.time<=1099511627776)) <;> cases decide (e.time<last) <;> rfl
   rw[this,ζb]
   cases tq P k e with
   | true=>rfl
   | false=>
    rw[bZ];simp only[Bool.false_eq_true,if_false]
    by_cases L:e.assign.l.length>8
    .rw[show decide (len e.assign>8)=true from by simp[len];omega,bS,if_pos L]
    rw[show decide (len e.assign>8)=false from by simp[len];omega,bZ,if_neg L]
 unfold dI;dsimp only;rw[show idx t.procs (p:Int)=some P from by rw[nE];exact G,ζb]
 cases k with
 | zero=>
  rw[show decide (((0:Nat):Int)+1>1)=false from by decide,bZ]
  refine J 0 ?_;simp only[tq,Ch,Bool.or_false];rw[Bool.eq_iff_iff];simp only[ζh,Bool.not_eq_true',decide_eq_true_eq,decide_eq_false_iff_not,Bool.or_eq_false_iff];omega
 | succ j=>
  rw[show decide ((((j+1:Nat)):Int)+1>1)=true from by simp;omega,bS]
  have u:j<P.events.l.length:=by omega
  have W:IntKind.wrap .i64 ((((j+1:Nat)):Int)+1-2)=((j:Nat):Int):=by rw[jX _ Za Za];omega
  rw[W,bL u,ζb];refine J _ ?_;simp only[tq,Ch,zu u];rw[Bool.eq_iff_iff];simp only[ζh,Bool.not_eq_true',decide_eq_true_eq,decide_eq_false_iff_not,Bool.or_eq_false_iff];omega
theorem K4 {t:Trace} {p:Nat} {P:cu} {e:Event} (D:t.procs.l[p]? = some P) (J:e.assign.l.length<1073741824):eB.W2 p 0 t e=some (oc (qo P e) 0 e.assign.l.length):=by
 unfold eB.W2;rw[xY (n:=e.assign.l.length) (qo P e) Za (λi w=>?_) (by unfold eB.bX;simp[br,len])]
 .by_cases z:oc (qo P e) 0 e.assign.l.length=0
  .rw[if_pos z,z];rfl
  rw[if_neg z];rfl
 unfold eB.bX;have G:eB.W3 p i 0 t e e.assign.l[i]=if iL (fO e.assign.l λb=>b.var==e.assign.l[i].var) 0 i then some (.r 8)else some (.n (IntKind.wrap .i64 ((i:Int)+1))):=by
  unfold eB.W3;rw[Bi (n:=i) (fO e.assign.l λb=>b.var==e.assign.l[i].var) Za (λj I=>?_) (by unfold eB.dH;simp[br])]
  .cases iL (fO e.assign.l λb=>b.var==e.assign.l[i].var) 0 i <;> rfl
  unfold eB.dH;have u:j<e.assign.l.length:=by omega
  rw[show decide ((j:Int)<(i:Int))=true from by simpa using I,bS,bL u,ζb,zu u,s7]
 rw[Eh w,show decide ((i:Int)<len e.assign)=true from by simp[len];exact w,bS,bL w,ζb,G,El,ζb,show idx t.procs (p:Int)=some P from by rw[nE];exact D,ζb]
 have h1:(br (decide (e.assign.l[i].var<0)) (some true) (some (decide (e.assign.l[i].var>=len P.vars))):Option Bool)=some (!(decide (0<=e.assign.l[i].var)&&decide (e.assign.l[i].var<P.vars.l.length))):=by
  rw[ir];congr 1;rw[Bool.eq_iff_iff];simp only[Bool.or_eq_true,Bool.not_eq_true',decide_eq_true_eq,Bool.and_eq_false_iff,decide_eq_false_iff_not,len];omega
 rw[h1,ζb];generalize (decide (0<=e.assign.l[i].var)&&decide (e.assign.l[i].var<(P.vars.l.length:Int)))=A;generalize (decide (e.assign.l[i].value>=-1073741824)&&decide (e.assign.l[i].value<=1073741824))=B;generalize iL (fO e.assign.l λb=>b.var==e.assign.l[i].var) 0 i=C
 cases A <;> cases B <;> cases C <;> rfl
theorem Nx {t:Trace} (U:Small t) {p k:Nat} {P:cu} {e:Event} (J:t.procs.l[p]? = some P) (O:P.events.l[k]? = some e):eB t p k=some (oO t.procs.l.length P p k e):=by
 obtain⟨T,w⟩:=ζe.1 J;obtain⟨hk,z⟩:=ζe.1 O;obtain⟨Q,W,_,_,I⟩:=U.2 P (w▸List.getElem_mem T);have X:=I e (z▸List.getElem_mem hk);have Y:eB.J1 p k t e=some (if tq P k e then 11 else if e.assign.l.length>8 then 5 else oc (qo P e) 0 e.assign.l.length):=by
  unfold eB.J1;rw[ir,ζb,K4 J X,show idx t.procs (p:Int)=some P from by rw[nE];exact J,ζb]
  have h1:(br (decide ((k:Int)>0)) ((idx P.events (IntKind.wrap .i64 ((k:Int)-1))).bind λL=>some (decide (e.time<L.time))) (some false):Option Bool)=some (Ch P k e):=by
   cases k with
   | zero=>rfl
   | succ j=>
    have u:j<P.events.l.length:=by omega
    rw[show decide ((((j+1:Nat)):Int)>0)=true from by simp only[decide_eq_true_eq];omega,bS,show IntKind.wrap .i64 ((((j+1:Nat)):Int)-1)=((j:Nat):Int)from by rw[jX _ Za Za];omega,bL u,ζb]
    simp only[Ch,zu u]
  rw[h1,ζb,ir,ζb];show br (tq P k e) _ _=_
  cases tq P k e with
  | true=>rfl
  | false=>
   rw[bZ];simp only[Bool.false_eq_true,if_false]
   by_cases S:e.assign.l.length>8
   .rw[show decide (len e.assign>8)=true from by simp[len];omega,bS,if_pos S]
   rw[show decide (len e.assign>8)=false from by simp[len];omega,bZ,if_neg S]
 unfold eB oO;rw[show idx t.procs (p:Int)=some P from by rw[nE];exact J,ζb,show idx P.events (k:Int)=some e from by rw[nE];exact O,ζb,Y]
 unfold Gj
 cases h1:e.kind==1 with
 | true=>
  rw[bS];simp only[if_true];cases e.peer==0 <;> cases e.message==0 <;> rfl
 | false=>
  rw[bZ];simp only[Bool.false_eq_true,if_false];have h2:(br (e.kind==2) (some false) (some (!(e.kind==3))):Option Bool)=some (!(e.kind==2||e.kind==3)):=by cases e.kind==2 <;> rfl
  rw[h2,ζb,ir,ζb,ir,ζb,ir,ζb,ir,ζb,ir,ζb];have h3:(((((!(e.kind==2||e.kind==3))||decide (e.peer<0))||decide (e.peer>=len t.procs))||(e.peer==p))||decide (e.message<0)||decide (e.message>199)) = !((e.kind==2||e.kind==3)&&(decide (0<=e.peer)&&decide (e.peer<t.procs.l.length)) && !(e.peer==p)&&(decide (0<=e.message)&&decide (e.message<=199))):=by
   generalize (e.kind==2||e.kind==3)=A;have a1:decide (e.peer<0) = !decide (0<=e.peer):=by rw[Bool.eq_iff_iff];simp
   have a2:decide (e.peer>=len t.procs) = !decide (e.peer<t.procs.l.length):=by rw[Bool.eq_iff_iff];simp[len]
   have a3:decide (e.message<0) = !decide (0<=e.message):=by rw[Bool.eq_iff_iff];simp
   have a4:decide (e.message>199) = !decide (e.message<=199):=by rw[Bool.eq_iff_iff];simp
   rw[a1,a2,a3,a4];generalize decide (0<=e.peer)=B;generalize decide (e.peer<(t.procs.l.length:Int))=C;generalize (e.peer==(p:Int))=D;generalize decide (0<=e.message)=F;generalize decide (e.message<=199)=G;cases A <;> cases B <;> cases C <;> cases D <;> cases F <;> cases G <;> rfl
  rw[h3];generalize ((e.kind==2||e.kind==3)&&(decide (0<=e.peer)&&decide (e.peer<(t.procs.l.length:Int))) && !(e.peer==(p:Int))&&(decide (0<=e.message)&&decide (e.message<=199)))=Z;cases Z <;> rfl
theorem KK {n:Nat} {p:Int} {e:Event} (h:Gj n p e=true):kF n p e:=by
 unfold Gj at h;split at h
 next h1=>left;simpa using h1
 right;simp only[ζh,Bool.or_eq_true,beq_iff_eq,decide_eq_true_eq,Bool.not_eq_true',beq_eq_false_iff_ne,ne_eq]at h;obtain⟨⟨⟨h1,u⟩,z⟩,w⟩:=h;exact⟨h1,u.1,u.2,z,w.1,w.2⟩
theorem G5 {n:Nat} {P:cu} {p k:Nat} {e:Event} (h:oO n P p k e=0):kF n p e:=by
 unfold oO at h;split at h
 next h1=>exact KK h1
 cases h
theorem Bj {α:Type} [DecidableEq α]:∀{l r:List α},l.Nodup->(∀x∈l,x∈r)->l.length<=r.length
 | [],_,_,_=>Nat.zero_le _
 | x::l,r,D,G=>by
  have B:=List.nodup_cons.1 D;have:=Bj  (r:=r.erase x) B.2 λy u=>(List.mem_erase_of_ne Zd).2 (G y (List.mem_cons_of_mem _ u))
  grind
section
variable {κ:Type} [DecidableEq κ]
theorem yj {ν:Type} {k:κ}:∀{m:Mo κ ν},k∉m.map (·.1)->jL k m=none
 | [],_=>rfl
 | (a,v)::r,h=>by
  simp only[List.map_cons,List.mem_cons,not_or]at h;unfold jL;rw[if_neg h.1];exact yj h.2
theorem yM {ν:Type} {k:κ}:∀{m:Mo κ ν},k∈m.map (·.1)->∃v,jL k m=some v/\(k,v)∈m
 | [],h=>by simp_all
 | (a,v)::r,h=>by
  unfold jL
  by_cases e:k=a
  .grind
  obtain⟨w,h1,B⟩:=yM  (by simpa [e]using h)
  grind
theorem pL {ν:Type} {k:κ} {v:ν}:∀{m:Mo κ ν},k∉m.map (·.1)->kS m k v=m++[(k,v)]
 | [],_=>rfl
 | (a,w)::r,h=>by
  simp only[List.map_cons,List.mem_cons,not_or]at h;show (if k=a then _ else _)=_;rw[if_neg h.1,pL h.2];rfl
end
def Vd (t:Trace) (y:aZ):Prop:=∃e,(y,e)∈bT t
theorem Vd.at_ {t:Trace} {y:aZ} (h:Vd t y):∃(p k:Nat) (e:Event),kn t p k e/\y=⟨p,k+1⟩/\(y,e)∈bT t:=by
 obtain⟨e,u⟩:=h;obtain⟨p,k,h1,w⟩:=eu.1 u
 grind
def HF (t:Trace) (y z:aZ):Prop:=∃e f,(y,e)∈bT t/\(z,f)∈bT t/\e.kind=2/\f.kind=3/\e.message=f.message
def Edge (t:Trace) (y z:aZ):Prop:=Vd t y/\Vd t z/\(z=⟨y.proc,y.index+1⟩\/HF t y z)
abbrev Way (t:Trace):aZ->aZ->Prop:=Relation.TransGen (Edge t)
def IW (t:Trace):Prop:=∃x,Way t x x
theorem Way.l {t:Trace} {x y:aZ} (h:Way t x y):Vd t x:=by
 induction h with
 | single h=>exact h.1
 | tail _ _ u=>omega
theorem Way.r {t:Trace} {x y:aZ} (h:Way t x y):Vd t y:=by
 cases h with
 | single h=>exact h.2.1
 | tail _ h=>exact h.2.1
theorem PN {t:Trace} (hS:Small t) (hF:∀x∈bT t,kF t.procs.l.length x.1.proc x.2) {A:bW 200 bC} (hA:fq t (bT t) A) {y:aZ} (O:Vd t y) :
 Wp (iT t A y) λs=>s.l.length<=2/\∀z,z∈s.l↔Edge t y z:=by
 obtain⟨p,k,e,W,D,u⟩:=O.at_;obtain⟨P,S,hk⟩:=W;have X:P∈t.procs.l:=List.mem_of_getElem? S;have h1:=(hS.2 P X).1;have aa:k<P.events.l.length:=(ζe.1 hk).1;have G:y.proc=p:=by rw[D]
 have C:y.index=k+1:=by rw[D]
 have j:∀s:Sl aZ,s.l.length<=1->(∀z,z∈s.l↔Vd t z/\z=⟨y.proc,y.index+1⟩)->Wp (iT.J1 A s P.events y) λs=>s.l.length<=2/\∀z,z∈s.l↔Edge t y z:=by
  intro s hs w;have no:¬(∃z,HF t y z)->s.l.length<=2/\∀z,z∈s.l↔Edge t y z:=λhn=>⟨by omega,λz=>(w z).trans ⟨λh=>⟨O,h.1,.inl h.2⟩,λh=>⟨h.2.1,h.2.2.elim id λh=>(hn ⟨z,h⟩).elim⟩⟩⟩
  unfold iT.J1;have Y:IntKind.wrap .i64 (y.index-1)=((k:Nat):Int):=by rw[C,jX _ Za Za];omega
  rw[Y,nE,hk,ζb,dJ,cn];constructor
  .intro B;have B:e.kind=2:=by grind
   have T:0<=e.message/\e.message<=199:=by
    rcases hF _ u with h|⟨_,_,_,_,h⟩
    .grind
    simp_all
   have to_:∀z,HF t y z->(ag A e.message).to_=z:=λz ⟨Z,f,a1,I,a3,a4,a5⟩=>by
    cases Bw a1 u rfl;rw[a5];exact(hA.rcv _ I a4).1
   rw[KO A T.1 T.2,ζb,a_,cn];refine⟨λh=>?_,λh=>(a_ _).2 (no λ⟨z,w⟩=>?_)⟩
   .have h:(ag A e.message).to_.index>0:=by grind
    rw[ζb];unfold gw;rw[if_pos Za,ζb,a_]
    refine⟨by show (s.l++[(ag A e.message).to_]).length<=2;grind,λz=>?_⟩
    have J:HF t y (ag A e.message).to_:=by
     rcases hA.to e.message T.1 T.2 with h0|⟨Z,h1,h2,h3⟩
     .omega
     exact⟨e,Z,u,h1,B,h2,h3.symm⟩
    show z∈s.l++[(ag A e.message).to_]↔_;rw[List.mem_append,List.mem_singleton,w];constructor
    .rintro (h|rfl)
     .exact⟨O,h.1,.inl h.2⟩
     exact⟨O,let ⟨_,f,_,I,_⟩:=J;⟨f,I⟩,.inr J⟩
    rintro⟨_,h1,h2|h2⟩
    .grind
    grind
   rw[to_ z w]at h;obtain⟨_,f,_,I,_⟩:=w;obtain⟨q,i,_,U⟩:=eu.1 I;simp only at U;rw[U]at h;simp at h
  intro B;rw[a_,cn];refine⟨λh=>(by cases h),λ_=>(a_ _).2 (no λ⟨z,Z,f,a1,_,a3,_⟩=>?_)⟩
  cases Bw a1 u rfl
  grind
 unfold iT;rw[G,nE,S,ζb,cn];rw[G]at j;constructor
 .intro h;have h:y.index<len P.events:=by simpa using h
  have B:k+1<P.events.l.length:=by rw[C]at h;simp[len]at h;omega
  refine j _ (by simp[Sl.l]) λz=>?_
  have Y:IntKind.wrap .i64 (y.index+1)=y.index+1:=jX _ Za Za
  simp only[Sl.l,List.mem_singleton,Y];refine⟨λw=>⟨⟨P.events.l[k+1],eu.2 ⟨p,k+1,⟨P,S,ζd B⟩,?_⟩⟩,w⟩,λw=>w.2⟩
  rw[w,C];simp
 intro h;have h:¬y.index<len P.events:=by simpa using h
 refine j _ (by simp[Sl.l]) λz=>⟨λw=>by simp[Sl.l]at w,λ⟨w,he⟩=>?_⟩
 obtain⟨q,i,f,⟨Q,hQ,U⟩,L,_⟩:=w.at_;rw[he,C]at L;simp[aZ.mk.injEq]at L;have:q=p:=by omega
 subst this;rw[S]at hQ;cases hQ;have:=(ζe.1 U).1;simp[len]at h;omega
structure FE (t:Trace) (x:aZ) (rest:Sl aZ) (m:Mo aZ Bool) (U:aZ->Prop):Prop where
 rst:∀y∈rest.l,y=x\/Way t x y
 keys:(m.map (·.1)).Nodup
 seen:∀y∈m,Way t x y.1/\y.1≠x/\y.2=true
 le:rest.l.length<=m.length+1
 done:∀y,y=x\/y∈m.map (·.1)->y∈rest.l\/U y\/∀z,Edge t y z->z∈m.map (·.1)
theorem FE.count {t:Trace} {x:aZ} {rest:Sl aZ} {m:Mo aZ Bool} {U:aZ->Prop} (h:FE t x rest m U):m.length<=(bT t).length:=by
 have:=Bj (r:=(bT t).map (·.1)) h.keys λx u=>by
  obtain⟨y,w,rfl⟩:=List.mem_map.1 u;obtain⟨e,z⟩:=(h.seen y w).1.r
  grind
 grind
theorem Mx {t:Trace} (hS:Small t) (hN:(bT t).length<1073741824) (hF:∀x∈bT t,kF t.procs.l.length x.1.proc x.2) {A:bW 200 bC} (hA:fq t (bT t) A):Wp (iu t A) λr=>(r.2=true↔IW t):=by
 unfold iu jE;rw[ζb];unfold iu.E1;rw[uN hS,ζb];refine Af (λk _=>∀x∈(bT t).take k,¬Way t x.1 x.1) Zc ?_ λ_ h=>(a_ _).2 ⟨λh=>(by cases h),λ⟨x,hx⟩=>?_⟩
 .intro i x _ hx ar;have ah:x∈bT t:=List.mem_of_getElem? hx;refine Wp.mono (P:=λw=>match w with|.n s=>¬Way t x.1 x.1|.x e=>False|.r e=>IW t) ?_ λw hw=>by
   cases w with
   | n s=>
    intro y hy;rw[List.take_add_one,hx]at hy
    grind
   | x e=>grind
   | r b=>exact(a_ _).2 ⟨λ_=>hw,λ_=>rfl⟩
  refine fR (λq:Sl aZ×Mo aZ Bool=>FE t x.1 q.1 q.2 λ_=>False) (λq=>2*((bT t).length-q.2.length)+q.1.l.length) ⟨λy hy=>.inl (by simpa [Sl.l]using hy),by simp,by simp,by simp[Sl.l],λy hy=>.inl ?_⟩ ?_
  .simpa [Sl.l]using hy
  rintro⟨rest,m⟩ L;unfold iu.bX;rw[cn];refine⟨λh=>?_,λh=>(a_ _).2 ((a_ _).2 λhw=>?_)⟩
  .have G:0<rest.l.length:=by
    grind
   have hc:=L.count;have av:=L.le;have hw:IntKind.wrap .i64 ((len rest)-1)=(rest.l.length-1:Nat):=by
    rw[jX _ Zd Zd];grind
   have I:rest.l.length-1<rest.l.length:=by omega
   rw[hw];have h1:Sl.mj rest (rest.l.length-1:Nat)=some (rest.l.length-1):=by
    unfold Sl.mj;grind
   have h2:Sl.get rest (rest.l.length-1)=some rest.l[rest.l.length-1]:=by unfold Sl.get;grind
   obtain⟨cut,h3,h4⟩:∃x,oh rest none (some ((rest.l.length-1:Nat):Int))=some x/\x.l=rest.l.take (rest.l.length-1):=by
    cases rest with
    | nil=>simp[Sl.l]at G
    | emp=>simp[Sl.l]at G
    | row l=>
     simp only[Sl.l]at G ⊢;unfold oh dU;simp_all
    | part l=>
     simp[Sl.l]at G ⊢;unfold oh dU;simp_all
   rw[h1,ζb,h2,ζb,h3,ζb,dJ];generalize ai:rest.l[rest.l.length-1]=y;have aj:y∈rest.l:=ai▸List.getElem_mem I;have O:∀z,z∈rest.l->z∈cut.l\/z=y:=λz hz=>by
    have:rest.l.take (rest.l.length-1)++rest.l.drop (rest.l.length-1)=rest.l:=List.take_append_drop ..;rw[<-this]at hz;rcases List.mem_append.1 hz with hz|hz
    .grind
    rw[List.drop_eq_getElem_cons I,List.drop_of_length_le Za]at hz
    grind
   have aa  := L.rst _ aj;have ak  := aa.elim (λe=>⟨x.2,e▸ah⟩) Way.r
   refine(PN hS hF hA ak).mono λs hs=>?_
   refine fR (λq:Sl aZ×Int×Mo aZ Bool=>∃n:Nat,q.2.1=n/\n<=s.l.length/\FE t x.1 q.1 q.2.2 (λu=>u=y)/\(∀z∈s.l.take n,z∈q.2.2.map (·.1))/\2*((bT t).length-q.2.2.length)+q.1.l.length<2*((bT t).length-m.length)+rest.l.length) (λq=>s.l.length-q.2.1.toNat)
    ⟨0,rfl,Nat.zero_le _,⟨λz hz=>L.rst z Zd,L.keys,L.seen,by grind,λu hu=>?_⟩,by simp,by grind⟩ ?_
   .rcases L.done u hu with h|h|h
    .exact(O u h).imp_right .inl
    .exact h.elim
    exact .inr (.inr h)
   rintro⟨C,i2,W⟩ ⟨n,rfl,hn,B,J,hμ⟩;simp only at B hμ J;unfold iu.dH;rw[cn];constructor
   .intro h;have X:n<s.l.length:=by simpa [len]using h
    have ab:=(hs.2 s.l[n]).1 (List.getElem_mem X);have Q:Way t x.1 s.l[n]:=aa.elim (λe=>.single (e▸ab)) λh=>.tail h ab
    rw[bL X,ζb,cn];refine⟨λZ=>(a_ _).2 ((a_ _).2 ((a_ _).2 ⟨x.1,?_⟩)),λS=>?_⟩
    .have:s.l[n]=x.1:=by
      unfold I6 at Z
      revert Z;cases s.l[n];cases x.1;intro Z;simpa using Z
     rw[this]at Q;exact Q
    have S:s.l[n]≠x.1:=λe=>by rw[e]at S;simp[I6]at S
    have T:=cK n Za
    have ad:s.l.take (n+1)=s.l.take n++[s.l[n]]:=by rw[List.take_add_one,ζd X];rfl
    rw[cn];refine⟨λhg=>(a_ _).2 ⟨⟨n+1,T,by omega,B,λz hz=>?_,hμ⟩,by show _-(IntKind.wrap .i64 ((n:Int)+1)).toNat<_;rw[T];simp;omega⟩,λY=>?_⟩
    .rw[ad]at hz;rcases List.mem_append.1 hz with hz|hz
     .exact J z hz
     simp[List.mem_singleton]at hz;subst hz;apply Classical.byContradiction;intro hk;unfold iZ at hg;rw[yj hk]at hg;cases hg
    have aw:=B.count;have au:=B.le;unfold gw;rw[if_pos (show C.l.length+1<=2147483648 from by omega),ζb,a_]
    have D:s.l[n]∉W.map (·.1):=λal=>by
     obtain⟨v,hv,am⟩:=yM al;have:=(B.seen _ am).2.2;simp only at this;subst this;unfold iZ at Y;rw[hv]at Y;cases Y
    have U:∀z,z∈(kS W s.l[n] true).map (·.1)↔z∈W.map (·.1)\/z=s.l[n]:=λz=>by
     rw[pL D,List.map_append,List.mem_append];simp
    have ae:FE t x.1 (.row (C.l++[s.l[n]])) (kS W s.l[n] true) (λu=>u=y):=by
     refine⟨λy hy=>?_,?_,λy hy=>?_,?_,λu hu=>?_⟩
     .simp[Sl.l,List.mem_singleton]at hy;rcases hy with hy|rfl
      .exact B.rst y hy
      exact .inr Q
     .rw[pL D,List.map_append,List.nodup_append];refine⟨B.keys,by simp,λa ha b hb=>?_⟩
      simp[List.mem_singleton]at hb;subst hb;exact λe=>D (e▸ha)
     .rw[pL D]at hy;rcases List.mem_append.1 hy with hy|hy
      .exact B.seen y hy
      simp[List.mem_singleton]at hy;subst hy;exact⟨Q,S,rfl⟩
     .rw[pL D];show (C.l++[s.l[n]]).length<=_;rw[ζi,ζi,List.length_singleton,List.length_singleton];omega
     simp only[Sl.l,List.mem_append,List.mem_singleton];have af:u=x.1\/u∈W.map (·.1)->(u∈C.l\/u=s.l[n])\/u=y\/∀z,Edge t u z->z∈(kS W s.l[n] true).map (·.1):=λhu=>by
      rcases B.done u hu with h|h|h
      .exact .inl (.inl h)
      .exact .inr (.inl h)
      exact .inr (.inr λz hz=>(U z).2 (.inl (h z hz)))
     rcases hu with hu|hu
     .exact af (.inl hu)
     rcases (U u).1 hu with hu|hu
     .exact af (.inr hu)
     exact .inl (.inr hu)
    have an:=ae.count;refine⟨⟨n+1,T,by omega,ae,λz hz=>?_,?_⟩,by show _-(IntKind.wrap .i64 ((n)+1)).toNat<_;rw[T];simp;omega⟩
    .rw[ad]at hz;rcases List.mem_append.1 hz with hz|hz
     .exact(U z).2 (.inl (J z hz))
     exact(U z).2 (.inr (by simpa using hz))
    rw[pL D,ζi,List.length_singleton]at an;show 2*((bT t).length-(kS W s.l[n] true).length)+(C.l++[s.l[n]]).length<_;rw[pL D,ζi,ζi,List.length_singleton,List.length_singleton];omega
   intro h;have ao:s.l.length<=n:=by simpa [len]using h
   rw[List.take_of_length_le ao]at J;refine(a_ _).2 ((a_ _).2 ⟨⟨B.rst,B.keys,B.seen,B.le,λu hu=>?_⟩,hμ⟩)
   rcases B.done u hu with h|h|h
   .exact .inl h
   .subst h;exact .inr (.inr λz hz=>J z ((hs.2 z).2 hz))
   exact .inr (.inr h)
  have ap:rest.l=[]:=by
   have:¬len rest>0:=by simpa using h
   simp[len]at this;exact this
  have hd:∀y,y=x.1\/y∈m.map (·.1)->∀z,Edge t y z->z∈m.map (·.1):=λy hy=>by
   rcases L.done y hy with h|h|h
   .simp only[ap]at h;cases h
   .exact h.elim
   exact h
  have key:∀z,Way t x.1 z->z∈m.map (·.1):=λz hz=>by
   induction hz with
   | single h=>exact hd _ (.inl rfl) _ h
   | tail _ h ih=>exact hd _ (.inr ih) _ h
  obtain⟨y,hy,aq⟩:=List.mem_map.1 (key _ hw);exact(L.seen y hy).2.1 aq
 obtain⟨e,Z⟩:=hx.l;rw[List.take_length]at h;exact absurd hx (h _ Z)
structure Ok (t:Trace):Prop where
 one:1<=t.procs.l.length
 few:t.procs.l.length<=8
 heads:∀p,p<t.procs.l.length->rK t p=0
 fL:∀(p k:Nat) P e,t.procs.l[p]? = some P->P.events.l[k]? = some e->oO t.procs.l.length P p k e=0
 MS:wX t
 acyc:¬IW t
theorem EW {t:Trace} (h:∀(p k:Nat) P e,t.procs.l[p]? = some P->P.events.l[k]? = some e->oO t.procs.l.length P p k e=0):∀x∈bT t,kF t.procs.l.length x.1.proc x.2:=λx w=>by
 obtain⟨p,k,⟨P,z,B⟩,u⟩:=eu.1 w;rw[u];exact G5 (h p k P _ z B)
structure VT (t:Trace):Prop where
 formed:∀x∈bT t,kF t.procs.l.length x.1.proc x.2
 msgs:∃A i,eN t=some (some A,i,0)/\fq t (bT t) A
 few:t.procs.l.length<=8
 ok:Ok t
theorem OS {t:Trace} (B:Small t) (Y:(bT t).length<1073741824):Wp (gM t) λr=>(r.2=0->VT t)/\(Ok t->r.2=0):=by
 unfold gM;rw[oG,ζb,cn];refine⟨λJ=>?_,λJ=>(a_ _).2 ⟨λh=>Za,λh=>?_⟩⟩
 rotate_left
 .have h1:=h.one;have G:=h.few
  grind
 have G:1<=t.procs.l.length/\t.procs.l.length<=8:=by
  grind
 unfold gM.W1;refine fR (λi:Int=>∃n:Nat,i=n/\n<=t.procs.l.length/\∀p,p<n->rK t p=0) (λi:Int=>t.procs.l.length-i.toNat) ⟨0,rfl,Nat.zero_le _,λp L=>absurd L Za⟩ ?_
 rintro i ⟨n,rfl,hn,Z⟩;unfold gM.bt;rw[cn];constructor
 .intro h;have u:n<t.procs.l.length:=by grind
  rw[OM B u,ζb,cn];refine⟨λh0=>(a_ _).2 ⟨⟨n+1,cK n Za,by omega,λp L=>?_⟩,by rw[cK n Za];simp;omega⟩,λh0=>(a_ _).2 ((a_ _).2 ⟨λh=>?_,λh=>?_⟩)⟩
  .grind
  .grind
  simp[h.heads n u]at h0
 intro h;have aa:t.procs.l.length<=n:=by grind
 rw[a_];unfold jE;rw[ζb];unfold gM.E2;rw[uN B,ζb];refine Af (λi _=>∀(p k:Nat) P e,t.procs.l[p]? = some P->P.events.l[k]? = some e->(⟨p,k+1⟩,e)∈(bT t).take i->oO t.procs.l.length P p k e=0) Zc ?_ ?_
 .intro i x _ X w;have O  := List.mem_of_getElem? X;obtain⟨p,j,⟨P,z,C⟩,Q⟩:=eu.1 O;unfold gM.Jh;rw[Q,Mb B z C,ζb,cn];refine⟨λh0=>(a_ _).2 λp' k' P' e' ab ad hm=>?_,λh0=>(a_ _).2 ((a_ _).2 ⟨λh=>?_,λh=>?_⟩)⟩
  .rw[List.take_add_one,X]at hm
   grind
  .grind
  simp[h.fL p j P _ z C]at h0
 intro _ w;have w:∀(p k:Nat) P e,t.procs.l[p]? = some P->P.events.l[k]? = some e->oO t.procs.l.length P p k e=0:=λp k P e z C=>w p k P e z C (by rw[List.take_length];exact eu.2 ⟨p,k,⟨P,z,C⟩,rfl⟩)
 have S:=EW w;obtain⟨r,hr,hq,T⟩:=B_ B S;rw[hr,ζb,cn];refine⟨λh0=>?_,λh0=>(a_ _).2 ⟨λh=>?_,λh=>T h.MS⟩⟩
 .have h0  := by simpa using h0
  obtain⟨A,U,W⟩:=hq h0;rw[U,ζb];obtain⟨c,hc,D⟩:=Mx B Y S W;rw[hc,ζb,cn];refine⟨λI=>(a_ _).2 ⟨λh=>(by cases h),λh=>absurd (D.1 I) h.acyc⟩,λI=>(a_ _).2 ⟨λ_=>?_,λ_=>rfl⟩⟩
  exact⟨S,⟨A,r.2.1,by rw[hr];obtain⟨r1,r2,r3⟩:=r;simp only at U h0;rw[U,h0],W⟩,G.2,G.1,G.2,λp L=>Z p Za,w,W.MS,λhc=>by rw[D.2 hc]at I;cases I⟩
 simp_all
theorem Nw {t:Trace} (B:Small t) (D:(bT t).length<1073741824):Wp (dO t) λb=>(b=true->VT t)/\(Ok t->b=true):=by
 unfold dO;rw[dJ];exact(OS B D).mono λr hr=>(a_ _).2 ⟨λh=>hr.1 Zd,λh=>by grind⟩
end Go.VE
namespace Go.VE
theorem Ef {t:Trace} (G:Small t) (hv:dO t=some true) {A:bW 200 bC} (B:fq t (bT t) A) {x:aZ×Event} (D:x∈bT t) (hk:x.2.kind=2):pG t x.2.message=some (x.1,true):=by
 refine Wp.eq ?_;unfold pG kZ;rw[hv,ζb,bS];unfold jE;rw[ζb];unfold kZ.E1;rw[uN G,ζb,dJ];refine Af (λk _=>∀y∈(bT t).take k,¬(y.2.kind=2/\y.2.message=x.2.message)) Zc ?_ ?_
 .intro k y _ C u;have w:y∈bT t:=List.mem_of_getElem? C;unfold kZ.s8;rw[j7,ζb,cn];constructor
  .intro hc;have hc:y.2.kind=2/\y.2.message=x.2.message:=by simpa using hc
   refine(a_ _).2 ((a_ _).2 ((a_ _).2 ?_));have h1:=B.snd y w hc.1;have I:=B.snd x D hk;rw[hc.2,I]at h1;rw[h1]
  intro hc;have hc:¬(y.2.kind=2/\y.2.message=x.2.message):=by
   intro h;rw[h.1,h.2]at hc;simp at hc
  rw[a_];intro z hz;rw[List.take_add_one,C]at hz;rcases List.mem_append.1 hz with hz|hz
  .exact u z hz
  simp at hz;subst hz;exact hc
 intro _ u;rw[List.take_length]at u;exact absurd ⟨hk,rfl⟩ (u x D)
def o6 (t:Trace) (c:List Int):Prop:=c.length=t.procs.l.length/\∀(p:Nat) (a:Int) (P:cu),c[p]? = some a->t.procs.l[p]? = some P->0<=a/\a<=P.events.l.length
def mz (t:Trace) (A:bW 200 bC) (c:List Int):Prop:=∀(p k:Nat) (e:Event) (a:Int),kn t p k e->c[p]? = some a->(k:Int)<a->e.kind=3->∃b,c[(ag A e.message).from_.proc.toNat]? = some b/\(ag A e.message).from_.index<=b
theorem ye {t:Trace} (J:VT t) {A:bW 200 bC} (D:fq t (bT t) A) {p k:Nat} {e:Event} (O:kn t p k e) (hk:e.kind=3) :
 ∃(q j:Nat) (y:Event),kn t q j y/\y.kind=2/\y.message=e.message/\y.peer=p/\e.peer=q/\(ag A e.message).from_=⟨q,j+1⟩:=by
 have u:((⟨p,k+1⟩:aZ),e)∈bT t:=eu.2 ⟨p,k,O,rfl⟩;have z:=(D.rcv _ u hk).2;have C:=J.formed _ u;simp only at z C;have B:0<=e.peer:=by
  rcases C with h|⟨_,h,_⟩
  .omega
  exact h
 obtain⟨q,G⟩:∃q:Nat,e.peer=q:=⟨e.peer.toNat,by omega⟩
 rw[G]at z;obtain⟨j,y,w,h1,I,L⟩:=C3.1 z;have:=D.snd (⟨q,j+1⟩,y) (eu.2 ⟨q,j,w,rfl⟩) h1;simp only at this;rw[I]at this;exact⟨q,j,y,w,h1,I,L,G,this⟩
def V5 (t:Trace) (A:bW 200 bC) (c:List Int) (s:aZ):Prop:=∃(p k:Nat) (e:Event) (a:Int) (q j:Nat) (y:Event) (b:Int),kn t p k e/\c[p]? = some a/\(k:Int)<a/\e.kind=3/\(ag A e.message).from_=s/\s=⟨q,j+1⟩/\kn t q j y/\c[q]? = some b/\b<(j:Int)+1
theorem RK {t:Trace} (hS:Small t) (hv:dO t=some true) (hV:VT t) {A:bW 200 bC} (hM:fq t (bT t) A) {c:Sl Int} (hR:o6 t c.l):Wp (gI t c) λr=>(r.2.2=false->mz t A c.l)/\(r.2.2=true->V5 t A c.l r.1):=by
 have ah:=hV.few;unfold gI gI.W1;refine fR (λs:Int=>∃n:Nat,s=n/\n<=c.l.length/\∀(p k:Nat) (e:Event) (a:Int),p<n->kn t p k e->c.l[p]? = some a->(k:Int)<a->e.kind=3->∃b,c.l[(ag A e.message).from_.proc.toNat]? = some b/\(ag A e.message).from_.index<=b) (λs:Int=>c.l.length-s.toNat) ⟨0,rfl,Nat.zero_le _,λp k e a h=>absurd h Za⟩ ?_
 rintro s ⟨n,rfl,hn,hI⟩;have ai:=hR.1;unfold gI.bt;rw[cn];constructor
 .intro h;have C:n<c.l.length:=by simpa [len]using h
  have B:n<t.procs.l.length:=by omega
  have hP:=(hS.2 _ (List.getElem_mem B)).1;obtain⟨r1,r2⟩:=hR.2 n _ _ (ζd C) (ζd B);rw[bL C,ζb,bL B,ζb];obtain⟨y,hy,T⟩:=tO t.procs.l[n].events c.l[n].toNat Za
  rw[show ((c.l[n].toNat:Nat):Int)=c.l[n]from by omega]at hy
  rw[hy,ζb];unfold gI.W2;refine fR (λs:Int=>∃m:Nat,s=m/\m<=y.l.length/\∀(k:Nat) (e:Event),k<m->kn t n k e->e.kind=3->∃b,c.l[(ag A e.message).from_.proc.toNat]? = some b/\(ag A e.message).from_.index<=b) (λs:Int=>y.l.length-s.toNat) ⟨0,rfl,Nat.zero_le _,λk e h=>absurd h Za⟩ ?_
  rintro s ⟨m,rfl,hm,hJ⟩;have af:y.l.length=c.l[n].toNat:=by rw[T,List.length_take];omega
  unfold gI.bX;rw[cn];constructor
  .intro h;have G:m<y.l.length:=by simpa [len]using h
   have I:=cK m Za
   have U:y.l.length-(IntKind.wrap .i64 ((m:Int)+1)).toNat<y.l.length-((m:Int)).toNat:=by rw[I];simp;omega
   have hg:y.l[m]? = t.procs.l[n].events.l[m]? := by rw[T,List.getElem?_take,if_pos (show m<c.l[n].toNat from by omega)]
   have u:kn t n m y.l[m]:=⟨_,ζd B,by rw[<-hg];exact ζd G⟩
   rw[bL G,ζb];generalize y.l[m]=e at u;rw[cn];constructor
   .intro hk;have hk:e.kind=3:=by simpa using hk
    obtain⟨q,j,z,hz,z1,z2,z3,z4,z5⟩:=ye hV hM u hk;have J:=Ef hS hv hM (x:=(⟨q,j+1⟩,z)) (eu.2 ⟨q,j,hz,rfl⟩) z1;simp only at J;rw[z2]at J;have ab:=hz;obtain⟨Q,hQ,_⟩:=hz;have L:q<c.l.length:=by have:=(ζe.1 hQ).1;omega
    rw[J,ζb];simp only;rw[bL L,ζb,cn];constructor
    .intro W;have W:(j:Int)+1>c.l[q]:=by simpa using W
     exact(a_ _).2 ((a_ _).2 ((a_ _).2 ⟨λh=>(by cases h),λ_=>⟨n,m,e,c.l[n],q,j,z,c.l[q],u,ζd C,by omega,hk,z5,rfl,ab,ζd L,by omega⟩⟩))
    intro X;have X:¬((j:Int)+1>c.l[q]):=by simpa using X
    refine(a_ _).2 ⟨⟨m+1,I,by omega,λk Y ad w D=>?_⟩,U⟩
    by_cases ek:k=m
    .subst ek;have:Y=e:=by
      obtain⟨P1,a1,a2⟩:=u;obtain⟨P2,Z,b2⟩:=w;rw[a1]at Z;cases Z;rw[a2]at b2;cases b2;rfl
     subst this;rw[z5];exact⟨c.l[q],by simp only[Int.toNat_natCast];exact ζd L,by simp only;omega⟩
    exact hJ k Y Za w D
   intro hk;have hk:¬e.kind=3:=by simpa using hk
   refine(a_ _).2 ⟨⟨m+1,I,by omega,λk Y ad w D=>?_⟩,U⟩
   by_cases ek:k=m
   .subst ek;have:Y=e:=by
     obtain⟨P1,a1,a2⟩:=u;obtain⟨P2,Z,b2⟩:=w;rw[a1]at Z;cases Z;rw[a2]at b2;cases b2;rfl
    subst this;exact absurd D hk
   exact hJ k Y Za w D
  intro h;have ae:y.l.length<=m:=by simpa [len]using h
  have aa:=cK n Za
  refine(a_ _).2 ((a_ _).2 ⟨⟨n+1,aa,by omega,λp k e a hp u S O he=>?_⟩,by show _-(IntKind.wrap .i64 ((n:Int)+1)).toNat<_;rw[aa];simp;omega⟩)
  by_cases ep:p=n
  .subst ep;rw[ζd C]at S;cases S;exact hJ k e Za u he
  exact hI p k e a Za u S O he
 intro h;have ae:c.l.length<=n:=by simpa [len]using h
 refine(a_ _).2 ((a_ _).2 ⟨λ_ p k e a u S O he=>hI p k e a (by have:=(ζe.1 S).1;omega) u S O he,λh=>(by cases h)⟩)
theorem J9 {t:Trace} (B:Small t) (hv:dO t=some true) (D:VT t) {A:bW 200 bC} (G:fq t (bT t) A) {c:Sl Int} (J:o6 t c.l):Wp (gI t c) λr=>(r.2.2=false↔mz t A c.l):=by
 refine(RK B hv D G J).mono λr hr=>⟨hr.1,λu=>?_⟩
 cases h:r.2.2 with
 | false=>rfl
 | true=>
  obtain⟨p,k,e,a,q,j,y,b,h1,w,z,C,I,L,_,O,Q⟩:=hr.2 h;obtain⟨S,g1,g2⟩:=u p k e a h1 w z C;rw[I,L]at g1 g2;simp only[Int.toNat_natCast]at g1 g2;rw[O]at g1;cases g1;omega
theorem si {s:Sl (Sl Int)} {p:Sl Int->Option Bool} {f:Sl Int->Bool} (B:∀x∈s.l,p x=some (f x)) (D:s.l.length<1073741824):fc s p=some (s.l.any f):=by
 have h:eP s p=some (place f s.l):=pg B Za (λi=>rfl)
 unfold fc;rw[h,ζb,rm]
theorem Kl {t:Trace} (J:Small t) {c:Sl Int} (D:c.l.length=t.procs.l.length):Wp (jB t c) λb=>(b=true↔o6 t c.l):=by
 have h1:=J.1;unfold jB jB.W1;refine fR (λs:Int=>∃n:Nat,s=n/\n<=c.l.length/\∀(p:Nat) (a:Int) (P:cu),p<n->c.l[p]? = some a->t.procs.l[p]? = some P->0<=a/\a<=P.events.l.length) (λs:Int=>c.l.length-s.toNat) ⟨0,rfl,Nat.zero_le _,λp a P h=>absurd h Za⟩ ?_
 rintro s ⟨n,rfl,Q,G⟩;unfold jB.bt;rw[cn];constructor
 .intro h;have w:n<c.l.length:=by simpa [len]using h
  have u:n<t.procs.l.length:=by omega
  have I:=cK n Za
  rw[bL w,ζb,bL u,ζb,ir,ζb,cn];constructor
  .intro z;have z:c.l[n]<0\/c.l[n]>t.procs.l[n].events.l.length:=by simpa [len]using z
   refine(a_ _).2 ((a_ _).2 ⟨λh=>(by cases h),λL=>?_⟩)
   have:=L.2 n _ _ (ζd w) (ζd u);omega
  intro z;have z:0<=c.l[n]/\c.l[n]<=t.procs.l[n].events.l.length:=by simpa [len]using z
  refine(a_ _).2 ⟨⟨n+1,I,by omega,λp a P S B C=>?_⟩,by rw[I];simp;omega⟩
  by_cases e:p=n
  .subst e;rw[ζd w]at B;cases B;rw[ζd u]at C;cases C;exact z
  exact G p a P Za B C
 intro h;have O:c.l.length<=n:=by simpa [len]using h
 refine(a_ _).2 ((a_ _).2 ⟨λ_=>⟨D,λp a P B C=>G p a P (by have:=(ζe.1 B).1;omega) B C⟩,λ_=>rfl⟩)
def Code (t:Trace) (A:bW 200 bC) (c:List Int) (r:Int):Prop:=c.length≠t.procs.l.length/\r=1\/c.length=t.procs.l.length/\¬o6 t c/\r=2\/o6 t c/\¬mz t A c/\r=18\/o6 t c/\mz t A c/\r=0
theorem TI {t:Trace} (J:Small t) (hv:dO t=some true) (O:VT t) {A:bW 200 bC} (U:fq t (bT t) A) (c:Sl Int) :
 Wp (fE t (Sl.row [c]:Sl (Sl Int)) (Sl.nil:Sl Int)) λr=>Code t A c.l r:=by
 unfold fE yR;rw[hv,ζb,bS,si (f:=λz=>(nD z t).getD false) (λz _=>DU.ok ((a_ _).2 trivial)) (by simp[Sl.l]),ζb,ζb,ζb]
 have w:(!((Sl.row [c]:Sl (Sl Int)).l.any λz=>(nD z t).getD false))=(len c==len t.procs):=by
  simp[Sl.l,nD]
 rw[w,cn];constructor
 .intro h;have B:c.l.length=t.procs.l.length:=by
   have:(c.l.length:Int)=t.procs.l.length:=by simpa [len]using h
   omega
  unfold fE.W1;refine fR (λs:Int=>s=0\/s=1/\o6 t c.l) (λs:Int=>1-s.toNat) (.inl rfl) ?_
  intro s D;unfold fE.bt;rcases D with rfl|⟨rfl,G⟩
  .rw[show decide ((0:Int)<len (Sl.row [c]:Sl (Sl Int)))=true from rfl,bS,show idx (Sl.row [c]:Sl (Sl Int)) 0=some c from rfl,ζb,dJ];refine(Kl J B).mono λb u=>?_
   rw[cn];exact⟨λI=>(a_ _).2 ⟨.inr ⟨rfl,u.1 I⟩,by decide⟩,λC=>(a_ _).2 ((a_ _).2 (.inr (.inl ⟨B,λh=>(by rw[u.2 h]at C;cases C),rfl⟩)))⟩
  rw[show decide ((1:Int)<len (Sl.row [c]:Sl (Sl Int)))=false from rfl,bZ,a_];show Wp (fE.W2 (Sl.row [c]) Sl.nil 0 0 t) _;unfold fE.W2;refine fR (λs:Int=>s=0) (λ_=>0) rfl ?_
  rintro s rfl;unfold fE.bX;rw[show decide ((0:Int)<0)=false from rfl,bZ,a_];show Wp (fE.W3 (Sl.row [c]) 1 0 t) _;unfold fE.W3;refine fR (λs:Int=>s=0\/s=1/\mz t A c.l) (λs:Int=>1-s.toNat) (.inl rfl) ?_
  intro s D;unfold fE.dH;rcases D with rfl|⟨rfl,L⟩
  .rw[show decide ((0:Int)<1)=true from rfl,bS,show idx (Sl.row [c]:Sl (Sl Int)) 0=some c from rfl,ζb];unfold yp;rw[dJ,dJ];refine(J9 J hv O U G).mono λr hr=>?_
   rw[a_,cn];exact⟨λu=>(a_ _).2 ⟨.inr ⟨rfl,hr.1 (by simpa using u)⟩,by decide⟩,λu=>(a_ _).2 ((a_ _).2 (.inr (.inr (.inl ⟨G,λh=>(by have:=hr.2 h;simp[this]at u),rfl⟩))))⟩
  rw[show decide ((1:Int)<1)=false from rfl,bZ,a_];exact(a_ _).2 (.inr (.inr (.inr ⟨G,L,rfl⟩)))
 intro h;exact(a_ _).2 (.inl ⟨λe=>(by simp[len,e]at h),rfl⟩)
theorem Code.zero {t:Trace} {A:bW 200 bC} {c:List Int} {r:Int} (h:Code t A c r):r=0↔o6 t c/\mz t A c:=by
 rcases h with⟨h,rfl⟩|⟨_,h,rfl⟩|⟨_,h,rfl⟩|⟨h1,w,rfl⟩
 .exact⟨λh=>(by cases h),λu=>absurd u.1.1 h⟩
 .exact⟨λh=>(by cases h),λu=>absurd u.1 h⟩
 .exact⟨λh=>(by cases h),λu=>absurd u.2 h⟩
 exact⟨λ_=>⟨h1,w⟩,λ_=>rfl⟩
theorem PK {t:Trace} (B:Small t) (hv:dO t=some true) (D:VT t) {A:bW 200 bC} (G:fq t (bT t) A) (c:Sl Int) :
 Wp (fE t (Sl.row [c]:Sl (Sl Int)) (Sl.nil:Sl Int)) λr=>(r=0↔o6 t c.l/\mz t A c.l):=(TI B hv D G c).mono λ_ h=>h.zero
def Cons (t:Trace) (A:bW 200 bC) (c:List Int):Prop:=o6 t c/\mz t A c
def places {α:Type} (f:α->Bool) (l:List α):List Nat:=(List.range l.length).filter λk=>match l[k]? with|some x=>f x|none=>false
end Go.VE
namespace Go.VE
def sn (kind m:Int) (x:aZ×Event):Bool:=x.2.kind==kind&&x.2.message==m
def me (t:Trace) (kind m:Int):aZ:=match (bT t).find? (sn kind m)with
 | some x=>x.1
 | none=>⟨0,0⟩
theorem J2 {t:Trace} {kind m:Int} {p:Nat} {P:cu} (B:p<9223372036854775806) (D:t.procs.l[p]? = some P) (J:P.events.l.length<1073741824):∀(q i:Nat),i+q=P.events.l.length ->
 bR (λq:Int=>dQ.bX kind m p t ⟨0,0⟩ q) (i:Int)=some (match (iD p i (P.events.l.drop i)).find? (sn kind m)with|some x=>.r x.1|none=>.x ()):=by
 have u:idx t.procs (p:Int)=some P:=by rw[nE];exact D
 intro q
 induction q with
 | zero=>
  intro i z;rw[gX];unfold dQ.bX;rw[u,ζb,show decide ((i:Int)<len P.events)=false from by simp[len];omega,bZ,List.drop_of_length_le Za]
  rfl
 | succ q C=>
  intro i z;have w:i<P.events.l.length:=by omega
  rw[gX];have G:dQ.bX kind m p t ⟨0,0⟩ i=some (if sn kind m (⟨p,(i:Int)+1⟩,P.events.l[i])then .r ⟨p,(i:Int)+1⟩else .n ((i+1:Nat):Int)):=by
   unfold dQ.bX;rw[u,ζb,show decide ((i:Int)<len P.events)=true from by simp[len];omega,bS,ζb,bL w,ζb,j7,ζb,cK i Za,s7]
   rfl
  rw[G,ζb,List.drop_eq_getElem_cons w];simp only[iD,List.find?_cons]
  cases I:sn kind m (⟨p,(i:Int)+1⟩,P.events.l[i])with
  | true=>rfl
  | false=>
   simp only[Bool.false_eq_true,if_false];exact C (i+1) Za
theorem Li {t:Trace} (B:Small t) {kind m:Int}:∀(q p:Nat),p+q=t.procs.l.length ->
 bR (λq:Int=>dQ.bt kind m t ⟨0,0⟩ q) (p:Int)=some (match (fI p (t.procs.l.drop p)).find? (sn kind m)with|some x=>.r x.1|none=>.x ()):=by
 have h1:=B.1;intro q
 induction q with
 | zero=>
  intro p w;rw[gX];unfold dQ.bt;rw[show decide ((p:Int)<len t.procs)=false from by simp[len];omega,bZ,List.drop_of_length_le Za]
  rfl
 | succ q z=>
  intro p w;have u:p<t.procs.l.length:=by omega
  have C:bR (λq:Int=>dQ.bX kind m p t ⟨0,0⟩ q) 0=some (match (iD p 0 t.procs.l[p].events.l).find? (sn kind m)with|some x=>.r x.1|none=>.x ()):=J2 (t:=t) (kind:=kind) (m:=m) Za (ζd u) (B.2 _ (List.getElem_mem u)).1 (t.procs.l[p].events.l.length) 0 Za
  rw[gX];unfold dQ.bt;rw[show decide ((p:Int)<len t.procs)=true from by simp[len];omega,bS]
  unfold dQ.W2;rw[C,List.drop_eq_getElem_cons u];simp only[fI,List.find?_append]
  cases D:(iD p 0 t.procs.l[p].events.l).find? (sn kind m)with
  | some x=>rfl
  | none=>
   simp only[ζb,Fw.elim,Option.none_or];rw[cK p Za]
   exact z (p+1) Za
theorem find_eq {t:Trace} (B:Small t) (kind m:Int):dQ t kind m=some (me t kind m):=by
 unfold dQ dQ.W1;have u:bR (λq:Int=>dQ.bt kind m t ⟨0,0⟩ q) 0=some (match (bT t).find? (sn kind m)with|some x=>.r x.1|none=>.x ()):=Li B (kind:=kind) (m:=m) t.procs.l.length 0 Za
 rw[u];unfold me;cases (bT t).find? (sn kind m) <;> rfl
theorem CI {t:Trace} {kind m:Int} {x:aZ×Event} (h:(bT t).find? (sn kind m)=some x):x∈bT t/\x.2.kind=kind/\x.2.message=m/\me t kind m=x.1:=by
 have h1:=List.find?_some h;simp only[sn,ζh,beq_iff_eq]at h1;exact⟨List.mem_of_find?_eq_some h,h1.1,h1.2,by unfold me;rw[h]⟩
theorem FH {t:Trace} {kind m:Int} {x:aZ×Event} (B:x∈bT t) (hk:x.2.kind=kind) (D:x.2.message=m):∃y,(bT t).find? (sn kind m)=some y:=by
 cases u:(bT t).find? (sn kind m)with
 | some y=>exact⟨y,rfl⟩
 | none=>
  rw[List.find?_eq_none]at u;exact absurd (u x B) (by simp[sn,hk,D])
theorem PX {t:Trace} {p k:Nat} {e:Event} (h:kn t p k e) (hk:k<9223372036854775807):tI t ⟨p,k+1⟩=some e:=by
 obtain⟨P,u,w⟩:=h;unfold tI;dsimp only;rw[show idx t.procs (p:Int)=some P from by rw[nE];exact u,ζb,show IntKind.wrap .i64 ((k:Int)+1-1)=(k:Int)from by rw[jX _ Za Za];omega,show idx P.events (k:Int)=some e from by rw[nE];exact w]
 rfl
def uJ (t:Trace) (x:aZ×Event):Int:=if x.2.kind=1 then 0 else if me t x.2.kind x.2.message=x.1 then(if x.2.kind=3 then(if sy t x.2.peer x.2.message x.1.proc then 0 else 7)else 0)else 8
theorem LM {t:Trace} (D:Small t) {p k:Nat} {e:Event} (h:kn t p k e) (Y:kF t.procs.l.length p e):iB t ⟨p,k+1⟩=some (uJ t (⟨p,k+1⟩,e)):=by
 have hk:k<1073741824:=by
  obtain⟨P,X,Z⟩:=h;have:=(D.2 P (List.mem_of_getElem? X)).1;have:=(ζe.1 Z).1;omega
 unfold iB uJ;rw[PX h Za,ζb]
 dsimp only
 by_cases h1:e.kind=1
 .rw[show (e.kind==1)=true from by simp[h1],bS,if_pos h1]
 rw[show (e.kind==1)=false from by simp[h1],bZ,if_neg h1,find_eq D,ζb]
 have G:I6 (me t e.kind e.message) ⟨p,(k:Int)+1⟩=decide (me t e.kind e.message=⟨p,(k:Int)+1⟩):=by
  unfold I6;rw[Bool.eq_iff_iff];cases me t e.kind e.message;simp
 rw[G]
 by_cases w:me t e.kind e.message=⟨p,(k:Int)+1⟩
 .rw[if_pos w,show decide (me t e.kind e.message=⟨p,(k:Int)+1⟩)=true from by simpa using w,bS]
  by_cases B:e.kind=3
  .rw[if_pos B,show (e.kind==3)=true from by simp[B],bS]
   have I:0<=e.peer/\e.peer<t.procs.l.length:=by
    rcases Y with h|⟨_,h1,w,_⟩
    .exact absurd h h1
    exact⟨h1,w⟩
   have S:e.peer.toNat<t.procs.l.length:=by omega
   have T:=ζd S;have aa:=(D.2 _ (List.getElem_mem S)).1;generalize ab:t.procs.l[e.peer.toNat]=Q at *;have J:idx t.procs e.peer=some Q:=by rw[KX I.1];exact T
   have L:sy t e.peer e.message p=Q.events.l.any λs=>s.kind==2&&s.message==e.message&&s.peer==p:=by
    unfold sy;rw[T]
   unfold iB.W1;refine Wp.eq (fR (λz:Bool×Int=>∃m:Nat,z.2=m/\m<=Q.events.l.length/\z.1=(Q.events.l.take m).any λs=>s.kind==2&&s.message==e.message&&s.peer==p) (λz=>Q.events.l.length-z.2.toNat) ⟨0,rfl,Nat.zero_le _,rfl⟩ ?_)
   rintro⟨s,i⟩ ⟨m,U,hm,C⟩;simp only at U C;subst U;unfold iB.bt;dsimp only;rw[J,ζb,cn];constructor
   .intro O;have u:m<Q.events.l.length:=by simpa [len]using O
    have W:=cK m Za
    rw[ζb,bL u,ζb,j7,ζb,j7,ζb,ir,ζb,a_];refine⟨⟨m+1,W,by omega,?_⟩,by show _-(IntKind.wrap .i64 ((m:Int)+1)).toNat<_;rw[W];simp;omega⟩
    show (s||_)=_;rw[List.take_add_one,ζd u,List.any_append,C];simp
   intro O;have u:Q.events.l.length<=m:=by simpa [len]using O
   rw[List.take_of_length_le u]at C;refine(a_ _).2 ?_;rw[L,<-C];cases s
   .exact(a_ _).2 rfl
   exact(a_ _).2 rfl
  rw[if_neg B,show (e.kind==3)=false from by simp[B],bZ]
 rw[if_neg w,show decide (me t e.kind e.message=⟨p,(k:Int)+1⟩)=false from by simpa using w,bZ]
theorem J6 {t:Trace} (J:∀x∈bT t,kF t.procs.l.length x.1.proc x.2):(∀x∈bT t,uJ t x=0)↔wX t:=by
 constructor
 .intro h;have key:∀x∈bT t,x.2.kind≠1->me t x.2.kind x.2.message=x.1:=λx u hk=>by
   have:=h x u;unfold uJ at this;rw[if_neg hk]at this;split at this
   .assumption
   cases this
  refine⟨λx u y w z B C=>?_,λx u y w z B C=>?_,λx u z=>?_⟩
  .rw[<-key x u Za,<-key y w Za,z,B,C]
  .rw[<-key x u Za,<-key y w Za,z,B,C]
  have:=h x u;unfold uJ at this;rw[if_neg Za,if_pos (key x u Za),if_pos z]at this
  split at this
  .assumption
  cases this
 intro h x u;unfold uJ
 by_cases k1:x.2.kind=1
 .rw[if_pos k1]
 rw[if_neg k1];obtain⟨y,w⟩:=FH u rfl rfl;obtain⟨D,G,y3,y4⟩:=CI w;have hk:x.2.kind=2\/x.2.kind=3:=by
  rcases J x u with h|⟨h,_⟩
  .exact absurd h k1
  exact h
 have I:me t x.2.kind x.2.message=x.1:=by
  rw[y4];rcases hk with hk|hk
  .exact h.snd y D x u (by rw[G,hk]) hk y3
  exact h.rcv y D x u (by rw[G,hk]) hk y3
 rw[if_pos I]
 by_cases k3:x.2.kind=3
 .rw[if_pos k3,if_pos (h.has x u k3)]
 rw[if_neg k3]
theorem AA {t:Trace} (D:∀x∈bT t,kF t.procs.l.length x.1.proc x.2) (G:wX t) {z:aZ} {f:Event} (B:(z,f)∈bT t) (hk:f.kind=3):∃e,(me t 2 f.message,e)∈bT t/\e.kind=2/\e.message=f.message:=by
 have h:=G.has _ B hk;have I:0<=f.peer:=by
  rcases D _ B with h|⟨_,h,_⟩
  .grind
  simp_all
 rw[show f.peer=(f.peer.toNat:Nat)from by omega,C3]at h
 obtain⟨k,e,u,h1,w,_⟩:=h;obtain⟨y,C⟩:=FH (eu.2 ⟨_,k,u,rfl⟩:(⟨(f.peer.toNat:Nat),k+1⟩,e)∈bT t) h1 w;obtain⟨J,L,y3,y4⟩:=CI C
 grind
theorem HF.find {t:Trace} (G:∀x∈bT t,kF t.procs.l.length x.1.proc x.2) (B:wX t) {y z:aZ} {f:Event} (h:HF t y z) (D:(z,f)∈bT t):f.kind=3/\me t 2 f.message=y:=by
 obtain⟨e,J,h1,w,C,u,L⟩:=h;cases Bw w D rfl;obtain⟨O,a1,I,Q⟩:=AA G B D u;exact⟨u,B.snd _ a1 _ h1 I C (by simp_all)⟩
theorem AO {t:Trace} (O:Small t) (J:∀x∈bT t,kF t.procs.l.length x.1.proc x.2) (B:wX t) {z:aZ} (D:Vd t z) :
 Wp (dM t z) λs=>s.l.length<=2/\∀y,y∈s.l↔Edge t y z:=by
 obtain⟨p,k,f,w,rfl,u⟩:=D.at_;have hk:k<1073741824:=by
  obtain⟨P,B,I⟩:=w;have:=(O.2 P (List.mem_of_getElem? B)).1
  grind
 have j:∀s:Sl aZ,s.l.length<=1->(∀y,y∈s.l↔Vd t y/\(⟨p,k+1⟩:aZ)=⟨y.proc,y.index+1⟩)->Wp (dM.J1 s t ⟨p,k+1⟩) λs=>s.l.length<=2/\∀y,y∈s.l↔Edge t y ⟨p,k+1⟩:=by
  intro s U C;unfold dM.J1;rw[PX w Za,ζb,cn]
  constructor
  .intro G;have G:f.kind=3:=by grind
   rw[find_eq O,ζb];unfold gw;rw[if_pos Za,ζb,a_]
   refine⟨by show (s.l++[_]).length<=2;grind,λy=>?_⟩
   show y∈s.l++[me t 2 f.message]↔_;rw[List.mem_append,List.mem_singleton,C];obtain⟨e,a1,Q,S⟩:=AA J B u G;constructor
   .rintro (h|rfl)
    .exact⟨h.1,D,.inl h.2⟩
    exact⟨⟨e,a1⟩,D,.inr ⟨e,f,a1,u,Q,G,S⟩⟩
   rintro⟨h1,_,h2|h2⟩
   .grind
   exact .inr (h2.find J B u).2.symm
  intro G;refine(a_ _).2 ⟨by omega,λy=>(C y).trans ⟨λh=>⟨h.1,D,.inl h.2⟩,λ⟨h1,_,h2⟩=>⟨h1,h2.elim id λh2=>?_⟩⟩⟩
  have:=(h2.find J B u).1
  grind
 unfold dM;rw[cn];constructor
 .intro h;have h:k+1>1:=by grind
  refine j _ (by simp[Sl.l]) λy=>?_
  have T:IntKind.wrap .i64 (k+1-1)=k:=by rw[jX _ Za Za];omega
  simp only[Sl.l,List.mem_singleton,T,aZ.mk.injEq];constructor
  .rintro rfl;obtain⟨P,B,I⟩:=w;have:=(ζe.1 I).1;exact⟨⟨P.events.l[k-1],eu.2 ⟨p,k-1,⟨P,B,ζd Za⟩,by simp;omega⟩⟩,rfl,rfl⟩
  simp_all
 intro h;refine j _ (by simp[Sl.l]) λy=>⟨λL=>by simp[Sl.l]at L,λ⟨L,I⟩=>?_⟩
 obtain⟨q,i,f,_,rfl,_⟩:=L.at_
 grind
theorem Ui {α:Type} {r:α->α->Prop} {x:α} (h:Acc r x):¬Relation.TransGen r x x:=by
 induction h with
 | intro x _ u=>
  intro h
  cases h with
  | single h=>exact u x h (.single h)
  | tail h1 w=>exact u _ w (Relation.TransGen.trans (.single w) h1)
theorem IJ:∀{d:List Nat} {i k:Nat},d[i]? = some k->(d.set i (k+1)).sum=d.sum+1
 | [],_,_,h=>by simp_all
 | x::d,0,k,h=>by grind
 | x::d,i+1,k,h=>by
  have:=IJ (d:=d) (i:=i) (k:=k) Zd
  grind
theorem Mn:∀{d l:List Nat},d.length=l.length->(∀(i a b:Nat),d[i]? = some a->l[i]? = some b->a<=b)->d.sum<=l.sum
 | [],_,_,_=>by simp
 | x::d,[],h,_=>by simp_all
 | x::d,y::l,h,B=>by
  have h1:=B 0 x y rfl rfl;have u:=Mn (d:=d) (l:=l) Zd λi a b w z=>B (i+1) a b Zd Zd
  simp;omega
def nI (d:List Nat):List Int:=d.map Int.ofNat
def sI (s:Sl Int):Nat:=(s.l.map Int.toNat).sum
theorem Fa (d:List Nat):sI (.row (nI d))=d.sum:=by
 unfold sI nI;rw[show (Sl.row (d.map Int.ofNat)).l=d.map Int.ofNat from rfl,List.map_map,show (Int.toNat ∘ Int.ofNat)=id from rfl,List.map_id]
theorem LQ (d:List Nat):(nI d).length=d.length:=by simp[nI]
structure Kh (t:Trace) (d:List Nat):Prop where
 len:d.length=t.procs.l.length
 le:∀(p k:Nat) P,d[p]? = some k->t.procs.l[p]? = some P->k<=P.events.l.length
 acc:∀(p k j:Nat),d[p]? = some k->j<k->Acc (Edge t) ⟨p,j+1⟩
def qO (t:Trace):Nat:=(t.procs.l.map λP=>P.events.l.length).sum
theorem Kh.sum {t:Trace} {d:List Nat} (h:Kh t d):d.sum<=qO t:=Mn (by simp[h.len]) λi a b z u=>by
 cases w:t.procs.l[i]? with
 | none=>grind
 | some P=>simp[w]at u;rw[<-u];exact h.le i a P z w
theorem Cp {d:List Nat} {p:Nat} (h:p<d.length):Sl.mj (.row (nI d)) (p:Int)=some p:=by
 unfold Sl.mj;rw[if_pos ⟨by omega,by simpa [Sl.l,LQ]using h⟩];rfl
theorem zn {d:List Nat} {p k:Nat} (h:d[p]? = some k):Sl.get (.row (nI d)) p=some (k:Int):=by
 unfold Sl.get nI;rw[show (Sl.row (d.map Int.ofNat)).l=d.map Int.ofNat from rfl,List.getElem?_map,h];rfl
def Mv (t:Trace) (B:List Nat) (s:Sl Int) (b:Bool) (d:List Nat):Prop:=s=.row (nI d)/\Kh t d/\B.sum<=d.sum/\(b=true->B.sum<d.sum)
def KQ (t:Trace) (B:List Nat) (p:Nat) (w:Fw (Sl Int×Bool×Int) (Sl Int×Bool) Empty):Prop:=∃u z C,w=.n (u,z,((p+1:Nat):Int))/\Mv t B u z C
theorem Q3 {t:Trace} (hS:Small t) (hF:∀x∈bT t,kF t.procs.l.length x.1.proc x.2) (hP:wX t) {D d1:List Nat} {s:Sl Int} {b:Bool} {p:Nat} (hp:p<t.procs.l.length) (hM:Mv t D s b d1) :
 Wp (eF.W3 s b p t) (KQ t D p):=by
 have Z:=bL hp;have hn:=hS.1;have ah:=(hS.2 _ (List.getElem_mem hp)).1;have G:=ζd hp;generalize t.procs.l[p]=P at *;refine fR (λq:Sl Int×Bool=>∃d,Mv t D q.1 q.2 d) (λq=>qO t-sI q.1) ⟨d1,hM⟩ ?_
 rintro⟨s,b⟩ ⟨d,rfl,u,hd,hb⟩;have w:p<d.length:=by rw[u.len];omega
 have hg:=ζd w;generalize d[p]=k at hg;have ai:=u.le p k P hg G;have stop:∀{X:Empty->Prop},Wp (some (Fw.x (Sl.row (nI d),b))) (P8 (λq:Sl Int×Bool=>∃d,Mv t D q.1 q.2 d) (λq=>qO t-sI q.1) (λe=>Wp (some (Fw.n (e.1,e.2,IntKind.wrap .i64 (p+1)))) (KQ t D p)) X (Sl.row (nI d),b)):=by
  refine(a_ _).2 ((a_ _).2 ⟨_,_,d,?_,rfl,u,hd,hb⟩);rw[cK p Za]
 unfold eF.dH;rw[Cp w,ζb,zn hg,ζb,Z,ζb,cn];refine⟨λh=>?_,λ_=>stop⟩
 have I:k<P.events.l.length:=by grind
 have aa:kn t p k P.events.l[k]:=⟨P,G,ζd I⟩;have z:(⟨p,k+1⟩,P.events.l[k])∈bT t:=eu.2 ⟨p,k,aa,rfl⟩;have go:(P.events.l[k].kind=3->∀q j:Nat,me t 2 P.events.l[k].message=⟨q,j+1⟩->∃Y,d[q]? = some Y/\j<Y)->∀{px:Sl Int×Bool->Prop} {X:Empty->Prop},Wp (eF.J4 (.row (nI d)) p t) (P8 (λq:Sl Int×Bool=>∃d,Mv t D q.1 q.2 d) (λq=>qO t-sI q.1) px X (Sl.row (nI d),b)):=by
  intro hq px X;unfold eF.J4;rw[Cp w,ζb,zn hg,ζb,ζb];unfold Sl.put;rw[if_pos (by simpa [Sl.l,LQ]using w),ζb,a_]
  have J:(nI d).set p (IntKind.wrap .i64 ((k:Int)+1))=nI (d.set p (k+1)):=by
   rw[cK k Za];unfold nI;simp_all
  have L:=IJ hg;have O:Kh t (d.set p (k+1)):=by
   refine⟨by simp[u.len],λq i Q B hQ=>?_,λq i j B hj=>?_⟩
   .rw[List.getElem?_set]at B;split at B
    .grind
    exact u.le q i Q B hQ
   rw[List.getElem?_set]at B;split at B
   .rename_i e;subst e;cases B
    by_cases ab:j<k
    .exact u.acc p k j hg ab
    have:j=k:=by omega
    subst this;refine Acc.intro _ λy hy=>?_
    obtain⟨S,_,he|he⟩:=hy
    .obtain⟨q,i,f,_,rfl,_⟩:=S.at_;simp[aZ.mk.injEq]at he;have e1:q=p:=by omega
     subst e1;exact u.acc q j i hg Za
    obtain⟨C,hf⟩:=he.find hF hP z;obtain⟨q,i,f,_,rfl,_⟩:=S.at_;obtain⟨Y,ad,ae⟩:=hq C q i hf;exact u.acc q Y i ad ae
   exact u.acc q i j B hj
  have aj:=O.sum;refine⟨⟨_,by grind,O,by grind,λ_=>by grind⟩,?_⟩
  show qO t-sI (.row ((nI d).set p (IntKind.wrap .i64 ((k:Int)+1))))<qO t-sI (.row (nI d));rw[J,Fa,Fa,L]
  grind
 dsimp only;rw[ζb,ζb,zn hg,ζb,bL I,ζb,cn];refine⟨λC=>?_,λC=>go λh=>by simp[h]at C⟩
 have C:P.events.l[k].kind=3:=by simpa using C
 obtain⟨e,a1,a2,a3⟩:=AA hF hP z C;obtain⟨q,j,T,U⟩:=eu.1 a1;simp only at U;have W:q<d.length:=by
  obtain⟨Q,hQ,_⟩:=T;rw[u.len];exact(ζe.1 hQ).1
 have af:=ζd W;rw[find_eq hS,ζb,U,Cp W,ζb,zn af,ζb,cn];refine⟨λ_=>stop,λh=>go λ_ q' j' hh=>?_⟩
 grind
theorem Lg {t:Trace} (J:Small t) (U:∀x∈bT t,kF t.procs.l.length x.1.proc x.2) (B:wX t):Wp (eF t) λb=>b=true->¬IW t:=by
 have hn:=J.1;unfold eF mP;rw[if_pos Zd,ζb]
 have h0:(Sl.row (List.replicate (len t.procs).toNat 0))=.row (nI (List.replicate t.procs.l.length 0)):=by simp[nI]
 rw[h0];refine fR (λs:Sl Int=>∃d,s=.row (nI d)/\Kh t d) (λs=>qO t-sI s) ⟨_,rfl,by simp,λp k P h _=>by grind,λp k j h hj=>by grind⟩ ?_
 rintro s ⟨D,rfl,S⟩;refine fR (λq:Sl Int×Bool×Int=>∃(n:Nat) (d:List Nat),q.2.2=n/\n<=t.procs.l.length/\Mv t D q.1 q.2.1 d) (λq=>t.procs.l.length-q.2.2.toNat) ⟨0,D,rfl,Nat.zero_le _,rfl,S,Nat.le_refl _,by simp⟩ ?_
 rintro⟨s,b,i⟩ ⟨n,d,T,W,L⟩;subst T;unfold eF.bX;rw[cn];constructor
 .intro h;have u:n<t.procs.l.length:=by grind
  refine(Q3 J U B u L).mono ?_;rintro w ⟨s',b',X,rfl,G⟩;exact⟨⟨n+1,X,rfl,by omega,G⟩,by simp;omega⟩
 intro _;obtain⟨rfl,z,Y,I⟩:=L;rw[a_];show Wp (br b _ _) _;rw[cn];refine⟨λZ=>(a_ _).2 ⟨⟨d,rfl,z⟩,?_⟩,λ_=>(a_ _).2 ?_⟩
 .show qO t-sI (.row (nI d))<qO t-sI (.row (nI D));rw[Fa,Fa];have:=I Z;have:=z.sum;omega
 refine fR (λi:Int=>∃n:Nat,i=n/\n<=t.procs.l.length/\∀p,p<n->∀P,t.procs.l[p]? = some P->d[p]? = some P.events.l.length) (λi:Int=>t.procs.l.length-i.toNat) ⟨0,rfl,Nat.zero_le _,λp O=>absurd O Za⟩ ?_
 rintro i ⟨n,rfl,aa,hh⟩;unfold eF.xd;rw[cn];constructor
 .intro h;have u:n<t.procs.l.length:=by grind
  have C:n<d.length:=by rw[z.len];omega
  have hg:=ζd C;rw[Cp C,ζb,zn hg,ζb,bL u,ζb,cn];refine⟨λ_=>(a_ _).2 ((a_ _).2 λh=>by cases h),λh=>(a_ _).2 ⟨⟨n+1,cK n Za,by omega,λp O P B=>?_⟩,by rw[cK n Za];simp;omega⟩⟩
  by_cases e:p=n
  .subst e;rw[ζd u]at B;have:=z.le p _ _ hg (ζd u)
   grind
  grind
 intro h;have ab:t.procs.l.length<=n:=by grind
 refine(a_ _).2 ((a_ _).2 λ_ ⟨x,Q⟩=>?_)
 obtain⟨p,k,e,⟨P,B,he⟩,rfl,_⟩:=Q.l.at_;have ad:=(ζe.1 B).1;exact Ui (z.acc p _ k (hh p Za P B) (ζe.1 he).1) Q
def qg (out:List (List Bool)) (y:aZ):Bool:=match out[y.proc.toNat]? with
 | some row=>row[y.index.toNat]?.getD false
 | none=>false
theorem zA {t:Trace} {out:List (List Bool)} {p k:Nat} {row:List Bool} (hr:out[p]? = some row) (hk:k+1<row.length) {z:aZ} (B:Vd t z) :
 qg (out.set p (row.set (k+1) true)) z=(decide (z=⟨p,k+1⟩)||qg out z):=by
 obtain⟨q,j,e,_,rfl,_⟩:=B.at_;have C:=(ζe.1 hr).1;unfold qg;have e1:(⟨(q:Int),(j:Int)+1⟩:aZ).proc.toNat=q:=rfl;have e2:(⟨(q:Int),(j:Int)+1⟩:aZ).index.toNat=j+1:=by show ((j:Int)+1).toNat=j+1;omega
 rw[e1,e2,List.getElem?_set]
 by_cases u:p=q
 .subst u;rw[if_pos rfl,if_pos C,hr];dsimp only;rw[List.getElem?_set]
  by_cases w:k=j
  .subst w;simp[hk]
  rw[if_neg Za,show decide ((⟨(p:Int),(j:Int)+1⟩:aZ)=⟨p,k+1⟩)=false from by simp;omega,Bool.false_or]
 rw[if_neg u,show decide ((⟨(q:Int),(j:Int)+1⟩:aZ)=⟨p,k+1⟩)=false from by simp;omega,Bool.false_or]
theorem zT {α:Type} {f g:α->Bool}:∀{l:List α},(∀z∈l,f z=true->g z=true)->(∃z∈l,f z=false/\g z=true)->l.countP f<l.countP g
 | [],_,⟨z,hz,_⟩=>by simp at hz
 | a::l,h,⟨z,hz,B,hg⟩=>by
  simp only[List.countP_cons];have D:=List.countP_mono_left (l:=l) (p:=f) (q:=g) λx u=>h x (List.mem_cons_of_mem _ u)
  rcases List.mem_cons.1 hz with rfl|hz
  .simp[B,hg];omega
  have:=zT (l:=l) (λx u=>h x (List.mem_cons_of_mem _ u)) ⟨z,hz,B,hg⟩
  have h1:=h a (List.mem_cons_self ..)
  cases w:f a with
  | true=>simp[h1 w];omega
  | false=>simp;split <;> omega
def cnt (t:Trace) (out:List (List Bool)):Nat:=(bT t).countP λz=>qg out z.1
structure VN (t:Trace) (x:aZ) (out:List (List Bool)) (rest:List aZ):Prop where
 shp:∀(p:Nat) P,t.procs.l[p]? = some P->∃row,out[p]? = some row/\row.length=P.events.l.length+1
 len:out.length=t.procs.l.length
 que:∀y∈rest,Way t y x
 snd:∀y,Vd t y->qg out y=true->Way t y x
 cls:∀z,z=x\/Vd t z/\qg out z=true->∀y,Edge t y z->qg out y=true\/y∈rest
 le:rest.length<=2*cnt t out+2
theorem A3 {t:Trace} {y:aZ}:qg (gC t) y=false:=by
 unfold qg gC;split
 .rename_i row h;rw[List.getElem?_map]at h
  cases u:t.procs.l[y.proc.toNat]? with
  | none=>simp[u]at h
  | some P=>
   simp[u]at h;subst h;rw[List.getElem?_replicate];split <;> rfl
 rfl
theorem Ro {t:Trace} (Y:Small t) (hN:(bT t).length<1073741824) (hF:∀x∈bT t,kF t.procs.l.length x.1.proc x.2) (J:wX t) {x:aZ} (hx:Vd t x) :
 Wp (mQ t x) λs=>∃out,s=nested out/\VN t x out []/\∀y,Vd t y->(qg out y=true↔Way t y x):=by
 unfold mQ;rw[if_pos (by
  unfold yO;simp only[ζh,List.all_eq_true,decide_eq_true_eq];exact⟨by have:=Y.1;omega,λP J=>by have:=(Y.2 P J).1;omega⟩),dJ]
 refine(AO Y hF J hx).mono λs X=>?_
 refine fR (λq:List (List Bool)×List aZ=>VN t x q.1 q.2) (λq=>2*((bT t).length-cnt t q.1)+q.2.length) ⟨λp P J=>⟨List.replicate (P.events.l.length+1) false,by simp[gC,J],by simp⟩,by simp[gC],λy C=>.single ((X.2 y).1 C),λy _ h=>(by rw[A3]at h;cases h),λz hz y C=>?_,by have:=X.1;show s.l.length<=2*cnt t (gC t)+2;omega⟩ ?_
 .rcases hz with rfl|⟨_,h⟩
  .exact .inr ((X.2 y).2 C)
  rw[A3]at h;cases h
 rintro⟨out,rest⟩ u
 cases rest with
 | nil=>
  show Wp (some _) _;refine(a_ _).2 ((a_ _).2 ⟨out,rfl,u,λy C=>⟨u.snd y C,λD=>?_⟩⟩)
  have key:∀w,Way t y w->w=x\/Vd t w/\qg out w=true->qg out y=true:=λw D=>by
   induction D with
   | single h=>exact λD=>(u.cls _ D _ h).elim id λh=>by cases h
   | tail ae L ih=>exact λD=>ih (.inr ⟨L.1,(u.cls _ D _ L).elim id λh=>by cases h⟩)
  exact key x D (.inl rfl)
 | cons y rest=>
  have G:=u.que y (List.mem_cons_self ..);have I:=G.l;obtain⟨p,k,e,Z,rfl,O⟩:=I.at_;obtain⟨P,S,hk⟩:=Z;have af:=(ζe.1 hk).1;obtain⟨row,hr,aa⟩:=u.shp p P S;have B:k+1<row.length:=by omega
  show Wp (nU _ (out,⟨p,k+1⟩::rest)) _;unfold nU;have e2:((k:Int)+1).toNat=k+1:=by omega
  dsimp only;rw[if_pos ⟨by omega,by omega⟩,show ((p:Nat):Int).toNat=p from rfl,e2,hr,ζb,ζd B,ζb,cn]
  have T:qg out ⟨p,k+1⟩=row[k+1]:=by
   unfold qg;rw[show ((⟨(p:Int),(k:Int)+1⟩:aZ).proc).toNat=p from rfl,hr];dsimp only;rw[e2,ζd B];rfl
  constructor
  .intro hb;rw[a_];refine⟨⟨u.shp,u.len,λy C=>u.que y (List.mem_cons_of_mem _ C),u.snd,λz hz y C=>?_,by have:=u.le;simp only[List.length_cons]at this;show rest.length<=2*cnt t out+2;omega⟩,Nat.add_lt_add_left (Nat.lt_succ_self _) _⟩
   rcases u.cls z hz y C with h|h
   .exact .inl h
   rcases List.mem_cons.1 h with rfl|h
   .exact .inl (by rw[T];exact hb)
   exact .inr h
  intro hb;rw[dJ];refine(AO Y hF J I).mono λmore hm=>?_
  have ab:=u.le;simp only[List.length_cons]at ab;have ah:cnt t out<=(bT t).length:=List.countP_le_length;have ai:=hm.1;have aj:cnt t out<cnt t (out.set p (row.set (k+1) true)):=zT (λz hz h=>by rw[zA hr B ⟨_,hz⟩,h,Bool.or_true]) ⟨_,O,by rw[T,hb],by rw[zA hr B I];simp⟩
  have ad:cnt t (out.set p (row.set (k+1) true))<=(bT t).length:=List.countP_le_length;rw[if_pos Za,a_]
  refine⟨⟨λq Q hQ=>?_,by show (out.set _ _).length=_;rw[List.length_set];exact u.len,λz hz=>?_,λz hz h=>?_,λz hz y C=>?_,by show (rest++more.l).length<=_;rw[ζi];show _<=2*cnt t (out.set p (row.set (k+1) true))+2;omega⟩,?_⟩
  .show ∃r,(out.set p (row.set (k+1) true))[q]? = some r/\_;rw[List.getElem?_set];split
   next e=>subst e;rw[if_pos (ζe.1 hr).1];rw[S]at hQ;cases hQ;exact⟨_,rfl,by simp[aa]⟩
   exact u.shp q Q hQ
  .rcases List.mem_append.1 hz with hz|hz
   .exact u.que z (List.mem_cons_of_mem _ hz)
   exact .trans (.single ((hm.2 z).1 hz)) G
  .show Way t z x;have h:qg (out.set p (row.set (k+1) true)) z=true:=h;rw[zA hr B hz]at h;simp only[Bool.or_eq_true,decide_eq_true_eq]at h;rcases h with rfl|h
   .exact G
   exact u.snd z hz h
  .show qg (out.set p (row.set (k+1) true)) y=true\/y∈rest++more.l;rw[zA hr B C.1];have U:z=x\/Vd t z/\qg out z=true->(decide (y=⟨p,k+1⟩)||qg out y)=true\/y∈rest++more.l:=λhz=>by
    rcases u.cls z hz y C with h|h
    .exact .inl (by rw[show qg out y=true from h,Bool.or_true])
    rcases List.mem_cons.1 h with rfl|h
    .exact .inl Zc
    exact .inr (List.mem_append_left _ h)
   rcases hz with hz|⟨W,hz⟩
   .exact U (.inl hz)
   have hz:qg (out.set p (row.set (k+1) true)) z=true:=hz;rw[zA hr B W]at hz;simp only[Bool.or_eq_true,decide_eq_true_eq]at hz;rcases hz with rfl|hz
   .exact .inr (List.mem_append_right _ ((hm.2 y).2 C))
   exact U (.inr ⟨W,hz⟩)
  show 2*((bT t).length-cnt t (out.set p (row.set (k+1) true)))+(rest++more.l).length<2*((bT t).length-cnt t out)+(_::rest).length;rw[ζi,List.length_cons];omega
theorem UZ {t:Trace} (G:Small t) (hN:(bT t).length<1073741824) (hF:∀x∈bT t,kF t.procs.l.length x.1.proc x.2) (J:wX t):Wp (c7.W6 0 t ⟨0,0⟩) λr=>(r.2=0↔¬IW t):=by
 have hn:=G.1;unfold c7.W6;refine fR (λi:Int=>∃n:Nat,i=n/\n<=t.procs.l.length/\∀(p k:Nat) e,p<n->kn t p k e->¬Way t ⟨p,k+1⟩ ⟨p,k+1⟩) (λi:Int=>t.procs.l.length-i.toNat) ⟨0,rfl,Nat.zero_le _,λp k e U=>absurd U Za⟩ ?_
 rintro i ⟨n,rfl,Z,W⟩;unfold c7.Jj;rw[cn];constructor
 .intro h;have w:n<t.procs.l.length:=by simpa [len]using h
  have I:=bL w;have z:=ζd w;have aa:=(G.2 _ (List.getElem_mem w)).1;generalize t.procs.l[n]=P at *;unfold c7.W7;refine fR (λi:Int=>∃m:Nat,i=m/\m<=P.events.l.length/\∀k,k<m->¬Way t ⟨n,k+1⟩ ⟨n,k+1⟩) (λi:Int=>P.events.l.length-i.toNat) ⟨0,rfl,Nat.zero_le _,λk hk=>absurd hk Za⟩ ?_
  rintro i ⟨m,rfl,hm,hk⟩;unfold c7.Jg;rw[I,ζb,cn];constructor
  .intro h;have L:m<P.events.l.length:=by simpa [len]using h
   have O:=cK m Za
   have hv:Vd t ⟨n,m+1⟩:=⟨P.events.l[m],eu.2 ⟨n,m,⟨P,z,ζd L⟩,rfl⟩⟩;rw[O,show (((m+1:Nat)):Int)=(m:Int)+1 from by simp,dJ]
   refine(Ro G hN hF J hv).mono ?_;rintro s ⟨out,rfl,hI,B⟩;obtain⟨row,hr,ab⟩:=hI.shp n P z;have S:out≠[]:=by rintro rfl;cases hr
   have C:m+1<row.length:=by omega
   have h1:idx (nested out) (n:Int)=some (.row row):=by
    unfold nested;rw[if_neg S,nE];show (out.map Sl.row)[n]? = _;rw[List.getElem?_map,hr];rfl
   have h2:idx (Sl.row row) ((m:Int)+1)=some row[m+1]:=by
    rw[show (m:Int)+1=((m+1:Nat):Int)from by simp]
    exact bL (s:=Sl.row row) C
   rw[h1,ζb,h2,ζb,cn];have hb:row[m+1]=qg out ⟨n,m+1⟩:=by
    unfold qg;rw[show ((⟨(n:Int),(m:Int)+1⟩:aZ).proc).toNat=n from rfl,hr];dsimp only;rw[show ((m:Int)+1).toNat=m+1 from by omega,ζd C];rfl
   rw[hb];refine⟨λD=>(a_ _).2 ((a_ _).2 ((a_ _).2 ⟨λh=>(by cases h),λh=>absurd ⟨_,(B _ hv).1 D⟩ h⟩)),λD=>(a_ _).2 ⟨⟨m+1,by simp,by omega,λk ad=>?_⟩,by simp;omega⟩⟩
   by_cases e:k=m
   .subst e;exact λO=>by rw[(B _ hv).2 O]at D;cases D
   exact hk k Za
  intro h;have T:P.events.l.length<=m:=by simpa [len]using h
  refine(a_ _).2 ((a_ _).2 ⟨⟨n+1,cK n Za,by omega,λp k e U u=>?_⟩,by rw[cK n Za];simp;omega⟩)
  by_cases e:p=n
  .subst e;obtain⟨Q,X,he⟩:=u;rw[z]at X;cases X;have:=(ζe.1 he).1;exact hk k Za
  exact W p k _ Za u
 intro h;have T:t.procs.l.length<=n:=by simpa [len]using h
 refine(a_ _).2 ((a_ _).2 ⟨λ_ ⟨x,Y⟩=>?_,λ_=>rfl⟩)
 obtain⟨p,k,e,u,rfl,_⟩:=Y.l.at_;obtain⟨P,J,_⟩:=id u;exact W p k e (by have:=(ζe.1 J).1;omega) u Y
theorem G8 {t:Trace} (B:∀x∈bT t,kF t.procs.l.length x.1.proc x.2):(∀(p k:Nat) e,kn t p k e->uJ t (⟨p,k+1⟩,e)=0)↔wX t:=
 Iff.trans ⟨λh x w=>by obtain⟨p,k,h1,u⟩:=eu.1 w;obtain⟨a,e⟩:=x;simp only at h1 u;rw[u];exact h p k e h1,λh p k e z=>h _ (eu.2 ⟨p,k,z,rfl⟩)⟩ (J6 B)
theorem Ng {t:Trace} (J:Small t) (hN:(bT t).length<1073741824):Wp (c7 t) λr=>(r.2=0↔Ok t):=by
 have hn:=J.1;unfold c7;rw[ir,ζb,cn];refine⟨λS=>(a_ _).2 ⟨λh=>(by cases h),λh=>?_⟩,λS=>?_⟩
 .have h1:=h.one;have h8:=h.few;simp only[Bool.or_eq_true,decide_eq_true_eq,len]at S;omega
 have h8:1<=t.procs.l.length/\t.procs.l.length<=8:=by
  simp only[Bool.or_eq_false_iff,decide_eq_false_iff_not,len]at S;omega
 unfold c7.W1;refine fR (λi:Int=>∃n:Nat,i=n/\n<=t.procs.l.length/\∀p,p<n->rK t p=0) (λi:Int=>t.procs.l.length-i.toNat) ⟨0,rfl,Nat.zero_le _,λp G=>absurd G Za⟩ ?_
 rintro i ⟨n,rfl,ae,hh⟩;unfold c7.bt;rw[cn];constructor
 .intro h;have w:n<t.procs.l.length:=by simpa [len]using h
  rw[OC J w,ζb,cn];refine⟨λh0=>(a_ _).2 ⟨⟨n+1,cK n Za,by omega,λp G=>?_⟩,by rw[cK n Za];simp;omega⟩,λh0=>(a_ _).2 ((a_ _).2 ⟨λh=>?_,λh=>?_⟩)⟩
  .by_cases e:p=n
   .subst e;simpa using h0
   exact hh p Za
  .simp only at h;simp[h]at h0
  simp[h.heads n w]at h0
 intro h;have af:t.procs.l.length<=n:=by simpa [len]using h
 rw[a_];unfold c7.W2;refine fR (λi:Int=>∃n:Nat,i=n/\n<=t.procs.l.length/\∀(p k:Nat) P e,p<n->t.procs.l[p]? = some P->P.events.l[k]? = some e->oO t.procs.l.length P p k e=0) (λi:Int=>t.procs.l.length-i.toNat) ⟨0,rfl,Nat.zero_le _,λp k P e G=>absurd G Za⟩ ?_
 rintro i ⟨I,rfl,ad,X⟩;unfold c7.bX;rw[cn];constructor
 .intro h;have w:I<t.procs.l.length:=by simpa [len]using h
  have D:=bL w;have B:=ζd w;have T:=(J.2 _ (List.getElem_mem w)).1;generalize t.procs.l[I]=P at D B T;unfold c7.W3;refine fR (λi:Int=>∃m:Nat,i=m/\m<=P.events.l.length/\∀(k:Nat) e,k<m->P.events.l[k]? = some e->oO t.procs.l.length P I k e=0) (λi:Int=>P.events.l.length-i.toNat) ⟨0,rfl,Nat.zero_le _,λk e hk=>absurd hk Za⟩ ?_
  rintro i ⟨m,rfl,hm,hk⟩;unfold c7.dH;rw[D,ζb,cn];constructor
  .intro h;have U:m<P.events.l.length:=by simpa [len]using h
   have C:=ζd U;have hw:=cK m Za
   rw[Nx J B C,ζb,cn];refine⟨λh0=>(a_ _).2 ⟨⟨m+1,hw,by omega,λk e ab u=>?_⟩,by rw[hw];simp;omega⟩,λh0=>(a_ _).2 ((a_ _).2 ((a_ _).2 ⟨λh=>?_,λh=>?_⟩))⟩
   .by_cases ek:k=m
    .subst ek;rw[C]at u;cases u;simpa using h0
    exact hk k e Za u
   .simp only at h;simp[h]at h0
   simp[h.fL I m P _ B C]at h0
  intro h;have L:P.events.l.length<=m:=by simpa [len]using h
  refine(a_ _).2 ((a_ _).2 ⟨⟨I+1,cK I Za,by omega,λp k Q e G W u=>?_⟩,by rw[cK I Za];simp;omega⟩)
  by_cases ep:p=I
  .subst ep;rw[B]at W;cases W;exact hk k e (by have:=(ζe.1 u).1;omega) u
  exact X p k Q e Za W u
 intro h;have L:t.procs.l.length<=I:=by simpa [len]using h
 have X:∀(p k:Nat) P e,t.procs.l[p]? = some P->P.events.l[k]? = some e->oO t.procs.l.length P p k e=0:=λp k P e O hk=>X p k P e (by have:=(ζe.1 O).1;omega) O hk
 have Y:=EW X;rw[a_];unfold c7.W4;refine fR (λi:Int=>∃n:Nat,i=n/\n<=t.procs.l.length/\∀(p k:Nat) e,p<n->kn t p k e->uJ t (⟨p,k+1⟩,e)=0) (λi:Int=>t.procs.l.length-i.toNat) ⟨0,rfl,Nat.zero_le _,λp k e G=>absurd G Za⟩ ?_
 rintro i ⟨q,rfl,hq,Z⟩;unfold c7.Jd;rw[cn];constructor
 .intro h;have w:q<t.procs.l.length:=by simpa [len]using h
  have D:=bL w;have B:=ζd w;have T:=(J.2 _ (List.getElem_mem w)).1;generalize t.procs.l[q]=P at D B T;unfold c7.W5;refine fR (λi:Int=>∃m:Nat,i=m/\m<=P.events.l.length/\∀(k:Nat) e,k<m->P.events.l[k]? = some e->uJ t (⟨q,k+1⟩,e)=0) (λi:Int=>P.events.l.length-i.toNat) ⟨0,rfl,Nat.zero_le _,λk e hk=>absurd hk Za⟩ ?_
  rintro i ⟨m,rfl,hm,hk⟩;unfold c7.xd;rw[D,ζb,cn];constructor
  .intro h;have U:m<P.events.l.length:=by simpa [len]using h
   have C:=ζd U;have hw:=cK m Za
   have z:kn t q m P.events.l[m]:=⟨P,B,C⟩;rw[hw,show (((m+1:Nat)):Int)=(m:Int)+1 from by simp,LM J z (Y (⟨q,m+1⟩,P.events.l[m]) (eu.2 ⟨q,m,z,rfl⟩)),ζb,cn]
   refine⟨λh0=>(a_ _).2 ⟨⟨m+1,by simp,by omega,λk e ab u=>?_⟩,by simp;omega⟩,λh0=>(a_ _).2 ((a_ _).2 ((a_ _).2 ⟨λh=>?_,λh=>?_⟩))⟩
   .by_cases ek:k=m
    .subst ek;rw[C]at u;cases u;simpa using h0
    exact hk k e Za u
   .simp only at h;simp[h]at h0
   simp[(G8 Y).2 h.MS q m _ z]at h0
  intro h;have L:P.events.l.length<=m:=by simpa [len]using h
  refine(a_ _).2 ((a_ _).2 ⟨⟨q+1,cK q Za,by omega,λp k e G z=>?_⟩,by rw[cK q Za];simp;omega⟩)
  by_cases ep:p=q
  .subst ep;obtain⟨Q,W,u⟩:=z;rw[B]at W;cases W;exact hk k e (by have:=(ζe.1 u).1;omega) u
  exact Z p k e Za z
 intro h;have ah:t.procs.l.length<=q:=by simpa [len]using h
 have O:wX t:=(G8 Y).1 λp k e z=>Z p k e (by obtain⟨P,O,_⟩:=z;have:=(ζe.1 O).1;omega) z
 have aa:¬IW t↔Ok t:=⟨λh=>⟨h8.1,h8.2,λp G=>hh p Za,X,O,h⟩,λh=>h.acyc⟩
 rw[a_,dJ];refine(Lg J Y O).mono λb hb=>?_
 rw[cn];exact⟨λh=>(a_ _).2 ⟨λ_=>aa.1 (hb h),λ_=>rfl⟩,λ_=>(UZ J hN Y O).mono λr hr=>hr.trans aa⟩
theorem Mt {t:Trace} (B:Small t) (D:(bT t).length<1073741824):∃b,dO t=some b/\rU t=some b/\(b=true->VT t):=by
 obtain⟨b,u,h1,w⟩:=Nw B D;refine⟨b,u,?_,h1⟩;unfold rU;obtain⟨r,hr,z⟩:=Ng B D;rw[hr,ζb]
 congr 1
 rw[Bool.eq_iff_iff,beq_iff_eq,z];exact⟨w,λh=>(h1 h).ok⟩
theorem Pf {t:Trace} (W:Small t) {c:Sl Int} (D:c.l.length=t.procs.l.length) {step:Int->Option (Fw Int Unit Unit)}
 (Y:∀i,step i=br (decide (i<(len c))) ((idx c i).bind λG=>(br (decide (G<0)) (some true) ((idx c i).bind λJ=>(idx t.procs i).bind λO=>some (decide (J>(len O.events)))):Option Bool).bind λU=>br U (some (.r ())) (some (.n (IntKind.wrap .i64 (i+1))))) (some (.x ()))) :
 Wp ((bR step 0).bind (Fw.elim (λ_=>some true) (λ_=>some false))) λb=>(b=true↔o6 t c.l):=by
 have h1:=W.1;refine fR (λs:Int=>∃n:Nat,s=n/\n<=c.l.length/\∀(p:Nat) (a:Int) (P:cu),p<n->c.l[p]? = some a->t.procs.l[p]? = some P->0<=a/\a<=P.events.l.length) (λs:Int=>c.l.length-s.toNat) ⟨0,rfl,Nat.zero_le _,λp a P h=>absurd h Za⟩ ?_
 rintro s ⟨n,rfl,T,I⟩;rw[Y,cn];constructor
 .intro h;have w:n<c.l.length:=by simpa [len]using h
  have u:n<t.procs.l.length:=by omega
  have L:=cK n Za
  rw[bL w,ζb,ζb,bL u,ζb,ir,ζb,cn];constructor
  .intro z;have z:c.l[n]<0\/c.l[n]>t.procs.l[n].events.l.length:=by simpa [len]using z
   refine(a_ _).2 ((a_ _).2 ⟨λh=>(by cases h),λQ=>?_⟩)
   have:=Q.2 n _ _ (ζd w) (ζd u);omega
  intro z;have z:0<=c.l[n]/\c.l[n]<=t.procs.l[n].events.l.length:=by simpa [len]using z
  refine(a_ _).2 ⟨⟨n+1,L,by omega,λp a P X B C=>?_⟩,by rw[L];simp;omega⟩
  by_cases e:p=n
  .subst e;rw[ζd w]at B;cases B;rw[ζd u]at C;cases C;exact z
  exact I p a P Za B C
 intro h;have S:c.l.length<=n:=by simpa [len]using h
 refine(a_ _).2 ((a_ _).2 ⟨λ_=>⟨D,λp a P B C=>I p a P (by have:=(ζe.1 B).1;omega) B C⟩,λ_=>rfl⟩)
theorem Sg {t:Trace} (D:Small t) {c:Sl Int} (B:c.l.length=t.procs.l.length):Wp (mE t c) λb=>(b=true↔o6 t c.l):=by
 unfold mE;rw[show (len c==len t.procs)=true from by simp[len,B],bS]
 exact Pf D B λi=>rfl
theorem MQ {t:Trace} (D:VT t) {A:bW 200 bC} (G:fq t (bT t) A) {p k:Nat} {e:Event} (B:kn t p k e) (hk:e.kind=3):me t 2 e.message=(ag A e.message).from_:=by
 obtain⟨y,h1,u,w⟩:=AA D.formed D.ok.MS (eu.2 ⟨p,k,B,rfl⟩:((⟨p,k+1⟩:aZ),e)∈bT t) hk;have:=G.snd _ h1 u;simp only[w]at this;exact this.symm
theorem e9 {σ ε ρ γ:Type} {step:σ->Option (Fw σ ε ρ)} {B:ε->Option γ} {fr:ρ->Option γ} {P:γ->Prop} (n:Nat) (I:Nat->σ->Prop) {s:σ} (h0:I 0 s)
 (h:∀i s,i<n->I i s->Wp (step s) λw=>match w with|.n D=>I (i+1) D|.x e=>Wp (B e) P|.r b=>Wp (fr b) P)
 (G:∀s,I n s->Wp (step s) λw=>match w with|.n _=>False|.x e=>Wp (B e) P|.r b=>Wp (fr b) P):Wp ((bR step s).bind (Fw.elim B fr)) P:=by
 have key:∀m i s,i+m=n->I i s->Wp ((bR step s).bind (Fw.elim B fr)) P:=by
  intro m
  induction m with
  | zero=>
   intro i s C z;obtain⟨w,u,hr⟩:=G s Zd
   rw[gX,u]
   cases w with
   | n D=>grind
   | x e=>exact hr
   | r b=>exact hr
  | succ m J=>
   intro i s C z;obtain⟨w,u,hr⟩:=h i s Za z
   rw[gX,u]
   cases w with
   | n D=>grind
   | x e=>exact hr
   | r b=>exact hr
 exact key n 0 s (Nat.zero_add n) h0
def bump (c:List Int) (p:Nat) (d:Int):List Int:=c.set p ((c[p]?).getD 0+d)
theorem sU:∀{c:List Int} {p:Nat} {a b:Int},c[p]? = some a->(c.set p b).sum=c.sum-a+b
 | [],_,_,_,h=>by simp_all
 | x::c,0,a,b,h=>by grind
 | x::c,p+1,a,b,h=>by
  have:=sU   (b:=b) (by simpa using h)
  grind
theorem pO:∀{c:List Int},(∀(p:Nat) a,c[p]? = some a->0<=a)->0<=c.sum
 | [],_=>by simp
 | x::c,h=>by
  have h1:=h 0 x rfl;have u:=pO (c:=c) λp a w=>h (p+1) a Zd
  grind
theorem GM:∀{c:List Int},(∀(p:Nat) a,c[p]? = some a->0<=a)->c.sum=0->∀(p:Nat) a,c[p]? = some a->a=0
 | [],_,_,p,a,B=>by simp_all
 | x::c,h,D,p,a,B=>by
  have h1:=h 0 x rfl;have hc:∀(p:Nat) a,c[p]? = some a->0<=a:=λp a B=>h (p+1) a Zd
  have u:=pO hc;simp  at D
  cases p with
  | zero=>grind
  | succ p=>exact GM hc Za p a Zd
theorem ID:∀{c:List Int} {l:List Nat},c.length=l.length->(∀(i:Nat) a b,c[i]? = some a->l[i]? = some b->a<=(b:Nat))->c.sum<=(l.sum:Nat)
 | [],[],_,_=>by simp
 | x::c,y::l,B,h=>by
  have h1:=h 0 x y rfl rfl;have u:=ID (c:=c) (l:=l) Zd λi a b w z=>h (i+1) a b Zd Zd
  grind
section
variable {t:Trace} {A:bW 200 bC} {c:List Int}
theorem o6.pos (h:o6 t c) (p:Nat) (a:Int) (B:c[p]? = some a):0<=a:=
 (h.2 p a _ B (ζd (by have:=(ζe.1 B).1;rw[<-h.1];simp_all))).1
theorem o6.at_ (h:o6 t c) {p:Nat} (B:p<t.procs.l.length):∃a,c[p]? = some a:=⟨_,ζd (by rw[h.1];omega)⟩
theorem o6.sum (h:o6 t c):0<=c.sum/\c.sum<=(qO t:Nat):=
 ⟨pO h.pos,ID (by simp[h.1]) λi a b z u=>by
  cases w:t.procs.l[i]? with
  | none=>grind
  | some P=>simp[w]at u;rw[<-u];exact(h.2 i a P z w).2⟩
theorem o6.set (h:o6 t c) {p:Nat} {b:Int} {P:cu} (B:t.procs.l[p]? = some P) (h0:0<=b) (h1:b<=P.events.l.length):o6 t (c.set p b):=by
 refine⟨by simp[h.1],λq a Q u w=>?_⟩
 rw[List.getElem?_set]at u;split at u
 .grind
 exact h.2 q a Q u w
def KC (t:Trace) (A:bW 200 bC) (c:List Int) (p:Nat):Prop:=∃P e a,t.procs.l[p]? = some P/\c[p]? = some a/\P.events.l[a.toNat]? = some e/\(e.kind=3->∃b,c[(ag A e.message).from_.proc.toNat]? = some b/\(ag A e.message).from_.index<=b)
theorem kn.one {p k:Nat} {e f:Event} (h:kn t p k e) (g:kn t p k f):e=f:=by
 obtain⟨P,a1,u⟩:=h;obtain⟨Q,w,z⟩:=g
 grind
theorem mz.le (h:mz t A c) {p:Nat} {a b:Int} (G:c[p]? = some a) (J:a<=b) (O:∀(k:Nat) e,kn t p k e->a<=k->(k:Int)<b->e.kind=3->∃B,(c.set p b)[(ag A e.message).from_.proc.toNat]? = some B/\(ag A e.message).from_.index<=B):mz t A (c.set p b):=by
 have L:=(ζe.1 G).1;have up:∀(q:Nat) x,c[q]? = some x->∃y,(c.set p b)[q]? = some y/\x<=y:=λq x u=>by
  rw[List.getElem?_set]
  grind
 intro q k e x w u hk I;rw[List.getElem?_set]at u;have C:∀x,c[q]? = some x->k<x->∃B,(c.set p b)[(ag A e.message).from_.proc.toNat]? = some B/\(ag A e.message).from_.index<=B:=λx u hk=>by
  obtain⟨y,Q,S⟩:=h q k e x w u hk I;obtain⟨z,T,U⟩:=up _ y Q;exact⟨z,T,by omega⟩
 split at u
 .rename_i W;subst W;simp[L]at u;subst u
  by_cases D:k<a
  .exact C a G D
  exact O k e w Za hk I
 grind
theorem vh (D:VT t) (J:fq t (bT t) A) {p k:Nat} {e:Event} (B:kn t p k e) (G:e.kind=3):∃q j:Nat,(ag A e.message).from_=⟨q,j+1⟩/\q≠p/\HF t ⟨q,j+1⟩ ⟨p,k+1⟩/\∃y,kn t q j y:=by
 obtain⟨q,j,y,u,z,C,y3,y4,y5⟩:=ye D J B G;have w:(⟨p,k+1⟩,e)∈bT t:=eu.2 ⟨p,k,B,rfl⟩;refine⟨q,j,y5,?_,⟨y,e,eu.2 ⟨q,j,u,rfl⟩,w,z,G,C⟩,y,u⟩;rcases D.formed _ w with h|⟨_,_,_,h,_⟩
 .grind
 grind
theorem Cons.up (O:VT t) (U:fq t (bT t) A) (G:Cons t A c) {p:Nat} {a:Int} {P:cu} (B:t.procs.l[p]? = some P) (D:c[p]? = some a) (Y:a<P.events.l.length):KC t A c p↔Cons t A (c.set p (a+1)):=by
 have h0:=G.1.pos p a D;have Z:=(ζe.1 D).1;constructor
 .rintro⟨Q,e,x,I,J,S,w⟩;rw[B]at I;cases I;rw[D]at J;cases J;refine⟨G.1.set B Za Za,G.2.le D Za λk f z T W hf=>?_⟩
  have C:k=a.toNat:=by omega
  subst C;cases z.one ⟨P,B,S⟩
  grind
 intro h;have u:a.toNat<P.events.l.length:=by omega
 refine⟨P,P.events.l[a.toNat],a,B,D,ζd u,λw=>?_⟩
 obtain⟨b,L,X⟩:=h.2 p a.toNat _ (a+1) ⟨P,B,ζd u⟩ (by simp_all) Za w
 rw[List.getElem?_set]at L;split at L
 .obtain⟨q,j,f1,f2,_⟩:=vh O U ⟨P,B,ζd u⟩ w
  grind
 grind
noncomputable def FD (t:Trace) (x:aZ):Nat:=by
 classical
 exact(bT t).countP λz=>decide (Way t z.1 x)
theorem IE (B:VT t) {x y:aZ} (h:Way t x y):FD t x<FD t y:=by
 classical
 refine zT (λz _ u=>?_) ?_
 .have u:Way t z.1 x:=by grind
  simpa using u.trans h
 obtain⟨e,w⟩:=h.l;exact⟨(x,e),w,by simpa using λk=>B.ok.acyc ⟨x,k⟩,by grind⟩
theorem Q7 (x:aZ):FD t x<=(bT t).length:=by
 classical
 unfold FD;grind
theorem Vd.of {p k:Nat} {e:Event} (h:kn t p k e):Vd t ⟨p,k+1⟩:=⟨e,eu.2 ⟨p,k,h,rfl⟩⟩
theorem G4 {p:Nat} {P:cu} (B:t.procs.l[p]? = some P):∀(d k:Nat),k+d+1<P.events.l.length->Way t ⟨p,k+1⟩ ⟨p,((k+d+1:Nat):Int)+1⟩
 | 0,k,h=>.single ⟨Vd.of ⟨P,B,ζd Za⟩,Vd.of ⟨P,B,ζd h⟩,.inl Zc⟩
 | d+1,k,h=>(G4 B d k Za).tail ⟨Vd.of ⟨P,B,ζd (show k+d+1<_ by omega)⟩,Vd.of ⟨P,B,ζd h⟩,.inl (by simp;omega)⟩
theorem Uy {q k:Nat} {b:Int} {Q:cu} {x:aZ} (B:t.procs.l[q]? = some Q) (h:Way t x ⟨q,k+1⟩) (h1:(k:Int)<b) (D:b<=Q.events.l.length):Way t x ⟨q,b⟩:=by
 by_cases e:b=k+1
 .grind
 have:=G4 B (b.toNat-k-2) k Za
 rw[show ((k+(b.toNat-k-2)+1:Nat)+1)=b from by omega]at this
 exact h.trans this
theorem Cons.IG (hV:VT t) (hM:fq t (bT t) A) (B:Cons t A c) {p:Nat} {a:Int} (G:c[p]? = some a) (h0:0<a):Cons t A (c.set p (a-1))\/∃(q:Nat) (b:Int),c[q]? = some b/\0<b/\Way t ⟨p,a⟩ ⟨q,b⟩:=by
 have Z:=(ζe.1 G).1;have O:=ζd (show p<t.procs.l.length by rw[<-B.1.1];omega)
 have hr:=B.1.2 p a _ G O;refine Classical.byContradiction λC=>C (.inl ⟨B.1.set O Za Za,λq k e x u J hk S=>?_⟩)
 obtain⟨z,w,aa⟩:∃z,c[q]? = some z/\x<=z:=by
  rw[List.getElem?_set]at J;split at J
  next e2=>subst e2;simp[Z]at J;exact⟨a,G,by omega⟩
  grind
 obtain⟨y,I,D⟩:=B.2 q k e z u w Za S
 obtain⟨r,j,f1,f2,f3,_⟩:=vh hV hM u S;rw[f1]at I D ⊢;simp only[Int.toNat_natCast]at I D ⊢
 by_cases e2:p=r
 .subst e2;rw[G]at I;cases I;refine⟨a-1,by simp_all,?_⟩
  refine Classical.byContradiction λhj=>C (.inr ⟨q,z,w,by omega,?_⟩)
  have:a=j+1:=by omega
  subst this;obtain⟨Q,T,_⟩:=u;have L:=B.1.2 q z Q w T;obtain⟨U,W,X,Y,m3⟩:=f3;exact Uy T (.single ⟨⟨U,X⟩,⟨W,Y⟩,.inr ⟨U,W,X,Y,m3⟩⟩) Za L.2
 simp_all
theorem Cons.Va (B:VT t) (D:fq t (bT t) A) (G:Cons t A c):∀(n p:Nat) (a:Int),c[p]? = some a->0<a->(bT t).length-FD t ⟨p,a⟩<=n->∃(q:Nat) (b:Int),c[q]? = some b/\0<b/\Cons t A (c.set q (b-1)):=by
 intro n
 induction n with
 | zero=>
  intro p a u h0 C;rcases G.IG B D u h0 with h|⟨q,b,_,_,w⟩
  .grind
  have:=IE B w;have:=Q7 (t:=t) ⟨q,b⟩;omega
 | succ n I=>
  intro p a u h0 C;rcases G.IG B D u h0 with h|⟨q,b,J,z,w⟩
  .grind
  have:=IE B w;exact I q b J z Za
theorem Cons.down (D:VT t) (G:fq t (bT t) A) (B:Cons t A c) (J:0<c.sum):∃(q:Nat) (b:Int),c[q]? = some b/\0<b/\Cons t A (c.set q (b-1)):=by
 obtain⟨p,a,u,h0⟩:∃(p:Nat) (a:Int),c[p]? = some a/\0<a:=by
  refine Classical.byContradiction λw=>?_
  have C:∀a∈c,a=0:=λa u=>by
   obtain⟨p,z⟩:=List.mem_iff_getElem?.1 u;have:=B.1.pos p a z
   grind
  have:c.sum=0:=by
   clear B J w
   induction c with
   | nil=>rfl
   | cons x c I=>simp_all
  omega
 exact B.Va D G _ p a u h0 (Nat.le_refl _)
theorem Cons.Ew (G:VT t) (J:fq t (bT t) A):∀(d:Nat) {c:List Int} {k:Nat},Cons t A c->c.sum=((k+d:Nat):Int)->∃c',Cons t A c'/\c'.sum=(k:Int)
 | 0,c,k,B,O=>⟨c,B,by grind⟩
 | d+1,c,k,B,O=>by
  obtain⟨q,b,U,W,D⟩:=B.down G J Za
  exact Cons.Ew G J d D (by rw[sU U];omega)
end
theorem iE {α:Type} {s:Sl α} {n:Nat} (h:n<s.l.length):decide ((n:Int)<len s)=true:=by simp[len];omega
theorem iJ {α:Type} {s:Sl α}:decide ((s.l.length:Int)<len s)=false:=by simp[len]
theorem wS {α:Type} {s x:Sl α} (h:s.l.length+x.l.length<=2147483648):∃r,nH s x=some r/\r.l=s.l++x.l:=by
 unfold nH
 by_cases e:x.l=[]
 .rw[if_pos e];exact⟨s,rfl,by rw[e,List.append_nil]⟩
 rw[if_neg e,if_pos h];exact⟨_,rfl,rfl⟩
theorem jO {α:Type} {s:Sl α} {x:α} (h:s.l.length<2147483648):∃r,gw s x=some r/\r.l=s.l++[x]:=by
 unfold gw;rw[if_pos Za];exact⟨_,rfl,rfl⟩
theorem tK {α:Type} {s:Sl α} {p:Nat} (h:p<s.l.length):Sl.mj s (p:Int)=some p:=by
 unfold Sl.mj;rw[if_pos ⟨by omega,by simpa using h⟩];rfl
theorem put_eq {α:Type} {s:Sl α} {p:Nat} {x:α} (h:p<s.l.length):∃r,Sl.put s p x=some r/\r.l=s.l.set p x:=by
 unfold Sl.put;rw[if_pos h];exact⟨_,rfl,by cases s <;> first|rfl|(simp[Sl.l]at h)⟩
section
variable {t:Trace} {A:bW 200 bC}
def WV (t:Trace) (A:bW 200 bC) (c:List Int) (n:Nat):Prop:=∀(p k:Nat) (e:Event) (a:Int),p<n->kn t p k e->c[p]? = some a->(k:Int)<a->e.kind=3->∃b,c[(ag A e.message).from_.proc.toNat]? = some b/\(ag A e.message).from_.index<=b
theorem Tf (hS:Small t) (U:VT t) (hM:fq t (bT t) A) {c:Sl Int} (hR:o6 t c.l):Wp (dN t c) λb=>(b=true↔mz t A c.l):=by
 have aa:=hR.1;have ab:=U.few;unfold dN dN.W1;refine e9 c.l.length (λn s=>s=(n:Int)/\WV t A c.l n) ⟨rfl,λp k e a h=>absurd h Za⟩ ?_ ?_
 .rintro n _ B ⟨rfl,T⟩;unfold dN.bt;rw[iE B,bS];have z:n<t.procs.l.length:=by omega
  have ad:=(hS.2 _ (List.getElem_mem z)).1;have C:=ζd z;have D:=ζd B;obtain⟨r1,r2⟩:=hR.2 n _ _ D C;have J:=bL B;generalize c.l[n]=a at *;generalize t.procs.l[n]=P at *;unfold dN.W2;refine e9 a.toNat (λm s=>s=(m:Int)/\∀(k:Nat) (e:Event),k<m->kn t n k e->e.kind=3->∃b,c.l[(ag A e.message).from_.proc.toNat]? = some b/\(ag A e.message).from_.index<=b) ⟨rfl,λk e h=>absurd h Za⟩ ?_ ?_
  .rintro m _ hm ⟨rfl,W⟩;unfold dN.bX;have L:m<P.events.l.length:=by omega
   have u:kn t n m P.events.l[m]:=⟨P,C,ζd L⟩;rw[J,ζb,show decide ((m:Int)<a)=true from by simp;omega,bS,nE,C,ζb,bL L,ζb,cK m Za]
   generalize P.events.l[m]=e at *;have more:(e.kind=3->∃b,c.l[(ag A e.message).from_.proc.toNat]? = some b/\(ag A e.message).from_.index<=b)->∀(k:Nat) (e:Event),k<m+1->kn t n k e->e.kind=3->∃b,c.l[(ag A e.message).from_.proc.toNat]? = some b/\(ag A e.message).from_.index<=b:=λh k f hk Z w=>by
    by_cases ek:k=m
    .subst ek;cases u.one Z;exact h w
    exact W k f Za Z w
   rw[cn];refine⟨λw=>?_,λw=>(a_ _).2 ⟨rfl,more λk=>by simp[k]at w⟩⟩
   have w:e.kind=3:=by simpa using w
   obtain⟨q,j,f1,_,_,y,Q,hQ,_⟩:=vh U hM u w;have G:q<c.l.length:=by have:=(ζe.1 hQ).1;omega
   rw[find_eq hS,MQ U hM u w,ζb,f1];simp only;rw[bL G,ζb,cn];refine⟨λX=>(a_ _).2 ((a_ _).2 ((a_ _).2 ⟨λh=>(by cases h),λhC=>?_⟩)),λY=>(a_ _).2 ⟨rfl,more λ_=>?_⟩⟩
   .obtain⟨b,O,S⟩:=hC n m e a u D Za w
    rw[f1]at O S;simp only[Int.toNat_natCast,ζd G,ζa]at O S;simp only[decide_eq_true_eq]at X;omega
   rw[f1];exact⟨c.l[q],by simp only[Int.toNat_natCast];exact ζd G,by simp at Y ⊢;omega⟩
  rintro _ ⟨rfl,W⟩;unfold dN.bX;rw[J,ζb,show decide ((a.toNat:Int)<a)=false from by simp;omega,bZ]
  refine(a_ _).2 ((a_ _).2 ⟨cK n Za,λp k e x hp u I hk w=>?_⟩)
  by_cases e2:p=n
  .subst e2;rw[D]at I;cases I;exact W k e Za u w
  exact T p k e x Za u I hk w
 rintro _ ⟨rfl,T⟩;unfold dN.bt;rw[iJ,bZ];exact(a_ _).2 ((a_ _).2 ⟨λ_ p k e a u I=>T p k e a (ζe.1 I).1 u I,λ_=>rfl⟩)
theorem Vy (D:Small t) (G:VT t) (J:fq t (bT t) A) {c:Sl Int} (B:c.l.length=t.procs.l.length):Wp (vM t c) λb=>(b=true↔Cons t A c.l):=by
 unfold vM;rw[dJ];refine(Sg D B).mono λb w=>?_
 rw[dJ,cn];constructor
 .intro h;have z:=w.1 h;rw[dJ];refine(Tf D G J z).mono λI u=>?_
  rw[a_,a_];exact u.trans ⟨λh=>⟨z,h⟩,λh=>h.2⟩
 intro h;rw[a_,a_];exact⟨λh=>(by cases h),λC=>absurd (w.2 C.1) (by simp[h])⟩
theorem step_eq {c:Sl Int} {p:Nat} {a:Int} (B:c.l[p]? = some a) (G:c.l.length<=1073741824) (h0:0<=a) (h1:a<1073741824):∃d:Sl Int,qw c p=some d/\d.l=c.l.set p (a+1):=by
 have w:=(ζe.1 B).1;unfold qw;obtain⟨r,z,u⟩:=wS (s:=Sl.row []) (x:=c) (show 0+c.l.length<=_ by omega)
 have u:r.l=c.l:=u;rw[z,ζb,tK (by rw[u];exact w),ζb]
 unfold Sl.get;rw[u,B,ζb,ζb,jX _ Za Za]
 obtain⟨d,C,D⟩:=put_eq (s:=r) (p:=p) (x:=a+1) (by rw[u];exact w)
 rw[C];exact⟨d,rfl,by rw[D,u]⟩
end
def ins (s:Sl (Sl Int)):List (List Int):=s.l.map Sl.l
theorem AU {α:Type} (s:Sl α) (i:Nat) (h:i<=s.l.length):∃x,fS s (some (i:Int)) none=some x/\x.l=s.l.drop i:=by
 unfold fS dU;simp only[Option.getD_some,Option.getD_none];rw[if_pos ⟨by omega,by omega,by omega⟩]
 exact⟨_,rfl,by cases s <;> simp[Sl.l]⟩
def Bd (t:Trace) (A:bW 200 bC) (c d:List Int):Prop:=∃(p:Nat) (a:Int),c[p]? = some a/\d=c.set p (a+1)/\Cons t A d
section
variable {t:Trace} {A:bW 200 bC}
theorem jQ {s:Sl (Sl Int)} {d:List Int}:d∈ins s↔∃x∈s.l,x.l=d:=by unfold ins;exact List.mem_map
theorem Ai {r s:Sl (Sl Int)} {x:Sl Int} (h:r.l=s.l++[x]) {d:List Int}:d∈ins r↔d∈ins s\/d=x.l:=by
 unfold ins;rw[h];simp
theorem Ra (U:Small t) (W:VT t) (hM:fq t (bT t) A) {c:Sl Int} (Y:Cons t A c.l):Wp (iV t c) λr=>r.l.length<=8/\∀d,d∈ins r↔Bd t A c.l d:=by
 have J:=Y.1.1;have T:=W.few;unfold iV iV.W1;refine e9 c.l.length (λn s=>s.2=(n:Int)/\s.1.l.length<=n/\∀d,d∈ins s.1↔∃(p:Nat) (a:Int),p<n/\c.l[p]? = some a/\d=c.l.set p (a+1)/\Cons t A d) ⟨rfl,Nat.le_refl _,λd=>⟨λh=>by simp[ins,Sl.l]at h,λ⟨p,a,h,_⟩=>absurd h Za⟩⟩ ?_ ?_
 .rintro n ⟨out,_⟩ B ⟨h,u,G⟩;simp only at h u G;subst h;have w:n<t.procs.l.length:=by omega
  have X:=(U.2 _ (List.getElem_mem w)).1;have z:=ζd B;have hr:=Y.1.2 n _ _ z (ζd w);unfold iV.bt;rw[iE B,bS,bL B,ζb,bL w,ζb,cK n Za]
  generalize c.l[n]=a at *;have keep:¬Cons t A (c.l.set n (a+1))->∀d,d∈ins out↔∃(p:Nat) (a:Int),p<n+1/\c.l[p]? = some a/\d=c.l.set p (a+1)/\Cons t A d:=λL d=>by
   rw[G];refine⟨λ⟨p,b,h,k⟩=>⟨p,b,by omega,k⟩,λ⟨p,b,h,k1,k2,k3⟩=>⟨p,b,?_,k1,k2,k3⟩⟩
   refine Classical.byContradiction λhp=>L ?_
   have:p=n:=by omega
   subst this;rw[z]at k1;cases k1;rw[<-k2];exact k3
  by_cases C:a<t.procs.l[n].events.l.length
  .obtain⟨d,Z,D⟩:=step_eq (c:=c) z Za hr.1 Za
   rw[show decide (a<(len t.procs.l[n].events))=true from by simpa [len]using C,bS,Z,ζb,dJ,dJ]
   refine(Vy U W hM (c:=d) (by rw[D,List.length_set];exact J)).mono λb O=>?_
   rw[D]at O;rw[a_,cn];constructor
   .intro ht;obtain⟨r,Q,I⟩:=jO (s:=out) (x:=d) Za
    rw[ζb,Q,ζb,a_];refine⟨rfl,by rw[I];simp;omega,λe=>?_⟩
    rw[Ai I,G,D];constructor
    .rintro (⟨p,b,h,k⟩|h)
     .exact⟨p,b,by omega,k⟩
     exact⟨n,a,by omega,z,h,by rw[h];exact O.1 ht⟩
    rintro⟨p,b,h,k1,k2,k3⟩
    by_cases e2:p=n
    .subst e2;rw[z]at k1;cases k1;exact .inr k2
    exact .inl ⟨p,b,by omega,k1,k2,k3⟩
   intro S;exact(a_ _).2 ⟨rfl,Nat.le_succ_of_le u,keep λh=>by rw[O.2 h]at S;cases S⟩
  rw[show decide (a<(len t.procs.l[n].events))=false from by simpa [len]using C,bZ,ζb,bZ,a_]
  refine⟨rfl,Nat.le_succ_of_le u,keep λh=>?_⟩
  have:=h.1.2 n (a+1) _ (by simp[List.getElem?_set,B]) (ζd w)
  omega
 rintro⟨out,_⟩ ⟨h,u,G⟩;simp only at h u G;subst h;unfold iV.bt;rw[iJ,bZ,a_];refine(a_ _).2 ⟨show out.l.length<=8 by omega,λd=>(G d).trans ⟨λ⟨p,a,_,h⟩=>⟨p,a,h⟩,λ⟨p,a,h⟩=>⟨p,a,(ζe.1 h.1).1,h⟩⟩⟩
def yD (t:Trace) (A:bW 200 bC) (k:Nat) (s:Sl (Sl Int)):Prop:=∀d,d∈ins s↔Cons t A d/\d.sum=(k:Int)
theorem Bd.iff (D:VT t) (G:fq t (bT t) A) {k:Nat} {d:List Int}:(∃c,(Cons t A c/\c.sum=(k:Int))/\Bd t A c d)↔Cons t A d/\d.sum=((k+1:Nat):Int):=by
 constructor
 .rintro⟨c,⟨z,C⟩,p,a,I,rfl,u⟩;exact⟨u,by rw[sU I];omega⟩
 rintro⟨u,C⟩;obtain⟨q,b,w,J,z⟩:=u.down D G Za
 have B:=(ζe.1 w).1;refine⟨_,⟨z,by rw[sU w];omega⟩,q,b-1,by simp[B],?_,u⟩
 rw[List.set_set,show b-1+1=b from by omega]
 refine List.ext_getElem? λi=>?_
 rw[List.getElem?_set];split
 next e=>subst e;simp[B,w];exact(ζe.1 w).2.symm▸rfl
 rfl
theorem vi {s:Sl (Sl Int)} {n:Nat} (h:n<s.l.length) {d:List Int}:d∈(s.l.take (n+1)).map Sl.l↔d∈(s.l.take n).map Sl.l\/d=s.l[n].l:=by
 rw[show s.l.take (n+1)=s.l.take n++[s.l[n]]from by rw[List.take_add_one,ζd h];rfl]
 simp only[List.map_append,List.mem_append,List.map_cons,List.map_nil,List.mem_singleton]
theorem I5:∀n:Nat,(List.replicate n (0:Int)).sum=0
 | 0=>rfl
 | n+1=>by rw[List.replicate_succ,List.sum_cons,I5 n];rfl
theorem uG:Cons t A (List.replicate t.procs.l.length 0):=by
 have w:∀(p:Nat) a,(List.replicate t.procs.l.length (0:Int))[p]? = some a->a=0:=λp a h=>by
  rw[List.getElem?_replicate]at h;split at h <;> cases h;rfl
 exact⟨⟨by simp,λp a P u _=>by rw[w p a u];omega⟩,λp k e a _ u hk=>by rw[w p a u]at hk;omega⟩
theorem JW {z:Sl Int} (B:z.l=List.replicate t.procs.l.length 0):yD t A 0 (Sl.row [z]):=by
 intro d;have:d∈ins (Sl.row [z])↔d=List.replicate t.procs.l.length 0:=by unfold ins;rw[<-B];exact List.mem_singleton
 rw[this];constructor
 .rintro rfl;exact⟨uG,by rw[I5];rfl⟩
 rintro⟨u,w⟩;refine List.ext_getElem? λi=>?_
 rw[List.getElem?_replicate,<-u.1.1];split
 next C=>have h:=ζd C;rw[h,GM u.1.pos (by simpa using w) i _ h]
 exact List.getElem?_eq_none Za
theorem yD.none (D:VT t) (G:fq t (bT t) A) {k:Nat} {s:Sl (Sl Int)} (h:yD t A k s) (J:s.l.length=0) {d:List Int} (B:Cons t A d):d.sum<(k:Int):=by
 refine Classical.byContradiction λu=>?_
 have h0:=pO B.1.pos;obtain⟨c,w,z⟩:=Cons.Ew D G (d.sum.toNat-k) (k:=k) B Za
 have:=(h c).2 ⟨w,z⟩;obtain⟨x,C,_⟩:=jQ.1 this;have:=List.length_pos_of_mem C;omega
theorem yD.last {s:Sl (Sl Int)} (h:yD t A (qO t+1) s):s.l.length=0:=by
 refine Classical.byContradiction λu=>?_
 have w:=List.getElem_mem (show 0<s.l.length by omega)
 have:=(h s.l[0].l).1 (jQ.2 ⟨_,w,rfl⟩);have:=this.1.1.sum;omega
theorem B8 {α:Type} (s:Sl α):decide ((len s)>0) = !decide (s.l.length=0):=by
 by_cases h:s.l.length=0
 .simp[len,h]
 simp[h,len];omega
end
def fh:List Int->List Int->Int
 | [],[]=>0
 | [],_::_=>-1
 | _::_,[]=>1
 | x::a,y::b=>if x<y then -1 else if x>y then 1 else fh a b
theorem vX:∀a,fh a a=0
 | []=>rfl
 | x::a=>by simp[fh,vX a]
theorem Aw:∀a b c,fh a b<0->fh b c<0->fh a c<0
 | [],[],_,h,_=>by simp[fh]at h
 | [],_::_,[],_,h=>by simp[fh]at h
 | [],_::_,_::_,_,_=>by simp[fh]
 | _::_,[],_,h,_=>by simp[fh]at h
 | _::_,_::_,[],_,h=>by simp[fh]at h
 | x::a,y::b,z::c,h1,B=>by
  have D:=Aw a b c;simp only[fh]at h1 B ⊢;split at h1
  .split at B
   .rw[if_pos Za];omega
   split at B
   .omega
   rw[if_pos Za];omega
  split at h1
  .omega
  split at B
  .rw[if_pos Za];omega
  split at B
  .omega
  rw[if_neg Za,if_neg Za];exact D h1 B
theorem wT:∀a b,¬fh a b<0->¬fh b a<0->a=b
 | [],[],_,_=>rfl
 | [],_::_,h,_=>by simp[fh]at h
 | _::_,[],_,h=>by simp[fh]at h
 | x::a,y::b,h1,B=>by
  have D:=wT a b;simp only[fh]at h1 B;split at h1
  .omega
  split at B
  .omega
  rw[D (by first|assumption|(split at h1 <;> first|assumption|omega)) (by first|assumption|(split at B <;> first|assumption|omega)),show x=y from by omega]
theorem OI (a b c:List Int) (h1:¬fh a b<0) (B:¬fh b c<0):¬fh a c<0:=λh=>by
 by_cases u:fh b a<0
 .exact B (Aw b a c u h)
 rw[wT a b h1 u]at h;exact B h
theorem PO {α:Type} {s:Sl α} {p:α->α->Option Int} {f:α->List Int} (W:∀x y,x∈s.l->y∈s.l->p x y=some (fh (f x) (f y))) (U:s.l.length<2147483648):∃r,xX s p=some r/\r.l.Perm s.l/\r.l.Pairwise λx y=>¬fh (f y) (f x)<0:=by
 unfold xX;split
 next h=>exact⟨s,rfl,List.Perm.refl _,by rw[h];exact List.Pairwise.nil⟩
 rename_i x l h;rw[if_pos (by rw[h]at U;simp at U;omega)]
 simp only;have S:∀i j:_root_.Fin (l.length+1),p (x::l)[i.1] (x::l)[j.1]=some (fh (f (x::l)[i.1]) (f (x::l)[j.1])):=λi j=>W _ _ (by rw[h];exact List.getElem_mem _) (by rw[h];exact List.getElem_mem _)
 have C:(oS λi j:_root_.Fin (l.length+1)=>p (x::l)[i.1] (x::l)[j.1])=λi j=>decide (fh (f (x::l)[i.1]) (f (x::l)[j.1])<0):=by
  funext i j;unfold oS;show decide ((p _ _).getD 0<0)=_;rw[S];rfl
 have D:Au (λi j:_root_.Fin (l.length+1)=>p (x::l)[i.1] (x::l)[j.1])=true:=by
  have u:∀i j,oS (λi j:_root_.Fin (l.length+1)=>p (x::l)[i.1] (x::l)[j.1]) i j=decide (fh (f (x::l)[i.1]) (f (x::l)[j.1])<0):=λi j=>by rw[C]
  refine List.all_eq_true.2 λi _=>Bool.and_eq_true_iff.2 ⟨by rw[u,vX];rfl,List.all_eq_true.2 λj _=>Bool.and_eq_true_iff.2 ⟨by show (p _ _).isSome=true;rw[S];rfl,List.all_eq_true.2 λk _=>Bool.and_eq_true_iff.2 ⟨?_,?_⟩⟩⟩
  .have:=Aw (f (x::l)[i.1]) (f (x::l)[j.1]) (f (x::l)[k.1]);rw[u,u,u];simp only[Bool.or_eq_true,Bool.not_eq_true',Bool.and_eq_false_iff,decide_eq_true_eq,decide_eq_false_iff_not];omega
  have:=OI (f (x::l)[i.1]) (f (x::l)[j.1]) (f (x::l)[k.1]);rw[u,u,u];simp only[Bool.or_eq_true,Bool.not_eq_true',decide_eq_true_eq,decide_eq_false_iff_not];omega
 rw[if_pos D];have G:=(pR D).2;have J:=Sort.pdq_sorts _ G (List.finRange (l.length+1)).toArray 0 (l.length+1) (Lib.bitLen (l.length+1)) true true (Nat.zero_le _) Zc (Or.inl rfl)
 rw[<-BQ]at J;generalize qb l.length _=d at J;obtain⟨⟨z,_,w⟩,B⟩:=J;have z:d.size=l.length+1:=by simpa using z
 have I:∀y:List α,(s.re y).l=y:=λy=>by cases s <;> first|rfl|(simp[Sl.l]at h)
 refine⟨_,rfl,?_,?_⟩
 .rw[I,h];have h1:d.extract 0 (l.length+1)=d:=Array.ext (by simp[z]) λi h1 L=>by simp
  rw[h1]at w;have L:((List.finRange (l.length+1)).toArray.extract 0 (l.length+1)).toList=List.finRange (l.length+1):=by simp[List.take_of_length_le]
  rw[L]at w;refine(w.map _).trans ?_;rw[show (List.finRange (l.length+1)).map (λi=>(x::l)[i.1])=x::l from ?_]
  exact List.ext_getElem Zc λi h1 L=>by simp
 rw[I,List.pairwise_map,List.pairwise_iff_getElem];intro i j T O Q;have:=B i j (Nat.zero_le _) Q (by simpa [z]using O)
 rw[C]at this;simp only[Array.length_toList]at T O;simp only[getElem!_pos d i T,getElem!_pos d j O,decide_eq_false_iff_not]at this;simpa using this
def Dv (c:List Int):List Int:=c.sum::c
def Da (c:List Int):Prop:=c.length<=8/\∀x∈c,0<=x/\x<1073741824
theorem OZ {c:List Int} (h:Da c) (i:Nat):0<=(c.take i).sum/\(c.take i).sum<=8589934592:=by
 have key:∀(l:List Int),(∀x∈l,0<=x/\x<1073741824)->0<=l.sum/\l.sum<=1073741824*(l.length:Int):=by
  intro l
  induction l with
  | nil=>intro _;simp
  | cons x l u=>
   intro h;have h1:=h x Zc
   have w:=u λy z=>h y (List.mem_cons_of_mem _ z)
   simp only[List.sum_cons,List.length_cons];omega
 have h1:=key (c.take i) λx B=>h.2 x (List.mem_of_mem_take B)
 have w:(c.take i).length<=8:=by rw[List.length_take];have:=h.1;omega
 omega
theorem FJ {c:List Int} {i:Nat} (B:i<c.length):(c.take (i+1)).sum=(c.take i).sum+c[i]:=by
 rw[List.take_succ_eq_append_getElem B,List.sum_append];simp
theorem Mq {a b:List Int} {i:Nat} (B:i<a.length) (D:i<b.length):fh (a.drop i) (b.drop i)=if a[i]<b[i]then -1 else if a[i]>b[i]then 1 else fh (a.drop (i+1)) (b.drop (i+1)):=by
 rw[List.drop_eq_getElem_cons B,List.drop_eq_getElem_cons D];rfl
def ec (x y:List Int):Prop:=fh (Dv x) (Dv y)<0
instance (x y:List Int):Decidable (ec x y):=by unfold ec;exact inferInstance
theorem ec.A9 (x:List Int):¬ec x x:=by unfold ec;rw[vX];omega
theorem ec.tr {x y z:List Int} (h:ec x y) (k:ec y z):ec x z:=Aw _ _ _ h k
theorem ec.tot {x y:List Int} (h:¬ec x y) (k:¬ec y x):x=y:=by
 have:=wT _ _ h k;unfold Dv at this;exact(List.cons.inj this).2
theorem ec.sum {x y:List Int} (h:x.sum<y.sum):ec x y:=by unfold ec Dv;simp[fh,h]
theorem CB:∀{l r:List (List Int)},l.Pairwise ec->r.Pairwise ec->(∀x,x∈l↔x∈r)->l=r
 | [],[],_,_,_=>rfl
 | [],y::r,_,_,h=>by have:=(h y).2 Zc;simp at this
 | x::l,[],_,_,h=>by have:=(h x).1 Zc;simp at this
 | x::l,y::r,C,hr,h=>by
  have e:x=y:=by
   rcases List.mem_cons.1 ((h x).1 Zc)with e|e
   .exact e
   rcases List.mem_cons.1 ((h y).2 Zc)with k|k
   .exact k.symm
   exact absurd (((List.pairwise_cons.1 hr).1 x e).tr ((List.pairwise_cons.1 C).1 y k)) (ec.A9 y)
  subst e
  congr 1
  have u:=List.pairwise_cons.1 C;have w:=List.pairwise_cons.1 hr;refine CB u.2 w.2 λz=>⟨λB=>?_,λB=>?_⟩
  .rcases List.mem_cons.1 ((h z).1 (List.mem_cons_of_mem _ B))with e|e
   .exact absurd (e▸u.1 z B) (ec.A9 x)
   exact e
  rcases List.mem_cons.1 ((h z).2 (List.mem_cons_of_mem _ B))with e|e
  .exact absurd (e▸w.1 z B) (ec.A9 x)
  exact e
theorem w8 {t:Trace} {A:bW 200 bC} (D:Small t) (G:VT t) {c:List Int} (B:Cons t A c):Da c:=by
 refine⟨B.1.1▸G.few,λx z=>?_⟩
 obtain⟨p,w,e⟩:=List.mem_iff_getElem.1 z;have u:p<t.procs.l.length:=by rw[<-B.1.1];exact w
 have:=B.1.2 p x _ (by rw[ζd w,e]) (ζd u)
 have k:=(D.2 _ (List.getElem_mem u)).1;omega
theorem ec.GZ {x y:List Int} (h:x.sum=y.sum):ec x y↔fh x y<0:=by
 unfold ec Dv;simp only[fh,if_neg (show ¬x.sum<y.sum by omega),if_neg (show ¬x.sum>y.sum by omega)]
theorem ec.nodup {L:List (List Int)} (h:L.Pairwise ec):L.Nodup:=h.imp λ{x y} (h:ec x y) (e:x=y)=>ec.A9 y (by rw[e]at h;exact h)
theorem K0 {L:List (List Int)} {c:List Int} {j:Nat} (h:L.Pairwise ec) (h1:∀(i:Nat) x,i<j->L[i]? = some x->ec x c) (D:∀x,L[j]? = some x->ec c x) :
 (L.take j++[c]++L.drop j).Pairwise ec/\∀x,x∈L.take j++[c]++L.drop j↔x∈L\/x=c:=by
 have w:∀x∈L.take j,ec x c:=λx hx=>by
  obtain⟨k,hk,e⟩:=List.mem_iff_getElem.1 hx;rw[List.length_take]at hk;rw[List.getElem_take]at e;exact h1 k x Za (by rw[ζd Za,e])
 have u:∀x∈L.drop j,ec c x:=λx hx=>by
  obtain⟨k,hk,e⟩:=List.mem_iff_getElem.1 hx;rw[List.length_drop]at hk;rw[List.getElem_drop]at e;have B:j<L.length:=by omega
  have k0:=D _ (ζd B)
  by_cases e0:k=0
  .subst e0;simp only[Nat.add_zero]at e;rw[<-e];exact k0
  rw[<-e];exact k0.tr (List.pairwise_iff_getElem.1 h j (j+k) B Za Za)
 refine⟨List.pairwise_append.2 ⟨List.pairwise_append.2 ⟨h.sublist (List.take_sublist _ _),List.pairwise_singleton _ _,λx hx y z=>?_⟩,h.sublist (List.drop_sublist _ _),λx hx y z=>?_⟩,λx=>?_⟩
 .rw[List.mem_singleton.1 z];exact w x hx
 .rcases List.mem_append.1 hx with hx|hx
  .exact(w x hx).tr (u y z)
  rw[List.mem_singleton.1 hx];exact u y z
 conv=>rhs;rw[<-List.take_append_drop j L]
 simp only[List.mem_append,List.mem_singleton];constructor
 .rintro ((h|h)|h) <;> simp[h]
 rintro ((h|h)|h) <;> simp[h]
theorem O5 {α:Type} {s:Sl α} {p:α->α->Option Bool} {f:α->List Int} (hp:∀x y,x∈s.l->y∈s.l->p x y=some (decide (f x=f y))) (hl:s.l.length<2147483648) (hs:s.l.Pairwise λx y=>¬fh (f y) (f x)<0) :
 ∃r,wB s p=some r/\(r.l.map f).Nodup/\(∀d,d∈r.l.map f↔d∈s.l.map f)/\r.l.length<=s.l.length:=by
 have S:∀i,i<s.l.length->0<i->∃(h1:i<s.l.length) (O:i-1<s.l.length),sD s.l p i=some (decide (f s.l[i]=f s.l[i-1])):=λi h h0=>by
  refine⟨h,by omega,?_⟩
  unfold sD;rw[ζd h,ζd (show i-1<s.l.length by omega)]
  exact hp _ _ (List.getElem_mem _) (List.getElem_mem _)
 unfold wB;rw[if_pos ⟨by omega,List.all_eq_true.2 λi Q=>by
  by_cases h:i=0
  .subst h;rfl
  obtain⟨_,_,e⟩:=S i (List.mem_range.1 Q) Za
  rw[e];simp⟩]
 have B:∀y:List α,(s.l=[]->y=[])->(s.rM y).l=y:=λy z=>by cases s <;> first|rfl|exact(z rfl).symm
 have T:∀i,i∈kept (λi=>(sD s.l p i).getD false) s.l.length↔i<s.l.length/\(i=0\/(sD s.l p i).getD false=false):=λi=>by unfold kept;simp[List.mem_filter]
 have C:=Aq (λi=>(sD s.l p i).getD false) s.l.length
 have U:(kept (λi=>(sD s.l p i).getD false) s.l.length).Pairwise (·<·):=by unfold kept;exact List.pairwise_lt_range.filter _
 generalize kept (λi=>(sD s.l p i).getD false) s.l.length=K at *
 have w:(s.rM (K.filterMap (s.l[·]?))).l=K.filterMap (s.l[·]?):=B _ λh=>by rw[h];simp
 refine⟨_,rfl,?_,λd=>?_,?_⟩
 .rw[w,List.Nodup,List.pairwise_map,List.pairwise_filterMap];refine U.imp_of_mem ?_;intro i j Q hj aa x u y z D;obtain⟨W,G⟩:=(T j).1 hj;obtain⟨h1,O,e⟩:=S j W Za
  rw[e]at G;have X:¬f s.l[j]=f s.l[j-1]:=by
   rcases G with h|h
   .omega
   simpa using h
  rw[ζd h1]at z;cases z;have I:i<s.l.length:=by omega
  rw[ζd I]at u;cases u;have J:=List.pairwise_iff_getElem.1 hs;have a1:=J (j-1) j O h1 Za
  refine X (wT _ _ a1 ?_)
  by_cases e2:i=j-1
  .subst e2;rw[<-D,vX];omega
  have Z:=J i (j-1) I O Za
  rw[D]at Z;exact Z
 .rw[w];simp only[List.mem_map,List.mem_filterMap];constructor
  .rintro⟨x,⟨i,_,u⟩,rfl⟩;exact⟨x,List.mem_of_getElem? u,rfl⟩
  rintro⟨x,u,rfl⟩;obtain⟨i,Q⟩:=List.mem_iff_getElem?.1 u;have key:∀(i:Nat) x,s.l[i]? = some x->∃y,(∃j,j∈K/\s.l[j]? = some y)/\f y=f x:=by
   intro i
   induction i with
   | zero=>intro x u;exact⟨x,⟨0,(T 0).2 ⟨(ζe.1 u).1,.inl rfl⟩,u⟩,rfl⟩
   | succ i ih=>
    intro x u;have L:=(ζe.1 u).1;obtain⟨h1,O,e⟩:=S (i+1) L Za
    have Y:s.l[i+1]=x:=(ζe.1 u).2
    by_cases hg:f s.l[i+1]=f s.l[i+1-1]
    .obtain⟨y,z,hf⟩:=ih _ (ζd (show i<s.l.length by omega))
     exact⟨y,z,by rw[hf,<-Y];exact hg.symm⟩
    exact⟨x,⟨i+1,(T _).2 ⟨L,.inr (by rw[e];simpa using hg)⟩,u⟩,rfl⟩
  exact key i x Q
 rw[w];exact Nat.le_trans (List.length_filterMap_le ..) C
theorem JG {a b:Sl Int} (J:a.l.length<1073741824):jm a b=some (fh a.l b.l):=by
 refine Wp.eq ?_;unfold jm eV eV.W1;rw[dJ];refine e9 a.l.length (λn s=>s=(n:Int)/\n<=b.l.length/\fh (a.l.drop n) (b.l.drop n)=fh a.l b.l) ⟨rfl,Nat.zero_le _,rfl⟩ ?_ ?_
 .rintro n _ w ⟨rfl,C,u⟩;unfold eV.bt;rw[iE w,bS,bL w,ζb];have I:a.l.drop n=a.l[n]::a.l.drop (n+1):=List.drop_eq_getElem_cons w
  by_cases D:n<b.l.length
  .have G:b.l.drop n=b.l[n]::b.l.drop (n+1):=List.drop_eq_getElem_cons D;rw[show decide ((n:Int)>=len b)=false from by simp[len];omega,bZ,bL D,ζb]
   rw[I,G]at u;simp only[fh]at u;generalize a.l[n]=x at *;generalize b.l[n]=y at *;have z:oV x y=some (if x<y then -1 else if x>y then 1 else 0):=by
    unfold oV qL;simp only[bne_self_eq_false,ζb,bZ,bS]
    by_cases h1:x<y
    .simp[h1,br]
    by_cases B:x>y
    .simp[h1,B,br]
    simp[h1,B,br]
   rw[z,ζb]
   by_cases h1:x<y
   .rw[if_pos h1]at u ⊢;rw[show ((-1:Int)==0)=false from rfl,bZ,a_];exact(a_ _).2 ((a_ _).2 u)
   rw[if_neg h1]at u ⊢
   by_cases B:x>y
   .rw[if_pos B]at u ⊢;rw[show ((1:Int)==0)=false from rfl,bZ,a_];exact(a_ _).2 ((a_ _).2 u)
   rw[if_neg B]at u ⊢;rw[show ((0:Int)==0)=true from rfl,bS,a_];exact⟨cK n Za,D,u⟩
  rw[show decide ((n:Int)>=len b)=true from by simp[len];omega,bS,a_]
  rw[I,List.drop_eq_nil_of_le (show b.l.length<=n by omega)]at u
  exact(a_ _).2 ((a_ _).2 u)
 rintro _ ⟨rfl,C,u⟩;unfold eV.bt;rw[iJ,bZ,a_];rw[List.drop_eq_nil_of_le (Nat.le_refl _)]at u
 by_cases h:a.l.length<b.l.length
 .rw[show decide (len a<len b)=true from by simp[len];omega,bS]
  rw[List.drop_eq_getElem_cons h]at u;exact(a_ _).2 ((a_ _).2 u)
 rw[show decide (len a<len b)=false from by simp[len];omega,bZ]
 rw[List.drop_eq_nil_of_le (show b.l.length<=a.l.length by omega)]at u
 exact(a_ _).2 ((a_ _).2 u)
theorem pe {a b:Sl Int} (D:a.l.length<1073741824):di a b=some (decide (a.l=b.l)):=by
 refine Wp.eq ?_;unfold di;rw[cn];refine⟨λh=>?_,λh=>(a_ _).2 ?_⟩
 .have h:(a.l.length:Int)=b.l.length:=by simpa [len]using h
  have h:a.l.length=b.l.length:=by omega
  unfold di.W1;refine e9 a.l.length (λn s=>s=(n:Int)/\∀i,i<n->a.l[i]? = b.l[i]?) ⟨rfl,λi h=>absurd h Za⟩ ?_ ?_
  .rintro n _ u ⟨rfl,z⟩;unfold di.bt;have B:n<b.l.length:=by omega
   rw[show decide ((n:Int)<len a)=true from iE u,bS,bL u,ζb,bL B,ζb,cn];refine⟨λw=>(a_ _).2 ⟨cK n Za,λi C=>?_⟩,λw=>(a_ _).2 ((a_ _).2 ?_)⟩
   .by_cases e:i=n
    .subst e;rw[ζd u,ζd B];simpa using w
    exact z i Za
   refine(decide_eq_false λe=>?_).symm
   have h1:a.l[n]? = b.l[n]? := by rw[e]
   rw[ζd u,ζd B]at h1;simp at w h1;exact w h1
  rintro _ ⟨rfl,z⟩;unfold di.bt;rw[iJ,bZ,a_];refine(a_ _).2 (decide_eq_true (List.ext_getElem? λi=>?_)).symm
  by_cases C:i<a.l.length
  .exact z i C
  rw[List.getElem?_eq_none Za,List.getElem?_eq_none Za]
 refine(decide_eq_false λe=>?_).symm
 simp[len,e]at h
section
variable {t:Trace} {A:bW 200 bC}
def tP (A:bW 200 bC) (e:Event):aZ:=if e.kind=3 then(ag A e.message).from_ else ⟨0,0⟩
structure QK (t:Trace) (A:bW 200 bC) (n:Nat) (m:cq):Prop where
 lens:m.lengths.l=(t.procs.l.take n).map λP=>(P.events.l.length:Int)
 need:m.need.l.map Sl.l=(t.procs.l.take n).map λP=>P.events.l.map (tP A)
theorem of_wp (Y:Small t) (hv:dO t=some true) (hV:VT t) (hM:fq t (bT t) A):Wp (jN t) (QK t A t.procs.l.length):=by
 have Z:=hV.few;unfold jN jN.W1;refine e9 t.procs.l.length (λn s=>s.1=(n:Int)/\s.2.1=t/\QK t A n s.2.2.2) ⟨rfl,rfl,rfl,rfl⟩ ?_ ?_
 .rintro n ⟨_,_,vb,I⟩ z ⟨h1,B,u⟩;simp only at h1 B u;subst h1;have B:=B.symm;subst B;unfold jN.bt;rw[iE z,bS,bL z,ζb];have O:=ζd z;have aa:=(Y.2 _ (List.getElem_mem z)).1;generalize ab:t.procs.l[n]=P at *;unfold jN.W2;refine e9 P.events.l.length (λk s=>s.2.1=(k:Int)/\s.2.2.1=t/\s.2.2.2.2=I/\s.1.l=(P.events.l.take k).map (tP A)) ⟨rfl,rfl,rfl,rfl⟩ ?_ ?_
  .rintro k ⟨nd,_,_,T,_⟩ hk ⟨Q,C,D,L⟩;simp only at Q C D L;subst Q;have C:=C.symm;have D:=D.symm;subst C D;unfold jN.bX;rw[iE hk,bS,bL hk,ζb];have U:kn t n k P.events.l[k]:=⟨P,O,ζd hk⟩;have G:P.events.l.take (k+1)=P.events.l.take k++[P.events.l[k]]:=by rw[List.take_add_one,ζd hk];rfl
   generalize P.events.l[k]=e at *;have fin:∀id,id=tP A e->Wp (jN.J3 nd t.procs (len t.procs) n P.events (len P.events) k t ⟨Sl.nil,Sl.nil⟩ I P id) λw=>match w with|.n S=>S.2.1=((k+1:Nat):Int)/\S.2.2.1=t/\S.2.2.2.2=I/\S.1.l=(P.events.l.take (k+1)).map (tP A)|.x e=>False|.r b=>False:=λid W=>by
    unfold jN.J3;obtain⟨r,h8,h9⟩:=jO (s:=nd) (x:=id) (by rw[L];simp;omega)
    rw[h8,ζb,a_];exact⟨cK k Za,rfl,rfl,by rw[h9,L,G,List.map_append,W];rfl⟩
   rw[cn];constructor
   .intro u;have u:e.kind=3:=by simpa using u
    obtain⟨q,j,y,hy,y1,y2,y3,y4,y5⟩:=ye hV hM U u;have X:=Ef Y hv hM (eu.2 ⟨q,j,hy,rfl⟩:((⟨q,j+1⟩:aZ),y)∈bT t) y1;simp only at X;rw[y2]at X;rw[X,ζb];refine(fin _ (by unfold tP;rw[if_pos u,y5])).mono λw J=>?_
    cases w with
    | n s=>exact J
    | x e=>exact J.elim
    | r b=>exact J.elim
   intro u;have u:¬e.kind=3:=by simpa using u
   refine(fin _ (by unfold tP;rw[if_neg u])).mono λw J=>?_
   cases w with
   | n s=>exact J
   | x e=>exact J.elim
   | r b=>exact J.elim
  rintro⟨nd,_,_,T,_⟩ ⟨Q,C,D,L⟩;simp only at Q C D L;subst Q;have C:=C.symm;have D:=D.symm;subst C D;unfold jN.bX;have ad:I.lengths.l.length=n:=by rw[u.lens];simp;omega
  have ae:I.need.l.length=n:=by have:=congrArg List.length u.need;simp at this;omega
  obtain⟨x1,a1,a2⟩:=jO (s:=I.lengths) (x:=len P.events) Za
  obtain⟨x2,b1,b2⟩:=jO (s:=I.need) (x:=nd) Za
  rw[iJ,bZ,a_];simp only;rw[a1,ζb,b1,ζb,a_];have G:t.procs.l.take (n+1)=t.procs.l.take n++[P]:=by rw[List.take_add_one,O];rfl
  refine⟨cK n Za,rfl,?_,?_⟩
  .show x1.l=_;rw[a2,u.lens,G,List.map_append];rfl
  show x2.l.map Sl.l=_;rw[b2,List.map_append,u.need,G,List.map_append,List.map_cons,L,List.take_length];rfl
 rintro⟨_,_,vb,I⟩ ⟨h1,B,u⟩;simp only at h1 B u;subst h1;have B:=B.symm;subst B;unfold jN.bt;rw[iJ,bZ,a_];exact(a_ _).2 u
theorem NG (hV:VT t) (hM:fq t (bT t) A) {m:cq} (hm:QK t A t.procs.l.length m) {c:Sl Int} (D:Cons t A c.l) {p:Nat} (hp:p<t.procs.l.length) :
 Wp (n_ m c p) λb=>(b=true↔∃a,c.l[p]? = some a/\Cons t A (c.l.set p (a+1))):=by
 have ab:=D.1.1;have u:=ζd hp;obtain⟨a,w⟩:=D.1.at_ hp;have hr:=D.1.2 p a _ w u;generalize t.procs.l[p]=P at *;have G:m.lengths.l[p]? = some (P.events.l.length:Int):=by rw[hm.lens,List.take_length,List.getElem?_map,u];rfl
 have L:=(ζe.1 w).1;have O:idx c (p:Int)=some a:=by rw[nE];exact w
 unfold n_;rw[O,ζb,nE,G,ζb,cn];constructor
 .intro h;have h:a=P.events.l.length:=by simpa using h
  refine(a_ _).2 ⟨λh=>(by cases h),λ⟨b,B,S⟩=>?_⟩
  rw[w]at B;cases B;have:=S.1.2 p (a+1) P (by simp[L]) u
  omega
 intro h;have h:¬a=P.events.l.length:=by simpa using h
 have T:a<P.events.l.length:=by omega
 have hn:=congrArg (λl=>l[p]?) hm.need
 simp only[List.take_length,List.getElem?_map,u,Option.map_some]at hn;obtain⟨nd,U,W⟩:=ζf.1 hn;have z:a.toNat<P.events.l.length:=by omega
 have hx:idx nd a=some (tP A P.events.l[a.toNat]):=by
  rw[KX hr.1,W,List.getElem?_map,ζd z];rfl
 rw[nE,U,ζb,ζb,hx,ζb];have X:=D.up hV hM u w T;have I:(∃b,c.l[p]? = some b/\Cons t A (c.l.set p (b+1)))↔KC t A c.l p:=by
  rw[X];exact⟨λ⟨b,B,k⟩=>by rw[w]at B;cases B;exact k,λk=>⟨a,w,k⟩⟩
 rw[I];have Y:kn t p a.toNat P.events.l[a.toNat]:=⟨P,u,ζd z⟩;have Z:KC t A c.l p↔(P.events.l[a.toNat].kind=3->∃b,c.l[(ag A P.events.l[a.toNat].message).from_.proc.toNat]? = some b/\(ag A P.events.l[a.toNat].message).from_.index<=b):=
  ⟨λ⟨Q,e,x,h1,h2,C,h4⟩=>by rw[u]at h1;cases h1;rw[w]at h2;cases h2;rw[ζd z]at C;cases C;exact h4,λh=>⟨P,_,a,u,w,ζd z,h⟩⟩
 rw[Z];generalize P.events.l[a.toNat]=e at *;unfold tP
 by_cases C:e.kind=3
 .rw[if_pos C];obtain⟨q,j,f1,_,_,y,Q,hQ,_⟩:=vh hV hM Y C;have hq:q<c.l.length:=by have:=(ζe.1 hQ).1;omega
  rw[f1];simp only[Int.toNat_natCast];rw[bL hq,ζb,a_];simp only[decide_eq_true_eq];exact⟨λh _=>⟨_,ζd hq,h⟩,λh=>by obtain⟨b,B,aa⟩:=h C;rw[ζd hq]at B;cases B;exact aa⟩
 rw[if_neg C];have h0:0<c.l.length:=by omega
 have J:=D.1.pos 0 _ (ζd h0);have hi:idx c ((⟨0,0⟩:aZ).proc)=some c.l[0]:=bL (s:=c) (i:=0) h0;rw[hi,ζb,a_];exact⟨λ_ h=>absurd h C,λ_=>by simpa using J⟩
end
theorem EF {α:Type}:∀l:List α,(List.range l.length).filterMap (l[·]?)=l
 | []=>rfl
 | x::l=>by
  rw[List.length_cons,List.range_succ_eq_map,List.filterMap_cons,List.filterMap_map];show x::(List.range l.length).filterMap (λi=>(x::l)[i+1]?)=_
  simp only[List.getElem?_cons_succ];rw[EF l]
theorem Sk {α:Type} {s r:Sl α} {p:α->α->Option Bool} (h:wB s p=some r):r.l.Sublist s.l:=by
 unfold wB at h;split at h
 .cases h;have key:((kept (λi=>(sD s.l p i).getD false) s.l.length).filterMap (s.l[·]?)).Sublist s.l:=by
   have e:=EF s.l
   conv=>rhs;rw[<-e]
   exact List.Sublist.filterMap _ (by unfold kept;exact List.filter_sublist)
  generalize (kept (λi=>(sD s.l p i).getD false) s.l.length).filterMap (s.l[·]?)=y at *
  cases s <;> first|exact key|(simp[Sl.rM,Sl.l])
 cases h
theorem Br {c:Sl Int} (B:c.l.length<=1073741824) (h0:0<c.l.length):∃d,(ki c).bind Sl.whole=some d/\d.l=c.l:=by
 unfold ki;have key:((nH (Sl.row []:Sl Int) c).bind λx=>some x).bind Sl.whole=some (.row ([]++c.l)):=by
  unfold nH;rw[if_neg (λh=>by rw[h]at h0;simp at h0),if_pos (show (Sl.row ([]:List Int)).l.length+c.l.length<=2147483648 from show 0+c.l.length<=_ by omega)];rfl
 cases c with
 | nil=>simp[Sl.l]at h0
 | emp=>simp[Sl.l]at h0
 | part l=>exact⟨_,key,rfl⟩
 | row l=>exact⟨_,key,rfl⟩
section
variable {t:Trace} {A:bW 200 bC}
theorem Ox (hS:Small t) (U:VT t) (hM:fq t (bT t) A) {m:cq} (hm:QK t A t.procs.l.length m) {k:Nat} {B:Sl (Sl Int)} (Y:yD t A k B) (hl:B.l.length<=5000) :
 Wp (eD m B) λr=>yD t A (k+1) r/\(ins r).Nodup/\r.l.length<=40000/\(ins r).Pairwise λx y=>¬fh y x<0:=by
 have ae:=U.few;unfold eD eD.W1;refine e9 B.l.length (λn s=>s.2.1=len B/\s.2.2=(n:Int)/\s.1.l.length<=8*n/\∀d,d∈ins s.1↔∃c∈(B.l.take n).map Sl.l,Bd t A c d) ⟨rfl,rfl,Nat.zero_le _,λd=>by simp[ins,Sl.l]⟩ ?_ ?_
 .rintro n ⟨out,_,_⟩ w ⟨e1,e2,g1,g2⟩;simp only at e1 e2 g1 g2;subst e1 e2;have L:=(Y B.l[n].l).1 (jQ.2 ⟨_,List.getElem_mem w,rfl⟩);unfold eD.bt;rw[iE w,bS,bL w,ζb];have O:∀d,d∈(B.l.take (n+1)).map Sl.l↔d∈(B.l.take n).map Sl.l\/d=B.l[n].l:=λd=>vi w
  generalize B.l[n]=c at *;have af:=L.1.1.1;have ab:=U.ok.one;unfold eD.W2;refine e9 c.l.length (λj s=>s.2=(j:Int)/\s.1.l.length<=8*n+j/\∀d,d∈ins s.1↔d∈ins out\/∃(p:Nat) (a:Int),p<j/\c.l[p]? = some a/\d=c.l.set p (a+1)/\Cons t A d) ⟨rfl,g1,λd=>⟨.inl,λh=>h.elim id λ⟨p,a,h,_⟩=>absurd h Za⟩⟩ ?_ ?_
  .rintro j ⟨o2,_⟩ T ⟨e,f1,f2⟩;simp only at e f1 f2;subst e;unfold eD.bX;rw[show decide ((j:Int)<len c)=true from iE T,bS,dJ];refine(NG U hM hm L.1 (p:=j) Za).mono λb hb=>?_
   have u:=ζd T;have hr:=L.1.1.2 j _ _ u (ζd (show j<t.procs.l.length by omega))
   have ah:=(hS.2 _ (List.getElem_mem (show j<t.procs.l.length by omega))).1
   generalize c.l[j]=a at *;have more:∀o3:Sl (Sl Int),(∀d,d∈ins o3↔d∈ins o2\/d=c.l.set j (a+1)/\Cons t A d)->∀d,d∈ins o3↔d∈ins out\/∃(p:Nat) (a:Int),p<j+1/\c.l[p]? = some a/\d=c.l.set p (a+1)/\Cons t A d:=λo3 h d=>by
    rw[h,f2];constructor
    .rintro ((h|⟨p,b,h,k⟩)|⟨h,k⟩)
     .exact .inl h
     .exact .inr ⟨p,b,by omega,k⟩
     exact .inr ⟨j,a,by omega,u,h,k⟩
    rintro (h|⟨p,b,h,k1,k2,k3⟩)
    .exact .inl (.inl h)
    by_cases e:p=j
    .subst e;rw[u]at k1;cases k1;exact .inr ⟨k2,k3⟩
    exact .inl (.inr ⟨p,b,by omega,k1,k2,k3⟩)
   rw[cn];constructor
   .intro ht;obtain⟨x,C,X⟩:=hb.1 ht;rw[u]at C;cases C;obtain⟨d,hd,z⟩:=Br (c:=c) Za Za
    obtain⟨d2,Z,Q⟩:=put_eq (s:=d) (p:=j) (x:=a+1) (by rw[z];exact T)
    obtain⟨o3,aa,D⟩:=jO (s:=o2) (x:=d2) Za
    have hg:Sl.get d j=some a:=by unfold Sl.get;rw[z];exact u
    rw[hd,ζb,tK (by rw[z];exact T),ζb,hg,ζb,ζb,jX _ Za Za,Z,ζb,aa,ζb,a_]
    refine⟨cK j Za,by rw[D];simp;omega,more o3 λe=>?_⟩
    rw[Ai D,Q,z];exact⟨λh=>h.elim .inl λh=>.inr ⟨h,by rw[h];exact X⟩,λh=>h.elim .inl λh=>.inr h.1⟩
   intro hf;refine(a_ _).2 ⟨cK j Za,Nat.le_succ_of_le f1,more o2 λd=>⟨.inl,λh=>h.elim id λ⟨h1,W⟩=>?_⟩⟩
   rw[hb.2 ⟨a,u,by rw[<-h1];exact W⟩]at hf;cases hf
  rintro⟨o2,_⟩ ⟨e,f1,f2⟩;simp only at e f1 f2;subst e;unfold eD.bX;rw[iJ,bZ,a_];refine(a_ _).2 ⟨rfl,cK n Za,show o2.l.length<=_ by omega,λd=>?_⟩
  rw[f2];constructor
  .rintro (h|⟨p,a,_,h⟩)
   .obtain⟨c',hc,G⟩:=(g2 d).1 h;exact⟨c',(O c').2 (.inl hc),G⟩
   exact⟨_,(O _).2 (.inr rfl),p,a,h⟩
  rintro⟨c',hc,G⟩;rcases (O c').1 hc with h|h
  .exact .inl ((g2 d).2 ⟨c',h,G⟩)
  subst h;obtain⟨p,a,h⟩:=G;exact .inr ⟨p,a,(ζe.1 h.1).1,h⟩
 rintro⟨out,_,_⟩ ⟨e1,e2,g1,g2⟩;simp only at e1 e2 g1 g2;subst e1 e2;unfold eD.bt;rw[iJ,bZ,a_];simp only;have I:yD t A (k+1) out:=λd=>by
  rw[g2,List.take_length,<-Bd.iff U hM (k:=k)];exact⟨λ⟨c,hc,G⟩=>⟨c,(Y c).1 hc,G⟩,λ⟨c,hc,G⟩=>⟨c,(Y c).2 hc,G⟩⟩
 have J:∀s:Sl (Sl Int),(∀d,d∈ins s↔d∈ins out)->∀x∈s.l,x.l.length<1073741824:=λs h x C=>by
  have:=((I x.l).1 ((h x.l).1 (jQ.2 ⟨x,C,rfl⟩))).1.1.1;omega
 obtain⟨r1,h1,p1,s1⟩:=PO (s:=out) (p:=jm) (f:=Sl.l) (λx y C _=>JG (J out (λ_=>Iff.rfl) x C)) Za
 have S:∀d,d∈ins r1↔d∈ins out:=λd=>(p1.map Sl.l).mem_iff
 have ad:r1.l.length=out.l.length:=p1.length_eq;obtain⟨r2,W,nd,m2,l2⟩:=O5 (s:=r1) (p:=kH) (f:=Sl.l) (λx y C _=>by unfold kH;rw[pe (J r1 S x C)];rfl) Za s1
 rw[h1,ζb,W,ζb,a_];exact⟨λd=>(m2 d).trans ((S d).trans (I d)),nd,by omega,by unfold ins;rw[List.pairwise_map];exact s1.sublist (Sk W)⟩
end
theorem ER {c:Sl Int} (h:Da c.l):gm c=some c.l.sum:=by
 refine Wp.eq ?_;have w:=h.1;unfold gm gm.W1;refine e9 c.l.length (λi (q:Int×Int)=>q.2=(i:Int)/\q.1=(c.l.take i).sum) ⟨rfl,rfl⟩ ?_ ?_
 .rintro i ⟨m,_⟩ u ⟨e,h1⟩;simp only at e h1;subst e;subst h1;unfold gm.bt;rw[iE u,bS,bL u,ζb,a_];have k:=OZ h (i+1);rw[FJ u]at k;exact⟨cK i Za,by rw[FJ u];exact jX _ Za Za⟩
 rintro⟨m,_⟩ ⟨e,h1⟩;simp only at e h1;subst e;subst h1;unfold gm.bt;rw[iJ,bZ,a_];exact(a_ _).2 (by rw[List.take_length])
theorem Ia {a b:Sl Int} (B:Da a.l) (D:Da b.l) (G:a.l.length=b.l.length):gG a b=some (decide (ec a.l b.l)):=by
 have C:=B.1;unfold gG;rw[ER B,ζb,ER D,ζb]
 by_cases e:a.l.sum=b.l.sum
 .rw[show (a.l.sum==b.l.sum)=true from by simpa using e,bS]
  refine Wp.eq ?_;unfold gG.W1;refine e9 a.l.length (λi (q:Int)=>q=(i:Int)/\fh (a.l.drop i) (b.l.drop i)=fh a.l b.l) ⟨rfl,rfl⟩ ?_ ?_
  .rintro i _ w ⟨rfl,h⟩;have u:i<b.l.length:=by omega
   unfold gG.bt;rw[iE w,bS,bL w,ζb,bL u,ζb];rw[Mq w u]at h
   by_cases e2:a.l[i]=b.l[i]
   .rw[show (a.l[i]==b.l[i])=true from by simpa using e2,bS,a_]
    rw[if_neg Za,if_neg Za]at h
    exact⟨cK i Za,h⟩
   rw[show (a.l[i]==b.l[i])=false from by simpa using e2,bZ,ζb,ζb,a_]
   refine(a_ _).2 ?_;have z:decide (ec a.l b.l)=decide (fh a.l b.l<0):=decide_eq_decide.2 (ec.GZ e);rw[z]
   by_cases k:a.l[i]<b.l[i]
   .rw[if_pos k]at h;rw[<-h];simp[k]
   rw[if_neg k,if_pos Za]at h;rw[<-h];simp[k]
  rintro _ ⟨rfl,h⟩;unfold gG.bt;rw[iJ,bZ,a_];refine(a_ _).2 ?_;have z:decide (ec a.l b.l)=decide (fh a.l b.l<0):=decide_eq_decide.2 (ec.GZ e);rw[z];rw[List.drop_of_length_le (Nat.le_refl _),List.drop_of_length_le Za]at h
  rw[<-h];rfl
 rw[show (a.l.sum==b.l.sum)=false from by simpa using e,bZ,ζb,ζb]
 congr 1
 refine decide_eq_decide.2 ?_;unfold ec Dv
 by_cases k:a.l.sum<b.l.sum
 .simp[fh,k]
 simp[fh,k,show a.l.sum>b.l.sum by omega]
theorem L5 {a b:Sl Int} (D:a.l.length<1073741824):e_ a b=some (decide (a.l=b.l)):=by
 refine Wp.eq ?_;unfold e_;rw[cn];refine⟨λh=>?_,λh=>(a_ _).2 ?_⟩
 .have h:(a.l.length:Int)=b.l.length:=by simpa [len]using h
  have h:a.l.length=b.l.length:=by omega
  unfold e_.W1;refine e9 a.l.length (λn s=>s=(n:Int)/\∀i,i<n->a.l[i]? = b.l[i]?) ⟨rfl,λi h=>absurd h Za⟩ ?_ ?_
  .rintro n _ u ⟨rfl,z⟩;unfold e_.bt;have B:n<b.l.length:=by omega
   rw[iE u,bS,bL u,ζb,bL B,ζb,cn];refine⟨λw=>(a_ _).2 ⟨cK n Za,λi C=>?_⟩,λw=>(a_ _).2 ((a_ _).2 ?_)⟩
   .by_cases e:i=n
    .subst e;rw[ζd u,ζd B];simpa using w
    exact z i Za
   refine(decide_eq_false λe=>?_).symm
   have h1:a.l[n]? = b.l[n]? := by rw[e]
   rw[ζd u,ζd B]at h1;simp at w h1;exact w h1
  rintro _ ⟨rfl,z⟩;unfold e_.bt;rw[iJ,bZ,a_];refine(a_ _).2 (decide_eq_true (List.ext_getElem? λi=>?_)).symm
  by_cases C:i<a.l.length
  .exact z i C
  rw[List.getElem?_eq_none Za,List.getElem?_eq_none Za]
 refine(decide_eq_false λe=>?_).symm
 simp[len,e]at h
theorem fQ (s:Sl (Sl Int)):(ins s).length=s.l.length:=by unfold ins;simp
theorem RH (s:Sl (Sl Int)) (i:Nat):(ins s)[i]? = (s.l[i]?).map Sl.l:=by unfold ins;rw[List.getElem?_map]
theorem kG {s:Sl (Sl Int)} {i:Nat} (h:i<s.l.length):(ins s)[i]? = some s.l[i].l:=by rw[RH,ζd h];rfl
theorem H9 {l:Sl (Sl Int)} {c:Sl Int} (Y:∀x∈l.l,Da x.l/\x.l.length=c.l.length) (hc:Da c.l) (hl:l.l.length<1073741824) (hs:(ins l).Pairwise ec) :
 Wp (gE l c) λr=>r.l.length<=l.l.length+1/\(ins r).Pairwise ec/\∀d,d∈ins r↔d∈ins l\/d=c.l:=by
 have Z:=hc.1;have post:∀n:Nat,n<=l.l.length->(∀(i:Nat) x,i<n->(ins l)[i]? = some x->ec x c.l)->(∀x,(ins l)[n]? = some x->¬ec x c.l) ->
  Wp ((br (decide ((n:Int)<(len l))) ((idx l n).bind λO=>(e_ O c).bind λQ=>some Q) (some false):Option Bool).bind λS=>
  br S (some l) ((fS l none (some (n:Int))).bind λB=>(nH (Sl.row []:Sl (Sl Int)) B).bind λC=>(gw C (c:Sl Int)).bind λD=>(fS l (some (n:Int)) none).bind λG=>(nH D G).bind λI=>some I))
  λr=>r.l.length<=l.l.length+1/\(ins r).Pairwise ec/\∀d,d∈ins r↔d∈ins l\/d=c.l:=by
  intro n J T U;have z:(∀x,(ins l)[n]? = some x->x≠c.l)->Wp ((fS l none (some (n:Int))).bind λB=>(nH (Sl.row []:Sl (Sl Int)) B).bind λC=>(gw C (c:Sl Int)).bind λD=>(fS l (some (n:Int)) none).bind λG=>(nH D G).bind λI=>some I) λr=>r.l.length<=l.l.length+1/\(ins r).Pairwise ec/\∀d,d∈ins r↔d∈ins l\/d=c.l:=by
   intro W;obtain⟨x4,h4,e4⟩:=tO l n J;have aa:x4.l.length<=l.l.length:=by rw[e4,List.length_take];omega
   obtain⟨x5,h5,e5⟩:=wS (s:=(Sl.row []:Sl (Sl Int))) (x:=x4) (show 0+x4.l.length<=_ by omega)
   have e5:x5.l=x4.l:=e5;obtain⟨x6,h6,e6⟩:=jO (s:=x5) (x:=c) (by rw[e5];omega)
   obtain⟨x7,h7,e7⟩:=AU l n J;obtain⟨x8,Z,e8⟩:=wS (s:=x6) (x:=x7) (by rw[e6,e7,e5,ζi,List.length_drop,List.length_singleton];omega)
   rw[h4,ζb,h5,ζb,h6,ζb,h7,ζb,Z,ζb,a_];have e:x8.l=l.l.take n++[c]++l.l.drop n:=by rw[e8,e6,e7,e5,e4]
   have ei:ins x8=(ins l).take n++[c.l]++(ins l).drop n:=by unfold ins;rw[e];simp[List.map_take,List.map_drop]
   obtain⟨s1,s2⟩:=K0 hs T λx u=>by
    by_cases k:ec c.l x
    .exact k
    exact absurd (ec.tot k (U x u)).symm (W x u)
   exact⟨by rw[e];simp;omega,by rw[ei];exact s1,λd=>by rw[ei];exact s2 d⟩
  by_cases h:n<l.l.length
  .rw[iE h,bS,bL h,ζb,L5 (by have:=(Y _ (List.getElem_mem h)).1.1;omega),ζb,ζb]
   by_cases e:l.l[n].l=c.l
   .rw[decide_eq_true e,bS,a_];refine⟨by omega,hs,λd=>⟨.inl,λX=>X.elim id λX=>?_⟩⟩
    rw[X,<-e];exact jQ.2 ⟨_,List.getElem_mem h,rfl⟩
   rw[decide_eq_false e,bZ];exact z λx u=>by rw[kG h]at u;cases u;exact e
  rw[show (n:Int)=(l.l.length:Nat)from by omega,iJ,bZ,ζb,bZ,<-show (n:Int)=(l.l.length:Nat)from by omega]
  exact z λx u=>by have:=(ζe.1 u).1;rw[fQ]at this;omega
 unfold gE gE.W1;refine e9 l.l.length (λn s=>s=(n:Int)/\∀(i:Nat) x,i<n->(ins l)[i]? = some x->ec x c.l) ⟨rfl,λi x h=>absurd h Za⟩ ?_ ?_
 .rintro n _ w ⟨rfl,L⟩;obtain⟨q1,q2⟩:=Y _ (List.getElem_mem w);unfold gE.bt;rw[iE w,bS,bL w,ζb,Ia q1 hc q2,ζb,ζb]
  by_cases e:ec l.l[n].l c.l
  .rw[decide_eq_true e,bS,a_];refine⟨cK n Za,λi x hi u=>?_⟩
   by_cases e2:i=n
   .subst e2;rw[kG w]at u;cases u;exact e
   exact L i x Za u
  rw[decide_eq_false e,bZ,a_];exact post n Za L λx u=>by rw[kG w]at u;cases u;exact e
 rintro _ ⟨rfl,L⟩;unfold gE.bt;rw[iJ,bZ,ζb,bZ,a_];exact post _ (Nat.le_refl _) L λx u=>by have:=(ζe.1 u).1;rw[fQ]at this;omega
section
variable {t:Trace} {A:bW 200 bC}
structure dV (t:Trace) (A:bW 200 bC) (L:List (List Int)):Prop where
 srt:L.Pairwise ec
 mem:∀d,d∈L↔Cons t A d
def Ac (t:Trace) (A:bW 200 bC):Prop:=∃L:List (List Int),L.Nodup/\(∀d∈L,Cons t A d)/\5000<L.length
theorem dV.one {L R:List (List Int)} (h:dV t A L) (k:dV t A R):L=R:=CB h.srt k.srt λx=>(h.mem x).trans (k.mem x).symm
theorem dV.not {L:List (List Int)} (h:dV t A L) (B:L.length<=5000) (k:Ac t A):False:=by
 obtain⟨R,nd,w,u⟩:=k;have:=Bj nd λx z=>(h.mem x).2 (w x z)
 omega
theorem D8 {k:Nat} {o l:List (List Int)} (h1:∀d,d∈l↔Cons t A d/\d.sum=(k:Int)) (D:l.Pairwise ec) (G:o.Pairwise ec) (B:∀d,d∈o↔Cons t A d/\d.sum<(k:Int)) :
 (o++l).Pairwise ec/\∀d,d∈o++l↔Cons t A d/\d.sum<((k+1:Nat):Int):=by
 refine⟨List.pairwise_append.2 ⟨G,D,λa w b z=>ec.sum (by have:=((B a).1 w).2;have:=((h1 b).1 z).2;omega)⟩,λd=>?_⟩
 rw[List.mem_append,B,h1];constructor
 .rintro (⟨h,k1⟩|⟨h,k1⟩)
  .exact⟨h,by omega⟩
  exact⟨h,by omega⟩
 rintro⟨h,k1⟩
 by_cases u:d.sum<(k:Int)
 .exact .inl ⟨h,u⟩
 exact .inr ⟨h,by omega⟩
theorem LG (hS:Small t) (O:VT t) (hM:fq t (bT t) A):Wp (dP t) λr=>(r.2=true/\dV t A (ins r.1)/\r.1.l.length<=5000)\/(r.2=false/\r.1=.nil/\Ac t A):=by
 have ab:=O.few;unfold dP mP;rw[if_pos ⟨by simp[len],by simp[len];omega⟩,ζb]
 unfold dP.W1;have fin:∀(k:Nat) (u out:Sl (Sl Int)),yD t A k u->u.l.length=0->(ins out).Pairwise ec->(∀d,d∈ins out↔Cons t A d/\d.sum<(k:Int))->dV t A (ins out):=λk u out h1 L G Q=>
  ⟨G,λd=>(Q d).trans ⟨λh=>h.1,λh=>⟨h,h1.none O hM L h⟩⟩⟩
 refine e9 (qO t+1) (λk s=>yD t A k s.1/\(ins s.1).Pairwise ec/\(ins s.2).Pairwise ec/\(∀d,d∈ins s.2↔Cons t A d/\d.sum<(k:Int))/\s.1.l.length<=40000/\s.2.l.length<=5000)
  ⟨JW (by simp[Sl.l,len]),by simp[ins,Sl.l],by simp[ins,Sl.l],λd=>⟨λh=>by simp[ins,Sl.l]at h,λh=>absurd (pO h.1.1.pos) (by have:=h.2;simp at this;omega)⟩,by simp[Sl.l],by simp[Sl.l]⟩ ?_ ?_
 .rintro k ⟨u,out⟩ hk ⟨h1,C,w,G,Q,S⟩;simp only at h1 C w G Q S;unfold dP.bt;rw[B8]
  by_cases L:u.l.length=0
  .rw[show (!decide (u.l.length=0))=false from by simp[L],bZ,a_]
   exact(a_ _).2 (.inl ⟨rfl,fin k u out h1 L w G,S⟩)
  rw[show (!decide (u.l.length=0))=true from by simp[L],bS]
  obtain⟨x,hx,T⟩:=wS (s:=out) (x:=u) Za
  have Z:ins x=ins out++ins u:=by unfold ins;rw[T];simp
  obtain⟨o1,o2⟩:=D8 h1 C w G;rw[<-Z]at o1 o2;rw[hx,ζb,cn];refine⟨λJ=>(a_ _).2 ((a_ _).2 (.inr ⟨rfl,rfl,ins x,ec.nodup o1,λd hd=>((o2 d).1 hd).1,?_⟩)),λJ=>?_⟩
  .rw[fQ];simp[len]at J;omega
  have J:x.l.length<=5000:=by simp[len]at J;omega
  have h6:u.l.length<=5000:=by rw[T,ζi]at J;omega
  have X:∀d,Cons t A d->Da d/\d.length=t.procs.l.length:=λd h=>⟨w8 hS O h,h.1.1⟩
  unfold dP.W2;refine e9 u.l.length (λn s=>s.2=(n:Int)/\s.1.l.length<=8*n/\(ins s.1).Pairwise ec/\∀d,d∈ins s.1↔∃c∈(u.l.take n).map Sl.l,Bd t A c d) ⟨rfl,Nat.zero_le _,by simp[ins,Sl.l],λd=>by simp[ins,Sl.l]⟩ ?_ ?_
  .rintro n ⟨more,_⟩ B ⟨e,g1,gs,g2⟩;simp only at e g1 gs g2;subst e;unfold dP.bX;have aa:=(h1 u.l[n].l).1 (jQ.2 ⟨_,List.getElem_mem B,rfl⟩);rw[iE B,bS,bL B,ζb,dJ];refine(Ra hS O hM aa.1).mono λnx Y=>?_
   unfold dP.W3;refine e9 nx.l.length (λm s=>s.2=(m:Int)/\s.1.l.length<=8*n+m/\(ins s.1).Pairwise ec/\∀d,d∈ins s.1↔d∈ins more\/d∈(nx.l.take m).map Sl.l) ⟨rfl,g1,gs,λd=>by simp⟩ ?_ ?_
   .rintro m ⟨mr,_⟩ D ⟨e,f1,fs,f2⟩;simp only at e f1 fs f2;subst e;unfold dP.dH;rw[iE D,bS,bL D,ζb,dJ];have hN:=(Y.2 nx.l[m].l).1 (jQ.2 ⟨_,List.getElem_mem D,rfl⟩);obtain⟨_,_,_,_,U⟩:=hN;refine(H9 (l:=mr) (c:=nx.l[m]) (λy hy=>?_) (X _ U).1 Za fs).mono λr hr=>?_
    .have W:Cons t A y.l:=by
      rcases (f2 y.l).1 (jQ.2 ⟨_,hy,rfl⟩)with h|h
      .obtain⟨_,_,p,a,_,_,k⟩:=(g2 y.l).1 h;exact k
      obtain⟨z,hz,e⟩:=List.mem_map.1 h;obtain⟨p,a,_,_,k⟩:=(Y.2 z.l).1 (jQ.2 ⟨_,List.mem_of_mem_take hz,rfl⟩);rw[<-e];exact k
     exact⟨(X _ W).1,(X _ W).2.trans (X _ U).2.symm⟩
    refine(a_ _).2 ⟨cK m Za,Nat.le_trans hr.1 Za,hr.2.1,λd=>?_⟩
    rw[hr.2.2,f2,vi D,or_assoc]
   rintro⟨mr,_⟩ ⟨e,f1,fs,f2⟩;simp only at e f1 fs f2;subst e;unfold dP.dH;rw[iJ,bZ,a_];refine(a_ _).2 ⟨cK n Za,show mr.l.length<=_ by omega,fs,λd=>?_⟩
   rw[f2,List.take_length];constructor
   .rintro (h|h)
    .obtain⟨c,hc,I⟩:=(g2 d).1 h;exact⟨c,(vi B).2 (.inl hc),I⟩
    exact⟨_,(vi B).2 (.inr rfl),(Y.2 d).1 h⟩
   rintro⟨c,hc,I⟩;rcases (vi B).1 hc with h|h
   .exact .inl ((g2 d).2 ⟨c,h,I⟩)
   subst h;exact .inr ((Y.2 d).2 I)
  rintro⟨more,_⟩ ⟨e,g1,gs,g2⟩;simp only at e g1 gs g2;subst e;unfold dP.bX;rw[iJ,bZ,a_];refine(a_ _).2 ⟨λd=>?_,gs,o1,o2,show more.l.length<=_ by omega,J⟩
  rw[g2,List.take_length,<-Bd.iff O hM (k:=k)];exact⟨λ⟨c,hc,I⟩=>⟨c,(h1 c).1 hc,I⟩,λ⟨c,hc,I⟩=>⟨c,(h1 c).2 hc,I⟩⟩
 rintro⟨u,out⟩ ⟨h1,C,w,G,Q,S⟩;simp only at h1 C w G Q S;unfold dP.bt;rw[B8,show (!decide (u.l.length=0))=false from by simp[h1.last],bZ,a_]
 exact(a_ _).2 (.inl ⟨rfl,fin _ u out h1 h1.last w G,S⟩)
theorem OV (B:VT t) (D:Small t):qO t<8589934600:=by
 have key:∀(l:List cu),(∀p∈l,p.events.l.length<1073741824)->(l.map λP=>P.events.l.length).sum<=1073741824*l.length:=by
  intro l
  induction l with
  | nil=>intro _;simp
  | cons x l u=>
   intro h;have h1:=h x Zc
   have w:=u λy z=>h y (List.mem_cons_of_mem _ z)
   simp only[List.map_cons,List.sum_cons,List.length_cons];omega
 have h1:=key t.procs.l λp C=>(D.2 p C).1
 have w:=B.few;unfold qO;omega
theorem Rb {k:Int} {L:List (List Int)} (nd:L.Nodup) (B:L.Pairwise λx y=>¬fh y x<0) (hk:∀d∈L,d.sum=k):L.Pairwise ec:=by
 refine(B.and nd).imp_of_mem λ{x y} u w h=>?_
 have e:x.sum=y.sum:=by rw[hk x u,hk y w]
 rw[ec.GZ e]
 by_cases q:fh x y<0
 .exact q
 exact absurd (wT _ _ q h.1) h.2
theorem Nd (U:Small t) (hv:dO t=some true) (G:VT t) (W:fq t (bT t) A) :
 Wp (lE t) λr=>(r.2=0/\dV t A (ins r.1)/\r.1.l.length<=5000)\/(r.2=16/\r.1=.nil/\Ac t A):=by
 have X:=G.few;have hT:=OV G U;unfold lE jC;rw[hv,ζb,bS,dJ,dJ];refine(of_wp U hv G W).mono λm Y=>?_
 unfold mP;rw[if_pos ⟨by simp[len],by simp[len];omega⟩,ζb]
 have fin:∀(k:Nat) (u:Sl (Sl Int)) (out:Sl (Sl (Sl Int))),yD t A k u->u.l.length=0->(out.l.flatMap ins).Pairwise ec->(∀d,d∈out.l.flatMap ins↔Cons t A d/\d.sum<(k:Int))->out.l.length<=5000->(out.l.flatMap ins).length<=5000 ->
  Wp ((fG out).bind λD=>some (D,(0:Int))) λr=>(r.2=0/\dV t A (ins r.1)/\r.1.l.length<=5000)\/(r.2=16/\r.1=.nil/\Ac t A):=λk u out h1 I C Z ho hf=>by
  have w:(out.l.flatMap Sl.l).map Sl.l=out.l.flatMap ins:=by rw[List.map_flatMap];rfl
  have hc:(zS out).l=out.l.flatMap Sl.l:=by
   unfold zS;split
   next h=>exact(List.length_eq_zero_iff.1 h).symm
   rfl
  unfold fG;rw[if_pos ⟨by omega,by rw[<-List.length_map (f:=Sl.l),w];omega⟩,ζb,a_]
  have e:ins (zS out)=out.l.flatMap ins:=by unfold ins at w ⊢;rw[hc];exact w
  refine .inl ⟨rfl,⟨by rw[e];exact C,λd=>by rw[e];exact(Z d).trans ⟨λh=>h.1,λh=>⟨h,h1.none G W I h⟩⟩⟩,?_⟩
  show (zS out).l.length<=5000;rw[hc,<-List.length_map (f:=Sl.l),w];exact hf
 unfold jC.W1;refine e9 (qO t+1) (λk s=>yD t A k s.1/\(ins s.1).Pairwise ec/\(s.2.1.l.flatMap ins).Pairwise ec/\(∀d,d∈s.2.1.l.flatMap ins↔Cons t A d/\d.sum<(k:Int))/\s.2.2=((s.2.1.l.flatMap ins).length:Int)/\s.2.1.l.length<=(s.2.1.l.flatMap ins).length/\(s.2.1.l.flatMap ins).length<=5000/\s.1.l.length<=40000)
  ⟨JW (by simp[Sl.l,len]),by simp[ins,Sl.l],by simp[Sl.l],λd=>⟨λh=>by simp[Sl.l]at h,λh=>absurd (pO h.1.1.pos) (by have:=h.2;simp at this;omega)⟩,by simp[Sl.l],by simp[Sl.l],by simp[Sl.l],by simp[Sl.l]⟩ ?_ ?_
 .rintro k ⟨u,out,tot⟩ hk ⟨h1,B,z,C,O,Q,J,S⟩;simp only at h1 B z C O Q J S;obtain⟨o1,o2⟩:=D8 h1 B z C;unfold jC.bt;rw[B8]
  by_cases I:u.l.length=0
  .rw[show (!decide (u.l.length=0))=false from by simp[I],bZ,a_]
   exact(a_ _).2 (fin k u out h1 I z C Za J)
  rw[show (!decide (u.l.length=0))=true from by simp[I],bS,O]
  have hw:IntKind.wrap .i64 (((out.l.flatMap ins).length:Int)+len u)=(((out.l.flatMap ins).length+u.l.length:Nat):Int):=by
   have e:len u=(u.l.length:Int):=rfl;rw[e,jX _ Za Za];omega
  rw[hw,cn];refine⟨λL=>(a_ _).2 ((a_ _).2 ?_),λL=>?_⟩
  .show Wp (((fG (Sl.nil:Sl (Sl (Sl Int)))).bind λD=>some (D,(16:Int)))) _
   have e0:fG (Sl.nil:Sl (Sl (Sl Int)))=some .nil:=by
    unfold fG;rfl
   rw[e0,ζb,a_];refine .inr ⟨rfl,rfl,out.l.flatMap ins++ins u,ec.nodup o1,λd T=>((o2 d).1 T).1,?_⟩
   have L:=of_decide_eq_true L;rw[ζi,fQ];omega
  have L:=of_decide_eq_false L;obtain⟨o3,g1,g2⟩:=jO (s:=out) (x:=u) Za
  rw[g1,ζb,dJ];refine(Ox U G W Y h1 Za).mono λr ⟨r1,r2,r3,r4⟩=>?_
  have w:o3.l.flatMap ins=out.l.flatMap ins++ins u:=by rw[g2];simp
  refine(a_ _).2 ⟨r1,Rb r2 r4 λd T=>((r1 d).1 T).2,by rw[w];exact o1,λd=>by rw[w];exact o2 d,by rw[w,ζi,fQ],?_,?_,r3⟩
  .show o3.l.length<=_;rw[w,ζi,fQ,g2,ζi,List.length_singleton];omega
  rw[w,ζi,fQ];omega
 rintro⟨u,out,tot⟩ ⟨h1,B,z,C,O,Q,J,S⟩;simp only at h1 B z C O Q J S;unfold jC.bt;rw[B8,show (!decide (u.l.length=0))=false from by simp[h1.last],bZ,a_]
 exact(a_ _).2 (fin _ u out h1 h1.last z C Za J)
theorem JN (B:Small t) (hv:dO t=some true) (D:VT t) (G:fq t (bT t) A) :
 (∃L r s,dV t A L/\L.length<=5000/\lE t=some (r,0)/\dP t=some (s,true)/\ins r=L/\ins s=L) \/
 (lE t=some (.nil,16)/\dP t=some (.nil,false)):=by
 obtain⟨⟨r,e⟩,hr,h1⟩:=Nd B hv D G;obtain⟨⟨s,b⟩,w,z⟩:=LG B D G;rcases h1 with⟨rfl,k1,k2⟩|⟨rfl,rfl,k1⟩
 .rcases z with⟨rfl,u,C⟩|⟨rfl,rfl,u⟩
  .exact .inl ⟨ins r,r,s,k1,by rw[fQ];exact k2,hr,w,rfl,u.one k1⟩
  exact(k1.not (by rw[fQ];exact k2) u).elim
 rcases z with⟨rfl,u,C⟩|⟨rfl,rfl,u⟩
 .exact(u.not (by rw[fQ];exact C) k1).elim
 exact .inr ⟨hr,w⟩
end
end Go.VE
namespace Go.VE
theorem Code.one {t:Trace} {A:bW 200 bC} {c:List Int} {r s:Int} (h:Code t A c r) (g:Code t A c s):r=s:=by
 rcases h with⟨h,rfl⟩|⟨h1,u,rfl⟩|⟨h1,u,rfl⟩|⟨h1,u,rfl⟩ <;> rcases g with⟨g,rfl⟩|⟨g1,g2,rfl⟩|⟨g1,g2,rfl⟩|⟨g1,g2,rfl⟩ <;> first|rfl|contradiction|exact absurd ‹o6 t c›.1 ‹_›
section
variable {t:Trace} {A:bW 200 bC}
end
section
variable {t:Trace} {A:bW 200 bC}
end
section
variable {t:Trace} {A:bW 200 bC}
end
section
variable {t:Trace} {A:bW 200 bC}
theorem Lv (D:VT t) {p:Nat} {P:cu} (B:t.procs.l[p]? = some P):P.events.l.length<=64:=by
 have h:=D.ok.heads p (ζe.1 B).1;unfold rK at h;rw[B]at h;simp only at h;split at h
 .split at h
  .cases h
  split at h
  .split at h
   .cases h
   omega
  rename_i u;exact absurd h u
 cases h
end
abbrev jY (m:Option Bool) (P:Prop):Prop:=Wp m λb=>(b=true↔P)
theorem jY.eq {m:Option Bool} {P:Prop} (h:jY m P):∃b,m=some b/\(b=true↔P):=h
theorem jY.iff {m:Option Bool} {P Q:Prop} (h:jY m P) (e:P↔Q):jY m Q:=h.mono λb u=>u.trans e
theorem Ae {b:Bool} {P:Prop} (h:b=true↔P):jY (some b) P:=(a_ _).2 h
theorem jY.some {m:Option Bool} {P:Prop} (h:jY m P):jY (m.bind λx=>Option.some x) P:=by
 obtain⟨b,u,h⟩:=h;rw[u];exact Ae h
theorem jY.same {m n:Option Bool} {P:Prop} (h:jY m P) (k:jY n P):∃b,m=Option.some b/\n=Option.some b/\(b=true↔P):=by
 obtain⟨b,u,h⟩:=h;obtain⟨d,w,k⟩:=k;have:b=d:=by rw[Bool.eq_iff_iff,h,k]
 subst this;exact⟨b,u,w,h⟩
theorem jY.and {m n:Option Bool} {P Q:Prop} (h:jY m P) (k:P->jY n Q) {f:Bool->Option Bool} (B:∀b,f b=br b (n.bind λx=>Option.some x) (Option.some false)):jY (m.bind f) (P/\Q):=by
 obtain⟨b,u,h⟩:=h;rw[u,ζb,B]
 cases b with
 | true=>exact((k (h.1 rfl)).some).iff ⟨λq=>⟨h.1 rfl,q⟩,λq=>q.2⟩
 | false=>exact Ae ⟨λe=>(nomatch e),λq=>(h.2 q.1).symm▸rfl⟩
theorem OJ {step:Int->Option (Fw Int Unit Unit)} {n:Nat} {P:Nat->Prop} (h:∀i,i<n->(∀j,j<i->P j)->Wp (step (i:Int)) λw=>P i/\w=.n ((i+1:Nat):Int)\/¬P i/\w=.r ()) (B:(∀j,j<n->P j)->step (n:Int)=some (.x ())) :
 Wp (bR step 0) λw=>(∀i,i<n->P i)/\w=.x ()\/(¬∀i,i<n->P i)/\w=.r ():=by
 have key:∀m k,k+m=n->(∀j,j<k->P j)->Wp (bR step (k:Int)) λw=>(∀i,i<n->P i)/\w=.x ()\/(¬∀i,i<n->P i)/\w=.r ():=by
  intro m
  induction m with
  | zero=>
   intro k hk u;have:k=n:=by omega
   subst this;rw[gX,B u,ζb];exact(a_ _).2 (.inl ⟨u,rfl⟩)
  | succ m C=>
   intro k hk u;rw[gX,dJ];refine(h k Za u).mono ?_
   rintro w (⟨h1,rfl⟩|⟨h1,rfl⟩)
   .exact C (k+1) Za λj z=>by
     rcases Nat.lt_or_eq_of_le (Nat.lt_succ_iff.1 z)with z|rfl
     .exact u j z
     exact h1
   exact(a_ _).2 (.inr ⟨λk2=>h1 (k2 k Za),rfl⟩)
 exact key n 0 Za λj z=>absurd z Za
theorem L_ {step:Int->Option (Fw Int Unit Unit)} {n:Nat} {P:Nat->Prop} (h:∀i,i<n->(∀j,j<i->P j)->Wp (step (i:Int)) λw=>P i/\w=.n ((i+1:Nat):Int)\/¬P i/\w=.r ()) (B:(∀j,j<n->P j)->step (n:Int)=some (.x ())) :
 jY ((bR step 0).bind (Fw.elim (λ_=>some true) (λ_=>some false))) (∀i,i<n->P i):=by
 rw[jY,dJ];refine(OJ h B).mono ?_;rintro w (⟨h1,rfl⟩|⟨h1,rfl⟩)
 .exact Ae ⟨λ_=>h1,λ_=>rfl⟩
 exact Ae ⟨λe=>(nomatch e),λu=>absurd u h1⟩
theorem Lr {b:Bool} {P:Prop} {n:Int} {k:Nat} (h:b=true↔¬P) (B:n=((k+1:Nat):Int)):Wp (br b (some (.r ())) (some (.n n))) λw:Fw Int Unit Unit=>P/\w=.n ((k+1:Nat):Int)\/¬P/\w=.r ():=by
 cases b with
 | true=>exact(a_ _).2 (.inr ⟨h.1 rfl,rfl⟩)
 | false=>exact(a_ _).2 (.inl ⟨Classical.byContradiction λq=>(nomatch h.2 q),by rw[B]⟩)
def u_ (a b:List Int):Prop:=a.length=b.length/\∀(p:Nat) (x y:Int),a[p]? = some x->b[p]? = some y->x<=y
theorem Um {a b:List Int} (B:a.length=b.length):(∀i,i<a.length->∀x y,a[i]? = some x->b[i]? = some y->x<=y)↔u_ a b:=
 ⟨λh=>⟨B,λp x y u w=>h p (ζe.1 u).1 x y u w⟩,λh i _ x y u w=>h.2 i x y u w⟩
theorem Q1 {a b:Sl Int} (J:a.l.length<1073741824) {step:Int->Option (Fw Int Unit Unit)}
 (G:∀i,step i=br (decide (i<len a)) ((idx a i).bind λB=>(idx b i).bind λD=>br (decide (B>D)) (some (.r ())) (some (.n (IntKind.wrap .i64 (i+1))))) (some (.x ()))) :
 jY (br ((len a)==(len b)) ((bR step 0).bind (Fw.elim (λ_=>some true) (λ_=>some false))) (some false)) (u_ a.l b.l):=by
 by_cases w:a.l.length=b.l.length
 .rw[show ((len a)==(len b))=true from by simp[len,w],bS]
  refine(L_ (n:=a.l.length) (P:=λi=>∀x y,a.l[i]? = some x->b.l[i]? = some y->x<=y) ?_ ?_).iff (Um w)
  .intro i u _;have z:i<b.l.length:=by omega
   rw[G,iE u,bS,bL u,ζb,bL z,ζb];refine Lr ?_ (cK i Za)
   rw[decide_eq_true_eq];constructor
   .intro h k;have:=k _ _ (ζd u) (ζd z);omega
   intro h;refine Classical.byContradiction λL=>h λx y C I=>?_
   rw[ζd u]at C;rw[ζd z]at I;cases C;cases I;omega
  intro _;rw[G,iJ,bZ]
 rw[show ((len a)==(len b))=false from by simp[len];omega,bZ]
 exact Ae ⟨λe=>(nomatch e),λh=>absurd h.1 w⟩
theorem Wa {a b:Sl Int} (B:a.l.length<1073741824):jY (sX a b) (u_ a.l b.l):=Q1 B λi=>rfl
section
variable {t:Trace} {A:bW 200 bC}
theorem U7 (B:Small t) (hv:dO t=some true) (D:VT t) (G:fq t (bT t) A) (c:Sl Int):jY (pP t c) (Cons t A c.l):=by
 obtain⟨r,hr,h⟩:=PK B hv D G c;unfold pP;rw[hr,ζb];exact Ae (by rw[beq_iff_eq,h];exact Iff.rfl)
end
section
variable {t:Trace} {A:bW 200 bC}
def wC (g:Int->Int->Int) (a b c:List Int):Prop:=c.length=a.length/\∀(p:Nat) (x y:Int),a[p]? = some x->b[p]? = some y->c[p]? = some (g x y)
def De (x y:Int):Int:=if y>x then y else x
theorem wC.of (g:Int->Int->Int) {a b:List Int} (h:a.length=b.length):wC g a b (List.zipWith g a b):=
 ⟨by simp[h],λp x y u w=>by rw[List.getElem?_zipWith,u,w]⟩
theorem wC.at_ {g:Int->Int->Int} {a b c:List Int} (h:wC g a b c) (D:a.length=b.length) {p:Nat} {z:Int} (B:c[p]? = some z):∃x y,a[p]? = some x/\b[p]? = some y/\z=g x y:=by
 have u:p<a.length:=by rw[<-h.1];exact(ζe.1 B).1
 refine⟨a[p],b[p]' Za,ζd u,ζd Za,?_⟩
 have:=h.2 p _ _ (ζd u) (ζd (show p<b.length by omega))
 rw[B]at this;cases this;rfl
theorem AB (x y:Int):(De x y=x/\y<=x)\/(De x y=y/\x<=y):=by unfold De;split <;> omega
theorem join_cons {a b c:List Int} (B:Cons t A a) (D:Cons t A b) (h:wC De a b c):Cons t A c:=by
 have L:a.length=b.length:=B.1.1.trans D.1.1.symm;refine⟨⟨h.1.trans B.1.1,λp z P C O=>?_⟩,λp k e z Q C hk w=>?_⟩
 .obtain⟨x,y,G,I,rfl⟩:=h.at_ L C;have h1:=B.1.2 p x P G O;have U:=D.1.2 p y P I O;rcases AB x y with⟨e,_⟩|⟨e,_⟩ <;> rw[e] <;> assumption
 obtain⟨x,y,G,I,rfl⟩:=h.at_ L C;rcases AB x y with⟨S,_⟩|⟨S,_⟩ <;> rw[S]at hk
 .obtain⟨u,hu,J⟩:=B.2 p k e x Q G hk w;have T:=(ζe.1 hu).1;have hv:=ζd (show (ag A e.message).from_.proc.toNat<b.length by omega)
  exact⟨_,h.2 _ _ _ hu hv,by rcases AB u b[(ag A e.message).from_.proc.toNat]with⟨e2,_⟩|⟨e2,_⟩ <;> rw[e2] <;> omega⟩
 obtain⟨u,hu,J⟩:=D.2 p k e y Q I hk w;have T:=(ζe.1 hu).1;have hv:=ζd (show (ag A e.message).from_.proc.toNat<a.length by omega)
 exact⟨_,h.2 _ _ _ hv hu,by rcases AB a[(ag A e.message).from_.proc.toNat] u with⟨e2,_⟩|⟨e2,_⟩ <;> rw[e2] <;> omega⟩
theorem u_.trans {a b c:List Int} (h:u_ a b) (k:u_ b c):u_ a c:=by
 refine⟨h.1.trans k.1,λp x z u w=>?_⟩
 have B:p<b.length:=by rw[<-h.1];exact(ζe.1 u).1
 have e:=ζd B;exact Int.le_trans (h.2 p x _ u e) (k.2 p _ z e w)
theorem u_.refl (a:List Int):u_ a a:=⟨rfl,λp x y w u=>by rw[w]at u;cases u;exact Int.le_refl _⟩
end
section
variable {t:Trace} {A:bW 200 bC}
theorem wC.one {g:Int->Int->Int} {a b c d:List Int} (h:wC g a b c) (k:wC g a b d) (B:a.length=b.length):c=d:=by
 refine List.ext_getElem? λp=>?_
 by_cases u:p<a.length
 .rw[h.2 p _ _ (ζd u) (ζd Za),k.2 p _ _ (ζd u) (ζd Za)]
 rw[List.getElem?_eq_none (by rw[h.1];omega),List.getElem?_eq_none (by rw[k.1];omega)]
def lF (l:Sl Bool) (i:Nat):Bool:=(l.l[i]?).getD false
theorem Rl {l:Sl Bool} {i:Nat} (h:i<l.l.length):idx l (i:Int)=some (lF l i):=by
 rw[nE,ζd h];unfold lF;rw[ζd h];rfl
end
section
variable {t:Trace} {A:bW 200 bC}
theorem MI {s:Sl (Sl Int)} {p:Sl Int->Option Bool} {f:Sl Int->Bool} (B:∀x∈s.l,p x=some (f x)) (D:s.l.length<1073741824):eP s p=some (place f s.l):=
 pg B Za (λi=>rfl)
theorem Lu {c:List Int}:∀{l:List (Sl Int)},c∈l.map Sl.l->place (λd=>decide (c=d.l)) l=((l.map Sl.l).idxOf c:Int):=by
 intro l h;have key:∀l:List (Sl Int),c∈l.map Sl.l->l.findIdx? (λd=>decide (c=d.l))=some ((l.map Sl.l).idxOf c):=by
  intro l
  induction l with
  | nil=>intro h;simp at h
  | cons x l u=>
   intro h;rw[List.findIdx?_cons,List.map_cons,List.idxOf_cons]
   by_cases e:c=x.l
   .rw[decide_eq_true e,show (x.l==c)=true from by simpa using e.symm];rfl
   rw[decide_eq_false e,show (x.l==c)=false from beq_eq_false_iff_ne.2 λk=>e k.symm]
   rw[List.map_cons]at h;rw[u ((List.mem_cons.1 h).resolve_left e)];rfl
 unfold place;rw[key l h]
end
section
variable {t:Trace} {A:bW 200 bC}
theorem ud {L:List (List Int)} (h:L.Nodup) {i:Nat} {c:List Int} (hc:L[i]? = some c):L.idxOf c=i:=by
 obtain⟨u,e⟩:=ζe.1 hc;rw[<-e];exact List.Nodup.idxOf_getElem h i u
theorem nk {L:List (List Int)} {c:List Int} (h:c∈L):L[L.idxOf c]? = some c:=by
 have u:=List.idxOf_lt_length_of_mem h;rw[ζd u,List.getElem_idxOf]
theorem wC.zip {g:Int->Int->Int} {a b c:List Int} (h:wC g a b c) (B:a.length=b.length):c=List.zipWith g a b:=by
 refine h.one ⟨by simp[B],λp x y u w=>?_⟩ B
 rw[List.getElem?_zipWith,u,w]
end
def ri (L:List (List Int)) (c:List Int):List Nat:=(List.range c.length).filterMap λp=>if bump c p 1∈L then some (L.idxOf (bump c p 1))else none
theorem FL {c:List Int} {p:Nat} {d:Int}:(bump c p d).length=c.length:=by unfold bump;simp
theorem Bc {c:List Int} {p:Nat} (h:p<c.length):(bump c p 1).sum=c.sum+1:=by
 unfold bump;have h1:c[p]? = some c[p]:=ζd h;rw[sU h1,h1];simp;omega
theorem wQ {L:List (List Int)} {c:List Int} {k:Nat}:k∈ri L c↔∃p,p<c.length/\bump c p 1∈L/\k=L.idxOf (bump c p 1):=by
 unfold ri;rw[List.mem_filterMap];constructor
 .rintro⟨p,u,h⟩;split at h
  next w=>cases h;exact⟨p,List.mem_range.1 u,w,rfl⟩
  cases h
 rintro⟨p,u,w,rfl⟩;exact⟨p,List.mem_range.2 u,by rw[if_pos w]⟩
section
variable {t:Trace} {A:bW 200 bC} {L:List (List Int)}
theorem dV.nodup (h:dV t A L):L.Nodup:=ec.nodup h.srt
theorem dV.lt (h:dV t A L) {i k:Nat} {c d:List Int} (B:L[i]? = some c) (hk:L[k]? = some d) (D:c.sum<d.sum):i<k:=by
 rcases Nat.lt_trichotomy i k with g|g|g
 .exact g
 .subst g;rw[B]at hk;cases hk;omega
 obtain⟨u,rfl⟩:=ζe.1 B;obtain⟨w,rfl⟩:=ζe.1 hk;exact absurd ((List.pairwise_iff_getElem.1 h.srt k i w u g).tr (ec.sum D)) (ec.A9 _)
theorem Lt (h:dV t A L) {i k:Nat} {c:List Int} (B:L[i]? = some c) (hk:k∈ri L c):i<k/\k<L.length:=by
 obtain⟨p,w,u,rfl⟩:=wQ.1 hk;exact⟨h.lt B (nk u) (by rw[Bc w];omega),List.idxOf_lt_length_of_mem u⟩
theorem dV.len (h:dV t A L) {c:List Int} (hc:c∈L):c.length=t.procs.l.length:=((h.mem _).1 hc).1.1
end
theorem Hu {a b:List Int} (h:a.length=b.length) (B:a.length<=8) (e:mO 8 (.row a)=mO 8 (.row b)):a=b:=by
 have e2:mW 8 a=mW 8 b:=congrArg bW.l e;unfold mW at e2;rw[List.take_of_length_le B,List.take_of_length_le Za]at e2
 exact(List.append_inj e2 h).1
theorem SJ (s:Sl Int):mO 8 s=mO 8 (.row s.l):=rfl
def vD (L:List (List Int)) (n:Nat):Mo (bW 8 Int) Int:=(L.take n).map λc=>(mO 8 (.row c),(L.idxOf c:Int))
theorem Dk {L:List (List Int)} {n m:Nat} (B:∀c∈L,c.length=n) (D:n<=8) {c:List Int} (hc:c.length=n):mO 8 (.row c)∈(vD L m).map (·.1)↔c∈L.take m:=by
 unfold vD;rw[List.map_map,List.mem_map];constructor
 .rintro⟨d,u,e⟩;have:=Hu (by rw[B d (List.mem_of_mem_take u),hc]) (by rw[B d (List.mem_of_mem_take u)];exact D) e
  rwa [<-this]
 intro h;exact⟨c,h,rfl⟩
theorem O9 {L:List (List Int)} {n m:Nat} (B:∀c∈L,c.length=n) (D:n<=8) {c:List Int} (hc:c.length=n):jL (mO 8 (.row c)) (vD L m)=if c∈L.take m then some (L.idxOf c:Int)else none:=by
 by_cases h:c∈L.take m
 .rw[if_pos h];obtain⟨v,hv,u⟩:=yM ((Dk B D hc).2 h);rw[hv];unfold vD at u;obtain⟨d,w,e⟩:=List.mem_map.1 u;have:=Hu (by rw[B d (List.mem_of_mem_take w),hc]) (by rw[B d (List.mem_of_mem_take w)];exact D) (Prod.mk.inj e).1
  rw[<-(Prod.mk.inj e).2,this]
 rw[if_neg h,yj (λk=>h ((Dk B D hc).1 k))]
theorem Rn {L:List (List Int)} {n m:Nat} (B:∀c∈L,c.length=n) (G:n<=8) (D:L.Nodup) {c:List Int} (J:L[m]? = some c):kS (vD L m) (mO 8 (.row c)) (m:Int)=vD L (m+1):=by
 obtain⟨u,rfl⟩:=ζe.1 J;have hc:=B _ (List.getElem_mem u);rw[pL (λk=>?_)]
 .unfold vD;rw[List.take_succ_eq_append_getElem u,List.map_append,List.map_singleton,List.Nodup.idxOf_getElem D]
 have h1:=(Dk B G hc).1 k;obtain⟨j,w,e⟩:=List.mem_iff_getElem.1 h1;rw[List.length_take]at w;rw[List.getElem_take]at e;have:=(List.getElem_inj D).1 e;omega
section
variable {t:Trace} {A:bW 200 bC} {L:List (List Int)}
def ixs (l:List Nat):List Int:=l.map λ(k:Nat)=>(k:Int)
structure TQ (L:List (List Int)) (x:bP):Prop where
 list:ins x.list=L
 len:x.next.l.length=L.length
 next:∀(i:Nat) (c:List Int) (s:Sl Int),L[i]? = some c->x.next.l[i]? = some s->s.l=ixs (ri L c)
theorem NW (hS:Small t) (hV:VT t) (D:dV t A L) (ak:L.length<=5000) {r:Sl (Sl Int)} (hc:lE t=some (r,0)) (hr:ins r=L):Wp (dL t) λq=>∃x,q=(some x,0)/\TQ L x:=by
 have h8:=hV.few;have W:r.l.length=L.length:=by rw[<-fQ,hr]
 have hL:∀c∈L,c.length=t.procs.l.length:=λc h=>D.len h
 have X:∀{i:Nat} (w:i<r.l.length),L[i]? = some r.l[i].l:=λw=>by rw[<-hr];exact kG w
 unfold dL tW;rw[hc,ζb,ζb];simp only;rw[show ((0:Int)==0)=true from rfl,bS];unfold dL.W1;refine e9 r.l.length (λi (q:Int×Mo (bW 8 Int) Int×bP)=>q.1=(i:Int)/\q.2.1=vD L i/\q.2.2.list=r/\q.2.2.next=.nil) ⟨rfl,rfl,rfl,rfl⟩ ?_ ?_
 .rintro i ⟨m,ky,x⟩ w ⟨e,h1,J,O⟩;simp only at e h1 J O;subst e;subst h1;subst J;unfold dL.bt mw;rw[iE w,bS,bL w,ζb,ζb,a_];refine⟨cK i Za,?_,rfl,rfl⟩
  show kS _ (mO 8 (x.list.l[i])) _=_;rw[SJ];exact Rn hL h8 D.nodup (X w)
 rintro⟨m,ky,x⟩ ⟨e,h1,J,O⟩;simp only at e h1 J O;subst e;subst h1;subst J;unfold dL.bt;rw[iJ,bZ,a_];show Wp (dL.W2 _ _ _ _ _) _;unfold dL.W2;have Q:vD L x.list.l.length=vD L L.length:=by rw[W]
 rw[Q];refine e9 x.list.l.length (λi (q:Int×Mo (bW 8 Int) Int×bP)=>q.1=(i:Int)/\q.2.1=vD L L.length/\q.2.2.list=x.list/\q.2.2.next.l.length=i/\∀(j:Nat) (c:List Int) (s:Sl Int),j<i->L[j]? = some c->q.2.2.next.l[j]? = some s->s.l=ixs (ri L c))
  ⟨rfl,rfl,rfl,rfl,λj c s h=>absurd h Za⟩ ?_ ?_
 .rintro i ⟨m,ky,y⟩ w ⟨e,h1,J,O,Y⟩;simp only at e h1 J O Y;subst e;subst h1;unfold dL.bX;rw[iE w,bS,bL w,ζb];have S:=X w;generalize al:x.list.l[i]=u at S;have hm:=List.mem_of_getElem? S;have ae:=hL _ hm;unfold dL.W3;refine e9 u.l.length (λp (q:Sl Int×Int×bP)=>q.2.1=(p:Int)/\q.1.l=ixs ((List.range p).filterMap λp=>if bump u.l p 1∈L then some (L.idxOf (bump u.l p 1))else none)/\q.1.l.length<=p/\q.2.2.list=x.list/\q.2.2.next=y.next)
   ⟨rfl,rfl,Nat.le_refl _,J,rfl⟩ ?_ ?_
  .rintro p ⟨B,m,z⟩ T ⟨e,g1,g2,g3,g4⟩;simp only at e g1 g2 g3 g4;subst e;unfold dL.dH mw;rw[show len u=(u.l.length:Int)from rfl,iE (s:=u) T,bS,ζb];have am:p<(mW 8 u.l).length:=by unfold mW;simp;omega
   have af:(mO 8 u).l[p]? = some u.l[p]:=by
    show (mW 8 u.l)[p]? = _;unfold mW;rw[List.take_of_length_le Za,List.getElem?_append_left T,ζd T]
   have Z:bW.at (mO 8 u) (p:Int)=some u.l[p]:=by
    unfold bW.at;rw[if_pos Za];simpa using af
   have hC:=(D.mem _).1 hm;obtain⟨P,hP⟩:∃P,t.procs.l[p]? = some P:=⟨_,ζd Za⟩
   have an:=hC.1.2 p u.l[p] P (ζd T) hP;have ah:=w8 hS hV hC;have ao:=ah.2 u.l[p] (List.getElem_mem T);rw[Z,ζb,ζb,jX _ Za Za]
   have aa:bW.set (mO 8 u) (p:Int) (u.l[p]+1)=mO 8 (.row (bump u.l p 1)):=by
    have:∀(a b:bW 8 Int),a.l=b.l->a=b:=λa b h=>by cases a;cases b;cases h;rfl
    apply this;show (mW 8 u.l).set _ _=mW 8 (bump u.l p 1);unfold mW bump;rw[List.take_of_length_le Za,List.take_of_length_le (by simp;omega)]
    rw[List.set_append_left _ _ (by simpa using T)]
    simp[T]
   rw[aa];have ai:(bump u.l p 1).length=t.procs.l.length:=by rw[FL];exact ae
   have C:=O9 (m:=L.length) hL h8 ai;rw[List.take_length]at C;have G:(List.range (p+1)).filterMap (λp=>if bump u.l p 1∈L then some (L.idxOf (bump u.l p 1))else none)=(List.range p).filterMap (λp=>if bump u.l p 1∈L then some (L.idxOf (bump u.l p 1))else none)++(if bump u.l p 1∈L then [L.idxOf (bump u.l p 1)]else []):=by
    rw[List.range_succ,List.filterMap_append]
    congr 1
    by_cases hb:bump u.l p 1∈L <;> simp[hb]
   by_cases hb:bump u.l p 1∈L
   .rw[if_pos hb]at C G;rw[show wk (vD L L.length) (mO 8 (.row (bump u.l p 1)))=true from by unfold wk;rw[C];rfl,bS]
    obtain⟨o,k1,k2⟩:=jO (s:=B) (x:=iZ (vD L L.length) (mO 8 (.row (bump u.l p 1))) 0) Za
    rw[k1,ζb,a_];refine⟨cK p Za,?_,?_,g3,g4⟩
    .show o.l=_;rw[k2,G,g1];unfold ixs iZ;rw[C];simp
    show o.l.length<=_;rw[k2,ζi,List.length_singleton];omega
   rw[if_neg hb]at C G;rw[show wk (vD L L.length) (mO 8 (.row (bump u.l p 1)))=false from by unfold wk;rw[C];rfl,bZ,a_]
   exact⟨cK p Za,by show B.l=_;rw[G,List.append_nil];exact g1,by show B.l.length<=_;omega,g3,g4⟩
  rintro⟨B,m,z⟩ ⟨e,g1,g2,g3,g4⟩;simp only at e g1 g2 g3 g4;subst e;unfold dL.dH;rw[show len u=(u.l.length:Int)from rfl,iJ (s:=u),bZ,a_];obtain⟨o,k1,k2⟩:=jO (s:=z.next) (x:=B) (by rw[g4,O];omega)
  show Wp ((gw z.next B).bind _) _;rw[k1,ζb,a_];refine⟨cK i Za,rfl,g3,?_,λj c s hj U I=>?_⟩
  .show o.l.length=_;rw[k2,g4,ζi,O];rfl
  replace I:o.l[j]? = some s:=I
  rw[k2,g4]at I
  by_cases aj:j<i
  .rw[List.getElem?_append_left Za]at I
   exact Y j c s aj U I
  have:j=i:=by omega
  subst this;rw[List.getElem?_append_right Za,O,Nat.sub_self]at I
  cases I;rw[S]at U;cases U;exact g1
 rintro⟨m,ky,y⟩ ⟨e,h1,ab,ad,Y⟩;simp only at e h1 ab ad Y;subst e;subst h1;unfold dL.bX;rw[iJ,bZ,a_];refine(a_ _).2 ⟨_,rfl,by show ins y.list=L;rw[ab];exact hr,by show y.next.l.length=_;rw[ad,W],λi c s w I=>Y i c s ?_ w I⟩
 have:=(ζe.1 w).1;omega
end
section
variable {L:List (List Int)} {f:Nat->Bool}
inductive Rc (L:List (List Int)) (f:Nat->Bool):Nat->Prop
 | zero:Rc L f 0
 | step {i k:Nat} {c:List Int}:Rc L f i->f i=false->L[i]? = some c->k∈ri L c->Rc L f k
def Bg (L:List (List Int)):Prop:=∀(i k:Nat) c,L[i]? = some c->k∈ri L c->i<k/\k<L.length
def IF (L:List (List Int)) (f:Nat->Bool) (i k:Nat):Prop:=k=0\/∃j c,j<i/\Rc L f j/\f j=false/\L[j]? = some c/\k∈ri L c
theorem Ru (hg:Bg L) {i k:Nat} (h:k<=i):IF L f i k↔Rc L f k:=by
 constructor
 .rintro (rfl|⟨j,c,_,h1,z,u,w⟩)
  .exact .zero
  exact .step h1 z u w
 intro hr
 cases hr with
 | zero=>exact .inl rfl
 | step h1 z u w=>exact .inr ⟨_,_,by have:=(hg _ _ _ u w).1;omega,h1,z,u,w⟩
theorem u9 {i k:Nat} {c:List Int} (B:L[i]? = some c):IF L f (i+1) k↔IF L f i k\/(Rc L f i/\f i=false/\k∈ri L c):=by
 constructor
 .rintro (h|⟨j,d,C,h1,w,u,z⟩)
  .exact .inl (.inl h)
  by_cases e:j=i
  .subst e;rw[B]at u;cases u;exact .inr ⟨h1,w,z⟩
  exact .inl (.inr ⟨j,d,by omega,h1,w,u,z⟩)
 rintro ((h|⟨j,d,C,h1⟩)|⟨h1,w,u⟩)
 .exact .inl h
 .exact .inr ⟨j,d,by omega,h1⟩
 exact .inr ⟨i,c,by omega,h1,w,B,u⟩
theorem OB {k:Nat}:IF L f 0 k↔k=0:=⟨λh=>h.elim id λ⟨_,_,h,_⟩=>absurd h Za,.inl⟩
open Classical in
noncomputable def outs (L:List (List Int)) (f:Nat->Bool):Nat->List (List Int)
 | 0=>[]
 | n+1=>outs L f n++if Rc L f n/\f n=true then L[n]?.toList else []
theorem xu {n:Nat} (h:¬(Rc L f n/\f n=true)):outs L f (n+1)=outs L f n:=by
 show _++_=_;rw[if_neg h,List.append_nil]
theorem xC {n:Nat} {c:List Int} (h:Rc L f n) (B:f n=true) (hc:L[n]? = some c):outs L f (n+1)=outs L f n++[c]:=by
 show _++_=_;rw[if_pos ⟨h,B⟩,hc];rfl
theorem Rt {r:Sl Bool} {k:Nat} (h:k<r.l.length):Sl.get r k=some (lF r k):=by
 unfold Sl.get lF;rw[ζd h];rfl
theorem I8 {r s:Sl Bool} {k:Nat} (h:k<r.l.length) (B:s.l=r.l.set k true) (j:Nat):lF s j=true↔lF r j=true\/j=k:=by
 unfold lF;rw[B,List.getElem?_set]
 by_cases e:k=j
 .subst e;rw[if_pos rfl,if_pos h];simp
 rw[if_neg e];simp[Ne.symm e]
theorem SD {n:Nat} (h:n<=2147483648):mP (n:Int) (false:Bool)=some (.row (List.replicate n false)):=by
 unfold mP;rw[if_pos ⟨by omega,by omega⟩];rfl
theorem Sp {n k:Nat}:lF (.row (List.replicate n false)) k=false:=by
 unfold lF;show ((List.replicate n false)[k]?).getD false=false;rw[List.getElem?_replicate];split <;> rfl
theorem Lo {n:Nat} (h0:0<n) (h:n<=2147483648) {β:Type} {k:Sl Bool->Option β} {P:β->Prop} (hk:∀r:Sl Bool,r.l.length=n->(∀j,lF r j=true↔j=0)->Wp (k r) P) :
 Wp ((mP (n:Int) (false:Bool)).bind λB=>(Sl.mj B 0).bind λD=>(Sl.put B D (true:Bool)).bind k) P:=by
 rw[SD h,ζb];have u:(Sl.row (List.replicate n false)).l.length=n:=by simp[Sl.l]
 rw[show (0:Int)=((0:Nat):Int)from rfl,tK (by rw[u];exact h0),ζb]
 obtain⟨r,h1,w⟩:=put_eq (s:=Sl.row (List.replicate n false)) (p:=0) (x:=true) (by rw[u];exact h0)
 rw[h1,ζb];refine hk r (by rw[w,List.length_set,u]) λj=>?_
 rw[I8 (by rw[u];exact h0) w,Sp];simp
theorem QN {l:List Nat} {m:Nat} (h:m<l.length):(ixs l)[m]? = some (l[m]:Int):=by
 unfold ixs;rw[List.getElem?_map,ζd h];rfl
theorem RA {l:List Nat}:(ixs l).length=l.length:=by unfold ixs;simp
theorem JU {x:bP} (U:TQ L x) (hg:Bg L) (hN:0<L.length) (h5:L.length<=5000) (Y:∀c∈L,0<c.length/\c.length<=8) {b:Sl Bool} (hb:b.l.length=L.length) :
 Wp (cQ x b) λq=>(q=(.nil,false)/\Rc L (lF b) (L.length-1)/\lF b (L.length-1)=false)\/(q.2=true/\¬(Rc L (lF b) (L.length-1)/\lF b (L.length-1)=false)/\ins q.1=outs L (lF b) L.length):=by
 have z:x.list.l.length=L.length:=by rw[<-fQ,U.list]
 have Z:∀{i:Nat} (Q:i<x.list.l.length),L[i]? = some x.list.l[i].l:=λQ=>by rw[<-U.list];exact kG Q
 unfold cQ;rw[show (len x.list:Int)=((L.length:Nat):Int)from by show ((x.list.l.length:Nat):Int)=_;rw[z]]
 refine Lo hN Za λr0 aa hz=>?_
 unfold cQ.W1;refine e9 x.list.l.length (λi (q:Sl Bool×Sl (Sl Int)×Int)=>q.2.2=(i:Int)/\q.1.l.length=L.length/\(∀k,k<L.length->(lF q.1 k=true↔IF L (lF b) i k))/\ins q.2.1=outs L (lF b) i/\q.2.1.l.length<=i/\(i=L.length->¬(Rc L (lF b) (L.length-1)/\lF b (L.length-1)=false)))
  ⟨rfl,aa,λk _=>(hz k).trans OB.symm,rfl,Nat.le_refl _,λh=>absurd h Za⟩ ?_ ?_
 .rintro i ⟨r,o,_⟩ Q ⟨e,h1,C,D,h4,W⟩;simp only at e h1 C D h4 W;subst e;have w:i<L.length:=by omega
  unfold cQ.bt;rw[show decide ((i:Int)<((L.length:Nat):Int))=true from decide_eq_true Za,bS,bL Q,ζb,tK (by rw[h1];exact w),ζb,Rt (by rw[h1];exact w),ζb]
  have u:=Z Q;have B:=List.mem_of_getElem? u;generalize x.list.l[i]=G at u B;have S:=(C i w).trans (Ru hg (Nat.le_refl i));rw[cn];constructor
  .intro X;have I:=S.1 X;rw[Rl (by rw[hb];exact w),ζb,cn]
   constructor
   .intro J;obtain⟨d,hd,ab⟩:=Br (c:=G) (by have:=(Y _ B).2;omega) (Y _ B).1
    obtain⟨o',k1,k2⟩:=jO (s:=o) (x:=d) Za
    rw[hd,ζb,k1,ζb,a_];refine⟨cK i Za,h1,λk hk=>(C k hk).trans ⟨λh=>(u9 u).2 (.inl h),λh=>((u9 u).1 h).elim id λh=>by rw[J]at h;exact absurd h.2.1 Zc⟩,?_,?_,λh q=>?_⟩
    .show ins o'=_;rw[xC I J u,<-D];unfold ins;rw[k2];simp[ab]
    .show o'.l.length<=_;rw[k2];simp;omega
    rw[show L.length-1=i from by omega,J]at q;exact absurd q.2 Zc
   intro J;rw[show (len x.list:Int)=((L.length:Nat):Int)from by show ((x.list.l.length:Nat):Int)=_;rw[z],jX _ Za Za,cn]
   constructor
   .intro e;have e:(i:Int)=(L.length:Int)-1:=by simpa using e
    have e:L.length-1=i:=by omega
    refine(a_ _).2 ((a_ _).2 (.inl ⟨rfl,?_,?_⟩))
    .rw[e];exact I
    rw[e];exact J
   intro e;have e:¬(i:Int)=(L.length:Int)-1:=by simpa using e
   have T:i<x.next.l.length:=by rw[U.len];exact w
   have hsl:=U.next i G.l _ u (ζd T);rw[bL T,ζb];generalize x.next.l[i]=s at hsl;have ad:s.l.length=(ri L G.l).length:=by rw[hsl,RA]
   have af:(ri L G.l).length<=8:=by
    unfold ri;refine Nat.le_trans (List.length_filterMap_le _ _) ?_;rw[List.length_range];exact(Y _ B).2
   unfold cQ.W2;refine e9 s.l.length (λm (q:Sl Bool×Int×Int)=>q.2.2=(m:Int)/\q.2.1=len s/\q.1.l.length=L.length/\∀k,k<L.length->(lF q.1 k=true↔IF L (lF b) i k\/k∈(ri L G.l).take m)) ⟨rfl,rfl,h1,λk hk=>(C k hk).trans Zc⟩ ?_ ?_
   .rintro m ⟨r,_,_⟩ hm ⟨e1,e2,g1,g2⟩;simp only at e1 e2 g1 g2;subst e1;subst e2;unfold cQ.bX;have O:m<(ri L G.l).length:=by omega
    have hk:=hg i _ _ u (List.getElem_mem O);rw[iE hm,bS,nE,hsl,QN O,ζb,tK (by rw[g1];exact hk.2),ζb]
    obtain⟨r',k1,k2⟩:=put_eq (s:=r) (p:=(ri L G.l)[m]) (x:=true) (by rw[g1];exact hk.2)
    rw[k1,ζb,a_];refine⟨cK m Za,rfl,by show r'.l.length=_;rw[k2,List.length_set,g1],λk ae=>?_⟩
    rw[I8 (by rw[g1];exact hk.2) k2,g2 k ae,List.take_succ_eq_append_getElem O,List.mem_append,List.mem_singleton,or_assoc]
   rintro⟨r,_,_⟩ ⟨e1,e2,g1,g2⟩;simp only at e1 e2 g1 g2;subst e1;subst e2;unfold cQ.bX;rw[iJ,bZ,a_];refine(a_ _).2 ⟨cK i Za,g1,λk hk=>?_,?_,by show o.l.length<=_;omega,λh=>absurd h Za⟩
   .rw[g2 k hk,u9 u,ad,List.take_length];exact⟨λh=>h.imp id λh=>⟨I,J,h⟩,λh=>h.imp id λh=>h.2.2⟩
   show ins o=_;rw[xu (λh=>by rw[J]at h;exact absurd h.2 Zc)];exact D
  intro X;have I:¬Rc L (lF b) i:=λh=>by rw[S.2 h]at X;cases X
  rw[a_];refine⟨cK i Za,h1,λk hk=>(C k hk).trans ⟨λh=>(u9 u).2 (.inl h),λh=>((u9 u).1 h).elim id λh=>absurd h.1 I⟩,?_,by show o.l.length<=_;omega,λh q=>I ?_⟩
  .show ins o=_;rw[xu (λh=>I h.1)];exact D
  rw[show L.length-1=i from by omega]at q;exact q.1
 rintro⟨r,o,_⟩ ⟨e,h1,C,D,h4,W⟩;simp only at e h1 C D h4 W;subst e;unfold cQ.bt;rw[show decide (((x.list.l.length:Nat):Int)<((L.length:Nat):Int))=false from decide_eq_false Za,bZ,a_]
 refine(a_ _).2 (.inr ⟨rfl,?_,?_⟩)
 .exact W z
 rw[<-z];exact D
end
def ps (L:List (List Int)) (c:List Int) (n:Nat):List Nat:=(List.range n).filter λp=>decide (bump c p 1∈L)
theorem R1 (L:List (List Int)) (c:List Int) (n:Nat):ps L c (n+1)=ps L c n++if bump c n 1∈L then [n]else []:=by
 unfold ps;rw[List.range_succ,List.filter_append]
 congr 1
 by_cases h:bump c n 1∈L <;> simp[h]
theorem Ud (L:List (List Int)) (c:List Int):ri L c=(ps L c c.length).map λp=>L.idxOf (bump c p 1):=by
 unfold ri ps
 induction List.range c.length with
 | nil=>rfl
 | cons a l u=>by_cases h:bump c a 1∈L <;> simp[h,u]
theorem TA {L:List (List Int)} {c:List Int} {n p:Nat}:p∈ps L c n↔p<n/\bump c p 1∈L:=by unfold ps;simp
theorem DD {c:List Int} {p:Nat} {a:Int} (h:c[p]? = some a):bump c p 1=c.set p (a+1):=by unfold bump;rw[h];rfl
section
variable {t:Trace} {A:bW 200 bC} {L:List (List Int)}
theorem Bg.of (B:dV t A L):Bg L:=λ_ _ _ h k=>Lt B h k
end
end Go.VE
namespace Go.VE
end Go.VE
namespace Go.VE
end Go.VE
namespace Go.VE
section
variable {L:List (List Int)} {f:Nat->Bool}
inductive qp (L:List (List Int)) (f:Nat->Bool):Nat->Prop
 | last:f (L.length-1)=false->qp L f (L.length-1)
 | step {i k:Nat} {c:List Int}:f i=false->L[i]? = some c->k∈ri L c->qp L f k->qp L f i
theorem qp.no {i:Nat} (h:qp L f i):f i=false:=by cases h <;> assumption
theorem Q8:qp L f 0↔Rc L f (L.length-1)/\f (L.length-1)=false:=by
 have a:∀i,qp L f i->Rc L f i->Rc L f (L.length-1)/\f (L.length-1)=false:=λi h=>by
  induction h with
  | last h=>exact λk=>⟨k,h⟩
  | step h1 u w _ z=>exact λk=>z (.step k h1 u w)
 have b:∀i,Rc L f i->qp L f i->qp L f 0:=λi h=>by
  induction h with
  | zero=>exact id
  | step _ h1 u w z=>exact λk=>z (.step h1 u w k)
 exact⟨λh=>a 0 h .zero,λh=>b _ h.1 (.last h.2)⟩
theorem Pk (hg:Bg L) {i:Nat} {c:List Int} (B:L[i]? = some c):qp L f i↔f i=false/\(i=L.length-1\/∃k∈ri L c,qp L f k):=by
 constructor
 .intro h;refine⟨h.no,?_⟩
  cases h with
  | last _=>exact .inl rfl
  | step _ u w z=>rw[B]at u;cases u;exact .inr ⟨_,w,z⟩
 rintro⟨h1,u|⟨k,u,w⟩⟩
 .subst u;exact .last h1
 exact .step h1 B u w
end
section
variable {t:Trace} {A:bW 200 bC} {L:List (List Int)}
end
end Go.VE
namespace Go.VE
theorem MP {t:Trace} (B:Small t) (m:Int):∃b,jG t m=some b:=by
 refine DU.get ?_;unfold jG jG.W1;refine e9 t.procs.l.length (λi q=>q.2=(i:Int)) rfl ?_ ?_
 .rintro n ⟨c,_⟩ u e;simp only at e;subst e;have h1:=B.1;unfold jG.bt;rw[iE u,bS,bL u,ζb,ir,ζb,ir,ζb];rw[yH (f:=λz=>(qF z).getD false) (λz _=>DU.ok ((a_ _).2 trivial)) (B.2 _ (List.getElem_mem u)).1]
  rw[A0 (f:=λz=>(qG z).getD false) (λz _=>DU.ok ((a_ _).2 trivial)) (B.2 _ (List.getElem_mem u)).2.1]
  simp only[ζb,ir];rw[cn];exact⟨λ_=>(a_ _).2 ((a_ _).2 trivial),λ_=>(a_ _).2 (cK n Za)⟩
 rintro⟨c,_⟩ e;simp only at e;subst e;unfold jG.bt;rw[iJ,bZ,a_];exact(a_ _).2 trivial
theorem xF {L:List (List Int)} {f:Nat->Bool} {c:List Int}:∀n,c∈outs L f n->c∈L
 | 0,h=>by cases h
 | n+1,h=>by
  by_cases k:Rc L f n/\f n=true
  .by_cases B:n<L.length
   .rw[xC k.1 k.2 (ζd B)]at h;rcases List.mem_append.1 h with h|h
    .exact xF n h
    rw[List.mem_singleton.1 h];exact List.getElem_mem B
   have h:c∈outs L f n++_:=h;rw[if_pos k,List.getElem?_eq_none Za,show (none:Option (List Int)).toList=[]from rfl,List.append_nil]at h
   exact xF n h
  rw[xu k]at h;exact xF n h
theorem FX {L:List (List Int)} {f:Nat->Bool}:∀n,(outs L f n).length<=n
 | 0=>Nat.le_refl _
 | n+1=>by
  have:=FX (L:=L) (f:=f) n;show (outs L f n++_).length<=_;rw[ζi];split
  .have:L[n]?.toList.length<=1:=by cases L[n]? <;> simp
   omega
  simp;omega
section
variable {t:Trace} {A:bW 200 bC}
end
theorem GU {κ ν:Type} [DecidableEq κ] {m:Mo κ ν} {k B:κ} {v z:ν}:iZ (kS m k v) B z=if B=k then v else iZ m B z:=by
 unfold iZ
 induction m with
 | nil=>unfold kS jL;by_cases h:B=k <;> simp[h,jL]
 | cons a m C=>
  obtain⟨a,w⟩:=a;unfold kS
  by_cases h:k=a
  .subst h;rw[if_pos rfl]
   by_cases u:B=k
   .simp[jL,u]
   simp[jL,u]
  rw[if_neg h]
  by_cases u:B=a
  .have:B≠k:=λe=>h (e▸u)
   simp[jL,u,Ne.symm h]
  simp only[jL,if_neg u];exact C
theorem D1:∀(l:List Int) (r:ByteArray),(l.foldl (λr n=>r.push (UInt8.ofNat n.toNat)) r).data.toList=r.data.toList++l.map λn=>UInt8.ofNat n.toNat
 | [],r=>by simp
 | a::l,r=>by
  rw[List.foldl_cons,D1 l];show (r.data.push _).toList++_=_;simp
theorem EI (l:List Int):(lq l).data.toList=l.map λn=>UInt8.ofNat n.toNat:=by
 unfold lq;rw[D1];rfl
def IA (l:List Int):Prop:=∀x∈l,0<=x/\x<256
theorem TU {a b:Int} (B:0<=a/\a<256) (D:0<=b/\b<256) (h:UInt8.ofNat a.toNat=UInt8.ofNat b.toNat):a=b:=by
 have:=congrArg UInt8.toNat h;simp[UInt8.toNat_ofNat']at this;omega
theorem GK:∀{a b:List Int},IA a->IA b->(a.map λn=>UInt8.ofNat n.toNat)=(b.map λn=>UInt8.ofNat n.toNat)->a=b
 | [],[],_,_,_=>rfl
 | [],_::_,_,_,h=>by simp at h
 | _::_,[],_,_,h=>by simp at h
 | x::a,y::b,D,G,h=>by
  simp only[List.map_cons,List.cons.injEq]at h;rw[TU (D x Zc) (G y Zc) h.1,GK (λz B=>D z (List.mem_cons_of_mem _ B)) (λz B=>G z (List.mem_cons_of_mem _ B)) h.2]
theorem O6 {a b:List Int} (B:IA a) (D:IA b) (h:lq a=lq b):a=b:=
 GK B D (by rw[<-EI,<-EI,h])
theorem Uu {c:Sl Int} (h:IA c.l) (D:c.l.length<=8):iS c=some (lq c.l):=by
 refine Wp.eq ?_;unfold iS;have hr:∃r,uc (len c) (⟨0⟩:U8)=some r/\r.l=[]:=by
  unfold uc;rw[if_pos ⟨by simp[len],by simp[len];omega⟩]
  refine⟨_,rfl,?_⟩;split <;> rfl
 obtain⟨r,hr,w⟩:=hr;rw[hr,ζb];unfold iS.W1;refine e9 c.l.length (λi (q:Sl U8×Int)=>q.2=(i:Int)/\q.1.l.map U8.v=c.l.take i) ⟨rfl,by rw[w];rfl⟩ ?_ ?_
 .rintro i ⟨o,_⟩ u ⟨e,h1⟩;simp only at e h1;subst e;have z:o.l.length=i:=by
   have:=congrArg List.length h1;simp at this;omega
  unfold iS.bt;rw[iE u,bS,bL u,ζb];have G:=h c.l[i] (List.getElem_mem u);obtain⟨B,k1,k2⟩:=jO (s:=o) (x:=(⟨IntKind.wrap .u8 c.l[i]⟩:U8)) Za
  rw[k1,ζb,a_];refine⟨cK i Za,?_⟩
  show B.l.map U8.v=_;have C:IntKind.wrap .u8 c.l[i]=c.l[i]:=by simp[IntKind.wrap,IntKind.bits,IntKind.signed];omega
  rw[k2,List.map_append,h1,List.take_succ_eq_append_getElem u,List.map_singleton,C]
 rintro⟨o,_⟩ ⟨e,h1⟩;simp only at e h1;subst e;unfold iS.bt;rw[iJ,bZ,a_];refine(a_ _).2 ?_;unfold JX;rw[h1,List.take_length]
section
variable {t:Trace} {A:bW 200 bC} {L:List (List Int)}
theorem BO (D:VT t) {c:List Int} (B:Cons t A c):IA c:=λx z=>by
 obtain⟨p,w,rfl⟩:=List.mem_iff_getElem.1 z;have u:p<t.procs.l.length:=by rw[<-B.1.1];exact w
 have h1:=B.1.2 p _ _ (ζd w) (ζd u);have C:=Lv D (ζd u);omega
def pY (A:bW 200 bC) (e:Event):aZ:=if e.kind=3 then(ag A e.message).from_ else ⟨0,0⟩
structure CU (t:Trace) (A:bW 200 bC) (x:cz):Prop where
 len:x.needs.l.length=t.procs.l.length
 row:∀(p:Nat) (P:cu) (s:Sl aZ),t.procs.l[p]? = some P->x.needs.l[p]? = some s->s.l=P.events.l.map (pY A)
theorem Km (J:Small t) (O:VT t) (D:fq t (bT t) A) {p k:Nat} {e:Event} (B:kn t p k e) (U:e.kind=3):∃b,uD t e=some ((ag A e.message).from_,b):=by
 obtain⟨q,j,y,L,S,T,y3,y4,y5⟩:=ye O D B U;obtain⟨Q,u,G⟩:=L;have W:=(ζe.1 u).1;have w:=(J.2 _ (List.mem_of_getElem? u)).1;unfold uD;rw[y4,nE,u,ζb];rw[BX (f:=λz=>z.kind==2&&z.message==e.message) (λz _=>by unfold qx;rw[j7];rfl) w,ζb]
 have C:place (λz:Event=>z.kind==2&&z.message==e.message) Q.events.l=(j:Int):=by
  unfold place;rw[AY (i:=j) (x:=y) (λi Y z X=>?_) G (by simp[S,T])]
  refine Bool.eq_false_iff.2 λh=>?_
  simp only[ζh,beq_iff_eq]at h;have I:=D.snd _ (eu.2 ⟨q,i,⟨Q,u,X⟩,rfl⟩:((⟨q,i+1⟩:aZ),z)∈bT t) h.1;simp only[h.2,y5]at I;have:=congrArg aZ.index I;simp at this;omega
 rw[C,cK j (by have:=(ζe.1 G).1;omega),y5]
 exact⟨_,rfl⟩
theorem DG (W:Small t) (Y:VT t) (hM:fq t (bT t) A):Wp (gz t) λq=>∃x,q=some x/\CU t A x:=by
 have h8:=Y.few;unfold gz gz.W1;refine e9 t.procs.l.length (λp (q:Int×Trace×cz)=>q.1=(p:Int)/\t=q.2.1/\q.2.2.needs.l.length=p/\∀(r:Nat) (P:cu) (s:Sl aZ),t.procs.l[r]? = some P->q.2.2.needs.l[r]? = some s->s.l=P.events.l.map (pY A)) ⟨rfl,rfl,rfl,λr P s _ h=>by simp[Sl.l]at h⟩ ?_ ?_
 .rintro p ⟨_,_,x⟩ D ⟨e1,e2,h1,C⟩;simp only at e1 e2 h1 C;subst e1;subst e2;unfold gz.bt;rw[iE D,bS,bL D,ζb];have G:=ζd D;have I:=(W.2 _ (List.getElem_mem D)).1;generalize t.procs.l[p]=P at G I;unfold gz.W2;refine e9 P.events.l.length (λk (q:Sl aZ×Int×Trace×cz)=>q.2.1=(k:Int)/\t=q.2.2.1/\x=q.2.2.2/\q.1.l=(P.events.l.take k).map (pY A)) ⟨rfl,rfl,rfl,rfl⟩ ?_ ?_
  .rintro k ⟨l,_,_,_⟩ hk ⟨e1,e2,e3,g⟩;simp only at e1 e2 e3 g;subst e1;subst e2;subst e3;have L:kn t p k P.events.l[k]:=⟨P,G,ζd hk⟩;have Z:l.l.length=k:=by rw[g];simp;omega
   have J:∀n:aZ,n=pY A P.events.l[k]->Wp (gz.J3 l t.procs (len t.procs) (p:Int) P.events (len P.events) (k:Int) t n x) λw=>match w with
    | .n u=>u.2.1=((k+1:Nat):Int)/\t=u.2.2.1/\x=u.2.2.2/\u.1.l=(P.events.l.take (k+1)).map (pY A)
    | .x _=>False
    | .r _=>False:=λn O=>by
    unfold gz.J3;obtain⟨o,k1,k2⟩:=jO (s:=l) (x:=n) Za
    rw[k1,ζb,a_];refine⟨cK k Za,rfl,rfl,?_⟩
    show o.l=_;rw[k2,g,O,List.take_succ_eq_append_getElem hk,List.map_append,List.map_singleton]
   have X:∀n:aZ,n=pY A P.events.l[k]->Wp (gz.J3 l t.procs (len t.procs) (p:Int) P.events (len P.events) (k:Int) t n x) λw=>∃u,w=.n u/\u.2.1=((k+1:Nat):Int)/\t=u.2.2.1/\x=u.2.2.2/\u.1.l=(P.events.l.take (k+1)).map (pY A):=λn O=>(J n O).mono λw S=>by
    cases w with
    | n u=>exact⟨u,rfl,S⟩
    | x _=>exact S.elim
    | r _=>exact S.elim
   unfold gz.bX;rw[iE hk,bS,bL hk,ζb,cn];constructor
   .intro z;have z:P.events.l[k].kind=3:=by simpa using z
    obtain⟨b,hb⟩:=Km W Y hM L z;rw[hb,ζb];refine(X _ (by unfold pY;rw[if_pos z])).mono ?_
    rintro _ ⟨u,rfl,h⟩;exact h
   intro z;have z:¬P.events.l[k].kind=3:=by simpa using z
   refine(X _ (by unfold pY;rw[if_neg z])).mono ?_
   rintro _ ⟨u,rfl,h⟩;exact h
  rintro⟨l,_,_,_⟩ ⟨e1,e2,e3,g⟩;simp only at e1 e2 e3 g;subst e1;subst e2;subst e3;unfold gz.bX;rw[iJ,bZ,a_];obtain⟨o,k1,k2⟩:=jO (s:=x.needs) (x:=l) Za
  show Wp ((gw x.needs l).bind _) _;rw[k1,ζb,a_];refine⟨cK p Za,rfl,by show o.l.length=_;rw[k2];simp[h1],λr Q s T B=>?_⟩
  replace B:o.l[r]? = some s:=B
  rw[k2]at B
  by_cases hr:r<p
  .rw[List.getElem?_append_left Za]at B
   exact C r Q s T B
  have U:r=p:=by
   have:=(ζe.1 B).1;simp at this;omega
  subst U;rw[List.getElem?_append_right Za,h1,Nat.sub_self]at B
  cases B;rw[G]at T;cases T;rw[g,List.take_length]
 rintro⟨_,_,x⟩ ⟨e1,e2,h1,C⟩;simp only at e1 e2 h1 C;subst e1;subst e2;unfold gz.bt;rw[iJ,bZ,a_];exact(a_ _).2 ⟨x,rfl,h1,C⟩
theorem LF (hS:Small t) (hV:VT t) (hM:fq t (bT t) A) (B:dV t A L) {x:cz} (G:CU t A x) {c:Sl Int} (Y:Cons t A c.l) {p:Nat} (hp:p<c.l.length):od x c (p:Int)=some (decide (bump c.l p 1∈L)):=by
 have af:=Y.1.1;have I:p<t.procs.l.length:=by omega
 have J:p<x.needs.l.length:=by rw[G.len];exact I
 have D:=ζd I;have O:=ζd hp;have hr:=Y.1.2 p _ _ O D;have Z:=G.row p _ _ D (ζd J);have S:idx x.needs (p:Int)=some x.needs.l[p]:=bL J;have aa:idx c (p:Int)=some c.l[p]:=bL hp;refine Wp.eq ?_;unfold od;rw[show decide ((p:Int)<0)=false from decide_eq_false Za,bZ,show decide ((p:Int)>=(len c))=false from decide_eq_false (by simp[len];omega),ζb,bZ,aa,ζb,S,ζb,ζb,DD O]
 generalize x.needs.l[p]=s at Z S;generalize c.l[p]=a at *;generalize t.procs.l[p]=P at *;have hsl:s.l.length=P.events.l.length:=by rw[Z];simp
 rw[cn];constructor
 .intro u;have u:(a:Int)>=s.l.length:=by simpa [len]using u
  rw[a_];refine(decide_eq_false λh=>?_).symm
  have h:=((B.mem _).1 h).1.2 p (a+1) P (by rw[List.getElem?_set_self hp]) D
  omega
 intro u;have u:¬(a:Int)>=s.l.length:=by simpa [len]using u
 have w:a.toNat<P.events.l.length:=by omega
 have ab:kn t p a.toNat P.events.l[a.toNat]:=⟨P,D,ζd w⟩;have T:=Cons.up hV hM Y D O Za
 have C:=B.mem (c.l.set p (a+1));have U:KC t A c.l p↔(P.events.l[a.toNat].kind=3->∃b,c.l[(ag A P.events.l[a.toNat].message).from_.proc.toNat]? = some b/\(ag A P.events.l[a.toNat].message).from_.index<=b):=by
  constructor
  .rintro⟨Q,e,x,X,G,he,z⟩;rw[D]at X;cases X;rw[O]at G;cases G;rw[ζd w]at he;cases he;exact z
  intro z;exact⟨P,_,a,D,O,ζd w,z⟩
 rw[ζb,ζb,KX hr.1,Z,List.getElem?_map,ζd w];generalize P.events.l[a.toNat]=e at *;show Wp ((br ((pY A e).index==0) (some true) ((idx c (pY A e).proc).bind λad=>some (decide ((pY A e).index<=ad))):Option Bool).bind λae=>some ae) _
 unfold pY
 by_cases z:e.kind=3
 .rw[if_pos z];obtain⟨q,j,f1,_,_,y,Q,X,_⟩:=vh hV hM ab z;have W:q<c.l.length:=by have:=(ζe.1 X).1;omega
  rw[f1];simp only;rw[show (((j:Int)+1)==0)=false from by simp;omega,bZ,bL W,ζb,ζb,a_]
  refine decide_eq_decide.2 ?_;rw[C,<-T,U,f1];simp only[Int.toNat_natCast,ζd W];constructor
  .intro h _;exact⟨_,rfl,h⟩
  intro h;obtain⟨b,hb,h⟩:=h z;cases hb;exact h
 rw[if_neg z];simp only;rw[show ((0:Int)==0)=true from rfl,bS,ζb,a_];refine(decide_eq_true ?_).symm;rw[C,<-T,U];exact λh=>absurd h z
theorem IY (D:Small t) (G:VT t) {c:Sl Int} (J:Cons t A c.l) {p:Nat} (B:p<c.l.length):∃d:Sl Int,sW c (p:Int)=some d/\d.l=bump c.l p 1:=by
 have u:=w8 D G J;have Q:=u.1;have z:=ζd B;have C:=u.2 c.l[p] (List.getElem_mem B);unfold sW;obtain⟨r,I,w⟩:=Br (c:=c) Za Za
 rw[I,ζb,tK (by rw[w];exact B),ζb]
 unfold Sl.get;rw[w,z,ζb,ζb,jX _ Za Za]
 obtain⟨d,L,O⟩:=put_eq (s:=r) (p:=p) (x:=c.l[p]+1) (by rw[w];exact B)
 rw[L];exact⟨d,rfl,by rw[O,w,DD z]⟩
end
end Go.VE
