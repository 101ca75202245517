/-
 EvaluateChannels says true for all arguments that together are of bulk at most 1048576, and they read behind the call as they read before: for every such argument, without a condition.
-/
import Derived.Test.YtlmckmkfopljoaaGreatDoorRows
import Derived.Test.YtlmckmkfopljoaaGreatDoorCards
import Derived.Test.YtlmckmkfopljoaaGreatDoorTie
import Derived.Deep.DeepHandedRow
import Derived.Test.YtlmckmkfopljoaaGreatDoorK1
import Derived.Test.YtlmckmkfopljoaaGreatDoorG1
set_option linter.all false
namespace Go.VE
instance:cD Var where
 wt x:=cD.wt x.name+cD.wt x.init_+1
 ok x:=cD.ok x.name/\cD.ok x.init_/\True
instance:cD Assign where
 wt x:=cD.wt x.var+cD.wt x.value+1
 ok x:=cD.ok x.var/\cD.ok x.value/\True
instance:cD Event where
 wt x:=cD.wt x.kind+cD.wt x.peer+cD.wt x.message+cD.wt x.time+cD.wt x.assign+1
 ok x:=cD.ok x.kind/\cD.ok x.peer/\cD.ok x.message/\cD.ok x.time/\cD.ok x.assign/\True
instance:cD bQ where
 wt x:=cD.wt x.name+cD.wt x.vars+cD.wt x.events+1
 ok x:=cD.ok x.name/\cD.ok x.vars/\cD.ok x.events/\True
instance:cD Trace where
 wt x:=cD.wt x.procs+1
 ok x:=cD.ok x.procs/\True
instance:cD bT where
 wt x:=cD.wt x.low+cD.wt x.high+1
 ok x:=cD.ok x.low/\cD.ok x.high/\True
instance:cD bY where
 wt x:=cD.wt x.t+cD.wt x.counts+cD.wt x.values+1
 ok x:=cD.ok x.t/\cD.ok x.counts/\cD.ok x.values/\True
end Go.VE
namespace Go.VE.YtlmckmkfopljoaaGreatDoor
open Go.Proofs Go.Proofs.YtlmckmkfopljoaaGreatDoor
instance TF:Reads Tryz.prog 9 ByteArray:=Reads.str Tryz.underlying9 (by kernel_rfl)
instance TE:Reads Tryz.prog 3 Int:=Reads.int Tryz.underlying3 (by kernel_rfl)
instance Tn:Reads Tryz.prog 116 Var:=by
 refine Reads.st Tryz.underlying116 (by kernel_rfl) rfl ?_
 intro H enc w base spare held u cs l I h;simp only[List.mapM_cons,List.mapM_nil,Option.pure_def,Option.bind_eq_bind,ζg,ζa]at h;obtain⟨z,h0,J,⟨A,h1,L,rfl,rfl⟩,rfl⟩:=h;obtain⟨a0,B,k0,O⟩:=Reads.rd (P:=Tryz.prog) (t:=9) (α:=ByteArray) (d:=z.1) (ps:=z.2) h0;rw[show Tryz.prog.cellsOf 9=1 from by kernel_rfl]at B
 obtain⟨C,D,k1,Q⟩:=Reads.rd (P:=Tryz.prog) (t:=3) (α:=Int) (d:=A.1) (ps:=A.2) h1;rw[show Tryz.prog.cellsOf 3=1 from by kernel_rfl]at D
 refine⟨⟨a0,C⟩,fF.fin (n:=2) (fF.seg (o:=1) (n:=1) (fF.seg (o:=0) (n:=1) (show fF (snap w) [] (cs.take 0)from by simpa using fF.nil) B) D) I,⟨k0,k1,trivial⟩,λb G=>?_⟩
 have S:=O b G;have T:=Q b G;show cD.wt a0+cD.wt C+1<=_;simp only[List.map_cons,List.map_nil,List.sum_cons,List.sum_nil];omega
instance Ts:Reads Tryz.prog 46 (Sl Var):=Reads.sl (e:=116) Tryz.underlying46 (by kernel_rfl) (by decide)
instance Tm:Reads Tryz.prog 114 Assign:=by
 refine Reads.st Tryz.underlying114 (by kernel_rfl) rfl ?_
 intro H enc w base spare held u cs l I h;simp only[List.mapM_cons,List.mapM_nil,Option.pure_def,Option.bind_eq_bind,ζg,ζa]at h;obtain⟨z,h0,J,⟨A,h1,L,rfl,rfl⟩,rfl⟩:=h;obtain⟨a0,B,k0,O⟩:=Reads.rd (P:=Tryz.prog) (t:=3) (α:=Int) (d:=z.1) (ps:=z.2) h0;rw[show Tryz.prog.cellsOf 3=1 from by kernel_rfl]at B
 obtain⟨C,D,k1,Q⟩:=Reads.rd (P:=Tryz.prog) (t:=3) (α:=Int) (d:=A.1) (ps:=A.2) h1;rw[show Tryz.prog.cellsOf 3=1 from by kernel_rfl]at D
 refine⟨⟨a0,C⟩,fF.fin (n:=2) (fF.seg (o:=1) (n:=1) (fF.seg (o:=0) (n:=1) (show fF (snap w) [] (cs.take 0)from by simpa using fF.nil) B) D) I,⟨k0,k1,trivial⟩,λb G=>?_⟩
 have S:=O b G;have T:=Q b G;show cD.wt a0+cD.wt C+1<=_;simp only[List.map_cons,List.map_nil,List.sum_cons,List.sum_nil];omega
instance Tt:Reads Tryz.prog 49 (Sl Assign):=Reads.sl (e:=114) Tryz.underlying49 (by kernel_rfl) (by decide)
instance Tq:Reads Tryz.prog 51 Event:=by
 refine Reads.st Tryz.underlying51 (by kernel_rfl) rfl ?_
 intro H enc w base spare held z cs l U h;simp only[List.mapM_cons,List.mapM_nil,Option.pure_def,Option.bind_eq_bind,ζg,ζa]at h;obtain⟨A,h0,W,⟨B,h1,X,⟨x2,Y,Z,⟨C,h3,aa,⟨x4,h4,ab,rfl,rfl⟩,rfl⟩,rfl⟩,rfl⟩,rfl⟩:=h;obtain⟨a0,D,k0,b0⟩:=Reads.rd (P:=Tryz.prog) (t:=3) (α:=Int) (d:=A.1) (ps:=A.2) h0;rw[show Tryz.prog.cellsOf 3=1 from by kernel_rfl]at D
 obtain⟨G,I,k1,b1⟩:=Reads.rd (P:=Tryz.prog) (t:=3) (α:=Int) (d:=B.1) (ps:=B.2) h1;rw[show Tryz.prog.cellsOf 3=1 from by kernel_rfl]at I
 obtain⟨J,L,k2,b2⟩:=Reads.rd (P:=Tryz.prog) (t:=3) (α:=Int) (d:=x2.1) (ps:=x2.2) Y;rw[show Tryz.prog.cellsOf 3=1 from by kernel_rfl]at L
 obtain⟨O,Q,k3,b3⟩:=Reads.rd (P:=Tryz.prog) (t:=3) (α:=Int) (d:=C.1) (ps:=C.2) h3;rw[show Tryz.prog.cellsOf 3=1 from by kernel_rfl]at Q
 obtain⟨S,T,k4,b4⟩:=Reads.rd (P:=Tryz.prog) (t:=49) (α:=(Sl Assign)) (d:=x4.1) (ps:=x4.2) h4;rw[show Tryz.prog.cellsOf 49=1 from by kernel_rfl]at T
 refine⟨⟨a0,G,J,O,S⟩,fF.fin (n:=5) (fF.seg (o:=4) (n:=1) (fF.seg (o:=3) (n:=1) (fF.seg (o:=2) (n:=1) (fF.seg (o:=1) (n:=1) (fF.seg (o:=0) (n:=1) (show fF (snap w) [] (cs.take 0)from by simpa using fF.nil) D) I) L) Q) T) U,⟨k0,k1,k2,k3,k4,trivial⟩,λb u=>?_⟩
 have w0:=b0 b u;have w1:=b1 b u;have w2:=b2 b u;have w3:=b3 b u;have w4:=b4 b u;show cD.wt a0+cD.wt G+cD.wt J+cD.wt O+cD.wt S+1<=_;simp only[List.map_cons,List.map_nil,List.sum_cons,List.sum_nil];omega
instance Tu:Reads Tryz.prog 45 (Sl Event):=Reads.sl (e:=51) Tryz.underlying45 (by kernel_rfl) (by decide)
instance Tw:Reads Tryz.prog 48 bQ:=by
 refine Reads.st Tryz.underlying48 (by kernel_rfl) rfl ?_
 intro H enc w base spare held z cs l L h;simp only[List.mapM_cons,List.mapM_nil,Option.pure_def,Option.bind_eq_bind,ζg,ζa]at h;obtain⟨A,h0,O,⟨B,h1,Q,⟨x2,S,T,rfl,rfl⟩,rfl⟩,rfl⟩:=h;obtain⟨a0,C,k0,U⟩:=Reads.rd (P:=Tryz.prog) (t:=9) (α:=ByteArray) (d:=A.1) (ps:=A.2) h0;rw[show Tryz.prog.cellsOf 9=1 from by kernel_rfl]at C
 obtain⟨D,G,k1,W⟩:=Reads.rd (P:=Tryz.prog) (t:=46) (α:=(Sl Var)) (d:=B.1) (ps:=B.2) h1;rw[show Tryz.prog.cellsOf 46=1 from by kernel_rfl]at G
 obtain⟨I,J,X,Y⟩:=Reads.rd (P:=Tryz.prog) (t:=45) (α:=(Sl Event)) (d:=x2.1) (ps:=x2.2) S;rw[show Tryz.prog.cellsOf 45=1 from by kernel_rfl]at J
 refine⟨⟨a0,D,I⟩,fF.fin (n:=3) (fF.seg (o:=2) (n:=1) (fF.seg (o:=1) (n:=1) (fF.seg (o:=0) (n:=1) (show fF (snap w) [] (cs.take 0)from by simpa using fF.nil) C) G) J) L,⟨k0,k1,X,trivial⟩,λb u=>?_⟩
 have Z:=U b u;have w1:=W b u;have w2:=Y b u;show cD.wt a0+cD.wt D+cD.wt I+1<=_;simp only[List.map_cons,List.map_nil,List.sum_cons,List.sum_nil];omega
instance Tv:Reads Tryz.prog 22 (Sl bQ):=Reads.sl (e:=48) Tryz.underlying22 (by kernel_rfl) (by decide)
instance Ty:Reads Tryz.prog 24 Trace:=by
 refine Reads.st Tryz.underlying24 (by kernel_rfl) rfl ?_
 intro H enc w base spare held u cs l B h;simp only[List.mapM_cons,List.mapM_nil,Option.pure_def,Option.bind_eq_bind,ζg,ζa]at h;obtain⟨z,h0,C,rfl,rfl⟩:=h;obtain⟨a0,A,k0,D⟩:=Reads.rd (P:=Tryz.prog) (t:=22) (α:=(Sl bQ)) (d:=z.1) (ps:=z.2) h0;rw[show Tryz.prog.cellsOf 22=1 from by kernel_rfl]at A
 refine⟨⟨a0⟩,fF.fin (n:=1) (fF.seg (o:=0) (n:=1) (show fF (snap w) [] (cs.take 0)from by simpa using fF.nil) A) B,⟨k0,trivial⟩,λb G=>?_⟩
 have I:=D b G;show cD.wt a0+1<=_;simp only[List.map_cons,List.map_nil,List.sum_cons,List.sum_nil];omega
instance Tz:Reads Tryz.prog 25 (Sl Int):=Reads.sl (e:=3) Tryz.underlying25 (by kernel_rfl) (by decide)
end Go.VE.YtlmckmkfopljoaaGreatDoor
namespace Go.VE
end Go.VE
namespace Go.VE
abbrev N3 {α:Type} (m:Option α):Prop:=Wp m λ_=>True
theorem N3.ok {m:Option Bool} (h:N3 m):m=some (m.getD false):=by obtain⟨a,e,_⟩:=h;rw[e];rfl
def Small (t:Trace):Prop:=t.procs.l.length<1073741824/\∀p∈t.procs.l,p.events.l.length<1073741824/\p.vars.l.length<1073741824/\p.name.size<1073741824/\(∀v∈p.vars.l,v.name.size<1073741824)/\∀e∈p.events.l,e.assign.l.length<1073741824
section
theorem IF {s:Sl Event} {p:Event->Option Bool} {f:Event->Bool} (hp:∀x∈s.l,p x=some (f x)) (B:s.l.length<1073741824):eV s p=some (place f s.l):=
 sj hp (by omega) (λi=>rfl)
theorem KR {s:Sl bQ} {p:bQ->Option Bool} {f:bQ->Bool} (hp:∀x∈s.l,p x=some (f x)) (B:s.l.length<1073741824):fc s p=some (place f s.l):=
 sj hp (by omega) (λi=>rfl)
theorem L8 {s:Sl Var} {p:Var->Option Bool} {f:Var->Bool} (hp:∀x∈s.l,p x=some (f x)) (B:s.l.length<1073741824):eA s p=some (place f s.l):=
 sj hp (by omega) (λi=>rfl)
theorem GN {s:Sl Assign} {p:Assign->Option Bool} {f:Assign->Bool} (hp:∀x∈s.l,p x=some (f x)) (B:s.l.length<1073741824):eG s p=some (place f s.l):=
 sj hp (by omega) (λi=>rfl)
theorem xy {s:Sl Event} {p:Event->Option Bool} {f:Event->Bool} (hp:∀x∈s.l,p x=some (f x)) (B:s.l.length<1073741824):gb s p=some (s.l.any f):=by
 unfold gb;rw[IF hp B,ζb,sC]
theorem yC {s:Sl bQ} {p:bQ->Option Bool} {f:bQ->Bool} (hp:∀x∈s.l,p x=some (f x)) (B:s.l.length<1073741824):e_ s p=some (s.l.any f):=by
 unfold e_;rw[KR hp B,ζb,sC]
theorem GJ {s:Sl Var} {p:Var->Option Bool} {f:Var->Bool} (hp:∀x∈s.l,p x=some (f x)) (B:s.l.length<1073741824):fH s p=some (s.l.any f):=by
 unfold fH;rw[L8 hp B,ζb,sC]
theorem B6 {s:Sl Assign} {p:Assign->Option Bool} {f:Assign->Bool} (hp:∀x∈s.l,p x=some (f x)) (B:s.l.length<1073741824):fQ s p=some (s.l.any f):=by
 unfold fQ;rw[GN hp B,ζb,sC]
theorem ni (x B D:Int):lI x B D=some (decide (B<=x)&&decide (x<=D)):=by
 unfold lI;rw[kY];rfl
theorem IT {s:ByteArray} {i:Nat} (h:i<s.size):∃x,jE s (i:Int)=some x:=by
 unfold jE;rw[if_pos (by omega)]
 exact⟨_,by rw[show (s[(i:Int).toNat]?)=some s[i]from by simp[h]];rfl⟩
def jG (n:Nat) (p:Int) (e:Event):Prop:=e.kind=1\/((e.kind=2\/e.kind=3)/\0<=e.peer/\e.peer<n/\e.peer≠p/\0<=e.message/\e.message<=199)
end
end Go.VE
namespace Go.VE
def k_ (t:Trace) (p k:Nat) (e:Event):Prop:=∃P,t.procs.l[p]? = some P/\P.events.l[k]? = some e
theorem rY {p:Int} {x:aY×Event}:∀{es:List Event} {j:Int},x∈gC p j es↔∃k:Nat,es[k]? = some x.2/\x.1=⟨p,j+k+1⟩
 | [],j=>by simp[gC]
 | e::es,j=>by
  simp[gC,rY ];constructor
  .rintro (rfl|⟨k,h1,B⟩)
   .exact⟨0,rfl,by simp⟩
   .exact⟨k+1,by grind,by grind⟩
  grind
theorem sS {x:aY×Event}:∀{ps:List bQ} {i:Int},x∈eU i ps↔∃(a k:Nat) (P:bQ),ps[a]? = some P/\P.events.l[k]? = some x.2/\x.1=⟨i+a,k+1⟩
 | [],i=>by simp[eU]
 | p::ps,i=>by
  simp only[eU,List.mem_append,rY,sS ];constructor
  .rintro (⟨k,h1,B⟩|⟨a,k,P,h1,B,D⟩)
   .exact⟨0,k,p,rfl,h1,by grind⟩
   .exact⟨a+1,k,P,by simp_all,B,by grind⟩
  grind
abbrev bN (t:Trace):List (aY×Event):=eU 0 t.procs.l
theorem dF {t:Trace} {x:aY×Event}:x∈bN t↔∃p k:Nat,k_ t p k x.2/\x.1=⟨p,k+1⟩:=by
 rw[sS];constructor
 .rintro⟨a,k,P,h1,u,w⟩;exact⟨a,k,⟨P,h1,u⟩,by grind⟩
 .rintro⟨a,k,⟨P,h1,u⟩,w⟩;grind
theorem wS {t:Trace} {x y:aY×Event} (B:x∈bN t) (D:y∈bN t) (h:x.1=y.1):x=y:=by
 obtain⟨p,k,⟨P,u,hk⟩,e1⟩:=dF.1 B;obtain⟨q,j,⟨Q,w,z⟩,e2⟩:=dF.1 D
 grind
theorem qK {t:Trace} (B:Small t):h_ t=some (bN t):=by
 unfold h_;rw[if_pos];simp[mP];exact⟨by have:=B.1;omega,λp u=>by have:=(B.2 p u).1;omega⟩
def qF (t:Trace) (p m to:Int):Bool:=match t.procs.l[p.toNat]? with
 | some P=>P.events.l.any λe=>e.kind==2&&e.message==m&&e.peer==to
 | none=>false
theorem LA {t:Trace} (B:Small t) {p:Int} (h0:0<=p) (h1:p<t.procs.l.length) (m to:Int):rW t p m to=some (qF t p m to):=by
 unfold rW;have u:p.toNat<t.procs.l.length:=by omega
 have w:=List.getElem_mem u;rw[QW h0,ζd u,ζb,xy (f:=λe=>e.kind==2&&e.message==m&&e.peer==to) (λe _=>by
  unfold oJ;simp[kY]) (B.2 _ w).1,ζb]
 unfold qF
 grind
theorem w5 {t:Trace} {p:Nat} {m to:Int}:qF t p m to=true↔∃k e,k_ t p k e/\e.kind=2/\e.message=m/\e.peer=to:=by
 unfold qF k_;rw[show (p:Int).toNat=p from rfl]
 cases w:t.procs.l[p]? with
 | none=>simp
 | some P=>
  simp;constructor
  .rintro⟨e,u,h⟩;obtain⟨k,hk⟩:=List.getElem?_of_mem u
   grind
  grind
def ag (A:cC 200 bG) (m:Int):bG:=(A.at m).getD default
theorem Jb (A:cC 200 bG) {m:Int} (h0:0<=m) (h1:m<=199):A.at m=some (ag A m):=by
 have:m.toNat<A.l.length:=by rw[A.len];omega
 unfold ag cC.at
 grind
theorem pz (A:cC 200 bG) {m m':Int} (x:bG) (h0:0<=m) (h1:m<=199) (B:0<=m'):ag (A.set m x) m'=if m'=m then x else ag A m':=by
 have:m.toNat<A.l.length:=by rw[A.len];omega
 unfold ag cC.at cC.set
 grind
theorem KH {m:Int} (h0:0<=m) (h1:m<=199):ag (cC.JL 200 (⟨⟨0,0⟩,⟨0,0⟩⟩:bG)) m=⟨⟨0,0⟩,⟨0,0⟩⟩:=by
 unfold ag cC.at cC.JL
 grind
structure kT (t:Trace) (its:List (aY×Event)) (A:cC 200 bG):Prop where
 snd:∀x∈its,x.2.kind=2->(ag A x.2.message).from_=x.1
 rcv:∀x∈its,x.2.kind=3->(ag A x.2.message).to_=x.1/\qF t x.2.peer x.2.message x.1.proc=true
 fr:∀m,0<=m->m<=199->(ag A m).from_.index=0\/∃e,((ag A m).from_,e)∈its/\e.kind=2/\e.message=m
 to:∀m,0<=m->m<=199->(ag A m).to_.index=0\/∃e,((ag A m).to_,e)∈its/\e.kind=3/\e.message=m
def IJ (a b:aY×Event):Prop:=a.1.proc<b.1.proc\/a.1.proc=b.1.proc/\a.1.index<b.1.index
theorem JD {p:Int}:∀{es:List Event} {j:Int},(gC p j es).Pairwise IJ
 | [],_=>List.Pairwise.nil
 | e::es,j=>by
  simp only[gC,List.pairwise_cons];refine⟨λb B=>?_,JD⟩
  obtain⟨k,_,D⟩:=rY.1 B;refine .inr ⟨by rw[D],?_⟩
  grind
theorem FK:∀{ps:List bQ} {i:Int},(eU i ps).Pairwise IJ
 | [],_=>List.Pairwise.nil
 | P::ps,i=>by
  simp only[eU,List.pairwise_append];refine⟨JD,FK,λa B b D=>.inl ?_⟩
  obtain⟨k,_,G⟩:=rY.1 B;obtain⟨c,j,P,_,_,u⟩:=sS.1 D
  grind
theorem FX {t:Trace} {k:Nat} {x y:aY×Event} (B:(bN t)[k]? = some x) (D:y∈(bN t).take k):y.1≠x.1:=by
 obtain⟨h1,u⟩:=ζe.1 B;have w:((bN t).take k++(bN t).drop k).Pairwise IJ:=by rw[List.take_append_drop];exact FK
 have:=(List.pairwise_append.1 w).2.2 y D x (by rw[List.drop_eq_getElem_cons h1,u];grind)
 unfold IJ at this
 grind
structure vV (t:Trace):Prop where
 snd:∀x∈bN t,∀y∈bN t,x.2.kind=2->y.2.kind=2->x.2.message=y.2.message->x.1=y.1
 rcv:∀x∈bN t,∀y∈bN t,x.2.kind=3->y.2.kind=3->x.2.message=y.2.message->x.1=y.1
 has:∀x∈bN t,x.2.kind=3->qF t x.2.peer x.2.message x.1.proc=true
theorem kT.yN {t:Trace} {A:cC 200 bG} (h:kT t (bN t) A):vV t:=
 ⟨λx w y z B u C=>by rw[<-h.snd x w B,<-h.snd y z u,C],λx w y z B u C=>by rw[<-(h.rcv x w B).1,<-(h.rcv y z u).1,C],λx w k=>(h.rcv x w k).2⟩
theorem B1 {t:Trace} (hS:Small t) (hF:∀x∈bN t,jG t.procs.l.length x.1.proc x.2):Wp (ec t) λr=>(r.2.2=0->∃A,r.1=some A/\kT t (bN t) A)/\(vV t->r.2.2=0):=by
 unfold ec gZ;rw[ζb];unfold ec.E1;rw[qK hS,ζb];refine vR (λk A=>kT t ((bN t).take k) A) ⟨by simp,by simp,λm h0 h1=>.inl (by rw[KH h0 h1]),λm h0 h1=>.inl (by rw[KH h0 h1])⟩ ?_ ?_
 .intro k x A hx B;have G  := List.mem_of_getElem? hx;have S:(bN t).take (k+1)=(bN t).take k++[x]:=by rw[List.take_add_one,hx];rfl
  obtain⟨p,j,aa,ab⟩:=dF.1 G;have hf:=hF x G;unfold ec.js;rw[cm];constructor
  .intro hk;have L:x.2.kind=2:=by grind
   have u:0<=x.2.message/\x.2.message<=199:=by
    rcases hf with h|⟨_,_,_,_,h⟩
    .omega
    simp_all
   rw[Jb A u.1 u.2,ζb,cm];refine⟨λhg=>(bh _).2 ((bh _).2 ⟨λh=>(by cases h),λX=>?_⟩),λh0=>?_⟩
   .rcases B.fr _ u.1 u.2 with Y|⟨e,O,T,U⟩
    .grind
    .exact absurd (X.snd _ (List.mem_of_mem_take O) x G T L U) (FX hx O)
   rw[ζb,bh,S];have W:∀y∈(bN t).take k,y.2.kind=2->y.2.message≠x.2.message:=λy hy w O=>by
    have:=B.snd y hy w;rw[O]at this;obtain⟨p',j',_,Q⟩:=dF.1 (List.mem_of_mem_take hy)
    grind
   have Z:∀y∈(bN t).take k,y.2.kind=2\/y.2.kind=3->0<=y.2.message:=λy hy w=>by
    rcases hF y (List.mem_of_mem_take hy)with h|⟨_,_,_,_,h,_⟩
    .omega
    simp_all
   refine⟨λy hy w=>?_,λy hy z=>?_,λm C I=>?_,λm C I=>?_⟩
   .rcases List.mem_append.1 hy with hy|hy
    .rw[pz A _ u.1 u.2 (Z y hy (.inl w)),if_neg (W y hy w)];exact B.snd y hy w
    .simp at hy;subst hy;rw[pz A _ u.1 u.2 u.1,if_pos rfl]
   .rcases List.mem_append.1 hy with hy|hy
    .rw[pz A _ u.1 u.2 (Z y hy (.inr z))];have:=B.rcv y hy z
     grind
    grind
   .rw[pz A _ u.1 u.2 C];split
    .rename_i e;exact .inr ⟨x.2,by simp,L,e.symm⟩
    .exact(B.fr m C I).imp (λh=>h) λ⟨e,h1,D⟩=>⟨e,List.mem_append_left _ h1,D⟩
   .rw[pz A _ u.1 u.2 C];have:=(B.to m C I).imp (λh=>h) λ⟨e,h1,D⟩=>(⟨e,List.mem_append_left [x] h1,D⟩:∃e,((ag A m).to_,e)∈(bN t).take k++[x]/\e.kind=3/\e.message=m)
    split
    .rename_i e;subst e;omega
    omega
  .intro hk;have L  := by simpa using hk
   rw[cm];constructor
   .intro hk;have J  := by simpa using hk
    have u:0<=x.2.message/\x.2.message<=199/\0<=x.2.peer/\x.2.peer<t.procs.l.length:=by
     rcases hf with h|⟨_,h1,D,_,h3,h4⟩
     .omega
     .exact⟨h3,h4,h1,D⟩
    rw[Jb A u.1 u.2.1,ζb,cm];refine⟨λhg=>(bh _).2 ((bh _).2 ⟨λh=>(by cases h),λX=>?_⟩),λh0=>?_⟩
    .rcases B.to _ u.1 u.2.1 with Y|⟨e,O,T,U⟩
     .simp[Y]at hg
     .exact absurd (X.rcv _ (List.mem_of_mem_take O) x G T J U) (FX hx O)
    have h0:¬(ag A x.2.message).to_.index>0:=by simpa using h0
    rw[LA hS u.2.2.1 u.2.2.2,ζb,cm];refine⟨λhs=>?_,λhs=>(bh _).2 ((bh _).2 ⟨λh=>(by cases h),λX=>by rw[X.has x G J]at hs;cases hs⟩)⟩
    rw[ζb,bh,S];have W:∀y∈(bN t).take k,y.2.kind=3->y.2.message≠x.2.message:=λy hy w O=>by
     have:=(B.rcv y hy w).1;rw[O]at this;rw[this]at h0;obtain⟨p',j',_,Q⟩:=dF.1 (List.mem_of_mem_take hy);rw[Q]at h0;exact h0 (by show (j':Int)+1>0;omega)
    have Z:∀y∈(bN t).take k,y.2.kind=2\/y.2.kind=3->0<=y.2.message:=λy hy w=>by
     rcases hF y (List.mem_of_mem_take hy)with h|⟨_,_,_,_,h,_⟩
     .omega
     .exact h
    refine⟨λy hy w=>?_,λy hy z=>?_,λm C I=>?_,λm C I=>?_⟩
    .rcases List.mem_append.1 hy with hy|hy
     .rw[pz A _ u.1 u.2.1 (Z y hy (.inl w))];have:=B.snd y hy w;split
      .rename_i e;rw[e]at this;exact this
      .exact this
     .simp at hy;subst hy;omega
    .rcases List.mem_append.1 hy with hy|hy
     .rw[pz A _ u.1 u.2.1 (Z y hy (.inr z)),if_neg (W y hy z)];exact B.rcv y hy z
     .simp at hy;subst hy;rw[pz A _ u.1 u.2.1 u.1,if_pos rfl];exact⟨rfl,hs⟩
    .rw[pz A _ u.1 u.2.1 C];have:=(B.fr m C I).imp (λh=>h) λ⟨e,h1,D⟩=>(⟨e,List.mem_append_left [x] h1,D⟩:∃e,((ag A m).from_,e)∈(bN t).take k++[x]/\e.kind=2/\e.message=m)
     split
     .rename_i e;subst e;exact this
     .exact this
    .rw[pz A _ u.1 u.2.1 C];split
     .rename_i e;exact .inr ⟨x.2,by simp,J,e.symm⟩
     .exact(B.to m C I).imp (λh=>h) λ⟨e,h1,D⟩=>⟨e,List.mem_append_left _ h1,D⟩
   .intro hk;have J  := by simpa using hk
    rw[bh,S];refine⟨λy hy w=>?_,λy hy z=>?_,λm C I=>?_,λm C I=>?_⟩
    .rcases List.mem_append.1 hy with hy|hy
     .exact B.snd y hy w
     .simp at hy;subst hy;exact absurd w L
    .rcases List.mem_append.1 hy with hy|hy
     .exact B.rcv y hy z
     .simp at hy;subst hy;exact absurd z J
    .exact(B.fr m C I).imp (λh=>h) λ⟨e,h1,D⟩=>⟨e,List.mem_append_left _ h1,D⟩
    .exact(B.to m C I).imp (λh=>h) λ⟨e,h1,D⟩=>⟨e,List.mem_append_left _ h1,D⟩
 .intro A hA;rw[List.take_length]at hA;exact(bh _).2 ⟨λ_=>⟨A,rfl,hA⟩,λ_=>rfl⟩
end Go.VE
namespace Go.VE
def gM (f:Nat->Bool) (k n:Nat):Bool:=(List.range' k (n-k)).any f
theorem CQ {f:Nat->Bool} {k n:Nat} (h:k<n):gM f k n=(f k||gM f (k+1) n):=by
 unfold gM;rw[show n-k=(n-(k+1))+1 from by omega,List.range'_succ];rfl
theorem L_ {f:Nat->Bool} {k n:Nat} (h:n<=k):gM f k n=false:=by
 unfold gM;rw[show n-k=0 from by omega];rfl
theorem M9 {f:Nat->Bool} {k n:Nat}:gM f k n=true↔∃i,k<=i/\i<n/\f i=true:=by
 unfold gM;rw[List.any_eq_true];constructor
 .rintro⟨i,w,u⟩;rw[List.mem_range'_1]at w;exact⟨i,w.1,by omega,u⟩
 .rintro⟨i,h1,z,u⟩;exact⟨i,by rw[List.mem_range'_1];omega,u⟩
theorem Ce {step:Int->Option (Fw Int Unit Unit)} {n:Nat} (f:Nat->Bool) (D:n<9223372036854775807) (h1:∀i:Nat,i<n->step i=some (if f i then .r ()else .n (IntKind.wrap .i64 ((i:Int)+1)))) (B:step (n:Int)=some (.x ())) :
 ∀m k:Nat,k+m=n->bX step (k:Int)=some (if gM f k n then .r ()else .x ()):=by
 intro m
 induction m with
 | zero=>
  intro k hk;have:k=n:=by omega
  subst this;rw[eo,B,L_ (Nat.le_refl _)];rfl
 | succ m u=>
  intro k hk;rw[eo,h1 k (by omega),CQ (by omega)]
  cases w:f k with
  | true=>rfl
  | false=>
   simp only[Bool.false_eq_true,if_false,ζb,Bool.false_or];rw[dP k (by omega)]
   exact u (k+1) (by omega)
def lK (g:Nat->Int) (k n:Nat):Int:=match (List.range' k (n-k)).find? λi => !(g i==0)with
 | some i=>g i
 | none=>0
theorem CV {g:Nat->Int} {k n:Nat} (h:k<n):lK g k n=if g k=0 then lK g (k+1) n else g k:=by
 unfold lK;rw[show n-k=(n-(k+1))+1 from by omega,List.range'_succ,List.find?_cons]
 by_cases h0:g k=0
 .simp[h0]
 .rw[if_neg h0,show (!(g k==0))=true from by simp[h0]]
theorem EL {g:Nat->Int} {k n:Nat} (h:n<=k):lK g k n=0:=by
 unfold lK;rw[show n-k=0 from by omega];rfl
theorem JY {g:Nat->Int} {n:Nat}:∀{m k:Nat},k+m=n->(lK g k n=0↔∀i,k<=i->i<n->g i=0):=by
 intro m
 induction m with
 | zero=>intro k hk;rw[EL (by omega)];exact⟨λ_ i h1 u=>by omega,λ_=>rfl⟩
 | succ m w=>
  intro k hk;rw[CV (by omega)]
  split
  .rename_i h0;rw[w (show k+1+m=n by omega)]
   constructor
   .intro h i h1 u
    by_cases e:i=k
    .subst e;exact h0
    .exact h i (by omega) u
   .intro h i h1 u;exact h i (by omega) u
  .rename_i h0;exact⟨λh=>absurd h h0,λh=>absurd (h k (Nat.le_refl _) (by omega)) h0⟩
theorem Pc {step:Int->Option (Fw Int Unit Int)} {n:Nat} (g:Nat->Int) (D:n<9223372036854775807) (h1:∀i:Nat,i<n->step i=some (if g i=0 then .n (IntKind.wrap .i64 ((i:Int)+1))else .r (g i))) (B:step (n:Int)=some (.x ())) :
 ∀m k:Nat,k+m=n->bX step (k:Int)=some (if lK g k n=0 then .x ()else .r (lK g k n)):=by
 intro m
 induction m with
 | zero=>
  intro k hk;have:k=n:=by omega
  subst this;rw[eo,B,EL (Nat.le_refl _)];rfl
 | succ m u=>
  intro k hk;rw[eo,h1 k (by omega),CV (by omega)]
  by_cases h0:g k=0
  .simp only[h0,if_true,ζb];rw[dP k (by omega)]
   exact u (k+1) (by omega)
  .simp only[h0,if_false,ζb]
theorem xh {step:Int->Option (Fw Int Unit Int)} {n:Nat} (g:Nat->Int) (B:n<9223372036854775807) (h1:∀i:Nat,i<n->step i=some (if g i=0 then .n (IntKind.wrap .i64 ((i:Int)+1))else .r (g i))) (D:step (n:Int)=some (.x ())):bX step 0=some (if lK g 0 n=0 then .x ()else .r (lK g 0 n)):=Pc g B h1 D n 0 (by omega)
theorem Aq {step:Int->Option (Fw Int Unit Unit)} {n:Nat} (f:Nat->Bool) (B:n<9223372036854775807) (h1:∀i:Nat,i<n->step i=some (if f i then .r ()else .n (IntKind.wrap .i64 ((i:Int)+1)))) (D:step (n:Int)=some (.x ())):bX step 0=some (if gM f 0 n then .r ()else .x ()):=Ce f B h1 D n 0 (by omega)
def vz (c:Int):Bool:=decide (c>=65)&&decide (c<=90)||decide (c>=97)&&decide (c<=122)
def Ab (c:Int):Bool:=decide (c>=48)&&decide (c<=57)
theorem Bp (c:Int):nR c=some (vz c):=by
 unfold nR vz;simp only[kY,j7,ζb];rw[Bool.or_comm]
theorem AT (c:Int):mR c=some (vz c):=by
 unfold mR vz;simp only[kY,j7,ζb]
theorem Km (c:Int):rN c=some (Ab c):=by
 unfold rN Ab;simp only[kY,ζb]
theorem K2 (c:Int):qE c=some (Ab c):=by
 unfold qE Ab;simp only[kY,ζb]
def u_ (s:ByteArray) (i:Nat):Int:=(jE s (i:Int)).getD 0
theorem Bu {s:ByteArray} {i:Nat} (h:i<s.size):jE s (i:Int)=some (u_ s i):=by
 obtain⟨x,u⟩:=IT h;unfold u_;rw[u];rfl
def qy (s:ByteArray) (i:Nat):Bool := !vz (u_ s i) && !Ab (u_ s i) && !(u_ s i==95)
def ki (s:ByteArray):Bool:=decide (1<=s.size)&&decide (s.size<=16)&&vz (u_ s 0) && !gM (qy s) 0 s.size
theorem IX {s:ByteArray} {i:Nat} (h:i<s.size):fm.bF s (s.size:Int) i=some (if qy s i then .r ()else .n (IntKind.wrap .i64 ((i:Int)+1))):=by
 unfold fm.bF qy;rw[show decide ((i:Int)<(s.size:Int))=true from by simpa using h,cg,Bu h]
 simp only[ζb,Bp,Km];cases vz (u_ s i) <;> cases Ab (u_ s i) <;> cases (u_ s i==95) <;> rfl
theorem HV {s:ByteArray} {i:Nat} (h:i<s.size):fV.bF s i=some (if qy s i then .r ()else .n (IntKind.wrap .i64 ((i:Int)+1))):=by
 unfold fV.bF qy;rw[show decide ((i:Int)<((ByteArray.size s:Nat):Int))=true from by simpa using h,cg,Bu h]
 simp only[ζb,AT,K2];cases vz (u_ s i) <;> cases Ab (u_ s i) <;> cases (u_ s i==95) <;> rfl
theorem toList_empty {s:ByteArray}:(ByteArray.toList s==ByteArray.toList ByteArray.empty)=decide (s.size=0):=by
 rw[Bool.eq_iff_iff,beq_iff_eq,decide_eq_true_eq];constructor
 .intro h;have h1:(ByteArray.toList s).length=s.size:=by rw[Go.ByteArray.toList_eq];simp
  rw[<-h1,h];rw[Go.ByteArray.toList_eq];rfl
 .intro h;have:s=ByteArray.empty:=by
   apply ByteArray.ext;exact Array.eq_empty_of_size_eq_zero h
  rw[this]
theorem C5 {s:ByteArray} (B:s.size<1073741824):fm s=some (ki s):=by
 unfold fm;rw[toList_empty];simp only[j7,ζb]
 by_cases h0:s.size=0
 .simp[h0,ki,bl]
 by_cases u:s.size<=16
 .have hc:(decide (s.size=0)||decide (((ByteArray.size s:Nat):Int)>16))=false:=by simp[h0];omega
  rw[hc,dg,show (0:Int)=((0:Nat):Int)from rfl,Bu (show 0<s.size by omega)]
  simp only[ζb,Bp]
  cases w:vz (u_ s 0)with
  | false=>simp[ki,w,bl]
  | true=>
   simp only[Bool.not_true,dg];unfold fm.W1;rw[Ce (n:=s.size) (qy s) (by omega) (λi z=>IX z) (by unfold fm.bF;simp[bl]) s.size 0 (by omega)]
   have:ki s = !gM (qy s) 0 s.size:=by simp[ki,w,u];omega
   rw[this];cases gM (qy s) 0 s.size <;> rfl
 .have hc:(decide (s.size=0)||decide (((ByteArray.size s:Nat):Int)>16))=true:=by simp;omega
  rw[hc,cg];simp[ki,u,bl]
theorem FG {s:ByteArray} (B:s.size<1073741824):fV s=some (ki s):=by
 unfold fV;simp only[j7,ζb]
 by_cases h0:s.size=0
 .simp[h0,ki,bl]
 by_cases u:s.size<=16
 .have hc:(decide (((ByteArray.size s:Nat):Int)<1)||decide (((ByteArray.size s:Nat):Int)>16))=false:=by simp;omega
  rw[hc,dg,show (0:Int)=((0:Nat):Int)from rfl,Bu (show 0<s.size by omega)]
  simp only[ζb,AT]
  cases w:vz (u_ s 0)with
  | false=>simp[ki,w,bl]
  | true=>
   simp only[Bool.not_true,dg];unfold fV.W1;rw[show (1:Int)=((1:Nat):Int)from rfl,Ce (n:=s.size) (qy s) (by omega) (λi A=>HV A) (by unfold fV.bF;simp[bl]) (s.size-1) 1 (by omega)]
   have z:qy s 0=false:=by simp[qy,w]
   have:ki s = !gM (qy s) 1 s.size:=by
    have h1:=CQ (f:=qy s) (show 0<s.size by omega)
    rw[z]at h1;simp[ki,w,u,h1];omega
   rw[this];cases gM (qy s) 1 s.size <;> rfl
 .have hc:(decide (((ByteArray.size s:Nat):Int)<1)||decide (((ByteArray.size s:Nat):Int)>16))=true:=by simp;omega
  rw[hc,cg];simp[ki,u,bl]
end Go.VE
namespace Go.VE
def fO {α:Type} (l:List α) (f:α->Bool) (i:Nat):Bool:=match l[i]? with|some y=>f y|none=>false
theorem xN {α:Type} {l:List α} {f:α->Bool} {i:Nat} (h:i<l.length):fO l f i=f l[i]:=by unfold fO;rw[ζd h]
theorem AB {α:Type} {l:List α} {f:α->Bool} {p:Nat}:(l.take p).any f=gM (fO l f) 0 p:=by
 rw[Bool.eq_iff_iff,List.any_eq_true,M9];constructor
 .rintro⟨x,z,u⟩;obtain⟨i,w⟩:=List.getElem?_of_mem z;have A:=(ζe.1 w).1;rw[List.length_take]at A;rw[List.getElem?_take,if_pos (by omega)]at w
  exact⟨i,Nat.zero_le _,by omega,by unfold fO;rw[w];exact u⟩
 .rintro⟨i,_,w,u⟩;unfold fO at u;split at u
  .rename_i y B;exact⟨y,List.mem_of_getElem? (i:=i) (by rw[List.getElem?_take,if_pos w];exact B),u⟩
  .cases u
def pS (a b:ByteArray):Bool:=ByteArray.toList a==ByteArray.toList b
def P8:Bool->Bool->Bool->Int
 | true,false,true=>0
 | true,false,false=>2
 | _,_,_=>13
def sn (P:bQ) (i:Nat):Int:=match P.vars.l[i]? with
 | some v=>P8 (ki v.name) (gM (fO P.vars.l λw=>pS w.name v.name) 0 i) (decide (v.init_>=-1073741824)&&decide (v.init_<=1073741824))
 | none=>0
def q_ (t:Trace) (p:Nat):Int:=match t.procs.l[p]? with
 | some P=>if ki P.name && !gM (fO t.procs.l λy=>pS y.name P.name) 0 p then
  (if P.vars.l.length>8 then 5 else if lK (sn P) 0 P.vars.l.length=0 then(if P.events.l.length>64 then 5 else 0)else lK (sn P) 0 P.vars.l.length)else 13
 | none=>0
theorem Dw {P:bQ} {i:Nat} (h:i<P.vars.l.length):sn P i=P8 (ki P.vars.l[i].name) (gM (fO P.vars.l λw=>pS w.name P.vars.l[i].name) 0 i) (decide (P.vars.l[i].init_>=-1073741824)&&decide (P.vars.l[i].init_<=1073741824)):=by
 unfold sn;rw[ζd h]
theorem CC (n:Int):nP n=some (decide (n>=-1073741824)&&decide (n<=1073741824)):=by
 unfold nP;rw[kY];rfl
theorem LK {t:Trace} (U:Small t) {p:Nat} (hp:p<t.procs.l.length):d_ t p=some (q_ t p):=by
 have X:=U.2 _ (List.getElem_mem hp);have h1:=U.1;unfold d_ q_;rw[cr hp,ζb,ζd hp];generalize Y:t.procs.l[p]=P at *;obtain⟨T,Z,Q,u,_⟩:=X;rw[C5 Q,ζb];obtain⟨x,hx,D⟩:=oa t.procs p (by omega)
 have G:e_ x (λz=>iD z P)=some (gM (fO t.procs.l λy=>pS y.name P.name) 0 p):=by
  rw[yC (p:=λz=>iD z P) (f:=λy=>pS y.name P.name) (λy _=>rfl) (by rw[D,List.length_take];omega),D,AB]
 rw[hx,ζb,G,ζb];dsimp only
 cases hn:ki P.name with
 | false=>simp[bl]
 | true=>
  rw[cg,ζb,Bool.true_and]
  cases hd:gM (fO t.procs.l λy=>pS y.name P.name) 0 p with
  | true=>simp[bl]
  | false=>
   rw[dg];simp only[Bool.not_false,if_true]
   by_cases W:P.vars.l.length>8
   .rw[show decide (len P.vars>8)=true from by simp[len];omega,cg,if_pos W]
   .rw[show decide (len P.vars>8)=false from by simp[len];omega,dg,if_neg W]
    unfold d_.W1;rw[xh (n:=P.vars.l.length) (sn P) (by omega) (λi L=>?_) (by unfold d_.bF;simp[bl,len])]
    .by_cases O:lK (sn P) 0 P.vars.l.length=0
     .rw[if_pos O,if_pos O];show bl (decide (len P.events>64)) (some 5) (some 0)=_;rw[rq];simp only[len,decide_eq_true_eq]
      by_cases I:P.events.l.length>64
      .rw[if_pos I,if_pos (by omega)]
      .rw[if_neg I,if_neg (by omega)]
     .rw[if_neg O,if_neg O];rfl
    .unfold d_.bF;rw[Dw L,show decide ((i:Int)<len P.vars)=true from by simp[len];exact L,cg,cr L,ζb]
     have hv:=u _ (List.getElem_mem L);obtain⟨y,hy,J⟩:=oa P.vars i (by omega)
     have S:fH y (λz=>iB z P.vars.l[i])=some (gM (fO P.vars.l λw=>pS w.name P.vars.l[i].name) 0 i):=by
      rw[GJ (p:=λz=>iB z P.vars.l[i]) (f:=λw=>pS w.name P.vars.l[i].name) (λw _=>rfl) (by rw[J,List.length_take];omega),J,AB]
     rw[C5 hv,ζb,hy,ζb,S,ζb,ni];have hr:(decide (-1073741824<=P.vars.l[i].init_)&&decide (P.vars.l[i].init_<=1073741824))=(decide (P.vars.l[i].init_>=-1073741824)&&decide (P.vars.l[i].init_<=1073741824)):=rfl;rw[hr];generalize ki P.vars.l[i].name=A;generalize gM (fO P.vars.l λw=>pS w.name P.vars.l[i].name) 0 i=B
     generalize (decide (P.vars.l[i].init_>=-1073741824)&&decide (P.vars.l[i].init_<=1073741824))=C;cases A <;> cases B <;> cases C <;> rfl
theorem MW {t:Trace} (U:Small t) {p:Nat} (hp:p<t.procs.l.length):dL t p=some (q_ t p):=by
 have S:=U.2 _ (List.getElem_mem hp);have h1:=U.1;unfold dL q_;rw[cr hp,ζb,ζd hp];generalize T:t.procs.l[p]=P at *;obtain⟨O,W,L,z,_⟩:=S;rw[FG L,ζb];dsimp only
 cases Z:ki P.name with
 | false=>simp[bl]
 | true=>
  rw[cg,Bool.true_and];unfold dL.W1;rw[Aq (n:=p) (fO t.procs.l λy=>pS y.name P.name) (by omega) (λi u=>?_) (by unfold dL.bF;simp[bl])]
  .cases hd:gM (fO t.procs.l λy=>pS y.name P.name) 0 p with
   | true=>rfl
   | false=>
    simp only[Bool.not_false,if_true];show bl (decide (len P.vars>8)) (some 5) (dL.W2 0 P)=_
    by_cases Q:P.vars.l.length>8
    .rw[show decide (len P.vars>8)=true from by simp[len];omega,cg,if_pos Q]
    .rw[show decide (len P.vars>8)=false from by simp[len];omega,dg,if_neg Q]
     unfold dL.W2;rw[xh (n:=P.vars.l.length) (sn P) (by omega) (λi u=>?_) (by unfold dL.cq;simp[bl,len])]
     .by_cases J:lK (sn P) 0 P.vars.l.length=0
      .rw[if_pos J,if_pos J];show bl (decide (len P.events>64)) (some 5) (some 0)=_;rw[rq];simp only[len,decide_eq_true_eq]
       by_cases D:P.events.l.length>64
       .rw[if_pos D,if_pos (by omega)]
       .rw[if_neg D,if_neg (by omega)]
      .rw[if_neg J,if_neg J];rfl
     .unfold dL.cq;rw[Dw u,show decide ((i:Int)<len P.vars)=true from by simp[len];exact u,cg,cr u,ζb]
      rw[FG (z _ (List.getElem_mem u)),ζb];have X:dL.W3 i 0 P=if gM (fO P.vars.l λw=>pS w.name P.vars.l[i].name) 0 i then some (.r 13)else(if decide (P.vars.l[i].init_>=-1073741824)&&decide (P.vars.l[i].init_<=1073741824)then some (.n (IntKind.wrap .i64 ((i:Int)+1)))else some (.r 2)):=by
       unfold dL.W3;rw[Aq (n:=i) (fO P.vars.l λw=>pS w.name P.vars.l[i].name) (by omega) (λj Y=>?_) (by unfold dL.dZ;simp[bl])]
       .cases gM (fO P.vars.l λw=>pS w.name P.vars.l[i].name) 0 i with
        | true=>rfl
        | false=>
         show (idx P.vars (i:Int)).bind _=_;rw[cr u,ζb,CC,ζb];cases (decide (P.vars.l[i].init_>=-1073741824)&&decide (P.vars.l[i].init_<=1073741824)) <;> rfl
       .unfold dL.dZ;have G:j<P.vars.l.length:=by omega
        rw[show decide ((j:Int)<(i:Int))=true from by simpa using Y,cg,cr G,ζb,cr u,ζb,xN G,rq];rfl
      rw[X];generalize ki P.vars.l[i].name=A;generalize gM (fO P.vars.l λw=>pS w.name P.vars.l[i].name) 0 i=B
      generalize (decide (P.vars.l[i].init_>=-1073741824)&&decide (P.vars.l[i].init_<=1073741824))=C;cases A <;> cases B <;> cases C <;> rfl
  .unfold dL.bF;have I:i<t.procs.l.length:=by omega
   rw[show decide ((i:Int)<(p:Int))=true from by simpa using u,cg,cr I,ζb,xN I,rq];rfl
end Go.VE
namespace Go.VE
def FQ (n:Nat) (p:Int) (e:Event):Bool:=if e.kind==1 then e.peer==0&&e.message==0 else(e.kind==2||e.kind==3)&&(decide (0<=e.peer)&&decide (e.peer<n)) && !(e.peer==p)&&(decide (0<=e.message)&&decide (e.message<=199))
theorem K3 {t:Trace} (D:Small t) (p:Int) (e:Event):gq t p e=some (FQ t.procs.l.length p e):=by
 have h1:=D.1;have w:IntKind.wrap .i64 (len t.procs-1)=len t.procs-1:=rP _ (by simp[len];omega) (by simp[len];omega)
 have u:∀b:Bool,gq.J1 p b t e=some (b&&(decide (0<=e.peer)&&decide (e.peer<t.procs.l.length)) && !(e.peer==p)&&(decide (0<=e.message)&&decide (e.message<=199))):=by
  intro b;unfold gq.J1;simp only[ni,w,ζb];have:decide (e.peer<=len t.procs-1)=decide (e.peer<t.procs.l.length):=by congr 1;apply propext;simp[len];omega
  rw[this];generalize (decide (0<=e.peer)&&decide (e.peer<(t.procs.l.length:Int)))=A;generalize (e.peer==p)=B;generalize (decide (0<=e.message)&&decide (e.message<=199))=C;cases b <;> cases A <;> cases B <;> cases C <;> rfl
 unfold gq FQ;rw[u,u]
 cases h1:e.kind==1 with
 | true=>
  rw[cg];cases e.peer==0 <;> cases e.message==0 <;> rfl
 | false=>
  rw[dg];simp only[Bool.false_eq_true,if_false];cases z:e.kind==2 <;> simp[bl]
def Bn (P:bQ) (k:Nat) (e:Event):Bool:=match k with|0=>false|j+1=>fO P.events.l (λx=>decide (e.time<x.time)) j
def rQ (P:bQ) (k:Nat) (e:Event):Bool:=decide (e.time<0)||decide (e.time>1099511627776)||Bn P k e
def Lu:Bool->Bool->Bool->Int
 | true,true,false=>0
 | true,true,true=>8
 | _,_,_=>2
def lZ (P:bQ) (e:Event) (i:Nat):Int:=match e.assign.l[i]? with
 | some a=>Lu (decide (0<=a.var)&&decide (a.var<P.vars.l.length)) (decide (a.value>=-1073741824)&&decide (a.value<=1073741824)) (gM (fO e.assign.l λb=>b.var==a.var) 0 i)
 | none=>0
theorem De {P:bQ} {e:Event} {i:Nat} (h:i<e.assign.l.length):lZ P e i=Lu (decide (0<=e.assign.l[i].var)&&decide (e.assign.l[i].var<P.vars.l.length)) (decide (e.assign.l[i].value>=-1073741824)&&decide (e.assign.l[i].value<=1073741824)) (gM (fO e.assign.l λb=>b.var==e.assign.l[i].var) 0 i):=by
 unfold lZ;rw[ζd h]
def mM (n:Nat) (P:bQ) (p k:Nat) (e:Event):Int:=if FQ n p e then(if rQ P k e then 11 else if e.assign.l.length>8 then 5 else lK (lZ P e) 0 e.assign.l.length)else 3
theorem H9 {P:bQ} {e:Event} (hv:P.vars.l.length<1073741824) (U:e.assign.l.length<1073741824):dm.W2 e.assign (len e.assign) 0 e P=some (lK (lZ P e) 0 e.assign.l.length):=by
 have J:IntKind.wrap .i64 (len P.vars-1)=len P.vars-1:=rP _ (by simp[len];omega) (by simp[len];omega)
 unfold dm.W2;rw[xh (n:=e.assign.l.length) (lZ P e) (by omega) (λi D=>?_) (by unfold dm.cq;simp[bl,len])]
 .by_cases G:lK (lZ P e) 0 e.assign.l.length=0
  .rw[if_pos G,G];rfl
  .rw[if_neg G];rfl
 .unfold dm.cq;obtain⟨y,L,u⟩:=oa e.assign i (by omega)
  have I:fQ y (λz=>jm z e.assign.l[i])=some (gM (fO e.assign.l λb=>b.var==e.assign.l[i].var) 0 i):=by
   rw[B6 (p:=λz=>jm z e.assign.l[i]) (f:=λb=>b.var==e.assign.l[i].var) (λw _=>rfl) (by rw[u,List.length_take];omega),u,AB]
  rw[De D,show decide ((i:Int)<len e.assign)=true from by simp[len];exact D,cg,cr D,ζb,ni,ni,J,L,ζb,ζb,ζb,I,ζb]
  have h1:(decide (0<=e.assign.l[i].var)&&decide (e.assign.l[i].var<=len P.vars-1))=(decide (0<=e.assign.l[i].var)&&decide (e.assign.l[i].var<P.vars.l.length)):=by
   congr 2;apply propext;simp[len];omega
  have O:(decide (-1073741824<=e.assign.l[i].value)&&decide (e.assign.l[i].value<=1073741824))=(decide (e.assign.l[i].value>=-1073741824)&&decide (e.assign.l[i].value<=1073741824)):=rfl;rw[h1,O];generalize (decide (0<=e.assign.l[i].var)&&decide (e.assign.l[i].var<(P.vars.l.length:Int)))=A;generalize (decide (e.assign.l[i].value>=-1073741824)&&decide (e.assign.l[i].value<=1073741824))=B;generalize gM (fO e.assign.l λb=>b.var==e.assign.l[i].var) 0 i=C
  cases A <;> cases B <;> cases C <;> rfl
theorem Ks {t:Trace} (D:Small t) {p k:Nat} {P:bQ} {e:Event} (G:t.procs.l[p]? = some P) (U:P.events.l[k]? = some e):dm t ⟨p,k+1⟩ e=some (mM t.procs.l.length P p k e):=by
 obtain⟨L,w⟩:=ζe.1 G;obtain⟨hk,z⟩:=ζe.1 U;obtain⟨C,A,_,_,B⟩:=D.2 P (w▸List.getElem_mem L);have O:=B e (z▸List.getElem_mem hk);have I:∀last:Int,((decide (0<=e.time)&&decide (e.time<=1099511627776)) && !decide (e.time<last))=(!rQ P k e) ->
  dm.J1 last t ⟨p,k+1⟩ e P=some (mM t.procs.l.length P p k e):=by
  intro last Q;unfold dm.J1 mM;rw[K3 D,ζb,ni,ζb,H9 A O];dsimp only
  cases FQ t.procs.l.length p e with
  | false=>rfl
  | true=>
   rw[cg,if_pos rfl];have:(bl (decide (0<=e.time)&&decide (e.time<=1099511627776)) (some (decide (e.time<last))) (some true):Option Bool)=some (rQ P k e):=by
    have S:(!((decide (0<=e.time)&&decide (e.time<=1099511627776)) && !decide (e.time<last)))=rQ P k e:=by rw[Q,Bool.not_not]
    rw[<-S];cases (decide (0<=e.time)&&decide (e.time<=1099511627776)) <;> cases decide (e.time<last) <;> rfl
   rw[this,ζb]
   cases rQ P k e with
   | true=>rfl
   | false=>
    rw[dg];simp only[Bool.false_eq_true,if_false]
    by_cases J:e.assign.l.length>8
    .rw[show decide (len e.assign>8)=true from by simp[len];omega,cg,if_pos J]
    .rw[show decide (len e.assign>8)=false from by simp[len];omega,dg,if_neg J]
 unfold dm;dsimp only;rw[show idx t.procs (p:Int)=some P from by rw[mo];exact G,ζb]
 cases k with
 | zero=>
  rw[show decide (((0:Nat):Int)+1>1)=false from by decide,dg]
  refine I 0 ?_;simp only[rQ,Bn,Bool.or_false];rw[Bool.eq_iff_iff];simp only[ζh,Bool.not_eq_true',decide_eq_true_eq,decide_eq_false_iff_not,Bool.or_eq_false_iff];omega
 | succ j=>
  rw[show decide ((((j+1:Nat)):Int)+1>1)=true from by simp;omega,cg]
  have u:j<P.events.l.length:=by omega
  have T:IntKind.wrap .i64 ((((j+1:Nat)):Int)+1-2)=((j:Nat):Int):=by rw[rP _ (by omega) (by omega)];omega
  rw[T,cr u,ζb];refine I _ ?_;simp only[rQ,Bn,xN u];rw[Bool.eq_iff_iff];simp only[ζh,Bool.not_eq_true',decide_eq_true_eq,decide_eq_false_iff_not,Bool.or_eq_false_iff];omega
end Go.VE
namespace Go.VE
theorem Jj {t:Trace} {p:Nat} {P:bQ} {e:Event} (D:t.procs.l[p]? = some P) (J:e.assign.l.length<1073741824):dK.W2 p 0 t e=some (lK (lZ P e) 0 e.assign.l.length):=by
 unfold dK.W2;rw[xh (n:=e.assign.l.length) (lZ P e) (by omega) (λi w=>?_) (by unfold dK.cq;simp[bl,len])]
 .by_cases z:lK (lZ P e) 0 e.assign.l.length=0
  .rw[if_pos z,z];rfl
  .rw[if_neg z];rfl
 .unfold dK.cq;have G:dK.W3 p i 0 t e e.assign.l[i]=if gM (fO e.assign.l λb=>b.var==e.assign.l[i].var) 0 i then some (.r 8)else some (.n (IntKind.wrap .i64 ((i:Int)+1))):=by
   unfold dK.W3;rw[Aq (n:=i) (fO e.assign.l λb=>b.var==e.assign.l[i].var) (by omega) (λj I=>?_) (by unfold dK.dZ;simp[bl])]
   .cases gM (fO e.assign.l λb=>b.var==e.assign.l[i].var) 0 i <;> rfl
   .unfold dK.dZ;have u:j<e.assign.l.length:=by omega
    rw[show decide ((j:Int)<(i:Int))=true from by simpa using I,cg,cr u,ζb,xN u,rq]
  rw[De w,show decide ((i:Int)<len e.assign)=true from by simp[len];exact w,cg,cr w,ζb,G,CC,ζb,show idx t.procs (p:Int)=some P from by rw[mo];exact D,ζb]
  have h1:(bl (decide (e.assign.l[i].var<0)) (some true) (some (decide (e.assign.l[i].var>=len P.vars))):Option Bool)=some (!(decide (0<=e.assign.l[i].var)&&decide (e.assign.l[i].var<P.vars.l.length))):=by
   rw[j7];congr 1;rw[Bool.eq_iff_iff];simp only[Bool.or_eq_true,Bool.not_eq_true',decide_eq_true_eq,Bool.and_eq_false_iff,decide_eq_false_iff_not,len];omega
  rw[h1,ζb];generalize (decide (0<=e.assign.l[i].var)&&decide (e.assign.l[i].var<(P.vars.l.length:Int)))=A;generalize (decide (e.assign.l[i].value>=-1073741824)&&decide (e.assign.l[i].value<=1073741824))=B;generalize gM (fO e.assign.l λb=>b.var==e.assign.l[i].var) 0 i=C
  cases A <;> cases B <;> cases C <;> rfl
theorem Lp {t:Trace} (W:Small t) {p k:Nat} {P:bQ} {e:Event} (J:t.procs.l[p]? = some P) (U:P.events.l[k]? = some e):dK t p k=some (mM t.procs.l.length P p k e):=by
 obtain⟨S,w⟩:=ζe.1 J;obtain⟨hk,z⟩:=ζe.1 U;obtain⟨O,T,_,_,I⟩:=W.2 P (w▸List.getElem_mem S);have X:=I e (z▸List.getElem_mem hk);have Y:dK.J1 p k t e=some (if rQ P k e then 11 else if e.assign.l.length>8 then 5 else lK (lZ P e) 0 e.assign.l.length):=by
  unfold dK.J1;rw[j7,ζb,Jj J X,show idx t.procs (p:Int)=some P from by rw[mo];exact J,ζb]
  have h1:(bl (decide ((k:Int)>0)) ((idx P.events (IntKind.wrap .i64 ((k:Int)-1))).bind λL=>some (decide (e.time<L.time))) (some false):Option Bool)=some (Bn P k e):=by
   cases k with
   | zero=>rfl
   | succ j=>
    have u:j<P.events.l.length:=by omega
    rw[show decide ((((j+1:Nat)):Int)>0)=true from by simp only[decide_eq_true_eq];omega,cg,show IntKind.wrap .i64 ((((j+1:Nat)):Int)-1)=((j:Nat):Int)from by rw[rP _ (by omega) (by omega)];omega,cr u,ζb]
    simp only[Bn,xN u]
  rw[h1,ζb,j7,ζb];show bl (rQ P k e) _ _=_
  cases rQ P k e with
  | true=>rfl
  | false=>
   rw[dg];simp only[Bool.false_eq_true,if_false]
   by_cases Q:e.assign.l.length>8
   .rw[show decide (len e.assign>8)=true from by simp[len];omega,cg,if_pos Q]
   .rw[show decide (len e.assign>8)=false from by simp[len];omega,dg,if_neg Q]
 unfold dK mM;rw[show idx t.procs (p:Int)=some P from by rw[mo];exact J,ζb,show idx P.events (k:Int)=some e from by rw[mo];exact U,ζb,Y]
 unfold FQ
 cases h1:e.kind==1 with
 | true=>
  rw[cg];simp only[if_true];cases e.peer==0 <;> cases e.message==0 <;> rfl
 | false=>
  rw[dg];simp only[Bool.false_eq_true,if_false];have h2:(bl (e.kind==2) (some false) (some (!(e.kind==3))):Option Bool)=some (!(e.kind==2||e.kind==3)):=by cases e.kind==2 <;> rfl
  rw[h2,ζb,j7,ζb,j7,ζb,j7,ζb,j7,ζb,j7,ζb];have h3:(((((!(e.kind==2||e.kind==3))||decide (e.peer<0))||decide (e.peer>=len t.procs))||(e.peer==p))||decide (e.message<0)||decide (e.message>199)) = !((e.kind==2||e.kind==3)&&(decide (0<=e.peer)&&decide (e.peer<t.procs.l.length)) && !(e.peer==p)&&(decide (0<=e.message)&&decide (e.message<=199))):=by
   generalize (e.kind==2||e.kind==3)=A;have a1:decide (e.peer<0) = !decide (0<=e.peer):=by rw[Bool.eq_iff_iff];simp
   have a2:decide (e.peer>=len t.procs) = !decide (e.peer<t.procs.l.length):=by rw[Bool.eq_iff_iff];simp[len]
   have a3:decide (e.message<0) = !decide (0<=e.message):=by rw[Bool.eq_iff_iff];simp
   have a4:decide (e.message>199) = !decide (e.message<=199):=by rw[Bool.eq_iff_iff];simp
   rw[a1,a2,a3,a4];generalize decide (0<=e.peer)=B;generalize decide (e.peer<(t.procs.l.length:Int))=C;generalize (e.peer==(p:Int))=D;generalize decide (0<=e.message)=F;generalize decide (e.message<=199)=G;cases A <;> cases B <;> cases C <;> cases D <;> cases F <;> cases G <;> rfl
  rw[h3];generalize ((e.kind==2||e.kind==3)&&(decide (0<=e.peer)&&decide (e.peer<(t.procs.l.length:Int))) && !(e.peer==(p:Int))&&(decide (0<=e.message)&&decide (e.message<=199)))=Z;cases Z <;> rfl
theorem Il {n:Nat} {p:Int} {e:Event} (h:FQ n p e=true):jG n p e:=by
 unfold FQ at h;split at h
 .rename_i h1;left;simpa using h1
 .right;simp only[ζh,Bool.or_eq_true,beq_iff_eq,decide_eq_true_eq,Bool.not_eq_true',beq_eq_false_iff_ne,ne_eq]at h;obtain⟨⟨⟨h1,u⟩,z⟩,w⟩:=h;exact⟨h1,u.1,u.2,z,w.1,w.2⟩
theorem E_ {n:Nat} {P:bQ} {p k:Nat} {e:Event} (h:mM n P p k e=0):jG n p e:=by
 unfold mM at h;split at h
 .rename_i h1;exact Il h1
 .cases h
end Go.VE
namespace Go.VE
theorem AJ {α:Type} [DecidableEq α]:∀{l r:List α},l.Nodup->(∀x∈l,x∈r)->l.length<=r.length
 | [],_,_,_=>Nat.zero_le _
 | x::l,r,D,G=>by
  have B:=List.nodup_cons.1 D;have:=AJ  (r:=r.erase x) B.2 λy u=>(List.mem_erase_of_ne (by grind)).2 (G y (List.mem_cons_of_mem _ u))
  grind
section
variable {κ:Type} [DecidableEq κ]
theorem BC {ν:Type} {k:κ}:∀{m:Mo κ ν},k∉m.map (·.1)->rV k m=none
 | [],_=>rfl
 | (a,v)::r,h=>by
  simp only[List.map_cons,List.mem_cons,not_or]at h;unfold rV;rw[if_neg h.1];exact BC h.2
theorem CW {ν:Type} {k:κ}:∀{m:Mo κ ν},k∈m.map (·.1)->∃v,rV k m=some v/\(k,v)∈m
 | [],h=>by simp_all
 | (a,v)::r,h=>by
  unfold rV
  by_cases e:k=a
  .grind
  .obtain⟨w,h1,B⟩:=CW  (by simpa [e]using h)
   grind
theorem pX {ν:Type} {k:κ} {v:ν}:∀{m:Mo κ ν},k∉m.map (·.1)->p_ m k v=m++[(k,v)]
 | [],_=>rfl
 | (a,w)::r,h=>by
  simp only[List.map_cons,List.mem_cons,not_or]at h;show (if k=a then _ else _)=_;rw[if_neg h.1,pX h.2];rfl
end
def Vd (t:Trace) (y:aY):Prop:=∃e,(y,e)∈bN t
theorem Vd.at_ {t:Trace} {y:aY} (h:Vd t y):∃(p k:Nat) (e:Event),k_ t p k e/\y=⟨p,k+1⟩/\(y,e)∈bN t:=by
 obtain⟨e,u⟩:=h;obtain⟨p,k,h1,w⟩:=dF.1 u
 grind
def EK (t:Trace) (y z:aY):Prop:=∃e f,(y,e)∈bN t/\(z,f)∈bN t/\e.kind=2/\f.kind=3/\e.message=f.message
def Edge (t:Trace) (y z:aY):Prop:=Vd t y/\Vd t z/\(z=⟨y.proc,y.index+1⟩\/EK t y z)
abbrev Way (t:Trace):aY->aY->Prop:=Relation.TransGen (Edge t)
def Hz (t:Trace):Prop:=∃x,Way t x x
theorem Way.l {t:Trace} {x y:aY} (h:Way t x y):Vd t x:=by
 induction h with
 | single h=>exact h.1
 | tail _ _ u=>omega
theorem Way.r {t:Trace} {x y:aY} (h:Way t x y):Vd t y:=by
 cases h with
 | single h=>exact h.2.1
 | tail _ h=>exact h.2.1
theorem Lw {t:Trace} (hS:Small t) (hF:∀x∈bN t,jG t.procs.l.length x.1.proc x.2) {A:cC 200 bG} (hA:kT t (bN t) A) {y:aY} (U:Vd t y) :
 Wp (g_ t A y) λs=>s.l.length<=2/\∀z,z∈s.l↔Edge t y z:=by
 obtain⟨p,k,e,W,D,u⟩:=U.at_;obtain⟨P,O,hk⟩:=W;have X:P∈t.procs.l:=List.mem_of_getElem? O;have h1:=(hS.2 P X).1;have aa:k<P.events.l.length:=(ζe.1 hk).1;have G:y.proc=p:=by rw[D]
 have C:y.index=k+1:=by rw[D]
 have j:∀s:Sl aY,s.l.length<=1->(∀z,z∈s.l↔Vd t z/\z=⟨y.proc,y.index+1⟩)->Wp (g_.J1 A s P.events y) λs=>s.l.length<=2/\∀z,z∈s.l↔Edge t y z:=by
  intro s hs w;have no:¬(∃z,EK t y z)->s.l.length<=2/\∀z,z∈s.l↔Edge t y z:=λhn=>⟨by omega,λz=>(w z).trans ⟨λh=>⟨U,h.1,.inl h.2⟩,λh=>⟨h.2.1,h.2.2.elim id λh=>(hn ⟨z,h⟩).elim⟩⟩⟩
  unfold g_.J1;have Y:IntKind.wrap .i64 (y.index-1)=((k:Nat):Int):=by rw[C,rP _ (by omega) (by omega)];omega
  rw[Y,mo,hk,ζb,gW,cm];constructor
  .intro B;have B:e.kind=2:=by grind
   have S:0<=e.message/\e.message<=199:=by
    rcases hF _ u with h|⟨_,_,_,_,h⟩
    .grind
    simp_all
   have to_:∀z,EK t y z->(ag A e.message).to_=z:=λz ⟨Z,f,a1,I,a3,a4,a5⟩=>by
    cases wS a1 u rfl;rw[a5];exact(hA.rcv _ I a4).1
   rw[Jb A S.1 S.2,ζb,bh,cm];refine⟨λh=>?_,λh=>(bh _).2 (no λ⟨z,w⟩=>?_)⟩
   .have h:(ag A e.message).to_.index>0:=by grind
    rw[ζb];unfold iU;rw[if_pos (by omega),ζb,bh]
    refine⟨by show (s.l++[(ag A e.message).to_]).length<=2;grind,λz=>?_⟩
    have J:EK t y (ag A e.message).to_:=by
     rcases hA.to e.message S.1 S.2 with h0|⟨Z,h1,h2,h3⟩
     .omega
     .exact⟨e,Z,u,h1,B,h2,h3.symm⟩
    show z∈s.l++[(ag A e.message).to_]↔_;rw[List.mem_append,List.mem_singleton,w];constructor
    .rintro (h|rfl)
     .exact⟨U,h.1,.inl h.2⟩
     .exact⟨U,let ⟨_,f,_,I,_⟩:=J;⟨f,I⟩,.inr J⟩
    .rintro⟨_,h1,h2|h2⟩
     .grind
     grind
   .rw[to_ z w]at h;obtain⟨_,f,_,I,_⟩:=w;obtain⟨q,i,_,T⟩:=dF.1 I;simp only at T;rw[T]at h;simp at h
  .intro B;rw[bh,cm];refine⟨λh=>(by cases h),λ_=>(bh _).2 (no λ⟨z,Z,f,a1,_,a3,_⟩=>?_)⟩
   cases wS a1 u rfl
   grind
 unfold g_;rw[G,mo,O,ζb,cm];rw[G]at j;constructor
 .intro h;have h:y.index<len P.events:=by simpa using h
  have B:k+1<P.events.l.length:=by rw[C]at h;simp[len]at h;omega
  refine j _ (by simp[Sl.l]) λz=>?_
  have Y:IntKind.wrap .i64 (y.index+1)=y.index+1:=rP _ (by omega) (by omega)
  simp only[Sl.l,List.mem_singleton,Y];refine⟨λw=>⟨⟨P.events.l[k+1],dF.2 ⟨p,k+1,⟨P,O,ζd B⟩,?_⟩⟩,w⟩,λw=>w.2⟩
  rw[w,C];simp
 .intro h;have h:¬y.index<len P.events:=by simpa using h
  refine j _ (by simp[Sl.l]) λz=>⟨λw=>by simp[Sl.l]at w,λ⟨w,he⟩=>?_⟩
  obtain⟨q,i,f,⟨Q,hQ,T⟩,L,_⟩:=w.at_;rw[he,C]at L;simp[aY.mk.injEq]at L;have:q=p:=by omega
  subst this;rw[O]at hQ;cases hQ;have:=(ζe.1 T).1;simp[len]at h;omega
structure D4 (t:Trace) (x:aY) (rest:Sl aY) (m:Mo aY Bool) (U:aY->Prop):Prop where
 rst:∀y∈rest.l,y=x\/Way t x y
 keys:(m.map (·.1)).Nodup
 seen:∀y∈m,Way t x y.1/\y.1≠x/\y.2=true
 le:rest.l.length<=m.length+1
 done:∀y,y=x\/y∈m.map (·.1)->y∈rest.l\/U y\/∀z,Edge t y z->z∈m.map (·.1)
theorem D4.count {t:Trace} {x:aY} {rest:Sl aY} {m:Mo aY Bool} {U:aY->Prop} (h:D4 t x rest m U):m.length<=(bN t).length:=by
 have:=AJ (r:=(bN t).map (·.1)) h.keys λx u=>by
  obtain⟨y,w,rfl⟩:=List.mem_map.1 u;obtain⟨e,z⟩:=(h.seen y w).1.r
  grind
 grind
theorem Kk {t:Trace} (hS:Small t) (hN:(bN t).length<1073741824) (hF:∀x∈bN t,jG t.procs.l.length x.1.proc x.2) {A:cC 200 bG} (hA:kT t (bN t) A):Wp (gw t A) λr=>(r.2=true↔Hz t):=by
 unfold gw gZ;rw[ζb];unfold gw.E1;rw[qK hS,ζb];refine vR (λk _=>∀x∈(bN t).take k,¬Way t x.1 x.1) (by simp) ?_ λ_ h=>(bh _).2 ⟨λh=>(by cases h),λ⟨x,hx⟩=>?_⟩
 .intro i x _ hx ar;have ah:x∈bN t:=List.mem_of_getElem? hx;refine Wp.mono (P:=λw=>match w with|.n s=>¬Way t x.1 x.1|.x e=>False|.r e=>Hz t) ?_ λw hw=>by
   cases w with
   | n s=>
    intro y hy;rw[List.take_add_one,hx]at hy
    grind
   | x e=>grind
   | r b=>exact(bh _).2 ⟨λ_=>hw,λ_=>rfl⟩
  refine eO (λq:Sl aY×Mo aY Bool=>D4 t x.1 q.1 q.2 λ_=>False) (λq=>2*((bN t).length-q.2.length)+q.1.l.length) ⟨λy hy=>.inl (by simpa [Sl.l]using hy),by simp,by simp,by simp[Sl.l],λy hy=>.inl ?_⟩ ?_
  .simpa [Sl.l]using hy
  rintro⟨rest,m⟩ L;unfold gw.cq;rw[cm];refine⟨λh=>?_,λh=>(bh _).2 ((bh _).2 λhw=>?_)⟩
  .have G:0<rest.l.length:=by
    grind
   have hc:=L.count;have av:=L.le;have hw:IntKind.wrap .i64 ((len rest)-1)=(rest.l.length-1:Nat):=by
    rw[rP _ (by grind) (by grind)];grind
   have I:rest.l.length-1<rest.l.length:=by omega
   rw[hw];have h1:Sl.qw rest (rest.l.length-1:Nat)=some (rest.l.length-1):=by
    unfold Sl.qw;grind
   have h2:Sl.get rest (rest.l.length-1)=some rest.l[rest.l.length-1]:=by unfold Sl.get;grind
   obtain⟨cut,h3,h4⟩:∃x,mV rest none (some ((rest.l.length-1:Nat):Int))=some x/\x.l=rest.l.take (rest.l.length-1):=by
    cases rest with
    | nil=>simp[Sl.l]at G
    | emp=>simp[Sl.l]at G
    | row l=>
     simp only[Sl.l]at G ⊢;unfold mV dM;simp_all
    | part l=>
     simp[Sl.l]at G ⊢;unfold mV dM;simp_all
   rw[h1,ζb,h2,ζb,h3,ζb,gW];generalize ai:rest.l[rest.l.length-1]=y;have aj:y∈rest.l:=ai▸List.getElem_mem I;have O:∀z,z∈rest.l->z∈cut.l\/z=y:=λz hz=>by
    have:rest.l.take (rest.l.length-1)++rest.l.drop (rest.l.length-1)=rest.l:=List.take_append_drop ..;rw[<-this]at hz;rcases List.mem_append.1 hz with hz|hz
    .grind
    .rw[List.drop_eq_getElem_cons I,List.drop_of_length_le (by omega)]at hz
     grind
   have aa  := L.rst _ aj;have ak  := aa.elim (λe=>⟨x.2,e▸ah⟩) Way.r
   refine(Lw hS hF hA ak).mono λs hs=>?_
   refine eO (λq:Sl aY×Int×Mo aY Bool=>∃n:Nat,q.2.1=n/\n<=s.l.length/\D4 t x.1 q.1 q.2.2 (λu=>u=y)/\(∀z∈s.l.take n,z∈q.2.2.map (·.1))/\2*((bN t).length-q.2.2.length)+q.1.l.length<2*((bN t).length-m.length)+rest.l.length) (λq=>s.l.length-q.2.1.toNat)
    ⟨0,rfl,Nat.zero_le _,⟨λz hz=>L.rst z (by grind),L.keys,L.seen,by grind,λu hu=>?_⟩,by simp,by grind⟩ ?_
   .rcases L.done u hu with h|h|h
    .exact(O u h).imp_right .inl
    .exact h.elim
    .exact .inr (.inr h)
   rintro⟨C,i2,W⟩ ⟨n,rfl,hn,B,J,hμ⟩;simp only at B hμ J;unfold gw.dZ;rw[cm];constructor
   .intro h;have X:n<s.l.length:=by simpa [len]using h
    have ab:=(hs.2 s.l[n]).1 (List.getElem_mem X);have Q:Way t x.1 s.l[n]:=aa.elim (λe=>.single (e▸ab)) λh=>.tail h ab
    rw[cr X,ζb,cm];refine⟨λZ=>(bh _).2 ((bh _).2 ((bh _).2 ⟨x.1,?_⟩)),λS=>?_⟩
    .have:s.l[n]=x.1:=by
      unfold He at Z
      revert Z;cases s.l[n];cases x.1;intro Z;simpa using Z
     rw[this]at Q;exact Q
    have S:s.l[n]≠x.1:=λe=>by rw[e]at S;simp[He]at S
    have T:=dP n (by omega)
    have ad:s.l.take (n+1)=s.l.take n++[s.l[n]]:=by rw[List.take_add_one,ζd X];rfl
    rw[cm];refine⟨λhg=>(bh _).2 ⟨⟨n+1,T,by omega,B,λz hz=>?_,hμ⟩,by show _-(IntKind.wrap .i64 ((n:Int)+1)).toNat<_;rw[T];simp;omega⟩,λY=>?_⟩
    .rw[ad]at hz;rcases List.mem_append.1 hz with hz|hz
     .exact J z hz
     .simp[List.mem_singleton]at hz;subst hz;apply Classical.byContradiction;intro hk;unfold Cu at hg;rw[BC hk]at hg;cases hg
    have aw:=B.count;have au:=B.le;unfold iU;rw[if_pos (show C.l.length+1<=2147483648 from by omega),ζb,bh]
    have D:s.l[n]∉W.map (·.1):=λal=>by
     obtain⟨v,hv,am⟩:=CW al;have:=(B.seen _ am).2.2;simp only at this;subst this;unfold Cu at Y;rw[hv]at Y;cases Y
    have U:∀z,z∈(p_ W s.l[n] true).map (·.1)↔z∈W.map (·.1)\/z=s.l[n]:=λz=>by
     rw[pX D,List.map_append,List.mem_append];simp
    have ae:D4 t x.1 (.row (C.l++[s.l[n]])) (p_ W s.l[n] true) (λu=>u=y):=by
     refine⟨λy hy=>?_,?_,λy hy=>?_,?_,λu hu=>?_⟩
     .simp[Sl.l,List.mem_singleton]at hy;rcases hy with hy|rfl
      .exact B.rst y hy
      .exact .inr Q
     .rw[pX D,List.map_append,List.nodup_append];refine⟨B.keys,by simp,λa ha b hb=>?_⟩
      simp[List.mem_singleton]at hb;subst hb;exact λe=>D (e▸ha)
     .rw[pX D]at hy;rcases List.mem_append.1 hy with hy|hy
      .exact B.seen y hy
      .simp[List.mem_singleton]at hy;subst hy;exact⟨Q,S,rfl⟩
     .rw[pX D];show (C.l++[s.l[n]]).length<=_;rw[ζi,ζi,List.length_singleton,List.length_singleton];omega
     .simp only[Sl.l,List.mem_append,List.mem_singleton];have af:u=x.1\/u∈W.map (·.1)->(u∈C.l\/u=s.l[n])\/u=y\/∀z,Edge t u z->z∈(p_ W s.l[n] true).map (·.1):=λhu=>by
       rcases B.done u hu with h|h|h
       .exact .inl (.inl h)
       .exact .inr (.inl h)
       .exact .inr (.inr λz hz=>(U z).2 (.inl (h z hz)))
      rcases hu with hu|hu
      .exact af (.inl hu)
      .rcases (U u).1 hu with hu|hu
       .exact af (.inr hu)
       .exact .inl (.inr hu)
    have an:=ae.count;refine⟨⟨n+1,T,by omega,ae,λz hz=>?_,?_⟩,by show _-(IntKind.wrap .i64 ((n)+1)).toNat<_;rw[T];simp;omega⟩
    .rw[ad]at hz;rcases List.mem_append.1 hz with hz|hz
     .exact(U z).2 (.inl (J z hz))
     .exact(U z).2 (.inr (by simpa using hz))
    rw[pX D,ζi,List.length_singleton]at an;show 2*((bN t).length-(p_ W s.l[n] true).length)+(C.l++[s.l[n]]).length<_;rw[pX D,ζi,ζi,List.length_singleton,List.length_singleton];omega
   .intro h;have ao:s.l.length<=n:=by simpa [len]using h
    rw[List.take_of_length_le ao]at J;refine(bh _).2 ((bh _).2 ⟨⟨B.rst,B.keys,B.seen,B.le,λu hu=>?_⟩,hμ⟩)
    rcases B.done u hu with h|h|h
    .exact .inl h
    .subst h;exact .inr (.inr λz hz=>J z ((hs.2 z).2 hz))
    .exact .inr (.inr h)
  .have ap:rest.l=[]:=by
    have:¬len rest>0:=by simpa using h
    simp[len]at this;exact this
   have hd:∀y,y=x.1\/y∈m.map (·.1)->∀z,Edge t y z->z∈m.map (·.1):=λy hy=>by
    rcases L.done y hy with h|h|h
    .simp only[ap]at h;cases h
    .exact h.elim
    .exact h
   have key:∀z,Way t x.1 z->z∈m.map (·.1):=λz hz=>by
    induction hz with
    | single h=>exact hd _ (.inl rfl) _ h
    | tail _ h ih=>exact hd _ (.inr ih) _ h
   obtain⟨y,hy,aq⟩:=List.mem_map.1 (key _ hw);exact(L.seen y hy).2.1 aq
 .obtain⟨e,Z⟩:=hx.l;rw[List.take_length]at h;exact absurd hx (h _ Z)
structure Ok (t:Trace):Prop where
 one:1<=t.procs.l.length
 few:t.procs.l.length<=8
 heads:∀p,p<t.procs.l.length->q_ t p=0
 eE:∀(p k:Nat) P e,t.procs.l[p]? = some P->P.events.l[k]? = some e->mM t.procs.l.length P p k e=0
 yN:vV t
 acyc:¬Hz t
theorem CH {t:Trace} (h:∀(p k:Nat) P e,t.procs.l[p]? = some P->P.events.l[k]? = some e->mM t.procs.l.length P p k e=0):∀x∈bN t,jG t.procs.l.length x.1.proc x.2:=λx w=>by
 obtain⟨p,k,⟨P,z,A⟩,u⟩:=dF.1 w;rw[u];exact E_ (h p k P _ z A)
structure VT (t:Trace):Prop where
 formed:∀x∈bN t,jG t.procs.l.length x.1.proc x.2
 msgs:∃A i,ec t=some (some A,i,0)/\kT t (bN t) A
 few:t.procs.l.length<=8
 ok:Ok t
theorem LB {t:Trace} (B:Small t) (Y:(bN t).length<1073741824):Wp (fW t) λr=>(r.2=0->VT t)/\(Ok t->r.2=0):=by
 unfold fW;rw[ni,ζb,cm];refine⟨λJ=>?_,λJ=>(bh _).2 ⟨λh=>(by omega),λh=>?_⟩⟩
 rotate_left
 .have h1:=h.one;have G:=h.few
  grind
 have G:1<=t.procs.l.length/\t.procs.l.length<=8:=by
  grind
 unfold fW.W1;refine eO (λi:Int=>∃n:Nat,i=n/\n<=t.procs.l.length/\∀p,p<n->q_ t p=0) (λi:Int=>t.procs.l.length-i.toNat) ⟨0,rfl,Nat.zero_le _,λp L=>absurd L (by omega)⟩ ?_
 rintro i ⟨n,rfl,hn,Z⟩;unfold fW.bF;rw[cm];constructor
 .intro h;have u:n<t.procs.l.length:=by grind
  rw[LK B u,ζb,cm];refine⟨λh0=>(bh _).2 ⟨⟨n+1,dP n (by omega),by omega,λp L=>?_⟩,by rw[dP n (by omega)];simp;omega⟩,λh0=>(bh _).2 ((bh _).2 ⟨λh=>?_,λh=>?_⟩)⟩
  .grind
  .grind
  .simp[h.heads n u]at h0
 .intro h;have aa:t.procs.l.length<=n:=by grind
  rw[bh];unfold gZ;rw[ζb];unfold fW.E2;rw[qK B,ζb];refine vR (λi _=>∀(p k:Nat) P e,t.procs.l[p]? = some P->P.events.l[k]? = some e->(⟨p,k+1⟩,e)∈(bN t).take i->mM t.procs.l.length P p k e=0) (by simp) ?_ ?_
  .intro i x _ X w;have O  := List.mem_of_getElem? X;obtain⟨p,j,⟨P,z,C⟩,Q⟩:=dF.1 O;unfold fW.Hu;rw[Q,Ks B z C,ζb,cm];refine⟨λh0=>(bh _).2 λp' k' P' e' ab ad hm=>?_,λh0=>(bh _).2 ((bh _).2 ⟨λh=>?_,λh=>?_⟩)⟩
   .rw[List.take_add_one,X]at hm
    grind
   .grind
   .simp[h.eE p j P _ z C]at h0
  .intro _ w;have w:∀(p k:Nat) P e,t.procs.l[p]? = some P->P.events.l[k]? = some e->mM t.procs.l.length P p k e=0:=λp k P e z C=>w p k P e z C (by rw[List.take_length];exact dF.2 ⟨p,k,⟨P,z,C⟩,rfl⟩)
   have S:=CH w;obtain⟨r,hr,hq,T⟩:=B1 B S;rw[hr,ζb,cm];refine⟨λh0=>?_,λh0=>(bh _).2 ⟨λh=>?_,λh=>T h.yN⟩⟩
   .have h0  := by simpa using h0
    obtain⟨A,U,W⟩:=hq h0;rw[U,ζb];obtain⟨c,hc,D⟩:=Kk B Y S W;rw[hc,ζb,cm];refine⟨λI=>(bh _).2 ⟨λh=>(by cases h),λh=>absurd (D.1 I) h.acyc⟩,λI=>(bh _).2 ⟨λ_=>?_,λ_=>rfl⟩⟩
    exact⟨S,⟨A,r.2.1,by rw[hr];obtain⟨r1,r2,r3⟩:=r;simp only at U h0;rw[U,h0],W⟩,G.2,G.1,G.2,λp L=>Z p (by omega),w,W.yN,λhc=>by rw[D.2 hc]at I;cases I⟩
   simp_all
theorem M5 {t:Trace} (B:Small t) (D:(bN t).length<1073741824):Wp (dN t) λb=>(b=true->VT t)/\(Ok t->b=true):=by
 unfold dN;rw[gW];exact(LB B D).mono λr hr=>(bh _).2 ⟨λh=>hr.1 (by grind),λh=>by grind⟩
end Go.VE
namespace Go.VE
def dU (q:Int) (e:Event):Bool:=e.kind==2&&e.peer==q
def kX (p:Int) (e:Event):Bool:=e.kind==3&&e.peer==p
end Go.VE
namespace Go.VE
def under (t:Trace) (c:List Int) (p q:Nat):Int:=match t.procs.l[p]?,t.procs.l[q]?,c[p]?,c[q]? with
 | some P,some Q,some a,some b=>((P.events.l.take a.toNat).countP (dU q):Int)-((Q.events.l.take b.toNat).countP (kX p):Int)
 | _,_,_,_=>0
end Go.VE
namespace Go.VE
theorem La {t:Trace} (G:Small t) (hv:dN t=some true) {A:cC 200 bG} (B:kT t (bN t) A) {x:aY×Event} (D:x∈bN t) (hk:x.2.kind=2):qA t x.2.message=some (x.1,true):=by
 refine Wp.eq ?_;unfold qA gi;rw[hv,ζb,cg];unfold gZ;rw[ζb];unfold gi.E1;rw[qK G,ζb,gW];refine vR (λk _=>∀y∈(bN t).take k,¬(y.2.kind=2/\y.2.message=x.2.message)) (by simp) ?_ ?_
 .intro k y _ C u;have w:y∈bN t:=List.mem_of_getElem? C;unfold gi.js;rw[kY,ζb,cm];constructor
  .intro hc;have hc:y.2.kind=2/\y.2.message=x.2.message:=by simpa using hc
   refine(bh _).2 ((bh _).2 ((bh _).2 ?_));have h1:=B.snd y w hc.1;have I:=B.snd x D hk;rw[hc.2,I]at h1;rw[h1]
  .intro hc;have hc:¬(y.2.kind=2/\y.2.message=x.2.message):=by
    intro h;rw[h.1,h.2]at hc;simp at hc
   rw[bh];intro z hz;rw[List.take_add_one,C]at hz;rcases List.mem_append.1 hz with hz|hz
   .exact u z hz
   .simp at hz;subst hz;exact hc
 .intro _ u;rw[List.take_length]at u;exact absurd ⟨hk,rfl⟩ (u x D)
def u7 (t:Trace) (c:List Int):Prop:=c.length=t.procs.l.length/\∀(p:Nat) (a:Int) (P:bQ),c[p]? = some a->t.procs.l[p]? = some P->0<=a/\a<=P.events.l.length
def qq (t:Trace) (A:cC 200 bG) (c:List Int):Prop:=∀(p k:Nat) (e:Event) (a:Int),k_ t p k e->c[p]? = some a->(k:Int)<a->e.kind=3->∃b,c[(ag A e.message).from_.proc.toNat]? = some b/\(ag A e.message).from_.index<=b
theorem EC {t:Trace} (J:VT t) {A:cC 200 bG} (D:kT t (bN t) A) {p k:Nat} {e:Event} (U:k_ t p k e) (hk:e.kind=3) :
 ∃(q j:Nat) (y:Event),k_ t q j y/\y.kind=2/\y.message=e.message/\y.peer=p/\e.peer=q/\(ag A e.message).from_=⟨q,j+1⟩:=by
 have u:((⟨p,k+1⟩:aY),e)∈bN t:=dF.2 ⟨p,k,U,rfl⟩;have z:=(D.rcv _ u hk).2;have C:=J.formed _ u;simp only at z C;have B:0<=e.peer:=by
  rcases C with h|⟨_,h,_⟩
  .omega
  .exact h
 obtain⟨q,G⟩:∃q:Nat,e.peer=q:=⟨e.peer.toNat,by omega⟩
 rw[G]at z;obtain⟨j,y,w,h1,I,L⟩:=w5.1 z;have:=D.snd (⟨q,j+1⟩,y) (dF.2 ⟨q,j,w,rfl⟩) h1;simp only at this;rw[I]at this;exact⟨q,j,y,w,h1,I,L,G,this⟩
def SD (t:Trace) (A:cC 200 bG) (c:List Int) (s:aY):Prop:=∃(p k:Nat) (e:Event) (a:Int) (q j:Nat) (y:Event) (b:Int),k_ t p k e/\c[p]? = some a/\(k:Int)<a/\e.kind=3/\(ag A e.message).from_=s/\s=⟨q,j+1⟩/\k_ t q j y/\c[q]? = some b/\b<(j:Int)+1
theorem Oo {t:Trace} (hS:Small t) (hv:dN t=some true) (hV:VT t) {A:cC 200 bG} (hM:kT t (bN t) A) {c:Sl Int} (hR:u7 t c.l):Wp (fT t c) λr=>(r.2.2=false->qq t A c.l)/\(r.2.2=true->SD t A c.l r.1):=by
 have ah:=hV.few;unfold fT fT.W1;refine eO (λs:Int=>∃n:Nat,s=n/\n<=c.l.length/\∀(p k:Nat) (e:Event) (a:Int),p<n->k_ t p k e->c.l[p]? = some a->(k:Int)<a->e.kind=3->∃b,c.l[(ag A e.message).from_.proc.toNat]? = some b/\(ag A e.message).from_.index<=b) (λs:Int=>c.l.length-s.toNat) ⟨0,rfl,Nat.zero_le _,λp k e a h=>absurd h (by omega)⟩ ?_
 rintro s ⟨n,rfl,hn,hI⟩;have ai:=hR.1;unfold fT.bF;rw[cm];constructor
 .intro h;have C:n<c.l.length:=by simpa [len]using h
  have B:n<t.procs.l.length:=by omega
  have hP:=(hS.2 _ (List.getElem_mem B)).1;obtain⟨r1,r2⟩:=hR.2 n _ _ (ζd C) (ζd B);rw[cr C,ζb,cr B,ζb];obtain⟨y,hy,T⟩:=oa t.procs.l[n].events c.l[n].toNat (by omega)
  rw[show ((c.l[n].toNat:Nat):Int)=c.l[n]from by omega]at hy
  rw[hy,ζb];unfold fT.W2;refine eO (λs:Int=>∃m:Nat,s=m/\m<=y.l.length/\∀(k:Nat) (e:Event),k<m->k_ t n k e->e.kind=3->∃b,c.l[(ag A e.message).from_.proc.toNat]? = some b/\(ag A e.message).from_.index<=b) (λs:Int=>y.l.length-s.toNat) ⟨0,rfl,Nat.zero_le _,λk e h=>absurd h (by omega)⟩ ?_
  rintro s ⟨m,rfl,hm,hJ⟩;have af:y.l.length=c.l[n].toNat:=by rw[T,List.length_take];omega
  unfold fT.cq;rw[cm];constructor
  .intro h;have G:m<y.l.length:=by simpa [len]using h
   have I:=dP m (by omega)
   have U:y.l.length-(IntKind.wrap .i64 ((m:Int)+1)).toNat<y.l.length-((m:Int)).toNat:=by rw[I];simp;omega
   have hg:y.l[m]? = t.procs.l[n].events.l[m]? := by rw[T,List.getElem?_take,if_pos (show m<c.l[n].toNat from by omega)]
   have u:k_ t n m y.l[m]:=⟨_,ζd B,by rw[<-hg];exact ζd G⟩
   rw[cr G,ζb];generalize y.l[m]=e at u;rw[cm];constructor
   .intro hk;have hk:e.kind=3:=by simpa using hk
    obtain⟨q,j,z,hz,z1,z2,z3,z4,z5⟩:=EC hV hM u hk;have J:=La hS hv hM (x:=(⟨q,j+1⟩,z)) (dF.2 ⟨q,j,hz,rfl⟩) z1;simp only at J;rw[z2]at J;have ab:=hz;obtain⟨Q,hQ,_⟩:=hz;have L:q<c.l.length:=by have:=(ζe.1 hQ).1;omega
    rw[J,ζb];simp only;rw[cr L,ζb,cm];constructor
    .intro W;have W:(j:Int)+1>c.l[q]:=by simpa using W
     exact(bh _).2 ((bh _).2 ((bh _).2 ⟨λh=>(by cases h),λ_=>⟨n,m,e,c.l[n],q,j,z,c.l[q],u,ζd C,by omega,hk,z5,rfl,ab,ζd L,by omega⟩⟩))
    .intro X;have X:¬((j:Int)+1>c.l[q]):=by simpa using X
     refine(bh _).2 ⟨⟨m+1,I,by omega,λk Y ad w D=>?_⟩,U⟩
     by_cases ek:k=m
     .subst ek;have:Y=e:=by
       obtain⟨P1,a1,a2⟩:=u;obtain⟨P2,Z,b2⟩:=w;rw[a1]at Z;cases Z;rw[a2]at b2;cases b2;rfl
      subst this;rw[z5];exact⟨c.l[q],by simp only[Int.toNat_natCast];exact ζd L,by simp only;omega⟩
     .exact hJ k Y (by omega) w D
   .intro hk;have hk:¬e.kind=3:=by simpa using hk
    refine(bh _).2 ⟨⟨m+1,I,by omega,λk Y ad w D=>?_⟩,U⟩
    by_cases ek:k=m
    .subst ek;have:Y=e:=by
      obtain⟨P1,a1,a2⟩:=u;obtain⟨P2,Z,b2⟩:=w;rw[a1]at Z;cases Z;rw[a2]at b2;cases b2;rfl
     subst this;exact absurd D hk
    .exact hJ k Y (by omega) w D
  .intro h;have ae:y.l.length<=m:=by simpa [len]using h
   have aa:=dP n (by omega)
   refine(bh _).2 ((bh _).2 ⟨⟨n+1,aa,by omega,λp k e a hp u S O he=>?_⟩,by show _-(IntKind.wrap .i64 ((n:Int)+1)).toNat<_;rw[aa];simp;omega⟩)
   by_cases ep:p=n
   .subst ep;rw[ζd C]at S;cases S;exact hJ k e (by omega) u he
   .exact hI p k e a (by omega) u S O he
 .intro h;have ae:c.l.length<=n:=by simpa [len]using h
  refine(bh _).2 ((bh _).2 ⟨λ_ p k e a u S O he=>hI p k e a (by have:=(ζe.1 S).1;omega) u S O he,λh=>(by cases h)⟩)
theorem BO {t:Trace} (B:Small t) (hv:dN t=some true) (D:VT t) {A:cC 200 bG} (G:kT t (bN t) A) {c:Sl Int} (J:u7 t c.l):Wp (fT t c) λr=>(r.2.2=false↔qq t A c.l):=by
 refine(Oo B hv D G J).mono λr hr=>⟨hr.1,λu=>?_⟩
 cases h:r.2.2 with
 | false=>rfl
 | true=>
  obtain⟨p,k,e,a,q,j,y,b,h1,w,z,C,I,L,_,O,Q⟩:=hr.2 h;obtain⟨S,g1,g2⟩:=u p k e a h1 w z C;rw[I,L]at g1 g2;simp only[Int.toNat_natCast]at g1 g2;rw[O]at g1;cases g1;omega
end Go.VE
namespace Go.VE
theorem yA {s:Sl (Sl Int)} {p:Sl Int->Option Bool} {f:Sl Int->Bool} (hp:∀x∈s.l,p x=some (f x)) (B:s.l.length<1073741824):iN s p=some (s.l.any f):=by
 have h:fu s p=some (place f s.l):=sj hp (by omega) (λi=>rfl)
 unfold iN;rw[h,ζb,sC]
theorem Bg {t:Trace} (J:Small t) {c:Sl Int} (D:c.l.length=t.procs.l.length):Wp (iK t c) λb=>(b=true↔u7 t c.l):=by
 have h1:=J.1;unfold iK iK.W1;refine eO (λs:Int=>∃n:Nat,s=n/\n<=c.l.length/\∀(p:Nat) (a:Int) (P:bQ),p<n->c.l[p]? = some a->t.procs.l[p]? = some P->0<=a/\a<=P.events.l.length) (λs:Int=>c.l.length-s.toNat) ⟨0,rfl,Nat.zero_le _,λp a P h=>absurd h (by omega)⟩ ?_
 rintro s ⟨n,rfl,O,C⟩;unfold iK.bF;rw[cm];constructor
 .intro h;have w:n<c.l.length:=by simpa [len]using h
  have u:n<t.procs.l.length:=by omega
  have G:=dP n (by omega)
  rw[cr w,ζb,cr u,ζb,j7,ζb,cm];constructor
  .intro z;have z:c.l[n]<0\/c.l[n]>t.procs.l[n].events.l.length:=by simpa [len]using z
   refine(bh _).2 ((bh _).2 ⟨λh=>(by cases h),λI=>?_⟩)
   have:=I.2 n _ _ (ζd w) (ζd u);omega
  .intro z;have z:0<=c.l[n]/\c.l[n]<=t.procs.l[n].events.l.length:=by simpa [len]using z
   refine(bh _).2 ⟨⟨n+1,G,by omega,λp a P Q A B=>?_⟩,by rw[G];simp;omega⟩
   by_cases e:p=n
   .subst e;rw[ζd w]at A;cases A;rw[ζd u]at B;cases B;exact z
   .exact C p a P (by omega) A B
 .intro h;have L:c.l.length<=n:=by simpa [len]using h
  refine(bh _).2 ((bh _).2 ⟨λ_=>⟨D,λp a P A B=>C p a P (by have:=(ζe.1 A).1;omega) A B⟩,λ_=>rfl⟩)
def Code (t:Trace) (A:cC 200 bG) (c:List Int) (r:Int):Prop:=c.length≠t.procs.l.length/\r=1\/c.length=t.procs.l.length/\¬u7 t c/\r=2\/u7 t c/\¬qq t A c/\r=18\/u7 t c/\qq t A c/\r=0
theorem P6 {t:Trace} (J:Small t) (hv:dN t=some true) (U:VT t) {A:cC 200 bG} (W:kT t (bN t) A) (c:Sl Int) :
 Wp (cW t (Sl.row [c]:Sl (Sl Int)) (Sl.nil:Sl Int)) λr=>Code t A c.l r:=by
 unfold cW uJ;rw[hv,ζb,cg,yA (f:=λz=>(iQ z t).getD false) (λz _=>N3.ok ((bh _).2 trivial)) (by simp[Sl.l]),ζb,ζb,ζb]
 have w:(!((Sl.row [c]:Sl (Sl Int)).l.any λz=>(iQ z t).getD false))=(len c==len t.procs):=by
  simp[Sl.l,iQ]
 rw[w,cm];constructor
 .intro h;have B:c.l.length=t.procs.l.length:=by
   have:(c.l.length:Int)=t.procs.l.length:=by simpa [len]using h
   omega
  unfold cW.W1;refine eO (λs:Int=>s=0\/s=1/\u7 t c.l) (λs:Int=>1-s.toNat) (.inl rfl) ?_
  intro s D;unfold cW.bF;rcases D with rfl|⟨rfl,G⟩
  .rw[show decide ((0:Int)<len (Sl.row [c]:Sl (Sl Int)))=true from rfl,cg,show idx (Sl.row [c]:Sl (Sl Int)) 0=some c from rfl,ζb,gW];refine(Bg J B).mono λb u=>?_
   rw[cm];exact⟨λI=>(bh _).2 ⟨.inr ⟨rfl,u.1 I⟩,by decide⟩,λC=>(bh _).2 ((bh _).2 (.inr (.inl ⟨B,λh=>(by rw[u.2 h]at C;cases C),rfl⟩)))⟩
  .rw[show decide ((1:Int)<len (Sl.row [c]:Sl (Sl Int)))=false from rfl,dg,bh];show Wp (cW.W2 (Sl.row [c]) Sl.nil 0 0 t) _;unfold cW.W2;refine eO (λs:Int=>s=0) (λ_=>0) rfl ?_
   rintro s rfl;unfold cW.cq;rw[show decide ((0:Int)<0)=false from rfl,dg,bh];show Wp (cW.W3 (Sl.row [c]) 1 0 t) _;unfold cW.W3;refine eO (λs:Int=>s=0\/s=1/\qq t A c.l) (λs:Int=>1-s.toNat) (.inl rfl) ?_
   intro s D;unfold cW.dZ;rcases D with rfl|⟨rfl,L⟩
   .rw[show decide ((0:Int)<1)=true from rfl,cg,show idx (Sl.row [c]:Sl (Sl Int)) 0=some c from rfl,ζb];unfold tf;rw[gW,gW];refine(BO J hv U W G).mono λr hr=>?_
    rw[bh,cm];exact⟨λu=>(bh _).2 ⟨.inr ⟨rfl,hr.1 (by simpa using u)⟩,by decide⟩,λu=>(bh _).2 ((bh _).2 (.inr (.inr (.inl ⟨G,λh=>(by have:=hr.2 h;simp[this]at u),rfl⟩))))⟩
   .rw[show decide ((1:Int)<1)=false from rfl,dg,bh];exact(bh _).2 (.inr (.inr (.inr ⟨G,L,rfl⟩)))
 .intro h;exact(bh _).2 (.inl ⟨λe=>(by simp[len,e]at h),rfl⟩)
theorem Code.zero {t:Trace} {A:cC 200 bG} {c:List Int} {r:Int} (h:Code t A c r):r=0↔u7 t c/\qq t A c:=by
 rcases h with⟨h,rfl⟩|⟨_,h,rfl⟩|⟨_,h,rfl⟩|⟨h1,w,rfl⟩
 .exact⟨λh=>(by cases h),λu=>absurd u.1.1 h⟩
 .exact⟨λh=>(by cases h),λu=>absurd u.1 h⟩
 .exact⟨λh=>(by cases h),λu=>absurd u.2 h⟩
 .exact⟨λ_=>⟨h1,w⟩,λ_=>rfl⟩
def Cons (t:Trace) (A:cC 200 bG) (c:List Int):Prop:=u7 t c/\qq t A c
end Go.VE
namespace Go.VE
def places {α:Type} (f:α->Bool) (l:List α):List Nat:=(List.range l.length).filter λk=>match l[k]? with|some x=>f x|none=>false
theorem I7 {α:Type} {f:α->Bool} {l:List α} {k:Nat}:k∈places f l↔∃x,l[k]? = some x/\f x=true:=by
 unfold places;rw[List.mem_filter,List.mem_range];constructor
 .rintro⟨h1,u⟩;rw[ζd h1]at u;exact⟨_,ζd h1,u⟩
 .rintro⟨x,h1,u⟩;exact⟨(ζe.1 h1).1,by rw[h1];exact u⟩
theorem EW {α:Type} (f:α->Bool) (l:List α):(places f l).Nodup:=List.nodup_range.sublist (List.filter_sublist ..)
theorem BS {α:Type} (f:α->Bool):∀l:List α,(places f l).length=l.countP f:=by
 intro l;unfold places;rw[<-List.countP_eq_length_filter]
 induction l with
 | nil=>rfl
 | cons x l u=>
  rw[List.length_cons,List.range_succ_eq_map,List.countP_cons,List.countP_map,List.countP_cons];simp only[List.getElem?_cons_zero];rw[<-u]
  congr 1
theorem Dt {α β:Type} {f:α->Bool} {g:β->Bool} {l:List α} {m:List β} (φ:Nat->Nat) (h:∀k∈places f l,φ k∈places g m) (D:∀k B,k∈places f l->B∈places f l->φ k=φ B->k=B):l.countP f<=m.countP g:=by
 rw[<-BS,<-BS];have w:((places f l).map φ).Nodup:=by
  unfold List.Nodup;rw[List.pairwise_map];exact List.Pairwise.imp_of_mem (λ{a b} z A u C=>u (D a b z A C)) (EW f l)
 have:=AJ (r:=places g m) w λx G=>by
  obtain⟨k,hk,rfl⟩:=List.mem_map.1 G;exact h k hk
 simpa using this
end Go.VE
namespace Go.VE
end Go.VE
namespace Go.VE
def jF (kind m:Int) (x:aY×Event):Bool:=x.2.kind==kind&&x.2.message==m
def fK (t:Trace) (kind m:Int):aY:=match (bN t).find? (jF kind m)with
 | some x=>x.1
 | none=>⟨0,0⟩
theorem HU {t:Trace} {kind m:Int} {p:Nat} {P:bQ} (B:p<9223372036854775806) (D:t.procs.l[p]? = some P) (G:P.events.l.length<1073741824):∀(q i:Nat),i+q=P.events.l.length ->
 bX (λq:Int=>dA.cq kind m p t ⟨0,0⟩ q) (i:Int)=some (match (gC p i (P.events.l.drop i)).find? (jF kind m)with|some x=>.r x.1|none=>.x ()):=by
 have u:idx t.procs (p:Int)=some P:=by rw[mo];exact D
 intro q
 induction q with
 | zero=>
  intro i z;rw[eo];unfold dA.cq;rw[u,ζb,show decide ((i:Int)<len P.events)=false from by simp[len];omega,dg,List.drop_of_length_le (by omega)]
  rfl
 | succ q A=>
  intro i z;have w:i<P.events.l.length:=by omega
  rw[eo];have C:dA.cq kind m p t ⟨0,0⟩ i=some (if jF kind m (⟨p,(i:Int)+1⟩,P.events.l[i])then .r ⟨p,(i:Int)+1⟩else .n ((i+1:Nat):Int)):=by
   unfold dA.cq;rw[u,ζb,show decide ((i:Int)<len P.events)=true from by simp[len];omega,cg,ζb,cr w,ζb,kY,ζb,dP i (by omega),rq]
   rfl
  rw[C,ζb,List.drop_eq_getElem_cons w];simp only[gC,List.find?_cons]
  cases I:jF kind m (⟨p,(i:Int)+1⟩,P.events.l[i])with
  | true=>rfl
  | false=>
   simp only[Bool.false_eq_true,if_false];exact A (i+1) (by omega)
theorem Is {t:Trace} (B:Small t) {kind m:Int}:∀(q p:Nat),p+q=t.procs.l.length ->
 bX (λq:Int=>dA.bF kind m t ⟨0,0⟩ q) (p:Int)=some (match (eU p (t.procs.l.drop p)).find? (jF kind m)with|some x=>.r x.1|none=>.x ()):=by
 have h1:=B.1;intro q
 induction q with
 | zero=>
  intro p w;rw[eo];unfold dA.bF;rw[show decide ((p:Int)<len t.procs)=false from by simp[len];omega,dg,List.drop_of_length_le (by omega)]
  rfl
 | succ q z=>
  intro p w;have u:p<t.procs.l.length:=by omega
  have A:bX (λq:Int=>dA.cq kind m p t ⟨0,0⟩ q) 0=some (match (gC p 0 t.procs.l[p].events.l).find? (jF kind m)with|some x=>.r x.1|none=>.x ()):=HU (t:=t) (kind:=kind) (m:=m) (by omega) (ζd u) (B.2 _ (List.getElem_mem u)).1 (t.procs.l[p].events.l.length) 0 (by omega)
  rw[eo];unfold dA.bF;rw[show decide ((p:Int)<len t.procs)=true from by simp[len];omega,cg]
  unfold dA.W2;rw[A,List.drop_eq_getElem_cons u];simp only[eU,List.find?_append]
  cases C:(gC p 0 t.procs.l[p].events.l).find? (jF kind m)with
  | some x=>rfl
  | none=>
   simp only[ζb,Fw.elim,Option.none_or];rw[dP p (by omega)]
   exact z (p+1) (by omega)
theorem find_eq {t:Trace} (B:Small t) (kind m:Int):dA t kind m=some (fK t kind m):=by
 unfold dA dA.W1;have u:bX (λq:Int=>dA.bF kind m t ⟨0,0⟩ q) 0=some (match (bN t).find? (jF kind m)with|some x=>.r x.1|none=>.x ()):=Is B (kind:=kind) (m:=m) t.procs.l.length 0 (by omega)
 rw[u];unfold fK;cases (bN t).find? (jF kind m) <;> rfl
theorem tq {t:Trace} {kind m:Int} {x:aY×Event} (h:(bN t).find? (jF kind m)=some x):x∈bN t/\x.2.kind=kind/\x.2.message=m/\fK t kind m=x.1:=by
 have h1:=List.find?_some h;simp only[jF,ζh,beq_iff_eq]at h1;exact⟨List.mem_of_find?_eq_some h,h1.1,h1.2,by unfold fK;rw[h]⟩
theorem FF {t:Trace} {kind m:Int} {x:aY×Event} (B:x∈bN t) (hk:x.2.kind=kind) (D:x.2.message=m):∃y,(bN t).find? (jF kind m)=some y:=by
 cases u:(bN t).find? (jF kind m)with
 | some y=>exact⟨y,rfl⟩
 | none=>
  rw[List.find?_eq_none]at u;exact absurd (u x B) (by simp[jF,hk,D])
theorem Jp {t:Trace} {kind m:Int} (h:∀x∈bN t,¬(x.2.kind=kind/\x.2.message=m)):fK t kind m=⟨0,0⟩:=by
 unfold fK;have:(bN t).find? (jF kind m)=none:=by
  rw[List.find?_eq_none];intro x u;simp only[jF,ζh,beq_iff_eq];exact h x u
 rw[this]
theorem NL {t:Trace} {p k:Nat} {e:Event} (h:k_ t p k e) (hk:k<9223372036854775807):sM t ⟨p,k+1⟩=some e:=by
 obtain⟨P,u,w⟩:=h;unfold sM;dsimp only;rw[show idx t.procs (p:Int)=some P from by rw[mo];exact u,ζb,show IntKind.wrap .i64 ((k:Int)+1-1)=(k:Int)from by rw[rP _ (by omega) (by omega)];omega,show idx P.events (k:Int)=some e from by rw[mo];exact w]
 rfl
def tB (t:Trace) (x:aY×Event):Int:=if x.2.kind=1 then 0 else if fK t x.2.kind x.2.message=x.1 then(if x.2.kind=3 then(if qF t x.2.peer x.2.message x.1.proc then 0 else 7)else 0)else 8
theorem Lg {t:Trace} (D:Small t) {p k:Nat} {e:Event} (h:k_ t p k e) (W:jG t.procs.l.length p e):gx t ⟨p,k+1⟩=some (tB t (⟨p,k+1⟩,e)):=by
 have hk:k<1073741824:=by
  obtain⟨P,X,Y⟩:=h;have:=(D.2 P (List.mem_of_getElem? X)).1;have:=(ζe.1 Y).1;omega
 unfold gx tB;rw[NL h (by omega),ζb]
 dsimp only
 by_cases h1:e.kind=1
 .rw[show (e.kind==1)=true from by simp[h1],cg,if_pos h1]
 .rw[show (e.kind==1)=false from by simp[h1],dg,if_neg h1,find_eq D,ζb]
  have C:He (fK t e.kind e.message) ⟨p,(k:Int)+1⟩=decide (fK t e.kind e.message=⟨p,(k:Int)+1⟩):=by
   unfold He;rw[Bool.eq_iff_iff];cases fK t e.kind e.message;simp
  rw[C]
  by_cases w:fK t e.kind e.message=⟨p,(k:Int)+1⟩
  .rw[if_pos w,show decide (fK t e.kind e.message=⟨p,(k:Int)+1⟩)=true from by simpa using w,cg]
   by_cases A:e.kind=3
   .rw[if_pos A,show (e.kind==3)=true from by simp[A],cg]
    have G:0<=e.peer/\e.peer<t.procs.l.length:=by
     rcases W with h|⟨_,h1,w,_⟩
     .exact absurd h h1
     .exact⟨h1,w⟩
    have O:e.peer.toNat<t.procs.l.length:=by omega
    have S:=ζd O;have Z:=(D.2 _ (List.getElem_mem O)).1;generalize aa:t.procs.l[e.peer.toNat]=Q at *;have I:idx t.procs e.peer=some Q:=by rw[QW G.1];exact S
    have J:qF t e.peer e.message p=Q.events.l.any λs=>s.kind==2&&s.message==e.message&&s.peer==p:=by
     unfold qF;rw[S]
    unfold gx.W1;refine Wp.eq (eO (λz:Bool×Int=>∃m:Nat,z.2=m/\m<=Q.events.l.length/\z.1=(Q.events.l.take m).any λs=>s.kind==2&&s.message==e.message&&s.peer==p) (λz=>Q.events.l.length-z.2.toNat) ⟨0,rfl,Nat.zero_le _,rfl⟩ ?_)
    rintro⟨s,i⟩ ⟨m,T,hm,B⟩;simp only at T B;subst T;unfold gx.bF;dsimp only;rw[I,ζb,cm];constructor
    .intro L;have u:m<Q.events.l.length:=by simpa [len]using L
     have U:=dP m (by omega)
     rw[ζb,cr u,ζb,kY,ζb,kY,ζb,j7,ζb,bh];refine⟨⟨m+1,U,by omega,?_⟩,by show _-(IntKind.wrap .i64 ((m:Int)+1)).toNat<_;rw[U];simp;omega⟩
     show (s||_)=_;rw[List.take_add_one,ζd u,List.any_append,B];simp
    .intro L;have u:Q.events.l.length<=m:=by simpa [len]using L
     rw[List.take_of_length_le u]at B;refine(bh _).2 ?_;rw[J,<-B];cases s
     .exact(bh _).2 rfl
     .exact(bh _).2 rfl
   .rw[if_neg A,show (e.kind==3)=false from by simp[A],dg]
  .rw[if_neg w,show decide (fK t e.kind e.message=⟨p,(k:Int)+1⟩)=false from by simpa using w,dg]
theorem IU {t:Trace} (J:∀x∈bN t,jG t.procs.l.length x.1.proc x.2):(∀x∈bN t,tB t x=0)↔vV t:=by
 constructor
 .intro h;have key:∀x∈bN t,x.2.kind≠1->fK t x.2.kind x.2.message=x.1:=λx u hk=>by
   have:=h x u;unfold tB at this;rw[if_neg hk]at this;split at this
   .assumption
   .cases this
  refine⟨λx u y w z A B=>?_,λx u y w z A B=>?_,λx u z=>?_⟩
  .rw[<-key x u (by omega),<-key y w (by omega),z,A,B]
  .rw[<-key x u (by omega),<-key y w (by omega),z,A,B]
  .have:=h x u;unfold tB at this;rw[if_neg (by omega),if_pos (key x u (by omega)),if_pos z]at this
   split at this
   .assumption
   .cases this
 .intro h x u;unfold tB
  by_cases k1:x.2.kind=1
  .rw[if_pos k1]
  .rw[if_neg k1];obtain⟨y,w⟩:=FF u rfl rfl;obtain⟨D,G,y3,y4⟩:=tq w;have hk:x.2.kind=2\/x.2.kind=3:=by
    rcases J x u with h|⟨h,_⟩
    .exact absurd h k1
    .exact h
   have I:fK t x.2.kind x.2.message=x.1:=by
    rw[y4];rcases hk with hk|hk
    .exact h.snd y D x u (by rw[G,hk]) hk y3
    .exact h.rcv y D x u (by rw[G,hk]) hk y3
   rw[if_pos I]
   by_cases C:x.2.kind=3
   .rw[if_pos C,if_pos (h.has x u C)]
   .rw[if_neg C]
end Go.VE
namespace Go.VE
theorem wj {t:Trace} (D:∀x∈bN t,jG t.procs.l.length x.1.proc x.2) (G:vV t) {z:aY} {f:Event} (B:(z,f)∈bN t) (hk:f.kind=3):∃e,(fK t 2 f.message,e)∈bN t/\e.kind=2/\e.message=f.message:=by
 have h:=G.has _ B hk;have C:0<=f.peer:=by
  rcases D _ B with h|⟨_,h,_⟩
  .grind
  simp_all
 rw[show f.peer=(f.peer.toNat:Nat)from by omega,w5]at h
 obtain⟨k,e,u,h1,w,_⟩:=h;obtain⟨y,A⟩:=FF (dF.2 ⟨_,k,u,rfl⟩:(⟨(f.peer.toNat:Nat),k+1⟩,e)∈bN t) h1 w;obtain⟨I,J,y3,y4⟩:=tq A
 grind
theorem EK.find {t:Trace} (G:∀x∈bN t,jG t.procs.l.length x.1.proc x.2) (B:vV t) {y z:aY} {f:Event} (h:EK t y z) (D:(z,f)∈bN t):f.kind=3/\fK t 2 f.message=y:=by
 obtain⟨e,J,h1,w,A,u,L⟩:=h;cases wS w D rfl;obtain⟨O,C,I,Q⟩:=wj G B D u;exact⟨u,B.snd _ C _ h1 I A (by simp_all)⟩
theorem zY {t:Trace} (U:Small t) (G:∀x∈bN t,jG t.procs.l.length x.1.proc x.2) (B:vV t) {z:aY} (D:Vd t z) :
 Wp (dy t z) λs=>s.l.length<=2/\∀y,y∈s.l↔Edge t y z:=by
 obtain⟨p,k,f,w,rfl,u⟩:=D.at_;have hk:k<1073741824:=by
  obtain⟨P,B,I⟩:=w;have:=(U.2 P (List.mem_of_getElem? B)).1
  grind
 have j:∀s:Sl aY,s.l.length<=1->(∀y,y∈s.l↔Vd t y/\(⟨p,k+1⟩:aY)=⟨y.proc,y.index+1⟩)->Wp (dy.J1 s t ⟨p,k+1⟩) λs=>s.l.length<=2/\∀y,y∈s.l↔Edge t y ⟨p,k+1⟩:=by
  intro s T A;unfold dy.J1;rw[NL w (by omega),ζb,cm]
  constructor
  .intro C;have C:f.kind=3:=by grind
   rw[find_eq U,ζb];unfold iU;rw[if_pos (by omega),ζb,bh]
   refine⟨by show (s.l++[_]).length<=2;grind,λy=>?_⟩
   show y∈s.l++[fK t 2 f.message]↔_;rw[List.mem_append,List.mem_singleton,A];obtain⟨e,L,O,Q⟩:=wj G B u C;constructor
   .rintro (h|rfl)
    .exact⟨h.1,D,.inl h.2⟩
    .exact⟨⟨e,L⟩,D,.inr ⟨e,f,L,u,O,C,Q⟩⟩
   .rintro⟨h1,_,h2|h2⟩
    .grind
    .exact .inr (h2.find G B u).2.symm
  .intro C;refine(bh _).2 ⟨by omega,λy=>(A y).trans ⟨λh=>⟨h.1,D,.inl h.2⟩,λ⟨h1,_,h2⟩=>⟨h1,h2.elim id λh2=>?_⟩⟩⟩
   have:=(h2.find G B u).1
   grind
 unfold dy;rw[cm];constructor
 .intro h;have h:k+1>1:=by grind
  refine j _ (by simp[Sl.l]) λy=>?_
  have S:IntKind.wrap .i64 (k+1-1)=k:=by rw[rP _ (by omega) (by omega)];omega
  simp only[Sl.l,List.mem_singleton,S,aY.mk.injEq];constructor
  .rintro rfl;obtain⟨P,B,I⟩:=w;have:=(ζe.1 I).1;exact⟨⟨P.events.l[k-1],dF.2 ⟨p,k-1,⟨P,B,ζd (by omega)⟩,by simp;omega⟩⟩,rfl,rfl⟩
  simp_all
 .intro h;refine j _ (by simp[Sl.l]) λy=>⟨λJ=>by simp[Sl.l]at J,λ⟨J,I⟩=>?_⟩
  obtain⟨q,i,f,_,rfl,_⟩:=J.at_
  grind
theorem P5 {α:Type} {r:α->α->Prop} {x:α} (h:Acc r x):¬Relation.TransGen r x x:=by
 induction h with
 | intro x _ u=>
  intro h
  cases h with
  | single h=>exact u x h (.single h)
  | tail h1 w=>exact u _ w (Relation.TransGen.trans (.single w) h1)
theorem G1:∀{d:List Nat} {i k:Nat},d[i]? = some k->(d.set i (k+1)).sum=d.sum+1
 | [],_,_,h=>by simp_all
 | x::d,0,k,h=>by grind
 | x::d,i+1,k,h=>by
  have:=G1 (d:=d) (i:=i) (k:=k) (by grind)
  grind
theorem Kx:∀{d l:List Nat},d.length=l.length->(∀(i a b:Nat),d[i]? = some a->l[i]? = some b->a<=b)->d.sum<=l.sum
 | [],_,_,_=>by simp
 | x::d,[],h,_=>by simp_all
 | x::d,y::l,h,B=>by
  have h1:=B 0 x y rfl rfl;have u:=Kx (d:=d) (l:=l) (by grind) λi a b w z=>B (i+1) a b (by grind) (by grind)
  simp;omega
def nI (d:List Nat):List Int:=d.map Int.ofNat
def sI (s:Sl Int):Nat:=(s.l.map Int.toNat).sum
theorem DY (d:List Nat):sI (.row (nI d))=d.sum:=by
 unfold sI nI;rw[show (Sl.row (d.map Int.ofNat)).l=d.map Int.ofNat from rfl,List.map_map,show (Int.toNat ∘ Int.ofNat)=id from rfl,List.map_id]
theorem JE (d:List Nat):(nI d).length=d.length:=by simp[nI]
structure Kh (t:Trace) (d:List Nat):Prop where
 len:d.length=t.procs.l.length
 le:∀(p k:Nat) P,d[p]? = some k->t.procs.l[p]? = some P->k<=P.events.l.length
 acc:∀(p k j:Nat),d[p]? = some k->j<k->Acc (Edge t) ⟨p,j+1⟩
def xw (t:Trace):Nat:=(t.procs.l.map λP=>P.events.l.length).sum
theorem Kh.sum {t:Trace} {d:List Nat} (h:Kh t d):d.sum<=xw t:=Kx (by simp[h.len]) λi a b z u=>by
 cases w:t.procs.l[i]? with
 | none=>grind
 | some P=>simp[w]at u;rw[<-u];exact h.le i a P z w
theorem AY {d:List Nat} {p:Nat} (h:p<d.length):Sl.qw (.row (nI d)) (p:Int)=some p:=by
 unfold Sl.qw;rw[if_pos ⟨by omega,by simpa [Sl.l,JE]using h⟩];rfl
theorem xL {d:List Nat} {p k:Nat} (h:d[p]? = some k):Sl.get (.row (nI d)) p=some (k:Int):=by
 unfold Sl.get nI;rw[show (Sl.row (d.map Int.ofNat)).l=d.map Int.ofNat from rfl,List.getElem?_map,h];rfl
def Mv (t:Trace) (B:List Nat) (s:Sl Int) (b:Bool) (d:List Nat):Prop:=s=.row (nI d)/\Kh t d/\B.sum<=d.sum/\(b=true->B.sum<d.sum)
def KQ (t:Trace) (B:List Nat) (p:Nat) (w:Fw (Sl Int×Bool×Int) (Sl Int×Bool) Empty):Prop:=∃u z A,w=.n (u,z,((p+1:Nat):Int))/\Mv t B u z A
theorem Pb {t:Trace} (Y:Small t) (hF:∀x∈bN t,jG t.procs.l.length x.1.proc x.2) (hP:vV t) {D d1:List Nat} {s:Sl Int} {b:Bool} {p:Nat} (hp:p<t.procs.l.length) (hM:Mv t D s b d1) :
 Wp (dS.W3 s b p t) (KQ t D p):=by
 have Z:=cr hp;have hn:=Y.1;have ah:=(Y.2 _ (List.getElem_mem hp)).1;have C:=ζd hp;generalize t.procs.l[p]=P at *;refine eO (λq:Sl Int×Bool=>∃d,Mv t D q.1 q.2 d) (λq=>xw t-sI q.1) ⟨d1,hM⟩ ?_
 rintro⟨s,b⟩ ⟨d,rfl,u,hd,hb⟩;have w:p<d.length:=by rw[u.len];omega
 have hg:=ζd w;generalize d[p]=k at hg;have ai:=u.le p k P hg C;have stop:∀{W:Empty->Prop},Wp (some (Fw.x (Sl.row (nI d),b))) (N0 (λq:Sl Int×Bool=>∃d,Mv t D q.1 q.2 d) (λq=>xw t-sI q.1) (λe=>Wp (some (Fw.n (e.1,e.2,IntKind.wrap .i64 (p+1)))) (KQ t D p)) W (Sl.row (nI d),b)):=by
  refine(bh _).2 ((bh _).2 ⟨_,_,d,?_,rfl,u,hd,hb⟩);rw[dP p (by omega)]
 unfold dS.dZ;rw[AY w,ζb,xL hg,ζb,Z,ζb,cm];refine⟨λh=>?_,λ_=>stop⟩
 have G:k<P.events.l.length:=by grind
 have aa:k_ t p k P.events.l[k]:=⟨P,C,ζd G⟩;have z:(⟨p,k+1⟩,P.events.l[k])∈bN t:=dF.2 ⟨p,k,aa,rfl⟩;have go:(P.events.l[k].kind=3->∀q j:Nat,fK t 2 P.events.l[k].message=⟨q,j+1⟩->∃X,d[q]? = some X/\j<X)->∀{px:Sl Int×Bool->Prop} {W:Empty->Prop},Wp (dS.J4 (.row (nI d)) p t) (N0 (λq:Sl Int×Bool=>∃d,Mv t D q.1 q.2 d) (λq=>xw t-sI q.1) px W (Sl.row (nI d),b)):=by
  intro hq px W;unfold dS.J4;rw[AY w,ζb,xL hg,ζb,ζb];unfold Sl.put;rw[if_pos (by simpa [Sl.l,JE]using w),ζb,bh]
  have I:(nI d).set p (IntKind.wrap .i64 ((k:Int)+1))=nI (d.set p (k+1)):=by
   rw[dP k (by omega)];unfold nI;simp_all
  have J:=G1 hg;have L:Kh t (d.set p (k+1)):=by
   refine⟨by simp[u.len],λq i Q A hQ=>?_,λq i j A hj=>?_⟩
   .rw[List.getElem?_set]at A;split at A
    .grind
    .exact u.le q i Q A hQ
   .rw[List.getElem?_set]at A;split at A
    .rename_i e;subst e;cases A
     by_cases ab:j<k
     .exact u.acc p k j hg ab
     .have:j=k:=by omega
      subst this;refine Acc.intro _ λy hy=>?_
      obtain⟨O,_,he|he⟩:=hy
      .obtain⟨q,i,f,_,rfl,_⟩:=O.at_;simp[aY.mk.injEq]at he;have e1:q=p:=by omega
       subst e1;exact u.acc q j i hg (by omega)
      .obtain⟨B,hf⟩:=he.find hF hP z;obtain⟨q,i,f,_,rfl,_⟩:=O.at_;obtain⟨X,ad,ae⟩:=hq B q i hf;exact u.acc q X i ad ae
    .exact u.acc q i j A hj
  have aj:=L.sum;refine⟨⟨_,by grind,L,by grind,λ_=>by grind⟩,?_⟩
  show xw t-sI (.row ((nI d).set p (IntKind.wrap .i64 ((k:Int)+1))))<xw t-sI (.row (nI d));rw[I,DY,DY,J]
  grind
 dsimp only;rw[ζb,ζb,xL hg,ζb,cr G,ζb,cm];refine⟨λB=>?_,λB=>go λh=>by simp[h]at B⟩
 have B:P.events.l[k].kind=3:=by simpa using B
 obtain⟨e,a1,a2,a3⟩:=wj hF hP z B;obtain⟨q,j,S,T⟩:=dF.1 a1;simp only at T;have U:q<d.length:=by
  obtain⟨Q,hQ,_⟩:=S;rw[u.len];exact(ζe.1 hQ).1
 have af:=ζd U;rw[find_eq Y,ζb,T,AY U,ζb,xL af,ζb,cm];refine⟨λ_=>stop,λh=>go λ_ q' j' hh=>?_⟩
 grind
theorem ID {t:Trace} (J:Small t) (U:∀x∈bN t,jG t.procs.l.length x.1.proc x.2) (B:vV t):Wp (dS t) λb=>b=true->¬Hz t:=by
 have hn:=J.1;unfold dS Au;rw[if_pos (by grind),ζb]
 have h0:(Sl.row (List.replicate (len t.procs).toNat 0))=.row (nI (List.replicate t.procs.l.length 0)):=by simp[nI]
 rw[h0];refine eO (λs:Sl Int=>∃d,s=.row (nI d)/\Kh t d) (λs=>xw t-sI s) ⟨_,rfl,by simp,λp k P h _=>by grind,λp k j h hj=>by grind⟩ ?_
 rintro s ⟨C,rfl,Q⟩;refine eO (λq:Sl Int×Bool×Int=>∃(n:Nat) (d:List Nat),q.2.2=n/\n<=t.procs.l.length/\Mv t C q.1 q.2.1 d) (λq=>t.procs.l.length-q.2.2.toNat) ⟨0,C,rfl,Nat.zero_le _,rfl,Q,Nat.le_refl _,by simp⟩ ?_
 rintro⟨s,b,i⟩ ⟨n,d,S,T,I⟩;subst S;unfold dS.cq;rw[cm];constructor
 .intro h;have u:n<t.procs.l.length:=by grind
  refine(Pb J U B u I).mono ?_;rintro w ⟨s',b',W,rfl,D⟩;exact⟨⟨n+1,W,rfl,by omega,D⟩,by simp;omega⟩
 .intro _;obtain⟨rfl,z,X,G⟩:=I;rw[bh];show Wp (bl b _ _) _;rw[cm];refine⟨λY=>(bh _).2 ⟨⟨d,rfl,z⟩,?_⟩,λ_=>(bh _).2 ?_⟩
  .show xw t-sI (.row (nI d))<xw t-sI (.row (nI C));rw[DY,DY];have:=G Y;have:=z.sum;omega
  .refine eO (λi:Int=>∃n:Nat,i=n/\n<=t.procs.l.length/\∀p,p<n->∀P,t.procs.l[p]? = some P->d[p]? = some P.events.l.length) (λi:Int=>t.procs.l.length-i.toNat) ⟨0,rfl,Nat.zero_le _,λp L=>absurd L (by omega)⟩ ?_
   rintro i ⟨n,rfl,Z,hh⟩;unfold dS.wu;rw[cm];constructor
   .intro h;have u:n<t.procs.l.length:=by grind
    have A:n<d.length:=by rw[z.len];omega
    have hg:=ζd A;rw[AY A,ζb,xL hg,ζb,cr u,ζb,cm];refine⟨λ_=>(bh _).2 ((bh _).2 λh=>by cases h),λh=>(bh _).2 ⟨⟨n+1,dP n (by omega),by omega,λp L P B=>?_⟩,by rw[dP n (by omega)];simp;omega⟩⟩
    by_cases e:p=n
    .subst e;rw[ζd u]at B;have:=z.le p _ _ hg (ζd u)
     grind
    grind
   .intro h;have aa:t.procs.l.length<=n:=by grind
    refine(bh _).2 ((bh _).2 λ_ ⟨x,O⟩=>?_)
    obtain⟨p,k,e,⟨P,B,he⟩,rfl,_⟩:=O.l.at_;have ab:=(ζe.1 B).1;exact P5 (z.acc p _ k (hh p (by omega) P B) (ζe.1 he).1) O
end Go.VE
namespace Go.VE
def oS (out:List (List Bool)) (y:aY):Bool:=match out[y.proc.toNat]? with
 | some row=>row[y.index.toNat]?.getD false
 | none=>false
theorem yd {t:Trace} {out:List (List Bool)} {p k:Nat} {row:List Bool} (hr:out[p]? = some row) (hk:k+1<row.length) {z:aY} (B:Vd t z) :
 oS (out.set p (row.set (k+1) true)) z=(decide (z=⟨p,k+1⟩)||oS out z):=by
 obtain⟨q,j,e,_,rfl,_⟩:=B.at_;have A:=(ζe.1 hr).1;unfold oS;have e1:(⟨(q:Int),(j:Int)+1⟩:aY).proc.toNat=q:=rfl;have e2:(⟨(q:Int),(j:Int)+1⟩:aY).index.toNat=j+1:=by show ((j:Int)+1).toNat=j+1;omega
 rw[e1,e2,List.getElem?_set]
 by_cases u:p=q
 .subst u;rw[if_pos rfl,if_pos A,hr];dsimp only;rw[List.getElem?_set]
  by_cases w:k=j
  .subst w;simp[hk]
  .rw[if_neg (by omega),show decide ((⟨(p:Int),(j:Int)+1⟩:aY)=⟨p,k+1⟩)=false from by simp;omega,Bool.false_or]
 .rw[if_neg u,show decide ((⟨(q:Int),(j:Int)+1⟩:aY)=⟨p,k+1⟩)=false from by simp;omega,Bool.false_or]
theorem CE {α:Type} {f g:α->Bool}:∀{l:List α},(∀z∈l,f z=true->g z=true)->(∃z∈l,f z=false/\g z=true)->l.countP f<l.countP g
 | [],_,⟨z,hz,_⟩=>by simp at hz
 | a::l,h,⟨z,hz,B,hg⟩=>by
  simp only[List.countP_cons];have D:=List.countP_mono_left (l:=l) (p:=f) (q:=g) λx u=>h x (List.mem_cons_of_mem _ u)
  rcases List.mem_cons.1 hz with rfl|hz
  .simp[B,hg];omega
  .have:=CE (l:=l) (λx u=>h x (List.mem_cons_of_mem _ u)) ⟨z,hz,B,hg⟩
   have h1:=h a (List.mem_cons_self ..)
   cases w:f a with
   | true=>simp[h1 w];omega
   | false=>simp;split <;> omega
def cnt (t:Trace) (out:List (List Bool)):Nat:=(bN t).countP λz=>oS out z.1
structure Se (t:Trace) (x:aY) (out:List (List Bool)) (rest:List aY):Prop where
 shp:∀(p:Nat) P,t.procs.l[p]? = some P->∃row,out[p]? = some row/\row.length=P.events.l.length+1
 len:out.length=t.procs.l.length
 que:∀y∈rest,Way t y x
 snd:∀y,Vd t y->oS out y=true->Way t y x
 cls:∀z,z=x\/Vd t z/\oS out z=true->∀y,Edge t y z->oS out y=true\/y∈rest
 le:rest.length<=2*cnt t out+2
theorem zR {t:Trace} {y:aY}:oS (fL t) y=false:=by
 unfold oS fL;split
 .rename_i row h;rw[List.getElem?_map]at h
  cases u:t.procs.l[y.proc.toNat]? with
  | none=>simp[u]at h
  | some P=>
   simp[u]at h;subst h;rw[List.getElem?_replicate];split <;> rfl
 .rfl
theorem O8 {t:Trace} (W:Small t) (hN:(bN t).length<1073741824) (hF:∀x∈bN t,jG t.procs.l.length x.1.proc x.2) (J:vV t) {x:aY} (hx:Vd t x) :
 Wp (lR t x) λs=>∃out,s=nested out/\Se t x out []/\∀y,Vd t y->(oS out y=true↔Way t y x):=by
 unfold lR;rw[if_pos (by
  unfold yz;simp only[ζh,List.all_eq_true,decide_eq_true_eq];exact⟨by have:=W.1;omega,λP J=>by have:=(W.2 P J).1;omega⟩),gW]
 refine(zY W hF J hx).mono λs X=>?_
 refine eO (λq:List (List Bool)×List aY=>Se t x q.1 q.2) (λq=>2*((bN t).length-cnt t q.1)+q.2.length) ⟨λp P J=>⟨List.replicate (P.events.l.length+1) false,by simp[fL,J],by simp⟩,by simp[fL],λy B=>.single ((X.2 y).1 B),λy _ h=>(by rw[zR]at h;cases h),λz hz y B=>?_,by have:=X.1;show s.l.length<=2*cnt t (fL t)+2;omega⟩ ?_
 .rcases hz with rfl|⟨_,h⟩
  .exact .inr ((X.2 y).2 B)
  .rw[zR]at h;cases h
 rintro⟨out,rest⟩ u
 cases rest with
 | nil=>
  show Wp (some _) _;refine(bh _).2 ((bh _).2 ⟨out,rfl,u,λy B=>⟨u.snd y B,λC=>?_⟩⟩)
  have key:∀w,Way t y w->w=x\/Vd t w/\oS out w=true->oS out y=true:=λw C=>by
   induction C with
   | single h=>exact λC=>(u.cls _ C _ h).elim id λh=>by cases h
   | tail ad I ih=>exact λC=>ih (.inr ⟨I.1,(u.cls _ C _ I).elim id λh=>by cases h⟩)
  exact key x C (.inl rfl)
 | cons y rest=>
  have D:=u.que y (List.mem_cons_self ..);have G:=D.l;obtain⟨p,k,e,Y,rfl,L⟩:=G.at_;obtain⟨P,O,hk⟩:=Y;have ae:=(ζe.1 hk).1;obtain⟨row,hr,Z⟩:=u.shp p P O;have A:k+1<row.length:=by omega
  show Wp (mQ _ (out,⟨p,k+1⟩::rest)) _;unfold mQ;have e2:((k:Int)+1).toNat=k+1:=by omega
  dsimp only;rw[if_pos ⟨by omega,by omega⟩,show ((p:Nat):Int).toNat=p from rfl,e2,hr,ζb,ζd A,ζb,cm]
  have S:oS out ⟨p,k+1⟩=row[k+1]:=by
   unfold oS;rw[show ((⟨(p:Int),(k:Int)+1⟩:aY).proc).toNat=p from rfl,hr];dsimp only;rw[e2,ζd A];rfl
  constructor
  .intro hb;rw[bh];refine⟨⟨u.shp,u.len,λy B=>u.que y (List.mem_cons_of_mem _ B),u.snd,λz hz y B=>?_,by have:=u.le;simp only[List.length_cons]at this;show rest.length<=2*cnt t out+2;omega⟩,Nat.add_lt_add_left (Nat.lt_succ_self _) _⟩
   rcases u.cls z hz y B with h|h
   .exact .inl h
   .rcases List.mem_cons.1 h with rfl|h
    .exact .inl (by rw[S];exact hb)
    .exact .inr h
  .intro hb;rw[gW];refine(zY W hF J G).mono λmore hm=>?_
   have aa:=u.le;simp only[List.length_cons]at aa;have af:cnt t out<=(bN t).length:=List.countP_le_length;have ah:=hm.1;have ai:cnt t out<cnt t (out.set p (row.set (k+1) true)):=CE (λz hz h=>by rw[yd hr A ⟨_,hz⟩,h,Bool.or_true]) ⟨_,L,by rw[S,hb],by rw[yd hr A G];simp⟩
   have ab:cnt t (out.set p (row.set (k+1) true))<=(bN t).length:=List.countP_le_length;rw[if_pos (by omega),bh]
   refine⟨⟨λq Q hQ=>?_,by show (out.set _ _).length=_;rw[List.length_set];exact u.len,λz hz=>?_,λz hz h=>?_,λz hz y B=>?_,by show (rest++more.l).length<=_;rw[ζi];show _<=2*cnt t (out.set p (row.set (k+1) true))+2;omega⟩,?_⟩
   .show ∃r,(out.set p (row.set (k+1) true))[q]? = some r/\_;rw[List.getElem?_set];split
    .rename_i e;subst e;rw[if_pos (ζe.1 hr).1];rw[O]at hQ;cases hQ;exact⟨_,rfl,by simp[Z]⟩
    .exact u.shp q Q hQ
   .rcases List.mem_append.1 hz with hz|hz
    .exact u.que z (List.mem_cons_of_mem _ hz)
    .exact .trans (.single ((hm.2 z).1 hz)) D
   .show Way t z x;have h:oS (out.set p (row.set (k+1) true)) z=true:=h;rw[yd hr A hz]at h;simp only[Bool.or_eq_true,decide_eq_true_eq]at h;rcases h with rfl|h
    .exact D
    .exact u.snd z hz h
   .show oS (out.set p (row.set (k+1) true)) y=true\/y∈rest++more.l;rw[yd hr A B.1];have T:z=x\/Vd t z/\oS out z=true->(decide (y=⟨p,k+1⟩)||oS out y)=true\/y∈rest++more.l:=λhz=>by
     rcases u.cls z hz y B with h|h
     .exact .inl (by rw[show oS out y=true from h,Bool.or_true])
     .rcases List.mem_cons.1 h with rfl|h
      .exact .inl (by simp)
      .exact .inr (List.mem_append_left _ h)
    rcases hz with hz|⟨U,hz⟩
    .exact T (.inl hz)
    .have hz:oS (out.set p (row.set (k+1) true)) z=true:=hz;rw[yd hr A U]at hz;simp only[Bool.or_eq_true,decide_eq_true_eq]at hz;rcases hz with rfl|hz
     .exact .inr (List.mem_append_right _ ((hm.2 y).2 B))
     .exact T (.inr ⟨U,hz⟩)
   .show 2*((bN t).length-cnt t (out.set p (row.set (k+1) true)))+(rest++more.l).length<2*((bN t).length-cnt t out)+(_::rest).length;rw[ζi,List.length_cons];omega
theorem Sa {t:Trace} (D:Small t) (Y:(bN t).length<1073741824) (hF:∀x∈bN t,jG t.procs.l.length x.1.proc x.2) (G:vV t):Wp (cN.W6 0 t ⟨0,0⟩) λr=>(r.2=0↔¬Hz t):=by
 have hn:=D.1;unfold cN.W6;refine eO (λi:Int=>∃n:Nat,i=n/\n<=t.procs.l.length/\∀(p k:Nat) e,p<n->k_ t p k e->¬Way t ⟨p,k+1⟩ ⟨p,k+1⟩) (λi:Int=>t.procs.l.length-i.toNat) ⟨0,rfl,Nat.zero_le _,λp k e T=>absurd T (by omega)⟩ ?_
 rintro i ⟨n,rfl,Z,U⟩;unfold cN.Ht;rw[cm];constructor
 .intro h;have w:n<t.procs.l.length:=by simpa [len]using h
  have I:=cr w;have z:=ζd w;have aa:=(D.2 _ (List.getElem_mem w)).1;generalize t.procs.l[n]=P at *;unfold cN.W7;refine eO (λi:Int=>∃m:Nat,i=m/\m<=P.events.l.length/\∀k,k<m->¬Way t ⟨n,k+1⟩ ⟨n,k+1⟩) (λi:Int=>P.events.l.length-i.toNat) ⟨0,rfl,Nat.zero_le _,λk hk=>absurd hk (by omega)⟩ ?_
  rintro i ⟨m,rfl,hm,hk⟩;unfold cN.Hx;rw[I,ζb,cm];constructor
  .intro h;have J:m<P.events.l.length:=by simpa [len]using h
   have L:=dP m (by omega)
   have hv:Vd t ⟨n,m+1⟩:=⟨P.events.l[m],dF.2 ⟨n,m,⟨P,z,ζd J⟩,rfl⟩⟩;rw[L,show (((m+1:Nat)):Int)=(m:Int)+1 from by simp,gW]
   refine(O8 D Y hF G hv).mono ?_;rintro s ⟨out,rfl,hI,A⟩;obtain⟨row,hr,ab⟩:=hI.shp n P z;have O:out≠[]:=by rintro rfl;cases hr
   have B:m+1<row.length:=by omega
   have h1:idx (nested out) (n:Int)=some (.row row):=by
    unfold nested;rw[if_neg O,mo];show (out.map Sl.row)[n]? = _;rw[List.getElem?_map,hr];rfl
   have h2:idx (Sl.row row) ((m:Int)+1)=some row[m+1]:=by
    rw[show (m:Int)+1=((m+1:Nat):Int)from by simp]
    exact cr (s:=Sl.row row) B
   rw[h1,ζb,h2,ζb,cm];have hb:row[m+1]=oS out ⟨n,m+1⟩:=by
    unfold oS;rw[show ((⟨(n:Int),(m:Int)+1⟩:aY).proc).toNat=n from rfl,hr];dsimp only;rw[show ((m:Int)+1).toNat=m+1 from by omega,ζd B];rfl
   rw[hb];refine⟨λC=>(bh _).2 ((bh _).2 ((bh _).2 ⟨λh=>(by cases h),λh=>absurd ⟨_,(A _ hv).1 C⟩ h⟩)),λC=>(bh _).2 ⟨⟨m+1,by simp,by omega,λk ad=>?_⟩,by simp;omega⟩⟩
   by_cases e:k=m
   .subst e;exact λL=>by rw[(A _ hv).2 L]at C;cases C
   .exact hk k (by omega)
  .intro h;have S:P.events.l.length<=m:=by simpa [len]using h
   refine(bh _).2 ((bh _).2 ⟨⟨n+1,dP n (by omega),by omega,λp k e T u=>?_⟩,by rw[dP n (by omega)];simp;omega⟩)
   by_cases e:p=n
   .subst e;obtain⟨Q,W,he⟩:=u;rw[z]at W;cases W;have:=(ζe.1 he).1;exact hk k (by omega)
   .exact U p k _ (by omega) u
 .intro h;have S:t.procs.l.length<=n:=by simpa [len]using h
  refine(bh _).2 ((bh _).2 ⟨λ_ ⟨x,X⟩=>?_,λ_=>rfl⟩)
  obtain⟨p,k,e,u,rfl,_⟩:=X.l.at_;obtain⟨P,G,_⟩:=id u;exact U p k e (by have:=(ζe.1 G).1;omega) u X
end Go.VE
namespace Go.VE
theorem D3 {t:Trace} (B:∀x∈bN t,jG t.procs.l.length x.1.proc x.2):(∀(p k:Nat) e,k_ t p k e->tB t (⟨p,k+1⟩,e)=0)↔vV t:=
 Iff.trans ⟨λh x w=>by obtain⟨p,k,h1,u⟩:=dF.1 w;obtain⟨a,e⟩:=x;simp only at h1 u;rw[u];exact h p k e h1,λh p k e z=>h _ (dF.2 ⟨p,k,z,rfl⟩)⟩ (IU B)
theorem JN {t:Trace} (J:Small t) (hN:(bN t).length<1073741824):Wp (cN t) λr=>(r.2=0↔Ok t):=by
 have hn:=J.1;unfold cN;rw[j7,ζb,cm];refine⟨λO=>(bh _).2 ⟨λh=>(by cases h),λh=>?_⟩,λO=>?_⟩
 .have h1:=h.one;have h8:=h.few;simp only[Bool.or_eq_true,decide_eq_true_eq,len]at O;omega
 have h8:1<=t.procs.l.length/\t.procs.l.length<=8:=by
  simp only[Bool.or_eq_false_iff,decide_eq_false_iff_not,len]at O;omega
 unfold cN.W1;refine eO (λi:Int=>∃n:Nat,i=n/\n<=t.procs.l.length/\∀p,p<n->q_ t p=0) (λi:Int=>t.procs.l.length-i.toNat) ⟨0,rfl,Nat.zero_le _,λp D=>absurd D (by omega)⟩ ?_
 rintro i ⟨n,rfl,ad,hh⟩;unfold cN.bF;rw[cm];constructor
 .intro h;have w:n<t.procs.l.length:=by simpa [len]using h
  rw[MW J w,ζb,cm];refine⟨λh0=>(bh _).2 ⟨⟨n+1,dP n (by omega),by omega,λp D=>?_⟩,by rw[dP n (by omega)];simp;omega⟩,λh0=>(bh _).2 ((bh _).2 ⟨λh=>?_,λh=>?_⟩)⟩
  .by_cases e:p=n
   .subst e;simpa using h0
   .exact hh p (by omega)
  .simp only at h;simp[h]at h0
  .simp[h.heads n w]at h0
 intro h;have ae:t.procs.l.length<=n:=by simpa [len]using h
 rw[bh];unfold cN.W2;refine eO (λi:Int=>∃n:Nat,i=n/\n<=t.procs.l.length/\∀(p k:Nat) P e,p<n->t.procs.l[p]? = some P->P.events.l[k]? = some e->mM t.procs.l.length P p k e=0) (λi:Int=>t.procs.l.length-i.toNat) ⟨0,rfl,Nat.zero_le _,λp k P e D=>absurd D (by omega)⟩ ?_
 rintro i ⟨G,rfl,ab,W⟩;unfold cN.cq;rw[cm];constructor
 .intro h;have w:G<t.procs.l.length:=by simpa [len]using h
  have C:=cr w;have A:=ζd w;have S:=(J.2 _ (List.getElem_mem w)).1;generalize t.procs.l[G]=P at C A S;unfold cN.W3;refine eO (λi:Int=>∃m:Nat,i=m/\m<=P.events.l.length/\∀(k:Nat) e,k<m->P.events.l[k]? = some e->mM t.procs.l.length P G k e=0) (λi:Int=>P.events.l.length-i.toNat) ⟨0,rfl,Nat.zero_le _,λk e hk=>absurd hk (by omega)⟩ ?_
  rintro i ⟨m,rfl,hm,hk⟩;unfold cN.dZ;rw[C,ζb,cm];constructor
  .intro h;have T:m<P.events.l.length:=by simpa [len]using h
   have B:=ζd T;have hw:=dP m (by omega)
   rw[Lp J A B,ζb,cm];refine⟨λh0=>(bh _).2 ⟨⟨m+1,hw,by omega,λk e aa u=>?_⟩,by rw[hw];simp;omega⟩,λh0=>(bh _).2 ((bh _).2 ((bh _).2 ⟨λh=>?_,λh=>?_⟩))⟩
   .by_cases ek:k=m
    .subst ek;rw[B]at u;cases u;simpa using h0
    .exact hk k e (by omega) u
   .simp only at h;simp[h]at h0
   .simp[h.eE G m P _ A B]at h0
  .intro h;have I:P.events.l.length<=m:=by simpa [len]using h
   refine(bh _).2 ((bh _).2 ⟨⟨G+1,dP G (by omega),by omega,λp k Q e D U u=>?_⟩,by rw[dP G (by omega)];simp;omega⟩)
   by_cases ep:p=G
   .subst ep;rw[A]at U;cases U;exact hk k e (by have:=(ζe.1 u).1;omega) u
   .exact W p k Q e (by omega) U u
 intro h;have I:t.procs.l.length<=G:=by simpa [len]using h
 have W:∀(p k:Nat) P e,t.procs.l[p]? = some P->P.events.l[k]? = some e->mM t.procs.l.length P p k e=0:=λp k P e L hk=>W p k P e (by have:=(ζe.1 L).1;omega) L hk
 have X:=CH W;rw[bh];unfold cN.W4;refine eO (λi:Int=>∃n:Nat,i=n/\n<=t.procs.l.length/\∀(p k:Nat) e,p<n->k_ t p k e->tB t (⟨p,k+1⟩,e)=0) (λi:Int=>t.procs.l.length-i.toNat) ⟨0,rfl,Nat.zero_le _,λp k e D=>absurd D (by omega)⟩ ?_
 rintro i ⟨q,rfl,hq,Y⟩;unfold cN.tU;rw[cm];constructor
 .intro h;have w:q<t.procs.l.length:=by simpa [len]using h
  have C:=cr w;have A:=ζd w;have S:=(J.2 _ (List.getElem_mem w)).1;generalize t.procs.l[q]=P at C A S;unfold cN.W5;refine eO (λi:Int=>∃m:Nat,i=m/\m<=P.events.l.length/\∀(k:Nat) e,k<m->P.events.l[k]? = some e->tB t (⟨q,k+1⟩,e)=0) (λi:Int=>P.events.l.length-i.toNat) ⟨0,rfl,Nat.zero_le _,λk e hk=>absurd hk (by omega)⟩ ?_
  rintro i ⟨m,rfl,hm,hk⟩;unfold cN.wu;rw[C,ζb,cm];constructor
  .intro h;have T:m<P.events.l.length:=by simpa [len]using h
   have B:=ζd T;have hw:=dP m (by omega)
   have z:k_ t q m P.events.l[m]:=⟨P,A,B⟩;rw[hw,show (((m+1:Nat)):Int)=(m:Int)+1 from by simp,Lg J z (X (⟨q,m+1⟩,P.events.l[m]) (dF.2 ⟨q,m,z,rfl⟩)),ζb,cm]
   refine⟨λh0=>(bh _).2 ⟨⟨m+1,by simp,by omega,λk e aa u=>?_⟩,by simp;omega⟩,λh0=>(bh _).2 ((bh _).2 ((bh _).2 ⟨λh=>?_,λh=>?_⟩))⟩
   .by_cases ek:k=m
    .subst ek;rw[B]at u;cases u;simpa using h0
    .exact hk k e (by omega) u
   .simp only at h;simp[h]at h0
   .simp[(D3 X).2 h.yN q m _ z]at h0
  .intro h;have I:P.events.l.length<=m:=by simpa [len]using h
   refine(bh _).2 ((bh _).2 ⟨⟨q+1,dP q (by omega),by omega,λp k e D z=>?_⟩,by rw[dP q (by omega)];simp;omega⟩)
   by_cases ep:p=q
   .subst ep;obtain⟨Q,U,u⟩:=z;rw[A]at U;cases U;exact hk k e (by have:=(ζe.1 u).1;omega) u
   .exact Y p k e (by omega) z
 intro h;have af:t.procs.l.length<=q:=by simpa [len]using h
 have L:vV t:=(D3 X).1 λp k e z=>Y p k e (by obtain⟨P,L,_⟩:=z;have:=(ζe.1 L).1;omega) z
 have Z:¬Hz t↔Ok t:=⟨λh=>⟨h8.1,h8.2,λp D=>hh p (by omega),W,L,h⟩,λh=>h.acyc⟩
 rw[bh,gW];refine(ID J X L).mono λb hb=>?_
 rw[cm];exact⟨λh=>(bh _).2 ⟨λ_=>Z.1 (hb h),λ_=>rfl⟩,λ_=>(Sa J hN X L).mono λr hr=>hr.trans Z⟩
theorem KJ {t:Trace} (B:Small t) (D:(bN t).length<1073741824):∃b,dN t=some b/\qM t=some b/\(b=true->VT t):=by
 obtain⟨b,u,h1,w⟩:=M5 B D;refine⟨b,u,?_,h1⟩;unfold qM;obtain⟨r,hr,z⟩:=JN B D;rw[hr,ζb]
 congr 1
 rw[Bool.eq_iff_iff,beq_iff_eq,z];exact⟨w,λh=>(h1 h).ok⟩
end Go.VE
namespace Go.VE
theorem MO {t:Trace} (Y:Small t) {c:Sl Int} (D:c.l.length=t.procs.l.length) {step:Int->Option (Fw Int Unit Unit)}
 (hs:∀i,step i=bl (decide (i<(len c))) ((idx c i).bind λG=>(bl (decide (G<0)) (some true) ((idx c i).bind λJ=>(idx t.procs i).bind λU=>some (decide (J>(len U.events)))):Option Bool).bind λW=>bl W (some (.r ())) (some (.n (IntKind.wrap .i64 (i+1))))) (some (.x ()))) :
 Wp ((bX step 0).bind (Fw.elim (λ_=>some true) (λ_=>some false))) λb=>(b=true↔u7 t c.l):=by
 have h1:=Y.1;refine eO (λs:Int=>∃n:Nat,s=n/\n<=c.l.length/\∀(p:Nat) (a:Int) (P:bQ),p<n->c.l[p]? = some a->t.procs.l[p]? = some P->0<=a/\a<=P.events.l.length) (λs:Int=>c.l.length-s.toNat) ⟨0,rfl,Nat.zero_le _,λp a P h=>absurd h (by omega)⟩ ?_
 rintro s ⟨n,rfl,Q,C⟩;rw[hs,cm];constructor
 .intro h;have w:n<c.l.length:=by simpa [len]using h
  have u:n<t.procs.l.length:=by omega
  have I:=dP n (by omega)
  rw[cr w,ζb,ζb,cr u,ζb,j7,ζb,cm];constructor
  .intro z;have z:c.l[n]<0\/c.l[n]>t.procs.l[n].events.l.length:=by simpa [len]using z
   refine(bh _).2 ((bh _).2 ⟨λh=>(by cases h),λL=>?_⟩)
   have:=L.2 n _ _ (ζd w) (ζd u);omega
  .intro z;have z:0<=c.l[n]/\c.l[n]<=t.procs.l[n].events.l.length:=by simpa [len]using z
   refine(bh _).2 ⟨⟨n+1,I,by omega,λp a P S A B=>?_⟩,by rw[I];simp;omega⟩
   by_cases e:p=n
   .subst e;rw[ζd w]at A;cases A;rw[ζd u]at B;cases B;exact z
   .exact C p a P (by omega) A B
 .intro h;have O:c.l.length<=n:=by simpa [len]using h
  refine(bh _).2 ((bh _).2 ⟨λ_=>⟨D,λp a P A B=>C p a P (by have:=(ζe.1 A).1;omega) A B⟩,λ_=>rfl⟩)
theorem OX {t:Trace} (D:Small t) {c:Sl Int} (B:c.l.length=t.procs.l.length):Wp (jt t c) λb=>(b=true↔u7 t c.l):=by
 unfold jt;rw[show (len c==len t.procs)=true from by simp[len,B],cg]
 exact MO D B λi=>rfl
theorem Dp {t:Trace} (D:VT t) {A:cC 200 bG} (G:kT t (bN t) A) {p k:Nat} {e:Event} (B:k_ t p k e) (hk:e.kind=3):fK t 2 e.message=(ag A e.message).from_:=by
 obtain⟨y,h1,u,w⟩:=wj D.formed D.ok.yN (dF.2 ⟨p,k,B,rfl⟩:((⟨p,k+1⟩:aY),e)∈bN t) hk;have:=G.snd _ h1 u;simp only[w]at this;exact this.symm
theorem Hy (t:Trace) (kind m:Int):fK t kind m=⟨0,0⟩/\(∀x∈bN t,¬(x.2.kind=kind/\x.2.message=m))\/∃z,(fK t kind m,z)∈bN t/\z.kind=kind/\z.message=m:=by
 cases h:(bN t).find? (jF kind m)with
 | some x=>
  obtain⟨w,A,B,C⟩:=tq h;exact .inr ⟨x.2,by rw[C];exact w,A,B⟩
 | none=>
  rw[List.find?_eq_none]at h;have u:∀x∈bN t,¬(x.2.kind=kind/\x.2.message=m):=λx D=>by have:=h x D;simpa [jF]using this
  exact .inl ⟨Jp u,u⟩
theorem G2 {t:Trace} (B:VT t) {r s:aY} {z e:Event} (hr:(r,z)∈bN t) (G:z.kind=3) (D:(s,e)∈bN t) (J:e.kind=2) (U:e.message=z.message):e.peer=r.proc/\z.peer=s.proc:=by
 have h:=B.ok.yN.has _ hr G;have I:0<=z.peer:=by
  rcases B.formed _ hr with h|⟨_,h,_⟩
  .simp only at h;omega
  .exact h
 rw[show z.peer=((z.peer.toNat:Nat):Int)from by omega,w5]at h
 obtain⟨k,y,w,h1,A,C⟩:=h;have u:((⟨(z.peer.toNat:Nat),k+1⟩:aY),y)∈bN t:=dF.2 ⟨_,k,w,rfl⟩;have:=B.ok.yN.snd _ u _ D h1 J (by rw[U];exact A)
 simp only at this;subst this;cases wS u D rfl;exact⟨C,by simp only;omega⟩
def pP (t:Trace) (c:List Int) (e:Event):Bool:=(fK t 3 e.message).index==0||decide ((fK t 3 e.message).index>(c[(fK t 3 e.message).proc.toNat]?).getD 0)
theorem yS {α:Type} (f g:α->Bool):∀l:List α,l.countP f=l.countP (λx=>f x&&g x)+l.countP (λx=>f x && !g x)
 | []=>rfl
 | x::l=>by
  simp only[List.countP_cons,yS f g l];cases f x <;> cases g x <;> simp <;> omega
theorem rT {α:Type} {f:α->Bool} {l:List α} {n k:Nat}:k∈places f (l.take n)↔k<n/\∃x,l[k]? = some x/\f x=true:=by
 rw[I7];simp only[List.getElem?_take];constructor
 .rintro⟨x,h1,u⟩;split at h1
  .exact⟨‹_›,x,h1,u⟩
  .cases h1
 .rintro⟨h,x,h1,u⟩;exact⟨x,by rw[if_pos h];exact h1,u⟩
theorem Ot {t:Trace} (G:VT t) {A:cC 200 bG} (hM:kT t (bN t) A) {c:List Int} (hC:Cons t A c) {p q:Nat} {P Q:bQ} {a b:Int} (J:t.procs.l[p]? = some P) (D:t.procs.l[q]? = some Q) (ha:c[p]? = some a) (hb:c[q]? = some b) :
 (Q.events.l.take b.toNat).countP (kX p)=(P.events.l.take a.toNat).countP λe=>dU q e && !pP t c e:=by
 have mem:∀{p:Nat} {P:bQ} {k:Nat} {e:Event},t.procs.l[p]? = some P->P.events.l[k]? = some e->((⟨p,k+1⟩:aY),e)∈bN t:=λJ hk=>dF.2 ⟨_,_,⟨_,J,hk⟩,rfl⟩
 have a0:=(hC.1.2 p a P ha J).1;have b0:=(hC.1.2 q b Q hb D).1;have r1:∀k,k∈places (kX p) (Q.events.l.take b.toNat)->∃(z:Event) (j:Nat) (e:Event),Q.events.l[k]? = some z/\z.kind=3/\P.events.l[j]? = some e/\e.kind=2/\e.peer=q/\e.message=z.message/\fK t 2 z.message=⟨p,j+1⟩/\(j:Int)+1<=a/\(k:Int)+1<=b:=λk hk=>by
  obtain⟨aj,z,h1,u⟩:=rT.1 hk;have u:z.kind=3/\z.peer=p:=by simpa [kX]using u
  have hm:=mem D h1;obtain⟨e,e1,e2,e3⟩:=wj G.formed G.ok.yN hm u.1;obtain⟨f1,f2⟩:=G2 G hm u.1 e1 e2 e3;obtain⟨p',j,⟨P',aa,hj⟩,I⟩:=dF.1 e1;simp only at f1 I hj;rw[I]at f2;have ad:p'=p:=by simp only at f2;omega
  subst ad;rw[J]at aa;cases aa;obtain⟨x,C,L⟩:=hC.2 q k z b ⟨Q,D,h1⟩ hb (by omega) u.1
  rw[<-Dp G hM ⟨Q,D,h1⟩ u.1,I]at C L;simp only[Int.toNat_natCast]at C L;rw[ha]at C;cases C;exact⟨z,j,e,h1,u.1,hj,e2,f1,e3,I,L,by omega⟩
 have s1:∀k,k∈places (λe=>dU q e && !pP t c e) (P.events.l.take a.toNat)->∃(e:Event) (j:Nat) (z:Event),P.events.l[k]? = some e/\e.kind=2/\Q.events.l[j]? = some z/\z.kind=3/\z.peer=p/\z.message=e.message/\fK t 3 e.message=⟨q,j+1⟩/\(j:Int)+1<=b:=λk hk=>by
  obtain⟨ak,e,h1,u⟩:=rT.1 hk;simp only[ζh,Bool.not_eq_true',pP,Bool.or_eq_false_iff,dU,beq_iff_eq,beq_eq_false_iff_ne,decide_eq_false_iff_not]at u;obtain⟨⟨g1,g2⟩,g3,g4⟩:=u;rcases Hy t 3 e.message with⟨h,_⟩|⟨z,z1,z2,z3⟩
  .rw[h]at g3;exact absurd rfl g3
  .obtain⟨f1,f2⟩:=G2 G z1 z2 (mem J h1) g1 z3.symm;obtain⟨q',j,⟨Q',ab,hj⟩,I⟩:=dF.1 z1;simp only at I hj f1 f2;rw[I]at f1 g4;have ae:q'=q:=by simp only at f1;omega
   subst ae;rw[D]at ab;cases ab;simp only[Int.toNat_natCast,hb,Option.getD_some]at g4;exact⟨e,j,z,h1,g1,hj,z2,f2,z3,I,by omega⟩
 apply Nat.le_antisymm
 .refine Dt (λk=>match Q.events.l[k]? with|some z=>((fK t 2 z.message).index-1).toNat|none=>0) (λk hk=>?_) λk k' hk O he=>?_
  .obtain⟨z,j,e,h1,u,S,h4,h5,T,U,h8,h9⟩:=r1 k hk;rw[h1];simp only[U];rw[show ((j:Int)+1-1).toNat=j from by omega]
   refine rT.2 ⟨by omega,e,S,?_⟩
   have af:fK t 3 e.message=⟨q,k+1⟩:=by
    rcases Hy t 3 e.message with⟨_,h⟩|⟨z',z1,z2,z3⟩
    .exact absurd ⟨u,T.symm⟩ (h _ (mem D h1))
    .exact G.ok.yN.rcv _ z1 _ (mem D h1) z2 u (by rw[z3,T])
   simp only[pP,af,dU,h4,h5,Int.toNat_natCast,hb,Option.getD_some];simp;omega
  .obtain⟨z,j,e,h1,u,S,h4,h5,T,U,_⟩:=r1 k hk;obtain⟨z',j',e',w,W,B,ah,ai,X,Y,_⟩:=r1 k' O;simp only[h1,w,U,Y]at he;have Z:j=j':=by omega
   subst Z;rw[S]at B;cases B;have:=G.ok.yN.rcv _ (mem D h1) _ (mem D w) u W (by rw[<-T,X])
   simp only[aY.mk.injEq]at this;omega
 .refine Dt (λk=>match P.events.l[k]? with|some e=>((fK t 3 e.message).index-1).toNat|none=>0) (λk hk=>?_) λk k' hk O he=>?_
  .obtain⟨e,j,z,h1,u,S,h4,h5,T,U,h8⟩:=s1 k hk;rw[h1];simp only[U];rw[show ((j:Int)+1-1).toNat=j from by omega]
   exact rT.2 ⟨by omega,z,S,by simp[kX,h4,h5]⟩
  .obtain⟨e,j,z,h1,u,S,h4,h5,T,U,_⟩:=s1 k hk;obtain⟨e',j',z',w,W,B,ah,ai,X,Y,_⟩:=s1 k' O;simp only[h1,w,U,Y]at he;have Z:j=j':=by omega
   subst Z;rw[S]at B;cases B;have:=G.ok.yN.snd _ (mem J h1) _ (mem J w) u W (by rw[<-T,X])
   simp only[aY.mk.injEq]at this;omega
theorem JZ {t:Trace} (U:VT t) {A:cC 200 bG} (W:kT t (bN t) A) {c:List Int} (Y:Cons t A c) {p q:Nat} {P Q:bQ} {a b:Int} (B:t.procs.l[p]? = some P) (D:t.procs.l[q]? = some Q) (G:c[p]? = some a) (J:c[q]? = some b) :
 under t c p q=((P.events.l.take a.toNat).countP λe=>dU q e&&pP t c e:Nat):=by
 unfold under;rw[B,D,G,J];dsimp only;rw[Ot U W Y B D G J,yS (dU q) (pP t c)];omega
end Go.VE
namespace Go.VE
theorem pJ {σ ε ρ γ:Type} {step:σ->Option (Fw σ ε ρ)} {B:ε->Option γ} {fr:ρ->Option γ} {P:γ->Prop} (n:Nat) (I:Nat->σ->Prop) {s:σ} (h0:I 0 s)
 (h:∀i s,i<n->I i s->Wp (step s) λw=>match w with|.n D=>I (i+1) D|.x e=>Wp (B e) P|.r b=>Wp (fr b) P)
 (G:∀s,I n s->Wp (step s) λw=>match w with|.n _=>False|.x e=>Wp (B e) P|.r b=>Wp (fr b) P):Wp ((bX step s).bind (Fw.elim B fr)) P:=by
 have key:∀m i s,i+m=n->I i s->Wp ((bX step s).bind (Fw.elim B fr)) P:=by
  intro m
  induction m with
  | zero=>
   intro i s A z;obtain⟨w,u,hr⟩:=G s (by grind)
   rw[eo,u]
   cases w with
   | n D=>grind
   | x e=>exact hr
   | r b=>exact hr
  | succ m C=>
   intro i s A z;obtain⟨w,u,hr⟩:=h i s (by omega) z
   rw[eo,u]
   cases w with
   | n D=>grind
   | x e=>exact hr
   | r b=>exact hr
 exact key n 0 s (Nat.zero_add n) h0
section
variable {t:Trace} {A:cC 200 bG} {c:List Int}
theorem u7.at_ (h:u7 t c) {p:Nat} (hp:p<t.procs.l.length):∃a,c[p]? = some a:=⟨_,ζd (by rw[h.1];omega)⟩
theorem k_.one {p k:Nat} {e f:Event} (h:k_ t p k e) (g:k_ t p k f):e=f:=by
 obtain⟨P,u,w⟩:=h;obtain⟨Q,z,A⟩:=g
 grind
theorem Md (D:VT t) (J:kT t (bN t) A) {p k:Nat} {e:Event} (B:k_ t p k e) (G:e.kind=3):∃q j:Nat,(ag A e.message).from_=⟨q,j+1⟩/\q≠p/\EK t ⟨q,j+1⟩ ⟨p,k+1⟩/\∃y,k_ t q j y:=by
 obtain⟨q,j,y,u,z,C,y3,y4,y5⟩:=EC D J B G;have w:(⟨p,k+1⟩,e)∈bN t:=dF.2 ⟨p,k,B,rfl⟩;refine⟨q,j,y5,?_,⟨y,e,dF.2 ⟨q,j,u,rfl⟩,w,z,G,C⟩,y,u⟩;rcases D.formed _ w with h|⟨_,_,_,h,_⟩
 .grind
 grind
end
end Go.VE
namespace Go.VE
theorem vA {α:Type} {s:Sl α} {n:Nat} (h:n<s.l.length):decide ((n:Int)<len s)=true:=by simp[len];omega
theorem xX {α:Type} {s:Sl α}:decide ((s.l.length:Int)<len s)=false:=by simp[len]
theorem PI {α:Type} {s:Sl α} {x:α} (h:s.l.length<2147483648):∃r,iU s x=some r/\r.l=s.l++[x]:=by
 unfold iU;rw[if_pos (by omega)];exact⟨_,rfl,rfl⟩
section
variable {t:Trace} {A:cC 200 bG}
def S_ (t:Trace) (A:cC 200 bG) (c:List Int) (n:Nat):Prop:=∀(p k:Nat) (e:Event) (a:Int),p<n->k_ t p k e->c[p]? = some a->(k:Int)<a->e.kind=3->∃b,c[(ag A e.message).from_.proc.toNat]? = some b/\(ag A e.message).from_.index<=b
theorem QN (hS:Small t) (U:VT t) (hM:kT t (bN t) A) {c:Sl Int} (hR:u7 t c.l):Wp (dz t c) λb=>(b=true↔qq t A c.l):=by
 have aa:=hR.1;have ab:=U.few;unfold dz dz.W1;refine pJ c.l.length (λn s=>s=(n:Int)/\S_ t A c.l n) ⟨rfl,λp k e a h=>absurd h (by omega)⟩ ?_ ?_
 .rintro n _ B ⟨rfl,T⟩;unfold dz.bF;rw[vA B,cg];have z:n<t.procs.l.length:=by omega
  have ad:=(hS.2 _ (List.getElem_mem z)).1;have C:=ζd z;have D:=ζd B;obtain⟨r1,r2⟩:=hR.2 n _ _ D C;have J:=cr B;generalize c.l[n]=a at *;generalize t.procs.l[n]=P at *;unfold dz.W2;refine pJ a.toNat (λm s=>s=(m:Int)/\∀(k:Nat) (e:Event),k<m->k_ t n k e->e.kind=3->∃b,c.l[(ag A e.message).from_.proc.toNat]? = some b/\(ag A e.message).from_.index<=b) ⟨rfl,λk e h=>absurd h (by omega)⟩ ?_ ?_
  .rintro m _ hm ⟨rfl,W⟩;unfold dz.cq;have L:m<P.events.l.length:=by omega
   have u:k_ t n m P.events.l[m]:=⟨P,C,ζd L⟩;rw[J,ζb,show decide ((m:Int)<a)=true from by simp;omega,cg,mo,C,ζb,cr L,ζb,dP m (by omega)]
   generalize P.events.l[m]=e at *;have more:(e.kind=3->∃b,c.l[(ag A e.message).from_.proc.toNat]? = some b/\(ag A e.message).from_.index<=b)->∀(k:Nat) (e:Event),k<m+1->k_ t n k e->e.kind=3->∃b,c.l[(ag A e.message).from_.proc.toNat]? = some b/\(ag A e.message).from_.index<=b:=λh k f hk Z w=>by
    by_cases ek:k=m
    .subst ek;cases u.one Z;exact h w
    .exact W k f (by omega) Z w
   rw[cm];refine⟨λw=>?_,λw=>(bh _).2 ⟨rfl,more λk=>by simp[k]at w⟩⟩
   have w:e.kind=3:=by simpa using w
   obtain⟨q,j,f1,_,_,y,Q,hQ,_⟩:=Md U hM u w;have G:q<c.l.length:=by have:=(ζe.1 hQ).1;omega
   rw[find_eq hS,Dp U hM u w,ζb,f1];simp only;rw[cr G,ζb,cm];refine⟨λX=>(bh _).2 ((bh _).2 ((bh _).2 ⟨λh=>(by cases h),λhC=>?_⟩)),λY=>(bh _).2 ⟨rfl,more λ_=>?_⟩⟩
   .obtain⟨b,O,S⟩:=hC n m e a u D (by omega) w
    rw[f1]at O S;simp only[Int.toNat_natCast,ζd G,ζa]at O S;simp only[decide_eq_true_eq]at X;omega
   .rw[f1];exact⟨c.l[q],by simp only[Int.toNat_natCast];exact ζd G,by simp at Y ⊢;omega⟩
  .rintro _ ⟨rfl,W⟩;unfold dz.cq;rw[J,ζb,show decide ((a.toNat:Int)<a)=false from by simp;omega,dg]
   refine(bh _).2 ((bh _).2 ⟨dP n (by omega),λp k e x hp u I hk w=>?_⟩)
   by_cases e2:p=n
   .subst e2;rw[D]at I;cases I;exact W k e (by omega) u w
   .exact T p k e x (by omega) u I hk w
 .rintro _ ⟨rfl,T⟩;unfold dz.bF;rw[xX,dg];exact(bh _).2 ((bh _).2 ⟨λ_ p k e a u I=>T p k e a (ζe.1 I).1 u I,λ_=>rfl⟩)
end
end Go.VE
namespace Go.VE
def ins (s:Sl (Sl Int)):List (List Int):=s.l.map Sl.l
end Go.VE
namespace Go.VE
section
variable {t:Trace} {A:cC 200 bG}
end
end Go.VE
namespace Go.VE
end Go.VE
namespace Go.VE
end Go.VE
namespace Go.VE
section
variable {t:Trace} {A:cC 200 bG}
end
end Go.VE
namespace Go.VE
section
variable {t:Trace} {A:cC 200 bG}
structure TB (t:Trace) (A:cC 200 bG) (k:Nat) (o:Sl (Sl (Sl Int))):Prop where
 nd:(o.l.flatMap ins).Nodup
 mem:∀d,d∈o.l.flatMap ins↔Cons t A d/\d.sum<(k:Int)
end
end Go.VE
namespace Go.VE
section
variable {t:Trace} {A:cC 200 bG}
end
end Go.VE
namespace Go.VE
section
variable {t:Trace} {A:cC 200 bG}
end
end Go.VE
namespace Go.VE
section
variable {t:Trace} {A:cC 200 bG}
theorem JJ (D:Small t) (hv:dN t=some true) (G:VT t) (J:kT t (bN t) A) {c:Sl Int} (B:Cons t A c.l) {p q:Nat} (hp:p<t.procs.l.length) (U:q<t.procs.l.length) :
 cW t (Sl.row [c]:Sl (Sl Int)) (Sl.row [(p:Int),(q:Int)]:Sl Int)=some 0:=by
 refine Wp.eq ?_;have u:=B.1.1;unfold cW uJ;rw[hv,ζb,cg,yA (f:=λz=>(iQ z t).getD false) (λz _=>N3.ok ((bh _).2 trivial)) (by simp[Sl.l]),ζb,ζb,ζb]
 have w:(!((Sl.row [c]:Sl (Sl Int)).l.any λz=>(iQ z t).getD false))=true:=by
  simp[Sl.l,iQ,len,u] <;> exact congrArg Int.ofNat u
 rw[w,cg];unfold cW.W1;refine pJ 1 (λn s=>s=(n:Int)) rfl ?_ ?_
 .rintro n _ C rfl;obtain rfl:n=0:=by omega
  unfold cW.bF;rw[show decide (((0:Nat):Int)<len (Sl.row [c]:Sl (Sl Int)))=true from rfl,cg,show idx (Sl.row [c]:Sl (Sl Int)) ((0:Nat):Int)=some c from rfl,ζb,gW];refine(Bg D u).mono λb I=>?_
  rw[I.2 B.1,cg];exact(bh _).2 rfl
 .rintro _ rfl;unfold cW.bF;rw[show decide (((1:Nat):Int)<len (Sl.row [c]:Sl (Sl Int)))=false from rfl,dg,bh];have proc:∀r:Nat,r<t.procs.l.length->rL t r=some true:=λr hr=>by
   unfold rL;rw[show decide ((r:Int)>=0)=true from by simp,cg,vA hr];rfl
  show Wp (cW.W2 (Sl.row [c]) (Sl.row [(p:Int),(q:Int)]) 2 0 t) _;unfold cW.W2;refine pJ 2 (λn s=>s=(n:Int)) rfl ?_ ?_
  .rintro n _ C rfl;unfold cW.cq;rw[show decide ((n:Int)<2)=true from by simp;omega,cg]
   have L:∃r:Nat,idx (Sl.row [(p:Int),(q:Int)]) (n:Int)=some (r:Int)/\r<t.procs.l.length:=by
    rcases (show n=0\/n=1 by omega)with rfl|rfl
    .exact⟨p,rfl,hp⟩
    .exact⟨q,rfl,U⟩
   obtain⟨r,h1,O⟩:=L;rw[h1,ζb,proc r O,ζb,cg];exact(bh _).2 (dP n (by omega))
  .rintro _ rfl;unfold cW.cq;rw[show decide (((2:Nat):Int)<2)=false from rfl,dg,bh];show Wp (cW.W3 (Sl.row [c]) 1 0 t) _;unfold cW.W3;refine pJ 1 (λn s=>s=(n:Int)) rfl ?_ ?_
   .rintro n _ C rfl;obtain rfl:n=0:=by omega
    unfold cW.dZ;rw[show decide (((0:Nat):Int)<1)=true from rfl,cg,show idx (Sl.row [c]:Sl (Sl Int)) ((0:Nat):Int)=some c from rfl,ζb];unfold tf;rw[gW,gW];refine(BO D hv G J B.1).mono λr hr=>?_
    rw[bh,hr.2 B.2];exact(bh _).2 rfl
   .rintro _ rfl;unfold cW.dZ;rw[show decide (((1:Nat):Int)<1)=false from rfl,dg,bh];exact(bh _).2 rfl
theorem LL (B:Small t) (hv:dN t=some true) (kind m:Int):gi t kind m=some (match (bN t).find? (jF kind m)with|some x=>(x.1,true)|none=>(⟨0,0⟩,false)):=by
 refine Wp.eq ?_;unfold gi;rw[hv,ζb,cg];unfold gZ;rw[ζb];unfold gi.E1;rw[qK B,ζb];refine vR (λk _=>((bN t).take k).find? (jF kind m)=none) (by simp) ?_ ?_
 .intro k y _ z u;have w:(bN t).take (k+1)=(bN t).take k++[y]:=by rw[List.take_add_one,z];rfl
  have A:(y.2.kind==kind&&y.2.message==m)=jF kind m y:=rfl;unfold gi.js;rw[kY,ζb,A,cm];constructor
  .intro hc;refine(bh _).2 ((bh _).2 ?_);have:(bN t).find? (jF kind m)=some y:=by
    rw[<-List.take_append_drop (k+1) (bN t),w,List.find?_append,List.find?_append,u];simp[hc]
   rw[this]
  .intro hc;rw[bh,w,List.find?_append,u];simp[hc]
 .intro _ u;rw[List.take_length]at u;exact(bh _).2 (by rw[u])
theorem LJ (J:Small t) (hv:dN t=some true) (hV:VT t) (hM:kT t (bN t) A) {c:Sl Int} (B:Cons t A c.l) {p q:Nat} (hp:p<t.procs.l.length) (U:q<t.procs.l.length) :
 Wp (fS t c p q) λr=>r.2=0/\(r.1.l.length:Int)=under t c.l p q:=by
 have L:=ζd hp;obtain⟨a,O⟩:=B.1.at_ hp;obtain⟨b,D⟩:=B.1.at_ U;rw[JZ hV hM B L (ζd U) O D];have aa:=(J.2 _ (List.getElem_mem hp)).1;obtain⟨a0,a1⟩:=B.1.2 p a _ O L;generalize ab:t.procs.l[p]=P at *;unfold fS;rw[JJ J hv hV hM B hp U,ζb,show ((0:Int)==0)=true from rfl,cg,mo,L,ζb,show idx c (p:Int)=some a from by rw[mo];exact O,ζb]
 obtain⟨y,Z,G⟩:=oa P.events a.toNat (by omega)
 rw[show ((a.toNat:Nat):Int)=a from by omega]at Z
 rw[Z,ζb,<-G];have ad:y.l.length<=P.events.l.length:=by rw[G,List.length_take];omega
 unfold fS.W1;refine pJ y.l.length (λn s=>s.2.1=len y/\s.2.2=(n:Int)/\s.1.l.length=(y.l.take n).countP λe=>dU q e&&pP t c.l e) ⟨rfl,rfl,rfl⟩ ?_ ?_
 .rintro n ⟨o,_,_⟩ w ⟨e1,e2,z⟩;simp only at e1 e2 z;subst e1 e2;have Q:=List.countP_le_length (p:=λe=>dU q e&&pP t c.l e) (l:=y.l.take n)
  rw[List.length_take]at Q;have u:(y.l.take (n+1)).countP (λe=>dU q e&&pP t c.l e)=o.l.length+if dU q y.l[n]&&pP t c.l y.l[n]then 1 else 0:=by
   rw[List.take_add_one,ζd w,List.countP_append,z];show _+List.countP _ [y.l[n]]=_;rw[List.countP_cons,List.countP_nil];simp
  have S:=dP n (by omega)
  unfold fS.bF;rw[vA w,cg,cr w,ζb];generalize y.l[n]=e at u;have T:(bl (e.kind==2) (some (!(e.peer==(q:Int)))) (some true):Option Bool)=some (!dU q e):=by
   unfold dU;cases e.kind==2 <;> cases e.peer==(q:Int) <;> rfl
  rw[T,ζb,cm];refine⟨λC=>(bh _).2 ⟨rfl,S,by rw[u,show dU q e=false from by simpa using C];rfl⟩,λC=>?_⟩
  have C:dU q e=true:=by simpa using C
  unfold qZ;rw[LL J hv,ζb,ζb];have hc:(bl (match (bN t).find? (jF 3 e.message)with|some x=>(x.1,true)|none=>((⟨0,0⟩:aY),false)).2 ((idx c (match (bN t).find? (jF 3 e.message)with|some x=>(x.1,true)|none=>((⟨0,0⟩:aY),false)).1.proc).bind λW=>some (decide ((match (bN t).find? (jF 3 e.message)with|some x=>(x.1,true)|none=>((⟨0,0⟩:aY),false)).1.index>W))) (some true):Option Bool)=some (pP t c.l e):=by
   unfold pP fK
   cases hf:(bN t).find? (jF 3 e.message)with
   | none=>rfl
   | some x=>
    obtain⟨X,j,⟨Q',Y,_⟩,hx⟩:=dF.1 (tq hf).1;have I:X<c.l.length:=by rw[B.1.1];exact(ζe.1 Y).1
    simp only[hx,cg];rw[cr I,ζb,show ((X:Nat):Int).toNat=X from rfl,ζd I,show (((j:Int)+1)==0)=false from by simp;omega,Bool.false_or];rfl
  rw[hc,ζb,cm];refine⟨λD=>?_,λD=>(bh _).2 ⟨rfl,S,by rw[u,C,D];rfl⟩⟩
  obtain⟨r,h1,h2⟩:=PI (s:=o) (x:=e.message) (by omega)
  rw[h1,ζb,bh];exact⟨rfl,S,by rw[h2,u,C,D,ζi];rfl⟩
 .rintro⟨o,_,_⟩ ⟨e1,e2,z⟩;simp only at e1 e2 z;subst e1 e2;unfold fS.bF;rw[xX,dg,bh];refine(bh _).2 ⟨rfl,?_⟩;rw[List.take_length]at z;simp only[z]
end
end Go.VE
namespace Go.VE
section
variable {α σ:Type}
def Fk (p:α->σ->Option (Bool×σ)):List α->σ->Option (Bool×σ)
 | [],x=>some (false,x)
 | a::r,x=>(p a x).bind λy=>if y.1 then some (true,y.2)else Fk p r y.2
theorem PF {s:Sl α} {p:α->σ->Option (Bool×σ)} {x:σ} (B:s.l.length<1073741824):yT s p x=Fk p s.l x:=by
 have key:∀(rem:List α) (j:Nat) (x:σ),s.l.drop j=rem->((bX (Bm s p) ((j:Int),x)).bind (Fw.elim (λe=>some ((-1:Int),e)) λe=>some e)).bind (λy:Int×σ=>some (decide (y.1>=0),y.2))=Fk p rem x:=by
  intro rem
  induction rem with
  | nil=>
   intro j x hd;have h1:decide ((j:Int)<len s)=false:=by
    have:s.l.length<=j:=by simpa using hd
    simp[len];omega
   rw[eo];simp only[Bm,h1,bl,Bool.false_eq_true,if_false,ζb,Fw.elim,Fk];rfl
  | cons a rem u=>
   intro j x hd;have h1:j<s.l.length:=by
    apply Classical.byContradiction;intro A;rw[List.drop_eq_nil_of_le (by omega)]at hd;cases hd
   have w:=List.drop_eq_getElem_cons h1;rw[w]at hd;simp only[List.cons.injEq]at hd;rw[eo];simp only[Bm,vA h1,bl,if_true,cr h1,ζb,hd.1,Fk]
   cases p a x with
   | none=>rfl
   | some y=>
    obtain⟨b,z⟩:=y;simp only[ζb]
    cases b with
    | true=>simp[Fw.elim]
    | false=>
     simp only[Bool.false_eq_true,if_false,ζb,dP j (by omega)]
     exact u (j+1) z hd.2
 exact key s.l 0 x rfl
theorem uC {δ:Type} {b:(α->Option δ)->α->Option δ} {n:Nat} (h:0<n) (z:α):vB b n z=b (vB b (n-1)) z:=by
 cases n with
 | zero=>omega
 | succ n=>rfl
end
def H7 (l:List Int) (az:List Assign):List Int:=az.foldl (λl a=>l.set a.var.toNat a.value) l
def jZ (P:bQ):Nat->List Int
 | 0=>P.vars.l.map Var.init_
 | k+1=>match P.events.l[k]? with
  | some e=>H7 (jZ P k) e.assign.l
  | none=>jZ P k
theorem Ek:∀(az:List Assign) (l:List Int),(H7 l az).length=l.length
 | [],l=>rfl
 | a::r,l=>by
  show (H7 (l.set a.var.toNat a.value) r).length=_;rw[Ek r];simp
theorem qS (P:bQ):∀k,(jZ P k).length=P.vars.l.length
 | 0=>by simp[jZ]
 | k+1=>by
  unfold jZ;split
  .rw[Ek,qS P k]
  .exact qS P k
def Nr {α:Type} (s:Sl α):Prop:=s=.nil\/∃l,s=.row l
theorem Fb:∀(vs:List Var) (s:Sl Int),Nr s->s.l.length+vs.length<1073741824->∃B,tw vs s=some B/\Nr B/\B.l=s.l++vs.map Var.init_
 | [],s,h,_=>⟨s,rfl,h,by simp⟩
 | v::r,s,h,D=>by
  simp only[List.length_cons]at D;have h1:iU s v.init_=some (.row (s.l++[v.init_])):=by unfold iU;rw[if_pos (by omega)]
  obtain⟨B,g1,g2,g3⟩:=Fb r (.row (s.l++[v.init_])) (.inr ⟨_,rfl⟩) (by show (s.l++[v.init_]).length+r.length<1073741824;simp;omega)
  refine⟨B,?_,g2,by rw[g3];show (s.l++[v.init_])++r.map Var.init_=_;simp⟩
  simp only[tw,h1,ζb,g1]
theorem Ee:∀(az:List Assign) (s:Sl Int),Nr s->(∀a∈az,0<=a.var/\a.var<s.l.length)->∃B,tA az s=some B/\Nr B/\B.l=H7 s.l az
 | [],s,h,_=>⟨s,rfl,h,rfl⟩
 | a::r,s,h,D=>by
  obtain⟨h0,h1⟩:=D a (by simp)
  have hc:Sl.qw s a.var=some a.var.toNat:=by unfold Sl.qw;rw[if_pos ⟨h0,by omega⟩]
  rcases h with rfl|⟨l,rfl⟩
  .simp[Sl.l]at h1;omega
  have u:Sl.put (.row l) a.var.toNat a.value=some (.row (l.set a.var.toNat a.value)):=by
   unfold Sl.put;rw[if_pos (by simp[Sl.l]at h1 ⊢;omega)]
  obtain⟨B,g1,g2,g3⟩:=Ee r (.row (l.set a.var.toNat a.value)) (.inr ⟨_,rfl⟩) (λb w=>by
   have:=D b (List.mem_cons_of_mem _ w);simpa [Sl.l]using this)
  refine⟨B,?_,g2,g3⟩;simp only[tA,hc,u,ζb,g1]
theorem Hp {s:Sl Int} (h:Nr s) (B:s.l.length<1073741824):∃c,Iw s=some c/\c.l=s.l:=by
 rcases h with rfl|⟨l,rfl⟩
 .exact⟨.nil,rfl,rfl⟩
 .unfold Iw IB.fM wN;simp only[Sl.isNil,ζb,bl,Bool.false_eq_true,if_false]
  by_cases h0:(Sl.row l).l=[]
  .rw[if_pos h0];exact⟨.row [],rfl,h0.symm⟩
  .rw[if_neg h0,if_pos (by simp[Sl.l]at B ⊢;omega)]
   exact⟨_,rfl,by simp[Sl.l]⟩
def zj (P:bQ):Prop:=∀e∈P.events.l,∀a∈e.assign.l,0<=a.var/\a.var<P.vars.l.length
theorem FD {P:bQ} (B:zj P) (hv:P.vars.l.length<1073741824):∀(rem:List Event) (k:Nat) (s:Sl Int),P.events.l.drop k=rem->Nr s->s.l=jZ P k ->
 ∃r,tG (k:Int) rem s=some r/\r.length=rem.length/\∀(i:Nat) x,r[i]? = some x->x.1=((k+i+1:Nat):Int)/\x.2.l=jZ P (k+i+1)
 | [],k,s,_,_,_=>⟨[],rfl,rfl,by simp⟩
 | e::rem,k,s,hd,D,G=>by
  have h1:k<P.events.l.length:=by
   apply Classical.byContradiction;intro D;rw[List.drop_eq_nil_of_le (by omega)]at hd;cases hd
  have A:=List.drop_eq_getElem_cons h1;rw[A]at hd;simp only[List.cons.injEq]at hd;have C:e∈P.events.l:=hd.1▸List.getElem_mem h1;have w:s.l.length=P.vars.l.length:=by rw[G,qS]
  obtain⟨n,g1,g2,g3⟩:=Ee e.assign.l s D (λa I=>by rw[w];exact B e C a I)
  have u:jZ P (k+1)=n.l:=by
   rw[g3,G];unfold jZ;rw[ζd h1,hd.1];cases k <;> rfl
  obtain⟨c,g4,g5⟩:=Hp g2 (by rw[<-u,qS];exact hv)
  obtain⟨r,J,L,O⟩:=FD B hv rem (k+1) n hd.2 g2 u.symm;refine⟨((k:Int)+1,c)::r,?_,by simp[L],λi x z=>?_⟩
  .simp only[tG,g1,g4,ζb];rw[show (k:Int)+1=((k+1:Nat):Int)from rfl,J];rfl
  .cases i with
   | zero=>
    simp only[List.getElem?_cons_zero,ζa]at z;subst z;exact⟨rfl,by rw[g5,<-u]⟩
   | succ i=>
    rw[List.getElem?_cons_succ]at z;obtain⟨Q,S⟩:=O i x z;exact⟨by rw[Q];congr 1;omega,by rw[S];congr 1;omega⟩
theorem Kn {P:bQ} (B:zj P) (hv:P.vars.l.length<1073741824) (J:P.events.l.length<1073741824) (D:∀e∈P.events.l,e.assign.l.length<1073741824) :
 ∃r,hG P=some r/\r.length=P.events.l.length+1/\∀(i:Nat) x,r[i]? = some x->x.1=(i:Int)/\x.2.l=jZ P i:=by
 obtain⟨s,g1,g2,g3⟩:=Fb P.vars.l .nil (.inl rfl) (by simpa [Sl.l]using hv)
 have w:s.l=jZ P 0:=by rw[g3];simp[Sl.l,jZ]
 obtain⟨c,g4,g5⟩:=Hp g2 (by rw[w,qS];exact hv)
 obtain⟨r,z,A,C⟩:=FD B hv P.events.l 0 s rfl g2 w;refine⟨(0,c)::r,?_,by simp[A],λi x u=>?_⟩
 .unfold hG;have hc:(mP P.vars.l.length&&(mP P.events.l.length&&P.events.l.all λe=>mP e.assign.l.length))=true:=by
   simp only[ζh,List.all_eq_true,mP,decide_eq_true_eq];exact⟨by omega,by omega,λe h=>by have:=D e h;omega⟩
  rw[if_pos hc,g1,ζb,g4,ζb];rw[show ((0:Nat):Int)=0 from rfl]at z;rw[z];rfl
 .cases i with
  | zero=>
   simp only[List.getElem?_cons_zero,ζa]at u;subst u;exact⟨rfl,by rw[g5,w]⟩
  | succ i=>
   rw[List.getElem?_cons_succ]at u;obtain⟨G,I⟩:=C i x u;exact⟨by rw[G];congr 1;omega,by rw[I];congr 1;omega⟩
theorem M_ {P:bQ} (B:zj P) (hv:P.vars.l.length<1073741824) (D:P.events.l.length<1073741824) (G:∀e∈P.events.l,e.assign.l.length<1073741824) {k:Nat} (hk:k<=P.events.l.length) :
 ∃x,eM P (k:Int)=some x/\x.l=jZ P k:=by
 obtain⟨r,h1,O,C⟩:=Kn B hv D G;have key:∀(rem:List (Int×Sl Int)) (i:Nat) (q:Sl Int),r.drop i=rem->i<=k->∃x,(jO (λ(x:Int×(Sl Int)) (q:Sl Int)=>eM.js P k x q) rem q).bind (Fw.pR (λq=>some Sl.nil) (λe=>Empty.elim e) (λe=>some e))=some x/\x.l=jZ P k:=by
  intro rem
  induction rem with
  | nil=>
   intro i q hd I;have:r.length<=i:=by simpa using hd
   omega
  | cons y rem J=>
   intro i q hd I;have u:i<r.length:=by omega
   have e2:=List.drop_eq_getElem_cons u;rw[e2]at hd;simp only[List.cons.injEq]at hd;obtain⟨A,L⟩:=C i y (by rw[ζd u,hd.1])
   by_cases w:i=k
   .subst w;refine⟨y.2,?_,L⟩;simp only[jO,eM.js,A,beq_self_eq_true,bl,if_true,ζb,Fw.pR]
   .have z:(y.1==(k:Int))=false:=by rw[A];simp;omega
    obtain⟨x,g1,g2⟩:=J (i+1) .nil hd.2 (by omega)
    refine⟨x,?_,g2⟩;simp only[jO,eM.js,z,bl,Bool.false_eq_true,if_false,ζb];exact g1
 obtain⟨x,g1,g2⟩:=key r 0 .nil rfl (Nat.zero_le _);refine⟨x,?_,g2⟩;unfold eM nH eM.E1;simp only[ζb,h1];exact g1
end Go.VE
namespace Go.VE
theorem Gk {t:Trace} (D:Small t) (hv:dN t=some true) (B:VT t) {A:cC 200 bG} (G:kT t (bN t) A) (c:Sl Int):Wp (gY t c) λr=>Code t A c.l r.2:=by
 have O:=B.few;unfold gY;rw[gW];refine(P6 D hv B G c).mono λr hr=>?_
 rw[cm];constructor
 .intro h0;have h0:r=0:=by simpa using h0
  have I:=hr.zero.1 h0;have J:=I.1.1;unfold gY.W1;refine eO (λs:Sl aY×Int=>∃n:Nat,s.2=n/\n<=c.l.length/\s.1.l.length<=n) (λs=>c.l.length-s.2.toNat) ⟨0,rfl,Nat.zero_le _,Nat.le_refl _⟩ ?_
  rintro⟨o,i⟩ ⟨n,C,Q,L⟩;simp only at C L;subst C;unfold gY.bF;rw[cm];constructor
  .intro h;have w:n<c.l.length:=by simpa [len]using h
   have z:=dP n (by omega)
   have u:c.l.length-(IntKind.wrap .i64 ((n:Int)+1)).toNat<c.l.length-((n:Int)).toNat:=by rw[z];simp;omega
   rw[cr w,ζb,cm];constructor
   .intro _;unfold iU;rw[if_pos (show o.l.length+1<=2147483648 from by omega),ζb,bh]
    exact⟨⟨n+1,z,by omega,by show (o.l++[_]).length<=n+1;rw[ζi,List.length_singleton];omega⟩,u⟩
   .intro _;exact(bh _).2 ⟨⟨n+1,z,by omega,show o.l.length<=n+1 from by omega⟩,u⟩
  .intro _;exact(bh _).2 ((bh _).2 (h0▸hr))
 .intro h0;exact(bh _).2 hr
end Go.VE
namespace Go.VE
theorem zj.of {t:Trace} (B:Ok t) {p:Nat} {P:bQ} (D:t.procs.l[p]? = some P):zj P:=by
 intro e C a G;obtain⟨k,hk⟩:=List.mem_iff_getElem?.1 C;obtain⟨i,w⟩:=List.mem_iff_getElem?.1 G;have h:=B.eE p k P e D hk;unfold mM at h;have z:i<e.assign.l.length:=by
  apply Classical.byContradiction;intro J;rw[List.getElem?_eq_none (by omega)]at w;cases w
 have I:lK (lZ P e) 0 e.assign.l.length=0:=by
  split at h
  .split at h
   .cases h
   .split at h
    .cases h
    .exact h
  .cases h
 have u:=(JY (g:=lZ P e) (n:=e.assign.l.length) (m:=e.assign.l.length) (k:=0) (by omega)).1 I i (Nat.zero_le _) z
 unfold lZ at u;rw[w]at u;dsimp only at u
 by_cases A:(decide (0<=a.var)&&decide (a.var<P.vars.l.length))=true
 .simpa using A
 .rw[Bool.not_eq_true]at A;rw[A]at u;simp only[Lu]at u;cases u
theorem RY {t:Trace} {A:cC 200 bG} (J:Small t) (hv:dN t=some true) (W:VT t) (Y:kT t (bN t) A) {c:Sl Int} (U:Cons t A c.l) :
 Wp (gz t c) λr=>r.2=0/\r.1.l.length=t.procs.l.length/\∀(p:Nat) (P:bQ) (a:Int),t.procs.l[p]? = some P->c.l[p]? = some a->∃x,r.1.l[p]? = some x/\x.l=jZ P a.toNat:=by
 have I:=U.1.1;unfold gz;rw[gW];refine(Gk J hv W Y c).mono λr hr=>?_
 rw[hr.zero.2 U,show ((0:Int)==0)=true from rfl,cg];unfold gz.W1;refine pJ c.l.length (λn s=>s.2=(n:Int)/\s.1.l.length=n/\∀(p:Nat) (P:bQ) (a:Int),p<n->t.procs.l[p]? = some P->c.l[p]? = some a->∃x,s.1.l[p]? = some x/\x.l=jZ P a.toNat) ⟨rfl,rfl,λp P a h=>absurd h (by omega)⟩ ?_ ?_
 .rintro n ⟨o,_⟩ u ⟨e1,e2,e3⟩;simp only at e1 e2 e3;subst e1;have L:n<t.procs.l.length:=by omega
  have w:=J.2 _ (List.getElem_mem L);have D:=ζd L;have C:=ζd u;obtain⟨a0,a1⟩:=U.1.2 n _ _ C D;have X:=zj.of W.ok D;obtain⟨x,T,O⟩:=M_ X w.2.1 w.1 w.2.2.2.2 (k:=c.l[n].toNat) (by omega)
  rw[show ((c.l[n].toNat:Nat):Int)=c.l[n]from by omega]at T
  have h1:=J.1;unfold gz.bF;rw[vA u,cg,cr u,ζb,cr L,ζb,T,ζb];have G:iU o (x:Sl Int)=some (.row (o.l++[x])):=by unfold iU;rw[if_pos (by omega)]
  rw[G,ζb,bh,dP n (by omega)]
  refine⟨rfl,by simp[Sl.l];exact e2,λp P a h z B=>?_⟩
  show ∃y,(o.l++[x])[p]? = some y/\_
  by_cases Q:p=n
  .subst Q;rw[D]at z;rw[C]at B;cases z;cases B;exact⟨x,by rw[List.getElem?_append_right (by omega)];simp[e2],O⟩
  .obtain⟨y,Z,S⟩:=e3 p P a (by omega) z B
   exact⟨y,by rw[List.getElem?_append_left (by omega)];exact Z,S⟩
 .rintro⟨o,_⟩ ⟨e1,e2,e3⟩;simp only at e1 e2 e3;subst e1;unfold gz.bF;rw[show decide ((c.l.length:Int)<len c)=false from xX,dg,bh];refine(bh _).2 ⟨rfl,by rw[e2,I],λp P a D C=>e3 p P a ?_ D C⟩
  apply Classical.byContradiction;intro hn;rw[List.getElem?_eq_none (by omega)]at C;cases C
section
variable {P:Pred} {t:Trace}
theorem AA {α σ:Type} (p:α->σ->Option (Bool×σ)) (x:σ):yT (.nil:Sl α) p x=some (false,x):=by rw[PF (by simp[Sl.l])];rfl
theorem vk (B:P.l=.nil) (D:fR P=some true):jR P=some true:=by
 unfold jR nV;rw[uC (by omega)]
 show (gG P 1 200 _).bind _=_;unfold gG;rw[B,AA,D,show decide (IntKind.wrap .i64 (200-1)<0)=false from by decide,show decide ((1:Int)>20)=false from rfl]
 rfl
theorem yK (B:P.l=.nil) {f:Pred->Option Bool} {b:Bool} (D:f P=some b):k8 P f=some b:=by
 unfold k8;rw[uC (by omega)]
 show jS P f _=_;unfold jS;rw[B,AA,D];cases b <;> rfl
theorem A5 (B:P.l=.nil):mb P=some true:=by
 unfold mb;rw[yK B (b:=true) (by unfold lV;rw[B,AA];rfl)]
 rfl
theorem Ik (B:P.l=.nil) (hk:P.kind<=8) {i:bT} (D:mU t P=some i) (h1:-1125899906842624<=i.low) (G:i.high<=1125899906842624):oH t P=some true:=by
 have u:en t P=some (i,true):=by
  unfold en;rw[uC (by omega)]
  show i_ t P _=_;unfold i_ jh;rw[B,show ((len (Sl.nil:Sl Pred))==0)=true from rfl,cg,D,ζb,show decide (i.low < -1125899906842624)=false from by simp;omega,dg,ζb,ζb]
  rw[show decide (i.high>1125899906842624)=false from by simp;omega]
  rfl
 unfold oH;rw[uC (by omega)]
 show jr t P _=_;unfold jr jL;rw[show decide (P.kind<=8)=true from by simp;omega,cg,ζb,show ((1:Int)==1)=true from rfl,cg,u]
 rfl
theorem Iy (hv:dN t=some true) (B:P.l=.nil) (D:fR P=some true) (hk:P.kind<=8) {b:Bool} (hr:eB P t=some b)
 (G:b=true->∃i,mU t P=some i/\-1125899906842624<=i.low/\i.high<=1125899906842624):oK t P=some (if b then 0 else 13):=by
 unfold oK o7;rw[hv,ζb,cg,vk B D,ζb,ζb,show (!true)=false from rfl,dg,yK B hr,ζb,ζb]
 cases b with
 | false=>rfl
 | true=>
  obtain⟨i,h1,u,w⟩:=G rfl;rw[cg,A5 B,ζb,cg,Ik B hk h1 u w,ζb,cg];rfl
theorem GQ (B:P.l=.nil) (D:fR P=some true) (hk:P.kind<=8):oA P 1=some 0:=by
 unfold oA sW jL;rw[vk B D,ζb,cg,A5 B,ζb,cg,show decide (P.kind<=8)=true from by simp;omega]
 rfl
theorem DG (B:P.l=.nil) (D:fR P=some true) (hk:P.kind<=8):lX P=some false:=by
 unfold lX;rw[vk B D,ζb,cg,yK B (b:=true) (by
  unfold j_ oV;rw[show decide (P.kind>=18)=false from by simp;omega]
  rfl)]
 rfl
theorem EG {c:Sl Int} {l:Sl (Sl Int)} (hv:dN t=some true) (B:c.l.length=t.procs.l.length) (D:gz t c=some (l,0)) (G:P.l=.nil) (J:fR P=some true) (hk:P.kind<=8) {b:Bool} (hr:eB P t=some b)
 (U:b=true->∃i,mU t P=some i/\-1125899906842624<=i.low/\i.high<=1125899906842624) {n:Int} (W:b=true->∀r,gX ⟨t,c,l⟩ P r=some n):iW t c P=some (if b then(n,0)else(0,13)):=by
 have u:(!(len c==len t.procs))=false:=by
  have:(len c==len t.procs)=true:=by rw[beq_iff_eq];simp only[len];rw[B]
  rw[this];rfl
 have w:=Iy hv G J hk hr U;unfold iW gy;rw[w,ζb]
 cases b with
 | false=>
  simp only[Bool.false_eq_true,if_false];rw[show ((13:Int)==1)=false from rfl,dg,ζb,u,dg];rfl
 | true=>
  simp only[if_true];rw[show ((0:Int)==1)=false from rfl,dg,ζb,u,dg];unfold gy.J1 gy.J2;rw[show ((0:Int)==0)=true from rfl,cg,D,ζb,show ((0:Int)==0)=true from rfl,cg,GQ G J hk,ζb,show ((0:Int)==0)=true from rfl,cg,DG G J hk];simp only[ζb,bl,Bool.false_eq_true,if_false];rw[show ((0:Int)==0)=true from rfl,if_pos rfl];unfold mL;rw[uC (by omega),W rfl]
  rfl
end
end Go.VE
namespace Go.VE
theorem PC {t:Trace} (B:Small t):∃b,tE t=some b:=by
 have h1:∀e:Event,mF e=some (decide (len e.assign>20)):=λe=>rfl
 have w:∀P∈t.procs.l,∃b,jW P=some b:=λP u=>by
  unfold jW;rw[xy (f:=λe=>decide (len e.assign>20)) (λe _=>h1 e) (B.2 P u).1]
  cases decide (len P.events>70) <;> cases decide (len P.vars>20) <;> exact⟨_,rfl⟩
 unfold tE;rw[yC (p:=λz=>jW z) (f:=λP=>(jW P).getD false) (λP u=>by obtain⟨b,A⟩:=w P u;rw[A];rfl) B.1]
 cases decide (len t.procs>10) <;> exact⟨_,rfl⟩
section
variable {t:Trace} {A:cC 200 bG}
theorem Gy (D:Small t) {p:Nat} {P:bQ} (B:t.procs.l[p]? = some P) (q:Nat):dV t p q=some ((P.events.l.countP (dU q):Nat):Int):=by
 have G:P∈t.procs.l:=List.mem_of_getElem? B;have I:=(D.2 P G).1;refine Wp.eq ?_;unfold dV;rw[mo,B,ζb];unfold dV.W1;refine pJ P.events.l.length (λn s=>s.2=(n:Int)/\s.1=(((P.events.l.take n).countP (dU q):Nat):Int)) ⟨rfl,rfl⟩ ?_ ?_
 .rintro n ⟨o,_⟩ w ⟨e1,e2⟩;simp only at e1 e2;subst e1 e2;have z:=List.countP_le_length (p:=dU q) (l:=P.events.l.take n);rw[List.length_take]at z;have u:(P.events.l.take (n+1)).countP (dU q)=(P.events.l.take n).countP (dU q)+if dU q P.events.l[n]then 1 else 0:=by
   rw[List.take_add_one,ζd w,List.countP_append];show _+List.countP _ [P.events.l[n]]=_;rw[List.countP_cons,List.countP_nil];simp
  unfold dV.bF;rw[vA w,cg,cr w,ζb];generalize P.events.l[n]=e at u;have A:(bl (e.kind==2) (some (e.peer==(q:Int))) (some false):Option Bool)=some (dU q e):=by
   unfold dU;cases e.kind==2 <;> cases e.peer==(q:Int) <;> rfl
  rw[A,ζb,dP n (by omega)]
  cases C:dU q e with
  | true=>
   rw[C]at u;rw[cg,bh,dP _ (by omega)]
   exact⟨rfl,by simp only[u];rfl⟩
  | false=>
   rw[C]at u;rw[dg,bh];exact⟨rfl,by simp only[u];rfl⟩
 .rintro⟨o,_⟩ ⟨e1,e2⟩;simp only at e1 e2;subst e1 e2;unfold dV.bF;rw[xX,dg,bh];exact(bh _).2 (by rw[List.take_length])
abbrev Af (p:Nat):Pred:=⟨3,0,(p:Int),0,ByteArray.empty,.nil⟩
abbrev vg (p q:Nat):Pred:=⟨4,0,(p:Int),(q:Int),ByteArray.empty,.nil⟩
theorem LG (p:Nat):fR (Af p)=some true:=by
 unfold fR;rw[show cC.at DK (Af p).kind=some 0 from rfl];rfl
theorem Nl (p q:Nat):fR (vg p q)=some true:=by
 unfold fR;rw[show cC.at DK (vg p q).kind=some 0 from rfl];rfl
theorem yR (n:Nat):fA t (n:Int)=some (decide (n<t.procs.l.length)):=by
 unfold fA;rw[show decide ((n:Int)>=0)=true from by simp,cg,ζb]
 congr 1
 rw[Bool.eq_iff_iff];simp[len]
theorem zZ (s:ByteArray):(ByteArray.toList s==ByteArray.toList s)=true:=by simp
theorem Oy {p:Nat} (hp:p<t.procs.l.length):eB (Af p) t=some true:=by
 unfold eB;rw[show ((Af p).kind==2)=false from rfl,dg,show ((Af p).kind==3)=true from rfl,cg];show (fA t (p:Int)).bind _=_;rw[yR,decide_eq_true hp,ζb,cg,ζb];show (some (ByteArray.toList ByteArray.empty==ByteArray.toList ByteArray.empty)).bind _=_;rw[zZ];rfl
theorem Ol {p q:Nat} (hp:p<t.procs.l.length) (B:q<t.procs.l.length):eB (vg p q) t=some (decide (p≠q)):=by
 unfold eB;rw[show ((vg p q).kind==2)=false from rfl,dg,show ((vg p q).kind==3)=false from rfl,dg,show ((vg p q).kind==4)=true from rfl,cg];show (fA t (p:Int)).bind _=_;rw[yR,decide_eq_true hp,ζb,cg];show ((fA t (q:Int)).bind _).bind _=_;rw[yR,decide_eq_true B,ζb,ζb,cg,ζb];show (bl (!((p:Int)==(q:Int))) (some (ByteArray.toList ByteArray.empty==ByteArray.toList ByteArray.empty)) (some false):Option Bool).bind _=_;rw[zZ]
 by_cases h:p=q
 .subst h;simp[bl]
 .have:((p:Int)==(q:Int))=false:=by simp;omega
  rw[this,decide_eq_true h];rfl
theorem Rt (G:Small t) (hv:dN t=some true) (U:VT t) (W:kT t (bN t) A) {c:Sl Int} (J:Cons t A c.l) {p:Nat} (hp:p<t.procs.l.length) :
 (∃a,c.l[p]? = some a/\iW t c (Af p)=some (a,0))/\∀q:Nat,q<t.procs.l.length->iW t c (vg p q)=some (if p=q then(0,13)else(under t c.l p q,0)):=by
 obtain⟨⟨l,e⟩,z,I,-,-⟩:=RY G hv U W J;simp only at I;subst I;have B:=J.1.1;have S:=ζd hp;have T:=(G.2 _ (List.getElem_mem hp)).1;refine⟨?_,λq L=>?_⟩
 .obtain⟨a,O⟩:=J.1.at_ hp;refine⟨a,O,?_⟩;refine EG (b:=true) hv B z rfl (LG p) (by show (3:Int)<=8;omega) (Oy hp) (λ_=>⟨⟨0,len t.procs.l[p].events⟩,?_,?_,?_⟩) λ_ r=>?_
  .show (idx t.procs (p:Int)).bind _=_;rw[cr hp];rfl
  .show (-1125899906842624:Int)<=0;omega
  .show ((t.procs.l[p].events.l.length:Nat):Int)<=1125899906842624;omega
  .show (idx c (p:Int)).bind _=_;rw[mo,O];rfl
 .have Q:=List.countP_le_length (p:=dU q) (l:=t.procs.l[p].events.l);obtain⟨⟨u,e2⟩,hu,C,D⟩:=LJ G hv U W J hp L;simp only at C D;subst C;have h:=EG (b:=decide (p≠q)) (n:=under t c.l p q) hv B z (P:=vg p q) rfl (Nl p q) (by show (4:Int)<=8;omega) (Ol hp L) (λ_=>⟨⟨0,((t.procs.l[p].events.l.countP (dU q):Nat):Int)⟩,by
   show (dV t (p:Int) (q:Int)).bind _=_;rw[Gy G S];rfl,by show (-1125899906842624:Int)<=0;omega,by show (((t.procs.l[p].events.l.countP (dU q):Nat)):Int)<=1125899906842624;omega⟩) λ_ r=>by
    show (jJ ⟨t,c,l⟩ (vg p q)).bind _=_;unfold jJ;show ((fS t c (p:Int) (q:Int)).bind _).bind _=_;rw[hu,ζb,ζb];show some ((u.l.length:Nat):Int)=_;rw[D]
  rw[h]
  by_cases w:p=q
  .rw[if_pos w,decide_eq_false (by simpa using w)];rfl
  .rw[if_neg w,decide_eq_true w];rfl
theorem BT {α:Type} {f:α->Bool} {l:List α} {n:Nat} (h:n<l.length):(l.take (n+1)).countP f=(l.take n).countP f+if f l[n]then 1 else 0:=by
 rw[List.take_add_one,ζd h,List.countP_append];show _+List.countP _ [l[n]]=_;rw[List.countP_cons,List.countP_nil];simp
theorem GW {c:Sl Int} (B:Small t) (hN:(bN t).length<1073741824):bS t c=some true:=by
 obtain⟨bg,Z⟩:=PC B;obtain⟨vl,hv,aa,ab⟩:=KJ B hN;unfold bS;rw[show uo=some true from rfl,ζb,cg,Z,ζb,aa]
 cases bg with
 | true=>rfl
 | false=>
  rw[dg,ζb,ζb]
  cases vl with
  | false=>rfl
  | true=>
   rw[show (!true)=false from rfl,dg];have W:=ab rfl;obtain⟨A,-,-,hM⟩:=W.msgs
   by_cases ad:c.l.length=t.procs.l.length
   .obtain⟨b,I,ae⟩:=OX (t:=t) B ad;rw[I,ζb]
    cases b with
    | false=>rfl
    | true=>
     rw[ζb,show (!true)=false from rfl,dg];have hR:=ae.1 rfl;obtain⟨d,hd,af⟩:=QN B W hM hR;rw[hd,ζb]
     cases d with
     | false=>rfl
     | true=>
      have X:Cons t A c.l:=⟨hR,af.1 rfl⟩;rw[ζb,show (!true)=false from rfl,dg];refine Wp.eq ?_;unfold bS.W1;refine pJ t.procs.l.length (λn s=>s=(n:Int)) rfl ?_ ?_
      .rintro p _ J rfl;obtain⟨⟨a,Y,L⟩,O⟩:=Rt B hv W hM X J;have hP:=ζd J;have ai:=(B.2 _ (List.getElem_mem J)).1;obtain⟨a0,a1⟩:=X.1.2 p a _ Y hP;have aj:=W.few;unfold bS.bF;rw[vA J,cg];show Wp ((iW t c (Af p)).bind _) _;rw[L,ζb];simp only;rw[show ((0:Int)==0)=true from rfl,cg,mo,Y,ζb,ζb,show (!(a==a))=false from by simp,dg]
       unfold bS.W2;refine pJ t.procs.l.length (λn s=>s=(n:Int)) rfl ?_ ?_
       .rintro q _ G rfl;have hQ:=ζd G;have ak:=(B.2 _ (List.getElem_mem G)).1;obtain⟨b,I⟩:=X.1.at_ G;obtain⟨b0,b1⟩:=X.1.2 q b _ I hQ;have ah:under t c.l p q=((t.procs.l[p].events.l.take a.toNat).countP (dU q):Int)-((t.procs.l[q].events.l.take b.toNat).countP (kX p):Int):=by
         unfold under;rw[hP,hQ,Y,I]
        unfold bS.cq;obtain⟨y,hy,Q⟩:=oa t.procs.l[p].events a.toNat (by omega)
        rw[show ((a.toNat:Nat):Int)=a from by omega]at hy
        obtain⟨z,hz,S⟩:=oa t.procs.l[q].events b.toNat (by omega)
        rw[show ((b.toNat:Nat):Int)=b from by omega]at hz
        rw[vA G,cg,cr J,ζb,mo,Y,ζb,hy,ζb];have al:y.l.length<=t.procs.l[p].events.l.length:=by rw[Q,List.length_take];omega
        have am:z.l.length<=t.procs.l[q].events.l.length:=by rw[S,List.length_take];omega
        unfold bS.W3;refine pJ y.l.length (λn s=>s.2=(n:Int)/\s.1=(((y.l.take n).countP (dU q):Nat):Int)) ⟨rfl,rfl⟩ ?_ ?_
        .rintro n ⟨o,_⟩ w ⟨e1,e2⟩;simp only at e1 e2;subst e1 e2;have C:=List.countP_le_length (p:=dU q) (l:=y.l.take n);rw[List.length_take]at C;have u:=BT (f:=dU q) w;unfold bS.dZ;rw[vA w,cg,cr w,ζb];generalize y.l[n]=e at u;have D:(bl (e.kind==2) (some (e.peer==(q:Int))) (some false):Option Bool)=some (dU q e):=by
          unfold dU;cases e.kind==2 <;> cases e.peer==(q:Int) <;> rfl
         rw[D,ζb,dP n (by omega)]
         cases T:dU q e with
         | true=>
          rw[T]at u;rw[cg,bh,dP _ (by omega)]
          exact⟨rfl,by simp only[u];rfl⟩
         | false=>
          rw[T]at u;rw[dg,bh];exact⟨rfl,by simp only[u];rfl⟩
        .rintro⟨o,_⟩ ⟨e1,e2⟩;simp only at e1 e2;subst e1 e2;unfold bS.dZ;rw[xX,dg,bh];simp only;rw[List.take_length,cr G,ζb,mo,I,ζb,hz,ζb];unfold bS.W4;have an:=List.countP_le_length (p:=dU q) (l:=y.l);refine pJ z.l.length (λn s=>s.2=(n:Int)/\s.1=((y.l.countP (dU q):Nat):Int)-(((z.l.take n).countP (kX p):Nat):Int)) ⟨rfl,by simp⟩ ?_ ?_
         .rintro n ⟨o,_⟩ w ⟨e1,e2⟩;simp only at e1 e2;subst e1 e2;have C:=List.countP_le_length (p:=kX p) (l:=z.l.take n);rw[List.length_take]at C;have u:=BT (f:=kX p) w;unfold bS.tU;rw[vA w,cg,cr w,ζb];generalize z.l[n]=e at u;have D:(bl (e.kind==3) (some (e.peer==(p:Int))) (some false):Option Bool)=some (kX p e):=by
           unfold kX;cases e.kind==3 <;> cases e.peer==(p:Int) <;> rfl
          rw[D,ζb,dP n (by omega)]
          cases T:kX p e with
          | true=>
           rw[T]at u;rw[cg,bh,rP _ (by omega) (by omega)]
           refine⟨rfl,?_⟩;simp only[u,if_true];omega
          | false=>
           rw[T]at u;rw[dg,bh];refine⟨rfl,?_⟩;simp only[u,Bool.false_eq_true,if_false];omega
         .rintro⟨o,_⟩ ⟨e1,e2⟩;simp only at e1 e2;subst e1 e2;unfold bS.tU;rw[xX,dg,bh];simp only;rw[List.take_length];show Wp ((iW t c (vg p q)).bind _) _;rw[O q G,ζb]
          by_cases U:p=q
          .subst U;rw[if_pos rfl,show ((p:Int)==(p:Int))=true from by simp,cg]
           simp only;rw[show ((13:Int)==13)=true from rfl,cg,ζb,show (!((0:Int)==0))=false from rfl,dg,dP p (by omega)]
           exact(bh _).2 rfl
          .rw[if_neg U,show ((p:Int)==(q:Int))=false from by simp;omega,dg]
           simp only;rw[show ((0:Int)==0)=true from rfl,cg,ζb,ah,<-Q,<-S,beq_self_eq_true,show (!true)=false from rfl,dg,dP q (by omega)]
           exact(bh _).2 rfl
       .rintro _ rfl;unfold bS.cq;rw[xX,dg,bh,dP p (by omega)]
        exact(bh _).2 rfl
      .rintro _ rfl;unfold bS.bF;rw[xX,dg,bh];exact(bh _).2 rfl
   .have:jt t c=some false:=by
     unfold jt;rw[show (len c==len t.procs)=false from by simp[len];omega]
     rfl
    rw[this];rfl
end
end Go.VE
namespace Go.VE
theorem BU {α:Type} [cD α] {x:α}:∀{l:List α},x∈l->cD.wt x<=(l.map cD.wt).sum
 | y::l,h=>by
  simp only[List.map_cons,List.sum_cons];rcases List.mem_cons.1 h with rfl|h
  .omega
  .have:=BU h;omega
theorem vF {α:Type} [cD α] (h:∀x:α,1<=cD.wt x):∀(l:List α),l.length<=(l.map cD.wt).sum
 | []=>Nat.le_refl _
 | y::l=>by
  simp only[List.map_cons,List.sum_cons,List.length_cons];have:=vF h l;have:=h y;omega
theorem Bj {α:Type} [cD α] (s:Sl α):cD.wt s=(s.l.map cD.wt).sum+1:=rfl
theorem zI (p:Int):∀(es:List Event) (j:Int),(gC p j es).length=es.length
 | [],_=>rfl
 | _::es,j=>by simp only[gC,List.length_cons,zI p es]
theorem Fe:∀(ps:List bQ) (i:Int),(eU i ps).length<=(ps.map cD.wt).sum
 | [],_=>Nat.le_refl _
 | p::ps,i=>by
  simp only[eU,ζi,zI,List.map_cons,List.sum_cons];have h1:=Fe ps (i+1);have u:=vF (α:=Event) (λx=>Nat.le_add_left ..) p.events.l
  have w:cD.wt p=cD.wt p.name+cD.wt p.vars+cD.wt p.events+1:=rfl;have z:=Bj p.events;omega
theorem LC {t:Trace} (h:cD.wt t<=1048576):Small t/\(bN t).length<1073741824:=by
 have h0:cD.wt t=cD.wt t.procs+1:=rfl;have h1:=Bj t.procs;have C:=vF (α:=bQ) (λx=>Nat.le_add_left ..) t.procs.l
 have D:=Fe t.procs.l 0;refine⟨⟨by omega,λp u=>?_⟩,by show (eU 0 t.procs.l).length<_;omega⟩
 have G:=BU u;have I:cD.wt p=cD.wt p.name+cD.wt p.vars+cD.wt p.events+1:=rfl;have J:=Bj p.events;have L:=Bj p.vars;have O:=vF (α:=Event) (λx=>Nat.le_add_left ..) p.events.l
 have Q:=vF (α:=Var) (λx=>Nat.le_add_left ..) p.vars.l
 have w:cD.wt p.name=p.name.size+1:=rfl;refine⟨by omega,by omega,by omega,λv hv=>?_,λe z=>?_⟩
 .have k1:=BU hv;have A:cD.wt v=cD.wt v.name+cD.wt v.init_+1:=rfl;have B:cD.wt v.name=v.name.size+1:=rfl;omega
 .have k1:=BU z;have A:cD.wt e=cD.wt e.kind+cD.wt e.peer+cD.wt e.message+cD.wt e.time+cD.wt e.assign+1:=rfl;have B:=Bj e.assign;have S:=vF (α:=Assign) (λx=>Nat.le_add_left ..) e.assign.l
  omega
end Go.VE
namespace Go.Proofs.YtlmckmkfopljoaaGreatDoor
open Go.ChangeShapes Go.WideShapes Go.ChangeAt Go.RowKit Go.VE
theorem own:ownKnob Tryz.prog.godebug=none:=by kernel_rfl
theorem kids:Kids Tryz.prog (·<Tryz.prog.types.size):=kids_rows (by kernel_rfl) (by kernel_rfl)
theorem full:∀t e,t<Tryz.prog.types.size->Tryz.prog.underlying t=some (.slice e)->0<Tryz.prog.cellsOf e:=slices_full_of Tryz.prog (by kernel_rfl)
theorem vE {H:Type}:∀l:List (DataW H),Rows.uptoBulkAll l=(l.map Rows.uptoBulk).sum
 | []=>by simp[Rows.uptoBulkAll]
 | d::r=>by simp[Rows.uptoBulkAll,vE r]
theorem JO {H:Type}:uq (H:=H) Rows.uptoBulk where
 lit l:=by cases l <;> simp[Rows.uptoBulk]
 str s:=by simp[Rows.uptoBulk]
 nil:=by simp[Rows.uptoBulk]
 slice es u:=by rw[Rows.uptoBulk,vE,vE];omega
 agg w:=by rw[Rows.uptoBulk,vE];exact Nat.le_refl _
theorem Iq:Tryz.prog.globalNamed "antecede/predtype.parts" = some 0:=by kernel_rfl
theorem Mq:(Tryz.prog.globals[0]?).map (·.type)=some 183:=by kernel_rfl
theorem table {W:World} (h:laidMetH Tryz.prog Rows.evaluateChannelsUptoRow.laid W):Lib.TabIs Tryz.prog W "antecede/predtype.parts" .i64 BA:=
 Lib.tabIs_of_head (rest:=[]) Iq Mq Tryz.underlying183 Tryz.underlying3 (by kernel_rfl) (by kernel_rfl) h
theorem Rp {W:World} (h:laidMetH Tryz.prog Rows.evaluateChannelsUptoRow.laid W):rS (snap W):=λg cs hg=>by
 change (if Nat.beq g 0 then some (BA.map (V.int .i64))else none)=some cs at hg;split at hg
 .rename_i u;cases hg;have:g=0:=Nat.eq_of_beq_eq_true u;subst this;exact Mc (λi w=>(table h).cell Iq i w) (by decide)
 .cases hg
set_option maxRecDepth 100000 in
theorem Gw (H:Type) (enc:TypeId×Value->H) (W:World) (base:Nat) (args:Array Value) (ds gs:List (DataW H)) (before:List MemPlace)
 (B:∀(j:Nat) t v,Tryz.f5.params[j]? = some t->args[j]? = some v->Value.okWide Tryz.prog W .any base t v)
 (D:DataW.Whole enc Tryz.prog Tryz.f5.params.toList Rows.evaluateChannelsSpec.vars false W args.toList ds gs before) (hk:Rows.uptoSmall H (ds++gs)=true) (U:laidMetH Tryz.prog Rows.evaluateChannelsUptoRow.laid W) :
 Calls Tryz.prog 5 args W λe G=>∃v,e=.returned v/\Rows.evaluateChannelsSpec.post enc Tryz.prog Tryz.f5 false true false false W args v G:=by
 have z:=D;obtain⟨p,q,A,Q,rfl,S,T⟩:=D;have I:DataW.TrodAll enc Tryz.prog W 0 (λ_=>true) true Tryz.f5.params.toList args.toList ds p:=A
 rw[Tryz.params5]at I B;obtain⟨J,X,Y,Z,p0,q0,C,rfl,rfl,h0,r0⟩:=trodAll_cons I;obtain⟨L,aa,d1,ab,p1,q1,rfl,rfl,rfl,h1,r1⟩:=trodAll_cons r0;obtain⟨rfl,rfl,rfl⟩:=trodAll_nil r1;obtain rfl:args=#[J,L]:=by cases args;simp_all
 obtain⟨rfl,rfl⟩:=trodVars_none Q;obtain⟨a0,w0,k0,b0⟩:=Reads.NR (t:=24) (α:=VE.Trace) B 0 rfl rfl h0;obtain⟨u,w1,k1,b1⟩:=Reads.NR (t:=25) (α:=Sl Int) B 1 rfl rfl h1;have hb:cD.wt a0+cD.wt u<=1048576:=by
  have c0:=b0 Rows.uptoBulk JO;have c1:=b1 Rows.uptoBulk JO;have O:Rows.uptoBulkAll ([Y,d1]++[])<=1048576:=of_decide_eq_true hk;rw[vE]at O;simp only[List.append_nil,List.map_cons,List.map_nil,List.sum_cons,List.sum_nil]at O;omega
 obtain⟨hS,hN⟩:=LC (t:=a0) (by omega)
 have hc:iL cL 5 [VE.enc a0,VE.enc u]=some [.bool true]:=by
  have hl:(bS a0 u).bind (λr:Bool=>some [V.bool r])=some [.bool true]:=by rw[GW (c:=u) hS hN];rfl
  exact(tn a0 u).F.h () _ hl
 have:=Ix (P:=Tryz.prog) N_ Hj calls (f:=5) (xs:=[VE.enc a0,VE.enc u]) (by simp[V.cu,V.good,kK]) hc (w:=W) (args:=#[J,L]) (Rp U) (cA.cons w0 (cA.cons w1 .nil))
 refine this.mono λe G ⟨he,hg⟩=>?_
 subst he;exact⟨_,rfl,KS kids full (by rw[Tryz.params5];decide) rfl rfl rfl Tryz.underlying4 z hg⟩
noncomputable def yL (os:Os):World:=
 { World.holding Tryz.prog os ⟨#[],#[],[]⟩with heap:=(World.holding Tryz.prog os ⟨#[],#[],[]⟩).heap.modify 0 fun
  | .cells _ t frozen=>.cells (BA.map (Value.int .i64)).toArray t frozen
  | o=>o }
theorem MV (os:Os):laidMet Tryz.prog Rows.evaluateChannelsUptoRow.laid ((yL os).forCall (λ_ _=>0) ⟨#[],#[.agg #[.slice none 0 0],.slice none 0 0],[]⟩).memory:=
 laidMet_of_run' 8 (by kernel_rfl) (by kernel_rfl)
theorem Ml (os:Os) {H:Type} (enc:TypeId×Value->H):∃places,DataW.whole enc Tryz.prog ((yL os).forCall (λ_ _=>0) ⟨#[],#[.agg #[.slice none 0 0],.slice none 0 0],[]⟩).memory Tryz.f5.params.toList Rows.evaluateChannelsSpec.vars false (#[.agg #[.slice none 0 0],.slice none 0 0]:Array Value).toList 8=some ([.agg [.nil],.nil],[],places):=
 ⟨[],by kernel_rfl⟩
set_option maxRecDepth 100000 in
theorem J3 (os:Os) (B:os.Started) (H:Type) (enc:TypeId×Value->H) (F:Stop.Interp) :
 ReturnsInHanded {} Tryz.checked os 5 .any ((Rows.OpenSpec.upto Rows.evaluateChannelsSpec).preRow enc Tryz.prog Tryz.f5 Rows.evaluateChannelsUptoRow.domain false Rows.evaluateChannelsUptoRow.laid) (((Rows.OpenSpec.upto Rows.evaluateChannelsSpec).at F).post enc Tryz.prog Tryz.f5 false true false false):=by
 obtain⟨places,z⟩:=Ml os enc;refine returnsInHanded_of_row (C:=Tryz.checked) (s:=Rows.OpenSpec.upto Rows.evaluateChannelsSpec) own B (by kernel_rfl) Tryz.func5
  (witness_row_at (enc:=enc) (C:=Tryz.checked) false (yL os) #[.agg #[.slice none 0 0],.slice none 0 0] rfl (by kernel_rfl) (by kernel_rfl) (by kernel_rfl)
   (OpenSpec.preRow_of_cond 8 z (by kernel_rfl) (λk hk=>by cases hk;kernel_rfl) (by kernel_rfl) (MV os))) ?_
 intro W base args ds gs before w A _ u _ D _ _;exact Gw H enc W base args ds gs before w A (u _ rfl) D
theorem O9:Rows.EvaluateChannelsUptoSaid:=
 OpenClaim.holds_of_cond 5 Tryz.f5 rfl rfl rfl rfl rfl rfl rfl ⟨rfl,rfl,rfl,rfl,rfl⟩ rfl rfl rfl rfl rfl (by kernel_rfl) Tryz.func5 (by kernel_rfl)
  (of_decide_eq_true (by kernel_rfl)) (by unfold Func.isWrapper;first|(rw[if_pos (by decide +kernel)];kernel_rfl)|(rw[if_neg (by decide +kernel)];exact⟨rfl,rfl⟩))
  (λos u H enc _ F=>by rw[OpenClaim.pre_eq_preRow];exact J3 os u H enc F)
theorem Mm (f:FuncId) (fn:Func) (D:Tryz.pinned.checked.prog.funcNamed "antecede/antecedelaw29.EvaluateChannels" = some f) (B:Tryz.pinned.checked.prog.funcs[f]? = some fn) :
 false=Tryz.pinned.checked.prog.looks []/\∀(j:Nat) t,fn.params[j]? = some t->Tryz.pinned.checked.prog.wantsStandIn t=false:=by
 obtain rfl:f=5:=Option.some.inj ((show Tryz.prog.funcNamed "antecede/antecedelaw29.EvaluateChannels" = some 5 by kernel_rfl).symm.trans D) |>.symm
 obtain rfl:fn=Tryz.f5:=(Option.some.inj (Tryz.func5.symm.trans B)).symm;refine⟨by kernel_rfl,λj t z=>?_⟩
 rw[Tryz.params5]at z;have A:t∈[24,25]:=by simpa using Array.mem_of_getElem? z
 have w:([24,25].all λu => !Tryz.prog.wantsStandIn u)=true:=by kernel_rfl
 exact(show Tryz.prog.wantsStandIn t=false by simpa using List.all_eq_true.1 w t A)
theorem evaluateChannelsProved:Rows.EvaluateChannelsUptoCardSaid:=
 Claim7.holds_tied_plain_at .later [] _ _ _ _ O9 (λ_ h=>by cases h) (by kernel_rfl) (λ_ h=>by cases h) evaluateChannelsUpto_row_tie rfl ⟨rfl,rfl⟩ (by kernel_rfl) rfl Mm (by kernel_rfl)
#print axioms evaluateChannelsProved
end Go.Proofs.YtlmckmkfopljoaaGreatDoor
