/-
 The law in plain Lean, and the join.
-/
import Derived.Test.YtmkkeeoahodfhaaGreatDoorK1
import Derived.Test.YtmkkeeoahodfhaaGreatDoorG1
set_option linter.all false
namespace Go.VE
instance:cn Assign where
 wt x:=cn.wt x.var+cn.wt x.value+1
 ok x:=cn.ok x.var/\cn.ok x.value/\True
instance:cn Event where
 wt x:=cn.wt x.kind+cn.wt x.peer+cn.wt x.message+cn.wt x.time+cn.wt x.assign+1
 ok x:=cn.ok x.kind/\cn.ok x.peer/\cn.ok x.message/\cn.ok x.time/\cn.ok x.assign/\True
instance:cn Var where
 wt x:=cn.wt x.name+cn.wt x.init_+1
 ok x:=cn.ok x.name/\cn.ok x.init_/\True
instance:cn cm where
 wt x:=cn.wt x.name+cn.wt x.vars+cn.wt x.events+1
 ok x:=cn.ok x.name/\cn.ok x.vars/\cn.ok x.events/\True
instance:cn Trace where
 wt x:=cn.wt x.procs+1
 ok x:=cn.ok x.procs/\True
instance:cn Span where
 wt x:=cn.wt x.proc+cn.wt x.from_+cn.wt x.to_+1
 ok x:=cn.ok x.proc/\cn.ok x.from_/\cn.ok x.to_/\True
instance:cn Answer where
 wt x:=cn.wt x.mode+cn.wt x.holds+cn.wt x.kind+cn.wt x.cut+cn.wt x.cuts+cn.wt x.run+cn.wt x.spans+cn.wt x.value+1
 ok x:=cn.ok x.mode/\cn.ok x.holds/\cn.ok x.kind/\cn.ok x.cut/\cn.ok x.cuts/\cn.ok x.run/\cn.ok x.spans/\cn.ok x.value/\True
end Go.VE
namespace Go.VE.YtmkkeeoahodfhaaGreatDoor
open Go.Proofs Go.Proofs.YtmkkeeoahodfhaaGreatDoor
instance UD:Reads Tryz.prog 9 ByteArray:=Reads.str Tryz.underlying9 (by kernel_rfl)
instance UB:Reads Tryz.prog 3 Int:=Reads.int Tryz.underlying3 (by kernel_rfl)
instance Un:Reads Tryz.prog 111 Var:=by
 refine Reads.st Tryz.underlying111 (by kernel_rfl) rfl ?_
 intro H enc w base spare held u G l I h;simp only[List.mapM_cons,List.mapM_nil,Option.pure_def,Option.bind_eq_bind,ζg,ζa]at h;obtain⟨z,h0,J,⟨A,h1,L,rfl,rfl⟩,rfl⟩:=h;obtain⟨a0,B,k0,O⟩:=Reads.rd (P:=Tryz.prog) (t:=9) (α:=ByteArray) (d:=z.1) (ps:=z.2) h0;rw[show Tryz.prog.cellsOf 9=1 from by kernel_rfl]at B
 obtain⟨a1,C,k1,Q⟩:=Reads.rd (P:=Tryz.prog) (t:=3) (α:=Int) (d:=A.1) (ps:=A.2) h1;rw[show Tryz.prog.cellsOf 3=1 from by kernel_rfl]at C
 refine⟨⟨a0,a1⟩,fK.fin (n:=2) (fK.seg (o:=1) (n:=1) (fK.seg (o:=0) (n:=1) (show fK (snap w) [] (G.take 0)from by simpa using fK.nil) B) C) I,⟨k0,k1,trivial⟩,λb D=>?_⟩
 have S:=O b D;have T:=Q b D;show cn.wt a0+cn.wt a1+1<=_;simp only[List.map_cons,List.map_nil,List.sum_cons,List.sum_nil];omega
instance Uv:Reads Tryz.prog 77 (Sl Var):=Reads.sl (e:=111) Tryz.underlying77 (by kernel_rfl) (by decide)
instance Up:Reads Tryz.prog 196 Assign:=by
 refine Reads.st Tryz.underlying196 (by kernel_rfl) rfl ?_
 intro H enc w base spare held u G l I h;simp only[List.mapM_cons,List.mapM_nil,Option.pure_def,Option.bind_eq_bind,ζg,ζa]at h;obtain⟨z,h0,J,⟨A,h1,L,rfl,rfl⟩,rfl⟩:=h;obtain⟨a0,B,k0,O⟩:=Reads.rd (P:=Tryz.prog) (t:=3) (α:=Int) (d:=z.1) (ps:=z.2) h0;rw[show Tryz.prog.cellsOf 3=1 from by kernel_rfl]at B
 obtain⟨a1,C,k1,Q⟩:=Reads.rd (P:=Tryz.prog) (t:=3) (α:=Int) (d:=A.1) (ps:=A.2) h1;rw[show Tryz.prog.cellsOf 3=1 from by kernel_rfl]at C
 refine⟨⟨a0,a1⟩,fK.fin (n:=2) (fK.seg (o:=1) (n:=1) (fK.seg (o:=0) (n:=1) (show fK (snap w) [] (G.take 0)from by simpa using fK.nil) B) C) I,⟨k0,k1,trivial⟩,λb D=>?_⟩
 have S:=O b D;have T:=Q b D;show cn.wt a0+cn.wt a1+1<=_;simp only[List.map_cons,List.map_nil,List.sum_cons,List.sum_nil];omega
instance Uz:Reads Tryz.prog 83 (Sl Assign):=Reads.sl (e:=196) Tryz.underlying83 (by kernel_rfl) (by decide)
instance Uq:Reads Tryz.prog 85 Event:=by
 refine Reads.st Tryz.underlying85 (by kernel_rfl) rfl ?_
 intro H enc w base spare held z T l U h;simp only[List.mapM_cons,List.mapM_nil,Option.pure_def,Option.bind_eq_bind,ζg,ζa]at h;obtain⟨A,h0,W,⟨B,h1,X,⟨x2,Y,Z,⟨C,h3,aa,⟨x4,h4,ab,rfl,rfl⟩,rfl⟩,rfl⟩,rfl⟩,rfl⟩:=h;obtain⟨a0,D,k0,b0⟩:=Reads.rd (P:=Tryz.prog) (t:=3) (α:=Int) (d:=A.1) (ps:=A.2) h0;rw[show Tryz.prog.cellsOf 3=1 from by kernel_rfl]at D
 obtain⟨a1,G,k1,b1⟩:=Reads.rd (P:=Tryz.prog) (t:=3) (α:=Int) (d:=B.1) (ps:=B.2) h1;rw[show Tryz.prog.cellsOf 3=1 from by kernel_rfl]at G
 obtain⟨I,J,k2,b2⟩:=Reads.rd (P:=Tryz.prog) (t:=3) (α:=Int) (d:=x2.1) (ps:=x2.2) Y;rw[show Tryz.prog.cellsOf 3=1 from by kernel_rfl]at J
 obtain⟨L,O,k3,b3⟩:=Reads.rd (P:=Tryz.prog) (t:=3) (α:=Int) (d:=C.1) (ps:=C.2) h3;rw[show Tryz.prog.cellsOf 3=1 from by kernel_rfl]at O
 obtain⟨Q,S,k4,b4⟩:=Reads.rd (P:=Tryz.prog) (t:=83) (α:=(Sl Assign)) (d:=x4.1) (ps:=x4.2) h4;rw[show Tryz.prog.cellsOf 83=1 from by kernel_rfl]at S
 refine⟨⟨a0,a1,I,L,Q⟩,fK.fin (n:=5) (fK.seg (o:=4) (n:=1) (fK.seg (o:=3) (n:=1) (fK.seg (o:=2) (n:=1) (fK.seg (o:=1) (n:=1) (fK.seg (o:=0) (n:=1) (show fK (snap w) [] (T.take 0)from by simpa using fK.nil) D) G) J) O) S) U,⟨k0,k1,k2,k3,k4,trivial⟩,λb u=>?_⟩
 have w0:=b0 b u;have w1:=b1 b u;have w2:=b2 b u;have w3:=b3 b u;have w4:=b4 b u;show cn.wt a0+cn.wt a1+cn.wt I+cn.wt L+cn.wt Q+1<=_;simp only[List.map_cons,List.map_nil,List.sum_cons,List.sum_nil];omega
instance Us:Reads Tryz.prog 78 (Sl Event):=Reads.sl (e:=85) Tryz.underlying78 (by kernel_rfl) (by decide)
instance Uu:Reads Tryz.prog 80 cm:=by
 refine Reads.st Tryz.underlying80 (by kernel_rfl) rfl ?_
 intro H enc w base spare held z J l L h;simp only[List.mapM_cons,List.mapM_nil,Option.pure_def,Option.bind_eq_bind,ζg,ζa]at h;obtain⟨A,h0,O,⟨B,h1,Q,⟨x2,S,T,rfl,rfl⟩,rfl⟩,rfl⟩:=h;obtain⟨a0,C,k0,U⟩:=Reads.rd (P:=Tryz.prog) (t:=9) (α:=ByteArray) (d:=A.1) (ps:=A.2) h0;rw[show Tryz.prog.cellsOf 9=1 from by kernel_rfl]at C
 obtain⟨a1,D,k1,W⟩:=Reads.rd (P:=Tryz.prog) (t:=77) (α:=(Sl Var)) (d:=B.1) (ps:=B.2) h1;rw[show Tryz.prog.cellsOf 77=1 from by kernel_rfl]at D
 obtain⟨G,I,k2,X⟩:=Reads.rd (P:=Tryz.prog) (t:=78) (α:=(Sl Event)) (d:=x2.1) (ps:=x2.2) S;rw[show Tryz.prog.cellsOf 78=1 from by kernel_rfl]at I
 refine⟨⟨a0,a1,G⟩,fK.fin (n:=3) (fK.seg (o:=2) (n:=1) (fK.seg (o:=1) (n:=1) (fK.seg (o:=0) (n:=1) (show fK (snap w) [] (J.take 0)from by simpa using fK.nil) C) D) I) L,⟨k0,k1,k2,trivial⟩,λb u=>?_⟩
 have Y:=U b u;have Z:=W b u;have w2:=X b u;show cn.wt a0+cn.wt a1+cn.wt G+1<=_;simp only[List.map_cons,List.map_nil,List.sum_cons,List.sum_nil];omega
instance Ur:Reads Tryz.prog 22 (Sl cm):=Reads.sl (e:=80) Tryz.underlying22 (by kernel_rfl) (by decide)
instance Uw:Reads Tryz.prog 24 Trace:=by
 refine Reads.st Tryz.underlying24 (by kernel_rfl) rfl ?_
 intro H enc w base spare held u B l C h;simp only[List.mapM_cons,List.mapM_nil,Option.pure_def,Option.bind_eq_bind,ζg,ζa]at h;obtain⟨z,h0,D,rfl,rfl⟩:=h;obtain⟨a0,A,k0,G⟩:=Reads.rd (P:=Tryz.prog) (t:=22) (α:=(Sl cm)) (d:=z.1) (ps:=z.2) h0;rw[show Tryz.prog.cellsOf 22=1 from by kernel_rfl]at A
 refine⟨⟨a0⟩,fK.fin (n:=1) (fK.seg (o:=0) (n:=1) (show fK (snap w) [] (B.take 0)from by simpa using fK.nil) A) C,⟨k0,trivial⟩,λb I=>?_⟩
 have J:=G b I;show cn.wt a0+1<=_;simp only[List.map_cons,List.map_nil,List.sum_cons,List.sum_nil];omega
instance UC:Reads Tryz.prog 4 Bool:=Reads.bool Tryz.underlying4 (by kernel_rfl)
instance Ut:Reads Tryz.prog 25 (Sl Bool):=Reads.sl (e:=4) Tryz.underlying25 (by kernel_rfl) (by decide)
end Go.VE.YtmkkeeoahodfhaaGreatDoor
namespace Go.VE
end Go.VE
namespace Go.VE
abbrev EM {α:Type} (m:Option α):Prop:=Wp m λ_=>True
theorem EM.get {α:Type} {m:Option α} (h:EM m):∃a,m=some a:=let ⟨a,e,_⟩:=h;⟨a,e⟩
theorem EM.ok {m:Option Bool} (h:EM m):m=some (m.getD false):=by obtain⟨a,e,_⟩:=h;rw[e];rfl
def Small (t:Trace):Prop:=t.procs.l.length<1073741824/\∀p∈t.procs.l,p.events.l.length<1073741824/\p.vars.l.length<1073741824/\p.name.size<1073741824/\(∀v∈p.vars.l,v.name.size<1073741824)/\∀e∈p.events.l,e.assign.l.length<1073741824
section
theorem HK {s:Sl Event} {p:Event->Option Bool} {f:Event->Bool} (B:∀x∈s.l,p x=some (f x)) (D:s.l.length<1073741824):eZ s p=some (place f s.l):=
 sS B (by omega) (λi=>rfl)
theorem JD {s:Sl cm} {p:cm->Option Bool} {f:cm->Bool} (B:∀x∈s.l,p x=some (f x)) (D:s.l.length<1073741824):fF s p=some (place f s.l):=
 sS B (by omega) (λi=>rfl)
theorem Nw {s:Sl Var} {p:Var->Option Bool} {f:Var->Bool} (B:∀x∈s.l,p x=some (f x)) (D:s.l.length<1073741824):fP s p=some (place f s.l):=
 sS B (by omega) (λi=>rfl)
theorem Gx {s:Sl Assign} {p:Assign->Option Bool} {f:Assign->Bool} (B:∀x∈s.l,p x=some (f x)) (D:s.l.length<1073741824):eN s p=some (place f s.l):=
 sS B (by omega) (λi=>rfl)
theorem xo {s:Sl Event} {p:Event->Option Bool} {f:Event->Bool} (B:∀x∈s.l,p x=some (f x)) (D:s.l.length<1073741824):gq s p=some (s.l.any f):=by
 unfold gq;rw[HK B D,ζb,uF]
theorem EI {s:Sl cm} {p:cm->Option Bool} {f:cm->Bool} (B:∀x∈s.l,p x=some (f x)) (D:s.l.length<1073741824):gN s p=some (s.l.any f):=by
 unfold gN;rw[JD B D,ζb,uF]
theorem zI {s:Sl Var} {p:Var->Option Bool} {f:Var->Bool} (B:∀x∈s.l,p x=some (f x)) (D:s.l.length<1073741824):fL s p=some (s.l.any f):=by
 unfold fL;rw[Nw B D,ζb,uF]
theorem Cp {s:Sl Assign} {p:Assign->Option Bool} {f:Assign->Bool} (B:∀x∈s.l,p x=some (f x)) (D:s.l.length<1073741824):fW s p=some (s.l.any f):=by
 unfold fW;rw[Gx B D,ζb,uF]
theorem nM (x B D:Int):lK x B D=some (decide (B<=x)&&decide (x<=D)):=by
 unfold lK;rw[mh];rfl
theorem Iq {s:ByteArray} {i:Nat} (h:i<s.size):∃x,jF s (i:Int)=some x:=by
 unfold jF;rw[if_pos (by omega)]
 exact⟨_,by rw[show (s[(i:Int).toNat]?)=some s[i]from by simp[h]];rfl⟩
def jO (n:Nat) (p:Int) (e:Event):Prop:=e.kind=1\/((e.kind=2\/e.kind=3)/\0<=e.peer/\e.peer<n/\e.peer≠p/\0<=e.message/\e.message<=199)
end
end Go.VE
namespace Go.VE
def lE (t:Trace) (p k:Nat) (e:Event):Prop:=∃P,t.procs.l[p]? = some P/\P.events.l[k]? = some e
theorem sB {p:Int} {x:aY×Event}:∀{es:List Event} {j:Int},x∈gP p j es↔∃k:Nat,es[k]? = some x.2/\x.1=⟨p,j+k+1⟩
 | [],j=>by simp[gP]
 | e::es,j=>by
  simp[gP,sB ];constructor
  .rintro (rfl|⟨k,h1,B⟩)
   .exact⟨0,rfl,by simp⟩
   .exact⟨k+1,by grind,by grind⟩
  grind
theorem sX {x:aY×Event}:∀{ps:List cm} {i:Int},x∈eS i ps↔∃(a k:Nat) (P:cm),ps[a]? = some P/\P.events.l[k]? = some x.2/\x.1=⟨i+a,k+1⟩
 | [],i=>by simp[eS]
 | p::ps,i=>by
  simp only[eS,List.mem_append,sB,sX ];constructor
  .rintro (⟨k,h1,B⟩|⟨a,k,P,h1,B,D⟩)
   .exact⟨0,k,p,rfl,h1,by grind⟩
   .exact⟨a+1,k,P,by simp_all,B,by grind⟩
  grind
abbrev bQ (t:Trace):List (aY×Event):=eS 0 t.procs.l
theorem dY {t:Trace} {x:aY×Event}:x∈bQ t↔∃p k:Nat,lE t p k x.2/\x.1=⟨p,k+1⟩:=by
 rw[sX];constructor
 .rintro⟨a,k,P,h1,u,w⟩;exact⟨a,k,⟨P,h1,u⟩,by grind⟩
 .rintro⟨a,k,⟨P,h1,u⟩,w⟩;grind
theorem Al {t:Trace} {x y:aY×Event} (B:x∈bQ t) (D:y∈bQ t) (h:x.1=y.1):x=y:=by
 obtain⟨p,k,⟨P,u,hk⟩,e1⟩:=dY.1 B;obtain⟨q,j,⟨Q,w,z⟩,e2⟩:=dY.1 D
 grind
theorem tF {t:Trace} (B:Small t):iz t=some (bQ t):=by
 unfold iz;rw[if_pos];simp[D3];exact⟨by have:=B.1;omega,λp u=>by have:=(B.2 p u).1;omega⟩
def qY (t:Trace) (p m to:Int):Bool:=match t.procs.l[p.toNat]? with
 | some P=>P.events.l.any λe=>e.kind==2&&e.message==m&&e.peer==to
 | none=>false
theorem LL {t:Trace} (B:Small t) {p:Int} (h0:0<=p) (h1:p<t.procs.l.length) (m to:Int):sF t p m to=some (qY t p m to):=by
 unfold sF;have u:p.toNat<t.procs.l.length:=by omega
 have w:=List.getElem_mem u;rw[Is h0,ζd u,ζb,xo (f:=λe=>e.kind==2&&e.message==m&&e.peer==to) (λe _=>by
  unfold oN;simp[mh]) (B.2 _ w).1,ζb]
 unfold qY
 grind
theorem AQ {t:Trace} {p:Nat} {m to:Int}:qY t p m to=true↔∃k e,lE t p k e/\e.kind=2/\e.message=m/\e.peer=to:=by
 unfold qY lE;rw[show (p:Int).toNat=p from rfl]
 cases w:t.procs.l[p]? with
 | none=>simp
 | some P=>
  simp;constructor
  .rintro⟨e,u,h⟩;obtain⟨k,hk⟩:=List.getElem?_of_mem u
   grind
  grind
def ag (A:bP 200 bz) (m:Int):bz:=(A.at m).getD default
theorem Jd (A:bP 200 bz) {m:Int} (h0:0<=m) (h1:m<=199):A.at m=some (ag A m):=by
 have:m.toNat<A.l.length:=by rw[A.len];omega
 unfold ag bP.at
 grind
theorem pI (A:bP 200 bz) {m m':Int} (x:bz) (h0:0<=m) (h1:m<=199) (B:0<=m'):ag (A.set m x) m'=if m'=m then x else ag A m':=by
 have:m.toNat<A.l.length:=by rw[A.len];omega
 unfold ag bP.at bP.set
 grind
theorem JN {m:Int} (h0:0<=m) (h1:m<=199):ag (bP.Dv 200 (⟨⟨0,0⟩,⟨0,0⟩⟩:bz)) m=⟨⟨0,0⟩,⟨0,0⟩⟩:=by
 unfold ag bP.at bP.Dv
 grind
structure gZ (t:Trace) (its:List (aY×Event)) (A:bP 200 bz):Prop where
 snd:∀x∈its,x.2.kind=2->(ag A x.2.message).from_=x.1
 rcv:∀x∈its,x.2.kind=3->(ag A x.2.message).to_=x.1/\qY t x.2.peer x.2.message x.1.proc=true
 fr:∀m,0<=m->m<=199->(ag A m).from_.index=0\/∃e,((ag A m).from_,e)∈its/\e.kind=2/\e.message=m
 to:∀m,0<=m->m<=199->(ag A m).to_.index=0\/∃e,((ag A m).to_,e)∈its/\e.kind=3/\e.message=m
def Ja (a b:aY×Event):Prop:=a.1.proc<b.1.proc\/a.1.proc=b.1.proc/\a.1.index<b.1.index
theorem K1 {p:Int}:∀{es:List Event} {j:Int},(gP p j es).Pairwise Ja
 | [],_=>List.Pairwise.nil
 | e::es,j=>by
  simp only[gP,List.pairwise_cons];refine⟨λb B=>?_,K1⟩
  obtain⟨k,_,D⟩:=sB.1 B;refine .inr ⟨by rw[D],?_⟩
  grind
theorem FM:∀{ps:List cm} {i:Int},(eS i ps).Pairwise Ja
 | [],_=>List.Pairwise.nil
 | P::ps,i=>by
  simp only[eS,List.pairwise_append];refine⟨K1,FM,λa B b D=>.inl ?_⟩
  obtain⟨k,_,G⟩:=sB.1 B;obtain⟨c,j,P,_,_,t⟩:=sX.1 D
  grind
theorem EW {t:Trace} {k:Nat} {x y:aY×Event} (B:(bQ t)[k]? = some x) (D:y∈(bQ t).take k):y.1≠x.1:=by
 obtain⟨h1,u⟩:=ζe.1 B;have w:((bQ t).take k++(bQ t).drop k).Pairwise Ja:=by rw[List.take_append_drop];exact FM
 have:=(List.pairwise_append.1 w).2.2 y D x (by rw[List.drop_eq_getElem_cons h1,u];grind)
 unfold Ja at this
 grind
structure vJ (t:Trace):Prop where
 snd:∀x∈bQ t,∀y∈bQ t,x.2.kind=2->y.2.kind=2->x.2.message=y.2.message->x.1=y.1
 rcv:∀x∈bQ t,∀y∈bQ t,x.2.kind=3->y.2.kind=3->x.2.message=y.2.message->x.1=y.1
 has:∀x∈bQ t,x.2.kind=3->qY t x.2.peer x.2.message x.1.proc=true
theorem gZ.KZ {t:Trace} {A:bP 200 bz} (h:gZ t (bQ t) A):vJ t:=
 ⟨λx w y z k2 u B=>by rw[<-h.snd x w k2,<-h.snd y z u,B],λx w y z k2 u B=>by rw[<-(h.rcv x w k2).1,<-(h.rcv y z u).1,B],λx w k=>(h.rcv x w k).2⟩
theorem AJ {t:Trace} (hS:Small t) (hF:∀x∈bQ t,jO t.procs.l.length x.1.proc x.2):Wp (dZ t) λr=>(r.2.2=0->∃A,r.1=some A/\gZ t (bQ t) A)/\(vJ t->r.2.2=0):=by
 unfold dZ jd;rw[ζb];unfold dZ.E1;rw[tF hS,ζb];refine zb (λk A=>gZ t ((bQ t).take k) A) ⟨by simp,by simp,λm h0 h1=>.inl (by rw[JN h0 h1]),λm h0 h1=>.inl (by rw[JN h0 h1])⟩ ?_ ?_
 .intro k x A hx B;have G  := List.mem_of_getElem? hx;have S:(bQ t).take (k+1)=(bQ t).take k++[x]:=by rw[List.take_add_one,hx];rfl
  obtain⟨p,j,aa,ab⟩:=dY.1 G;have hf:=hF x G;unfold dZ.rY;rw[bZ];constructor
  .intro hk;have L:x.2.kind=2:=by grind
   have u:0<=x.2.message/\x.2.message<=199:=by
    rcases hf with h|⟨_,_,_,_,h⟩
    .omega
    simp_all
   rw[Jd A u.1 u.2,ζb,bZ];refine⟨λhg=>(aZ _).2 ((aZ _).2 ⟨λh=>(by cases h),λX=>?_⟩),λh0=>?_⟩
   .rcases B.fr _ u.1 u.2 with Y|⟨e,O,T,U⟩
    .grind
    .exact absurd (X.snd _ (List.mem_of_mem_take O) x G T L U) (EW hx O)
   rw[ζb,aZ,S];have W:∀y∈(bQ t).take k,y.2.kind=2->y.2.message≠x.2.message:=λy hy w O=>by
    have:=B.snd y hy w;rw[O]at this;obtain⟨p',j',_,Q⟩:=dY.1 (List.mem_of_mem_take hy)
    grind
   have Z:∀y∈(bQ t).take k,y.2.kind=2\/y.2.kind=3->0<=y.2.message:=λy hy w=>by
    rcases hF y (List.mem_of_mem_take hy)with h|⟨_,_,_,_,h,_⟩
    .omega
    simp_all
   refine⟨λy hy w=>?_,λy hy z=>?_,λm C I=>?_,λm C I=>?_⟩
   .rcases List.mem_append.1 hy with hy|hy
    .rw[pI A _ u.1 u.2 (Z y hy (.inl w)),if_neg (W y hy w)];exact B.snd y hy w
    .simp at hy;subst hy;rw[pI A _ u.1 u.2 u.1,if_pos rfl]
   .rcases List.mem_append.1 hy with hy|hy
    .rw[pI A _ u.1 u.2 (Z y hy (.inr z))];have:=B.rcv y hy z
     grind
    grind
   .rw[pI A _ u.1 u.2 C];split
    .rename_i e;exact .inr ⟨x.2,by simp,L,e.symm⟩
    .exact(B.fr m C I).imp (λh=>h) λ⟨e,h1,D⟩=>⟨e,List.mem_append_left _ h1,D⟩
   .rw[pI A _ u.1 u.2 C];have:=(B.to m C I).imp (λh=>h) λ⟨e,h1,D⟩=>(⟨e,List.mem_append_left [x] h1,D⟩:∃e,((ag A m).to_,e)∈(bQ t).take k++[x]/\e.kind=3/\e.message=m)
    split
    .rename_i e;subst e;omega
    omega
  .intro hk;have L  := by simpa using hk
   rw[bZ];constructor
   .intro hk;have J  := by simpa using hk
    have u:0<=x.2.message/\x.2.message<=199/\0<=x.2.peer/\x.2.peer<t.procs.l.length:=by
     rcases hf with h|⟨_,h1,D,_,h3,h4⟩
     .omega
     .exact⟨h3,h4,h1,D⟩
    rw[Jd A u.1 u.2.1,ζb,bZ];refine⟨λhg=>(aZ _).2 ((aZ _).2 ⟨λh=>(by cases h),λX=>?_⟩),λh0=>?_⟩
    .rcases B.to _ u.1 u.2.1 with Y|⟨e,O,T,U⟩
     .simp[Y]at hg
     .exact absurd (X.rcv _ (List.mem_of_mem_take O) x G T J U) (EW hx O)
    have h0:¬(ag A x.2.message).to_.index>0:=by simpa using h0
    rw[LL hS u.2.2.1 u.2.2.2,ζb,bZ];refine⟨λhs=>?_,λhs=>(aZ _).2 ((aZ _).2 ⟨λh=>(by cases h),λX=>by rw[X.has x G J]at hs;cases hs⟩)⟩
    rw[ζb,aZ,S];have W:∀y∈(bQ t).take k,y.2.kind=3->y.2.message≠x.2.message:=λy hy w O=>by
     have:=(B.rcv y hy w).1;rw[O]at this;rw[this]at h0;obtain⟨p',j',_,Q⟩:=dY.1 (List.mem_of_mem_take hy);rw[Q]at h0;exact h0 (by show (j':Int)+1>0;omega)
    have Z:∀y∈(bQ t).take k,y.2.kind=2\/y.2.kind=3->0<=y.2.message:=λy hy w=>by
     rcases hF y (List.mem_of_mem_take hy)with h|⟨_,_,_,_,h,_⟩
     .omega
     .exact h
    refine⟨λy hy w=>?_,λy hy z=>?_,λm C I=>?_,λm C I=>?_⟩
    .rcases List.mem_append.1 hy with hy|hy
     .rw[pI A _ u.1 u.2.1 (Z y hy (.inl w))];have:=B.snd y hy w;split
      .rename_i e;rw[e]at this;exact this
      .exact this
     .simp at hy;subst hy;omega
    .rcases List.mem_append.1 hy with hy|hy
     .rw[pI A _ u.1 u.2.1 (Z y hy (.inr z)),if_neg (W y hy z)];exact B.rcv y hy z
     .simp at hy;subst hy;rw[pI A _ u.1 u.2.1 u.1,if_pos rfl];exact⟨rfl,hs⟩
    .rw[pI A _ u.1 u.2.1 C];have:=(B.fr m C I).imp (λh=>h) λ⟨e,h1,D⟩=>(⟨e,List.mem_append_left [x] h1,D⟩:∃e,((ag A m).from_,e)∈(bQ t).take k++[x]/\e.kind=2/\e.message=m)
     split
     .rename_i e;subst e;exact this
     .exact this
    .rw[pI A _ u.1 u.2.1 C];split
     .rename_i e;exact .inr ⟨x.2,by simp,J,e.symm⟩
     .exact(B.to m C I).imp (λh=>h) λ⟨e,h1,D⟩=>⟨e,List.mem_append_left _ h1,D⟩
   .intro hk;have J  := by simpa using hk
    rw[aZ,S];refine⟨λy hy w=>?_,λy hy z=>?_,λm C I=>?_,λm C I=>?_⟩
    .rcases List.mem_append.1 hy with hy|hy
     .exact B.snd y hy w
     .simp at hy;subst hy;exact absurd w L
    .rcases List.mem_append.1 hy with hy|hy
     .exact B.rcv y hy z
     .simp at hy;subst hy;exact absurd z J
    .exact(B.fr m C I).imp (λh=>h) λ⟨e,h1,D⟩=>⟨e,List.mem_append_left _ h1,D⟩
    .exact(B.to m C I).imp (λh=>h) λ⟨e,h1,D⟩=>⟨e,List.mem_append_left _ h1,D⟩
 .intro A hA;rw[List.take_length]at hA;exact(aZ _).2 ⟨λ_=>⟨A,rfl,hA⟩,λ_=>rfl⟩
end Go.VE
namespace Go.VE
def gW (f:Nat->Bool) (k n:Nat):Bool:=(List.range' k (n-k)).any f
theorem CY {f:Nat->Bool} {k n:Nat} (h:k<n):gW f k n=(f k||gW f (k+1) n):=by
 unfold gW;rw[show n-k=(n-(k+1))+1 from by omega,List.range'_succ];rfl
theorem MT {f:Nat->Bool} {k n:Nat} (h:n<=k):gW f k n=false:=by
 unfold gW;rw[show n-k=0 from by omega];rfl
theorem Lu {f:Nat->Bool} {k n:Nat}:gW f k n=true↔∃i,k<=i/\i<n/\f i=true:=by
 unfold gW;rw[List.any_eq_true];constructor
 .rintro⟨i,u,t⟩;rw[List.mem_range'_1]at u;exact⟨i,u.1,by omega,t⟩
 .rintro⟨i,h1,w,t⟩;exact⟨i,by rw[List.mem_range'_1];omega,t⟩
theorem Cx {step:Int->Option (Fw Int Unit Unit)} {n:Nat} (f:Nat->Bool) (D:n<9223372036854775807) (h1:∀i:Nat,i<n->step i=some (if f i then .r ()else .n (IntKind.wrap .i64 ((i:Int)+1)))) (B:step (n:Int)=some (.x ())) :
 ∀m k:Nat,k+m=n->bO step (k:Int)=some (if gW f k n then .r ()else .x ()):=by
 intro m
 induction m with
 | zero=>
  intro k hk;have:k=n:=by omega
  subst this;rw[iA,B,MT (Nat.le_refl _)];rfl
 | succ m t=>
  intro k hk;rw[iA,h1 k (by omega),CY (by omega)]
  cases u:f k with
  | true=>rfl
  | false=>
   simp only[Bool.false_eq_true,if_false,ζb,Bool.false_or];rw[cC k (by omega)]
   exact t (k+1) (by omega)
def mT (g:Nat->Int) (k n:Nat):Int:=match (List.range' k (n-k)).find? λi => !(g i==0)with
 | some i=>g i
 | none=>0
theorem KE {g:Nat->Int} {k n:Nat} (h:k<n):mT g k n=if g k=0 then mT g (k+1) n else g k:=by
 unfold mT;rw[show n-k=(n-(k+1))+1 from by omega,List.range'_succ,List.find?_cons]
 by_cases h0:g k=0
 .simp[h0]
 .rw[if_neg h0,show (!(g k==0))=true from by simp[h0]]
theorem Nd {g:Nat->Int} {k n:Nat} (h:n<=k):mT g k n=0:=by
 unfold mT;rw[show n-k=0 from by omega];rfl
theorem P9 {step:Int->Option (Fw Int Unit Int)} {n:Nat} (g:Nat->Int) (D:n<9223372036854775807) (h1:∀i:Nat,i<n->step i=some (if g i=0 then .n (IntKind.wrap .i64 ((i:Int)+1))else .r (g i))) (B:step (n:Int)=some (.x ())) :
 ∀m k:Nat,k+m=n->bO step (k:Int)=some (if mT g k n=0 then .x ()else .r (mT g k n)):=by
 intro m
 induction m with
 | zero=>
  intro k hk;have:k=n:=by omega
  subst this;rw[iA,B,Nd (Nat.le_refl _)];rfl
 | succ m t=>
  intro k hk;rw[iA,h1 k (by omega),KE (by omega)]
  by_cases h0:g k=0
  .simp only[h0,if_true,ζb];rw[cC k (by omega)]
   exact t (k+1) (by omega)
  .simp only[h0,if_false,ζb]
theorem wD {step:Int->Option (Fw Int Unit Int)} {n:Nat} (g:Nat->Int) (B:n<9223372036854775807) (h1:∀i:Nat,i<n->step i=some (if g i=0 then .n (IntKind.wrap .i64 ((i:Int)+1))else .r (g i))) (D:step (n:Int)=some (.x ())):bO step 0=some (if mT g 0 n=0 then .x ()else .r (mT g 0 n)):=P9 g B h1 D n 0 (by omega)
theorem zY {step:Int->Option (Fw Int Unit Unit)} {n:Nat} (f:Nat->Bool) (B:n<9223372036854775807) (h1:∀i:Nat,i<n->step i=some (if f i then .r ()else .n (IntKind.wrap .i64 ((i:Int)+1)))) (D:step (n:Int)=some (.x ())):bO step 0=some (if gW f 0 n then .r ()else .x ()):=Cx f B h1 D n 0 (by omega)
def vf (c:Int):Bool:=decide (c>=65)&&decide (c<=90)||decide (c>=97)&&decide (c<=122)
def Au (c:Int):Bool:=decide (c>=48)&&decide (c<=57)
theorem Bw (c:Int):oB c=some (vf c):=by
 unfold oB vf;simp only[mh,iV,ζb];rw[Bool.or_comm]
theorem BT (c:Int):ni c=some (vf c):=by
 unfold ni vf;simp only[mh,iV,ζb]
theorem KF (c:Int):sC c=some (Au c):=by
 unfold sC Au;simp only[mh,ζb]
theorem Kr (c:Int):ru c=some (Au c):=by
 unfold ru Au;simp only[mh,ζb]
def uQ (s:ByteArray) (i:Nat):Int:=(jF s (i:Int)).getD 0
theorem BJ {s:ByteArray} {i:Nat} (h:i<s.size):jF s (i:Int)=some (uQ s i):=by
 obtain⟨x,t⟩:=Iq h;unfold uQ;rw[t];rfl
def qV (s:ByteArray) (i:Nat):Bool := !vf (uQ s i) && !Au (uQ s i) && !(uQ s i==95)
def kf (s:ByteArray):Bool:=decide (1<=s.size)&&decide (s.size<=16)&&vf (uQ s 0) && !gW (qV s) 0 s.size
theorem IT {s:ByteArray} {i:Nat} (h:i<s.size):fE.br s (s.size:Int) i=some (if qV s i then .r ()else .n (IntKind.wrap .i64 ((i:Int)+1))):=by
 unfold fE.br qV;rw[show decide ((i:Int)<(s.size:Int))=true from by simpa using h,bS,BJ h]
 simp only[ζb,Bw,KF];cases vf (uQ s i) <;> cases Au (uQ s i) <;> cases (uQ s i==95) <;> rfl
theorem IE {s:ByteArray} {i:Nat} (h:i<s.size):fZ.br s i=some (if qV s i then .r ()else .n (IntKind.wrap .i64 ((i:Int)+1))):=by
 unfold fZ.br qV;rw[show decide ((i:Int)<((ByteArray.size s:Nat):Int))=true from by simpa using h,bS,BJ h]
 simp only[ζb,BT,Kr];cases vf (uQ s i) <;> cases Au (uQ s i) <;> cases (uQ s i==95) <;> rfl
theorem toList_empty {s:ByteArray}:(ByteArray.toList s==ByteArray.toList ByteArray.empty)=decide (s.size=0):=by
 rw[Bool.eq_iff_iff,beq_iff_eq,decide_eq_true_eq];constructor
 .intro h;have h1:(ByteArray.toList s).length=s.size:=by rw[Go.ByteArray.toList_eq];simp
  rw[<-h1,h];rw[Go.ByteArray.toList_eq];rfl
 .intro h;have:s=ByteArray.empty:=by
   apply ByteArray.ext;exact Array.eq_empty_of_size_eq_zero h
  rw[this]
theorem CD {s:ByteArray} (B:s.size<1073741824):fE s=some (kf s):=by
 unfold fE;rw[toList_empty];simp only[iV,ζb]
 by_cases h0:s.size=0
 .simp[h0,kf,bq]
 by_cases t:s.size<=16
 .have hc:(decide (s.size=0)||decide (((ByteArray.size s:Nat):Int)>16))=false:=by simp[h0];omega
  rw[hc,b_,show (0:Int)=((0:Nat):Int)from rfl,BJ (show 0<s.size by omega)]
  simp only[ζb,Bw]
  cases u:vf (uQ s 0)with
  | false=>simp[kf,u,bq]
  | true=>
   simp only[Bool.not_true,b_];unfold fE.W1;rw[Cx (n:=s.size) (qV s) (by omega) (λi w=>IT w) (by unfold fE.br;simp[bq]) s.size 0 (by omega)]
   have:kf s = !gW (qV s) 0 s.size:=by simp[kf,u,t];omega
   rw[this];cases gW (qV s) 0 s.size <;> rfl
 .have hc:(decide (s.size=0)||decide (((ByteArray.size s:Nat):Int)>16))=true:=by simp;omega
  rw[hc,bS];simp[kf,t,bq]
theorem FU {s:ByteArray} (B:s.size<1073741824):fZ s=some (kf s):=by
 unfold fZ;simp only[iV,ζb]
 by_cases h0:s.size=0
 .simp[h0,kf,bq]
 by_cases t:s.size<=16
 .have hc:(decide (((ByteArray.size s:Nat):Int)<1)||decide (((ByteArray.size s:Nat):Int)>16))=false:=by simp;omega
  rw[hc,b_,show (0:Int)=((0:Nat):Int)from rfl,BJ (show 0<s.size by omega)]
  simp only[ζb,BT]
  cases u:vf (uQ s 0)with
  | false=>simp[kf,u,bq]
  | true=>
   simp only[Bool.not_true,b_];unfold fZ.W1;rw[show (1:Int)=((1:Nat):Int)from rfl,Cx (n:=s.size) (qV s) (by omega) (λi z=>IE z) (by unfold fZ.br;simp[bq]) (s.size-1) 1 (by omega)]
   have w:qV s 0=false:=by simp[qV,u]
   have:kf s = !gW (qV s) 1 s.size:=by
    have h1:=CY (f:=qV s) (show 0<s.size by omega)
    rw[w]at h1;simp[kf,u,t,h1];omega
   rw[this];cases gW (qV s) 1 s.size <;> rfl
 .have hc:(decide (((ByteArray.size s:Nat):Int)<1)||decide (((ByteArray.size s:Nat):Int)>16))=true:=by simp;omega
  rw[hc,bS];simp[kf,t,bq]
end Go.VE
namespace Go.VE
def fO {α:Type} (l:List α) (f:α->Bool) (i:Nat):Bool:=match l[i]? with|some y=>f y|none=>false
theorem yA {α:Type} {l:List α} {f:α->Bool} {i:Nat} (h:i<l.length):fO l f i=f l[i]:=by unfold fO;rw[ζd h]
theorem Am {α:Type} {l:List α} {f:α->Bool} {p:Nat}:(l.take p).any f=gW (fO l f) 0 p:=by
 rw[Bool.eq_iff_iff,List.any_eq_true,Lu];constructor
 .rintro⟨x,w,t⟩;obtain⟨i,u⟩:=List.getElem?_of_mem w;have z:=(ζe.1 u).1;rw[List.length_take]at z;rw[List.getElem?_take,if_pos (by omega)]at u
  exact⟨i,Nat.zero_le _,by omega,by unfold fO;rw[u];exact t⟩
 .rintro⟨i,_,u,t⟩;unfold fO at t;split at t
  .rename_i y A;exact⟨y,List.mem_of_getElem? (i:=i) (by rw[List.getElem?_take,if_pos u];exact A),t⟩
  .cases t
def qd (a b:ByteArray):Bool:=ByteArray.toList a==ByteArray.toList b
def QO:Bool->Bool->Bool->Int
 | true,false,true=>0
 | true,false,false=>2
 | _,_,_=>13
def sP (P:cm) (i:Nat):Int:=match P.vars.l[i]? with
 | some v=>QO (kf v.name) (gW (fO P.vars.l λw=>qd w.name v.name) 0 i) (decide (v.init_>=-1073741824)&&decide (v.init_<=1073741824))
 | none=>0
def qA (t:Trace) (p:Nat):Int:=match t.procs.l[p]? with
 | some P=>if kf P.name && !gW (fO t.procs.l λy=>qd y.name P.name) 0 p then
  (if P.vars.l.length>8 then 5 else if mT (sP P) 0 P.vars.l.length=0 then(if P.events.l.length>64 then 5 else 0)else mT (sP P) 0 P.vars.l.length)else 13
 | none=>0
theorem CW {P:cm} {i:Nat} (h:i<P.vars.l.length):sP P i=QO (kf P.vars.l[i].name) (gW (fO P.vars.l λw=>qd w.name P.vars.l[i].name) 0 i) (decide (P.vars.l[i].init_>=-1073741824)&&decide (P.vars.l[i].init_<=1073741824)):=by
 unfold sP;rw[ζd h]
theorem CC (n:Int):ou n=some (decide (n>=-1073741824)&&decide (n<=1073741824)):=by
 unfold ou;rw[mh];rfl
theorem LA {t:Trace} (W:Small t) {p:Nat} (U:p<t.procs.l.length):dW t p=some (qA t p):=by
 have Y:=W.2 _ (List.getElem_mem U);have h1:=W.1;unfold dW qA;rw[bK U,ζb,ζd U];generalize Z:t.procs.l[p]=P at *;obtain⟨T,aa,Q,u,_⟩:=Y;rw[CD Q,ζb];obtain⟨x,hx,D⟩:=uA t.procs p (by omega)
 have G:gN x (λz=>iN z P)=some (gW (fO t.procs.l λy=>qd y.name P.name) 0 p):=by
  rw[EI (p:=λz=>iN z P) (f:=λy=>qd y.name P.name) (λy _=>rfl) (by rw[D,List.length_take];omega),D,Am]
 rw[hx,ζb,G,ζb];dsimp only
 cases hn:kf P.name with
 | false=>simp[bq]
 | true=>
  rw[bS,ζb,Bool.true_and]
  cases hd:gW (fO t.procs.l λy=>qd y.name P.name) 0 p with
  | true=>simp[bq]
  | false=>
   rw[b_];simp only[Bool.not_false,if_true]
   by_cases X:P.vars.l.length>8
   .rw[show decide (len P.vars>8)=true from by simp[len];omega,bS,if_pos X]
   .rw[show decide (len P.vars>8)=false from by simp[len];omega,b_,if_neg X]
    unfold dW.W1;rw[wD (n:=P.vars.l.length) (sP P) (by omega) (λi L=>?_) (by unfold dW.br;simp[bq,len])]
    .by_cases O:mT (sP P) 0 P.vars.l.length=0
     .rw[if_pos O,if_pos O];show bq (decide (len P.events>64)) (some 5) (some 0)=_;rw[rJ];simp only[len,decide_eq_true_eq]
      by_cases I:P.events.l.length>64
      .rw[if_pos I,if_pos (by omega)]
      .rw[if_neg I,if_neg (by omega)]
     .rw[if_neg O,if_neg O];rfl
    .unfold dW.br;rw[CW L,show decide ((i:Int)<len P.vars)=true from by simp[len];exact L,bS,bK L,ζb]
     have hv:=u _ (List.getElem_mem L);obtain⟨y,hy,J⟩:=uA P.vars i (by omega)
     have S:fL y (λz=>iK z P.vars.l[i])=some (gW (fO P.vars.l λw=>qd w.name P.vars.l[i].name) 0 i):=by
      rw[zI (p:=λz=>iK z P.vars.l[i]) (f:=λw=>qd w.name P.vars.l[i].name) (λw _=>rfl) (by rw[J,List.length_take];omega),J,Am]
     rw[CD hv,ζb,hy,ζb,S,ζb,nM];have hr:(decide (-1073741824<=P.vars.l[i].init_)&&decide (P.vars.l[i].init_<=1073741824))=(decide (P.vars.l[i].init_>=-1073741824)&&decide (P.vars.l[i].init_<=1073741824)):=rfl;rw[hr];generalize kf P.vars.l[i].name=A;generalize gW (fO P.vars.l λw=>qd w.name P.vars.l[i].name) 0 i=B
     generalize (decide (P.vars.l[i].init_>=-1073741824)&&decide (P.vars.l[i].init_<=1073741824))=C;cases A <;> cases B <;> cases C <;> rfl
theorem Nl {t:Trace} (U:Small t) {p:Nat} (O:p<t.procs.l.length):dJ t p=some (qA t p):=by
 have T:=U.2 _ (List.getElem_mem O);have h1:=U.1;unfold dJ qA;rw[bK O,ζb,ζd O];generalize W:t.procs.l[p]=P at *;obtain⟨Q,X,L,z,_⟩:=T;rw[FU L,ζb];dsimp only
 cases hn:kf P.name with
 | false=>simp[bq]
 | true=>
  rw[bS,Bool.true_and];unfold dJ.W1;rw[zY (n:=p) (fO t.procs.l λy=>qd y.name P.name) (by omega) (λi u=>?_) (by unfold dJ.br;simp[bq])]
  .cases hd:gW (fO t.procs.l λy=>qd y.name P.name) 0 p with
   | true=>rfl
   | false=>
    simp only[Bool.not_false,if_true];show bq (decide (len P.vars>8)) (some 5) (dJ.W2 0 P)=_
    by_cases S:P.vars.l.length>8
    .rw[show decide (len P.vars>8)=true from by simp[len];omega,bS,if_pos S]
    .rw[show decide (len P.vars>8)=false from by simp[len];omega,b_,if_neg S]
     unfold dJ.W2;rw[wD (n:=P.vars.l.length) (sP P) (by omega) (λi u=>?_) (by unfold dJ.ck;simp[bq,len])]
     .by_cases J:mT (sP P) 0 P.vars.l.length=0
      .rw[if_pos J,if_pos J];show bq (decide (len P.events>64)) (some 5) (some 0)=_;rw[rJ];simp only[len,decide_eq_true_eq]
       by_cases D:P.events.l.length>64
       .rw[if_pos D,if_pos (by omega)]
       .rw[if_neg D,if_neg (by omega)]
      .rw[if_neg J,if_neg J];rfl
     .unfold dJ.ck;rw[CW u,show decide ((i:Int)<len P.vars)=true from by simp[len];exact u,bS,bK u,ζb]
      rw[FU (z _ (List.getElem_mem u)),ζb];have Y:dJ.W3 i 0 P=if gW (fO P.vars.l λw=>qd w.name P.vars.l[i].name) 0 i then some (.r 13)else(if decide (P.vars.l[i].init_>=-1073741824)&&decide (P.vars.l[i].init_<=1073741824)then some (.n (IntKind.wrap .i64 ((i:Int)+1)))else some (.r 2)):=by
       unfold dJ.W3;rw[zY (n:=i) (fO P.vars.l λw=>qd w.name P.vars.l[i].name) (by omega) (λj Z=>?_) (by unfold dJ.dM;simp[bq])]
       .cases gW (fO P.vars.l λw=>qd w.name P.vars.l[i].name) 0 i with
        | true=>rfl
        | false=>
         show (idx P.vars (i:Int)).bind _=_;rw[bK u,ζb,CC,ζb];cases (decide (P.vars.l[i].init_>=-1073741824)&&decide (P.vars.l[i].init_<=1073741824)) <;> rfl
       .unfold dJ.dM;have G:j<P.vars.l.length:=by omega
        rw[show decide ((j:Int)<(i:Int))=true from by simpa using Z,bS,bK G,ζb,bK u,ζb,yA G,rJ];rfl
      rw[Y];generalize kf P.vars.l[i].name=A;generalize gW (fO P.vars.l λw=>qd w.name P.vars.l[i].name) 0 i=B
      generalize (decide (P.vars.l[i].init_>=-1073741824)&&decide (P.vars.l[i].init_<=1073741824))=C;cases A <;> cases B <;> cases C <;> rfl
  .unfold dJ.br;have I:i<t.procs.l.length:=by omega
   rw[show decide ((i:Int)<(p:Int))=true from by simpa using u,bS,bK I,ζb,yA I,rJ];rfl
end Go.VE
namespace Go.VE
def Fi (n:Nat) (p:Int) (e:Event):Bool:=if e.kind==1 then e.peer==0&&e.message==0 else(e.kind==2||e.kind==3)&&(decide (0<=e.peer)&&decide (e.peer<n)) && !(e.peer==p)&&(decide (0<=e.message)&&decide (e.message<=199))
theorem Ku {t:Trace} (D:Small t) (p:Int) (e:Event):gM t p e=some (Fi t.procs.l.length p e):=by
 have h1:=D.1;have w:IntKind.wrap .i64 (len t.procs-1)=len t.procs-1:=jU _ (by simp[len];omega) (by simp[len];omega)
 have u:∀b:Bool,gM.J1 p b t e=some (b&&(decide (0<=e.peer)&&decide (e.peer<t.procs.l.length)) && !(e.peer==p)&&(decide (0<=e.message)&&decide (e.message<=199))):=by
  intro b;unfold gM.J1;simp only[nM,w,ζb];have:decide (e.peer<=len t.procs-1)=decide (e.peer<t.procs.l.length):=by congr 1;apply propext;simp[len];omega
  rw[this];generalize (decide (0<=e.peer)&&decide (e.peer<(t.procs.l.length:Int)))=A;generalize (e.peer==p)=B;generalize (decide (0<=e.message)&&decide (e.message<=199))=C;cases b <;> cases A <;> cases B <;> cases C <;> rfl
 unfold gM Fi;rw[u,u]
 cases h1:e.kind==1 with
 | true=>
  rw[bS];cases e.peer==0 <;> cases e.message==0 <;> rfl
 | false=>
  rw[b_];simp only[Bool.false_eq_true,if_false];cases z:e.kind==2 <;> simp[bq]
def Bi (P:cm) (k:Nat) (e:Event):Bool:=match k with|0=>false|j+1=>fO P.events.l (λx=>decide (e.time<x.time)) j
def sD (P:cm) (k:Nat) (e:Event):Bool:=decide (e.time<0)||decide (e.time>1099511627776)||Bi P k e
def R1:Bool->Bool->Bool->Int
 | true,true,false=>0
 | true,true,true=>8
 | _,_,_=>2
def pM (P:cm) (e:Event) (i:Nat):Int:=match e.assign.l[i]? with
 | some a=>R1 (decide (0<=a.var)&&decide (a.var<P.vars.l.length)) (decide (a.value>=-1073741824)&&decide (a.value<=1073741824)) (gW (fO e.assign.l λb=>b.var==a.var) 0 i)
 | none=>0
theorem CL {P:cm} {e:Event} {i:Nat} (h:i<e.assign.l.length):pM P e i=R1 (decide (0<=e.assign.l[i].var)&&decide (e.assign.l[i].var<P.vars.l.length)) (decide (e.assign.l[i].value>=-1073741824)&&decide (e.assign.l[i].value<=1073741824)) (gW (fO e.assign.l λb=>b.var==e.assign.l[i].var) 0 i):=by
 unfold pM;rw[ζd h]
def nZ (n:Nat) (P:cm) (p k:Nat) (e:Event):Int:=if Fi n p e then(if sD P k e then 11 else if e.assign.l.length>8 then 5 else mT (pM P e) 0 e.assign.l.length)else 3
theorem H_ {P:cm} {e:Event} (hv:P.vars.l.length<1073741824) (O:e.assign.l.length<1073741824):di.W2 e.assign (len e.assign) 0 e P=some (mT (pM P e) 0 e.assign.l.length):=by
 have I:IntKind.wrap .i64 (len P.vars-1)=len P.vars-1:=jU _ (by simp[len];omega) (by simp[len];omega)
 unfold di.W2;rw[wD (n:=e.assign.l.length) (pM P e) (by omega) (λi u=>?_) (by unfold di.ck;simp[bq,len])]
 .by_cases D:mT (pM P e) 0 e.assign.l.length=0
  .rw[if_pos D,D];rfl
  .rw[if_neg D];rfl
 .unfold di.ck;obtain⟨y,J,t⟩:=uA e.assign i (by omega)
  have G:fW y (λz=>jr z e.assign.l[i])=some (gW (fO e.assign.l λb=>b.var==e.assign.l[i].var) 0 i):=by
   rw[Cp (p:=λz=>jr z e.assign.l[i]) (f:=λb=>b.var==e.assign.l[i].var) (λw _=>rfl) (by rw[t,List.length_take];omega),t,Am]
  rw[CL u,show decide ((i:Int)<len e.assign)=true from by simp[len];exact u,bS,bK u,ζb,nM,nM,I,J,ζb,ζb,ζb,G,ζb]
  have h1:(decide (0<=e.assign.l[i].var)&&decide (e.assign.l[i].var<=len P.vars-1))=(decide (0<=e.assign.l[i].var)&&decide (e.assign.l[i].var<P.vars.l.length)):=by
   congr 2;apply propext;simp[len];omega
  have L:(decide (-1073741824<=e.assign.l[i].value)&&decide (e.assign.l[i].value<=1073741824))=(decide (e.assign.l[i].value>=-1073741824)&&decide (e.assign.l[i].value<=1073741824)):=rfl;rw[h1,L];generalize (decide (0<=e.assign.l[i].var)&&decide (e.assign.l[i].var<(P.vars.l.length:Int)))=A;generalize (decide (e.assign.l[i].value>=-1073741824)&&decide (e.assign.l[i].value<=1073741824))=B;generalize gW (fO e.assign.l λb=>b.var==e.assign.l[i].var) 0 i=C
  cases A <;> cases B <;> cases C <;> rfl
theorem JF {t:Trace} (D:Small t) {p k:Nat} {P:cm} {e:Event} (G:t.procs.l[p]? = some P) (O:P.events.l[k]? = some e):di t ⟨p,k+1⟩ e=some (nZ t.procs.l.length P p k e):=by
 obtain⟨L,w⟩:=ζe.1 G;obtain⟨hk,z⟩:=ζe.1 O;obtain⟨C,A,_,_,B⟩:=D.2 P (w▸List.getElem_mem L);have Q:=B e (z▸List.getElem_mem hk);have I:∀last:Int,((decide (0<=e.time)&&decide (e.time<=1099511627776)) && !decide (e.time<last))=(!sD P k e) ->
  di.J1 last t ⟨p,k+1⟩ e P=some (nZ t.procs.l.length P p k e):=by
  intro last S;unfold di.J1 nZ;rw[Ku D,ζb,nM,ζb,H_ A Q];dsimp only
  cases Fi t.procs.l.length p e with
  | false=>rfl
  | true=>
   rw[bS,if_pos rfl];have:(bq (decide (0<=e.time)&&decide (e.time<=1099511627776)) (some (decide (e.time<last))) (some true):Option Bool)=some (sD P k e):=by
    have T:(!((decide (0<=e.time)&&decide (e.time<=1099511627776)) && !decide (e.time<last)))=sD P k e:=by rw[S,Bool.not_not]
    rw[<-T];cases (decide (0<=e.time)&&decide (e.time<=1099511627776)) <;> cases decide (e.time<last) <;> rfl
   rw[this,ζb]
   cases sD P k e with
   | true=>rfl
   | false=>
    rw[b_];simp only[Bool.false_eq_true,if_false]
    by_cases J:e.assign.l.length>8
    .rw[show decide (len e.assign>8)=true from by simp[len];omega,bS,if_pos J]
    .rw[show decide (len e.assign>8)=false from by simp[len];omega,b_,if_neg J]
 unfold di;dsimp only;rw[show idx t.procs (p:Int)=some P from by rw[lH];exact G,ζb]
 cases k with
 | zero=>
  rw[show decide (((0:Nat):Int)+1>1)=false from by decide,b_]
  refine I 0 ?_;simp only[sD,Bi,Bool.or_false];rw[Bool.eq_iff_iff];simp only[ζh,Bool.not_eq_true',decide_eq_true_eq,decide_eq_false_iff_not,Bool.or_eq_false_iff];omega
 | succ j=>
  rw[show decide ((((j+1:Nat)):Int)+1>1)=true from by simp;omega,bS]
  have u:j<P.events.l.length:=by omega
  have U:IntKind.wrap .i64 ((((j+1:Nat)):Int)+1-2)=((j:Nat):Int):=by rw[jU _ (by omega) (by omega)];omega
  rw[U,bK u,ζb];refine I _ ?_;simp only[sD,Bi,yA u];rw[Bool.eq_iff_iff];simp only[ζh,Bool.not_eq_true',decide_eq_true_eq,decide_eq_false_iff_not,Bool.or_eq_false_iff];omega
end Go.VE
namespace Go.VE
theorem ID {t:Trace} {p:Nat} {P:cm} {e:Event} (D:t.procs.l[p]? = some P) (J:e.assign.l.length<1073741824):dO.W2 p 0 t e=some (mT (pM P e) 0 e.assign.l.length):=by
 unfold dO.W2;rw[wD (n:=e.assign.l.length) (pM P e) (by omega) (λi w=>?_) (by unfold dO.ck;simp[bq,len])]
 .by_cases z:mT (pM P e) 0 e.assign.l.length=0
  .rw[if_pos z,z];rfl
  .rw[if_neg z];rfl
 .unfold dO.ck;have G:dO.W3 p i 0 t e e.assign.l[i]=if gW (fO e.assign.l λb=>b.var==e.assign.l[i].var) 0 i then some (.r 8)else some (.n (IntKind.wrap .i64 ((i:Int)+1))):=by
   unfold dO.W3;rw[zY (n:=i) (fO e.assign.l λb=>b.var==e.assign.l[i].var) (by omega) (λj I=>?_) (by unfold dO.dM;simp[bq])]
   .cases gW (fO e.assign.l λb=>b.var==e.assign.l[i].var) 0 i <;> rfl
   .unfold dO.dM;have u:j<e.assign.l.length:=by omega
    rw[show decide ((j:Int)<(i:Int))=true from by simpa using I,bS,bK u,ζb,yA u,rJ]
  rw[CL w,show decide ((i:Int)<len e.assign)=true from by simp[len];exact w,bS,bK w,ζb,G,CC,ζb,show idx t.procs (p:Int)=some P from by rw[lH];exact D,ζb]
  have h1:(bq (decide (e.assign.l[i].var<0)) (some true) (some (decide (e.assign.l[i].var>=len P.vars))):Option Bool)=some (!(decide (0<=e.assign.l[i].var)&&decide (e.assign.l[i].var<P.vars.l.length))):=by
   rw[iV];congr 1;rw[Bool.eq_iff_iff];simp only[Bool.or_eq_true,Bool.not_eq_true',decide_eq_true_eq,Bool.and_eq_false_iff,decide_eq_false_iff_not,len];omega
  rw[h1,ζb];generalize (decide (0<=e.assign.l[i].var)&&decide (e.assign.l[i].var<(P.vars.l.length:Int)))=A;generalize (decide (e.assign.l[i].value>=-1073741824)&&decide (e.assign.l[i].value<=1073741824))=B;generalize gW (fO e.assign.l λb=>b.var==e.assign.l[i].var) 0 i=C
  cases A <;> cases B <;> cases C <;> rfl
theorem LS {t:Trace} (U:Small t) {p k:Nat} {P:cm} {e:Event} (J:t.procs.l[p]? = some P) (O:P.events.l[k]? = some e):dO t p k=some (nZ t.procs.l.length P p k e):=by
 obtain⟨T,w⟩:=ζe.1 J;obtain⟨hk,z⟩:=ζe.1 O;obtain⟨Q,W,_,_,I⟩:=U.2 P (w▸List.getElem_mem T);have X:=I e (z▸List.getElem_mem hk);have Y:dO.J1 p k t e=some (if sD P k e then 11 else if e.assign.l.length>8 then 5 else mT (pM P e) 0 e.assign.l.length):=by
  unfold dO.J1;rw[iV,ζb,ID J X,show idx t.procs (p:Int)=some P from by rw[lH];exact J,ζb]
  have h1:(bq (decide ((k:Int)>0)) ((idx P.events (IntKind.wrap .i64 ((k:Int)-1))).bind λL=>some (decide (e.time<L.time))) (some false):Option Bool)=some (Bi P k e):=by
   cases k with
   | zero=>rfl
   | succ j=>
    have u:j<P.events.l.length:=by omega
    rw[show decide ((((j+1:Nat)):Int)>0)=true from by simp only[decide_eq_true_eq];omega,bS,show IntKind.wrap .i64 ((((j+1:Nat)):Int)-1)=((j:Nat):Int)from by rw[jU _ (by omega) (by omega)];omega,bK u,ζb]
    simp only[Bi,yA u]
  rw[h1,ζb,iV,ζb];show bq (sD P k e) _ _=_
  cases sD P k e with
  | true=>rfl
  | false=>
   rw[b_];simp only[Bool.false_eq_true,if_false]
   by_cases S:e.assign.l.length>8
   .rw[show decide (len e.assign>8)=true from by simp[len];omega,bS,if_pos S]
   .rw[show decide (len e.assign>8)=false from by simp[len];omega,b_,if_neg S]
 unfold dO nZ;rw[show idx t.procs (p:Int)=some P from by rw[lH];exact J,ζb,show idx P.events (k:Int)=some e from by rw[lH];exact O,ζb,Y]
 unfold Fi
 cases h1:e.kind==1 with
 | true=>
  rw[bS];simp only[if_true];cases e.peer==0 <;> cases e.message==0 <;> rfl
 | false=>
  rw[b_];simp only[Bool.false_eq_true,if_false];have h2:(bq (e.kind==2) (some false) (some (!(e.kind==3))):Option Bool)=some (!(e.kind==2||e.kind==3)):=by cases e.kind==2 <;> rfl
  rw[h2,ζb,iV,ζb,iV,ζb,iV,ζb,iV,ζb,iV,ζb];have h3:(((((!(e.kind==2||e.kind==3))||decide (e.peer<0))||decide (e.peer>=len t.procs))||(e.peer==p))||decide (e.message<0)||decide (e.message>199)) = !((e.kind==2||e.kind==3)&&(decide (0<=e.peer)&&decide (e.peer<t.procs.l.length)) && !(e.peer==p)&&(decide (0<=e.message)&&decide (e.message<=199))):=by
   generalize (e.kind==2||e.kind==3)=A;have a1:decide (e.peer<0) = !decide (0<=e.peer):=by rw[Bool.eq_iff_iff];simp
   have a2:decide (e.peer>=len t.procs) = !decide (e.peer<t.procs.l.length):=by rw[Bool.eq_iff_iff];simp[len]
   have a3:decide (e.message<0) = !decide (0<=e.message):=by rw[Bool.eq_iff_iff];simp
   have a4:decide (e.message>199) = !decide (e.message<=199):=by rw[Bool.eq_iff_iff];simp
   rw[a1,a2,a3,a4];generalize decide (0<=e.peer)=B;generalize decide (e.peer<(t.procs.l.length:Int))=C;generalize (e.peer==(p:Int))=D;generalize decide (0<=e.message)=F;generalize decide (e.message<=199)=G;cases A <;> cases B <;> cases C <;> cases D <;> cases F <;> cases G <;> rfl
  rw[h3];generalize ((e.kind==2||e.kind==3)&&(decide (0<=e.peer)&&decide (e.peer<(t.procs.l.length:Int))) && !(e.peer==(p:Int))&&(decide (0<=e.message)&&decide (e.message<=199)))=Z;cases Z <;> rfl
theorem Jn {n:Nat} {p:Int} {e:Event} (h:Fi n p e=true):jO n p e:=by
 unfold Fi at h;split at h
 .rename_i h1;left;simpa using h1
 .right;simp only[ζh,Bool.or_eq_true,beq_iff_eq,decide_eq_true_eq,Bool.not_eq_true',beq_eq_false_iff_ne,ne_eq]at h;obtain⟨⟨⟨h1,t⟩,w⟩,u⟩:=h;exact⟨h1,t.1,t.2,w,u.1,u.2⟩
theorem FG {n:Nat} {P:cm} {p k:Nat} {e:Event} (h:nZ n P p k e=0):jO n p e:=by
 unfold nZ at h;split at h
 .rename_i h1;exact Jn h1
 .cases h
end Go.VE
namespace Go.VE
theorem z8 {α:Type} [DecidableEq α]:∀{l r:List α},l.Nodup->(∀x∈l,x∈r)->l.length<=r.length
 | [],_,_,_=>Nat.zero_le _
 | x::l,r,D,G=>by
  have B:=List.nodup_cons.1 D;have:=z8  (r:=r.erase x) B.2 λy t=>(List.mem_erase_of_ne (by grind)).2 (G y (List.mem_cons_of_mem _ t))
  grind
section
variable {κ:Type} [DecidableEq κ]
theorem wB {ν:Type} {k:κ}:∀{m:Mo κ ν},k∉m.map (·.1)->nQ k m=none
 | [],_=>rfl
 | (a,v)::r,h=>by
  simp only[List.map_cons,List.mem_cons,not_or]at h;unfold nQ;rw[if_neg h.1];exact wB h.2
theorem xW {ν:Type} {k:κ}:∀{m:Mo κ ν},k∈m.map (·.1)->∃v,nQ k m=some v/\(k,v)∈m
 | [],h=>by simp_all
 | (a,v)::r,h=>by
  unfold nQ
  by_cases e:k=a
  .grind
  .obtain⟨w,h1,B⟩:=xW  (by simpa [e]using h)
   grind
theorem oG {ν:Type} {k:κ} {v:ν}:∀{m:Mo κ ν},k∉m.map (·.1)->nP m k v=m++[(k,v)]
 | [],_=>rfl
 | (a,w)::r,h=>by
  simp only[List.map_cons,List.mem_cons,not_or]at h;show (if k=a then _ else _)=_;rw[if_neg h.1,oG h.2];rfl
end
def Vd (t:Trace) (y:aY):Prop:=∃e,(y,e)∈bQ t
theorem Vd.at_ {t:Trace} {y:aY} (h:Vd t y):∃(p k:Nat) (e:Event),lE t p k e/\y=⟨p,k+1⟩/\(y,e)∈bQ t:=by
 obtain⟨e,u⟩:=h;obtain⟨p,k,h1,w⟩:=dY.1 u
 grind
def Fy (t:Trace) (y z:aY):Prop:=∃e f,(y,e)∈bQ t/\(z,f)∈bQ t/\e.kind=2/\f.kind=3/\e.message=f.message
def Edge (t:Trace) (y z:aY):Prop:=Vd t y/\Vd t z/\(z=⟨y.proc,y.index+1⟩\/Fy t y z)
abbrev Way (t:Trace):aY->aY->Prop:=Relation.TransGen (Edge t)
def GY (t:Trace):Prop:=∃x,Way t x x
theorem Way.l {t:Trace} {x y:aY} (h:Way t x y):Vd t x:=by
 induction h with
 | single h=>exact h.1
 | tail _ _ u=>omega
theorem Way.r {t:Trace} {x y:aY} (h:Way t x y):Vd t y:=by
 cases h with
 | single h=>exact h.2.1
 | tail _ h=>exact h.2.1
theorem LP {t:Trace} (hS:Small t) (hF:∀x∈bQ t,jO t.procs.l.length x.1.proc x.2) {A:bP 200 bz} (hA:gZ t (bQ t) A) {y:aY} (O:Vd t y) :
 Wp (iq t A y) λs=>s.l.length<=2/\∀z,z∈s.l↔Edge t y z:=by
 obtain⟨p,k,e,W,D,u⟩:=O.at_;obtain⟨P,S,hk⟩:=W;have X:P∈t.procs.l:=List.mem_of_getElem? S;have h1:=(hS.2 P X).1;have aa:k<P.events.l.length:=(ζe.1 hk).1;have G:y.proc=p:=by rw[D]
 have C:y.index=k+1:=by rw[D]
 have j:∀s:Sl aY,s.l.length<=1->(∀z,z∈s.l↔Vd t z/\z=⟨y.proc,y.index+1⟩)->Wp (iq.J1 A s P.events y) λs=>s.l.length<=2/\∀z,z∈s.l↔Edge t y z:=by
  intro s hs w;have no:¬(∃z,Fy t y z)->s.l.length<=2/\∀z,z∈s.l↔Edge t y z:=λhn=>⟨by omega,λz=>(w z).trans ⟨λh=>⟨O,h.1,.inl h.2⟩,λh=>⟨h.2.1,h.2.2.elim id λh=>(hn ⟨z,h⟩).elim⟩⟩⟩
  unfold iq.J1;have Y:IntKind.wrap .i64 (y.index-1)=((k:Nat):Int):=by rw[C,jU _ (by omega) (by omega)];omega
  rw[Y,lH,hk,ζb,eD,bZ];constructor
  .intro B;have B:e.kind=2:=by grind
   have T:0<=e.message/\e.message<=199:=by
    rcases hF _ u with h|⟨_,_,_,_,h⟩
    .grind
    simp_all
   have to_:∀z,Fy t y z->(ag A e.message).to_=z:=λz ⟨Z,f,a1,I,a3,a4,a5⟩=>by
    cases Al a1 u rfl;rw[a5];exact(hA.rcv _ I a4).1
   rw[Jd A T.1 T.2,ζb,aZ,bZ];refine⟨λh=>?_,λh=>(aZ _).2 (no λ⟨z,w⟩=>?_)⟩
   .have h:(ag A e.message).to_.index>0:=by grind
    rw[ζb];unfold fT;rw[if_pos (by omega),ζb,aZ]
    refine⟨by show (s.l++[(ag A e.message).to_]).length<=2;grind,λz=>?_⟩
    have J:Fy t y (ag A e.message).to_:=by
     rcases hA.to e.message T.1 T.2 with h0|⟨Z,h1,h2,h3⟩
     .omega
     .exact⟨e,Z,u,h1,B,h2,h3.symm⟩
    show z∈s.l++[(ag A e.message).to_]↔_;rw[List.mem_append,List.mem_singleton,w];constructor
    .rintro (h|rfl)
     .exact⟨O,h.1,.inl h.2⟩
     .exact⟨O,let ⟨_,f,_,I,_⟩:=J;⟨f,I⟩,.inr J⟩
    .rintro⟨_,h1,h2|h2⟩
     .grind
     grind
   .rw[to_ z w]at h;obtain⟨_,f,_,I,_⟩:=w;obtain⟨q,i,_,U⟩:=dY.1 I;simp only at U;rw[U]at h;simp at h
  .intro B;rw[aZ,bZ];refine⟨λh=>(by cases h),λ_=>(aZ _).2 (no λ⟨z,Z,f,a1,_,a3,_⟩=>?_)⟩
   cases Al a1 u rfl
   grind
 unfold iq;rw[G,lH,S,ζb,bZ];rw[G]at j;constructor
 .intro h;have h:y.index<len P.events:=by simpa using h
  have B:k+1<P.events.l.length:=by rw[C]at h;simp[len]at h;omega
  refine j _ (by simp[Sl.l]) λz=>?_
  have Y:IntKind.wrap .i64 (y.index+1)=y.index+1:=jU _ (by omega) (by omega)
  simp only[Sl.l,List.mem_singleton,Y];refine⟨λw=>⟨⟨P.events.l[k+1],dY.2 ⟨p,k+1,⟨P,S,ζd B⟩,?_⟩⟩,w⟩,λw=>w.2⟩
  rw[w,C];simp
 .intro h;have h:¬y.index<len P.events:=by simpa using h
  refine j _ (by simp[Sl.l]) λz=>⟨λw=>by simp[Sl.l]at w,λ⟨w,he⟩=>?_⟩
  obtain⟨q,i,f,⟨Q,hQ,U⟩,L,_⟩:=w.at_;rw[he,C]at L;simp[aY.mk.injEq]at L;have:q=p:=by omega
  subst this;rw[S]at hQ;cases hQ;have:=(ζe.1 U).1;simp[len]at h;omega
structure E_ (t:Trace) (x:aY) (rest:Sl aY) (m:Mo aY Bool) (U:aY->Prop):Prop where
 rst:∀y∈rest.l,y=x\/Way t x y
 keys:(m.map (·.1)).Nodup
 seen:∀y∈m,Way t x y.1/\y.1≠x/\y.2=true
 le:rest.l.length<=m.length+1
 done:∀y,y=x\/y∈m.map (·.1)->y∈rest.l\/U y\/∀z,Edge t y z->z∈m.map (·.1)
theorem E_.count {t:Trace} {x:aY} {rest:Sl aY} {m:Mo aY Bool} {U:aY->Prop} (h:E_ t x rest m U):m.length<=(bQ t).length:=by
 have:=z8 (r:=(bQ t).map (·.1)) h.keys λx u=>by
  obtain⟨y,w,rfl⟩:=List.mem_map.1 u;obtain⟨e,z⟩:=(h.seen y w).1.r
  grind
 grind
theorem KL {t:Trace} (hS:Small t) (hN:(bQ t).length<1073741824) (hF:∀x∈bQ t,jO t.procs.l.length x.1.proc x.2) {A:bP 200 bz} (hA:gZ t (bQ t) A):Wp (gL t A) λr=>(r.2=true↔GY t):=by
 unfold gL jd;rw[ζb];unfold gL.E1;rw[tF hS,ζb];refine zb (λk _=>∀x∈(bQ t).take k,¬Way t x.1 x.1) (by simp) ?_ λ_ h=>(aZ _).2 ⟨λh=>(by cases h),λ⟨x,hx⟩=>?_⟩
 .intro i x _ hx ar;have ah:x∈bQ t:=List.mem_of_getElem? hx;refine Wp.mono (P:=λw=>match w with|.n s=>¬Way t x.1 x.1|.x e=>False|.r e=>GY t) ?_ λw hw=>by
   cases w with
   | n s=>
    intro y hy;rw[List.take_add_one,hx]at hy
    grind
   | x e=>grind
   | r b=>exact(aZ _).2 ⟨λ_=>hw,λ_=>rfl⟩
  refine gU (λq:Sl aY×Mo aY Bool=>E_ t x.1 q.1 q.2 λ_=>False) (λq=>2*((bQ t).length-q.2.length)+q.1.l.length) ⟨λy hy=>.inl (by simpa [Sl.l]using hy),by simp,by simp,by simp[Sl.l],λy hy=>.inl ?_⟩ ?_
  .simpa [Sl.l]using hy
  rintro⟨rest,m⟩ L;unfold gL.ck;rw[bZ];refine⟨λh=>?_,λh=>(aZ _).2 ((aZ _).2 λhw=>?_)⟩
  .have G:0<rest.l.length:=by
    grind
   have hc:=L.count;have av:=L.le;have hw:IntKind.wrap .i64 ((len rest)-1)=(rest.l.length-1:Nat):=by
    rw[jU _ (by grind) (by grind)];grind
   have I:rest.l.length-1<rest.l.length:=by omega
   rw[hw];have h1:Sl.jf rest (rest.l.length-1:Nat)=some (rest.l.length-1):=by
    unfold Sl.jf;grind
   have h2:Sl.get rest (rest.l.length-1)=some rest.l[rest.l.length-1]:=by unfold Sl.get;grind
   obtain⟨cut,h3,h4⟩:∃x,nk rest none (some ((rest.l.length-1:Nat):Int))=some x/\x.l=rest.l.take (rest.l.length-1):=by
    cases rest with
    | nil=>simp[Sl.l]at G
    | emp=>simp[Sl.l]at G
    | row l=>
     simp only[Sl.l]at G ⊢;unfold nk dD;simp_all
    | part l=>
     simp[Sl.l]at G ⊢;unfold nk dD;simp_all
   rw[h1,ζb,h2,ζb,h3,ζb,eD];generalize ai:rest.l[rest.l.length-1]=y;have aj:y∈rest.l:=ai▸List.getElem_mem I;have O:∀z,z∈rest.l->z∈cut.l\/z=y:=λz hz=>by
    have:rest.l.take (rest.l.length-1)++rest.l.drop (rest.l.length-1)=rest.l:=List.take_append_drop ..;rw[<-this]at hz;rcases List.mem_append.1 hz with hz|hz
    .grind
    .rw[List.drop_eq_getElem_cons I,List.drop_of_length_le (by omega)]at hz
     grind
   have aa  := L.rst _ aj;have ak  := aa.elim (λe=>⟨x.2,e▸ah⟩) Way.r
   refine(LP hS hF hA ak).mono λs hs=>?_
   refine gU (λq:Sl aY×Int×Mo aY Bool=>∃n:Nat,q.2.1=n/\n<=s.l.length/\E_ t x.1 q.1 q.2.2 (λu=>u=y)/\(∀z∈s.l.take n,z∈q.2.2.map (·.1))/\2*((bQ t).length-q.2.2.length)+q.1.l.length<2*((bQ t).length-m.length)+rest.l.length) (λq=>s.l.length-q.2.1.toNat)
    ⟨0,rfl,Nat.zero_le _,⟨λz hz=>L.rst z (by grind),L.keys,L.seen,by grind,λu hu=>?_⟩,by simp,by grind⟩ ?_
   .rcases L.done u hu with h|h|h
    .exact(O u h).imp_right .inl
    .exact h.elim
    .exact .inr (.inr h)
   rintro⟨C,i2,W⟩ ⟨n,rfl,hn,B,J,hμ⟩;simp only at B hμ J;unfold gL.dM;rw[bZ];constructor
   .intro h;have X:n<s.l.length:=by simpa [len]using h
    have ab:=(hs.2 s.l[n]).1 (List.getElem_mem X);have Q:Way t x.1 s.l[n]:=aa.elim (λe=>.single (e▸ab)) λh=>.tail h ab
    rw[bK X,ζb,bZ];refine⟨λZ=>(aZ _).2 ((aZ _).2 ((aZ _).2 ⟨x.1,?_⟩)),λS=>?_⟩
    .have:s.l[n]=x.1:=by
      unfold G9 at Z
      revert Z;cases s.l[n];cases x.1;intro Z;simpa using Z
     rw[this]at Q;exact Q
    have S:s.l[n]≠x.1:=λe=>by rw[e]at S;simp[G9]at S
    have T:=cC n (by omega)
    have ad:s.l.take (n+1)=s.l.take n++[s.l[n]]:=by rw[List.take_add_one,ζd X];rfl
    rw[bZ];refine⟨λhg=>(aZ _).2 ⟨⟨n+1,T,by omega,B,λz hz=>?_,hμ⟩,by show _-(IntKind.wrap .i64 ((n:Int)+1)).toNat<_;rw[T];simp;omega⟩,λY=>?_⟩
    .rw[ad]at hz;rcases List.mem_append.1 hz with hz|hz
     .exact J z hz
     .simp[List.mem_singleton]at hz;subst hz;apply Classical.byContradiction;intro hk;unfold sY at hg;rw[wB hk]at hg;cases hg
    have aw:=B.count;have au:=B.le;unfold fT;rw[if_pos (show C.l.length+1<=2147483648 from by omega),ζb,aZ]
    have D:s.l[n]∉W.map (·.1):=λal=>by
     obtain⟨v,hv,am⟩:=xW al;have:=(B.seen _ am).2.2;simp only at this;subst this;unfold sY at Y;rw[hv]at Y;cases Y
    have U:∀z,z∈(nP W s.l[n] true).map (·.1)↔z∈W.map (·.1)\/z=s.l[n]:=λz=>by
     rw[oG D,List.map_append,List.mem_append];simp
    have ae:E_ t x.1 (.row (C.l++[s.l[n]])) (nP W s.l[n] true) (λu=>u=y):=by
     refine⟨λy hy=>?_,?_,λy hy=>?_,?_,λu hu=>?_⟩
     .simp[Sl.l,List.mem_singleton]at hy;rcases hy with hy|rfl
      .exact B.rst y hy
      .exact .inr Q
     .rw[oG D,List.map_append,List.nodup_append];refine⟨B.keys,by simp,λa ha b hb=>?_⟩
      simp[List.mem_singleton]at hb;subst hb;exact λe=>D (e▸ha)
     .rw[oG D]at hy;rcases List.mem_append.1 hy with hy|hy
      .exact B.seen y hy
      .simp[List.mem_singleton]at hy;subst hy;exact⟨Q,S,rfl⟩
     .rw[oG D];show (C.l++[s.l[n]]).length<=_;rw[ζi,ζi,List.length_singleton,List.length_singleton];omega
     .simp only[Sl.l,List.mem_append,List.mem_singleton];have af:u=x.1\/u∈W.map (·.1)->(u∈C.l\/u=s.l[n])\/u=y\/∀z,Edge t u z->z∈(nP W s.l[n] true).map (·.1):=λhu=>by
       rcases B.done u hu with h|h|h
       .exact .inl (.inl h)
       .exact .inr (.inl h)
       .exact .inr (.inr λz hz=>(U z).2 (.inl (h z hz)))
      rcases hu with hu|hu
      .exact af (.inl hu)
      .rcases (U u).1 hu with hu|hu
       .exact af (.inr hu)
       .exact .inl (.inr hu)
    have an:=ae.count;refine⟨⟨n+1,T,by omega,ae,λz hz=>?_,?_⟩,by show _-(IntKind.wrap .i64 ((n)+1)).toNat<_;rw[T];simp;omega⟩
    .rw[ad]at hz;rcases List.mem_append.1 hz with hz|hz
     .exact(U z).2 (.inl (J z hz))
     .exact(U z).2 (.inr (by simpa using hz))
    rw[oG D,ζi,List.length_singleton]at an;show 2*((bQ t).length-(nP W s.l[n] true).length)+(C.l++[s.l[n]]).length<_;rw[oG D,ζi,ζi,List.length_singleton,List.length_singleton];omega
   .intro h;have ao:s.l.length<=n:=by simpa [len]using h
    rw[List.take_of_length_le ao]at J;refine(aZ _).2 ((aZ _).2 ⟨⟨B.rst,B.keys,B.seen,B.le,λu hu=>?_⟩,hμ⟩)
    rcases B.done u hu with h|h|h
    .exact .inl h
    .subst h;exact .inr (.inr λz hz=>J z ((hs.2 z).2 hz))
    .exact .inr (.inr h)
  .have ap:rest.l=[]:=by
    have:¬len rest>0:=by simpa using h
    simp[len]at this;exact this
   have hd:∀y,y=x.1\/y∈m.map (·.1)->∀z,Edge t y z->z∈m.map (·.1):=λy hy=>by
    rcases L.done y hy with h|h|h
    .simp only[ap]at h;cases h
    .exact h.elim
    .exact h
   have key:∀z,Way t x.1 z->z∈m.map (·.1):=λz hz=>by
    induction hz with
    | single h=>exact hd _ (.inl rfl) _ h
    | tail _ h ih=>exact hd _ (.inr ih) _ h
   obtain⟨y,hy,aq⟩:=List.mem_map.1 (key _ hw);exact(L.seen y hy).2.1 aq
 .obtain⟨e,Z⟩:=hx.l;rw[List.take_length]at h;exact absurd hx (h _ Z)
structure Ok (t:Trace):Prop where
 one:1<=t.procs.l.length
 few:t.procs.l.length<=8
 heads:∀p,p<t.procs.l.length->qA t p=0
 eY:∀(p k:Nat) P e,t.procs.l[p]? = some P->P.events.l[k]? = some e->nZ t.procs.l.length P p k e=0
 KZ:vJ t
 acyc:¬GY t
theorem Du {t:Trace} (h:∀(p k:Nat) P e,t.procs.l[p]? = some P->P.events.l[k]? = some e->nZ t.procs.l.length P p k e=0):∀x∈bQ t,jO t.procs.l.length x.1.proc x.2:=λx w=>by
 obtain⟨p,k,⟨P,z,A⟩,u⟩:=dY.1 w;rw[u];exact FG (h p k P _ z A)
structure VT (t:Trace):Prop where
 formed:∀x∈bQ t,jO t.procs.l.length x.1.proc x.2
 msgs:∃A i,dZ t=some (some A,i,0)/\gZ t (bQ t) A
 few:t.procs.l.length<=8
 ok:Ok t
theorem LO {t:Trace} (B:Small t) (Y:(bQ t).length<1073741824):Wp (gf t) λr=>(r.2=0->VT t)/\(Ok t->r.2=0):=by
 unfold gf;rw[nM,ζb,bZ];refine⟨λJ=>?_,λJ=>(aZ _).2 ⟨λh=>(by omega),λh=>?_⟩⟩
 rotate_left
 .have h1:=h.one;have G:=h.few
  grind
 have G:1<=t.procs.l.length/\t.procs.l.length<=8:=by
  grind
 unfold gf.W1;refine gU (λi:Int=>∃n:Nat,i=n/\n<=t.procs.l.length/\∀p,p<n->qA t p=0) (λi:Int=>t.procs.l.length-i.toNat) ⟨0,rfl,Nat.zero_le _,λp L=>absurd L (by omega)⟩ ?_
 rintro i ⟨n,rfl,hn,Z⟩;unfold gf.br;rw[bZ];constructor
 .intro h;have u:n<t.procs.l.length:=by grind
  rw[LA B u,ζb,bZ];refine⟨λh0=>(aZ _).2 ⟨⟨n+1,cC n (by omega),by omega,λp L=>?_⟩,by rw[cC n (by omega)];simp;omega⟩,λh0=>(aZ _).2 ((aZ _).2 ⟨λh=>?_,λh=>?_⟩)⟩
  .grind
  .grind
  .simp[h.heads n u]at h0
 .intro h;have aa:t.procs.l.length<=n:=by grind
  rw[aZ];unfold jd;rw[ζb];unfold gf.E2;rw[tF B,ζb];refine zb (λi _=>∀(p k:Nat) P e,t.procs.l[p]? = some P->P.events.l[k]? = some e->(⟨p,k+1⟩,e)∈(bQ t).take i->nZ t.procs.l.length P p k e=0) (by simp) ?_ ?_
  .intro i x _ X w;have O  := List.mem_of_getElem? X;obtain⟨p,j,⟨P,z,C⟩,Q⟩:=dY.1 O;unfold gf.G0;rw[Q,JF B z C,ζb,bZ];refine⟨λh0=>(aZ _).2 λp' k' P' e' ab ad hm=>?_,λh0=>(aZ _).2 ((aZ _).2 ⟨λh=>?_,λh=>?_⟩)⟩
   .rw[List.take_add_one,X]at hm
    grind
   .grind
   .simp[h.eY p j P _ z C]at h0
  .intro _ w;have w:∀(p k:Nat) P e,t.procs.l[p]? = some P->P.events.l[k]? = some e->nZ t.procs.l.length P p k e=0:=λp k P e z C=>w p k P e z C (by rw[List.take_length];exact dY.2 ⟨p,k,⟨P,z,C⟩,rfl⟩)
   have S:=Du w;obtain⟨r,hr,hq,T⟩:=AJ B S;rw[hr,ζb,bZ];refine⟨λh0=>?_,λh0=>(aZ _).2 ⟨λh=>?_,λh=>T h.KZ⟩⟩
   .have h0  := by simpa using h0
    obtain⟨A,U,W⟩:=hq h0;rw[U,ζb];obtain⟨c,hc,D⟩:=KL B Y S W;rw[hc,ζb,bZ];refine⟨λI=>(aZ _).2 ⟨λh=>(by cases h),λh=>absurd (D.1 I) h.acyc⟩,λI=>(aZ _).2 ⟨λ_=>?_,λ_=>rfl⟩⟩
    exact⟨S,⟨A,r.2.1,by rw[hr];obtain⟨r1,r2,r3⟩:=r;simp only at U h0;rw[U,h0],W⟩,G.2,G.1,G.2,λp L=>Z p (by omega),w,W.KZ,λhc=>by rw[D.2 hc]at I;cases I⟩
   simp_all
theorem Nx {t:Trace} (B:Small t) (D:(bQ t).length<1073741824):Wp (iU t) λb=>(b=true->VT t)/\(Ok t->b=true):=by
 unfold iU;rw[eD];exact(LO B D).mono λr hr=>(aZ _).2 ⟨λh=>hr.1 (by grind),λh=>by grind⟩
end Go.VE
namespace Go.VE
end Go.VE
namespace Go.VE
end Go.VE
namespace Go.VE
theorem Lf {t:Trace} (G:Small t) (hv:iU t=some true) {A:bP 200 bz} (B:gZ t (bQ t) A) {x:aY×Event} (D:x∈bQ t) (hk:x.2.kind=2):qR t x.2.message=some (x.1,true):=by
 refine Wp.eq ?_;unfold qR kj;rw[hv,ζb,bS];unfold jd;rw[ζb];unfold kj.E1;rw[tF G,ζb,eD];refine zb (λk _=>∀y∈(bQ t).take k,¬(y.2.kind=2/\y.2.message=x.2.message)) (by simp) ?_ ?_
 .intro k y _ C u;have w:y∈bQ t:=List.mem_of_getElem? C;unfold kj.rY;rw[mh,ζb,bZ];constructor
  .intro hc;have hc:y.2.kind=2/\y.2.message=x.2.message:=by simpa using hc
   refine(aZ _).2 ((aZ _).2 ((aZ _).2 ?_));have h1:=B.snd y w hc.1;have I:=B.snd x D hk;rw[hc.2,I]at h1;rw[h1]
  .intro hc;have hc:¬(y.2.kind=2/\y.2.message=x.2.message):=by
    intro h;rw[h.1,h.2]at hc;simp at hc
   rw[aZ];intro z hz;rw[List.take_add_one,C]at hz;rcases List.mem_append.1 hz with hz|hz
   .exact u z hz
   .simp at hz;subst hz;exact hc
 .intro _ u;rw[List.take_length]at u;exact absurd ⟨hk,rfl⟩ (u x D)
def rA (t:Trace) (c:List Int):Prop:=c.length=t.procs.l.length/\∀(p:Nat) (a:Int) (P:cm),c[p]? = some a->t.procs.l[p]? = some P->0<=a/\a<=P.events.l.length
def qC (t:Trace) (A:bP 200 bz) (c:List Int):Prop:=∀(p k:Nat) (e:Event) (a:Int),lE t p k e->c[p]? = some a->(k:Int)<a->e.kind=3->∃b,c[(ag A e.message).from_.proc.toNat]? = some b/\(ag A e.message).from_.index<=b
theorem FJ {t:Trace} (J:VT t) {A:bP 200 bz} (D:gZ t (bQ t) A) {p k:Nat} {e:Event} (O:lE t p k e) (hk:e.kind=3) :
 ∃(q j:Nat) (y:Event),lE t q j y/\y.kind=2/\y.message=e.message/\y.peer=p/\e.peer=q/\(ag A e.message).from_=⟨q,j+1⟩:=by
 have u:((⟨p,k+1⟩:aY),e)∈bQ t:=dY.2 ⟨p,k,O,rfl⟩;have z:=(D.rcv _ u hk).2;have C:=J.formed _ u;simp only at z C;have B:0<=e.peer:=by
  rcases C with h|⟨_,h,_⟩
  .omega
  .exact h
 obtain⟨q,G⟩:∃q:Nat,e.peer=q:=⟨e.peer.toNat,by omega⟩
 rw[G]at z;obtain⟨j,y,w,h1,I,L⟩:=AQ.1 z;have:=D.snd (⟨q,j+1⟩,y) (dY.2 ⟨q,j,w,rfl⟩) h1;simp only at this;rw[I]at this;exact⟨q,j,y,w,h1,I,L,G,this⟩
end Go.VE
namespace Go.VE
def Code (t:Trace) (A:bP 200 bz) (c:List Int) (r:Int):Prop:=c.length≠t.procs.l.length/\r=1\/c.length=t.procs.l.length/\¬rA t c/\r=2\/rA t c/\¬qC t A c/\r=18\/rA t c/\qC t A c/\r=0
theorem Code.zero {t:Trace} {A:bP 200 bz} {c:List Int} {r:Int} (h:Code t A c r):r=0↔rA t c/\qC t A c:=by
 rcases h with⟨h,rfl⟩|⟨_,h,rfl⟩|⟨_,h,rfl⟩|⟨h1,w,rfl⟩
 .exact⟨λh=>(by cases h),λu=>absurd u.1.1 h⟩
 .exact⟨λh=>(by cases h),λu=>absurd u.1 h⟩
 .exact⟨λh=>(by cases h),λu=>absurd u.2 h⟩
 .exact⟨λ_=>⟨h1,w⟩,λ_=>rfl⟩
def Cons (t:Trace) (A:bP 200 bz) (c:List Int):Prop:=rA t c/\qC t A c
end Go.VE
namespace Go.VE
def places {α:Type} (f:α->Bool) (l:List α):List Nat:=(List.range l.length).filter λk=>match l[k]? with|some x=>f x|none=>false
end Go.VE
namespace Go.VE
end Go.VE
namespace Go.VE
def qU (kind m:Int) (x:aY×Event):Bool:=x.2.kind==kind&&x.2.message==m
def kQ (t:Trace) (kind m:Int):aY:=match (bQ t).find? (qU kind m)with
 | some x=>x.1
 | none=>⟨0,0⟩
theorem IS {t:Trace} {kind m:Int} {p:Nat} {P:cm} (B:p<9223372036854775806) (D:t.procs.l[p]? = some P) (G:P.events.l.length<1073741824):∀(q i:Nat),i+q=P.events.l.length ->
 bO (λq:Int=>dw.ck kind m p t ⟨0,0⟩ q) (i:Int)=some (match (gP p i (P.events.l.drop i)).find? (qU kind m)with|some x=>.r x.1|none=>.x ()):=by
 have u:idx t.procs (p:Int)=some P:=by rw[lH];exact D
 intro q
 induction q with
 | zero=>
  intro i z;rw[iA];unfold dw.ck;rw[u,ζb,show decide ((i:Int)<len P.events)=false from by simp[len];omega,b_,List.drop_of_length_le (by omega)]
  rfl
 | succ q A=>
  intro i z;have w:i<P.events.l.length:=by omega
  rw[iA];have C:dw.ck kind m p t ⟨0,0⟩ i=some (if qU kind m (⟨p,(i:Int)+1⟩,P.events.l[i])then .r ⟨p,(i:Int)+1⟩else .n ((i+1:Nat):Int)):=by
   unfold dw.ck;rw[u,ζb,show decide ((i:Int)<len P.events)=true from by simp[len];omega,bS,ζb,bK w,ζb,mh,ζb,cC i (by omega),rJ]
   rfl
  rw[C,ζb,List.drop_eq_getElem_cons w];simp only[gP,List.find?_cons]
  cases I:qU kind m (⟨p,(i:Int)+1⟩,P.events.l[i])with
  | true=>rfl
  | false=>
   simp only[Bool.false_eq_true,if_false];exact A (i+1) (by omega)
theorem IQ {t:Trace} (B:Small t) {kind m:Int}:∀(q p:Nat),p+q=t.procs.l.length ->
 bO (λq:Int=>dw.br kind m t ⟨0,0⟩ q) (p:Int)=some (match (eS p (t.procs.l.drop p)).find? (qU kind m)with|some x=>.r x.1|none=>.x ()):=by
 have h1:=B.1;intro q
 induction q with
 | zero=>
  intro p w;rw[iA];unfold dw.br;rw[show decide ((p:Int)<len t.procs)=false from by simp[len];omega,b_,List.drop_of_length_le (by omega)]
  rfl
 | succ q z=>
  intro p w;have u:p<t.procs.l.length:=by omega
  have A:bO (λq:Int=>dw.ck kind m p t ⟨0,0⟩ q) 0=some (match (gP p 0 t.procs.l[p].events.l).find? (qU kind m)with|some x=>.r x.1|none=>.x ()):=IS (t:=t) (kind:=kind) (m:=m) (by omega) (ζd u) (B.2 _ (List.getElem_mem u)).1 (t.procs.l[p].events.l.length) 0 (by omega)
  rw[iA];unfold dw.br;rw[show decide ((p:Int)<len t.procs)=true from by simp[len];omega,bS]
  unfold dw.W2;rw[A,List.drop_eq_getElem_cons u];simp only[eS,List.find?_append]
  cases C:(gP p 0 t.procs.l[p].events.l).find? (qU kind m)with
  | some x=>rfl
  | none=>
   simp only[ζb,Fw.elim,Option.none_or];rw[cC p (by omega)]
   exact z (p+1) (by omega)
theorem find_eq {t:Trace} (B:Small t) (kind m:Int):dw t kind m=some (kQ t kind m):=by
 unfold dw dw.W1;have u:bO (λq:Int=>dw.br kind m t ⟨0,0⟩ q) 0=some (match (bQ t).find? (qU kind m)with|some x=>.r x.1|none=>.x ()):=IQ B (kind:=kind) (m:=m) t.procs.l.length 0 (by omega)
 rw[u];unfold kQ;cases (bQ t).find? (qU kind m) <;> rfl
theorem AP {t:Trace} {kind m:Int} {x:aY×Event} (h:(bQ t).find? (qU kind m)=some x):x∈bQ t/\x.2.kind=kind/\x.2.message=m/\kQ t kind m=x.1:=by
 have h1:=List.find?_some h;simp only[qU,ζh,beq_iff_eq]at h1;exact⟨List.mem_of_find?_eq_some h,h1.1,h1.2,by unfold kQ;rw[h]⟩
theorem EJ {t:Trace} {kind m:Int} {x:aY×Event} (B:x∈bQ t) (hk:x.2.kind=kind) (D:x.2.message=m):∃y,(bQ t).find? (qU kind m)=some y:=by
 cases u:(bQ t).find? (qU kind m)with
 | some y=>exact⟨y,rfl⟩
 | none=>
  rw[List.find?_eq_none]at u;exact absurd (u x B) (by simp[qU,hk,D])
theorem NP {t:Trace} {p k:Nat} {e:Event} (h:lE t p k e) (hk:k<9223372036854775807):sV t ⟨p,k+1⟩=some e:=by
 obtain⟨P,u,w⟩:=h;unfold sV;dsimp only;rw[show idx t.procs (p:Int)=some P from by rw[lH];exact u,ζb,show IntKind.wrap .i64 ((k:Int)+1-1)=(k:Int)from by rw[jU _ (by omega) (by omega)];omega,show idx P.events (k:Int)=some e from by rw[lH];exact w]
 rfl
def tn (t:Trace) (x:aY×Event):Int:=if x.2.kind=1 then 0 else if kQ t x.2.kind x.2.message=x.1 then(if x.2.kind=3 then(if qY t x.2.peer x.2.message x.1.proc then 0 else 7)else 0)else 8
theorem Ki {t:Trace} (D:Small t) {p k:Nat} {e:Event} (h:lE t p k e) (W:jO t.procs.l.length p e):gO t ⟨p,k+1⟩=some (tn t (⟨p,k+1⟩,e)):=by
 have hk:k<1073741824:=by
  obtain⟨P,X,Y⟩:=h;have:=(D.2 P (List.mem_of_getElem? X)).1;have:=(ζe.1 Y).1;omega
 unfold gO tn;rw[NP h (by omega),ζb]
 dsimp only
 by_cases h1:e.kind=1
 .rw[show (e.kind==1)=true from by simp[h1],bS,if_pos h1]
 .rw[show (e.kind==1)=false from by simp[h1],b_,if_neg h1,find_eq D,ζb]
  have C:G9 (kQ t e.kind e.message) ⟨p,(k:Int)+1⟩=decide (kQ t e.kind e.message=⟨p,(k:Int)+1⟩):=by
   unfold G9;rw[Bool.eq_iff_iff];cases kQ t e.kind e.message;simp
  rw[C]
  by_cases w:kQ t e.kind e.message=⟨p,(k:Int)+1⟩
  .rw[if_pos w,show decide (kQ t e.kind e.message=⟨p,(k:Int)+1⟩)=true from by simpa using w,bS]
   by_cases A:e.kind=3
   .rw[if_pos A,show (e.kind==3)=true from by simp[A],bS]
    have G:0<=e.peer/\e.peer<t.procs.l.length:=by
     rcases W with h|⟨_,h1,w,_⟩
     .exact absurd h h1
     .exact⟨h1,w⟩
    have O:e.peer.toNat<t.procs.l.length:=by omega
    have S:=ζd O;have Z:=(D.2 _ (List.getElem_mem O)).1;generalize aa:t.procs.l[e.peer.toNat]=Q at *;have I:idx t.procs e.peer=some Q:=by rw[Is G.1];exact S
    have J:qY t e.peer e.message p=Q.events.l.any λs=>s.kind==2&&s.message==e.message&&s.peer==p:=by
     unfold qY;rw[S]
    unfold gO.W1;refine Wp.eq (gU (λz:Bool×Int=>∃m:Nat,z.2=m/\m<=Q.events.l.length/\z.1=(Q.events.l.take m).any λs=>s.kind==2&&s.message==e.message&&s.peer==p) (λz=>Q.events.l.length-z.2.toNat) ⟨0,rfl,Nat.zero_le _,rfl⟩ ?_)
    rintro⟨s,i⟩ ⟨m,T,hm,B⟩;simp only at T B;subst T;unfold gO.br;dsimp only;rw[I,ζb,bZ];constructor
    .intro L;have u:m<Q.events.l.length:=by simpa [len]using L
     have U:=cC m (by omega)
     rw[ζb,bK u,ζb,mh,ζb,mh,ζb,iV,ζb,aZ];refine⟨⟨m+1,U,by omega,?_⟩,by show _-(IntKind.wrap .i64 ((m:Int)+1)).toNat<_;rw[U];simp;omega⟩
     show (s||_)=_;rw[List.take_add_one,ζd u,List.any_append,B];simp
    .intro L;have u:Q.events.l.length<=m:=by simpa [len]using L
     rw[List.take_of_length_le u]at B;refine(aZ _).2 ?_;rw[J,<-B];cases s
     .exact(aZ _).2 rfl
     .exact(aZ _).2 rfl
   .rw[if_neg A,show (e.kind==3)=false from by simp[A],b_]
  .rw[if_neg w,show decide (kQ t e.kind e.message=⟨p,(k:Int)+1⟩)=false from by simpa using w,b_]
theorem I4 {t:Trace} (G:∀x∈bQ t,jO t.procs.l.length x.1.proc x.2):(∀x∈bQ t,tn t x=0)↔vJ t:=by
 constructor
 .intro h;have key:∀x∈bQ t,x.2.kind≠1->kQ t x.2.kind x.2.message=x.1:=λx u hk=>by
   have:=h x u;unfold tn at this;rw[if_neg hk]at this;split at this
   .assumption
   .cases this
  refine⟨λx u y w z A B=>?_,λx u y w z A B=>?_,λx u z=>?_⟩
  .rw[<-key x u (by omega),<-key y w (by omega),z,A,B]
  .rw[<-key x u (by omega),<-key y w (by omega),z,A,B]
  .have:=h x u;unfold tn at this;rw[if_neg (by omega),if_pos (key x u (by omega)),if_pos z]at this
   split at this
   .assumption
   .cases this
 .intro h x u;unfold tn
  by_cases k1:x.2.kind=1
  .rw[if_pos k1]
  .rw[if_neg k1];obtain⟨y,w⟩:=EJ u rfl rfl;obtain⟨C,D,y3,y4⟩:=AP w;have hk:x.2.kind=2\/x.2.kind=3:=by
    rcases G x u with h|⟨h,_⟩
    .exact absurd h k1
    .exact h
   have I:kQ t x.2.kind x.2.message=x.1:=by
    rw[y4];rcases hk with hk|hk
    .exact h.snd y C x u (by rw[D,hk]) hk y3
    .exact h.rcv y C x u (by rw[D,hk]) hk y3
   rw[if_pos I]
   by_cases k3:x.2.kind=3
   .rw[if_pos k3,if_pos (h.has x u k3)]
   .rw[if_neg k3]
end Go.VE
namespace Go.VE
theorem yW {t:Trace} (D:∀x∈bQ t,jO t.procs.l.length x.1.proc x.2) (G:vJ t) {z:aY} {f:Event} (B:(z,f)∈bQ t) (hk:f.kind=3):∃e,(kQ t 2 f.message,e)∈bQ t/\e.kind=2/\e.message=f.message:=by
 have h:=G.has _ B hk;have C:0<=f.peer:=by
  rcases D _ B with h|⟨_,h,_⟩
  .grind
  simp_all
 rw[show f.peer=(f.peer.toNat:Nat)from by omega,AQ]at h
 obtain⟨k,e,u,h1,w,_⟩:=h;obtain⟨y,A⟩:=EJ (dY.2 ⟨_,k,u,rfl⟩:(⟨(f.peer.toNat:Nat),k+1⟩,e)∈bQ t) h1 w;obtain⟨I,J,y3,y4⟩:=AP A
 grind
theorem Fy.find {t:Trace} (G:∀x∈bQ t,jO t.procs.l.length x.1.proc x.2) (B:vJ t) {y z:aY} {f:Event} (h:Fy t y z) (D:(z,f)∈bQ t):f.kind=3/\kQ t 2 f.message=y:=by
 obtain⟨e,I,h1,w,A,u,J⟩:=h;cases Al w D rfl;obtain⟨L,a1,C,O⟩:=yW G B D u;exact⟨u,B.snd _ a1 _ h1 C A (by simp_all)⟩
theorem zW {t:Trace} (O:Small t) (G:∀x∈bQ t,jO t.procs.l.length x.1.proc x.2) (B:vJ t) {z:aY} (D:Vd t z) :
 Wp (dB t z) λs=>s.l.length<=2/\∀y,y∈s.l↔Edge t y z:=by
 obtain⟨p,k,f,w,rfl,u⟩:=D.at_;have hk:k<1073741824:=by
  obtain⟨P,B,I⟩:=w;have:=(O.2 P (List.mem_of_getElem? B)).1
  grind
 have j:∀s:Sl aY,s.l.length<=1->(∀y,y∈s.l↔Vd t y/\(⟨p,k+1⟩:aY)=⟨y.proc,y.index+1⟩)->Wp (dB.J1 s t ⟨p,k+1⟩) λs=>s.l.length<=2/\∀y,y∈s.l↔Edge t y ⟨p,k+1⟩:=by
  intro s T A;unfold dB.J1;rw[NP w (by omega),ζb,bZ]
  constructor
  .intro C;have C:f.kind=3:=by grind
   rw[find_eq O,ζb];unfold fT;rw[if_pos (by omega),ζb,aZ]
   refine⟨by show (s.l++[_]).length<=2;grind,λy=>?_⟩
   show y∈s.l++[kQ t 2 f.message]↔_;rw[List.mem_append,List.mem_singleton,A];obtain⟨e,a1,L,Q⟩:=yW G B u C;constructor
   .rintro (h|rfl)
    .exact⟨h.1,D,.inl h.2⟩
    .exact⟨⟨e,a1⟩,D,.inr ⟨e,f,a1,u,L,C,Q⟩⟩
   .rintro⟨h1,_,h2|h2⟩
    .grind
    .exact .inr (h2.find G B u).2.symm
  .intro C;refine(aZ _).2 ⟨by omega,λy=>(A y).trans ⟨λh=>⟨h.1,D,.inl h.2⟩,λ⟨h1,_,h2⟩=>⟨h1,h2.elim id λh2=>?_⟩⟩⟩
   have:=(h2.find G B u).1
   grind
 unfold dB;rw[bZ];constructor
 .intro h;have h:k+1>1:=by grind
  refine j _ (by simp[Sl.l]) λy=>?_
  have S:IntKind.wrap .i64 (k+1-1)=k:=by rw[jU _ (by omega) (by omega)];omega
  simp only[Sl.l,List.mem_singleton,S,aY.mk.injEq];constructor
  .rintro rfl;obtain⟨P,B,I⟩:=w;have:=(ζe.1 I).1;exact⟨⟨P.events.l[k-1],dY.2 ⟨p,k-1,⟨P,B,ζd (by omega)⟩,by simp;omega⟩⟩,rfl,rfl⟩
  simp_all
 .intro h;refine j _ (by simp[Sl.l]) λy=>⟨λJ=>by simp[Sl.l]at J,λ⟨J,I⟩=>?_⟩
  obtain⟨q,i,f,_,rfl,_⟩:=J.at_
  grind
theorem QV {α:Type} {r:α->α->Prop} {x:α} (h:Acc r x):¬Relation.TransGen r x x:=by
 induction h with
 | intro x _ t=>
  intro h
  cases h with
  | single h=>exact t x h (.single h)
  | tail h1 u=>exact t _ u (Relation.TransGen.trans (.single u) h1)
theorem GQ:∀{d:List Nat} {i k:Nat},d[i]? = some k->(d.set i (k+1)).sum=d.sum+1
 | [],_,_,h=>by simp_all
 | x::d,0,k,h=>by grind
 | x::d,i+1,k,h=>by
  have:=GQ (d:=d) (i:=i) (k:=k) (by grind)
  grind
theorem Ks:∀{d l:List Nat},d.length=l.length->(∀(i a b:Nat),d[i]? = some a->l[i]? = some b->a<=b)->d.sum<=l.sum
 | [],_,_,_=>by simp
 | x::d,[],h,_=>by simp_all
 | x::d,y::l,h,B=>by
  have h1:=B 0 x y rfl rfl;have t:=Ks (d:=d) (l:=l) (by grind) λi a b u w=>B (i+1) a b (by grind) (by grind)
  simp;omega
def nI (d:List Nat):List Int:=d.map Int.ofNat
def sI (s:Sl Int):Nat:=(s.l.map Int.toNat).sum
theorem DW (d:List Nat):sI (.row (nI d))=d.sum:=by
 unfold sI nI;rw[show (Sl.row (d.map Int.ofNat)).l=d.map Int.ofNat from rfl,List.map_map,show (Int.toNat ∘ Int.ofNat)=id from rfl,List.map_id]
theorem JQ (d:List Nat):(nI d).length=d.length:=by simp[nI]
structure Kh (t:Trace) (d:List Nat):Prop where
 len:d.length=t.procs.l.length
 le:∀(p k:Nat) P,d[p]? = some k->t.procs.l[p]? = some P->k<=P.events.l.length
 acc:∀(p k j:Nat),d[p]? = some k->j<k->Acc (Edge t) ⟨p,j+1⟩
def kU (t:Trace):Nat:=(t.procs.l.map λP=>P.events.l.length).sum
theorem Kh.sum {t:Trace} {d:List Nat} (h:Kh t d):d.sum<=kU t:=Ks (by simp[h.len]) λi a b z u=>by
 cases w:t.procs.l[i]? with
 | none=>grind
 | some P=>simp[w]at u;rw[<-u];exact h.le i a P z w
theorem AL {d:List Nat} {p:Nat} (h:p<d.length):Sl.jf (.row (nI d)) (p:Int)=some p:=by
 unfold Sl.jf;rw[if_pos ⟨by omega,by simpa [Sl.l,JQ]using h⟩];rfl
theorem xI {d:List Nat} {p k:Nat} (h:d[p]? = some k):Sl.get (.row (nI d)) p=some (k:Int):=by
 unfold Sl.get nI;rw[show (Sl.row (d.map Int.ofNat)).l=d.map Int.ofNat from rfl,List.getElem?_map,h];rfl
def Mv (t:Trace) (B:List Nat) (s:Sl Int) (b:Bool) (d:List Nat):Prop:=s=.row (nI d)/\Kh t d/\B.sum<=d.sum/\(b=true->B.sum<d.sum)
def KQ (t:Trace) (B:List Nat) (p:Nat) (w:Fw (Sl Int×Bool×Int) (Sl Int×Bool) Empty):Prop:=∃u z A,w=.n (u,z,((p+1:Nat):Int))/\Mv t B u z A
theorem O8 {t:Trace} (Y:Small t) (hF:∀x∈bQ t,jO t.procs.l.length x.1.proc x.2) (hP:vJ t) {D d1:List Nat} {s:Sl Int} {b:Bool} {p:Nat} (hp:p<t.procs.l.length) (hM:Mv t D s b d1) :
 Wp (dS.W3 s b p t) (KQ t D p):=by
 have Z:=bK hp;have hn:=Y.1;have ah:=(Y.2 _ (List.getElem_mem hp)).1;have C:=ζd hp;generalize t.procs.l[p]=P at *;refine gU (λq:Sl Int×Bool=>∃d,Mv t D q.1 q.2 d) (λq=>kU t-sI q.1) ⟨d1,hM⟩ ?_
 rintro⟨s,b⟩ ⟨d,rfl,u,hd,hb⟩;have w:p<d.length:=by rw[u.len];omega
 have hg:=ζd w;generalize d[p]=k at hg;have ai:=u.le p k P hg C;have stop:∀{W:Empty->Prop},Wp (some (Fw.x (Sl.row (nI d),b))) (On (λq:Sl Int×Bool=>∃d,Mv t D q.1 q.2 d) (λq=>kU t-sI q.1) (λe=>Wp (some (Fw.n (e.1,e.2,IntKind.wrap .i64 (p+1)))) (KQ t D p)) W (Sl.row (nI d),b)):=by
  refine(aZ _).2 ((aZ _).2 ⟨_,_,d,?_,rfl,u,hd,hb⟩);rw[cC p (by omega)]
 unfold dS.dM;rw[AL w,ζb,xI hg,ζb,Z,ζb,bZ];refine⟨λh=>?_,λ_=>stop⟩
 have G:k<P.events.l.length:=by grind
 have aa:lE t p k P.events.l[k]:=⟨P,C,ζd G⟩;have z:(⟨p,k+1⟩,P.events.l[k])∈bQ t:=dY.2 ⟨p,k,aa,rfl⟩;have go:(P.events.l[k].kind=3->∀q j:Nat,kQ t 2 P.events.l[k].message=⟨q,j+1⟩->∃X,d[q]? = some X/\j<X)->∀{px:Sl Int×Bool->Prop} {W:Empty->Prop},Wp (dS.J4 (.row (nI d)) p t) (On (λq:Sl Int×Bool=>∃d,Mv t D q.1 q.2 d) (λq=>kU t-sI q.1) px W (Sl.row (nI d),b)):=by
  intro hq px W;unfold dS.J4;rw[AL w,ζb,xI hg,ζb,ζb];unfold Sl.put;rw[if_pos (by simpa [Sl.l,JQ]using w),ζb,aZ]
  have I:(nI d).set p (IntKind.wrap .i64 ((k:Int)+1))=nI (d.set p (k+1)):=by
   rw[cC k (by omega)];unfold nI;simp_all
  have J:=GQ hg;have L:Kh t (d.set p (k+1)):=by
   refine⟨by simp[u.len],λq i Q A hQ=>?_,λq i j A hj=>?_⟩
   .rw[List.getElem?_set]at A;split at A
    .grind
    .exact u.le q i Q A hQ
   .rw[List.getElem?_set]at A;split at A
    .rename_i e;subst e;cases A
     by_cases ab:j<k
     .exact u.acc p k j hg ab
     .have:j=k:=by omega
      subst this;refine Acc.intro _ λy hy=>?_
      obtain⟨O,_,he|he⟩:=hy
      .obtain⟨q,i,f,_,rfl,_⟩:=O.at_;simp[aY.mk.injEq]at he;have e1:q=p:=by omega
       subst e1;exact u.acc q j i hg (by omega)
      .obtain⟨B,hf⟩:=he.find hF hP z;obtain⟨q,i,f,_,rfl,_⟩:=O.at_;obtain⟨X,ad,ae⟩:=hq B q i hf;exact u.acc q X i ad ae
    .exact u.acc q i j A hj
  have aj:=L.sum;refine⟨⟨_,by grind,L,by grind,λ_=>by grind⟩,?_⟩
  show kU t-sI (.row ((nI d).set p (IntKind.wrap .i64 ((k:Int)+1))))<kU t-sI (.row (nI d));rw[I,DW,DW,J]
  grind
 dsimp only;rw[ζb,ζb,xI hg,ζb,bK G,ζb,bZ];refine⟨λB=>?_,λB=>go λh=>by simp[h]at B⟩
 have B:P.events.l[k].kind=3:=by simpa using B
 obtain⟨e,a1,a2,a3⟩:=yW hF hP z B;obtain⟨q,j,S,T⟩:=dY.1 a1;simp only at T;have U:q<d.length:=by
  obtain⟨Q,hQ,_⟩:=S;rw[u.len];exact(ζe.1 hQ).1
 have af:=ζd U;rw[find_eq Y,ζb,T,AL U,ζb,xI af,ζb,bZ];refine⟨λ_=>stop,λh=>go λ_ q' j' hh=>?_⟩
 grind
theorem Jj {t:Trace} (G:Small t) (O:∀x∈bQ t,jO t.procs.l.length x.1.proc x.2) (B:vJ t):Wp (dS t) λb=>b=true->¬GY t:=by
 have hn:=G.1;unfold dS ov;rw[if_pos (by grind),ζb]
 have h0:(Sl.row (List.replicate (len t.procs).toNat 0))=.row (nI (List.replicate t.procs.l.length 0)):=by simp[nI]
 rw[h0];refine gU (λs:Sl Int=>∃d,s=.row (nI d)/\Kh t d) (λs=>kU t-sI s) ⟨_,rfl,by simp,λp k P h _=>by grind,λp k j h hj=>by grind⟩ ?_
 rintro s ⟨A,rfl,Q⟩;refine gU (λq:Sl Int×Bool×Int=>∃(n:Nat) (d:List Nat),q.2.2=n/\n<=t.procs.l.length/\Mv t A q.1 q.2.1 d) (λq=>t.procs.l.length-q.2.2.toNat) ⟨0,A,rfl,Nat.zero_le _,rfl,Q,Nat.le_refl _,by simp⟩ ?_
 rintro⟨s,b,i⟩ ⟨n,d,S,T,I⟩;subst S;unfold dS.ck;rw[bZ];constructor
 .intro h;have u:n<t.procs.l.length:=by grind
  refine(O8 G O B u I).mono ?_;rintro w ⟨s',b',U,rfl,C⟩;exact⟨⟨n+1,U,rfl,by omega,C⟩,by simp;omega⟩
 .intro _;obtain⟨rfl,z,W,D⟩:=I;rw[aZ];show Wp (bq b _ _) _;rw[bZ];refine⟨λX=>(aZ _).2 ⟨⟨d,rfl,z⟩,?_⟩,λ_=>(aZ _).2 ?_⟩
  .show kU t-sI (.row (nI d))<kU t-sI (.row (nI A));rw[DW,DW];have:=D X;have:=z.sum;omega
  .refine gU (λi:Int=>∃n:Nat,i=n/\n<=t.procs.l.length/\∀p,p<n->∀P,t.procs.l[p]? = some P->d[p]? = some P.events.l.length) (λi:Int=>t.procs.l.length-i.toNat) ⟨0,rfl,Nat.zero_le _,λp J=>absurd J (by omega)⟩ ?_
   rintro i ⟨n,rfl,Y,Z⟩;unfold dS.oR;rw[bZ];constructor
   .intro h;have u:n<t.procs.l.length:=by grind
    have nr:n<d.length:=by rw[z.len];omega
    have hg:=ζd nr;rw[AL nr,ζb,xI hg,ζb,bK u,ζb,bZ];refine⟨λ_=>(aZ _).2 ((aZ _).2 λh=>by cases h),λh=>(aZ _).2 ⟨⟨n+1,cC n (by omega),by omega,λp J P B=>?_⟩,by rw[cC n (by omega)];simp;omega⟩⟩
    by_cases e:p=n
    .subst e;rw[ζd u]at B;have:=z.le p _ _ hg (ζd u)
     grind
    grind
   .intro h;have aa:t.procs.l.length<=n:=by grind
    refine(aZ _).2 ((aZ _).2 λ_ ⟨x,L⟩=>?_)
    obtain⟨p,k,e,⟨P,B,he⟩,rfl,_⟩:=L.l.at_;have ab:=(ζe.1 B).1;exact QV (z.acc p _ k (Z p (by omega) P B) (ζe.1 he).1) L
end Go.VE
namespace Go.VE
def o9 (out:List (List Bool)) (y:aY):Bool:=match out[y.proc.toNat]? with
 | some row=>row[y.index.toNat]?.getD false
 | none=>false
theorem ya {t:Trace} {out:List (List Bool)} {p k:Nat} {row:List Bool} (hr:out[p]? = some row) (hk:k+1<row.length) {z:aY} (B:Vd t z) :
 o9 (out.set p (row.set (k+1) true)) z=(decide (z=⟨p,k+1⟩)||o9 out z):=by
 obtain⟨q,j,e,_,rfl,_⟩:=B.at_;have A:=(ζe.1 hr).1;unfold o9;have e1:(⟨(q:Int),(j:Int)+1⟩:aY).proc.toNat=q:=rfl;have e2:(⟨(q:Int),(j:Int)+1⟩:aY).index.toNat=j+1:=by show ((j:Int)+1).toNat=j+1;omega
 rw[e1,e2,List.getElem?_set]
 by_cases u:p=q
 .subst u;rw[if_pos rfl,if_pos A,hr];dsimp only;rw[List.getElem?_set]
  by_cases w:k=j
  .subst w;simp[hk]
  .rw[if_neg (by omega),show decide ((⟨(p:Int),(j:Int)+1⟩:aY)=⟨p,k+1⟩)=false from by simp;omega,Bool.false_or]
 .rw[if_neg u,show decide ((⟨(q:Int),(j:Int)+1⟩:aY)=⟨p,k+1⟩)=false from by simp;omega,Bool.false_or]
theorem yp {α:Type} {f g:α->Bool}:∀{l:List α},(∀z∈l,f z=true->g z=true)->(∃z∈l,f z=false/\g z=true)->l.countP f<l.countP g
 | [],_,⟨z,hz,_⟩=>by simp at hz
 | a::l,h,⟨z,hz,B,hg⟩=>by
  simp only[List.countP_cons];have D:=List.countP_mono_left (l:=l) (p:=f) (q:=g) λx t=>h x (List.mem_cons_of_mem _ t)
  rcases List.mem_cons.1 hz with rfl|hz
  .simp[B,hg];omega
  .have:=yp (l:=l) (λx t=>h x (List.mem_cons_of_mem _ t)) ⟨z,hz,B,hg⟩
   have h1:=h a (List.mem_cons_self ..)
   cases u:f a with
   | true=>simp[h1 u];omega
   | false=>simp;split <;> omega
def cnt (t:Trace) (out:List (List Bool)):Nat:=(bQ t).countP λz=>o9 out z.1
structure To (t:Trace) (x:aY) (out:List (List Bool)) (rest:List aY):Prop where
 shp:∀(p:Nat) P,t.procs.l[p]? = some P->∃row,out[p]? = some row/\row.length=P.events.l.length+1
 len:out.length=t.procs.l.length
 que:∀y∈rest,Way t y x
 snd:∀y,Vd t y->o9 out y=true->Way t y x
 cls:∀z,z=x\/Vd t z/\o9 out z=true->∀y,Edge t y z->o9 out y=true\/y∈rest
 le:rest.length<=2*cnt t out+2
theorem zP {t:Trace} {y:aY}:o9 (fN t) y=false:=by
 unfold o9 fN;split
 .rename_i row h;rw[List.getElem?_map]at h
  cases u:t.procs.l[y.proc.toNat]? with
  | none=>simp[u]at h
  | some P=>
   simp[u]at h;subst h;rw[List.getElem?_replicate];split <;> rfl
 .rfl
theorem P0 {t:Trace} (W:Small t) (hN:(bQ t).length<1073741824) (hF:∀x∈bQ t,jO t.procs.l.length x.1.proc x.2) (J:vJ t) {x:aY} (hx:Vd t x) :
 Wp (lQ t x) λs=>∃out,s=nested out/\To t x out []/\∀y,Vd t y->(o9 out y=true↔Way t y x):=by
 unfold lQ;rw[if_pos (by
  unfold xD;simp only[ζh,List.all_eq_true,decide_eq_true_eq];exact⟨by have:=W.1;omega,λP J=>by have:=(W.2 P J).1;omega⟩),eD]
 refine(zW W hF J hx).mono λs X=>?_
 refine gU (λq:List (List Bool)×List aY=>To t x q.1 q.2) (λq=>2*((bQ t).length-cnt t q.1)+q.2.length) ⟨λp P J=>⟨List.replicate (P.events.l.length+1) false,by simp[fN,J],by simp⟩,by simp[fN],λy B=>.single ((X.2 y).1 B),λy _ h=>(by rw[zP]at h;cases h),λz hz y B=>?_,by have:=X.1;show s.l.length<=2*cnt t (fN t)+2;omega⟩ ?_
 .rcases hz with rfl|⟨_,h⟩
  .exact .inr ((X.2 y).2 B)
  .rw[zP]at h;cases h
 rintro⟨out,rest⟩ u
 cases rest with
 | nil=>
  show Wp (some _) _;refine(aZ _).2 ((aZ _).2 ⟨out,rfl,u,λy B=>⟨u.snd y B,λC=>?_⟩⟩)
  have key:∀w,Way t y w->w=x\/Vd t w/\o9 out w=true->o9 out y=true:=λw C=>by
   induction C with
   | single h=>exact λC=>(u.cls _ C _ h).elim id λh=>by cases h
   | tail ad I ih=>exact λC=>ih (.inr ⟨I.1,(u.cls _ C _ I).elim id λh=>by cases h⟩)
  exact key x C (.inl rfl)
 | cons y rest=>
  have D:=u.que y (List.mem_cons_self ..);have G:=D.l;obtain⟨p,k,e,Y,rfl,L⟩:=G.at_;obtain⟨P,O,hk⟩:=Y;have ae:=(ζe.1 hk).1;obtain⟨row,hr,Z⟩:=u.shp p P O;have A:k+1<row.length:=by omega
  show Wp (mV _ (out,⟨p,k+1⟩::rest)) _;unfold mV;have e2:((k:Int)+1).toNat=k+1:=by omega
  dsimp only;rw[if_pos ⟨by omega,by omega⟩,show ((p:Nat):Int).toNat=p from rfl,e2,hr,ζb,ζd A,ζb,bZ]
  have S:o9 out ⟨p,k+1⟩=row[k+1]:=by
   unfold o9;rw[show ((⟨(p:Int),(k:Int)+1⟩:aY).proc).toNat=p from rfl,hr];dsimp only;rw[e2,ζd A];rfl
  constructor
  .intro hb;rw[aZ];refine⟨⟨u.shp,u.len,λy B=>u.que y (List.mem_cons_of_mem _ B),u.snd,λz hz y B=>?_,by have:=u.le;simp only[List.length_cons]at this;show rest.length<=2*cnt t out+2;omega⟩,Nat.add_lt_add_left (Nat.lt_succ_self _) _⟩
   rcases u.cls z hz y B with h|h
   .exact .inl h
   .rcases List.mem_cons.1 h with rfl|h
    .exact .inl (by rw[S];exact hb)
    .exact .inr h
  .intro hb;rw[eD];refine(zW W hF J G).mono λmore hm=>?_
   have aa:=u.le;simp only[List.length_cons]at aa;have af:cnt t out<=(bQ t).length:=List.countP_le_length;have ah:=hm.1;have ai:cnt t out<cnt t (out.set p (row.set (k+1) true)):=yp (λz hz h=>by rw[ya hr A ⟨_,hz⟩,h,Bool.or_true]) ⟨_,L,by rw[S,hb],by rw[ya hr A G];simp⟩
   have ab:cnt t (out.set p (row.set (k+1) true))<=(bQ t).length:=List.countP_le_length;rw[if_pos (by omega),aZ]
   refine⟨⟨λq Q hQ=>?_,by show (out.set _ _).length=_;rw[List.length_set];exact u.len,λz hz=>?_,λz hz h=>?_,λz hz y B=>?_,by show (rest++more.l).length<=_;rw[ζi];show _<=2*cnt t (out.set p (row.set (k+1) true))+2;omega⟩,?_⟩
   .show ∃r,(out.set p (row.set (k+1) true))[q]? = some r/\_;rw[List.getElem?_set];split
    .rename_i e;subst e;rw[if_pos (ζe.1 hr).1];rw[O]at hQ;cases hQ;exact⟨_,rfl,by simp[Z]⟩
    .exact u.shp q Q hQ
   .rcases List.mem_append.1 hz with hz|hz
    .exact u.que z (List.mem_cons_of_mem _ hz)
    .exact .trans (.single ((hm.2 z).1 hz)) D
   .show Way t z x;have h:o9 (out.set p (row.set (k+1) true)) z=true:=h;rw[ya hr A hz]at h;simp only[Bool.or_eq_true,decide_eq_true_eq]at h;rcases h with rfl|h
    .exact D
    .exact u.snd z hz h
   .show o9 (out.set p (row.set (k+1) true)) y=true\/y∈rest++more.l;rw[ya hr A B.1];have T:z=x\/Vd t z/\o9 out z=true->(decide (y=⟨p,k+1⟩)||o9 out y)=true\/y∈rest++more.l:=λhz=>by
     rcases u.cls z hz y B with h|h
     .exact .inl (by rw[show o9 out y=true from h,Bool.or_true])
     .rcases List.mem_cons.1 h with rfl|h
      .exact .inl (by simp)
      .exact .inr (List.mem_append_left _ h)
    rcases hz with hz|⟨U,hz⟩
    .exact T (.inl hz)
    .have hz:o9 (out.set p (row.set (k+1) true)) z=true:=hz;rw[ya hr A U]at hz;simp only[Bool.or_eq_true,decide_eq_true_eq]at hz;rcases hz with rfl|hz
     .exact .inr (List.mem_append_right _ ((hm.2 y).2 B))
     .exact T (.inr ⟨U,hz⟩)
   .show 2*((bQ t).length-cnt t (out.set p (row.set (k+1) true)))+(rest++more.l).length<2*((bQ t).length-cnt t out)+(_::rest).length;rw[ζi,List.length_cons];omega
theorem SJ {t:Trace} (D:Small t) (Y:(bQ t).length<1073741824) (hF:∀x∈bQ t,jO t.procs.l.length x.1.proc x.2) (G:vJ t):Wp (cI.W6 0 t ⟨0,0⟩) λr=>(r.2=0↔¬GY t):=by
 have hn:=D.1;unfold cI.W6;refine gU (λi:Int=>∃n:Nat,i=n/\n<=t.procs.l.length/\∀(p k:Nat) e,p<n->lE t p k e->¬Way t ⟨p,k+1⟩ ⟨p,k+1⟩) (λi:Int=>t.procs.l.length-i.toNat) ⟨0,rfl,Nat.zero_le _,λp k e T=>absurd T (by omega)⟩ ?_
 rintro i ⟨n,rfl,Z,U⟩;unfold cI.G_;rw[bZ];constructor
 .intro h;have w:n<t.procs.l.length:=by simpa [len]using h
  have I:=bK w;have z:=ζd w;have aa:=(D.2 _ (List.getElem_mem w)).1;generalize t.procs.l[n]=P at *;unfold cI.W7;refine gU (λi:Int=>∃m:Nat,i=m/\m<=P.events.l.length/\∀k,k<m->¬Way t ⟨n,k+1⟩ ⟨n,k+1⟩) (λi:Int=>P.events.l.length-i.toNat) ⟨0,rfl,Nat.zero_le _,λk hk=>absurd hk (by omega)⟩ ?_
  rintro i ⟨m,rfl,hm,hk⟩;unfold cI.Hu;rw[I,ζb,bZ];constructor
  .intro h;have J:m<P.events.l.length:=by simpa [len]using h
   have L:=cC m (by omega)
   have hv:Vd t ⟨n,m+1⟩:=⟨P.events.l[m],dY.2 ⟨n,m,⟨P,z,ζd J⟩,rfl⟩⟩;rw[L,show (((m+1:Nat)):Int)=(m:Int)+1 from by simp,eD]
   refine(P0 D Y hF G hv).mono ?_;rintro s ⟨out,rfl,hI,A⟩;obtain⟨row,hr,ab⟩:=hI.shp n P z;have O:out≠[]:=by rintro rfl;cases hr
   have B:m+1<row.length:=by omega
   have h1:idx (nested out) (n:Int)=some (.row row):=by
    unfold nested;rw[if_neg O,lH];show (out.map Sl.row)[n]? = _;rw[List.getElem?_map,hr];rfl
   have h2:idx (Sl.row row) ((m:Int)+1)=some row[m+1]:=by
    rw[show (m:Int)+1=((m+1:Nat):Int)from by simp]
    exact bK (s:=Sl.row row) B
   rw[h1,ζb,h2,ζb,bZ];have hb:row[m+1]=o9 out ⟨n,m+1⟩:=by
    unfold o9;rw[show ((⟨(n:Int),(m:Int)+1⟩:aY).proc).toNat=n from rfl,hr];dsimp only;rw[show ((m:Int)+1).toNat=m+1 from by omega,ζd B];rfl
   rw[hb];refine⟨λC=>(aZ _).2 ((aZ _).2 ((aZ _).2 ⟨λh=>(by cases h),λh=>absurd ⟨_,(A _ hv).1 C⟩ h⟩)),λC=>(aZ _).2 ⟨⟨m+1,by simp,by omega,λk ad=>?_⟩,by simp;omega⟩⟩
   by_cases e:k=m
   .subst e;exact λL=>by rw[(A _ hv).2 L]at C;cases C
   .exact hk k (by omega)
  .intro h;have S:P.events.l.length<=m:=by simpa [len]using h
   refine(aZ _).2 ((aZ _).2 ⟨⟨n+1,cC n (by omega),by omega,λp k e T u=>?_⟩,by rw[cC n (by omega)];simp;omega⟩)
   by_cases e:p=n
   .subst e;obtain⟨Q,W,he⟩:=u;rw[z]at W;cases W;have:=(ζe.1 he).1;exact hk k (by omega)
   .exact U p k _ (by omega) u
 .intro h;have S:t.procs.l.length<=n:=by simpa [len]using h
  refine(aZ _).2 ((aZ _).2 ⟨λ_ ⟨x,X⟩=>?_,λ_=>rfl⟩)
  obtain⟨p,k,e,u,rfl,_⟩:=X.l.at_;obtain⟨P,G,_⟩:=id u;exact U p k e (by have:=(ζe.1 G).1;omega) u X
end Go.VE
namespace Go.VE
theorem FF {t:Trace} (B:∀x∈bQ t,jO t.procs.l.length x.1.proc x.2):(∀(p k:Nat) e,lE t p k e->tn t (⟨p,k+1⟩,e)=0)↔vJ t:=
 Iff.trans ⟨λh x w=>by obtain⟨p,k,h1,u⟩:=dY.1 w;obtain⟨a,e⟩:=x;simp only at h1 u;rw[u];exact h p k e h1,λh p k e z=>h _ (dY.2 ⟨p,k,z,rfl⟩)⟩ (I4 B)
theorem J9 {t:Trace} (J:Small t) (hN:(bQ t).length<1073741824):Wp (cI t) λr=>(r.2=0↔Ok t):=by
 have hn:=J.1;unfold cI;rw[iV,ζb,bZ];refine⟨λO=>(aZ _).2 ⟨λh=>(by cases h),λh=>?_⟩,λO=>?_⟩
 .have h1:=h.one;have h8:=h.few;simp only[Bool.or_eq_true,decide_eq_true_eq,len]at O;omega
 have h8:1<=t.procs.l.length/\t.procs.l.length<=8:=by
  simp only[Bool.or_eq_false_iff,decide_eq_false_iff_not,len]at O;omega
 unfold cI.W1;refine gU (λi:Int=>∃n:Nat,i=n/\n<=t.procs.l.length/\∀p,p<n->qA t p=0) (λi:Int=>t.procs.l.length-i.toNat) ⟨0,rfl,Nat.zero_le _,λp D=>absurd D (by omega)⟩ ?_
 rintro i ⟨n,rfl,ad,hh⟩;unfold cI.br;rw[bZ];constructor
 .intro h;have w:n<t.procs.l.length:=by simpa [len]using h
  rw[Nl J w,ζb,bZ];refine⟨λh0=>(aZ _).2 ⟨⟨n+1,cC n (by omega),by omega,λp D=>?_⟩,by rw[cC n (by omega)];simp;omega⟩,λh0=>(aZ _).2 ((aZ _).2 ⟨λh=>?_,λh=>?_⟩)⟩
  .by_cases e:p=n
   .subst e;simpa using h0
   .exact hh p (by omega)
  .simp only at h;simp[h]at h0
  .simp[h.heads n w]at h0
 intro h;have ae:t.procs.l.length<=n:=by simpa [len]using h
 rw[aZ];unfold cI.W2;refine gU (λi:Int=>∃n:Nat,i=n/\n<=t.procs.l.length/\∀(p k:Nat) P e,p<n->t.procs.l[p]? = some P->P.events.l[k]? = some e->nZ t.procs.l.length P p k e=0) (λi:Int=>t.procs.l.length-i.toNat) ⟨0,rfl,Nat.zero_le _,λp k P e D=>absurd D (by omega)⟩ ?_
 rintro i ⟨G,rfl,ab,W⟩;unfold cI.ck;rw[bZ];constructor
 .intro h;have w:G<t.procs.l.length:=by simpa [len]using h
  have C:=bK w;have A:=ζd w;have S:=(J.2 _ (List.getElem_mem w)).1;generalize t.procs.l[G]=P at C A S;unfold cI.W3;refine gU (λi:Int=>∃m:Nat,i=m/\m<=P.events.l.length/\∀(k:Nat) e,k<m->P.events.l[k]? = some e->nZ t.procs.l.length P G k e=0) (λi:Int=>P.events.l.length-i.toNat) ⟨0,rfl,Nat.zero_le _,λk e hk=>absurd hk (by omega)⟩ ?_
  rintro i ⟨m,rfl,hm,hk⟩;unfold cI.dM;rw[C,ζb,bZ];constructor
  .intro h;have T:m<P.events.l.length:=by simpa [len]using h
   have B:=ζd T;have hw:=cC m (by omega)
   rw[LS J A B,ζb,bZ];refine⟨λh0=>(aZ _).2 ⟨⟨m+1,hw,by omega,λk e aa u=>?_⟩,by rw[hw];simp;omega⟩,λh0=>(aZ _).2 ((aZ _).2 ((aZ _).2 ⟨λh=>?_,λh=>?_⟩))⟩
   .by_cases ek:k=m
    .subst ek;rw[B]at u;cases u;simpa using h0
    .exact hk k e (by omega) u
   .simp only at h;simp[h]at h0
   .simp[h.eY G m P _ A B]at h0
  .intro h;have I:P.events.l.length<=m:=by simpa [len]using h
   refine(aZ _).2 ((aZ _).2 ⟨⟨G+1,cC G (by omega),by omega,λp k Q e D U u=>?_⟩,by rw[cC G (by omega)];simp;omega⟩)
   by_cases ep:p=G
   .subst ep;rw[A]at U;cases U;exact hk k e (by have:=(ζe.1 u).1;omega) u
   .exact W p k Q e (by omega) U u
 intro h;have I:t.procs.l.length<=G:=by simpa [len]using h
 have W:∀(p k:Nat) P e,t.procs.l[p]? = some P->P.events.l[k]? = some e->nZ t.procs.l.length P p k e=0:=λp k P e L hk=>W p k P e (by have:=(ζe.1 L).1;omega) L hk
 have X:=Du W;rw[aZ];unfold cI.W4;refine gU (λi:Int=>∃n:Nat,i=n/\n<=t.procs.l.length/\∀(p k:Nat) e,p<n->lE t p k e->tn t (⟨p,k+1⟩,e)=0) (λi:Int=>t.procs.l.length-i.toNat) ⟨0,rfl,Nat.zero_le _,λp k e D=>absurd D (by omega)⟩ ?_
 rintro i ⟨q,rfl,hq,Y⟩;unfold cI.nF;rw[bZ];constructor
 .intro h;have w:q<t.procs.l.length:=by simpa [len]using h
  have C:=bK w;have A:=ζd w;have S:=(J.2 _ (List.getElem_mem w)).1;generalize t.procs.l[q]=P at C A S;unfold cI.W5;refine gU (λi:Int=>∃m:Nat,i=m/\m<=P.events.l.length/\∀(k:Nat) e,k<m->P.events.l[k]? = some e->tn t (⟨q,k+1⟩,e)=0) (λi:Int=>P.events.l.length-i.toNat) ⟨0,rfl,Nat.zero_le _,λk e hk=>absurd hk (by omega)⟩ ?_
  rintro i ⟨m,rfl,hm,hk⟩;unfold cI.oR;rw[C,ζb,bZ];constructor
  .intro h;have T:m<P.events.l.length:=by simpa [len]using h
   have B:=ζd T;have hw:=cC m (by omega)
   have z:lE t q m P.events.l[m]:=⟨P,A,B⟩;rw[hw,show (((m+1:Nat)):Int)=(m:Int)+1 from by simp,Ki J z (X (⟨q,m+1⟩,P.events.l[m]) (dY.2 ⟨q,m,z,rfl⟩)),ζb,bZ]
   refine⟨λh0=>(aZ _).2 ⟨⟨m+1,by simp,by omega,λk e aa u=>?_⟩,by simp;omega⟩,λh0=>(aZ _).2 ((aZ _).2 ((aZ _).2 ⟨λh=>?_,λh=>?_⟩))⟩
   .by_cases ek:k=m
    .subst ek;rw[B]at u;cases u;simpa using h0
    .exact hk k e (by omega) u
   .simp only at h;simp[h]at h0
   .simp[(FF X).2 h.KZ q m _ z]at h0
  .intro h;have I:P.events.l.length<=m:=by simpa [len]using h
   refine(aZ _).2 ((aZ _).2 ⟨⟨q+1,cC q (by omega),by omega,λp k e D z=>?_⟩,by rw[cC q (by omega)];simp;omega⟩)
   by_cases ep:p=q
   .subst ep;obtain⟨Q,U,u⟩:=z;rw[A]at U;cases U;exact hk k e (by have:=(ζe.1 u).1;omega) u
   .exact Y p k e (by omega) z
 intro h;have af:t.procs.l.length<=q:=by simpa [len]using h
 have L:vJ t:=(FF X).1 λp k e z=>Y p k e (by obtain⟨P,L,_⟩:=z;have:=(ζe.1 L).1;omega) z
 have Z:¬GY t↔Ok t:=⟨λh=>⟨h8.1,h8.2,λp D=>hh p (by omega),W,L,h⟩,λh=>h.acyc⟩
 rw[aZ,eD];refine(Jj J X L).mono λb hb=>?_
 rw[bZ];exact⟨λh=>(aZ _).2 ⟨λ_=>Z.1 (hb h),λ_=>rfl⟩,λ_=>(SJ J hN X L).mono λr hr=>hr.trans Z⟩
theorem Km {t:Trace} (B:Small t) (D:(bQ t).length<1073741824):∃b,iU t=some b/\oH t=some b/\(b=true->VT t):=by
 obtain⟨b,u,h1,w⟩:=Nx B D;refine⟨b,u,?_,h1⟩;unfold oH;obtain⟨r,hr,z⟩:=J9 B D;rw[hr,ζb]
 congr 1
 rw[Bool.eq_iff_iff,beq_iff_eq,z];exact⟨w,λh=>(h1 h).ok⟩
end Go.VE
namespace Go.VE
theorem MZ {t:Trace} (W:Small t) {c:Sl Int} (D:c.l.length=t.procs.l.length) {step:Int->Option (Fw Int Unit Unit)}
 (Y:∀i,step i=bq (decide (i<(len c))) ((idx c i).bind λG=>(bq (decide (G<0)) (some true) ((idx c i).bind λJ=>(idx t.procs i).bind λO=>some (decide (J>(len O.events)))):Option Bool).bind λU=>bq U (some (.r ())) (some (.n (IntKind.wrap .i64 (i+1))))) (some (.x ()))) :
 Wp ((bO step 0).bind (Fw.elim (λ_=>some true) (λ_=>some false))) λb=>(b=true↔rA t c.l):=by
 have h1:=W.1;refine gU (λs:Int=>∃n:Nat,s=n/\n<=c.l.length/\∀(p:Nat) (a:Int) (P:cm),p<n->c.l[p]? = some a->t.procs.l[p]? = some P->0<=a/\a<=P.events.l.length) (λs:Int=>c.l.length-s.toNat) ⟨0,rfl,Nat.zero_le _,λp a P h=>absurd h (by omega)⟩ ?_
 rintro s ⟨n,rfl,S,C⟩;rw[Y,bZ];constructor
 .intro h;have w:n<c.l.length:=by simpa [len]using h
  have u:n<t.procs.l.length:=by omega
  have I:=cC n (by omega)
  rw[bK w,ζb,ζb,bK u,ζb,iV,ζb,bZ];constructor
  .intro z;have z:c.l[n]<0\/c.l[n]>t.procs.l[n].events.l.length:=by simpa [len]using z
   refine(aZ _).2 ((aZ _).2 ⟨λh=>(by cases h),λL=>?_⟩)
   have:=L.2 n _ _ (ζd w) (ζd u);omega
  .intro z;have z:0<=c.l[n]/\c.l[n]<=t.procs.l[n].events.l.length:=by simpa [len]using z
   refine(aZ _).2 ⟨⟨n+1,I,by omega,λp a P T A B=>?_⟩,by rw[I];simp;omega⟩
   by_cases e:p=n
   .subst e;rw[ζd w]at A;cases A;rw[ζd u]at B;cases B;exact z
   .exact C p a P (by omega) A B
 .intro h;have Q:c.l.length<=n:=by simpa [len]using h
  refine(aZ _).2 ((aZ _).2 ⟨λ_=>⟨D,λp a P A B=>C p a P (by have:=(ζe.1 A).1;omega) A B⟩,λ_=>rfl⟩)
theorem Ql {t:Trace} (D:Small t) {c:Sl Int} (B:c.l.length=t.procs.l.length):Wp (lg t c) λb=>(b=true↔rA t c.l):=by
 unfold lg;rw[show (len c==len t.procs)=true from by simp[len,B],bS]
 exact MZ D B λi=>rfl
theorem DC {t:Trace} (D:VT t) {A:bP 200 bz} (G:gZ t (bQ t) A) {p k:Nat} {e:Event} (B:lE t p k e) (hk:e.kind=3):kQ t 2 e.message=(ag A e.message).from_:=by
 obtain⟨y,h1,u,w⟩:=yW D.formed D.ok.KZ (dY.2 ⟨p,k,B,rfl⟩:((⟨p,k+1⟩:aY),e)∈bQ t) hk;have:=G.snd _ h1 u;simp only[w]at this;exact this.symm
end Go.VE
namespace Go.VE
theorem eV {σ ε ρ γ:Type} {step:σ->Option (Fw σ ε ρ)} {B:ε->Option γ} {fr:ρ->Option γ} {P:γ->Prop} (n:Nat) (I:Nat->σ->Prop) {s:σ} (h0:I 0 s)
 (h:∀i s,i<n->I i s->Wp (step s) λw=>match w with|.n D=>I (i+1) D|.x e=>Wp (B e) P|.r b=>Wp (fr b) P)
 (G:∀s,I n s->Wp (step s) λw=>match w with|.n _=>False|.x e=>Wp (B e) P|.r b=>Wp (fr b) P):Wp ((bO step s).bind (Fw.elim B fr)) P:=by
 have key:∀m i s,i+m=n->I i s->Wp ((bO step s).bind (Fw.elim B fr)) P:=by
  intro m
  induction m with
  | zero=>
   intro i s z u;obtain⟨w,t,hr⟩:=G s (by grind)
   rw[iA,t]
   cases w with
   | n D=>grind
   | x e=>exact hr
   | r b=>exact hr
  | succ m A=>
   intro i s z u;obtain⟨w,t,hr⟩:=h i s (by omega) u
   rw[iA,t]
   cases w with
   | n D=>grind
   | x e=>exact hr
   | r b=>exact hr
 exact key n 0 s (Nat.zero_add n) h0
def bump (c:List Int) (p:Nat) (d:Int):List Int:=c.set p ((c[p]?).getD 0+d)
theorem tZ:∀{c:List Int} {p:Nat} {a b:Int},c[p]? = some a->(c.set p b).sum=c.sum-a+b
 | [],_,_,_,h=>by simp_all
 | x::c,0,a,b,h=>by grind
 | x::c,p+1,a,b,h=>by
  have:=tZ   (b:=b) (by simpa using h)
  grind
theorem oP:∀{c:List Int},(∀(p:Nat) a,c[p]? = some a->0<=a)->0<=c.sum
 | [],_=>by simp
 | x::c,h=>by
  have h1:=h 0 x rfl;have t:=oP (c:=c) λp a u=>h (p+1) a (by grind)
  grind
theorem Ga:∀{c:List Int},(∀(p:Nat) a,c[p]? = some a->0<=a)->c.sum=0->∀(p:Nat) a,c[p]? = some a->a=0
 | [],_,_,p,a,B=>by simp_all
 | x::c,h,D,p,a,B=>by
  have h1:=h 0 x rfl;have hc:∀(p:Nat) a,c[p]? = some a->0<=a:=λp a B=>h (p+1) a (by grind)
  have t:=oP hc;simp  at D
  cases p with
  | zero=>grind
  | succ p=>exact Ga hc (by omega) p a (by grind)
theorem Ht:∀{c:List Int} {l:List Nat},c.length=l.length->(∀(i:Nat) a b,c[i]? = some a->l[i]? = some b->a<=(b:Nat))->c.sum<=(l.sum:Nat)
 | [],[],_,_=>by simp
 | x::c,y::l,B,h=>by
  have h1:=h 0 x y rfl rfl;have t:=Ht (c:=c) (l:=l) (by grind) λi a b u w=>h (i+1) a b (by grind) (by grind)
  grind
section
variable {t:Trace} {A:bP 200 bz} {c:List Int}
theorem rA.pos (h:rA t c) (p:Nat) (a:Int) (B:c[p]? = some a):0<=a:=
 (h.2 p a _ B (ζd (by have:=(ζe.1 B).1;rw[<-h.1];simp_all))).1
theorem rA.at_ (h:rA t c) {p:Nat} (B:p<t.procs.l.length):∃a,c[p]? = some a:=⟨_,ζd (by rw[h.1];omega)⟩
theorem rA.sum (h:rA t c):0<=c.sum/\c.sum<=(kU t:Nat):=
 ⟨oP h.pos,Ht (by simp[h.1]) λi a b z u=>by
  cases w:t.procs.l[i]? with
  | none=>grind
  | some P=>simp[w]at u;rw[<-u];exact(h.2 i a P z w).2⟩
theorem rA.set (h:rA t c) {p:Nat} {b:Int} {P:cm} (B:t.procs.l[p]? = some P) (h0:0<=b) (h1:b<=P.events.l.length):rA t (c.set p b):=by
 refine⟨by simp[h.1],λq a Q u w=>?_⟩
 rw[List.getElem?_set]at u;split at u
 .grind
 .exact h.2 q a Q u w
def Ju (t:Trace) (A:bP 200 bz) (c:List Int) (p:Nat):Prop:=∃P e a,t.procs.l[p]? = some P/\c[p]? = some a/\P.events.l[a.toNat]? = some e/\(e.kind=3->∃b,c[(ag A e.message).from_.proc.toNat]? = some b/\(ag A e.message).from_.index<=b)
theorem lE.one {p k:Nat} {e f:Event} (h:lE t p k e) (g:lE t p k f):e=f:=by
 obtain⟨P,a1,u⟩:=h;obtain⟨Q,w,z⟩:=g
 grind
theorem qC.le (h:qC t A c) {p:Nat} {a b:Int} (G:c[p]? = some a) (J:a<=b) (O:∀(k:Nat) e,lE t p k e->a<=k->(k:Int)<b->e.kind=3->∃B,(c.set p b)[(ag A e.message).from_.proc.toNat]? = some B/\(ag A e.message).from_.index<=B):qC t A (c.set p b):=by
 have L:=(ζe.1 G).1;have up:∀(q:Nat) x,c[q]? = some x->∃y,(c.set p b)[q]? = some y/\x<=y:=λq x u=>by
  rw[List.getElem?_set]
  grind
 intro q k e x w u hk I;rw[List.getElem?_set]at u;have C:∀x,c[q]? = some x->k<x->∃B,(c.set p b)[(ag A e.message).from_.proc.toNat]? = some B/\(ag A e.message).from_.index<=B:=λx u hk=>by
  obtain⟨y,Q,S⟩:=h q k e x w u hk I;obtain⟨z,T,U⟩:=up _ y Q;exact⟨z,T,by omega⟩
 split at u
 .rename_i W;subst W;simp[L]at u;subst u
  by_cases D:k<a
  .exact C a G D
  .exact O k e w (by omega) hk I
 grind
theorem tR (D:VT t) (J:gZ t (bQ t) A) {p k:Nat} {e:Event} (B:lE t p k e) (G:e.kind=3):∃q j:Nat,(ag A e.message).from_=⟨q,j+1⟩/\q≠p/\Fy t ⟨q,j+1⟩ ⟨p,k+1⟩/\∃y,lE t q j y:=by
 obtain⟨q,j,y,u,z,C,y3,y4,y5⟩:=FJ D J B G;have w:(⟨p,k+1⟩,e)∈bQ t:=dY.2 ⟨p,k,B,rfl⟩;refine⟨q,j,y5,?_,⟨y,e,dY.2 ⟨q,j,u,rfl⟩,w,z,G,C⟩,y,u⟩;rcases D.formed _ w with h|⟨_,_,_,h,_⟩
 .grind
 grind
theorem Cons.up (O:VT t) (U:gZ t (bQ t) A) (G:Cons t A c) {p:Nat} {a:Int} {P:cm} (B:t.procs.l[p]? = some P) (D:c[p]? = some a) (Y:a<P.events.l.length):Ju t A c p↔Cons t A (c.set p (a+1)):=by
 have h0:=G.1.pos p a D;have Z:=(ζe.1 D).1;constructor
 .rintro⟨Q,e,x,I,J,S,w⟩;rw[B]at I;cases I;rw[D]at J;cases J;refine⟨G.1.set B (by omega) (by omega),G.2.le D (by omega) λk f z T W hf=>?_⟩
  have C:k=a.toNat:=by omega
  subst C;cases z.one ⟨P,B,S⟩
  grind
 .intro h;have u:a.toNat<P.events.l.length:=by omega
  refine⟨P,P.events.l[a.toNat],a,B,D,ζd u,λw=>?_⟩
  obtain⟨b,L,X⟩:=h.2 p a.toNat _ (a+1) ⟨P,B,ζd u⟩ (by simp_all) (by omega) w
  rw[List.getElem?_set]at L;split at L
  .obtain⟨q,j,f1,f2,_⟩:=tR O U ⟨P,B,ζd u⟩ w
   grind
  grind
noncomputable def EB (t:Trace) (x:aY):Nat:=by
 classical
 exact(bQ t).countP λz=>decide (Way t z.1 x)
theorem HB (B:VT t) {x y:aY} (h:Way t x y):EB t x<EB t y:=by
 classical
 refine yp (λz _ u=>?_) ?_
 .have u:Way t z.1 x:=by grind
  simpa using u.trans h
 .obtain⟨e,w⟩:=h.l;exact⟨(x,e),w,by simpa using λk=>B.ok.acyc ⟨x,k⟩,by grind⟩
theorem PG (x:aY):EB t x<=(bQ t).length:=by
 classical
 unfold EB;grind
theorem Vd.of {p k:Nat} {e:Event} (h:lE t p k e):Vd t ⟨p,k+1⟩:=⟨e,dY.2 ⟨p,k,h,rfl⟩⟩
theorem Fu {p:Nat} {P:cm} (B:t.procs.l[p]? = some P):∀(d k:Nat),k+d+1<P.events.l.length->Way t ⟨p,k+1⟩ ⟨p,((k+d+1:Nat):Int)+1⟩
 | 0,k,h=>.single ⟨Vd.of ⟨P,B,ζd (by omega)⟩,Vd.of ⟨P,B,ζd h⟩,.inl (by simp)⟩
 | d+1,k,h=>(Fu B d k (by omega)).tail ⟨Vd.of ⟨P,B,ζd (show k+d+1<_ by omega)⟩,Vd.of ⟨P,B,ζd h⟩,.inl (by simp;omega)⟩
theorem RT {q k:Nat} {b:Int} {Q:cm} {x:aY} (B:t.procs.l[q]? = some Q) (h:Way t x ⟨q,k+1⟩) (h1:(k:Int)<b) (D:b<=Q.events.l.length):Way t x ⟨q,b⟩:=by
 by_cases e:b=k+1
 .grind
 .have:=Fu B (b.toNat-k-2) k (by omega)
  rw[show ((k+(b.toNat-k-2)+1:Nat)+1)=b from by omega]at this
  exact h.trans this
theorem Cons.Hz (hV:VT t) (hM:gZ t (bQ t) A) (B:Cons t A c) {p:Nat} {a:Int} (G:c[p]? = some a) (h0:0<a):Cons t A (c.set p (a-1))\/∃(q:Nat) (b:Int),c[q]? = some b/\0<b/\Way t ⟨p,a⟩ ⟨q,b⟩:=by
 have Z:=(ζe.1 G).1;have O:=ζd (show p<t.procs.l.length by rw[<-B.1.1];omega)
 have hr:=B.1.2 p a _ G O;refine Classical.byContradiction λC=>C (.inl ⟨B.1.set O (by omega) (by omega),λq k e x u J hk S=>?_⟩)
 obtain⟨z,w,aa⟩:∃z,c[q]? = some z/\x<=z:=by
  rw[List.getElem?_set]at J;split at J
  .rename_i e2;subst e2;simp[Z]at J;exact⟨a,G,by omega⟩
  grind
 obtain⟨y,I,D⟩:=B.2 q k e z u w (by omega) S
 obtain⟨r,j,f1,f2,f3,_⟩:=tR hV hM u S;rw[f1]at I D ⊢;simp only[Int.toNat_natCast]at I D ⊢
 by_cases e2:p=r
 .subst e2;rw[G]at I;cases I;refine⟨a-1,by simp_all,?_⟩
  refine Classical.byContradiction λhj=>C (.inr ⟨q,z,w,by omega,?_⟩)
  have:a=j+1:=by omega
  subst this;obtain⟨Q,T,_⟩:=u;have L:=B.1.2 q z Q w T;obtain⟨U,W,X,Y,m3⟩:=f3;exact RT T (.single ⟨⟨U,X⟩,⟨W,Y⟩,.inr ⟨U,W,X,Y,m3⟩⟩) (by omega) L.2
 simp_all
theorem Cons.Sm (B:VT t) (D:gZ t (bQ t) A) (G:Cons t A c):∀(n p:Nat) (a:Int),c[p]? = some a->0<a->(bQ t).length-EB t ⟨p,a⟩<=n->∃(q:Nat) (b:Int),c[q]? = some b/\0<b/\Cons t A (c.set q (b-1)):=by
 intro n
 induction n with
 | zero=>
  intro p a u h0 C;rcases G.Hz B D u h0 with h|⟨q,b,_,_,w⟩
  .grind
  .have:=HB B w;have:=PG (t:=t) ⟨q,b⟩;omega
 | succ n I=>
  intro p a u h0 C;rcases G.Hz B D u h0 with h|⟨q,b,J,z,w⟩
  .grind
  .have:=HB B w;exact I q b J z (by omega)
theorem Cons.down (D:VT t) (G:gZ t (bQ t) A) (B:Cons t A c) (J:0<c.sum):∃(q:Nat) (b:Int),c[q]? = some b/\0<b/\Cons t A (c.set q (b-1)):=by
 obtain⟨p,a,u,h0⟩:∃(p:Nat) (a:Int),c[p]? = some a/\0<a:=by
  refine Classical.byContradiction λw=>?_
  have C:∀a∈c,a=0:=λa u=>by
   obtain⟨p,z⟩:=List.mem_iff_getElem?.1 u;have:=B.1.pos p a z
   grind
  have:c.sum=0:=by
   clear B J w
   induction c with
   | nil=>rfl
   | cons x c I=>simp_all
  omega
 exact B.Sm D G _ p a u h0 (Nat.le_refl _)
theorem Cons.CG (G:VT t) (J:gZ t (bQ t) A):∀(d:Nat) {c:List Int} {k:Nat},Cons t A c->c.sum=((k+d:Nat):Int)->∃c',Cons t A c'/\c'.sum=(k:Int)
 | 0,c,k,B,O=>⟨c,B,by grind⟩
 | d+1,c,k,B,O=>by
  obtain⟨q,b,U,W,D⟩:=B.down G J (by omega)
  exact Cons.CG G J d D (by rw[tZ U];omega)
end
end Go.VE
namespace Go.VE
theorem iT {α:Type} {s:Sl α} {n:Nat} (h:n<s.l.length):decide ((n:Int)<len s)=true:=by simp[len];omega
theorem iS {α:Type} {s:Sl α}:decide ((s.l.length:Int)<len s)=false:=by simp[len]
theorem v7 {α:Type} {s x:Sl α} (h:s.l.length+x.l.length<=2147483648):∃r,mq s x=some r/\r.l=s.l++x.l:=by
 unfold mq
 by_cases e:x.l=[]
 .rw[if_pos e];exact⟨s,rfl,by rw[e,List.append_nil]⟩
 .rw[if_neg e,if_pos h];exact⟨_,rfl,rfl⟩
theorem jS {α:Type} {s:Sl α} {x:α} (h:s.l.length<2147483648):∃r,fT s x=some r/\r.l=s.l++[x]:=by
 unfold fT;rw[if_pos (by omega)];exact⟨_,rfl,rfl⟩
theorem lF {α:Type} {s:Sl α} {p:Nat} (h:p<s.l.length):Sl.jf s (p:Int)=some p:=by
 unfold Sl.jf;rw[if_pos ⟨by omega,by simpa using h⟩];rfl
theorem put_eq {α:Type} {s:Sl α} {p:Nat} {x:α} (h:p<s.l.length):∃r,Sl.put s p x=some r/\r.l=s.l.set p x:=by
 unfold Sl.put;rw[if_pos h];exact⟨_,rfl,by cases s <;> first|rfl|(simp[Sl.l]at h)⟩
section
variable {t:Trace} {A:bP 200 bz}
def Ua (t:Trace) (A:bP 200 bz) (c:List Int) (n:Nat):Prop:=∀(p k:Nat) (e:Event) (a:Int),p<n->lE t p k e->c[p]? = some a->(k:Int)<a->e.kind=3->∃b,c[(ag A e.message).from_.proc.toNat]? = some b/\(ag A e.message).from_.index<=b
theorem Q5 (hS:Small t) (U:VT t) (hM:gZ t (bQ t) A) {c:Sl Int} (hR:rA t c.l):Wp (dA t c) λb=>(b=true↔qC t A c.l):=by
 have aa:=hR.1;have ab:=U.few;unfold dA dA.W1;refine eV c.l.length (λn s=>s=(n:Int)/\Ua t A c.l n) ⟨rfl,λp k e a h=>absurd h (by omega)⟩ ?_ ?_
 .rintro n _ B ⟨rfl,T⟩;unfold dA.br;rw[iT B,bS];have z:n<t.procs.l.length:=by omega
  have ad:=(hS.2 _ (List.getElem_mem z)).1;have C:=ζd z;have D:=ζd B;obtain⟨r1,r2⟩:=hR.2 n _ _ D C;have J:=bK B;generalize c.l[n]=a at *;generalize t.procs.l[n]=P at *;unfold dA.W2;refine eV a.toNat (λm s=>s=(m:Int)/\∀(k:Nat) (e:Event),k<m->lE t n k e->e.kind=3->∃b,c.l[(ag A e.message).from_.proc.toNat]? = some b/\(ag A e.message).from_.index<=b) ⟨rfl,λk e h=>absurd h (by omega)⟩ ?_ ?_
  .rintro m _ hm ⟨rfl,W⟩;unfold dA.ck;have L:m<P.events.l.length:=by omega
   have u:lE t n m P.events.l[m]:=⟨P,C,ζd L⟩;rw[J,ζb,show decide ((m:Int)<a)=true from by simp;omega,bS,lH,C,ζb,bK L,ζb,cC m (by omega)]
   generalize P.events.l[m]=e at *;have more:(e.kind=3->∃b,c.l[(ag A e.message).from_.proc.toNat]? = some b/\(ag A e.message).from_.index<=b)->∀(k:Nat) (e:Event),k<m+1->lE t n k e->e.kind=3->∃b,c.l[(ag A e.message).from_.proc.toNat]? = some b/\(ag A e.message).from_.index<=b:=λh k f hk Z w=>by
    by_cases ek:k=m
    .subst ek;cases u.one Z;exact h w
    .exact W k f (by omega) Z w
   rw[bZ];refine⟨λw=>?_,λw=>(aZ _).2 ⟨rfl,more λk=>by simp[k]at w⟩⟩
   have w:e.kind=3:=by simpa using w
   obtain⟨q,j,f1,_,_,y,Q,hQ,_⟩:=tR U hM u w;have G:q<c.l.length:=by have:=(ζe.1 hQ).1;omega
   rw[find_eq hS,DC U hM u w,ζb,f1];simp only;rw[bK G,ζb,bZ];refine⟨λX=>(aZ _).2 ((aZ _).2 ((aZ _).2 ⟨λh=>(by cases h),λhC=>?_⟩)),λY=>(aZ _).2 ⟨rfl,more λ_=>?_⟩⟩
   .obtain⟨b,O,S⟩:=hC n m e a u D (by omega) w
    rw[f1]at O S;simp only[Int.toNat_natCast,ζd G,ζa]at O S;simp only[decide_eq_true_eq]at X;omega
   .rw[f1];exact⟨c.l[q],by simp only[Int.toNat_natCast];exact ζd G,by simp at Y ⊢;omega⟩
  .rintro _ ⟨rfl,W⟩;unfold dA.ck;rw[J,ζb,show decide ((a.toNat:Int)<a)=false from by simp;omega,b_]
   refine(aZ _).2 ((aZ _).2 ⟨cC n (by omega),λp k e x hp u I hk w=>?_⟩)
   by_cases e2:p=n
   .subst e2;rw[D]at I;cases I;exact W k e (by omega) u w
   .exact T p k e x (by omega) u I hk w
 .rintro _ ⟨rfl,T⟩;unfold dA.br;rw[iS,b_];exact(aZ _).2 ((aZ _).2 ⟨λ_ p k e a u I=>T p k e a (ζe.1 I).1 u I,λ_=>rfl⟩)
theorem S7 (D:Small t) (G:VT t) (J:gZ t (bQ t) A) {c:Sl Int} (B:c.l.length=t.procs.l.length):Wp (uD t c) λb=>(b=true↔Cons t A c.l):=by
 unfold uD;rw[eD];refine(Ql D B).mono λb w=>?_
 rw[eD,bZ];constructor
 .intro h;have z:=w.1 h;rw[eD];refine(Q5 D G J z).mono λI u=>?_
  rw[aZ,aZ];exact u.trans ⟨λh=>⟨z,h⟩,λh=>h.2⟩
 .intro h;rw[aZ,aZ];exact⟨λh=>(by cases h),λC=>absurd (w.2 C.1) (by simp[h])⟩
theorem step_eq {c:Sl Int} {p:Nat} {a:Int} (B:c.l[p]? = some a) (D:c.l.length<=1073741824) (h0:0<=a) (h1:a<1073741824):∃d:Sl Int,pz c p=some d/\d.l=c.l.set p (a+1):=by
 have u:=(ζe.1 B).1;unfold pz;obtain⟨r,w,t⟩:=v7 (s:=Sl.row []) (x:=c) (show 0+c.l.length<=_ by omega)
 have t:r.l=c.l:=t;rw[w,ζb,lF (by rw[t];exact u),ζb]
 unfold Sl.get;rw[t,B,ζb,ζb,jU _ (by omega) (by omega)]
 obtain⟨d,z,A⟩:=put_eq (s:=r) (p:=p) (x:=a+1) (by rw[t];exact u)
 rw[z];exact⟨d,rfl,by rw[A,t]⟩
end
end Go.VE
namespace Go.VE
def ins (s:Sl (Sl Int)):List (List Int):=s.l.map Sl.l
theorem GL {α:Type} (s:Sl α) (i:Nat) (h:i<=s.l.length):∃x,fR s (some (i:Int)) none=some x/\x.l=s.l.drop i:=by
 unfold fR dD;simp only[Option.getD_some,Option.getD_none];rw[if_pos ⟨by omega,by omega,by omega⟩]
 exact⟨_,rfl,by cases s <;> simp[Sl.l]⟩
end Go.VE
namespace Go.VE
def Ak (t:Trace) (A:bP 200 bz) (c d:List Int):Prop:=∃(p:Nat) (a:Int),c[p]? = some a/\d=c.set p (a+1)/\Cons t A d
section
variable {t:Trace} {A:bP 200 bz}
theorem jP {s:Sl (Sl Int)} {d:List Int}:d∈ins s↔∃x∈s.l,x.l=d:=by unfold ins;exact List.mem_map
theorem Cl {r s:Sl (Sl Int)} {x:Sl Int} (h:r.l=s.l++[x]) {d:List Int}:d∈ins r↔d∈ins s\/d=x.l:=by
 unfold ins;rw[h];simp
theorem Qo (U:Small t) (W:VT t) (hM:gZ t (bQ t) A) {c:Sl Int} (Y:Cons t A c.l):Wp (iw t c) λr=>r.l.length<=8/\∀d,d∈ins r↔Ak t A c.l d:=by
 have J:=Y.1.1;have T:=W.few;unfold iw iw.W1;refine eV c.l.length (λn s=>s.2=(n:Int)/\s.1.l.length<=n/\∀d,d∈ins s.1↔∃(p:Nat) (a:Int),p<n/\c.l[p]? = some a/\d=c.l.set p (a+1)/\Cons t A d) ⟨rfl,Nat.le_refl _,λd=>⟨λh=>by simp[ins,Sl.l]at h,λ⟨p,a,h,_⟩=>absurd h (by omega)⟩⟩ ?_ ?_
 .rintro n ⟨out,_⟩ B ⟨h,u,G⟩;simp only at h u G;subst h;have w:n<t.procs.l.length:=by omega
  have X:=(U.2 _ (List.getElem_mem w)).1;have z:=ζd B;have hr:=Y.1.2 n _ _ z (ζd w);unfold iw.br;rw[iT B,bS,bK B,ζb,bK w,ζb,cC n (by omega)]
  generalize c.l[n]=a at *;have keep:¬Cons t A (c.l.set n (a+1))->∀d,d∈ins out↔∃(p:Nat) (a:Int),p<n+1/\c.l[p]? = some a/\d=c.l.set p (a+1)/\Cons t A d:=λL d=>by
   rw[G];refine⟨λ⟨p,b,h,k⟩=>⟨p,b,by omega,k⟩,λ⟨p,b,h,k1,k2,k3⟩=>⟨p,b,?_,k1,k2,k3⟩⟩
   refine Classical.byContradiction λhp=>L ?_
   have:p=n:=by omega
   subst this;rw[z]at k1;cases k1;rw[<-k2];exact k3
  by_cases C:a<t.procs.l[n].events.l.length
  .obtain⟨d,Z,D⟩:=step_eq (c:=c) z (by omega) hr.1 (by omega)
   rw[show decide (a<(len t.procs.l[n].events))=true from by simpa [len]using C,bS,Z,ζb,eD,eD]
   refine(S7 U W hM (c:=d) (by rw[D,List.length_set];exact J)).mono λb O=>?_
   rw[D]at O;rw[aZ,bZ];constructor
   .intro ht;obtain⟨r,Q,I⟩:=jS (s:=out) (x:=d) (by omega)
    rw[ζb,Q,ζb,aZ];refine⟨rfl,by rw[I];simp;omega,λe=>?_⟩
    rw[Cl I,G,D];constructor
    .rintro (⟨p,b,h,k⟩|h)
     .exact⟨p,b,by omega,k⟩
     .exact⟨n,a,by omega,z,h,by rw[h];exact O.1 ht⟩
    .rintro⟨p,b,h,k1,k2,k3⟩
     by_cases e2:p=n
     .subst e2;rw[z]at k1;cases k1;exact .inr k2
     .exact .inl ⟨p,b,by omega,k1,k2,k3⟩
   .intro S;exact(aZ _).2 ⟨rfl,Nat.le_succ_of_le u,keep λh=>by rw[O.2 h]at S;cases S⟩
  .rw[show decide (a<(len t.procs.l[n].events))=false from by simpa [len]using C,b_,ζb,b_,aZ]
   refine⟨rfl,Nat.le_succ_of_le u,keep λh=>?_⟩
   have:=h.1.2 n (a+1) _ (by simp[List.getElem?_set,B]) (ζd w)
   omega
 .rintro⟨out,_⟩ ⟨h,u,G⟩;simp only at h u G;subst h;unfold iw.br;rw[iS,b_,aZ];refine(aZ _).2 ⟨show out.l.length<=8 by omega,λd=>(G d).trans ⟨λ⟨p,a,_,h⟩=>⟨p,a,h⟩,λ⟨p,a,h⟩=>⟨p,a,(ζe.1 h.1).1,h⟩⟩⟩
def xh (t:Trace) (A:bP 200 bz) (k:Nat) (s:Sl (Sl Int)):Prop:=∀d,d∈ins s↔Cons t A d/\d.sum=(k:Int)
theorem Ak.iff (D:VT t) (G:gZ t (bQ t) A) {k:Nat} {d:List Int}:(∃c,(Cons t A c/\c.sum=(k:Int))/\Ak t A c d)↔Cons t A d/\d.sum=((k+1:Nat):Int):=by
 constructor
 .rintro⟨c,⟨z,C⟩,p,a,I,rfl,u⟩;exact⟨u,by rw[tZ I];omega⟩
 .rintro⟨u,C⟩;obtain⟨q,b,w,J,z⟩:=u.down D G (by omega)
  have B:=(ζe.1 w).1;refine⟨_,⟨z,by rw[tZ w];omega⟩,q,b-1,by simp[B],?_,u⟩
  rw[List.set_set,show b-1+1=b from by omega]
  refine List.ext_getElem? λi=>?_
  rw[List.getElem?_set];split
  .rename_i e;subst e;simp[B,w];exact(ζe.1 w).2.symm▸rfl
  .rfl
theorem uh {s:Sl (Sl Int)} {n:Nat} (h:n<s.l.length) {d:List Int}:d∈(s.l.take (n+1)).map Sl.l↔d∈(s.l.take n).map Sl.l\/d=s.l[n].l:=by
 rw[show s.l.take (n+1)=s.l.take n++[s.l[n]]from by rw[List.take_add_one,ζd h];rfl]
 simp only[List.map_append,List.mem_append,List.map_cons,List.map_nil,List.mem_singleton]
theorem Hv:∀n:Nat,(List.replicate n (0:Int)).sum=0
 | 0=>rfl
 | n+1=>by rw[List.replicate_succ,List.sum_cons,Hv n];rfl
theorem Bk:Cons t A (List.replicate t.procs.l.length 0):=by
 have w:∀(p:Nat) a,(List.replicate t.procs.l.length (0:Int))[p]? = some a->a=0:=λp a h=>by
  rw[List.getElem?_replicate]at h;split at h <;> cases h;rfl
 exact⟨⟨by simp,λp a P u _=>by rw[w p a u];omega⟩,λp k e a _ u hk=>by rw[w p a u]at hk;omega⟩
theorem R7 {z:Sl Int} (B:z.l=List.replicate t.procs.l.length 0):xh t A 0 (Sl.row [z]):=by
 intro d;have:d∈ins (Sl.row [z])↔d=List.replicate t.procs.l.length 0:=by unfold ins;rw[<-B];exact List.mem_singleton
 rw[this];constructor
 .rintro rfl;exact⟨Bk,by rw[Hv];rfl⟩
 .rintro⟨u,w⟩;refine List.ext_getElem? λi=>?_
  rw[List.getElem?_replicate,<-u.1.1];split
  .rename_i C;have h:=ζd C;rw[h,Ga u.1.pos (by simpa using w) i _ h]
  .exact List.getElem?_eq_none (by omega)
theorem xh.none (D:VT t) (G:gZ t (bQ t) A) {k:Nat} {s:Sl (Sl Int)} (h:xh t A k s) (J:s.l.length=0) {d:List Int} (B:Cons t A d):d.sum<(k:Int):=by
 refine Classical.byContradiction λu=>?_
 have h0:=oP B.1.pos;obtain⟨c,w,z⟩:=Cons.CG D G (d.sum.toNat-k) (k:=k) B (by omega)
 have:=(h c).2 ⟨w,z⟩;obtain⟨x,C,_⟩:=jP.1 this;have:=List.length_pos_of_mem C;omega
theorem xh.last {s:Sl (Sl Int)} (h:xh t A (kU t+1) s):s.l.length=0:=by
 refine Classical.byContradiction λu=>?_
 have w:=List.getElem_mem (show 0<s.l.length by omega)
 have:=(h s.l[0].l).1 (jP.2 ⟨_,w,rfl⟩);have:=this.1.1.sum;omega
theorem A7 {α:Type} (s:Sl α):decide ((len s)>0) = !decide (s.l.length=0):=by
 by_cases h:s.l.length=0
 .simp[len,h]
 .simp[h,len];omega
end
end Go.VE
namespace Go.VE
def eM:List Int->List Int->Int
 | [],[]=>0
 | [],_::_=>-1
 | _::_,[]=>1
 | x::a,y::b=>if x<y then -1 else if x>y then 1 else eM a b
theorem uG:∀a,eM a a=0
 | []=>rfl
 | x::a=>by simp[eM,uG a]
theorem ze:∀a b c,eM a b<0->eM b c<0->eM a c<0
 | [],[],_,h,_=>by simp[eM]at h
 | [],_::_,[],_,h=>by simp[eM]at h
 | [],_::_,_::_,_,_=>by simp[eM]
 | _::_,[],_,h,_=>by simp[eM]at h
 | _::_,_::_,[],_,h=>by simp[eM]at h
 | x::a,y::b,z::c,h1,B=>by
  have D:=ze a b c;simp only[eM]at h1 B ⊢;split at h1
  .split at B
   .rw[if_pos (by omega)];omega
   .split at B
    .omega
    .rw[if_pos (by omega)];omega
  .split at h1
   .omega
   .split at B
    .rw[if_pos (by omega)];omega
    .split at B
     .omega
     .rw[if_neg (by omega),if_neg (by omega)];exact D h1 B
theorem vQ:∀a b,¬eM a b<0->¬eM b a<0->a=b
 | [],[],_,_=>rfl
 | [],_::_,h,_=>by simp[eM]at h
 | _::_,[],_,h=>by simp[eM]at h
 | x::a,y::b,h1,B=>by
  have D:=vQ a b;simp only[eM]at h1 B;split at h1
  .omega
  .split at B
   .omega
   .rw[D (by first|assumption|(split at h1 <;> first|assumption|omega)) (by first|assumption|(split at B <;> first|assumption|omega)),show x=y from by omega]
theorem L4 (a b c:List Int) (h1:¬eM a b<0) (B:¬eM b c<0):¬eM a c<0:=λh=>by
 by_cases t:eM b a<0
 .exact B (ze b a c t h)
 .rw[vQ a b h1 t]at h;exact B h
theorem M8 {α:Type} {s:Sl α} {p:α->α->Option Int} {f:α->List Int} (U:∀x y,x∈s.l->y∈s.l->p x y=some (eM (f x) (f y))) (O:s.l.length<2147483648):∃r,wU s p=some r/\r.l.Perm s.l/\r.l.Pairwise λx y=>¬eM (f y) (f x)<0:=by
 unfold wU;split
 .rename_i h;exact⟨s,rfl,List.Perm.refl _,by rw[h];exact List.Pairwise.nil⟩
 .rename_i x l h;rw[if_pos (by rw[h]at O;simp at O;omega)]
  simp only;have Q:∀i j:_root_.Fin (l.length+1),p (x::l)[i.1] (x::l)[j.1]=some (eM (f (x::l)[i.1]) (f (x::l)[j.1])):=λi j=>U _ _ (by rw[h];exact List.getElem_mem _) (by rw[h];exact List.getElem_mem _)
  have A:(nV λi j:_root_.Fin (l.length+1)=>p (x::l)[i.1] (x::l)[j.1])=λi j=>decide (eM (f (x::l)[i.1]) (f (x::l)[j.1])<0):=by
   funext i j;unfold nV;show decide ((p _ _).getD 0<0)=_;rw[Q];rfl
  have B:yP (λi j:_root_.Fin (l.length+1)=>p (x::l)[i.1] (x::l)[j.1])=true:=by
   have t:∀i j,nV (λi j:_root_.Fin (l.length+1)=>p (x::l)[i.1] (x::l)[j.1]) i j=decide (eM (f (x::l)[i.1]) (f (x::l)[j.1])<0):=λi j=>by rw[A]
   refine List.all_eq_true.2 λi _=>Bool.and_eq_true_iff.2 ⟨by rw[t,uG];rfl,List.all_eq_true.2 λj _=>Bool.and_eq_true_iff.2 ⟨by show (p _ _).isSome=true;rw[Q];rfl,List.all_eq_true.2 λk _=>Bool.and_eq_true_iff.2 ⟨?_,?_⟩⟩⟩
   .have:=ze (f (x::l)[i.1]) (f (x::l)[j.1]) (f (x::l)[k.1]);rw[t,t,t];simp only[Bool.or_eq_true,Bool.not_eq_true',Bool.and_eq_false_iff,decide_eq_true_eq,decide_eq_false_iff_not];omega
   .have:=L4 (f (x::l)[i.1]) (f (x::l)[j.1]) (f (x::l)[k.1]);rw[t,t,t];simp only[Bool.or_eq_true,Bool.not_eq_true',decide_eq_true_eq,decide_eq_false_iff_not];omega
  rw[if_pos B];have C:=(oL B).2;have G:=Sort.pdq_sorts _ C (List.finRange (l.length+1)).toArray 0 (l.length+1) (Lib.bitLen (l.length+1)) true true (Nat.zero_le _) (by simp) (Or.inl rfl)
  rw[<-Ac]at G;generalize oW l.length _=d at G;obtain⟨⟨w,_,u⟩,z⟩:=G;have w:d.size=l.length+1:=by simpa using w
  have D:∀y:List α,(s.re y).l=y:=λy=>by cases s <;> first|rfl|(simp[Sl.l]at h)
  refine⟨_,rfl,?_,?_⟩
  .rw[D,h];have h1:d.extract 0 (l.length+1)=d:=Array.ext (by simp[w]) λi h1 I=>by simp
   rw[h1]at u;have I:((List.finRange (l.length+1)).toArray.extract 0 (l.length+1)).toList=List.finRange (l.length+1):=by simp[List.take_of_length_le]
   rw[I]at u;refine(u.map _).trans ?_;rw[show (List.finRange (l.length+1)).map (λi=>(x::l)[i.1])=x::l from ?_]
   exact List.ext_getElem (by simp) λi h1 I=>by simp
  .rw[D,List.pairwise_map,List.pairwise_iff_getElem];intro i j S J L;have:=z i j (Nat.zero_le _) L (by simpa [w]using J)
   rw[A]at this;simp only[Array.length_toList]at S J;simp only[getElem!_pos d i S,getElem!_pos d j J,decide_eq_false_iff_not]at this;simpa using this
end Go.VE
namespace Go.VE
def B1 (c:List Int):List Int:=c.sum::c
def A1 (c:List Int):Prop:=c.length<=8/\∀x∈c,0<=x/\x<1073741824
theorem Mp {c:List Int} (h:A1 c) (i:Nat):0<=(c.take i).sum/\(c.take i).sum<=8589934592:=by
 have key:∀(l:List Int),(∀x∈l,0<=x/\x<1073741824)->0<=l.sum/\l.sum<=1073741824*(l.length:Int):=by
  intro l
  induction l with
  | nil=>intro _;simp
  | cons x l t=>
   intro h;have h1:=h x (by simp)
   have u:=t λy w=>h y (List.mem_cons_of_mem _ w)
   simp only[List.sum_cons,List.length_cons];omega
 have h1:=key (c.take i) λx z=>h.2 x (List.mem_of_mem_take z)
 have u:(c.take i).length<=8:=by rw[List.length_take];have:=h.1;omega
 omega
theorem D9 {c:List Int} {i:Nat} (B:i<c.length):(c.take (i+1)).sum=(c.take i).sum+c[i]:=by
 rw[List.take_succ_eq_append_getElem B,List.sum_append];simp
theorem J7 {a b:List Int} {i:Nat} (B:i<a.length) (D:i<b.length):eM (a.drop i) (b.drop i)=if a[i]<b[i]then -1 else if a[i]>b[i]then 1 else eM (a.drop (i+1)) (b.drop (i+1)):=by
 rw[List.drop_eq_getElem_cons B,List.drop_eq_getElem_cons D];rfl
def ec (x y:List Int):Prop:=eM (B1 x) (B1 y)<0
instance (x y:List Int):Decidable (ec x y):=by unfold ec;exact inferInstance
theorem ec.Kn (x:List Int):¬ec x x:=by unfold ec;rw[uG];omega
theorem ec.tr {x y z:List Int} (h:ec x y) (k:ec y z):ec x z:=ze _ _ _ h k
theorem ec.tot {x y:List Int} (h:¬ec x y) (k:¬ec y x):x=y:=by
 have:=vQ _ _ h k;unfold B1 at this;exact(List.cons.inj this).2
theorem ec.sum {x y:List Int} (h:x.sum<y.sum):ec x y:=by unfold ec B1;simp[eM,h]
theorem BM:∀{l r:List (List Int)},l.Pairwise ec->r.Pairwise ec->(∀x,x∈l↔x∈r)->l=r
 | [],[],_,_,_=>rfl
 | [],y::r,_,_,h=>by have:=(h y).2 (by simp);simp at this
 | x::l,[],_,_,h=>by have:=(h x).1 (by simp);simp at this
 | x::l,y::r,A,hr,h=>by
  have e:x=y:=by
   rcases List.mem_cons.1 ((h x).1 (by simp))with e|e
   .exact e
   .rcases List.mem_cons.1 ((h y).2 (by simp))with k|k
    .exact k.symm
    .exact absurd (((List.pairwise_cons.1 hr).1 x e).tr ((List.pairwise_cons.1 A).1 y k)) (ec.Kn y)
  subst e
  congr 1
  have t:=List.pairwise_cons.1 A;have u:=List.pairwise_cons.1 hr;refine BM t.2 u.2 λz=>⟨λw=>?_,λw=>?_⟩
  .rcases List.mem_cons.1 ((h z).1 (List.mem_cons_of_mem _ w))with e|e
   .exact absurd (e▸t.1 z w) (ec.Kn x)
   .exact e
  .rcases List.mem_cons.1 ((h z).2 (List.mem_cons_of_mem _ w))with e|e
   .exact absurd (e▸u.1 z w) (ec.Kn x)
   .exact e
theorem Cy {t:Trace} {A:bP 200 bz} (D:Small t) (G:VT t) {c:List Int} (B:Cons t A c):A1 c:=by
 refine⟨B.1.1▸G.few,λx z=>?_⟩
 obtain⟨p,w,e⟩:=List.mem_iff_getElem.1 z;have u:p<t.procs.l.length:=by rw[<-B.1.1];exact w
 have:=B.1.2 p x _ (by rw[ζd w,e]) (ζd u)
 have k:=(D.2 _ (List.getElem_mem u)).1;omega
theorem ec.Eu {x y:List Int} (h:x.sum=y.sum):ec x y↔eM x y<0:=by
 unfold ec B1;simp only[eM,if_neg (show ¬x.sum<y.sum by omega),if_neg (show ¬x.sum>y.sum by omega)]
theorem ec.nodup {L:List (List Int)} (h:L.Pairwise ec):L.Nodup:=h.imp λ{x y} (h:ec x y) (e:x=y)=>ec.Kn y (by rw[e]at h;exact h)
theorem Jr {L:List (List Int)} {c:List Int} {j:Nat} (h:L.Pairwise ec) (h1:∀(i:Nat) x,i<j->L[i]? = some x->ec x c) (B:∀x,L[j]? = some x->ec c x) :
 (L.take j++[c]++L.drop j).Pairwise ec/\∀x,x∈L.take j++[c]++L.drop j↔x∈L\/x=c:=by
 have u:∀x∈L.take j,ec x c:=λx hx=>by
  obtain⟨k,hk,e⟩:=List.mem_iff_getElem.1 hx;rw[List.length_take]at hk;rw[List.getElem_take]at e;exact h1 k x (by omega) (by rw[ζd (by omega),e])
 have t:∀x∈L.drop j,ec c x:=λx hx=>by
  obtain⟨k,hk,e⟩:=List.mem_iff_getElem.1 hx;rw[List.length_drop]at hk;rw[List.getElem_drop]at e;have z:j<L.length:=by omega
  have k0:=B _ (ζd z)
  by_cases A:k=0
  .subst A;simp only[Nat.add_zero]at e;rw[<-e];exact k0
  .rw[<-e];exact k0.tr (List.pairwise_iff_getElem.1 h j (j+k) z (by omega) (by omega))
 refine⟨List.pairwise_append.2 ⟨List.pairwise_append.2 ⟨h.sublist (List.take_sublist _ _),List.pairwise_singleton _ _,λx hx y w=>?_⟩,h.sublist (List.drop_sublist _ _),λx hx y w=>?_⟩,λx=>?_⟩
 .rw[List.mem_singleton.1 w];exact u x hx
 .rcases List.mem_append.1 hx with hx|hx
  .exact(u x hx).tr (t y w)
  .rw[List.mem_singleton.1 hx];exact t y w
 .conv=>rhs;rw[<-List.take_append_drop j L]
  simp only[List.mem_append,List.mem_singleton];constructor
  .rintro ((h|h)|h) <;> simp[h]
  .rintro ((h|h)|h) <;> simp[h]
end Go.VE
namespace Go.VE
theorem LM {α:Type} {s:Sl α} {p:α->α->Option Bool} {f:α->List Int} (Y:∀x y,x∈s.l->y∈s.l->p x y=some (decide (f x=f y))) (hl:s.l.length<2147483648) (hs:s.l.Pairwise λx y=>¬eM (f y) (f x)<0) :
 ∃r,vC s p=some r/\(r.l.map f).Nodup/\(∀d,d∈r.l.map f↔d∈s.l.map f)/\r.l.length<=s.l.length:=by
 have O:∀i,i<s.l.length->0<i->∃(h1:i<s.l.length) (J:i-1<s.l.length),rB s.l p i=some (decide (f s.l[i]=f s.l[i-1])):=λi h h0=>by
  refine⟨h,by omega,?_⟩
  unfold rB;rw[ζd h,ζd (show i-1<s.l.length by omega)]
  exact Y _ _ (List.getElem_mem _) (List.getElem_mem _)
 unfold vC;rw[if_pos ⟨by omega,List.all_eq_true.2 λi L=>by
  by_cases h:i=0
  .subst h;rfl
  .obtain⟨_,_,e⟩:=O i (List.mem_range.1 L) (by omega)
   rw[e];simp⟩]
 have z:∀y:List α,(s.l=[]->y=[])->(s.qM y).l=y:=λy w=>by cases s <;> first|rfl|exact(w rfl).symm
 have Q:∀i,i∈kept (λi=>(rB s.l p i).getD false) s.l.length↔i<s.l.length/\(i=0\/(rB s.l p i).getD false=false):=λi=>by unfold kept;simp[List.mem_filter]
 have A:=yR (λi=>(rB s.l p i).getD false) s.l.length
 have S:(kept (λi=>(rB s.l p i).getD false) s.l.length).Pairwise (·<·):=by unfold kept;exact List.pairwise_lt_range.filter _
 generalize kept (λi=>(rB s.l p i).getD false) s.l.length=K at *
 have u:(s.qM (K.filterMap (s.l[·]?))).l=K.filterMap (s.l[·]?):=z _ λh=>by rw[h];simp
 refine⟨_,rfl,?_,λd=>?_,?_⟩
 .rw[u,List.Nodup,List.pairwise_map,List.pairwise_filterMap];refine S.imp_of_mem ?_;intro i j L Z aa x t y w B;obtain⟨T,C⟩:=(Q j).1 Z;obtain⟨h1,J,e⟩:=O j T (by omega)
  rw[e]at C;have U:¬f s.l[j]=f s.l[j-1]:=by
   rcases C with h|h
   .omega
   .simpa using h
  rw[ζd h1]at w;cases w;have D:i<s.l.length:=by omega
  rw[ζd D]at t;cases t;have G:=List.pairwise_iff_getElem.1 hs;have a1:=G (j-1) j J h1 (by omega)
  refine U (vQ _ _ a1 ?_)
  by_cases e2:i=j-1
  .subst e2;rw[<-B,uG];omega
  .have X:=G i (j-1) D J (by omega)
   rw[B]at X;exact X
 .rw[u];simp only[List.mem_map,List.mem_filterMap];constructor
  .rintro⟨x,⟨i,_,t⟩,rfl⟩;exact⟨x,List.mem_of_getElem? t,rfl⟩
  .rintro⟨x,t,rfl⟩;obtain⟨i,L⟩:=List.mem_iff_getElem?.1 t;have key:∀(i:Nat) x,s.l[i]? = some x->∃y,(∃j,j∈K/\s.l[j]? = some y)/\f y=f x:=by
    intro i
    induction i with
    | zero=>intro x t;exact⟨x,⟨0,(Q 0).2 ⟨(ζe.1 t).1,.inl rfl⟩,t⟩,rfl⟩
    | succ i ih=>
     intro x t;have I:=(ζe.1 t).1;obtain⟨h1,J,e⟩:=O (i+1) I (by omega)
     have W:s.l[i+1]=x:=(ζe.1 t).2
     by_cases hg:f s.l[i+1]=f s.l[i+1-1]
     .obtain⟨y,w,hf⟩:=ih _ (ζd (show i<s.l.length by omega))
      exact⟨y,w,by rw[hf,<-W];exact hg.symm⟩
     .exact⟨x,⟨i+1,(Q _).2 ⟨I,.inr (by rw[e];simpa using hg)⟩,t⟩,rfl⟩
   exact key i x L
 .rw[u];exact Nat.le_trans (List.length_filterMap_le ..) A
theorem IX {a b:Sl Int} (G:a.l.length<1073741824):iO a b=some (eM a.l b.l):=by
 refine Wp.eq ?_;unfold iO eA eA.W1;rw[eD];refine eV a.l.length (λn s=>s=(n:Int)/\n<=b.l.length/\eM (a.l.drop n) (b.l.drop n)=eM a.l b.l) ⟨rfl,Nat.zero_le _,rfl⟩ ?_ ?_
 .rintro n _ u ⟨rfl,A,t⟩;unfold eA.br;rw[iT u,bS,bK u,ζb];have D:a.l.drop n=a.l[n]::a.l.drop (n+1):=List.drop_eq_getElem_cons u
  by_cases B:n<b.l.length
  .have C:b.l.drop n=b.l[n]::b.l.drop (n+1):=List.drop_eq_getElem_cons B;rw[show decide ((n:Int)>=len b)=false from by simp[len];omega,b_,bK B,ζb]
   rw[D,C]at t;simp only[eM]at t;generalize a.l[n]=x at *;generalize b.l[n]=y at *;have w:oc x y=some (if x<y then -1 else if x>y then 1 else 0):=by
    unfold oc p_;simp only[bne_self_eq_false,ζb,b_,bS]
    by_cases h1:x<y
    .simp[h1,bq]
    .by_cases z:x>y
     .simp[h1,z,bq]
     .simp[h1,z,bq]
   rw[w,ζb]
   by_cases h1:x<y
   .rw[if_pos h1]at t ⊢;rw[show ((-1:Int)==0)=false from rfl,b_,aZ];exact(aZ _).2 ((aZ _).2 t)
   .rw[if_neg h1]at t ⊢
    by_cases z:x>y
    .rw[if_pos z]at t ⊢;rw[show ((1:Int)==0)=false from rfl,b_,aZ];exact(aZ _).2 ((aZ _).2 t)
    .rw[if_neg z]at t ⊢;rw[show ((0:Int)==0)=true from rfl,bS,aZ];exact⟨cC n (by omega),B,t⟩
  .rw[show decide ((n:Int)>=len b)=true from by simp[len];omega,bS,aZ]
   rw[D,List.drop_eq_nil_of_le (show b.l.length<=n by omega)]at t
   exact(aZ _).2 ((aZ _).2 t)
 .rintro _ ⟨rfl,A,t⟩;unfold eA.br;rw[iS,b_,aZ];rw[List.drop_eq_nil_of_le (Nat.le_refl _)]at t
  by_cases h:a.l.length<b.l.length
  .rw[show decide (len a<len b)=true from by simp[len];omega,bS]
   rw[List.drop_eq_getElem_cons h]at t;exact(aZ _).2 ((aZ _).2 t)
  .rw[show decide (len a<len b)=false from by simp[len];omega,b_]
   rw[List.drop_eq_nil_of_le (show b.l.length<=a.l.length by omega)]at t
   exact(aZ _).2 ((aZ _).2 t)
theorem Ms {a b:Sl Int} (B:a.l.length<1073741824):eG a b=some (decide (a.l=b.l)):=by
 refine Wp.eq ?_;unfold eG;rw[bZ];refine⟨λh=>?_,λh=>(aZ _).2 ?_⟩
 .have h:(a.l.length:Int)=b.l.length:=by simpa [len]using h
  have h:a.l.length=b.l.length:=by omega
  unfold eG.W1;refine eV a.l.length (λn s=>s=(n:Int)/\∀i,i<n->a.l[i]? = b.l[i]?) ⟨rfl,λi h=>absurd h (by omega)⟩ ?_ ?_
  .rintro n _ t ⟨rfl,w⟩;unfold eG.br;have z:n<b.l.length:=by omega
   rw[show decide ((n:Int)<len a)=true from iT t,bS,bK t,ζb,bK z,ζb,bZ];refine⟨λu=>(aZ _).2 ⟨cC n (by omega),λi A=>?_⟩,λu=>(aZ _).2 ((aZ _).2 ?_)⟩
   .by_cases e:i=n
    .subst e;rw[ζd t,ζd z];simpa using u
    .exact w i (by omega)
   .refine(decide_eq_false λe=>?_).symm
    have h1:a.l[n]? = b.l[n]? := by rw[e]
    rw[ζd t,ζd z]at h1;simp at u h1;exact u h1
  .rintro _ ⟨rfl,w⟩;unfold eG.br;rw[iS,b_,aZ];refine(aZ _).2 (decide_eq_true (List.ext_getElem? λi=>?_)).symm
   by_cases A:i<a.l.length
   .exact w i A
   .rw[List.getElem?_eq_none (by omega),List.getElem?_eq_none (by omega)]
 .refine(decide_eq_false λe=>?_).symm
  simp[len,e]at h
end Go.VE
namespace Go.VE
section
variable {t:Trace} {A:bP 200 bz}
def sL (A:bP 200 bz) (e:Event):aY:=if e.kind=3 then(ag A e.message).from_ else ⟨0,0⟩
structure NR (t:Trace) (A:bP 200 bz) (n:Nat) (m:b7):Prop where
 lens:m.lengths.l=(t.procs.l.take n).map λP=>(P.events.l.length:Int)
 need:m.need.l.map Sl.l=(t.procs.l.take n).map λP=>P.events.l.map (sL A)
theorem of_wp (Y:Small t) (hv:iU t=some true) (hV:VT t) (hM:gZ t (bQ t) A):Wp (jh t) (NR t A t.procs.l.length):=by
 have Z:=hV.few;unfold jh jh.W1;refine eV t.procs.l.length (λn s=>s.1=(n:Int)/\s.2.1=t/\NR t A n s.2.2.2) ⟨rfl,rfl,rfl,rfl⟩ ?_ ?_
 .rintro n ⟨_,_,vb,I⟩ z ⟨h1,B,u⟩;simp only at h1 B u;subst h1;have B:=B.symm;subst B;unfold jh.br;rw[iT z,bS,bK z,ζb];have O:=ζd z;have aa:=(Y.2 _ (List.getElem_mem z)).1;generalize ab:t.procs.l[n]=P at *;unfold jh.W2;refine eV P.events.l.length (λk s=>s.2.1=(k:Int)/\s.2.2.1=t/\s.2.2.2.2=I/\s.1.l=(P.events.l.take k).map (sL A)) ⟨rfl,rfl,rfl,rfl⟩ ?_ ?_
  .rintro k ⟨nd,_,_,T,_⟩ hk ⟨Q,C,D,L⟩;simp only at Q C D L;subst Q;have C:=C.symm;have D:=D.symm;subst C D;unfold jh.ck;rw[iT hk,bS,bK hk,ζb];have U:lE t n k P.events.l[k]:=⟨P,O,ζd hk⟩;have G:P.events.l.take (k+1)=P.events.l.take k++[P.events.l[k]]:=by rw[List.take_add_one,ζd hk];rfl
   generalize P.events.l[k]=e at *;have fin:∀id,id=sL A e->Wp (jh.J3 nd t.procs (len t.procs) n P.events (len P.events) k t ⟨Sl.nil,Sl.nil⟩ I P id) λw=>match w with|.n S=>S.2.1=((k+1:Nat):Int)/\S.2.2.1=t/\S.2.2.2.2=I/\S.1.l=(P.events.l.take (k+1)).map (sL A)|.x e=>False|.r b=>False:=λid W=>by
    unfold jh.J3;obtain⟨r,h8,h9⟩:=jS (s:=nd) (x:=id) (by rw[L];simp;omega)
    rw[h8,ζb,aZ];exact⟨cC k (by omega),rfl,rfl,by rw[h9,L,G,List.map_append,W];rfl⟩
   rw[bZ];constructor
   .intro u;have u:e.kind=3:=by simpa using u
    obtain⟨q,j,y,hy,y1,y2,y3,y4,y5⟩:=FJ hV hM U u;have X:=Lf Y hv hM (dY.2 ⟨q,j,hy,rfl⟩:((⟨q,j+1⟩:aY),y)∈bQ t) y1;simp only at X;rw[y2]at X;rw[X,ζb];refine(fin _ (by unfold sL;rw[if_pos u,y5])).mono λw J=>?_
    cases w with
    | n s=>exact J
    | x e=>exact J.elim
    | r b=>exact J.elim
   .intro u;have u:¬e.kind=3:=by simpa using u
    refine(fin _ (by unfold sL;rw[if_neg u])).mono λw J=>?_
    cases w with
    | n s=>exact J
    | x e=>exact J.elim
    | r b=>exact J.elim
  .rintro⟨nd,_,_,T,_⟩ ⟨Q,C,D,L⟩;simp only at Q C D L;subst Q;have C:=C.symm;have D:=D.symm;subst C D;unfold jh.ck;have ad:I.lengths.l.length=n:=by rw[u.lens];simp;omega
   have ae:I.need.l.length=n:=by have:=congrArg List.length u.need;simp at this;omega
   obtain⟨x1,a1,a2⟩:=jS (s:=I.lengths) (x:=len P.events) (by omega)
   obtain⟨x2,b1,b2⟩:=jS (s:=I.need) (x:=nd) (by omega)
   rw[iS,b_,aZ];simp only;rw[a1,ζb,b1,ζb,aZ];have G:t.procs.l.take (n+1)=t.procs.l.take n++[P]:=by rw[List.take_add_one,O];rfl
   refine⟨cC n (by omega),rfl,?_,?_⟩
   .show x1.l=_;rw[a2,u.lens,G,List.map_append];rfl
   .show x2.l.map Sl.l=_;rw[b2,List.map_append,u.need,G,List.map_append,List.map_cons,L,List.take_length];rfl
 .rintro⟨_,_,vb,I⟩ ⟨h1,B,u⟩;simp only at h1 B u;subst h1;have B:=B.symm;subst B;unfold jh.br;rw[iS,b_,aZ];exact(aZ _).2 u
theorem NG (hV:VT t) (hM:gZ t (bQ t) A) {m:b7} (hm:NR t A t.procs.l.length m) {c:Sl Int} (D:Cons t A c.l) {p:Nat} (hp:p<t.procs.l.length) :
 Wp (mN m c p) λb=>(b=true↔∃a,c.l[p]? = some a/\Cons t A (c.l.set p (a+1))):=by
 have ab:=D.1.1;have u:=ζd hp;obtain⟨a,w⟩:=D.1.at_ hp;have hr:=D.1.2 p a _ w u;generalize t.procs.l[p]=P at *;have G:m.lengths.l[p]? = some (P.events.l.length:Int):=by rw[hm.lens,List.take_length,List.getElem?_map,u];rfl
 have L:=(ζe.1 w).1;have O:idx c (p:Int)=some a:=by rw[lH];exact w
 unfold mN;rw[O,ζb,lH,G,ζb,bZ];constructor
 .intro h;have h:a=P.events.l.length:=by simpa using h
  refine(aZ _).2 ⟨λh=>(by cases h),λ⟨b,B,S⟩=>?_⟩
  rw[w]at B;cases B;have:=S.1.2 p (a+1) P (by simp[L]) u
  omega
 .intro h;have h:¬a=P.events.l.length:=by simpa using h
  have T:a<P.events.l.length:=by omega
  have hn:=congrArg (λl=>l[p]?) hm.need
  simp only[List.take_length,List.getElem?_map,u,Option.map_some]at hn;obtain⟨nd,nr,U⟩:=ζf.1 hn;have z:a.toNat<P.events.l.length:=by omega
  have hx:idx nd a=some (sL A P.events.l[a.toNat]):=by
   rw[Is hr.1,U,List.getElem?_map,ζd z];rfl
  rw[lH,nr,ζb,ζb,hx,ζb];have W:=D.up hV hM u w T;have I:(∃b,c.l[p]? = some b/\Cons t A (c.l.set p (b+1)))↔Ju t A c.l p:=by
   rw[W];exact⟨λ⟨b,B,k⟩=>by rw[w]at B;cases B;exact k,λk=>⟨a,w,k⟩⟩
  rw[I];have X:lE t p a.toNat P.events.l[a.toNat]:=⟨P,u,ζd z⟩;have Y:Ju t A c.l p↔(P.events.l[a.toNat].kind=3->∃b,c.l[(ag A P.events.l[a.toNat].message).from_.proc.toNat]? = some b/\(ag A P.events.l[a.toNat].message).from_.index<=b):=
   ⟨λ⟨Q,e,x,h1,h2,C,h4⟩=>by rw[u]at h1;cases h1;rw[w]at h2;cases h2;rw[ζd z]at C;cases C;exact h4,λh=>⟨P,_,a,u,w,ζd z,h⟩⟩
  rw[Y];generalize P.events.l[a.toNat]=e at *;unfold sL
  by_cases C:e.kind=3
  .rw[if_pos C];obtain⟨q,j,f1,_,_,y,Q,hQ,_⟩:=tR hV hM X C;have Z:q<c.l.length:=by have:=(ζe.1 hQ).1;omega
   rw[f1];simp only[Int.toNat_natCast];rw[bK Z,ζb,aZ];simp only[decide_eq_true_eq];exact⟨λh _=>⟨_,ζd Z,h⟩,λh=>by obtain⟨b,B,aa⟩:=h C;rw[ζd Z]at B;cases B;exact aa⟩
  .rw[if_neg C];have h0:0<c.l.length:=by omega
   have J:=D.1.pos 0 _ (ζd h0);have hi:idx c ((⟨0,0⟩:aY).proc)=some c.l[0]:=bK (s:=c) (i:=0) h0;rw[hi,ζb,aZ];exact⟨λ_ h=>absurd h C,λ_=>by simpa using J⟩
end
end Go.VE
namespace Go.VE
theorem C0 {α:Type}:∀l:List α,(List.range l.length).filterMap (l[·]?)=l
 | []=>rfl
 | x::l=>by
  rw[List.length_cons,List.range_succ_eq_map,List.filterMap_cons,List.filterMap_map];show x::(List.range l.length).filterMap (λi=>(x::l)[i+1]?)=_
  simp only[List.getElem?_cons_succ];rw[C0 l]
theorem PZ {α:Type} {s r:Sl α} {p:α->α->Option Bool} (h:vC s p=some r):r.l.Sublist s.l:=by
 unfold vC at h;split at h
 .cases h;have key:((kept (λi=>(rB s.l p i).getD false) s.l.length).filterMap (s.l[·]?)).Sublist s.l:=by
   have e:=C0 s.l
   conv=>rhs;rw[<-e]
   exact List.Sublist.filterMap _ (by unfold kept;exact List.filter_sublist)
  generalize (kept (λi=>(rB s.l p i).getD false) s.l.length).filterMap (s.l[·]?)=y at *
  cases s <;> first|exact key|(simp[Sl.qM,Sl.l])
 .cases h
theorem Gd {c:Sl Int} (B:c.l.length<=1073741824) (h0:0<c.l.length):∃d,(kO c).bind Sl.whole=some d/\d.l=c.l:=by
 unfold kO;have key:((mq (Sl.row []:Sl Int) c).bind λx=>some x).bind Sl.whole=some (.row ([]++c.l)):=by
  unfold mq;rw[if_neg (λh=>by rw[h]at h0;simp at h0),if_pos (show (Sl.row ([]:List Int)).l.length+c.l.length<=2147483648 from show 0+c.l.length<=_ by omega)];rfl
 cases c with
 | nil=>simp[Sl.l]at h0
 | emp=>simp[Sl.l]at h0
 | part l=>exact⟨_,key,rfl⟩
 | row l=>exact⟨_,key,rfl⟩
section
variable {t:Trace} {A:bP 200 bz}
theorem MO (hS:Small t) (U:VT t) (hM:gZ t (bQ t) A) {m:b7} (hm:NR t A t.procs.l.length m) {k:Nat} {B:Sl (Sl Int)} (Y:xh t A k B) (hl:B.l.length<=5000) :
 Wp (dR m B) λr=>xh t A (k+1) r/\(ins r).Nodup/\r.l.length<=40000/\(ins r).Pairwise λx y=>¬eM y x<0:=by
 have ae:=U.few;unfold dR dR.W1;refine eV B.l.length (λn s=>s.2.1=len B/\s.2.2=(n:Int)/\s.1.l.length<=8*n/\∀d,d∈ins s.1↔∃c∈(B.l.take n).map Sl.l,Ak t A c d) ⟨rfl,rfl,Nat.zero_le _,λd=>by simp[ins,Sl.l]⟩ ?_ ?_
 .rintro n ⟨out,_,_⟩ w ⟨e1,e2,g1,g2⟩;simp only at e1 e2 g1 g2;subst e1 e2;have L:=(Y B.l[n].l).1 (jP.2 ⟨_,List.getElem_mem w,rfl⟩);unfold dR.br;rw[iT w,bS,bK w,ζb];have O:∀d,d∈(B.l.take (n+1)).map Sl.l↔d∈(B.l.take n).map Sl.l\/d=B.l[n].l:=λd=>uh w
  generalize B.l[n]=c at *;have af:=L.1.1.1;have ab:=U.ok.one;unfold dR.W2;refine eV c.l.length (λj s=>s.2=(j:Int)/\s.1.l.length<=8*n+j/\∀d,d∈ins s.1↔d∈ins out\/∃(p:Nat) (a:Int),p<j/\c.l[p]? = some a/\d=c.l.set p (a+1)/\Cons t A d) ⟨rfl,g1,λd=>⟨.inl,λh=>h.elim id λ⟨p,a,h,_⟩=>absurd h (by omega)⟩⟩ ?_ ?_
  .rintro j ⟨o2,_⟩ T ⟨e,f1,f2⟩;simp only at e f1 f2;subst e;unfold dR.ck;rw[show decide ((j:Int)<len c)=true from iT T,bS,eD];refine(NG U hM hm L.1 (p:=j) (by omega)).mono λb hb=>?_
   have u:=ζd T;have hr:=L.1.1.2 j _ _ u (ζd (show j<t.procs.l.length by omega))
   have ah:=(hS.2 _ (List.getElem_mem (show j<t.procs.l.length by omega))).1
   generalize c.l[j]=a at *;have more:∀o3:Sl (Sl Int),(∀d,d∈ins o3↔d∈ins o2\/d=c.l.set j (a+1)/\Cons t A d)->∀d,d∈ins o3↔d∈ins out\/∃(p:Nat) (a:Int),p<j+1/\c.l[p]? = some a/\d=c.l.set p (a+1)/\Cons t A d:=λo3 h d=>by
    rw[h,f2];constructor
    .rintro ((h|⟨p,b,h,k⟩)|⟨h,k⟩)
     .exact .inl h
     .exact .inr ⟨p,b,by omega,k⟩
     .exact .inr ⟨j,a,by omega,u,h,k⟩
    .rintro (h|⟨p,b,h,k1,k2,k3⟩)
     .exact .inl (.inl h)
     .by_cases e:p=j
      .subst e;rw[u]at k1;cases k1;exact .inr ⟨k2,k3⟩
      .exact .inl (.inr ⟨p,b,by omega,k1,k2,k3⟩)
   rw[bZ];constructor
   .intro ht;obtain⟨x,C,X⟩:=hb.1 ht;rw[u]at C;cases C;obtain⟨d,hd,z⟩:=Gd (c:=c) (by omega) (by omega)
    obtain⟨d2,Z,Q⟩:=put_eq (s:=d) (p:=j) (x:=a+1) (by rw[z];exact T)
    obtain⟨o3,aa,D⟩:=jS (s:=o2) (x:=d2) (by omega)
    have hg:Sl.get d j=some a:=by unfold Sl.get;rw[z];exact u
    rw[hd,ζb,lF (by rw[z];exact T),ζb,hg,ζb,ζb,jU _ (by omega) (by omega),Z,ζb,aa,ζb,aZ]
    refine⟨cC j (by omega),by rw[D];simp;omega,more o3 λe=>?_⟩
    rw[Cl D,Q,z];exact⟨λh=>h.elim .inl λh=>.inr ⟨h,by rw[h];exact X⟩,λh=>h.elim .inl λh=>.inr h.1⟩
   .intro hf;refine(aZ _).2 ⟨cC j (by omega),Nat.le_succ_of_le f1,more o2 λd=>⟨.inl,λh=>h.elim id λ⟨h1,W⟩=>?_⟩⟩
    rw[hb.2 ⟨a,u,by rw[<-h1];exact W⟩]at hf;cases hf
  .rintro⟨o2,_⟩ ⟨e,f1,f2⟩;simp only at e f1 f2;subst e;unfold dR.ck;rw[iS,b_,aZ];refine(aZ _).2 ⟨rfl,cC n (by omega),show o2.l.length<=_ by omega,λd=>?_⟩
   rw[f2];constructor
   .rintro (h|⟨p,a,_,h⟩)
    .obtain⟨c',hc,G⟩:=(g2 d).1 h;exact⟨c',(O c').2 (.inl hc),G⟩
    .exact⟨_,(O _).2 (.inr rfl),p,a,h⟩
   .rintro⟨c',hc,G⟩;rcases (O c').1 hc with h|h
    .exact .inl ((g2 d).2 ⟨c',h,G⟩)
    .subst h;obtain⟨p,a,h⟩:=G;exact .inr ⟨p,a,(ζe.1 h.1).1,h⟩
 .rintro⟨out,_,_⟩ ⟨e1,e2,g1,g2⟩;simp only at e1 e2 g1 g2;subst e1 e2;unfold dR.br;rw[iS,b_,aZ];simp only;have I:xh t A (k+1) out:=λd=>by
   rw[g2,List.take_length,<-Ak.iff U hM (k:=k)];exact⟨λ⟨c,hc,G⟩=>⟨c,(Y c).1 hc,G⟩,λ⟨c,hc,G⟩=>⟨c,(Y c).2 hc,G⟩⟩
  have J:∀s:Sl (Sl Int),(∀d,d∈ins s↔d∈ins out)->∀x∈s.l,x.l.length<1073741824:=λs h x C=>by
   have:=((I x.l).1 ((h x.l).1 (jP.2 ⟨x,C,rfl⟩))).1.1.1;omega
  obtain⟨r1,h1,p1,s1⟩:=M8 (s:=out) (p:=iO) (f:=Sl.l) (λx y C _=>IX (J out (λ_=>Iff.rfl) x C)) (by omega)
  have S:∀d,d∈ins r1↔d∈ins out:=λd=>(p1.map Sl.l).mem_iff
  have ad:r1.l.length=out.l.length:=p1.length_eq;obtain⟨r2,W,nd,m2,l2⟩:=LM (s:=r1) (p:=jM) (f:=Sl.l) (λx y C _=>by unfold jM;rw[Ms (J r1 S x C)];rfl) (by omega) s1
  rw[h1,ζb,W,ζb,aZ];exact⟨λd=>(m2 d).trans ((S d).trans (I d)),nd,by omega,by unfold ins;rw[List.pairwise_map];exact s1.sublist (PZ W)⟩
structure Ux (t:Trace) (A:bP 200 bz) (k:Nat) (o:Sl (Sl (Sl Int))):Prop where
 nd:(o.l.flatMap ins).Nodup
 mem:∀d,d∈o.l.flatMap ins↔Cons t A d/\d.sum<(k:Int)
end
end Go.VE
namespace Go.VE
theorem u9 {c:Sl Int} (h:A1 c.l):e_ c=some c.l.sum:=by
 refine Wp.eq ?_;have u:=h.1;unfold e_ e_.W1;refine eV c.l.length (λi (q:Int×Int)=>q.2=(i:Int)/\q.1=(c.l.take i).sum) ⟨rfl,rfl⟩ ?_ ?_
 .rintro i ⟨m,_⟩ t ⟨e,h1⟩;simp only at e h1;subst e;subst h1;unfold e_.br;rw[iT t,bS,bK t,ζb,aZ];have k:=Mp h (i+1);rw[D9 t]at k;exact⟨cC i (by omega),by rw[D9 t];exact jU _ (by omega) (by omega)⟩
 .rintro⟨m,_⟩ ⟨e,h1⟩;simp only at e h1;subst e;subst h1;unfold e_.br;rw[iS,b_,aZ];exact(aZ _).2 (by rw[List.take_length])
theorem Gv {a b:Sl Int} (B:A1 a.l) (D:A1 b.l) (G:a.l.length=b.l.length):fU a b=some (decide (ec a.l b.l)):=by
 have z:=B.1;unfold fU;rw[u9 B,ζb,u9 D,ζb]
 by_cases e:a.l.sum=b.l.sum
 .rw[show (a.l.sum==b.l.sum)=true from by simpa using e,bS]
  refine Wp.eq ?_;unfold fU.W1;refine eV a.l.length (λi (q:Int)=>q=(i:Int)/\eM (a.l.drop i) (b.l.drop i)=eM a.l b.l) ⟨rfl,rfl⟩ ?_ ?_
  .rintro i _ u ⟨rfl,h⟩;have t:i<b.l.length:=by omega
   unfold fU.br;rw[iT u,bS,bK u,ζb,bK t,ζb];rw[J7 u t]at h
   by_cases e2:a.l[i]=b.l[i]
   .rw[show (a.l[i]==b.l[i])=true from by simpa using e2,bS,aZ]
    rw[if_neg (by omega),if_neg (by omega)]at h
    exact⟨cC i (by omega),h⟩
   .rw[show (a.l[i]==b.l[i])=false from by simpa using e2,b_,ζb,ζb,aZ]
    refine(aZ _).2 ?_;have w:decide (ec a.l b.l)=decide (eM a.l b.l<0):=decide_eq_decide.2 (ec.Eu e);rw[w]
    by_cases k:a.l[i]<b.l[i]
    .rw[if_pos k]at h;rw[<-h];simp[k]
    .rw[if_neg k,if_pos (by omega)]at h;rw[<-h];simp[k]
  .rintro _ ⟨rfl,h⟩;unfold fU.br;rw[iS,b_,aZ];refine(aZ _).2 ?_;have w:decide (ec a.l b.l)=decide (eM a.l b.l<0):=decide_eq_decide.2 (ec.Eu e);rw[w];rw[List.drop_of_length_le (Nat.le_refl _),List.drop_of_length_le (by omega)]at h
   rw[<-h];rfl
 .rw[show (a.l.sum==b.l.sum)=false from by simpa using e,b_,ζb,ζb]
  congr 1
  refine decide_eq_decide.2 ?_;unfold ec B1
  by_cases k:a.l.sum<b.l.sum
  .simp[eM,k]
  .simp[eM,k,show a.l.sum>b.l.sum by omega]
theorem uX {a b:Sl Int} (B:a.l.length<1073741824):dz a b=some (decide (a.l=b.l)):=by
 refine Wp.eq ?_;unfold dz;rw[bZ];refine⟨λh=>?_,λh=>(aZ _).2 ?_⟩
 .have h:(a.l.length:Int)=b.l.length:=by simpa [len]using h
  have h:a.l.length=b.l.length:=by omega
  unfold dz.W1;refine eV a.l.length (λn s=>s=(n:Int)/\∀i,i<n->a.l[i]? = b.l[i]?) ⟨rfl,λi h=>absurd h (by omega)⟩ ?_ ?_
  .rintro n _ t ⟨rfl,w⟩;unfold dz.br;have z:n<b.l.length:=by omega
   rw[iT t,bS,bK t,ζb,bK z,ζb,bZ];refine⟨λu=>(aZ _).2 ⟨cC n (by omega),λi A=>?_⟩,λu=>(aZ _).2 ((aZ _).2 ?_)⟩
   .by_cases e:i=n
    .subst e;rw[ζd t,ζd z];simpa using u
    .exact w i (by omega)
   .refine(decide_eq_false λe=>?_).symm
    have h1:a.l[n]? = b.l[n]? := by rw[e]
    rw[ζd t,ζd z]at h1;simp at u h1;exact u h1
  .rintro _ ⟨rfl,w⟩;unfold dz.br;rw[iS,b_,aZ];refine(aZ _).2 (decide_eq_true (List.ext_getElem? λi=>?_)).symm
   by_cases A:i<a.l.length
   .exact w i A
   .rw[List.getElem?_eq_none (by omega),List.getElem?_eq_none (by omega)]
 .refine(decide_eq_false λe=>?_).symm
  simp[len,e]at h
theorem fM (s:Sl (Sl Int)):(ins s).length=s.l.length:=by unfold ins;simp
theorem GS (s:Sl (Sl Int)) (i:Nat):(ins s)[i]? = (s.l[i]?).map Sl.l:=by unfold ins;rw[List.getElem?_map]
theorem nv {s:Sl (Sl Int)} {i:Nat} (h:i<s.l.length):(ins s)[i]? = some s.l[i].l:=by rw[GS,ζd h];rfl
theorem Gw {l:Sl (Sl Int)} {c:Sl Int} (W:∀x∈l.l,A1 x.l/\x.l.length=c.l.length) (hc:A1 c.l) (hl:l.l.length<1073741824) (Y:(ins l).Pairwise ec) :
 Wp (fS l c) λr=>r.l.length<=l.l.length+1/\(ins r).Pairwise ec/\∀d,d∈ins r↔d∈ins l\/d=c.l:=by
 have X:=hc.1;have post:∀n:Nat,n<=l.l.length->(∀(i:Nat) x,i<n->(ins l)[i]? = some x->ec x c.l)->(∀x,(ins l)[n]? = some x->¬ec x c.l) ->
  Wp ((bq (decide ((n:Int)<(len l))) ((idx l n).bind λJ=>(dz J c).bind λL=>some L) (some false):Option Bool).bind λO=>
  bq O (some l) ((fR l none (some (n:Int))).bind λz=>(mq (Sl.row []:Sl (Sl Int)) z).bind λA=>(fT A (c:Sl Int)).bind λB=>(fR l (some (n:Int)) none).bind λC=>(mq B C).bind λD=>some D))
  λr=>r.l.length<=l.l.length+1/\(ins r).Pairwise ec/\∀d,d∈ins r↔d∈ins l\/d=c.l:=by
  intro n G Q S;have w:(∀x,(ins l)[n]? = some x->x≠c.l)->Wp ((fR l none (some (n:Int))).bind λz=>(mq (Sl.row []:Sl (Sl Int)) z).bind λA=>(fT A (c:Sl Int)).bind λB=>(fR l (some (n:Int)) none).bind λC=>(mq B C).bind λD=>some D) λr=>r.l.length<=l.l.length+1/\(ins r).Pairwise ec/\∀d,d∈ins r↔d∈ins l\/d=c.l:=by
   intro T;obtain⟨x4,h4,e4⟩:=uA l n G;have aa:x4.l.length<=l.l.length:=by rw[e4,List.length_take];omega
   obtain⟨x5,h5,e5⟩:=v7 (s:=(Sl.row []:Sl (Sl Int))) (x:=x4) (show 0+x4.l.length<=_ by omega)
   have e5:x5.l=x4.l:=e5;obtain⟨x6,h6,e6⟩:=jS (s:=x5) (x:=c) (by rw[e5];omega)
   obtain⟨x7,h7,e7⟩:=GL l n G;obtain⟨x8,X,e8⟩:=v7 (s:=x6) (x:=x7) (by rw[e6,e7,e5,ζi,List.length_drop,List.length_singleton];omega)
   rw[h4,ζb,h5,ζb,h6,ζb,h7,ζb,X,ζb,aZ];have e:x8.l=l.l.take n++[c]++l.l.drop n:=by rw[e8,e6,e7,e5,e4]
   have Z:ins x8=(ins l).take n++[c.l]++(ins l).drop n:=by unfold ins;rw[e];simp[List.map_take,List.map_drop]
   obtain⟨s1,s2⟩:=Jr Y Q λx t=>by
    by_cases k:ec c.l x
    .exact k
    .exact absurd (ec.tot k (S x t)).symm (T x t)
   exact⟨by rw[e];simp;omega,by rw[Z];exact s1,λd=>by rw[Z];exact s2 d⟩
  by_cases h:n<l.l.length
  .rw[iT h,bS,bK h,ζb,uX (by have:=(W _ (List.getElem_mem h)).1.1;omega),ζb,ζb]
   by_cases e:l.l[n].l=c.l
   .rw[decide_eq_true e,bS,aZ];refine⟨by omega,Y,λd=>⟨.inl,λU=>U.elim id λU=>?_⟩⟩
    rw[U,<-e];exact jP.2 ⟨_,List.getElem_mem h,rfl⟩
   .rw[decide_eq_false e,b_];exact w λx t=>by rw[nv h]at t;cases t;exact e
  .rw[show (n:Int)=(l.l.length:Nat)from by omega,iS,b_,ζb,b_,<-show (n:Int)=(l.l.length:Nat)from by omega]
   exact w λx t=>by have:=(ζe.1 t).1;rw[fM]at this;omega
 unfold fS fS.W1;refine eV l.l.length (λn s=>s=(n:Int)/\∀(i:Nat) x,i<n->(ins l)[i]? = some x->ec x c.l) ⟨rfl,λi x h=>absurd h (by omega)⟩ ?_ ?_
 .rintro n _ u ⟨rfl,I⟩;obtain⟨q1,q2⟩:=W _ (List.getElem_mem u);unfold fS.br;rw[iT u,bS,bK u,ζb,Gv q1 hc q2,ζb,ζb]
  by_cases e:ec l.l[n].l c.l
  .rw[decide_eq_true e,bS,aZ];refine⟨cC n (by omega),λi x hi t=>?_⟩
   by_cases e2:i=n
   .subst e2;rw[nv u]at t;cases t;exact e
   .exact I i x (by omega) t
  .rw[decide_eq_false e,b_,aZ];exact post n (by omega) I λx t=>by rw[nv u]at t;cases t;exact e
 .rintro _ ⟨rfl,I⟩;unfold fS.br;rw[iS,b_,ζb,b_,aZ];exact post _ (Nat.le_refl _) I λx t=>by have:=(ζe.1 t).1;rw[fM]at this;omega
section
variable {t:Trace} {A:bP 200 bz}
structure eC (t:Trace) (A:bP 200 bz) (L:List (List Int)):Prop where
 srt:L.Pairwise ec
 mem:∀d,d∈L↔Cons t A d
def yX (t:Trace) (A:bP 200 bz):Prop:=∃L:List (List Int),L.Nodup/\(∀d∈L,Cons t A d)/\5000<L.length
theorem eC.one {L R:List (List Int)} (h:eC t A L) (k:eC t A R):L=R:=BM h.srt k.srt λx=>(h.mem x).trans (k.mem x).symm
theorem eC.not {L:List (List Int)} (h:eC t A L) (B:L.length<=5000) (k:yX t A):False:=by
 obtain⟨R,nd,w,u⟩:=k;have:=z8 nd λx z=>(h.mem x).2 (w x z)
 omega
theorem CZ {k:Nat} {o l:List (List Int)} (h1:∀d,d∈l↔Cons t A d/\d.sum=(k:Int)) (D:l.Pairwise ec) (G:o.Pairwise ec) (B:∀d,d∈o↔Cons t A d/\d.sum<(k:Int)) :
 (o++l).Pairwise ec/\∀d,d∈o++l↔Cons t A d/\d.sum<((k+1:Nat):Int):=by
 refine⟨List.pairwise_append.2 ⟨G,D,λa w b z=>ec.sum (by have:=((B a).1 w).2;have:=((h1 b).1 z).2;omega)⟩,λd=>?_⟩
 rw[List.mem_append,B,h1];constructor
 .rintro (⟨h,k1⟩|⟨h,k1⟩)
  .exact⟨h,by omega⟩
  .exact⟨h,by omega⟩
 .rintro⟨h,k1⟩
  by_cases u:d.sum<(k:Int)
  .exact .inl ⟨h,u⟩
  .exact .inr ⟨h,by omega⟩
theorem Kk (hS:Small t) (O:VT t) (hM:gZ t (bQ t) A):Wp (dN t) λr=>(r.2=true/\eC t A (ins r.1)/\r.1.l.length<=5000)\/(r.2=false/\r.1=.nil/\yX t A):=by
 have ab:=O.few;unfold dN ov;rw[if_pos ⟨by simp[len],by simp[len];omega⟩,ζb]
 unfold dN.W1;have fin:∀(k:Nat) (u out:Sl (Sl Int)),xh t A k u->u.l.length=0->(ins out).Pairwise ec->(∀d,d∈ins out↔Cons t A d/\d.sum<(k:Int))->eC t A (ins out):=λk u out h1 L G Q=>
  ⟨G,λd=>(Q d).trans ⟨λh=>h.1,λh=>⟨h,h1.none O hM L h⟩⟩⟩
 refine eV (kU t+1) (λk s=>xh t A k s.1/\(ins s.1).Pairwise ec/\(ins s.2).Pairwise ec/\(∀d,d∈ins s.2↔Cons t A d/\d.sum<(k:Int))/\s.1.l.length<=40000/\s.2.l.length<=5000)
  ⟨R7 (by simp[Sl.l,len]),by simp[ins,Sl.l],by simp[ins,Sl.l],λd=>⟨λh=>by simp[ins,Sl.l]at h,λh=>absurd (oP h.1.1.pos) (by have:=h.2;simp at this;omega)⟩,by simp[Sl.l],by simp[Sl.l]⟩ ?_ ?_
 .rintro k ⟨u,out⟩ hk ⟨h1,C,w,G,Q,S⟩;simp only at h1 C w G Q S;unfold dN.br;rw[A7]
  by_cases L:u.l.length=0
  .rw[show (!decide (u.l.length=0))=false from by simp[L],b_,aZ]
   exact(aZ _).2 (.inl ⟨rfl,fin k u out h1 L w G,S⟩)
  .rw[show (!decide (u.l.length=0))=true from by simp[L],bS]
   obtain⟨x,hx,T⟩:=v7 (s:=out) (x:=u) (by omega)
   have Z:ins x=ins out++ins u:=by unfold ins;rw[T];simp
   obtain⟨o1,o2⟩:=CZ h1 C w G;rw[<-Z]at o1 o2;rw[hx,ζb,bZ];refine⟨λJ=>(aZ _).2 ((aZ _).2 (.inr ⟨rfl,rfl,ins x,ec.nodup o1,λd hd=>((o2 d).1 hd).1,?_⟩)),λJ=>?_⟩
   .rw[fM];simp[len]at J;omega
   have J:x.l.length<=5000:=by simp[len]at J;omega
   have h6:u.l.length<=5000:=by rw[T,ζi]at J;omega
   have X:∀d,Cons t A d->A1 d/\d.length=t.procs.l.length:=λd h=>⟨Cy hS O h,h.1.1⟩
   unfold dN.W2;refine eV u.l.length (λn s=>s.2=(n:Int)/\s.1.l.length<=8*n/\(ins s.1).Pairwise ec/\∀d,d∈ins s.1↔∃c∈(u.l.take n).map Sl.l,Ak t A c d) ⟨rfl,Nat.zero_le _,by simp[ins,Sl.l],λd=>by simp[ins,Sl.l]⟩ ?_ ?_
   .rintro n ⟨more,_⟩ B ⟨e,g1,gs,g2⟩;simp only at e g1 gs g2;subst e;unfold dN.ck;have aa:=(h1 u.l[n].l).1 (jP.2 ⟨_,List.getElem_mem B,rfl⟩);rw[iT B,bS,bK B,ζb,eD];refine(Qo hS O hM aa.1).mono λnx Y=>?_
    unfold dN.W3;refine eV nx.l.length (λm s=>s.2=(m:Int)/\s.1.l.length<=8*n+m/\(ins s.1).Pairwise ec/\∀d,d∈ins s.1↔d∈ins more\/d∈(nx.l.take m).map Sl.l) ⟨rfl,g1,gs,λd=>by simp⟩ ?_ ?_
    .rintro m ⟨mr,_⟩ D ⟨e,f1,fs,f2⟩;simp only at e f1 fs f2;subst e;unfold dN.dM;rw[iT D,bS,bK D,ζb,eD];have hN:=(Y.2 nx.l[m].l).1 (jP.2 ⟨_,List.getElem_mem D,rfl⟩);obtain⟨_,_,_,_,U⟩:=hN;refine(Gw (l:=mr) (c:=nx.l[m]) (λy hy=>?_) (X _ U).1 (by omega) fs).mono λr hr=>?_
     .have W:Cons t A y.l:=by
       rcases (f2 y.l).1 (jP.2 ⟨_,hy,rfl⟩)with h|h
       .obtain⟨_,_,p,a,_,_,k⟩:=(g2 y.l).1 h;exact k
       .obtain⟨z,hz,e⟩:=List.mem_map.1 h;obtain⟨p,a,_,_,k⟩:=(Y.2 z.l).1 (jP.2 ⟨_,List.mem_of_mem_take hz,rfl⟩);rw[<-e];exact k
      exact⟨(X _ W).1,(X _ W).2.trans (X _ U).2.symm⟩
     .refine(aZ _).2 ⟨cC m (by omega),Nat.le_trans hr.1 (by omega),hr.2.1,λd=>?_⟩
      rw[hr.2.2,f2,uh D,or_assoc]
    .rintro⟨mr,_⟩ ⟨e,f1,fs,f2⟩;simp only at e f1 fs f2;subst e;unfold dN.dM;rw[iS,b_,aZ];refine(aZ _).2 ⟨cC n (by omega),show mr.l.length<=_ by omega,fs,λd=>?_⟩
     rw[f2,List.take_length];constructor
     .rintro (h|h)
      .obtain⟨c,hc,I⟩:=(g2 d).1 h;exact⟨c,(uh B).2 (.inl hc),I⟩
      .exact⟨_,(uh B).2 (.inr rfl),(Y.2 d).1 h⟩
     .rintro⟨c,hc,I⟩;rcases (uh B).1 hc with h|h
      .exact .inl ((g2 d).2 ⟨c,h,I⟩)
      .subst h;exact .inr ((Y.2 d).2 I)
   .rintro⟨more,_⟩ ⟨e,g1,gs,g2⟩;simp only at e g1 gs g2;subst e;unfold dN.ck;rw[iS,b_,aZ];refine(aZ _).2 ⟨λd=>?_,gs,o1,o2,show more.l.length<=_ by omega,J⟩
    rw[g2,List.take_length,<-Ak.iff O hM (k:=k)];exact⟨λ⟨c,hc,I⟩=>⟨c,(h1 c).1 hc,I⟩,λ⟨c,hc,I⟩=>⟨c,(h1 c).2 hc,I⟩⟩
 .rintro⟨u,out⟩ ⟨h1,C,w,G,Q,S⟩;simp only at h1 C w G Q S;unfold dN.br;rw[A7,show (!decide (u.l.length=0))=false from by simp[h1.last],b_,aZ]
  exact(aZ _).2 (.inl ⟨rfl,fin _ u out h1 h1.last w G,S⟩)
theorem Mb (B:VT t) (D:Small t):kU t<8589934600:=by
 have key:∀(l:List cm),(∀p∈l,p.events.l.length<1073741824)->(l.map λP=>P.events.l.length).sum<=1073741824*l.length:=by
  intro l
  induction l with
  | nil=>intro _;simp
  | cons x l u=>
   intro h;have h1:=h x (by simp)
   have w:=u λy z=>h y (List.mem_cons_of_mem _ z)
   simp only[List.map_cons,List.sum_cons,List.length_cons];omega
 have h1:=key t.procs.l λp A=>(D.2 p A).1
 have w:=B.few;unfold kU;omega
theorem P_ {k:Int} {L:List (List Int)} (nd:L.Nodup) (B:L.Pairwise λx y=>¬eM y x<0) (hk:∀d∈L,d.sum=k):L.Pairwise ec:=by
 refine(B.and nd).imp_of_mem λ{x y} t u h=>?_
 have e:x.sum=y.sum:=by rw[hk x t,hk y u]
 rw[ec.Eu e]
 by_cases q:eM x y<0
 .exact q
 .exact absurd (vQ _ _ q h.1) h.2
theorem K9 (U:Small t) (hv:iU t=some true) (G:VT t) (W:gZ t (bQ t) A) :
 Wp (mK t) λr=>(r.2=0/\eC t A (ins r.1)/\r.1.l.length<=5000)\/(r.2=16/\r.1=.nil/\yX t A):=by
 have X:=G.few;have hT:=Mb G U;unfold mK iy;rw[hv,ζb,bS,eD,eD];refine(of_wp U hv G W).mono λm Y=>?_
 unfold ov;rw[if_pos ⟨by simp[len],by simp[len];omega⟩,ζb]
 have fin:∀(k:Nat) (u:Sl (Sl Int)) (out:Sl (Sl (Sl Int))),xh t A k u->u.l.length=0->(out.l.flatMap ins).Pairwise ec->(∀d,d∈out.l.flatMap ins↔Cons t A d/\d.sum<(k:Int))->out.l.length<=5000->(out.l.flatMap ins).length<=5000 ->
  Wp ((eX out).bind λD=>some (D,(0:Int))) λr=>(r.2=0/\eC t A (ins r.1)/\r.1.l.length<=5000)\/(r.2=16/\r.1=.nil/\yX t A):=λk u out h1 I C Z ho hf=>by
  have w:(out.l.flatMap Sl.l).map Sl.l=out.l.flatMap ins:=by rw[List.map_flatMap];rfl
  have hc:(yu out).l=out.l.flatMap Sl.l:=by
   unfold yu;split
   .rename_i h;exact(List.length_eq_zero_iff.1 h).symm
   .rfl
  unfold eX;rw[if_pos ⟨by omega,by rw[<-List.length_map (f:=Sl.l),w];omega⟩,ζb,aZ]
  have e:ins (yu out)=out.l.flatMap ins:=by unfold ins at w ⊢;rw[hc];exact w
  refine .inl ⟨rfl,⟨by rw[e];exact C,λd=>by rw[e];exact(Z d).trans ⟨λh=>h.1,λh=>⟨h,h1.none G W I h⟩⟩⟩,?_⟩
  show (yu out).l.length<=5000;rw[hc,<-List.length_map (f:=Sl.l),w];exact hf
 unfold iy.W1;refine eV (kU t+1) (λk s=>xh t A k s.1/\(ins s.1).Pairwise ec/\(s.2.1.l.flatMap ins).Pairwise ec/\(∀d,d∈s.2.1.l.flatMap ins↔Cons t A d/\d.sum<(k:Int))/\s.2.2=((s.2.1.l.flatMap ins).length:Int)/\s.2.1.l.length<=(s.2.1.l.flatMap ins).length/\(s.2.1.l.flatMap ins).length<=5000/\s.1.l.length<=40000)
  ⟨R7 (by simp[Sl.l,len]),by simp[ins,Sl.l],by simp[Sl.l],λd=>⟨λh=>by simp[Sl.l]at h,λh=>absurd (oP h.1.1.pos) (by have:=h.2;simp at this;omega)⟩,by simp[Sl.l],by simp[Sl.l],by simp[Sl.l],by simp[Sl.l]⟩ ?_ ?_
 .rintro k ⟨u,out,tot⟩ hk ⟨h1,B,z,C,O,Q,J,S⟩;simp only at h1 B z C O Q J S;obtain⟨o1,o2⟩:=CZ h1 B z C;unfold iy.br;rw[A7]
  by_cases I:u.l.length=0
  .rw[show (!decide (u.l.length=0))=false from by simp[I],b_,aZ]
   exact(aZ _).2 (fin k u out h1 I z C (by omega) J)
  .rw[show (!decide (u.l.length=0))=true from by simp[I],bS,O]
   have hw:IntKind.wrap .i64 (((out.l.flatMap ins).length:Int)+len u)=(((out.l.flatMap ins).length+u.l.length:Nat):Int):=by
    have e:len u=(u.l.length:Int):=rfl;rw[e,jU _ (by omega) (by omega)];omega
   rw[hw,bZ];refine⟨λL=>(aZ _).2 ((aZ _).2 ?_),λL=>?_⟩
   .show Wp (((eX (Sl.nil:Sl (Sl (Sl Int)))).bind λD=>some (D,(16:Int)))) _
    have e0:eX (Sl.nil:Sl (Sl (Sl Int)))=some .nil:=by
     unfold eX;rfl
    rw[e0,ζb,aZ];refine .inr ⟨rfl,rfl,out.l.flatMap ins++ins u,ec.nodup o1,λd T=>((o2 d).1 T).1,?_⟩
    have L:=of_decide_eq_true L;rw[ζi,fM];omega
   .have L:=of_decide_eq_false L;obtain⟨o3,g1,g2⟩:=jS (s:=out) (x:=u) (by omega)
    rw[g1,ζb,eD];refine(MO U G W Y h1 (by omega)).mono λr ⟨r1,r2,r3,r4⟩=>?_
    have w:o3.l.flatMap ins=out.l.flatMap ins++ins u:=by rw[g2];simp
    refine(aZ _).2 ⟨r1,P_ r2 r4 λd T=>((r1 d).1 T).2,by rw[w];exact o1,λd=>by rw[w];exact o2 d,by rw[w,ζi,fM],?_,?_,r3⟩
    .show o3.l.length<=_;rw[w,ζi,fM,g2,ζi,List.length_singleton];omega
    .rw[w,ζi,fM];omega
 .rintro⟨u,out,tot⟩ ⟨h1,B,z,C,O,Q,J,S⟩;simp only at h1 B z C O Q J S;unfold iy.br;rw[A7,show (!decide (u.l.length=0))=false from by simp[h1.last],b_,aZ]
  exact(aZ _).2 (fin _ u out h1 h1.last z C (by omega) J)
theorem Jk (B:Small t) (hv:iU t=some true) (D:VT t) (G:gZ t (bQ t) A) :
 (∃L r s,eC t A L/\L.length<=5000/\mK t=some (r,0)/\dN t=some (s,true)/\ins r=L/\ins s=L) \/
 (mK t=some (.nil,16)/\dN t=some (.nil,false)):=by
 obtain⟨⟨r,e⟩,hr,h1⟩:=K9 B hv D G;obtain⟨⟨s,b⟩,w,z⟩:=Kk B D G;rcases h1 with⟨rfl,k1,k2⟩|⟨rfl,rfl,k1⟩
 .rcases z with⟨rfl,u,C⟩|⟨rfl,rfl,u⟩
  .exact .inl ⟨ins r,r,s,k1,by rw[fM];exact k2,hr,w,rfl,u.one k1⟩
  .exact(k1.not (by rw[fM];exact k2) u).elim
 .rcases z with⟨rfl,u,C⟩|⟨rfl,rfl,u⟩
  .exact(u.not (by rw[fM];exact C) k1).elim
  .exact .inr ⟨hr,w⟩
end
end Go.VE
namespace Go.VE
end Go.VE
namespace Go.VE
end Go.VE
namespace Go.VE
theorem Code.one {t:Trace} {A:bP 200 bz} {c:List Int} {r s:Int} (h:Code t A c r) (g:Code t A c s):r=s:=by
 rcases h with⟨h,rfl⟩|⟨h1,u,rfl⟩|⟨h1,u,rfl⟩|⟨h1,u,rfl⟩ <;> rcases g with⟨g,rfl⟩|⟨g1,g2,rfl⟩|⟨g1,g2,rfl⟩|⟨g1,g2,rfl⟩ <;> first|rfl|contradiction|exact absurd ‹rA t c›.1 ‹_›
end Go.VE
namespace Go.VE
section
variable {t:Trace} {A:bP 200 bz}
end
end Go.VE
namespace Go.VE
section
variable {t:Trace} {A:bP 200 bz}
end
end Go.VE
namespace Go.VE
section
variable {t:Trace} {A:bP 200 bz}
end
end Go.VE
namespace Go.VE
section
variable {t:Trace} {A:bP 200 bz}
theorem J8 (D:VT t) {p:Nat} {P:cm} (B:t.procs.l[p]? = some P):P.events.l.length<=64:=by
 have h:=D.ok.heads p (ζe.1 B).1;unfold qA at h;rw[B]at h;simp only at h;split at h
 .split at h
  .cases h
  .split at h
   .split at h
    .cases h
    .omega
   .rename_i u;exact absurd h u
 .cases h
theorem Ph (B:VT t):kU t<1073741824:=by
 have key:∀l:List cm,(∀P∈l,P.events.l.length<=64)->(l.map λP=>P.events.l.length).sum<=64*l.length:=by
  intro l
  induction l with
  | nil=>intro _;simp
  | cons P l u=>
   intro h;have h1:=h P (List.mem_cons_self ..);have C:=u λQ w=>h Q (List.mem_cons_of_mem _ w)
   simp only[List.map_cons,List.sum_cons,List.length_cons];omega
 have:=key t.procs.l λP z=>by
  obtain⟨p,A⟩:=List.mem_iff_getElem?.1 z;exact J8 B A
 have:=B.few;unfold kU;omega
end
end Go.VE
namespace Go.VE
abbrev lV (m:Option Bool) (P:Prop):Prop:=Wp m λb=>(b=true↔P)
theorem lV.eq {m:Option Bool} {P:Prop} (h:lV m P):∃b,m=some b/\(b=true↔P):=h
theorem lV.iff {m:Option Bool} {P Q:Prop} (h:lV m P) (e:P↔Q):lV m Q:=h.mono λb t=>t.trans e
theorem Oq {b:Bool} {P:Prop} (h:b=true↔P):lV (some b) P:=(aZ _).2 h
theorem lV.some {m:Option Bool} {P:Prop} (h:lV m P):lV (m.bind λx=>Option.some x) P:=by
 obtain⟨b,t,h⟩:=h;rw[t];exact Oq h
theorem lV.same {m n:Option Bool} {P:Prop} (h:lV m P) (k:lV n P):∃b,m=Option.some b/\n=Option.some b/\(b=true↔P):=by
 obtain⟨b,t,h⟩:=h;obtain⟨d,u,k⟩:=k;have:b=d:=by rw[Bool.eq_iff_iff,h,k]
 subst this;exact⟨b,t,u,h⟩
theorem lV.and {m n:Option Bool} {P Q:Prop} (h:lV m P) (k:P->lV n Q) {f:Bool->Option Bool} (B:∀b,f b=bq b (n.bind λx=>Option.some x) (Option.some false)):lV (m.bind f) (P/\Q):=by
 obtain⟨b,t,h⟩:=h;rw[t,ζb,B]
 cases b with
 | true=>exact((k (h.1 rfl)).some).iff ⟨λq=>⟨h.1 rfl,q⟩,λq=>q.2⟩
 | false=>exact Oq ⟨λe=>(nomatch e),λq=>(h.2 q.1).symm▸rfl⟩
def G6 (a b:List Int):Prop:=a.length=b.length/\∀(p:Nat) (x y:Int),a[p]? = some x->b[p]? = some y->x<=y
section
variable {t:Trace} {A:bP 200 bz}
end
end Go.VE
namespace Go.VE
section
variable {t:Trace} {A:bP 200 bz}
def wL (g:Int->Int->Int) (a b c:List Int):Prop:=c.length=a.length/\∀(p:Nat) (x y:Int),a[p]? = some x->b[p]? = some y->c[p]? = some (g x y)
theorem wL.of (g:Int->Int->Int) {a b:List Int} (h:a.length=b.length):wL g a b (List.zipWith g a b):=
 ⟨by simp[h],λp x y t u=>by rw[List.getElem?_zipWith,t,u]⟩
theorem wL.at_ {g:Int->Int->Int} {a b c:List Int} (h:wL g a b c) (D:a.length=b.length) {p:Nat} {z:Int} (B:c[p]? = some z):∃x y,a[p]? = some x/\b[p]? = some y/\z=g x y:=by
 have t:p<a.length:=by rw[<-h.1];exact(ζe.1 B).1
 refine⟨a[p],b[p]'(by omega),ζd t,ζd (by omega),?_⟩
 have:=h.2 p _ _ (ζd t) (ζd (show p<b.length by omega))
 rw[B]at this;cases this;rfl
theorem G6.trans {a b c:List Int} (h:G6 a b) (k:G6 b c):G6 a c:=by
 refine⟨h.1.trans k.1,λp x z t u=>?_⟩
 have w:p<b.length:=by rw[<-h.1];exact(ζe.1 t).1
 have e:=ζd w;exact Int.le_trans (h.2 p x _ t e) (k.2 p _ z e u)
theorem G6.refl (a:List Int):G6 a a:=⟨rfl,λp x y u t=>by rw[u]at t;cases t;exact Int.le_refl _⟩
end
end Go.VE
namespace Go.VE
section
variable {t:Trace} {A:bP 200 bz}
theorem wL.one {g:Int->Int->Int} {a b c d:List Int} (h:wL g a b c) (k:wL g a b d) (B:a.length=b.length):c=d:=by
 refine List.ext_getElem? λp=>?_
 by_cases t:p<a.length
 .rw[h.2 p _ _ (ζd t) (ζd (by omega)),k.2 p _ _ (ζd t) (ζd (by omega))]
 .rw[List.getElem?_eq_none (by rw[h.1];omega),List.getElem?_eq_none (by rw[k.1];omega)]
def eO (l:Sl Bool) (i:Nat):Bool:=(l.l[i]?).getD false
theorem zp {l:Sl Bool} {i:Nat} (h:i<l.l.length):idx l (i:Int)=some (eO l i):=by
 rw[lH,ζd h];unfold eO;rw[ζd h];rfl
end
end Go.VE
namespace Go.VE
section
variable {t:Trace} {A:bP 200 bz}
end
end Go.VE
namespace Go.VE
section
variable {t:Trace} {A:bP 200 bz}
theorem xK {L:List (List Int)} (h:L.Nodup) {i:Nat} {c:List Int} (hc:L[i]? = some c):L.idxOf c=i:=by
 obtain⟨t,e⟩:=ζe.1 hc;rw[<-e];exact List.Nodup.idxOf_getElem h i t
theorem Co {L:List (List Int)} {c:List Int} (h:c∈L):L[L.idxOf c]? = some c:=by
 have t:=List.idxOf_lt_length_of_mem h;rw[ζd t,List.getElem_idxOf]
theorem wL.zip {g:Int->Int->Int} {a b c:List Int} (h:wL g a b c) (B:a.length=b.length):c=List.zipWith g a b:=by
 refine h.one ⟨by simp[B],λp x y t u=>?_⟩ B
 rw[List.getElem?_zipWith,t,u]
end
end Go.VE
namespace Go.VE
def qu (L:List (List Int)) (c:List Int):List Nat:=(List.range c.length).filterMap λp=>if bump c p 1∈L then some (L.idxOf (bump c p 1))else none
theorem Md {c:List Int} {p:Nat} {d:Int}:(bump c p d).length=c.length:=by unfold bump;simp
theorem Ml {c:List Int} {p:Nat} (h:p<c.length):(bump c p 1).sum=c.sum+1:=by
 unfold bump;have h1:c[p]? = some c[p]:=ζd h;rw[tZ h1,h1];simp;omega
theorem Ck {L:List (List Int)} {c:List Int} {k:Nat}:k∈qu L c↔∃p,p<c.length/\bump c p 1∈L/\k=L.idxOf (bump c p 1):=by
 unfold qu;rw[List.mem_filterMap];constructor
 .rintro⟨p,t,h⟩;split at h
  .rename_i u;cases h;exact⟨p,List.mem_range.1 t,u,rfl⟩
  .cases h
 .rintro⟨p,t,u,rfl⟩;exact⟨p,List.mem_range.2 t,by rw[if_pos u]⟩
section
variable {t:Trace} {A:bP 200 bz} {L:List (List Int)}
theorem eC.nodup (h:eC t A L):L.Nodup:=ec.nodup h.srt
theorem eC.lt (h:eC t A L) {i k:Nat} {c d:List Int} (B:L[i]? = some c) (hk:L[k]? = some d) (D:c.sum<d.sum):i<k:=by
 rcases Nat.lt_trichotomy i k with g|g|g
 .exact g
 .subst g;rw[B]at hk;cases hk;omega
 .obtain⟨u,rfl⟩:=ζe.1 B;obtain⟨w,rfl⟩:=ζe.1 hk;exact absurd ((List.pairwise_iff_getElem.1 h.srt k i w u g).tr (ec.sum D)) (ec.Kn _)
theorem RW (h:eC t A L) {i k:Nat} {c:List Int} (B:L[i]? = some c) (hk:k∈qu L c):i<k/\k<L.length:=by
 obtain⟨p,w,u,rfl⟩:=Ck.1 hk;exact⟨h.lt B (Co u) (by rw[Ml w];omega),List.idxOf_lt_length_of_mem u⟩
theorem eC.len (h:eC t A L) {c:List Int} (hc:c∈L):c.length=t.procs.l.length:=((h.mem _).1 hc).1.1
end
theorem E9 {a b:List Int} (h:a.length=b.length) (B:a.length<=8) (e:lJ 8 (.row a)=lJ 8 (.row b)):a=b:=by
 have e2:lY 8 a=lY 8 b:=congrArg bP.l e;unfold lY at e2;rw[List.take_of_length_le B,List.take_of_length_le (by omega)]at e2
 exact(List.append_inj e2 h).1
theorem Qp (s:Sl Int):lJ 8 s=lJ 8 (.row s.l):=rfl
def u6 (L:List (List Int)) (n:Nat):Mo (bP 8 Int) Int:=(L.take n).map λc=>(lJ 8 (.row c),(L.idxOf c:Int))
theorem BX {L:List (List Int)} {n m:Nat} (B:∀c∈L,c.length=n) (D:n<=8) {c:List Int} (hc:c.length=n):lJ 8 (.row c)∈(u6 L m).map (·.1)↔c∈L.take m:=by
 unfold u6;rw[List.map_map,List.mem_map];constructor
 .rintro⟨d,t,e⟩;have:=E9 (by rw[B d (List.mem_of_mem_take t),hc]) (by rw[B d (List.mem_of_mem_take t)];exact D) e
  rwa [<-this]
 .intro h;exact⟨c,h,rfl⟩
theorem NH {L:List (List Int)} {n m:Nat} (B:∀c∈L,c.length=n) (D:n<=8) {c:List Int} (hc:c.length=n):nQ (lJ 8 (.row c)) (u6 L m)=if c∈L.take m then some (L.idxOf c:Int)else none:=by
 by_cases h:c∈L.take m
 .rw[if_pos h];obtain⟨v,hv,t⟩:=xW ((BX B D hc).2 h);rw[hv];unfold u6 at t;obtain⟨d,u,e⟩:=List.mem_map.1 t;have:=E9 (by rw[B d (List.mem_of_mem_take u),hc]) (by rw[B d (List.mem_of_mem_take u)];exact D) (Prod.mk.inj e).1
  rw[<-(Prod.mk.inj e).2,this]
 .rw[if_neg h,wB (λk=>h ((BX B D hc).1 k))]
theorem OW {L:List (List Int)} {n m:Nat} (B:∀c∈L,c.length=n) (G:n<=8) (D:L.Nodup) {c:List Int} (J:L[m]? = some c):nP (u6 L m) (lJ 8 (.row c)) (m:Int)=u6 L (m+1):=by
 obtain⟨t,rfl⟩:=ζe.1 J;have hc:=B _ (List.getElem_mem t);rw[oG (λk=>?_)]
 .unfold u6;rw[List.take_succ_eq_append_getElem t,List.map_append,List.map_singleton,List.Nodup.idxOf_getElem D]
 .have h1:=(BX B G hc).1 k;obtain⟨j,u,e⟩:=List.mem_iff_getElem.1 h1;rw[List.length_take]at u;rw[List.getElem_take]at e;have:=(List.getElem_inj D).1 e;omega
section
variable {t:Trace} {A:bP 200 bz} {L:List (List Int)}
def ixs (l:List Nat):List Int:=l.map λ(k:Nat)=>(k:Int)
structure RA (L:List (List Int)) (x:bG):Prop where
 list:ins x.list=L
 len:x.next.l.length=L.length
 next:∀(i:Nat) (c:List Int) (s:Sl Int),L[i]? = some c->x.next.l[i]? = some s->s.l=ixs (qu L c)
theorem NC (hS:Small t) (hV:VT t) (D:eC t A L) (ak:L.length<=5000) {r:Sl (Sl Int)} (hc:mK t=some (r,0)) (hr:ins r=L):Wp (c_ t) λq=>∃x,q=(some x,0)/\RA L x:=by
 have h8:=hV.few;have W:r.l.length=L.length:=by rw[<-fM,hr]
 have hL:∀c∈L,c.length=t.procs.l.length:=λc h=>D.len h
 have X:∀{i:Nat} (w:i<r.l.length),L[i]? = some r.l[i].l:=λw=>by rw[<-hr];exact nv w
 unfold c_ uJ;rw[hc,ζb,ζb];simp only;rw[show ((0:Int)==0)=true from rfl,bS];unfold c_.W1;refine eV r.l.length (λi (q:Int×Mo (bP 8 Int) Int×bG)=>q.1=(i:Int)/\q.2.1=u6 L i/\q.2.2.list=r/\q.2.2.next=.nil) ⟨rfl,rfl,rfl,rfl⟩ ?_ ?_
 .rintro i ⟨m,ky,x⟩ w ⟨e,h1,J,O⟩;simp only at e h1 J O;subst e;subst h1;subst J;unfold c_.br kW;rw[iT w,bS,bK w,ζb,ζb,aZ];refine⟨cC i (by omega),?_,rfl,rfl⟩
  show nP _ (lJ 8 (x.list.l[i])) _=_;rw[Qp];exact OW hL h8 D.nodup (X w)
 .rintro⟨m,ky,x⟩ ⟨e,h1,J,O⟩;simp only at e h1 J O;subst e;subst h1;subst J;unfold c_.br;rw[iS,b_,aZ];show Wp (c_.W2 _ _ _ _ _) _;unfold c_.W2;have Q:u6 L x.list.l.length=u6 L L.length:=by rw[W]
  rw[Q];refine eV x.list.l.length (λi (q:Int×Mo (bP 8 Int) Int×bG)=>q.1=(i:Int)/\q.2.1=u6 L L.length/\q.2.2.list=x.list/\q.2.2.next.l.length=i/\∀(j:Nat) (c:List Int) (s:Sl Int),j<i->L[j]? = some c->q.2.2.next.l[j]? = some s->s.l=ixs (qu L c))
   ⟨rfl,rfl,rfl,rfl,λj c s h=>absurd h (by omega)⟩ ?_ ?_
  .rintro i ⟨m,ky,y⟩ w ⟨e,h1,J,O,Y⟩;simp only at e h1 J O Y;subst e;subst h1;unfold c_.ck;rw[iT w,bS,bK w,ζb];have S:=X w;generalize al:x.list.l[i]=u at S;have hm:=List.mem_of_getElem? S;have ae:=hL _ hm;unfold c_.W3;refine eV u.l.length (λp (q:Sl Int×Int×bG)=>q.2.1=(p:Int)/\q.1.l=ixs ((List.range p).filterMap λp=>if bump u.l p 1∈L then some (L.idxOf (bump u.l p 1))else none)/\q.1.l.length<=p/\q.2.2.list=x.list/\q.2.2.next=y.next)
    ⟨rfl,rfl,Nat.le_refl _,J,rfl⟩ ?_ ?_
   .rintro p ⟨B,m,z⟩ T ⟨e,g1,g2,g3,g4⟩;simp only at e g1 g2 g3 g4;subst e;unfold c_.dM kW;rw[show len u=(u.l.length:Int)from rfl,iT (s:=u) T,bS,ζb];have am:p<(lY 8 u.l).length:=by unfold lY;simp;omega
    have af:(lJ 8 u).l[p]? = some u.l[p]:=by
     show (lY 8 u.l)[p]? = _;unfold lY;rw[List.take_of_length_le (by omega),List.getElem?_append_left T,ζd T]
    have Z:bP.at (lJ 8 u) (p:Int)=some u.l[p]:=by
     unfold bP.at;rw[if_pos (by omega)];simpa using af
    have hC:=(D.mem _).1 hm;obtain⟨P,hP⟩:∃P,t.procs.l[p]? = some P:=⟨_,ζd (by omega)⟩
    have an:=hC.1.2 p u.l[p] P (ζd T) hP;have ah:=Cy hS hV hC;have ao:=ah.2 u.l[p] (List.getElem_mem T);rw[Z,ζb,ζb,jU _ (by omega) (by omega)]
    have aa:bP.set (lJ 8 u) (p:Int) (u.l[p]+1)=lJ 8 (.row (bump u.l p 1)):=by
     have:∀(a b:bP 8 Int),a.l=b.l->a=b:=λa b h=>by cases a;cases b;cases h;rfl
     apply this;show (lY 8 u.l).set _ _=lY 8 (bump u.l p 1);unfold lY bump;rw[List.take_of_length_le (by omega),List.take_of_length_le (by simp;omega)]
     rw[List.set_append_left _ _ (by simpa using T)]
     simp[T]
    rw[aa];have ai:(bump u.l p 1).length=t.procs.l.length:=by rw[Md];exact ae
    have C:=NH (m:=L.length) hL h8 ai;rw[List.take_length]at C;have G:(List.range (p+1)).filterMap (λp=>if bump u.l p 1∈L then some (L.idxOf (bump u.l p 1))else none)=(List.range p).filterMap (λp=>if bump u.l p 1∈L then some (L.idxOf (bump u.l p 1))else none)++(if bump u.l p 1∈L then [L.idxOf (bump u.l p 1)]else []):=by
     rw[List.range_succ,List.filterMap_append]
     congr 1
     by_cases hb:bump u.l p 1∈L <;> simp[hb]
    by_cases hb:bump u.l p 1∈L
    .rw[if_pos hb]at C G;rw[show xB (u6 L L.length) (lJ 8 (.row (bump u.l p 1)))=true from by unfold xB;rw[C];rfl,bS]
     obtain⟨o,k1,k2⟩:=jS (s:=B) (x:=sY (u6 L L.length) (lJ 8 (.row (bump u.l p 1))) 0) (by omega)
     rw[k1,ζb,aZ];refine⟨cC p (by omega),?_,?_,g3,g4⟩
     .show o.l=_;rw[k2,G,g1];unfold ixs sY;rw[C];simp
     .show o.l.length<=_;rw[k2,ζi,List.length_singleton];omega
    .rw[if_neg hb]at C G;rw[show xB (u6 L L.length) (lJ 8 (.row (bump u.l p 1)))=false from by unfold xB;rw[C];rfl,b_,aZ]
     exact⟨cC p (by omega),by show B.l=_;rw[G,List.append_nil];exact g1,by show B.l.length<=_;omega,g3,g4⟩
   .rintro⟨B,m,z⟩ ⟨e,g1,g2,g3,g4⟩;simp only at e g1 g2 g3 g4;subst e;unfold c_.dM;rw[show len u=(u.l.length:Int)from rfl,iS (s:=u),b_,aZ];obtain⟨o,k1,k2⟩:=jS (s:=z.next) (x:=B) (by rw[g4,O];omega)
    show Wp ((fT z.next B).bind _) _;rw[k1,ζb,aZ];refine⟨cC i (by omega),rfl,g3,?_,λj c s hj U I=>?_⟩
    .show o.l.length=_;rw[k2,g4,ζi,O];rfl
    .replace I:o.l[j]? = some s:=I
     rw[k2,g4]at I
     by_cases aj:j<i
     .rw[List.getElem?_append_left (by omega)]at I
      exact Y j c s aj U I
     .have:j=i:=by omega
      subst this;rw[List.getElem?_append_right (by omega),O,Nat.sub_self]at I
      cases I;rw[S]at U;cases U;exact g1
  .rintro⟨m,ky,y⟩ ⟨e,h1,ab,ad,Y⟩;simp only at e h1 ab ad Y;subst e;subst h1;unfold c_.ck;rw[iS,b_,aZ];refine(aZ _).2 ⟨_,rfl,by show ins y.list=L;rw[ab];exact hr,by show y.next.l.length=_;rw[ad,W],λi c s w I=>Y i c s ?_ w I⟩
   have:=(ζe.1 w).1;omega
end
end Go.VE
namespace Go.VE
section
variable {L:List (List Int)} {f:Nat->Bool}
inductive Rc (L:List (List Int)) (f:Nat->Bool):Nat->Prop
 | zero:Rc L f 0
 | step {i k:Nat} {c:List Int}:Rc L f i->f i=false->L[i]? = some c->k∈qu L c->Rc L f k
def vm (L:List (List Int)):Prop:=∀(i k:Nat) c,L[i]? = some c->k∈qu L c->i<k/\k<L.length
def De (L:List (List Int)) (f:Nat->Bool) (i k:Nat):Prop:=k=0\/∃j c,j<i/\Rc L f j/\f j=false/\L[j]? = some c/\k∈qu L c
theorem Cs (hg:vm L) {i k:Nat} (h:k<=i):De L f i k↔Rc L f k:=by
 constructor
 .rintro (rfl|⟨j,c,_,h1,w,t,u⟩)
  .exact .zero
  .exact .step h1 w t u
 .intro hr
  cases hr with
  | zero=>exact .inl rfl
  | step h1 w t u=>exact .inr ⟨_,_,by have:=(hg _ _ _ t u).1;omega,h1,w,t,u⟩
theorem oe {i k:Nat} {c:List Int} (B:L[i]? = some c):De L f (i+1) k↔De L f i k\/(Rc L f i/\f i=false/\k∈qu L c):=by
 constructor
 .rintro (h|⟨j,d,z,h1,u,t,w⟩)
  .exact .inl (.inl h)
  .by_cases e:j=i
   .subst e;rw[B]at t;cases t;exact .inr ⟨h1,u,w⟩
   .exact .inl (.inr ⟨j,d,by omega,h1,u,t,w⟩)
 .rintro ((h|⟨j,d,z,h1⟩)|⟨h1,u,t⟩)
  .exact .inl h
  .exact .inr ⟨j,d,by omega,h1⟩
  .exact .inr ⟨i,c,by omega,h1,u,B,t⟩
theorem Fj {k:Nat}:De L f 0 k↔k=0:=⟨λh=>h.elim id λ⟨_,_,h,_⟩=>absurd h (by omega),.inl⟩
open Classical in
noncomputable def outs (L:List (List Int)) (f:Nat->Bool):Nat->List (List Int)
 | 0=>[]
 | n+1=>outs L f n++if Rc L f n/\f n=true then L[n]?.toList else []
theorem yS {n:Nat} (h:¬(Rc L f n/\f n=true)):outs L f (n+1)=outs L f n:=by
 show _++_=_;rw[if_neg h,List.append_nil]
theorem Ax {n:Nat} {c:List Int} (h:Rc L f n) (B:f n=true) (hc:L[n]? = some c):outs L f (n+1)=outs L f n++[c]:=by
 show _++_=_;rw[if_pos ⟨h,B⟩,hc];rfl
theorem tM {r:Sl Bool} {k:Nat} (h:k<r.l.length):Sl.get r k=some (eO r k):=by
 unfold Sl.get eO;rw[ζd h];rfl
theorem vN {r s:Sl Bool} {k:Nat} (h:k<r.l.length) (B:s.l=r.l.set k true) (j:Nat):eO s j=true↔eO r j=true\/j=k:=by
 unfold eO;rw[B,List.getElem?_set]
 by_cases e:k=j
 .subst e;rw[if_pos rfl,if_pos h];simp
 .rw[if_neg e];simp[Ne.symm e]
theorem Hy {n:Nat} (h:n<=2147483648):ov (n:Int) (false:Bool)=some (.row (List.replicate n false)):=by
 unfold ov;rw[if_pos ⟨by omega,by omega⟩];rfl
theorem Hj {n k:Nat}:eO (.row (List.replicate n false)) k=false:=by
 unfold eO;show ((List.replicate n false)[k]?).getD false=false;rw[List.getElem?_replicate];split <;> rfl
theorem Dy {n:Nat} (h0:0<n) (h:n<=2147483648) {β:Type} {k:Sl Bool->Option β} {P:β->Prop} (hk:∀r:Sl Bool,r.l.length=n->(∀j,eO r j=true↔j=0)->Wp (k r) P) :
 Wp ((ov (n:Int) (false:Bool)).bind λB=>(Sl.jf B 0).bind λD=>(Sl.put B D (true:Bool)).bind k) P:=by
 rw[Hy h,ζb];have t:(Sl.row (List.replicate n false)).l.length=n:=by simp[Sl.l]
 rw[show (0:Int)=((0:Nat):Int)from rfl,lF (by rw[t];exact h0),ζb]
 obtain⟨r,h1,u⟩:=put_eq (s:=Sl.row (List.replicate n false)) (p:=0) (x:=true) (by rw[t];exact h0)
 rw[h1,ζb];refine hk r (by rw[u,List.length_set,t]) λj=>?_
 rw[vN (by rw[t];exact h0) u,Hj];simp
theorem zm {l:List Nat} {m:Nat} (h:m<l.length):(ixs l)[m]? = some (l[m]:Int):=by
 unfold ixs;rw[List.getElem?_map,ζd h];rfl
theorem zg {l:List Nat}:(ixs l).length=l.length:=by unfold ixs;simp
theorem HW {x:bG} (U:RA L x) (hg:vm L) (hN:0<L.length) (h5:L.length<=5000) (W:∀c∈L,0<c.length/\c.length<=8) {b:Sl Bool} (hb:b.l.length=L.length) :
 Wp (cD x b) λq=>(q=(.nil,false)/\Rc L (eO b) (L.length-1)/\eO b (L.length-1)=false)\/(q.2=true/\¬(Rc L (eO b) (L.length-1)/\eO b (L.length-1)=false)/\ins q.1=outs L (eO b) L.length):=by
 have w:x.list.l.length=L.length:=by rw[<-fM,U.list]
 have X:∀{i:Nat} (J:i<x.list.l.length),L[i]? = some x.list.l[i].l:=λJ=>by rw[<-U.list];exact nv J
 unfold cD;rw[show (len x.list:Int)=((L.length:Nat):Int)from by show ((x.list.l.length:Nat):Int)=_;rw[w]]
 refine Dy hN (by omega) λr0 Y hz=>?_
 unfold cD.W1;refine eV x.list.l.length (λi (q:Sl Bool×Sl (Sl Int)×Int)=>q.2.2=(i:Int)/\q.1.l.length=L.length/\(∀k,k<L.length->(eO q.1 k=true↔De L (eO b) i k))/\ins q.2.1=outs L (eO b) i/\q.2.1.l.length<=i/\(i=L.length->¬(Rc L (eO b) (L.length-1)/\eO b (L.length-1)=false)))
  ⟨rfl,Y,λk _=>(hz k).trans Fj.symm,rfl,Nat.le_refl _,λh=>absurd h (by omega)⟩ ?_ ?_
 .rintro i ⟨r,o,_⟩ J ⟨e,h1,A,B,Z,S⟩;simp only at e h1 A B Z S;subst e;have u:i<L.length:=by omega
  unfold cD.br;rw[show decide ((i:Int)<((L.length:Nat):Int))=true from decide_eq_true (by omega),bS,bK J,ζb,lF (by rw[h1];exact u),ζb,tM (by rw[h1];exact u),ζb]
  have t:=X J;have z:=List.mem_of_getElem? t;generalize x.list.l[i]=C at t z;have O:=(A i u).trans (Cs hg (Nat.le_refl i));rw[bZ];constructor
  .intro T;have D:=O.1 T;rw[zp (by rw[hb];exact u),ζb,bZ]
   constructor
   .intro G;obtain⟨d,hd,aa⟩:=Gd (c:=C) (by have:=(W _ z).2;omega) (W _ z).1
    obtain⟨o',k1,k2⟩:=jS (s:=o) (x:=d) (by omega)
    rw[hd,ζb,k1,ζb,aZ];refine⟨cC i (by omega),h1,λk hk=>(A k hk).trans ⟨λh=>(oe t).2 (.inl h),λh=>((oe t).1 h).elim id λh=>by rw[G]at h;exact absurd h.2.1 (by simp)⟩,?_,?_,λh q=>?_⟩
    .show ins o'=_;rw[Ax D G t,<-B];unfold ins;rw[k2];simp[aa]
    .show o'.l.length<=_;rw[k2];simp;omega
    .rw[show L.length-1=i from by omega,G]at q;exact absurd q.2 (by simp)
   .intro G;rw[show (len x.list:Int)=((L.length:Nat):Int)from by show ((x.list.l.length:Nat):Int)=_;rw[w],jU _ (by omega) (by omega),bZ]
    constructor
    .intro e;have e:(i:Int)=(L.length:Int)-1:=by simpa using e
     have e:L.length-1=i:=by omega
     refine(aZ _).2 ((aZ _).2 (.inl ⟨rfl,?_,?_⟩))
     .rw[e];exact D
     .rw[e];exact G
    .intro e;have e:¬(i:Int)=(L.length:Int)-1:=by simpa using e
     have Q:i<x.next.l.length:=by rw[U.len];exact u
     have hsl:=U.next i C.l _ t (ζd Q);rw[bK Q,ζb];generalize x.next.l[i]=s at hsl;have ab:s.l.length=(qu L C.l).length:=by rw[hsl,zg]
     have ae:(qu L C.l).length<=8:=by
      unfold qu;refine Nat.le_trans (List.length_filterMap_le _ _) ?_;rw[List.length_range];exact(W _ z).2
     unfold cD.W2;refine eV s.l.length (λm (q:Sl Bool×Int×Int)=>q.2.2=(m:Int)/\q.2.1=len s/\q.1.l.length=L.length/\∀k,k<L.length->(eO q.1 k=true↔De L (eO b) i k\/k∈(qu L C.l).take m)) ⟨rfl,rfl,h1,λk hk=>(A k hk).trans (by simp)⟩ ?_ ?_
     .rintro m ⟨r,_,_⟩ hm ⟨e1,e2,g1,g2⟩;simp only at e1 e2 g1 g2;subst e1;subst e2;unfold cD.ck;have I:m<(qu L C.l).length:=by omega
      have hk:=hg i _ _ t (List.getElem_mem I);rw[iT hm,bS,lH,hsl,zm I,ζb,lF (by rw[g1];exact hk.2),ζb]
      obtain⟨r',k1,k2⟩:=put_eq (s:=r) (p:=(qu L C.l)[m]) (x:=true) (by rw[g1];exact hk.2)
      rw[k1,ζb,aZ];refine⟨cC m (by omega),rfl,by show r'.l.length=_;rw[k2,List.length_set,g1],λk ad=>?_⟩
      rw[vN (by rw[g1];exact hk.2) k2,g2 k ad,List.take_succ_eq_append_getElem I,List.mem_append,List.mem_singleton,or_assoc]
     .rintro⟨r,_,_⟩ ⟨e1,e2,g1,g2⟩;simp only at e1 e2 g1 g2;subst e1;subst e2;unfold cD.ck;rw[iS,b_,aZ];refine(aZ _).2 ⟨cC i (by omega),g1,λk hk=>?_,?_,by show o.l.length<=_;omega,λh=>absurd h (by omega)⟩
      .rw[g2 k hk,oe t,ab,List.take_length];exact⟨λh=>h.imp id λh=>⟨D,G,h⟩,λh=>h.imp id λh=>h.2.2⟩
      .show ins o=_;rw[yS (λh=>by rw[G]at h;exact absurd h.2 (by simp))];exact B
  .intro T;have D:¬Rc L (eO b) i:=λh=>by rw[O.2 h]at T;cases T
   rw[aZ];refine⟨cC i (by omega),h1,λk hk=>(A k hk).trans ⟨λh=>(oe t).2 (.inl h),λh=>((oe t).1 h).elim id λh=>absurd h.1 D⟩,?_,by show o.l.length<=_;omega,λh q=>D ?_⟩
   .show ins o=_;rw[yS (λh=>D h.1)];exact B
   .rw[show L.length-1=i from by omega]at q;exact q.1
 .rintro⟨r,o,_⟩ ⟨e,h1,A,B,Z,S⟩;simp only at e h1 A B Z S;subst e;unfold cD.br;rw[show decide (((x.list.l.length:Nat):Int)<((L.length:Nat):Int))=false from decide_eq_false (by omega),b_,aZ]
  refine(aZ _).2 (.inr ⟨rfl,?_,?_⟩)
  .exact S w
  .rw[<-w];exact B
end
end Go.VE
namespace Go.VE
theorem Kx {a b:Sl Int} (B:a.l.length<1073741824):kz a b=some (decide (a.l=b.l)):=(rfl:kz a b=dz a b).trans (uX B)
theorem CQ {a b:Sl Int} (B:a.l.length<1073741824):jC a b=some (decide (a.l=b.l)):=(rfl:jC a b=dz a b).trans (uX B)
def ps (L:List (List Int)) (c:List Int) (n:Nat):List Nat:=(List.range n).filter λp=>decide (bump c p 1∈L)
theorem GU (L:List (List Int)) (c:List Int) (n:Nat):ps L c (n+1)=ps L c n++if bump c n 1∈L then [n]else []:=by
 unfold ps;rw[List.range_succ,List.filter_append]
 congr 1
 by_cases h:bump c n 1∈L <;> simp[h]
theorem Ky (L:List (List Int)) (c:List Int):qu L c=(ps L c c.length).map λp=>L.idxOf (bump c p 1):=by
 unfold qu ps
 induction List.range c.length with
 | nil=>rfl
 | cons a l t=>by_cases h:bump c a 1∈L <;> simp[h,t]
theorem EX (L:List (List Int)) (c:List Int):(ps L c c.length).length<=c.length:=by
 unfold ps;refine Nat.le_trans (List.length_filter_le _ _) ?_;rw[List.length_range];exact Nat.le_refl _
theorem D_ {L:List (List Int)} {c:List Int} {n p:Nat}:p∈ps L c n↔p<n/\bump c p 1∈L:=by unfold ps;simp
theorem G2 {c:List Int} {p:Nat} {a:Int} (h:c[p]? = some a):bump c p 1=c.set p (a+1):=by unfold bump;rw[h];rfl
section
variable {t:Trace} {A:bP 200 bz} {L:List (List Int)}
theorem O2 (hS:Small t) (W:VT t) (Y:gZ t (bQ t) A) (D:eC t A L) {c:Sl Int} (hC:Cons t A c.l) {p:Nat} (hp:p<c.l.length) :
 ((sH t c (p:Int)).bind λaa=>(bq aa ((idx c (p:Int)).bind λab=>(sA t c (p:Int) ab).bind λad=>some ad) (some false):Option Bool))=some (decide (bump c.l p 1∈L)):=by
 have ae:=hC.1.1;have z:p<t.procs.l.length:=by omega
 have G:=ζd z;have I:=ζd hp;have hr:=hC.1.2 p _ _ I G;have af:=(hS.2 _ (List.getElem_mem z)).1;refine Wp.eq ?_;unfold sH;rw[bK hp,ζb,bK z,ζb,ζb,G2 I];generalize c.l[p]=a at *;have X:idx t.procs (p:Int)=some t.procs.l[p]:=bK z;generalize t.procs.l[p]=P at *;rw[bZ];constructor
 .intro u;have u:a<(P.events.l.length:Int):=by simpa [len]using u
  have B:a.toNat<P.events.l.length:=by omega
  rw[ζb];unfold sA;have J:lE t p a.toNat P.events.l[a.toNat]:=⟨P,G,ζd B⟩;rw[X,ζb,Is hr.1,ζd B,ζb];have O:=Cons.up W Y hC G I u;have C:=D.mem (c.l.set p (a+1));have S:Ju t A c.l p↔(P.events.l[a.toNat].kind=3->∃b,c.l[(ag A P.events.l[a.toNat].message).from_.proc.toNat]? = some b/\(ag A P.events.l[a.toNat].message).from_.index<=b):=by
   constructor
   .rintro⟨Q,e,x,U,Z,he,w⟩;rw[G]at U;cases U;rw[I]at Z;cases Z;rw[ζd B]at he;cases he;exact w
   .intro w;exact⟨P,_,a,G,I,ζd B,w⟩
  generalize P.events.l[a.toNat]=e at *;rw[eD,bZ];constructor
  .intro w;have w:e.kind=3:=by simpa using w
   obtain⟨q,j,f1,_,_,y,Q,U,_⟩:=tR W Y J w;have T:q<c.l.length:=by have:=(ζe.1 U).1;omega
   rw[find_eq hS,DC W Y J w,ζb,f1];simp only;rw[bK T,ζb,aZ,aZ];refine decide_eq_decide.2 ?_;rw[C,<-O,S,f1];simp only[Int.toNat_natCast,ζd T];constructor
   .intro h _;exact⟨_,rfl,h⟩
   .intro h;obtain⟨b,hb,h⟩:=h w;cases hb;exact h
  .intro w;have w:¬e.kind=3:=by simpa using w
   rw[aZ,aZ];refine(decide_eq_true ?_).symm;rw[C,<-O,S];exact λh=>absurd h w
 .intro u;have u:¬a<(P.events.l.length:Int):=by simpa [len]using u
  rw[aZ];refine(decide_eq_false λh=>?_).symm
  have h:=((D.mem _).1 h).1.2 p (a+1) P (by rw[List.getElem?_set_self hp]) G
  omega
theorem wN (J:Small t) (D:VT t) (O:gZ t (bQ t) A) (B:eC t A L) {c:Sl Int} (G:Cons t A c.l):Wp (eE t c) λr=>r.l=ixs (ps L c.l c.l.length):=by
 have I:=G.1.1;have Q:=D.few;unfold eE eE.W1;refine eV c.l.length (λi (q:Sl Int×Int)=>q.2=(i:Int)/\q.1.l=ixs (ps L c.l i)/\q.1.l.length<=i) ⟨rfl,rfl,Nat.le_refl _⟩ ?_ ?_
 .rintro i ⟨o,_⟩ z ⟨e,h1,w⟩;simp only at e h1 w;subst e;unfold eE.br;rw[iT z,bS,<-Option.bind_assoc,O2 J D O B G z,ζb]
  by_cases u:bump c.l i 1∈L
  .obtain⟨C,k1,k2⟩:=jS (s:=o) (x:=(i:Int)) (by omega)
   rw[decide_eq_true u,bS,k1,ζb,aZ];refine⟨cC i (by omega),?_,?_⟩
   .show C.l=_;rw[k2,GU,if_pos u,h1];unfold ixs;simp
   .show C.l.length<=_;rw[k2];simp;omega
  .rw[decide_eq_false u,b_,aZ];exact⟨cC i (by omega),by show o.l=_;rw[GU,if_neg u,List.append_nil];exact h1,by show o.l.length<=_;omega⟩
 .rintro⟨o,_⟩ ⟨e,h1,w⟩;simp only at e h1 w;subst e;unfold eE.br;rw[iS,b_,aZ];exact(aZ _).2 h1
theorem Cc (D:Small t) (G:VT t) {c:Sl Int} (J:Cons t A c.l) {p:Nat} (B:p<c.l.length):∃d:Sl Int,nJ c (p:Int)=some d/\d.l=bump c.l p 1:=by
 have w:=Cy D G J;have Q:=w.1;have z:=ζd B;have C:=w.2 c.l[p] (List.getElem_mem B);unfold nJ;obtain⟨r,I,u⟩:=v7 (s:=Sl.row []) (x:=c) (show 0+c.l.length<=_ by omega)
 have u:r.l=c.l:=u;rw[I,ζb,lF (by rw[u];exact B),ζb]
 unfold Sl.get;rw[u,z,ζb,ζb,jU _ (by omega) (by omega)]
 obtain⟨d,L,O⟩:=put_eq (s:=r) (p:=p) (x:=c.l[p]+1) (by rw[u];exact B)
 rw[L];exact⟨d,rfl,by rw[O,u,G2 z]⟩
theorem vm.of (B:eC t A L):vm L:=λ_ _ _ h k=>RW B h k
theorem Fh (B:eC t A L) {j:Nat} {d:List Int} (D:d∈L):L[j]? = some d↔j=L.idxOf d:=
 ⟨λh=>(xK B.nodup h).symm,λh=>by rw[h];exact Co D⟩
theorem Nq (hS:Small t) (hV:VT t) (hM:gZ t (bQ t) A) (B:eC t A L) (hN:0<L.length) (h5:L.length<=5000) {s:Sl (Sl Int)} (hs:ins s=L) {b:Sl Bool} (hb:b.l.length=L.length) :
 Wp (cN t s b) λq=>ins q=outs L (eO b) L.length:=by
 have hg:=vm.of B;have h8:=hV.few;have hsl:s.l.length=L.length:=by rw[<-fM,hs]
 have D:∀{i:Nat} (G:i<s.l.length),L[i]? = some s.l[i].l:=λG=>by rw[<-hs];exact nv G
 unfold cN;rw[show (len s:Int)=((L.length:Nat):Int)from by show ((s.l.length:Nat):Int)=_;rw[hsl]]
 refine Dy hN (by omega) λr0 ad hz=>?_
 unfold cN.W1;refine eV s.l.length (λi (q:Sl Bool×Int)=>q.2=(i:Int)/\q.1.l.length=L.length/\∀k,k<L.length->(eO q.1 k=true↔De L (eO b) i k)) ⟨rfl,ad,λk _=>(hz k).trans Fj.symm⟩ ?_ ?_
 .rintro i ⟨r,_⟩ G ⟨e,h1,Q⟩;simp only at e h1 Q;subst e;have u:i<L.length:=by omega
  have z:=D G;have W:=List.mem_of_getElem? z;have hC:=(B.mem _).1 W;have I:=(Q i u).trans (Cs hg (Nat.le_refl i));unfold cN.br;rw[iT G,bS,lF (by rw[h1];exact u),ζb,tM (by rw[h1];exact u),ζb,bK (s:=s) G]
  have S:(bq (eO r i) ((idx b (i:Int)).bind λae=>some ae) (some true):Option Bool)=some (!eO r i||eO b i):=by
   rw[zp (by rw[hb];exact u)]
   cases eO r i <;> rfl
  rw[S,ζb,bZ];constructor
  .intro J;rw[aZ];refine⟨cC i (by omega),h1,λk hk=>(Q k hk).trans ⟨λh=>(oe z).2 (.inl h),λh=>((oe z).1 h).elim id λh=>?_⟩⟩
   rw[I.2 h.1,h.2.1]at J;cases J
  .intro J;obtain⟨t1,t2⟩:eO r i=true/\eO b i=false:=by
    cases e1:eO r i <;> cases e2:eO b i <;> simp[e1,e2]at J ⊢
   have hR:=I.1 t1;rw[ζb,eD];have X:idx s (i:Int)=some s.l[i]:=bK G;generalize s.l[i]=w at z W hC X;refine(wN hS hV hM B hC).mono λen Y=>?_
   have Z:en.l.length=(ps L w.l w.l.length).length:=by rw[Y,zg]
   have ai:w.l.length<=8:=by rw[hC.1.1];exact h8
   have aj:=EX L w.l;unfold cN.W2;refine eV en.l.length (λk (q:Sl Bool×Int)=>q.2=(k:Int)/\q.1.l.length=L.length/\∀j,j<L.length->(eO q.1 j=true↔De L (eO b) i j\/∃p∈(ps L w.l w.l.length).take k,j=L.idxOf (bump w.l p 1))) ⟨rfl,h1,λk hk=>(Q k hk).trans (by simp)⟩ ?_ ?_
   .rintro k ⟨r,_⟩ hk ⟨e,g1,g2⟩;simp only at e g1 g2;subst e;have T:k<(ps L w.l w.l.length).length:=by omega
    have C:=D_.1 (List.getElem_mem T);obtain⟨d,hd,aa⟩:=Cc hS hV hC C.1;have af:=hg i _ _ z (Ck.2 ⟨_,C.1,C.2,rfl⟩);unfold cN.ck;rw[iT hk,bS,X,ζb,lH,Y,zm T,ζb,hd,ζb,cC i (by omega)]
    have ah:∀j,(∃p∈(ps L w.l w.l.length).take (k+1),j=L.idxOf (bump w.l p 1))↔(∃p∈(ps L w.l w.l.length).take k,j=L.idxOf (bump w.l p 1))\/j=L.idxOf d.l:=λj=>by
     rw[List.take_succ_eq_append_getElem T,aa];simp only[List.mem_append,List.mem_singleton,or_and_right,exists_or,exists_eq_left]
    rw[<-aa]at C af;generalize (ps L w.l w.l.length)[k]=p at *;unfold cN.W3;refine eV (s.l.length-(i+1)) (λm (q:Sl Bool×Int)=>q.2=((i+1+m:Nat):Int)/\q.1.l.length=L.length/\∀j,j<L.length->(eO q.1 j=true↔eO r j=true\/(i<j/\j<i+1+m/\j=L.idxOf d.l))) ⟨rfl,g1,λj _=>⟨.inl,λh=>h.elim id λh=>by omega⟩⟩ ?_ ?_
    .rintro m ⟨r',_⟩ hm ⟨e,f1,f2⟩;simp only at e f1 f2;subst e;have O:i+1+m<s.l.length:=by omega
     unfold cN.dM;have ak:=(B.len (List.mem_of_getElem? (D O)));rw[iT O,bS,bK O,ζb,Kx (by omega),ζb]
     have hw:IntKind.wrap .i64 (((i+1+m:Nat):Int)+1)=((i+1+(m+1):Nat):Int):=cC (i+1+m) (by omega)
     by_cases e:s.l[i+1+m].l=d.l
     .rw[decide_eq_true e,bS,lF (by rw[f1];omega),ζb]
      obtain⟨r2,k1,k2⟩:=put_eq (s:=r') (p:=i+1+m) (x:=true) (by rw[f1];omega)
      rw[k1,ζb,aZ];refine⟨hw,by show r2.l.length=_;rw[k2,List.length_set,f1],λj U=>?_⟩
      have e3:i+1+m=L.idxOf d.l:=(Fh B C.2).1 (by rw[D O,e])
      rw[vN (by rw[f1];omega) k2,f2 j U]
      constructor
      .rintro ((h|h)|h)
       .exact .inl h
       .exact .inr ⟨h.1,by omega,h.2.2⟩
       .exact .inr ⟨by omega,by omega,by omega⟩
      .rintro (h|h)
       .exact .inl (.inl h)
       .exact .inr (by omega)
     .rw[decide_eq_false e,b_,aZ];refine⟨hw,f1,λj U=>(f2 j U).trans ⟨λh=>h.imp id λh=>⟨h.1,by omega,h.2.2⟩,λh=>h.imp id λh=>⟨h.1,?_,h.2.2⟩⟩⟩
      refine Classical.byContradiction λal=>e ?_
      have e4:j=i+1+m:=by omega
      have:=(Fh B C.2).2 h.2.2;rw[e4,D O]at this;exact Option.some.inj this
    .rintro⟨r',_⟩ ⟨e,f1,f2⟩;simp only at e f1 f2;subst e;unfold cN.dM;rw[show i+1+(s.l.length-(i+1))=s.l.length from by omega,iS,b_,aZ]
     refine(aZ _).2 ⟨cC k (by omega),f1,λj O=>?_⟩
     rw[f2 j O,g2 j O,ah j,or_assoc];exact or_congr Iff.rfl (or_congr Iff.rfl ⟨λh=>h.2.2,λh=>⟨by omega,by omega,h⟩⟩)
   .rintro⟨r,_⟩ ⟨e,g1,g2⟩;simp only at e g1 g2;subst e;unfold cN.ck;rw[iS,b_,aZ];refine(aZ _).2 ⟨cC i (by omega),g1,λk hk=>?_⟩
    rw[g2 k hk,oe z,Z,List.take_length,Ky,List.mem_map];exact or_congr Iff.rfl ⟨λ⟨p,h,e⟩=>⟨hR,t2,p,h,e.symm⟩,λ⟨_,_,p,h,e⟩=>⟨p,h,e.symm⟩⟩
 .rintro⟨r,_⟩ ⟨e,h1,Q⟩;simp only at e h1 Q;subst e;unfold cN.br;rw[iS,b_,aZ];show Wp (cN.W4 _ _ _ _ _) _;unfold cN.W4;refine eV s.l.length (λi (q:Sl (Sl Int)×Int)=>q.2=(i:Int)/\ins q.1=outs L (eO b) i/\q.1.l.length<=i) ⟨rfl,rfl,Nat.le_refl _⟩ ?_ ?_
  .rintro i ⟨o,_⟩ G ⟨e,g1,g2⟩;simp only at e g1 g2;subst e;have u:i<L.length:=by omega
   have I:=(Q i u).trans (Cs hg (show i<=s.l.length by omega))
   unfold cN.nF;rw[iT G,bS,lF (by rw[h1];exact u),ζb,tM (by rw[h1];exact u),ζb,bK (s:=s) G]
   have S:(bq (eO r i) ((idx b (i:Int)).bind λab=>some ab) (some false):Option Bool)=some (eO r i&&eO b i):=by
    rw[zp (by rw[hb];exact u)]
    cases eO r i <;> rfl
   rw[S,ζb,bZ];constructor
   .intro J;obtain⟨t1,t2⟩:=Bool.and_eq_true_iff.1 J;obtain⟨o',k1,k2⟩:=jS (s:=o) (x:=s.l[i]) (by omega)
    rw[ζb,k1,ζb,aZ];refine⟨cC i (by omega),?_,?_⟩
    .show ins o'=_;rw[Ax (I.1 t1) t2 (D G),<-g1];unfold ins;rw[k2];simp
    .show o'.l.length<=_;rw[k2];simp;omega
   .intro J;rw[aZ];refine⟨cC i (by omega),?_,by show o.l.length<=_;omega⟩
    show ins o=_;rw[yS (λh=>by rw[I.2 h.1,h.2]at J;cases J)];exact g1
  .rintro⟨o,_⟩ ⟨e,g1,g2⟩;simp only at e g1 g2;subst e;unfold cN.nF;rw[iS,b_,aZ];exact(aZ _).2 (by rw[g1,hsl])
end
end Go.VE
namespace Go.VE
end Go.VE
namespace Go.VE
end Go.VE
namespace Go.VE
theorem Ix {t:Trace} (D:Small t) (G:t.procs.l.length<=8):Wp (ga t) λs=>s.l=t.procs.l.map λP=>(P.events.l.length:Int):=by
 unfold ga ga.W1;refine gU (λs:Sl Int×Int=>∃n:Nat,s.2=n/\n<=t.procs.l.length/\s.1.l=(t.procs.l.take n).map λP=>(P.events.l.length:Int)) (λs=>t.procs.l.length-s.2.toNat) ⟨0,rfl,Nat.zero_le _,rfl⟩ ?_
 rintro⟨o,i⟩ ⟨n,A,I,u⟩;simp only at A u;subst A;unfold ga.br;rw[bZ];constructor
 .intro h;have w:n<t.procs.l.length:=by simpa [len]using h
  have B:=cC n (by omega)
  rw[bK w,ζb];unfold fT;have C:o.l.length=n:=by rw[u,List.length_map,List.length_take];omega
  rw[if_pos (show o.l.length+1<=2147483648 from by omega),ζb,aZ]
  refine⟨⟨n+1,B,by omega,?_⟩,by show _-(IntKind.wrap .i64 ((n:Int)+1)).toNat<_;rw[B];simp;omega⟩
  show o.l++[len t.procs.l[n].events]=_;rw[List.take_add_one,ζd w,List.map_append,u];rfl
 .intro h;have z:t.procs.l.length<=n:=by simpa [len]using h
  rw[List.take_of_length_le z]at u;exact(aZ _).2 ((aZ _).2 u)
end Go.VE
namespace Go.VE
section
variable {L:List (List Int)} {f:Nat->Bool}
inductive uq (L:List (List Int)) (f:Nat->Bool):Nat->Prop
 | last:f (L.length-1)=false->uq L f (L.length-1)
 | step {i k:Nat} {c:List Int}:f i=false->L[i]? = some c->k∈qu L c->uq L f k->uq L f i
theorem uq.no {i:Nat} (h:uq L f i):f i=false:=by cases h <;> assumption
theorem PI:uq L f 0↔Rc L f (L.length-1)/\f (L.length-1)=false:=by
 have a:∀i,uq L f i->Rc L f i->Rc L f (L.length-1)/\f (L.length-1)=false:=λi h=>by
  induction h with
  | last h=>exact λk=>⟨k,h⟩
  | step h1 t u _ w=>exact λk=>w (.step k h1 t u)
 have b:∀i,Rc L f i->uq L f i->uq L f 0:=λi h=>by
  induction h with
  | zero=>exact id
  | step _ h1 t u w=>exact λk=>w (.step h1 t u k)
 exact⟨λh=>a 0 h .zero,λh=>b _ h.1 (.last h.2)⟩
theorem LH (hg:vm L) {i:Nat} {c:List Int} (B:L[i]? = some c):uq L f i↔f i=false/\(i=L.length-1\/∃k∈qu L c,uq L f k):=by
 constructor
 .intro h;refine⟨h.no,?_⟩
  cases h with
  | last _=>exact .inl rfl
  | step _ t u w=>rw[B]at t;cases t;exact .inr ⟨_,u,w⟩
 .rintro⟨h1,t|⟨k,t,u⟩⟩
  .subst t;exact .last h1
  .exact .step h1 B t u
theorem NA {l:Sl (Sl Int)} {c:Sl Int} (D:l.l.length<1073741824) (B:∀x∈l.l,x.l.length<1073741824):gI l c=some (decide (c.l∈ins l)):=by
 refine Wp.eq ?_;unfold gI gI.W1;refine eV l.l.length (λi (q:Int)=>q=(i:Int)/\∀j x,j<i->l.l[j]? = some x->x.l≠c.l) ⟨rfl,λj x h=>absurd h (by omega)⟩ ?_ ?_
 .rintro i _ u ⟨rfl,h⟩;unfold gI.br;rw[iT u,bS,bK u,ζb,CQ (B _ (List.getElem_mem u)),ζb]
  by_cases e:l.l[i].l=c.l
  .rw[decide_eq_true e,bS,aZ];exact(aZ _).2 (decide_eq_true (jP.2 ⟨_,List.getElem_mem u,e⟩)).symm
  .rw[decide_eq_false e,b_,aZ];refine⟨cC i (by omega),λj x w t=>?_⟩
   by_cases e2:j=i
   .subst e2;rw[ζd u]at t;cases t;exact e
   .exact h j x (by omega) t
 .rintro _ ⟨rfl,h⟩;unfold gI.br;rw[iS,b_,aZ];refine(aZ _).2 (decide_eq_false λA=>?_).symm
  obtain⟨x,z,e⟩:=jP.1 A;obtain⟨j,w,rfl⟩:=List.mem_iff_getElem.1 z;exact h j _ w (ζd w) e
theorem Mw {s:Sl (Sl Int)} (B:ins s=L) (D:L.length<=5000) {b:Sl Bool} (G:b.l.length=L.length) :
 Wp (gJ s b) λq=>q.l.length<=L.length/\∀c,c∈ins q↔∃i,L[i]? = some c/\eO b i=true:=by
 have hsl:s.l.length=L.length:=by rw[<-fM,B]
 have w:∀{i:Nat} (t:i<s.l.length),L[i]? = some s.l[i].l:=λt=>by rw[<-B];exact nv t
 unfold gJ gJ.W1;refine eV s.l.length (λi (q:Sl (Sl Int)×Int)=>q.2=(i:Int)/\q.1.l.length<=i/\∀c,c∈ins q.1↔∃j,j<i/\L[j]? = some c/\eO b j=true) ⟨rfl,Nat.le_refl _,λc=>⟨λh=>by simp[ins,Sl.l]at h,λ⟨j,h,_⟩=>absurd h (by omega)⟩⟩ ?_ ?_
 .rintro i ⟨o,_⟩ t ⟨e,h1,u⟩;simp only at e h1 u;subst e;unfold gJ.br;rw[iT t,bS,zp (by omega),ζb,bZ]
  constructor
  .intro z;obtain⟨C,k1,k2⟩:=jS (s:=o) (x:=s.l[i]) (by omega)
   rw[bK t,ζb,k1,ζb,aZ];refine⟨cC i (by omega),by show C.l.length<=_;rw[k2];simp;omega,λc=>?_⟩
   rw[Cl k2,u];constructor
   .rintro (⟨j,A,h⟩|h)
    .exact⟨j,by omega,h⟩
    .exact⟨i,by omega,by rw[h];exact w t,z⟩
   .rintro⟨j,A,h,k⟩
    by_cases e:j=i
    .subst e;rw[w t]at h;exact .inr (Option.some.inj h).symm
    .exact .inl ⟨j,by omega,h,k⟩
  .intro z;rw[aZ];refine⟨cC i (by omega),by show o.l.length<=_;omega,λc=>(u c).trans ⟨λ⟨j,A,h⟩=>⟨j,by omega,h⟩,λ⟨j,A,h,k⟩=>⟨j,?_,h,k⟩⟩⟩
   have:j≠i:=λe=>by subst e;rw[z]at k;cases k
   omega
 .rintro⟨o,_⟩ ⟨e,h1,u⟩;simp only at e h1 u;subst e;unfold gJ.br;rw[iS,b_,aZ];exact(aZ _).2 ⟨by show o.l.length<=_;omega,λc=>(u c).trans ⟨λ⟨j,_,h⟩=>⟨j,h⟩,λ⟨j,h,k⟩=>⟨j,by have:=(ζe.1 h).1;omega,h,k⟩⟩⟩
end
section
variable {t:Trace} {A:bP 200 bz} {L:List (List Int)}
theorem OC {s:Sl (Sl Int)} (B:eC t A L) (J:VT t) (D:ins s=L) (O:L.length<=5000) {d:Sl Int} (G:d.l∈L):jD s d=some (L.idxOf d.l:Int):=by
 have I:=J.few;have hsl:s.l.length=L.length:=by rw[<-fM,D]
 have hc:∀x∈s.l,x.l.length<1073741824:=λx u=>by
  have:=B.len (by rw[<-D];exact jP.2 ⟨x,u,rfl⟩:x.l∈L)
  omega
 have h1:jD s d=some (place (λx:Sl Int=>decide (d.l=x.l)) s.l):=
  (sS (p:=λx=>dz x d) (f:=λx:Sl Int=>decide (d.l=x.l)) (λx u=>by rw[uX (hc x u)];congr 1;exact decide_eq_decide.2 eq_comm) (by omega) (λi=>rfl) :)
 rw[h1];have Q:=List.idxOf_lt_length_of_mem G;have w:s.l.length>L.idxOf d.l:=by omega
 have z:∀j,j<L.idxOf d.l->∀x:Sl Int,s.l[j]? = some x->decide (d.l=x.l)=false:=λj S x u=>decide_eq_false λe=>by
  have z:L[j]? = some d.l:=by rw[<-D,GS,u,e];rfl
  have:=(Fh B G).1 z;omega
 have C:d.l=s.l[L.idxOf d.l].l:=by
  have z:=Co G;have C:(ins s)[L.idxOf d.l]? = some s.l[L.idxOf d.l].l:=nv w;rw[D,z]at C;exact Option.some.inj C
 unfold place;rw[zQ z (ζd w) (decide_eq_true C)]
theorem Tj (hS:Small t) (hV:VT t) (hM:gZ t (bQ t) A) (B:eC t A L) (h5:L.length<=5000) {s w:Sl (Sl Int)} (hs:ins s=L) {i:Nat} (U:i<L.length) {c:List Int} (D:L[i]? = some c) {o:Sl Bool} (ho:o.l.length=L.length) :
 Wp (cR.J2 s w o (i:Int) t) λz=>∃r:Sl Bool,z=.n (r,(i:Int)-1)/\r.l.length=L.length/\∀j,j<L.length->(eO r j=true↔eO o j=true\/(j=i/\∃k∈qu L c,eO o k=true)):=by
 have hg:=vm.of B;have h8:=hV.few;have hsl:s.l.length=L.length:=by rw[<-fM,hs]
 have aa:∀{i:Nat} (U:i<s.l.length),L[i]? = some s.l[i].l:=λU=>by rw[<-hs];exact nv U
 have Q:i<s.l.length:=by omega
 have I:idx s (i:Int)=some s.l[i]:=bK Q;have e:=aa Q;rw[D]at e;cases e;have S:=List.mem_of_getElem? D;have hC:=(B.mem _).1 S;unfold cR.J2;rw[I,ζb,eD];generalize s.l[i]=u at D S hC I;refine(wN hS hV hM B hC).mono λen T=>?_
 have W:en.l.length=(ps L u.l u.l.length).length:=by rw[T,zg]
 have ab:u.l.length<=8:=by rw[hC.1.1];exact h8
 have ad:=EX L u.l;unfold cR.W3;refine eV en.l.length (λk (q:Sl Bool×Int)=>q.2=(k:Int)/\q.1.l.length=L.length/\∀j,j<L.length->(eO q.1 j=true↔eO o j=true\/(j=i/\∃p∈(ps L u.l u.l.length).take k,eO o (L.idxOf (bump u.l p 1))=true))) ⟨rfl,ho,λk hk=>by simp⟩ ?_ ?_
 .rintro k ⟨r,_⟩ hk ⟨e,g1,g2⟩;simp only at e g1 g2;subst e;have J:k<(ps L u.l u.l.length).length:=by omega
  have G:=D_.1 (List.getElem_mem J);obtain⟨d,hd,X⟩:=Cc hS hV hC G.1;have O:=hg i _ _ D (Ck.2 ⟨_,G.1,G.2,rfl⟩);unfold cR.dM;rw[iT hk,bS,I,ζb,lH,T,zm J,ζb,hd,ζb,OC B hV hs h5 (by rw[X];exact G.2),ζb,X,lF (by rw[g1];exact O.2),ζb,tM (by rw[g1];exact O.2),ζb]
  have Y:(∃p∈(ps L u.l u.l.length).take (k+1),eO o (L.idxOf (bump u.l p 1))=true)↔(∃p∈(ps L u.l u.l.length).take k,eO o (L.idxOf (bump u.l p 1))=true)\/eO o (L.idxOf (bump u.l (ps L u.l u.l.length)[k] 1))=true:=by
   rw[List.take_succ_eq_append_getElem J];simp only[List.mem_append,List.mem_singleton,or_and_right,exists_or,exists_eq_left]
  have C:eO r (L.idxOf (bump u.l (ps L u.l u.l.length)[k] 1))=true↔eO o (L.idxOf (bump u.l (ps L u.l u.l.length)[k] 1))=true:=
   (g2 _ O.2).trans ⟨λh=>h.elim id λh=>by omega,.inl⟩
  rw[bZ];constructor
  .intro ht;obtain⟨r2,k1,k2⟩:=put_eq (s:=r) (p:=i) (x:=true) (by rw[g1];exact U)
   rw[lF (by rw[g1];exact U),ζb,k1,ζb,aZ]
   refine⟨cC k (by omega),by show r2.l.length=_;rw[k2,List.length_set,g1],λj Z=>?_⟩
   rw[vN (by rw[g1];exact U) k2,g2 j Z,Y,<-C,or_assoc]
   refine or_congr Iff.rfl ⟨λh=>⟨h.elim (·.1) id,.inr ht⟩,λh=>.inr h.1⟩
  .intro ht;rw[aZ];refine⟨cC k (by omega),g1,λj Z=>(g2 j Z).trans ?_⟩
   rw[Y,<-C,ht];simp
 .rintro⟨r,_⟩ ⟨e,g1,g2⟩;simp only at e g1 g2;subst e;unfold cR.dM;rw[iS,b_,aZ];refine(aZ _).2 ⟨r,?_,g1,λj Z=>(g2 j Z).trans (or_congr Iff.rfl (and_congr Iff.rfl ?_))⟩
  .rw[jU _ (by omega) (by omega)]
  .rw[W,List.take_length,Ky];exact⟨λ⟨p,h,e⟩=>⟨_,List.mem_map.2 ⟨p,h,rfl⟩,e⟩,λ⟨k,h,e⟩=>by obtain⟨p,h2,rfl⟩:=List.mem_map.1 h;exact⟨p,h2,e⟩⟩
theorem Qq (U:Small t) (D:VT t) (hM:gZ t (bQ t) A) (B:eC t A L) (h5:L.length<=5000) {s:Sl (Sl Int)} (hs:ins s=L) {o:Sl Bool} (ho:o.l.length=L.length) {c:Sl Int} (hc:c.l∈L) :
 Wp (cR.W4 s o c (.row [c]) t) λq=>q.2=true:=by
 have hg:=vm.of B;have X:=D.few;obtain⟨le,z,u⟩:=Ix U X;have C:A1 le.l:=by
  rw[u];refine⟨by simpa using X,λx G=>?_⟩
  obtain⟨P,hP,rfl⟩:=List.mem_map.1 G;have:=(U.2 _ hP).1;omega
 have hT:le.l.sum=(kU t:Nat):=by
  rw[u];unfold kU
  induction t.procs.l with
  | nil=>rfl
  | cons a l ih=>simp only[List.map_cons,List.sum_cons,ih];omega
 have ab:=Ph D;unfold cR.W4;refine eV (kU t) (λm (q:Sl Int×Sl (Sl Int))=>q.1.l∈L/\q.2.l.length=m+1) ⟨hc,rfl⟩ ?_ ?_
 .rintro m ⟨c,out⟩ hm ⟨h1,W⟩;simp only at h1 W;have Y:=(B.mem _).1 h1;unfold cR.nF;rw[z,ζb,u9 C,ζb,hT,show decide ((len out)<=((kU t:Nat):Int))=true from decide_eq_true (by show ((out.l.length:Nat):Int)<=_;omega),bS,eD]
  refine(wN U D hM B Y).mono λen I=>?_
  have aa:en.l.length=(ps L c.l c.l.length).length:=by rw[I,zg]
  have ad:=EX L c.l;have ae:c.l.length<=8:=by rw[Y.1.1];exact X
  have fin:∀(e:Sl Int) (Q:Fw ((Sl Int)×(Sl (Sl Int))) (Sl (Sl Int)) Empty->Prop),(∀x:Sl (Sl Int),x.l.length=(m+1)+1->Q (.n (e,x)))->Wp ((fT out (e:Sl Int)).bind λJ=>some (Fw.n (e,J):Fw ((Sl Int)×(Sl (Sl Int))) (Sl (Sl Int)) Empty)) Q:=λe Q he=>by
   obtain⟨x,k1,k2⟩:=jS (s:=out) (x:=e) (by omega)
   rw[k1,ζb,aZ];exact he x (by rw[k2];simp[W])
  unfold cR.W5;refine eV en.l.length (λk (q:Int)=>q=(k:Int)) rfl ?_ ?_
  .rintro k _ hk rfl;have O:k<(ps L c.l c.l.length).length:=by omega
   have S:=D_.1 (List.getElem_mem O);obtain⟨d,hd,Z⟩:=Cc U D Y S.1;have w:d.l∈L:=by rw[Z];exact S.2
   have T:=List.idxOf_lt_length_of_mem w;unfold cR.oR;rw[iT hk,bS,lH,I,zm O,ζb,hd,ζb,OC B D hs h5 w,ζb,lF (by rw[ho];exact T),ζb,tM (by rw[ho];exact T),ζb,bZ]
   refine⟨λ_=>(aZ _).2 ?_,λ_=>(aZ _).2 (cC k (by omega))⟩
   exact fin d _ λx G=>⟨w,G⟩
  .rintro _ rfl;unfold cR.oR;rw[iS,b_,aZ];exact fin c _ λx G=>⟨h1,G⟩
 .rintro⟨c,out⟩ ⟨h1,W⟩;simp only at h1 W;unfold cR.nF;rw[z,ζb,u9 C,ζb,hT,show decide ((len out)<=((kU t:Nat):Int))=false from decide_eq_false (by show ¬(((out.l.length:Nat):Int)<=_);omega),b_,aZ]
  exact(aZ _).2 rfl
theorem MF (hS:Small t) (hV:VT t) (hM:gZ t (bQ t) A) (B:eC t A L) (hN:0<L.length) (h5:L.length<=5000) {s w:Sl (Sl Int)} (hs:ins s=L) {f:Nat->Bool} (hw:w.l.length<=L.length) (U:∀c,c∈ins w↔∃i,L[i]? = some c/\f i=true) :
 Wp (uS t s w) λb=>b=true↔¬(Rc L f (L.length-1)/\f (L.length-1)=false):=by
 have hg:=vm.of B;have h8:=hV.few;have hsl:s.l.length=L.length:=by rw[<-fM,hs]
 have S:∀{i:Nat} (hi:i<s.l.length),L[i]? = some s.l[i].l:=λhi=>by rw[<-hs];exact nv hi
 have G:(len s:Int)=((L.length:Nat):Int):=by show ((s.l.length:Nat):Int)=_;rw[hsl]
 have ab:∀x∈w.l,x.l.length<1073741824:=λx hx=>by
  obtain⟨j,z,_⟩:=(U x.l).1 (jP.2 ⟨x,hx,rfl⟩);have:=B.len (List.mem_of_getElem? z);omega
 unfold uS;rw[eD];have T:Wp (cR t s w) λq=>q.2=true↔uq L f 0:=by
  unfold cR;rw[G,Hy (by omega),ζb,jU _ (by omega) (by omega)]
  unfold cR.W1;refine eV L.length (λm (q:Sl Bool×Int)=>q.2=(L.length:Int)-1-(m:Int)/\q.1.l.length=L.length/\∀k,k<L.length->(eO q.1 k=true↔L.length-m<=k/\uq L f k)) ⟨by simp,by simp[Sl.l],λk hk=>by rw[Hj];exact⟨λh=>(by cases h),λh=>absurd h.1 (by omega)⟩⟩ ?_ ?_
  .rintro m ⟨o,_⟩ hm ⟨e,h1,I⟩;simp only at e h1 I;subst e;obtain⟨i,hi⟩:∃i:Nat,i=L.length-1-m:=⟨_,rfl⟩;rw[show (L.length:Int)-1-(m:Int)=(i:Int)from by omega]
   have C:i<L.length:=by omega
   have W:i<s.l.length:=by omega
   have u:=S W;have X:idx s (i:Int)=some s.l[i]:=bK W;unfold cR.br;rw[show decide ((i:Int)>=0)=true from decide_eq_true (by omega),bS,X,ζb]
   generalize s.l[i]=cs at u X;rw[NA (by omega) ab,ζb]
   have Y:cs.l∈ins w↔f i=true:=(U _).trans ⟨λ⟨j,z,D⟩=>by
    rw[<-xK B.nodup u,xK B.nodup z];exact D,λD=>⟨i,u,D⟩⟩
   have J:=LH (f:=f) hg u
   by_cases D:f i=true
   .rw[decide_eq_true (Y.2 D),bS,aZ];refine⟨by show IntKind.wrap .i64 ((i:Int)-1)=_;rw[jU _ (by omega) (by omega)];omega,h1,λk hk=>(I k hk).trans ⟨λh=>⟨by omega,h.2⟩,λh=>⟨?_,h.2⟩⟩⟩
    have:k≠i:=λe=>by subst e;rw[h.2.no]at D;cases D
    omega
   .have Z:f i=false:=by simpa using D
    rw[decide_eq_false (λh=>D (Y.1 h)),b_,G,jU _ (by omega) (by omega)]
    have fin:∀(o2:Sl Bool) (Q:Fw ((Sl Bool)×Int) (Sl Bool) Empty->Prop),o2.l.length=L.length->(∀k,k<L.length->(eO o2 k=true↔(L.length-m<=k/\uq L f k)\/(k=i/\i=L.length-1))) ->
     (∀r:Sl Bool,r.l.length=L.length->(∀k,k<L.length->(eO r k=true↔L.length-(m+1)<=k/\uq L f k))->Q (.n (r,(L.length:Int)-1-((m+1:Nat):Int))))->Wp (cR.J2 s w o2 (i:Int) t) Q:=λo2 Q k1 k2 hQ=>by
     refine(Tj hS hV hM B h5 hs C u k1 (w:=w)).mono ?_;rintro _ ⟨r,rfl,r1,r2⟩;rw[show (i:Int)-1=(L.length:Int)-1-((m+1:Nat):Int)from by omega]
     refine hQ r r1 λk hk=>?_
     rw[r2 k hk,k2 k hk];constructor
     .rintro ((h|h)|h)
      .exact⟨by omega,h.2⟩
      .rw[h.1];exact⟨by omega,J.2 ⟨Z,.inl h.2⟩⟩
      .obtain⟨e,j,z,ho⟩:=h;rw[e];have O:=hg i j _ u z;refine⟨by omega,J.2 ⟨Z,.inr ⟨j,z,?_⟩⟩⟩
       rcases (k2 j O.2).1 ho with h|h
       .exact h.2
       .omega
     .rintro⟨h,ho⟩
      by_cases e:k=i
      .subst e;rcases (J.1 ho).2 with h|⟨j,z,ad⟩
       .exact .inl (.inr ⟨rfl,h⟩)
       .have O:=hg _ j _ u z;exact .inr ⟨rfl,j,z,(k2 j O.2).2 (.inl ⟨by omega,ad⟩)⟩
      .exact .inl (.inl ⟨by omega,ho⟩)
    rw[bZ];constructor
    .intro e;have e:i=L.length-1:=by
      have:(i:Int)=(L.length:Int)-1:=by simpa using e
      omega
     obtain⟨r,q1,q2⟩:=put_eq (s:=o) (p:=i) (x:=true) (by rw[h1];exact C)
     rw[lF (by rw[h1];exact C),ζb,q1,ζb]
     refine fin r _ (by rw[q2,List.length_set,h1]) (λk hk=>?_) λr e1 e2=>⟨rfl,e1,e2⟩
     rw[vN (by rw[h1];exact C) q2,I k hk]
     exact or_congr Iff.rfl ⟨λh=>⟨h,e⟩,λh=>h.1⟩
    .intro e;have e:i≠L.length-1:=λe2=>by simp at e;omega
     exact fin o _ h1 (λk hk=>(I k hk).trans ⟨.inl,λh=>h.elim id λh=>absurd h.2 e⟩) λr e1 e2=>⟨rfl,e1,e2⟩
  .rintro⟨o,_⟩ ⟨e,h1,I⟩;simp only at e h1 I;subst e;unfold cR.br;rw[show decide ((L.length:Int)-1-((L.length:Nat):Int)>=0)=false from decide_eq_false (by omega),b_,aZ]
   show Wp ((Sl.jf o 0).bind λah=>_) _
   have ae:0<s.l.length:=hsl▸hN;have hz:idx s 0=some s.l[0]:=bK (i:=0) ae;have aa:0<o.l.length:=by rw[h1];exact hN
   have af:Sl.jf o 0=some 0:=lF (p:=0) aa;rw[af,ζb,tM aa,ζb,bZ];have h0:=I 0 hN;constructor
   .intro ht;rw[hz,ζb];refine(Qq hS hV hM B h5 hs h1 (List.mem_of_getElem? (S (i:=0) (hsl▸hN)))).mono λq hq=>?_
    exact⟨λ_=>(h0.1 ht).2,λ_=>hq⟩
   .intro ht;rw[aZ];exact⟨λh=>(by cases h),λh=>by rw[h0.2 ⟨by omega,h⟩]at ht;cases ht⟩
 refine T.mono λq hq=>?_
 rw[aZ,<-PI,<-hq];cases q.2 <;> simp
end
end Go.VE
