/-
 The law in plain Lean, and the join.
-/
import Derived.Test.YtimppgndlmehbaaGreatG1
set_option linter.all false
namespace Go.VE
instance:ct Var where
 wt x:=ct.wt x.name+ct.wt x.init_+1
 ok x:=ct.ok x.name/\ct.ok x.init_/\True
instance:ct Assign where
 wt x:=ct.wt x.var+ct.wt x.value+1
 ok x:=ct.ok x.var/\ct.ok x.value/\True
instance:ct Event where
 wt x:=ct.wt x.kind+ct.wt x.peer+ct.wt x.message+ct.wt x.time+ct.wt x.assign+1
 ok x:=ct.ok x.kind/\ct.ok x.peer/\ct.ok x.message/\ct.ok x.time/\ct.ok x.assign/\True
instance:ct cn where
 wt x:=ct.wt x.name+ct.wt x.vars+ct.wt x.events+1
 ok x:=ct.ok x.name/\ct.ok x.vars/\ct.ok x.events/\True
instance:ct Trace where
 wt x:=ct.wt x.procs+1
 ok x:=ct.ok x.procs/\True
instance:ct Slice where
 wt x:=ct.wt x.empty+ct.wt x.first+ct.wt x.last+ct.wt x.j+1
 ok x:=ct.ok x.empty/\ct.ok x.first/\ct.ok x.last/\ct.ok x.j/\True
end Go.VE
namespace Go.VE.YtimppgndlmehbaaGreat
open Go.Proofs Go.Proofs.YtimppgndlmehbaaGreat
instance WD:Reads Tryz.prog 9 ByteArray:=Reads.str Tryz.underlying9 (by kernel_rfl)
instance WE:Reads Tryz.prog 3 Int:=Reads.int Tryz.underlying3 (by kernel_rfl)
instance Wm:Reads Tryz.prog 148 Var:=by
 refine Reads.st Tryz.underlying148 (by kernel_rfl) rfl ?_
 intro H enc w base q held u J l L h;simp only[List.mapM_cons,List.mapM_nil,Option.pure_def,Option.bind_eq_bind,ζg,ζa]at h;obtain⟨z,h0,O,⟨A,h1,Q,rfl,rfl⟩,rfl⟩:=h;obtain⟨B,C,k0,S⟩:=Reads.rd (P:=Tryz.prog) (t:=9) (α:=ByteArray) (d:=z.1) (ps:=z.2) h0;rw[show Tryz.prog.cellsOf 9=1 from by kernel_rfl]at C
 obtain⟨D,G,k1,T⟩:=Reads.rd (P:=Tryz.prog) (t:=3) (α:=Int) (d:=A.1) (ps:=A.2) h1;rw[show Tryz.prog.cellsOf 3=1 from by kernel_rfl]at G
 refine⟨⟨B,D⟩,fu.fin (n:=2) (fu.seg (o:=1) (n:=1) (fu.seg (o:=0) (n:=1) (show fu (snap w) [] (J.take 0)from by simpa using fu.nil) C) G) L,⟨k0,k1,trivial⟩,λb I=>?_⟩
 have U:=S b I;have W:=T b I;show ct.wt B+ct.wt D+1<=_;simp only[List.map_cons,List.map_nil,List.sum_cons,List.sum_nil];omega
instance Wx:Reads Tryz.prog 57 (Sl Var):=Reads.sl (e:=148) Tryz.underlying57 (by kernel_rfl) (by decide)
instance Wk:Reads Tryz.prog 151 Assign:=by
 refine Reads.st Tryz.underlying151 (by kernel_rfl) rfl ?_
 intro H enc w base q held u J l L h;simp only[List.mapM_cons,List.mapM_nil,Option.pure_def,Option.bind_eq_bind,ζg,ζa]at h;obtain⟨z,h0,O,⟨A,h1,Q,rfl,rfl⟩,rfl⟩:=h;obtain⟨B,C,k0,S⟩:=Reads.rd (P:=Tryz.prog) (t:=3) (α:=Int) (d:=z.1) (ps:=z.2) h0;rw[show Tryz.prog.cellsOf 3=1 from by kernel_rfl]at C
 obtain⟨D,G,k1,T⟩:=Reads.rd (P:=Tryz.prog) (t:=3) (α:=Int) (d:=A.1) (ps:=A.2) h1;rw[show Tryz.prog.cellsOf 3=1 from by kernel_rfl]at G
 refine⟨⟨B,D⟩,fu.fin (n:=2) (fu.seg (o:=1) (n:=1) (fu.seg (o:=0) (n:=1) (show fu (snap w) [] (J.take 0)from by simpa using fu.nil) C) G) L,⟨k0,k1,trivial⟩,λb I=>?_⟩
 have U:=S b I;have W:=T b I;show ct.wt B+ct.wt D+1<=_;simp only[List.map_cons,List.map_nil,List.sum_cons,List.sum_nil];omega
instance Ww:Reads Tryz.prog 62 (Sl Assign):=Reads.sl (e:=151) Tryz.underlying62 (by kernel_rfl) (by decide)
instance WA:Reads Tryz.prog 64 Event:=by
 refine Reads.st Tryz.underlying64 (by kernel_rfl) rfl ?_
 intro H enc w base u held z W l X h;simp only[List.mapM_cons,List.mapM_nil,Option.pure_def,Option.bind_eq_bind,ζg,ζa]at h;obtain⟨A,h0,Y,⟨B,h1,Z,⟨x2,h2,aa,⟨C,h3,ab,⟨x4,h4,ad,rfl,rfl⟩,rfl⟩,rfl⟩,rfl⟩,rfl⟩:=h;obtain⟨D,G,k0,b0⟩:=Reads.rd (P:=Tryz.prog) (t:=3) (α:=Int) (d:=A.1) (ps:=A.2) h0;rw[show Tryz.prog.cellsOf 3=1 from by kernel_rfl]at G
 obtain⟨I,J,k1,b1⟩:=Reads.rd (P:=Tryz.prog) (t:=3) (α:=Int) (d:=B.1) (ps:=B.2) h1;rw[show Tryz.prog.cellsOf 3=1 from by kernel_rfl]at J
 obtain⟨L,O,k2,b2⟩:=Reads.rd (P:=Tryz.prog) (t:=3) (α:=Int) (d:=x2.1) (ps:=x2.2) h2;rw[show Tryz.prog.cellsOf 3=1 from by kernel_rfl]at O
 obtain⟨Q,S,k3,b3⟩:=Reads.rd (P:=Tryz.prog) (t:=3) (α:=Int) (d:=C.1) (ps:=C.2) h3;rw[show Tryz.prog.cellsOf 3=1 from by kernel_rfl]at S
 obtain⟨T,U,k4,b4⟩:=Reads.rd (P:=Tryz.prog) (t:=62) (α:=(Sl Assign)) (d:=x4.1) (ps:=x4.2) h4;rw[show Tryz.prog.cellsOf 62=1 from by kernel_rfl]at U
 refine⟨⟨D,I,L,Q,T⟩,fu.fin (n:=5) (fu.seg (o:=4) (n:=1) (fu.seg (o:=3) (n:=1) (fu.seg (o:=2) (n:=1) (fu.seg (o:=1) (n:=1) (fu.seg (o:=0) (n:=1) (show fu (snap w) [] (W.take 0)from by simpa using fu.nil) G) J) O) S) U) X,⟨k0,k1,k2,k3,k4,trivial⟩,λb q=>?_⟩
 have w0:=b0 b q;have w1:=b1 b q;have w2:=b2 b q;have w3:=b3 b q;have w4:=b4 b q;show ct.wt D+ct.wt I+ct.wt L+ct.wt Q+ct.wt T+1<=_;simp only[List.map_cons,List.map_nil,List.sum_cons,List.sum_nil];omega
instance Wz:Reads Tryz.prog 58 (Sl Event):=Reads.sl (e:=64) Tryz.underlying58 (by kernel_rfl) (by decide)
instance Wo:Reads Tryz.prog 60 cn:=by
 refine Reads.st Tryz.underlying60 (by kernel_rfl) rfl ?_
 intro H enc w base q held z O l Q h;simp only[List.mapM_cons,List.mapM_nil,Option.pure_def,Option.bind_eq_bind,ζg,ζa]at h;obtain⟨A,h0,S,⟨B,h1,T,⟨x2,U,W,rfl,rfl⟩,rfl⟩,rfl⟩:=h;obtain⟨C,D,k0,X⟩:=Reads.rd (P:=Tryz.prog) (t:=9) (α:=ByteArray) (d:=A.1) (ps:=A.2) h0;rw[show Tryz.prog.cellsOf 9=1 from by kernel_rfl]at D
 obtain⟨G,I,k1,Y⟩:=Reads.rd (P:=Tryz.prog) (t:=57) (α:=(Sl Var)) (d:=B.1) (ps:=B.2) h1;rw[show Tryz.prog.cellsOf 57=1 from by kernel_rfl]at I
 obtain⟨J,L,k2,Z⟩:=Reads.rd (P:=Tryz.prog) (t:=58) (α:=(Sl Event)) (d:=x2.1) (ps:=x2.2) U;rw[show Tryz.prog.cellsOf 58=1 from by kernel_rfl]at L
 refine⟨⟨C,G,J⟩,fu.fin (n:=3) (fu.seg (o:=2) (n:=1) (fu.seg (o:=1) (n:=1) (fu.seg (o:=0) (n:=1) (show fu (snap w) [] (O.take 0)from by simpa using fu.nil) D) I) L) Q,⟨k0,k1,k2,trivial⟩,λb u=>?_⟩
 have w0:=X b u;have w1:=Y b u;have w2:=Z b u;show ct.wt C+ct.wt G+ct.wt J+1<=_;simp only[List.map_cons,List.map_nil,List.sum_cons,List.sum_nil];omega
instance Wy:Reads Tryz.prog 22 (Sl cn):=Reads.sl (e:=60) Tryz.underlying22 (by kernel_rfl) (by decide)
instance WB:Reads Tryz.prog 24 Trace:=by
 refine Reads.st Tryz.underlying24 (by kernel_rfl) rfl ?_
 intro H enc w base q held u C l D h;simp only[List.mapM_cons,List.mapM_nil,Option.pure_def,Option.bind_eq_bind,ζg,ζa]at h;obtain⟨z,h0,G,rfl,rfl⟩:=h;obtain⟨A,B,k0,I⟩:=Reads.rd (P:=Tryz.prog) (t:=22) (α:=(Sl cn)) (d:=z.1) (ps:=z.2) h0;rw[show Tryz.prog.cellsOf 22=1 from by kernel_rfl]at B
 refine⟨⟨A⟩,fu.fin (n:=1) (fu.seg (o:=0) (n:=1) (show fu (snap w) [] (C.take 0)from by simpa using fu.nil) B) D,⟨k0,trivial⟩,λb J=>?_⟩
 have L:=I b J;show ct.wt A+1<=_;simp only[List.map_cons,List.map_nil,List.sum_cons,List.sum_nil];omega
instance WC:Reads Tryz.prog 4 Bool:=Reads.bool Tryz.underlying4 (by kernel_rfl)
instance Wt:Reads Tryz.prog 25 (Sl Int):=Reads.sl (e:=3) Tryz.underlying25 (by kernel_rfl) (by decide)
instance Wu:Reads Tryz.prog 36 (Sl (Sl Int)):=Reads.sl (e:=25) Tryz.underlying36 (by kernel_rfl) (by decide)
instance Wr:Reads Tryz.prog 26 (Sl (Sl (Sl Int))):=Reads.sl (e:=36) Tryz.underlying26 (by kernel_rfl) (by decide)
instance Wv:Reads Tryz.prog 28 Slice:=by
 refine Reads.st Tryz.underlying28 (by kernel_rfl) rfl ?_
 intro H enc w base u held z T l U h;simp only[List.mapM_cons,List.mapM_nil,Option.pure_def,Option.bind_eq_bind,ζg,ζa]at h;obtain⟨A,h0,W,⟨B,h1,X,⟨x2,Y,Z,⟨C,h3,aa,rfl,rfl⟩,rfl⟩,rfl⟩,rfl⟩:=h;obtain⟨D,G,k0,b0⟩:=Reads.rd (P:=Tryz.prog) (t:=4) (α:=Bool) (d:=A.1) (ps:=A.2) h0;rw[show Tryz.prog.cellsOf 4=1 from by kernel_rfl]at G
 obtain⟨I,J,k1,b1⟩:=Reads.rd (P:=Tryz.prog) (t:=25) (α:=(Sl Int)) (d:=B.1) (ps:=B.2) h1;rw[show Tryz.prog.cellsOf 25=1 from by kernel_rfl]at J
 obtain⟨L,O,k2,b2⟩:=Reads.rd (P:=Tryz.prog) (t:=25) (α:=(Sl Int)) (d:=x2.1) (ps:=x2.2) Y;rw[show Tryz.prog.cellsOf 25=1 from by kernel_rfl]at O
 obtain⟨Q,S,k3,b3⟩:=Reads.rd (P:=Tryz.prog) (t:=26) (α:=(Sl (Sl (Sl Int)))) (d:=C.1) (ps:=C.2) h3;rw[show Tryz.prog.cellsOf 26=1 from by kernel_rfl]at S
 refine⟨⟨D,I,L,Q⟩,fu.fin (n:=4) (fu.seg (o:=3) (n:=1) (fu.seg (o:=2) (n:=1) (fu.seg (o:=1) (n:=1) (fu.seg (o:=0) (n:=1) (show fu (snap w) [] (T.take 0)from by simpa using fu.nil) G) J) O) S) U,⟨k0,k1,k2,k3,trivial⟩,λb q=>?_⟩
 have w0:=b0 b q;have w1:=b1 b q;have w2:=b2 b q;have w3:=b3 b q;show ct.wt D+ct.wt I+ct.wt L+ct.wt Q+1<=_;simp only[List.map_cons,List.map_nil,List.sum_cons,List.sum_nil];omega
end Go.VE.YtimppgndlmehbaaGreat
namespace Go.VE
end Go.VE
namespace Go.VE
abbrev GR {α:Type} (m:Option α):Prop:=Wp m λ_=>True
theorem GR.get {α:Type} {m:Option α} (h:GR m):∃a,m=some a:=let ⟨a,e,_⟩:=h;⟨a,e⟩
theorem GR.ok {m:Option Bool} (h:GR m):m=some (m.getD false):=by obtain⟨a,e,_⟩:=h;rw[e];rfl
def Small (t:Trace):Prop:=t.procs.l.length<1073741824/\∀p∈t.procs.l,p.events.l.length<1073741824/\p.vars.l.length<1073741824/\p.name.size<1073741824/\(∀v∈p.vars.l,v.name.size<1073741824)/\∀e∈p.events.l,e.assign.l.length<1073741824
section
theorem JJ {s:Sl Event} {p:Event->Option Bool} {f:Event->Bool} (B:∀x∈s.l,p x=some (f x)) (D:s.l.length<1073741824):fM s p=some (place f s.l):=
 nM B (by omega) (λi=>rfl)
theorem L0 {s:Sl cn} {p:cn->Option Bool} {f:cn->Bool} (B:∀x∈s.l,p x=some (f x)) (D:s.l.length<1073741824):ga s p=some (place f s.l):=
 nM B (by omega) (λi=>rfl)
theorem Ni {s:Sl Var} {p:Var->Option Bool} {f:Var->Bool} (B:∀x∈s.l,p x=some (f x)) (D:s.l.length<1073741824):gB s p=some (place f s.l):=
 nM B (by omega) (λi=>rfl)
theorem HM {s:Sl Assign} {p:Assign->Option Bool} {f:Assign->Bool} (B:∀x∈s.l,p x=some (f x)) (D:s.l.length<1073741824):fq s p=some (place f s.l):=
 nM B (by omega) (λi=>rfl)
theorem yO {s:Sl Event} {p:Event->Option Bool} {f:Event->Bool} (B:∀x∈s.l,p x=some (f x)) (D:s.l.length<1073741824):gY s p=some (s.l.any f):=by
 unfold gY;rw[JJ B D,ζb,o4]
theorem Gs {s:Sl cn} {p:cn->Option Bool} {f:cn->Bool} (B:∀x∈s.l,p x=some (f x)) (D:s.l.length<1073741824):iB s p=some (s.l.any f):=by
 unfold iB;rw[L0 B D,ζb,o4]
theorem Hv {s:Sl Var} {p:Var->Option Bool} {f:Var->Bool} (B:∀x∈s.l,p x=some (f x)) (D:s.l.length<1073741824):iQ s p=some (s.l.any f):=by
 unfold iQ;rw[Ni B D,ζb,o4]
theorem Dx {s:Sl Assign} {p:Assign->Option Bool} {f:Assign->Bool} (B:∀x∈s.l,p x=some (f x)) (D:s.l.length<1073741824):gI s p=some (s.l.any f):=by
 unfold gI;rw[HM B D,ζb,o4]
theorem oB (x B D:Int):mM x B D=some (decide (B<=x)&&decide (x<=D)):=by
 unfold mM;rw[mA];rfl
theorem Ka {s:ByteArray} {i:Nat} (h:i<s.size):∃x,kH s (i:Int)=some x:=by
 unfold kH;rw[if_pos (by omega)]
 exact⟨_,by rw[show (s[(i:Int).toNat]?)=some s[i]from by simp[h]];rfl⟩
def kK (n:Nat) (p:Int) (e:Event):Prop:=e.kind=1\/((e.kind=2\/e.kind=3)/\0<=e.peer/\e.peer<n/\e.peer≠p/\0<=e.message/\e.message<=199)
end
end Go.VE
namespace Go.VE
def kN (t:Trace) (p k:Nat) (e:Event):Prop:=∃P,t.procs.l[p]? = some P/\P.events.l[k]? = some e
theorem tO {p:Int} {x:aY×Event}:∀{es:List Event} {j:Int},x∈iP p j es↔∃k:Nat,es[k]? = some x.2/\x.1=⟨p,j+k+1⟩
 | [],j=>by simp[iP]
 | e::es,j=>by
  simp[iP,tO ];constructor
  .rintro (rfl|⟨k,h1,B⟩)
   .exact⟨0,rfl,by simp⟩
   .exact⟨k+1,by grind,by grind⟩
  grind
theorem uL {x:aY×Event}:∀{ps:List cn} {i:Int},x∈fG i ps↔∃(a k:Nat) (P:cn),ps[a]? = some P/\P.events.l[k]? = some x.2/\x.1=⟨i+a,k+1⟩
 | [],i=>by simp[fG]
 | p::ps,i=>by
  simp only[fG,List.mem_append,tO,uL ];constructor
  .rintro (⟨k,h1,B⟩|⟨a,k,P,h1,B,D⟩)
   .exact⟨0,k,p,rfl,h1,by grind⟩
   .exact⟨a+1,k,P,by simp_all,B,by grind⟩
  grind
abbrev bU (t:Trace):List (aY×Event):=fG 0 t.procs.l
theorem eD {t:Trace} {x:aY×Event}:x∈bU t↔∃p k:Nat,kN t p k x.2/\x.1=⟨p,k+1⟩:=by
 rw[uL];constructor
 .rintro⟨a,k,P,h1,q,u⟩;exact⟨a,k,⟨P,h1,q⟩,by grind⟩
 .rintro⟨a,k,⟨P,h1,q⟩,u⟩;grind
theorem Bf {t:Trace} {x y:aY×Event} (B:x∈bU t) (D:y∈bU t) (h:x.1=y.1):x=y:=by
 obtain⟨p,k,⟨P,u,hk⟩,e1⟩:=eD.1 B;obtain⟨q,j,⟨Q,w,z⟩,e2⟩:=eD.1 D
 grind
theorem uY {t:Trace} (B:Small t):jf t=some (bU t):=by
 unfold jf;rw[if_pos];simp[EO];exact⟨by have:=B.1;omega,λp q=>by have:=(B.2 p q).1;omega⟩
def si (t:Trace) (p m to:Int):Bool:=match t.procs.l[p.toNat]? with
 | some P=>P.events.l.any λe=>e.kind==2&&e.message==m&&e.peer==to
 | none=>false
theorem NF {t:Trace} (B:Small t) {p:Int} (h0:0<=p) (h1:p<t.procs.l.length) (m to:Int):tZ t p m to=some (si t p m to):=by
 unfold tZ;have q:p.toNat<t.procs.l.length:=by omega
 have u:=List.getElem_mem q;rw[TO h0,ζd q,ζb,yO (f:=λe=>e.kind==2&&e.message==m&&e.peer==to) (λe _=>by
  unfold qg;simp[mA]) (B.2 _ u).1,ζb]
 unfold si
 grind
theorem CI {t:Trace} {p:Nat} {m to:Int}:si t p m to=true↔∃k e,kN t p k e/\e.kind=2/\e.message=m/\e.peer=to:=by
 unfold si kN;rw[show (p:Int).toNat=p from rfl]
 cases u:t.procs.l[p]? with
 | none=>simp
 | some P=>
  simp;constructor
  .rintro⟨e,q,h⟩;obtain⟨k,hk⟩:=List.getElem?_of_mem q
   grind
  grind
def ag (A:b7 200 bt) (m:Int):bt:=(A.at m).getD default
theorem JF (A:b7 200 bt) {m:Int} (h0:0<=m) (h1:m<=199):A.at m=some (ag A m):=by
 have:m.toNat<A.l.length:=by rw[A.len];omega
 unfold ag b7.at
 grind
theorem qp (A:b7 200 bt) {m m':Int} (x:bt) (h0:0<=m) (h1:m<=199) (B:0<=m'):ag (A.set m x) m'=if m'=m then x else ag A m':=by
 have:m.toNat<A.l.length:=by rw[A.len];omega
 unfold ag b7.at b7.set
 grind
theorem K4 {m:Int} (h0:0<=m) (h1:m<=199):ag (b7.MF 200 (⟨⟨0,0⟩,⟨0,0⟩⟩:bt)) m=⟨⟨0,0⟩,⟨0,0⟩⟩:=by
 unfold ag b7.at b7.MF
 grind
structure eu (t:Trace) (its:List (aY×Event)) (A:b7 200 bt):Prop where
 snd:∀x∈its,x.2.kind=2->(ag A x.2.message).from_=x.1
 rcv:∀x∈its,x.2.kind=3->(ag A x.2.message).to_=x.1/\si t x.2.peer x.2.message x.1.proc=true
 fr:∀m,0<=m->m<=199->(ag A m).from_.index=0\/∃e,((ag A m).from_,e)∈its/\e.kind=2/\e.message=m
 to:∀m,0<=m->m<=199->(ag A m).to_.index=0\/∃e,((ag A m).to_,e)∈its/\e.kind=3/\e.message=m
def Ks (a b:aY×Event):Prop:=a.1.proc<b.1.proc\/a.1.proc=b.1.proc/\a.1.index<b.1.index
theorem MN {p:Int}:∀{es:List Event} {j:Int},(iP p j es).Pairwise Ks
 | [],_=>List.Pairwise.nil
 | e::es,j=>by
  simp only[iP,List.pairwise_cons];refine⟨λb B=>?_,MN⟩
  obtain⟨k,_,D⟩:=tO.1 B;refine .inr ⟨by rw[D],?_⟩
  grind
theorem Fj:∀{ps:List cn} {i:Int},(fG i ps).Pairwise Ks
 | [],_=>List.Pairwise.nil
 | P::ps,i=>by
  simp only[fG,List.pairwise_append];refine⟨MN,Fj,λa B b D=>.inl ?_⟩
  obtain⟨k,_,G⟩:=tO.1 B;obtain⟨c,j,P,_,_,q⟩:=uL.1 D
  grind
theorem He {t:Trace} {k:Nat} {x y:aY×Event} (B:(bU t)[k]? = some x) (D:y∈(bU t).take k):y.1≠x.1:=by
 obtain⟨h1,q⟩:=ζe.1 B;have u:((bU t).take k++(bU t).drop k).Pairwise Ks:=by rw[List.take_append_drop];exact Fj
 have:=(List.pairwise_append.1 u).2.2 y D x (by rw[List.drop_eq_getElem_cons h1,q];grind)
 unfold Ks at this
 grind
structure xM (t:Trace):Prop where
 snd:∀x∈bU t,∀y∈bU t,x.2.kind=2->y.2.kind=2->x.2.message=y.2.message->x.1=y.1
 rcv:∀x∈bU t,∀y∈bU t,x.2.kind=3->y.2.kind=3->x.2.message=y.2.message->x.1=y.1
 has:∀x∈bU t,x.2.kind=3->si t x.2.peer x.2.message x.1.proc=true
theorem eu.LB {t:Trace} {A:b7 200 bt} (h:eu t (bU t) A):xM t:=
 ⟨λx u y w k2 q z=>by rw[<-h.snd x u k2,<-h.snd y w q,z],λx u y w k2 q z=>by rw[<-(h.rcv x u k2).1,<-(h.rcv y w q).1,z],λx u k=>(h.rcv x u k).2⟩
theorem Ch {t:Trace} (hS:Small t) (hF:∀x∈bU t,kK t.procs.l.length x.1.proc x.2):Wp (eC t) λr=>(r.2.2=0->∃A,r.1=some A/\eu t (bU t) A)/\(xM t->r.2.2=0):=by
 unfold eC jV;rw[ζb];unfold eC.E1;rw[uY hS,ζb];refine Ad (λk A=>eu t ((bU t).take k) A) ⟨by simp,by simp,λm h0 h1=>.inl (by rw[K4 h0 h1]),λm h0 h1=>.inl (by rw[K4 h0 h1])⟩ ?_ ?_
 .intro k x A Y z;have D  := List.mem_of_getElem? Y;have O:(bU t).take (k+1)=(bU t).take k++[x]:=by rw[List.take_add_one,Y];rfl
  obtain⟨p,j,aa,ab⟩:=eD.1 D;have hf:=hF x D;unfold eC.sQ;rw[b9];constructor
  .intro hk;have I:x.2.kind=2:=by grind
   have q:0<=x.2.message/\x.2.message<=199:=by
    rcases hf with h|⟨_,_,_,_,h⟩
    .omega
    simp_all
   rw[JF A q.1 q.2,ζb,b9];refine⟨λhg=>(a_ _).2 ((a_ _).2 ⟨λh=>(by cases h),λU=>?_⟩),λh0=>?_⟩
   .rcases z.fr _ q.1 q.2 with W|⟨e,J,Q,S⟩
    .grind
    .exact absurd (U.snd _ (List.mem_of_mem_take J) x D Q I S) (He Y J)
   rw[ζb,a_,O];have T:∀y∈(bU t).take k,y.2.kind=2->y.2.message≠x.2.message:=λy hy u J=>by
    have:=z.snd y hy u;rw[J]at this;obtain⟨p',j',_,L⟩:=eD.1 (List.mem_of_mem_take hy)
    grind
   have X:∀y∈(bU t).take k,y.2.kind=2\/y.2.kind=3->0<=y.2.message:=λy hy u=>by
    rcases hF y (List.mem_of_mem_take hy)with h|⟨_,_,_,_,h,_⟩
    .omega
    simp_all
   refine⟨λy hy u=>?_,λy hy w=>?_,λm B G=>?_,λm B G=>?_⟩
   .rcases List.mem_append.1 hy with hy|hy
    .rw[qp A _ q.1 q.2 (X y hy (.inl u)),if_neg (T y hy u)];exact z.snd y hy u
    .simp at hy;subst hy;rw[qp A _ q.1 q.2 q.1,if_pos rfl]
   .rcases List.mem_append.1 hy with hy|hy
    .rw[qp A _ q.1 q.2 (X y hy (.inr w))];have:=z.rcv y hy w
     grind
    grind
   .rw[qp A _ q.1 q.2 B];split
    .rename_i e;exact .inr ⟨x.2,by simp,I,e.symm⟩
    .exact(z.fr m B G).imp (λh=>h) λ⟨e,h1,C⟩=>⟨e,List.mem_append_left _ h1,C⟩
   .rw[qp A _ q.1 q.2 B];have:=(z.to m B G).imp (λh=>h) λ⟨e,h1,C⟩=>(⟨e,List.mem_append_left [x] h1,C⟩:∃e,((ag A m).to_,e)∈(bU t).take k++[x]/\e.kind=3/\e.message=m)
    split
    .rename_i e;subst e;omega
    omega
  .intro hk;have I  := by simpa using hk
   rw[b9];constructor
   .intro hk;have H  := by simpa using hk
    have q:0<=x.2.message/\x.2.message<=199/\0<=x.2.peer/\x.2.peer<t.procs.l.length:=by
     rcases hf with h|⟨_,h1,C,_,h3,h4⟩
     .omega
     .exact⟨h3,h4,h1,C⟩
    rw[JF A q.1 q.2.1,ζb,b9];refine⟨λhg=>(a_ _).2 ((a_ _).2 ⟨λh=>(by cases h),λU=>?_⟩),λh0=>?_⟩
    .rcases z.to _ q.1 q.2.1 with W|⟨e,J,Q,S⟩
     .simp[W]at hg
     .exact absurd (U.rcv _ (List.mem_of_mem_take J) x D Q H S) (He Y J)
    have h0:¬(ag A x.2.message).to_.index>0:=by simpa using h0
    rw[NF hS q.2.2.1 q.2.2.2,ζb,b9];refine⟨λZ=>?_,λZ=>(a_ _).2 ((a_ _).2 ⟨λh=>(by cases h),λU=>by rw[U.has x D H]at Z;cases Z⟩)⟩
    rw[ζb,a_,O];have T:∀y∈(bU t).take k,y.2.kind=3->y.2.message≠x.2.message:=λy hy u J=>by
     have:=(z.rcv y hy u).1;rw[J]at this;rw[this]at h0;obtain⟨p',j',_,L⟩:=eD.1 (List.mem_of_mem_take hy);rw[L]at h0;exact h0 (by show (j':Int)+1>0;omega)
    have X:∀y∈(bU t).take k,y.2.kind=2\/y.2.kind=3->0<=y.2.message:=λy hy u=>by
     rcases hF y (List.mem_of_mem_take hy)with h|⟨_,_,_,_,h,_⟩
     .omega
     .exact h
    refine⟨λy hy u=>?_,λy hy w=>?_,λm B G=>?_,λm B G=>?_⟩
    .rcases List.mem_append.1 hy with hy|hy
     .rw[qp A _ q.1 q.2.1 (X y hy (.inl u))];have:=z.snd y hy u;split
      .rename_i e;rw[e]at this;exact this
      .exact this
     .simp at hy;subst hy;omega
    .rcases List.mem_append.1 hy with hy|hy
     .rw[qp A _ q.1 q.2.1 (X y hy (.inr w)),if_neg (T y hy w)];exact z.rcv y hy w
     .simp at hy;subst hy;rw[qp A _ q.1 q.2.1 q.1,if_pos rfl];exact⟨rfl,Z⟩
    .rw[qp A _ q.1 q.2.1 B];have:=(z.fr m B G).imp (λh=>h) λ⟨e,h1,C⟩=>(⟨e,List.mem_append_left [x] h1,C⟩:∃e,((ag A m).from_,e)∈(bU t).take k++[x]/\e.kind=2/\e.message=m)
     split
     .rename_i e;subst e;exact this
     .exact this
    .rw[qp A _ q.1 q.2.1 B];split
     .rename_i e;exact .inr ⟨x.2,by simp,H,e.symm⟩
     .exact(z.to m B G).imp (λh=>h) λ⟨e,h1,C⟩=>⟨e,List.mem_append_left _ h1,C⟩
   .intro hk;have H  := by simpa using hk
    rw[a_,O];refine⟨λy hy u=>?_,λy hy w=>?_,λm B G=>?_,λm B G=>?_⟩
    .rcases List.mem_append.1 hy with hy|hy
     .exact z.snd y hy u
     .simp at hy;subst hy;exact absurd u I
    .rcases List.mem_append.1 hy with hy|hy
     .exact z.rcv y hy w
     .simp at hy;subst hy;exact absurd w H
    .exact(z.fr m B G).imp (λh=>h) λ⟨e,h1,C⟩=>⟨e,List.mem_append_left _ h1,C⟩
    .exact(z.to m B G).imp (λh=>h) λ⟨e,h1,C⟩=>⟨e,List.mem_append_left _ h1,C⟩
 .intro A hA;rw[List.take_length]at hA;exact(a_ _).2 ⟨λ_=>⟨A,rfl,hA⟩,λ_=>rfl⟩
end Go.VE
namespace Go.VE
def iU (f:Nat->Bool) (k n:Nat):Bool:=(List.range' k (n-k)).any f
theorem Ei {f:Nat->Bool} {k n:Nat} (h:k<n):iU f k n=(f k||iU f (k+1) n):=by
 unfold iU;rw[show n-k=(n-(k+1))+1 from by omega,List.range'_succ];rfl
theorem N6 {f:Nat->Bool} {k n:Nat} (h:n<=k):iU f k n=false:=by
 unfold iU;rw[show n-k=0 from by omega];rfl
theorem MU {f:Nat->Bool} {k n:Nat}:iU f k n=true↔∃i,k<=i/\i<n/\f i=true:=by
 unfold iU;rw[List.any_eq_true];constructor
 .rintro⟨i,t,q⟩;rw[List.mem_range'_1]at t;exact⟨i,t.1,by omega,q⟩
 .rintro⟨i,h1,u,q⟩;exact⟨i,by rw[List.mem_range'_1];omega,q⟩
theorem C9 {step:Int->Option (Fw Int Unit Unit)} {n:Nat} (f:Nat->Bool) (D:n<9223372036854775807) (h1:∀i:Nat,i<n->step i=some (if f i then .r ()else .n (IntKind.wrap .i64 ((i:Int)+1)))) (B:step (n:Int)=some (.x ())) :
 ∀m k:Nat,k+m=n->bG step (k:Int)=some (if iU f k n then .r ()else .x ()):=by
 intro m
 induction m with
 | zero=>
  intro k hk;have:k=n:=by omega
  subst this;rw[g_,B,N6 (Nat.le_refl _)];rfl
 | succ m q=>
  intro k hk;rw[g_,h1 k (by omega),Ei (by omega)]
  cases t:f k with
  | true=>rfl
  | false=>
   simp only[Bool.false_eq_true,if_false,ζb,Bool.false_or];rw[bY k (by omega)]
   exact q (k+1) (by omega)
def nR (g:Nat->Int) (k n:Nat):Int:=match (List.range' k (n-k)).find? λi => !(g i==0)with
 | some i=>g i
 | none=>0
theorem My {g:Nat->Int} {k n:Nat} (h:k<n):nR g k n=if g k=0 then nR g (k+1) n else g k:=by
 unfold nR;rw[show n-k=(n-(k+1))+1 from by omega,List.range'_succ,List.find?_cons]
 by_cases h0:g k=0
 .simp[h0]
 .rw[if_neg h0,show (!(g k==0))=true from by simp[h0]]
theorem Ol {g:Nat->Int} {k n:Nat} (h:n<=k):nR g k n=0:=by
 unfold nR;rw[show n-k=0 from by omega];rfl
theorem QO {step:Int->Option (Fw Int Unit Int)} {n:Nat} (g:Nat->Int) (D:n<9223372036854775807) (h1:∀i:Nat,i<n->step i=some (if g i=0 then .n (IntKind.wrap .i64 ((i:Int)+1))else .r (g i))) (B:step (n:Int)=some (.x ())) :
 ∀m k:Nat,k+m=n->bG step (k:Int)=some (if nR g k n=0 then .x ()else .r (nR g k n)):=by
 intro m
 induction m with
 | zero=>
  intro k hk;have:k=n:=by omega
  subst this;rw[g_,B,Ol (Nat.le_refl _)];rfl
 | succ m q=>
  intro k hk;rw[g_,h1 k (by omega),My (by omega)]
  by_cases h0:g k=0
  .simp only[h0,if_true,ζb];rw[bY k (by omega)]
   exact q (k+1) (by omega)
  .simp only[h0,if_false,ζb]
theorem yq {step:Int->Option (Fw Int Unit Int)} {n:Nat} (g:Nat->Int) (B:n<9223372036854775807) (h1:∀i:Nat,i<n->step i=some (if g i=0 then .n (IntKind.wrap .i64 ((i:Int)+1))else .r (g i))) (D:step (n:Int)=some (.x ())):bG step 0=some (if nR g 0 n=0 then .x ()else .r (nR g 0 n)):=QO g B h1 D n 0 (by omega)
theorem Bm {step:Int->Option (Fw Int Unit Unit)} {n:Nat} (f:Nat->Bool) (B:n<9223372036854775807) (h1:∀i:Nat,i<n->step i=some (if f i then .r ()else .n (IntKind.wrap .i64 ((i:Int)+1)))) (D:step (n:Int)=some (.x ())):bG step 0=some (if iU f 0 n then .r ()else .x ()):=C9 f B h1 D n 0 (by omega)
def wT (c:Int):Bool:=decide (c>=65)&&decide (c<=90)||decide (c>=97)&&decide (c<=122)
def By (c:Int):Bool:=decide (c>=48)&&decide (c<=57)
theorem BU (c:Int):pe c=some (wT c):=by
 unfold pe wT;simp only[mA,jB,ζb];rw[Bool.or_comm]
theorem B0 (c:Int):ov c=some (wT c):=by
 unfold ov wT;simp only[mA,jB,ζb]
theorem Mf (c:Int):tN c=some (By c):=by
 unfold tN By;simp only[mA,ζb]
theorem Lu (c:Int):sG c=some (By c):=by
 unfold sG By;simp only[mA,ζb]
def wC (s:ByteArray) (i:Nat):Int:=(kH s (i:Int)).getD 0
theorem BJ {s:ByteArray} {i:Nat} (h:i<s.size):kH s (i:Int)=some (wC s i):=by
 obtain⟨x,q⟩:=Ka h;unfold wC;rw[q];rfl
def rX (s:ByteArray) (i:Nat):Bool := !wT (wC s i) && !By (wC s i) && !(wC s i==95)
def lB (s:ByteArray):Bool:=decide (1<=s.size)&&decide (s.size<=16)&&wT (wC s 0) && !iU (rX s) 0 s.size
theorem Ki {s:ByteArray} {i:Nat} (h:i<s.size):gm.bf s (s.size:Int) i=some (if rX s i then .r ()else .n (IntKind.wrap .i64 ((i:Int)+1))):=by
 unfold gm.bf rX;rw[show decide ((i:Int)<(s.size:Int))=true from by simpa using h,bF,BJ h]
 simp only[ζb,BU,Mf];cases wT (wC s i) <;> cases By (wC s i) <;> cases (wC s i==95) <;> rfl
theorem KA {s:ByteArray} {i:Nat} (h:i<s.size):gM.bf s i=some (if rX s i then .r ()else .n (IntKind.wrap .i64 ((i:Int)+1))):=by
 unfold gM.bf rX;rw[show decide ((i:Int)<((ByteArray.size s:Nat):Int))=true from by simpa using h,bF,BJ h]
 simp only[ζb,B0,Lu];cases wT (wC s i) <;> cases By (wC s i) <;> cases (wC s i==95) <;> rfl
theorem toList_empty {s:ByteArray}:(ByteArray.toList s==ByteArray.toList ByteArray.empty)=decide (s.size=0):=by
 rw[Bool.eq_iff_iff,beq_iff_eq,decide_eq_true_eq];constructor
 .intro h;have h1:(ByteArray.toList s).length=s.size:=by rw[Go.ByteArray.toList_eq];simp
  rw[<-h1,h];rw[Go.ByteArray.toList_eq];rfl
 .intro h;have:s=ByteArray.empty:=by
   apply ByteArray.ext;exact Array.eq_empty_of_size_eq_zero h
  rw[this]
theorem D7 {s:ByteArray} (B:s.size<1073741824):gm s=some (lB s):=by
 unfold gm;rw[toList_empty];simp only[jB,ζb]
 by_cases h0:s.size=0
 .simp[h0,lB,bg]
 by_cases q:s.size<=16
 .have hc:(decide (s.size=0)||decide (((ByteArray.size s:Nat):Int)>16))=false:=by simp[h0];omega
  rw[hc,bK,show (0:Int)=((0:Nat):Int)from rfl,BJ (show 0<s.size by omega)]
  simp only[ζb,BU]
  cases t:wT (wC s 0)with
  | false=>simp[lB,t,bg]
  | true=>
   simp only[Bool.not_true,bK];unfold gm.W1;rw[C9 (n:=s.size) (rX s) (by omega) (λi u=>Ki u) (by unfold gm.bf;simp[bg]) s.size 0 (by omega)]
   have:lB s = !iU (rX s) 0 s.size:=by simp[lB,t,q];omega
   rw[this];cases iU (rX s) 0 s.size <;> rfl
 .have hc:(decide (s.size=0)||decide (((ByteArray.size s:Nat):Int)>16))=true:=by simp;omega
  rw[hc,bF];simp[lB,q,bg]
theorem Gx {s:ByteArray} (B:s.size<1073741824):gM s=some (lB s):=by
 unfold gM;simp only[jB,ζb]
 by_cases h0:s.size=0
 .simp[h0,lB,bg]
 by_cases q:s.size<=16
 .have hc:(decide (((ByteArray.size s:Nat):Int)<1)||decide (((ByteArray.size s:Nat):Int)>16))=false:=by simp;omega
  rw[hc,bK,show (0:Int)=((0:Nat):Int)from rfl,BJ (show 0<s.size by omega)]
  simp only[ζb,B0]
  cases t:wT (wC s 0)with
  | false=>simp[lB,t,bg]
  | true=>
   simp only[Bool.not_true,bK];unfold gM.W1;rw[show (1:Int)=((1:Nat):Int)from rfl,C9 (n:=s.size) (rX s) (by omega) (λi w=>KA w) (by unfold gM.bf;simp[bg]) (s.size-1) 1 (by omega)]
   have u:rX s 0=false:=by simp[rX,t]
   have:lB s = !iU (rX s) 1 s.size:=by
    have h1:=Ei (f:=rX s) (show 0<s.size by omega)
    rw[u]at h1;simp[lB,t,q,h1];omega
   rw[this];cases iU (rX s) 1 s.size <;> rfl
 .have hc:(decide (((ByteArray.size s:Nat):Int)<1)||decide (((ByteArray.size s:Nat):Int)>16))=true:=by simp;omega
  rw[hc,bF];simp[lB,q,bg]
end Go.VE
namespace Go.VE
def fO {α:Type} (l:List α) (f:α->Bool) (i:Nat):Bool:=match l[i]? with|some y=>f y|none=>false
theorem zl {α:Type} {l:List α} {f:α->Bool} {i:Nat} (h:i<l.length):fO l f i=f l[i]:=by unfold fO;rw[ζd h]
theorem Bj {α:Type} {l:List α} {f:α->Bool} {p:Nat}:(l.take p).any f=iU (fO l f) 0 p:=by
 rw[Bool.eq_iff_iff,List.any_eq_true,MU];constructor
 .rintro⟨x,u,q⟩;obtain⟨i,t⟩:=List.getElem?_of_mem u;have w:=(ζe.1 t).1;rw[List.length_take]at w;rw[List.getElem?_take,if_pos (by omega)]at t
  exact⟨i,Nat.zero_le _,by omega,by unfold fO;rw[t];exact q⟩
 .rintro⟨i,_,t,q⟩;unfold fO at q;split at q
  .rename_i y z;exact⟨y,List.mem_of_getElem? (i:=i) (by rw[List.getElem?_take,if_pos t];exact z),q⟩
  .cases q
def qU (a b:ByteArray):Bool:=ByteArray.toList a==ByteArray.toList b
def Tk:Bool->Bool->Bool->Int
 | true,false,true=>0
 | true,false,false=>2
 | _,_,_=>13
def uy (P:cn) (i:Nat):Int:=match P.vars.l[i]? with
 | some v=>Tk (lB v.name) (iU (fO P.vars.l λw=>qU w.name v.name) 0 i) (decide (v.init_>=-1073741824)&&decide (v.init_<=1073741824))
 | none=>0
def th (t:Trace) (p:Nat):Int:=match t.procs.l[p]? with
 | some P=>if lB P.name && !iU (fO t.procs.l λy=>qU y.name P.name) 0 p then
  (if P.vars.l.length>8 then 5 else if nR (uy P) 0 P.vars.l.length=0 then(if P.events.l.length>64 then 5 else 0)else nR (uy P) 0 P.vars.l.length)else 13
 | none=>0
theorem El {P:cn} {i:Nat} (h:i<P.vars.l.length):uy P i=Tk (lB P.vars.l[i].name) (iU (fO P.vars.l λw=>qU w.name P.vars.l[i].name) 0 i) (decide (P.vars.l[i].init_>=-1073741824)&&decide (P.vars.l[i].init_<=1073741824)):=by
 unfold uy;rw[ζd h]
theorem DA (n:Int):pI n=some (decide (n>=-1073741824)&&decide (n<=1073741824)):=by
 unfold pI;rw[mA];rfl
theorem Nv {t:Trace} (U:Small t) {p:Nat} (O:p<t.procs.l.length):eG t p=some (th t p):=by
 have W:=U.2 _ (List.getElem_mem O);have h1:=U.1;unfold eG th;rw[bB O,ζb,ζd O];generalize X:t.procs.l[p]=P at *;obtain⟨S,Y,L,q,_⟩:=W;rw[D7 L,ζb];obtain⟨x,Z,u⟩:=pH t.procs p (by omega)
 have D:iB x (λz=>jD z P)=some (iU (fO t.procs.l λy=>qU y.name P.name) 0 p):=by
  rw[Gs (p:=λz=>jD z P) (f:=λy=>qU y.name P.name) (λy _=>rfl) (by rw[u,List.length_take];omega),u,Bj]
 rw[Z,ζb,D,ζb];dsimp only
 cases hn:lB P.name with
 | false=>simp[bg]
 | true=>
  rw[bF,ζb,Bool.true_and]
  cases hd:iU (fO t.procs.l λy=>qU y.name P.name) 0 p with
  | true=>simp[bg]
  | false=>
   rw[bK];simp only[Bool.not_false,if_true]
   by_cases T:P.vars.l.length>8
   .rw[show decide (len P.vars>8)=true from by simp[len];omega,bF,if_pos T]
   .rw[show decide (len P.vars>8)=false from by simp[len];omega,bK,if_neg T]
    unfold eG.W1;rw[yq (n:=P.vars.l.length) (uy P) (by omega) (λi I=>?_) (by unfold eG.bf;simp[bg,len])]
    .by_cases J:nR (uy P) 0 P.vars.l.length=0
     .rw[if_pos J,if_pos J];show bg (decide (len P.events>64)) (some 5) (some 0)=_;rw[tj];simp only[len,decide_eq_true_eq]
      by_cases G:P.events.l.length>64
      .rw[if_pos G,if_pos (by omega)]
      .rw[if_neg G,if_neg (by omega)]
     .rw[if_neg J,if_neg J];rfl
    .unfold eG.bf;rw[El I,show decide ((i:Int)<len P.vars)=true from by simp[len];exact I,bF,bB I,ζb]
     have hv:=q _ (List.getElem_mem I);obtain⟨y,hy,H⟩:=pH P.vars i (by omega)
     have Q:iQ y (λz=>jE z P.vars.l[i])=some (iU (fO P.vars.l λw=>qU w.name P.vars.l[i].name) 0 i):=by
      rw[Hv (p:=λz=>jE z P.vars.l[i]) (f:=λw=>qU w.name P.vars.l[i].name) (λw _=>rfl) (by rw[H,List.length_take];omega),H,Bj]
     rw[D7 hv,ζb,hy,ζb,Q,ζb,oB];have hr:(decide (-1073741824<=P.vars.l[i].init_)&&decide (P.vars.l[i].init_<=1073741824))=(decide (P.vars.l[i].init_>=-1073741824)&&decide (P.vars.l[i].init_<=1073741824)):=rfl;rw[hr];generalize lB P.vars.l[i].name=A;generalize iU (fO P.vars.l λw=>qU w.name P.vars.l[i].name) 0 i=B
     generalize (decide (P.vars.l[i].init_>=-1073741824)&&decide (P.vars.l[i].init_<=1073741824))=C;cases A <;> cases B <;> cases C <;> rfl
theorem NX {t:Trace} (O:Small t) {p:Nat} (J:p<t.procs.l.length):dX t p=some (th t p):=by
 have S:=O.2 _ (List.getElem_mem J);have h1:=O.1;unfold dX th;rw[bB J,ζb,ζd J];generalize T:t.procs.l[p]=P at *;obtain⟨L,U,I,u,_⟩:=S;rw[Gx I,ζb];dsimp only
 cases Y:lB P.name with
 | false=>simp[bg]
 | true=>
  rw[bF,Bool.true_and];unfold dX.W1;rw[Bm (n:=p) (fO t.procs.l λy=>qU y.name P.name) (by omega) (λi q=>?_) (by unfold dX.bf;simp[bg])]
  .cases Z:iU (fO t.procs.l λy=>qU y.name P.name) 0 p with
   | true=>rfl
   | false=>
    simp only[Bool.not_false,if_true];show bg (decide (len P.vars>8)) (some 5) (dX.W2 0 P)=_
    by_cases Q:P.vars.l.length>8
    .rw[show decide (len P.vars>8)=true from by simp[len];omega,bF,if_pos Q]
    .rw[show decide (len P.vars>8)=false from by simp[len];omega,bK,if_neg Q]
     unfold dX.W2;rw[yq (n:=P.vars.l.length) (uy P) (by omega) (λi q=>?_) (by unfold dX.bO;simp[bg,len])]
     .by_cases H:nR (uy P) 0 P.vars.l.length=0
      .rw[if_pos H,if_pos H];show bg (decide (len P.events>64)) (some 5) (some 0)=_;rw[tj];simp only[len,decide_eq_true_eq]
       by_cases z:P.events.l.length>64
       .rw[if_pos z,if_pos (by omega)]
       .rw[if_neg z,if_neg (by omega)]
      .rw[if_neg H,if_neg H];rfl
     .unfold dX.bO;rw[El q,show decide ((i:Int)<len P.vars)=true from by simp[len];exact q,bF,bB q,ζb]
      rw[Gx (u _ (List.getElem_mem q)),ζb];have W:dX.W3 i 0 P=if iU (fO P.vars.l λw=>qU w.name P.vars.l[i].name) 0 i then some (.r 13)else(if decide (P.vars.l[i].init_>=-1073741824)&&decide (P.vars.l[i].init_<=1073741824)then some (.n (IntKind.wrap .i64 ((i:Int)+1)))else some (.r 2)):=by
       unfold dX.W3;rw[Bm (n:=i) (fO P.vars.l λw=>qU w.name P.vars.l[i].name) (by omega) (λj X=>?_) (by unfold dX.dh;simp[bg])]
       .cases iU (fO P.vars.l λw=>qU w.name P.vars.l[i].name) 0 i with
        | true=>rfl
        | false=>
         show (idx P.vars (i:Int)).bind _=_;rw[bB q,ζb,DA,ζb];cases (decide (P.vars.l[i].init_>=-1073741824)&&decide (P.vars.l[i].init_<=1073741824)) <;> rfl
       .unfold dX.dh;have D:j<P.vars.l.length:=by omega
        rw[show decide ((j:Int)<(i:Int))=true from by simpa using X,bF,bB D,ζb,bB q,ζb,zl D,tj];rfl
      rw[W];generalize lB P.vars.l[i].name=A;generalize iU (fO P.vars.l λw=>qU w.name P.vars.l[i].name) 0 i=B
      generalize (decide (P.vars.l[i].init_>=-1073741824)&&decide (P.vars.l[i].init_<=1073741824))=C;cases A <;> cases B <;> cases C <;> rfl
  .unfold dX.bf;have G:i<t.procs.l.length:=by omega
   rw[show decide ((i:Int)<(p:Int))=true from by simpa using q,bF,bB G,ζb,zl G,tj];rfl
end Go.VE
namespace Go.VE
def G2 (n:Nat) (p:Int) (e:Event):Bool:=if e.kind==1 then e.peer==0&&e.message==0 else(e.kind==2||e.kind==3)&&(decide (0<=e.peer)&&decide (e.peer<n)) && !(e.peer==p)&&(decide (0<=e.message)&&decide (e.message<=199))
theorem Mz {t:Trace} (D:Small t) (p:Int) (e:Event):iz t p e=some (G2 t.procs.l.length p e):=by
 have h1:=D.1;have u:IntKind.wrap .i64 (len t.procs-1)=len t.procs-1:=qQ _ (by simp[len];omega) (by simp[len];omega)
 have q:∀b:Bool,iz.J1 p b t e=some (b&&(decide (0<=e.peer)&&decide (e.peer<t.procs.l.length)) && !(e.peer==p)&&(decide (0<=e.message)&&decide (e.message<=199))):=by
  intro b;unfold iz.J1;simp only[oB,u,ζb];have:decide (e.peer<=len t.procs-1)=decide (e.peer<t.procs.l.length):=by congr 1;apply propext;simp[len];omega
  rw[this];generalize (decide (0<=e.peer)&&decide (e.peer<(t.procs.l.length:Int)))=A;generalize (e.peer==p)=B;generalize (decide (0<=e.message)&&decide (e.message<=199))=C;cases b <;> cases A <;> cases B <;> cases C <;> rfl
 unfold iz G2;rw[q,q]
 cases h1:e.kind==1 with
 | true=>
  rw[bF];cases e.peer==0 <;> cases e.message==0 <;> rfl
 | false=>
  rw[bK];simp only[Bool.false_eq_true,if_false];cases w:e.kind==2 <;> simp[bg]
def B5 (P:cn) (k:Nat) (e:Event):Bool:=match k with|0=>false|j+1=>fO P.events.l (λx=>decide (e.time<x.time)) j
def tM (P:cn) (k:Nat) (e:Event):Bool:=decide (e.time<0)||decide (e.time>1099511627776)||B5 P k e
def TP:Bool->Bool->Bool->Int
 | true,true,false=>0
 | true,true,true=>8
 | _,_,_=>2
def qC (P:cn) (e:Event) (i:Nat):Int:=match e.assign.l[i]? with
 | some a=>TP (decide (0<=a.var)&&decide (a.var<P.vars.l.length)) (decide (a.value>=-1073741824)&&decide (a.value<=1073741824)) (iU (fO e.assign.l λb=>b.var==a.var) 0 i)
 | none=>0
theorem DE {P:cn} {e:Event} {i:Nat} (h:i<e.assign.l.length):qC P e i=TP (decide (0<=e.assign.l[i].var)&&decide (e.assign.l[i].var<P.vars.l.length)) (decide (e.assign.l[i].value>=-1073741824)&&decide (e.assign.l[i].value<=1073741824)) (iU (fO e.assign.l λb=>b.var==e.assign.l[i].var) 0 i):=by
 unfold qC;rw[ζd h]
def oP (n:Nat) (P:cn) (p k:Nat) (e:Event):Int:=if G2 n p e then(if tM P k e then 11 else if e.assign.l.length>8 then 5 else nR (qC P e) 0 e.assign.l.length)else 3
theorem Ke {P:cn} {e:Event} (hv:P.vars.l.length<1073741824) (J:e.assign.l.length<1073741824):dz.W2 e.assign (len e.assign) 0 e P=some (nR (qC P e) 0 e.assign.l.length):=by
 have G:IntKind.wrap .i64 (len P.vars-1)=len P.vars-1:=qQ _ (by simp[len];omega) (by simp[len];omega)
 unfold dz.W2;rw[yq (n:=e.assign.l.length) (qC P e) (by omega) (λi t=>?_) (by unfold dz.bO;simp[bg,len])]
 .by_cases u:nR (qC P e) 0 e.assign.l.length=0
  .rw[if_pos u,u];rfl
  .rw[if_neg u];rfl
 .unfold dz.bO;obtain⟨y,H,q⟩:=pH e.assign i (by omega)
  have D:gI y (λz=>ki z e.assign.l[i])=some (iU (fO e.assign.l λb=>b.var==e.assign.l[i].var) 0 i):=by
   rw[Dx (p:=λz=>ki z e.assign.l[i]) (f:=λb=>b.var==e.assign.l[i].var) (λw _=>rfl) (by rw[q,List.length_take];omega),q,Bj]
  rw[DE t,show decide ((i:Int)<len e.assign)=true from by simp[len];exact t,bF,bB t,ζb,oB,oB,G,H,ζb,ζb,ζb,D,ζb]
  have h1:(decide (0<=e.assign.l[i].var)&&decide (e.assign.l[i].var<=len P.vars-1))=(decide (0<=e.assign.l[i].var)&&decide (e.assign.l[i].var<P.vars.l.length)):=by
   congr 2;apply propext;simp[len];omega
  have I:(decide (-1073741824<=e.assign.l[i].value)&&decide (e.assign.l[i].value<=1073741824))=(decide (e.assign.l[i].value>=-1073741824)&&decide (e.assign.l[i].value<=1073741824)):=rfl;rw[h1,I];generalize (decide (0<=e.assign.l[i].var)&&decide (e.assign.l[i].var<(P.vars.l.length:Int)))=A;generalize (decide (e.assign.l[i].value>=-1073741824)&&decide (e.assign.l[i].value<=1073741824))=B;generalize iU (fO e.assign.l λb=>b.var==e.assign.l[i].var) 0 i=C
  cases A <;> cases B <;> cases C <;> rfl
theorem KW {t:Trace} (B:Small t) {p k:Nat} {P:cn} {e:Event} (D:t.procs.l[p]? = some P) (J:P.events.l[k]? = some e):dz t ⟨p,k+1⟩ e=some (oP t.procs.l.length P p k e):=by
 obtain⟨I,u⟩:=ζe.1 D;obtain⟨hk,w⟩:=ζe.1 J;obtain⟨C,z,_,_,A⟩:=B.2 P (u▸List.getElem_mem I);have L:=A e (w▸List.getElem_mem hk);have G:∀last:Int,((decide (0<=e.time)&&decide (e.time<=1099511627776)) && !decide (e.time<last))=(!tM P k e) ->
  dz.J1 last t ⟨p,k+1⟩ e P=some (oP t.procs.l.length P p k e):=by
  intro last O;unfold dz.J1 oP;rw[Mz B,ζb,oB,ζb,Ke z L];dsimp only
  cases G2 t.procs.l.length p e with
  | false=>rfl
  | true=>
   rw[bF,if_pos rfl];have:(bg (decide (0<=e.time)&&decide (e.time<=1099511627776)) (some (decide (e.time<last))) (some true):Option Bool)=some (tM P k e):=by
    have Q:(!((decide (0<=e.time)&&decide (e.time<=1099511627776)) && !decide (e.time<last)))=tM P k e:=by rw[O,Bool.not_not]
    rw[<-Q];cases (decide (0<=e.time)&&decide (e.time<=1099511627776)) <;> cases decide (e.time<last) <;> rfl
   rw[this,ζb]
   cases tM P k e with
   | true=>rfl
   | false=>
    rw[bK];simp only[Bool.false_eq_true,if_false]
    by_cases H:e.assign.l.length>8
    .rw[show decide (len e.assign>8)=true from by simp[len];omega,bF,if_pos H]
    .rw[show decide (len e.assign>8)=false from by simp[len];omega,bK,if_neg H]
 unfold dz;dsimp only;rw[show idx t.procs (p:Int)=some P from by rw[sJ];exact D,ζb]
 cases k with
 | zero=>
  rw[show decide (((0:Nat):Int)+1>1)=false from by decide,bK]
  refine G 0 ?_;simp only[tM,B5,Bool.or_false];rw[Bool.eq_iff_iff];simp only[ζh,Bool.not_eq_true',decide_eq_true_eq,decide_eq_false_iff_not,Bool.or_eq_false_iff];omega
 | succ j=>
  rw[show decide ((((j+1:Nat)):Int)+1>1)=true from by simp;omega,bF]
  have q:j<P.events.l.length:=by omega
  have S:IntKind.wrap .i64 ((((j+1:Nat)):Int)+1-2)=((j:Nat):Int):=by rw[qQ _ (by omega) (by omega)];omega
  rw[S,bB q,ζb];refine G _ ?_;simp only[tM,B5,zl q];rw[Bool.eq_iff_iff];simp only[ζh,Bool.not_eq_true',decide_eq_true_eq,decide_eq_false_iff_not,Bool.or_eq_false_iff];omega
end Go.VE
namespace Go.VE
theorem Jp {t:Trace} {p:Nat} {P:cn} {e:Event} (D:t.procs.l[p]? = some P) (J:e.assign.l.length<1073741824):dZ.W2 p 0 t e=some (nR (qC P e) 0 e.assign.l.length):=by
 unfold dZ.W2;rw[yq (n:=e.assign.l.length) (qC P e) (by omega) (λi u=>?_) (by unfold dZ.bO;simp[bg,len])]
 .by_cases w:nR (qC P e) 0 e.assign.l.length=0
  .rw[if_pos w,w];rfl
  .rw[if_neg w];rfl
 .unfold dZ.bO;have z:dZ.W3 p i 0 t e e.assign.l[i]=if iU (fO e.assign.l λb=>b.var==e.assign.l[i].var) 0 i then some (.r 8)else some (.n (IntKind.wrap .i64 ((i:Int)+1))):=by
   unfold dZ.W3;rw[Bm (n:=i) (fO e.assign.l λb=>b.var==e.assign.l[i].var) (by omega) (λj G=>?_) (by unfold dZ.dh;simp[bg])]
   .cases iU (fO e.assign.l λb=>b.var==e.assign.l[i].var) 0 i <;> rfl
   .unfold dZ.dh;have q:j<e.assign.l.length:=by omega
    rw[show decide ((j:Int)<(i:Int))=true from by simpa using G,bF,bB q,ζb,zl q,tj]
  rw[DE u,show decide ((i:Int)<len e.assign)=true from by simp[len];exact u,bF,bB u,ζb,z,DA,ζb,show idx t.procs (p:Int)=some P from by rw[sJ];exact D,ζb]
  have h1:(bg (decide (e.assign.l[i].var<0)) (some true) (some (decide (e.assign.l[i].var>=len P.vars))):Option Bool)=some (!(decide (0<=e.assign.l[i].var)&&decide (e.assign.l[i].var<P.vars.l.length))):=by
   rw[jB];congr 1;rw[Bool.eq_iff_iff];simp only[Bool.or_eq_true,Bool.not_eq_true',decide_eq_true_eq,Bool.and_eq_false_iff,decide_eq_false_iff_not,len];omega
  rw[h1,ζb];generalize (decide (0<=e.assign.l[i].var)&&decide (e.assign.l[i].var<(P.vars.l.length:Int)))=A;generalize (decide (e.assign.l[i].value>=-1073741824)&&decide (e.assign.l[i].value<=1073741824))=B;generalize iU (fO e.assign.l λb=>b.var==e.assign.l[i].var) 0 i=C
  cases A <;> cases B <;> cases C <;> rfl
theorem Om {t:Trace} (U:Small t) {p k:Nat} {P:cn} {e:Event} (J:t.procs.l[p]? = some P) (O:P.events.l[k]? = some e):dZ t p k=some (oP t.procs.l.length P p k e):=by
 obtain⟨Q,u⟩:=ζe.1 J;obtain⟨hk,w⟩:=ζe.1 O;obtain⟨I,S,_,_,z⟩:=U.2 P (u▸List.getElem_mem Q);have T:=z e (w▸List.getElem_mem hk);have W:dZ.J1 p k t e=some (if tM P k e then 11 else if e.assign.l.length>8 then 5 else nR (qC P e) 0 e.assign.l.length):=by
  unfold dZ.J1;rw[jB,ζb,Jp J T,show idx t.procs (p:Int)=some P from by rw[sJ];exact J,ζb]
  have h1:(bg (decide ((k:Int)>0)) ((idx P.events (IntKind.wrap .i64 ((k:Int)-1))).bind λH=>some (decide (e.time<H.time))) (some false):Option Bool)=some (B5 P k e):=by
   cases k with
   | zero=>rfl
   | succ j=>
    have q:j<P.events.l.length:=by omega
    rw[show decide ((((j+1:Nat)):Int)>0)=true from by simp only[decide_eq_true_eq];omega,bF,show IntKind.wrap .i64 ((((j+1:Nat)):Int)-1)=((j:Nat):Int)from by rw[qQ _ (by omega) (by omega)];omega,bB q,ζb]
    simp only[B5,zl q]
  rw[h1,ζb,jB,ζb];show bg (tM P k e) _ _=_
  cases tM P k e with
  | true=>rfl
  | false=>
   rw[bK];simp only[Bool.false_eq_true,if_false]
   by_cases L:e.assign.l.length>8
   .rw[show decide (len e.assign>8)=true from by simp[len];omega,bF,if_pos L]
   .rw[show decide (len e.assign>8)=false from by simp[len];omega,bK,if_neg L]
 unfold dZ oP;rw[show idx t.procs (p:Int)=some P from by rw[sJ];exact J,ζb,show idx P.events (k:Int)=some e from by rw[sJ];exact O,ζb,W]
 unfold G2
 cases h1:e.kind==1 with
 | true=>
  rw[bF];simp only[if_true];cases e.peer==0 <;> cases e.message==0 <;> rfl
 | false=>
  rw[bK];simp only[Bool.false_eq_true,if_false];have X:(bg (e.kind==2) (some false) (some (!(e.kind==3))):Option Bool)=some (!(e.kind==2||e.kind==3)):=by cases e.kind==2 <;> rfl
  rw[X,ζb,jB,ζb,jB,ζb,jB,ζb,jB,ζb,jB,ζb];have Y:(((((!(e.kind==2||e.kind==3))||decide (e.peer<0))||decide (e.peer>=len t.procs))||(e.peer==p))||decide (e.message<0)||decide (e.message>199)) = !((e.kind==2||e.kind==3)&&(decide (0<=e.peer)&&decide (e.peer<t.procs.l.length)) && !(e.peer==p)&&(decide (0<=e.message)&&decide (e.message<=199))):=by
   generalize (e.kind==2||e.kind==3)=A;have a1:decide (e.peer<0) = !decide (0<=e.peer):=by rw[Bool.eq_iff_iff];simp
   have a2:decide (e.peer>=len t.procs) = !decide (e.peer<t.procs.l.length):=by rw[Bool.eq_iff_iff];simp[len]
   have a3:decide (e.message<0) = !decide (0<=e.message):=by rw[Bool.eq_iff_iff];simp
   have a4:decide (e.message>199) = !decide (e.message<=199):=by rw[Bool.eq_iff_iff];simp
   rw[a1,a2,a3,a4];generalize decide (0<=e.peer)=B;generalize decide (e.peer<(t.procs.l.length:Int))=C;generalize (e.peer==(p:Int))=D;generalize decide (0<=e.message)=F;generalize decide (e.message<=199)=G;cases A <;> cases B <;> cases C <;> cases D <;> cases F <;> cases G <;> rfl
  rw[Y];generalize ((e.kind==2||e.kind==3)&&(decide (0<=e.peer)&&decide (e.peer<(t.procs.l.length:Int))) && !(e.peer==(p:Int))&&(decide (0<=e.message)&&decide (e.message<=199)))=Z;cases Z <;> rfl
theorem Jn {n:Nat} {p:Int} {e:Event} (h:G2 n p e=true):kK n p e:=by
 unfold G2 at h;split at h
 .rename_i h1;left;simpa using h1
 .right;simp only[ζh,Bool.or_eq_true,beq_iff_eq,decide_eq_true_eq,Bool.not_eq_true',beq_eq_false_iff_ne,ne_eq]at h;obtain⟨⟨⟨h1,q⟩,u⟩,t⟩:=h;exact⟨h1,q.1,q.2,u,t.1,t.2⟩
theorem GA {n:Nat} {P:cn} {p k:Nat} {e:Event} (h:oP n P p k e=0):kK n p e:=by
 unfold oP at h;split at h
 .rename_i h1;exact Jn h1
 .cases h
end Go.VE
namespace Go.VE
theorem Gl {α:Type} [DecidableEq α]:∀{l r:List α},l.Nodup->(∀x∈l,x∈r)->l.length<=r.length
 | [],_,_,_=>Nat.zero_le _
 | x::l,r,D,G=>by
  have B:=List.nodup_cons.1 D;have:=Gl  (r:=r.erase x) B.2 λy q=>(List.mem_erase_of_ne (by grind)).2 (G y (List.mem_cons_of_mem _ q))
  grind
section
variable {κ:Type} [DecidableEq κ]
theorem B7 {ν:Type} {k:κ}:∀{m:Mo κ ν},k∉m.map (·.1)->tV k m=none
 | [],_=>rfl
 | (a,v)::r,h=>by
  simp only[List.map_cons,List.mem_cons,not_or]at h;unfold tV;rw[if_neg h.1];exact B7 h.2
theorem Ey {ν:Type} {k:κ}:∀{m:Mo κ ν},k∈m.map (·.1)->∃v,tV k m=some v/\(k,v)∈m
 | [],h=>by simp_all
 | (a,v)::r,h=>by
  unfold tV
  by_cases e:k=a
  .grind
  .obtain⟨w,h1,B⟩:=Ey  (by simpa [e]using h)
   grind
theorem q_ {ν:Type} {k:κ} {v:ν}:∀{m:Mo κ ν},k∉m.map (·.1)->qW m k v=m++[(k,v)]
 | [],_=>rfl
 | (a,w)::r,h=>by
  simp only[List.map_cons,List.mem_cons,not_or]at h;show (if k=a then _ else _)=_;rw[if_neg h.1,q_ h.2];rfl
end
def Vd (t:Trace) (y:aY):Prop:=∃e,(y,e)∈bU t
theorem Vd.at_ {t:Trace} {y:aY} (h:Vd t y):∃(p k:Nat) (e:Event),kN t p k e/\y=⟨p,k+1⟩/\(y,e)∈bU t:=by
 obtain⟨e,q⟩:=h;obtain⟨p,k,h1,u⟩:=eD.1 q
 grind
def GV (t:Trace) (y z:aY):Prop:=∃e f,(y,e)∈bU t/\(z,f)∈bU t/\e.kind=2/\f.kind=3/\e.message=f.message
def Edge (t:Trace) (y z:aY):Prop:=Vd t y/\Vd t z/\(z=⟨y.proc,y.index+1⟩\/GV t y z)
abbrev Way (t:Trace):aY->aY->Prop:=Relation.TransGen (Edge t)
def H_ (t:Trace):Prop:=∃x,Way t x x
theorem Way.l {t:Trace} {x y:aY} (h:Way t x y):Vd t x:=by
 induction h with
 | single h=>exact h.1
 | tail _ _ q=>omega
theorem Way.r {t:Trace} {x y:aY} (h:Way t x y):Vd t y:=by
 cases h with
 | single h=>exact h.2.1
 | tail _ h=>exact h.2.1
theorem M3 {t:Trace} (hS:Small t) (hF:∀x∈bU t,kK t.procs.l.length x.1.proc x.2) {A:b7 200 bt} (hA:eu t (bU t) A) {y:aY} (O:Vd t y) :
 Wp (jg t A y) λs=>s.l.length<=2/\∀z,z∈s.l↔Edge t y z:=by
 obtain⟨p,k,e,U,D,u⟩:=O.at_;obtain⟨P,L,hk⟩:=U;have W:P∈t.procs.l:=List.mem_of_getElem? L;have h1:=(hS.2 P W).1;have aa:k<P.events.l.length:=(ζe.1 hk).1;have G:y.proc=p:=by rw[D]
 have C:y.index=k+1:=by rw[D]
 have j:∀s:Sl aY,s.l.length<=1->(∀z,z∈s.l↔Vd t z/\z=⟨y.proc,y.index+1⟩)->Wp (jg.J1 A s P.events y) λs=>s.l.length<=2/\∀z,z∈s.l↔Edge t y z:=by
  intro s hs w;have no:¬(∃z,GV t y z)->s.l.length<=2/\∀z,z∈s.l↔Edge t y z:=λhn=>⟨by omega,λz=>(w z).trans ⟨λh=>⟨O,h.1,.inl h.2⟩,λh=>⟨h.2.1,h.2.2.elim id λh=>(hn ⟨z,h⟩).elim⟩⟩⟩
  unfold jg.J1;have X:IntKind.wrap .i64 (y.index-1)=((k:Nat):Int):=by rw[C,qQ _ (by omega) (by omega)];omega
  rw[X,sJ,hk,ζb,eW,b9];constructor
  .intro B;have B:e.kind=2:=by grind
   have S:0<=e.message/\e.message<=199:=by
    rcases hF _ u with h|⟨_,_,_,_,h⟩
    .grind
    simp_all
   have to_:∀z,GV t y z->(ag A e.message).to_=z:=λz ⟨Y,f,Z,H,a3,a4,a5⟩=>by
    cases Bf Z u rfl;rw[a5];exact(hA.rcv _ H a4).1
   rw[JF A S.1 S.2,ζb,a_,b9];refine⟨λh=>?_,λh=>(a_ _).2 (no λ⟨z,w⟩=>?_)⟩
   .have h:(ag A e.message).to_.index>0:=by grind
    rw[ζb];unfold gU;rw[if_pos (by omega),ζb,a_]
    refine⟨by show (s.l++[(ag A e.message).to_]).length<=2;grind,λz=>?_⟩
    have I:GV t y (ag A e.message).to_:=by
     rcases hA.to e.message S.1 S.2 with h0|⟨Y,h1,h2,h3⟩
     .omega
     .exact⟨e,Y,u,h1,B,h2,h3.symm⟩
    show z∈s.l++[(ag A e.message).to_]↔_;rw[List.mem_append,List.mem_singleton,w];constructor
    .rintro (h|rfl)
     .exact⟨O,h.1,.inl h.2⟩
     .exact⟨O,let ⟨_,f,_,H,_⟩:=I;⟨f,H⟩,.inr I⟩
    .rintro⟨_,h1,h2|h2⟩
     .grind
     grind
   .rw[to_ z w]at h;obtain⟨_,f,_,H,_⟩:=w;obtain⟨q,i,_,T⟩:=eD.1 H;simp only at T;rw[T]at h;simp at h
  .intro B;rw[a_,b9];refine⟨λh=>(by cases h),λ_=>(a_ _).2 (no λ⟨z,Y,f,Z,_,a3,_⟩=>?_)⟩
   cases Bf Z u rfl
   grind
 unfold jg;rw[G,sJ,L,ζb,b9];rw[G]at j;constructor
 .intro h;have h:y.index<len P.events:=by simpa using h
  have B:k+1<P.events.l.length:=by rw[C]at h;simp[len]at h;omega
  refine j _ (by simp[Sl.l]) λz=>?_
  have X:IntKind.wrap .i64 (y.index+1)=y.index+1:=qQ _ (by omega) (by omega)
  simp only[Sl.l,List.mem_singleton,X];refine⟨λw=>⟨⟨P.events.l[k+1],eD.2 ⟨p,k+1,⟨P,L,ζd B⟩,?_⟩⟩,w⟩,λw=>w.2⟩
  rw[w,C];simp
 .intro h;have h:¬y.index<len P.events:=by simpa using h
  refine j _ (by simp[Sl.l]) λz=>⟨λw=>by simp[Sl.l]at w,λ⟨w,he⟩=>?_⟩
  obtain⟨q,i,f,⟨Q,hQ,T⟩,J,_⟩:=w.at_;rw[he,C]at J;simp[aY.mk.injEq]at J;have:q=p:=by omega
  subst this;rw[L]at hQ;cases hQ;have:=(ζe.1 T).1;simp[len]at h;omega
structure FD (t:Trace) (x:aY) (rest:Sl aY) (m:Mo aY Bool) (U:aY->Prop):Prop where
 rst:∀y∈rest.l,y=x\/Way t x y
 keys:(m.map (·.1)).Nodup
 seen:∀y∈m,Way t x y.1/\y.1≠x/\y.2=true
 le:rest.l.length<=m.length+1
 done:∀y,y=x\/y∈m.map (·.1)->y∈rest.l\/U y\/∀z,Edge t y z->z∈m.map (·.1)
theorem FD.count {t:Trace} {x:aY} {rest:Sl aY} {m:Mo aY Bool} {U:aY->Prop} (h:FD t x rest m U):m.length<=(bU t).length:=by
 have:=Gl (r:=(bU t).map (·.1)) h.keys λx q=>by
  obtain⟨y,u,rfl⟩:=List.mem_map.1 q;obtain⟨e,w⟩:=(h.seen y u).1.r
  grind
 grind
theorem MI {t:Trace} (hS:Small t) (hN:(bU t).length<1073741824) (hF:∀x∈bU t,kK t.procs.l.length x.1.proc x.2) {A:b7 200 bt} (hA:eu t (bU t) A):Wp (ir t A) λr=>(r.2=true↔H_ t):=by
 unfold ir jV;rw[ζb];unfold ir.E1;rw[uY hS,ζb];refine Ad (λk _=>∀x∈(bU t).take k,¬Way t x.1 x.1) (by simp) ?_ λ_ h=>(a_ _).2 ⟨λh=>(by cases h),λ⟨x,Z⟩=>?_⟩
 .intro i x _ Z ar;have ah:x∈bU t:=List.mem_of_getElem? Z;refine Wp.mono (P:=λw=>match w with|.n s=>¬Way t x.1 x.1|.x e=>False|.r e=>H_ t) ?_ λw hw=>by
   cases w with
   | n s=>
    intro y hy;rw[List.take_add_one,Z]at hy
    grind
   | x e=>grind
   | r b=>exact(a_ _).2 ⟨λ_=>hw,λ_=>rfl⟩
  refine eP (λq:Sl aY×Mo aY Bool=>FD t x.1 q.1 q.2 λ_=>False) (λq=>2*((bU t).length-q.2.length)+q.1.l.length) ⟨λy hy=>.inl (by simpa [Sl.l]using hy),by simp,by simp,by simp[Sl.l],λy hy=>.inl ?_⟩ ?_
  .simpa [Sl.l]using hy
  rintro⟨rest,m⟩ J;unfold ir.bO;rw[b9];refine⟨λh=>?_,λh=>(a_ _).2 ((a_ _).2 λhw=>?_)⟩
  .have G:0<rest.l.length:=by
    grind
   have hc:=J.count;have av:=J.le;have hw:IntKind.wrap .i64 ((len rest)-1)=(rest.l.length-1:Nat):=by
    rw[qQ _ (by grind) (by grind)];grind
   have H:rest.l.length-1<rest.l.length:=by omega
   rw[hw];have h1:Sl.lQ rest (rest.l.length-1:Nat)=some (rest.l.length-1):=by
    unfold Sl.lQ;grind
   have h2:Sl.get rest (rest.l.length-1)=some rest.l[rest.l.length-1]:=by unfold Sl.get;grind
   obtain⟨cut,h3,h4⟩:∃x,oh rest none (some ((rest.l.length-1:Nat):Int))=some x/\x.l=rest.l.take (rest.l.length-1):=by
    cases rest with
    | nil=>simp[Sl.l]at G
    | emp=>simp[Sl.l]at G
    | row l=>
     simp only[Sl.l]at G ⊢;unfold oh dN;simp_all
    | part l=>
     simp[Sl.l]at G ⊢;unfold oh dN;simp_all
   rw[h1,ζb,h2,ζb,h3,ζb,eW];generalize ai:rest.l[rest.l.length-1]=y;have aj:y∈rest.l:=ai▸List.getElem_mem H;have L:∀z,z∈rest.l->z∈cut.l\/z=y:=λz hz=>by
    have:rest.l.take (rest.l.length-1)++rest.l.drop (rest.l.length-1)=rest.l:=List.take_append_drop ..;rw[<-this]at hz;rcases List.mem_append.1 hz with hz|hz
    .grind
    .rw[List.drop_eq_getElem_cons H,List.drop_of_length_le (by omega)]at hz
     grind
   have aa  := J.rst _ aj;have ak  := aa.elim (λe=>⟨x.2,e▸ah⟩) Way.r
   refine(M3 hS hF hA ak).mono λs hs=>?_
   refine eP (λq:Sl aY×Int×Mo aY Bool=>∃n:Nat,q.2.1=n/\n<=s.l.length/\FD t x.1 q.1 q.2.2 (λu=>u=y)/\(∀z∈s.l.take n,z∈q.2.2.map (·.1))/\2*((bU t).length-q.2.2.length)+q.1.l.length<2*((bU t).length-m.length)+rest.l.length) (λq=>s.l.length-q.2.1.toNat)
    ⟨0,rfl,Nat.zero_le _,⟨λz hz=>J.rst z (by grind),J.keys,J.seen,by grind,λu hu=>?_⟩,by simp,by grind⟩ ?_
   .rcases J.done u hu with h|h|h
    .exact(L u h).imp_right .inl
    .exact h.elim
    .exact .inr (.inr h)
   rintro⟨C,i2,U⟩ ⟨n,rfl,hn,B,I,hμ⟩;simp only at B hμ I;unfold ir.dh;rw[b9];constructor
   .intro h;have W:n<s.l.length:=by simpa [len]using h
    have ab:=(hs.2 s.l[n]).1 (List.getElem_mem W);have O:Way t x.1 s.l[n]:=aa.elim (λe=>.single (e▸ab)) λh=>.tail h ab
    rw[bB W,ζb,b9];refine⟨λY=>(a_ _).2 ((a_ _).2 ((a_ _).2 ⟨x.1,?_⟩)),λQ=>?_⟩
    .have:s.l[n]=x.1:=by
      unfold IL at Y
      revert Y;cases s.l[n];cases x.1;intro Y;simpa using Y
     rw[this]at O;exact O
    have Q:s.l[n]≠x.1:=λe=>by rw[e]at Q;simp[IL]at Q
    have S:=bY n (by omega)
    have ad:s.l.take (n+1)=s.l.take n++[s.l[n]]:=by rw[List.take_add_one,ζd W];rfl
    rw[b9];refine⟨λhg=>(a_ _).2 ⟨⟨n+1,S,by omega,B,λz hz=>?_,hμ⟩,by show _-(IntKind.wrap .i64 ((n:Int)+1)).toNat<_;rw[S];simp;omega⟩,λX=>?_⟩
    .rw[ad]at hz;rcases List.mem_append.1 hz with hz|hz
     .exact I z hz
     .simp[List.mem_singleton]at hz;subst hz;apply Classical.byContradiction;intro hk;unfold Dc at hg;rw[B7 hk]at hg;cases hg
    have aw:=B.count;have au:=B.le;unfold gU;rw[if_pos (show C.l.length+1<=2147483648 from by omega),ζb,a_]
    have D:s.l[n]∉U.map (·.1):=λal=>by
     obtain⟨v,hv,am⟩:=Ey al;have:=(B.seen _ am).2.2;simp only at this;subst this;unfold Dc at X;rw[hv]at X;cases X
    have T:∀z,z∈(qW U s.l[n] true).map (·.1)↔z∈U.map (·.1)\/z=s.l[n]:=λz=>by
     rw[q_ D,List.map_append,List.mem_append];simp
    have ae:FD t x.1 (.row (C.l++[s.l[n]])) (qW U s.l[n] true) (λu=>u=y):=by
     refine⟨λy hy=>?_,?_,λy hy=>?_,?_,λu hu=>?_⟩
     .simp[Sl.l,List.mem_singleton]at hy;rcases hy with hy|rfl
      .exact B.rst y hy
      .exact .inr O
     .rw[q_ D,List.map_append,List.nodup_append];refine⟨B.keys,by simp,λa ha b hb=>?_⟩
      simp[List.mem_singleton]at hb;subst hb;exact λe=>D (e▸ha)
     .rw[q_ D]at hy;rcases List.mem_append.1 hy with hy|hy
      .exact B.seen y hy
      .simp[List.mem_singleton]at hy;subst hy;exact⟨O,Q,rfl⟩
     .rw[q_ D];show (C.l++[s.l[n]]).length<=_;rw[ζi,ζi,List.length_singleton,List.length_singleton];omega
     .simp only[Sl.l,List.mem_append,List.mem_singleton];have af:u=x.1\/u∈U.map (·.1)->(u∈C.l\/u=s.l[n])\/u=y\/∀z,Edge t u z->z∈(qW U s.l[n] true).map (·.1):=λhu=>by
       rcases B.done u hu with h|h|h
       .exact .inl (.inl h)
       .exact .inr (.inl h)
       .exact .inr (.inr λz hz=>(T z).2 (.inl (h z hz)))
      rcases hu with hu|hu
      .exact af (.inl hu)
      .rcases (T u).1 hu with hu|hu
       .exact af (.inr hu)
       .exact .inl (.inr hu)
    have an:=ae.count;refine⟨⟨n+1,S,by omega,ae,λz hz=>?_,?_⟩,by show _-(IntKind.wrap .i64 ((n)+1)).toNat<_;rw[S];simp;omega⟩
    .rw[ad]at hz;rcases List.mem_append.1 hz with hz|hz
     .exact(T z).2 (.inl (I z hz))
     .exact(T z).2 (.inr (by simpa using hz))
    rw[q_ D,ζi,List.length_singleton]at an;show 2*((bU t).length-(qW U s.l[n] true).length)+(C.l++[s.l[n]]).length<_;rw[q_ D,ζi,ζi,List.length_singleton,List.length_singleton];omega
   .intro h;have ao:s.l.length<=n:=by simpa [len]using h
    rw[List.take_of_length_le ao]at I;refine(a_ _).2 ((a_ _).2 ⟨⟨B.rst,B.keys,B.seen,B.le,λu hu=>?_⟩,hμ⟩)
    rcases B.done u hu with h|h|h
    .exact .inl h
    .subst h;exact .inr (.inr λz hz=>I z ((hs.2 z).2 hz))
    .exact .inr (.inr h)
  .have ap:rest.l=[]:=by
    have:¬len rest>0:=by simpa using h
    simp[len]at this;exact this
   have hd:∀y,y=x.1\/y∈m.map (·.1)->∀z,Edge t y z->z∈m.map (·.1):=λy hy=>by
    rcases J.done y hy with h|h|h
    .simp only[ap]at h;cases h
    .exact h.elim
    .exact h
   have key:∀z,Way t x.1 z->z∈m.map (·.1):=λz hz=>by
    induction hz with
    | single h=>exact hd _ (.inl rfl) _ h
    | tail _ h ih=>exact hd _ (.inr ih) _ h
   obtain⟨y,hy,aq⟩:=List.mem_map.1 (key _ hw);exact(J.seen y hy).2.1 aq
 .obtain⟨e,Y⟩:=Z.l;rw[List.take_length]at h;exact absurd Z (h _ Y)
structure Ok (t:Trace):Prop where
 one:1<=t.procs.l.length
 few:t.procs.l.length<=8
 heads:∀p,p<t.procs.l.length->th t p=0
 fI:∀(p k:Nat) P e,t.procs.l[p]? = some P->P.events.l[k]? = some e->oP t.procs.l.length P p k e=0
 LB:xM t
 acyc:¬H_ t
theorem DP {t:Trace} (h:∀(p k:Nat) P e,t.procs.l[p]? = some P->P.events.l[k]? = some e->oP t.procs.l.length P p k e=0):∀x∈bU t,kK t.procs.l.length x.1.proc x.2:=λx u=>by
 obtain⟨p,k,⟨P,w,z⟩,q⟩:=eD.1 u;rw[q];exact GA (h p k P _ w z)
structure VT (t:Trace):Prop where
 formed:∀x∈bU t,kK t.procs.l.length x.1.proc x.2
 msgs:∃A i,eC t=some (some A,i,0)/\eu t (bU t) A
 few:t.procs.l.length<=8
 ok:Ok t
theorem NV {t:Trace} (B:Small t) (W:(bU t).length<1073741824):Wp (gO t) λr=>(r.2=0->VT t)/\(Ok t->r.2=0):=by
 unfold gO;rw[oB,ζb,b9];refine⟨λH=>?_,λH=>(a_ _).2 ⟨λh=>(by omega),λh=>?_⟩⟩
 rotate_left
 .have h1:=h.one;have D:=h.few
  grind
 have D:1<=t.procs.l.length/\t.procs.l.length<=8:=by
  grind
 unfold gO.W1;refine eP (λi:Int=>∃n:Nat,i=n/\n<=t.procs.l.length/\∀p,p<n->th t p=0) (λi:Int=>t.procs.l.length-i.toNat) ⟨0,rfl,Nat.zero_le _,λp I=>absurd I (by omega)⟩ ?_
 rintro i ⟨n,rfl,hn,X⟩;unfold gO.bf;rw[b9];constructor
 .intro h;have q:n<t.procs.l.length:=by grind
  rw[Nv B q,ζb,b9];refine⟨λh0=>(a_ _).2 ⟨⟨n+1,bY n (by omega),by omega,λp I=>?_⟩,by rw[bY n (by omega)];simp;omega⟩,λh0=>(a_ _).2 ((a_ _).2 ⟨λh=>?_,λh=>?_⟩)⟩
  .grind
  .grind
  .simp[h.heads n q]at h0
 .intro h;have Y:t.procs.l.length<=n:=by grind
  rw[a_];unfold jV;rw[ζb];unfold gO.E2;rw[uY B,ζb];refine Ad (λi _=>∀(p k:Nat) P e,t.procs.l[p]? = some P->P.events.l[k]? = some e->(⟨p,k+1⟩,e)∈(bU t).take i->oP t.procs.l.length P p k e=0) (by simp) ?_ ?_
  .intro i x _ U u;have J  := List.mem_of_getElem? U;obtain⟨p,j,⟨P,w,z⟩,L⟩:=eD.1 J;unfold gO.II;rw[L,KW B w z,ζb,b9];refine⟨λh0=>(a_ _).2 λp' k' P' e' Z aa hm=>?_,λh0=>(a_ _).2 ((a_ _).2 ⟨λh=>?_,λh=>?_⟩)⟩
   .rw[List.take_add_one,U]at hm
    grind
   .grind
   .simp[h.fI p j P _ w z]at h0
  .intro _ u;have u:∀(p k:Nat) P e,t.procs.l[p]? = some P->P.events.l[k]? = some e->oP t.procs.l.length P p k e=0:=λp k P e w z=>u p k P e w z (by rw[List.take_length];exact eD.2 ⟨p,k,⟨P,w,z⟩,rfl⟩)
   have O:=DP u;obtain⟨r,hr,hq,Q⟩:=Ch B O;rw[hr,ζb,b9];refine⟨λh0=>?_,λh0=>(a_ _).2 ⟨λh=>?_,λh=>Q h.LB⟩⟩
   .have h0  := by simpa using h0
    obtain⟨A,S,T⟩:=hq h0;rw[S,ζb];obtain⟨c,hc,C⟩:=MI B W O T;rw[hc,ζb,b9];refine⟨λG=>(a_ _).2 ⟨λh=>(by cases h),λh=>absurd (C.1 G) h.acyc⟩,λG=>(a_ _).2 ⟨λ_=>?_,λ_=>rfl⟩⟩
    exact⟨O,⟨A,r.2.1,by rw[hr];obtain⟨r1,r2,r3⟩:=r;simp only at S h0;rw[S,h0],T⟩,D.2,D.1,D.2,λp I=>X p (by omega),u,T.LB,λhc=>by rw[C.2 hc]at G;cases G⟩
   simp_all
theorem M_ {t:Trace} (B:Small t) (D:(bU t).length<1073741824):Wp (dc t) λb=>(b=true->VT t)/\(Ok t->b=true):=by
 unfold dc;rw[eW];exact(NV B D).mono λr hr=>(a_ _).2 ⟨λh=>hr.1 (by grind),λh=>by grind⟩
end Go.VE
namespace Go.VE
end Go.VE
namespace Go.VE
end Go.VE
namespace Go.VE
theorem Li {t:Trace} (G:Small t) (hv:dc t=some true) {A:b7 200 bt} (B:eu t (bU t) A) {x:aY×Event} (D:x∈bU t) (hk:x.2.kind=2):sA t x.2.message=some (x.1,true):=by
 refine Wp.eq ?_;unfold sA lz;rw[hv,ζb,bF];unfold jV;rw[ζb];unfold lz.E1;rw[uY G,ζb,eW];refine Ad (λk _=>∀y∈(bU t).take k,¬(y.2.kind=2/\y.2.message=x.2.message)) (by simp) ?_ ?_
 .intro k y _ w q;have u:y∈bU t:=List.mem_of_getElem? w;unfold lz.sQ;rw[mA,ζb,b9];constructor
  .intro hc;have hc:y.2.kind=2/\y.2.message=x.2.message:=by simpa using hc
   refine(a_ _).2 ((a_ _).2 ((a_ _).2 ?_));have h1:=B.snd y u hc.1;have C:=B.snd x D hk;rw[hc.2,C]at h1;rw[h1]
  .intro hc;have hc:¬(y.2.kind=2/\y.2.message=x.2.message):=by
    intro h;rw[h.1,h.2]at hc;simp at hc
   rw[a_];intro z hz;rw[List.take_add_one,w]at hz;rcases List.mem_append.1 hz with hz|hz
   .exact q z hz
   .simp at hz;subst hz;exact hc
 .intro _ q;rw[List.take_length]at q;exact absurd ⟨hk,rfl⟩ (q x D)
def iy (t:Trace) (c:List Int):Prop:=c.length=t.procs.l.length/\∀(p:Nat) (a:Int) (P:cn),c[p]? = some a->t.procs.l[p]? = some P->0<=a/\a<=P.events.l.length
def kX (t:Trace) (A:b7 200 bt) (c:List Int):Prop:=∀(p k:Nat) (e:Event) (a:Int),kN t p k e->c[p]? = some a->(k:Int)<a->e.kind=3->∃b,c[(ag A e.message).from_.proc.toNat]? = some b/\(ag A e.message).from_.index<=b
theorem xN {t:Trace} (J:VT t) {A:b7 200 bt} (D:eu t (bU t) A) {p k:Nat} {e:Event} (O:kN t p k e) (hk:e.kind=3) :
 ∃(q j:Nat) (y:Event),kN t q j y/\y.kind=2/\y.message=e.message/\y.peer=p/\e.peer=q/\(ag A e.message).from_=⟨q,j+1⟩:=by
 have u:((⟨p,k+1⟩:aY),e)∈bU t:=eD.2 ⟨p,k,O,rfl⟩;have z:=(D.rcv _ u hk).2;have C:=J.formed _ u;simp only at z C;have B:0<=e.peer:=by
  rcases C with h|⟨_,h,_⟩
  .omega
  .exact h
 obtain⟨q,G⟩:∃q:Nat,e.peer=q:=⟨e.peer.toNat,by omega⟩
 rw[G]at z;obtain⟨j,y,w,h1,H,I⟩:=CI.1 z;have:=D.snd (⟨q,j+1⟩,y) (eD.2 ⟨q,j,w,rfl⟩) h1;simp only at this;rw[H]at this;exact⟨q,j,y,w,h1,H,I,G,this⟩
def VW (t:Trace) (A:b7 200 bt) (c:List Int) (s:aY):Prop:=∃(p k:Nat) (e:Event) (a:Int) (q j:Nat) (y:Event) (b:Int),kN t p k e/\c[p]? = some a/\(k:Int)<a/\e.kind=3/\(ag A e.message).from_=s/\s=⟨q,j+1⟩/\kN t q j y/\c[q]? = some b/\b<(j:Int)+1
theorem IU {t:Trace} (hS:Small t) (hv:dc t=some true) (hV:VT t) {A:b7 200 bt} (hM:eu t (bU t) A) {c:Sl Int} (hR:iy t c.l):Wp (gp t c) λr=>(r.2.2=false->kX t A c.l)/\(r.2.2=true->VW t A c.l r.1):=by
 have ah:=hV.few;unfold gp gp.W1;refine eP (λs:Int=>∃n:Nat,s=n/\n<=c.l.length/\∀(p k:Nat) (e:Event) (a:Int),p<n->kN t p k e->c.l[p]? = some a->(k:Int)<a->e.kind=3->∃b,c.l[(ag A e.message).from_.proc.toNat]? = some b/\(ag A e.message).from_.index<=b) (λs:Int=>c.l.length-s.toNat) ⟨0,rfl,Nat.zero_le _,λp k e a h=>absurd h (by omega)⟩ ?_
 rintro s ⟨n,rfl,hn,hI⟩;have ai:=hR.1;unfold gp.bf;rw[b9];constructor
 .intro h;have C:n<c.l.length:=by simpa [len]using h
  have B:n<t.procs.l.length:=by omega
  have hP:=(hS.2 _ (List.getElem_mem B)).1;obtain⟨r1,r2⟩:=hR.2 n _ _ (ζd C) (ζd B);rw[bB C,ζb,bB B,ζb];obtain⟨y,hy,S⟩:=pH t.procs.l[n].events c.l[n].toNat (by omega)
  rw[show ((c.l[n].toNat:Nat):Int)=c.l[n]from by omega]at hy
  rw[hy,ζb];unfold gp.W2;refine eP (λs:Int=>∃m:Nat,s=m/\m<=y.l.length/\∀(k:Nat) (e:Event),k<m->kN t n k e->e.kind=3->∃b,c.l[(ag A e.message).from_.proc.toNat]? = some b/\(ag A e.message).from_.index<=b) (λs:Int=>y.l.length-s.toNat) ⟨0,rfl,Nat.zero_le _,λk e h=>absurd h (by omega)⟩ ?_
  rintro s ⟨m,rfl,hm,hJ⟩;have af:y.l.length=c.l[n].toNat:=by rw[S,List.length_take];omega
  unfold gp.bO;rw[b9];constructor
  .intro h;have G:m<y.l.length:=by simpa [len]using h
   have H:=bY m (by omega)
   have T:y.l.length-(IntKind.wrap .i64 ((m:Int)+1)).toNat<y.l.length-((m:Int)).toNat:=by rw[H];simp;omega
   have hg:y.l[m]? = t.procs.l[n].events.l[m]? := by rw[S,List.getElem?_take,if_pos (show m<c.l[n].toNat from by omega)]
   have u:kN t n m y.l[m]:=⟨_,ζd B,by rw[<-hg];exact ζd G⟩
   rw[bB G,ζb];generalize y.l[m]=e at u;rw[b9];constructor
   .intro hk;have hk:e.kind=3:=by simpa using hk
    obtain⟨q,j,z,hz,z1,z2,z3,z4,z5⟩:=xN hV hM u hk;have I:=Li hS hv hM (x:=(⟨q,j+1⟩,z)) (eD.2 ⟨q,j,hz,rfl⟩) z1;simp only at I;rw[z2]at I;have ab:=hz;obtain⟨Q,hQ,_⟩:=hz;have J:q<c.l.length:=by have:=(ζe.1 hQ).1;omega
    rw[I,ζb];simp only;rw[bB J,ζb,b9];constructor
    .intro U;have U:(j:Int)+1>c.l[q]:=by simpa using U
     exact(a_ _).2 ((a_ _).2 ((a_ _).2 ⟨λh=>(by cases h),λ_=>⟨n,m,e,c.l[n],q,j,z,c.l[q],u,ζd C,by omega,hk,z5,rfl,ab,ζd J,by omega⟩⟩))
    .intro W;have W:¬((j:Int)+1>c.l[q]):=by simpa using W
     refine(a_ _).2 ⟨⟨m+1,H,by omega,λk X ad w D=>?_⟩,T⟩
     by_cases ek:k=m
     .subst ek;have:X=e:=by
       obtain⟨P1,a1,a2⟩:=u;obtain⟨P2,Y,Z⟩:=w;rw[a1]at Y;cases Y;rw[a2]at Z;cases Z;rfl
      subst this;rw[z5];exact⟨c.l[q],by simp only[Int.toNat_natCast];exact ζd J,by simp only;omega⟩
     .exact hJ k X (by omega) w D
   .intro hk;have hk:¬e.kind=3:=by simpa using hk
    refine(a_ _).2 ⟨⟨m+1,H,by omega,λk X ad w D=>?_⟩,T⟩
    by_cases ek:k=m
    .subst ek;have:X=e:=by
      obtain⟨P1,a1,a2⟩:=u;obtain⟨P2,Y,Z⟩:=w;rw[a1]at Y;cases Y;rw[a2]at Z;cases Z;rfl
     subst this;exact absurd D hk
    .exact hJ k X (by omega) w D
  .intro h;have ae:y.l.length<=m:=by simpa [len]using h
   have aa:=bY n (by omega)
   refine(a_ _).2 ((a_ _).2 ⟨⟨n+1,aa,by omega,λp k e a hp u O L he=>?_⟩,by show _-(IntKind.wrap .i64 ((n:Int)+1)).toNat<_;rw[aa];simp;omega⟩)
   by_cases ep:p=n
   .subst ep;rw[ζd C]at O;cases O;exact hJ k e (by omega) u he
   .exact hI p k e a (by omega) u O L he
 .intro h;have ae:c.l.length<=n:=by simpa [len]using h
  refine(a_ _).2 ((a_ _).2 ⟨λ_ p k e a u O L he=>hI p k e a (by have:=(ζe.1 O).1;omega) u O L he,λh=>(by cases h)⟩)
theorem Kz {t:Trace} (B:Small t) (hv:dc t=some true) (D:VT t) {A:b7 200 bt} (G:eu t (bU t) A) {c:Sl Int} (J:iy t c.l):Wp (gp t c) λr=>(r.2.2=false↔kX t A c.l):=by
 refine(IU B hv D G J).mono λr hr=>⟨hr.1,λu=>?_⟩
 cases h:r.2.2 with
 | false=>rfl
 | true=>
  obtain⟨p,k,e,a,q,j,y,b,h1,w,z,C,H,I,_,L,O⟩:=hr.2 h;obtain⟨Q,g1,g2⟩:=u p k e a h1 w z C;rw[H,I]at g1 g2;simp only[Int.toNat_natCast]at g1 g2;rw[L]at g1;cases g1;omega
end Go.VE
namespace Go.VE
theorem vK {s:Sl (Sl Int)} {p:Sl Int->Option Bool} {f:Sl Int->Bool} (B:∀x∈s.l,p x=some (f x)) (D:s.l.length<1073741824):iE s p=some (s.l.any f):=by
 have h:gb s p=some (place f s.l):=nM B (by omega) (λi=>rfl)
 unfold iE;rw[h,ζb,o4]
theorem BN {t:Trace} (G:Small t) {c:Sl Int} (B:c.l.length=t.procs.l.length):Wp (je t c) λb=>(b=true↔iy t c.l):=by
 have h1:=G.1;unfold je je.W1;refine eP (λs:Int=>∃n:Nat,s=n/\n<=c.l.length/\∀(p:Nat) (a:Int) (P:cn),p<n->c.l[p]? = some a->t.procs.l[p]? = some P->0<=a/\a<=P.events.l.length) (λs:Int=>c.l.length-s.toNat) ⟨0,rfl,Nat.zero_le _,λp a P h=>absurd h (by omega)⟩ ?_
 rintro s ⟨n,rfl,J,C⟩;unfold je.bf;rw[b9];constructor
 .intro h;have u:n<c.l.length:=by simpa [len]using h
  have q:n<t.procs.l.length:=by omega
  have D:=bY n (by omega)
  rw[bB u,ζb,bB q,ζb,jB,ζb,b9];constructor
  .intro w;have w:c.l[n]<0\/c.l[n]>t.procs.l[n].events.l.length:=by simpa [len]using w
   refine(a_ _).2 ((a_ _).2 ⟨λh=>(by cases h),λH=>?_⟩)
   have:=H.2 n _ _ (ζd u) (ζd q);omega
  .intro w;have w:0<=c.l[n]/\c.l[n]<=t.procs.l[n].events.l.length:=by simpa [len]using w
   refine(a_ _).2 ⟨⟨n+1,D,by omega,λp a P L z A=>?_⟩,by rw[D];simp;omega⟩
   by_cases e:p=n
   .subst e;rw[ζd u]at z;cases z;rw[ζd q]at A;cases A;exact w
   .exact C p a P (by omega) z A
 .intro h;have I:c.l.length<=n:=by simpa [len]using h
  refine(a_ _).2 ((a_ _).2 ⟨λ_=>⟨B,λp a P z A=>C p a P (by have:=(ζe.1 z).1;omega) z A⟩,λ_=>rfl⟩)
def Code (t:Trace) (A:b7 200 bt) (c:List Int) (r:Int):Prop:=c.length≠t.procs.l.length/\r=1\/c.length=t.procs.l.length/\¬iy t c/\r=2\/iy t c/\¬kX t A c/\r=18\/iy t c/\kX t A c/\r=0
theorem TF {t:Trace} (J:Small t) (hv:dc t=some true) (O:VT t) {A:b7 200 bt} (U:eu t (bU t) A) (c:Sl Int) :
 Wp (fD t (Sl.row [c]:Sl (Sl Int)) (Sl.nil:Sl Int)) λr=>Code t A c.l r:=by
 unfold fD ua;rw[hv,ζb,bF,vK (f:=λz=>(jX z t).getD false) (λz _=>GR.ok ((a_ _).2 trivial)) (by simp[Sl.l]),ζb,ζb,ζb]
 have u:(!((Sl.row [c]:Sl (Sl Int)).l.any λz=>(jX z t).getD false))=(len c==len t.procs):=by
  simp[Sl.l,jX]
 rw[u,b9];constructor
 .intro h;have w:c.l.length=t.procs.l.length:=by
   have:(c.l.length:Int)=t.procs.l.length:=by simpa [len]using h
   omega
  unfold fD.W1;refine eP (λs:Int=>s=0\/s=1/\iy t c.l) (λs:Int=>1-s.toNat) (.inl rfl) ?_
  intro s C;unfold fD.bf;rcases C with rfl|⟨rfl,D⟩
  .rw[show decide ((0:Int)<len (Sl.row [c]:Sl (Sl Int)))=true from rfl,bF,show idx (Sl.row [c]:Sl (Sl Int)) 0=some c from rfl,ζb,eW];refine(BN J w).mono λb q=>?_
   rw[b9];exact⟨λG=>(a_ _).2 ⟨.inr ⟨rfl,q.1 G⟩,by decide⟩,λB=>(a_ _).2 ((a_ _).2 (.inr (.inl ⟨w,λh=>(by rw[q.2 h]at B;cases B),rfl⟩)))⟩
  .rw[show decide ((1:Int)<len (Sl.row [c]:Sl (Sl Int)))=false from rfl,bK,a_];show Wp (fD.W2 (Sl.row [c]) Sl.nil 0 0 t) _;unfold fD.W2;refine eP (λs:Int=>s=0) (λ_=>0) rfl ?_
   rintro s rfl;unfold fD.bO;rw[show decide ((0:Int)<0)=false from rfl,bK,a_];show Wp (fD.W3 (Sl.row [c]) 1 0 t) _;unfold fD.W3;refine eP (λs:Int=>s=0\/s=1/\kX t A c.l) (λs:Int=>1-s.toNat) (.inl rfl) ?_
   intro s C;unfold fD.dh;rcases C with rfl|⟨rfl,H⟩
   .rw[show decide ((0:Int)<1)=true from rfl,bF,show idx (Sl.row [c]:Sl (Sl Int)) 0=some c from rfl,ζb];unfold yA;rw[eW,eW];refine(Kz J hv O U D).mono λr hr=>?_
    rw[a_,b9];exact⟨λq=>(a_ _).2 ⟨.inr ⟨rfl,hr.1 (by simpa using q)⟩,by decide⟩,λq=>(a_ _).2 ((a_ _).2 (.inr (.inr (.inl ⟨D,λh=>(by have:=hr.2 h;simp[this]at q),rfl⟩))))⟩
   .rw[show decide ((1:Int)<1)=false from rfl,bK,a_];exact(a_ _).2 (.inr (.inr (.inr ⟨D,H,rfl⟩)))
 .intro h;exact(a_ _).2 (.inl ⟨λe=>(by simp[len,e]at h),rfl⟩)
theorem Code.zero {t:Trace} {A:b7 200 bt} {c:List Int} {r:Int} (h:Code t A c r):r=0↔iy t c/\kX t A c:=by
 rcases h with⟨h,rfl⟩|⟨_,h,rfl⟩|⟨_,h,rfl⟩|⟨h1,u,rfl⟩
 .exact⟨λh=>(by cases h),λq=>absurd q.1.1 h⟩
 .exact⟨λh=>(by cases h),λq=>absurd q.1 h⟩
 .exact⟨λh=>(by cases h),λq=>absurd q.2 h⟩
 .exact⟨λ_=>⟨h1,u⟩,λ_=>rfl⟩
theorem Nk {t:Trace} (B:Small t) (hv:dc t=some true) (D:VT t) {A:b7 200 bt} (G:eu t (bU t) A) (c:Sl Int) :
 Wp (fD t (Sl.row [c]:Sl (Sl Int)) (Sl.nil:Sl Int)) λr=>(r=0↔iy t c.l/\kX t A c.l):=(TF B hv D G c).mono λ_ h=>h.zero
def Cons (t:Trace) (A:b7 200 bt) (c:List Int):Prop:=iy t c/\kX t A c
end Go.VE
namespace Go.VE
end Go.VE
namespace Go.VE
end Go.VE
namespace Go.VE
def sn (kind m:Int) (x:aY×Event):Bool:=x.2.kind==kind&&x.2.message==m
def mj (t:Trace) (kind m:Int):aY:=match (bU t).find? (sn kind m)with
 | some x=>x.1
 | none=>⟨0,0⟩
theorem J7 {t:Trace} {kind m:Int} {p:Nat} {P:cn} (B:p<9223372036854775806) (D:t.procs.l[p]? = some P) (G:P.events.l.length<1073741824):∀(q i:Nat),i+q=P.events.l.length ->
 bG (λq:Int=>dF.bO kind m p t ⟨0,0⟩ q) (i:Int)=some (match (iP p i (P.events.l.drop i)).find? (sn kind m)with|some x=>.r x.1|none=>.x ()):=by
 have u:idx t.procs (p:Int)=some P:=by rw[sJ];exact D
 intro q
 induction q with
 | zero=>
  intro i z;rw[g_];unfold dF.bO;rw[u,ζb,show decide ((i:Int)<len P.events)=false from by simp[len];omega,bK,List.drop_of_length_le (by omega)]
  rfl
 | succ q A=>
  intro i z;have w:i<P.events.l.length:=by omega
  rw[g_];have C:dF.bO kind m p t ⟨0,0⟩ i=some (if sn kind m (⟨p,(i:Int)+1⟩,P.events.l[i])then .r ⟨p,(i:Int)+1⟩else .n ((i+1:Nat):Int)):=by
   unfold dF.bO;rw[u,ζb,show decide ((i:Int)<len P.events)=true from by simp[len];omega,bF,ζb,bB w,ζb,mA,ζb,bY i (by omega),tj]
   rfl
  rw[C,ζb,List.drop_eq_getElem_cons w];simp only[iP,List.find?_cons]
  cases H:sn kind m (⟨p,(i:Int)+1⟩,P.events.l[i])with
  | true=>rfl
  | false=>
   simp only[Bool.false_eq_true,if_false];exact A (i+1) (by omega)
theorem KK {t:Trace} (B:Small t) {kind m:Int}:∀(q p:Nat),p+q=t.procs.l.length ->
 bG (λq:Int=>dF.bf kind m t ⟨0,0⟩ q) (p:Int)=some (match (fG p (t.procs.l.drop p)).find? (sn kind m)with|some x=>.r x.1|none=>.x ()):=by
 have h1:=B.1;intro q
 induction q with
 | zero=>
  intro p w;rw[g_];unfold dF.bf;rw[show decide ((p:Int)<len t.procs)=false from by simp[len];omega,bK,List.drop_of_length_le (by omega)]
  rfl
 | succ q z=>
  intro p w;have u:p<t.procs.l.length:=by omega
  have A:bG (λq:Int=>dF.bO kind m p t ⟨0,0⟩ q) 0=some (match (iP p 0 t.procs.l[p].events.l).find? (sn kind m)with|some x=>.r x.1|none=>.x ()):=J7 (t:=t) (kind:=kind) (m:=m) (by omega) (ζd u) (B.2 _ (List.getElem_mem u)).1 (t.procs.l[p].events.l.length) 0 (by omega)
  rw[g_];unfold dF.bf;rw[show decide ((p:Int)<len t.procs)=true from by simp[len];omega,bF]
  unfold dF.W2;rw[A,List.drop_eq_getElem_cons u];simp only[fG,List.find?_append]
  cases C:(iP p 0 t.procs.l[p].events.l).find? (sn kind m)with
  | some x=>rfl
  | none=>
   simp only[ζb,Fw.elim,Option.none_or];rw[bY p (by omega)]
   exact z (p+1) (by omega)
theorem find_eq {t:Trace} (B:Small t) (kind m:Int):dF t kind m=some (mj t kind m):=by
 unfold dF dF.W1;have u:bG (λq:Int=>dF.bf kind m t ⟨0,0⟩ q) 0=some (match (bU t).find? (sn kind m)with|some x=>.r x.1|none=>.x ()):=KK B (kind:=kind) (m:=m) t.procs.l.length 0 (by omega)
 rw[u];unfold mj;cases (bU t).find? (sn kind m) <;> rfl
theorem Ci {t:Trace} {kind m:Int} {x:aY×Event} (h:(bU t).find? (sn kind m)=some x):x∈bU t/\x.2.kind=kind/\x.2.message=m/\mj t kind m=x.1:=by
 have h1:=List.find?_some h;simp only[sn,ζh,beq_iff_eq]at h1;exact⟨List.mem_of_find?_eq_some h,h1.1,h1.2,by unfold mj;rw[h]⟩
theorem GK {t:Trace} {kind m:Int} {x:aY×Event} (B:x∈bU t) (hk:x.2.kind=kind) (D:x.2.message=m):∃y,(bU t).find? (sn kind m)=some y:=by
 cases q:(bU t).find? (sn kind m)with
 | some y=>exact⟨y,rfl⟩
 | none=>
  rw[List.find?_eq_none]at q;exact absurd (q x B) (by simp[sn,hk,D])
theorem Pa {t:Trace} {p k:Nat} {e:Event} (h:kN t p k e) (hk:k<9223372036854775807):uo t ⟨p,k+1⟩=some e:=by
 obtain⟨P,q,u⟩:=h;unfold uo;dsimp only;rw[show idx t.procs (p:Int)=some P from by rw[sJ];exact q,ζb,show IntKind.wrap .i64 ((k:Int)+1-1)=(k:Int)from by rw[qQ _ (by omega) (by omega)];omega,show idx P.events (k:Int)=some e from by rw[sJ];exact u]
 rfl
def u5 (t:Trace) (x:aY×Event):Int:=if x.2.kind=1 then 0 else if mj t x.2.kind x.2.message=x.1 then(if x.2.kind=3 then(if si t x.2.peer x.2.message x.1.proc then 0 else 7)else 0)else 8
theorem K7 {t:Trace} (B:Small t) {p k:Nat} {e:Event} (h:kN t p k e) (U:kK t.procs.l.length p e):iI t ⟨p,k+1⟩=some (u5 t (⟨p,k+1⟩,e)):=by
 have hk:k<1073741824:=by
  obtain⟨P,T,W⟩:=h;have:=(B.2 P (List.mem_of_getElem? T)).1;have:=(ζe.1 W).1;omega
 unfold iI u5;rw[Pa h (by omega),ζb]
 dsimp only
 by_cases h1:e.kind=1
 .rw[show (e.kind==1)=true from by simp[h1],bF,if_pos h1]
 .rw[show (e.kind==1)=false from by simp[h1],bK,if_neg h1,find_eq B,ζb]
  have C:IL (mj t e.kind e.message) ⟨p,(k:Int)+1⟩=decide (mj t e.kind e.message=⟨p,(k:Int)+1⟩):=by
   unfold IL;rw[Bool.eq_iff_iff];cases mj t e.kind e.message;simp
  rw[C]
  by_cases u:mj t e.kind e.message=⟨p,(k:Int)+1⟩
  .rw[if_pos u,show decide (mj t e.kind e.message=⟨p,(k:Int)+1⟩)=true from by simpa using u,bF]
   by_cases w:e.kind=3
   .rw[if_pos w,show (e.kind==3)=true from by simp[w],bF]
    have D:0<=e.peer/\e.peer<t.procs.l.length:=by
     rcases U with h|⟨_,h1,u,_⟩
     .exact absurd h h1
     .exact⟨h1,u⟩
    have J:e.peer.toNat<t.procs.l.length:=by omega
    have L:=ζd J;have X:=(B.2 _ (List.getElem_mem J)).1;generalize Y:t.procs.l[e.peer.toNat]=Q at *;have G:idx t.procs e.peer=some Q:=by rw[TO D.1];exact L
    have H:si t e.peer e.message p=Q.events.l.any λs=>s.kind==2&&s.message==e.message&&s.peer==p:=by
     unfold si;rw[L]
    unfold iI.W1;refine Wp.eq (eP (λz:Bool×Int=>∃m:Nat,z.2=m/\m<=Q.events.l.length/\z.1=(Q.events.l.take m).any λs=>s.kind==2&&s.message==e.message&&s.peer==p) (λz=>Q.events.l.length-z.2.toNat) ⟨0,rfl,Nat.zero_le _,rfl⟩ ?_)
    rintro⟨s,i⟩ ⟨m,O,Z,A⟩;simp only at O A;subst O;unfold iI.bf;dsimp only;rw[G,ζb,b9];constructor
    .intro I;have q:m<Q.events.l.length:=by simpa [len]using I
     have S:=bY m (by omega)
     rw[ζb,bB q,ζb,mA,ζb,mA,ζb,jB,ζb,a_];refine⟨⟨m+1,S,by omega,?_⟩,by show _-(IntKind.wrap .i64 ((m:Int)+1)).toNat<_;rw[S];simp;omega⟩
     show (s||_)=_;rw[List.take_add_one,ζd q,List.any_append,A];simp
    .intro I;have q:Q.events.l.length<=m:=by simpa [len]using I
     rw[List.take_of_length_le q]at A;refine(a_ _).2 ?_;rw[H,<-A];cases s
     .exact(a_ _).2 rfl
     .exact(a_ _).2 rfl
   .rw[if_neg w,show (e.kind==3)=false from by simp[w],bK]
  .rw[if_neg u,show decide (mj t e.kind e.message=⟨p,(k:Int)+1⟩)=false from by simpa using u,bK]
theorem Je {t:Trace} (D:∀x∈bU t,kK t.procs.l.length x.1.proc x.2):(∀x∈bU t,u5 t x=0)↔xM t:=by
 constructor
 .intro h;have key:∀x∈bU t,x.2.kind≠1->mj t x.2.kind x.2.message=x.1:=λx q hk=>by
   have:=h x q;unfold u5 at this;rw[if_neg hk]at this;split at this
   .assumption
   .cases this
  refine⟨λx q y u w z A=>?_,λx q y u w z A=>?_,λx q w=>?_⟩
  .rw[<-key x q (by omega),<-key y u (by omega),w,z,A]
  .rw[<-key x q (by omega),<-key y u (by omega),w,z,A]
  .have:=h x q;unfold u5 at this;rw[if_neg (by omega),if_pos (key x q (by omega)),if_pos w]at this
   split at this
   .assumption
   .cases this
 .intro h x q;unfold u5
  by_cases k1:x.2.kind=1
  .rw[if_pos k1]
  .rw[if_neg k1];obtain⟨y,u⟩:=GK q rfl rfl;obtain⟨B,C,y3,y4⟩:=Ci u;have hk:x.2.kind=2\/x.2.kind=3:=by
    rcases D x q with h|⟨h,_⟩
    .exact absurd h k1
    .exact h
   have G:mj t x.2.kind x.2.message=x.1:=by
    rw[y4];rcases hk with hk|hk
    .exact h.snd y B x q (by rw[C,hk]) hk y3
    .exact h.rcv y B x q (by rw[C,hk]) hk y3
   rw[if_pos G]
   by_cases k3:x.2.kind=3
   .rw[if_pos k3,if_pos (h.has x q k3)]
   .rw[if_neg k3]
end Go.VE
namespace Go.VE
theorem Ae {t:Trace} (D:∀x∈bU t,kK t.procs.l.length x.1.proc x.2) (G:xM t) {z:aY} {f:Event} (B:(z,f)∈bU t) (hk:f.kind=3):∃e,(mj t 2 f.message,e)∈bU t/\e.kind=2/\e.message=f.message:=by
 have h:=G.has _ B hk;have A:0<=f.peer:=by
  rcases D _ B with h|⟨_,h,_⟩
  .grind
  simp_all
 rw[show f.peer=(f.peer.toNat:Nat)from by omega,CI]at h
 obtain⟨k,e,q,h1,u,_⟩:=h;obtain⟨y,w⟩:=GK (eD.2 ⟨_,k,q,rfl⟩:(⟨(f.peer.toNat:Nat),k+1⟩,e)∈bU t) h1 u;obtain⟨C,H,y3,y4⟩:=Ci w
 grind
theorem GV.find {t:Trace} (G:∀x∈bU t,kK t.procs.l.length x.1.proc x.2) (B:xM t) {y z:aY} {f:Event} (h:GV t y z) (D:(z,f)∈bU t):f.kind=3/\mj t 2 f.message=y:=by
 obtain⟨e,H,h1,u,w,q,I⟩:=h;cases Bf u D rfl;obtain⟨J,A,C,L⟩:=Ae G B D q;exact⟨q,B.snd _ A _ h1 C w (by simp_all)⟩
theorem AQ {t:Trace} (J:Small t) (G:∀x∈bU t,kK t.procs.l.length x.1.proc x.2) (B:xM t) {z:aY} (D:Vd t z) :
 Wp (dI t z) λs=>s.l.length<=2/\∀y,y∈s.l↔Edge t y z:=by
 obtain⟨p,k,f,w,rfl,u⟩:=D.at_;have hk:k<1073741824:=by
  obtain⟨P,B,H⟩:=w;have:=(J.2 P (List.mem_of_getElem? B)).1
  grind
 have j:∀s:Sl aY,s.l.length<=1->(∀y,y∈s.l↔Vd t y/\(⟨p,k+1⟩:aY)=⟨y.proc,y.index+1⟩)->Wp (dI.J1 s t ⟨p,k+1⟩) λs=>s.l.length<=2/\∀y,y∈s.l↔Edge t y ⟨p,k+1⟩:=by
  intro s T A;unfold dI.J1;rw[Pa w (by omega),ζb,b9]
  constructor
  .intro C;have C:f.kind=3:=by grind
   rw[find_eq J,ζb];unfold gU;rw[if_pos (by omega),ζb,a_]
   refine⟨by show (s.l++[_]).length<=2;grind,λy=>?_⟩
   show y∈s.l++[mj t 2 f.message]↔_;rw[List.mem_append,List.mem_singleton,A];obtain⟨e,L,O,Q⟩:=Ae G B u C;constructor
   .rintro (h|rfl)
    .exact⟨h.1,D,.inl h.2⟩
    .exact⟨⟨e,L⟩,D,.inr ⟨e,f,L,u,O,C,Q⟩⟩
   .rintro⟨h1,_,h2|h2⟩
    .grind
    .exact .inr (h2.find G B u).2.symm
  .intro C;refine(a_ _).2 ⟨by omega,λy=>(A y).trans ⟨λh=>⟨h.1,D,.inl h.2⟩,λ⟨h1,_,h2⟩=>⟨h1,h2.elim id λh2=>?_⟩⟩⟩
   have:=(h2.find G B u).1
   grind
 unfold dI;rw[b9];constructor
 .intro h;have h:k+1>1:=by grind
  refine j _ (by simp[Sl.l]) λy=>?_
  have S:IntKind.wrap .i64 (k+1-1)=k:=by rw[qQ _ (by omega) (by omega)];omega
  simp only[Sl.l,List.mem_singleton,S,aY.mk.injEq];constructor
  .rintro rfl;obtain⟨P,B,H⟩:=w;have:=(ζe.1 H).1;exact⟨⟨P.events.l[k-1],eD.2 ⟨p,k-1,⟨P,B,ζd (by omega)⟩,by simp;omega⟩⟩,rfl,rfl⟩
  simp_all
 .intro h;refine j _ (by simp[Sl.l]) λy=>⟨λI=>by simp[Sl.l]at I,λ⟨I,H⟩=>?_⟩
  obtain⟨q,i,f,_,rfl,_⟩:=I.at_
  grind
theorem SF {α:Type} {r:α->α->Prop} {x:α} (h:Acc r x):¬Relation.TransGen r x x:=by
 induction h with
 | intro x _ q=>
  intro h
  cases h with
  | single h=>exact q x h (.single h)
  | tail h1 t=>exact q _ t (Relation.TransGen.trans (.single t) h1)
theorem Iu:∀{d:List Nat} {i k:Nat},d[i]? = some k->(d.set i (k+1)).sum=d.sum+1
 | [],_,_,h=>by simp_all
 | x::d,0,k,h=>by grind
 | x::d,i+1,k,h=>by
  have:=Iu (d:=d) (i:=i) (k:=k) (by grind)
  grind
theorem ML:∀{d l:List Nat},d.length=l.length->(∀(i a b:Nat),d[i]? = some a->l[i]? = some b->a<=b)->d.sum<=l.sum
 | [],_,_,_=>by simp
 | x::d,[],h,_=>by simp_all
 | x::d,y::l,h,B=>by
  have h1:=B 0 x y rfl rfl;have q:=ML (d:=d) (l:=l) (by grind) λi a b t u=>B (i+1) a b (by grind) (by grind)
  simp;omega
def nI (d:List Nat):List Int:=d.map Int.ofNat
def sI (s:Sl Int):Nat:=(s.l.map Int.toNat).sum
theorem ET (d:List Nat):sI (.row (nI d))=d.sum:=by
 unfold sI nI;rw[show (Sl.row (d.map Int.ofNat)).l=d.map Int.ofNat from rfl,List.map_map,show (Int.toNat ∘ Int.ofNat)=id from rfl,List.map_id]
theorem MC (d:List Nat):(nI d).length=d.length:=by simp[nI]
structure Kh (t:Trace) (d:List Nat):Prop where
 len:d.length=t.procs.l.length
 le:∀(p k:Nat) P,d[p]? = some k->t.procs.l[p]? = some P->k<=P.events.l.length
 acc:∀(p k j:Nat),d[p]? = some k->j<k->Acc (Edge t) ⟨p,j+1⟩
def qj (t:Trace):Nat:=(t.procs.l.map λP=>P.events.l.length).sum
theorem Kh.sum {t:Trace} {d:List Nat} (h:Kh t d):d.sum<=qj t:=ML (by simp[h.len]) λi a b w q=>by
 cases u:t.procs.l[i]? with
 | none=>grind
 | some P=>simp[u]at q;rw[<-q];exact h.le i a P w u
theorem BR {d:List Nat} {p:Nat} (h:p<d.length):Sl.lQ (.row (nI d)) (p:Int)=some p:=by
 unfold Sl.lQ;rw[if_pos ⟨by omega,by simpa [Sl.l,MC]using h⟩];rfl
theorem zp {d:List Nat} {p k:Nat} (h:d[p]? = some k):Sl.get (.row (nI d)) p=some (k:Int):=by
 unfold Sl.get nI;rw[show (Sl.row (d.map Int.ofNat)).l=d.map Int.ofNat from rfl,List.getElem?_map,h];rfl
def Mv (t:Trace) (B:List Nat) (s:Sl Int) (b:Bool) (d:List Nat):Prop:=s=.row (nI d)/\Kh t d/\B.sum<=d.sum/\(b=true->B.sum<d.sum)
def KQ (t:Trace) (B:List Nat) (p:Nat) (w:Fw (Sl Int×Bool×Int) (Sl Int×Bool) Empty):Prop:=∃q u z,w=.n (q,u,((p+1:Nat):Int))/\Mv t B q u z
theorem Q9 {t:Trace} (Y:Small t) (hF:∀x∈bU t,kK t.procs.l.length x.1.proc x.2) (hP:xM t) {D d1:List Nat} {s:Sl Int} {b:Bool} {p:Nat} (hp:p<t.procs.l.length) (hM:Mv t D s b d1) :
 Wp (eo.W3 s b p t) (KQ t D p):=by
 have X:=bB hp;have hn:=Y.1;have af:=(Y.2 _ (List.getElem_mem hp)).1;have C:=ζd hp;generalize t.procs.l[p]=P at *;refine eP (λq:Sl Int×Bool=>∃d,Mv t D q.1 q.2 d) (λq=>qj t-sI q.1) ⟨d1,hM⟩ ?_
 rintro⟨s,b⟩ ⟨d,rfl,u,hd,hb⟩;have w:p<d.length:=by rw[u.len];omega
 have hg:=ζd w;generalize d[p]=k at hg;have ah:=u.le p k P hg C;have stop:∀{U:Empty->Prop},Wp (some (Fw.x (Sl.row (nI d),b))) (OW (λq:Sl Int×Bool=>∃d,Mv t D q.1 q.2 d) (λq=>qj t-sI q.1) (λe=>Wp (some (Fw.n (e.1,e.2,IntKind.wrap .i64 (p+1)))) (KQ t D p)) U (Sl.row (nI d),b)):=by
  refine(a_ _).2 ((a_ _).2 ⟨_,_,d,?_,rfl,u,hd,hb⟩);rw[bY p (by omega)]
 unfold eo.dh;rw[BR w,ζb,zp hg,ζb,X,ζb,b9];refine⟨λh=>?_,λ_=>stop⟩
 have G:k<P.events.l.length:=by grind
 have Z:kN t p k P.events.l[k]:=⟨P,C,ζd G⟩;have z:(⟨p,k+1⟩,P.events.l[k])∈bU t:=eD.2 ⟨p,k,Z,rfl⟩;have go:(P.events.l[k].kind=3->∀q j:Nat,mj t 2 P.events.l[k].message=⟨q,j+1⟩->∃W,d[q]? = some W/\j<W)->∀{px:Sl Int×Bool->Prop} {U:Empty->Prop},Wp (eo.J4 (.row (nI d)) p t) (OW (λq:Sl Int×Bool=>∃d,Mv t D q.1 q.2 d) (λq=>qj t-sI q.1) px U (Sl.row (nI d),b)):=by
  intro hq px U;unfold eo.J4;rw[BR w,ζb,zp hg,ζb,ζb];unfold Sl.put;rw[if_pos (by simpa [Sl.l,MC]using w),ζb,a_]
  have H:(nI d).set p (IntKind.wrap .i64 ((k:Int)+1))=nI (d.set p (k+1)):=by
   rw[bY k (by omega)];unfold nI;simp_all
  have I:=Iu hg;have J:Kh t (d.set p (k+1)):=by
   refine⟨by simp[u.len],λq i Q A hQ=>?_,λq i j A hj=>?_⟩
   .rw[List.getElem?_set]at A;split at A
    .grind
    .exact u.le q i Q A hQ
   .rw[List.getElem?_set]at A;split at A
    .rename_i e;subst e;cases A
     by_cases aa:j<k
     .exact u.acc p k j hg aa
     .have:j=k:=by omega
      subst this;refine Acc.intro _ λy hy=>?_
      obtain⟨L,_,he|he⟩:=hy
      .obtain⟨q,i,f,_,rfl,_⟩:=L.at_;simp[aY.mk.injEq]at he;have e1:q=p:=by omega
       subst e1;exact u.acc q j i hg (by omega)
      .obtain⟨B,hf⟩:=he.find hF hP z;obtain⟨q,i,f,_,rfl,_⟩:=L.at_;obtain⟨W,ab,ad⟩:=hq B q i hf;exact u.acc q W i ab ad
    .exact u.acc q i j A hj
  have ai:=J.sum;refine⟨⟨_,by grind,J,by grind,λ_=>by grind⟩,?_⟩
  show qj t-sI (.row ((nI d).set p (IntKind.wrap .i64 ((k:Int)+1))))<qj t-sI (.row (nI d));rw[H,ET,ET,I]
  grind
 dsimp only;rw[ζb,ζb,zp hg,ζb,bB G,ζb,b9];refine⟨λB=>?_,λB=>go λh=>by simp[h]at B⟩
 have B:P.events.l[k].kind=3:=by simpa using B
 obtain⟨e,a1,a2,a3⟩:=Ae hF hP z B;obtain⟨q,j,O,S⟩:=eD.1 a1;simp only at S;have T:q<d.length:=by
  obtain⟨Q,hQ,_⟩:=O;rw[u.len];exact(ζe.1 hQ).1
 have ae:=ζd T;rw[find_eq Y,ζb,S,BR T,ζb,zp ae,ζb,b9];refine⟨λ_=>stop,λh=>go λ_ q' j' hh=>?_⟩
 grind
theorem JD {t:Trace} (J:Small t) (O:∀x∈bU t,kK t.procs.l.length x.1.proc x.2) (B:xM t):Wp (eo t) λb=>b=true->¬H_ t:=by
 have hn:=J.1;unfold eo kf;rw[if_pos (by grind),ζb]
 have h0:(Sl.row (List.replicate (len t.procs).toNat 0))=.row (nI (List.replicate t.procs.l.length 0)):=by simp[nI]
 rw[h0];refine eP (λs:Sl Int=>∃d,s=.row (nI d)/\Kh t d) (λs=>qj t-sI s) ⟨_,rfl,by simp,λp k P h _=>by grind,λp k j h hj=>by grind⟩ ?_
 rintro s ⟨C,rfl,Q⟩;refine eP (λq:Sl Int×Bool×Int=>∃(n:Nat) (d:List Nat),q.2.2=n/\n<=t.procs.l.length/\Mv t C q.1 q.2.1 d) (λq=>t.procs.l.length-q.2.2.toNat) ⟨0,C,rfl,Nat.zero_le _,rfl,Q,Nat.le_refl _,by simp⟩ ?_
 rintro⟨s,b,i⟩ ⟨n,d,S,T,H⟩;subst S;unfold eo.bO;rw[b9];constructor
 .intro h;have u:n<t.procs.l.length:=by grind
  refine(Q9 J O B u H).mono ?_;rintro w ⟨s',b',U,rfl,D⟩;exact⟨⟨n+1,U,rfl,by omega,D⟩,by simp;omega⟩
 .intro _;obtain⟨rfl,z,W,G⟩:=H;rw[a_];show Wp (bg b _ _) _;rw[b9];refine⟨λX=>(a_ _).2 ⟨⟨d,rfl,z⟩,?_⟩,λ_=>(a_ _).2 ?_⟩
  .show qj t-sI (.row (nI d))<qj t-sI (.row (nI C));rw[ET,ET];have:=G X;have:=z.sum;omega
  .refine eP (λi:Int=>∃n:Nat,i=n/\n<=t.procs.l.length/\∀p,p<n->∀P,t.procs.l[p]? = some P->d[p]? = some P.events.l.length) (λi:Int=>t.procs.l.length-i.toNat) ⟨0,rfl,Nat.zero_le _,λp I=>absurd I (by omega)⟩ ?_
   rintro i ⟨n,rfl,Y,Z⟩;unfold eo.pZ;rw[b9];constructor
   .intro h;have u:n<t.procs.l.length:=by grind
    have A:n<d.length:=by rw[z.len];omega
    have hg:=ζd A;rw[BR A,ζb,zp hg,ζb,bB u,ζb,b9];refine⟨λ_=>(a_ _).2 ((a_ _).2 λh=>by cases h),λh=>(a_ _).2 ⟨⟨n+1,bY n (by omega),by omega,λp I P B=>?_⟩,by rw[bY n (by omega)];simp;omega⟩⟩
    by_cases e:p=n
    .subst e;rw[ζd u]at B;have:=z.le p _ _ hg (ζd u)
     grind
    grind
   .intro h;have aa:t.procs.l.length<=n:=by grind
    refine(a_ _).2 ((a_ _).2 λ_ ⟨x,L⟩=>?_)
    obtain⟨p,k,e,⟨P,B,he⟩,rfl,_⟩:=L.l.at_;have ab:=(ζe.1 B).1;exact SF (z.acc p _ k (Z p (by omega) P B) (ζe.1 he).1) L
end Go.VE
namespace Go.VE
def qi (out:List (List Bool)) (y:aY):Bool:=match out[y.proc.toNat]? with
 | some row=>row[y.index.toNat]?.getD false
 | none=>false
theorem zo {t:Trace} {out:List (List Bool)} {p k:Nat} {row:List Bool} (hr:out[p]? = some row) (hk:k+1<row.length) {z:aY} (B:Vd t z) :
 qi (out.set p (row.set (k+1) true)) z=(decide (z=⟨p,k+1⟩)||qi out z):=by
 obtain⟨q,j,e,_,rfl,_⟩:=B.at_;have A:=(ζe.1 hr).1;unfold qi;have e1:(⟨(q:Int),(j:Int)+1⟩:aY).proc.toNat=q:=rfl;have e2:(⟨(q:Int),(j:Int)+1⟩:aY).index.toNat=j+1:=by show ((j:Int)+1).toNat=j+1;omega
 rw[e1,e2,List.getElem?_set]
 by_cases u:p=q
 .subst u;rw[if_pos rfl,if_pos A,hr];dsimp only;rw[List.getElem?_set]
  by_cases w:k=j
  .subst w;simp[hk]
  .rw[if_neg (by omega),show decide ((⟨(p:Int),(j:Int)+1⟩:aY)=⟨p,k+1⟩)=false from by simp;omega,Bool.false_or]
 .rw[if_neg u,show decide ((⟨(q:Int),(j:Int)+1⟩:aY)=⟨p,k+1⟩)=false from by simp;omega,Bool.false_or]
theorem zM {α:Type} {f g:α->Bool}:∀{l:List α},(∀z∈l,f z=true->g z=true)->(∃z∈l,f z=false/\g z=true)->l.countP f<l.countP g
 | [],_,⟨z,hz,_⟩=>by simp at hz
 | a::l,h,⟨z,hz,B,hg⟩=>by
  simp only[List.countP_cons];have D:=List.countP_mono_left (l:=l) (p:=f) (q:=g) λx t=>h x (List.mem_cons_of_mem _ t)
  rcases List.mem_cons.1 hz with rfl|hz
  .simp[B,hg];omega
  .have:=zM (l:=l) (λx t=>h x (List.mem_cons_of_mem _ t)) ⟨z,hz,B,hg⟩
   have h1:=h a (List.mem_cons_self ..)
   cases u:f a with
   | true=>simp[h1 u];omega
   | false=>simp;split <;> omega
def cnt (t:Trace) (out:List (List Bool)):Nat:=(bU t).countP λz=>qi out z.1
structure Vl (t:Trace) (x:aY) (out:List (List Bool)) (rest:List aY):Prop where
 shp:∀(p:Nat) P,t.procs.l[p]? = some P->∃row,out[p]? = some row/\row.length=P.events.l.length+1
 len:out.length=t.procs.l.length
 que:∀y∈rest,Way t y x
 snd:∀y,Vd t y->qi out y=true->Way t y x
 cls:∀z,z=x\/Vd t z/\qi out z=true->∀y,Edge t y z->qi out y=true\/y∈rest
 le:rest.length<=2*cnt t out+2
theorem AW {t:Trace} {y:aY}:qi (gA t) y=false:=by
 unfold qi gA;split
 .rename_i row h;rw[List.getElem?_map]at h
  cases q:t.procs.l[y.proc.toNat]? with
  | none=>simp[q]at h
  | some P=>
   simp[q]at h;subst h;rw[List.getElem?_replicate];split <;> rfl
 .rfl
theorem Rl {t:Trace} (U:Small t) (hN:(bU t).length<1073741824) (hF:∀x∈bU t,kK t.procs.l.length x.1.proc x.2) (J:xM t) {x:aY} (hx:Vd t x) :
 Wp (mN t x) λs=>∃out,s=nested out/\Vl t x out []/\∀y,Vd t y->(qi out y=true↔Way t y x):=by
 unfold mN;rw[if_pos (by
  unfold zR;simp only[ζh,List.all_eq_true,decide_eq_true_eq];exact⟨by have:=U.1;omega,λP J=>by have:=(U.2 P J).1;omega⟩),eW]
 refine(AQ U hF J hx).mono λs W=>?_
 refine eP (λq:List (List Bool)×List aY=>Vl t x q.1 q.2) (λq=>2*((bU t).length-cnt t q.1)+q.2.length) ⟨λp P J=>⟨List.replicate (P.events.l.length+1) false,by simp[gA,J],by simp⟩,by simp[gA],λy B=>.single ((W.2 y).1 B),λy _ h=>(by rw[AW]at h;cases h),λz hz y B=>?_,by have:=W.1;show s.l.length<=2*cnt t (gA t)+2;omega⟩ ?_
 .rcases hz with rfl|⟨_,h⟩
  .exact .inr ((W.2 y).2 B)
  .rw[AW]at h;cases h
 rintro⟨out,rest⟩ u
 cases rest with
 | nil=>
  show Wp (some _) _;refine(a_ _).2 ((a_ _).2 ⟨out,rfl,u,λy B=>⟨u.snd y B,λC=>?_⟩⟩)
  have key:∀w,Way t y w->w=x\/Vd t w/\qi out w=true->qi out y=true:=λw C=>by
   induction C with
   | single h=>exact λC=>(u.cls _ C _ h).elim id λh=>by cases h
   | tail ad H ih=>exact λC=>ih (.inr ⟨H.1,(u.cls _ C _ H).elim id λh=>by cases h⟩)
  exact key x C (.inl rfl)
 | cons y rest=>
  have D:=u.que y (List.mem_cons_self ..);have G:=D.l;obtain⟨p,k,e,X,rfl,I⟩:=G.at_;obtain⟨P,L,hk⟩:=X;have ae:=(ζe.1 hk).1;obtain⟨row,hr,Y⟩:=u.shp p P L;have A:k+1<row.length:=by omega
  show Wp (n9 _ (out,⟨p,k+1⟩::rest)) _;unfold n9;have e2:((k:Int)+1).toNat=k+1:=by omega
  dsimp only;rw[if_pos ⟨by omega,by omega⟩,show ((p:Nat):Int).toNat=p from rfl,e2,hr,ζb,ζd A,ζb,b9]
  have O:qi out ⟨p,k+1⟩=row[k+1]:=by
   unfold qi;rw[show ((⟨(p:Int),(k:Int)+1⟩:aY).proc).toNat=p from rfl,hr];dsimp only;rw[e2,ζd A];rfl
  constructor
  .intro Z;rw[a_];refine⟨⟨u.shp,u.len,λy B=>u.que y (List.mem_cons_of_mem _ B),u.snd,λz hz y B=>?_,by have:=u.le;simp only[List.length_cons]at this;show rest.length<=2*cnt t out+2;omega⟩,Nat.add_lt_add_left (Nat.lt_succ_self _) _⟩
   rcases u.cls z hz y B with h|h
   .exact .inl h
   .rcases List.mem_cons.1 h with rfl|h
    .exact .inl (by rw[O];exact Z)
    .exact .inr h
  .intro Z;rw[eW];refine(AQ U hF J G).mono λmore hm=>?_
   have aa:=u.le;simp only[List.length_cons]at aa;have af:cnt t out<=(bU t).length:=List.countP_le_length;have ah:=hm.1;have ai:cnt t out<cnt t (out.set p (row.set (k+1) true)):=zM (λz hz h=>by rw[zo hr A ⟨_,hz⟩,h,Bool.or_true]) ⟨_,I,by rw[O,Z],by rw[zo hr A G];simp⟩
   have ab:cnt t (out.set p (row.set (k+1) true))<=(bU t).length:=List.countP_le_length;rw[if_pos (by omega),a_]
   refine⟨⟨λq Q hQ=>?_,by show (out.set _ _).length=_;rw[List.length_set];exact u.len,λz hz=>?_,λz hz h=>?_,λz hz y B=>?_,by show (rest++more.l).length<=_;rw[ζi];show _<=2*cnt t (out.set p (row.set (k+1) true))+2;omega⟩,?_⟩
   .show ∃r,(out.set p (row.set (k+1) true))[q]? = some r/\_;rw[List.getElem?_set];split
    .rename_i e;subst e;rw[if_pos (ζe.1 hr).1];rw[L]at hQ;cases hQ;exact⟨_,rfl,by simp[Y]⟩
    .exact u.shp q Q hQ
   .rcases List.mem_append.1 hz with hz|hz
    .exact u.que z (List.mem_cons_of_mem _ hz)
    .exact .trans (.single ((hm.2 z).1 hz)) D
   .show Way t z x;have h:qi (out.set p (row.set (k+1) true)) z=true:=h;rw[zo hr A hz]at h;simp only[Bool.or_eq_true,decide_eq_true_eq]at h;rcases h with rfl|h
    .exact D
    .exact u.snd z hz h
   .show qi (out.set p (row.set (k+1) true)) y=true\/y∈rest++more.l;rw[zo hr A B.1];have S:z=x\/Vd t z/\qi out z=true->(decide (y=⟨p,k+1⟩)||qi out y)=true\/y∈rest++more.l:=λhz=>by
     rcases u.cls z hz y B with h|h
     .exact .inl (by rw[show qi out y=true from h,Bool.or_true])
     .rcases List.mem_cons.1 h with rfl|h
      .exact .inl (by simp)
      .exact .inr (List.mem_append_left _ h)
    rcases hz with hz|⟨T,hz⟩
    .exact S (.inl hz)
    .have hz:qi (out.set p (row.set (k+1) true)) z=true:=hz;rw[zo hr A T]at hz;simp only[Bool.or_eq_true,decide_eq_true_eq]at hz;rcases hz with rfl|hz
     .exact .inr (List.mem_append_right _ ((hm.2 y).2 B))
     .exact S (.inr ⟨T,hz⟩)
   .show 2*((bU t).length-cnt t (out.set p (row.set (k+1) true)))+(rest++more.l).length<2*((bU t).length-cnt t out)+(_::rest).length;rw[ζi,List.length_cons];omega
theorem UN {t:Trace} (D:Small t) (W:(bU t).length<1073741824) (Y:∀x∈bU t,kK t.procs.l.length x.1.proc x.2) (G:xM t):Wp (cN.W6 0 t ⟨0,0⟩) λr=>(r.2=0↔¬H_ t):=by
 have hn:=D.1;unfold cN.W6;refine eP (λi:Int=>∃n:Nat,i=n/\n<=t.procs.l.length/\∀(p k:Nat) e,p<n->kN t p k e->¬Way t ⟨p,k+1⟩ ⟨p,k+1⟩) (λi:Int=>t.procs.l.length-i.toNat) ⟨0,rfl,Nat.zero_le _,λp k e O=>absurd O (by omega)⟩ ?_
 rintro i ⟨n,rfl,X,S⟩;unfold cN.IN;rw[b9];constructor
 .intro h;have u:n<t.procs.l.length:=by simpa [len]using h
  have C:=bB u;have w:=ζd u;have Z:=(D.2 _ (List.getElem_mem u)).1;generalize t.procs.l[n]=P at *;unfold cN.W7;refine eP (λi:Int=>∃m:Nat,i=m/\m<=P.events.l.length/\∀k,k<m->¬Way t ⟨n,k+1⟩ ⟨n,k+1⟩) (λi:Int=>P.events.l.length-i.toNat) ⟨0,rfl,Nat.zero_le _,λk hk=>absurd hk (by omega)⟩ ?_
  rintro i ⟨m,rfl,hm,hk⟩;unfold cN.Ix;rw[C,ζb,b9];constructor
  .intro h;have H:m<P.events.l.length:=by simpa [len]using h
   have I:=bY m (by omega)
   have hv:Vd t ⟨n,m+1⟩:=⟨P.events.l[m],eD.2 ⟨n,m,⟨P,w,ζd H⟩,rfl⟩⟩;rw[I,show (((m+1:Nat)):Int)=(m:Int)+1 from by simp,eW]
   refine(Rl D W Y G hv).mono ?_;rintro s ⟨out,rfl,hI,z⟩;obtain⟨row,hr,aa⟩:=hI.shp n P w;have J:out≠[]:=by rintro rfl;cases hr
   have A:m+1<row.length:=by omega
   have h1:idx (nested out) (n:Int)=some (.row row):=by
    unfold nested;rw[if_neg J,sJ];show (out.map Sl.row)[n]? = _;rw[List.getElem?_map,hr];rfl
   have h2:idx (Sl.row row) ((m:Int)+1)=some row[m+1]:=by
    rw[show (m:Int)+1=((m+1:Nat):Int)from by simp]
    exact bB (s:=Sl.row row) A
   rw[h1,ζb,h2,ζb,b9];have hb:row[m+1]=qi out ⟨n,m+1⟩:=by
    unfold qi;rw[show ((⟨(n:Int),(m:Int)+1⟩:aY).proc).toNat=n from rfl,hr];dsimp only;rw[show ((m:Int)+1).toNat=m+1 from by omega,ζd A];rfl
   rw[hb];refine⟨λB=>(a_ _).2 ((a_ _).2 ((a_ _).2 ⟨λh=>(by cases h),λh=>absurd ⟨_,(z _ hv).1 B⟩ h⟩)),λB=>(a_ _).2 ⟨⟨m+1,by simp,by omega,λk ab=>?_⟩,by simp;omega⟩⟩
   by_cases e:k=m
   .subst e;exact λI=>by rw[(z _ hv).2 I]at B;cases B
   .exact hk k (by omega)
  .intro h;have L:P.events.l.length<=m:=by simpa [len]using h
   refine(a_ _).2 ((a_ _).2 ⟨⟨n+1,bY n (by omega),by omega,λp k e O q=>?_⟩,by rw[bY n (by omega)];simp;omega⟩)
   by_cases e:p=n
   .subst e;obtain⟨Q,T,he⟩:=q;rw[w]at T;cases T;have:=(ζe.1 he).1;exact hk k (by omega)
   .exact S p k _ (by omega) q
 .intro h;have L:t.procs.l.length<=n:=by simpa [len]using h
  refine(a_ _).2 ((a_ _).2 ⟨λ_ ⟨x,U⟩=>?_,λ_=>rfl⟩)
  obtain⟨p,k,e,q,rfl,_⟩:=U.l.at_;obtain⟨P,G,_⟩:=id q;exact S p k e (by have:=(ζe.1 G).1;omega) q U
end Go.VE
namespace Go.VE
theorem G_ {t:Trace} (B:∀x∈bU t,kK t.procs.l.length x.1.proc x.2):(∀(p k:Nat) e,kN t p k e->u5 t (⟨p,k+1⟩,e)=0)↔xM t:=
 Iff.trans ⟨λh x u=>by obtain⟨p,k,h1,q⟩:=eD.1 u;obtain⟨a,e⟩:=x;simp only at h1 q;rw[q];exact h p k e h1,λh p k e w=>h _ (eD.2 ⟨p,k,w,rfl⟩)⟩ (Je B)
theorem L8 {t:Trace} (J:Small t) (hN:(bU t).length<1073741824):Wp (cN t) λr=>(r.2=0↔Ok t):=by
 have hn:=J.1;unfold cN;rw[jB,ζb,b9];refine⟨λL=>(a_ _).2 ⟨λh=>(by cases h),λh=>?_⟩,λL=>?_⟩
 .have h1:=h.one;have h8:=h.few;simp only[Bool.or_eq_true,decide_eq_true_eq,len]at L;omega
 have h8:1<=t.procs.l.length/\t.procs.l.length<=8:=by
  simp only[Bool.or_eq_false_iff,decide_eq_false_iff_not,len]at L;omega
 unfold cN.W1;refine eP (λi:Int=>∃n:Nat,i=n/\n<=t.procs.l.length/\∀p,p<n->th t p=0) (λi:Int=>t.procs.l.length-i.toNat) ⟨0,rfl,Nat.zero_le _,λp D=>absurd D (by omega)⟩ ?_
 rintro i ⟨n,rfl,ad,hh⟩;unfold cN.bf;rw[b9];constructor
 .intro h;have w:n<t.procs.l.length:=by simpa [len]using h
  rw[NX J w,ζb,b9];refine⟨λh0=>(a_ _).2 ⟨⟨n+1,bY n (by omega),by omega,λp D=>?_⟩,by rw[bY n (by omega)];simp;omega⟩,λh0=>(a_ _).2 ((a_ _).2 ⟨λh=>?_,λh=>?_⟩)⟩
  .by_cases e:p=n
   .subst e;simpa using h0
   .exact hh p (by omega)
  .simp only at h;simp[h]at h0
  .simp[h.heads n w]at h0
 intro h;have ae:t.procs.l.length<=n:=by simpa [len]using h
 rw[a_];unfold cN.W2;refine eP (λi:Int=>∃n:Nat,i=n/\n<=t.procs.l.length/\∀(p k:Nat) P e,p<n->t.procs.l[p]? = some P->P.events.l[k]? = some e->oP t.procs.l.length P p k e=0) (λi:Int=>t.procs.l.length-i.toNat) ⟨0,rfl,Nat.zero_le _,λp k P e D=>absurd D (by omega)⟩ ?_
 rintro i ⟨G,rfl,ab,U⟩;unfold cN.bO;rw[b9];constructor
 .intro h;have w:G<t.procs.l.length:=by simpa [len]using h
  have C:=bB w;have A:=ζd w;have O:=(J.2 _ (List.getElem_mem w)).1;generalize t.procs.l[G]=P at C A O;unfold cN.W3;refine eP (λi:Int=>∃m:Nat,i=m/\m<=P.events.l.length/\∀(k:Nat) e,k<m->P.events.l[k]? = some e->oP t.procs.l.length P G k e=0) (λi:Int=>P.events.l.length-i.toNat) ⟨0,rfl,Nat.zero_le _,λk e hk=>absurd hk (by omega)⟩ ?_
  rintro i ⟨m,rfl,hm,hk⟩;unfold cN.dh;rw[C,ζb,b9];constructor
  .intro h;have S:m<P.events.l.length:=by simpa [len]using h
   have B:=ζd S;have Z:=bY m (by omega)
   rw[Om J A B,ζb,b9];refine⟨λh0=>(a_ _).2 ⟨⟨m+1,Z,by omega,λk e aa u=>?_⟩,by rw[Z];simp;omega⟩,λh0=>(a_ _).2 ((a_ _).2 ((a_ _).2 ⟨λh=>?_,λh=>?_⟩))⟩
   .by_cases ek:k=m
    .subst ek;rw[B]at u;cases u;simpa using h0
    .exact hk k e (by omega) u
   .simp only at h;simp[h]at h0
   .simp[h.fI G m P _ A B]at h0
  .intro h;have H:P.events.l.length<=m:=by simpa [len]using h
   refine(a_ _).2 ((a_ _).2 ⟨⟨G+1,bY G (by omega),by omega,λp k Q e D T u=>?_⟩,by rw[bY G (by omega)];simp;omega⟩)
   by_cases ep:p=G
   .subst ep;rw[A]at T;cases T;exact hk k e (by have:=(ζe.1 u).1;omega) u
   .exact U p k Q e (by omega) T u
 intro h;have H:t.procs.l.length<=G:=by simpa [len]using h
 have U:∀(p k:Nat) P e,t.procs.l[p]? = some P->P.events.l[k]? = some e->oP t.procs.l.length P p k e=0:=λp k P e I hk=>U p k P e (by have:=(ζe.1 I).1;omega) I hk
 have W:=DP U;rw[a_];unfold cN.W4;refine eP (λi:Int=>∃n:Nat,i=n/\n<=t.procs.l.length/\∀(p k:Nat) e,p<n->kN t p k e->u5 t (⟨p,k+1⟩,e)=0) (λi:Int=>t.procs.l.length-i.toNat) ⟨0,rfl,Nat.zero_le _,λp k e D=>absurd D (by omega)⟩ ?_
 rintro i ⟨q,rfl,hq,X⟩;unfold cN.kT;rw[b9];constructor
 .intro h;have w:q<t.procs.l.length:=by simpa [len]using h
  have C:=bB w;have A:=ζd w;have O:=(J.2 _ (List.getElem_mem w)).1;generalize t.procs.l[q]=P at C A O;unfold cN.W5;refine eP (λi:Int=>∃m:Nat,i=m/\m<=P.events.l.length/\∀(k:Nat) e,k<m->P.events.l[k]? = some e->u5 t (⟨q,k+1⟩,e)=0) (λi:Int=>P.events.l.length-i.toNat) ⟨0,rfl,Nat.zero_le _,λk e hk=>absurd hk (by omega)⟩ ?_
  rintro i ⟨m,rfl,hm,hk⟩;unfold cN.pZ;rw[C,ζb,b9];constructor
  .intro h;have S:m<P.events.l.length:=by simpa [len]using h
   have B:=ζd S;have Z:=bY m (by omega)
   have z:kN t q m P.events.l[m]:=⟨P,A,B⟩;rw[Z,show (((m+1:Nat)):Int)=(m:Int)+1 from by simp,K7 J z (W (⟨q,m+1⟩,P.events.l[m]) (eD.2 ⟨q,m,z,rfl⟩)),ζb,b9]
   refine⟨λh0=>(a_ _).2 ⟨⟨m+1,by simp,by omega,λk e aa u=>?_⟩,by simp;omega⟩,λh0=>(a_ _).2 ((a_ _).2 ((a_ _).2 ⟨λh=>?_,λh=>?_⟩))⟩
   .by_cases ek:k=m
    .subst ek;rw[B]at u;cases u;simpa using h0
    .exact hk k e (by omega) u
   .simp only at h;simp[h]at h0
   .simp[(G_ W).2 h.LB q m _ z]at h0
  .intro h;have H:P.events.l.length<=m:=by simpa [len]using h
   refine(a_ _).2 ((a_ _).2 ⟨⟨q+1,bY q (by omega),by omega,λp k e D z=>?_⟩,by rw[bY q (by omega)];simp;omega⟩)
   by_cases ep:p=q
   .subst ep;obtain⟨Q,T,u⟩:=z;rw[A]at T;cases T;exact hk k e (by have:=(ζe.1 u).1;omega) u
   .exact X p k e (by omega) z
 intro h;have af:t.procs.l.length<=q:=by simpa [len]using h
 have I:xM t:=(G_ W).1 λp k e z=>X p k e (by obtain⟨P,I,_⟩:=z;have:=(ζe.1 I).1;omega) z
 have Y:¬H_ t↔Ok t:=⟨λh=>⟨h8.1,h8.2,λp D=>hh p (by omega),U,I,h⟩,λh=>h.acyc⟩
 rw[a_,eW];refine(JD J W I).mono λb hb=>?_
 rw[b9];exact⟨λh=>(a_ _).2 ⟨λ_=>Y.1 (hb h),λ_=>rfl⟩,λ_=>(UN J hN W I).mono λr hr=>hr.trans Y⟩
theorem LZ {t:Trace} (B:Small t) (D:(bU t).length<1073741824):∃b,dc t=some b/\eB t=some b/\(b=true->VT t):=by
 obtain⟨b,q,h1,u⟩:=M_ B D;refine⟨b,q,?_,h1⟩;unfold eB;obtain⟨r,hr,w⟩:=L8 B D;rw[hr,ζb]
 congr 1
 rw[Bool.eq_iff_iff,beq_iff_eq,w];exact⟨u,λh=>(h1 h).ok⟩
end Go.VE
namespace Go.VE
theorem GW {t:Trace} (U:Small t) {c:Sl Int} (B:c.l.length=t.procs.l.length) {step:Int->Option (Fw Int Unit Unit)}
 (W:∀i,step i=bg (decide (i<(len c))) ((idx c i).bind λD=>(bg (decide (D<0)) (some true) ((idx c i).bind λG=>(idx t.procs i).bind λJ=>some (decide (G>(len J.events)))):Option Bool).bind λO=>bg O (some (.r ())) (some (.n (IntKind.wrap .i64 (i+1))))) (some (.x ()))) :
 Wp ((bG step 0).bind (Fw.elim (λ_=>some true) (λ_=>some false))) λb=>(b=true↔iy t c.l):=by
 have h1:=U.1;refine eP (λs:Int=>∃n:Nat,s=n/\n<=c.l.length/\∀(p:Nat) (a:Int) (P:cn),p<n->c.l[p]? = some a->t.procs.l[p]? = some P->0<=a/\a<=P.events.l.length) (λs:Int=>c.l.length-s.toNat) ⟨0,rfl,Nat.zero_le _,λp a P h=>absurd h (by omega)⟩ ?_
 rintro s ⟨n,rfl,Q,C⟩;rw[W,b9];constructor
 .intro h;have u:n<c.l.length:=by simpa [len]using h
  have q:n<t.procs.l.length:=by omega
  have H:=bY n (by omega)
  rw[bB u,ζb,ζb,bB q,ζb,jB,ζb,b9];constructor
  .intro w;have w:c.l[n]<0\/c.l[n]>t.procs.l[n].events.l.length:=by simpa [len]using w
   refine(a_ _).2 ((a_ _).2 ⟨λh=>(by cases h),λI=>?_⟩)
   have:=I.2 n _ _ (ζd u) (ζd q);omega
  .intro w;have w:0<=c.l[n]/\c.l[n]<=t.procs.l[n].events.l.length:=by simpa [len]using w
   refine(a_ _).2 ⟨⟨n+1,H,by omega,λp a P S z A=>?_⟩,by rw[H];simp;omega⟩
   by_cases e:p=n
   .subst e;rw[ζd u]at z;cases z;rw[ζd q]at A;cases A;exact w
   .exact C p a P (by omega) z A
 .intro h;have L:c.l.length<=n:=by simpa [len]using h
  refine(a_ _).2 ((a_ _).2 ⟨λ_=>⟨B,λp a P z A=>C p a P (by have:=(ζe.1 z).1;omega) z A⟩,λ_=>rfl⟩)
theorem Qx {t:Trace} (D:Small t) {c:Sl Int} (B:c.l.length=t.procs.l.length):Wp (mI t c) λb=>(b=true↔iy t c.l):=by
 unfold mI;rw[show (len c==len t.procs)=true from by simp[len,B],bF]
 exact GW D B λi=>rfl
theorem Eb {t:Trace} (D:VT t) {A:b7 200 bt} (G:eu t (bU t) A) {p k:Nat} {e:Event} (B:kN t p k e) (hk:e.kind=3):mj t 2 e.message=(ag A e.message).from_:=by
 obtain⟨y,h1,q,u⟩:=Ae D.formed D.ok.LB (eD.2 ⟨p,k,B,rfl⟩:((⟨p,k+1⟩:aY),e)∈bU t) hk;have:=G.snd _ h1 q;simp only[u]at this;exact this.symm
end Go.VE
namespace Go.VE
end Go.VE
namespace Go.VE
end Go.VE
namespace Go.VE
theorem Ja {t:Trace} (hS:Small t) (hV:VT t) {A:b7 200 bt} (hM:eu t (bU t) A) {c:Sl Int} (hR:iy t c.l):Wp (eX t c) λb=>(b=true↔kX t A c.l):=by
 have ah:=hV.few;have ai:=hR.1;unfold eX eX.W1;refine eP (λs:Int=>∃n:Nat,s=n/\n<=c.l.length/\∀(p k:Nat) (e:Event) (a:Int),p<n->kN t p k e->c.l[p]? = some a->(k:Int)<a->e.kind=3->∃b,c.l[(ag A e.message).from_.proc.toNat]? = some b/\(ag A e.message).from_.index<=b) (λs:Int=>c.l.length-s.toNat) ⟨0,rfl,Nat.zero_le _,λp k e a h=>absurd h (by omega)⟩ ?_
 rintro s ⟨n,rfl,hn,hI⟩;unfold eX.bf;rw[b9];constructor
 .intro h;have T:n<c.l.length:=by simpa [len]using h
  have H:n<t.procs.l.length:=by omega
  have aj:=(hS.2 _ (List.getElem_mem H)).1;have B:=ζd H;have I:=ζd T;obtain⟨r1,r2⟩:=hR.2 n _ _ I B;have ab:=bB T;generalize c.l[n]=a at *;generalize ak:t.procs.l[n]=P at *;unfold eX.W2;refine eP (λs:Int=>∃m:Nat,s=m/\(m:Int)<=a/\∀(k:Nat) (e:Event),k<m->kN t n k e->e.kind=3->∃b,c.l[(ag A e.message).from_.proc.toNat]? = some b/\(ag A e.message).from_.index<=b) (λs:Int=>a.toNat-s.toNat) ⟨0,rfl,by simpa using r1,λk e h=>absurd h (by omega)⟩ ?_
  rintro s ⟨m,rfl,hm,hJ⟩;unfold eX.bO;rw[ab,ζb,b9];constructor
  .intro h;have ad:(m:Int)<a:=by simpa using h
   have J:m<P.events.l.length:=by omega
   have L:=bY m (by omega)
   have U:a.toNat-(IntKind.wrap .i64 ((m:Int)+1)).toNat<a.toNat-((m:Int)).toNat:=by rw[L];simp;omega
   have u:kN t n m P.events.l[m]:=⟨P,B,ζd J⟩;have W:idx t.procs (n:Int)=some P:=by rw[sJ];exact B
   have same:∀k e,kN t n k e->k=m->e=P.events.l[m]:=λk e ⟨Q,hQ,he⟩ hk=>by
    subst hk;rw[B]at hQ;cases hQ;rw[ζd J]at he;cases he;rfl
   unfold wU;rw[W,ζb,bB J,ζb,eW,b9];constructor
   .intro hk;have hk:P.events.l[m].kind=3:=by simpa using hk
    obtain⟨q,j,z,hz,z1,z2,z3,z4,z5⟩:=xN hV hM u hk;obtain⟨Q,hQ,_⟩:=hz;have O:q<c.l.length:=by have:=(ζe.1 hQ).1;omega
    rw[find_eq hS,Eb hV hM u hk,ζb,z5];simp only;rw[bB O,ζb,a_,b9];constructor
    .intro X;have X:(j:Int)+1<=c.l[q]:=by simpa using X
     refine(a_ _).2 ⟨⟨m+1,L,by omega,λk Y ae w C=>?_⟩,U⟩
     by_cases ek:k=m
     .cases same k Y w ek;rw[z5];exact⟨c.l[q],by simp only[Int.toNat_natCast];exact ζd O,by simp only;omega⟩
     .exact hJ k Y (by omega) w C
    .intro Z;have Z:¬((j:Int)+1<=c.l[q]):=by simpa using Z
     refine(a_ _).2 ((a_ _).2 ((a_ _).2 ⟨λh=>(by cases h),λhC=>?_⟩))
     obtain⟨b,D,aa⟩:=hC n m _ a u I ad hk;rw[z5]at D aa;simp only[Int.toNat_natCast]at D aa;rw[ζd O]at D;cases D;omega
   .intro hk;rw[a_,bF];refine(a_ _).2 ⟨⟨m+1,L,by omega,λk Y ae w C=>?_⟩,U⟩
    by_cases ek:k=m
    .cases same k Y w ek;simp[C]at hk
    .exact hJ k Y (by omega) w C
  .intro h;have af:¬(m:Int)<a:=by simpa using h
   refine(a_ _).2 ((a_ _).2 ⟨⟨n+1,bY n (by omega),by omega,λp k e a' hp u S hk G=>?_⟩,by rw[bY n (by omega)];simp;omega⟩)
   by_cases ep:p=n
   .subst ep;rw[I]at S;cases S;exact hJ k e (by omega) u G
   .exact hI p k e a' (by omega) u S hk G
 .intro h;have af:c.l.length<=n:=by simpa [len]using h
  refine(a_ _).2 ((a_ _).2 ⟨λ_ p k e a u ha hk G=>hI p k e a (by have:=(ζe.1 ha).1;omega) u ha hk G,λ_=>rfl⟩)
theorem Code.one {t:Trace} {A:b7 200 bt} {c:List Int} {r s:Int} (h:Code t A c r) (g:Code t A c s):r=s:=by
 rcases h with⟨h,rfl⟩|⟨h1,q,rfl⟩|⟨h1,q,rfl⟩|⟨h1,q,rfl⟩ <;> rcases g with⟨g,rfl⟩|⟨g1,g2,rfl⟩|⟨g1,g2,rfl⟩|⟨g1,g2,rfl⟩ <;> first|rfl|contradiction|exact absurd ‹iy t c›.1 ‹_›
end Go.VE
namespace Go.VE
theorem eT {σ ε ρ γ:Type} {step:σ->Option (Fw σ ε ρ)} {B:ε->Option γ} {fr:ρ->Option γ} {P:γ->Prop} (n:Nat) (I:Nat->σ->Prop) {s:σ} (h0:I 0 s)
 (h:∀i s,i<n->I i s->Wp (step s) λw=>match w with|.n D=>I (i+1) D|.x e=>Wp (B e) P|.r b=>Wp (fr b) P)
 (G:∀s,I n s->Wp (step s) λw=>match w with|.n _=>False|.x e=>Wp (B e) P|.r b=>Wp (fr b) P):Wp ((bG step s).bind (Fw.elim B fr)) P:=by
 have key:∀m i s,i+m=n->I i s->Wp ((bG step s).bind (Fw.elim B fr)) P:=by
  intro m
  induction m with
  | zero=>
   intro i s u t;obtain⟨w,q,hr⟩:=G s (by grind)
   rw[g_,q]
   cases w with
   | n D=>grind
   | x e=>exact hr
   | r b=>exact hr
  | succ m z=>
   intro i s u t;obtain⟨w,q,hr⟩:=h i s (by omega) t
   rw[g_,q]
   cases w with
   | n D=>grind
   | x e=>exact hr
   | r b=>exact hr
 exact key n 0 s (Nat.zero_add n) h0
theorem qX:∀{c:List Int} {p:Nat} {a b:Int},c[p]? = some a->(c.set p b).sum=c.sum-a+b
 | [],_,_,_,h=>by simp_all
 | x::c,0,a,b,h=>by grind
 | x::c,p+1,a,b,h=>by
  have:=qX   (b:=b) (by simpa using h)
  grind
theorem sw:∀{c:List Int},(∀(p:Nat) a,c[p]? = some a->0<=a)->0<=c.sum
 | [],_=>by simp
 | x::c,h=>by
  have h1:=h 0 x rfl;have q:=sw (c:=c) λp a t=>h (p+1) a (by grind)
  grind
theorem Bl:∀{c:List Int},(∀(p:Nat) a,c[p]? = some a->0<=a)->c.sum=0->∀(p:Nat) a,c[p]? = some a->a=0
 | [],_,_,p,a,B=>by simp_all
 | x::c,h,D,p,a,B=>by
  have h1:=h 0 x rfl;have hc:∀(p:Nat) a,c[p]? = some a->0<=a:=λp a B=>h (p+1) a (by grind)
  have q:=sw hc;simp  at D
  cases p with
  | zero=>grind
  | succ p=>exact Bl hc (by omega) p a (by grind)
theorem H7:∀{c:List Int} {l:List Nat},c.length=l.length->(∀(i:Nat) a b,c[i]? = some a->l[i]? = some b->a<=(b:Nat))->c.sum<=(l.sum:Nat)
 | [],[],_,_=>by simp
 | x::c,y::l,B,h=>by
  have h1:=h 0 x y rfl rfl;have q:=H7 (c:=c) (l:=l) (by grind) λi a b t u=>h (i+1) a b (by grind) (by grind)
  grind
section
variable {t:Trace} {A:b7 200 bt} {c:List Int}
theorem iy.pos (h:iy t c) (p:Nat) (a:Int) (B:c[p]? = some a):0<=a:=
 (h.2 p a _ B (ζd (by have:=(ζe.1 B).1;rw[<-h.1];simp_all))).1
theorem iy.at_ (h:iy t c) {p:Nat} (B:p<t.procs.l.length):∃a,c[p]? = some a:=⟨_,ζd (by rw[h.1];omega)⟩
theorem iy.sum (h:iy t c):0<=c.sum/\c.sum<=(qj t:Nat):=
 ⟨sw h.pos,H7 (by simp[h.1]) λi a b w q=>by
  cases u:t.procs.l[i]? with
  | none=>grind
  | some P=>simp[u]at q;rw[<-q];exact(h.2 i a P w u).2⟩
theorem iy.set (h:iy t c) {p:Nat} {b:Int} {P:cn} (B:t.procs.l[p]? = some P) (h0:0<=b) (h1:b<=P.events.l.length):iy t (c.set p b):=by
 refine⟨by simp[h.1],λq a Q u w=>?_⟩
 rw[List.getElem?_set]at u;split at u
 .grind
 .exact h.2 q a Q u w
def VX (t:Trace) (A:b7 200 bt) (c:List Int) (p:Nat):Prop:=∃P e a,t.procs.l[p]? = some P/\c[p]? = some a/\P.events.l[a.toNat]? = some e/\(e.kind=3->∃b,c[(ag A e.message).from_.proc.toNat]? = some b/\(ag A e.message).from_.index<=b)
theorem kN.one {p k:Nat} {e f:Event} (h:kN t p k e) (g:kN t p k f):e=f:=by
 obtain⟨P,q,u⟩:=h;obtain⟨Q,w,z⟩:=g
 grind
theorem kX.le (h:kX t A c) {p:Nat} {a b:Int} (G:c[p]? = some a) (J:a<=b) (O:∀(k:Nat) e,kN t p k e->a<=k->(k:Int)<b->e.kind=3->∃B,(c.set p b)[(ag A e.message).from_.proc.toNat]? = some B/\(ag A e.message).from_.index<=B):kX t A (c.set p b):=by
 have I:=(ζe.1 G).1;have up:∀(q:Nat) x,c[q]? = some x->∃y,(c.set p b)[q]? = some y/\x<=y:=λq x u=>by
  rw[List.getElem?_set]
  grind
 intro q k e x w u hk H;rw[List.getElem?_set]at u;have C:∀x,c[q]? = some x->k<x->∃B,(c.set p b)[(ag A e.message).from_.proc.toNat]? = some B/\(ag A e.message).from_.index<=B:=λx u hk=>by
  obtain⟨y,L,Q⟩:=h q k e x w u hk H;obtain⟨z,S,T⟩:=up _ y L;exact⟨z,S,by omega⟩
 split at u
 .rename_i U;subst U;simp[I]at u;subst u
  by_cases D:k<a
  .exact C a G D
  .exact O k e w (by omega) hk H
 grind
theorem Bi (D:VT t) (J:eu t (bU t) A) {p k:Nat} {e:Event} (B:kN t p k e) (G:e.kind=3):∃q j:Nat,(ag A e.message).from_=⟨q,j+1⟩/\q≠p/\GV t ⟨q,j+1⟩ ⟨p,k+1⟩/\∃y,kN t q j y:=by
 obtain⟨q,j,y,u,z,C,y3,y4,y5⟩:=xN D J B G;have w:(⟨p,k+1⟩,e)∈bU t:=eD.2 ⟨p,k,B,rfl⟩;refine⟨q,j,y5,?_,⟨y,e,eD.2 ⟨q,j,u,rfl⟩,w,z,G,C⟩,y,u⟩;rcases D.formed _ w with h|⟨_,_,_,h,_⟩
 .grind
 grind
theorem Cons.up (O:VT t) (U:eu t (bU t) A) (G:Cons t A c) {p:Nat} {a:Int} {P:cn} (B:t.procs.l[p]? = some P) (D:c[p]? = some a) (Y:a<P.events.l.length):VX t A c p↔Cons t A (c.set p (a+1)):=by
 have h0:=G.1.pos p a D;have X:=(ζe.1 D).1;constructor
 .rintro⟨Q,e,x,H,I,L,w⟩;rw[B]at H;cases H;rw[D]at I;cases I;refine⟨G.1.set B (by omega) (by omega),G.2.le D (by omega) λk f z S T Z=>?_⟩
  have C:k=a.toNat:=by omega
  subst C;cases z.one ⟨P,B,L⟩
  grind
 .intro h;have u:a.toNat<P.events.l.length:=by omega
  refine⟨P,P.events.l[a.toNat],a,B,D,ζd u,λw=>?_⟩
  obtain⟨b,J,W⟩:=h.2 p a.toNat _ (a+1) ⟨P,B,ζd u⟩ (by simp_all) (by omega) w
  rw[List.getElem?_set]at J;split at J
  .obtain⟨q,j,f1,f2,_⟩:=Bi O U ⟨P,B,ζd u⟩ w
   grind
  grind
noncomputable def Gy (t:Trace) (x:aY):Nat:=by
 classical
 exact(bU t).countP λz=>decide (Way t z.1 x)
theorem Ik (B:VT t) {x y:aY} (h:Way t x y):Gy t x<Gy t y:=by
 classical
 refine zM (λz _ q=>?_) ?_
 .have q:Way t z.1 x:=by grind
  simpa using q.trans h
 .obtain⟨e,u⟩:=h.l;exact⟨(x,e),u,by simpa using λk=>B.ok.acyc ⟨x,k⟩,by grind⟩
theorem P4 (x:aY):Gy t x<=(bU t).length:=by
 classical
 unfold Gy;grind
theorem Vd.of {p k:Nat} {e:Event} (h:kN t p k e):Vd t ⟨p,k+1⟩:=⟨e,eD.2 ⟨p,k,h,rfl⟩⟩
theorem GN {p:Nat} {P:cn} (B:t.procs.l[p]? = some P):∀(d k:Nat),k+d+1<P.events.l.length->Way t ⟨p,k+1⟩ ⟨p,((k+d+1:Nat):Int)+1⟩
 | 0,k,h=>.single ⟨Vd.of ⟨P,B,ζd (by omega)⟩,Vd.of ⟨P,B,ζd h⟩,.inl (by simp)⟩
 | d+1,k,h=>(GN B d k (by omega)).tail ⟨Vd.of ⟨P,B,ζd (show k+d+1<_ by omega)⟩,Vd.of ⟨P,B,ζd h⟩,.inl (by simp;omega)⟩
theorem S5 {q k:Nat} {b:Int} {Q:cn} {x:aY} (B:t.procs.l[q]? = some Q) (h:Way t x ⟨q,k+1⟩) (h1:(k:Int)<b) (D:b<=Q.events.l.length):Way t x ⟨q,b⟩:=by
 by_cases e:b=k+1
 .grind
 .have:=GN B (b.toNat-k-2) k (by omega)
  rw[show ((k+(b.toNat-k-2)+1:Nat)+1)=b from by omega]at this
  exact h.trans this
theorem Cons.Iz (Y:VT t) (hM:eu t (bU t) A) (B:Cons t A c) {p:Nat} {a:Int} (G:c[p]? = some a) (h0:0<a):Cons t A (c.set p (a-1))\/∃(q:Nat) (b:Int),c[q]? = some b/\0<b/\Way t ⟨p,a⟩ ⟨q,b⟩:=by
 have Z:=(ζe.1 G).1;have L:=ζd (show p<t.procs.l.length by rw[<-B.1.1];omega)
 have hr:=B.1.2 p a _ G L;refine Classical.byContradiction λC=>C (.inl ⟨B.1.set L (by omega) (by omega),λq k e x u I hk O=>?_⟩)
 obtain⟨z,w,aa⟩:∃z,c[q]? = some z/\x<=z:=by
  rw[List.getElem?_set]at I;split at I
  .rename_i e2;subst e2;simp[Z]at I;exact⟨a,G,by omega⟩
  grind
 obtain⟨y,H,D⟩:=B.2 q k e z u w (by omega) O
 obtain⟨r,j,f1,f2,f3,_⟩:=Bi Y hM u O;rw[f1]at H D ⊢;simp only[Int.toNat_natCast]at H D ⊢
 by_cases e2:p=r
 .subst e2;rw[G]at H;cases H;refine⟨a-1,by simp_all,?_⟩
  refine Classical.byContradiction λhj=>C (.inr ⟨q,z,w,by omega,?_⟩)
  have:a=j+1:=by omega
  subst this;obtain⟨Q,S,_⟩:=u;have J:=B.1.2 q z Q w S;obtain⟨T,U,W,X,m3⟩:=f3;exact S5 S (.single ⟨⟨T,W⟩,⟨U,X⟩,.inr ⟨T,U,W,X,m3⟩⟩) (by omega) J.2
 simp_all
theorem Cons.Uf (B:VT t) (D:eu t (bU t) A) (G:Cons t A c):∀(n p:Nat) (a:Int),c[p]? = some a->0<a->(bU t).length-Gy t ⟨p,a⟩<=n->∃(q:Nat) (b:Int),c[q]? = some b/\0<b/\Cons t A (c.set q (b-1)):=by
 intro n
 induction n with
 | zero=>
  intro p a u h0 C;rcases G.Iz B D u h0 with h|⟨q,b,_,_,w⟩
  .grind
  .have:=Ik B w;have:=P4 (t:=t) ⟨q,b⟩;omega
 | succ n H=>
  intro p a u h0 C;rcases G.Iz B D u h0 with h|⟨q,b,I,z,w⟩
  .grind
  .have:=Ik B w;exact H q b I z (by omega)
theorem Cons.down (D:VT t) (G:eu t (bU t) A) (B:Cons t A c) (J:0<c.sum):∃(q:Nat) (b:Int),c[q]? = some b/\0<b/\Cons t A (c.set q (b-1)):=by
 obtain⟨p,a,u,h0⟩:∃(p:Nat) (a:Int),c[p]? = some a/\0<a:=by
  refine Classical.byContradiction λw=>?_
  have C:∀a∈c,a=0:=λa u=>by
   obtain⟨p,z⟩:=List.mem_iff_getElem?.1 u;have:=B.1.pos p a z
   grind
  have:c.sum=0:=by
   clear B J w
   induction c with
   | nil=>rfl
   | cons x c H=>simp_all
  omega
 exact B.Uf D G _ p a u h0 (Nat.le_refl _)
theorem Cons.D_ (G:VT t) (J:eu t (bU t) A):∀(d:Nat) {c:List Int} {k:Nat},Cons t A c->c.sum=((k+d:Nat):Int)->∃c',Cons t A c'/\c'.sum=(k:Int)
 | 0,c,k,B,O=>⟨c,B,by grind⟩
 | d+1,c,k,B,O=>by
  obtain⟨q,b,U,W,D⟩:=B.down G J (by omega)
  exact Cons.D_ G J d D (by rw[qX U];omega)
end
end Go.VE
namespace Go.VE
theorem fh {α:Type} {s:Sl α} {n:Nat} (h:n<s.l.length):decide ((n:Int)<len s)=true:=by simp[len];omega
theorem fe {α:Type} {s:Sl α}:decide ((s.l.length:Int)<len s)=false:=by simp[len]
theorem s6 {α:Type} {s x:Sl α} (h:s.l.length+x.l.length<=2147483648):∃r,kI s x=some r/\r.l=s.l++x.l:=by
 unfold kI
 by_cases e:x.l=[]
 .rw[if_pos e];exact⟨s,rfl,by rw[e,List.append_nil]⟩
 .rw[if_neg e,if_pos h];exact⟨_,rfl,rfl⟩
theorem mB {α:Type} {s:Sl α} {x:α} (h:s.l.length<2147483648):∃r,gU s x=some r/\r.l=s.l++[x]:=by
 unfold gU;rw[if_pos (by omega)];exact⟨_,rfl,rfl⟩
theorem qv {α:Type} {s:Sl α} {p:Nat} (h:p<s.l.length):Sl.lQ s (p:Int)=some p:=by
 unfold Sl.lQ;rw[if_pos ⟨by omega,by simpa using h⟩];rfl
theorem put_eq {α:Type} {s:Sl α} {p:Nat} {x:α} (h:p<s.l.length):∃r,Sl.put s p x=some r/\r.l=s.l.set p x:=by
 unfold Sl.put;rw[if_pos h];exact⟨_,rfl,by cases s <;> first|rfl|(simp[Sl.l]at h)⟩
section
variable {t:Trace} {A:b7 200 bt}
def Wc (t:Trace) (A:b7 200 bt) (c:List Int) (n:Nat):Prop:=∀(p k:Nat) (e:Event) (a:Int),p<n->kN t p k e->c[p]? = some a->(k:Int)<a->e.kind=3->∃b,c[(ag A e.message).from_.proc.toNat]? = some b/\(ag A e.message).from_.index<=b
theorem Sr (Y:Small t) (U:VT t) (hM:eu t (bU t) A) {c:Sl Int} (hR:iy t c.l):Wp (dJ t c) λb=>(b=true↔kX t A c.l):=by
 have aa:=hR.1;have ab:=U.few;unfold dJ dJ.W1;refine eT c.l.length (λn s=>s=(n:Int)/\Wc t A c.l n) ⟨rfl,λp k e a h=>absurd h (by omega)⟩ ?_ ?_
 .rintro n _ B ⟨rfl,S⟩;unfold dJ.bf;rw[fh B,bF];have z:n<t.procs.l.length:=by omega
  have ad:=(Y.2 _ (List.getElem_mem z)).1;have C:=ζd z;have D:=ζd B;obtain⟨r1,r2⟩:=hR.2 n _ _ D C;have I:=bB B;generalize c.l[n]=a at *;generalize t.procs.l[n]=P at *;unfold dJ.W2;refine eT a.toNat (λm s=>s=(m:Int)/\∀(k:Nat) (e:Event),k<m->kN t n k e->e.kind=3->∃b,c.l[(ag A e.message).from_.proc.toNat]? = some b/\(ag A e.message).from_.index<=b) ⟨rfl,λk e h=>absurd h (by omega)⟩ ?_ ?_
  .rintro m _ hm ⟨rfl,T⟩;unfold dJ.bO;have J:m<P.events.l.length:=by omega
   have u:kN t n m P.events.l[m]:=⟨P,C,ζd J⟩;rw[I,ζb,show decide ((m:Int)<a)=true from by simp;omega,bF,sJ,C,ζb,bB J,ζb,bY m (by omega)]
   generalize P.events.l[m]=e at *;have more:(e.kind=3->∃b,c.l[(ag A e.message).from_.proc.toNat]? = some b/\(ag A e.message).from_.index<=b)->∀(k:Nat) (e:Event),k<m+1->kN t n k e->e.kind=3->∃b,c.l[(ag A e.message).from_.proc.toNat]? = some b/\(ag A e.message).from_.index<=b:=λh k f hk Z w=>by
    by_cases ek:k=m
    .subst ek;cases u.one Z;exact h w
    .exact T k f (by omega) Z w
   rw[b9];refine⟨λw=>?_,λw=>(a_ _).2 ⟨rfl,more λk=>by simp[k]at w⟩⟩
   have w:e.kind=3:=by simpa using w
   obtain⟨q,j,f1,_,_,y,Q,hQ,_⟩:=Bi U hM u w;have G:q<c.l.length:=by have:=(ζe.1 hQ).1;omega
   rw[find_eq Y,Eb U hM u w,ζb,f1];simp only;rw[bB G,ζb,b9];refine⟨λW=>(a_ _).2 ((a_ _).2 ((a_ _).2 ⟨λh=>(by cases h),λhC=>?_⟩)),λX=>(a_ _).2 ⟨rfl,more λ_=>?_⟩⟩
   .obtain⟨b,L,O⟩:=hC n m e a u D (by omega) w
    rw[f1]at L O;simp only[Int.toNat_natCast,ζd G,ζa]at L O;simp only[decide_eq_true_eq]at W;omega
   .rw[f1];exact⟨c.l[q],by simp only[Int.toNat_natCast];exact ζd G,by simp at X ⊢;omega⟩
  .rintro _ ⟨rfl,T⟩;unfold dJ.bO;rw[I,ζb,show decide ((a.toNat:Int)<a)=false from by simp;omega,bK]
   refine(a_ _).2 ((a_ _).2 ⟨bY n (by omega),λp k e x hp u H hk w=>?_⟩)
   by_cases e2:p=n
   .subst e2;rw[D]at H;cases H;exact T k e (by omega) u w
   .exact S p k e x (by omega) u H hk w
 .rintro _ ⟨rfl,S⟩;unfold dJ.bf;rw[fe,bK];exact(a_ _).2 ((a_ _).2 ⟨λ_ p k e a u H=>S p k e a (ζe.1 H).1 u H,λ_=>rfl⟩)
theorem Uu (D:Small t) (G:VT t) (J:eu t (bU t) A) {c:Sl Int} (B:c.l.length=t.procs.l.length):Wp (wJ t c) λb=>(b=true↔Cons t A c.l):=by
 unfold wJ;rw[eW];refine(Qx D B).mono λb u=>?_
 rw[eW,b9];constructor
 .intro h;have w:=u.1 h;rw[eW];refine(Sr D G J w).mono λC q=>?_
  rw[a_,a_];exact q.trans ⟨λh=>⟨w,h⟩,λh=>h.2⟩
 .intro h;rw[a_,a_];exact⟨λh=>(by cases h),λz=>absurd (u.2 z.1) (by simp[h])⟩
theorem step_eq {c:Sl Int} {p:Nat} {a:Int} (B:c.l[p]? = some a) (D:c.l.length<=1073741824) (h0:0<=a) (h1:a<1073741824):∃d:Sl Int,qF c p=some d/\d.l=c.l.set p (a+1):=by
 have t:=(ζe.1 B).1;unfold qF;obtain⟨r,u,q⟩:=s6 (s:=Sl.row []) (x:=c) (show 0+c.l.length<=_ by omega)
 have q:r.l=c.l:=q;rw[u,ζb,qv (by rw[q];exact t),ζb]
 unfold Sl.get;rw[q,B,ζb,ζb,qQ _ (by omega) (by omega)]
 obtain⟨d,w,z⟩:=put_eq (s:=r) (p:=p) (x:=a+1) (by rw[q];exact t)
 rw[w];exact⟨d,rfl,by rw[z,q]⟩
end
end Go.VE
namespace Go.VE
def ins (s:Sl (Sl Int)):List (List Int):=s.l.map Sl.l
theorem HD {α:Type} (s:Sl α) (i:Nat) (h:i<=s.l.length):∃x,fQ s (some (i:Int)) none=some x/\x.l=s.l.drop i:=by
 unfold fQ dN;simp only[Option.getD_some,Option.getD_none];rw[if_pos ⟨by omega,by omega,by omega⟩]
 exact⟨_,rfl,by cases s <;> simp[Sl.l]⟩
end Go.VE
namespace Go.VE
def oL (t:Trace) (A:b7 200 bt) (c d:List Int):Prop:=∃(p:Nat) (a:Int),c[p]? = some a/\d=c.set p (a+1)/\Cons t A d
section
variable {t:Trace} {A:b7 200 bt}
theorem jx {s:Sl (Sl Int)} {d:List Int}:d∈ins s↔∃x∈s.l,x.l=d:=by unfold ins;exact List.mem_map
theorem Qv {r s:Sl (Sl Int)} {x:Sl Int} (h:r.l=s.l++[x]) {d:List Int}:d∈ins r↔d∈ins s\/d=x.l:=by
 unfold ins;rw[h];simp
theorem IS (O:Small t) (U:VT t) (Y:eu t (bU t) A) {c:Sl Int} (W:Cons t A c.l):Wp (iH t c) λr=>r.l.length<=8/\∀d,d∈ins r↔oL t A c.l d:=by
 have H:=W.1.1;have S:=U.few;unfold iH iH.W1;refine eT c.l.length (λn s=>s.2=(n:Int)/\s.1.l.length<=n/\∀d,d∈ins s.1↔∃(p:Nat) (a:Int),p<n/\c.l[p]? = some a/\d=c.l.set p (a+1)/\Cons t A d) ⟨rfl,Nat.le_refl _,λd=>⟨λh=>by simp[ins,Sl.l]at h,λ⟨p,a,h,_⟩=>absurd h (by omega)⟩⟩ ?_ ?_
 .rintro n ⟨out,_⟩ z ⟨h,q,D⟩;simp only at h q D;subst h;have u:n<t.procs.l.length:=by omega
  have T:=(O.2 _ (List.getElem_mem u)).1;have w:=ζd z;have hr:=W.1.2 n _ _ w (ζd u);unfold iH.bf;rw[fh z,bF,bB z,ζb,bB u,ζb,bY n (by omega)]
  generalize c.l[n]=a at *;have keep:¬Cons t A (c.l.set n (a+1))->∀d,d∈ins out↔∃(p:Nat) (a:Int),p<n+1/\c.l[p]? = some a/\d=c.l.set p (a+1)/\Cons t A d:=λI d=>by
   rw[D];refine⟨λ⟨p,b,h,k⟩=>⟨p,b,by omega,k⟩,λ⟨p,b,h,k1,k2,k3⟩=>⟨p,b,?_,k1,k2,k3⟩⟩
   refine Classical.byContradiction λhp=>I ?_
   have:p=n:=by omega
   subst this;rw[w]at k1;cases k1;rw[<-k2];exact k3
  by_cases B:a<t.procs.l[n].events.l.length
  .obtain⟨d,X,C⟩:=step_eq (c:=c) w (by omega) hr.1 (by omega)
   rw[show decide (a<(len t.procs.l[n].events))=true from by simpa [len]using B,bF,X,ζb,eW,eW]
   refine(Uu O U Y (c:=d) (by rw[C,List.length_set];exact H)).mono λb J=>?_
   rw[C]at J;rw[a_,b9];constructor
   .intro Z;obtain⟨r,L,G⟩:=mB (s:=out) (x:=d) (by omega)
    rw[ζb,L,ζb,a_];refine⟨rfl,by rw[G];simp;omega,λe=>?_⟩
    rw[Qv G,D,C];constructor
    .rintro (⟨p,b,h,k⟩|h)
     .exact⟨p,b,by omega,k⟩
     .exact⟨n,a,by omega,w,h,by rw[h];exact J.1 Z⟩
    .rintro⟨p,b,h,k1,k2,k3⟩
     by_cases e2:p=n
     .subst e2;rw[w]at k1;cases k1;exact .inr k2
     .exact .inl ⟨p,b,by omega,k1,k2,k3⟩
   .intro Q;exact(a_ _).2 ⟨rfl,Nat.le_succ_of_le q,keep λh=>by rw[J.2 h]at Q;cases Q⟩
  .rw[show decide (a<(len t.procs.l[n].events))=false from by simpa [len]using B,bK,ζb,bK,a_]
   refine⟨rfl,Nat.le_succ_of_le q,keep λh=>?_⟩
   have:=h.1.2 n (a+1) _ (by simp[List.getElem?_set,z]) (ζd u)
   omega
 .rintro⟨out,_⟩ ⟨h,q,D⟩;simp only at h q D;subst h;unfold iH.bf;rw[fe,bK,a_];refine(a_ _).2 ⟨show out.l.length<=8 by omega,λd=>(D d).trans ⟨λ⟨p,a,_,h⟩=>⟨p,a,h⟩,λ⟨p,a,h⟩=>⟨p,a,(ζe.1 h.1).1,h⟩⟩⟩
def Fq (t:Trace) (A:b7 200 bt) (k:Nat) (s:Sl (Sl Int)):Prop:=∀d,d∈ins s↔Cons t A d/\d.sum=(k:Int)
theorem oL.iff (D:VT t) (G:eu t (bU t) A) {k:Nat} {d:List Int}:(∃c,(Cons t A c/\c.sum=(k:Int))/\oL t A c d)↔Cons t A d/\d.sum=((k+1:Nat):Int):=by
 constructor
 .rintro⟨c,⟨z,C⟩,p,a,H,rfl,u⟩;exact⟨u,by rw[qX H];omega⟩
 .rintro⟨u,C⟩;obtain⟨q,b,w,I,z⟩:=u.down D G (by omega)
  have B:=(ζe.1 w).1;refine⟨_,⟨z,by rw[qX w];omega⟩,q,b-1,by simp[B],?_,u⟩
  rw[List.set_set,show b-1+1=b from by omega]
  refine List.ext_getElem? λi=>?_
  rw[List.getElem?_set];split
  .rename_i e;subst e;simp[B,w];exact(ζe.1 w).2.symm▸rfl
  .rfl
theorem ym {s:Sl (Sl Int)} {n:Nat} (h:n<s.l.length) {d:List Int}:d∈(s.l.take (n+1)).map Sl.l↔d∈(s.l.take n).map Sl.l\/d=s.l[n].l:=by
 rw[show s.l.take (n+1)=s.l.take n++[s.l[n]]from by rw[List.take_add_one,ζd h];rfl]
 simp only[List.map_append,List.mem_append,List.map_cons,List.map_nil,List.mem_singleton]
theorem Iw:∀n:Nat,(List.replicate n (0:Int)).sum=0
 | 0=>rfl
 | n+1=>by rw[List.replicate_succ,List.sum_cons,Iw n];rfl
theorem I7:Cons t A (List.replicate t.procs.l.length 0):=by
 have u:∀(p:Nat) a,(List.replicate t.procs.l.length (0:Int))[p]? = some a->a=0:=λp a h=>by
  rw[List.getElem?_replicate]at h;split at h <;> cases h;rfl
 exact⟨⟨by simp,λp a P q _=>by rw[u p a q];omega⟩,λp k e a _ q hk=>by rw[u p a q]at hk;omega⟩
theorem VG {z:Sl Int} (B:z.l=List.replicate t.procs.l.length 0):Fq t A 0 (Sl.row [z]):=by
 intro d;have:d∈ins (Sl.row [z])↔d=List.replicate t.procs.l.length 0:=by unfold ins;rw[<-B];exact List.mem_singleton
 rw[this];constructor
 .rintro rfl;exact⟨I7,by rw[Iw];rfl⟩
 .rintro⟨q,u⟩;refine List.ext_getElem? λi=>?_
  rw[List.getElem?_replicate,<-q.1.1];split
  .rename_i w;have h:=ζd w;rw[h,Bl q.1.pos (by simpa using u) i _ h]
  .exact List.getElem?_eq_none (by omega)
theorem Fq.none (D:VT t) (G:eu t (bU t) A) {k:Nat} {s:Sl (Sl Int)} (h:Fq t A k s) (J:s.l.length=0) {d:List Int} (B:Cons t A d):d.sum<(k:Int):=by
 refine Classical.byContradiction λq=>?_
 have h0:=sw B.1.pos;obtain⟨c,u,w⟩:=Cons.D_ D G (d.sum.toNat-k) (k:=k) B (by omega)
 have:=(h c).2 ⟨u,w⟩;obtain⟨x,z,_⟩:=jx.1 this;have:=List.length_pos_of_mem z;omega
theorem Fq.last {s:Sl (Sl Int)} (h:Fq t A (qj t+1) s):s.l.length=0:=by
 refine Classical.byContradiction λq=>?_
 have u:=List.getElem_mem (show 0<s.l.length by omega)
 have:=(h s.l[0].l).1 (jx.2 ⟨_,u,rfl⟩);have:=this.1.1.sum;omega
theorem K2 {α:Type} (s:Sl α):decide ((len s)>0) = !decide (s.l.length=0):=by
 by_cases h:s.l.length=0
 .simp[len,h]
 .simp[h,len];omega
end
end Go.VE
namespace Go.VE
def jL:List Int->List Int->Int
 | [],[]=>0
 | [],_::_=>-1
 | _::_,[]=>1
 | x::a,y::b=>if x<y then -1 else if x>y then 1 else jL a b
theorem Et:∀a,jL a a=0
 | []=>rfl
 | x::a=>by simp[jL,Et a]
theorem Ir:∀a b c,jL a b<0->jL b c<0->jL a c<0
 | [],[],_,h,_=>by simp[jL]at h
 | [],_::_,[],_,h=>by simp[jL]at h
 | [],_::_,_::_,_,_=>by simp[jL]
 | _::_,[],_,h,_=>by simp[jL]at h
 | _::_,_::_,[],_,h=>by simp[jL]at h
 | x::a,y::b,z::c,h1,B=>by
  have D:=Ir a b c;simp only[jL]at h1 B ⊢;split at h1
  .split at B
   .rw[if_pos (by omega)];omega
   .split at B
    .omega
    .rw[if_pos (by omega)];omega
  .split at h1
   .omega
   .split at B
    .rw[if_pos (by omega)];omega
    .split at B
     .omega
     .rw[if_neg (by omega),if_neg (by omega)];exact D h1 B
theorem IF:∀a b,¬jL a b<0->¬jL b a<0->a=b
 | [],[],_,_=>rfl
 | [],_::_,h,_=>by simp[jL]at h
 | _::_,[],_,h=>by simp[jL]at h
 | x::a,y::b,h1,B=>by
  have D:=IF a b;simp only[jL]at h1 B;split at h1
  .omega
  .split at B
   .omega
   .rw[D (by first|assumption|(split at h1 <;> first|assumption|omega)) (by first|assumption|(split at B <;> first|assumption|omega)),show x=y from by omega]
end Go.VE
namespace Go.VE
theorem ND {a b:Sl Int} (B:a.l.length<1073741824):dR a b=some (decide (a.l=b.l)):=by
 refine Wp.eq ?_;unfold dR;rw[b9];refine⟨λh=>?_,λh=>(a_ _).2 ?_⟩
 .have h:(a.l.length:Int)=b.l.length:=by simpa [len]using h
  have h:a.l.length=b.l.length:=by omega
  unfold dR.W1;refine eT a.l.length (λn s=>s=(n:Int)/\∀i,i<n->a.l[i]? = b.l[i]?) ⟨rfl,λi h=>absurd h (by omega)⟩ ?_ ?_
  .rintro n _ q ⟨rfl,u⟩;unfold dR.bf;have w:n<b.l.length:=by omega
   rw[show decide ((n:Int)<len a)=true from fh q,bF,bB q,ζb,bB w,ζb,b9];refine⟨λt=>(a_ _).2 ⟨bY n (by omega),λi z=>?_⟩,λt=>(a_ _).2 ((a_ _).2 ?_)⟩
   .by_cases e:i=n
    .subst e;rw[ζd q,ζd w];simpa using t
    .exact u i (by omega)
   .refine(decide_eq_false λe=>?_).symm
    have h1:a.l[n]? = b.l[n]? := by rw[e]
    rw[ζd q,ζd w]at h1;simp at t h1;exact t h1
  .rintro _ ⟨rfl,u⟩;unfold dR.bf;rw[fe,bK,a_];refine(a_ _).2 (decide_eq_true (List.ext_getElem? λi=>?_)).symm
   by_cases z:i<a.l.length
   .exact u i z
   .rw[List.getElem?_eq_none (by omega),List.getElem?_eq_none (by omega)]
 .refine(decide_eq_false λe=>?_).symm
  simp[len,e]at h
end Go.VE
namespace Go.VE
section
variable {t:Trace} {A:b7 200 bt}
end
end Go.VE
namespace Go.VE
theorem sW {c:Sl Int} (B:c.l.length<=1073741824) (h0:0<c.l.length):∃d,(gD c).bind Sl.whole=some d/\d.l=c.l:=by
 unfold gD;have key:((kI (Sl.row []:Sl Int) c).bind λx=>some x).bind Sl.whole=some (.row ([]++c.l)):=by
  unfold kI;rw[if_neg (λh=>by rw[h]at h0;simp at h0),if_pos (show (Sl.row ([]:List Int)).l.length+c.l.length<=2147483648 from show 0+c.l.length<=_ by omega)];rfl
 cases c with
 | nil=>simp[Sl.l]at h0
 | emp=>simp[Sl.l]at h0
 | part l=>exact⟨_,key,rfl⟩
 | row l=>exact⟨_,key,rfl⟩
section
variable {t:Trace} {A:b7 200 bt}
structure Ws (t:Trace) (A:b7 200 bt) (k:Nat) (o:Sl (Sl (Sl Int))):Prop where
 nd:(o.l.flatMap ins).Nodup
 mem:∀d,d∈o.l.flatMap ins↔Cons t A d/\d.sum<(k:Int)
end
end Go.VE
namespace Go.VE
def IT (c d:List Int):Prop:=∀(p:Nat) (a b:Int),c[p]? = some a->d[p]? = some b->a<=b
section
variable {t:Trace} {A:b7 200 bt}
theorem Ow (hS:Small t) (hv:dc t=some true) (Y:VT t) (hM:eu t (bU t) A) {c:Sl Int} (hR:iy t c.l) :
 Wp (v7 t c) λr=>r.2=0/\Cons t A r.1.l/\IT c.l r.1.l/\∀d,Cons t A d->IT c.l d->IT r.1.l d:=by
 have ab:=Y.few;have aa:=Y.ok.one;have D:=hR.1;unfold v7 jY ua;rw[hv,ζb,bF,vK (f:=λz=>(jX z t).getD false) (λz _=>GR.ok ((a_ _).2 trivial)) (by simp[Sl.l]),ζb,ζb,ζb]
 have G:(!((Sl.row [c]:Sl (Sl Int)).l.any λz=>(jX z t).getD false))=true:=by
  simp[Sl.l,jX,len,D] <;> exact congrArg Int.ofNat D
 rw[G,bF,eW,eW];refine(BN hS D).mono λb O=>?_
 rw[O.2 hR,bF];obtain⟨d0,h1,X⟩:=sW (c:=c) (by omega) (by omega)
 rw[h1,ζb];unfold jY.W1;refine eP (λs:Sl Int=>iy t s.l/\IT c.l s.l/\∀d,Cons t A d->IT c.l d->IT s.l d) (λs:Sl Int=>((qj t:Int)-s.l.sum).toNat) ⟨by rw[X];exact hR,λp a b ha O=>by rw[X,ha]at O;cases O;exact Int.le_refl _,λd _ h=>by rw[X];exact h⟩ ?_
 rintro s ⟨i1,i2,i3⟩;unfold jY.bf;rw[eW];refine(IU hS hv Y hM i1).mono λr hr=>?_
 rw[b9];constructor
 .intro ht;obtain⟨p,k,e,a,q,j,y,b,g1,g2,g3,g4,g5,g6,g7,S,g9⟩:=hr.2 ht;have B:=(ζe.1 S).1;have H:Sl.setAt s r.1.proc r.1.index=some (s.re (s.l.set q ((j:Int)+1))):=by
   unfold Sl.setAt;rw[g6,if_pos ⟨by simp,by simpa using B⟩];rfl
  have C:(s.re (s.l.set q ((j:Int)+1))).l=s.l.set q ((j:Int)+1):=by cases s <;> first|rfl|(simp[Sl.l]at B)
  simp only;rw[H,ζb,a_];obtain⟨Q,hQ,hy⟩:=g7;have ad:=(ζe.1 hy).1;have I:=i1.set hQ (b:=(j:Int)+1) (by omega) (by omega)
  refine⟨⟨by rw[C];exact I,?_,?_⟩,?_⟩
  .rw[C];intro Z T b' u w;rw[List.getElem?_set]at w;split at w
   .rename_i e2;subst e2;simp[B]at w;have:=i2 q T b u S;omega
   .exact i2 Z T b' u w
  .rw[C];intro d U J Z T b' u w;rw[List.getElem?_set]at u;split at u
   .rename_i e2;subst e2;simp[B]at u;obtain⟨x,hx⟩:=U.1.at_ (show p<t.procs.l.length by have:=(ζe.1 g2).1;rw[<-i1.1];exact this)
    have:=i3 d U J p a x g2 hx;obtain⟨z,W,L⟩:=U.2 p k e x g1 hx (by omega) g4
    rw[g5,g6]at W L;simp only[Int.toNat_natCast]at W L;rw[w]at W;cases W;omega
   .exact i3 d U J Z T b' u w
  .show ((qj t:Int)-(s.re (s.l.set q ((j:Int)+1))).l.sum).toNat<((qj t:Int)-s.l.sum).toNat;have h3:=I.sum;rw[qX S]at h3;rw[C,qX S];omega
 .intro hf;exact(a_ _).2 ((a_ _).2 ((a_ _).2 ⟨rfl,⟨i1,hr.1 hf⟩,i2,i3⟩))
end
end Go.VE
namespace Go.VE
section
variable {t:Trace} {A:b7 200 bt}
end
end Go.VE
namespace Go.VE
section
variable {t:Trace} {A:b7 200 bt}
end
end Go.VE
namespace Go.VE
section
variable {t:Trace} {A:b7 200 bt}
end
end Go.VE
namespace Go.VE
abbrev cg (m:Option Bool) (P:Prop):Prop:=Wp m λb=>(b=true↔P)
theorem cg.eq {m:Option Bool} {P:Prop} (h:cg m P):∃b,m=some b/\(b=true↔P):=h
theorem cg.iff {m:Option Bool} {P Q:Prop} (h:cg m P) (e:P↔Q):cg m Q:=h.mono λb q=>q.trans e
theorem gL {b:Bool} {P:Prop} (h:b=true↔P):cg (some b) P:=(a_ _).2 h
theorem cg.some {m:Option Bool} {P:Prop} (h:cg m P):cg (m.bind λx=>Option.some x) P:=by
 obtain⟨b,q,h⟩:=h;rw[q];exact gL h
theorem cg.same {m n:Option Bool} {P:Prop} (h:cg m P) (k:cg n P):∃b,m=Option.some b/\n=Option.some b/\(b=true↔P):=by
 obtain⟨b,q,h⟩:=h;obtain⟨d,t,k⟩:=k;have:b=d:=by rw[Bool.eq_iff_iff,h,k]
 subst this;exact⟨b,q,t,h⟩
theorem cg.and {m n:Option Bool} {P Q:Prop} (h:cg m P) (k:P->cg n Q) {f:Bool->Option Bool} (B:∀b,f b=bg b (n.bind λx=>Option.some x) (Option.some false)):cg (m.bind f) (P/\Q):=by
 obtain⟨b,t,h⟩:=h;rw[t,ζb,B]
 cases b with
 | true=>exact((k (h.1 rfl)).some).iff ⟨λq=>⟨h.1 rfl,q⟩,λq=>q.2⟩
 | false=>exact gL ⟨λe=>(nomatch e),λq=>(h.2 q.1).symm▸rfl⟩
theorem cg.I_ {m:Option Bool} {b:Bool} {P Q:Prop} (h:cg m P) (k:P->(b=true↔Q)) {f:Bool->Option Bool} (B:∀x,f x=bg x (Option.some b) (Option.some false)):cg (m.bind f) (P/\Q):=by
 obtain⟨x,t,h⟩:=h;rw[t,ζb,B]
 cases x with
 | true=>exact gL ((k (h.1 rfl)).trans ⟨λq=>⟨h.1 rfl,q⟩,λq=>q.2⟩)
 | false=>exact gL ⟨λe=>(nomatch e),λq=>(h.2 q.1).symm▸rfl⟩
theorem cg.Pq {m n:Option Bool} {P Q:Prop} (h:cg m (¬P)) (k:P->cg n Q) {f:Bool->Option Bool} (B:∀b,f b=bg b (Option.some true) (n.bind λx=>Option.some (!x))):cg (m.bind f) (¬(P/\Q)):=by
 obtain⟨b,u,h⟩:=h;rw[u,ζb,B]
 cases b with
 | true=>exact gL ⟨λ_ q=>(h.1 rfl) q.1,λ_=>rfl⟩
 | false=>
  have t:P:=Classical.byContradiction λw=>(nomatch h.2 w)
  obtain⟨d,z,k⟩:=k t;rw[bK,z,ζb];refine gL ?_
  cases d with
  | true=>exact⟨λe=>(nomatch e),λq=>absurd ⟨t,k.1 rfl⟩ q⟩
  | false=>exact⟨λ_ q=>(nomatch k.2 q.2),λ_=>rfl⟩
theorem cg.LS {m:Option Bool} {b:Bool} {P Q:Prop} (h:cg m (¬P)) (k:P->(b=true↔Q)) {f:Bool->Option Bool} (B:∀x,f x=bg x (Option.some true) (Option.some (!b))):cg (m.bind f) (¬(P/\Q)):=by
 obtain⟨x,u,h⟩:=h;rw[u,ζb,B]
 cases x with
 | true=>exact gL ⟨λ_ q=>(h.1 rfl) q.1,λ_=>rfl⟩
 | false=>
  have t:P:=Classical.byContradiction λw=>(nomatch h.2 w)
  rw[bK];refine gL ?_
  cases b with
  | true=>exact⟨λe=>(nomatch e),λq=>absurd ⟨t,(k t).1 rfl⟩ q⟩
  | false=>exact⟨λ_ q=>(nomatch (k t).2 q.2),λ_=>rfl⟩
theorem cg.OF {m n:Option Bool} {P Q:Prop} (h:cg m P) (k:P->cg n Q) {f:Bool->Option Bool} (B:∀b,f b=bg b (n.bind λx=>Option.some (!x)) (Option.some true)):cg (m.bind f) (¬(P/\Q)):=by
 obtain⟨b,t,h⟩:=h;rw[t,ζb,B]
 cases b with
 | true=>
  obtain⟨d,u,k⟩:=k (h.1 rfl);rw[bF,u,ζb];refine gL ?_
  cases d with
  | true=>exact⟨λe=>(nomatch e),λq=>absurd ⟨h.1 rfl,k.1 rfl⟩ q⟩
  | false=>exact⟨λ_ q=>(nomatch k.2 q.2),λ_=>rfl⟩
 | false=>exact gL ⟨λ_ q=>(nomatch h.2 q.1),λ_=>rfl⟩
theorem Gw {step:Int->Option (Fw Int Unit Unit)} {n:Nat} {P:Nat->Prop} (h:∀i,i<n->(∀j,j<i->P j)->Wp (step (i:Int)) λw=>P i/\w=.n ((i+1:Nat):Int)\/¬P i/\w=.r ()) (B:(∀j,j<n->P j)->step (n:Int)=some (.x ())) :
 Wp (bG step 0) λw=>(∀i,i<n->P i)/\w=.x ()\/(¬∀i,i<n->P i)/\w=.r ():=by
 have key:∀m k,k+m=n->(∀j,j<k->P j)->Wp (bG step (k:Int)) λw=>(∀i,i<n->P i)/\w=.x ()\/(¬∀i,i<n->P i)/\w=.r ():=by
  intro m
  induction m with
  | zero=>
   intro k hk q;have:k=n:=by omega
   subst this;rw[g_,B q,ζb];exact(a_ _).2 (.inl ⟨q,rfl⟩)
  | succ m u=>
   intro k hk q;rw[g_,eW];refine(h k (by omega) q).mono ?_
   rintro w (⟨h1,rfl⟩|⟨h1,rfl⟩)
   .exact u (k+1) (by omega) λj t=>by
     rcases Nat.lt_or_eq_of_le (Nat.lt_succ_iff.1 t)with t|rfl
     .exact q j t
     .exact h1
   .exact(a_ _).2 (.inr ⟨λk2=>h1 (k2 k (by omega)),rfl⟩)
 exact key n 0 (by omega) λj t=>absurd t (by omega)
theorem mJ {step:Int->Option (Fw Int Unit Unit)} {n:Nat} {P:Nat->Prop} (h:∀i,i<n->(∀j,j<i->P j)->Wp (step (i:Int)) λw=>P i/\w=.n ((i+1:Nat):Int)\/¬P i/\w=.r ()) (B:(∀j,j<n->P j)->step (n:Int)=some (.x ())) :
 cg ((bG step 0).bind (Fw.elim (λ_=>some true) (λ_=>some false))) (∀i,i<n->P i):=by
 rw[cg,eW];refine(Gw h B).mono ?_;rintro w (⟨h1,rfl⟩|⟨h1,rfl⟩)
 .exact gL ⟨λ_=>h1,λ_=>rfl⟩
 .exact gL ⟨λe=>(nomatch e),λq=>absurd q h1⟩
theorem vt {γ:Type} {step:Int->Option (Fw Int Unit Unit)} {n:Nat} {P:Nat->Prop} {B:Unit->Option γ} {fr:Unit->Option γ} {R:γ->Prop} (h:∀i,i<n->(∀j,j<i->P j)->Wp (step (i:Int)) λw=>P i/\w=.n ((i+1:Nat):Int)\/¬P i/\w=.r ()) (D:(∀j,j<n->P j)->step (n:Int)=some (.x ()))
 (G:(∀i,i<n->P i)->Wp (B ()) R) (hr:(¬∀i,i<n->P i)->Wp (fr ()) R):Wp ((bG step 0).bind (Fw.elim B fr)) R:=by
 rw[eW];refine(Gw h D).mono ?_;rintro w (⟨h1,rfl⟩|⟨h1,rfl⟩)
 .exact G h1
 .exact hr h1
theorem tF {m:Option Bool} {P:Prop} {n:Int} {k:Nat} (h:cg m P) (B:n=((k+1:Nat):Int)):Wp (m.bind λx=>bg x (some (.n n)) (some (.r ()))) λw:Fw Int Unit Unit=>P/\w=.n ((k+1:Nat):Int)\/¬P/\w=.r ():=by
 obtain⟨b,t,h⟩:=h;rw[t,ζb]
 cases b with
 | true=>exact(a_ _).2 (.inl ⟨h.1 rfl,by rw[B]⟩)
 | false=>exact(a_ _).2 (.inr ⟨λq=>(nomatch h.2 q),rfl⟩)
theorem IG {b:Bool} {P:Prop} {n:Int} {k:Nat} (h:b=true↔P) (B:n=((k+1:Nat):Int)):Wp (bg b (some (.n n)) (some (.r ()))) λw:Fw Int Unit Unit=>P/\w=.n ((k+1:Nat):Int)\/¬P/\w=.r ():=by
 cases b with
 | true=>exact(a_ _).2 (.inl ⟨h.1 rfl,by rw[B]⟩)
 | false=>exact(a_ _).2 (.inr ⟨λq=>(nomatch h.2 q),rfl⟩)
theorem LC {b:Bool} {P:Prop} {n:Int} {k:Nat} (h:b=true↔¬P) (B:n=((k+1:Nat):Int)):Wp (bg b (some (.r ())) (some (.n n))) λw:Fw Int Unit Unit=>P/\w=.n ((k+1:Nat):Int)\/¬P/\w=.r ():=by
 cases b with
 | true=>exact(a_ _).2 (.inr ⟨h.1 rfl,rfl⟩)
 | false=>exact(a_ _).2 (.inl ⟨Classical.byContradiction λq=>(nomatch h.2 q),by rw[B]⟩)
def bS (a b:List Int):Prop:=a.length=b.length/\∀(p:Nat) (x y:Int),a[p]? = some x->b[p]? = some y->x<=y
theorem Tu {a b:List Int} (B:a.length=b.length):(∀i,i<a.length->∀x y,a[i]? = some x->b[i]? = some y->x<=y)↔bS a b:=
 ⟨λh=>⟨B,λp x y q t=>h p (ζe.1 q).1 x y q t⟩,λh i _ x y q t=>h.2 i x y q t⟩
theorem CS {a b:Sl Int} (J:a.l.length<1073741824) {step:Int->Option (Fw Int Unit Unit)}
 (G:∀i,step i=bg (decide (i<len a)) ((idx a i).bind λB=>(idx b i).bind λD=>bg (decide (B>D)) (some (.r ())) (some (.n (IntKind.wrap .i64 (i+1))))) (some (.x ()))) :
 cg (bg ((len a)==(len b)) ((bG step 0).bind (Fw.elim (λ_=>some true) (λ_=>some false))) (some false)) (bS a.l b.l):=by
 by_cases t:a.l.length=b.l.length
 .rw[show ((len a)==(len b))=true from by simp[len,t],bF]
  refine(mJ (n:=a.l.length) (P:=λi=>∀x y,a.l[i]? = some x->b.l[i]? = some y->x<=y) ?_ ?_).iff (Tu t)
  .intro i q _;have u:i<b.l.length:=by omega
   rw[G,fh q,bF,bB q,ζb,bB u,ζb];refine LC ?_ (bY i (by omega))
   rw[decide_eq_true_eq];constructor
   .intro h k;have:=k _ _ (ζd q) (ζd u);omega
   .intro h;refine Classical.byContradiction λA=>h λx y w z=>?_
    rw[ζd q]at w;rw[ζd u]at z;cases w;cases z;omega
  .intro _;rw[G,fe,bK]
 .rw[show ((len a)==(len b))=false from by simp[len];omega,bK]
  exact gL ⟨λe=>(nomatch e),λh=>absurd h.1 t⟩
theorem zc {a b:Sl Int} (B:a.l.length<1073741824):cg (iM a b) (bS a.l b.l):=CS B λi=>rfl
theorem Dp {a b:Sl Int} (B:a.l.length<1073741824):cg (eA a b) (bS a.l b.l):=CS B λi=>rfl
theorem BH {a b:Sl Int} (B:a.l.length<1073741824):cg (dQ a b) (a.l=b.l):=by
 by_cases t:a.l.length=b.l.length
 .unfold dQ;rw[show ((len a)==(len b))=true from by simp[len,t],bF]
  unfold dQ.W1;refine(mJ (n:=a.l.length) (P:=λi=>a.l[i]? = b.l[i]?) ?_ ?_).iff ?_
  .intro i q _;have u:i<b.l.length:=by omega
   unfold dQ.bf;rw[fh q,bF,bB q,ζb,bB u,ζb];refine IG ?_ (bY i (by omega))
   rw[ζd q,ζd u];simp
  .intro _;unfold dQ.bf;rw[fe,bK]
  .constructor
   .intro h;refine List.ext_getElem? λi=>?_
    by_cases q:i<a.l.length
    .exact h i q
    .rw[List.getElem?_eq_none (by omega),List.getElem?_eq_none (by omega)]
   .intro h i _;rw[h]
 .unfold dQ;rw[show ((len a)==(len b))=false from by simp[len];omega,bK]
  exact gL ⟨λe=>(nomatch e),λh=>absurd (by rw[h]) t⟩
theorem JO {a b:Sl Int} (B:a.l.length<1073741824):cg (dR a b) (a.l=b.l):=by
 rw[ND B];exact gL (by simp)
section
variable {t:Trace} {A:b7 200 bt}
theorem JU (B:Small t) (hv:dc t=some true) (D:VT t) (G:eu t (bU t) A) (c:Sl Int):cg (kj t c) (Cons t A c.l):=by
 obtain⟨r,hr,h⟩:=Nk B hv D G c;unfold kj;rw[hr,ζb];exact gL (by rw[beq_iff_eq,h];exact Iff.rfl)
theorem EZ (B:Small t) (hv:eB t=some true) (D:VT t) (G:eu t (bU t) A) (c:Sl Int):cg (fW t c) (Cons t A c.l):=by
 unfold fW w8;rw[hv,ζb,bF,ζb,ζb]
 by_cases q:c.l.length=t.procs.l.length
 .rw[show (len c==len t.procs)=true from by simp[len,q],bF]
  have hr:cg (l_ t c) (iy t c.l):=GW B q λi=>rfl
  refine cg.and (P:=iy t c.l) (Q:=kX t A c.l) (n:=eX t c) (cg.some hr) (λC=>?_) (f:=λu=>(bg u ((eX t c).bind λw=>some w) (some false):Option Bool).bind λz=>some z) (λb=>by cases b <;> simp[bg])
  exact Ja B D G C
 .rw[show (len c==len t.procs)=false from by simp[len];omega]
  exact gL ⟨λe=>(nomatch e),λh=>absurd h.1.1 q⟩
end
end Go.VE
namespace Go.VE
def nth (l:List Int) (p:Nat):Int:=(l[p]?).getD 0
def dA (t:Trace) (p:Nat):Nat:=((t.procs.l[p]?).map λP=>P.events.l.length).getD 0
theorem iw {l:List Int} {p:Nat} (h:p<l.length):nth l p=l[p]:=by unfold nth;rw[ζd h];rfl
theorem jK {t:Trace} {p:Nat} (h:p<t.procs.l.length):dA t p=t.procs.l[p].events.l.length:=by unfold dA;rw[ζd h];rfl
section
variable {t:Trace} {A:b7 200 bt}
def me (g:Int->Int->Int) (a b c:List Int):Prop:=c.length=a.length/\∀(p:Nat) (x y:Int),a[p]? = some x->b[p]? = some y->c[p]? = some (g x y)
def fC (x y:Int):Int:=if y>x then y else x
def BD (x y:Int):Int:=if y<x then y else x
theorem me.of (g:Int->Int->Int) {a b:List Int} (h:a.length=b.length):me g a b (List.zipWith g a b):=
 ⟨by simp[h],λp x y q t=>by rw[List.getElem?_zipWith,q,t]⟩
theorem me.at_ {g:Int->Int->Int} {a b c:List Int} (h:me g a b c) (D:a.length=b.length) {p:Nat} {z:Int} (B:c[p]? = some z):∃x y,a[p]? = some x/\b[p]? = some y/\z=g x y:=by
 have q:p<a.length:=by rw[<-h.1];exact(ζe.1 B).1
 refine⟨a[p],b[p]'(by omega),ζd q,ζd (by omega),?_⟩
 have:=h.2 p _ _ (ζd q) (ζd (show p<b.length by omega))
 rw[B]at this;cases this;rfl
theorem gz (x y:Int):(fC x y=x/\y<=x)\/(fC x y=y/\x<=y):=by unfold fC;split <;> omega
theorem Df (x y:Int):(BD x y=x/\x<=y)\/(BD x y=y/\y<=x):=by unfold BD;split <;> omega
theorem join_cons {a b c:List Int} (B:Cons t A a) (D:Cons t A b) (h:me fC a b c):Cons t A c:=by
 have I:a.length=b.length:=B.1.1.trans D.1.1.symm;refine⟨⟨h.1.trans B.1.1,λp z P w J=>?_⟩,λp k e z L w hk q=>?_⟩
 .obtain⟨x,y,C,G,rfl⟩:=h.at_ I w;have h1:=B.1.2 p x P C J;have S:=D.1.2 p y P G J;rcases gz x y with⟨e,_⟩|⟨e,_⟩ <;> rw[e] <;> assumption
 .obtain⟨x,y,C,G,rfl⟩:=h.at_ I w;rcases gz x y with⟨O,_⟩|⟨O,_⟩ <;> rw[O]at hk
  .obtain⟨u,hu,H⟩:=B.2 p k e x L C hk q;have Q:=(ζe.1 hu).1;have hv:=ζd (show (ag A e.message).from_.proc.toNat<b.length by omega)
   exact⟨_,h.2 _ _ _ hu hv,by rcases gz u b[(ag A e.message).from_.proc.toNat]with⟨e2,_⟩|⟨e2,_⟩ <;> rw[e2] <;> omega⟩
  .obtain⟨u,hu,H⟩:=D.2 p k e y L G hk q;have Q:=(ζe.1 hu).1;have hv:=ζd (show (ag A e.message).from_.proc.toNat<a.length by omega)
   exact⟨_,h.2 _ _ _ hv hu,by rcases gz a[(ag A e.message).from_.proc.toNat] u with⟨e2,_⟩|⟨e2,_⟩ <;> rw[e2] <;> omega⟩
theorem bS.trans {a b c:List Int} (h:bS a b) (k:bS b c):bS a c:=by
 refine⟨h.1.trans k.1,λp x z q t=>?_⟩
 have u:p<b.length:=by rw[<-h.1];exact(ζe.1 q).1
 have e:=ζd u;exact Int.le_trans (h.2 p x _ q e) (k.2 p _ z e t)
theorem bS.refl (a:List Int):bS a a:=⟨rfl,λp x y t q=>by rw[t]at q;cases q;exact Int.le_refl _⟩
theorem me.le_max {a b c:List Int} (h:me fC a b c) (B:a.length=b.length):bS a c/\bS b c/\∀d,bS a d->bS b d->bS c d:=by
 refine⟨⟨h.1.symm,λp x z A q=>?_⟩,⟨B.symm.trans h.1.symm,λp y z C q=>?_⟩,λd D H=>⟨h.1.trans D.1,λp z w q G=>?_⟩⟩
 .obtain⟨I,y,t,C,rfl⟩:=h.at_ B q;rw[A]at t;cases t;rcases gz x y with⟨e2,_⟩|⟨e2,_⟩ <;> rw[e2] <;> omega
 .obtain⟨x,J,A,u,rfl⟩:=h.at_ B q;rw[C]at u;cases u;rcases gz x y with⟨e2,_⟩|⟨e2,_⟩ <;> rw[e2] <;> omega
 .obtain⟨x,y,A,C,rfl⟩:=h.at_ B q;have h1:=D.2 p x w A G;have L:=H.2 p y w C G;rcases gz x y with⟨e2,_⟩|⟨e2,_⟩ <;> rw[e2] <;> assumption
theorem me.le_min {a b c:List Int} (h:me BD a b c) (B:a.length=b.length):bS c a/\bS c b/\∀d,bS d a->bS d b->bS d c:=by
 refine⟨⟨h.1,λp z x q A=>?_⟩,⟨h.1.trans B,λp z y q C=>?_⟩,λd D H=>⟨D.1.trans h.1.symm,λp w z G q=>?_⟩⟩
 .obtain⟨I,y,t,C,rfl⟩:=h.at_ B q;rw[A]at t;cases t;rcases Df x y with⟨e2,_⟩|⟨e2,_⟩ <;> rw[e2] <;> omega
 .obtain⟨x,J,A,u,rfl⟩:=h.at_ B q;rw[C]at u;cases u;rcases Df x y with⟨e2,_⟩|⟨e2,_⟩ <;> rw[e2] <;> omega
 .obtain⟨x,y,A,C,rfl⟩:=h.at_ B q;have h1:=D.2 p w x G A;have L:=H.2 p w y G C;rcases Df x y with⟨e2,_⟩|⟨e2,_⟩ <;> rw[e2] <;> assumption
theorem bS.nth {a b:List Int} (h:bS a b) {p:Nat} (B:p<a.length):nth a p<=nth b p:=by
 rw[iw B,iw (by rw[<-h.1];exact B)]
 exact h.2 p _ _ (ζd B) (ζd (by rw[<-h.1];exact B))
theorem me.nth {g:Int->Int->Int} {a b c:List Int} (h:me g a b c) (D:a.length=b.length) {p:Nat} (B:p<a.length):Go.VE.nth c p=g (Go.VE.nth a p) (Go.VE.nth b p):=by
 rw[iw B,iw (show p<b.length by omega)]
 have:=h.2 p _ _ (ζd B) (ζd (show p<b.length by omega))
 unfold Go.VE.nth;rw[this];rfl
end
end Go.VE
namespace Go.VE
def sX (s:Slice) (p:Nat):Nat:=((s.j.l[p]?).map λr=>r.l.length).getD 0
def el (s:Slice) (p i:Nat):List Int:=match s.j.l[p]? with
 | some r=>match r.l[i]? with
  | some c=>c.l
  | none=>[]
 | none=>[]
theorem lY {s:Slice} {p:Nat} (h:p<s.j.l.length):sX s p=s.j.l[p].l.length:=by unfold sX;rw[ζd h];rfl
def oe (t:Trace) (A:b7 200 bt) (s:Slice) (p i:Nat):Prop:=
 (nth s.last.l p<=(i:Int)/\(el s p i).length=0)\/((i:Int)<nth s.last.l p/\(((i:Int)<nth s.first.l p/\el s p i=s.first.l)\/(nth s.first.l p<=(i:Int)/\Cons t A (el s p i)/\(i:Int)<nth (el s p i) p/\bS s.first.l (el s p i)/\bS (el s p i) s.last.l)))
def tC (s:Slice) (c:List Int):Prop:=∀p,p<c.length->∀i:Nat,(i:Int)<nth c p->bS (el s p i) c
def xk (t:Trace) (A:b7 200 bt) (s:Slice):Prop:=((((Cons t A s.first.l/\Cons t A s.last.l)/\bS s.first.l s.last.l)/\s.j.l.length=t.procs.l.length)/\∀p,p<t.procs.l.length->sX s p=dA t p)
def lF (t:Trace) (A:b7 200 bt) (s:Slice):Prop:=
 (xk t A s/\∀p,p<t.procs.l.length->∀i,i<dA t p->oe t A s p i)/\∀p,p<t.procs.l.length->∀i:Nat,(i:Int)<nth s.last.l p->tC s (el s p i)
def Fu (s:Slice):Prop:=(s.first.l.length=0/\s.last.l.length=0)/\s.j.l.length=0
def jO (t:Trace) (A:b7 200 bt) (s:Slice):Prop:=s.empty=true/\Fu s\/s.empty=false/\lF t A s
def fE (s:Slice) (c:List Int):Prop:=((s.empty=false/\bS s.first.l c)/\bS c s.last.l)/\tC s c
structure kM (s:Slice):Prop where
 f:s.first.l.length<=60
 l:s.last.l.length<=60
 j:s.j.l.length<=60
 r:∀r∈s.j.l,r.l.length<=60/\∀c∈r.l,c.l.length<=60
section
variable {t:Trace} {A:b7 200 bt} {s:Slice}
theorem eM {c:List Int} (h:Cons t A c) {p:Nat} (B:p<t.procs.l.length):0<=nth c p/\nth c p<=dA t p:=by
 have hc:p<c.length:=by rw[h.1.1];exact B
 rw[iw hc,jK B];exact h.1.2 p _ _ (ζd hc) (ζd B)
theorem Dw {p i:Nat} (B:p<s.j.l.length) (D:i<sX s p) (G:kM s):∃c,mw s ⟨p,((i+1:Nat):Int)⟩=some c/\c.l=el s p i/\c.l.length<=60:=by
 rw[lY B]at D;have hr:=(G.r _ (List.getElem_mem B));refine⟨s.j.l[p].l[i],?_,?_,hr.2 _ (List.getElem_mem D)⟩
 .unfold mw;dsimp only;rw[bB B,ζb,qQ _ (by omega) (by omega),show ((i+1:Nat):Int)-1=(i:Int)from by omega,bB D,ζb]
 .unfold el;rw[ζd B];dsimp only;rw[ζd D]
theorem yI {c:Sl Int} {f:aY->Option Bool} {g:Nat->Nat->Prop} (hc:c.l.length<1073741824) (B:∀p,p<c.l.length->nth c.l p<1073741824)
 (h:∀p,p<c.l.length->∀i:Nat,(i:Int)<nth c.l p->cg (f ⟨p,((i+1:Nat):Int)⟩) (g p i)):cg (eR c f) (∀p,p<c.l.length->∀i:Nat,(i:Int)<nth c.l p->g p i):=by
 unfold eR eR.W1;refine mJ (n:=c.l.length) ?_ ?_
 .intro p u _;unfold eR.bf;rw[fh u,bF,bB u,ζb];unfold eR.W2;have w:=iw u;have B:=B p u;rw[w]at B
  by_cases h0:c.l[p]<=0
  .refine vt (n:=0) (P:=λ_=>True) (λi t=>absurd t (by omega)) (λ_=>?_) (λ_=>?_) (λk=>absurd (λi t=>absurd t (by omega)) k)
   .unfold eR.bO;rw[show decide (((0:Nat):Int)<c.l[p])=false from by simp;omega,bK]
   .exact(a_ _).2 (.inl ⟨λi t=>by rw[w]at t;omega,by rw[bY p (by omega)]⟩)
  .obtain⟨k,hk⟩:∃k:Nat,c.l[p]=(k:Int):=⟨c.l[p].toNat,by omega⟩
   have e:(∀i,i<k->g p i)↔∀i:Nat,(i:Int)<nth c.l p->g p i:=by
    rw[w,hk];exact⟨λh i t=>h i (by omega),λh i t=>h i (by omega)⟩
   refine vt (n:=k) (P:=g p) (λi t _=>?_) (λ_=>?_) (λq=>?_) (λq=>?_)
   .unfold eR.bO;rw[show decide ((i:Int)<c.l[p])=true from by simp;omega,bF,bY i (by omega)]
    exact tF (h p u i (by rw[w];omega)) rfl
   .unfold eR.bO;rw[show decide ((k:Int)<c.l[p])=false from by simp;omega,bK]
   .exact(a_ _).2 (.inl ⟨e.1 q,by rw[bY p (by omega)]⟩)
   .exact(a_ _).2 (.inr ⟨λz=>q (e.2 z),rfl⟩)
 .intro _;unfold eR.bf;rw[fe,bK]
theorem Bz {c:Sl Int} {p i:Nat} (B:p<c.l.length):pQ ⟨p,((i+1:Nat):Int)⟩ c=some (decide ((i:Int)<nth c.l p)):=by
 unfold pQ;rw[bB B,ζb,iw B];exact congrArg some (decide_eq_decide.2 (by dsimp only;omega))
theorem HC (O:Small t) (hv:dc t=some true) (U:VT t) (W:eu t (bU t) A) (D:kM s) (Y:xk t A s) {p i:Nat} (B:p<t.procs.l.length) (hi:i<dA t p) :
 cg (tW t s ⟨p,((i+1:Nat):Int)⟩) (oe t A s p i):=by
 obtain⟨⟨⟨⟨h1,L⟩,h3⟩,h4⟩,S⟩:=Y;obtain⟨c,hc,z,T⟩:=Dw (s:=s) (p:=p) (i:=i) (by omega) (by rw[S p B];exact hi) D
 have X:p<s.last.l.length:=by rw[L.1.1];exact B
 have Z:p<s.first.l.length:=by rw[h1.1.1];exact B
 have aa:=D.f;have ab:=D.l;unfold tW;rw[hc,ζb,Bz X,ζb];unfold oe;rw[<-z]
 by_cases q:(i:Int)<nth s.last.l p
 .rw[decide_eq_true q,bF,Bz Z,ζb]
  by_cases u:(i:Int)<nth s.first.l p
  .rw[decide_eq_true u,bF];refine((JO (a:=c) (b:=s.first) (by omega)).some).iff ?_
   exact⟨λh=>.inr ⟨q,.inl ⟨u,h⟩⟩,λh=>by rcases h with h|⟨_,h|h⟩ <;> first|exact h.2|omega⟩
  .rw[decide_eq_false u,bK];have k1:=JU O hv U W c;have k2:=cg.and (Q:=(i:Int)<nth c.l p) k1 (n:=pQ ⟨p,((i+1:Nat):Int)⟩ c) (λhC=>by rw[Bz (by rw[hC.1.1];exact B)];exact gL (by simp)) (f:=λC=>(bg C ((pQ ⟨p,((i+1:Nat):Int)⟩ c).bind λG=>some G) (some false):Option Bool)) (λb=>rfl)
   have k3:=cg.and k2 (Q:=bS s.first.l c.l) (n:=iM s.first c) (λ_=>zc (by omega)) (f:=λH=>(bg H ((iM s.first c).bind λI=>some I) (some false):Option Bool)) (λb=>rfl)
   have k4:=cg.and k3 (Q:=bS c.l s.last.l) (n:=iM c s.last) (λ_=>zc (by omega)) (f:=λJ=>(bg J ((iM c s.last).bind λw=>some w) (some false):Option Bool)) (λb=>rfl)
   have k5:=k4.some;simp only[Option.bind_assoc]at k5 ⊢;refine k5.iff ?_;exact⟨λ⟨⟨⟨a,b⟩,d⟩,e⟩=>.inr ⟨q,.inr ⟨by omega,a,b,d,e⟩⟩,λh=>by rcases h with h|⟨_,h|⟨_,a,b,d,e⟩⟩ <;> first|exact⟨⟨⟨a,b⟩,d⟩,e⟩|omega⟩
 .rw[decide_eq_false q,bK];refine gL ?_;rw[beq_iff_eq];simp only[len];exact⟨λh=>.inl ⟨by omega,by omega⟩,λh=>by rcases h with h|h <;> omega⟩
theorem GS (J:Small t) (hv:dc t=some true) (O:VT t) (U:eu t (bU t) A) (B:kM s):cg (iG t s) (xk t A s):=by
 have S:=B.f;have T:=B.l;have W:=B.j;unfold iG;have k1:=JU J hv O U s.first
 have k2:=cg.OF k1 (Q:=Cons t A s.last.l) (λ_=>JU J hv O U s.last) (f:=λC=>(bg C ((kj t s.last).bind λD=>some (!D)) (some true):Option Bool)) (λb=>rfl)
 have k3:=cg.Pq k2 (Q:=bS s.first.l s.last.l) (λ_=>zc (a:=s.first) (b:=s.last) (by omega)) (f:=λG=>(bg G (some true) ((iM s.first s.last).bind λH=>some (!H)):Option Bool)) (λb=>rfl)
 have k4:=cg.LS k3 (Q:=s.j.l.length=t.procs.l.length) (b:=((len s.j)==(len t.procs))) (λ_=>by rw[beq_iff_eq];simp only[len];omega) (f:=λI=>(bg I (some true) (some (!((len s.j)==(len t.procs)))):Option Bool)) (λb=>rfl)
 simp only[Option.bind_assoc]at k4 ⊢;obtain⟨b,L,h⟩:=k4;simp only[<-Option.bind_assoc]at L ⊢;rw[L,ζb]
 cases b with
 | true=>exact gL ⟨λe=>(nomatch e),λq=>absurd q.1 (h.1 rfl)⟩
 | false=>
  have z:((Cons t A s.first.l/\Cons t A s.last.l)/\bS s.first.l s.last.l)/\s.j.l.length=t.procs.l.length:=Classical.byContradiction λq=>(nomatch h.2 q)
  rw[bK];unfold iG.W1;refine(mJ (n:=s.j.l.length) (P:=λp=>sX s p=dA t p) ?_ ?_).iff ?_
  .intro p u _;have w:p<t.procs.l.length:=by rw[<-z.2];exact u
   unfold iG.bf;rw[fh u,bF,bB u,ζb,bB w,ζb];refine IG ?_ (bY p (by omega))
   rw[beq_iff_eq,lY u,jK w];simp only[len];omega
  .intro _;unfold iG.bf;rw[fe,bK]
  .exact⟨λq=>⟨z,λp u=>q p (by rw[z.2];exact u)⟩,λq p u=>q.2 p (by rw[<-z.2];exact u)⟩
theorem MX (D:Small t) (B:VT t):∃c,gP t=some c/\c.l.length=t.procs.l.length/\∀p,p<t.procs.l.length->nth c.l p=dA t p:=by
 have A:=B.few;unfold gP gP.W1;refine eT (P:=λc:Sl Int=>c.l.length=t.procs.l.length/\∀p,p<t.procs.l.length->nth c.l p=dA t p) t.procs.l.length (λi (s:Sl Int×Int)=>s.2=(i:Int)/\s.1.l.length=i/\∀p,p<i->nth s.1.l p=dA t p) ⟨rfl,rfl,λp z=>absurd z (by omega)⟩ ?_ ?_
 .rintro i ⟨o,_⟩ w ⟨e,h1,q⟩;simp only at e h1 q;subst e;unfold gP.bf;rw[fh w,bF,bB w,ζb];obtain⟨r,hr,u⟩:=mB (s:=o) (x:=len t.procs.l[i].events) (by omega)
  rw[hr,ζb,a_];refine⟨bY i (by omega),by rw[u];simp[h1],λp z=>?_⟩
  show nth r.l p=_;rw[u]
  by_cases e:p=i
  .subst e;unfold nth;rw[List.getElem?_append_right (by omega),h1,Nat.sub_self,jK w];rfl
  .unfold nth;rw[List.getElem?_append_left (by omega)]
   exact q p (by omega)
 .rintro⟨o,_⟩ ⟨e,h1,q⟩;simp only at e h1 q;subst e;unfold gP.bf;rw[fe,bK,a_];exact(a_ _).2 ⟨h1,q⟩
theorem BQ (B:xk t A s) (h:∀p,p<t.procs.l.length->∀i,i<dA t p->oe t A s p i) {p i:Nat} (D:p<t.procs.l.length) (G:(i:Int)<nth s.last.l p):i<dA t p/\Cons t A (el s p i):=by
 have u:=eM B.1.1.1.2 D;have q:i<dA t p:=by omega
 refine⟨q,?_⟩;rcases h p D i q with k|⟨_,k|k⟩
 .omega
 .rw[k.2];exact B.1.1.1.1
 .exact k.2.1
theorem SU (O:Small t) (hv:dc t=some true) (U:VT t) (hM:eu t (bU t) A) (W:kM s):cg (oI t s) (jO t A s):=by
 have h8:=U.few;have H:∀p,p<t.procs.l.length->dA t p<1073741824:=λp u=>by rw[jK u];exact(O.2 _ (List.getElem_mem u)).1
 unfold oI;rw[hv,ζb,bF]
 cases he:s.empty with
 | true=>
  rw[bF];have k1:=cg.I_ (m:=some (len s.first==0)) (P:=s.first.l.length=0) (gL (by rw[beq_iff_eq];simp only[len];omega)) (b:=(len s.last==0)) (Q:=s.last.l.length=0) (λ_=>by rw[beq_iff_eq];simp only[len];omega) (f:=λx=>(bg x (some (len s.last==0)) (some false):Option Bool)) (λb=>rfl)
  have k2:=cg.I_ k1 (b:=(len s.j==0)) (Q:=s.j.l.length=0) (λ_=>by rw[beq_iff_eq];simp only[len];omega) (f:=λx=>(bg x (some (len s.j==0)) (some false):Option Bool)) (λb=>rfl)
  rw[ζb]at k2;have k:=(cg.some k2).iff (Q:=jO t A s) (by unfold jO Fu;rw[he];simp)
  rw[Option.bind_assoc]at k;exact k
 | false=>
  rw[bK];have k1:=GS O hv U hM W;obtain⟨c,hc,T,B⟩:=MX O U;have k2:=cg.OF k1 (Q:=∀p,p<t.procs.l.length->∀i,i<dA t p->oe t A s p i) (n:=(gP t).bind λI=>eR I (λz=>nG z t s)) (λhs=>by
   rw[hc,ζb];refine(yI (g:=oe t A s) (by omega) (λp u=>by rw[B p (by omega)];have:=H p (by omega);omega) (λp u i J=>?_)).iff ?_
   .rw[B p (by omega)]at J
    exact(HC O hv U hM W hs (by omega) (by omega)).some
   .rw[T];constructor
    .intro h p u i J;exact h p u i (by rw[B p u];omega)
    .intro h p u i J;exact h p u i (by rw[B p u]at J;omega)) (f:=λX=>(bg X ((gP t).bind λI=>(eR I (λz=>nG z t s)).bind λY=>some (!Y)) (some true):Option Bool)) (λb=>by simp only[Option.bind_assoc])
  obtain⟨b,hb,h⟩:=k2;rw[<-Option.bind_assoc,hb,ζb];have D:jO t A s↔lF t A s:=by unfold jO;rw[he];simp
  cases b with
  | true=>exact gL ⟨λe=>(nomatch e),λq=>absurd (D.1 q).1 (h.1 rfl)⟩
  | false=>
   have G:xk t A s/\∀p,p<t.procs.l.length->∀i,i<dA t p->oe t A s p i:=Classical.byContradiction λq=>(nomatch h.2 q)
   have hl:s.last.l.length=t.procs.l.length:=G.1.1.1.1.2.1.1;have hj:s.j.l.length=t.procs.l.length:=G.1.1.2;rw[bK];refine((yI (g:=λp i=>tC s (el s p i)) (by omega) (λp u=>?_) (λp u i J=>?_)).some).iff ?_
   .have:=eM G.1.1.1.1.2 (p:=p) (by omega);have:=H p (by omega);omega
   .obtain⟨Z,S⟩:=BQ G.1 G.2 (p:=p) (by omega) J
    obtain⟨d,hd,C,ab⟩:=Dw (s:=s) (p:=p) (i:=i) (by omega) (by rw[G.1.2 p (by omega)];exact Z) W
    unfold qf;rw[hd,ζb];refine(yI (g:=λq k=>bS (el s q k) (el s p i)) (by omega) (λq L=>?_) (λq L k hk=>?_)).some |>.iff ?_
    .rw[C]at L ⊢;have w:q<t.procs.l.length:=by rw[<-S.1.1];exact L
     have:=eM S w;have:=H q w;omega
    .rw[C]at L hk;have w:q<t.procs.l.length:=by rw[<-S.1.1];exact L
     have:=eM S w;unfold nh;obtain⟨y,hy,aa,ad⟩:=Dw (s:=s) (p:=q) (i:=k) (by omega) (by rw[G.1.2 q w];omega) W
     rw[hy,ζb,<-aa,<-C];exact(zc (by omega)).some
    .rw[C];exact Iff.rfl
   .rw[D,hl];exact⟨λq=>⟨G,q⟩,λq=>q.2⟩
end
end Go.VE
namespace Go.VE
section
variable {t:Trace} {A:b7 200 bt} {s:Slice}
theorem BF {p i:Nat} (B:p<s.j.l.length) (D:i<sX s p) (G:kM s):∃r c,idx s.j (p:Int)=some r/\idx r (i:Int)=some c/\c.l=el s p i/\c.l.length<=60:=by
 rw[lY B]at D;have hr:=(G.r _ (List.getElem_mem B));refine⟨s.j.l[p],s.j.l[p].l[i],bB B,bB D,?_,hr.2 _ (List.getElem_mem D)⟩;unfold el;rw[ζd B];dsimp only;rw[ζd D]
theorem Oa (U:Small t) (hv:eB t=some true) (W:VT t) (Y:eu t (bU t) A) (D:kM s) (h1:Cons t A s.first.l) (h2:Cons t A s.last.l) {p i:Nat} (G:p<t.procs.l.length) (hj:p<s.j.l.length) (hi:i<sX s p) :
 cg (pW t s p i) (oe t A s p i):=by
 obtain⟨r,c,hr,hc,C,S⟩:=BF hj hi D;have L:p<s.last.l.length:=by rw[h2.1.1];exact G
 have O:p<s.first.l.length:=by rw[h1.1.1];exact G
 have T:=D.f;have X:=D.l;unfold pW;rw[hr,ζb,hc,ζb,bB L,ζb,<-iw L];unfold oe;rw[<-C]
 by_cases w:(i:Int)<nth s.last.l p
 .rw[show decide ((i:Int)>=nth s.last.l p)=false from by simp;omega,bK,bB O,ζb,<-iw O]
  by_cases u:(i:Int)<nth s.first.l p
  .rw[decide_eq_true u,bF];refine((BH (a:=c) (b:=s.first) (by omega)).some).iff ?_
   exact⟨λh=>.inr ⟨w,.inl ⟨u,h⟩⟩,λh=>by rcases h with h|⟨_,h|h⟩ <;> first|exact h.2|omega⟩
  .rw[decide_eq_false u,bK];have k1:=EZ U hv W Y c;have k2:=cg.and k1 (Q:=(i:Int)<nth c.l p) (n:=(idx c p).bind λq=>some (decide (q>(i:Int)))) (λZ=>by
    have z:p<c.l.length:=by rw[Z.1.1];exact G
    rw[bB z,ζb,<-iw z];exact gL (by simp)) (f:=λH=>(bg H ((idx c p).bind λq=>some (decide (q>(i:Int)))) (some false):Option Bool)) (λb=>by simp only[Option.bind_assoc,ζb])
   have k3:=cg.and k2 (Q:=bS s.first.l c.l) (n:=eA s.first c) (λ_=>Dp (by omega)) (f:=λq=>(bg q ((eA s.first c).bind λI=>some I) (some false):Option Bool)) (λb=>rfl)
   have k4:=cg.and k3 (Q:=bS c.l s.last.l) (n:=eA c s.last) (λ_=>Dp (by omega)) (f:=λJ=>(bg J ((eA c s.last).bind λB=>some B) (some false):Option Bool)) (λb=>rfl)
   have k5:=k4.some;simp only[Option.bind_assoc]at k5 ⊢;refine k5.iff ?_;exact⟨λ⟨⟨⟨a,b⟩,d⟩,e⟩=>.inr ⟨w,.inr ⟨by omega,a,b,d,e⟩⟩,λh=>by rcases h with h|⟨_,h|⟨_,a,b,d,e⟩⟩ <;> first|exact⟨⟨⟨a,b⟩,d⟩,e⟩|omega⟩
 .rw[show decide ((i:Int)>=nth s.last.l p)=true from by simp;omega,bF]
  refine gL ?_;rw[beq_iff_eq];simp only[len];exact⟨λh=>.inl ⟨by omega,by omega⟩,λh=>by rcases h with h|h <;> omega⟩
theorem DG {γ:Type} {step:Int->Option (Fw Int Unit Unit)} {n:Int} {P:Nat->Prop} {B:Unit->Option γ} {fr:Unit->Option γ} {R:γ->Prop} (h:∀i:Nat,(i:Int)<n->(∀j,j<i->P j)->Wp (step (i:Int)) λw=>P i/\w=.n ((i+1:Nat):Int)\/¬P i/\w=.r ()) (D:∀i:Nat,n<=(i:Int)->step (i:Int)=some (.x ()))
 (G:(∀i:Nat,(i:Int)<n->P i)->Wp (B ()) R) (hr:(¬∀i:Nat,(i:Int)<n->P i)->Wp (fr ()) R):Wp ((bG step 0).bind (Fw.elim B fr)) R:=by
 have e:(∀i,i<n.toNat->P i)↔∀i:Nat,(i:Int)<n->P i:=⟨λh i t=>h i (by omega),λh i t=>h i (by omega)⟩
 exact vt (n:=n.toNat) (P:=P) (λi t u=>h i (by omega) u) (λ_=>D _ (by omega)) (λq=>G (e.1 q)) (λq=>hr λk=>q (e.2 k))
theorem yP (D:kM s) {c:Sl Int} (hc:c.l.length<=60) (B:∀p,p<c.l.length->nth c.l p<1073741824) (h:∀p,p<c.l.length->p<s.j.l.length/\∀i:Nat,(i:Int)<nth c.l p->i<sX s p):cg (dW s c) (tC s c.l):=by
 unfold dW dW.W1;refine mJ (n:=c.l.length) (P:=λp=>∀i:Nat,(i:Int)<nth c.l p->bS (el s p i) c.l) ?_ ?_
 .intro p t _;have w:=iw t;have B:=B p t;obtain⟨z,hr⟩:=h p t;unfold dW.bf;rw[fh t,bF];unfold dW.W2;refine DG (n:=nth c.l p) (P:=λi=>bS (el s p i) c.l) (λi u _=>?_) (λi u=>?_) (λq=>?_) (λq=>?_)
  .unfold dW.bO;obtain⟨r,d,h1,A,C,G⟩:=BF z (hr i u) D;rw[bB t,ζb,<-w,decide_eq_true u,bF,h1,ζb,A,ζb,<-C];exact tF (Dp (by omega)) (bY i (by omega))
  .unfold dW.bO;rw[bB t,ζb,<-w,decide_eq_false (by omega),bK]
  .exact(a_ _).2 (.inl ⟨q,by rw[bY p (by omega)]⟩)
  .exact(a_ _).2 (.inr ⟨q,rfl⟩)
 .intro _;unfold dW.bf;rw[fe,bK]
theorem KX (U:Small t) (hv:eB t=some true) (W:VT t) (Y:eu t (bU t) A) (J:kM s):cg (cH t s) (jO t A s):=by
 have h8:=W.few;have af:=J.f;have ah:=J.l;have ai:=J.j;have L:∀p,p<t.procs.l.length->dA t p<1073741824:=λp w=>by rw[jK w];exact(U.2 _ (List.getElem_mem w)).1
 unfold cH;rw[hv,ζb,bF]
 cases he:s.empty with
 | true=>
  rw[bF];have k1:=cg.I_ (m:=some (len s.first==0)) (P:=s.first.l.length=0) (gL (by rw[beq_iff_eq];simp only[len];omega)) (b:=(len s.last==0)) (Q:=s.last.l.length=0) (λ_=>by rw[beq_iff_eq];simp only[len];omega) (f:=λx=>(bg x (some (len s.last==0)) (some false):Option Bool)) (λb=>rfl)
  have k2:=cg.I_ k1 (b:=(len s.j==0)) (Q:=s.j.l.length=0) (λ_=>by rw[beq_iff_eq];simp only[len];omega) (f:=λx=>(bg x (some (len s.j==0)) (some false):Option Bool)) (λb=>rfl)
  rw[ζb]at k2;have k:=(cg.some k2).iff (Q:=jO t A s) (by unfold jO Fu;rw[he];simp)
  rw[Option.bind_assoc]at k;exact k
 | false=>
  rw[bK];have z:jO t A s↔lF t A s:=by unfold jO;rw[he];simp
  have k1:=EZ U hv W Y s.first
  have k2:=cg.OF k1 (Q:=Cons t A s.last.l) (λ_=>EZ U hv W Y s.last) (f:=λT=>(bg T ((fW t s.last).bind λX=>some (!X)) (some true):Option Bool)) (λb=>rfl)
  have k3:=cg.Pq k2 (Q:=bS s.first.l s.last.l) (λ_=>Dp (a:=s.first) (b:=s.last) (by omega)) (f:=λZ=>(bg Z (some true) ((eA s.first s.last).bind λaa=>some (!aa)):Option Bool)) (λb=>rfl)
  have k4:=cg.LS k3 (Q:=s.j.l.length=t.procs.l.length) (b:=((len s.j)==(len t.procs))) (λ_=>by rw[beq_iff_eq];simp only[len];omega) (f:=λab=>(bg ab (some true) (some (!((len s.j)==(len t.procs)))):Option Bool)) (λb=>rfl)
  simp only[Option.bind_assoc]at k4 ⊢;obtain⟨b,hb,h⟩:=k4;simp only[<-Option.bind_assoc]at hb ⊢;rw[hb,ζb]
  cases b with
  | true=>exact gL ⟨λe=>(nomatch e),λq=>absurd (z.1 q).1.1.1 (h.1 rfl)⟩
  | false=>
   have C:((Cons t A s.first.l/\Cons t A s.last.l)/\bS s.first.l s.last.l)/\s.j.l.length=t.procs.l.length:=Classical.byContradiction λq=>(nomatch h.2 q)
   have hl:s.last.l.length=t.procs.l.length:=C.1.1.2.1.1;rw[bK];unfold cH.W1;refine vt (n:=s.j.l.length) (P:=λp=>sX s p=dA t p/\∀i,i<dA t p->oe t A s p i) (R:=λb=>b=true↔jO t A s) ?_ ?_ ?_ ?_
   .intro p w _;have u:p<t.procs.l.length:=by rw[<-C.2];exact w
    unfold cH.bf;rw[fh w,bF,bB w,ζb,bB u,ζb]
    by_cases I:sX s p=dA t p
    .rw[show (len s.j.l[p]==len t.procs.l[p].events)=true from by rw[beq_iff_eq];simp only[len];rw[lY w,jK u]at I;omega,bF]
     unfold cH.W2;have ae:=J.r _ (List.getElem_mem w);refine vt (n:=sX s p) (P:=oe t A s p) ?_ ?_ ?_ ?_
     .intro i D _;unfold cH.bO;rw[bB w,ζb,show decide ((i:Int)<len s.j.l[p])=true from fh (by rw[<-lY w];exact D),bF]
      exact tF (Oa U hv W Y J C.1.1.1 C.1.1.2 u w D) (bY i (by rw[lY w]at D;omega))
     .intro _;unfold cH.bO;rw[bB w,ζb,lY w,fe,bK]
     .intro q;exact(a_ _).2 (.inl ⟨⟨I,λi D=>q i (by rw[I];exact D)⟩,by rw[bY p (by omega)]⟩)
     .intro q;exact(a_ _).2 (.inr ⟨λk=>q λi D=>k.2 i (by rw[<-I];exact D),rfl⟩)
    .rw[show (len s.j.l[p]==len t.procs.l[p].events)=false from by rw[beq_eq_false_iff_ne];simp only[len];rw[lY w,jK u]at I;omega,bK]
     exact(a_ _).2 (.inr ⟨λk=>I k.1,rfl⟩)
   .intro _;unfold cH.bf;rw[fe,bK]
   .intro q;have G:xk t A s:=⟨C,λp w=>(q p (by rw[C.2];exact w)).1⟩
    have O:∀p,p<t.procs.l.length->∀i,i<dA t p->oe t A s p i:=λp w=>(q p (by rw[C.2];exact w)).2
    unfold cH.W3;refine(mJ (n:=s.j.l.length) (P:=λp=>∀i:Nat,(i:Int)<nth s.last.l p->tC s (el s p i)) ?_ ?_).iff ?_
    .intro p w _;have u:p<t.procs.l.length:=by rw[<-C.2];exact w
     have H:p<s.last.l.length:=by rw[hl];exact u
     have aj:=eM C.1.1.2 u;have ak:=L p u;unfold cH.dh;rw[fh w,bF];unfold cH.W4;refine DG (n:=nth s.last.l p) (P:=λi=>tC s (el s p i)) (λi D _=>?_) (λi D=>?_) (λq=>?_) (λq=>?_)
     .unfold cH.kT;obtain⟨ad,S⟩:=BQ G O u D;obtain⟨r,d,g1,g2,g3,g4⟩:=BF (s:=s) (p:=p) (i:=i) w (by rw[G.2 p u];exact ad) J
      rw[bB H,ζb,<-iw H,decide_eq_true D,bF,g1,ζb,g2,ζb];rw[<-g3]at S;refine tF ?_ (bY i (by omega))
      rw[<-g3];refine yP J g4 (λk hk=>?_) (λk hk=>?_)
      .have B:k<t.procs.l.length:=by rw[<-S.1.1];exact hk
       have:=eM S B;have:=L k B;omega
      .have B:k<t.procs.l.length:=by rw[<-S.1.1];exact hk
       have:=eM S B;exact⟨by rw[C.2];exact B,λi D=>by rw[G.2 k B];omega⟩
     .unfold cH.kT;rw[bB H,ζb,<-iw H,decide_eq_false (by omega),bK]
     .exact(a_ _).2 (.inl ⟨q,by rw[bY p (by omega)]⟩)
     .exact(a_ _).2 (.inr ⟨q,rfl⟩)
    .intro _;unfold cH.dh;rw[fe,bK]
    .rw[z,C.2];exact⟨λk=>⟨⟨G,O⟩,k⟩,λk=>k.2⟩
   .intro q;refine(a_ _).2 ⟨λe=>(nomatch e),λk=>absurd (λp w=>?_) q⟩
    have u:p<t.procs.l.length:=by rw[<-C.2];exact w
    exact⟨(z.1 k).1.1.2 p u,(z.1 k).1.2 p u⟩
theorem VY (U:Small t) (hv:eB t=some true) (W:VT t) (hM:eu t (bU t) A) (Y:kM s) (hs:jO t A s) (c:Sl Int) (B:c.l.length<=60):cg (sC t s c) (Cons t A c.l/\fE s c.l):=by
 have h8:=W.few;have X:=Y.f;have z:∀p,p<t.procs.l.length->dA t p<1073741824:=λp w=>by rw[jK w];exact(U.2 _ (List.getElem_mem w)).1
 unfold sC;have k1:cg ((bg s.empty (some false) ((fW t c).bind λC=>some C):Option Bool)) (s.empty=false/\Cons t A c.l):=by
  cases S:s.empty with
  | true=>exact gL ⟨λe=>(nomatch e),λq=>(nomatch q.1)⟩
  | false=>exact((EZ U hv W hM c).some).iff ⟨λq=>⟨rfl,q⟩,λq=>q.2⟩
 have k2:=cg.and k1 (Q:=bS s.first.l c.l) (n:=eA s.first c) (λ_=>Dp (by omega)) (f:=λD=>(bg D ((eA s.first c).bind λG=>some G) (some false):Option Bool)) (λb=>rfl)
 have k3:=cg.and k2 (Q:=bS c.l s.last.l) (n:=eA c s.last) (λH=>Dp (by omega)) (f:=λI=>(bg I ((eA c s.last).bind λJ=>some J) (some false):Option Bool)) (λb=>rfl)
 have k4:=cg.and k3 (Q:=tC s c.l) (n:=dW s c) (λH=>by
  have hc:=H.1.1.2;have S:=H.1.1.1;rcases hs with⟨u,_⟩|⟨_,T⟩
  .rw[S]at u;cases u
  have Z:=hc.1.1;refine yP Y B (λp w=>?_) (λp w=>⟨?_,λi hi=>?_⟩)
  .have:=eM hc (p:=p) (by omega);have:=z p (by omega);omega
  .rw[T.1.1.1.2];omega
  .have:=eM hc (p:=p) (by omega)
   rw[T.1.1.2 p (by omega)];omega) (f:=λL=>(bg L ((dW s c).bind λO=>some O) (some false):Option Bool)) (λb=>rfl)
 have k5:=k4.some;simp only[Option.bind_assoc]at k5 ⊢;refine k5.iff ?_;unfold fE;exact⟨λ⟨⟨⟨⟨a,b⟩,d⟩,e⟩,f⟩=>⟨b,⟨⟨a,d⟩,e⟩,f⟩,λ⟨b,⟨⟨a,d⟩,e⟩,f⟩=>⟨⟨⟨⟨a,b⟩,d⟩,e⟩,f⟩⟩
end
end Go.VE
namespace Go.VE
theorem EF {s:Sl (Sl (Sl Int))} {p:Sl (Sl Int)->Option Bool} {f:Sl (Sl Int)->Bool} (B:∀x∈s.l,p x=some (f x)) (D:s.l.length<1073741824):jI s p=some (s.l.any f):=by
 have h:fJ s p=some (place f s.l):=nM B (by omega) (λi=>rfl)
 unfold jI;rw[h,ζb,o4]
structure Nt (s:Slice):Prop where
 j:s.j.l.length<1073741824
 r:∀r∈s.j.l,r.l.length<1073741824
section
variable {t:Trace} {s:Slice}
theorem JZ (hv:eB t=some false):cH t s=some false:=by unfold cH;rw[hv];rfl
end
end Go.VE
namespace Go.VE
section
variable {t:Trace} {A:b7 200 bt} {s:Slice}
theorem NW {a b c:List Int} (B:fE s a) (D:fE s b) (G:a.length=b.length) (h:me fC a b c):fE s c:=by
 obtain⟨k1,k2,k3⟩:=h.le_max G;refine⟨⟨⟨B.1.1.1,B.1.1.2.trans k1⟩,k3 _ B.1.2 D.1.2⟩,λp u i t=>?_⟩
 have q:p<a.length:=by rw[<-h.1];exact u
 rw[h.nth G q]at t;rcases gz (nth a p) (nth b p)with⟨e,_⟩|⟨e,_⟩ <;> rw[e]at t
 .exact(B.2 p q i t).trans k1
 .exact(D.2 p (by omega) i t).trans k2
end
end Go.VE
namespace Go.VE
section
variable {t:Trace} {A:b7 200 bt} {s:Slice}
theorem Lo (B:lF t A s) (D:s.empty=false):fE s s.first.l:=by
 obtain⟨⟨⟨⟨⟨h1,C⟩,u⟩,G⟩,H⟩,z⟩:=B.1;refine⟨⟨⟨D,bS.refl _⟩,u⟩,λp w i I=>?_⟩
 have q:p<t.procs.l.length:=by rw[<-h1.1.1];exact w
 have k1:=bS.nth u w;have k2:=eM h1 q;rcases z p q i (by omega)with k|⟨_,k|k⟩
 .omega
 .rw[k.2];exact bS.refl _
 .omega
theorem N_ (B:lF t A s) (D:s.empty=false):fE s s.last.l:=by
 obtain⟨⟨⟨⟨⟨h1,u⟩,w⟩,G⟩,H⟩,z⟩:=B.1;refine⟨⟨⟨D,w⟩,bS.refl _⟩,λp C i I=>?_⟩
 have q:p<t.procs.l.length:=by rw[<-u.1.1];exact C
 have k2:=eM u q;rcases z p q i (by omega)with k|⟨_,k|k⟩
 .omega
 .rw[k.2];exact w
 .exact k.2.2.2.2
theorem uf (B:lF t A s) (G:s.empty=false) {p i:Nat} (D:p<t.procs.l.length) (J:(i:Int)<nth s.last.l p):fE s (el s p i)/\(i:Int)<nth (el s p i) p/\Cons t A (el s p i):=by
 obtain⟨⟨⟨⟨⟨h1,q⟩,w⟩,z⟩,C⟩,u⟩:=B.1;have k2:=eM q D;rcases u p D i (by omega)with k|⟨_,k|k⟩
 .omega
 .rw[k.2];exact⟨Lo B G,k.1,h1⟩
 .exact⟨⟨⟨⟨G,k.2.2.2.1⟩,k.2.2.2.2⟩,B.2 p D i J⟩,k.2.2.1,k.2.1⟩
end
end Go.VE
namespace Go.VE
theorem iN {a b:List Int}:bS a b↔a.length=b.length/\∀p,p<a.length->nth a p<=nth b p:=by
 constructor
 .intro h;exact⟨h.1,λp t=>h.nth t⟩
 .rintro⟨h,k⟩;refine⟨h,λp x y q u=>?_⟩
  have:=k p (ζe.1 q).1;unfold nth at this;rw[q,u]at this;exact this
theorem bS.anti {a b:List Int} (h:bS a b) (k:bS b a):a=b:=by
 refine List.ext_getElem h.1 λp q t=>?_
 have h1:=h.nth q;have u:=k.nth t;rw[iw q,iw t]at h1 u;omega
section
variable {t:Trace} {A:b7 200 bt} {U:List Int->Prop} {b:Slice}
structure sO (t:Trace) (A:b7 200 bt) (U:List Int->Prop) (b:Slice):Prop where
 e:b.empty=false
 f:U b.first.l
 mn:∀u,U u->bS b.first.l u
 j:b.j.l.length=t.procs.l.length
 rows:∀p,p<t.procs.l.length->sX b p=dA t p
 elm:∀p,p<t.procs.l.length->∀i,i<dA t p->(el b p i=[]/\∀u,U u->nth u p<=(i:Int))\/(U (el b p i)/\(i:Int)<nth (el b p i) p/\∀u,U u->(i:Int)<nth u p->bS (el b p i) u)
 lc:Cons t A b.last.l
 lf:bS b.first.l b.last.l
 le:∀p,p<t.procs.l.length->∀i,i<dA t p->U (el b p i)->bS (el b p i) b.last.l
 la:∀p,p<t.procs.l.length->∃v,U v/\nth b.last.l p=nth v p
theorem sO.up (h:sO t A U b) (B:∀u,U u->Cons t A u) {u:List Int} (hu:U u):bS u b.last.l:=by
 have w:=B _ hu;refine iN.2 ⟨w.1.1.trans h.lc.1.1.symm,λp C=>?_⟩
 have q:p<t.procs.l.length:=by rw[<-w.1.1];exact C
 have h1:=eM w q;have D:=eM h.lc q;refine Classical.byContradiction λG=>?_
 have z:(nth u p-1).toNat<dA t p:=by omega
 rcases h.elm p q _ z with⟨_,k⟩|⟨k1,k2,k3⟩
 .have:=k u hu;omega
 .have H:=(h.le p q _ z k1).nth (p:=p) (by rw[(B _ k1).1.1];exact q)
  omega
theorem sO.Dl (h:sO t A U b) {p i:Nat} (B:p<t.procs.l.length) (D:(i:Int)<nth b.last.l p):i<dA t p/\U (el b p i)/\(i:Int)<nth (el b p i) p/\∀u,U u->(i:Int)<nth u p->bS (el b p i) u:=by
 have z:=eM h.lc B;have q:i<dA t p:=by omega
 obtain⟨v,hv,w⟩:=h.la p B;rcases h.elm p B i q with⟨_,k⟩|k
 .have:=k v hv;omega
 .exact⟨q,k⟩
theorem sO.form (h:sO t A U b) (D:∀u,U u->Cons t A u):lF t A b:=by
 have I:=D _ h.f;refine⟨⟨⟨⟨⟨⟨I,h.lc⟩,h.lf⟩,h.j⟩,h.rows⟩,λp w i z=>?_⟩,λp w i z q J k hk=>?_⟩
 .by_cases C:(i:Int)<nth b.last.l p
  .obtain⟨_,k1,k2,k3⟩:=h.Dl w C;refine .inr ⟨C,?_⟩
   by_cases G:(i:Int)<nth b.first.l p
   .exact .inl ⟨G,(k3 _ h.f G).anti (h.mn _ k1)⟩
   .exact .inr ⟨by omega,D _ k1,k2,h.mn _ k1,h.le p w i z k1⟩
  .refine .inl ⟨by omega,?_⟩
   rcases h.elm p w i z with⟨k,_⟩|⟨k1,k2,_⟩
   .rw[k];rfl
   .have:=(h.le p w i z k1).nth (p:=p) (by rw[(D _ k1).1.1];exact w)
    omega
 .obtain⟨_,k1,k2,k3⟩:=h.Dl w z;have H:=D _ k1;have B:q<t.procs.l.length:=by rw[<-H.1.1];exact J
  have:=eM H B;rcases h.elm q B k (by omega)with⟨_,m⟩|⟨_,_,m⟩
  .have:=m _ k1;omega
  .exact m _ k1 hk
theorem sO.valid (h:sO t A U b) (B:∀u,U u->Cons t A u):jO t A b:=.inr ⟨h.e,h.form B⟩
theorem cover (W:∀u,U u->Cons t A u) (Y:∀u v w,U u->U v->me fC u v w->U w) {c J:List Int} (hl:c.length=t.procs.l.length) (h0:U J) (O:bS J c)
 (h:∀p,p<t.procs.l.length->0<nth c p->∃u,U u/\bS u c/\nth c p<=nth u p):U c:=by
 have key:∀k,k<=t.procs.l.length->∃u,U u/\bS u c/\∀p,p<k->nth c p<=nth u p:=by
  intro k
  induction k with
  | zero=>exact λ_=>⟨J,h0,O,λp D=>absurd D (by omega)⟩
  | succ k I=>
   intro hk;obtain⟨u,h1,B,G⟩:=I (by omega)
   by_cases D:0<nth c k
   .obtain⟨v,g1,g2,g3⟩:=h k (by omega) D
    have z:u.length=v.length:=B.1.trans g2.1.symm;have H:=me.of fC z;obtain⟨L,Q,S⟩:=H.le_max z;refine⟨_,Y u v _ h1 g1 H,S c B g2,λp C=>?_⟩
    rcases Nat.lt_or_eq_of_le (Nat.lt_succ_iff.1 C)with q|rfl
    .exact Int.le_trans (G p q) (L.nth (by rw[B.1];omega))
    .exact Int.le_trans g3 (Q.nth (by rw[g2.1];omega))
   .refine⟨u,h1,B,λp C=>?_⟩
    rcases Nat.lt_or_eq_of_le (Nat.lt_succ_iff.1 C)with q|rfl
    .exact G p q
    .have:=eM (W u h1) (p:=p) (by omega);omega
 obtain⟨u,h1,B,G⟩:=key _ (Nat.le_refl _);have:u=c:=B.anti (iN.2 ⟨B.1.symm,λp D=>G p (by omega)⟩)
 exact this▸h1
theorem sO.has (h:sO t A U b) (D:∀u,U u->Cons t A u) (G:∀u v w,U u->U v->me fC u v w->U w) {c:List Int} (B:Cons t A c):fE b c↔U c:=by
 constructor
 .rintro⟨⟨⟨_,h1⟩,H⟩,I⟩;refine cover D G B.1.1 h.f h1 λp C J=>?_
  have q:p<c.length:=by rw[B.1.1];exact C
  have O:=H.nth q;obtain⟨_,k1,k2,_⟩:=h.Dl C (i:=(nth c p-1).toNat) (by omega)
  exact⟨_,k1,I p q _ (by omega),by omega⟩
 .intro hc;refine⟨⟨⟨h.e,h.mn _ hc⟩,h.up D hc⟩,λp C i L=>?_⟩
  have z:p<t.procs.l.length:=by rw[<-B.1.1];exact C
  have:=eM B z;rcases h.elm p z i (by omega)with⟨_,k⟩|⟨_,_,k⟩
  .have:=k _ hc;omega
  .exact k _ hc L
end
end Go.VE
namespace Go.VE
end Go.VE
namespace Go.VE
end Go.VE
namespace Go.VE
theorem zC {t:Trace} (B:VT t) {A:b7 200 bt} (D:eu t (bU t) A):Cons t A (t.procs.l.map λP=>(P.events.l.length:Int)):=by
 refine⟨⟨by simp,λp a P u z=>?_⟩,λp k e a w u hk C=>?_⟩
 .rw[List.getElem?_map,z]at u;cases u;constructor <;> simp
 .obtain⟨q,j,y,G,_,_,_,_,H⟩:=xN B D w C;obtain⟨Q,I,J⟩:=G;have L:=(ζe.1 J).1;rw[H];refine⟨(Q.events.l.length:Int),?_,by simp only;omega⟩
  simp only[Int.toNat_natCast,List.getElem?_map,I,Option.map_some]
end Go.VE
namespace Go.VE
theorem gy {c:List Int} {q p:Nat} {v:Int} (B:p<c.length):nth (c.set q v) p=if p=q then v else nth c p:=by
 unfold nth
 by_cases e:p=q
 .subst e;rw[if_pos rfl,List.getElem?_set_self B];rfl
 .rw[if_neg e,List.getElem?_set_ne (Ne.symm e)]
theorem xo {c:List Int} {p:Nat} (B:p<c.length):c[p]? = some (nth c p):=by rw[iw B,ζd B]
section
variable {t:Trace} {A:b7 200 bt} {s:Slice}
theorem Dj (O:VT t) (U:eu t (bU t) A) {c:List Int} (G:Cons t A c):∀(n:Nat) {d:List Int},Cons t A d->d.sum=(n:Int) ->
 bS d c\/∃p,p<t.procs.l.length/\nth c p<nth d p/\Cons t A (c.set p (nth c p+1))
 | 0,d,B,W=>by
  refine .inl (iN.2 ⟨B.1.1.trans G.1.1.symm,λp D=>?_⟩)
  have:=Bl B.1.pos W p _ (xo D);have:=eM G (p:=p) (by rw[<-B.1.1];exact D)
  omega
 | n+1,d,B,W=>by
  obtain⟨q,b,C,h0,H⟩:=B.down O U (by omega)
  have I:=(ζe.1 C).1;have J:q<t.procs.l.length:=by rw[<-B.1.1];exact I
  have T:nth d q=b:=by unfold nth;rw[C];rfl
  rcases Dj O U G n H (by rw[qX C];omega)with h|⟨p,h1,u,X⟩
  .rw[iN]at h;obtain⟨L,h⟩:=h;rw[List.length_set]at L h
   by_cases hc:b<=nth c q
   .refine .inl (iN.2 ⟨L,λp D=>?_⟩)
    have:=h p D;rw[gy D]at this;split at this
    .rename_i e;subst e;omega
    .exact this
   .have h1:=h q I;rw[gy I,if_pos rfl]at h1;have Y:nth c q=b-1:=by omega
    refine .inr ⟨q,J,by omega,?_⟩
    have Z:me fC c d (c.set q (nth c q+1)):=by
     refine⟨by rw[List.length_set],λp x y Q S=>?_⟩
     have w:=(ζe.1 Q).1;have z:=(ζe.1 S).1;have e1:nth c p=x:=by unfold nth;rw[Q];rfl
     have e2:nth d p=y:=by unfold nth;rw[S];rfl
     rw[xo (by rw[List.length_set];exact w),gy w]
     have u:=h p z;rw[gy z]at u
     congr 1
     unfold fC;split
     .rename_i e;subst e;rw[if_pos (by omega)];omega
     .rename_i e;rw[if_neg e]at u;rw[if_neg (by omega)];omega
    exact join_cons G B Z
  .refine .inr ⟨p,h1,?_,X⟩;rw[gy (by rw[B.1.1];exact h1)]at u
   split at u
   .rename_i e;subst e;omega
   .exact u
theorem Cons.J8 {c:List Int} (B:Cons t A c):c.sum=(c.sum.toNat:Int):=by have:=B.1.sum;omega
theorem CY {c:List Int} (B:Cons t A c) {p:Nat} (D:p<t.procs.l.length) (h:Cons t A (c.set p (nth c p+1))):oL t A c (c.set p (nth c p+1)):=
 ⟨p,_,xo (by rw[B.1.1];exact D),rfl,h⟩
theorem oL.to {c d:List Int} (B:Cons t A c) (h:oL t A c d):∃p,p<t.procs.l.length/\d=c.set p (nth c p+1)/\Cons t A d:=by
 obtain⟨p,a,h1,q,u⟩:=h;have w:=(ζe.1 h1).1;have:nth c p=a:=by unfold nth;rw[h1];rfl
 exact⟨p,by rw[<-B.1.1];exact w,by rw[this];exact q,u⟩
theorem oL.le {c d:List Int} (B:Cons t A c) (h:oL t A c d):bS c d:=by
 obtain⟨p,w,rfl,_⟩:=h.to B;refine iN.2 ⟨by rw[List.length_set],λq u=>?_⟩
 rw[gy u];split
 .rename_i e;subst e;omega
 .omega
theorem Rx (G:VT t) (J:eu t (bU t) A) {c d:List Int} (B:Cons t A c) (D:Cons t A d) (h:bS c d) (O:c≠d):∃p,p<t.procs.l.length/\nth c p<nth d p/\oL t A c (c.set p (nth c p+1))/\bS (c.set p (nth c p+1)) d:=by
 rcases Dj G J B _ D D.J8 with k|⟨p,h1,w,z⟩
 .exact absurd (h.anti k) O
 .refine⟨p,h1,w,CY B h1 z,iN.2 ⟨by rw[List.length_set];exact h.1,λq u=>?_⟩⟩
  rw[List.length_set]at u;rw[gy u];split
  .rename_i e;subst e;omega
  .exact h.nth u
def kC (t:Trace):List Int:=t.procs.l.map λP=>(P.events.l.length:Int)
theorem qh {p:Nat} (B:p<t.procs.l.length):nth (kC t) p=dA t p:=by unfold nth kC;rw[List.getElem?_map,ζd B,jK B];rfl
theorem o6 {c:List Int} (B:Cons t A c):bS c (kC t):=
 iN.2 ⟨by rw[B.1.1];simp[kC],λp u=>by
  have q:p<t.procs.l.length:=by rw[<-B.1.1];exact u
  rw[qh q];exact(eM B q).2⟩
structure Ge (t:Trace) (A:b7 200 bt) (s:Slice) (own:Nat->Nat->List Int) (B:List Int):Prop where
 len:B.length=t.procs.l.length
 f:∀q,q<t.procs.l.length->nth s.first.l q<=nth B q
 up:∀p,p<t.procs.l.length->∀i,i<dA t p->∀q,q<t.procs.l.length->nth (own p i) q<nth (el s p i) q->nth (el s p i) q<=nth B q
 at_:∀q,q<t.procs.l.length->nth B q=nth s.first.l q\/∃p,p<t.procs.l.length/\∃i,i<dA t p/\nth (own p i) q<nth (el s p i) q/\nth (el s p i) q=nth B q
def Ku (t:Trace) (A:b7 200 bt) (own:Nat->Nat->List Int):Prop:=∀p,p<t.procs.l.length->∀i,i<dA t p->Cons t A (own p i)/\(i:Int)<nth (own p i) p/\∀u,Cons t A u->(i:Int)<nth u p->bS (own p i) u
theorem UP {own:Nat->Nat->List Int} {B:List Int} (Y:Ku t A own) (G:Ge t A s own B) (O:lF t A s) (U:s.empty=false) (W:s.last.l=kC t) {c:List Int} (D:Cons t A c) (h:bS B c):fE s c:=by
 have h1:Cons t A s.first.l:=O.1.1.1.1.1.1
 refine⟨⟨⟨U,iN.2 ⟨h1.1.1.trans D.1.1.symm,λp H=>?_⟩⟩,by rw[W];exact o6 D⟩,λp H i L=>?_⟩
 .have u:p<t.procs.l.length:=by rw[<-h1.1.1];exact H
  exact Int.le_trans (G.f p u) (h.nth (by rw[G.len];exact u))
 .have u:p<t.procs.l.length:=by rw[<-D.1.1];exact H
  have z:i<dA t p:=by have:=(eM D u).2;omega
  obtain⟨o1,o2,o3⟩:=Y p u i z;have I:=o3 c D L;obtain⟨_,_,C⟩:=uf O U u (i:=i) (by rw[W,qh u];omega)
  refine iN.2 ⟨C.1.1.trans D.1.1.symm,λq Q=>?_⟩
  have w:q<t.procs.l.length:=by rw[<-C.1.1];exact Q
  by_cases J:nth (own p i) q<nth (el s p i) q
  .exact Int.le_trans (G.up p u i z q w J) (h.nth (by rw[G.len];exact w))
  .have:=I.nth (p:=q) (by rw[o1.1.1];exact w)
   omega
theorem L7 {own:Nat->Nat->List Int} {B:List Int} (O:VT t) (U:eu t (bU t) A) (W:Ku t A own) (D:Ge t A s own B) {c:List Int} (G:Cons t A c) (J:fE s c) (h:∀d,oL t A c d->bS B d):bS B c:=by
 have u:=G.1.1;refine iN.2 ⟨D.len.trans u.symm,λq Q=>Classical.byContradiction λT=>?_⟩
 have w:q<t.procs.l.length:=by rw[<-D.len];exact Q
 have h1:=J.1.1.2.nth (p:=q) (by rw[J.1.1.2.1,u];exact w)
 rcases D.at_ q w with e|⟨p,C,i,S,X,Y⟩
 .omega
 .obtain⟨o1,o2,o3⟩:=W p C i S;have I:¬(i:Int)<nth c p:=λH=>by
   have z:=J.2 p (by rw[u];exact C) i H
   have:=z.nth (p:=q) (by rw[z.1,u];exact w)
   omega
  rcases Dj O U G _ o1 o1.J8 with k|⟨r,g1,g2,g3⟩
  .have:=k.nth (p:=p) (by rw[o1.1.1];exact C);omega
  .have L:=(h _ (CY G g1 g3)).nth (p:=q) (by rw[D.len];exact w)
   rw[gy (by rw[u];exact w)]at L
   split at L
   .rename_i e;subst e;omega
   .omega
structure Gz (t:Trace) (s:Slice) (B:List Int):Prop where
 len:B.length=t.procs.l.length
 f:bS s.first.l B
 up:∀p,p<t.procs.l.length->∀i,i<dA t p->∀q,q<t.procs.l.length->∀k,k<dA t q->(p≠q\/i≠k)->el s p i=el s q k->¬bS (el s p i) s.first.l->bS (el s p i) B
 at_:∀r,r<t.procs.l.length->nth B r=nth s.first.l r\/∃p,p<t.procs.l.length/\∃i,i<dA t p/\∃q,q<t.procs.l.length/\∃k,k<dA t q/\(p≠q\/i≠k)/\el s p i=el s q k/\nth (el s p i) r=nth B r
theorem QN {B:List Int} (G:Gz t s B) (Y:lF t A s) (he:s.empty=false) (hw:s.last.l=kC t) {c d:List Int} (U:Cons t A c) (J:fE s c) (hs:oL t A c d) (hd:fE s d) (h:bS B d):bS B c:=by
 have w:=U.1.1;obtain⟨r,hr,rfl,hD⟩:=hs.to U;refine iN.2 ⟨G.len.trans w.symm,λq T=>Classical.byContradiction λhn=>?_⟩
 have z:q<t.procs.l.length:=by rw[<-G.len];exact T
 have h1:=J.1.1.2.nth (p:=q) (by rw[J.1.1.2.1,w];exact z)
 have W:=h.nth (p:=q) T;rw[gy (by rw[w];exact z)]at W
 split at W
 .rename_i e;subst e;rcases G.at_ q z with e|⟨p,C,i,L,X,H,k,hk,I,D,O⟩
  .omega
  .have key:∀p,p<t.procs.l.length->∀i,i<dA t p->nth (el s p i) q=nth B q->bS (el s p i) B->p=q/\(i:Int)=nth c q:=by
    intro p C i L O u;obtain⟨_,g2,g3⟩:=uf Y he C (i:=i) (by rw[hw,qh C];omega)
    have g4:¬(i:Int)<nth c p:=λQ=>by
     have u:=J.2 p (by rw[w];exact C) i Q
     have:=u.nth (p:=q) (by rw[u.1,w];exact z)
     omega
    have g5:=(u.trans h).nth (p:=p) (by rw[g3.1.1];exact C)
    rw[gy (by rw[w];exact C)]at g5
    split at g5
    .rename_i e;subst e;exact⟨rfl,by omega⟩
    .omega
   have S:¬bS (el s p i) s.first.l:=λk=>by
    have:=k.nth (p:=q) (by rw[k.1,G.f.1,G.len];exact z)
    omega
   have u:=G.up p C i L X H k hk I D S;obtain⟨Z,a2⟩:=key p C i L O u;obtain⟨b1,b2⟩:=key X H k hk (by rw[<-D];exact O) (D▸u)
   subst Z;subst b1;rcases I with h|h
   .exact h rfl
   .omega
 .omega
theorem Og {P:Nat->Nat->Prop} {f:Nat->Nat->Nat} {p i:Nat} (h:P p i):∃p i,P p i/\∀q k,P q k->f p i<=f q k:=by
 have key:∀n p i,f p i<=n->P p i->∃p i,P p i/\∀q k,P q k->f p i<=f q k:=by
  intro n
  induction n with
  | zero=>exact λp i w t=>⟨p,i,t,λq k _=>by omega⟩
  | succ n z=>
   intro p i w t
   by_cases u:∃q k,P q k/\f q k<f p i
   .obtain⟨q,k,h1,C⟩:=u;exact z q k (by omega) h1
   .exact⟨p,i,t,λq k A=>Nat.le_of_not_lt λB=>u ⟨q,k,A,B⟩⟩
 exact key _ p i (Nat.le_refl _) h
theorem rS:∀{a b:List Int},bS a b->a.sum<=b.sum/\(a.sum=b.sum->a=b)
 | [],[],_=>⟨Int.le_refl _,λ_=>rfl⟩
 | [],_::_,h=>nomatch h.1
 | _::_,[],h=>nomatch h.1
 | x::a,y::b,h=>by
  have h0:=h.2 0 x y rfl rfl;obtain⟨h1,q⟩:=rS (a:=a) (b:=b) ⟨by simpa using h.1,λp u v hu hv=>h.2 (p+1) u v hu hv⟩
  simp only[List.sum_cons];refine⟨by omega,λe=>?_⟩
  have:x=y:=by omega
  rw[this,q (by omega)]
theorem UI {B:List Int} (hV:VT t) (hM:eu t (bU t) A) (hB:Gz t s B) (hF:lF t A s) (he:s.empty=false) (hw:s.last.l=kC t) {c:List Int} (D:Cons t A c) (hH:fE s c) (h:bS B c) (hn:c≠kC t):∃d,oL t A c d/\fE s d/\bS B d:=by
 have u:=D.1.1;have G:∀p,p<t.procs.l.length->∀i,i<dA t p->fE s (el s p i)/\(i:Int)<nth (el s p i) p/\Cons t A (el s p i):=λp C i S=>uf hF he C (by rw[hw,qh C];omega)
 obtain⟨O,H,h0,_⟩:=Rx hV hM D (zC hV hM) (o6 D) hn;have Z:=eM D H;rw[show nth (t.procs.l.map λP=>(P.events.l.length:Int)) O=dA t O from qh H]at h0
 obtain⟨p,i,⟨C,S,aa⟩,I⟩:=Og (P:=λp i=>p<t.procs.l.length/\i<dA t p/\nth c p<=(i:Int)) (f:=λp i=>(el s p i).sum.toNat) (p:=O) (i:=(nth c O).toNat) ⟨H,by omega,by omega⟩
 obtain⟨e1,e2,e3⟩:=G p C i S;have w:c.length=(el s p i).length:=u.trans e3.1.1.symm;have J:=me.of fC w;have Q:=join_cons D e3 J;have hS:=NW hH e1 w J;obtain⟨m1,m2,m3⟩:=J.le_max w;have one:∀q,q<t.procs.l.length->∀k:Nat,nth c q<=(k:Int)->(k:Int)<nth (el s p i) q->q=p/\k=i:=by
  intro q z k h1 h2;have hk:k<dA t q:=by have:=(eM e3 z).2;omega
  obtain⟨f1,f2,f3⟩:=G q z k hk;have T:=e1.2 q (by rw[e3.1.1];exact z) k h2
  have hs:=I q k ⟨z,hk,h1⟩;obtain⟨s1,s2⟩:=rS T;have U:el s q k=el s p i:=s2 (by have:=f3.J8;have:=e3.J8;omega)
  refine Classical.byContradiction λL=>?_
  have W:¬bS (el s p i) s.first.l:=λk'=>by
   have a:=(k'.trans hH.1.1.2).nth (p:=p) (by rw[e3.1.1];exact C)
   omega
  have a:=((hB.up p C i S q z k hk (by omega) U.symm W).trans h).nth (p:=p) (by rw[e3.1.1];exact C)
  omega
 have ab:=(eM D C).1;have ad:(i:Int)=nth c p:=by
  have:=(one p C (nth c p).toNat (by omega) (by omega)).2
  omega
 have X:List.zipWith fC c (el s p i)=c.set p (nth c p+1):=by
  refine(iN.2 ⟨Q.1.1.trans (by rw[List.length_set,u]),λq z=>?_⟩:bS _ _).anti (iN.2 ⟨by rw[List.length_set,u,Q.1.1],λq z=>?_⟩)
  .rw[Q.1.1]at z;rw[J.nth w (by rw[u];exact z),gy (by rw[u];exact z)]
   have ae:=(eM D z).1;split
   .rename_i e;subst e;rcases gz (nth c q) (nth (el s q i) q)with⟨e,_⟩|⟨e,_⟩
    .omega
    .rw[e];refine Classical.byContradiction λY=>?_
     have:=(one q z (nth c q+1).toNat (by omega) (by omega)).2
     omega
   .rename_i L;rcases gz (nth c q) (nth (el s p i) q)with⟨e,_⟩|⟨e,_⟩
    .omega
    .rw[e];refine Classical.byContradiction λY=>?_
     exact L (one q z (nth c q).toNat (by omega) (by omega)).1
  .rw[List.length_set,u]at z;rw[J.nth w (by rw[u];exact z),gy (by rw[u];exact z)]
   split
   .rename_i e;subst e;rcases gz (nth c q) (nth (el s q i) q)with⟨e,_⟩|⟨e,_⟩ <;> rw[e] <;> omega
   .rcases gz (nth c q) (nth (el s p i) q)with⟨e,_⟩|⟨e,_⟩ <;> rw[e] <;> omega
 exact⟨_,CY D C (X▸Q),X▸hS,h.trans (X▸m1)⟩
end
end Go.VE
namespace Go.VE
theorem Rh {a b:List Int} (B:a.length=b.length) (h:∀p,p<a.length->nth a p=nth b p):a=b:=by
 refine List.ext_getElem B λp q t=>?_
 have:=h p q;rw[iw q,iw t]at this;exact this
theorem As {g:Int->Int->Int} {a b:List Int} (B:a.length=b.length) {p:Nat} (D:p<a.length):nth (List.zipWith g a b) p=g (nth a p) (nth b p):=(me.of g B).nth B D
theorem Dr {s:Sl Int} {p:Nat} (B:p<s.l.length):Sl.get s p=some (nth s.l p):=xo B
theorem Ao {a b:Sl Int} (B:a.l.length=b.l.length) (h0:0<a.l.length) (D:a.l.length<1073741824):∃r,fV a b=some r/\r.l=List.zipWith fC a.l b.l:=by
 unfold fV;obtain⟨d,h1,C⟩:=sW (c:=a) (by omega) h0
 rw[h1,ζb];unfold fV.W1;refine eT b.l.length (λi (q:Sl Int×Int)=>q.2=(i:Int)/\q.1.l.length=a.l.length/\∀p,p<a.l.length->nth q.1.l p=if p<i then fC (nth a.l p) (nth b.l p)else nth a.l p) ⟨rfl,by rw[C],λp z=>by rw[C,if_neg (by omega)]⟩ ?_ ?_
 .rintro i ⟨o,v⟩ A ⟨rfl,u,t⟩;simp only at u t;unfold fV.bf;simp only;obtain⟨r,hr,w⟩:=put_eq (s:=o) (p:=i) (x:=fC (nth o.l i) (nth b.l i)) (by omega)
  rw[fh A,bF,bB A,ζb,qv (by omega),ζb,Dr (by omega),ζb,ζb,<-iw A]
  rw[show (if nth b.l i>nth o.l i then nth b.l i else nth o.l i)=fC (nth o.l i) (nth b.l i)from rfl,hr,ζb,a_];refine⟨bY i (by omega),by rw[w,List.length_set];exact u,λp z=>?_⟩
  rw[w,gy (by omega)]
  have:=t i (by omega)
  rw[if_neg (by omega)]at this
  by_cases e:p=i
  .subst e;rw[if_pos rfl,if_pos (by omega),this]
  .rw[if_neg e,t p z]
   by_cases e2:p<i
   .rw[if_pos e2,if_pos (by omega)]
   .rw[if_neg e2,if_neg (by omega)]
 .rintro⟨o,v⟩ ⟨rfl,u,t⟩;simp only at u t;unfold fV.bf;simp only;rw[fe,bK,a_];refine(a_ _).2 ?_;exact Rh (by simp[u,B]) λp z=>by rw[t p (by omega),if_pos (by omega),As B (by omega)]
theorem Pk {c:Sl Int} {p:Nat} {x:Int} (B:p<c.l.length) (D:c.l.length<1073741824):∃r,sE c (p:Int) x=some r/\r.l=c.l.set p (fC (nth c.l p) x):=by
 unfold sE;obtain⟨d,h1,q⟩:=sW (c:=c) (by omega) (by omega)
 rw[h1,ζb,qv (by rw[q];exact B),ζb,Dr (by rw[q];exact B),ζb,ζb]
 obtain⟨r,hr,t⟩:=put_eq (s:=d) (p:=p) (x:=fC (nth d.l p) x) (by rw[q];exact B)
 rw[show (if x>nth d.l p then x else nth d.l p)=fC (nth d.l p) x from rfl,hr,ζb];exact⟨r,rfl,by rw[t,q]⟩
section
variable {t:Trace} {A:b7 200 bt} {s:Slice}
theorem OK (B:Small t):∃r,gH t=some r/\r.l=kC t:=by
 unfold gH gH.W1;refine eT t.procs.l.length (λi (q:Sl Int×Int)=>q.2=(i:Int)/\q.1.l=(kC t).take i) ⟨rfl,rfl⟩ ?_ ?_
 .rintro i ⟨o,v⟩ w ⟨rfl,u⟩;simp only at u;unfold gH.bf;simp only;have C:o.l.length<=i:=by rw[u,List.length_take];omega
  obtain⟨r,hr,z⟩:=mB (s:=o) (x:=len t.procs.l[i].events) (by have:=B.1;omega)
  rw[fh w,bF,bB w,ζb,hr,ζb,a_];refine⟨bY i (by have:=B.1;omega),?_⟩
  have A:i<(kC t).length:=by simp[kC,w]
  rw[z,u,List.take_succ_eq_append_getElem A];simp[kC,len]
 .rintro⟨o,v⟩ ⟨rfl,u⟩;simp only at u;unfold gH.bf;simp only;rw[fe,bK,a_];refine(a_ _).2 ?_;rw[u,List.take_of_length_le (by simp[kC])]
theorem EP (D:Small t) (hv:dc t=some true) (G:VT t) (J:eu t (bU t) A) {c:Sl Int} (B:iy t c.l) :
 ∃r,nX t c=some r/\Cons t A r.l/\bS c.l r.l/\∀d,Cons t A d->bS c.l d->bS r.l d:=by
 obtain⟨r,hr,_,q,z,C⟩:=Ow D hv G J B;refine⟨r.1,by unfold nX;rw[hr];rfl,q,⟨B.1.trans q.1.1.symm,z⟩,λd w u=>⟨q.1.1.trans w.1.1.symm,C d w u.2⟩⟩
theorem pV {c:List Int} (B:c.length=t.procs.l.length):iy t c↔∀p,p<t.procs.l.length->0<=nth c p/\nth c p<=dA t p:=by
 constructor
 .intro h p q;have hc:=xo (c:=c) (p:=p) (by omega)
  have:=h.2 p _ _ hc (ζd q);rw[jK q];exact this
 .intro h;refine⟨B,λp a P w u=>?_⟩
  have q:=(ζe.1 u).1;have h1:=h p q;have e:nth c p=a:=by unfold nth;rw[w];rfl
  rw[jK q,e]at h1;rw[(ζe.1 u).2]at h1;exact h1
theorem FH {c:List Int} (B:iy t c) {p i:Nat} (D:p<t.procs.l.length) (G:i<dA t p):iy t (c.set p (fC (nth c p) ((i:Int)+1))):=by
 have u:=B.1;rw[pV (by rw[List.length_set];exact u)]
 intro q w;rw[gy (by omega)]
 have h1:=(pV u).1 B q w;split
 .rename_i e;subst e;rcases gz (nth c q) ((i:Int)+1)with⟨e,_⟩|⟨e,_⟩ <;> rw[e] <;> omega
 .exact h1
theorem IJ {c u:List Int} (B:c.length=u.length) {p:Nat} {x:Int} (D:p<c.length):bS (c.set p (fC (nth c p) x)) u↔bS c u/\x<=nth u p:=by
 rw[iN,iN];simp only[List.length_set,B,true_and];constructor
 .intro h;have h1:=h p (by omega)
  rw[gy D,if_pos rfl]at h1;rcases gz (nth c p) x with⟨e,_⟩|⟨e,_⟩
  .rw[e]at h1;refine⟨λq w=>?_,by omega⟩
   have t:=h q w;rw[gy (by omega)]at t
   split at t
   .rename_i e2;subst e2;exact h1
   .exact t
  .rw[e]at h1;refine⟨λq w=>?_,h1⟩
   have t:=h q w;rw[gy (by omega)]at t
   split at t
   .rename_i e2;subst e2;omega
   .exact t
 .rintro⟨h1,t⟩ q w;rw[gy (by omega)]
  split
  .rename_i e;subst e;have:=h1 q w;rcases gz (nth c q) x with⟨e,_⟩|⟨e,_⟩ <;> rw[e] <;> omega
  .exact h1 q w
theorem xJ {a b:List Int} (B:iy t a) (D:iy t b):iy t (List.zipWith fC a b):=by
 have u:a.length=b.length:=B.1.trans D.1.symm;rw[pV (by rw[List.length_zipWith,u,Nat.min_self];exact D.1)]
 intro p q;rw[As u (by rw[B.1];exact q)]
 have h1:=(pV B.1).1 B p q;have w:=(pV D.1).1 D p q;rcases gz (nth a p) (nth b p)with⟨e,_⟩|⟨e,_⟩ <;> rw[e] <;> assumption
theorem qu {a b u:List Int} (B:a.length=b.length):bS (List.zipWith fC a b) u↔bS a u/\bS b u:=by
 obtain⟨h1,q,t⟩:=(me.of fC B).le_max B;exact⟨λh=>⟨h1.trans h,q.trans h⟩,λh=>t u h.1 h.2⟩
theorem FO:iy t (List.replicate t.procs.l.length 0):=(pV (by simp)).2 λp q=>by unfold nth;rw[List.getElem?_replicate,if_pos q];exact⟨Int.le_refl _,by simp⟩
end
end Go.VE
namespace Go.VE
section
variable {t:Trace} {A:b7 200 bt} {U:List Int->Prop}
def Vn (U:List Int->Prop) (p i:Nat) (e:List Int):Prop:=(e=[]/\∀u,U u->nth u p<=(i:Int))\/(U e/\(i:Int)<nth e p/\∀u,U u->(i:Int)<nth u p->bS e u)
def De (U:List Int->Prop) (p:Nat) (l:Sl (Sl Int)) (n:Nat) (last:List Int):Prop:=l.l.length=n/\∀(i:Nat) (e:Sl Int),l.l[i]? = some e->Vn U p i e.l/\(U e.l->bS e.l last)
def Aj (t:Trace) (A:b7 200 bt) (U:List Int->Prop) (f last:List Int):Prop:=Cons t A last/\bS f last/\∀q,q<t.procs.l.length->∃v,U v/\nth last q=nth v q
theorem De.up {p n:Nat} {l:Sl (Sl Int)} {a b:List Int} (h:De U p l n a) (B:bS a b):De U p l n b:=⟨h.1,λi e q=>⟨(h.2 i e q).1,λhu=>((h.2 i e q).2 hu).trans B⟩⟩
def Jr (t:Trace) (U:List Int->Prop) (p1:Sl Int->Option (Sl Int×Bool)):Prop:=∀c:Sl Int,iy t c.l->(∃d,p1 c=some (d,true)/\U d.l/\bS c.l d.l/\∀u,U u->bS c.l u->bS d.l u)\/(p1 c=some (Sl.nil,false)/\∀u,U u->¬bS c.l u)
theorem Aj.join {f last d:List Int} (D:∀u,U u->Cons t A u) (h:Aj t A U f last) (B:U d):Aj t A U f (List.zipWith fC last d)/\bS last (List.zipWith fC last d)/\bS d (List.zipWith fC last d):=by
 obtain⟨h1,G,H⟩:=h;have w:last.length=d.length:=h1.1.1.trans (D d B).1.1.symm;obtain⟨z,I,_⟩:=(me.of fC w).le_max w;refine⟨⟨join_cons h1 (D d B) (me.of fC w),G.trans z,λq C=>?_⟩,z,I⟩
 rw[As w (by rw[h1.1.1];exact C)]
 rcases gz (nth last q) (nth d q)with⟨e,_⟩|⟨e,_⟩
 .rw[e];exact H q C
 .exact⟨d,B,e⟩
theorem zero_le {u:List Int} (hu:Cons t A u):bS (List.replicate t.procs.l.length 0) u:=iN.2 ⟨by rw[hu.1.1];exact List.length_replicate,λp w=>by
 have q:p<t.procs.l.length:=by simpa using w
 have:=(eM hu q).1;unfold nth at this ⊢;rw[List.getElem?_replicate,if_pos q];exact this⟩
theorem Ct (hS:Small t) (hV:VT t) (O:∀u,U u->Cons t A u) {p1:Sl Int->Option (Sl Int×Bool)} (hP:Jr t U p1) :
 ∃b,dP t p1=some b/\((b=⟨true,.nil,.nil,.nil⟩/\∀u,¬U u)\/sO t A U b):=by
 have ar:=hV.few;have aq:=hV.ok.one;unfold dP;have hz:kf (len t.procs) (0:Int)=some (.row (List.replicate t.procs.l.length 0)):=by
  unfold kf;rw[if_pos (by simp[len];omega)];simp[len]
 rw[hz,ζb];rcases hP (.row (List.replicate t.procs.l.length 0)) FO with⟨f,hf,fU,_,fm⟩|⟨hf,X⟩
 rotate_left
 .rw[hf,ζb,bK];exact⟨_,rfl,.inl ⟨rfl,λu hu=>X u hu (zero_le (O u hu))⟩⟩
 have C:=O _ fU;have H:∀u,U u->bS f.l u:=λu hu=>fm u hu (zero_le (O u hu))
 rw[hf,ζb,bF];obtain⟨g,hg,Y⟩:=sW (c:=f) (by rw[C.1.1];omega) (by rw[C.1.1];omega)
 rw[hg,ζb];unfold dP.W1;have ak:∀p,p<t.procs.l.length->dA t p<1073741824:=λp B=>by rw[jK B];exact(hS.2 _ (List.getElem_mem B)).1
 refine eT t.procs.l.length (λk (q:Int×Slice×Slice)=>q.1=(k:Int)/\q.2.2.empty=false/\q.2.2.first=f/\Aj t A U f.l q.2.2.last.l/\q.2.2.j.l.length=k/\∀p l,q.2.2.j.l[p]? = some l->De U p l (dA t p) q.2.2.last.l) ⟨rfl,rfl,rfl,⟨by rw[Y];exact C,by rw[Y];exact bS.refl _,λq _=>⟨f.l,fU,by rw[Y]⟩⟩,rfl,λp l h=>by simp[Sl.l]at h⟩ ?_ ?_
 .rintro k ⟨v,vb,o⟩ hk ⟨rfl,i1,i2,i3,i4,i5⟩;simp only at i1 i2 i3 i4 i5;unfold dP.bf;simp only;rw[fh hk,bF,bB hk,ζb];unfold dP.W2;have Q:t.procs.l[k].events.l.length=dA t k:=(jK hk).symm;refine eT (dA t k) (λi (q:Sl (Sl Int)×Int×Slice×Slice)=>q.2.1=(i:Int)/\De U k q.1 i q.2.2.2.last.l/\q.2.2.2.empty=false/\q.2.2.2.first=f/\Aj t A U f.l q.2.2.2.last.l/\q.2.2.2.j=o.j/\bS o.last.l q.2.2.2.last.l) ⟨rfl,⟨rfl,λi e h=>by simp[Sl.l]at h⟩,i1,i2,i3,rfl,bS.refl _⟩ ?_ ?_
  .rintro i ⟨l,v,al,o2⟩ S ⟨rfl,G,j2,j3,Z,T,j6⟩;simp only at G j2 j3 Z T j6;unfold dP.bO;simp only;have he:=ak k hk;rw[show (len t.procs.l[k].events)=((dA t k:Nat):Int)by simp[len,Q],show decide ((i:Int)<((dA t k:Nat):Int))=true by simpa using S,bF,bY i (by omega)]
   obtain⟨w,hw,ae⟩:=Pk (c:=f) (p:=k) (x:=((i+1:Nat):Int)) (by rw[C.1.1];exact hk) (by rw[C.1.1];omega)
   rw[hw,ζb];have am:iy t w.l:=by rw[ae];exact FH C.1 hk S
   have I:∀u,Cons t A u->(bS w.l u↔bS f.l u/\(i:Int)<nth u k):=λu hu=>by
    rw[ae,IJ (by rw[C.1.1,hu.1.1]) (by rw[C.1.1];exact hk)]
    constructor
    .rintro⟨a,b⟩;exact⟨a,by omega⟩
    .rintro⟨a,b⟩;exact⟨a,by omega⟩
   have af:l.l.length<2147483648:=by rw[G.1];omega
   rcases hP w am with⟨d,hd,dU,an,dm⟩|⟨hd,X⟩
   .rw[hd,ζb,bF];have L:=O _ dU;have J:o2.last.l.length=d.l.length:=Z.1.1.1.trans L.1.1.symm;obtain⟨r,hr,aa⟩:=Ao J (by rw[J,L.1.1];omega) (by rw[J,L.1.1];omega)
    rw[hr,ζb];unfold dP.J3;obtain⟨l',ab,D⟩:=mB (s:=l) (x:=d) af;rw[ab,ζb,a_];obtain⟨k1,k2,k3⟩:=Aj.join O Z dU;refine⟨bY i (by omega),⟨by rw[D];simp[G.1],λi' e z=>?_⟩,j2,j3,by rw[aa];exact k1,T,by rw[aa];exact j6.trans k2⟩
    simp only[aa];rw[D]at z
    by_cases ad:i'<l.l.length
    .rw[List.getElem?_append_left ad]at z;obtain⟨a,b⟩:=G.2 i' e z;exact⟨a,λhu=>(b hu).trans k2⟩
    .have:i'=i:=by
      have:=(ζe.1 z).1;simp at this;have:=G.1;omega
     subst this;have hj:=G.1;rw[<-hj,List.getElem?_concat_length]at z;cases z;exact⟨.inr ⟨dU,((I _ L).1 an).2,λu hu ah=>dm u hu ((I u (O u hu)).2 ⟨H u hu,ah⟩)⟩,λ_=>k3⟩
   .rw[hd,ζb,bK];unfold dP.J3;obtain⟨l',ab,D⟩:=mB (s:=l) (x:=(Sl.nil:Sl Int)) af;rw[ab,ζb,a_];refine⟨bY i (by omega),⟨by rw[D];simp[G.1],λi' e z=>?_⟩,j2,j3,Z,T,j6⟩
    rw[D]at z
    by_cases ad:i'<l.l.length
    .rw[List.getElem?_append_left ad]at z;exact G.2 i' e z
    .have:i'=i:=by
      have:=(ζe.1 z).1;simp at this;have:=G.1;omega
     subst this;have hj:=G.1;rw[<-hj,List.getElem?_concat_length]at z;cases z;refine⟨.inl ⟨rfl,λu hu=>?_⟩,λhu=>?_⟩
     .refine Classical.byContradiction λah=>X u hu ((I u (O u hu)).2 ⟨H u hu,by omega⟩)
     .have h0:(Sl.nil:Sl Int).l.length=t.procs.l.length:=(O _ hu).1.1;have:(Sl.nil:Sl Int).l.length=0:=rfl;omega
  .rintro⟨l,v,al,o2⟩ ⟨rfl,G,j2,j3,Z,T,j6⟩;simp only at G j2 j3 Z T j6;unfold dP.bO;simp only;rw[show (len t.procs.l[k].events)=((dA t k:Nat):Int)by simp[len,Q],show decide (((dA t k:Nat):Int)<((dA t k:Nat):Int))=false by simp,bK,a_]
   obtain⟨j',ao,W⟩:=mB (s:=o2.j) (x:=l) (by rw[T,i4];omega)
   show Wp ((gU o2.j l).bind _) _;rw[ao,ζb,a_];refine⟨bY k (by omega),j2,j3,Z,by rw[W,T];simp[i4],λp l2 B=>?_⟩
   rw[W,T]at B
   by_cases ap:p<o.j.l.length
   .rw[List.getElem?_append_left ap]at B;exact(i5 p l2 B).up j6
   .have:p=k:=by
     have:=(ζe.1 B).1;simp at this;omega
    subst this;rw[<-i4,List.getElem?_concat_length]at B;cases B;exact G
 .rintro⟨v,vb,o⟩ ⟨rfl,i1,i2,i3,i4,i5⟩;simp only at i1 i2 i3 i4 i5;unfold dP.bf;simp only;rw[fe,bK,a_];refine(a_ _).2 (.inr ?_);have row:∀p,p<t.procs.l.length->∃l,o.j.l[p]? = some l/\De U p l (dA t p) o.last.l:=λp B=>⟨_,ζd (by rw[i4];exact B),i5 p _ (ζd (by rw[i4];exact B))⟩
  have ai:∀p,p<t.procs.l.length->∀i,i<dA t p->Vn U p i (el o p i)/\(U (el o p i)->bS (el o p i) o.last.l):=λp B i S=>by
   obtain⟨l,h1,h2⟩:=row p B;have aj:i<l.l.length:=by rw[h2.1];exact S
   have:=h2.2 i _ (ζd aj);unfold el;rw[h1];simp only[ζd aj];exact this
  exact⟨i1,by rw[i2];exact fU,λu hu=>by rw[i2];exact H u hu,i4,λp B=>by
   obtain⟨l,h1,h2⟩:=row p B;unfold sX;rw[h1];exact h2.1,λp B i S=>(ai p B i S).1,i3.1,by rw[i2];exact i3.2.1,λp B i S=>(ai p B i S).2,i3.2.2⟩
end
end Go.VE
namespace Go.VE
section
variable {t:Trace} {A:b7 200 bt} {L:List Slice}
def uT (t:Trace) (A:b7 200 bt) (L:List Slice) (u:List Int):Prop:=Cons t A u/\∀s∈L,fE s u
structure Inv (t:Trace) (A:b7 200 bt) (L:List Slice) (ci c:List Int):Prop where
 r:iy t c
 le:bS ci c
 mn:∀u,uT t A L u->bS ci u->bS c u
def Pass (B c:List Int) (G:Bool) (D:Prop):Prop:=bS B c/\(G=true->B.sum<c.sum)/\(G=false->c=B/\D)
def OA (s:Slice) (c:List Int) (p:Nat):Prop:=∀i:Nat,(i:Int)<nth c p->bS (el s p i) c
def J5 (s:Slice) (c:List Int) (n:Nat):Prop:=bS c s.last.l/\∀p,p<n->OA s c p
theorem Q6 (hS:Small t) (hV:VT t) {l1:Sl Slice} (hL:∀s∈l1.l,s.empty=true\/lF t A s) (am:l1.l≠[]) (aw:l1.l.length<1073741824) {J:Sl Int} (an:iy t J.l) :
 (∃d,dK J l1=some (d,true)/\uT t A l1.l d.l/\bS J.l d.l/\∀u,uT t A l1.l u->bS J.l u->bS d.l u)\/(dK J l1=some (Sl.nil,false)/\∀u,uT t A l1.l u->¬bS J.l u):=by
 have ax:=hV.few;have ar:=hV.ok.one
 suffices h:Wp (dK J l1) λr=>(r.2=true/\uT t A l1.l r.1.l/\bS J.l r.1.l/\∀u,uT t A l1.l u->bS J.l u->bS r.1.l u)\/(r=(Sl.nil,false)/\∀u,uT t A l1.l u->¬bS J.l u)by
  obtain⟨⟨d,b⟩,hr,h|h⟩:=h
  .grind
  grind
 refine eT l1.l.length (λi q=>q.2=(i:Int)/\Inv t A l1.l J.l q.1.l/\∀j s,j<i->l1.l[j]? = some s->s.empty=false/\bS s.first.l q.1.l) ⟨rfl,⟨an,bS.refl _,λu _ h=>h⟩,λj s I _=>absurd I (by omega)⟩ ?_ ?_
 .rintro i ⟨c,v⟩ T ⟨rfl,i1,i2⟩;unfold dK.bf;rw[fh T,bF,bB T,ζb];have B  := List.getElem_mem T
  cases he:l1.l[i].empty with
  | true=>
   rw[bF,a_];refine(a_ _).2 (.inr ⟨rfl,λu hu _=>?_⟩)
   have:=(hu.2 _ B).1.1.1
   grind
  | false=>
   rw[bK];have hF:=(hL _ B).resolve_left (by grind)
   have hf  := hF.1.1.1.1.1.1;have hl  := i1.r.1.trans hf.1.1.symm;obtain⟨r,hr,C⟩:=Ao hl (by rw[i1.r.1];omega) (by rw[i1.r.1];omega)
   rw[hr,ζb,a_];obtain⟨m1,m2⟩:=(qu hl).1 (bS.refl (List.zipWith fC c.l l1.l[i].first.l))
   refine⟨bY i (by omega),⟨by rw[C];exact xJ i1.r hf.1,by rw[C];exact i1.le.trans m1,λu hu D=>by rw[C];exact(qu hl).2 ⟨i1.mn u hu D,(hu.2 _ B).1.1.2⟩⟩,λj s I U=>?_⟩
   simp[C];rcases Nat.lt_or_eq_of_le (Nat.lt_succ_iff.1 I)with I|rfl
   .obtain⟨a,b⟩:=i2 j s I U;exact⟨a,b.trans m1⟩
   grind
 .rintro⟨c,v⟩ ⟨rfl,i1,i2⟩;unfold dK.bf;rw[fe,bK,a_];have H:∀s∈l1.l,s.empty=false/\lF t A s/\bS s.first.l c.l:=λs U=>by
   obtain⟨j,I⟩:=List.mem_iff_getElem?.1 U
   grind
  refine eP (λq:Sl Int×Bool=>Inv t A l1.l J.l q.1.l/\bS c.l q.1.l/\(q.2=false->∀s∈l1.l,J5 s q.1.l t.procs.l.length)) (λq=>2*(qj t-q.1.l.sum).toNat+(if q.2 then 1 else 0)) ⟨i1,bS.refl _,λh=>nomatch h⟩ ?_
  rintro⟨W,ch⟩ ⟨Z,j2,j3⟩;simp only at Z j2 j3;unfold dK.bO
  cases ch with
  | false=>
   rw[bK,a_];refine(a_ _).2 (.inl ⟨rfl,?_,Z.le,Z.mn⟩);have U:=j3 rfl;obtain⟨s0,aa⟩:=List.exists_mem_of_ne_nil _ am;obtain⟨e0,F0,f0⟩:=H s0 aa;have hC  := cover  (λ_ h=>h) (λu v w hu hv hz=>join_cons hu hv hz) Z.r.1 (F0.1.1.1.1.1.1) (f0.trans j2) λp L ay=>by
    have D:=(U s0 aa).1;have h1:=D.nth  (by rw[Z.r.1];exact L)
    obtain⟨_,g2,g3⟩:=uf F0 e0 L (i:=(nth W.l p-1).toNat) (by omega)
    exact⟨_,g3,(U s0 aa).2 p L _ (by omega),by omega⟩
   refine⟨hC,λs G=>⟨⟨⟨(H s G).1,((H s G).2.2).trans j2⟩,(U s G).1⟩,λp L i T=>(U s G).2 p (by rw[<-Z.r.1];exact L) i T⟩⟩
  | true=>
   refine eT l1.l.length (λi q=>q.2.2=(i:Int)/\Inv t A l1.l J.l q.1.l/\Pass W.l q.1.l q.2.1 (∀j s,j<i->l1.l[j]? = some s->J5 s W.l t.procs.l.length)) ⟨rfl,Z,bS.refl _,λh=>(nomatch h),λ_=>⟨rfl,λj s I _=>absurd I (by omega)⟩⟩ ?_ ?_
   .rintro i ⟨c1,ch,v⟩ T ⟨rfl,k1,k2⟩;simp only at k1 k2;unfold dK.dh;have B  := List.getElem_mem T;obtain⟨he,hF,hf⟩:=H _ B;generalize ah:l1.l[i]=s at B he hF hf;rw[fh T,bF,bB T,ah,ζb];obtain⟨b,hb,O⟩:=zc   (by rw[k1.r.1];omega)
    rw[hb,ζb]
    cases b with
    | false=>
     rw[bK,a_];rw[a_];refine(a_ _).2 (.inr ⟨rfl,λu hu D=>?_⟩)
     have:=O.2 ((k1.mn u hu D).trans (hu.2 _ B).1.2);cases this
    | true=>
     have ad:=O.1 rfl;refine eT c1.l.length (λp q=>q.2.2=(p:Int)/\Inv t A l1.l J.l q.1.l/\bS c1.l q.1.l/\Pass W.l q.1.l q.2.1 ((∀j s,j<i->l1.l[j]? = some s->J5 s W.l t.procs.l.length)/\∀X,X<p->OA s W.l X)) ⟨rfl,k1,bS.refl _,k2.1,k2.2.1,λh=>⟨(k2.2.2 h).1,(k2.2.2 h).2,λX z=>absurd z (by omega)⟩⟩ ?_ ?_
     .rintro p ⟨c2,ao,v⟩ L ⟨rfl,m1,m2,Y⟩;simp only at m1 m2 Y;unfold dK.kT;simp only;have z:p<t.procs.l.length:=by rw[<-k1.r.1];exact L
      have ae:p<s.j.l.length:=by rw[hF.1.1.1.2];exact z
      have aA:=(pV k1.r.1).1 k1.r p z;have au:dA t p<1073741824:=by rw[jK z];exact(hS.2 _ (List.getElem_mem z)).1
      have aB:=ad.nth L;have av:s.j.l[p].l.length=dA t p:=by rw[<-lY ae];exact hF.1.1.2 p z
      obtain⟨x,hx,ai⟩:=pH s.j.l[p] (nth c1.l p).toNat (by omega)
      rw[fh L,bF,bB L,ζb,bB ae,ζb,<-iw L,show nth c1.l p=((nth c1.l p).toNat:Nat)by omega,hx,ζb]
      unfold dK.W5;have ap:x.l.length=(nth c1.l p).toNat:=by rw[ai,List.length_take];omega
      refine eT x.l.length (λk q=>q.2.2=(k:Int)/\Inv t A l1.l J.l q.1.l/\bS c1.l q.1.l/\Pass W.l q.1.l q.2.1 (((∀j s,j<i->l1.l[j]? = some s->J5 s W.l t.procs.l.length)/\∀X,X<p->OA s W.l X)/\∀k',k'<k->bS (el s p k') W.l)) ⟨rfl,m1,m2,Y.1,Y.2.1,λh=>⟨(Y.2.2 h).1,(Y.2.2 h).2,λk' af=>absurd af (by omega)⟩⟩ ?_ ?_
      .rintro k ⟨c3,aq,v⟩ hk ⟨rfl,Q,n2,S⟩;simp only at Q n2 S;unfold dK.pZ;simp only;have aj:k<s.j.l[p].l.length:=by omega
       have ab:x.l[k].l=el s p k:=by
        have e1:x.l[k]? = s.j.l[p].l[k]? := by rw[ai,List.getElem?_take,if_pos (by omega)]
        rw[ζd hk,ζd aj]at e1;unfold el;rw[ζd ae];simp[ζd aj];rw[Option.some.inj e1]
       obtain⟨g1,g2,g3⟩:=uf hF he z (i:=k) (by omega)
       obtain⟨b,hb,O⟩:=zc  (b:=c3) (by rw[ab,g3.1.1];omega)
       rw[ab]at O;rw[fh hk,bF,bB hk,ζb,hb,ζb]
       cases b with
       | true=>
        rw[bF,a_];refine⟨bY k (by omega),Q,n2,S.1,S.2.1,λh=>?_⟩
        obtain⟨a1,a2,a3⟩:=S.2.2 h;refine⟨a1,a2,λk' af=>?_⟩
        rcases Nat.lt_or_eq_of_le (Nat.lt_succ_iff.1 af)with q|rfl
        .exact a3 k' q
        .exact a1▸O.1 rfl
       | false=>
        rw[bK];have hl:c3.l.length=x.l[k].l.length:=by rw[ab,Q.r.1,g3.1.1]
        obtain⟨r,hr,C⟩:=Ao hl (by rw[Q.r.1];omega) (by rw[Q.r.1];omega)
        rw[ab]at C hl;rw[hr,ζb,a_];obtain⟨w1,w2⟩:=(qu hl).1 (bS.refl (List.zipWith fC c3.l (el s p k)));have ak:c3.l≠List.zipWith fC c3.l (el s p k):=λe=>by
         have:=O.2 (by rw[<-e]at w2;exact w2);cases this
        have al:c3.l.sum<(List.zipWith fC c3.l (el s p k)).sum:=by
         obtain⟨a,b⟩:=rS w1;rcases Int.lt_or_eq_of_le a with h|h
         .exact h
         .exact absurd (b h) ak
        refine⟨bY k (by omega),⟨by rw[C];exact xJ Q.r g3.1,by rw[C];exact Q.le.trans w1,λu hu D=>by
         rw[C];refine(qu hl).2 ⟨Q.mn u hu D,?_⟩;have h1:=(n2.trans (Q.mn u hu D)).nth L;exact(hu.2 s B).2 p (by rw[hu.1.1.1];exact z) k (by omega)⟩,by rw[C];exact n2.trans w1,by rw[C];exact S.1.trans w1,λ_=>by rw[C];exact Int.lt_of_le_of_lt (rS S.1).1 al,λh=>nomatch h⟩
      .rintro⟨c3,aq,v⟩ ⟨rfl,Q,n2,S⟩;simp only at Q n2 S;unfold dK.pZ;simp only;rw[fe,bK,a_];refine(a_ _).2 ⟨bY p (by omega),Q,n2,S.1,S.2.1,λh=>?_⟩
       obtain⟨a1,⟨a2,a3⟩,a4⟩:=S.2.2 h;refine⟨a1,a2,λX z=>?_⟩
       rcases Nat.lt_or_eq_of_le (Nat.lt_succ_iff.1 z)with q|rfl
       .exact a3 X q
       .intro i' aC;refine a4 i' ?_;rw[ap];have h1:=n2.nth L;rw[a1]at h1;have h2:=(k2.1).nth  (by rw[Z.r.1];omega)
        omega
     .rintro⟨c2,ao,v⟩ ⟨rfl,m1,m2,Y⟩;simp only at m1 m2 Y;unfold dK.kT;simp only;rw[fe,bK,a_];refine(a_ _).2 ⟨bY i (by omega),m1,Y.1,Y.2.1,λh=>?_⟩
      obtain⟨a1,a2,a3⟩:=Y.2.2 h;refine⟨a1,λj s' I G=>?_⟩
      rcases Nat.lt_or_eq_of_le (Nat.lt_succ_iff.1 I)with q|rfl
      .exact a2 j s' q G
      .rw[ζd T,ah]at G;cases G;exact⟨k2.1.trans ad,λX z=>a3 X (by rw[k1.r.1];exact z)⟩
   .rintro⟨c1,ch,v⟩ ⟨rfl,k1,k2⟩;simp only at k1 k2;unfold dK.dh;simp only;rw[fe,bK,a_];refine(a_ _).2 ?_;have aD:=k1.r.sum.2;have aa:=Z.r.sum.2;refine⟨⟨k1,j2.trans k2.1,λh s U=>?_⟩,?_⟩
    .simp only at h;obtain⟨a1,a2⟩:=k2.2.2 h;obtain⟨j,I⟩:=List.mem_iff_getElem?.1 U;simp[a1];exact a2 j s (ζe.1 I).1 I
    .simp only
     cases ch with
     | true=>
      have:=k2.2.1 rfl;simp ;omega
     | false=>
      rw[(k2.2.2 rfl).1];simp
end
end Go.VE
