/-
 The law in plain Lean, and the join.
-/
import Derived.Test.YtegogepdjcdfcacGreatDoorK1
import Derived.Test.YtegogepdjcdfcacGreatDoorG1
set_option linter.all false
namespace Go.VE
theorem Zf{p:Prop}(h:p:=by kernel_rfl):p:=h
instance:b_ Assign where
 wt x:=b_.wt x.var+b_.wt x.value+1
 ok x:=b_.ok x.var/\b_.ok x.value/\True
instance:b_ Event where
 wt x:=b_.wt x.kind+b_.wt x.peer+b_.wt x.message+b_.wt x.time+b_.wt x.assign+1
 ok x:=b_.ok x.kind/\b_.ok x.peer/\b_.ok x.message/\b_.ok x.time/\b_.ok x.assign/\True
instance:b_ Var where
 wt x:=b_.wt x.name+b_.wt x.init_+1
 ok x:=b_.ok x.name/\b_.ok x.init_/\True
instance:b_ cu where
 wt x:=b_.wt x.name+b_.wt x.vars+b_.wt x.events+1
 ok x:=b_.ok x.name/\b_.ok x.vars/\b_.ok x.events/\True
instance:b_ Trace where
 wt x:=b_.wt x.procs+1
 ok x:=b_.ok x.procs/\True
instance:b_ Slice where
 wt x:=b_.wt x.empty+b_.wt x.first+b_.wt x.last+b_.wt x.j+1
 ok x:=b_.ok x.empty/\b_.ok x.first/\b_.ok x.last/\b_.ok x.j/\True
mutual
def Pred.Xe:Pred->Nat
 | ⟨f0,f1,u,B,D,f5⟩=>b_.wt f0+b_.wt f1+b_.wt u+b_.wt B+b_.wt D+Pred.X9 f5+1
def Pred.X9:Sl Pred->Nat
 | .nil=>1
 | .emp=>1
 | .row l=>Pred.VI l+1
 | .part l=>Pred.VI l+1
def Pred.VI:a_ Pred->Nat
 | []=>0
 | x::r=>Pred.Xe x+Pred.VI r
end
mutual
def Pred.W0:Pred->Prop
 | ⟨f0,f1,u,B,D,f5⟩=>b_.ok f0/\b_.ok f1/\b_.ok u/\b_.ok B/\b_.ok D/\Pred.X_ f5/\True
def Pred.X_:Sl Pred->Prop
 | .nil=>True
 | .emp=>False
 | .row l=>Pred.UE l
 | .part l=>Pred.UE l
def Pred.UE:a_ Pred->Prop
 | []=>True
 | x::r=>Pred.W0 x/\Pred.UE r
end
instance:b_ Pred where
 wt:=Pred.Xe
 ok:=Pred.W0
end Go.VE
namespace Go.VE.YtegogepdjcdfcacGreatDoor
open Go.Proofs Go.Proofs.YtegogepdjcdfcacGreatDoor
instance YA:Reads Tryz.prog 9 ByteArray:=Reads.str Tryz.underlying9 Zf
instance Yx:Reads Tryz.prog 3 Int:=Reads.int Tryz.underlying3 Zf
instance Yo:Reads Tryz.prog 63 Var:=by
 refine Reads.st Tryz.underlying63 Zf rfl ?_
 intro H enc w base spare held u cs l J h;simp only[List.mapM_cons,List.mapM_nil,Option.pure_def,Option.bind_eq_bind,ζg,ζa]at h;obtain⟨z,L,O,⟨B,h1,Q,rfl,rfl⟩,rfl⟩:=h;obtain⟨a0,C,k0,S⟩:=Reads.rd (P:=Tryz.prog) (t:=9) (α:=ByteArray) (d:=z.1) (ps:=z.2) L;rw[show Tryz.prog.cellsOf 9=1 from by kernel_rfl]at C
 obtain⟨D,G,k1,T⟩:=Reads.rd (P:=Tryz.prog) (t:=3) (α:=Int) (d:=B.1) (ps:=B.2) h1;rw[show Tryz.prog.cellsOf 3=1 from by kernel_rfl]at G
 refine⟨⟨a0,D⟩,eR.fin (n:=2) (eR.seg (o:=1) (n:=1) (eR.seg (o:=0) (n:=1) (show eR (snap w) [] (cs.take 0)from by simpa using eR.nil) C) G) J,⟨k0,k1,trivial⟩,λb I=>?_⟩
 have U:=S b I;have W:=T b I;show b_.wt a0+b_.wt D+1<=_;simp only[List.map_cons,List.map_nil,List.sum_cons,List.sum_nil];omega
instance Yq:Reads Tryz.prog 51 (Sl Var):=Reads.sl (e:=63) Tryz.underlying51 Zf (by decide)
instance Yf:Reads Tryz.prog 146 Assign:=by
 refine Reads.st Tryz.underlying146 Zf rfl ?_
 intro H enc w base spare held u cs l J h;simp only[List.mapM_cons,List.mapM_nil,Option.pure_def,Option.bind_eq_bind,ζg,ζa]at h;obtain⟨z,L,O,⟨B,h1,Q,rfl,rfl⟩,rfl⟩:=h;obtain⟨a0,C,k0,S⟩:=Reads.rd (P:=Tryz.prog) (t:=3) (α:=Int) (d:=z.1) (ps:=z.2) L;rw[show Tryz.prog.cellsOf 3=1 from by kernel_rfl]at C
 obtain⟨D,G,k1,T⟩:=Reads.rd (P:=Tryz.prog) (t:=3) (α:=Int) (d:=B.1) (ps:=B.2) h1;rw[show Tryz.prog.cellsOf 3=1 from by kernel_rfl]at G
 refine⟨⟨a0,D⟩,eR.fin (n:=2) (eR.seg (o:=1) (n:=1) (eR.seg (o:=0) (n:=1) (show eR (snap w) [] (cs.take 0)from by simpa using eR.nil) C) G) J,⟨k0,k1,trivial⟩,λb I=>?_⟩
 have U:=S b I;have W:=T b I;show b_.wt a0+b_.wt D+1<=_;simp only[List.map_cons,List.map_nil,List.sum_cons,List.sum_nil];omega
instance Yi:Reads Tryz.prog 47 (Sl Assign):=Reads.sl (e:=146) Tryz.underlying47 Zf (by decide)
instance Ym:Reads Tryz.prog 49 Event:=by
 refine Reads.st Tryz.underlying49 Zf rfl ?_
 intro H enc w base spare held z cs l X h;simp only[List.mapM_cons,List.mapM_nil,Option.pure_def,Option.bind_eq_bind,ζg,ζa]at h;obtain⟨B,Y,Z,⟨C,h1,aa,⟨x2,h2,ab,⟨D,h3,ad,⟨G,h4,ae,rfl,rfl⟩,rfl⟩,rfl⟩,rfl⟩,rfl⟩:=h;obtain⟨a0,I,k0,b0⟩:=Reads.rd (P:=Tryz.prog) (t:=3) (α:=Int) (d:=B.1) (ps:=B.2) Y;rw[show Tryz.prog.cellsOf 3=1 from by kernel_rfl]at I
 obtain⟨J,L,k1,b1⟩:=Reads.rd (P:=Tryz.prog) (t:=3) (α:=Int) (d:=C.1) (ps:=C.2) h1;rw[show Tryz.prog.cellsOf 3=1 from by kernel_rfl]at L
 obtain⟨O,Q,k2,b2⟩:=Reads.rd (P:=Tryz.prog) (t:=3) (α:=Int) (d:=x2.1) (ps:=x2.2) h2;rw[show Tryz.prog.cellsOf 3=1 from by kernel_rfl]at Q
 obtain⟨S,T,k3,b3⟩:=Reads.rd (P:=Tryz.prog) (t:=3) (α:=Int) (d:=D.1) (ps:=D.2) h3;rw[show Tryz.prog.cellsOf 3=1 from by kernel_rfl]at T
 obtain⟨U,W,k4,b4⟩:=Reads.rd (P:=Tryz.prog) (t:=47) (α:=(Sl Assign)) (d:=G.1) (ps:=G.2) h4;rw[show Tryz.prog.cellsOf 47=1 from by kernel_rfl]at W
 refine⟨⟨a0,J,O,S,U⟩,eR.fin (n:=5) (eR.seg (o:=4) (n:=1) (eR.seg (o:=3) (n:=1) (eR.seg (o:=2) (n:=1) (eR.seg (o:=1) (n:=1) (eR.seg (o:=0) (n:=1) (show eR (snap w) [] (cs.take 0)from by simpa using eR.nil) I) L) Q) T) W) X,⟨k0,k1,k2,k3,k4,trivial⟩,λb u=>?_⟩
 have w0:=b0 b u;have w1:=b1 b u;have w2:=b2 b u;have w3:=b3 b u;have w4:=b4 b u;show b_.wt a0+b_.wt J+b_.wt O+b_.wt S+b_.wt U+1<=_;simp only[List.map_cons,List.map_nil,List.sum_cons,List.sum_nil];omega
instance Yp:Reads Tryz.prog 50 (Sl Event):=Reads.sl (e:=49) Tryz.underlying50 Zf (by decide)
instance Yh:Reads Tryz.prog 53 cu:=by
 refine Reads.st Tryz.underlying53 Zf rfl ?_
 intro H enc w base spare held z cs l O h;simp only[List.mapM_cons,List.mapM_nil,Option.pure_def,Option.bind_eq_bind,ζg,ζa]at h;obtain⟨B,Q,S,⟨C,h1,T,⟨x2,U,W,rfl,rfl⟩,rfl⟩,rfl⟩:=h;obtain⟨a0,D,k0,X⟩:=Reads.rd (P:=Tryz.prog) (t:=9) (α:=ByteArray) (d:=B.1) (ps:=B.2) Q;rw[show Tryz.prog.cellsOf 9=1 from by kernel_rfl]at D
 obtain⟨G,I,k1,Y⟩:=Reads.rd (P:=Tryz.prog) (t:=51) (α:=(Sl Var)) (d:=C.1) (ps:=C.2) h1;rw[show Tryz.prog.cellsOf 51=1 from by kernel_rfl]at I
 obtain⟨J,L,k2,Z⟩:=Reads.rd (P:=Tryz.prog) (t:=50) (α:=(Sl Event)) (d:=x2.1) (ps:=x2.2) U;rw[show Tryz.prog.cellsOf 50=1 from by kernel_rfl]at L
 refine⟨⟨a0,G,J⟩,eR.fin (n:=3) (eR.seg (o:=2) (n:=1) (eR.seg (o:=1) (n:=1) (eR.seg (o:=0) (n:=1) (show eR (snap w) [] (cs.take 0)from by simpa using eR.nil) D) I) L) O,⟨k0,k1,k2,trivial⟩,λb u=>?_⟩
 have w0:=X b u;have w1:=Y b u;have w2:=Z b u;show b_.wt a0+b_.wt G+b_.wt J+1<=_;simp only[List.map_cons,List.map_nil,List.sum_cons,List.sum_nil];omega
instance Yr:Reads Tryz.prog 22 (Sl cu):=Reads.sl (e:=53) Tryz.underlying22 Zf (by decide)
instance Yw:Reads Tryz.prog 24 Trace:=by
 refine Reads.st Tryz.underlying24 Zf rfl ?_
 intro H enc w base spare held u cs l C h;simp only[List.mapM_cons,List.mapM_nil,Option.pure_def,Option.bind_eq_bind,ζg,ζa]at h;obtain⟨z,D,G,rfl,rfl⟩:=h;obtain⟨a0,B,k0,I⟩:=Reads.rd (P:=Tryz.prog) (t:=22) (α:=(Sl cu)) (d:=z.1) (ps:=z.2) D;rw[show Tryz.prog.cellsOf 22=1 from by kernel_rfl]at B
 refine⟨⟨a0⟩,eR.fin (n:=1) (eR.seg (o:=0) (n:=1) (show eR (snap w) [] (cs.take 0)from by simpa using eR.nil) B) C,⟨k0,trivial⟩,λb J=>?_⟩
 have L:=I b J;show b_.wt a0+1<=_;simp only[List.map_cons,List.map_nil,List.sum_cons,List.sum_nil];omega
instance Yv:Reads Tryz.prog 26 (Sl Int):=Reads.sl (e:=3) Tryz.underlying26 Zf (by decide)
instance Yt:Reads Tryz.prog 25 (Sl (Sl Int)):=Reads.sl (e:=26) Tryz.underlying25 Zf (by decide)
instance Yz:Reads Tryz.prog 4 Bool:=Reads.bool Tryz.underlying4 Zf
instance Yu:Reads Tryz.prog 27 (Sl (Sl (Sl Int))):=Reads.sl (e:=25) Tryz.underlying27 Zf (by decide)
instance Yj:Reads Tryz.prog 29 Slice:=by
 refine Reads.st Tryz.underlying29 Zf rfl ?_
 intro H enc w base spare held z cs l T h;simp only[List.mapM_cons,List.mapM_nil,Option.pure_def,Option.bind_eq_bind,ζg,ζa]at h;obtain⟨B,U,W,⟨C,h1,X,⟨x2,Y,Z,⟨D,h3,aa,rfl,rfl⟩,rfl⟩,rfl⟩,rfl⟩:=h;obtain⟨a0,G,k0,b0⟩:=Reads.rd (P:=Tryz.prog) (t:=4) (α:=Bool) (d:=B.1) (ps:=B.2) U;rw[show Tryz.prog.cellsOf 4=1 from by kernel_rfl]at G
 obtain⟨I,J,k1,b1⟩:=Reads.rd (P:=Tryz.prog) (t:=26) (α:=(Sl Int)) (d:=C.1) (ps:=C.2) h1;rw[show Tryz.prog.cellsOf 26=1 from by kernel_rfl]at J
 obtain⟨L,O,k2,b2⟩:=Reads.rd (P:=Tryz.prog) (t:=26) (α:=(Sl Int)) (d:=x2.1) (ps:=x2.2) Y;rw[show Tryz.prog.cellsOf 26=1 from by kernel_rfl]at O
 obtain⟨Q,S,k3,b3⟩:=Reads.rd (P:=Tryz.prog) (t:=27) (α:=(Sl (Sl (Sl Int)))) (d:=D.1) (ps:=D.2) h3;rw[show Tryz.prog.cellsOf 27=1 from by kernel_rfl]at S
 refine⟨⟨a0,I,L,Q⟩,eR.fin (n:=4) (eR.seg (o:=3) (n:=1) (eR.seg (o:=2) (n:=1) (eR.seg (o:=1) (n:=1) (eR.seg (o:=0) (n:=1) (show eR (snap w) [] (cs.take 0)from by simpa using eR.nil) G) J) O) S) T,⟨k0,k1,k2,k3,trivial⟩,λb u=>?_⟩
 have w0:=b0 b u;have w1:=b1 b u;have w2:=b2 b u;have w3:=b3 b u;show b_.wt a0+b_.wt I+b_.wt L+b_.wt Q+1<=_;simp only[List.map_cons,List.map_nil,List.sum_cons,List.sum_nil];omega
end Go.VE.YtegogepdjcdfcacGreatDoor
namespace Go.VE
end Go.VE
namespace Go.VE
abbrev EX {α:Type} (m:bf α):Prop:=Wp m λ_=>True
theorem EX.get {α:Type} {m:bf α} (h:EX m):∃a,m=some a:=let ⟨a,e,_⟩:=h;⟨a,e⟩
theorem EX.ok {m:bf Bool} (h:EX m):m=some (m.getD false):=by obtain⟨a,e,_⟩:=h;rw[e];rfl
def Small (t:Trace):Prop:=t.procs.l.length<1073741824/\∀p∈t.procs.l,p.events.l.length<1073741824/\p.vars.l.length<1073741824/\p.name.size<1073741824/\(∀v∈p.vars.l,v.name.size<1073741824)/\∀e∈p.events.l,e.assign.l.length<1073741824
section
theorem LQ {s:Sl Event} {p:Event->bf Bool} {f:Event->Bool} (hp:∀x∈s.l,p x=some (f x)) (u:s.l.length<1073741824):fE s p=some (place f s.l):=
 rN hp Za (λi=>rfl)
theorem Mj {s:Sl cu} {p:cu->bf Bool} {f:cu->Bool} (hp:∀x∈s.l,p x=some (f x)) (u:s.l.length<1073741824):fP s p=some (place f s.l):=
 rN hp Za (λi=>rfl)
theorem OP {s:Sl Var} {p:Var->bf Bool} {f:Var->Bool} (hp:∀x∈s.l,p x=some (f x)) (u:s.l.length<1073741824):gy s p=some (place f s.l):=
 rN hp Za (λi=>rfl)
theorem Jb {s:Sl Assign} {p:Assign->bf Bool} {f:Assign->Bool} (hp:∀x∈s.l,p x=some (f x)) (u:s.l.length<1073741824):eW s p=some (place f s.l):=
 rN hp Za (λi=>rfl)
theorem y6 {s:Sl Event} {p:Event->bf Bool} {f:Event->Bool} (hp:∀x∈s.l,p x=some (f x)) (u:s.l.length<1073741824):gM s p=some (s.l.any f):=by
 unfold gM;rw[LQ hp u,ζb,rS]
theorem Hr {s:Sl cu} {p:cu->bf Bool} {f:cu->Bool} (hp:∀x∈s.l,p x=some (f x)) (u:s.l.length<1073741824):gV s p=some (s.l.any f):=by
 unfold gV;rw[Mj hp u,ζb,rS]
theorem Bb {s:Sl Var} {p:Var->bf Bool} {f:Var->Bool} (hp:∀x∈s.l,p x=some (f x)) (u:s.l.length<1073741824):gp s p=some (s.l.any f):=by
 unfold gp;rw[OP hp u,ζb,rS]
theorem Eb {s:Sl Assign} {p:Assign->bf Bool} {f:Assign->Bool} (hp:∀x∈s.l,p x=some (f x)) (u:s.l.length<1073741824):gB s p=some (s.l.any f):=by
 unfold gB;rw[Jb hp u,ζb,rS]
theorem oy (x u B:Int):mH x u B=some (decide (u<=x)&&decide (x<=B)):=by
 unfold mH;rw[lz];rfl
theorem Lz {s:ByteArray} {i:Nat} (h:i<s.size):∃x,ki s (i:Int)=some x:=by
 unfold ki;rw[if_pos Za]
 exact⟨_,by rw[show (s[(i:Int).toNat]?)=some s[i]from by simp[h]];rfl⟩
def kn (n:Nat) (p:Int) (e:Event):Prop:=e.kind=1\/((e.kind=2\/e.kind=3)/\0<=e.peer/\e.peer<n/\e.peer≠p/\0<=e.message/\e.message<=199)
end
def lI (t:Trace) (p k:Nat) (e:Event):Prop:=∃P,t.procs.l[p]? = some P/\P.events.l[k]? = some e
theorem tR {p:Int} {x:bg×Event}:∀{es:a_ Event} {j:Int},x∈ig p j es↔∃k:Nat,es[k]? = some x.2/\x.1=⟨p,j+k+1⟩
 | [],j=>by simp[ig]
 | e::es,j=>by
  simp[ig,tR ];constructor
  .rintro (rfl|⟨k,h1,u⟩)
   .exact⟨0,rfl,by simp⟩
   exact⟨k+1,by grind,by grind⟩
  grind
theorem uY {x:bg×Event}:∀{ps:a_ cu} {i:Int},x∈fe i ps↔∃(a k:Nat) (P:cu),ps[a]? = some P/\P.events.l[k]? = some x.2/\x.1=⟨i+a,k+1⟩
 | [],i=>by simp[fe]
 | p::ps,i=>by
  simp only[fe,List.mem_append,tR,uY ];constructor
  .rintro (⟨k,h1,u⟩|⟨a,k,P,h1,u,B⟩)
   .exact⟨0,k,p,rfl,h1,by grind⟩
   exact⟨a+1,k,P,by simp_all,u,by grind⟩
  grind
abbrev bT (t:Trace):a_ (bg×Event):=fe 0 t.procs.l
theorem eo {t:Trace} {x:bg×Event}:x∈bT t↔∃p k:Nat,lI t p k x.2/\x.1=⟨p,k+1⟩:=by
 rw[uY];constructor
 .rintro⟨a,k,P,h1,u,w⟩;exact⟨a,k,⟨P,h1,u⟩,by grind⟩
 rintro⟨a,k,⟨P,h1,u⟩,w⟩;grind
theorem Ci {t:Trace} {x y:bg×Event} (u:x∈bT t) (B:y∈bT t) (h:x.1=y.1):x=y:=by
 obtain⟨p,k,⟨P,w,hk⟩,e1⟩:=eo.1 u;obtain⟨q,j,⟨Q,z,C⟩,e2⟩:=eo.1 B
 grind
theorem vl {t:Trace} (u:Small t):iL t=some (bT t):=by
 unfold iL;rw[if_pos];simp[Ga];exact⟨by have:=u.1;omega,λp w=>by have:=(u.2 p w).1;omega⟩
def sE (t:Trace) (p m to:Int):Bool:=match t.procs.l[p.toNat]? with
 | some P=>P.events.l.any λe=>e.kind==2&&e.message==m&&e.peer==to
 | none=>false
theorem Qo {t:Trace} (B:Small t) {p:Int} (D:0<=p) (h1:p<t.procs.l.length) (m to:Int):tV t p m to=some (sE t p m to):=by
 unfold tV;have u:p.toNat<t.procs.l.length:=by omega
 have w:=List.getElem_mem u;rw[VQ D,ζd u,ζb,y6 (f:=λe=>e.kind==2&&e.message==m&&e.peer==to) (λe _=>by
  unfold qc;simp[lz]) (B.2 _ w).1,ζb]
 unfold sE
 grind
theorem Dz {t:Trace} {p:Nat} {m to:Int}:sE t p m to=true↔∃k e,lI t p k e/\e.kind=2/\e.message=m/\e.peer=to:=by
 unfold sE lI;rw[show (p:Int).toNat=p from rfl]
 cases w:t.procs.l[p]? with
 | none=>simp
 | some P=>
  simp;constructor
  .rintro⟨e,u,h⟩;obtain⟨k,hk⟩:=List.getElem?_of_mem u
   grind
  grind
def ag (A:bP 200 bt) (m:Int):bt:=(A.at m).getD default
theorem L1 (A:bP 200 bt) {m:Int} (u:0<=m) (h1:m<=199):A.at m=some (ag A m):=by
 have:m.toNat<A.l.length:=by rw[A.len];omega
 unfold ag bP.at
 grind
theorem qn (A:bP 200 bt) {m m':Int} (x:bt) (u:0<=m) (h1:m<=199) (B:0<=m'):ag (A.set m x) m'=if m'=m then x else ag A m':=by
 have:m.toNat<A.l.length:=by rw[A.len];omega
 unfold ag bP.at bP.set
 grind
theorem MY {m:Int} (u:0<=m) (h1:m<=199):ag (bP.Mc 200 (⟨⟨0,0⟩,⟨0,0⟩⟩:bt)) m=⟨⟨0,0⟩,⟨0,0⟩⟩:=by
 unfold ag bP.at bP.Mc
 grind
structure fR (t:Trace) (its:List (bg×Event)) (A:bP 200 bt):Prop where
 snd:∀x∈its,x.2.kind=2->(ag A x.2.message).from_=x.1
 rcv:∀x∈its,x.2.kind=3->(ag A x.2.message).to_=x.1/\sE t x.2.peer x.2.message x.1.proc=true
 fr:∀m,0<=m->m<=199->(ag A m).from_.index=0\/∃e,((ag A m).from_,e)∈its/\e.kind=2/\e.message=m
 to:∀m,0<=m->m<=199->(ag A m).to_.index=0\/∃e,((ag A m).to_,e)∈its/\e.kind=3/\e.message=m
def Ks (a b:bg×Event):Prop:=a.1.proc<b.1.proc\/a.1.proc=b.1.proc/\a.1.index<b.1.index
theorem Mz {p:Int}:∀{es:a_ Event} {j:Int},(ig p j es).Pairwise Ks
 | [],_=>List.Pairwise.nil
 | e::es,j=>by
  simp only[ig,List.pairwise_cons];refine⟨λb u=>?_,Mz⟩
  obtain⟨k,_,B⟩:=tR.1 u;refine .inr ⟨by rw[B],?_⟩
  grind
theorem HF:∀{ps:a_ cu} {i:Int},(fe i ps).Pairwise Ks
 | [],_=>List.Pairwise.nil
 | P::ps,i=>by
  simp only[fe,List.pairwise_append];refine⟨Mz,HF,λa u b B=>.inl ?_⟩
  obtain⟨k,_,D⟩:=tR.1 u;obtain⟨c,j,P,_,_,t⟩:=uY.1 B
  grind
theorem HB {t:Trace} {k:Nat} {x y:bg×Event} (u:(bT t)[k]? = some x) (B:y∈(bT t).take k):y.1≠x.1:=by
 obtain⟨h1,w⟩:=ζe.1 u;have z:((bT t).take k++(bT t).drop k).Pairwise Ks:=by rw[List.take_append_drop];exact HF
 have:=(List.pairwise_append.1 z).2.2 y B x (by rw[List.drop_eq_getElem_cons h1,w];grind)
 unfold Ks at this
 grind
structure xY (t:Trace):Prop where
 snd:∀x∈bT t,∀y∈bT t,x.2.kind=2->y.2.kind=2->x.2.message=y.2.message->x.1=y.1
 rcv:∀x∈bT t,∀y∈bT t,x.2.kind=3->y.2.kind=3->x.2.message=y.2.message->x.1=y.1
 has:∀x∈bT t,x.2.kind=3->sE t x.2.peer x.2.message x.1.proc=true
theorem fR.NN {t:Trace} {A:bP 200 bt} (h:fR t (bT t) A):xY t:=
 ⟨λx w y z k2 u B=>by rw[<-h.snd x w k2,<-h.snd y z u,B],λx w y z k2 u B=>by rw[<-(h.rcv x w k2).1,<-(h.rcv y z u).1,B],λx w k=>(h.rcv x w k).2⟩
theorem C_ {t:Trace} (hS:Small t) (hF:∀x∈bT t,kn t.procs.l.length x.1.proc x.2):Wp (d_ t) λr=>(r.2.2=0->∃A,r.1=some A/\fR t (bT t) A)/\(xY t->r.2.2=0):=by
 unfold d_ jw;rw[ζb];unfold d_.E1;rw[vl hS,ζb];refine AS (λk A=>fR t ((bT t).take k) A) ⟨by simp,by simp,λm L h1=>.inl (by rw[MY L h1]),λm L h1=>.inl (by rw[MY L h1])⟩ ?_ ?_
 .intro k x A hx B;have G  := List.mem_of_getElem? hx;have T:(bT t).take (k+1)=(bT t).take k++[x]:=by rw[List.take_add_one,hx];rfl
  obtain⟨p,j,aa,ab⟩:=eo.1 G;have hf:=hF x G;unfold d_.tM;rw[cg];constructor
  .intro hk;have O:x.2.kind=2:=by grind
   have u:0<=x.2.message/\x.2.message<=199:=by
    rcases hf with h|⟨_,_,_,_,h⟩
    .omega
    simp_all
   rw[L1 A u.1 u.2,ζb,cg];refine⟨λhg=>(bk _).2 ((bk _).2 ⟨λh=>(by cases h),λY=>?_⟩),λL=>?_⟩
   .rcases B.fr _ u.1 u.2 with Z|⟨e,Q,U,W⟩
    .grind
    exact absurd (Y.snd _ (List.mem_of_mem_take Q) x G U O W) (HB hx Q)
   rw[ζb,bk,T];have X:∀y∈(bT t).take k,y.2.kind=2->y.2.message≠x.2.message:=λy hy w Q=>by
    have:=B.snd y hy w;rw[Q]at this;obtain⟨p',j',_,S⟩:=eo.1 (List.mem_of_mem_take hy)
    grind
   have nn:∀y∈(bT t).take k,y.2.kind=2\/y.2.kind=3->0<=y.2.message:=λy hy w=>by
    rcases hF y (List.mem_of_mem_take hy)with h|⟨_,_,_,_,h,_⟩
    .omega
    simp_all
   refine⟨λy hy w=>?_,λy hy z=>?_,λm C I=>?_,λm C I=>?_⟩
   .rcases List.mem_append.1 hy with hy|hy
    .rw[qn A _ u.1 u.2 (nn y hy (.inl w)),if_neg (X y hy w)];exact B.snd y hy w
    simp at hy;subst hy;rw[qn A _ u.1 u.2 u.1,if_pos rfl]
   .rcases List.mem_append.1 hy with hy|hy
    .rw[qn A _ u.1 u.2 (nn y hy (.inr z))];have:=B.rcv y hy z
     grind
    grind
   .rw[qn A _ u.1 u.2 C];split
    next e=>exact .inr ⟨x.2,by simp,O,e.symm⟩
    exact(B.fr m C I).imp (λh=>h) λ⟨e,h1,D⟩=>⟨e,List.mem_append_left _ h1,D⟩
   rw[qn A _ u.1 u.2 C];have:=(B.to m C I).imp (λh=>h) λ⟨e,h1,D⟩=>(⟨e,List.mem_append_left [x] h1,D⟩:∃e,((ag A m).to_,e)∈(bT t).take k++[x]/\e.kind=3/\e.message=m)
   split
   next e=>subst e;omega
   omega
  intro hk;have O  := by simpa using hk
  rw[cg];constructor
  .intro hk;have J  := by simpa using hk
   have u:0<=x.2.message/\x.2.message<=199/\0<=x.2.peer/\x.2.peer<t.procs.l.length:=by
    rcases hf with h|⟨_,h1,D,_,h3,h4⟩
    .omega
    exact⟨h3,h4,h1,D⟩
   rw[L1 A u.1 u.2.1,ζb,cg];refine⟨λhg=>(bk _).2 ((bk _).2 ⟨λh=>(by cases h),λY=>?_⟩),λL=>?_⟩
   .rcases B.to _ u.1 u.2.1 with Z|⟨e,Q,U,W⟩
    .simp[Z]at hg
    exact absurd (Y.rcv _ (List.mem_of_mem_take Q) x G U J W) (HB hx Q)
   have L:¬(ag A x.2.message).to_.index>0:=by simpa using L
   rw[Qo hS u.2.2.1 u.2.2.2,ζb,cg];refine⟨λhs=>?_,λhs=>(bk _).2 ((bk _).2 ⟨λh=>(by cases h),λY=>by rw[Y.has x G J]at hs;cases hs⟩)⟩
   rw[ζb,bk,T];have X:∀y∈(bT t).take k,y.2.kind=3->y.2.message≠x.2.message:=λy hy w Q=>by
    have:=(B.rcv y hy w).1;rw[Q]at this;rw[this]at L;obtain⟨p',j',_,S⟩:=eo.1 (List.mem_of_mem_take hy);rw[S]at L;exact L (by show (j':Int)+1>0;omega)
   have nn:∀y∈(bT t).take k,y.2.kind=2\/y.2.kind=3->0<=y.2.message:=λy hy w=>by
    rcases hF y (List.mem_of_mem_take hy)with h|⟨_,_,_,_,h,_⟩
    .omega
    exact h
   refine⟨λy hy w=>?_,λy hy z=>?_,λm C I=>?_,λm C I=>?_⟩
   .rcases List.mem_append.1 hy with hy|hy
    .rw[qn A _ u.1 u.2.1 (nn y hy (.inl w))];have:=B.snd y hy w;split
     next e=>rw[e]at this;exact this
     exact this
    simp at hy;subst hy;omega
   .rcases List.mem_append.1 hy with hy|hy
    .rw[qn A _ u.1 u.2.1 (nn y hy (.inr z)),if_neg (X y hy z)];exact B.rcv y hy z
    simp at hy;subst hy;rw[qn A _ u.1 u.2.1 u.1,if_pos rfl];exact⟨rfl,hs⟩
   .rw[qn A _ u.1 u.2.1 C];have:=(B.fr m C I).imp (λh=>h) λ⟨e,h1,D⟩=>(⟨e,List.mem_append_left [x] h1,D⟩:∃e,((ag A m).from_,e)∈(bT t).take k++[x]/\e.kind=2/\e.message=m)
    split
    next e=>subst e;exact this
    exact this
   rw[qn A _ u.1 u.2.1 C];split
   next e=>exact .inr ⟨x.2,by simp,J,e.symm⟩
   exact(B.to m C I).imp (λh=>h) λ⟨e,h1,D⟩=>⟨e,List.mem_append_left _ h1,D⟩
  intro hk;have J  := by simpa using hk
  rw[bk,T];refine⟨λy hy w=>?_,λy hy z=>?_,λm C I=>?_,λm C I=>?_⟩
  .rcases List.mem_append.1 hy with hy|hy
   .exact B.snd y hy w
   simp at hy;subst hy;exact absurd w O
  .rcases List.mem_append.1 hy with hy|hy
   .exact B.rcv y hy z
   simp at hy;subst hy;exact absurd z J
  .exact(B.fr m C I).imp (λh=>h) λ⟨e,h1,D⟩=>⟨e,List.mem_append_left _ h1,D⟩
  exact(B.to m C I).imp (λh=>h) λ⟨e,h1,D⟩=>⟨e,List.mem_append_left _ h1,D⟩
 intro A hA;rw[List.take_length]at hA;exact(bk _).2 ⟨λ_=>⟨A,rfl,hA⟩,λ_=>rfl⟩
def iu (f:Nat->Bool) (k n:Nat):Bool:=(List.range' k (n-k)).any f
theorem FC {f:Nat->Bool} {k n:Nat} (h:k<n):iu f k n=(f k||iu f (k+1) n):=by
 unfold iu;rw[show n-k=(n-(k+1))+1 from by omega,List.range'_succ];rfl
theorem Ow {f:Nat->Bool} {k n:Nat} (h:n<=k):iu f k n=false:=by
 unfold iu;rw[show n-k=0 from by omega];rfl
theorem Pp {f:Nat->Bool} {k n:Nat}:iu f k n=true↔∃i,k<=i/\i<n/\f i=true:=by
 unfold iu;rw[List.any_eq_true];constructor
 .rintro⟨i,u,t⟩;rw[List.mem_range'_1]at u;exact⟨i,u.1,by omega,t⟩
 rintro⟨i,h1,w,t⟩;exact⟨i,by rw[List.mem_range'_1];omega,t⟩
theorem Ef {step:Int->bf (Fw Int Unit Unit)} {n:Nat} (f:Nat->Bool) (B:n<9223372036854775807) (h1:∀i:Nat,i<n->step i=some (if f i then .r ()else .n (IntKind.wrap .i64 ((i:Int)+1)))) (u:step (n:Int)=some (.x ())) :
 ∀m k:Nat,k+m=n->bM step (k:Int)=some (if iu f k n then .r ()else .x ()):=by
 intro m
 induction m with
 | zero=>
  intro k hk;have:k=n:=by omega
  subst this;rw[fc,u,Ow (Nat.le_refl _)];rfl
 | succ m t=>
  intro k hk;rw[fc,h1 k Za,FC Za]
  cases w:f k with
  | true=>rfl
  | false=>
   simp only[Bool.false_eq_true,if_false,ζb,Bool.false_or];rw[cH k Za]
   exact t (k+1) Za
def ng (g:Nat->Int) (k n:Nat):Int:=match (List.range' k (n-k)).find? λi => !(g i==0)with
 | some i=>g i
 | none=>0
theorem Eu {g:Nat->Int} {k n:Nat} (h:k<n):ng g k n=if g k=0 then ng g (k+1) n else g k:=by
 unfold ng;rw[show n-k=(n-(k+1))+1 from by omega,List.range'_succ,List.find?_cons]
 by_cases t:g k=0
 .simp[t]
 rw[if_neg t,show (!(g k==0))=true from by simp[t]]
theorem G7 {g:Nat->Int} {k n:Nat} (h:n<=k):ng g k n=0:=by
 unfold ng;rw[show n-k=0 from by omega];rfl
theorem Xf {g:Nat->Int} {n:Nat}:∀{m k:Nat},k+m=n->(ng g k n=0↔∀i,k<=i->i<n->g i=0):=by
 intro m
 induction m with
 | zero=>intro k hk;rw[G7 Za];exact⟨λ_ i h1 t=>by omega,λ_=>rfl⟩
 | succ m w=>
  intro k hk;rw[Eu Za]
  split
  .rename_i u;rw[w (show k+1+m=n by omega)]
   constructor
   .intro h i h1 t
    by_cases e:i=k
    .subst e;exact u
    exact h i Za t
   intro h i h1 t;exact h i Za t
  rename_i u;exact⟨λh=>absurd h u,λh=>absurd (h k (Nat.le_refl _) Za) u⟩
theorem Sn {step:Int->bf (Fw Int Unit Int)} {n:Nat} (g:Nat->Int) (B:n<9223372036854775807) (h1:∀i:Nat,i<n->step i=some (if g i=0 then .n (IntKind.wrap .i64 ((i:Int)+1))else .r (g i))) (u:step (n:Int)=some (.x ())) :
 ∀m k:Nat,k+m=n->bM step (k:Int)=some (if ng g k n=0 then .x ()else .r (ng g k n)):=by
 intro m
 induction m with
 | zero=>
  intro k hk;have:k=n:=by omega
  subst this;rw[fc,u,G7 (Nat.le_refl _)];rfl
 | succ m w=>
  intro k hk;rw[fc,h1 k Za,Eu Za]
  by_cases t:g k=0
  .simp only[t,if_true,ζb];rw[cH k Za]
   exact w (k+1) Za
  simp only[t,if_false,ζb]
theorem yL {step:Int->bf (Fw Int Unit Int)} {n:Nat} (g:Nat->Int) (u:n<9223372036854775807) (h1:∀i:Nat,i<n->step i=some (if g i=0 then .n (IntKind.wrap .i64 ((i:Int)+1))else .r (g i))) (B:step (n:Int)=some (.x ())):bM step 0=some (if ng g 0 n=0 then .x ()else .r (ng g 0 n)):=Sn g u h1 B n 0 Za
theorem BC {step:Int->bf (Fw Int Unit Unit)} {n:Nat} (f:Nat->Bool) (u:n<9223372036854775807) (h1:∀i:Nat,i<n->step i=some (if f i then .r ()else .n (IntKind.wrap .i64 ((i:Int)+1)))) (B:step (n:Int)=some (.x ())):bM step 0=some (if iu f 0 n then .r ()else .x ()):=Ef f u h1 B n 0 Za
def xx (c:Int):Bool:=decide (c>=65)&&decide (c<=90)||decide (c>=97)&&decide (c<=122)
def B0 (c:Int):Bool:=decide (c>=48)&&decide (c<=57)
theorem Dr (c:Int):o9 c=some (xx c):=by
 unfold o9 xx;simp only[lz,jD,ζb];rw[Bool.or_comm]
theorem Co (c:Int):oh c=some (xx c):=by
 unfold oh xx;simp only[lz,jD,ζb]
theorem NK (c:Int):tX c=some (B0 c):=by
 unfold tX B0;simp only[lz,ζb]
theorem Of (c:Int):sO c=some (B0 c):=by
 unfold sO B0;simp only[lz,ζb]
def wC (s:ByteArray) (i:Nat):Int:=(ki s (i:Int)).getD 0
theorem Cx {s:ByteArray} {i:Nat} (h:i<s.size):ki s (i:Int)=some (wC s i):=by
 obtain⟨x,t⟩:=Lz h;unfold wC;rw[t];rfl
def sS (s:ByteArray) (i:Nat):Bool := !xx (wC s i) && !B0 (wC s i) && !(wC s i==95)
def k7 (s:ByteArray):Bool:=decide (1<=s.size)&&decide (s.size<=16)&&xx (wC s 0) && !iu (sS s) 0 s.size
theorem KD {s:ByteArray} {i:Nat} (h:i<s.size):fM.br s (s.size:Int) i=some (if sS s i then .r ()else .n (IntKind.wrap .i64 ((i:Int)+1))):=by
 unfold fM.br sS;rw[show decide ((i:Int)<(s.size:Int))=true from by simpa using h,bJ,Cx h]
 simp only[ζb,Dr,NK];cases xx (wC s i) <;> cases B0 (wC s i) <;> cases (wC s i==95) <;> rfl
theorem Ls {s:ByteArray} {i:Nat} (h:i<s.size):gE.br s i=some (if sS s i then .r ()else .n (IntKind.wrap .i64 ((i:Int)+1))):=by
 unfold gE.br sS;rw[show decide ((i:Int)<((ByteArray.size s:Nat):Int))=true from by simpa using h,bJ,Cx h]
 simp only[ζb,Co,Of];cases xx (wC s i) <;> cases B0 (wC s i) <;> cases (wC s i==95) <;> rfl
theorem toList_empty {s:ByteArray}:(ByteArray.toList s==ByteArray.toList ByteArray.empty)=decide (s.size=0):=by
 rw[Bool.eq_iff_iff,beq_iff_eq,decide_eq_true_eq];constructor
 .intro h;have h1:(ByteArray.toList s).length=s.size:=by rw[Go.ByteArray.toList_eq];simp
  rw[<-h1,h];rw[Go.ByteArray.toList_eq];rfl
 intro h;have:s=ByteArray.empty:=by
  apply ByteArray.ext;exact Array.eq_empty_of_size_eq_zero h
 rw[this]
theorem ET {s:ByteArray} (B:s.size<1073741824):fM s=some (k7 s):=by
 unfold fM;rw[toList_empty];simp only[jD,ζb]
 by_cases u:s.size=0
 .simp[u,k7,bp]
 by_cases t:s.size<=16
 .have hc:(decide (s.size=0)||decide (((ByteArray.size s:Nat):Int)>16))=false:=by simp[u];omega
  rw[hc,bL,show (0:Int)=((0:Nat):Int)from rfl,Cx (show 0<s.size by omega)]
  simp only[ζb,Dr]
  cases w:xx (wC s 0)with
  | false=>simp[k7,w,bp]
  | true=>
   simp only[Bool.not_true,bL];unfold fM.W1;rw[Ef (n:=s.size) (sS s) Za (λi z=>KD z) (by unfold fM.br;simp[bp]) s.size 0 Za]
   have:k7 s = !iu (sS s) 0 s.size:=by simp[k7,w,t];omega
   rw[this];cases iu (sS s) 0 s.size <;> rfl
 have hc:(decide (s.size=0)||decide (((ByteArray.size s:Nat):Int)>16))=true:=by simp;omega
 rw[hc,bJ];simp[k7,t,bp]
theorem GG {s:ByteArray} (D:s.size<1073741824):gE s=some (k7 s):=by
 unfold gE;simp only[jD,ζb]
 by_cases z:s.size=0
 .simp[z,k7,bp]
 by_cases t:s.size<=16
 .have hc:(decide (((ByteArray.size s:Nat):Int)<1)||decide (((ByteArray.size s:Nat):Int)>16))=false:=by simp;omega
  rw[hc,bL,show (0:Int)=((0:Nat):Int)from rfl,Cx (show 0<s.size by omega)]
  simp only[ζb,Co]
  cases u:xx (wC s 0)with
  | false=>simp[k7,u,bp]
  | true=>
   simp only[Bool.not_true,bL];unfold gE.W1;rw[show (1:Int)=((1:Nat):Int)from rfl,Ef (n:=s.size) (sS s) Za (λi B=>Ls B) (by unfold gE.br;simp[bp]) (s.size-1) 1 Za]
   have w:sS s 0=false:=by simp[sS,u]
   have:k7 s = !iu (sS s) 1 s.size:=by
    have h1:=FC (f:=sS s) (show 0<s.size by omega)
    rw[w]at h1;simp[k7,u,t,h1];omega
   rw[this];cases iu (sS s) 1 s.size <;> rfl
 have hc:(decide (((ByteArray.size s:Nat):Int)<1)||decide (((ByteArray.size s:Nat):Int)>16))=true:=by simp;omega
 rw[hc,bJ];simp[k7,t,bp]
def fO {α:Type} (l:a_ α) (f:α->Bool) (i:Nat):Bool:=match l[i]? with|some y=>f y|none=>false
theorem zj {α:Type} {l:a_ α} {f:α->Bool} {i:Nat} (h:i<l.length):fO l f i=f l[i]:=by unfold fO;rw[ζd h]
theorem B3 {α:Type} {l:a_ α} {f:α->Bool} {p:Nat}:(l.take p).any f=iu (fO l f) 0 p:=by
 rw[Bool.eq_iff_iff,List.any_eq_true,Pp];constructor
 .rintro⟨x,w,t⟩;obtain⟨i,u⟩:=List.getElem?_of_mem w;have z:=(ζe.1 u).1;rw[List.length_take]at z;rw[List.getElem?_take,if_pos Za]at u
  exact⟨i,Nat.zero_le _,by omega,by unfold fO;rw[u];exact t⟩
 rintro⟨i,_,u,t⟩;unfold fO at t;split at t
 next y B=>exact⟨y,List.mem_of_getElem? (i:=i) (by rw[List.getElem?_take,if_pos u];exact B),t⟩
 cases t
def qW (a b:ByteArray):Bool:=ByteArray.toList a==ByteArray.toList b
def Vs:Bool->Bool->Bool->Int
 | true,false,true=>0
 | true,false,false=>2
 | _,_,_=>13
def uO (P:cu) (i:Nat):Int:=match P.vars.l[i]? with
 | some v=>Vs (k7 v.name) (iu (fO P.vars.l λw=>qW w.name v.name) 0 i) (decide (v.init_>=-1073741824)&&decide (v.init_<=1073741824))
 | none=>0
def tB (t:Trace) (p:Nat):Int:=match t.procs.l[p]? with
 | some P=>if k7 P.name && !iu (fO t.procs.l λy=>qW y.name P.name) 0 p then
  (if P.vars.l.length>8 then 5 else if ng (uO P) 0 P.vars.l.length=0 then(if P.events.l.length>64 then 5 else 0)else ng (uO P) 0 P.vars.l.length)else 13
 | none=>0
theorem EU {P:cu} {i:Nat} (h:i<P.vars.l.length):uO P i=Vs (k7 P.vars.l[i].name) (iu (fO P.vars.l λw=>qW w.name P.vars.l[i].name) 0 i) (decide (P.vars.l[i].init_>=-1073741824)&&decide (P.vars.l[i].init_<=1073741824)):=by
 unfold uO;rw[ζd h]
theorem Fu (n:Int):o_ n=some (decide (n>=-1073741824)&&decide (n<=1073741824)):=by
 unfold o_;rw[lz];rfl
theorem Pd {t:Trace} (T:Small t) {p:Nat} (hp:p<t.procs.l.length):dZ t p=some (tB t p):=by
 have X:=T.2 _ (List.getElem_mem hp);have h1:=T.1;unfold dZ tB;rw[bG hp,ζb,ζd hp];generalize Y:t.procs.l[p]=P at *;obtain⟨U,Z,Q,u,_⟩:=X;rw[ET Q,ζb];obtain⟨x,hx,D⟩:=uQ t.procs p Za
 have G:gV x (λz=>jg z P)=some (iu (fO t.procs.l λy=>qW y.name P.name) 0 p):=by
  rw[Hr (p:=λz=>jg z P) (f:=λy=>qW y.name P.name) (λy _=>rfl) (by rw[D,List.length_take];omega),D,B3]
 rw[hx,ζb,G,ζb];dsimp only
 cases hn:k7 P.name with
 | false=>simp[bp]
 | true=>
  rw[bJ,ζb,Bool.true_and]
  cases hd:iu (fO t.procs.l λy=>qW y.name P.name) 0 p with
  | true=>simp[bp]
  | false=>
   rw[bL];simp only[Bool.not_false,if_true]
   by_cases W:P.vars.l.length>8
   .rw[show decide (len P.vars>8)=true from by simp[len];omega,bJ,if_pos W]
   rw[show decide (len P.vars>8)=false from by simp[len];omega,bL,if_neg W]
   unfold dZ.W1;rw[yL (n:=P.vars.l.length) (uO P) Za (λi L=>?_) (by unfold dZ.br;simp[bp,len])]
   .by_cases O:ng (uO P) 0 P.vars.l.length=0
    .rw[if_pos O,if_pos O];show bp (decide (len P.events>64)) (some 5) (some 0)=_;rw[s8];simp only[len,decide_eq_true_eq]
     by_cases I:P.events.l.length>64
     .rw[if_pos I,if_pos Za]
     rw[if_neg I,if_neg Za]
    rw[if_neg O,if_neg O];rfl
   unfold dZ.br;rw[EU L,show decide ((i:Int)<len P.vars)=true from by simp[len];exact L,bJ,bG L,ζb]
   have hv:=u _ (List.getElem_mem L);obtain⟨y,hy,J⟩:=uQ P.vars i Za
   have S:gp y (λz=>jc z P.vars.l[i])=some (iu (fO P.vars.l λw=>qW w.name P.vars.l[i].name) 0 i):=by
    rw[Bb (p:=λz=>jc z P.vars.l[i]) (f:=λw=>qW w.name P.vars.l[i].name) (λw _=>rfl) (by rw[J,List.length_take];omega),J,B3]
   rw[ET hv,ζb,hy,ζb,S,ζb,oy];have hr:(decide (-1073741824<=P.vars.l[i].init_)&&decide (P.vars.l[i].init_<=1073741824))=(decide (P.vars.l[i].init_>=-1073741824)&&decide (P.vars.l[i].init_<=1073741824)):=rfl;rw[hr];generalize k7 P.vars.l[i].name=A;generalize iu (fO P.vars.l λw=>qW w.name P.vars.l[i].name) 0 i=B
   generalize (decide (P.vars.l[i].init_>=-1073741824)&&decide (P.vars.l[i].init_<=1073741824))=C;cases A <;> cases B <;> cases C <;> rfl
theorem OE {t:Trace} (O:Small t) {p:Nat} (hp:p<t.procs.l.length):dM t p=some (tB t p):=by
 have T:=O.2 _ (List.getElem_mem hp);have h1:=O.1;unfold dM tB;rw[bG hp,ζb,ζd hp];generalize U:t.procs.l[p]=P at *;obtain⟨Q,W,L,z,_⟩:=T;rw[GG L,ζb];dsimp only
 cases Z:k7 P.name with
 | false=>simp[bp]
 | true=>
  rw[bJ,Bool.true_and];unfold dM.W1;rw[BC (n:=p) (fO t.procs.l λy=>qW y.name P.name) Za (λi u=>?_) (by unfold dM.br;simp[bp])]
  .cases hd:iu (fO t.procs.l λy=>qW y.name P.name) 0 p with
   | true=>rfl
   | false=>
    simp only[Bool.not_false,if_true];show bp (decide (len P.vars>8)) (some 5) (dM.W2 0 P)=_
    by_cases S:P.vars.l.length>8
    .rw[show decide (len P.vars>8)=true from by simp[len];omega,bJ,if_pos S]
    rw[show decide (len P.vars>8)=false from by simp[len];omega,bL,if_neg S]
    unfold dM.W2;rw[yL (n:=P.vars.l.length) (uO P) Za (λi u=>?_) (by unfold dM.cm;simp[bp,len])]
    .by_cases J:ng (uO P) 0 P.vars.l.length=0
     .rw[if_pos J,if_pos J];show bp (decide (len P.events>64)) (some 5) (some 0)=_;rw[s8];simp only[len,decide_eq_true_eq]
      by_cases D:P.events.l.length>64
      .rw[if_pos D,if_pos Za]
      rw[if_neg D,if_neg Za]
     rw[if_neg J,if_neg J];rfl
    unfold dM.cm;rw[EU u,show decide ((i:Int)<len P.vars)=true from by simp[len];exact u,bJ,bG u,ζb]
    rw[GG (z _ (List.getElem_mem u)),ζb];have X:dM.W3 i 0 P=if iu (fO P.vars.l λw=>qW w.name P.vars.l[i].name) 0 i then some (.r 13)else(if decide (P.vars.l[i].init_>=-1073741824)&&decide (P.vars.l[i].init_<=1073741824)then some (.n (IntKind.wrap .i64 ((i:Int)+1)))else some (.r 2)):=by
     unfold dM.W3;rw[BC (n:=i) (fO P.vars.l λw=>qW w.name P.vars.l[i].name) Za (λj Y=>?_) (by unfold dM.eS;simp[bp])]
     .cases iu (fO P.vars.l λw=>qW w.name P.vars.l[i].name) 0 i with
      | true=>rfl
      | false=>
       show (idx P.vars (i:Int)).bind _=_;rw[bG u,ζb,Fu,ζb];cases (decide (P.vars.l[i].init_>=-1073741824)&&decide (P.vars.l[i].init_<=1073741824)) <;> rfl
     unfold dM.eS;have G:j<P.vars.l.length:=by omega
     rw[show decide ((j:Int)<(i:Int))=true from by simpa using Y,bJ,bG G,ζb,bG u,ζb,zj G,s8];rfl
    rw[X];generalize k7 P.vars.l[i].name=A;generalize iu (fO P.vars.l λw=>qW w.name P.vars.l[i].name) 0 i=B
    generalize (decide (P.vars.l[i].init_>=-1073741824)&&decide (P.vars.l[i].init_<=1073741824))=C;cases A <;> cases B <;> cases C <;> rfl
  unfold dM.br;have I:i<t.procs.l.length:=by omega
  rw[show decide ((i:Int)<(p:Int))=true from by simpa using u,bJ,bG I,ζb,zj I,s8];rfl
def GJ (n:Nat) (p:Int) (e:Event):Bool:=if e.kind==1 then e.peer==0&&e.message==0 else(e.kind==2||e.kind==3)&&(decide (0<=e.peer)&&decide (e.peer<n)) && !(e.peer==p)&&(decide (0<=e.message)&&decide (e.message<=199))
theorem MH {t:Trace} (D:Small t) (p:Int) (e:Event):gY t p e=some (GJ t.procs.l.length p e):=by
 have h1:=D.1;have w:IntKind.wrap .i64 (len t.procs-1)=len t.procs-1:=mT _ (by simp[len];omega) (by simp[len];omega)
 have u:∀b:Bool,gY.J1 p b t e=some (b&&(decide (0<=e.peer)&&decide (e.peer<t.procs.l.length)) && !(e.peer==p)&&(decide (0<=e.message)&&decide (e.message<=199))):=by
  intro b;unfold gY.J1;simp only[oy,w,ζb];have:decide (e.peer<=len t.procs-1)=decide (e.peer<t.procs.l.length):=by congr 1;apply propext;simp[len];omega
  rw[this];generalize (decide (0<=e.peer)&&decide (e.peer<(t.procs.l.length:Int)))=A;generalize (e.peer==p)=B;generalize (decide (0<=e.message)&&decide (e.message<=199))=C;cases b <;> cases A <;> cases B <;> cases C <;> rfl
 unfold gY GJ;rw[u,u]
 cases h1:e.kind==1 with
 | true=>
  rw[bJ];cases e.peer==0 <;> cases e.message==0 <;> rfl
 | false=>
  rw[bL];simp only[Bool.false_eq_true,if_false];cases z:e.kind==2 <;> simp[bp]
def Dm (P:cu) (k:Nat) (e:Event):Bool:=match k with|0=>false|j+1=>fO P.events.l (λx=>decide (e.time<x.time)) j
def ud (P:cu) (k:Nat) (e:Event):Bool:=decide (e.time<0)||decide (e.time>1099511627776)||Dm P k e
def Uc:Bool->Bool->Bool->Int
 | true,true,false=>0
 | true,true,true=>8
 | _,_,_=>2
def qC (P:cu) (e:Event) (i:Nat):Int:=match e.assign.l[i]? with
 | some a=>Uc (decide (0<=a.var)&&decide (a.var<P.vars.l.length)) (decide (a.value>=-1073741824)&&decide (a.value<=1073741824)) (iu (fO e.assign.l λb=>b.var==a.var) 0 i)
 | none=>0
theorem Fy {P:cu} {e:Event} {i:Nat} (h:i<e.assign.l.length):qC P e i=Uc (decide (0<=e.assign.l[i].var)&&decide (e.assign.l[i].var<P.vars.l.length)) (decide (e.assign.l[i].value>=-1073741824)&&decide (e.assign.l[i].value<=1073741824)) (iu (fO e.assign.l λb=>b.var==e.assign.l[i].var) 0 i):=by
 unfold qC;rw[ζd h]
def oN (n:Nat) (P:cu) (p k:Nat) (e:Event):Int:=if GJ n p e then(if ud P k e then 11 else if e.assign.l.length>8 then 5 else ng (qC P e) 0 e.assign.l.length)else 3
theorem L4 {P:cu} {e:Event} (hv:P.vars.l.length<1073741824) (O:e.assign.l.length<1073741824):dy.W2 e.assign (len e.assign) 0 e P=some (ng (qC P e) 0 e.assign.l.length):=by
 have I:IntKind.wrap .i64 (len P.vars-1)=len P.vars-1:=mT _ (by simp[len];omega) (by simp[len];omega)
 unfold dy.W2;rw[yL (n:=e.assign.l.length) (qC P e) Za (λi u=>?_) (by unfold dy.cm;simp[bp,len])]
 .by_cases D:ng (qC P e) 0 e.assign.l.length=0
  .rw[if_pos D,D];rfl
  rw[if_neg D];rfl
 unfold dy.cm;obtain⟨y,J,t⟩:=uQ e.assign i Za
 have G:gB y (λz=>jR z e.assign.l[i])=some (iu (fO e.assign.l λb=>b.var==e.assign.l[i].var) 0 i):=by
  rw[Eb (p:=λz=>jR z e.assign.l[i]) (f:=λb=>b.var==e.assign.l[i].var) (λw _=>rfl) (by rw[t,List.length_take];omega),t,B3]
 rw[Fy u,show decide ((i:Int)<len e.assign)=true from by simp[len];exact u,bJ,bG u,ζb,oy,oy,I,J,ζb,ζb,ζb,G,ζb]
 have h1:(decide (0<=e.assign.l[i].var)&&decide (e.assign.l[i].var<=len P.vars-1))=(decide (0<=e.assign.l[i].var)&&decide (e.assign.l[i].var<P.vars.l.length)):=by
  congr 2;apply propext;simp[len];omega
 have L:(decide (-1073741824<=e.assign.l[i].value)&&decide (e.assign.l[i].value<=1073741824))=(decide (e.assign.l[i].value>=-1073741824)&&decide (e.assign.l[i].value<=1073741824)):=rfl;rw[h1,L];generalize (decide (0<=e.assign.l[i].var)&&decide (e.assign.l[i].var<(P.vars.l.length:Int)))=A;generalize (decide (e.assign.l[i].value>=-1073741824)&&decide (e.assign.l[i].value<=1073741824))=B;generalize iu (fO e.assign.l λb=>b.var==e.assign.l[i].var) 0 i=C
 cases A <;> cases B <;> cases C <;> rfl
theorem NA {t:Trace} (D:Small t) {p k:Nat} {P:cu} {e:Event} (G:t.procs.l[p]? = some P) (O:P.events.l[k]? = some e):dy t ⟨p,k+1⟩ e=some (oN t.procs.l.length P p k e):=by
 obtain⟨Q,w⟩:=ζe.1 G;obtain⟨hk,z⟩:=ζe.1 O;obtain⟨I,B,_,_,C⟩:=D.2 P (w▸List.getElem_mem Q);have S:=C e (z▸List.getElem_mem hk);have J:∀last:Int,((decide (0<=e.time)&&decide (e.time<=1099511627776)) && !decide (e.time<last))=(!ud P k e) ->
  dy.J1 last t ⟨p,k+1⟩ e P=some (oN t.procs.l.length P p k e):=by
  intro last T;unfold dy.J1 oN;rw[MH D,ζb,oy,ζb,L4 B S];dsimp only
  cases GJ t.procs.l.length p e with
  | false=>rfl
  | true=>
   rw[bJ,if_pos rfl];have:(bp (decide (0<=e.time)&&decide (e.time<=1099511627776)) (some (decide (e.time<last))) (some true):bf Bool)=some (ud P k e):=by
    have U:(!((decide (0<=e.time)&&decide (e.time<=1099511627776)) && !decide (e.time<last)))=ud P k e:=by rw[T,Bool.not_not]
    rw[<-U];cases (decide (0<=e.time)&&decide (e.time<=1099511627776)) <;> cases decide (e.time<last) <;> rfl
   rw[this,ζb]
   cases ud P k e with
   | true=>rfl
   | false=>
    rw[bL];simp only[Bool.false_eq_true,if_false]
    by_cases L:e.assign.l.length>8
    .rw[show decide (len e.assign>8)=true from by simp[len];omega,bJ,if_pos L]
    rw[show decide (len e.assign>8)=false from by simp[len];omega,bL,if_neg L]
 unfold dy;dsimp only;rw[show idx t.procs (p:Int)=some P from by rw[qO];exact G,ζb]
 cases k with
 | zero=>
  rw[show decide (((0:Nat):Int)+1>1)=false from by decide,bL]
  refine J 0 ?_;simp only[ud,Dm,Bool.or_false];rw[Bool.eq_iff_iff];simp only[ζh,Bool.not_eq_true',decide_eq_true_eq,decide_eq_false_iff_not,Bool.or_eq_false_iff];omega
 | succ j=>
  rw[show decide ((((j+1:Nat)):Int)+1>1)=true from by simp;omega,bJ]
  have u:j<P.events.l.length:=by omega
  have W:IntKind.wrap .i64 ((((j+1:Nat)):Int)+1-2)=((j:Nat):Int):=by rw[mT _ Za Za];omega
  rw[W,bG u,ζb];refine J _ ?_;simp only[ud,Dm,zj u];rw[Bool.eq_iff_iff];simp only[ζh,Bool.not_eq_true',decide_eq_true_eq,decide_eq_false_iff_not,Bool.or_eq_false_iff];omega
theorem KO {t:Trace} {p:Nat} {P:cu} {e:Event} (D:t.procs.l[p]? = some P) (J:e.assign.l.length<1073741824):dN.W2 p 0 t e=some (ng (qC P e) 0 e.assign.l.length):=by
 unfold dN.W2;rw[yL (n:=e.assign.l.length) (qC P e) Za (λi w=>?_) (by unfold dN.cm;simp[bp,len])]
 .by_cases z:ng (qC P e) 0 e.assign.l.length=0
  .rw[if_pos z,z];rfl
  rw[if_neg z];rfl
 unfold dN.cm;have G:dN.W3 p i 0 t e e.assign.l[i]=if iu (fO e.assign.l λb=>b.var==e.assign.l[i].var) 0 i then some (.r 8)else some (.n (IntKind.wrap .i64 ((i:Int)+1))):=by
  unfold dN.W3;rw[BC (n:=i) (fO e.assign.l λb=>b.var==e.assign.l[i].var) Za (λj I=>?_) (by unfold dN.eS;simp[bp])]
  .cases iu (fO e.assign.l λb=>b.var==e.assign.l[i].var) 0 i <;> rfl
  unfold dN.eS;have u:j<e.assign.l.length:=by omega
  rw[show decide ((j:Int)<(i:Int))=true from by simpa using I,bJ,bG u,ζb,zj u,s8]
 rw[Fy w,show decide ((i:Int)<len e.assign)=true from by simp[len];exact w,bJ,bG w,ζb,G,Fu,ζb,show idx t.procs (p:Int)=some P from by rw[qO];exact D,ζb]
 have h1:(bp (decide (e.assign.l[i].var<0)) (some true) (some (decide (e.assign.l[i].var>=len P.vars))):bf Bool)=some (!(decide (0<=e.assign.l[i].var)&&decide (e.assign.l[i].var<P.vars.l.length))):=by
  rw[jD];congr 1;rw[Bool.eq_iff_iff];simp only[Bool.or_eq_true,Bool.not_eq_true',decide_eq_true_eq,Bool.and_eq_false_iff,decide_eq_false_iff_not,len];omega
 rw[h1,ζb];generalize (decide (0<=e.assign.l[i].var)&&decide (e.assign.l[i].var<(P.vars.l.length:Int)))=A;generalize (decide (e.assign.l[i].value>=-1073741824)&&decide (e.assign.l[i].value<=1073741824))=B;generalize iu (fO e.assign.l λb=>b.var==e.assign.l[i].var) 0 i=C
 cases A <;> cases B <;> cases C <;> rfl
theorem OW {t:Trace} (T:Small t) {p k:Nat} {P:cu} {e:Event} (J:t.procs.l[p]? = some P) (O:P.events.l[k]? = some e):dN t p k=some (oN t.procs.l.length P p k e):=by
 obtain⟨U,w⟩:=ζe.1 J;obtain⟨hk,z⟩:=ζe.1 O;obtain⟨Q,W,_,_,I⟩:=T.2 P (w▸List.getElem_mem U);have X:=I e (z▸List.getElem_mem hk);have Y:dN.J1 p k t e=some (if ud P k e then 11 else if e.assign.l.length>8 then 5 else ng (qC P e) 0 e.assign.l.length):=by
  unfold dN.J1;rw[jD,ζb,KO J X,show idx t.procs (p:Int)=some P from by rw[qO];exact J,ζb]
  have h1:(bp (decide ((k:Int)>0)) ((idx P.events (IntKind.wrap .i64 ((k:Int)-1))).bind λL=>some (decide (e.time<L.time))) (some false):bf Bool)=some (Dm P k e):=by
   cases k with
   | zero=>rfl
   | succ j=>
    have u:j<P.events.l.length:=by omega
    rw[show decide ((((j+1:Nat)):Int)>0)=true from by simp only[decide_eq_true_eq];omega,bJ,show IntKind.wrap .i64 ((((j+1:Nat)):Int)-1)=((j:Nat):Int)from by rw[mT _ Za Za];omega,bG u,ζb]
    simp only[Dm,zj u]
  rw[h1,ζb,jD,ζb];show bp (ud P k e) _ _=_
  cases ud P k e with
  | true=>rfl
  | false=>
   rw[bL];simp only[Bool.false_eq_true,if_false]
   by_cases S:e.assign.l.length>8
   .rw[show decide (len e.assign>8)=true from by simp[len];omega,bJ,if_pos S]
   rw[show decide (len e.assign>8)=false from by simp[len];omega,bL,if_neg S]
 unfold dN oN;rw[show idx t.procs (p:Int)=some P from by rw[qO];exact J,ζb,show idx P.events (k:Int)=some e from by rw[qO];exact O,ζb,Y]
 unfold GJ
 cases h1:e.kind==1 with
 | true=>
  rw[bJ];simp only[if_true];cases e.peer==0 <;> cases e.message==0 <;> rfl
 | false=>
  rw[bL];simp only[Bool.false_eq_true,if_false];have h2:(bp (e.kind==2) (some false) (some (!(e.kind==3))):bf Bool)=some (!(e.kind==2||e.kind==3)):=by cases e.kind==2 <;> rfl
  rw[h2,ζb,jD,ζb,jD,ζb,jD,ζb,jD,ζb,jD,ζb];have h3:(((((!(e.kind==2||e.kind==3))||decide (e.peer<0))||decide (e.peer>=len t.procs))||(e.peer==p))||decide (e.message<0)||decide (e.message>199)) = !((e.kind==2||e.kind==3)&&(decide (0<=e.peer)&&decide (e.peer<t.procs.l.length)) && !(e.peer==p)&&(decide (0<=e.message)&&decide (e.message<=199))):=by
   generalize (e.kind==2||e.kind==3)=A;have a1:decide (e.peer<0) = !decide (0<=e.peer):=by rw[Bool.eq_iff_iff];simp
   have a2:decide (e.peer>=len t.procs) = !decide (e.peer<t.procs.l.length):=by rw[Bool.eq_iff_iff];simp[len]
   have a3:decide (e.message<0) = !decide (0<=e.message):=by rw[Bool.eq_iff_iff];simp
   have a4:decide (e.message>199) = !decide (e.message<=199):=by rw[Bool.eq_iff_iff];simp
   rw[a1,a2,a3,a4];generalize decide (0<=e.peer)=B;generalize decide (e.peer<(t.procs.l.length:Int))=C;generalize (e.peer==(p:Int))=D;generalize decide (0<=e.message)=F;generalize decide (e.message<=199)=G;cases A <;> cases B <;> cases C <;> cases D <;> cases F <;> cases G <;> rfl
  rw[h3];generalize ((e.kind==2||e.kind==3)&&(decide (0<=e.peer)&&decide (e.peer<(t.procs.l.length:Int))) && !(e.peer==(p:Int))&&(decide (0<=e.message)&&decide (e.message<=199)))=Z;cases Z <;> rfl
theorem Kz {n:Nat} {p:Int} {e:Event} (h:GJ n p e=true):kn n p e:=by
 unfold GJ at h;split at h
 next h1=>left;simpa using h1
 right;simp only[ζh,Bool.or_eq_true,beq_iff_eq,decide_eq_true_eq,Bool.not_eq_true',beq_eq_false_iff_ne,ne_eq]at h;obtain⟨⟨⟨h1,t⟩,w⟩,u⟩:=h;exact⟨h1,t.1,t.2,w,u.1,u.2⟩
theorem H9 {n:Nat} {P:cu} {p k:Nat} {e:Event} (h:oN n P p k e=0):kn n p e:=by
 unfold oN at h;split at h
 next h1=>exact Kz h1
 cases h
theorem BQ {α:Type} [DecidableEq α]:∀{l r:a_ α},l.Nodup->(∀x∈l,x∈r)->l.length<=r.length
 | [],_,_,_=>Nat.zero_le _
 | x::l,r,B,D=>by
  have u:=List.nodup_cons.1 B;have:=BQ  (r:=r.erase x) u.2 λy t=>(List.mem_erase_of_ne Zd).2 (D y (List.mem_cons_of_mem _ t))
  grind
section
variable {κ:Type} [DecidableEq κ]
theorem yT {ν:Type} {k:κ}:∀{m:Mo κ ν},k∉m.map (·.1)->uc k m=none
 | [],_=>rfl
 | (a,v)::r,h=>by
  simp only[List.map_cons,List.mem_cons,not_or]at h;unfold uc;rw[if_neg h.1];exact yT h.2
theorem za {ν:Type} {k:κ}:∀{m:Mo κ ν},k∈m.map (·.1)->∃v,uc k m=some v/\(k,v)∈m
 | [],h=>by simp_all
 | (a,v)::r,h=>by
  unfold uc
  by_cases e:k=a
  .grind
  obtain⟨w,h1,u⟩:=za  (by simpa [e]using h)
  grind
theorem pn {ν:Type} {k:κ} {v:ν}:∀{m:Mo κ ν},k∉m.map (·.1)->nr m k v=m++[(k,v)]
 | [],_=>rfl
 | (a,w)::r,h=>by
  simp only[List.map_cons,List.mem_cons,not_or]at h;show (if k=a then _ else _)=_;rw[if_neg h.1,pn h.2];rfl
end
def Vd (t:Trace) (y:bg):Prop:=∃e,(y,e)∈bT t
theorem Vd.at_ {t:Trace} {y:bg} (h:Vd t y):∃(p k:Nat) (e:Event),lI t p k e/\y=⟨p,k+1⟩/\(y,e)∈bT t:=by
 obtain⟨e,u⟩:=h
 grind[eo]
def Gg (t:Trace) (y z:bg):Prop:=∃e f,(y,e)∈bT t/\(z,f)∈bT t/\e.kind=2/\f.kind=3/\e.message=f.message
def Edge (t:Trace) (y z:bg):Prop:=Vd t y/\Vd t z/\(z=⟨y.proc,y.index+1⟩\/Gg t y z)
abbrev Way (t:Trace):bg->bg->Prop:=Relation.TransGen (Edge t)
def Kj (t:Trace):Prop:=∃x,Way t x x
theorem Way.l {t:Trace} {x y:bg} (h:Way t x y):Vd t x:=by
 induction h with
 | single h=>exact h.1
 | tail _ _ u=>omega
theorem Way.r {t:Trace} {x y:bg} (h:Way t x y):Vd t y:=by
 cases h with
 | single h=>exact h.2.1
 | tail _ h=>exact h.2.1
theorem P7 {t:Trace} (hS:Small t) (hF:∀x∈bT t,kn t.procs.l.length x.1.proc x.2) {A:bP 200 bt} (hA:fR t (bT t) A) {y:bg} (J:Vd t y) :
 Wp (iI t A y) λs=>s.l.length<=2/\∀z,z∈s.l↔Edge t y z:=by
 obtain⟨p,k,e,O,C,u⟩:=J.at_;obtain⟨P,S,hk⟩:=O;have T:P∈t.procs.l:=List.mem_of_getElem? S;have h1:=(hS.2 P T).1;have Z:k<P.events.l.length:=(ζe.1 hk).1;have D:y.proc=p:=by rw[C]
 have U:y.index=k+1:=by rw[C]
 have j:∀s:Sl bg,s.l.length<=1->(∀z,z∈s.l↔Vd t z/\z=⟨y.proc,y.index+1⟩)->Wp (iI.J1 A s P.events y) λs=>s.l.length<=2/\∀z,z∈s.l↔Edge t y z:=by
  intro s hs w;have no:¬(∃z,Gg t y z)->s.l.length<=2/\∀z,z∈s.l↔Edge t y z:=λhn=>⟨by omega,λz=>(w z).trans ⟨λh=>⟨J,h.1,.inl h.2⟩,λh=>⟨h.2.1,h.2.2.elim id λh=>(hn ⟨z,h⟩).elim⟩⟩⟩
  unfold iI.J1;have W:IntKind.wrap .i64 (y.index-1)=((k:Nat):Int):=by rw[U,mT _ Za Za];omega
  rw[W,qO,hk,ζb,eY,cg];constructor
  .intro B;have B:e.kind=2:=by grind
   have I:0<=e.message/\e.message<=199:=by
    rcases hF _ u with h|⟨_,_,_,_,h⟩
    all_goals grind
   have to_:∀z,Gg t y z->(ag A e.message).to_=z:=λz ⟨X,f,Y,L,a3,a4,a5⟩=>by
    cases Ci Y u rfl;rw[a5];exact(hA.rcv _ L a4).1
   rw[L1 A I.1 I.2,ζb,bk,cg];refine⟨λh=>?_,λh=>(bk _).2 (no λ⟨z,w⟩=>?_)⟩
   .have h:(ag A e.message).to_.index>0:=by grind
    rw[ζb];unfold eT;rw[if_pos Za,ζb,bk]
    refine⟨by show (s.l++[(ag A e.message).to_]).length<=2;grind,λz=>?_⟩
    have G:Gg t y (ag A e.message).to_:=by
     rcases hA.to e.message I.1 I.2 with h0|⟨X,h1,h2,h3⟩
     .omega
     exact⟨e,X,u,h1,B,h2,h3.symm⟩
    show z∈s.l++[(ag A e.message).to_]↔_;rw[List.mem_append,List.mem_singleton,w];constructor
    .rintro (h|rfl)
     .exact⟨J,h.1,.inl h.2⟩
     exact⟨J,let ⟨_,f,_,L,_⟩:=G;⟨f,L⟩,.inr G⟩
    rintro⟨_,h1,h2|h2⟩
    all_goals grind
   rw[to_ z w]at h;obtain⟨_,f,_,L,_⟩:=w
   grind[eo]
  intro B;rw[bk,cg];refine⟨λh=>(by cases h),λ_=>(bk _).2 (no λ⟨z,X,f,Y,_,a3,_⟩=>?_)⟩
  cases Ci Y u rfl
  grind
 unfold iI;rw[D,qO,S,ζb,cg];rw[D]at j;constructor
 .intro h;have h:y.index<len P.events:=by grind
  have B:k+1<P.events.l.length:=by grind
  refine j _ (by simp[Sl.l]) λz=>?_
  have W:IntKind.wrap .i64 (y.index+1)=y.index+1:=mT _ Za Za
  simp only[Sl.l,List.mem_singleton,W];refine⟨λw=>⟨⟨P.events.l[k+1],eo.2 ⟨p,k+1,⟨P,S,ζd B⟩,?_⟩⟩,w⟩,λw=>w.2⟩
  grind
 intro h;have h:¬y.index<len P.events:=by grind
 refine j _ (by simp[Sl.l]) λz=>⟨λw=>by grind[Sl.l],λ⟨w,he⟩=>?_⟩
 obtain⟨q,i,f,⟨Q,hQ,hi⟩,aa,_⟩:=w.at_
 grind
structure Im (t:Trace) (x:bg) (rest:Sl bg) (m:Mo bg Bool) (U:bg->Prop):Prop where
 rst:∀y∈rest.l,y=x\/Way t x y
 keys:(m.map (·.1)).Nodup
 seen:∀y∈m,Way t x y.1/\y.1≠x/\y.2=true
 le:rest.l.length<=m.length+1
 done:∀y,y=x\/y∈m.map (·.1)->y∈rest.l\/U y\/∀z,Edge t y z->z∈m.map (·.1)
theorem Im.count {t:Trace} {x:bg} {rest:Sl bg} {m:Mo bg Bool} {U:bg->Prop} (h:Im t x rest m U):m.length<=(bT t).length:=by
 have:=BQ (r:=(bT t).map (·.1)) h.keys λx u=>by
  obtain⟨y,w,rfl⟩:=List.mem_map.1 u;obtain⟨e,z⟩:=(h.seen y w).1.r
  grind
 grind
theorem NI {t:Trace} (hS:Small t) (hN:(bT t).length<1073741824) (hF:∀x∈bT t,kn t.procs.l.length x.1.proc x.2) {A:bP 200 bt} (hA:fR t (bT t) A):Wp (gX t A) λr=>(r.2=true↔Kj t):=by
 unfold gX jw;rw[ζb];unfold gX.E1;rw[vl hS,ζb];refine AS (λk _=>∀x∈(bT t).take k,¬Way t x.1 x.1) Zc ?_ λ_ h=>(bk _).2 ⟨λh=>(by cases h),λ⟨x,hx⟩=>?_⟩
 .intro i x _ hx ar;have ah:x∈bT t:=List.mem_of_getElem? hx;refine Wp.mono (P:=λw=>match w with|.n s=>¬Way t x.1 x.1|.x e=>False|.r e=>Kj t) ?_ λw hw=>by
   cases w with
   | n s=>
    intro y hy;rw[List.take_add_one,hx]at hy
    grind
   | x e=>grind
   | r b=>exact(bk _).2 ⟨λ_=>hw,λ_=>rfl⟩
  refine eG (λq:Sl bg×Mo bg Bool=>Im t x.1 q.1 q.2 λ_=>False) (λq=>2*((bT t).length-q.2.length)+q.1.l.length) ⟨λy hy=>.inl (by simpa [Sl.l]using hy),by simp,by simp,by simp[Sl.l],λy hy=>.inl ?_⟩ ?_
  .simpa [Sl.l]using hy
  rintro⟨rest,m⟩ L;unfold gX.cm;rw[cg];refine⟨λh=>?_,λh=>(bk _).2 ((bk _).2 λhw=>?_)⟩
  .have G:0<rest.l.length:=by
    grind
   have hc:=L.count;have av:=L.le;have hw:IntKind.wrap .i64 ((len rest)-1)=(rest.l.length-1:Nat):=by
    rw[mT _ Zd Zd];grind
   have I:rest.l.length-1<rest.l.length:=by omega
   rw[hw];have h1:Sl.j7 rest (rest.l.length-1:Nat)=some (rest.l.length-1):=by
    unfold Sl.j7;grind
   have h2:Sl.get rest (rest.l.length-1)=some rest.l[rest.l.length-1]:=by unfold Sl.get;grind
   obtain⟨cut,h3,h4⟩:∃x,kO rest none (some ((rest.l.length-1:Nat):Int))=some x/\x.l=rest.l.take (rest.l.length-1):=by
    cases rest with
    | nil=>simp[Sl.l]at G
    | emp=>simp[Sl.l]at G
    | row l=>
     simp only[Sl.l]at G ⊢;unfold kO dH;simp_all
    | part l=>
     simp[Sl.l]at G ⊢;unfold kO dH;simp_all
   rw[h1,ζb,h2,ζb,h3,ζb,eY];generalize ai:rest.l[rest.l.length-1]=y;have aj:y∈rest.l:=ai▸List.getElem_mem I;have O:∀z,z∈rest.l->z∈cut.l\/z=y:=λz hz=>by
    have:rest.l.take (rest.l.length-1)++rest.l.drop (rest.l.length-1)=rest.l:=List.take_append_drop ..;rw[<-this]at hz;rcases List.mem_append.1 hz with hz|hz
    .grind
    rw[List.drop_eq_getElem_cons I,List.drop_of_length_le Za]at hz
    grind
   have aa  := L.rst _ aj;have ak  := aa.elim (λe=>⟨x.2,e▸ah⟩) Way.r
   refine(P7 hS hF hA ak).mono λs hs=>?_
   refine eG (λq:Sl bg×Int×Mo bg Bool=>∃n:Nat,q.2.1=n/\n<=s.l.length/\Im t x.1 q.1 q.2.2 (λu=>u=y)/\(∀z∈s.l.take n,z∈q.2.2.map (·.1))/\2*((bT t).length-q.2.2.length)+q.1.l.length<2*((bT t).length-m.length)+rest.l.length) (λq=>s.l.length-q.2.1.toNat)
    ⟨0,rfl,Nat.zero_le _,⟨λz hz=>L.rst z Zd,L.keys,L.seen,by grind,λu hu=>?_⟩,by simp,by grind⟩ ?_
   .rcases L.done u hu with h|h|h
    .exact(O u h).imp_right .inl
    .exact h.elim
    exact .inr (.inr h)
   rintro⟨C,i2,W⟩ ⟨n,rfl,hn,B,J,hμ⟩;simp only at B hμ J;unfold gX.eS;rw[cg];constructor
   .intro h;have X:n<s.l.length:=by simpa [len]using h
    have ab:=(hs.2 s.l[n]).1 (List.getElem_mem X);have Q:Way t x.1 s.l[n]:=aa.elim (λe=>.single (e▸ab)) λh=>.tail h ab
    rw[bG X,ζb,cg];refine⟨λZ=>(bk _).2 ((bk _).2 ((bk _).2 ⟨x.1,?_⟩)),λS=>?_⟩
    .have:s.l[n]=x.1:=by
      unfold J_ at Z
      revert Z;cases s.l[n];cases x.1;intro Z;simpa using Z
     rw[this]at Q;exact Q
    have S:s.l[n]≠x.1:=λe=>by rw[e]at S;simp[J_]at S
    have T:=cH n Za
    have ad:s.l.take (n+1)=s.l.take n++[s.l[n]]:=by rw[List.take_add_one,ζd X];rfl
    rw[cg];refine⟨λhg=>(bk _).2 ⟨⟨n+1,T,by omega,B,λz hz=>?_,hμ⟩,by show _-(IntKind.wrap .i64 ((n:Int)+1)).toNat<_;rw[T];simp;omega⟩,λY=>?_⟩
    .rw[ad]at hz;rcases List.mem_append.1 hz with hz|hz
     .exact J z hz
     simp[List.mem_singleton]at hz;subst hz;apply Classical.byContradiction;intro hk;unfold wY at hg;rw[yT hk]at hg;cases hg
    have aw:=B.count;have au:=B.le;unfold eT;rw[if_pos (show C.l.length+1<=2147483648 from by omega),ζb,bk]
    have D:s.l[n]∉W.map (·.1):=λal=>by
     obtain⟨v,hv,am⟩:=za al;have:=(B.seen _ am).2.2;simp only at this;subst this;unfold wY at Y;rw[hv]at Y;cases Y
    have U:∀z,z∈(nr W s.l[n] true).map (·.1)↔z∈W.map (·.1)\/z=s.l[n]:=λz=>by
     rw[pn D,List.map_append,List.mem_append];simp
    have ae:Im t x.1 (.row (C.l++[s.l[n]])) (nr W s.l[n] true) (λu=>u=y):=by
     refine⟨λy hy=>?_,?_,λy hy=>?_,?_,λu hu=>?_⟩
     .simp[Sl.l,List.mem_singleton]at hy;rcases hy with hy|rfl
      .exact B.rst y hy
      exact .inr Q
     .rw[pn D,List.map_append,List.nodup_append];refine⟨B.keys,by simp,λa ha b hb=>?_⟩
      simp[List.mem_singleton]at hb;subst hb;exact λe=>D (e▸ha)
     .rw[pn D]at hy;rcases List.mem_append.1 hy with hy|hy
      .exact B.seen y hy
      simp[List.mem_singleton]at hy;subst hy;exact⟨Q,S,rfl⟩
     .rw[pn D];show (C.l++[s.l[n]]).length<=_;rw[ζi,ζi,List.length_singleton,List.length_singleton];omega
     simp only[Sl.l,List.mem_append,List.mem_singleton];have af:u=x.1\/u∈W.map (·.1)->(u∈C.l\/u=s.l[n])\/u=y\/∀z,Edge t u z->z∈(nr W s.l[n] true).map (·.1):=λhu=>by
      rcases B.done u hu with h|h|h
      .exact .inl (.inl h)
      .exact .inr (.inl h)
      exact .inr (.inr λz hz=>(U z).2 (.inl (h z hz)))
     rcases hu with hu|hu
     .exact af (.inl hu)
     rcases (U u).1 hu with hu|hu
     .exact af (.inr hu)
     exact .inl (.inr hu)
    have an:=ae.count;refine⟨⟨n+1,T,by omega,ae,λz hz=>?_,?_⟩,by show _-(IntKind.wrap .i64 ((n)+1)).toNat<_;rw[T];simp;omega⟩
    .rw[ad]at hz;rcases List.mem_append.1 hz with hz|hz
     .exact(U z).2 (.inl (J z hz))
     exact(U z).2 (.inr (by simpa using hz))
    rw[pn D,ζi,List.length_singleton]at an;show 2*((bT t).length-(nr W s.l[n] true).length)+(C.l++[s.l[n]]).length<_;rw[pn D,ζi,ζi,List.length_singleton,List.length_singleton];omega
   intro h;have ao:s.l.length<=n:=by simpa [len]using h
   rw[List.take_of_length_le ao]at J;refine(bk _).2 ((bk _).2 ⟨⟨B.rst,B.keys,B.seen,B.le,λu hu=>?_⟩,hμ⟩)
   rcases B.done u hu with h|h|h
   .exact .inl h
   .subst h;exact .inr (.inr λz hz=>J z ((hs.2 z).2 hz))
   exact .inr (.inr h)
  have ap:rest.l=[]:=by
   have:¬len rest>0:=by simpa using h
   simp[len]at this;exact this
  have hd:∀y,y=x.1\/y∈m.map (·.1)->∀z,Edge t y z->z∈m.map (·.1):=λy hy=>by
   rcases L.done y hy with h|h|h
   .simp only[ap]at h;cases h
   .exact h.elim
   exact h
  have key:∀z,Way t x.1 z->z∈m.map (·.1):=λz hz=>by
   induction hz with
   | single h=>exact hd _ (.inl rfl) _ h
   | tail _ h ih=>exact hd _ (.inr ih) _ h
  obtain⟨y,hy,aq⟩:=List.mem_map.1 (key _ hw);exact(L.seen y hy).2.1 aq
 obtain⟨e,Z⟩:=hx.l;rw[List.take_length]at h;exact absurd hx (h _ Z)
structure Ok (t:Trace):Prop where
 one:1<=t.procs.l.length
 few:t.procs.l.length<=8
 heads:∀p,p<t.procs.l.length->tB t p=0
 fq:∀(p k:Nat) P e,t.procs.l[p]? = some P->P.events.l[k]? = some e->oN t.procs.l.length P p k e=0
 NN:xY t
 acyc:¬Kj t
theorem ER {t:Trace} (h:∀(p k:Nat) P e,t.procs.l[p]? = some P->P.events.l[k]? = some e->oN t.procs.l.length P p k e=0):∀x∈bT t,kn t.procs.l.length x.1.proc x.2:=λx w=>by
 obtain⟨p,k,⟨P,z,B⟩,u⟩:=eo.1 w;rw[u];exact H9 (h p k P _ z B)
structure VT (t:Trace):Prop where
 formed:∀x∈bT t,kn t.procs.l.length x.1.proc x.2
 msgs:∃A i,d_ t=some (some A,i,0)/\fR t (bT t) A
 few:t.procs.l.length<=8
 ok:Ok t
theorem O1 {t:Trace} (B:Small t) (Y:(bT t).length<1073741824):Wp (gF t) λr=>(r.2=0->VT t)/\(Ok t->r.2=0):=by
 unfold gF;rw[oy,ζb,cg];refine⟨λI=>?_,λI=>(bk _).2 ⟨λh=>Za,λh=>?_⟩⟩
 rotate_left
 .have h1:=h.one;have G:=h.few
  grind
 have G:1<=t.procs.l.length/\t.procs.l.length<=8:=by
  grind
 unfold gF.W1;refine eG (λi:Int=>∃n:Nat,i=n/\n<=t.procs.l.length/\∀p,p<n->tB t p=0) (λi:Int=>t.procs.l.length-i.toNat) ⟨0,rfl,Nat.zero_le _,λp J=>absurd J Za⟩ ?_
 rintro i ⟨n,rfl,hn,Z⟩;unfold gF.br;rw[cg];constructor
 .intro h;have w:n<t.procs.l.length:=by grind
  rw[Pd B w,ζb,cg];refine⟨λu=>(bk _).2 ⟨⟨n+1,cH n Za,by omega,λp J=>?_⟩,by rw[cH n Za];simp;omega⟩,λu=>(bk _).2 ((bk _).2 ⟨λh=>?_,λh=>?_⟩)⟩
  .grind
  .grind
  simp[h.heads n w]at u
 intro h;have aa:t.procs.l.length<=n:=by grind
 rw[bk];unfold jw;rw[ζb];unfold gF.E2;rw[vl B,ζb];refine AS (λi _=>∀(p k:Nat) P e,t.procs.l[p]? = some P->P.events.l[k]? = some e->(⟨p,k+1⟩,e)∈(bT t).take i->oN t.procs.l.length P p k e=0) Zc ?_ ?_
 .intro i x _ W z;have L  := List.mem_of_getElem? W;obtain⟨p,j,⟨P,C,D⟩,O⟩:=eo.1 L;unfold gF.JW;rw[O,NA B C D,ζb,cg];refine⟨λu=>(bk _).2 λp' k' P' e' ab ad hm=>?_,λu=>(bk _).2 ((bk _).2 ⟨λh=>?_,λh=>?_⟩)⟩
  .rw[List.take_add_one,W]at hm
   grind
  .grind
  simp[h.fq p j P _ C D]at u
 intro _ z;have z:∀(p k:Nat) P e,t.procs.l[p]? = some P->P.events.l[k]? = some e->oN t.procs.l.length P p k e=0:=λp k P e C D=>z p k P e C D (by rw[List.take_length];exact eo.2 ⟨p,k,⟨P,C,D⟩,rfl⟩)
 have Q:=ER z;obtain⟨r,hr,hq,S⟩:=C_ B Q;rw[hr,ζb,cg];refine⟨λu=>?_,λu=>(bk _).2 ⟨λh=>?_,λh=>S h.NN⟩⟩
 .have u  := by simpa using u
  obtain⟨A,hA,T⟩:=hq u;rw[hA,ζb];obtain⟨c,hc,U⟩:=NI B Y Q T;rw[hc,ζb,cg];refine⟨λX=>(bk _).2 ⟨λh=>Za,λh=>absurd (U.1 X) h.acyc⟩,λX=>(bk _).2 ⟨λ_=>?_,λ_=>rfl⟩⟩
  exact⟨Q,⟨A,r.2.1,by grind,T⟩,G.2,G.1,G.2,λp J=>Z p Za,z,T.NN,λhc=>by grind⟩
 simp_all
theorem QB {t:Trace} (u:Small t) (B:(bT t).length<1073741824):Wp (cE t) λb=>(b=true->VT t)/\(Ok t->b=true):=by
 unfold cE;rw[eY];exact(O1 u B).mono λr hr=>(bk _).2 ⟨λh=>hr.1 Zd,λh=>by grind⟩
end Go.VE
namespace Go.VE
theorem Nz {t:Trace} (G:Small t) (hv:cE t=some true) {A:bP 200 bt} (B:fR t (bT t) A) {x:bg×Event} (D:x∈bT t) (hk:x.2.kind=2):si t x.2.message=some (x.1,true):=by
 refine Wp.eq ?_;unfold si k8;rw[hv,ζb,bJ];unfold jw;rw[ζb];unfold k8.E1;rw[vl G,ζb,eY];refine AS (λk _=>∀y∈(bT t).take k,¬(y.2.kind=2/\y.2.message=x.2.message)) Zc ?_ ?_
 .intro k y _ C u;have w:y∈bT t:=List.mem_of_getElem? C;unfold k8.tM;rw[lz,ζb,cg];constructor
  .intro hc;have hc:y.2.kind=2/\y.2.message=x.2.message:=by simpa using hc
   refine(bk _).2 ((bk _).2 ((bk _).2 ?_));have h1:=B.snd y w hc.1;have I:=B.snd x D hk;rw[hc.2,I]at h1;rw[h1]
  intro hc;have hc:¬(y.2.kind=2/\y.2.message=x.2.message):=by
   intro h;rw[h.1,h.2]at hc;simp at hc
  rw[bk];intro z hz;rw[List.take_add_one,C]at hz;rcases List.mem_append.1 hz with hz|hz
  .exact u z hz
  simp at hz;subst hz;exact hc
 intro _ u;rw[List.take_length]at u;exact absurd ⟨hk,rfl⟩ (u x D)
def lR (t:Trace) (c:a_ Int):Prop:=c.length=t.procs.l.length/\∀(p:Nat) (a:Int) (P:cu),c[p]? = some a->t.procs.l[p]? = some P->0<=a/\a<=P.events.l.length
def mb (t:Trace) (A:bP 200 bt) (c:a_ Int):Prop:=∀(p k:Nat) (e:Event) (a:Int),lI t p k e->c[p]? = some a->(k:Int)<a->e.kind=3->∃b,c[(ag A e.message).from_.proc.toNat]? = some b/\(ag A e.message).from_.index<=b
theorem Cd {t:Trace} (J:VT t) {A:bP 200 bt} (D:fR t (bT t) A) {p k:Nat} {e:Event} (O:lI t p k e) (hk:e.kind=3) :
 ∃(q j:Nat) (y:Event),lI t q j y/\y.kind=2/\y.message=e.message/\y.peer=p/\e.peer=q/\(ag A e.message).from_=⟨q,j+1⟩:=by
 have u:((⟨p,k+1⟩:bg),e)∈bT t:=eo.2 ⟨p,k,O,rfl⟩;have z:=(D.rcv _ u hk).2;have C:=J.formed _ u;simp only at z C;have B:0<=e.peer:=by
  rcases C with h|⟨_,h,_⟩
  .omega
  exact h
 obtain⟨q,G⟩:∃q:Nat,e.peer=q:=⟨e.peer.toNat,by omega⟩
 rw[G]at z;obtain⟨j,y,w,h1,I,L⟩:=Dz.1 z;have:=D.snd (⟨q,j+1⟩,y) (eo.2 ⟨q,j,w,rfl⟩) h1;simp only at this;rw[I]at this;exact⟨q,j,y,w,h1,I,L,G,this⟩
def Xz (t:Trace) (A:bP 200 bt) (c:a_ Int) (s u:bg):Prop:=∃(p k:Nat) (e:Event) (a:Int) (q j:Nat) (y:Event) (b:Int),lI t p k e/\c[p]? = some a/\(k:Int)<a/\e.kind=3/\(ag A e.message).from_=s/\s=⟨q,j+1⟩/\lI t q j y/\c[q]? = some b/\b<(j:Int)+1/\u=⟨p,k+1⟩
theorem Jp {t:Trace} (hS:Small t) (hv:cE t=some true) (hV:VT t) {A:bP 200 bt} (hM:fR t (bT t) A) {c:Sl Int} (hR:lR t c.l):Wp (ga t c) λr=>(r.2.2=false->mb t A c.l)/\(r.2.2=true->Xz t A c.l r.1 r.2.1):=by
 have ah:=hV.few;unfold ga ga.W1;refine eG (λs:Int=>∃n:Nat,s=n/\n<=c.l.length/\∀(p k:Nat) (e:Event) (a:Int),p<n->lI t p k e->c.l[p]? = some a->(k:Int)<a->e.kind=3->∃b,c.l[(ag A e.message).from_.proc.toNat]? = some b/\(ag A e.message).from_.index<=b) (λs:Int=>c.l.length-s.toNat) ⟨0,rfl,Nat.zero_le _,λp k e a h=>absurd h Za⟩ ?_
 rintro s ⟨n,rfl,hn,hI⟩;have ai:=hR.1;unfold ga.br;rw[cg];constructor
 .intro h;have C:n<c.l.length:=by simpa [len]using h
  have B:n<t.procs.l.length:=by omega
  have hP:=(hS.2 _ (List.getElem_mem B)).1;obtain⟨r1,r2⟩:=hR.2 n _ _ (ζd C) (ζd B);rw[bG C,ζb,bG B,ζb];obtain⟨y,hy,T⟩:=uQ t.procs.l[n].events c.l[n].toNat Za
  rw[show ((c.l[n].toNat:Nat):Int)=c.l[n]from by omega]at hy
  rw[hy,ζb];unfold ga.W2;refine eG (λs:Int=>∃m:Nat,s=m/\m<=y.l.length/\∀(k:Nat) (e:Event),k<m->lI t n k e->e.kind=3->∃b,c.l[(ag A e.message).from_.proc.toNat]? = some b/\(ag A e.message).from_.index<=b) (λs:Int=>y.l.length-s.toNat) ⟨0,rfl,Nat.zero_le _,λk e h=>absurd h Za⟩ ?_
  rintro s ⟨m,rfl,hm,hJ⟩;have af:y.l.length=c.l[n].toNat:=by rw[T,List.length_take];omega
  unfold ga.cm;rw[cg];constructor
  .intro h;have I:m<y.l.length:=by simpa [len]using h
   have D:=cH m Za
   have U:y.l.length-(IntKind.wrap .i64 ((m:Int)+1)).toNat<y.l.length-((m:Int)).toNat:=by rw[D];simp;omega
   have hg:y.l[m]? = t.procs.l[n].events.l[m]? := by rw[T,List.getElem?_take,if_pos (show m<c.l[n].toNat from by omega)]
   have u:lI t n m y.l[m]:=⟨_,ζd B,by rw[<-hg];exact ζd I⟩
   rw[bG I,ζb];generalize y.l[m]=e at u;rw[cg];constructor
   .intro hk;have hk:e.kind=3:=by simpa using hk
    obtain⟨q,j,z,hz,z1,z2,z3,z4,z5⟩:=Cd hV hM u hk;have J:=Nz hS hv hM (x:=(⟨q,j+1⟩,z)) (eo.2 ⟨q,j,hz,rfl⟩) z1;simp only at J;rw[z2]at J;have ab:=hz;obtain⟨Q,hQ,_⟩:=hz;have L:q<c.l.length:=by have:=(ζe.1 hQ).1;omega
    rw[J,ζb];simp only;rw[bG L,ζb,cg];constructor
    .intro W;have W:(j:Int)+1>c.l[q]:=by simpa using W
     exact(bk _).2 ((bk _).2 ((bk _).2 ⟨λh=>(by cases h),λ_=>⟨n,m,e,c.l[n],q,j,z,c.l[q],u,ζd C,by omega,hk,z5,rfl,ab,ζd L,by omega,by simp[D]⟩⟩))
    intro X;have X:¬((j:Int)+1>c.l[q]):=by simpa using X
    refine(bk _).2 ⟨⟨m+1,D,by omega,λk Y ad w G=>?_⟩,U⟩
    by_cases ek:k=m
    .subst ek;have:Y=e:=by
      obtain⟨P1,a1,a2⟩:=u;obtain⟨P2,Z,b2⟩:=w;rw[a1]at Z;cases Z;rw[a2]at b2;cases b2;rfl
     subst this;rw[z5];exact⟨c.l[q],by simp only[Int.toNat_natCast];exact ζd L,by simp only;omega⟩
    exact hJ k Y Za w G
   intro hk;have hk:¬e.kind=3:=by simpa using hk
   refine(bk _).2 ⟨⟨m+1,D,by omega,λk Y ad w G=>?_⟩,U⟩
   by_cases ek:k=m
   .subst ek;have:Y=e:=by
     obtain⟨P1,a1,a2⟩:=u;obtain⟨P2,Z,b2⟩:=w;rw[a1]at Z;cases Z;rw[a2]at b2;cases b2;rfl
    subst this;exact absurd G hk
   exact hJ k Y Za w G
  intro h;have ae:y.l.length<=m:=by simpa [len]using h
  have aa:=cH n Za
  refine(bk _).2 ((bk _).2 ⟨⟨n+1,aa,by omega,λp k e a hp u S O he=>?_⟩,by show _-(IntKind.wrap .i64 ((n:Int)+1)).toNat<_;rw[aa];simp;omega⟩)
  by_cases ep:p=n
  .subst ep;rw[ζd C]at S;cases S;exact hJ k e Za u he
  exact hI p k e a Za u S O he
 intro h;have ae:c.l.length<=n:=by simpa [len]using h
 refine(bk _).2 ((bk _).2 ⟨λ_ p k e a u S O he=>hI p k e a (by have:=(ζe.1 S).1;omega) u S O he,λh=>(by cases h)⟩)
theorem Kl {t:Trace} (u:Small t) (hv:cE t=some true) (B:VT t) {A:bP 200 bt} (D:fR t (bT t) A) {c:Sl Int} (G:lR t c.l):Wp (ga t c) λr=>(r.2.2=false↔mb t A c.l):=by
 refine(Jp u hv B D G).mono λr hr=>⟨hr.1,λw=>?_⟩
 cases h:r.2.2 with
 | false=>rfl
 | true=>
  obtain⟨p,k,e,a,q,j,y,b,h1,z,C,I,J,L,_,O,Q,-⟩:=hr.2 h;obtain⟨S,g1,g2⟩:=w p k e a h1 z C I;rw[J,L]at g1 g2;simp only[Int.toNat_natCast]at g1 g2;rw[O]at g1;cases g1;omega
theorem lJ {s:Sl (Sl Int)} {p:Sl Int->bf Bool} {f:Sl Int->Bool} (hp:∀x∈s.l,p x=some (f x)) (u:s.l.length<1073741824):dK s p=some (s.l.any f):=by
 have h:fS s p=some (place f s.l):=rN hp Za (λi=>rfl)
 unfold dK;rw[h,ζb,rS]
theorem CS {t:Trace} (J:Small t) {c:Sl Int} (D:c.l.length=t.procs.l.length):Wp (iJ t c) λb=>(b=true↔lR t c.l):=by
 have h1:=J.1;unfold iJ iJ.W1;refine eG (λs:Int=>∃n:Nat,s=n/\n<=c.l.length/\∀(p:Nat) (a:Int) (P:cu),p<n->c.l[p]? = some a->t.procs.l[p]? = some P->0<=a/\a<=P.events.l.length) (λs:Int=>c.l.length-s.toNat) ⟨0,rfl,Nat.zero_le _,λp a P h=>absurd h Za⟩ ?_
 rintro s ⟨n,rfl,Q,G⟩;unfold iJ.br;rw[cg];constructor
 .intro h;have w:n<c.l.length:=by simpa [len]using h
  have u:n<t.procs.l.length:=by omega
  have I:=cH n Za
  rw[bG w,ζb,bG u,ζb,jD,ζb,cg];constructor
  .intro z;have z:c.l[n]<0\/c.l[n]>t.procs.l[n].events.l.length:=by simpa [len]using z
   refine(bk _).2 ((bk _).2 ⟨λh=>(by cases h),λL=>?_⟩)
   have:=L.2 n _ _ (ζd w) (ζd u);omega
  intro z;have z:0<=c.l[n]/\c.l[n]<=t.procs.l[n].events.l.length:=by simpa [len]using z
  refine(bk _).2 ⟨⟨n+1,I,by omega,λp a P S B C=>?_⟩,by rw[I];simp;omega⟩
  by_cases e:p=n
  .subst e;rw[ζd w]at B;cases B;rw[ζd u]at C;cases C;exact z
  exact G p a P Za B C
 intro h;have O:c.l.length<=n:=by simpa [len]using h
 refine(bk _).2 ((bk _).2 ⟨λ_=>⟨D,λp a P B C=>G p a P (by have:=(ζe.1 B).1;omega) B C⟩,λ_=>rfl⟩)
def Code (t:Trace) (A:bP 200 bt) (c:a_ Int) (r:Int):Prop:=c.length≠t.procs.l.length/\r=1\/c.length=t.procs.l.length/\¬lR t c/\r=2\/lR t c/\¬mb t A c/\r=18\/lR t c/\mb t A c/\r=0
theorem VB {t:Trace} (J:Small t) (hv:cE t=some true) (O:VT t) {A:bP 200 bt} (T:fR t (bT t) A) (c:Sl Int) :
 Wp (fm t (Sl.row [c]:Sl (Sl Int)) (Sl.nil:Sl Int)) λr=>Code t A c.l r:=by
 unfold fm uh;rw[hv,ζb,bJ,lJ (f:=λz=>(jF z t).getD false) (λz _=>EX.ok ((bk _).2 trivial)) (by simp[Sl.l]),ζb,ζb,ζb]
 have w:(!((Sl.row [c]:Sl (Sl Int)).l.any λz=>(jF z t).getD false))=(len c==len t.procs):=by
  simp[Sl.l,jF]
 rw[w,cg];constructor
 .intro h;have B:c.l.length=t.procs.l.length:=by
   have:(c.l.length:Int)=t.procs.l.length:=by simpa [len]using h
   omega
  unfold fm.W1;refine eG (λs:Int=>s=0\/s=1/\lR t c.l) (λs:Int=>1-s.toNat) (.inl rfl) ?_
  intro s D;unfold fm.br;rcases D with rfl|⟨rfl,G⟩
  .rw[show decide ((0:Int)<len (Sl.row [c]:Sl (Sl Int)))=true from rfl,bJ,show idx (Sl.row [c]:Sl (Sl Int)) 0=some c from rfl,ζb,eY];refine(CS J B).mono λb u=>?_
   rw[cg];exact⟨λI=>(bk _).2 ⟨.inr ⟨rfl,u.1 I⟩,by decide⟩,λC=>(bk _).2 ((bk _).2 (.inr (.inl ⟨B,λh=>(by rw[u.2 h]at C;cases C),rfl⟩)))⟩
  rw[show decide ((1:Int)<len (Sl.row [c]:Sl (Sl Int)))=false from rfl,bL,bk];show Wp (fm.W2 (Sl.row [c]) Sl.nil 0 0 t) _;unfold fm.W2;refine eG (λs:Int=>s=0) (λ_=>0) rfl ?_
  rintro s rfl;unfold fm.cm;rw[show decide ((0:Int)<0)=false from rfl,bL,bk];show Wp (fm.W3 (Sl.row [c]) 1 0 t) _;unfold fm.W3;refine eG (λs:Int=>s=0\/s=1/\mb t A c.l) (λs:Int=>1-s.toNat) (.inl rfl) ?_
  intro s D;unfold fm.eS;rcases D with rfl|⟨rfl,L⟩
  .rw[show decide ((0:Int)<1)=true from rfl,bJ,show idx (Sl.row [c]:Sl (Sl Int)) 0=some c from rfl,ζb];unfold yh;rw[eY,eY];refine(Kl J hv O T G).mono λr hr=>?_
   rw[bk,cg];exact⟨λu=>(bk _).2 ⟨.inr ⟨rfl,hr.1 (by simpa using u)⟩,by decide⟩,λu=>(bk _).2 ((bk _).2 (.inr (.inr (.inl ⟨G,λh=>(by have:=hr.2 h;simp[this]at u),rfl⟩))))⟩
  rw[show decide ((1:Int)<1)=false from rfl,bL,bk];exact(bk _).2 (.inr (.inr (.inr ⟨G,L,rfl⟩)))
 intro h;exact(bk _).2 (.inl ⟨λe=>(by simp[len,e]at h),rfl⟩)
theorem Code.zero {t:Trace} {A:bP 200 bt} {c:a_ Int} {r:Int} (h:Code t A c r):r=0↔lR t c/\mb t A c:=by
 rcases h with⟨h,rfl⟩|⟨_,h,rfl⟩|⟨_,h,rfl⟩|⟨h1,w,rfl⟩
 .exact⟨λh=>(by cases h),λu=>absurd u.1.1 h⟩
 .exact⟨λh=>(by cases h),λu=>absurd u.1 h⟩
 .exact⟨λh=>(by cases h),λu=>absurd u.2 h⟩
 exact⟨λ_=>⟨h1,w⟩,λ_=>rfl⟩
theorem P8 {t:Trace} (u:Small t) (hv:cE t=some true) (B:VT t) {A:bP 200 bt} (D:fR t (bT t) A) (c:Sl Int) :
 Wp (fm t (Sl.row [c]:Sl (Sl Int)) (Sl.nil:Sl Int)) λr=>(r=0↔lR t c.l/\mb t A c.l):=(VB u hv B D c).mono λ_ h=>h.zero
def Cons (t:Trace) (A:bP 200 bt) (c:a_ Int):Prop:=lR t c/\mb t A c
def places {α:Type} (f:α->Bool) (l:a_ α):a_ Nat:=(List.range l.length).filter λk=>match l[k]? with|some x=>f x|none=>false
end Go.VE
namespace Go.VE
def sn (kind m:Int) (x:bg×Event):Bool:=x.2.kind==kind&&x.2.message==m
def lX (t:Trace) (kind m:Int):bg:=match (bT t).find? (sn kind m)with
 | some x=>x.1
 | none=>⟨0,0⟩
theorem Lm {t:Trace} {kind m:Int} {p:Nat} {P:cu} (B:p<9223372036854775806) (D:t.procs.l[p]? = some P) (J:P.events.l.length<1073741824):∀(q i:Nat),i+q=P.events.l.length ->
 bM (λq:Int=>dF.cm kind m p t ⟨0,0⟩ q) (i:Int)=some (match (ig p i (P.events.l.drop i)).find? (sn kind m)with|some x=>.r x.1|none=>.x ()):=by
 have u:idx t.procs (p:Int)=some P:=by rw[qO];exact D
 intro q
 induction q with
 | zero=>
  intro i z;rw[fc];unfold dF.cm;rw[u,ζb,show decide ((i:Int)<len P.events)=false from by simp[len];omega,bL,List.drop_of_length_le Za]
  rfl
 | succ q C=>
  intro i z;have w:i<P.events.l.length:=by omega
  rw[fc];have G:dF.cm kind m p t ⟨0,0⟩ i=some (if sn kind m (⟨p,(i:Int)+1⟩,P.events.l[i])then .r ⟨p,(i:Int)+1⟩else .n ((i+1:Nat):Int)):=by
   unfold dF.cm;rw[u,ζb,show decide ((i:Int)<len P.events)=true from by simp[len];omega,bJ,ζb,bG w,ζb,lz,ζb,cH i Za,s8]
   rfl
  rw[G,ζb,List.drop_eq_getElem_cons w];simp only[ig,List.find?_cons]
  cases I:sn kind m (⟨p,(i:Int)+1⟩,P.events.l[i])with
  | true=>rfl
  | false=>
   simp only[Bool.false_eq_true,if_false];exact C (i+1) Za
theorem LP {t:Trace} (B:Small t) {kind m:Int}:∀(q p:Nat),p+q=t.procs.l.length ->
 bM (λq:Int=>dF.br kind m t ⟨0,0⟩ q) (p:Int)=some (match (fe p (t.procs.l.drop p)).find? (sn kind m)with|some x=>.r x.1|none=>.x ()):=by
 have h1:=B.1;intro q
 induction q with
 | zero=>
  intro p w;rw[fc];unfold dF.br;rw[show decide ((p:Int)<len t.procs)=false from by simp[len];omega,bL,List.drop_of_length_le Za]
  rfl
 | succ q z=>
  intro p w;have u:p<t.procs.l.length:=by omega
  have C:bM (λq:Int=>dF.cm kind m p t ⟨0,0⟩ q) 0=some (match (ig p 0 t.procs.l[p].events.l).find? (sn kind m)with|some x=>.r x.1|none=>.x ()):=Lm (t:=t) (kind:=kind) (m:=m) Za (ζd u) (B.2 _ (List.getElem_mem u)).1 (t.procs.l[p].events.l.length) 0 Za
  rw[fc];unfold dF.br;rw[show decide ((p:Int)<len t.procs)=true from by simp[len];omega,bJ]
  unfold dF.W2;rw[C,List.drop_eq_getElem_cons u];simp only[fe,List.find?_append]
  cases D:(ig p 0 t.procs.l[p].events.l).find? (sn kind m)with
  | some x=>rfl
  | none=>
   simp only[ζb,Fw.elim,Option.none_or];rw[cH p Za]
   exact z (p+1) Za
theorem find_eq {t:Trace} (u:Small t) (kind m:Int):dF t kind m=some (lX t kind m):=by
 unfold dF dF.W1;have w:bM (λq:Int=>dF.br kind m t ⟨0,0⟩ q) 0=some (match (bT t).find? (sn kind m)with|some x=>.r x.1|none=>.x ()):=LP u (kind:=kind) (m:=m) t.procs.l.length 0 Za
 rw[w];unfold lX;cases (bT t).find? (sn kind m) <;> rfl
theorem Dd {t:Trace} {kind m:Int} {x:bg×Event} (h:(bT t).find? (sn kind m)=some x):x∈bT t/\x.2.kind=kind/\x.2.message=m/\lX t kind m=x.1:=by
 have h1:=List.find?_some h;simp only[sn,ζh,beq_iff_eq]at h1;exact⟨List.mem_of_find?_eq_some h,h1.1,h1.2,by unfold lX;rw[h]⟩
theorem Gv {t:Trace} {kind m:Int} {x:bg×Event} (B:x∈bT t) (hk:x.2.kind=kind) (D:x.2.message=m):∃y,(bT t).find? (sn kind m)=some y:=by
 cases u:(bT t).find? (sn kind m)with
 | some y=>exact⟨y,rfl⟩
 | none=>
  rw[List.find?_eq_none]at u;exact absurd (u x B) (by simp[sn,hk,D])
theorem Rs {t:Trace} {p k:Nat} {e:Event} (h:lI t p k e) (hk:k<9223372036854775807):uA t ⟨p,k+1⟩=some e:=by
 obtain⟨P,u,w⟩:=h;unfold uA;dsimp only;rw[show idx t.procs (p:Int)=some P from by rw[qO];exact u,ζb,show IntKind.wrap .i64 ((k:Int)+1-1)=(k:Int)from by rw[mT _ Za Za];omega,show idx P.events (k:Int)=some e from by rw[qO];exact w]
 rfl
def vt (t:Trace) (x:bg×Event):Int:=if x.2.kind=1 then 0 else if lX t x.2.kind x.2.message=x.1 then(if x.2.kind=3 then(if sE t x.2.peer x.2.message x.1.proc then 0 else 7)else 0)else 8
theorem NJ {t:Trace} (D:Small t) {p k:Nat} {e:Event} (h:lI t p k e) (Y:kn t.procs.l.length p e):g_ t ⟨p,k+1⟩=some (vt t (⟨p,k+1⟩,e)):=by
 have hk:k<1073741824:=by
  obtain⟨P,X,Z⟩:=h;have:=(D.2 P (List.mem_of_getElem? X)).1;have:=(ζe.1 Z).1;omega
 unfold g_ vt;rw[Rs h Za,ζb]
 dsimp only
 by_cases h1:e.kind=1
 .rw[show (e.kind==1)=true from by simp[h1],bJ,if_pos h1]
 rw[show (e.kind==1)=false from by simp[h1],bL,if_neg h1,find_eq D,ζb]
 have G:J_ (lX t e.kind e.message) ⟨p,(k:Int)+1⟩=decide (lX t e.kind e.message=⟨p,(k:Int)+1⟩):=by
  unfold J_;rw[Bool.eq_iff_iff];cases lX t e.kind e.message;simp
 rw[G]
 by_cases w:lX t e.kind e.message=⟨p,(k:Int)+1⟩
 .rw[if_pos w,show decide (lX t e.kind e.message=⟨p,(k:Int)+1⟩)=true from by simpa using w,bJ]
  by_cases B:e.kind=3
  .rw[if_pos B,show (e.kind==3)=true from by simp[B],bJ]
   have I:0<=e.peer/\e.peer<t.procs.l.length:=by
    rcases Y with h|⟨_,h1,w,_⟩
    .exact absurd h h1
    exact⟨h1,w⟩
   have S:e.peer.toNat<t.procs.l.length:=by omega
   have T:=ζd S;have aa:=(D.2 _ (List.getElem_mem S)).1;generalize ab:t.procs.l[e.peer.toNat]=Q at *;have J:idx t.procs e.peer=some Q:=by rw[VQ I.1];exact T
   have L:sE t e.peer e.message p=Q.events.l.any λs=>s.kind==2&&s.message==e.message&&s.peer==p:=by
    unfold sE;rw[T]
   unfold g_.W1;refine Wp.eq (eG (λz:Bool×Int=>∃m:Nat,z.2=m/\m<=Q.events.l.length/\z.1=(Q.events.l.take m).any λs=>s.kind==2&&s.message==e.message&&s.peer==p) (λz=>Q.events.l.length-z.2.toNat) ⟨0,rfl,Nat.zero_le _,rfl⟩ ?_)
   rintro⟨s,i⟩ ⟨m,U,hm,C⟩;simp only at U C;subst U;unfold g_.br;dsimp only;rw[J,ζb,cg];constructor
   .intro O;have u:m<Q.events.l.length:=by simpa [len]using O
    have W:=cH m Za
    rw[ζb,bG u,ζb,lz,ζb,lz,ζb,jD,ζb,bk];refine⟨⟨m+1,W,by omega,?_⟩,by show _-(IntKind.wrap .i64 ((m:Int)+1)).toNat<_;rw[W];simp;omega⟩
    show (s||_)=_;rw[List.take_add_one,ζd u,List.any_append,C];simp
   intro O;have u:Q.events.l.length<=m:=by simpa [len]using O
   rw[List.take_of_length_le u]at C;refine(bk _).2 ?_;rw[L,<-C];cases s
   .exact(bk _).2 rfl
   exact(bk _).2 rfl
  rw[if_neg B,show (e.kind==3)=false from by simp[B],bL]
 rw[if_neg w,show decide (lX t e.kind e.message=⟨p,(k:Int)+1⟩)=false from by simpa using w,bL]
theorem KX {t:Trace} (J:∀x∈bT t,kn t.procs.l.length x.1.proc x.2):(∀x∈bT t,vt t x=0)↔xY t:=by
 constructor
 .intro h;have key:∀x∈bT t,x.2.kind≠1->lX t x.2.kind x.2.message=x.1:=λx u hk=>by
   have:=h x u;unfold vt at this;rw[if_neg hk]at this;split at this
   .assumption
   cases this
  refine⟨λx u y w z B C=>?_,λx u y w z B C=>?_,λx u z=>?_⟩
  .rw[<-key x u Za,<-key y w Za,z,B,C]
  .rw[<-key x u Za,<-key y w Za,z,B,C]
  have:=h x u;unfold vt at this;rw[if_neg Za,if_pos (key x u Za),if_pos z]at this
  split at this
  .assumption
  cases this
 intro h x u;unfold vt
 by_cases k1:x.2.kind=1
 .rw[if_pos k1]
 rw[if_neg k1];obtain⟨y,w⟩:=Gv u rfl rfl;obtain⟨D,G,y3,y4⟩:=Dd w;have hk:x.2.kind=2\/x.2.kind=3:=by
  rcases J x u with h|⟨h,_⟩
  .exact absurd h k1
  exact h
 have I:lX t x.2.kind x.2.message=x.1:=by
  rw[y4];rcases hk with hk|hk
  .exact h.snd y D x u (by rw[G,hk]) hk y3
  exact h.rcv y D x u (by rw[G,hk]) hk y3
 rw[if_pos I]
 by_cases k3:x.2.kind=3
 .rw[if_pos k3,if_pos (h.has x u k3)]
 rw[if_neg k3]
theorem AB {t:Trace} (B:∀x∈bT t,kn t.procs.l.length x.1.proc x.2) (D:xY t) {z:bg} {f:Event} (u:(z,f)∈bT t) (hk:f.kind=3):∃e,(lX t 2 f.message,e)∈bT t/\e.kind=2/\e.message=f.message:=by
 have h:=D.has _ u hk;have I:0<=f.peer:=by
  rcases B _ u with h|⟨_,h,_⟩
  .grind
  omega
 rw[show f.peer=(f.peer.toNat:Nat)from by omega,Dz]at h
 obtain⟨k,e,w,h1,C,_⟩:=h;obtain⟨y,G⟩:=Gv (eo.2 ⟨_,k,w,rfl⟩:(⟨(f.peer.toNat:Nat),k+1⟩,e)∈bT t) h1 C;obtain⟨J,L,y3,y4⟩:=Dd G
 grind
theorem Gg.find {t:Trace} (D:∀x∈bT t,kn t.procs.l.length x.1.proc x.2) (u:xY t) {y z:bg} {f:Event} (h:Gg t y z) (B:(z,f)∈bT t):f.kind=3/\lX t 2 f.message=y:=by
 obtain⟨e,L,h1,C,G,w,O⟩:=h;cases Ci C B rfl;obtain⟨Q,I,J,S⟩:=AB D u B w;exact⟨w,u.snd _ I _ h1 J G (by simp_all)⟩
theorem Bz {t:Trace} (O:Small t) (J:∀x∈bT t,kn t.procs.l.length x.1.proc x.2) (B:xY t) {z:bg} (D:Vd t z) :
 Wp (dm t z) λs=>s.l.length<=2/\∀y,y∈s.l↔Edge t y z:=by
 obtain⟨p,k,f,w,rfl,u⟩:=D.at_;have hk:k<1073741824:=by
  obtain⟨P,B,I⟩:=w;have:=(O.2 P (List.mem_of_getElem? B)).1
  grind
 have j:∀s:Sl bg,s.l.length<=1->(∀y,y∈s.l↔Vd t y/\(⟨p,k+1⟩:bg)=⟨y.proc,y.index+1⟩)->Wp (dm.J1 s t ⟨p,k+1⟩) λs=>s.l.length<=2/\∀y,y∈s.l↔Edge t y ⟨p,k+1⟩:=by
  intro s W C;unfold dm.J1;rw[Rs w Za,ζb,cg]
  constructor
  .intro G;have G:f.kind=3:=by grind
   rw[find_eq O,ζb];unfold eT;rw[if_pos Za,ζb,bk]
   refine⟨by show (s.l++[_]).length<=2;grind,λy=>?_⟩
   show y∈s.l++[lX t 2 f.message]↔_;rw[List.mem_append,List.mem_singleton,C];obtain⟨e,Q,S,T⟩:=AB J B u G;constructor
   .rintro (h|rfl)
    .exact⟨h.1,D,.inl h.2⟩
    exact⟨⟨e,Q⟩,D,.inr ⟨e,f,Q,u,S,G,T⟩⟩
   rintro⟨h1,_,h2|h2⟩
   .grind
   exact .inr (h2.find J B u).2.symm
  intro G;refine(bk _).2 ⟨by omega,λy=>(C y).trans ⟨λh=>⟨h.1,D,.inl h.2⟩,λ⟨h1,_,h2⟩=>⟨h1,h2.elim id λh2=>?_⟩⟩⟩
  have:=(h2.find J B u).1
  grind
 unfold dm;rw[cg];constructor
 .intro h;have h:k+1>1:=by grind
  refine j _ (by simp[Sl.l]) λy=>?_
  have U:IntKind.wrap .i64 (k+1-1)=k:=by rw[mT _ Za Za];omega
  simp only[Sl.l,List.mem_singleton,U,bg.mk.injEq];constructor
  .rintro rfl;obtain⟨P,B,I⟩:=w;have:=(ζe.1 I).1;exact⟨⟨P.events.l[k-1],eo.2 ⟨p,k-1,⟨P,B,ζd Za⟩,by simp;omega⟩⟩,rfl,rfl⟩
  simp_all
 intro h;refine j _ (by simp[Sl.l]) λy=>⟨λL=>by simp[Sl.l]at L,λ⟨L,I⟩=>?_⟩
 obtain⟨q,i,f,_,rfl,_⟩:=L.at_
 grind
theorem Ux {α:Type} {r:α->α->Prop} {x:α} (h:Acc r x):¬Relation.TransGen r x x:=by
 induction h with
 | intro x _ t=>
  intro h
  cases h with
  | single h=>exact t x h (.single h)
  | tail h1 u=>exact t _ u (Relation.TransGen.trans (.single u) h1)
theorem JU:∀{d:a_ Nat} {i k:Nat},d[i]? = some k->(d.set i (k+1)).sum=d.sum+1
 | [],_,_,h=>by simp_all
 | x::d,0,k,h=>by grind
 | x::d,i+1,k,h=>by
  have:=JU (d:=d) (i:=i) (k:=k) Zd
  grind
theorem Md:∀{d l:a_ Nat},d.length=l.length->(∀(i a b:Nat),d[i]? = some a->l[i]? = some b->a<=b)->d.sum<=l.sum
 | [],_,_,_=>by simp
 | x::d,[],h,_=>by simp_all
 | x::d,y::l,h,u=>by
  have h1:=u 0 x y rfl rfl;have t:=Md (d:=d) (l:=l) Zd λi a b w z=>u (i+1) a b Zd Zd
  simp;omega
def nI (d:a_ Nat):a_ Int:=d.map Int.ofNat
def sI (s:Sl Int):Nat:=(s.l.map Int.toNat).sum
theorem Gb (d:a_ Nat):sI (.row (nI d))=d.sum:=by
 unfold sI nI;rw[show (Sl.row (d.map Int.ofNat)).l=d.map Int.ofNat from rfl,List.map_map,show (Int.toNat ∘ Int.ofNat)=id from rfl,List.map_id]
theorem N3 (d:a_ Nat):(nI d).length=d.length:=by simp[nI]
structure Kh (t:Trace) (d:List Nat):Prop where
 len:d.length=t.procs.l.length
 le:∀(p k:Nat) P,d[p]? = some k->t.procs.l[p]? = some P->k<=P.events.l.length
 acc:∀(p k j:Nat),d[p]? = some k->j<k->Acc (Edge t) ⟨p,j+1⟩
def qX (t:Trace):Nat:=(t.procs.l.map λP=>P.events.l.length).sum
theorem Kh.sum {t:Trace} {d:a_ Nat} (h:Kh t d):d.sum<=qX t:=Md (by simp[h.len]) λi a b z u=>by
 cases w:t.procs.l[i]? with
 | none=>grind
 | some P=>simp[w]at u;rw[<-u];exact h.le i a P z w
theorem Dx {d:a_ Nat} {p:Nat} (h:p<d.length):Sl.j7 (.row (nI d)) (p:Int)=some p:=by
 unfold Sl.j7;rw[if_pos ⟨by omega,by simpa [Sl.l,N3]using h⟩];rfl
theorem Ak {d:a_ Nat} {p k:Nat} (h:d[p]? = some k):Sl.get (.row (nI d)) p=some (k:Int):=by
 unfold Sl.get nI;rw[show (Sl.row (d.map Int.ofNat)).l=d.map Int.ofNat from rfl,List.getElem?_map,h];rfl
def Mv (t:Trace) (u:a_ Nat) (s:Sl Int) (b:Bool) (d:a_ Nat):Prop:=s=.row (nI d)/\Kh t d/\u.sum<=d.sum/\(b=true->u.sum<d.sum)
def KQ (t:Trace) (B:a_ Nat) (p:Nat) (w:Fw (Sl Int×Bool×Int) (Sl Int×Bool) Empty):Prop:=∃u z C,w=.n (u,z,((p+1:Nat):Int))/\Mv t B u z C
theorem Tz {t:Trace} (hS:Small t) (hF:∀x∈bT t,kn t.procs.l.length x.1.proc x.2) (hP:xY t) {D d1:a_ Nat} {s:Sl Int} {b:Bool} {p:Nat} (hp:p<t.procs.l.length) (hM:Mv t D s b d1) :
 Wp (dQ.W3 s b p t) (KQ t D p):=by
 have Z:=bG hp;have hn:=hS.1;have ah:=(hS.2 _ (List.getElem_mem hp)).1;have C:=ζd hp;generalize t.procs.l[p]=P at *;refine eG (λq:Sl Int×Bool=>∃d,Mv t D q.1 q.2 d) (λq=>qX t-sI q.1) ⟨d1,hM⟩ ?_
 rintro⟨s,b⟩ ⟨d,rfl,u,hd,hb⟩;have w:p<d.length:=by rw[u.len];omega
 have hg:=ζd w;generalize d[p]=k at hg;have ai:=u.le p k P hg C;have stop:∀{X:Empty->Prop},Wp (some (Fw.x (Sl.row (nI d),b))) (RK (λq:Sl Int×Bool=>∃d,Mv t D q.1 q.2 d) (λq=>qX t-sI q.1) (λe=>Wp (some (Fw.n (e.1,e.2,IntKind.wrap .i64 (p+1)))) (KQ t D p)) X (Sl.row (nI d),b)):=by
  refine(bk _).2 ((bk _).2 ⟨_,_,d,?_,rfl,u,hd,hb⟩);rw[cH p Za]
 unfold dQ.eS;rw[Dx w,ζb,Ak hg,ζb,Z,ζb,cg];refine⟨λh=>?_,λ_=>stop⟩
 have G:k<P.events.l.length:=by grind
 have aa:lI t p k P.events.l[k]:=⟨P,C,ζd G⟩;have z:(⟨p,k+1⟩,P.events.l[k])∈bT t:=eo.2 ⟨p,k,aa,rfl⟩;have go:(P.events.l[k].kind=3->∀q j:Nat,lX t 2 P.events.l[k].message=⟨q,j+1⟩->∃Y,d[q]? = some Y/\j<Y)->∀{px:Sl Int×Bool->Prop} {X:Empty->Prop},Wp (dQ.J4 (.row (nI d)) p t) (RK (λq:Sl Int×Bool=>∃d,Mv t D q.1 q.2 d) (λq=>qX t-sI q.1) px X (Sl.row (nI d),b)):=by
  intro hq px X;unfold dQ.J4;rw[Dx w,ζb,Ak hg,ζb,ζb];unfold Sl.put;rw[if_pos (by simpa [Sl.l,N3]using w),ζb,bk]
  have I:(nI d).set p (IntKind.wrap .i64 ((k:Int)+1))=nI (d.set p (k+1)):=by
   rw[cH k Za];unfold nI;simp_all
  have J:=JU hg;have L:Kh t (d.set p (k+1)):=by
   refine⟨by simp[u.len],λq i Q B hQ=>?_,λq i j B hj=>?_⟩
   .rw[List.getElem?_set]at B;split at B
    .grind
    exact u.le q i Q B hQ
   rw[List.getElem?_set]at B;split at B
   .rename_i e;subst e;cases B
    by_cases ab:j<k
    .exact u.acc p k j hg ab
    have:j=k:=by omega
    subst this;refine Acc.intro _ λy hy=>?_
    obtain⟨O,_,he|he⟩:=hy
    .obtain⟨q,i,f,_,rfl,_⟩:=O.at_;simp[bg.mk.injEq]at he;have e1:q=p:=by omega
     subst e1;exact u.acc q j i hg Za
    obtain⟨S,hf⟩:=he.find hF hP z;obtain⟨q,i,f,_,rfl,_⟩:=O.at_;obtain⟨Y,ad,ae⟩:=hq S q i hf;exact u.acc q Y i ad ae
   exact u.acc q i j B hj
  have aj:=L.sum;refine⟨⟨_,by grind,L,by grind,λ_=>by grind⟩,?_⟩
  show qX t-sI (.row ((nI d).set p (IntKind.wrap .i64 ((k:Int)+1))))<qX t-sI (.row (nI d));rw[I,Gb,Gb,J]
  grind
 dsimp only;rw[ζb,ζb,Ak hg,ζb,bG G,ζb,cg];refine⟨λS=>?_,λS=>go λh=>by grind⟩
 have S:P.events.l[k].kind=3:=by grind
 obtain⟨e,a1,a2,a3⟩:=AB hF hP z S;obtain⟨q,j,T,U⟩:=eo.1 a1;simp only at U;have W:q<d.length:=by
  obtain⟨Q,hQ,_⟩:=T;rw[u.len];grind
 have af:=ζd W;rw[find_eq hS,ζb,U,Dx W,ζb,Ak af,ζb,cg];refine⟨λ_=>stop,λh=>go λ_ q' j' hh=>?_⟩
 grind
theorem LS {t:Trace} (J:Small t) (T:∀x∈bT t,kn t.procs.l.length x.1.proc x.2) (B:xY t):Wp (dQ t) λb=>b=true->¬Kj t:=by
 have hn:=J.1;unfold dQ kX;rw[if_pos Zd,ζb]
 have S:(Sl.row (List.replicate (len t.procs).toNat 0))=.row (nI (List.replicate t.procs.l.length 0)):=by simp[nI]
 rw[S];refine eG (λs:Sl Int=>∃d,s=.row (nI d)/\Kh t d) (λs=>qX t-sI s) ⟨_,rfl,by simp,λp k P h _=>by grind,λp k j h hj=>by grind⟩ ?_
 rintro s ⟨D,rfl,U⟩;refine eG (λq:Sl Int×Bool×Int=>∃(n:Nat) (d:a_ Nat),q.2.2=n/\n<=t.procs.l.length/\Mv t D q.1 q.2.1 d) (λq=>t.procs.l.length-q.2.2.toNat) ⟨0,D,rfl,Nat.zero_le _,rfl,U,Nat.le_refl _,by simp⟩ ?_
 rintro⟨s,b,i⟩ ⟨n,d,W,X,L⟩;subst W;unfold dQ.cm;rw[cg];constructor
 .intro h;have u:n<t.procs.l.length:=by grind
  refine(Tz J T B u L).mono ?_;rintro w ⟨s',b',Y,rfl,G⟩;exact⟨⟨n+1,Y,rfl,by omega,G⟩,by simp;omega⟩
 intro _;obtain⟨rfl,z,Z,I⟩:=L;rw[bk];show Wp (bp b _ _) _;rw[cg];refine⟨λhb=>(bk _).2 ⟨⟨d,rfl,z⟩,?_⟩,λ_=>(bk _).2 ?_⟩
 .show qX t-sI (.row (nI d))<qX t-sI (.row (nI D));rw[Gb,Gb];have:=I hb;have:=z.sum;omega
 refine eG (λi:Int=>∃n:Nat,i=n/\n<=t.procs.l.length/\∀p,p<n->∀P,t.procs.l[p]? = some P->d[p]? = some P.events.l.length) (λi:Int=>t.procs.l.length-i.toNat) ⟨0,rfl,Nat.zero_le _,λp O=>absurd O Za⟩ ?_
 rintro i ⟨n,rfl,aa,hh⟩;unfold dQ.xK;rw[cg];constructor
 .intro h;have u:n<t.procs.l.length:=by grind
  have C:n<d.length:=by rw[z.len];omega
  have hg:=ζd C;rw[Dx C,ζb,Ak hg,ζb,bG u,ζb,cg];refine⟨λ_=>(bk _).2 ((bk _).2 λh=>by cases h),λh=>(bk _).2 ⟨⟨n+1,cH n Za,by omega,λp O P B=>?_⟩,by rw[cH n Za];simp;omega⟩⟩
  by_cases e:p=n
  .subst e;rw[ζd u]at B;have:=z.le p _ _ hg (ζd u)
   grind
  grind
 intro h;have ab:t.procs.l.length<=n:=by grind
 refine(bk _).2 ((bk _).2 λ_ ⟨x,Q⟩=>?_)
 obtain⟨p,k,e,⟨P,B,he⟩,rfl,_⟩:=Q.l.at_;have ad:=(ζe.1 B).1;exact Ux (z.acc p _ k (hh p Za P B) (ζe.1 he).1) Q
def qi (out:a_ (a_ Bool)) (y:bg):Bool:=match out[y.proc.toNat]? with
 | some row=>row[y.index.toNat]?.getD false
 | none=>false
theorem Ah {t:Trace} {out:a_ (a_ Bool)} {p k:Nat} {row:a_ Bool} (hr:out[p]? = some row) (hk:k+1<row.length) {z:bg} (B:Vd t z) :
 qi (out.set p (row.set (k+1) true)) z=(decide (z=⟨p,k+1⟩)||qi out z):=by
 obtain⟨q,j,e,_,rfl,_⟩:=B.at_;have C:=(ζe.1 hr).1;unfold qi;have e1:(⟨(q:Int),(j:Int)+1⟩:bg).proc.toNat=q:=rfl;have e2:(⟨(q:Int),(j:Int)+1⟩:bg).index.toNat=j+1:=by show ((j:Int)+1).toNat=j+1;omega
 rw[e1,e2,List.getElem?_set]
 by_cases u:p=q
 .subst u;rw[if_pos rfl,if_pos C,hr];dsimp only;rw[List.getElem?_set]
  by_cases w:k=j
  .subst w;simp[hk]
  rw[if_neg Za,show decide ((⟨(p:Int),(j:Int)+1⟩:bg)=⟨p,k+1⟩)=false from by simp;omega,Bool.false_or]
 rw[if_neg u,show decide ((⟨(q:Int),(j:Int)+1⟩:bg)=⟨p,k+1⟩)=false from by simp;omega,Bool.false_or]
theorem zF {α:Type} {f g:α->Bool}:∀{l:a_ α},(∀z∈l,f z=true->g z=true)->(∃z∈l,f z=false/\g z=true)->l.countP f<l.countP g
 | [],_,⟨z,hz,_⟩=>by simp at hz
 | a::l,h,⟨z,hz,B,hg⟩=>by
  simp only[List.countP_cons];have D:=List.countP_mono_left (l:=l) (p:=f) (q:=g) λx t=>h x (List.mem_cons_of_mem _ t)
  rcases List.mem_cons.1 hz with rfl|hz
  .simp[B,hg];omega
  have:=zF (l:=l) (λx t=>h x (List.mem_cons_of_mem _ t)) ⟨z,hz,B,hg⟩
  have h1:=h a (List.mem_cons_self ..)
  cases u:f a with
  | true=>simp[h1 u];omega
  | false=>simp;split <;> omega
def cnt (t:Trace) (out:a_ (a_ Bool)):Nat:=(bT t).countP λz=>qi out z.1
structure Xm (t:Trace) (x:bg) (out:List (List Bool)) (rest:List bg):Prop where
 uw:∀(p:Nat) P,t.procs.l[p]? = some P->∃row,out[p]? = some row/\row.length=P.events.l.length+1
 len:out.length=t.procs.l.length
 que:∀y∈rest,Way t y x
 snd:∀y,Vd t y->qi out y=true->Way t y x
 cls:∀z,z=x\/Vd t z/\qi out z=true->∀y,Edge t y z->qi out y=true\/y∈rest
 le:rest.length<=2*cnt t out+2
def nested (out:a_ (a_ Bool)):Sl (Sl Bool):=if out=[]then .nil else .row (out.map .row)
def lU (t:Trace):a_ (a_ Bool):=t.procs.l.map λP=>List.replicate (P.events.l.length+1) false
theorem B6 (out:a_ (a_ Bool)):(nested out).l=out.map .row:=by
 unfold nested;split
 next h=>rw[h];rfl
 rfl
def Hx (s:Sl (Sl Bool)):a_ (a_ Bool):=s.l.map Sl.l
theorem Re (out:a_ (a_ Bool)):Hx (nested out)=out:=by
 unfold Hx;rw[B6,List.map_map];exact List.map_id' _
theorem Cq {out:a_ (a_ Bool)} {p:Nat} {row:a_ Bool} (h:out[p]? = some row):(idx (nested out) (p:Int)).bind Sl.whole=some (.row row):=by
 rw[qO,B6,List.getElem?_map,h];rfl
theorem CO {out:a_ (a_ Bool)} {p:Nat} {row u:a_ Bool} (h:out[p]? = some row):jG (nested out) (p:Int) (.row u)=nested (out.set p u):=by
 have t:out≠[]:=by rintro rfl;cases h
 unfold nested;rw[if_neg t,if_neg (by simpa using t)];simp[jG,List.map_set]
theorem Kq {out:a_ (a_ Bool)} {r:a_ Bool} (h:out.length<2147483648):eT (nested out) (.row r)=some (nested (out++[r])):=by
 unfold eT;rw[B6,if_pos (by simp;omega)]
 simp[nested]
theorem XH {α:Type} {s:Sl α} {y:α} {r:a_ α} (h:s.l=y::r):∃c,kO s (some 1) none=some c/\c.l=r:=by
 have t:∀l:a_ α,l=y::r->dH l.length (some 1) none=some (1,l.length):=λl u=>by
  unfold dH;simp only[Option.getD_some,Option.getD_none];rw[if_pos (by subst u;simp;omega)];rfl
 cases s with
 | nil=>cases h
 | emp=>cases h
 | row l=>exact⟨_,by simp only[kO,t l h];rfl,by show (l.take l.length).drop 1=r;rw[List.take_length,show l=y::r from h];rfl⟩
 | part l=>exact⟨_,by simp only[kO,t l h];rfl,by show (l.take l.length).drop 1=r;rw[List.take_length,show l=y::r from h];rfl⟩
theorem DI {t:Trace} {y:bg} {s:Sl bg} (h:dm t y=some s):s.whole=some s:=by
 have B:∀o z,Sl.whole o=some o->dm.J1 o t y=some z->z.whole=some z:=λo z D u=>by
  unfold dm.J1 at u;obtain⟨e,_,u⟩:=ζg.1 u
  cases C:e.kind==3 with
  | true=>
   rw[C]at u;obtain⟨f,_,u⟩:=ζg.1 u;obtain⟨q,w,u⟩:=ζg.1 u;cases u;unfold eT at w;split at w <;> cases w;rfl
  | false=>rw[C]at u;cases u;exact D
 unfold dm at h
 cases hc:decide (y.index>1)with
 | true=>rw[hc]at h;exact B _ s rfl h
 | false=>rw[hc]at h;exact B _ s rfl h
theorem EP {t:Trace} {y:bg} {P:Sl bg->Prop} (h:Wp (dm t y) P):Wp ((dm t y).bind Sl.whole) P:=by
 obtain⟨s,h1,u⟩:=h;exact⟨s,by rw[h1];exact DI h1,u⟩
theorem OA {α:Type} {s:Sl α} {p:Nat} (h:p<s.l.length):Sl.j7 s (p:Int)=some p:=by
 unfold Sl.j7;rw[if_pos ⟨by omega,by simpa using h⟩];rfl
theorem Bo {t:Trace} {y:bg}:qi (lU t) y=false:=by
 unfold qi lU;split
 .rename_i row h;rw[List.getElem?_map]at h
  cases u:t.procs.l[y.proc.toNat]? with
  | none=>simp[u]at h
  | some P=>
   simp[u]at h;subst h;rw[List.getElem?_replicate];split <;> rfl
 rfl
theorem To {t:Trace} (hS:Small t) (hN:(bT t).length<1073741824) (hF:∀x∈bT t,kn t.procs.l.length x.1.proc x.2) (hP:xY t) {x:bg} (hx:Vd t x) :
 Wp (fB t x) λs=>∃out,s=nested out/\Xm t x out []/\∀y,Vd t y->(qi out y=true↔Way t y x):=by
 have hn:=hS.1;have an:(lU t).length=t.procs.l.length:=by simp[lU]
 unfold fB fB.W1;refine eG (λq:Sl (Sl Bool)×Int=>∃n:Nat,q.2=(n:Int)/\n<=t.procs.l.length/\q.1=nested ((lU t).take n)) (λq=>t.procs.l.length-q.2.toNat) ⟨0,rfl,Nat.zero_le _,rfl⟩ ?_
 rintro⟨_,_⟩ ⟨n,rfl,ao,rfl⟩;unfold fB.br;dsimp only;rw[cg];refine⟨λh=>?_,λh=>?_⟩
 .have C:n<t.procs.l.length:=by simpa [len]using h
  have ap:=(hS.2 _ (List.getElem_mem C)).1;have hi:(lU t)[n]' Za=List.replicate (t.procs.l[n].events.l.length+1) false:=by simp[lU]
  rw[bG C,ζb,show IntKind.wrap .i64 (len t.procs.l[n].events+1)=((t.procs.l[n].events.l.length+1:Nat):Int)from cH _ Za,show kX (((t.procs.l[n].events.l.length+1:Nat)):Int) false=some (.row (List.replicate (t.procs.l[n].events.l.length+1) false))from by unfold kX;rw[if_pos Za];simp,ζb]
  show Wp (((some _:bf (Sl Bool)).bind _)) _;rw[ζb,Kq (by simp;omega),ζb,bk]
  refine⟨⟨n+1,cH n Za,C,?_⟩,?_⟩
  .rw[List.take_succ_eq_append_getElem Za,hi]
  show t.procs.l.length-(IntKind.wrap .i64 ((n:Int)+1)).toNat<t.procs.l.length-((n:Int)).toNat;rw[cH n Za];omega
 have U:t.procs.l.length<=n:=by simpa [len]using h
 rw[bk,List.take_of_length_le Za]
 show Wp _ _;rw[eY];refine(EP (Bz hS hF hP hx)).mono λs hs=>?_
 unfold fB.W2;refine eG (λq:Sl (Sl Bool)×Sl bg=>∃out,q.1=nested out/\Xm t x out q.2.l) (λq=>2*((bT t).length-cnt t (Hx q.1))+q.2.l.length) ⟨lU t,rfl,λp P hP=>⟨List.replicate (P.events.l.length+1) false,by simp[lU,hP],by simp⟩,by simp[lU],λy I=>.single ((hs.2 y).1 I),λy _ h=>(by rw[Bo]at h;cases h),λz hz y I=>?_,by have:=hs.1;show s.l.length<=2*cnt t (lU t)+2;omega⟩ ?_
 .rcases hz with rfl|⟨_,h⟩
  .exact .inr ((hs.2 y).2 I)
  rw[Bo]at h;cases h
 rintro⟨_,todo⟩ ⟨out,rfl,u⟩;simp only at u;unfold fB.cm
 cases D:todo.l with
 | nil=>
  rw[D]at u;rw[show decide (len todo>0)=false from by simp[len,D],bL,bk]
  refine(bk _).2 ⟨out,rfl,u,λy I=>⟨u.snd y I,λO=>?_⟩⟩
  have key:∀w,Way t y w->w=x\/Vd t w/\qi out w=true->qi out y=true:=λw O=>by
   induction O with
   | single h=>exact λO=>(u.cls _ O _ h).elim id λh=>by cases h
   | tail aq W ih=>exact λO=>ih (.inr ⟨W.1,(u.cls _ O _ W).elim id λh=>by cases h⟩)
  exact key x O (.inl rfl)
 | cons y rest=>
  rw[D]at u;have S:=u.que y (List.mem_cons_self ..);have T:=S.l;obtain⟨p,k,e,ae,rfl,X⟩:=T.at_;obtain⟨P,Y,hk⟩:=ae;have ar:=(ζe.1 hk).1;obtain⟨row,hr,af⟩:=u.uw p P Y;have B:k+1<row.length:=by omega
  have e2:((k:Int)+1)=((k+1:Nat):Int):=by omega
  obtain⟨c,ah,J⟩:=XH D;have Z:out.set p row=out:=by
   obtain⟨hp,ai⟩:=ζe.1 hr;rw[<-ai];exact List.set_getElem_self hp
  rw[show decide (len todo>0)=true from by simp[len,D],bJ,show Sl.j7 todo 0=some 0 from by unfold Sl.j7;rw[if_pos (by simp[D])];rfl,ζb,show Sl.get todo 0=some ⟨(p:Int),(k:Int)+1⟩from by unfold Sl.get;rw[D];rfl,ζb,ah,ζb]
  dsimp only;rw[Cq hr,ζb,e2,show Sl.j7 (.row row) ((k+1:Nat):Int)=some (k+1)from OA B,ζb,show Sl.get (.row row) (k+1)=some row[k+1]from ζd B,ζb,show Sl.whole (.row row)=some (.row row)from rfl,ζb,CO hr,Z,cg];have aa:qi out ⟨p,k+1⟩=row[k+1]:=by
   unfold qi;rw[show ((⟨(p:Int),(k:Int)+1⟩:bg).proc).toNat=p from rfl,hr];dsimp only;rw[show ((k:Int)+1).toNat=k+1 from by omega,ζd B];rfl
  constructor
  .intro hb;rw[bk];refine⟨⟨out,rfl,u.uw,u.len,λy I=>u.que y (List.mem_cons_of_mem _ (J▸I)),u.snd,λz hz y I=>?_,by have:=u.le;simp only[List.length_cons]at this;rw[J];omega⟩,?_⟩
   .rw[J];rcases u.cls z hz y I with h|h
    .exact .inl h
    rcases List.mem_cons.1 h with rfl|h
    .exact .inl (by rw[aa];exact hb)
    exact .inr h
   show 2*((bT t).length-cnt t (Hx (nested out)))+c.l.length<2*((bT t).length-cnt t (Hx (nested out)))+todo.l.length;rw[J,D,List.length_cons];omega
  intro hb;obtain⟨L,aj,ak⟩:∃r,Sl.put (.row row) (k+1) true=some (.row r)/\r=row.set (k+1) true:=⟨_,by unfold Sl.put;rw[if_pos (show k+1<(Sl.row row).l.length from B)],rfl⟩
  rw[Cq hr,ζb,show Sl.j7 (.row row) ((k+1:Nat):Int)=some (k+1)from OA B,ζb,aj,ζb,show Sl.whole (.row L)=some (.row L)from rfl,ζb,CO hr,ak,eY,<-e2];refine(EP (Bz hS hF hP T)).mono λmore hm=>?_
  have al:=u.le;simp only[List.length_cons]at al;have au:cnt t out<=(bT t).length:=List.countP_le_length;have av:=hm.1;have C:cnt t out<cnt t (out.set p (row.set (k+1) true)):=zF (λz hz h=>by rw[Ah hr B ⟨_,hz⟩,h,Bool.or_true]) ⟨_,X,by rw[aa,hb],by rw[Ah hr B T];simp⟩
  have am:cnt t (out.set p (row.set (k+1) true))<=(bT t).length:=List.countP_le_length;unfold fB.W3;refine eG (λq:Sl bg×Int=>∃n:Nat,q.2=(n:Int)/\n<=more.l.length/\q.1.l=rest++more.l.take n) (λq=>more.l.length-q.2.toNat) ⟨0,rfl,Nat.zero_le _,by simp[J]⟩ ?_
  rintro⟨td,_⟩ ⟨n,rfl,hn,G⟩;simp only at G;unfold fB.eS;rw[cg];refine⟨λh=>?_,λh=>?_⟩
  .have C:n<more.l.length:=by simpa [len]using h
   obtain⟨aw,w1,w2⟩:∃r,eT td more.l[n]=some r/\r.l=td.l++[more.l[n]]:=⟨_,by unfold eT;rw[if_pos (by rw[G];simp;omega)],rfl⟩
   rw[OA C,ζb,show Sl.get more n=some more.l[n]from ζd C,ζb,w1,ζb,bk];exact⟨⟨n+1,cH n Za,C,by rw[w2,G,List.take_succ_eq_append_getElem C,List.append_assoc]⟩,by rw[cH n Za];simp;omega⟩
  have U:more.l.length<=n:=by simpa [len]using h
  rw[List.take_of_length_le U]at G;rw[bk];refine(bk _).2 ⟨⟨_,rfl,λq Q hQ=>?_,by show (out.set _ _).length=_;rw[List.length_set];exact u.len,λz hz=>?_,λz hz h=>?_,λz hz y I=>?_,by rw[G,ζi];show _<=2*cnt t (out.set p (row.set (k+1) true))+2;omega⟩,?_⟩
  .show ∃r,(out.set p (row.set (k+1) true))[q]? = some r/\_;rw[List.getElem?_set];split
   next e=>subst e;rw[if_pos (ζe.1 hr).1];rw[Y]at hQ;cases hQ;exact⟨_,rfl,by simp[af]⟩
   exact u.uw q Q hQ
  .rw[G]at hz;rcases List.mem_append.1 hz with hz|hz
   .exact u.que z (List.mem_cons_of_mem _ hz)
   exact .trans (.single ((hm.2 z).1 hz)) S
  .show Way t z x;have h:qi (out.set p (row.set (k+1) true)) z=true:=h;rw[Ah hr B hz]at h;simp only[Bool.or_eq_true,decide_eq_true_eq]at h;rcases h with rfl|h
   .exact S
   exact u.snd z hz h
  .rw[G];show qi (out.set p (row.set (k+1) true)) y=true\/y∈rest++more.l;rw[Ah hr B I.1];have ab:z=x\/Vd t z/\qi out z=true->(decide (y=⟨p,k+1⟩)||qi out y)=true\/y∈rest++more.l:=λhz=>by
    rcases u.cls z hz y I with h|h
    .exact .inl (by rw[show qi out y=true from h,Bool.or_true])
    rcases List.mem_cons.1 h with rfl|h
    .exact .inl Zc
    exact .inr (List.mem_append_left _ h)
   rcases hz with hz|⟨ad,hz⟩
   .exact ab (.inl hz)
   have hz:qi (out.set p (row.set (k+1) true)) z=true:=hz;rw[Ah hr B ad]at hz;simp only[Bool.or_eq_true,decide_eq_true_eq]at hz;rcases hz with rfl|hz
   .exact .inr (List.mem_append_right _ ((hm.2 y).2 I))
   exact ab (.inr ⟨ad,hz⟩)
  show 2*((bT t).length-cnt t (Hx (nested (out.set p (row.set (k+1) true)))))+td.l.length<2*((bT t).length-cnt t (Hx (nested out)))+todo.l.length;rw[Re,Re,G,D,ζi,List.length_cons];omega
theorem WA {t:Trace} (G:Small t) (hN:(bT t).length<1073741824) (hF:∀x∈bT t,kn t.procs.l.length x.1.proc x.2) (J:xY t):Wp (cW.W6 0 t ⟨0,0⟩) λr=>(r.2=0↔¬Kj t):=by
 have hn:=G.1;unfold cW.W6;refine eG (λi:Int=>∃n:Nat,i=n/\n<=t.procs.l.length/\∀(p k:Nat) e,p<n->lI t p k e->¬Way t ⟨p,k+1⟩ ⟨p,k+1⟩) (λi:Int=>t.procs.l.length-i.toNat) ⟨0,rfl,Nat.zero_le _,λp k e U=>absurd U Za⟩ ?_
 rintro i ⟨n,rfl,Z,W⟩;unfold cW.Js;rw[cg];constructor
 .intro h;have w:n<t.procs.l.length:=by simpa [len]using h
  have I:=bG w;have z:=ζd w;have aa:=(G.2 _ (List.getElem_mem w)).1;generalize t.procs.l[n]=P at *;unfold cW.W7;refine eG (λi:Int=>∃m:Nat,i=m/\m<=P.events.l.length/\∀k,k<m->¬Way t ⟨n,k+1⟩ ⟨n,k+1⟩) (λi:Int=>P.events.l.length-i.toNat) ⟨0,rfl,Nat.zero_le _,λk hk=>absurd hk Za⟩ ?_
  rintro i ⟨m,rfl,hm,hk⟩;unfold cW.Kb;rw[I,ζb,cg];constructor
  .intro h;have L:m<P.events.l.length:=by simpa [len]using h
   have O:=cH m Za
   have hv:Vd t ⟨n,m+1⟩:=⟨P.events.l[m],eo.2 ⟨n,m,⟨P,z,ζd L⟩,rfl⟩⟩;rw[O,show (((m+1:Nat)):Int)=(m:Int)+1 from by simp,eY]
   refine(To G hN hF J hv).mono ?_;rintro s ⟨out,rfl,hI,B⟩;obtain⟨row,hr,ab⟩:=hI.uw n P z;have S:out≠[]:=by rintro rfl;cases hr
   have C:m+1<row.length:=by omega
   have h1:idx (nested out) (n:Int)=some (.row row):=by
    unfold nested;rw[if_neg S,qO];show (out.map Sl.row)[n]? = _;rw[List.getElem?_map,hr];rfl
   have h2:idx (Sl.row row) ((m:Int)+1)=some row[m+1]:=by
    rw[show (m:Int)+1=((m+1:Nat):Int)from by simp]
    exact bG (s:=Sl.row row) C
   rw[h1,ζb,h2,ζb,cg];have hb:row[m+1]=qi out ⟨n,m+1⟩:=by
    unfold qi;rw[show ((⟨(n:Int),(m:Int)+1⟩:bg).proc).toNat=n from rfl,hr];dsimp only;rw[show ((m:Int)+1).toNat=m+1 from by omega,ζd C];rfl
   rw[hb];refine⟨λD=>(bk _).2 ((bk _).2 ((bk _).2 ⟨λh=>(by cases h),λh=>absurd ⟨_,(B _ hv).1 D⟩ h⟩)),λD=>(bk _).2 ⟨⟨m+1,by simp,by omega,λk ad=>?_⟩,by simp;omega⟩⟩
   by_cases e:k=m
   .subst e;exact λO=>by rw[(B _ hv).2 O]at D;cases D
   exact hk k Za
  intro h;have T:P.events.l.length<=m:=by simpa [len]using h
  refine(bk _).2 ((bk _).2 ⟨⟨n+1,cH n Za,by omega,λp k e U u=>?_⟩,by rw[cH n Za];simp;omega⟩)
  by_cases e:p=n
  .subst e;obtain⟨Q,X,he⟩:=u;rw[z]at X;cases X;have:=(ζe.1 he).1;exact hk k Za
  exact W p k _ Za u
 intro h;have T:t.procs.l.length<=n:=by simpa [len]using h
 refine(bk _).2 ((bk _).2 ⟨λ_ ⟨x,Y⟩=>?_,λ_=>rfl⟩)
 obtain⟨p,k,e,u,rfl,_⟩:=Y.l.at_;obtain⟨P,J,_⟩:=id u;exact W p k e (by have:=(ζe.1 J).1;omega) u Y
theorem GZ {t:Trace} (B:∀x∈bT t,kn t.procs.l.length x.1.proc x.2):(∀(p k:Nat) e,lI t p k e->vt t (⟨p,k+1⟩,e)=0)↔xY t:=
 Iff.trans ⟨λh x w=>by obtain⟨p,k,h1,u⟩:=eo.1 w;obtain⟨a,e⟩:=x;simp only at h1 u;rw[u];exact h p k e h1,λh p k e z=>h _ (eo.2 ⟨p,k,z,rfl⟩)⟩ (KX B)
theorem Mp {t:Trace} (O:Small t) (hN:(bT t).length<1073741824):Wp (cW t) λr=>(r.2=0↔Ok t):=by
 have hn:=O.1;unfold cW;rw[jD,ζb,cg];refine⟨λT=>(bk _).2 ⟨λh=>(by cases h),λh=>?_⟩,λT=>?_⟩
 .have h1:=h.one;have h8:=h.few;simp only[Bool.or_eq_true,decide_eq_true_eq,len]at T;omega
 have h8:1<=t.procs.l.length/\t.procs.l.length<=8:=by
  simp only[Bool.or_eq_false_iff,decide_eq_false_iff_not,len]at T;omega
 unfold cW.W1;refine eG (λi:Int=>∃n:Nat,i=n/\n<=t.procs.l.length/\∀p,p<n->tB t p=0) (λi:Int=>t.procs.l.length-i.toNat) ⟨0,rfl,Nat.zero_le _,λp I=>absurd I Za⟩ ?_
 rintro i ⟨n,rfl,af,hh⟩;unfold cW.br;rw[cg];constructor
 .intro h;have w:n<t.procs.l.length:=by simpa [len]using h
  rw[OE O w,ζb,cg];refine⟨λC=>(bk _).2 ⟨⟨n+1,cH n Za,by omega,λp I=>?_⟩,by rw[cH n Za];simp;omega⟩,λC=>(bk _).2 ((bk _).2 ⟨λh=>?_,λh=>?_⟩)⟩
  .by_cases e:p=n
   .subst e;simpa using C
   exact hh p Za
  .simp only at h;simp[h]at C
  simp[h.heads n w]at C
 intro h;have ah:t.procs.l.length<=n:=by simpa [len]using h
 rw[bk];unfold cW.W2;refine eG (λi:Int=>∃n:Nat,i=n/\n<=t.procs.l.length/\∀(p k:Nat) P e,p<n->t.procs.l[p]? = some P->P.events.l[k]? = some e->oN t.procs.l.length P p k e=0) (λi:Int=>t.procs.l.length-i.toNat) ⟨0,rfl,Nat.zero_le _,λp k P e I=>absurd I Za⟩ ?_
 rintro i ⟨J,rfl,ae,Y⟩;unfold cW.cm;rw[cg];constructor
 .intro h;have w:J<t.procs.l.length:=by simpa [len]using h
  have G:=bG w;have B:=ζd w;have U:=(O.2 _ (List.getElem_mem w)).1;generalize t.procs.l[J]=P at G B U;unfold cW.W3;refine eG (λi:Int=>∃m:Nat,i=m/\m<=P.events.l.length/\∀(k:Nat) e,k<m->P.events.l[k]? = some e->oN t.procs.l.length P J k e=0) (λi:Int=>P.events.l.length-i.toNat) ⟨0,rfl,Nat.zero_le _,λk e hk=>absurd hk Za⟩ ?_
  rintro i ⟨m,rfl,hm,hk⟩;unfold cW.eS;rw[G,ζb,cg];constructor
  .intro h;have W:m<P.events.l.length:=by simpa [len]using h
   have D:=ζd W;have hw:=cH m Za
   rw[OW O B D,ζb,cg];refine⟨λC=>(bk _).2 ⟨⟨m+1,hw,by omega,λk e ad u=>?_⟩,by rw[hw];simp;omega⟩,λC=>(bk _).2 ((bk _).2 ((bk _).2 ⟨λh=>?_,λh=>?_⟩))⟩
   .by_cases ek:k=m
    .subst ek;rw[D]at u;cases u;simpa using C
    exact hk k e Za u
   .simp only at h;simp[h]at C
   simp[h.fq J m P _ B D]at C
  intro h;have L:P.events.l.length<=m:=by simpa [len]using h
  refine(bk _).2 ((bk _).2 ⟨⟨J+1,cH J Za,by omega,λp k Q e I X u=>?_⟩,by rw[cH J Za];simp;omega⟩)
  by_cases ep:p=J
  .subst ep;rw[B]at X;cases X;exact hk k e (by have:=(ζe.1 u).1;omega) u
  exact Y p k Q e Za X u
 intro h;have L:t.procs.l.length<=J:=by simpa [len]using h
 have Y:∀(p k:Nat) P e,t.procs.l[p]? = some P->P.events.l[k]? = some e->oN t.procs.l.length P p k e=0:=λp k P e S hk=>Y p k P e (by have:=(ζe.1 S).1;omega) S hk
 have Z:=ER Y;rw[bk];unfold cW.W4;refine eG (λi:Int=>∃n:Nat,i=n/\n<=t.procs.l.length/\∀(p k:Nat) e,p<n->lI t p k e->vt t (⟨p,k+1⟩,e)=0) (λi:Int=>t.procs.l.length-i.toNat) ⟨0,rfl,Nat.zero_le _,λp k e I=>absurd I Za⟩ ?_
 rintro i ⟨q,rfl,hq,aa⟩;unfold cW.JB;rw[cg];constructor
 .intro h;have w:q<t.procs.l.length:=by simpa [len]using h
  have G:=bG w;have B:=ζd w;have U:=(O.2 _ (List.getElem_mem w)).1;generalize t.procs.l[q]=P at G B U;unfold cW.W5;refine eG (λi:Int=>∃m:Nat,i=m/\m<=P.events.l.length/\∀(k:Nat) e,k<m->P.events.l[k]? = some e->vt t (⟨q,k+1⟩,e)=0) (λi:Int=>P.events.l.length-i.toNat) ⟨0,rfl,Nat.zero_le _,λk e hk=>absurd hk Za⟩ ?_
  rintro i ⟨m,rfl,hm,hk⟩;unfold cW.xK;rw[G,ζb,cg];constructor
  .intro h;have W:m<P.events.l.length:=by simpa [len]using h
   have D:=ζd W;have hw:=cH m Za
   have z:lI t q m P.events.l[m]:=⟨P,B,D⟩;rw[hw,show (((m+1:Nat)):Int)=(m:Int)+1 from by simp,NJ O z (Z (⟨q,m+1⟩,P.events.l[m]) (eo.2 ⟨q,m,z,rfl⟩)),ζb,cg]
   refine⟨λC=>(bk _).2 ⟨⟨m+1,by simp,by omega,λk e ad u=>?_⟩,by simp;omega⟩,λC=>(bk _).2 ((bk _).2 ((bk _).2 ⟨λh=>?_,λh=>?_⟩))⟩
   .by_cases ek:k=m
    .subst ek;rw[D]at u;cases u;simpa using C
    exact hk k e Za u
   .simp only at h;simp[h]at C
   simp[(GZ Z).2 h.NN q m _ z]at C
  intro h;have L:P.events.l.length<=m:=by simpa [len]using h
  refine(bk _).2 ((bk _).2 ⟨⟨q+1,cH q Za,by omega,λp k e I z=>?_⟩,by rw[cH q Za];simp;omega⟩)
  by_cases ep:p=q
  .subst ep;obtain⟨Q,X,u⟩:=z;rw[B]at X;cases X;exact hk k e (by have:=(ζe.1 u).1;omega) u
  exact aa p k e Za z
 intro h;have ai:t.procs.l.length<=q:=by simpa [len]using h
 have S:xY t:=(GZ Z).1 λp k e z=>aa p k e (by obtain⟨P,S,_⟩:=z;have:=(ζe.1 S).1;omega) z
 have ab:¬Kj t↔Ok t:=⟨λh=>⟨h8.1,h8.2,λp I=>hh p Za,Y,S,h⟩,λh=>h.acyc⟩
 rw[bk,eY];refine(LS O Z S).mono λb hb=>?_
 rw[cg];exact⟨λh=>(bk _).2 ⟨λ_=>ab.1 (hb h),λ_=>rfl⟩,λ_=>(WA O hN Z S).mono λr hr=>hr.trans ab⟩
theorem N1 {t:Trace} (u:Small t) (B:(bT t).length<1073741824):∃b,cE t=some b/\nG t=some b/\(b=true->VT t):=by
 obtain⟨b,w,h1,z⟩:=QB u B;refine⟨b,w,?_,h1⟩;unfold nG;obtain⟨r,hr,C⟩:=Mp u B;rw[hr,ζb]
 congr 1
 rw[Bool.eq_iff_iff,beq_iff_eq,C];exact⟨z,λh=>(h1 h).ok⟩
theorem Qt {t:Trace} (U:Small t) {c:Sl Int} (D:c.l.length=t.procs.l.length) {step:Int->bf (Fw Int Unit Unit)}
 (W:∀i,step i=bp (decide (i<(len c))) ((idx c i).bind λG=>(bp (decide (G<0)) (some true) ((idx c i).bind λJ=>(idx t.procs i).bind λO=>some (decide (J>(len O.events)))):bf Bool).bind λT=>bp T (some (.r ())) (some (.n (IntKind.wrap .i64 (i+1))))) (some (.x ()))) :
 Wp ((bM step 0).bind (Fw.elim (λ_=>some true) (λ_=>some false))) λb=>(b=true↔lR t c.l):=by
 have h1:=U.1;refine eG (λs:Int=>∃n:Nat,s=n/\n<=c.l.length/\∀(p:Nat) (a:Int) (P:cu),p<n->c.l[p]? = some a->t.procs.l[p]? = some P->0<=a/\a<=P.events.l.length) (λs:Int=>c.l.length-s.toNat) ⟨0,rfl,Nat.zero_le _,λp a P h=>absurd h Za⟩ ?_
 rintro s ⟨n,rfl,X,I⟩;rw[W,cg];constructor
 .intro h;have w:n<c.l.length:=by simpa [len]using h
  have u:n<t.procs.l.length:=by omega
  have L:=cH n Za
  rw[bG w,ζb,ζb,bG u,ζb,jD,ζb,cg];constructor
  .intro z;have z:c.l[n]<0\/c.l[n]>t.procs.l[n].events.l.length:=by simpa [len]using z
   refine(bk _).2 ((bk _).2 ⟨λh=>(by cases h),λQ=>?_⟩)
   have:=Q.2 n _ _ (ζd w) (ζd u);omega
  intro z;have z:0<=c.l[n]/\c.l[n]<=t.procs.l[n].events.l.length:=by simpa [len]using z
  refine(bk _).2 ⟨⟨n+1,L,by omega,λp a P Y B C=>?_⟩,by rw[L];simp;omega⟩
  by_cases e:p=n
  .subst e;rw[ζd w]at B;cases B;rw[ζd u]at C;cases C;exact z
  exact I p a P Za B C
 intro h;have S:c.l.length<=n:=by simpa [len]using h
 refine(bk _).2 ((bk _).2 ⟨λ_=>⟨D,λp a P B C=>I p a P (by have:=(ζe.1 B).1;omega) B C⟩,λ_=>rfl⟩)
theorem RQ {t:Trace} (B:Small t) {c:Sl Int} (u:c.l.length=t.procs.l.length):Wp (me t c) λb=>(b=true↔lR t c.l):=by
 unfold me;rw[show (len c==len t.procs)=true from by simp[len,u],bJ]
 exact Qt B u λi=>rfl
theorem Mw {t:Trace} (B:VT t) {A:bP 200 bt} (D:fR t (bT t) A) {p k:Nat} {e:Event} (u:lI t p k e) (hk:e.kind=3):lX t 2 e.message=(ag A e.message).from_:=by
 obtain⟨y,h1,w,z⟩:=AB B.formed B.ok.NN (eo.2 ⟨p,k,u,rfl⟩:((⟨p,k+1⟩:bg),e)∈bT t) hk;have:=D.snd _ h1 w;simp only[z]at this;exact this.symm
end Go.VE
namespace Go.VE
theorem Code.one {t:Trace} {A:bP 200 bt} {c:a_ Int} {r s:Int} (h:Code t A c r) (g:Code t A c s):r=s:=by
 rcases h with⟨h,rfl⟩|⟨h1,u,rfl⟩|⟨h1,u,rfl⟩|⟨h1,u,rfl⟩ <;> rcases g with⟨g,rfl⟩|⟨g1,g2,rfl⟩|⟨g1,g2,rfl⟩|⟨g1,g2,rfl⟩ <;> first|rfl|contradiction|exact absurd ‹lR t c›.1 ‹_›
theorem iC {σ ε ρ γ:Type} {step:σ->bf (Fw σ ε ρ)} {u:ε->bf γ} {fr:ρ->bf γ} {P:γ->Prop} (n:Nat) (I:Nat->σ->Prop) {s:σ} (D:I 0 s)
 (h:∀i s,i<n->I i s->Wp (step s) λw=>match w with|.n B=>I (i+1) B|.x e=>Wp (u e) P|.r b=>Wp (fr b) P)
 (G:∀s,I n s->Wp (step s) λw=>match w with|.n _=>False|.x e=>Wp (u e) P|.r b=>Wp (fr b) P):Wp ((bM step s).bind (Fw.elim u fr)) P:=by
 have key:∀m i s,i+m=n->I i s->Wp ((bM step s).bind (Fw.elim u fr)) P:=by
  intro m
  induction m with
  | zero=>
   intro i s C z;obtain⟨w,t,hr⟩:=G s Zd
   rw[fc,t]
   cases w with
   | n B=>grind
   | x e=>exact hr
   | r b=>exact hr
  | succ m J=>
   intro i s C z;obtain⟨w,t,hr⟩:=h i s Za z
   rw[fc,t]
   cases w with
   | n B=>grind
   | x e=>exact hr
   | r b=>exact hr
 exact key n 0 s (Nat.zero_add n) D
theorem tL:∀{c:a_ Int} {p:Nat} {a b:Int},c[p]? = some a->(c.set p b).sum=c.sum-a+b
 | [],_,_,_,h=>by simp_all
 | x::c,0,a,b,h=>by grind
 | x::c,p+1,a,b,h=>by
  have:=tL   (b:=b) (by simpa using h)
  grind
theorem sB:∀{c:a_ Int},(∀(p:Nat) a,c[p]? = some a->0<=a)->0<=c.sum
 | [],_=>by simp
 | x::c,h=>by
  have h1:=h 0 x rfl;have t:=sB (c:=c) λp a u=>h (p+1) a Zd
  grind
theorem GS:∀{c:a_ Int},(∀(p:Nat) a,c[p]? = some a->0<=a)->c.sum=0->∀(p:Nat) a,c[p]? = some a->a=0
 | [],_,_,p,a,u=>by simp_all
 | x::c,h,B,p,a,u=>by
  have h1:=h 0 x rfl;have hc:∀(p:Nat) a,c[p]? = some a->0<=a:=λp a u=>h (p+1) a Zd
  have t:=sB hc;simp  at B
  cases p with
  | zero=>grind
  | succ p=>exact GS hc Za p a Zd
theorem Kd:∀{c:a_ Int} {l:a_ Nat},c.length=l.length->(∀(i:Nat) a b,c[i]? = some a->l[i]? = some b->a<=(b:Nat))->c.sum<=(l.sum:Nat)
 | [],[],_,_=>by simp
 | x::c,y::l,u,h=>by
  have h1:=h 0 x y rfl rfl;have t:=Kd (c:=c) (l:=l) Zd λi a b w z=>h (i+1) a b Zd Zd
  grind
section
variable {t:Trace} {A:bP 200 bt} {c:a_ Int}
theorem lR.pos (h:lR t c) (p:Nat) (a:Int) (u:c[p]? = some a):0<=a:=
 (h.2 p a _ u (ζd (by have:=(ζe.1 u).1;rw[<-h.1];simp_all))).1
theorem lR.at_ (h:lR t c) {p:Nat} (hp:p<t.procs.l.length):∃a,c[p]? = some a:=⟨_,ζd (by rw[h.1];omega)⟩
theorem lR.sum (h:lR t c):0<=c.sum/\c.sum<=(qX t:Nat):=
 ⟨sB h.pos,Kd (by simp[h.1]) λi a b z u=>by
  cases w:t.procs.l[i]? with
  | none=>grind
  | some P=>simp[w]at u;rw[<-u];exact(h.2 i a P z w).2⟩
theorem lR.set (h:lR t c) {p:Nat} {b:Int} {P:cu} (B:t.procs.l[p]? = some P) (D:0<=b) (h1:b<=P.events.l.length):lR t (c.set p b):=by
 refine⟨by simp[h.1],λq a Q u w=>?_⟩
 rw[List.getElem?_set]at u;split at u
 .grind
 exact h.2 q a Q u w
def Xv (t:Trace) (A:bP 200 bt) (c:a_ Int) (p:Nat):Prop:=∃P e a,t.procs.l[p]? = some P/\c[p]? = some a/\P.events.l[a.toNat]? = some e/\(e.kind=3->∃b,c[(ag A e.message).from_.proc.toNat]? = some b/\(ag A e.message).from_.index<=b)
theorem lI.one {p k:Nat} {e f:Event} (h:lI t p k e) (g:lI t p k f):e=f:=by
 obtain⟨P,u,w⟩:=h;obtain⟨Q,z,B⟩:=g
 grind
theorem mb.le (h:mb t A c) {p:Nat} {a b:Int} (G:c[p]? = some a) (J:a<=b) (O:∀(k:Nat) e,lI t p k e->a<=k->(k:Int)<b->e.kind=3->∃B,(c.set p b)[(ag A e.message).from_.proc.toNat]? = some B/\(ag A e.message).from_.index<=B):mb t A (c.set p b):=by
 have L:=(ζe.1 G).1;have up:∀(q:Nat) x,c[q]? = some x->∃y,(c.set p b)[q]? = some y/\x<=y:=λq x u=>by
  rw[List.getElem?_set]
  grind
 intro q k e x w u hk I;rw[List.getElem?_set]at u;have C:∀x,c[q]? = some x->k<x->∃B,(c.set p b)[(ag A e.message).from_.proc.toNat]? = some B/\(ag A e.message).from_.index<=B:=λx u hk=>by
  obtain⟨y,Q,S⟩:=h q k e x w u hk I;obtain⟨z,T,U⟩:=up _ y Q;exact⟨z,T,by omega⟩
 split at u
 .rename_i W;subst W;simp[L]at u;subst u
  by_cases D:k<a
  .exact C a G D
  exact O k e w Za hk I
 grind
theorem BD (B:VT t) (G:fR t (bT t) A) {p k:Nat} {e:Event} (u:lI t p k e) (D:e.kind=3):∃q j:Nat,(ag A e.message).from_=⟨q,j+1⟩/\q≠p/\Gg t ⟨q,j+1⟩ ⟨p,k+1⟩/\∃y,lI t q j y:=by
 obtain⟨q,j,y,w,C,I,y3,y4,y5⟩:=Cd B G u D;have z:(⟨p,k+1⟩,e)∈bT t:=eo.2 ⟨p,k,u,rfl⟩;refine⟨q,j,y5,?_,⟨y,e,eo.2 ⟨q,j,w,rfl⟩,z,C,D,I⟩,y,w⟩;rcases B.formed _ z with h|⟨_,_,_,h,_⟩
 .grind
 grind
theorem Cons.up (O:VT t) (T:fR t (bT t) A) (G:Cons t A c) {p:Nat} {a:Int} {P:cu} (B:t.procs.l[p]? = some P) (D:c[p]? = some a) (Y:a<P.events.l.length):Xv t A c p↔Cons t A (c.set p (a+1)):=by
 have Z:=G.1.pos p a D;have hp:=(ζe.1 D).1;constructor
 .rintro⟨Q,e,x,I,J,S,w⟩;rw[B]at I;cases I;rw[D]at J;cases J;refine⟨G.1.set B Za Za,G.2.le D Za λk f z U W hf=>?_⟩
  have C:k=a.toNat:=by omega
  subst C;cases z.one ⟨P,B,S⟩
  grind
 intro h;have u:a.toNat<P.events.l.length:=by omega
 refine⟨P,P.events.l[a.toNat],a,B,D,ζd u,λw=>?_⟩
 obtain⟨b,L,X⟩:=h.2 p a.toNat _ (a+1) ⟨P,B,ζd u⟩ (by simp_all) Za w
 rw[List.getElem?_set]at L;split at L
 .obtain⟨q,j,f1,f2,_⟩:=BD O T ⟨P,B,ζd u⟩ w
  grind
 grind
noncomputable def Ht (t:Trace) (x:bg):Nat:=by
 classical
 exact(bT t).countP λz=>decide (Way t z.1 x)
theorem Jt (B:VT t) {x y:bg} (h:Way t x y):Ht t x<Ht t y:=by
 classical
 refine zF (λz _ u=>?_) ?_
 .have u:Way t z.1 x:=by grind
  simpa using u.trans h
 obtain⟨e,w⟩:=h.l;exact⟨(x,e),w,by simpa using λk=>B.ok.acyc ⟨x,k⟩,by grind⟩
theorem RX (x:bg):Ht t x<=(bT t).length:=by
 classical
 unfold Ht;grind
theorem Vd.of {p k:Nat} {e:Event} (h:lI t p k e):Vd t ⟨p,k+1⟩:=⟨e,eo.2 ⟨p,k,h,rfl⟩⟩
theorem Hs {p:Nat} {P:cu} (u:t.procs.l[p]? = some P):∀(d k:Nat),k+d+1<P.events.l.length->Way t ⟨p,k+1⟩ ⟨p,((k+d+1:Nat):Int)+1⟩
 | 0,k,h=>.single ⟨Vd.of ⟨P,u,ζd Za⟩,Vd.of ⟨P,u,ζd h⟩,.inl Zc⟩
 | d+1,k,h=>(Hs u d k Za).tail ⟨Vd.of ⟨P,u,ζd (show k+d+1<_ by omega)⟩,Vd.of ⟨P,u,ζd h⟩,.inl (by simp;omega)⟩
theorem Up {q k:Nat} {b:Int} {Q:cu} {x:bg} (u:t.procs.l[q]? = some Q) (h:Way t x ⟨q,k+1⟩) (h1:(k:Int)<b) (B:b<=Q.events.l.length):Way t x ⟨q,b⟩:=by
 by_cases e:b=k+1
 .grind
 have:=Hs u (b.toNat-k-2) k Za
 rw[show ((k+(b.toNat-k-2)+1:Nat)+1)=b from by omega]at this
 exact h.trans this
theorem Cons.JG (hV:VT t) (hM:fR t (bT t) A) (B:Cons t A c) {p:Nat} {a:Int} (G:c[p]? = some a) (h0:0<a):Cons t A (c.set p (a-1))\/∃(q:Nat) (b:Int),c[q]? = some b/\0<b/\Way t ⟨p,a⟩ ⟨q,b⟩:=by
 have Z:=(ζe.1 G).1;have O:=ζd (show p<t.procs.l.length by rw[<-B.1.1];omega)
 have hr:=B.1.2 p a _ G O;refine Classical.byContradiction λC=>C (.inl ⟨B.1.set O Za Za,λq k e x u J hk S=>?_⟩)
 obtain⟨z,w,aa⟩:∃z,c[q]? = some z/\x<=z:=by
  rw[List.getElem?_set]at J;split at J
  next e2=>subst e2;simp[Z]at J;exact⟨a,G,by omega⟩
  grind
 obtain⟨y,I,D⟩:=B.2 q k e z u w Za S
 obtain⟨r,j,f1,f2,f3,_⟩:=BD hV hM u S;rw[f1]at I D ⊢;simp only[Int.toNat_natCast]at I D ⊢
 by_cases e2:p=r
 .subst e2;rw[G]at I;cases I;refine⟨a-1,by simp_all,?_⟩
  refine Classical.byContradiction λhj=>C (.inr ⟨q,z,w,by omega,?_⟩)
  have:a=j+1:=by omega
  subst this;obtain⟨Q,T,_⟩:=u;have L:=B.1.2 q z Q w T;obtain⟨U,W,X,Y,m3⟩:=f3;exact Up T (.single ⟨⟨U,X⟩,⟨W,Y⟩,.inr ⟨U,W,X,Y,m3⟩⟩) Za L.2
 simp_all
theorem Cons.WT (u:VT t) (D:fR t (bT t) A) (G:Cons t A c):∀(n p:Nat) (a:Int),c[p]? = some a->0<a->(bT t).length-Ht t ⟨p,a⟩<=n->∃(q:Nat) (b:Int),c[q]? = some b/\0<b/\Cons t A (c.set q (b-1)):=by
 intro n
 induction n with
 | zero=>
  intro p a w z I;rcases G.JG u D w z with h|⟨q,b,_,_,B⟩
  .grind
  have:=Jt u B;have:=RX (t:=t) ⟨q,b⟩;omega
 | succ n J=>
  intro p a w z I;rcases G.JG u D w z with h|⟨q,b,L,C,B⟩
  .grind
  have:=Jt u B;exact J q b L C Za
theorem Cons.down (B:VT t) (D:fR t (bT t) A) (u:Cons t A c) (G:0<c.sum):∃(q:Nat) (b:Int),c[q]? = some b/\0<b/\Cons t A (c.set q (b-1)):=by
 obtain⟨p,a,w,C⟩:∃(p:Nat) (a:Int),c[p]? = some a/\0<a:=by
  refine Classical.byContradiction λz=>?_
  have J:∀a∈c,a=0:=λa w=>by
   obtain⟨p,I⟩:=List.mem_iff_getElem?.1 w;have:=u.1.pos p a I
   grind
  have:c.sum=0:=by
   clear u G z
   induction c with
   | nil=>rfl
   | cons x c L=>simp_all
  omega
 exact u.WT B D _ p a w C (Nat.le_refl _)
theorem Cons.EM (D:VT t) (G:fR t (bT t) A):∀(d:Nat) {c:a_ Int} {k:Nat},Cons t A c->c.sum=((k+d:Nat):Int)->∃c',Cons t A c'/\c'.sum=(k:Int)
 | 0,c,k,u,J=>⟨c,u,by grind⟩
 | d+1,c,k,u,J=>by
  obtain⟨q,b,O,T,B⟩:=u.down D G Za
  exact Cons.EM D G d B (by rw[tL O];omega)
end
theorem jV {α:Type} {s:Sl α} {n:Nat} (h:n<s.l.length):decide ((n:Int)<len s)=true:=by simp[len];omega
theorem kA {α:Type} {s:Sl α}:decide ((s.l.length:Int)<len s)=false:=by simp[len]
theorem AW {α:Type} {s x:Sl α} (h:s.l.length+x.l.length<=2147483648):∃r,mI s x=some r/\r.l=s.l++x.l:=by
 unfold mI
 by_cases e:x.l=[]
 .rw[if_pos e];exact⟨s,rfl,by rw[e,List.append_nil]⟩
 rw[if_neg e,if_pos h];exact⟨_,rfl,rfl⟩
theorem tK {α:Type} {s:Sl α} {x:α} (h:s.l.length<2147483648):∃r,eT s x=some r/\r.l=s.l++[x]:=by
 unfold eT;rw[if_pos Za];exact⟨_,rfl,rfl⟩
theorem xU {α:Type} {s:Sl α} {p:Nat} (h:p<s.l.length):Sl.j7 s (p:Int)=some p:=by
 unfold Sl.j7;rw[if_pos ⟨by omega,by simpa using h⟩];rfl
theorem put_eq {α:Type} {s:Sl α} {p:Nat} {x:α} (h:p<s.l.length):∃r,Sl.put s p x=some r/\r.l=s.l.set p x:=by
 unfold Sl.put;rw[if_pos h];exact⟨_,rfl,by cases s <;> first|rfl|(simp[Sl.l]at h)⟩
section
variable {t:Trace} {A:bP 200 bt}
def X0 (t:Trace) (A:bP 200 bt) (c:a_ Int) (n:Nat):Prop:=∀(p k:Nat) (e:Event) (a:Int),p<n->lI t p k e->c[p]? = some a->(k:Int)<a->e.kind=3->∃b,c[(ag A e.message).from_.proc.toNat]? = some b/\(ag A e.message).from_.index<=b
theorem Uz (hS:Small t) (T:VT t) (hM:fR t (bT t) A) {c:Sl Int} (hR:lR t c.l):Wp (dD t c) λb=>(b=true↔mb t A c.l):=by
 have aa:=hR.1;have ab:=T.few;unfold dD dD.W1;refine iC c.l.length (λn s=>s=(n:Int)/\X0 t A c.l n) ⟨rfl,λp k e a h=>absurd h Za⟩ ?_ ?_
 .rintro n _ B ⟨rfl,U⟩;unfold dD.br;rw[jV B,bJ];have z:n<t.procs.l.length:=by omega
  have ad:=(hS.2 _ (List.getElem_mem z)).1;have C:=ζd z;have D:=ζd B;obtain⟨r1,r2⟩:=hR.2 n _ _ D C;have J:=bG B;generalize c.l[n]=a at *;generalize t.procs.l[n]=P at *;unfold dD.W2;refine iC a.toNat (λm s=>s=(m:Int)/\∀(k:Nat) (e:Event),k<m->lI t n k e->e.kind=3->∃b,c.l[(ag A e.message).from_.proc.toNat]? = some b/\(ag A e.message).from_.index<=b) ⟨rfl,λk e h=>absurd h Za⟩ ?_ ?_
  .rintro m _ hm ⟨rfl,W⟩;unfold dD.cm;have L:m<P.events.l.length:=by omega
   have u:lI t n m P.events.l[m]:=⟨P,C,ζd L⟩;rw[J,ζb,show decide ((m:Int)<a)=true from by simp;omega,bJ,qO,C,ζb,bG L,ζb,cH m Za]
   generalize P.events.l[m]=e at *;have more:(e.kind=3->∃b,c.l[(ag A e.message).from_.proc.toNat]? = some b/\(ag A e.message).from_.index<=b)->∀(k:Nat) (e:Event),k<m+1->lI t n k e->e.kind=3->∃b,c.l[(ag A e.message).from_.proc.toNat]? = some b/\(ag A e.message).from_.index<=b:=λh k f hk Z w=>by
    by_cases ek:k=m
    .subst ek;cases u.one Z;exact h w
    exact W k f Za Z w
   rw[cg];refine⟨λw=>?_,λw=>(bk _).2 ⟨rfl,more λk=>by simp[k]at w⟩⟩
   have w:e.kind=3:=by simpa using w
   obtain⟨q,j,f1,_,_,y,Q,hQ,_⟩:=BD T hM u w;have G:q<c.l.length:=by have:=(ζe.1 hQ).1;omega
   rw[find_eq hS,Mw T hM u w,ζb,f1];simp only;rw[bG G,ζb,cg];refine⟨λX=>(bk _).2 ((bk _).2 ((bk _).2 ⟨λh=>(by cases h),λhC=>?_⟩)),λY=>(bk _).2 ⟨rfl,more λ_=>?_⟩⟩
   .obtain⟨b,O,S⟩:=hC n m e a u D Za w
    rw[f1]at O S;simp only[Int.toNat_natCast,ζd G,ζa]at O S;simp only[decide_eq_true_eq]at X;omega
   rw[f1];exact⟨c.l[q],by simp only[Int.toNat_natCast];exact ζd G,by simp at Y ⊢;omega⟩
  rintro _ ⟨rfl,W⟩;unfold dD.cm;rw[J,ζb,show decide ((a.toNat:Int)<a)=false from by simp;omega,bL]
  refine(bk _).2 ((bk _).2 ⟨cH n Za,λp k e x hp u I hk w=>?_⟩)
  by_cases e2:p=n
  .subst e2;rw[D]at I;cases I;exact W k e Za u w
  exact U p k e x Za u I hk w
 rintro _ ⟨rfl,U⟩;unfold dD.br;rw[kA,bL];exact(bk _).2 ((bk _).2 ⟨λ_ p k e a u I=>U p k e a (ζe.1 I).1 u I,λ_=>rfl⟩)
theorem Wc (B:Small t) (D:VT t) (G:fR t (bT t) A) {c:Sl Int} (u:c.l.length=t.procs.l.length):Wp (wM t c) λb=>(b=true↔Cons t A c.l):=by
 unfold wM;rw[eY];refine(RQ B u).mono λb z=>?_
 rw[eY,cg];constructor
 .intro h;have C:=z.1 h;rw[eY];refine(Uz B D G C).mono λJ w=>?_
  rw[bk,bk];exact w.trans ⟨λh=>⟨C,h⟩,λh=>h.2⟩
 intro h;rw[bk,bk];exact⟨λh=>(by cases h),λI=>absurd (z.2 I.1) (by simp[h])⟩
theorem step_eq {c:Sl Int} {p:Nat} {a:Int} (u:c.l[p]? = some a) (D:c.l.length<=1073741824) (G:0<=a) (h1:a<1073741824):∃d:Sl Int,qp c p=some d/\d.l=c.l.set p (a+1):=by
 have w:=(ζe.1 u).1;unfold qp;obtain⟨r,z,t⟩:=AW (s:=Sl.row []) (x:=c) (show 0+c.l.length<=_ by omega)
 have t:r.l=c.l:=t;rw[z,ζb,xU (by rw[t];exact w),ζb]
 unfold Sl.get;rw[t,u,ζb,ζb,mT _ Za Za]
 obtain⟨d,B,C⟩:=put_eq (s:=r) (p:=p) (x:=a+1) (by rw[t];exact w)
 rw[B];exact⟨d,rfl,by rw[C,t]⟩
end
def ins (s:Sl (Sl Int)):a_ (a_ Int):=s.l.map Sl.l
theorem IW {α:Type} (s:Sl α) (i:Nat) (h:i<=s.l.length):∃x,gm s (some (i:Int)) none=some x/\x.l=s.l.drop i:=by
 unfold gm dH;simp only[Option.getD_some,Option.getD_none];rw[if_pos ⟨by omega,by omega,by omega⟩]
 exact⟨_,rfl,by cases s <;> simp[Sl.l]⟩
def yP (t:Trace) (A:bP 200 bt) (c d:a_ Int):Prop:=∃(p:Nat) (a:Int),c[p]? = some a/\d=c.set p (a+1)/\Cons t A d
section
variable {t:Trace} {A:bP 200 bt}
theorem jW {s:Sl (Sl Int)} {d:a_ Int}:d∈ins s↔∃x∈s.l,x.l=d:=by unfold ins;exact List.mem_map
theorem RP {r s:Sl (Sl Int)} {x:Sl Int} (h:r.l=s.l++[x]) {d:a_ Int}:d∈ins r↔d∈ins s\/d=x.l:=by
 unfold ins;rw[h];simp
theorem Tf (T:Small t) (U:VT t) (Y:fR t (bT t) A) {c:Sl Int} (W:Cons t A c.l):Wp (iN t c) λr=>r.l.length<=8/\∀d,d∈ins r↔yP t A c.l d:=by
 have J:=W.1.1;have X:=U.few;unfold iN iN.W1;refine iC c.l.length (λn s=>s.2=(n:Int)/\s.1.l.length<=n/\∀d,d∈ins s.1↔∃(p:Nat) (a:Int),p<n/\c.l[p]? = some a/\d=c.l.set p (a+1)/\Cons t A d) ⟨rfl,Nat.le_refl _,λd=>⟨λh=>by simp[ins,Sl.l]at h,λ⟨p,a,h,_⟩=>absurd h Za⟩⟩ ?_ ?_
 .rintro n ⟨out,_⟩ B ⟨h,u,G⟩;simp only at h u G;subst h;have w:n<t.procs.l.length:=by omega
  have Z:=(T.2 _ (List.getElem_mem w)).1;have z:=ζd B;have hr:=W.1.2 n _ _ z (ζd w);unfold iN.br;rw[jV B,bJ,bG B,ζb,bG w,ζb,cH n Za]
  generalize c.l[n]=a at *;have keep:¬Cons t A (c.l.set n (a+1))->∀d,d∈ins out↔∃(p:Nat) (a:Int),p<n+1/\c.l[p]? = some a/\d=c.l.set p (a+1)/\Cons t A d:=λL d=>by
   rw[G];refine⟨λ⟨p,b,h,k⟩=>⟨p,b,by omega,k⟩,λ⟨p,b,h,k1,k2,k3⟩=>⟨p,b,?_,k1,k2,k3⟩⟩
   refine Classical.byContradiction λhp=>L ?_
   have:p=n:=by omega
   subst this;rw[z]at k1;cases k1;rw[<-k2];exact k3
  by_cases C:a<t.procs.l[n].events.l.length
  .obtain⟨d,hd,D⟩:=step_eq (c:=c) z Za hr.1 Za
   rw[show decide (a<(len t.procs.l[n].events))=true from by simpa [len]using C,bJ,hd,ζb,eY,eY]
   refine(Wc T U Y (c:=d) (by rw[D,List.length_set];exact J)).mono λb O=>?_
   rw[D]at O;rw[bk,cg];constructor
   .intro ht;obtain⟨r,Q,I⟩:=tK (s:=out) (x:=d) Za
    rw[ζb,Q,ζb,bk];refine⟨rfl,by rw[I];simp;omega,λe=>?_⟩
    rw[RP I,G,D];constructor
    .rintro (⟨p,b,h,k⟩|h)
     .exact⟨p,b,by omega,k⟩
     exact⟨n,a,by omega,z,h,by rw[h];exact O.1 ht⟩
    rintro⟨p,b,h,k1,k2,k3⟩
    by_cases e2:p=n
    .subst e2;rw[z]at k1;cases k1;exact .inr k2
    exact .inl ⟨p,b,by omega,k1,k2,k3⟩
   intro S;exact(bk _).2 ⟨rfl,Nat.le_succ_of_le u,keep λh=>by rw[O.2 h]at S;cases S⟩
  rw[show decide (a<(len t.procs.l[n].events))=false from by simpa [len]using C,bL,ζb,bL,bk]
  refine⟨rfl,Nat.le_succ_of_le u,keep λh=>?_⟩
  have:=h.1.2 n (a+1) _ (by simp[List.getElem?_set,B]) (ζd w)
  omega
 rintro⟨out,_⟩ ⟨h,u,G⟩;simp only at h u G;subst h;unfold iN.br;rw[kA,bL,bk];refine(bk _).2 ⟨show out.l.length<=8 by omega,λd=>(G d).trans ⟨λ⟨p,a,_,h⟩=>⟨p,a,h⟩,λ⟨p,a,h⟩=>⟨p,a,(ζe.1 h.1).1,h⟩⟩⟩
def Gx (t:Trace) (A:bP 200 bt) (k:Nat) (s:Sl (Sl Int)):Prop:=∀d,d∈ins s↔Cons t A d/\d.sum=(k:Int)
theorem yP.iff (D:VT t) (G:fR t (bT t) A) {k:Nat} {d:a_ Int}:(∃c,(Cons t A c/\c.sum=(k:Int))/\yP t A c d)↔Cons t A d/\d.sum=((k+1:Nat):Int):=by
 constructor
 .rintro⟨c,⟨z,C⟩,p,a,I,rfl,u⟩;exact⟨u,by rw[tL I];omega⟩
 rintro⟨u,C⟩;obtain⟨q,b,w,J,z⟩:=u.down D G Za
 have B:=(ζe.1 w).1;refine⟨_,⟨z,by rw[tL w];omega⟩,q,b-1,by simp[B],?_,u⟩
 rw[List.set_set,show b-1+1=b from by omega]
 refine List.ext_getElem? λi=>?_
 rw[List.getElem?_set];split
 next e=>subst e;simp[B,w];exact(ζe.1 w).2.symm▸rfl
 rfl
theorem BV {s:Sl (Sl Int)} {n:Nat} (h:n<s.l.length) {d:a_ Int}:d∈(s.l.take (n+1)).map Sl.l↔d∈(s.l.take n).map Sl.l\/d=s.l[n].l:=by
 rw[show s.l.take (n+1)=s.l.take n++[s.l[n]]from by rw[List.take_add_one,ζd h];rfl]
 simp only[List.map_append,List.mem_append,List.map_cons,List.map_nil,List.mem_singleton]
theorem JH:∀n:Nat,(List.replicate n (0:Int)).sum=0
 | 0=>rfl
 | n+1=>by rw[List.replicate_succ,List.sum_cons,JH n];rfl
theorem Dw:Cons t A (List.replicate t.procs.l.length 0):=by
 have w:∀(p:Nat) a,(List.replicate t.procs.l.length (0:Int))[p]? = some a->a=0:=λp a h=>by
  rw[List.getElem?_replicate]at h;split at h <;> cases h;rfl
 exact⟨⟨by simp,λp a P u _=>by rw[w p a u];omega⟩,λp k e a _ u hk=>by rw[w p a u]at hk;omega⟩
theorem XG {z:Sl Int} (B:z.l=List.replicate t.procs.l.length 0):Gx t A 0 (Sl.row [z]):=by
 intro d;have:d∈ins (Sl.row [z])↔d=List.replicate t.procs.l.length 0:=by unfold ins;rw[<-B];exact List.mem_singleton
 rw[this];constructor
 .rintro rfl;exact⟨Dw,by rw[JH];rfl⟩
 rintro⟨u,w⟩;refine List.ext_getElem? λi=>?_
 rw[List.getElem?_replicate,<-u.1.1];split
 next C=>have h:=ζd C;rw[h,GS u.1.pos (by simpa using w) i _ h]
 exact List.getElem?_eq_none Za
theorem Gx.none (B:VT t) (D:fR t (bT t) A) {k:Nat} {s:Sl (Sl Int)} (h:Gx t A k s) (J:s.l.length=0) {d:a_ Int} (u:Cons t A d):d.sum<(k:Int):=by
 refine Classical.byContradiction λw=>?_
 have I:=sB u.1.pos;obtain⟨c,z,C⟩:=Cons.EM B D (d.sum.toNat-k) (k:=k) u Za
 have:=(h c).2 ⟨z,C⟩;obtain⟨x,G,_⟩:=jW.1 this;have:=List.length_pos_of_mem G;omega
theorem Gx.last {s:Sl (Sl Int)} (h:Gx t A (qX t+1) s):s.l.length=0:=by
 refine Classical.byContradiction λu=>?_
 have w:=List.getElem_mem (show 0<s.l.length by omega)
 have:=(h s.l[0].l).1 (jW.2 ⟨_,w,rfl⟩);have:=this.1.1.sum;omega
theorem MI {α:Type} (s:Sl α):decide ((len s)>0) = !decide (s.l.length=0):=by
 by_cases h:s.l.length=0
 .simp[len,h]
 simp[h,len];omega
end
def fC:a_ Int->a_ Int->Int
 | [],[]=>0
 | [],_::_=>-1
 | _::_,[]=>1
 | x::a,y::b=>if x<y then -1 else if x>y then 1 else fC a b
theorem zN:∀a,fC a a=0
 | []=>rfl
 | x::a=>by simp[fC,zN a]
theorem A0:∀a b c,fC a b<0->fC b c<0->fC a c<0
 | [],[],_,h,_=>by simp[fC]at h
 | [],_::_,[],_,h=>by simp[fC]at h
 | [],_::_,_::_,_,_=>by simp[fC]
 | _::_,[],_,h,_=>by simp[fC]at h
 | _::_,_::_,[],_,h=>by simp[fC]at h
 | x::a,y::b,z::c,h1,u=>by
  have B:=A0 a b c;simp only[fC]at h1 u ⊢;split at h1
  .split at u
   .rw[if_pos Za];omega
   split at u
   .omega
   rw[if_pos Za];omega
  split at h1
  .omega
  split at u
  .rw[if_pos Za];omega
  split at u
  .omega
  rw[if_neg Za,if_neg Za];exact B h1 u
theorem Ee:∀a b,¬fC a b<0->¬fC b a<0->a=b
 | [],[],_,_=>rfl
 | [],_::_,h,_=>by simp[fC]at h
 | _::_,[],_,h=>by simp[fC]at h
 | x::a,y::b,h1,u=>by
  have B:=Ee a b;simp only[fC]at h1 u;split at h1
  .omega
  split at u
  .omega
  rw[B (by first|assumption|(split at h1 <;> first|assumption|omega)) (by first|assumption|(split at u <;> first|assumption|omega)),show x=y from by omega]
theorem Qv (a b c:a_ Int) (h1:¬fC a b<0) (u:¬fC b c<0):¬fC a c<0:=λh=>by
 by_cases t:fC b a<0
 .exact u (A0 b a c t h)
 rw[Ee a b h1 t]at h;exact u h
theorem PR {α:Type} {s:Sl α} {p:α->α->bf Int} {f:α->a_ Int} (hp:∀x y,x∈s.l->y∈s.l->p x y=some (fC (f x) (f y))) (T:s.l.length<2147483648):∃r,xE s p=some r/\r.l.Perm s.l/\r.l.Pairwise λx y=>¬fC (f y) (f x)<0:=by
 unfold xE;split
 next h=>exact⟨s,rfl,List.Perm.refl _,by rw[h];exact List.Pairwise.nil⟩
 rename_i x l h;rw[if_pos (by rw[h]at T;simp at T;omega)]
 simp only;have Q:∀i j:_root_.Fin (l.length+1),p (x::l)[i.1] (x::l)[j.1]=some (fC (f (x::l)[i.1]) (f (x::l)[j.1])):=λi j=>hp _ _ (by rw[h];exact List.getElem_mem _) (by rw[h];exact List.getElem_mem _)
 have B:(oL λi j:_root_.Fin (l.length+1)=>p (x::l)[i.1] (x::l)[j.1])=λi j=>decide (fC (f (x::l)[i.1]) (f (x::l)[j.1])<0):=by
  funext i j;unfold oL;show decide ((p _ _).getD 0<0)=_;rw[Q];rfl
 have C:AQ (λi j:_root_.Fin (l.length+1)=>p (x::l)[i.1] (x::l)[j.1])=true:=by
  have t:∀i j,oL (λi j:_root_.Fin (l.length+1)=>p (x::l)[i.1] (x::l)[j.1]) i j=decide (fC (f (x::l)[i.1]) (f (x::l)[j.1])<0):=λi j=>by rw[B]
  refine List.all_eq_true.2 λi _=>Bool.and_eq_true_iff.2 ⟨by rw[t,zN];rfl,List.all_eq_true.2 λj _=>Bool.and_eq_true_iff.2 ⟨by show (p _ _).isSome=true;rw[Q];rfl,List.all_eq_true.2 λk _=>Bool.and_eq_true_iff.2 ⟨?_,?_⟩⟩⟩
  .have:=A0 (f (x::l)[i.1]) (f (x::l)[j.1]) (f (x::l)[k.1]);rw[t,t,t];simp only[Bool.or_eq_true,Bool.not_eq_true',Bool.and_eq_false_iff,decide_eq_true_eq,decide_eq_false_iff_not];omega
  have:=Qv (f (x::l)[i.1]) (f (x::l)[j.1]) (f (x::l)[k.1]);rw[t,t,t];simp only[Bool.or_eq_true,Bool.not_eq_true',decide_eq_true_eq,decide_eq_false_iff_not];omega
 rw[if_pos C];have D:=(p9 C).2;have I:=Sort.pdq_sorts _ D (List.finRange (l.length+1)).toArray 0 (l.length+1) (Lib.bitLen (l.length+1)) true true (Nat.zero_le _) Zc (Or.inl rfl)
 rw[<-BJ]at I;generalize pT l.length _=d at I;obtain⟨⟨w,_,u⟩,z⟩:=I;have w:d.size=l.length+1:=by simpa using w
 have G:∀y:a_ α,(s.re y).l=y:=λy=>by cases s <;> first|rfl|(simp[Sl.l]at h)
 refine⟨_,rfl,?_,?_⟩
 .rw[G,h];have h1:d.extract 0 (l.length+1)=d:=Array.ext (by simp[w]) λi h1 J=>by simp
  rw[h1]at u;have J:((List.finRange (l.length+1)).toArray.extract 0 (l.length+1)).toList=List.finRange (l.length+1):=by simp[List.take_of_length_le]
  rw[J]at u;refine(u.map _).trans ?_;rw[show (List.finRange (l.length+1)).map (λi=>(x::l)[i.1])=x::l from ?_]
  exact List.ext_getElem Zc λi h1 J=>by simp
 rw[G,List.pairwise_map,List.pairwise_iff_getElem];intro i j S L O;have:=z i j (Nat.zero_le _) O (by simpa [w]using L)
 rw[B]at this;simp only[Array.length_toList]at S L;simp only[getElem!_pos d i S,getElem!_pos d j L,decide_eq_false_iff_not]at this;simpa using this
theorem P9 {a b:Sl Int} (D:a.l.length<1073741824):eB a b=some (decide (a.l=b.l)):=by
 refine Wp.eq ?_;unfold eB;rw[cg];refine⟨λh=>?_,λh=>(bk _).2 ?_⟩
 .have h:(a.l.length:Int)=b.l.length:=by simpa [len]using h
  have h:a.l.length=b.l.length:=by omega
  unfold eB.W1;refine iC a.l.length (λn s=>s=(n:Int)/\∀i,i<n->a.l[i]? = b.l[i]?) ⟨rfl,λi h=>absurd h Za⟩ ?_ ?_
  .rintro n _ t ⟨rfl,w⟩;unfold eB.br;have z:n<b.l.length:=by omega
   rw[show decide ((n:Int)<len a)=true from jV t,bJ,bG t,ζb,bG z,ζb,cg];refine⟨λu=>(bk _).2 ⟨cH n Za,λi B=>?_⟩,λu=>(bk _).2 ((bk _).2 ?_)⟩
   .by_cases e:i=n
    .subst e;rw[ζd t,ζd z];simpa using u
    exact w i Za
   refine(decide_eq_false λe=>?_).symm
   have h1:a.l[n]? = b.l[n]? := by rw[e]
   rw[ζd t,ζd z]at h1;simp at u h1;exact u h1
  rintro _ ⟨rfl,w⟩;unfold eB.br;rw[kA,bL,bk];refine(bk _).2 (decide_eq_true (List.ext_getElem? λi=>?_)).symm
  by_cases B:i<a.l.length
  .exact w i B
  rw[List.getElem?_eq_none Za,List.getElem?_eq_none Za]
 refine(decide_eq_false λe=>?_).symm
 simp[len,e]at h
section
variable {t:Trace} {A:bP 200 bt}
end
theorem Pm {c:Sl Int} (B:c.l.length<=1073741824) (u:0<c.l.length):∃d,(gw c).bind Sl.whole=some d/\d.l=c.l:=by
 unfold gw;have key:((mI (Sl.row []:Sl Int) c).bind λx=>some x).bind Sl.whole=some (.row ([]++c.l)):=by
  unfold mI;rw[if_neg (λh=>by rw[h]at u;simp at u),if_pos (show (Sl.row ([]:a_ Int)).l.length+c.l.length<=2147483648 from show 0+c.l.length<=_ by omega)];rfl
 cases c with
 | nil=>simp[Sl.l]at u
 | emp=>simp[Sl.l]at u
 | part l=>exact⟨_,key,rfl⟩
 | row l=>exact⟨_,key,rfl⟩
section
variable {t:Trace} {A:bP 200 bt}
end
def xQ (c d:a_ Int):Prop:=∀(p:Nat) (a b:Int),c[p]? = some a->d[p]? = some b->a<=b
theorem OB {α:Type} {m:bf (Sl α)} {d:Sl α} (h:m.bind Sl.whole=some d):d.whole=some d:=by
 cases m with
 | none=>cases h
 | some s=>cases s <;> first|(cases h;rfl)|cases h
theorem Qr {α:Type} {s:Sl α} (h:s.whole=some s) (l:a_ α):(s.re l).whole=some (s.re l):=by
 cases s <;> first|rfl|cases h
section
variable {t:Trace} {A:bP 200 bt}
theorem TM (hS:Small t) (hv:cE t=some true) (Y:VT t) (hM:fR t (bT t) A) {c:Sl Int} (hR:lR t c.l) :
 Wp (iK t c (λs (z:bg×bg)=>s.setAt z.1.proc z.1.index)) λr=>r.2=0/\Cons t A r.1.l/\xQ c.l r.1.l/\(∀d,Cons t A d->xQ c.l d->xQ r.1.l d)/\r.1.whole=some r.1:=by
 have ab:=Y.few;have aa:=Y.ok.one;have D:=hR.1;unfold iK uh;rw[hv,ζb,bJ,lJ (f:=λz=>(jF z t).getD false) (λz _=>EX.ok ((bk _).2 trivial)) (by simp[Sl.l]),ζb,ζb,ζb]
 have G:(!((Sl.row [c]:Sl (Sl Int)).l.any λz=>(jF z t).getD false))=true:=by
  simp[Sl.l,jF,len,D] <;> exact congrArg Int.ofNat D
 rw[G,bJ,eY];refine(CS hS D).mono λb S=>?_
 rw[S.2 hR,bJ];obtain⟨d0,h1,Z⟩:=Pm (c:=c) Za Za
 rw[h1,ζb];unfold iK.W1;refine eG (λs:Sl Int=>lR t s.l/\xQ c.l s.l/\(∀d,Cons t A d->xQ c.l d->xQ s.l d)/\s.whole=some s) (λs:Sl Int=>((qX t:Int)-s.l.sum).toNat) ⟨by rw[Z];exact hR,λp a b ha S=>by rw[Z,ha]at S;cases S;exact Int.le_refl _,λd _ h=>by rw[Z];exact h,OB h1⟩ ?_
 rintro s ⟨i1,i2,i3,i4⟩;unfold iK.br;rw[eY];refine(Jp hS hv Y hM i1).mono λr hr=>?_
 rw[cg];constructor
 .intro ht;obtain⟨p,k,e,a,q,j,y,b,g1,g2,g3,g4,g5,g6,g7,T,g9,-⟩:=hr.2 ht;have B:=(ζe.1 T).1;have I:Sl.setAt s r.1.proc r.1.index=some (s.re (s.l.set q ((j:Int)+1))):=by
   unfold Sl.setAt;rw[g6,if_pos ⟨by simp,by simpa using B⟩];rfl
  have C:(s.re (s.l.set q ((j:Int)+1))).l=s.l.set q ((j:Int)+1):=by cases s <;> first|rfl|(simp[Sl.l]at B)
  simp only;rw[I,ζb,bk];obtain⟨Q,hQ,hy⟩:=g7;have ad:=(ζe.1 hy).1;have J:=i1.set hQ (b:=(j:Int)+1) Za Za
  refine⟨⟨by rw[C];exact J,?_,?_,Qr i4 _⟩,?_⟩
  .rw[C];intro p' U b' u w;rw[List.getElem?_set]at w;split at w
   next e2=>subst e2;simp[B]at w;have:=i2 q U b u T;omega
   exact i2 p' U b' u w
  .rw[C];intro d W L p' U b' u w;rw[List.getElem?_set]at u;split at u
   .rename_i e2;subst e2;simp[B]at u;obtain⟨x,hx⟩:=W.1.at_ (show p<t.procs.l.length by have:=(ζe.1 g2).1;rw[<-i1.1];exact this)
    have:=i3 d W L p a x g2 hx;obtain⟨z,X,O⟩:=W.2 p k e x g1 hx Za g4
    rw[g5,g6]at X O;simp only[Int.toNat_natCast]at X O;rw[w]at X;cases X;omega
   exact i3 d W L p' U b' u w
  show ((qX t:Int)-(s.re (s.l.set q ((j:Int)+1))).l.sum).toNat<((qX t:Int)-s.l.sum).toNat;have h3:=J.sum;rw[tL T]at h3;rw[C,tL T];omega
 intro hf;exact(bk _).2 ((bk _).2 ⟨rfl,⟨i1,hr.1 hf⟩,i2,i3,i4⟩)
theorem NY (B:Small t) (hv:cE t=some true) (D:VT t) (G:fR t (bT t) A) {c:Sl Int} (J:lR t c.l) :
 Wp (uy t c) λr=>r.2=0/\Cons t A r.1.l/\xQ c.l r.1.l/\(∀d,Cons t A d->xQ c.l d->xQ r.1.l d)/\r.1.whole=some r.1:=by
 obtain⟨r,h,u⟩:=TM B hv D G J;refine⟨r,?_,u⟩;unfold uy;rw[h]
 first|rfl|(simp[u.2.2.2.2,VM];done)
theorem Qs (u:Small t) (hv:cE t=some true) (B:VT t) (D:fR t (bT t) A) {c:Sl Int} (G:lR t c.l) :
 Wp (uy t c) λr=>r.2=0/\Cons t A r.1.l/\xQ c.l r.1.l/\∀d,Cons t A d->xQ c.l d->xQ r.1.l d:=
 (NY u hv B D G).mono λ_ h=>⟨h.1,h.2.1,h.2.2.1,h.2.2.2.1⟩
end
abbrev cU (m:bf Bool) (P:Prop):Prop:=Wp m λb=>(b=true↔P)
theorem cU.eq {m:bf Bool} {P:Prop} (h:cU m P):∃b,m=some b/\(b=true↔P):=h
theorem cU.iff {m:bf Bool} {P Q:Prop} (h:cU m P) (e:P↔Q):cU m Q:=h.mono λb t=>t.trans e
theorem jH {b:Bool} {P:Prop} (h:b=true↔P):cU (some b) P:=(bk _).2 h
theorem cU.some {m:bf Bool} {P:Prop} (h:cU m P):cU (m.bind λx=>Option.some x) P:=by
 obtain⟨b,t,h⟩:=h;rw[t];exact jH h
theorem cU.same {m n:bf Bool} {P:Prop} (h:cU m P) (k:cU n P):∃b,m=Option.some b/\n=Option.some b/\(b=true↔P):=by
 obtain⟨b,t,h⟩:=h;obtain⟨d,hd,k⟩:=k;have:b=d:=by rw[Bool.eq_iff_iff,h,k]
 subst this;exact⟨b,t,hd,h⟩
theorem cU.and {m n:bf Bool} {P Q:Prop} (h:cU m P) (k:P->cU n Q) {f:Bool->bf Bool} (u:∀b,f b=bp b (n.bind λx=>Option.some x) (Option.some false)):cU (m.bind f) (P/\Q):=by
 obtain⟨b,t,h⟩:=h;rw[t,ζb,u]
 cases b with
 | true=>exact((k (h.1 rfl)).some).iff ⟨λq=>⟨h.1 rfl,q⟩,λq=>q.2⟩
 | false=>exact jH ⟨λe=>(nomatch e),λq=>(h.2 q.1).symm▸rfl⟩
theorem cU.Vp {m:bf Bool} {b:Bool} {P Q:Prop} (h:cU m P) (k:P->(b=true↔Q)) {f:Bool->bf Bool} (u:∀x,f x=bp x (Option.some b) (Option.some false)):cU (m.bind f) (P/\Q):=by
 obtain⟨x,t,h⟩:=h;rw[t,ζb,u]
 cases x with
 | true=>exact jH ((k (h.1 rfl)).trans ⟨λq=>⟨h.1 rfl,q⟩,λq=>q.2⟩)
 | false=>exact jH ⟨λe=>(nomatch e),λq=>(h.2 q.1).symm▸rfl⟩
theorem cU.Wk {m n:bf Bool} {P Q:Prop} (h:cU m (¬P)) (k:P->cU n Q) {f:Bool->bf Bool} (u:∀b,f b=bp b (Option.some true) (n.bind λx=>Option.some (!x))):cU (m.bind f) (¬(P/\Q)):=by
 obtain⟨b,w,h⟩:=h;rw[w,ζb,u]
 cases b with
 | true=>exact jH ⟨λ_ q=>(h.1 rfl) q.1,λ_=>rfl⟩
 | false=>
  have t:P:=Classical.byContradiction λz=>(nomatch h.2 z)
  obtain⟨d,hd,k⟩:=k t;rw[bL,hd,ζb];refine jH ?_
  cases d with
  | true=>exact⟨λe=>(nomatch e),λq=>absurd ⟨t,k.1 rfl⟩ q⟩
  | false=>exact⟨λ_ q=>(nomatch k.2 q.2),λ_=>rfl⟩
theorem cU.Uo {m:bf Bool} {b:Bool} {P Q:Prop} (h:cU m (¬P)) (k:P->(b=true↔Q)) {f:Bool->bf Bool} (u:∀x,f x=bp x (Option.some true) (Option.some (!b))):cU (m.bind f) (¬(P/\Q)):=by
 obtain⟨x,w,h⟩:=h;rw[w,ζb,u]
 cases x with
 | true=>exact jH ⟨λ_ q=>(h.1 rfl) q.1,λ_=>rfl⟩
 | false=>
  have t:P:=Classical.byContradiction λz=>(nomatch h.2 z)
  rw[bL];refine jH ?_
  cases b with
  | true=>exact⟨λe=>(nomatch e),λq=>absurd ⟨t,(k t).1 rfl⟩ q⟩
  | false=>exact⟨λ_ q=>(nomatch (k t).2 q.2),λ_=>rfl⟩
theorem cU.UY {m n:bf Bool} {P Q:Prop} (h:cU m P) (k:P->cU n Q) {f:Bool->bf Bool} (u:∀b,f b=bp b (n.bind λx=>Option.some (!x)) (Option.some true)):cU (m.bind f) (¬(P/\Q)):=by
 obtain⟨b,t,h⟩:=h;rw[t,ζb,u]
 cases b with
 | true=>
  obtain⟨d,hd,k⟩:=k (h.1 rfl);rw[bJ,hd,ζb];refine jH ?_
  cases d with
  | true=>exact⟨λe=>(nomatch e),λq=>absurd ⟨h.1 rfl,k.1 rfl⟩ q⟩
  | false=>exact⟨λ_ q=>(nomatch k.2 q.2),λ_=>rfl⟩
 | false=>exact jH ⟨λ_ q=>(nomatch h.2 q.1),λ_=>rfl⟩
theorem Py {step:Int->bf (Fw Int Unit Unit)} {n:Nat} {P:Nat->Prop} (h:∀i,i<n->(∀j,j<i->P j)->Wp (step (i:Int)) λw=>P i/\w=.n ((i+1:Nat):Int)\/¬P i/\w=.r ()) (B:(∀j,j<n->P j)->step (n:Int)=some (.x ())) :
 Wp (bM step 0) λw=>(∀i,i<n->P i)/\w=.x ()\/(¬∀i,i<n->P i)/\w=.r ():=by
 have key:∀m k,k+m=n->(∀j,j<k->P j)->Wp (bM step (k:Int)) λw=>(∀i,i<n->P i)/\w=.x ()\/(¬∀i,i<n->P i)/\w=.r ():=by
  intro m
  induction m with
  | zero=>
   intro k hk t;have:k=n:=by omega
   subst this;rw[fc,B t,ζb];exact(bk _).2 (.inl ⟨t,rfl⟩)
  | succ m z=>
   intro k hk t;rw[fc,eY];refine(h k Za t).mono ?_
   rintro w (⟨h1,rfl⟩|⟨h1,rfl⟩)
   .exact z (k+1) Za λj u=>by
     rcases Nat.lt_or_eq_of_le (Nat.lt_succ_iff.1 u)with u|rfl
     .exact t j u
     exact h1
   exact(bk _).2 (.inr ⟨λk2=>h1 (k2 k Za),rfl⟩)
 exact key n 0 Za λj u=>absurd u Za
theorem uI {step:Int->bf (Fw Int Unit Unit)} {n:Nat} {P:Nat->Prop} (h:∀i,i<n->(∀j,j<i->P j)->Wp (step (i:Int)) λw=>P i/\w=.n ((i+1:Nat):Int)\/¬P i/\w=.r ()) (u:(∀j,j<n->P j)->step (n:Int)=some (.x ())) :
 cU ((bM step 0).bind (Fw.elim (λ_=>some true) (λ_=>some false))) (∀i,i<n->P i):=by
 rw[cU,eY];refine(Py h u).mono ?_;rintro w (⟨h1,rfl⟩|⟨h1,rfl⟩)
 .exact jH ⟨λ_=>h1,λ_=>rfl⟩
 exact jH ⟨λe=>(nomatch e),λt=>absurd t h1⟩
theorem HG {m:bf Bool} {P:Prop} {n:Int} {k:Nat} (h:cU m P) (u:n=((k+1:Nat):Int)):Wp (m.bind λx=>bp x (some (.n n)) (some (.r ()))) λw:Fw Int Unit Unit=>P/\w=.n ((k+1:Nat):Int)\/¬P/\w=.r ():=by
 obtain⟨b,t,h⟩:=h;rw[t,ζb]
 cases b with
 | true=>exact(bk _).2 (.inl ⟨h.1 rfl,by rw[u]⟩)
 | false=>exact(bk _).2 (.inr ⟨λq=>(nomatch h.2 q),rfl⟩)
theorem Jx {b:Bool} {P:Prop} {n:Int} {k:Nat} (h:b=true↔P) (u:n=((k+1:Nat):Int)):Wp (bp b (some (.n n)) (some (.r ()))) λw:Fw Int Unit Unit=>P/\w=.n ((k+1:Nat):Int)\/¬P/\w=.r ():=by
 cases b with
 | true=>exact(bk _).2 (.inl ⟨h.1 rfl,by rw[u]⟩)
 | false=>exact(bk _).2 (.inr ⟨λq=>(nomatch h.2 q),rfl⟩)
theorem MN {b:Bool} {P:Prop} {n:Int} {k:Nat} (h:b=true↔¬P) (u:n=((k+1:Nat):Int)):Wp (bp b (some (.r ())) (some (.n n))) λw:Fw Int Unit Unit=>P/\w=.n ((k+1:Nat):Int)\/¬P/\w=.r ():=by
 cases b with
 | true=>exact(bk _).2 (.inr ⟨h.1 rfl,rfl⟩)
 | false=>exact(bk _).2 (.inl ⟨Classical.byContradiction λq=>(nomatch h.2 q),by rw[u]⟩)
def c9 (a b:a_ Int):Prop:=a.length=b.length/\∀(p:Nat) (x y:Int),a[p]? = some x->b[p]? = some y->x<=y
theorem UG {a b:a_ Int} (B:a.length=b.length):(∀i,i<a.length->∀x y,a[i]? = some x->b[i]? = some y->x<=y)↔c9 a b:=
 ⟨λh=>⟨B,λp x y t u=>h p (ζe.1 t).1 x y t u⟩,λh i _ x y t u=>h.2 i x y t u⟩
theorem SJ {a b:Sl Int} (J:a.l.length<1073741824) {step:Int->bf (Fw Int Unit Unit)}
 (D:∀i,step i=bp (decide (i<len a)) ((idx a i).bind λu=>(idx b i).bind λB=>bp (decide (u>B)) (some (.r ())) (some (.n (IntKind.wrap .i64 (i+1))))) (some (.x ()))) :
 cU (bp ((len a)==(len b)) ((bM step 0).bind (Fw.elim (λ_=>some true) (λ_=>some false))) (some false)) (c9 a.l b.l):=by
 by_cases w:a.l.length=b.l.length
 .rw[show ((len a)==(len b))=true from by simp[len,w],bJ]
  refine(uI (n:=a.l.length) (P:=λi=>∀x y,a.l[i]? = some x->b.l[i]? = some y->x<=y) ?_ ?_).iff (UG w)
  .intro i t _;have z:i<b.l.length:=by omega
   rw[D,jV t,bJ,bG t,ζb,bG z,ζb];refine MN ?_ (cH i Za)
   rw[decide_eq_true_eq];constructor
   .intro h k;have:=k _ _ (ζd t) (ζd z);omega
   intro h;refine Classical.byContradiction λI=>h λx y C G=>?_
   rw[ζd t]at C;rw[ζd z]at G;cases C;cases G;omega
  intro _;rw[D,kA,bL]
 rw[show ((len a)==(len b))=false from by simp[len];omega,bL]
 exact jH ⟨λe=>(nomatch e),λh=>absurd h.1 w⟩
theorem BB {a b:Sl Int} (u:a.l.length<1073741824):cU (gG a b) (c9 a.l b.l):=SJ u λi=>rfl
theorem FU {a b:Sl Int} (B:a.l.length<1073741824):cU (dO a b) (a.l=b.l):=by
 by_cases u:a.l.length=b.l.length
 .unfold dO;rw[show ((len a)==(len b))=true from by simp[len,u],bJ]
  unfold dO.W1;refine(uI (n:=a.l.length) (P:=λi=>a.l[i]? = b.l[i]?) ?_ ?_).iff ?_
  .intro i t _;have w:i<b.l.length:=by omega
   unfold dO.br;rw[jV t,bJ,bG t,ζb,bG w,ζb];refine Jx ?_ (cH i Za)
   rw[ζd t,ζd w];simp
  .intro _;unfold dO.br;rw[kA,bL]
  constructor
  .intro h;refine List.ext_getElem? λi=>?_
   by_cases t:i<a.l.length
   .exact h i t
   rw[List.getElem?_eq_none Za,List.getElem?_eq_none Za]
  intro h i _;rw[h]
 unfold dO;rw[show ((len a)==(len b))=false from by simp[len];omega,bL]
 exact jH ⟨λe=>(nomatch e),λh=>absurd (by rw[h]) u⟩
theorem WN {a b:Sl Int} (u:a.l.length<1073741824):cU (eB a b) (a.l=b.l):=by
 rw[P9 u];exact jH Zc
section
variable {t:Trace} {A:bP 200 bt}
theorem yN (u:Small t) (hv:cE t=some true) (B:VT t) (D:fR t (bT t) A) (c:Sl Int):cU (hU t c) (Cons t A c.l):=by
 obtain⟨r,hr,h⟩:=P8 u hv B D c;unfold hU;rw[hr,ζb];exact jH (by rw[beq_iff_eq,h];exact Iff.rfl)
end
def nth (l:a_ Int) (p:Nat):Int:=(l[p]?).getD 0
def fI (t:Trace) (p:Nat):Nat:=((t.procs.l[p]?).map λP=>P.events.l.length).getD 0
theorem kN {l:a_ Int} {p:Nat} (h:p<l.length):nth l p=l[p]:=by unfold nth;rw[ζd h];rfl
theorem kP {t:Trace} {p:Nat} (h:p<t.procs.l.length):fI t p=t.procs.l[p].events.l.length:=by unfold fI;rw[ζd h];rfl
section
variable {t:Trace} {A:bP 200 bt}
def kr (g:Int->Int->Int) (a b c:a_ Int):Prop:=c.length=a.length/\∀(p:Nat) (x y:Int),a[p]? = some x->b[p]? = some y->c[p]? = some (g x y)
def kD (x y:Int):Int:=if y>x then y else x
def jZ (x y:Int):Int:=if y<x then y else x
theorem kr.of (g:Int->Int->Int) {a b:a_ Int} (h:a.length=b.length):kr g a b (List.zipWith g a b):=
 ⟨by simp[h],λp x y t u=>by rw[List.getElem?_zipWith,t,u]⟩
theorem kr.at_ {g:Int->Int->Int} {a b c:a_ Int} (h:kr g a b c) (B:a.length=b.length) {p:Nat} {z:Int} (u:c[p]? = some z):∃x y,a[p]? = some x/\b[p]? = some y/\z=g x y:=by
 have t:p<a.length:=by rw[<-h.1];exact(ζe.1 u).1
 refine⟨a[p],b[p]' Za,ζd t,ζd Za,?_⟩
 have:=h.2 p _ _ (ζd t) (ζd (show p<b.length by omega))
 rw[u]at this;cases this;rfl
theorem oC (x y:Int):(kD x y=x/\y<=x)\/(kD x y=y/\x<=y):=by unfold kD;split <;> omega
theorem pY (x y:Int):(jZ x y=x/\x<=y)\/(jZ x y=y/\y<=x):=by unfold jZ;split <;> omega
theorem join_cons {a b c:a_ Int} (B:Cons t A a) (D:Cons t A b) (h:kr kD a b c):Cons t A c:=by
 have L:a.length=b.length:=B.1.1.trans D.1.1.symm;refine⟨⟨h.1.trans B.1.1,λp z P C O=>?_⟩,λp k e z Q C hk w=>?_⟩
 .obtain⟨x,y,G,I,rfl⟩:=h.at_ L C;have h1:=B.1.2 p x P G O;have U:=D.1.2 p y P I O;rcases oC x y with⟨e,_⟩|⟨e,_⟩ <;> rw[e] <;> assumption
 obtain⟨x,y,G,I,rfl⟩:=h.at_ L C;rcases oC x y with⟨S,_⟩|⟨S,_⟩ <;> rw[S]at hk
 .obtain⟨u,hu,J⟩:=B.2 p k e x Q G hk w;have T:=(ζe.1 hu).1;have hv:=ζd (show (ag A e.message).from_.proc.toNat<b.length by omega)
  exact⟨_,h.2 _ _ _ hu hv,by rcases oC u b[(ag A e.message).from_.proc.toNat]with⟨e2,_⟩|⟨e2,_⟩ <;> rw[e2] <;> omega⟩
 obtain⟨u,hu,J⟩:=D.2 p k e y Q I hk w;have T:=(ζe.1 hu).1;have hv:=ζd (show (ag A e.message).from_.proc.toNat<a.length by omega)
 exact⟨_,h.2 _ _ _ hv hu,by rcases oC a[(ag A e.message).from_.proc.toNat] u with⟨e2,_⟩|⟨e2,_⟩ <;> rw[e2] <;> omega⟩
theorem Mf {a b c:a_ Int} (B:Cons t A a) (D:Cons t A b) (h:kr jZ a b c):Cons t A c:=by
 have Q:a.length=b.length:=B.1.1.trans D.1.1.symm;refine⟨⟨h.1.trans B.1.1,λp z P C S=>?_⟩,λp k e z T C hk w=>?_⟩
 .obtain⟨x,y,G,I,rfl⟩:=h.at_ Q C;have h1:=B.1.2 p x P G S;have X:=D.1.2 p y P I S;rcases pY x y with⟨e,_⟩|⟨e,_⟩ <;> rw[e] <;> assumption
 obtain⟨x,y,G,I,rfl⟩:=h.at_ Q C;have J:(k:Int)<x:=by rcases pY x y with⟨L,_⟩|⟨L,_⟩ <;> omega
 have O:(k:Int)<y:=by rcases pY x y with⟨L,_⟩|⟨L,_⟩ <;> omega
 obtain⟨u,hu,W⟩:=B.2 p k e x T G J w;obtain⟨v,hv,U⟩:=D.2 p k e y T I O w;exact⟨_,h.2 _ _ _ hu hv,by rcases pY u v with⟨e2,_⟩|⟨e2,_⟩ <;> rw[e2] <;> omega⟩
theorem c9.trans {a b c:a_ Int} (h:c9 a b) (k:c9 b c):c9 a c:=by
 refine⟨h.1.trans k.1,λp x z t u=>?_⟩
 have w:p<b.length:=by rw[<-h.1];exact(ζe.1 t).1
 have e:=ζd w;exact Int.le_trans (h.2 p x _ t e) (k.2 p _ z e u)
theorem c9.refl (a:a_ Int):c9 a a:=⟨rfl,λp x y u t=>by rw[u]at t;cases t;exact Int.le_refl _⟩
theorem kr.le_max {a b c:a_ Int} (h:kr kD a b c) (D:a.length=b.length):c9 a c/\c9 b c/\∀d,c9 a d->c9 b d->c9 c d:=by
 refine⟨⟨h.1.symm,λp x z C t=>?_⟩,⟨D.symm.trans h.1.symm,λp y z G t=>?_⟩,λd I L=>⟨h.1.trans I.1,λp z w t J=>?_⟩⟩
 .obtain⟨O,y,u,G,rfl⟩:=h.at_ D t;rw[C]at u;cases u;rcases oC x y with⟨e2,_⟩|⟨e2,_⟩ <;> rw[e2] <;> omega
 .obtain⟨x,Q,C,B,rfl⟩:=h.at_ D t;rw[G]at B;cases B;rcases oC x y with⟨e2,_⟩|⟨e2,_⟩ <;> rw[e2] <;> omega
 obtain⟨x,y,C,G,rfl⟩:=h.at_ D t;have h1:=I.2 p x w C J;have S:=L.2 p y w G J;rcases oC x y with⟨e2,_⟩|⟨e2,_⟩ <;> rw[e2] <;> assumption
theorem kr.le_min {a b c:a_ Int} (h:kr jZ a b c) (D:a.length=b.length):c9 c a/\c9 c b/\∀d,c9 d a->c9 d b->c9 d c:=by
 refine⟨⟨h.1,λp z x t C=>?_⟩,⟨h.1.trans D,λp z y t G=>?_⟩,λd I L=>⟨I.1.trans h.1.symm,λp w z J t=>?_⟩⟩
 .obtain⟨O,y,u,G,rfl⟩:=h.at_ D t;rw[C]at u;cases u;rcases pY x y with⟨e2,_⟩|⟨e2,_⟩ <;> rw[e2] <;> omega
 .obtain⟨x,Q,C,B,rfl⟩:=h.at_ D t;rw[G]at B;cases B;rcases pY x y with⟨e2,_⟩|⟨e2,_⟩ <;> rw[e2] <;> omega
 obtain⟨x,y,C,G,rfl⟩:=h.at_ D t;have h1:=I.2 p w x J C;have S:=L.2 p w y J G;rcases pY x y with⟨e2,_⟩|⟨e2,_⟩ <;> rw[e2] <;> assumption
theorem c9.nth {a b:a_ Int} (h:c9 a b) {p:Nat} (hp:p<a.length):nth a p<=nth b p:=by
 rw[kN hp,kN (by rw[<-h.1];exact hp)]
 exact h.2 p _ _ (ζd hp) (ζd (by rw[<-h.1];exact hp))
theorem kr.nth {g:Int->Int->Int} {a b c:a_ Int} (h:kr g a b c) (u:a.length=b.length) {p:Nat} (hp:p<a.length):Go.VE.nth c p=g (Go.VE.nth a p) (Go.VE.nth b p):=by
 rw[kN hp,kN (show p<b.length by omega)]
 have:=h.2 p _ _ (ζd hp) (ζd (show p<b.length by omega))
 unfold Go.VE.nth;rw[this];rfl
end
def w8 (s:Slice) (p:Nat):Nat:=((s.j.l[p]?).map λr=>r.l.length).getD 0
def el (s:Slice) (p i:Nat):a_ Int:=match s.j.l[p]? with
 | some r=>match r.l[i]? with
  | some c=>c.l
  | none=>[]
 | none=>[]
theorem vD {s:Slice} {p:Nat} (h:p<s.j.l.length):w8 s p=s.j.l[p].l.length:=by unfold w8;rw[ζd h];rfl
def vN (t:Trace) (A:bP 200 bt) (s:Slice) (p i:Nat):Prop:=
 (nth s.last.l p<=(i:Int)/\(el s p i).length=0)\/((i:Int)<nth s.last.l p/\(((i:Int)<nth s.first.l p/\el s p i=s.first.l)\/(nth s.first.l p<=(i:Int)/\Cons t A (el s p i)/\(i:Int)<nth (el s p i) p/\c9 s.first.l (el s p i)/\c9 (el s p i) s.last.l)))
def AA (s:Slice) (c:a_ Int):Prop:=∀p,p<c.length->∀i:Nat,(i:Int)<nth c p->c9 (el s p i) c
def zH (t:Trace) (A:bP 200 bt) (s:Slice):Prop:=((((Cons t A s.first.l/\Cons t A s.last.l)/\c9 s.first.l s.last.l)/\s.j.l.length=t.procs.l.length)/\∀p,p<t.procs.l.length->w8 s p=fI t p)
def mU (t:Trace) (A:bP 200 bt) (s:Slice):Prop:=
 (zH t A s/\∀p,p<t.procs.l.length->∀i,i<fI t p->vN t A s p i)/\∀p,p<t.procs.l.length->∀i:Nat,(i:Int)<nth s.last.l p->AA s (el s p i)
def Oe (s:Slice):Prop:=(s.first.l.length=0/\s.last.l.length=0)/\s.j.l.length=0
def lH (t:Trace) (A:bP 200 bt) (s:Slice):Prop:=s.empty=true/\Oe s\/s.empty=false/\mU t A s
def jm (s:Slice) (c:a_ Int):Prop:=((s.empty=false/\c9 s.first.l c)/\c9 c s.last.l)/\AA s c
structure lK (s:Slice):Prop where
 f:s.first.l.length<=60
 l:s.last.l.length<=60
 j:s.j.l.length<=60
 r:∀r∈s.j.l,r.l.length<=60/\∀c∈r.l,c.l.length<=60
section
variable {t:Trace} {A:bP 200 bt} {s:Slice}
theorem dY {c:a_ Int} (h:Cons t A c) {p:Nat} (hp:p<t.procs.l.length):0<=nth c p/\nth c p<=fI t p:=by
 have hc:p<c.length:=by rw[h.1.1];exact hp
 rw[kN hc,kP hp];exact h.1.2 p _ _ (ζd hc) (ζd hp)
theorem vF {p i:Nat} (hp:p<s.j.l.length) (u:i<w8 s p) (B:lK s):∃c,iS s ⟨p,((i+1:Nat):Int)⟩=some c/\c.l=el s p i/\c.l.length<=60:=by
 rw[vD hp]at u;have hr:=(B.r _ (List.getElem_mem hp));refine⟨s.j.l[p].l[i],?_,?_,hr.2 _ (List.getElem_mem u)⟩
 .unfold iS;dsimp only;rw[bG hp,ζb,mT _ Za Za,show ((i+1:Nat):Int)-1=(i:Int)from by omega,bG u,ζb]
 unfold el;rw[ζd hp];dsimp only;rw[ζd u]
theorem GP {σ:Type} {f:bg->σ->bf (Bool×σ)} {c:Sl Int} {Q:Bool×σ->Prop} (I:Nat->Nat->σ->Prop) {s:σ} (hc:c.l.length<1073741824) (B:∀p,p<c.l.length->nth c.l p<1073741824) (D:I 0 0 s)
 (step:∀p (i:Nat) s,p<c.l.length->(i:Int)<nth c.l p->I p i s->Wp (f ⟨p,((i+1:Nat):Int)⟩ s) λy=>(y.1=true->I p (i+1) y.2)/\(y.1=false->Q (false,y.2)))
 (next:∀p (i:Nat) s,p<c.l.length->nth c.l p<=(i:Int)->I p i s->I (p+1) 0 s) (fin:∀s,I c.l.length 0 s->Q (true,s)):Wp (oB c f s) Q:=by
 unfold oB;refine iC c.l.length (λp (q:Int×σ)=>q.1=(p:Int)/\I p 0 q.2) ⟨rfl,D⟩ ?_ ?_
 .rintro p ⟨_,s⟩ u ⟨e,t⟩;simp only at e t;subst e;have w:=kN u;have B:=B p u;rw[w]at B;unfold vT;rw[jV u,bJ,bG u,ζb];refine iC c.l[p].toNat (λi (q:Int×σ)=>q.1=(i:Int)/\I p i q.2) ⟨rfl,t⟩ ?_ ?_
  .rintro i ⟨_,s⟩ G ⟨e,t⟩;simp only at e t;subst e;unfold v_;obtain⟨y,z,h1,C⟩:=step p i s u (by rw[w];omega) t
   rw[show decide ((i:Int)<c.l[p])=true from decide_eq_true Za,bJ,cH i Za,z,ζb,cg]
   exact⟨λe=>(bk _).2 ⟨rfl,h1 e⟩,λe=>(bk _).2 ((bk _).2 ((bk _).2 (C e)))⟩
  rintro⟨_,s⟩ ⟨e,t⟩;simp only at e t;subst e;unfold v_;rw[show decide (((c.l[p].toNat:Nat):Int)<c.l[p])=false from decide_eq_false Za,bL,bk]
  exact(bk _).2 ⟨cH p Za,next p _ s u (by rw[w];omega) t⟩
 rintro⟨_,s⟩ ⟨e,t⟩;simp only at e t;subst e;unfold vT;rw[kA,bL,bk];exact(bk _).2 (fin s t)
theorem sy {c:Sl Int} {f:bg->bf Bool} {g:Nat->Nat->Prop} (hc:c.l.length<1073741824) (J:∀p,p<c.l.length->nth c.l p<1073741824)
 (h:∀p,p<c.l.length->∀i:Nat,(i:Int)<nth c.l p->cU (f ⟨p,((i+1:Nat):Int)⟩) (g p i)):cU (gu c f) (∀p,p<c.l.length->∀i:Nat,(i:Int)<nth c.l p->g p i):=by
 obtain⟨q,L,O⟩:=GP (f:=λx u=>(f x).map λb=>(b,u)) (c:=c) (s:=()) (Q:=λq=>q.1=true↔∀p,p<c.l.length->∀i:Nat,(i:Int)<nth c.l p->g p i)
  (λp i _=>∀t,t<c.l.length->∀w:Nat,(w:Int)<nth c.l t->t<p\/t=p/\w<i->g t w) hc J (λt _ w _ h=>absurd h Za)
  (λp i _ C D G=>by
   obtain⟨b,J,I⟩:=cU.eq (h p C i D);refine⟨(b,()),by rw[J];rfl,λe t z w B hk=>?_,λe=>?_⟩
   .by_cases q:t=p/\w=i
    .obtain⟨rfl,rfl⟩:=q;exact I.1 e
    exact G t z w B Za
   have e:b=false:=e;exact⟨λk=>(by cases k),λk=>by rw[I.2 (k p C i D)]at e;cases e⟩)
  (λp i _ C D G t z w B hk=>G t z w B (by
   by_cases q:t=p
   .subst q;omega
   omega))
  (λ_ G=>⟨λ_ p C i D=>G p C i D (.inl C),λ_=>rfl⟩)
 refine⟨q.1,?_,O⟩;unfold gu;rw[L];rfl
theorem B2 {c:Sl Int} {p i:Nat} (hp:p<c.l.length):pH ⟨p,((i+1:Nat):Int)⟩ c=some (decide ((i:Int)<nth c.l p)):=by
 unfold pH;rw[bG hp,ζb,kN hp];exact congrArg some (decide_eq_decide.2 (by dsimp only;omega))
theorem IU (O:Small t) (hv:cE t=some true) (T:VT t) (U:fR t (bT t) A) (B:lK s) (W:zH t A s) {p i:Nat} (hp:p<t.procs.l.length) (Y:i<fI t p) :
 cU (tY t s ⟨p,((i+1:Nat):Int)⟩) (vN t A s p i):=by
 obtain⟨⟨⟨⟨h1,S⟩,h3⟩,h4⟩,X⟩:=W;obtain⟨c,hc,C,Z⟩:=vF (s:=s) (p:=p) (i:=i) Za (by rw[X p hp];exact Y) B
 have hl:p<s.last.l.length:=by rw[S.1.1];exact hp
 have hf:p<s.first.l.length:=by rw[h1.1.1];exact hp
 have aa:=B.f;have ab:=B.l;unfold tY;rw[hc,ζb,B2 hl,ζb];unfold vN;rw[<-C]
 by_cases u:(i:Int)<nth s.last.l p
 .rw[decide_eq_true u,bJ,B2 hf,ζb]
  by_cases w:(i:Int)<nth s.first.l p
  .rw[decide_eq_true w,bJ];refine((WN (a:=c) (b:=s.first) Za).some).iff ?_
   exact⟨λh=>.inr ⟨u,.inl ⟨w,h⟩⟩,λh=>by rcases h with h|⟨_,h|h⟩ <;> first|exact h.2|omega⟩
  rw[decide_eq_false w,bL];have k1:=yN O hv T U c;have k2:=cU.and (Q:=(i:Int)<nth c.l p) k1 (n:=pH ⟨p,((i+1:Nat):Int)⟩ c) (λhC=>by rw[B2 (by rw[hC.1.1];exact hp)];exact jH Zc) (f:=λD=>(bp D ((pH ⟨p,((i+1:Nat):Int)⟩ c).bind λG=>some G) (some false):bf Bool)) (λb=>rfl)
  have k3:=cU.and k2 (Q:=c9 s.first.l c.l) (n:=gG s.first c) (λ_=>BB Za) (f:=λI=>(bp I ((gG s.first c).bind λJ=>some J) (some false):bf Bool)) (λb=>rfl)
  have k4:=cU.and k3 (Q:=c9 c.l s.last.l) (n:=gG c s.last) (λ_=>BB Za) (f:=λL=>(bp L ((gG c s.last).bind λz=>some z) (some false):bf Bool)) (λb=>rfl)
  have k5:=k4.some;simp only[Option.bind_assoc]at k5 ⊢;refine k5.iff ?_;exact⟨λ⟨⟨⟨a,b⟩,d⟩,e⟩=>.inr ⟨u,.inr ⟨by omega,a,b,d,e⟩⟩,λh=>by rcases h with h|⟨_,h|⟨_,a,b,d,e⟩⟩ <;> first|exact⟨⟨⟨a,b⟩,d⟩,e⟩|omega⟩
 rw[decide_eq_false u,bL];refine jH ?_;rw[beq_iff_eq];simp only[len];exact⟨λh=>.inl ⟨by omega,by omega⟩,λh=>by rcases h with h|h <;> omega⟩
theorem It (O:Small t) (hv:cE t=some true) (T:VT t) (U:fR t (bT t) A) (B:lK s):cU (gU t s) (zH t A s):=by
 have S:=B.f;have W:=B.l;have X:=B.j;unfold gU;have k1:=yN O hv T U s.first
 have k2:=cU.UY k1 (Q:=Cons t A s.last.l) (λ_=>yN O hv T U s.last) (f:=λC=>(bp C ((hU t s.last).bind λD=>some (!D)) (some true):bf Bool)) (λb=>rfl)
 have k3:=cU.Wk k2 (Q:=c9 s.first.l s.last.l) (λ_=>BB (a:=s.first) (b:=s.last) Za) (f:=λG=>(bp G (some true) ((gG s.first s.last).bind λI=>some (!I)):bf Bool)) (λb=>rfl)
 have k4:=cU.Uo k3 (Q:=s.j.l.length=t.procs.l.length) (b:=((len s.j)==(len t.procs))) (λ_=>by rw[beq_iff_eq];simp only[len];omega) (f:=λJ=>(bp J (some true) (some (!((len s.j)==(len t.procs)))):bf Bool)) (λb=>rfl)
 simp only[Option.bind_assoc]at k4 ⊢;obtain⟨b,L,h⟩:=k4;simp only[<-Option.bind_assoc]at L ⊢;rw[L,ζb]
 cases b with
 | true=>exact jH ⟨λe=>(nomatch e),λq=>absurd q.1 (h.1 rfl)⟩
 | false=>
  have z:((Cons t A s.first.l/\Cons t A s.last.l)/\c9 s.first.l s.last.l)/\s.j.l.length=t.procs.l.length:=Classical.byContradiction λq=>(nomatch h.2 q)
  rw[bL];unfold gU.W1;refine(uI (n:=s.j.l.length) (P:=λp=>w8 s p=fI t p) ?_ ?_).iff ?_
  .intro p u _;have w:p<t.procs.l.length:=by rw[<-z.2];exact u
   unfold gU.br;rw[jV u,bJ,bG u,ζb,bG w,ζb];refine Jx ?_ (cH p Za)
   rw[beq_iff_eq,vD u,kP w];simp only[len];omega
  .intro _;unfold gU.br;rw[kA,bL]
  exact⟨λq=>⟨z,λp u=>q p (by rw[z.2];exact u)⟩,λq p u=>q.2 p (by rw[<-z.2];exact u)⟩
theorem G8 (G:Small t) (D:VT t):∃c,fV t=some c/\c.l.length=t.procs.l.length/\∀p,p<t.procs.l.length->nth c.l p=fI t p:=by
 have C:=D.few;unfold fV fV.W1;refine iC (P:=λc:Sl Int=>c.l.length=t.procs.l.length/\∀p,p<t.procs.l.length->nth c.l p=fI t p) t.procs.l.length (λi (s:Sl Int×Int)=>s.2=(i:Int)/\s.1.l.length=i/\∀p,p<i->nth s.1.l p=fI t p) ⟨rfl,rfl,λp B=>absurd B Za⟩ ?_ ?_
 .rintro i ⟨o,_⟩ z ⟨e,h1,u⟩;simp only at e h1 u;subst e;unfold fV.br;rw[jV z,bJ,bG z,ζb];obtain⟨r,hr,w⟩:=tK (s:=o) (x:=len t.procs.l[i].events) Za
  rw[hr,ζb,bk];refine⟨cH i Za,by rw[w];simp[h1],λp B=>?_⟩
  show nth r.l p=_;rw[w]
  by_cases e:p=i
  .subst e;unfold nth;rw[List.getElem?_append_right Za,h1,Nat.sub_self,kP z];rfl
  unfold nth;rw[List.getElem?_append_left Za]
  exact u p Za
 rintro⟨o,_⟩ ⟨e,h1,u⟩;simp only at e h1 u;subst e;unfold fV.br;rw[kA,bL,bk];exact(bk _).2 ⟨h1,u⟩
theorem CQ (B:zH t A s) (h:∀p,p<t.procs.l.length->∀i,i<fI t p->vN t A s p i) {p i:Nat} (hp:p<t.procs.l.length) (D:(i:Int)<nth s.last.l p):i<fI t p/\Cons t A (el s p i):=by
 have w:=dY B.1.1.1.2 hp;have u:i<fI t p:=by omega
 refine⟨u,?_⟩;rcases h p hp i u with k|⟨_,k|k⟩
 .omega
 .rw[k.2];exact B.1.1.1.1
 exact k.2.1
theorem vO (T:Small t) (hv:cE t=some true) (U:VT t) (hM:fR t (bT t) A) (W:lK s):cU (fF t s) (lH t A s):=by
 have h8:=U.few;have I:∀p,p<t.procs.l.length->fI t p<1073741824:=λp u=>by rw[kP u];exact(T.2 _ (List.getElem_mem u)).1
 unfold fF;rw[hv,ζb,bJ]
 cases he:s.empty with
 | true=>
  rw[bJ];have k1:=cU.Vp (m:=some (len s.first==0)) (P:=s.first.l.length=0) (jH (by rw[beq_iff_eq];simp only[len];omega)) (b:=(len s.last==0)) (Q:=s.last.l.length=0) (λ_=>by rw[beq_iff_eq];simp only[len];omega) (f:=λx=>(bp x (some (len s.last==0)) (some false):bf Bool)) (λb=>rfl)
  have k2:=cU.Vp k1 (b:=(len s.j==0)) (Q:=s.j.l.length=0) (λ_=>by rw[beq_iff_eq];simp only[len];omega) (f:=λx=>(bp x (some (len s.j==0)) (some false):bf Bool)) (λb=>rfl)
  rw[ζb]at k2;have k:=(cU.some k2).iff (Q:=lH t A s) (by unfold lH Oe;rw[he];simp)
  rw[Option.bind_assoc]at k;exact k
 | false=>
  rw[bL];have k1:=It T hv U hM W;obtain⟨c,hc,X,B⟩:=G8 T U;have k2:=cU.UY k1 (Q:=∀p,p<t.procs.l.length->∀i,i<fI t p->vN t A s p i) (n:=(fV t).bind λJ=>gu J (λz=>nN z t s)) (λhs=>by
   rw[hc,ζb];refine(sy (g:=vN t A s) Za (λp u=>by rw[B p Za];have:=I p Za;omega) (λp u i L=>?_)).iff ?_
   .rw[B p Za]at L
    exact(IU T hv U hM W hs Za Za).some
   rw[X];constructor
   .intro h p u i L;exact h p u i (by rw[B p u];omega)
   intro h p u i L;exact h p u i (by rw[B p u]at L;omega)) (f:=λY=>(bp Y ((fV t).bind λJ=>(gu J (λz=>nN z t s)).bind λZ=>some (!Z)) (some true):bf Bool)) (λb=>by simp only[Option.bind_assoc])
  obtain⟨b,hb,h⟩:=k2;rw[<-Option.bind_assoc,hb,ζb];have D:lH t A s↔mU t A s:=by unfold lH;rw[he];simp
  cases b with
  | true=>exact jH ⟨λe=>(nomatch e),λq=>absurd (D.1 q).1 (h.1 rfl)⟩
  | false=>
   have G:zH t A s/\∀p,p<t.procs.l.length->∀i,i<fI t p->vN t A s p i:=Classical.byContradiction λq=>(nomatch h.2 q)
   have hl:s.last.l.length=t.procs.l.length:=G.1.1.1.1.2.1.1;have hj:s.j.l.length=t.procs.l.length:=G.1.1.2;rw[bL];refine((sy (g:=λp i=>AA s (el s p i)) Za (λp u=>?_) (λp u i L=>?_)).some).iff ?_
   .have:=dY G.1.1.1.1.2 (p:=p) Za;have:=I p Za;omega
   .obtain⟨aa,S⟩:=CQ G.1 G.2 (p:=p) Za L
    obtain⟨d,hd,C,ad⟩:=vF (s:=s) (p:=p) (i:=i) Za (by rw[G.1.2 p Za];exact aa) W
    unfold qb;rw[hd,ζb];refine(sy (g:=λq k=>c9 (el s q k) (el s p i)) Za (λq O=>?_) (λq O k hk=>?_)).some |>.iff ?_
    .rw[C]at O ⊢;have w:q<t.procs.l.length:=by rw[<-S.1.1];exact O
     have:=dY S w;have:=I q w;omega
    .rw[C]at O hk;have w:q<t.procs.l.length:=by rw[<-S.1.1];exact O
     have:=dY S w;unfold mW;obtain⟨y,hy,ab,ae⟩:=vF (s:=s) (p:=q) (i:=k) Za (by rw[G.1.2 q w];omega) W
     rw[hy,ζb,<-ab,<-C];exact(BB Za).some
    rw[C];exact Iff.rfl
   rw[D,hl];exact⟨λq=>⟨G,q⟩,λq=>q.2⟩
theorem LC (T:Small t) (U:VT t) (O:lK s) (W:lH t A s) {c:Sl Int} (hc:Cons t A c.l):cU (pL s c) (jm s c.l):=by
 have h8:=U.few;have X:=hc.1.1;have Y:=O.f;have w:∀p,p<t.procs.l.length->fI t p<1073741824:=λp u=>by rw[kP u];exact(T.2 _ (List.getElem_mem u)).1
 unfold pL;have k1:cU ((bp s.empty (some false) ((gG s.first c).bind λB=>some B):bf Bool)) (s.empty=false/\c9 s.first.l c.l):=by
  cases C:s.empty with
  | true=>exact jH ⟨λe=>(nomatch e),λq=>(nomatch q.1)⟩
  | false=>exact((BB Za).some).iff ⟨λq=>⟨rfl,q⟩,λq=>q.2⟩
 have k2:=cU.and k1 (Q:=c9 c.l s.last.l) (n:=gG c s.last) (λ_=>BB Za) (f:=λD=>(bp D ((gG c s.last).bind λG=>some G) (some false):bf Bool)) (λb=>rfl)
 have k3:=cU.and k2 (Q:=AA s c.l) (n:=gu c (λz=>nD z s c)) (λZ=>by
  rcases W with⟨C,_⟩|⟨C,S⟩
  .exact absurd Z.1.1 (by rw[C];decide)
  have hj:s.j.l.length=t.procs.l.length:=S.1.1.1.2;refine sy (g:=λp i=>c9 (el s p i) c.l) Za (λp u=>?_) (λp u i hi=>?_)
  .have:=dY hc (p:=p) Za;have:=w p Za;omega
  have:=dY hc (p:=p) Za
  unfold nD;obtain⟨d,hd,I,aa⟩:=vF (s:=s) (p:=p) (i:=i) Za (by rw[S.1.1.2 p Za];omega) O
  rw[hd,ζb,<-I];exact(BB Za).some) (f:=λJ=>(bp J ((gu c (λz=>nD z s c)).bind λL=>some L) (some false):bf Bool)) (λb=>rfl)
 have k4:=k3.some;simp only[Option.bind_assoc]at k4 ⊢;exact k4
end
theorem FO {s:Sl (Sl (Sl Int))} {p:Sl (Sl Int)->bf Bool} {f:Sl (Sl Int)->Bool} (hp:∀x∈s.l,p x=some (f x)) (u:s.l.length<1073741824):ji s p=some (s.l.any f):=by
 have h:fD s p=some (place f s.l):=rN hp Za (λi=>rfl)
 unfold ji;rw[h,ζb,rS]
structure Pg (s:Slice):Prop where
 j:s.j.l.length<1073741824
 r:∀r∈s.j.l,r.l.length<1073741824
theorem O7 {s:Slice} (B:Pg s):∃b,sR s=some b/\(b=true->lK s):=by
 have t:∀r∈s.j.l,∃b,ku r=some b/\(b=true->r.l.length<=60/\∀c∈r.l,c.l.length<=60):=by
  intro r hr;unfold ku;rw[lJ (p:=λz=>mg z) (f:=λc=>decide ((len c)>12)) (λx _=>rfl) (B.r r hr),ζb]
  simp only[lz,ζb];refine⟨_,rfl,λh=>?_⟩
  simp only[ζh,decide_eq_true_eq,Bool.not_eq_true',List.any_eq_false,len]at h;refine⟨by omega,λc hc=>?_⟩
  have:=h.2 c hc;have:=h.2 c hc;omega
 have hd:∀r∈s.j.l,jv r=some ((jv r).getD false):=λr hr=>by
  obtain⟨b,u,_⟩:=t r hr;unfold jv;rw[u];rfl
 unfold sR;rw[FO hd B.j,ζb];simp only[lz,ζb];refine⟨_,rfl,λh=>?_⟩
 simp only[ζh,decide_eq_true_eq,Bool.not_eq_true',List.any_eq_false,len]at h;refine⟨by omega,by omega,by omega,λr hr=>?_⟩
 obtain⟨b,u,C⟩:=t r hr;have w:=h.2 r hr;unfold jv at w;rw[u]at w;refine C ?_
 cases b with
 | true=>rfl
 | false=>exact absurd rfl w
section
variable {t:Trace} {s:Slice}
def D2 (t:Trace) (A:bP 200 bt) (a b:Slice):Prop:=(Cons t A a.first.l/\jm b a.first.l)/\∀p,p<t.procs.l.length->∀i:Nat,(i:Int)<nth a.last.l p->Cons t A (el a p i)/\jm b (el a p i)
end
section
variable {t:Trace} {A:bP 200 bt} {s:Slice}
theorem zS (B:mU t A s) (D:s.empty=false):jm s s.first.l:=by
 obtain⟨⟨⟨⟨⟨h1,G⟩,w⟩,I⟩,J⟩,C⟩:=B.1;refine⟨⟨⟨D,c9.refl _⟩,w⟩,λp z i L=>?_⟩
 have u:p<t.procs.l.length:=by rw[<-h1.1.1];exact z
 have k1:=c9.nth w z;have k2:=dY h1 u;rcases C p u i Za with k|⟨_,k|k⟩
 .omega
 .rw[k.2];exact c9.refl _
 omega
theorem On (B:mU t A s) (D:s.empty=false):jm s s.last.l:=by
 obtain⟨⟨⟨⟨⟨h1,w⟩,z⟩,I⟩,J⟩,C⟩:=B.1;refine⟨⟨⟨D,z⟩,c9.refl _⟩,λp G i L=>?_⟩
 have u:p<t.procs.l.length:=by rw[<-w.1.1];exact G
 have k2:=dY w u;rcases C p u i Za with k|⟨_,k|k⟩
 .omega
 .rw[k.2];exact z
 exact k.2.2.2.2
theorem Cm (u:mU t A s) (B:s.empty=false) {p i:Nat} (hp:p<t.procs.l.length) (D:(i:Int)<nth s.last.l p):jm s (el s p i)/\(i:Int)<nth (el s p i) p/\Cons t A (el s p i):=by
 obtain⟨⟨⟨⟨⟨h1,w⟩,C⟩,G⟩,I⟩,z⟩:=u.1;have k2:=dY w hp;rcases z p hp i Za with k|⟨_,k|k⟩
 .omega
 .rw[k.2];exact⟨zS u B,k.1,h1⟩
 exact⟨⟨⟨⟨B,k.2.2.2.1⟩,k.2.2.2.2⟩,u.2 p hp i D⟩,k.2.2.1,k.2.1⟩
theorem PL (u:Small t) (hv:cE t=some true) (B:VT t) (D:fR t (bT t) A) (G:lK s) (J:lH t A s) {c:Sl Int} (O:Cons t A c.l) (T:jm s c.l):pE t s c=some true:=by
 obtain⟨x,e1,h1⟩:=vO u hv B D G;obtain⟨y,e2,w⟩:=yN u hv B D c;obtain⟨z,e3,C⟩:=LC u B G J O;unfold pE;rw[e1,ζb,h1.2 J,bJ,e2,ζb,ζb,w.2 O,bJ,e3,ζb,C.2 T];rfl
end
theorem pP {a b:a_ Int}:c9 a b↔a.length=b.length/\∀p,p<a.length->nth a p<=nth b p:=by
 constructor
 .intro h;exact⟨h.1,λp u=>h.nth u⟩
 rintro⟨h,k⟩;refine⟨h,λp x y t w=>?_⟩
 have:=k p (ζe.1 t).1;unfold nth at this;rw[t,w]at this;exact this
theorem c9.anti {a b:a_ Int} (h:c9 a b) (k:c9 b a):a=b:=by
 refine List.ext_getElem h.1 λp t u=>?_
 have h1:=h.nth t;have w:=k.nth u;rw[kN t,kN u]at h1 w;omega
section
variable {t:Trace} {A:bP 200 bt} {U:a_ Int->Prop} {b:Slice}
structure wQ (t:Trace) (A:bP 200 bt) (U:List Int->Prop) (b:Slice):Prop where
 e:b.empty=false
 f:U b.first.l
 mn:∀u,U u->c9 b.first.l u
 j:b.j.l.length=t.procs.l.length
 rows:∀p,p<t.procs.l.length->w8 b p=fI t p
 elm:∀p,p<t.procs.l.length->∀i,i<fI t p->(el b p i=[]/\∀u,U u->nth u p<=(i:Int))\/(U (el b p i)/\(i:Int)<nth (el b p i) p/\∀u,U u->(i:Int)<nth u p->c9 (el b p i) u)
 lc:Cons t A b.last.l
 lf:c9 b.first.l b.last.l
 le:∀p,p<t.procs.l.length->∀i,i<fI t p->U (el b p i)->c9 (el b p i) b.last.l
 la:∀p,p<t.procs.l.length->∃v,U v/\nth b.last.l p=nth v p
theorem wQ.up (h:wQ t A U b) (B:∀u,U u->Cons t A u) {u:a_ Int} (hu:U u):c9 u b.last.l:=by
 have z:=B _ hu;refine pP.2 ⟨z.1.1.trans h.lc.1.1.symm,λp D=>?_⟩
 have w:p<t.procs.l.length:=by rw[<-z.1.1];exact D
 have h1:=dY z w;have G:=dY h.lc w;refine Classical.byContradiction λI=>?_
 have C:(nth u p-1).toNat<fI t p:=by omega
 rcases h.elm p w _ C with⟨_,k⟩|⟨k1,k2,k3⟩
 .have:=k u hu;omega
 have J:=(h.le p w _ C k1).nth (p:=p) (by rw[(B _ k1).1.1];exact w)
 omega
theorem wQ.D8 (h:wQ t A U b) {p i:Nat} (hp:p<t.procs.l.length) (B:(i:Int)<nth b.last.l p):i<fI t p/\U (el b p i)/\(i:Int)<nth (el b p i) p/\∀u,U u->(i:Int)<nth u p->c9 (el b p i) u:=by
 have C:=dY h.lc hp;have w:i<fI t p:=by omega
 obtain⟨v,hv,z⟩:=h.la p hp;rcases h.elm p hp i w with⟨_,k⟩|k
 .have:=k v hv;omega
 exact⟨w,k⟩
theorem wQ.form (h:wQ t A U b) (D:∀u,U u->Cons t A u):mU t A b:=by
 have J:=D _ h.f;refine⟨⟨⟨⟨⟨⟨J,h.lc⟩,h.lf⟩,h.j⟩,h.rows⟩,λp w i z=>?_⟩,λp w i z q L k hk=>?_⟩
 .by_cases C:(i:Int)<nth b.last.l p
  .obtain⟨_,k1,k2,k3⟩:=h.D8 w C;refine .inr ⟨C,?_⟩
   by_cases G:(i:Int)<nth b.first.l p
   .exact .inl ⟨G,(k3 _ h.f G).anti (h.mn _ k1)⟩
   exact .inr ⟨by omega,D _ k1,k2,h.mn _ k1,h.le p w i z k1⟩
  refine .inl ⟨by omega,?_⟩
  rcases h.elm p w i z with⟨k,_⟩|⟨k1,k2,_⟩
  .rw[k];rfl
  have:=(h.le p w i z k1).nth (p:=p) (by rw[(D _ k1).1.1];exact w)
  omega
 obtain⟨_,k1,k2,k3⟩:=h.D8 w z;have I:=D _ k1;have B:q<t.procs.l.length:=by rw[<-I.1.1];exact L
 have:=dY I B;rcases h.elm q B k Za with⟨_,m⟩|⟨_,_,m⟩
 .have:=m _ k1;omega
 exact m _ k1 hk
theorem wQ.valid (h:wQ t A U b) (B:∀u,U u->Cons t A u):lH t A b:=.inr ⟨h.e,h.form B⟩
theorem cover (T:∀u,U u->Cons t A u) (W:∀u v w,U u->U v->kr kD u v w->U w) {c J:a_ Int} (hl:c.length=t.procs.l.length) (Y:U J) (O:c9 J c)
 (h:∀p,p<t.procs.l.length->0<nth c p->∃u,U u/\c9 u c/\nth c p<=nth u p):U c:=by
 have key:∀k,k<=t.procs.l.length->∃u,U u/\c9 u c/\∀p,p<k->nth c p<=nth u p:=by
  intro k
  induction k with
  | zero=>exact λ_=>⟨J,Y,O,λp D=>absurd D Za⟩
  | succ k L=>
   intro hk;obtain⟨u,h1,B,G⟩:=L Za
   by_cases D:0<nth c k
   .obtain⟨v,g1,g2,g3⟩:=h k Za D
    have z:u.length=v.length:=B.1.trans g2.1.symm;have I:=kr.of kD z;obtain⟨Q,S,X⟩:=I.le_max z;refine⟨_,W u v _ h1 g1 I,X c B g2,λp C=>?_⟩
    rcases Nat.lt_or_eq_of_le (Nat.lt_succ_iff.1 C)with q|rfl
    .exact Int.le_trans (G p q) (Q.nth (by rw[B.1];omega))
    exact Int.le_trans g3 (S.nth (by rw[g2.1];omega))
   refine⟨u,h1,B,λp C=>?_⟩
   rcases Nat.lt_or_eq_of_le (Nat.lt_succ_iff.1 C)with q|rfl
   .exact G p q
   have:=dY (T u h1) (p:=p) Za;omega
 obtain⟨u,h1,B,G⟩:=key _ (Nat.le_refl _);have:u=c:=B.anti (pP.2 ⟨B.1.symm,λp D=>G p Za⟩)
 exact this▸h1
theorem wQ.has (h:wQ t A U b) (G:∀u,U u->Cons t A u) (J:∀u v w,U u->U v->kr kD u v w->U w) {c:a_ Int} (D:Cons t A c):jm b c↔U c:=by
 constructor
 .rintro⟨⟨⟨_,h1⟩,I⟩,L⟩;refine cover G J D.1.1 h.f h1 λp C O=>?_
  have z:p<c.length:=by rw[D.1.1];exact C
  have S:=I.nth z;obtain⟨_,k1,k2,_⟩:=h.D8 C (i:=(nth c p-1).toNat) Za
  exact⟨_,k1,L p z _ Za,by omega⟩
 intro hc;refine⟨⟨⟨h.e,h.mn _ hc⟩,h.up G hc⟩,λp C i Q=>?_⟩
 have B:p<t.procs.l.length:=by rw[<-D.1.1];exact C
 have:=dY D B;rcases h.elm p B i Za with⟨_,k⟩|⟨_,_,k⟩
 .have:=k _ hc;omega
 exact k _ hc Q
end
end Go.VE
namespace Go.VE
theorem IA {t:Trace} (B:VT t) {A:bP 200 bt} (D:fR t (bT t) A):Cons t A (t.procs.l.map λP=>(P.events.l.length:Int)):=by
 refine⟨⟨by simp,λp a P u z=>?_⟩,λp k e a w u hk C=>?_⟩
 .rw[List.getElem?_map,z]at u;cases u;constructor <;> simp
 obtain⟨q,j,y,G,_,_,_,_,I⟩:=Cd B D w C;obtain⟨Q,J,L⟩:=G;have O:=(ζe.1 L).1;rw[I];refine⟨(Q.events.l.length:Int),?_,by simp only;omega⟩
 simp only[Int.toNat_natCast,List.getElem?_map,J,Option.map_some]
theorem Sd {c:a_ Int} {q p:Nat} {v:Int} (hp:p<c.length):nth (c.set q v) p=if p=q then v else nth c p:=by
 unfold nth
 by_cases e:p=q
 .subst e;rw[if_pos rfl,List.getElem?_set_self hp];rfl
 rw[if_neg e,List.getElem?_set_ne (Ne.symm e)]
theorem SD {c:a_ Int} {p:Nat} (hp:p<c.length):c[p]? = some (nth c p):=by rw[kN hp,ζd hp]
section
variable {t:Trace} {A:bP 200 bt} {s:Slice}
theorem yP.to {c d:a_ Int} (u:Cons t A c) (h:yP t A c d):∃p,p<t.procs.l.length/\d=c.set p (nth c p+1)/\Cons t A d:=by
 obtain⟨p,a,h1,w,z⟩:=h;have B:=(ζe.1 h1).1;have:nth c p=a:=by unfold nth;rw[h1];rfl
 exact⟨p,by rw[<-u.1.1];exact B,by rw[this];exact w,z⟩
theorem yP.le {c d:a_ Int} (u:Cons t A c) (h:yP t A c d):c9 c d:=by
 obtain⟨p,z,rfl,_⟩:=h.to u;refine pP.2 ⟨by rw[List.length_set],λq w=>?_⟩
 rw[Sd w];split
 next e=>subst e;omega
 omega
def BH (t:Trace):a_ Int:=t.procs.l.map λP=>(P.events.l.length:Int)
theorem J3 {p:Nat} (hp:p<t.procs.l.length):nth (BH t) p=fI t p:=by unfold nth BH;rw[List.getElem?_map,ζd hp,kP hp];rfl
theorem O9 {c:a_ Int} (B:Cons t A c):c9 c (BH t):=
 pP.2 ⟨by rw[B.1.1];simp[BH],λp w=>by
  have u:p<t.procs.l.length:=by rw[<-B.1.1];exact w
  rw[J3 u];exact(dY B u).2⟩
theorem DJ:∀{a b:a_ Int},c9 a b->a.sum<=b.sum/\(a.sum=b.sum->a=b)
 | [],[],_=>⟨Int.le_refl _,λ_=>rfl⟩
 | [],_::_,h=>nomatch h.1
 | _::_,[],h=>nomatch h.1
 | x::a,y::b,h=>by
  have B:=h.2 0 x y rfl rfl;obtain⟨h1,t⟩:=DJ (a:=a) (b:=b) ⟨by simpa using h.1,λp u v hu hv=>h.2 (p+1) u v hu hv⟩
  simp only[List.sum_cons];refine⟨by omega,λe=>?_⟩
  have:x=y:=by omega
  rw[this,t Za]
end
theorem SH {a b:a_ Int} (u:a.length=b.length) (h:∀p,p<a.length->nth a p=nth b p):a=b:=by
 refine List.ext_getElem u λp t w=>?_
 have:=h p t;rw[kN t,kN w]at this;exact this
theorem Eo {g:Int->Int->Int} {a b:a_ Int} (u:a.length=b.length) {p:Nat} (hp:p<a.length):nth (List.zipWith g a b) p=g (nth a p) (nth b p):=(kr.of g u).nth u hp
section
variable {t:Trace} {A:bP 200 bt} {s:Slice}
theorem Kr {c d:a_ Int} (u:c.length=d.length):c9 c d↔xQ c d:=⟨λh=>h.2,λh=>⟨u,h⟩⟩
theorem Te {c:a_ Int} (B:c.length=t.procs.l.length):lR t c↔∀p,p<t.procs.l.length->0<=nth c p/\nth c p<=fI t p:=by
 constructor
 .intro h p u;have hc:=SD (c:=c) (p:=p) Za
  have:=h.2 p _ _ hc (ζd u);rw[kP u];exact this
 intro h;refine⟨B,λp a P z w=>?_⟩
 have u:=(ζe.1 w).1;have h1:=h p u;have e:nth c p=a:=by unfold nth;rw[z];rfl
 rw[kP u,e]at h1;rw[(ζe.1 w).2]at h1;exact h1
end
section
variable {t:Trace} {A:bP 200 bt} {U:a_ Int->Prop}
def XU (U:a_ Int->Prop) (p i:Nat) (e:a_ Int):Prop:=(e=[]/\∀u,U u->nth u p<=(i:Int))\/(U e/\(i:Int)<nth e p/\∀u,U u->(i:Int)<nth u p->c9 e u)
def Pa (U:a_ Int->Prop) (p:Nat) (l:Sl (Sl Int)) (n:Nat) (last:a_ Int):Prop:=l.l.length=n/\∀(i:Nat) (e:Sl Int),l.l[i]? = some e->XU U p i e.l/\(U e.l->c9 e.l last)
def LM (t:Trace) (A:bP 200 bt) (U:a_ Int->Prop) (f last:a_ Int):Prop:=Cons t A last/\c9 f last/\∀q,q<t.procs.l.length->∃v,U v/\nth last q=nth v q
theorem Pa.up {p n:Nat} {l:Sl (Sl Int)} {a b:a_ Int} (h:Pa U p l n a) (u:c9 a b):Pa U p l n b:=⟨h.1,λi e t=>⟨(h.2 i e t).1,λhu=>((h.2 i e t).2 hu).trans u⟩⟩
def Yk (t:Trace) (U:a_ Int->Prop) (p1:Sl Int->bf (Sl Int×Bool)):Prop:=∀c:Sl Int,lR t c.l->(∃d,p1 c=some (d,true)/\U d.l/\c9 c.l d.l/\∀u,U u->c9 c.l u->c9 d.l u)\/(p1 c=some (Sl.nil,false)/\∀u,U u->¬c9 c.l u)
theorem LM.join {f last d:a_ Int} (B:∀u,U u->Cons t A u) (h:LM t A U f last) (hd:U d):LM t A U f (List.zipWith kD last d)/\c9 last (List.zipWith kD last d)/\c9 d (List.zipWith kD last d):=by
 obtain⟨h1,D,G⟩:=h;have w:last.length=d.length:=h1.1.1.trans (B d hd).1.1.symm;obtain⟨z,I,_⟩:=(kr.of kD w).le_max w;refine⟨⟨join_cons h1 (B d hd) (kr.of kD w),D.trans z,λq C=>?_⟩,z,I⟩
 rw[Eo w (by rw[h1.1.1];exact C)]
 rcases oC (nth last q) (nth d q)with⟨e,_⟩|⟨e,_⟩
 .rw[e];exact G q C
 exact⟨d,hd,e⟩
theorem zero_le {u:a_ Int} (hu:Cons t A u):c9 (List.replicate t.procs.l.length 0) u:=pP.2 ⟨by rw[hu.1.1];exact List.length_replicate,λp z=>by
 have w:p<t.procs.l.length:=by simpa using z
 have:=(dY hu w).1;unfold nth at this ⊢;rw[List.getElem?_replicate,if_pos w];exact this⟩
end
section
variable {t:Trace} {A:bP 200 bt} {L:a_ Slice}
def Ws (t:Trace) (A:bP 200 bt) (L:a_ Slice) (u:a_ Int):Prop:=Cons t A u/\∀s∈L,jm s u
structure Inv (t:Trace) (A:bP 200 bt) (L:List Slice) (ci c:List Int):Prop where
 r:lR t c
 le:c9 ci c
 mn:∀u,Ws t A L u->c9 ci u->c9 c u
end
theorem Oc {a b:Sl (Sl Int)} (D:a.l.length<1073741824) (B:∀x∈a.l,x.l.length<1073741824):cU (eN a b) (ins a=ins b):=by
 unfold eN;have la:(ins a).length=a.l.length:=by unfold ins;simp
 have w:(ins b).length=b.l.length:=by unfold ins;simp
 by_cases h:a.l.length=b.l.length
 .rw[show (len a==len b)=true from by simp[len,h],bJ]
  unfold eN.W1;refine(uI (n:=a.l.length) (P:=λi=>(ins a)[i]? = (ins b)[i]?) (λi t _=>?_) (λ_=>?_)).iff ⟨λk=>List.ext_getElem? λi=>?_,λk i _=>by rw[k]⟩
  .have u:i<b.l.length:=by omega
   unfold eN.br;rw[jV t,bJ,bG t,ζb,bG u,ζb];refine HG ((FU (B _ (List.getElem_mem t))).iff ?_) (cH i Za)
   unfold ins;rw[List.getElem?_map,List.getElem?_map,ζd t,ζd u];simp
  .unfold eN.br;rw[kA,bL]
  by_cases t:i<a.l.length
  .exact k i t
  rw[List.getElem?_eq_none Za,List.getElem?_eq_none Za]
 rw[show (len a==len b)=false from by simp[len];omega,bL]
 refine jH ⟨λk=>by simp at k,λk=>?_⟩
 rw[<-la,<-w,k]at h;exact absurd rfl h
section
variable {t:Trace} {A:bP 200 bt}
def kC (n:Nat) (V:a_ Int->Prop) (x:a_ Int):Prop:=x.length=n/\(∀v,V v->c9 x v)/\∀y:a_ Int,y.length=n->(∀v,V v->c9 y v)->c9 y x
def oH (n:Nat) (V:a_ Int->Prop) (x:a_ Int):Prop:=x.length=n/\(∀v,V v->c9 v x)/\∀y:a_ Int,y.length=n->(∀v,V v->c9 v y)->c9 x y
def l9 (l:Sl (Sl Int)) (k:Nat) (v:a_ Int):Prop:=∃j,j<k/\∃x:Sl Int,l.l[j]? = some x/\x.l=v
theorem l9.succ {l:Sl (Sl Int)} {k:Nat} (hk:k<l.l.length) {v:a_ Int}:l9 l (k+1) v↔l9 l k v\/v=l.l[k].l:=by
 constructor
 .rintro⟨j,u,x,t,rfl⟩;rcases Nat.lt_or_eq_of_le (Nat.lt_succ_iff.1 u)with h|rfl
  .exact .inl ⟨j,h,x,t,rfl⟩
  rw[ζd hk]at t;cases t;exact .inr rfl
 rintro (⟨j,u,x,t,rfl⟩|rfl)
 .exact⟨j,by omega,x,t,rfl⟩
 exact⟨k,by omega,_,ζd hk,rfl⟩
theorem kC.meet {n:Nat} {V:a_ Int->Prop} {x c:a_ Int} (h:kC n V x) (hc:c.length=n):kC n (λv=>V v\/v=c) (List.zipWith jZ x c):=by
 have u:x.length=c.length:=h.1.trans hc.symm;obtain⟨w,z,B⟩:=(kr.of jZ u).le_min u;refine⟨by rw[List.length_zipWith,u,Nat.min_self];exact hc,λv hv=>?_,λy C t=>B y (h.2.2 y C λv hv=>t v (.inl hv)) (t c (.inr rfl))⟩
 rcases hv with hv|rfl
 .exact w.trans (h.2.1 v hv)
 exact z
theorem oH.join {n:Nat} {V:a_ Int->Prop} {x c:a_ Int} (h:oH n V x) (hc:c.length=n):oH n (λv=>V v\/v=c) (List.zipWith kD x c):=by
 have u:x.length=c.length:=h.1.trans hc.symm;obtain⟨w,z,B⟩:=(kr.of kD u).le_max u;refine⟨by rw[List.length_zipWith,u,Nat.min_self];exact hc,λv hv=>?_,λy C t=>B y (h.2.2 y C λv hv=>t v (.inl hv)) (t c (.inr rfl))⟩
 rcases hv with hv|rfl
 .exact(h.2.1 v hv).trans w
 exact z
theorem kC.iff {n:Nat} {V W:a_ Int->Prop} {x:a_ Int} (h:kC n V x) (e:∀v,V v↔W v):kC n W x:=⟨h.1,λv hv=>h.2.1 v ((e v).2 hv),λy t k=>h.2.2 y t λv hv=>k v ((e v).1 hv)⟩
theorem oH.iff {n:Nat} {V W:a_ Int->Prop} {x:a_ Int} (h:oH n V x) (e:∀v,V v↔W v):oH n W x:=⟨h.1,λv hv=>h.2.1 v ((e v).2 hv),λy t k=>h.2.2 y t λv hv=>k v ((e v).1 hv)⟩
theorem kC.one {n:Nat} {c:a_ Int} (hc:c.length=n):kC n (λv=>v=c) c:=⟨hc,λv hv=>hv▸c9.refl _,λy _ h=>h c rfl⟩
theorem oH.one {n:Nat} {c:a_ Int} (hc:c.length=n):oH n (λv=>v=c) c:=⟨hc,λv hv=>hv▸c9.refl _,λy _ h=>h c rfl⟩
def U9 (n:Nat) (V:a_ Int->Prop) (p i:Nat) (e:a_ Int):Prop:=(e=[]/\∀v,V v->nth v p<=(i:Int))\/((∃v,V v/\(i:Int)<nth v p)/\kC n (λv=>V v/\(i:Int)<nth v p) e)
structure mV (t:Trace) (V:List Int->Prop) (b:Slice):Prop where
 e:b.empty=false
 f:kC t.procs.l.length V b.first.l
 l:oH t.procs.l.length V b.last.l
 j:b.j.l.length=t.procs.l.length
 r:∀p r,b.j.l[p]? = some r->r.l.length=fI t p/\∀(i:Nat) (c:Sl Int),r.l[i]? = some c->U9 t.procs.l.length V p i c.l
end
def w9 (c:a_ Int):a_ Int:=c.sum::c
def xN (c:a_ Int):Prop:=c.length<=8/\∀x∈c,0<=x/\x<1073741824
theorem Ij {c:a_ Int} (h:xN c) (i:Nat):0<=(c.take i).sum/\(c.take i).sum<=8589934592:=by
 have key:∀(l:a_ Int),(∀x∈l,0<=x/\x<1073741824)->0<=l.sum/\l.sum<=1073741824*(l.length:Int):=by
  intro l
  induction l with
  | nil=>intro _;simp
  | cons x l t=>
   intro h;have h1:=h x Zc
   have u:=t λy w=>h y (List.mem_cons_of_mem _ w)
   simp only[List.sum_cons,List.length_cons];omega
 have h1:=key (c.take i) λx z=>h.2 x (List.mem_of_mem_take z)
 have u:(c.take i).length<=8:=by rw[List.length_take];have:=h.1;omega
 omega
theorem yB {c:a_ Int} {i:Nat} (u:i<c.length):(c.take (i+1)).sum=(c.take i).sum+c[i]:=by
 rw[List.take_succ_eq_append_getElem u,List.sum_append];simp
theorem M0 {a b:a_ Int} {i:Nat} (u:i<a.length) (B:i<b.length):fC (a.drop i) (b.drop i)=if a[i]<b[i]then -1 else if a[i]>b[i]then 1 else fC (a.drop (i+1)) (b.drop (i+1)):=by
 rw[List.drop_eq_getElem_cons u,List.drop_eq_getElem_cons B];rfl
def ec (x y:a_ Int):Prop:=fC (w9 x) (w9 y)<0
instance (x y:a_ Int):Decidable (ec x y):=by unfold ec;exact inferInstance
theorem ec.Rc (x:a_ Int):¬ec x x:=by unfold ec;rw[zN];omega
theorem ec.tr {x y z:a_ Int} (h:ec x y) (k:ec y z):ec x z:=A0 _ _ _ h k
theorem ec.tot {x y:a_ Int} (h:¬ec x y) (k:¬ec y x):x=y:=by
 have:=Ee _ _ h k;unfold w9 at this;exact(List.cons.inj this).2
theorem ec.sum {x y:a_ Int} (h:x.sum<y.sum):ec x y:=by unfold ec w9;simp[fC,h]
theorem Dl:∀{l r:a_ (a_ Int)},l.Pairwise ec->r.Pairwise ec->(∀x,x∈l↔x∈r)->l=r
 | [],[],_,_,_=>rfl
 | [],y::r,_,_,h=>by have:=(h y).2 Zc;simp at this
 | x::l,[],_,_,h=>by have:=(h x).1 Zc;simp at this
 | x::l,y::r,B,hr,h=>by
  have e:x=y:=by
   rcases List.mem_cons.1 ((h x).1 Zc)with e|e
   .exact e
   rcases List.mem_cons.1 ((h y).2 Zc)with k|k
   .exact k.symm
   exact absurd (((List.pairwise_cons.1 hr).1 x e).tr ((List.pairwise_cons.1 B).1 y k)) (ec.Rc y)
  subst e
  congr 1
  have t:=List.pairwise_cons.1 B;have u:=List.pairwise_cons.1 hr;refine Dl t.2 u.2 λz=>⟨λw=>?_,λw=>?_⟩
  .rcases List.mem_cons.1 ((h z).1 (List.mem_cons_of_mem _ w))with e|e
   .exact absurd (e▸t.1 z w) (ec.Rc x)
   exact e
  rcases List.mem_cons.1 ((h z).2 (List.mem_cons_of_mem _ w))with e|e
  .exact absurd (e▸u.1 z w) (ec.Rc x)
  exact e
theorem SR {t:Trace} {A:bP 200 bt} (D:Small t) (G:VT t) {c:a_ Int} (B:Cons t A c):xN c:=by
 refine⟨B.1.1▸G.few,λx z=>?_⟩
 obtain⟨p,w,e⟩:=List.mem_iff_getElem.1 z;have u:p<t.procs.l.length:=by rw[<-B.1.1];exact w
 have:=B.1.2 p x _ (by rw[ζd w,e]) (ζd u)
 have k:=(D.2 _ (List.getElem_mem u)).1;omega
theorem ec.Nl {x y:a_ Int} (h:x.sum=y.sum):ec x y↔fC x y<0:=by
 unfold ec w9;simp only[fC,if_neg (show ¬x.sum<y.sum by omega),if_neg (show ¬x.sum>y.sum by omega)]
theorem ec.nodup {L:a_ (a_ Int)} (h:L.Pairwise ec):L.Nodup:=h.imp λ{x y} (h:ec x y) (e:x=y)=>ec.Rc y (by rw[e]at h;exact h)
theorem Li {L:a_ (a_ Int)} {c:a_ Int} {j:Nat} (h:L.Pairwise ec) (h1:∀(i:Nat) x,i<j->L[i]? = some x->ec x c) (B:∀x,L[j]? = some x->ec c x) :
 (L.take j++[c]++L.drop j).Pairwise ec/\∀x,x∈L.take j++[c]++L.drop j↔x∈L\/x=c:=by
 have u:∀x∈L.take j,ec x c:=λx hx=>by
  obtain⟨k,hk,e⟩:=List.mem_iff_getElem.1 hx;rw[List.length_take]at hk;rw[List.getElem_take]at e;exact h1 k x Za (by rw[ζd Za,e])
 have t:∀x∈L.drop j,ec c x:=λx hx=>by
  obtain⟨k,hk,e⟩:=List.mem_iff_getElem.1 hx;rw[List.length_drop]at hk;rw[List.getElem_drop]at e;have z:j<L.length:=by omega
  have k0:=B _ (ζd z)
  by_cases e0:k=0
  .subst e0;simp only[Nat.add_zero]at e;rw[<-e];exact k0
  rw[<-e];exact k0.tr (List.pairwise_iff_getElem.1 h j (j+k) z Za Za)
 refine⟨List.pairwise_append.2 ⟨List.pairwise_append.2 ⟨h.sublist (List.take_sublist _ _),List.pairwise_singleton _ _,λx hx y w=>?_⟩,h.sublist (List.drop_sublist _ _),λx hx y w=>?_⟩,λx=>?_⟩
 .rw[List.mem_singleton.1 w];exact u x hx
 .rcases List.mem_append.1 hx with hx|hx
  .exact(u x hx).tr (t y w)
  rw[List.mem_singleton.1 hx];exact t y w
 conv=>rhs;rw[<-List.take_append_drop j L]
 simp only[List.mem_append,List.mem_singleton];constructor
 .rintro ((h|h)|h) <;> simp[h]
 rintro ((h|h)|h) <;> simp[h]
section
variable {t:Trace} {A:bP 200 bt} {s:Slice}
def yb (x y:Int):Int:=if y>x then y else x
def ue (a b:a_ Int):a_ Int:=List.zipWith yb a b
def xX (s:Slice) (c:a_ Int) (p:Nat):a_ Int:=ue c (el s p (nth c p).toNat)
inductive sD (n:Nat) (s:Slice):List Int->Prop
 | first:sD n s s.first.l
 | step (c:List Int) (p:Nat) (h:sD n s c) (hp:p<n) (hl:nth c p<nth s.last.l p):sD n s (xX s c p)
theorem wE {a b:a_ Int} (h:a.length=b.length):(ue a b).length=a.length:=by unfold ue;simp[h]
theorem q9 {a b:a_ Int} (p:Nat):(ue a b)[p]? = match a[p]?,b[p]? with|some x,some y=>some (yb x y)|_,_=>none:=by
 unfold ue;rw[List.getElem?_zipWith];cases a[p]? <;> cases b[p]? <;> rfl
theorem wj (x y:Int):x<=yb x y/\y<=yb x y/\(yb x y=x\/yb x y=y):=by unfold yb;split <;> omega
theorem QZ:∀{a b:a_ Int},a.length=b.length->(∀(p:Nat) (x y:Int),a[p]? = some x->b[p]? = some y->x<=y)->a.sum<=b.sum
 | [],[],_,_=>Int.le_refl _
 | x::a,y::b,B,h=>by
  have D:=h 0 x y rfl rfl;have:=QZ (a:=a) (b:=b) (by simpa using B) λp u v hu hv=>h (p+1) u v (by simpa using hu) (by simpa using hv)
  simp only[List.sum_cons];omega
theorem QY:∀{a b:a_ Int},a.length=b.length->(∀(p:Nat) (x y:Int),a[p]? = some x->b[p]? = some y->x<=y)->(∃(p:Nat) (x y:Int),a[p]? = some x/\b[p]? = some y/\x<y)->a.sum<b.sum
 | [],[],_,_,⟨p,x,y,h,_⟩=>by simp at h
 | x::a,y::b,D,h,⟨p,u,v,hu,hv,B⟩=>by
  have G:=h 0 x y rfl rfl;have t:=λp u v hu hv=>h (p+1) u v (by simpa using hu) (by simpa using hv)
  have h1:=QZ (a:=a) (b:=b) (by simpa using D) t
  simp only[List.sum_cons]
  cases p with
  | zero=>simp at hu hv;subst hu;subst hv;omega
  | succ p=>
   have:=QY (a:=a) (b:=b) (by simpa using D) t ⟨p,u,v,by simpa using hu,by simpa using hv,B⟩
   omega
theorem L9 {a b:a_ Int} (J:Cons t A a) (O:Cons t A b):Cons t A (ue a b):=by
 have S:a.length=b.length:=J.1.1.trans O.1.1.symm;have C:∀{p:Nat} {z:Int},(ue a b)[p]? = some z->∃x y,a[p]? = some x/\b[p]? = some y/\z=yb x y:=λ{p z} h=>by
  rw[q9]at h;split at h
  next x y D G=>cases h;exact⟨x,y,D,G,rfl⟩
  cases h
 refine⟨⟨(wE S).trans J.1.1,λp z P I L=>?_⟩,λp k e z Q I hk w=>?_⟩
 .obtain⟨x,y,D,G,rfl⟩:=C I;have h1:=J.1.2 p x P D L;have U:=O.1.2 p y P G L;rcases (wj x y).2.2 with e|e <;> rw[e] <;> assumption
 obtain⟨x,y,D,G,rfl⟩:=C I;rcases (wj x y).2.2 with e'|e' <;> rw[e']at hk
 .obtain⟨u,hu,B⟩:=J.2 p k e x Q D hk w;have T:=(ζe.1 hu).1;have hv:=ζd (show (ag A e.message).from_.proc.toNat<b.length by omega)
  exact⟨yb u b[(ag A e.message).from_.proc.toNat],by rw[q9,hu,hv],Int.le_trans B (wj _ _).1⟩
 obtain⟨u,hu,B⟩:=O.2 p k e y Q G hk w;have T:=(ζe.1 hu).1;have hv:=ζd (show (ag A e.message).from_.proc.toNat<a.length by omega)
 exact⟨yb a[(ag A e.message).from_.proc.toNat] u,by rw[q9,hu,hv],Int.le_trans B (wj _ _).2.1⟩
theorem Rj (u:mU t A s) {p i:Nat} (hp:p<t.procs.l.length) (D:(i:Int)<nth s.last.l p):Cons t A (el s p i)/\(i:Int)<nth (el s p i) p/\c9 (el s p i) s.last.l:=by
 obtain⟨⟨⟨⟨⟨h1,w⟩,z⟩,C⟩,G⟩,B⟩:=u.1;have k2:=dY w hp;rcases B p hp i Za with k|⟨_,k|k⟩
 .omega
 .rw[k.2];exact⟨h1,k.1,z⟩
 exact⟨k.2.1,k.2.2.1,k.2.2.2.2⟩
theorem Me (T:mU t A s) {c:a_ Int} (G:Cons t A c) (O:c9 c s.last.l) {p:Nat} (hp:p<t.procs.l.length) (U:nth c p<nth s.last.l p) :
 (Cons t A (xX s c p)/\c9 (xX s c p) s.last.l)/\c.sum<(xX s c p).sum:=by
 have W:=dY G hp;have X:(((nth c p).toNat:Nat):Int)=nth c p:=by omega
 obtain⟨e1,e2,e3⟩:=Rj T hp (i:=(nth c p).toNat) Za
 have B:c.length=(el s p (nth c p).toNat).length:=G.1.1.trans e1.1.1.symm;have S:=L9 G e1;refine⟨⟨S,⟨(wE B).trans O.1,λq z w u L=>?_⟩⟩,?_⟩
 .unfold xX at u;rw[q9]at u;split at u
  next x y I Q=>cases u;have k1:=O.2 q x w I L;have k2:=e3.2 q y w Q L;rcases (wj x y).2.2 with e|e <;> rw[e] <;> assumption
  cases u
 unfold xX;refine QY (wE B).symm (λq x z I u=>?_) ?_
 .rw[q9,I]at u;split at u
  next Y y J Q=>cases J;cases u;exact(wj _ _).1
  cases u
 have C:p<c.length:=by rw[G.1.1];exact hp
 have D:p<(el s p (nth c p).toNat).length:=by omega
 rw[kN D]at e2;have hv:nth c p=c[p]:=kN C;refine⟨p,c[p],yb c[p] ((el s p (nth c p).toNat)[p]),ζd C,by rw[q9,ζd C,ζd D],?_⟩
 have:=(wj c[p] ((el s p (nth c p).toNat)[p])).2.1;omega
theorem qR (u:mU t A s) {c:a_ Int} (h:sD t.procs.l.length s c):Cons t A c/\c9 c s.last.l:=by
 induction h with
 | first=>exact⟨u.1.1.1.1.1.1,u.1.1.1.1.2⟩
 | step c p h z B w=>exact(Me u w.1 w.2 z B).1
theorem PJ {n:Nat} {l:a_ (a_ Int)} (u:s.first.l∈l) (h:∀c∈l,∀p,p<n->nth c p<nth s.last.l p->xX s c p∈l) {c:a_ Int} (hc:sD n s c):c∈l:=by
 induction hc with
 | first=>exact u
 | step c p _ t w z=>exact h c z p t w
theorem Ib {a b:Sl Int} (D:a.l.length=b.l.length) (G:a.l.length<1073741824):∃r,pZ a b=some r/\r.l=ue a.l b.l:=by
 have key:Wp (pZ a b) λr=>r.l=ue a.l b.l:=by
  unfold pZ dS;have B:kX (len a) (0:Int)=some (Sl.row (List.replicate a.l.length 0)):=by
   unfold kX;rw[if_pos ⟨by simp[len],by simp[len];omega⟩];simp[len]
  rw[B,ζb,eY];unfold dS.W1;refine iC a.l.length (λi (q:Sl Int×Int)=>q.2=(i:Int)/\q.1.l.length=a.l.length/\∀p,p<i->q.1.l[p]? = (ue a.l b.l)[p]?) ⟨rfl,by simp[Sl.l],λp t=>absurd t Za⟩ ?_ ?_
  .rintro i ⟨o,_⟩ C ⟨e,h1,u⟩;simp only at e h1 u;subst e;have w:i<b.l.length:=by omega
   unfold dS.br;have t:qH a.l[i] b.l[i]=some (yb a.l[i] b.l[i]):=rfl;rw[jV C,bJ,bG C,ζb,bG w,ζb];dsimp only;rw[t,ζb,xU (show i<o.l.length by omega),ζb]
   obtain⟨r,hr,z⟩:=put_eq (s:=o) (p:=i) (x:=yb a.l[i] b.l[i]) Za
   rw[hr,ζb,bk];refine⟨cH i Za,by rw[z];simpa using h1,λp t=>?_⟩
   show r.l[p]? = _;rw[z]
   by_cases e:p=i
   .subst e;rw[List.getElem?_set_self Za,q9,ζd C,ζd w]
   rw[List.getElem?_set_ne (λh=>e h.symm)]
   exact u p Za
  rintro⟨o,_⟩ ⟨e,h1,u⟩;simp only at e h1 u;subst e;unfold dS.br;rw[kA,bL,bk];refine(bk _).2 ((bk _).2 ?_);refine List.ext_getElem? λp=>?_
  by_cases t:p<a.l.length
  .exact u p t
  rw[List.getElem?_eq_none (show o.l.length<=p by omega),List.getElem?_eq_none (by rw[wE D];omega)]
 obtain⟨r,hr,h⟩:=key;exact⟨r,hr,h⟩
end
theorem size_eq {c:Sl Int} (h:xN c.l):iX c=some c.l.sum:=by
 refine Wp.eq ?_;have u:=h.1;unfold iX iX.W1;refine iC c.l.length (λi (q:Int×Int)=>q.2=(i:Int)/\q.1=(c.l.take i).sum) ⟨rfl,rfl⟩ ?_ ?_
 .rintro i ⟨m,_⟩ t ⟨e,h1⟩;simp only at e h1;subst e;subst h1;unfold iX.br;rw[jV t,bJ,bG t,ζb,bk];have k:=Ij h (i+1);rw[yB t]at k;exact⟨cH i Za,by rw[yB t];exact mT _ Za Za⟩
 rintro⟨m,_⟩ ⟨e,h1⟩;simp only at e h1;subst e;subst h1;unfold iX.br;rw[kA,bL,bk];exact(bk _).2 (by rw[List.take_length])
theorem J7 (x y:Int):mC x y=some (if x<y then -1 else if x>y then 1 else 0):=by
 unfold mC qE;simp only[bne_self_eq_false,ζb,bL,bJ]
 by_cases h1:x<y
 .simp[h1,bp]
 by_cases t:x>y
 .simp[h1,t,bp]
 simp[h1,t,bp]
theorem I_ {a b:Sl Int} (D:a.l.length<1073741824):en a b=some (fC a.l b.l):=by
 refine Wp.eq ?_;unfold en en.W1;refine iC a.l.length (λn s=>s=(n:Int)/\n<=b.l.length/\fC (a.l.drop n) (b.l.drop n)=fC a.l b.l) ⟨rfl,Nat.zero_le _,rfl⟩ ?_ ?_
 .rintro n _ u ⟨rfl,w,t⟩;unfold en.br;rw[jV u,bJ,bG u,ζb];have hd:a.l.drop n=a.l[n]::a.l.drop (n+1):=List.drop_eq_getElem_cons u
  by_cases z:n<b.l.length
  .have B:b.l.drop n=b.l[n]::b.l.drop (n+1):=List.drop_eq_getElem_cons z;rw[show decide ((n:Int)>=len b)=false from by simp[len];omega,bL,bG z,ζb]
   rw[hd,B]at t;simp only[fC]at t;generalize a.l[n]=x at *;generalize b.l[n]=y at *;rw[J7,ζb]
   by_cases h1:x<y
   .rw[if_pos h1]at t ⊢;rw[show ((-1:Int)==0)=false from rfl,bL,bk];exact(bk _).2 t
   rw[if_neg h1]at t ⊢
   by_cases C:x>y
   .rw[if_pos C]at t ⊢;rw[show ((1:Int)==0)=false from rfl,bL,bk];exact(bk _).2 t
   rw[if_neg C]at t ⊢;rw[show ((0:Int)==0)=true from rfl,bJ,bk];exact⟨cH n Za,z,t⟩
  rw[show decide ((n:Int)>=len b)=true from by simp[len];omega,bJ,bk]
  rw[hd,List.drop_eq_nil_of_le (show b.l.length<=n by omega)]at t
  exact(bk _).2 t
 rintro _ ⟨rfl,w,t⟩;unfold en.br;rw[kA,bL,bk];rw[List.drop_eq_nil_of_le (Nat.le_refl _)]at t
 by_cases h:a.l.length<b.l.length
 .show Wp (bp (decide (len a<len b)) _ _) _;rw[show decide (len a<len b)=true from by simp[len];omega,bJ]
  rw[List.drop_eq_getElem_cons h]at t;exact(bk _).2 t
 show Wp (bp (decide (len a<len b)) _ _) _;rw[show decide (len a<len b)=false from by simp[len];omega,bL]
 rw[List.drop_eq_nil_of_le (show b.l.length<=a.l.length by omega)]at t
 exact(bk _).2 t
theorem Um (x y:Int):iT (Sl.row [x,y]:Sl Int)=some (if x=0 then y else x):=by
 unfold iT iT.W1;have t:len (Sl.row [x,y]:Sl Int)=2:=rfl;have s0:iT.br 0 (Sl.row [x,y]) 2 0=bp (x==0) (some (.n 1)) (some (.r x)):=rfl;have u:iT.br 0 (Sl.row [x,y]) 2 1=bp (y==0) (some (.n 2)) (some (.r y)):=rfl;have w:iT.br 0 (Sl.row [x,y]) 2 2=some (.x ()):=rfl;rw[t,fc,s0]
 by_cases h:x=0
 .subst h;rw[show ((0:Int)==0)=true from rfl,bJ,ζb,if_pos rfl];show (bM _ 1).bind _=_;rw[fc,u]
  by_cases k:y=0
  .subst k;rw[show ((0:Int)==0)=true from rfl,bJ,ζb];show (bM _ 2).bind _=_;rw[fc,w];rfl
  rw[show (y==0)=false from by simpa using k,bL];rfl
 rw[show (x==0)=false from by simpa using h,bL,if_neg h];rfl
theorem OG {a b:Sl Int} (u:xN a.l) (B:xN b.l):lT a b=some (fC (w9 a.l) (w9 b.l)):=by
 have w:=u.1;unfold lT;rw[size_eq u,ζb,size_eq B,ζb,J7,ζb,I_ Za,ζb,Um,ζb]
 unfold w9;simp only[fC]
 by_cases h1:a.l.sum<b.l.sum
 .simp[h1]
 by_cases t:a.l.sum>b.l.sum
 .simp[h1,t]
 simp[h1,t]
section
variable {t:Trace} {A:bP 200 bt} {s:Slice}
theorem O3 (D:Small t) (G:VT t) {c:a_ Int} (B:Cons t A c):xN c:=by
 refine⟨B.1.1▸G.few,λx z=>?_⟩
 obtain⟨p,w,e⟩:=List.mem_iff_getElem.1 z;have u:p<t.procs.l.length:=by rw[<-B.1.1];exact w
 have:=B.1.2 p x _ (by rw[ζd w,e]) (ζd u)
 have k:=(D.2 _ (List.getElem_mem u)).1;omega
theorem Aa (u:mU t A s) {c:a_ Int} (h:sD t.procs.l.length s c):c.length=t.procs.l.length:=(qR u h).1.1.1
theorem Un (u:mU t A s) {c:a_ Int} (h:sD t.procs.l.length s c) {p:Nat} (hp:p<t.procs.l.length) (B:nth c p<nth s.last.l p):0<=nth c p/\p<s.j.l.length/\(nth c p).toNat<w8 s p:=by
 obtain⟨⟨⟨⟨⟨h1,w⟩,C⟩,D⟩,z⟩,G⟩:=u.1;have k:=dY w hp;have k0:=dY (qR u h).1 hp;have k5:=z p hp;exact⟨k0.1,by omega,by omega⟩
structure RI (n:Nat) (s:Slice) (L:List (List Int)) (i:Nat):Prop where
 srt:L.Pairwise ec
 rch:∀c∈L,sD n s c
 fst:s.first.l∈L
 le:L.length<=300
 cl:∀(j:Nat) c,j<i->L[j]? = some c->∀p,p<n->nth c p<nth s.last.l p->xX s c p∈L
theorem RI.put {n:Nat} {L:a_ (a_ Int)} {i j:Nat} {J c:a_ Int} (h:RI n s L i) (O:L[i]? = some J) (hc:c∉L) (hr:sD n s c) (D:i<j) (U:j<=L.length) (h1:∀x,L[j-1]? = some x->¬ec c x) (T:∀(m:Nat) x,j<=m->L[m]? = some x->ec c x) (W:L.length<300) :
 RI n s (L.take j++[c]++L.drop j) i/\(L.take j++[c]++L.drop j)[i]? = some J/\∀x,x∈L.take j++[c]++L.drop j↔x=c\/x∈L:=by
 have B:∀x,x∈L.take j++[c]++L.drop j↔x=c\/x∈L:=λx=>by
  conv=>rhs;rw[<-List.take_append_drop j L]
  simp only[List.mem_append,List.mem_singleton];constructor
  .rintro ((h|h)|h) <;> simp[h]
  rintro (h|h|h) <;> simp[h]
 have z:∀k,k<j->(L.take j++[c]++L.drop j)[k]? = L[k]? := λk hk=>by
  rw[List.append_assoc,List.getElem?_append_left (by rw[List.length_take];omega),List.getElem?_take_of_lt hk]
 refine⟨⟨?_,λx hx=>?_,(B _).2 (.inr h.fst),by simp;omega,λk x hk hx p Q G=>(B _).2 (.inr (h.cl k x hk (by rw[<-z k Za];exact hx) p Q G))⟩,by rw[z i D];exact O,B⟩
 .have I:j-1<L.length:=by omega
  have u:ec L[j-1] c:=by
   have k1:=h1 _ (ζd I)
   by_cases k:ec L[j-1] c
   .exact k
   exact absurd (ec.tot k k1▸List.getElem_mem I) hc
  have w:∀x∈L.take j,ec x c:=λx hx=>by
   obtain⟨k,hk,e⟩:=List.mem_iff_getElem.1 hx;rw[List.length_take]at hk;rw[List.getElem_take]at e
   by_cases e2:k=j-1
   .subst e2;rw[<-e];exact u
   rw[<-e];exact(List.pairwise_iff_getElem.1 h.srt k (j-1) Za I Za).tr u
  have t:∀x∈L.drop j,ec c x:=λx hx=>by
   obtain⟨k,hk,e⟩:=List.mem_iff_getElem.1 hx;rw[List.length_drop]at hk;rw[List.getElem_drop]at e;exact T (j+k) x Za (by rw[ζd Za,e])
  refine List.pairwise_append.2 ⟨List.pairwise_append.2 ⟨h.srt.sublist (List.take_sublist _ _),List.pairwise_singleton _ _,λx hx y C=>?_⟩,h.srt.sublist (List.drop_sublist _ _),λx hx y C=>?_⟩
  .rw[List.mem_singleton.1 C];exact w x hx
  rcases List.mem_append.1 hx with hx|hx
  .exact(w x hx).tr (t y C)
  rw[List.mem_singleton.1 hx];exact t y C
 rcases (B x).1 hx with e|e
 .rw[e];exact hr
 exact h.rch x e
def M_ (n:Nat) (s:Slice) (r:a_ (a_ Int)):Prop:=r.Pairwise ec/\(∀c,c∈r↔sD n s c)/\r.length<=5000
end
end Go.VE
