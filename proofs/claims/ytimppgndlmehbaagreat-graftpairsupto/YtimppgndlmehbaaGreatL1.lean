/-
 The law in plain Lean, and the join.
-/
import Derived.Test.YtimppgndlmehbaaGreatK1
import Derived.Test.YtimppgndlmehbaaGreatG1
set_option linter.all false
namespace Go.VE
instance:bB Var where
 wt x:=bB.wt x.name+bB.wt x.init_+1
 ok x:=bB.ok x.name/\bB.ok x.init_/\True
instance:bB Assign where
 wt x:=bB.wt x.var+bB.wt x.value+1
 ok x:=bB.ok x.var/\bB.ok x.value/\True
instance:bB Event where
 wt x:=bB.wt x.kind+bB.wt x.peer+bB.wt x.message+bB.wt x.time+bB.wt x.assign+1
 ok x:=bB.ok x.kind/\bB.ok x.peer/\bB.ok x.message/\bB.ok x.time/\bB.ok x.assign/\True
instance:bB bt where
 wt x:=bB.wt x.name+bB.wt x.vars+bB.wt x.events+1
 ok x:=bB.ok x.name/\bB.ok x.vars/\bB.ok x.events/\True
instance:bB Trace where
 wt x:=bB.wt x.procs+1
 ok x:=bB.ok x.procs/\True
instance:bB Slice where
 wt x:=bB.wt x.empty+bB.wt x.first+bB.wt x.last+bB.wt x.j+1
 ok x:=bB.ok x.empty/\bB.ok x.first/\bB.ok x.last/\bB.ok x.j/\True
end Go.VE
namespace Go.VE.YtimppgndlmehbaaGreat
open Go.Proofs Go.Proofs.YtimppgndlmehbaaGreat
instance UF:Reads Tryz.prog 9 ByteArray:=Reads.str Tryz.underlying9 (by kernel_rfl)
instance UG:Reads Tryz.prog 3 Int:=Reads.int Tryz.underlying3 (by kernel_rfl)
instance Uo:Reads Tryz.prog 148 Var:=by
 refine Reads.st Tryz.underlying148 (by kernel_rfl) rfl ?_
 intro H enc w base spare held fuel cs l hl h;simp only[List.mapM_cons,List.mapM_nil,Option.pure_def,Option.bind_eq_bind,ζg,ζa]at h;obtain⟨x0,h0,ys0,⟨x1,h1,ys1,rfl,rfl⟩,rfl⟩:=h;obtain⟨a0,c0,k0,b0⟩:=Reads.rd (P:=Tryz.prog) (t:=9) (α:=ByteArray) (d:=x0.1) (ps:=x0.2) h0;rw[show Tryz.prog.cellsOf 9=1 from by kernel_rfl]at c0
 obtain⟨a1,c1,k1,b1⟩:=Reads.rd (P:=Tryz.prog) (t:=3) (α:=Int) (d:=x1.1) (ps:=x1.2) h1;rw[show Tryz.prog.cellsOf 3=1 from by kernel_rfl]at c1
 refine⟨⟨a0,a1⟩,dP.fin (n:=2) (dP.seg (o:=1) (n:=1) (dP.seg (o:=0) (n:=1) (show dP (snap w) [] (cs.take 0)from by simpa using dP.nil) c0) c1) hl,⟨k0,k1,trivial⟩,λb bo=>?_⟩
 have w0:=b0 b bo;have w1:=b1 b bo;show bB.wt a0+bB.wt a1+1<=_;simp only[List.map_cons,List.map_nil,List.sum_cons,List.sum_nil];omega
instance UC:Reads Tryz.prog 57 (Sl Var):=Reads.sl (e:=148) Tryz.underlying57 (by kernel_rfl) (by decide)
instance Up:Reads Tryz.prog 151 Assign:=by
 refine Reads.st Tryz.underlying151 (by kernel_rfl) rfl ?_
 intro H enc w base spare held fuel cs l hl h;simp only[List.mapM_cons,List.mapM_nil,Option.pure_def,Option.bind_eq_bind,ζg,ζa]at h;obtain⟨x0,h0,ys0,⟨x1,h1,ys1,rfl,rfl⟩,rfl⟩:=h;obtain⟨a0,c0,k0,b0⟩:=Reads.rd (P:=Tryz.prog) (t:=3) (α:=Int) (d:=x0.1) (ps:=x0.2) h0;rw[show Tryz.prog.cellsOf 3=1 from by kernel_rfl]at c0
 obtain⟨a1,c1,k1,b1⟩:=Reads.rd (P:=Tryz.prog) (t:=3) (α:=Int) (d:=x1.1) (ps:=x1.2) h1;rw[show Tryz.prog.cellsOf 3=1 from by kernel_rfl]at c1
 refine⟨⟨a0,a1⟩,dP.fin (n:=2) (dP.seg (o:=1) (n:=1) (dP.seg (o:=0) (n:=1) (show dP (snap w) [] (cs.take 0)from by simpa using dP.nil) c0) c1) hl,⟨k0,k1,trivial⟩,λb bo=>?_⟩
 have w0:=b0 b bo;have w1:=b1 b bo;show bB.wt a0+bB.wt a1+1<=_;simp only[List.map_cons,List.map_nil,List.sum_cons,List.sum_nil];omega
instance UA:Reads Tryz.prog 62 (Sl Assign):=Reads.sl (e:=151) Tryz.underlying62 (by kernel_rfl) (by decide)
instance Uv:Reads Tryz.prog 64 Event:=by
 refine Reads.st Tryz.underlying64 (by kernel_rfl) rfl ?_
 intro H enc w base spare held fuel cs l hl h;simp only[List.mapM_cons,List.mapM_nil,Option.pure_def,Option.bind_eq_bind,ζg,ζa]at h;obtain⟨x0,h0,ys0,⟨x1,h1,ys1,⟨x2,h2,ys2,⟨x3,h3,ys3,⟨x4,h4,ys4,rfl,rfl⟩,rfl⟩,rfl⟩,rfl⟩,rfl⟩:=h;obtain⟨a0,c0,k0,b0⟩:=Reads.rd (P:=Tryz.prog) (t:=3) (α:=Int) (d:=x0.1) (ps:=x0.2) h0;rw[show Tryz.prog.cellsOf 3=1 from by kernel_rfl]at c0
 obtain⟨a1,c1,k1,b1⟩:=Reads.rd (P:=Tryz.prog) (t:=3) (α:=Int) (d:=x1.1) (ps:=x1.2) h1;rw[show Tryz.prog.cellsOf 3=1 from by kernel_rfl]at c1
 obtain⟨a2,c2,k2,b2⟩:=Reads.rd (P:=Tryz.prog) (t:=3) (α:=Int) (d:=x2.1) (ps:=x2.2) h2;rw[show Tryz.prog.cellsOf 3=1 from by kernel_rfl]at c2
 obtain⟨a3,c3,k3,b3⟩:=Reads.rd (P:=Tryz.prog) (t:=3) (α:=Int) (d:=x3.1) (ps:=x3.2) h3;rw[show Tryz.prog.cellsOf 3=1 from by kernel_rfl]at c3
 obtain⟨a4,c4,k4,b4⟩:=Reads.rd (P:=Tryz.prog) (t:=62) (α:=(Sl Assign)) (d:=x4.1) (ps:=x4.2) h4;rw[show Tryz.prog.cellsOf 62=1 from by kernel_rfl]at c4
 refine⟨⟨a0,a1,a2,a3,a4⟩,dP.fin (n:=5) (dP.seg (o:=4) (n:=1) (dP.seg (o:=3) (n:=1) (dP.seg (o:=2) (n:=1) (dP.seg (o:=1) (n:=1) (dP.seg (o:=0) (n:=1) (show dP (snap w) [] (cs.take 0)from by simpa using dP.nil) c0) c1) c2) c3) c4) hl,⟨k0,k1,k2,k3,k4,trivial⟩,λb bo=>?_⟩
 have w0:=b0 b bo;have w1:=b1 b bo;have w2:=b2 b bo;have w3:=b3 b bo;have w4:=b4 b bo;show bB.wt a0+bB.wt a1+bB.wt a2+bB.wt a3+bB.wt a4+1<=_;simp only[List.map_cons,List.map_nil,List.sum_cons,List.sum_nil];omega
instance Ut:Reads Tryz.prog 58 (Sl Event):=Reads.sl (e:=64) Tryz.underlying58 (by kernel_rfl) (by decide)
instance Uy:Reads Tryz.prog 60 bt:=by
 refine Reads.st Tryz.underlying60 (by kernel_rfl) rfl ?_
 intro H enc w base spare held fuel cs l hl h;simp only[List.mapM_cons,List.mapM_nil,Option.pure_def,Option.bind_eq_bind,ζg,ζa]at h;obtain⟨x0,h0,ys0,⟨x1,h1,ys1,⟨x2,h2,ys2,rfl,rfl⟩,rfl⟩,rfl⟩:=h;obtain⟨a0,c0,k0,b0⟩:=Reads.rd (P:=Tryz.prog) (t:=9) (α:=ByteArray) (d:=x0.1) (ps:=x0.2) h0;rw[show Tryz.prog.cellsOf 9=1 from by kernel_rfl]at c0
 obtain⟨a1,c1,k1,b1⟩:=Reads.rd (P:=Tryz.prog) (t:=57) (α:=(Sl Var)) (d:=x1.1) (ps:=x1.2) h1;rw[show Tryz.prog.cellsOf 57=1 from by kernel_rfl]at c1
 obtain⟨a2,c2,k2,b2⟩:=Reads.rd (P:=Tryz.prog) (t:=58) (α:=(Sl Event)) (d:=x2.1) (ps:=x2.2) h2;rw[show Tryz.prog.cellsOf 58=1 from by kernel_rfl]at c2
 refine⟨⟨a0,a1,a2⟩,dP.fin (n:=3) (dP.seg (o:=2) (n:=1) (dP.seg (o:=1) (n:=1) (dP.seg (o:=0) (n:=1) (show dP (snap w) [] (cs.take 0)from by simpa using dP.nil) c0) c1) c2) hl,⟨k0,k1,k2,trivial⟩,λb bo=>?_⟩
 have w0:=b0 b bo;have w1:=b1 b bo;have w2:=b2 b bo;show bB.wt a0+bB.wt a1+bB.wt a2+1<=_;simp only[List.map_cons,List.map_nil,List.sum_cons,List.sum_nil];omega
instance UD:Reads Tryz.prog 22 (Sl bt):=Reads.sl (e:=60) Tryz.underlying22 (by kernel_rfl) (by decide)
instance Ux:Reads Tryz.prog 24 Trace:=by
 refine Reads.st Tryz.underlying24 (by kernel_rfl) rfl ?_
 intro H enc w base spare held fuel cs l hl h;simp only[List.mapM_cons,List.mapM_nil,Option.pure_def,Option.bind_eq_bind,ζg,ζa]at h;obtain⟨x0,h0,ys0,rfl,rfl⟩:=h;obtain⟨a0,c0,k0,b0⟩:=Reads.rd (P:=Tryz.prog) (t:=22) (α:=(Sl bt)) (d:=x0.1) (ps:=x0.2) h0;rw[show Tryz.prog.cellsOf 22=1 from by kernel_rfl]at c0
 refine⟨⟨a0⟩,dP.fin (n:=1) (dP.seg (o:=0) (n:=1) (show dP (snap w) [] (cs.take 0)from by simpa using dP.nil) c0) hl,⟨k0,trivial⟩,λb bo=>?_⟩
 have w0:=b0 b bo;show bB.wt a0+1<=_;simp only[List.map_cons,List.map_nil,List.sum_cons,List.sum_nil];omega
instance UH:Reads Tryz.prog 4 Bool:=Reads.bool Tryz.underlying4 (by kernel_rfl)
instance Uw:Reads Tryz.prog 25 (Sl Int):=Reads.sl (e:=3) Tryz.underlying25 (by kernel_rfl) (by decide)
instance Uz:Reads Tryz.prog 36 (Sl (Sl Int)):=Reads.sl (e:=25) Tryz.underlying36 (by kernel_rfl) (by decide)
instance Ur:Reads Tryz.prog 26 (Sl (Sl (Sl Int))):=Reads.sl (e:=36) Tryz.underlying26 (by kernel_rfl) (by decide)
instance UB:Reads Tryz.prog 28 Slice:=by
 refine Reads.st Tryz.underlying28 (by kernel_rfl) rfl ?_
 intro H enc w base spare held fuel cs l hl h;simp only[List.mapM_cons,List.mapM_nil,Option.pure_def,Option.bind_eq_bind,ζg,ζa]at h;obtain⟨x0,h0,ys0,⟨x1,h1,ys1,⟨x2,h2,ys2,⟨x3,h3,ys3,rfl,rfl⟩,rfl⟩,rfl⟩,rfl⟩:=h;obtain⟨a0,c0,k0,b0⟩:=Reads.rd (P:=Tryz.prog) (t:=4) (α:=Bool) (d:=x0.1) (ps:=x0.2) h0;rw[show Tryz.prog.cellsOf 4=1 from by kernel_rfl]at c0
 obtain⟨a1,c1,k1,b1⟩:=Reads.rd (P:=Tryz.prog) (t:=25) (α:=(Sl Int)) (d:=x1.1) (ps:=x1.2) h1;rw[show Tryz.prog.cellsOf 25=1 from by kernel_rfl]at c1
 obtain⟨a2,c2,k2,b2⟩:=Reads.rd (P:=Tryz.prog) (t:=25) (α:=(Sl Int)) (d:=x2.1) (ps:=x2.2) h2;rw[show Tryz.prog.cellsOf 25=1 from by kernel_rfl]at c2
 obtain⟨a3,c3,k3,b3⟩:=Reads.rd (P:=Tryz.prog) (t:=26) (α:=(Sl (Sl (Sl Int)))) (d:=x3.1) (ps:=x3.2) h3;rw[show Tryz.prog.cellsOf 26=1 from by kernel_rfl]at c3
 refine⟨⟨a0,a1,a2,a3⟩,dP.fin (n:=4) (dP.seg (o:=3) (n:=1) (dP.seg (o:=2) (n:=1) (dP.seg (o:=1) (n:=1) (dP.seg (o:=0) (n:=1) (show dP (snap w) [] (cs.take 0)from by simpa using dP.nil) c0) c1) c2) c3) hl,⟨k0,k1,k2,k3,trivial⟩,λb bo=>?_⟩
 have w0:=b0 b bo;have w1:=b1 b bo;have w2:=b2 b bo;have w3:=b3 b bo;show bB.wt a0+bB.wt a1+bB.wt a2+bB.wt a3+1<=_;simp only[List.map_cons,List.map_nil,List.sum_cons,List.sum_nil];omega
end Go.VE.YtimppgndlmehbaaGreat
namespace Go.VE
end Go.VE
namespace Go.VE
abbrev GL {α:Type} (m:Option α):Prop:=Wp m λ_=>True
theorem GL.get {α:Type} {m:Option α} (h:GL m):∃a,m=some a:=let ⟨a,e,_⟩:=h;⟨a,e⟩
theorem GL.ok {m:Option Bool} (h:GL m):m=some (m.getD false):=by obtain⟨a,e,_⟩:=h;rw[e];rfl
def Small (t:Trace):Prop:=t.procs.l.length<1073741824/\∀p∈t.procs.l,p.events.l.length<1073741824/\p.vars.l.length<1073741824/\p.name.size<1073741824/\(∀v∈p.vars.l,v.name.size<1073741824)/\∀e∈p.events.l,e.assign.l.length<1073741824
section
theorem HA {s:Sl Event} {p:Event->Option Bool} {f:Event->Bool} (hp:∀x∈s.l,p x=some (f x)) (hl:s.l.length<1073741824):ec s p=some (place f s.l):=
 oe hp (by omega) (λi=>rfl)
theorem J5 {s:Sl bt} {p:bt->Option Bool} {f:bt->Bool} (hp:∀x∈s.l,p x=some (f x)) (hl:s.l.length<1073741824):eS s p=some (place f s.l):=
 oe hp (by omega) (λi=>rfl)
theorem LI {s:Sl Var} {p:Var->Option Bool} {f:Var->Bool} (hp:∀x∈s.l,p x=some (f x)) (hl:s.l.length<1073741824):eZ s p=some (place f s.l):=
 oe hp (by omega) (λi=>rfl)
theorem F9 {s:Sl Assign} {p:Assign->Option Bool} {f:Assign->Bool} (hp:∀x∈s.l,p x=some (f x)) (hl:s.l.length<1073741824):dO s p=some (place f s.l):=
 oe hp (by omega) (λi=>rfl)
theorem xA {s:Sl Event} {p:Event->Option Bool} {f:Event->Bool} (hp:∀x∈s.l,p x=some (f x)) (hl:s.l.length<1073741824):fM s p=some (s.l.any f):=by
 unfold fM;rw[HA hp hl,ζb,nQ]
theorem Fe {s:Sl bt} {p:bt->Option Bool} {f:bt->Bool} (hp:∀x∈s.l,p x=some (f x)) (hl:s.l.length<1073741824):fZ s p=some (s.l.any f):=by
 unfold fZ;rw[J5 hp hl,ζb,nQ]
theorem Gp {s:Sl Var} {p:Var->Option Bool} {f:Var->Bool} (hp:∀x∈s.l,p x=some (f x)) (hl:s.l.length<1073741824):gE s p=some (s.l.any f):=by
 unfold gE;rw[LI hp hl,ζb,nQ]
theorem BS {s:Sl Assign} {p:Assign->Option Bool} {f:Assign->Bool} (hp:∀x∈s.l,p x=some (f x)) (hl:s.l.length<1073741824):fu s p=some (s.l.any f):=by
 unfold fu;rw[F9 hp hl,ζb,nQ]
theorem nh (x lo hi:Int):lG x lo hi=some (decide (lo<=x)&&decide (x<=hi)):=by
 unfold lG;rw[kQ];rfl
theorem ID {s:ByteArray} {i:Nat} (h:i<s.size):∃x,jy s (i:Int)=some x:=by
 unfold jy;rw[if_pos (by omega)]
 exact⟨_,by rw[show (s[(i:Int).toNat]?)=some s[i]from by simp[h]];rfl⟩
def jC (n:Nat) (p:Int) (e:Event):Prop:=e.kind=1\/((e.kind=2\/e.kind=3)/\0<=e.peer/\e.peer<n/\e.peer≠p/\0<=e.message/\e.message<=199)
end
end Go.VE
namespace Go.VE
def jG (t:Trace) (p k:Nat) (e:Event):Prop:=∃P,t.procs.l[p]? = some P/\P.events.l[k]? = some e
theorem sL {p:Int} {x:aa×Event}:∀{es:List Event} {j:Int},x∈gz p j es↔∃k:Nat,es[k]? = some x.2/\x.1=⟨p,j+k+1⟩
 | [],j=>by simp[gz]
 | e::es,j=>by
  simp only[gz,List.mem_cons,sL (es:=es)];constructor
  .rintro (rfl|⟨k,h1,h2⟩)
   .exact⟨0,rfl,by simp⟩
   .exact⟨k+1,by simpa using h1,by rw[h2];congr 1;push_cast;omega⟩
  .rintro⟨k,h1,h2⟩
   cases k with
   | zero=>
    simp at h1;exact .inl (by obtain⟨a,b⟩:=x;simp only at h1 h2;rw[h1,h2];simp)
   | succ k=>exact .inr ⟨k,by simpa using h1,by rw[h2];congr 1;push_cast;omega⟩
theorem tc {x:aa×Event}:∀{ps:List bt} {i:Int},x∈dW i ps↔∃(a k:Nat) (P:bt),ps[a]? = some P/\P.events.l[k]? = some x.2/\x.1=⟨i+a,k+1⟩
 | [],i=>by simp[dW]
 | p::ps,i=>by
  simp only[dW,List.mem_append,sL,tc (ps:=ps)];constructor
  .rintro (⟨k,h1,h2⟩|⟨a,k,P,h1,h2,h3⟩)
   .exact⟨0,k,p,rfl,h1,by rw[h2];simp⟩
   .exact⟨a+1,k,P,by simpa using h1,h2,by rw[h3];congr 1;push_cast;omega⟩
  .rintro⟨a,k,P,h1,h2,h3⟩
   cases a with
   | zero=>
    simp at h1;subst h1;exact .inl ⟨k,h2,by rw[h3];simp⟩
   | succ a=>exact .inr ⟨a,k,P,by simpa using h1,h2,by rw[h3];congr 1;push_cast;omega⟩
abbrev aV (t:Trace):List (aa×Event):=dW 0 t.procs.l
theorem dg {t:Trace} {x:aa×Event}:x∈aV t↔∃p k:Nat,jG t p k x.2/\x.1=⟨p,k+1⟩:=by
 unfold aV;rw[tc];constructor
 .rintro⟨a,k,P,h1,h2,h3⟩;exact⟨a,k,⟨P,h1,h2⟩,by rw[h3];simp⟩
 .rintro⟨a,k,⟨P,h1,h2⟩,h3⟩;exact⟨a,k,P,h1,h2,by rw[h3];simp⟩
theorem Az {t:Trace} {x y:aa×Event} (hx:x∈aV t) (hy:y∈aV t) (h:x.1=y.1):x=y:=by
 obtain⟨p,k,⟨P,hP,hk⟩,e1⟩:=dg.1 hx;obtain⟨q,j,⟨Q,hQ,hj⟩,e2⟩:=dg.1 hy;obtain⟨a,e⟩:=x;obtain⟨b,f⟩:=y;simp only at *;subst h;rw[e1]at e2;simp only[aa.mk.injEq]at e2;have hpq:p=q:=by omega
 have hkj:k=j:=by omega
 subst hpq hkj;rw[hP]at hQ;cases hQ;rw[hk]at hj;cases hj;rfl
theorem tQ {t:Trace} (hS:Small t):gQ t=some (aV t):=by
 unfold gQ;rw[if_pos];simp only[DY,ζh,List.all_eq_true,decide_eq_true_eq];exact⟨by have:=hS.1;omega,λp hp=>by have:=(hS.2 p hp).1;omega⟩
def qO (t:Trace) (p m to:Int):Bool:=match t.procs.l[p.toNat]? with
 | some P=>P.events.l.any λe=>e.kind==2&&e.message==m&&e.peer==to
 | none=>false
theorem Nr {t:Trace} (hS:Small t) {p:Int} (h0:0<=p) (h1:p<t.procs.l.length) (m to:Int):sC t p m to=some (qO t p m to):=by
 unfold sC;have hlt:p.toNat<t.procs.l.length:=by omega
 have hP:=List.getElem_mem hlt;rw[Rh h0,ζd hlt,ζb,xA (f:=λe=>e.kind==2&&e.message==m&&e.peer==to) (λe _=>by
  unfold ox;simp only[kQ,ζb]) (hS.2 _ hP).1,ζb]
 unfold qO;rw[ζd hlt]
theorem AT {t:Trace} {p:Nat} {m to:Int}:qO t p m to=true↔∃k e,jG t p k e/\e.kind=2/\e.message=m/\e.peer=to:=by
 unfold qO jG;rw[show ((p:Nat):Int).toNat=p from rfl]
 cases hP:t.procs.l[p]? with
 | none=>simp
 | some P=>
  simp only[List.any_eq_true,ζh,beq_iff_eq,ζa,exists_eq_left'];constructor
  .rintro⟨e,he,h⟩;obtain⟨k,hk⟩:=List.getElem?_of_mem he;exact⟨k,e,hk,h.1.1,h.1.2,h.2⟩
  .rintro⟨k,e,hk,h1,h2,h3⟩;exact⟨e,List.mem_of_getElem? hk,⟨h1,h2⟩,h3⟩
def ag (A:bg 200 ay) (m:Int):ay:=(A.at m).getD default
theorem IS (A:bg 200 ay) {m:Int} (h0:0<=m) (h1:m<=199):A.at m=some (ag A m):=by
 have:m.toNat<A.l.length:=by rw[A.len];omega
 unfold ag bg.at;rw[if_pos h0,ζd this];rfl
theorem pg (A:bg 200 ay) {m m':Int} (x:ay) (h0:0<=m) (h1:m<=199) (h2:0<=m'):ag (A.set m x) m'=if m'=m then x else ag A m':=by
 have:m.toNat<A.l.length:=by rw[A.len];omega
 unfold ag bg.at bg.set;simp only[if_pos h2];rw[List.getElem?_set]
 by_cases e:m'=m
 .subst e;simp[this]
 .rw[if_neg (by omega),if_neg e]
theorem K_ {m:Int} (h0:0<=m) (h1:m<=199):ag (bg.K2 200 (⟨⟨0,0⟩,⟨0,0⟩⟩:ay)) m=⟨⟨0,0⟩,⟨0,0⟩⟩:=by
 unfold ag bg.at bg.K2;simp only[if_pos h0];rw[List.getElem?_replicate,if_pos (by omega)];rfl
structure fh (t:Trace) (its:List (aa×Event)) (A:bg 200 ay):Prop where
 snd:∀x∈its,x.2.kind=2->(ag A x.2.message).from_=x.1
 rcv:∀x∈its,x.2.kind=3->(ag A x.2.message).to_=x.1/\qO t x.2.peer x.2.message x.1.proc=true
 fr:∀m,0<=m->m<=199->(ag A m).from_.index=0\/∃e,((ag A m).from_,e)∈its/\e.kind=2/\e.message=m
 to:∀m,0<=m->m<=199->(ag A m).to_.index=0\/∃e,((ag A m).to_,e)∈its/\e.kind=3/\e.message=m
def IZ (a b:aa×Event):Prop:=a.1.proc<b.1.proc\/a.1.proc=b.1.proc/\a.1.index<b.1.index
theorem JP {p:Int}:∀{es:List Event} {j:Int},(gz p j es).Pairwise IZ
 | [],_=>List.Pairwise.nil
 | e::es,j=>by
  simp only[gz,List.pairwise_cons];refine⟨λb hb=>?_,JP⟩
  obtain⟨k,_,h2⟩:=sL.1 hb;refine .inr ⟨by rw[h2],?_⟩
  rw[h2];dsimp only;omega
theorem Eh:∀{ps:List bt} {i:Int},(dW i ps).Pairwise IZ
 | [],_=>List.Pairwise.nil
 | P::ps,i=>by
  simp only[dW,List.pairwise_append];refine⟨JP,Eh,λa ha b hb=>.inl ?_⟩
  obtain⟨k,_,h2⟩:=sL.1 ha;obtain⟨c,j,P,_,_,h3⟩:=tc.1 hb;rw[h2,h3];dsimp only;omega
theorem El {t:Trace} {k:Nat} {x y:aa×Event} (hx:(aV t)[k]? = some x) (hy:y∈(aV t).take k):y.1≠x.1:=by
 obtain⟨h1,h2⟩:=ζe.1 hx;have hp:((aV t).take k++(aV t).drop k).Pairwise IZ:=by rw[List.take_append_drop];exact Eh
 have:=(List.pairwise_append.1 hp).2.2 y hy x (by rw[List.drop_eq_getElem_cons h1,h2];exact List.mem_cons_self ..)
 intro e;unfold IZ at this;rw[e]at this;omega
structure vP (t:Trace):Prop where
 snd:∀x∈aV t,∀y∈aV t,x.2.kind=2->y.2.kind=2->x.2.message=y.2.message->x.1=y.1
 rcv:∀x∈aV t,∀y∈aV t,x.2.kind=3->y.2.kind=3->x.2.message=y.2.message->x.1=y.1
 has:∀x∈aV t,x.2.kind=3->qO t x.2.peer x.2.message x.1.proc=true
theorem fh.JW {t:Trace} {A:bg 200 ay} (h:fh t (aV t) A):vP t:=
 ⟨λx hx y hy k2 k2' hm=>by rw[<-h.snd x hx k2,<-h.snd y hy k2',hm],λx hx y hy k2 k2' hm=>by rw[<-(h.rcv x hx k2).1,<-(h.rcv y hy k2').1,hm],λx hx k=>(h.rcv x hx k).2⟩
theorem BK {t:Trace} (hS:Small t) (hF:∀x∈aV t,jC t.procs.l.length x.1.proc x.2):Wp (c9 t) λr=>(r.2.2=0->∃A,r.1=some A/\fh t (aV t) A)/\(vP t->r.2.2=0):=by
 unfold c9 iR;rw[ζb];unfold c9.E1;rw[tQ hS,ζb];refine zg (λk A=>fh t ((aV t).take k) A) ⟨by simp,by simp,λm h0 h1=>.inl (by rw[K_ h0 h1]),λm h0 h1=>.inl (by rw[K_ h0 h1])⟩ ?_ ?_
 .intro k x A hx hI;have hxm:x∈aV t:=List.mem_of_getElem? hx;have hkl:k<(aV t).length:=(ζe.1 hx).1;have htk:(aV t).take (k+1)=(aV t).take k++[x]:=by rw[List.take_add_one,hx];rfl
  obtain⟨p,j,hat,hid⟩:=dg.1 hxm;have hxi:x.1.index>0:=by rw[hid];show (j:Int)+1>0;omega
  have hf:=hF x hxm;unfold c9.qG;rw[bh];constructor
  .intro hk;have hk2:x.2.kind=2:=by simpa using hk
   have hm:0<=x.2.message/\x.2.message<=199:=by
    rcases hf with h|⟨_,_,_,_,h⟩
    .omega
    .exact h
   rw[IS A hm.1 hm.2,ζb,bh];refine⟨λhg=>(ah _).2 ((ah _).2 ⟨λh=>(by cases h),λhp=>?_⟩),λh0=>?_⟩
   .rcases hI.fr _ hm.1 hm.2 with hg'|⟨e,he,hk',hm'⟩
    .simp[hg']at hg
    .exact absurd (hp.snd _ (List.mem_of_mem_take he) x hxm hk' hk2 hm') (El hx he)
   have h0:¬(ag A x.2.message).from_.index>0:=by simpa using h0
   rw[ζb,ah,htk];have old:∀y∈(aV t).take k,y.2.kind=2->y.2.message≠x.2.message:=λy hy hy2 he=>by
    have:=hI.snd y hy hy2;rw[he]at this;rw[this]at h0;obtain⟨p',j',_,hid'⟩:=dg.1 (List.mem_of_mem_take hy);rw[hid']at h0;exact h0 (by show (j':Int)+1>0;omega)
   have nn:∀y∈(aV t).take k,y.2.kind=2\/y.2.kind=3->0<=y.2.message:=λy hy hy2=>by
    rcases hF y (List.mem_of_mem_take hy)with h|⟨_,_,_,_,h,_⟩
    .omega
    .exact h
   refine⟨λy hy hy2=>?_,λy hy hy3=>?_,λm m0 m1=>?_,λm m0 m1=>?_⟩
   .rcases List.mem_append.1 hy with hy|hy
    .rw[pg A _ hm.1 hm.2 (nn y hy (.inl hy2)),if_neg (old y hy hy2)];exact hI.snd y hy hy2
    .simp at hy;subst hy;rw[pg A _ hm.1 hm.2 hm.1,if_pos rfl]
   .rcases List.mem_append.1 hy with hy|hy
    .rw[pg A _ hm.1 hm.2 (nn y hy (.inr hy3))];have:=hI.rcv y hy hy3;split
     .rename_i e;rw[e]at this;exact⟨this.1,by rw[e];exact this.2⟩
     .exact this
    .simp at hy;subst hy;omega
   .rw[pg A _ hm.1 hm.2 m0];split
    .rename_i e;exact .inr ⟨x.2,by simp,hk2,e.symm⟩
    .exact(hI.fr m m0 m1).imp (λh=>h) λ⟨e,h1,h2⟩=>⟨e,List.mem_append_left _ h1,h2⟩
   .rw[pg A _ hm.1 hm.2 m0];have:=(hI.to m m0 m1).imp (λh=>h) λ⟨e,h1,h2⟩=>(⟨e,List.mem_append_left [x] h1,h2⟩:∃e,((ag A m).to_,e)∈(aV t).take k++[x]/\e.kind=3/\e.message=m)
    split
    .rename_i e;subst e;exact this
    .exact this
  .intro hk;have hk2:¬x.2.kind=2:=by simpa using hk
   rw[bh];constructor
   .intro hk;have hk3:x.2.kind=3:=by simpa using hk
    have hm:0<=x.2.message/\x.2.message<=199/\0<=x.2.peer/\x.2.peer<t.procs.l.length:=by
     rcases hf with h|⟨_,h1,h2,_,h3,h4⟩
     .omega
     .exact⟨h3,h4,h1,h2⟩
    rw[IS A hm.1 hm.2.1,ζb,bh];refine⟨λhg=>(ah _).2 ((ah _).2 ⟨λh=>(by cases h),λhp=>?_⟩),λh0=>?_⟩
    .rcases hI.to _ hm.1 hm.2.1 with hg'|⟨e,he,hk',hm'⟩
     .simp[hg']at hg
     .exact absurd (hp.rcv _ (List.mem_of_mem_take he) x hxm hk' hk3 hm') (El hx he)
    have h0:¬(ag A x.2.message).to_.index>0:=by simpa using h0
    rw[Nr hS hm.2.2.1 hm.2.2.2,ζb,bh];refine⟨λhs=>?_,λhs=>(ah _).2 ((ah _).2 ⟨λh=>(by cases h),λhp=>by rw[hp.has x hxm hk3]at hs;cases hs⟩)⟩
    rw[ζb,ah,htk];have old:∀y∈(aV t).take k,y.2.kind=3->y.2.message≠x.2.message:=λy hy hy2 he=>by
     have:=(hI.rcv y hy hy2).1;rw[he]at this;rw[this]at h0;obtain⟨p',j',_,hid'⟩:=dg.1 (List.mem_of_mem_take hy);rw[hid']at h0;exact h0 (by show (j':Int)+1>0;omega)
    have nn:∀y∈(aV t).take k,y.2.kind=2\/y.2.kind=3->0<=y.2.message:=λy hy hy2=>by
     rcases hF y (List.mem_of_mem_take hy)with h|⟨_,_,_,_,h,_⟩
     .omega
     .exact h
    refine⟨λy hy hy2=>?_,λy hy hy3=>?_,λm m0 m1=>?_,λm m0 m1=>?_⟩
    .rcases List.mem_append.1 hy with hy|hy
     .rw[pg A _ hm.1 hm.2.1 (nn y hy (.inl hy2))];have:=hI.snd y hy hy2;split
      .rename_i e;rw[e]at this;exact this
      .exact this
     .simp at hy;subst hy;omega
    .rcases List.mem_append.1 hy with hy|hy
     .rw[pg A _ hm.1 hm.2.1 (nn y hy (.inr hy3)),if_neg (old y hy hy3)];exact hI.rcv y hy hy3
     .simp at hy;subst hy;rw[pg A _ hm.1 hm.2.1 hm.1,if_pos rfl];exact⟨rfl,hs⟩
    .rw[pg A _ hm.1 hm.2.1 m0];have:=(hI.fr m m0 m1).imp (λh=>h) λ⟨e,h1,h2⟩=>(⟨e,List.mem_append_left [x] h1,h2⟩:∃e,((ag A m).from_,e)∈(aV t).take k++[x]/\e.kind=2/\e.message=m)
     split
     .rename_i e;subst e;exact this
     .exact this
    .rw[pg A _ hm.1 hm.2.1 m0];split
     .rename_i e;exact .inr ⟨x.2,by simp,hk3,e.symm⟩
     .exact(hI.to m m0 m1).imp (λh=>h) λ⟨e,h1,h2⟩=>⟨e,List.mem_append_left _ h1,h2⟩
   .intro hk;have hk3:¬x.2.kind=3:=by simpa using hk
    rw[ah,htk];refine⟨λy hy hy2=>?_,λy hy hy3=>?_,λm m0 m1=>?_,λm m0 m1=>?_⟩
    .rcases List.mem_append.1 hy with hy|hy
     .exact hI.snd y hy hy2
     .simp at hy;subst hy;exact absurd hy2 hk2
    .rcases List.mem_append.1 hy with hy|hy
     .exact hI.rcv y hy hy3
     .simp at hy;subst hy;exact absurd hy3 hk3
    .exact(hI.fr m m0 m1).imp (λh=>h) λ⟨e,h1,h2⟩=>⟨e,List.mem_append_left _ h1,h2⟩
    .exact(hI.to m m0 m1).imp (λh=>h) λ⟨e,h1,h2⟩=>⟨e,List.mem_append_left _ h1,h2⟩
 .intro A hA;rw[List.take_length]at hA;exact(ah _).2 ⟨λ_=>⟨A,rfl,hA⟩,λ_=>rfl⟩
end Go.VE
namespace Go.VE
def gF (f:Nat->Bool) (k n:Nat):Bool:=(List.range' k (n-k)).any f
theorem Df {f:Nat->Bool} {k n:Nat} (h:k<n):gF f k n=(f k||gF f (k+1) n):=by
 unfold gF;rw[show n-k=(n-(k+1))+1 from by omega,List.range'_succ];rfl
theorem MV {f:Nat->Bool} {k n:Nat} (h:n<=k):gF f k n=false:=by
 unfold gF;rw[show n-k=0 from by omega];rfl
theorem LZ {f:Nat->Bool} {k n:Nat}:gF f k n=true↔∃i,k<=i/\i<n/\f i=true:=by
 unfold gF;rw[List.any_eq_true];constructor
 .rintro⟨i,hi,hf⟩;rw[List.mem_range'_1]at hi;exact⟨i,hi.1,by omega,hf⟩
 .rintro⟨i,h1,h2,hf⟩;exact⟨i,by rw[List.mem_range'_1];omega,hf⟩
theorem B3 {step:Int->Option (Fw Int Unit Unit)} {n:Nat} (f:Nat->Bool) (hn:n<9223372036854775807) (h1:∀i:Nat,i<n->step i=some (if f i then .r ()else .n (IntKind.wrap .i64 ((i:Int)+1)))) (h2:step (n:Int)=some (.x ())) :
 ∀m k:Nat,k+m=n->aK step (k:Int)=some (if gF f k n then .r ()else .x ()):=by
 intro m
 induction m with
 | zero=>
  intro k hk;have:k=n:=by omega
  subst this;rw[fN,h2,MV (Nat.le_refl _)];rfl
 | succ m ih=>
  intro k hk;rw[fN,h1 k (by omega),Df (by omega)]
  cases hf:f k with
  | true=>rfl
  | false=>
   simp only[Bool.false_eq_true,if_false,ζb,Bool.false_or];rw[bq k (by omega)]
   exact ih (k+1) (by omega)
def mK (g:Nat->Int) (k n:Nat):Int:=match (List.range' k (n-k)).find? λi => !(g i==0)with
 | some i=>g i
 | none=>0
theorem Jw {g:Nat->Int} {k n:Nat} (h:k<n):mK g k n=if g k=0 then mK g (k+1) n else g k:=by
 unfold mK;rw[show n-k=(n-(k+1))+1 from by omega,List.range'_succ,List.find?_cons]
 by_cases h0:g k=0
 .simp[h0]
 .rw[if_neg h0,show (!(g k==0))=true from by simp[h0]]
theorem LP {g:Nat->Int} {k n:Nat} (h:n<=k):mK g k n=0:=by
 unfold mK;rw[show n-k=0 from by omega];rfl
theorem Pt {step:Int->Option (Fw Int Unit Int)} {n:Nat} (g:Nat->Int) (hn:n<9223372036854775807) (h1:∀i:Nat,i<n->step i=some (if g i=0 then .n (IntKind.wrap .i64 ((i:Int)+1))else .r (g i))) (h2:step (n:Int)=some (.x ())) :
 ∀m k:Nat,k+m=n->aK step (k:Int)=some (if mK g k n=0 then .x ()else .r (mK g k n)):=by
 intro m
 induction m with
 | zero=>
  intro k hk;have:k=n:=by omega
  subst this;rw[fN,h2,LP (Nat.le_refl _)];rfl
 | succ m ih=>
  intro k hk;rw[fN,h1 k (by omega),Jw (by omega)]
  by_cases h0:g k=0
  .simp only[h0,if_true,ζb];rw[bq k (by omega)]
   exact ih (k+1) (by omega)
  .simp only[h0,if_false,ζb]
theorem wD {step:Int->Option (Fw Int Unit Int)} {n:Nat} (g:Nat->Int) (hn:n<9223372036854775807) (h1:∀i:Nat,i<n->step i=some (if g i=0 then .n (IntKind.wrap .i64 ((i:Int)+1))else .r (g i))) (h2:step (n:Int)=some (.x ())):aK step 0=some (if mK g 0 n=0 then .x ()else .r (mK g 0 n)):=Pt g hn h1 h2 n 0 (by omega)
theorem AM {step:Int->Option (Fw Int Unit Unit)} {n:Nat} (f:Nat->Bool) (hn:n<9223372036854775807) (h1:∀i:Nat,i<n->step i=some (if f i then .r ()else .n (IntKind.wrap .i64 ((i:Int)+1)))) (h2:step (n:Int)=some (.x ())):aK step 0=some (if gF f 0 n then .r ()else .x ()):=B3 f hn h1 h2 n 0 (by omega)
def vD (c:Int):Bool:=decide (c>=65)&&decide (c<=90)||decide (c>=97)&&decide (c<=122)
def AD (c:Int):Bool:=decide (c>=48)&&decide (c<=57)
theorem Bd (c:Int):ot c=some (vD c):=by
 unfold ot vD;simp only[kQ,iA,ζb];rw[Bool.or_comm]
theorem Bz (c:Int):mW c=some (vD c):=by
 unfold mW vD;simp only[kQ,iA,ζb]
theorem JB (c:Int):sK c=some (AD c):=by
 unfold sK AD;simp only[kQ,ζb]
theorem Kp (c:Int):qI c=some (AD c):=by
 unfold qI AD;simp only[kQ,ζb]
def uY (s:ByteArray) (i:Nat):Int:=(jy s (i:Int)).getD 0
theorem AO {s:ByteArray} {i:Nat} (h:i<s.size):jy s (i:Int)=some (uY s i):=by
 obtain⟨x,hx⟩:=ID h;unfold uY;rw[hx];rfl
def qR (s:ByteArray) (i:Nat):Bool := !vD (uY s i) && !AD (uY s i) && !(uY s i==95)
def j9 (s:ByteArray):Bool:=decide (1<=s.size)&&decide (s.size<=16)&&vD (uY s 0) && !gF (qR s) 0 s.size
theorem Jk {s:ByteArray} {i:Nat} (h:i<s.size):eM.an s (s.size:Int) i=some (if qR s i then .r ()else .n (IntKind.wrap .i64 ((i:Int)+1))):=by
 unfold eM.an qR;rw[show decide ((i:Int)<(s.size:Int))=true from by simpa using h,aL,AO h]
 simp only[ζb,Bd,JB];cases vD (uY s i) <;> cases AD (uY s i) <;> cases (uY s i==95) <;> rfl
theorem HH {s:ByteArray} {i:Nat} (h:i<s.size):fG.an s i=some (if qR s i then .r ()else .n (IntKind.wrap .i64 ((i:Int)+1))):=by
 unfold fG.an qR;rw[show decide ((i:Int)<((ByteArray.size s:Nat):Int))=true from by simpa using h,aL,AO h]
 simp only[ζb,Bz,Kp];cases vD (uY s i) <;> cases AD (uY s i) <;> cases (uY s i==95) <;> rfl
theorem toList_empty {s:ByteArray}:(ByteArray.toList s==ByteArray.toList ByteArray.empty)=decide (s.size=0):=by
 rw[Bool.eq_iff_iff,beq_iff_eq,decide_eq_true_eq];constructor
 .intro h;have h1:(ByteArray.toList s).length=s.size:=by rw[Go.ByteArray.toList_eq];simp
  rw[<-h1,h];rw[Go.ByteArray.toList_eq];rfl
 .intro h;have:s=ByteArray.empty:=by
   apply ByteArray.ext;exact Array.eq_empty_of_size_eq_zero h
  rw[this]
theorem CL {s:ByteArray} (hs:s.size<1073741824):eM s=some (j9 s):=by
 unfold eM;rw[toList_empty];simp only[iA,ζb]
 by_cases h0:s.size=0
 .simp[h0,j9,aj]
 by_cases h16:s.size<=16
 .have hc:(decide (s.size=0)||decide (((ByteArray.size s:Nat):Int)>16))=false:=by simp[h0];omega
  rw[hc,aQ,show (0:Int)=((0:Nat):Int)from rfl,AO (show 0<s.size by omega)]
  simp only[ζb,Bd]
  cases hl:vD (uY s 0)with
  | false=>simp[j9,hl,aj]
  | true=>
   simp only[Bool.not_true,aQ];unfold eM.W1;rw[B3 (n:=s.size) (qR s) (by omega) (λi hi=>Jk hi) (by unfold eM.an;simp[aj]) s.size 0 (by omega)]
   have:j9 s = !gF (qR s) 0 s.size:=by simp[j9,hl,h16];omega
   rw[this];cases gF (qR s) 0 s.size <;> rfl
 .have hc:(decide (s.size=0)||decide (((ByteArray.size s:Nat):Int)>16))=true:=by simp;omega
  rw[hc,aL];simp[j9,h16,aj]
theorem FO {s:ByteArray} (hs:s.size<1073741824):fG s=some (j9 s):=by
 unfold fG;simp only[iA,ζb]
 by_cases h0:s.size=0
 .simp[h0,j9,aj]
 by_cases h16:s.size<=16
 .have hc:(decide (((ByteArray.size s:Nat):Int)<1)||decide (((ByteArray.size s:Nat):Int)>16))=false:=by simp;omega
  rw[hc,aQ,show (0:Int)=((0:Nat):Int)from rfl,AO (show 0<s.size by omega)]
  simp only[ζb,Bz]
  cases hl:vD (uY s 0)with
  | false=>simp[j9,hl,aj]
  | true=>
   simp only[Bool.not_true,aQ];unfold fG.W1;rw[show (1:Int)=((1:Nat):Int)from rfl,B3 (n:=s.size) (qR s) (by omega) (λi hi=>HH hi) (by unfold fG.an;simp[aj]) (s.size-1) 1 (by omega)]
   have hb0:qR s 0=false:=by simp[qR,hl]
   have:j9 s = !gF (qR s) 1 s.size:=by
    have h1:=Df (f:=qR s) (show 0<s.size by omega)
    rw[hb0]at h1;simp[j9,hl,h16,h1];omega
   rw[this];cases gF (qR s) 1 s.size <;> rfl
 .have hc:(decide (((ByteArray.size s:Nat):Int)<1)||decide (((ByteArray.size s:Nat):Int)>16))=true:=by simp;omega
  rw[hc,aL];simp[j9,h16,aj]
end Go.VE
namespace Go.VE
def fO {α:Type} (l:List α) (f:α->Bool) (i:Nat):Bool:=match l[i]? with|some y=>f y|none=>false
theorem yY {α:Type} {l:List α} {f:α->Bool} {i:Nat} (h:i<l.length):fO l f i=f l[i]:=by unfold fO;rw[ζd h]
theorem Ag {α:Type} {l:List α} {f:α->Bool} {p:Nat}:(l.take p).any f=gF (fO l f) 0 p:=by
 rw[Bool.eq_iff_iff,List.any_eq_true,LZ];constructor
 .rintro⟨x,hx,hf⟩;obtain⟨i,hi⟩:=List.getElem?_of_mem hx;have hl:=(ζe.1 hi).1;rw[List.length_take]at hl;rw[List.getElem?_take,if_pos (by omega)]at hi
  exact⟨i,Nat.zero_le _,by omega,by unfold fO;rw[hi];exact hf⟩
 .rintro⟨i,_,hi,hf⟩;unfold fO at hf;split at hf
  .rename_i y hy;exact⟨y,List.mem_of_getElem? (i:=i) (by rw[List.getElem?_take,if_pos hi];exact hy),hf⟩
  .cases hf
def pP (a b:ByteArray):Bool:=ByteArray.toList a==ByteArray.toList b
def Q6:Bool->Bool->Bool->Int
 | true,false,true=>0
 | true,false,false=>2
 | _,_,_=>13
def sQ (P:bt) (i:Nat):Int:=match P.vars.l[i]? with
 | some v=>Q6 (j9 v.name) (gF (fO P.vars.l λw=>pP w.name v.name) 0 i) (decide (v.init_>=-1073741824)&&decide (v.init_<=1073741824))
 | none=>0
def rM (t:Trace) (p:Nat):Int:=match t.procs.l[p]? with
 | some P=>if j9 P.name && !gF (fO t.procs.l λy=>pP y.name P.name) 0 p then
  (if P.vars.l.length>8 then 5 else if mK (sQ P) 0 P.vars.l.length=0 then(if P.events.l.length>64 then 5 else 0)else mK (sQ P) 0 P.vars.l.length)else 13
 | none=>0
theorem Dg {P:bt} {i:Nat} (h:i<P.vars.l.length):sQ P i=Q6 (j9 P.vars.l[i].name) (gF (fO P.vars.l λw=>pP w.name P.vars.l[i].name) 0 i) (decide (P.vars.l[i].init_>=-1073741824)&&decide (P.vars.l[i].init_<=1073741824)):=by
 unfold sQ;rw[ζd h]
theorem C6 (n:Int):n_ n=some (decide (n>=-1073741824)&&decide (n<=1073741824)):=by
 unfold n_;rw[kQ];rfl
theorem LF {t:Trace} (hS:Small t) {p:Nat} (hp:p<t.procs.l.length):c_ t p=some (rM t p):=by
 have hP:=hS.2 _ (List.getElem_mem hp);have h1:=hS.1;unfold c_ rM;rw[aD hp,ζb,ζd hp];generalize hPe:t.procs.l[p]=P at *;obtain⟨hPev,hPv,hPn,hPvn,_⟩:=hP;rw[CL hPn,ζb];obtain⟨x,hx,hxl⟩:=qd t.procs p (by omega)
 have hdup:fZ x (λz=>iw z P)=some (gF (fO t.procs.l λy=>pP y.name P.name) 0 p):=by
  rw[Fe (p:=λz=>iw z P) (f:=λy=>pP y.name P.name) (λy _=>rfl) (by rw[hxl,List.length_take];omega),hxl,Ag]
 rw[hx,ζb,hdup,ζb];dsimp only
 cases hn:j9 P.name with
 | false=>simp[aj]
 | true=>
  rw[aL,ζb,Bool.true_and]
  cases hd:gF (fO t.procs.l λy=>pP y.name P.name) 0 p with
  | true=>simp[aj]
  | false=>
   rw[aQ];simp only[Bool.not_false,if_true]
   by_cases h8:P.vars.l.length>8
   .rw[show decide (len P.vars>8)=true from by simp[len];omega,aL,if_pos h8]
   .rw[show decide (len P.vars>8)=false from by simp[len];omega,aQ,if_neg h8]
    unfold c_.W1;rw[wD (n:=P.vars.l.length) (sQ P) (by omega) (λi hi=>?_) (by unfold c_.an;simp[aj,len])]
    .by_cases he:mK (sQ P) 0 P.vars.l.length=0
     .rw[if_pos he,if_pos he];show aj (decide (len P.events>64)) (some 5) (some 0)=_;rw[rG];simp only[len,decide_eq_true_eq]
      by_cases h64:P.events.l.length>64
      .rw[if_pos h64,if_pos (by omega)]
      .rw[if_neg h64,if_neg (by omega)]
     .rw[if_neg he,if_neg he];rfl
    .unfold c_.an;rw[Dg hi,show decide ((i:Int)<len P.vars)=true from by simp[len];exact hi,aL,aD hi,ζb]
     have hv:=hPvn _ (List.getElem_mem hi);obtain⟨y,hy,hyl⟩:=qd P.vars i (by omega)
     have hdv:gE y (λz=>ir z P.vars.l[i])=some (gF (fO P.vars.l λw=>pP w.name P.vars.l[i].name) 0 i):=by
      rw[Gp (p:=λz=>ir z P.vars.l[i]) (f:=λw=>pP w.name P.vars.l[i].name) (λw _=>rfl) (by rw[hyl,List.length_take];omega),hyl,Ag]
     rw[CL hv,ζb,hy,ζb,hdv,ζb,nh];have hr:(decide (-1073741824<=P.vars.l[i].init_)&&decide (P.vars.l[i].init_<=1073741824))=(decide (P.vars.l[i].init_>=-1073741824)&&decide (P.vars.l[i].init_<=1073741824)):=rfl;rw[hr];generalize j9 P.vars.l[i].name=A;generalize gF (fO P.vars.l λw=>pP w.name P.vars.l[i].name) 0 i=B
     generalize (decide (P.vars.l[i].init_>=-1073741824)&&decide (P.vars.l[i].init_<=1073741824))=C;cases A <;> cases B <;> cases C <;> rfl
theorem M_ {t:Trace} (hS:Small t) {p:Nat} (hp:p<t.procs.l.length):cT t p=some (rM t p):=by
 have hP:=hS.2 _ (List.getElem_mem hp);have h1:=hS.1;unfold cT rM;rw[aD hp,ζb,ζd hp];generalize hPe:t.procs.l[p]=P at *;obtain⟨hPev,hPv,hPn,hPvn,_⟩:=hP;rw[FO hPn,ζb];dsimp only
 cases hn:j9 P.name with
 | false=>simp[aj]
 | true=>
  rw[aL,Bool.true_and];unfold cT.W1;rw[AM (n:=p) (fO t.procs.l λy=>pP y.name P.name) (by omega) (λi hi=>?_) (by unfold cT.an;simp[aj])]
  .cases hd:gF (fO t.procs.l λy=>pP y.name P.name) 0 p with
   | true=>rfl
   | false=>
    simp only[Bool.not_false,if_true];show aj (decide (len P.vars>8)) (some 5) (cT.W2 0 P)=_
    by_cases h8:P.vars.l.length>8
    .rw[show decide (len P.vars>8)=true from by simp[len];omega,aL,if_pos h8]
    .rw[show decide (len P.vars>8)=false from by simp[len];omega,aQ,if_neg h8]
     unfold cT.W2;rw[wD (n:=P.vars.l.length) (sQ P) (by omega) (λi hi=>?_) (by unfold cT.aY;simp[aj,len])]
     .by_cases he:mK (sQ P) 0 P.vars.l.length=0
      .rw[if_pos he,if_pos he];show aj (decide (len P.events>64)) (some 5) (some 0)=_;rw[rG];simp only[len,decide_eq_true_eq]
       by_cases h64:P.events.l.length>64
       .rw[if_pos h64,if_pos (by omega)]
       .rw[if_neg h64,if_neg (by omega)]
      .rw[if_neg he,if_neg he];rfl
     .unfold cT.aY;rw[Dg hi,show decide ((i:Int)<len P.vars)=true from by simp[len];exact hi,aL,aD hi,ζb]
      rw[FO (hPvn _ (List.getElem_mem hi)),ζb];have h3:cT.W3 i 0 P=if gF (fO P.vars.l λw=>pP w.name P.vars.l[i].name) 0 i then some (.r 13)else(if decide (P.vars.l[i].init_>=-1073741824)&&decide (P.vars.l[i].init_<=1073741824)then some (.n (IntKind.wrap .i64 ((i:Int)+1)))else some (.r 2)):=by
       unfold cT.W3;rw[AM (n:=i) (fO P.vars.l λw=>pP w.name P.vars.l[i].name) (by omega) (λj hj=>?_) (by unfold cT.cI;simp[aj])]
       .cases gF (fO P.vars.l λw=>pP w.name P.vars.l[i].name) 0 i with
        | true=>rfl
        | false=>
         show (idx P.vars (i:Int)).bind _=_;rw[aD hi,ζb,C6,ζb];cases (decide (P.vars.l[i].init_>=-1073741824)&&decide (P.vars.l[i].init_<=1073741824)) <;> rfl
       .unfold cT.cI;have hjl:j<P.vars.l.length:=by omega
        rw[show decide ((j:Int)<(i:Int))=true from by simpa using hj,aL,aD hjl,ζb,aD hi,ζb,yY hjl,rG];rfl
      rw[h3];generalize j9 P.vars.l[i].name=A;generalize gF (fO P.vars.l λw=>pP w.name P.vars.l[i].name) 0 i=B
      generalize (decide (P.vars.l[i].init_>=-1073741824)&&decide (P.vars.l[i].init_<=1073741824))=C;cases A <;> cases B <;> cases C <;> rfl
  .unfold cT.an;have hil:i<t.procs.l.length:=by omega
   rw[show decide ((i:Int)<(p:Int))=true from by simpa using hi,aL,aD hil,ζb,yY hil,rG];rfl
end Go.VE
namespace Go.VE
def EM (n:Nat) (p:Int) (e:Event):Bool:=if e.kind==1 then e.peer==0&&e.message==0 else(e.kind==2||e.kind==3)&&(decide (0<=e.peer)&&decide (e.peer<n)) && !(e.peer==p)&&(decide (0<=e.message)&&decide (e.message<=199))
theorem Lj {t:Trace} (hS:Small t) (p:Int) (e:Event):ga t p e=some (EM t.procs.l.length p e):=by
 have h1:=hS.1;have hw:IntKind.wrap .i64 (len t.procs-1)=len t.procs-1:=pH _ (by simp[len];omega) (by simp[len];omega)
 have hj:∀b:Bool,ga.J1 p b t e=some (b&&(decide (0<=e.peer)&&decide (e.peer<t.procs.l.length)) && !(e.peer==p)&&(decide (0<=e.message)&&decide (e.message<=199))):=by
  intro b;unfold ga.J1;simp only[nh,hw,ζb];have:decide (e.peer<=len t.procs-1)=decide (e.peer<t.procs.l.length):=by congr 1;apply propext;simp[len];omega
  rw[this];generalize (decide (0<=e.peer)&&decide (e.peer<(t.procs.l.length:Int)))=A;generalize (e.peer==p)=B;generalize (decide (0<=e.message)&&decide (e.message<=199))=C;cases b <;> cases A <;> cases B <;> cases C <;> rfl
 unfold ga EM;rw[hj,hj]
 cases h1:e.kind==1 with
 | true=>
  rw[aL];cases e.peer==0 <;> cases e.message==0 <;> rfl
 | false=>
  rw[aQ];simp only[Bool.false_eq_true,if_false];cases h2:e.kind==2 <;> simp[aj]
def AQ (P:bt) (k:Nat) (e:Event):Bool:=match k with|0=>false|j+1=>fO P.events.l (λx=>decide (e.time<x.time)) j
def sB (P:bt) (k:Nat) (e:Event):Bool:=decide (e.time<0)||decide (e.time>1099511627776)||AQ P k e
def RA:Bool->Bool->Bool->Int
 | true,true,false=>0
 | true,true,true=>8
 | _,_,_=>2
def o5 (P:bt) (e:Event) (i:Nat):Int:=match e.assign.l[i]? with
 | some a=>RA (decide (0<=a.var)&&decide (a.var<P.vars.l.length)) (decide (a.value>=-1073741824)&&decide (a.value<=1073741824)) (gF (fO e.assign.l λb=>b.var==a.var) 0 i)
 | none=>0
theorem CP {P:bt} {e:Event} {i:Nat} (h:i<e.assign.l.length):o5 P e i=RA (decide (0<=e.assign.l[i].var)&&decide (e.assign.l[i].var<P.vars.l.length)) (decide (e.assign.l[i].value>=-1073741824)&&decide (e.assign.l[i].value<=1073741824)) (gF (fO e.assign.l λb=>b.var==e.assign.l[i].var) 0 i):=by
 unfold o5;rw[ζd h]
def nM (n:Nat) (P:bt) (p k:Nat) (e:Event):Int:=if EM n p e then(if sB P k e then 11 else if e.assign.l.length>8 then 5 else mK (o5 P e) 0 e.assign.l.length)else 3
theorem Ik {P:bt} {e:Event} (hv:P.vars.l.length<1073741824) (ha:e.assign.l.length<1073741824):cw.W2 e.assign (len e.assign) 0 e P=some (mK (o5 P e) 0 e.assign.l.length):=by
 have hw:IntKind.wrap .i64 (len P.vars-1)=len P.vars-1:=pH _ (by simp[len];omega) (by simp[len];omega)
 unfold cw.W2;rw[wD (n:=e.assign.l.length) (o5 P e) (by omega) (λi hi=>?_) (by unfold cw.aY;simp[aj,len])]
 .by_cases he:mK (o5 P e) 0 e.assign.l.length=0
  .rw[if_pos he,he];rfl
  .rw[if_neg he];rfl
 .unfold cw.aY;obtain⟨y,hy,hyl⟩:=qd e.assign i (by omega)
  have hdv:fu y (λz=>jh z e.assign.l[i])=some (gF (fO e.assign.l λb=>b.var==e.assign.l[i].var) 0 i):=by
   rw[BS (p:=λz=>jh z e.assign.l[i]) (f:=λb=>b.var==e.assign.l[i].var) (λw _=>rfl) (by rw[hyl,List.length_take];omega),hyl,Ag]
  rw[CP hi,show decide ((i:Int)<len e.assign)=true from by simp[len];exact hi,aL,aD hi,ζb,nh,nh,hw,hy,ζb,ζb,ζb,hdv,ζb]
  have h1:(decide (0<=e.assign.l[i].var)&&decide (e.assign.l[i].var<=len P.vars-1))=(decide (0<=e.assign.l[i].var)&&decide (e.assign.l[i].var<P.vars.l.length)):=by
   congr 2;apply propext;simp[len];omega
  have h2:(decide (-1073741824<=e.assign.l[i].value)&&decide (e.assign.l[i].value<=1073741824))=(decide (e.assign.l[i].value>=-1073741824)&&decide (e.assign.l[i].value<=1073741824)):=rfl;rw[h1,h2];generalize (decide (0<=e.assign.l[i].var)&&decide (e.assign.l[i].var<(P.vars.l.length:Int)))=A;generalize (decide (e.assign.l[i].value>=-1073741824)&&decide (e.assign.l[i].value<=1073741824))=B;generalize gF (fO e.assign.l λb=>b.var==e.assign.l[i].var) 0 i=C
  cases A <;> cases B <;> cases C <;> rfl
theorem JS {t:Trace} (hS:Small t) {p k:Nat} {P:bt} {e:Event} (hP:t.procs.l[p]? = some P) (he:P.events.l[k]? = some e):cw t ⟨p,k+1⟩ e=some (nM t.procs.l.length P p k e):=by
 obtain⟨hp,hPe⟩:=ζe.1 hP;obtain⟨hk,hke⟩:=ζe.1 he;obtain⟨hPev,hPv,_,_,hPa⟩:=hS.2 P (hPe▸List.getElem_mem hp);have ha:=hPa e (hke▸List.getElem_mem hk);have hJ:∀last:Int,((decide (0<=e.time)&&decide (e.time<=1099511627776)) && !decide (e.time<last))=(!sB P k e) ->
  cw.J1 last t ⟨p,k+1⟩ e P=some (nM t.procs.l.length P p k e):=by
  intro last hl;unfold cw.J1 nM;rw[Lj hS,ζb,nh,ζb,Ik hPv ha];dsimp only
  cases EM t.procs.l.length p e with
  | false=>rfl
  | true=>
   rw[aL,if_pos rfl];have:(aj (decide (0<=e.time)&&decide (e.time<=1099511627776)) (some (decide (e.time<last))) (some true):Option Bool)=some (sB P k e):=by
    have h2:(!((decide (0<=e.time)&&decide (e.time<=1099511627776)) && !decide (e.time<last)))=sB P k e:=by rw[hl,Bool.not_not]
    rw[<-h2];cases (decide (0<=e.time)&&decide (e.time<=1099511627776)) <;> cases decide (e.time<last) <;> rfl
   rw[this,ζb]
   cases sB P k e with
   | true=>rfl
   | false=>
    rw[aQ];simp only[Bool.false_eq_true,if_false]
    by_cases h8:e.assign.l.length>8
    .rw[show decide (len e.assign>8)=true from by simp[len];omega,aL,if_pos h8]
    .rw[show decide (len e.assign>8)=false from by simp[len];omega,aQ,if_neg h8]
 unfold cw;dsimp only;rw[show idx t.procs (p:Int)=some P from by rw[qZ];exact hP,ζb]
 cases k with
 | zero=>
  rw[show decide (((0:Nat):Int)+1>1)=false from by decide,aQ]
  refine hJ 0 ?_;simp only[sB,AQ,Bool.or_false];rw[Bool.eq_iff_iff];simp only[ζh,Bool.not_eq_true',decide_eq_true_eq,decide_eq_false_iff_not,Bool.or_eq_false_iff];omega
 | succ j=>
  rw[show decide ((((j+1:Nat)):Int)+1>1)=true from by simp;omega,aL]
  have hjl:j<P.events.l.length:=by omega
  have hw:IntKind.wrap .i64 ((((j+1:Nat)):Int)+1-2)=((j:Nat):Int):=by rw[pH _ (by omega) (by omega)];omega
  rw[hw,aD hjl,ζb];refine hJ _ ?_;simp only[sB,AQ,yY hjl];rw[Bool.eq_iff_iff];simp only[ζh,Bool.not_eq_true',decide_eq_true_eq,decide_eq_false_iff_not,Bool.or_eq_false_iff];omega
end Go.VE
namespace Go.VE
theorem Ji {t:Trace} {p:Nat} {P:bt} {e:Event} (hP:t.procs.l[p]? = some P) (ha:e.assign.l.length<1073741824):cS.W2 p 0 t e=some (mK (o5 P e) 0 e.assign.l.length):=by
 unfold cS.W2;rw[wD (n:=e.assign.l.length) (o5 P e) (by omega) (λi hi=>?_) (by unfold cS.aY;simp[aj,len])]
 .by_cases he:mK (o5 P e) 0 e.assign.l.length=0
  .rw[if_pos he,he];rfl
  .rw[if_neg he];rfl
 .unfold cS.aY;have h3:cS.W3 p i 0 t e e.assign.l[i]=if gF (fO e.assign.l λb=>b.var==e.assign.l[i].var) 0 i then some (.r 8)else some (.n (IntKind.wrap .i64 ((i:Int)+1))):=by
   unfold cS.W3;rw[AM (n:=i) (fO e.assign.l λb=>b.var==e.assign.l[i].var) (by omega) (λj hj=>?_) (by unfold cS.cI;simp[aj])]
   .cases gF (fO e.assign.l λb=>b.var==e.assign.l[i].var) 0 i <;> rfl
   .unfold cS.cI;have hjl:j<e.assign.l.length:=by omega
    rw[show decide ((j:Int)<(i:Int))=true from by simpa using hj,aL,aD hjl,ζb,yY hjl,rG]
  rw[CP hi,show decide ((i:Int)<len e.assign)=true from by simp[len];exact hi,aL,aD hi,ζb,h3,C6,ζb,show idx t.procs (p:Int)=some P from by rw[qZ];exact hP,ζb]
  have h1:(aj (decide (e.assign.l[i].var<0)) (some true) (some (decide (e.assign.l[i].var>=len P.vars))):Option Bool)=some (!(decide (0<=e.assign.l[i].var)&&decide (e.assign.l[i].var<P.vars.l.length))):=by
   rw[iA];congr 1;rw[Bool.eq_iff_iff];simp only[Bool.or_eq_true,Bool.not_eq_true',decide_eq_true_eq,Bool.and_eq_false_iff,decide_eq_false_iff_not,len];omega
  rw[h1,ζb];generalize (decide (0<=e.assign.l[i].var)&&decide (e.assign.l[i].var<(P.vars.l.length:Int)))=A;generalize (decide (e.assign.l[i].value>=-1073741824)&&decide (e.assign.l[i].value<=1073741824))=B;generalize gF (fO e.assign.l λb=>b.var==e.assign.l[i].var) 0 i=C
  cases A <;> cases B <;> cases C <;> rfl
theorem L4 {t:Trace} (hS:Small t) {p k:Nat} {P:bt} {e:Event} (hP:t.procs.l[p]? = some P) (he:P.events.l[k]? = some e):cS t p k=some (nM t.procs.l.length P p k e):=by
 obtain⟨hp,hPe⟩:=ζe.1 hP;obtain⟨hk,hke⟩:=ζe.1 he;obtain⟨hPev,hPv,_,_,hPa⟩:=hS.2 P (hPe▸List.getElem_mem hp);have ha:=hPa e (hke▸List.getElem_mem hk);have hJ:cS.J1 p k t e=some (if sB P k e then 11 else if e.assign.l.length>8 then 5 else mK (o5 P e) 0 e.assign.l.length):=by
  unfold cS.J1;rw[iA,ζb,Ji hP ha,show idx t.procs (p:Int)=some P from by rw[qZ];exact hP,ζb]
  have h1:(aj (decide ((k:Int)>0)) ((idx P.events (IntKind.wrap .i64 ((k:Int)-1))).bind λx_3=>some (decide (e.time<x_3.time))) (some false):Option Bool)=some (AQ P k e):=by
   cases k with
   | zero=>rfl
   | succ j=>
    have hjl:j<P.events.l.length:=by omega
    rw[show decide ((((j+1:Nat)):Int)>0)=true from by simp only[decide_eq_true_eq];omega,aL,show IntKind.wrap .i64 ((((j+1:Nat)):Int)-1)=((j:Nat):Int)from by rw[pH _ (by omega) (by omega)];omega,aD hjl,ζb]
    simp only[AQ,yY hjl]
  rw[h1,ζb,iA,ζb];show aj (sB P k e) _ _=_
  cases sB P k e with
  | true=>rfl
  | false=>
   rw[aQ];simp only[Bool.false_eq_true,if_false]
   by_cases h8:e.assign.l.length>8
   .rw[show decide (len e.assign>8)=true from by simp[len];omega,aL,if_pos h8]
   .rw[show decide (len e.assign>8)=false from by simp[len];omega,aQ,if_neg h8]
 unfold cS nM;rw[show idx t.procs (p:Int)=some P from by rw[qZ];exact hP,ζb,show idx P.events (k:Int)=some e from by rw[qZ];exact he,ζb,hJ]
 unfold EM
 cases h1:e.kind==1 with
 | true=>
  rw[aL];simp only[if_true];cases e.peer==0 <;> cases e.message==0 <;> rfl
 | false=>
  rw[aQ];simp only[Bool.false_eq_true,if_false];have h2:(aj (e.kind==2) (some false) (some (!(e.kind==3))):Option Bool)=some (!(e.kind==2||e.kind==3)):=by cases e.kind==2 <;> rfl
  rw[h2,ζb,iA,ζb,iA,ζb,iA,ζb,iA,ζb,iA,ζb];have h3:(((((!(e.kind==2||e.kind==3))||decide (e.peer<0))||decide (e.peer>=len t.procs))||(e.peer==p))||decide (e.message<0)||decide (e.message>199)) = !((e.kind==2||e.kind==3)&&(decide (0<=e.peer)&&decide (e.peer<t.procs.l.length)) && !(e.peer==p)&&(decide (0<=e.message)&&decide (e.message<=199))):=by
   generalize (e.kind==2||e.kind==3)=A;have a1:decide (e.peer<0) = !decide (0<=e.peer):=by rw[Bool.eq_iff_iff];simp
   have a2:decide (e.peer>=len t.procs) = !decide (e.peer<t.procs.l.length):=by rw[Bool.eq_iff_iff];simp[len]
   have a3:decide (e.message<0) = !decide (0<=e.message):=by rw[Bool.eq_iff_iff];simp
   have a4:decide (e.message>199) = !decide (e.message<=199):=by rw[Bool.eq_iff_iff];simp
   rw[a1,a2,a3,a4];generalize decide (0<=e.peer)=B;generalize decide (e.peer<(t.procs.l.length:Int))=C;generalize (e.peer==(p:Int))=D;generalize decide (0<=e.message)=F;generalize decide (e.message<=199)=G;cases A <;> cases B <;> cases C <;> cases D <;> cases F <;> cases G <;> rfl
  rw[h3];generalize ((e.kind==2||e.kind==3)&&(decide (0<=e.peer)&&decide (e.peer<(t.procs.l.length:Int))) && !(e.peer==(p:Int))&&(decide (0<=e.message)&&decide (e.message<=199)))=Z;cases Z <;> rfl
theorem Ih {n:Nat} {p:Int} {e:Event} (h:EM n p e=true):jC n p e:=by
 unfold EM at h;split at h
 .rename_i h1;left;simpa using h1
 .right;simp only[ζh,Bool.or_eq_true,beq_iff_eq,decide_eq_true_eq,Bool.not_eq_true',beq_eq_false_iff_ne,ne_eq]at h;obtain⟨⟨⟨h1,h2⟩,h3⟩,h4⟩:=h;exact⟨h1,h2.1,h2.2,h3,h4.1,h4.2⟩
theorem FB {n:Nat} {P:bt} {p k:Nat} {e:Event} (h:nM n P p k e=0):jC n p e:=by
 unfold nM at h;split at h
 .rename_i h1;exact Ih h1
 .cases h
end Go.VE
namespace Go.VE
theorem Em {α:Type} [DecidableEq α]:∀{l r:List α},l.Nodup->(∀x∈l,x∈r)->l.length<=r.length
 | [],_,_,_=>Nat.zero_le _
 | x::l,r,hn,hs=>by
  have hx:x∈r:=hs x (List.mem_cons_self ..);have hn':=List.nodup_cons.1 hn;have:=Em (l:=l) (r:=r.erase x) hn'.2 λy hy=>(List.mem_erase_of_ne (by rintro rfl;exact hn'.1 hy)).2 (hs y (List.mem_cons_of_mem _ hy))
  rw[List.length_erase_of_mem hx]at this;have hp:0<r.length:=List.length_pos_of_mem hx;simp only[List.length_cons];omega
section
variable {κ:Type} [DecidableEq κ]
theorem BG {ν:Type} {k:κ}:∀{m:Mo κ ν},k∉m.map (·.1)->sA k m=none
 | [],_=>rfl
 | (a,v)::r,h=>by
  simp only[List.map_cons,List.mem_cons,not_or]at h;unfold sA;rw[if_neg h.1];exact BG h.2
theorem Di {ν:Type} {k:κ}:∀{m:Mo κ ν},k∈m.map (·.1)->∃v,sA k m=some v/\(k,v)∈m
 | [],h=>by simp at h
 | (a,v)::r,h=>by
  unfold sA
  by_cases e:k=a
  .subst e;exact⟨v,by rw[if_pos rfl],List.mem_cons_self ..⟩
  .rw[if_neg e];obtain⟨w,h1,h2⟩:=Di (m:=r) (by simpa [e]using h)
   exact⟨w,h1,List.mem_cons_of_mem _ h2⟩
theorem pZ {ν:Type} {k:κ} {v:ν}:∀{m:Mo κ ν},k∉m.map (·.1)->pQ m k v=m++[(k,v)]
 | [],_=>rfl
 | (a,w)::r,h=>by
  simp only[List.map_cons,List.mem_cons,not_or]at h;show (if k=a then _ else _)=_;rw[if_neg h.1,pZ h.2];rfl
end
def Vd (t:Trace) (y:aa):Prop:=∃e,(y,e)∈aV t
theorem Vd.at_ {t:Trace} {y:aa} (h:Vd t y):∃(p k:Nat) (e:Event),jG t p k e/\y=⟨p,k+1⟩/\(y,e)∈aV t:=by
 obtain⟨e,he⟩:=h;obtain⟨p,k,h1,h2⟩:=dg.1 he;exact⟨p,k,e,h1,h2,he⟩
def E0 (t:Trace) (y z:aa):Prop:=∃e f,(y,e)∈aV t/\(z,f)∈aV t/\e.kind=2/\f.kind=3/\e.message=f.message
def Edge (t:Trace) (y z:aa):Prop:=Vd t y/\Vd t z/\(z=⟨y.proc,y.index+1⟩\/E0 t y z)
abbrev Way (t:Trace):aa->aa->Prop:=Relation.TransGen (Edge t)
def G2 (t:Trace):Prop:=∃x,Way t x x
theorem Way.l {t:Trace} {x y:aa} (h:Way t x y):Vd t x:=by
 induction h with
 | single h=>exact h.1
 | tail _ _ ih=>exact ih
theorem Way.r {t:Trace} {x y:aa} (h:Way t x y):Vd t y:=by
 cases h with
 | single h=>exact h.2.1
 | tail _ h=>exact h.2.1
theorem L7 {t:Trace} (hS:Small t) (hF:∀x∈aV t,jC t.procs.l.length x.1.proc x.2) {A:bg 200 ay} (hA:fh t (aV t) A) {y:aa} (hy:Vd t y) :
 Wp (gU t A y) λs=>s.l.length<=2/\∀z,z∈s.l↔Edge t y z:=by
 obtain⟨p,k,e,hat,hid,hmem⟩:=hy.at_;have hat':=hat;obtain⟨P,hP,hk⟩:=hat;have hPm:P∈t.procs.l:=List.mem_of_getElem? hP;have h1:=(hS.2 P hPm).1;have hkl:k<P.events.l.length:=(ζe.1 hk).1;have hyp:y.proc=p:=by rw[hid]
 have hyi:y.index=k+1:=by rw[hid]
 have j:∀s:Sl aa,s.l.length<=1->(∀z,z∈s.l↔Vd t z/\z=⟨y.proc,y.index+1⟩)->Wp (gU.J1 A s P.events y) λs=>s.l.length<=2/\∀z,z∈s.l↔Edge t y z:=by
  intro s hs hz;have no:¬(∃z,E0 t y z)->s.l.length<=2/\∀z,z∈s.l↔Edge t y z:=λhn=>⟨by omega,λz=>(hz z).trans ⟨λh=>⟨hy,h.1,.inl h.2⟩,λh=>⟨h.2.1,h.2.2.elim id λh=>(hn ⟨z,h⟩).elim⟩⟩⟩
  unfold gU.J1;have hw:IntKind.wrap .i64 (y.index-1)=((k:Nat):Int):=by rw[hyi,pH _ (by omega) (by omega)];omega
  rw[hw,qZ,hk,ζb,eB,bh];constructor
  .intro hk2;have hk2:e.kind=2:=by simpa using hk2
   have hm:0<=e.message/\e.message<=199:=by
    rcases hF _ hmem with h|⟨_,_,_,_,h⟩
    .simp only at h;omega
    .exact h
   have to_:∀z,E0 t y z->(ag A e.message).to_=z:=λz ⟨e',f,a1,a2,a3,a4,a5⟩=>by
    cases Az a1 hmem rfl;rw[a5];exact(hA.rcv _ a2 a4).1
   rw[IS A hm.1 hm.2,ζb,ah,bh];refine⟨λh=>?_,λh=>(ah _).2 (no λ⟨z,hz⟩=>?_)⟩
   .have h:(ag A e.message).to_.index>0:=by simpa using h
    rw[ζb];unfold fP;rw[if_pos (by omega),ζb,ah]
    refine⟨by show (s.l++[(ag A e.message).to_]).length<=2;rw[ζi,List.length_singleton];omega,λz=>?_⟩
    have hto:E0 t y (ag A e.message).to_:=by
     rcases hA.to e.message hm.1 hm.2 with h0|⟨e',h1,h2,h3⟩
     .omega
     .exact⟨e,e',hmem,h1,hk2,h2,h3.symm⟩
    show z∈s.l++[(ag A e.message).to_]↔_;rw[List.mem_append,List.mem_singleton,hz];constructor
    .rintro (h|rfl)
     .exact⟨hy,h.1,.inl h.2⟩
     .exact⟨hy,let ⟨_,f,_,a2,_⟩:=hto;⟨f,a2⟩,.inr hto⟩
    .rintro⟨_,h1,h2|h2⟩
     .exact .inl ⟨h1,h2⟩
     .exact .inr (to_ z h2).symm
   .rw[to_ z hz]at h;obtain⟨_,f,_,a2,_⟩:=hz;obtain⟨q,i,_,hi⟩:=dg.1 a2;simp only at hi;rw[hi]at h;simp at h
  .intro hk2;rw[ah,bh];refine⟨λh=>(by cases h),λ_=>(ah _).2 (no λ⟨z,e',f,a1,_,a3,_⟩=>?_)⟩
   cases Az a1 hmem rfl;simp[a3]at hk2
 unfold gU;rw[hyp,qZ,hP,ζb,bh];rw[hyp]at j;constructor
 .intro h;have h:y.index<len P.events:=by simpa using h
  have hk2:k+1<P.events.l.length:=by rw[hyi]at h;simp[len]at h;omega
  refine j _ (by simp[Sl.l]) λz=>?_
  have hw:IntKind.wrap .i64 (y.index+1)=y.index+1:=pH _ (by omega) (by omega)
  simp only[Sl.l,List.mem_singleton,hw];refine⟨λhz=>⟨⟨P.events.l[k+1],dg.2 ⟨p,k+1,⟨P,hP,ζd hk2⟩,?_⟩⟩,hz⟩,λhz=>hz.2⟩
  rw[hz,hyi];simp
 .intro h;have h:¬y.index<len P.events:=by simpa using h
  refine j _ (by simp[Sl.l]) λz=>⟨λhz=>by simp[Sl.l]at hz,λ⟨hz,he⟩=>?_⟩
  obtain⟨q,i,f,⟨Q,hQ,hi⟩,hqi,_⟩:=hz.at_;rw[he,hyi]at hqi;simp only[aa.mk.injEq]at hqi;have:q=p:=by omega
  subst this;rw[hP]at hQ;cases hQ;have:=(ζe.1 hi).1;rw[hyi]at h;simp[len]at h;omega
structure D4 (t:Trace) (x:aa) (rest:Sl aa) (m:Mo aa Bool) (U:aa->Prop):Prop where
 rst:∀y∈rest.l,y=x\/Way t x y
 keys:(m.map (·.1)).Nodup
 seen:∀y∈m,Way t x y.1/\y.1≠x/\y.2=true
 le:rest.l.length<=m.length+1
 done:∀y,y=x\/y∈m.map (·.1)->y∈rest.l\/U y\/∀z,Edge t y z->z∈m.map (·.1)
theorem D4.count {t:Trace} {x:aa} {rest:Sl aa} {m:Mo aa Bool} {U:aa->Prop} (h:D4 t x rest m U):m.length<=(aV t).length:=by
 have:=Em (r:=(aV t).map (·.1)) h.keys λx hx=>by
  obtain⟨y,hy,rfl⟩:=List.mem_map.1 hx;obtain⟨e,he⟩:=(h.seen y hy).1.r;exact List.mem_map.2 ⟨_,he,rfl⟩
 simpa using this
theorem JE {t:Trace} (hS:Small t) (hN:(aV t).length<1073741824) (hF:∀x∈aV t,jC t.procs.l.length x.1.proc x.2) {A:bg 200 ay} (hA:fh t (aV t) A):Wp (dY t A) λr=>(r.2=true↔G2 t):=by
 unfold dY iR;rw[ζb];unfold dY.E1;rw[tQ hS,ζb];refine zg (λk _=>∀x∈(aV t).take k,¬Way t x.1 x.1) (by simp) ?_ λ_ h=>(ah _).2 ⟨λh=>(by cases h),λ⟨x,hx⟩=>?_⟩
 .intro i x _ hx hall;have hxm:x∈aV t:=List.mem_of_getElem? hx;unfold dY.qG dY.W2;refine Wp.mono (P:=λw=>match w with|.n s=>¬Way t x.1 x.1|.x e=>False|.r e=>G2 t) ?_ λw hw=>by
   cases w with
   | n s=>
    intro y hy;rw[List.take_add_one,hx]at hy;rcases List.mem_append.1 hy with hy|hy
    .exact hall y hy
    .simp at hy;subst hy;exact hw
   | x e=>exact hw.elim
   | r b=>exact(ah _).2 ⟨λ_=>hw,λ_=>rfl⟩
  refine dI (λq:Sl aa×Mo aa Bool=>D4 t x.1 q.1 q.2 λ_=>False) (λq=>2*((aV t).length-q.2.length)+q.1.l.length) ⟨λy hy=>.inl (by simpa [Sl.l]using hy),by simp,by simp,by simp[Sl.l],λy hy=>.inl ?_⟩ ?_
  .simpa [Sl.l]using hy
  rintro⟨rest,m⟩ hI;unfold dY.aY;rw[bh];refine⟨λh=>?_,λh=>(ah _).2 ((ah _).2 λhw=>?_)⟩
  .have hlen:0<rest.l.length:=by
    have:len rest>0:=by simpa using h
    simp[len]at this;omega
   have hc:=hI.count;have hle:=hI.le;simp only at hc hle;have hw:IntKind.wrap .i64 ((len rest)-1)=((rest.l.length-1:Nat):Int):=by
    rw[pH _ (by simp[len];omega) (by simp[len];omega)];simp[len];omega
   have hlast:rest.l.length-1<rest.l.length:=by omega
   rw[hw];have h1:Sl.mw rest ((rest.l.length-1:Nat):Int)=some (rest.l.length-1):=by
    unfold Sl.mw;rw[if_pos ⟨by omega,by simpa using hlast⟩];rfl
   have h2:Sl.get rest (rest.l.length-1)=some rest.l[rest.l.length-1]:=by unfold Sl.get;exact ζd hlast
   obtain⟨cut,h3,h4⟩:∃x,mU rest none (some ((rest.l.length-1:Nat):Int))=some x/\x.l=rest.l.take (rest.l.length-1):=by
    cases rest with
    | nil=>simp[Sl.l]at hlen
    | emp=>simp[Sl.l]at hlen
    | row l=>
     simp only[Sl.l]at hlen ⊢;unfold mU cN;simp only[Option.getD_none,Option.getD_some];rw[if_pos (by omega)]
     exact⟨_,rfl,by simp[Sl.l]⟩
    | part l=>
     simp only[Sl.l]at hlen ⊢;unfold mU cN;simp only[Option.getD_none,Option.getD_some];rw[if_pos (by omega)]
     exact⟨_,rfl,by simp[Sl.l]⟩
   rw[h1,ζb,h2,ζb,h3,ζb,eB];generalize hye:rest.l[rest.l.length-1]=y;have hym:y∈rest.l:=hye▸List.getElem_mem hlast;have hsplit:∀z,z∈rest.l->z∈cut.l\/z=y:=λz hz=>by
    have:rest.l.take (rest.l.length-1)++rest.l.drop (rest.l.length-1)=rest.l:=List.take_append_drop ..;rw[<-this]at hz;rcases List.mem_append.1 hz with hz|hz
    .exact .inl (h4▸hz)
    .rw[List.drop_eq_getElem_cons hlast,List.drop_of_length_le (by omega)]at hz
     exact .inr (by simpa [hye]using hz)
   have hyw:y=x.1\/Way t x.1 y:=hI.rst _ hym;have hyv:Vd t y:=hyw.elim (λe=>⟨x.2,e▸hxm⟩) Way.r
   refine(L7 hS hF hA hyv).mono λs hs=>?_
   unfold dY.W3;refine dI (λq:Sl aa×Int×Mo aa Bool=>∃n:Nat,q.2.1=n/\n<=s.l.length/\D4 t x.1 q.1 q.2.2 (λu=>u=y)/\(∀z∈s.l.take n,z∈q.2.2.map (·.1))/\2*((aV t).length-q.2.2.length)+q.1.l.length<2*((aV t).length-m.length)+rest.l.length) (λq=>s.l.length-q.2.1.toNat)
    ⟨0,rfl,Nat.zero_le _,⟨λz hz=>hI.rst z (by rw[h4]at hz;exact List.mem_of_mem_take hz),hI.keys,hI.seen,by rw[h4];simp;omega,λu hu=>?_⟩,by simp,by rw[h4];simp;omega⟩ ?_
   .rcases hI.done u hu with h|h|h
    .exact(hsplit u h).imp_right .inl
    .exact h.elim
    .exact .inr (.inr h)
   rintro⟨rest2,i2,m2⟩ ⟨n,rfl,hn,hI2,hms,hμ⟩;simp only at hI2 hμ hms;unfold dY.cI;rw[bh];constructor
   .intro h;have hlt:n<s.l.length:=by simpa [len]using h
    have hxe:=(hs.2 s.l[n]).1 (List.getElem_mem hlt);have hxw:Way t x.1 s.l[n]:=hyw.elim (λe=>.single (e▸hxe)) λh=>.tail h hxe
    rw[aD hlt,ζb,bh];refine⟨λhe=>(ah _).2 ((ah _).2 ((ah _).2 ⟨x.1,?_⟩)),λhne=>?_⟩
    .have:s.l[n]=x.1:=by
      unfold GR at he
      revert he;cases s.l[n];cases x.1;intro he;simpa using he
     rw[this]at hxw;exact hxw
    have hne:s.l[n]≠x.1:=λe=>by rw[e]at hne;simp[GR]at hne
    have hw2:=bq n (by omega)
    have htk:s.l.take (n+1)=s.l.take n++[s.l[n]]:=by rw[List.take_add_one,ζd hlt];rfl
    rw[bh];refine⟨λhg=>(ah _).2 ⟨⟨n+1,hw2,by omega,hI2,λz hz=>?_,hμ⟩,by show _-(IntKind.wrap .i64 ((n:Int)+1)).toNat<_;rw[hw2];simp;omega⟩,λhno=>?_⟩
    .rw[htk]at hz;rcases List.mem_append.1 hz with hz|hz
     .exact hms z hz
     .simp only[List.mem_singleton]at hz;subst hz;apply Classical.byContradiction;intro hk;unfold BW at hg;rw[BG hk]at hg;cases hg
    have hc2:=hI2.count;have hle2:=hI2.le;unfold fP;rw[if_pos (show rest2.l.length+1<=2147483648 from by omega),ζb,ah]
    have hnew:s.l[n]∉m2.map (·.1):=λhin=>by
     obtain⟨v,hv,hvm⟩:=Di hin;have:=(hI2.seen _ hvm).2.2;simp only at this;subst this;unfold BW at hno;rw[hv]at hno;cases hno
    have hmm:∀z,z∈(pQ m2 s.l[n] true).map (·.1)↔z∈m2.map (·.1)\/z=s.l[n]:=λz=>by
     rw[pZ hnew,List.map_append,List.mem_append];simp
    have hS2:D4 t x.1 (.row (rest2.l++[s.l[n]])) (pQ m2 s.l[n] true) (λu=>u=y):=by
     refine⟨λy hy=>?_,?_,λy hy=>?_,?_,λu hu=>?_⟩
     .simp only[Sl.l,List.mem_append,List.mem_singleton]at hy;rcases hy with hy|rfl
      .exact hI2.rst y hy
      .exact .inr hxw
     .rw[pZ hnew,List.map_append,List.nodup_append];refine⟨hI2.keys,by simp,λa ha b hb=>?_⟩
      simp only[List.map_cons,List.map_nil,List.mem_singleton]at hb;subst hb;exact λe=>hnew (e▸ha)
     .rw[pZ hnew]at hy;rcases List.mem_append.1 hy with hy|hy
      .exact hI2.seen y hy
      .simp only[List.mem_singleton]at hy;subst hy;exact⟨hxw,hne,rfl⟩
     .rw[pZ hnew];show (rest2.l++[s.l[n]]).length<=_;rw[ζi,ζi,List.length_singleton,List.length_singleton];omega
     .simp only[Sl.l,List.mem_append,List.mem_singleton];have old:u=x.1\/u∈m2.map (·.1)->(u∈rest2.l\/u=s.l[n])\/u=y\/∀z,Edge t u z->z∈(pQ m2 s.l[n] true).map (·.1):=λhu=>by
       rcases hI2.done u hu with h|h|h
       .exact .inl (.inl h)
       .exact .inr (.inl h)
       .exact .inr (.inr λz hz=>(hmm z).2 (.inl (h z hz)))
      rcases hu with hu|hu
      .exact old (.inl hu)
      .rcases (hmm u).1 hu with hu|hu
       .exact old (.inr hu)
       .exact .inl (.inr hu)
    have hc3:=hS2.count;refine⟨⟨n+1,hw2,by omega,hS2,λz hz=>?_,?_⟩,by show _-(IntKind.wrap .i64 ((n:Int)+1)).toNat<_;rw[hw2];simp;omega⟩
    .rw[htk]at hz;rcases List.mem_append.1 hz with hz|hz
     .exact(hmm z).2 (.inl (hms z hz))
     .exact(hmm z).2 (.inr (by simpa using hz))
    rw[pZ hnew,ζi,List.length_singleton]at hc3;show 2*((aV t).length-(pQ m2 s.l[n] true).length)+(rest2.l++[s.l[n]]).length<_;rw[pZ hnew,ζi,ζi,List.length_singleton,List.length_singleton];omega
   .intro h;have hge:s.l.length<=n:=by simpa [len]using h
    rw[List.take_of_length_le hge]at hms;refine(ah _).2 ((ah _).2 ⟨⟨hI2.rst,hI2.keys,hI2.seen,hI2.le,λu hu=>?_⟩,hμ⟩)
    rcases hI2.done u hu with h|h|h
    .exact .inl h
    .subst h;exact .inr (.inr λz hz=>hms z ((hs.2 z).2 hz))
    .exact .inr (.inr h)
  .have hr0:rest.l=[]:=by
    have:¬len rest>0:=by simpa using h
    simp[len]at this;exact this
   have hd:∀y,y=x.1\/y∈m.map (·.1)->∀z,Edge t y z->z∈m.map (·.1):=λy hy=>by
    rcases hI.done y hy with h|h|h
    .simp only[hr0]at h;cases h
    .exact h.elim
    .exact h
   have key:∀z,Way t x.1 z->z∈m.map (·.1):=λz hz=>by
    induction hz with
    | single h=>exact hd _ (.inl rfl) _ h
    | tail _ h ih=>exact hd _ (.inr ih) _ h
   obtain⟨y,hy,hyx⟩:=List.mem_map.1 (key _ hw);exact(hI.seen y hy).2.1 hyx
 .obtain⟨e,he⟩:=hx.l;rw[List.take_length]at h;exact absurd hx (h _ he)
structure Ok (t:Trace):Prop where
 one:1<=t.procs.l.length
 few:t.procs.l.length<=8
 heads:∀p,p<t.procs.l.length->rM t p=0
 d_:∀(p k:Nat) P e,t.procs.l[p]? = some P->P.events.l[k]? = some e->nM t.procs.l.length P p k e=0
 JW:vP t
 acyc:¬G2 t
theorem Dd {t:Trace} (h:∀(p k:Nat) P e,t.procs.l[p]? = some P->P.events.l[k]? = some e->nM t.procs.l.length P p k e=0):∀x∈aV t,jC t.procs.l.length x.1.proc x.2:=λx hx=>by
 obtain⟨p,k,⟨P,hP,he⟩,hid⟩:=dg.1 hx;rw[hid];exact FB (h p k P _ hP he)
structure VT (t:Trace):Prop where
 formed:∀x∈aV t,jC t.procs.l.length x.1.proc x.2
 msgs:∃A i,c9 t=some (some A,i,0)/\fh t (aV t) A
 few:t.procs.l.length<=8
 ok:Ok t
theorem Ma {t:Trace} (hS:Small t) (hN:(aV t).length<1073741824):Wp (fE t) λr=>(r.2=0->VT t)/\(Ok t->r.2=0):=by
 unfold fE;rw[nh,ζb,bh];refine⟨λhin=>?_,λhin=>(ah _).2 ⟨λh=>(by cases h),λh=>?_⟩⟩
 rotate_left
 .have h1:=h.one;have h8:=h.few;simp only[Bool.and_eq_false_iff,decide_eq_false_iff_not,len]at hin;omega
 have h8:1<=t.procs.l.length/\t.procs.l.length<=8:=by
  simp only[ζh,decide_eq_true_eq,len]at hin;omega
 unfold fE.W1;refine dI (λi:Int=>∃n:Nat,i=n/\n<=t.procs.l.length/\∀p,p<n->rM t p=0) (λi:Int=>t.procs.l.length-i.toNat) ⟨0,rfl,Nat.zero_le _,λp hp=>absurd hp (by omega)⟩ ?_
 rintro i ⟨n,rfl,hn,hh⟩;unfold fE.an;rw[bh];constructor
 .intro h;have hlt:n<t.procs.l.length:=by simpa [len]using h
  rw[LF hS hlt,ζb,bh];refine⟨λh0=>(ah _).2 ⟨⟨n+1,bq n (by omega),by omega,λp hp=>?_⟩,by rw[bq n (by omega)];simp;omega⟩,λh0=>(ah _).2 ((ah _).2 ⟨λh=>?_,λh=>?_⟩)⟩
  .by_cases e:p=n
   .subst e;simpa using h0
   .exact hh p (by omega)
  .simp only at h;simp[h]at h0
  .simp[h.heads n hlt]at h0
 .intro h;have hge:t.procs.l.length<=n:=by simpa [len]using h
  rw[ah];unfold iR;rw[ζb];unfold fE.E2;rw[tQ hS,ζb];refine zg (λi _=>∀(p k:Nat) P e,t.procs.l[p]? = some P->P.events.l[k]? = some e->(⟨p,k+1⟩,e)∈(aV t).take i->nM t.procs.l.length P p k e=0) (by simp) ?_ ?_
  .intro i x _ hx hI;have hxm:x∈aV t:=List.mem_of_getElem? hx;obtain⟨p,j,⟨P,hP,he⟩,hid⟩:=dg.1 hxm;unfold fE.GX;rw[hid,JS hS hP he,ζb,bh];refine⟨λh0=>(ah _).2 λp' k' P' e' hP' he' hm=>?_,λh0=>(ah _).2 ((ah _).2 ⟨λh=>?_,λh=>?_⟩)⟩
   .rw[List.take_add_one,hx]at hm;rcases List.mem_append.1 hm with hm|hm
    .exact hI p' k' P' e' hP' he' hm
    .simp only[Option.toList_some,List.mem_singleton]at hm;rw[<-hm]at hid he;simp only[aa.mk.injEq]at hid;have e1:p'=p:=by omega
     have e2:k'=j:=by omega
     subst e1 e2;rw[hP']at hP;cases hP;rw[<-hm]at h0;simpa using h0
   .simp only at h;simp[h]at h0
   .simp[h.d_ p j P _ hP he]at h0
  .intro _ hI;have hI:∀(p k:Nat) P e,t.procs.l[p]? = some P->P.events.l[k]? = some e->nM t.procs.l.length P p k e=0:=λp k P e hP he=>hI p k P e hP he (by rw[List.take_length];exact dg.2 ⟨p,k,⟨P,hP,he⟩,rfl⟩)
   have hF:=Dd hI;obtain⟨r,hr,hq,hq2⟩:=BK hS hF;rw[hr,ζb,bh];refine⟨λh0=>?_,λh0=>(ah _).2 ⟨λh=>?_,λh=>hq2 h.JW⟩⟩
   .have h0:r.2.2=0:=by simpa using h0
    obtain⟨A,hA,hM⟩:=hq h0;rw[hA,ζb];obtain⟨c,hc,hcc⟩:=JE hS hN hF hM;rw[hc,ζb,bh];refine⟨λhb=>(ah _).2 ⟨λh=>(by cases h),λh=>absurd (hcc.1 hb) h.acyc⟩,λhb=>(ah _).2 ⟨λ_=>?_,λ_=>rfl⟩⟩
    exact⟨hF,⟨A,r.2.1,by rw[hr];obtain⟨r1,r2,r3⟩:=r;simp only at hA h0;rw[hA,h0],hM⟩,h8.2,h8.1,h8.2,λp hp=>hh p (by omega),hI,hM.JW,λhc=>by rw[hcc.2 hc]at hb;cases hb⟩
   .simp only at h;simp[h]at h0
theorem Me {t:Trace} (hS:Small t) (hN:(aV t).length<1073741824):Wp (di t) λb=>(b=true->VT t)/\(Ok t->b=true):=by
 unfold di;rw[eB];exact(Ma hS hN).mono λr hr=>(ah _).2 ⟨λh=>hr.1 (by simpa using h),λh=>by simpa using hr.2 h⟩
end Go.VE
namespace Go.VE
end Go.VE
namespace Go.VE
end Go.VE
namespace Go.VE
theorem Kk {t:Trace} (hS:Small t) (hv:di t=some true) {A:bg 200 ay} (hM:fh t (aV t) A) {x:aa×Event} (hx:x∈aV t) (hk:x.2.kind=2):qS t x.2.message=some (x.1,true):=by
 refine Wp.eq ?_;unfold qS jZ;rw[hv,ζb,aL];unfold iR;rw[ζb];unfold jZ.E1;rw[tQ hS,ζb,eB];refine zg (λk _=>∀y∈(aV t).take k,¬(y.2.kind=2/\y.2.message=x.2.message)) (by simp) ?_ ?_
 .intro k y _ hy hI;have hym:y∈aV t:=List.mem_of_getElem? hy;unfold jZ.qG;rw[kQ,ζb,bh];constructor
  .intro hc;have hc:y.2.kind=2/\y.2.message=x.2.message:=by simpa using hc
   refine(ah _).2 ((ah _).2 ((ah _).2 ?_));have h1:=hM.snd y hym hc.1;have h2:=hM.snd x hx hk;rw[hc.2,h2]at h1;rw[h1]
  .intro hc;have hc:¬(y.2.kind=2/\y.2.message=x.2.message):=by
    intro h;rw[h.1,h.2]at hc;simp at hc
   rw[ah];intro z hz;rw[List.take_add_one,hy]at hz;rcases List.mem_append.1 hz with hz|hz
   .exact hI z hz
   .simp at hz;subst hz;exact hc
 .intro _ hI;rw[List.take_length]at hI;exact absurd ⟨hk,rfl⟩ (hI x hx)
def je (t:Trace) (c:List Int):Prop:=c.length=t.procs.l.length/\∀(p:Nat) (a:Int) (P:bt),c[p]? = some a->t.procs.l[p]? = some P->0<=a/\a<=P.events.l.length
def jO (t:Trace) (A:bg 200 ay) (c:List Int):Prop:=∀(p k:Nat) (e:Event) (a:Int),jG t p k e->c[p]? = some a->(k:Int)<a->e.kind=3->∃b,c[(ag A e.message).from_.proc.toNat]? = some b/\(ag A e.message).from_.index<=b
theorem Ax {t:Trace} (hV:VT t) {A:bg 200 ay} (hM:fh t (aV t) A) {p k:Nat} {e:Event} (he:jG t p k e) (hk:e.kind=3) :
 ∃(q j:Nat) (y:Event),jG t q j y/\y.kind=2/\y.message=e.message/\y.peer=p/\e.peer=q/\(ag A e.message).from_=⟨q,j+1⟩:=by
 have hmem:((⟨p,k+1⟩:aa),e)∈aV t:=dg.2 ⟨p,k,he,rfl⟩;have hs:=(hM.rcv _ hmem hk).2;have hf:=hV.formed _ hmem;simp only at hs hf;have hpeer:0<=e.peer:=by
  rcases hf with h|⟨_,h,_⟩
  .omega
  .exact h
 obtain⟨q,hq⟩:∃q:Nat,e.peer=q:=⟨e.peer.toNat,by omega⟩
 rw[hq]at hs;obtain⟨j,y,hat,h1,h2,h3⟩:=AT.1 hs;have:=hM.snd (⟨q,j+1⟩,y) (dg.2 ⟨q,j,hat,rfl⟩) h1;simp only at this;rw[h2]at this;exact⟨q,j,y,hat,h1,h2,h3,hq,this⟩
def TO (t:Trace) (A:bg 200 ay) (c:List Int) (s:aa):Prop:=∃(p k:Nat) (e:Event) (a:Int) (q j:Nat) (y:Event) (b:Int),jG t p k e/\c[p]? = some a/\(k:Int)<a/\e.kind=3/\(ag A e.message).from_=s/\s=⟨q,j+1⟩/\jG t q j y/\c[q]? = some b/\b<(j:Int)+1
theorem OF {t:Trace} (hS:Small t) (hv:di t=some true) (hV:VT t) {A:bg 200 ay} (hM:fh t (aV t) A) {c:Sl Int} (hR:je t c.l):Wp (fF t c) λr=>(r.2.2=false->jO t A c.l)/\(r.2.2=true->TO t A c.l r.1):=by
 have hn8:=hV.few;unfold fF fF.W1;refine dI (λs:Int=>∃n:Nat,s=n/\n<=c.l.length/\∀(p k:Nat) (e:Event) (a:Int),p<n->jG t p k e->c.l[p]? = some a->(k:Int)<a->e.kind=3->∃b,c.l[(ag A e.message).from_.proc.toNat]? = some b/\(ag A e.message).from_.index<=b) (λs:Int=>c.l.length-s.toNat) ⟨0,rfl,Nat.zero_le _,λp k e a h=>absurd h (by omega)⟩ ?_
 rintro s ⟨n,rfl,hn,hI⟩;have hcl:=hR.1;unfold fF.an;rw[bh];constructor
 .intro h;have hlt:n<c.l.length:=by simpa [len]using h
  have hlt2:n<t.procs.l.length:=by omega
  have hP:=(hS.2 _ (List.getElem_mem hlt2)).1;obtain⟨r1,r2⟩:=hR.2 n _ _ (ζd hlt) (ζd hlt2);rw[aD hlt,ζb,aD hlt2,ζb];obtain⟨y,hy,hyl⟩:=qd t.procs.l[n].events c.l[n].toNat (by omega)
  rw[show ((c.l[n].toNat:Nat):Int)=c.l[n]from by omega]at hy
  rw[hy,ζb];unfold fF.W2;refine dI (λs:Int=>∃m:Nat,s=m/\m<=y.l.length/\∀(k:Nat) (e:Event),k<m->jG t n k e->e.kind=3->∃b,c.l[(ag A e.message).from_.proc.toNat]? = some b/\(ag A e.message).from_.index<=b) (λs:Int=>y.l.length-s.toNat) ⟨0,rfl,Nat.zero_le _,λk e h=>absurd h (by omega)⟩ ?_
  rintro s ⟨m,rfl,hm,hJ⟩;have hyl2:y.l.length=c.l[n].toNat:=by rw[hyl,List.length_take];omega
  unfold fF.aY;rw[bh];constructor
  .intro h;have hltm:m<y.l.length:=by simpa [len]using h
   have hwm:=bq m (by omega)
   have hmu:y.l.length-(IntKind.wrap .i64 ((m:Int)+1)).toNat<y.l.length-((m:Int)).toNat:=by rw[hwm];simp;omega
   have hg:y.l[m]? = t.procs.l[n].events.l[m]? := by rw[hyl,List.getElem?_take,if_pos (show m<c.l[n].toNat from by omega)]
   have hat:jG t n m y.l[m]:=⟨_,ζd hlt2,by rw[<-hg];exact ζd hltm⟩
   rw[aD hltm,ζb];generalize y.l[m]=e at hat;rw[bh];constructor
   .intro hk;have hk:e.kind=3:=by simpa using hk
    obtain⟨q,j,z,hz,z1,z2,z3,z4,z5⟩:=Ax hV hM hat hk;have hsd:=Kk hS hv hM (x:=(⟨q,j+1⟩,z)) (dg.2 ⟨q,j,hz,rfl⟩) z1;simp only at hsd;rw[z2]at hsd;have hzq:=hz;obtain⟨Q,hQ,_⟩:=hz;have hql:q<c.l.length:=by have:=(ζe.1 hQ).1;omega
    rw[hsd,ζb];simp only;rw[aD hql,ζb,bh];constructor
    .intro hgt;have hgt:(j:Int)+1>c.l[q]:=by simpa using hgt
     exact(ah _).2 ((ah _).2 ((ah _).2 ⟨λh=>(by cases h),λ_=>⟨n,m,e,c.l[n],q,j,z,c.l[q],hat,ζd hlt,by omega,hk,z5,rfl,hzq,ζd hql,by omega⟩⟩))
    .intro hle;have hle:¬((j:Int)+1>c.l[q]):=by simpa using hle
     refine(ah _).2 ⟨⟨m+1,hwm,by omega,λk e' hk' hat' he'=>?_⟩,hmu⟩
     by_cases ek:k=m
     .subst ek;have:e'=e:=by
       obtain⟨P1,a1,a2⟩:=hat;obtain⟨P2,b1,b2⟩:=hat';rw[a1]at b1;cases b1;rw[a2]at b2;cases b2;rfl
      subst this;rw[z5];exact⟨c.l[q],by simp only[Int.toNat_natCast];exact ζd hql,by simp only;omega⟩
     .exact hJ k e' (by omega) hat' he'
   .intro hk;have hk:¬e.kind=3:=by simpa using hk
    refine(ah _).2 ⟨⟨m+1,hwm,by omega,λk e' hk' hat' he'=>?_⟩,hmu⟩
    by_cases ek:k=m
    .subst ek;have:e'=e:=by
      obtain⟨P1,a1,a2⟩:=hat;obtain⟨P2,b1,b2⟩:=hat';rw[a1]at b1;cases b1;rw[a2]at b2;cases b2;rfl
     subst this;exact absurd he' hk
    .exact hJ k e' (by omega) hat' he'
  .intro h;have hge:y.l.length<=m:=by simpa [len]using h
   have hwn:=bq n (by omega)
   refine(ah _).2 ((ah _).2 ⟨⟨n+1,hwn,by omega,λp k e a hp hat ha hka he=>?_⟩,by show _-(IntKind.wrap .i64 ((n:Int)+1)).toNat<_;rw[hwn];simp;omega⟩)
   by_cases ep:p=n
   .subst ep;rw[ζd hlt]at ha;cases ha;exact hJ k e (by omega) hat he
   .exact hI p k e a (by omega) hat ha hka he
 .intro h;have hge:c.l.length<=n:=by simpa [len]using h
  refine(ah _).2 ((ah _).2 ⟨λ_ p k e a hat ha hka he=>hI p k e a (by have:=(ζe.1 ha).1;omega) hat ha hka he,λh=>(by cases h)⟩)
theorem Im {t:Trace} (hS:Small t) (hv:di t=some true) (hV:VT t) {A:bg 200 ay} (hM:fh t (aV t) A) {c:Sl Int} (hR:je t c.l):Wp (fF t c) λr=>(r.2.2=false↔jO t A c.l):=by
 refine(OF hS hv hV hM hR).mono λr hr=>⟨hr.1,λhC=>?_⟩
 cases h:r.2.2 with
 | false=>rfl
 | true=>
  obtain⟨p,k,e,a,q,j,y,b,h1,h2,h3,h4,h5,h6,_,h7,h8⟩:=hr.2 h;obtain⟨b',g1,g2⟩:=hC p k e a h1 h2 h3 h4;rw[h5,h6]at g1 g2;simp only[Int.toNat_natCast]at g1 g2;rw[h7]at g1;cases g1;omega
end Go.VE
namespace Go.VE
theorem yB {s:Sl (Sl Int)} {p:Sl Int->Option Bool} {f:Sl Int->Bool} (hp:∀x∈s.l,p x=some (f x)) (hl:s.l.length<1073741824):gi s p=some (s.l.any f):=by
 have h:eT s p=some (place f s.l):=oe hp (by omega) (λi=>rfl)
 unfold gi;rw[h,ζb,nQ]
theorem Hz {t:Trace} (hS:Small t) {c:Sl Int} (hcl:c.l.length=t.procs.l.length):Wp (iL t c) λb=>(b=true↔je t c.l):=by
 have h1:=hS.1;unfold iL iL.W1;refine dI (λs:Int=>∃n:Nat,s=n/\n<=c.l.length/\∀(p:Nat) (a:Int) (P:bt),p<n->c.l[p]? = some a->t.procs.l[p]? = some P->0<=a/\a<=P.events.l.length) (λs:Int=>c.l.length-s.toNat) ⟨0,rfl,Nat.zero_le _,λp a P h=>absurd h (by omega)⟩ ?_
 rintro s ⟨n,rfl,hn,hI⟩;unfold iL.an;rw[bh];constructor
 .intro h;have hlt:n<c.l.length:=by simpa [len]using h
  have hlt2:n<t.procs.l.length:=by omega
  have hw:=bq n (by omega)
  rw[aD hlt,ζb,aD hlt2,ζb,iA,ζb,bh];constructor
  .intro hb;have hb:c.l[n]<0\/c.l[n]>t.procs.l[n].events.l.length:=by simpa [len]using hb
   refine(ah _).2 ((ah _).2 ⟨λh=>(by cases h),λhR=>?_⟩)
   have:=hR.2 n _ _ (ζd hlt) (ζd hlt2);omega
  .intro hb;have hb:0<=c.l[n]/\c.l[n]<=t.procs.l[n].events.l.length:=by simpa [len]using hb
   refine(ah _).2 ⟨⟨n+1,hw,by omega,λp a P hp ha hP=>?_⟩,by rw[hw];simp;omega⟩
   by_cases e:p=n
   .subst e;rw[ζd hlt]at ha;cases ha;rw[ζd hlt2]at hP;cases hP;exact hb
   .exact hI p a P (by omega) ha hP
 .intro h;have hge:c.l.length<=n:=by simpa [len]using h
  refine(ah _).2 ((ah _).2 ⟨λ_=>⟨hcl,λp a P ha hP=>hI p a P (by have:=(ζe.1 ha).1;omega) ha hP⟩,λ_=>rfl⟩)
def Code (t:Trace) (A:bg 200 ay) (c:List Int) (r:Int):Prop:=c.length≠t.procs.l.length/\r=1\/c.length=t.procs.l.length/\¬je t c/\r=2\/je t c/\¬jO t A c/\r=18\/je t c/\jO t A c/\r=0
theorem Rx {t:Trace} (hS:Small t) (hv:di t=some true) (hV:VT t) {A:bg 200 ay} (hM:fh t (aV t) A) (c:Sl Int) :
 Wp (dZ t (Sl.row [c]:Sl (Sl Int)) (Sl.nil:Sl Int)) λr=>Code t A c.l r:=by
 unfold dZ xN;rw[hv,ζb,aL,yB (f:=λz=>(mb z t).getD false) (λz _=>GL.ok ((ah _).2 trivial)) (by simp[Sl.l]),ζb,ζb,ζb]
 have hany:(!((Sl.row [c]:Sl (Sl Int)).l.any λz=>(mb z t).getD false))=(len c==len t.procs):=by
  simp[Sl.l,mb]
 rw[hany,bh];constructor
 .intro h;have hcl:c.l.length=t.procs.l.length:=by
   have:(c.l.length:Int)=t.procs.l.length:=by simpa [len]using h
   omega
  unfold dZ.W1;refine dI (λs:Int=>s=0\/s=1/\je t c.l) (λs:Int=>1-s.toNat) (.inl rfl) ?_
  intro s hs;unfold dZ.an;rcases hs with rfl|⟨rfl,hR⟩
  .rw[show decide ((0:Int)<len (Sl.row [c]:Sl (Sl Int)))=true from rfl,aL,show idx (Sl.row [c]:Sl (Sl Int)) 0=some c from rfl,ζb,eB];refine(Hz hS hcl).mono λb hb=>?_
   rw[bh];exact⟨λhbt=>(ah _).2 ⟨.inr ⟨rfl,hb.1 hbt⟩,by decide⟩,λhbf=>(ah _).2 ((ah _).2 (.inr (.inl ⟨hcl,λh=>(by rw[hb.2 h]at hbf;cases hbf),rfl⟩)))⟩
  .rw[show decide ((1:Int)<len (Sl.row [c]:Sl (Sl Int)))=false from rfl,aQ,ah];show Wp (dZ.W2 (Sl.row [c]) Sl.nil 0 0 t) _;unfold dZ.W2;refine dI (λs:Int=>s=0) (λ_=>0) rfl ?_
   rintro s rfl;unfold dZ.aY;rw[show decide ((0:Int)<0)=false from rfl,aQ,ah];show Wp (dZ.W3 (Sl.row [c]) 1 0 t) _;unfold dZ.W3;refine dI (λs:Int=>s=0\/s=1/\jO t A c.l) (λs:Int=>1-s.toNat) (.inl rfl) ?_
   intro s hs;unfold dZ.cI;rcases hs with rfl|⟨rfl,hC⟩
   .rw[show decide ((0:Int)<1)=true from rfl,aL,show idx (Sl.row [c]:Sl (Sl Int)) 0=some c from rfl,ζb];unfold wL;rw[eB,eB];refine(Im hS hv hV hM hR).mono λr hr=>?_
    rw[ah,bh];exact⟨λhb=>(ah _).2 ⟨.inr ⟨rfl,hr.1 (by simpa using hb)⟩,by decide⟩,λhb=>(ah _).2 ((ah _).2 (.inr (.inr (.inl ⟨hR,λh=>(by have:=hr.2 h;simp[this]at hb),rfl⟩))))⟩
   .rw[show decide ((1:Int)<1)=false from rfl,aQ,ah];exact(ah _).2 (.inr (.inr (.inr ⟨hR,hC,rfl⟩)))
 .intro h;exact(ah _).2 (.inl ⟨λe=>(by simp[len,e]at h),rfl⟩)
theorem Code.zero {t:Trace} {A:bg 200 ay} {c:List Int} {r:Int} (h:Code t A c r):r=0↔je t c/\jO t A c:=by
 rcases h with⟨h,rfl⟩|⟨_,h,rfl⟩|⟨_,h,rfl⟩|⟨h1,h2,rfl⟩
 .exact⟨λh=>(by cases h),λh'=>absurd h'.1.1 h⟩
 .exact⟨λh=>(by cases h),λh'=>absurd h'.1 h⟩
 .exact⟨λh=>(by cases h),λh'=>absurd h'.2 h⟩
 .exact⟨λ_=>⟨h1,h2⟩,λ_=>rfl⟩
theorem Na {t:Trace} (hS:Small t) (hv:di t=some true) (hV:VT t) {A:bg 200 ay} (hM:fh t (aV t) A) (c:Sl Int) :
 Wp (dZ t (Sl.row [c]:Sl (Sl Int)) (Sl.nil:Sl Int)) λr=>(r=0↔je t c.l/\jO t A c.l):=(Rx hS hv hV hM c).mono λ_ h=>h.zero
def Cons (t:Trace) (A:bg 200 ay) (c:List Int):Prop:=je t c/\jO t A c
end Go.VE
namespace Go.VE
end Go.VE
namespace Go.VE
end Go.VE
namespace Go.VE
def qT (kind m:Int) (x:aa×Event):Bool:=x.2.kind==kind&&x.2.message==m
def kK (t:Trace) (kind m:Int):aa:=match (aV t).find? (qT kind m)with
 | some x=>x.1
 | none=>⟨0,0⟩
theorem HL {t:Trace} {kind m:Int} {p:Nat} {P:bt} (hp8:p<9223372036854775806) (hP:t.procs.l[p]? = some P) (hl:P.events.l.length<1073741824):∀(q i:Nat),i+q=P.events.l.length ->
 aK (λq:Int=>cC.aY kind m p t ⟨0,0⟩ q) (i:Int)=some (match (gz p i (P.events.l.drop i)).find? (qT kind m)with|some x=>.r x.1|none=>.x ()):=by
 have hix:idx t.procs (p:Int)=some P:=by rw[qZ];exact hP
 intro q
 induction q with
 | zero=>
  intro i hi;rw[fN];unfold cC.aY;rw[hix,ζb,show decide ((i:Int)<len P.events)=false from by simp[len];omega,aQ,List.drop_of_length_le (by omega)]
  rfl
 | succ q ih=>
  intro i hi;have hil:i<P.events.l.length:=by omega
  rw[fN];have hs:cC.aY kind m p t ⟨0,0⟩ i=some (if qT kind m (⟨p,(i:Int)+1⟩,P.events.l[i])then .r ⟨p,(i:Int)+1⟩else .n ((i+1:Nat):Int)):=by
   unfold cC.aY;rw[hix,ζb,show decide ((i:Int)<len P.events)=true from by simp[len];omega,aL,ζb,aD hil,ζb,kQ,ζb,bq i (by omega),rG]
   rfl
  rw[hs,ζb,List.drop_eq_getElem_cons hil];simp only[gz,List.find?_cons]
  cases hh:qT kind m (⟨p,(i:Int)+1⟩,P.events.l[i])with
  | true=>rfl
  | false=>
   simp only[Bool.false_eq_true,if_false];exact ih (i+1) (by omega)
theorem HO {t:Trace} (hS:Small t) {kind m:Int}:∀(q p:Nat),p+q=t.procs.l.length ->
 aK (λq:Int=>cC.an kind m t ⟨0,0⟩ q) (p:Int)=some (match (dW p (t.procs.l.drop p)).find? (qT kind m)with|some x=>.r x.1|none=>.x ()):=by
 have h1:=hS.1;intro q
 induction q with
 | zero=>
  intro p hp;rw[fN];unfold cC.an;rw[show decide ((p:Int)<len t.procs)=false from by simp[len];omega,aQ,List.drop_of_length_le (by omega)]
  rfl
 | succ q ih=>
  intro p hp;have hpl:p<t.procs.l.length:=by omega
  have hw:aK (λq:Int=>cC.aY kind m p t ⟨0,0⟩ q) 0=some (match (gz p 0 t.procs.l[p].events.l).find? (qT kind m)with|some x=>.r x.1|none=>.x ()):=HL (t:=t) (kind:=kind) (m:=m) (by omega) (ζd hpl) (hS.2 _ (List.getElem_mem hpl)).1 (t.procs.l[p].events.l.length) 0 (by omega)
  rw[fN];unfold cC.an;rw[show decide ((p:Int)<len t.procs)=true from by simp[len];omega,aL]
  unfold cC.W2;rw[hw,List.drop_eq_getElem_cons hpl];simp only[dW,List.find?_append]
  cases hf:(gz p 0 t.procs.l[p].events.l).find? (qT kind m)with
  | some x=>rfl
  | none=>
   simp only[ζb,Fw.elim,Option.none_or];rw[bq p (by omega)]
   exact ih (p+1) (by omega)
theorem find_eq {t:Trace} (hS:Small t) (kind m:Int):cC t kind m=some (kK t kind m):=by
 unfold cC cC.W1;have hw:aK (λq:Int=>cC.an kind m t ⟨0,0⟩ q) 0=some (match (aV t).find? (qT kind m)with|some x=>.r x.1|none=>.x ()):=HO hS (kind:=kind) (m:=m) t.procs.l.length 0 (by omega)
 rw[hw];unfold kK;cases (aV t).find? (qT kind m) <;> rfl
theorem AZ {t:Trace} {kind m:Int} {x:aa×Event} (h:(aV t).find? (qT kind m)=some x):x∈aV t/\x.2.kind=kind/\x.2.message=m/\kK t kind m=x.1:=by
 have h1:=List.find?_some h;simp only[qT,ζh,beq_iff_eq]at h1;exact⟨List.mem_of_find?_eq_some h,h1.1,h1.2,by unfold kK;rw[h]⟩
theorem Fb {t:Trace} {kind m:Int} {x:aa×Event} (hx:x∈aV t) (hk:x.2.kind=kind) (hm:x.2.message=m):∃y,(aV t).find? (qT kind m)=some y:=by
 cases hf:(aV t).find? (qT kind m)with
 | some y=>exact⟨y,rfl⟩
 | none=>
  rw[List.find?_eq_none]at hf;exact absurd (hf x hx) (by simp[qT,hk,hm])
theorem N9 {t:Trace} {p k:Nat} {e:Event} (h:jG t p k e) (hk:k<9223372036854775807):sV t ⟨p,k+1⟩=some e:=by
 obtain⟨P,hP,he⟩:=h;unfold sV;dsimp only;rw[show idx t.procs (p:Int)=some P from by rw[qZ];exact hP,ζb,show IntKind.wrap .i64 ((k:Int)+1-1)=(k:Int)from by rw[pH _ (by omega) (by omega)];omega,show idx P.events (k:Int)=some e from by rw[qZ];exact he]
 rfl
def tS (t:Trace) (x:aa×Event):Int:=if x.2.kind=1 then 0 else if kK t x.2.kind x.2.message=x.1 then(if x.2.kind=3 then(if qO t x.2.peer x.2.message x.1.proc then 0 else 7)else 0)else 8
theorem K5 {t:Trace} (hS:Small t) {p k:Nat} {e:Event} (h:jG t p k e) (hF:jC t.procs.l.length p e):gp t ⟨p,k+1⟩=some (tS t (⟨p,k+1⟩,e)):=by
 have hk:k<1073741824:=by
  obtain⟨P,hP,he⟩:=h;have:=(hS.2 P (List.mem_of_getElem? hP)).1;have:=(ζe.1 he).1;omega
 unfold gp tS;rw[N9 h (by omega),ζb]
 dsimp only
 by_cases h1:e.kind=1
 .rw[show (e.kind==1)=true from by simp[h1],aL,if_pos h1]
 .rw[show (e.kind==1)=false from by simp[h1],aQ,if_neg h1,find_eq hS,ζb]
  have hev:GR (kK t e.kind e.message) ⟨p,(k:Int)+1⟩=decide (kK t e.kind e.message=⟨p,(k:Int)+1⟩):=by
   unfold GR;rw[Bool.eq_iff_iff];cases kK t e.kind e.message;simp
  rw[hev]
  by_cases h2:kK t e.kind e.message=⟨p,(k:Int)+1⟩
  .rw[if_pos h2,show decide (kK t e.kind e.message=⟨p,(k:Int)+1⟩)=true from by simpa using h2,aL]
   by_cases h3:e.kind=3
   .rw[if_pos h3,show (e.kind==3)=true from by simp[h3],aL]
    have hpe:0<=e.peer/\e.peer<t.procs.l.length:=by
     rcases hF with h|⟨_,h1,h2,_⟩
     .exact absurd h h1
     .exact⟨h1,h2⟩
    have hq:e.peer.toNat<t.procs.l.length:=by omega
    have hQ:=ζd hq;have hql:=(hS.2 _ (List.getElem_mem hq)).1;generalize hQe:t.procs.l[e.peer.toNat]=Q at *;have hix:idx t.procs e.peer=some Q:=by rw[Rh hpe.1];exact hQ
    have hsb:qO t e.peer e.message p=Q.events.l.any λs=>s.kind==2&&s.message==e.message&&s.peer==p:=by
     unfold qO;rw[hQ]
    unfold gp.W1;refine Wp.eq (dI (λz:Bool×Int=>∃m:Nat,z.2=m/\m<=Q.events.l.length/\z.1=(Q.events.l.take m).any λs=>s.kind==2&&s.message==e.message&&s.peer==p) (λz=>Q.events.l.length-z.2.toNat) ⟨0,rfl,Nat.zero_le _,rfl⟩ ?_)
    rintro⟨s,i⟩ ⟨m,hi,hm,hs⟩;simp only at hi hs;subst hi;unfold gp.an;dsimp only;rw[hix,ζb,bh];constructor
    .intro hl;have hml:m<Q.events.l.length:=by simpa [len]using hl
     have hw:=bq m (by omega)
     rw[ζb,aD hml,ζb,kQ,ζb,kQ,ζb,iA,ζb,ah];refine⟨⟨m+1,hw,by omega,?_⟩,by show _-(IntKind.wrap .i64 ((m:Int)+1)).toNat<_;rw[hw];simp;omega⟩
     show (s||_)=_;rw[List.take_add_one,ζd hml,List.any_append,hs];simp
    .intro hl;have hml:Q.events.l.length<=m:=by simpa [len]using hl
     rw[List.take_of_length_le hml]at hs;refine(ah _).2 ?_;rw[hsb,<-hs];cases s
     .exact(ah _).2 rfl
     .exact(ah _).2 rfl
   .rw[if_neg h3,show (e.kind==3)=false from by simp[h3],aQ]
  .rw[if_neg h2,show decide (kK t e.kind e.message=⟨p,(k:Int)+1⟩)=false from by simpa using h2,aQ]
theorem H9 {t:Trace} (hF:∀x∈aV t,jC t.procs.l.length x.1.proc x.2):(∀x∈aV t,tS t x=0)↔vP t:=by
 constructor
 .intro h;have key:∀x∈aV t,x.2.kind≠1->kK t x.2.kind x.2.message=x.1:=λx hx hk=>by
   have:=h x hx;unfold tS at this;rw[if_neg hk]at this;split at this
   .assumption
   .cases this
  refine⟨λx hx y hy kx ky hm=>?_,λx hx y hy kx ky hm=>?_,λx hx kx=>?_⟩
  .rw[<-key x hx (by omega),<-key y hy (by omega),kx,ky,hm]
  .rw[<-key x hx (by omega),<-key y hy (by omega),kx,ky,hm]
  .have:=h x hx;unfold tS at this;rw[if_neg (by omega),if_pos (key x hx (by omega)),if_pos kx]at this
   split at this
   .assumption
   .cases this
 .intro h x hx;unfold tS
  by_cases k1:x.2.kind=1
  .rw[if_pos k1]
  .rw[if_neg k1];obtain⟨y,hy⟩:=Fb hx rfl rfl;obtain⟨y1,y2,y3,y4⟩:=AZ hy;have hk:x.2.kind=2\/x.2.kind=3:=by
    rcases hF x hx with h|⟨h,_⟩
    .exact absurd h k1
    .exact h
   have he:kK t x.2.kind x.2.message=x.1:=by
    rw[y4];rcases hk with hk|hk
    .exact h.snd y y1 x hx (by rw[y2,hk]) hk y3
    .exact h.rcv y y1 x hx (by rw[y2,hk]) hk y3
   rw[if_pos he]
   by_cases k3:x.2.kind=3
   .rw[if_pos k3,if_pos (h.has x hx k3)]
   .rw[if_neg k3]
end Go.VE
namespace Go.VE
theorem zm {t:Trace} (hF:∀x∈aV t,jC t.procs.l.length x.1.proc x.2) (hP:vP t) {z:aa} {f:Event} (hz:(z,f)∈aV t) (hk:f.kind=3):∃e,(kK t 2 f.message,e)∈aV t/\e.kind=2/\e.message=f.message:=by
 have h:=hP.has _ hz hk;have hp:0<=f.peer:=by
  rcases hF _ hz with h|⟨_,h,_⟩
  .simp only at h;omega
  .exact h
 rw[show f.peer=((f.peer.toNat:Nat):Int)from by omega,AT]at h
 obtain⟨k,e,ha,h1,h2,_⟩:=h;obtain⟨y,hy⟩:=Fb (dg.2 ⟨_,k,ha,rfl⟩:((⟨(f.peer.toNat:Nat),k+1⟩:aa),e)∈aV t) h1 h2;obtain⟨y1,y2,y3,y4⟩:=AZ hy;exact⟨y.2,by rw[y4];exact y1,y2,y3⟩
theorem E0.find {t:Trace} (hF:∀x∈aV t,jC t.procs.l.length x.1.proc x.2) (hP:vP t) {y z:aa} {f:Event} (h:E0 t y z) (hz:(z,f)∈aV t):f.kind=3/\kK t 2 f.message=y:=by
 obtain⟨e,f',h1,h2,h3,h4,h5⟩:=h;cases Az h2 hz rfl;obtain⟨e',a1,a2,a3⟩:=zm hF hP hz h4;exact⟨h4,hP.snd _ a1 _ h1 a2 h3 (by rw[a3,h5])⟩
theorem zH {t:Trace} (hS:Small t) (hF:∀x∈aV t,jC t.procs.l.length x.1.proc x.2) (hP:vP t) {z:aa} (hz:Vd t z) :
 Wp (cE t z) λs=>s.l.length<=2/\∀y,y∈s.l↔Edge t y z:=by
 obtain⟨p,k,f,hat,rfl,hmem⟩:=hz.at_;have hk:k<1073741824:=by
  obtain⟨P,hP,he⟩:=hat;have:=(hS.2 P (List.mem_of_getElem? hP)).1;have:=(ζe.1 he).1;omega
 have j:∀s:Sl aa,s.l.length<=1->(∀y,y∈s.l↔Vd t y/\(⟨p,k+1⟩:aa)=⟨y.proc,y.index+1⟩)->Wp (cE.J1 s t ⟨p,k+1⟩) λs=>s.l.length<=2/\∀y,y∈s.l↔Edge t y ⟨p,k+1⟩:=by
  intro s hs hsy;unfold cE.J1;rw[N9 hat (by omega),ζb,bh]
  constructor
  .intro h3;have h3:f.kind=3:=by simpa using h3
   rw[find_eq hS,ζb];unfold fP;rw[if_pos (by omega),ζb,ah]
   refine⟨by show (s.l++[_]).length<=2;rw[ζi,List.length_singleton];omega,λy=>?_⟩
   show y∈s.l++[kK t 2 f.message]↔_;rw[List.mem_append,List.mem_singleton,hsy];obtain⟨e,a1,a2,a3⟩:=zm hF hP hmem h3;constructor
   .rintro (h|rfl)
    .exact⟨h.1,hz,.inl h.2⟩
    .exact⟨⟨e,a1⟩,hz,.inr ⟨e,f,a1,hmem,a2,h3,a3⟩⟩
   .rintro⟨h1,_,h2|h2⟩
    .exact .inl ⟨h1,h2⟩
    .exact .inr (h2.find hF hP hmem).2.symm
  .intro h3;refine(ah _).2 ⟨by omega,λy=>(hsy y).trans ⟨λh=>⟨h.1,hz,.inl h.2⟩,λ⟨h1,_,h2⟩=>⟨h1,h2.elim id λh2=>?_⟩⟩⟩
   have:=(h2.find hF hP hmem).1;simp[this]at h3
 unfold cE;rw[bh];constructor
 .intro h;have h:(k:Int)+1>1:=by simpa using h
  refine j _ (by simp[Sl.l]) λy=>?_
  have hw:IntKind.wrap .i64 ((k:Int)+1-1)=k:=by rw[pH _ (by omega) (by omega)];omega
  simp only[Sl.l,List.mem_singleton,hw,aa.mk.injEq];constructor
  .rintro rfl;obtain⟨P,hP,he⟩:=hat;have:=(ζe.1 he).1;exact⟨⟨P.events.l[k-1],dg.2 ⟨p,k-1,⟨P,hP,ζd (by omega)⟩,by simp;omega⟩⟩,rfl,rfl⟩
  .rintro⟨_,h1,h2⟩;cases y;simp only at h1 h2;congr 1 <;> omega
 .intro h;have h:¬(k:Int)+1>1:=by simpa using h
  refine j _ (by simp[Sl.l]) λy=>⟨λhy=>by simp[Sl.l]at hy,λ⟨hy,he⟩=>?_⟩
  obtain⟨q,i,f,_,rfl,_⟩:=hy.at_;simp only[aa.mk.injEq]at he;omega
theorem Q1 {α:Type} {r:α->α->Prop} {x:α} (h:Acc r x):¬Relation.TransGen r x x:=by
 induction h with
 | intro x _ ih=>
  intro h
  cases h with
  | single h=>exact ih x h (.single h)
  | tail h1 h2=>exact ih _ h2 (Relation.TransGen.trans (.single h2) h1)
theorem G_:∀{d:List Nat} {i k:Nat},d[i]? = some k->(d.set i (k+1)).sum=d.sum+1
 | [],_,_,h=>by simp at h
 | x::d,0,k,h=>by simp at h;subst h;simp;omega
 | x::d,i+1,k,h=>by
  have:=G_ (d:=d) (i:=i) (k:=k) (by simpa using h)
  simp[this];omega
theorem Kn:∀{d l:List Nat},d.length=l.length->(∀(i a b:Nat),d[i]? = some a->l[i]? = some b->a<=b)->d.sum<=l.sum
 | [],_,_,_=>by simp
 | x::d,[],h,_=>by simp at h
 | x::d,y::l,h,hh=>by
  have h1:=hh 0 x y rfl rfl;have h2:=Kn (d:=d) (l:=l) (by simpa using h) λi a b ha hb=>hh (i+1) a b (by simpa using ha) (by simpa using hb)
  simp;omega
def nI (d:List Nat):List Int:=d.map Int.ofNat
def sI (s:Sl Int):Nat:=(s.l.map Int.toNat).sum
theorem DW (d:List Nat):sI (.row (nI d))=d.sum:=by
 unfold sI nI;rw[show (Sl.row (d.map Int.ofNat)).l=d.map Int.ofNat from rfl,List.map_map,show (Int.toNat ∘ Int.ofNat)=id from rfl,List.map_id]
theorem J7 (d:List Nat):(nI d).length=d.length:=by simp[nI]
structure Kh (t:Trace) (d:List Nat):Prop where
 len:d.length=t.procs.l.length
 le:∀(p k:Nat) P,d[p]? = some k->t.procs.l[p]? = some P->k<=P.events.l.length
 acc:∀(p k j:Nat),d[p]? = some k->j<k->Acc (Edge t) ⟨p,j+1⟩
def rH (t:Trace):Nat:=(t.procs.l.map λP=>P.events.l.length).sum
theorem Kh.sum {t:Trace} {d:List Nat} (h:Kh t d):d.sum<=rH t:=Kn (by simp[h.len]) λi a b ha hb=>by
 rw[List.getElem?_map]at hb
 cases hP:t.procs.l[i]? with
 | none=>simp[hP]at hb
 | some P=>simp[hP]at hb;rw[<-hb];exact h.le i a P ha hP
theorem Bf {d:List Nat} {p:Nat} (h:p<d.length):Sl.mw (.row (nI d)) (p:Int)=some p:=by
 unfold Sl.mw;rw[if_pos ⟨by omega,by simpa [Sl.l,J7]using h⟩];rfl
theorem ym {d:List Nat} {p k:Nat} (h:d[p]? = some k):Sl.get (.row (nI d)) p=some (k:Int):=by
 unfold Sl.get nI;rw[show (Sl.row (d.map Int.ofNat)).l=d.map Int.ofNat from rfl,List.getElem?_map,h];rfl
def Mv (t:Trace) (d0:List Nat) (s:Sl Int) (b:Bool) (d:List Nat):Prop:=s=.row (nI d)/\Kh t d/\d0.sum<=d.sum/\(b=true->d0.sum<d.sum)
def KQ (t:Trace) (d0:List Nat) (p:Nat) (w:Fw (Sl Int×Bool×Int) (Sl Int×Bool) Empty):Prop:=∃s' b' d',w=.n (s',b',((p+1:Nat):Int))/\Mv t d0 s' b' d'
theorem Oq {t:Trace} (hS:Small t) (hF:∀x∈aV t,jC t.procs.l.length x.1.proc x.2) (hP:vP t) {d0 d1:List Nat} {s:Sl Int} {b:Bool} {p:Nat} (hp:p<t.procs.l.length) (hM:Mv t d0 s b d1) :
 Wp (bW.W3 s b p t) (KQ t d0 p):=by
 have hix:=aD hp;have hn:=hS.1;have hPl:=(hS.2 _ (List.getElem_mem hp)).1;have hPg:=ζd hp;generalize t.procs.l[p]=P at *;unfold bW.W3;refine dI (λq:Sl Int×Bool=>∃d,Mv t d0 q.1 q.2 d) (λq=>rH t-sI q.1) ⟨d1,hM⟩ ?_
 rintro⟨s,b⟩ ⟨d,rfl,hK,hd,hb⟩;simp only at hb;have hpd:p<d.length:=by rw[hK.len];exact hp
 have hg:=ζd hpd;generalize d[p]=k at hg;have hkl:=hK.le p k P hg hPg;have stop:∀{pr:Empty->Prop},Wp (some (Fw.x (Sl.row (nI d),b))) (NM (λq:Sl Int×Bool=>∃d,Mv t d0 q.1 q.2 d) (λq=>rH t-sI q.1) (λe=>Wp (some (Fw.n (e.1,e.2,IntKind.wrap .i64 ((p:Int)+1)))) (KQ t d0 p)) pr (Sl.row (nI d),b)):=by
  refine(ah _).2 ((ah _).2 ⟨_,_,d,?_,rfl,hK,hd,hb⟩);rw[bq p (by omega)]
 unfold bW.cI;rw[Bf hpd,ζb,ym hg,ζb,hix,ζb,bh];refine⟨λh=>?_,λ_=>stop⟩
 have hlt:k<P.events.l.length:=by simpa [Go.VE.len]using h
 have hat:jG t p k P.events.l[k]:=⟨P,hPg,ζd hlt⟩;have hmem:((⟨p,k+1⟩:aa),P.events.l[k])∈aV t:=dg.2 ⟨p,k,hat,rfl⟩;have go:(P.events.l[k].kind=3->∀q j:Nat,kK t 2 P.events.l[k].message=⟨q,j+1⟩->∃k',d[q]? = some k'/\j<k')->∀{px:Sl Int×Bool->Prop} {pr:Empty->Prop},Wp (bW.J4 (.row (nI d)) p t) (NM (λq:Sl Int×Bool=>∃d,Mv t d0 q.1 q.2 d) (λq=>rH t-sI q.1) px pr (Sl.row (nI d),b)):=by
  intro hq px pr;unfold bW.J4;rw[Bf hpd,ζb,ym hg,ζb,ζb];unfold Sl.put;rw[if_pos (by simpa [Sl.l,J7]using hpd),ζb,ah]
  have hset:(nI d).set p (IntKind.wrap .i64 ((k:Int)+1))=nI (d.set p (k+1)):=by
   rw[bq k (by omega)];unfold nI;rw[List.map_set];rfl
  have hsum:=G_ hg;have hK2:Kh t (d.set p (k+1)):=by
   refine⟨by simp[hK.len],λq i Q hi hQ=>?_,λq i j hi hj=>?_⟩
   .rw[List.getElem?_set]at hi;split at hi
    .rename_i e;subst e;cases hi;rw[hPg]at hQ;cases hQ;omega
    .exact hK.le q i Q hi hQ
   .rw[List.getElem?_set]at hi;split at hi
    .rename_i e;subst e;cases hi
     by_cases hjk:j<k
     .exact hK.acc p k j hg hjk
     .have:j=k:=by omega
      subst this;refine Acc.intro _ λy hy=>?_
      obtain⟨hyv,_,he|he⟩:=hy
      .obtain⟨q,i,f,_,rfl,_⟩:=hyv.at_;simp only[aa.mk.injEq]at he;have e1:q=p:=by omega
       subst e1;exact hK.acc q j i hg (by omega)
      .obtain⟨h3,hf⟩:=he.find hF hP hmem;obtain⟨q,i,f,_,rfl,_⟩:=hyv.at_;obtain⟨k',hk',hik⟩:=hq h3 q i hf;exact hK.acc q k' i hk' hik
    .exact hK.acc q i j hi hj
  have hs2:=hK2.sum;refine⟨⟨_,by rw[<-hset],hK2,by rw[hsum];omega,λ_=>by rw[hsum];omega⟩,?_⟩
  show rH t-sI (.row ((nI d).set p (IntKind.wrap .i64 ((k:Int)+1))))<rH t-sI (.row (nI d));rw[hset,DW,DW,hsum];rw[hsum]at hs2;omega
 dsimp only;rw[ζb,ζb,ym hg,ζb,aD hlt,ζb,bh];refine⟨λh3=>?_,λh3=>go λh=>by simp[h]at h3⟩
 have h3:P.events.l[k].kind=3:=by simpa using h3
 obtain⟨e,a1,a2,a3⟩:=zm hF hP hmem h3;obtain⟨q,j,hat2,hqj⟩:=dg.1 a1;simp only at hqj;have hqd:q<d.length:=by
  obtain⟨Q,hQ,_⟩:=hat2;rw[hK.len];exact(ζe.1 hQ).1
 have hgq:=ζd hqd;rw[find_eq hS,ζb,hqj,Bf hqd,ζb,ym hgq,ζb,bh];refine⟨λ_=>stop,λh=>go λ_ q' j' hh=>?_⟩
 rw[hqj]at hh;simp only[aa.mk.injEq]at hh;have e1:q'=q:=by omega
 have e2:j'=j:=by omega
 subst e1 e2;exact⟨_,hgq,by simp at h;omega⟩
theorem I5 {t:Trace} (hS:Small t) (hF:∀x∈aV t,jC t.procs.l.length x.1.proc x.2) (hP:vP t):Wp (bW t) λb=>b=true->¬G2 t:=by
 have hn:=hS.1;unfold bW tw;rw[if_pos (by simp[len];omega),ζb]
 have h0:(Sl.row (List.replicate (len t.procs).toNat (0:Int)))=.row (nI (List.replicate t.procs.l.length 0)):=by simp[len,nI]
 rw[h0];unfold bW.W1;have hrep:∀(p k:Nat),(List.replicate t.procs.l.length 0)[p]? = some k->k=0:=λp k h=>by
  rw[List.getElem?_replicate]at h;split at h <;> simp at h;exact h.symm
 refine dI (λs:Sl Int=>∃d,s=.row (nI d)/\Kh t d) (λs=>rH t-sI s) ⟨_,rfl,by simp,λp k P h _=>by rw[hrep p k h];omega,λp k j h hj=>by rw[hrep p k h]at hj;omega⟩ ?_
 rintro s ⟨d0,rfl,hK⟩;unfold bW.an bW.W2;refine dI (λq:Sl Int×Bool×Int=>∃(n:Nat) (d:List Nat),q.2.2=n/\n<=t.procs.l.length/\Mv t d0 q.1 q.2.1 d) (λq=>t.procs.l.length-q.2.2.toNat) ⟨0,d0,rfl,Nat.zero_le _,rfl,hK,Nat.le_refl _,by simp⟩ ?_
 rintro⟨s,b,i⟩ ⟨n,d,hi,hnn,hM⟩;simp only at hi hM;subst hi;unfold bW.aY;rw[bh];constructor
 .intro h;have hlt:n<t.procs.l.length:=by simpa [len]using h
  refine(Oq hS hF hP hlt hM).mono ?_;rintro w ⟨s',b',d',rfl,hM'⟩;exact⟨⟨n+1,d',rfl,by omega,hM'⟩,by simp;omega⟩
 .intro _;obtain⟨rfl,hK',hle,hmv⟩:=hM;rw[ah];show Wp (aj b _ _) _;rw[bh];refine⟨λhb=>(ah _).2 ⟨⟨d,rfl,hK'⟩,?_⟩,λ_=>(ah _).2 ?_⟩
  .show rH t-sI (.row (nI d))<rH t-sI (.row (nI d0));rw[DW,DW];have:=hmv hb;have:=hK'.sum;omega
  .show Wp (bW.W5 (.row (nI d)) 0 t) _;unfold bW.W5;refine dI (λi:Int=>∃n:Nat,i=n/\n<=t.procs.l.length/\∀p,p<n->∀P,t.procs.l[p]? = some P->d[p]? = some P.events.l.length) (λi:Int=>t.procs.l.length-i.toNat) ⟨0,rfl,Nat.zero_le _,λp hp=>absurd hp (by omega)⟩ ?_
   rintro i ⟨n,rfl,hn',hh⟩;unfold bW.ov;rw[bh];constructor
   .intro h;have hlt:n<t.procs.l.length:=by simpa [len]using h
    have hnd:n<d.length:=by rw[hK'.len];exact hlt
    have hg:=ζd hnd;rw[Bf hnd,ζb,ym hg,ζb,aD hlt,ζb,bh];refine⟨λ_=>(ah _).2 ((ah _).2 λh=>by cases h),λh=>(ah _).2 ⟨⟨n+1,bq n (by omega),by omega,λp hp P hP=>?_⟩,by rw[bq n (by omega)];simp;omega⟩⟩
    by_cases e:p=n
    .subst e;rw[ζd hlt]at hP;cases hP;have:=hK'.le p _ _ hg (ζd hlt);simp[len]at h;rw[hg];congr 1;omega
    .exact hh p (by omega) P hP
   .intro h;have hge:t.procs.l.length<=n:=by simpa [len]using h
    refine(ah _).2 ((ah _).2 λ_ ⟨x,hx⟩=>?_)
    obtain⟨p,k,e,⟨P,hP,he⟩,rfl,_⟩:=hx.l.at_;have hpl:=(ζe.1 hP).1;exact Q1 (hK'.acc p _ k (hh p (by omega) P hP) (ζe.1 he).1) hx
end Go.VE
namespace Go.VE
def oQ (out:List (List Bool)) (y:aa):Bool:=match out[y.proc.toNat]? with
 | some row=>row[y.index.toNat]?.getD false
 | none=>false
theorem yW {t:Trace} {out:List (List Bool)} {p k:Nat} {row:List Bool} (hr:out[p]? = some row) (hk:k+1<row.length) {z:aa} (hz:Vd t z) :
 oQ (out.set p (row.set (k+1) true)) z=(decide (z=⟨p,k+1⟩)||oQ out z):=by
 obtain⟨q,j,e,_,rfl,_⟩:=hz.at_;have hp:=(ζe.1 hr).1;unfold oQ;have e1:(⟨(q:Int),(j:Int)+1⟩:aa).proc.toNat=q:=rfl;have e2:(⟨(q:Int),(j:Int)+1⟩:aa).index.toNat=j+1:=by show ((j:Int)+1).toNat=j+1;omega
 rw[e1,e2,List.getElem?_set]
 by_cases hpq:p=q
 .subst hpq;rw[if_pos rfl,if_pos hp,hr];dsimp only;rw[List.getElem?_set]
  by_cases hkj:k=j
  .subst hkj;simp[hk]
  .rw[if_neg (by omega),show decide ((⟨(p:Int),(j:Int)+1⟩:aa)=⟨p,k+1⟩)=false from by simp;omega,Bool.false_or]
 .rw[if_neg hpq,show decide ((⟨(q:Int),(j:Int)+1⟩:aa)=⟨p,k+1⟩)=false from by simp;omega,Bool.false_or]
theorem yp {α:Type} {f g:α->Bool}:∀{l:List α},(∀z∈l,f z=true->g z=true)->(∃z∈l,f z=false/\g z=true)->l.countP f<l.countP g
 | [],_,⟨z,hz,_⟩=>by simp at hz
 | a::l,h,⟨z,hz,hf,hg⟩=>by
  simp only[List.countP_cons];have hle:=List.countP_mono_left (l:=l) (p:=f) (q:=g) λx hx=>h x (List.mem_cons_of_mem _ hx)
  rcases List.mem_cons.1 hz with rfl|hz
  .simp[hf,hg];omega
  .have:=yp (l:=l) (λx hx=>h x (List.mem_cons_of_mem _ hx)) ⟨z,hz,hf,hg⟩
   have h1:=h a (List.mem_cons_self ..)
   cases hfa:f a with
   | true=>simp[h1 hfa];omega
   | false=>simp;split <;> omega
def cnt (t:Trace) (out:List (List Bool)):Nat:=(aV t).countP λz=>oQ out z.1
structure Tn (t:Trace) (x:aa) (out:List (List Bool)) (rest:List aa):Prop where
 shp:∀(p:Nat) P,t.procs.l[p]? = some P->∃row,out[p]? = some row/\row.length=P.events.l.length+1
 len:out.length=t.procs.l.length
 que:∀y∈rest,Way t y x
 snd:∀y,Vd t y->oQ out y=true->Way t y x
 cls:∀z,z=x\/Vd t z/\oQ out z=true->∀y,Edge t y z->oQ out y=true\/y∈rest
 le:rest.length<=2*cnt t out+2
theorem zT {t:Trace} {y:aa}:oQ (e9 t) y=false:=by
 unfold oQ e9;split
 .rename_i row h;rw[List.getElem?_map]at h
  cases hP:t.procs.l[y.proc.toNat]? with
  | none=>simp[hP]at h
  | some P=>
   simp[hP]at h;subst h;rw[List.getElem?_replicate];split <;> rfl
 .rfl
theorem Pr {t:Trace} (hS:Small t) (hN:(aV t).length<1073741824) (hF:∀x∈aV t,jC t.procs.l.length x.1.proc x.2) (hP:vP t) {x:aa} (hx:Vd t x) :
 Wp (lI t x) λs=>∃out,s=nested out/\Tn t x out []/\∀y,Vd t y->(oQ out y=true↔Way t y x):=by
 unfold lI;rw[if_pos (by
  unfold xO;simp only[ζh,List.all_eq_true,decide_eq_true_eq];exact⟨by have:=hS.1;omega,λP hP=>by have:=(hS.2 P hP).1;omega⟩),eB]
 refine(zH hS hF hP hx).mono λs hs=>?_
 refine dI (λq:List (List Bool)×List aa=>Tn t x q.1 q.2) (λq=>2*((aV t).length-cnt t q.1)+q.2.length) ⟨λp P hP=>⟨List.replicate (P.events.l.length+1) false,by simp[e9,hP],by simp⟩,by simp[e9],λy hy=>.single ((hs.2 y).1 hy),λy _ h=>(by rw[zT]at h;cases h),λz hz y hy=>?_,by have:=hs.1;show s.l.length<=2*cnt t (e9 t)+2;omega⟩ ?_
 .rcases hz with rfl|⟨_,h⟩
  .exact .inr ((hs.2 y).2 hy)
  .rw[zT]at h;cases h
 rintro⟨out,rest⟩ hI
 cases rest with
 | nil=>
  show Wp (some _) _;refine(ah _).2 ((ah _).2 ⟨out,rfl,hI,λy hy=>⟨hI.snd y hy,λhw=>?_⟩⟩)
  have key:∀w,Way t y w->w=x\/Vd t w/\oQ out w=true->oQ out y=true:=λw hw=>by
   induction hw with
   | single h=>exact λhw=>(hI.cls _ hw _ h).elim id λh=>by cases h
   | tail hyb hbw ih=>exact λhw=>ih (.inr ⟨hbw.1,(hI.cls _ hw _ hbw).elim id λh=>by cases h⟩)
  exact key x hw (.inl rfl)
 | cons y rest=>
  have hyw:=hI.que y (List.mem_cons_self ..);have hyv:=hyw.l;obtain⟨p,k,e,hat,rfl,hmem⟩:=hyv.at_;obtain⟨P,hPp,hk⟩:=hat;have hkl:=(ζe.1 hk).1;obtain⟨row,hr,hrl⟩:=hI.shp p P hPp;have hkr:k+1<row.length:=by omega
  show Wp (mC _ (out,⟨p,k+1⟩::rest)) _;unfold mC;have e2:((k:Int)+1).toNat=k+1:=by omega
  dsimp only;rw[if_pos ⟨by omega,by omega⟩,show ((p:Nat):Int).toNat=p from rfl,e2,hr,ζb,ζd hkr,ζb,bh]
  have hmk:oQ out ⟨p,k+1⟩=row[k+1]:=by
   unfold oQ;rw[show ((⟨(p:Int),(k:Int)+1⟩:aa).proc).toNat=p from rfl,hr];dsimp only;rw[e2,ζd hkr];rfl
  constructor
  .intro hb;rw[ah];refine⟨⟨hI.shp,hI.len,λy hy=>hI.que y (List.mem_cons_of_mem _ hy),hI.snd,λz hz y hy=>?_,by have:=hI.le;simp only[List.length_cons]at this;show rest.length<=2*cnt t out+2;omega⟩,Nat.add_lt_add_left (Nat.lt_succ_self _) _⟩
   rcases hI.cls z hz y hy with h|h
   .exact .inl h
   .rcases List.mem_cons.1 h with rfl|h
    .exact .inl (by rw[hmk];exact hb)
    .exact .inr h
  .intro hb;rw[eB];refine(zH hS hF hP hyv).mono λmore hm=>?_
   have hle:=hI.le;simp only[List.length_cons]at hle;have hcl:cnt t out<=(aV t).length:=List.countP_le_length;have hm1:=hm.1;have hlt:cnt t out<cnt t (out.set p (row.set (k+1) true)):=yp (λz hz h=>by rw[yW hr hkr ⟨_,hz⟩,h,Bool.or_true]) ⟨_,hmem,by rw[hmk,hb],by rw[yW hr hkr hyv];simp⟩
   have hcl2:cnt t (out.set p (row.set (k+1) true))<=(aV t).length:=List.countP_le_length;rw[if_pos (by omega),ah]
   refine⟨⟨λq Q hQ=>?_,by show (out.set _ _).length=_;rw[List.length_set];exact hI.len,λz hz=>?_,λz hz h=>?_,λz hz y hy=>?_,by show (rest++more.l).length<=_;rw[ζi];show _<=2*cnt t (out.set p (row.set (k+1) true))+2;omega⟩,?_⟩
   .show ∃r,(out.set p (row.set (k+1) true))[q]? = some r/\_;rw[List.getElem?_set];split
    .rename_i e;subst e;rw[if_pos (ζe.1 hr).1];rw[hPp]at hQ;cases hQ;exact⟨_,rfl,by simp[hrl]⟩
    .exact hI.shp q Q hQ
   .rcases List.mem_append.1 hz with hz|hz
    .exact hI.que z (List.mem_cons_of_mem _ hz)
    .exact .trans (.single ((hm.2 z).1 hz)) hyw
   .show Way t z x;have h:oQ (out.set p (row.set (k+1) true)) z=true:=h;rw[yW hr hkr hz]at h;simp only[Bool.or_eq_true,decide_eq_true_eq]at h;rcases h with rfl|h
    .exact hyw
    .exact hI.snd z hz h
   .show oQ (out.set p (row.set (k+1) true)) y=true\/y∈rest++more.l;rw[yW hr hkr hy.1];have old:z=x\/Vd t z/\oQ out z=true->(decide (y=⟨p,k+1⟩)||oQ out y)=true\/y∈rest++more.l:=λhz=>by
     rcases hI.cls z hz y hy with h|h
     .exact .inl (by rw[show oQ out y=true from h,Bool.or_true])
     .rcases List.mem_cons.1 h with rfl|h
      .exact .inl (by simp)
      .exact .inr (List.mem_append_left _ h)
    rcases hz with hz|⟨hzv,hz⟩
    .exact old (.inl hz)
    .have hz:oQ (out.set p (row.set (k+1) true)) z=true:=hz;rw[yW hr hkr hzv]at hz;simp only[Bool.or_eq_true,decide_eq_true_eq]at hz;rcases hz with rfl|hz
     .exact .inr (List.mem_append_right _ ((hm.2 y).2 hy))
     .exact old (.inr ⟨hzv,hz⟩)
   .show 2*((aV t).length-cnt t (out.set p (row.set (k+1) true)))+(rest++more.l).length<2*((aV t).length-cnt t out)+(_::rest).length;rw[ζi,List.length_cons];omega
theorem SP {t:Trace} (hS:Small t) (hN:(aV t).length<1073741824) (hF:∀x∈aV t,jC t.procs.l.length x.1.proc x.2) (hP:vP t):Wp (bP.W6 0 t ⟨0,0⟩) λr=>(r.2=0↔¬G2 t):=by
 have hn:=hS.1;unfold bP.W6;refine dI (λi:Int=>∃n:Nat,i=n/\n<=t.procs.l.length/\∀(p k:Nat) e,p<n->jG t p k e->¬Way t ⟨p,k+1⟩ ⟨p,k+1⟩) (λi:Int=>t.procs.l.length-i.toNat) ⟨0,rfl,Nat.zero_le _,λp k e hp=>absurd hp (by omega)⟩ ?_
 rintro i ⟨n,rfl,hnn,hh⟩;unfold bP.Hp;rw[bh];constructor
 .intro h;have hlt:n<t.procs.l.length:=by simpa [len]using h
  have hix:=aD hlt;have hPg:=ζd hlt;have hPl:=(hS.2 _ (List.getElem_mem hlt)).1;generalize t.procs.l[n]=P at *;unfold bP.W7;refine dI (λi:Int=>∃m:Nat,i=m/\m<=P.events.l.length/\∀k,k<m->¬Way t ⟨n,k+1⟩ ⟨n,k+1⟩) (λi:Int=>P.events.l.length-i.toNat) ⟨0,rfl,Nat.zero_le _,λk hk=>absurd hk (by omega)⟩ ?_
  rintro i ⟨m,rfl,hm,hk⟩;unfold bP.Hg;rw[hix,ζb,bh];constructor
  .intro h;have hml:m<P.events.l.length:=by simpa [len]using h
   have hw:=bq m (by omega)
   have hv:Vd t ⟨n,m+1⟩:=⟨P.events.l[m],dg.2 ⟨n,m,⟨P,hPg,ζd hml⟩,rfl⟩⟩;rw[hw,show (((m+1:Nat)):Int)=(m:Int)+1 from by simp,eB]
   refine(Pr hS hN hF hP hv).mono ?_;rintro s ⟨out,rfl,hI,hmk⟩;obtain⟨row,hr,hrl⟩:=hI.shp n P hPg;have hon:out≠[]:=by rintro rfl;cases hr
   have hkr:m+1<row.length:=by omega
   have h1:idx (nested out) (n:Int)=some (.row row):=by
    unfold nested;rw[if_neg hon,qZ];show (out.map Sl.row)[n]? = _;rw[List.getElem?_map,hr];rfl
   have h2:idx (Sl.row row) ((m:Int)+1)=some row[m+1]:=by
    rw[show (m:Int)+1=((m+1:Nat):Int)from by simp]
    exact aD (s:=Sl.row row) hkr
   rw[h1,ζb,h2,ζb,bh];have hb:row[m+1]=oQ out ⟨n,m+1⟩:=by
    unfold oQ;rw[show ((⟨(n:Int),(m:Int)+1⟩:aa).proc).toNat=n from rfl,hr];dsimp only;rw[show ((m:Int)+1).toNat=m+1 from by omega,ζd hkr];rfl
   rw[hb];refine⟨λhy=>(ah _).2 ((ah _).2 ((ah _).2 ⟨λh=>(by cases h),λh=>absurd ⟨_,(hmk _ hv).1 hy⟩ h⟩)),λhy=>(ah _).2 ⟨⟨m+1,by simp,by omega,λk hkm=>?_⟩,by simp;omega⟩⟩
   by_cases e:k=m
   .subst e;exact λhw=>by rw[(hmk _ hv).2 hw]at hy;cases hy
   .exact hk k (by omega)
  .intro h;have hge:P.events.l.length<=m:=by simpa [len]using h
   refine(ah _).2 ((ah _).2 ⟨⟨n+1,bq n (by omega),by omega,λp k e hp hat=>?_⟩,by rw[bq n (by omega)];simp;omega⟩)
   by_cases e:p=n
   .subst e;obtain⟨Q,hQ,he⟩:=hat;rw[hPg]at hQ;cases hQ;have:=(ζe.1 he).1;exact hk k (by omega)
   .exact hh p k _ (by omega) hat
 .intro h;have hge:t.procs.l.length<=n:=by simpa [len]using h
  refine(ah _).2 ((ah _).2 ⟨λ_ ⟨x,hx⟩=>?_,λ_=>rfl⟩)
  obtain⟨p,k,e,hat,rfl,_⟩:=hx.l.at_;obtain⟨P,hP,_⟩:=id hat;exact hh p k e (by have:=(ζe.1 hP).1;omega) hat hx
end Go.VE
namespace Go.VE
theorem EW {t:Trace} (hF:∀x∈aV t,jC t.procs.l.length x.1.proc x.2):(∀(p k:Nat) e,jG t p k e->tS t (⟨p,k+1⟩,e)=0)↔vP t:=
 Iff.trans ⟨λh x hx=>by obtain⟨p,k,h1,h2⟩:=dg.1 hx;obtain⟨a,e⟩:=x;simp only at h1 h2;rw[h2];exact h p k e h1,λh p k e ha=>h _ (dg.2 ⟨p,k,ha,rfl⟩)⟩ (H9 hF)
theorem JZ {t:Trace} (hS:Small t) (hN:(aV t).length<1073741824):Wp (bP t) λr=>(r.2=0↔Ok t):=by
 have hn:=hS.1;unfold bP;rw[iA,ζb,bh];refine⟨λhin=>(ah _).2 ⟨λh=>(by cases h),λh=>?_⟩,λhin=>?_⟩
 .have h1:=h.one;have h8:=h.few;simp only[Bool.or_eq_true,decide_eq_true_eq,len]at hin;omega
 have h8:1<=t.procs.l.length/\t.procs.l.length<=8:=by
  simp only[Bool.or_eq_false_iff,decide_eq_false_iff_not,len]at hin;omega
 unfold bP.W1;refine dI (λi:Int=>∃n:Nat,i=n/\n<=t.procs.l.length/\∀p,p<n->rM t p=0) (λi:Int=>t.procs.l.length-i.toNat) ⟨0,rfl,Nat.zero_le _,λp hp=>absurd hp (by omega)⟩ ?_
 rintro i ⟨n,rfl,hnn,hh⟩;unfold bP.an;rw[bh];constructor
 .intro h;have hlt:n<t.procs.l.length:=by simpa [len]using h
  rw[M_ hS hlt,ζb,bh];refine⟨λh0=>(ah _).2 ⟨⟨n+1,bq n (by omega),by omega,λp hp=>?_⟩,by rw[bq n (by omega)];simp;omega⟩,λh0=>(ah _).2 ((ah _).2 ⟨λh=>?_,λh=>?_⟩)⟩
  .by_cases e:p=n
   .subst e;simpa using h0
   .exact hh p (by omega)
  .simp only at h;simp[h]at h0
  .simp[h.heads n hlt]at h0
 intro h;have hge:t.procs.l.length<=n:=by simpa [len]using h
 rw[ah];unfold bP.W2;refine dI (λi:Int=>∃n:Nat,i=n/\n<=t.procs.l.length/\∀(p k:Nat) P e,p<n->t.procs.l[p]? = some P->P.events.l[k]? = some e->nM t.procs.l.length P p k e=0) (λi:Int=>t.procs.l.length-i.toNat) ⟨0,rfl,Nat.zero_le _,λp k P e hp=>absurd hp (by omega)⟩ ?_
 rintro i ⟨n',rfl,hnn',he⟩;unfold bP.aY;rw[bh];constructor
 .intro h;have hlt:n'<t.procs.l.length:=by simpa [len]using h
  have hix:=aD hlt;have hPg:=ζd hlt;have hPl:=(hS.2 _ (List.getElem_mem hlt)).1;generalize t.procs.l[n']=P at hix hPg hPl;unfold bP.W3;refine dI (λi:Int=>∃m:Nat,i=m/\m<=P.events.l.length/\∀(k:Nat) e,k<m->P.events.l[k]? = some e->nM t.procs.l.length P n' k e=0) (λi:Int=>P.events.l.length-i.toNat) ⟨0,rfl,Nat.zero_le _,λk e hk=>absurd hk (by omega)⟩ ?_
  rintro i ⟨m,rfl,hm,hk⟩;unfold bP.cI;rw[hix,ζb,bh];constructor
  .intro h;have hml:m<P.events.l.length:=by simpa [len]using h
   have hmg:=ζd hml;have hw:=bq m (by omega)
   rw[L4 hS hPg hmg,ζb,bh];refine⟨λh0=>(ah _).2 ⟨⟨m+1,hw,by omega,λk e hkm hke=>?_⟩,by rw[hw];simp;omega⟩,λh0=>(ah _).2 ((ah _).2 ((ah _).2 ⟨λh=>?_,λh=>?_⟩))⟩
   .by_cases ek:k=m
    .subst ek;rw[hmg]at hke;cases hke;simpa using h0
    .exact hk k e (by omega) hke
   .simp only at h;simp[h]at h0
   .simp[h.d_ n' m P _ hPg hmg]at h0
  .intro h;have hge':P.events.l.length<=m:=by simpa [len]using h
   refine(ah _).2 ((ah _).2 ⟨⟨n'+1,bq n' (by omega),by omega,λp k Q e hp hQ hke=>?_⟩,by rw[bq n' (by omega)];simp;omega⟩)
   by_cases ep:p=n'
   .subst ep;rw[hPg]at hQ;cases hQ;exact hk k e (by have:=(ζe.1 hke).1;omega) hke
   .exact he p k Q e (by omega) hQ hke
 intro h;have hge':t.procs.l.length<=n':=by simpa [len]using h
 have he:∀(p k:Nat) P e,t.procs.l[p]? = some P->P.events.l[k]? = some e->nM t.procs.l.length P p k e=0:=λp k P e hP hk=>he p k P e (by have:=(ζe.1 hP).1;omega) hP hk
 have hF:=Dd he;rw[ah];unfold bP.W4;refine dI (λi:Int=>∃n:Nat,i=n/\n<=t.procs.l.length/\∀(p k:Nat) e,p<n->jG t p k e->tS t (⟨p,k+1⟩,e)=0) (λi:Int=>t.procs.l.length-i.toNat) ⟨0,rfl,Nat.zero_le _,λp k e hp=>absurd hp (by omega)⟩ ?_
 rintro i ⟨q,rfl,hq,hpr⟩;unfold bP.jI;rw[bh];constructor
 .intro h;have hlt:q<t.procs.l.length:=by simpa [len]using h
  have hix:=aD hlt;have hPg:=ζd hlt;have hPl:=(hS.2 _ (List.getElem_mem hlt)).1;generalize t.procs.l[q]=P at hix hPg hPl;unfold bP.W5;refine dI (λi:Int=>∃m:Nat,i=m/\m<=P.events.l.length/\∀(k:Nat) e,k<m->P.events.l[k]? = some e->tS t (⟨q,k+1⟩,e)=0) (λi:Int=>P.events.l.length-i.toNat) ⟨0,rfl,Nat.zero_le _,λk e hk=>absurd hk (by omega)⟩ ?_
  rintro i ⟨m,rfl,hm,hk⟩;unfold bP.ov;rw[hix,ζb,bh];constructor
  .intro h;have hml:m<P.events.l.length:=by simpa [len]using h
   have hmg:=ζd hml;have hw:=bq m (by omega)
   have hat:jG t q m P.events.l[m]:=⟨P,hPg,hmg⟩;rw[hw,show (((m+1:Nat)):Int)=(m:Int)+1 from by simp,K5 hS hat (hF (⟨q,m+1⟩,P.events.l[m]) (dg.2 ⟨q,m,hat,rfl⟩)),ζb,bh]
   refine⟨λh0=>(ah _).2 ⟨⟨m+1,by simp,by omega,λk e hkm hke=>?_⟩,by simp;omega⟩,λh0=>(ah _).2 ((ah _).2 ((ah _).2 ⟨λh=>?_,λh=>?_⟩))⟩
   .by_cases ek:k=m
    .subst ek;rw[hmg]at hke;cases hke;simpa using h0
    .exact hk k e (by omega) hke
   .simp only at h;simp[h]at h0
   .simp[(EW hF).2 h.JW q m _ hat]at h0
  .intro h;have hge':P.events.l.length<=m:=by simpa [len]using h
   refine(ah _).2 ((ah _).2 ⟨⟨q+1,bq q (by omega),by omega,λp k e hp hat=>?_⟩,by rw[bq q (by omega)];simp;omega⟩)
   by_cases ep:p=q
   .subst ep;obtain⟨Q,hQ,hke⟩:=hat;rw[hPg]at hQ;cases hQ;exact hk k e (by have:=(ζe.1 hke).1;omega) hke
   .exact hpr p k e (by omega) hat
 intro h;have hgq:t.procs.l.length<=q:=by simpa [len]using h
 have hP:vP t:=(EW hF).1 λp k e hat=>hpr p k e (by obtain⟨P,hP,_⟩:=hat;have:=(ζe.1 hP).1;omega) hat
 have hok:¬G2 t↔Ok t:=⟨λh=>⟨h8.1,h8.2,λp hp=>hh p (by omega),he,hP,h⟩,λh=>h.acyc⟩
 rw[ah,eB];refine(I5 hS hF hP).mono λb hb=>?_
 rw[bh];exact⟨λh=>(ah _).2 ⟨λ_=>hok.1 (hb h),λ_=>rfl⟩,λ_=>(SP hS hN hF hP).mono λr hr=>hr.trans hok⟩
theorem J2 {t:Trace} (hS:Small t) (hN:(aV t).length<1073741824):∃b,di t=some b/\dL t=some b/\(b=true->VT t):=by
 obtain⟨b,hb,h1,h2⟩:=Me hS hN;refine⟨b,hb,?_,h1⟩;unfold dL;obtain⟨r,hr,h3⟩:=JZ hS hN;rw[hr,ζb]
 congr 1
 rw[Bool.eq_iff_iff,beq_iff_eq,h3];exact⟨h2,λh=>(h1 h).ok⟩
end Go.VE
namespace Go.VE
theorem FL {t:Trace} (hS:Small t) {c:Sl Int} (hcl:c.l.length=t.procs.l.length) {step:Int->Option (Fw Int Unit Unit)}
 (hs:∀i,step i=aj (decide (i<(len c))) ((idx c i).bind λx_1=>(aj (decide (x_1<0)) (some true) ((idx c i).bind λx_2=>(idx t.procs i).bind λx_3=>some (decide (x_2>(len x_3.events)))):Option Bool).bind λx_4=>aj x_4 (some (.r ())) (some (.n (IntKind.wrap .i64 (i+1))))) (some (.x ()))) :
 Wp ((aK step 0).bind (Fw.elim (λ_=>some true) (λ_=>some false))) λb=>(b=true↔je t c.l):=by
 have h1:=hS.1;refine dI (λs:Int=>∃n:Nat,s=n/\n<=c.l.length/\∀(p:Nat) (a:Int) (P:bt),p<n->c.l[p]? = some a->t.procs.l[p]? = some P->0<=a/\a<=P.events.l.length) (λs:Int=>c.l.length-s.toNat) ⟨0,rfl,Nat.zero_le _,λp a P h=>absurd h (by omega)⟩ ?_
 rintro s ⟨n,rfl,hn,hI⟩;rw[hs,bh];constructor
 .intro h;have hlt:n<c.l.length:=by simpa [len]using h
  have hlt2:n<t.procs.l.length:=by omega
  have hw:=bq n (by omega)
  rw[aD hlt,ζb,ζb,aD hlt2,ζb,iA,ζb,bh];constructor
  .intro hb;have hb:c.l[n]<0\/c.l[n]>t.procs.l[n].events.l.length:=by simpa [len]using hb
   refine(ah _).2 ((ah _).2 ⟨λh=>(by cases h),λhR=>?_⟩)
   have:=hR.2 n _ _ (ζd hlt) (ζd hlt2);omega
  .intro hb;have hb:0<=c.l[n]/\c.l[n]<=t.procs.l[n].events.l.length:=by simpa [len]using hb
   refine(ah _).2 ⟨⟨n+1,hw,by omega,λp a P hp ha hP=>?_⟩,by rw[hw];simp;omega⟩
   by_cases e:p=n
   .subst e;rw[ζd hlt]at ha;cases ha;rw[ζd hlt2]at hP;cases hP;exact hb
   .exact hI p a P (by omega) ha hP
 .intro h;have hge:c.l.length<=n:=by simpa [len]using h
  refine(ah _).2 ((ah _).2 ⟨λ_=>⟨hcl,λp a P ha hP=>hI p a P (by have:=(ζe.1 ha).1;omega) ha hP⟩,λ_=>rfl⟩)
theorem OD {t:Trace} (hS:Small t) {c:Sl Int} (hcl:c.l.length=t.procs.l.length):Wp (k_ t c) λb=>(b=true↔je t c.l):=by
 unfold k_;rw[show (len c==len t.procs)=true from by simp[len,hcl],aL]
 exact FL hS hcl λi=>rfl
theorem CV {t:Trace} (hV:VT t) {A:bg 200 ay} (hM:fh t (aV t) A) {p k:Nat} {e:Event} (hat:jG t p k e) (hk:e.kind=3):kK t 2 e.message=(ag A e.message).from_:=by
 obtain⟨y,h1,h2,h3⟩:=zm hV.formed hV.ok.JW (dg.2 ⟨p,k,hat,rfl⟩:((⟨p,k+1⟩:aa),e)∈aV t) hk;have:=hM.snd _ h1 h2;simp only[h3]at this;exact this.symm
end Go.VE
namespace Go.VE
end Go.VE
namespace Go.VE
end Go.VE
namespace Go.VE
theorem Jd {t:Trace} (hS:Small t) (hV:VT t) {A:bg 200 ay} (hM:fh t (aV t) A) {c:Sl Int} (hR:je t c.l):Wp (dJ t c) λb=>(b=true↔jO t A c.l):=by
 have hn8:=hV.few;have hcl:=hR.1;unfold dJ dJ.W1;refine dI (λs:Int=>∃n:Nat,s=n/\n<=c.l.length/\∀(p k:Nat) (e:Event) (a:Int),p<n->jG t p k e->c.l[p]? = some a->(k:Int)<a->e.kind=3->∃b,c.l[(ag A e.message).from_.proc.toNat]? = some b/\(ag A e.message).from_.index<=b) (λs:Int=>c.l.length-s.toNat) ⟨0,rfl,Nat.zero_le _,λp k e a h=>absurd h (by omega)⟩ ?_
 rintro s ⟨n,rfl,hn,hI⟩;unfold dJ.an;rw[bh];constructor
 .intro h;have hlt:n<c.l.length:=by simpa [len]using h
  have hlt2:n<t.procs.l.length:=by omega
  have hPl:=(hS.2 _ (List.getElem_mem hlt2)).1;have hPg:=ζd hlt2;have hcg:=ζd hlt;obtain⟨r1,r2⟩:=hR.2 n _ _ hcg hPg;have hix:=aD hlt;generalize c.l[n]=a at *;generalize hPe:t.procs.l[n]=P at *;unfold dJ.W2;refine dI (λs:Int=>∃m:Nat,s=m/\(m:Int)<=a/\∀(k:Nat) (e:Event),k<m->jG t n k e->e.kind=3->∃b,c.l[(ag A e.message).from_.proc.toNat]? = some b/\(ag A e.message).from_.index<=b) (λs:Int=>a.toNat-s.toNat) ⟨0,rfl,by simpa using r1,λk e h=>absurd h (by omega)⟩ ?_
  rintro s ⟨m,rfl,hm,hJ⟩;unfold dJ.aY;rw[hix,ζb,bh];constructor
  .intro h;have hma:(m:Int)<a:=by simpa using h
   have hmP:m<P.events.l.length:=by omega
   have hwm:=bq m (by omega)
   have hmu:a.toNat-(IntKind.wrap .i64 ((m:Int)+1)).toNat<a.toNat-((m:Int)).toNat:=by rw[hwm];simp;omega
   have hat:jG t n m P.events.l[m]:=⟨P,hPg,ζd hmP⟩;have hixP:idx t.procs (n:Int)=some P:=by rw[qZ];exact hPg
   have same:∀k e,jG t n k e->k=m->e=P.events.l[m]:=λk e ⟨Q,hQ,he⟩ hk=>by
    subst hk;rw[hPg]at hQ;cases hQ;rw[ζd hmP]at he;cases he;rfl
   unfold vH;rw[hixP,ζb,aD hmP,ζb,eB,bh];constructor
   .intro hk;have hk:P.events.l[m].kind=3:=by simpa using hk
    obtain⟨q,j,z,hz,z1,z2,z3,z4,z5⟩:=Ax hV hM hat hk;obtain⟨Q,hQ,_⟩:=hz;have hql:q<c.l.length:=by have:=(ζe.1 hQ).1;omega
    rw[find_eq hS,CV hV hM hat hk,ζb,z5];simp only;rw[aD hql,ζb,ah,bh];constructor
    .intro hle;have hle:(j:Int)+1<=c.l[q]:=by simpa using hle
     refine(ah _).2 ⟨⟨m+1,hwm,by omega,λk e' hk' hat' he'=>?_⟩,hmu⟩
     by_cases ek:k=m
     .cases same k e' hat' ek;rw[z5];exact⟨c.l[q],by simp only[Int.toNat_natCast];exact ζd hql,by simp only;omega⟩
     .exact hJ k e' (by omega) hat' he'
    .intro hgt;have hgt:¬((j:Int)+1<=c.l[q]):=by simpa using hgt
     refine(ah _).2 ((ah _).2 ((ah _).2 ⟨λh=>(by cases h),λhC=>?_⟩))
     obtain⟨b,hb1,hb2⟩:=hC n m _ a hat hcg hma hk;rw[z5]at hb1 hb2;simp only[Int.toNat_natCast]at hb1 hb2;rw[ζd hql]at hb1;cases hb1;omega
   .intro hk;rw[ah,aL];refine(ah _).2 ⟨⟨m+1,hwm,by omega,λk e' hk' hat' he'=>?_⟩,hmu⟩
    by_cases ek:k=m
    .cases same k e' hat' ek;simp[he']at hk
    .exact hJ k e' (by omega) hat' he'
  .intro h;have hge:¬(m:Int)<a:=by simpa using h
   refine(ah _).2 ((ah _).2 ⟨⟨n+1,bq n (by omega),by omega,λp k e a' hp hat ha' hk hk3=>?_⟩,by rw[bq n (by omega)];simp;omega⟩)
   by_cases ep:p=n
   .subst ep;rw[hcg]at ha';cases ha';exact hJ k e (by omega) hat hk3
   .exact hI p k e a' (by omega) hat ha' hk hk3
 .intro h;have hge:c.l.length<=n:=by simpa [len]using h
  refine(ah _).2 ((ah _).2 ⟨λ_ p k e a hat ha hk hk3=>hI p k e a (by have:=(ζe.1 ha).1;omega) hat ha hk hk3,λ_=>rfl⟩)
theorem Code.one {t:Trace} {A:bg 200 ay} {c:List Int} {r s:Int} (h:Code t A c r) (g:Code t A c s):r=s:=by
 rcases h with⟨h,rfl⟩|⟨h1,h2,rfl⟩|⟨h1,h2,rfl⟩|⟨h1,h2,rfl⟩ <;> rcases g with⟨g,rfl⟩|⟨g1,g2,rfl⟩|⟨g1,g2,rfl⟩|⟨g1,g2,rfl⟩ <;> first|rfl|contradiction|exact absurd ‹je t c›.1 ‹_›
end Go.VE
namespace Go.VE
theorem gu {σ ε ρ γ:Type} {step:σ->Option (Fw σ ε ρ)} {fx:ε->Option γ} {fr:ρ->Option γ} {P:γ->Prop} (n:Nat) (I:Nat->σ->Prop) {s:σ} (h0:I 0 s)
 (h:∀i s,i<n->I i s->Wp (step s) λw=>match w with|.n s'=>I (i+1) s'|.x e=>Wp (fx e) P|.r b=>Wp (fr b) P)
 (hn:∀s,I n s->Wp (step s) λw=>match w with|.n _=>False|.x e=>Wp (fx e) P|.r b=>Wp (fr b) P):Wp ((aK step s).bind (Fw.elim fx fr)) P:=by
 have key:∀m i s,i+m=n->I i s->Wp ((aK step s).bind (Fw.elim fx fr)) P:=by
  intro m
  induction m with
  | zero=>
   intro i s hi hI;obtain⟨w,hw,hr⟩:=hn s (by rw[<-hi];exact hI)
   rw[fN,hw]
   cases w with
   | n s'=>exact hr.elim
   | x e=>exact hr
   | r b=>exact hr
  | succ m ih=>
   intro i s hi hI;obtain⟨w,hw,hr⟩:=h i s (by omega) hI
   rw[fN,hw]
   cases w with
   | n s'=>exact ih (i+1) s' (by omega) hr
   | x e=>exact hr
   | r b=>exact hr
 exact key n 0 s (Nat.zero_add n) h0
theorem xw:∀{c:List Int} {p:Nat} {a b:Int},c[p]? = some a->(c.set p b).sum=c.sum-a+b
 | [],_,_,_,h=>by simp at h
 | x::c,0,a,b,h=>by simp at h;subst h;simp;omega
 | x::c,p+1,a,b,h=>by
  have:=xw (c:=c) (p:=p) (b:=b) (by simpa using h)
  simp only[List.set_cons_succ,List.sum_cons,this];omega
theorem qH:∀{c:List Int},(∀(p:Nat) a,c[p]? = some a->0<=a)->0<=c.sum
 | [],_=>by simp
 | x::c,h=>by
  have h1:=h 0 x rfl;have h2:=qH (c:=c) λp a ha=>h (p+1) a (by simpa using ha)
  simp only[List.sum_cons];omega
theorem EG:∀{c:List Int},(∀(p:Nat) a,c[p]? = some a->0<=a)->c.sum=0->∀(p:Nat) a,c[p]? = some a->a=0
 | [],_,_,p,a,ha=>by simp at ha
 | x::c,h,hs,p,a,ha=>by
  have h1:=h 0 x rfl;have hc:∀(p:Nat) a,c[p]? = some a->0<=a:=λp a ha=>h (p+1) a (by simpa using ha)
  have h2:=qH hc;simp only[List.sum_cons]at hs
  cases p with
  | zero=>simp at ha;omega
  | succ p=>exact EG hc (by omega) p a (by simpa using ha)
theorem G0:∀{c:List Int} {l:List Nat},c.length=l.length->(∀(i:Nat) a b,c[i]? = some a->l[i]? = some b->a<=(b:Nat))->c.sum<=(l.sum:Nat)
 | [],[],_,_=>by simp
 | x::c,y::l,hl,h=>by
  have h1:=h 0 x y rfl rfl;have h2:=G0 (c:=c) (l:=l) (by simpa using hl) λi a b ha hb=>h (i+1) a b (by simpa using ha) (by simpa using hb)
  simp only[List.sum_cons];omega
section
variable {t:Trace} {A:bg 200 ay} {c:List Int}
theorem je.pos (h:je t c) (p:Nat) (a:Int) (ha:c[p]? = some a):0<=a:=
 (h.2 p a _ ha (ζd (by have:=(ζe.1 ha).1;rw[<-h.1];exact this))).1
theorem je.at_ (h:je t c) {p:Nat} (hp:p<t.procs.l.length):∃a,c[p]? = some a:=⟨_,ζd (by rw[h.1];exact hp)⟩
theorem je.sum (h:je t c):0<=c.sum/\c.sum<=(rH t:Nat):=
 ⟨qH h.pos,G0 (by simp[h.1]) λi a b ha hb=>by
  rw[List.getElem?_map]at hb
  cases hP:t.procs.l[i]? with
  | none=>simp[hP]at hb
  | some P=>simp[hP]at hb;rw[<-hb];exact(h.2 i a P ha hP).2⟩
theorem je.set (h:je t c) {p:Nat} {b:Int} {P:bt} (hP:t.procs.l[p]? = some P) (h0:0<=b) (h1:b<=P.events.l.length):je t (c.set p b):=by
 refine⟨by simp[h.1],λq a Q ha hQ=>?_⟩
 rw[List.getElem?_set]at ha;split at ha
 .rename_i e;subst e;split at ha
  .cases ha;rw[hP]at hQ;cases hQ;exact⟨h0,h1⟩
  .cases ha
 .exact h.2 q a Q ha hQ
def TI (t:Trace) (A:bg 200 ay) (c:List Int) (p:Nat):Prop:=∃P e a,t.procs.l[p]? = some P/\c[p]? = some a/\P.events.l[a.toNat]? = some e/\(e.kind=3->∃b,c[(ag A e.message).from_.proc.toNat]? = some b/\(ag A e.message).from_.index<=b)
theorem jG.one {p k:Nat} {e f:Event} (h:jG t p k e) (g:jG t p k f):e=f:=by
 obtain⟨P,a1,a2⟩:=h;obtain⟨Q,b1,b2⟩:=g;rw[a1]at b1;cases b1;rw[a2]at b2;cases b2;rfl
theorem jO.le (h:jO t A c) {p:Nat} {a b:Int} (ha:c[p]? = some a) (hab:a<=b) (hn:∀(k:Nat) e,jG t p k e->a<=k->(k:Int)<b->e.kind=3->∃b',(c.set p b)[(ag A e.message).from_.proc.toNat]? = some b'/\(ag A e.message).from_.index<=b'):jO t A (c.set p b):=by
 have hp:=(ζe.1 ha).1;have up:∀(q:Nat) x,c[q]? = some x->∃y,(c.set p b)[q]? = some y/\x<=y:=λq x hx=>by
  rw[List.getElem?_set]
  by_cases e:p=q
  .subst e;rw[ha]at hx;cases hx;exact⟨b,by simp[hp],hab⟩
  .exact⟨x,by simp[e,hx],Int.le_refl _⟩
 intro q k e x hat hx hk h3;rw[List.getElem?_set]at hx;have old:∀x,c[q]? = some x->(k:Int)<x->∃b',(c.set p b)[(ag A e.message).from_.proc.toNat]? = some b'/\(ag A e.message).from_.index<=b':=λx hx hk=>by
  obtain⟨y,hy,hy2⟩:=h q k e x hat hx hk h3;obtain⟨z,hz,hz2⟩:=up _ y hy;exact⟨z,hz,by omega⟩
 split at hx
 .rename_i ep;subst ep;simp[hp]at hx;subst hx
  by_cases hka:(k:Int)<a
  .exact old a ha hka
  .exact hn k e hat (by omega) hk h3
 .exact old x hx hk
theorem Ay (hV:VT t) (hM:fh t (aV t) A) {p k:Nat} {e:Event} (hat:jG t p k e) (h3:e.kind=3):∃q j:Nat,(ag A e.message).from_=⟨q,j+1⟩/\q≠p/\E0 t ⟨q,j+1⟩ ⟨p,k+1⟩/\∃y,jG t q j y:=by
 obtain⟨q,j,y,hy,y1,y2,y3,y4,y5⟩:=Ax hV hM hat h3;have hm:((⟨p,k+1⟩:aa),e)∈aV t:=dg.2 ⟨p,k,hat,rfl⟩;refine⟨q,j,y5,?_,⟨y,e,dg.2 ⟨q,j,hy,rfl⟩,hm,y1,h3,y2⟩,y,hy⟩;rcases hV.formed _ hm with h|⟨_,_,_,h,_⟩
 .simp only at h;omega
 .simp only at h;omega
theorem Cons.up (hV:VT t) (hM:fh t (aV t) A) (hC:Cons t A c) {p:Nat} {a:Int} {P:bt} (hP:t.procs.l[p]? = some P) (ha:c[p]? = some a) (hl:a<P.events.l.length):TI t A c p↔Cons t A (c.set p (a+1)):=by
 have h0:=hC.1.pos p a ha;have hp:=(ζe.1 ha).1;have han:((a.toNat:Nat):Int)=a:=by omega
 constructor
 .rintro⟨Q,e,x,hQ,hx,he,h3⟩;rw[hP]at hQ;cases hQ;rw[ha]at hx;cases hx;refine⟨hC.1.set hP (by omega) (by omega),hC.2.le ha (by omega) λk f hat hk1 hk2 hf=>?_⟩
  have hka:k=a.toNat:=by omega
  subst hka;cases hat.one ⟨P,hP,he⟩;obtain⟨b,hb,hb2⟩:=h3 hf;rw[List.getElem?_set]
  by_cases e2:p=(ag A e.message).from_.proc.toNat
  .rw[<-e2,ha]at hb;cases hb;exact⟨a+1,by simp[<-e2,hp],by omega⟩
  .exact⟨b,by rw[if_neg e2];exact hb,hb2⟩
 .intro h;have hel:a.toNat<P.events.l.length:=by omega
  refine⟨P,P.events.l[a.toNat],a,hP,ha,ζd hel,λh3=>?_⟩
  obtain⟨b,hb,hb2⟩:=h.2 p a.toNat _ (a+1) ⟨P,hP,ζd hel⟩ (by simp[hp]) (by omega) h3
  rw[List.getElem?_set]at hb;split at hb
  .rename_i e2;obtain⟨q,j,f1,f2,_⟩:=Ay hV hM ⟨P,hP,ζd hel⟩ h3;rw[f1]at e2;exact absurd e2.symm (by simpa using f2)
  .exact⟨b,hb,hb2⟩
noncomputable def B6 (t:Trace) (x:aa):Nat:=by
 classical
 exact(aV t).countP λz=>decide (Way t z.1 x)
theorem GG (hV:VT t) {x y:aa} (h:Way t x y):B6 t x<B6 t y:=by
 classical
 unfold B6;refine yp (λz _ hz=>?_) ?_
 .have hz:Way t z.1 x:=by simpa using hz
  simpa using hz.trans h
 .obtain⟨e,he⟩:=h.l;exact⟨(x,e),he,by simpa using λk=>hV.ok.acyc ⟨x,k⟩,by simpa using h⟩
theorem GY (x:aa):B6 t x<=(aV t).length:=by
 classical
 unfold B6;exact List.countP_le_length
theorem Vd.of {p k:Nat} {e:Event} (h:jG t p k e):Vd t ⟨p,k+1⟩:=⟨e,dg.2 ⟨p,k,h,rfl⟩⟩
theorem D_ {p:Nat} {P:bt} (hP:t.procs.l[p]? = some P):∀(d k:Nat),k+d+1<P.events.l.length->Way t ⟨p,k+1⟩ ⟨p,((k+d+1:Nat):Int)+1⟩
 | 0,k,h=>.single ⟨Vd.of ⟨P,hP,ζd (by omega)⟩,Vd.of ⟨P,hP,ζd h⟩,.inl (by simp)⟩
 | d+1,k,h=>(D_ hP d k (by omega)).tail ⟨Vd.of ⟨P,hP,ζd (show k+d+1<_ by omega)⟩,Vd.of ⟨P,hP,ζd h⟩,.inl (by simp;omega)⟩
theorem Q8 {q k:Nat} {b:Int} {Q:bt} {x:aa} (hQ:t.procs.l[q]? = some Q) (h:Way t x ⟨q,k+1⟩) (h1:(k:Int)<b) (h2:b<=Q.events.l.length):Way t x ⟨q,b⟩:=by
 by_cases e:b=k+1
 .rw[e];exact h
 .have:=D_ hQ (b.toNat-k-2) k (by omega)
  rw[show (((k+(b.toNat-k-2)+1:Nat):Int)+1)=b from by omega]at this
  exact h.trans this
theorem Cons.GM (hV:VT t) (hM:fh t (aV t) A) (hC:Cons t A c) {p:Nat} {a:Int} (ha:c[p]? = some a) (h0:0<a):Cons t A (c.set p (a-1))\/∃(q:Nat) (b:Int),c[q]? = some b/\0<b/\Way t ⟨p,a⟩ ⟨q,b⟩:=by
 have hp:=(ζe.1 ha).1;have hP:=ζd (show p<t.procs.l.length by rw[<-hC.1.1];exact hp)
 have hr:=hC.1.2 p a _ ha hP;refine Classical.byContradiction λhno=>hno (.inl ⟨hC.1.set hP (by omega) (by omega),λq k e x hat hx hk h3=>?_⟩)
 obtain⟨x0,hx0,hxx⟩:∃x0,c[q]? = some x0/\x<=x0:=by
  rw[List.getElem?_set]at hx;split at hx
  .rename_i e2;subst e2;simp[hp]at hx;exact⟨a,ha,by omega⟩
  .exact⟨x,hx,Int.le_refl _⟩
 obtain⟨y,hy,hy2⟩:=hC.2 q k e x0 hat hx0 (by omega) h3
 obtain⟨r,j,f1,f2,f3,_⟩:=Ay hV hM hat h3;rw[f1]at hy hy2 ⊢;simp only[Int.toNat_natCast]at hy hy2 ⊢;rw[List.getElem?_set]
 by_cases e2:p=r
 .subst e2;rw[ha]at hy;cases hy;refine⟨a-1,by simp[hp],?_⟩
  refine Classical.byContradiction λhj=>hno (.inr ⟨q,x0,hx0,by omega,?_⟩)
  have:a=(j:Int)+1:=by omega
  subst this;obtain⟨Q,hQ,_⟩:=hat;have hrq:=hC.1.2 q x0 Q hx0 hQ;obtain⟨ye,fe,m1,m2,m3⟩:=f3;exact Q8 hQ (.single ⟨⟨ye,m1⟩,⟨fe,m2⟩,.inr ⟨ye,fe,m1,m2,m3⟩⟩) (by omega) hrq.2
 .exact⟨y,by rw[if_neg e2];exact hy,hy2⟩
theorem Cons.S0 (hV:VT t) (hM:fh t (aV t) A) (hC:Cons t A c):∀(n p:Nat) (a:Int),c[p]? = some a->0<a->(aV t).length-B6 t ⟨p,a⟩<=n->∃(q:Nat) (b:Int),c[q]? = some b/\0<b/\Cons t A (c.set q (b-1)):=by
 intro n
 induction n with
 | zero=>
  intro p a ha h0 hn;rcases hC.GM hV hM ha h0 with h|⟨q,b,_,_,hw⟩
  .exact⟨p,a,ha,h0,h⟩
  .have:=GG hV hw;have:=GY (t:=t) ⟨q,b⟩;omega
 | succ n ih=>
  intro p a ha h0 hn;rcases hC.GM hV hM ha h0 with h|⟨q,b,hb,hb0,hw⟩
  .exact⟨p,a,ha,h0,h⟩
  .have:=GG hV hw;have:=GY (t:=t) ⟨q,b⟩;exact ih q b hb hb0 (by omega)
theorem Cons.down (hV:VT t) (hM:fh t (aV t) A) (hC:Cons t A c) (hs:0<c.sum):∃(q:Nat) (b:Int),c[q]? = some b/\0<b/\Cons t A (c.set q (b-1)):=by
 obtain⟨p,a,ha,h0⟩:∃(p:Nat) (a:Int),c[p]? = some a/\0<a:=by
  refine Classical.byContradiction λhno=>?_
  have hz:∀a∈c,a=0:=λa ha=>by
   obtain⟨p,hp⟩:=List.mem_iff_getElem?.1 ha;have:=hC.1.pos p a hp;exact Classical.byContradiction λhne=>hno ⟨p,a,hp,by omega⟩
  have:c.sum=0:=by
   clear hC hs hno
   induction c with
   | nil=>rfl
   | cons x c ih=>simp[hz x (List.mem_cons_self ..),ih λa ha=>hz a (List.mem_cons_of_mem _ ha)]
  omega
 exact hC.S0 hV hM _ p a ha h0 (Nat.le_refl _)
theorem Cons.Du (hV:VT t) (hM:fh t (aV t) A):∀(d:Nat) {c:List Int} {k:Nat},Cons t A c->c.sum=((k+d:Nat):Int)->∃c',Cons t A c'/\c'.sum=(k:Int)
 | 0,c,k,hC,hs=>⟨c,hC,by simpa using hs⟩
 | d+1,c,k,hC,hs=>by
  obtain⟨q,b,hb,hb0,hC2⟩:=hC.down hV hM (by omega)
  exact Cons.Du hV hM d hC2 (by rw[xw hb];omega)
end
end Go.VE
namespace Go.VE
theorem gf {α:Type} {s:Sl α} {n:Nat} (h:n<s.l.length):decide ((n:Int)<len s)=true:=by simp[len];omega
theorem gb {α:Type} {s:Sl α}:decide ((s.l.length:Int)<len s)=false:=by simp[len]
theorem rE {α:Type} {s x:Sl α} (h:s.l.length+x.l.length<=2147483648):∃r,jw s x=some r/\r.l=s.l++x.l:=by
 unfold jw
 by_cases e:x.l=[]
 .rw[if_pos e];exact⟨s,rfl,by rw[e,List.append_nil]⟩
 .rw[if_neg e,if_pos h];exact⟨_,rfl,rfl⟩
theorem mZ {α:Type} {s:Sl α} {x:α} (h:s.l.length<2147483648):∃r,fP s x=some r/\r.l=s.l++[x]:=by
 unfold fP;rw[if_pos (by omega)];exact⟨_,rfl,rfl⟩
theorem BO {α:Type} {s:Sl α} {p:Nat} (h:p<s.l.length):Sl.mw s (p:Int)=some p:=by
 unfold Sl.mw;rw[if_pos ⟨by omega,by simpa using h⟩];rfl
theorem put_eq {α:Type} {s:Sl α} {p:Nat} {x:α} (h:p<s.l.length):∃r,Sl.put s p x=some r/\r.l=s.l.set p x:=by
 unfold Sl.put;rw[if_pos h];exact⟨_,rfl,by cases s <;> first|rfl|(simp[Sl.l]at h)⟩
section
variable {t:Trace} {A:bg 200 ay}
def Ua (t:Trace) (A:bg 200 ay) (c:List Int) (n:Nat):Prop:=∀(p k:Nat) (e:Event) (a:Int),p<n->jG t p k e->c[p]? = some a->(k:Int)<a->e.kind=3->∃b,c[(ag A e.message).from_.proc.toNat]? = some b/\(ag A e.message).from_.index<=b
theorem Qy (hS:Small t) (hV:VT t) (hM:fh t (aV t) A) {c:Sl Int} (hR:je t c.l):Wp (cD t c) λb=>(b=true↔jO t A c.l):=by
 have hcl:=hR.1;have hn8:=hV.few;unfold cD cD.W1;refine gu c.l.length (λn s=>s=(n:Int)/\Ua t A c.l n) ⟨rfl,λp k e a h=>absurd h (by omega)⟩ ?_ ?_
 .rintro n _ hlt ⟨rfl,hI⟩;unfold cD.an;rw[gf hlt,aL];have hlt2:n<t.procs.l.length:=by omega
  have hPl:=(hS.2 _ (List.getElem_mem hlt2)).1;have hPg:=ζd hlt2;have hcg:=ζd hlt;obtain⟨r1,r2⟩:=hR.2 n _ _ hcg hPg;have hix:=aD hlt;generalize c.l[n]=a at *;generalize t.procs.l[n]=P at *;unfold cD.W2;refine gu a.toNat (λm s=>s=(m:Int)/\∀(k:Nat) (e:Event),k<m->jG t n k e->e.kind=3->∃b,c.l[(ag A e.message).from_.proc.toNat]? = some b/\(ag A e.message).from_.index<=b) ⟨rfl,λk e h=>absurd h (by omega)⟩ ?_ ?_
  .rintro m _ hm ⟨rfl,hJ⟩;unfold cD.aY;have hmP:m<P.events.l.length:=by omega
   have hat:jG t n m P.events.l[m]:=⟨P,hPg,ζd hmP⟩;rw[hix,ζb,show decide ((m:Int)<a)=true from by simp;omega,aL,qZ,hPg,ζb,aD hmP,ζb,bq m (by omega)]
   generalize P.events.l[m]=e at *;have more:(e.kind=3->∃b,c.l[(ag A e.message).from_.proc.toNat]? = some b/\(ag A e.message).from_.index<=b)->∀(k:Nat) (e:Event),k<m+1->jG t n k e->e.kind=3->∃b,c.l[(ag A e.message).from_.proc.toNat]? = some b/\(ag A e.message).from_.index<=b:=λh k f hk hf h3=>by
    by_cases ek:k=m
    .subst ek;cases hat.one hf;exact h h3
    .exact hJ k f (by omega) hf h3
   rw[bh];refine⟨λh3=>?_,λh3=>(ah _).2 ⟨rfl,more λk=>by simp[k]at h3⟩⟩
   have h3:e.kind=3:=by simpa using h3
   obtain⟨q,j,f1,_,_,y,Q,hQ,_⟩:=Ay hV hM hat h3;have hql:q<c.l.length:=by have:=(ζe.1 hQ).1;omega
   rw[find_eq hS,CV hV hM hat h3,ζb,f1];simp only;rw[aD hql,ζb,bh];refine⟨λhgt=>(ah _).2 ((ah _).2 ((ah _).2 ⟨λh=>(by cases h),λhC=>?_⟩)),λhle=>(ah _).2 ⟨rfl,more λ_=>?_⟩⟩
   .obtain⟨b,hb1,hb2⟩:=hC n m e a hat hcg (by omega) h3
    rw[f1]at hb1 hb2;simp only[Int.toNat_natCast,ζd hql,ζa]at hb1 hb2;simp only[decide_eq_true_eq]at hgt;omega
   .rw[f1];exact⟨c.l[q],by simp only[Int.toNat_natCast];exact ζd hql,by simp at hle ⊢;omega⟩
  .rintro _ ⟨rfl,hJ⟩;unfold cD.aY;rw[hix,ζb,show decide ((a.toNat:Int)<a)=false from by simp;omega,aQ]
   refine(ah _).2 ((ah _).2 ⟨bq n (by omega),λp k e x hp hat hx hk h3=>?_⟩)
   by_cases e2:p=n
   .subst e2;rw[hcg]at hx;cases hx;exact hJ k e (by omega) hat h3
   .exact hI p k e x (by omega) hat hx hk h3
 .rintro _ ⟨rfl,hI⟩;unfold cD.an;rw[gb,aQ];exact(ah _).2 ((ah _).2 ⟨λ_ p k e a hat hx=>hI p k e a (ζe.1 hx).1 hat hx,λ_=>rfl⟩)
theorem SO (hS:Small t) (hV:VT t) (hM:fh t (aV t) A) {c:Sl Int} (hcl:c.l.length=t.procs.l.length):Wp (u9 t c) λb=>(b=true↔Cons t A c.l):=by
 unfold u9;rw[eB];refine(OD hS hcl).mono λb hb=>?_
 rw[eB,bh];constructor
 .intro h;have hR:=hb.1 h;rw[eB];refine(Qy hS hV hM hR).mono λb2 hb2=>?_
  rw[ah,ah];exact hb2.trans ⟨λh=>⟨hR,h⟩,λh=>h.2⟩
 .intro h;rw[ah,ah];exact⟨λh=>(by cases h),λhC=>absurd (hb.2 hC.1) (by simp[h])⟩
theorem step_eq {c:Sl Int} {p:Nat} {a:Int} (ha:c.l[p]? = some a) (hl:c.l.length<=1073741824) (h0:0<=a) (h1:a<1073741824):∃d:Sl Int,oV c p=some d/\d.l=c.l.set p (a+1):=by
 have hp:=(ζe.1 ha).1;unfold oV;obtain⟨r,h2,h3⟩:=rE (s:=Sl.row []) (x:=c) (show 0+c.l.length<=_ by omega)
 have h3:r.l=c.l:=h3;rw[h2,ζb,BO (by rw[h3];exact hp),ζb]
 unfold Sl.get;rw[h3,ha,ζb,ζb,pH _ (by omega) (by omega)]
 obtain⟨d,h4,h5⟩:=put_eq (s:=r) (p:=p) (x:=a+1) (by rw[h3];exact hp)
 rw[h4];exact⟨d,rfl,by rw[h5,h3]⟩
end
end Go.VE
namespace Go.VE
def ins (s:Sl (Sl Int)):List (List Int):=s.l.map Sl.l
theorem Gf {α:Type} (s:Sl α) (i:Nat) (h:i<=s.l.length):∃x,eO s (some (i:Int)) none=some x/\x.l=s.l.drop i:=by
 unfold eO cN;simp only[Option.getD_some,Option.getD_none];rw[if_pos ⟨by omega,by omega,by omega⟩]
 exact⟨_,rfl,by cases s <;> simp[Sl.l]⟩
end Go.VE
namespace Go.VE
def xe (t:Trace) (A:bg 200 ay) (c d:List Int):Prop:=∃(p:Nat) (a:Int),c[p]? = some a/\d=c.set p (a+1)/\Cons t A d
section
variable {t:Trace} {A:bg 200 ay}
theorem nq {s:Sl (Sl Int)} {d:List Int}:d∈ins s↔∃x∈s.l,x.l=d:=by unfold ins;exact List.mem_map
theorem OW {r s:Sl (Sl Int)} {x:Sl Int} (h:r.l=s.l++[x]) {d:List Int}:d∈ins r↔d∈ins s\/d=x.l:=by
 unfold ins;rw[h];simp
theorem OS (hS:Small t) (hV:VT t) (hM:fh t (aV t) A) {c:Sl Int} (hC:Cons t A c.l):Wp (gP t c) λr=>r.l.length<=8/\∀d,d∈ins r↔xe t A c.l d:=by
 have hcl:=hC.1.1;have hn8:=hV.few;unfold gP gP.W1;refine gu c.l.length (λn s=>s.2=(n:Int)/\s.1.l.length<=n/\∀d,d∈ins s.1↔∃(p:Nat) (a:Int),p<n/\c.l[p]? = some a/\d=c.l.set p (a+1)/\Cons t A d) ⟨rfl,Nat.le_refl _,λd=>⟨λh=>by simp[ins,Sl.l]at h,λ⟨p,a,h,_⟩=>absurd h (by omega)⟩⟩ ?_ ?_
 .rintro n ⟨out,_⟩ hlt ⟨h,hlen,hI⟩;simp only at h hlen hI;subst h;have hlt2:n<t.procs.l.length:=by omega
  have hPl:=(hS.2 _ (List.getElem_mem hlt2)).1;have hcg:=ζd hlt;have hr:=hC.1.2 n _ _ hcg (ζd hlt2);unfold gP.an;rw[gf hlt,aL,aD hlt,ζb,aD hlt2,ζb,bq n (by omega)]
  generalize c.l[n]=a at *;have keep:¬Cons t A (c.l.set n (a+1))->∀d,d∈ins out↔∃(p:Nat) (a:Int),p<n+1/\c.l[p]? = some a/\d=c.l.set p (a+1)/\Cons t A d:=λhno d=>by
   rw[hI];refine⟨λ⟨p,b,h,k⟩=>⟨p,b,by omega,k⟩,λ⟨p,b,h,k1,k2,k3⟩=>⟨p,b,?_,k1,k2,k3⟩⟩
   refine Classical.byContradiction λhp=>hno ?_
   have:p=n:=by omega
   subst this;rw[hcg]at k1;cases k1;rw[<-k2];exact k3
  by_cases hlt3:a<t.procs.l[n].events.l.length
  .obtain⟨d,hd,hdl⟩:=step_eq (c:=c) hcg (by omega) hr.1 (by omega)
   rw[show decide (a<(len t.procs.l[n].events))=true from by simpa [len]using hlt3,aL,hd,ζb,eB,eB]
   refine(SO hS hV hM (c:=d) (by rw[hdl,List.length_set];exact hcl)).mono λb hb=>?_
   rw[hdl]at hb;rw[ah,bh];constructor
   .intro ht;obtain⟨r,hr1,hr2⟩:=mZ (s:=out) (x:=d) (by omega)
    rw[ζb,hr1,ζb,ah];refine⟨rfl,by rw[hr2];simp;omega,λe=>?_⟩
    rw[OW hr2,hI,hdl];constructor
    .rintro (⟨p,b,h,k⟩|h)
     .exact⟨p,b,by omega,k⟩
     .exact⟨n,a,by omega,hcg,h,by rw[h];exact hb.1 ht⟩
    .rintro⟨p,b,h,k1,k2,k3⟩
     by_cases e2:p=n
     .subst e2;rw[hcg]at k1;cases k1;exact .inr k2
     .exact .inl ⟨p,b,by omega,k1,k2,k3⟩
   .intro hf;exact(ah _).2 ⟨rfl,Nat.le_succ_of_le hlen,keep λh=>by rw[hb.2 h]at hf;cases hf⟩
  .rw[show decide (a<(len t.procs.l[n].events))=false from by simpa [len]using hlt3,aQ,ζb,aQ,ah]
   refine⟨rfl,Nat.le_succ_of_le hlen,keep λh=>?_⟩
   have:=h.1.2 n (a+1) _ (by simp[List.getElem?_set,hlt]) (ζd hlt2)
   omega
 .rintro⟨out,_⟩ ⟨h,hlen,hI⟩;simp only at h hlen hI;subst h;unfold gP.an;rw[gb,aQ,ah];refine(ah _).2 ⟨show out.l.length<=8 by omega,λd=>(hI d).trans ⟨λ⟨p,a,_,h⟩=>⟨p,a,h⟩,λ⟨p,a,h⟩=>⟨p,a,(ζe.1 h.1).1,h⟩⟩⟩
def D2 (t:Trace) (A:bg 200 ay) (k:Nat) (s:Sl (Sl Int)):Prop:=∀d,d∈ins s↔Cons t A d/\d.sum=(k:Int)
theorem xe.iff (hV:VT t) (hM:fh t (aV t) A) {k:Nat} {d:List Int}:(∃c,(Cons t A c/\c.sum=(k:Int))/\xe t A c d)↔Cons t A d/\d.sum=((k+1:Nat):Int):=by
 constructor
 .rintro⟨c,⟨hC,hs⟩,p,a,ha,rfl,hD⟩;exact⟨hD,by rw[xw ha];omega⟩
 .rintro⟨hD,hs⟩;obtain⟨q,b,hb,hb0,hC⟩:=hD.down hV hM (by omega)
  have hq:=(ζe.1 hb).1;refine⟨_,⟨hC,by rw[xw hb];omega⟩,q,b-1,by simp[hq],?_,hD⟩
  rw[List.set_set,show b-1+1=b from by omega]
  refine List.ext_getElem? λi=>?_
  rw[List.getElem?_set];split
  .rename_i e;subst e;simp[hq,hb];exact(ζe.1 hb).2.symm▸rfl
  .rfl
theorem wR {s:Sl (Sl Int)} {n:Nat} (h:n<s.l.length) {d:List Int}:d∈(s.l.take (n+1)).map Sl.l↔d∈(s.l.take n).map Sl.l\/d=s.l[n].l:=by
 rw[show s.l.take (n+1)=s.l.take n++[s.l[n]]from by rw[List.take_add_one,ζd h];rfl]
 simp only[List.map_append,List.mem_append,List.map_cons,List.map_nil,List.mem_singleton]
theorem G5:∀n:Nat,(List.replicate n (0:Int)).sum=0
 | 0=>rfl
 | n+1=>by rw[List.replicate_succ,List.sum_cons,G5 n];rfl
theorem Je:Cons t A (List.replicate t.procs.l.length 0):=by
 have hz:∀(p:Nat) a,(List.replicate t.procs.l.length (0:Int))[p]? = some a->a=0:=λp a h=>by
  rw[List.getElem?_replicate]at h;split at h <;> cases h;rfl
 exact⟨⟨by simp,λp a P ha _=>by rw[hz p a ha];omega⟩,λp k e a _ ha hk=>by rw[hz p a ha]at hk;omega⟩
theorem TL {z:Sl Int} (hz:z.l=List.replicate t.procs.l.length 0):D2 t A 0 (Sl.row [z]):=by
 intro d;have:d∈ins (Sl.row [z])↔d=List.replicate t.procs.l.length 0:=by unfold ins;rw[<-hz];exact List.mem_singleton
 rw[this];constructor
 .rintro rfl;exact⟨Je,by rw[G5];rfl⟩
 .rintro⟨hC,hs⟩;refine List.ext_getElem? λi=>?_
  rw[List.getElem?_replicate,<-hC.1.1];split
  .rename_i hi;have h:=ζd hi;rw[h,EG hC.1.pos (by simpa using hs) i _ h]
  .exact List.getElem?_eq_none (by omega)
theorem D2.none (hV:VT t) (hM:fh t (aV t) A) {k:Nat} {s:Sl (Sl Int)} (h:D2 t A k s) (he:s.l.length=0) {d:List Int} (hD:Cons t A d):d.sum<(k:Int):=by
 refine Classical.byContradiction λhge=>?_
 have h0:=qH hD.1.pos;obtain⟨c,hC,hs⟩:=Cons.Du hV hM (d.sum.toNat-k) (k:=k) hD (by omega)
 have:=(h c).2 ⟨hC,hs⟩;obtain⟨x,hx,_⟩:=nq.1 this;have:=List.length_pos_of_mem hx;omega
theorem D2.last {s:Sl (Sl Int)} (h:D2 t A (rH t+1) s):s.l.length=0:=by
 refine Classical.byContradiction λhne=>?_
 have hx:=List.getElem_mem (show 0<s.l.length by omega)
 have:=(h s.l[0].l).1 (nq.2 ⟨_,hx,rfl⟩);have:=this.1.1.sum;omega
theorem Ku {α:Type} (s:Sl α):decide ((len s)>0) = !decide (s.l.length=0):=by
 by_cases h:s.l.length=0
 .simp[len,h]
 .simp[h,len];omega
end
end Go.VE
namespace Go.VE
def iW:List Int->List Int->Int
 | [],[]=>0
 | [],_::_=>-1
 | _::_,[]=>1
 | x::a,y::b=>if x<y then -1 else if x>y then 1 else iW a b
theorem Dr:∀a,iW a a=0
 | []=>rfl
 | x::a=>by simp[iW,Dr a]
theorem He:∀a b c,iW a b<0->iW b c<0->iW a c<0
 | [],[],_,h,_=>by simp[iW]at h
 | [],_::_,[],_,h=>by simp[iW]at h
 | [],_::_,_::_,_,_=>by simp[iW]
 | _::_,[],_,h,_=>by simp[iW]at h
 | _::_,_::_,[],_,h=>by simp[iW]at h
 | x::a,y::b,z::c,h1,h2=>by
  have ih:=He a b c;simp only[iW]at h1 h2 ⊢;split at h1
  .split at h2
   .rw[if_pos (by omega)];omega
   .split at h2
    .omega
    .rw[if_pos (by omega)];omega
  .split at h1
   .omega
   .split at h2
    .rw[if_pos (by omega)];omega
    .split at h2
     .omega
     .rw[if_neg (by omega),if_neg (by omega)];exact ih h1 h2
theorem GU:∀a b,¬iW a b<0->¬iW b a<0->a=b
 | [],[],_,_=>rfl
 | [],_::_,h,_=>by simp[iW]at h
 | _::_,[],_,h=>by simp[iW]at h
 | x::a,y::b,h1,h2=>by
  have ih:=GU a b;simp only[iW]at h1 h2;split at h1
  .omega
  .split at h2
   .omega
   .rw[ih (by first|assumption|(split at h1 <;> first|assumption|omega)) (by first|assumption|(split at h2 <;> first|assumption|omega)),show x=y from by omega]
end Go.VE
namespace Go.VE
theorem Mw {a b:Sl Int} (hl:a.l.length<1073741824):dx a b=some (decide (a.l=b.l)):=by
 refine Wp.eq ?_;unfold dx;rw[bh];refine⟨λh=>?_,λh=>(ah _).2 ?_⟩
 .have h:(a.l.length:Int)=b.l.length:=by simpa [len]using h
  have h:a.l.length=b.l.length:=by omega
  unfold dx.W1;refine gu a.l.length (λn s=>s=(n:Int)/\∀i,i<n->a.l[i]? = b.l[i]?) ⟨rfl,λi h=>absurd h (by omega)⟩ ?_ ?_
  .rintro n _ hlt ⟨rfl,hI⟩;unfold dx.an;have hb:n<b.l.length:=by omega
   rw[show decide ((n:Int)<len a)=true from gf hlt,aL,aD hlt,ζb,aD hb,ζb,bh];refine⟨λhe=>(ah _).2 ⟨bq n (by omega),λi hi=>?_⟩,λhe=>(ah _).2 ((ah _).2 ?_)⟩
   .by_cases e:i=n
    .subst e;rw[ζd hlt,ζd hb];simpa using he
    .exact hI i (by omega)
   .refine(decide_eq_false λe=>?_).symm
    have h1:a.l[n]? = b.l[n]? := by rw[e]
    rw[ζd hlt,ζd hb]at h1;simp at he h1;exact he h1
  .rintro _ ⟨rfl,hI⟩;unfold dx.an;rw[gb,aQ,ah];refine(ah _).2 (decide_eq_true (List.ext_getElem? λi=>?_)).symm
   by_cases hi:i<a.l.length
   .exact hI i hi
   .rw[List.getElem?_eq_none (by omega),List.getElem?_eq_none (by omega)]
 .refine(decide_eq_false λe=>?_).symm
  simp[len,e]at h
end Go.VE
namespace Go.VE
section
variable {t:Trace} {A:bg 200 ay}
end
end Go.VE
namespace Go.VE
theorem wX {c:Sl Int} (hl:c.l.length<=1073741824) (h0:0<c.l.length):∃d,(ij c).bind Sl.whole=some d/\d.l=c.l:=by
 unfold ij;have key:((jw (Sl.row []:Sl Int) c).bind λx=>some x).bind Sl.whole=some (.row ([]++c.l)):=by
  unfold jw;rw[if_neg (λh=>by rw[h]at h0;simp at h0),if_pos (show (Sl.row ([]:List Int)).l.length+c.l.length<=2147483648 from show 0+c.l.length<=_ by omega)];rfl
 cases c with
 | nil=>simp[Sl.l]at h0
 | emp=>simp[Sl.l]at h0
 | part l=>exact⟨_,key,rfl⟩
 | row l=>exact⟨_,key,rfl⟩
section
variable {t:Trace} {A:bg 200 ay}
structure Uu (t:Trace) (A:bg 200 ay) (k:Nat) (o:Sl (Sl (Sl Int))):Prop where
 nd:(o.l.flatMap ins).Nodup
 mem:∀d,d∈o.l.flatMap ins↔Cons t A d/\d.sum<(k:Int)
end
end Go.VE
namespace Go.VE
section
variable {t:Trace} {A:bg 200 ay}
end
end Go.VE
namespace Go.VE
section
variable {t:Trace} {A:bg 200 ay}
end
end Go.VE
namespace Go.VE
section
variable {t:Trace} {A:bg 200 ay}
end
end Go.VE
namespace Go.VE
section
variable {t:Trace} {A:bg 200 ay}
end
end Go.VE
namespace Go.VE
abbrev bn (m:Option Bool) (P:Prop):Prop:=Wp m λb=>(b=true↔P)
theorem bn.eq {m:Option Bool} {P:Prop} (h:bn m P):∃b,m=some b/\(b=true↔P):=h
theorem bn.iff {m:Option Bool} {P Q:Prop} (h:bn m P) (e:P↔Q):bn m Q:=h.mono λb hb=>hb.trans e
theorem fR {b:Bool} {P:Prop} (h:b=true↔P):bn (some b) P:=(ah _).2 h
theorem bn.some {m:Option Bool} {P:Prop} (h:bn m P):bn (m.bind λx=>Option.some x) P:=by
 obtain⟨b,hb,h⟩:=h;rw[hb];exact fR h
theorem bn.same {m n:Option Bool} {P:Prop} (h:bn m P) (k:bn n P):∃b,m=Option.some b/\n=Option.some b/\(b=true↔P):=by
 obtain⟨b,hb,h⟩:=h;obtain⟨d,hd,k⟩:=k;have:b=d:=by rw[Bool.eq_iff_iff,h,k]
 subst this;exact⟨b,hb,hd,h⟩
theorem bn.and {m n:Option Bool} {P Q:Prop} (h:bn m P) (k:P->bn n Q) {f:Bool->Option Bool} (hf:∀b,f b=aj b (n.bind λx=>Option.some x) (Option.some false)):bn (m.bind f) (P/\Q):=by
 obtain⟨b,hb,h⟩:=h;rw[hb,ζb,hf]
 cases b with
 | true=>exact((k (h.1 rfl)).some).iff ⟨λq=>⟨h.1 rfl,q⟩,λq=>q.2⟩
 | false=>exact fR ⟨λe=>(nomatch e),λq=>(h.2 q.1).symm▸rfl⟩
theorem bn.Jn {m:Option Bool} {b:Bool} {P Q:Prop} (h:bn m P) (k:P->(b=true↔Q)) {f:Bool->Option Bool} (hf:∀x,f x=aj x (Option.some b) (Option.some false)):bn (m.bind f) (P/\Q):=by
 obtain⟨x,hx,h⟩:=h;rw[hx,ζb,hf]
 cases x with
 | true=>exact fR ((k (h.1 rfl)).trans ⟨λq=>⟨h.1 rfl,q⟩,λq=>q.2⟩)
 | false=>exact fR ⟨λe=>(nomatch e),λq=>(h.2 q.1).symm▸rfl⟩
theorem bn.Oa {m n:Option Bool} {P Q:Prop} (h:bn m (¬P)) (k:P->bn n Q) {f:Bool->Option Bool} (hf:∀b,f b=aj b (Option.some true) (n.bind λx=>Option.some (!x))):bn (m.bind f) (¬(P/\Q)):=by
 obtain⟨b,hb,h⟩:=h;rw[hb,ζb,hf]
 cases b with
 | true=>exact fR ⟨λ_ q=>(h.1 rfl) q.1,λ_=>rfl⟩
 | false=>
  have hp:P:=Classical.byContradiction λhn=>(nomatch h.2 hn)
  obtain⟨d,hd,k⟩:=k hp;rw[aQ,hd,ζb];refine fR ?_
  cases d with
  | true=>exact⟨λe=>(nomatch e),λq=>absurd ⟨hp,k.1 rfl⟩ q⟩
  | false=>exact⟨λ_ q=>(nomatch k.2 q.2),λ_=>rfl⟩
theorem bn.JL {m:Option Bool} {b:Bool} {P Q:Prop} (h:bn m (¬P)) (k:P->(b=true↔Q)) {f:Bool->Option Bool} (hf:∀x,f x=aj x (Option.some true) (Option.some (!b))):bn (m.bind f) (¬(P/\Q)):=by
 obtain⟨x,hx,h⟩:=h;rw[hx,ζb,hf]
 cases x with
 | true=>exact fR ⟨λ_ q=>(h.1 rfl) q.1,λ_=>rfl⟩
 | false=>
  have hp:P:=Classical.byContradiction λhn=>(nomatch h.2 hn)
  rw[aQ];refine fR ?_
  cases b with
  | true=>exact⟨λe=>(nomatch e),λq=>absurd ⟨hp,(k hp).1 rfl⟩ q⟩
  | false=>exact⟨λ_ q=>(nomatch (k hp).2 q.2),λ_=>rfl⟩
theorem bn.Nf {m n:Option Bool} {P Q:Prop} (h:bn m P) (k:P->bn n Q) {f:Bool->Option Bool} (hf:∀b,f b=aj b (n.bind λx=>Option.some (!x)) (Option.some true)):bn (m.bind f) (¬(P/\Q)):=by
 obtain⟨b,hb,h⟩:=h;rw[hb,ζb,hf]
 cases b with
 | true=>
  obtain⟨d,hd,k⟩:=k (h.1 rfl);rw[aL,hd,ζb];refine fR ?_
  cases d with
  | true=>exact⟨λe=>(nomatch e),λq=>absurd ⟨h.1 rfl,k.1 rfl⟩ q⟩
  | false=>exact⟨λ_ q=>(nomatch k.2 q.2),λ_=>rfl⟩
 | false=>exact fR ⟨λ_ q=>(nomatch h.2 q.1),λ_=>rfl⟩
theorem FK {step:Int->Option (Fw Int Unit Unit)} {n:Nat} {P:Nat->Prop} (h:∀i,i<n->(∀j,j<i->P j)->Wp (step (i:Int)) λw=>P i/\w=.n ((i+1:Nat):Int)\/¬P i/\w=.r ()) (he:(∀j,j<n->P j)->step (n:Int)=some (.x ())) :
 Wp (aK step 0) λw=>(∀i,i<n->P i)/\w=.x ()\/(¬∀i,i<n->P i)/\w=.r ():=by
 have key:∀m k,k+m=n->(∀j,j<k->P j)->Wp (aK step (k:Int)) λw=>(∀i,i<n->P i)/\w=.x ()\/(¬∀i,i<n->P i)/\w=.r ():=by
  intro m
  induction m with
  | zero=>
   intro k hk hp;have:k=n:=by omega
   subst this;rw[fN,he hp,ζb];exact(ah _).2 (.inl ⟨hp,rfl⟩)
  | succ m ih=>
   intro k hk hp;rw[fN,eB];refine(h k (by omega) hp).mono ?_
   rintro w (⟨h1,rfl⟩|⟨h1,rfl⟩)
   .exact ih (k+1) (by omega) λj hj=>by
     rcases Nat.lt_or_eq_of_le (Nat.lt_succ_iff.1 hj)with hj|rfl
     .exact hp j hj
     .exact h1
   .exact(ah _).2 (.inr ⟨λk2=>h1 (k2 k (by omega)),rfl⟩)
 exact key n 0 (by omega) λj hj=>absurd hj (by omega)
theorem kW {step:Int->Option (Fw Int Unit Unit)} {n:Nat} {P:Nat->Prop} (h:∀i,i<n->(∀j,j<i->P j)->Wp (step (i:Int)) λw=>P i/\w=.n ((i+1:Nat):Int)\/¬P i/\w=.r ()) (he:(∀j,j<n->P j)->step (n:Int)=some (.x ())) :
 bn ((aK step 0).bind (Fw.elim (λ_=>some true) (λ_=>some false))) (∀i,i<n->P i):=by
 rw[bn,eB];refine(FK h he).mono ?_;rintro w (⟨h1,rfl⟩|⟨h1,rfl⟩)
 .exact fR ⟨λ_=>h1,λ_=>rfl⟩
 .exact fR ⟨λe=>(nomatch e),λh2=>absurd h2 h1⟩
theorem uI {γ:Type} {step:Int->Option (Fw Int Unit Unit)} {n:Nat} {P:Nat->Prop} {fx:Unit->Option γ} {fr:Unit->Option γ} {R:γ->Prop} (h:∀i,i<n->(∀j,j<i->P j)->Wp (step (i:Int)) λw=>P i/\w=.n ((i+1:Nat):Int)\/¬P i/\w=.r ()) (he:(∀j,j<n->P j)->step (n:Int)=some (.x ()))
 (hx:(∀i,i<n->P i)->Wp (fx ()) R) (hr:(¬∀i,i<n->P i)->Wp (fr ()) R):Wp ((aK step 0).bind (Fw.elim fx fr)) R:=by
 rw[eB];refine(FK h he).mono ?_;rintro w (⟨h1,rfl⟩|⟨h1,rfl⟩)
 .exact hx h1
 .exact hr h1
theorem rX {m:Option Bool} {P:Prop} {n:Int} {k:Nat} (h:bn m P) (hn:n=((k+1:Nat):Int)):Wp (m.bind λx=>aj x (some (.n n)) (some (.r ()))) λw:Fw Int Unit Unit=>P/\w=.n ((k+1:Nat):Int)\/¬P/\w=.r ():=by
 obtain⟨b,hb,h⟩:=h;rw[hb,ζb]
 cases b with
 | true=>exact(ah _).2 (.inl ⟨h.1 rfl,by rw[hn]⟩)
 | false=>exact(ah _).2 (.inr ⟨λq=>(nomatch h.2 q),rfl⟩)
theorem GF {b:Bool} {P:Prop} {n:Int} {k:Nat} (h:b=true↔P) (hn:n=((k+1:Nat):Int)):Wp (aj b (some (.n n)) (some (.r ()))) λw:Fw Int Unit Unit=>P/\w=.n ((k+1:Nat):Int)\/¬P/\w=.r ():=by
 cases b with
 | true=>exact(ah _).2 (.inl ⟨h.1 rfl,by rw[hn]⟩)
 | false=>exact(ah _).2 (.inr ⟨λq=>(nomatch h.2 q),rfl⟩)
theorem KO {b:Bool} {P:Prop} {n:Int} {k:Nat} (h:b=true↔¬P) (hn:n=((k+1:Nat):Int)):Wp (aj b (some (.r ())) (some (.n n))) λw:Fw Int Unit Unit=>P/\w=.n ((k+1:Nat):Int)\/¬P/\w=.r ():=by
 cases b with
 | true=>exact(ah _).2 (.inr ⟨h.1 rfl,rfl⟩)
 | false=>exact(ah _).2 (.inl ⟨Classical.byContradiction λq=>(nomatch h.2 q),by rw[hn]⟩)
def bp (a b:List Int):Prop:=a.length=b.length/\∀(p:Nat) (x y:Int),a[p]? = some x->b[p]? = some y->x<=y
theorem QS {a b:List Int} (hn:a.length=b.length):(∀i,i<a.length->∀x y,a[i]? = some x->b[i]? = some y->x<=y)↔bp a b:=
 ⟨λh=>⟨hn,λp x y hx hy=>h p (ζe.1 hx).1 x y hx hy⟩,λh i _ x y hx hy=>h.2 i x y hx hy⟩
theorem Gz {a b:Sl Int} (hl:a.l.length<1073741824) {step:Int->Option (Fw Int Unit Unit)}
 (hs:∀i,step i=aj (decide (i<len a)) ((idx a i).bind λx_1=>(idx b i).bind λx_2=>aj (decide (x_1>x_2)) (some (.r ())) (some (.n (IntKind.wrap .i64 (i+1))))) (some (.x ()))) :
 bn (aj ((len a)==(len b)) ((aK step 0).bind (Fw.elim (λ_=>some true) (λ_=>some false))) (some false)) (bp a.l b.l):=by
 by_cases hn:a.l.length=b.l.length
 .rw[show ((len a)==(len b))=true from by simp[len,hn],aL]
  refine(kW (n:=a.l.length) (P:=λi=>∀x y,a.l[i]? = some x->b.l[i]? = some y->x<=y) ?_ ?_).iff (QS hn)
  .intro i hi _;have hb:i<b.l.length:=by omega
   rw[hs,gf hi,aL,aD hi,ζb,aD hb,ζb];refine KO ?_ (bq i (by omega))
   rw[decide_eq_true_eq];constructor
   .intro h k;have:=k _ _ (ζd hi) (ζd hb);omega
   .intro h;refine Classical.byContradiction λh2=>h λx y hx hy=>?_
    rw[ζd hi]at hx;rw[ζd hb]at hy;cases hx;cases hy;omega
  .intro _;rw[hs,gb,aQ]
 .rw[show ((len a)==(len b))=false from by simp[len];omega,aQ]
  exact fR ⟨λe=>(nomatch e),λh=>absurd h.1 hn⟩
theorem Cc {a b:Sl Int} (hl:a.l.length<1073741824):bn (iC a b) (bp a.l b.l):=Gz hl λi=>rfl
theorem B2 {a b:Sl Int} (hl:a.l.length<1073741824):bn (c8 a b) (bp a.l b.l):=Gz hl λi=>rfl
theorem A2 {a b:Sl Int} (hl:a.l.length<1073741824):bn (cM a b) (a.l=b.l):=by
 by_cases hn:a.l.length=b.l.length
 .unfold cM;rw[show ((len a)==(len b))=true from by simp[len,hn],aL]
  unfold cM.W1;refine(kW (n:=a.l.length) (P:=λi=>a.l[i]? = b.l[i]?) ?_ ?_).iff ?_
  .intro i hi _;have hb:i<b.l.length:=by omega
   unfold cM.an;rw[gf hi,aL,aD hi,ζb,aD hb,ζb];refine GF ?_ (bq i (by omega))
   rw[ζd hi,ζd hb];simp
  .intro _;unfold cM.an;rw[gb,aQ]
  .constructor
   .intro h;refine List.ext_getElem? λi=>?_
    by_cases hi:i<a.l.length
    .exact h i hi
    .rw[List.getElem?_eq_none (by omega),List.getElem?_eq_none (by omega)]
   .intro h i _;rw[h]
 .unfold cM;rw[show ((len a)==(len b))=false from by simp[len];omega,aQ]
  exact fR ⟨λe=>(nomatch e),λh=>absurd (by rw[h]) hn⟩
theorem SX {a b:Sl Int} (hl:a.l.length<1073741824):bn (dx a b) (a.l=b.l):=by
 rw[Mw hl];exact fR (by simp)
section
variable {t:Trace} {A:bg 200 ay}
theorem I6 (hS:Small t) (hv:di t=some true) (hV:VT t) (hM:fh t (aV t) A) (c:Sl Int):bn (jk t c) (Cons t A c.l):=by
 obtain⟨r,hr,h⟩:=Na hS hv hV hM c;unfold jk;rw[hr,ζb];exact fR (by rw[beq_iff_eq,h];exact Iff.rfl)
theorem DM (hS:Small t) (hv:dL t=some true) (hV:VT t) (hM:fh t (aV t) A) (c:Sl Int):bn (eE t c) (Cons t A c.l):=by
 unfold eE vK;rw[hv,ζb,aL,ζb,ζb]
 by_cases hcl:c.l.length=t.procs.l.length
 .rw[show (len c==len t.procs)=true from by simp[len,hcl],aL]
  have hr:bn (kI t c) (je t c.l):=FL hS hcl λi=>rfl
  refine bn.and (P:=je t c.l) (Q:=jO t A c.l) (n:=dJ t c) (bn.some hr) (λhR=>?_) (f:=λx_5=>(aj x_5 ((dJ t c).bind λx_6=>some x_6) (some false):Option Bool).bind λx_7=>some x_7) (λb=>by cases b <;> simp[aj])
  exact Jd hS hV hM hR
 .rw[show (len c==len t.procs)=false from by simp[len];omega]
  exact fR ⟨λe=>(nomatch e),λh=>absurd h.1.1 hcl⟩
end
end Go.VE
namespace Go.VE
def nth (l:List Int) (p:Nat):Int:=(l[p]?).getD 0
def dG (t:Trace) (p:Nat):Nat:=((t.procs.l[p]?).map λP=>P.events.l.length).getD 0
theorem gB {l:List Int} {p:Nat} (h:p<l.length):nth l p=l[p]:=by unfold nth;rw[ζd h];rfl
theorem jE {t:Trace} {p:Nat} (h:p<t.procs.l.length):dG t p=t.procs.l[p].events.l.length:=by unfold dG;rw[ζd h];rfl
section
variable {t:Trace} {A:bg 200 ay}
def kF (g:Int->Int->Int) (a b c:List Int):Prop:=c.length=a.length/\∀(p:Nat) (x y:Int),a[p]? = some x->b[p]? = some y->c[p]? = some (g x y)
def gT (x y:Int):Int:=if y>x then y else x
def pU (x y:Int):Int:=if y<x then y else x
theorem kF.of (g:Int->Int->Int) {a b:List Int} (h:a.length=b.length):kF g a b (List.zipWith g a b):=
 ⟨by simp[h],λp x y hx hy=>by rw[List.getElem?_zipWith,hx,hy]⟩
theorem kF.at_ {g:Int->Int->Int} {a b c:List Int} (h:kF g a b c) (hab:a.length=b.length) {p:Nat} {z:Int} (hz:c[p]? = some z):∃x y,a[p]? = some x/\b[p]? = some y/\z=g x y:=by
 have hp:p<a.length:=by rw[<-h.1];exact(ζe.1 hz).1
 refine⟨a[p],b[p]'(by omega),ζd hp,ζd (by omega),?_⟩
 have:=h.2 p _ _ (ζd hp) (ζd (show p<b.length by omega))
 rw[hz]at this;cases this;rfl
theorem kS (x y:Int):(gT x y=x/\y<=x)\/(gT x y=y/\x<=y):=by unfold gT;split <;> omega
theorem rV (x y:Int):(pU x y=x/\x<=y)\/(pU x y=y/\y<=x):=by unfold pU;split <;> omega
theorem join_cons {a b c:List Int} (ha:Cons t A a) (hb:Cons t A b) (h:kF gT a b c):Cons t A c:=by
 have hl:a.length=b.length:=ha.1.1.trans hb.1.1.symm;refine⟨⟨h.1.trans ha.1.1,λp z P hz hP=>?_⟩,λp k e z he hz hk hkind=>?_⟩
 .obtain⟨x,y,hx,hy,rfl⟩:=h.at_ hl hz;have h1:=ha.1.2 p x P hx hP;have h2:=hb.1.2 p y P hy hP;rcases kS x y with⟨e,_⟩|⟨e,_⟩ <;> rw[e] <;> assumption
 .obtain⟨x,y,hx,hy,rfl⟩:=h.at_ hl hz;rcases kS x y with⟨e',_⟩|⟨e',_⟩ <;> rw[e']at hk
  .obtain⟨u,hu,hle⟩:=ha.2 p k e x he hx hk hkind;have hq:=(ζe.1 hu).1;have hv:=ζd (show (ag A e.message).from_.proc.toNat<b.length by omega)
   exact⟨_,h.2 _ _ _ hu hv,by rcases kS u b[(ag A e.message).from_.proc.toNat]with⟨e2,_⟩|⟨e2,_⟩ <;> rw[e2] <;> omega⟩
  .obtain⟨u,hu,hle⟩:=hb.2 p k e y he hy hk hkind;have hq:=(ζe.1 hu).1;have hv:=ζd (show (ag A e.message).from_.proc.toNat<a.length by omega)
   exact⟨_,h.2 _ _ _ hv hu,by rcases kS a[(ag A e.message).from_.proc.toNat] u with⟨e2,_⟩|⟨e2,_⟩ <;> rw[e2] <;> omega⟩
theorem Lo {a b c:List Int} (ha:Cons t A a) (hb:Cons t A b) (h:kF pU a b c):Cons t A c:=by
 have hl:a.length=b.length:=ha.1.1.trans hb.1.1.symm;refine⟨⟨h.1.trans ha.1.1,λp z P hz hP=>?_⟩,λp k e z he hz hk hkind=>?_⟩
 .obtain⟨x,y,hx,hy,rfl⟩:=h.at_ hl hz;have h1:=ha.1.2 p x P hx hP;have h2:=hb.1.2 p y P hy hP;rcases rV x y with⟨e,_⟩|⟨e,_⟩ <;> rw[e] <;> assumption
 .obtain⟨x,y,hx,hy,rfl⟩:=h.at_ hl hz;have hkx:(k:Int)<x:=by rcases rV x y with⟨e',_⟩|⟨e',_⟩ <;> omega
  have hky:(k:Int)<y:=by rcases rV x y with⟨e',_⟩|⟨e',_⟩ <;> omega
  obtain⟨u,hu,hle⟩:=ha.2 p k e x he hx hkx hkind;obtain⟨v,hv,hle2⟩:=hb.2 p k e y he hy hky hkind;exact⟨_,h.2 _ _ _ hu hv,by rcases rV u v with⟨e2,_⟩|⟨e2,_⟩ <;> rw[e2] <;> omega⟩
theorem bp.trans {a b c:List Int} (h:bp a b) (k:bp b c):bp a c:=by
 refine⟨h.1.trans k.1,λp x z hx hz=>?_⟩
 have hp:p<b.length:=by rw[<-h.1];exact(ζe.1 hx).1
 have e:=ζd hp;exact Int.le_trans (h.2 p x _ hx e) (k.2 p _ z e hz)
theorem bp.refl (a:List Int):bp a a:=⟨rfl,λp x y hx hy=>by rw[hx]at hy;cases hy;exact Int.le_refl _⟩
theorem kF.le_max {a b c:List Int} (h:kF gT a b c) (hl:a.length=b.length):bp a c/\bp b c/\∀d,bp a d->bp b d->bp c d:=by
 refine⟨⟨h.1.symm,λp x z hx hz=>?_⟩,⟨hl.symm.trans h.1.symm,λp y z hy hz=>?_⟩,λd ha hb=>⟨h.1.trans ha.1,λp z w hz hw=>?_⟩⟩
 .obtain⟨x',y,hx',hy,rfl⟩:=h.at_ hl hz;rw[hx]at hx';cases hx';rcases kS x y with⟨e2,_⟩|⟨e2,_⟩ <;> rw[e2] <;> omega
 .obtain⟨x,y',hx,hy',rfl⟩:=h.at_ hl hz;rw[hy]at hy';cases hy';rcases kS x y with⟨e2,_⟩|⟨e2,_⟩ <;> rw[e2] <;> omega
 .obtain⟨x,y,hx,hy,rfl⟩:=h.at_ hl hz;have h1:=ha.2 p x w hx hw;have h2:=hb.2 p y w hy hw;rcases kS x y with⟨e2,_⟩|⟨e2,_⟩ <;> rw[e2] <;> assumption
theorem kF.le_min {a b c:List Int} (h:kF pU a b c) (hl:a.length=b.length):bp c a/\bp c b/\∀d,bp d a->bp d b->bp d c:=by
 refine⟨⟨h.1,λp z x hz hx=>?_⟩,⟨h.1.trans hl,λp z y hz hy=>?_⟩,λd ha hb=>⟨ha.1.trans h.1.symm,λp w z hw hz=>?_⟩⟩
 .obtain⟨x',y,hx',hy,rfl⟩:=h.at_ hl hz;rw[hx]at hx';cases hx';rcases rV x y with⟨e2,_⟩|⟨e2,_⟩ <;> rw[e2] <;> omega
 .obtain⟨x,y',hx,hy',rfl⟩:=h.at_ hl hz;rw[hy]at hy';cases hy';rcases rV x y with⟨e2,_⟩|⟨e2,_⟩ <;> rw[e2] <;> omega
 .obtain⟨x,y,hx,hy,rfl⟩:=h.at_ hl hz;have h1:=ha.2 p w x hw hx;have h2:=hb.2 p w y hw hy;rcases rV x y with⟨e2,_⟩|⟨e2,_⟩ <;> rw[e2] <;> assumption
theorem bp.nth {a b:List Int} (h:bp a b) {p:Nat} (hp:p<a.length):nth a p<=nth b p:=by
 rw[gB hp,gB (by rw[<-h.1];exact hp)]
 exact h.2 p _ _ (ζd hp) (ζd (by rw[<-h.1];exact hp))
theorem kF.nth {g:Int->Int->Int} {a b c:List Int} (h:kF g a b c) (hl:a.length=b.length) {p:Nat} (hp:p<a.length):Go.VE.nth c p=g (Go.VE.nth a p) (Go.VE.nth b p):=by
 rw[gB hp,gB (show p<b.length by omega)]
 have:=h.2 p _ _ (ζd hp) (ζd (show p<b.length by omega))
 unfold Go.VE.nth;rw[this];rfl
end
end Go.VE
namespace Go.VE
def rI (s:Slice) (p:Nat):Nat:=((s.j.l[p]?).map λr=>r.l.length).getD 0
def el (s:Slice) (p i:Nat):List Int:=match s.j.l[p]? with
 | some r=>match r.l[i]? with
  | some c=>c.l
  | none=>[]
 | none=>[]
theorem lY {s:Slice} {p:Nat} (h:p<s.j.l.length):rI s p=s.j.l[p].l.length:=by unfold rI;rw[ζd h];rfl
def mY (t:Trace) (A:bg 200 ay) (s:Slice) (p i:Nat):Prop:=
 (nth s.last.l p<=(i:Int)/\(el s p i).length=0)\/((i:Int)<nth s.last.l p/\(((i:Int)<nth s.first.l p/\el s p i=s.first.l)\/(nth s.first.l p<=(i:Int)/\Cons t A (el s p i)/\(i:Int)<nth (el s p i) p/\bp s.first.l (el s p i)/\bp (el s p i) s.last.l)))
def rB (s:Slice) (c:List Int):Prop:=∀p,p<c.length->∀i:Nat,(i:Int)<nth c p->bp (el s p i) c
def vZ (t:Trace) (A:bg 200 ay) (s:Slice):Prop:=((((Cons t A s.first.l/\Cons t A s.last.l)/\bp s.first.l s.last.l)/\s.j.l.length=t.procs.l.length)/\∀p,p<t.procs.l.length->rI s p=dG t p)
def lM (t:Trace) (A:bg 200 ay) (s:Slice):Prop:=
 (vZ t A s/\∀p,p<t.procs.l.length->∀i,i<dG t p->mY t A s p i)/\∀p,p<t.procs.l.length->∀i:Nat,(i:Int)<nth s.last.l p->rB s (el s p i)
def EL (s:Slice):Prop:=(s.first.l.length=0/\s.last.l.length=0)/\s.j.l.length=0
def iy (t:Trace) (A:bg 200 ay) (s:Slice):Prop:=s.empty=true/\EL s\/s.empty=false/\lM t A s
def mG (s:Slice) (c:List Int):Prop:=((s.empty=false/\bp s.first.l c)/\bp c s.last.l)/\rB s c
structure jB (s:Slice):Prop where
 f:s.first.l.length<=60
 l:s.last.l.length<=60
 j:s.j.l.length<=60
 r:∀r∈s.j.l,r.l.length<=60/\∀c∈r.l,c.l.length<=60
section
variable {t:Trace} {A:bg 200 ay} {s:Slice}
theorem gO {c:List Int} (h:Cons t A c) {p:Nat} (hp:p<t.procs.l.length):0<=nth c p/\nth c p<=dG t p:=by
 have hc:p<c.length:=by rw[h.1.1];exact hp
 rw[gB hc,jE hp];exact h.1.2 p _ _ (ζd hc) (ζd hp)
theorem BX {p i:Nat} (hp:p<s.j.l.length) (hi:i<rI s p) (hL:jB s):∃c,kR s ⟨p,((i+1:Nat):Int)⟩=some c/\c.l=el s p i/\c.l.length<=60:=by
 rw[lY hp]at hi;have hr:=(hL.r _ (List.getElem_mem hp));refine⟨s.j.l[p].l[i],?_,?_,hr.2 _ (List.getElem_mem hi)⟩
 .unfold kR;dsimp only;rw[aD hp,ζb,pH _ (by omega) (by omega),show ((i+1:Nat):Int)-1=(i:Int)from by omega,aD hi,ζb]
 .unfold el;rw[ζd hp];dsimp only;rw[ζd hi]
theorem wP {c:Sl Int} {f:aa->Option Bool} {g:Nat->Nat->Prop} (hc:c.l.length<1073741824) (hb:∀p,p<c.l.length->nth c.l p<1073741824)
 (h:∀p,p<c.l.length->∀i:Nat,(i:Int)<nth c.l p->bn (f ⟨p,((i+1:Nat):Int)⟩) (g p i)):bn (dD c f) (∀p,p<c.l.length->∀i:Nat,(i:Int)<nth c.l p->g p i):=by
 unfold dD dD.W1;refine kW (n:=c.l.length) ?_ ?_
 .intro p hp _;unfold dD.an;rw[gf hp,aL,aD hp,ζb];unfold dD.W2;have hn:=gB hp;have hb:=hb p hp;rw[hn]at hb
  by_cases h0:c.l[p]<=0
  .refine uI (n:=0) (P:=λ_=>True) (λi hi=>absurd hi (by omega)) (λ_=>?_) (λ_=>?_) (λk=>absurd (λi hi=>absurd hi (by omega)) k)
   .unfold dD.aY;rw[show decide (((0:Nat):Int)<c.l[p])=false from by simp;omega,aQ]
   .exact(ah _).2 (.inl ⟨λi hi=>by rw[hn]at hi;omega,by rw[bq p (by omega)]⟩)
  .obtain⟨k,hk⟩:∃k:Nat,c.l[p]=(k:Int):=⟨c.l[p].toNat,by omega⟩
   have e:(∀i,i<k->g p i)↔∀i:Nat,(i:Int)<nth c.l p->g p i:=by
    rw[hn,hk];exact⟨λh i hi=>h i (by omega),λh i hi=>h i (by omega)⟩
   refine uI (n:=k) (P:=g p) (λi hi _=>?_) (λ_=>?_) (λq=>?_) (λq=>?_)
   .unfold dD.aY;rw[show decide ((i:Int)<c.l[p])=true from by simp;omega,aL,bq i (by omega)]
    exact rX (h p hp i (by rw[hn];omega)) rfl
   .unfold dD.aY;rw[show decide ((k:Int)<c.l[p])=false from by simp;omega,aQ]
   .exact(ah _).2 (.inl ⟨e.1 q,by rw[bq p (by omega)]⟩)
   .exact(ah _).2 (.inr ⟨λq2=>q (e.2 q2),rfl⟩)
 .intro _;unfold dD.an;rw[gb,aQ]
theorem AI {c:Sl Int} {p i:Nat} (hp:p<c.l.length):nZ ⟨p,((i+1:Nat):Int)⟩ c=some (decide ((i:Int)<nth c.l p)):=by
 unfold nZ;rw[aD hp,ζb,gB hp];exact congrArg some (decide_eq_decide.2 (by dsimp only;omega))
theorem Gu (hS:Small t) (hv:di t=some true) (hV:VT t) (hM:fh t (aV t) A) (hL:jB s) (hs:vZ t A s) {p i:Nat} (hp:p<t.procs.l.length) (hi:i<dG t p) :
 bn (sM t s ⟨p,((i+1:Nat):Int)⟩) (mY t A s p i):=by
 obtain⟨⟨⟨⟨h1,h2⟩,h3⟩,h4⟩,h5⟩:=hs;obtain⟨c,hc,hce,hcl⟩:=BX (s:=s) (p:=p) (i:=i) (by omega) (by rw[h5 p hp];exact hi) hL
 have hl:p<s.last.l.length:=by rw[h2.1.1];exact hp
 have hf:p<s.first.l.length:=by rw[h1.1.1];exact hp
 have hL1:=hL.f;have hL2:=hL.l;unfold sM;rw[hc,ζb,AI hl,ζb];unfold mY;rw[<-hce]
 by_cases hlt:(i:Int)<nth s.last.l p
 .rw[decide_eq_true hlt,aL,AI hf,ζb]
  by_cases hft:(i:Int)<nth s.first.l p
  .rw[decide_eq_true hft,aL];refine((SX (a:=c) (b:=s.first) (by omega)).some).iff ?_
   exact⟨λh=>.inr ⟨hlt,.inl ⟨hft,h⟩⟩,λh=>by rcases h with h|⟨_,h|h⟩ <;> first|exact h.2|omega⟩
  .rw[decide_eq_false hft,aQ];have k1:=I6 hS hv hV hM c;have k2:=bn.and (Q:=(i:Int)<nth c.l p) k1 (n:=nZ ⟨p,((i+1:Nat):Int)⟩ c) (λhC=>by rw[AI (by rw[hC.1.1];exact hp)];exact fR (by simp)) (f:=λx_5=>(aj x_5 ((nZ ⟨p,((i+1:Nat):Int)⟩ c).bind λx_6=>some x_6) (some false):Option Bool)) (λb=>rfl)
   have k3:=bn.and k2 (Q:=bp s.first.l c.l) (n:=iC s.first c) (λ_=>Cc (by omega)) (f:=λx_7=>(aj x_7 ((iC s.first c).bind λx_8=>some x_8) (some false):Option Bool)) (λb=>rfl)
   have k4:=bn.and k3 (Q:=bp c.l s.last.l) (n:=iC c s.last) (λ_=>Cc (by omega)) (f:=λx_9=>(aj x_9 ((iC c s.last).bind λx_10=>some x_10) (some false):Option Bool)) (λb=>rfl)
   have k5:=k4.some;simp only[Option.bind_assoc]at k5 ⊢;refine k5.iff ?_;exact⟨λ⟨⟨⟨a,b⟩,d⟩,e⟩=>.inr ⟨hlt,.inr ⟨by omega,a,b,d,e⟩⟩,λh=>by rcases h with h|⟨_,h|⟨_,a,b,d,e⟩⟩ <;> first|exact⟨⟨⟨a,b⟩,d⟩,e⟩|omega⟩
 .rw[decide_eq_false hlt,aQ];refine fR ?_;rw[beq_iff_eq];simp only[len];exact⟨λh=>.inl ⟨by omega,by omega⟩,λh=>by rcases h with h|h <;> omega⟩
theorem Fh (hS:Small t) (hv:di t=some true) (hV:VT t) (hM:fh t (aV t) A) (hL:jB s):bn (fV t s) (vZ t A s):=by
 have hL1:=hL.f;have hL2:=hL.l;have hL3:=hL.j;unfold fV;have k1:=I6 hS hv hV hM s.first
 have k2:=bn.Nf k1 (Q:=Cons t A s.last.l) (λ_=>I6 hS hv hV hM s.last) (f:=λx_1=>(aj x_1 ((jk t s.last).bind λx_2=>some (!x_2)) (some true):Option Bool)) (λb=>rfl)
 have k3:=bn.Oa k2 (Q:=bp s.first.l s.last.l) (λ_=>Cc (a:=s.first) (b:=s.last) (by omega)) (f:=λx_3=>(aj x_3 (some true) ((iC s.first s.last).bind λx_4=>some (!x_4)):Option Bool)) (λb=>rfl)
 have k4:=bn.JL k3 (Q:=s.j.l.length=t.procs.l.length) (b:=((len s.j)==(len t.procs))) (λ_=>by rw[beq_iff_eq];simp only[len];omega) (f:=λx_5=>(aj x_5 (some true) (some (!((len s.j)==(len t.procs)))):Option Bool)) (λb=>rfl)
 simp only[Option.bind_assoc]at k4 ⊢;obtain⟨b,hb,h⟩:=k4;simp only[<-Option.bind_assoc]at hb ⊢;rw[hb,ζb]
 cases b with
 | true=>exact fR ⟨λe=>(nomatch e),λq=>absurd q.1 (h.1 rfl)⟩
 | false=>
  have hh:((Cons t A s.first.l/\Cons t A s.last.l)/\bp s.first.l s.last.l)/\s.j.l.length=t.procs.l.length:=Classical.byContradiction λq=>(nomatch h.2 q)
  rw[aQ];unfold fV.W1;refine(kW (n:=s.j.l.length) (P:=λp=>rI s p=dG t p) ?_ ?_).iff ?_
  .intro p hp _;have hp2:p<t.procs.l.length:=by rw[<-hh.2];exact hp
   unfold fV.an;rw[gf hp,aL,aD hp,ζb,aD hp2,ζb];refine GF ?_ (bq p (by omega))
   rw[beq_iff_eq,lY hp,jE hp2];simp only[len];omega
  .intro _;unfold fV.an;rw[gb,aQ]
  .exact⟨λq=>⟨hh,λp hp=>q p (by rw[hh.2];exact hp)⟩,λq p hp=>q.2 p (by rw[<-hh.2];exact hp)⟩
theorem Mg (hS:Small t) (hV:VT t):∃c,fH t=some c/\c.l.length=t.procs.l.length/\∀p,p<t.procs.l.length->nth c.l p=dG t p:=by
 have h8:=hV.few;unfold fH fH.W1;refine gu (P:=λc:Sl Int=>c.l.length=t.procs.l.length/\∀p,p<t.procs.l.length->nth c.l p=dG t p) t.procs.l.length (λi (s:Sl Int×Int)=>s.2=(i:Int)/\s.1.l.length=i/\∀p,p<i->nth s.1.l p=dG t p) ⟨rfl,rfl,λp hp=>absurd hp (by omega)⟩ ?_ ?_
 .rintro i ⟨o,_⟩ hi ⟨e,h1,h2⟩;simp only at e h1 h2;subst e;unfold fH.an;rw[gf hi,aL,aD hi,ζb];obtain⟨r,hr,hrl⟩:=mZ (s:=o) (x:=len t.procs.l[i].events) (by omega)
  rw[hr,ζb,ah];refine⟨bq i (by omega),by rw[hrl];simp[h1],λp hp=>?_⟩
  show nth r.l p=_;rw[hrl]
  by_cases e:p=i
  .subst e;unfold nth;rw[List.getElem?_append_right (by omega),h1,Nat.sub_self,jE hi];rfl
  .unfold nth;rw[List.getElem?_append_left (by omega)]
   exact h2 p (by omega)
 .rintro⟨o,_⟩ ⟨e,h1,h2⟩;simp only at e h1 h2;subst e;unfold fH.an;rw[gb,aQ,ah];exact(ah _).2 ⟨h1,h2⟩
theorem BA (hS:vZ t A s) (h:∀p,p<t.procs.l.length->∀i,i<dG t p->mY t A s p i) {p i:Nat} (hp:p<t.procs.l.length) (hi:(i:Int)<nth s.last.l p):i<dG t p/\Cons t A (el s p i):=by
 have h2:=gO hS.1.1.1.2 hp;have hie:i<dG t p:=by omega
 refine⟨hie,?_⟩;rcases h p hp i hie with k|⟨_,k|k⟩
 .omega
 .rw[k.2];exact hS.1.1.1.1
 .exact k.2.1
theorem JG (hS:Small t) (hv:di t=some true) (hV:VT t) (hM:fh t (aV t) A) (hL:jB s):bn (lH t s) (iy t A s):=by
 have h8:=hV.few;have hev:∀p,p<t.procs.l.length->dG t p<1073741824:=λp hp=>by rw[jE hp];exact(hS.2 _ (List.getElem_mem hp)).1
 unfold lH;rw[hv,ζb,aL]
 cases he:s.empty with
 | true=>
  rw[aL];have k1:=bn.Jn (m:=some (len s.first==0)) (P:=s.first.l.length=0) (fR (by rw[beq_iff_eq];simp only[len];omega)) (b:=(len s.last==0)) (Q:=s.last.l.length=0) (λ_=>by rw[beq_iff_eq];simp only[len];omega) (f:=λx=>(aj x (some (len s.last==0)) (some false):Option Bool)) (λb=>rfl)
  have k2:=bn.Jn k1 (b:=(len s.j==0)) (Q:=s.j.l.length=0) (λ_=>by rw[beq_iff_eq];simp only[len];omega) (f:=λx=>(aj x (some (len s.j==0)) (some false):Option Bool)) (λb=>rfl)
  rw[ζb]at k2;have k:=(bn.some k2).iff (Q:=iy t A s) (by unfold iy EL;rw[he];simp)
  rw[Option.bind_assoc]at k;exact k
 | false=>
  rw[aQ];have k1:=Fh hS hv hV hM hL;obtain⟨c,hc,hc1,hc2⟩:=Mg hS hV;have k2:=bn.Nf k1 (Q:=∀p,p<t.procs.l.length->∀i,i<dG t p->mY t A s p i) (n:=(fH t).bind λx_5=>dD x_5 (λz=>l_ z t s)) (λhs=>by
   rw[hc,ζb];refine(wP (g:=mY t A s) (by omega) (λp hp=>by rw[hc2 p (by omega)];have:=hev p (by omega);omega) (λp hp i hi=>?_)).iff ?_
   .rw[hc2 p (by omega)]at hi
    exact(Gu hS hv hV hM hL hs (by omega) (by omega)).some
   .rw[hc1];constructor
    .intro h p hp i hi;exact h p hp i (by rw[hc2 p hp];omega)
    .intro h p hp i hi;exact h p hp i (by rw[hc2 p hp]at hi;omega)) (f:=λx_4=>(aj x_4 ((fH t).bind λx_5=>(dD x_5 (λz=>l_ z t s)).bind λx_6=>some (!x_6)) (some true):Option Bool)) (λb=>by simp only[Option.bind_assoc])
  obtain⟨b,hb,h⟩:=k2;rw[<-Option.bind_assoc,hb,ζb];have hval:iy t A s↔lM t A s:=by unfold iy;rw[he];simp
  cases b with
  | true=>exact fR ⟨λe=>(nomatch e),λq=>absurd (hval.1 q).1 (h.1 rfl)⟩
  | false=>
   have hh:vZ t A s/\∀p,p<t.procs.l.length->∀i,i<dG t p->mY t A s p i:=Classical.byContradiction λq=>(nomatch h.2 q)
   have hl:s.last.l.length=t.procs.l.length:=hh.1.1.1.1.2.1.1;have hj:s.j.l.length=t.procs.l.length:=hh.1.1.2;rw[aQ];refine((wP (g:=λp i=>rB s (el s p i)) (by omega) (λp hp=>?_) (λp hp i hi=>?_)).some).iff ?_
   .have:=gO hh.1.1.1.1.2 (p:=p) (by omega);have:=hev p (by omega);omega
   .obtain⟨hie,hC⟩:=BA hh.1 hh.2 (p:=p) (by omega) hi
    obtain⟨d,hd,hde,hdl⟩:=BX (s:=s) (p:=p) (i:=i) (by omega) (by rw[hh.1.2 p (by omega)];exact hie) hL
    unfold oD;rw[hd,ζb];refine(wP (g:=λq k=>bp (el s q k) (el s p i)) (by omega) (λq hq=>?_) (λq hq k hk=>?_)).some |>.iff ?_
    .rw[hde]at hq ⊢;have hq':q<t.procs.l.length:=by rw[<-hC.1.1];exact hq
     have:=gO hC hq';have:=hev q hq';omega
    .rw[hde]at hq hk;have hq':q<t.procs.l.length:=by rw[<-hC.1.1];exact hq
     have:=gO hC hq';unfold lQ;obtain⟨y,hy,hye,hyl⟩:=BX (s:=s) (p:=q) (i:=k) (by omega) (by rw[hh.1.2 q hq'];omega) hL
     rw[hy,ζb,<-hye,<-hde];exact(Cc (by omega)).some
    .rw[hde];exact Iff.rfl
   .rw[hval,hl];exact⟨λq=>⟨hh,q⟩,λq=>q.2⟩
end
end Go.VE
namespace Go.VE
section
variable {t:Trace} {A:bg 200 ay} {s:Slice}
theorem AA {p i:Nat} (hp:p<s.j.l.length) (hi:i<rI s p) (hL:jB s):∃r c,idx s.j (p:Int)=some r/\idx r (i:Int)=some c/\c.l=el s p i/\c.l.length<=60:=by
 rw[lY hp]at hi;have hr:=(hL.r _ (List.getElem_mem hp));refine⟨s.j.l[p],s.j.l[p].l[i],aD hp,aD hi,?_,hr.2 _ (List.getElem_mem hi)⟩;unfold el;rw[ζd hp];dsimp only;rw[ζd hi]
theorem Nq (hS:Small t) (hv:dL t=some true) (hV:VT t) (hM:fh t (aV t) A) (hL:jB s) (h1:Cons t A s.first.l) (h2:Cons t A s.last.l) {p i:Nat} (hp:p<t.procs.l.length) (hj:p<s.j.l.length) (hi:i<rI s p) :
 bn (oC t s p i) (mY t A s p i):=by
 obtain⟨r,c,hr,hc,hce,hcl⟩:=AA hj hi hL;have hl:p<s.last.l.length:=by rw[h2.1.1];exact hp
 have hf:p<s.first.l.length:=by rw[h1.1.1];exact hp
 have hL1:=hL.f;have hL2:=hL.l;unfold oC;rw[hr,ζb,hc,ζb,aD hl,ζb,<-gB hl];unfold mY;rw[<-hce]
 by_cases hlt:(i:Int)<nth s.last.l p
 .rw[show decide ((i:Int)>=nth s.last.l p)=false from by simp;omega,aQ,aD hf,ζb,<-gB hf]
  by_cases hft:(i:Int)<nth s.first.l p
  .rw[decide_eq_true hft,aL];refine((A2 (a:=c) (b:=s.first) (by omega)).some).iff ?_
   exact⟨λh=>.inr ⟨hlt,.inl ⟨hft,h⟩⟩,λh=>by rcases h with h|⟨_,h|h⟩ <;> first|exact h.2|omega⟩
  .rw[decide_eq_false hft,aQ];have k1:=DM hS hv hV hM c;have k2:=bn.and k1 (Q:=(i:Int)<nth c.l p) (n:=(idx c p).bind λx_7=>some (decide (x_7>(i:Int)))) (λhC=>by
    have hpc:p<c.l.length:=by rw[hC.1.1];exact hp
    rw[aD hpc,ζb,<-gB hpc];exact fR (by simp)) (f:=λx_6=>(aj x_6 ((idx c p).bind λx_7=>some (decide (x_7>(i:Int)))) (some false):Option Bool)) (λb=>by simp only[Option.bind_assoc,ζb])
   have k3:=bn.and k2 (Q:=bp s.first.l c.l) (n:=c8 s.first c) (λ_=>B2 (by omega)) (f:=λx_7=>(aj x_7 ((c8 s.first c).bind λx_8=>some x_8) (some false):Option Bool)) (λb=>rfl)
   have k4:=bn.and k3 (Q:=bp c.l s.last.l) (n:=c8 c s.last) (λ_=>B2 (by omega)) (f:=λx_9=>(aj x_9 ((c8 c s.last).bind λx_10=>some x_10) (some false):Option Bool)) (λb=>rfl)
   have k5:=k4.some;simp only[Option.bind_assoc]at k5 ⊢;refine k5.iff ?_;exact⟨λ⟨⟨⟨a,b⟩,d⟩,e⟩=>.inr ⟨hlt,.inr ⟨by omega,a,b,d,e⟩⟩,λh=>by rcases h with h|⟨_,h|⟨_,a,b,d,e⟩⟩ <;> first|exact⟨⟨⟨a,b⟩,d⟩,e⟩|omega⟩
 .rw[show decide ((i:Int)>=nth s.last.l p)=true from by simp;omega,aL]
  refine fR ?_;rw[beq_iff_eq];simp only[len];exact⟨λh=>.inl ⟨by omega,by omega⟩,λh=>by rcases h with h|h <;> omega⟩
theorem Dn {γ:Type} {step:Int->Option (Fw Int Unit Unit)} {n:Int} {P:Nat->Prop} {fx:Unit->Option γ} {fr:Unit->Option γ} {R:γ->Prop} (h:∀i:Nat,(i:Int)<n->(∀j,j<i->P j)->Wp (step (i:Int)) λw=>P i/\w=.n ((i+1:Nat):Int)\/¬P i/\w=.r ()) (he:∀i:Nat,n<=(i:Int)->step (i:Int)=some (.x ()))
 (hx:(∀i:Nat,(i:Int)<n->P i)->Wp (fx ()) R) (hr:(¬∀i:Nat,(i:Int)<n->P i)->Wp (fr ()) R):Wp ((aK step 0).bind (Fw.elim fx fr)) R:=by
 have e:(∀i,i<n.toNat->P i)↔∀i:Nat,(i:Int)<n->P i:=⟨λh i hi=>h i (by omega),λh i hi=>h i (by omega)⟩
 exact uI (n:=n.toNat) (P:=P) (λi hi hp=>h i (by omega) hp) (λ_=>he _ (by omega)) (λq=>hx (e.1 q)) (λq=>hr λk=>q (e.2 k))
theorem xF (hL:jB s) {c:Sl Int} (hc:c.l.length<=60) (hb:∀p,p<c.l.length->nth c.l p<1073741824) (h:∀p,p<c.l.length->p<s.j.l.length/\∀i:Nat,(i:Int)<nth c.l p->i<rI s p):bn (cQ s c) (rB s c.l):=by
 unfold cQ cQ.W1;refine kW (n:=c.l.length) (P:=λp=>∀i:Nat,(i:Int)<nth c.l p->bp (el s p i) c.l) ?_ ?_
 .intro p hp _;have hn:=gB hp;have hb:=hb p hp;obtain⟨hj,hr⟩:=h p hp;unfold cQ.an;rw[gf hp,aL];unfold cQ.W2;refine Dn (n:=nth c.l p) (P:=λi=>bp (el s p i) c.l) (λi hi _=>?_) (λi hi=>?_) (λq=>?_) (λq=>?_)
  .unfold cQ.aY;obtain⟨r,d,h1,h2,h3,h4⟩:=AA hj (hr i hi) hL;rw[aD hp,ζb,<-hn,decide_eq_true hi,aL,h1,ζb,h2,ζb,<-h3];exact rX (B2 (by omega)) (bq i (by omega))
  .unfold cQ.aY;rw[aD hp,ζb,<-hn,decide_eq_false (by omega),aQ]
  .exact(ah _).2 (.inl ⟨q,by rw[bq p (by omega)]⟩)
  .exact(ah _).2 (.inr ⟨q,rfl⟩)
 .intro _;unfold cQ.an;rw[gb,aQ]
theorem EV (hS:Small t) (hv:dL t=some true) (hV:VT t) (hM:fh t (aV t) A) (hL:jB s):bn (bJ t s) (iy t A s):=by
 have h8:=hV.few;have hL1:=hL.f;have hL2:=hL.l;have hL3:=hL.j;have hev:∀p,p<t.procs.l.length->dG t p<1073741824:=λp hp=>by rw[jE hp];exact(hS.2 _ (List.getElem_mem hp)).1
 unfold bJ;rw[hv,ζb,aL]
 cases he:s.empty with
 | true=>
  rw[aL];have k1:=bn.Jn (m:=some (len s.first==0)) (P:=s.first.l.length=0) (fR (by rw[beq_iff_eq];simp only[len];omega)) (b:=(len s.last==0)) (Q:=s.last.l.length=0) (λ_=>by rw[beq_iff_eq];simp only[len];omega) (f:=λx=>(aj x (some (len s.last==0)) (some false):Option Bool)) (λb=>rfl)
  have k2:=bn.Jn k1 (b:=(len s.j==0)) (Q:=s.j.l.length=0) (λ_=>by rw[beq_iff_eq];simp only[len];omega) (f:=λx=>(aj x (some (len s.j==0)) (some false):Option Bool)) (λb=>rfl)
  rw[ζb]at k2;have k:=(bn.some k2).iff (Q:=iy t A s) (by unfold iy EL;rw[he];simp)
  rw[Option.bind_assoc]at k;exact k
 | false=>
  rw[aQ];have hval:iy t A s↔lM t A s:=by unfold iy;rw[he];simp
  have k1:=DM hS hv hV hM s.first
  have k2:=bn.Nf k1 (Q:=Cons t A s.last.l) (λ_=>DM hS hv hV hM s.last) (f:=λx_1=>(aj x_1 ((eE t s.last).bind λx_2=>some (!x_2)) (some true):Option Bool)) (λb=>rfl)
  have k3:=bn.Oa k2 (Q:=bp s.first.l s.last.l) (λ_=>B2 (a:=s.first) (b:=s.last) (by omega)) (f:=λx_3=>(aj x_3 (some true) ((c8 s.first s.last).bind λx_4=>some (!x_4)):Option Bool)) (λb=>rfl)
  have k4:=bn.JL k3 (Q:=s.j.l.length=t.procs.l.length) (b:=((len s.j)==(len t.procs))) (λ_=>by rw[beq_iff_eq];simp only[len];omega) (f:=λx_5=>(aj x_5 (some true) (some (!((len s.j)==(len t.procs)))):Option Bool)) (λb=>rfl)
  simp only[Option.bind_assoc]at k4 ⊢;obtain⟨b,hb,h⟩:=k4;simp only[<-Option.bind_assoc]at hb ⊢;rw[hb,ζb]
  cases b with
  | true=>exact fR ⟨λe=>(nomatch e),λq=>absurd (hval.1 q).1.1.1 (h.1 rfl)⟩
  | false=>
   have hh:((Cons t A s.first.l/\Cons t A s.last.l)/\bp s.first.l s.last.l)/\s.j.l.length=t.procs.l.length:=Classical.byContradiction λq=>(nomatch h.2 q)
   have hl:s.last.l.length=t.procs.l.length:=hh.1.1.2.1.1;rw[aQ];unfold bJ.W1;refine uI (n:=s.j.l.length) (P:=λp=>rI s p=dG t p/\∀i,i<dG t p->mY t A s p i) (R:=λb=>b=true↔iy t A s) ?_ ?_ ?_ ?_
   .intro p hp _;have hp2:p<t.procs.l.length:=by rw[<-hh.2];exact hp
    unfold bJ.an;rw[gf hp,aL,aD hp,ζb,aD hp2,ζb]
    by_cases hq:rI s p=dG t p
    .rw[show (len s.j.l[p]==len t.procs.l[p].events)=true from by rw[beq_iff_eq];simp only[len];rw[lY hp,jE hp2]at hq;omega,aL]
     unfold bJ.W2;have hrow:=hL.r _ (List.getElem_mem hp);refine uI (n:=rI s p) (P:=mY t A s p) ?_ ?_ ?_ ?_
     .intro i hi _;unfold bJ.aY;rw[aD hp,ζb,show decide ((i:Int)<len s.j.l[p])=true from gf (by rw[<-lY hp];exact hi),aL]
      exact rX (Nq hS hv hV hM hL hh.1.1.1 hh.1.1.2 hp2 hp hi) (bq i (by rw[lY hp]at hi;omega))
     .intro _;unfold bJ.aY;rw[aD hp,ζb,lY hp,gb,aQ]
     .intro q;exact(ah _).2 (.inl ⟨⟨hq,λi hi=>q i (by rw[hq];exact hi)⟩,by rw[bq p (by omega)]⟩)
     .intro q;exact(ah _).2 (.inr ⟨λk=>q λi hi=>k.2 i (by rw[<-hq];exact hi),rfl⟩)
    .rw[show (len s.j.l[p]==len t.procs.l[p].events)=false from by rw[beq_eq_false_iff_ne];simp only[len];rw[lY hp,jE hp2]at hq;omega,aQ]
     exact(ah _).2 (.inr ⟨λk=>hq k.1,rfl⟩)
   .intro _;unfold bJ.an;rw[gb,aQ]
   .intro q;have hsh:vZ t A s:=⟨hh,λp hp=>(q p (by rw[hh.2];exact hp)).1⟩
    have hri:∀p,p<t.procs.l.length->∀i,i<dG t p->mY t A s p i:=λp hp=>(q p (by rw[hh.2];exact hp)).2
    unfold bJ.W3;refine(kW (n:=s.j.l.length) (P:=λp=>∀i:Nat,(i:Int)<nth s.last.l p->rB s (el s p i)) ?_ ?_).iff ?_
    .intro p hp _;have hp2:p<t.procs.l.length:=by rw[<-hh.2];exact hp
     have hpl:p<s.last.l.length:=by rw[hl];exact hp2
     have hle:=gO hh.1.1.2 hp2;have hee:=hev p hp2;unfold bJ.cI;rw[gf hp,aL];unfold bJ.W4;refine Dn (n:=nth s.last.l p) (P:=λi=>rB s (el s p i)) (λi hi _=>?_) (λi hi=>?_) (λq=>?_) (λq=>?_)
     .unfold bJ.jI;obtain⟨hie,hC⟩:=BA hsh hri hp2 hi;obtain⟨r,d,g1,g2,g3,g4⟩:=AA (s:=s) (p:=p) (i:=i) hp (by rw[hsh.2 p hp2];exact hie) hL
      rw[aD hpl,ζb,<-gB hpl,decide_eq_true hi,aL,g1,ζb,g2,ζb];rw[<-g3]at hC;refine rX ?_ (bq i (by omega))
      rw[<-g3];refine xF hL g4 (λk hk=>?_) (λk hk=>?_)
      .have hk':k<t.procs.l.length:=by rw[<-hC.1.1];exact hk
       have:=gO hC hk';have:=hev k hk';omega
      .have hk':k<t.procs.l.length:=by rw[<-hC.1.1];exact hk
       have:=gO hC hk';exact⟨by rw[hh.2];exact hk',λi hi=>by rw[hsh.2 k hk'];omega⟩
     .unfold bJ.jI;rw[aD hpl,ζb,<-gB hpl,decide_eq_false (by omega),aQ]
     .exact(ah _).2 (.inl ⟨q,by rw[bq p (by omega)]⟩)
     .exact(ah _).2 (.inr ⟨q,rfl⟩)
    .intro _;unfold bJ.cI;rw[gb,aQ]
    .rw[hval,hh.2];exact⟨λk=>⟨⟨hsh,hri⟩,k⟩,λk=>k.2⟩
   .intro q;refine(ah _).2 ⟨λe=>(nomatch e),λk=>absurd (λp hp=>?_) q⟩
    have hp2:p<t.procs.l.length:=by rw[<-hh.2];exact hp
    exact⟨(hval.1 k).1.1.2 p hp2,(hval.1 k).1.2 p hp2⟩
theorem TU (hS:Small t) (hv:dL t=some true) (hV:VT t) (hM:fh t (aV t) A) (hL:jB s) (hs:iy t A s) (c:Sl Int) (hc60:c.l.length<=60):bn (eF t s c) (Cons t A c.l/\mG s c.l):=by
 have h8:=hV.few;have hL1:=hL.f;have hev:∀p,p<t.procs.l.length->dG t p<1073741824:=λp hp=>by rw[jE hp];exact(hS.2 _ (List.getElem_mem hp)).1
 unfold eF;have k1:bn ((aj s.empty (some false) ((eE t c).bind λx_1=>some x_1):Option Bool)) (s.empty=false/\Cons t A c.l):=by
  cases he:s.empty with
  | true=>exact fR ⟨λe=>(nomatch e),λq=>(nomatch q.1)⟩
  | false=>exact((DM hS hv hV hM c).some).iff ⟨λq=>⟨rfl,q⟩,λq=>q.2⟩
 have k2:=bn.and k1 (Q:=bp s.first.l c.l) (n:=c8 s.first c) (λ_=>B2 (by omega)) (f:=λx_2=>(aj x_2 ((c8 s.first c).bind λx_3=>some x_3) (some false):Option Bool)) (λb=>rfl)
 have k3:=bn.and k2 (Q:=bp c.l s.last.l) (n:=c8 c s.last) (λhq=>B2 (by omega)) (f:=λx_4=>(aj x_4 ((c8 c s.last).bind λx_5=>some x_5) (some false):Option Bool)) (λb=>rfl)
 have k4:=bn.and k3 (Q:=rB s c.l) (n:=cQ s c) (λhq=>by
  have hc:=hq.1.1.2;have he:=hq.1.1.1;rcases hs with⟨he',_⟩|⟨_,hF⟩
  .rw[he]at he';cases he'
  have hcl:=hc.1.1;refine xF hL hc60 (λp hp=>?_) (λp hp=>⟨?_,λi hi=>?_⟩)
  .have:=gO hc (p:=p) (by omega);have:=hev p (by omega);omega
  .rw[hF.1.1.1.2];omega
  .have:=gO hc (p:=p) (by omega)
   rw[hF.1.1.2 p (by omega)];omega) (f:=λx_6=>(aj x_6 ((cQ s c).bind λx_7=>some x_7) (some false):Option Bool)) (λb=>rfl)
 have k5:=k4.some;simp only[Option.bind_assoc]at k5 ⊢;refine k5.iff ?_;unfold mG;exact⟨λ⟨⟨⟨⟨a,b⟩,d⟩,e⟩,f⟩=>⟨b,⟨⟨a,d⟩,e⟩,f⟩,λ⟨b,⟨⟨a,d⟩,e⟩,f⟩=>⟨⟨⟨⟨a,b⟩,d⟩,e⟩,f⟩⟩
end
end Go.VE
namespace Go.VE
theorem Dx {s:Sl (Sl (Sl Int))} {p:Sl (Sl Int)->Option Bool} {f:Sl (Sl Int)->Bool} (hp:∀x∈s.l,p x=some (f x)) (hl:s.l.length<1073741824):iH s p=some (s.l.any f):=by
 have h:en s p=some (place f s.l):=oe hp (by omega) (λi=>rfl)
 unfold iH;rw[h,ζb,nQ]
structure HV (s:Slice):Prop where
 j:s.j.l.length<1073741824
 r:∀r∈s.j.l,r.l.length<1073741824
section
variable {t:Trace} {s:Slice}
theorem Iu (hv:dL t=some false):bJ t s=some false:=by unfold bJ;rw[hv];rfl
end
end Go.VE
namespace Go.VE
section
variable {t:Trace} {A:bg 200 ay} {s:Slice}
end
end Go.VE
namespace Go.VE
section
variable {t:Trace} {A:bg 200 ay} {s:Slice}
theorem JF (hE:lM t A s) (he:s.empty=false):mG s s.first.l:=by
 obtain⟨⟨⟨⟨⟨h1,h2⟩,h3⟩,h4⟩,h5⟩,h6⟩:=hE.1;refine⟨⟨⟨he,bp.refl _⟩,h3⟩,λp hp i hi=>?_⟩
 have hpt:p<t.procs.l.length:=by rw[<-h1.1.1];exact hp
 have k1:=bp.nth h3 hp;have k2:=gO h1 hpt;rcases h6 p hpt i (by omega)with k|⟨_,k|k⟩
 .omega
 .rw[k.2];exact bp.refl _
 .omega
theorem KM (hE:lM t A s) (he:s.empty=false) {p i:Nat} (hp:p<t.procs.l.length) (hi:(i:Int)<nth s.last.l p):mG s (el s p i)/\(i:Int)<nth (el s p i) p/\Cons t A (el s p i):=by
 obtain⟨⟨⟨⟨⟨h1,h2⟩,h3⟩,h4⟩,h5⟩,h6⟩:=hE.1;have k2:=gO h2 hp;rcases h6 p hp i (by omega)with k|⟨_,k|k⟩
 .omega
 .rw[k.2];exact⟨JF hE he,k.1,h1⟩
 .exact⟨⟨⟨⟨he,k.2.2.2.1⟩,k.2.2.2.2⟩,hE.2 p hp i hi⟩,k.2.2.1,k.2.1⟩
end
end Go.VE
namespace Go.VE
theorem rT {a b:List Int}:bp a b↔a.length=b.length/\∀p,p<a.length->nth a p<=nth b p:=by
 constructor
 .intro h;exact⟨h.1,λp hp=>h.nth hp⟩
 .rintro⟨h,k⟩;refine⟨h,λp x y hx hy=>?_⟩
  have:=k p (ζe.1 hx).1;unfold nth at this;rw[hx,hy]at this;exact this
theorem bp.anti {a b:List Int} (h:bp a b) (k:bp b a):a=b:=by
 refine List.ext_getElem h.1 λp hp hq=>?_
 have h1:=h.nth hp;have h2:=k.nth hq;rw[gB hp,gB hq]at h1 h2;omega
section
variable {t:Trace} {A:bg 200 ay} {U:List Int->Prop} {b:Slice}
structure vj (t:Trace) (A:bg 200 ay) (U:List Int->Prop) (b:Slice):Prop where
 e:b.empty=false
 f:U b.first.l
 mn:∀u,U u->bp b.first.l u
 j:b.j.l.length=t.procs.l.length
 rows:∀p,p<t.procs.l.length->rI b p=dG t p
 elm:∀p,p<t.procs.l.length->∀i,i<dG t p->(el b p i=[]/\∀u,U u->nth u p<=(i:Int))\/(U (el b p i)/\(i:Int)<nth (el b p i) p/\∀u,U u->(i:Int)<nth u p->bp (el b p i) u)
 lc:Cons t A b.last.l
 lf:bp b.first.l b.last.l
 le:∀p,p<t.procs.l.length->∀i,i<dG t p->U (el b p i)->bp (el b p i) b.last.l
 la:∀p,p<t.procs.l.length->∃v,U v/\nth b.last.l p=nth v p
theorem vj.up (h:vj t A U b) (hU:∀u,U u->Cons t A u) {u:List Int} (hu:U u):bp u b.last.l:=by
 have hC:=hU _ hu;refine rT.2 ⟨hC.1.1.trans h.lc.1.1.symm,λp hp=>?_⟩
 have hp':p<t.procs.l.length:=by rw[<-hC.1.1];exact hp
 have h1:=gO hC hp';have h2:=gO h.lc hp';refine Classical.byContradiction λhn=>?_
 have hi:(nth u p-1).toNat<dG t p:=by omega
 rcases h.elm p hp' _ hi with⟨_,k⟩|⟨k1,k2,k3⟩
 .have:=k u hu;omega
 .have h3:=(h.le p hp' _ hi k1).nth (p:=p) (by rw[(hU _ k1).1.1];exact hp')
  omega
theorem vj.Cg (h:vj t A U b) {p i:Nat} (hp:p<t.procs.l.length) (hi:(i:Int)<nth b.last.l p):i<dG t p/\U (el b p i)/\(i:Int)<nth (el b p i) p/\∀u,U u->(i:Int)<nth u p->bp (el b p i) u:=by
 have h2:=gO h.lc hp;have hie:i<dG t p:=by omega
 obtain⟨v,hv,hve⟩:=h.la p hp;rcases h.elm p hp i hie with⟨_,k⟩|k
 .have:=k v hv;omega
 .exact⟨hie,k⟩
theorem vj.form (h:vj t A U b) (hU:∀u,U u->Cons t A u):lM t A b:=by
 have hF:=hU _ h.f;refine⟨⟨⟨⟨⟨⟨hF,h.lc⟩,h.lf⟩,h.j⟩,h.rows⟩,λp hp i hi=>?_⟩,λp hp i hi q hq k hk=>?_⟩
 .by_cases hl:(i:Int)<nth b.last.l p
  .obtain⟨_,k1,k2,k3⟩:=h.Cg hp hl;refine .inr ⟨hl,?_⟩
   by_cases hf:(i:Int)<nth b.first.l p
   .exact .inl ⟨hf,(k3 _ h.f hf).anti (h.mn _ k1)⟩
   .exact .inr ⟨by omega,hU _ k1,k2,h.mn _ k1,h.le p hp i hi k1⟩
  .refine .inl ⟨by omega,?_⟩
   rcases h.elm p hp i hi with⟨k,_⟩|⟨k1,k2,_⟩
   .rw[k];rfl
   .have:=(h.le p hp i hi k1).nth (p:=p) (by rw[(hU _ k1).1.1];exact hp)
    omega
 .obtain⟨_,k1,k2,k3⟩:=h.Cg hp hi;have hC:=hU _ k1;have hq':q<t.procs.l.length:=by rw[<-hC.1.1];exact hq
  have:=gO hC hq';rcases h.elm q hq' k (by omega)with⟨_,m⟩|⟨_,_,m⟩
  .have:=m _ k1;omega
  .exact m _ k1 hk
theorem vj.valid (h:vj t A U b) (hU:∀u,U u->Cons t A u):iy t A b:=.inr ⟨h.e,h.form hU⟩
theorem cover (hU:∀u,U u->Cons t A u) (hJ:∀u v w,U u->U v->kF gT u v w->U w) {c u0:List Int} (hl:c.length=t.procs.l.length) (h0:U u0) (hle:bp u0 c)
 (h:∀p,p<t.procs.l.length->0<nth c p->∃u,U u/\bp u c/\nth c p<=nth u p):U c:=by
 have key:∀k,k<=t.procs.l.length->∃u,U u/\bp u c/\∀p,p<k->nth c p<=nth u p:=by
  intro k
  induction k with
  | zero=>exact λ_=>⟨u0,h0,hle,λp hp=>absurd hp (by omega)⟩
  | succ k ih=>
   intro hk;obtain⟨u,h1,h2,h3⟩:=ih (by omega)
   by_cases hp:0<nth c k
   .obtain⟨v,g1,g2,g3⟩:=h k (by omega) hp
    have hlen:u.length=v.length:=h2.1.trans g2.1.symm;have hz:=kF.of gT hlen;obtain⟨m1,m2,m3⟩:=hz.le_max hlen;refine⟨_,hJ u v _ h1 g1 hz,m3 c h2 g2,λp hp'=>?_⟩
    rcases Nat.lt_or_eq_of_le (Nat.lt_succ_iff.1 hp')with q|rfl
    .exact Int.le_trans (h3 p q) (m1.nth (by rw[h2.1];omega))
    .exact Int.le_trans g3 (m2.nth (by rw[g2.1];omega))
   .refine⟨u,h1,h2,λp hp'=>?_⟩
    rcases Nat.lt_or_eq_of_le (Nat.lt_succ_iff.1 hp')with q|rfl
    .exact h3 p q
    .have:=gO (hU u h1) (p:=p) (by omega);omega
 obtain⟨u,h1,h2,h3⟩:=key _ (Nat.le_refl _);have:u=c:=h2.anti (rT.2 ⟨h2.1.symm,λp hp=>h3 p (by omega)⟩)
 exact this▸h1
theorem vj.has (h:vj t A U b) (hU:∀u,U u->Cons t A u) (hJ:∀u v w,U u->U v->kF gT u v w->U w) {c:List Int} (hC:Cons t A c):mG b c↔U c:=by
 constructor
 .rintro⟨⟨⟨_,h1⟩,h2⟩,h3⟩;refine cover hU hJ hC.1.1 h.f h1 λp hp hp0=>?_
  have hpl:p<c.length:=by rw[hC.1.1];exact hp
  have h4:=h2.nth hpl;obtain⟨_,k1,k2,_⟩:=h.Cg hp (i:=(nth c p-1).toNat) (by omega)
  exact⟨_,k1,h3 p hpl _ (by omega),by omega⟩
 .intro hc;refine⟨⟨⟨h.e,h.mn _ hc⟩,h.up hU hc⟩,λp hp i hi=>?_⟩
  have hp':p<t.procs.l.length:=by rw[<-hC.1.1];exact hp
  have:=gO hC hp';rcases h.elm p hp' i (by omega)with⟨_,k⟩|⟨_,_,k⟩
  .have:=k _ hc;omega
  .exact k _ hc hi
end
end Go.VE
namespace Go.VE
end Go.VE
namespace Go.VE
end Go.VE
namespace Go.VE
end Go.VE
namespace Go.VE
theorem qc {c:List Int} {q p:Nat} {v:Int} (hp:p<c.length):nth (c.set q v) p=if p=q then v else nth c p:=by
 unfold nth
 by_cases e:p=q
 .subst e;rw[if_pos rfl,List.getElem?_set_self hp];rfl
 .rw[if_neg e,List.getElem?_set_ne (Ne.symm e)]
theorem Hf {c:List Int} {p:Nat} (hp:p<c.length):c[p]? = some (nth c p):=by rw[gB hp,ζd hp]
section
variable {t:Trace} {A:bg 200 ay} {s:Slice}
theorem xe.to {c d:List Int} (hC:Cons t A c) (h:xe t A c d):∃p,p<t.procs.l.length/\d=c.set p (nth c p+1)/\Cons t A d:=by
 obtain⟨p,a,h1,h2,h3⟩:=h;have hp:=(ζe.1 h1).1;have:nth c p=a:=by unfold nth;rw[h1];rfl
 exact⟨p,by rw[<-hC.1.1];exact hp,by rw[this];exact h2,h3⟩
theorem xe.le {c d:List Int} (hC:Cons t A c) (h:xe t A c d):bp c d:=by
 obtain⟨p,hp,rfl,_⟩:=h.to hC;refine rT.2 ⟨by rw[List.length_set],λq hq=>?_⟩
 rw[qc hq];split
 .rename_i e;subst e;omega
 .omega
structure Ud (t:Trace) (A:bg 200 ay) (s:Slice) (own:Nat->Nat->List Int) (B:List Int):Prop where
 len:B.length=t.procs.l.length
 f:∀q,q<t.procs.l.length->nth s.first.l q<=nth B q
 up:∀p,p<t.procs.l.length->∀i,i<dG t p->∀q,q<t.procs.l.length->nth (own p i) q<nth (el s p i) q->nth (el s p i) q<=nth B q
 at_:∀q,q<t.procs.l.length->nth B q=nth s.first.l q\/∃p,p<t.procs.l.length/\∃i,i<dG t p/\nth (own p i) q<nth (el s p i) q/\nth (el s p i) q=nth B q
structure Uk (t:Trace) (s:Slice) (B:List Int):Prop where
 len:B.length=t.procs.l.length
 f:bp s.first.l B
 up:∀p,p<t.procs.l.length->∀i,i<dG t p->∀q,q<t.procs.l.length->∀k,k<dG t q->(p≠q\/i≠k)->el s p i=el s q k->¬bp (el s p i) s.first.l->bp (el s p i) B
 at_:∀r,r<t.procs.l.length->nth B r=nth s.first.l r\/∃p,p<t.procs.l.length/\∃i,i<dG t p/\∃q,q<t.procs.l.length/\∃k,k<dG t q/\(p≠q\/i≠k)/\el s p i=el s q k/\nth (el s p i) r=nth B r
theorem Ca:∀{a b:List Int},bp a b->a.sum<=b.sum/\(a.sum=b.sum->a=b)
 | [],[],_=>⟨Int.le_refl _,λ_=>rfl⟩
 | [],_::_,h=>nomatch h.1
 | _::_,[],h=>nomatch h.1
 | x::a,y::b,h=>by
  have h0:=h.2 0 x y rfl rfl;obtain⟨h1,h2⟩:=Ca (a:=a) (b:=b) ⟨by simpa using h.1,λp u v hu hv=>h.2 (p+1) u v hu hv⟩
  simp only[List.sum_cons];refine⟨by omega,λe=>?_⟩
  have:x=y:=by omega
  rw[this,h2 (by omega)]
end
end Go.VE
namespace Go.VE
theorem Hx {a b:List Int} (hl:a.length=b.length) (h:∀p,p<a.length->nth a p=nth b p):a=b:=by
 refine List.ext_getElem hl λp hp hq=>?_
 have:=h p hp;rw[gB hp,gB hq]at this;exact this
theorem zd {g:Int->Int->Int} {a b:List Int} (hl:a.length=b.length) {p:Nat} (hp:p<a.length):nth (List.zipWith g a b) p=g (nth a p) (nth b p):=(kF.of g hl).nth hl hp
theorem Ch {s:Sl Int} {p:Nat} (hp:p<s.l.length):Sl.get s p=some (nth s.l p):=Hf hp
theorem Ie {a b:Sl Int} (hl:a.l.length=b.l.length) (h0:0<a.l.length) (h60:a.l.length<1073741824):∃r,gA a b=some r/\r.l=List.zipWith gT a.l b.l:=by
 unfold gA;obtain⟨d,h1,h2⟩:=wX (c:=a) (by omega) h0
 rw[h1,ζb];unfold gA.W1;refine gu b.l.length (λi (q:Sl Int×Int)=>q.2=(i:Int)/\q.1.l.length=a.l.length/\∀p,p<a.l.length->nth q.1.l p=if p<i then gT (nth a.l p) (nth b.l p)else nth a.l p) ⟨rfl,by rw[h2],λp hp=>by rw[h2,if_neg (by omega)]⟩ ?_ ?_
 .rintro i ⟨o,v⟩ hi ⟨rfl,h3,h4⟩;simp only at h3 h4;unfold gA.an;simp only;obtain⟨r,hr,hre⟩:=put_eq (s:=o) (p:=i) (x:=gT (nth o.l i) (nth b.l i)) (by omega)
  rw[gf hi,aL,aD hi,ζb,BO (by omega),ζb,Ch (by omega),ζb,ζb,<-gB hi]
  rw[show (if nth b.l i>nth o.l i then nth b.l i else nth o.l i)=gT (nth o.l i) (nth b.l i)from rfl,hr,ζb,ah];refine⟨bq i (by omega),by rw[hre,List.length_set];exact h3,λp hp=>?_⟩
  rw[hre,qc (by omega)]
  have:=h4 i (by omega)
  rw[if_neg (by omega)]at this
  by_cases e:p=i
  .subst e;rw[if_pos rfl,if_pos (by omega),this]
  .rw[if_neg e,h4 p hp]
   by_cases e2:p<i
   .rw[if_pos e2,if_pos (by omega)]
   .rw[if_neg e2,if_neg (by omega)]
 .rintro⟨o,v⟩ ⟨rfl,h3,h4⟩;simp only at h3 h4;unfold gA.an;simp only;rw[gb,aQ,ah];refine(ah _).2 ?_;exact Hx (by simp[h3,hl]) λp hp=>by rw[h4 p (by omega),if_pos (by omega),zd hl (by omega)]
theorem Ta {c:Sl Int} {p:Nat} {x:Int} (hp:p<c.l.length) (h60:c.l.length<1073741824):∃r,tG c (p:Int) x=some r/\r.l=c.l.set p (gT (nth c.l p) x):=by
 unfold tG;obtain⟨d,h1,h2⟩:=wX (c:=c) (by omega) (by omega)
 rw[h1,ζb,BO (by rw[h2];exact hp),ζb,Ch (by rw[h2];exact hp),ζb,ζb]
 obtain⟨r,hr,hre⟩:=put_eq (s:=d) (p:=p) (x:=gT (nth d.l p) x) (by rw[h2];exact hp)
 rw[show (if x>nth d.l p then x else nth d.l p)=gT (nth d.l p) x from rfl,hr,ζb];exact⟨r,rfl,by rw[hre,h2]⟩
section
variable {t:Trace} {A:bg 200 ay} {s:Slice}
theorem sj {c:List Int} (hl:c.length=t.procs.l.length):je t c↔∀p,p<t.procs.l.length->0<=nth c p/\nth c p<=dG t p:=by
 constructor
 .intro h p hp;have hc:=Hf (c:=c) (p:=p) (by omega)
  have:=h.2 p _ _ hc (ζd hp);rw[jE hp];exact this
 .intro h;refine⟨hl,λp a P ha hP=>?_⟩
  have hp:=(ζe.1 hP).1;have h1:=h p hp;have e:nth c p=a:=by unfold nth;rw[ha];rfl
  rw[jE hp,e]at h1;rw[(ζe.1 hP).2]at h1;exact h1
theorem Md {c:List Int} (hR:je t c) {p i:Nat} (hp:p<t.procs.l.length) (hi:i<dG t p):je t (c.set p (gT (nth c p) ((i:Int)+1))):=by
 have hl:=hR.1;rw[sj (by rw[List.length_set];exact hl)]
 intro q hq;rw[qc (by omega)]
 have h1:=(sj hl).1 hR q hq;split
 .rename_i e;subst e;rcases kS (nth c q) ((i:Int)+1)with⟨e,_⟩|⟨e,_⟩ <;> rw[e] <;> omega
 .exact h1
theorem Ow {c u:List Int} (hl:c.length=u.length) {p:Nat} {x:Int} (hp:p<c.length):bp (c.set p (gT (nth c p) x)) u↔bp c u/\x<=nth u p:=by
 rw[rT,rT];simp only[List.length_set,hl,true_and];constructor
 .intro h;have h1:=h p (by omega)
  rw[qc hp,if_pos rfl]at h1;rcases kS (nth c p) x with⟨e,_⟩|⟨e,_⟩
  .rw[e]at h1;refine⟨λq hq=>?_,by omega⟩
   have h2:=h q hq;rw[qc (by omega)]at h2
   split at h2
   .rename_i e2;subst e2;exact h1
   .exact h2
  .rw[e]at h1;refine⟨λq hq=>?_,h1⟩
   have h2:=h q hq;rw[qc (by omega)]at h2
   split at h2
   .rename_i e2;subst e2;omega
   .exact h2
 .rintro⟨h1,h2⟩ q hq;rw[qc (by omega)]
  split
  .rename_i e;subst e;have:=h1 q hq;rcases kS (nth c q) x with⟨e,_⟩|⟨e,_⟩ <;> rw[e] <;> omega
  .exact h1 q hq
theorem G4 {a b:List Int} (ha:je t a) (hb:je t b):je t (List.zipWith gT a b):=by
 have hl:a.length=b.length:=ha.1.trans hb.1.symm;rw[sj (by rw[List.length_zipWith,hl,Nat.min_self];exact hb.1)]
 intro p hp;rw[zd hl (by rw[ha.1];exact hp)]
 have h1:=(sj ha.1).1 ha p hp;have h2:=(sj hb.1).1 hb p hp;rcases kS (nth a p) (nth b p)with⟨e,_⟩|⟨e,_⟩ <;> rw[e] <;> assumption
theorem By {a b u:List Int} (hl:a.length=b.length):bp (List.zipWith gT a b) u↔bp a u/\bp b u:=by
 obtain⟨h1,h2,h3⟩:=(kF.of gT hl).le_max hl;exact⟨λh=>⟨h1.trans h,h2.trans h⟩,λh=>h3 u h.1 h.2⟩
theorem MM:je t (List.replicate t.procs.l.length 0):=(sj (by simp)).2 λp hp=>by unfold nth;rw[List.getElem?_replicate,if_pos hp];exact⟨Int.le_refl _,by simp⟩
end
end Go.VE
namespace Go.VE
section
variable {t:Trace} {A:bg 200 ay} {U:List Int->Prop}
def Ts (U:List Int->Prop) (p i:Nat) (e:List Int):Prop:=(e=[]/\∀u,U u->nth u p<=(i:Int))\/(U e/\(i:Int)<nth e p/\∀u,U u->(i:Int)<nth u p->bp e u)
def Cp (U:List Int->Prop) (p:Nat) (l:Sl (Sl Int)) (n:Nat) (last:List Int):Prop:=l.l.length=n/\∀(i:Nat) (e:Sl Int),l.l[i]? = some e->Ts U p i e.l/\(U e.l->bp e.l last)
def ze (t:Trace) (A:bg 200 ay) (U:List Int->Prop) (f last:List Int):Prop:=Cons t A last/\bp f last/\∀q,q<t.procs.l.length->∃v,U v/\nth last q=nth v q
theorem Cp.up {p n:Nat} {l:Sl (Sl Int)} {a b:List Int} (h:Cp U p l n a) (hab:bp a b):Cp U p l n b:=⟨h.1,λi e he=>⟨(h.2 i e he).1,λhu=>((h.2 i e he).2 hu).trans hab⟩⟩
def Cw (t:Trace) (U:List Int->Prop) (p1:Sl Int->Option (Sl Int×Bool)):Prop:=∀c:Sl Int,je t c.l->(∃d,p1 c=some (d,true)/\U d.l/\bp c.l d.l/\∀u,U u->bp c.l u->bp d.l u)\/(p1 c=some (Sl.nil,false)/\∀u,U u->¬bp c.l u)
theorem ze.join {f last d:List Int} (hU:∀u,U u->Cons t A u) (h:ze t A U f last) (hd:U d):ze t A U f (List.zipWith gT last d)/\bp last (List.zipWith gT last d)/\bp d (List.zipWith gT last d):=by
 obtain⟨h1,h2,h3⟩:=h;have hl:last.length=d.length:=h1.1.1.trans (hU d hd).1.1.symm;obtain⟨m1,m2,_⟩:=(kF.of gT hl).le_max hl;refine⟨⟨join_cons h1 (hU d hd) (kF.of gT hl),h2.trans m1,λq hq=>?_⟩,m1,m2⟩
 rw[zd hl (by rw[h1.1.1];exact hq)]
 rcases kS (nth last q) (nth d q)with⟨e,_⟩|⟨e,_⟩
 .rw[e];exact h3 q hq
 .exact⟨d,hd,e⟩
theorem zero_le {u:List Int} (hu:Cons t A u):bp (List.replicate t.procs.l.length 0) u:=rT.2 ⟨by rw[hu.1.1];exact List.length_replicate,λp hp=>by
 have hp':p<t.procs.l.length:=by simpa using hp
 have:=(gO hu hp').1;unfold nth at this ⊢;rw[List.getElem?_replicate,if_pos hp'];exact this⟩
theorem Q3 (hS:Small t) (hV:VT t) (hU:∀u,U u->Cons t A u) {p1:Sl Int->Option (Sl Int×Bool)} (hP:Cw t U p1) :
 ∃b,dn t p1=some b/\((b=⟨true,.nil,.nil,.nil⟩/\∀u,¬U u)\/vj t A U b):=by
 have hn8:=hV.few;have hone:=hV.ok.one;unfold dn;have hz:tw (len t.procs) (0:Int)=some (.row (List.replicate t.procs.l.length 0)):=by
  unfold tw;rw[if_pos (by simp[len];omega)];simp[len]
 rw[hz,ζb];rcases hP (.row (List.replicate t.procs.l.length 0)) MM with⟨f,hf,fU,_,fm⟩|⟨hf,hno⟩
 rotate_left
 .rw[hf,ζb,aQ];exact⟨_,rfl,.inl ⟨rfl,λu hu=>hno u hu (zero_le (hU u hu))⟩⟩
 have hfC:=hU _ fU;have fmin:∀u,U u->bp f.l u:=λu hu=>fm u hu (zero_le (hU u hu))
 rw[hf,ζb,aL];obtain⟨g,hg,hge⟩:=wX (c:=f) (by rw[hfC.1.1];omega) (by rw[hfC.1.1];omega)
 rw[hg,ζb];unfold dn.W1;have hev:∀p,p<t.procs.l.length->dG t p<1073741824:=λp hp=>by rw[jE hp];exact(hS.2 _ (List.getElem_mem hp)).1
 refine gu t.procs.l.length (λk (q:Int×Slice×Slice)=>q.1=(k:Int)/\q.2.2.empty=false/\q.2.2.first=f/\ze t A U f.l q.2.2.last.l/\q.2.2.j.l.length=k/\∀p l,q.2.2.j.l[p]? = some l->Cp U p l (dG t p) q.2.2.last.l) ⟨rfl,rfl,rfl,⟨by rw[hge];exact hfC,by rw[hge];exact bp.refl _,λq _=>⟨f.l,fU,by rw[hge]⟩⟩,rfl,λp l h=>by simp[Sl.l]at h⟩ ?_ ?_
 .rintro k ⟨v,vb,o⟩ hk ⟨rfl,i1,i2,i3,i4,i5⟩;simp only at i1 i2 i3 i4 i5;unfold dn.an;simp only;rw[gf hk,aL,aD hk,ζb];unfold dn.W2;have hlen:t.procs.l[k].events.l.length=dG t k:=(jE hk).symm;refine gu (dG t k) (λi (q:Sl (Sl Int)×Int×Slice×Slice)=>q.2.1=(i:Int)/\Cp U k q.1 i q.2.2.2.last.l/\q.2.2.2.empty=false/\q.2.2.2.first=f/\ze t A U f.l q.2.2.2.last.l/\q.2.2.2.j=o.j/\bp o.last.l q.2.2.2.last.l) ⟨rfl,⟨rfl,λi e h=>by simp[Sl.l]at h⟩,i1,i2,i3,rfl,bp.refl _⟩ ?_ ?_
  .rintro i ⟨l,v,vb2,o2⟩ hi ⟨rfl,j1,j2,j3,j4,j5,j6⟩;simp only at j1 j2 j3 j4 j5 j6;unfold dn.aY;simp only;have he:=hev k hk;rw[show (len t.procs.l[k].events)=((dG t k:Nat):Int)by simp[len,hlen],show decide ((i:Int)<((dG t k:Nat):Int))=true by simpa using hi,aL,bq i (by omega)]
   obtain⟨w,hw,hwe⟩:=Ta (c:=f) (p:=k) (x:=((i+1:Nat):Int)) (by rw[hfC.1.1];exact hk) (by rw[hfC.1.1];omega)
   rw[hw,ζb];have hwR:je t w.l:=by rw[hwe];exact Md hfC.1 hk hi
   have hwle:∀u,Cons t A u->(bp w.l u↔bp f.l u/\(i:Int)<nth u k):=λu hu=>by
    rw[hwe,Ow (by rw[hfC.1.1,hu.1.1]) (by rw[hfC.1.1];exact hk)]
    constructor
    .rintro⟨a,b⟩;exact⟨a,by omega⟩
    .rintro⟨a,b⟩;exact⟨a,by omega⟩
   have hll:l.l.length<2147483648:=by rw[j1.1];omega
   rcases hP w hwR with⟨d,hd,dU,dle,dm⟩|⟨hd,hno⟩
   .rw[hd,ζb,aL];have hdC:=hU _ dU;have hll2:o2.last.l.length=d.l.length:=j4.1.1.1.trans hdC.1.1.symm;obtain⟨r,hr,hre⟩:=Ie hll2 (by rw[hll2,hdC.1.1];omega) (by rw[hll2,hdC.1.1];omega)
    rw[hr,ζb];unfold dn.J3;obtain⟨l',hl',hle'⟩:=mZ (s:=l) (x:=d) hll;rw[hl',ζb,ah];obtain⟨k1,k2,k3⟩:=ze.join hU j4 dU;refine⟨bq i (by omega),⟨by rw[hle'];simp[j1.1],λi' e he'=>?_⟩,j2,j3,by rw[hre];exact k1,j5,by rw[hre];exact j6.trans k2⟩
    simp only[hre];rw[hle']at he'
    by_cases hi':i'<l.l.length
    .rw[List.getElem?_append_left hi']at he';obtain⟨a,b⟩:=j1.2 i' e he';exact⟨a,λhu=>(b hu).trans k2⟩
    .have:i'=i:=by
      have:=(ζe.1 he').1;simp at this;have:=j1.1;omega
     subst this;have hj:=j1.1;rw[<-hj,List.getElem?_concat_length]at he';cases he';exact⟨.inr ⟨dU,((hwle _ hdC).1 dle).2,λu hu hlt=>dm u hu ((hwle u (hU u hu)).2 ⟨fmin u hu,hlt⟩)⟩,λ_=>k3⟩
   .rw[hd,ζb,aQ];unfold dn.J3;obtain⟨l',hl',hle'⟩:=mZ (s:=l) (x:=(Sl.nil:Sl Int)) hll;rw[hl',ζb,ah];refine⟨bq i (by omega),⟨by rw[hle'];simp[j1.1],λi' e he'=>?_⟩,j2,j3,j4,j5,j6⟩
    rw[hle']at he'
    by_cases hi':i'<l.l.length
    .rw[List.getElem?_append_left hi']at he';exact j1.2 i' e he'
    .have:i'=i:=by
      have:=(ζe.1 he').1;simp at this;have:=j1.1;omega
     subst this;have hj:=j1.1;rw[<-hj,List.getElem?_concat_length]at he';cases he';refine⟨.inl ⟨rfl,λu hu=>?_⟩,λhu=>?_⟩
     .refine Classical.byContradiction λhlt=>hno u hu ((hwle u (hU u hu)).2 ⟨fmin u hu,by omega⟩)
     .have h0:(Sl.nil:Sl Int).l.length=t.procs.l.length:=(hU _ hu).1.1;have:(Sl.nil:Sl Int).l.length=0:=rfl;omega
  .rintro⟨l,v,vb2,o2⟩ ⟨rfl,j1,j2,j3,j4,j5,j6⟩;simp only at j1 j2 j3 j4 j5 j6;unfold dn.aY;simp only;rw[show (len t.procs.l[k].events)=((dG t k:Nat):Int)by simp[len,hlen],show decide (((dG t k:Nat):Int)<((dG t k:Nat):Int))=false by simp,aQ,ah]
   obtain⟨j',hj',hje'⟩:=mZ (s:=o2.j) (x:=l) (by rw[j5,i4];omega)
   show Wp ((fP o2.j l).bind _) _;rw[hj',ζb,ah];refine⟨bq k (by omega),j2,j3,j4,by rw[hje',j5];simp[i4],λp l2 hp=>?_⟩
   rw[hje',j5]at hp
   by_cases hpk:p<o.j.l.length
   .rw[List.getElem?_append_left hpk]at hp;exact(i5 p l2 hp).up j6
   .have:p=k:=by
     have:=(ζe.1 hp).1;simp at this;omega
    subst this;rw[<-i4,List.getElem?_concat_length]at hp;cases hp;exact j1
 .rintro⟨v,vb,o⟩ ⟨rfl,i1,i2,i3,i4,i5⟩;simp only at i1 i2 i3 i4 i5;unfold dn.an;simp only;rw[gb,aQ,ah];refine(ah _).2 (.inr ?_);have row:∀p,p<t.procs.l.length->∃l,o.j.l[p]? = some l/\Cp U p l (dG t p) o.last.l:=λp hp=>⟨_,ζd (by rw[i4];exact hp),i5 p _ (ζd (by rw[i4];exact hp))⟩
  have elq:∀p,p<t.procs.l.length->∀i,i<dG t p->Ts U p i (el o p i)/\(U (el o p i)->bp (el o p i) o.last.l):=λp hp i hi=>by
   obtain⟨l,h1,h2⟩:=row p hp;have hil:i<l.l.length:=by rw[h2.1];exact hi
   have:=h2.2 i _ (ζd hil);unfold el;rw[h1];simp only[ζd hil];exact this
  exact⟨i1,by rw[i2];exact fU,λu hu=>by rw[i2];exact fmin u hu,i4,λp hp=>by
   obtain⟨l,h1,h2⟩:=row p hp;unfold rI;rw[h1];exact h2.1,λp hp i hi=>(elq p hp i hi).1,i3.1,by rw[i2];exact i3.2.1,λp hp i hi=>(elq p hp i hi).2,i3.2.2⟩
end
end Go.VE
namespace Go.VE
section
variable {t:Trace} {A:bg 200 ay} {L:List Slice}
def qP (t:Trace) (A:bg 200 ay) (L:List Slice) (u:List Int):Prop:=Cons t A u/\∀s∈L,mG s u
structure Inv (t:Trace) (A:bg 200 ay) (L:List Slice) (ci c:List Int):Prop where
 r:je t c
 le:bp ci c
 mn:∀u,qP t A L u->bp ci u->bp c u
def Pass (c0 c:List Int) (ch:Bool) (D:Prop):Prop:=bp c0 c/\(ch=true->c0.sum<c.sum)/\(ch=false->c=c0/\D)
def Mz (s:Slice) (c:List Int) (p:Nat):Prop:=∀i:Nat,(i:Int)<nth c p->bp (el s p i) c
def HE (s:Slice) (c:List Int) (n:Nat):Prop:=bp c s.last.l/\∀p,p<n->Mz s c p
theorem Hu (hS:Small t) (hV:VT t) {l1:Sl Slice} (hL:∀s∈l1.l,s.empty=true\/lM t A s) (hne:l1.l≠[]) (h60:l1.l.length<1073741824) {ci:Sl Int} (hci:je t ci.l) :
 (∃d,bC ci l1=some (d,true)/\qP t A l1.l d.l/\bp ci.l d.l/\∀u,qP t A l1.l u->bp ci.l u->bp d.l u)\/(bC ci l1=some (Sl.nil,false)/\∀u,qP t A l1.l u->¬bp ci.l u):=by
 have hn8:=hV.few;have hone:=hV.ok.one
 suffices h:Wp (bC ci l1) λr=>(r.2=true/\qP t A l1.l r.1.l/\bp ci.l r.1.l/\∀u,qP t A l1.l u->bp ci.l u->bp r.1.l u)\/(r=(Sl.nil,false)/\∀u,qP t A l1.l u->¬bp ci.l u)by
  obtain⟨⟨d,b⟩,hr,h|h⟩:=h
  .obtain⟨rfl,h⟩:=h;exact .inl ⟨d,hr,h⟩
  .obtain⟨e,h⟩:=h;exact .inr ⟨by rw[hr,e],h⟩
 unfold bC bC.W1;refine gu l1.l.length (λi (q:Sl Int×Int)=>q.2=(i:Int)/\Inv t A l1.l ci.l q.1.l/\∀j s,j<i->l1.l[j]? = some s->s.empty=false/\bp s.first.l q.1.l) ⟨rfl,⟨hci,bp.refl _,λu _ h=>h⟩,λj s hj _=>absurd hj (by omega)⟩ ?_ ?_
 .rintro i ⟨c,v⟩ hi ⟨rfl,i1,i2⟩;simp only at i1 i2;unfold bC.an;simp only;rw[gf hi,aL,aD hi,ζb];have hmem:l1.l[i]∈l1.l:=List.getElem_mem hi
  cases he:l1.l[i].empty with
  | true=>
   rw[aL,ah];refine(ah _).2 (.inr ⟨rfl,λu hu _=>?_⟩)
   have:=(hu.2 _ hmem).1.1.1;rw[he]at this;cases this
  | false=>
   rw[aQ];have hF:=(hL _ hmem).resolve_left (by rw[he];simp)
   have hf:Cons t A l1.l[i].first.l:=hF.1.1.1.1.1.1
   have hl:c.l.length=l1.l[i].first.l.length:=i1.r.1.trans hf.1.1.symm
   obtain⟨r,hr,hre⟩:=Ie hl (by rw[i1.r.1];omega) (by rw[i1.r.1];omega)
   rw[hr,ζb,ah];obtain⟨m1,m2⟩:=(By hl).1 (bp.refl (List.zipWith gT c.l l1.l[i].first.l))
   refine⟨bq i (by omega),⟨by rw[hre];exact G4 i1.r hf.1,by rw[hre];exact i1.le.trans m1,λu hu hle=>by rw[hre];exact(By hl).2 ⟨i1.mn u hu hle,(hu.2 _ hmem).1.1.2⟩⟩,λj s hj hs=>?_⟩
   simp only[hre];rcases Nat.lt_or_eq_of_le (Nat.lt_succ_iff.1 hj)with hj|rfl
   .obtain⟨a,b⟩:=i2 j s hj hs;exact⟨a,b.trans m1⟩
   .rw[ζd hi]at hs;cases hs;exact⟨he,m2⟩
 .rintro⟨c,v⟩ ⟨rfl,i1,i2⟩;simp only at i1 i2;unfold bC.an;simp only;rw[gb,aQ,ah];have hall:∀s∈l1.l,s.empty=false/\lM t A s/\bp s.first.l c.l:=λs hs=>by
   obtain⟨j,hj⟩:=List.mem_iff_getElem?.1 hs;obtain⟨a,b⟩:=i2 j s (ζe.1 hj).1 hj;exact⟨a,(hL s hs).resolve_left (by rw[a];simp),b⟩
  show Wp (bC.W2 c l1 true) _;unfold bC.W2;refine dI (λq:Sl Int×Bool=>Inv t A l1.l ci.l q.1.l/\bp c.l q.1.l/\(q.2=false->∀s∈l1.l,HE s q.1.l t.procs.l.length)) (λq=>2*((rH t:Int)-q.1.l.sum).toNat+(if q.2 then 1 else 0)) ⟨i1,bp.refl _,λh=>nomatch h⟩ ?_
  rintro⟨c0,ch⟩ ⟨j1,j2,j3⟩;simp only at j1 j2 j3;unfold bC.aY;simp only
  cases ch with
  | false=>
   rw[aQ,ah];refine(ah _).2 (.inl ⟨rfl,?_,j1.le,j1.mn⟩);have hs:=j3 rfl;obtain⟨s0,hs0⟩:=List.exists_mem_of_ne_nil _ hne;obtain⟨e0,F0,f0⟩:=hall s0 hs0;have hC:Cons t A c0.l:=cover (U:=Cons t A) (λ_ h=>h) (λu v w hu hv hz=>join_cons hu hv hz) j1.r.1 (F0.1.1.1.1.1.1) (f0.trans j2) λp hp hp0=>by
    have hle:=(hs s0 hs0).1;have h1:=hle.nth (p:=p) (by rw[j1.r.1];exact hp)
    obtain⟨_,g2,g3⟩:=KM F0 e0 hp (i:=(nth c0.l p-1).toNat) (by omega)
    exact⟨_,g3,(hs s0 hs0).2 p hp _ (by omega),by omega⟩
   refine⟨hC,λs hs'=>⟨⟨⟨(hall s hs').1,((hall s hs').2.2).trans j2⟩,(hs s hs').1⟩,λp hp i hi=>(hs s hs').2 p (by rw[<-j1.r.1];exact hp) i hi⟩⟩
  | true=>
   rw[aL];unfold bC.W3;refine gu l1.l.length (λi (q:Sl Int×Bool×Int)=>q.2.2=(i:Int)/\Inv t A l1.l ci.l q.1.l/\Pass c0.l q.1.l q.2.1 (∀j s,j<i->l1.l[j]? = some s->HE s c0.l t.procs.l.length)) ⟨rfl,j1,bp.refl _,λh=>(nomatch h),λ_=>⟨rfl,λj s hj _=>absurd hj (by omega)⟩⟩ ?_ ?_
   .rintro i ⟨c1,ch,v⟩ hi ⟨rfl,k1,k2⟩;simp only at k1 k2;unfold bC.cI;simp only;have hmem:l1.l[i]∈l1.l:=List.getElem_mem hi;obtain⟨he,hF,hf⟩:=hall _ hmem;generalize hsi:l1.l[i]=s at hmem he hF hf;rw[gf hi,aL,aD hi,hsi,ζb];obtain⟨b,hb,hbi⟩:=Cc (a:=c1) (b:=s.last) (by rw[k1.r.1];omega)
    rw[hb,ζb];have hlast:Cons t A s.last.l:=hF.1.1.1.1.1.2
    cases b with
    | false=>
     rw[aQ,ah];show Wp (some (Fw.r ())) _;rw[ah];refine(ah _).2 (.inr ⟨rfl,λu hu hle=>?_⟩)
     have:=hbi.2 ((k1.mn u hu hle).trans (hu.2 _ hmem).1.2);cases this
    | true=>
     rw[aL];have hle1:=hbi.1 rfl;unfold bC.W4;refine gu c1.l.length (λp (q:Sl Int×Bool×Int)=>q.2.2=(p:Int)/\Inv t A l1.l ci.l q.1.l/\bp c1.l q.1.l/\Pass c0.l q.1.l q.2.1 ((∀j s,j<i->l1.l[j]? = some s->HE s c0.l t.procs.l.length)/\∀p',p'<p->Mz s c0.l p')) ⟨rfl,k1,bp.refl _,k2.1,k2.2.1,λh=>⟨(k2.2.2 h).1,(k2.2.2 h).2,λp' hp'=>absurd hp' (by omega)⟩⟩ ?_ ?_
     .rintro p ⟨c2,ch2,v⟩ hp ⟨rfl,m1,m2,m3⟩;simp only at m1 m2 m3;unfold bC.jI;simp only;have hp':p<t.procs.l.length:=by rw[<-k1.r.1];exact hp
      have hpj:p<s.j.l.length:=by rw[hF.1.1.1.2];exact hp'
      have hev:=(sj k1.r.1).1 k1.r p hp';have hevb:dG t p<1073741824:=by rw[jE hp'];exact(hS.2 _ (List.getElem_mem hp')).1
      have hlp:=hle1.nth hp;have hrow:s.j.l[p].l.length=dG t p:=by rw[<-lY hpj];exact hF.1.1.2 p hp'
      obtain⟨x,hx,hxl⟩:=qd s.j.l[p] (nth c1.l p).toNat (by omega)
      rw[gf hp,aL,aD hp,ζb,aD hpj,ζb,<-gB hp,show nth c1.l p=(((nth c1.l p).toNat:Nat):Int)by omega,hx,ζb]
      unfold bC.W5;have hxn:x.l.length=(nth c1.l p).toNat:=by rw[hxl,List.length_take];omega
      refine gu x.l.length (λk (q:Sl Int×Bool×Int)=>q.2.2=(k:Int)/\Inv t A l1.l ci.l q.1.l/\bp c1.l q.1.l/\Pass c0.l q.1.l q.2.1 (((∀j s,j<i->l1.l[j]? = some s->HE s c0.l t.procs.l.length)/\∀p',p'<p->Mz s c0.l p')/\∀k',k'<k->bp (el s p k') c0.l)) ⟨rfl,m1,m2,m3.1,m3.2.1,λh=>⟨(m3.2.2 h).1,(m3.2.2 h).2,λk' hk'=>absurd hk' (by omega)⟩⟩ ?_ ?_
      .rintro k ⟨c3,ch3,v⟩ hk ⟨rfl,n1,n2,n3⟩;simp only at n1 n2 n3;unfold bC.ov;simp only;have hkl:k<s.j.l[p].l.length:=by omega
       have hxe:x.l[k].l=el s p k:=by
        have e1:x.l[k]? = s.j.l[p].l[k]? := by rw[hxl,List.getElem?_take,if_pos (by omega)]
        rw[ζd hk,ζd hkl]at e1;unfold el;rw[ζd hpj];simp only[ζd hkl];rw[Option.some.inj e1]
       obtain⟨g1,g2,g3⟩:=KM hF he hp' (i:=k) (by omega)
       obtain⟨b,hb,hbi⟩:=Cc (a:=x.l[k]) (b:=c3) (by rw[hxe,g3.1.1];omega)
       rw[hxe]at hbi;rw[gf hk,aL,aD hk,ζb,hb,ζb]
       cases b with
       | true=>
        rw[aL,ah];refine⟨bq k (by omega),n1,n2,n3.1,n3.2.1,λh=>?_⟩
        obtain⟨a1,a2,a3⟩:=n3.2.2 h;refine⟨a1,a2,λk' hk'=>?_⟩
        rcases Nat.lt_or_eq_of_le (Nat.lt_succ_iff.1 hk')with q|rfl
        .exact a3 k' q
        .exact a1▸hbi.1 rfl
       | false=>
        rw[aQ];have hl:c3.l.length=x.l[k].l.length:=by rw[hxe,n1.r.1,g3.1.1]
        obtain⟨r,hr,hre⟩:=Ie hl (by rw[n1.r.1];omega) (by rw[n1.r.1];omega)
        rw[hxe]at hre hl;rw[hr,ζb,ah];obtain⟨w1,w2⟩:=(By hl).1 (bp.refl (List.zipWith gT c3.l (el s p k)));have hne':c3.l≠List.zipWith gT c3.l (el s p k):=λe=>by
         have:=hbi.2 (by rw[<-e]at w2;exact w2);cases this
        have hsum:c3.l.sum<(List.zipWith gT c3.l (el s p k)).sum:=by
         obtain⟨a,b⟩:=Ca w1;rcases Int.lt_or_eq_of_le a with h|h
         .exact h
         .exact absurd (b h) hne'
        refine⟨bq k (by omega),⟨by rw[hre];exact G4 n1.r g3.1,by rw[hre];exact n1.le.trans w1,λu hu hle=>by
         rw[hre];refine(By hl).2 ⟨n1.mn u hu hle,?_⟩;have h1:=(n2.trans (n1.mn u hu hle)).nth hp;exact(hu.2 s hmem).2 p (by rw[hu.1.1.1];exact hp') k (by omega)⟩,by rw[hre];exact n2.trans w1,by rw[hre];exact n3.1.trans w1,λ_=>by rw[hre];exact Int.lt_of_le_of_lt (Ca n3.1).1 hsum,λh=>nomatch h⟩
      .rintro⟨c3,ch3,v⟩ ⟨rfl,n1,n2,n3⟩;simp only at n1 n2 n3;unfold bC.ov;simp only;rw[gb,aQ,ah];refine(ah _).2 ⟨bq p (by omega),n1,n2,n3.1,n3.2.1,λh=>?_⟩
       obtain⟨a1,⟨a2,a3⟩,a4⟩:=n3.2.2 h;refine⟨a1,a2,λp' hp'=>?_⟩
       rcases Nat.lt_or_eq_of_le (Nat.lt_succ_iff.1 hp')with q|rfl
       .exact a3 p' q
       .intro i' hi';refine a4 i' ?_;rw[hxn];have h1:=n2.nth hp;rw[a1]at h1;have h2:=(k2.1).nth (p:=p') (by rw[j1.r.1];omega)
        omega
     .rintro⟨c2,ch2,v⟩ ⟨rfl,m1,m2,m3⟩;simp only at m1 m2 m3;unfold bC.jI;simp only;rw[gb,aQ,ah];refine(ah _).2 ⟨bq i (by omega),m1,m3.1,m3.2.1,λh=>?_⟩
      obtain⟨a1,a2,a3⟩:=m3.2.2 h;refine⟨a1,λj s' hj hs'=>?_⟩
      rcases Nat.lt_or_eq_of_le (Nat.lt_succ_iff.1 hj)with q|rfl
      .exact a2 j s' q hs'
      .rw[ζd hi,hsi]at hs';cases hs';exact⟨k2.1.trans hle1,λp' hp'=>a3 p' (by rw[k1.r.1];exact hp')⟩
   .rintro⟨c1,ch,v⟩ ⟨rfl,k1,k2⟩;simp only at k1 k2;unfold bC.cI;simp only;rw[gb,aQ,ah];refine(ah _).2 ?_;have hs1:=k1.r.sum.2;have hs0:=j1.r.sum.2;refine⟨⟨k1,j2.trans k2.1,λh s hs=>?_⟩,?_⟩
    .simp only at h;obtain⟨a1,a2⟩:=k2.2.2 h;obtain⟨j,hj⟩:=List.mem_iff_getElem?.1 hs;simp only[a1];exact a2 j s (ζe.1 hj).1 hj
    .simp only
     cases ch with
     | true=>
      have:=k2.2.1 rfl;simp only[if_true];omega
     | false=>
      rw[(k2.2.2 rfl).1];simp
end
end Go.VE
