/-
 The law in plain Lean, and the join.
-/
import Derived.Test.YtimppgndlmehbaaGreatK1
import Derived.Test.YtimppgndlmehbaaGreatG1
set_option linter.all false
namespace Go.VE
instance:bA Var where
 wt x:=bA.wt x.name+bA.wt x.init_+1
 ok x:=bA.ok x.name/\bA.ok x.init_/\True
instance:bA Assign where
 wt x:=bA.wt x.var+bA.wt x.value+1
 ok x:=bA.ok x.var/\bA.ok x.value/\True
instance:bA Event where
 wt x:=bA.wt x.kind+bA.wt x.peer+bA.wt x.message+bA.wt x.time+bA.wt x.assign+1
 ok x:=bA.ok x.kind/\bA.ok x.peer/\bA.ok x.message/\bA.ok x.time/\bA.ok x.assign/\True
instance:bA bp where
 wt x:=bA.wt x.name+bA.wt x.vars+bA.wt x.events+1
 ok x:=bA.ok x.name/\bA.ok x.vars/\bA.ok x.events/\True
instance:bA Trace where
 wt x:=bA.wt x.procs+1
 ok x:=bA.ok x.procs/\True
instance:bA Slice where
 wt x:=bA.wt x.empty+bA.wt x.first+bA.wt x.last+bA.wt x.j+1
 ok x:=bA.ok x.empty/\bA.ok x.first/\bA.ok x.last/\bA.ok x.j/\True
end Go.VE
namespace Go.VE.YtimppgndlmehbaaGreat
open Go.Proofs Go.Proofs.YtimppgndlmehbaaGreat
instance Ul:Reads Tryz.prog 9 ByteArray:=Reads.str Tryz.underlying9 (by kernel_rfl)
instance Uk:Reads Tryz.prog 3 Int:=Reads.int Tryz.underlying3 (by kernel_rfl)
instance T4:Reads Tryz.prog 148 Var:=by
 refine Reads.st Tryz.underlying148 (by kernel_rfl) rfl ?_
 intro H enc w base spare held fuel cs l hl h;simp only[List.mapM_cons,List.mapM_nil,Option.pure_def,Option.bind_eq_bind,ζg,ζa]at h;obtain⟨x0,h0,ys0,⟨x1,h1,ys1,rfl,rfl⟩,rfl⟩:=h;obtain⟨a0,c0,k0,b0⟩:=Reads.rd (P:=Tryz.prog) (t:=9) (α:=ByteArray) (d:=x0.1) (ps:=x0.2) h0;rw[show Tryz.prog.cellsOf 9=1 from by kernel_rfl]at c0
 obtain⟨a1,c1,k1,b1⟩:=Reads.rd (P:=Tryz.prog) (t:=3) (α:=Int) (d:=x1.1) (ps:=x1.2) h1;rw[show Tryz.prog.cellsOf 3=1 from by kernel_rfl]at c1
 refine⟨⟨a0,a1⟩,dQ.fin (n:=2) (dQ.seg (o:=1) (n:=1) (dQ.seg (o:=0) (n:=1) (show dQ (snap w) [] (cs.take 0)from by simpa using dQ.nil) c0) c1) hl,⟨k0,k1,trivial⟩,λb bo=>?_⟩
 have w0:=b0 b bo;have w1:=b1 b bo;show bA.wt a0+bA.wt a1+1<=_;simp only[List.map_cons,List.map_nil,List.sum_cons,List.sum_nil];omega
instance T_:Reads Tryz.prog 57 (Sl Var):=Reads.sl (e:=148) Tryz.underlying57 (by kernel_rfl) (by decide)
instance T6:Reads Tryz.prog 151 Assign:=by
 refine Reads.st Tryz.underlying151 (by kernel_rfl) rfl ?_
 intro H enc w base spare held fuel cs l hl h;simp only[List.mapM_cons,List.mapM_nil,Option.pure_def,Option.bind_eq_bind,ζg,ζa]at h;obtain⟨x0,h0,ys0,⟨x1,h1,ys1,rfl,rfl⟩,rfl⟩:=h;obtain⟨a0,c0,k0,b0⟩:=Reads.rd (P:=Tryz.prog) (t:=3) (α:=Int) (d:=x0.1) (ps:=x0.2) h0;rw[show Tryz.prog.cellsOf 3=1 from by kernel_rfl]at c0
 obtain⟨a1,c1,k1,b1⟩:=Reads.rd (P:=Tryz.prog) (t:=3) (α:=Int) (d:=x1.1) (ps:=x1.2) h1;rw[show Tryz.prog.cellsOf 3=1 from by kernel_rfl]at c1
 refine⟨⟨a0,a1⟩,dQ.fin (n:=2) (dQ.seg (o:=1) (n:=1) (dQ.seg (o:=0) (n:=1) (show dQ (snap w) [] (cs.take 0)from by simpa using dQ.nil) c0) c1) hl,⟨k0,k1,trivial⟩,λb bo=>?_⟩
 have w0:=b0 b bo;have w1:=b1 b bo;show bA.wt a0+bA.wt a1+1<=_;simp only[List.map_cons,List.map_nil,List.sum_cons,List.sum_nil];omega
instance T9:Reads Tryz.prog 62 (Sl Assign):=Reads.sl (e:=151) Tryz.underlying62 (by kernel_rfl) (by decide)
instance Uf:Reads Tryz.prog 64 Event:=by
 refine Reads.st Tryz.underlying64 (by kernel_rfl) rfl ?_
 intro H enc w base spare held fuel cs l hl h;simp only[List.mapM_cons,List.mapM_nil,Option.pure_def,Option.bind_eq_bind,ζg,ζa]at h;obtain⟨x0,h0,ys0,⟨x1,h1,ys1,⟨x2,h2,ys2,⟨x3,h3,ys3,⟨x4,h4,ys4,rfl,rfl⟩,rfl⟩,rfl⟩,rfl⟩,rfl⟩:=h;obtain⟨a0,c0,k0,b0⟩:=Reads.rd (P:=Tryz.prog) (t:=3) (α:=Int) (d:=x0.1) (ps:=x0.2) h0;rw[show Tryz.prog.cellsOf 3=1 from by kernel_rfl]at c0
 obtain⟨a1,c1,k1,b1⟩:=Reads.rd (P:=Tryz.prog) (t:=3) (α:=Int) (d:=x1.1) (ps:=x1.2) h1;rw[show Tryz.prog.cellsOf 3=1 from by kernel_rfl]at c1
 obtain⟨a2,c2,k2,b2⟩:=Reads.rd (P:=Tryz.prog) (t:=3) (α:=Int) (d:=x2.1) (ps:=x2.2) h2;rw[show Tryz.prog.cellsOf 3=1 from by kernel_rfl]at c2
 obtain⟨a3,c3,k3,b3⟩:=Reads.rd (P:=Tryz.prog) (t:=3) (α:=Int) (d:=x3.1) (ps:=x3.2) h3;rw[show Tryz.prog.cellsOf 3=1 from by kernel_rfl]at c3
 obtain⟨a4,c4,k4,b4⟩:=Reads.rd (P:=Tryz.prog) (t:=62) (α:=(Sl Assign)) (d:=x4.1) (ps:=x4.2) h4;rw[show Tryz.prog.cellsOf 62=1 from by kernel_rfl]at c4
 refine⟨⟨a0,a1,a2,a3,a4⟩,dQ.fin (n:=5) (dQ.seg (o:=4) (n:=1) (dQ.seg (o:=3) (n:=1) (dQ.seg (o:=2) (n:=1) (dQ.seg (o:=1) (n:=1) (dQ.seg (o:=0) (n:=1) (show dQ (snap w) [] (cs.take 0)from by simpa using dQ.nil) c0) c1) c2) c3) c4) hl,⟨k0,k1,k2,k3,k4,trivial⟩,λb bo=>?_⟩
 have w0:=b0 b bo;have w1:=b1 b bo;have w2:=b2 b bo;have w3:=b3 b bo;have w4:=b4 b bo;show bA.wt a0+bA.wt a1+bA.wt a2+bA.wt a3+bA.wt a4+1<=_;simp only[List.map_cons,List.map_nil,List.sum_cons,List.sum_nil];omega
instance Uh:Reads Tryz.prog 58 (Sl Event):=Reads.sl (e:=64) Tryz.underlying58 (by kernel_rfl) (by decide)
instance Ua:Reads Tryz.prog 60 bp:=by
 refine Reads.st Tryz.underlying60 (by kernel_rfl) rfl ?_
 intro H enc w base spare held fuel cs l hl h;simp only[List.mapM_cons,List.mapM_nil,Option.pure_def,Option.bind_eq_bind,ζg,ζa]at h;obtain⟨x0,h0,ys0,⟨x1,h1,ys1,⟨x2,h2,ys2,rfl,rfl⟩,rfl⟩,rfl⟩:=h;obtain⟨a0,c0,k0,b0⟩:=Reads.rd (P:=Tryz.prog) (t:=9) (α:=ByteArray) (d:=x0.1) (ps:=x0.2) h0;rw[show Tryz.prog.cellsOf 9=1 from by kernel_rfl]at c0
 obtain⟨a1,c1,k1,b1⟩:=Reads.rd (P:=Tryz.prog) (t:=57) (α:=(Sl Var)) (d:=x1.1) (ps:=x1.2) h1;rw[show Tryz.prog.cellsOf 57=1 from by kernel_rfl]at c1
 obtain⟨a2,c2,k2,b2⟩:=Reads.rd (P:=Tryz.prog) (t:=58) (α:=(Sl Event)) (d:=x2.1) (ps:=x2.2) h2;rw[show Tryz.prog.cellsOf 58=1 from by kernel_rfl]at c2
 refine⟨⟨a0,a1,a2⟩,dQ.fin (n:=3) (dQ.seg (o:=2) (n:=1) (dQ.seg (o:=1) (n:=1) (dQ.seg (o:=0) (n:=1) (show dQ (snap w) [] (cs.take 0)from by simpa using dQ.nil) c0) c1) c2) hl,⟨k0,k1,k2,trivial⟩,λb bo=>?_⟩
 have w0:=b0 b bo;have w1:=b1 b bo;have w2:=b2 b bo;show bA.wt a0+bA.wt a1+bA.wt a2+1<=_;simp only[List.map_cons,List.map_nil,List.sum_cons,List.sum_nil];omega
instance Ud:Reads Tryz.prog 22 (Sl bp):=Reads.sl (e:=60) Tryz.underlying22 (by kernel_rfl) (by decide)
instance Ue:Reads Tryz.prog 24 Trace:=by
 refine Reads.st Tryz.underlying24 (by kernel_rfl) rfl ?_
 intro H enc w base spare held fuel cs l hl h;simp only[List.mapM_cons,List.mapM_nil,Option.pure_def,Option.bind_eq_bind,ζg,ζa]at h;obtain⟨x0,h0,ys0,rfl,rfl⟩:=h;obtain⟨a0,c0,k0,b0⟩:=Reads.rd (P:=Tryz.prog) (t:=22) (α:=(Sl bp)) (d:=x0.1) (ps:=x0.2) h0;rw[show Tryz.prog.cellsOf 22=1 from by kernel_rfl]at c0
 refine⟨⟨a0⟩,dQ.fin (n:=1) (dQ.seg (o:=0) (n:=1) (show dQ (snap w) [] (cs.take 0)from by simpa using dQ.nil) c0) hl,⟨k0,trivial⟩,λb bo=>?_⟩
 have w0:=b0 b bo;show bA.wt a0+1<=_;simp only[List.map_cons,List.map_nil,List.sum_cons,List.sum_nil];omega
instance Um:Reads Tryz.prog 4 Bool:=Reads.bool Tryz.underlying4 (by kernel_rfl)
instance Ub:Reads Tryz.prog 25 (Sl Int):=Reads.sl (e:=3) Tryz.underlying25 (by kernel_rfl) (by decide)
instance Ui:Reads Tryz.prog 36 (Sl (Sl Int)):=Reads.sl (e:=25) Tryz.underlying36 (by kernel_rfl) (by decide)
instance Ug:Reads Tryz.prog 26 (Sl (Sl (Sl Int))):=Reads.sl (e:=36) Tryz.underlying26 (by kernel_rfl) (by decide)
instance Uj:Reads Tryz.prog 28 Slice:=by
 refine Reads.st Tryz.underlying28 (by kernel_rfl) rfl ?_
 intro H enc w base spare held fuel cs l hl h;simp only[List.mapM_cons,List.mapM_nil,Option.pure_def,Option.bind_eq_bind,ζg,ζa]at h;obtain⟨x0,h0,ys0,⟨x1,h1,ys1,⟨x2,h2,ys2,⟨x3,h3,ys3,rfl,rfl⟩,rfl⟩,rfl⟩,rfl⟩:=h;obtain⟨a0,c0,k0,b0⟩:=Reads.rd (P:=Tryz.prog) (t:=4) (α:=Bool) (d:=x0.1) (ps:=x0.2) h0;rw[show Tryz.prog.cellsOf 4=1 from by kernel_rfl]at c0
 obtain⟨a1,c1,k1,b1⟩:=Reads.rd (P:=Tryz.prog) (t:=25) (α:=(Sl Int)) (d:=x1.1) (ps:=x1.2) h1;rw[show Tryz.prog.cellsOf 25=1 from by kernel_rfl]at c1
 obtain⟨a2,c2,k2,b2⟩:=Reads.rd (P:=Tryz.prog) (t:=25) (α:=(Sl Int)) (d:=x2.1) (ps:=x2.2) h2;rw[show Tryz.prog.cellsOf 25=1 from by kernel_rfl]at c2
 obtain⟨a3,c3,k3,b3⟩:=Reads.rd (P:=Tryz.prog) (t:=26) (α:=(Sl (Sl (Sl Int)))) (d:=x3.1) (ps:=x3.2) h3;rw[show Tryz.prog.cellsOf 26=1 from by kernel_rfl]at c3
 refine⟨⟨a0,a1,a2,a3⟩,dQ.fin (n:=4) (dQ.seg (o:=3) (n:=1) (dQ.seg (o:=2) (n:=1) (dQ.seg (o:=1) (n:=1) (dQ.seg (o:=0) (n:=1) (show dQ (snap w) [] (cs.take 0)from by simpa using dQ.nil) c0) c1) c2) c3) hl,⟨k0,k1,k2,k3,trivial⟩,λb bo=>?_⟩
 have w0:=b0 b bo;have w1:=b1 b bo;have w2:=b2 b bo;have w3:=b3 b bo;show bA.wt a0+bA.wt a1+bA.wt a2+bA.wt a3+1<=_;simp only[List.map_cons,List.map_nil,List.sum_cons,List.sum_nil];omega
end Go.VE.YtimppgndlmehbaaGreat
namespace Go.VE
end Go.VE
namespace Go.VE
abbrev Ey {α:Type} (m:Option α):Prop:=Wp m λ_=>True
theorem Ey.get {α:Type} {m:Option α} (h:Ey m):∃a,m=some a:=let ⟨a,e,_⟩:=h;⟨a,e⟩
theorem Ey.ok {m:Option Bool} (h:Ey m):m=some (m.getD false):=by obtain⟨a,e,_⟩:=h;rw[e];rfl
def Small (t:Trace):Prop:=t.procs.l.length<1073741824/\∀p∈t.procs.l,p.events.l.length<1073741824/\p.vars.l.length<1073741824/\p.name.size<1073741824/\(∀v∈p.vars.l,v.name.size<1073741824)/\∀e∈p.events.l,e.assign.l.length<1073741824
section
theorem IQ {s:Sl Event} {p:Event->Option Bool} {f:Event->Bool} (hp:∀x∈s.l,p x=some (f x)) (hl:s.l.length<1073741824):eo s p=some (place f s.l):=
 n_ hp (by omega) (λi=>rfl)
theorem KV {s:Sl bp} {p:bp->Option Bool} {f:bp->Bool} (hp:∀x∈s.l,p x=some (f x)) (hl:s.l.length<1073741824):eH s p=some (place f s.l):=
 n_ hp (by omega) (λi=>rfl)
theorem MU {s:Sl Var} {p:Var->Option Bool} {f:Var->Bool} (hp:∀x∈s.l,p x=some (f x)) (hl:s.l.length<1073741824):eX s p=some (place f s.l):=
 n_ hp (by omega) (λi=>rfl)
theorem Gd {s:Sl Assign} {p:Assign->Option Bool} {f:Assign->Bool} (hp:∀x∈s.l,p x=some (f x)) (hl:s.l.length<1073741824):dP s p=some (place f s.l):=
 n_ hp (by omega) (λi=>rfl)
theorem xo {s:Sl Event} {p:Event->Option Bool} {f:Event->Bool} (hp:∀x∈s.l,p x=some (f x)) (hl:s.l.length<1073741824):fJ s p=some (s.l.any f):=by
 unfold fJ;rw[IQ hp hl,ζb,oa]
theorem Fa {s:Sl bp} {p:bp->Option Bool} {f:bp->Bool} (hp:∀x∈s.l,p x=some (f x)) (hl:s.l.length<1073741824):gp s p=some (s.l.any f):=by
 unfold gp;rw[KV hp hl,ζb,oa]
theorem Gl {s:Sl Var} {p:Var->Option Bool} {f:Var->Bool} (hp:∀x∈s.l,p x=some (f x)) (hl:s.l.length<1073741824):gE s p=some (s.l.any f):=by
 unfold gE;rw[MU hp hl,ζb,oa]
theorem BP {s:Sl Assign} {p:Assign->Option Bool} {f:Assign->Bool} (hp:∀x∈s.l,p x=some (f x)) (hl:s.l.length<1073741824):e_ s p=some (s.l.any f):=by
 unfold e_;rw[Gd hp hl,ζb,oa]
theorem nr (x lo hi:Int):lG x lo hi=some (decide (lo<=x)&&decide (x<=hi)):=by
 unfold lG;rw[kQ];rfl
theorem Il {s:ByteArray} {i:Nat} (h:i<s.size):∃x,jt s (i:Int)=some x:=by
 unfold jt;rw[if_pos (by omega)]
 exact⟨_,by rw[show (s[(i:Int).toNat]?)=some s[i]from by simp[h]];rfl⟩
def jC (n:Nat) (p:Int) (e:Event):Prop:=e.kind=1\/((e.kind=2\/e.kind=3)/\0<=e.peer/\e.peer<n/\e.peer≠p/\0<=e.message/\e.message<=199)
end
end Go.VE
namespace Go.VE
def jD (t:Trace) (p k:Nat) (e:Event):Prop:=∃P,t.procs.l[p]? = some P/\P.events.l[k]? = some e
theorem sn {p:Int} {x:aa×Event}:∀{es:List Event} {j:Int},x∈gw p j es↔∃k:Nat,es[k]? = some x.2/\x.1=⟨p,j+k+1⟩
 | [],j=>by simp[gw]
 | e::es,j=>by
  simp only[gw,List.mem_cons,sn (es:=es)];constructor
  .rintro (rfl|⟨k,h1,h2⟩)
   .exact⟨0,rfl,by simp⟩
   .exact⟨k+1,by simpa using h1,by rw[h2];congr 1;push_cast;omega⟩
  .rintro⟨k,h1,h2⟩
   cases k with
   | zero=>
    simp at h1;exact .inl (by obtain⟨a,b⟩:=x;simp only at h1 h2;rw[h1,h2];simp)
   | succ k=>exact .inr ⟨k,by simpa using h1,by rw[h2];congr 1;push_cast;omega⟩
theorem tq {x:aa×Event}:∀{ps:List bp} {i:Int},x∈dX i ps↔∃(a k:Nat) (P:bp),ps[a]? = some P/\P.events.l[k]? = some x.2/\x.1=⟨i+a,k+1⟩
 | [],i=>by simp[dX]
 | p::ps,i=>by
  simp only[dX,List.mem_append,sn,tq (ps:=ps)];constructor
  .rintro (⟨k,h1,h2⟩|⟨a,k,P,h1,h2,h3⟩)
   .exact⟨0,k,p,rfl,h1,by rw[h2];simp⟩
   .exact⟨a+1,k,P,by simpa using h1,h2,by rw[h3];congr 1;push_cast;omega⟩
  .rintro⟨a,k,P,h1,h2,h3⟩
   cases a with
   | zero=>
    simp at h1;subst h1;exact .inl ⟨k,h2,by rw[h3];simp⟩
   | succ a=>exact .inr ⟨a,k,P,by simpa using h1,h2,by rw[h3];congr 1;push_cast;omega⟩
abbrev aR (t:Trace):List (aa×Event):=dX 0 t.procs.l
theorem dh {t:Trace} {x:aa×Event}:x∈aR t↔∃p k:Nat,jD t p k x.2/\x.1=⟨p,k+1⟩:=by
 unfold aR;rw[tq];constructor
 .rintro⟨a,k,P,h1,h2,h3⟩;exact⟨a,k,⟨P,h1,h2⟩,by rw[h3];simp⟩
 .rintro⟨a,k,⟨P,h1,h2⟩,h3⟩;exact⟨a,k,P,h1,h2,by rw[h3];simp⟩
theorem AE {t:Trace} {x y:aa×Event} (hx:x∈aR t) (hy:y∈aR t) (h:x.1=y.1):x=y:=by
 obtain⟨p,k,⟨P,hP,hk⟩,e1⟩:=dh.1 hx;obtain⟨q,j,⟨Q,hQ,hj⟩,e2⟩:=dh.1 hy;obtain⟨a,e⟩:=x;obtain⟨b,f⟩:=y;simp only at *;subst h;rw[e1]at e2;simp only[aa.mk.injEq]at e2;have hpq:p=q:=by omega
 have hkj:k=j:=by omega
 subst hpq hkj;rw[hP]at hQ;cases hQ;rw[hk]at hj;cases hj;rfl
theorem tQ {t:Trace} (hS:Small t):gU t=some (aR t):=by
 unfold gU;rw[if_pos];simp only[DP,ζh,List.all_eq_true,decide_eq_true_eq];exact⟨by have:=hS.1;omega,λp hp=>by have:=(hS.2 p hp).1;omega⟩
def qU (t:Trace) (p m to:Int):Bool:=match t.procs.l[p.toNat]? with
 | some P=>P.events.l.any λe=>e.kind==2&&e.message==m&&e.peer==to
 | none=>false
theorem MT {t:Trace} (hS:Small t) {p:Int} (h0:0<=p) (h1:p<t.procs.l.length) (m to:Int):sw t p m to=some (qU t p m to):=by
 unfold sw;have hlt:p.toNat<t.procs.l.length:=by omega
 have hP:=List.getElem_mem hlt;rw[Rp h0,ζd hlt,ζb,xo (f:=λe=>e.kind==2&&e.message==m&&e.peer==to) (λe _=>by
  unfold oB;simp only[kQ,ζb]) (hS.2 _ hP).1,ζb]
 unfold qU;rw[ζd hlt]
theorem A1 {t:Trace} {p:Nat} {m to:Int}:qU t p m to=true↔∃k e,jD t p k e/\e.kind=2/\e.message=m/\e.peer=to:=by
 unfold qU jD;rw[show ((p:Nat):Int).toNat=p from rfl]
 cases hP:t.procs.l[p]? with
 | none=>simp
 | some P=>
  simp only[List.any_eq_true,ζh,beq_iff_eq,ζa,exists_eq_left'];constructor
  .rintro⟨e,he,h⟩;obtain⟨k,hk⟩:=List.getElem?_of_mem he;exact⟨k,e,hk,h.1.1,h.1.2,h.2⟩
  .rintro⟨k,e,hk,h1,h2,h3⟩;exact⟨e,List.mem_of_getElem? hk,⟨h1,h2⟩,h3⟩
def ag (A:bh 200 aB) (m:Int):aB:=(A.at m).getD default
theorem HJ (A:bh 200 aB) {m:Int} (h0:0<=m) (h1:m<=199):A.at m=some (ag A m):=by
 have:m.toNat<A.l.length:=by rw[A.len];omega
 unfold ag bh.at;rw[if_pos h0,ζd this];rfl
theorem pg (A:bh 200 aB) {m m':Int} (x:aB) (h0:0<=m) (h1:m<=199) (h2:0<=m'):ag (A.set m x) m'=if m'=m then x else ag A m':=by
 have:m.toNat<A.l.length:=by rw[A.len];omega
 unfold ag bh.at bh.set;simp only[if_pos h2];rw[List.getElem?_set]
 by_cases e:m'=m
 .subst e;simp[this]
 .rw[if_neg (by omega),if_neg e]
theorem KI {m:Int} (h0:0<=m) (h1:m<=199):ag (bh.K6 200 (⟨⟨0,0⟩,⟨0,0⟩⟩:aB)) m=⟨⟨0,0⟩,⟨0,0⟩⟩:=by
 unfold ag bh.at bh.K6;simp only[if_pos h0];rw[List.getElem?_replicate,if_pos (by omega)];rfl
structure dG (t:Trace) (its:List (aa×Event)) (A:bh 200 aB):Prop where
 snd:∀x∈its,x.2.kind=2->(ag A x.2.message).from_=x.1
 rcv:∀x∈its,x.2.kind=3->(ag A x.2.message).to_=x.1/\qU t x.2.peer x.2.message x.1.proc=true
 fr:∀m,0<=m->m<=199->(ag A m).from_.index=0\/∃e,((ag A m).from_,e)∈its/\e.kind=2/\e.message=m
 to:∀m,0<=m->m<=199->(ag A m).to_.index=0\/∃e,((ag A m).to_,e)∈its/\e.kind=3/\e.message=m
def H9 (a b:aa×Event):Prop:=a.1.proc<b.1.proc\/a.1.proc=b.1.proc/\a.1.index<b.1.index
theorem KS {p:Int}:∀{es:List Event} {j:Int},(gw p j es).Pairwise H9
 | [],_=>List.Pairwise.nil
 | e::es,j=>by
  simp only[gw,List.pairwise_cons];refine⟨λb hb=>?_,KS⟩
  obtain⟨k,_,h2⟩:=sn.1 hb;refine .inr ⟨by rw[h2],?_⟩
  rw[h2];dsimp only;omega
theorem Ed:∀{ps:List bp} {i:Int},(dX i ps).Pairwise H9
 | [],_=>List.Pairwise.nil
 | P::ps,i=>by
  simp only[dX,List.pairwise_append];refine⟨KS,Ed,λa ha b hb=>.inl ?_⟩
  obtain⟨k,_,h2⟩:=sn.1 ha;obtain⟨c,j,P,_,_,h3⟩:=tq.1 hb;rw[h2,h3];dsimp only;omega
theorem D6 {t:Trace} {k:Nat} {x y:aa×Event} (hx:(aR t)[k]? = some x) (hy:y∈(aR t).take k):y.1≠x.1:=by
 obtain⟨h1,h2⟩:=ζe.1 hx;have hp:((aR t).take k++(aR t).drop k).Pairwise H9:=by rw[List.take_append_drop];exact Ed
 have:=(List.pairwise_append.1 hp).2.2 y hy x (by rw[List.drop_eq_getElem_cons h1,h2];exact List.mem_cons_self ..)
 intro e;unfold H9 at this;rw[e]at this;omega
structure vK (t:Trace):Prop where
 snd:∀x∈aR t,∀y∈aR t,x.2.kind=2->y.2.kind=2->x.2.message=y.2.message->x.1=y.1
 rcv:∀x∈aR t,∀y∈aR t,x.2.kind=3->y.2.kind=3->x.2.message=y.2.message->x.1=y.1
 has:∀x∈aR t,x.2.kind=3->qU t x.2.peer x.2.message x.1.proc=true
theorem dG.Kz {t:Trace} {A:bh 200 aB} (h:dG t (aR t) A):vK t:=
 ⟨λx hx y hy k2 k2' hm=>by rw[<-h.snd x hx k2,<-h.snd y hy k2',hm],λx hx y hy k2 k2' hm=>by rw[<-(h.rcv x hx k2).1,<-(h.rcv y hy k2').1,hm],λx hx k=>(h.rcv x hx k).2⟩
theorem Bb {t:Trace} (hS:Small t) (hF:∀x∈aR t,jC t.procs.l.length x.1.proc x.2):Wp (dn t) λr=>(r.2.2=0->∃A,r.1=some A/\dG t (aR t) A)/\(vK t->r.2.2=0):=by
 unfold dn iK;rw[ζb];unfold dn.E1;rw[tQ hS,ζb];refine yU (λk A=>dG t ((aR t).take k) A) ⟨by simp,by simp,λm h0 h1=>.inl (by rw[KI h0 h1]),λm h0 h1=>.inl (by rw[KI h0 h1])⟩ ?_ ?_
 .intro k x A hx hI;have hxm:x∈aR t:=List.mem_of_getElem? hx;have hkl:k<(aR t).length:=(ζe.1 hx).1;have htk:(aR t).take (k+1)=(aR t).take k++[x]:=by rw[List.take_add_one,hx];rfl
  obtain⟨p,j,hat,hid⟩:=dh.1 hxm;have hxi:x.1.index>0:=by rw[hid];show (j:Int)+1>0;omega
  have hf:=hF x hxm;unfold dn.qC;rw[bl];constructor
  .intro hk;have hk2:x.2.kind=2:=by simpa using hk
   have hm:0<=x.2.message/\x.2.message<=199:=by
    rcases hf with h|⟨_,_,_,_,h⟩
    .omega
    .exact h
   rw[HJ A hm.1 hm.2,ζb,bl];refine⟨λhg=>(ah _).2 ((ah _).2 ⟨λh=>(by cases h),λhp=>?_⟩),λh0=>?_⟩
   .rcases hI.fr _ hm.1 hm.2 with hg'|⟨e,he,hk',hm'⟩
    .simp[hg']at hg
    .exact absurd (hp.snd _ (List.mem_of_mem_take he) x hxm hk' hk2 hm') (D6 hx he)
   have h0:¬(ag A x.2.message).from_.index>0:=by simpa using h0
   rw[ζb,ah,htk];have old:∀y∈(aR t).take k,y.2.kind=2->y.2.message≠x.2.message:=λy hy hy2 he=>by
    have:=hI.snd y hy hy2;rw[he]at this;rw[this]at h0;obtain⟨p',j',_,hid'⟩:=dh.1 (List.mem_of_mem_take hy);rw[hid']at h0;exact h0 (by show (j':Int)+1>0;omega)
   have nn:∀y∈(aR t).take k,y.2.kind=2\/y.2.kind=3->0<=y.2.message:=λy hy hy2=>by
    rcases hF y (List.mem_of_mem_take hy)with h|⟨_,_,_,_,h,_⟩
    .omega
    .exact h
   refine⟨λy hy hy2=>?_,λy hy hy3=>?_,λm m0 m1=>?_,λm m0 m1=>?_⟩
   .rcases List.mem_append.1 hy with hy|hy
    .rw[pg A _ hm.1 hm.2 (nn y hy (.inl hy2)),if_neg (old y hy hy2)];exact hI.snd y hy hy2
    .simp at hy;subst hy;rw[pg A _ hm.1 hm.2 hm.1,if_pos rfl]
   .rcases List.mem_append.1 hy with hy|hy
    .rw[pg A _ hm.1 hm.2 (nn y hy (.inr hy3))];have:=hI.rcv y hy hy3;split
     .rename_i e;rw[e]at this;exact⟨this.1,by rw[e];exact this.2⟩
     .exact this
    .simp at hy;subst hy;omega
   .rw[pg A _ hm.1 hm.2 m0];split
    .rename_i e;exact .inr ⟨x.2,by simp,hk2,e.symm⟩
    .exact(hI.fr m m0 m1).imp (λh=>h) λ⟨e,h1,h2⟩=>⟨e,List.mem_append_left _ h1,h2⟩
   .rw[pg A _ hm.1 hm.2 m0];have:=(hI.to m m0 m1).imp (λh=>h) λ⟨e,h1,h2⟩=>(⟨e,List.mem_append_left [x] h1,h2⟩:∃e,((ag A m).to_,e)∈(aR t).take k++[x]/\e.kind=3/\e.message=m)
    split
    .rename_i e;subst e;exact this
    .exact this
  .intro hk;have hk2:¬x.2.kind=2:=by simpa using hk
   rw[bl];constructor
   .intro hk;have hk3:x.2.kind=3:=by simpa using hk
    have hm:0<=x.2.message/\x.2.message<=199/\0<=x.2.peer/\x.2.peer<t.procs.l.length:=by
     rcases hf with h|⟨_,h1,h2,_,h3,h4⟩
     .omega
     .exact⟨h3,h4,h1,h2⟩
    rw[HJ A hm.1 hm.2.1,ζb,bl];refine⟨λhg=>(ah _).2 ((ah _).2 ⟨λh=>(by cases h),λhp=>?_⟩),λh0=>?_⟩
    .rcases hI.to _ hm.1 hm.2.1 with hg'|⟨e,he,hk',hm'⟩
     .simp[hg']at hg
     .exact absurd (hp.rcv _ (List.mem_of_mem_take he) x hxm hk' hk3 hm') (D6 hx he)
    have h0:¬(ag A x.2.message).to_.index>0:=by simpa using h0
    rw[MT hS hm.2.2.1 hm.2.2.2,ζb,bl];refine⟨λhs=>?_,λhs=>(ah _).2 ((ah _).2 ⟨λh=>(by cases h),λhp=>by rw[hp.has x hxm hk3]at hs;cases hs⟩)⟩
    rw[ζb,ah,htk];have old:∀y∈(aR t).take k,y.2.kind=3->y.2.message≠x.2.message:=λy hy hy2 he=>by
     have:=(hI.rcv y hy hy2).1;rw[he]at this;rw[this]at h0;obtain⟨p',j',_,hid'⟩:=dh.1 (List.mem_of_mem_take hy);rw[hid']at h0;exact h0 (by show (j':Int)+1>0;omega)
    have nn:∀y∈(aR t).take k,y.2.kind=2\/y.2.kind=3->0<=y.2.message:=λy hy hy2=>by
     rcases hF y (List.mem_of_mem_take hy)with h|⟨_,_,_,_,h,_⟩
     .omega
     .exact h
    refine⟨λy hy hy2=>?_,λy hy hy3=>?_,λm m0 m1=>?_,λm m0 m1=>?_⟩
    .rcases List.mem_append.1 hy with hy|hy
     .rw[pg A _ hm.1 hm.2.1 (nn y hy (.inl hy2))];have:=hI.snd y hy hy2;split
      .rename_i e;rw[e]at this;exact this
      .exact this
     .simp at hy;subst hy;omega
    .rcases List.mem_append.1 hy with hy|hy
     .rw[pg A _ hm.1 hm.2.1 (nn y hy (.inr hy3)),if_neg (old y hy hy3)];exact hI.rcv y hy hy3
     .simp at hy;subst hy;rw[pg A _ hm.1 hm.2.1 hm.1,if_pos rfl];exact⟨rfl,hs⟩
    .rw[pg A _ hm.1 hm.2.1 m0];have:=(hI.fr m m0 m1).imp (λh=>h) λ⟨e,h1,h2⟩=>(⟨e,List.mem_append_left [x] h1,h2⟩:∃e,((ag A m).from_,e)∈(aR t).take k++[x]/\e.kind=2/\e.message=m)
     split
     .rename_i e;subst e;exact this
     .exact this
    .rw[pg A _ hm.1 hm.2.1 m0];split
     .rename_i e;exact .inr ⟨x.2,by simp,hk3,e.symm⟩
     .exact(hI.to m m0 m1).imp (λh=>h) λ⟨e,h1,h2⟩=>⟨e,List.mem_append_left _ h1,h2⟩
   .intro hk;have hk3:¬x.2.kind=3:=by simpa using hk
    rw[ah,htk];refine⟨λy hy hy2=>?_,λy hy hy3=>?_,λm m0 m1=>?_,λm m0 m1=>?_⟩
    .rcases List.mem_append.1 hy with hy|hy
     .exact hI.snd y hy hy2
     .simp at hy;subst hy;exact absurd hy2 hk2
    .rcases List.mem_append.1 hy with hy|hy
     .exact hI.rcv y hy hy3
     .simp at hy;subst hy;exact absurd hy3 hk3
    .exact(hI.fr m m0 m1).imp (λh=>h) λ⟨e,h1,h2⟩=>⟨e,List.mem_append_left _ h1,h2⟩
    .exact(hI.to m m0 m1).imp (λh=>h) λ⟨e,h1,h2⟩=>⟨e,List.mem_append_left _ h1,h2⟩
 .intro A hA;rw[List.take_length]at hA;exact(ah _).2 ⟨λ_=>⟨A,rfl,hA⟩,λ_=>rfl⟩
end Go.VE
namespace Go.VE
def gI (f:Nat->Bool) (k n:Nat):Bool:=(List.range' k (n-k)).any f
theorem CY {f:Nat->Bool} {k n:Nat} (h:k<n):gI f k n=(f k||gI f (k+1) n):=by
 unfold gI;rw[show n-k=(n-(k+1))+1 from by omega,List.range'_succ];rfl
theorem L7 {f:Nat->Bool} {k n:Nat} (h:n<=k):gI f k n=false:=by
 unfold gI;rw[show n-k=0 from by omega];rfl
theorem Ms {f:Nat->Bool} {k n:Nat}:gI f k n=true↔∃i,k<=i/\i<n/\f i=true:=by
 unfold gI;rw[List.any_eq_true];constructor
 .rintro⟨i,hi,hf⟩;rw[List.mem_range'_1]at hi;exact⟨i,hi.1,by omega,hf⟩
 .rintro⟨i,h1,h2,hf⟩;exact⟨i,by rw[List.mem_range'_1];omega,hf⟩
theorem Cj {step:Int->Option (Fw Int Unit Unit)} {n:Nat} (f:Nat->Bool) (hn:n<9223372036854775807) (h1:∀i:Nat,i<n->step i=some (if f i then .r ()else .n (IntKind.wrap .i64 ((i:Int)+1)))) (h2:step (n:Int)=some (.x ())) :
 ∀m k:Nat,k+m=n->aQ step (k:Int)=some (if gI f k n then .r ()else .x ()):=by
 intro m
 induction m with
 | zero=>
  intro k hk;have:k=n:=by omega
  subst this;rw[fI,h2,L7 (Nat.le_refl _)];rfl
 | succ m ih=>
  intro k hk;rw[fI,h1 k (by omega),CY (by omega)]
  cases hf:f k with
  | true=>rfl
  | false=>
   simp only[Bool.false_eq_true,if_false,ζb,Bool.false_or];rw[bK k (by omega)]
   exact ih (k+1) (by omega)
def mF (g:Nat->Int) (k n:Nat):Int:=match (List.range' k (n-k)).find? λi => !(g i==0)with
 | some i=>g i
 | none=>0
theorem KE {g:Nat->Int} {k n:Nat} (h:k<n):mF g k n=if g k=0 then mF g (k+1) n else g k:=by
 unfold mF;rw[show n-k=(n-(k+1))+1 from by omega,List.range'_succ,List.find?_cons]
 by_cases h0:g k=0
 .simp[h0]
 .rw[if_neg h0,show (!(g k==0))=true from by simp[h0]]
theorem MN {g:Nat->Int} {k n:Nat} (h:n<=k):mF g k n=0:=by
 unfold mF;rw[show n-k=0 from by omega];rfl
theorem Pm {step:Int->Option (Fw Int Unit Int)} {n:Nat} (g:Nat->Int) (hn:n<9223372036854775807) (h1:∀i:Nat,i<n->step i=some (if g i=0 then .n (IntKind.wrap .i64 ((i:Int)+1))else .r (g i))) (h2:step (n:Int)=some (.x ())) :
 ∀m k:Nat,k+m=n->aQ step (k:Int)=some (if mF g k n=0 then .x ()else .r (mF g k n)):=by
 intro m
 induction m with
 | zero=>
  intro k hk;have:k=n:=by omega
  subst this;rw[fI,h2,MN (Nat.le_refl _)];rfl
 | succ m ih=>
  intro k hk;rw[fI,h1 k (by omega),KE (by omega)]
  by_cases h0:g k=0
  .simp only[h0,if_true,ζb];rw[bK k (by omega)]
   exact ih (k+1) (by omega)
  .simp only[h0,if_false,ζb]
theorem wC {step:Int->Option (Fw Int Unit Int)} {n:Nat} (g:Nat->Int) (hn:n<9223372036854775807) (h1:∀i:Nat,i<n->step i=some (if g i=0 then .n (IntKind.wrap .i64 ((i:Int)+1))else .r (g i))) (h2:step (n:Int)=some (.x ())):aQ step 0=some (if mF g 0 n=0 then .x ()else .r (mF g 0 n)):=Pm g hn h1 h2 n 0 (by omega)
theorem zZ {step:Int->Option (Fw Int Unit Unit)} {n:Nat} (f:Nat->Bool) (hn:n<9223372036854775807) (h1:∀i:Nat,i<n->step i=some (if f i then .r ()else .n (IntKind.wrap .i64 ((i:Int)+1)))) (h2:step (n:Int)=some (.x ())):aQ step 0=some (if gI f 0 n then .r ()else .x ()):=Cj f hn h1 h2 n 0 (by omega)
def vj (c:Int):Bool:=decide (c>=65)&&decide (c<=90)||decide (c>=97)&&decide (c<=122)
def z_ (c:Int):Bool:=decide (c>=48)&&decide (c<=57)
theorem Be (c:Int):oe c=some (vj c):=by
 unfold oe vj;simp only[kQ,iC,ζb];rw[Bool.or_comm]
theorem A8 (c:Int):mS c=some (vj c):=by
 unfold mS vj;simp only[kQ,iC,ζb]
theorem Jx (c:Int):sH c=some (z_ c):=by
 unfold sH z_;simp only[kQ,ζb]
theorem J9 (c:Int):qQ c=some (z_ c):=by
 unfold qQ z_;simp only[kQ,ζb]
def uZ (s:ByteArray) (i:Nat):Int:=(jt s (i:Int)).getD 0
theorem BA {s:ByteArray} {i:Nat} (h:i<s.size):jt s (i:Int)=some (uZ s i):=by
 obtain⟨x,hx⟩:=Il h;unfold uZ;rw[hx];rfl
def qG (s:ByteArray) (i:Nat):Bool := !vj (uZ s i) && !z_ (uZ s i) && !(uZ s i==95)
def jZ (s:ByteArray):Bool:=decide (1<=s.size)&&decide (s.size<=16)&&vj (uZ s 0) && !gI (qG s) 0 s.size
theorem HY {s:ByteArray} {i:Nat} (h:i<s.size):eD.aA s (s.size:Int) i=some (if qG s i then .r ()else .n (IntKind.wrap .i64 ((i:Int)+1))):=by
 unfold eD.aA qG;rw[show decide ((i:Int)<(s.size:Int))=true from by simpa using h,aP,BA h]
 simp only[ζb,Be,Jx];cases vj (uZ s i) <;> cases z_ (uZ s i) <;> cases (uZ s i==95) <;> rfl
theorem Im {s:ByteArray} {i:Nat} (h:i<s.size):fh.aA s i=some (if qG s i then .r ()else .n (IntKind.wrap .i64 ((i:Int)+1))):=by
 unfold fh.aA qG;rw[show decide ((i:Int)<((ByteArray.size s:Nat):Int))=true from by simpa using h,aP,BA h]
 simp only[ζb,A8,J9];cases vj (uZ s i) <;> cases z_ (uZ s i) <;> cases (uZ s i==95) <;> rfl
theorem toList_empty {s:ByteArray}:(ByteArray.toList s==ByteArray.toList ByteArray.empty)=decide (s.size=0):=by
 rw[Bool.eq_iff_iff,beq_iff_eq,decide_eq_true_eq];constructor
 .intro h;have h1:(ByteArray.toList s).length=s.size:=by rw[Go.ByteArray.toList_eq];simp
  rw[<-h1,h];rw[Go.ByteArray.toList_eq];rfl
 .intro h;have:s=ByteArray.empty:=by
   apply ByteArray.ext;exact Array.eq_empty_of_size_eq_zero h
  rw[this]
theorem CD {s:ByteArray} (hs:s.size<1073741824):eD s=some (jZ s):=by
 unfold eD;rw[toList_empty];simp only[iC,ζb]
 by_cases h0:s.size=0
 .simp[h0,jZ,an]
 by_cases h16:s.size<=16
 .have hc:(decide (s.size=0)||decide (((ByteArray.size s:Nat):Int)>16))=false:=by simp[h0];omega
  rw[hc,bf,show (0:Int)=((0:Nat):Int)from rfl,BA (show 0<s.size by omega)]
  simp only[ζb,Be]
  cases hl:vj (uZ s 0)with
  | false=>simp[jZ,hl,an]
  | true=>
   simp only[Bool.not_true,bf];unfold eD.W1;rw[Cj (n:=s.size) (qG s) (by omega) (λi hi=>HY hi) (by unfold eD.aA;simp[an]) s.size 0 (by omega)]
   have:jZ s = !gI (qG s) 0 s.size:=by simp[jZ,hl,h16];omega
   rw[this];cases gI (qG s) 0 s.size <;> rfl
 .have hc:(decide (s.size=0)||decide (((ByteArray.size s:Nat):Int)>16))=true:=by simp;omega
  rw[hc,aP];simp[jZ,h16,an]
theorem Eo {s:ByteArray} (hs:s.size<1073741824):fh s=some (jZ s):=by
 unfold fh;simp only[iC,ζb]
 by_cases h0:s.size=0
 .simp[h0,jZ,an]
 by_cases h16:s.size<=16
 .have hc:(decide (((ByteArray.size s:Nat):Int)<1)||decide (((ByteArray.size s:Nat):Int)>16))=false:=by simp;omega
  rw[hc,bf,show (0:Int)=((0:Nat):Int)from rfl,BA (show 0<s.size by omega)]
  simp only[ζb,A8]
  cases hl:vj (uZ s 0)with
  | false=>simp[jZ,hl,an]
  | true=>
   simp only[Bool.not_true,bf];unfold fh.W1;rw[show (1:Int)=((1:Nat):Int)from rfl,Cj (n:=s.size) (qG s) (by omega) (λi hi=>Im hi) (by unfold fh.aA;simp[an]) (s.size-1) 1 (by omega)]
   have hb0:qG s 0=false:=by simp[qG,hl]
   have:jZ s = !gI (qG s) 1 s.size:=by
    have h1:=CY (f:=qG s) (show 0<s.size by omega)
    rw[hb0]at h1;simp[jZ,hl,h16,h1];omega
   rw[this];cases gI (qG s) 1 s.size <;> rfl
 .have hc:(decide (((ByteArray.size s:Nat):Int)<1)||decide (((ByteArray.size s:Nat):Int)>16))=true:=by simp;omega
  rw[hc,aP];simp[jZ,h16,an]
end Go.VE
namespace Go.VE
def fO {α:Type} (l:List α) (f:α->Bool) (i:Nat):Bool:=match l[i]? with|some y=>f y|none=>false
theorem yz {α:Type} {l:List α} {f:α->Bool} {i:Nat} (h:i<l.length):fO l f i=f l[i]:=by unfold fO;rw[ζd h]
theorem Am {α:Type} {l:List α} {f:α->Bool} {p:Nat}:(l.take p).any f=gI (fO l f) 0 p:=by
 rw[Bool.eq_iff_iff,List.any_eq_true,Ms];constructor
 .rintro⟨x,hx,hf⟩;obtain⟨i,hi⟩:=List.getElem?_of_mem hx;have hl:=(ζe.1 hi).1;rw[List.length_take]at hl;rw[List.getElem?_take,if_pos (by omega)]at hi
  exact⟨i,Nat.zero_le _,by omega,by unfold fO;rw[hi];exact hf⟩
 .rintro⟨i,_,hi,hf⟩;unfold fO at hf;split at hf
  .rename_i y hy;exact⟨y,List.mem_of_getElem? (i:=i) (by rw[List.getElem?_take,if_pos hi];exact hy),hf⟩
  .cases hf
def pP (a b:ByteArray):Bool:=ByteArray.toList a==ByteArray.toList b
def Qx:Bool->Bool->Bool->Int
 | true,false,true=>0
 | true,false,false=>2
 | _,_,_=>13
def s7 (P:bp) (i:Nat):Int:=match P.vars.l[i]? with
 | some v=>Qx (jZ v.name) (gI (fO P.vars.l λw=>pP w.name v.name) 0 i) (decide (v.init_>=-1073741824)&&decide (v.init_<=1073741824))
 | none=>0
def ru (t:Trace) (p:Nat):Int:=match t.procs.l[p]? with
 | some P=>if jZ P.name && !gI (fO t.procs.l λy=>pP y.name P.name) 0 p then
  (if P.vars.l.length>8 then 5 else if mF (s7 P) 0 P.vars.l.length=0 then(if P.events.l.length>64 then 5 else 0)else mF (s7 P) 0 P.vars.l.length)else 13
 | none=>0
theorem Cw {P:bp} {i:Nat} (h:i<P.vars.l.length):s7 P i=Qx (jZ P.vars.l[i].name) (gI (fO P.vars.l λw=>pP w.name P.vars.l[i].name) 0 i) (decide (P.vars.l[i].init_>=-1073741824)&&decide (P.vars.l[i].init_<=1073741824)):=by
 unfold s7;rw[ζd h]
theorem CV (n:Int):nQ n=some (decide (n>=-1073741824)&&decide (n<=1073741824)):=by
 unfold nQ;rw[kQ];rfl
theorem Md {t:Trace} (hS:Small t) {p:Nat} (hp:p<t.procs.l.length):dx t p=some (ru t p):=by
 have hP:=hS.2 _ (List.getElem_mem hp);have h1:=hS.1;unfold dx ru;rw[aK hp,ζb,ζd hp];generalize hPe:t.procs.l[p]=P at *;obtain⟨hPev,hPv,hPn,hPvn,_⟩:=hP;rw[CD hPn,ζb];obtain⟨x,hx,hxl⟩:=qj t.procs p (by omega)
 have hdup:gp x (λz=>iz z P)=some (gI (fO t.procs.l λy=>pP y.name P.name) 0 p):=by
  rw[Fa (p:=λz=>iz z P) (f:=λy=>pP y.name P.name) (λy _=>rfl) (by rw[hxl,List.length_take];omega),hxl,Am]
 rw[hx,ζb,hdup,ζb];dsimp only
 cases hn:jZ P.name with
 | false=>simp[an]
 | true=>
  rw[aP,ζb,Bool.true_and]
  cases hd:gI (fO t.procs.l λy=>pP y.name P.name) 0 p with
  | true=>simp[an]
  | false=>
   rw[bf];simp only[Bool.not_false,if_true]
   by_cases h8:P.vars.l.length>8
   .rw[show decide (len P.vars>8)=true from by simp[len];omega,aP,if_pos h8]
   .rw[show decide (len P.vars>8)=false from by simp[len];omega,bf,if_neg h8]
    unfold dx.W1;rw[wC (n:=P.vars.l.length) (s7 P) (by omega) (λi hi=>?_) (by unfold dx.aA;simp[an,len])]
    .by_cases he:mF (s7 P) 0 P.vars.l.length=0
     .rw[if_pos he,if_pos he];show an (decide (len P.events>64)) (some 5) (some 0)=_;rw[rM];simp only[len,decide_eq_true_eq]
      by_cases h64:P.events.l.length>64
      .rw[if_pos h64,if_pos (by omega)]
      .rw[if_neg h64,if_neg (by omega)]
     .rw[if_neg he,if_neg he];rfl
    .unfold dx.aA;rw[Cw hi,show decide ((i:Int)<len P.vars)=true from by simp[len];exact hi,aP,aK hi,ζb]
     have hv:=hPvn _ (List.getElem_mem hi);obtain⟨y,hy,hyl⟩:=qj P.vars i (by omega)
     have hdv:gE y (λz=>iB z P.vars.l[i])=some (gI (fO P.vars.l λw=>pP w.name P.vars.l[i].name) 0 i):=by
      rw[Gl (p:=λz=>iB z P.vars.l[i]) (f:=λw=>pP w.name P.vars.l[i].name) (λw _=>rfl) (by rw[hyl,List.length_take];omega),hyl,Am]
     rw[CD hv,ζb,hy,ζb,hdv,ζb,nr];have hr:(decide (-1073741824<=P.vars.l[i].init_)&&decide (P.vars.l[i].init_<=1073741824))=(decide (P.vars.l[i].init_>=-1073741824)&&decide (P.vars.l[i].init_<=1073741824)):=rfl;rw[hr];generalize jZ P.vars.l[i].name=A;generalize gI (fO P.vars.l λw=>pP w.name P.vars.l[i].name) 0 i=B
     generalize (decide (P.vars.l[i].init_>=-1073741824)&&decide (P.vars.l[i].init_<=1073741824))=C;cases A <;> cases B <;> cases C <;> rfl
theorem MI {t:Trace} (hS:Small t) {p:Nat} (hp:p<t.procs.l.length):cU t p=some (ru t p):=by
 have hP:=hS.2 _ (List.getElem_mem hp);have h1:=hS.1;unfold cU ru;rw[aK hp,ζb,ζd hp];generalize hPe:t.procs.l[p]=P at *;obtain⟨hPev,hPv,hPn,hPvn,_⟩:=hP;rw[Eo hPn,ζb];dsimp only
 cases hn:jZ P.name with
 | false=>simp[an]
 | true=>
  rw[aP,Bool.true_and];unfold cU.W1;rw[zZ (n:=p) (fO t.procs.l λy=>pP y.name P.name) (by omega) (λi hi=>?_) (by unfold cU.aA;simp[an])]
  .cases hd:gI (fO t.procs.l λy=>pP y.name P.name) 0 p with
   | true=>rfl
   | false=>
    simp only[Bool.not_false,if_true];show an (decide (len P.vars>8)) (some 5) (cU.W2 0 P)=_
    by_cases h8:P.vars.l.length>8
    .rw[show decide (len P.vars>8)=true from by simp[len];omega,aP,if_pos h8]
    .rw[show decide (len P.vars>8)=false from by simp[len];omega,bf,if_neg h8]
     unfold cU.W2;rw[wC (n:=P.vars.l.length) (s7 P) (by omega) (λi hi=>?_) (by unfold cU.aX;simp[an,len])]
     .by_cases he:mF (s7 P) 0 P.vars.l.length=0
      .rw[if_pos he,if_pos he];show an (decide (len P.events>64)) (some 5) (some 0)=_;rw[rM];simp only[len,decide_eq_true_eq]
       by_cases h64:P.events.l.length>64
       .rw[if_pos h64,if_pos (by omega)]
       .rw[if_neg h64,if_neg (by omega)]
      .rw[if_neg he,if_neg he];rfl
     .unfold cU.aX;rw[Cw hi,show decide ((i:Int)<len P.vars)=true from by simp[len];exact hi,aP,aK hi,ζb]
      rw[Eo (hPvn _ (List.getElem_mem hi)),ζb];have h3:cU.W3 i 0 P=if gI (fO P.vars.l λw=>pP w.name P.vars.l[i].name) 0 i then some (.r 13)else(if decide (P.vars.l[i].init_>=-1073741824)&&decide (P.vars.l[i].init_<=1073741824)then some (.n (IntKind.wrap .i64 ((i:Int)+1)))else some (.r 2)):=by
       unfold cU.W3;rw[zZ (n:=i) (fO P.vars.l λw=>pP w.name P.vars.l[i].name) (by omega) (λj hj=>?_) (by unfold cU.c_;simp[an])]
       .cases gI (fO P.vars.l λw=>pP w.name P.vars.l[i].name) 0 i with
        | true=>rfl
        | false=>
         show (idx P.vars (i:Int)).bind _=_;rw[aK hi,ζb,CV,ζb];cases (decide (P.vars.l[i].init_>=-1073741824)&&decide (P.vars.l[i].init_<=1073741824)) <;> rfl
       .unfold cU.c_;have hjl:j<P.vars.l.length:=by omega
        rw[show decide ((j:Int)<(i:Int))=true from by simpa using hj,aP,aK hjl,ζb,aK hi,ζb,yz hjl,rM];rfl
      rw[h3];generalize jZ P.vars.l[i].name=A;generalize gI (fO P.vars.l λw=>pP w.name P.vars.l[i].name) 0 i=B
      generalize (decide (P.vars.l[i].init_>=-1073741824)&&decide (P.vars.l[i].init_<=1073741824))=C;cases A <;> cases B <;> cases C <;> rfl
  .unfold cU.aA;have hil:i<t.procs.l.length:=by omega
   rw[show decide ((i:Int)<(p:Int))=true from by simpa using hi,aP,aK hil,ζb,yz hil,rM];rfl
end Go.VE
namespace Go.VE
def Ec (n:Nat) (p:Int) (e:Event):Bool:=if e.kind==1 then e.peer==0&&e.message==0 else(e.kind==2||e.kind==3)&&(decide (0<=e.peer)&&decide (e.peer<n)) && !(e.peer==p)&&(decide (0<=e.message)&&decide (e.message<=199))
theorem KN {t:Trace} (hS:Small t) (p:Int) (e:Event):gm t p e=some (Ec t.procs.l.length p e):=by
 have h1:=hS.1;have hw:IntKind.wrap .i64 (len t.procs-1)=len t.procs-1:=qP _ (by simp[len];omega) (by simp[len];omega)
 have hj:∀b:Bool,gm.J1 p b t e=some (b&&(decide (0<=e.peer)&&decide (e.peer<t.procs.l.length)) && !(e.peer==p)&&(decide (0<=e.message)&&decide (e.message<=199))):=by
  intro b;unfold gm.J1;simp only[nr,hw,ζb];have:decide (e.peer<=len t.procs-1)=decide (e.peer<t.procs.l.length):=by congr 1;apply propext;simp[len];omega
  rw[this];generalize (decide (0<=e.peer)&&decide (e.peer<(t.procs.l.length:Int)))=A;generalize (e.peer==p)=B;generalize (decide (0<=e.message)&&decide (e.message<=199))=C;cases b <;> cases A <;> cases B <;> cases C <;> rfl
 unfold gm Ec;rw[hj,hj]
 cases h1:e.kind==1 with
 | true=>
  rw[aP];cases e.peer==0 <;> cases e.message==0 <;> rfl
 | false=>
  rw[bf];simp only[Bool.false_eq_true,if_false];cases h2:e.kind==2 <;> simp[an]
def AT (P:bp) (k:Nat) (e:Event):Bool:=match k with|0=>false|j+1=>fO P.events.l (λx=>decide (e.time<x.time)) j
def sL (P:bp) (k:Nat) (e:Event):Bool:=decide (e.time<0)||decide (e.time>1099511627776)||AT P k e
def P9:Bool->Bool->Bool->Int
 | true,true,false=>0
 | true,true,true=>8
 | _,_,_=>2
def o6 (P:bp) (e:Event) (i:Nat):Int:=match e.assign.l[i]? with
 | some a=>P9 (decide (0<=a.var)&&decide (a.var<P.vars.l.length)) (decide (a.value>=-1073741824)&&decide (a.value<=1073741824)) (gI (fO e.assign.l λb=>b.var==a.var) 0 i)
 | none=>0
theorem CG {P:bp} {e:Event} {i:Nat} (h:i<e.assign.l.length):o6 P e i=P9 (decide (0<=e.assign.l[i].var)&&decide (e.assign.l[i].var<P.vars.l.length)) (decide (e.assign.l[i].value>=-1073741824)&&decide (e.assign.l[i].value<=1073741824)) (gI (fO e.assign.l λb=>b.var==e.assign.l[i].var) 0 i):=by
 unfold o6;rw[ζd h]
def nO (n:Nat) (P:bp) (p k:Nat) (e:Event):Int:=if Ec n p e then(if sL P k e then 11 else if e.assign.l.length>8 then 5 else mF (o6 P e) 0 e.assign.l.length)else 3
theorem IU {P:bp} {e:Event} (hv:P.vars.l.length<1073741824) (ha:e.assign.l.length<1073741824):ct.W2 e.assign (len e.assign) 0 e P=some (mF (o6 P e) 0 e.assign.l.length):=by
 have hw:IntKind.wrap .i64 (len P.vars-1)=len P.vars-1:=qP _ (by simp[len];omega) (by simp[len];omega)
 unfold ct.W2;rw[wC (n:=e.assign.l.length) (o6 P e) (by omega) (λi hi=>?_) (by unfold ct.aX;simp[an,len])]
 .by_cases he:mF (o6 P e) 0 e.assign.l.length=0
  .rw[if_pos he,he];rfl
  .rw[if_neg he];rfl
 .unfold ct.aX;obtain⟨y,hy,hyl⟩:=qj e.assign i (by omega)
  have hdv:e_ y (λz=>jf z e.assign.l[i])=some (gI (fO e.assign.l λb=>b.var==e.assign.l[i].var) 0 i):=by
   rw[BP (p:=λz=>jf z e.assign.l[i]) (f:=λb=>b.var==e.assign.l[i].var) (λw _=>rfl) (by rw[hyl,List.length_take];omega),hyl,Am]
  rw[CG hi,show decide ((i:Int)<len e.assign)=true from by simp[len];exact hi,aP,aK hi,ζb,nr,nr,hw,hy,ζb,ζb,ζb,hdv,ζb]
  have h1:(decide (0<=e.assign.l[i].var)&&decide (e.assign.l[i].var<=len P.vars-1))=(decide (0<=e.assign.l[i].var)&&decide (e.assign.l[i].var<P.vars.l.length)):=by
   congr 2;apply propext;simp[len];omega
  have h2:(decide (-1073741824<=e.assign.l[i].value)&&decide (e.assign.l[i].value<=1073741824))=(decide (e.assign.l[i].value>=-1073741824)&&decide (e.assign.l[i].value<=1073741824)):=rfl;rw[h1,h2];generalize (decide (0<=e.assign.l[i].var)&&decide (e.assign.l[i].var<(P.vars.l.length:Int)))=A;generalize (decide (e.assign.l[i].value>=-1073741824)&&decide (e.assign.l[i].value<=1073741824))=B;generalize gI (fO e.assign.l λb=>b.var==e.assign.l[i].var) 0 i=C
  cases A <;> cases B <;> cases C <;> rfl
theorem KX {t:Trace} (hS:Small t) {p k:Nat} {P:bp} {e:Event} (hP:t.procs.l[p]? = some P) (he:P.events.l[k]? = some e):ct t ⟨p,k+1⟩ e=some (nO t.procs.l.length P p k e):=by
 obtain⟨hp,hPe⟩:=ζe.1 hP;obtain⟨hk,hke⟩:=ζe.1 he;obtain⟨hPev,hPv,_,_,hPa⟩:=hS.2 P (hPe▸List.getElem_mem hp);have ha:=hPa e (hke▸List.getElem_mem hk);have hJ:∀last:Int,((decide (0<=e.time)&&decide (e.time<=1099511627776)) && !decide (e.time<last))=(!sL P k e) ->
  ct.J1 last t ⟨p,k+1⟩ e P=some (nO t.procs.l.length P p k e):=by
  intro last hl;unfold ct.J1 nO;rw[KN hS,ζb,nr,ζb,IU hPv ha];dsimp only
  cases Ec t.procs.l.length p e with
  | false=>rfl
  | true=>
   rw[aP,if_pos rfl];have:(an (decide (0<=e.time)&&decide (e.time<=1099511627776)) (some (decide (e.time<last))) (some true):Option Bool)=some (sL P k e):=by
    have h2:(!((decide (0<=e.time)&&decide (e.time<=1099511627776)) && !decide (e.time<last)))=sL P k e:=by rw[hl,Bool.not_not]
    rw[<-h2];cases (decide (0<=e.time)&&decide (e.time<=1099511627776)) <;> cases decide (e.time<last) <;> rfl
   rw[this,ζb]
   cases sL P k e with
   | true=>rfl
   | false=>
    rw[bf];simp only[Bool.false_eq_true,if_false]
    by_cases h8:e.assign.l.length>8
    .rw[show decide (len e.assign>8)=true from by simp[len];omega,aP,if_pos h8]
    .rw[show decide (len e.assign>8)=false from by simp[len];omega,bf,if_neg h8]
 unfold ct;dsimp only;rw[show idx t.procs (p:Int)=some P from by rw[qR];exact hP,ζb]
 cases k with
 | zero=>
  rw[show decide (((0:Nat):Int)+1>1)=false from by decide,bf]
  refine hJ 0 ?_;simp only[sL,AT,Bool.or_false];rw[Bool.eq_iff_iff];simp only[ζh,Bool.not_eq_true',decide_eq_true_eq,decide_eq_false_iff_not,Bool.or_eq_false_iff];omega
 | succ j=>
  rw[show decide ((((j+1:Nat)):Int)+1>1)=true from by simp;omega,aP]
  have hjl:j<P.events.l.length:=by omega
  have hw:IntKind.wrap .i64 ((((j+1:Nat)):Int)+1-2)=((j:Nat):Int):=by rw[qP _ (by omega) (by omega)];omega
  rw[hw,aK hjl,ζb];refine hJ _ ?_;simp only[sL,AT,yz hjl];rw[Bool.eq_iff_iff];simp only[ζh,Bool.not_eq_true',decide_eq_true_eq,decide_eq_false_iff_not,Bool.or_eq_false_iff];omega
end Go.VE
namespace Go.VE
theorem IJ {t:Trace} {p:Nat} {P:bp} {e:Event} (hP:t.procs.l[p]? = some P) (ha:e.assign.l.length<1073741824):cT.W2 p 0 t e=some (mF (o6 P e) 0 e.assign.l.length):=by
 unfold cT.W2;rw[wC (n:=e.assign.l.length) (o6 P e) (by omega) (λi hi=>?_) (by unfold cT.aX;simp[an,len])]
 .by_cases he:mF (o6 P e) 0 e.assign.l.length=0
  .rw[if_pos he,he];rfl
  .rw[if_neg he];rfl
 .unfold cT.aX;have h3:cT.W3 p i 0 t e e.assign.l[i]=if gI (fO e.assign.l λb=>b.var==e.assign.l[i].var) 0 i then some (.r 8)else some (.n (IntKind.wrap .i64 ((i:Int)+1))):=by
   unfold cT.W3;rw[zZ (n:=i) (fO e.assign.l λb=>b.var==e.assign.l[i].var) (by omega) (λj hj=>?_) (by unfold cT.c_;simp[an])]
   .cases gI (fO e.assign.l λb=>b.var==e.assign.l[i].var) 0 i <;> rfl
   .unfold cT.c_;have hjl:j<e.assign.l.length:=by omega
    rw[show decide ((j:Int)<(i:Int))=true from by simpa using hj,aP,aK hjl,ζb,yz hjl,rM]
  rw[CG hi,show decide ((i:Int)<len e.assign)=true from by simp[len];exact hi,aP,aK hi,ζb,h3,CV,ζb,show idx t.procs (p:Int)=some P from by rw[qR];exact hP,ζb]
  have h1:(an (decide (e.assign.l[i].var<0)) (some true) (some (decide (e.assign.l[i].var>=len P.vars))):Option Bool)=some (!(decide (0<=e.assign.l[i].var)&&decide (e.assign.l[i].var<P.vars.l.length))):=by
   rw[iC];congr 1;rw[Bool.eq_iff_iff];simp only[Bool.or_eq_true,Bool.not_eq_true',decide_eq_true_eq,Bool.and_eq_false_iff,decide_eq_false_iff_not,len];omega
  rw[h1,ζb];generalize (decide (0<=e.assign.l[i].var)&&decide (e.assign.l[i].var<(P.vars.l.length:Int)))=A;generalize (decide (e.assign.l[i].value>=-1073741824)&&decide (e.assign.l[i].value<=1073741824))=B;generalize gI (fO e.assign.l λb=>b.var==e.assign.l[i].var) 0 i=C
  cases A <;> cases B <;> cases C <;> rfl
theorem LU {t:Trace} (hS:Small t) {p k:Nat} {P:bp} {e:Event} (hP:t.procs.l[p]? = some P) (he:P.events.l[k]? = some e):cT t p k=some (nO t.procs.l.length P p k e):=by
 obtain⟨hp,hPe⟩:=ζe.1 hP;obtain⟨hk,hke⟩:=ζe.1 he;obtain⟨hPev,hPv,_,_,hPa⟩:=hS.2 P (hPe▸List.getElem_mem hp);have ha:=hPa e (hke▸List.getElem_mem hk);have hJ:cT.J1 p k t e=some (if sL P k e then 11 else if e.assign.l.length>8 then 5 else mF (o6 P e) 0 e.assign.l.length):=by
  unfold cT.J1;rw[iC,ζb,IJ hP ha,show idx t.procs (p:Int)=some P from by rw[qR];exact hP,ζb]
  have h1:(an (decide ((k:Int)>0)) ((idx P.events (IntKind.wrap .i64 ((k:Int)-1))).bind λx_3=>some (decide (e.time<x_3.time))) (some false):Option Bool)=some (AT P k e):=by
   cases k with
   | zero=>rfl
   | succ j=>
    have hjl:j<P.events.l.length:=by omega
    rw[show decide ((((j+1:Nat)):Int)>0)=true from by simp only[decide_eq_true_eq];omega,aP,show IntKind.wrap .i64 ((((j+1:Nat)):Int)-1)=((j:Nat):Int)from by rw[qP _ (by omega) (by omega)];omega,aK hjl,ζb]
    simp only[AT,yz hjl]
  rw[h1,ζb,iC,ζb];show an (sL P k e) _ _=_
  cases sL P k e with
  | true=>rfl
  | false=>
   rw[bf];simp only[Bool.false_eq_true,if_false]
   by_cases h8:e.assign.l.length>8
   .rw[show decide (len e.assign>8)=true from by simp[len];omega,aP,if_pos h8]
   .rw[show decide (len e.assign>8)=false from by simp[len];omega,bf,if_neg h8]
 unfold cT nO;rw[show idx t.procs (p:Int)=some P from by rw[qR];exact hP,ζb,show idx P.events (k:Int)=some e from by rw[qR];exact he,ζb,hJ]
 unfold Ec
 cases h1:e.kind==1 with
 | true=>
  rw[aP];simp only[if_true];cases e.peer==0 <;> cases e.message==0 <;> rfl
 | false=>
  rw[bf];simp only[Bool.false_eq_true,if_false];have h2:(an (e.kind==2) (some false) (some (!(e.kind==3))):Option Bool)=some (!(e.kind==2||e.kind==3)):=by cases e.kind==2 <;> rfl
  rw[h2,ζb,iC,ζb,iC,ζb,iC,ζb,iC,ζb,iC,ζb];have h3:(((((!(e.kind==2||e.kind==3))||decide (e.peer<0))||decide (e.peer>=len t.procs))||(e.peer==p))||decide (e.message<0)||decide (e.message>199)) = !((e.kind==2||e.kind==3)&&(decide (0<=e.peer)&&decide (e.peer<t.procs.l.length)) && !(e.peer==p)&&(decide (0<=e.message)&&decide (e.message<=199))):=by
   generalize (e.kind==2||e.kind==3)=A;have a1:decide (e.peer<0) = !decide (0<=e.peer):=by rw[Bool.eq_iff_iff];simp
   have a2:decide (e.peer>=len t.procs) = !decide (e.peer<t.procs.l.length):=by rw[Bool.eq_iff_iff];simp[len]
   have a3:decide (e.message<0) = !decide (0<=e.message):=by rw[Bool.eq_iff_iff];simp
   have a4:decide (e.message>199) = !decide (e.message<=199):=by rw[Bool.eq_iff_iff];simp
   rw[a1,a2,a3,a4];generalize decide (0<=e.peer)=B;generalize decide (e.peer<(t.procs.l.length:Int))=C;generalize (e.peer==(p:Int))=D;generalize decide (0<=e.message)=F;generalize decide (e.message<=199)=G;cases A <;> cases B <;> cases C <;> cases D <;> cases F <;> cases G <;> rfl
  rw[h3];generalize ((e.kind==2||e.kind==3)&&(decide (0<=e.peer)&&decide (e.peer<(t.procs.l.length:Int))) && !(e.peer==(p:Int))&&(decide (0<=e.message)&&decide (e.message<=199)))=Z;cases Z <;> rfl
theorem Ik {n:Nat} {p:Int} {e:Event} (h:Ec n p e=true):jC n p e:=by
 unfold Ec at h;split at h
 .rename_i h1;left;simpa using h1
 .right;simp only[ζh,Bool.or_eq_true,beq_iff_eq,decide_eq_true_eq,Bool.not_eq_true',beq_eq_false_iff_ne,ne_eq]at h;obtain⟨⟨⟨h1,h2⟩,h3⟩,h4⟩:=h;exact⟨h1,h2.1,h2.2,h3,h4.1,h4.2⟩
theorem E9 {n:Nat} {P:bp} {p k:Nat} {e:Event} (h:nO n P p k e=0):jC n p e:=by
 unfold nO at h;split at h
 .rename_i h1;exact Ik h1
 .cases h
end Go.VE
namespace Go.VE
theorem EZ {α:Type} [DecidableEq α]:∀{l r:List α},l.Nodup->(∀x∈l,x∈r)->l.length<=r.length
 | [],_,_,_=>Nat.zero_le _
 | x::l,r,hn,hs=>by
  have hx:x∈r:=hs x (List.mem_cons_self ..);have hn':=List.nodup_cons.1 hn;have:=EZ (l:=l) (r:=r.erase x) hn'.2 λy hy=>(List.mem_erase_of_ne (by rintro rfl;exact hn'.1 hy)).2 (hs y (List.mem_cons_of_mem _ hy))
  rw[List.length_erase_of_mem hx]at this;have hp:0<r.length:=List.length_pos_of_mem hx;simp only[List.length_cons];omega
section
variable {κ:Type} [DecidableEq κ]
theorem AM {ν:Type} {k:κ}:∀{m:Mo κ ν},k∉m.map (·.1)->sy k m=none
 | [],_=>rfl
 | (a,v)::r,h=>by
  simp only[List.map_cons,List.mem_cons,not_or]at h;unfold sy;rw[if_neg h.1];exact AM h.2
theorem CQ {ν:Type} {k:κ}:∀{m:Mo κ ν},k∈m.map (·.1)->∃v,sy k m=some v/\(k,v)∈m
 | [],h=>by simp at h
 | (a,v)::r,h=>by
  unfold sy
  by_cases e:k=a
  .subst e;exact⟨v,by rw[if_pos rfl],List.mem_cons_self ..⟩
  .rw[if_neg e];obtain⟨w,h1,h2⟩:=CQ (m:=r) (by simpa [e]using h)
   exact⟨w,h1,List.mem_cons_of_mem _ h2⟩
theorem pR {ν:Type} {k:κ} {v:ν}:∀{m:Mo κ ν},k∉m.map (·.1)->pT m k v=m++[(k,v)]
 | [],_=>rfl
 | (a,w)::r,h=>by
  simp only[List.map_cons,List.mem_cons,not_or]at h;show (if k=a then _ else _)=_;rw[if_neg h.1,pR h.2];rfl
end
def Vd (t:Trace) (y:aa):Prop:=∃e,(y,e)∈aR t
theorem Vd.at_ {t:Trace} {y:aa} (h:Vd t y):∃(p k:Nat) (e:Event),jD t p k e/\y=⟨p,k+1⟩/\(y,e)∈aR t:=by
 obtain⟨e,he⟩:=h;obtain⟨p,k,h1,h2⟩:=dh.1 he;exact⟨p,k,e,h1,h2,he⟩
def FK (t:Trace) (y z:aa):Prop:=∃e f,(y,e)∈aR t/\(z,f)∈aR t/\e.kind=2/\f.kind=3/\e.message=f.message
def Edge (t:Trace) (y z:aa):Prop:=Vd t y/\Vd t z/\(z=⟨y.proc,y.index+1⟩\/FK t y z)
abbrev Way (t:Trace):aa->aa->Prop:=Relation.TransGen (Edge t)
def G5 (t:Trace):Prop:=∃x,Way t x x
theorem Way.l {t:Trace} {x y:aa} (h:Way t x y):Vd t x:=by
 induction h with
 | single h=>exact h.1
 | tail _ _ ih=>exact ih
theorem Way.r {t:Trace} {x y:aa} (h:Way t x y):Vd t y:=by
 cases h with
 | single h=>exact h.2.1
 | tail _ h=>exact h.2.1
theorem LX {t:Trace} (hS:Small t) (hF:∀x∈aR t,jC t.procs.l.length x.1.proc x.2) {A:bh 200 aB} (hA:dG t (aR t) A) {y:aa} (hy:Vd t y) :
 Wp (gW t A y) λs=>s.l.length<=2/\∀z,z∈s.l↔Edge t y z:=by
 obtain⟨p,k,e,hat,hid,hmem⟩:=hy.at_;have hat':=hat;obtain⟨P,hP,hk⟩:=hat;have hPm:P∈t.procs.l:=List.mem_of_getElem? hP;have h1:=(hS.2 P hPm).1;have hkl:k<P.events.l.length:=(ζe.1 hk).1;have hyp:y.proc=p:=by rw[hid]
 have hyi:y.index=k+1:=by rw[hid]
 have j:∀s:Sl aa,s.l.length<=1->(∀z,z∈s.l↔Vd t z/\z=⟨y.proc,y.index+1⟩)->Wp (gW.J1 A s P.events y) λs=>s.l.length<=2/\∀z,z∈s.l↔Edge t y z:=by
  intro s hs hz;have no:¬(∃z,FK t y z)->s.l.length<=2/\∀z,z∈s.l↔Edge t y z:=λhn=>⟨by omega,λz=>(hz z).trans ⟨λh=>⟨hy,h.1,.inl h.2⟩,λh=>⟨h.2.1,h.2.2.elim id λh=>(hn ⟨z,h⟩).elim⟩⟩⟩
  unfold gW.J1;have hw:IntKind.wrap .i64 (y.index-1)=((k:Nat):Int):=by rw[hyi,qP _ (by omega) (by omega)];omega
  rw[hw,qR,hk,ζb,dV,bl];constructor
  .intro hk2;have hk2:e.kind=2:=by simpa using hk2
   have hm:0<=e.message/\e.message<=199:=by
    rcases hF _ hmem with h|⟨_,_,_,_,h⟩
    .simp only at h;omega
    .exact h
   have to_:∀z,FK t y z->(ag A e.message).to_=z:=λz ⟨e',f,a1,a2,a3,a4,a5⟩=>by
    cases AE a1 hmem rfl;rw[a5];exact(hA.rcv _ a2 a4).1
   rw[HJ A hm.1 hm.2,ζb,ah,bl];refine⟨λh=>?_,λh=>(ah _).2 (no λ⟨z,hz⟩=>?_)⟩
   .have h:(ag A e.message).to_.index>0:=by simpa using h
    rw[ζb];unfold kf;rw[if_pos (by omega),ζb,ah]
    refine⟨by show (s.l++[(ag A e.message).to_]).length<=2;rw[ζi,List.length_singleton];omega,λz=>?_⟩
    have hto:FK t y (ag A e.message).to_:=by
     rcases hA.to e.message hm.1 hm.2 with h0|⟨e',h1,h2,h3⟩
     .omega
     .exact⟨e,e',hmem,h1,hk2,h2,h3.symm⟩
    show z∈s.l++[(ag A e.message).to_]↔_;rw[List.mem_append,List.mem_singleton,hz];constructor
    .rintro (h|rfl)
     .exact⟨hy,h.1,.inl h.2⟩
     .exact⟨hy,let ⟨_,f,_,a2,_⟩:=hto;⟨f,a2⟩,.inr hto⟩
    .rintro⟨_,h1,h2|h2⟩
     .exact .inl ⟨h1,h2⟩
     .exact .inr (to_ z h2).symm
   .rw[to_ z hz]at h;obtain⟨_,f,_,a2,_⟩:=hz;obtain⟨q,i,_,hi⟩:=dh.1 a2;simp only at hi;rw[hi]at h;simp at h
  .intro hk2;rw[ah,bl];refine⟨λh=>(by cases h),λ_=>(ah _).2 (no λ⟨z,e',f,a1,_,a3,_⟩=>?_)⟩
   cases AE a1 hmem rfl;simp[a3]at hk2
 unfold gW;rw[hyp,qR,hP,ζb,bl];rw[hyp]at j;constructor
 .intro h;have h:y.index<len P.events:=by simpa using h
  have hk2:k+1<P.events.l.length:=by rw[hyi]at h;simp[len]at h;omega
  refine j _ (by simp[Sl.l]) λz=>?_
  have hw:IntKind.wrap .i64 (y.index+1)=y.index+1:=qP _ (by omega) (by omega)
  simp only[Sl.l,List.mem_singleton,hw];refine⟨λhz=>⟨⟨P.events.l[k+1],dh.2 ⟨p,k+1,⟨P,hP,ζd hk2⟩,?_⟩⟩,hz⟩,λhz=>hz.2⟩
  rw[hz,hyi];simp
 .intro h;have h:¬y.index<len P.events:=by simpa using h
  refine j _ (by simp[Sl.l]) λz=>⟨λhz=>by simp[Sl.l]at hz,λ⟨hz,he⟩=>?_⟩
  obtain⟨q,i,f,⟨Q,hQ,hi⟩,hqi,_⟩:=hz.at_;rw[he,hyi]at hqi;simp only[aa.mk.injEq]at hqi;have:q=p:=by omega
  subst this;rw[hP]at hQ;cases hQ;have:=(ζe.1 hi).1;rw[hyi]at h;simp[len]at h;omega
structure FA (t:Trace) (x:aa) (rest:Sl aa) (m:Mo aa Bool) (U:aa->Prop):Prop where
 rst:∀y∈rest.l,y=x\/Way t x y
 keys:(m.map (·.1)).Nodup
 seen:∀y∈m,Way t x y.1/\y.1≠x/\y.2=true
 le:rest.l.length<=m.length+1
 done:∀y,y=x\/y∈m.map (·.1)->y∈rest.l\/U y\/∀z,Edge t y z->z∈m.map (·.1)
theorem FA.count {t:Trace} {x:aa} {rest:Sl aa} {m:Mo aa Bool} {U:aa->Prop} (h:FA t x rest m U):m.length<=(aR t).length:=by
 have:=EZ (r:=(aR t).map (·.1)) h.keys λx hx=>by
  obtain⟨y,hy,rfl⟩:=List.mem_map.1 hx;obtain⟨e,he⟩:=(h.seen y hy).1.r;exact List.mem_map.2 ⟨_,he,rfl⟩
 simpa using this
theorem JB {t:Trace} (hS:Small t) (hN:(aR t).length<1073741824) (hF:∀x∈aR t,jC t.procs.l.length x.1.proc x.2) {A:bh 200 aB} (hA:dG t (aR t) A):Wp (ec t A) λr=>(r.2=true↔G5 t):=by
 unfold ec iK;rw[ζb];unfold ec.E1;rw[tQ hS,ζb];refine yU (λk _=>∀x∈(aR t).take k,¬Way t x.1 x.1) (by simp) ?_ λ_ h=>(ah _).2 ⟨λh=>(by cases h),λ⟨x,hx⟩=>?_⟩
 .intro i x _ hx hall;have hxm:x∈aR t:=List.mem_of_getElem? hx;unfold ec.qC ec.W2;refine Wp.mono (P:=λw=>match w with|.n s=>¬Way t x.1 x.1|.x e=>False|.r e=>G5 t) ?_ λw hw=>by
   cases w with
   | n s=>
    intro y hy;rw[List.take_add_one,hx]at hy;rcases List.mem_append.1 hy with hy|hy
    .exact hall y hy
    .simp at hy;subst hy;exact hw
   | x e=>exact hw.elim
   | r b=>exact(ah _).2 ⟨λ_=>hw,λ_=>rfl⟩
  refine dB (λq:Sl aa×Mo aa Bool=>FA t x.1 q.1 q.2 λ_=>False) (λq=>2*((aR t).length-q.2.length)+q.1.l.length) ⟨λy hy=>.inl (by simpa [Sl.l]using hy),by simp,by simp,by simp[Sl.l],λy hy=>.inl ?_⟩ ?_
  .simpa [Sl.l]using hy
  rintro⟨rest,m⟩ hI;unfold ec.aX;rw[bl];refine⟨λh=>?_,λh=>(ah _).2 ((ah _).2 λhw=>?_)⟩
  .have hlen:0<rest.l.length:=by
    have:len rest>0:=by simpa using h
    simp[len]at this;omega
   have hc:=hI.count;have hle:=hI.le;simp only at hc hle;have hw:IntKind.wrap .i64 ((len rest)-1)=((rest.l.length-1:Nat):Int):=by
    rw[qP _ (by simp[len];omega) (by simp[len];omega)];simp[len];omega
   have hlast:rest.l.length-1<rest.l.length:=by omega
   rw[hw];have h1:Sl.mm rest ((rest.l.length-1:Nat):Int)=some (rest.l.length-1):=by
    unfold Sl.mm;rw[if_pos ⟨by omega,by simpa using hlast⟩];rfl
   have h2:Sl.get rest (rest.l.length-1)=some rest.l[rest.l.length-1]:=by unfold Sl.get;exact ζd hlast
   obtain⟨cut,h3,h4⟩:∃x,mR rest none (some ((rest.l.length-1:Nat):Int))=some x/\x.l=rest.l.take (rest.l.length-1):=by
    cases rest with
    | nil=>simp[Sl.l]at hlen
    | emp=>simp[Sl.l]at hlen
    | row l=>
     simp only[Sl.l]at hlen ⊢;unfold mR cI;simp only[Option.getD_none,Option.getD_some];rw[if_pos (by omega)]
     exact⟨_,rfl,by simp[Sl.l]⟩
    | part l=>
     simp only[Sl.l]at hlen ⊢;unfold mR cI;simp only[Option.getD_none,Option.getD_some];rw[if_pos (by omega)]
     exact⟨_,rfl,by simp[Sl.l]⟩
   rw[h1,ζb,h2,ζb,h3,ζb,dV];generalize hye:rest.l[rest.l.length-1]=y;have hym:y∈rest.l:=hye▸List.getElem_mem hlast;have hsplit:∀z,z∈rest.l->z∈cut.l\/z=y:=λz hz=>by
    have:rest.l.take (rest.l.length-1)++rest.l.drop (rest.l.length-1)=rest.l:=List.take_append_drop ..;rw[<-this]at hz;rcases List.mem_append.1 hz with hz|hz
    .exact .inl (h4▸hz)
    .rw[List.drop_eq_getElem_cons hlast,List.drop_of_length_le (by omega)]at hz
     exact .inr (by simpa [hye]using hz)
   have hyw:y=x.1\/Way t x.1 y:=hI.rst _ hym;have hyv:Vd t y:=hyw.elim (λe=>⟨x.2,e▸hxm⟩) Way.r
   refine(LX hS hF hA hyv).mono λs hs=>?_
   unfold ec.W3;refine dB (λq:Sl aa×Int×Mo aa Bool=>∃n:Nat,q.2.1=n/\n<=s.l.length/\FA t x.1 q.1 q.2.2 (λu=>u=y)/\(∀z∈s.l.take n,z∈q.2.2.map (·.1))/\2*((aR t).length-q.2.2.length)+q.1.l.length<2*((aR t).length-m.length)+rest.l.length) (λq=>s.l.length-q.2.1.toNat)
    ⟨0,rfl,Nat.zero_le _,⟨λz hz=>hI.rst z (by rw[h4]at hz;exact List.mem_of_mem_take hz),hI.keys,hI.seen,by rw[h4];simp;omega,λu hu=>?_⟩,by simp,by rw[h4];simp;omega⟩ ?_
   .rcases hI.done u hu with h|h|h
    .exact(hsplit u h).imp_right .inl
    .exact h.elim
    .exact .inr (.inr h)
   rintro⟨rest2,i2,m2⟩ ⟨n,rfl,hn,hI2,hms,hμ⟩;simp only at hI2 hμ hms;unfold ec.c_;rw[bl];constructor
   .intro h;have hlt:n<s.l.length:=by simpa [len]using h
    have hxe:=(hs.2 s.l[n]).1 (List.getElem_mem hlt);have hxw:Way t x.1 s.l[n]:=hyw.elim (λe=>.single (e▸hxe)) λh=>.tail h hxe
    rw[aK hlt,ζb,bl];refine⟨λhe=>(ah _).2 ((ah _).2 ((ah _).2 ⟨x.1,?_⟩)),λhne=>?_⟩
    .have:s.l[n]=x.1:=by
      unfold Ho at he
      revert he;cases s.l[n];cases x.1;intro he;simpa using he
     rw[this]at hxw;exact hxw
    have hne:s.l[n]≠x.1:=λe=>by rw[e]at hne;simp[Ho]at hne
    have hw2:=bK n (by omega)
    have htk:s.l.take (n+1)=s.l.take n++[s.l[n]]:=by rw[List.take_add_one,ζd hlt];rfl
    rw[bl];refine⟨λhg=>(ah _).2 ⟨⟨n+1,hw2,by omega,hI2,λz hz=>?_,hμ⟩,by show _-(IntKind.wrap .i64 ((n:Int)+1)).toNat<_;rw[hw2];simp;omega⟩,λhno=>?_⟩
    .rw[htk]at hz;rcases List.mem_append.1 hz with hz|hz
     .exact hms z hz
     .simp only[List.mem_singleton]at hz;subst hz;apply Classical.byContradiction;intro hk;unfold Ck at hg;rw[AM hk]at hg;cases hg
    have hc2:=hI2.count;have hle2:=hI2.le;unfold kf;rw[if_pos (show rest2.l.length+1<=2147483648 from by omega),ζb,ah]
    have hnew:s.l[n]∉m2.map (·.1):=λhin=>by
     obtain⟨v,hv,hvm⟩:=CQ hin;have:=(hI2.seen _ hvm).2.2;simp only at this;subst this;unfold Ck at hno;rw[hv]at hno;cases hno
    have hmm:∀z,z∈(pT m2 s.l[n] true).map (·.1)↔z∈m2.map (·.1)\/z=s.l[n]:=λz=>by
     rw[pR hnew,List.map_append,List.mem_append];simp
    have hS2:FA t x.1 (.row (rest2.l++[s.l[n]])) (pT m2 s.l[n] true) (λu=>u=y):=by
     refine⟨λy hy=>?_,?_,λy hy=>?_,?_,λu hu=>?_⟩
     .simp only[Sl.l,List.mem_append,List.mem_singleton]at hy;rcases hy with hy|rfl
      .exact hI2.rst y hy
      .exact .inr hxw
     .rw[pR hnew,List.map_append,List.nodup_append];refine⟨hI2.keys,by simp,λa ha b hb=>?_⟩
      simp only[List.map_cons,List.map_nil,List.mem_singleton]at hb;subst hb;exact λe=>hnew (e▸ha)
     .rw[pR hnew]at hy;rcases List.mem_append.1 hy with hy|hy
      .exact hI2.seen y hy
      .simp only[List.mem_singleton]at hy;subst hy;exact⟨hxw,hne,rfl⟩
     .rw[pR hnew];show (rest2.l++[s.l[n]]).length<=_;rw[ζi,ζi,List.length_singleton,List.length_singleton];omega
     .simp only[Sl.l,List.mem_append,List.mem_singleton];have old:u=x.1\/u∈m2.map (·.1)->(u∈rest2.l\/u=s.l[n])\/u=y\/∀z,Edge t u z->z∈(pT m2 s.l[n] true).map (·.1):=λhu=>by
       rcases hI2.done u hu with h|h|h
       .exact .inl (.inl h)
       .exact .inr (.inl h)
       .exact .inr (.inr λz hz=>(hmm z).2 (.inl (h z hz)))
      rcases hu with hu|hu
      .exact old (.inl hu)
      .rcases (hmm u).1 hu with hu|hu
       .exact old (.inr hu)
       .exact .inl (.inr hu)
    have hc3:=hS2.count;refine⟨⟨n+1,hw2,by omega,hS2,λz hz=>?_,?_⟩,by show _-(IntKind.wrap .i64 ((n:Int)+1)).toNat<_;rw[hw2];simp;omega⟩
    .rw[htk]at hz;rcases List.mem_append.1 hz with hz|hz
     .exact(hmm z).2 (.inl (hms z hz))
     .exact(hmm z).2 (.inr (by simpa using hz))
    rw[pR hnew,ζi,List.length_singleton]at hc3;show 2*((aR t).length-(pT m2 s.l[n] true).length)+(rest2.l++[s.l[n]]).length<_;rw[pR hnew,ζi,ζi,List.length_singleton,List.length_singleton];omega
   .intro h;have hge:s.l.length<=n:=by simpa [len]using h
    rw[List.take_of_length_le hge]at hms;refine(ah _).2 ((ah _).2 ⟨⟨hI2.rst,hI2.keys,hI2.seen,hI2.le,λu hu=>?_⟩,hμ⟩)
    rcases hI2.done u hu with h|h|h
    .exact .inl h
    .subst h;exact .inr (.inr λz hz=>hms z ((hs.2 z).2 hz))
    .exact .inr (.inr h)
  .have hr0:rest.l=[]:=by
    have:¬len rest>0:=by simpa using h
    simp[len]at this;exact this
   have hd:∀y,y=x.1\/y∈m.map (·.1)->∀z,Edge t y z->z∈m.map (·.1):=λy hy=>by
    rcases hI.done y hy with h|h|h
    .simp only[hr0]at h;cases h
    .exact h.elim
    .exact h
   have key:∀z,Way t x.1 z->z∈m.map (·.1):=λz hz=>by
    induction hz with
    | single h=>exact hd _ (.inl rfl) _ h
    | tail _ h ih=>exact hd _ (.inr ih) _ h
   obtain⟨y,hy,hyx⟩:=List.mem_map.1 (key _ hw);exact(hI.seen y hy).2.1 hyx
 .obtain⟨e,he⟩:=hx.l;rw[List.take_length]at h;exact absurd hx (h _ he)
structure Ok (t:Trace):Prop where
 one:1<=t.procs.l.length
 few:t.procs.l.length<=8
 heads:∀p,p<t.procs.l.length->ru t p=0
 eA:∀(p k:Nat) P e,t.procs.l[p]? = some P->P.events.l[k]? = some e->nO t.procs.l.length P p k e=0
 Kz:vK t
 acyc:¬G5 t
theorem Ct {t:Trace} (h:∀(p k:Nat) P e,t.procs.l[p]? = some P->P.events.l[k]? = some e->nO t.procs.l.length P p k e=0):∀x∈aR t,jC t.procs.l.length x.1.proc x.2:=λx hx=>by
 obtain⟨p,k,⟨P,hP,he⟩,hid⟩:=dh.1 hx;rw[hid];exact E9 (h p k P _ hP he)
structure VT (t:Trace):Prop where
 formed:∀x∈aR t,jC t.procs.l.length x.1.proc x.2
 msgs:∃A i,dn t=some (some A,i,0)/\dG t (aR t) A
 few:t.procs.l.length<=8
 ok:Ok t
theorem Lt {t:Trace} (hS:Small t) (hN:(aR t).length<1073741824):Wp (fu t) λr=>(r.2=0->VT t)/\(Ok t->r.2=0):=by
 unfold fu;rw[nr,ζb,bl];refine⟨λhin=>?_,λhin=>(ah _).2 ⟨λh=>(by cases h),λh=>?_⟩⟩
 rotate_left
 .have h1:=h.one;have h8:=h.few;simp only[Bool.and_eq_false_iff,decide_eq_false_iff_not,len]at hin;omega
 have h8:1<=t.procs.l.length/\t.procs.l.length<=8:=by
  simp only[ζh,decide_eq_true_eq,len]at hin;omega
 unfold fu.W1;refine dB (λi:Int=>∃n:Nat,i=n/\n<=t.procs.l.length/\∀p,p<n->ru t p=0) (λi:Int=>t.procs.l.length-i.toNat) ⟨0,rfl,Nat.zero_le _,λp hp=>absurd hp (by omega)⟩ ?_
 rintro i ⟨n,rfl,hn,hh⟩;unfold fu.aA;rw[bl];constructor
 .intro h;have hlt:n<t.procs.l.length:=by simpa [len]using h
  rw[Md hS hlt,ζb,bl];refine⟨λh0=>(ah _).2 ⟨⟨n+1,bK n (by omega),by omega,λp hp=>?_⟩,by rw[bK n (by omega)];simp;omega⟩,λh0=>(ah _).2 ((ah _).2 ⟨λh=>?_,λh=>?_⟩)⟩
  .by_cases e:p=n
   .subst e;simpa using h0
   .exact hh p (by omega)
  .simp only at h;simp[h]at h0
  .simp[h.heads n hlt]at h0
 .intro h;have hge:t.procs.l.length<=n:=by simpa [len]using h
  rw[ah];unfold iK;rw[ζb];unfold fu.E2;rw[tQ hS,ζb];refine yU (λi _=>∀(p k:Nat) P e,t.procs.l[p]? = some P->P.events.l[k]? = some e->(⟨p,k+1⟩,e)∈(aR t).take i->nO t.procs.l.length P p k e=0) (by simp) ?_ ?_
  .intro i x _ hx hI;have hxm:x∈aR t:=List.mem_of_getElem? hx;obtain⟨p,j,⟨P,hP,he⟩,hid⟩:=dh.1 hxm;unfold fu.G9;rw[hid,KX hS hP he,ζb,bl];refine⟨λh0=>(ah _).2 λp' k' P' e' hP' he' hm=>?_,λh0=>(ah _).2 ((ah _).2 ⟨λh=>?_,λh=>?_⟩)⟩
   .rw[List.take_add_one,hx]at hm;rcases List.mem_append.1 hm with hm|hm
    .exact hI p' k' P' e' hP' he' hm
    .simp only[Option.toList_some,List.mem_singleton]at hm;rw[<-hm]at hid he;simp only[aa.mk.injEq]at hid;have e1:p'=p:=by omega
     have e2:k'=j:=by omega
     subst e1 e2;rw[hP']at hP;cases hP;rw[<-hm]at h0;simpa using h0
   .simp only at h;simp[h]at h0
   .simp[h.eA p j P _ hP he]at h0
  .intro _ hI;have hI:∀(p k:Nat) P e,t.procs.l[p]? = some P->P.events.l[k]? = some e->nO t.procs.l.length P p k e=0:=λp k P e hP he=>hI p k P e hP he (by rw[List.take_length];exact dh.2 ⟨p,k,⟨P,hP,he⟩,rfl⟩)
   have hF:=Ct hI;obtain⟨r,hr,hq,hq2⟩:=Bb hS hF;rw[hr,ζb,bl];refine⟨λh0=>?_,λh0=>(ah _).2 ⟨λh=>?_,λh=>hq2 h.Kz⟩⟩
   .have h0:r.2.2=0:=by simpa using h0
    obtain⟨A,hA,hM⟩:=hq h0;rw[hA,ζb];obtain⟨c,hc,hcc⟩:=JB hS hN hF hM;rw[hc,ζb,bl];refine⟨λhb=>(ah _).2 ⟨λh=>(by cases h),λh=>absurd (hcc.1 hb) h.acyc⟩,λhb=>(ah _).2 ⟨λ_=>?_,λ_=>rfl⟩⟩
    exact⟨hF,⟨A,r.2.1,by rw[hr];obtain⟨r1,r2,r3⟩:=r;simp only at hA h0;rw[hA,h0],hM⟩,h8.2,h8.1,h8.2,λp hp=>hh p (by omega),hI,hM.Kz,λhc=>by rw[hcc.2 hc]at hb;cases hb⟩
   .simp only at h;simp[h]at h0
theorem MQ {t:Trace} (hS:Small t) (hN:(aR t).length<1073741824):Wp (bX t) λb=>(b=true->VT t)/\(Ok t->b=true):=by
 unfold bX;rw[dV];exact(Lt hS hN).mono λr hr=>(ah _).2 ⟨λh=>hr.1 (by simpa using h),λh=>by simpa using hr.2 h⟩
end Go.VE
namespace Go.VE
end Go.VE
namespace Go.VE
end Go.VE
namespace Go.VE
theorem Kb {t:Trace} (hS:Small t) (hv:bX t=some true) {A:bh 200 aB} (hM:dG t (aR t) A) {x:aa×Event} (hx:x∈aR t) (hk:x.2.kind=2):qY t x.2.message=some (x.1,true):=by
 refine Wp.eq ?_;unfold qY jV;rw[hv,ζb,aP];unfold iK;rw[ζb];unfold jV.E1;rw[tQ hS,ζb,dV];refine yU (λk _=>∀y∈(aR t).take k,¬(y.2.kind=2/\y.2.message=x.2.message)) (by simp) ?_ ?_
 .intro k y _ hy hI;have hym:y∈aR t:=List.mem_of_getElem? hy;unfold jV.qC;rw[kQ,ζb,bl];constructor
  .intro hc;have hc:y.2.kind=2/\y.2.message=x.2.message:=by simpa using hc
   refine(ah _).2 ((ah _).2 ((ah _).2 ?_));have h1:=hM.snd y hym hc.1;have h2:=hM.snd x hx hk;rw[hc.2,h2]at h1;rw[h1]
  .intro hc;have hc:¬(y.2.kind=2/\y.2.message=x.2.message):=by
    intro h;rw[h.1,h.2]at hc;simp at hc
   rw[ah];intro z hz;rw[List.take_add_one,hy]at hz;rcases List.mem_append.1 hz with hz|hz
   .exact hI z hz
   .simp at hz;subst hz;exact hc
 .intro _ hI;rw[List.take_length]at hI;exact absurd ⟨hk,rfl⟩ (hI x hx)
def gb (t:Trace) (c:List Int):Prop:=c.length=t.procs.l.length/\∀(p:Nat) (a:Int) (P:bp),c[p]? = some a->t.procs.l[p]? = some P->0<=a/\a<=P.events.l.length
def jF (t:Trace) (A:bh 200 aB) (c:List Int):Prop:=∀(p k:Nat) (e:Event) (a:Int),jD t p k e->c[p]? = some a->(k:Int)<a->e.kind=3->∃b,c[(ag A e.message).from_.proc.toNat]? = some b/\(ag A e.message).from_.index<=b
theorem wS {t:Trace} (hV:VT t) {A:bh 200 aB} (hM:dG t (aR t) A) {p k:Nat} {e:Event} (he:jD t p k e) (hk:e.kind=3) :
 ∃(q j:Nat) (y:Event),jD t q j y/\y.kind=2/\y.message=e.message/\y.peer=p/\e.peer=q/\(ag A e.message).from_=⟨q,j+1⟩:=by
 have hmem:((⟨p,k+1⟩:aa),e)∈aR t:=dh.2 ⟨p,k,he,rfl⟩;have hs:=(hM.rcv _ hmem hk).2;have hf:=hV.formed _ hmem;simp only at hs hf;have hpeer:0<=e.peer:=by
  rcases hf with h|⟨_,h,_⟩
  .omega
  .exact h
 obtain⟨q,hq⟩:∃q:Nat,e.peer=q:=⟨e.peer.toNat,by omega⟩
 rw[hq]at hs;obtain⟨j,y,hat,h1,h2,h3⟩:=A1.1 hs;have:=hM.snd (⟨q,j+1⟩,y) (dh.2 ⟨q,j,hat,rfl⟩) h1;simp only at this;rw[h2]at this;exact⟨q,j,y,hat,h1,h2,h3,hq,this⟩
def Tj (t:Trace) (A:bh 200 aB) (c:List Int) (s:aa):Prop:=∃(p k:Nat) (e:Event) (a:Int) (q j:Nat) (y:Event) (b:Int),jD t p k e/\c[p]? = some a/\(k:Int)<a/\e.kind=3/\(ag A e.message).from_=s/\s=⟨q,j+1⟩/\jD t q j y/\c[q]? = some b/\b<(j:Int)+1
theorem G0 {t:Trace} (hS:Small t) (hv:bX t=some true) (hV:VT t) {A:bh 200 aB} (hM:dG t (aR t) A) {c:Sl Int} (hR:gb t c.l):Wp (eO t c) λr=>(r.2.2=false->jF t A c.l)/\(r.2.2=true->Tj t A c.l r.1):=by
 have hn8:=hV.few;unfold eO eO.W1;refine dB (λs:Int=>∃n:Nat,s=n/\n<=c.l.length/\∀(p k:Nat) (e:Event) (a:Int),p<n->jD t p k e->c.l[p]? = some a->(k:Int)<a->e.kind=3->∃b,c.l[(ag A e.message).from_.proc.toNat]? = some b/\(ag A e.message).from_.index<=b) (λs:Int=>c.l.length-s.toNat) ⟨0,rfl,Nat.zero_le _,λp k e a h=>absurd h (by omega)⟩ ?_
 rintro s ⟨n,rfl,hn,hI⟩;have hcl:=hR.1;unfold eO.aA;rw[bl];constructor
 .intro h;have hlt:n<c.l.length:=by simpa [len]using h
  have hlt2:n<t.procs.l.length:=by omega
  have hP:=(hS.2 _ (List.getElem_mem hlt2)).1;obtain⟨r1,r2⟩:=hR.2 n _ _ (ζd hlt) (ζd hlt2);rw[aK hlt,ζb,aK hlt2,ζb];obtain⟨y,hy,hyl⟩:=qj t.procs.l[n].events c.l[n].toNat (by omega)
  rw[show ((c.l[n].toNat:Nat):Int)=c.l[n]from by omega]at hy
  rw[hy,ζb];unfold eO.W2;refine dB (λs:Int=>∃m:Nat,s=m/\m<=y.l.length/\∀(k:Nat) (e:Event),k<m->jD t n k e->e.kind=3->∃b,c.l[(ag A e.message).from_.proc.toNat]? = some b/\(ag A e.message).from_.index<=b) (λs:Int=>y.l.length-s.toNat) ⟨0,rfl,Nat.zero_le _,λk e h=>absurd h (by omega)⟩ ?_
  rintro s ⟨m,rfl,hm,hJ⟩;have hyl2:y.l.length=c.l[n].toNat:=by rw[hyl,List.length_take];omega
  unfold eO.aX;rw[bl];constructor
  .intro h;have hltm:m<y.l.length:=by simpa [len]using h
   have hwm:=bK m (by omega)
   have hmu:y.l.length-(IntKind.wrap .i64 ((m:Int)+1)).toNat<y.l.length-((m:Int)).toNat:=by rw[hwm];simp;omega
   have hg:y.l[m]? = t.procs.l[n].events.l[m]? := by rw[hyl,List.getElem?_take,if_pos (show m<c.l[n].toNat from by omega)]
   have hat:jD t n m y.l[m]:=⟨_,ζd hlt2,by rw[<-hg];exact ζd hltm⟩
   rw[aK hltm,ζb];generalize y.l[m]=e at hat;rw[bl];constructor
   .intro hk;have hk:e.kind=3:=by simpa using hk
    obtain⟨q,j,z,hz,z1,z2,z3,z4,z5⟩:=wS hV hM hat hk;have hsd:=Kb hS hv hM (x:=(⟨q,j+1⟩,z)) (dh.2 ⟨q,j,hz,rfl⟩) z1;simp only at hsd;rw[z2]at hsd;have hzq:=hz;obtain⟨Q,hQ,_⟩:=hz;have hql:q<c.l.length:=by have:=(ζe.1 hQ).1;omega
    rw[hsd,ζb];simp only;rw[aK hql,ζb,bl];constructor
    .intro hgt;have hgt:(j:Int)+1>c.l[q]:=by simpa using hgt
     exact(ah _).2 ((ah _).2 ((ah _).2 ⟨λh=>(by cases h),λ_=>⟨n,m,e,c.l[n],q,j,z,c.l[q],hat,ζd hlt,by omega,hk,z5,rfl,hzq,ζd hql,by omega⟩⟩))
    .intro hle;have hle:¬((j:Int)+1>c.l[q]):=by simpa using hle
     refine(ah _).2 ⟨⟨m+1,hwm,by omega,λk e' hk' hat' he'=>?_⟩,hmu⟩
     by_cases ek:k=m
     .subst ek;have:e'=e:=by
       obtain⟨P1,a1,a2⟩:=hat;obtain⟨P2,b1,b2⟩:=hat';rw[a1]at b1;cases b1;rw[a2]at b2;cases b2;rfl
      subst this;rw[z5];exact⟨c.l[q],by simp only[Int.toNat_natCast];exact ζd hql,by simp only;omega⟩
     .exact hJ k e' (by omega) hat' he'
   .intro hk;have hk:¬e.kind=3:=by simpa using hk
    refine(ah _).2 ⟨⟨m+1,hwm,by omega,λk e' hk' hat' he'=>?_⟩,hmu⟩
    by_cases ek:k=m
    .subst ek;have:e'=e:=by
      obtain⟨P1,a1,a2⟩:=hat;obtain⟨P2,b1,b2⟩:=hat';rw[a1]at b1;cases b1;rw[a2]at b2;cases b2;rfl
     subst this;exact absurd he' hk
    .exact hJ k e' (by omega) hat' he'
  .intro h;have hge:y.l.length<=m:=by simpa [len]using h
   have hwn:=bK n (by omega)
   refine(ah _).2 ((ah _).2 ⟨⟨n+1,hwn,by omega,λp k e a hp hat ha hka he=>?_⟩,by show _-(IntKind.wrap .i64 ((n:Int)+1)).toNat<_;rw[hwn];simp;omega⟩)
   by_cases ep:p=n
   .subst ep;rw[ζd hlt]at ha;cases ha;exact hJ k e (by omega) hat he
   .exact hI p k e a (by omega) hat ha hka he
 .intro h;have hge:c.l.length<=n:=by simpa [len]using h
  refine(ah _).2 ((ah _).2 ⟨λ_ p k e a hat ha hka he=>hI p k e a (by have:=(ζe.1 ha).1;omega) hat ha hka he,λh=>(by cases h)⟩)
theorem Is {t:Trace} (hS:Small t) (hv:bX t=some true) (hV:VT t) {A:bh 200 aB} (hM:dG t (aR t) A) {c:Sl Int} (hR:gb t c.l):Wp (eO t c) λr=>(r.2.2=false↔jF t A c.l):=by
 refine(G0 hS hv hV hM hR).mono λr hr=>⟨hr.1,λhC=>?_⟩
 cases h:r.2.2 with
 | false=>rfl
 | true=>
  obtain⟨p,k,e,a,q,j,y,b,h1,h2,h3,h4,h5,h6,_,h7,h8⟩:=hr.2 h;obtain⟨b',g1,g2⟩:=hC p k e a h1 h2 h3 h4;rw[h5,h6]at g1 g2;simp only[Int.toNat_natCast]at g1 g2;rw[h7]at g1;cases g1;omega
end Go.VE
namespace Go.VE
theorem nV {s:Sl (Sl Int)} {p:Sl Int->Option Bool} {f:Sl Int->Bool} (hp:∀x∈s.l,p x=some (f x)) (hl:s.l.length<1073741824):dL s p=some (s.l.any f):=by
 have h:eM s p=some (place f s.l):=n_ hp (by omega) (λi=>rfl)
 unfold dL;rw[h,ζb,oa]
theorem Bt {t:Trace} (hS:Small t) {c:Sl Int} (hcl:c.l.length=t.procs.l.length):Wp (gQ t c) λb=>(b=true↔gb t c.l):=by
 have h1:=hS.1;unfold gQ gQ.W1;refine dB (λs:Int=>∃n:Nat,s=n/\n<=c.l.length/\∀(p:Nat) (a:Int) (P:bp),p<n->c.l[p]? = some a->t.procs.l[p]? = some P->0<=a/\a<=P.events.l.length) (λs:Int=>c.l.length-s.toNat) ⟨0,rfl,Nat.zero_le _,λp a P h=>absurd h (by omega)⟩ ?_
 rintro s ⟨n,rfl,hn,hI⟩;unfold gQ.aA;rw[bl];constructor
 .intro h;have hlt:n<c.l.length:=by simpa [len]using h
  have hlt2:n<t.procs.l.length:=by omega
  have hw:=bK n (by omega)
  rw[aK hlt,ζb,aK hlt2,ζb,iC,ζb,bl];constructor
  .intro hb;have hb:c.l[n]<0\/c.l[n]>t.procs.l[n].events.l.length:=by simpa [len]using hb
   refine(ah _).2 ((ah _).2 ⟨λh=>(by cases h),λhR=>?_⟩)
   have:=hR.2 n _ _ (ζd hlt) (ζd hlt2);omega
  .intro hb;have hb:0<=c.l[n]/\c.l[n]<=t.procs.l[n].events.l.length:=by simpa [len]using hb
   refine(ah _).2 ⟨⟨n+1,hw,by omega,λp a P hp ha hP=>?_⟩,by rw[hw];simp;omega⟩
   by_cases e:p=n
   .subst e;rw[ζd hlt]at ha;cases ha;rw[ζd hlt2]at hP;cases hP;exact hb
   .exact hI p a P (by omega) ha hP
 .intro h;have hge:c.l.length<=n:=by simpa [len]using h
  refine(ah _).2 ((ah _).2 ⟨λ_=>⟨hcl,λp a P ha hP=>hI p a P (by have:=(ζe.1 ha).1;omega) ha hP⟩,λ_=>rfl⟩)
def Code (t:Trace) (A:bh 200 aB) (c:List Int) (r:Int):Prop:=c.length≠t.procs.l.length/\r=1\/c.length=t.procs.l.length/\¬gb t c/\r=2\/gb t c/\¬jF t A c/\r=18\/gb t c/\jF t A c/\r=0
theorem Qm {t:Trace} (hS:Small t) (hv:bX t=some true) (hV:VT t) {A:bh 200 aB} (hM:dG t (aR t) A) (c:Sl Int) :
 Wp (dY t (Sl.row [c]:Sl (Sl Int)) (Sl.nil:Sl Int)) λr=>Code t A c.l r:=by
 unfold dY sW;rw[hv,ζb,aP,nV (f:=λz=>(iL z t).getD false) (λz _=>Ey.ok ((ah _).2 trivial)) (by simp[Sl.l]),ζb,ζb,ζb]
 have hany:(!((Sl.row [c]:Sl (Sl Int)).l.any λz=>(iL z t).getD false))=(len c==len t.procs):=by
  simp[Sl.l,iL]
 rw[hany,bl];constructor
 .intro h;have hcl:c.l.length=t.procs.l.length:=by
   have:(c.l.length:Int)=t.procs.l.length:=by simpa [len]using h
   omega
  unfold dY.W1;refine dB (λs:Int=>s=0\/s=1/\gb t c.l) (λs:Int=>1-s.toNat) (.inl rfl) ?_
  intro s hs;unfold dY.aA;rcases hs with rfl|⟨rfl,hR⟩
  .rw[show decide ((0:Int)<len (Sl.row [c]:Sl (Sl Int)))=true from rfl,aP,show idx (Sl.row [c]:Sl (Sl Int)) 0=some c from rfl,ζb,dV];refine(Bt hS hcl).mono λb hb=>?_
   rw[bl];exact⟨λhbt=>(ah _).2 ⟨.inr ⟨rfl,hb.1 hbt⟩,by decide⟩,λhbf=>(ah _).2 ((ah _).2 (.inr (.inl ⟨hcl,λh=>(by rw[hb.2 h]at hbf;cases hbf),rfl⟩)))⟩
  .rw[show decide ((1:Int)<len (Sl.row [c]:Sl (Sl Int)))=false from rfl,bf,ah];show Wp (dY.W2 (Sl.row [c]) Sl.nil 0 0 t) _;unfold dY.W2;refine dB (λs:Int=>s=0) (λ_=>0) rfl ?_
   rintro s rfl;unfold dY.aX;rw[show decide ((0:Int)<0)=false from rfl,bf,ah];show Wp (dY.W3 (Sl.row [c]) 1 0 t) _;unfold dY.W3;refine dB (λs:Int=>s=0\/s=1/\jF t A c.l) (λs:Int=>1-s.toNat) (.inl rfl) ?_
   intro s hs;unfold dY.c_;rcases hs with rfl|⟨rfl,hC⟩
   .rw[show decide ((0:Int)<1)=true from rfl,aP,show idx (Sl.row [c]:Sl (Sl Int)) 0=some c from rfl,ζb];unfold wE;rw[dV,dV];refine(Is hS hv hV hM hR).mono λr hr=>?_
    rw[ah,bl];exact⟨λhb=>(ah _).2 ⟨.inr ⟨rfl,hr.1 (by simpa using hb)⟩,by decide⟩,λhb=>(ah _).2 ((ah _).2 (.inr (.inr (.inl ⟨hR,λh=>(by have:=hr.2 h;simp[this]at hb),rfl⟩))))⟩
   .rw[show decide ((1:Int)<1)=false from rfl,bf,ah];exact(ah _).2 (.inr (.inr (.inr ⟨hR,hC,rfl⟩)))
 .intro h;exact(ah _).2 (.inl ⟨λe=>(by simp[len,e]at h),rfl⟩)
theorem Code.zero {t:Trace} {A:bh 200 aB} {c:List Int} {r:Int} (h:Code t A c r):r=0↔gb t c/\jF t A c:=by
 rcases h with⟨h,rfl⟩|⟨_,h,rfl⟩|⟨_,h,rfl⟩|⟨h1,h2,rfl⟩
 .exact⟨λh=>(by cases h),λh'=>absurd h'.1.1 h⟩
 .exact⟨λh=>(by cases h),λh'=>absurd h'.1 h⟩
 .exact⟨λh=>(by cases h),λh'=>absurd h'.2 h⟩
 .exact⟨λ_=>⟨h1,h2⟩,λ_=>rfl⟩
theorem Lj {t:Trace} (hS:Small t) (hv:bX t=some true) (hV:VT t) {A:bh 200 aB} (hM:dG t (aR t) A) (c:Sl Int) :
 Wp (dY t (Sl.row [c]:Sl (Sl Int)) (Sl.nil:Sl Int)) λr=>(r=0↔gb t c.l/\jF t A c.l):=(Qm hS hv hV hM c).mono λ_ h=>h.zero
def Cons (t:Trace) (A:bh 200 aB) (c:List Int):Prop:=gb t c/\jF t A c
end Go.VE
namespace Go.VE
end Go.VE
namespace Go.VE
end Go.VE
namespace Go.VE
def qV (kind m:Int) (x:aa×Event):Bool:=x.2.kind==kind&&x.2.message==m
def kM (t:Trace) (kind m:Int):aa:=match (aR t).find? (qV kind m)with
 | some x=>x.1
 | none=>⟨0,0⟩
theorem Ij {t:Trace} {kind m:Int} {p:Nat} {P:bp} (hp8:p<9223372036854775806) (hP:t.procs.l[p]? = some P) (hl:P.events.l.length<1073741824):∀(q i:Nat),i+q=P.events.l.length ->
 aQ (λq:Int=>cz.aX kind m p t ⟨0,0⟩ q) (i:Int)=some (match (gw p i (P.events.l.drop i)).find? (qV kind m)with|some x=>.r x.1|none=>.x ()):=by
 have hix:idx t.procs (p:Int)=some P:=by rw[qR];exact hP
 intro q
 induction q with
 | zero=>
  intro i hi;rw[fI];unfold cz.aX;rw[hix,ζb,show decide ((i:Int)<len P.events)=false from by simp[len];omega,bf,List.drop_of_length_le (by omega)]
  rfl
 | succ q ih=>
  intro i hi;have hil:i<P.events.l.length:=by omega
  rw[fI];have hs:cz.aX kind m p t ⟨0,0⟩ i=some (if qV kind m (⟨p,(i:Int)+1⟩,P.events.l[i])then .r ⟨p,(i:Int)+1⟩else .n ((i+1:Nat):Int)):=by
   unfold cz.aX;rw[hix,ζb,show decide ((i:Int)<len P.events)=true from by simp[len];omega,aP,ζb,aK hil,ζb,kQ,ζb,bK i (by omega),rM]
   rfl
  rw[hs,ζb,List.drop_eq_getElem_cons hil];simp only[gw,List.find?_cons]
  cases hh:qV kind m (⟨p,(i:Int)+1⟩,P.events.l[i])with
  | true=>rfl
  | false=>
   simp only[Bool.false_eq_true,if_false];exact ih (i+1) (by omega)
theorem Jf {t:Trace} (hS:Small t) {kind m:Int}:∀(q p:Nat),p+q=t.procs.l.length ->
 aQ (λq:Int=>cz.aA kind m t ⟨0,0⟩ q) (p:Int)=some (match (dX p (t.procs.l.drop p)).find? (qV kind m)with|some x=>.r x.1|none=>.x ()):=by
 have h1:=hS.1;intro q
 induction q with
 | zero=>
  intro p hp;rw[fI];unfold cz.aA;rw[show decide ((p:Int)<len t.procs)=false from by simp[len];omega,bf,List.drop_of_length_le (by omega)]
  rfl
 | succ q ih=>
  intro p hp;have hpl:p<t.procs.l.length:=by omega
  have hw:aQ (λq:Int=>cz.aX kind m p t ⟨0,0⟩ q) 0=some (match (gw p 0 t.procs.l[p].events.l).find? (qV kind m)with|some x=>.r x.1|none=>.x ()):=Ij (t:=t) (kind:=kind) (m:=m) (by omega) (ζd hpl) (hS.2 _ (List.getElem_mem hpl)).1 (t.procs.l[p].events.l.length) 0 (by omega)
  rw[fI];unfold cz.aA;rw[show decide ((p:Int)<len t.procs)=true from by simp[len];omega,aP]
  unfold cz.W2;rw[hw,List.drop_eq_getElem_cons hpl];simp only[dX,List.find?_append]
  cases hf:(gw p 0 t.procs.l[p].events.l).find? (qV kind m)with
  | some x=>rfl
  | none=>
   simp only[ζb,Fw.elim,Option.none_or];rw[bK p (by omega)]
   exact ih (p+1) (by omega)
theorem find_eq {t:Trace} (hS:Small t) (kind m:Int):cz t kind m=some (kM t kind m):=by
 unfold cz cz.W1;have hw:aQ (λq:Int=>cz.aA kind m t ⟨0,0⟩ q) 0=some (match (aR t).find? (qV kind m)with|some x=>.r x.1|none=>.x ()):=Jf hS (kind:=kind) (m:=m) t.procs.l.length 0 (by omega)
 rw[hw];unfold kM;cases (aR t).find? (qV kind m) <;> rfl
theorem AZ {t:Trace} {kind m:Int} {x:aa×Event} (h:(aR t).find? (qV kind m)=some x):x∈aR t/\x.2.kind=kind/\x.2.message=m/\kM t kind m=x.1:=by
 have h1:=List.find?_some h;simp only[qV,ζh,beq_iff_eq]at h1;exact⟨List.mem_of_find?_eq_some h,h1.1,h1.2,by unfold kM;rw[h]⟩
theorem Eb {t:Trace} {kind m:Int} {x:aa×Event} (hx:x∈aR t) (hk:x.2.kind=kind) (hm:x.2.message=m):∃y,(aR t).find? (qV kind m)=some y:=by
 cases hf:(aR t).find? (qV kind m)with
 | some y=>exact⟨y,rfl⟩
 | none=>
  rw[List.find?_eq_none]at hf;exact absurd (hf x hx) (by simp[qV,hk,hm])
theorem NM {t:Trace} {p k:Nat} {e:Event} (h:jD t p k e) (hk:k<9223372036854775807):sX t ⟨p,k+1⟩=some e:=by
 obtain⟨P,hP,he⟩:=h;unfold sX;dsimp only;rw[show idx t.procs (p:Int)=some P from by rw[qR];exact hP,ζb,show IntKind.wrap .i64 ((k:Int)+1-1)=(k:Int)from by rw[qP _ (by omega) (by omega)];omega,show idx P.events (k:Int)=some e from by rw[qR];exact he]
 rfl
def tH (t:Trace) (x:aa×Event):Int:=if x.2.kind=1 then 0 else if kM t x.2.kind x.2.message=x.1 then(if x.2.kind=3 then(if qU t x.2.peer x.2.message x.1.proc then 0 else 7)else 0)else 8
theorem JS {t:Trace} (hS:Small t) {p k:Nat} {e:Event} (h:jD t p k e) (hF:jC t.procs.l.length p e):gu t ⟨p,k+1⟩=some (tH t (⟨p,k+1⟩,e)):=by
 have hk:k<1073741824:=by
  obtain⟨P,hP,he⟩:=h;have:=(hS.2 P (List.mem_of_getElem? hP)).1;have:=(ζe.1 he).1;omega
 unfold gu tH;rw[NM h (by omega),ζb]
 dsimp only
 by_cases h1:e.kind=1
 .rw[show (e.kind==1)=true from by simp[h1],aP,if_pos h1]
 .rw[show (e.kind==1)=false from by simp[h1],bf,if_neg h1,find_eq hS,ζb]
  have hev:Ho (kM t e.kind e.message) ⟨p,(k:Int)+1⟩=decide (kM t e.kind e.message=⟨p,(k:Int)+1⟩):=by
   unfold Ho;rw[Bool.eq_iff_iff];cases kM t e.kind e.message;simp
  rw[hev]
  by_cases h2:kM t e.kind e.message=⟨p,(k:Int)+1⟩
  .rw[if_pos h2,show decide (kM t e.kind e.message=⟨p,(k:Int)+1⟩)=true from by simpa using h2,aP]
   by_cases h3:e.kind=3
   .rw[if_pos h3,show (e.kind==3)=true from by simp[h3],aP]
    have hpe:0<=e.peer/\e.peer<t.procs.l.length:=by
     rcases hF with h|⟨_,h1,h2,_⟩
     .exact absurd h h1
     .exact⟨h1,h2⟩
    have hq:e.peer.toNat<t.procs.l.length:=by omega
    have hQ:=ζd hq;have hql:=(hS.2 _ (List.getElem_mem hq)).1;generalize hQe:t.procs.l[e.peer.toNat]=Q at *;have hix:idx t.procs e.peer=some Q:=by rw[Rp hpe.1];exact hQ
    have hsb:qU t e.peer e.message p=Q.events.l.any λs=>s.kind==2&&s.message==e.message&&s.peer==p:=by
     unfold qU;rw[hQ]
    unfold gu.W1;refine Wp.eq (dB (λz:Bool×Int=>∃m:Nat,z.2=m/\m<=Q.events.l.length/\z.1=(Q.events.l.take m).any λs=>s.kind==2&&s.message==e.message&&s.peer==p) (λz=>Q.events.l.length-z.2.toNat) ⟨0,rfl,Nat.zero_le _,rfl⟩ ?_)
    rintro⟨s,i⟩ ⟨m,hi,hm,hs⟩;simp only at hi hs;subst hi;unfold gu.aA;dsimp only;rw[hix,ζb,bl];constructor
    .intro hl;have hml:m<Q.events.l.length:=by simpa [len]using hl
     have hw:=bK m (by omega)
     rw[ζb,aK hml,ζb,kQ,ζb,kQ,ζb,iC,ζb,ah];refine⟨⟨m+1,hw,by omega,?_⟩,by show _-(IntKind.wrap .i64 ((m:Int)+1)).toNat<_;rw[hw];simp;omega⟩
     show (s||_)=_;rw[List.take_add_one,ζd hml,List.any_append,hs];simp
    .intro hl;have hml:Q.events.l.length<=m:=by simpa [len]using hl
     rw[List.take_of_length_le hml]at hs;refine(ah _).2 ?_;rw[hsb,<-hs];cases s
     .exact(ah _).2 rfl
     .exact(ah _).2 rfl
   .rw[if_neg h3,show (e.kind==3)=false from by simp[h3],bf]
  .rw[if_neg h2,show decide (kM t e.kind e.message=⟨p,(k:Int)+1⟩)=false from by simpa using h2,bf]
theorem IN {t:Trace} (hF:∀x∈aR t,jC t.procs.l.length x.1.proc x.2):(∀x∈aR t,tH t x=0)↔vK t:=by
 constructor
 .intro h;have key:∀x∈aR t,x.2.kind≠1->kM t x.2.kind x.2.message=x.1:=λx hx hk=>by
   have:=h x hx;unfold tH at this;rw[if_neg hk]at this;split at this
   .assumption
   .cases this
  refine⟨λx hx y hy kx ky hm=>?_,λx hx y hy kx ky hm=>?_,λx hx kx=>?_⟩
  .rw[<-key x hx (by omega),<-key y hy (by omega),kx,ky,hm]
  .rw[<-key x hx (by omega),<-key y hy (by omega),kx,ky,hm]
  .have:=h x hx;unfold tH at this;rw[if_neg (by omega),if_pos (key x hx (by omega)),if_pos kx]at this
   split at this
   .assumption
   .cases this
 .intro h x hx;unfold tH
  by_cases k1:x.2.kind=1
  .rw[if_pos k1]
  .rw[if_neg k1];obtain⟨y,hy⟩:=Eb hx rfl rfl;obtain⟨y1,y2,y3,y4⟩:=AZ hy;have hk:x.2.kind=2\/x.2.kind=3:=by
    rcases hF x hx with h|⟨h,_⟩
    .exact absurd h k1
    .exact h
   have he:kM t x.2.kind x.2.message=x.1:=by
    rw[y4];rcases hk with hk|hk
    .exact h.snd y y1 x hx (by rw[y2,hk]) hk y3
    .exact h.rcv y y1 x hx (by rw[y2,hk]) hk y3
   rw[if_pos he]
   by_cases k3:x.2.kind=3
   .rw[if_pos k3,if_pos (h.has x hx k3)]
   .rw[if_neg k3]
end Go.VE
namespace Go.VE
theorem yS {t:Trace} (hF:∀x∈aR t,jC t.procs.l.length x.1.proc x.2) (hP:vK t) {z:aa} {f:Event} (hz:(z,f)∈aR t) (hk:f.kind=3):∃e,(kM t 2 f.message,e)∈aR t/\e.kind=2/\e.message=f.message:=by
 have h:=hP.has _ hz hk;have hp:0<=f.peer:=by
  rcases hF _ hz with h|⟨_,h,_⟩
  .simp only at h;omega
  .exact h
 rw[show f.peer=((f.peer.toNat:Nat):Int)from by omega,A1]at h
 obtain⟨k,e,ha,h1,h2,_⟩:=h;obtain⟨y,hy⟩:=Eb (dh.2 ⟨_,k,ha,rfl⟩:((⟨(f.peer.toNat:Nat),k+1⟩:aa),e)∈aR t) h1 h2;obtain⟨y1,y2,y3,y4⟩:=AZ hy;exact⟨y.2,by rw[y4];exact y1,y2,y3⟩
theorem FK.find {t:Trace} (hF:∀x∈aR t,jC t.procs.l.length x.1.proc x.2) (hP:vK t) {y z:aa} {f:Event} (h:FK t y z) (hz:(z,f)∈aR t):f.kind=3/\kM t 2 f.message=y:=by
 obtain⟨e,f',h1,h2,h3,h4,h5⟩:=h;cases AE h2 hz rfl;obtain⟨e',a1,a2,a3⟩:=yS hF hP hz h4;exact⟨h4,hP.snd _ a1 _ h1 a2 h3 (by rw[a3,h5])⟩
theorem zS {t:Trace} (hS:Small t) (hF:∀x∈aR t,jC t.procs.l.length x.1.proc x.2) (hP:vK t) {z:aa} (hz:Vd t z) :
 Wp (cB t z) λs=>s.l.length<=2/\∀y,y∈s.l↔Edge t y z:=by
 obtain⟨p,k,f,hat,rfl,hmem⟩:=hz.at_;have hk:k<1073741824:=by
  obtain⟨P,hP,he⟩:=hat;have:=(hS.2 P (List.mem_of_getElem? hP)).1;have:=(ζe.1 he).1;omega
 have j:∀s:Sl aa,s.l.length<=1->(∀y,y∈s.l↔Vd t y/\(⟨p,k+1⟩:aa)=⟨y.proc,y.index+1⟩)->Wp (cB.J1 s t ⟨p,k+1⟩) λs=>s.l.length<=2/\∀y,y∈s.l↔Edge t y ⟨p,k+1⟩:=by
  intro s hs hsy;unfold cB.J1;rw[NM hat (by omega),ζb,bl]
  constructor
  .intro h3;have h3:f.kind=3:=by simpa using h3
   rw[find_eq hS,ζb];unfold kf;rw[if_pos (by omega),ζb,ah]
   refine⟨by show (s.l++[_]).length<=2;rw[ζi,List.length_singleton];omega,λy=>?_⟩
   show y∈s.l++[kM t 2 f.message]↔_;rw[List.mem_append,List.mem_singleton,hsy];obtain⟨e,a1,a2,a3⟩:=yS hF hP hmem h3;constructor
   .rintro (h|rfl)
    .exact⟨h.1,hz,.inl h.2⟩
    .exact⟨⟨e,a1⟩,hz,.inr ⟨e,f,a1,hmem,a2,h3,a3⟩⟩
   .rintro⟨h1,_,h2|h2⟩
    .exact .inl ⟨h1,h2⟩
    .exact .inr (h2.find hF hP hmem).2.symm
  .intro h3;refine(ah _).2 ⟨by omega,λy=>(hsy y).trans ⟨λh=>⟨h.1,hz,.inl h.2⟩,λ⟨h1,_,h2⟩=>⟨h1,h2.elim id λh2=>?_⟩⟩⟩
   have:=(h2.find hF hP hmem).1;simp[this]at h3
 unfold cB;rw[bl];constructor
 .intro h;have h:(k:Int)+1>1:=by simpa using h
  refine j _ (by simp[Sl.l]) λy=>?_
  have hw:IntKind.wrap .i64 ((k:Int)+1-1)=k:=by rw[qP _ (by omega) (by omega)];omega
  simp only[Sl.l,List.mem_singleton,hw,aa.mk.injEq];constructor
  .rintro rfl;obtain⟨P,hP,he⟩:=hat;have:=(ζe.1 he).1;exact⟨⟨P.events.l[k-1],dh.2 ⟨p,k-1,⟨P,hP,ζd (by omega)⟩,by simp;omega⟩⟩,rfl,rfl⟩
  .rintro⟨_,h1,h2⟩;cases y;simp only at h1 h2;congr 1 <;> omega
 .intro h;have h:¬(k:Int)+1>1:=by simpa using h
  refine j _ (by simp[Sl.l]) λy=>⟨λhy=>by simp[Sl.l]at hy,λ⟨hy,he⟩=>?_⟩
  obtain⟨q,i,f,_,rfl,_⟩:=hy.at_;simp only[aa.mk.injEq]at he;omega
theorem Ri {α:Type} {r:α->α->Prop} {x:α} (h:Acc r x):¬Relation.TransGen r x x:=by
 induction h with
 | intro x _ ih=>
  intro h
  cases h with
  | single h=>exact ih x h (.single h)
  | tail h1 h2=>exact ih _ h2 (Relation.TransGen.trans (.single h2) h1)
theorem Hy:∀{d:List Nat} {i k:Nat},d[i]? = some k->(d.set i (k+1)).sum=d.sum+1
 | [],_,_,h=>by simp at h
 | x::d,0,k,h=>by simp at h;subst h;simp;omega
 | x::d,i+1,k,h=>by
  have:=Hy (d:=d) (i:=i) (k:=k) (by simpa using h)
  simp[this];omega
theorem KM:∀{d l:List Nat},d.length=l.length->(∀(i a b:Nat),d[i]? = some a->l[i]? = some b->a<=b)->d.sum<=l.sum
 | [],_,_,_=>by simp
 | x::d,[],h,_=>by simp at h
 | x::d,y::l,h,hh=>by
  have h1:=hh 0 x y rfl rfl;have h2:=KM (d:=d) (l:=l) (by simpa using h) λi a b ha hb=>hh (i+1) a b (by simpa using ha) (by simpa using hb)
  simp;omega
def nI (d:List Nat):List Int:=d.map Int.ofNat
def sI (s:Sl Int):Nat:=(s.l.map Int.toNat).sum
theorem DO (d:List Nat):sI (.row (nI d))=d.sum:=by
 unfold sI nI;rw[show (Sl.row (d.map Int.ofNat)).l=d.map Int.ofNat from rfl,List.map_map,show (Int.toNat ∘ Int.ofNat)=id from rfl,List.map_id]
theorem K0 (d:List Nat):(nI d).length=d.length:=by simp[nI]
structure Kh (t:Trace) (d:List Nat):Prop where
 len:d.length=t.procs.l.length
 le:∀(p k:Nat) P,d[p]? = some k->t.procs.l[p]? = some P->k<=P.events.l.length
 acc:∀(p k j:Nat),d[p]? = some k->j<k->Acc (Edge t) ⟨p,j+1⟩
def pW (t:Trace):Nat:=(t.procs.l.map λP=>P.events.l.length).sum
theorem Kh.sum {t:Trace} {d:List Nat} (h:Kh t d):d.sum<=pW t:=KM (by simp[h.len]) λi a b ha hb=>by
 rw[List.getElem?_map]at hb
 cases hP:t.procs.l[i]? with
 | none=>simp[hP]at hb
 | some P=>simp[hP]at hb;rw[<-hb];exact h.le i a P ha hP
theorem AG {d:List Nat} {p:Nat} (h:p<d.length):Sl.mm (.row (nI d)) (p:Int)=some p:=by
 unfold Sl.mm;rw[if_pos ⟨by omega,by simpa [Sl.l,K0]using h⟩];rfl
theorem xO {d:List Nat} {p k:Nat} (h:d[p]? = some k):Sl.get (.row (nI d)) p=some (k:Int):=by
 unfold Sl.get nI;rw[show (Sl.row (d.map Int.ofNat)).l=d.map Int.ofNat from rfl,List.getElem?_map,h];rfl
def Mv (t:Trace) (d0:List Nat) (s:Sl Int) (b:Bool) (d:List Nat):Prop:=s=.row (nI d)/\Kh t d/\d0.sum<=d.sum/\(b=true->d0.sum<d.sum)
def KQ (t:Trace) (d0:List Nat) (p:Nat) (w:Fw (Sl Int×Bool×Int) (Sl Int×Bool) Empty):Prop:=∃s' b' d',w=.n (s',b',((p+1:Nat):Int))/\Mv t d0 s' b' d'
theorem OM {t:Trace} (hS:Small t) (hF:∀x∈aR t,jC t.procs.l.length x.1.proc x.2) (hP:vK t) {d0 d1:List Nat} {s:Sl Int} {b:Bool} {p:Nat} (hp:p<t.procs.l.length) (hM:Mv t d0 s b d1) :
 Wp (bT.W3 s b p t) (KQ t d0 p):=by
 have hix:=aK hp;have hn:=hS.1;have hPl:=(hS.2 _ (List.getElem_mem hp)).1;have hPg:=ζd hp;generalize t.procs.l[p]=P at *;unfold bT.W3;refine dB (λq:Sl Int×Bool=>∃d,Mv t d0 q.1 q.2 d) (λq=>pW t-sI q.1) ⟨d1,hM⟩ ?_
 rintro⟨s,b⟩ ⟨d,rfl,hK,hd,hb⟩;simp only at hb;have hpd:p<d.length:=by rw[hK.len];exact hp
 have hg:=ζd hpd;generalize d[p]=k at hg;have hkl:=hK.le p k P hg hPg;have stop:∀{pr:Empty->Prop},Wp (some (Fw.x (Sl.row (nI d),b))) (Ng (λq:Sl Int×Bool=>∃d,Mv t d0 q.1 q.2 d) (λq=>pW t-sI q.1) (λe=>Wp (some (Fw.n (e.1,e.2,IntKind.wrap .i64 ((p:Int)+1)))) (KQ t d0 p)) pr (Sl.row (nI d),b)):=by
  refine(ah _).2 ((ah _).2 ⟨_,_,d,?_,rfl,hK,hd,hb⟩);rw[bK p (by omega)]
 unfold bT.c_;rw[AG hpd,ζb,xO hg,ζb,hix,ζb,bl];refine⟨λh=>?_,λ_=>stop⟩
 have hlt:k<P.events.l.length:=by simpa [Go.VE.len]using h
 have hat:jD t p k P.events.l[k]:=⟨P,hPg,ζd hlt⟩;have hmem:((⟨p,k+1⟩:aa),P.events.l[k])∈aR t:=dh.2 ⟨p,k,hat,rfl⟩;have go:(P.events.l[k].kind=3->∀q j:Nat,kM t 2 P.events.l[k].message=⟨q,j+1⟩->∃k',d[q]? = some k'/\j<k')->∀{px:Sl Int×Bool->Prop} {pr:Empty->Prop},Wp (bT.J4 (.row (nI d)) p t) (Ng (λq:Sl Int×Bool=>∃d,Mv t d0 q.1 q.2 d) (λq=>pW t-sI q.1) px pr (Sl.row (nI d),b)):=by
  intro hq px pr;unfold bT.J4;rw[AG hpd,ζb,xO hg,ζb,ζb];unfold Sl.put;rw[if_pos (by simpa [Sl.l,K0]using hpd),ζb,ah]
  have hset:(nI d).set p (IntKind.wrap .i64 ((k:Int)+1))=nI (d.set p (k+1)):=by
   rw[bK k (by omega)];unfold nI;rw[List.map_set];rfl
  have hsum:=Hy hg;have hK2:Kh t (d.set p (k+1)):=by
   refine⟨by simp[hK.len],λq i Q hi hQ=>?_,λq i j hi hj=>?_⟩
   .rw[List.getElem?_set]at hi;split at hi
    .rename_i e;subst e;cases hi;rw[hPg]at hQ;cases hQ;omega
    .exact hK.le q i Q hi hQ
   .rw[List.getElem?_set]at hi;split at hi
    .rename_i e;subst e;cases hi
     by_cases hjk:j<k
     .exact hK.acc p k j hg hjk
     .have:j=k:=by omega
      subst this;refine Acc.intro _ λy hy=>?_
      obtain⟨hyv,_,he|he⟩:=hy
      .obtain⟨q,i,f,_,rfl,_⟩:=hyv.at_;simp only[aa.mk.injEq]at he;have e1:q=p:=by omega
       subst e1;exact hK.acc q j i hg (by omega)
      .obtain⟨h3,hf⟩:=he.find hF hP hmem;obtain⟨q,i,f,_,rfl,_⟩:=hyv.at_;obtain⟨k',hk',hik⟩:=hq h3 q i hf;exact hK.acc q k' i hk' hik
    .exact hK.acc q i j hi hj
  have hs2:=hK2.sum;refine⟨⟨_,by rw[<-hset],hK2,by rw[hsum];omega,λ_=>by rw[hsum];omega⟩,?_⟩
  show pW t-sI (.row ((nI d).set p (IntKind.wrap .i64 ((k:Int)+1))))<pW t-sI (.row (nI d));rw[hset,DO,DO,hsum];rw[hsum]at hs2;omega
 dsimp only;rw[ζb,ζb,xO hg,ζb,aK hlt,ζb,bl];refine⟨λh3=>?_,λh3=>go λh=>by simp[h]at h3⟩
 have h3:P.events.l[k].kind=3:=by simpa using h3
 obtain⟨e,a1,a2,a3⟩:=yS hF hP hmem h3;obtain⟨q,j,hat2,hqj⟩:=dh.1 a1;simp only at hqj;have hqd:q<d.length:=by
  obtain⟨Q,hQ,_⟩:=hat2;rw[hK.len];exact(ζe.1 hQ).1
 have hgq:=ζd hqd;rw[find_eq hS,ζb,hqj,AG hqd,ζb,xO hgq,ζb,bl];refine⟨λ_=>stop,λh=>go λ_ q' j' hh=>?_⟩
 rw[hqj]at hh;simp only[aa.mk.injEq]at hh;have e1:q'=q:=by omega
 have e2:j'=j:=by omega
 subst e1 e2;exact⟨_,hgq,by simp at h;omega⟩
theorem HH {t:Trace} (hS:Small t) (hF:∀x∈aR t,jC t.procs.l.length x.1.proc x.2) (hP:vK t):Wp (bT t) λb=>b=true->¬G5 t:=by
 have hn:=hS.1;unfold bT nZ;rw[if_pos (by simp[len];omega),ζb]
 have h0:(Sl.row (List.replicate (len t.procs).toNat (0:Int)))=.row (nI (List.replicate t.procs.l.length 0)):=by simp[len,nI]
 rw[h0];unfold bT.W1;have hrep:∀(p k:Nat),(List.replicate t.procs.l.length 0)[p]? = some k->k=0:=λp k h=>by
  rw[List.getElem?_replicate]at h;split at h <;> simp at h;exact h.symm
 refine dB (λs:Sl Int=>∃d,s=.row (nI d)/\Kh t d) (λs=>pW t-sI s) ⟨_,rfl,by simp,λp k P h _=>by rw[hrep p k h];omega,λp k j h hj=>by rw[hrep p k h]at hj;omega⟩ ?_
 rintro s ⟨d0,rfl,hK⟩;unfold bT.aA bT.W2;refine dB (λq:Sl Int×Bool×Int=>∃(n:Nat) (d:List Nat),q.2.2=n/\n<=t.procs.l.length/\Mv t d0 q.1 q.2.1 d) (λq=>t.procs.l.length-q.2.2.toNat) ⟨0,d0,rfl,Nat.zero_le _,rfl,hK,Nat.le_refl _,by simp⟩ ?_
 rintro⟨s,b,i⟩ ⟨n,d,hi,hnn,hM⟩;simp only at hi hM;subst hi;unfold bT.aX;rw[bl];constructor
 .intro h;have hlt:n<t.procs.l.length:=by simpa [len]using h
  refine(OM hS hF hP hlt hM).mono ?_;rintro w ⟨s',b',d',rfl,hM'⟩;exact⟨⟨n+1,d',rfl,by omega,hM'⟩,by simp;omega⟩
 .intro _;obtain⟨rfl,hK',hle,hmv⟩:=hM;rw[ah];show Wp (an b _ _) _;rw[bl];refine⟨λhb=>(ah _).2 ⟨⟨d,rfl,hK'⟩,?_⟩,λ_=>(ah _).2 ?_⟩
  .show pW t-sI (.row (nI d))<pW t-sI (.row (nI d0));rw[DO,DO];have:=hmv hb;have:=hK'.sum;omega
  .show Wp (bT.W5 (.row (nI d)) 0 t) _;unfold bT.W5;refine dB (λi:Int=>∃n:Nat,i=n/\n<=t.procs.l.length/\∀p,p<n->∀P,t.procs.l[p]? = some P->d[p]? = some P.events.l.length) (λi:Int=>t.procs.l.length-i.toNat) ⟨0,rfl,Nat.zero_le _,λp hp=>absurd hp (by omega)⟩ ?_
   rintro i ⟨n,rfl,hn',hh⟩;unfold bT.oQ;rw[bl];constructor
   .intro h;have hlt:n<t.procs.l.length:=by simpa [len]using h
    have hnd:n<d.length:=by rw[hK'.len];exact hlt
    have hg:=ζd hnd;rw[AG hnd,ζb,xO hg,ζb,aK hlt,ζb,bl];refine⟨λ_=>(ah _).2 ((ah _).2 λh=>by cases h),λh=>(ah _).2 ⟨⟨n+1,bK n (by omega),by omega,λp hp P hP=>?_⟩,by rw[bK n (by omega)];simp;omega⟩⟩
    by_cases e:p=n
    .subst e;rw[ζd hlt]at hP;cases hP;have:=hK'.le p _ _ hg (ζd hlt);simp[len]at h;rw[hg];congr 1;omega
    .exact hh p (by omega) P hP
   .intro h;have hge:t.procs.l.length<=n:=by simpa [len]using h
    refine(ah _).2 ((ah _).2 λ_ ⟨x,hx⟩=>?_)
    obtain⟨p,k,e,⟨P,hP,he⟩,rfl,_⟩:=hx.l.at_;have hpl:=(ζe.1 hP).1;exact Ri (hK'.acc p _ k (hh p (by omega) P hP) (ζe.1 he).1) hx
end Go.VE
namespace Go.VE
def oT (out:List (List Bool)) (y:aa):Bool:=match out[y.proc.toNat]? with
 | some row=>row[y.index.toNat]?.getD false
 | none=>false
theorem xR {t:Trace} {out:List (List Bool)} {p k:Nat} {row:List Bool} (hr:out[p]? = some row) (hk:k+1<row.length) {z:aa} (hz:Vd t z) :
 oT (out.set p (row.set (k+1) true)) z=(decide (z=⟨p,k+1⟩)||oT out z):=by
 obtain⟨q,j,e,_,rfl,_⟩:=hz.at_;have hp:=(ζe.1 hr).1;unfold oT;have e1:(⟨(q:Int),(j:Int)+1⟩:aa).proc.toNat=q:=rfl;have e2:(⟨(q:Int),(j:Int)+1⟩:aa).index.toNat=j+1:=by show ((j:Int)+1).toNat=j+1;omega
 rw[e1,e2,List.getElem?_set]
 by_cases hpq:p=q
 .subst hpq;rw[if_pos rfl,if_pos hp,hr];dsimp only;rw[List.getElem?_set]
  by_cases hkj:k=j
  .subst hkj;simp[hk]
  .rw[if_neg (by omega),show decide ((⟨(p:Int),(j:Int)+1⟩:aa)=⟨p,k+1⟩)=false from by simp;omega,Bool.false_or]
 .rw[if_neg hpq,show decide ((⟨(q:Int),(j:Int)+1⟩:aa)=⟨p,k+1⟩)=false from by simp;omega,Bool.false_or]
theorem yu {α:Type} {f g:α->Bool}:∀{l:List α},(∀z∈l,f z=true->g z=true)->(∃z∈l,f z=false/\g z=true)->l.countP f<l.countP g
 | [],_,⟨z,hz,_⟩=>by simp at hz
 | a::l,h,⟨z,hz,hf,hg⟩=>by
  simp only[List.countP_cons];have hle:=List.countP_mono_left (l:=l) (p:=f) (q:=g) λx hx=>h x (List.mem_cons_of_mem _ hx)
  rcases List.mem_cons.1 hz with rfl|hz
  .simp[hf,hg];omega
  .have:=yu (l:=l) (λx hx=>h x (List.mem_cons_of_mem _ hx)) ⟨z,hz,hf,hg⟩
   have h1:=h a (List.mem_cons_self ..)
   cases hfa:f a with
   | true=>simp[h1 hfa];omega
   | false=>simp;split <;> omega
def cnt (t:Trace) (out:List (List Bool)):Nat:=(aR t).countP λz=>oT out z.1
structure SX (t:Trace) (x:aa) (out:List (List Bool)) (rest:List aa):Prop where
 shp:∀(p:Nat) P,t.procs.l[p]? = some P->∃row,out[p]? = some row/\row.length=P.events.l.length+1
 len:out.length=t.procs.l.length
 que:∀y∈rest,Way t y x
 snd:∀y,Vd t y->oT out y=true->Way t y x
 cls:∀z,z=x\/Vd t z/\oT out z=true->∀y,Edge t y z->oT out y=true\/y∈rest
 le:rest.length<=2*cnt t out+2
theorem zq {t:Trace} {y:aa}:oT (e8 t) y=false:=by
 unfold oT e8;split
 .rename_i row h;rw[List.getElem?_map]at h
  cases hP:t.procs.l[y.proc.toNat]? with
  | none=>simp[hP]at h
  | some P=>
   simp[hP]at h;subst h;rw[List.getElem?_replicate];split <;> rfl
 .rfl
theorem O3 {t:Trace} (hS:Small t) (hN:(aR t).length<1073741824) (hF:∀x∈aR t,jC t.procs.l.length x.1.proc x.2) (hP:vK t) {x:aa} (hx:Vd t x) :
 Wp (lB t x) λs=>∃out,s=nested out/\SX t x out []/\∀y,Vd t y->(oT out y=true↔Way t y x):=by
 unfold lB;rw[if_pos (by
  unfold xK;simp only[ζh,List.all_eq_true,decide_eq_true_eq];exact⟨by have:=hS.1;omega,λP hP=>by have:=(hS.2 P hP).1;omega⟩),dV]
 refine(zS hS hF hP hx).mono λs hs=>?_
 refine dB (λq:List (List Bool)×List aa=>SX t x q.1 q.2) (λq=>2*((aR t).length-cnt t q.1)+q.2.length) ⟨λp P hP=>⟨List.replicate (P.events.l.length+1) false,by simp[e8,hP],by simp⟩,by simp[e8],λy hy=>.single ((hs.2 y).1 hy),λy _ h=>(by rw[zq]at h;cases h),λz hz y hy=>?_,by have:=hs.1;show s.l.length<=2*cnt t (e8 t)+2;omega⟩ ?_
 .rcases hz with rfl|⟨_,h⟩
  .exact .inr ((hs.2 y).2 hy)
  .rw[zq]at h;cases h
 rintro⟨out,rest⟩ hI
 cases rest with
 | nil=>
  show Wp (some _) _;refine(ah _).2 ((ah _).2 ⟨out,rfl,hI,λy hy=>⟨hI.snd y hy,λhw=>?_⟩⟩)
  have key:∀w,Way t y w->w=x\/Vd t w/\oT out w=true->oT out y=true:=λw hw=>by
   induction hw with
   | single h=>exact λhw=>(hI.cls _ hw _ h).elim id λh=>by cases h
   | tail hyb hbw ih=>exact λhw=>ih (.inr ⟨hbw.1,(hI.cls _ hw _ hbw).elim id λh=>by cases h⟩)
  exact key x hw (.inl rfl)
 | cons y rest=>
  have hyw:=hI.que y (List.mem_cons_self ..);have hyv:=hyw.l;obtain⟨p,k,e,hat,rfl,hmem⟩:=hyv.at_;obtain⟨P,hPp,hk⟩:=hat;have hkl:=(ζe.1 hk).1;obtain⟨row,hr,hrl⟩:=hI.shp p P hPp;have hkr:k+1<row.length:=by omega
  show Wp (mB _ (out,⟨p,k+1⟩::rest)) _;unfold mB;have e2:((k:Int)+1).toNat=k+1:=by omega
  dsimp only;rw[if_pos ⟨by omega,by omega⟩,show ((p:Nat):Int).toNat=p from rfl,e2,hr,ζb,ζd hkr,ζb,bl]
  have hmk:oT out ⟨p,k+1⟩=row[k+1]:=by
   unfold oT;rw[show ((⟨(p:Int),(k:Int)+1⟩:aa).proc).toNat=p from rfl,hr];dsimp only;rw[e2,ζd hkr];rfl
  constructor
  .intro hb;rw[ah];refine⟨⟨hI.shp,hI.len,λy hy=>hI.que y (List.mem_cons_of_mem _ hy),hI.snd,λz hz y hy=>?_,by have:=hI.le;simp only[List.length_cons]at this;show rest.length<=2*cnt t out+2;omega⟩,Nat.add_lt_add_left (Nat.lt_succ_self _) _⟩
   rcases hI.cls z hz y hy with h|h
   .exact .inl h
   .rcases List.mem_cons.1 h with rfl|h
    .exact .inl (by rw[hmk];exact hb)
    .exact .inr h
  .intro hb;rw[dV];refine(zS hS hF hP hyv).mono λmore hm=>?_
   have hle:=hI.le;simp only[List.length_cons]at hle;have hcl:cnt t out<=(aR t).length:=List.countP_le_length;have hm1:=hm.1;have hlt:cnt t out<cnt t (out.set p (row.set (k+1) true)):=yu (λz hz h=>by rw[xR hr hkr ⟨_,hz⟩,h,Bool.or_true]) ⟨_,hmem,by rw[hmk,hb],by rw[xR hr hkr hyv];simp⟩
   have hcl2:cnt t (out.set p (row.set (k+1) true))<=(aR t).length:=List.countP_le_length;rw[if_pos (by omega),ah]
   refine⟨⟨λq Q hQ=>?_,by show (out.set _ _).length=_;rw[List.length_set];exact hI.len,λz hz=>?_,λz hz h=>?_,λz hz y hy=>?_,by show (rest++more.l).length<=_;rw[ζi];show _<=2*cnt t (out.set p (row.set (k+1) true))+2;omega⟩,?_⟩
   .show ∃r,(out.set p (row.set (k+1) true))[q]? = some r/\_;rw[List.getElem?_set];split
    .rename_i e;subst e;rw[if_pos (ζe.1 hr).1];rw[hPp]at hQ;cases hQ;exact⟨_,rfl,by simp[hrl]⟩
    .exact hI.shp q Q hQ
   .rcases List.mem_append.1 hz with hz|hz
    .exact hI.que z (List.mem_cons_of_mem _ hz)
    .exact .trans (.single ((hm.2 z).1 hz)) hyw
   .show Way t z x;have h:oT (out.set p (row.set (k+1) true)) z=true:=h;rw[xR hr hkr hz]at h;simp only[Bool.or_eq_true,decide_eq_true_eq]at h;rcases h with rfl|h
    .exact hyw
    .exact hI.snd z hz h
   .show oT (out.set p (row.set (k+1) true)) y=true\/y∈rest++more.l;rw[xR hr hkr hy.1];have old:z=x\/Vd t z/\oT out z=true->(decide (y=⟨p,k+1⟩)||oT out y)=true\/y∈rest++more.l:=λhz=>by
     rcases hI.cls z hz y hy with h|h
     .exact .inl (by rw[show oT out y=true from h,Bool.or_true])
     .rcases List.mem_cons.1 h with rfl|h
      .exact .inl (by simp)
      .exact .inr (List.mem_append_left _ h)
    rcases hz with hz|⟨hzv,hz⟩
    .exact old (.inl hz)
    .have hz:oT (out.set p (row.set (k+1) true)) z=true:=hz;rw[xR hr hkr hzv]at hz;simp only[Bool.or_eq_true,decide_eq_true_eq]at hz;rcases hz with rfl|hz
     .exact .inr (List.mem_append_right _ ((hm.2 y).2 hy))
     .exact old (.inr ⟨hzv,hz⟩)
   .show 2*((aR t).length-cnt t (out.set p (row.set (k+1) true)))+(rest++more.l).length<2*((aR t).length-cnt t out)+(_::rest).length;rw[ζi,List.length_cons];omega
theorem Sb {t:Trace} (hS:Small t) (hN:(aR t).length<1073741824) (hF:∀x∈aR t,jC t.procs.l.length x.1.proc x.2) (hP:vK t):Wp (bO.W6 0 t ⟨0,0⟩) λr=>(r.2=0↔¬G5 t):=by
 have hn:=hS.1;unfold bO.W6;refine dB (λi:Int=>∃n:Nat,i=n/\n<=t.procs.l.length/\∀(p k:Nat) e,p<n->jD t p k e->¬Way t ⟨p,k+1⟩ ⟨p,k+1⟩) (λi:Int=>t.procs.l.length-i.toNat) ⟨0,rfl,Nat.zero_le _,λp k e hp=>absurd hp (by omega)⟩ ?_
 rintro i ⟨n,rfl,hnn,hh⟩;unfold bO.GL;rw[bl];constructor
 .intro h;have hlt:n<t.procs.l.length:=by simpa [len]using h
  have hix:=aK hlt;have hPg:=ζd hlt;have hPl:=(hS.2 _ (List.getElem_mem hlt)).1;generalize t.procs.l[n]=P at *;unfold bO.W7;refine dB (λi:Int=>∃m:Nat,i=m/\m<=P.events.l.length/\∀k,k<m->¬Way t ⟨n,k+1⟩ ⟨n,k+1⟩) (λi:Int=>P.events.l.length-i.toNat) ⟨0,rfl,Nat.zero_le _,λk hk=>absurd hk (by omega)⟩ ?_
  rintro i ⟨m,rfl,hm,hk⟩;unfold bO.Hv;rw[hix,ζb,bl];constructor
  .intro h;have hml:m<P.events.l.length:=by simpa [len]using h
   have hw:=bK m (by omega)
   have hv:Vd t ⟨n,m+1⟩:=⟨P.events.l[m],dh.2 ⟨n,m,⟨P,hPg,ζd hml⟩,rfl⟩⟩;rw[hw,show (((m+1:Nat)):Int)=(m:Int)+1 from by simp,dV]
   refine(O3 hS hN hF hP hv).mono ?_;rintro s ⟨out,rfl,hI,hmk⟩;obtain⟨row,hr,hrl⟩:=hI.shp n P hPg;have hon:out≠[]:=by rintro rfl;cases hr
   have hkr:m+1<row.length:=by omega
   have h1:idx (nested out) (n:Int)=some (.row row):=by
    unfold nested;rw[if_neg hon,qR];show (out.map Sl.row)[n]? = _;rw[List.getElem?_map,hr];rfl
   have h2:idx (Sl.row row) ((m:Int)+1)=some row[m+1]:=by
    rw[show (m:Int)+1=((m+1:Nat):Int)from by simp]
    exact aK (s:=Sl.row row) hkr
   rw[h1,ζb,h2,ζb,bl];have hb:row[m+1]=oT out ⟨n,m+1⟩:=by
    unfold oT;rw[show ((⟨(n:Int),(m:Int)+1⟩:aa).proc).toNat=n from rfl,hr];dsimp only;rw[show ((m:Int)+1).toNat=m+1 from by omega,ζd hkr];rfl
   rw[hb];refine⟨λhy=>(ah _).2 ((ah _).2 ((ah _).2 ⟨λh=>(by cases h),λh=>absurd ⟨_,(hmk _ hv).1 hy⟩ h⟩)),λhy=>(ah _).2 ⟨⟨m+1,by simp,by omega,λk hkm=>?_⟩,by simp;omega⟩⟩
   by_cases e:k=m
   .subst e;exact λhw=>by rw[(hmk _ hv).2 hw]at hy;cases hy
   .exact hk k (by omega)
  .intro h;have hge:P.events.l.length<=m:=by simpa [len]using h
   refine(ah _).2 ((ah _).2 ⟨⟨n+1,bK n (by omega),by omega,λp k e hp hat=>?_⟩,by rw[bK n (by omega)];simp;omega⟩)
   by_cases e:p=n
   .subst e;obtain⟨Q,hQ,he⟩:=hat;rw[hPg]at hQ;cases hQ;have:=(ζe.1 he).1;exact hk k (by omega)
   .exact hh p k _ (by omega) hat
 .intro h;have hge:t.procs.l.length<=n:=by simpa [len]using h
  refine(ah _).2 ((ah _).2 ⟨λ_ ⟨x,hx⟩=>?_,λ_=>rfl⟩)
  obtain⟨p,k,e,hat,rfl,_⟩:=hx.l.at_;obtain⟨P,hP,_⟩:=id hat;exact hh p k e (by have:=(ζe.1 hP).1;omega) hat hx
end Go.VE
namespace Go.VE
theorem EX {t:Trace} (hF:∀x∈aR t,jC t.procs.l.length x.1.proc x.2):(∀(p k:Nat) e,jD t p k e->tH t (⟨p,k+1⟩,e)=0)↔vK t:=
 Iff.trans ⟨λh x hx=>by obtain⟨p,k,h1,h2⟩:=dh.1 hx;obtain⟨a,e⟩:=x;simp only at h1 h2;rw[h2];exact h p k e h1,λh p k e ha=>h _ (dh.2 ⟨p,k,ha,rfl⟩)⟩ (IN hF)
theorem JA {t:Trace} (hS:Small t) (hN:(aR t).length<1073741824):Wp (bO t) λr=>(r.2=0↔Ok t):=by
 have hn:=hS.1;unfold bO;rw[iC,ζb,bl];refine⟨λhin=>(ah _).2 ⟨λh=>(by cases h),λh=>?_⟩,λhin=>?_⟩
 .have h1:=h.one;have h8:=h.few;simp only[Bool.or_eq_true,decide_eq_true_eq,len]at hin;omega
 have h8:1<=t.procs.l.length/\t.procs.l.length<=8:=by
  simp only[Bool.or_eq_false_iff,decide_eq_false_iff_not,len]at hin;omega
 unfold bO.W1;refine dB (λi:Int=>∃n:Nat,i=n/\n<=t.procs.l.length/\∀p,p<n->ru t p=0) (λi:Int=>t.procs.l.length-i.toNat) ⟨0,rfl,Nat.zero_le _,λp hp=>absurd hp (by omega)⟩ ?_
 rintro i ⟨n,rfl,hnn,hh⟩;unfold bO.aA;rw[bl];constructor
 .intro h;have hlt:n<t.procs.l.length:=by simpa [len]using h
  rw[MI hS hlt,ζb,bl];refine⟨λh0=>(ah _).2 ⟨⟨n+1,bK n (by omega),by omega,λp hp=>?_⟩,by rw[bK n (by omega)];simp;omega⟩,λh0=>(ah _).2 ((ah _).2 ⟨λh=>?_,λh=>?_⟩)⟩
  .by_cases e:p=n
   .subst e;simpa using h0
   .exact hh p (by omega)
  .simp only at h;simp[h]at h0
  .simp[h.heads n hlt]at h0
 intro h;have hge:t.procs.l.length<=n:=by simpa [len]using h
 rw[ah];unfold bO.W2;refine dB (λi:Int=>∃n:Nat,i=n/\n<=t.procs.l.length/\∀(p k:Nat) P e,p<n->t.procs.l[p]? = some P->P.events.l[k]? = some e->nO t.procs.l.length P p k e=0) (λi:Int=>t.procs.l.length-i.toNat) ⟨0,rfl,Nat.zero_le _,λp k P e hp=>absurd hp (by omega)⟩ ?_
 rintro i ⟨n',rfl,hnn',he⟩;unfold bO.aX;rw[bl];constructor
 .intro h;have hlt:n'<t.procs.l.length:=by simpa [len]using h
  have hix:=aK hlt;have hPg:=ζd hlt;have hPl:=(hS.2 _ (List.getElem_mem hlt)).1;generalize t.procs.l[n']=P at hix hPg hPl;unfold bO.W3;refine dB (λi:Int=>∃m:Nat,i=m/\m<=P.events.l.length/\∀(k:Nat) e,k<m->P.events.l[k]? = some e->nO t.procs.l.length P n' k e=0) (λi:Int=>P.events.l.length-i.toNat) ⟨0,rfl,Nat.zero_le _,λk e hk=>absurd hk (by omega)⟩ ?_
  rintro i ⟨m,rfl,hm,hk⟩;unfold bO.c_;rw[hix,ζb,bl];constructor
  .intro h;have hml:m<P.events.l.length:=by simpa [len]using h
   have hmg:=ζd hml;have hw:=bK m (by omega)
   rw[LU hS hPg hmg,ζb,bl];refine⟨λh0=>(ah _).2 ⟨⟨m+1,hw,by omega,λk e hkm hke=>?_⟩,by rw[hw];simp;omega⟩,λh0=>(ah _).2 ((ah _).2 ((ah _).2 ⟨λh=>?_,λh=>?_⟩))⟩
   .by_cases ek:k=m
    .subst ek;rw[hmg]at hke;cases hke;simpa using h0
    .exact hk k e (by omega) hke
   .simp only at h;simp[h]at h0
   .simp[h.eA n' m P _ hPg hmg]at h0
  .intro h;have hge':P.events.l.length<=m:=by simpa [len]using h
   refine(ah _).2 ((ah _).2 ⟨⟨n'+1,bK n' (by omega),by omega,λp k Q e hp hQ hke=>?_⟩,by rw[bK n' (by omega)];simp;omega⟩)
   by_cases ep:p=n'
   .subst ep;rw[hPg]at hQ;cases hQ;exact hk k e (by have:=(ζe.1 hke).1;omega) hke
   .exact he p k Q e (by omega) hQ hke
 intro h;have hge':t.procs.l.length<=n':=by simpa [len]using h
 have he:∀(p k:Nat) P e,t.procs.l[p]? = some P->P.events.l[k]? = some e->nO t.procs.l.length P p k e=0:=λp k P e hP hk=>he p k P e (by have:=(ζe.1 hP).1;omega) hP hk
 have hF:=Ct he;rw[ah];unfold bO.W4;refine dB (λi:Int=>∃n:Nat,i=n/\n<=t.procs.l.length/\∀(p k:Nat) e,p<n->jD t p k e->tH t (⟨p,k+1⟩,e)=0) (λi:Int=>t.procs.l.length-i.toNat) ⟨0,rfl,Nat.zero_le _,λp k e hp=>absurd hp (by omega)⟩ ?_
 rintro i ⟨q,rfl,hq,hpr⟩;unfold bO.mZ;rw[bl];constructor
 .intro h;have hlt:q<t.procs.l.length:=by simpa [len]using h
  have hix:=aK hlt;have hPg:=ζd hlt;have hPl:=(hS.2 _ (List.getElem_mem hlt)).1;generalize t.procs.l[q]=P at hix hPg hPl;unfold bO.W5;refine dB (λi:Int=>∃m:Nat,i=m/\m<=P.events.l.length/\∀(k:Nat) e,k<m->P.events.l[k]? = some e->tH t (⟨q,k+1⟩,e)=0) (λi:Int=>P.events.l.length-i.toNat) ⟨0,rfl,Nat.zero_le _,λk e hk=>absurd hk (by omega)⟩ ?_
  rintro i ⟨m,rfl,hm,hk⟩;unfold bO.oQ;rw[hix,ζb,bl];constructor
  .intro h;have hml:m<P.events.l.length:=by simpa [len]using h
   have hmg:=ζd hml;have hw:=bK m (by omega)
   have hat:jD t q m P.events.l[m]:=⟨P,hPg,hmg⟩;rw[hw,show (((m+1:Nat)):Int)=(m:Int)+1 from by simp,JS hS hat (hF (⟨q,m+1⟩,P.events.l[m]) (dh.2 ⟨q,m,hat,rfl⟩)),ζb,bl]
   refine⟨λh0=>(ah _).2 ⟨⟨m+1,by simp,by omega,λk e hkm hke=>?_⟩,by simp;omega⟩,λh0=>(ah _).2 ((ah _).2 ((ah _).2 ⟨λh=>?_,λh=>?_⟩))⟩
   .by_cases ek:k=m
    .subst ek;rw[hmg]at hke;cases hke;simpa using h0
    .exact hk k e (by omega) hke
   .simp only at h;simp[h]at h0
   .simp[(EX hF).2 h.Kz q m _ hat]at h0
  .intro h;have hge':P.events.l.length<=m:=by simpa [len]using h
   refine(ah _).2 ((ah _).2 ⟨⟨q+1,bK q (by omega),by omega,λp k e hp hat=>?_⟩,by rw[bK q (by omega)];simp;omega⟩)
   by_cases ep:p=q
   .subst ep;obtain⟨Q,hQ,hke⟩:=hat;rw[hPg]at hQ;cases hQ;exact hk k e (by have:=(ζe.1 hke).1;omega) hke
   .exact hpr p k e (by omega) hat
 intro h;have hgq:t.procs.l.length<=q:=by simpa [len]using h
 have hP:vK t:=(EX hF).1 λp k e hat=>hpr p k e (by obtain⟨P,hP,_⟩:=hat;have:=(ζe.1 hP).1;omega) hat
 have hok:¬G5 t↔Ok t:=⟨λh=>⟨h8.1,h8.2,λp hp=>hh p (by omega),he,hP,h⟩,λh=>h.acyc⟩
 rw[ah,dV];refine(HH hS hF hP).mono λb hb=>?_
 rw[bl];exact⟨λh=>(ah _).2 ⟨λ_=>hok.1 (hb h),λ_=>rfl⟩,λ_=>(Sb hS hN hF hP).mono λr hr=>hr.trans hok⟩
theorem KL {t:Trace} (hS:Small t) (hN:(aR t).length<1073741824):∃b,bX t=some b/\iV t=some b/\(b=true->VT t):=by
 obtain⟨b,hb,h1,h2⟩:=MQ hS hN;refine⟨b,hb,?_,h1⟩;unfold iV;obtain⟨r,hr,h3⟩:=JA hS hN;rw[hr,ζb]
 congr 1
 rw[Bool.eq_iff_iff,beq_iff_eq,h3];exact⟨h2,λh=>(h1 h).ok⟩
end Go.VE
namespace Go.VE
theorem D4 {t:Trace} (hS:Small t) {c:Sl Int} (hcl:c.l.length=t.procs.l.length) {step:Int->Option (Fw Int Unit Unit)}
 (hs:∀i,step i=an (decide (i<(len c))) ((idx c i).bind λx_1=>(an (decide (x_1<0)) (some true) ((idx c i).bind λx_2=>(idx t.procs i).bind λx_3=>some (decide (x_2>(len x_3.events)))):Option Bool).bind λx_4=>an x_4 (some (.r ())) (some (.n (IntKind.wrap .i64 (i+1))))) (some (.x ()))) :
 Wp ((aQ step 0).bind (Fw.elim (λ_=>some true) (λ_=>some false))) λb=>(b=true↔gb t c.l):=by
 have h1:=hS.1;refine dB (λs:Int=>∃n:Nat,s=n/\n<=c.l.length/\∀(p:Nat) (a:Int) (P:bp),p<n->c.l[p]? = some a->t.procs.l[p]? = some P->0<=a/\a<=P.events.l.length) (λs:Int=>c.l.length-s.toNat) ⟨0,rfl,Nat.zero_le _,λp a P h=>absurd h (by omega)⟩ ?_
 rintro s ⟨n,rfl,hn,hI⟩;rw[hs,bl];constructor
 .intro h;have hlt:n<c.l.length:=by simpa [len]using h
  have hlt2:n<t.procs.l.length:=by omega
  have hw:=bK n (by omega)
  rw[aK hlt,ζb,ζb,aK hlt2,ζb,iC,ζb,bl];constructor
  .intro hb;have hb:c.l[n]<0\/c.l[n]>t.procs.l[n].events.l.length:=by simpa [len]using hb
   refine(ah _).2 ((ah _).2 ⟨λh=>(by cases h),λhR=>?_⟩)
   have:=hR.2 n _ _ (ζd hlt) (ζd hlt2);omega
  .intro hb;have hb:0<=c.l[n]/\c.l[n]<=t.procs.l[n].events.l.length:=by simpa [len]using hb
   refine(ah _).2 ⟨⟨n+1,hw,by omega,λp a P hp ha hP=>?_⟩,by rw[hw];simp;omega⟩
   by_cases e:p=n
   .subst e;rw[ζd hlt]at ha;cases ha;rw[ζd hlt2]at hP;cases hP;exact hb
   .exact hI p a P (by omega) ha hP
 .intro h;have hge:c.l.length<=n:=by simpa [len]using h
  refine(ah _).2 ((ah _).2 ⟨λ_=>⟨hcl,λp a P ha hP=>hI p a P (by have:=(ζe.1 ha).1;omega) ha hP⟩,λ_=>rfl⟩)
theorem Pq {t:Trace} (hS:Small t) {c:Sl Int} (hcl:c.l.length=t.procs.l.length):Wp (jY t c) λb=>(b=true↔gb t c.l):=by
 unfold jY;rw[show (len c==len t.procs)=true from by simp[len,hcl],aP]
 exact D4 hS hcl λi=>rfl
theorem Db {t:Trace} (hV:VT t) {A:bh 200 aB} (hM:dG t (aR t) A) {p k:Nat} {e:Event} (hat:jD t p k e) (hk:e.kind=3):kM t 2 e.message=(ag A e.message).from_:=by
 obtain⟨y,h1,h2,h3⟩:=yS hV.formed hV.ok.Kz (dh.2 ⟨p,k,hat,rfl⟩:((⟨p,k+1⟩:aa),e)∈aR t) hk;have:=hM.snd _ h1 h2;simp only[h3]at this;exact this.symm
end Go.VE
namespace Go.VE
end Go.VE
namespace Go.VE
end Go.VE
namespace Go.VE
theorem HZ {t:Trace} (hS:Small t) (hV:VT t) {A:bh 200 aB} (hM:dG t (aR t) A) {c:Sl Int} (hR:gb t c.l):Wp (dI t c) λb=>(b=true↔jF t A c.l):=by
 have hn8:=hV.few;have hcl:=hR.1;unfold dI dI.W1;refine dB (λs:Int=>∃n:Nat,s=n/\n<=c.l.length/\∀(p k:Nat) (e:Event) (a:Int),p<n->jD t p k e->c.l[p]? = some a->(k:Int)<a->e.kind=3->∃b,c.l[(ag A e.message).from_.proc.toNat]? = some b/\(ag A e.message).from_.index<=b) (λs:Int=>c.l.length-s.toNat) ⟨0,rfl,Nat.zero_le _,λp k e a h=>absurd h (by omega)⟩ ?_
 rintro s ⟨n,rfl,hn,hI⟩;unfold dI.aA;rw[bl];constructor
 .intro h;have hlt:n<c.l.length:=by simpa [len]using h
  have hlt2:n<t.procs.l.length:=by omega
  have hPl:=(hS.2 _ (List.getElem_mem hlt2)).1;have hPg:=ζd hlt2;have hcg:=ζd hlt;obtain⟨r1,r2⟩:=hR.2 n _ _ hcg hPg;have hix:=aK hlt;generalize c.l[n]=a at *;generalize hPe:t.procs.l[n]=P at *;unfold dI.W2;refine dB (λs:Int=>∃m:Nat,s=m/\(m:Int)<=a/\∀(k:Nat) (e:Event),k<m->jD t n k e->e.kind=3->∃b,c.l[(ag A e.message).from_.proc.toNat]? = some b/\(ag A e.message).from_.index<=b) (λs:Int=>a.toNat-s.toNat) ⟨0,rfl,by simpa using r1,λk e h=>absurd h (by omega)⟩ ?_
  rintro s ⟨m,rfl,hm,hJ⟩;unfold dI.aX;rw[hix,ζb,bl];constructor
  .intro h;have hma:(m:Int)<a:=by simpa using h
   have hmP:m<P.events.l.length:=by omega
   have hwm:=bK m (by omega)
   have hmu:a.toNat-(IntKind.wrap .i64 ((m:Int)+1)).toNat<a.toNat-((m:Int)).toNat:=by rw[hwm];simp;omega
   have hat:jD t n m P.events.l[m]:=⟨P,hPg,ζd hmP⟩;have hixP:idx t.procs (n:Int)=some P:=by rw[qR];exact hPg
   have same:∀k e,jD t n k e->k=m->e=P.events.l[m]:=λk e ⟨Q,hQ,he⟩ hk=>by
    subst hk;rw[hPg]at hQ;cases hQ;rw[ζd hmP]at he;cases he;rfl
   unfold vm;rw[hixP,ζb,aK hmP,ζb,dV,bl];constructor
   .intro hk;have hk:P.events.l[m].kind=3:=by simpa using hk
    obtain⟨q,j,z,hz,z1,z2,z3,z4,z5⟩:=wS hV hM hat hk;obtain⟨Q,hQ,_⟩:=hz;have hql:q<c.l.length:=by have:=(ζe.1 hQ).1;omega
    rw[find_eq hS,Db hV hM hat hk,ζb,z5];simp only;rw[aK hql,ζb,ah,bl];constructor
    .intro hle;have hle:(j:Int)+1<=c.l[q]:=by simpa using hle
     refine(ah _).2 ⟨⟨m+1,hwm,by omega,λk e' hk' hat' he'=>?_⟩,hmu⟩
     by_cases ek:k=m
     .cases same k e' hat' ek;rw[z5];exact⟨c.l[q],by simp only[Int.toNat_natCast];exact ζd hql,by simp only;omega⟩
     .exact hJ k e' (by omega) hat' he'
    .intro hgt;have hgt:¬((j:Int)+1<=c.l[q]):=by simpa using hgt
     refine(ah _).2 ((ah _).2 ((ah _).2 ⟨λh=>(by cases h),λhC=>?_⟩))
     obtain⟨b,hb1,hb2⟩:=hC n m _ a hat hcg hma hk;rw[z5]at hb1 hb2;simp only[Int.toNat_natCast]at hb1 hb2;rw[ζd hql]at hb1;cases hb1;omega
   .intro hk;rw[ah,aP];refine(ah _).2 ⟨⟨m+1,hwm,by omega,λk e' hk' hat' he'=>?_⟩,hmu⟩
    by_cases ek:k=m
    .cases same k e' hat' ek;simp[he']at hk
    .exact hJ k e' (by omega) hat' he'
  .intro h;have hge:¬(m:Int)<a:=by simpa using h
   refine(ah _).2 ((ah _).2 ⟨⟨n+1,bK n (by omega),by omega,λp k e a' hp hat ha' hk hk3=>?_⟩,by rw[bK n (by omega)];simp;omega⟩)
   by_cases ep:p=n
   .subst ep;rw[hcg]at ha';cases ha';exact hJ k e (by omega) hat hk3
   .exact hI p k e a' (by omega) hat ha' hk hk3
 .intro h;have hge:c.l.length<=n:=by simpa [len]using h
  refine(ah _).2 ((ah _).2 ⟨λ_ p k e a hat ha hk hk3=>hI p k e a (by have:=(ζe.1 ha).1;omega) hat ha hk hk3,λ_=>rfl⟩)
theorem Code.one {t:Trace} {A:bh 200 aB} {c:List Int} {r s:Int} (h:Code t A c r) (g:Code t A c s):r=s:=by
 rcases h with⟨h,rfl⟩|⟨h1,h2,rfl⟩|⟨h1,h2,rfl⟩|⟨h1,h2,rfl⟩ <;> rcases g with⟨g,rfl⟩|⟨g1,g2,rfl⟩|⟨g1,g2,rfl⟩|⟨g1,g2,rfl⟩ <;> first|rfl|contradiction|exact absurd ‹gb t c›.1 ‹_›
end Go.VE
namespace Go.VE
theorem ki {σ ε ρ γ:Type} {step:σ->Option (Fw σ ε ρ)} {fx:ε->Option γ} {fr:ρ->Option γ} {P:γ->Prop} (n:Nat) (I:Nat->σ->Prop) {s:σ} (h0:I 0 s)
 (h:∀i s,i<n->I i s->Wp (step s) λw=>match w with|.n s'=>I (i+1) s'|.x e=>Wp (fx e) P|.r b=>Wp (fr b) P)
 (hn:∀s,I n s->Wp (step s) λw=>match w with|.n _=>False|.x e=>Wp (fx e) P|.r b=>Wp (fr b) P):Wp ((aQ step s).bind (Fw.elim fx fr)) P:=by
 have key:∀m i s,i+m=n->I i s->Wp ((aQ step s).bind (Fw.elim fx fr)) P:=by
  intro m
  induction m with
  | zero=>
   intro i s hi hI;obtain⟨w,hw,hr⟩:=hn s (by rw[<-hi];exact hI)
   rw[fI,hw]
   cases w with
   | n s'=>exact hr.elim
   | x e=>exact hr
   | r b=>exact hr
  | succ m ih=>
   intro i s hi hI;obtain⟨w,hw,hr⟩:=h i s (by omega) hI
   rw[fI,hw]
   cases w with
   | n s'=>exact ih (i+1) s' (by omega) hr
   | x e=>exact hr
   | r b=>exact hr
 exact key n 0 s (Nat.zero_add n) h0
theorem pQ:∀{c:List Int} {p:Nat} {a b:Int},c[p]? = some a->(c.set p b).sum=c.sum-a+b
 | [],_,_,_,h=>by simp at h
 | x::c,0,a,b,h=>by simp at h;subst h;simp;omega
 | x::c,p+1,a,b,h=>by
  have:=pQ (c:=c) (p:=p) (b:=b) (by simpa using h)
  simp only[List.set_cons_succ,List.sum_cons,this];omega
theorem tG:∀{c:List Int},(∀(p:Nat) a,c[p]? = some a->0<=a)->0<=c.sum
 | [],_=>by simp
 | x::c,h=>by
  have h1:=h 0 x rfl;have h2:=tG (c:=c) λp a ha=>h (p+1) a (by simpa using ha)
  simp only[List.sum_cons];omega
theorem Er:∀{c:List Int},(∀(p:Nat) a,c[p]? = some a->0<=a)->c.sum=0->∀(p:Nat) a,c[p]? = some a->a=0
 | [],_,_,p,a,ha=>by simp at ha
 | x::c,h,hs,p,a,ha=>by
  have h1:=h 0 x rfl;have hc:∀(p:Nat) a,c[p]? = some a->0<=a:=λp a ha=>h (p+1) a (by simpa using ha)
  have h2:=tG hc;simp only[List.sum_cons]at hs
  cases p with
  | zero=>simp at ha;omega
  | succ p=>exact Er hc (by omega) p a (by simpa using ha)
theorem G7:∀{c:List Int} {l:List Nat},c.length=l.length->(∀(i:Nat) a b,c[i]? = some a->l[i]? = some b->a<=(b:Nat))->c.sum<=(l.sum:Nat)
 | [],[],_,_=>by simp
 | x::c,y::l,hl,h=>by
  have h1:=h 0 x y rfl rfl;have h2:=G7 (c:=c) (l:=l) (by simpa using hl) λi a b ha hb=>h (i+1) a b (by simpa using ha) (by simpa using hb)
  simp only[List.sum_cons];omega
section
variable {t:Trace} {A:bh 200 aB} {c:List Int}
theorem gb.pos (h:gb t c) (p:Nat) (a:Int) (ha:c[p]? = some a):0<=a:=
 (h.2 p a _ ha (ζd (by have:=(ζe.1 ha).1;rw[<-h.1];exact this))).1
theorem gb.at_ (h:gb t c) {p:Nat} (hp:p<t.procs.l.length):∃a,c[p]? = some a:=⟨_,ζd (by rw[h.1];exact hp)⟩
theorem gb.sum (h:gb t c):0<=c.sum/\c.sum<=(pW t:Nat):=
 ⟨tG h.pos,G7 (by simp[h.1]) λi a b ha hb=>by
  rw[List.getElem?_map]at hb
  cases hP:t.procs.l[i]? with
  | none=>simp[hP]at hb
  | some P=>simp[hP]at hb;rw[<-hb];exact(h.2 i a P ha hP).2⟩
theorem gb.set (h:gb t c) {p:Nat} {b:Int} {P:bp} (hP:t.procs.l[p]? = some P) (h0:0<=b) (h1:b<=P.events.l.length):gb t (c.set p b):=by
 refine⟨by simp[h.1],λq a Q ha hQ=>?_⟩
 rw[List.getElem?_set]at ha;split at ha
 .rename_i e;subst e;split at ha
  .cases ha;rw[hP]at hQ;cases hQ;exact⟨h0,h1⟩
  .cases ha
 .exact h.2 q a Q ha hQ
def TA (t:Trace) (A:bh 200 aB) (c:List Int) (p:Nat):Prop:=∃P e a,t.procs.l[p]? = some P/\c[p]? = some a/\P.events.l[a.toNat]? = some e/\(e.kind=3->∃b,c[(ag A e.message).from_.proc.toNat]? = some b/\(ag A e.message).from_.index<=b)
theorem jD.one {p k:Nat} {e f:Event} (h:jD t p k e) (g:jD t p k f):e=f:=by
 obtain⟨P,a1,a2⟩:=h;obtain⟨Q,b1,b2⟩:=g;rw[a1]at b1;cases b1;rw[a2]at b2;cases b2;rfl
theorem jF.le (h:jF t A c) {p:Nat} {a b:Int} (ha:c[p]? = some a) (hab:a<=b) (hn:∀(k:Nat) e,jD t p k e->a<=k->(k:Int)<b->e.kind=3->∃b',(c.set p b)[(ag A e.message).from_.proc.toNat]? = some b'/\(ag A e.message).from_.index<=b'):jF t A (c.set p b):=by
 have hp:=(ζe.1 ha).1;have up:∀(q:Nat) x,c[q]? = some x->∃y,(c.set p b)[q]? = some y/\x<=y:=λq x hx=>by
  rw[List.getElem?_set]
  by_cases e:p=q
  .subst e;rw[ha]at hx;cases hx;exact⟨b,by simp[hp],hab⟩
  .exact⟨x,by simp[e,hx],Int.le_refl _⟩
 intro q k e x hat hx hk h3;rw[List.getElem?_set]at hx;have old:∀x,c[q]? = some x->(k:Int)<x->∃b',(c.set p b)[(ag A e.message).from_.proc.toNat]? = some b'/\(ag A e.message).from_.index<=b':=λx hx hk=>by
  obtain⟨y,hy,hy2⟩:=h q k e x hat hx hk h3;obtain⟨z,hz,hz2⟩:=up _ y hy;exact⟨z,hz,by omega⟩
 split at hx
 .rename_i ep;subst ep;simp[hp]at hx;subst hx
  by_cases hka:(k:Int)<a
  .exact old a ha hka
  .exact hn k e hat (by omega) hk h3
 .exact old x hx hk
theorem Ac (hV:VT t) (hM:dG t (aR t) A) {p k:Nat} {e:Event} (hat:jD t p k e) (h3:e.kind=3):∃q j:Nat,(ag A e.message).from_=⟨q,j+1⟩/\q≠p/\FK t ⟨q,j+1⟩ ⟨p,k+1⟩/\∃y,jD t q j y:=by
 obtain⟨q,j,y,hy,y1,y2,y3,y4,y5⟩:=wS hV hM hat h3;have hm:((⟨p,k+1⟩:aa),e)∈aR t:=dh.2 ⟨p,k,hat,rfl⟩;refine⟨q,j,y5,?_,⟨y,e,dh.2 ⟨q,j,hy,rfl⟩,hm,y1,h3,y2⟩,y,hy⟩;rcases hV.formed _ hm with h|⟨_,_,_,h,_⟩
 .simp only at h;omega
 .simp only at h;omega
theorem Cons.up (hV:VT t) (hM:dG t (aR t) A) (hC:Cons t A c) {p:Nat} {a:Int} {P:bp} (hP:t.procs.l[p]? = some P) (ha:c[p]? = some a) (hl:a<P.events.l.length):TA t A c p↔Cons t A (c.set p (a+1)):=by
 have h0:=hC.1.pos p a ha;have hp:=(ζe.1 ha).1;have han:((a.toNat:Nat):Int)=a:=by omega
 constructor
 .rintro⟨Q,e,x,hQ,hx,he,h3⟩;rw[hP]at hQ;cases hQ;rw[ha]at hx;cases hx;refine⟨hC.1.set hP (by omega) (by omega),hC.2.le ha (by omega) λk f hat hk1 hk2 hf=>?_⟩
  have hka:k=a.toNat:=by omega
  subst hka;cases hat.one ⟨P,hP,he⟩;obtain⟨b,hb,hb2⟩:=h3 hf;rw[List.getElem?_set]
  by_cases e2:p=(ag A e.message).from_.proc.toNat
  .rw[<-e2,ha]at hb;cases hb;exact⟨a+1,by simp[<-e2,hp],by omega⟩
  .exact⟨b,by rw[if_neg e2];exact hb,hb2⟩
 .intro h;have hel:a.toNat<P.events.l.length:=by omega
  refine⟨P,P.events.l[a.toNat],a,hP,ha,ζd hel,λh3=>?_⟩
  obtain⟨b,hb,hb2⟩:=h.2 p a.toNat _ (a+1) ⟨P,hP,ζd hel⟩ (by simp[hp]) (by omega) h3
  rw[List.getElem?_set]at hb;split at hb
  .rename_i e2;obtain⟨q,j,f1,f2,_⟩:=Ac hV hM ⟨P,hP,ζd hel⟩ h3;rw[f1]at e2;exact absurd e2.symm (by simpa using f2)
  .exact⟨b,hb,hb2⟩
noncomputable def BS (t:Trace) (x:aa):Nat:=by
 classical
 exact(aR t).countP λz=>decide (Way t z.1 x)
theorem Hj (hV:VT t) {x y:aa} (h:Way t x y):BS t x<BS t y:=by
 classical
 unfold BS;refine yu (λz _ hz=>?_) ?_
 .have hz:Way t z.1 x:=by simpa using hz
  simpa using hz.trans h
 .obtain⟨e,he⟩:=h.l;exact⟨(x,e),he,by simpa using λk=>hV.ok.acyc ⟨x,k⟩,by simpa using h⟩
theorem Ht (x:aa):BS t x<=(aR t).length:=by
 classical
 unfold BS;exact List.countP_le_length
theorem Vd.of {p k:Nat} {e:Event} (h:jD t p k e):Vd t ⟨p,k+1⟩:=⟨e,dh.2 ⟨p,k,h,rfl⟩⟩
theorem E_ {p:Nat} {P:bp} (hP:t.procs.l[p]? = some P):∀(d k:Nat),k+d+1<P.events.l.length->Way t ⟨p,k+1⟩ ⟨p,((k+d+1:Nat):Int)+1⟩
 | 0,k,h=>.single ⟨Vd.of ⟨P,hP,ζd (by omega)⟩,Vd.of ⟨P,hP,ζd h⟩,.inl (by simp)⟩
 | d+1,k,h=>(E_ hP d k (by omega)).tail ⟨Vd.of ⟨P,hP,ζd (show k+d+1<_ by omega)⟩,Vd.of ⟨P,hP,ζd h⟩,.inl (by simp;omega)⟩
theorem Ra {q k:Nat} {b:Int} {Q:bp} {x:aa} (hQ:t.procs.l[q]? = some Q) (h:Way t x ⟨q,k+1⟩) (h1:(k:Int)<b) (h2:b<=Q.events.l.length):Way t x ⟨q,b⟩:=by
 by_cases e:b=k+1
 .rw[e];exact h
 .have:=E_ hQ (b.toNat-k-2) k (by omega)
  rw[show (((k+(b.toNat-k-2)+1:Nat):Int)+1)=b from by omega]at this
  exact h.trans this
theorem Cons.GM (hV:VT t) (hM:dG t (aR t) A) (hC:Cons t A c) {p:Nat} {a:Int} (ha:c[p]? = some a) (h0:0<a):Cons t A (c.set p (a-1))\/∃(q:Nat) (b:Int),c[q]? = some b/\0<b/\Way t ⟨p,a⟩ ⟨q,b⟩:=by
 have hp:=(ζe.1 ha).1;have hP:=ζd (show p<t.procs.l.length by rw[<-hC.1.1];exact hp)
 have hr:=hC.1.2 p a _ ha hP;refine Classical.byContradiction λhno=>hno (.inl ⟨hC.1.set hP (by omega) (by omega),λq k e x hat hx hk h3=>?_⟩)
 obtain⟨x0,hx0,hxx⟩:∃x0,c[q]? = some x0/\x<=x0:=by
  rw[List.getElem?_set]at hx;split at hx
  .rename_i e2;subst e2;simp[hp]at hx;exact⟨a,ha,by omega⟩
  .exact⟨x,hx,Int.le_refl _⟩
 obtain⟨y,hy,hy2⟩:=hC.2 q k e x0 hat hx0 (by omega) h3
 obtain⟨r,j,f1,f2,f3,_⟩:=Ac hV hM hat h3;rw[f1]at hy hy2 ⊢;simp only[Int.toNat_natCast]at hy hy2 ⊢;rw[List.getElem?_set]
 by_cases e2:p=r
 .subst e2;rw[ha]at hy;cases hy;refine⟨a-1,by simp[hp],?_⟩
  refine Classical.byContradiction λhj=>hno (.inr ⟨q,x0,hx0,by omega,?_⟩)
  have:a=(j:Int)+1:=by omega
  subst this;obtain⟨Q,hQ,_⟩:=hat;have hrq:=hC.1.2 q x0 Q hx0 hQ;obtain⟨ye,fe,m1,m2,m3⟩:=f3;exact Ra hQ (.single ⟨⟨ye,m1⟩,⟨fe,m2⟩,.inr ⟨ye,fe,m1,m2,m3⟩⟩) (by omega) hrq.2
 .exact⟨y,by rw[if_neg e2];exact hy,hy2⟩
theorem Cons.RL (hV:VT t) (hM:dG t (aR t) A) (hC:Cons t A c):∀(n p:Nat) (a:Int),c[p]? = some a->0<a->(aR t).length-BS t ⟨p,a⟩<=n->∃(q:Nat) (b:Int),c[q]? = some b/\0<b/\Cons t A (c.set q (b-1)):=by
 intro n
 induction n with
 | zero=>
  intro p a ha h0 hn;rcases hC.GM hV hM ha h0 with h|⟨q,b,_,_,hw⟩
  .exact⟨p,a,ha,h0,h⟩
  .have:=Hj hV hw;have:=Ht (t:=t) ⟨q,b⟩;omega
 | succ n ih=>
  intro p a ha h0 hn;rcases hC.GM hV hM ha h0 with h|⟨q,b,hb,hb0,hw⟩
  .exact⟨p,a,ha,h0,h⟩
  .have:=Hj hV hw;have:=Ht (t:=t) ⟨q,b⟩;exact ih q b hb hb0 (by omega)
theorem Cons.down (hV:VT t) (hM:dG t (aR t) A) (hC:Cons t A c) (hs:0<c.sum):∃(q:Nat) (b:Int),c[q]? = some b/\0<b/\Cons t A (c.set q (b-1)):=by
 obtain⟨p,a,ha,h0⟩:∃(p:Nat) (a:Int),c[p]? = some a/\0<a:=by
  refine Classical.byContradiction λhno=>?_
  have hz:∀a∈c,a=0:=λa ha=>by
   obtain⟨p,hp⟩:=List.mem_iff_getElem?.1 ha;have:=hC.1.pos p a hp;exact Classical.byContradiction λhne=>hno ⟨p,a,hp,by omega⟩
  have:c.sum=0:=by
   clear hC hs hno
   induction c with
   | nil=>rfl
   | cons x c ih=>simp[hz x (List.mem_cons_self ..),ih λa ha=>hz a (List.mem_cons_of_mem _ ha)]
  omega
 exact hC.RL hV hM _ p a ha h0 (Nat.le_refl _)
theorem Cons.C_ (hV:VT t) (hM:dG t (aR t) A):∀(d:Nat) {c:List Int} {k:Nat},Cons t A c->c.sum=((k+d:Nat):Int)->∃c',Cons t A c'/\c'.sum=(k:Int)
 | 0,c,k,hC,hs=>⟨c,hC,by simpa using hs⟩
 | d+1,c,k,hC,hs=>by
  obtain⟨q,b,hb,hb0,hC2⟩:=hC.down hV hM (by omega)
  exact Cons.C_ hV hM d hC2 (by rw[pQ hb];omega)
end
end Go.VE
namespace Go.VE
theorem jN {α:Type} {s:Sl α} {n:Nat} (h:n<s.l.length):decide ((n:Int)<len s)=true:=by simp[len];omega
theorem jM {α:Type} {s:Sl α}:decide ((s.l.length:Int)<len s)=false:=by simp[len]
theorem N6 {α:Type} {s x:Sl α} (h:s.l.length+x.l.length<=2147483648):∃r,s9 s x=some r/\r.l=s.l++x.l:=by
 unfold s9
 by_cases e:x.l=[]
 .rw[if_pos e];exact⟨s,rfl,by rw[e,List.append_nil]⟩
 .rw[if_neg e,if_pos h];exact⟨_,rfl,rfl⟩
theorem tZ {α:Type} {s:Sl α} {x:α} (h:s.l.length<2147483648):∃r,kf s x=some r/\r.l=s.l++[x]:=by
 unfold kf;rw[if_pos (by omega)];exact⟨_,rfl,rfl⟩
theorem AI {α:Type} {s:Sl α} {p:Nat} (h:p<s.l.length):Sl.mm s (p:Int)=some p:=by
 unfold Sl.mm;rw[if_pos ⟨by omega,by simpa using h⟩];rfl
theorem put_eq {α:Type} {s:Sl α} {p:Nat} {x:α} (h:p<s.l.length):∃r,Sl.put s p x=some r/\r.l=s.l.set p x:=by
 unfold Sl.put;rw[if_pos h];exact⟨_,rfl,by cases s <;> first|rfl|(simp[Sl.l]at h)⟩
section
variable {t:Trace} {A:bh 200 aB}
def TP (t:Trace) (A:bh 200 aB) (c:List Int) (n:Nat):Prop:=∀(p k:Nat) (e:Event) (a:Int),p<n->jD t p k e->c[p]? = some a->(k:Int)<a->e.kind=3->∃b,c[(ag A e.message).from_.proc.toNat]? = some b/\(ag A e.message).from_.index<=b
theorem QZ (hS:Small t) (hV:VT t) (hM:dG t (aR t) A) {c:Sl Int} (hR:gb t c.l):Wp (cC t c) λb=>(b=true↔jF t A c.l):=by
 have hcl:=hR.1;have hn8:=hV.few;unfold cC cC.W1;refine ki c.l.length (λn s=>s=(n:Int)/\TP t A c.l n) ⟨rfl,λp k e a h=>absurd h (by omega)⟩ ?_ ?_
 .rintro n _ hlt ⟨rfl,hI⟩;unfold cC.aA;rw[jN hlt,aP];have hlt2:n<t.procs.l.length:=by omega
  have hPl:=(hS.2 _ (List.getElem_mem hlt2)).1;have hPg:=ζd hlt2;have hcg:=ζd hlt;obtain⟨r1,r2⟩:=hR.2 n _ _ hcg hPg;have hix:=aK hlt;generalize c.l[n]=a at *;generalize t.procs.l[n]=P at *;unfold cC.W2;refine ki a.toNat (λm s=>s=(m:Int)/\∀(k:Nat) (e:Event),k<m->jD t n k e->e.kind=3->∃b,c.l[(ag A e.message).from_.proc.toNat]? = some b/\(ag A e.message).from_.index<=b) ⟨rfl,λk e h=>absurd h (by omega)⟩ ?_ ?_
  .rintro m _ hm ⟨rfl,hJ⟩;unfold cC.aX;have hmP:m<P.events.l.length:=by omega
   have hat:jD t n m P.events.l[m]:=⟨P,hPg,ζd hmP⟩;rw[hix,ζb,show decide ((m:Int)<a)=true from by simp;omega,aP,qR,hPg,ζb,aK hmP,ζb,bK m (by omega)]
   generalize P.events.l[m]=e at *;have more:(e.kind=3->∃b,c.l[(ag A e.message).from_.proc.toNat]? = some b/\(ag A e.message).from_.index<=b)->∀(k:Nat) (e:Event),k<m+1->jD t n k e->e.kind=3->∃b,c.l[(ag A e.message).from_.proc.toNat]? = some b/\(ag A e.message).from_.index<=b:=λh k f hk hf h3=>by
    by_cases ek:k=m
    .subst ek;cases hat.one hf;exact h h3
    .exact hJ k f (by omega) hf h3
   rw[bl];refine⟨λh3=>?_,λh3=>(ah _).2 ⟨rfl,more λk=>by simp[k]at h3⟩⟩
   have h3:e.kind=3:=by simpa using h3
   obtain⟨q,j,f1,_,_,y,Q,hQ,_⟩:=Ac hV hM hat h3;have hql:q<c.l.length:=by have:=(ζe.1 hQ).1;omega
   rw[find_eq hS,Db hV hM hat h3,ζb,f1];simp only;rw[aK hql,ζb,bl];refine⟨λhgt=>(ah _).2 ((ah _).2 ((ah _).2 ⟨λh=>(by cases h),λhC=>?_⟩)),λhle=>(ah _).2 ⟨rfl,more λ_=>?_⟩⟩
   .obtain⟨b,hb1,hb2⟩:=hC n m e a hat hcg (by omega) h3
    rw[f1]at hb1 hb2;simp only[Int.toNat_natCast,ζd hql,ζa]at hb1 hb2;simp only[decide_eq_true_eq]at hgt;omega
   .rw[f1];exact⟨c.l[q],by simp only[Int.toNat_natCast];exact ζd hql,by simp at hle ⊢;omega⟩
  .rintro _ ⟨rfl,hJ⟩;unfold cC.aX;rw[hix,ζb,show decide ((a.toNat:Int)<a)=false from by simp;omega,bf]
   refine(ah _).2 ((ah _).2 ⟨bK n (by omega),λp k e x hp hat hx hk h3=>?_⟩)
   by_cases e2:p=n
   .subst e2;rw[hcg]at hx;cases hx;exact hJ k e (by omega) hat h3
   .exact hI p k e x (by omega) hat hx hk h3
 .rintro _ ⟨rfl,hI⟩;unfold cC.aA;rw[jM,bf];exact(ah _).2 ((ah _).2 ⟨λ_ p k e a hat hx=>hI p k e a (ζe.1 hx).1 hat hx,λ_=>rfl⟩)
theorem NK (hS:Small t) (hV:VT t) (hM:dG t (aR t) A) {c:Sl Int} (hcl:c.l.length=t.procs.l.length):Wp (nR t c) λb=>(b=true↔Cons t A c.l):=by
 unfold nR;rw[dV];refine(Pq hS hcl).mono λb hb=>?_
 rw[dV,bl];constructor
 .intro h;have hR:=hb.1 h;rw[dV];refine(QZ hS hV hM hR).mono λb2 hb2=>?_
  rw[ah,ah];exact hb2.trans ⟨λh=>⟨hR,h⟩,λh=>h.2⟩
 .intro h;rw[ah,ah];exact⟨λh=>(by cases h),λhC=>absurd (hb.2 hC.1) (by simp[h])⟩
theorem step_eq {c:Sl Int} {p:Nat} {a:Int} (ha:c.l[p]? = some a) (hl:c.l.length<=1073741824) (h0:0<=a) (h1:a<1073741824):∃d:Sl Int,o5 c p=some d/\d.l=c.l.set p (a+1):=by
 have hp:=(ζe.1 ha).1;unfold o5;obtain⟨r,h2,h3⟩:=N6 (s:=Sl.row []) (x:=c) (show 0+c.l.length<=_ by omega)
 have h3:r.l=c.l:=h3;rw[h2,ζb,AI (by rw[h3];exact hp),ζb]
 unfold Sl.get;rw[h3,ha,ζb,ζb,qP _ (by omega) (by omega)]
 obtain⟨d,h4,h5⟩:=put_eq (s:=r) (p:=p) (x:=a+1) (by rw[h3];exact hp)
 rw[h4];exact⟨d,rfl,by rw[h5,h3]⟩
end
end Go.VE
namespace Go.VE
def ins (s:Sl (Sl Int)):List (List Int):=s.l.map Sl.l
end Go.VE
namespace Go.VE
def kO (t:Trace) (A:bh 200 aB) (c d:List Int):Prop:=∃(p:Nat) (a:Int),c[p]? = some a/\d=c.set p (a+1)/\Cons t A d
section
variable {t:Trace} {A:bh 200 aB}
theorem oC {s:Sl (Sl Int)} {d:List Int}:d∈ins s↔∃x∈s.l,x.l=d:=by unfold ins;exact List.mem_map
theorem N8 {r s:Sl (Sl Int)} {x:Sl Int} (h:r.l=s.l++[x]) {d:List Int}:d∈ins r↔d∈ins s\/d=x.l:=by
 unfold ins;rw[h];simp
theorem OI (hS:Small t) (hV:VT t) (hM:dG t (aR t) A) {c:Sl Int} (hC:Cons t A c.l):Wp (gR t c) λr=>r.l.length<=8/\∀d,d∈ins r↔kO t A c.l d:=by
 have hcl:=hC.1.1;have hn8:=hV.few;unfold gR gR.W1;refine ki c.l.length (λn s=>s.2=(n:Int)/\s.1.l.length<=n/\∀d,d∈ins s.1↔∃(p:Nat) (a:Int),p<n/\c.l[p]? = some a/\d=c.l.set p (a+1)/\Cons t A d) ⟨rfl,Nat.le_refl _,λd=>⟨λh=>by simp[ins,Sl.l]at h,λ⟨p,a,h,_⟩=>absurd h (by omega)⟩⟩ ?_ ?_
 .rintro n ⟨out,_⟩ hlt ⟨h,hlen,hI⟩;simp only at h hlen hI;subst h;have hlt2:n<t.procs.l.length:=by omega
  have hPl:=(hS.2 _ (List.getElem_mem hlt2)).1;have hcg:=ζd hlt;have hr:=hC.1.2 n _ _ hcg (ζd hlt2);unfold gR.aA;rw[jN hlt,aP,aK hlt,ζb,aK hlt2,ζb,bK n (by omega)]
  generalize c.l[n]=a at *;have keep:¬Cons t A (c.l.set n (a+1))->∀d,d∈ins out↔∃(p:Nat) (a:Int),p<n+1/\c.l[p]? = some a/\d=c.l.set p (a+1)/\Cons t A d:=λhno d=>by
   rw[hI];refine⟨λ⟨p,b,h,k⟩=>⟨p,b,by omega,k⟩,λ⟨p,b,h,k1,k2,k3⟩=>⟨p,b,?_,k1,k2,k3⟩⟩
   refine Classical.byContradiction λhp=>hno ?_
   have:p=n:=by omega
   subst this;rw[hcg]at k1;cases k1;rw[<-k2];exact k3
  by_cases hlt3:a<t.procs.l[n].events.l.length
  .obtain⟨d,hd,hdl⟩:=step_eq (c:=c) hcg (by omega) hr.1 (by omega)
   rw[show decide (a<(len t.procs.l[n].events))=true from by simpa [len]using hlt3,aP,hd,ζb,dV,dV]
   refine(NK hS hV hM (c:=d) (by rw[hdl,List.length_set];exact hcl)).mono λb hb=>?_
   rw[hdl]at hb;rw[ah,bl];constructor
   .intro ht;obtain⟨r,hr1,hr2⟩:=tZ (s:=out) (x:=d) (by omega)
    rw[ζb,hr1,ζb,ah];refine⟨rfl,by rw[hr2];simp;omega,λe=>?_⟩
    rw[N8 hr2,hI,hdl];constructor
    .rintro (⟨p,b,h,k⟩|h)
     .exact⟨p,b,by omega,k⟩
     .exact⟨n,a,by omega,hcg,h,by rw[h];exact hb.1 ht⟩
    .rintro⟨p,b,h,k1,k2,k3⟩
     by_cases e2:p=n
     .subst e2;rw[hcg]at k1;cases k1;exact .inr k2
     .exact .inl ⟨p,b,by omega,k1,k2,k3⟩
   .intro hf;exact(ah _).2 ⟨rfl,Nat.le_succ_of_le hlen,keep λh=>by rw[hb.2 h]at hf;cases hf⟩
  .rw[show decide (a<(len t.procs.l[n].events))=false from by simpa [len]using hlt3,bf,ζb,bf,ah]
   refine⟨rfl,Nat.le_succ_of_le hlen,keep λh=>?_⟩
   have:=h.1.2 n (a+1) _ (by simp[List.getElem?_set,hlt]) (ζd hlt2)
   omega
 .rintro⟨out,_⟩ ⟨h,hlen,hI⟩;simp only at h hlen hI;subst h;unfold gR.aA;rw[jM,bf,ah];refine(ah _).2 ⟨show out.l.length<=8 by omega,λd=>(hI d).trans ⟨λ⟨p,a,_,h⟩=>⟨p,a,h⟩,λ⟨p,a,h⟩=>⟨p,a,(ζe.1 h.1).1,h⟩⟩⟩
def Nb (t:Trace) (A:bh 200 aB) (k:Nat) (s:Sl (Sl Int)):Prop:=∀d,d∈ins s↔Cons t A d/\d.sum=(k:Int)
theorem kO.iff (hV:VT t) (hM:dG t (aR t) A) {k:Nat} {d:List Int}:(∃c,(Cons t A c/\c.sum=(k:Int))/\kO t A c d)↔Cons t A d/\d.sum=((k+1:Nat):Int):=by
 constructor
 .rintro⟨c,⟨hC,hs⟩,p,a,ha,rfl,hD⟩;exact⟨hD,by rw[pQ ha];omega⟩
 .rintro⟨hD,hs⟩;obtain⟨q,b,hb,hb0,hC⟩:=hD.down hV hM (by omega)
  have hq:=(ζe.1 hb).1;refine⟨_,⟨hC,by rw[pQ hb];omega⟩,q,b-1,by simp[hq],?_,hD⟩
  rw[List.set_set,show b-1+1=b from by omega]
  refine List.ext_getElem? λi=>?_
  rw[List.getElem?_set];split
  .rename_i e;subst e;simp[hq,hb];exact(ζe.1 hb).2.symm▸rfl
  .rfl
theorem Nb.none (hV:VT t) (hM:dG t (aR t) A) {k:Nat} {s:Sl (Sl Int)} (h:Nb t A k s) (he:s.l.length=0) {d:List Int} (hD:Cons t A d):d.sum<(k:Int):=by
 refine Classical.byContradiction λhge=>?_
 have h0:=tG hD.1.pos;obtain⟨c,hC,hs⟩:=Cons.C_ hV hM (d.sum.toNat-k) (k:=k) hD (by omega)
 have:=(h c).2 ⟨hC,hs⟩;obtain⟨x,hx,_⟩:=oC.1 this;have:=List.length_pos_of_mem hx;omega
theorem Nb.last {s:Sl (Sl Int)} (h:Nb t A (pW t+1) s):s.l.length=0:=by
 refine Classical.byContradiction λhne=>?_
 have hx:=List.getElem_mem (show 0<s.l.length by omega)
 have:=(h s.l[0].l).1 (oC.2 ⟨_,hx,rfl⟩);have:=this.1.1.sum;omega
end
end Go.VE
namespace Go.VE
end Go.VE
namespace Go.VE
theorem Lc {a b:Sl Int} (hl:a.l.length<1073741824):cN a b=some (decide (a.l=b.l)):=by
 refine Wp.eq ?_;unfold cN;rw[bl];refine⟨λh=>?_,λh=>(ah _).2 ?_⟩
 .have h:(a.l.length:Int)=b.l.length:=by simpa [len]using h
  have h:a.l.length=b.l.length:=by omega
  unfold cN.W1;refine ki a.l.length (λn s=>s=(n:Int)/\∀i,i<n->a.l[i]? = b.l[i]?) ⟨rfl,λi h=>absurd h (by omega)⟩ ?_ ?_
  .rintro n _ hlt ⟨rfl,hI⟩;unfold cN.aA;have hb:n<b.l.length:=by omega
   rw[show decide ((n:Int)<len a)=true from jN hlt,aP,aK hlt,ζb,aK hb,ζb,bl];refine⟨λhe=>(ah _).2 ⟨bK n (by omega),λi hi=>?_⟩,λhe=>(ah _).2 ((ah _).2 ?_)⟩
   .by_cases e:i=n
    .subst e;rw[ζd hlt,ζd hb];simpa using he
    .exact hI i (by omega)
   .refine(decide_eq_false λe=>?_).symm
    have h1:a.l[n]? = b.l[n]? := by rw[e]
    rw[ζd hlt,ζd hb]at h1;simp at he h1;exact he h1
  .rintro _ ⟨rfl,hI⟩;unfold cN.aA;rw[jM,bf,ah];refine(ah _).2 (decide_eq_true (List.ext_getElem? λi=>?_)).symm
   by_cases hi:i<a.l.length
   .exact hI i hi
   .rw[List.getElem?_eq_none (by omega),List.getElem?_eq_none (by omega)]
 .refine(decide_eq_false λe=>?_).symm
  simp[len,e]at h
end Go.VE
namespace Go.VE
section
variable {t:Trace} {A:bh 200 aB}
end
end Go.VE
namespace Go.VE
theorem rJ {c:Sl Int} (hl:c.l.length<=1073741824) (h0:0<c.l.length):∃d,(eW c).bind Sl.whole=some d/\d.l=c.l:=by
 unfold eW;have key:((s9 (Sl.row []:Sl Int) c).bind λx=>some x).bind Sl.whole=some (.row ([]++c.l)):=by
  unfold s9;rw[if_neg (λh=>by rw[h]at h0;simp at h0),if_pos (show (Sl.row ([]:List Int)).l.length+c.l.length<=2147483648 from show 0+c.l.length<=_ by omega)];rfl
 cases c with
 | nil=>simp[Sl.l]at h0
 | emp=>simp[Sl.l]at h0
 | part l=>exact⟨_,key,rfl⟩
 | row l=>exact⟨_,key,rfl⟩
section
variable {t:Trace} {A:bh 200 aB}
structure Uc (t:Trace) (A:bh 200 aB) (k:Nat) (o:Sl (Sl (Sl Int))):Prop where
 nd:(o.l.flatMap ins).Nodup
 mem:∀d,d∈o.l.flatMap ins↔Cons t A d/\d.sum<(k:Int)
end
end Go.VE
namespace Go.VE
def Hw (c d:List Int):Prop:=∀(p:Nat) (a b:Int),c[p]? = some a->d[p]? = some b->a<=b
section
variable {t:Trace} {A:bh 200 aB}
theorem Lu (hS:Small t) (hv:bX t=some true) (hV:VT t) (hM:dG t (aR t) A) {c:Sl Int} (hR:gb t c.l) :
 Wp (uW t c) λr=>r.2=0/\Cons t A r.1.l/\Hw c.l r.1.l/\∀d,Cons t A d->Hw c.l d->Hw r.1.l d:=by
 have hn8:=hV.few;have hone:=hV.ok.one;have hcl:=hR.1;unfold uW iM sW;rw[hv,ζb,aP,nV (f:=λz=>(iL z t).getD false) (λz _=>Ey.ok ((ah _).2 trivial)) (by simp[Sl.l]),ζb,ζb,ζb]
 have hany:(!((Sl.row [c]:Sl (Sl Int)).l.any λz=>(iL z t).getD false))=true:=by
  simp[Sl.l,iL,len,hcl] <;> exact congrArg Int.ofNat hcl
 rw[hany,aP,dV,dV];refine(Bt hS hcl).mono λb hb=>?_
 rw[hb.2 hR,aP];obtain⟨d0,h1,h2⟩:=rJ (c:=c) (by omega) (by omega)
 rw[h1,ζb];unfold iM.W1;refine dB (λs:Sl Int=>gb t s.l/\Hw c.l s.l/\∀d,Cons t A d->Hw c.l d->Hw s.l d) (λs:Sl Int=>((pW t:Int)-s.l.sum).toNat) ⟨by rw[h2];exact hR,λp a b ha hb=>by rw[h2,ha]at hb;cases hb;exact Int.le_refl _,λd _ h=>by rw[h2];exact h⟩ ?_
 rintro s ⟨i1,i2,i3⟩;unfold iM.aA;rw[dV];refine(G0 hS hv hV hM i1).mono λr hr=>?_
 rw[bl];constructor
 .intro ht;obtain⟨p,k,e,a,q,j,y,b,g1,g2,g3,g4,g5,g6,g7,g8,g9⟩:=hr.2 ht;have hql:=(ζe.1 g8).1;have hset:Sl.setAt s r.1.proc r.1.index=some (s.re (s.l.set q ((j:Int)+1))):=by
   unfold Sl.setAt;rw[g6,if_pos ⟨by simp,by simpa using hql⟩];rfl
  have hre:(s.re (s.l.set q ((j:Int)+1))).l=s.l.set q ((j:Int)+1):=by cases s <;> first|rfl|(simp[Sl.l]at hql)
  simp only;rw[hset,ζb,ah];obtain⟨Q,hQ,hy⟩:=g7;have hyl:=(ζe.1 hy).1;have i1':=i1.set hQ (b:=(j:Int)+1) (by omega) (by omega)
  refine⟨⟨by rw[hre];exact i1',?_,?_⟩,?_⟩
  .rw[hre];intro p' a' b' ha' hb';rw[List.getElem?_set]at hb';split at hb'
   .rename_i e2;subst e2;simp[hql]at hb';have:=i2 q a' b ha' g8;omega
   .exact i2 p' a' b' ha' hb'
  .rw[hre];intro d hD hcd p' a' b' ha' hb';rw[List.getElem?_set]at ha';split at ha'
   .rename_i e2;subst e2;simp[hql]at ha';obtain⟨x,hx⟩:=hD.1.at_ (show p<t.procs.l.length by have:=(ζe.1 g2).1;rw[<-i1.1];exact this)
    have:=i3 d hD hcd p a x g2 hx;obtain⟨z,hz,hz2⟩:=hD.2 p k e x g1 hx (by omega) g4
    rw[g5,g6]at hz hz2;simp only[Int.toNat_natCast]at hz hz2;rw[hb']at hz;cases hz;omega
   .exact i3 d hD hcd p' a' b' ha' hb'
  .show ((pW t:Int)-(s.re (s.l.set q ((j:Int)+1))).l.sum).toNat<((pW t:Int)-s.l.sum).toNat;have h3:=i1'.sum;rw[pQ g8]at h3;rw[hre,pQ g8];omega
 .intro hf;exact(ah _).2 ((ah _).2 ((ah _).2 ⟨rfl,⟨i1,hr.1 hf⟩,i2,i3⟩))
end
end Go.VE
namespace Go.VE
section
variable {t:Trace} {A:bh 200 aB}
end
end Go.VE
namespace Go.VE
section
variable {t:Trace} {A:bh 200 aB}
end
end Go.VE
namespace Go.VE
section
variable {t:Trace} {A:bh 200 aB}
end
end Go.VE
namespace Go.VE
abbrev bq (m:Option Bool) (P:Prop):Prop:=Wp m λb=>(b=true↔P)
theorem bq.eq {m:Option Bool} {P:Prop} (h:bq m P):∃b,m=some b/\(b=true↔P):=h
theorem bq.iff {m:Option Bool} {P Q:Prop} (h:bq m P) (e:P↔Q):bq m Q:=h.mono λb hb=>hb.trans e
theorem fG {b:Bool} {P:Prop} (h:b=true↔P):bq (some b) P:=(ah _).2 h
theorem bq.some {m:Option Bool} {P:Prop} (h:bq m P):bq (m.bind λx=>Option.some x) P:=by
 obtain⟨b,hb,h⟩:=h;rw[hb];exact fG h
theorem bq.same {m n:Option Bool} {P:Prop} (h:bq m P) (k:bq n P):∃b,m=Option.some b/\n=Option.some b/\(b=true↔P):=by
 obtain⟨b,hb,h⟩:=h;obtain⟨d,hd,k⟩:=k;have:b=d:=by rw[Bool.eq_iff_iff,h,k]
 subst this;exact⟨b,hb,hd,h⟩
theorem bq.and {m n:Option Bool} {P Q:Prop} (h:bq m P) (k:P->bq n Q) {f:Bool->Option Bool} (hf:∀b,f b=an b (n.bind λx=>Option.some x) (Option.some false)):bq (m.bind f) (P/\Q):=by
 obtain⟨b,hb,h⟩:=h;rw[hb,ζb,hf]
 cases b with
 | true=>exact((k (h.1 rfl)).some).iff ⟨λq=>⟨h.1 rfl,q⟩,λq=>q.2⟩
 | false=>exact fG ⟨λe=>(nomatch e),λq=>(h.2 q.1).symm▸rfl⟩
theorem bq.IY {m:Option Bool} {b:Bool} {P Q:Prop} (h:bq m P) (k:P->(b=true↔Q)) {f:Bool->Option Bool} (hf:∀x,f x=an x (Option.some b) (Option.some false)):bq (m.bind f) (P/\Q):=by
 obtain⟨x,hx,h⟩:=h;rw[hx,ζb,hf]
 cases x with
 | true=>exact fG ((k (h.1 rfl)).trans ⟨λq=>⟨h.1 rfl,q⟩,λq=>q.2⟩)
 | false=>exact fG ⟨λe=>(nomatch e),λq=>(h.2 q.1).symm▸rfl⟩
theorem bq.NH {m n:Option Bool} {P Q:Prop} (h:bq m (¬P)) (k:P->bq n Q) {f:Bool->Option Bool} (hf:∀b,f b=an b (Option.some true) (n.bind λx=>Option.some (!x))):bq (m.bind f) (¬(P/\Q)):=by
 obtain⟨b,hb,h⟩:=h;rw[hb,ζb,hf]
 cases b with
 | true=>exact fG ⟨λ_ q=>(h.1 rfl) q.1,λ_=>rfl⟩
 | false=>
  have hp:P:=Classical.byContradiction λhn=>(nomatch h.2 hn)
  obtain⟨d,hd,k⟩:=k hp;rw[bf,hd,ζb];refine fG ?_
  cases d with
  | true=>exact⟨λe=>(nomatch e),λq=>absurd ⟨hp,k.1 rfl⟩ q⟩
  | false=>exact⟨λ_ q=>(nomatch k.2 q.2),λ_=>rfl⟩
theorem bq.KD {m:Option Bool} {b:Bool} {P Q:Prop} (h:bq m (¬P)) (k:P->(b=true↔Q)) {f:Bool->Option Bool} (hf:∀x,f x=an x (Option.some true) (Option.some (!b))):bq (m.bind f) (¬(P/\Q)):=by
 obtain⟨x,hx,h⟩:=h;rw[hx,ζb,hf]
 cases x with
 | true=>exact fG ⟨λ_ q=>(h.1 rfl) q.1,λ_=>rfl⟩
 | false=>
  have hp:P:=Classical.byContradiction λhn=>(nomatch h.2 hn)
  rw[bf];refine fG ?_
  cases b with
  | true=>exact⟨λe=>(nomatch e),λq=>absurd ⟨hp,(k hp).1 rfl⟩ q⟩
  | false=>exact⟨λ_ q=>(nomatch (k hp).2 q.2),λ_=>rfl⟩
theorem bq.Lm {m n:Option Bool} {P Q:Prop} (h:bq m P) (k:P->bq n Q) {f:Bool->Option Bool} (hf:∀b,f b=an b (n.bind λx=>Option.some (!x)) (Option.some true)):bq (m.bind f) (¬(P/\Q)):=by
 obtain⟨b,hb,h⟩:=h;rw[hb,ζb,hf]
 cases b with
 | true=>
  obtain⟨d,hd,k⟩:=k (h.1 rfl);rw[aP,hd,ζb];refine fG ?_
  cases d with
  | true=>exact⟨λe=>(nomatch e),λq=>absurd ⟨h.1 rfl,k.1 rfl⟩ q⟩
  | false=>exact⟨λ_ q=>(nomatch k.2 q.2),λ_=>rfl⟩
 | false=>exact fG ⟨λ_ q=>(nomatch h.2 q.1),λ_=>rfl⟩
theorem ES {step:Int->Option (Fw Int Unit Unit)} {n:Nat} {P:Nat->Prop} (h:∀i,i<n->(∀j,j<i->P j)->Wp (step (i:Int)) λw=>P i/\w=.n ((i+1:Nat):Int)\/¬P i/\w=.r ()) (he:(∀j,j<n->P j)->step (n:Int)=some (.x ())) :
 Wp (aQ step 0) λw=>(∀i,i<n->P i)/\w=.x ()\/(¬∀i,i<n->P i)/\w=.r ():=by
 have key:∀m k,k+m=n->(∀j,j<k->P j)->Wp (aQ step (k:Int)) λw=>(∀i,i<n->P i)/\w=.x ()\/(¬∀i,i<n->P i)/\w=.r ():=by
  intro m
  induction m with
  | zero=>
   intro k hk hp;have:k=n:=by omega
   subst this;rw[fI,he hp,ζb];exact(ah _).2 (.inl ⟨hp,rfl⟩)
  | succ m ih=>
   intro k hk hp;rw[fI,dV];refine(h k (by omega) hp).mono ?_
   rintro w (⟨h1,rfl⟩|⟨h1,rfl⟩)
   .exact ih (k+1) (by omega) λj hj=>by
     rcases Nat.lt_or_eq_of_le (Nat.lt_succ_iff.1 hj)with hj|rfl
     .exact hp j hj
     .exact h1
   .exact(ah _).2 (.inr ⟨λk2=>h1 (k2 k (by omega)),rfl⟩)
 exact key n 0 (by omega) λj hj=>absurd hj (by omega)
theorem qy {step:Int->Option (Fw Int Unit Unit)} {n:Nat} {P:Nat->Prop} (h:∀i,i<n->(∀j,j<i->P j)->Wp (step (i:Int)) λw=>P i/\w=.n ((i+1:Nat):Int)\/¬P i/\w=.r ()) (he:(∀j,j<n->P j)->step (n:Int)=some (.x ())) :
 bq ((aQ step 0).bind (Fw.elim (λ_=>some true) (λ_=>some false))) (∀i,i<n->P i):=by
 rw[bq,dV];refine(ES h he).mono ?_;rintro w (⟨h1,rfl⟩|⟨h1,rfl⟩)
 .exact fG ⟨λ_=>h1,λ_=>rfl⟩
 .exact fG ⟨λe=>(nomatch e),λh2=>absurd h2 h1⟩
theorem uG {γ:Type} {step:Int->Option (Fw Int Unit Unit)} {n:Nat} {P:Nat->Prop} {fx:Unit->Option γ} {fr:Unit->Option γ} {R:γ->Prop} (h:∀i,i<n->(∀j,j<i->P j)->Wp (step (i:Int)) λw=>P i/\w=.n ((i+1:Nat):Int)\/¬P i/\w=.r ()) (he:(∀j,j<n->P j)->step (n:Int)=some (.x ()))
 (hx:(∀i,i<n->P i)->Wp (fx ()) R) (hr:(¬∀i,i<n->P i)->Wp (fr ()) R):Wp ((aQ step 0).bind (Fw.elim fx fr)) R:=by
 rw[dV];refine(ES h he).mono ?_;rintro w (⟨h1,rfl⟩|⟨h1,rfl⟩)
 .exact hx h1
 .exact hr h1
theorem wD {m:Option Bool} {P:Prop} {n:Int} {k:Nat} (h:bq m P) (hn:n=((k+1:Nat):Int)):Wp (m.bind λx=>an x (some (.n n)) (some (.r ()))) λw:Fw Int Unit Unit=>P/\w=.n ((k+1:Nat):Int)\/¬P/\w=.r ():=by
 obtain⟨b,hb,h⟩:=h;rw[hb,ζb]
 cases b with
 | true=>exact(ah _).2 (.inl ⟨h.1 rfl,by rw[hn]⟩)
 | false=>exact(ah _).2 (.inr ⟨λq=>(nomatch h.2 q),rfl⟩)
theorem Hx {b:Bool} {P:Prop} {n:Int} {k:Nat} (h:b=true↔P) (hn:n=((k+1:Nat):Int)):Wp (an b (some (.n n)) (some (.r ()))) λw:Fw Int Unit Unit=>P/\w=.n ((k+1:Nat):Int)\/¬P/\w=.r ():=by
 cases b with
 | true=>exact(ah _).2 (.inl ⟨h.1 rfl,by rw[hn]⟩)
 | false=>exact(ah _).2 (.inr ⟨λq=>(nomatch h.2 q),rfl⟩)
theorem JJ {b:Bool} {P:Prop} {n:Int} {k:Nat} (h:b=true↔¬P) (hn:n=((k+1:Nat):Int)):Wp (an b (some (.r ())) (some (.n n))) λw:Fw Int Unit Unit=>P/\w=.n ((k+1:Nat):Int)\/¬P/\w=.r ():=by
 cases b with
 | true=>exact(ah _).2 (.inr ⟨h.1 rfl,rfl⟩)
 | false=>exact(ah _).2 (.inl ⟨Classical.byContradiction λq=>(nomatch h.2 q),by rw[hn]⟩)
def bg (a b:List Int):Prop:=a.length=b.length/\∀(p:Nat) (x y:Int),a[p]? = some x->b[p]? = some y->x<=y
theorem Qs {a b:List Int} (hn:a.length=b.length):(∀i,i<a.length->∀x y,a[i]? = some x->b[i]? = some y->x<=y)↔bg a b:=
 ⟨λh=>⟨hn,λp x y hx hy=>h p (ζe.1 hx).1 x y hx hy⟩,λh i _ x y hx hy=>h.2 i x y hx hy⟩
theorem Hq {a b:Sl Int} (hl:a.l.length<1073741824) {step:Int->Option (Fw Int Unit Unit)}
 (hs:∀i,step i=an (decide (i<len a)) ((idx a i).bind λx_1=>(idx b i).bind λx_2=>an (decide (x_1>x_2)) (some (.r ())) (some (.n (IntKind.wrap .i64 (i+1))))) (some (.x ()))) :
 bq (an ((len a)==(len b)) ((aQ step 0).bind (Fw.elim (λ_=>some true) (λ_=>some false))) (some false)) (bg a.l b.l):=by
 by_cases hn:a.l.length=b.l.length
 .rw[show ((len a)==(len b))=true from by simp[len,hn],aP]
  refine(qy (n:=a.l.length) (P:=λi=>∀x y,a.l[i]? = some x->b.l[i]? = some y->x<=y) ?_ ?_).iff (Qs hn)
  .intro i hi _;have hb:i<b.l.length:=by omega
   rw[hs,jN hi,aP,aK hi,ζb,aK hb,ζb];refine JJ ?_ (bK i (by omega))
   rw[decide_eq_true_eq];constructor
   .intro h k;have:=k _ _ (ζd hi) (ζd hb);omega
   .intro h;refine Classical.byContradiction λh2=>h λx y hx hy=>?_
    rw[ζd hi]at hx;rw[ζd hb]at hy;cases hx;cases hy;omega
  .intro _;rw[hs,jM,bf]
 .rw[show ((len a)==(len b))=false from by simp[len];omega,bf]
  exact fG ⟨λe=>(nomatch e),λh=>absurd h.1 hn⟩
theorem uh {a b:Sl Int} (hl:a.l.length<1073741824):bq (dW a b) (bg a.l b.l):=Hq hl λi=>rfl
theorem HC {a b:Sl Int} (hl:a.l.length<1073741824):bq (eZ a b) (bg a.l b.l):=Hq hl λi=>rfl
theorem Se {a b:Sl Int} (hl:a.l.length<1073741824):bq (dK a b) (a.l=b.l):=by
 by_cases hn:a.l.length=b.l.length
 .unfold dK;rw[show ((len a)==(len b))=true from by simp[len,hn],aP]
  unfold dK.W1;refine(qy (n:=a.l.length) (P:=λi=>a.l[i]? = b.l[i]?) ?_ ?_).iff ?_
  .intro i hi _;have hb:i<b.l.length:=by omega
   unfold dK.aA;rw[jN hi,aP,aK hi,ζb,aK hb,ζb];refine Hx ?_ (bK i (by omega))
   rw[ζd hi,ζd hb];simp
  .intro _;unfold dK.aA;rw[jM,bf]
  .constructor
   .intro h;refine List.ext_getElem? λi=>?_
    by_cases hi:i<a.l.length
    .exact h i hi
    .rw[List.getElem?_eq_none (by omega),List.getElem?_eq_none (by omega)]
   .intro h i _;rw[h]
 .unfold dK;rw[show ((len a)==(len b))=false from by simp[len];omega,bf]
  exact fG ⟨λe=>(nomatch e),λh=>absurd (by rw[h]) hn⟩
theorem Iy {a b:Sl Int} (hl:a.l.length<1073741824):bq (cN a b) (a.l=b.l):=by
 rw[Lc hl];exact fG (by simp)
section
variable {t:Trace} {A:bh 200 aB}
theorem DF (hS:Small t) (hv:bX t=some true) (hV:VT t) (hM:dG t (aR t) A) (c:Sl Int):bq (iq t c) (Cons t A c.l):=by
 obtain⟨r,hr,h⟩:=Lj hS hv hV hM c;unfold iq;rw[hr,ζb];exact fG (by rw[beq_iff_eq,h];exact Iff.rfl)
theorem I8 (hS:Small t) (hv:iV t=some true) (hV:VT t) (hM:dG t (aR t) A) (c:Sl Int):bq (gG t c) (Cons t A c.l):=by
 unfold gG vF;rw[hv,ζb,aP,ζb,ζb]
 by_cases hcl:c.l.length=t.procs.l.length
 .rw[show (len c==len t.procs)=true from by simp[len,hcl],aP]
  have hr:bq (kG t c) (gb t c.l):=D4 hS hcl λi=>rfl
  refine bq.and (P:=gb t c.l) (Q:=jF t A c.l) (n:=dI t c) (bq.some hr) (λhR=>?_) (f:=λx_5=>(an x_5 ((dI t c).bind λx_6=>some x_6) (some false):Option Bool).bind λx_7=>some x_7) (λb=>by cases b <;> simp[an])
  exact HZ hS hV hM hR
 .rw[show (len c==len t.procs)=false from by simp[len];omega]
  exact fG ⟨λe=>(nomatch e),λh=>absurd h.1.1 hcl⟩
end
end Go.VE
namespace Go.VE
def nth (l:List Int) (p:Nat):Int:=(l[p]?).getD 0
def cK (t:Trace) (p:Nat):Nat:=((t.procs.l[p]?).map λP=>P.events.l.length).getD 0
theorem gB {l:List Int} {p:Nat} (h:p<l.length):nth l p=l[p]:=by unfold nth;rw[ζd h];rfl
theorem jR {t:Trace} {p:Nat} (h:p<t.procs.l.length):cK t p=t.procs.l[p].events.l.length:=by unfold cK;rw[ζd h];rfl
section
variable {t:Trace} {A:bh 200 aB}
def j9 (g:Int->Int->Int) (a b c:List Int):Prop:=c.length=a.length/\∀(p:Nat) (x y:Int),a[p]? = some x->b[p]? = some y->c[p]? = some (g x y)
def dO (x y:Int):Int:=if y>x then y else x
theorem j9.of (g:Int->Int->Int) {a b:List Int} (h:a.length=b.length):j9 g a b (List.zipWith g a b):=
 ⟨by simp[h],λp x y hx hy=>by rw[List.getElem?_zipWith,hx,hy]⟩
theorem j9.at_ {g:Int->Int->Int} {a b c:List Int} (h:j9 g a b c) (hab:a.length=b.length) {p:Nat} {z:Int} (hz:c[p]? = some z):∃x y,a[p]? = some x/\b[p]? = some y/\z=g x y:=by
 have hp:p<a.length:=by rw[<-h.1];exact(ζe.1 hz).1
 refine⟨a[p],b[p]'(by omega),ζd hp,ζd (by omega),?_⟩
 have:=h.2 p _ _ (ζd hp) (ζd (show p<b.length by omega))
 rw[hz]at this;cases this;rfl
theorem eV (x y:Int):(dO x y=x/\y<=x)\/(dO x y=y/\x<=y):=by unfold dO;split <;> omega
theorem join_cons {a b c:List Int} (ha:Cons t A a) (hb:Cons t A b) (h:j9 dO a b c):Cons t A c:=by
 have hl:a.length=b.length:=ha.1.1.trans hb.1.1.symm;refine⟨⟨h.1.trans ha.1.1,λp z P hz hP=>?_⟩,λp k e z he hz hk hkind=>?_⟩
 .obtain⟨x,y,hx,hy,rfl⟩:=h.at_ hl hz;have h1:=ha.1.2 p x P hx hP;have h2:=hb.1.2 p y P hy hP;rcases eV x y with⟨e,_⟩|⟨e,_⟩ <;> rw[e] <;> assumption
 .obtain⟨x,y,hx,hy,rfl⟩:=h.at_ hl hz;rcases eV x y with⟨e',_⟩|⟨e',_⟩ <;> rw[e']at hk
  .obtain⟨u,hu,hle⟩:=ha.2 p k e x he hx hk hkind;have hq:=(ζe.1 hu).1;have hv:=ζd (show (ag A e.message).from_.proc.toNat<b.length by omega)
   exact⟨_,h.2 _ _ _ hu hv,by rcases eV u b[(ag A e.message).from_.proc.toNat]with⟨e2,_⟩|⟨e2,_⟩ <;> rw[e2] <;> omega⟩
  .obtain⟨u,hu,hle⟩:=hb.2 p k e y he hy hk hkind;have hq:=(ζe.1 hu).1;have hv:=ζd (show (ag A e.message).from_.proc.toNat<a.length by omega)
   exact⟨_,h.2 _ _ _ hv hu,by rcases eV a[(ag A e.message).from_.proc.toNat] u with⟨e2,_⟩|⟨e2,_⟩ <;> rw[e2] <;> omega⟩
theorem bg.trans {a b c:List Int} (h:bg a b) (k:bg b c):bg a c:=by
 refine⟨h.1.trans k.1,λp x z hx hz=>?_⟩
 have hp:p<b.length:=by rw[<-h.1];exact(ζe.1 hx).1
 have e:=ζd hp;exact Int.le_trans (h.2 p x _ hx e) (k.2 p _ z e hz)
theorem bg.refl (a:List Int):bg a a:=⟨rfl,λp x y hx hy=>by rw[hx]at hy;cases hy;exact Int.le_refl _⟩
theorem j9.le_max {a b c:List Int} (h:j9 dO a b c) (hl:a.length=b.length):bg a c/\bg b c/\∀d,bg a d->bg b d->bg c d:=by
 refine⟨⟨h.1.symm,λp x z hx hz=>?_⟩,⟨hl.symm.trans h.1.symm,λp y z hy hz=>?_⟩,λd ha hb=>⟨h.1.trans ha.1,λp z w hz hw=>?_⟩⟩
 .obtain⟨x',y,hx',hy,rfl⟩:=h.at_ hl hz;rw[hx]at hx';cases hx';rcases eV x y with⟨e2,_⟩|⟨e2,_⟩ <;> rw[e2] <;> omega
 .obtain⟨x,y',hx,hy',rfl⟩:=h.at_ hl hz;rw[hy]at hy';cases hy';rcases eV x y with⟨e2,_⟩|⟨e2,_⟩ <;> rw[e2] <;> omega
 .obtain⟨x,y,hx,hy,rfl⟩:=h.at_ hl hz;have h1:=ha.2 p x w hx hw;have h2:=hb.2 p y w hy hw;rcases eV x y with⟨e2,_⟩|⟨e2,_⟩ <;> rw[e2] <;> assumption
theorem bg.nth {a b:List Int} (h:bg a b) {p:Nat} (hp:p<a.length):nth a p<=nth b p:=by
 rw[gB hp,gB (by rw[<-h.1];exact hp)]
 exact h.2 p _ _ (ζd hp) (ζd (by rw[<-h.1];exact hp))
theorem j9.nth {g:Int->Int->Int} {a b c:List Int} (h:j9 g a b c) (hl:a.length=b.length) {p:Nat} (hp:p<a.length):Go.VE.nth c p=g (Go.VE.nth a p) (Go.VE.nth b p):=by
 rw[gB hp,gB (show p<b.length by omega)]
 have:=h.2 p _ _ (ζd hp) (ζd (show p<b.length by omega))
 unfold Go.VE.nth;rw[this];rfl
end
end Go.VE
namespace Go.VE
def si (s:Slice) (p:Nat):Nat:=((s.j.l[p]?).map λr=>r.l.length).getD 0
def el (s:Slice) (p i:Nat):List Int:=match s.j.l[p]? with
 | some r=>match r.l[i]? with
  | some c=>c.l
  | none=>[]
 | none=>[]
theorem kS {s:Slice} {p:Nat} (h:p<s.j.l.length):si s p=s.j.l[p].l.length:=by unfold si;rw[ζd h];rfl
def mT (t:Trace) (A:bh 200 aB) (s:Slice) (p i:Nat):Prop:=
 (nth s.last.l p<=(i:Int)/\(el s p i).length=0)\/((i:Int)<nth s.last.l p/\(((i:Int)<nth s.first.l p/\el s p i=s.first.l)\/(nth s.first.l p<=(i:Int)/\Cons t A (el s p i)/\(i:Int)<nth (el s p i) p/\bg s.first.l (el s p i)/\bg (el s p i) s.last.l)))
def q_ (s:Slice) (c:List Int):Prop:=∀p,p<c.length->∀i:Nat,(i:Int)<nth c p->bg (el s p i) c
def vY (t:Trace) (A:bh 200 aB) (s:Slice):Prop:=((((Cons t A s.first.l/\Cons t A s.last.l)/\bg s.first.l s.last.l)/\s.j.l.length=t.procs.l.length)/\∀p,p<t.procs.l.length->si s p=cK t p)
def lg (t:Trace) (A:bh 200 aB) (s:Slice):Prop:=
 (vY t A s/\∀p,p<t.procs.l.length->∀i,i<cK t p->mT t A s p i)/\∀p,p<t.procs.l.length->∀i:Nat,(i:Int)<nth s.last.l p->q_ s (el s p i)
def D8 (s:Slice):Prop:=(s.first.l.length=0/\s.last.l.length=0)/\s.j.l.length=0
def k_ (t:Trace) (A:bh 200 aB) (s:Slice):Prop:=s.empty=true/\D8 s\/s.empty=false/\lg t A s
def kN (s:Slice) (c:List Int):Prop:=((s.empty=false/\bg s.first.l c)/\bg c s.last.l)/\q_ s c
structure mV (s:Slice):Prop where
 f:s.first.l.length<=60
 l:s.last.l.length<=60
 j:s.j.l.length<=60
 r:∀r∈s.j.l,r.l.length<=60/\∀c∈r.l,c.l.length<=60
section
variable {t:Trace} {A:bh 200 aB} {s:Slice}
theorem dg {c:List Int} (h:Cons t A c) {p:Nat} (hp:p<t.procs.l.length):0<=nth c p/\nth c p<=cK t p:=by
 have hc:p<c.length:=by rw[h.1.1];exact hp
 rw[gB hc,jR hp];exact h.1.2 p _ _ (ζd hc) (ζd hp)
theorem yP {p i:Nat} (hp:p<s.j.l.length) (hi:i<si s p) (hL:mV s):∃c,jP s ⟨p,((i+1:Nat):Int)⟩=some c/\c.l=el s p i/\c.l.length<=60:=by
 rw[kS hp]at hi;have hr:=(hL.r _ (List.getElem_mem hp));refine⟨s.j.l[p].l[i],?_,?_,hr.2 _ (List.getElem_mem hi)⟩
 .unfold jP;dsimp only;rw[aK hp,ζb,qP _ (by omega) (by omega),show ((i+1:Nat):Int)-1=(i:Int)from by omega,aK hi,ζb]
 .unfold el;rw[ζd hp];dsimp only;rw[ζd hi]
theorem tv {c:Sl Int} {f:aa->Option Bool} {g:Nat->Nat->Prop} (hc:c.l.length<1073741824) (hb:∀p,p<c.l.length->nth c.l p<1073741824)
 (h:∀p,p<c.l.length->∀i:Nat,(i:Int)<nth c.l p->bq (f ⟨p,((i+1:Nat):Int)⟩) (g p i)):bq (cZ c f) (∀p,p<c.l.length->∀i:Nat,(i:Int)<nth c.l p->g p i):=by
 unfold cZ cZ.W1;refine qy (n:=c.l.length) ?_ ?_
 .intro p hp _;unfold cZ.aA;rw[jN hp,aP,aK hp,ζb];unfold cZ.W2;have hn:=gB hp;have hb:=hb p hp;rw[hn]at hb
  by_cases h0:c.l[p]<=0
  .refine uG (n:=0) (P:=λ_=>True) (λi hi=>absurd hi (by omega)) (λ_=>?_) (λ_=>?_) (λk=>absurd (λi hi=>absurd hi (by omega)) k)
   .unfold cZ.aX;rw[show decide (((0:Nat):Int)<c.l[p])=false from by simp;omega,bf]
   .exact(ah _).2 (.inl ⟨λi hi=>by rw[hn]at hi;omega,by rw[bK p (by omega)]⟩)
  .obtain⟨k,hk⟩:∃k:Nat,c.l[p]=(k:Int):=⟨c.l[p].toNat,by omega⟩
   have e:(∀i,i<k->g p i)↔∀i:Nat,(i:Int)<nth c.l p->g p i:=by
    rw[hn,hk];exact⟨λh i hi=>h i (by omega),λh i hi=>h i (by omega)⟩
   refine uG (n:=k) (P:=g p) (λi hi _=>?_) (λ_=>?_) (λq=>?_) (λq=>?_)
   .unfold cZ.aX;rw[show decide ((i:Int)<c.l[p])=true from by simp;omega,aP,bK i (by omega)]
    exact wD (h p hp i (by rw[hn];omega)) rfl
   .unfold cZ.aX;rw[show decide ((k:Int)<c.l[p])=false from by simp;omega,bf]
   .exact(ah _).2 (.inl ⟨e.1 q,by rw[bK p (by omega)]⟩)
   .exact(ah _).2 (.inr ⟨λq2=>q (e.2 q2),rfl⟩)
 .intro _;unfold cZ.aA;rw[jM,bf]
theorem Ar {c:Sl Int} {p i:Nat} (hp:p<c.l.length):ow ⟨p,((i+1:Nat):Int)⟩ c=some (decide ((i:Int)<nth c.l p)):=by
 unfold ow;rw[aK hp,ζb,gB hp];exact congrArg some (decide_eq_decide.2 (by dsimp only;omega))
theorem GB (hS:Small t) (hv:bX t=some true) (hV:VT t) (hM:dG t (aR t) A) (hL:mV s) (hs:vY t A s) {p i:Nat} (hp:p<t.procs.l.length) (hi:i<cK t p) :
 bq (sJ t s ⟨p,((i+1:Nat):Int)⟩) (mT t A s p i):=by
 obtain⟨⟨⟨⟨h1,h2⟩,h3⟩,h4⟩,h5⟩:=hs;obtain⟨c,hc,hce,hcl⟩:=yP (s:=s) (p:=p) (i:=i) (by omega) (by rw[h5 p hp];exact hi) hL
 have hl:p<s.last.l.length:=by rw[h2.1.1];exact hp
 have hf:p<s.first.l.length:=by rw[h1.1.1];exact hp
 have hL1:=hL.f;have hL2:=hL.l;unfold sJ;rw[hc,ζb,Ar hl,ζb];unfold mT;rw[<-hce]
 by_cases hlt:(i:Int)<nth s.last.l p
 .rw[decide_eq_true hlt,aP,Ar hf,ζb]
  by_cases hft:(i:Int)<nth s.first.l p
  .rw[decide_eq_true hft,aP];refine((Iy (a:=c) (b:=s.first) (by omega)).some).iff ?_
   exact⟨λh=>.inr ⟨hlt,.inl ⟨hft,h⟩⟩,λh=>by rcases h with h|⟨_,h|h⟩ <;> first|exact h.2|omega⟩
  .rw[decide_eq_false hft,bf];have k1:=DF hS hv hV hM c;have k2:=bq.and (Q:=(i:Int)<nth c.l p) k1 (n:=ow ⟨p,((i+1:Nat):Int)⟩ c) (λhC=>by rw[Ar (by rw[hC.1.1];exact hp)];exact fG (by simp)) (f:=λx_5=>(an x_5 ((ow ⟨p,((i+1:Nat):Int)⟩ c).bind λx_6=>some x_6) (some false):Option Bool)) (λb=>rfl)
   have k3:=bq.and k2 (Q:=bg s.first.l c.l) (n:=dW s.first c) (λ_=>uh (by omega)) (f:=λx_7=>(an x_7 ((dW s.first c).bind λx_8=>some x_8) (some false):Option Bool)) (λb=>rfl)
   have k4:=bq.and k3 (Q:=bg c.l s.last.l) (n:=dW c s.last) (λ_=>uh (by omega)) (f:=λx_9=>(an x_9 ((dW c s.last).bind λx_10=>some x_10) (some false):Option Bool)) (λb=>rfl)
   have k5:=k4.some;simp only[Option.bind_assoc]at k5 ⊢;refine k5.iff ?_;exact⟨λ⟨⟨⟨a,b⟩,d⟩,e⟩=>.inr ⟨hlt,.inr ⟨by omega,a,b,d,e⟩⟩,λh=>by rcases h with h|⟨_,h|⟨_,a,b,d,e⟩⟩ <;> first|exact⟨⟨⟨a,b⟩,d⟩,e⟩|omega⟩
 .rw[decide_eq_false hlt,bf];refine fG ?_;rw[beq_iff_eq];simp only[len];exact⟨λh=>.inl ⟨by omega,by omega⟩,λh=>by rcases h with h|h <;> omega⟩
theorem Ez (hS:Small t) (hv:bX t=some true) (hV:VT t) (hM:dG t (aR t) A) (hL:mV s):bq (gq t s) (vY t A s):=by
 have hL1:=hL.f;have hL2:=hL.l;have hL3:=hL.j;unfold gq;have k1:=DF hS hv hV hM s.first
 have k2:=bq.Lm k1 (Q:=Cons t A s.last.l) (λ_=>DF hS hv hV hM s.last) (f:=λx_1=>(an x_1 ((iq t s.last).bind λx_2=>some (!x_2)) (some true):Option Bool)) (λb=>rfl)
 have k3:=bq.NH k2 (Q:=bg s.first.l s.last.l) (λ_=>uh (a:=s.first) (b:=s.last) (by omega)) (f:=λx_3=>(an x_3 (some true) ((dW s.first s.last).bind λx_4=>some (!x_4)):Option Bool)) (λb=>rfl)
 have k4:=bq.KD k3 (Q:=s.j.l.length=t.procs.l.length) (b:=((len s.j)==(len t.procs))) (λ_=>by rw[beq_iff_eq];simp only[len];omega) (f:=λx_5=>(an x_5 (some true) (some (!((len s.j)==(len t.procs)))):Option Bool)) (λb=>rfl)
 simp only[Option.bind_assoc]at k4 ⊢;obtain⟨b,hb,h⟩:=k4;simp only[<-Option.bind_assoc]at hb ⊢;rw[hb,ζb]
 cases b with
 | true=>exact fG ⟨λe=>(nomatch e),λq=>absurd q.1 (h.1 rfl)⟩
 | false=>
  have hh:((Cons t A s.first.l/\Cons t A s.last.l)/\bg s.first.l s.last.l)/\s.j.l.length=t.procs.l.length:=Classical.byContradiction λq=>(nomatch h.2 q)
  rw[bf];unfold gq.W1;refine(qy (n:=s.j.l.length) (P:=λp=>si s p=cK t p) ?_ ?_).iff ?_
  .intro p hp _;have hp2:p<t.procs.l.length:=by rw[<-hh.2];exact hp
   unfold gq.aA;rw[jN hp,aP,aK hp,ζb,aK hp2,ζb];refine Hx ?_ (bK p (by omega))
   rw[beq_iff_eq,kS hp,jR hp2];simp only[len];omega
  .intro _;unfold gq.aA;rw[jM,bf]
  .exact⟨λq=>⟨hh,λp hp=>q p (by rw[hh.2];exact hp)⟩,λq p hp=>q.2 p (by rw[<-hh.2];exact hp)⟩
theorem MJ (hS:Small t) (hV:VT t):∃c,fA t=some c/\c.l.length=t.procs.l.length/\∀p,p<t.procs.l.length->nth c.l p=cK t p:=by
 have h8:=hV.few;unfold fA fA.W1;refine ki (P:=λc:Sl Int=>c.l.length=t.procs.l.length/\∀p,p<t.procs.l.length->nth c.l p=cK t p) t.procs.l.length (λi (s:Sl Int×Int)=>s.2=(i:Int)/\s.1.l.length=i/\∀p,p<i->nth s.1.l p=cK t p) ⟨rfl,rfl,λp hp=>absurd hp (by omega)⟩ ?_ ?_
 .rintro i ⟨o,_⟩ hi ⟨e,h1,h2⟩;simp only at e h1 h2;subst e;unfold fA.aA;rw[jN hi,aP,aK hi,ζb];obtain⟨r,hr,hrl⟩:=tZ (s:=o) (x:=len t.procs.l[i].events) (by omega)
  rw[hr,ζb,ah];refine⟨bK i (by omega),by rw[hrl];simp[h1],λp hp=>?_⟩
  show nth r.l p=_;rw[hrl]
  by_cases e:p=i
  .subst e;unfold nth;rw[List.getElem?_append_right (by omega),h1,Nat.sub_self,jR hi];rfl
  .unfold nth;rw[List.getElem?_append_left (by omega)]
   exact h2 p (by omega)
 .rintro⟨o,_⟩ ⟨e,h1,h2⟩;simp only at e h1 h2;subst e;unfold fA.aA;rw[jM,bf,ah];exact(ah _).2 ⟨h1,h2⟩
theorem AL (hS:vY t A s) (h:∀p,p<t.procs.l.length->∀i,i<cK t p->mT t A s p i) {p i:Nat} (hp:p<t.procs.l.length) (hi:(i:Int)<nth s.last.l p):i<cK t p/\Cons t A (el s p i):=by
 have h2:=dg hS.1.1.1.2 hp;have hie:i<cK t p:=by omega
 refine⟨hie,?_⟩;rcases h p hp i hie with k|⟨_,k|k⟩
 .omega
 .rw[k.2];exact hS.1.1.1.1
 .exact k.2.1
theorem K3 (hS:Small t) (hv:bX t=some true) (hV:VT t) (hM:dG t (aR t) A) (hL:mV s):bq (mX t s) (k_ t A s):=by
 have h8:=hV.few;have hev:∀p,p<t.procs.l.length->cK t p<1073741824:=λp hp=>by rw[jR hp];exact(hS.2 _ (List.getElem_mem hp)).1
 unfold mX;rw[hv,ζb,aP]
 cases he:s.empty with
 | true=>
  rw[aP];have k1:=bq.IY (m:=some (len s.first==0)) (P:=s.first.l.length=0) (fG (by rw[beq_iff_eq];simp only[len];omega)) (b:=(len s.last==0)) (Q:=s.last.l.length=0) (λ_=>by rw[beq_iff_eq];simp only[len];omega) (f:=λx=>(an x (some (len s.last==0)) (some false):Option Bool)) (λb=>rfl)
  have k2:=bq.IY k1 (b:=(len s.j==0)) (Q:=s.j.l.length=0) (λ_=>by rw[beq_iff_eq];simp only[len];omega) (f:=λx=>(an x (some (len s.j==0)) (some false):Option Bool)) (λb=>rfl)
  rw[ζb]at k2;have k:=(bq.some k2).iff (Q:=k_ t A s) (by unfold k_ D8;rw[he];simp)
  rw[Option.bind_assoc]at k;exact k
 | false=>
  rw[bf];have k1:=Ez hS hv hV hM hL;obtain⟨c,hc,hc1,hc2⟩:=MJ hS hV;have k2:=bq.Lm k1 (Q:=∀p,p<t.procs.l.length->∀i,i<cK t p->mT t A s p i) (n:=(fA t).bind λx_5=>cZ x_5 (λz=>lS z t s)) (λhs=>by
   rw[hc,ζb];refine(tv (g:=mT t A s) (by omega) (λp hp=>by rw[hc2 p (by omega)];have:=hev p (by omega);omega) (λp hp i hi=>?_)).iff ?_
   .rw[hc2 p (by omega)]at hi
    exact(GB hS hv hV hM hL hs (by omega) (by omega)).some
   .rw[hc1];constructor
    .intro h p hp i hi;exact h p hp i (by rw[hc2 p hp];omega)
    .intro h p hp i hi;exact h p hp i (by rw[hc2 p hp]at hi;omega)) (f:=λx_4=>(an x_4 ((fA t).bind λx_5=>(cZ x_5 (λz=>lS z t s)).bind λx_6=>some (!x_6)) (some true):Option Bool)) (λb=>by simp only[Option.bind_assoc])
  obtain⟨b,hb,h⟩:=k2;rw[<-Option.bind_assoc,hb,ζb];have hval:k_ t A s↔lg t A s:=by unfold k_;rw[he];simp
  cases b with
  | true=>exact fG ⟨λe=>(nomatch e),λq=>absurd (hval.1 q).1 (h.1 rfl)⟩
  | false=>
   have hh:vY t A s/\∀p,p<t.procs.l.length->∀i,i<cK t p->mT t A s p i:=Classical.byContradiction λq=>(nomatch h.2 q)
   have hl:s.last.l.length=t.procs.l.length:=hh.1.1.1.1.2.1.1;have hj:s.j.l.length=t.procs.l.length:=hh.1.1.2;rw[bf];refine((tv (g:=λp i=>q_ s (el s p i)) (by omega) (λp hp=>?_) (λp hp i hi=>?_)).some).iff ?_
   .have:=dg hh.1.1.1.1.2 (p:=p) (by omega);have:=hev p (by omega);omega
   .obtain⟨hie,hC⟩:=AL hh.1 hh.2 (p:=p) (by omega) hi
    obtain⟨d,hd,hde,hdl⟩:=yP (s:=s) (p:=p) (i:=i) (by omega) (by rw[hh.1.2 p (by omega)];exact hie) hL
    unfold oK;rw[hd,ζb];refine(tv (g:=λq k=>bg (el s q k) (el s p i)) (by omega) (λq hq=>?_) (λq hq k hk=>?_)).some |>.iff ?_
    .rw[hde]at hq ⊢;have hq':q<t.procs.l.length:=by rw[<-hC.1.1];exact hq
     have:=dg hC hq';have:=hev q hq';omega
    .rw[hde]at hq hk;have hq':q<t.procs.l.length:=by rw[<-hC.1.1];exact hq
     have:=dg hC hq';unfold lP;obtain⟨y,hy,hye,hyl⟩:=yP (s:=s) (p:=q) (i:=k) (by omega) (by rw[hh.1.2 q hq'];omega) hL
     rw[hy,ζb,<-hye,<-hde];exact(uh (by omega)).some
    .rw[hde];exact Iff.rfl
   .rw[hval,hl];exact⟨λq=>⟨hh,q⟩,λq=>q.2⟩
theorem Th (hS:Small t) (hV:VT t) (hL:mV s) (hs:k_ t A s) {c:Sl Int} (hc:Cons t A c.l):bq (uY s c) (kN s c.l):=by
 have h8:=hV.few;have hcl:=hc.1.1;have hL1:=hL.f;have hev:∀p,p<t.procs.l.length->cK t p<1073741824:=λp hp=>by rw[jR hp];exact(hS.2 _ (List.getElem_mem hp)).1
 unfold uY;have k1:bq ((an s.empty (some false) ((dW s.first c).bind λx_1=>some x_1):Option Bool)) (s.empty=false/\bg s.first.l c.l):=by
  cases he:s.empty with
  | true=>exact fG ⟨λe=>(nomatch e),λq=>(nomatch q.1)⟩
  | false=>exact((uh (by omega)).some).iff ⟨λq=>⟨rfl,q⟩,λq=>q.2⟩
 have k2:=bq.and k1 (Q:=bg c.l s.last.l) (n:=dW c s.last) (λ_=>uh (by omega)) (f:=λx_2=>(an x_2 ((dW c s.last).bind λx_3=>some x_3) (some false):Option Bool)) (λb=>rfl)
 have k3:=bq.and k2 (Q:=q_ s c.l) (n:=cZ c (λz=>lV z s c)) (λhq=>by
  rcases hs with⟨he,_⟩|⟨he,hF⟩
  .exact absurd hq.1.1 (by rw[he];decide)
  have hj:s.j.l.length=t.procs.l.length:=hF.1.1.1.2;refine tv (g:=λp i=>bg (el s p i) c.l) (by omega) (λp hp=>?_) (λp hp i hi=>?_)
  .have:=dg hc (p:=p) (by omega);have:=hev p (by omega);omega
  .have:=dg hc (p:=p) (by omega)
   unfold lV;obtain⟨d,hd,hde,hdl⟩:=yP (s:=s) (p:=p) (i:=i) (by omega) (by rw[hF.1.1.2 p (by omega)];omega) hL
   rw[hd,ζb,<-hde];exact(uh (by omega)).some) (f:=λx_4=>(an x_4 ((cZ c (λz=>lV z s c)).bind λx_5=>some x_5) (some false):Option Bool)) (λb=>rfl)
 have k4:=k3.some;simp only[Option.bind_assoc]at k4 ⊢;exact k4
end
end Go.VE
namespace Go.VE
section
variable {t:Trace} {A:bh 200 aB} {s:Slice}
theorem An {p i:Nat} (hp:p<s.j.l.length) (hi:i<si s p) (hL:mV s):∃r c,idx s.j (p:Int)=some r/\idx r (i:Int)=some c/\c.l=el s p i/\c.l.length<=60:=by
 rw[kS hp]at hi;have hr:=(hL.r _ (List.getElem_mem hp));refine⟨s.j.l[p],s.j.l[p].l[i],aK hp,aK hi,?_,hr.2 _ (List.getElem_mem hi)⟩;unfold el;rw[ζd hp];dsimp only;rw[ζd hi]
theorem MV (hS:Small t) (hv:iV t=some true) (hV:VT t) (hM:dG t (aR t) A) (hL:mV s) (h1:Cons t A s.first.l) (h2:Cons t A s.last.l) {p i:Nat} (hp:p<t.procs.l.length) (hj:p<s.j.l.length) (hi:i<si s p) :
 bq (oM t s p i) (mT t A s p i):=by
 obtain⟨r,c,hr,hc,hce,hcl⟩:=An hj hi hL;have hl:p<s.last.l.length:=by rw[h2.1.1];exact hp
 have hf:p<s.first.l.length:=by rw[h1.1.1];exact hp
 have hL1:=hL.f;have hL2:=hL.l;unfold oM;rw[hr,ζb,hc,ζb,aK hl,ζb,<-gB hl];unfold mT;rw[<-hce]
 by_cases hlt:(i:Int)<nth s.last.l p
 .rw[show decide ((i:Int)>=nth s.last.l p)=false from by simp;omega,bf,aK hf,ζb,<-gB hf]
  by_cases hft:(i:Int)<nth s.first.l p
  .rw[decide_eq_true hft,aP];refine((Se (a:=c) (b:=s.first) (by omega)).some).iff ?_
   exact⟨λh=>.inr ⟨hlt,.inl ⟨hft,h⟩⟩,λh=>by rcases h with h|⟨_,h|h⟩ <;> first|exact h.2|omega⟩
  .rw[decide_eq_false hft,bf];have k1:=I8 hS hv hV hM c;have k2:=bq.and k1 (Q:=(i:Int)<nth c.l p) (n:=(idx c p).bind λx_7=>some (decide (x_7>(i:Int)))) (λhC=>by
    have hpc:p<c.l.length:=by rw[hC.1.1];exact hp
    rw[aK hpc,ζb,<-gB hpc];exact fG (by simp)) (f:=λx_6=>(an x_6 ((idx c p).bind λx_7=>some (decide (x_7>(i:Int)))) (some false):Option Bool)) (λb=>by simp only[Option.bind_assoc,ζb])
   have k3:=bq.and k2 (Q:=bg s.first.l c.l) (n:=eZ s.first c) (λ_=>HC (by omega)) (f:=λx_7=>(an x_7 ((eZ s.first c).bind λx_8=>some x_8) (some false):Option Bool)) (λb=>rfl)
   have k4:=bq.and k3 (Q:=bg c.l s.last.l) (n:=eZ c s.last) (λ_=>HC (by omega)) (f:=λx_9=>(an x_9 ((eZ c s.last).bind λx_10=>some x_10) (some false):Option Bool)) (λb=>rfl)
   have k5:=k4.some;simp only[Option.bind_assoc]at k5 ⊢;refine k5.iff ?_;exact⟨λ⟨⟨⟨a,b⟩,d⟩,e⟩=>.inr ⟨hlt,.inr ⟨by omega,a,b,d,e⟩⟩,λh=>by rcases h with h|⟨_,h|⟨_,a,b,d,e⟩⟩ <;> first|exact⟨⟨⟨a,b⟩,d⟩,e⟩|omega⟩
 .rw[show decide ((i:Int)>=nth s.last.l p)=true from by simp;omega,aP]
  refine fG ?_;rw[beq_iff_eq];simp only[len];exact⟨λh=>.inl ⟨by omega,by omega⟩,λh=>by rcases h with h|h <;> omega⟩
theorem Dm {γ:Type} {step:Int->Option (Fw Int Unit Unit)} {n:Int} {P:Nat->Prop} {fx:Unit->Option γ} {fr:Unit->Option γ} {R:γ->Prop} (h:∀i:Nat,(i:Int)<n->(∀j,j<i->P j)->Wp (step (i:Int)) λw=>P i/\w=.n ((i+1:Nat):Int)\/¬P i/\w=.r ()) (he:∀i:Nat,n<=(i:Int)->step (i:Int)=some (.x ()))
 (hx:(∀i:Nat,(i:Int)<n->P i)->Wp (fx ()) R) (hr:(¬∀i:Nat,(i:Int)<n->P i)->Wp (fr ()) R):Wp ((aQ step 0).bind (Fw.elim fx fr)) R:=by
 have e:(∀i,i<n.toNat->P i)↔∀i:Nat,(i:Int)<n->P i:=⟨λh i hi=>h i (by omega),λh i hi=>h i (by omega)⟩
 exact uG (n:=n.toNat) (P:=P) (λi hi hp=>h i (by omega) hp) (λ_=>he _ (by omega)) (λq=>hx (e.1 q)) (λq=>hr λk=>q (e.2 k))
theorem Dv (hL:mV s) {c:Sl Int} (hc:c.l.length<=60) (hb:∀p,p<c.l.length->nth c.l p<1073741824) (h:∀p,p<c.l.length->p<s.j.l.length/\∀i:Nat,(i:Int)<nth c.l p->i<si s p):bq (dH s c) (q_ s c.l):=by
 unfold dH dH.W1;refine qy (n:=c.l.length) (P:=λp=>∀i:Nat,(i:Int)<nth c.l p->bg (el s p i) c.l) ?_ ?_
 .intro p hp _;have hn:=gB hp;have hb:=hb p hp;obtain⟨hj,hr⟩:=h p hp;unfold dH.aA;rw[jN hp,aP];unfold dH.W2;refine Dm (n:=nth c.l p) (P:=λi=>bg (el s p i) c.l) (λi hi _=>?_) (λi hi=>?_) (λq=>?_) (λq=>?_)
  .unfold dH.aX;obtain⟨r,d,h1,h2,h3,h4⟩:=An hj (hr i hi) hL;rw[aK hp,ζb,<-hn,decide_eq_true hi,aP,h1,ζb,h2,ζb,<-h3];exact wD (HC (by omega)) (bK i (by omega))
  .unfold dH.aX;rw[aK hp,ζb,<-hn,decide_eq_false (by omega),bf]
  .exact(ah _).2 (.inl ⟨q,by rw[bK p (by omega)]⟩)
  .exact(ah _).2 (.inr ⟨q,rfl⟩)
 .intro _;unfold dH.aA;rw[jM,bf]
theorem Rx (hS:Small t) (hv:iV t=some true) (hV:VT t) (hM:dG t (aR t) A) (hL:mV s):bq (b8 t s) (k_ t A s):=by
 have h8:=hV.few;have hL1:=hL.f;have hL2:=hL.l;have hL3:=hL.j;have hev:∀p,p<t.procs.l.length->cK t p<1073741824:=λp hp=>by rw[jR hp];exact(hS.2 _ (List.getElem_mem hp)).1
 unfold b8;rw[hv,ζb,aP]
 cases he:s.empty with
 | true=>
  rw[aP];have k1:=bq.IY (m:=some (len s.first==0)) (P:=s.first.l.length=0) (fG (by rw[beq_iff_eq];simp only[len];omega)) (b:=(len s.last==0)) (Q:=s.last.l.length=0) (λ_=>by rw[beq_iff_eq];simp only[len];omega) (f:=λx=>(an x (some (len s.last==0)) (some false):Option Bool)) (λb=>rfl)
  have k2:=bq.IY k1 (b:=(len s.j==0)) (Q:=s.j.l.length=0) (λ_=>by rw[beq_iff_eq];simp only[len];omega) (f:=λx=>(an x (some (len s.j==0)) (some false):Option Bool)) (λb=>rfl)
  rw[ζb]at k2;have k:=(bq.some k2).iff (Q:=k_ t A s) (by unfold k_ D8;rw[he];simp)
  rw[Option.bind_assoc]at k;exact k
 | false=>
  rw[bf];have hval:k_ t A s↔lg t A s:=by unfold k_;rw[he];simp
  have k1:=I8 hS hv hV hM s.first
  have k2:=bq.Lm k1 (Q:=Cons t A s.last.l) (λ_=>I8 hS hv hV hM s.last) (f:=λx_1=>(an x_1 ((gG t s.last).bind λx_2=>some (!x_2)) (some true):Option Bool)) (λb=>rfl)
  have k3:=bq.NH k2 (Q:=bg s.first.l s.last.l) (λ_=>HC (a:=s.first) (b:=s.last) (by omega)) (f:=λx_3=>(an x_3 (some true) ((eZ s.first s.last).bind λx_4=>some (!x_4)):Option Bool)) (λb=>rfl)
  have k4:=bq.KD k3 (Q:=s.j.l.length=t.procs.l.length) (b:=((len s.j)==(len t.procs))) (λ_=>by rw[beq_iff_eq];simp only[len];omega) (f:=λx_5=>(an x_5 (some true) (some (!((len s.j)==(len t.procs)))):Option Bool)) (λb=>rfl)
  simp only[Option.bind_assoc]at k4 ⊢;obtain⟨b,hb,h⟩:=k4;simp only[<-Option.bind_assoc]at hb ⊢;rw[hb,ζb]
  cases b with
  | true=>exact fG ⟨λe=>(nomatch e),λq=>absurd (hval.1 q).1.1.1 (h.1 rfl)⟩
  | false=>
   have hh:((Cons t A s.first.l/\Cons t A s.last.l)/\bg s.first.l s.last.l)/\s.j.l.length=t.procs.l.length:=Classical.byContradiction λq=>(nomatch h.2 q)
   have hl:s.last.l.length=t.procs.l.length:=hh.1.1.2.1.1;rw[bf];unfold b8.W1;refine uG (n:=s.j.l.length) (P:=λp=>si s p=cK t p/\∀i,i<cK t p->mT t A s p i) (R:=λb=>b=true↔k_ t A s) ?_ ?_ ?_ ?_
   .intro p hp _;have hp2:p<t.procs.l.length:=by rw[<-hh.2];exact hp
    unfold b8.aA;rw[jN hp,aP,aK hp,ζb,aK hp2,ζb]
    by_cases hq:si s p=cK t p
    .rw[show (len s.j.l[p]==len t.procs.l[p].events)=true from by rw[beq_iff_eq];simp only[len];rw[kS hp,jR hp2]at hq;omega,aP]
     unfold b8.W2;have hrow:=hL.r _ (List.getElem_mem hp);refine uG (n:=si s p) (P:=mT t A s p) ?_ ?_ ?_ ?_
     .intro i hi _;unfold b8.aX;rw[aK hp,ζb,show decide ((i:Int)<len s.j.l[p])=true from jN (by rw[<-kS hp];exact hi),aP]
      exact wD (MV hS hv hV hM hL hh.1.1.1 hh.1.1.2 hp2 hp hi) (bK i (by rw[kS hp]at hi;omega))
     .intro _;unfold b8.aX;rw[aK hp,ζb,kS hp,jM,bf]
     .intro q;exact(ah _).2 (.inl ⟨⟨hq,λi hi=>q i (by rw[hq];exact hi)⟩,by rw[bK p (by omega)]⟩)
     .intro q;exact(ah _).2 (.inr ⟨λk=>q λi hi=>k.2 i (by rw[<-hq];exact hi),rfl⟩)
    .rw[show (len s.j.l[p]==len t.procs.l[p].events)=false from by rw[beq_eq_false_iff_ne];simp only[len];rw[kS hp,jR hp2]at hq;omega,bf]
     exact(ah _).2 (.inr ⟨λk=>hq k.1,rfl⟩)
   .intro _;unfold b8.aA;rw[jM,bf]
   .intro q;have hsh:vY t A s:=⟨hh,λp hp=>(q p (by rw[hh.2];exact hp)).1⟩
    have hri:∀p,p<t.procs.l.length->∀i,i<cK t p->mT t A s p i:=λp hp=>(q p (by rw[hh.2];exact hp)).2
    unfold b8.W3;refine(qy (n:=s.j.l.length) (P:=λp=>∀i:Nat,(i:Int)<nth s.last.l p->q_ s (el s p i)) ?_ ?_).iff ?_
    .intro p hp _;have hp2:p<t.procs.l.length:=by rw[<-hh.2];exact hp
     have hpl:p<s.last.l.length:=by rw[hl];exact hp2
     have hle:=dg hh.1.1.2 hp2;have hee:=hev p hp2;unfold b8.c_;rw[jN hp,aP];unfold b8.W4;refine Dm (n:=nth s.last.l p) (P:=λi=>q_ s (el s p i)) (λi hi _=>?_) (λi hi=>?_) (λq=>?_) (λq=>?_)
     .unfold b8.mZ;obtain⟨hie,hC⟩:=AL hsh hri hp2 hi;obtain⟨r,d,g1,g2,g3,g4⟩:=An (s:=s) (p:=p) (i:=i) hp (by rw[hsh.2 p hp2];exact hie) hL
      rw[aK hpl,ζb,<-gB hpl,decide_eq_true hi,aP,g1,ζb,g2,ζb];rw[<-g3]at hC;refine wD ?_ (bK i (by omega))
      rw[<-g3];refine Dv hL g4 (λk hk=>?_) (λk hk=>?_)
      .have hk':k<t.procs.l.length:=by rw[<-hC.1.1];exact hk
       have:=dg hC hk';have:=hev k hk';omega
      .have hk':k<t.procs.l.length:=by rw[<-hC.1.1];exact hk
       have:=dg hC hk';exact⟨by rw[hh.2];exact hk',λi hi=>by rw[hsh.2 k hk'];omega⟩
     .unfold b8.mZ;rw[aK hpl,ζb,<-gB hpl,decide_eq_false (by omega),bf]
     .exact(ah _).2 (.inl ⟨q,by rw[bK p (by omega)]⟩)
     .exact(ah _).2 (.inr ⟨q,rfl⟩)
    .intro _;unfold b8.c_;rw[jM,bf]
    .rw[hval,hh.2];exact⟨λk=>⟨⟨hsh,hri⟩,k⟩,λk=>k.2⟩
   .intro q;refine(ah _).2 ⟨λe=>(nomatch e),λk=>absurd (λp hp=>?_) q⟩
    have hp2:p<t.procs.l.length:=by rw[<-hh.2];exact hp
    exact⟨(hval.1 k).1.1.2 p hp2,(hval.1 k).1.2 p hp2⟩
end
end Go.VE
namespace Go.VE
theorem Ds {s:Sl (Sl (Sl Int))} {p:Sl (Sl Int)->Option Bool} {f:Sl (Sl Int)->Bool} (hp:∀x∈s.l,p x=some (f x)) (hl:s.l.length<1073741824):iE s p=some (s.l.any f):=by
 have h:en s p=some (place f s.l):=n_ hp (by omega) (λi=>rfl)
 unfold iE;rw[h,ζb,oa]
structure Lf (s:Slice):Prop where
 j:s.j.l.length<1073741824
 r:∀r∈s.j.l,r.l.length<1073741824
section
variable {t:Trace} {s:Slice}
theorem Hz (hv:iV t=some false):b8 t s=some false:=by unfold b8;rw[hv];rfl
end
end Go.VE
namespace Go.VE
section
variable {t:Trace} {A:bh 200 aB} {s:Slice}
theorem Ek {a b c:List Int} (ha:kN s a) (hb:kN s b) (hl:a.length=b.length) (h:j9 dO a b c):kN s c:=by
 obtain⟨k1,k2,k3⟩:=h.le_max hl;refine⟨⟨⟨ha.1.1.1,ha.1.1.2.trans k1⟩,k3 _ ha.1.2 hb.1.2⟩,λp hp i hi=>?_⟩
 have hpa:p<a.length:=by rw[<-h.1];exact hp
 rw[h.nth hl hpa]at hi;rcases eV (nth a p) (nth b p)with⟨e,_⟩|⟨e,_⟩ <;> rw[e]at hi
 .exact(ha.2 p hpa i hi).trans k1
 .exact(hb.2 p (by omega) i hi).trans k2
end
end Go.VE
namespace Go.VE
section
variable {t:Trace} {A:bh 200 aB} {s:Slice}
theorem Kx (hE:lg t A s) (he:s.empty=false):kN s s.first.l:=by
 obtain⟨⟨⟨⟨⟨h1,h2⟩,h3⟩,h4⟩,h5⟩,h6⟩:=hE.1;refine⟨⟨⟨he,bg.refl _⟩,h3⟩,λp hp i hi=>?_⟩
 have hpt:p<t.procs.l.length:=by rw[<-h1.1.1];exact hp
 have k1:=bg.nth h3 hp;have k2:=dg h1 hpt;rcases h6 p hpt i (by omega)with k|⟨_,k|k⟩
 .omega
 .rw[k.2];exact bg.refl _
 .omega
theorem K_ (hE:lg t A s) (he:s.empty=false):kN s s.last.l:=by
 obtain⟨⟨⟨⟨⟨h1,h2⟩,h3⟩,h4⟩,h5⟩,h6⟩:=hE.1;refine⟨⟨⟨he,h3⟩,bg.refl _⟩,λp hp i hi=>?_⟩
 have hpt:p<t.procs.l.length:=by rw[<-h2.1.1];exact hp
 have k2:=dg h2 hpt;rcases h6 p hpt i (by omega)with k|⟨_,k|k⟩
 .omega
 .rw[k.2];exact h3
 .exact k.2.2.2.2
theorem sM (hE:lg t A s) (he:s.empty=false) {p i:Nat} (hp:p<t.procs.l.length) (hi:(i:Int)<nth s.last.l p):kN s (el s p i)/\(i:Int)<nth (el s p i) p/\Cons t A (el s p i):=by
 obtain⟨⟨⟨⟨⟨h1,h2⟩,h3⟩,h4⟩,h5⟩,h6⟩:=hE.1;have k2:=dg h2 hp;rcases h6 p hp i (by omega)with k|⟨_,k|k⟩
 .omega
 .rw[k.2];exact⟨Kx hE he,k.1,h1⟩
 .exact⟨⟨⟨⟨he,k.2.2.2.1⟩,k.2.2.2.2⟩,hE.2 p hp i hi⟩,k.2.2.1,k.2.1⟩
end
end Go.VE
namespace Go.VE
theorem gP {a b:List Int}:bg a b↔a.length=b.length/\∀p,p<a.length->nth a p<=nth b p:=by
 constructor
 .intro h;exact⟨h.1,λp hp=>h.nth hp⟩
 .rintro⟨h,k⟩;refine⟨h,λp x y hx hy=>?_⟩
  have:=k p (ζe.1 hx).1;unfold nth at this;rw[hx,hy]at this;exact this
theorem bg.anti {a b:List Int} (h:bg a b) (k:bg b a):a=b:=by
 refine List.ext_getElem h.1 λp hp hq=>?_
 have h1:=h.nth hp;have h2:=k.nth hq;rw[gB hp,gB hq]at h1 h2;omega
section
variable {t:Trace} {A:bh 200 aB} {U:List Int->Prop} {b:Slice}
structure wh (t:Trace) (A:bh 200 aB) (U:List Int->Prop) (b:Slice):Prop where
 e:b.empty=false
 f:U b.first.l
 mn:∀u,U u->bg b.first.l u
 j:b.j.l.length=t.procs.l.length
 rows:∀p,p<t.procs.l.length->si b p=cK t p
 elm:∀p,p<t.procs.l.length->∀i,i<cK t p->(el b p i=[]/\∀u,U u->nth u p<=(i:Int))\/(U (el b p i)/\(i:Int)<nth (el b p i) p/\∀u,U u->(i:Int)<nth u p->bg (el b p i) u)
 lc:Cons t A b.last.l
 lf:bg b.first.l b.last.l
 le:∀p,p<t.procs.l.length->∀i,i<cK t p->U (el b p i)->bg (el b p i) b.last.l
 la:∀p,p<t.procs.l.length->∃v,U v/\nth b.last.l p=nth v p
theorem wh.up (h:wh t A U b) (hU:∀u,U u->Cons t A u) {u:List Int} (hu:U u):bg u b.last.l:=by
 have hC:=hU _ hu;refine gP.2 ⟨hC.1.1.trans h.lc.1.1.symm,λp hp=>?_⟩
 have hp':p<t.procs.l.length:=by rw[<-hC.1.1];exact hp
 have h1:=dg hC hp';have h2:=dg h.lc hp';refine Classical.byContradiction λhn=>?_
 have hi:(nth u p-1).toNat<cK t p:=by omega
 rcases h.elm p hp' _ hi with⟨_,k⟩|⟨k1,k2,k3⟩
 .have:=k u hu;omega
 .have h3:=(h.le p hp' _ hi k1).nth (p:=p) (by rw[(hU _ k1).1.1];exact hp')
  omega
theorem wh.BJ (h:wh t A U b) {p i:Nat} (hp:p<t.procs.l.length) (hi:(i:Int)<nth b.last.l p):i<cK t p/\U (el b p i)/\(i:Int)<nth (el b p i) p/\∀u,U u->(i:Int)<nth u p->bg (el b p i) u:=by
 have h2:=dg h.lc hp;have hie:i<cK t p:=by omega
 obtain⟨v,hv,hve⟩:=h.la p hp;rcases h.elm p hp i hie with⟨_,k⟩|k
 .have:=k v hv;omega
 .exact⟨hie,k⟩
theorem wh.form (h:wh t A U b) (hU:∀u,U u->Cons t A u):lg t A b:=by
 have hF:=hU _ h.f;refine⟨⟨⟨⟨⟨⟨hF,h.lc⟩,h.lf⟩,h.j⟩,h.rows⟩,λp hp i hi=>?_⟩,λp hp i hi q hq k hk=>?_⟩
 .by_cases hl:(i:Int)<nth b.last.l p
  .obtain⟨_,k1,k2,k3⟩:=h.BJ hp hl;refine .inr ⟨hl,?_⟩
   by_cases hf:(i:Int)<nth b.first.l p
   .exact .inl ⟨hf,(k3 _ h.f hf).anti (h.mn _ k1)⟩
   .exact .inr ⟨by omega,hU _ k1,k2,h.mn _ k1,h.le p hp i hi k1⟩
  .refine .inl ⟨by omega,?_⟩
   rcases h.elm p hp i hi with⟨k,_⟩|⟨k1,k2,_⟩
   .rw[k];rfl
   .have:=(h.le p hp i hi k1).nth (p:=p) (by rw[(hU _ k1).1.1];exact hp)
    omega
 .obtain⟨_,k1,k2,k3⟩:=h.BJ hp hi;have hC:=hU _ k1;have hq':q<t.procs.l.length:=by rw[<-hC.1.1];exact hq
  have:=dg hC hq';rcases h.elm q hq' k (by omega)with⟨_,m⟩|⟨_,_,m⟩
  .have:=m _ k1;omega
  .exact m _ k1 hk
theorem wh.valid (h:wh t A U b) (hU:∀u,U u->Cons t A u):k_ t A b:=.inr ⟨h.e,h.form hU⟩
theorem cover (hU:∀u,U u->Cons t A u) (hJ:∀u v w,U u->U v->j9 dO u v w->U w) {c u0:List Int} (hl:c.length=t.procs.l.length) (h0:U u0) (hle:bg u0 c)
 (h:∀p,p<t.procs.l.length->0<nth c p->∃u,U u/\bg u c/\nth c p<=nth u p):U c:=by
 have key:∀k,k<=t.procs.l.length->∃u,U u/\bg u c/\∀p,p<k->nth c p<=nth u p:=by
  intro k
  induction k with
  | zero=>exact λ_=>⟨u0,h0,hle,λp hp=>absurd hp (by omega)⟩
  | succ k ih=>
   intro hk;obtain⟨u,h1,h2,h3⟩:=ih (by omega)
   by_cases hp:0<nth c k
   .obtain⟨v,g1,g2,g3⟩:=h k (by omega) hp
    have hlen:u.length=v.length:=h2.1.trans g2.1.symm;have hz:=j9.of dO hlen;obtain⟨m1,m2,m3⟩:=hz.le_max hlen;refine⟨_,hJ u v _ h1 g1 hz,m3 c h2 g2,λp hp'=>?_⟩
    rcases Nat.lt_or_eq_of_le (Nat.lt_succ_iff.1 hp')with q|rfl
    .exact Int.le_trans (h3 p q) (m1.nth (by rw[h2.1];omega))
    .exact Int.le_trans g3 (m2.nth (by rw[g2.1];omega))
   .refine⟨u,h1,h2,λp hp'=>?_⟩
    rcases Nat.lt_or_eq_of_le (Nat.lt_succ_iff.1 hp')with q|rfl
    .exact h3 p q
    .have:=dg (hU u h1) (p:=p) (by omega);omega
 obtain⟨u,h1,h2,h3⟩:=key _ (Nat.le_refl _);have:u=c:=h2.anti (gP.2 ⟨h2.1.symm,λp hp=>h3 p (by omega)⟩)
 exact this▸h1
theorem wh.has (h:wh t A U b) (hU:∀u,U u->Cons t A u) (hJ:∀u v w,U u->U v->j9 dO u v w->U w) {c:List Int} (hC:Cons t A c):kN b c↔U c:=by
 constructor
 .rintro⟨⟨⟨_,h1⟩,h2⟩,h3⟩;refine cover hU hJ hC.1.1 h.f h1 λp hp hp0=>?_
  have hpl:p<c.length:=by rw[hC.1.1];exact hp
  have h4:=h2.nth hpl;obtain⟨_,k1,k2,_⟩:=h.BJ hp (i:=(nth c p-1).toNat) (by omega)
  exact⟨_,k1,h3 p hpl _ (by omega),by omega⟩
 .intro hc;refine⟨⟨⟨h.e,h.mn _ hc⟩,h.up hU hc⟩,λp hp i hi=>?_⟩
  have hp':p<t.procs.l.length:=by rw[<-hC.1.1];exact hp
  have:=dg hC hp';rcases h.elm p hp' i (by omega)with⟨_,k⟩|⟨_,_,k⟩
  .have:=k _ hc;omega
  .exact k _ hc hi
end
end Go.VE
namespace Go.VE
end Go.VE
namespace Go.VE
end Go.VE
namespace Go.VE
theorem yC {t:Trace} (hV:VT t) {A:bh 200 aB} (hM:dG t (aR t) A):Cons t A (t.procs.l.map λP=>(P.events.l.length:Int)):=by
 refine⟨⟨by simp,λp a P ha hP=>?_⟩,λp k e a hat ha hk he=>?_⟩
 .rw[List.getElem?_map,hP]at ha;cases ha;constructor <;> simp
 .obtain⟨q,j,y,hy,_,_,_,_,h5⟩:=wS hV hM hat he;obtain⟨Q,hQ,hj⟩:=hy;have hjl:=(ζe.1 hj).1;rw[h5];refine⟨(Q.events.l.length:Int),?_,by simp only;omega⟩
  simp only[Int.toNat_natCast,List.getElem?_map,hQ,Option.map_some]
end Go.VE
namespace Go.VE
theorem fR {c:List Int} {q p:Nat} {v:Int} (hp:p<c.length):nth (c.set q v) p=if p=q then v else nth c p:=by
 unfold nth
 by_cases e:p=q
 .subst e;rw[if_pos rfl,List.getElem?_set_self hp];rfl
 .rw[if_neg e,List.getElem?_set_ne (Ne.symm e)]
theorem vW {c:List Int} {p:Nat} (hp:p<c.length):c[p]? = some (nth c p):=by rw[gB hp,ζd hp]
section
variable {t:Trace} {A:bh 200 aB} {s:Slice}
theorem B9 (hV:VT t) (hM:dG t (aR t) A) {c:List Int} (hC:Cons t A c):∀(n:Nat) {d:List Int},Cons t A d->d.sum=(n:Int) ->
 bg d c\/∃p,p<t.procs.l.length/\nth c p<nth d p/\Cons t A (c.set p (nth c p+1))
 | 0,d,hD,hs=>by
  refine .inl (gP.2 ⟨hD.1.1.trans hC.1.1.symm,λp hp=>?_⟩)
  have:=Er hD.1.pos hs p _ (vW hp);have:=dg hC (p:=p) (by rw[<-hD.1.1];exact hp)
  omega
 | n+1,d,hD,hs=>by
  obtain⟨q,b,hb,h0,hD'⟩:=hD.down hV hM (by omega)
  have hq:=(ζe.1 hb).1;have hqt:q<t.procs.l.length:=by rw[<-hD.1.1];exact hq
  have hbn:nth d q=b:=by unfold nth;rw[hb];rfl
  rcases B9 hV hM hC n hD' (by rw[pQ hb];omega)with h|⟨p,h1,h2,h3⟩
  .rw[gP]at h;obtain⟨hl,h⟩:=h;rw[List.length_set]at hl h
   by_cases hc:b<=nth c q
   .refine .inl (gP.2 ⟨hl,λp hp=>?_⟩)
    have:=h p hp;rw[fR hp]at this;split at this
    .rename_i e;subst e;omega
    .exact this
   .have h1:=h q hq;rw[fR hq,if_pos rfl]at h1;have hcb:nth c q=b-1:=by omega
    refine .inr ⟨q,hqt,by omega,?_⟩
    have hz:j9 dO c d (c.set q (nth c q+1)):=by
     refine⟨by rw[List.length_set],λp x y hx hy=>?_⟩
     have hpc:=(ζe.1 hx).1;have hpd:=(ζe.1 hy).1;have e1:nth c p=x:=by unfold nth;rw[hx];rfl
     have e2:nth d p=y:=by unfold nth;rw[hy];rfl
     rw[vW (by rw[List.length_set];exact hpc),fR hpc]
     have h2:=h p hpd;rw[fR hpd]at h2
     congr 1
     unfold dO;split
     .rename_i e;subst e;rw[if_pos (by omega)];omega
     .rename_i e;rw[if_neg e]at h2;rw[if_neg (by omega)];omega
    exact join_cons hC hD hz
  .refine .inr ⟨p,h1,?_,h3⟩;rw[fR (by rw[hD.1.1];exact h1)]at h2
   split at h2
   .rename_i e;subst e;omega
   .exact h2
theorem Cons.HK {c:List Int} (hC:Cons t A c):c.sum=(c.sum.toNat:Int):=by have:=hC.1.sum;omega
theorem B_ {c:List Int} (hC:Cons t A c) {p:Nat} (hp:p<t.procs.l.length) (h:Cons t A (c.set p (nth c p+1))):kO t A c (c.set p (nth c p+1)):=
 ⟨p,_,vW (by rw[hC.1.1];exact hp),rfl,h⟩
theorem kO.to {c d:List Int} (hC:Cons t A c) (h:kO t A c d):∃p,p<t.procs.l.length/\d=c.set p (nth c p+1)/\Cons t A d:=by
 obtain⟨p,a,h1,h2,h3⟩:=h;have hp:=(ζe.1 h1).1;have:nth c p=a:=by unfold nth;rw[h1];rfl
 exact⟨p,by rw[<-hC.1.1];exact hp,by rw[this];exact h2,h3⟩
theorem kO.le {c d:List Int} (hC:Cons t A c) (h:kO t A c d):bg c d:=by
 obtain⟨p,hp,rfl,_⟩:=h.to hC;refine gP.2 ⟨by rw[List.length_set],λq hq=>?_⟩
 rw[fR hq];split
 .rename_i e;subst e;omega
 .omega
theorem BO (hV:VT t) (hM:dG t (aR t) A) {c d:List Int} (hC:Cons t A c) (hD:Cons t A d) (h:bg c d) (hn:c≠d):∃p,p<t.procs.l.length/\nth c p<nth d p/\kO t A c (c.set p (nth c p+1))/\bg (c.set p (nth c p+1)) d:=by
 rcases B9 hV hM hC _ hD hD.HK with k|⟨p,h1,h2,h3⟩
 .exact absurd (h.anti k) hn
 .refine⟨p,h1,h2,B_ hC h1 h3,gP.2 ⟨by rw[List.length_set];exact h.1,λq hq=>?_⟩⟩
  rw[List.length_set]at hq;rw[fR hq];split
  .rename_i e;subst e;omega
  .exact h.nth hq
theorem Qh (hV:VT t) (hM:dG t (aR t) A) (hF:lg t A s) (he:s.empty=false) {c:List Int} (hC:Cons t A c):bg c s.last.l↔kN s c\/∃d,kO t A c d/\bg d s.last.l:=by
 have hL:Cons t A s.last.l:=hF.1.1.1.1.1.2;constructor
 .intro h
  by_cases e:c=s.last.l
  .exact .inl (e▸K_ hF he)
  .obtain⟨p,_,_,h3,h4⟩:=BO hV hM hC hL h e;exact .inr ⟨_,h3,h4⟩
 .rintro (h|⟨d,h1,h2⟩)
  .exact h.1.2
  .exact(h1.le hC).trans h2
def kI (t:Trace):List Int:=t.procs.l.map λP=>(P.events.l.length:Int)
theorem nu {p:Nat} (hp:p<t.procs.l.length):nth (kI t) p=cK t p:=by unfold nth kI;rw[List.getElem?_map,ζd hp,jR hp];rfl
theorem wG {c:List Int} (hC:Cons t A c):bg c (kI t):=
 gP.2 ⟨by rw[hC.1.1];simp[kI],λp hp=>by
  have hp':p<t.procs.l.length:=by rw[<-hC.1.1];exact hp
  rw[nu hp'];exact(dg hC hp').2⟩
theorem BQ (hV:VT t) (hM:dG t (aR t) A) {c:List Int} (hC:Cons t A c) (h:∀d,¬kO t A c d):c=kI t:=
 Classical.byContradiction λhn=>by
  obtain⟨p,_,_,h3,_⟩:=BO hV hM hC (yC hV hM) (wG hC) hn;exact h _ h3
structure EB (t:Trace) (A:bh 200 aB) (s:Slice) (own:Nat->Nat->List Int) (B:List Int):Prop where
 len:B.length=t.procs.l.length
 f:∀q,q<t.procs.l.length->nth s.first.l q<=nth B q
 up:∀p,p<t.procs.l.length->∀i,i<cK t p->∀q,q<t.procs.l.length->nth (own p i) q<nth (el s p i) q->nth (el s p i) q<=nth B q
 at_:∀q,q<t.procs.l.length->nth B q=nth s.first.l q\/∃p,p<t.procs.l.length/\∃i,i<cK t p/\nth (own p i) q<nth (el s p i) q/\nth (el s p i) q=nth B q
def Jm (t:Trace) (A:bh 200 aB) (own:Nat->Nat->List Int):Prop:=∀p,p<t.procs.l.length->∀i,i<cK t p->Cons t A (own p i)/\(i:Int)<nth (own p i) p/\∀u,Cons t A u->(i:Int)<nth u p->bg (own p i) u
theorem Sd {own:Nat->Nat->List Int} {B:List Int} (hO:Jm t A own) (hB:EB t A s own B) (hF:lg t A s) (he:s.empty=false) (hw:s.last.l=kI t) {c:List Int} (hC:Cons t A c) (h:bg B c):kN s c:=by
 have h1:Cons t A s.first.l:=hF.1.1.1.1.1.1
 refine⟨⟨⟨he,gP.2 ⟨h1.1.1.trans hC.1.1.symm,λp hp=>?_⟩⟩,by rw[hw];exact wG hC⟩,λp hp i hi=>?_⟩
 .have hp':p<t.procs.l.length:=by rw[<-h1.1.1];exact hp
  exact Int.le_trans (hB.f p hp') (h.nth (by rw[hB.len];exact hp'))
 .have hp':p<t.procs.l.length:=by rw[<-hC.1.1];exact hp
  have hie:i<cK t p:=by have:=(dg hC hp').2;omega
  obtain⟨o1,o2,o3⟩:=hO p hp' i hie;have hle:=o3 c hC hi;obtain⟨_,_,hel⟩:=sM hF he hp' (i:=i) (by rw[hw,nu hp'];omega)
  refine gP.2 ⟨hel.1.1.trans hC.1.1.symm,λq hq=>?_⟩
  have hq':q<t.procs.l.length:=by rw[<-hel.1.1];exact hq
  by_cases hlt:nth (own p i) q<nth (el s p i) q
  .exact Int.le_trans (hB.up p hp' i hie q hq' hlt) (h.nth (by rw[hB.len];exact hq'))
  .have:=hle.nth (p:=q) (by rw[o1.1.1];exact hq')
   omega
theorem QS {own:Nat->Nat->List Int} {B:List Int} (hV:VT t) (hM:dG t (aR t) A) (hO:Jm t A own) (hB:EB t A s own B) {c:List Int} (hC:Cons t A c) (hH:kN s c) (h:∀d,kO t A c d->bg B d):bg B c:=by
 have hcl:=hC.1.1;refine gP.2 ⟨hB.len.trans hcl.symm,λq hq=>Classical.byContradiction λhn=>?_⟩
 have hq':q<t.procs.l.length:=by rw[<-hB.len];exact hq
 have h1:=hH.1.1.2.nth (p:=q) (by rw[hH.1.1.2.1,hcl];exact hq')
 rcases hB.at_ q hq' with e|⟨p,hp,i,hi,h2,h3⟩
 .omega
 .obtain⟨o1,o2,o3⟩:=hO p hp i hi;have hnot:¬(i:Int)<nth c p:=λhin=>by
   have hle:=hH.2 p (by rw[hcl];exact hp) i hin
   have:=hle.nth (p:=q) (by rw[hle.1,hcl];exact hq')
   omega
  rcases B9 hV hM hC _ o1 o1.HK with k|⟨r,g1,g2,g3⟩
  .have:=k.nth (p:=p) (by rw[o1.1.1];exact hp);omega
  .have h4:=(h _ (B_ hC g1 g3)).nth (p:=q) (by rw[hB.len];exact hq')
   rw[fR (by rw[hcl];exact hq')]at h4
   split at h4
   .rename_i e;subst e;omega
   .omega
structure FN (t:Trace) (s:Slice) (B:List Int):Prop where
 len:B.length=t.procs.l.length
 f:bg s.first.l B
 up:∀p,p<t.procs.l.length->∀i,i<cK t p->∀q,q<t.procs.l.length->∀k,k<cK t q->(p≠q\/i≠k)->el s p i=el s q k->¬bg (el s p i) s.first.l->bg (el s p i) B
 at_:∀r,r<t.procs.l.length->nth B r=nth s.first.l r\/∃p,p<t.procs.l.length/\∃i,i<cK t p/\∃q,q<t.procs.l.length/\∃k,k<cK t q/\(p≠q\/i≠k)/\el s p i=el s q k/\nth (el s p i) r=nth B r
theorem On {B:List Int} (hB:FN t s B) (hF:lg t A s) (he:s.empty=false) (hw:s.last.l=kI t) {c d:List Int} (hC:Cons t A c) (hH:kN s c) (hs:kO t A c d) (hd:kN s d) (h:bg B d):bg B c:=by
 have hcl:=hC.1.1;obtain⟨r,hr,rfl,hD⟩:=hs.to hC;refine gP.2 ⟨hB.len.trans hcl.symm,λq hq=>Classical.byContradiction λhn=>?_⟩
 have hq':q<t.procs.l.length:=by rw[<-hB.len];exact hq
 have h1:=hH.1.1.2.nth (p:=q) (by rw[hH.1.1.2.1,hcl];exact hq')
 have h2:=h.nth (p:=q) hq;rw[fR (by rw[hcl];exact hq')]at h2
 split at h2
 .rename_i e;subst e;rcases hB.at_ q hq' with e|⟨p,hp,i,hi,p',hp',k,hk,hne,hee,hb⟩
  .omega
  .have key:∀p,p<t.procs.l.length->∀i,i<cK t p->nth (el s p i) q=nth B q->bg (el s p i) B->p=q/\(i:Int)=nth c q:=by
    intro p hp i hi hb hle;obtain⟨_,g2,g3⟩:=sM hF he hp (i:=i) (by rw[hw,nu hp];omega)
    have g4:¬(i:Int)<nth c p:=λhin=>by
     have hle:=hH.2 p (by rw[hcl];exact hp) i hin
     have:=hle.nth (p:=q) (by rw[hle.1,hcl];exact hq')
     omega
    have g5:=(hle.trans h).nth (p:=p) (by rw[g3.1.1];exact hp)
    rw[fR (by rw[hcl];exact hp)]at g5
    split at g5
    .rename_i e;subst e;exact⟨rfl,by omega⟩
    .omega
   have hnf:¬bg (el s p i) s.first.l:=λk=>by
    have:=k.nth (p:=q) (by rw[k.1,hB.f.1,hB.len];exact hq')
    omega
   have hle:=hB.up p hp i hi p' hp' k hk hne hee hnf;obtain⟨a1,a2⟩:=key p hp i hi hb hle;obtain⟨b1,b2⟩:=key p' hp' k hk (by rw[<-hee];exact hb) (hee▸hle)
   subst a1;subst b1;rcases hne with h|h
   .exact h rfl
   .omega
 .omega
theorem L4 {P:Nat->Nat->Prop} {f:Nat->Nat->Nat} {p i:Nat} (h:P p i):∃p i,P p i/\∀q k,P q k->f p i<=f q k:=by
 have key:∀n p i,f p i<=n->P p i->∃p i,P p i/\∀q k,P q k->f p i<=f q k:=by
  intro n
  induction n with
  | zero=>exact λp i hf hp=>⟨p,i,hp,λq k _=>by omega⟩
  | succ n ih=>
   intro p i hf hp
   by_cases hn:∃q k,P q k/\f q k<f p i
   .obtain⟨q,k,h1,h2⟩:=hn;exact ih q k (by omega) h1
   .exact⟨p,i,hp,λq k hq=>Nat.le_of_not_lt λhl=>hn ⟨q,k,hq,hl⟩⟩
 exact key _ p i (Nat.le_refl _) h
theorem zj:∀{a b:List Int},bg a b->a.sum<=b.sum/\(a.sum=b.sum->a=b)
 | [],[],_=>⟨Int.le_refl _,λ_=>rfl⟩
 | [],_::_,h=>nomatch h.1
 | _::_,[],h=>nomatch h.1
 | x::a,y::b,h=>by
  have h0:=h.2 0 x y rfl rfl;obtain⟨h1,h2⟩:=zj (a:=a) (b:=b) ⟨by simpa using h.1,λp u v hu hv=>h.2 (p+1) u v hu hv⟩
  simp only[List.sum_cons];refine⟨by omega,λe=>?_⟩
  have:x=y:=by omega
  rw[this,h2 (by omega)]
theorem SD {B:List Int} (hV:VT t) (hM:dG t (aR t) A) (hB:FN t s B) (hF:lg t A s) (he:s.empty=false) (hw:s.last.l=kI t) {c:List Int} (hC:Cons t A c) (hH:kN s c) (h:bg B c) (hn:c≠kI t):∃d,kO t A c d/\kN s d/\bg B d:=by
 have hcl:=hC.1.1;have hall:∀p,p<t.procs.l.length->∀i,i<cK t p->kN s (el s p i)/\(i:Int)<nth (el s p i) p/\Cons t A (el s p i):=λp hp i hi=>sM hF he hp (by rw[hw,nu hp];omega)
 obtain⟨p0,hp0,h0,_⟩:=BO hV hM hC (yC hV hM) (wG hC) hn;have h0':=dg hC hp0;rw[show nth (t.procs.l.map λP=>(P.events.l.length:Int)) p0=cK t p0 from nu hp0]at h0
 obtain⟨p,i,⟨hp,hi,hpi⟩,hmin⟩:=L4 (P:=λp i=>p<t.procs.l.length/\i<cK t p/\nth c p<=(i:Int)) (f:=λp i=>(el s p i).sum.toNat) (p:=p0) (i:=(nth c p0).toNat) ⟨hp0,by omega,by omega⟩
 obtain⟨e1,e2,e3⟩:=hall p hp i hi;have hlen:c.length=(el s p i).length:=hcl.trans e3.1.1.symm;have hz:=j9.of dO hlen;have hD:=join_cons hC e3 hz;have hS:=Ek hH e1 hlen hz;obtain⟨m1,m2,m3⟩:=hz.le_max hlen;have one:∀q,q<t.procs.l.length->∀k:Nat,nth c q<=(k:Int)->(k:Int)<nth (el s p i) q->q=p/\k=i:=by
  intro q hq k h1 h2;have hk:k<cK t q:=by have:=(dg e3 hq).2;omega
  obtain⟨f1,f2,f3⟩:=hall q hq k hk;have hle:=e1.2 q (by rw[e3.1.1];exact hq) k h2
  have hs:=hmin q k ⟨hq,hk,h1⟩;obtain⟨s1,s2⟩:=zj hle;have hee:el s q k=el s p i:=s2 (by have:=f3.HK;have:=e3.HK;omega)
  refine Classical.byContradiction λhne=>?_
  have hnf:¬bg (el s p i) s.first.l:=λk'=>by
   have a:=(k'.trans hH.1.1.2).nth (p:=p) (by rw[e3.1.1];exact hp)
   omega
  have a:=((hB.up p hp i hi q hq k hk (by omega) hee.symm hnf).trans h).nth (p:=p) (by rw[e3.1.1];exact hp)
  omega
 have hcp:=(dg hC hp).1;have hip:(i:Int)=nth c p:=by
  have:=(one p hp (nth c p).toNat (by omega) (by omega)).2
  omega
 have hd:List.zipWith dO c (el s p i)=c.set p (nth c p+1):=by
  refine(gP.2 ⟨hD.1.1.trans (by rw[List.length_set,hcl]),λq hq=>?_⟩:bg _ _).anti (gP.2 ⟨by rw[List.length_set,hcl,hD.1.1],λq hq=>?_⟩)
  .rw[hD.1.1]at hq;rw[hz.nth hlen (by rw[hcl];exact hq),fR (by rw[hcl];exact hq)]
   have hcq:=(dg hC hq).1;split
   .rename_i e;subst e;rcases eV (nth c q) (nth (el s q i) q)with⟨e,_⟩|⟨e,_⟩
    .omega
    .rw[e];refine Classical.byContradiction λhlt=>?_
     have:=(one q hq (nth c q+1).toNat (by omega) (by omega)).2
     omega
   .rename_i hne;rcases eV (nth c q) (nth (el s p i) q)with⟨e,_⟩|⟨e,_⟩
    .omega
    .rw[e];refine Classical.byContradiction λhlt=>?_
     exact hne (one q hq (nth c q).toNat (by omega) (by omega)).1
  .rw[List.length_set,hcl]at hq;rw[hz.nth hlen (by rw[hcl];exact hq),fR (by rw[hcl];exact hq)]
   split
   .rename_i e;subst e;rcases eV (nth c q) (nth (el s q i) q)with⟨e,_⟩|⟨e,_⟩ <;> rw[e] <;> omega
   .rcases eV (nth c q) (nth (el s p i) q)with⟨e,_⟩|⟨e,_⟩ <;> rw[e] <;> omega
 exact⟨_,B_ hC hp (hd▸hD),hd▸hS,h.trans (hd▸m1)⟩
end
end Go.VE
namespace Go.VE
theorem Pb {a b:List Int} (hl:a.length=b.length) (h:∀p,p<a.length->nth a p=nth b p):a=b:=by
 refine List.ext_getElem hl λp hp hq=>?_
 have:=h p hp;rw[gB hp,gB hq]at this;exact this
theorem y8 {g:Int->Int->Int} {a b:List Int} (hl:a.length=b.length) {p:Nat} (hp:p<a.length):nth (List.zipWith g a b) p=g (nth a p) (nth b p):=(j9.of g hl).nth hl hp
theorem Cc {s:Sl Int} {p:Nat} (hp:p<s.l.length):Sl.get s p=some (nth s.l p):=vW hp
theorem zl {a b:Sl Int} (hl:a.l.length=b.l.length) (h0:0<a.l.length) (h60:a.l.length<1073741824):∃r,eB a b=some r/\r.l=List.zipWith dO a.l b.l:=by
 unfold eB;obtain⟨d,h1,h2⟩:=rJ (c:=a) (by omega) h0
 rw[h1,ζb];unfold eB.W1;refine ki b.l.length (λi (q:Sl Int×Int)=>q.2=(i:Int)/\q.1.l.length=a.l.length/\∀p,p<a.l.length->nth q.1.l p=if p<i then dO (nth a.l p) (nth b.l p)else nth a.l p) ⟨rfl,by rw[h2],λp hp=>by rw[h2,if_neg (by omega)]⟩ ?_ ?_
 .rintro i ⟨o,v⟩ hi ⟨rfl,h3,h4⟩;simp only at h3 h4;unfold eB.aA;simp only;obtain⟨r,hr,hre⟩:=put_eq (s:=o) (p:=i) (x:=dO (nth o.l i) (nth b.l i)) (by omega)
  rw[jN hi,aP,aK hi,ζb,AI (by omega),ζb,Cc (by omega),ζb,ζb,<-gB hi]
  rw[show (if nth b.l i>nth o.l i then nth b.l i else nth o.l i)=dO (nth o.l i) (nth b.l i)from rfl,hr,ζb,ah];refine⟨bK i (by omega),by rw[hre,List.length_set];exact h3,λp hp=>?_⟩
  rw[hre,fR (by omega)]
  have:=h4 i (by omega)
  rw[if_neg (by omega)]at this
  by_cases e:p=i
  .subst e;rw[if_pos rfl,if_pos (by omega),this]
  .rw[if_neg e,h4 p hp]
   by_cases e2:p<i
   .rw[if_pos e2,if_pos (by omega)]
   .rw[if_neg e2,if_neg (by omega)]
 .rintro⟨o,v⟩ ⟨rfl,h3,h4⟩;simp only at h3 h4;unfold eB.aA;simp only;rw[jM,bf,ah];refine(ah _).2 ?_;exact Pb (by simp[h3,hl]) λp hp=>by rw[h4 p (by omega),if_pos (by omega),y8 hl (by omega)]
theorem NN {c:Sl Int} {p:Nat} {x:Int} (hp:p<c.l.length) (h60:c.l.length<1073741824):∃r,qI c (p:Int) x=some r/\r.l=c.l.set p (dO (nth c.l p) x):=by
 unfold qI;obtain⟨d,h1,h2⟩:=rJ (c:=c) (by omega) (by omega)
 rw[h1,ζb,AI (by rw[h2];exact hp),ζb,Cc (by rw[h2];exact hp),ζb,ζb]
 obtain⟨r,hr,hre⟩:=put_eq (s:=d) (p:=p) (x:=dO (nth d.l p) x) (by rw[h2];exact hp)
 rw[show (if x>nth d.l p then x else nth d.l p)=dO (nth d.l p) x from rfl,hr,ζb];exact⟨r,rfl,by rw[hre,h2]⟩
section
variable {t:Trace} {A:bh 200 aB} {s:Slice}
theorem MA (hS:Small t):∃r,fc t=some r/\r.l=kI t:=by
 unfold fc fc.W1;refine ki t.procs.l.length (λi (q:Sl Int×Int)=>q.2=(i:Int)/\q.1.l=(kI t).take i) ⟨rfl,rfl⟩ ?_ ?_
 .rintro i ⟨o,v⟩ hi ⟨rfl,h3⟩;simp only at h3;unfold fc.aA;simp only;have hle:o.l.length<=i:=by rw[h3,List.length_take];omega
  obtain⟨r,hr,hre⟩:=tZ (s:=o) (x:=len t.procs.l[i].events) (by have:=hS.1;omega)
  rw[jN hi,aP,aK hi,ζb,hr,ζb,ah];refine⟨bK i (by have:=hS.1;omega),?_⟩
  have hif:i<(kI t).length:=by simp[kI,hi]
  rw[hre,h3,List.take_succ_eq_append_getElem hif];simp[kI,len]
 .rintro⟨o,v⟩ ⟨rfl,h3⟩;simp only at h3;unfold fc.aA;simp only;rw[jM,bf,ah];refine(ah _).2 ?_;rw[h3,List.take_of_length_le (by simp[kI])]
theorem DX (hS:Small t) (hv:bX t=some true) (hV:VT t) (hM:dG t (aR t) A) {c:Sl Int} (hR:gb t c.l) :
 ∃r,mC t c=some r/\Cons t A r.l/\bg c.l r.l/\∀d,Cons t A d->bg c.l d->bg r.l d:=by
 obtain⟨r,hr,_,h2,h3,h4⟩:=Lu hS hv hV hM hR;refine⟨r.1,by unfold mC;rw[hr];rfl,h2,⟨hR.1.trans h2.1.1.symm,h3⟩,λd hd hle=>⟨h2.1.1.trans hd.1.1.symm,h4 d hd hle.2⟩⟩
theorem oO {c:List Int} (hl:c.length=t.procs.l.length):gb t c↔∀p,p<t.procs.l.length->0<=nth c p/\nth c p<=cK t p:=by
 constructor
 .intro h p hp;have hc:=vW (c:=c) (p:=p) (by omega)
  have:=h.2 p _ _ hc (ζd hp);rw[jR hp];exact this
 .intro h;refine⟨hl,λp a P ha hP=>?_⟩
  have hp:=(ζe.1 hP).1;have h1:=h p hp;have e:nth c p=a:=by unfold nth;rw[ha];rfl
  rw[jR hp,e]at h1;rw[(ζe.1 hP).2]at h1;exact h1
theorem E7 {c:List Int} (hR:gb t c) {p i:Nat} (hp:p<t.procs.l.length) (hi:i<cK t p):gb t (c.set p (dO (nth c p) ((i:Int)+1))):=by
 have hl:=hR.1;rw[oO (by rw[List.length_set];exact hl)]
 intro q hq;rw[fR (by omega)]
 have h1:=(oO hl).1 hR q hq;split
 .rename_i e;subst e;rcases eV (nth c q) ((i:Int)+1)with⟨e,_⟩|⟨e,_⟩ <;> rw[e] <;> omega
 .exact h1
theorem G4 {c u:List Int} (hl:c.length=u.length) {p:Nat} {x:Int} (hp:p<c.length):bg (c.set p (dO (nth c p) x)) u↔bg c u/\x<=nth u p:=by
 rw[gP,gP];simp only[List.length_set,hl,true_and];constructor
 .intro h;have h1:=h p (by omega)
  rw[fR hp,if_pos rfl]at h1;rcases eV (nth c p) x with⟨e,_⟩|⟨e,_⟩
  .rw[e]at h1;refine⟨λq hq=>?_,by omega⟩
   have h2:=h q hq;rw[fR (by omega)]at h2
   split at h2
   .rename_i e2;subst e2;exact h1
   .exact h2
  .rw[e]at h1;refine⟨λq hq=>?_,h1⟩
   have h2:=h q hq;rw[fR (by omega)]at h2
   split at h2
   .rename_i e2;subst e2;omega
   .exact h2
 .rintro⟨h1,h2⟩ q hq;rw[fR (by omega)]
  split
  .rename_i e;subst e;have:=h1 q hq;rcases eV (nth c q) x with⟨e,_⟩|⟨e,_⟩ <;> rw[e] <;> omega
  .exact h1 q hq
theorem vQ {a b:List Int} (ha:gb t a) (hb:gb t b):gb t (List.zipWith dO a b):=by
 have hl:a.length=b.length:=ha.1.trans hb.1.symm;rw[oO (by rw[List.length_zipWith,hl,Nat.min_self];exact hb.1)]
 intro p hp;rw[y8 hl (by rw[ha.1];exact hp)]
 have h1:=(oO ha.1).1 ha p hp;have h2:=(oO hb.1).1 hb p hp;rcases eV (nth a p) (nth b p)with⟨e,_⟩|⟨e,_⟩ <;> rw[e] <;> assumption
theorem o7 {a b u:List Int} (hl:a.length=b.length):bg (List.zipWith dO a b) u↔bg a u/\bg b u:=by
 obtain⟨h1,h2,h3⟩:=(j9.of dO hl).le_max hl;exact⟨λh=>⟨h1.trans h,h2.trans h⟩,λh=>h3 u h.1 h.2⟩
theorem Ej:gb t (List.replicate t.procs.l.length 0):=(oO (by simp)).2 λp hp=>by unfold nth;rw[List.getElem?_replicate,if_pos hp];exact⟨Int.le_refl _,by simp⟩
end
end Go.VE
namespace Go.VE
section
variable {t:Trace} {A:bh 200 aB} {U:List Int->Prop}
def SS (U:List Int->Prop) (p i:Nat) (e:List Int):Prop:=(e=[]/\∀u,U u->nth u p<=(i:Int))\/(U e/\(i:Int)<nth e p/\∀u,U u->(i:Int)<nth u p->bg e u)
def BI (U:List Int->Prop) (p:Nat) (l:Sl (Sl Int)) (n:Nat) (last:List Int):Prop:=l.l.length=n/\∀(i:Nat) (e:Sl Int),l.l[i]? = some e->SS U p i e.l/\(U e.l->bg e.l last)
def zm (t:Trace) (A:bh 200 aB) (U:List Int->Prop) (f last:List Int):Prop:=Cons t A last/\bg f last/\∀q,q<t.procs.l.length->∃v,U v/\nth last q=nth v q
theorem BI.up {p n:Nat} {l:Sl (Sl Int)} {a b:List Int} (h:BI U p l n a) (hab:bg a b):BI U p l n b:=⟨h.1,λi e he=>⟨(h.2 i e he).1,λhu=>((h.2 i e he).2 hu).trans hab⟩⟩
def M4 (t:Trace) (U:List Int->Prop) (p1:Sl Int->Option (Sl Int×Bool)):Prop:=∀c:Sl Int,gb t c.l->(∃d,p1 c=some (d,true)/\U d.l/\bg c.l d.l/\∀u,U u->bg c.l u->bg d.l u)\/(p1 c=some (Sl.nil,false)/\∀u,U u->¬bg c.l u)
theorem zm.join {f last d:List Int} (hU:∀u,U u->Cons t A u) (h:zm t A U f last) (hd:U d):zm t A U f (List.zipWith dO last d)/\bg last (List.zipWith dO last d)/\bg d (List.zipWith dO last d):=by
 obtain⟨h1,h2,h3⟩:=h;have hl:last.length=d.length:=h1.1.1.trans (hU d hd).1.1.symm;obtain⟨m1,m2,_⟩:=(j9.of dO hl).le_max hl;refine⟨⟨join_cons h1 (hU d hd) (j9.of dO hl),h2.trans m1,λq hq=>?_⟩,m1,m2⟩
 rw[y8 hl (by rw[h1.1.1];exact hq)]
 rcases eV (nth last q) (nth d q)with⟨e,_⟩|⟨e,_⟩
 .rw[e];exact h3 q hq
 .exact⟨d,hd,e⟩
theorem zero_le {u:List Int} (hu:Cons t A u):bg (List.replicate t.procs.l.length 0) u:=gP.2 ⟨by rw[hu.1.1];exact List.length_replicate,λp hp=>by
 have hp':p<t.procs.l.length:=by simpa using hp
 have:=(dg hu hp').1;unfold nth at this ⊢;rw[List.getElem?_replicate,if_pos hp'];exact this⟩
theorem Ef (hS:Small t) (hV:VT t) (hU:∀u,U u->Cons t A u) {p1:Sl Int->Option (Sl Int×Bool)} (hP:M4 t U p1) :
 ∃b,cW t p1=some b/\((b=⟨true,.nil,.nil,.nil⟩/\∀u,¬U u)\/wh t A U b):=by
 have hn8:=hV.few;have hone:=hV.ok.one;unfold cW;have hz:nZ (len t.procs) (0:Int)=some (.row (List.replicate t.procs.l.length 0)):=by
  unfold nZ;rw[if_pos (by simp[len];omega)];simp[len]
 rw[hz,ζb];rcases hP (.row (List.replicate t.procs.l.length 0)) Ej with⟨f,hf,fU,_,fm⟩|⟨hf,hno⟩
 rotate_left
 .rw[hf,ζb,bf];exact⟨_,rfl,.inl ⟨rfl,λu hu=>hno u hu (zero_le (hU u hu))⟩⟩
 have hfC:=hU _ fU;have fmin:∀u,U u->bg f.l u:=λu hu=>fm u hu (zero_le (hU u hu))
 rw[hf,ζb,aP];obtain⟨g,hg,hge⟩:=rJ (c:=f) (by rw[hfC.1.1];omega) (by rw[hfC.1.1];omega)
 rw[hg,ζb];unfold cW.W1;have hev:∀p,p<t.procs.l.length->cK t p<1073741824:=λp hp=>by rw[jR hp];exact(hS.2 _ (List.getElem_mem hp)).1
 refine ki t.procs.l.length (λk (q:Int×Slice×Slice)=>q.1=(k:Int)/\q.2.2.empty=false/\q.2.2.first=f/\zm t A U f.l q.2.2.last.l/\q.2.2.j.l.length=k/\∀p l,q.2.2.j.l[p]? = some l->BI U p l (cK t p) q.2.2.last.l) ⟨rfl,rfl,rfl,⟨by rw[hge];exact hfC,by rw[hge];exact bg.refl _,λq _=>⟨f.l,fU,by rw[hge]⟩⟩,rfl,λp l h=>by simp[Sl.l]at h⟩ ?_ ?_
 .rintro k ⟨v,vb,o⟩ hk ⟨rfl,i1,i2,i3,i4,i5⟩;simp only at i1 i2 i3 i4 i5;unfold cW.aA;simp only;rw[jN hk,aP,aK hk,ζb];unfold cW.W2;have hlen:t.procs.l[k].events.l.length=cK t k:=(jR hk).symm;refine ki (cK t k) (λi (q:Sl (Sl Int)×Int×Slice×Slice)=>q.2.1=(i:Int)/\BI U k q.1 i q.2.2.2.last.l/\q.2.2.2.empty=false/\q.2.2.2.first=f/\zm t A U f.l q.2.2.2.last.l/\q.2.2.2.j=o.j/\bg o.last.l q.2.2.2.last.l) ⟨rfl,⟨rfl,λi e h=>by simp[Sl.l]at h⟩,i1,i2,i3,rfl,bg.refl _⟩ ?_ ?_
  .rintro i ⟨l,v,vb2,o2⟩ hi ⟨rfl,j1,j2,j3,j4,j5,j6⟩;simp only at j1 j2 j3 j4 j5 j6;unfold cW.aX;simp only;have he:=hev k hk;rw[show (len t.procs.l[k].events)=((cK t k:Nat):Int)by simp[len,hlen],show decide ((i:Int)<((cK t k:Nat):Int))=true by simpa using hi,aP,bK i (by omega)]
   obtain⟨w,hw,hwe⟩:=NN (c:=f) (p:=k) (x:=((i+1:Nat):Int)) (by rw[hfC.1.1];exact hk) (by rw[hfC.1.1];omega)
   rw[hw,ζb];have hwR:gb t w.l:=by rw[hwe];exact E7 hfC.1 hk hi
   have hwle:∀u,Cons t A u->(bg w.l u↔bg f.l u/\(i:Int)<nth u k):=λu hu=>by
    rw[hwe,G4 (by rw[hfC.1.1,hu.1.1]) (by rw[hfC.1.1];exact hk)]
    constructor
    .rintro⟨a,b⟩;exact⟨a,by omega⟩
    .rintro⟨a,b⟩;exact⟨a,by omega⟩
   have hll:l.l.length<2147483648:=by rw[j1.1];omega
   rcases hP w hwR with⟨d,hd,dU,dle,dm⟩|⟨hd,hno⟩
   .rw[hd,ζb,aP];have hdC:=hU _ dU;have hll2:o2.last.l.length=d.l.length:=j4.1.1.1.trans hdC.1.1.symm;obtain⟨r,hr,hre⟩:=zl hll2 (by rw[hll2,hdC.1.1];omega) (by rw[hll2,hdC.1.1];omega)
    rw[hr,ζb];unfold cW.J3;obtain⟨l',hl',hle'⟩:=tZ (s:=l) (x:=d) hll;rw[hl',ζb,ah];obtain⟨k1,k2,k3⟩:=zm.join hU j4 dU;refine⟨bK i (by omega),⟨by rw[hle'];simp[j1.1],λi' e he'=>?_⟩,j2,j3,by rw[hre];exact k1,j5,by rw[hre];exact j6.trans k2⟩
    simp only[hre];rw[hle']at he'
    by_cases hi':i'<l.l.length
    .rw[List.getElem?_append_left hi']at he';obtain⟨a,b⟩:=j1.2 i' e he';exact⟨a,λhu=>(b hu).trans k2⟩
    .have:i'=i:=by
      have:=(ζe.1 he').1;simp at this;have:=j1.1;omega
     subst this;have hj:=j1.1;rw[<-hj,List.getElem?_concat_length]at he';cases he';exact⟨.inr ⟨dU,((hwle _ hdC).1 dle).2,λu hu hlt=>dm u hu ((hwle u (hU u hu)).2 ⟨fmin u hu,hlt⟩)⟩,λ_=>k3⟩
   .rw[hd,ζb,bf];unfold cW.J3;obtain⟨l',hl',hle'⟩:=tZ (s:=l) (x:=(Sl.nil:Sl Int)) hll;rw[hl',ζb,ah];refine⟨bK i (by omega),⟨by rw[hle'];simp[j1.1],λi' e he'=>?_⟩,j2,j3,j4,j5,j6⟩
    rw[hle']at he'
    by_cases hi':i'<l.l.length
    .rw[List.getElem?_append_left hi']at he';exact j1.2 i' e he'
    .have:i'=i:=by
      have:=(ζe.1 he').1;simp at this;have:=j1.1;omega
     subst this;have hj:=j1.1;rw[<-hj,List.getElem?_concat_length]at he';cases he';refine⟨.inl ⟨rfl,λu hu=>?_⟩,λhu=>?_⟩
     .refine Classical.byContradiction λhlt=>hno u hu ((hwle u (hU u hu)).2 ⟨fmin u hu,by omega⟩)
     .have h0:(Sl.nil:Sl Int).l.length=t.procs.l.length:=(hU _ hu).1.1;have:(Sl.nil:Sl Int).l.length=0:=rfl;omega
  .rintro⟨l,v,vb2,o2⟩ ⟨rfl,j1,j2,j3,j4,j5,j6⟩;simp only at j1 j2 j3 j4 j5 j6;unfold cW.aX;simp only;rw[show (len t.procs.l[k].events)=((cK t k:Nat):Int)by simp[len,hlen],show decide (((cK t k:Nat):Int)<((cK t k:Nat):Int))=false by simp,bf,ah]
   obtain⟨j',hj',hje'⟩:=tZ (s:=o2.j) (x:=l) (by rw[j5,i4];omega)
   show Wp ((kf o2.j l).bind _) _;rw[hj',ζb,ah];refine⟨bK k (by omega),j2,j3,j4,by rw[hje',j5];simp[i4],λp l2 hp=>?_⟩
   rw[hje',j5]at hp
   by_cases hpk:p<o.j.l.length
   .rw[List.getElem?_append_left hpk]at hp;exact(i5 p l2 hp).up j6
   .have:p=k:=by
     have:=(ζe.1 hp).1;simp at this;omega
    subst this;rw[<-i4,List.getElem?_concat_length]at hp;cases hp;exact j1
 .rintro⟨v,vb,o⟩ ⟨rfl,i1,i2,i3,i4,i5⟩;simp only at i1 i2 i3 i4 i5;unfold cW.aA;simp only;rw[jM,bf,ah];refine(ah _).2 (.inr ?_);have row:∀p,p<t.procs.l.length->∃l,o.j.l[p]? = some l/\BI U p l (cK t p) o.last.l:=λp hp=>⟨_,ζd (by rw[i4];exact hp),i5 p _ (ζd (by rw[i4];exact hp))⟩
  have elq:∀p,p<t.procs.l.length->∀i,i<cK t p->SS U p i (el o p i)/\(U (el o p i)->bg (el o p i) o.last.l):=λp hp i hi=>by
   obtain⟨l,h1,h2⟩:=row p hp;have hil:i<l.l.length:=by rw[h2.1];exact hi
   have:=h2.2 i _ (ζd hil);unfold el;rw[h1];simp only[ζd hil];exact this
  exact⟨i1,by rw[i2];exact fU,λu hu=>by rw[i2];exact fmin u hu,i4,λp hp=>by
   obtain⟨l,h1,h2⟩:=row p hp;unfold si;rw[h1];exact h2.1,λp hp i hi=>(elq p hp i hi).1,i3.1,by rw[i2];exact i3.2.1,λp hp i hi=>(elq p hp i hi).2,i3.2.2⟩
end
end Go.VE
namespace Go.VE
section
variable {t:Trace} {A:bh 200 aB} {L:List Slice}
def tR (t:Trace) (A:bh 200 aB) (L:List Slice) (u:List Int):Prop:=Cons t A u/\∀s∈L,kN s u
structure Inv (t:Trace) (A:bh 200 aB) (L:List Slice) (ci c:List Int):Prop where
 r:gb t c
 le:bg ci c
 mn:∀u,tR t A L u->bg ci u->bg c u
def Pass (c0 c:List Int) (ch:Bool) (D:Prop):Prop:=bg c0 c/\(ch=true->c0.sum<c.sum)/\(ch=false->c=c0/\D)
def MX (s:Slice) (c:List Int) (p:Nat):Prop:=∀i:Nat,(i:Int)<nth c p->bg (el s p i) c
def Jj (s:Slice) (c:List Int) (n:Nat):Prop:=bg c s.last.l/\∀p,p<n->MX s c p
theorem Ou (hS:Small t) (hV:VT t) {l1:Sl Slice} (hL:∀s∈l1.l,s.empty=true\/lg t A s) (hne:l1.l≠[]) (h60:l1.l.length<1073741824) {ci:Sl Int} (hci:gb t ci.l) :
 (∃d,bP ci l1=some (d,true)/\tR t A l1.l d.l/\bg ci.l d.l/\∀u,tR t A l1.l u->bg ci.l u->bg d.l u)\/(bP ci l1=some (Sl.nil,false)/\∀u,tR t A l1.l u->¬bg ci.l u):=by
 have hn8:=hV.few;have hone:=hV.ok.one
 suffices h:Wp (bP ci l1) λr=>(r.2=true/\tR t A l1.l r.1.l/\bg ci.l r.1.l/\∀u,tR t A l1.l u->bg ci.l u->bg r.1.l u)\/(r=(Sl.nil,false)/\∀u,tR t A l1.l u->¬bg ci.l u)by
  obtain⟨⟨d,b⟩,hr,h|h⟩:=h
  .obtain⟨rfl,h⟩:=h;exact .inl ⟨d,hr,h⟩
  .obtain⟨e,h⟩:=h;exact .inr ⟨by rw[hr,e],h⟩
 unfold bP bP.W1;refine ki l1.l.length (λi (q:Sl Int×Int)=>q.2=(i:Int)/\Inv t A l1.l ci.l q.1.l/\∀j s,j<i->l1.l[j]? = some s->s.empty=false/\bg s.first.l q.1.l) ⟨rfl,⟨hci,bg.refl _,λu _ h=>h⟩,λj s hj _=>absurd hj (by omega)⟩ ?_ ?_
 .rintro i ⟨c,v⟩ hi ⟨rfl,i1,i2⟩;simp only at i1 i2;unfold bP.aA;simp only;rw[jN hi,aP,aK hi,ζb];have hmem:l1.l[i]∈l1.l:=List.getElem_mem hi
  cases he:l1.l[i].empty with
  | true=>
   rw[aP,ah];refine(ah _).2 (.inr ⟨rfl,λu hu _=>?_⟩)
   have:=(hu.2 _ hmem).1.1.1;rw[he]at this;cases this
  | false=>
   rw[bf];have hF:=(hL _ hmem).resolve_left (by rw[he];simp)
   have hf:Cons t A l1.l[i].first.l:=hF.1.1.1.1.1.1
   have hl:c.l.length=l1.l[i].first.l.length:=i1.r.1.trans hf.1.1.symm
   obtain⟨r,hr,hre⟩:=zl hl (by rw[i1.r.1];omega) (by rw[i1.r.1];omega)
   rw[hr,ζb,ah];obtain⟨m1,m2⟩:=(o7 hl).1 (bg.refl (List.zipWith dO c.l l1.l[i].first.l))
   refine⟨bK i (by omega),⟨by rw[hre];exact vQ i1.r hf.1,by rw[hre];exact i1.le.trans m1,λu hu hle=>by rw[hre];exact(o7 hl).2 ⟨i1.mn u hu hle,(hu.2 _ hmem).1.1.2⟩⟩,λj s hj hs=>?_⟩
   simp only[hre];rcases Nat.lt_or_eq_of_le (Nat.lt_succ_iff.1 hj)with hj|rfl
   .obtain⟨a,b⟩:=i2 j s hj hs;exact⟨a,b.trans m1⟩
   .rw[ζd hi]at hs;cases hs;exact⟨he,m2⟩
 .rintro⟨c,v⟩ ⟨rfl,i1,i2⟩;simp only at i1 i2;unfold bP.aA;simp only;rw[jM,bf,ah];have hall:∀s∈l1.l,s.empty=false/\lg t A s/\bg s.first.l c.l:=λs hs=>by
   obtain⟨j,hj⟩:=List.mem_iff_getElem?.1 hs;obtain⟨a,b⟩:=i2 j s (ζe.1 hj).1 hj;exact⟨a,(hL s hs).resolve_left (by rw[a];simp),b⟩
  show Wp (bP.W2 c l1 true) _;unfold bP.W2;refine dB (λq:Sl Int×Bool=>Inv t A l1.l ci.l q.1.l/\bg c.l q.1.l/\(q.2=false->∀s∈l1.l,Jj s q.1.l t.procs.l.length)) (λq=>2*((pW t:Int)-q.1.l.sum).toNat+(if q.2 then 1 else 0)) ⟨i1,bg.refl _,λh=>nomatch h⟩ ?_
  rintro⟨c0,ch⟩ ⟨j1,j2,j3⟩;simp only at j1 j2 j3;unfold bP.aX;simp only
  cases ch with
  | false=>
   rw[bf,ah];refine(ah _).2 (.inl ⟨rfl,?_,j1.le,j1.mn⟩);have hs:=j3 rfl;obtain⟨s0,hs0⟩:=List.exists_mem_of_ne_nil _ hne;obtain⟨e0,F0,f0⟩:=hall s0 hs0;have hC:Cons t A c0.l:=cover (U:=Cons t A) (λ_ h=>h) (λu v w hu hv hz=>join_cons hu hv hz) j1.r.1 (F0.1.1.1.1.1.1) (f0.trans j2) λp hp hp0=>by
    have hle:=(hs s0 hs0).1;have h1:=hle.nth (p:=p) (by rw[j1.r.1];exact hp)
    obtain⟨_,g2,g3⟩:=sM F0 e0 hp (i:=(nth c0.l p-1).toNat) (by omega)
    exact⟨_,g3,(hs s0 hs0).2 p hp _ (by omega),by omega⟩
   refine⟨hC,λs hs'=>⟨⟨⟨(hall s hs').1,((hall s hs').2.2).trans j2⟩,(hs s hs').1⟩,λp hp i hi=>(hs s hs').2 p (by rw[<-j1.r.1];exact hp) i hi⟩⟩
  | true=>
   rw[aP];unfold bP.W3;refine ki l1.l.length (λi (q:Sl Int×Bool×Int)=>q.2.2=(i:Int)/\Inv t A l1.l ci.l q.1.l/\Pass c0.l q.1.l q.2.1 (∀j s,j<i->l1.l[j]? = some s->Jj s c0.l t.procs.l.length)) ⟨rfl,j1,bg.refl _,λh=>(nomatch h),λ_=>⟨rfl,λj s hj _=>absurd hj (by omega)⟩⟩ ?_ ?_
   .rintro i ⟨c1,ch,v⟩ hi ⟨rfl,k1,k2⟩;simp only at k1 k2;unfold bP.c_;simp only;have hmem:l1.l[i]∈l1.l:=List.getElem_mem hi;obtain⟨he,hF,hf⟩:=hall _ hmem;generalize hsi:l1.l[i]=s at hmem he hF hf;rw[jN hi,aP,aK hi,hsi,ζb];obtain⟨b,hb,hbi⟩:=uh (a:=c1) (b:=s.last) (by rw[k1.r.1];omega)
    rw[hb,ζb];have hlast:Cons t A s.last.l:=hF.1.1.1.1.1.2
    cases b with
    | false=>
     rw[bf,ah];show Wp (some (Fw.r ())) _;rw[ah];refine(ah _).2 (.inr ⟨rfl,λu hu hle=>?_⟩)
     have:=hbi.2 ((k1.mn u hu hle).trans (hu.2 _ hmem).1.2);cases this
    | true=>
     rw[aP];have hle1:=hbi.1 rfl;unfold bP.W4;refine ki c1.l.length (λp (q:Sl Int×Bool×Int)=>q.2.2=(p:Int)/\Inv t A l1.l ci.l q.1.l/\bg c1.l q.1.l/\Pass c0.l q.1.l q.2.1 ((∀j s,j<i->l1.l[j]? = some s->Jj s c0.l t.procs.l.length)/\∀p',p'<p->MX s c0.l p')) ⟨rfl,k1,bg.refl _,k2.1,k2.2.1,λh=>⟨(k2.2.2 h).1,(k2.2.2 h).2,λp' hp'=>absurd hp' (by omega)⟩⟩ ?_ ?_
     .rintro p ⟨c2,ch2,v⟩ hp ⟨rfl,m1,m2,m3⟩;simp only at m1 m2 m3;unfold bP.mZ;simp only;have hp':p<t.procs.l.length:=by rw[<-k1.r.1];exact hp
      have hpj:p<s.j.l.length:=by rw[hF.1.1.1.2];exact hp'
      have hev:=(oO k1.r.1).1 k1.r p hp';have hevb:cK t p<1073741824:=by rw[jR hp'];exact(hS.2 _ (List.getElem_mem hp')).1
      have hlp:=hle1.nth hp;have hrow:s.j.l[p].l.length=cK t p:=by rw[<-kS hpj];exact hF.1.1.2 p hp'
      obtain⟨x,hx,hxl⟩:=qj s.j.l[p] (nth c1.l p).toNat (by omega)
      rw[jN hp,aP,aK hp,ζb,aK hpj,ζb,<-gB hp,show nth c1.l p=(((nth c1.l p).toNat:Nat):Int)by omega,hx,ζb]
      unfold bP.W5;have hxn:x.l.length=(nth c1.l p).toNat:=by rw[hxl,List.length_take];omega
      refine ki x.l.length (λk (q:Sl Int×Bool×Int)=>q.2.2=(k:Int)/\Inv t A l1.l ci.l q.1.l/\bg c1.l q.1.l/\Pass c0.l q.1.l q.2.1 (((∀j s,j<i->l1.l[j]? = some s->Jj s c0.l t.procs.l.length)/\∀p',p'<p->MX s c0.l p')/\∀k',k'<k->bg (el s p k') c0.l)) ⟨rfl,m1,m2,m3.1,m3.2.1,λh=>⟨(m3.2.2 h).1,(m3.2.2 h).2,λk' hk'=>absurd hk' (by omega)⟩⟩ ?_ ?_
      .rintro k ⟨c3,ch3,v⟩ hk ⟨rfl,n1,n2,n3⟩;simp only at n1 n2 n3;unfold bP.oQ;simp only;have hkl:k<s.j.l[p].l.length:=by omega
       have hxe:x.l[k].l=el s p k:=by
        have e1:x.l[k]? = s.j.l[p].l[k]? := by rw[hxl,List.getElem?_take,if_pos (by omega)]
        rw[ζd hk,ζd hkl]at e1;unfold el;rw[ζd hpj];simp only[ζd hkl];rw[Option.some.inj e1]
       obtain⟨g1,g2,g3⟩:=sM hF he hp' (i:=k) (by omega)
       obtain⟨b,hb,hbi⟩:=uh (a:=x.l[k]) (b:=c3) (by rw[hxe,g3.1.1];omega)
       rw[hxe]at hbi;rw[jN hk,aP,aK hk,ζb,hb,ζb]
       cases b with
       | true=>
        rw[aP,ah];refine⟨bK k (by omega),n1,n2,n3.1,n3.2.1,λh=>?_⟩
        obtain⟨a1,a2,a3⟩:=n3.2.2 h;refine⟨a1,a2,λk' hk'=>?_⟩
        rcases Nat.lt_or_eq_of_le (Nat.lt_succ_iff.1 hk')with q|rfl
        .exact a3 k' q
        .exact a1▸hbi.1 rfl
       | false=>
        rw[bf];have hl:c3.l.length=x.l[k].l.length:=by rw[hxe,n1.r.1,g3.1.1]
        obtain⟨r,hr,hre⟩:=zl hl (by rw[n1.r.1];omega) (by rw[n1.r.1];omega)
        rw[hxe]at hre hl;rw[hr,ζb,ah];obtain⟨w1,w2⟩:=(o7 hl).1 (bg.refl (List.zipWith dO c3.l (el s p k)));have hne':c3.l≠List.zipWith dO c3.l (el s p k):=λe=>by
         have:=hbi.2 (by rw[<-e]at w2;exact w2);cases this
        have hsum:c3.l.sum<(List.zipWith dO c3.l (el s p k)).sum:=by
         obtain⟨a,b⟩:=zj w1;rcases Int.lt_or_eq_of_le a with h|h
         .exact h
         .exact absurd (b h) hne'
        refine⟨bK k (by omega),⟨by rw[hre];exact vQ n1.r g3.1,by rw[hre];exact n1.le.trans w1,λu hu hle=>by
         rw[hre];refine(o7 hl).2 ⟨n1.mn u hu hle,?_⟩;have h1:=(n2.trans (n1.mn u hu hle)).nth hp;exact(hu.2 s hmem).2 p (by rw[hu.1.1.1];exact hp') k (by omega)⟩,by rw[hre];exact n2.trans w1,by rw[hre];exact n3.1.trans w1,λ_=>by rw[hre];exact Int.lt_of_le_of_lt (zj n3.1).1 hsum,λh=>nomatch h⟩
      .rintro⟨c3,ch3,v⟩ ⟨rfl,n1,n2,n3⟩;simp only at n1 n2 n3;unfold bP.oQ;simp only;rw[jM,bf,ah];refine(ah _).2 ⟨bK p (by omega),n1,n2,n3.1,n3.2.1,λh=>?_⟩
       obtain⟨a1,⟨a2,a3⟩,a4⟩:=n3.2.2 h;refine⟨a1,a2,λp' hp'=>?_⟩
       rcases Nat.lt_or_eq_of_le (Nat.lt_succ_iff.1 hp')with q|rfl
       .exact a3 p' q
       .intro i' hi';refine a4 i' ?_;rw[hxn];have h1:=n2.nth hp;rw[a1]at h1;have h2:=(k2.1).nth (p:=p') (by rw[j1.r.1];omega)
        omega
     .rintro⟨c2,ch2,v⟩ ⟨rfl,m1,m2,m3⟩;simp only at m1 m2 m3;unfold bP.mZ;simp only;rw[jM,bf,ah];refine(ah _).2 ⟨bK i (by omega),m1,m3.1,m3.2.1,λh=>?_⟩
      obtain⟨a1,a2,a3⟩:=m3.2.2 h;refine⟨a1,λj s' hj hs'=>?_⟩
      rcases Nat.lt_or_eq_of_le (Nat.lt_succ_iff.1 hj)with q|rfl
      .exact a2 j s' q hs'
      .rw[ζd hi,hsi]at hs';cases hs';exact⟨k2.1.trans hle1,λp' hp'=>a3 p' (by rw[k1.r.1];exact hp')⟩
   .rintro⟨c1,ch,v⟩ ⟨rfl,k1,k2⟩;simp only at k1 k2;unfold bP.c_;simp only;rw[jM,bf,ah];refine(ah _).2 ?_;have hs1:=k1.r.sum.2;have hs0:=j1.r.sum.2;refine⟨⟨k1,j2.trans k2.1,λh s hs=>?_⟩,?_⟩
    .simp only at h;obtain⟨a1,a2⟩:=k2.2.2 h;obtain⟨j,hj⟩:=List.mem_iff_getElem?.1 hs;simp only[a1];exact a2 j s (ζe.1 hj).1 hj
    .simp only
     cases ch with
     | true=>
      have:=k2.2.1 rfl;simp only[if_true];omega
     | false=>
      rw[(k2.2.2 rfl).1];simp
end
end Go.VE
