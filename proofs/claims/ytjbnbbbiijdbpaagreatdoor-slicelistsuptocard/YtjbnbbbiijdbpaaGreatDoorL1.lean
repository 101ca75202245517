/-
 SliceLists says true for all arguments that together are of bulk at most 1048576, and they read behind the call as they read before: for every such argument, without a condition.
-/
import Derived.Test.YtjbnbbbiijdbpaaGreatDoorRows
import Derived.Test.YtjbnbbbiijdbpaaGreatDoorCards
import Derived.Test.YtjbnbbbiijdbpaaGreatDoorTie
import Derived.Deep.DeepHandedRow
import Derived.Test.YtjbnbbbiijdbpaaGreatDoorK1
import Derived.Test.YtjbnbbbiijdbpaaGreatDoorG1
set_option linter.all false
namespace Go.VE
instance:bA Assign where
 wt x:=bA.wt x.var+bA.wt x.value+1
 ok x:=bA.ok x.var/\bA.ok x.value/\True
instance:bA Event where
 wt x:=bA.wt x.kind+bA.wt x.peer+bA.wt x.message+bA.wt x.time+bA.wt x.assign+1
 ok x:=bA.ok x.kind/\bA.ok x.peer/\bA.ok x.message/\bA.ok x.time/\bA.ok x.assign/\True
instance:bA Var where
 wt x:=bA.wt x.name+bA.wt x.init_+1
 ok x:=bA.ok x.name/\bA.ok x.init_/\True
instance:bA bG where
 wt x:=bA.wt x.name+bA.wt x.vars+bA.wt x.events+1
 ok x:=bA.ok x.name/\bA.ok x.vars/\bA.ok x.events/\True
instance:bA Trace where
 wt x:=bA.wt x.procs+1
 ok x:=bA.ok x.procs/\True
instance:bA Slice where
 wt x:=bA.wt x.empty+bA.wt x.first+bA.wt x.last+bA.wt x.j+1
 ok x:=bA.ok x.empty/\bA.ok x.first/\bA.ok x.last/\bA.ok x.j/\True
end Go.VE
namespace Go.VE.YtjbnbbbiijdbpaaGreatDoor
open Go.Proofs Go.Proofs.YtjbnbbbiijdbpaaGreatDoor
instance rd9:Reads Tryz.prog 9 ByteArray:=Reads.str Tryz.underlying9 (by kernel_rfl)
instance rd3:Reads Tryz.prog 3 Int:=Reads.int Tryz.underlying3 (by kernel_rfl)
instance aam:Reads Tryz.prog 79 Var:=by
 refine Reads.st Tryz.underlying79 (by kernel_rfl) rfl ?_
 intro H enc w base spare held fuel cs l hl h;simp only[List.mapM_cons,List.mapM_nil,Option.pure_def,Option.bind_eq_bind,ζg,ζa]at h;obtain⟨x0,h0,ys0,⟨x1,h1,ys1,rfl,rfl⟩,rfl⟩:=h;obtain⟨a0,c0,k0,b0⟩:=Reads.rd (P:=Tryz.prog) (t:=9) (α:=ByteArray) (d:=x0.1) (ps:=x0.2) h0;rw[show Tryz.prog.cellsOf 9=1 from by kernel_rfl]at c0
 obtain⟨a1,c1,k1,b1⟩:=Reads.rd (P:=Tryz.prog) (t:=3) (α:=Int) (d:=x1.1) (ps:=x1.2) h1;rw[show Tryz.prog.cellsOf 3=1 from by kernel_rfl]at c1
 refine⟨⟨a0,a1⟩,dK.fin (n:=2) (dK.seg (o:=1) (n:=1) (dK.seg (o:=0) (n:=1) (show dK (snap w) [] (cs.take 0)from by simpa using dK.nil) c0) c1) hl,⟨k0,k1,trivial⟩,λb bo=>?_⟩
 have w0:=b0 b bo;have w1:=b1 b bo;show bA.wt a0+bA.wt a1+1<=_;simp only[List.map_cons,List.map_nil,List.sum_cons,List.sum_nil];omega
instance aad:Reads Tryz.prog 56 (Sl Var):=Reads.sl (e:=79) Tryz.underlying56 (by kernel_rfl) (by decide)
instance Z_:Reads Tryz.prog 152 Assign:=by
 refine Reads.st Tryz.underlying152 (by kernel_rfl) rfl ?_
 intro H enc w base spare held fuel cs l hl h;simp only[List.mapM_cons,List.mapM_nil,Option.pure_def,Option.bind_eq_bind,ζg,ζa]at h;obtain⟨x0,h0,ys0,⟨x1,h1,ys1,rfl,rfl⟩,rfl⟩:=h;obtain⟨a0,c0,k0,b0⟩:=Reads.rd (P:=Tryz.prog) (t:=3) (α:=Int) (d:=x0.1) (ps:=x0.2) h0;rw[show Tryz.prog.cellsOf 3=1 from by kernel_rfl]at c0
 obtain⟨a1,c1,k1,b1⟩:=Reads.rd (P:=Tryz.prog) (t:=3) (α:=Int) (d:=x1.1) (ps:=x1.2) h1;rw[show Tryz.prog.cellsOf 3=1 from by kernel_rfl]at c1
 refine⟨⟨a0,a1⟩,dK.fin (n:=2) (dK.seg (o:=1) (n:=1) (dK.seg (o:=0) (n:=1) (show dK (snap w) [] (cs.take 0)from by simpa using dK.nil) c0) c1) hl,⟨k0,k1,trivial⟩,λb bo=>?_⟩
 have w0:=b0 b bo;have w1:=b1 b bo;show bA.wt a0+bA.wt a1+1<=_;simp only[List.map_cons,List.map_nil,List.sum_cons,List.sum_nil];omega
instance aan:Reads Tryz.prog 68 (Sl Assign):=Reads.sl (e:=152) Tryz.underlying68 (by kernel_rfl) (by decide)
instance aac:Reads Tryz.prog 70 Event:=by
 refine Reads.st Tryz.underlying70 (by kernel_rfl) rfl ?_
 intro H enc w base spare held fuel cs l hl h;simp only[List.mapM_cons,List.mapM_nil,Option.pure_def,Option.bind_eq_bind,ζg,ζa]at h;obtain⟨x0,h0,ys0,⟨x1,h1,ys1,⟨x2,h2,ys2,⟨x3,h3,ys3,⟨x4,h4,ys4,rfl,rfl⟩,rfl⟩,rfl⟩,rfl⟩,rfl⟩:=h;obtain⟨a0,c0,k0,b0⟩:=Reads.rd (P:=Tryz.prog) (t:=3) (α:=Int) (d:=x0.1) (ps:=x0.2) h0;rw[show Tryz.prog.cellsOf 3=1 from by kernel_rfl]at c0
 obtain⟨a1,c1,k1,b1⟩:=Reads.rd (P:=Tryz.prog) (t:=3) (α:=Int) (d:=x1.1) (ps:=x1.2) h1;rw[show Tryz.prog.cellsOf 3=1 from by kernel_rfl]at c1
 obtain⟨a2,c2,k2,b2⟩:=Reads.rd (P:=Tryz.prog) (t:=3) (α:=Int) (d:=x2.1) (ps:=x2.2) h2;rw[show Tryz.prog.cellsOf 3=1 from by kernel_rfl]at c2
 obtain⟨a3,c3,k3,b3⟩:=Reads.rd (P:=Tryz.prog) (t:=3) (α:=Int) (d:=x3.1) (ps:=x3.2) h3;rw[show Tryz.prog.cellsOf 3=1 from by kernel_rfl]at c3
 obtain⟨a4,c4,k4,b4⟩:=Reads.rd (P:=Tryz.prog) (t:=68) (α:=(Sl Assign)) (d:=x4.1) (ps:=x4.2) h4;rw[show Tryz.prog.cellsOf 68=1 from by kernel_rfl]at c4
 refine⟨⟨a0,a1,a2,a3,a4⟩,dK.fin (n:=5) (dK.seg (o:=4) (n:=1) (dK.seg (o:=3) (n:=1) (dK.seg (o:=2) (n:=1) (dK.seg (o:=1) (n:=1) (dK.seg (o:=0) (n:=1) (show dK (snap w) [] (cs.take 0)from by simpa using dK.nil) c0) c1) c2) c3) c4) hl,⟨k0,k1,k2,k3,k4,trivial⟩,λb bo=>?_⟩
 have w0:=b0 b bo;have w1:=b1 b bo;have w2:=b2 b bo;have w3:=b3 b bo;have w4:=b4 b bo;show bA.wt a0+bA.wt a1+bA.wt a2+bA.wt a3+bA.wt a4+1<=_;simp only[List.map_cons,List.map_nil,List.sum_cons,List.sum_nil];omega
instance aai:Reads Tryz.prog 57 (Sl Event):=Reads.sl (e:=70) Tryz.underlying57 (by kernel_rfl) (by decide)
instance aak:Reads Tryz.prog 59 bG:=by
 refine Reads.st Tryz.underlying59 (by kernel_rfl) rfl ?_
 intro H enc w base spare held fuel cs l hl h;simp only[List.mapM_cons,List.mapM_nil,Option.pure_def,Option.bind_eq_bind,ζg,ζa]at h;obtain⟨x0,h0,ys0,⟨x1,h1,ys1,⟨x2,h2,ys2,rfl,rfl⟩,rfl⟩,rfl⟩:=h;obtain⟨a0,c0,k0,b0⟩:=Reads.rd (P:=Tryz.prog) (t:=9) (α:=ByteArray) (d:=x0.1) (ps:=x0.2) h0;rw[show Tryz.prog.cellsOf 9=1 from by kernel_rfl]at c0
 obtain⟨a1,c1,k1,b1⟩:=Reads.rd (P:=Tryz.prog) (t:=56) (α:=(Sl Var)) (d:=x1.1) (ps:=x1.2) h1;rw[show Tryz.prog.cellsOf 56=1 from by kernel_rfl]at c1
 obtain⟨a2,c2,k2,b2⟩:=Reads.rd (P:=Tryz.prog) (t:=57) (α:=(Sl Event)) (d:=x2.1) (ps:=x2.2) h2;rw[show Tryz.prog.cellsOf 57=1 from by kernel_rfl]at c2
 refine⟨⟨a0,a1,a2⟩,dK.fin (n:=3) (dK.seg (o:=2) (n:=1) (dK.seg (o:=1) (n:=1) (dK.seg (o:=0) (n:=1) (show dK (snap w) [] (cs.take 0)from by simpa using dK.nil) c0) c1) c2) hl,⟨k0,k1,k2,trivial⟩,λb bo=>?_⟩
 have w0:=b0 b bo;have w1:=b1 b bo;have w2:=b2 b bo;show bA.wt a0+bA.wt a1+bA.wt a2+1<=_;simp only[List.map_cons,List.map_nil,List.sum_cons,List.sum_nil];omega
instance aao:Reads Tryz.prog 22 (Sl bG):=Reads.sl (e:=59) Tryz.underlying22 (by kernel_rfl) (by decide)
instance aal:Reads Tryz.prog 24 Trace:=by
 refine Reads.st Tryz.underlying24 (by kernel_rfl) rfl ?_
 intro H enc w base spare held fuel cs l hl h;simp only[List.mapM_cons,List.mapM_nil,Option.pure_def,Option.bind_eq_bind,ζg,ζa]at h;obtain⟨x0,h0,ys0,rfl,rfl⟩:=h;obtain⟨a0,c0,k0,b0⟩:=Reads.rd (P:=Tryz.prog) (t:=22) (α:=(Sl bG)) (d:=x0.1) (ps:=x0.2) h0;rw[show Tryz.prog.cellsOf 22=1 from by kernel_rfl]at c0
 refine⟨⟨a0⟩,dK.fin (n:=1) (dK.seg (o:=0) (n:=1) (show dK (snap w) [] (cs.take 0)from by simpa using dK.nil) c0) hl,⟨k0,trivial⟩,λb bo=>?_⟩
 have w0:=b0 b bo;show bA.wt a0+1<=_;simp only[List.map_cons,List.map_nil,List.sum_cons,List.sum_nil];omega
instance rd4:Reads Tryz.prog 4 Bool:=Reads.bool Tryz.underlying4 (by kernel_rfl)
instance aae:Reads Tryz.prog 25 (Sl Int):=Reads.sl (e:=3) Tryz.underlying25 (by kernel_rfl) (by decide)
instance aaq:Reads Tryz.prog 33 (Sl (Sl Int)):=Reads.sl (e:=25) Tryz.underlying33 (by kernel_rfl) (by decide)
instance aah:Reads Tryz.prog 26 (Sl (Sl (Sl Int))):=Reads.sl (e:=33) Tryz.underlying26 (by kernel_rfl) (by decide)
instance aap:Reads Tryz.prog 28 Slice:=by
 refine Reads.st Tryz.underlying28 (by kernel_rfl) rfl ?_
 intro H enc w base spare held fuel cs l hl h;simp only[List.mapM_cons,List.mapM_nil,Option.pure_def,Option.bind_eq_bind,ζg,ζa]at h;obtain⟨x0,h0,ys0,⟨x1,h1,ys1,⟨x2,h2,ys2,⟨x3,h3,ys3,rfl,rfl⟩,rfl⟩,rfl⟩,rfl⟩:=h;obtain⟨a0,c0,k0,b0⟩:=Reads.rd (P:=Tryz.prog) (t:=4) (α:=Bool) (d:=x0.1) (ps:=x0.2) h0;rw[show Tryz.prog.cellsOf 4=1 from by kernel_rfl]at c0
 obtain⟨a1,c1,k1,b1⟩:=Reads.rd (P:=Tryz.prog) (t:=25) (α:=(Sl Int)) (d:=x1.1) (ps:=x1.2) h1;rw[show Tryz.prog.cellsOf 25=1 from by kernel_rfl]at c1
 obtain⟨a2,c2,k2,b2⟩:=Reads.rd (P:=Tryz.prog) (t:=25) (α:=(Sl Int)) (d:=x2.1) (ps:=x2.2) h2;rw[show Tryz.prog.cellsOf 25=1 from by kernel_rfl]at c2
 obtain⟨a3,c3,k3,b3⟩:=Reads.rd (P:=Tryz.prog) (t:=26) (α:=(Sl (Sl (Sl Int)))) (d:=x3.1) (ps:=x3.2) h3;rw[show Tryz.prog.cellsOf 26=1 from by kernel_rfl]at c3
 refine⟨⟨a0,a1,a2,a3⟩,dK.fin (n:=4) (dK.seg (o:=3) (n:=1) (dK.seg (o:=2) (n:=1) (dK.seg (o:=1) (n:=1) (dK.seg (o:=0) (n:=1) (show dK (snap w) [] (cs.take 0)from by simpa using dK.nil) c0) c1) c2) c3) hl,⟨k0,k1,k2,k3,trivial⟩,λb bo=>?_⟩
 have w0:=b0 b bo;have w1:=b1 b bo;have w2:=b2 b bo;have w3:=b3 b bo;show bA.wt a0+bA.wt a1+bA.wt a2+bA.wt a3+1<=_;simp only[List.map_cons,List.map_nil,List.sum_cons,List.sum_nil];omega
end Go.VE.YtjbnbbbiijdbpaaGreatDoor
namespace Go.VE
end Go.VE
namespace Go.VE
abbrev BA {α:Type} (m:Option α):Prop:=Wp m λ_=>True
theorem BA.get {α:Type} {m:Option α} (h:BA m):∃a,m=some a:=let ⟨a,e,_⟩:=h;⟨a,e⟩
theorem BA.ok {m:Option Bool} (h:BA m):m=some (m.getD false):=by obtain⟨a,e,_⟩:=h;rw[e];rfl
def Small (t:Trace):Prop:=t.procs.l.length<1073741824/\∀p∈t.procs.l,p.events.l.length<1073741824/\p.vars.l.length<1073741824/\p.name.size<1073741824/\(∀v∈p.vars.l,v.name.size<1073741824)/\∀e∈p.events.l,e.assign.l.length<1073741824
section
theorem Hr {s:Sl Event} {p:Event->Option Bool} {f:Event->Bool} (hp:∀x∈s.l,p x=some (f x)) (hl:s.l.length<1073741824):dS s p=some (place f s.l):=
 oO hp (by omega) (λi=>rfl)
theorem IA {s:Sl bG} {p:bG->Option Bool} {f:bG->Bool} (hp:∀x∈s.l,p x=some (f x)) (hl:s.l.length<1073741824):d_ s p=some (place f s.l):=
 oO hp (by omega) (λi=>rfl)
theorem Li {s:Sl Var} {p:Var->Option Bool} {f:Var->Bool} (hp:∀x∈s.l,p x=some (f x)) (hl:s.l.length<1073741824):eG s p=some (place f s.l):=
 oO hp (by omega) (λi=>rfl)
theorem Ef {s:Sl Assign} {p:Assign->Option Bool} {f:Assign->Bool} (hp:∀x∈s.l,p x=some (f x)) (hl:s.l.length<1073741824):dJ s p=some (place f s.l):=
 oO hp (by omega) (λi=>rfl)
theorem vW {s:Sl Event} {p:Event->Option Bool} {f:Event->Bool} (hp:∀x∈s.l,p x=some (f x)) (hl:s.l.length<1073741824):eY s p=some (s.l.any f):=by
 unfold eY;rw[Hr hp hl,ζb,oP]
theorem DF {s:Sl bG} {p:bG->Option Bool} {f:bG->Bool} (hp:∀x∈s.l,p x=some (f x)) (hl:s.l.length<1073741824):fC s p=some (s.l.any f):=by
 unfold fC;rw[IA hp hl,ζb,oP]
theorem yq {s:Sl Var} {p:Var->Option Bool} {f:Var->Bool} (hp:∀x∈s.l,p x=some (f x)) (hl:s.l.length<1073741824):eD s p=some (s.l.any f):=by
 unfold eD;rw[Li hp hl,ζb,oP]
theorem Bn {s:Sl Assign} {p:Assign->Option Bool} {f:Assign->Bool} (hp:∀x∈s.l,p x=some (f x)) (hl:s.l.length<1073741824):eO s p=some (s.l.any f):=by
 unfold eO;rw[Ef hp hl,ζb,oP]
theorem lG (x lo hi:Int):kf x lo hi=some (decide (lo<=x)&&decide (x<=hi)):=by
 unfold kf;rw[ji];rfl
theorem Hl {s:ByteArray} {i:Nat} (h:i<s.size):∃x,iq s (i:Int)=some x:=by
 unfold iq;rw[if_pos (by omega)]
 exact⟨_,by rw[show (s[(i:Int).toNat]?)=some s[i]from by simp[h]];rfl⟩
def iI (n:Nat) (p:Int) (e:Event):Prop:=e.kind=1\/((e.kind=2\/e.kind=3)/\0<=e.peer/\e.peer<n/\e.peer≠p/\0<=e.message/\e.message<=199)
end
end Go.VE
namespace Go.VE
def lV (t:Trace) (p k:Nat) (e:Event):Prop:=∃P,t.procs.l[p]? = some P/\P.events.l[k]? = some e
theorem qP {p:Int} {x:aa×Event}:∀{es:List Event} {j:Int},x∈fI p j es↔∃k:Nat,es[k]? = some x.2/\x.1=⟨p,j+k+1⟩
 | [],j=>by simp[fI]
 | e::es,j=>by
  simp only[fI,List.mem_cons,qP (es:=es)];constructor
  .rintro (rfl|⟨k,h1,h2⟩)
   .exact⟨0,rfl,by simp⟩
   .exact⟨k+1,by simpa using h1,by rw[h2];congr 1;push_cast;omega⟩
  .rintro⟨k,h1,h2⟩
   cases k with
   | zero=>
    simp at h1;exact .inl (by obtain⟨a,b⟩:=x;simp only at h1 h2;rw[h1,h2];simp)
   | succ k=>exact .inr ⟨k,by simpa using h1,by rw[h2];congr 1;push_cast;omega⟩
theorem rQ {x:aa×Event}:∀{ps:List bG} {i:Int},x∈dP i ps↔∃(a k:Nat) (P:bG),ps[a]? = some P/\P.events.l[k]? = some x.2/\x.1=⟨i+a,k+1⟩
 | [],i=>by simp[dP]
 | p::ps,i=>by
  simp only[dP,List.mem_append,qP,rQ (ps:=ps)];constructor
  .rintro (⟨k,h1,h2⟩|⟨a,k,P,h1,h2,h3⟩)
   .exact⟨0,k,p,rfl,h1,by rw[h2];simp⟩
   .exact⟨a+1,k,P,by simpa using h1,h2,by rw[h3];congr 1;push_cast;omega⟩
  .rintro⟨a,k,P,h1,h2,h3⟩
   cases a with
   | zero=>
    simp at h1;subst h1;exact .inl ⟨k,h2,by rw[h3];simp⟩
   | succ a=>exact .inr ⟨a,k,P,by simpa using h1,h2,by rw[h3];congr 1;push_cast;omega⟩
abbrev aZ (t:Trace):List (aa×Event):=dP 0 t.procs.l
theorem dB {t:Trace} {x:aa×Event}:x∈aZ t↔∃p k:Nat,lV t p k x.2/\x.1=⟨p,k+1⟩:=by
 unfold aZ;rw[rQ];constructor
 .rintro⟨a,k,P,h1,h2,h3⟩;exact⟨a,k,⟨P,h1,h2⟩,by rw[h3];simp⟩
 .rintro⟨a,k,⟨P,h1,h2⟩,h3⟩;exact⟨a,k,P,h1,h2,by rw[h3];simp⟩
theorem zx {t:Trace} {x y:aa×Event} (hx:x∈aZ t) (hy:y∈aZ t) (h:x.1=y.1):x=y:=by
 obtain⟨p,k,⟨P,hP,hk⟩,e1⟩:=dB.1 hx;obtain⟨q,j,⟨Q,hQ,hj⟩,e2⟩:=dB.1 hy;obtain⟨a,e⟩:=x;obtain⟨b,f⟩:=y;simp only at *;subst h;rw[e1]at e2;simp only[aa.mk.injEq]at e2;have hpq:p=q:=by omega
 have hkj:k=j:=by omega
 subst hpq hkj;rw[hP]at hQ;cases hQ;rw[hk]at hj;cases hj;rfl
theorem sy {t:Trace} (hS:Small t):gj t=some (aZ t):=by
 unfold gj;rw[if_pos];simp only[Cw,ζh,List.all_eq_true,decide_eq_true_eq];exact⟨by have:=hS.1;omega,λp hp=>by have:=(hS.2 p hp).1;omega⟩
def pz (t:Trace) (p m to:Int):Bool:=match t.procs.l[p.toNat]? with
 | some P=>P.events.l.any λe=>e.kind==2&&e.message==m&&e.peer==to
 | none=>false
theorem Ki {t:Trace} (hS:Small t) {p:Int} (h0:0<=p) (h1:p<t.procs.l.length) (m to:Int):qY t p m to=some (pz t p m to):=by
 unfold qY;have hlt:p.toNat<t.procs.l.length:=by omega
 have hP:=List.getElem_mem hlt;rw[Ws h0,ζd hlt,ζb,vW (f:=λe=>e.kind==2&&e.message==m&&e.peer==to) (λe _=>by
  unfold ni;simp only[ji,ζb]) (hS.2 _ hP).1,ζb]
 unfold pz;rw[ζd hlt]
theorem An {t:Trace} {p:Nat} {m to:Int}:pz t p m to=true↔∃k e,lV t p k e/\e.kind=2/\e.message=m/\e.peer=to:=by
 unfold pz lV;rw[show ((p:Nat):Int).toNat=p from rfl]
 cases hP:t.procs.l[p]? with
 | none=>simp
 | some P=>
  simp only[List.any_eq_true,ζh,beq_iff_eq,ζa,exists_eq_left'];constructor
  .rintro⟨e,he,h⟩;obtain⟨k,hk⟩:=List.getElem?_of_mem he;exact⟨k,e,hk,h.1.1,h.1.2,h.2⟩
  .rintro⟨k,e,hk,h1,h2,h3⟩;exact⟨e,List.mem_of_getElem? hk,⟨h1,h2⟩,h3⟩
def ag (A:bh 200 aK) (m:Int):aK:=(A.at m).getD default
theorem Hj (A:bh 200 aK) {m:Int} (h0:0<=m) (h1:m<=199):A.at m=some (ag A m):=by
 have:m.toNat<A.l.length:=by rw[A.len];omega
 unfold ag bh.at;rw[if_pos h0,ζd this];rfl
theorem nM (A:bh 200 aK) {m m':Int} (x:aK) (h0:0<=m) (h1:m<=199) (h2:0<=m'):ag (A.set m x) m'=if m'=m then x else ag A m':=by
 have:m.toNat<A.l.length:=by rw[A.len];omega
 unfold ag bh.at bh.set;simp only[if_pos h2];rw[List.getElem?_set]
 by_cases e:m'=m
 .subst e;simp[this]
 .rw[if_neg (by omega),if_neg e]
theorem IT {m:Int} (h0:0<=m) (h1:m<=199):ag (bh.IS 200 (⟨⟨0,0⟩,⟨0,0⟩⟩:aK)) m=⟨⟨0,0⟩,⟨0,0⟩⟩:=by
 unfold ag bh.at bh.IS;simp only[if_pos h0];rw[List.getElem?_replicate,if_pos (by omega)];rfl
structure jI (t:Trace) (its:List (aa×Event)) (A:bh 200 aK):Prop where
 snd:∀x∈its,x.2.kind=2->(ag A x.2.message).from_=x.1
 rcv:∀x∈its,x.2.kind=3->(ag A x.2.message).to_=x.1/\pz t x.2.peer x.2.message x.1.proc=true
 fr:∀m,0<=m->m<=199->(ag A m).from_.index=0\/∃e,((ag A m).from_,e)∈its/\e.kind=2/\e.message=m
 to:∀m,0<=m->m<=199->(ag A m).to_.index=0\/∃e,((ag A m).to_,e)∈its/\e.kind=3/\e.message=m
def GU (a b:aa×Event):Prop:=a.1.proc<b.1.proc\/a.1.proc=b.1.proc/\a.1.index<b.1.index
theorem JS {p:Int}:∀{es:List Event} {j:Int},(fI p j es).Pairwise GU
 | [],_=>List.Pairwise.nil
 | e::es,j=>by
  simp only[fI,List.pairwise_cons];refine⟨λb hb=>?_,JS⟩
  obtain⟨k,_,h2⟩:=qP.1 hb;refine .inr ⟨by rw[h2],?_⟩
  rw[h2];dsimp only;omega
theorem Dz:∀{ps:List bG} {i:Int},(dP i ps).Pairwise GU
 | [],_=>List.Pairwise.nil
 | P::ps,i=>by
  simp only[dP,List.pairwise_append];refine⟨JS,Dz,λa ha b hb=>.inl ?_⟩
  obtain⟨k,_,h2⟩:=qP.1 ha;obtain⟨c,j,P,_,_,h3⟩:=rQ.1 hb;rw[h2,h3];dsimp only;omega
theorem Dh {t:Trace} {k:Nat} {x y:aa×Event} (hx:(aZ t)[k]? = some x) (hy:y∈(aZ t).take k):y.1≠x.1:=by
 obtain⟨h1,h2⟩:=ζe.1 hx;have hp:((aZ t).take k++(aZ t).drop k).Pairwise GU:=by rw[List.take_append_drop];exact Dz
 have:=(List.pairwise_append.1 hp).2.2 y hy x (by rw[List.drop_eq_getElem_cons h1,h2];exact List.mem_cons_self ..)
 intro e;unfold GU at this;rw[e]at this;omega
structure uV (t:Trace):Prop where
 snd:∀x∈aZ t,∀y∈aZ t,x.2.kind=2->y.2.kind=2->x.2.message=y.2.message->x.1=y.1
 rcv:∀x∈aZ t,∀y∈aZ t,x.2.kind=3->y.2.kind=3->x.2.message=y.2.message->x.1=y.1
 has:∀x∈aZ t,x.2.kind=3->pz t x.2.peer x.2.message x.1.proc=true
theorem jI.IM {t:Trace} {A:bh 200 aK} (h:jI t (aZ t) A):uV t:=
 ⟨λx hx y hy k2 k2' hm=>by rw[<-h.snd x hx k2,<-h.snd y hy k2',hm],λx hx y hy k2 k2' hm=>by rw[<-(h.rcv x hx k2).1,<-(h.rcv y hy k2').1,hm],λx hx k=>(h.rcv x hx k).2⟩
theorem AN {t:Trace} (hS:Small t) (hF:∀x∈aZ t,iI t.procs.l.length x.1.proc x.2):Wp (cW t) λr=>(r.2.2=0->∃A,r.1=some A/\jI t (aZ t) A)/\(uV t->r.2.2=0):=by
 unfold cW gM;rw[ζb];unfold cW.E1;rw[sy hS,ζb];refine xR (λk A=>jI t ((aZ t).take k) A) ⟨by simp,by simp,λm h0 h1=>.inl (by rw[IT h0 h1]),λm h0 h1=>.inl (by rw[IT h0 h1])⟩ ?_ ?_
 .intro k x A hx hI;have hxm:x∈aZ t:=List.mem_of_getElem? hx;have hkl:k<(aZ t).length:=(ζe.1 hx).1;have htk:(aZ t).take (k+1)=(aZ t).take k++[x]:=by rw[List.take_add_one,hx];rfl
  obtain⟨p,j,hat,hid⟩:=dB.1 hxm;have hxi:x.1.index>0:=by rw[hid];show (j:Int)+1>0;omega
  have hf:=hF x hxm;unfold cW.oS;rw[br];constructor
  .intro hk;have hk2:x.2.kind=2:=by simpa using hk
   have hm:0<=x.2.message/\x.2.message<=199:=by
    rcases hf with h|⟨_,_,_,_,h⟩
    .omega
    .exact h
   rw[Hj A hm.1 hm.2,ζb,br];refine⟨λhg=>(aj _).2 ((aj _).2 ⟨λh=>(by cases h),λhp=>?_⟩),λh0=>?_⟩
   .rcases hI.fr _ hm.1 hm.2 with hg'|⟨e,he,hk',hm'⟩
    .simp[hg']at hg
    .exact absurd (hp.snd _ (List.mem_of_mem_take he) x hxm hk' hk2 hm') (Dh hx he)
   have h0:¬(ag A x.2.message).from_.index>0:=by simpa using h0
   rw[ζb,aj,htk];have old:∀y∈(aZ t).take k,y.2.kind=2->y.2.message≠x.2.message:=λy hy hy2 he=>by
    have:=hI.snd y hy hy2;rw[he]at this;rw[this]at h0;obtain⟨p',j',_,hid'⟩:=dB.1 (List.mem_of_mem_take hy);rw[hid']at h0;exact h0 (by show (j':Int)+1>0;omega)
   have nn:∀y∈(aZ t).take k,y.2.kind=2\/y.2.kind=3->0<=y.2.message:=λy hy hy2=>by
    rcases hF y (List.mem_of_mem_take hy)with h|⟨_,_,_,_,h,_⟩
    .omega
    .exact h
   refine⟨λy hy hy2=>?_,λy hy hy3=>?_,λm m0 m1=>?_,λm m0 m1=>?_⟩
   .rcases List.mem_append.1 hy with hy|hy
    .rw[nM A _ hm.1 hm.2 (nn y hy (.inl hy2)),if_neg (old y hy hy2)];exact hI.snd y hy hy2
    .simp at hy;subst hy;rw[nM A _ hm.1 hm.2 hm.1,if_pos rfl]
   .rcases List.mem_append.1 hy with hy|hy
    .rw[nM A _ hm.1 hm.2 (nn y hy (.inr hy3))];have:=hI.rcv y hy hy3;split
     .rename_i e;rw[e]at this;exact⟨this.1,by rw[e];exact this.2⟩
     .exact this
    .simp at hy;subst hy;omega
   .rw[nM A _ hm.1 hm.2 m0];split
    .rename_i e;exact .inr ⟨x.2,by simp,hk2,e.symm⟩
    .exact(hI.fr m m0 m1).imp (λh=>h) λ⟨e,h1,h2⟩=>⟨e,List.mem_append_left _ h1,h2⟩
   .rw[nM A _ hm.1 hm.2 m0];have:=(hI.to m m0 m1).imp (λh=>h) λ⟨e,h1,h2⟩=>(⟨e,List.mem_append_left [x] h1,h2⟩:∃e,((ag A m).to_,e)∈(aZ t).take k++[x]/\e.kind=3/\e.message=m)
    split
    .rename_i e;subst e;exact this
    .exact this
  .intro hk;have hk2:¬x.2.kind=2:=by simpa using hk
   rw[br];constructor
   .intro hk;have hk3:x.2.kind=3:=by simpa using hk
    have hm:0<=x.2.message/\x.2.message<=199/\0<=x.2.peer/\x.2.peer<t.procs.l.length:=by
     rcases hf with h|⟨_,h1,h2,_,h3,h4⟩
     .omega
     .exact⟨h3,h4,h1,h2⟩
    rw[Hj A hm.1 hm.2.1,ζb,br];refine⟨λhg=>(aj _).2 ((aj _).2 ⟨λh=>(by cases h),λhp=>?_⟩),λh0=>?_⟩
    .rcases hI.to _ hm.1 hm.2.1 with hg'|⟨e,he,hk',hm'⟩
     .simp[hg']at hg
     .exact absurd (hp.rcv _ (List.mem_of_mem_take he) x hxm hk' hk3 hm') (Dh hx he)
    have h0:¬(ag A x.2.message).to_.index>0:=by simpa using h0
    rw[Ki hS hm.2.2.1 hm.2.2.2,ζb,br];refine⟨λhs=>?_,λhs=>(aj _).2 ((aj _).2 ⟨λh=>(by cases h),λhp=>by rw[hp.has x hxm hk3]at hs;cases hs⟩)⟩
    rw[ζb,aj,htk];have old:∀y∈(aZ t).take k,y.2.kind=3->y.2.message≠x.2.message:=λy hy hy2 he=>by
     have:=(hI.rcv y hy hy2).1;rw[he]at this;rw[this]at h0;obtain⟨p',j',_,hid'⟩:=dB.1 (List.mem_of_mem_take hy);rw[hid']at h0;exact h0 (by show (j':Int)+1>0;omega)
    have nn:∀y∈(aZ t).take k,y.2.kind=2\/y.2.kind=3->0<=y.2.message:=λy hy hy2=>by
     rcases hF y (List.mem_of_mem_take hy)with h|⟨_,_,_,_,h,_⟩
     .omega
     .exact h
    refine⟨λy hy hy2=>?_,λy hy hy3=>?_,λm m0 m1=>?_,λm m0 m1=>?_⟩
    .rcases List.mem_append.1 hy with hy|hy
     .rw[nM A _ hm.1 hm.2.1 (nn y hy (.inl hy2))];have:=hI.snd y hy hy2;split
      .rename_i e;rw[e]at this;exact this
      .exact this
     .simp at hy;subst hy;omega
    .rcases List.mem_append.1 hy with hy|hy
     .rw[nM A _ hm.1 hm.2.1 (nn y hy (.inr hy3)),if_neg (old y hy hy3)];exact hI.rcv y hy hy3
     .simp at hy;subst hy;rw[nM A _ hm.1 hm.2.1 hm.1,if_pos rfl];exact⟨rfl,hs⟩
    .rw[nM A _ hm.1 hm.2.1 m0];have:=(hI.fr m m0 m1).imp (λh=>h) λ⟨e,h1,h2⟩=>(⟨e,List.mem_append_left [x] h1,h2⟩:∃e,((ag A m).from_,e)∈(aZ t).take k++[x]/\e.kind=2/\e.message=m)
     split
     .rename_i e;subst e;exact this
     .exact this
    .rw[nM A _ hm.1 hm.2.1 m0];split
     .rename_i e;exact .inr ⟨x.2,by simp,hk3,e.symm⟩
     .exact(hI.to m m0 m1).imp (λh=>h) λ⟨e,h1,h2⟩=>⟨e,List.mem_append_left _ h1,h2⟩
   .intro hk;have hk3:¬x.2.kind=3:=by simpa using hk
    rw[aj,htk];refine⟨λy hy hy2=>?_,λy hy hy3=>?_,λm m0 m1=>?_,λm m0 m1=>?_⟩
    .rcases List.mem_append.1 hy with hy|hy
     .exact hI.snd y hy hy2
     .simp at hy;subst hy;exact absurd hy2 hk2
    .rcases List.mem_append.1 hy with hy|hy
     .exact hI.rcv y hy hy3
     .simp at hy;subst hy;exact absurd hy3 hk3
    .exact(hI.fr m m0 m1).imp (λh=>h) λ⟨e,h1,h2⟩=>⟨e,List.mem_append_left _ h1,h2⟩
    .exact(hI.to m m0 m1).imp (λh=>h) λ⟨e,h1,h2⟩=>⟨e,List.mem_append_left _ h1,h2⟩
 .intro A hA;rw[List.take_length]at hA;exact(aj _).2 ⟨λ_=>⟨A,rfl,hA⟩,λ_=>rfl⟩
end Go.VE
namespace Go.VE
def fR (f:Nat->Bool) (k n:Nat):Bool:=(List.range' k (n-k)).any f
theorem BV {f:Nat->Bool} {k n:Nat} (h:k<n):fR f k n=(f k||fR f (k+1) n):=by
 unfold fR;rw[show n-k=(n-(k+1))+1 from by omega,List.range'_succ];rfl
theorem Mb {f:Nat->Bool} {k n:Nat} (h:n<=k):fR f k n=false:=by
 unfold fR;rw[show n-k=0 from by omega];rfl
theorem KM {f:Nat->Bool} {k n:Nat}:fR f k n=true↔∃i,k<=i/\i<n/\f i=true:=by
 unfold fR;rw[List.any_eq_true];constructor
 .rintro⟨i,hi,hf⟩;rw[List.mem_range'_1]at hi;exact⟨i,hi.1,by omega,hf⟩
 .rintro⟨i,h1,h2,hf⟩;exact⟨i,by rw[List.mem_range'_1];omega,hf⟩
theorem Br {step:Int->Option (Fw Int Unit Unit)} {n:Nat} (f:Nat->Bool) (hn:n<9223372036854775807) (h1:∀i:Nat,i<n->step i=some (if f i then .r ()else .n (IntKind.wrap .i64 ((i:Int)+1)))) (h2:step (n:Int)=some (.x ())) :
 ∀m k:Nat,k+m=n->aS step (k:Int)=some (if fR f k n then .r ()else .x ()):=by
 intro m
 induction m with
 | zero=>
  intro k hk;have:k=n:=by omega
  subst this;rw[dO,h2,Mb (Nat.le_refl _)];rfl
 | succ m ih=>
  intro k hk;rw[dO,h1 k (by omega),BV (by omega)]
  cases hf:f k with
  | true=>rfl
  | false=>
   simp only[Bool.false_eq_true,if_false,ζb,Bool.false_or];rw[bK k (by omega)]
   exact ih (k+1) (by omega)
def kU (g:Nat->Int) (k n:Nat):Int:=match (List.range' k (n-k)).find? λi => !(g i==0)with
 | some i=>g i
 | none=>0
theorem JU {g:Nat->Int} {k n:Nat} (h:k<n):kU g k n=if g k=0 then kU g (k+1) n else g k:=by
 unfold kU;rw[show n-k=(n-(k+1))+1 from by omega,List.range'_succ,List.find?_cons]
 by_cases h0:g k=0
 .simp[h0]
 .rw[if_neg h0,show (!(g k==0))=true from by simp[h0]]
theorem My {g:Nat->Int} {k n:Nat} (h:n<=k):kU g k n=0:=by
 unfold kU;rw[show n-k=0 from by omega];rfl
theorem NB {step:Int->Option (Fw Int Unit Int)} {n:Nat} (g:Nat->Int) (hn:n<9223372036854775807) (h1:∀i:Nat,i<n->step i=some (if g i=0 then .n (IntKind.wrap .i64 ((i:Int)+1))else .r (g i))) (h2:step (n:Int)=some (.x ())) :
 ∀m k:Nat,k+m=n->aS step (k:Int)=some (if kU g k n=0 then .x ()else .r (kU g k n)):=by
 intro m
 induction m with
 | zero=>
  intro k hk;have:k=n:=by omega
  subst this;rw[dO,h2,My (Nat.le_refl _)];rfl
 | succ m ih=>
  intro k hk;rw[dO,h1 k (by omega),JU (by omega)]
  by_cases h0:g k=0
  .simp only[h0,if_true,ζb];rw[bK k (by omega)]
   exact ih (k+1) (by omega)
  .simp only[h0,if_false,ζb]
theorem vl {step:Int->Option (Fw Int Unit Int)} {n:Nat} (g:Nat->Int) (hn:n<9223372036854775807) (h1:∀i:Nat,i<n->step i=some (if g i=0 then .n (IntKind.wrap .i64 ((i:Int)+1))else .r (g i))) (h2:step (n:Int)=some (.x ())):aS step 0=some (if kU g 0 n=0 then .x ()else .r (kU g 0 n)):=NB g hn h1 h2 n 0 (by omega)
theorem zn {step:Int->Option (Fw Int Unit Unit)} {n:Nat} (f:Nat->Bool) (hn:n<9223372036854775807) (h1:∀i:Nat,i<n->step i=some (if f i then .r ()else .n (IntKind.wrap .i64 ((i:Int)+1)))) (h2:step (n:Int)=some (.x ())):aS step 0=some (if fR f 0 n then .r ()else .x ()):=Br f hn h1 h2 n 0 (by omega)
def uI (c:Int):Bool:=decide (c>=65)&&decide (c<=90)||decide (c>=97)&&decide (c<=122)
def yZ (c:Int):Bool:=decide (c>=48)&&decide (c<=57)
theorem Aw (c:Int):mP c=some (uI c):=by
 unfold mP uI;simp only[ji,gE,ζb];rw[Bool.or_comm]
theorem Ak (c:Int):lg c=some (uI c):=by
 unfold lg uI;simp only[ji,gE,ζb]
theorem Ii (c:Int):qR c=some (yZ c):=by
 unfold qR yZ;simp only[ji,ζb]
theorem Ic (c:Int):o9 c=some (yZ c):=by
 unfold o9 yZ;simp only[ji,ζb]
def tW (s:ByteArray) (i:Nat):Int:=(iq s (i:Int)).getD 0
theorem AO {s:ByteArray} {i:Nat} (h:i<s.size):iq s (i:Int)=some (tW s i):=by
 obtain⟨x,hx⟩:=Hl h;unfold tW;rw[hx];rfl
def pW (s:ByteArray) (i:Nat):Bool := !uI (tW s i) && !yZ (tW s i) && !(tW s i==95)
def iZ (s:ByteArray):Bool:=decide (1<=s.size)&&decide (s.size<=16)&&uI (tW s 0) && !fR (pW s) 0 s.size
theorem Gs {s:ByteArray} {i:Nat} (h:i<s.size):ec.aA s (s.size:Int) i=some (if pW s i then .r ()else .n (IntKind.wrap .i64 ((i:Int)+1))):=by
 unfold ec.aA pW;rw[show decide ((i:Int)<(s.size:Int))=true from by simpa using h,aX,AO h]
 simp only[ζb,Aw,Ii];cases uI (tW s i) <;> cases yZ (tW s i) <;> cases (tW s i==95) <;> rfl
theorem HP {s:ByteArray} {i:Nat} (h:i<s.size):eU.aA s i=some (if pW s i then .r ()else .n (IntKind.wrap .i64 ((i:Int)+1))):=by
 unfold eU.aA pW;rw[show decide ((i:Int)<((ByteArray.size s:Nat):Int))=true from by simpa using h,aX,AO h]
 simp only[ζb,Ak,Ic];cases uI (tW s i) <;> cases yZ (tW s i) <;> cases (tW s i==95) <;> rfl
theorem toList_empty {s:ByteArray}:(ByteArray.toList s==ByteArray.toList ByteArray.empty)=decide (s.size=0):=by
 rw[Bool.eq_iff_iff,beq_iff_eq,decide_eq_true_eq];constructor
 .intro h;have h1:(ByteArray.toList s).length=s.size:=by rw[Go.ByteArray.toList_eq];simp
  rw[<-h1,h];rw[Go.ByteArray.toList_eq];rfl
 .intro h;have:s=ByteArray.empty:=by
   apply ByteArray.ext;exact Array.eq_empty_of_size_eq_zero h
  rw[this]
theorem B0 {s:ByteArray} (hs:s.size<1073741824):ec s=some (iZ s):=by
 unfold ec;rw[toList_empty];simp only[gE,ζb]
 by_cases h0:s.size=0
 .simp[h0,iZ,au]
 by_cases h16:s.size<=16
 .have hc:(decide (s.size=0)||decide (((ByteArray.size s:Nat):Int)>16))=false:=by simp[h0];omega
  rw[hc,bg,show (0:Int)=((0:Nat):Int)from rfl,AO (show 0<s.size by omega)]
  simp only[ζb,Aw]
  cases hl:uI (tW s 0)with
  | false=>simp[iZ,hl,au]
  | true=>
   simp only[Bool.not_true,bg];unfold ec.W1;rw[Br (n:=s.size) (pW s) (by omega) (λi hi=>Gs hi) (by unfold ec.aA;simp[au]) s.size 0 (by omega)]
   have:iZ s = !fR (pW s) 0 s.size:=by simp[iZ,hl,h16];omega
   rw[this];cases fR (pW s) 0 s.size <;> rfl
 .have hc:(decide (s.size=0)||decide (((ByteArray.size s:Nat):Int)>16))=true:=by simp;omega
  rw[hc,aX];simp[iZ,h16,au]
theorem Du {s:ByteArray} (hs:s.size<1073741824):eU s=some (iZ s):=by
 unfold eU;simp only[gE,ζb]
 by_cases h0:s.size=0
 .simp[h0,iZ,au]
 by_cases h16:s.size<=16
 .have hc:(decide (((ByteArray.size s:Nat):Int)<1)||decide (((ByteArray.size s:Nat):Int)>16))=false:=by simp;omega
  rw[hc,bg,show (0:Int)=((0:Nat):Int)from rfl,AO (show 0<s.size by omega)]
  simp only[ζb,Ak]
  cases hl:uI (tW s 0)with
  | false=>simp[iZ,hl,au]
  | true=>
   simp only[Bool.not_true,bg];unfold eU.W1;rw[show (1:Int)=((1:Nat):Int)from rfl,Br (n:=s.size) (pW s) (by omega) (λi hi=>HP hi) (by unfold eU.aA;simp[au]) (s.size-1) 1 (by omega)]
   have hb0:pW s 0=false:=by simp[pW,hl]
   have:iZ s = !fR (pW s) 1 s.size:=by
    have h1:=BV (f:=pW s) (show 0<s.size by omega)
    rw[hb0]at h1;simp[iZ,hl,h16,h1];omega
   rw[this];cases fR (pW s) 1 s.size <;> rfl
 .have hc:(decide (((ByteArray.size s:Nat):Int)<1)||decide (((ByteArray.size s:Nat):Int)>16))=true:=by simp;omega
  rw[hc,aX];simp[iZ,h16,au]
end Go.VE
namespace Go.VE
def fO {α:Type} (l:List α) (f:α->Bool) (i:Nat):Bool:=match l[i]? with|some y=>f y|none=>false
theorem xk {α:Type} {l:List α} {f:α->Bool} {i:Nat} (h:i<l.length):fO l f i=f l[i]:=by unfold fO;rw[ζd h]
theorem y_ {α:Type} {l:List α} {f:α->Bool} {p:Nat}:(l.take p).any f=fR (fO l f) 0 p:=by
 rw[Bool.eq_iff_iff,List.any_eq_true,KM];constructor
 .rintro⟨x,hx,hf⟩;obtain⟨i,hi⟩:=List.getElem?_of_mem hx;have hl:=(ζe.1 hi).1;rw[List.length_take]at hl;rw[List.getElem?_take,if_pos (by omega)]at hi
  exact⟨i,Nat.zero_le _,by omega,by unfold fO;rw[hi];exact hf⟩
 .rintro⟨i,_,hi,hf⟩;unfold fO at hf;split at hf
  .rename_i y hy;exact⟨y,List.mem_of_getElem? (i:=i) (by rw[List.getElem?_take,if_pos hi];exact hy),hf⟩
  .cases hf
def oB (a b:ByteArray):Bool:=ByteArray.toList a==ByteArray.toList b
def TU:Bool->Bool->Bool->Int
 | true,false,true=>0
 | true,false,false=>2
 | _,_,_=>13
def rG (P:bG) (i:Nat):Int:=match P.vars.l[i]? with
 | some v=>TU (iZ v.name) (fR (fO P.vars.l λw=>oB w.name v.name) 0 i) (decide (v.init_>=-1073741824)&&decide (v.init_<=1073741824))
 | none=>0
def qF (t:Trace) (p:Nat):Int:=match t.procs.l[p]? with
 | some P=>if iZ P.name && !fR (fO t.procs.l λy=>oB y.name P.name) 0 p then
  (if P.vars.l.length>8 then 5 else if kU (rG P) 0 P.vars.l.length=0 then(if P.events.l.length>64 then 5 else 0)else kU (rG P) 0 P.vars.l.length)else 13
 | none=>0
theorem B8 {P:bG} {i:Nat} (h:i<P.vars.l.length):rG P i=TU (iZ P.vars.l[i].name) (fR (fO P.vars.l λw=>oB w.name P.vars.l[i].name) 0 i) (decide (P.vars.l[i].init_>=-1073741824)&&decide (P.vars.l[i].init_<=1073741824)):=by
 unfold rG;rw[ζd h]
theorem BJ (n:Int):mA n=some (decide (n>=-1073741824)&&decide (n<=1073741824)):=by
 unfold mA;rw[ji];rfl
theorem KL {t:Trace} (hS:Small t) {p:Nat} (hp:p<t.procs.l.length):cT t p=some (qF t p):=by
 have hP:=hS.2 _ (List.getElem_mem hp);have h1:=hS.1;unfold cT qF;rw[aJ hp,ζb,ζd hp];generalize hPe:t.procs.l[p]=P at *;obtain⟨hPev,hPv,hPn,hPvn,_⟩:=hP;rw[B0 hPn,ζb];obtain⟨x,hx,hxl⟩:=ri t.procs p (by omega)
 have hdup:fC x (λz=>gy z P)=some (fR (fO t.procs.l λy=>oB y.name P.name) 0 p):=by
  rw[DF (p:=λz=>gy z P) (f:=λy=>oB y.name P.name) (λy _=>rfl) (by rw[hxl,List.length_take];omega),hxl,y_]
 rw[hx,ζb,hdup,ζb];dsimp only
 cases hn:iZ P.name with
 | false=>simp[au]
 | true=>
  rw[aX,ζb,Bool.true_and]
  cases hd:fR (fO t.procs.l λy=>oB y.name P.name) 0 p with
  | true=>simp[au]
  | false=>
   rw[bg];simp only[Bool.not_false,if_true]
   by_cases h8:P.vars.l.length>8
   .rw[show decide (len P.vars>8)=true from by simp[len];omega,aX,if_pos h8]
   .rw[show decide (len P.vars>8)=false from by simp[len];omega,bg,if_neg h8]
    unfold cT.W1;rw[vl (n:=P.vars.l.length) (rG P) (by omega) (λi hi=>?_) (by unfold cT.aA;simp[au,len])]
    .by_cases he:kU (rG P) 0 P.vars.l.length=0
     .rw[if_pos he,if_pos he];show au (decide (len P.events>64)) (some 5) (some 0)=_;rw[qG];simp only[len,decide_eq_true_eq]
      by_cases h64:P.events.l.length>64
      .rw[if_pos h64,if_pos (by omega)]
      .rw[if_neg h64,if_neg (by omega)]
     .rw[if_neg he,if_neg he];rfl
    .unfold cT.aA;rw[B8 hi,show decide ((i:Int)<len P.vars)=true from by simp[len];exact hi,aX,aJ hi,ζb]
     have hv:=hPvn _ (List.getElem_mem hi);obtain⟨y,hy,hyl⟩:=ri P.vars i (by omega)
     have hdv:eD y (λz=>gA z P.vars.l[i])=some (fR (fO P.vars.l λw=>oB w.name P.vars.l[i].name) 0 i):=by
      rw[yq (p:=λz=>gA z P.vars.l[i]) (f:=λw=>oB w.name P.vars.l[i].name) (λw _=>rfl) (by rw[hyl,List.length_take];omega),hyl,y_]
     rw[B0 hv,ζb,hy,ζb,hdv,ζb,lG];have hr:(decide (-1073741824<=P.vars.l[i].init_)&&decide (P.vars.l[i].init_<=1073741824))=(decide (P.vars.l[i].init_>=-1073741824)&&decide (P.vars.l[i].init_<=1073741824)):=rfl;rw[hr];generalize iZ P.vars.l[i].name=A;generalize fR (fO P.vars.l λw=>oB w.name P.vars.l[i].name) 0 i=B
     generalize (decide (P.vars.l[i].init_>=-1073741824)&&decide (P.vars.l[i].init_<=1073741824))=C;cases A <;> cases B <;> cases C <;> rfl
theorem Mm {t:Trace} (hS:Small t) {p:Nat} (hp:p<t.procs.l.length):cF t p=some (qF t p):=by
 have hP:=hS.2 _ (List.getElem_mem hp);have h1:=hS.1;unfold cF qF;rw[aJ hp,ζb,ζd hp];generalize hPe:t.procs.l[p]=P at *;obtain⟨hPev,hPv,hPn,hPvn,_⟩:=hP;rw[Du hPn,ζb];dsimp only
 cases hn:iZ P.name with
 | false=>simp[au]
 | true=>
  rw[aX,Bool.true_and];unfold cF.W1;rw[zn (n:=p) (fO t.procs.l λy=>oB y.name P.name) (by omega) (λi hi=>?_) (by unfold cF.aA;simp[au])]
  .cases hd:fR (fO t.procs.l λy=>oB y.name P.name) 0 p with
   | true=>rfl
   | false=>
    simp only[Bool.not_false,if_true];show au (decide (len P.vars>8)) (some 5) (cF.W2 0 P)=_
    by_cases h8:P.vars.l.length>8
    .rw[show decide (len P.vars>8)=true from by simp[len];omega,aX,if_pos h8]
    .rw[show decide (len P.vars>8)=false from by simp[len];omega,bg,if_neg h8]
     unfold cF.W2;rw[vl (n:=P.vars.l.length) (rG P) (by omega) (λi hi=>?_) (by unfold cF.bf;simp[au,len])]
     .by_cases he:kU (rG P) 0 P.vars.l.length=0
      .rw[if_pos he,if_pos he];show au (decide (len P.events>64)) (some 5) (some 0)=_;rw[qG];simp only[len,decide_eq_true_eq]
       by_cases h64:P.events.l.length>64
       .rw[if_pos h64,if_pos (by omega)]
       .rw[if_neg h64,if_neg (by omega)]
      .rw[if_neg he,if_neg he];rfl
     .unfold cF.bf;rw[B8 hi,show decide ((i:Int)<len P.vars)=true from by simp[len];exact hi,aX,aJ hi,ζb]
      rw[Du (hPvn _ (List.getElem_mem hi)),ζb];have h3:cF.W3 i 0 P=if fR (fO P.vars.l λw=>oB w.name P.vars.l[i].name) 0 i then some (.r 13)else(if decide (P.vars.l[i].init_>=-1073741824)&&decide (P.vars.l[i].init_<=1073741824)then some (.n (IntKind.wrap .i64 ((i:Int)+1)))else some (.r 2)):=by
       unfold cF.W3;rw[zn (n:=i) (fO P.vars.l λw=>oB w.name P.vars.l[i].name) (by omega) (λj hj=>?_) (by unfold cF.dG;simp[au])]
       .cases fR (fO P.vars.l λw=>oB w.name P.vars.l[i].name) 0 i with
        | true=>rfl
        | false=>
         show (idx P.vars (i:Int)).bind _=_;rw[aJ hi,ζb,BJ,ζb];cases (decide (P.vars.l[i].init_>=-1073741824)&&decide (P.vars.l[i].init_<=1073741824)) <;> rfl
       .unfold cF.dG;have hjl:j<P.vars.l.length:=by omega
        rw[show decide ((j:Int)<(i:Int))=true from by simpa using hj,aX,aJ hjl,ζb,aJ hi,ζb,xk hjl,qG];rfl
      rw[h3];generalize iZ P.vars.l[i].name=A;generalize fR (fO P.vars.l λw=>oB w.name P.vars.l[i].name) 0 i=B
      generalize (decide (P.vars.l[i].init_>=-1073741824)&&decide (P.vars.l[i].init_<=1073741824))=C;cases A <;> cases B <;> cases C <;> rfl
  .unfold cF.aA;have hil:i<t.procs.l.length:=by omega
   rw[show decide ((i:Int)<(p:Int))=true from by simpa using hi,aX,aJ hil,ζb,xk hil,qG];rfl
end Go.VE
namespace Go.VE
def Df (n:Nat) (p:Int) (e:Event):Bool:=if e.kind==1 then e.peer==0&&e.message==0 else(e.kind==2||e.kind==3)&&(decide (0<=e.peer)&&decide (e.peer<n)) && !(e.peer==p)&&(decide (0<=e.message)&&decide (e.message<=199))
theorem Iz {t:Trace} (hS:Small t) (p:Int) (e:Event):fA t p e=some (Df t.procs.l.length p e):=by
 have h1:=hS.1;have hw:IntKind.wrap .i64 (len t.procs-1)=len t.procs-1:=kM _ (by simp[len];omega) (by simp[len];omega)
 have hj:∀b:Bool,fA.J1 p b t e=some (b&&(decide (0<=e.peer)&&decide (e.peer<t.procs.l.length)) && !(e.peer==p)&&(decide (0<=e.message)&&decide (e.message<=199))):=by
  intro b;unfold fA.J1;simp only[lG,hw,ζb];have:decide (e.peer<=len t.procs-1)=decide (e.peer<t.procs.l.length):=by congr 1;apply propext;simp[len];omega
  rw[this];generalize (decide (0<=e.peer)&&decide (e.peer<(t.procs.l.length:Int)))=A;generalize (e.peer==p)=B;generalize (decide (0<=e.message)&&decide (e.message<=199))=C;cases b <;> cases A <;> cases B <;> cases C <;> rfl
 unfold fA Df;rw[hj,hj]
 cases h1:e.kind==1 with
 | true=>
  rw[aX];cases e.peer==0 <;> cases e.message==0 <;> rfl
 | false=>
  rw[bg];simp only[Bool.false_eq_true,if_false];cases h2:e.kind==2 <;> simp[au]
def z_ (P:bG) (k:Nat) (e:Event):Bool:=match k with|0=>false|j+1=>fO P.events.l (λx=>decide (e.time<x.time)) j
def qJ (P:bG) (k:Nat) (e:Event):Bool:=decide (e.time<0)||decide (e.time>1099511627776)||z_ P k e
def Va:Bool->Bool->Bool->Int
 | true,true,false=>0
 | true,true,true=>8
 | _,_,_=>2
def nJ (P:bG) (e:Event) (i:Nat):Int:=match e.assign.l[i]? with
 | some a=>Va (decide (0<=a.var)&&decide (a.var<P.vars.l.length)) (decide (a.value>=-1073741824)&&decide (a.value<=1073741824)) (fR (fO e.assign.l λb=>b.var==a.var) 0 i)
 | none=>0
theorem B_ {P:bG} {e:Event} {i:Nat} (h:i<e.assign.l.length):nJ P e i=Va (decide (0<=e.assign.l[i].var)&&decide (e.assign.l[i].var<P.vars.l.length)) (decide (e.assign.l[i].value>=-1073741824)&&decide (e.assign.l[i].value<=1073741824)) (fR (fO e.assign.l λb=>b.var==e.assign.l[i].var) 0 i):=by
 unfold nJ;rw[ζd h]
def lY (n:Nat) (P:bG) (p k:Nat) (e:Event):Int:=if Df n p e then(if qJ P k e then 11 else if e.assign.l.length>8 then 5 else kU (nJ P e) 0 e.assign.l.length)else 3
theorem Gx {P:bG} {e:Event} (hv:P.vars.l.length<1073741824) (ha:e.assign.l.length<1073741824):cg.W2 e.assign (len e.assign) 0 e P=some (kU (nJ P e) 0 e.assign.l.length):=by
 have hw:IntKind.wrap .i64 (len P.vars-1)=len P.vars-1:=kM _ (by simp[len];omega) (by simp[len];omega)
 unfold cg.W2;rw[vl (n:=e.assign.l.length) (nJ P e) (by omega) (λi hi=>?_) (by unfold cg.bf;simp[au,len])]
 .by_cases he:kU (nJ P e) 0 e.assign.l.length=0
  .rw[if_pos he,he];rfl
  .rw[if_neg he];rfl
 .unfold cg.bf;obtain⟨y,hy,hyl⟩:=ri e.assign i (by omega)
  have hdv:eO y (λz=>ij z e.assign.l[i])=some (fR (fO e.assign.l λb=>b.var==e.assign.l[i].var) 0 i):=by
   rw[Bn (p:=λz=>ij z e.assign.l[i]) (f:=λb=>b.var==e.assign.l[i].var) (λw _=>rfl) (by rw[hyl,List.length_take];omega),hyl,y_]
  rw[B_ hi,show decide ((i:Int)<len e.assign)=true from by simp[len];exact hi,aX,aJ hi,ζb,lG,lG,hw,hy,ζb,ζb,ζb,hdv,ζb]
  have h1:(decide (0<=e.assign.l[i].var)&&decide (e.assign.l[i].var<=len P.vars-1))=(decide (0<=e.assign.l[i].var)&&decide (e.assign.l[i].var<P.vars.l.length)):=by
   congr 2;apply propext;simp[len];omega
  have h2:(decide (-1073741824<=e.assign.l[i].value)&&decide (e.assign.l[i].value<=1073741824))=(decide (e.assign.l[i].value>=-1073741824)&&decide (e.assign.l[i].value<=1073741824)):=rfl;rw[h1,h2];generalize (decide (0<=e.assign.l[i].var)&&decide (e.assign.l[i].var<(P.vars.l.length:Int)))=A;generalize (decide (e.assign.l[i].value>=-1073741824)&&decide (e.assign.l[i].value<=1073741824))=B;generalize fR (fO e.assign.l λb=>b.var==e.assign.l[i].var) 0 i=C
  cases A <;> cases B <;> cases C <;> rfl
theorem IW {t:Trace} (hS:Small t) {p k:Nat} {P:bG} {e:Event} (hP:t.procs.l[p]? = some P) (he:P.events.l[k]? = some e):cg t ⟨p,k+1⟩ e=some (lY t.procs.l.length P p k e):=by
 obtain⟨hp,hPe⟩:=ζe.1 hP;obtain⟨hk,hke⟩:=ζe.1 he;obtain⟨hPev,hPv,_,_,hPa⟩:=hS.2 P (hPe▸List.getElem_mem hp);have ha:=hPa e (hke▸List.getElem_mem hk);have hJ:∀last:Int,((decide (0<=e.time)&&decide (e.time<=1099511627776)) && !decide (e.time<last))=(!qJ P k e) ->
  cg.J1 last t ⟨p,k+1⟩ e P=some (lY t.procs.l.length P p k e):=by
  intro last hl;unfold cg.J1 lY;rw[Iz hS,ζb,lG,ζb,Gx hPv ha];dsimp only
  cases Df t.procs.l.length p e with
  | false=>rfl
  | true=>
   rw[aX,if_pos rfl];have:(au (decide (0<=e.time)&&decide (e.time<=1099511627776)) (some (decide (e.time<last))) (some true):Option Bool)=some (qJ P k e):=by
    have h2:(!((decide (0<=e.time)&&decide (e.time<=1099511627776)) && !decide (e.time<last)))=qJ P k e:=by rw[hl,Bool.not_not]
    rw[<-h2];cases (decide (0<=e.time)&&decide (e.time<=1099511627776)) <;> cases decide (e.time<last) <;> rfl
   rw[this,ζb]
   cases qJ P k e with
   | true=>rfl
   | false=>
    rw[bg];simp only[Bool.false_eq_true,if_false]
    by_cases h8:e.assign.l.length>8
    .rw[show decide (len e.assign>8)=true from by simp[len];omega,aX,if_pos h8]
    .rw[show decide (len e.assign>8)=false from by simp[len];omega,bg,if_neg h8]
 unfold cg;dsimp only;rw[show idx t.procs (p:Int)=some P from by rw[qh];exact hP,ζb]
 cases k with
 | zero=>
  rw[show decide (((0:Nat):Int)+1>1)=false from by decide,bg]
  refine hJ 0 ?_;simp only[qJ,z_,Bool.or_false];rw[Bool.eq_iff_iff];simp only[ζh,Bool.not_eq_true',decide_eq_true_eq,decide_eq_false_iff_not,Bool.or_eq_false_iff];omega
 | succ j=>
  rw[show decide ((((j+1:Nat)):Int)+1>1)=true from by simp;omega,aX]
  have hjl:j<P.events.l.length:=by omega
  have hw:IntKind.wrap .i64 ((((j+1:Nat)):Int)+1-2)=((j:Nat):Int):=by rw[kM _ (by omega) (by omega)];omega
  rw[hw,aJ hjl,ζb];refine hJ _ ?_;simp only[qJ,z_,xk hjl];rw[Bool.eq_iff_iff];simp only[ζh,Bool.not_eq_true',decide_eq_true_eq,decide_eq_false_iff_not,Bool.or_eq_false_iff];omega
end Go.VE
namespace Go.VE
theorem GB {t:Trace} {p:Nat} {P:bG} {e:Event} (hP:t.procs.l[p]? = some P) (ha:e.assign.l.length<1073741824):cH.W2 p 0 t e=some (kU (nJ P e) 0 e.assign.l.length):=by
 unfold cH.W2;rw[vl (n:=e.assign.l.length) (nJ P e) (by omega) (λi hi=>?_) (by unfold cH.bf;simp[au,len])]
 .by_cases he:kU (nJ P e) 0 e.assign.l.length=0
  .rw[if_pos he,he];rfl
  .rw[if_neg he];rfl
 .unfold cH.bf;have h3:cH.W3 p i 0 t e e.assign.l[i]=if fR (fO e.assign.l λb=>b.var==e.assign.l[i].var) 0 i then some (.r 8)else some (.n (IntKind.wrap .i64 ((i:Int)+1))):=by
   unfold cH.W3;rw[zn (n:=i) (fO e.assign.l λb=>b.var==e.assign.l[i].var) (by omega) (λj hj=>?_) (by unfold cH.dG;simp[au])]
   .cases fR (fO e.assign.l λb=>b.var==e.assign.l[i].var) 0 i <;> rfl
   .unfold cH.dG;have hjl:j<e.assign.l.length:=by omega
    rw[show decide ((j:Int)<(i:Int))=true from by simpa using hj,aX,aJ hjl,ζb,xk hjl,qG]
  rw[B_ hi,show decide ((i:Int)<len e.assign)=true from by simp[len];exact hi,aX,aJ hi,ζb,h3,BJ,ζb,show idx t.procs (p:Int)=some P from by rw[qh];exact hP,ζb]
  have h1:(au (decide (e.assign.l[i].var<0)) (some true) (some (decide (e.assign.l[i].var>=len P.vars))):Option Bool)=some (!(decide (0<=e.assign.l[i].var)&&decide (e.assign.l[i].var<P.vars.l.length))):=by
   rw[gE];congr 1;rw[Bool.eq_iff_iff];simp only[Bool.or_eq_true,Bool.not_eq_true',decide_eq_true_eq,Bool.and_eq_false_iff,decide_eq_false_iff_not,len];omega
  rw[h1,ζb];generalize (decide (0<=e.assign.l[i].var)&&decide (e.assign.l[i].var<(P.vars.l.length:Int)))=A;generalize (decide (e.assign.l[i].value>=-1073741824)&&decide (e.assign.l[i].value<=1073741824))=B;generalize fR (fO e.assign.l λb=>b.var==e.assign.l[i].var) 0 i=C
  cases A <;> cases B <;> cases C <;> rfl
theorem K4 {t:Trace} (hS:Small t) {p k:Nat} {P:bG} {e:Event} (hP:t.procs.l[p]? = some P) (he:P.events.l[k]? = some e):cH t p k=some (lY t.procs.l.length P p k e):=by
 obtain⟨hp,hPe⟩:=ζe.1 hP;obtain⟨hk,hke⟩:=ζe.1 he;obtain⟨hPev,hPv,_,_,hPa⟩:=hS.2 P (hPe▸List.getElem_mem hp);have ha:=hPa e (hke▸List.getElem_mem hk);have hJ:cH.J1 p k t e=some (if qJ P k e then 11 else if e.assign.l.length>8 then 5 else kU (nJ P e) 0 e.assign.l.length):=by
  unfold cH.J1;rw[gE,ζb,GB hP ha,show idx t.procs (p:Int)=some P from by rw[qh];exact hP,ζb]
  have h1:(au (decide ((k:Int)>0)) ((idx P.events (IntKind.wrap .i64 ((k:Int)-1))).bind λx_3=>some (decide (e.time<x_3.time))) (some false):Option Bool)=some (z_ P k e):=by
   cases k with
   | zero=>rfl
   | succ j=>
    have hjl:j<P.events.l.length:=by omega
    rw[show decide ((((j+1:Nat)):Int)>0)=true from by simp only[decide_eq_true_eq];omega,aX,show IntKind.wrap .i64 ((((j+1:Nat)):Int)-1)=((j:Nat):Int)from by rw[kM _ (by omega) (by omega)];omega,aJ hjl,ζb]
    simp only[z_,xk hjl]
  rw[h1,ζb,gE,ζb];show au (qJ P k e) _ _=_
  cases qJ P k e with
  | true=>rfl
  | false=>
   rw[bg];simp only[Bool.false_eq_true,if_false]
   by_cases h8:e.assign.l.length>8
   .rw[show decide (len e.assign>8)=true from by simp[len];omega,aX,if_pos h8]
   .rw[show decide (len e.assign>8)=false from by simp[len];omega,bg,if_neg h8]
 unfold cH lY;rw[show idx t.procs (p:Int)=some P from by rw[qh];exact hP,ζb,show idx P.events (k:Int)=some e from by rw[qh];exact he,ζb,hJ]
 unfold Df
 cases h1:e.kind==1 with
 | true=>
  rw[aX];simp only[if_true];cases e.peer==0 <;> cases e.message==0 <;> rfl
 | false=>
  rw[bg];simp only[Bool.false_eq_true,if_false];have h2:(au (e.kind==2) (some false) (some (!(e.kind==3))):Option Bool)=some (!(e.kind==2||e.kind==3)):=by cases e.kind==2 <;> rfl
  rw[h2,ζb,gE,ζb,gE,ζb,gE,ζb,gE,ζb,gE,ζb];have h3:(((((!(e.kind==2||e.kind==3))||decide (e.peer<0))||decide (e.peer>=len t.procs))||(e.peer==p))||decide (e.message<0)||decide (e.message>199)) = !((e.kind==2||e.kind==3)&&(decide (0<=e.peer)&&decide (e.peer<t.procs.l.length)) && !(e.peer==p)&&(decide (0<=e.message)&&decide (e.message<=199))):=by
   generalize (e.kind==2||e.kind==3)=A;have a1:decide (e.peer<0) = !decide (0<=e.peer):=by rw[Bool.eq_iff_iff];simp
   have a2:decide (e.peer>=len t.procs) = !decide (e.peer<t.procs.l.length):=by rw[Bool.eq_iff_iff];simp[len]
   have a3:decide (e.message<0) = !decide (0<=e.message):=by rw[Bool.eq_iff_iff];simp
   have a4:decide (e.message>199) = !decide (e.message<=199):=by rw[Bool.eq_iff_iff];simp
   rw[a1,a2,a3,a4];generalize decide (0<=e.peer)=B;generalize decide (e.peer<(t.procs.l.length:Int))=C;generalize (e.peer==(p:Int))=D;generalize decide (0<=e.message)=F;generalize decide (e.message<=199)=G;cases A <;> cases B <;> cases C <;> cases D <;> cases F <;> cases G <;> rfl
  rw[h3];generalize ((e.kind==2||e.kind==3)&&(decide (0<=e.peer)&&decide (e.peer<(t.procs.l.length:Int))) && !(e.peer==(p:Int))&&(decide (0<=e.message)&&decide (e.message<=199)))=Z;cases Z <;> rfl
theorem G9 {n:Nat} {p:Int} {e:Event} (h:Df n p e=true):iI n p e:=by
 unfold Df at h;split at h
 .rename_i h1;left;simpa using h1
 .right;simp only[ζh,Bool.or_eq_true,beq_iff_eq,decide_eq_true_eq,Bool.not_eq_true',beq_eq_false_iff_ne,ne_eq]at h;obtain⟨⟨⟨h1,h2⟩,h3⟩,h4⟩:=h;exact⟨h1,h2.1,h2.2,h3,h4.1,h4.2⟩
theorem C7 {n:Nat} {P:bG} {p k:Nat} {e:Event} (h:lY n P p k e=0):iI n p e:=by
 unfold lY at h;split at h
 .rename_i h1;exact G9 h1
 .cases h
end Go.VE
namespace Go.VE
theorem zk {α:Type} [DecidableEq α]:∀{l r:List α},l.Nodup->(∀x∈l,x∈r)->l.length<=r.length
 | [],_,_,_=>Nat.zero_le _
 | x::l,r,hn,hs=>by
  have hx:x∈r:=hs x (List.mem_cons_self ..);have hn':=List.nodup_cons.1 hn;have:=zk (l:=l) (r:=r.erase x) hn'.2 λy hy=>(List.mem_erase_of_ne (by rintro rfl;exact hn'.1 hy)).2 (hs y (List.mem_cons_of_mem _ hy))
  rw[List.length_erase_of_mem hx]at this;have hp:0<r.length:=List.length_pos_of_mem hx;simp only[List.length_cons];omega
section
variable {κ:Type} [DecidableEq κ]
theorem vN {ν:Type} {k:κ}:∀{m:Mo κ ν},k∉m.map (·.1)->qS k m=none
 | [],_=>rfl
 | (a,v)::r,h=>by
  simp only[List.map_cons,List.mem_cons,not_or]at h;unfold qS;rw[if_neg h.1];exact vN h.2
theorem wE {ν:Type} {k:κ}:∀{m:Mo κ ν},k∈m.map (·.1)->∃v,qS k m=some v/\(k,v)∈m
 | [],h=>by simp at h
 | (a,v)::r,h=>by
  unfold qS
  by_cases e:k=a
  .subst e;exact⟨v,by rw[if_pos rfl],List.mem_cons_self ..⟩
  .rw[if_neg e];obtain⟨w,h1,h2⟩:=wE (m:=r) (by simpa [e]using h)
   exact⟨w,h1,List.mem_cons_of_mem _ h2⟩
theorem mC {ν:Type} {k:κ} {v:ν}:∀{m:Mo κ ν},k∉m.map (·.1)->kz m k v=m++[(k,v)]
 | [],_=>rfl
 | (a,w)::r,h=>by
  simp only[List.map_cons,List.mem_cons,not_or]at h;show (if k=a then _ else _)=_;rw[if_neg h.1,mC h.2];rfl
end
def Vd (t:Trace) (y:aa):Prop:=∃e,(y,e)∈aZ t
theorem Vd.at_ {t:Trace} {y:aa} (h:Vd t y):∃(p k:Nat) (e:Event),lV t p k e/\y=⟨p,k+1⟩/\(y,e)∈aZ t:=by
 obtain⟨e,he⟩:=h;obtain⟨p,k,h1,h2⟩:=dB.1 he;exact⟨p,k,e,h1,h2,he⟩
def FE (t:Trace) (y z:aa):Prop:=∃e f,(y,e)∈aZ t/\(z,f)∈aZ t/\e.kind=2/\f.kind=3/\e.message=f.message
def Edge (t:Trace) (y z:aa):Prop:=Vd t y/\Vd t z/\(z=⟨y.proc,y.index+1⟩\/FE t y z)
abbrev Way (t:Trace):aa->aa->Prop:=Relation.TransGen (Edge t)
def Fg (t:Trace):Prop:=∃x,Way t x x
theorem Way.l {t:Trace} {x y:aa} (h:Way t x y):Vd t x:=by
 induction h with
 | single h=>exact h.1
 | tail _ _ ih=>exact ih
theorem Way.r {t:Trace} {x y:aa} (h:Way t x y):Vd t y:=by
 cases h with
 | single h=>exact h.2.1
 | tail _ h=>exact h.2.1
theorem KD {t:Trace} (hS:Small t) (hF:∀x∈aZ t,iI t.procs.l.length x.1.proc x.2) {A:bh 200 aK} (hA:jI t (aZ t) A) {y:aa} (hy:Vd t y) :
 Wp (ga t A y) λs=>s.l.length<=2/\∀z,z∈s.l↔Edge t y z:=by
 obtain⟨p,k,e,hat,hid,hmem⟩:=hy.at_;have hat':=hat;obtain⟨P,hP,hk⟩:=hat;have hPm:P∈t.procs.l:=List.mem_of_getElem? hP;have h1:=(hS.2 P hPm).1;have hkl:k<P.events.l.length:=(ζe.1 hk).1;have hyp:y.proc=p:=by rw[hid]
 have hyi:y.index=k+1:=by rw[hid]
 have j:∀s:Sl aa,s.l.length<=1->(∀z,z∈s.l↔Vd t z/\z=⟨y.proc,y.index+1⟩)->Wp (ga.J1 A s P.events y) λs=>s.l.length<=2/\∀z,z∈s.l↔Edge t y z:=by
  intro s hs hz;have no:¬(∃z,FE t y z)->s.l.length<=2/\∀z,z∈s.l↔Edge t y z:=λhn=>⟨by omega,λz=>(hz z).trans ⟨λh=>⟨hy,h.1,.inl h.2⟩,λh=>⟨h.2.1,h.2.2.elim id λh=>(hn ⟨z,h⟩).elim⟩⟩⟩
  unfold ga.J1;have hw:IntKind.wrap .i64 (y.index-1)=((k:Nat):Int):=by rw[hyi,kM _ (by omega) (by omega)];omega
  rw[hw,qh,hk,ζb,fW,br];constructor
  .intro hk2;have hk2:e.kind=2:=by simpa using hk2
   have hm:0<=e.message/\e.message<=199:=by
    rcases hF _ hmem with h|⟨_,_,_,_,h⟩
    .simp only at h;omega
    .exact h
   have to_:∀z,FE t y z->(ag A e.message).to_=z:=λz ⟨e',f,a1,a2,a3,a4,a5⟩=>by
    cases zx a1 hmem rfl;rw[a5];exact(hA.rcv _ a2 a4).1
   rw[Hj A hm.1 hm.2,ζb,aj,br];refine⟨λh=>?_,λh=>(aj _).2 (no λ⟨z,hz⟩=>?_)⟩
   .have h:(ag A e.message).to_.index>0:=by simpa using h
    rw[ζb];unfold jC;rw[if_pos (by omega),ζb,aj]
    refine⟨by show (s.l++[(ag A e.message).to_]).length<=2;rw[ζi,List.length_singleton];omega,λz=>?_⟩
    have hto:FE t y (ag A e.message).to_:=by
     rcases hA.to e.message hm.1 hm.2 with h0|⟨e',h1,h2,h3⟩
     .omega
     .exact⟨e,e',hmem,h1,hk2,h2,h3.symm⟩
    show z∈s.l++[(ag A e.message).to_]↔_;rw[List.mem_append,List.mem_singleton,hz];constructor
    .rintro (h|rfl)
     .exact⟨hy,h.1,.inl h.2⟩
     .exact⟨hy,let ⟨_,f,_,a2,_⟩:=hto;⟨f,a2⟩,.inr hto⟩
    .rintro⟨_,h1,h2|h2⟩
     .exact .inl ⟨h1,h2⟩
     .exact .inr (to_ z h2).symm
   .rw[to_ z hz]at h;obtain⟨_,f,_,a2,_⟩:=hz;obtain⟨q,i,_,hi⟩:=dB.1 a2;simp only at hi;rw[hi]at h;simp at h
  .intro hk2;rw[aj,br];refine⟨λh=>(by cases h),λ_=>(aj _).2 (no λ⟨z,e',f,a1,_,a3,_⟩=>?_)⟩
   cases zx a1 hmem rfl;simp[a3]at hk2
 unfold ga;rw[hyp,qh,hP,ζb,br];rw[hyp]at j;constructor
 .intro h;have h:y.index<len P.events:=by simpa using h
  have hk2:k+1<P.events.l.length:=by rw[hyi]at h;simp[len]at h;omega
  refine j _ (by simp[Sl.l]) λz=>?_
  have hw:IntKind.wrap .i64 (y.index+1)=y.index+1:=kM _ (by omega) (by omega)
  simp only[Sl.l,List.mem_singleton,hw];refine⟨λhz=>⟨⟨P.events.l[k+1],dB.2 ⟨p,k+1,⟨P,hP,ζd hk2⟩,?_⟩⟩,hz⟩,λhz=>hz.2⟩
  rw[hz,hyi];simp
 .intro h;have h:¬y.index<len P.events:=by simpa using h
  refine j _ (by simp[Sl.l]) λz=>⟨λhz=>by simp[Sl.l]at hz,λ⟨hz,he⟩=>?_⟩
  obtain⟨q,i,f,⟨Q,hQ,hi⟩,hqi,_⟩:=hz.at_;rw[he,hyi]at hqi;simp only[aa.mk.injEq]at hqi;have:q=p:=by omega
  subst this;rw[hP]at hQ;cases hQ;have:=(ζe.1 hi).1;rw[hyi]at h;simp[len]at h;omega
structure CU (t:Trace) (x:aa) (rest:Sl aa) (m:Mo aa Bool) (U:aa->Prop):Prop where
 rst:∀y∈rest.l,y=x\/Way t x y
 keys:(m.map (·.1)).Nodup
 seen:∀y∈m,Way t x y.1/\y.1≠x/\y.2=true
 le:rest.l.length<=m.length+1
 done:∀y,y=x\/y∈m.map (·.1)->y∈rest.l\/U y\/∀z,Edge t y z->z∈m.map (·.1)
theorem CU.count {t:Trace} {x:aa} {rest:Sl aa} {m:Mo aa Bool} {U:aa->Prop} (h:CU t x rest m U):m.length<=(aZ t).length:=by
 have:=zk (r:=(aZ t).map (·.1)) h.keys λx hx=>by
  obtain⟨y,hy,rfl⟩:=List.mem_map.1 hx;obtain⟨e,he⟩:=(h.seen y hy).1.r;exact List.mem_map.2 ⟨_,he,rfl⟩
 simpa using this
theorem Ia {t:Trace} (hS:Small t) (hN:(aZ t).length<1073741824) (hF:∀x∈aZ t,iI t.procs.l.length x.1.proc x.2) {A:bh 200 aK} (hA:jI t (aZ t) A):Wp (dN t A) λr=>(r.2=true↔Fg t):=by
 unfold dN gM;rw[ζb];unfold dN.E1;rw[sy hS,ζb];refine xR (λk _=>∀x∈(aZ t).take k,¬Way t x.1 x.1) (by simp) ?_ λ_ h=>(aj _).2 ⟨λh=>(by cases h),λ⟨x,hx⟩=>?_⟩
 .intro i x _ hx hall;have hxm:x∈aZ t:=List.mem_of_getElem? hx;unfold dN.oS dN.W2;refine Wp.mono (P:=λw=>match w with|.n s=>¬Way t x.1 x.1|.x e=>False|.r e=>Fg t) ?_ λw hw=>by
   cases w with
   | n s=>
    intro y hy;rw[List.take_add_one,hx]at hy;rcases List.mem_append.1 hy with hy|hy
    .exact hall y hy
    .simp at hy;subst hy;exact hw
   | x e=>exact hw.elim
   | r b=>exact(aj _).2 ⟨λ_=>hw,λ_=>rfl⟩
  refine c8 (λq:Sl aa×Mo aa Bool=>CU t x.1 q.1 q.2 λ_=>False) (λq=>2*((aZ t).length-q.2.length)+q.1.l.length) ⟨λy hy=>.inl (by simpa [Sl.l]using hy),by simp,by simp,by simp[Sl.l],λy hy=>.inl ?_⟩ ?_
  .simpa [Sl.l]using hy
  rintro⟨rest,m⟩ hI;unfold dN.bf;rw[br];refine⟨λh=>?_,λh=>(aj _).2 ((aj _).2 λhw=>?_)⟩
  .have hlen:0<rest.l.length:=by
    have:len rest>0:=by simpa using h
    simp[len]at this;omega
   have hc:=hI.count;have hle:=hI.le;simp only at hc hle;have hw:IntKind.wrap .i64 ((len rest)-1)=((rest.l.length-1:Nat):Int):=by
    rw[kM _ (by simp[len];omega) (by simp[len];omega)];simp[len];omega
   have hlast:rest.l.length-1<rest.l.length:=by omega
   rw[hw];have h1:Sl.mj rest ((rest.l.length-1:Nat):Int)=some (rest.l.length-1):=by
    unfold Sl.mj;rw[if_pos ⟨by omega,by simpa using hlast⟩];rfl
   have h2:Sl.get rest (rest.l.length-1)=some rest.l[rest.l.length-1]:=by unfold Sl.get;exact ζd hlast
   obtain⟨cut,h3,h4⟩:∃x,lq rest none (some ((rest.l.length-1:Nat):Int))=some x/\x.l=rest.l.take (rest.l.length-1):=by
    cases rest with
    | nil=>simp[Sl.l]at hlen
    | emp=>simp[Sl.l]at hlen
    | row l=>
     simp only[Sl.l]at hlen ⊢;unfold lq cC;simp only[Option.getD_none,Option.getD_some];rw[if_pos (by omega)]
     exact⟨_,rfl,by simp[Sl.l]⟩
    | part l=>
     simp only[Sl.l]at hlen ⊢;unfold lq cC;simp only[Option.getD_none,Option.getD_some];rw[if_pos (by omega)]
     exact⟨_,rfl,by simp[Sl.l]⟩
   rw[h1,ζb,h2,ζb,h3,ζb,fW];generalize hye:rest.l[rest.l.length-1]=y;have hym:y∈rest.l:=hye▸List.getElem_mem hlast;have hsplit:∀z,z∈rest.l->z∈cut.l\/z=y:=λz hz=>by
    have:rest.l.take (rest.l.length-1)++rest.l.drop (rest.l.length-1)=rest.l:=List.take_append_drop ..;rw[<-this]at hz;rcases List.mem_append.1 hz with hz|hz
    .exact .inl (h4▸hz)
    .rw[List.drop_eq_getElem_cons hlast,List.drop_of_length_le (by omega)]at hz
     exact .inr (by simpa [hye]using hz)
   have hyw:y=x.1\/Way t x.1 y:=hI.rst _ hym;have hyv:Vd t y:=hyw.elim (λe=>⟨x.2,e▸hxm⟩) Way.r
   refine(KD hS hF hA hyv).mono λs hs=>?_
   unfold dN.W3;refine c8 (λq:Sl aa×Int×Mo aa Bool=>∃n:Nat,q.2.1=n/\n<=s.l.length/\CU t x.1 q.1 q.2.2 (λu=>u=y)/\(∀z∈s.l.take n,z∈q.2.2.map (·.1))/\2*((aZ t).length-q.2.2.length)+q.1.l.length<2*((aZ t).length-m.length)+rest.l.length) (λq=>s.l.length-q.2.1.toNat)
    ⟨0,rfl,Nat.zero_le _,⟨λz hz=>hI.rst z (by rw[h4]at hz;exact List.mem_of_mem_take hz),hI.keys,hI.seen,by rw[h4];simp;omega,λu hu=>?_⟩,by simp,by rw[h4];simp;omega⟩ ?_
   .rcases hI.done u hu with h|h|h
    .exact(hsplit u h).imp_right .inl
    .exact h.elim
    .exact .inr (.inr h)
   rintro⟨rest2,i2,m2⟩ ⟨n,rfl,hn,hI2,hms,hμ⟩;simp only at hI2 hμ hms;unfold dN.dG;rw[br];constructor
   .intro h;have hlt:n<s.l.length:=by simpa [len]using h
    have hxe:=(hs.2 s.l[n]).1 (List.getElem_mem hlt);have hxw:Way t x.1 s.l[n]:=hyw.elim (λe=>.single (e▸hxe)) λh=>.tail h hxe
    rw[aJ hlt,ζb,br];refine⟨λhe=>(aj _).2 ((aj _).2 ((aj _).2 ⟨x.1,?_⟩)),λhne=>?_⟩
    .have:s.l[n]=x.1:=by
      unfold Fz at he
      revert he;cases s.l[n];cases x.1;intro he;simpa using he
     rw[this]at hxw;exact hxw
    have hne:s.l[n]≠x.1:=λe=>by rw[e]at hne;simp[Fz]at hne
    have hw2:=bK n (by omega)
    have htk:s.l.take (n+1)=s.l.take n++[s.l[n]]:=by rw[List.take_add_one,ζd hlt];rfl
    rw[br];refine⟨λhg=>(aj _).2 ⟨⟨n+1,hw2,by omega,hI2,λz hz=>?_,hμ⟩,by show _-(IntKind.wrap .i64 ((n:Int)+1)).toNat<_;rw[hw2];simp;omega⟩,λhno=>?_⟩
    .rw[htk]at hz;rcases List.mem_append.1 hz with hz|hz
     .exact hms z hz
     .simp only[List.mem_singleton]at hz;subst hz;apply Classical.byContradiction;intro hk;unfold uF at hg;rw[vN hk]at hg;cases hg
    have hc2:=hI2.count;have hle2:=hI2.le;unfold jC;rw[if_pos (show rest2.l.length+1<=2147483648 from by omega),ζb,aj]
    have hnew:s.l[n]∉m2.map (·.1):=λhin=>by
     obtain⟨v,hv,hvm⟩:=wE hin;have:=(hI2.seen _ hvm).2.2;simp only at this;subst this;unfold uF at hno;rw[hv]at hno;cases hno
    have hmm:∀z,z∈(kz m2 s.l[n] true).map (·.1)↔z∈m2.map (·.1)\/z=s.l[n]:=λz=>by
     rw[mC hnew,List.map_append,List.mem_append];simp
    have hS2:CU t x.1 (.row (rest2.l++[s.l[n]])) (kz m2 s.l[n] true) (λu=>u=y):=by
     refine⟨λy hy=>?_,?_,λy hy=>?_,?_,λu hu=>?_⟩
     .simp only[Sl.l,List.mem_append,List.mem_singleton]at hy;rcases hy with hy|rfl
      .exact hI2.rst y hy
      .exact .inr hxw
     .rw[mC hnew,List.map_append,List.nodup_append];refine⟨hI2.keys,by simp,λa ha b hb=>?_⟩
      simp only[List.map_cons,List.map_nil,List.mem_singleton]at hb;subst hb;exact λe=>hnew (e▸ha)
     .rw[mC hnew]at hy;rcases List.mem_append.1 hy with hy|hy
      .exact hI2.seen y hy
      .simp only[List.mem_singleton]at hy;subst hy;exact⟨hxw,hne,rfl⟩
     .rw[mC hnew];show (rest2.l++[s.l[n]]).length<=_;rw[ζi,ζi,List.length_singleton,List.length_singleton];omega
     .simp only[Sl.l,List.mem_append,List.mem_singleton];have old:u=x.1\/u∈m2.map (·.1)->(u∈rest2.l\/u=s.l[n])\/u=y\/∀z,Edge t u z->z∈(kz m2 s.l[n] true).map (·.1):=λhu=>by
       rcases hI2.done u hu with h|h|h
       .exact .inl (.inl h)
       .exact .inr (.inl h)
       .exact .inr (.inr λz hz=>(hmm z).2 (.inl (h z hz)))
      rcases hu with hu|hu
      .exact old (.inl hu)
      .rcases (hmm u).1 hu with hu|hu
       .exact old (.inr hu)
       .exact .inl (.inr hu)
    have hc3:=hS2.count;refine⟨⟨n+1,hw2,by omega,hS2,λz hz=>?_,?_⟩,by show _-(IntKind.wrap .i64 ((n:Int)+1)).toNat<_;rw[hw2];simp;omega⟩
    .rw[htk]at hz;rcases List.mem_append.1 hz with hz|hz
     .exact(hmm z).2 (.inl (hms z hz))
     .exact(hmm z).2 (.inr (by simpa using hz))
    rw[mC hnew,ζi,List.length_singleton]at hc3;show 2*((aZ t).length-(kz m2 s.l[n] true).length)+(rest2.l++[s.l[n]]).length<_;rw[mC hnew,ζi,ζi,List.length_singleton,List.length_singleton];omega
   .intro h;have hge:s.l.length<=n:=by simpa [len]using h
    rw[List.take_of_length_le hge]at hms;refine(aj _).2 ((aj _).2 ⟨⟨hI2.rst,hI2.keys,hI2.seen,hI2.le,λu hu=>?_⟩,hμ⟩)
    rcases hI2.done u hu with h|h|h
    .exact .inl h
    .subst h;exact .inr (.inr λz hz=>hms z ((hs.2 z).2 hz))
    .exact .inr (.inr h)
  .have hr0:rest.l=[]:=by
    have:¬len rest>0:=by simpa using h
    simp[len]at this;exact this
   have hd:∀y,y=x.1\/y∈m.map (·.1)->∀z,Edge t y z->z∈m.map (·.1):=λy hy=>by
    rcases hI.done y hy with h|h|h
    .simp only[hr0]at h;cases h
    .exact h.elim
    .exact h
   have key:∀z,Way t x.1 z->z∈m.map (·.1):=λz hz=>by
    induction hz with
    | single h=>exact hd _ (.inl rfl) _ h
    | tail _ h ih=>exact hd _ (.inr ih) _ h
   obtain⟨y,hy,hyx⟩:=List.mem_map.1 (key _ hw);exact(hI.seen y hy).2.1 hyx
 .obtain⟨e,he⟩:=hx.l;rw[List.take_length]at h;exact absurd hx (h _ he)
structure Ok (t:Trace):Prop where
 one:1<=t.procs.l.length
 few:t.procs.l.length<=8
 heads:∀p,p<t.procs.l.length->qF t p=0
 eN:∀(p k:Nat) P e,t.procs.l[p]? = some P->P.events.l[k]? = some e->lY t.procs.l.length P p k e=0
 IM:uV t
 acyc:¬Fg t
theorem B5 {t:Trace} (h:∀(p k:Nat) P e,t.procs.l[p]? = some P->P.events.l[k]? = some e->lY t.procs.l.length P p k e=0):∀x∈aZ t,iI t.procs.l.length x.1.proc x.2:=λx hx=>by
 obtain⟨p,k,⟨P,hP,he⟩,hid⟩:=dB.1 hx;rw[hid];exact C7 (h p k P _ hP he)
structure VT (t:Trace):Prop where
 formed:∀x∈aZ t,iI t.procs.l.length x.1.proc x.2
 msgs:∃A i,cW t=some (some A,i,0)/\jI t (aZ t) A
 few:t.procs.l.length<=8
 ok:Ok t
theorem K2 {t:Trace} (hS:Small t) (hN:(aZ t).length<1073741824):Wp (eV t) λr=>(r.2=0->VT t)/\(Ok t->r.2=0):=by
 unfold eV;rw[lG,ζb,br];refine⟨λhin=>?_,λhin=>(aj _).2 ⟨λh=>(by cases h),λh=>?_⟩⟩
 rotate_left
 .have h1:=h.one;have h8:=h.few;simp only[Bool.and_eq_false_iff,decide_eq_false_iff_not,len]at hin;omega
 have h8:1<=t.procs.l.length/\t.procs.l.length<=8:=by
  simp only[ζh,decide_eq_true_eq,len]at hin;omega
 unfold eV.W1;refine c8 (λi:Int=>∃n:Nat,i=n/\n<=t.procs.l.length/\∀p,p<n->qF t p=0) (λi:Int=>t.procs.l.length-i.toNat) ⟨0,rfl,Nat.zero_le _,λp hp=>absurd hp (by omega)⟩ ?_
 rintro i ⟨n,rfl,hn,hh⟩;unfold eV.aA;rw[br];constructor
 .intro h;have hlt:n<t.procs.l.length:=by simpa [len]using h
  rw[KL hS hlt,ζb,br];refine⟨λh0=>(aj _).2 ⟨⟨n+1,bK n (by omega),by omega,λp hp=>?_⟩,by rw[bK n (by omega)];simp;omega⟩,λh0=>(aj _).2 ((aj _).2 ⟨λh=>?_,λh=>?_⟩)⟩
  .by_cases e:p=n
   .subst e;simpa using h0
   .exact hh p (by omega)
  .simp only at h;simp[h]at h0
  .simp[h.heads n hlt]at h0
 .intro h;have hge:t.procs.l.length<=n:=by simpa [len]using h
  rw[aj];unfold gM;rw[ζb];unfold eV.E2;rw[sy hS,ζb];refine xR (λi _=>∀(p k:Nat) P e,t.procs.l[p]? = some P->P.events.l[k]? = some e->(⟨p,k+1⟩,e)∈(aZ t).take i->lY t.procs.l.length P p k e=0) (by simp) ?_ ?_
  .intro i x _ hx hI;have hxm:x∈aZ t:=List.mem_of_getElem? hx;obtain⟨p,j,⟨P,hP,he⟩,hid⟩:=dB.1 hxm;unfold eV.Fs;rw[hid,IW hS hP he,ζb,br];refine⟨λh0=>(aj _).2 λp' k' P' e' hP' he' hm=>?_,λh0=>(aj _).2 ((aj _).2 ⟨λh=>?_,λh=>?_⟩)⟩
   .rw[List.take_add_one,hx]at hm;rcases List.mem_append.1 hm with hm|hm
    .exact hI p' k' P' e' hP' he' hm
    .simp only[Option.toList_some,List.mem_singleton]at hm;rw[<-hm]at hid he;simp only[aa.mk.injEq]at hid;have e1:p'=p:=by omega
     have e2:k'=j:=by omega
     subst e1 e2;rw[hP']at hP;cases hP;rw[<-hm]at h0;simpa using h0
   .simp only at h;simp[h]at h0
   .simp[h.eN p j P _ hP he]at h0
  .intro _ hI;have hI:∀(p k:Nat) P e,t.procs.l[p]? = some P->P.events.l[k]? = some e->lY t.procs.l.length P p k e=0:=λp k P e hP he=>hI p k P e hP he (by rw[List.take_length];exact dB.2 ⟨p,k,⟨P,hP,he⟩,rfl⟩)
   have hF:=B5 hI;obtain⟨r,hr,hq,hq2⟩:=AN hS hF;rw[hr,ζb,br];refine⟨λh0=>?_,λh0=>(aj _).2 ⟨λh=>?_,λh=>hq2 h.IM⟩⟩
   .have h0:r.2.2=0:=by simpa using h0
    obtain⟨A,hA,hM⟩:=hq h0;rw[hA,ζb];obtain⟨c,hc,hcc⟩:=Ia hS hN hF hM;rw[hc,ζb,br];refine⟨λhb=>(aj _).2 ⟨λh=>(by cases h),λh=>absurd (hcc.1 hb) h.acyc⟩,λhb=>(aj _).2 ⟨λ_=>?_,λ_=>rfl⟩⟩
    exact⟨hF,⟨A,r.2.1,by rw[hr];obtain⟨r1,r2,r3⟩:=r;simp only at hA h0;rw[hA,h0],hM⟩,h8.2,h8.1,h8.2,λp hp=>hh p (by omega),hI,hM.IM,λhc=>by rw[hcc.2 hc]at hb;cases hb⟩
   .simp only at h;simp[h]at h0
theorem Ms {t:Trace} (hS:Small t) (hN:(aZ t).length<1073741824):Wp (dw t) λb=>(b=true->VT t)/\(Ok t->b=true):=by
 unfold dw;rw[fW];exact(K2 hS hN).mono λr hr=>(aj _).2 ⟨λh=>hr.1 (by simpa using h),λh=>by simpa using hr.2 h⟩
end Go.VE
namespace Go.VE
end Go.VE
namespace Go.VE
end Go.VE
namespace Go.VE
theorem Ir {t:Trace} (hS:Small t) (hv:dw t=some true) {A:bh 200 aK} (hM:jI t (aZ t) A) {x:aa×Event} (hx:x∈aZ t) (hk:x.2.kind=2):pF t x.2.message=some (x.1,true):=by
 refine Wp.eq ?_;unfold pF i_;rw[hv,ζb,aX];unfold gM;rw[ζb];unfold i_.E1;rw[sy hS,ζb,fW];refine xR (λk _=>∀y∈(aZ t).take k,¬(y.2.kind=2/\y.2.message=x.2.message)) (by simp) ?_ ?_
 .intro k y _ hy hI;have hym:y∈aZ t:=List.mem_of_getElem? hy;unfold i_.oS;rw[ji,ζb,br];constructor
  .intro hc;have hc:y.2.kind=2/\y.2.message=x.2.message:=by simpa using hc
   refine(aj _).2 ((aj _).2 ((aj _).2 ?_));have h1:=hM.snd y hym hc.1;have h2:=hM.snd x hx hk;rw[hc.2,h2]at h1;rw[h1]
  .intro hc;have hc:¬(y.2.kind=2/\y.2.message=x.2.message):=by
    intro h;rw[h.1,h.2]at hc;simp at hc
   rw[aj];intro z hz;rw[List.take_add_one,hy]at hz;rcases List.mem_append.1 hz with hz|hz
   .exact hI z hz
   .simp at hz;subst hz;exact hc
 .intro _ hI;rw[List.take_length]at hI;exact absurd ⟨hk,rfl⟩ (hI x hx)
def tS (t:Trace) (c:List Int):Prop:=c.length=t.procs.l.length/\∀(p:Nat) (a:Int) (P:bG),c[p]? = some a->t.procs.l[p]? = some P->0<=a/\a<=P.events.l.length
def lJ (t:Trace) (A:bh 200 aK) (c:List Int):Prop:=∀(p k:Nat) (e:Event) (a:Int),lV t p k e->c[p]? = some a->(k:Int)<a->e.kind=3->∃b,c[(ag A e.message).from_.proc.toNat]? = some b/\(ag A e.message).from_.index<=b
theorem CG {t:Trace} (hV:VT t) {A:bh 200 aK} (hM:jI t (aZ t) A) {p k:Nat} {e:Event} (he:lV t p k e) (hk:e.kind=3) :
 ∃(q j:Nat) (y:Event),lV t q j y/\y.kind=2/\y.message=e.message/\y.peer=p/\e.peer=q/\(ag A e.message).from_=⟨q,j+1⟩:=by
 have hmem:((⟨p,k+1⟩:aa),e)∈aZ t:=dB.2 ⟨p,k,he,rfl⟩;have hs:=(hM.rcv _ hmem hk).2;have hf:=hV.formed _ hmem;simp only at hs hf;have hpeer:0<=e.peer:=by
  rcases hf with h|⟨_,h,_⟩
  .omega
  .exact h
 obtain⟨q,hq⟩:∃q:Nat,e.peer=q:=⟨e.peer.toNat,by omega⟩
 rw[hq]at hs;obtain⟨j,y,hat,h1,h2,h3⟩:=An.1 hs;have:=hM.snd (⟨q,j+1⟩,y) (dB.2 ⟨q,j,hat,rfl⟩) h1;simp only at this;rw[h2]at this;exact⟨q,j,y,hat,h1,h2,h3,hq,this⟩
def ZM (t:Trace) (A:bh 200 aK) (c:List Int) (s:aa):Prop:=∃(p k:Nat) (e:Event) (a:Int) (q j:Nat) (y:Event) (b:Int),lV t p k e/\c[p]? = some a/\(k:Int)<a/\e.kind=3/\(ag A e.message).from_=s/\s=⟨q,j+1⟩/\lV t q j y/\c[q]? = some b/\b<(j:Int)+1
theorem O2 {t:Trace} (hS:Small t) (hv:dw t=some true) (hV:VT t) {A:bh 200 aK} (hM:jI t (aZ t) A) {c:Sl Int} (hR:tS t c.l):Wp (eT t c) λr=>(r.2.2=false->lJ t A c.l)/\(r.2.2=true->ZM t A c.l r.1):=by
 have hn8:=hV.few;unfold eT eT.W1;refine c8 (λs:Int=>∃n:Nat,s=n/\n<=c.l.length/\∀(p k:Nat) (e:Event) (a:Int),p<n->lV t p k e->c.l[p]? = some a->(k:Int)<a->e.kind=3->∃b,c.l[(ag A e.message).from_.proc.toNat]? = some b/\(ag A e.message).from_.index<=b) (λs:Int=>c.l.length-s.toNat) ⟨0,rfl,Nat.zero_le _,λp k e a h=>absurd h (by omega)⟩ ?_
 rintro s ⟨n,rfl,hn,hI⟩;have hcl:=hR.1;unfold eT.aA;rw[br];constructor
 .intro h;have hlt:n<c.l.length:=by simpa [len]using h
  have hlt2:n<t.procs.l.length:=by omega
  have hP:=(hS.2 _ (List.getElem_mem hlt2)).1;obtain⟨r1,r2⟩:=hR.2 n _ _ (ζd hlt) (ζd hlt2);rw[aJ hlt,ζb,aJ hlt2,ζb];obtain⟨y,hy,hyl⟩:=ri t.procs.l[n].events c.l[n].toNat (by omega)
  rw[show ((c.l[n].toNat:Nat):Int)=c.l[n]from by omega]at hy
  rw[hy,ζb];unfold eT.W2;refine c8 (λs:Int=>∃m:Nat,s=m/\m<=y.l.length/\∀(k:Nat) (e:Event),k<m->lV t n k e->e.kind=3->∃b,c.l[(ag A e.message).from_.proc.toNat]? = some b/\(ag A e.message).from_.index<=b) (λs:Int=>y.l.length-s.toNat) ⟨0,rfl,Nat.zero_le _,λk e h=>absurd h (by omega)⟩ ?_
  rintro s ⟨m,rfl,hm,hJ⟩;have hyl2:y.l.length=c.l[n].toNat:=by rw[hyl,List.length_take];omega
  unfold eT.bf;rw[br];constructor
  .intro h;have hltm:m<y.l.length:=by simpa [len]using h
   have hwm:=bK m (by omega)
   have hmu:y.l.length-(IntKind.wrap .i64 ((m:Int)+1)).toNat<y.l.length-((m:Int)).toNat:=by rw[hwm];simp;omega
   have hg:y.l[m]? = t.procs.l[n].events.l[m]? := by rw[hyl,List.getElem?_take,if_pos (show m<c.l[n].toNat from by omega)]
   have hat:lV t n m y.l[m]:=⟨_,ζd hlt2,by rw[<-hg];exact ζd hltm⟩
   rw[aJ hltm,ζb];generalize y.l[m]=e at hat;rw[br];constructor
   .intro hk;have hk:e.kind=3:=by simpa using hk
    obtain⟨q,j,z,hz,z1,z2,z3,z4,z5⟩:=CG hV hM hat hk;have hsd:=Ir hS hv hM (x:=(⟨q,j+1⟩,z)) (dB.2 ⟨q,j,hz,rfl⟩) z1;simp only at hsd;rw[z2]at hsd;have hzq:=hz;obtain⟨Q,hQ,_⟩:=hz;have hql:q<c.l.length:=by have:=(ζe.1 hQ).1;omega
    rw[hsd,ζb];simp only;rw[aJ hql,ζb,br];constructor
    .intro hgt;have hgt:(j:Int)+1>c.l[q]:=by simpa using hgt
     exact(aj _).2 ((aj _).2 ((aj _).2 ⟨λh=>(by cases h),λ_=>⟨n,m,e,c.l[n],q,j,z,c.l[q],hat,ζd hlt,by omega,hk,z5,rfl,hzq,ζd hql,by omega⟩⟩))
    .intro hle;have hle:¬((j:Int)+1>c.l[q]):=by simpa using hle
     refine(aj _).2 ⟨⟨m+1,hwm,by omega,λk e' hk' hat' he'=>?_⟩,hmu⟩
     by_cases ek:k=m
     .subst ek;have:e'=e:=by
       obtain⟨P1,a1,a2⟩:=hat;obtain⟨P2,b1,b2⟩:=hat';rw[a1]at b1;cases b1;rw[a2]at b2;cases b2;rfl
      subst this;rw[z5];exact⟨c.l[q],by simp only[Int.toNat_natCast];exact ζd hql,by simp only;omega⟩
     .exact hJ k e' (by omega) hat' he'
   .intro hk;have hk:¬e.kind=3:=by simpa using hk
    refine(aj _).2 ⟨⟨m+1,hwm,by omega,λk e' hk' hat' he'=>?_⟩,hmu⟩
    by_cases ek:k=m
    .subst ek;have:e'=e:=by
      obtain⟨P1,a1,a2⟩:=hat;obtain⟨P2,b1,b2⟩:=hat';rw[a1]at b1;cases b1;rw[a2]at b2;cases b2;rfl
     subst this;exact absurd he' hk
    .exact hJ k e' (by omega) hat' he'
  .intro h;have hge:y.l.length<=m:=by simpa [len]using h
   have hwn:=bK n (by omega)
   refine(aj _).2 ((aj _).2 ⟨⟨n+1,hwn,by omega,λp k e a hp hat ha hka he=>?_⟩,by show _-(IntKind.wrap .i64 ((n:Int)+1)).toNat<_;rw[hwn];simp;omega⟩)
   by_cases ep:p=n
   .subst ep;rw[ζd hlt]at ha;cases ha;exact hJ k e (by omega) hat he
   .exact hI p k e a (by omega) hat ha hka he
 .intro h;have hge:c.l.length<=n:=by simpa [len]using h
  refine(aj _).2 ((aj _).2 ⟨λ_ p k e a hat ha hka he=>hI p k e a (by have:=(ζe.1 ha).1;omega) hat ha hka he,λh=>(by cases h)⟩)
theorem FY {t:Trace} (hS:Small t) (hv:dw t=some true) (hV:VT t) {A:bh 200 aK} (hM:jI t (aZ t) A) {c:Sl Int} (hR:tS t c.l):Wp (eT t c) λr=>(r.2.2=false↔lJ t A c.l):=by
 refine(O2 hS hv hV hM hR).mono λr hr=>⟨hr.1,λhC=>?_⟩
 cases h:r.2.2 with
 | false=>rfl
 | true=>
  obtain⟨p,k,e,a,q,j,y,b,h1,h2,h3,h4,h5,h6,_,h7,h8⟩:=hr.2 h;obtain⟨b',g1,g2⟩:=hC p k e a h1 h2 h3 h4;rw[h5,h6]at g1 g2;simp only[Int.toNat_natCast]at g1 g2;rw[h7]at g1;cases g1;omega
end Go.VE
namespace Go.VE
theorem wT {s:Sl (Sl Int)} {p:Sl Int->Option Bool} {f:Sl Int->Bool} (hp:∀x∈s.l,p x=some (f x)) (hl:s.l.length<1073741824):fB s p=some (s.l.any f):=by
 have h:dZ s p=some (place f s.l):=oO hp (by omega) (λi=>rfl)
 unfold fB;rw[h,ζb,oP]
theorem GL {t:Trace} (hS:Small t) {c:Sl Int} (hcl:c.l.length=t.procs.l.length):Wp (gJ t c) λb=>(b=true↔tS t c.l):=by
 have h1:=hS.1;unfold gJ gJ.W1;refine c8 (λs:Int=>∃n:Nat,s=n/\n<=c.l.length/\∀(p:Nat) (a:Int) (P:bG),p<n->c.l[p]? = some a->t.procs.l[p]? = some P->0<=a/\a<=P.events.l.length) (λs:Int=>c.l.length-s.toNat) ⟨0,rfl,Nat.zero_le _,λp a P h=>absurd h (by omega)⟩ ?_
 rintro s ⟨n,rfl,hn,hI⟩;unfold gJ.aA;rw[br];constructor
 .intro h;have hlt:n<c.l.length:=by simpa [len]using h
  have hlt2:n<t.procs.l.length:=by omega
  have hw:=bK n (by omega)
  rw[aJ hlt,ζb,aJ hlt2,ζb,gE,ζb,br];constructor
  .intro hb;have hb:c.l[n]<0\/c.l[n]>t.procs.l[n].events.l.length:=by simpa [len]using hb
   refine(aj _).2 ((aj _).2 ⟨λh=>(by cases h),λhR=>?_⟩)
   have:=hR.2 n _ _ (ζd hlt) (ζd hlt2);omega
  .intro hb;have hb:0<=c.l[n]/\c.l[n]<=t.procs.l[n].events.l.length:=by simpa [len]using hb
   refine(aj _).2 ⟨⟨n+1,hw,by omega,λp a P hp ha hP=>?_⟩,by rw[hw];simp;omega⟩
   by_cases e:p=n
   .subst e;rw[ζd hlt]at ha;cases ha;rw[ζd hlt2]at hP;cases hP;exact hb
   .exact hI p a P (by omega) ha hP
 .intro h;have hge:c.l.length<=n:=by simpa [len]using h
  refine(aj _).2 ((aj _).2 ⟨λ_=>⟨hcl,λp a P ha hP=>hI p a P (by have:=(ζe.1 ha).1;omega) ha hP⟩,λ_=>rfl⟩)
def Code (t:Trace) (A:bh 200 aK) (c:List Int) (r:Int):Prop:=c.length≠t.procs.l.length/\r=1\/c.length=t.procs.l.length/\¬tS t c/\r=2\/tS t c/\¬lJ t A c/\r=18\/tS t c/\lJ t A c/\r=0
theorem SL {t:Trace} (hS:Small t) (hv:dw t=some true) (hV:VT t) {A:bh 200 aK} (hM:jI t (aZ t) A) (c:Sl Int) :
 Wp (dQ t (Sl.row [c]:Sl (Sl Int)) (Sl.nil:Sl Int)) λr=>Code t A c.l r:=by
 unfold dQ wY;rw[hv,ζb,aX,wT (f:=λz=>(kB z t).getD false) (λz _=>BA.ok ((aj _).2 trivial)) (by simp[Sl.l]),ζb,ζb,ζb]
 have hany:(!((Sl.row [c]:Sl (Sl Int)).l.any λz=>(kB z t).getD false))=(len c==len t.procs):=by
  simp[Sl.l,kB]
 rw[hany,br];constructor
 .intro h;have hcl:c.l.length=t.procs.l.length:=by
   have:(c.l.length:Int)=t.procs.l.length:=by simpa [len]using h
   omega
  unfold dQ.W1;refine c8 (λs:Int=>s=0\/s=1/\tS t c.l) (λs:Int=>1-s.toNat) (.inl rfl) ?_
  intro s hs;unfold dQ.aA;rcases hs with rfl|⟨rfl,hR⟩
  .rw[show decide ((0:Int)<len (Sl.row [c]:Sl (Sl Int)))=true from rfl,aX,show idx (Sl.row [c]:Sl (Sl Int)) 0=some c from rfl,ζb,fW];refine(GL hS hcl).mono λb hb=>?_
   rw[br];exact⟨λhbt=>(aj _).2 ⟨.inr ⟨rfl,hb.1 hbt⟩,by decide⟩,λhbf=>(aj _).2 ((aj _).2 (.inr (.inl ⟨hcl,λh=>(by rw[hb.2 h]at hbf;cases hbf),rfl⟩)))⟩
  .rw[show decide ((1:Int)<len (Sl.row [c]:Sl (Sl Int)))=false from rfl,bg,aj];show Wp (dQ.W2 (Sl.row [c]) Sl.nil 0 0 t) _;unfold dQ.W2;refine c8 (λs:Int=>s=0) (λ_=>0) rfl ?_
   rintro s rfl;unfold dQ.bf;rw[show decide ((0:Int)<0)=false from rfl,bg,aj];show Wp (dQ.W3 (Sl.row [c]) 1 0 t) _;unfold dQ.W3;refine c8 (λs:Int=>s=0\/s=1/\lJ t A c.l) (λs:Int=>1-s.toNat) (.inl rfl) ?_
   intro s hs;unfold dQ.dG;rcases hs with rfl|⟨rfl,hC⟩
   .rw[show decide ((0:Int)<1)=true from rfl,aX,show idx (Sl.row [c]:Sl (Sl Int)) 0=some c from rfl,ζb];unfold vj;rw[fW,fW];refine(FY hS hv hV hM hR).mono λr hr=>?_
    rw[aj,br];exact⟨λhb=>(aj _).2 ⟨.inr ⟨rfl,hr.1 (by simpa using hb)⟩,by decide⟩,λhb=>(aj _).2 ((aj _).2 (.inr (.inr (.inl ⟨hR,λh=>(by have:=hr.2 h;simp[this]at hb),rfl⟩))))⟩
   .rw[show decide ((1:Int)<1)=false from rfl,bg,aj];exact(aj _).2 (.inr (.inr (.inr ⟨hR,hC,rfl⟩)))
 .intro h;exact(aj _).2 (.inl ⟨λe=>(by simp[len,e]at h),rfl⟩)
theorem Code.zero {t:Trace} {A:bh 200 aK} {c:List Int} {r:Int} (h:Code t A c r):r=0↔tS t c/\lJ t A c:=by
 rcases h with⟨h,rfl⟩|⟨_,h,rfl⟩|⟨_,h,rfl⟩|⟨h1,h2,rfl⟩
 .exact⟨λh=>(by cases h),λh'=>absurd h'.1.1 h⟩
 .exact⟨λh=>(by cases h),λh'=>absurd h'.1 h⟩
 .exact⟨λh=>(by cases h),λh'=>absurd h'.2 h⟩
 .exact⟨λ_=>⟨h1,h2⟩,λ_=>rfl⟩
theorem Mw {t:Trace} (hS:Small t) (hv:dw t=some true) (hV:VT t) {A:bh 200 aK} (hM:jI t (aZ t) A) (c:Sl Int) :
 Wp (dQ t (Sl.row [c]:Sl (Sl Int)) (Sl.nil:Sl Int)) λr=>(r=0↔tS t c.l/\lJ t A c.l):=(SL hS hv hV hM c).mono λ_ h=>h.zero
def Cons (t:Trace) (A:bh 200 aK) (c:List Int):Prop:=tS t c/\lJ t A c
end Go.VE
namespace Go.VE
end Go.VE
namespace Go.VE
end Go.VE
namespace Go.VE
def pM (kind m:Int) (x:aa×Event):Bool:=x.2.kind==kind&&x.2.message==m
def jG (t:Trace) (kind m:Int):aa:=match (aZ t).find? (pM kind m)with
 | some x=>x.1
 | none=>⟨0,0⟩
theorem GK {t:Trace} {kind m:Int} {p:Nat} {P:bG} (hp8:p<9223372036854775806) (hP:t.procs.l[p]? = some P) (hl:P.events.l.length<1073741824):∀(q i:Nat),i+q=P.events.l.length ->
 aS (λq:Int=>ct.bf kind m p t ⟨0,0⟩ q) (i:Int)=some (match (fI p i (P.events.l.drop i)).find? (pM kind m)with|some x=>.r x.1|none=>.x ()):=by
 have hix:idx t.procs (p:Int)=some P:=by rw[qh];exact hP
 intro q
 induction q with
 | zero=>
  intro i hi;rw[dO];unfold ct.bf;rw[hix,ζb,show decide ((i:Int)<len P.events)=false from by simp[len];omega,bg,List.drop_of_length_le (by omega)]
  rfl
 | succ q ih=>
  intro i hi;have hil:i<P.events.l.length:=by omega
  rw[dO];have hs:ct.bf kind m p t ⟨0,0⟩ i=some (if pM kind m (⟨p,(i:Int)+1⟩,P.events.l[i])then .r ⟨p,(i:Int)+1⟩else .n ((i+1:Nat):Int)):=by
   unfold ct.bf;rw[hix,ζb,show decide ((i:Int)<len P.events)=true from by simp[len];omega,aX,ζb,aJ hil,ζb,ji,ζb,bK i (by omega),qG]
   rfl
  rw[hs,ζb,List.drop_eq_getElem_cons hil];simp only[fI,List.find?_cons]
  cases hh:pM kind m (⟨p,(i:Int)+1⟩,P.events.l[i])with
  | true=>rfl
  | false=>
   simp only[Bool.false_eq_true,if_false];exact ih (i+1) (by omega)
theorem Gl {t:Trace} (hS:Small t) {kind m:Int}:∀(q p:Nat),p+q=t.procs.l.length ->
 aS (λq:Int=>ct.aA kind m t ⟨0,0⟩ q) (p:Int)=some (match (dP p (t.procs.l.drop p)).find? (pM kind m)with|some x=>.r x.1|none=>.x ()):=by
 have h1:=hS.1;intro q
 induction q with
 | zero=>
  intro p hp;rw[dO];unfold ct.aA;rw[show decide ((p:Int)<len t.procs)=false from by simp[len];omega,bg,List.drop_of_length_le (by omega)]
  rfl
 | succ q ih=>
  intro p hp;have hpl:p<t.procs.l.length:=by omega
  have hw:aS (λq:Int=>ct.bf kind m p t ⟨0,0⟩ q) 0=some (match (fI p 0 t.procs.l[p].events.l).find? (pM kind m)with|some x=>.r x.1|none=>.x ()):=GK (t:=t) (kind:=kind) (m:=m) (by omega) (ζd hpl) (hS.2 _ (List.getElem_mem hpl)).1 (t.procs.l[p].events.l.length) 0 (by omega)
  rw[dO];unfold ct.aA;rw[show decide ((p:Int)<len t.procs)=true from by simp[len];omega,aX]
  unfold ct.W2;rw[hw,List.drop_eq_getElem_cons hpl];simp only[dP,List.find?_append]
  cases hf:(fI p 0 t.procs.l[p].events.l).find? (pM kind m)with
  | some x=>rfl
  | none=>
   simp only[ζb,Fw.elim,Option.none_or];rw[bK p (by omega)]
   exact ih (p+1) (by omega)
theorem find_eq {t:Trace} (hS:Small t) (kind m:Int):ct t kind m=some (jG t kind m):=by
 unfold ct ct.W1;have hw:aS (λq:Int=>ct.aA kind m t ⟨0,0⟩ q) 0=some (match (aZ t).find? (pM kind m)with|some x=>.r x.1|none=>.x ()):=Gl hS (kind:=kind) (m:=m) t.procs.l.length 0 (by omega)
 rw[hw];unfold jG;cases (aZ t).find? (pM kind m) <;> rfl
theorem zP {t:Trace} {kind m:Int} {x:aa×Event} (h:(aZ t).find? (pM kind m)=some x):x∈aZ t/\x.2.kind=kind/\x.2.message=m/\jG t kind m=x.1:=by
 have h1:=List.find?_some h;simp only[pM,ζh,beq_iff_eq]at h1;exact⟨List.mem_of_find?_eq_some h,h1.1,h1.2,by unfold jG;rw[h]⟩
theorem CZ {t:Trace} {kind m:Int} {x:aa×Event} (hx:x∈aZ t) (hk:x.2.kind=kind) (hm:x.2.message=m):∃y,(aZ t).find? (pM kind m)=some y:=by
 cases hf:(aZ t).find? (pM kind m)with
 | some y=>exact⟨y,rfl⟩
 | none=>
  rw[List.find?_eq_none]at hf;exact absurd (hf x hx) (by simp[pM,hk,hm])
theorem M5 {t:Trace} {p k:Nat} {e:Event} (h:lV t p k e) (hk:k<9223372036854775807):rF t ⟨p,k+1⟩=some e:=by
 obtain⟨P,hP,he⟩:=h;unfold rF;dsimp only;rw[show idx t.procs (p:Int)=some P from by rw[qh];exact hP,ζb,show IntKind.wrap .i64 ((k:Int)+1-1)=(k:Int)from by rw[kM _ (by omega) (by omega)];omega,show idx P.events (k:Int)=some e from by rw[qh];exact he]
 rfl
def rZ (t:Trace) (x:aa×Event):Int:=if x.2.kind=1 then 0 else if jG t x.2.kind x.2.message=x.1 then(if x.2.kind=3 then(if pz t x.2.peer x.2.message x.1.proc then 0 else 7)else 0)else 8
theorem IQ {t:Trace} (hS:Small t) {p k:Nat} {e:Event} (h:lV t p k e) (hF:iI t.procs.l.length p e):fF t ⟨p,k+1⟩=some (rZ t (⟨p,k+1⟩,e)):=by
 have hk:k<1073741824:=by
  obtain⟨P,hP,he⟩:=h;have:=(hS.2 P (List.mem_of_getElem? hP)).1;have:=(ζe.1 he).1;omega
 unfold fF rZ;rw[M5 h (by omega),ζb]
 dsimp only
 by_cases h1:e.kind=1
 .rw[show (e.kind==1)=true from by simp[h1],aX,if_pos h1]
 .rw[show (e.kind==1)=false from by simp[h1],bg,if_neg h1,find_eq hS,ζb]
  have hev:Fz (jG t e.kind e.message) ⟨p,(k:Int)+1⟩=decide (jG t e.kind e.message=⟨p,(k:Int)+1⟩):=by
   unfold Fz;rw[Bool.eq_iff_iff];cases jG t e.kind e.message;simp
  rw[hev]
  by_cases h2:jG t e.kind e.message=⟨p,(k:Int)+1⟩
  .rw[if_pos h2,show decide (jG t e.kind e.message=⟨p,(k:Int)+1⟩)=true from by simpa using h2,aX]
   by_cases h3:e.kind=3
   .rw[if_pos h3,show (e.kind==3)=true from by simp[h3],aX]
    have hpe:0<=e.peer/\e.peer<t.procs.l.length:=by
     rcases hF with h|⟨_,h1,h2,_⟩
     .exact absurd h h1
     .exact⟨h1,h2⟩
    have hq:e.peer.toNat<t.procs.l.length:=by omega
    have hQ:=ζd hq;have hql:=(hS.2 _ (List.getElem_mem hq)).1;generalize hQe:t.procs.l[e.peer.toNat]=Q at *;have hix:idx t.procs e.peer=some Q:=by rw[Ws hpe.1];exact hQ
    have hsb:pz t e.peer e.message p=Q.events.l.any λs=>s.kind==2&&s.message==e.message&&s.peer==p:=by
     unfold pz;rw[hQ]
    unfold fF.W1;refine Wp.eq (c8 (λz:Bool×Int=>∃m:Nat,z.2=m/\m<=Q.events.l.length/\z.1=(Q.events.l.take m).any λs=>s.kind==2&&s.message==e.message&&s.peer==p) (λz=>Q.events.l.length-z.2.toNat) ⟨0,rfl,Nat.zero_le _,rfl⟩ ?_)
    rintro⟨s,i⟩ ⟨m,hi,hm,hs⟩;simp only at hi hs;subst hi;unfold fF.aA;dsimp only;rw[hix,ζb,br];constructor
    .intro hl;have hml:m<Q.events.l.length:=by simpa [len]using hl
     have hw:=bK m (by omega)
     rw[ζb,aJ hml,ζb,ji,ζb,ji,ζb,gE,ζb,aj];refine⟨⟨m+1,hw,by omega,?_⟩,by show _-(IntKind.wrap .i64 ((m:Int)+1)).toNat<_;rw[hw];simp;omega⟩
     show (s||_)=_;rw[List.take_add_one,ζd hml,List.any_append,hs];simp
    .intro hl;have hml:Q.events.l.length<=m:=by simpa [len]using hl
     rw[List.take_of_length_le hml]at hs;refine(aj _).2 ?_;rw[hsb,<-hs];cases s
     .exact(aj _).2 rfl
     .exact(aj _).2 rfl
   .rw[if_neg h3,show (e.kind==3)=false from by simp[h3],bg]
  .rw[if_neg h2,show decide (jG t e.kind e.message=⟨p,(k:Int)+1⟩)=false from by simpa using h2,bg]
theorem G1 {t:Trace} (hF:∀x∈aZ t,iI t.procs.l.length x.1.proc x.2):(∀x∈aZ t,rZ t x=0)↔uV t:=by
 constructor
 .intro h;have key:∀x∈aZ t,x.2.kind≠1->jG t x.2.kind x.2.message=x.1:=λx hx hk=>by
   have:=h x hx;unfold rZ at this;rw[if_neg hk]at this;split at this
   .assumption
   .cases this
  refine⟨λx hx y hy kx ky hm=>?_,λx hx y hy kx ky hm=>?_,λx hx kx=>?_⟩
  .rw[<-key x hx (by omega),<-key y hy (by omega),kx,ky,hm]
  .rw[<-key x hx (by omega),<-key y hy (by omega),kx,ky,hm]
  .have:=h x hx;unfold rZ at this;rw[if_neg (by omega),if_pos (key x hx (by omega)),if_pos kx]at this
   split at this
   .assumption
   .cases this
 .intro h x hx;unfold rZ
  by_cases k1:x.2.kind=1
  .rw[if_pos k1]
  .rw[if_neg k1];obtain⟨y,hy⟩:=CZ hx rfl rfl;obtain⟨y1,y2,y3,y4⟩:=zP hy;have hk:x.2.kind=2\/x.2.kind=3:=by
    rcases hF x hx with h|⟨h,_⟩
    .exact absurd h k1
    .exact h
   have he:jG t x.2.kind x.2.message=x.1:=by
    rw[y4];rcases hk with hk|hk
    .exact h.snd y y1 x hx (by rw[y2,hk]) hk y3
    .exact h.rcv y y1 x hx (by rw[y2,hk]) hk y3
   rw[if_pos he]
   by_cases k3:x.2.kind=3
   .rw[if_pos k3,if_pos (h.has x hx k3)]
   .rw[if_neg k3]
end Go.VE
namespace Go.VE
theorem xF {t:Trace} (hF:∀x∈aZ t,iI t.procs.l.length x.1.proc x.2) (hP:uV t) {z:aa} {f:Event} (hz:(z,f)∈aZ t) (hk:f.kind=3):∃e,(jG t 2 f.message,e)∈aZ t/\e.kind=2/\e.message=f.message:=by
 have h:=hP.has _ hz hk;have hp:0<=f.peer:=by
  rcases hF _ hz with h|⟨_,h,_⟩
  .simp only at h;omega
  .exact h
 rw[show f.peer=((f.peer.toNat:Nat):Int)from by omega,An]at h
 obtain⟨k,e,ha,h1,h2,_⟩:=h;obtain⟨y,hy⟩:=CZ (dB.2 ⟨_,k,ha,rfl⟩:((⟨(f.peer.toNat:Nat),k+1⟩:aa),e)∈aZ t) h1 h2;obtain⟨y1,y2,y3,y4⟩:=zP hy;exact⟨y.2,by rw[y4];exact y1,y2,y3⟩
theorem FE.find {t:Trace} (hF:∀x∈aZ t,iI t.procs.l.length x.1.proc x.2) (hP:uV t) {y z:aa} {f:Event} (h:FE t y z) (hz:(z,f)∈aZ t):f.kind=3/\jG t 2 f.message=y:=by
 obtain⟨e,f',h1,h2,h3,h4,h5⟩:=h;cases zx h2 hz rfl;obtain⟨e',a1,a2,a3⟩:=xF hF hP hz h4;exact⟨h4,hP.snd _ a1 _ h1 a2 h3 (by rw[a3,h5])⟩
theorem yu {t:Trace} (hS:Small t) (hF:∀x∈aZ t,iI t.procs.l.length x.1.proc x.2) (hP:uV t) {z:aa} (hz:Vd t z) :
 Wp (cr t z) λs=>s.l.length<=2/\∀y,y∈s.l↔Edge t y z:=by
 obtain⟨p,k,f,hat,rfl,hmem⟩:=hz.at_;have hk:k<1073741824:=by
  obtain⟨P,hP,he⟩:=hat;have:=(hS.2 P (List.mem_of_getElem? hP)).1;have:=(ζe.1 he).1;omega
 have j:∀s:Sl aa,s.l.length<=1->(∀y,y∈s.l↔Vd t y/\(⟨p,k+1⟩:aa)=⟨y.proc,y.index+1⟩)->Wp (cr.J1 s t ⟨p,k+1⟩) λs=>s.l.length<=2/\∀y,y∈s.l↔Edge t y ⟨p,k+1⟩:=by
  intro s hs hsy;unfold cr.J1;rw[M5 hat (by omega),ζb,br]
  constructor
  .intro h3;have h3:f.kind=3:=by simpa using h3
   rw[find_eq hS,ζb];unfold jC;rw[if_pos (by omega),ζb,aj]
   refine⟨by show (s.l++[_]).length<=2;rw[ζi,List.length_singleton];omega,λy=>?_⟩
   show y∈s.l++[jG t 2 f.message]↔_;rw[List.mem_append,List.mem_singleton,hsy];obtain⟨e,a1,a2,a3⟩:=xF hF hP hmem h3;constructor
   .rintro (h|rfl)
    .exact⟨h.1,hz,.inl h.2⟩
    .exact⟨⟨e,a1⟩,hz,.inr ⟨e,f,a1,hmem,a2,h3,a3⟩⟩
   .rintro⟨h1,_,h2|h2⟩
    .exact .inl ⟨h1,h2⟩
    .exact .inr (h2.find hF hP hmem).2.symm
  .intro h3;refine(aj _).2 ⟨by omega,λy=>(hsy y).trans ⟨λh=>⟨h.1,hz,.inl h.2⟩,λ⟨h1,_,h2⟩=>⟨h1,h2.elim id λh2=>?_⟩⟩⟩
   have:=(h2.find hF hP hmem).1;simp[this]at h3
 unfold cr;rw[br];constructor
 .intro h;have h:(k:Int)+1>1:=by simpa using h
  refine j _ (by simp[Sl.l]) λy=>?_
  have hw:IntKind.wrap .i64 ((k:Int)+1-1)=k:=by rw[kM _ (by omega) (by omega)];omega
  simp only[Sl.l,List.mem_singleton,hw,aa.mk.injEq];constructor
  .rintro rfl;obtain⟨P,hP,he⟩:=hat;have:=(ζe.1 he).1;exact⟨⟨P.events.l[k-1],dB.2 ⟨p,k-1,⟨P,hP,ζd (by omega)⟩,by simp;omega⟩⟩,rfl,rfl⟩
  .rintro⟨_,h1,h2⟩;cases y;simp only at h1 h2;congr 1 <;> omega
 .intro h;have h:¬(k:Int)+1>1:=by simpa using h
  refine j _ (by simp[Sl.l]) λy=>⟨λhy=>by simp[Sl.l]at hy,λ⟨hy,he⟩=>?_⟩
  obtain⟨q,i,f,_,rfl,_⟩:=hy.at_;simp only[aa.mk.injEq]at he;omega
theorem Vr {α:Type} {r:α->α->Prop} {x:α} (h:Acc r x):¬Relation.TransGen r x x:=by
 induction h with
 | intro x _ ih=>
  intro h
  cases h with
  | single h=>exact ih x h (.single h)
  | tail h1 h2=>exact ih _ h2 (Relation.TransGen.trans (.single h2) h1)
theorem Fe:∀{d:List Nat} {i k:Nat},d[i]? = some k->(d.set i (k+1)).sum=d.sum+1
 | [],_,_,h=>by simp at h
 | x::d,0,k,h=>by simp at h;subst h;simp;omega
 | x::d,i+1,k,h=>by
  have:=Fe (d:=d) (i:=i) (k:=k) (by simpa using h)
  simp[this];omega
theorem IF:∀{d l:List Nat},d.length=l.length->(∀(i a b:Nat),d[i]? = some a->l[i]? = some b->a<=b)->d.sum<=l.sum
 | [],_,_,_=>by simp
 | x::d,[],h,_=>by simp at h
 | x::d,y::l,h,hh=>by
  have h1:=hh 0 x y rfl rfl;have h2:=IF (d:=d) (l:=l) (by simpa using h) λi a b ha hb=>hh (i+1) a b (by simpa using ha) (by simpa using hb)
  simp;omega
def nI (d:List Nat):List Int:=d.map Int.ofNat
def sI (s:Sl Int):Nat:=(s.l.map Int.toNat).sum
theorem Cr (d:List Nat):sI (.row (nI d))=d.sum:=by
 unfold sI nI;rw[show (Sl.row (d.map Int.ofNat)).l=d.map Int.ofNat from rfl,List.map_map,show (Int.toNat ∘ Int.ofNat)=id from rfl,List.map_id]
theorem I_ (d:List Nat):(nI d).length=d.length:=by simp[nI]
structure Kh (t:Trace) (d:List Nat):Prop where
 len:d.length=t.procs.l.length
 le:∀(p k:Nat) P,d[p]? = some k->t.procs.l[p]? = some P->k<=P.events.l.length
 acc:∀(p k j:Nat),d[p]? = some k->j<k->Acc (Edge t) ⟨p,j+1⟩
def vf (t:Trace):Nat:=(t.procs.l.map λP=>P.events.l.length).sum
theorem Kh.sum {t:Trace} {d:List Nat} (h:Kh t d):d.sum<=vf t:=IF (by simp[h.len]) λi a b ha hb=>by
 rw[List.getElem?_map]at hb
 cases hP:t.procs.l[i]? with
 | none=>simp[hP]at hb
 | some P=>simp[hP]at hb;rw[<-hb];exact h.le i a P ha hP
theorem zV {d:List Nat} {p:Nat} (h:p<d.length):Sl.mj (.row (nI d)) (p:Int)=some p:=by
 unfold Sl.mj;rw[if_pos ⟨by omega,by simpa [Sl.l,I_]using h⟩];rfl
theorem wh {d:List Nat} {p k:Nat} (h:d[p]? = some k):Sl.get (.row (nI d)) p=some (k:Int):=by
 unfold Sl.get nI;rw[show (Sl.row (d.map Int.ofNat)).l=d.map Int.ofNat from rfl,List.getElem?_map,h];rfl
def Mv (t:Trace) (d0:List Nat) (s:Sl Int) (b:Bool) (d:List Nat):Prop:=s=.row (nI d)/\Kh t d/\d0.sum<=d.sum/\(b=true->d0.sum<d.sum)
def KQ (t:Trace) (d0:List Nat) (p:Nat) (w:Fw (Sl Int×Bool×Int) (Sl Int×Bool) Empty):Prop:=∃s' b' d',w=.n (s',b',((p+1:Nat):Int))/\Mv t d0 s' b' d'
theorem QI {t:Trace} (hS:Small t) (hF:∀x∈aZ t,iI t.procs.l.length x.1.proc x.2) (hP:uV t) {d0 d1:List Nat} {s:Sl Int} {b:Bool} {p:Nat} (hp:p<t.procs.l.length) (hM:Mv t d0 s b d1) :
 Wp (bQ.W3 s b p t) (KQ t d0 p):=by
 have hix:=aJ hp;have hn:=hS.1;have hPl:=(hS.2 _ (List.getElem_mem hp)).1;have hPg:=ζd hp;generalize t.procs.l[p]=P at *;unfold bQ.W3;refine c8 (λq:Sl Int×Bool=>∃d,Mv t d0 q.1 q.2 d) (λq=>vf t-sI q.1) ⟨d1,hM⟩ ?_
 rintro⟨s,b⟩ ⟨d,rfl,hK,hd,hb⟩;simp only at hb;have hpd:p<d.length:=by rw[hK.len];exact hp
 have hg:=ζd hpd;generalize d[p]=k at hg;have hkl:=hK.le p k P hg hPg;have stop:∀{pr:Empty->Prop},Wp (some (Fw.x (Sl.row (nI d),b))) (MN (λq:Sl Int×Bool=>∃d,Mv t d0 q.1 q.2 d) (λq=>vf t-sI q.1) (λe=>Wp (some (Fw.n (e.1,e.2,IntKind.wrap .i64 ((p:Int)+1)))) (KQ t d0 p)) pr (Sl.row (nI d),b)):=by
  refine(aj _).2 ((aj _).2 ⟨_,_,d,?_,rfl,hK,hd,hb⟩);rw[bK p (by omega)]
 unfold bQ.dG;rw[zV hpd,ζb,wh hg,ζb,hix,ζb,br];refine⟨λh=>?_,λ_=>stop⟩
 have hlt:k<P.events.l.length:=by simpa [Go.VE.len]using h
 have hat:lV t p k P.events.l[k]:=⟨P,hPg,ζd hlt⟩;have hmem:((⟨p,k+1⟩:aa),P.events.l[k])∈aZ t:=dB.2 ⟨p,k,hat,rfl⟩;have go:(P.events.l[k].kind=3->∀q j:Nat,jG t 2 P.events.l[k].message=⟨q,j+1⟩->∃k',d[q]? = some k'/\j<k')->∀{px:Sl Int×Bool->Prop} {pr:Empty->Prop},Wp (bQ.J4 (.row (nI d)) p t) (MN (λq:Sl Int×Bool=>∃d,Mv t d0 q.1 q.2 d) (λq=>vf t-sI q.1) px pr (Sl.row (nI d),b)):=by
  intro hq px pr;unfold bQ.J4;rw[zV hpd,ζb,wh hg,ζb,ζb];unfold Sl.put;rw[if_pos (by simpa [Sl.l,I_]using hpd),ζb,aj]
  have hset:(nI d).set p (IntKind.wrap .i64 ((k:Int)+1))=nI (d.set p (k+1)):=by
   rw[bK k (by omega)];unfold nI;rw[List.map_set];rfl
  have hsum:=Fe hg;have hK2:Kh t (d.set p (k+1)):=by
   refine⟨by simp[hK.len],λq i Q hi hQ=>?_,λq i j hi hj=>?_⟩
   .rw[List.getElem?_set]at hi;split at hi
    .rename_i e;subst e;cases hi;rw[hPg]at hQ;cases hQ;omega
    .exact hK.le q i Q hi hQ
   .rw[List.getElem?_set]at hi;split at hi
    .rename_i e;subst e;cases hi
     by_cases hjk:j<k
     .exact hK.acc p k j hg hjk
     .have:j=k:=by omega
      subst this;refine Acc.intro _ λy hy=>?_
      obtain⟨hyv,_,he|he⟩:=hy
      .obtain⟨q,i,f,_,rfl,_⟩:=hyv.at_;simp only[aa.mk.injEq]at he;have e1:q=p:=by omega
       subst e1;exact hK.acc q j i hg (by omega)
      .obtain⟨h3,hf⟩:=he.find hF hP hmem;obtain⟨q,i,f,_,rfl,_⟩:=hyv.at_;obtain⟨k',hk',hik⟩:=hq h3 q i hf;exact hK.acc q k' i hk' hik
    .exact hK.acc q i j hi hj
  have hs2:=hK2.sum;refine⟨⟨_,by rw[<-hset],hK2,by rw[hsum];omega,λ_=>by rw[hsum];omega⟩,?_⟩
  show vf t-sI (.row ((nI d).set p (IntKind.wrap .i64 ((k:Int)+1))))<vf t-sI (.row (nI d));rw[hset,Cr,Cr,hsum];rw[hsum]at hs2;omega
 dsimp only;rw[ζb,ζb,wh hg,ζb,aJ hlt,ζb,br];refine⟨λh3=>?_,λh3=>go λh=>by simp[h]at h3⟩
 have h3:P.events.l[k].kind=3:=by simpa using h3
 obtain⟨e,a1,a2,a3⟩:=xF hF hP hmem h3;obtain⟨q,j,hat2,hqj⟩:=dB.1 a1;simp only at hqj;have hqd:q<d.length:=by
  obtain⟨Q,hQ,_⟩:=hat2;rw[hK.len];exact(ζe.1 hQ).1
 have hgq:=ζd hqd;rw[find_eq hS,ζb,hqj,zV hqd,ζb,wh hgq,ζb,br];refine⟨λ_=>stop,λh=>go λ_ q' j' hh=>?_⟩
 rw[hqj]at hh;simp only[aa.mk.injEq]at hh;have e1:q'=q:=by omega
 have e2:j'=j:=by omega
 subst e1 e2;exact⟨_,hgq,by simp at h;omega⟩
theorem Hf {t:Trace} (hS:Small t) (hF:∀x∈aZ t,iI t.procs.l.length x.1.proc x.2) (hP:uV t):Wp (bQ t) λb=>b=true->¬Fg t:=by
 have hn:=hS.1;unfold bQ tj;rw[if_pos (by simp[len];omega),ζb]
 have h0:(Sl.row (List.replicate (len t.procs).toNat (0:Int)))=.row (nI (List.replicate t.procs.l.length 0)):=by simp[len,nI]
 rw[h0];unfold bQ.W1;have hrep:∀(p k:Nat),(List.replicate t.procs.l.length 0)[p]? = some k->k=0:=λp k h=>by
  rw[List.getElem?_replicate]at h;split at h <;> simp at h;exact h.symm
 refine c8 (λs:Sl Int=>∃d,s=.row (nI d)/\Kh t d) (λs=>vf t-sI s) ⟨_,rfl,by simp,λp k P h _=>by rw[hrep p k h];omega,λp k j h hj=>by rw[hrep p k h]at hj;omega⟩ ?_
 rintro s ⟨d0,rfl,hK⟩;unfold bQ.aA bQ.W2;refine c8 (λq:Sl Int×Bool×Int=>∃(n:Nat) (d:List Nat),q.2.2=n/\n<=t.procs.l.length/\Mv t d0 q.1 q.2.1 d) (λq=>t.procs.l.length-q.2.2.toNat) ⟨0,d0,rfl,Nat.zero_le _,rfl,hK,Nat.le_refl _,by simp⟩ ?_
 rintro⟨s,b,i⟩ ⟨n,d,hi,hnn,hM⟩;simp only at hi hM;subst hi;unfold bQ.bf;rw[br];constructor
 .intro h;have hlt:n<t.procs.l.length:=by simpa [len]using h
  refine(QI hS hF hP hlt hM).mono ?_;rintro w ⟨s',b',d',rfl,hM'⟩;exact⟨⟨n+1,d',rfl,by omega,hM'⟩,by simp;omega⟩
 .intro _;obtain⟨rfl,hK',hle,hmv⟩:=hM;rw[aj];show Wp (au b _ _) _;rw[br];refine⟨λhb=>(aj _).2 ⟨⟨d,rfl,hK'⟩,?_⟩,λ_=>(aj _).2 ?_⟩
  .show vf t-sI (.row (nI d))<vf t-sI (.row (nI d0));rw[Cr,Cr];have:=hmv hb;have:=hK'.sum;omega
  .show Wp (bQ.W5 (.row (nI d)) 0 t) _;unfold bQ.W5;refine c8 (λi:Int=>∃n:Nat,i=n/\n<=t.procs.l.length/\∀p,p<n->∀P,t.procs.l[p]? = some P->d[p]? = some P.events.l.length) (λi:Int=>t.procs.l.length-i.toNat) ⟨0,rfl,Nat.zero_le _,λp hp=>absurd hp (by omega)⟩ ?_
   rintro i ⟨n,rfl,hn',hh⟩;unfold bQ.uO;rw[br];constructor
   .intro h;have hlt:n<t.procs.l.length:=by simpa [len]using h
    have hnd:n<d.length:=by rw[hK'.len];exact hlt
    have hg:=ζd hnd;rw[zV hnd,ζb,wh hg,ζb,aJ hlt,ζb,br];refine⟨λ_=>(aj _).2 ((aj _).2 λh=>by cases h),λh=>(aj _).2 ⟨⟨n+1,bK n (by omega),by omega,λp hp P hP=>?_⟩,by rw[bK n (by omega)];simp;omega⟩⟩
    by_cases e:p=n
    .subst e;rw[ζd hlt]at hP;cases hP;have:=hK'.le p _ _ hg (ζd hlt);simp[len]at h;rw[hg];congr 1;omega
    .exact hh p (by omega) P hP
   .intro h;have hge:t.procs.l.length<=n:=by simpa [len]using h
    refine(aj _).2 ((aj _).2 λ_ ⟨x,hx⟩=>?_)
    obtain⟨p,k,e,⟨P,hP,he⟩,rfl,_⟩:=hx.l.at_;have hpl:=(ζe.1 hP).1;exact Vr (hK'.acc p _ k (hh p (by omega) P hP) (ζe.1 he).1) hx
end Go.VE
namespace Go.VE
def nC (out:List (List Bool)) (y:aa):Bool:=match out[y.proc.toNat]? with
 | some row=>row[y.index.toNat]?.getD false
 | none=>false
theorem wS {t:Trace} {out:List (List Bool)} {p k:Nat} {row:List Bool} (hr:out[p]? = some row) (hk:k+1<row.length) {z:aa} (hz:Vd t z) :
 nC (out.set p (row.set (k+1) true)) z=(decide (z=⟨p,k+1⟩)||nC out z):=by
 obtain⟨q,j,e,_,rfl,_⟩:=hz.at_;have hp:=(ζe.1 hr).1;unfold nC;have e1:(⟨(q:Int),(j:Int)+1⟩:aa).proc.toNat=q:=rfl;have e2:(⟨(q:Int),(j:Int)+1⟩:aa).index.toNat=j+1:=by show ((j:Int)+1).toNat=j+1;omega
 rw[e1,e2,List.getElem?_set]
 by_cases hpq:p=q
 .subst hpq;rw[if_pos rfl,if_pos hp,hr];dsimp only;rw[List.getElem?_set]
  by_cases hkj:k=j
  .subst hkj;simp[hk]
  .rw[if_neg (by omega),show decide ((⟨(p:Int),(j:Int)+1⟩:aa)=⟨p,k+1⟩)=false from by simp;omega,Bool.false_or]
 .rw[if_neg hpq,show decide ((⟨(q:Int),(j:Int)+1⟩:aa)=⟨p,k+1⟩)=false from by simp;omega,Bool.false_or]
theorem BN {α:Type} {f g:α->Bool}:∀{l:List α},(∀z∈l,f z=true->g z=true)->(∃z∈l,f z=false/\g z=true)->l.countP f<l.countP g
 | [],_,⟨z,hz,_⟩=>by simp at hz
 | a::l,h,⟨z,hz,hf,hg⟩=>by
  simp only[List.countP_cons];have hle:=List.countP_mono_left (l:=l) (p:=f) (q:=g) λx hx=>h x (List.mem_cons_of_mem _ hx)
  rcases List.mem_cons.1 hz with rfl|hz
  .simp[hf,hg];omega
  .have:=BN (l:=l) (λx hx=>h x (List.mem_cons_of_mem _ hx)) ⟨z,hz,hf,hg⟩
   have h1:=h a (List.mem_cons_self ..)
   cases hfa:f a with
   | true=>simp[h1 hfa];omega
   | false=>simp;split <;> omega
def cnt (t:Trace) (out:List (List Bool)):Nat:=(aZ t).countP λz=>nC out z.1
structure Y3 (t:Trace) (x:aa) (out:List (List Bool)) (rest:List aa):Prop where
 shp:∀(p:Nat) P,t.procs.l[p]? = some P->∃row,out[p]? = some row/\row.length=P.events.l.length+1
 len:out.length=t.procs.l.length
 que:∀y∈rest,Way t y x
 snd:∀y,Vd t y->nC out y=true->Way t y x
 cls:∀z,z=x\/Vd t z/\nC out z=true->∀y,Edge t y z->nC out y=true\/y∈rest
 le:rest.length<=2*cnt t out+2
theorem yQ {t:Trace} {y:aa}:nC (eE t) y=false:=by
 unfold nC eE;split
 .rename_i row h;rw[List.getElem?_map]at h
  cases hP:t.procs.l[y.proc.toNat]? with
  | none=>simp[hP]at h
  | some P=>
   simp[hP]at h;subst h;rw[List.getElem?_replicate];split <;> rfl
 .rfl
theorem Rf {t:Trace} (hS:Small t) (hN:(aZ t).length<1073741824) (hF:∀x∈aZ t,iI t.procs.l.length x.1.proc x.2) (hP:uV t) {x:aa} (hx:Vd t x) :
 Wp (j7 t x) λs=>∃out,s=nested out/\Y3 t x out []/\∀y,Vd t y->(nC out y=true↔Way t y x):=by
 unfold j7;rw[if_pos (by
  unfold wV;simp only[ζh,List.all_eq_true,decide_eq_true_eq];exact⟨by have:=hS.1;omega,λP hP=>by have:=(hS.2 P hP).1;omega⟩),fW]
 refine(yu hS hF hP hx).mono λs hs=>?_
 refine c8 (λq:List (List Bool)×List aa=>Y3 t x q.1 q.2) (λq=>2*((aZ t).length-cnt t q.1)+q.2.length) ⟨λp P hP=>⟨List.replicate (P.events.l.length+1) false,by simp[eE,hP],by simp⟩,by simp[eE],λy hy=>.single ((hs.2 y).1 hy),λy _ h=>(by rw[yQ]at h;cases h),λz hz y hy=>?_,by have:=hs.1;show s.l.length<=2*cnt t (eE t)+2;omega⟩ ?_
 .rcases hz with rfl|⟨_,h⟩
  .exact .inr ((hs.2 y).2 hy)
  .rw[yQ]at h;cases h
 rintro⟨out,rest⟩ hI
 cases rest with
 | nil=>
  show Wp (some _) _;refine(aj _).2 ((aj _).2 ⟨out,rfl,hI,λy hy=>⟨hI.snd y hy,λhw=>?_⟩⟩)
  have key:∀w,Way t y w->w=x\/Vd t w/\nC out w=true->nC out y=true:=λw hw=>by
   induction hw with
   | single h=>exact λhw=>(hI.cls _ hw _ h).elim id λh=>by cases h
   | tail hyb hbw ih=>exact λhw=>ih (.inr ⟨hbw.1,(hI.cls _ hw _ hbw).elim id λh=>by cases h⟩)
  exact key x hw (.inl rfl)
 | cons y rest=>
  have hyw:=hI.que y (List.mem_cons_self ..);have hyv:=hyw.l;obtain⟨p,k,e,hat,rfl,hmem⟩:=hyv.at_;obtain⟨P,hPp,hk⟩:=hat;have hkl:=(ζe.1 hk).1;obtain⟨row,hr,hrl⟩:=hI.shp p P hPp;have hkr:k+1<row.length:=by omega
  show Wp (kT _ (out,⟨p,k+1⟩::rest)) _;unfold kT;have e2:((k:Int)+1).toNat=k+1:=by omega
  dsimp only;rw[if_pos ⟨by omega,by omega⟩,show ((p:Nat):Int).toNat=p from rfl,e2,hr,ζb,ζd hkr,ζb,br]
  have hmk:nC out ⟨p,k+1⟩=row[k+1]:=by
   unfold nC;rw[show ((⟨(p:Int),(k:Int)+1⟩:aa).proc).toNat=p from rfl,hr];dsimp only;rw[e2,ζd hkr];rfl
  constructor
  .intro hb;rw[aj];refine⟨⟨hI.shp,hI.len,λy hy=>hI.que y (List.mem_cons_of_mem _ hy),hI.snd,λz hz y hy=>?_,by have:=hI.le;simp only[List.length_cons]at this;show rest.length<=2*cnt t out+2;omega⟩,Nat.add_lt_add_left (Nat.lt_succ_self _) _⟩
   rcases hI.cls z hz y hy with h|h
   .exact .inl h
   .rcases List.mem_cons.1 h with rfl|h
    .exact .inl (by rw[hmk];exact hb)
    .exact .inr h
  .intro hb;rw[fW];refine(yu hS hF hP hyv).mono λmore hm=>?_
   have hle:=hI.le;simp only[List.length_cons]at hle;have hcl:cnt t out<=(aZ t).length:=List.countP_le_length;have hm1:=hm.1;have hlt:cnt t out<cnt t (out.set p (row.set (k+1) true)):=BN (λz hz h=>by rw[wS hr hkr ⟨_,hz⟩,h,Bool.or_true]) ⟨_,hmem,by rw[hmk,hb],by rw[wS hr hkr hyv];simp⟩
   have hcl2:cnt t (out.set p (row.set (k+1) true))<=(aZ t).length:=List.countP_le_length;rw[if_pos (by omega),aj]
   refine⟨⟨λq Q hQ=>?_,by show (out.set _ _).length=_;rw[List.length_set];exact hI.len,λz hz=>?_,λz hz h=>?_,λz hz y hy=>?_,by show (rest++more.l).length<=_;rw[ζi];show _<=2*cnt t (out.set p (row.set (k+1) true))+2;omega⟩,?_⟩
   .show ∃r,(out.set p (row.set (k+1) true))[q]? = some r/\_;rw[List.getElem?_set];split
    .rename_i e;subst e;rw[if_pos (ζe.1 hr).1];rw[hPp]at hQ;cases hQ;exact⟨_,rfl,by simp[hrl]⟩
    .exact hI.shp q Q hQ
   .rcases List.mem_append.1 hz with hz|hz
    .exact hI.que z (List.mem_cons_of_mem _ hz)
    .exact .trans (.single ((hm.2 z).1 hz)) hyw
   .show Way t z x;have h:nC (out.set p (row.set (k+1) true)) z=true:=h;rw[wS hr hkr hz]at h;simp only[Bool.or_eq_true,decide_eq_true_eq]at h;rcases h with rfl|h
    .exact hyw
    .exact hI.snd z hz h
   .show nC (out.set p (row.set (k+1) true)) y=true\/y∈rest++more.l;rw[wS hr hkr hy.1];have old:z=x\/Vd t z/\nC out z=true->(decide (y=⟨p,k+1⟩)||nC out y)=true\/y∈rest++more.l:=λhz=>by
     rcases hI.cls z hz y hy with h|h
     .exact .inl (by rw[show nC out y=true from h,Bool.or_true])
     .rcases List.mem_cons.1 h with rfl|h
      .exact .inl (by simp)
      .exact .inr (List.mem_append_left _ h)
    rcases hz with hz|⟨hzv,hz⟩
    .exact old (.inl hz)
    .have hz:nC (out.set p (row.set (k+1) true)) z=true:=hz;rw[wS hr hkr hzv]at hz;simp only[Bool.or_eq_true,decide_eq_true_eq]at hz;rcases hz with rfl|hz
     .exact .inr (List.mem_append_right _ ((hm.2 y).2 hy))
     .exact old (.inr ⟨hzv,hz⟩)
   .show 2*((aZ t).length-cnt t (out.set p (row.set (k+1) true)))+(rest++more.l).length<2*((aZ t).length-cnt t out)+(_::rest).length;rw[ζi,List.length_cons];omega
theorem XP {t:Trace} (hS:Small t) (hN:(aZ t).length<1073741824) (hF:∀x∈aZ t,iI t.procs.l.length x.1.proc x.2) (hP:uV t):Wp (bM.W6 0 t ⟨0,0⟩) λr=>(r.2=0↔¬Fg t):=by
 have hn:=hS.1;unfold bM.W6;refine c8 (λi:Int=>∃n:Nat,i=n/\n<=t.procs.l.length/\∀(p k:Nat) e,p<n->lV t p k e->¬Way t ⟨p,k+1⟩ ⟨p,k+1⟩) (λi:Int=>t.procs.l.length-i.toNat) ⟨0,rfl,Nat.zero_le _,λp k e hp=>absurd hp (by omega)⟩ ?_
 rintro i ⟨n,rfl,hnn,hh⟩;unfold bM.FD;rw[br];constructor
 .intro h;have hlt:n<t.procs.l.length:=by simpa [len]using h
  have hix:=aJ hlt;have hPg:=ζd hlt;have hPl:=(hS.2 _ (List.getElem_mem hlt)).1;generalize t.procs.l[n]=P at *;unfold bM.W7;refine c8 (λi:Int=>∃m:Nat,i=m/\m<=P.events.l.length/\∀k,k<m->¬Way t ⟨n,k+1⟩ ⟨n,k+1⟩) (λi:Int=>P.events.l.length-i.toNat) ⟨0,rfl,Nat.zero_le _,λk hk=>absurd hk (by omega)⟩ ?_
  rintro i ⟨m,rfl,hm,hk⟩;unfold bM.EK;rw[hix,ζb,br];constructor
  .intro h;have hml:m<P.events.l.length:=by simpa [len]using h
   have hw:=bK m (by omega)
   have hv:Vd t ⟨n,m+1⟩:=⟨P.events.l[m],dB.2 ⟨n,m,⟨P,hPg,ζd hml⟩,rfl⟩⟩;rw[hw,show (((m+1:Nat)):Int)=(m:Int)+1 from by simp,fW]
   refine(Rf hS hN hF hP hv).mono ?_;rintro s ⟨out,rfl,hI,hmk⟩;obtain⟨row,hr,hrl⟩:=hI.shp n P hPg;have hon:out≠[]:=by rintro rfl;cases hr
   have hkr:m+1<row.length:=by omega
   have h1:idx (nested out) (n:Int)=some (.row row):=by
    unfold nested;rw[if_neg hon,qh];show (out.map Sl.row)[n]? = _;rw[List.getElem?_map,hr];rfl
   have h2:idx (Sl.row row) ((m:Int)+1)=some row[m+1]:=by
    rw[show (m:Int)+1=((m+1:Nat):Int)from by simp]
    exact aJ (s:=Sl.row row) hkr
   rw[h1,ζb,h2,ζb,br];have hb:row[m+1]=nC out ⟨n,m+1⟩:=by
    unfold nC;rw[show ((⟨(n:Int),(m:Int)+1⟩:aa).proc).toNat=n from rfl,hr];dsimp only;rw[show ((m:Int)+1).toNat=m+1 from by omega,ζd hkr];rfl
   rw[hb];refine⟨λhy=>(aj _).2 ((aj _).2 ((aj _).2 ⟨λh=>(by cases h),λh=>absurd ⟨_,(hmk _ hv).1 hy⟩ h⟩)),λhy=>(aj _).2 ⟨⟨m+1,by simp,by omega,λk hkm=>?_⟩,by simp;omega⟩⟩
   by_cases e:k=m
   .subst e;exact λhw=>by rw[(hmk _ hv).2 hw]at hy;cases hy
   .exact hk k (by omega)
  .intro h;have hge:P.events.l.length<=m:=by simpa [len]using h
   refine(aj _).2 ((aj _).2 ⟨⟨n+1,bK n (by omega),by omega,λp k e hp hat=>?_⟩,by rw[bK n (by omega)];simp;omega⟩)
   by_cases e:p=n
   .subst e;obtain⟨Q,hQ,he⟩:=hat;rw[hPg]at hQ;cases hQ;have:=(ζe.1 he).1;exact hk k (by omega)
   .exact hh p k _ (by omega) hat
 .intro h;have hge:t.procs.l.length<=n:=by simpa [len]using h
  refine(aj _).2 ((aj _).2 ⟨λ_ ⟨x,hx⟩=>?_,λ_=>rfl⟩)
  obtain⟨p,k,e,hat,rfl,_⟩:=hx.l.at_;obtain⟨P,hP,_⟩:=id hat;exact hh p k e (by have:=(ζe.1 hP).1;omega) hat hx
end Go.VE
namespace Go.VE
theorem CV {t:Trace} (hF:∀x∈aZ t,iI t.procs.l.length x.1.proc x.2):(∀(p k:Nat) e,lV t p k e->rZ t (⟨p,k+1⟩,e)=0)↔uV t:=
 Iff.trans ⟨λh x hx=>by obtain⟨p,k,h1,h2⟩:=dB.1 hx;obtain⟨a,e⟩:=x;simp only at h1 h2;rw[h2];exact h p k e h1,λh p k e ha=>h _ (dB.2 ⟨p,k,ha,rfl⟩)⟩ (G1 hF)
theorem Jy {t:Trace} (hS:Small t) (hN:(aZ t).length<1073741824):Wp (bM t) λr=>(r.2=0↔Ok t):=by
 have hn:=hS.1;unfold bM;rw[gE,ζb,br];refine⟨λhin=>(aj _).2 ⟨λh=>(by cases h),λh=>?_⟩,λhin=>?_⟩
 .have h1:=h.one;have h8:=h.few;simp only[Bool.or_eq_true,decide_eq_true_eq,len]at hin;omega
 have h8:1<=t.procs.l.length/\t.procs.l.length<=8:=by
  simp only[Bool.or_eq_false_iff,decide_eq_false_iff_not,len]at hin;omega
 unfold bM.W1;refine c8 (λi:Int=>∃n:Nat,i=n/\n<=t.procs.l.length/\∀p,p<n->qF t p=0) (λi:Int=>t.procs.l.length-i.toNat) ⟨0,rfl,Nat.zero_le _,λp hp=>absurd hp (by omega)⟩ ?_
 rintro i ⟨n,rfl,hnn,hh⟩;unfold bM.aA;rw[br];constructor
 .intro h;have hlt:n<t.procs.l.length:=by simpa [len]using h
  rw[Mm hS hlt,ζb,br];refine⟨λh0=>(aj _).2 ⟨⟨n+1,bK n (by omega),by omega,λp hp=>?_⟩,by rw[bK n (by omega)];simp;omega⟩,λh0=>(aj _).2 ((aj _).2 ⟨λh=>?_,λh=>?_⟩)⟩
  .by_cases e:p=n
   .subst e;simpa using h0
   .exact hh p (by omega)
  .simp only at h;simp[h]at h0
  .simp[h.heads n hlt]at h0
 intro h;have hge:t.procs.l.length<=n:=by simpa [len]using h
 rw[aj];unfold bM.W2;refine c8 (λi:Int=>∃n:Nat,i=n/\n<=t.procs.l.length/\∀(p k:Nat) P e,p<n->t.procs.l[p]? = some P->P.events.l[k]? = some e->lY t.procs.l.length P p k e=0) (λi:Int=>t.procs.l.length-i.toNat) ⟨0,rfl,Nat.zero_le _,λp k P e hp=>absurd hp (by omega)⟩ ?_
 rintro i ⟨n',rfl,hnn',he⟩;unfold bM.bf;rw[br];constructor
 .intro h;have hlt:n'<t.procs.l.length:=by simpa [len]using h
  have hix:=aJ hlt;have hPg:=ζd hlt;have hPl:=(hS.2 _ (List.getElem_mem hlt)).1;generalize t.procs.l[n']=P at hix hPg hPl;unfold bM.W3;refine c8 (λi:Int=>∃m:Nat,i=m/\m<=P.events.l.length/\∀(k:Nat) e,k<m->P.events.l[k]? = some e->lY t.procs.l.length P n' k e=0) (λi:Int=>P.events.l.length-i.toNat) ⟨0,rfl,Nat.zero_le _,λk e hk=>absurd hk (by omega)⟩ ?_
  rintro i ⟨m,rfl,hm,hk⟩;unfold bM.dG;rw[hix,ζb,br];constructor
  .intro h;have hml:m<P.events.l.length:=by simpa [len]using h
   have hmg:=ζd hml;have hw:=bK m (by omega)
   rw[K4 hS hPg hmg,ζb,br];refine⟨λh0=>(aj _).2 ⟨⟨m+1,hw,by omega,λk e hkm hke=>?_⟩,by rw[hw];simp;omega⟩,λh0=>(aj _).2 ((aj _).2 ((aj _).2 ⟨λh=>?_,λh=>?_⟩))⟩
   .by_cases ek:k=m
    .subst ek;rw[hmg]at hke;cases hke;simpa using h0
    .exact hk k e (by omega) hke
   .simp only at h;simp[h]at h0
   .simp[h.eN n' m P _ hPg hmg]at h0
  .intro h;have hge':P.events.l.length<=m:=by simpa [len]using h
   refine(aj _).2 ((aj _).2 ⟨⟨n'+1,bK n' (by omega),by omega,λp k Q e hp hQ hke=>?_⟩,by rw[bK n' (by omega)];simp;omega⟩)
   by_cases ep:p=n'
   .subst ep;rw[hPg]at hQ;cases hQ;exact hk k e (by have:=(ζe.1 hke).1;omega) hke
   .exact he p k Q e (by omega) hQ hke
 intro h;have hge':t.procs.l.length<=n':=by simpa [len]using h
 have he:∀(p k:Nat) P e,t.procs.l[p]? = some P->P.events.l[k]? = some e->lY t.procs.l.length P p k e=0:=λp k P e hP hk=>he p k P e (by have:=(ζe.1 hP).1;omega) hP hk
 have hF:=B5 he;rw[aj];unfold bM.W4;refine c8 (λi:Int=>∃n:Nat,i=n/\n<=t.procs.l.length/\∀(p k:Nat) e,p<n->lV t p k e->rZ t (⟨p,k+1⟩,e)=0) (λi:Int=>t.procs.l.length-i.toNat) ⟨0,rfl,Nat.zero_le _,λp k e hp=>absurd hp (by omega)⟩ ?_
 rintro i ⟨q,rfl,hq,hpr⟩;unfold bM.sL;rw[br];constructor
 .intro h;have hlt:q<t.procs.l.length:=by simpa [len]using h
  have hix:=aJ hlt;have hPg:=ζd hlt;have hPl:=(hS.2 _ (List.getElem_mem hlt)).1;generalize t.procs.l[q]=P at hix hPg hPl;unfold bM.W5;refine c8 (λi:Int=>∃m:Nat,i=m/\m<=P.events.l.length/\∀(k:Nat) e,k<m->P.events.l[k]? = some e->rZ t (⟨q,k+1⟩,e)=0) (λi:Int=>P.events.l.length-i.toNat) ⟨0,rfl,Nat.zero_le _,λk e hk=>absurd hk (by omega)⟩ ?_
  rintro i ⟨m,rfl,hm,hk⟩;unfold bM.uO;rw[hix,ζb,br];constructor
  .intro h;have hml:m<P.events.l.length:=by simpa [len]using h
   have hmg:=ζd hml;have hw:=bK m (by omega)
   have hat:lV t q m P.events.l[m]:=⟨P,hPg,hmg⟩;rw[hw,show (((m+1:Nat)):Int)=(m:Int)+1 from by simp,IQ hS hat (hF (⟨q,m+1⟩,P.events.l[m]) (dB.2 ⟨q,m,hat,rfl⟩)),ζb,br]
   refine⟨λh0=>(aj _).2 ⟨⟨m+1,by simp,by omega,λk e hkm hke=>?_⟩,by simp;omega⟩,λh0=>(aj _).2 ((aj _).2 ((aj _).2 ⟨λh=>?_,λh=>?_⟩))⟩
   .by_cases ek:k=m
    .subst ek;rw[hmg]at hke;cases hke;simpa using h0
    .exact hk k e (by omega) hke
   .simp only at h;simp[h]at h0
   .simp[(CV hF).2 h.IM q m _ hat]at h0
  .intro h;have hge':P.events.l.length<=m:=by simpa [len]using h
   refine(aj _).2 ((aj _).2 ⟨⟨q+1,bK q (by omega),by omega,λp k e hp hat=>?_⟩,by rw[bK q (by omega)];simp;omega⟩)
   by_cases ep:p=q
   .subst ep;obtain⟨Q,hQ,hke⟩:=hat;rw[hPg]at hQ;cases hQ;exact hk k e (by have:=(ζe.1 hke).1;omega) hke
   .exact hpr p k e (by omega) hat
 intro h;have hgq:t.procs.l.length<=q:=by simpa [len]using h
 have hP:uV t:=(CV hF).1 λp k e hat=>hpr p k e (by obtain⟨P,hP,_⟩:=hat;have:=(ζe.1 hP).1;omega) hat
 have hok:¬Fg t↔Ok t:=⟨λh=>⟨h8.1,h8.2,λp hp=>hh p (by omega),he,hP,h⟩,λh=>h.acyc⟩
 rw[aj,fW];refine(Hf hS hF hP).mono λb hb=>?_
 rw[br];exact⟨λh=>(aj _).2 ⟨λ_=>hok.1 (hb h),λ_=>rfl⟩,λ_=>(XP hS hN hF hP).mono λr hr=>hr.trans hok⟩
theorem IX {t:Trace} (hS:Small t) (hN:(aZ t).length<1073741824):∃b,dw t=some b/\gT t=some b/\(b=true->VT t):=by
 obtain⟨b,hb,h1,h2⟩:=Ms hS hN;refine⟨b,hb,?_,h1⟩;unfold gT;obtain⟨r,hr,h3⟩:=Jy hS hN;rw[hr,ζb]
 congr 1
 rw[Bool.eq_iff_iff,beq_iff_eq,h3];exact⟨h2,λh=>(h1 h).ok⟩
end Go.VE
namespace Go.VE
theorem LX {t:Trace} (hS:Small t) {c:Sl Int} (hcl:c.l.length=t.procs.l.length) {step:Int->Option (Fw Int Unit Unit)}
 (hs:∀i,step i=au (decide (i<(len c))) ((idx c i).bind λx_1=>(au (decide (x_1<0)) (some true) ((idx c i).bind λx_2=>(idx t.procs i).bind λx_3=>some (decide (x_2>(len x_3.events)))):Option Bool).bind λx_4=>au x_4 (some (.r ())) (some (.n (IntKind.wrap .i64 (i+1))))) (some (.x ()))) :
 Wp ((aS step 0).bind (Fw.elim (λ_=>some true) (λ_=>some false))) λb=>(b=true↔tS t c.l):=by
 have h1:=hS.1;refine c8 (λs:Int=>∃n:Nat,s=n/\n<=c.l.length/\∀(p:Nat) (a:Int) (P:bG),p<n->c.l[p]? = some a->t.procs.l[p]? = some P->0<=a/\a<=P.events.l.length) (λs:Int=>c.l.length-s.toNat) ⟨0,rfl,Nat.zero_le _,λp a P h=>absurd h (by omega)⟩ ?_
 rintro s ⟨n,rfl,hn,hI⟩;rw[hs,br];constructor
 .intro h;have hlt:n<c.l.length:=by simpa [len]using h
  have hlt2:n<t.procs.l.length:=by omega
  have hw:=bK n (by omega)
  rw[aJ hlt,ζb,ζb,aJ hlt2,ζb,gE,ζb,br];constructor
  .intro hb;have hb:c.l[n]<0\/c.l[n]>t.procs.l[n].events.l.length:=by simpa [len]using hb
   refine(aj _).2 ((aj _).2 ⟨λh=>(by cases h),λhR=>?_⟩)
   have:=hR.2 n _ _ (ζd hlt) (ζd hlt2);omega
  .intro hb;have hb:0<=c.l[n]/\c.l[n]<=t.procs.l[n].events.l.length:=by simpa [len]using hb
   refine(aj _).2 ⟨⟨n+1,hw,by omega,λp a P hp ha hP=>?_⟩,by rw[hw];simp;omega⟩
   by_cases e:p=n
   .subst e;rw[ζd hlt]at ha;cases ha;rw[ζd hlt2]at hP;cases hP;exact hb
   .exact hI p a P (by omega) ha hP
 .intro h;have hge:c.l.length<=n:=by simpa [len]using h
  refine(aj _).2 ((aj _).2 ⟨λ_=>⟨hcl,λp a P ha hP=>hI p a P (by have:=(ζe.1 ha).1;omega) ha hP⟩,λ_=>rfl⟩)
theorem I7 {t:Trace} (hV:VT t) {A:bh 200 aK} (hM:jI t (aZ t) A) {p k:Nat} {e:Event} (hat:lV t p k e) (hk:e.kind=3):jG t 2 e.message=(ag A e.message).from_:=by
 obtain⟨y,h1,h2,h3⟩:=xF hV.formed hV.ok.IM (dB.2 ⟨p,k,hat,rfl⟩:((⟨p,k+1⟩:aa),e)∈aZ t) hk;have:=hM.snd _ h1 h2;simp only[h3]at this;exact this.symm
end Go.VE
namespace Go.VE
end Go.VE
namespace Go.VE
end Go.VE
namespace Go.VE
theorem Ga {t:Trace} (hS:Small t) (hV:VT t) {A:bh 200 aK} (hM:jI t (aZ t) A) {c:Sl Int} (hR:tS t c.l):Wp (dz t c) λb=>(b=true↔lJ t A c.l):=by
 have hn8:=hV.few;have hcl:=hR.1;unfold dz dz.W1;refine c8 (λs:Int=>∃n:Nat,s=n/\n<=c.l.length/\∀(p k:Nat) (e:Event) (a:Int),p<n->lV t p k e->c.l[p]? = some a->(k:Int)<a->e.kind=3->∃b,c.l[(ag A e.message).from_.proc.toNat]? = some b/\(ag A e.message).from_.index<=b) (λs:Int=>c.l.length-s.toNat) ⟨0,rfl,Nat.zero_le _,λp k e a h=>absurd h (by omega)⟩ ?_
 rintro s ⟨n,rfl,hn,hI⟩;unfold dz.aA;rw[br];constructor
 .intro h;have hlt:n<c.l.length:=by simpa [len]using h
  have hlt2:n<t.procs.l.length:=by omega
  have hPl:=(hS.2 _ (List.getElem_mem hlt2)).1;have hPg:=ζd hlt2;have hcg:=ζd hlt;obtain⟨r1,r2⟩:=hR.2 n _ _ hcg hPg;have hix:=aJ hlt;generalize c.l[n]=a at *;generalize hPe:t.procs.l[n]=P at *;unfold dz.W2;refine c8 (λs:Int=>∃m:Nat,s=m/\(m:Int)<=a/\∀(k:Nat) (e:Event),k<m->lV t n k e->e.kind=3->∃b,c.l[(ag A e.message).from_.proc.toNat]? = some b/\(ag A e.message).from_.index<=b) (λs:Int=>a.toNat-s.toNat) ⟨0,rfl,by simpa using r1,λk e h=>absurd h (by omega)⟩ ?_
  rintro s ⟨m,rfl,hm,hJ⟩;unfold dz.bf;rw[hix,ζb,br];constructor
  .intro h;have hma:(m:Int)<a:=by simpa using h
   have hmP:m<P.events.l.length:=by omega
   have hwm:=bK m (by omega)
   have hmu:a.toNat-(IntKind.wrap .i64 ((m:Int)+1)).toNat<a.toNat-((m:Int)).toNat:=by rw[hwm];simp;omega
   have hat:lV t n m P.events.l[m]:=⟨P,hPg,ζd hmP⟩;have hixP:idx t.procs (n:Int)=some P:=by rw[qh];exact hPg
   have same:∀k e,lV t n k e->k=m->e=P.events.l[m]:=λk e ⟨Q,hQ,he⟩ hk=>by
    subst hk;rw[hPg]at hQ;cases hQ;rw[ζd hmP]at he;cases he;rfl
   unfold uu;rw[hixP,ζb,aJ hmP,ζb,fW,br];constructor
   .intro hk;have hk:P.events.l[m].kind=3:=by simpa using hk
    obtain⟨q,j,z,hz,z1,z2,z3,z4,z5⟩:=CG hV hM hat hk;obtain⟨Q,hQ,_⟩:=hz;have hql:q<c.l.length:=by have:=(ζe.1 hQ).1;omega
    rw[find_eq hS,I7 hV hM hat hk,ζb,z5];simp only;rw[aJ hql,ζb,aj,br];constructor
    .intro hle;have hle:(j:Int)+1<=c.l[q]:=by simpa using hle
     refine(aj _).2 ⟨⟨m+1,hwm,by omega,λk e' hk' hat' he'=>?_⟩,hmu⟩
     by_cases ek:k=m
     .cases same k e' hat' ek;rw[z5];exact⟨c.l[q],by simp only[Int.toNat_natCast];exact ζd hql,by simp only;omega⟩
     .exact hJ k e' (by omega) hat' he'
    .intro hgt;have hgt:¬((j:Int)+1<=c.l[q]):=by simpa using hgt
     refine(aj _).2 ((aj _).2 ((aj _).2 ⟨λh=>(by cases h),λhC=>?_⟩))
     obtain⟨b,hb1,hb2⟩:=hC n m _ a hat hcg hma hk;rw[z5]at hb1 hb2;simp only[Int.toNat_natCast]at hb1 hb2;rw[ζd hql]at hb1;cases hb1;omega
   .intro hk;rw[aj,aX];refine(aj _).2 ⟨⟨m+1,hwm,by omega,λk e' hk' hat' he'=>?_⟩,hmu⟩
    by_cases ek:k=m
    .cases same k e' hat' ek;simp[he']at hk
    .exact hJ k e' (by omega) hat' he'
  .intro h;have hge:¬(m:Int)<a:=by simpa using h
   refine(aj _).2 ((aj _).2 ⟨⟨n+1,bK n (by omega),by omega,λp k e a' hp hat ha' hk hk3=>?_⟩,by rw[bK n (by omega)];simp;omega⟩)
   by_cases ep:p=n
   .subst ep;rw[hcg]at ha';cases ha';exact hJ k e (by omega) hat hk3
   .exact hI p k e a' (by omega) hat ha' hk hk3
 .intro h;have hge:c.l.length<=n:=by simpa [len]using h
  refine(aj _).2 ((aj _).2 ⟨λ_ p k e a hat ha hk hk3=>hI p k e a (by have:=(ζe.1 ha).1;omega) hat ha hk hk3,λ_=>rfl⟩)
end Go.VE
namespace Go.VE
theorem nZ {σ ε ρ γ:Type} {step:σ->Option (Fw σ ε ρ)} {fx:ε->Option γ} {fr:ρ->Option γ} {P:γ->Prop} (n:Nat) (I:Nat->σ->Prop) {s:σ} (h0:I 0 s)
 (h:∀i s,i<n->I i s->Wp (step s) λw=>match w with|.n s'=>I (i+1) s'|.x e=>Wp (fx e) P|.r b=>Wp (fr b) P)
 (hn:∀s,I n s->Wp (step s) λw=>match w with|.n _=>False|.x e=>Wp (fx e) P|.r b=>Wp (fr b) P):Wp ((aS step s).bind (Fw.elim fx fr)) P:=by
 have key:∀m i s,i+m=n->I i s->Wp ((aS step s).bind (Fw.elim fx fr)) P:=by
  intro m
  induction m with
  | zero=>
   intro i s hi hI;obtain⟨w,hw,hr⟩:=hn s (by rw[<-hi];exact hI)
   rw[dO,hw]
   cases w with
   | n s'=>exact hr.elim
   | x e=>exact hr
   | r b=>exact hr
  | succ m ih=>
   intro i s hi hI;obtain⟨w,hw,hr⟩:=h i s (by omega) hI
   rw[dO,hw]
   cases w with
   | n s'=>exact ih (i+1) s' (by omega) hr
   | x e=>exact hr
   | r b=>exact hr
 exact key n 0 s (Nat.zero_add n) h0
section
variable {t:Trace} {A:bh 200 aK} {c:List Int}
end
end Go.VE
namespace Go.VE
theorem jw {α:Type} {s:Sl α} {n:Nat} (h:n<s.l.length):decide ((n:Int)<len s)=true:=by simp[len];omega
theorem kC {α:Type} {s:Sl α}:decide ((s.l.length:Int)<len s)=false:=by simp[len]
theorem EW {α:Type} {s x:Sl α} (h:s.l.length+x.l.length<=2147483648):∃r,qt s x=some r/\r.l=s.l++x.l:=by
 unfold qt
 by_cases e:x.l=[]
 .rw[if_pos e];exact⟨s,rfl,by rw[e,List.append_nil]⟩
 .rw[if_neg e,if_pos h];exact⟨_,rfl,rfl⟩
theorem xX {α:Type} {s:Sl α} {x:α} (h:s.l.length<2147483648):∃r,jC s x=some r/\r.l=s.l++[x]:=by
 unfold jC;rw[if_pos (by omega)];exact⟨_,rfl,rfl⟩
theorem AH {α:Type} {s:Sl α} {p:Nat} (h:p<s.l.length):Sl.mj s (p:Int)=some p:=by
 unfold Sl.mj;rw[if_pos ⟨by omega,by simpa using h⟩];rfl
theorem put_eq {α:Type} {s:Sl α} {p:Nat} {x:α} (h:p<s.l.length):∃r,Sl.put s p x=some r/\r.l=s.l.set p x:=by
 unfold Sl.put;rw[if_pos h];exact⟨_,rfl,by cases s <;> first|rfl|(simp[Sl.l]at h)⟩
section
variable {t:Trace} {A:bh 200 aK}
end
end Go.VE
namespace Go.VE
def ins (s:Sl (Sl Int)):List (List Int):=s.l.map Sl.l
theorem EH {α:Type} (s:Sl α) (i:Nat) (h:i<=s.l.length):∃x,fP s (some (i:Int)) none=some x/\x.l=s.l.drop i:=by
 unfold fP cC;simp only[Option.getD_some,Option.getD_none];rw[if_pos ⟨by omega,by omega,by omega⟩]
 exact⟨_,rfl,by cases s <;> simp[Sl.l]⟩
end Go.VE
namespace Go.VE
section
variable {t:Trace} {A:bh 200 aK}
theorem sH {s:Sl (Sl Int)} {d:List Int}:d∈ins s↔∃x∈s.l,x.l=d:=by unfold ins;exact List.mem_map
end
end Go.VE
namespace Go.VE
def dH:List Int->List Int->Int
 | [],[]=>0
 | [],_::_=>-1
 | _::_,[]=>1
 | x::a,y::b=>if x<y then -1 else if x>y then 1 else dH a b
theorem w8:∀a,dH a a=0
 | []=>rfl
 | x::a=>by simp[dH,w8 a]
theorem xM:∀a b c,dH a b<0->dH b c<0->dH a c<0
 | [],[],_,h,_=>by simp[dH]at h
 | [],_::_,[],_,h=>by simp[dH]at h
 | [],_::_,_::_,_,_=>by simp[dH]
 | _::_,[],_,h,_=>by simp[dH]at h
 | _::_,_::_,[],_,h=>by simp[dH]at h
 | x::a,y::b,z::c,h1,h2=>by
  have ih:=xM a b c;simp only[dH]at h1 h2 ⊢;split at h1
  .split at h2
   .rw[if_pos (by omega)];omega
   .split at h2
    .omega
    .rw[if_pos (by omega)];omega
  .split at h1
   .omega
   .split at h2
    .rw[if_pos (by omega)];omega
    .split at h2
     .omega
     .rw[if_neg (by omega),if_neg (by omega)];exact ih h1 h2
theorem AX:∀a b,¬dH a b<0->¬dH b a<0->a=b
 | [],[],_,_=>rfl
 | [],_::_,h,_=>by simp[dH]at h
 | _::_,[],_,h=>by simp[dH]at h
 | x::a,y::b,h1,h2=>by
  have ih:=AX a b;simp only[dH]at h1 h2;split at h1
  .omega
  .split at h2
   .omega
   .rw[ih (by first|assumption|(split at h1 <;> first|assumption|omega)) (by first|assumption|(split at h2 <;> first|assumption|omega)),show x=y from by omega]
theorem Kp (a b c:List Int) (h1:¬dH a b<0) (h2:¬dH b c<0):¬dH a c<0:=λh=>by
 by_cases h3:dH b a<0
 .exact h2 (xM b a c h3 h)
 .rw[AX a b h1 h3]at h;exact h2 h
theorem J7 {α:Type} {s:Sl α} {p:α->α->Option Int} {f:α->List Int} (hp:∀x y,x∈s.l->y∈s.l->p x y=some (dH (f x) (f y))) (hl:s.l.length<2147483648):∃r,uD s p=some r/\r.l.Perm s.l/\r.l.Pairwise λx y=>¬dH (f y) (f x)<0:=by
 unfold uD;split
 .rename_i h;exact⟨s,rfl,List.Perm.refl _,by rw[h];exact List.Pairwise.nil⟩
 .rename_i x l h;rw[if_pos (by rw[h]at hl;simp at hl;omega)]
  simp only;have ht:∀i j:_root_.Fin (l.length+1),p (x::l)[i.1] (x::l)[j.1]=some (dH (f (x::l)[i.1]) (f (x::l)[j.1])):=λi j=>hp _ _ (by rw[h];exact List.getElem_mem _) (by rw[h];exact List.getElem_mem _)
  have hlt:(l_ λi j:_root_.Fin (l.length+1)=>p (x::l)[i.1] (x::l)[j.1])=λi j=>decide (dH (f (x::l)[i.1]) (f (x::l)[j.1])<0):=by
   funext i j;unfold l_;show decide ((p _ _).getD 0<0)=_;rw[ht];rfl
  have hok:vG (λi j:_root_.Fin (l.length+1)=>p (x::l)[i.1] (x::l)[j.1])=true:=by
   have hl':∀i j,l_ (λi j:_root_.Fin (l.length+1)=>p (x::l)[i.1] (x::l)[j.1]) i j=decide (dH (f (x::l)[i.1]) (f (x::l)[j.1])<0):=λi j=>by rw[hlt]
   refine List.all_eq_true.2 λi _=>Bool.and_eq_true_iff.2 ⟨by rw[hl',w8];rfl,List.all_eq_true.2 λj _=>Bool.and_eq_true_iff.2 ⟨by show (p _ _).isSome=true;rw[ht];rfl,List.all_eq_true.2 λk _=>Bool.and_eq_true_iff.2 ⟨?_,?_⟩⟩⟩
   .have:=xM (f (x::l)[i.1]) (f (x::l)[j.1]) (f (x::l)[k.1]);rw[hl',hl',hl'];simp only[Bool.or_eq_true,Bool.not_eq_true',Bool.and_eq_false_iff,decide_eq_true_eq,decide_eq_false_iff_not];omega
   .have:=Kp (f (x::l)[i.1]) (f (x::l)[j.1]) (f (x::l)[k.1]);rw[hl',hl',hl'];simp only[Bool.or_eq_true,Bool.not_eq_true',decide_eq_true_eq,decide_eq_false_iff_not];omega
  rw[if_pos hok];have hswo:=(nk hok).2;have hs:=Sort.pdq_sorts _ hswo (List.finRange (l.length+1)).toArray 0 (l.length+1) (Lib.bitLen (l.length+1)) true true (Nat.zero_le _) (by simp) (Or.inl rfl)
  rw[<-zA]at hs;generalize ny l.length _=d at hs;obtain⟨⟨hsz,_,hperm⟩,hsort⟩:=hs;have hsz:d.size=l.length+1:=by simpa using hsz
  have hre:∀y:List α,(s.re y).l=y:=λy=>by cases s <;> first|rfl|(simp[Sl.l]at h)
  refine⟨_,rfl,?_,?_⟩
  .rw[hre,h];have h1:d.extract 0 (l.length+1)=d:=Array.ext (by simp[hsz]) λi h1 h2=>by simp
   rw[h1]at hperm;have h2:((List.finRange (l.length+1)).toArray.extract 0 (l.length+1)).toList=List.finRange (l.length+1):=by simp[List.take_of_length_le]
   rw[h2]at hperm;refine(hperm.map _).trans ?_;rw[show (List.finRange (l.length+1)).map (λi=>(x::l)[i.1])=x::l from ?_]
   exact List.ext_getElem (by simp) λi h1 h2=>by simp
  .rw[hre,List.pairwise_map,List.pairwise_iff_getElem];intro i j hi hj hij;have:=hsort i j (Nat.zero_le _) hij (by simpa [hsz]using hj)
   rw[hlt]at this;simp only[Array.length_toList]at hi hj;simp only[getElem!_pos d i hi,getElem!_pos d j hj,decide_eq_false_iff_not]at this;simpa using this
end Go.VE
namespace Go.VE
theorem LP {a b:Sl Int} (hl:a.l.length<1073741824):dm a b=some (decide (a.l=b.l)):=by
 refine Wp.eq ?_;unfold dm;rw[br];refine⟨λh=>?_,λh=>(aj _).2 ?_⟩
 .have h:(a.l.length:Int)=b.l.length:=by simpa [len]using h
  have h:a.l.length=b.l.length:=by omega
  unfold dm.W1;refine nZ a.l.length (λn s=>s=(n:Int)/\∀i,i<n->a.l[i]? = b.l[i]?) ⟨rfl,λi h=>absurd h (by omega)⟩ ?_ ?_
  .rintro n _ hlt ⟨rfl,hI⟩;unfold dm.aA;have hb:n<b.l.length:=by omega
   rw[show decide ((n:Int)<len a)=true from jw hlt,aX,aJ hlt,ζb,aJ hb,ζb,br];refine⟨λhe=>(aj _).2 ⟨bK n (by omega),λi hi=>?_⟩,λhe=>(aj _).2 ((aj _).2 ?_)⟩
   .by_cases e:i=n
    .subst e;rw[ζd hlt,ζd hb];simpa using he
    .exact hI i (by omega)
   .refine(decide_eq_false λe=>?_).symm
    have h1:a.l[n]? = b.l[n]? := by rw[e]
    rw[ζd hlt,ζd hb]at h1;simp at he h1;exact he h1
  .rintro _ ⟨rfl,hI⟩;unfold dm.aA;rw[kC,bg,aj];refine(aj _).2 (decide_eq_true (List.ext_getElem? λi=>?_)).symm
   by_cases hi:i<a.l.length
   .exact hI i hi
   .rw[List.getElem?_eq_none (by omega),List.getElem?_eq_none (by omega)]
 .refine(decide_eq_false λe=>?_).symm
  simp[len,e]at h
end Go.VE
namespace Go.VE
section
variable {t:Trace} {A:bh 200 aK}
end
end Go.VE
namespace Go.VE
section
variable {t:Trace} {A:bh 200 aK}
structure aag (t:Trace) (A:bh 200 aK) (k:Nat) (o:Sl (Sl (Sl Int))):Prop where
 nd:(o.l.flatMap ins).Nodup
 mem:∀d,d∈o.l.flatMap ins↔Cons t A d/\d.sum<(k:Int)
end
end Go.VE
namespace Go.VE
section
variable {t:Trace} {A:bh 200 aK}
end
end Go.VE
namespace Go.VE
section
variable {t:Trace} {A:bh 200 aK}
end
end Go.VE
namespace Go.VE
section
variable {t:Trace} {A:bh 200 aK}
end
end Go.VE
namespace Go.VE
section
variable {t:Trace} {A:bh 200 aK}
end
end Go.VE
namespace Go.VE
abbrev bt (m:Option Bool) (P:Prop):Prop:=Wp m λb=>(b=true↔P)
theorem bt.eq {m:Option Bool} {P:Prop} (h:bt m P):∃b,m=some b/\(b=true↔P):=h
theorem bt.iff {m:Option Bool} {P Q:Prop} (h:bt m P) (e:P↔Q):bt m Q:=h.mono λb hb=>hb.trans e
theorem fJ {b:Bool} {P:Prop} (h:b=true↔P):bt (some b) P:=(aj _).2 h
theorem bt.some {m:Option Bool} {P:Prop} (h:bt m P):bt (m.bind λx=>Option.some x) P:=by
 obtain⟨b,hb,h⟩:=h;rw[hb];exact fJ h
theorem bt.same {m n:Option Bool} {P:Prop} (h:bt m P) (k:bt n P):∃b,m=Option.some b/\n=Option.some b/\(b=true↔P):=by
 obtain⟨b,hb,h⟩:=h;obtain⟨d,hd,k⟩:=k;have:b=d:=by rw[Bool.eq_iff_iff,h,k]
 subst this;exact⟨b,hb,hd,h⟩
theorem bt.and {m n:Option Bool} {P Q:Prop} (h:bt m P) (k:P->bt n Q) {f:Bool->Option Bool} (hf:∀b,f b=au b (n.bind λx=>Option.some x) (Option.some false)):bt (m.bind f) (P/\Q):=by
 obtain⟨b,hb,h⟩:=h;rw[hb,ζb,hf]
 cases b with
 | true=>exact((k (h.1 rfl)).some).iff ⟨λq=>⟨h.1 rfl,q⟩,λq=>q.2⟩
 | false=>exact fJ ⟨λe=>(nomatch e),λq=>(h.2 q.1).symm▸rfl⟩
theorem bt.Hq {m:Option Bool} {b:Bool} {P Q:Prop} (h:bt m P) (k:P->(b=true↔Q)) {f:Bool->Option Bool} (hf:∀x,f x=au x (Option.some b) (Option.some false)):bt (m.bind f) (P/\Q):=by
 obtain⟨x,hx,h⟩:=h;rw[hx,ζb,hf]
 cases x with
 | true=>exact fJ ((k (h.1 rfl)).trans ⟨λq=>⟨h.1 rfl,q⟩,λq=>q.2⟩)
 | false=>exact fJ ⟨λe=>(nomatch e),λq=>(h.2 q.1).symm▸rfl⟩
theorem bt.M9 {m n:Option Bool} {P Q:Prop} (h:bt m (¬P)) (k:P->bt n Q) {f:Bool->Option Bool} (hf:∀b,f b=au b (Option.some true) (n.bind λx=>Option.some (!x))):bt (m.bind f) (¬(P/\Q)):=by
 obtain⟨b,hb,h⟩:=h;rw[hb,ζb,hf]
 cases b with
 | true=>exact fJ ⟨λ_ q=>(h.1 rfl) q.1,λ_=>rfl⟩
 | false=>
  have hp:P:=Classical.byContradiction λhn=>(nomatch h.2 hn)
  obtain⟨d,hd,k⟩:=k hp;rw[bg,hd,ζb];refine fJ ?_
  cases d with
  | true=>exact⟨λe=>(nomatch e),λq=>absurd ⟨hp,k.1 rfl⟩ q⟩
  | false=>exact⟨λ_ q=>(nomatch k.2 q.2),λ_=>rfl⟩
theorem bt.Jh {m:Option Bool} {b:Bool} {P Q:Prop} (h:bt m (¬P)) (k:P->(b=true↔Q)) {f:Bool->Option Bool} (hf:∀x,f x=au x (Option.some true) (Option.some (!b))):bt (m.bind f) (¬(P/\Q)):=by
 obtain⟨x,hx,h⟩:=h;rw[hx,ζb,hf]
 cases x with
 | true=>exact fJ ⟨λ_ q=>(h.1 rfl) q.1,λ_=>rfl⟩
 | false=>
  have hp:P:=Classical.byContradiction λhn=>(nomatch h.2 hn)
  rw[bg];refine fJ ?_
  cases b with
  | true=>exact⟨λe=>(nomatch e),λq=>absurd ⟨hp,(k hp).1 rfl⟩ q⟩
  | false=>exact⟨λ_ q=>(nomatch (k hp).2 q.2),λ_=>rfl⟩
theorem bt.Lc {m n:Option Bool} {P Q:Prop} (h:bt m P) (k:P->bt n Q) {f:Bool->Option Bool} (hf:∀b,f b=au b (n.bind λx=>Option.some (!x)) (Option.some true)):bt (m.bind f) (¬(P/\Q)):=by
 obtain⟨b,hb,h⟩:=h;rw[hb,ζb,hf]
 cases b with
 | true=>
  obtain⟨d,hd,k⟩:=k (h.1 rfl);rw[aX,hd,ζb];refine fJ ?_
  cases d with
  | true=>exact⟨λe=>(nomatch e),λq=>absurd ⟨h.1 rfl,k.1 rfl⟩ q⟩
  | false=>exact⟨λ_ q=>(nomatch k.2 q.2),λ_=>rfl⟩
 | false=>exact fJ ⟨λ_ q=>(nomatch h.2 q.1),λ_=>rfl⟩
theorem C1 {step:Int->Option (Fw Int Unit Unit)} {n:Nat} {P:Nat->Prop} (h:∀i,i<n->(∀j,j<i->P j)->Wp (step (i:Int)) λw=>P i/\w=.n ((i+1:Nat):Int)\/¬P i/\w=.r ()) (he:(∀j,j<n->P j)->step (n:Int)=some (.x ())) :
 Wp (aS step 0) λw=>(∀i,i<n->P i)/\w=.x ()\/(¬∀i,i<n->P i)/\w=.r ():=by
 have key:∀m k,k+m=n->(∀j,j<k->P j)->Wp (aS step (k:Int)) λw=>(∀i,i<n->P i)/\w=.x ()\/(¬∀i,i<n->P i)/\w=.r ():=by
  intro m
  induction m with
  | zero=>
   intro k hk hp;have:k=n:=by omega
   subst this;rw[dO,he hp,ζb];exact(aj _).2 (.inl ⟨hp,rfl⟩)
  | succ m ih=>
   intro k hk hp;rw[dO,fW];refine(h k (by omega) hp).mono ?_
   rintro w (⟨h1,rfl⟩|⟨h1,rfl⟩)
   .exact ih (k+1) (by omega) λj hj=>by
     rcases Nat.lt_or_eq_of_le (Nat.lt_succ_iff.1 hj)with hj|rfl
     .exact hp j hj
     .exact h1
   .exact(aj _).2 (.inr ⟨λk2=>h1 (k2 k (by omega)),rfl⟩)
 exact key n 0 (by omega) λj hj=>absurd hj (by omega)
theorem mL {step:Int->Option (Fw Int Unit Unit)} {n:Nat} {P:Nat->Prop} (h:∀i,i<n->(∀j,j<i->P j)->Wp (step (i:Int)) λw=>P i/\w=.n ((i+1:Nat):Int)\/¬P i/\w=.r ()) (he:(∀j,j<n->P j)->step (n:Int)=some (.x ())) :
 bt ((aS step 0).bind (Fw.elim (λ_=>some true) (λ_=>some false))) (∀i,i<n->P i):=by
 rw[bt,fW];refine(C1 h he).mono ?_;rintro w (⟨h1,rfl⟩|⟨h1,rfl⟩)
 .exact fJ ⟨λ_=>h1,λ_=>rfl⟩
 .exact fJ ⟨λe=>(nomatch e),λh2=>absurd h2 h1⟩
theorem s6 {γ:Type} {step:Int->Option (Fw Int Unit Unit)} {n:Nat} {P:Nat->Prop} {fx:Unit->Option γ} {fr:Unit->Option γ} {R:γ->Prop} (h:∀i,i<n->(∀j,j<i->P j)->Wp (step (i:Int)) λw=>P i/\w=.n ((i+1:Nat):Int)\/¬P i/\w=.r ()) (he:(∀j,j<n->P j)->step (n:Int)=some (.x ()))
 (hx:(∀i,i<n->P i)->Wp (fx ()) R) (hr:(¬∀i,i<n->P i)->Wp (fr ()) R):Wp ((aS step 0).bind (Fw.elim fx fr)) R:=by
 rw[fW];refine(C1 h he).mono ?_;rintro w (⟨h1,rfl⟩|⟨h1,rfl⟩)
 .exact hx h1
 .exact hr h1
theorem sV {m:Option Bool} {P:Prop} {n:Int} {k:Nat} (h:bt m P) (hn:n=((k+1:Nat):Int)):Wp (m.bind λx=>au x (some (.n n)) (some (.r ()))) λw:Fw Int Unit Unit=>P/\w=.n ((k+1:Nat):Int)\/¬P/\w=.r ():=by
 obtain⟨b,hb,h⟩:=h;rw[hb,ζb]
 cases b with
 | true=>exact(aj _).2 (.inl ⟨h.1 rfl,by rw[hn]⟩)
 | false=>exact(aj _).2 (.inr ⟨λq=>(nomatch h.2 q),rfl⟩)
theorem FM {b:Bool} {P:Prop} {n:Int} {k:Nat} (h:b=true↔P) (hn:n=((k+1:Nat):Int)):Wp (au b (some (.n n)) (some (.r ()))) λw:Fw Int Unit Unit=>P/\w=.n ((k+1:Nat):Int)\/¬P/\w=.r ():=by
 cases b with
 | true=>exact(aj _).2 (.inl ⟨h.1 rfl,by rw[hn]⟩)
 | false=>exact(aj _).2 (.inr ⟨λq=>(nomatch h.2 q),rfl⟩)
theorem H7 {b:Bool} {P:Prop} {n:Int} {k:Nat} (h:b=true↔¬P) (hn:n=((k+1:Nat):Int)):Wp (au b (some (.r ())) (some (.n n))) λw:Fw Int Unit Unit=>P/\w=.n ((k+1:Nat):Int)\/¬P/\w=.r ():=by
 cases b with
 | true=>exact(aj _).2 (.inr ⟨h.1 rfl,rfl⟩)
 | false=>exact(aj _).2 (.inl ⟨Classical.byContradiction λq=>(nomatch h.2 q),by rw[hn]⟩)
def mG (a b:List Int):Prop:=a.length=b.length/\∀(p:Nat) (x y:Int),a[p]? = some x->b[p]? = some y->x<=y
theorem Wz {a b:List Int} (hn:a.length=b.length):(∀i,i<a.length->∀x y,a[i]? = some x->b[i]? = some y->x<=y)↔mG a b:=
 ⟨λh=>⟨hn,λp x y hx hy=>h p (ζe.1 hx).1 x y hx hy⟩,λh i _ x y hx hy=>h.2 i x y hx hy⟩
theorem FH {a b:Sl Int} (hl:a.l.length<1073741824) {step:Int->Option (Fw Int Unit Unit)}
 (hs:∀i,step i=au (decide (i<len a)) ((idx a i).bind λx_1=>(idx b i).bind λx_2=>au (decide (x_1>x_2)) (some (.r ())) (some (.n (IntKind.wrap .i64 (i+1))))) (some (.x ()))) :
 bt (au ((len a)==(len b)) ((aS step 0).bind (Fw.elim (λ_=>some true) (λ_=>some false))) (some false)) (mG a.l b.l):=by
 by_cases hn:a.l.length=b.l.length
 .rw[show ((len a)==(len b))=true from by simp[len,hn],aX]
  refine(mL (n:=a.l.length) (P:=λi=>∀x y,a.l[i]? = some x->b.l[i]? = some y->x<=y) ?_ ?_).iff (Wz hn)
  .intro i hi _;have hb:i<b.l.length:=by omega
   rw[hs,jw hi,aX,aJ hi,ζb,aJ hb,ζb];refine H7 ?_ (bK i (by omega))
   rw[decide_eq_true_eq];constructor
   .intro h k;have:=k _ _ (ζd hi) (ζd hb);omega
   .intro h;refine Classical.byContradiction λh2=>h λx y hx hy=>?_
    rw[ζd hi]at hx;rw[ζd hb]at hy;cases hx;cases hy;omega
  .intro _;rw[hs,kC,bg]
 .rw[show ((len a)==(len b))=false from by simp[len];omega,bg]
  exact fJ ⟨λe=>(nomatch e),λh=>absurd h.1 hn⟩
theorem G2 {a b:Sl Int} (hl:a.l.length<1073741824):bt (ir a b) (mG a.l b.l):=FH hl λi=>rfl
theorem Ho {a b:Sl Int} (hl:a.l.length<1073741824):bt (eF a b) (mG a.l b.l):=FH hl λi=>rfl
theorem HE {a b:Sl Int} (hl:a.l.length<1073741824):bt (cM a b) (a.l=b.l):=by
 by_cases hn:a.l.length=b.l.length
 .unfold cM;rw[show ((len a)==(len b))=true from by simp[len,hn],aX]
  unfold cM.W1;refine(mL (n:=a.l.length) (P:=λi=>a.l[i]? = b.l[i]?) ?_ ?_).iff ?_
  .intro i hi _;have hb:i<b.l.length:=by omega
   unfold cM.aA;rw[jw hi,aX,aJ hi,ζb,aJ hb,ζb];refine FM ?_ (bK i (by omega))
   rw[ζd hi,ζd hb];simp
  .intro _;unfold cM.aA;rw[kC,bg]
  .constructor
   .intro h;refine List.ext_getElem? λi=>?_
    by_cases hi:i<a.l.length
    .exact h i hi
    .rw[List.getElem?_eq_none (by omega),List.getElem?_eq_none (by omega)]
   .intro h i _;rw[h]
 .unfold cM;rw[show ((len a)==(len b))=false from by simp[len];omega,bg]
  exact fJ ⟨λe=>(nomatch e),λh=>absurd (by rw[h]) hn⟩
theorem W8 {a b:Sl Int} (hl:a.l.length<1073741824):bt (dm a b) (a.l=b.l):=by
 rw[LP hl];exact fJ (by simp)
section
variable {t:Trace} {A:bh 200 aK}
theorem HF (hS:Small t) (hv:dw t=some true) (hV:VT t) (hM:jI t (aZ t) A) (c:Sl Int):bt (iA t c) (Cons t A c.l):=by
 obtain⟨r,hr,h⟩:=Mw hS hv hV hM c;unfold iA;rw[hr,ζb];exact fJ (by rw[beq_iff_eq,h];exact Iff.rfl)
theorem GZ (hS:Small t) (hv:gT t=some true) (hV:VT t) (hM:jI t (aZ t) A) (c:Sl Int):bt (fT t c) (Cons t A c.l):=by
 unfold fT uK;rw[hv,ζb,aX,ζb,ζb]
 by_cases hcl:c.l.length=t.procs.l.length
 .rw[show (len c==len t.procs)=true from by simp[len,hcl],aX]
  have hr:bt (jr t c) (tS t c.l):=LX hS hcl λi=>rfl
  refine bt.and (P:=tS t c.l) (Q:=lJ t A c.l) (n:=dz t c) (bt.some hr) (λhR=>?_) (f:=λx_5=>(au x_5 ((dz t c).bind λx_6=>some x_6) (some false):Option Bool).bind λx_7=>some x_7) (λb=>by cases b <;> simp[au])
  exact Ga hS hV hM hR
 .rw[show (len c==len t.procs)=false from by simp[len];omega]
  exact fJ ⟨λe=>(nomatch e),λh=>absurd h.1.1 hcl⟩
end
end Go.VE
namespace Go.VE
def nth (l:List Int) (p:Nat):Int:=(l[p]?).getD 0
def nV (t:Trace) (p:Nat):Nat:=((t.procs.l[p]?).map λP=>P.events.l.length).getD 0
def rL (s:Slice) (p:Nat):Nat:=((s.j.l[p]?).map λr=>r.l.length).getD 0
def el (s:Slice) (p i:Nat):List Int:=match s.j.l[p]? with
 | some r=>match r.l[i]? with
  | some c=>c.l
  | none=>[]
 | none=>[]
theorem jB {l:List Int} {p:Nat} (h:p<l.length):nth l p=l[p]:=by unfold nth;rw[ζd h];rfl
theorem ta {t:Trace} {p:Nat} (h:p<t.procs.l.length):nV t p=t.procs.l[p].events.l.length:=by unfold nV;rw[ζd h];rfl
theorem oU {s:Slice} {p:Nat} (h:p<s.j.l.length):rL s p=s.j.l[p].l.length:=by unfold rL;rw[ζd h];rfl
def lp (t:Trace) (A:bh 200 aK) (s:Slice) (p i:Nat):Prop:=
 (nth s.last.l p<=(i:Int)/\(el s p i).length=0)\/((i:Int)<nth s.last.l p/\(((i:Int)<nth s.first.l p/\el s p i=s.first.l)\/(nth s.first.l p<=(i:Int)/\Cons t A (el s p i)/\(i:Int)<nth (el s p i) p/\mG s.first.l (el s p i)/\mG (el s p i) s.last.l)))
def u9 (s:Slice) (c:List Int):Prop:=∀p,p<c.length->∀i:Nat,(i:Int)<nth c p->mG (el s p i) c
def uT (t:Trace) (A:bh 200 aK) (s:Slice):Prop:=((((Cons t A s.first.l/\Cons t A s.last.l)/\mG s.first.l s.last.l)/\s.j.l.length=t.procs.l.length)/\∀p,p<t.procs.l.length->rL s p=nV t p)
def qL (t:Trace) (A:bh 200 aK) (s:Slice):Prop:=
 (uT t A s/\∀p,p<t.procs.l.length->∀i,i<nV t p->lp t A s p i)/\∀p,p<t.procs.l.length->∀i:Nat,(i:Int)<nth s.last.l p->u9 s (el s p i)
def DH (s:Slice):Prop:=(s.first.l.length=0/\s.last.l.length=0)/\s.j.l.length=0
def mB (t:Trace) (A:bh 200 aK) (s:Slice):Prop:=s.empty=true/\DH s\/s.empty=false/\qL t A s
structure mg (s:Slice):Prop where
 f:s.first.l.length<=60
 l:s.last.l.length<=60
 j:s.j.l.length<=60
 r:∀r∈s.j.l,r.l.length<=60/\∀c∈r.l,c.l.length<=60
section
variable {t:Trace} {A:bh 200 aK} {s:Slice}
theorem kD {c:List Int} (h:Cons t A c) {p:Nat} (hp:p<t.procs.l.length):0<=nth c p/\nth c p<=nV t p:=by
 have hc:p<c.length:=by rw[h.1.1];exact hp
 rw[jB hc,ta hp];exact h.1.2 p _ _ (ζd hc) (ζd hp)
theorem x_ {p i:Nat} (hp:p<s.j.l.length) (hi:i<rL s p) (hL:mg s):∃c,iU s ⟨p,((i+1:Nat):Int)⟩=some c/\c.l=el s p i/\c.l.length<=60:=by
 rw[oU hp]at hi;have hr:=(hL.r _ (List.getElem_mem hp));refine⟨s.j.l[p].l[i],?_,?_,hr.2 _ (List.getElem_mem hi)⟩
 .unfold iU;dsimp only;rw[aJ hp,ζb,kM _ (by omega) (by omega),show ((i+1:Nat):Int)-1=(i:Int)from by omega,aJ hi,ζb]
 .unfold el;rw[ζd hp];dsimp only;rw[ζd hi]
theorem vE {c:Sl Int} {f:aa->Option Bool} {g:Nat->Nat->Prop} (hc:c.l.length<1073741824) (hb:∀p,p<c.l.length->nth c.l p<1073741824)
 (h:∀p,p<c.l.length->∀i:Nat,(i:Int)<nth c.l p->bt (f ⟨p,((i+1:Nat):Int)⟩) (g p i)):bt (dn c f) (∀p,p<c.l.length->∀i:Nat,(i:Int)<nth c.l p->g p i):=by
 unfold dn dn.W1;refine mL (n:=c.l.length) ?_ ?_
 .intro p hp _;unfold dn.aA;rw[jw hp,aX,aJ hp,ζb];unfold dn.W2;have hn:=jB hp;have hb:=hb p hp;rw[hn]at hb
  by_cases h0:c.l[p]<=0
  .refine s6 (n:=0) (P:=λ_=>True) (λi hi=>absurd hi (by omega)) (λ_=>?_) (λ_=>?_) (λk=>absurd (λi hi=>absurd hi (by omega)) k)
   .unfold dn.bf;rw[show decide (((0:Nat):Int)<c.l[p])=false from by simp;omega,bg]
   .exact(aj _).2 (.inl ⟨λi hi=>by rw[hn]at hi;omega,by rw[bK p (by omega)]⟩)
  .obtain⟨k,hk⟩:∃k:Nat,c.l[p]=(k:Int):=⟨c.l[p].toNat,by omega⟩
   have e:(∀i,i<k->g p i)↔∀i:Nat,(i:Int)<nth c.l p->g p i:=by
    rw[hn,hk];exact⟨λh i hi=>h i (by omega),λh i hi=>h i (by omega)⟩
   refine s6 (n:=k) (P:=g p) (λi hi _=>?_) (λ_=>?_) (λq=>?_) (λq=>?_)
   .unfold dn.bf;rw[show decide ((i:Int)<c.l[p])=true from by simp;omega,aX,bK i (by omega)]
    exact sV (h p hp i (by rw[hn];omega)) rfl
   .unfold dn.bf;rw[show decide ((k:Int)<c.l[p])=false from by simp;omega,bg]
   .exact(aj _).2 (.inl ⟨e.1 q,by rw[bK p (by omega)]⟩)
   .exact(aj _).2 (.inr ⟨λq2=>q (e.2 q2),rfl⟩)
 .intro _;unfold dn.aA;rw[kC,bg]
theorem zp {c:Sl Int} {p i:Nat} (hp:p<c.l.length):mN ⟨p,((i+1:Nat):Int)⟩ c=some (decide ((i:Int)<nth c.l p)):=by
 unfold mN;rw[aJ hp,ζb,jB hp];exact congrArg some (decide_eq_decide.2 (by dsimp only;omega))
theorem EJ (hS:Small t) (hv:dw t=some true) (hV:VT t) (hM:jI t (aZ t) A) (hL:mg s) (hs:uT t A s) {p i:Nat} (hp:p<t.procs.l.length) (hi:i<nV t p) :
 bt (qQ t s ⟨p,((i+1:Nat):Int)⟩) (lp t A s p i):=by
 obtain⟨⟨⟨⟨h1,h2⟩,h3⟩,h4⟩,h5⟩:=hs;obtain⟨c,hc,hce,hcl⟩:=x_ (s:=s) (p:=p) (i:=i) (by omega) (by rw[h5 p hp];exact hi) hL
 have hl:p<s.last.l.length:=by rw[h2.1.1];exact hp
 have hf:p<s.first.l.length:=by rw[h1.1.1];exact hp
 have hL1:=hL.f;have hL2:=hL.l;unfold qQ;rw[hc,ζb,zp hl,ζb];unfold lp;rw[<-hce]
 by_cases hlt:(i:Int)<nth s.last.l p
 .rw[decide_eq_true hlt,aX,zp hf,ζb]
  by_cases hft:(i:Int)<nth s.first.l p
  .rw[decide_eq_true hft,aX];refine((W8 (a:=c) (b:=s.first) (by omega)).some).iff ?_
   exact⟨λh=>.inr ⟨hlt,.inl ⟨hft,h⟩⟩,λh=>by rcases h with h|⟨_,h|h⟩ <;> first|exact h.2|omega⟩
  .rw[decide_eq_false hft,bg];have k1:=HF hS hv hV hM c;have k2:=bt.and (Q:=(i:Int)<nth c.l p) k1 (n:=mN ⟨p,((i+1:Nat):Int)⟩ c) (λhC=>by rw[zp (by rw[hC.1.1];exact hp)];exact fJ (by simp)) (f:=λx_5=>(au x_5 ((mN ⟨p,((i+1:Nat):Int)⟩ c).bind λx_6=>some x_6) (some false):Option Bool)) (λb=>rfl)
   have k3:=bt.and k2 (Q:=mG s.first.l c.l) (n:=ir s.first c) (λ_=>G2 (by omega)) (f:=λx_7=>(au x_7 ((ir s.first c).bind λx_8=>some x_8) (some false):Option Bool)) (λb=>rfl)
   have k4:=bt.and k3 (Q:=mG c.l s.last.l) (n:=ir c s.last) (λ_=>G2 (by omega)) (f:=λx_9=>(au x_9 ((ir c s.last).bind λx_10=>some x_10) (some false):Option Bool)) (λb=>rfl)
   have k5:=k4.some;simp only[Option.bind_assoc]at k5 ⊢;refine k5.iff ?_;exact⟨λ⟨⟨⟨a,b⟩,d⟩,e⟩=>.inr ⟨hlt,.inr ⟨by omega,a,b,d,e⟩⟩,λh=>by rcases h with h|⟨_,h|⟨_,a,b,d,e⟩⟩ <;> first|exact⟨⟨⟨a,b⟩,d⟩,e⟩|omega⟩
 .rw[decide_eq_false hlt,bg];refine fJ ?_;rw[beq_iff_eq];simp only[len];exact⟨λh=>.inl ⟨by omega,by omega⟩,λh=>by rcases h with h|h <;> omega⟩
theorem DL (hS:Small t) (hv:dw t=some true) (hV:VT t) (hM:jI t (aZ t) A) (hL:mg s):bt (fh t s) (uT t A s):=by
 have hL1:=hL.f;have hL2:=hL.l;have hL3:=hL.j;unfold fh;have k1:=HF hS hv hV hM s.first
 have k2:=bt.Lc k1 (Q:=Cons t A s.last.l) (λ_=>HF hS hv hV hM s.last) (f:=λx_1=>(au x_1 ((iA t s.last).bind λx_2=>some (!x_2)) (some true):Option Bool)) (λb=>rfl)
 have k3:=bt.M9 k2 (Q:=mG s.first.l s.last.l) (λ_=>G2 (a:=s.first) (b:=s.last) (by omega)) (f:=λx_3=>(au x_3 (some true) ((ir s.first s.last).bind λx_4=>some (!x_4)):Option Bool)) (λb=>rfl)
 have k4:=bt.Jh k3 (Q:=s.j.l.length=t.procs.l.length) (b:=((len s.j)==(len t.procs))) (λ_=>by rw[beq_iff_eq];simp only[len];omega) (f:=λx_5=>(au x_5 (some true) (some (!((len s.j)==(len t.procs)))):Option Bool)) (λb=>rfl)
 simp only[Option.bind_assoc]at k4 ⊢;obtain⟨b,hb,h⟩:=k4;simp only[<-Option.bind_assoc]at hb ⊢;rw[hb,ζb]
 cases b with
 | true=>exact fJ ⟨λe=>(nomatch e),λq=>absurd q.1 (h.1 rfl)⟩
 | false=>
  have hh:((Cons t A s.first.l/\Cons t A s.last.l)/\mG s.first.l s.last.l)/\s.j.l.length=t.procs.l.length:=Classical.byContradiction λq=>(nomatch h.2 q)
  rw[bg];unfold fh.W1;refine(mL (n:=s.j.l.length) (P:=λp=>rL s p=nV t p) ?_ ?_).iff ?_
  .intro p hp _;have hp2:p<t.procs.l.length:=by rw[<-hh.2];exact hp
   unfold fh.aA;rw[jw hp,aX,aJ hp,ζb,aJ hp2,ζb];refine FM ?_ (bK p (by omega))
   rw[beq_iff_eq,oU hp,ta hp2];simp only[len];omega
  .intro _;unfold fh.aA;rw[kC,bg]
  .exact⟨λq=>⟨hh,λp hp=>q p (by rw[hh.2];exact hp)⟩,λq p hp=>q.2 p (by rw[<-hh.2];exact hp)⟩
theorem Kx (hS:Small t) (hV:VT t):∃c,eS t=some c/\c.l.length=t.procs.l.length/\∀p,p<t.procs.l.length->nth c.l p=nV t p:=by
 have h8:=hV.few;unfold eS eS.W1;refine nZ (P:=λc:Sl Int=>c.l.length=t.procs.l.length/\∀p,p<t.procs.l.length->nth c.l p=nV t p) t.procs.l.length (λi (s:Sl Int×Int)=>s.2=(i:Int)/\s.1.l.length=i/\∀p,p<i->nth s.1.l p=nV t p) ⟨rfl,rfl,λp hp=>absurd hp (by omega)⟩ ?_ ?_
 .rintro i ⟨o,_⟩ hi ⟨e,h1,h2⟩;simp only at e h1 h2;subst e;unfold eS.aA;rw[jw hi,aX,aJ hi,ζb];obtain⟨r,hr,hrl⟩:=xX (s:=o) (x:=len t.procs.l[i].events) (by omega)
  rw[hr,ζb,aj];refine⟨bK i (by omega),by rw[hrl];simp[h1],λp hp=>?_⟩
  show nth r.l p=_;rw[hrl]
  by_cases e:p=i
  .subst e;unfold nth;rw[List.getElem?_append_right (by omega),h1,Nat.sub_self,ta hi];rfl
  .unfold nth;rw[List.getElem?_append_left (by omega)]
   exact h2 p (by omega)
 .rintro⟨o,_⟩ ⟨e,h1,h2⟩;simp only at e h1 h2;subst e;unfold eS.aA;rw[kC,bg,aj];exact(aj _).2 ⟨h1,h2⟩
theorem zQ (hS:uT t A s) (h:∀p,p<t.procs.l.length->∀i,i<nV t p->lp t A s p i) {p i:Nat} (hp:p<t.procs.l.length) (hi:(i:Int)<nth s.last.l p):i<nV t p/\Cons t A (el s p i):=by
 have h2:=kD hS.1.1.1.2 hp;have hie:i<nV t p:=by omega
 refine⟨hie,?_⟩;rcases h p hp i hie with k|⟨_,k|k⟩
 .omega
 .rw[k.2];exact hS.1.1.1.1
 .exact k.2.1
theorem R_ (hS:Small t) (hv:dw t=some true) (hV:VT t) (hM:jI t (aZ t) A) (hL:mg s):bt (j_ t s) (mB t A s):=by
 have h8:=hV.few;have hev:∀p,p<t.procs.l.length->nV t p<1073741824:=λp hp=>by rw[ta hp];exact(hS.2 _ (List.getElem_mem hp)).1
 unfold j_;rw[hv,ζb,aX]
 cases he:s.empty with
 | true=>
  rw[aX];have k1:=bt.Hq (m:=some (len s.first==0)) (P:=s.first.l.length=0) (fJ (by rw[beq_iff_eq];simp only[len];omega)) (b:=(len s.last==0)) (Q:=s.last.l.length=0) (λ_=>by rw[beq_iff_eq];simp only[len];omega) (f:=λx=>(au x (some (len s.last==0)) (some false):Option Bool)) (λb=>rfl)
  have k2:=bt.Hq k1 (b:=(len s.j==0)) (Q:=s.j.l.length=0) (λ_=>by rw[beq_iff_eq];simp only[len];omega) (f:=λx=>(au x (some (len s.j==0)) (some false):Option Bool)) (λb=>rfl)
  rw[ζb]at k2;have k:=(bt.some k2).iff (Q:=mB t A s) (by unfold mB DH;rw[he];simp)
  rw[Option.bind_assoc]at k;exact k
 | false=>
  rw[bg];have k1:=DL hS hv hV hM hL;obtain⟨c,hc,hc1,hc2⟩:=Kx hS hV;have k2:=bt.Lc k1 (Q:=∀p,p<t.procs.l.length->∀i,i<nV t p->lp t A s p i) (n:=(eS t).bind λx_5=>dn x_5 (λz=>kE z t s)) (λhs=>by
   rw[hc,ζb];refine(vE (g:=lp t A s) (by omega) (λp hp=>by rw[hc2 p (by omega)];have:=hev p (by omega);omega) (λp hp i hi=>?_)).iff ?_
   .rw[hc2 p (by omega)]at hi
    exact(EJ hS hv hV hM hL hs (by omega) (by omega)).some
   .rw[hc1];constructor
    .intro h p hp i hi;exact h p hp i (by rw[hc2 p hp];omega)
    .intro h p hp i hi;exact h p hp i (by rw[hc2 p hp]at hi;omega)) (f:=λx_4=>(au x_4 ((eS t).bind λx_5=>(dn x_5 (λz=>kE z t s)).bind λx_6=>some (!x_6)) (some true):Option Bool)) (λb=>by simp only[Option.bind_assoc])
  obtain⟨b,hb,h⟩:=k2;rw[<-Option.bind_assoc,hb,ζb];have hval:mB t A s↔qL t A s:=by unfold mB;rw[he];simp
  cases b with
  | true=>exact fJ ⟨λe=>(nomatch e),λq=>absurd (hval.1 q).1 (h.1 rfl)⟩
  | false=>
   have hh:uT t A s/\∀p,p<t.procs.l.length->∀i,i<nV t p->lp t A s p i:=Classical.byContradiction λq=>(nomatch h.2 q)
   have hl:s.last.l.length=t.procs.l.length:=hh.1.1.1.1.2.1.1;have hj:s.j.l.length=t.procs.l.length:=hh.1.1.2;rw[bg];refine((vE (g:=λp i=>u9 s (el s p i)) (by omega) (λp hp=>?_) (λp hp i hi=>?_)).some).iff ?_
   .have:=kD hh.1.1.1.1.2 (p:=p) (by omega);have:=hev p (by omega);omega
   .obtain⟨hie,hC⟩:=zQ hh.1 hh.2 (p:=p) (by omega) hi
    obtain⟨d,hd,hde,hdl⟩:=x_ (s:=s) (p:=p) (i:=i) (by omega) (by rw[hh.1.2 p (by omega)];exact hie) hL
    unfold nj;rw[hd,ζb];refine(vE (g:=λq k=>mG (el s q k) (el s p i)) (by omega) (λq hq=>?_) (λq hq k hk=>?_)).some |>.iff ?_
    .rw[hde]at hq ⊢;have hq':q<t.procs.l.length:=by rw[<-hC.1.1];exact hq
     have:=kD hC hq';have:=hev q hq';omega
    .rw[hde]at hq hk;have hq':q<t.procs.l.length:=by rw[<-hC.1.1];exact hq
     have:=kD hC hq';unfold ko;obtain⟨y,hy,hye,hyl⟩:=x_ (s:=s) (p:=q) (i:=k) (by omega) (by rw[hh.1.2 q hq'];omega) hL
     rw[hy,ζb,<-hye,<-hde];exact(G2 (by omega)).some
    .rw[hde];exact Iff.rfl
   .rw[hval,hl];exact⟨λq=>⟨hh,q⟩,λq=>q.2⟩
end
end Go.VE
namespace Go.VE
section
variable {t:Trace} {A:bh 200 aK} {s:Slice}
theorem vR {p i:Nat} (hp:p<s.j.l.length) (hi:i<rL s p) (hL:mg s):∃r c,idx s.j (p:Int)=some r/\idx r (i:Int)=some c/\c.l=el s p i/\c.l.length<=60:=by
 rw[oU hp]at hi;have hr:=(hL.r _ (List.getElem_mem hp));refine⟨s.j.l[p],s.j.l[p].l[i],aJ hp,aJ hi,?_,hr.2 _ (List.getElem_mem hi)⟩;unfold el;rw[ζd hp];dsimp only;rw[ζd hi]
theorem Mf (hS:Small t) (hv:gT t=some true) (hV:VT t) (hM:jI t (aZ t) A) (hL:mg s) (h1:Cons t A s.first.l) (h2:Cons t A s.last.l) {p i:Nat} (hp:p<t.procs.l.length) (hj:p<s.j.l.length) (hi:i<rL s p) :
 bt (nv t s p i) (lp t A s p i):=by
 obtain⟨r,c,hr,hc,hce,hcl⟩:=vR hj hi hL;have hl:p<s.last.l.length:=by rw[h2.1.1];exact hp
 have hf:p<s.first.l.length:=by rw[h1.1.1];exact hp
 have hL1:=hL.f;have hL2:=hL.l;unfold nv;rw[hr,ζb,hc,ζb,aJ hl,ζb,<-jB hl];unfold lp;rw[<-hce]
 by_cases hlt:(i:Int)<nth s.last.l p
 .rw[show decide ((i:Int)>=nth s.last.l p)=false from by simp;omega,bg,aJ hf,ζb,<-jB hf]
  by_cases hft:(i:Int)<nth s.first.l p
  .rw[decide_eq_true hft,aX];refine((HE (a:=c) (b:=s.first) (by omega)).some).iff ?_
   exact⟨λh=>.inr ⟨hlt,.inl ⟨hft,h⟩⟩,λh=>by rcases h with h|⟨_,h|h⟩ <;> first|exact h.2|omega⟩
  .rw[decide_eq_false hft,bg];have k1:=GZ hS hv hV hM c;have k2:=bt.and k1 (Q:=(i:Int)<nth c.l p) (n:=(idx c p).bind λx_7=>some (decide (x_7>(i:Int)))) (λhC=>by
    have hpc:p<c.l.length:=by rw[hC.1.1];exact hp
    rw[aJ hpc,ζb,<-jB hpc];exact fJ (by simp)) (f:=λx_6=>(au x_6 ((idx c p).bind λx_7=>some (decide (x_7>(i:Int)))) (some false):Option Bool)) (λb=>by simp only[Option.bind_assoc,ζb])
   have k3:=bt.and k2 (Q:=mG s.first.l c.l) (n:=eF s.first c) (λ_=>Ho (by omega)) (f:=λx_7=>(au x_7 ((eF s.first c).bind λx_8=>some x_8) (some false):Option Bool)) (λb=>rfl)
   have k4:=bt.and k3 (Q:=mG c.l s.last.l) (n:=eF c s.last) (λ_=>Ho (by omega)) (f:=λx_9=>(au x_9 ((eF c s.last).bind λx_10=>some x_10) (some false):Option Bool)) (λb=>rfl)
   have k5:=k4.some;simp only[Option.bind_assoc]at k5 ⊢;refine k5.iff ?_;exact⟨λ⟨⟨⟨a,b⟩,d⟩,e⟩=>.inr ⟨hlt,.inr ⟨by omega,a,b,d,e⟩⟩,λh=>by rcases h with h|⟨_,h|⟨_,a,b,d,e⟩⟩ <;> first|exact⟨⟨⟨a,b⟩,d⟩,e⟩|omega⟩
 .rw[show decide ((i:Int)>=nth s.last.l p)=true from by simp;omega,aX]
  refine fJ ?_;rw[beq_iff_eq];simp only[len];exact⟨λh=>.inl ⟨by omega,by omega⟩,λh=>by rcases h with h|h <;> omega⟩
theorem BK {γ:Type} {step:Int->Option (Fw Int Unit Unit)} {n:Int} {P:Nat->Prop} {fx:Unit->Option γ} {fr:Unit->Option γ} {R:γ->Prop} (h:∀i:Nat,(i:Int)<n->(∀j,j<i->P j)->Wp (step (i:Int)) λw=>P i/\w=.n ((i+1:Nat):Int)\/¬P i/\w=.r ()) (he:∀i:Nat,n<=(i:Int)->step (i:Int)=some (.x ()))
 (hx:(∀i:Nat,(i:Int)<n->P i)->Wp (fx ()) R) (hr:(¬∀i:Nat,(i:Int)<n->P i)->Wp (fr ()) R):Wp ((aS step 0).bind (Fw.elim fx fr)) R:=by
 have e:(∀i,i<n.toNat->P i)↔∀i:Nat,(i:Int)<n->P i:=⟨λh i hi=>h i (by omega),λh i hi=>h i (by omega)⟩
 exact s6 (n:=n.toNat) (P:=P) (λi hi hp=>h i (by omega) hp) (λ_=>he _ (by omega)) (λq=>hx (e.1 q)) (λq=>hr λk=>q (e.2 k))
theorem Cg (hL:mg s) {c:Sl Int} (hc:c.l.length<=60) (hb:∀p,p<c.l.length->nth c.l p<1073741824) (h:∀p,p<c.l.length->p<s.j.l.length/\∀i:Nat,(i:Int)<nth c.l p->i<rL s p):bt (dA s c) (u9 s c.l):=by
 unfold dA dA.W1;refine mL (n:=c.l.length) (P:=λp=>∀i:Nat,(i:Int)<nth c.l p->mG (el s p i) c.l) ?_ ?_
 .intro p hp _;have hn:=jB hp;have hb:=hb p hp;obtain⟨hj,hr⟩:=h p hp;unfold dA.aA;rw[jw hp,aX];unfold dA.W2;refine BK (n:=nth c.l p) (P:=λi=>mG (el s p i) c.l) (λi hi _=>?_) (λi hi=>?_) (λq=>?_) (λq=>?_)
  .unfold dA.bf;obtain⟨r,d,h1,h2,h3,h4⟩:=vR hj (hr i hi) hL;rw[aJ hp,ζb,<-hn,decide_eq_true hi,aX,h1,ζb,h2,ζb,<-h3];exact sV (Ho (by omega)) (bK i (by omega))
  .unfold dA.bf;rw[aJ hp,ζb,<-hn,decide_eq_false (by omega),bg]
  .exact(aj _).2 (.inl ⟨q,by rw[bK p (by omega)]⟩)
  .exact(aj _).2 (.inr ⟨q,rfl⟩)
 .intro _;unfold dA.aA;rw[kC,bg]
theorem R7 (hS:Small t) (hv:gT t=some true) (hV:VT t) (hM:jI t (aZ t) A) (hL:mg s):bt (bN t s) (mB t A s):=by
 have h8:=hV.few;have hL1:=hL.f;have hL2:=hL.l;have hL3:=hL.j;have hev:∀p,p<t.procs.l.length->nV t p<1073741824:=λp hp=>by rw[ta hp];exact(hS.2 _ (List.getElem_mem hp)).1
 unfold bN;rw[hv,ζb,aX]
 cases he:s.empty with
 | true=>
  rw[aX];have k1:=bt.Hq (m:=some (len s.first==0)) (P:=s.first.l.length=0) (fJ (by rw[beq_iff_eq];simp only[len];omega)) (b:=(len s.last==0)) (Q:=s.last.l.length=0) (λ_=>by rw[beq_iff_eq];simp only[len];omega) (f:=λx=>(au x (some (len s.last==0)) (some false):Option Bool)) (λb=>rfl)
  have k2:=bt.Hq k1 (b:=(len s.j==0)) (Q:=s.j.l.length=0) (λ_=>by rw[beq_iff_eq];simp only[len];omega) (f:=λx=>(au x (some (len s.j==0)) (some false):Option Bool)) (λb=>rfl)
  rw[ζb]at k2;have k:=(bt.some k2).iff (Q:=mB t A s) (by unfold mB DH;rw[he];simp)
  rw[Option.bind_assoc]at k;exact k
 | false=>
  rw[bg];have hval:mB t A s↔qL t A s:=by unfold mB;rw[he];simp
  have k1:=GZ hS hv hV hM s.first
  have k2:=bt.Lc k1 (Q:=Cons t A s.last.l) (λ_=>GZ hS hv hV hM s.last) (f:=λx_1=>(au x_1 ((fT t s.last).bind λx_2=>some (!x_2)) (some true):Option Bool)) (λb=>rfl)
  have k3:=bt.M9 k2 (Q:=mG s.first.l s.last.l) (λ_=>Ho (a:=s.first) (b:=s.last) (by omega)) (f:=λx_3=>(au x_3 (some true) ((eF s.first s.last).bind λx_4=>some (!x_4)):Option Bool)) (λb=>rfl)
  have k4:=bt.Jh k3 (Q:=s.j.l.length=t.procs.l.length) (b:=((len s.j)==(len t.procs))) (λ_=>by rw[beq_iff_eq];simp only[len];omega) (f:=λx_5=>(au x_5 (some true) (some (!((len s.j)==(len t.procs)))):Option Bool)) (λb=>rfl)
  simp only[Option.bind_assoc]at k4 ⊢;obtain⟨b,hb,h⟩:=k4;simp only[<-Option.bind_assoc]at hb ⊢;rw[hb,ζb]
  cases b with
  | true=>exact fJ ⟨λe=>(nomatch e),λq=>absurd (hval.1 q).1.1.1 (h.1 rfl)⟩
  | false=>
   have hh:((Cons t A s.first.l/\Cons t A s.last.l)/\mG s.first.l s.last.l)/\s.j.l.length=t.procs.l.length:=Classical.byContradiction λq=>(nomatch h.2 q)
   have hl:s.last.l.length=t.procs.l.length:=hh.1.1.2.1.1;rw[bg];unfold bN.W1;refine s6 (n:=s.j.l.length) (P:=λp=>rL s p=nV t p/\∀i,i<nV t p->lp t A s p i) (R:=λb=>b=true↔mB t A s) ?_ ?_ ?_ ?_
   .intro p hp _;have hp2:p<t.procs.l.length:=by rw[<-hh.2];exact hp
    unfold bN.aA;rw[jw hp,aX,aJ hp,ζb,aJ hp2,ζb]
    by_cases hq:rL s p=nV t p
    .rw[show (len s.j.l[p]==len t.procs.l[p].events)=true from by rw[beq_iff_eq];simp only[len];rw[oU hp,ta hp2]at hq;omega,aX]
     unfold bN.W2;have hrow:=hL.r _ (List.getElem_mem hp);refine s6 (n:=rL s p) (P:=lp t A s p) ?_ ?_ ?_ ?_
     .intro i hi _;unfold bN.bf;rw[aJ hp,ζb,show decide ((i:Int)<len s.j.l[p])=true from jw (by rw[<-oU hp];exact hi),aX]
      exact sV (Mf hS hv hV hM hL hh.1.1.1 hh.1.1.2 hp2 hp hi) (bK i (by rw[oU hp]at hi;omega))
     .intro _;unfold bN.bf;rw[aJ hp,ζb,oU hp,kC,bg]
     .intro q;exact(aj _).2 (.inl ⟨⟨hq,λi hi=>q i (by rw[hq];exact hi)⟩,by rw[bK p (by omega)]⟩)
     .intro q;exact(aj _).2 (.inr ⟨λk=>q λi hi=>k.2 i (by rw[<-hq];exact hi),rfl⟩)
    .rw[show (len s.j.l[p]==len t.procs.l[p].events)=false from by rw[beq_eq_false_iff_ne];simp only[len];rw[oU hp,ta hp2]at hq;omega,bg]
     exact(aj _).2 (.inr ⟨λk=>hq k.1,rfl⟩)
   .intro _;unfold bN.aA;rw[kC,bg]
   .intro q;have hsh:uT t A s:=⟨hh,λp hp=>(q p (by rw[hh.2];exact hp)).1⟩
    have hri:∀p,p<t.procs.l.length->∀i,i<nV t p->lp t A s p i:=λp hp=>(q p (by rw[hh.2];exact hp)).2
    unfold bN.W3;refine(mL (n:=s.j.l.length) (P:=λp=>∀i:Nat,(i:Int)<nth s.last.l p->u9 s (el s p i)) ?_ ?_).iff ?_
    .intro p hp _;have hp2:p<t.procs.l.length:=by rw[<-hh.2];exact hp
     have hpl:p<s.last.l.length:=by rw[hl];exact hp2
     have hle:=kD hh.1.1.2 hp2;have hee:=hev p hp2;unfold bN.dG;rw[jw hp,aX];unfold bN.W4;refine BK (n:=nth s.last.l p) (P:=λi=>u9 s (el s p i)) (λi hi _=>?_) (λi hi=>?_) (λq=>?_) (λq=>?_)
     .unfold bN.sL;obtain⟨hie,hC⟩:=zQ hsh hri hp2 hi;obtain⟨r,d,g1,g2,g3,g4⟩:=vR (s:=s) (p:=p) (i:=i) hp (by rw[hsh.2 p hp2];exact hie) hL
      rw[aJ hpl,ζb,<-jB hpl,decide_eq_true hi,aX,g1,ζb,g2,ζb];rw[<-g3]at hC;refine sV ?_ (bK i (by omega))
      rw[<-g3];refine Cg hL g4 (λk hk=>?_) (λk hk=>?_)
      .have hk':k<t.procs.l.length:=by rw[<-hC.1.1];exact hk
       have:=kD hC hk';have:=hev k hk';omega
      .have hk':k<t.procs.l.length:=by rw[<-hC.1.1];exact hk
       have:=kD hC hk';exact⟨by rw[hh.2];exact hk',λi hi=>by rw[hsh.2 k hk'];omega⟩
     .unfold bN.sL;rw[aJ hpl,ζb,<-jB hpl,decide_eq_false (by omega),bg]
     .exact(aj _).2 (.inl ⟨q,by rw[bK p (by omega)]⟩)
     .exact(aj _).2 (.inr ⟨q,rfl⟩)
    .intro _;unfold bN.dG;rw[kC,bg]
    .rw[hval,hh.2];exact⟨λk=>⟨⟨hsh,hri⟩,k⟩,λk=>k.2⟩
   .intro q;refine(aj _).2 ⟨λe=>(nomatch e),λk=>absurd (λp hp=>?_) q⟩
    have hp2:p<t.procs.l.length:=by rw[<-hh.2];exact hp
    exact⟨(hval.1 k).1.1.2 p hp2,(hval.1 k).1.2 p hp2⟩
end
end Go.VE
namespace Go.VE
theorem Co {s:Sl (Sl (Sl Int))} {p:Sl (Sl Int)->Option Bool} {f:Sl (Sl Int)->Bool} (hp:∀x∈s.l,p x=some (f x)) (hl:s.l.length<1073741824):gG s p=some (s.l.any f):=by
 have h:dU s p=some (place f s.l):=oO hp (by omega) (λi=>rfl)
 unfold gG;rw[h,ζb,oP]
theorem On {t:Trace} (hS:Small t) (m:Int):∃b,gP t m=some b:=by
 refine BA.get ?_;unfold gP gP.W1;refine nZ t.procs.l.length (λi q=>q.2=(i:Int)) rfl ?_ ?_
 .rintro n ⟨c,_⟩ hlt e;simp only at e;subst e;have h1:=hS.1;unfold gP.aA;rw[jw hlt,aX,aJ hlt,ζb,gE,ζb,gE,ζb];rw[vW (f:=λz=>(oc z).getD false) (λz _=>BA.ok ((aj _).2 trivial)) (hS.2 _ (List.getElem_mem hlt)).1]
  rw[yq (f:=λz=>(oe z).getD false) (λz _=>BA.ok ((aj _).2 trivial)) (hS.2 _ (List.getElem_mem hlt)).2.1]
  simp only[ζb,gE];rw[br];exact⟨λ_=>(aj _).2 ((aj _).2 trivial),λ_=>(aj _).2 (bK n (by omega))⟩
 .rintro⟨c,_⟩ e;simp only at e;subst e;unfold gP.aA;rw[kC,bg,aj];exact(aj _).2 trivial
structure Mh (s:Slice):Prop where
 j:s.j.l.length<1073741824
 r:∀r∈s.j.l,r.l.length<1073741824
theorem KO {s:Slice} (hF:Mh s):∃b,pI s=some b/\(b=true->mg s):=by
 have hsh:∀r∈s.j.l,∃b,pR r=some b/\(b=true->r.l.length<=60/\∀c∈r.l,c.l.length<=60):=by
  intro r hr;unfold pR;rw[wT (p:=λz=>lZ z) (f:=λc=>decide ((len c)>12)) (λx _=>rfl) (hF.r r hr),ζb]
  simp only[ji,ζb];refine⟨_,rfl,λh=>?_⟩
  simp only[ζh,decide_eq_true_eq,Bool.not_eq_true',List.any_eq_false,len]at h;refine⟨by omega,λc hc=>?_⟩
  have:=h.2 c hc;have:=h.2 c hc;omega
 have hd:∀r∈s.j.l,gR r=some ((gR r).getD false):=λr hr=>by
  obtain⟨b,hb,_⟩:=hsh r hr;unfold gR;rw[hb];rfl
 unfold pI;rw[Co hd hF.j,ζb];simp only[ji,ζb];refine⟨_,rfl,λh=>?_⟩
 simp only[ζh,decide_eq_true_eq,Bool.not_eq_true',List.any_eq_false,len]at h;refine⟨by omega,by omega,by omega,λr hr=>?_⟩
 obtain⟨b,hb,h2⟩:=hsh r hr;have h3:=h.2 r hr;unfold gR at h3;rw[hb]at h3;refine h2 ?_
 cases b with
 | true=>rfl
 | false=>exact absurd rfl h3
section
variable {t:Trace} {s:Slice}
theorem GR (hv:dw t=some false):j_ t s=some false:=by unfold j_;rw[hv];rfl
theorem Hv (hv:gT t=some false):bN t s=some false:=by unfold bN;rw[hv];rfl
end
end Go.VE
namespace Go.VE
section
variable {t:Trace} {A:bh 200 aK} {s:Slice}
def tu (x y:Int):Int:=if y>x then y else x
def kW (a b:List Int):List Int:=List.zipWith tu a b
def tG (s:Slice) (c:List Int) (p:Nat):List Int:=kW c (el s p (nth c p).toNat)
inductive pq (n:Nat) (s:Slice):List Int->Prop
 | first:pq n s s.first.l
 | step (c:List Int) (p:Nat) (h:pq n s c) (hp:p<n) (hl:nth c p<nth s.last.l p):pq n s (tG s c p)
def nH (c:List Int):List Int:=c.sum::c
theorem oT {a b:List Int} (h:a.length=b.length):(kW a b).length=a.length:=by unfold kW;simp[h]
theorem mK {a b:List Int} (p:Nat):(kW a b)[p]? = match a[p]?,b[p]? with|some x,some y=>some (tu x y)|_,_=>none:=by
 unfold kW;rw[List.getElem?_zipWith];cases a[p]? <;> cases b[p]? <;> rfl
theorem sU (x y:Int):x<=tu x y/\y<=tu x y/\(tu x y=x\/tu x y=y):=by unfold tu;split <;> omega
theorem Nc:∀{a b:List Int},a.length=b.length->(∀(p:Nat) (x y:Int),a[p]? = some x->b[p]? = some y->x<=y)->a.sum<=b.sum
 | [],[],_,_=>Int.le_refl _
 | x::a,y::b,hl,h=>by
  have h0:=h 0 x y rfl rfl;have:=Nc (a:=a) (b:=b) (by simpa using hl) λp u v hu hv=>h (p+1) u v (by simpa using hu) (by simpa using hv)
  simp only[List.sum_cons];omega
theorem MG:∀{a b:List Int},a.length=b.length->(∀(p:Nat) (x y:Int),a[p]? = some x->b[p]? = some y->x<=y)->(∃(p:Nat) (x y:Int),a[p]? = some x/\b[p]? = some y/\x<y)->a.sum<b.sum
 | [],[],_,_,⟨p,x,y,h,_⟩=>by simp at h
 | x::a,y::b,hl,h,⟨p,u,v,hu,hv,huv⟩=>by
  have h0:=h 0 x y rfl rfl;have hs:=λp u v hu hv=>h (p+1) u v (by simpa using hu) (by simpa using hv)
  have h1:=Nc (a:=a) (b:=b) (by simpa using hl) hs
  simp only[List.sum_cons]
  cases p with
  | zero=>simp at hu hv;subst hu;subst hv;omega
  | succ p=>
   have:=MG (a:=a) (b:=b) (by simpa using hl) hs ⟨p,u,v,by simpa using hu,by simpa using hv,huv⟩
   omega
theorem HB {a b:List Int} (ha:Cons t A a) (hb:Cons t A b):Cons t A (kW a b):=by
 have hl:a.length=b.length:=ha.1.1.trans hb.1.1.symm;have hat:∀{p:Nat} {z:Int},(kW a b)[p]? = some z->∃x y,a[p]? = some x/\b[p]? = some y/\z=tu x y:=λ{p z} h=>by
  rw[mK]at h;split at h
  .rename_i x y hx hy;cases h;exact⟨x,y,hx,hy,rfl⟩
  .cases h
 refine⟨⟨(oT hl).trans ha.1.1,λp z P hz hP=>?_⟩,λp k e z he hz hk hkind=>?_⟩
 .obtain⟨x,y,hx,hy,rfl⟩:=hat hz;have h1:=ha.1.2 p x P hx hP;have h2:=hb.1.2 p y P hy hP;rcases (sU x y).2.2 with e|e <;> rw[e] <;> assumption
 .obtain⟨x,y,hx,hy,rfl⟩:=hat hz;rcases (sU x y).2.2 with e'|e' <;> rw[e']at hk
  .obtain⟨u,hu,hle⟩:=ha.2 p k e x he hx hk hkind;have hq:=(ζe.1 hu).1;have hv:=ζd (show (ag A e.message).from_.proc.toNat<b.length by omega)
   exact⟨tu u b[(ag A e.message).from_.proc.toNat],by rw[mK,hu,hv],Int.le_trans hle (sU _ _).1⟩
  .obtain⟨u,hu,hle⟩:=hb.2 p k e y he hy hk hkind;have hq:=(ζe.1 hu).1;have hv:=ζd (show (ag A e.message).from_.proc.toNat<a.length by omega)
   exact⟨tu a[(ag A e.message).from_.proc.toNat] u,by rw[mK,hu,hv],Int.le_trans hle (sU _ _).2.1⟩
theorem Gz (hE:qL t A s) {p i:Nat} (hp:p<t.procs.l.length) (hi:(i:Int)<nth s.last.l p):Cons t A (el s p i)/\(i:Int)<nth (el s p i) p/\mG (el s p i) s.last.l:=by
 obtain⟨⟨⟨⟨⟨h1,h2⟩,h3⟩,h4⟩,h5⟩,h6⟩:=hE.1;have k2:=kD h2 hp;rcases h6 p hp i (by omega)with k|⟨_,k|k⟩
 .omega
 .rw[k.2];exact⟨h1,k.1,h3⟩
 .exact⟨k.2.1,k.2.2.1,k.2.2.2.2⟩
theorem JE (hE:qL t A s) {c:List Int} (hC:Cons t A c) (hL:mG c s.last.l) {p:Nat} (hp:p<t.procs.l.length) (hl:nth c p<nth s.last.l p) :
 (Cons t A (tG s c p)/\mG (tG s c p) s.last.l)/\c.sum<(tG s c p).sum:=by
 have h0:=kD hC hp;have hi:(((nth c p).toNat:Nat):Int)=nth c p:=by omega
 obtain⟨e1,e2,e3⟩:=Gz hE hp (i:=(nth c p).toNat) (by omega)
 have hlen:c.length=(el s p (nth c p).toNat).length:=hC.1.1.trans e1.1.1.symm;have hJ:=HB hC e1;refine⟨⟨hJ,⟨(oT hlen).trans hL.1,λq z w hz hw=>?_⟩⟩,?_⟩
 .unfold tG at hz;rw[mK]at hz;split at hz
  .rename_i x y hx hy;cases hz;have k1:=hL.2 q x w hx hw;have k2:=e3.2 q y w hy hw;rcases (sU x y).2.2 with e|e <;> rw[e] <;> assumption
  .cases hz
 .unfold tG;refine MG (oT hlen).symm (λq x z hx hz=>?_) ?_
  .rw[mK,hx]at hz;split at hz
   .rename_i x' y hx' hy;cases hx';cases hz;exact(sU _ _).1
   .cases hz
  .have hpc:p<c.length:=by rw[hC.1.1];exact hp
   have hpe:p<(el s p (nth c p).toNat).length:=by omega
   rw[jB hpe]at e2;have hv:nth c p=c[p]:=jB hpc;refine⟨p,c[p],tu c[p] ((el s p (nth c p).toNat)[p]),ζd hpc,by rw[mK,ζd hpc,ζd hpe],?_⟩
   have:=(sU c[p] ((el s p (nth c p).toNat)[p])).2.1;omega
theorem ov (hE:qL t A s) {c:List Int} (h:pq t.procs.l.length s c):Cons t A c/\mG c s.last.l:=by
 induction h with
 | first=>exact⟨hE.1.1.1.1.1.1,hE.1.1.1.1.2⟩
 | step c p h hp hl ih=>exact(JE hE ih.1 ih.2 hp hl).1
theorem De {n:Nat} {l:List (List Int)} (h0:s.first.l∈l) (h:∀c∈l,∀p,p<n->nth c p<nth s.last.l p->tG s c p∈l) {c:List Int} (hc:pq n s c):c∈l:=by
 induction hc with
 | first=>exact h0
 | step c p _ hp hl ih=>exact h c ih p hp hl
theorem LU {a b:Sl Int} (hl:a.l.length=b.l.length) (h60:a.l.length<1073741824):∃r,fD a b=some r/\r.l=kW a.l b.l:=by
 have key:Wp (fD a b) λr=>r.l=kW a.l b.l:=by
  unfold fD fD.W1;refine nZ a.l.length (λi (q:Sl Int×Int)=>q.2=(i:Int)/\q.1.l=(kW a.l b.l).take i) ⟨rfl,rfl⟩ ?_ ?_
  .rintro i ⟨o,_⟩ hi ⟨e,h1⟩;simp only at e h1;subst e;have hib:i<b.l.length:=by omega
   unfold fD.aA;rw[jw hi,aX,aJ hi,ζb,aJ hib,ζb];have hol:o.l.length<=i:=by rw[h1];simp;omega
   obtain⟨r,hr,hrl⟩:=xX (s:=o) (x:=tu a.l[i] b.l[i]) (by omega)
   have hr':jC o ((if b.l[i]>a.l[i]then b.l[i]else a.l[i]):Int)=some r:=hr;rw[hr',ζb,aj];refine⟨bK i (by omega),?_⟩
   show r.l=_;have hj:i<(kW a.l b.l).length:=by rw[oT hl];exact hi
   have hg:(kW a.l b.l)[i]? = some (tu a.l[i] b.l[i]):=by rw[mK,ζd hi,ζd hib]
   rw[hrl,h1,List.take_succ,hg];rfl
  .rintro⟨o,_⟩ ⟨e,h1⟩;simp only at e h1;subst e;unfold fD.aA;rw[kC,bg,aj];refine(aj _).2 ?_;rw[h1,<-oT hl,List.take_length]
 obtain⟨r,hr,h⟩:=key;exact⟨r,hr,h⟩
theorem Kz {a b:Sl Int} (hl:a.l.length=b.l.length) (h60:a.l.length<1073741824):∃r,p_ a b=some r/\r.l=kW a.l b.l:=by
 have key:Wp (p_ a b) λr=>r.l=kW a.l b.l:=by
  unfold p_ fE;have hmk:tj (len a) (0:Int)=some (Sl.row (List.replicate a.l.length 0)):=by
   unfold tj;rw[if_pos ⟨by simp[len],by simp[len];omega⟩];simp[len]
  rw[hmk,ζb,fW];unfold fE.W1;refine nZ a.l.length (λi (q:Sl Int×Int)=>q.2=(i:Int)/\q.1.l.length=a.l.length/\∀p,p<i->q.1.l[p]? = (kW a.l b.l)[p]?) ⟨rfl,by simp[Sl.l],λp hp=>absurd hp (by omega)⟩ ?_ ?_
  .rintro i ⟨o,_⟩ hi ⟨e,h1,h2⟩;simp only at e h1 h2;subst e;have hib:i<b.l.length:=by omega
   unfold fE.aA;have hp:n_ a.l[i] b.l[i]=some (tu a.l[i] b.l[i]):=rfl;rw[jw hi,aX,aJ hi,ζb,aJ hib,ζb];dsimp only;rw[hp,ζb,AH (show i<o.l.length by omega),ζb]
   obtain⟨r,hr,hrl⟩:=put_eq (s:=o) (p:=i) (x:=tu a.l[i] b.l[i]) (by omega)
   rw[hr,ζb,aj];refine⟨bK i (by omega),by rw[hrl];simpa using h1,λp hp=>?_⟩
   show r.l[p]? = _;rw[hrl]
   by_cases e:p=i
   .subst e;rw[List.getElem?_set_self (by omega),mK,ζd hi,ζd hib]
   .rw[List.getElem?_set_ne (λh=>e h.symm)]
    exact h2 p (by omega)
  .rintro⟨o,_⟩ ⟨e,h1,h2⟩;simp only at e h1 h2;subst e;unfold fE.aA;rw[kC,bg,aj];refine(aj _).2 ((aj _).2 ?_);refine List.ext_getElem? λp=>?_
   by_cases hp:p<a.l.length
   .exact h2 p hp
   .rw[List.getElem?_eq_none (show o.l.length<=p by omega),List.getElem?_eq_none (by rw[oT hl];omega)]
 obtain⟨r,hr,h⟩:=key;exact⟨r,hr,h⟩
end
end Go.VE
namespace Go.VE
def zW (c:List Int):Prop:=c.length<=8/\∀x∈c,0<=x/\x<1073741824
theorem zw {c:List Int} (h:zW c) (i:Nat):0<=(c.take i).sum/\(c.take i).sum<=8589934592:=by
 have key:∀(l:List Int),(∀x∈l,0<=x/\x<1073741824)->0<=l.sum/\l.sum<=1073741824*(l.length:Int):=by
  intro l
  induction l with
  | nil=>intro _;simp
  | cons x l ih=>
   intro h;have h1:=h x (by simp)
   have h2:=ih λy hy=>h y (List.mem_cons_of_mem _ hy)
   simp only[List.sum_cons,List.length_cons];omega
 have h1:=key (c.take i) λx hx=>h.2 x (List.mem_of_mem_take hx)
 have h2:(c.take i).length<=8:=by rw[List.length_take];have:=h.1;omega
 omega
theorem qC {c:List Int} {i:Nat} (hi:i<c.length):(c.take (i+1)).sum=(c.take i).sum+c[i]:=by
 rw[List.take_succ_eq_append_getElem hi,List.sum_append];simp
theorem size_eq {c:Sl Int} (h:zW c.l):gp c=some c.l.sum:=by
 refine Wp.eq ?_;have h8:=h.1;unfold gp gp.W1;refine nZ c.l.length (λi (q:Int×Int)=>q.2=(i:Int)/\q.1=(c.l.take i).sum) ⟨rfl,rfl⟩ ?_ ?_
 .rintro i ⟨m,_⟩ hi ⟨e,h1⟩;simp only at e h1;subst e;subst h1;unfold gp.aA;rw[jw hi,aX,aJ hi,ζb,aj];have k:=zw h (i+1);rw[qC hi]at k;exact⟨bK i (by omega),by rw[qC hi];exact kM _ (by omega) (by omega)⟩
 .rintro⟨m,_⟩ ⟨e,h1⟩;simp only at e h1;subst e;subst h1;unfold gp.aA;rw[kC,bg,aj];exact(aj _).2 (by rw[List.take_length])
theorem Jg {a b:List Int} {i:Nat} (ha:i<a.length) (hb:i<b.length):dH (a.drop i) (b.drop i)=if a[i]<b[i]then -1 else if a[i]>b[i]then 1 else dH (a.drop (i+1)) (b.drop (i+1)):=by
 rw[List.drop_eq_getElem_cons ha,List.drop_eq_getElem_cons hb];rfl
theorem Vw {a b:Sl Int} (hl:a.l.length=b.l.length) (h8:a.l.length<=8):cE.W2 a b 0=some (decide (dH a.l b.l<0)):=by
 refine Wp.eq ?_;unfold cE.W2;refine nZ a.l.length (λi (q:Int)=>q=(i:Int)/\dH (a.l.drop i) (b.l.drop i)=dH a.l b.l) ⟨rfl,rfl⟩ ?_ ?_
 .rintro i _ hi ⟨rfl,h⟩;have hib:i<b.l.length:=by omega
  unfold cE.bf;rw[jw hi,aX,aJ hi,ζb,aJ hib,ζb];rw[Jg hi hib]at h
  by_cases e:a.l[i]=b.l[i]
  .rw[show (a.l[i]==b.l[i])=true from by simpa using e,aX,aj]
   rw[if_neg (by omega),if_neg (by omega)]at h
   exact⟨bK i (by omega),h⟩
  .rw[show (a.l[i]==b.l[i])=false from by simpa using e,bg,ζb,ζb,aj]
   refine(aj _).2 ?_
   by_cases k:a.l[i]<b.l[i]
   .rw[if_pos k]at h;rw[<-h];simp[k]
   .rw[if_neg k,if_pos (by omega)]at h;rw[<-h];simp[k]
 .rintro _ ⟨rfl,h⟩;unfold cE.bf;rw[kC,bg,aj];refine(aj _).2 ?_;rw[List.drop_of_length_le (Nat.le_refl _),List.drop_of_length_le (by omega)]at h
  rw[<-h];rfl
theorem Iy {a b:Sl Int} (ha:zW a.l) (hb:zW b.l) (hl:a.l.length=b.l.length):cE a b=some (decide (dH (nH a.l) (nH b.l)<0)):=by
 refine Wp.eq ?_;have h8:=ha.1;unfold cE cE.W1;refine nZ a.l.length (λi (q:Int×Int×Int)=>q.2.2=(i:Int)/\q.1=(a.l.take i).sum/\q.2.1=(b.l.take i).sum) ⟨rfl,rfl,rfl⟩ ?_ ?_
 .rintro i ⟨m,n,_⟩ hi ⟨e,h1,h2⟩;simp only at e h1 h2;subst e;subst h1;subst h2;have hib:i<b.l.length:=by omega
  unfold cE.aA;rw[jw hi,aX,aJ hi,ζb,aJ hib,ζb,aj];have k:=zw ha (i+1);rw[qC hi]at k;have k2:=zw hb (i+1);rw[qC hib]at k2;exact⟨bK i (by omega),by rw[qC hi];exact kM _ (by omega) (by omega),by rw[qC hib];exact kM ((b.l.take i).sum+b.l[i]) (by omega) (by omega)⟩
 .rintro⟨m,n,_⟩ ⟨e,h1,h2⟩;simp only at e h1 h2;subst e;subst h1;subst h2;unfold cE.aA;rw[kC,bg,aj];show Wp (au ((a.l.take a.l.length).sum==(b.l.take a.l.length).sum) (cE.W2 a b 0) (some (decide ((a.l.take a.l.length).sum<(b.l.take a.l.length).sum)))) _;rw[List.take_length,show b.l.take a.l.length=b.l from by rw[hl,List.take_length]]
  by_cases e:a.l.sum=b.l.sum
  .rw[show (a.l.sum==b.l.sum)=true from by simpa using e,aX,Vw hl h8]
   refine(aj _).2 ?_;unfold nH;simp only[dH,if_neg (show ¬a.l.sum<b.l.sum by omega),if_neg (show ¬a.l.sum>b.l.sum by omega)]
  .rw[show (a.l.sum==b.l.sum)=false from by simpa using e,bg]
   refine(aj _).2 ?_;unfold nH
   by_cases k:a.l.sum<b.l.sum
   .simp[dH,k]
   .simp[dH,k,show a.l.sum>b.l.sum by omega]
end Go.VE
namespace Go.VE
theorem Fb (x y:Int):jP x y=some (if x<y then -1 else if x>y then 1 else 0):=by
 unfold jP nX;simp only[bne_self_eq_false,ζb,bg,aX]
 by_cases h1:x<y
 .simp[h1,au]
 .by_cases h2:x>y
  .simp[h1,h2,au]
  .simp[h1,h2,au]
theorem Es {a b:Sl Int} (hl:a.l.length<1073741824):cV a b=some (dH a.l b.l):=by
 refine Wp.eq ?_;unfold cV cV.W1;refine nZ a.l.length (λn s=>s=(n:Int)/\n<=b.l.length/\dH (a.l.drop n) (b.l.drop n)=dH a.l b.l) ⟨rfl,Nat.zero_le _,rfl⟩ ?_ ?_
 .rintro n _ hlt ⟨rfl,hnb,hI⟩;unfold cV.aA;rw[jw hlt,aX,aJ hlt,ζb];have hd:a.l.drop n=a.l[n]::a.l.drop (n+1):=List.drop_eq_getElem_cons hlt
  by_cases hb:n<b.l.length
  .have hdb:b.l.drop n=b.l[n]::b.l.drop (n+1):=List.drop_eq_getElem_cons hb;rw[show decide ((n:Int)>=len b)=false from by simp[len];omega,bg,aJ hb,ζb]
   rw[hd,hdb]at hI;simp only[dH]at hI;generalize a.l[n]=x at *;generalize b.l[n]=y at *;rw[Fb,ζb]
   by_cases h1:x<y
   .rw[if_pos h1]at hI ⊢;rw[show ((-1:Int)==0)=false from rfl,bg,aj];exact(aj _).2 hI
   .rw[if_neg h1]at hI ⊢
    by_cases h2:x>y
    .rw[if_pos h2]at hI ⊢;rw[show ((1:Int)==0)=false from rfl,bg,aj];exact(aj _).2 hI
    .rw[if_neg h2]at hI ⊢;rw[show ((0:Int)==0)=true from rfl,aX,aj];exact⟨bK n (by omega),hb,hI⟩
  .rw[show decide ((n:Int)>=len b)=true from by simp[len];omega,aX,aj]
   rw[hd,List.drop_eq_nil_of_le (show b.l.length<=n by omega)]at hI
   exact(aj _).2 hI
 .rintro _ ⟨rfl,hnb,hI⟩;unfold cV.aA;rw[kC,bg,aj];rw[List.drop_eq_nil_of_le (Nat.le_refl _)]at hI
  by_cases h:a.l.length<b.l.length
  .show Wp (au (decide (len a<len b)) _ _) _;rw[show decide (len a<len b)=true from by simp[len];omega,aX]
   rw[List.drop_eq_getElem_cons h]at hI;exact(aj _).2 hI
  .show Wp (au (decide (len a<len b)) _ _) _;rw[show decide (len a<len b)=false from by simp[len];omega,bg]
   rw[List.drop_eq_nil_of_le (show b.l.length<=a.l.length by omega)]at hI
   exact(aj _).2 hI
theorem S6 (x y:Int):gn (Sl.row [x,y]:Sl Int)=some (if x=0 then y else x):=by
 unfold gn gn.W1;have l2:len (Sl.row [x,y]:Sl Int)=2:=rfl;have s0:gn.aA 0 (Sl.row [x,y]) 2 0=au (x==0) (some (.n 1)) (some (.r x)):=rfl;have s1:gn.aA 0 (Sl.row [x,y]) 2 1=au (y==0) (some (.n 2)) (some (.r y)):=rfl;have s2:gn.aA 0 (Sl.row [x,y]) 2 2=some (.x ()):=rfl;rw[l2,dO,s0]
 by_cases h:x=0
 .subst h;rw[show ((0:Int)==0)=true from rfl,aX,ζb,if_pos rfl];show (aS _ 1).bind _=_;rw[dO,s1]
  by_cases k:y=0
  .subst k;rw[show ((0:Int)==0)=true from rfl,aX,ζb];show (aS _ 2).bind _=_;rw[dO,s2];rfl
  .rw[show (y==0)=false from by simpa using k,bg];rfl
 .rw[show (x==0)=false from by simpa using h,bg,if_neg h];rfl
theorem Ke {a b:Sl Int} (ha:zW a.l) (hb:zW b.l):jv a b=some (dH (nH a.l) (nH b.l)):=by
 have h8:=ha.1;unfold jv;rw[size_eq ha,ζb,size_eq hb,ζb,Fb,ζb,Es (by omega),ζb,S6,ζb]
 unfold nH;simp only[dH]
 by_cases h1:a.l.sum<b.l.sum
 .simp[h1]
 .by_cases h2:a.l.sum>b.l.sum
  .simp[h1,h2]
  .simp[h1,h2]
def iQ (x y:List Int):Prop:=dH (nH x) (nH y)<0
theorem iQ.ML (x:List Int):¬iQ x x:=by unfold iQ;rw[w8];omega
theorem iQ.tr {x y z:List Int} (h:iQ x y) (k:iQ y z):iQ x z:=xM _ _ _ h k
theorem iQ.tot {x y:List Int} (h:¬iQ x y) (k:¬iQ y x):x=y:=by
 have:=AX _ _ h k;unfold nH at this;exact(List.cons.inj this).2
theorem iQ.sum {x y:List Int} (h:x.sum<y.sum):iQ x y:=by unfold iQ nH;simp[dH,h]
theorem zG:∀{l r:List (List Int)},l.Pairwise iQ->r.Pairwise iQ->(∀x,x∈l↔x∈r)->l=r
 | [],[],_,_,_=>rfl
 | [],y::r,_,_,h=>by have:=(h y).2 (by simp);simp at this
 | x::l,[],_,_,h=>by have:=(h x).1 (by simp);simp at this
 | x::l,y::r,hl,hr,h=>by
  have e:x=y:=by
   rcases List.mem_cons.1 ((h x).1 (by simp))with e|e
   .exact e
   .rcases List.mem_cons.1 ((h y).2 (by simp))with k|k
    .exact k.symm
    .exact absurd (((List.pairwise_cons.1 hr).1 x e).tr ((List.pairwise_cons.1 hl).1 y k)) (iQ.ML y)
  subst e
  congr 1
  have hl':=List.pairwise_cons.1 hl;have hr':=List.pairwise_cons.1 hr;refine zG hl'.2 hr'.2 λz=>⟨λhz=>?_,λhz=>?_⟩
  .rcases List.mem_cons.1 ((h z).1 (List.mem_cons_of_mem _ hz))with e|e
   .exact absurd (e▸hl'.1 z hz) (iQ.ML x)
   .exact e
  .rcases List.mem_cons.1 ((h z).2 (List.mem_cons_of_mem _ hz))with e|e
   .exact absurd (e▸hr'.1 z hz) (iQ.ML x)
   .exact e
theorem LN {out:Sl (Sl Int)} {c:Sl Int} (hl:out.l.length<1073741824) (ho:∀x∈out.l,x.l.length<1073741824):bt (fq out c) (c.l∈ins out):=by
 unfold fq fq.W1;refine nZ out.l.length (λi (q:Int)=>q=(i:Int)/\∀j,j<i->∀x,out.l[j]? = some x->x.l≠c.l) ⟨rfl,λj hj=>absurd hj (by omega)⟩ ?_ ?_
 .rintro i _ hi ⟨rfl,h⟩;unfold fq.aA;rw[jw hi,aX,aJ hi,ζb];obtain⟨b,hb,hb2⟩:=bt.eq (HE (a:=out.l[i]) (b:=c) (ho _ (List.getElem_mem hi)));rw[hb,ζb]
  cases b with
  | true=>
   rw[aX,aj];refine(aj _).2 ⟨λ_=>sH.2 ⟨_,List.getElem_mem hi,hb2.1 rfl⟩,λ_=>rfl⟩
  | false=>
   rw[bg,aj];refine⟨bK i (by omega),λj hj x hx=>?_⟩
   by_cases e:j=i
   .subst e;rw[ζd hi]at hx;cases hx;exact λk=>absurd (hb2.2 k) (by simp)
   .exact h j (by omega) x hx
 .rintro _ ⟨rfl,h⟩;unfold fq.aA;rw[kC,bg,aj];refine(aj _).2 ⟨λh=>by simp at h,λhm=>?_⟩
  obtain⟨x,hx,e⟩:=sH.1 hm;obtain⟨j,hj,e2⟩:=List.mem_iff_getElem.1 hx;exact absurd e (h j hj x (by rw[ζd hj,e2]))
end Go.VE
namespace Go.VE
section
variable {t:Trace} {A:bh 200 aK} {s:Slice}
theorem D4 (hS:Small t) (hV:VT t) {c:List Int} (hC:Cons t A c):zW c:=by
 refine⟨hC.1.1▸hV.few,λx hx=>?_⟩
 obtain⟨p,hp,e⟩:=List.mem_iff_getElem.1 hx;have hp2:p<t.procs.l.length:=by rw[<-hC.1.1];exact hp
 have:=hC.1.2 p x _ (by rw[ζd hp,e]) (ζd hp2)
 have k:=(hS.2 _ (List.getElem_mem hp2)).1;omega
theorem kK (hE:qL t A s) {c:List Int} (h:pq t.procs.l.length s c):c.length=t.procs.l.length:=(ov hE h).1.1.1
theorem HZ (hE:qL t A s) {c:List Int} (h:pq t.procs.l.length s c) {p:Nat} (hp:p<t.procs.l.length) (hl:nth c p<nth s.last.l p):0<=nth c p/\p<s.j.l.length/\(nth c p).toNat<rL s p:=by
 obtain⟨⟨⟨⟨⟨h1,h2⟩,h3⟩,h4⟩,h5⟩,h6⟩:=hE.1;have k:=kD h2 hp;have k0:=kD (ov hE h).1 hp;have k5:=h5 p hp;exact⟨k0.1,by omega,by omega⟩
structure RI (n:Nat) (s:Slice) (L:List (List Int)) (i:Nat):Prop where
 srt:L.Pairwise iQ
 rch:∀c∈L,pq n s c
 fst:s.first.l∈L
 le:L.length<=300
 cl:∀(j:Nat) c,j<i->L[j]? = some c->∀p,p<n->nth c p<nth s.last.l p->tG s c p∈L
theorem RI.put {n:Nat} {L:List (List Int)} {i j:Nat} {ci c:List Int} (h:RI n s L i) (hi:L[i]? = some ci) (hc:c∉L) (hr:pq n s c) (hij:i<j) (hj:j<=L.length) (h1:∀x,L[j-1]? = some x->¬iQ c x) (h2:∀(m:Nat) x,j<=m->L[m]? = some x->iQ c x) (hl:L.length<300) :
 RI n s (L.take j++[c]++L.drop j) i/\(L.take j++[c]++L.drop j)[i]? = some ci/\∀x,x∈L.take j++[c]++L.drop j↔x=c\/x∈L:=by
 have hm:∀x,x∈L.take j++[c]++L.drop j↔x=c\/x∈L:=λx=>by
  conv=>rhs;rw[<-List.take_append_drop j L]
  simp only[List.mem_append,List.mem_singleton];constructor
  .rintro ((h|h)|h) <;> simp[h]
  .rintro (h|h|h) <;> simp[h]
 have hat:∀k,k<j->(L.take j++[c]++L.drop j)[k]? = L[k]? := λk hk=>by
  rw[List.append_assoc,List.getElem?_append_left (by rw[List.length_take];omega),List.getElem?_take_of_lt hk]
 refine⟨⟨?_,λx hx=>?_,(hm _).2 (.inr h.fst),by simp;omega,λk x hk hx p hp hlt=>(hm _).2 (.inr (h.cl k x hk (by rw[<-hat k (by omega)];exact hx) p hp hlt))⟩,by rw[hat i hij];exact hi,hm⟩
 .have hb:j-1<L.length:=by omega
  have hlt1:iQ L[j-1] c:=by
   have k1:=h1 _ (ζd hb)
   by_cases k:iQ L[j-1] c
   .exact k
   .exact absurd (iQ.tot k k1▸List.getElem_mem hb) hc
  have hpre:∀x∈L.take j,iQ x c:=λx hx=>by
   obtain⟨k,hk,e⟩:=List.mem_iff_getElem.1 hx;rw[List.length_take]at hk;rw[List.getElem_take]at e
   by_cases e2:k=j-1
   .subst e2;rw[<-e];exact hlt1
   .rw[<-e];exact(List.pairwise_iff_getElem.1 h.srt k (j-1) (by omega) hb (by omega)).tr hlt1
  have hpost:∀x∈L.drop j,iQ c x:=λx hx=>by
   obtain⟨k,hk,e⟩:=List.mem_iff_getElem.1 hx;rw[List.length_drop]at hk;rw[List.getElem_drop]at e;exact h2 (j+k) x (by omega) (by rw[ζd (by omega),e])
  refine List.pairwise_append.2 ⟨List.pairwise_append.2 ⟨h.srt.sublist (List.take_sublist _ _),List.pairwise_singleton _ _,λx hx y hy=>?_⟩,h.srt.sublist (List.drop_sublist _ _),λx hx y hy=>?_⟩
  .rw[List.mem_singleton.1 hy];exact hpre x hx
  .rcases List.mem_append.1 hx with hx|hx
   .exact(hpre x hx).tr (hpost y hy)
   .rw[List.mem_singleton.1 hx];exact hpost y hy
 .rcases (hm x).1 hx with e|e
  .rw[e];exact hr
  .exact h.rch x e
def HY (n:Nat) (s:Slice) (r:List (List Int)):Prop:=r.Pairwise iQ/\(∀c,c∈r↔pq n s c)/\r.length<=300
theorem LZ (hS:Small t) (hV:VT t) (hE:qL t A s) (hL:mg s) (he:s.empty=false):Wp (dg s 300) λr=>r.2=true->HY t.procs.l.length s (ins r.1):=by
 have h8:=hV.few;have hjl:s.j.l.length=t.procs.l.length:=hE.1.1.1.2;have sm:∀{c:List Int},pq t.procs.l.length s c->zW c:=λh=>D4 hS hV (ov hE h).1
 unfold dg;rw[he,bg];unfold dg.W1;refine c8 (λq=>∃i:Nat,q.2=(i:Int)/\i<=(ins q.1).length/\RI t.procs.l.length s (ins q.1) i) (λq=>301-q.2.toNat) ⟨0,rfl,Nat.zero_le _,⟨by simp[ins,Sl.l],λc hc=>by simp[ins,Sl.l]at hc;rw[hc];exact .first,by simp[ins,Sl.l],by simp[ins,Sl.l],λj c h=>absurd h (by omega)⟩⟩ ?_
 rintro⟨out,_⟩ ⟨i,e,hi,hI⟩;simp only at e hi hI;subst e;have hil:(ins out).length=out.l.length:=by unfold ins;simp
 unfold dg.aA
 by_cases hlt:i<out.l.length
 .rw[jw hlt,aX];unfold dg.W2;have hci:(ins out)[i]? = some out.l[i].l:=by unfold ins;rw[List.getElem?_map,ζd hlt];rfl
  have hRi:pq t.procs.l.length s out.l[i].l:=hI.rch _ (List.mem_of_getElem? hci);generalize out.l[i].l=ci at *;refine nZ t.procs.l.length (λp q=>q.2=(p:Int)/\RI t.procs.l.length s (ins q.1) i/\(ins q.1)[i]? = some ci/\∀p',p'<p->nth ci p'<nth s.last.l p'->tG s ci p'∈ins q.1) ⟨rfl,hI,hci,λp h=>absurd h (by omega)⟩ ?_ ?_
  .rintro p ⟨o2,_⟩ hp ⟨e,g1,g2,g3⟩;simp only at e g1 g2 g3;subst e;have hil2:(ins o2).length=o2.l.length:=by unfold ins;simp
   have hlt2:i<o2.l.length:=by rw[<-hil2];exact(ζe.1 g2).1
   obtain⟨oi,hoi,eoi⟩:∃oi,o2.l[i]? = some oi/\oi.l=ci:=by
    unfold ins at g2;rw[List.getElem?_map,ζd hlt2]at g2;exact⟨_,ζd hlt2,by simpa using g2⟩
   have hget:Sl.get o2 i=some oi:=hoi;have hcl:=kK hE hRi;have hpo:p<oi.l.length:=by rw[eoi,hcl];exact hp
   have hpl:p<s.last.l.length:=by
    have:=hE.1.1.1.1.1.2.1.1;omega
   have hv:oi.l[p]=nth ci p:=by rw[<-eoi,jB hpo]
   have hvl:s.last.l[p]=nth s.last.l p:=(jB hpl).symm;unfold dg.bf;rw[show decide ((p:Int)<len s.j)=true from jw (by omega),aX,AH hlt2,ζb,hget,ζb,aJ hpo,ζb,aJ hpl,ζb,hv,hvl]
   by_cases hge:nth ci p>=nth s.last.l p
   .rw[decide_eq_true hge,aX,aj];refine⟨bK p (by omega),g1,g2,λp' hp' hn=>?_⟩
    by_cases e:p'=p
    .subst e;omega
    .exact g3 p' (by omega) hn
   .rw[decide_eq_false hge,bg];simp only[AH hlt2,hget,ζb,aJ hpo];obtain⟨e0,e1,e2⟩:=HZ hE hRi hp (by omega)
    obtain⟨r,c,hr,hc,hcl2,_⟩:=vR e1 e2 hL;rw[show ((nth ci p).toNat:Int)=nth ci p by omega]at hc
    rw[hr,ζb,hv,hc,ζb];have hell:(el s p (nth ci p).toNat).length=t.procs.l.length:=(Gz hE hp (i:=(nth ci p).toNat) (by omega)).1.1.1
    obtain⟨z,hz,hzl⟩:=LU (a:=oi) (b:=c) (by rw[eoi,hcl2,hcl,hell]) (by rw[eoi,hcl];omega)
    rw[hz,ζb];have hzs:z.l=tG s ci p:=by rw[hzl,eoi,hcl2];rfl
    have hRz:pq t.procs.l.length s z.l:=by rw[hzs];exact .step ci p hRi hp (by omega)
    have hle2:=g1.le;obtain⟨b,hb,hb2⟩:=bt.eq (LN (out:=o2) (c:=z) (by omega) (λx hx=>by
     have:=kK hE (g1.rch _ (sH.2 ⟨x,hx,rfl⟩));omega))
    rw[hb,ζb]
    cases b with
    | true=>
     rw[aX,aj];refine⟨bK p (by omega),g1,g2,λp' hp' hn=>?_⟩
     by_cases e:p'=p
     .subst e;rw[<-hzs];exact hb2.1 rfl
     .exact g3 p' (by omega) hn
    | false=>
     rw[bg]
     by_cases h300:o2.l.length=300
     .rw[show (len o2==300)=true from by simp[len,h300],aX,aj]
      refine(aj _).2 ((aj _).2 λh=>?_)
      cases h
     .rw[show (len o2==300)=false from by simp[len];omega,bg]
      have hzn:z.l∉ins o2:=λh=>absurd (hb2.2 h) (by simp)
      have hsum:ci.sum<z.l.sum:=by
       rw[hzs];exact(JE hE (ov hE hRi).1 (ov hE hRi).2 hp (by omega)).2
      unfold dg.W3;refine c8 (λq=>∃j:Nat,q=(j:Int)/\i<j/\j<=o2.l.length/\∀(m:Nat) x,j<=m->(ins o2)[m]? = some x->iQ z.l x) (λq=>q.toNat) ⟨o2.l.length,rfl,hlt2,Nat.le_refl _,λm x hm hx=>by
       have:=(ζe.1 hx).1;omega⟩ ?_
      rintro _ ⟨j,rfl,hij,hjl2,hjm⟩;unfold dg.dG;have hw:IntKind.wrap .i64 ((j:Int)-1)=((j-1:Nat):Int):=by rw[kM _ (by omega) (by omega)];omega
      have hj1:j-1<o2.l.length:=by omega
      have hat:(ins o2)[j-1]? = some o2.l[j-1].l:=by unfold ins;rw[List.getElem?_map,ζd hj1];rfl
      have hRx:=g1.rch _ (List.mem_of_getElem? hat);rw[hw,aJ hj1,ζb,Iy (sm hRz) (sm hRx) (by rw[kK hE hRz,kK hE hRx]),ζb]
      by_cases hlc:iQ z.l o2.l[j-1].l
      .rw[show decide (dH (nH z.l) (nH o2.l[j-1].l)<0)=true from decide_eq_true hlc,aX,aj];have hne:j-1≠i:=λe=>by
        have h7:∀k,k=i->(ins o2)[k]? = some ci:=λk e=>e▸g2
        rw[h7 _ e]at hat;rw[<-Option.some.inj hat]at hlc;exact iQ.ML _ (hlc.tr (iQ.sum hsum))
       refine⟨⟨j-1,rfl,by omega,by omega,λm x hm hx=>?_⟩,by show ((j-1:Nat):Int).toNat<(j:Int).toNat;omega⟩
       by_cases e:m=j-1
       .subst e;rw[hat]at hx;cases hx;exact hlc
       .exact hjm m x (by omega) hx
      .rw[show decide (dH (nH z.l) (nH o2.l[j-1].l)<0)=false from decide_eq_false hlc,bg,aj];show Wp _ _;obtain⟨x1,y1,z1⟩:=ri o2 j hjl2;obtain⟨x2,y2,z2⟩:=EW (s:=(Sl.row []:Sl (Sl Int))) (x:=x1) (by rw[z1];simp[Sl.l];omega)
       obtain⟨x3,y3,z3⟩:=xX (s:=x2) (x:=z) (by rw[z2,z1];simp[Sl.l];omega)
       obtain⟨x4,y4,z4⟩:=EH o2 j hjl2;obtain⟨x5,y5,z5⟩:=EW (s:=x3) (x:=x4) (by rw[z3,z2,z1,z4];simp only[ζi,List.length_take,List.length_drop,List.length_singleton,show (Sl.row ([]:List (Sl Int))).l.length=0 from rfl];omega)
       rw[y1,ζb,y2,ζb,y3,ζb,y4,ζb,y5,ζb,aj];have hx5:ins x5=(ins o2).take j++[z.l]++(ins o2).drop j:=by
        unfold ins;rw[z5,z3,z2,z1,z4];simp[Sl.l,List.map_take,List.map_drop]
       obtain⟨k1,k2,k3⟩:=g1.put g2 hzn hRz hij (by omega) (λx hx=>by rw[hat]at hx;cases hx;exact hlc) hjm (by omega)
       refine⟨bK p (by omega),by rw[hx5];exact k1,by rw[hx5];exact k2,λp' hp' hn=>?_⟩
       show tG s ci p'∈ins x5;rw[hx5,k3]
       by_cases e:p'=p
       .subst e;exact .inl hzs.symm
       .exact .inr (g3 p' (by omega) hn)
  .rintro⟨o2,_⟩ ⟨e,g1,g2,g3⟩;simp only at e g1 g2 g3;subst e;have hil2:(ins o2).length=o2.l.length:=by unfold ins;simp
   have hlt2:i<(ins o2).length:=(ζe.1 g2).1;have hle3:=g1.le;unfold dg.bf;rw[show decide (((t.procs.l.length:Nat):Int)<len s.j)=false from decide_eq_false (by show ¬(_<(s.j.l.length:Int));omega),bg,aj]
   refine(aj _).2 ⟨⟨i+1,bK i (by omega),hlt2,⟨g1.srt,g1.rch,g1.fst,g1.le,λj c hj hc p hp hn=>?_⟩⟩,?_⟩
   .by_cases e:j=i
    .subst e;rw[g2]at hc;cases hc;exact g3 p hp hn
    .exact g1.cl j c (by omega) hc p hp hn
   .show 301-(IntKind.wrap .i64 ((i:Int)+1)).toNat<301-(i:Int).toNat;rw[bK i (by omega)]
    have:=g1.le;omega
 .rw[show decide ((i:Int)<len out)=false from decide_eq_false (by show ¬(_<(out.l.length:Int));omega),bg,aj]
  refine(aj _).2 λ_=>⟨hI.srt,λc=>⟨hI.rch c,λh=>?_⟩,hI.le⟩
  refine De hI.fst (λd hd p hp hn=>?_) h
  obtain⟨j,hj,e⟩:=List.mem_iff_getElem.1 hd;exact hI.cl j d (by omega) (by rw[ζd hj,e]) p hp hn
end
end Go.VE
namespace Go.VE
theorem Pu {a b:List Int} (h:a.length=b.length) (h8:a.length<=8) (e:pN 8 (.row a)=pN 8 (.row b)):a=b:=by
 have e2:rU 8 a=rU 8 b:=congrArg bh.l e;unfold rU at e2;rw[List.take_of_length_le h8,List.take_of_length_le (by omega)]at e2
 exact(List.append_inj e2 h).1
def sQ (L:List (List Int)):Mo (bh 8 Int) Bool:=L.map λc=>(pN 8 (.row c),true)
theorem Be {L:List (List Int)} {n:Nat} (hL:∀c∈L,c.length=n) (h8:n<=8) {c:List Int} (hc:c.length=n):pN 8 (.row c)∈(sQ L).map (·.1)↔c∈L:=by
 unfold sQ;rw[List.map_map,List.mem_map];constructor
 .rintro⟨d,hd,e⟩;have:=Pu (by rw[hL d hd,hc]) (by rw[hL d hd];exact h8) e
  rwa [<-this]
 .intro h;exact⟨c,h,rfl⟩
theorem OI {L:List (List Int)} {n:Nat} (hL:∀c∈L,c.length=n) (h8:n<=8) {c:List Int} (hc:c.length=n):uF (sQ L) (pN 8 (.row c)) false=decide (c∈L):=by
 unfold uF
 by_cases h:c∈L
 .obtain⟨v,hv,hm⟩:=wE ((Be hL h8 hc).2 h);rw[hv,decide_eq_true h];unfold sQ at hm;obtain⟨d,_,e⟩:=List.mem_map.1 hm;rw[<-(Prod.mk.inj e).2];rfl
 .rw[vN (λk=>h ((Be hL h8 hc).1 k)),decide_eq_false h];rfl
theorem Re {L:List (List Int)} {n:Nat} (hL:∀c∈L,c.length=n) (h8:n<=8) {c:List Int} (hc:c.length=n) (h:c∉L):kz (sQ L) (pN 8 (.row c)) true=sQ (L++[c]):=by
 rw[mC (λk=>h ((Be hL h8 hc).1 k))]
 unfold sQ;simp
theorem J2 {c:Sl Int} (hl:c.l.length<=1073741824) (h0:0<c.l.length):∃d,(kV c).bind Sl.whole=some d/\d.l=c.l:=by
 unfold kV;have key:((qt (Sl.row []:Sl Int) c).bind λx=>some x).bind Sl.whole=some (.row ([]++c.l)):=by
  unfold qt;rw[if_neg (λh=>by rw[h]at h0;simp at h0),if_pos (show (Sl.row ([]:List Int)).l.length+c.l.length<=2147483648 from show 0+c.l.length<=_ by omega)];rfl
 cases c with
 | nil=>simp[Sl.l]at h0
 | emp=>simp[Sl.l]at h0
 | part l=>exact⟨_,key,rfl⟩
 | row l=>exact⟨_,key,rfl⟩
section
variable {t:Trace} {A:bh 200 aK} {s:Slice}
structure PI (n:Nat) (s:Slice) (L:List (List Int)) (i:Nat):Prop where
 nd:L.Nodup
 rch:∀c∈L,pq n s c
 fst:s.first.l∈L
 cl:∀(j:Nat) c,j<i->L[j]? = some c->∀p,p<n->nth c p<nth s.last.l p->tG s c p∈L
theorem PI.add {n:Nat} {L:List (List Int)} {i:Nat} {c:List Int} (h:PI n s L i) (hc:c∉L) (hr:pq n s c) (hi:i<=L.length):PI n s (L++[c]) i:=by
 refine⟨List.nodup_append.2 ⟨h.nd,by simp,λa ha b hb e=>?_⟩,λx hx=>?_,List.mem_append_left _ h.fst,λj x hj hx p hp hn=>List.mem_append_left _ (h.cl j x hj ?_ p hp hn)⟩
 .rw[List.mem_singleton.1 hb]at e;exact hc (e▸ha)
 .rcases List.mem_append.1 hx with h2|h2
  .exact h.rch x h2
  .rw[List.mem_singleton.1 h2];exact hr
 .rw[List.getElem?_append_left (by omega)]at hx;exact hx
theorem QH (hS:Small t) (hV:VT t) (hE:qL t A s) (hL:mg s) (he:s.empty=false) {R:List (List Int)} (hR:HY t.procs.l.length s R):Wp (fm s) λr=>r.2=true/\ins r.1=R:=by
 have h8:=hV.few;have h1:=hV.ok.one;have hfl:s.first.l.length=t.procs.l.length:=hE.1.1.1.1.1.1.1.1
 have sm:∀{c:List Int},pq t.procs.l.length s c->zW c:=λh=>D4 hS hV (ov hE h).1
 have lenR:∀{L:List (List Int)} {i:Nat},PI t.procs.l.length s L i->L.length<=300:=λh=>Nat.le_trans (zk h.nd λx hx=>(hR.2.1 x).2 (h.rch x hx)) hR.2.2
 have lenL:∀{L:List (List Int)} {i:Nat},PI t.procs.l.length s L i->∀c∈L,c.length=t.procs.l.length:=λh c hc=>kK hE (h.rch c hc)
 unfold fm;rw[he,bg];obtain⟨f,hf,hfe⟩:=J2 (c:=s.first) (by omega) (by omega)
 rw[hf,ζb];unfold kg;rw[ζb];have hk0:kz ([]:Mo (bh 8 Int) Bool) (pN 8 s.first) true=sQ [s.first.l]:=rfl
 rw[hk0];unfold fm.W1;refine c8 (λq=>∃i:Nat,q.2.1=(i:Int)/\i<=(ins q.1).length/\PI t.procs.l.length s (ins q.1) i/\q.2.2=sQ (ins q.1)) (λq=>301-q.2.1.toNat) ⟨0,rfl,Nat.zero_le _,⟨by simp[ins,Sl.l],λc hc=>by simp[ins,Sl.l]at hc;subst hc;show pq _ _ f.l;rw[hfe];exact .first,by simp[ins,Sl.l];exact hfe.symm,λj c h=>absurd h (by omega)⟩,by show sQ [s.first.l]=sQ [f.l];rw[hfe]⟩ ?_
 rintro⟨out,_,_⟩ ⟨i,e,hi,hI,e2⟩;simp only at e hi hI e2;subst e;subst e2;have hil:(ins out).length=out.l.length:=by unfold ins;simp
 have hle:=lenR hI;unfold fm.aA
 by_cases hlt:i<out.l.length
 .rw[jw hlt,aX,show decide (len out>5000)=false from decide_eq_false (by show ¬((out.l.length:Int)>5000);omega),bg]
  have hci:(ins out)[i]? = some out.l[i].l:=by unfold ins;rw[List.getElem?_map,ζd hlt];rfl
  have hRi:pq t.procs.l.length s out.l[i].l:=hI.rch _ (List.mem_of_getElem? hci);have hget:Sl.get out i=some out.l[i]:=ζd hlt;rw[AH hlt,ζb,hget,ζb];generalize out.l[i]=oi at *;have hcl:=kK hE hRi;unfold fm.W2;refine nZ oi.l.length (λp q=>q.2.1=(p:Int)/\PI t.procs.l.length s (ins q.1) i/\(ins q.1)[i]? = some oi.l/\(∀p',p'<p->nth oi.l p'<nth s.last.l p'->tG s oi.l p'∈ins q.1)/\q.2.2=sQ (ins q.1)) ⟨rfl,hI,hci,λp h=>absurd h (by omega),rfl⟩ ?_ ?_
  .rintro p ⟨o2,_,_⟩ hp ⟨e,g1,g2,g3,e2⟩;simp only at e g1 g2 g3 e2;subst e;subst e2;have hle2:=lenR g1;have hil2:(ins o2).length=o2.l.length:=by unfold ins;simp
   have hlt2:i<(ins o2).length:=(ζe.1 g2).1;have hpn:p<t.procs.l.length:=by omega
   have hpl:p<s.last.l.length:=by have:=hE.1.1.1.1.1.2.1.1;omega
   have hv:oi.l[p]=nth oi.l p:=(jB hp).symm;have hvl:s.last.l[p]=nth s.last.l p:=(jB hpl).symm;have hle3:nth oi.l p<=nth s.last.l p:=(ov hE hRi).2.2 p _ _ (by rw[ζd hp,hv]) (by rw[ζd hpl,hvl])
   unfold fm.bf;rw[show decide ((p:Int)<len oi)=true from jw hp,aX,aJ hp,ζb,aJ hpl,ζb,hv,hvl]
   by_cases hge:nth oi.l p=nth s.last.l p
   .rw[show (nth oi.l p==nth s.last.l p)=true from by simpa using hge,aX,aj]
    refine⟨bK p (by omega),g1,g2,λp' hp' hn=>?_,rfl⟩
    by_cases e:p'=p
    .subst e;omega
    .exact g3 p' (by omega) hn
   .rw[show (nth oi.l p==nth s.last.l p)=false from by simpa using hge,bg,ζb]
    have hlt3:nth oi.l p<nth s.last.l p:=by omega
    obtain⟨e0,e1,e2⟩:=HZ hE hRi hpn hlt3;have hbd:=(sm hRi).2 _ (List.getElem_mem hp);rw[hv]at hbd;obtain⟨c,hc,hcl2,_⟩:=x_ (i:=(nth oi.l p).toNat) e1 e2 hL;rw[show IntKind.wrap .i64 (nth oi.l p+1)=(((nth oi.l p).toNat+1:Nat):Int)from by rw[kM _ (by omega) (by omega)];omega,hc,ζb]
    have hell:(el s p (nth oi.l p).toNat).length=t.procs.l.length:=(Gz hE hpn (i:=(nth oi.l p).toNat) (by omega)).1.1.1
    obtain⟨z,hz,hzl⟩:=Kz (a:=oi) (b:=c) (by rw[hcl2,hcl,hell]) (by omega)
    rw[hz,ζb];have hzs:z.l=tG s oi.l p:=by rw[hzl,hcl2];rfl
    have hRz:pq t.procs.l.length s z.l:=by rw[hzs];exact .step oi.l p hRi hpn hlt3
    have hzn:=kK hE hRz;unfold kg;rw[ζb];have hg:uF (sQ (ins o2)) (pN 8 z) false=decide (z.l∈ins o2):=OI (lenL g1) h8 hzn;rw[hg]
    by_cases hm:z.l∈ins o2
    .rw[decide_eq_true hm,aX,aj];refine⟨bK p (by omega),g1,g2,λp' hp' hn=>?_,rfl⟩
     by_cases e:p'=p
     .subst e;rw[<-hzs];exact hm
     .exact g3 p' (by omega) hn
    .rw[decide_eq_false hm,bg,ζb];obtain⟨o3,ho3,hol3⟩:=xX (s:=o2) (x:=z) (by omega)
     rw[ho3,ζb,aj];have hp3:kz (sQ (ins o2)) (pN 8 z) true=sQ (ins o2++[z.l]):=Re (lenL g1) h8 hzn hm;have ho4:ins o3=ins o2++[z.l]:=by unfold ins;rw[hol3];simp
     refine⟨bK p (by omega),by rw[ho4];exact g1.add hm hRz (by omega),by rw[ho4,List.getElem?_append_left hlt2];exact g2,λp' hp' hn=>?_,by rw[ho4];exact hp3⟩
     show tG s oi.l p'∈ins o3;rw[ho4,List.mem_append]
     by_cases e:p'=p
     .subst e;exact .inr (by rw[hzs];simp)
     .exact .inl (g3 p' (by omega) hn)
  .rintro⟨o2,_,_⟩ ⟨e,g1,g2,g3,e2⟩;simp only at e g1 g2 g3 e2;subst e;subst e2;have hle2:=lenR g1;have hlt2:i<(ins o2).length:=(ζe.1 g2).1;unfold fm.bf;rw[show decide (((oi.l.length:Nat):Int)<len oi)=false from kC,bg,aj];refine(aj _).2 ⟨⟨i+1,bK i (by omega),hlt2,⟨g1.nd,g1.rch,g1.fst,λj c hj hc p hp hn=>?_⟩,rfl⟩,?_⟩
   .by_cases e:j=i
    .subst e;rw[g2]at hc;cases hc;exact g3 p (by omega) hn
    .exact g1.cl j c (by omega) hc p hp hn
   .show 301-(IntKind.wrap .i64 ((i:Int)+1)).toNat<301-(i:Int).toNat;rw[bK i (by omega)];omega
 .rw[show decide ((i:Int)<len out)=false from decide_eq_false (by show ¬(_<(out.l.length:Int));omega),bg,aj]
  obtain⟨r,hr,hp,hs⟩:=J7 (s:=out) (p:=jv) (f:=λx=>nH x.l) (λx y hx hy=>Ke (sm (hI.rch _ (sH.2 ⟨x,hx,rfl⟩))) (sm (hI.rch _ (sH.2 ⟨y,hy,rfl⟩)))) (by omega)
  show Wp ((uD out jv).bind _) _;rw[hr,ζb,aj];refine⟨rfl,?_⟩;have hpi:(ins r).Perm (ins out):=hp.map Sl.l;have hnd:(ins r).Nodup:=hpi.nodup_iff.2 hI.nd;refine zG ?_ hR.1 λx=>?_
  .have hs2:(ins r).Pairwise λx y=>¬iQ y x:=by unfold ins;rw[List.pairwise_map];exact hs
   exact(hs2.and hnd).imp λ{x y} h=>by
    by_cases k:iQ x y
    .exact k
    .exact absurd (iQ.tot k h.1) h.2
  .rw[hpi.mem_iff,hR.2.1];refine⟨hI.rch x,λh=>De hI.fst (λd hd p hp hn=>?_) h⟩
   obtain⟨j,hj,e⟩:=List.mem_iff_getElem.1 hd;exact hI.cl j d (by omega) (by rw[ζd hj,e]) p hp hn
end
theorem JK {a b:Sl (Sl Int)} (ha:a.l.length<1073741824) (hi:∀x∈a.l,x.l.length<1073741824):bt (di a b) (ins a=ins b):=by
 unfold di;have la:(ins a).length=a.l.length:=by unfold ins;simp
 have lb:(ins b).length=b.l.length:=by unfold ins;simp
 by_cases h:a.l.length=b.l.length
 .rw[show (len a==len b)=true from by simp[len,h],aX]
  unfold di.W1;refine(mL (n:=a.l.length) (P:=λi=>(ins a)[i]? = (ins b)[i]?) (λi hlt _=>?_) (λ_=>?_)).iff ⟨λk=>List.ext_getElem? λi=>?_,λk i _=>by rw[k]⟩
  .have hb:i<b.l.length:=by omega
   unfold di.aA;rw[jw hlt,aX,aJ hlt,ζb,aJ hb,ζb];refine sV ((HE (hi _ (List.getElem_mem hlt))).iff ?_) (bK i (by omega))
   unfold ins;rw[List.getElem?_map,List.getElem?_map,ζd hlt,ζd hb];simp
  .unfold di.aA;rw[kC,bg]
  .by_cases hlt:i<a.l.length
   .exact k i hlt
   .rw[List.getElem?_eq_none (by omega),List.getElem?_eq_none (by omega)]
 .rw[show (len a==len b)=false from by simp[len];omega,bg]
  refine fJ ⟨λk=>by simp at k,λk=>?_⟩
  rw[<-la,<-lb,k]at h;exact absurd rfl h
theorem Kc {t:Trace} {s:Slice} (hS:Small t) (hN:(aZ t).length<1073741824) (hF:Mh s):ku t s=some true:=by
 obtain⟨b,hb⟩:=On hS 14;obtain⟨d,hd,hL⟩:=KO hF;obtain⟨v,hv,hrv,hV⟩:=IX hS hN;unfold ku pY;rw[hb,hd];simp only[ζb,aX,gE]
 cases h:((!b)||(!d))with
 | true=>rfl
 | false=>
  simp only[Bool.or_eq_false_iff,Bool.not_eq_false']at h;have hL:=hL h.2;rw[bg];have bad:j_ t s=some false->bN t s=some false->∀k:Bool->Option Bool,(∀k2,k2=((iB t s).bind λx_15=>
   (j9 t s).bind λx_16=>
   (au ((len x_15.1)==0) (some (x_15.2==1)) (some false):Option Bool).bind λx_17=>
   (au x_17 (some (x_16.1==0)) (some false):Option Bool).bind λx_18=>
   (au x_18 (some (x_16.2==1)) (some false):Option Bool).bind λx_19=>some x_19)->k false=k2)->(bN t s).bind k=some true:=λh1 h2 k hk=>by
   rw[h2,ζb,hk _ rfl];have e:iB t s=some (.nil,1):=by unfold iB;rw[h1];rfl
   unfold j9;rw[e];rfl
  cases v with
  | false=>exact bad (GR hv) (Hv hrv) _ λk2 e=>by rw[e];rfl
  | true=>
   have hV:=hV rfl;obtain⟨A,i,hA,hM⟩:=hV.msgs;obtain⟨x,h1,h2,hx⟩:=bt.same (R7 hS hrv hV hM hL) (R_ hS hv hV hM hL)
   cases x with
   | false=>exact bad h2 h1 _ λk2 e=>by rw[e];rfl
   | true=>
    rw[h1,ζb,aX];have fin:∀(a c:Sl (Sl Int)),dg s 300=some (c,true)->fm s=some (a,true)->ins a=ins c->a.l.length<1073741824->(∀x∈a.l,x.l.length<1073741824) ->
     ((dg s 300).bind λx_8=>au x_8.2 ((iB t s).bind λx_9=>(j9 t s).bind λx_10=>(di x_9.1 x_8.1).bind λx_11=>
      (au x_11 (some (x_9.2==0)) (some false):Option Bool).bind λx_12=>(au x_12 (some (x_10.1==(len x_8.1))) (some false):Option Bool).bind λx_13=>(au x_13 (some (x_10.2==0)) (some false):Option Bool).bind λx_14=>some x_14) (some true))=some true:=λa c hc ha e hl hi=>by
     have e1:iB t s=some (a,0):=by unfold iB;rw[h2,ζb,aX,ha];rfl
     unfold j9;rw[hc,ζb,aX,e1];simp only[ζb];obtain⟨z,hz,hz2⟩:=bt.eq (JK (b:=c) hl hi);have:z=true:=hz2.2 e;subst this;have hll:len a=len c:=by
      have:=congrArg List.length e;unfold ins at this;simp at this;simp[len,this]
     rw[hz,ζb,hll];simp[aX]
    rcases hx.1 rfl with⟨he,hE⟩|⟨he,hE⟩
    .exact fin .nil .nil (by unfold dg;rw[he];rfl) (by unfold fm;rw[he];rfl) rfl (by simp[Sl.l]) (λx hx=>by simp[Sl.l]at hx)
    .obtain⟨⟨c,ok⟩,hc,hc2⟩:=LZ hS hV hE hL he
     cases ok with
     | false=>rw[hc];rfl
     | true=>
      have hR:=hc2 rfl;obtain⟨⟨a,ok⟩,ha,rfl,ha2⟩:=QH hS hV hE hL he hR;have hal:a.l.length=(ins a).length:=by unfold ins;simp
      have h8:=hV.few;have h3:(ins c).length<=300:=hR.2.2;refine fin a c hc ha ha2 (by rw[hal,show ins a=ins c from ha2];omega) λx hx=>?_
      have:=kK hE ((hR.2.1 x.l).1 (ha2▸sH.2 ⟨x,hx,rfl⟩));omega
end Go.VE
namespace Go.VE
theorem wI {α:Type} [bA α] {x:α}:∀{l:List α},x∈l->bA.wt x<=(l.map bA.wt).sum
 | y::l,h=>by
  simp only[List.map_cons,List.sum_cons];rcases List.mem_cons.1 h with rfl|h
  .omega
  .have:=wI h;omega
theorem rH {α:Type} [bA α] (h:∀x:α,1<=bA.wt x):∀(l:List α),l.length<=(l.map bA.wt).sum
 | []=>Nat.le_refl _
 | y::l=>by
  simp only[List.map_cons,List.sum_cons,List.length_cons];have:=rH h l;have:=h y;omega
theorem vP {α:Type} [bA α] (s:Sl α):bA.wt s=(s.l.map bA.wt).sum+1:=rfl
theorem yx (p:Int):∀(es:List Event) (j:Int),(fI p j es).length=es.length
 | [],_=>rfl
 | _::es,j=>by simp only[fI,List.length_cons,yx p es]
theorem Db:∀(ps:List bG) (i:Int),(dP i ps).length<=(ps.map bA.wt).sum
 | [],_=>Nat.le_refl _
 | p::ps,i=>by
  simp only[dP,ζi,yx,List.map_cons,List.sum_cons];have h1:=Db ps (i+1);have h2:=rH (α:=Event) (λx=>Nat.le_add_left ..) p.events.l
  have h3:bA.wt p=bA.wt p.name+bA.wt p.vars+bA.wt p.events+1:=rfl;have h4:=vP p.events;omega
theorem Mp {t:Trace} (h:bA.wt t<=1048576):Small t/\(aZ t).length<1073741824:=by
 have h0:bA.wt t=bA.wt t.procs+1:=rfl;have h1:=vP t.procs;have h2:=rH (α:=bG) (λx=>Nat.le_add_left ..) t.procs.l
 have h3:=Db t.procs.l 0;refine⟨⟨by omega,λp hp=>?_⟩,by show (dP 0 t.procs.l).length<_;omega⟩
 have h4:=wI hp;have h5:bA.wt p=bA.wt p.name+bA.wt p.vars+bA.wt p.events+1:=rfl;have h6:=vP p.events;have h7:=vP p.vars;have h8:=rH (α:=Event) (λx=>Nat.le_add_left ..) p.events.l
 have h9:=rH (α:=Var) (λx=>Nat.le_add_left ..) p.vars.l
 have h10:bA.wt p.name=p.name.size+1:=rfl;refine⟨by omega,by omega,by omega,λv hv=>?_,λe he=>?_⟩
 .have k1:=wI hv;have k2:bA.wt v=bA.wt v.name+bA.wt v.init_+1:=rfl;have k3:bA.wt v.name=v.name.size+1:=rfl;omega
 .have k1:=wI he;have k2:bA.wt e=bA.wt e.kind+bA.wt e.peer+bA.wt e.message+bA.wt e.time+bA.wt e.assign+1:=rfl;have k3:=vP e.assign;have k4:=rH (α:=Assign) (λx=>Nat.le_add_left ..) e.assign.l
  omega
theorem fits {s:Slice} (h:bA.wt s<=1048576):Mh s:=by
 have h0:bA.wt s=bA.wt s.empty+bA.wt s.first+bA.wt s.last+bA.wt s.j+1:=rfl
 have h1:=vP s.j;have h2:=rH (α:=Sl (Sl Int)) (λx=>Nat.le_add_left ..) s.j.l
 refine⟨by omega,λr hr=>?_⟩
 have h3:=wI hr;have h4:=vP r;have h5:=rH (α:=Sl Int) (λx=>Nat.le_add_left ..) r.l
 omega
end Go.VE
namespace Go.Proofs.YtjbnbbbiijdbpaaGreatDoor
open Go.ChangeShapes Go.WideShapes Go.ChangeAt Go.RowKit Go.VE
theorem own:ownKnob Tryz.prog.godebug=none:=by kernel_rfl
theorem kids:Kids Tryz.prog (·<Tryz.prog.types.size):=kids_rows (by kernel_rfl) (by kernel_rfl)
theorem full:∀t e,t<Tryz.prog.types.size->Tryz.prog.underlying t=some (.slice e)->0<Tryz.prog.cellsOf e:=slices_full_of Tryz.prog (by kernel_rfl)
theorem uW {H:Type}:∀l:List (DataW H),Rows.uptoBulkAll l=(l.map Rows.uptoBulk).sum
 | []=>by simp[Rows.uptoBulkAll]
 | d::r=>by simp[Rows.uptoBulkAll,uW r]
theorem IN {H:Type}:th (H:=H) Rows.uptoBulk where
 lit l:=by cases l <;> simp[Rows.uptoBulk]
 str s:=by simp[Rows.uptoBulk]
 nil:=by simp[Rows.uptoBulk]
 slice es sp:=by rw[Rows.uptoBulk,uW,uW];omega
 agg ps:=by rw[Rows.uptoBulk,uW];exact Nat.le_refl _
theorem GJ:Tryz.prog.globalNamed "antecede/predtype.parts" = some 0:=by kernel_rfl
theorem L6:(Tryz.prog.globals[0]?).map (·.type)=some 223:=by kernel_rfl
theorem table {W:World} (h:laidMetH Tryz.prog Rows.sliceListsUptoRow.laid W):Lib.TabIs Tryz.prog W "antecede/predtype.parts" .i64 Ct:=
 Lib.tabIs_of_head (rest:=[]) GJ L6 Tryz.underlying223 Tryz.underlying3 (by kernel_rfl) (by kernel_rfl) h
theorem Xt {W:World} (h:laidMetH Tryz.prog Rows.sliceListsUptoRow.laid W):qW (snap W):=λg cs hg=>by
 change (if Nat.beq g 0 then some (Ct.map (V.int .i64))else none)=some cs at hg;split at hg
 .rename_i hb;cases hg;have:g=0:=Nat.eq_of_beq_eq_true hb;subst this;exact Kw (λi hi=>(table h).cell GJ i hi) (by decide)
 .cases hg
set_option maxRecDepth 100000 in
theorem Eo (H:Type) (enc:TypeId×Value->H) (W:World) (base:Nat) (args:Array Value) (ds gs:List (DataW H)) (before:List MemPlace)
 (hval:∀(j:Nat) t v,Tryz.f3.params[j]? = some t->args[j]? = some v->Value.okWide Tryz.prog W .any base t v)
 (hW:DataW.Whole enc Tryz.prog Tryz.f3.params.toList Rows.sliceListsSpec.vars false W args.toList ds gs before) (hk:Rows.uptoSmall H (ds++gs)=true) (hL:laidMetH Tryz.prog Rows.sliceListsUptoRow.laid W) :
 Calls Tryz.prog 3 args W λe W'=>∃v,e=.returned v/\Rows.sliceListsSpec.post enc Tryz.prog Tryz.f3 false true false false W args v W':=by
 have hW':=hW;obtain⟨p,q,hA0,hV,rfl,hfz,hnd⟩:=hW;have hA:DataW.TrodAll enc Tryz.prog W 0 (λ_=>true) true Tryz.f3.params.toList args.toList ds p:=hA0
 rw[Tryz.params3]at hA hval;obtain⟨v0,vs0,d0,ds0,p0,q0,hargs,rfl,rfl,h0,r0⟩:=trodAll_cons hA;obtain⟨v1,vs1,d1,ds1,p1,q1,rfl,rfl,rfl,h1,r1⟩:=trodAll_cons r0;obtain⟨rfl,rfl,rfl⟩:=trodAll_nil r1;obtain rfl:args=#[v0,v1]:=by cases args;simp_all
 obtain⟨rfl,rfl⟩:=trodVars_none hV;obtain⟨a0,w0,k0,b0⟩:=Reads.Nn (t:=24) (α:=VE.Trace) hval 0 rfl rfl h0;obtain⟨a1,w1,k1,b1⟩:=Reads.Nn (t:=28) (α:=VE.Slice) hval 1 rfl rfl h1;have hb:bA.wt a0+bA.wt a1<=1048576:=by
  have c0:=b0 Rows.uptoBulk IN;have c1:=b1 Rows.uptoBulk IN;have h7:Rows.uptoBulkAll ([d0,d1]++[])<=1048576:=of_decide_eq_true hk;rw[uW]at h7;simp only[List.append_nil,List.map_cons,List.map_nil,List.sum_cons,List.sum_nil]at h7;omega
 obtain⟨hS,hN⟩:=Mp (t:=a0) (by omega)
 have hc:jT cL 3 [VE.enc a0,VE.enc a1]=some [.bool true]:=by
  have hl:(ku a0 a1).bind (λr:Bool=>some [V.bool r])=some [.bool true]:=by rw[Kc hS hN (fits (s:=a1) (by omega))];rfl
  exact(v_ a0 a1).F.h () _ hl
 have:=G_ (P:=Tryz.prog) HD Bp calls (f:=3) (xs:=[VE.enc a0,VE.enc a1]) (by simp[V.bF,V.good,jF]) hc (w:=W) (args:=#[v0,v1]) (Xt hL) (bC.cons w0 (bC.cons w1 .nil))
 refine this.mono λe W' ⟨he,hg⟩=>?_
 subst he;exact⟨_,rfl,Jk kids full (by rw[Tryz.params3];decide) rfl rfl rfl Tryz.underlying4 hW' hg⟩
noncomputable def wg (os:Os):World:=
 { World.holding Tryz.prog os ⟨#[],#[],[]⟩with heap:=(World.holding Tryz.prog os ⟨#[],#[],[]⟩).heap.modify 0 fun
  | .cells _ t frozen=>.cells (Ct.map (Value.int .i64)).toArray t frozen
  | o=>o }
theorem LB (os:Os):laidMet Tryz.prog Rows.sliceListsUptoRow.laid ((wg os).forCall (λ_ _=>0) ⟨#[],#[.agg #[.slice none 0 0],.agg #[.bool false,.slice none 0 0,.slice none 0 0,.slice none 0 0]],[]⟩).memory:=
 laidMet_of_run' 8 (by kernel_rfl) (by kernel_rfl)
theorem Lr (os:Os) {H:Type} (enc:TypeId×Value->H):∃places,DataW.whole enc Tryz.prog ((wg os).forCall (λ_ _=>0) ⟨#[],#[.agg #[.slice none 0 0],.agg #[.bool false,.slice none 0 0,.slice none 0 0,.slice none 0 0]],[]⟩).memory Tryz.f3.params.toList Rows.sliceListsSpec.vars false (#[.agg #[.slice none 0 0],.agg #[.bool false,.slice none 0 0,.slice none 0 0,.slice none 0 0]]:Array Value).toList 8=some ([.agg [.nil],.agg [.lit (.bool false),.nil,.nil,.nil]],[],places):=
 ⟨[],by kernel_rfl⟩
set_option maxRecDepth 100000 in
theorem IY (os:Os) (started:os.Started) (H:Type) (enc:TypeId×Value->H) (F:Stop.Interp) :
 ReturnsInHanded {} Tryz.checked os 3 .any ((Rows.OpenSpec.upto Rows.sliceListsSpec).preRow enc Tryz.prog Tryz.f3 Rows.sliceListsUptoRow.domain false Rows.sliceListsUptoRow.laid) (((Rows.OpenSpec.upto Rows.sliceListsSpec).at F).post enc Tryz.prog Tryz.f3 false true false false):=by
 obtain⟨places,hx⟩:=Lr os enc;refine returnsInHanded_of_row (C:=Tryz.checked) (s:=Rows.OpenSpec.upto Rows.sliceListsSpec) own started (by kernel_rfl) Tryz.func3
  (witness_row_at (enc:=enc) (C:=Tryz.checked) false (wg os) #[.agg #[.slice none 0 0],.agg #[.bool false,.slice none 0 0,.slice none 0 0,.slice none 0 0]] rfl (by kernel_rfl) (by kernel_rfl) (by kernel_rfl)
   (OpenSpec.preRow_of_cond 8 hx (by kernel_rfl) (λk hk=>by cases hk;kernel_rfl) (by kernel_rfl) (LB os))) ?_
 intro W base args ds gs before hval hW _ hcond _ hL _ _;exact Eo H enc W base args ds gs before hval hW (hcond _ rfl) hL
theorem NR:Rows.SliceListsUptoSaid:=
 OpenClaim.holds_of_cond 3 Tryz.f3 rfl rfl rfl rfl rfl rfl rfl ⟨rfl,rfl,rfl,rfl,rfl⟩ rfl rfl rfl rfl rfl (by kernel_rfl) Tryz.func3 (by kernel_rfl)
  (of_decide_eq_true (by kernel_rfl)) (by unfold Func.isWrapper;first|(rw[if_pos (by decide +kernel)];kernel_rfl)|(rw[if_neg (by decide +kernel)];exact⟨rfl,rfl⟩))
  (λos started H enc _ F=>by rw[OpenClaim.pre_eq_preRow];exact IY os started H enc F)
theorem KE (f:FuncId) (fn:Func) (hf:Tryz.pinned.checked.prog.funcNamed "antecede/antecedelaw34.SliceLists" = some f) (hfn:Tryz.pinned.checked.prog.funcs[f]? = some fn) :
 false=Tryz.pinned.checked.prog.looks []/\∀(j:Nat) t,fn.params[j]? = some t->Tryz.pinned.checked.prog.wantsStandIn t=false:=by
 obtain rfl:f=3:=Option.some.inj ((show Tryz.prog.funcNamed "antecede/antecedelaw34.SliceLists" = some 3 by kernel_rfl).symm.trans hf) |>.symm
 obtain rfl:fn=Tryz.f3:=(Option.some.inj (Tryz.func3.symm.trans hfn)).symm;refine⟨by kernel_rfl,λj t ht=>?_⟩
 rw[Tryz.params3]at ht;have hm:t∈[24,28]:=by simpa using Array.mem_of_getElem? ht
 have hall:([24,28].all λu => !Tryz.prog.wantsStandIn u)=true:=by kernel_rfl
 exact(show Tryz.prog.wantsStandIn t=false by simpa using List.all_eq_true.1 hall t hm)
theorem sliceListsProved:Rows.SliceListsUptoCardSaid:=
 Claim7.holds_tied_plain_at .later [] _ _ _ _ NR (λ_ h=>by cases h) (by kernel_rfl) (λ_ h=>by cases h) sliceListsUpto_row_tie rfl ⟨rfl,rfl⟩ (by kernel_rfl) rfl KE (by kernel_rfl)
#print axioms sliceListsProved
end Go.Proofs.YtjbnbbbiijdbpaaGreatDoor
